/-
  Texts of the proof, part 2 of 6: what is used to prove the statement. No condition.
-/
import Derived.Test.YtiaemgcbndhkfaaGreatDoorEpochRefusesQ0
namespace Go.Proofs.YtiaemgcbndhkfaaGreatDoor.AI
open Go.RowKit
set_option maxRecDepth 100000
set_option maxHeartbeats 4000000
set_option linter.unusedVariables false
set_option linter.unusedSimpArgs false
open _root_.Bool renaming true→M,false→aa
open _root_.Int renaming ofNat_eq_natCast→aj,reduceEq→aN,toNat→aO,reduceNeg→aR,ofNat→aT,toNat_natCast→cW,le_trans→eT,max_le→xg
open _root_.List renaming length→ah,replicate→aA,length_cons→ch,length_singleton→c9,take→dj,range→gx,cons_append→ia,length_nil→j6,take_succ_cons→vb,getElem_of_mem→ve,foldl_cons→EB,mem_or_eq_of_mem_set→LJ
open _root_.Nat renaming beq→ax,blt→eQ
open _root_.Option renaming some→Z,none→U,map_some→bW,getD_some→uo
open _root_.Prod renaming p2→aX,p3→bh,p4→bm,q3→bp,p5→bT,q5→cD,q4→cI,p6→cX,q6→dC,q7→gd,p7→gN,q8→lz,p8→rn,p10→ua,p9→um,p11→yZ,q10→De,q9→GW,q11→Kj,p12→Kk
open _root_.Sum renaming inr→bZ,inl→pM
noncomputable section
abbrev Kd0:Ty:=(.st (.pr uZ (.pr uZ (.pr uZ (.pr uZ (.pr uZ (.pr uZ (.pr (.sl aL) (.pr uZ (.sl aL))))))))))
abbrev Kd1:Ty:=(.st (.pr .bool .bool))
abbrev Yd0:=((Y η)×(Y η)×(Y η)×(Y η)×(Y η)×(Y η)×(η)×(Y η)×η)
abbrev Yd1:=(η×(Y η)×(Y η)×(Y η)×(Y η)×(Y η)×(Y η)×(Y η)×(η)×η)
abbrev X6:=(Int×(θ)×Y dJ)
abbrev Yd3:=(Int×iK×(θ)×Y dJ)
abbrev Yd4:=(Int×ny×my×(Y jD)×di×di×Y ν)
abbrev Yd5:=(fc×Int×Int×Int×Int×Int×(η)×η)
def LU {α R:Type} [DecidableEq α] (a b:α) (r:J R):J R:=if a=b then r else U
theorem O1 {α R:Type} [DecidableEq α] (a b:α) (r:J R):LU a b r=same a b r:=by unfold LU same;by_cases h:a=b<;>simp[h]
theorem O0 {α R:Type} [DecidableEq α] {a b:α} (h:a=b) (r:J R):LU a b r=r:=by unfold LU;rw[aW h]
def fy (x:η×Int):J (Int):=
 (jn (bA x.2 0 (aB M) (aB (cO (aY x.1) x.2))) λx1=>(aF x1 (Z 0) (mq x.2 x.1 (Z (aH (T:=aL) x.1 x.2)))))
def uG (it:zE) (x:η×η):J η:=
 (bt (cO 0 (gJ (aY x.1) (aY x.2))&&cO (gJ (aY x.1) (aY x.2)) (gJ (aY x.1) (aY x.2))&&be (aO (gJ (aY x.1) (aY x.2))) 8) (it (Int×η) _ (λx1=>(bA x1.1 (aT (ah (aA (aO (gJ (aY x.1) (aY x.2))) (0:Int)))) (av (fy (x.1,x1.1)) λq=>(av (fy (x.2,x1.1)) λd=>(ck (eZ x1.1 (ah x1.2)) (cM ((cw x1.1),(ct x1.2 x1.1 (gJ q d))))))) (aB x1.2))) (0,(aA (aO (gJ (aY x.1) (aY x.2))) (0:Int)))))
def yd (x:η×η):J η:=uG @iter x
def lx (x:η×η):J η:=uG @gp x
def G7 (x:η×Int):J (Int):=
 (jn (bA x.2 0 (aB M) (aB (cO (aY x.1) x.2))) λx1=>(aF x1 (Z 0) (mq x.2 x.1 (Z (aH (T:=aL) x.1 x.2)))))
def Ng (x:η):J η:=
 (aF (ax (ah x) 0) (Em (Z ([]:η)) (bt (be (ah ([]:η)+ah x) 8) (Z (([]:η)++x)))) (bt (be (ah ([]:η)+ah x) 8) (Z (([]:η)++x))))
def Bc (x:η):J η:=chk (be (ah x) 8) λ_=>Z x
def wI (it:zE) (x:Y η):J (Y η):=
 (bt (cO 0 (aY x)&&cO (aY x) (aY x)&&be (aO (aY x)) 24) (it (Int×Y η) _ (λx1=>(bA x1.1 (aY x) (mq x1.1 x (av (Bc (aH (T:=(.sl aL)) x x1.1)) λd=>(ck (eZ x1.1 (ah x1.2)) (cM ((cw x1.1),(ct x1.2 x1.1 d)))))) (aB x1.2))) (0,(aA (aO (aY x)) ([]:η)))))
def AY (x:Y η):J (Y η):=wI @iter x
def ip (x:Y η):J (Y η):=wI @gp x
def H6 (x:η):J η:=
 (aF (ax (ah x) 0) (Em (Z ([]:η)) (bt (be (ah ([]:η)+ah x) 8) (Z (([]:η)++x)))) (bt (be (ah ([]:η)+ah x) 8) (Z (([]:η)++x))))
def gh (x:η):J η:=chk (be (ah x) 8) λ_=>Z x
def tI (x:(Y η)×(Y η)×(Y η)×(Y η)×(Y η)×(Y η)×(η)×(Y η)×η):J (η×(Y η)×(Y η)×(Y η)×(Y η)×(Y η)×(Y η)×(Y η)×η):=
 (av (ip x.1) λL=>(av (ip x.2.1) λI=>(av (ip x.p2) λF=>(av (ip x.p3) λD=>(av (ip x.p4) λA=>(av (ip x.p5) λz=>(av (gh x.p6) λs=>(av (ip x.p7) λq=>(av (gh x.q8) λd=>(Z (s,L,I,F,D,A,z,q,d)))))))))))
def s7 (x:Int×Y η):J (η×Y η):=
 (jn (bA x.1 0 (aB (M,x.2)) (aB ((cO (aY x.2) x.1),x.2))) λx1=>(aF x1.1 (Z (([]:η),x1.2)) (ck (eZ x.1 (ah x1.2)) (Z ((aH (T:=(.sl aL)) x1.2 x.1),x1.2)))))
def tJ (x:jY×(η)×fc×(Y η)×(Y η)×(Y η)×(Y η)×(Y η)×(Y η)×(Y η)×η):J ((Y η)×jY×(η)×fc×(Y η)×(Y η)×(Y η)×(Y η)×(Y η)×(Y η)×(Y η)×η):=
 (bg x.1.2.1 1 (ck (eZ x.1.1 (ah x.p4)) (Z ([(aH (T:=(.sl aL)) x.p4 x.1.1)],(x.1.1,x.1.2.1,x.1.p2,x.1.p3,x.1.p4,x.1.p5,x.1.q6),x.2.1,(x.p2.1,x.p2.2.1,x.p2.p2,x.p2.p3,x.p2.p4,x.p2.q5),x.p3,x.p4,x.p5,x.p6,x.p7,x.p8,x.p9,x.q10))) (bg x.1.2.1 21 (ck (eZ x.1.p2 (ah x.p3)) (Z ([(aH (T:=(.sl aL)) x.p3 x.1.p2)],(x.1.1,x.1.2.1,x.1.p2,x.1.p3,x.1.p4,x.1.p5,x.1.q6),x.2.1,(x.p2.1,x.p2.2.1,x.p2.p2,x.p2.p3,x.p2.p4,x.p2.q5),x.p3,x.p4,x.p5,x.p6,x.p7,x.p8,x.p9,x.q10))) (jn (bg x.1.2.1 6 (aB ((decide ((x.1.2.1:Int)=6)),(x.1.1,x.1.2.1,x.1.p2,x.1.p3,x.1.p4,x.1.p5,x.1.q6),x.2.1,(x.p2.1,x.p2.2.1,x.p2.p2,x.p2.p3,x.p2.p4,x.p2.q5),x.p3,x.p4,x.p5,x.p6,x.p7,x.p8,x.p9,x.q10)) (aB ((decide ((x.1.2.1:Int)=10)),(x.1.1,x.1.2.1,x.1.p2,x.1.p3,x.1.p4,x.1.p5,x.1.q6),x.2.1,(x.p2.1,x.p2.2.1,x.p2.p2,x.p2.p3,x.p2.p4,x.p2.q5),x.p3,x.p4,x.p5,x.p6,x.p7,x.p8,x.p9,x.q10))) λx1=>(aF x1.1 (ck (eZ x1.2.1.p2 (ah x1.p6)) (ck (eZ x1.2.1.p2 (ah x1.p7)) (Z ([(aH (T:=(.sl aL)) x1.p6 x1.2.1.p2),(aH (T:=(.sl aL)) x1.p7 x1.2.1.p2)],(x1.2.1.1,x1.2.1.2.1,x1.2.1.p2,x1.2.1.p3,x1.2.1.p4,x1.2.1.p5,x1.2.1.q6),x1.p2,(x1.p3.1,x1.p3.2.1,x1.p3.p2,x1.p3.p3,x1.p3.p4,x1.p3.q5),x1.p4,x1.p5,x1.p6,x1.p7,x1.p8,x1.p9,x1.p10,x1.q11)))) (bg x.1.2.1 8 (ck (eZ x1.2.1.p2 (ah x1.p6)) (Z ([(aH (T:=(.sl aL)) x1.p6 x1.2.1.p2)],(x1.2.1.1,x1.2.1.2.1,x1.2.1.p2,x1.2.1.p3,x1.2.1.p4,x1.2.1.p5,x1.2.1.q6),x1.p2,(x1.p3.1,x1.p3.2.1,x1.p3.p2,x1.p3.p3,x1.p3.p4,x1.p3.q5),x1.p4,x1.p5,x1.p6,x1.p7,x1.p8,x1.p9,x1.p10,x1.q11))) (bg x.1.2.1 17 (mq x1.2.1.p2 x1.p3.p2 (av (s7 ((aH (T:=lZ) x1.p3.p2 x1.2.1.p2).2,x1.p6)) λq=>(bt (ax (ah x1.p6) (ah q.2)&&M) (av (s7 ((aH (T:=lZ) x1.p3.p2 x1.2.1.p2).2,x1.p7)) λd=>(bt (ax (ah x1.p7) (ah d.2)&&M) (ck (eZ x1.2.1.1 (ah x1.p10)) (Z ([q.1,d.1,(aH (T:=(.sl aL)) x1.p10 x1.2.1.1)],(x1.2.1.1,x1.2.1.2.1,x1.2.1.p2,x1.2.1.p3,x1.2.1.p4,x1.2.1.p5,x1.2.1.q6),x1.p2,(x1.p3.1,x1.p3.2.1,x1.p3.p2,x1.p3.p3,x1.p3.p4,x1.p3.q5),x1.p4,x1.p5,q.2,d.2,x1.p8,x1.p9,x1.p10,x1.q11)))))))) (bg x.1.2.1 3 (ck (eZ x1.2.1.p2 (ah x1.p8)) (Z ([(aH (T:=(.sl aL)) x1.p8 x1.2.1.p2)],(x1.2.1.1,x1.2.1.2.1,x1.2.1.p2,x1.2.1.p3,x1.2.1.p4,x1.2.1.p5,x1.2.1.q6),x1.p2,(x1.p3.1,x1.p3.2.1,x1.p3.p2,x1.p3.p3,x1.p3.p4,x1.p3.q5),x1.p4,x1.p5,x1.p6,x1.p7,x1.p8,x1.p9,x1.p10,x1.q11))) (bg x.1.2.1 23 (ck (eZ x1.2.1.p2 (ah x1.p9)) (Z ([(aH (T:=(.sl aL)) x1.p9 x1.2.1.p2)],(x1.2.1.1,x1.2.1.2.1,x1.2.1.p2,x1.2.1.p3,x1.2.1.p4,x1.2.1.p5,x1.2.1.q6),x1.p2,(x1.p3.1,x1.p3.2.1,x1.p3.p2,x1.p3.p3,x1.p3.p4,x1.p3.q5),x1.p4,x1.p5,x1.p6,x1.p7,x1.p8,x1.p9,x1.p10,x1.q11))) (bg x.1.2.1 12 (Z ([x1.p2],(x1.2.1.1,x1.2.1.2.1,x1.2.1.p2,x1.2.1.p3,x1.2.1.p4,x1.2.1.p5,x1.2.1.q6),x1.p2,(x1.p3.1,x1.p3.2.1,x1.p3.p2,x1.p3.p3,x1.p3.p4,x1.p3.q5),x1.p4,x1.p5,x1.p6,x1.p7,x1.p8,x1.p9,x1.p10,x1.q11)) (Z (([]:Y η),(x1.2.1.1,x1.2.1.2.1,x1.2.1.p2,x1.2.1.p3,x1.2.1.p4,x1.2.1.p5,x1.2.1.q6),x1.p2,(x1.p3.1,x1.p3.2.1,x1.p3.p2,x1.p3.p3,x1.p3.p4,x1.p3.q5),x1.p4,x1.p5,x1.p6,x1.p7,x1.p8,x1.p9,x1.p10,x1.q11)))))))))))
def zw (it:zE) (x:ny×my×(Y jD)×di×di×Y ν):J Yd0:=
 (ck (cO 0 (aY x.p4)&&cO (aY x.p4) (aY x.p4)&&be (aO (aY x.p4)) 24) (ck (cO 0 (aY x.2.1)&&cO (aY x.2.1) (aY x.2.1)&&be (aO (aY x.2.1)) 24) (bt (cO 0 (aY x.1)&&cO (aY x.1) (aY x.1)&&be (aO (aY x.1)) 24) (bt (cO 0 (aY x.p3)&&cO (aY x.p3) (aY x.p3)&&be (aO (aY x.p3)) 24) (bt (cO 0 (aY x.p4)&&cO (aY x.p4) (aY x.p4)&&be (aO (aY x.p4)) 24) (bt (cO 0 (aY x.p4)&&cO (aY x.p4) (aY x.p4)&&be (aO (aY x.p4)) 8) (it (Int×(Y η)×(Y η)×(Y η)×(Y η)×(Y η)×(Y η)×(Y η)×η) _ (λx1=>(bA x1.1 (aT (ah (aA (aO (aY x.p4)) (0:Int)))) (ck (eZ x1.1 (ah x1.q8)) (cM ((cw x1.1),x1.2.1,x1.p2,x1.p3,x1.p4,x1.p5,x1.p6,x1.p7,(ct x1.q8 x1.1 (-1))))) (aB (x1.2.1,x1.p2,x1.p3,x1.p4,x1.p5,x1.p6,([]:η),x1.p7,x1.q8)))) (0,(aA (aO (aY x.p4)) ([]:η)),(aA (aO (aY x.p4)) ([]:η)),(aA (aO (aY x.2.1)) ([]:η)),(aA (aO (aY x.2.1)) ([]:η)),(aA (aO (aY x.1)) ([]:η)),(aA (aO (aY x.p3)) ([]:η)),(aA (aO (aY x.p4)) ([]:η)),(aA (aO (aY x.p4)) (0:Int))))))))))
def Dx (x:ny×my×(Y jD)×di×di×Y ν):J Yd0:=zw @iter x
def pB (x:ny×my×(Y jD)×di×di×Y ν):J Yd0:=zw @gp x
def rY (x:η×Int):J η:=
 (jn (ji 0 x.2 (aB (fE x.2 4)) (aB aa)) λx1=>(jn (aF x1 (aB (gJ (aY x.1) (cw x.2))) (aB (aY x.1))) λx2=>(bt (cO 0 x2&&cO x2 x2&&be (aO x2) 8) (jn (jn (aF x1 (ck (eZ x.2 (ah (Lm (aA (aO x2) (0:Int)) x.1))) (aB ((fE (aH (T:=aL) (Lm (aA (aO x2) (0:Int)) x.1) x.2) 9223372036854775807),(Lm (aA (aO x2) (0:Int)) x.1)))) (aB (aa,(Lm (aA (aO x2) (0:Int)) x.1)))) λd=>(aF d.1 (ck (eZ x.2 (ah d.2)) (ck (eZ x.2 (ah d.2)) (aB (ct d.2 x.2 (ba .i64 ((aH (T:=aL) d.2 x.2)+1)))))) (aB d.2))) λq=>(Z q)))))
def vB (x:η):J (η×η):=
 (bt (be (ah ([]:η)+ah x) 8) (Z ((([]:η)++x),x)))
def uz (x:η):J η:=av (vB x) λy=>LU y.2 x (Z y.1)
def Hf (it:zE) (x:η×η):J (η×η):=
 (bt (cO 0 (gJ (aY x.1) (aY x.2))&&cO (gJ (aY x.1) (aY x.2)) (gJ (aY x.1) (aY x.2))&&be (aO (gJ (aY x.1) (aY x.2))) 8) (it (Int×(η)×η) _ (λx1=>(bA x1.1 (aT (ah (aA (aO (gJ (aY x.1) (aY x.2))) (0:Int)))) (av (fy (x.1,x1.1)) λq=>(av (fy (x1.2.1,x1.1)) λd=>(ck (eZ x1.1 (ah x1.2.2)) (cM ((cw x1.1),x1.2.1,(ct x1.2.2 x1.1 (gJ q d))))))) (aB (x1.2.2,x1.2.1)))) (0,x.2,(aA (aO (gJ (aY x.1) (aY x.2))) (0:Int)))))
def Nd (x:η×η):J (η×η):=Hf @iter x
def sR (x:η×η):J (η×η):=Hf @gp x
def Bb (x:η×η):J η:=av (sR x) λy=>LU y.2 x.2 (Z y.1)
def lM (x:Int×(Y η)×η):J ((Y η)×η):=
 (jn (ji 0 x.1 (aB ((fE x.1 (aY x.2.1)),x.2.1,x.2.2)) (aB (aa,x.2.1,x.2.2))) λx1=>(aF x1.1 (ck (eZ x.1 (ah x1.2.1)) (av (Bb ((aH (T:=(.sl aL)) x1.2.1 x.1),x1.2.2)) λd=>(ck (eZ x.1 (ah x1.2.1)) (Z ((ct x1.2.1 x.1 d),x1.2.2))))) (Z (x1.2.1,x1.2.2))))
def vz (x:Int×(η)×(Y η)×(Y η)×(Y η)×(Y η)×(Y η)×(Y η)×(Y η)×(η)×η):J Yd1:=
 (av (uz x.q10) λd=>(ck (eZ x.1 (ah x.p8)) (ck (eZ x.1 (ah x.p9)) (Z (x.2.1,x.p2,x.p3,x.p4,x.p5,x.p6,x.p7,(ct x.p8 x.1 d),(ct x.p9 x.1 (-1)),x.q10)))))
def zu (it:zE) (x:Yd5×(η)×(Y η)×(Y η)×(Y η)×(Y η)×(Y η)×(Y η)×(Y η)×(η)×η):J Yd1:=
 (av (uz x.q10) λy1=>(ck (eZ x.1.2.1 (ah x.p2)) (jn (α:=(η)×(Y η)×(Y η)×(Y η)×(Y η)×(Y η)×(Y η)×(Y η)×(η)×η) (bg x.1.p2 20 (av (uz x.q10) λy3=>(ck (eZ x.1.p3 (ah x.p3)) (aB (x.2.1,(ct x.p2 x.1.2.1 y1),(ct x.p3 x.1.p3 y3),x.p4,x.p5,x.p6,x.p7,x.p8,x.p9,x.q10)))) (jn (bg x.1.p2 7 (aB ((decide ((x.1.p2:Int)=7)),x.2.1,(ct x.p2 x.1.2.1 y1),x.p3,x.p4,x.p5,x.p6,x.p7,x.p8,x.p9,x.q10,(x.1.1.1,x.1.1.2.1,x.1.1.p2,x.1.1.p3,x.1.1.p4,x.1.1.q5),x.1.2.1,x.1.p2,x.1.p3,x.1.p4,x.1.p5,x.1.p6,x.1.q7)) (aB ((decide ((x.1.p2:Int)=11)),x.2.1,(ct x.p2 x.1.2.1 y1),x.p3,x.p4,x.p5,x.p6,x.p7,x.p8,x.p9,x.q10,(x.1.1.1,x.1.1.2.1,x.1.1.p2,x.1.1.p3,x.1.1.p4,x.1.1.q5),x.1.2.1,x.1.p2,x.1.p3,x.1.p4,x.1.p5,x.1.p6,x.1.q7))) λd=>(aF d.1 (av (lM (d.p14,d.p4,d.p10)) λy5=>(bt (ax (ah d.p10) (ah y5.2)&&(ax (ah d.p4) (ah y5.1)&&M)) (aB (d.2.1,d.p2,d.p3,y5.1,d.p5,d.p6,d.p7,d.p8,d.p9,y5.2)))) (bg x.1.p2 9 (av (lM (d.p14,d.p5,d.p10)) λy6=>(bt (ax (ah d.p10) (ah y6.2)&&(ax (ah d.p5) (ah y6.1)&&M)) (aB (d.2.1,d.p2,d.p3,d.p4,y6.1,d.p6,d.p7,d.p8,d.p9,y6.2)))) (bg x.1.p2 16 (ck (eZ d.p12 (ah d.p9)) (mq d.p14 d.p11.p2 (av (lM ((aH (T:=lZ) d.p11.p2 d.p14).2,d.p4,d.p10)) λL=>(bt (ax (ah d.p10) (ah L.2)&&(ax (ah d.p4) (ah L.1)&&M)) (aB (d.2.1,d.p2,d.p3,L.1,d.p5,d.p6,d.p7,d.p8,(ct d.p9 d.p12 d.p14),L.2)))))) (bg x.1.p2 4 (mq d.p14 d.p11.1 (aF (((((aH (T:=kJ) d.p11.1 d.p14).2).2).2).1) (av (lM (d.p14,d.p6,d.p10)) λI=>(bt (ax (ah d.p10) (ah I.2)&&(ax (ah d.p6) (ah I.1)&&M)) (aB (d.2.1,d.p2,d.p3,d.p4,d.p5,I.1,d.p7,d.p8,d.p9,I.2)))) (aB (d.2.1,d.p2,d.p3,d.p4,d.p5,d.p6,d.p7,d.p8,d.p9,d.p10)))) (bg x.1.p2 22 (av (lM (d.p14,d.p7,d.p10)) λF=>(bt (ax (ah d.p10) (ah F.2)&&(ax (ah d.p7) (ah F.1)&&M)) (aB (d.2.1,d.p2,d.p3,d.p4,d.p5,d.p6,F.1,d.p8,d.p9,F.2)))) (bg x.1.p2 13 (av (Bb (d.2.1,d.p10)) λy10=>(aB (y10,d.p2,d.p3,d.p4,d.p5,d.p6,d.p7,d.p8,d.p9,d.p10))) (bg x.1.p2 18 (jn (ji 0 d.p15 (aB ((fE d.p15 (aY d.p8)),d.2.1,d.p2,d.p3,d.p4,d.p5,d.p6,d.p7,d.p8,d.p9,d.p10,d.p12,d.p13,d.p14,d.p15,d.p16,d.p17,d.q18)) (aB (aa,d.2.1,d.p2,d.p3,d.p4,d.p5,d.p6,d.p7,d.p8,d.p9,d.p10,d.p12,d.p13,d.p14,d.p15,d.p16,d.p17,d.q18))) λs=>(aF s.1 (av (vz (s.p14,s.2.1,s.p2,s.p3,s.p4,s.p5,s.p6,s.p7,s.p8,s.p9,s.p10)) λA=>(bt (ax (ah s.p10) (ah A.q9)&&(ax (ah s.p9) (ah A.p8)&&(ax (ah s.p8) (ah A.p7)&&(ax (ah s.p7) (ah A.p6)&&(ax (ah s.p6) (ah A.p5)&&(ax (ah s.p5) (ah A.p4)&&(ax (ah s.p4) (ah A.p3)&&(ax (ah s.p3) (ah A.p2)&&(ax (ah s.p2) (ah A.2.1)&&M))))))))) (aB (A.1,A.2.1,A.p2,A.p3,A.p4,A.p5,A.p6,A.p7,A.p8,A.q9)))) (aB (s.2.1,s.p2,s.p3,s.p4,s.p5,s.p6,s.p7,s.p8,s.p9,s.p10)))) (bg x.1.p2 19 (it (Int×(η)×(Y η)×(Y η)×(Y η)×(Y η)×(Y η)×(Y η)×(Y η)×(η)×(η)×Int×Int×Int×Int×Int×(η)×η) _ (λq=>(bA q.1 (aY d.p9) (jn (ck (eZ q.1 (ah q.p9)) (bg (aH (T:=aL) q.p9 q.1) q.p13 (av (vz (q.1,q.2.1,q.p2,q.p3,q.p4,q.p5,q.p6,q.p7,q.p8,q.p9,q.p10)) λz=>(bt (ax (ah q.p10) (ah z.q9)&&(ax (ah q.p9) (ah z.p8)&&(ax (ah q.p8) (ah z.p7)&&(ax (ah q.p7) (ah z.p6)&&(ax (ah q.p6) (ah z.p5)&&(ax (ah q.p5) (ah z.p4)&&(ax (ah q.p4) (ah z.p3)&&(ax (ah q.p3) (ah z.p2)&&(ax (ah q.p2) (ah z.2.1)&&M))))))))) (aB (z.1,z.2.1,z.p2,z.p3,z.p4,z.p5,z.p6,z.p7,z.p8,z.q9,q.p11,q.p12,q.p13,q.p14,q.p15,q.p16,q.q17)))) (aB (q.2.1,q.p2,q.p3,q.p4,q.p5,q.p6,q.p7,q.p8,q.p9,q.p10,q.p11,q.p12,q.p13,q.p14,q.p15,q.p16,q.q17)))) λD=>(cM ((cw q.1),D.1,D.2.1,D.p2,D.p3,D.p4,D.p5,D.p6,D.p7,D.p8,D.p9,D.p10,D.p11,D.p12,D.p13,D.p14,D.p15,D.q16))) (aB (bZ (q.2.1,q.p2,q.p3,q.p4,q.p5,q.p6,q.p7,q.p8,q.p9,q.p10))))) (0,d.2.1,d.p2,d.p3,d.p4,d.p5,d.p6,d.p7,d.p8,d.p9,d.p10,d.p12,d.p13,d.p14,d.p15,d.p16,d.p17,d.q18)) (aB (d.2.1,d.p2,d.p3,d.p4,d.p5,d.p6,d.p7,d.p8,d.p9,d.p10)))))))))))) λx2=>(Z (x2.1,x2.2.1,x2.p2,x2.p3,x2.p4,x2.p5,x2.p6,x2.p7,x2.p8,x2.q9)))))
def Dw (x:Yd5×(η)×(Y η)×(Y η)×(Y η)×(Y η)×(Y η)×(Y η)×(Y η)×(η)×η):J Yd1:=zu @iter x
def qX (x:Yd5×(η)×(Y η)×(Y η)×(Y η)×(Y η)×(Y η)×(Y η)×(Y η)×(η)×η):J Yd1:=zu @gp x
def Ck (it:zE) (x:fc×Yd0×Int×Int×Int×Int×Int×(η)×η):J (Yd0×η):=
 (av (tI (x.2.1.1,x.2.1.2.1,x.2.1.p2,x.2.1.p3,x.2.1.p4,x.2.1.p5,x.2.1.p6,x.2.1.p7,x.2.1.q8)) λz=>(ck (eZ x.p2 (ah z.2.1)) (av (tJ ((x.p2,x.p3,x.p4,x.p5,x.p6,x.p7,x.q8),z.1,(x.1.1,x.1.2.1,x.1.p2,x.1.p3,x.1.p4,x.1.q5),z.2.1,z.p2,z.p3,z.p4,z.p5,z.p6,z.p7,z.q8)) λq=>(bt (ax (ah z.q8) (ah q.q11)&&(ax (ah z.p7) (ah q.p10)&&(ax (ah z.p6) (ah q.p9)&&(ax (ah z.p5) (ah q.p8)&&(ax (ah z.p4) (ah q.p7)&&(ax (ah z.p3) (ah q.p6)&&(ax (ah z.p2) (ah q.p5)&&(ax (ah z.2.1) (ah q.p4)&&M)))))))) (it (Int×fc×jY×(η)×(η)×(Y η)×(Y η)×(Y η)×(Y η)×(Y η)×(Y η)×(Y η)×η) _ (λd=>(bA d.1 (aY q.1) (mq d.1 q.1 (av (lx (d.p4,(aH (T:=(.sl aL)) q.1 d.1))) λD=>(cM ((cw d.1),(d.2.1.1,d.2.1.2.1,d.2.1.p2,d.2.1.p3,d.2.1.p4,d.2.1.q5),(d.p2.1,d.p2.2.1,d.p2.p2,d.p2.p3,d.p2.p4,d.p2.p5,d.p2.q6),d.p3,D,d.p5,d.p6,d.p7,d.p8,d.p9,d.p10,d.p11,d.q12)))) (av (av (rY (d.p4,d.p2.1)) λA=>(av (qX (((d.2.1.1,d.2.1.2.1,d.2.1.p2,d.2.1.p3,d.2.1.p4,d.2.1.q5),d.p2.1,d.p2.2.1,d.p2.p2,d.p2.p3,d.p2.p4,d.p2.p5,d.p2.q6),d.p3,d.p5,d.p6,d.p7,d.p8,d.p9,d.p10,d.p11,d.q12,A)) λs=>(bt (ax (ah A) (ah s.q9)&&(ax (ah d.q12) (ah s.p8)&&(ax (ah d.p11) (ah s.p7)&&(ax (ah d.p10) (ah s.p6)&&(ax (ah d.p9) (ah s.p5)&&(ax (ah d.p8) (ah s.p4)&&(ax (ah d.p7) (ah s.p3)&&(ax (ah d.p6) (ah s.p2)&&(ax (ah d.p5) (ah s.2.1)&&M))))))))) (Z ((s.2.1,s.p2,s.p3,s.p4,s.p5,s.p6,s.1,s.p7,s.p8),s.q9))))) λr=>Z (bZ r)))) (0,(q.p3.1,q.p3.2.1,q.p3.p2,q.p3.p3,q.p3.p4,q.p3.q5),(q.2.1.1,q.2.1.2.1,q.2.1.p2,q.2.1.p3,q.2.1.p4,q.2.1.p5,q.2.1.q6),q.p2,(aH (T:=(.sl aL)) z.2.1 x.p2),q.p4,q.p5,q.p6,q.p7,q.p8,q.p9,q.p10,q.q11))))))
def HV (x:fc×Yd0×Int×Int×Int×Int×Int×(η)×η):J (Yd0×η):=Ck @iter x
def rX (x:fc×Yd0×Int×Int×Int×Int×Int×(η)×η):J (Yd0×η):=Ck @gp x
def IB (it:zE) (x:η×η):J (Bool):=
 (it (Int) _ (λx1=>(bA x1 (gJ (aY x.1) (aY x.2)) (av (G7 (x.1,x1)) λq=>(av (G7 (x.2,x1)) λd=>(bA d q (aB aa) (cM (cw x1))))) (aB M))) 0)
def HR (x:η×η):J (Bool):=IB @iter x
def vp (x:η×η):J (Bool):=IB @gp x
def Dy (x:η×η):J (Bool):=
 (jn (av (vp (x.1,x.2)) λq=>(aF q (av (vp (x.2,x.1)) λd=>(aB d)) (aB aa))) λx1=>(Z x1))
def nN (it:zE) (x:ζ):J (Bool):=
 (lt (aH (T:=(.st (.pr .str (.pr .str (.pr .str (.pr .str (.pr .str (.pr .str (.pr .str (.pr .str (.pr .str (.pr .str (.pr .str (.pr .str (.pr .str (.pr .str (.pr .str (.pr .str (.pr .str (.pr .str (.pr .str (.pr .str (.pr .str .str))))))))))))))))))))))) ([kwV]) 0) λd=>(it (Int) _ (λx2=>(bA x2 22 (bt (cO 0 x2&&fE x2 22) (lt (aH (T:=.str) [d.1,d.2.1,d.p2,d.p3,d.p4,d.p5,d.p6,d.p7,d.p8,d.p9,d.p10,d.p11,d.p12,d.p13,d.p14,d.p15,d.p16,d.p17,d.p18,d.p19,d.p20,d.q21] x2) λq=>(aF (decide ((x:ζ)=q)) (aB M) (cM (cw x2))))) (aB aa))) 0))
def qO (x:ζ):J (Bool):=nN @iter x
def im (x:ζ):J (Bool):=nN @gp x
def rE (it:zE) (x:ζ):J (Bool):=
 (jn (bA (aY x) 1 (aB M) (bA 12 (aY x) (aB M) (av (im x) λz=>(aB z)))) λx1=>(aF x1 (Z aa) (it (Y (jD×Unit)) _ (λd=>(aF (eQ (F0 d) (ah (G9 d))) (jn (α:=Y (jD×Unit)) (jn (α:=Bool×Y (jD×Unit)) (ji 97 (M8 (G9 d) (F0 d)) (ji (M8 (G9 d) (F0 d)) 122 (aB (M,[(((G9 d),(aT ((F0 d)+Sa (G9 d) (F0 d)))),())])) (ji 65 (M8 (G9 d) (F0 d)) (aB ((cO (M8 (G9 d) (F0 d)) 90),[(((G9 d),(aT ((F0 d)+Sa (G9 d) (F0 d)))),())])) (aB (aa,[(((G9 d),(aT ((F0 d)+Sa (G9 d) (F0 d)))),())])))) (ji 65 (M8 (G9 d) (F0 d)) (aB ((cO (M8 (G9 d) (F0 d)) 90),[(((G9 d),(aT ((F0 d)+Sa (G9 d) (F0 d)))),())])) (aB (aa,[(((G9 d),(aT ((F0 d)+Sa (G9 d) (F0 d)))),())])))) λq=>(aF q.1 (aB q.2) (jn (bA 0 (aT (F0 d)) (bg (M8 (G9 d) (F0 d)) 95 (aB (M,q.2)) (ji 48 (M8 (G9 d) (F0 d)) (aB ((cO (M8 (G9 d) (F0 d)) 57),q.2)) (aB (aa,q.2)))) (aB (aa,q.2))) λs=>(aF s.1 (aB s.2) (cM (bZ aa)))))) λA=>(cM A)) (aB M))) ([((x,0),())]))))
def uQ (x:ζ):J (Bool):=rE @iter x
def kA (x:ζ):J (Bool):=rE @gp x
def wN (it:zE) (x:η×Int):J (Int):=
 (it (Int) _ (λx1=>(bA x1 (aY x.1) (bJ aL x.1 x1 λd=>(bg x.2 d (aB x1) (cM (cw x1)))) (aB (-1)))) 0)
def Ba (x:η×Int):J (Int):=wN @iter x
def qY (x:η×Int):J (Int):=wN @gp x
def jy (x:η×Int):J (Bool):=
 (av (qY x) λd=>(Z (cO 0 d)))
def gM (x:η×Int×Int):J (Bool):=
 (av (fy (x.1,x.2.2)) λd=>(Z (cO x.2.1 d)))
def mc (x:Γ):J (Bool):=
 (jn (ji 0 x.1 (aB (fE x.1 x.2)) (aB aa)) λx1=>(Z x1))
def oP (x:fc×Int×Bool):J (Bool):=
 (jn (av (mc (x.2.1,(aY x.1.2.1))) λq=>(aF q (bJ qE x.1.2.1 x.2.1 λd=>(aB ((d.2==x.2.2) !=aa))) (aB aa))) λx1=>(Z x1))
def kQ (it:zE) (x:Y Rw):J (di×Bool):=
 (it (Int×Y ζ) _ (λx1=>(bA x1.1 (aY x) (jn (α:=Int×Y ζ) (bJ kJ x x1.1 λd=>(bt (be (ah x1.2+ah ([d.1])) 16) (bg d.p2 0 (iT d.2.1 0 (cM (bZ (([]:Y ζ),aa))) (aB ((cw x1.1),(x1.2++([d.1]))))) (jn (α:=Bool×di×(ζ)×Int×Int×Bool×Int) (bA d.p2 1 (aB (M,(x1.2++([d.1])),d)) (bA 4 d.p2 (aB (M,(x1.2++([d.1])),d)) (aF d.p3 (aB (M,(x1.2++([d.1])),d)) (aB ((fE (ba .i64 ((aY x)-x1.1)) d.p2),(x1.2++([d.1])),d))))) λz=>(aF z.1 (cM (bZ (([]:Y ζ),aa))) (it (Int×di×(ζ)×Int×Int×Bool×Int) _ (λq=>(bA q.1 z.p4 (bJ kJ x (ba .i64 (x1.1+q.1)) λs=>(aF (Ml (.pr .str (.pr aL (.pr aL (.pr .bool (.pr aL .un))))) (s.1,s.2.1,s.p2,s.p3,s.q4,()) (q.p2,q.1,q.p4,q.p5,q.q6,()) !=M) (aB (pM (bZ (([]:Y ζ),aa)))) (cM ((cw q.1),q.2.1,q.p2,q.1,q.q4)))) (aB (bZ ((ba .i64 (x1.1+q.p4)),q.2.1))))) (0,z.2))))))) λx2=>(cM x2)) (aB (x1.2,M)))) (0,([]:Y ζ)))
def n_ (x:Y Rw):J (di×Bool):=kQ @iter x
def fM (x:Y Rw):J (di×Bool):=kQ @gp x
def kP (it:zE) (x:fc×Y ζ):J (Bool):=
 (bt (be (ah (x.2:Y ζ)) 16) (it (Int×fc×Y ζ) _ (λx1=>(bA x1.1 (aY x.1.2.1) (bJ qE x.1.2.1 x1.1 λD=>(bt (be (ah x1.2.2+ah ([D.1])) 16) (cM ((cw x1.1),x1.2.1,(x1.2.2++([D.1])))))) (av (it (Int×fc×Y ζ) _ (λd=>(bA d.1 (aY x1.2.1.p2) (bJ lZ x1.2.1.p2 d.1 λA=>(bt (be (ah d.2.2+ah ([A.1])) 16) (cM ((cw d.1),d.2.1,(d.2.2++([A.1])))))) (av (bt (be (ah d.2.2+ah d.2.1.p3) 16) (bt (be (ah (d.2.2++d.2.1.p3)+ah d.2.1.p4) 16) (it (Int×my×Y ζ) _ (λq=>(bA q.1 (aT (ah ((d.2.2++d.2.1.p3)++d.2.1.p4))) (kM (.str) q.2.2 q.1 λs=>(jn (av (kA s) λF=>(aF (!F) (aB (M,q.2)) (aB ((ER (K:=.str) (V:=.bool) s q.2.1 aa),q.2)))) λz=>(aF z.1 (aB aa) (cM ((cw q.1),(H0 (K:=.str) (V:=.bool) s M z.2.1),z.2.2))))) (aB M))) (0,([]:Y (ζ×Bool)),((d.2.2++d.2.1.p3)++d.2.1.p4))))) λr=>Z (bZ r)))) (0,x1.2)) λr=>Z (bZ r)))) (0,x)))
def n7 (x:fc×Y ζ):J (Bool):=kP @iter x
def fK (x:fc×Y ζ):J (Bool):=kP @gp x
def kO (it:zE) (x:ny×my×(Y jD)×di×di×Y ν):J (Bool):=
 (it (ν×ny×my×(Y jD)×di×di×Y ν) _ (λx1=>(bA x1.1.2.2 (aY x.q5) (bJ oF x.q5 x1.1.2.2 λs=>(jn (bA s.1 x1.1.1 (aB (M,x1.2,s)) (aB ((cO (aY x1.p5) s.1),x1.2,s))) λq=>(aF q.1 (aB aa) (jn (α:=(Γ)×fc×Int×Int×Int) (bA x1.1.1 q.p2 (aB ((q.p2,0),q.2)) (aB ((x1.1.1,x1.1.2.1),q.2))) λd=>(iT d.p3 d.1.2 (aB aa) (cM ((d.1.1,(cw d.1.2),(cw x1.1.2.2)),d.2.1))))))) (aB M))) ((0,0,0),x))
def nZ (x:ny×my×(Y jD)×di×di×Y ν):J (Bool):=kO @iter x
def fJ (x:ny×my×(Y jD)×di×di×Y ν):J (Bool):=kO @gp x
def kR (it:zE) (x:ny×my×(Y jD)×di×di×Y ν):J (Bool):=
 (jn (bA 12 (aY x.1) (aB (M,x)) (bA 4 (aY x.2.1) (aB (M,x)) (bA 2 (aY x.p2) (aB (M,x)) (bA 2 (aY x.p3) (aB (M,x)) (aB ((fE 60 (aY x.q5)),x)))))) λx1=>(aF x1.1 (Z aa) (jn (bA (aY x1.p5) 1 (aB (M,x1.2)) (aB ((fE 4 (aY x1.p5)),x1.2))) λx2=>(aF x2.1 (Z aa) (av (fM x2.2.1) λs=>(jn (aF (!s.2) (aB (M,x2.2)) (av (fK (x2.2,s.1)) λF=>(aB ((!F),x2.2)))) λq=>(aF q.1 (Z aa) (it Yd4 _ (λd=>(bA d.1 (aY q.p3) (bJ lZ q.p3 d.1 λz=>(av (oP (d.2,z.2,aa)) λD=>(aF (!D) (aB aa) (cM ((cw d.1),d.2))))) (av (av (fJ d.2) λA=>(Z A)) λr=>Z (bZ r)))) (0,q.2)))))))))
def oa (x:ny×my×(Y jD)×di×di×Y ν):J (Bool):=kR @iter x
def dw (x:ny×my×(Y jD)×di×di×Y ν):J (Bool):=kR @gp x
def rI (it:zE) (x:ny×my×(Y jD)×di×di×Y ν):J pJ:=
 (bt (cO 0 (aY x.2.1)&&cO (aY x.2.1) (aY x.2.1)&&be (aO (aY x.2.1)) 32) (bt (cO 0 (aY x.p3)&&cO (aY x.p3) (aY x.p3)&&be (aO (aY x.p3)) 1) (bt (cO 0 (aY x.p4)&&cO (aY x.p4) (aY x.p4)&&be (aO (aY x.p4)) 24) (it (Int×Int×Int×iK×(θ)×Y dJ) _ (λx1=>(bA x1.1 (aT (ah (aA (aO (aY x.2.1)) ((0,[]):Int×η)))) (ck (eZ x1.1 (ah x1.p3)) (cM ((cw x1.1),x1.2.1,x1.p2,(ct x1.p3 x1.1 ((-1),(aH (T:=dt) x1.p3 x1.1).2)),x1.q4))) (av (jn (α:=Int×Int×iK×(θ)×Y dJ) (bA 0 (aY x1.q5) (ck (eZ 0 (ah x1.q5)) (aB (x1.2.1,x1.p2,x1.p3,x1.p4,(ct x1.q5 0 (1,(aH (T:=gH) x1.q5 0).2))))) (aB x1.2)) λx2=>(Z (x2.p2,x2.2.1,x2.q3))) λr=>Z (bZ r)))) (0,0,(-1),(aA (aO (aY x.2.1)) ((0,[]):Int×η)),(aA (aO (aY x.p3)) (aa:Bool)),(aA (aO (aY x.p4)) ((0,(0,aa)):Int×Int×Bool)))))))
def uS (x:ny×my×(Y jD)×di×di×Y ν):J pJ:=rI @iter x
def kD (x:ny×my×(Y jD)×di×di×Y ν):J pJ:=rI @gp x
def mD (it:zE) (x:ny×my×(Y jD)×di×di×Y ν):J fV:=
 (av (kD x) λq=>(bt (cO 0 0&&cO 0 (aY x.1)&&be (aO (aY x.1)) 8) (bt (cO 0 (aY x.p3)&&cO (aY x.p3) (aY x.p3)&&be (aO (aY x.p3)) 8) (bt (cO 0 (aY x.p4)&&cO (aY x.p4) (aY x.p4)&&be (aO (aY x.p4)) 8) (it (Int×Int×pJ×(η)×(η)×η) _ (λx2=>(bA x2.1 (aY x.1) (bJ kJ x.1 x2.1 λd=>(bt (be (ah x2.p3+ah ([d.q4])) 8) (cM ((cw x2.1),x2.2.1,x2.p2,(x2.p3++([d.q4])),x2.q4)))) (aB x2.2.2))) (0,0,q,(aA (aO 0) (0:Int)),(aA (aO (aY x.p3)) (0:Int)),(aA (aO (aY x.p4)) (0:Int))))))))
def pS (x:ny×my×(Y jD)×di×di×Y ν):J fV:=mD @iter x
def eC (x:ny×my×(Y jD)×di×di×Y ν):J fV:=mD @gp x
def iI (it:zE) (x:θ×Int×Int×Int×Int×Int×(η)×η):J (Bool):=
 (it (Int) _ (λx1=>(bA x1 2 (bt (cO 0 x1&&fE x1 2) (lt (aH (T:=(.sl aL)) [x.p6,x.q7] x1) λs=>(it (Int) _ (λq=>(bA q (aY s) (bJ aL s q λd=>(jn (bA d 0 (aB M) (ji (aY x.1) d (aB M) (bJ (.bool) x.1 d λz=>(aB (!z))))) λA=>(aF A (aB (bZ aa)) (cM (cw q))))) (aB (pM (cw x1))))) 0))) (aB M))) 0)
def mS (x:θ×Int×Int×Int×Int×Int×(η)×η):J (Bool):=iI @iter x
def bU (x:θ×Int×Int×Int×Int×Int×(η)×η):J (Bool):=iI @gp x
def eO (x:Γ):J (Bool):=
 (jn (ji 0 x.1 (aB (fE x.1 x.2)) (aB aa)) λx1=>(Z x1))
def jf (x:fc×Int×Int):J (Bool):=
 (jn (bg x.2.1 1 (aB ((decide ((x.2.1:Int)=1)),x.1)) (bg x.2.1 2 (aB ((decide ((x.2.1:Int)=2)),x.1)) (bg x.2.1 5 (aB ((decide ((x.2.1:Int)=5)),x.1)) (bg x.2.1 12 (aB ((decide ((x.2.1:Int)=12)),x.1)) (bg x.2.1 13 (aB ((decide ((x.2.1:Int)=13)),x.1)) (bg x.2.1 14 (aB ((decide ((x.2.1:Int)=14)),x.1)) (aB ((decide ((x.2.1:Int)=15)),x.1)))))))) λx1=>(aF x1.1 (Z (decide ((x.2.2:Int)=(-1)))) (jn (bg x.2.1 3 (aB ((decide ((x.2.1:Int)=3)),x1.2)) (aB ((decide ((x.2.1:Int)=4)),x1.2))) λx2=>(aF x2.1 (av (eO (x.2.2,(aY x2.2.1))) λy3=>(Z y3)) (jn (bg x.2.1 6 (aB ((decide ((x.2.1:Int)=6)),x2.2)) (aB ((decide ((x.2.1:Int)=7)),x2.2))) λz=>(aF z.1 (jn (av (eO (x.2.2,(aY z.p2))) λy6=>(aF y6 (bJ qE z.p2 x.2.2 λz7=>(aB (!z7.2))) (aB aa))) λx5=>(Z x5)) (jn (bg x.2.1 8 (aB ((decide ((x.2.1:Int)=8)),z.2)) (bg x.2.1 9 (aB ((decide ((x.2.1:Int)=9)),z.2)) (bg x.2.1 10 (aB ((decide ((x.2.1:Int)=10)),z.2)) (aB ((decide ((x.2.1:Int)=11)),z.2))))) λs=>(aF s.1 (jn (av (eO (x.2.2,(aY s.p2))) λy10=>(aF y10 (bJ qE s.p2 x.2.2 λD=>(aB D.2)) (aB aa))) λx9=>(Z x9)) (jn (bg x.2.1 16 (aB ((decide ((x.2.1:Int)=16)),s.2)) (bg x.2.1 17 (aB ((decide ((x.2.1:Int)=17)),s.2)) (bg x.2.1 18 (aB ((decide ((x.2.1:Int)=18)),s.2)) (aB ((decide ((x.2.1:Int)=19)),s.2))))) λq=>(aF q.1 (av (eO (x.2.2,(aY q.p3))) λL=>(Z L)) (jn (bg x.2.1 20 (aB ((decide ((x.2.1:Int)=20)),q.2)) (aB ((decide ((x.2.1:Int)=21)),q.2))) λd=>(aF d.1 (av (eO (x.2.2,(aY d.p5))) λI=>(Z I)) (jn (bg x.2.1 22 (aB ((decide ((x.2.1:Int)=22)),d.2)) (aB ((decide ((x.2.1:Int)=23)),d.2))) λA=>(aF A.1 (av (eO (x.2.2,(aY A.p4))) λF=>(Z F)) (Z aa)))))))))))))))
def qj (it:zE) (x:fc×iK×Int×(θ)×Y dJ):J (Bool):=
 (jn (iT (aY x.2.1) (aY x.1.2.1) (aB (M,x.1)) (iT (aY x.p3) (aY x.1.p3) (aB (M,x.1)) (aB ((!decide (((aY x.q4):Int)=(aY x.1.p4))),x.1)))) λx1=>(aF x1.1 (Z aa) (it Yd4 _ (λx2=>(bA x2.1 (aY x1.p3) (bJ lZ x1.p3 x2.1 λd=>(av (eO (d.2,(aY x2.p2))) λq=>(aF (!q) (aB aa) (cM ((cw x2.1),x2.2))))) (aB M))) (0,x1.2))))
def wz (x:fc×iK×Int×(θ)×Y dJ):J (Bool):=qj @iter x
def iC (x:fc×iK×Int×(θ)×Y dJ):J (Bool):=qj @gp x
def kB (x:fc×pJ×Int×Int×Int):J (Bool):=
 (bg x.p3 6 (bJ dt x.2.1.1 x.q4 λz1=>(Z (decide ((z1.1:Int)=(-1))))) (bg x.p3 10 (jn (α:=Bool) (bJ dt x.2.1.1 x.q4 λz3=>(bg z3.1 (-1) (bJ dt x.2.1.1 x.q4 λz4=>(aB (decide (((aY z4.2):Int)=0)))) (aB aa))) λx2=>(Z x2)) (bg x.p3 8 (jn (α:=Bool) (bJ dt x.2.1.1 x.q4 λz6=>(bg z6.1 (-1) (bJ dt x.2.1.1 x.q4 λz7=>(av (jy (z7.2,x.p2)) λy8=>(aB (!y8)))) (aB aa))) λx5=>(Z x5)) (jn (bg x.p3 7 (aB ((decide ((x.p3:Int)=7)),x.1,x.2.1)) (aB ((decide ((x.p3:Int)=11)),x.1,x.2.1))) λq=>(aF q.1 (bJ dt q.p2 x.q4 λz10=>(Z (decide ((z10.1:Int)=x.p2)))) (bg x.p3 9 (bJ dt q.p2 x.q4 λz11=>(av (jy (z11.2,x.p2)) λy12=>(Z y12))) (bg x.p3 12 (Z (decide ((q.p3:Int)=(-1)))) (bg x.p3 13 (Z (decide ((q.p3:Int)=x.p2))) (bg x.p3 14 (bJ gH q.q5 x.p2 λz13=>(Z (!z13.2.2))) (bg x.p3 15 (bJ gH q.q5 x.p2 λL=>(Z L.2.2)) (jn (bg x.p3 16 (aB ((decide ((x.p3:Int)=16)),q.2)) (bg x.p3 18 (aB ((decide ((x.p3:Int)=18)),q.2)) (aB ((decide ((x.p3:Int)=19)),q.2)))) λd=>(aF d.1 (bJ lZ d.2.1.p2 x.q4 λI=>(bJ dt d.p2 I.2 λF=>(Z (decide ((F.1:Int)=x.p2))))) (bg x.p3 20 (jn (iT x.q4 x.p2 (bJ gH d.q5 x.q4 λD=>(aB (decide ((D.1:Int)=0)))) (aB aa)) λx18=>(Z x18)) (bg x.p3 21 (jn (iT x.q4 x.p2 (bJ gH d.q5 x.q4 λA=>(aB (decide ((A.1:Int)=5)))) (aB aa)) λx20=>(Z x20)) (bg x.p3 22 (bJ (.bool) d.p4 x.q4 λz=>(Z (!z))) (bg x.p3 23 (bJ (.bool) d.p4 x.q4 λs=>(Z s)) (Z M)))))))))))))))))
def eh (x:fc×pJ×Int×Int×Int):J (Bool):=
 (jn (av (iC (x.1,x.2.1)) λF=>(aF (!F) (aB (M,x.1,x.2.1)) (av (eO (x.p2,(aY x.1.p4))) λD=>(aF (!D) (aB (M,x.1,x.2.1)) (av (jf (x.1,x.q3)) λA=>(aB ((!A),x.1,x.2.1))))))) λx1=>(aF x1.1 (Z aa) (bJ gH x1.q5 x.p2 λd=>(bg x.p3 1 (Z (decide ((d.1:Int)=1))) (bg x.p3 17 (jn (α:=Bool) (bg d.1 4 (bg d.2.1 x.q4 (bJ lZ x1.2.1.p2 x.q4 λz=>(bJ dt x1.p2 z.2 λs=>(aB (decide ((s.1:Int)=(-1)))))) (aB aa)) (aB aa)) λL=>(Z L)) (jn (bg d.1 2 (av (kB (x1.2.1,x1.2.2,x.2.2)) λq=>(aB q)) (aB aa)) λI=>(Z I)))))))
def il (x:fc×pJ×(η)×(η)×η):J (Bool):=
 (jn (av (iC (x.1,x.2.1)) λd=>(aF d (bg (aY x.p2) (aY x.1.1) (bg (aY x.p3) (aY x.1.p3) (aB (decide (((aY x.q4):Int)=(aY x.1.p4)))) (aB aa)) (aB aa)) (aB aa))) λx1=>(Z x1))
def gu (x:fc×Int×Int×Int×Int×Int×(η)×η):J (Bool):=
 (jn (bg x.p2 1 (aB (M,x)) (aB ((decide ((x.p2:Int)=2)),x))) λx1=>(aF x1.1 (Z (decide ((x1.p6:Int)=(-1)))) (jn (ji 0 x1.p6 (bA x1.p6 (aY x1.2.1.q5) (bJ oF x1.2.1.q5 x1.p6 λd=>(aB (decide ((d.1:Int)=x1.p2)))) (aB aa)) (aB aa)) λx2=>(Z x2))))
def gS (it:zE) (x:fc×fV×Int×Int×Int×Int×Int×(η)×η):J (Bool):=
 (jn (bg x.p3 3 (bJ kJ x.1.1 x.p4 λz2=>(aB ((!decide ((z2.2.2.1:Int)=0)),x.2))) (bg x.p3 4 (bJ kJ x.1.1 x.p4 λz3=>(aB ((!decide ((z3.2.2.1:Int)=0)),x.2))) (aB (aa,x.2)))) λx1=>(jn (bg x1.p3 5 (bg x1.p3 4 (aB (x1.2.1,x1.2.2,M,M)) (aB (x1.2.1,x1.2.2,M,(decide ((x1.p3:Int)=22))))) (bg x1.p3 4 (aB (x1.2.1,x1.2.2,x1.1,M)) (aB (x1.2.1,x1.2.2,x1.1,(decide ((x1.p3:Int)=22)))))) λF=>(it (Int×fV×jY×Bool×Bool) _ (λd=>(bA d.1 2 (bt (cO 0 d.1&&fE d.1 2) (lt (aH (T:=(.sl aL)) [F.2.1.p5,F.2.1.q6] d.1) λA=>(jn (α:=Bool×fV×jY×Bool×Bool) (bA 0 (aY A) (bt (cO 0 d.1&&fE d.1 2) (bt (eZ d.1 2) (lt (aH (T:=.bool) [d.p3,d.q4] d.1) λL=>(aB ((!L),d.2))))) (aB (aa,d.2))) λI=>(aF I.1 (aB aa) (it (Γ×fV×jY×Bool×Bool) _ (λq=>(bA q.1.2 (aY A) (bJ aL A q.1.2 λs=>(jn (ji s q.1.1 (aB (M,q.2)) (bJ aL q.2.1.q3 q.p2.1 λD=>(aB ((cO D s),q.2)))) λz=>(aF z.1 (aB (bZ aa)) (cM ((s,(cw q.1.2)),z.2))))) (aB (pM ((cw d.1),q.2))))) ((0,0),I.2)))))) (aB M))) (0,F))))
def lJ (x:fc×fV×Int×Int×Int×Int×Int×(η)×η):J (Bool):=gS @iter x
def dy (x:fc×fV×Int×Int×Int×Int×Int×(η)×η):J (Bool):=gS @gp x
def jN (it:zE) (x:fV×Int×Int×Int×Int×Int×(η)×η):J (Bool):=
 (bg x.p2 3 (bJ aL x.1.2.1 x.p3 λz1=>(Z (decide ((x.p4:Int)=z1)))) (bg x.p2 23 (bJ aL x.1.p2 x.p3 λz2=>(Z (decide ((x.p4:Int)=z2)))) (bg x.p2 5 (jn (bg x.p4 0 (aB M) (aB (decide ((x.p4:Int)=1)))) λx3=>(Z x3)) (jn (bg x.p2 4 (aB ((decide ((x.p2:Int)=4)),x)) (aB ((decide ((x.p2:Int)=22)),x))) λs=>(aF s.1 (Z M) (bg x.p2 18 (it ((Int×Bool×Int)×Int×Int×Int×Int×Int×(η)×η) _ (λq=>(bA q.1.2.2 (aY s.2.1.1.q3) (jn (bJ gH s.2.1.1.q3 q.1.2.2 λL=>(jn (bg L.1 3 (aB ((decide ((L.2.1:Int)=q.p3)),q.2)) (aB (aa,q.2))) λD=>(aF D.1 (aF q.1.2.1 (aB (((cw q.1.1),M),D.2)) (aB (((cw q.1.1),(decide ((D.p4:Int)=q.1.2.2))),D.2))) (aB ((q.1.1,q.1.2.1),D.2))))) λI=>(cM ((I.1.1,I.1.2,(cw q.1.2.2)),I.2))) (av (jn (α:=Bool) (aF q.1.2.1 (aB M) (bg q.1.1 0 (aB (decide ((q.p4:Int)=(-1)))) (aB aa))) λx9=>(Z x9)) λr=>Z (bZ r)))) ((0,aa,0),s.2.2)) (bg x.p2 19 (it (Γ×Int×Int×Int×Int×Int×(η)×η) _ (λd=>(bA d.1.2 (aY s.2.1.1.q3) (jn (bJ gH s.2.1.1.q3 d.1.2 λA=>(jn (bg A.1 3 (aB ((decide ((A.2.1:Int)=d.p3)),d.2)) (aB (aa,d.2))) λz=>(aF z.1 (aB ((cw d.1.1),z.2)) (aB (d.1.1,z.2))))) λF=>(cM ((F.1,(cw d.1.2)),F.2))) (aB (decide ((d.p4:Int)=d.1.1))))) ((0,0),s.2.2)) (Z (decide ((s.p5:Int)=0))))))))))
def o7 (x:fV×Int×Int×Int×Int×Int×(η)×η):J (Bool):=jN @iter x
def eK (x:fV×Int×Int×Int×Int×Int×(η)×η):J (Bool):=jN @gp x
def mm (x:dJ×Int):J (Bool):=
 (jn (bg x.1.1 3 (aB (decide ((x.1.2.1:Int)=x.2))) (aB aa)) λx1=>(Z x1))
def H8 (x:θ):J θ:=
 (aF (ax (ah x) 0) (Em (Z ([]:θ)) (bt (be (ah ([]:θ)+ah x) 1) (Z (([]:θ)++x)))) (bt (be (ah ([]:θ)+ah x) 1) (Z (([]:θ)++x))))
def zm (x:θ):J θ:=chk (be (ah x) 1) λ_=>Z x
def DC (x:θ):J θ:=
 (aF (ax (ah x) 0) (Em (Z ([]:θ)) (bt (be (ah ([]:θ)+ah x) 1) (Z (([]:θ)++x)))) (bt (be (ah ([]:θ)+ah x) 1) (Z (([]:θ)++x))))
def H7 (x:θ):J θ:=chk (be (ah x) 1) λ_=>Z x
def H5 (x:Y dJ):J (Y dJ):=
 (aF (ax (ah x) 0) (Em (Z ([]:Y dJ)) (bt (be (ah ([]:Y dJ)+ah x) 24) (Z (([]:Y dJ)++x)))) (bt (be (ah ([]:Y dJ)+ah x) 24) (Z (([]:Y dJ)++x))))
def zl (x:Y dJ):J (Y dJ):=chk (be (ah x) 24) λ_=>Z x
def DA (x:Y dJ):J (Y dJ):=
 (aF (ax (ah x) 0) (Em (Z ([]:Y dJ)) (bt (be (ah ([]:Y dJ)+ah x) 24) (Z (([]:Y dJ)++x)))) (bt (be (ah ([]:Y dJ)+ah x) 24) (Z (([]:Y dJ)++x))))
def H4 (x:Y dJ):J (Y dJ):=chk (be (ah x) 24) λ_=>Z x
def DB (x:η):J η:=
 (aF (ax (ah x) 0) (Em (Z ([]:η)) (bt (be (ah ([]:η)+ah x) 8) (Z (([]:η)++x)))) (bt (be (ah ([]:η)+ah x) 8) (Z (([]:η)++x))))
def yi (x:η):J η:=chk (be (ah x) 8) λ_=>Z x
def rH (it:zE) (x:iK×Int×(θ)×Y dJ):J Yd3:=
 (bt (cO 0 (aY x.1)&&cO (aY x.1) (aY x.1)&&be (aO (aY x.1)) 32) (it (Int×pJ×Int×Y (Int×η)) _ (λx1=>(bA x1.1 (aY x.1) (bJ dt x.1 x1.1 λd=>(av (Bc d.2) λz=>(ck (eZ x1.1 (ah x1.q3)) (cM ((cw x1.1),x1.2.1,x1.p2,(ct x1.q3 x1.1 (d.1,z))))))) (av (av (H7 x1.2.1.p2) λs=>(av (H4 x1.2.1.q3) λq=>(Z (x1.2.1.2.1,x1.q3,s,q)))) λr=>Z (bZ r)))) (0,x,0,(aA (aO (aY x.1)) ((0,[]):Int×η)))))
def uR (x:iK×Int×(θ)×Y dJ):J Yd3:=rH @iter x
def kC (x:iK×Int×(θ)×Y dJ):J Yd3:=rH @gp x
def qi (it:zE) (x:ν×iK×(θ)×Y dJ):J Yd3:=
 (it (Γ×iK×(θ)×(Y dJ)×Int) _ (λx1=>(bA x1.1.2 (aY x.q3) (jn (kM gH x1.p3 x1.1.2 λq=>(jn (av (mm (q,x.1.2.1)) λs=>(aF s (bA x1.1.1 0 (aB (M,x1.2)) (aB ((decide ((x1.1.2:Int)=x.1.2.2)),x1.2))) (aB (aa,x1.2)))) λd=>(aF d.1 (aB (x1.1.2,d.2)) (aB (x1.1.1,d.2))))) λx2=>(cM ((x2.1,(cw x1.1.2)),x2.2))) (av (jn (α:=iK×(θ)×Y dJ) (ji 0 x1.1.1 (ck (eZ x1.1.1 (ah x1.p3)) (aB (x1.2.1,x1.p2,(ct x1.p3 x1.1.1 (4,(aH (T:=gH) x1.p3 x1.1.1).2))))) (aB (x1.2.1,x1.p2,x1.p3))) λz=>(Z (x1.1.1,z))) λr=>Z (bZ r)))) (((-1),0),x.2.1,x.p2,x.q3,x.1.1))
def tj (x:ν×iK×(θ)×Y dJ):J Yd3:=qi @iter x
def jK (x:ν×iK×(θ)×Y dJ):J Yd3:=qi @gp x
def mF (it:zE) (x:Γ×iK×(θ)×Y dJ):J Yd3:=
 (it (Γ×iK×(θ)×(Y dJ)×Int) _ (λx1=>(bA x1.1.2 (aY x.q3) (jn (α:=Int×iK×(θ)×(Y dJ)×Int) (kM gH x1.p3 x1.1.2 λd=>(av (mm (d,x.1.2)) λq=>(aF q (ck (eZ x1.1.2 (ah x1.p3)) (aB ((cw x1.1.1),x1.2.1,x1.p2,(ct x1.p3 x1.1.2 (4,(aH (T:=gH) x1.p3 x1.1.2).2)),x1.q4))) (aB (x1.1.1,x1.2))))) λx2=>(cM ((x2.1,(cw x1.1.2)),x2.2))) (aB (x1.1.1,x1.2.1,x1.p2,x1.p3)))) ((0,0),x.2.1,x.p2,x.q3,x.1.1))
def pT (x:Γ×iK×(θ)×Y dJ):J Yd3:=mF @iter x
def gQ (x:Γ×iK×(θ)×Y dJ):J Yd3:=mF @gp x
def qe (x:Int):J (Bool):=
 (Z (!decide ((x:Int)=x)))
def uT (x:Γ):J (Bool):=
 (jn (av (qe x.1) λq=>(aF q (av (qe x.2) λd=>(aF (!d) (aB M) (aB (fE x.1 x.2)))) (aB (fE x.1 x.2)))) λx1=>(Z x1))
def qV (x:Int):J (Int):=
 (ji 4294967296 x U (ji 65536 x U (ji 256 x U (mq (ba .u8 x) ([0,1,2,2,3,3,3,3,4,4,4,4,4,4,4,4,5,5,5,5,5,5,5,5,5,5,5,5,5,5,5,5,6,6,6,6,6,6,6,6,6,6,6,6,6,6,6,6,6,6,6,6,6,6,6,6,6,6,6,6,6,6,6,6,7,7,7,7,7,7,7,7,7,7,7,7,7,7,7,7,7,7,7,7,7,7,7,7,7,7,7,7,7,7,7,7,7,7,7,7,7,7,7,7,7,7,7,7,7,7,7,7,7,7,7,7,7,7,7,7,7,7,7,7,7,7,7,7,8,8,8,8,8,8,8,8,8,8,8,8,8,8,8,8,8,8,8,8,8,8,8,8,8,8,8,8,8,8,8,8,8,8,8,8,8,8,8,8,8,8,8,8,8,8,8,8,8,8,8,8,8,8,8,8,8,8,8,8,8,8,8,8,8,8,8,8,8,8,8,8,8,8,8,8,8,8,8,8,8,8,8,8,8,8,8,8,8,8,8,8,8,8,8,8,8,8,8,8,8,8,8,8,8,8,8,8,8,8,8,8,8,8,8,8,8,8,8,8,8,8,8,8,8,8,8,8]) (Z (ba .i64 (0+(ba .i64 (qD ([0,1,2,2,3,3,3,3,4,4,4,4,4,4,4,4,5,5,5,5,5,5,5,5,5,5,5,5,5,5,5,5,6,6,6,6,6,6,6,6,6,6,6,6,6,6,6,6,6,6,6,6,6,6,6,6,6,6,6,6,6,6,6,6,7,7,7,7,7,7,7,7,7,7,7,7,7,7,7,7,7,7,7,7,7,7,7,7,7,7,7,7,7,7,7,7,7,7,7,7,7,7,7,7,7,7,7,7,7,7,7,7,7,7,7,7,7,7,7,7,7,7,7,7,7,7,7,7,8,8,8,8,8,8,8,8,8,8,8,8,8,8,8,8,8,8,8,8,8,8,8,8,8,8,8,8,8,8,8,8,8,8,8,8,8,8,8,8,8,8,8,8,8,8,8,8,8,8,8,8,8,8,8,8,8,8,8,8,8,8,8,8,8,8,8,8,8,8,8,8,8,8,8,8,8,8,8,8,8,8,8,8,8,8,8,8,8,8,8,8,8,8,8,8,8,8,8,8,8,8,8,8,8,8,8,8,8,8,8,8,8,8,8,8,8,8,8,8,8,8,8,8,8,8,8,8]) (ba .u8 x))))))))))
def tH (x:Int):J (Int):=
 (av (qV x) λd=>(Z d))
def j8 (it:zE) (x:Γ×η):J η:=
 (it (Int×η) _ (λx1=>(bA x1.1 x.1.2 (it (Int×η) _ (λx2=>(jn (bA x.1.1 x2.1 (kM aL x2.2 x2.1 λA=>(kM aL x2.2 (ba .i64 (x2.1-1)) λz=>(av (uT (A,z)) λD=>(aB (D,x2.2))))) (aB (aa,x2.2))) λd=>(aF d.1 (kM aL d.2 (ba .i64 (x2.1-1)) λq=>(kM aL d.2 x2.1 λs=>(ck (eZ x2.1 (ah d.2)) (ck (eZ (ba .i64 (x2.1-1)) (ah (ct d.2 x2.1 q))) (cM ((ba .i64 (x2.1-1)),(ct (ct d.2 x2.1 q) (ba .i64 (x2.1-1)) s))))))) (aB (pM ((cw x1.1),d.2)))))) x1) (aB x1.2))) ((cw x.1.1),x.2))
def j7 (x:Γ×η):J η:=j8 @iter x
def fB (x:Γ×η):J η:=j8 @gp x
def oc (it:zE) (x:ν×η):J η:=
 (it ((Int×Int×Int×Bool×Bool)×η) _ (λx1=>(ji (ba .i64 (x1.1.2.1-x1.1.1)) 12 (av (fB ((x1.1.1,x1.1.2.1),x1.2)) λd=>(bt (ax (ah x1.2) (ah d)&&M) (aB d))) (bg x1.1.p2 0 U (aF (!x1.1.p3) U U)))) ((x.1.1,x.1.2.1,x.1.2.2,M,M),x.2))
def nY (x:ν×η):J η:=oc @iter x
def jk (x:ν×η):J η:=oc @gp x
def iW (x:η):J η:=
 (av (tH (ba .u64 (aY x))) λq=>(av (jk ((0,(aY x),q),x)) λd=>(bt (ax (ah x) (ah d)&&M) (Z d))))
def wO (it:zE) (x:η):J η:=
 (bA (aY x) 2 (Z x) (it (Int×η) _ (λx1=>(bA x1.1 (aY x1.2) (kM aL x1.2 x1.1 λq=>(kM aL x1.2 (ba .i64 (x1.1-1)) λd=>(bg q d (bt (cO 0 x1.1&&fE x1.1 (ah x1.2)) U) (cM ((cw x1.1),x1.2))))) (aB x1.2))) (1,x)))
def wA (x:η):J η:=wO @iter x
def ef (x:η):J η:=wO @gp x
def oO (x:Γ):J (Bool×Int):=
 (Z ((decide ((x.1:Int)=x.2)),x.2))
def tS (it:zE) (x:η×Int):J (Int×(η)×Int):=
 (it (Int×(η)×Int) _ (λx1=>(bA x1.1 (aY x.1) (kM aL x1.2.1 x1.1 λq=>(av (oO (q,x1.2.2)) λd=>(aF d.1 (aB (x1.1,x1.2.1,d.2)) (cM ((cw x1.1),x1.2.1,d.2))))) (aB ((-1),x1.2)))) (0,x))
def tm (x:η×Int):J (Int×(η)×Int):=tS @iter x
def nu (x:η×Int):J (Int×(η)×Int):=tS @gp x
def sk (it:zE) (x:η×Int):J (Int×η):=
 (av (nu x) λd=>(bt (ax (ah x.1) (ah d.2.1)&&M) (bg d.1 (-1) U (it (Γ×(η)×Int) _ (λx2=>(bA x2.1.2 (aY x2.2.1) (jn (kM aL x2.2.1 x2.1.2 λs=>(av (oO (s,x2.2.2)) λq=>(aF (!q.1) (ck (eZ x2.1.1 (ah x2.2.1)) (aB ((cw x2.1.1),(ct x2.2.1 x2.1.1 s),q.2))) (aB (x2.1.1,x2.2.1,q.2))))) λz=>(cM ((z.1,(cw x2.1.2)),z.2))) (av (ck (cO 0 x2.1.1&&fE x2.1.1 (ah x2.2.1)) (bt (cO 0 x2.1.1&&fE x2.1.1 (ah (dj (aO x2.1.1) x2.2.1++aA (ah x2.2.1-aO x2.1.1) (0:Int)))) (Z (x2.2.2,(dj (aO x2.1.1) (dj (aO x2.1.1) x2.2.1++aA (ah x2.2.1-aO x2.1.1) (0:Int))))))) λr=>Z (bZ r)))) ((d.1,(cw d.1)),d.2)))))
def sg (x:η×Int):J (Int×η):=sk @iter x
def c_ (x:η×Int):J (Int×η):=sk @gp x
def gR (x:fc×pJ×Int×Int×Int×Int):J (pJ×Int×Bool):=
 (av (eh (x.1,x.2.1,x.p2,x.p3,x.p4)) λL=>(aF (!L) (Z ((([]:Y (Int×η)),0,([]:θ),([]:Y dJ)),0,aa)) (av (kC x.2.1) λq=>(jn (α:=Int×Int×Int×iK×(θ)×Y dJ) (bg x.p3 1 (ck (eZ x.p2 (ah q.q3)) (aB (0,q.1,0,q.2.1,q.p2,(ct q.q3 x.p2 (2,(aH (T:=gH) q.q3 x.p2).2))))) (bg x.p3 2 (ck (eZ x.p2 (ah q.q3)) (aB (0,q.1,0,q.2.1,q.p2,(ct q.q3 x.p2 (5,(aH (T:=gH) q.q3 x.p2).2))))) (jn (α:=Bool×fc×Int×Int×Int×iK×(θ)×Y dJ) (bg x.p3 6 (aB ((decide ((x.p3:Int)=6)),x.1,q.1,x.p2,0,q.2)) (aB ((decide ((x.p3:Int)=10)),x.1,q.1,x.p2,0,q.2))) λA=>(aF A.1 (ck (eZ x.p4 (ah A.p5)) (aB (0,A.p2,A.p4,(ct A.p5 x.p4 (A.p3,(aH (T:=dt) A.p5 x.p4).2)),A.q6))) (jn (bg x.p3 7 (aB ((decide ((x.p3:Int)=7)),A.2)) (aB ((decide ((x.p3:Int)=11)),A.2))) λd=>(aF d.1 (ck (eZ x.p4 (ah d.p5)) (aB (0,d.p2,d.p4,(ct d.p5 x.p4 ((-1),(aH (T:=dt) d.p5 x.p4).2)),d.q6))) (bg x.p3 8 (kM dt d.p5 x.p4 λz6=>U) (bg x.p3 9 (kM dt d.p5 x.p4 λz7=>U) (bg x.p3 12 (aB (0,d.q3)) (bg x.p3 13 (aB (0,(-1),d.q4)) (bg x.p3 14 (ck (eZ d.p3 (ah d.q7)) (aB (0,d.p2,d.p4,d.p5,d.p6,(ct d.q7 d.p3 ((aH (T:=gH) d.q7 d.p3).1,((aH (T:=gH) d.q7 d.p3).2).1,M))))) (bg x.p3 15 (ck (eZ d.p3 (ah d.q7)) (aB (0,d.p2,d.p4,d.p5,d.p6,(ct d.q7 d.p3 ((aH (T:=gH) d.q7 d.p3).1,((aH (T:=gH) d.q7 d.p3).2).1,aa))))) (bg x.p3 16 (bJ lZ d.2.1.p2 x.p4 λI=>(ck (eZ I.2 (ah d.p5)) (ck (eZ d.p3 (ah d.q7)) (ck (eZ d.p3 (ah (ct d.q7 d.p3 (3,(aH (T:=gH) d.q7 d.p3).2)))) (aB (0,d.p2,d.p4,(ct d.p5 I.2 ((-1),(aH (T:=dt) d.p5 I.2).2)),d.p6,(ct (ct d.q7 d.p3 (3,(aH (T:=gH) d.q7 d.p3).2)) d.p3 ((aH (T:=gH) (ct d.q7 d.p3 (3,(aH (T:=gH) d.q7 d.p3).2)) d.p3).1,x.p4,((aH (T:=gH) (ct d.q7 d.p3 (3,(aH (T:=gH) d.q7 d.p3).2)) d.p3).2).2)))))))) (bg x.p3 17 (bJ lZ d.2.1.p2 x.p4 λF=>(ck (eZ F.2 (ah d.p5)) (ck (eZ d.p3 (ah d.q7)) (ck (eZ d.p3 (ah (ct d.q7 d.p3 (2,(aH (T:=gH) d.q7 d.p3).2)))) (aB (0,d.p2,d.p4,(ct d.p5 F.2 (d.p3,(aH (T:=dt) d.p5 F.2).2)),d.p6,(ct (ct d.q7 d.p3 (2,(aH (T:=gH) d.q7 d.p3).2)) d.p3 ((aH (T:=gH) (ct d.q7 d.p3 (2,(aH (T:=gH) d.q7 d.p3).2)) d.p3).1,0,((aH (T:=gH) (ct d.q7 d.p3 (2,(aH (T:=gH) d.q7 d.p3).2)) d.p3).2).2)))))))) (bg x.p3 18 (av (jK ((d.p2,x.q4),d.q5)) λz=>(bt (ax (ah d.q7) (ah z.q3)&&(ax (ah d.p6) (ah z.p2)&&(ax (ah d.p5) (ah z.2.1)&&M))) (aB (z.1,d.p2,d.p4,z.2)))) (bg x.p3 19 (av (gQ ((d.p2,x.p4),d.q5)) λs=>(bt (ax (ah d.q7) (ah s.q3)&&(ax (ah d.p6) (ah s.p2)&&(ax (ah d.p5) (ah s.2.1)&&M))) (aB (s.1,d.p2,d.p4,s.2)))) (bg x.p3 20 (ck (eZ x.p4 (ah d.q7)) (aB (0,d.p2,d.p4,d.p5,d.p6,(ct d.q7 x.p4 (1,(aH (T:=gH) d.q7 x.p4).2))))) (bg x.p3 22 (ck (eZ x.p4 (ah d.p6)) (aB (0,d.p2,d.p4,d.p5,(ct d.p6 x.p4 M),d.q7))) (aB (0,d.p2,d.q4)))))))))))))))))))) λD=>(Z ((D.p3,D.2.1,D.q4),D.1,M))))))
def je (x:iK×Int×(θ)×Y dJ):J (X6×Int×η):=
 (bt (cO 0 (aY x.1)&&cO (aY x.1) (aY x.1)&&be (aO (aY x.1)) 32&&decide (((aY x.1):Int)=1)) (jn (α:=pJ×Int×Int×η) (bA 0 (aY x.1) (bJ dt x.1 0 λd=>(av (gh d.2) λA=>(bA 1 (aY x.1) (bJ dt x.1 1 λq=>(av (gh q.2) λD=>U)) (aB (x,0,d.1,A))))) (aB (x,0,0,([]:η)))) λx1=>(av (zm x1.1.p2) λz=>(av (zl x1.1.q3) λs=>(Z ((x1.1.2.1,z,s),x1.2.2))))))
def gg (x:fc×pJ×Int×Int×Int×Int):J (pJ×Int×Bool):=
 (av (eh (x.1,x.2.1,x.p2,x.p3,x.p4)) λI=>(aF (!I) (Z ((([]:Y (Int×η)),0,([]:θ),([]:Y dJ)),0,aa)) (av (je x.2.1) λq=>(jn (α:=Int×X6×Int×Int×η) (bg x.p3 1 (mq x.p2 q.1.2.2 U) (bg x.p3 2 (mq x.p2 q.1.2.2 U) (jn (α:=Bool×fc×X6×Int×Int×Int×η) (bg x.p3 6 (aB ((decide ((x.p3:Int)=6)),x.1,q.1,x.p2,0,q.2)) (aB ((decide ((x.p3:Int)=10)),x.1,q.1,x.p2,0,q.2))) λz=>(aF z.1 U (jn (bg x.p3 7 (aB ((decide ((x.p3:Int)=7)),z.2)) (aB ((decide ((x.p3:Int)=11)),z.2))) λd=>(aF d.1 U (bg x.p3 8 (bg x.p4 0 (bt (be (ah d.q6+ah ([d.p3])) 8) (av (iW (d.q6++([d.p3]))) λs=>(bt (ax (ah (d.q6++([d.p3]))) (ah s)&&M) (av (ef s) λD=>(bt (ax (ah s) (ah D)&&M) (aB (0,d.p2,d.p4,d.p5,D))))))) U) (bg x.p3 9 (bg x.p4 0 (av (c_ (d.q6,d.p3)) λF=>(bt (ax (ah d.q6) (ah d.q6)&&M) (aB (0,d.p2,d.p4,d.p5,F.2)))) U) (bg x.p3 12 (aB (0,(d.p3,d.p2.2),d.q4)) (bg x.p3 13 (aB (0,((-1),d.p2.2),d.q4)) (bg x.p3 14 (mq d.p3 d.p2.2.2 U) (bg x.p3 15 (mq d.p3 d.p2.2.2 U) (bg x.p3 16 U (bg x.p3 17 U (bg x.p3 18 U (bg x.p3 19 U (bg x.p3 20 (mq x.p4 d.p2.2.2 U) (bg x.p3 22 (mq x.p4 d.p2.2.1 U) (aB (0,d.p2,d.q4)))))))))))))))))))) λA=>(Z (([A.q3],A.2.1),A.1,M))))))
def jd (x:iK×Int×(θ)×Y dJ):J (X6×(Γ)×(η)×η):=
 (bt (cO 0 (aY x.1)&&cO (aY x.1) (aY x.1)&&be (aO (aY x.1)) 32&&decide (((aY x.1):Int)=2)) (jn (α:=pJ×Int×(Γ)×(η)×η) (bA 0 (aY x.1) (bJ dt x.1 0 λd=>(av (gh d.2) λs=>(bA 1 (aY x.1) (bJ dt x.1 1 λq=>(av (gh q.2) λF=>(bA 2 (aY x.1) (bJ dt x.1 2 λz=>(av (gh z.2) λI=>U)) (aB (x,0,(d.1,q.1),s,F))))) (aB (x,0,(d.1,0),s,([]:η)))))) (aB (x,0,(0,0),([]:η),([]:η)))) λx1=>(av (zm x1.1.p2) λD=>(av (zl x1.1.q3) λA=>(Z ((x1.1.2.1,D,A),x1.2.2))))))
def fk (x:fc×pJ×Int×Int×Int×Int):J (pJ×Int×Bool):=
 (av (eh (x.1,x.2.1,x.p2,x.p3,x.p4)) λy1=>(aF (!y1) (Z ((([]:Y (Int×η)),0,([]:θ),([]:Y dJ)),0,aa)) (av (jd x.2.1) λq=>(jn (α:=Int×X6×Int×Int×(η)×Int×η) (bg x.p3 1 (mq x.p2 q.1.2.2 U) (bg x.p3 2 (mq x.p2 q.1.2.2 U) (jn (α:=Bool×fc×X6×Int×Int×(Γ)×(η)×η) (bg x.p3 6 (aB ((decide ((x.p3:Int)=6)),x.1,q.1,x.p2,0,q.2)) (aB ((decide ((x.p3:Int)=10)),x.1,q.1,x.p2,0,q.2))) λI=>(aF I.1 U (jn (bg x.p3 7 (aB ((decide ((x.p3:Int)=7)),I.2)) (aB ((decide ((x.p3:Int)=11)),I.2))) λd=>(aF d.1 U (bg x.p3 8 (bg x.p4 0 (bt (be (ah d.p6+ah ([d.p3])) 8) (av (iW (d.p6++([d.p3]))) λA=>(bt (ax (ah (d.p6++([d.p3]))) (ah A)&&M) (av (ef A) λy7=>(bt (ax (ah A) (ah y7)&&M) (aB (0,d.p2,d.p4,d.p5.1,y7,d.p5.2,d.q7))))))) (bg x.p4 1 (bt (be (ah d.q7+ah ([d.p3])) 8) (av (iW (d.q7++([d.p3]))) λz=>(bt (ax (ah (d.q7++([d.p3]))) (ah z)&&M) (av (ef z) λL=>(bt (ax (ah z) (ah L)&&M) (aB (0,d.p2,d.p4,d.p5.1,d.p6,d.p5.2,L))))))) U)) (bg x.p3 9 (bg x.p4 0 (av (c_ (d.p6,d.p3)) λF=>(bt (ax (ah d.p6) (ah d.p6)&&M) (aB (0,d.p2,d.p4,d.p5.1,F.2,d.p5.2,d.q7)))) (bg x.p4 1 (av (c_ (d.q7,d.p3)) λD=>(bt (ax (ah d.q7) (ah d.q7)&&M) (aB (0,d.p2,d.p4,d.p5.1,d.p6,d.p5.2,D.2)))) U)) (bg x.p3 12 (aB (0,(d.p3,d.p2.2),d.p4,d.p5.1,d.p6,d.p5.2,d.q7)) (bg x.p3 13 (aB (0,((-1),d.p2.2),d.p4,d.p5.1,d.p6,d.p5.2,d.q7)) (bg x.p3 14 (mq d.p3 d.p2.2.2 U) (bg x.p3 15 (mq d.p3 d.p2.2.2 U) (bg x.p3 16 U (bg x.p3 17 U (bg x.p3 18 U (bg x.p3 19 U (bg x.p3 20 (mq x.p4 d.p2.2.2 U) (bg x.p3 22 (mq x.p4 d.p2.2.1 U) (aB (0,d.p2,d.p4,d.p5.1,d.p6,d.p5.2,d.q7)))))))))))))))))))) λs=>(Z (([(s.p3,s.p4),s.q5],s.2.1),s.1,M))))))
def ja (x:iK×Int×(θ)×Y dJ):J (X6×(ν)×(η)×(η)×η):=
 (bt (cO 0 (aY x.1)&&cO (aY x.1) (aY x.1)&&be (aO (aY x.1)) 32&&decide (((aY x.1):Int)=3)) (jn (α:=pJ×Int×(ν)×(η)×(η)×η) (bA 0 (aY x.1) (bJ dt x.1 0 λd=>(av (gh d.2) λs=>(bA 1 (aY x.1) (bJ dt x.1 1 λq=>(av (gh q.2) λF=>(bA 2 (aY x.1) (bJ dt x.1 2 λD=>(av (gh D.2) λL=>(bA 3 (aY x.1) (bJ dt x.1 3 λI=>(av (gh I.2) λy9=>U)) (aB (x,0,(d.1,q.1,D.1),s,F,L))))) (aB (x,0,(d.1,q.1,0),s,F,([]:η)))))) (aB (x,0,(d.1,0,0),s,([]:η),([]:η)))))) (aB (x,0,(0,0,0),([]:η),([]:η),([]:η)))) λx1=>(av (zm x1.1.p2) λA=>(av (zl x1.1.q3) λz=>(Z ((x1.1.2.1,A,z),x1.2.2))))))
def eP (x:fc×pJ×Int×Int×Int×Int):J (pJ×Int×Bool):=
 (av (eh (x.1,x.2.1,x.p2,x.p3,x.p4)) λy1=>(aF (!y1) (Z ((([]:Y (Int×η)),0,([]:θ),([]:Y dJ)),0,aa)) (av (ja x.2.1) λz=>(jn (α:=Int×X6×Int×Int×(η)×Int×(η)×Int×η) (bg x.p3 1 (mq x.p2 z.1.2.2 U) (bg x.p3 2 (mq x.p2 z.1.2.2 U) (jn (α:=Bool×fc×X6×Int×Int×(ν)×(η)×(η)×η) (bg x.p3 6 (aB ((decide ((x.p3:Int)=6)),x.1,z.1,x.p2,0,z.2)) (aB ((decide ((x.p3:Int)=10)),x.1,z.1,x.p2,0,z.2))) λx4=>(aF x4.1 U (jn (bg x.p3 7 (aB ((decide ((x.p3:Int)=7)),x4.2)) (aB ((decide ((x.p3:Int)=11)),x4.2))) λd=>(aF d.1 U (bg x.p3 8 (bg x.p4 0 (bt (be (ah d.p6+ah ([d.p3])) 8) (av (iW (d.p6++([d.p3]))) λF=>(bt (ax (ah (d.p6++([d.p3]))) (ah F)&&M) (av (ef F) λy7=>(bt (ax (ah F) (ah y7)&&M) (aB (0,d.p2,d.p4,d.p5.1,y7,d.p5.2.1,d.p7,d.p5.2.2,d.q8))))))) (bg x.p4 1 (bt (be (ah d.p7+ah ([d.p3])) 8) (av (iW (d.p7++([d.p3]))) λD=>(bt (ax (ah (d.p7++([d.p3]))) (ah D)&&M) (av (ef D) λy9=>(bt (ax (ah D) (ah y9)&&M) (aB (0,d.p2,d.p4,d.p5.1,d.p6,d.p5.2.1,y9,d.p5.2.2,d.q8))))))) (bg x.p4 2 (bt (be (ah d.q8+ah ([d.p3])) 8) (av (iW (d.q8++([d.p3]))) λq=>(bt (ax (ah (d.q8++([d.p3]))) (ah q)&&M) (av (ef q) λA=>(bt (ax (ah q) (ah A)&&M) (aB (0,d.p2,d.p4,d.p5.1,d.p6,d.p5.2.1,d.p7,d.p5.2.2,A))))))) U))) (bg x.p3 9 (bg x.p4 0 (av (c_ (d.p6,d.p3)) λy12=>(bt (ax (ah d.p6) (ah d.p6)&&M) (aB (0,d.p2,d.p4,d.p5.1,y12.2,d.p5.2.1,d.p7,d.p5.2.2,d.q8)))) (bg x.p4 1 (av (c_ (d.p7,d.p3)) λL=>(bt (ax (ah d.p7) (ah d.p7)&&M) (aB (0,d.p2,d.p4,d.p5.1,d.p6,d.p5.2.1,L.2,d.p5.2.2,d.q8)))) (bg x.p4 2 (av (c_ (d.q8,d.p3)) λI=>(bt (ax (ah d.q8) (ah d.q8)&&M) (aB (0,d.p2,d.p4,d.p5.1,d.p6,d.p5.2.1,d.p7,d.p5.2.2,I.2)))) U))) (bg x.p3 12 (aB (0,(d.p3,d.p2.2),d.p4,d.p5.1,d.p6,d.p5.2.1,d.p7,d.p5.2.2,d.q8)) (bg x.p3 13 (aB (0,((-1),d.p2.2),d.p4,d.p5.1,d.p6,d.p5.2.1,d.p7,d.p5.2.2,d.q8)) (bg x.p3 14 (mq d.p3 d.p2.2.2 U) (bg x.p3 15 (mq d.p3 d.p2.2.2 U) (bg x.p3 16 U (bg x.p3 17 U (bg x.p3 18 U (bg x.p3 19 U (bg x.p3 20 (mq x.p4 d.p2.2.2 U) (bg x.p3 22 (mq x.p4 d.p2.2.1 U) (aB (0,d.p2,d.p4,d.p5.1,d.p6,d.p5.2.1,d.p7,d.p5.2.2,d.q8)))))))))))))))))))) λs=>(Z (([(s.p3,s.p4),(s.p5,s.p6),s.q7],s.2.1),s.1,M))))))
def mb (x:iK×Int×(θ)×Y dJ):J (X6×(π)×(η)×(η)×(η)×η):=
 (bt (cO 0 (aY x.1)&&cO (aY x.1) (aY x.1)&&be (aO (aY x.1)) 32&&decide (((aY x.1):Int)=4)) (jn (α:=pJ×Int×(π)×(η)×(η)×(η)×η) (bA 0 (aY x.1) (bJ dt x.1 0 λd=>(av (gh d.2) λs=>(bA 1 (aY x.1) (bJ dt x.1 1 λq=>(av (gh q.2) λD=>(bA 2 (aY x.1) (bJ dt x.1 2 λz=>(av (gh z.2) λy7=>(bA 3 (aY x.1) (bJ dt x.1 3 λL=>(av (gh L.2) λy9=>(bA 4 (aY x.1) (bJ dt x.1 4 λA=>(av (gh A.2) λy11=>U)) (aB (x,0,(d.1,q.1,z.1,L.1),s,D,y7,y9))))) (aB (x,0,(d.1,q.1,z.1,0),s,D,y7,([]:η)))))) (aB (x,0,(d.1,q.1,0,0),s,D,([]:η),([]:η)))))) (aB (x,0,(d.1,0,0,0),s,([]:η),([]:η),([]:η)))))) (aB (x,0,(0,0,0,0),([]:η),([]:η),([]:η),([]:η)))) λx1=>(av (zm x1.1.p2) λI=>(av (zl x1.1.q3) λF=>(Z ((x1.1.2.1,I,F),x1.2.2))))))
def gf (x:fc×pJ×Int×Int×Int×Int):J (pJ×Int×Bool):=
 (av (eh (x.1,x.2.1,x.p2,x.p3,x.p4)) λy1=>(aF (!y1) (Z ((([]:Y (Int×η)),0,([]:θ),([]:Y dJ)),0,aa)) (av (mb x.2.1) λA=>(jn (α:=Int×X6×Int×Int×(η)×Int×(η)×Int×(η)×Int×η) (bg x.p3 1 (mq x.p2 A.1.2.2 U) (bg x.p3 2 (mq x.p2 A.1.2.2 U) (jn (α:=Bool×fc×X6×Int×Int×(π)×(η)×(η)×(η)×η) (bg x.p3 6 (aB ((decide ((x.p3:Int)=6)),x.1,A.1,x.p2,0,A.2)) (aB ((decide ((x.p3:Int)=10)),x.1,A.1,x.p2,0,A.2))) λx4=>(aF x4.1 U (jn (bg x.p3 7 (aB ((decide ((x.p3:Int)=7)),x4.2)) (aB ((decide ((x.p3:Int)=11)),x4.2))) λd=>(aF d.1 U (bg x.p3 8 (bg x.p4 0 (bt (be (ah d.p6+ah ([d.p3])) 8) (av (iW (d.p6++([d.p3]))) λL=>(bt (ax (ah (d.p6++([d.p3]))) (ah L)&&M) (av (ef L) λy7=>(bt (ax (ah L) (ah y7)&&M) (aB (0,d.p2,d.p4,d.p5.1,y7,d.p5.2.1,d.p7,d.p5.p2,d.p8,d.p5.q3,d.q9))))))) (bg x.p4 1 (bt (be (ah d.p7+ah ([d.p3])) 8) (av (iW (d.p7++([d.p3]))) λI=>(bt (ax (ah (d.p7++([d.p3]))) (ah I)&&M) (av (ef I) λy9=>(bt (ax (ah I) (ah y9)&&M) (aB (0,d.p2,d.p4,d.p5.1,d.p6,d.p5.2.1,y9,d.p5.p2,d.p8,d.p5.q3,d.q9))))))) (bg x.p4 2 (bt (be (ah d.p8+ah ([d.p3])) 8) (av (iW (d.p8++([d.p3]))) λz=>(bt (ax (ah (d.p8++([d.p3]))) (ah z)&&M) (av (ef z) λF=>(bt (ax (ah z) (ah F)&&M) (aB (0,d.p2,d.p4,d.p5.1,d.p6,d.p5.2.1,d.p7,d.p5.p2,F,d.p5.q3,d.q9))))))) (bg x.p4 3 (bt (be (ah d.q9+ah ([d.p3])) 8) (av (iW (d.q9++([d.p3]))) λs=>(bt (ax (ah (d.q9++([d.p3]))) (ah s)&&M) (av (ef s) λD=>(bt (ax (ah s) (ah D)&&M) (aB (0,d.p2,d.p4,d.p5.1,d.p6,d.p5.2.1,d.p7,d.p5.p2,d.p8,d.p5.q3,D))))))) U)))) (bg x.p3 9 (bg x.p4 0 (av (c_ (d.p6,d.p3)) λy14=>(bt (ax (ah d.p6) (ah d.p6)&&M) (aB (0,d.p2,d.p4,d.p5.1,y14.2,d.p5.2.1,d.p7,d.p5.p2,d.p8,d.p5.q3,d.q9)))) (bg x.p4 1 (av (c_ (d.p7,d.p3)) λy15=>(bt (ax (ah d.p7) (ah d.p7)&&M) (aB (0,d.p2,d.p4,d.p5.1,d.p6,d.p5.2.1,y15.2,d.p5.p2,d.p8,d.p5.q3,d.q9)))) (bg x.p4 2 (av (c_ (d.p8,d.p3)) λy16=>(bt (ax (ah d.p8) (ah d.p8)&&M) (aB (0,d.p2,d.p4,d.p5.1,d.p6,d.p5.2.1,d.p7,d.p5.p2,y16.2,d.p5.q3,d.q9)))) (bg x.p4 3 (av (c_ (d.q9,d.p3)) λy17=>(bt (ax (ah d.q9) (ah d.q9)&&M) (aB (0,d.p2,d.p4,d.p5.1,d.p6,d.p5.2.1,d.p7,d.p5.p2,d.p8,d.p5.q3,y17.2)))) U)))) (bg x.p3 12 (aB (0,(d.p3,d.p2.2),d.p4,d.p5.1,d.p6,d.p5.2.1,d.p7,d.p5.p2,d.p8,d.p5.q3,d.q9)) (bg x.p3 13 (aB (0,((-1),d.p2.2),d.p4,d.p5.1,d.p6,d.p5.2.1,d.p7,d.p5.p2,d.p8,d.p5.q3,d.q9)) (bg x.p3 14 (mq d.p3 d.p2.2.2 U) (bg x.p3 15 (mq d.p3 d.p2.2.2 U) (bg x.p3 16 U (bg x.p3 17 U (bg x.p3 18 U (bg x.p3 19 U (bg x.p3 20 (mq x.p4 d.p2.2.2 U) (bg x.p3 22 (mq x.p4 d.p2.2.1 U) (aB (0,d.p2,d.p4,d.p5.1,d.p6,d.p5.2.1,d.p7,d.p5.p2,d.p8,d.p5.q3,d.q9)))))))))))))))))))) λq=>(Z (([(q.p3,q.p4),(q.p5,q.p6),(q.p7,q.p8),q.q9],q.2.1),q.1,M))))))
def rB (x:fc×pJ×Int×Int×Int×Int):J (pJ×Int×Bool):=orE (gR x) (orE (gg x) (orE (fk x) (orE (eP x) (gf x))))
def dT (x:fc×fV×Int×Int×Int×Int×Int×(η)×η):J (fV×Bool):=
 (jn (α:=Bool×fc×fV×jY×Int) (av (il (x.1,x.2.1)) λy2=>(aF (!y2) (aB (M,x.1,x.2.1,x.2.2,0)) (bA x.p2 0 (aB (M,x.1,x.2.1,x.2.2,0)) (ji (aY x.1.p4) x.p2 (aB (M,x.1,x.2.1,x.2.2,0)) (bA x.p3 1 (aB (M,x.1,x.2.1,x.2.2,0)) (aB ((fE 23 x.p3),x.1,x.2.1,x.2.2,0))))))) λx1=>(aF x1.1 (Z (((([]:Y (Int×η)),0,([]:θ),([]:Y dJ)),([]:η),([]:η),([]:η)),aa)) (jn (av (eh (x1.2.1,x1.p2.1,x1.p3.1,x1.p3.2.1,x1.p3.p2)) λy4=>(aF (!y4) (aB (M,x1.2)) (av (gu (x1.2.1,x1.p3)) λy5=>(aF (!y5) (aB (M,x1.2)) (av (dy (x1.2.1,x1.p2,x1.p3)) λy6=>(aF (!y6) (aB (M,x1.2)) (av (eK (x1.p2,x1.p3)) λL=>(aB ((!L),x1.2))))))))) λD=>(aF D.1 (Z (((([]:Y (Int×η)),0,([]:θ),([]:Y dJ)),([]:η),([]:η),([]:η)),aa)) (jn (α:=Int×fc×fV×jY×Int) (bg D.p3.2.1 18 (aB (D.p3.p3,D.2)) (aB ((-1),D.2))) λd=>(av (rB (d.2.1,d.p2.1,d.p3.1,d.p3.2.1,d.p3.p2,d.1)) λF=>(aF (!F.2.2) (Z (((([]:Y (Int×η)),0,([]:θ),([]:Y dJ)),([]:η),([]:η),([]:η)),aa)) (av (yi d.p2.2.1) λz=>(av (yi d.p2.p2) λs=>(av (gh d.p2.q3) λA=>(jn (bg d.p3.2.1 4 (ck (eZ d.p3.p2 (ah z)) (aB (d.p3,d.q4,F.1,(ct z d.p3.p2 d.p3.p3),s,A))) (bg d.p3.2.1 22 (ck (eZ d.p3.p2 (ah s)) (aB (d.p3,d.q4,F.1,z,(ct s d.p3.p2 d.p3.p3),A))) (aB (d.p3,d.q4,F.1,z,s,A)))) λq=>(kM aL q.q5 q.1.1 λI=>(ck (eZ q.1.1 (ah q.q5)) (Z ((q.p2,q.p3,q.p4,(ct q.q5 q.1.1 (cw I))),M)))))))))))))))
def lU (it:zE) (x:fc×Y jY):J Γ:=
 (bA 400 (aY x.2) (Z (0,2)) (av (dw x.1) λI=>(aF (!I) (Z (0,1)) (av (eC x.1) λF=>(bt (cO 0 (aY x.1.p4)&&cO (aY x.1.p4) (aY x.1.p4)&&be (aO (aY x.1.p4)) 24&&decide (((aY x.1.p4):Int)=1)) (it (Int×(fc×Y jY)×fV×θ) _ (λq=>(bA q.1 (aY x.2) (bJ gV x.2 q.1 λs=>(av (dT (q.2.1.1,q.p2,s)) λz=>(jn (α:=Bool×(fc×Y jY)×fV×jY×fV×θ) (aF z.2 (bg s.1 0 (av (bU (q.q3,0,s.2)) λD=>(aB ((!D),q.2.1,q.p2,(0,s.2),z.1,q.q3))) U) (aB (M,q.2.1,q.p2,s,z.1,q.q3))) λd=>(aF d.1 (aB (q.1,12)) (jn (α:=(fc×Y jY)×fV×fV×θ) (bg d.p3.1 0 (bg d.p3.2.1 3 (bt (be (ah d.q5+ah ([M])) 1) (aB (d.2.1,d.p2,d.p4,(d.q5++([M]))))) (bt (be (ah d.q5+ah ([(decide ((d.p3.2.1:Int)=23))])) 1) (aB (d.2.1,d.p2,d.p4,(d.q5++([(decide ((d.p3.2.1:Int)=23))])))))) U) λA=>(cM ((cw q.1),A.1,A.2.2))))))) (aB (0,0)))) (0,x,F,([]:θ))))))))
def pd (x:fc×Y jY):J Γ:=lU @iter x
def dZ (x:fc×Y jY):J Γ:=lU @gp x
def jP (it:zE) (x:fc×Y jY):J Γ:=
 (bA 400 (aY x.2) (Z (0,2)) (av (dw x.1) λL=>(aF (!L) (Z (0,1)) (av (eC x.1) λI=>(bt (cO 0 (aY x.1.p4)&&cO (aY x.1.p4) (aY x.1.p4)&&be (aO (aY x.1.p4)) 24&&decide (((aY x.1.p4):Int)=2)) (it (Int×(fc×Y jY)×fV×(θ)×θ) _ (λq=>(bA q.1 (aY x.2) (bJ gV x.2 q.1 λs=>(av (dT (q.2.1.1,q.p2,s)) λz=>(jn (α:=Bool×(fc×Y jY)×fV×jY×fV×(θ)×θ) (aF z.2 (bg s.1 0 (av (bU (q.p3,0,s.2)) λF=>(aB ((!F),q.2.1,q.p2,(0,s.2),z.1,q.q3))) (bg s.1 1 (av (bU (q.q4,1,s.2)) λD=>(aB ((!D),q.2.1,q.p2,(1,s.2),z.1,q.q3))) U)) (aB (M,q.2.1,q.p2,s,z.1,q.q3))) λd=>(aF d.1 (aB (q.1,12)) (jn (α:=(fc×Y jY)×fV×fV×(θ)×θ) (bg d.p3.1 0 (bg d.p3.2.1 3 (bt (be (ah d.p5+ah ([M])) 1) (aB (d.2.1,d.p2,d.p4,(d.p5++([M])),d.q6))) (bt (be (ah d.p5+ah ([(decide ((d.p3.2.1:Int)=23))])) 1) (aB (d.2.1,d.p2,d.p4,(d.p5++([(decide ((d.p3.2.1:Int)=23))])),d.q6)))) (bg d.p3.1 1 (bg d.p3.2.1 3 (bt (be (ah d.q6+ah ([M])) 1) (aB (d.2.1,d.p2,d.p4,d.p5,(d.q6++([M]))))) (bt (be (ah d.q6+ah ([(decide ((d.p3.2.1:Int)=23))])) 1) (aB (d.2.1,d.p2,d.p4,d.p5,(d.q6++([(decide ((d.p3.2.1:Int)=23))])))))) U)) λA=>(cM ((cw q.1),A.1,A.2.2))))))) (aB (0,0)))) (0,x,I,([]:θ),([]:θ))))))))
def o_ (x:fc×Y jY):J Γ:=jP @iter x
def dl (x:fc×Y jY):J Γ:=jP @gp x
def jO (it:zE) (x:fc×Y jY):J Γ:=
 (bA 400 (aY x.2) (Z (0,2)) (av (dw x.1) λy1=>(aF (!y1) (Z (0,1)) (av (eC x.1) λL=>(bt (cO 0 (aY x.1.p4)&&cO (aY x.1.p4) (aY x.1.p4)&&be (aO (aY x.1.p4)) 24&&decide (((aY x.1.p4):Int)=3)) (it (Int×(fc×Y jY)×fV×(θ)×(θ)×θ) _ (λq=>(bA q.1 (aY x.2) (bJ gV x.2 q.1 λs=>(av (dT (q.2.1.1,q.p2,s)) λz=>(jn (α:=Bool×(fc×Y jY)×fV×jY×fV×(θ)×(θ)×θ) (aF z.2 (bg s.1 0 (av (bU (q.p3,0,s.2)) λI=>(aB ((!I),q.2.1,q.p2,(0,s.2),z.1,q.q3))) (bg s.1 1 (av (bU (q.p4,1,s.2)) λF=>(aB ((!F),q.2.1,q.p2,(1,s.2),z.1,q.q3))) (bg s.1 2 (av (bU (q.q5,2,s.2)) λD=>(aB ((!D),q.2.1,q.p2,(2,s.2),z.1,q.q3))) U))) (aB (M,q.2.1,q.p2,s,z.1,q.q3))) λd=>(aF d.1 (aB (q.1,12)) (jn (α:=(fc×Y jY)×fV×fV×(θ)×(θ)×θ) (bg d.p3.1 0 (bg d.p3.2.1 3 (bt (be (ah d.p5+ah ([M])) 1) (aB (d.2.1,d.p2,d.p4,(d.p5++([M])),d.q6))) (bt (be (ah d.p5+ah ([(decide ((d.p3.2.1:Int)=23))])) 1) (aB (d.2.1,d.p2,d.p4,(d.p5++([(decide ((d.p3.2.1:Int)=23))])),d.q6)))) (bg d.p3.1 1 (bg d.p3.2.1 3 (bt (be (ah d.p6+ah ([M])) 1) (aB (d.2.1,d.p2,d.p4,d.p5,(d.p6++([M])),d.q7))) (bt (be (ah d.p6+ah ([(decide ((d.p3.2.1:Int)=23))])) 1) (aB (d.2.1,d.p2,d.p4,d.p5,(d.p6++([(decide ((d.p3.2.1:Int)=23))])),d.q7)))) (bg d.p3.1 2 (bg d.p3.2.1 3 (bt (be (ah d.q7+ah ([M])) 1) (aB (d.2.1,d.p2,d.p4,d.p5,d.p6,(d.q7++([M]))))) (bt (be (ah d.q7+ah ([(decide ((d.p3.2.1:Int)=23))])) 1) (aB (d.2.1,d.p2,d.p4,d.p5,d.p6,(d.q7++([(decide ((d.p3.2.1:Int)=23))])))))) U))) λA=>(cM ((cw q.1),A.1,A.2.2))))))) (aB (0,0)))) (0,x,L,([]:θ),([]:θ),([]:θ))))))))
def o9 (x:fc×Y jY):J Γ:=jO @iter x
def dH (x:fc×Y jY):J Γ:=jO @gp x
def gw (it:zE) (x:fc×Y jY):J Γ:=
 (bA 400 (aY x.2) (Z (0,2)) (av (dw x.1) λy1=>(aF (!y1) (Z (0,1)) (av (eC x.1) λy2=>(bt (cO 0 (aY x.1.p4)&&cO (aY x.1.p4) (aY x.1.p4)&&be (aO (aY x.1.p4)) 24&&decide (((aY x.1.p4):Int)=4)) (it (Int×(fc×Y jY)×fV×(θ)×(θ)×(θ)×θ) _ (λq=>(bA q.1 (aY x.2) (bJ gV x.2 q.1 λs=>(av (dT (q.2.1.1,q.p2,s)) λz=>(jn (α:=Bool×(fc×Y jY)×fV×jY×fV×(θ)×(θ)×(θ)×θ) (aF z.2 (bg s.1 0 (av (bU (q.p3,0,s.2)) λL=>(aB ((!L),q.2.1,q.p2,(0,s.2),z.1,q.q3))) (bg s.1 1 (av (bU (q.p4,1,s.2)) λI=>(aB ((!I),q.2.1,q.p2,(1,s.2),z.1,q.q3))) (bg s.1 2 (av (bU (q.p5,2,s.2)) λF=>(aB ((!F),q.2.1,q.p2,(2,s.2),z.1,q.q3))) (bg s.1 3 (av (bU (q.q6,3,s.2)) λD=>(aB ((!D),q.2.1,q.p2,(3,s.2),z.1,q.q3))) U)))) (aB (M,q.2.1,q.p2,s,z.1,q.q3))) λd=>(aF d.1 (aB (q.1,12)) (jn (α:=(fc×Y jY)×fV×fV×(θ)×(θ)×(θ)×θ) (bg d.p3.1 0 (bg d.p3.2.1 3 (bt (be (ah d.p5+ah ([M])) 1) (aB (d.2.1,d.p2,d.p4,(d.p5++([M])),d.q6))) (bt (be (ah d.p5+ah ([(decide ((d.p3.2.1:Int)=23))])) 1) (aB (d.2.1,d.p2,d.p4,(d.p5++([(decide ((d.p3.2.1:Int)=23))])),d.q6)))) (bg d.p3.1 1 (bg d.p3.2.1 3 (bt (be (ah d.p6+ah ([M])) 1) (aB (d.2.1,d.p2,d.p4,d.p5,(d.p6++([M])),d.q7))) (bt (be (ah d.p6+ah ([(decide ((d.p3.2.1:Int)=23))])) 1) (aB (d.2.1,d.p2,d.p4,d.p5,(d.p6++([(decide ((d.p3.2.1:Int)=23))])),d.q7)))) (bg d.p3.1 2 (bg d.p3.2.1 3 (bt (be (ah d.p7+ah ([M])) 1) (aB (d.2.1,d.p2,d.p4,d.p5,d.p6,(d.p7++([M])),d.q8))) (bt (be (ah d.p7+ah ([(decide ((d.p3.2.1:Int)=23))])) 1) (aB (d.2.1,d.p2,d.p4,d.p5,d.p6,(d.p7++([(decide ((d.p3.2.1:Int)=23))])),d.q8)))) (bg d.p3.1 3 (bg d.p3.2.1 3 (bt (be (ah d.q8+ah ([M])) 1) (aB (d.2.1,d.p2,d.p4,d.p5,d.p6,d.p7,(d.q8++([M]))))) (bt (be (ah d.q8+ah ([(decide ((d.p3.2.1:Int)=23))])) 1) (aB (d.2.1,d.p2,d.p4,d.p5,d.p6,d.p7,(d.q8++([(decide ((d.p3.2.1:Int)=23))])))))) U)))) λA=>(cM ((cw q.1),A.1,A.2.2))))))) (aB (0,0)))) (0,x,y2,([]:θ),([]:θ),([]:θ),([]:θ))))))))
def o8 (x:fc×Y jY):J Γ:=gw @iter x
def cS (x:fc×Y jY):J Γ:=gw @gp x
def ki (x:fc×Y jY):J Γ:=orE (cS x) (orE (dH x) (orE (dl x) (dZ x)))
def tP (it:zE) (x:fc×Y jY):J ((Y η)×Int):=
 (av (ki x) λA=>(iT A.2 0 (Z (([]:Y η),12)) (av (pB x.1) λz=>(bt (cO 0 (aY x.2)&&cO (aY x.2) (aY x.2)&&be (aO (aY x.2)) 24) (it (Int×(fc×Y jY)×Yd0×Y η) _ (λd=>(bA d.1 (aY x.2) (bJ gV x.2 d.1 λs=>(av (rX (d.2.1.1,d.p2,s)) λq=>(ck (eZ d.1 (ah d.q3)) (cM ((cw d.1),d.2.1,q.1,(ct d.q3 d.1 q.2)))))) (aB (d.q3,0)))) (0,x,z,(aA (aO (aY x.2)) ([]:η))))))))
def AZ (x:fc×Y jY):J ((Y η)×Int):=tP @iter x
def lO (x:fc×Y jY):J ((Y η)×Int):=tP @gp x
def xP:Nat:=1000000000
def jl (a b:η):η:=(gx (max a.length b.length)).map λi=>gJ (a.getD i 0) (b.getD i 0)
theorem zp (a b:η):(jl a b).length=max a.length b.length:=by simp[jl]
theorem DI (a b:η) (i:Nat):(jl a b).getD i 0=gJ (a.getD i 0) (b.getD i 0):=by
 unfold jl;simp only[ay,bk];by_cases h:i<max a.length b.length
 .rw[vg h];rfl
 .rw[bK (by simp only[lA];omega),bK (l:=a) (by omega),bK (l:=b) (by omega)];rfl
theorem OC (c:η) (i:Nat):fy (c,(i:Int))=Z (c.getD i 0):=by
 unfold fy bA mq aY aB;simp only[];rw[yn (by omega)];simp only[d8,mr];by_cases h:i<c.length
 .rw[Y5 (by simp;omega)];simp only[d8];rw[cJ (db h),tQ];rfl
 .rw[qG (by simp;omega)];simp only[dL];rw[ay,bK (by omega)];rfl
theorem ads (a b:η) (s:a.length<=xP) (hb:b.length<=xP):lx (a,b)=Z (jl a b):=by
 unfold xP at s hb;unfold lx uG ck bA bt aY cM aB cw;have hm:max a.length b.length<=1000000000:=by omega
 rw[cJ (by simp only[tK];rw[qG (by omega),qG (by omega),wu (by simp;omega) (by simp;omega)];rfl)];simp only[tK,cW,cB];have:=ym (σ:=Int×η) (R:=η) (max a.length b.length) (by omega) (λi=>((i:Int),(gx (max a.length b.length)).map λk=>if k<i then gJ (a.getD k 0) (b.getD k 0) else 0)) (f:=(λx1=>(aF (fE x1.1 (aT (max a.length b.length))) (av (fy (a,x1.1)) λq=>(av (fy (b,x1.1)) λd=>(chk (eZ x1.1 (ah x1.2)) λ_=>(chk (eZ x1.1 (ah x1.2)) λ_=>(Z (pM ((ba .i64 (x1.1+1)),(ct x1.2 x1.1 (gJ q d))))))))) (Z (bZ x1.2))))) (r:=jl a b) ?_ ?_
 .refine Eq.trans ?_ this;congr 1;simp only[Int.natCast_zero,wj,dx,aC,AH];apply dA<;>simp
 .intro i hi;simp only[];rw[vH (by simp;omega),dL,OC,OC,dD,dD,cJ (db (by simpa using hi)),cJ (db (by simpa using hi)),qK hi (by omega),gy];congr 3;apply dA
  .simp
  .intro k h1 h2;simp only[cz,lA]at h2;simp only[ur,qA,nA];by_cases e:i=k
   .subst e;simp
   .by_cases h:k<i
    .rw[aM e,aW h,aW (by omega)]
    .rw[aM e,aM h,aM (by omega)]
 .simp only[];rw[yn (by simp),d8];congr 2;unfold jl;apply List.map_congr_left;intro k hk;rw[aW (nz.1 hk)]
theorem XI (a b:η) (s:a.length<=xP) (hb:b.length<=xP):sR (a,b)=Z (jl a b,b):=by
 unfold xP at s hb;unfold sR Hf ck bA bt aY cM aB cw;have hm:max a.length b.length<=1000000000:=by omega
 rw[cJ (by simp only[tK];rw[qG (by omega),qG (by omega),wu (by simp;omega) (by simp;omega)];rfl)];simp only[tK,cW,cB];have:=ym (σ:=Int×η×η) (R:=η×η) (max a.length b.length) (by omega) (λi=>((i:Int),b,(gx (max a.length b.length)).map λk=>if k<i then gJ (a.getD k 0) (b.getD k 0) else 0)) (f:=(λx1=>(aF (fE x1.1 (aT (max a.length b.length))) (av (fy (a,x1.1)) λq=>(av (fy (x1.2.1,x1.1)) λd=>(chk (eZ x1.1 (ah x1.2.2)) λ_=>(chk (eZ x1.1 (ah x1.2.2)) λ_=>(Z (pM ((ba .i64 (x1.1+1)),x1.2.1,(ct x1.2.2 x1.1 (gJ q d))))))))) (Z (bZ (x1.2.2,x1.2.1)))))) (r:=(jl a b,b)) ?_ ?_
 .refine Eq.trans ?_ this;congr 1;simp only[Int.natCast_zero,wj,dx,aC,AH];apply dA<;>simp
 .intro i hi;simp only[];rw[vH (by simp;omega),dL,OC,OC,dD,dD,cJ (db (by simpa using hi)),cJ (db (by simpa using hi)),qK hi (by omega),gy];congr 4;apply dA
  .simp
  .intro k h1 h2;simp only[cz,lA]at h2;simp only[ur,qA,nA];by_cases e:i=k
   .subst e;simp
   .by_cases h:k<i
    .rw[aM e,aW h,aW (by omega)]
    .rw[aM e,aM h,aM (by omega)]
 .simp only[];rw[yn (by simp),d8];congr 3;unfold jl;apply List.map_congr_left;intro k hk;rw[aW (nz.1 hk)]
theorem RJ (a b:η) (d:a.length<=xP) (hb:b.length<=xP):Bb (a,b)=Z (jl a b):=by
 unfold Bb;rw[XI a b d hb,dD];exact O0 rfl _
def tk (c:η) (t:Nat):η:=(c++aA (t+1-c.length) 0).set t (c.getD t 0+1)
theorem LN (c:η) (t:Nat):(tk c t).length=max c.length (t+1):=by simp[tk];omega
theorem ai9 (c:η) (n i:Nat):(c++aA n 0).getD i 0=c.getD i 0:=by
 simp only[ay];by_cases h:i<c.length
 .rw[bV h]
 .rw[ca (by omega),bK (l:=c) (by omega),lB];split<;>rfl
theorem Hs (c:η) (t i:Nat):(tk c t).getD i 0=if i=t then c.getD t 0+1 else c.getD i 0:=by
 unfold tk;rw[ay,oK];by_cases h:t=i
 .subst h;rw[aW rfl,aW (by simp;omega),aW rfl];rfl
 .rw[aM h,aM (λe=>h e.symm),<-ay,ai9]
theorem Zx (c:η) (n:Nat) (h:c.length<=n):Lm (aA n 0) c=c++aA (n-c.length) 0:=by
 unfold Lm;rw[cB,fO h,List.drop_replicate]
theorem ad5 (c:η) (t:Nat) (hc:c.length<=xP) (ht:t<4) (h0:0<=c.getD t 0) (h1:c.getD t 0<9223372036854775807):rY (c,(t:Int))=Z (tk c t):=by
 unfold xP at hc;unfold rY ck ji bt aY aB cw;simp only[];rw[qG (by omega),dL,mr,vH (by omega)];simp only[dL,mr];have e1:gJ (aT c.length) (ba .i64 ((t:Int)+1))=((max c.length (t+1):Nat):Int):=by
  rw[qK ht (by omega)];exact tK _ _
 rw[e1];rw[cJ (by rw[qG (by omega),qG (by omega),wu (by simp;omega) (by simp;omega)];rfl)];rw[cW];have e2:Lm (aA (max c.length (t+1)) (0:Int)) c=c++aA (t+1-c.length) 0:=by
  rw[Zx c _ (by omega)];rw[show max c.length (t+1)-c.length=t+1-c.length from by omega]
 rw[e2];have hl:t<(c++aA (t+1-c.length) (0:Int)).length:=by simp;omega
 rw[cJ (db hl),cJ (db hl),mr];have e3:aH (T:=.int .i64) (c++aA (t+1-c.length) (0:Int)) (t:Int)=c.getD t 0:=by
  rw[tQ];exact ai9 c _ t
 simp only[];rw[e3,vH h1,dL,cJ (db hl),cJ (db hl),cJ (db hl),cJ (db hl),mr,adx (by omega) (by omega),gy];rfl
theorem R4 (c:η) (hc:c.length<=xP):Bc c=Z c:=by
 unfold xP at hc;unfold Bc;rw[cJ (wu (by omega) (by omega))]
theorem MT (c:η) (hc:c.length<=xP):uz c=Z c:=by
 unfold xP at hc;unfold uz vB bt;rw[cJ (wu (by simp;omega) (by simp;omega)),dD];exact O0 rfl _
theorem MU (c:η) (hc:c.length<=xP):gh c=Z c:=R4 c hc
def GL (l:Y η):Prop:=l.length<=xP/\∀c∈l,c.length<=xP
abbrev HTp:Type:=Y η×Y η×Y η×Y η×Y η×Y η×η×Y η×η
def GH (h:HTp):Prop:=GL h.1/\GL h.2.1/\GL h.2.2.1/\GL h.2.2.2.1/\GL h.2.2.2.2.1/\GL h.2.2.2.2.2.1/\h.2.2.2.2.2.2.1.length<=xP/\GL h.2.2.2.2.2.2.2.1/\h.2.2.2.2.2.2.2.2.length<=xP
theorem ID {l:Y η} {i:Nat} (h:i<l.length):l.getD i []∈l:=by
 rw[ay,aw h];exact qz h
theorem GL.at {l:Y η} (h:GL l) (i:Nat):(l.getD i []).length<=xP:=by
 by_cases hi:i<l.length
 .exact h.2 _ (ID hi)
 .rw[ay,bK (by omega)];simp
theorem WV (g:η->J η) (l:Y η) (hl:l.length<=xP) (hg:∀c∈l,g c=Z c):
 gp (σ:=Int×Y η) (λx1=>(aF (fE x1.1 (aT (ah l))) (chk (eZ x1.1 (ah l)) λ_=>(av (g (aH (T:=(.sl (.int .i64))) l x1.1)) λd=>(chk (eZ x1.1 (ah x1.2)) λ_=>(chk (eZ x1.1 (ah x1.2)) λ_=>(Z (pM ((ba .i64 (x1.1+1)),(ct x1.2 x1.1 d)))))))) (Z (bZ x1.2)))) (0,(aA (aO (aT (ah l))) ([]:η)))=Z l:=by
 unfold xP at hl;have:=ym (σ:=Int×Y η) (R:=Y η) l.length (by omega) (λi=>((i:Int),(gx l.length).map λk=>if k<i then l.getD k [] else [])) (f:=(λx1=>(aF (fE x1.1 (aT (ah l))) (chk (eZ x1.1 (ah l)) λ_=>(av (g (aH (T:=(.sl (.int .i64))) l x1.1)) λd=>(chk (eZ x1.1 (ah x1.2)) λ_=>(chk (eZ x1.1 (ah x1.2)) λ_=>(Z (pM ((ba .i64 (x1.1+1)),(ct x1.2 x1.1 d)))))))) (Z (bZ x1.2))))) (r:=l) ?_ ?_
 .refine Eq.trans ?_ this;congr 1;simp only[Int.natCast_zero,wj,dx,aC,AH,aj,cW];apply dA<;>simp
 .intro i hi;simp only[];rw[vH (by simp;omega),dL,cJ (db hi),tQ,show (l.getD i (Ty.zero (.sl (.int .i64))))=l.getD i [] from rfl,hg _ (ID hi),dD,cJ (db (by simpa using hi)),cJ (db (by simpa using hi)),qK hi (by omega),gy];congr 3;apply dA
  .simp
  .intro k h1 h2;simp only[cz,lA]at h2;simp only[ur,qA,nA];by_cases e:i=k
   .subst e;simp
   .by_cases h:k<i
    .rw[aM e,aW h,aW (by omega)]
    .rw[aM e,aM h,aM (by omega)]
 .simp only[];rw[yn (by simp),d8];congr 2;apply dA
  .simp
  .intro k h1 h2;simp only[qA,nA];rw[aW h2,ay,aw h2];rfl
theorem ri (l:Y η) (h:GL l):ip l=Z l:=by
 have hl:=h.1;unfold xP at hl;unfold ip wI ck bA mq bt aY cM aB cw;rw[cJ (by rw[qG (by simp),qG (by omega),wu (by simp;omega) (by simp;omega)];rfl)];exact WV Bc l h.1 λc hc=>R4 c (h.2 c hc)
theorem WX (h:HTp) (g:GH h):tI h=Z (h.2.2.2.2.2.2.1,h.1,h.2.1,h.2.2.1,h.2.2.2.1,h.2.2.2.2.1,h.2.2.2.2.2.1,h.2.2.2.2.2.2.2.1,h.2.2.2.2.2.2.2.2):=by
 obtain⟨L,I,F,D,A,z,s,q,d⟩:=g;unfold tI aX bh bm bT cX gN lz;rw[ri _ L,dD,ri _ I,dD,ri _ F,dD,ri _ D,dD,ri _ A,dD,ri _ z,dD,MU _ s,dD,ri _ q,dD,MU _ d,dD]
abbrev Dj:Type:=Y (ζ×Int×Int×Bool×Int)×Y (ζ×Bool)×Y (ζ×Int)×Y ζ×Y ζ×Y ν
def h0 (w:Dj):HTp:=(aA w.2.2.2.2.1.length [],aA w.2.2.2.2.1.length [],aA w.2.1.length [],aA w.2.1.length [],aA w.1.length [],aA w.2.2.2.1.length [],[],aA w.2.2.2.2.1.length [],aA w.2.2.2.2.1.length (-1))
theorem Z6 (w:Dj) (h1:w.1.length<=xP) (h2:w.2.1.length<=xP) (q:w.2.2.2.1.length<=xP) (d:w.2.2.2.2.1.length<=xP):pB w=Z (h0 w):=by
 unfold xP at h1 h2 q d;have c:∀n b:Nat,n<=1000000000->b<=24->(cO 0 (aT n)&&cO (aT n) (aT n)&&be (aO (aT n)) b)=M:=λn b hn hb=>by
  have:n*b<=n*24:=Nat.mul_le_mul_left n hb;rw[qG (by simp),qG (by omega),wu (by simp;omega) (by simp;omega)];rfl
 unfold pB zw aX bh bm bT cX gN lz ck bA bt aY cM aB cw;rw[cJ (c _ 24 d (by omega)),cJ (c _ 24 d (by omega)),cJ (c _ 24 h2 (by omega)),cJ (c _ 24 h2 (by omega)),cJ (c _ 24 h1 (by omega)),cJ (c _ 24 q (by omega)),cJ (c _ 24 d (by omega)),cJ (c _ 8 d (by omega))];simp only[aj,cW,cB];have:=ym (σ:=Int×(Y η)×(Y η)×(Y η)×(Y η)×(Y η)×(Y η)×(Y η)×η) (R:=HTp) w.2.2.2.2.1.length (by omega) (λi=>((i:Int),aA w.2.2.2.2.1.length [],aA w.2.2.2.2.1.length [],aA w.2.1.length [],aA w.2.1.length [],aA w.1.length [],aA w.2.2.2.1.length [],aA w.2.2.2.2.1.length [],(gx w.2.2.2.2.1.length).map λk=>if k<i then -1 else 0)) (f:=(λx1=>(aF (fE x1.1 (w.2.2.2.2.1.length:Int)) (chk (eZ x1.1 (ah x1.2.2.2.2.2.2.2.2)) λ_=>(chk (eZ x1.1 (ah x1.2.2.2.2.2.2.2.2)) λ_=>(Z (pM ((ba .i64 (x1.1+1)),x1.2.1,x1.2.2.1,x1.2.2.2.1,x1.2.2.2.2.1,x1.2.2.2.2.2.1,x1.2.2.2.2.2.2.1,x1.2.2.2.2.2.2.2.1,(ct x1.2.2.2.2.2.2.2.2 x1.1 (-1))))))) (Z (bZ (x1.2.1,x1.2.2.1,x1.2.2.2.1,x1.2.2.2.2.1,x1.2.2.2.2.2.1,x1.2.2.2.2.2.2.1,([]:η),x1.2.2.2.2.2.2.2.1,x1.2.2.2.2.2.2.2.2)))))) (r:=h0 w) ?_ ?_
 .refine Eq.trans ?_ this;congr 1;simp only[Int.natCast_zero,wj,dx,aC,AH];apply dA<;>simp
 .intro i hi;simp only[];rw[vH (by omega),dL,cJ (db (by simpa using hi)),cJ (db (by simpa using hi)),qK hi (by omega),gy];congr 3;simp only[aC,AH];apply dA
  .simp
  .intro k h1 h2;simp only[cz,lA]at h2;simp only[ur,qA,nA];by_cases e:i=k
   .subst e;simp
   .by_cases h:k<i
    .rw[aM e,aW h,aW (by omega)]
    .rw[aM e,aM h,aM (by omega)]
 .simp only[];rw[yn (by omega),d8];unfold h0;congr 3;simp only[aC,AH];apply dA
  .simp
  .intro k h1 h2;simp only[cB]at h2;simp only[qA,nA,List.getElem_replicate];rw[aW h2]
theorem vG (x y:Int):gJ x y=max x y:=by
 unfold gJ;by_cases h:x<y
 .rw[vH h,aW rfl];omega
 .rw[yn (by omega)];simp;omega
theorem Wb {a b:η} (hl:a.length=b.length) (h:∀i,a.getD i 0=b.getD i 0):a=b:=by
 apply dA hl;intro i h1 h2;have:=h i;simpa[ay,aw h1,aw h2] using this
def En (n:Int) (c:η):Prop:=c.length<=4/\∀i,0<=c.getD i 0/\c.getD i 0<=n
theorem En.nil {n:Int} (h:0<=n):En n []:=⟨by simp,λi=>by simp;exact h⟩
theorem En.mono {n m:Int} {c:η} (h:En n c) (hm:n<=m):En m c:=⟨h.1,λi=>⟨(h.2 i).1,eT (h.2 i).2 hm⟩⟩
theorem En.jl {n:Int} {a b:η} (d:En n a) (hb:En n b):En n (jl a b):=⟨by rw[zp];have:=d.1;have:=hb.1;omega,λi=>by
 rw[DI];obtain⟨h1,h2⟩:=d.2 i;obtain⟨s,q⟩:=hb.2 i;unfold gJ;split<;>exact⟨by assumption,by assumption⟩⟩
theorem En.tk {n:Int} {c:η} {t:Nat} (h:En n c) (ht:t<4):En (n+1) (tk c t):=⟨by rw[LN];have:=h.1;omega,λi=>by
 rw[Hs];obtain⟨h1,h2⟩:=h.2 i;obtain⟨q,d⟩:=h.2 t;split<;>omega⟩
def AE (n:Int) (l:Y η):Prop:=∀i,En n (l.getD i [])
theorem AE.mono {n m:Int} {l:Y η} (h:AE n l) (hm:n<=m):AE m l:=λi=>(h i).mono hm
theorem AE.set {n:Int} {l:Y η} (h:AE n l) {c:η} (hc:En n c) (j:Nat):AE n (l.set j c):=λi=>by
 rw[ay,oK];by_cases e:j=i
 .subst e;rw[aW rfl];split
  .exact hc
  .have:=h j;simp only[ay]at this;rename_i hj;rw[bK (by omega)]at this;exact this
 .rw[aM e,<-ay];exact h i
theorem AE.repl {n:Int} (h:0<=n) (k:Nat):AE n (aA k []):=λi=>by
 rw[ay,lB];split<;>exact En.nil h
structure HS where
 T:List η
 S:List η
 L:List η
 R:List η
 C:List η
 F:List η
 X:η
 N:List η
 W:η
def HS.t (h:HS):HTp:=(h.T,h.S,h.L,h.R,h.C,h.F,h.X,h.N,h.W)
structure EV where
 th:Nat
 k:Nat
 ob:Nat
 va:Int
abbrev WTc:=Y (ζ×Int)
def mxP (d:WTc) (o:Nat):Nat:=((d.getD o ([],0)).2).toNat
def Ye (d:Y (ζ×Int×Int×Bool×Int)) (o:Nat):Bool:=(d.getD o ([],0,0,aa,0)).2.2.2.1
def AM (w:Dj) (h:HS) (e:EV):Y η:=
 if e.k=1 then [h.S.getD e.th []]
 else if e.k=21 then [h.T.getD e.ob []]
 else if e.k=6\/e.k=10 then [h.L.getD e.ob [],h.R.getD e.ob []]
 else if e.k=8 then [h.L.getD e.ob []]
 else if e.k=17 then [h.L.getD (mxP w.2.2.1 e.ob) [],h.R.getD (mxP w.2.2.1 e.ob) [],h.N.getD e.th []]
 else if e.k=3 then [h.C.getD e.ob []]
 else if e.k=23 then [h.F.getD e.ob []]
 else if e.k=12 then [h.X]
 else []
def JH (w:Dj) (h:HS) (e:EV):η:=tk ((AM w h e).foldl jl (h.T.getD e.th [])) e.th
def jat (l:Y η) (i:Nat) (c:η):Y η:=l.set i (jl (l.getD i []) c)
def BF (p:Nat->Bool) (c:η) (h:HS):HS:={h with N:=h.N.mapIdx λu x=>if p u then c else x,W:=h.W.mapIdx λu x=>if p u then -1 else x}
def ug (w:Dj) (h:HS) (e:EV) (c:η):HS:=
 let h:={h with T:=h.T.set e.th c}
 if e.k=20 then {h with S:=h.S.set e.ob c}
 else if e.k=7\/e.k=11 then {h with L:=jat h.L e.ob c}
 else if e.k=9 then {h with R:=jat h.R e.ob c}
 else if e.k=16 then {h with L:=jat h.L (mxP w.2.2.1 e.ob) c,W:=h.W.set e.th e.ob}
 else if e.k=4 then (if Ye w.1 e.ob then {h with C:=jat h.C e.ob c} else h)
 else if e.k=22 then {h with F:=jat h.F e.ob c}
 else if e.k=13 then {h with X:=jl h.X c}
 else if e.k=18 then (if 0<=e.va/\e.va<h.N.length then {h with N:=h.N.set e.va.toNat c,W:=h.W.set e.va.toNat (-1)} else h)
 else if e.k=19 then BF (λu=>decide (h.W.getD u 0=(e.ob:Int))) c h
 else h
def OP (w:Dj) (h:HS) (e:EV):HS×η:=(ug w h e (JH w h e),JH w h e)
structure EOK (w:Dj) (h:HS) (e:EV):Prop where
 th4:e.th<4
 th:e.th<h.T.length
 k1:1<=e.k
 k2:e.k<=23
 sp:e.k=20\/e.k=21->e.ob<h.T.length
 lk:6<=e.k/\e.k<=11->e.ob<h.L.length
 cd:e.k=16\/e.k=17->e.ob<w.2.2.1.length/\0<=(w.2.2.1.getD e.ob ([],0)).2/\mxP w.2.2.1 e.ob<h.L.length
 ce:e.k=3\/e.k=4->e.ob<h.C.length/\e.ob<w.1.length
 fu:e.k=22\/e.k=23->e.ob<h.F.length
structure UH (n:Int) (h:HS):Prop where
 n0:0<=n
 n1:n<=1000000
 T:AE n h.T
 S:AE n h.S
 L:AE n h.L
 R:AE n h.R
 C:AE n h.C
 F:AE n h.F
 X:En n h.X
 N:AE n h.N
 lT:h.T.length<=1000
 lS:h.S.length=h.T.length
 lN:h.N.length=h.T.length
 lW:h.W.length=h.T.length
 lL:h.L.length<=1000
 lR:h.R.length=h.L.length
 lC:h.C.length<=1000
 lF:h.F.length<=1000
theorem En.lb {n:Int} {c:η} (h:En n c):c.length<=xP:=by have:=h.1;unfold xP;omega
theorem AE.GL {n:Int} {l:Y η} (h:AE n l) (hl:l.length<=1000):GL l:=⟨by unfold xP;omega,λc hc=>by
 obtain⟨i,hi⟩:=eS hc;have:=(h i).lb
 rwa [ay,hi]at this⟩
theorem UH.GH {n:Int} {h:HS} (o:UH n h):GH h.t:=
 ⟨o.T.GL o.lT,o.S.GL (by rw[o.lS];exact o.lT),o.L.GL o.lL,o.R.GL (by rw[o.lR];exact o.lL),o.C.GL o.lC,o.F.GL o.lF,o.X.lb,o.N.GL (by rw[o.lN];exact o.lT),by show h.W.length<=xP;have:=o.lT;rw[o.lW];unfold xP;omega⟩
theorem En.join {n:Int} {a b:η} (d:En n a) (hb:En n b):lx (a,b)=Z (AI.jl a b):=ads a b d.lb hb.lb
theorem Sj {n:Int} {w:Dj} {h:HS} (o:UH n h) (e:EV):∀c∈AM w h e,En n c:=by
 intro c hc;unfold AM at hc;repeat' (split at hc)
 all_goals simp only[bx,cH,gK]at hc
 .subst hc;exact o.S _
 .subst hc;exact o.T _
 .rcases hc with rfl|rfl
  .exact o.L _
  .exact o.R _
 .subst hc;exact o.L _
 .rcases hc with rfl|rfl|rfl
  .exact o.L _
  .exact o.R _
  .exact o.N _
 .subst hc;exact o.C _
 .subst hc;exact o.F _
 .subst hc;exact o.X
theorem Cn {n:Int}:∀(l:Y η) (c:η),En n c->(∀x∈l,En n x)->En n (l.foldl jl c)
 |[],_,hc,_=>hc
 |x::r,c,hc,h=>Cn r _ (hc.jl (h x (ep ..))) λy d=>h y (dk _ d)
theorem Ud {n:Int} {w:Dj} {h:HS} (o:UH n h) {e:EV} (he:e.th<4):En (n+1) (JH w h e):=(Cn _ _ (o.T _) (Sj o e)).tk he
theorem AE.jat {n:Int} {l:Y η} {c:η} (h:AE n l) (hc:En n c) (i:Nat):AE n (jat l i c):=h.set ((h i).jl hc) i
theorem AE.mapIdx {n:Int} {l:Y η} {c:η} (h:AE n l) (hc:En n c) (p:Nat->Bool):AE n (l.mapIdx λu x=>if p u then c else x):=λi=>by
 rw[ay,List.getElem?_mapIdx];have:=h i;rw[ay]at this;cases d:l[i]? with
 |none=>rw[d]at this;exact this
 |some x=>
  rw[d]at this;simp only[bW,uo];split
  .exact hc
  .exact this
theorem acb {n:Int} {w:Dj} {h:HS} (o:UH n h) (hn:n+1<=1000000) {e:EV} {c:η} (hc:En (n+1) c):UH (n+1) (ug w h e c):=by
 have m:n<=n+1:=by omega
 have oT:AE (n+1) (h.T.set e.th c):=(o.T.mono m).set hc _;have b:UH (n+1) {h with T:=h.T.set e.th c}:=⟨by have:=o.n0;omega,hn,oT,o.S.mono m,o.L.mono m,o.R.mono m,o.C.mono m,o.F.mono m,o.X.mono m,o.N.mono m,by simpa using o.lT,by simpa using o.lS,by simpa using o.lN,by simpa using o.lW,o.lL,o.lR,o.lC,o.lF⟩
 unfold ug;simp only[];repeat' split
 .exact {b with S:=(o.S.mono m).set hc _,lS:=by simpa using b.lS}
 .exact {b with L:=(o.L.mono m).jat hc _,lL:=by simpa[jat] using b.lL,lR:=by simpa[jat] using b.lR}
 .exact {b with R:=(o.R.mono m).jat hc _,lR:=by simpa[jat] using b.lR}
 .exact {b with L:=(o.L.mono m).jat hc _,lL:=by simpa[jat] using b.lL,lR:=by simpa[jat] using b.lR,lW:=by simpa using b.lW}
 .exact {b with C:=(o.C.mono m).jat hc _,lC:=by simpa[jat] using b.lC}
 .exact b
 .exact {b with F:=(o.F.mono m).jat hc _,lF:=by simpa[jat] using b.lF}
 .exact {b with X:=(o.X.mono m).jl hc}
 .exact {b with N:=(o.N.mono m).set hc _,lN:=by simpa using b.lN,lW:=by simpa using b.lW}
 .exact b
 .exact {b with N:=(o.N.mono m).mapIdx hc _,lN:=by simpa[BF] using b.lN,lW:=by simpa[BF] using b.lW}
 .exact b
theorem Yn {n:Int} {w:Dj} {h:HS} (o:UH n h) (hn:n+1<=1000000) {e:EV} (he:e.th<4):UH (n+1) (OP w h e).1:=acb o hn (Ud o he)
theorem ZN {a b:Nat} (h:a=b):ax a b=M:=by subst h;exact ru a
theorem Qp (l:Y η) (i:Nat) (h:i<l.length):s7 ((i:Int),l)=Z (l.getD i [],l):=by
 unfold s7 ck bA aY aB;simp only[];rw[yn (by omega)];simp only[d8,mr];rw[Y5 (by simp;omega)];simp only[d8];rw[cJ (db h),cJ (db h),re]
theorem s9 {n:Int} (l:Y η) (i:Nat) (c:η) (h:i<l.length) (hl:AE n l) (hc:En n c):lM ((i:Int),l,c)=Z (jat l i c,c):=by
 unfold lM ck ji aY aB;simp only[];rw[qG (by omega)];simp only[dL,mr];rw[vH (by simp;omega)];simp only[dL];rw[cJ (db h),cJ (db h),re,RJ _ _ (hl i).lb hc.lb,dD,cJ (db h),cJ (db h),gy];rfl
theorem q_ (l:Y η) (i:Nat) (c:η):(jat l i c).length=l.length:=by simp[jat]
theorem UM {n:Int} (h:HS) (u:Nat) (c:η) (h1:u<h.N.length) (h2:u<h.W.length) (hc:En n c):vz ((u:Int),h.X,h.T,h.S,h.L,h.R,h.C,h.F,h.N,h.W,c)=Z (h.X,h.T,h.S,h.L,h.R,h.C,h.F,h.N.set u c,h.W.set u (-1),c):=by
 unfold vz aX bh bm bT cX gN rn um De ck;simp only[];rw[MT c hc.lb,dD,cJ (db h1),cJ (db h1),cJ (db h2),cJ (db h2),gy,gy]
theorem Vb (d:WTc) (i:Nat):aH (T:=.st (.pr .str (.int .i64))) d (i:Int)=d.getD i ([],0):=tQ (T:=.st (.pr .str (.int .i64))) d i
theorem ac3 (d:Y (ζ×Int×Int×Bool×Int)) (i:Nat):aH (T:=.st (.pr .str (.pr (.int .i64) (.pr (.int .i64) (.pr .bool (.int .i64)))))) d (i:Int)=d.getD i ([],0,0,aa,0):=tQ (T:=.st (.pr .str (.pr (.int .i64) (.pr (.int .i64) (.pr .bool (.int .i64)))))) d i
abbrev ETp:Type:=Int×Int×Int×Int×Int×η×η
structure EvT (e:EV) (x:ETp):Prop where
 th:x.1=(e.th:Int)
 k:x.2.1=(e.k:Int)
 ob:e.k∈[3,4,6,7,8,9,10,11,16,17,18,19,20,21,22,23]->x.2.2.1=(e.ob:Int)
 va:x.2.2.2.1=e.va
theorem U5 {k:Nat} {z:Int} (d:z=(k:Int)) (h1:1<=k) (h2:k<=23):(k=1/\z=1)\/(k=2/\z=2)\/(k=3/\z=3)\/(k=4/\z=4)\/(k=5/\z=5)\/(k=6/\z=6)\/(k=7/\z=7)\/(k=8/\z=8)\/(k=9/\z=9)\/(k=10/\z=10)\/(k=11/\z=11)\/(k=12/\z=12)\/(k=13/\z=13)\/(k=14/\z=14)\/(k=15/\z=15)\/(k=16/\z=16)\/(k=17/\z=17)\/(k=18/\z=18)\/(k=19/\z=19)\/(k=20/\z=20)\/(k=21/\z=21)\/(k=22/\z=22)\/(k=23/\z=23):=by
 have h:k=1\/k=2\/k=3\/k=4\/k=5\/k=6\/k=7\/k=8\/k=9\/k=10\/k=11\/k=12\/k=13\/k=14\/k=15\/k=16\/k=17\/k=18\/k=19\/k=20\/k=21\/k=22\/k=23:=by omega
 subst d;rcases h with rfl|rfl|rfl|rfl|rfl|rfl|rfl|rfl|rfl|rfl|rfl|rfl|rfl|rfl|rfl|rfl|rfl|rfl|rfl|rfl|rfl|rfl|rfl<;>simp
theorem Uq (a:Nat):(ax a a&&M)=M:=by rw[ZN rfl];rfl
theorem Z5 {n:Int} {w:Dj} {h:HS} (o:UH n h) {e:EV} (ok:EOK w h e) {x:ETp} (D:EvT e x):tJ (x,h.X,w,h.T,h.S,h.L,h.R,h.C,h.F,h.N,h.W)=Z (AM w h e,x,h.X,w,h.T,h.S,h.L,h.R,h.C,h.F,h.N,h.W):=by
 obtain⟨x1,x2,s,x4,x5,x6,x7⟩:=x;obtain⟨w1,w2,z,w4,w5,w6⟩:=w;obtain⟨th,k,ob,va⟩:=e;obtain⟨q1,q2,q3,q4⟩:=D;simp only at q1 q2 q3 q4;subst q1 q4;have t1:=ok.th;simp only at t1;have fS:eZ (th:Int) h.S.length=M:=db (by rw[o.lS];exact t1);have fN:eZ (th:Int) h.N.length=M:=db (by rw[o.lN];exact t1);have fT:k=21->eZ (ob:Int) h.T.length=M/\s=(ob:Int):=λe=>by
  subst e;have:=ok.sp (.inr rfl);exact⟨db this,q3 (by decide)⟩
 have fL:(k=6\/k=10\/k=8)->eZ (ob:Int) h.L.length=M/\eZ (ob:Int) h.R.length=M/\s=(ob:Int):=λe=>by
  have h1:ob<h.L.length:=ok.lk (by rcases e with rfl|rfl|rfl<;>(simp only[];omega));exact⟨db h1,db (by rw[o.lR];exact h1),q3 (by rcases e with rfl|rfl|rfl<;>decide)⟩
 have fC:k=3->eZ (ob:Int) h.C.length=M/\s=(ob:Int):=λe=>by
  subst e;have:=(ok.ce (.inl rfl)).1;exact⟨db this,q3 (by decide)⟩
 have fF:k=23->eZ (ob:Int) h.F.length=M/\s=(ob:Int):=λe=>by
  subst e;have:=ok.fu (.inr rfl);exact⟨db this,q3 (by decide)⟩
 unfold tJ AM ua aX bh bm bT cX gN rn um De Kj cD dC ck bg mq bt aB;rcases U5 q2 ok.k1 ok.k2 with ⟨e,e'⟩|⟨e,e'⟩|⟨e,e'⟩|⟨e,e'⟩|⟨e,e'⟩|⟨e,e'⟩|⟨e,e'⟩|⟨e,e'⟩|⟨e,e'⟩|⟨e,e'⟩|⟨e,e'⟩|⟨e,e'⟩|⟨e,e'⟩|⟨e,e'⟩|⟨e,e'⟩|⟨e,e'⟩|⟨e,e'⟩|⟨e,e'⟩|⟨e,e'⟩|⟨e,e'⟩|⟨e,e'⟩|⟨e,e'⟩|⟨e,e'⟩<;>clear q2<;>subst e<;>subst e'
 case inr.inr.inr.inr.inr.inr.inr.inr.inr.inr.inr.inr.inr.inr.inr.inr.inl=>
  have q3:=q3 (by decide);subst q3;obtain⟨d1,d2,A⟩:=ok.cd (.inr rfl);simp only at d1 d2 A;have I:mxP z ob<h.R.length:=by rw[o.lR];exact A
  have e1:(z.getD ob ([],0)).2=((mxP z ob:Nat):Int):=by unfold mxP;omega
  simp only[aN,dh,dK,dL,d8,mr,cJ,db d1,Vb,e1,Qp _ _ A,Qp _ _ I,dD,Uq,fN,re];rfl
 case inr.inr.inl=>
  obtain⟨d,rfl⟩:=fC rfl;simp only[aN,dh,dK,dL,d8,mr,cJ,d,re];rfl
 case inr.inr.inr.inr.inr.inr.inr.inr.inr.inr.inr.inr.inr.inr.inr.inr.inr.inr.inr.inr.inr.inr=>
  obtain⟨d,rfl⟩:=fF rfl;simp only[aN,dh,dK,dL,d8,mr,cJ,d,re];rfl
 case inr.inr.inr.inr.inr.inr.inr.inr.inr.inr.inr.inr.inr.inr.inr.inr.inr.inr.inr.inr.inl=>
  obtain⟨d,rfl⟩:=fT rfl;simp only[aN,dh,dK,dL,d8,mr,cJ,d,re];rfl
 case inl=>
  simp only[aN,dh,dK,dL,d8,mr,cJ,fS,re];rfl
 case inr.inr.inr.inr.inr.inl=>
  obtain⟨d,q,rfl⟩:=fL (by decide);simp only[aN,dh,dK,dL,d8,mr,cJ,d,q,re];rfl
 case inr.inr.inr.inr.inr.inr.inr.inr.inr.inl=>
  obtain⟨d,q,rfl⟩:=fL (by decide);simp only[aN,dh,dK,dL,d8,mr,cJ,d,q,re];rfl
 case inr.inr.inr.inr.inr.inr.inr.inl=>
  obtain⟨d,q,rfl⟩:=fL (by decide);simp only[aN,dh,dK,dL,d8,mr,cJ,d,q,re];rfl
 all_goals
  simp only[aN,dh,dK,dL,d8,mr];rfl
theorem Ma {σ R:Type} {f:σ->J (σ⊕R)} {x0:σ} {r:R} (n:Nat) (hn:n<18446744073709551616) (st:Nat->σ) (d:x0=st 0) (h0:∀i,i<n->f (st i)=Z (.inl (st (i+1)))) (h1:f (st n)=Z (.inr r)):gp f x0=Z r:=by
 subst d;exact ym n hn st h0 h1
def Kn {α:Type} (p:Nat->Bool) (c:α) (u:Nat) (l:Y α):Y α:=l.mapIdx λk x=>if decide (k<u)&&p k then c else x
theorem Yb {α:Type} (p:Nat->Bool) (c:α) (l:Y α):Kn p c 0 l=l:=by
 unfold Kn;apply dA
 .simp
 .intro i h1 h2;simp
theorem Hq {α:Type} (p:Nat->Bool) (c:α) (u:Nat) (l:Y α):(Kn p c u l).length=l.length:=by simp[Kn]
theorem OK {α:Type} (p:Nat->Bool) (c:α) (u:Nat) (l:Y α) (h:l.length<=u):Kn p c u l=l.mapIdx λk x=>if p k then c else x:=by
 unfold Kn;apply dA
 .simp
 .intro i h1 h2;simp only[List.length_mapIdx]at h1;simp only[List.getElem_mapIdx];rw[show decide (i<u)=M from bl (by omega)];rfl
theorem UK {α:Type} (p:Nat->Bool) (c:α) (u:Nat) (l:Y α) (hp:p u=M):(Kn p c u l).set u c=Kn p c (u+1) l:=by
 unfold Kn;apply dA
 .simp
 .intro i h1 h2;simp only[ur,List.getElem_mapIdx];by_cases e:u=i
  .subst e;simp[hp]
  .rw[aM e];by_cases h:i<u
   .rw[bl h,bl (show i<u+1 by omega)]
   .rw[bF h,bF (show ¬i<u+1 by omega)]
theorem OJ {α:Type} (p:Nat->Bool) (c:α) (u:Nat) (l:Y α) (hp:p u=aa):Kn p c u l=Kn p c (u+1) l:=by
 unfold Kn;apply dA
 .simp
 .intro i h1 h2;simp only[List.getElem_mapIdx];by_cases e:u=i
  .subst e;simp[hp]
  .by_cases h:i<u
   .rw[bl h,bl (show i<u+1 by omega)]
   .rw[bF h,bF (show ¬i<u+1 by omega)]
theorem af0 (p:Nat->Bool) (c:Int) (u:Nat) (l:η):(Kn p c u l).getD u 0=l.getD u 0:=by
 unfold Kn;rw[ay,List.getElem?_mapIdx,ay];cases l[u]? with
 |none=>rfl
 |some x=>simp
def HS.e (h:HS) (c:η):η×Y η×Y η×Y η×Y η×Y η×Y η×Y η×η×η:=(h.X,h.T,h.S,h.L,h.R,h.C,h.F,h.N,h.W,c)
theorem Zr {n:Int} {w:Dj} {h:HS} (o:UH n h) (hn:n+1<=1000000) {e:EV} (ok:EOK w h e) {x:ETp} (hx:EvT e x) {c:η} (hc:En (n+1) c):qX ((w,x),h.e c)=Z ((ug w h e c).e c):=by
 obtain⟨x1,x2,x3,d,x5,x6,x7⟩:=x;obtain⟨w1,w2,z,w4,I,D⟩:=w;obtain⟨th,k,ob,va⟩:=e;obtain⟨q1,q2,q3,q4⟩:=hx;simp only at q1 q2 q3 q4;subst q1 q4;have t1:=ok.th;simp only at t1;have m:n<=n+1:=by omega
 have fT:eZ (th:Int) h.T.length=M:=db t1;have fW:eZ (th:Int) h.W.length=M:=db (by rw[o.lW];exact t1);have s:=MT c hc.lb;unfold qX zu HS.e ua yZ Kk Prod.p13 Prod.p14 Prod.p15 Prod.p16 Prod.p17 aX bh bm bT cX gN rn um De Prod.q16 Prod.q17 Prod.q18 cD gd GW ck bg bA ji mq bt aY cM aB cw;rcases U5 q2 ok.k1 ok.k2 with ⟨e,e'⟩|⟨e,e'⟩|⟨e,e'⟩|⟨e,e'⟩|⟨e,e'⟩|⟨e,e'⟩|⟨e,e'⟩|⟨e,e'⟩|⟨e,e'⟩|⟨e,e'⟩|⟨e,e'⟩|⟨e,e'⟩|⟨e,e'⟩|⟨e,e'⟩|⟨e,e'⟩|⟨e,e'⟩|⟨e,e'⟩|⟨e,e'⟩|⟨e,e'⟩|⟨e,e'⟩|⟨e,e'⟩|⟨e,e'⟩|⟨e,e'⟩<;>clear q2<;>subst e<;>subst e'
 case inr.inr.inr.inr.inr.inr.inr.inr.inr.inr.inr.inr.inr.inr.inr.inr.inr.inr.inr.inl=>
  obtain rfl:=q3 (by decide);have f:eZ (ob:Int) h.S.length=M:=db (by rw[o.lS];exact ok.sp (.inl rfl));simp only[aN,dh,dK,dL,d8,mr,dD,cJ,s,fT,f,gy];rfl
 case inr.inr.inr.inr.inr.inr.inl=>
  obtain rfl:=q3 (by decide);have f:ob<h.L.length:=ok.lk (by simp only[];omega);simp only[aN,dh,dK,dL,d8,mr,dD,cJ,s,fT,gy,s9 _ _ _ f (o.L.mono m) hc,q_,Uq];rfl
 case inr.inr.inr.inr.inr.inr.inr.inr.inr.inr.inl=>
  obtain rfl:=q3 (by decide);have f:ob<h.L.length:=ok.lk (by simp only[];omega);simp only[aN,dh,dK,dL,d8,mr,dD,cJ,s,fT,gy,s9 _ _ _ f (o.L.mono m) hc,q_,Uq];rfl
 case inr.inr.inr.inr.inr.inr.inr.inr.inl=>
  obtain rfl:=q3 (by decide);have f:ob<h.R.length:=by rw[o.lR];exact ok.lk (by simp only[];omega)
  simp only[aN,dh,dK,dL,d8,mr,dD,cJ,s,fT,gy,s9 _ _ _ f (o.R.mono m) hc,q_,Uq];rfl
 case inr.inr.inr.inr.inr.inr.inr.inr.inr.inr.inr.inr.inr.inr.inr.inl=>
  obtain rfl:=q3 (by decide);obtain⟨d1,d2,d3⟩:=ok.cd (.inl rfl);simp only at d1 d2 d3;have e1:(z.getD ob ([],0)).2=((mxP z ob:Nat):Int):=by unfold mxP;omega
  simp only[aN,dh,dK,dL,d8,mr,dD,cJ,s,fT,fW,gy,db d1,Vb,e1,s9 _ _ _ d3 (o.L.mono m) hc,q_,Uq];rfl
 case inr.inr.inr.inl=>
  obtain rfl:=q3 (by decide);obtain⟨d1,d2⟩:=ok.ce (.inr rfl);simp only at d1 d2;simp only[aN,dh,dK,dL,d8,mr,dD,cJ,s,fT,gy,db d2,ac3];cases hv:(w1.getD ob ([],0,0,aa,0)).2.2.2.1 with
  |true=>
   simp only[dL,dD,cJ,s9 _ _ _ d1 (o.C.mono m) hc,q_,Uq,mr];have A:ug (w1,w2,z,w4,I,D) h ⟨th,4,ob,d⟩ c=if Ye w1 ob then {h with T:=h.T.set th c,C:=jat h.C ob c} else {h with T:=h.T.set th c}:=rfl
   rw[A,show Ye w1 ob=M from hv];rfl
  |false=>
   simp only[d8,mr];have A:ug (w1,w2,z,w4,I,D) h ⟨th,4,ob,d⟩ c=if Ye w1 ob then {h with T:=h.T.set th c,C:=jat h.C ob c} else {h with T:=h.T.set th c}:=rfl
   rw[A,show Ye w1 ob=aa from hv];rfl
 case inr.inr.inr.inr.inr.inr.inr.inr.inr.inr.inr.inr.inr.inr.inr.inr.inr.inr.inr.inr.inr.inl=>
  obtain rfl:=q3 (by decide);have f:ob<h.F.length:=ok.fu (.inl rfl);simp only[aN,dh,dK,dL,d8,mr,dD,cJ,s,fT,gy,s9 _ _ _ f (o.F.mono m) hc,q_,Uq];rfl
 case inr.inr.inr.inr.inr.inr.inr.inr.inr.inr.inr.inr.inl=>
  simp only[aN,dh,dK,dL,d8,mr,dD,cJ,s,fT,gy,RJ _ _ (o.X.mono m).lb hc.lb];rfl
 case inr.inr.inr.inr.inr.inr.inr.inr.inr.inr.inr.inr.inr.inr.inr.inr.inr.inl=>
  simp only[aN,dh,dK,dL,d8,mr,dD,cJ,s,fT,gy];have A:ug (w1,w2,z,w4,I,D) h ⟨th,18,ob,d⟩ c=if 0<=d/\d<h.N.length then {h with T:=h.T.set th c,N:=h.N.set d.toNat c,W:=h.W.set d.toNat (-1)} else {h with T:=h.T.set th c}:=rfl
  rw[A];by_cases h0:0<=d
  .by_cases h1:d<h.N.length
   .rw[qG h0];simp only[dL,mr];rw[vH (show d<aT h.N.length from h1)];obtain⟨v,rfl⟩:∃v:Nat,d=(v:Int):=⟨d.toNat,by omega⟩
    have v1:v<h.N.length:=by omega
    have v2:v<h.W.length:=by rw[o.lW,<-o.lN];exact v1
    have:=UM {h with T:=h.T.set th c} v c v1 v2 hc;simp only[]at this;simp only[dL,this,dD,EA,cJ,ZN rfl,jE,mr];rw[aW ⟨h0,h1⟩];rfl
   .rw[qG h0];simp only[dL,mr];rw[yn (show aT h.N.length<=d from Int.not_lt.1 h1)];simp only[d8,mr];rw[aM (λq=>h1 q.2)]
  .rw[Y5 (by omega)];simp only[d8,mr];rw[aM (λq=>h0 q.1)]
 case inr.inr.inr.inr.inr.inr.inr.inr.inr.inr.inr.inr.inr.inr.inr.inr.inr.inr.inl=>
  obtain rfl:=q3 (by decide);simp only[aN,dh,dK,dL,d8,mr,dD,cJ,s,fT,gy];rw[Ma (r:=bZ (h.X,h.T.set th c,h.S,h.L,h.R,h.C,h.F,Kn (λu=>decide (h.W.getD u 0=(ob:Int))) c h.W.length h.N,Kn (λu=>decide (h.W.getD u 0=(ob:Int))) (-1) h.W.length h.W,c)) h.W.length (by have:=o.lW;have:=o.lT;omega)
   (λi=>((i:Int),h.X,h.T.set th c,h.S,h.L,h.R,h.C,h.F,Kn (λu=>decide (h.W.getD u 0=(ob:Int))) c i h.N,Kn (λu=>decide (h.W.getD u 0=(ob:Int))) (-1) i h.W,c,(th:Int),(19:Int),(ob:Int),d,x5,x6,x7)) ?_ ?_ ?_]
  .simp only[mr];rw[OK _ _ _ h.W (cN _),OK _ _ _ h.N (by rw[o.lN,o.lW];exact cN _)];rfl
  .simp only[Yb];rfl
  .intro i hi;simp only[];have hN:i<(Kn (λu=>decide (h.W.getD u 0=(ob:Int))) c i h.N).length:=by rw[Hq,o.lN,<-o.lW];exact hi
   have hW:i<(Kn (λu=>decide (h.W.getD u 0=(ob:Int))) (-1) i h.W).length:=by rw[Hq];exact hi
   rw[vH (by simp;omega),dL,cJ (db hW),cJ (db hW),afd,af0];have ws:=qK hi (show h.W.length<=1099511627776 by have:=o.lW;have:=o.lT;omega);by_cases hp:h.W.getD i 0=(ob:Int)
   .rw[bl hp,dL];have:=UM {h with T:=h.T.set th c,N:=Kn (λu=>decide (h.W.getD u 0=(ob:Int))) c i h.N,W:=Kn (λu=>decide (h.W.getD u 0=(ob:Int))) (-1) i h.W} i c hN hW hc;simp only[]at this;rw[this,dD,cJ (by simp only[EA,ZN rfl,jE]),mr,ws,UK _ _ _ _ (bl hp),UK _ _ _ _ (bl hp)]
   .rw[bF hp,d8,mr,ws,<-OJ _ _ _ _ (bF hp),<-OJ _ _ _ _ (bF hp)]
  .simp only[];rw[yn (by simp),d8]
 all_goals
  simp only[aN,dh,dK,dL,d8,mr,dD,cJ,s,fT,gy];rfl
theorem Tr (l:Y η) (c:η) (i:Nat) (hi:i<l.length):(l.take (i+1)).foldl jl c=jl ((l.take i).foldl jl c) (l.getD i []):=by
 rw[List.take_add_one,jU,aw hi,ay,aw hi];rfl
theorem OT (w:Dj) (h:HS) (e:EV):(AM w h e).length<=3:=by
 unfold AM;repeat' split
 all_goals simp
theorem afm {n:Int} {w:Dj} {h:HS} (o:UH n h) (e:EV) (i:Nat):0<=((AM w h e).foldl jl (h.T.getD e.th [])).getD i 0/\((AM w h e).foldl jl (h.T.getD e.th [])).getD i 0<9223372036854775807:=by
 have:=(Cn _ _ (o.T e.th) (Sj (w:=w) o e)).2 i;have:=o.n1;omega
theorem E6 (w:Dj) (h:HS) (e:EV) (c:η):(ug w h e c).T.length=h.T.length/\(ug w h e c).S.length=h.S.length/\(ug w h e c).L.length=h.L.length/\(ug w h e c).R.length=h.R.length/\(ug w h e c).C.length=h.C.length/\(ug w h e c).F.length=h.F.length/\(ug w h e c).N.length=h.N.length/\(ug w h e c).W.length=h.W.length:=by
 unfold ug;simp only[];repeat' split
 all_goals simp[jat,BF]
theorem ad8 {n:Int} {w:Dj} {h:HS} (o:UH n h) (hn:n+1<=1000000) {e:EV} (ok:EOK w h e) {x:ETp} (A:EvT e x):rX (w,h.t,x)=Z ((OP w h e).1.t,(OP w h e).2):=by
 have s2:=Z5 o ok A;have hce:En (n+1) (JH w h e):=Ud o ok.th4;have en:=Zr o hn ok A hce;have D:=WX h.t o.GH;have sl:=OT w h e;have sE:=Sj (w:=w) o e;have hlen:=E6 w h e (JH w h e);obtain⟨x1,x2,x3,x4,x5,x6,I⟩:=x;obtain⟨w1,w2,z,s,q,d⟩:=w;have t1:=A.th;simp only at t1;subst t1;unfold HS.t at D;simp only[]at D;have fT:eZ (e.th:Int) h.T.length=M:=db ok.th;unfold rX Ck HS.t ua yZ aX bh bm bT cX gN rn um Kj Prod.q12 cD dC lz GW ck bA mq bt aY cM cw;simp only[];rw[D,dD];simp only[];rw[cJ fT,cJ fT,s2,dD];simp only[];rw[cJ (by simp only[ZN rfl,jE])];refine Ma (AM (w1,w2,z,s,q,d) h e).length (by omega) (λi=>((i:Int),(w1,w2,z,s,q,d),((e.th:Int),x2,x3,x4,x5,x6,I),h.X,((AM (w1,w2,z,s,q,d) h e).take i).foldl jl (h.T.getD e.th []),h.T,h.S,h.L,h.R,h.C,h.F,h.N,h.W)) ?_ ?_ ?_
 .simp only[re,List.take_zero,List.foldl_nil];rfl
 .intro i hi;simp only[];rw[vH (by simp;omega),dL,cJ (db hi),re,(Cn _ _ (o.T e.th) (λy hy=>sE y (fH hy))).join (sE _ (ID hi)),dD,qK hi (by omega),Tr _ _ _ hi]
 .simp only[];rw[yn (by simp),d8,fO (cN _)];have hl:=afm (w:=(w1,w2,z,s,q,d)) o e e.th;rw[ad5 _ e.th (Cn _ _ (o.T e.th) sE).lb ok.th4 hl.1 hl.2,dD];unfold HS.e at en;unfold JH at en hlen;rw[en,dD];simp only[];rw[cJ (by rw[hlen.1,hlen.2.1,hlen.2.2.1,hlen.2.2.2.1,hlen.2.2.2.2.1,hlen.2.2.2.2.2.1,hlen.2.2.2.2.2.2.1,hlen.2.2.2.2.2.2.2];simp only[ZN rfl,jE])];rfl
abbrev G2:Ty:=(.st (.pr (.int .i64) (.sl (.st (.pr (.int .i64) (.pr (.int .i64) (.pr (.int .i64) (.pr (.int .i64) (.pr (.int .i64) (.int .i64))))))))))
abbrev UN:Ty:=(.st (.pr (.int .i64) (.pr (.int .i64) (.pr (.int .i64) (.pr (.int .i64) (.pr (.int .i64) (.int .i64)))))))
abbrev EH:Ty:=(.st (.pr (.int .i64) (.pr (.sl (.int .i64)) (.pr (.sl (.sl (.int .i64))) (.int .i64)))))
abbrev Ht:Ty:=(.st (.pr .str (.pr (.int .i64) (.pr (.sl .str) (.sl .sm)))))
abbrev tDc:Ty:=(.st (.pr (.int .i64) (.pr (.int .i64) (.pr .str (.pr (.int .i64) (.pr (.int .i64) .str))))))
abbrev tE:Ty:=(.st (.pr (.int .i64) (.pr (.int .i64) (.pr (.int .i64) (.pr (.int .i64) (.pr (.int .i64) (.pr (.sl (.int .i64)) (.sl (.int .i64)))))))))
abbrev xM:Ty:=(.st (.pr .str .bool))
abbrev OD:Ty:=(.st (.pr .str (.pr (.int .i64) (.pr (.int .i64) (.pr .bool (.int .i64))))))
abbrev Dh:Ty:=(.st (.pr (.int .i64) (.pr (.int .i64) (.int .i64))))
abbrev pL:Ty:=(.st (.pr .str (.int .i64)))
abbrev tf:Ty:=(.st (.pr (.int .i64) (.sl (.int .i64))))
abbrev uO:Ty:=(.st (.pr (.int .i64) (.pr (.int .i64) .bool)))
def Ok {R:Type} (o:J R) (Q:R->Prop):Prop:=∃y,o=Z y/\Q y
theorem Ok.mono {R:Type} {o:J R} {Q Q':R->Prop} (h:Ok o Q) (hq:∀y,Q y->Q' y):Ok o Q':=by obtain⟨y,h1,h2⟩:=h;exact⟨y,h1,hq y h2⟩
theorem Ok.and {R:Type} {o:J R} {Q Q':R->Prop} (h:Ok o Q) (h':Ok o Q'):Ok o λy=>Q y/\Q' y:=by
 obtain⟨y,h1,h2⟩:=h;obtain⟨z,d,q⟩:=h';rw[h1]at d;cases d;exact⟨y,h1,h2,q⟩
theorem ai {R:Type} {y:R} {Q:R->Prop} (h:Q y):Ok (Z y) Q:=⟨y,rfl,h⟩
theorem YG {R:Type} {o:J R} {y:R} {Q:R->Prop} (e:o=Z y) (h:Q y):Ok o Q:=⟨y,e,h⟩
theorem a_ {R:Type} {b:Bool} {k:J R} {Q:R->Prop} (h:b=M) (hk:Ok k Q):Ok (chk b λ_=>k) Q:=by subst h;exact hk
theorem aJ {R:Type} {b:Bool} {t f:J R} {Q:R->Prop} (ht:b=M->Ok t Q) (hf:b=aa->Ok f Q):Ok (aF b t f) Q:=by
 cases b with
 |true=>exact ht rfl
 |false=>exact hf rfl
theorem eW {R:Type} {b:Bool} {t f:J R} {Q:R->Prop} (h:b=M) (ht:Ok t Q):Ok (aF b t f) Q:=by subst h;exact ht
theorem jG {R:Type} {b:Bool} {t f:J R} {Q:R->Prop} (h:b=aa) (hf:Ok f Q):Ok (aF b t f) Q:=by subst h;exact hf
theorem ar {α R:Type} {o:J α} {k:α->J R} {P:α->Prop} {Q:R->Prop} (h:Ok o P) (hk:∀x,P x->Ok (k x) Q):Ok (av o k) Q:=by
 obtain⟨x,rfl,d⟩:=h;exact hk x d
theorem aS {α R:Type} {o:J α} {k:α->J R} {x:α} {Q:R->Prop} (h:o=Z x) (hk:Ok (k x) Q):Ok (av o k) Q:=by subst h;exact hk
theorem aV {α R:Type} {x:α} {k:α->J R} {Q:R->Prop} (h:Ok (k x) Q):Ok (lt x k) Q:=h
theorem aU {α R:Type} {o:J (R⊕α)} {k:α->J R} {Q:R->Prop} (P:α->Prop) (h:Ok o λr=>match r with|.inl r=>Q r|.inr x=>P x) (hk:∀x,P x->Ok (k x) Q):Ok (jn o k) Q:=by
 obtain⟨r,rfl,hr⟩:=h;cases r with
 |inl r=>exact⟨r,rfl,hr⟩
 |inr x=>exact hk x hr
theorem fP {α R:Type} {o:J (R⊕α)} {k:α->J R} {Q:R->Prop} (h:Ok o λr=>match r with|.inl r=>Q r|.inr x=>Ok (k x) Q):Ok (jn o k) Q:=aU (λx=>Ok (k x) Q) h λ_ h=>h
theorem abj {α R:Type} {a b:α} {r:J R} {Q:R->Prop} (e:a=b) (h:Ok r Q):Ok (same a b r) Q:=by unfold same;rw[aW e];exact h
theorem mB {σ R:Type} {f:σ->J (σ⊕R)} {Q:R->Prop} (μ:σ->Nat) (I:σ->Prop) (h:∀x,I x->Ok (f x) λr=>match r with|.inl y=>I y/\μ y<μ x|.inr r=>Q r) {x:σ} (d:I x):Ok (iter f x) Q:=by
 have key:∀n x,μ x<n->I x->∃m r,iterN f m x=Z r/\Q r:=by
  intro n;induction n with
  |zero=>intro x hm;omega
  |succ n q=>
   intro x hm d;obtain⟨r,h1,h2⟩:=h x d;cases r with
   |inl y=>
    obtain⟨m,r,z,s⟩:=q y (by have:=h2.2;omega) h2.1;exact⟨m+1,r,by rw[iterN,h1];exact z,s⟩
   |inr r=>exact⟨1,r,by rw[iterN,h1],h2⟩
 obtain⟨m,r,h1,h2⟩:=key (μ x+1) x (qy _) d;exact⟨r,Ie h1,h2⟩
theorem b9 {σ R:Type} {f:σ->J (σ⊕R)} {Q:R->Prop} (n:Nat) (I:Nat->σ->Prop) (h0:∀i x,i<n->I i x->Ok (f x) λr=>match r with|.inl y=>I (i+1) y|.inr r=>Q r) (h1:∀x,I n x->Ok (f x) λr=>match r with|.inl _=>False|.inr r=>Q r) {x:σ} (s:I 0 x):Ok (iter f x) Q:=by
 have key:∀m i x,i+m=n->I i x->∃k r,iterN f k x=Z r/\Q r:=by
  intro m;induction m with
  |zero=>
   intro i x hi s;have:i=n:=by omega
   subst this;obtain⟨r,q,d⟩:=h1 x s;cases r with
   |inl y=>exact d.elim
   |inr r=>exact⟨1,r,by rw[iterN,q],d⟩
  |succ m z=>
   intro i x hi s;obtain⟨r,q,d⟩:=h0 i x (by omega) s;cases r with
   |inl y=>
    obtain⟨k,r,D,A⟩:=z (i+1) y (by omega) d;exact⟨k+1,r,by rw[iterN,q];exact D,A⟩
   |inr r=>exact⟨1,r,by rw[iterN,q],d⟩
 obtain⟨m,r,q,d⟩:=key n 0 x (by omega) s;exact⟨r,Ie q,d⟩
theorem Nk {j:Int} {n:Nat}:eZ j n=M↔0<=j/\j<n:=by simp[eZ,cO,fE]
theorem oQ {a b:Int}:cO a b=M↔a<=b:=by simp[cO]
theorem lQ {a b:Int}:fE a b=M↔a<b:=by simp[fE]
theorem fD {a b:Int}:fE a b=aa↔b<=a:=by simp[fE]
theorem ko {a b:Int}:cO a b=aa↔b<a:=by simp[cO]
theorem zg {n b:Nat}:be n b=M↔n<=1099511627776/\n*b<=1099511627776:=by simp[be]
theorem b6 {R:Type} {o:J R} {v:R} (h:Ok o (·=v)):o=Z v:=by obtain⟨y,h1,h2⟩:=h;rw[h1,h2]
section steps
variable {R:Type} {k t f:J R} {Q:R->Prop}
theorem aK {j:Int} {n:Nat} (h0:0<=j) (h1:j<n) (hk:Ok k Q):Ok (chk (eZ j n) λ_=>k) Q:=a_ (Nk.2 ⟨h0,h1⟩) hk
theorem aZ {n b:Nat} (h0:n<=1073741824) (h1:b<=1024) (hk:Ok k Q):Ok (chk (be n b) λ_=>k) Q:=
 a_ (zg.2 ⟨by omega,cY (Nat.mul_le_mul h0 h1) (by omega)⟩) hk
theorem cR {a b:Bool} (h:Ok (chk a λ_=>chk b λ_=>k) Q):Ok (chk (a&&b) λ_=>k) Q:=by
 cases a with
 |true=>exact h
 |false=>obtain⟨y,h,_⟩:=h;cases h
theorem dv {a b:Int} (h:a<=b) (hk:Ok k Q):Ok (chk (cO a b) λ_=>k) Q:=a_ (oQ.2 h) hk
theorem rA {a b:Int} (h:a<b) (hk:Ok k Q):Ok (chk (fE a b) λ_=>k) Q:=a_ (lQ.2 h) hk
theorem Na {p:Prop} {i:Decidable p} (h:p) (hk:Ok k Q):Ok (chk (decide p) λ_=>k) Q:=a_ (bl h) hk
theorem vo {p:Prop} {i:Decidable p} (h:¬p) (hk:Ok k Q):Ok (chk (!decide p) λ_=>k) Q:=a_ (by simp[h]) hk
theorem lI {a b:Nat} (h:a=b) (hk:Ok k Q):Ok (chk (ax a b) λ_=>k) Q:=a_ (by subst h;exact ru a) hk
theorem Aa (hk:Ok k Q):Ok (chk M λ_=>k) Q:=hk
theorem aQ {a b:Int} (ht:a<b->Ok t Q) (hf:b<=a->Ok f Q):Ok (aF (fE a b) t f) Q:=aJ (λh=>ht (lQ.1 h)) (λh=>hf (fD.1 h))
theorem dV {a b:Int} (ht:a<=b->Ok t Q) (hf:b<a->Ok f Q):Ok (aF (cO a b) t f) Q:=aJ (λh=>ht (oQ.1 h)) (λh=>hf (ko.1 h))
theorem aE {p:Prop} {i:Decidable p} (ht:p->Ok t Q) (hf:¬p->Ok f Q):Ok (aF (decide p) t f) Q:=aJ (λh=>ht (bf h)) (λh=>hf (jF h))
theorem bY {p:Prop} {i:Decidable p} (ht:¬p->Ok t Q) (hf:p->Ok f Q):Ok (aF (!decide p) t f) Q:=aJ (λh=>ht (by simpa using h)) (λh=>hf (by simpa using h))
theorem cV {b:Bool} (ht:b=aa->Ok t Q) (hf:b=M->Ok f Q):Ok (aF (!b) t f) Q:=aJ (λh=>ht (by simpa using h)) (λh=>hf (by simpa using h))
theorem ux (ht:Ok t Q):Ok (aF M t f) Q:=ht
theorem fw (hf:Ok f Q):Ok (aF aa t f) Q:=hf
theorem dW {j:Int} {n:Nat} (hk:Ok k Q) (h0:0<=j:=by first|omega|(dsimp only;omega)) (h1:j<n:=by first|omega|(dsimp only;omega)):Ok (chk (eZ j n) λ_=>k) Q:=aK h0 h1 hk
theorem ic {a b:Int} (ht:Ok t Q) (h:a<b:=by first|omega|(dsimp only[aj];omega)):Ok (aF (fE a b) t f) Q:=aQ (λ_=>ht) λg=>dR h (Int.not_lt.2 g)
theorem gP {a b:Int} (hf:Ok f Q) (h:b<=a:=by first|omega|(dsimp only[aj];omega)):Ok (aF (fE a b) t f) Q:=aQ (λg=>dR g (Int.not_lt.2 h)) λ_=>hf
end steps
theorem ol:(∀(p:Prop) [Decidable p],(decide p=M)=p)/\(∀p:Prop,(True\/p)=True)/\(∀p:Prop,(p\/True)=True)/\(∀p:Prop,(True->p)=p)/\(∀p:Prop,(True/\p)=p)/\∀p:Prop,(p/\True)=p:=⟨λ_=>bB,true_or,or_true,λ_=>true_implies _,AH,and_true⟩
theorem kG:(∀i:Decidable True,@decide True i=M)/\(∀i:Decidable False,@decide False i=aa)/\(∀{R:Type} (t f:J R),aF M t f=t)/\(∀{R:Type} (t f:J R),aF aa t f=f)/\(∀{α R:Type} (x:α) (k:α->J R),jn (Z (.inr x)) k=k x)/\(∀{α R:Type} (r:R) (k:α->J R),jn (Z (.inl r)) k=Z r)/\(∀{α R:Type} (x:α) (k:α->J R),av (Z x) k=k x)/\(∀{α R:Type} (x:α) (k:α->J R),lt x k=k x)/\(!M)=aa/\(!aa)=M:=⟨dK,dh,λ_ _=>rfl,λ_ _=>rfl,λ_ _=>rfl,λ_ _=>rfl,λ_ _=>rfl,λ_ _=>rfl,rfl,rfl⟩
structure IM (p q:Prop):Prop where
 h:p->q
inductive OS {R:Type}:Option R->(R->Prop)->Prop where
 |cand {a b:Bool} {k:Option R} {Q:R->Prop} (h:Ok (chk a λ_=>chk b λ_=>k) Q):OS (chk (a&&b) λ_=>k) Q
 |eZ {j:Int} {n:Nat} {k:Option R} {Q:R->Prop} (h0:0<=j) (h1:j<n) (hk:Ok k Q):OS (chk (eZ j n) λ_=>k) Q
 |room {n b:Nat} {k:Option R} {Q:R->Prop} (h0:n<=1073741824) (h1:b<=1024) (hk:Ok k Q):OS (chk (be n b) λ_=>k) Q
 |cile {a b:Int} {k:Option R} {Q:R->Prop} (h:a<=b) (hk:Ok k Q):OS (chk (cO a b) λ_=>k) Q
 |cilt {a b:Int} {k:Option R} {Q:R->Prop} (h:a<b) (hk:Ok k Q):OS (chk (fE a b) λ_=>k) Q
 |cdec {p:Prop} {i:Decidable p} {k:Option R} {Q:R->Prop} (h:p) (hk:Ok k Q):OS (chk (decide p) λ_=>k) Q
 |cndec {p:Prop} {i:Decidable p} {k:Option R} {Q:R->Prop} (h:¬p) (hk:Ok k Q):OS (chk (!decide p) λ_=>k) Q
 |cbeq {a b:Nat} {k:Option R} {Q:R->Prop} (h:a=b) (hk:Ok k Q):OS (chk (ax a b) λ_=>k) Q
 |cT {k:Option R} {Q:R->Prop} (hk:Ok k Q):OS (chk M λ_=>k) Q
 |lt {α:Type} {x:α} {k:α->Option R} {Q:R->Prop} (h:Ok (k x) Q):OS (lt x k) Q
 |b1 {t f:Option R} {Q:R->Prop} (h:Ok t Q):OS (aF M t f) Q
 |b0 {t f:Option R} {Q:R->Prop} (h:Ok f Q):OS (aF aa t f) Q
 |fE {a b:Int} {t f:Option R} {Q:R->Prop} (ht:IM (a<b) (Ok t Q)) (hf:IM (b<=a) (Ok f Q)):OS (aF (fE a b) t f) Q
 |cO {a b:Int} {t f:Option R} {Q:R->Prop} (ht:IM (a<=b) (Ok t Q)) (hf:IM (b<a) (Ok f Q)):OS (aF (cO a b) t f) Q
 |dec {p:Prop} {i:Decidable p} {t f:Option R} {Q:R->Prop} (ht:IM p (Ok t Q)) (hf:IM (¬p) (Ok f Q)):OS (aF (decide p) t f) Q
 |ndec {p:Prop} {i:Decidable p} {t f:Option R} {Q:R->Prop} (ht:IM (¬p) (Ok t Q)) (hf:IM p (Ok f Q)):OS (aF (!decide p) t f) Q
 |not {b:Bool} {t f:Option R} {Q:R->Prop} (ht:IM (b=aa) (Ok t Q)) (hf:IM (b=M) (Ok f Q)):OS (aF (!b) t f) Q
 |aF {b:Bool} {t f:Option R} {Q:R->Prop} (ht:IM (b=M) (Ok t Q)) (hf:IM (b=aa) (Ok f Q)):OS (aF b t f) Q
 |jc {α:Type} {o:Option (R⊕α)} {k:α->Option R} {Q:R->Prop} (h:Ok o λr=>match r with|.inl r=>Q r|.inr x=>Ok (k x) Q):OS (jn o k) Q
 |some {y:R} {Q:R->Prop} (h:Q y):OS (Z y) Q
theorem OS.ok {R:Type} {o:J R} {Q:R->Prop} (h:OS o Q):Ok o Q:=by
 cases h with
 |cand h=>exact cR h
 |eZ a b h=>exact aK a b h
 |room a b h=>exact aZ a b h
 |cile a h=>exact dv a h
 |cilt a h=>exact rA a h
 |cdec a h=>exact Na a h
 |cndec a h=>exact vo a h
 |cbeq a h=>exact lI a h
 |cT h=>exact h
 |lt h=>exact h
 |b1 h=>exact h
 |b0 h=>exact h
 |fE a b=>exact aQ a.h b.h
 |cO a b=>exact dV a.h b.h
 |dec a b=>exact aE a.h b.h
 |ndec a b=>exact bY a.h b.h
 |not a b=>exact cV a.h b.h
 |aF a b=>exact aJ a.h b.h
 |jc h=>
  obtain⟨r,e,h⟩:=h;exact fP ⟨r,e,by cases r<;>exact h⟩
 |some h=>exact ai h
theorem bcT {R:Type} (t f:J R):aF M t f=t:=rfl
theorem ZO {R:Type} (t f:J R):aF aa t f=f:=rfl
theorem jnr {α R:Type} (x:α) (k:α->J R):jn (Z (.inr x)) k=k x:=rfl
theorem R6 {α R:Type} (x:α) (k:α->J R):av (Z x) k=k x:=rfl
theorem yk {k:Int}:k=1\/k=2\/k=3\/k=4\/k=5\/k=6\/k=7\/k=8\/k=9\/k=10\/k=11\/k=12\/k=13\/k=14\/k=15\/k=16\/k=17\/k=18\/k=19\/k=20\/k=21\/k=22\/k=23\/((∀j:Int,1<=j->j<=23->(k=j)=False)/\(k<1\/23<k)):=by
 by_cases h:1<=k/\k<=23
 .omega
 .have:(∀j:Int,1<=j->j<=23->(k=j)=False)/\(k<1\/23<k):=⟨λj h1 h2=>eq_false (by omega),by omega⟩
  repeat (first|exact this|refine Or.inr ?_)
theorem gI {n:Int} (h0: -9223372036854775808<=n) (h1:n<=9223372036854775807):ba .i64 n=n:=by
 rw[G1];unfold LK;simp[cO,h0,h1]
theorem fo {i:Nat} (h:i<9223372036854775807):ba .i64 ((i:Int)+1)=((i+1:Nat):Int):=by rw[gI (by omega) (by omega)];omega
theorem P_ {T:Ty} (xs:Y T.den) (i:Nat):aH xs (i:Int)=xs.getD i T.zero:=by unfold aH;simp
theorem DX (xs:η) (i:Nat):aH (T:=.int .i64) xs (i:Int)=xs.getD i 0:=P_ (T:=.int .i64) xs i
theorem bG {T:Ty} {xs:Y T.den} {j:Int} (h0:0<=j) (h1:j<xs.length):aH xs j∈xs:=by
 unfold aH;rw[ay,aw (by omega)];exact qz _
theorem cu {α:Type} (xs:Y α) (j:Int) (x:α):(ct xs j x).length=xs.length:=by unfold ct;simp
theorem xX {α:Type} {xs:Y α} {j:Int} {x y:α} (h:y∈ct xs j x):y∈xs\/y=x:=LJ h
theorem eB {σ R:Type} {f:σ->J (σ⊕R)} {Q:R->Prop} (n:Nat) (hn:n<=1000000) (I:Nat->σ->Prop) (h0:∀i x,i<n->I i x->Ok (f x) λr=>match r with|.inl y=>I (i+1) y|.inr r=>Q r) (h1:∀x,I n x->Ok (f x) λr=>match r with|.inl _=>False|.inr r=>Q r) {x:σ} (s:I 0 x):Ok (gp f x) Q:=by
 have key:∀m i x,i+m=n->I i x->∃r,iterN f (m+1) x=Z r/\Q r:=by
  intro m;induction m with
  |zero=>
   intro i x hi s;have:i=n:=by omega
   subst this;obtain⟨r,q,d⟩:=h1 x s;cases r with
   |inl y=>exact d.elim
   |inr r=>exact⟨r,by rw[iterN,q],d⟩
  |succ m z=>
   intro i x hi s;obtain⟨r,q,d⟩:=h0 i x (by omega) s;cases r with
   |inl y=>
    obtain⟨r,D,A⟩:=z (i+1) y (by omega) d;exact⟨r,by rw[iterN,q];exact D,A⟩
   |inr r=>exact⟨r,vD (n:=1) (by rw[iterN,q]) (by omega),d⟩
 obtain⟨r,q,d⟩:=key n 0 x (by omega) s;exact⟨r,vD q (by omega),d⟩
abbrev WT:Type:=Y (ζ×Int×Int×Bool×Int)×Y (ζ×Bool)×Y (ζ×Int)×Y ζ×Y ζ×Y ν
abbrev SY:Type:=Y (Int×η)×Int×θ×Y (Int×Int×Bool)
theorem Pr (a b:Int):pY (a,b)=Z (decide (0<=a/\a<b)):=by
 refine b6 ?_;unfold pY ji aB;with_reducible repeat' first|(refine OS.ok ?_;constructor)|refine IM.mk λ_=>?_
 .by_cases h:a<b<;>simp[*,fE]
 .simp;omega
theorem Kc (l:η) (n:Int) (hl:l.length<=1000000):oq (l,n)=Z (l.contains n):=by
 refine b6 ?_;unfold oq bg bA bJ aY cM aB cw;refine b9 l.length (λi x=>x=(i:Int)/\∀k,k<i->l.getD k 0≠n) ?_ ?_ ⟨rfl,λk hk=>by omega⟩
 .rintro i x hi ⟨rfl,d⟩;with_reducible repeat' first|(refine OS.ok ?_;constructor)|refine IM.mk λ_=>?_
  all_goals try simp only[aj,ol] at*
  .omega
  .omega
  .rename_i h;rw[DX]at h;show M=_
   symm
   rw[sw,<-h,ay,aw hi];exact qz _
  .rename_i h;rw[DX]at h;refine ⟨fo (by omega),λk hk=>?_⟩;rcases bN k i with h1|h1
   .exact d k h1
   .rw[show k=i by omega];exact h
  .omega
 .rintro x ⟨rfl,d⟩;with_reducible repeat' first|(refine OS.ok ?_;constructor)|refine IM.mk λ_=>?_
  all_goals try simp only[aj,ol] at*
  .omega
  .omega
  .omega
  .omega
  .symm
   rw[Bool.eq_false_iff];intro hc;rw[sw]at hc;obtain⟨k,hk,he⟩:=ve hc;exact d k hk (by rw[ay,aw hk];exact he)
theorem ir {T:Ty} {xs:Y T.den} {p:T.den->Prop} (h:∀k:Nat,k<ah xs->p (aH xs (k:Int))):∀c∈xs,p c:=λc hc=>by
 obtain⟨k,hk,he⟩:=ve hc;have:=h k hk;rw[P_,ay,aw hk,uo,he]at this;exact this
theorem OA (w:WT) (s:SY) (D:w.2.2.1.length<=1000000):Ok (nG (w,s)) λb=>b=M->(∀c∈w.2.2.1,0<=c.2/\c.2<w.2.1.length)/\s.1.length=w.2.1.length/\s.2.2.1.length=w.2.2.2.1.length/\s.2.2.2.length=w.2.2.2.2.1.length:=by
 unfold nG aX bh bm cD bg bA bJ aY cM aB cw;refine b9 w.2.2.1.length (λi x=>x.1=(i:Int)/\x.2=(w,s)/\∀k:Nat,k<i->0<=(aH (T:=pL) w.2.2.1 (k:Int)).2/\(aH (T:=pL) w.2.2.1 (k:Int)).2<w.2.1.length) ?_ ?_ ⟨rfl,rfl,λk hk=>by omega⟩
 .rintro i ⟨x1,x2⟩ hi ⟨q,d,z⟩;dsimp only at q d;subst q;subst d;with_reducible repeat' first|(refine OS.ok ?_;constructor)|refine IM.mk λ_=>?_
  all_goals try simp only[aj,ol] at*
  all_goals first|omega|skip
  .intro h;cases h
  .intro h;cases h
  .refine ⟨fo (by omega),λk hk=>?_⟩;rcases bN k i with h1|h1
   .exact z k h1
   .rename_i h2 A;rw[show k=i by omega];exact⟨h2,A⟩
 .rintro⟨x1,x2⟩ ⟨q,d,z⟩;dsimp only at q d;subst q;subst d;with_reducible repeat' first|(refine OS.ok ?_;constructor)|refine IM.mk λ_=>?_
  all_goals try simp only[aj,ol] at*
  all_goals first|omega|skip
  refine ar (P:=λb=>b=M->s.1.length=w.2.1.length/\s.2.2.1.length=w.2.2.2.1.length/\s.2.2.2.length=w.2.2.2.2.1.length) ?_ ?_
  .with_reducible repeat' first|(refine OS.ok ?_;constructor)|refine IM.mk λ_=>?_
   all_goals try simp only[aj,ol] at*
   .intro h;omega
   .intro h;cases h
   .intro h;cases h
  .intro b hb;with_reducible repeat' first|(refine OS.ok ?_;constructor)|refine IM.mk λ_=>?_
   exact λh=>⟨ir (T:=pL) z,hb h⟩
structure NM (w:WT) (k o:Int):Prop where
 k1:1<=k
 k2:k<=23
 ce:k=3\/k=4->0<=o/\o<w.1.length
 lk:6<=k/\k<=11->0<=o/\o<w.2.1.length
 cd:16<=k/\k<=19->0<=o/\o<w.2.2.1.length
 th:k=20\/k=21->0<=o/\o<w.2.2.2.2.1.length
 fu:k=22\/k=23->0<=o/\o<w.2.2.2.1.length
 no:k=1\/k=2\/k=5\/(12<=k/\k<=15)->o= -1
 mu:k=6\/k=7->(aH (T:=xM) w.2.1 o).2=aa
 rw:8<=k/\k<=11->(aH (T:=xM) w.2.1 o).2=M
theorem YK (w:WT) (k o:Int):Ok (pg (w,k,o)) λb=>b=M->NM w k o:=by
 unfold pg aX bh bm bT bg bJ aY aB;rcases @yk k with rfl|rfl|rfl|rfl|rfl|rfl|rfl|rfl|rfl|rfl|rfl|rfl|rfl|rfl|rfl|rfl|rfl|rfl|rfl|rfl|rfl|rfl|rfl|⟨hk,d⟩
 case inr.inr.inr.inr.inr.inr.inr.inr.inr.inr.inr.inr.inr.inr.inr.inr.inr.inr.inr.inr.inr.inr.inr=>
  simp only[hk 1 (by decide) (by decide),hk 2 (by decide) (by decide),hk 3 (by decide) (by decide),hk 4 (by decide) (by decide),hk 5 (by decide) (by decide),hk 6 (by decide) (by decide),hk 7 (by decide) (by decide),hk 8 (by decide) (by decide),hk 9 (by decide) (by decide),hk 10 (by decide) (by decide),hk 11 (by decide) (by decide),hk 12 (by decide) (by decide),hk 13 (by decide) (by decide),hk 14 (by decide) (by decide),hk 15 (by decide) (by decide),hk 16 (by decide) (by decide),hk 17 (by decide) (by decide),hk 18 (by decide) (by decide),hk 19 (by decide) (by decide),hk 20 (by decide) (by decide),hk 21 (by decide) (by decide),hk 22 (by decide) (by decide),hk 23 (by decide) (by decide),aN,aR,kG];exact ai λh=>by cases h
 all_goals simp only[aN,aR,kG,Pr]
 all_goals with_reducible repeat' first|(refine OS.ok ?_;constructor)|refine IM.mk λ_=>?_
 all_goals try simp only[aj,ol] at*
 all_goals first|omega|(intro h;cases h;done)|(intro h;constructor<;>first|omega|(intro h2;first|omega|(simpa using h)))
structure SB (n:Nat) (s:SY):Prop where
 n1:n<=100000
 lk:s.1.length<=1000
 rd:∀l∈s.1,l.2.length<=n
 dn:s.2.2.1.length<=1000
 th:s.2.2.2.length<=1000
structure EN (w:WT) (s:SY) (t k o:Int):Prop where
 nm:NM w k o
 t0:0<=t
 t1:t<w.2.2.2.2.1.length
 cd:∀c∈w.2.2.1,0<=c.2/\c.2<w.2.1.length
 e1:s.1.length=w.2.1.length
 e2:s.2.2.1.length=w.2.2.2.1.length
 e3:s.2.2.2.length=w.2.2.2.2.1.length
structure FL (w:WT) (s:SY) (t k o:Int):Prop where
 b:k=1->(aH (T:=uO) s.2.2.2 t).1=1
 wk:k=17->(aH (T:=uO) s.2.2.2 t).1=4/\(aH (T:=uO) s.2.2.2 t).2.1=o/\(aH (T:=tf) s.1 (aH (T:=pL) w.2.2.1 o).2).1= -1
 r:k≠1->k≠17->(aH (T:=uO) s.2.2.2 t).1=2
 aq:k=6\/k=8\/k=10->(aH (T:=tf) s.1 o).1= -1
 wr:k=10->(aH (T:=tf) s.1 o).2.length=0
 ra:k=8->(aH (T:=tf) s.1 o).2.contains t=aa
 rl:k=7\/k=11->(aH (T:=tf) s.1 o).1=t
 rr:k=9->(aH (T:=tf) s.1 o).2.contains t=M
 xb:k=12->s.2.1= -1
 xe:k=13->s.2.1=t
 ab:k=14->(aH (T:=uO) s.2.2.2 t).2.2=aa
 ae:k=15->(aH (T:=uO) s.2.2.2 t).2.2=M
 nt:k=16\/k=18\/k=19->(aH (T:=tf) s.1 (aH (T:=pL) w.2.2.1 o).2).1=t
 sp:k=20->¬o=t/\(aH (T:=uO) s.2.2.2 o).1=0
 jo:k=21->¬o=t/\(aH (T:=uO) s.2.2.2 o).1=5
 se:k=22->aH (T:=.bool) s.2.2.1 o=aa
 ge:k=23->aH (T:=.bool) s.2.2.1 o=M
theorem Ke {n:Nat} (w:WT) (s:SY) (hs:SB n s) (hw:w.2.2.1.length<=1000) (t k o:Int):Ok (iA (w,s,t,k,o)) λb=>b=M->EN w s t k o/\FL w s t k o:=by
 unfold iA aX bh bm bp cI cD bg iT bJ aY aB;refine aU (λx=>x.2=(w,s)/\(x.1=aa->EN w s t k o)) ?_ ?_
 .refine ar (OA w s (by omega)) λb hb=>?_
  with_reducible repeat' first|(refine OS.ok ?_;constructor)|refine IM.mk λ_=>?_
  .exact⟨rfl,λh=>by cases h⟩
  .simp only[Pr,R6];with_reducible repeat' first|(refine OS.ok ?_;constructor)|refine IM.mk λ_=>?_
   .exact⟨rfl,λh=>by cases h⟩
   .refine ar (YK w k o) λc hc=>?_
    with_reducible repeat' first|(refine OS.ok ?_;constructor)|refine IM.mk λ_=>?_
    all_goals try simp only[aj,ol] at*
    rename_i h1 h2;obtain⟨L,I,F,D⟩:=hb h1;exact λh=>⟨hc (by simpa using h),by omega,by omega,L,I,F,D⟩
 .rintro⟨x1,x2⟩ ⟨d,q⟩;dsimp only at d q;subst d;refine aJ (λh=>ai λh=>by cases h) (λh=>?_);have he:=q h;obtain⟨nm,t0,t1,cd,e1,e2,e3⟩:=id he;obtain⟨_,_,ce,lk,cn,th,fu⟩:=nm;have hm:16<=k/\k<=19->0<=(aH (T:=pL) w.2.2.1 o).2/\(aH (T:=pL) w.2.2.1 o).2<w.2.1.length:=λh=>cd _ (bG (cn h).1 (cn h).2)
  have A:6<=k/\k<=11->oq ((aH (T:=tf) s.1 o).2,t)=Z ((aH (T:=tf) s.1 o).2.contains t):=λh=>Kc _ _ (by
   have:=hs.rd _ (bG (T:=tf) (lk h).1 (by have:=(lk h).2;omega));have:=hs.n1;omega)
  rcases @yk k with rfl|rfl|rfl|rfl|rfl|rfl|rfl|rfl|rfl|rfl|rfl|rfl|rfl|rfl|rfl|rfl|rfl|rfl|rfl|rfl|rfl|rfl|rfl|⟨hk,z⟩
  case inr.inr.inr.inr.inr.inr.inr.inr.inr.inr.inr.inr.inr.inr.inr.inr.inr.inr.inr.inr.inr.inr.inr=>omega
  all_goals simp only[aN,aR,kG]
  all_goals with_reducible repeat' first|(refine OS.ok ?_;constructor)|refine IM.mk λ_=>?_
  all_goals try simp only[A (by omega),R6]
  all_goals with_reducible repeat' first|(refine OS.ok ?_;constructor)|refine IM.mk λ_=>?_
  all_goals try simp only[aj,ol] at*
  all_goals first|omega|(intro h;cases h;done)|exact (hm ⟨by decide,by decide⟩).1|(rw [e1];exact (hm ⟨by decide,by decide⟩).2)|(intro h;refine ⟨he,?_⟩;constructor<;>first|omega|(intros;first|omega|assumption|(simpa using h)|exact⟨by assumption,by first|assumption|exact⟨by assumption,by assumption⟩⟩))|(refine ⟨he,?_⟩;constructor<;>first|omega|(intros;first|omega|assumption))
def l8:η->Int->η
 |[],n=>[n]
 |x::r,n=>if x<n then x::l8 r n else if x=n then x::r else n::x::r
theorem Ds (n:Int):∀(i:Nat) (l:η),i<=l.length->(∀k,k<i->l.getD k 0<n)->l8 l n=l.take i++l8 (l.drop i) n
 |0,l,_,_=>by simp
 |i+1,[],h,_=>by simp at h
 |i+1,x::r,h,hk=>by
  have h0:=hk 0 (by omega);simp at h0;have:=Ds n i r (by simpa using h) (λk d=>by have:=hk (k+1) (by omega);simpa using this);rw[l8,aW h0,this,vb,vh,ia]
theorem EK (n:Int):∀l:η,(l8 l n).length<=l.length+1
 |[]=>by simp[l8]
 |x::r=>by
  have:=EK n r;rw[l8];split
  .simp;omega
  .split<;>simp
theorem HE {n y:Int}:∀{l:η},y∈l8 l n↔y=n\/y∈l
 |[]=>by simp[l8]
 |x::r=>by
  have:=HE (n:=n) (y:=y) (l:=r);rw[l8];split
  .simp[this];constructor
   .rintro (h|h|h)<;>simp[h]
   .rintro (h|h|h)<;>simp[h]
  .split
   .rename_i h;subst h;simp
   .simp
def xR:η->Prop
 |[]=>True
 |x::r=>(∀y∈r,x<y)/\xR r
theorem O_ {n:Int}:∀{l:η},xR l->xR (l8 l n)
 |[],_=>by simp[l8,xR]
 |x::r,h=>by
  rw[l8];split
  .rename_i q;refine ⟨λy d=>?_,O_ h.2⟩;rcases HE.1 d with rfl|d
   .exact q
   .exact h.1 y d
  .split
   .exact h
   .rename_i h1 h2;refine ⟨λy d=>?_,h⟩;rcases bx.1 d with rfl|d
    .omega
    .have:=h.1 y d;omega
theorem Z_ (l:η) (n:Int) (hl:l.length<=1000000):vy (l,n)=Z (l8 l n):=by
 refine b6 ?_;unfold vy bA bt bJ aY cM aB cw;have fin:∀i:Nat,i<=l.length->(∀k,k<i->l.getD k 0<n)->(i<l.length->¬l.getD i 0<n/\l.getD i 0≠n)->l.take i++[n]++l.drop i=l8 l n:=λi hi hk hn=>by
  rw[Ds n i l hi hk];cases hd:l.drop i with
  |nil=>simp[l8]
  |cons y r=>
   have hlt:i<l.length:=by
    rcases bN i l.length with h|h
    .exact h
    .rw[List.drop_eq_nil_of_le h]at hd;cases hd
   have q:l.getD i 0=y:=by
    rw[ay,<-List.head?_drop,hd];rfl
   obtain⟨h1,h2⟩:=hn hlt;rw[q]at h1 h2;rw[l8,aM h1,aM h2];simp
 refine b9 l.length (λi x=>x=(i:Int)/\∀k,k<i->l.getD k 0<n) ?_ ?_ ⟨rfl,λk hk=>by omega⟩
 .rintro i x hi ⟨rfl,d⟩;by_cases hlt:l.getD i 0<n
  .with_reducible repeat' first|(refine OS.ok ?_;constructor)|refine IM.mk λ_=>?_
   all_goals try simp only[aj,ol] at*
   all_goals first|omega|skip
   .refine ⟨fo (by omega),λk hk=>?_⟩;rcases bN k i with h1|h1
    .exact d k h1
    .rw[show k=i by omega];exact hlt
   .rename_i h;exact dR hlt (Int.not_lt.2 h)
  .have key:l.getD i 0=n->l8 l n=l:=λhe=>by
    rw[Ds n i l (by omega) d];cases hd:l.drop i with
    |nil=>have:=i_ ah hd;simp at this;omega
    |cons y r=>
     have q:l.getD i 0=y:=by rw[ay,<-List.head?_drop,hd];rfl
     rw[q]at he;rw[l8,aM (by omega),aW he,<-hd,List.take_append_drop]
   with_reducible repeat' first|(refine OS.ok ?_;constructor)|refine IM.mk λ_=>?_
   all_goals try simp only[aj,ol] at*
   all_goals first|omega|skip
   .rename_i h;exact dR h hlt
   .refine ar (P:=λr=>r=l8 l n) ?_ λr hr=>ai hr
    with_reducible repeat' first|(refine OS.ok ?_;constructor)|refine IM.mk λ_=>?_
    all_goals try simp only[aj,ol] at*
    all_goals first|omega|skip
    .rename_i h;exact (key h).symm
    .simp;omega
    .simp;omega
    .simp;omega
    .rename_i h;simpa using fin i (by omega) d (λ_=>⟨hlt,h⟩)
 .rintro x ⟨rfl,d⟩;with_reducible repeat' first|(refine OS.ok ?_;constructor)|refine IM.mk λ_=>?_
  all_goals try simp only[aj,ol] at*
  all_goals first|omega|skip
  refine ar (P:=λr=>r=l8 l n) ?_ λr hr=>ai hr
  with_reducible repeat' first|(refine OS.ok ?_;constructor)|refine IM.mk λ_=>?_
  all_goals try simp only[aj,ol] at*
  all_goals first|omega|skip
  .simp;omega
  .simp;omega
  .simp;omega
  .simpa using fin l.length (by omega) d (λh=>by omega)
def qC (a b:η):η:=b.foldl l8 (a.foldl l8 [])
theorem vJ:∀(b acc:η),(b.foldl l8 acc).length<=acc.length+b.length
 |[],acc=>by simp
 |x::r,acc=>by
  have:=vJ r (l8 acc x);have:=EK x acc;rw[EB,ch];omega
theorem II:∀{b acc:η},xR acc->xR (b.foldl l8 acc)
 |[],_,h=>h
 |x::r,acc,h=>by rw[EB];exact II (O_ h)
theorem IH {y:Int}:∀{b acc:η},y∈b.foldl l8 acc↔y∈acc\/y∈b
 |[],acc=>by simp
 |x::r,acc=>by
  rw[EB,IH,HE];simp;constructor
  .rintro ((h|h)|h)<;>simp[h]
  .rintro (h|h|h)<;>simp[h]
theorem OM (a b:η):xR (qC a b):=II (II trivial)
theorem OL {a b:η} {y:Int}:y∈qC a b↔y∈a\/y∈b:=by unfold qC;rw[IH,IH];simp
theorem Yg (a b:η):(qC a b).length<=a.length+b.length:=by
 have:=vJ b (a.foldl l8 []);have:=vJ a [];unfold qC;simp at *;omega
theorem Mg {b acc:η} {i:Nat} (hi:i<b.length):(b.take (i+1)).foldl l8 acc=l8 ((b.take i).foldl l8 acc) (b.getD i 0):=by
 rw[oJ hi,jU,ay,aw hi];rfl
theorem RA (a b:η) (d:a.length<=400000) (hb:b.length<=400000):qQ (a,b)=Z (qC a b):=by
 refine b6 ?_;unfold qQ bA bJ aY cM aB cw;refine b9 a.length (λi x=>x.2=(i:Int)/\x.1=(a.take i).foldl l8 []) ?_ ?_ ⟨rfl,rfl⟩
 .rintro i ⟨x1,x2⟩ hi ⟨h1,h2⟩;dsimp only at h1 h2;subst h1;subst h2;have hl:((a.take i).foldl l8 []).length<=1000000:=by have:=vJ (a.take i) [];have:=gr i a;simp at *;omega
  with_reducible repeat' first|(refine OS.ok ?_;constructor)|refine IM.mk λ_=>?_
  all_goals try simp only[aj,ol] at*
  all_goals first|omega|skip
  refine aS (Z_ _ _ hl) (ai ?_);dsimp only;refine ⟨fo (by omega),?_⟩;rw[DX,Mg hi]
 .rintro⟨x1,x2⟩ ⟨h1,h2⟩;dsimp only at h1 h2;subst h1;subst h2;rw[bS];have hla:=vJ a [];with_reducible repeat' first|(refine OS.ok ?_;constructor)|refine IM.mk λ_=>?_
  all_goals try simp only[aj,ol] at*
  all_goals first|omega|skip
  refine ar (P:=λr=>r=qC a b) ?_ λr hr=>ai hr
  refine b9 b.length (λi x=>x.2=(i:Int)/\x.1=(b.take i).foldl l8 (a.foldl l8 [])) ?_ ?_ ⟨rfl,rfl⟩
  .rintro i ⟨x1,x2⟩ hi ⟨h1,h2⟩;dsimp only at h1 h2;subst h1;subst h2;have hl:((b.take i).foldl l8 (a.foldl l8 [])).length<=1000000:=by have:=vJ (b.take i) (a.foldl l8 []);have:=gr i b;simp at *;omega
   with_reducible repeat' first|(refine OS.ok ?_;constructor)|refine IM.mk λ_=>?_
   all_goals try simp only[aj,ol] at*
   all_goals first|omega|skip
   refine aS (Z_ _ _ hl) (ai ?_);dsimp only;refine ⟨fo (by omega),?_⟩;rw[DX,Mg hi]
  .rintro⟨x1,x2⟩ ⟨h1,h2⟩;dsimp only at h1 h2;subst h1;subst h2;rw[bS];with_reducible repeat' first|(refine OS.ok ?_;constructor)|refine IM.mk λ_=>?_
   all_goals try simp only[aj,ol] at*
   all_goals first|omega|rfl
def EE (c:Int) (x:Int×Int×Bool):Bool:=decide (x.1=3)&&decide (x.2.1=c)
def wl (th:Y (Int×Int×Bool)) (c:Int):Nat->η
 |0=>[]
 |i+1=>if EE c (aH (T:=uO) th (i:Int)) then wl th c i++[(i:Int)] else wl th c i
theorem pO (th:Y (Int×Int×Bool)) (c:Int):∀i,(wl th c i).length<=i
 |0=>cN _
 |i+1=>by have:=pO th c i;rw[wl];split<;>simp<;>omega
theorem xU {th:Y (Int×Int×Bool)} {c u:Int}:∀{i:Nat},u∈wl th c i↔0<=u/\u<i/\EE c (aH (T:=uO) th u)=M
 |0=>by simp[wl];omega
 |i+1=>by
  have d:= @xU th c u i;rw[wl];by_cases hu:u=(i:Int)
  .subst hu;split
   .rename_i h;simp[h];omega
   .rename_i h;rw[d];simp[h]
  .split
   .rw[bP,d,aI];constructor
    .rintro (h|h)
     .exact⟨h.1,by omega,h.2.2⟩
     .exact dR h hu
    .intro h;exact .inl ⟨h.1,by omega,h.2.2⟩
   .rw[d];constructor
    .intro h;exact⟨h.1,by omega,h.2.2⟩
    .intro h;exact⟨h.1,by omega,h.2.2⟩
theorem ahx {th:Y (Int×Int×Bool)} {c:Int} {i:Nat} (h1:(aH (T:=uO) th (i:Int)).1=3) (h2:(aH (T:=uO) th (i:Int)).2.1=c):wl th c (i+1)=wl th c i++[(i:Int)]:=by
 rw[wl,aW];unfold EE;rw[h1,h2];simp
theorem adz {th:Y (Int×Int×Bool)} {c:Int} {i:Nat} (h1:¬(aH (T:=uO) th (i:Int)).1=3):wl th c (i+1)=wl th c i:=by
 rw[wl,aM];unfold EE;rw[bF h1];simp
theorem ady {th:Y (Int×Int×Bool)} {c:Int} {i:Nat} (h1:¬(aH (T:=uO) th (i:Int)).2.1=c):wl th c (i+1)=wl th c i:=by
 rw[wl,aM];unfold EE;rw[bF h1];simp
theorem J0 (s:SY) (c:Int) (hs:s.2.2.2.length<=1000):nF (s,c)=Z (wl s.2.2.2 c s.2.2.2.length):=by
 refine b6 ?_;unfold nF bp bg bA bt bJ aY cM aB cw;refine b9 s.2.2.2.length (λi x=>x=((i:Int),s,wl s.2.2.2 c i)) ?_ ?_ rfl
 .rintro i x hi rfl;have hl:=pO s.2.2.2 c i;with_reducible repeat' first|(refine OS.ok ?_;constructor)|refine IM.mk λ_=>?_
  all_goals try simp only[aj,ol] at*
  all_goals first|omega|skip
  all_goals first|(simp;omega)|skip
  .rename_i h1 h2;rw[ahx h1 h2,fo (by omega)]
  .rename_i h1 h2;rw[ady h2,fo (by omega)]
  .rename_i h1;rw[adz h1,fo (by omega)]
 .rintro x rfl;with_reducible repeat' first|(refine OS.ok ?_;constructor)|refine IM.mk λ_=>?_
  all_goals try simp only[aj,ol] at*
  all_goals first|omega|rfl
def wo (l:η) (n:Int):η:=l.filter λx=> !decide (x=n)
theorem R_ (l:η) (n:Int) (hl:l.length<=1000000):pX (l,n)=Z (wo l n):=by
 refine b6 ?_;unfold pX bA iT bt bJ aY cM aB cw;refine b9 l.length (λi x=>x=((i:Int),wo (l.take i) n)) ?_ ?_ rfl
 .rintro i x hi rfl;have hq:(wo (l.take i) n).length<=i:=cY (List.length_filter_le ..) (gr ..);have ht:wo (l.take (i+1)) n=if aH (T:=.int .i64) l (i:Int)=n then wo (l.take i) n else wo (l.take i) n++[aH (T:=.int .i64) l (i:Int)]:=by
   unfold wo;rw[oJ hi,List.filter_append,DX,ay,aw hi];by_cases h:l[i]=n<;>simp[h]
  with_reducible repeat' first|(refine OS.ok ?_;constructor)|refine IM.mk λ_=>?_
  all_goals try simp only[aj,ol] at*
  all_goals first|omega|skip
  .simp;omega
  .rename_i h;rw[ht,aM h,fo (by omega)]
  .rename_i h;rw[ht,aW h,fo (by omega)]
 .rintro x rfl;with_reducible repeat' first|(refine OS.ok ?_;constructor)|refine IM.mk λ_=>?_
  all_goals try simp only[aj,ol] at*
  all_goals first|omega|(rw [bS])
theorem pP {T:Ty} {xs:Y T.den} {i:Nat} (hi:i<ah xs):dj (i+1) xs=dj i xs++[aH xs (i:Int)]:=by
 rw[oJ hi,P_,ay,aw hi];rfl
theorem qx {n:Nat} (s:SY) (hs:SB n s):io s=Z (s.2.1,s.1,s.2.2.1,s.2.2.2):=by
 refine b6 ?_;obtain⟨s1,s2,d,s4⟩:=s;have hn:=hs.n1;have A:=hs.lk;have z:=hs.dn;have q:=hs.th;dsimp only at A z q;unfold io aX bh bm bp cD bA bt bJ aY cM aB cw;with_reducible repeat' first|(refine OS.ok ?_;constructor)|refine IM.mk λ_=>?_
 all_goals try simp only[aj,ol] at*
 .simp;omega
 .omega
 .simp;omega
 .omega
 refine b9 s1.length (λi x=>x=((i:Int),(s1,s2,d,s4),0,s2,s1.take i,d,s4)) ?_ ?_ ?_
 .rintro i x hi rfl;have hg:=hs.rd _ (bG (T:=tf) (xs:=s1) (j:=(i:Int)) (by omega) (by omega));with_reducible repeat' first|(refine OS.ok ?_;constructor)|refine IM.mk λ_=>?_
  all_goals try simp only[aj,ol] at*
  all_goals first|omega|skip
  .simp;omega
  .simp;omega
  .rw[fo (by omega),pP (T:=tf) hi];rfl
 .rintro x rfl;with_reducible repeat' first|(refine OS.ok ?_;constructor)|refine IM.mk λ_=>?_
  all_goals try simp only[aj,ol] at*
  all_goals first|omega|skip
  simp
 .simp
theorem FK (s:SY) (c:Int) (hs:s.2.2.2.length<=1000):jH ((s.2.1,c),s.1,s.2.2.1,s.2.2.2)=Z (wl s.2.2.2 c s.2.2.2.length):=by
 refine b6 ?_;unfold jH;refine ar (P:=λy=>y=(wl s.2.2.2 c s.2.2.2.length,s.1,s.2.2.1,s.2.2.2)) ?_ λy d=>by subst d;exact abj rfl (ai rfl)
 unfold mj aX bh bm bp cD bg bA bt kM aY cM aB cw;refine b9 s.2.2.2.length (λi x=>x=((i:Int),s.1,s.2.2.1,s.2.2.2,s.2.1,wl s.2.2.2 c i)) ?_ ?_ rfl
 .rintro i x hi rfl;have hl:=pO s.2.2.2 c i;with_reducible repeat' first|(refine OS.ok ?_;constructor)|refine IM.mk λ_=>?_
  all_goals try simp only[aj,ol] at*
  all_goals first|omega|skip
  all_goals first|(simp;omega)|skip
  .rename_i h1 h2;rw[ahx h1 h2,fo (by omega)]
  .rename_i h1 h2;rw[ady h2,fo (by omega)]
  .rename_i h1;rw[adz h1,fo (by omega)]
 .rintro x rfl;with_reducible repeat' first|(refine OS.ok ?_;constructor)|refine IM.mk λ_=>?_
  all_goals try simp only[aj,ol] at*
  all_goals first|omega|rfl
structure AP (n:Nat) (s y:SY):Prop where
 a1:y.1.length=s.1.length
 a2:y.2.2.1.length=s.2.2.1.length
 a3:y.2.2.2.length=s.2.2.2.length
 rd:∀l∈y.1,l.2.length<=n+1
theorem AP.toSB {n:Nat} {s y:SY} (h:AP n s y) (hs:SB n s) (hn:n+1<=100000):SB (n+1) y:=
 ⟨hn,by rw[h.a1];exact hs.lk,h.rd,by rw[h.a2];exact hs.dn,by rw[h.a3];exact hs.th⟩
theorem AP.same {n:Nat} {s:SY} (hs:SB n s) (x:Int) (d:θ) (t:Y (Int×Int×Bool)) (hd:d.length=s.2.2.1.length) (ht:t.length=s.2.2.2.length):AP n s (s.1,x,d,t):=
 ⟨rfl,hd,ht,λl hl=>iy (hs.rd l hl)⟩
theorem AP.set {n:Nat} {s:SY} (hs:SB n s) (j a:Int) (r:η) (hr:r.length<=n+1) (x:Int) (d:θ) (t:Y (Int×Int×Bool)) (hd:d.length=s.2.2.1.length) (ht:t.length=s.2.2.2.length):AP n s (ct s.1 j (a,r),x,d,t):=
 ⟨cu _ _ _,hd,ht,λl hl=>by
   rcases xX hl with h|rfl
   .exact iy (hs.rd l h)
   .exact hr⟩
def Kv (th:Y (Int×Int×Bool)) (t st:Int):Y (Int×Int×Bool):=ct th t (st,(aH (T:=uO) th t).2)
def owP (lk:Y (Int×η)) (o t:Int):Y (Int×η):=ct lk o (t,(aH (T:=tf) lk o).2)
def rdP (lk:Y (Int×η)) (o:Int) (l:η):Y (Int×η):=ct lk o ((aH (T:=tf) lk o).1,l)
def cdP (th:Y (Int×Int×Bool)) (t c:Int):Y (Int×Int×Bool):=ct th t ((aH (T:=uO) th t).1,c,(aH (T:=uO) th t).2.2)
def atP (th:Y (Int×Int×Bool)) (t:Int) (b:Bool):Y (Int×Int×Bool):=ct th t ((aH (T:=uO) th t).1,(aH (T:=uO) th t).2.1,b)
def OE (th:Y (Int×Int×Bool)) (l:η):Y (Int×Int×Bool):=l.foldl (λx u=>Kv x u 4) th
def Di (l:η) (u:Int):Int:=if l.length=0 then -1 else if l.contains u then u else aH (T:=.int .i64) l 0
def muP (w:WT) (o:Int):Int:=(aH (T:=pL) w.2.2.1 o).2
def vY (w:WT) (s:SY) (t k o u:Int):SY×Int:=
 if k=1 then ((s.1,s.2.1,s.2.2.1,Kv s.2.2.2 t 2),0)
 else if k=2 then ((s.1,s.2.1,s.2.2.1,Kv s.2.2.2 t 5),0)
 else if k=6\/k=10 then ((owP s.1 o t,s.2),0)
 else if k=7\/k=11 then ((owP s.1 o (-1),s.2),0)
 else if k=8 then ((rdP s.1 o (qC (aH (T:=tf) s.1 o).2 [t]),s.2),0)
 else if k=9 then ((rdP s.1 o (wo (aH (T:=tf) s.1 o).2 t),s.2),0)
 else if k=12 then ((s.1,t,s.2.2),0)
 else if k=13 then ((s.1,-1,s.2.2),0)
 else if k=14 then ((s.1,s.2.1,s.2.2.1,atP s.2.2.2 t M),0)
 else if k=15 then ((s.1,s.2.1,s.2.2.1,atP s.2.2.2 t aa),0)
 else if k=16 then ((owP s.1 (muP w o) (-1),s.2.1,s.2.2.1,cdP (Kv s.2.2.2 t 3) t o),0)
 else if k=17 then ((owP s.1 (muP w o) t,s.2.1,s.2.2.1,cdP (Kv s.2.2.2 t 2) t 0),0)
 else if k=18 then (if (wl s.2.2.2 o s.2.2.2.length).length=0 then (s,-1) else ((s.1,s.2.1,s.2.2.1,Kv s.2.2.2 (Di (wl s.2.2.2 o s.2.2.2.length) u) 4),Di (wl s.2.2.2 o s.2.2.2.length) u))
 else if k=19 then ((s.1,s.2.1,s.2.2.1,OE s.2.2.2 (wl s.2.2.2 o s.2.2.2.length)),((wl s.2.2.2 o s.2.2.2.length).length:Int))
 else if k=20 then ((s.1,s.2.1,s.2.2.1,Kv s.2.2.2 o 1),0)
 else if k=22 then ((s.1,s.2.1,ct s.2.2.1 o M,s.2.2.2),0)
 else (s,0)
theorem G6 (l:η):∀th,(OE th l).length=th.length:=by
 induction l with
 |nil=>intro th;rfl
 |cons x r d=>intro th;unfold OE;rw[EB];exact (d _).trans (cu ..)
theorem YL {th:Y (Int×Int×Bool)} {l:η} {i:Nat} (hi:i<l.length):OE th (l.take (i+1))=Kv (OE th (l.take i)) (aH (T:=.int .i64) l (i:Int)) 4:=by
 unfold OE;rw[oJ hi,jU,DX,ay,aw hi];rfl
theorem Vt {l:η} (u:Int) (hl:¬l.length=0):Di l u∈l:=by
 unfold Di;rw[aM hl];split
 .rename_i h;exact sw.1 h
 .exact bG (T:=.int .i64) (by omega) (by omega)
theorem Kh {n:Nat} (w:WT) (s:SY) (hs:SB n s) (A:w.2.2.1.length<=1000) (t k o u:Int):Ok (pi (w,s,t,k,o,u)) λy=>(y.2.2=M->EN w s t k o/\FL w s t k o/\AP n s y.1/\(y.1,y.2.1)=vY w s t k o u)/\(y.2.2=aa->y.1=([],0,[],[]))/\(iA (w,s,t,k,o)=Z M->y.2.2=M):=by
 unfold pi aX bh bm bT bp cI cD dC ck bg bA bJ kM aY cM aB cw;obtain⟨b,q,hb⟩:=Ke w s hs A t k o;refine aS q ?_;refine cV (λh=>ai ⟨λh=>(by cases h),λ_=>rfl,λh2=>(by rw[q,h]at h2;cases h2)⟩) (λh=>?_);obtain⟨he,hry⟩:=hb h;refine aS (qx s hs) ?_;suffices hmain:Ok _ _ from aU (λx=>AP n s (x.2.2.2.1,x.2.1,x.2.2.2.2)/\((x.2.2.2.1,x.2.1,x.2.2.2.2),x.1)=vY w s t k o u) hmain λx z=>ai ⟨λ_=>⟨he,hry,z⟩,λh=>(by cases h),λ_=>rfl⟩
 obtain⟨nm,t0,t1,cd,e1,e2,e3⟩:=id he;obtain⟨_,_,ce,lk,cn,th,fu⟩:=nm;have hn:=hs.n1;have hlk:=hs.lk;have hm:16<=k/\k<=19->0<=(aH (T:=pL) w.2.2.1 o).2/\(aH (T:=pL) w.2.2.1 o).2<w.2.1.length:=λh=>cd _ (bG (cn h).1 (cn h).2)
 have hr:∀j:Int,0<=j->j<s.1.length->(aH (T:=tf) s.1 j).2.length<=n:=λj h0 h1=>hs.rd _ (bG (T:=tf) h0 h1)
 rcases @yk k with rfl|rfl|rfl|rfl|rfl|rfl|rfl|rfl|rfl|rfl|rfl|rfl|rfl|rfl|rfl|rfl|rfl|rfl|rfl|rfl|rfl|rfl|rfl|⟨hk,D⟩
 case inr.inr.inr.inr.inr.inr.inr.inr.inr.inr.inr.inr.inr.inr.inr.inr.inr.inr.inr.inr.inr.inr.inr=>omega
 all_goals simp only[aN,aR,kG]
 all_goals with_reducible repeat' first|(refine OS.ok ?_;constructor)|refine IM.mk λ_=>?_
 all_goals try simp only[aj,ol] at*
 all_goals try rw[cu]
 all_goals first|omega|exact (hm ⟨by decide,by decide⟩).1|exact e1▸(hm ⟨by decide,by decide⟩).2|exact⟨AP.same hs _ _ _ rfl rfl,rfl⟩|exact⟨AP.same hs _ _ _ rfl (cu _ _ _),rfl⟩|exact⟨AP.same hs _ _ _ (cu _ _ _) rfl,rfl⟩|skip
 all_goals try exact⟨AP.set hs _ _ _ (iy (hr o (by omega) (by omega))) _ _ _ rfl rfl,rfl⟩
 .have:=hr o (by omega) (by omega);refine aS (RA _ _ (cY this (by have:=hs.n1;omega)) (by simp)) ?_;with_reducible repeat' first|(refine OS.ok ?_;constructor)|refine IM.mk λ_=>?_
  all_goals try simp only[aj,ol] at*
  all_goals first|omega|skip
  exact⟨AP.set hs _ _ _ (by have:=Yg (aH (T:=tf) s.1 o).2 [t];simp at this;omega) _ _ _ rfl rfl,rfl⟩
 .have:=hr o (by omega) (by omega);have hl:(wo (aH (T:=tf) s.1 o).2 t).length<=(aH (T:=tf) s.1 o).2.length:=List.length_filter_le ..;refine aS (R_ _ _ (by omega)) ?_;with_reducible repeat' first|(refine OS.ok ?_;constructor)|refine IM.mk λ_=>?_
  all_goals try simp only[aj,ol] at*
  all_goals first|omega|skip
  exact⟨AP.set hs _ _ _ (cY hl (by omega)) _ _ _ rfl rfl,rfl⟩
 .exact⟨AP.set hs _ _ _ (iy (hr _ (hm ⟨by decide,by decide⟩).1 (by rw[e1];exact (hm ⟨by decide,by decide⟩).2))) _ _ _ rfl (by rw[cu,cu]),rfl⟩
 .exact⟨AP.set hs _ _ _ (iy (hr _ (hm ⟨by decide,by decide⟩).1 (by rw[e1];exact (hm ⟨by decide,by decide⟩).2))) _ _ _ rfl (by rw[cu,cu]),rfl⟩
 .refine aS (FK s o hs.th) ?_;have hth:=hs.th;have hll:=pO s.2.2.2 o s.2.2.2.length;have hml:∀u∈wl s.2.2.2 o s.2.2.2.length,0<=u/\u<s.2.2.2.length:=λu hu=>⟨(xU.1 hu).1,(xU.1 hu).2.1⟩
  have hap:vY w s t 18 o u=if (wl s.2.2.2 o s.2.2.2.length).length=0 then (s,-1) else ((s.1,s.2.1,s.2.2.1,Kv s.2.2.2 (Di (wl s.2.2.2 o s.2.2.2.length) u) 4),Di (wl s.2.2.2 o s.2.2.2.length) u):=rfl
  unfold Di at hap;revert hll hml hap;generalize wl s.2.2.2 o s.2.2.2.length=l;intro hll hml hap;with_reducible repeat' first|(refine OS.ok ?_;constructor)|refine IM.mk λ_=>?_
  all_goals try simp only[aj,ol] at*
  all_goals first|omega|skip
  .have d:=hml _ (bG (T:=.int .i64) (xs:=l) (j:=0) (by omega) (by omega));rw[aM (by omega),aM (by omega)]at hap;simp only[Kc l u (by omega),R6];refine aJ (λhc=>?_) λhc=>?_
   .have hu:=hml u (sw.1 hc);rw[hc,aW rfl]at hap;refine ai (aK hu.1 hu.2 (aK hu.1 hu.2 (ai ⟨AP.same hs _ _ _ rfl (cu ..),?_⟩)));rw[hap];rfl
   .rw[hc,aM (by decide)]at hap;refine ai (aK d.1 d.2 (aK d.1 d.2 (ai ⟨AP.same hs _ _ _ rfl (cu ..),?_⟩)));rw[hap];rfl
  .rw[aW (by omega)]at hap;exact⟨AP.same hs _ _ _ rfl rfl,hap.symm⟩
 .refine aS (FK s o hs.th) ?_;have hth:=hs.th;have hll:=pO s.2.2.2 o s.2.2.2.length;have hml:∀u∈wl s.2.2.2 o s.2.2.2.length,0<=u/\u<s.2.2.2.length:=λu hu=>⟨(xU.1 hu).1,(xU.1 hu).2.1⟩
  have hap:vY w s t 19 o u=((s.1,s.2.1,s.2.2.1,OE s.2.2.2 (wl s.2.2.2 o s.2.2.2.length)),((wl s.2.2.2 o s.2.2.2.length).length:Int)):=rfl;rw[hap];clear hap;generalize wl s.2.2.2 o s.2.2.2.length=l at hll hml ⊢;refine b9 l.length (λi x=>x=((i:Int),s.2.1,0,s.1,s.2.2.1,OE s.2.2.2 (l.take i))) ?_ ?_ rfl
  .rintro i x hi rfl;have d:=hml _ (bG (T:=.int .i64) (xs:=l) (j:=(i:Int)) (by omega) (by omega));have hq:=G6 (l.take i) s.2.2.2;with_reducible repeat' first|(refine OS.ok ?_;constructor)|refine IM.mk λ_=>?_
   all_goals try simp only[aj,ol] at*
   all_goals first|omega|skip
   rw[fo (by omega),YL hi];rfl
  .rintro x rfl;rw[bS];with_reducible repeat' first|(refine OS.ok ?_;constructor)|refine IM.mk λ_=>?_
   all_goals try simp only[aj,ol] at*
   all_goals first|omega|skip
   exact AP.same hs _ _ _ rfl (G6 ..)
abbrev SN:Type:=SY×η×η×η
abbrev ET:Type:=Int×Int×Int×Int×Int×η×η
theorem abx (a b:Int):B1 (a,b)=Z (decide (0<=a/\a<b)):=Pr a b
structure NB (n:Nat) (s:SN):Prop where
 sb:SB n s.1
 c:s.2.1.length<=1000
 f:s.2.2.1.length<=1000
 k:s.2.2.2.length<=1000
structure SP (n:Nat) (s y:SN):Prop where
 ap:AP n s.1 y.1
 c:y.2.1.length=s.2.1.length
 f:y.2.2.1.length=s.2.2.1.length
 k:y.2.2.2.length=s.2.2.2.length
theorem SP.NB {n:Nat} {s y:SN} (h:SP n s y) (hs:NB n s) (hn:n+1<=100000):NB (n+1) y:=
 ⟨h.ap.toSB hs.sb hn,by rw[h.c];exact hs.c,by rw[h.f];exact hs.f,by rw[h.k];exact hs.k⟩
def sn0:SN:=(([],0,[],[]),[],[],[])
structure RN (w:WT) (s:SN):Prop where
 c:s.2.1.length=w.1.length
 f:s.2.2.1.length=w.2.2.2.1.length
 k:s.2.2.2.length=w.2.2.2.2.1.length
theorem XJ (w:WT) (s:SN) (d:w.2.2.1.length<=1000):Ok (qP (w,s)) λb=>b=M->RN w s:=by
 unfold qP aX bh bm cI bg aY aB;refine fP (ar (OA w s.1 (by omega)) λb hb=>?_);with_reducible repeat' first|(refine OS.ok ?_;constructor)|refine IM.mk λ_=>?_
 all_goals try simp only[aj,ol] at*
 all_goals first|(intro h;constructor<;>omega)|(intro h;cases h;done)
theorem Ol:∀(l:η),(∀k:Nat,k+1<l.length->l.getD k 0<l.getD (k+1) 0)->xR l
 |[],_=>trivial
 |[x],_=>⟨λy s=>(by cases s),trivial⟩
 |x::y::r,h=>by
  have q:=Ol (y::r) λk hk=>by have:=h (k+1) (by simpa using hk);simpa using this
  have h0:=h 0 (by simp);simp at h0;refine ⟨λz d=>?_,q⟩;rcases bx.1 d with rfl|d
  .exact h0
  .have:=q.1 z d;omega
structure AN (c:Int) (l:η):Prop where
 a:xR l
 m:∀x:Int,x∈l->1<=x/\x<c
theorem Hj:∀(l:η) (lo hi:Int),xR l->(∀y∈l,lo<=y/\y<hi)->(l.length:Int)<=max 0 (hi-lo)
 |[],lo,hi,_,_=>by simp;omega
 |x::r,lo,hi,h,hm=>by
  have h1:=hm x (ep ..);have h2:=Hj r (x+1) hi h.2 λy d=>⟨by have:=h.1 y d;omega,(hm y (dk _ d)).2⟩
  rw[ch];omega
theorem AN.len {c:Int} {l:η} (h:AN c l):(l.length:Int)<=max 0 c:=by
 have:=Hj l 1 c h.a h.m;omega
theorem Y6 {l:η} {i:Nat} {c:Int} (d:∀k:Nat,k<i->1<=aH (T:=.int .i64) l (k:Int)/\aH (T:=.int .i64) l (k:Int)<c) (s:∀k:Nat,k+1<i->l.getD k 0<l.getD (k+1) 0):(i:Int)<=max 0 c:=by
 have key:∀k:Nat,k<i->(k:Int)+1<=l.getD k 0:=by
  intro k;induction k with
  |zero=>intro hk;have:=(d 0 hk).1;rw[DX]at this;exact this
  |succ k q=>
   intro hk;have h1:=q (by omega);have h2:=s k hk;omega
 rcases rq i with z|z
 .omega
 .have h1:=key (i-1) (by omega);have h2:=(d (i-1) (by omega)).2;rw[DX]at h2;have h2:l.getD (i-1) 0<c:=h2;omega
theorem HQ (l:η) (c:Int) (hl:l.length<=1000000000\/c<=1000000000):Ok (kj (l,c)) λb=>b=M->AN c l:=by
 unfold kj bA ji bJ aY cM aB cw;refine b9 l.length (λi x=>x=(i:Int)/\(∀k:Nat,k<i->1<=aH (T:=.int .i64) l (k:Int)/\aH (T:=.int .i64) l (k:Int)<c)/\∀k:Nat,k+1<i->l.getD k 0<l.getD (k+1) 0) ?_ ?_ ⟨rfl,λk hk=>by omega,λk hk=>by omega⟩
 .rintro i x hi ⟨rfl,d,q⟩;have hbd:i<=1000000000:=by
   have:=Y6 d q;rcases hl with hl|hl<;>omega
  have s:0<(i:Int)->ba .i64 ((i:Int)-1)=((i-1:Nat):Int):=λh=>by rw[gI (by omega) (by omega)];omega
  have hq:(0<i->l.getD (i-1) 0<l.getD i 0)->1<=aH (T:=.int .i64) l (i:Int)/\aH (T:=.int .i64) l (i:Int)<c->ba .i64 ((i:Int)+1)=((i+1:Nat):Int)/\(∀k:Nat,k<i+1->1<=aH (T:=.int .i64) l (k:Int)/\aH (T:=.int .i64) l (k:Int)<c)/\∀k:Nat,k+1<i+1->l.getD k 0<l.getD (k+1) 0:=λF D=>by
   refine ⟨fo (by omega),λk hk=>?_,λk hk=>?_⟩
   .rcases bN k i with h1|h1
    .exact d k h1
    .rw[show k=i by omega];exact D
   .rcases bN (k+1) i with h1|h1
    .exact q k h1
    .have:=F (by omega);rw[show k=i-1 by omega,show i-1+1=i by omega];exact this
  with_reducible repeat' first|(refine OS.ok ?_;constructor)|refine IM.mk λ_=>?_
  all_goals try simp only[aj,ol] at*
  all_goals first|omega|(intro h;cases h;done)|(rw [s (by omega)];omega)|skip
  .rename_i h1 h2 A z;rw[s A,DX,DX]at z;exact hq (λ_=>z) ⟨by omega,by omega⟩
  .exact hq (λh=>by omega) ⟨by omega,by omega⟩
 .rintro x ⟨rfl,d,q⟩;with_reducible repeat' first|(refine OS.ok ?_;constructor)|refine IM.mk λ_=>?_
  all_goals try simp only[aj,ol] at*
  all_goals first|omega|skip
  exact⟨Ol l λk hk=>q k hk,ir (T:=.int .i64) d⟩
structure VA (w:WT) (sy:SY) (ce fu:η) (t k o v:Int):Prop where
 ld:k=3->v=aH (T:=.int .i64) ce o
 gt:k=23->v=aH (T:=.int .i64) fu o
 br:k=5->v=0\/v=1
 el:¬k=3->¬k=23->¬k=5->¬k=4->¬k=22->v=(vY w sy t k o v).2
theorem ite2 {c:Prop} [Decidable c] {a b:SY×Int} (d:a.2=0) (hb:b.2=0):(if c then a else b).2=0:=by by_cases h:c<;>simp[h,d,hb]
theorem VF (w:WT) (sy:SY) (t k o u:Int) (h1:¬k=18) (h2:¬k=19):(vY w sy t k o u).2=0:=by
 unfold vY;rw[aM h1,aM h2];repeat (first|exact rfl|refine ite2 rfl ?_)
theorem aeh (w:WT) (sy:SY) (t k o u d:Int) (h1:¬k=18):vY w sy t k o u=vY w sy t k o d:=by
 unfold vY;rw[aM h1,aM h1]
theorem JW (w:WT) (sy:SY) (t o u:Int):vY w sy t 18 o u=if (wl sy.2.2.2 o sy.2.2.2.length).length=0 then (sy,-1) else ((sy.1,sy.2.1,sy.2.2.1,Kv sy.2.2.2 (Di (wl sy.2.2.2 o sy.2.2.2.length) u) 4),Di (wl sy.2.2.2 o sy.2.2.2.length) u):=rfl
theorem Us (w:WT) (sy:SY) (t o u:Int):(vY w sy t 19 o u).2=((wl sy.2.2.2 o sy.2.2.2.length).length:Int):=rfl
theorem Yf {n:Nat} (w:WT) (s:SN) (hs:NB n s) (hf:RN w s) (e:ET) (he:EN w s.1 e.1 e.2.1 e.2.2.1):Ok (pf (s,e)) λb=>b=M->VA w s.1 s.2.1 s.2.2.1 e.1 e.2.1 e.2.2.1 e.2.2.2.1:=by
 obtain⟨t,k,o,v,si,de,fr⟩:=e;obtain⟨s1,s2,I,s4⟩:=s;obtain⟨nm,t0,t1,cd,e1,e2,e3⟩:=he;obtain⟨_,_,ce,lk,cn,th,fu,_,_,_⟩:=nm;obtain⟨f1,f2,f3⟩:=hf;have hth:=hs.sb.th;dsimp only at*
 unfold pf aX bh bm bT bp bg bA ji bJ aY aB;have hW:=J0 s1 o hth;have hWl:=pO s1.2.2.2 o s1.2.2.2.length;refine aE (λh=>?_) λn3=>?_
 .have h:k=3:=h;obtain⟨F,D⟩:=ce (.inl h);exact aK F (by rw[f1];exact D) (aV (ai λh2=>⟨λ_=>bf h2,λd=>by omega,λd=>by omega,λd=>(d h).elim⟩))
 refine aE (λh=>?_) λq=>?_
 .have h:k=23:=h;obtain⟨F,D⟩:=fu (.inr h);exact aK F (by rw[f2];exact D) (aV (ai λh2=>⟨λd=>by omega,λ_=>bf h2,λd=>by omega,λ_ d=>(d h).elim⟩))
 refine aE (λh=>?_) λL=>?_
 .have h:k=5:=h;exact fP (aE (λh2=>ai (ai λ_=>⟨λd=>by omega,λd=>by omega,λ_=>.inl h2,λ_ _ d=>(d h).elim⟩)) λ_=>ai (ai λh2=>⟨λd=>by omega,λd=>by omega,λ_=>.inr (bf h2),λ_ _ d=>(d h).elim⟩))
 refine aU (λx=>x.2=((s1,s2,I,s4),t,k,o,v,si,de,fr)/\(x.1=M->k=4\/k=22)) (aE (λh=>ai ⟨rfl,λ_=>.inl h⟩) λ_=>ai ⟨rfl,λh=>.inr (bf h)⟩) ?_;rintro⟨b,x⟩ ⟨e,hb⟩;dsimp only at e hb;subst e;refine aJ (λh=>ai λ_=>⟨λd=>(n3 d).elim,λd=>(q d).elim,λd=>(L d).elim,λ_ _ _ h4 h5=>(hb h).elim (λh=>(h4 h).elim) λh=>(h5 h).elim⟩) λ_=>?_
 have fin:v=(vY w s1 t k o v).2->VA w s1 s2 I t k o v:=λh=>⟨λd=>(n3 d).elim,λd=>(q d).elim,λd=>(L d).elim,λ_ _ _ _ _=>h⟩
 refine aE (λh=>?_) λA=>?_
 .have h:k=18:=h;subst h;rw[JW]at fin;refine aS hW ?_;revert fin hWl;generalize wl s1.2.2.2 o s1.2.2.2.length=l;intro hWl fin;refine aE (λh=>ai λh2=>fin ?_) λh=>?_
  .dsimp only[aj]at h;rw[aW (by omega)];exact bf h2
  .dsimp only[aj]at h;have hne:¬l.length=0:=by omega
   refine fP (dV (λ_=>aQ (λ_=>?_) λ_=>ai (ai λh=>(by cases h))) λ_=>ai (ai λh=>(by cases h)));refine aS (Kc _ _ (by omega)) (ai (ai λh2=>fin ?_));rw[aM hne];unfold Di;rw[aM hne,aW h2]
 refine aE (λh=>?_) λz=>?_
 .have h:k=19:=h;subst h;exact aS hW (ai λh2=>fin (bf h2))
 exact ai λh2=>fin (by rw[VF _ _ _ _ _ _ A z];exact bf h2)
structure X8 (w:WT) (s:SN) (e:ET):Prop where
 rd:FL w s.1 e.1 e.2.1 e.2.2.1
 s1:e.2.1=1\/e.2.1=2->e.2.2.2.2.1= -1
 s2:¬(e.2.1=1\/e.2.1=2)->0<=e.2.2.2.2.1/\e.2.2.2.2.1<w.2.2.2.2.2.length/\(aH (T:=Dh) w.2.2.2.2.2 e.2.2.2.2.1).1=e.1
 de:0<e.2.2.2.2.2.1.length->e.2.1=5\/(e.2.1=3\/e.2.1=4)/\¬(aH (T:=OD) w.1 e.2.2.1).2.2.1=0
 fr:0<e.2.2.2.2.2.2.length->e.2.1=4\/e.2.1=22
 nd:AN (aH (T:=.int .i64) s.2.2.2 e.1) e.2.2.2.2.2.1
 nf:AN (aH (T:=.int .i64) s.2.2.2 e.1) e.2.2.2.2.2.2
 va:VA w s.1 s.2.1 s.2.2.1 e.1 e.2.1 e.2.2.1 e.2.2.2.1
def ZF (ce:η) (e:ET):η:=if e.2.1=4 then ct ce e.2.2.1 e.2.2.2.1 else ce
def fuP (fu:η) (e:ET):η:=if e.2.1=22 then ct fu e.2.2.1 e.2.2.2.1 else fu
def R7 (w:WT) (s:SN) (e:ET):SN:=((vY w s.1 e.1 e.2.1 e.2.2.1 e.2.2.2.1).1,ZF s.2.1 e,fuP s.2.2.1 e,ct s.2.2.2 e.1 (ba .i64 (aH (T:=.int .i64) s.2.2.2 e.1+1)))
theorem zD {n:Nat} (w:WT) (s:SN) (hs:NB n s) (hw:w.2.2.1.length<=1000) (e:ET) (hd:e.2.2.2.2.2.1.length<=1000000000\/(aH (T:=.int .i64) s.2.2.2 e.1:Int)<=1000000000) (hf:e.2.2.2.2.2.2.length<=1000000000\/(aH (T:=.int .i64) s.2.2.2 e.1:Int)<=1000000000):Ok (nD (w,s,e)) λy=>(y.2=M->EN w s.1 e.1 e.2.1 e.2.2.1/\SP n s y.1/\X8 w s e/\y.1=R7 w s e)/\(y.2=aa->y.1=sn0):=by
 have A:∀{Q:SN×Bool->Prop},Q (sn0,aa)->Ok (Z (sn0,aa)) Q:=λh=>ai h
 have F:((sn0,aa).2=M->EN w s.1 e.1 e.2.1 e.2.2.1/\SP n s (sn0,aa).1/\X8 w s e/\(sn0,aa).1=R7 w s e)/\((sn0,aa).2=aa->(sn0,aa).1=sn0):=⟨λh=>(by cases h),λ_=>rfl⟩
 unfold nD aX bh bm bT cX bp cI cD dC gd ck bg bA iT bt bJ kM aY cM aB cw;refine aU (λx=>x.2=(w,s,e,0)/\(x.1=aa->RN w s/\(EN w s.1 e.1 e.2.1 e.2.2.1/\FL w s.1 e.1 e.2.1 e.2.2.1)/\iA (w,s.1,e.1,e.2.1,e.2.2.1)=Z M)) ?_ ?_
 .refine ar (XJ w s hw) λb hb=>?_
  with_reducible repeat' first|(refine OS.ok ?_;constructor)|refine IM.mk λ_=>?_
  .exact⟨rfl,λh=>(by cases h)⟩
  simp only[abx,R6];with_reducible repeat' first|(refine OS.ok ?_;constructor)|refine IM.mk λ_=>?_
  .exact⟨rfl,λh=>(by cases h)⟩
  .exact⟨rfl,λh=>(by cases h)⟩
  .exact⟨rfl,λh=>(by cases h)⟩
  obtain⟨c,hc0,hc⟩:=Ke w s.1 hs.sb hw e.1 e.2.1 e.2.2.1;refine aS hc0 (ai ⟨rfl,λh=>?_⟩);have h:c=M:=by simpa using h
  exact⟨hb (by assumption),hc h,h▸hc0⟩
 rintro⟨x1,x2⟩ ⟨d,hx⟩;dsimp only at d hx;subst d;refine aJ (λ_=>A F) λh1=>?_
 obtain⟨hF,⟨hE,hR⟩,hEn⟩:=hx h1;clear hx h1;refine aU (λx=>x=(w,s,e,0)/\(e.2.1=1\/e.2.1=2->e.2.2.2.2.1= -1)/\(¬(e.2.1=1\/e.2.1=2)->0<=e.2.2.2.2.1/\e.2.2.2.2.1<w.2.2.2.2.2.length/\(aH (T:=Dh) w.2.2.2.2.2 e.2.2.2.2.1).1=e.1)) ?_ ?_
 .refine aU (λx=>x.2=(w,s,e,0)/\(x.1=M->e.2.1=1\/e.2.1=2)/\(x.1=aa->¬(e.2.1=1\/e.2.1=2))) ?_ ?_
  .refine aE (λh=>ai ⟨rfl,λ_=>.inl h,λh=>(by cases h)⟩) λh=>ai ⟨rfl,λh2=>.inr (bf h2),λh2=>?_⟩
   have:=jF h2;exact λz=>z.elim h this
  rintro⟨x1,x2⟩ ⟨d,L,I⟩;dsimp only at d L I;subst d;refine aJ (λhk=>?_) λhk=>?_
  .exact bY (λ_=>ai F) λh=>ai ⟨rfl,λ_=>h,λz=>(z (L hk)).elim⟩
  .refine aU (λx=>x.2=(w,s,e,0)/\(x.1=aa->0<=e.2.2.2.2.1/\e.2.2.2.2.1<w.2.2.2.2.2.length/\(aH (T:=Dh) w.2.2.2.2.2 e.2.2.2.2.1).1=e.1)) ?_ ?_
   .simp only[abx,R6];refine bY (λ_=>ai ⟨rfl,λh=>(by cases h)⟩) λh=>aK h.1 h.2 (aV (ai ⟨rfl,λh2=>⟨h.1,h.2,?_⟩⟩))
    simpa using h2
   rintro⟨x1,x2⟩ ⟨d,A⟩;dsimp only at d A;subst d;exact aJ (λ_=>ai F) λh=>ai ⟨rfl,λz=>((I hk) z).elim,λ_=>A h⟩
 rintro x ⟨rfl,hS1,hS2⟩;obtain⟨nm,t0,t1,cd,e1,e2,e3⟩:=id hE;obtain⟨_,_,ce,lk,cn,th,fu,_,_,_⟩:=nm;obtain⟨f1,f2,f3⟩:=id hF;refine aU (λx=>x.2=(w,s,e,0)/\(x.1=M->e.2.1=3\/e.2.1=4)) ?_ ?_
 .with_reducible repeat' first|(refine OS.ok ?_;constructor)|refine IM.mk λ_=>?_
  .exact⟨rfl,λ_=>.inl (by assumption)⟩
  .exact⟨rfl,λh=>.inr (bf h)⟩
 rintro⟨x1,x2⟩ ⟨d,q⟩;dsimp only at d q;subst d;refine aU (λx=>x.2=(w,s,e,0)/\(x.1=aa->0<e.2.2.2.2.2.1.length->e.2.1=5\/(e.2.1=3\/e.2.1=4)/\¬(aH (T:=OD) w.1 e.2.2.1).2.2.1=0)) ?_ ?_
 .refine aQ (λ_=>bY (λ_=>aJ (λh=>?_) λ_=>ai ⟨rfl,λh=>(by cases h)⟩) λh5=>ai ⟨rfl,λ_ _=>.inl h5⟩) λh=>ai ⟨rfl,λ_ h2=>?_⟩
  .refine aK (ce (q h)).1 (ce (q h)).2 (aV (ai ⟨rfl,λh2 _=>.inr ⟨q h,?_⟩⟩));simpa using h2
  .dsimp only[aj]at h;omega
 rintro⟨x1,x2⟩ ⟨d,hDe⟩;dsimp only at d hDe;subst d;refine aJ (λ_=>A F) λhde=>?_
 refine aU (λx=>x.2=(w,s,e,0)/\(x.1=aa->0<e.2.2.2.2.2.2.length->e.2.1=4\/e.2.1=22)) ?_ ?_
 .refine aQ (λ_=>bY (λ_=>ai ⟨rfl,λh _=>.inr (by simpa using h)⟩) λD=>ai ⟨rfl,λ_ _=>.inl D⟩) λh=>ai ⟨rfl,λ_ h2=>?_⟩
  dsimp only[aj]at h;omega
 rintro⟨x1,x2⟩ ⟨d,hFr⟩;dsimp only at d hFr;subst d;refine aJ (λ_=>A F) λhfr=>?_
 have hk:=hs.k;have hc:=hs.c;have hfu:=hs.f;refine aU (λx=>x.2=(w,s,e,0)/\(x.1=aa->AN (aH (T:=.int .i64) s.2.2.2 e.1) e.2.2.2.2.2.1/\AN (aH (T:=.int .i64) s.2.2.2 e.1) e.2.2.2.2.2.2/\VA w s.1 s.2.1 s.2.2.1 e.1 e.2.1 e.2.2.1 e.2.2.2.1)) ?_ ?_
 .have hv:=Yf w s hs hF e hE;refine aK t0 (by rw[f3];exact t1) (aV (ar (HQ _ _ hd) λb hb=>?_));refine cV (λ_=>ai ⟨rfl,λh=>(by cases h)⟩) λb1=>?_
  refine aK t0 (by rw[f3];exact t1) (aV (ar (HQ _ _ hf) λb hb2=>?_));refine cV (λ_=>ai ⟨rfl,λh=>(by cases h)⟩) λb2=>?_
  exact ar hv λb hb3=>ai ⟨rfl,λh=>⟨hb b1,hb2 b2,hb3 (by simpa using h)⟩⟩
 rintro⟨x1,x2⟩ ⟨d,hNum⟩;dsimp only at d hNum;subst d;refine aJ (λ_=>A F) λhnu=>?_
 obtain⟨hN1,hN2,hVA⟩:=hNum hnu;have hS:X8 w s e:=⟨hR,hS1,hS2,hDe hde,hFr hfr,hN1,hN2,hVA⟩
 refine aZ (by simp;omega) (by omega) (aZ (by simp;omega) (by omega) (aZ (by simp;omega) (by omega) ?_));refine aU (λx=>x.2=(w,s,e,0,0,s.2.1,s.2.2.1,s.2.2.2)/\vY w s.1 e.1 e.2.1 e.2.2.1 x.1=vY w s.1 e.1 e.2.1 e.2.2.1 e.2.2.2.1) ?_ ?_
 .exact aE (λ_=>ai ⟨rfl,rfl⟩) λh=>ai ⟨rfl,aeh _ _ _ _ _ _ _ h⟩
 rintro⟨x1,x2⟩ ⟨d,hxu⟩;dsimp only at d hxu;subst d;refine ar (Kh w s.1 hs.sb hw e.1 e.2.1 e.2.2.1 x1) λy hy=>?_
 obtain⟨_,_,hap,hyq⟩:=hy.1 (hy.2.2 hEn);rw[hxu]at hyq;refine aU (λx=>x.1=e/\x.2.2.1=y.1/\x.2.2.2.1=ZF s.2.1 e/\x.2.2.2.2=(s.2.2.1,s.2.2.2)) ?_ ?_
 .unfold ZF;refine aE (λh=>?_) λh=>ai ⟨rfl,rfl,(aM h).symm,rfl⟩
  have hc4:=ce (.inr h);with_reducible repeat' first|(refine OS.ok ?_;constructor)|refine IM.mk λ_=>?_
  all_goals try simp only[aj,ol] at*
  all_goals first|omega|exact (aW h).symm
 rintro⟨x1,x2,x3,x4,x5,x6⟩ ⟨h1,h2,z,D⟩;simp only[aC]at h1 h2 z D;obtain⟨rfl,rfl⟩:=D;subst h1;subst h2;subst z;refine aU (λx=>x.1=x1/\x.2.2.1=y.1/\x.2.2.2.1=ZF s.2.1 x1/\x.2.2.2.2.1=fuP s.2.2.1 x1/\x.2.2.2.2.2=s.2.2.2) ?_ ?_
 .unfold fuP;refine aE (λh=>?_) λh=>ai ⟨rfl,rfl,rfl,(aM h).symm,rfl⟩
  have hc4:=fu (.inl h);with_reducible repeat' first|(refine OS.ok ?_;constructor)|refine IM.mk λ_=>?_
  all_goals try simp only[aj,ol] at*
  all_goals first|omega|exact (aW h).symm
 rintro⟨x1,x2,x3,x4,x5,x6⟩ ⟨h1,h2,D,h5,h6⟩;simp only at h1 h2 D h5 h6;subst h1;subst h2;subst D;subst h5;subst h6;have l1:(ZF s.2.1 x1).length=s.2.1.length:=by unfold ZF;split<;>simp[cu]
 have l2:(fuP s.2.2.1 x1).length=s.2.2.1.length:=by unfold fuP;split<;>simp[cu]
 with_reducible repeat' first|(refine OS.ok ?_;constructor)|refine IM.mk λ_=>?_
 all_goals try simp only[aj,ol] at*
 all_goals first|omega|skip
 exact⟨⟨hE,⟨hap,l1,l2,by rw[cu]⟩,hS,by unfold R7;rw[<- hyq]⟩,λh=>(by cases h)⟩
theorem RI:Ok (ox ()) λl=>l.length=22:=by
 unfold ox;with_reducible repeat' first|(refine OS.ok ?_;constructor)|refine IM.mk λ_=>?_
 all_goals rfl
theorem Oy (s:ζ):Ok (jJ s) λ_=>True:=by
 unfold jJ bA bJ aY cM aB cw;refine ar RI λl hl=>?_
 refine b9 l.length (λi x=>x=(i:Int)) ?_ ?_ rfl
 .rintro i x hi rfl;with_reducible repeat' first|(refine OS.ok ?_;constructor)|refine IM.mk λ_=>?_
  all_goals try simp only[aj,ol] at*
  all_goals first|omega|exact fo (by omega)
 .rintro x rfl;with_reducible repeat' first|(refine OS.ok ?_;constructor)|refine IM.mk λ_=>?_
  all_goals try simp only[aj,ol] at*
  all_goals omega
theorem MO (c:Int):Ok (lw c) λ_=>True:=by
 unfold lw ji aB;with_reducible repeat' first|(refine OS.ok ?_;constructor)|refine IM.mk λ_=>?_
 all_goals exact trivial
theorem Y0 (c:Int):Ok (pm c) λ_=>True:=by
 unfold pm tG ji aB;refine fP (ar (MO c) λ_ _=>?_);with_reducible repeat' first|(refine OS.ok ?_;constructor)|refine IM.mk λ_=>?_
 all_goals try exact trivial
 refine ar (P:=λ_=>True) ?_ λ_ _=>?_
 .with_reducible repeat' first|(refine OS.ok ?_;constructor)|refine IM.mk λ_=>?_
  all_goals exact trivial
 .with_reducible repeat' first|(refine OS.ok ?_;constructor)|refine IM.mk λ_=>?_
  all_goals exact trivial
theorem iu (s:ζ):Ok (fg s) λ_=>True:=by
 unfold fg bA mq aY cM aB cw;refine aU (λb=>b=aa->s.length<=12) ?_ ?_
 .with_reducible repeat' first|(refine OS.ok ?_;constructor)|refine IM.mk λ_=>?_
  .exact λh=>(by cases h)
  .exact λh=>(by cases h)
  .omega
  .simp only[aj]at *;omega
  refine ar (MO _) λ_ _=>?_
  with_reducible repeat' first|(refine OS.ok ?_;constructor)|refine IM.mk λ_=>?_
  .exact λh=>(by cases h)
  refine ar (Oy _) λ_ _=>ai λ_=>?_
  simp only[aj]at *;omega
 .rintro b hb;refine aJ (λ_=>ai trivial) λh=>?_
  have hb:=hb h;refine b9 s.length (λi x=>x=(i:Int)) ?_ ?_ rfl
  .rintro i x hi rfl;with_reducible repeat' first|(refine OS.ok ?_;constructor)|refine IM.mk λ_=>?_
   all_goals try simp only[aj,ol] at*
   all_goals first|omega|skip
   refine ar (Y0 _) λ_ _=>?_
   with_reducible repeat' first|(refine OS.ok ?_;constructor)|refine IM.mk λ_=>?_
   .exact trivial
   .exact fo (by omega)
  .rintro x rfl;with_reducible repeat' first|(refine OS.ok ?_;constructor)|refine IM.mk λ_=>?_
   all_goals try simp only[aj,ol] at*
   all_goals first|omega|exact trivial
theorem AG (l:Y ζ) (s:ζ) (hl:l.length<=1000000000):Ok (jW (l,s)) λr=> -1<=r/\r<l.length/\(0<=r->aH (T:=.str) l r=s)/\(r<0->s∉l):=by
 unfold jW bA bJ aY cM aB cw;refine b9 l.length (λi x=>x=(i:Int)/\∀k:Nat,k<i->aH (T:=.str) l (k:Int)≠s) ?_ ?_ ⟨rfl,λk hk=>by omega⟩
 .rintro i x hi ⟨rfl,d⟩;with_reducible repeat' first|(refine OS.ok ?_;constructor)|refine IM.mk λ_=>?_
  all_goals try simp only[aj,ol] at*
  all_goals first|omega|skip
  .exact⟨by omega,by omega,λ_=>by assumption,λh=>by omega⟩
  .refine ⟨fo (by omega),λk hk=>?_⟩;rcases bN k i with h1|h1
   .exact d k h1
   .rw[show k=i by omega];assumption
 .rintro x ⟨rfl,d⟩;with_reducible repeat' first|(refine OS.ok ?_;constructor)|refine IM.mk λ_=>?_
  all_goals try simp only[aj,ol] at*
  all_goals first|omega|skip
  exact⟨by omega,by omega,λh=>by omega,λ_ h=>ir (T:=.str) (p:=λc=>c≠s) d s h rfl⟩
structure VL (w:WT):Prop where
 c:w.1.length<=12
 l:w.2.1.length<=4
 d:w.2.2.1.length<=2
 f:w.2.2.2.1.length<=2
 t0:1<=w.2.2.2.2.1.length
 t:w.2.2.2.2.1.length<=4
 s:w.2.2.2.2.2.length<=60
theorem YJ (w:WT) (h:VL w):Ok (pj w) λy=>y.1.length<=100:=by
 obtain⟨w1,w2,q,D,A,s⟩:=w;obtain⟨h1,h2,h3,h4,_,h5,h6⟩:=h;dsimp only at*
 unfold pj aX bh bm bT cI gd bg bA iT bt bJ aY cM aB cw;refine mB (λx=>((w1.length:Int)-x.1).toNat) (λx=>x.2.1=(w1,w2,q,D,A,s)/\0<=x.1/\x.1<=(w1.length:Int)/\(x.2.2.length:Int)<=x.1) ?_ ⟨rfl,by simp,by simp,by simp⟩;rintro⟨x1,x2,x3⟩ ⟨e,g1,g2,g3⟩;dsimp only at e g1 g2 g3;subst e;refine aQ (λF=>?_) λF=>?_
 .dsimp only[aj]at F;refine aU (λx=>x.2.1=(w1,w2,q,D,A,s)/\x1<x.1/\x.1<=(w1.length:Int)/\(x.2.2.length:Int)<=x.1) ?_ ?_
  .refine dW (aV (aZ (by simp;omega) (by omega) ?_));refine aE (λ_=>?_) λ_=>?_
   .with_reducible repeat' first|(refine OS.ok ?_;constructor)|refine IM.mk λ_=>?_
    .exact mM _
    .rw[gI (by omega) (by omega)];exact⟨rfl,by dsimp only;omega,by dsimp only;omega,by simp;omega⟩
   .generalize hz:aH _ x1=z;obtain⟨I,(z2:Int),(d:Int),z4,z5⟩:=z;dsimp only;refine aU (λx=>x.2=((w1,w2,q,D,A,s),x3++[I],I,z2,d,z4,z5)/\(x.1=aa->1<=d/\d<=4/\x1+d<=w1.length)) ?_ ?_
    .with_reducible repeat' first|(refine OS.ok ?_;constructor)|refine IM.mk λ_=>?_
     .exact⟨rfl,λh=>(by cases h)⟩
     .exact⟨rfl,λh=>(by cases h)⟩
     .refine ⟨rfl,λh=>?_⟩;dsimp only[aj] at*
      rw[gI (by omega) (by omega),fD]at h;omega
    .rintro⟨b,y⟩ ⟨e,hb⟩;dsimp only at e hb;subst e;refine aJ (λ_=>ai (mM _)) λh=>?_
     obtain⟨q1,q2,q3⟩:=hb h;refine mB (λx=>(d-x.1).toNat) (λx=>x.2=((w1,w2,q,D,A,s),x3++[I],I,z2,d,z4,z5)/\0<=x.1/\x.1<=d) ?_ ⟨rfl,by simp,by dsimp only;omega⟩;rintro⟨k,y⟩ ⟨e,k0,k1⟩;dsimp only at e k0 k1;subst e;refine aQ (λk2=>?_) λk2=>?_
     .dsimp only at k2;have e1:ba .i64 (x1+k)=x1+k:=gI (by omega) (by omega);refine aK (by dsimp only;rw[e1];omega) (by dsimp only;rw[e1];omega) (aV ?_);refine aU (λx=>x.2=((w1,w2,q,D,A,s),x3++[I],I,z2,d,z4,z5)) ?_ ?_
      .with_reducible repeat' first|(refine OS.ok ?_;constructor)|refine IM.mk λ_=>?_
       all_goals rfl
      .rintro⟨b,y⟩ e;dsimp only at e;subst e;refine aJ (λ_=>ai (mM _)) λ_=>ai ?_
       dsimp only;rw[gI (by omega) (by omega)];exact⟨⟨rfl,by omega,by omega⟩,by omega⟩
     .dsimp only at k2;refine ai ?_;dsimp only;rw[gI (by omega) (by omega)];exact⟨rfl,by omega,by omega,by simp;omega⟩
  .rintro⟨y1,y2,y3⟩ ⟨e,g5,g6,g7⟩;dsimp only at e g5 g6 g7;subst e;refine ai ⟨⟨rfl,by dsimp only;omega,g6,g7⟩,?_⟩;dsimp only;omega
 .dsimp only[aj]at F;refine ar (P:=λy=>y.1.length<=100) ?_ λy L=>ai L
  refine b9 w2.length (λi x=>x.1=(i:Int)/\x.2.1=(w1,w2,q,D,A,s)/\x.2.2.length<=12+i) ?_ ?_ ⟨rfl,rfl,by dsimp only;omega⟩
  .rintro i ⟨a,b,c⟩ hi ⟨e1,e2,e3⟩;dsimp only at e1 e2 e3;subst e1;subst e2;with_reducible repeat' first|(refine OS.ok ?_;constructor)|refine IM.mk λ_=>?_
   all_goals try simp only[aj,ol] at*
   all_goals first|omega|(simp;omega)|skip
   exact⟨fo (by omega),by simp;omega⟩
  .rintro⟨a,b,c⟩ ⟨e1,e2,e3⟩;dsimp only at e1 e2 e3;subst e1;subst e2;refine aQ (λF=>(by dsimp only[aj]at F;omega)) λ_=>?_
   refine ar (P:=λy=>y.1.length<=100) ?_ λy L=>ai L
   refine b9 q.length (λi x=>x.1=(i:Int)/\x.2.1=(w1,w2,q,D,A,s)/\x.2.2.length<=16+i) ?_ ?_ ⟨rfl,rfl,by dsimp only;omega⟩
   .rintro i ⟨a,b,c⟩ hi ⟨e1,e2,e3⟩;dsimp only at e1 e2 e3;subst e1;subst e2;with_reducible repeat' first|(refine OS.ok ?_;constructor)|refine IM.mk λ_=>?_
    all_goals try simp only[aj,ol] at*
    all_goals first|omega|(simp;omega)|skip
    exact⟨fo (by omega),by simp;omega⟩
   .rintro⟨a,b,c⟩ ⟨e1,e2,e3⟩;dsimp only at e1 e2 e3;subst e1;subst e2;refine aQ (λF=>(by dsimp only[aj]at F;omega)) λ_=>?_
    refine ar (P:=λy=>y.1.length<=100) ?_ λy L=>ai L
    with_reducible repeat' first|(refine OS.ok ?_;constructor)|refine IM.mk λ_=>?_
    all_goals try simp only[aj,ol] at*
    all_goals first|omega|(simp;omega)
def siS (T:Int) (o:J Γ) (s:ν):J Γ:=
 match o with
 |none=>U
 |some (t,n)=>if s.1=t/\s.2.1=n then Z (t,n+1) else if t<s.1/\s.1<T/\s.2.1=0 then Z (s.1,1) else U
def VZ (T:Int) (l:Y ν):J Γ:=l.foldl (siS T) (Z (0,0))
def SV0 (w:WT):Prop:=VZ w.2.2.2.2.1.length w.2.2.2.2.2≠U
theorem Hw {T:Int} {l:Y ν} {i:Nat} (hi:i<l.length):VZ T (l.take (i+1))=siS T (VZ T (l.take i)) (aH (T:=Dh) l (i:Int)):=by
 rw[pP (T:=Dh) hi];unfold VZ;rw[jU];rfl
theorem OY (T:Int):∀l:Y ν,l.foldl (siS T) U=U
 |[]=>rfl
 |_::r=>OY T r
theorem ab8 {T:Int} {l:Y ν} (h:VZ T l≠U) (i:Nat):VZ T (l.take i)≠U:=λhn=>h (by
 unfold VZ at hn ⊢;rw[<- List.take_append_drop i l,jU,hn,OY])
theorem Yq {T t n:Int} {z:ν} (h:siS T (Z (t,n)) z≠U):siS T (Z (t,n)) z=Z (z.1,z.2.1+1)/\(z.1=t/\z.2.1=n\/t<z.1/\z.1<T/\z.2.1=0):=by
 unfold siS at h ⊢;dsimp only at h ⊢;by_cases h1:z.1=t/\z.2.1=n
 .rw[aW h1];exact⟨by rw[h1.1,h1.2],.inl h1⟩
 .rw[aM h1]at h ⊢;by_cases h2:t<z.1/\z.1<T/\z.2.1=0
  .rw[aW h2];exact⟨by rw[h2.2.2];rfl,.inr h2⟩
  .rw[aM h2]at h;exact (h rfl).elim
theorem AB (w:WT):Ok (hX w) λb=>b=M->VL w/\SV0 w:=by
 unfold hX aX bh bm bT cD dC bg bA ji iT bt bJ aY cM aB cw;refine aU (λx=>x.2=w/\(x.1=aa->VL w)) ?_ ?_
 .with_reducible repeat' first|(refine OS.ok ?_;constructor)|refine IM.mk λ_=>?_
  all_goals first|exact⟨rfl,λh=>(by cases h)⟩|skip
  dsimp only[aj] at*
  refine ⟨rfl,λh=>?_⟩;rw[fD]at h;constructor<;>omega
 rintro⟨b,x⟩ ⟨e,hb⟩;dsimp only at e hb;subst e;refine aJ (λ_=>ai λh=>(by cases h)) λh=>?_
 have hv:=hb h;refine ar (YJ _ hv) λy hy=>?_
 refine cV (λ_=>ai λh=>(by cases h)) λ_=>?_
 obtain⟨w1,w2,F,L,A,q⟩:=x;have h6:=hv.s;have h3:=hv.d;dsimp only at h6 h3;refine b9 y.1.length (λi x=>x.1=(i:Int)/\x.2=(w1,w2,F,L,A,q)) ?_ ?_ ⟨rfl,rfl⟩
 .rintro i ⟨a,b⟩ hi ⟨e1,e2⟩;dsimp only at e1 e2;subst e1;subst e2;refine aQ (λI=>?_) λI=>(by dsimp only[aj]at I;omega)
  refine aU (λx=>x.2=(w1,w2,F,L,A,q)) ?_ ?_
  .refine dW (aV (ar (iu _) λ_ _=>?_));refine cV (λ_=>ai rfl) λ_=>?_
   with_reducible repeat' first|(refine OS.ok ?_;constructor)|refine IM.mk λ_=>?_
   all_goals try simp only[aj,ol] at*
   all_goals first|omega|skip
   refine ar (AG _ _ (by simp;omega)) λ_ _=>ai rfl
  .rintro⟨a,b⟩ e;dsimp only at e;subst e;with_reducible repeat' first|(refine OS.ok ?_;constructor)|refine IM.mk λ_=>?_
   .exact λh=>(by cases h)
   .dsimp only;exact⟨fo (by omega),rfl⟩
 rintro⟨a,b⟩ ⟨e1,e2⟩;dsimp only at e1 e2;subst e1;subst e2;refine aQ (λI=>(by dsimp only[aj]at I;omega)) λ_=>?_
 refine ar (P:=λb=>b=M->VL (w1,w2,F,L,A,q)/\SV0 (w1,w2,F,L,A,q)) ?_ λy hy=>ai hy
 refine b9 F.length (λi x=>x.1=(i:Int)/\x.2=(w1,w2,F,L,A,q)) ?_ ?_ ⟨rfl,rfl⟩
 .rintro i ⟨a,b⟩ hi ⟨e1,e2⟩;dsimp only at e1 e2;subst e1;subst e2;refine aQ (λI=>?_) λI=>(by dsimp only[aj]at I;omega)
  refine dW (aV ?_);refine aU (λx=>x.2=(w1,w2,F,L,A,q)) ?_ ?_
  .with_reducible repeat' first|(refine OS.ok ?_;constructor)|refine IM.mk λ_=>?_
   all_goals try simp only[aj,ol] at*
   all_goals first|omega|rfl
  .rintro⟨a,b⟩ e;dsimp only at e;subst e;with_reducible repeat' first|(refine OS.ok ?_;constructor)|refine IM.mk λ_=>?_
   .exact λh=>(by cases h)
   .dsimp only;exact⟨fo (by omega),rfl⟩
 rintro⟨a,b⟩ ⟨e1,e2⟩;dsimp only at e1 e2;subst e1;subst e2;refine aQ (λI=>(by dsimp only[aj]at I;omega)) λ_=>?_
 refine ar (P:=λb=>b=M->VL (w1,w2,F,L,A,q)/\SV0 (w1,w2,F,L,A,q)) ?_ λy hy=>ai hy
 refine b9 q.length (λi x=>x.1=(i:Int)/\x.2=(w1,w2,F,L,A,q)/\VZ A.length (q.take i)=Z (if i=0 then (0,0) else ((aH (T:=Dh) q ((i-1:Nat):Int)).1,(aH (T:=Dh) q ((i-1:Nat):Int)).2.1+1))/\(¬i=0->(0:Int)<=(aH (T:=Dh) q ((i-1:Nat):Int)).2.1/\(i:Int)>(aH (T:=Dh) q ((i-1:Nat):Int)).2.1)) ?_ ?_ ⟨rfl,rfl,rfl,λh=>(h rfl).elim⟩
 .rintro i ⟨a,b⟩ hi ⟨e1,e2,e3,hpb⟩;dsimp only at e1 e2;subst e1;subst e2;have hw:¬(i:Int)=0->ba .i64 ((i:Int)-1)=((i-1:Nat):Int):=λh=>by rw[gI (by omega) (by omega)];omega
  have hnx:=Hw (T:=A.length) hi;rw[e3]at hnx;clear e3;refine aQ (λI=>?_) λI=>(by dsimp only[aj]at I;omega)
  refine aU (λx=>x=(w1,w2,F,L,A,q)/\VZ A.length (q.take (i+1))=Z (((aH (T:=Dh) q (i:Int)).1,(aH (T:=Dh) q (i:Int)).2.1+1))/\(0:Int)<=(aH (T:=Dh) q (i:Int)).2.1/\((i+1:Nat):Int)>(aH (T:=Dh) q (i:Int)).2.1) ?_ ?_
  .refine dW (aV ?_);rw[hnx];generalize hz:aH (T:=Dh) q (i:Int)=z;obtain⟨(z1:Int),(z2:Int),(z3:Int)⟩:=z;dsimp only;refine aU (λx=>x.2=((w1,w2,F,L,A,q),z1,z2,z3)/\(x.1=aa->0<=z1/\z1<A.length)) ?_ ?_
   .refine aQ (λ_=>ai ⟨rfl,λh=>(by cases h)⟩) λg=>ai ⟨rfl,λh=>⟨g,?_⟩⟩
    rw[ko]at h;exact h
   rintro⟨c,y⟩ ⟨e,hzr⟩;dsimp only at e hzr;subst e;refine aJ (λ_=>ai λh=>(by cases h)) λhzb=>?_
   obtain⟨z0,zT⟩:=hzr hzb;refine aU (λx=>x.2=((w1,w2,F,L,A,q),z1,z2,z3)/\(x.1=M->i=0\/¬(aH (T:=Dh) q ((i-1:Nat):Int)).1=z1)/\(x.1=aa->¬(i:Int)=0/\(aH (T:=Dh) q ((i-1:Nat):Int)).1=z1)) ?_ ?_
   .refine aE (λh=>ai ⟨rfl,λ_=>.inl (by have h:((i:Nat):Int)=0:=h;omega),λh=>(by cases h)⟩) λh=>?_
    rw[hw h];refine dW (aV (ai ⟨rfl,λh2=>.inr (by simpa using h2),λh2=>⟨h,by simpa using h2⟩⟩))
   rintro⟨c,y⟩ ⟨e,hc1,hc⟩;dsimp only at e hc1 hc;subst e;refine aJ (λhct=>?_) λhcf=>?_
   .refine aU (λx=>x.2=(w1,w2,F,L,A,q)/\(x.1=aa->z2=0/\(¬i=0->((aH (T:=Dh) q ((i-1:Nat):Int)).1:Int)<z1))) ?_ ?_
    .refine bY (λ_=>ai ⟨rfl,λh=>(by cases h)⟩) λhz2=>?_
     refine aQ (λh=>?_) λD=>ai ⟨rfl,λ_=>⟨hz2,λh=>by have D:((i:Nat):Int)<=0:=D;omega⟩⟩
     have h:(0:Int)<((i:Nat):Int):=h;rw[hw (by omega)];refine dW (aV (ai ⟨rfl,λh2=>⟨hz2,λh3=>?_⟩⟩));rw[fD]at h2;have h4:=(hc1 hct).resolve_left h3;have h2:(aH (T:=Dh) q ((i-1:Nat):Int)).1<=z1:=h2;exact Int.lt_iff_le_and_ne.2 ⟨h2,h4⟩
    rintro⟨c,y⟩ ⟨e,hy⟩;dsimp only at e hy;subst e;refine aJ (λ_=>ai λh=>(by cases h)) λh=>ai ⟨rfl,?_⟩
    obtain⟨q1,q2⟩:=hy h;have q1:z2=0:=q1;subst q1;refine ⟨?_,fb 0,by show _>(0:Int);omega⟩;unfold siS;by_cases D:i=0
    .subst D;rw[aW rfl];dsimp only;by_cases hz1:z1=0
     .subst hz1;rfl
     .rw[aM (λh=>hz1 h.1),aW ⟨by omega,zT,rfl⟩];rfl
    .have:=q2 D;rw[aM D];dsimp only;rw[aM (λh=>by omega),aW ⟨this,zT,rfl⟩];rfl
   .obtain⟨D,hpr⟩:=hc hcf;rw[hw D];refine dW (aV ?_);refine bY (λ_=>ai λh=>(by cases h)) λh=>ai ⟨rfl,?_⟩
    obtain⟨b0,b1⟩:=hpb (by omega);have h:z2=ba .i64 ((aH (T:=Dh) q ((i-1:Nat):Int)).2.1+1):=h;rw[gI (by omega) (by omega)]at h;refine ⟨?_,by omega,by omega⟩;rw[aM (by omega)];unfold siS;dsimp only;rw[aW ⟨hpr.symm,h⟩,hpr,h]
  .rintro x ⟨rfl,hx,hx2⟩;refine ai ?_;dsimp only;refine ⟨fo (by omega),rfl,?_,λ_=>hx2⟩;rw[aM (by omega)];exact hx
 .rintro⟨a,b⟩ ⟨e1,e2,e3,_⟩;dsimp only at e1 e2;subst e1;subst e2;refine aQ (λI=>(by dsimp only[aj]at I;omega)) λ_=>?_
  rw[bS]at e3;exact ai λ_=>⟨hv,by unfold SV0;dsimp only;rw[e3];simp⟩
def sM (e:ET):Bool:=decide (e.2.1=3)||decide (e.2.1=23)
def fl (l:Y ET) (t:Int):θ:=(l.filter λe=>decide (e.1=t)).map sM
def Bv (l:Y ET) (t y:Int):Prop:=0<=y/\(fl l t).getD y.toNat aa=M
theorem yA (l m:Y ET) (t:Int):fl (l++m) t=fl l t++fl m t:=by unfold fl;rw[List.filter_append,c8]
theorem D5 {e:ET} {t:Int} (h:e.1=t):fl [e] t=[sM e]:=by unfold fl;simp[h]
theorem yz {e:ET} {t:Int} (h:¬e.1=t):fl [e] t=[]:=by unfold fl;simp[h]
theorem Bv.app {l:Y ET} {t y:Int} (h:Bv l t y) (m:Y ET):Bv (l++m) t y:=by
 obtain⟨h0,h1⟩:=h;refine ⟨h0,?_⟩;rw[yA];rw[ay]at h1 ⊢;rcases bN y.toNat (fl l t).length with g|g
 .rw[bV g];exact h1
 .rw[bK g]at h1;cases h1
theorem Bv.lt {l:Y ET} {t y:Int} (h:Bv l t y):y<(fl l t).length:=by
 obtain⟨h0,h1⟩:=h;rcases bN y.toNat (fl l t).length with g|g
 .omega
 .rw[ay,bK g]at h1;cases h1
theorem Bv.last {l:Y ET} {e:ET} {y:Int} (h:sM e=M) (d:y=(fl l e.1).length):Bv (l++[e]) e.1 y:=by
 subst d;refine ⟨by omega,?_⟩;rw[yA,D5 rfl,ay,ca (by simp),h];simp
theorem Co (l:Y ET) (t:Int):(fl l t).length<=l.length:=by unfold fl;rw[cz];exact List.length_filter_le ..
structure R8 (w:WT) (l:List ET) (sy:SY) (ce fu:η) (e:ET):Prop where
 en:EN w sy e.1 e.2.1 e.2.2.1
 rd:FL w sy e.1 e.2.1 e.2.2.1
 s1:e.2.1=1\/e.2.1=2->e.2.2.2.2.1= -1
 s2:¬(e.2.1=1\/e.2.1=2)->0<=e.2.2.2.2.1/\e.2.2.2.2.1<w.2.2.2.2.2.length/\(aH (T:=Dh) w.2.2.2.2.2 e.2.2.2.2.1).1=e.1
 de:0<e.2.2.2.2.2.1.length->e.2.1=5\/(e.2.1=3\/e.2.1=4)/\¬(aH (T:=OD) w.1 e.2.2.1).2.2.1=0
 fr:0<e.2.2.2.2.2.2.length->e.2.1=4\/e.2.1=22
 nd:AN (fl l e.1).length e.2.2.2.2.2.1
 nf:AN (fl l e.1).length e.2.2.2.2.2.2
 rd1:∀y∈e.2.2.2.2.2.1,Bv l e.1 y
 rd2:∀y∈e.2.2.2.2.2.2,Bv l e.1 y
 va:VA w sy ce fu e.1 e.2.1 e.2.2.1 e.2.2.2.1
def thP:Nat->Y (Int×Int×Bool)
 |0=>[]
 |n+1=>(1,0,aa)::aA n (0,0,aa)
def KA (w:WT):SY:=(aA w.2.1.length (-1,[]),-1,aA w.2.2.2.1.length aa,thP w.2.2.2.2.1.length)
def ce0 (w:WT):η:=w.1.map λc=>c.2.2.2.2
def fu0 (w:WT):η:=aA w.2.2.2.1.length 0
inductive Hn (w:WT):List ET->SY->η->η->Prop
 |nil:Hn w [] (KA w) (ce0 w) (fu0 w)
 |snoc {l:List ET} {sy:SY} {ce fu:η} {e:ET} (h:Hn w l sy ce fu) (hs:R8 w l sy ce fu e):Hn w (l++[e]) (vY w sy e.1 e.2.1 e.2.2.1 e.2.2.2.1).1 (ZF ce e) (fuP fu e)
theorem Yk (i:Nat):thP (i+2)=thP (i+1)++[(0,0,aa)]:=by
 show (1,0,aa)::aA (i+1) (0,0,aa)=(1,0,aa)::aA i (0,0,aa)++[(0,0,aa)]
 rw[Df,ia]
theorem M2:∀n,(thP n).length=n
 |0=>rfl
 |n+1=>by simp[thP]
theorem J3 (w:WT) (h:VL w):ph w=Z (KA w):=by
 obtain⟨w1,w2,F,q,A,D⟩:=w;obtain⟨h1,h2,h3,h4,_,h5,L⟩:=h;dsimp only at*
 refine b6 ?_;unfold ph aX bh bm bT cI cD dC bg bA bt aY cM aB cw;refine b9 w2.length (λi x=>x.1=(i:Int)/\x.2.1=(w1,w2,F,q,A,D)/\x.2.2.2=(-1,aA i (-1,[]))) ?_ ?_ ⟨rfl,rfl,rfl⟩
 .rintro i ⟨a,b,c,d,e⟩ hi ⟨e1,e2,e3⟩;simp only[aC]at e1 e2 e3;obtain⟨rfl,rfl⟩:=e3;subst e1;subst e2;with_reducible repeat' first|(refine OS.ok ?_;constructor)|refine IM.mk λ_=>?_
  all_goals try simp only[aj,ol] at*
  all_goals first|omega|(simp;omega)|skip
  exact⟨fo (by omega),by rw[Df]⟩
 rintro⟨a,b,c,d,e⟩ ⟨e1,e2,e3⟩;simp only[aC]at e1 e2 e3;obtain⟨rfl,rfl⟩:=e3;subst e1;subst e2;refine aQ (λz=>(by dsimp only[aj]at z;omega)) λ_=>?_
 refine ar (P:=λs=>s=KA (w1,w2,F,q,A,D)) ?_ λy I=>ai I
 refine b9 q.length (λi x=>x.1=(i:Int)/\x.2.1=(w1,w2,F,q,A,D)/\x.2.2.2=(-1,aA w2.length (-1,[]),aA i aa)) ?_ ?_ ⟨rfl,rfl,rfl⟩
 .rintro i ⟨a,b,c,d,e',f⟩ hi ⟨e1,e2,e3⟩;simp only[aC]at e1 e2 e3;obtain⟨rfl,rfl,rfl⟩:=e3;subst e1;subst e2;with_reducible repeat' first|(refine OS.ok ?_;constructor)|refine IM.mk λ_=>?_
  all_goals try simp only[aj,ol] at*
  all_goals first|omega|(simp;omega)|skip
  exact⟨fo (by omega),by rw[Df]⟩
 rintro⟨a,b,c,d,e',f⟩ ⟨e1,e2,e3⟩;simp only[aC]at e1 e2 e3;obtain⟨rfl,rfl,rfl⟩:=e3;subst e1;subst e2;refine aQ (λz=>(by dsimp only[aj]at z;omega)) λ_=>?_
 refine ar (P:=λs=>s=KA (w1,w2,F,q,A,D)) ?_ λy I=>ai I
 refine b9 A.length (λi x=>x.1=(i:Int)/\x.2.1=(w1,w2,F,q,A,D)/\x.2.2.2=(-1,aA w2.length (-1,[]),aA q.length aa,thP i)) ?_ ?_ ⟨rfl,rfl,rfl⟩
 .rintro i ⟨a,b,c,d,e'',f',g⟩ hi ⟨e1,e2,e3⟩;simp only[aC]at e1 e2 e3;obtain⟨rfl,rfl,rfl,rfl⟩:=e3;subst e1;subst e2;have hl:=M2 i;refine aQ (λ_=>?_) λz=>(by dsimp only[aj]at z;omega)
  refine fP (aE (λh0=>ai ?_) λh0=>ai ?_)
  .have h0:((i:Nat):Int)=0:=h0;have h0:i=0:=by omega
   subst h0;exact aZ (by simp[thP]) (by omega) (ai ⟨rfl,rfl,rfl⟩)
  .have h0:¬((i:Nat):Int)=0:=h0;obtain⟨j,rfl⟩:∃j,i=j+1:=⟨i-1,by omega⟩
   refine aZ (by dsimp only;rw[hl];simp;omega) (by omega) (ai ⟨fo (by omega),rfl,?_⟩);dsimp only;rw[Yk]
 rintro⟨a,b,c,d,e'',f',g⟩ ⟨e1,e2,e3⟩;simp only[aC]at e1 e2 e3;obtain⟨rfl,rfl,rfl,rfl⟩:=e3;subst e1;subst e2;refine aQ (λz=>(by dsimp only[aj]at z;omega)) λ_=>ai rfl
theorem So {w:WT} (h:VL w):SB 0 (KA w):=by
 obtain⟨h1,h2,z,s,_,q,d⟩:=h;refine ⟨by omega,by simp[KA];omega,λl hl=>?_,by simp[KA];omega,by simp[KA,M2];omega⟩;rw[wh hl];simp
theorem UA (w:WT) (h:VL w):Ok (ph w) λs=>SB 0 s:=YG (J3 w h) (So h)
theorem Bt (w:WT) (h:VL w):mU w=Z (KA w,ce0 w,fu0 w,aA w.2.2.2.2.1.length 0):=by
 have hs:=J3 w h;have hd:(KA w)=KA w:=rfl;obtain⟨w1,w2,A,s,q,z⟩:=w;obtain⟨h1,h2,h3,L,_,I,F⟩:=h;dsimp only at*
 refine b6 ?_;unfold mU aX bh bm bp cD bA bt bJ aY cM aB cw;refine aS hs ?_;with_reducible repeat' first|(refine OS.ok ?_;constructor)|refine IM.mk λ_=>?_
 all_goals try simp only[aj,ol] at*
 all_goals first|omega|skip
 refine b9 w1.length (λi x=>x.1=(i:Int)/\x.2.1=(w1,w2,A,s,q,z)/\x.2.2.2=(KA (w1,w2,A,s,q,z),(w1.take i).map (λc=>c.2.2.2.2),aA s.length 0,aA q.length 0)) ?_ ?_ ⟨rfl,rfl,rfl⟩
 .rintro i ⟨a,b,c,d,e,f,g⟩ hi ⟨e1,e2,e3⟩;simp only[aC]at e1 e2 e3;obtain⟨rfl,rfl,rfl,rfl⟩:=e3;subst e1;subst e2;with_reducible repeat' first|(refine OS.ok ?_;constructor)|refine IM.mk λ_=>?_
  all_goals try simp only[aj,ol] at*
  all_goals first|omega|(simp;omega)|skip
  exact⟨fo (by omega),by rw[pP (T:=OD) hi,c8];rfl⟩
 rintro⟨a,b,c,d,e,f,g⟩ ⟨e1,e2,e3⟩;simp only[aC]at e1 e2 e3;obtain⟨rfl,rfl,rfl,rfl⟩:=e3;subst e1;subst e2;refine aQ (λD=>(by dsimp only[aj]at D;omega)) λ_=>ai ?_
 rw[bS];rfl
theorem Uy (w:WT) (h:VL w):Ok (mU w) λs=>NB 0 s/\s.2.1.length=w.1.length/\s.2.2.1.length=w.2.2.2.1.length/\s.2.2.2.length=w.2.2.2.2.1.length:=
 YG (Bt w h) ⟨⟨So h,by have:=h.c;simp[ce0];omega,by have:=h.f;simp[fu0];omega,by have:=h.t;simp;omega⟩,by simp[ce0],by simp[fu0],by simp⟩
theorem BS (l:Y ET) (i t:Int) (ns:η) (hl:l.length<=1000000000) (hi:0<=i/\i<=l.length) (hn:ns.length<=1000000000):Ok (mT (l,i,t,ns)) λb=>b=M->∀y∈ns,Bv (l.take i.toNat) t y:=by
 unfold mT aX bp bg bA iT bJ aY cM aB cw;refine b9 ns.length (λk x=>x=(k:Int)/\∀j:Nat,j<k->Bv (l.take i.toNat) t (aH (T:=.int .i64) ns (j:Int))) ?_ ?_ ⟨rfl,λj hj=>(by omega)⟩
 .rintro k x hk ⟨rfl,A⟩;refine aQ (λs=>?_) λs=>(by dsimp only[aj]at s;omega)
  refine mB (λx=>(i-x.2.2).toNat) (λx=>0<=x.2.2/\x.2.2<=i/\x.1=((fl (l.take x.2.2.toNat) t).length:Int)/\(x.2.1=M->Bv (l.take x.2.2.toNat) t (aH (T:=.int .i64) ns (k:Int)))) ?_ ⟨by simp,hi.1,by simp[fl],λh=>(by cases h)⟩;rintro⟨a,b,(c:Int)⟩ ⟨z,I,D,hb⟩;dsimp only at z I D hb;subst D;obtain⟨c,rfl⟩:∃n:Nat,c=(n:Int):=⟨c.toNat,by omega⟩
  rw[cW]at hb;dsimp only;rw[cW];have hfl:=Co (l.take c) t;have htl:=gr c l;refine aQ (λd=>?_) λd=>?_
  .have d:(c:Int)<i:=d;have htk:l.take (c+1)=l.take c++[aH (T:=tE) l (c:Int)]:=pP (T:=tE) (by omega);refine aU (λy=>y.1=((fl (l.take (c+1)) t).length:Int)/\(y.2=M->Bv (l.take (c+1)) t (aH (T:=.int .i64) ns (k:Int)))) ?_ ?_
   .rw[htk,yA];refine aK z (by first|omega|(dsimp only;omega)) (aV ?_);refine bY (λhne=>ai ⟨by rw[yz hne];simp,λh=>(hb h).app _⟩) λhe=>?_
    have he:(aH (T:=tE) l (c:Int)).1=t:=he;refine aU (λy=>y=M->Bv (l.take c++[aH (T:=tE) l (c:Int)]) t (aH (T:=.int .i64) ns (k:Int))) ?_ λy F=>ai ⟨?_,F⟩
    .refine aJ (λh=>ai λ_=>(hb h).app _) λ_=>?_
     refine aK (by omega) (by first|omega|(dsimp only;omega)) (aV ?_);refine aE (λhn=>?_) λ_=>ai λh=>(by cases h)
     have hq:sM (aH (T:=tE) l (c:Int))=M->Bv (l.take c++[aH (T:=tE) l (c:Int)]) t (aH (T:=.int .i64) ns (k:Int)):=λh=>by
      rw[<- he]at hn ⊢;exact Bv.last h hn.symm
     refine aK z (by first|omega|(dsimp only;omega)) (aV ?_);refine aE (λh=>ai λ_=>hq (by unfold sM;rw[bl h];rfl)) λ_=>?_
     exact aK z (by first|omega|(dsimp only;omega)) (aV (ai λh=>hq (by unfold sM;rw[h];simp)))
    .dsimp only;rw[D5 he,fo (by omega)];simp
   .rintro⟨p,q⟩ ⟨hp,hq⟩;refine ai ?_;dsimp only at hp hq ⊢;rw[fo (by omega),cW];exact⟨⟨by omega,by omega,hp,hq⟩,by omega⟩
  .refine ar (P:=λr=>match r with|.inl y=>y=((k+1:Nat):Int)/\∀j:Nat,j<k+1->Bv (l.take i.toNat) t (aH (T:=.int .i64) ns (j:Int))|.inr r=>r=M->∀y∈ns,Bv (l.take i.toNat) t y) ?_ λr hr=>ai ?_
   .refine cV (λ_=>ai λh=>(by cases h)) λh=>ai ⟨fo (by omega),λj hj=>?_⟩
    rcases bN j k with h1|h1
    .exact A j h1
    .have:=hb h;have hci:c=i.toNat:=by have d:i<=(c:Int):=d;omega
     rw[show j=k by omega,<-hci];exact this
   .cases r with
    |inl y=>exact hr
    |inr r=>exact hr
 .rintro x ⟨rfl,A⟩;refine aQ (λs=>(by dsimp only[aj]at s;omega)) λ_=>ai λ_=>ir (T:=.int .i64) A
def CN (l:Y ET) (c:η):Prop:=∀t:Int,0<=t->t<c.length->aH (T:=.int .i64) c t=((fl l t).length:Int)
theorem Md {T:Ty} (xs:Y T.den) (j k:Int) (x:T.den) (hj:0<=j) (d:j<xs.length) (hk:0<=k):aH (ct xs j x) k=if k=j then x else aH xs k:=by
 unfold aH ct;rw[ay,ay,oK];by_cases h:k=j
 .subst h;rw[aW rfl,aW rfl,aW (by omega)];rfl
 .rw[aM (by omega),aM h]
theorem CN.next {l:Y ET} {c:η} (h:CN l c) (e:ET) (h0:0<=e.1) (h1:e.1<c.length) (hl:l.length<1000000):CN (l++[e]) (ct c e.1 (ba .i64 (aH (T:=.int .i64) c e.1+1))):=λt t0 t1=>by
 rw[cu]at t1;have:=Co l e.1;rw[Md (T:=.int .i64) _ _ _ _ h0 h1 t0,yA];split
 .rename_i h2;subst h2;rw[D5 rfl,h _ h0 h1,fo (by omega)];simp
 .rename_i h2;rw[yz λd=>h2 d.symm,h _ t0 t1];simp
theorem CN.bd {l:Y ET} {c:η} (h:CN l c) (t:Int):(aH (T:=.int .i64) c t:Int)<=l.length:=by
 have key:∀z:Int,aH (T:=.int .i64) c t=z->z<=l.length:=by
  intro z e;rcases bN t.toNat c.length with g|g
  .have h1:=h (t.toNat:Int) (by omega) (by omega);have h2:=Co l ((t.toNat:Nat):Int);have d:aH (T:=.int .i64) c t=aH (T:=.int .i64) c ((t.toNat:Nat):Int):=by unfold aH;rw[cW]
   have q:z=((fl l ((t.toNat:Nat):Int)).length:Int):=e.symm.trans (d.trans h1);omega
  .have:z=0:=by
    rw[<- e];unfold aH;rw[ay,bK g];rfl
   omega
 exact key _ rfl
structure X9 (w:WT) (e:ET):Prop where
 nm:NM w e.2.1 e.2.2.1
 t0:0<=e.1
 t1:e.1<w.2.2.2.2.1.length
 cd:∀c∈w.2.2.1,0<=c.2/\c.2<w.2.1.length
theorem aag (w:WT) (l:Y ET):Ok (mV (w,l)) λy=>y.2=0->(VL w/\SV0 w)/\(∀e∈l,X9 w e)/\∃sy ce fu,Hn w l sy ce fu:=by
 unfold mV bT bp dC bA bJ aY cM aB cw;refine aQ (λ_=>ai λh=>(by cases h)) λhl=>?_
 dsimp only[aj]at hl;refine ar (AB w) λb hb=>?_
 refine cV (λ_=>ai λh=>(by cases h)) λh=>?_
 obtain⟨hv,hsv⟩:=hb h;refine aS (Bt w hv) ?_;have hs:NB 0 (KA w,ce0 w,fu0 w,aA w.2.2.2.2.1.length 0):=⟨So hv,by have:=hv.c;simp[ce0];omega,by have:=hv.f;simp[fu0];omega,by have:=hv.t;simp;omega⟩
 have hw:w.2.2.1.length<=1000:=by have:=hv.d;omega
 refine b9 l.length (λi x=>x.1=(i:Int)/\x.2.1=(w,l)/\NB i x.2.2/\(∀k:Nat,k<i->X9 w (aH (T:=tE) l (k:Int)))/\Hn w (l.take i) x.2.2.1 x.2.2.2.1 x.2.2.2.2.1/\CN (l.take i) x.2.2.2.2.2/\x.2.2.2.2.2.length=w.2.2.2.2.1.length) ?_ ?_ ⟨rfl,rfl,hs,λk hk=>(by omega),.nil,λt t0 t1=>?_,by simp⟩
 .rintro i ⟨a,b,s⟩ hi ⟨e1,e2,e3,L,I,e6,e7⟩;dsimp only at e1 e2 e3 L I e6 e7;subst e1;subst e2;refine aQ (λA=>?_) λA=>(by dsimp only[aj]at A;omega)
  refine dW (aV ?_);have hmem:=bG (T:=tE) (xs:=l) (j:=(i:Int)) (by omega) (by omega);have hbd:=e6.bd (aH (T:=tE) l (i:Int)).1;have htl:=gr i l;have hbd:(aH (T:=.int .i64) s.2.2.2 (aH (T:=tE) l (i:Int)).1:Int)<=1000000:=by
   refine eT hbd ?_;omega
  refine ar (zD w s e3 hw _ (.inr (eT hbd (by decide))) (.inr (eT hbd (by decide)))) λy hy=>?_
  have d1:y.2=M->(aH (T:=tE) l (i:Int)).2.2.2.2.2.1.length<=1000000000:=λh=>by
   have h3:((aH (T:=tE) l (i:Int)).2.2.2.2.2.1.length:Int)<=max (0:Int) (aH (T:=.int .i64) s.2.2.2 (aH (T:=tE) l (i:Int)).1):=(hy.1 h).2.2.1.nd.len;have h4:max (0:Int) (aH (T:=.int .i64) s.2.2.2 (aH (T:=tE) l (i:Int)).1)<=1000000:=xg.2 ⟨by decide,hbd⟩;have:=eT h3 h4;omega
  have d2:y.2=M->(aH (T:=tE) l (i:Int)).2.2.2.2.2.2.length<=1000000000:=λh=>by
   have h3:((aH (T:=tE) l (i:Int)).2.2.2.2.2.2.length:Int)<=max (0:Int) (aH (T:=.int .i64) s.2.2.2 (aH (T:=tE) l (i:Int)).1):=(hy.1 h).2.2.1.nf.len;have h4:max (0:Int) (aH (T:=.int .i64) s.2.2.2 (aH (T:=tE) l (i:Int)).1)<=1000000:=xg.2 ⟨by decide,hbd⟩;have:=eT h3 h4;omega
  refine aU (λx=>x.2.1=(w,l)/\x.2.2.2=y.1/\(x.1=aa->y.2=M/\(∀z∈(aH (T:=tE) l (i:Int)).2.2.2.2.2.1,Bv (l.take i) (aH (T:=tE) l (i:Int)).1 z)/\∀z∈(aH (T:=tE) l (i:Int)).2.2.2.2.2.2,Bv (l.take i) (aH (T:=tE) l (i:Int)).1 z)) ?_ ?_
  .refine cV (λ_=>ai ⟨rfl,rfl,λh=>(by cases h)⟩) λh=>?_
   refine ar (BS l _ _ _ (by omega) ⟨by dsimp only;omega,by dsimp only;omega⟩ (d1 h)) λb1 hr1=>?_
   refine cV (λ_=>ai ⟨rfl,rfl,λh=>(by cases h)⟩) λhb1=>?_
   refine ar (BS l _ _ _ (by omega) ⟨by dsimp only;omega,by dsimp only;omega⟩ (d2 h)) λb2 hr2=>ai ⟨rfl,rfl,λhb2=>⟨h,hr1 hb1,hr2 (by simpa using hb2)⟩⟩
  .rintro⟨c,p,q,r⟩ ⟨f1,f2,f3⟩;dsimp only at f1 f2 f3;subst f1;subst f2;refine aJ (λ_=>ai λh=>(by cases h)) λh=>?_
   obtain⟨f4,r1,r2⟩:=f3 h;obtain⟨D,g2,F,A⟩:=hy.1 f4;refine ai ?_;dsimp only;have htk:l.take (i+1)=l.take i++[aH (T:=tE) l (i:Int)]:=pP (T:=tE) hi;have hc:=e6 _ D.t0 (by rw[e7];exact D.t1);have hnx:=i_ Prod.fst A;have hac:=I.snoc (e:=aH (T:=tE) l (i:Int)) ⟨D,F.rd,F.s1,F.s2,F.de,F.fr,by rw[<- hc];exact F.nd,by rw[<- hc];exact F.nf,r1,r2,F.va⟩;refine ⟨fo (by omega),rfl,g2.NB e3 (by omega),λk hk=>?_,by rw[htk,A];exact hac,by rw[htk,A];exact e6.next _ D.t0 (by rw[e7];exact D.t1) (by rw[cg];omega),by rw[A];unfold R7;rw[cu];exact e7⟩;rcases bN k i with h1|h1
   .exact L k h1
   .rw[show k=i by omega];exact⟨D.nm,D.t0,D.t1,D.cd⟩
 .rintro⟨a,b,s⟩ ⟨e1,e2,e3,L,I,_⟩;dsimp only at e1 e2 e3 L I;subst e1;subst e2;rw[bS]at I;refine aQ (λA=>(by dsimp only[aj]at A;omega)) λ_=>ai λ_=>⟨⟨hv,hsv⟩,ir (T:=tE) L,_,_,_,I⟩
 .rw[cB]at t1;obtain⟨t,rfl⟩:∃n:Nat,t=(n:Int):=⟨t.toNat,by omega⟩
  rw[DX,ay,lB];split<;>simp[fl]
structure TP (t:η×Int):Prop where
 l0:t.1.length<=9223372036854775807
 by_:∀x∈t.1,0<=x/\x<=255
 a0:0<=t.2
 a1:t.2<=t.1.length
structure ui (t t':η×Int):Prop where
 e:t'.1=t.1
 m:t.2<=t'.2
 p:TP t'
theorem ui.refl {t:η×Int} (h:TP t):ui t t:=⟨rfl,fb _,h⟩
theorem ui.trans {a b c:η×Int} (h:ui a b) (g:ui b c):ui a c:=⟨g.e.trans h.e,eT h.m g.m,g.p⟩
theorem gk (n:Int) (t:η×Int) (h:TP t):Ok (bE (n,t)) λy=>ui t y.2/\0<=y.1/\(1<=n->y.1<n)/\(t.2<t.1.length->1<=n->t.2<y.2.2):=by
 obtain⟨L,a⟩:=t;have s:=h;obtain⟨l0,hb,a0,a1⟩:=h;dsimp only at l0 hb a0 a1;unfold bE ji bt bJ aY aB cw;refine aU (λx=>x.2=(L,a)/\(x.1=M->a=L.length\/n<1)/\(x.1=aa->a<L.length/\1<=n)) ?_ ?_
 .refine dV (λh=>ai ⟨rfl,λ_=>?_,λh=>(by cases h)⟩) λh=>ai ⟨rfl,λh2=>?_,λh2=>?_⟩
  .dsimp only[aj]at h;omega
  .rw[lQ]at h2;exact .inr h2
  .rw[fD]at h2;dsimp only[aj]at h h2;omega
 rintro⟨b,x⟩ ⟨e,h1,h2⟩;dsimp only at e h1 h2;subst e;refine aJ (λh=>ai ⟨ui.refl s,fb _,λq=>(by dsimp only;omega),λq A=>?_⟩) λh=>?_
 .have:=h1 h;dsimp only at q;omega
 obtain⟨q1,q2⟩:=h2 h;refine aV ?_;have e1:ba .i64 (a+1)=a+1:=gI (by omega) (by omega);dsimp only;rw[e1,gI (n:=a+1-1) (by omega) (by omega),show a+1-1=a by omega];have d:=hb _ (bG (T:=.int .u8) (xs:=L) (j:=a) a0 q1);refine aK a0 q1 (aV ?_);generalize (aH _ a)=z at d;have d:0<=z/\z<=255:=d;rw[gI (n:=z) (by omega) (by omega)];refine vo (by omega) (ai ?_);dsimp only;refine ⟨⟨rfl,by dsimp only;omega,⟨l0,hb,by dsimp only;omega,by dsimp only;omega⟩⟩,Int.tmod_nonneg _ d.1,λ_=>?_,λ_ _=>by omega⟩;exact Int.tmod_lt_of_pos _ (by omega)
theorem Sc (s:SY) (hs:s.2.2.2.length<=1000) (y:η×η×η):Ok (kU (s,y)) λl=>l.length<=s.2.2.2.length:=by
 unfold kU bp bg bA bt bJ aY cM aB cw;refine b9 s.2.2.2.length (λi x=>x.1=(i:Int)/\x.2.length<=i) ?_ ?_ ⟨rfl,by simp⟩
 .rintro i ⟨a,b⟩ hi ⟨e1,e2⟩;dsimp only at e1 e2;subst e1;with_reducible repeat' first|(refine OS.ok ?_;constructor)|refine IM.mk λ_=>?_
  all_goals try simp only[aj,ol] at*
  all_goals first|omega|(simp;omega)|skip
  .exact⟨fo (by omega),by simp;omega⟩
  .exact⟨fo (by omega),by omega⟩
 .rintro⟨a,b⟩ ⟨e1,e2⟩;dsimp only at e1 e2;subst e1;refine aQ (λd=>(by dsimp only[aj]at d;omega)) λ_=>ai e2
theorem V9 (k u:Int) (t:η×Int) (h:TP t):Ok (oo ((k,u),t)) λy=>ui t y.2/\(k=3\/k=4->0<=y.1/\y.1<5):=by
 unfold oo bg kM aB cw;rcases @yk k with rfl|rfl|rfl|rfl|rfl|rfl|rfl|rfl|rfl|rfl|rfl|rfl|rfl|rfl|rfl|rfl|rfl|rfl|rfl|rfl|rfl|rfl|rfl|⟨hk,q⟩
 case inr.inr.inr.inr.inr.inr.inr.inr.inr.inr.inr.inr.inr.inr.inr.inr.inr.inr.inr.inr.inr.inr.inr=>
  simp only[hk 1 (by decide) (by decide),hk 2 (by decide) (by decide),hk 3 (by decide) (by decide),hk 4 (by decide) (by decide),hk 5 (by decide) (by decide),hk 6 (by decide) (by decide),hk 7 (by decide) (by decide),hk 8 (by decide) (by decide),hk 9 (by decide) (by decide),hk 10 (by decide) (by decide),hk 11 (by decide) (by decide),hk 12 (by decide) (by decide),hk 13 (by decide) (by decide),hk 14 (by decide) (by decide),hk 15 (by decide) (by decide),hk 16 (by decide) (by decide),hk 17 (by decide) (by decide),hk 18 (by decide) (by decide),hk 19 (by decide) (by decide),hk 20 (by decide) (by decide),hk 21 (by decide) (by decide),hk 22 (by decide) (by decide),hk 23 (by decide) (by decide),aN,aR,kG];exact ai ⟨ui.refl h,λh=>(by first|omega|(simp at h;done)|(rcases h with h|h<;>cases h;done))⟩
 all_goals simp only[aN,aR,kG]
 all_goals first
  |exact ai ⟨ui.refl h,λh=>(by first|omega|(simp at h;done)|(rcases h with h|h<;>cases h;done))⟩
  |exact ar (gk 2 t h) λy d=>ai ⟨d.1,λh=>(by first|omega|(simp at h;done)|(rcases h with h|h<;>cases h;done))⟩
  |exact ar (gk 3 t h) λy d=>ai ⟨d.1,λh=>(by first|omega|(simp at h;done)|(rcases h with h|h<;>cases h;done))⟩
  |skip
 all_goals
  refine ar (gk 8 t h) λy d=>?_
  have h1:=d.2.1;have h2:=d.2.2.1 (by omega);refine aK h1 (by simp;omega) (aK h1 (by simp;omega) (aV (ai ⟨d.1,λ_=>?_⟩)));have:∀z:Int,z∈([0,0,0,1,1,2,3,4]:η)->0<=z/\z<5:=by decide
  exact this _ (bG (T:=.int .i64) h1 (by simp;omega))
structure SZ (n:Nat) (s:SN):Prop where
 nb:NB n s
 c:s.2.1.length=5
 f:s.2.2.1.length=1
 k:s.2.2.2.length=4
theorem SZ.step {n:Nat} {s y:SN} (h:SZ n s) (hp:SP n s y) (hn:n+1<=100000):SZ (n+1) y:=
 ⟨hp.NB h.nb hn,by rw[hp.c];exact h.c,by rw[hp.f];exact h.f,by rw[hp.k];exact h.k⟩
theorem VW {n:Nat} (s:SN) (hs:SZ n s) (k o:Int) (z:k=3->0<=o/\o<5) (t:η×Int) (h:TP t):Ok (pU ((s,k,o),t)) λy=>ui t y.2:=by
 obtain⟨s1,s2,A,s4⟩:=s;have hc:=hs.c;have hf:=hs.f;have hth:=hs.nb.sb.th;dsimp only at hc hf hth;have q:=Sc s1 hth (s2,A,s4);unfold pU aX bg bA bJ aY aB;rcases @yk k with rfl|rfl|rfl|rfl|rfl|rfl|rfl|rfl|rfl|rfl|rfl|rfl|rfl|rfl|rfl|rfl|rfl|rfl|rfl|rfl|rfl|rfl|rfl|⟨hk,D⟩
 case inr.inr.inr.inr.inr.inr.inr.inr.inr.inr.inr.inr.inr.inr.inr.inr.inr.inr.inr.inr.inr.inr.inr=>
  simp only[hk 1 (by decide) (by decide),hk 2 (by decide) (by decide),hk 3 (by decide) (by decide),hk 4 (by decide) (by decide),hk 5 (by decide) (by decide),hk 6 (by decide) (by decide),hk 7 (by decide) (by decide),hk 8 (by decide) (by decide),hk 9 (by decide) (by decide),hk 10 (by decide) (by decide),hk 11 (by decide) (by decide),hk 12 (by decide) (by decide),hk 13 (by decide) (by decide),hk 14 (by decide) (by decide),hk 15 (by decide) (by decide),hk 16 (by decide) (by decide),hk 17 (by decide) (by decide),hk 18 (by decide) (by decide),hk 19 (by decide) (by decide),hk 20 (by decide) (by decide),hk 21 (by decide) (by decide),hk 22 (by decide) (by decide),hk 23 (by decide) (by decide),aN,aR,kG];exact ai (ui.refl h)
 all_goals simp only[aN,aR,kG]
 all_goals first
  |exact ai (ui.refl h)
  |exact ar (gk 2 t h) λy d=>ai d.1
  |exact ar (gk 3 t h) λy d=>ai d.1
  |exact ar q λy d=>ai (ui.refl h)
  |exact aK (by decide) (by omega) (aV (ai (ui.refl h)))
  |exact aK (z rfl).1 (by have:=(z rfl).2;omega) (aV (ai (ui.refl h)))
  |skip
 refine ar q λl hl=>?_
 refine aQ (λh1=>?_) λ_=>ai (ui.refl h)
 refine ar (gk _ t h) λy d=>?_
 dsimp only[aj]at h1;have h2:=d.2.2.1 (by dsimp only[aj];omega);exact aK d.2.1 h2 (aV (ai d.1))
theorem ab6 (t:η×Int) (h:TP t) (r:η) (hr:r.length<=1000000):Ok (gz (t,r)) λy=>y.1.length<=r.length/\ui t y.2.1/\y.2.2=r:=by
 unfold gz aX bp bA ji bt kM aY cM aB cw;refine b9 r.length (λi x=>x.1=(i:Int)/\ui t x.2.1/\x.2.2.1=r/\x.2.2.2.length<=i) ?_ ?_ ⟨rfl,ui.refl h,rfl,by simp⟩
 .rintro i ⟨a,b,c,d⟩ hi ⟨e1,e2,e3,D⟩;dsimp only at e1 e2 e3 D;subst e1;subst e3;refine aQ (λA=>?_) λA=>(by dsimp only[aj]at A;omega)
  refine aU (λx=>ui t x.1/\x.2.1=c/\x.2.2.length<=i+1) ?_ ?_
  .refine dW (dW (aV ?_));refine aU (λx=>ui t x.2.1/\x.2.2=(c,d)) ?_ ?_
   .refine aJ (λ_=>?_) λ_=>ai ⟨e2,rfl⟩
    exact ar (gk 2 b e2.p) λy I=>ai ⟨e2.trans I.1,rfl⟩
   .rintro⟨p,q,u⟩ ⟨s,z⟩;dsimp only at s z;subst z;refine aJ (λ_=>?_) λ_=>ai ⟨s,rfl,by dsimp only;omega⟩
    exact aZ (by simp;omega) (by omega) (ai ⟨s,rfl,by simp;omega⟩)
  .rintro⟨p,q,u⟩ ⟨s,z,F⟩;dsimp only at s z F;subst z;refine ai ?_;dsimp only;exact⟨fo (by omega),s,rfl,F⟩
 .rintro⟨a,b,c,d⟩ ⟨e1,e2,e3,D⟩;dsimp only at e1 e2 e3 D;subst e1;subst e3;refine aQ (λA=>(by dsimp only[aj]at A;omega)) λ_=>ai ⟨D,e2,rfl⟩
theorem YV:sO ()=Z [3,3,3,3,3,4,4,4,4,4,5,5,5,6,6,6,7,7,7,8,9,10,11,12,13,14,14,15,16,16,17,17,18,18,19,20,1,1,2,21,22,23,23]:=rfl
abbrev RR:Type:=η×η×η×η
structure RB4 (m:Nat) (r:RR):Prop where
 r0:r.1.length<=m
 r1:r.2.1.length<=m
 r2:r.2.2.1.length<=m
 r3:r.2.2.2.length<=m
theorem Zo {n:Nat} (s:SN) (hs:SZ n s) (w:WT) (hw:w.1.length=5) (t:η×Int) (h:TP t) (r:RR) (hr:RB4 1000000 r):Ok (pV ((s,w),t,r)) λy=>ui t y.2.1/\y.2.2=r/\(t.2<t.1.length->t.2<y.2.1.2)/\y.1.2.2.2.2.2.1.length<=1000000/\y.1.2.2.2.2.2.2.length<=1000000:=by
 obtain⟨r0,r1,r2,r3⟩:=r;obtain⟨h0,h1,h2,h3⟩:=hr;dsimp only at h0 h1 h2 h3;unfold pV ua yZ Kk aX bh bm bT cX gN rn um Kj Prod.q12 cD dC bg bt bJ aY aB;refine ar (gk 4 t h) λy hy=>?_
 refine aS YV ?_;refine ar (gk _ y.2 hy.1.p) λz hz=>?_
 obtain⟨y1,yt⟩:=y;obtain⟨z1,zt⟩:=z;obtain⟨ty,yy0,yy1,yy2⟩:=hy;obtain⟨tz,zz0,zz1,_⟩:=hz;dsimp only at ty yy0 yy1 yy2 tz zz0 zz1;have yy1:=yy1 (by decide);have hzl:=zz1 (by decide);refine aK zz0 hzl (aV ?_);generalize (aH _ z1)=k;refine ar (gk 6 zt tz.p) λv hv=>?_
 obtain⟨v1,vt⟩:=v;have tv:=hv.1;dsimp only at tv;have tt:=(ty.trans tz).trans tv;have hadv:t.2<t.1.length->t.2<vt.2:=λh=>by
  have:=yy2 h (by decide);have:=tz.m;have:=tv.m;omega
 refine aU (λx=>x.1=vt/\x.2.1=r0/\x.2.2.1=r1/\x.2.2.2.1=r2/\x.2.2.2.2.1=r3/\x.2.2.2.2.2.1=s/\x.2.2.2.2.2.2.1=w) ?_ ?_
 .refine aU (λx=>x.2.1=vt/\x.2.2.1=r0/\x.2.2.2.1=r1/\x.2.2.2.2.1=r2/\x.2.2.2.2.2.1=r3/\x.2.2.2.2.2.2.1=s/\x.2.2.2.2.2.2.2.1=w) ?_ ?_
  .with_reducible repeat' first|(refine OS.ok ?_;constructor)|refine IM.mk λ_=>?_
   all_goals exact⟨rfl,rfl,rfl,rfl,rfl,rfl,rfl⟩
  .rintro⟨p,q⟩ hq;dsimp only at hq;with_reducible repeat' first|(refine OS.ok ?_;constructor)|refine IM.mk λ_=>?_
   all_goals exact hq
 rintro⟨x1,x2,x3,x4,x5,x6,x7,x8,x9,x10⟩ ⟨D,L,f3,f4,f5,f6,I⟩;dsimp only at D L f3 f4 f5 f6 I;subst D;subst L;subst f3;subst f4;subst f5;subst f6;subst I;refine ar (V9 _ _ _ tv.p) λo ho=>?_
 obtain⟨o1,ot⟩:=o;obtain⟨to,ho⟩:=ho;dsimp only at to ho;refine ar (VW _ hs _ _ (λhk=>ho (.inl hk)) _ to.p) λq hq=>?_
 obtain⟨q1,qt⟩:=q;dsimp only at hq;have F:=(tt.trans to).trans hq;have hadv2:t.2<t.1.length->t.2<qt.2:=λh=>by have:=hadv h;have:=to.m;have:=hq.m;omega
 have row:∀(T:η×Int) (c:η) {R:Type} (k:η×((η×Int)×η)->J R) (Q:R->Prop),ui t T->c.length<=1000000->(∀v T',ui T T'->v.length<=1000000->Ok (k (v,T',c)) Q)->Ok (av (gz (T,c)) k) Q:=λT c R k Q A hc hk=>by
  refine ar (ab6 T A.p c hc) λy hy=>?_
  obtain⟨a,b,d⟩:=y;obtain⟨g1,g2,g3⟩:=hy;dsimp only at g1 g2 g3;subst g3;exact hk a b g2 (by omega)
 refine aU (λx=>ui t x.1/\(t.2<t.1.length->t.2<x.1.2)/\x.2.1=x2/\x.2.2.1=x3/\x.2.2.2.1=x4/\x.2.2.2.2.1=x5/\x.2.2.2.2.2.2.2.2.2.2.2.length<=1000000) ?_ ?_
 .refine aU (λx=>x.2.1=qt/\x.2.2.1=x2/\x.2.2.2.1=x3/\x.2.2.2.2.1=x4/\x.2.2.2.2.2.1=x5) ?_ ?_
  .refine aE (λ_=>ai ⟨rfl,rfl,rfl,rfl,rfl⟩) λ_=>?_
   refine aE (λhk=>?_) λ_=>aE (λhk=>?_) λ_=>ai ⟨rfl,rfl,rfl,rfl,rfl⟩
   .exact aK (ho (.inl hk)).1 (by dsimp only;rw[hw];exact (ho (.inl hk)).2) (aV (ai ⟨rfl,rfl,rfl,rfl,rfl⟩))
   .exact aK (ho (.inr hk)).1 (by dsimp only;rw[hw];exact (ho (.inr hk)).2) (aV (ai ⟨rfl,rfl,rfl,rfl,rfl⟩))
  .rintro⟨b,p1,p2,p3,p4,p5,p6⟩ ⟨D,L,f3,f4,f5⟩;dsimp only at D L f3 f4 f5;subst D;subst L;subst f3;subst f4;subst f5;refine aJ (λ_=>?_) λ_=>ai ⟨F,hadv2,rfl,rfl,rfl,rfl,by simp⟩
   have adv3:∀T',ui p1 T'->t.2<t.1.length->t.2<T'.2:=λT' A h=>by have:=hadv2 h;have:=A.m;omega
   refine aE (λ_=>?_) λ_=>aE (λ_=>?_) λ_=>aE (λ_=>?_) λ_=>aE (λ_=>?_) λ_=>?_
   .refine row p1 p2 _ _ F h0 λv T' A hv=>?_
    refine cR (lI rfl (Aa ?_));exact ai ⟨F.trans A,adv3 T' A,rfl,rfl,rfl,rfl,hv⟩
   .refine row p1 p3 _ _ F h1 λv T' A hv=>?_
    refine cR (lI rfl (Aa ?_));exact ai ⟨F.trans A,adv3 T' A,rfl,rfl,rfl,rfl,hv⟩
   .refine row p1 p4 _ _ F h2 λv T' A hv=>?_
    refine cR (lI rfl (Aa ?_));exact ai ⟨F.trans A,adv3 T' A,rfl,rfl,rfl,rfl,hv⟩
   .refine row p1 p5 _ _ F h3 λv T' A hv=>?_
    refine cR (lI rfl (Aa ?_));exact ai ⟨F.trans A,adv3 T' A,rfl,rfl,rfl,rfl,hv⟩
   .omega
 rintro⟨u1,u2,u3,u4,u5,u6,u7,u8,u9,u10,u11,u12⟩ ⟨D,L,f3,f4,f5,f6,I⟩;dsimp only at D L f3 f4 f5 f6 I;subst f3;subst f4;subst f5;subst f6;refine aU (λx=>ui t x.1/\(t.2<t.1.length->t.2<x.1.2)/\x.2.1=u2/\x.2.2.1=u3/\x.2.2.2.1=u4/\x.2.2.2.2.1=u5/\x.2.2.2.2.2.2.2.2.2.2.2.1.length<=1000000/\x.2.2.2.2.2.2.2.2.2.2.2.2.length<=1000000) ?_ ?_
 .refine aU (λx=>x.2=(u1,u2,u3,u4,u5,u6,u7,u8,u9,u10,u11,u12)) ?_ ?_
  .with_reducible repeat' first|(refine OS.ok ?_;constructor)|refine IM.mk λ_=>?_
   all_goals rfl
  .rintro⟨b,x⟩ e;dsimp only at e;subst e;refine aJ (λ_=>?_) λ_=>ai ⟨D,L,rfl,rfl,rfl,rfl,I,by simp⟩
   have adv3:∀T',ui u1 T'->t.2<t.1.length->t.2<T'.2:=λT' A h=>by have:=L h;have:=A.m;omega
   refine aE (λ_=>?_) λ_=>aE (λ_=>?_) λ_=>aE (λ_=>?_) λ_=>aE (λ_=>?_) λ_=>?_
   .refine row u1 u2 _ _ D h0 λv T' A hv=>?_
    refine cR (lI rfl (Aa ?_));exact ai ⟨D.trans A,adv3 T' A,rfl,rfl,rfl,rfl,I,hv⟩
   .refine row u1 u3 _ _ D h1 λv T' A hv=>?_
    refine cR (lI rfl (Aa ?_));exact ai ⟨D.trans A,adv3 T' A,rfl,rfl,rfl,rfl,I,hv⟩
   .refine row u1 u4 _ _ D h2 λv T' A hv=>?_
    refine cR (lI rfl (Aa ?_));exact ai ⟨D.trans A,adv3 T' A,rfl,rfl,rfl,rfl,I,hv⟩
   .refine row u1 u5 _ _ D h3 λv T' A hv=>?_
    refine cR (lI rfl (Aa ?_));exact ai ⟨D.trans A,adv3 T' A,rfl,rfl,rfl,rfl,I,hv⟩
   .omega
 rintro⟨a1,a2,a3,a4,a5,a6,a7⟩ ⟨g1,g2,g3,g4,g5,g6,g7,g8⟩;dsimp only at g1 g2 g3 g4 g5 g6 g7 g8;subst g3;subst g4;subst g5;subst g6;exact ai ⟨g1,rfl,g2,g7,g8⟩
def UI (e:ET):Prop:=e.2.2.2.2.2.1.length<=1000000/\e.2.2.2.2.2.2.length<=1000000
theorem abg {m:Nat} (hm:m<=1000) (s:SN) (hs:SZ m s) (w:WT) (hw:w.1.length=5) (hwt:w.2.2.2.2.1.length=4) (hwc:w.2.2.1.length<=1000) (n:Int) (hn:n<=60) (t:η×Int) (h:TP t):Ok (rQ ((s,w,n,aa),t)) λy=>(∀e∈y.1,UI e)/\y.1.length<=60:=by
 unfold rQ aX bh bm bT cX gN rn um De bp cD dC gd lz GW bg bA bt bJ aY cM aB;refine cR (cR (cR (dv (by dsimp only[aj];omega) (dv (fb _) (aZ (by dsimp only[aj];omega) (by omega) (Na (by dsimp only[aj];omega) ?_))))));refine aU (λx=>x=(t,s,w,[],[],[],[])) ⟨_,rfl,rfl⟩ ?_;rintro x rfl;refine mB (λx=>((t.1.length:Int)-x.1.2).toNat) (λx=>ui t x.1/\x.2.2.1=w/\SZ (m+x.2.2.2.1.length) x.2.1/\x.2.2.2.1.length<=60/\(∀e∈x.2.2.2.1,UI e)/\RB4 x.2.2.2.1.length x.2.2.2.2) ?_ ⟨ui.refl h,rfl,(by simpa using hs),by simp,λe he=>(by cases he),⟨by simp,by simp,by simp,by simp⟩⟩;rintro⟨d,s,w',out,r⟩ ⟨i1,i2,D,i4,i5,i6⟩;dsimp only at i1 i2 D i4 i5 i6;subst i2;refine aU (λx=>x.2=(d,s,w',out,r)/\(x.1=M->out.length<60/\d.2<d.1.length)) ?_ ?_
 .refine aQ (λh1=>ai ⟨rfl,λh2=>?_⟩) λ_=>ai ⟨rfl,λh=>(by cases h)⟩
  rw[lQ]at h2;dsimp only[aj]at h1 h2;exact⟨by omega,h2⟩
 rintro⟨b,x⟩ ⟨e,hb⟩;dsimp only at e hb;subst e;refine aJ (λh1=>?_) λ_=>ai ⟨i5,i4⟩
 obtain⟨ho,ht⟩:=hb h1;obtain⟨q0,q1,q2,q3⟩:=id i6;refine aU (λx=>ui d x.1/\d.2<x.1.2/\x.2.2.1=w'/\SZ (m+x.2.2.2.1.length) x.2.1/\x.2.2.2.1.length<=60/\(∀e∈x.2.2.2.1,UI e)/\RB4 x.2.2.2.1.length x.2.2.2.2) ?_ ?_
 .refine ar (Zo s D w' hw d i1.p r ⟨by omega,by omega,by omega,by omega⟩) λy hy=>?_
  obtain⟨ev,tp',r'⟩:=y;obtain⟨j1,j2,j3,A,q⟩:=hy;dsimp only at j1 j2 j3 A q;subst j2;have j3:=j3 ht;refine cR (lI rfl (cR (lI rfl (cR (lI rfl (cR (lI rfl (Aa ?_))))))));refine ar (zD w' s D.nb hwc ev (.inl (by omega)) (.inl (by omega))) λz hz=>?_
  refine cV (λ_=>ai ⟨j1,j3,rfl,D,i4,i5,i6⟩) λh2=>?_
  obtain⟨z1,z2⟩:=z;obtain⟨hE,hS,_⟩:=hz.1 h2;have hS2:=D.step hS (by omega);refine aU (λx=>x.1=tp'/\x.2.2.1=w'/\x.2.2.2.1=out/\UI x.2.2.2.2.1/\x.2.2.2.2.2.1=z1/\RB4 (out.length+1) x.2.2.2.2.2.2) ?_ ?_
  .refine aU (λx=>x.2=(tp',s,w',out,ev,z1,r')) ?_ ?_
   .refine aE (λ_=>ai rfl) λ_=>ai rfl
   .rintro⟨b,x⟩ e;dsimp only at e;subst e;have hk:=D.k;obtain⟨ev1,ev2⟩:=ev;have t0:=hE.t0;have t1:=hE.t1;rw[hwt]at t1;dsimp only at t0 t1;refine aJ (λ_=>?_) λ_=>ai ⟨rfl,rfl,rfl,⟨A,q⟩,rfl,⟨by dsimp only;omega,by dsimp only;omega,by dsimp only;omega,by dsimp only;omega⟩⟩
    refine aE (λ_=>?_) λ_=>aE (λ_=>?_) λ_=>aE (λ_=>?_) λ_=>aE (λ_=>?_) λ_=>?_
    .exact aK (by decide) (by dsimp only;omega) (aV (aZ (by simp;omega) (by omega) (ai ⟨rfl,rfl,rfl,⟨A,q⟩,rfl,⟨by simp;omega,by dsimp only;omega,by dsimp only;omega,by dsimp only;omega⟩⟩)))
    .exact aK (by decide) (by dsimp only;omega) (aV (aZ (by simp;omega) (by omega) (ai ⟨rfl,rfl,rfl,⟨A,q⟩,rfl,⟨by dsimp only;omega,by simp;omega,by dsimp only;omega,by dsimp only;omega⟩⟩)))
    .exact aK (by decide) (by dsimp only;omega) (aV (aZ (by simp;omega) (by omega) (ai ⟨rfl,rfl,rfl,⟨A,q⟩,rfl,⟨by dsimp only;omega,by dsimp only;omega,by simp;omega,by dsimp only;omega⟩⟩)))
    .exact aK (by decide) (by dsimp only;omega) (aV (aZ (by simp;omega) (by omega) (ai ⟨rfl,rfl,rfl,⟨A,q⟩,rfl,⟨by dsimp only;omega,by dsimp only;omega,by dsimp only;omega,by simp;omega⟩⟩)))
    .dsimp only at *;omega
  .rintro⟨x1,x2,x3,x4,x5,x6,x7⟩ ⟨k1,k2,k3,L,I,F⟩;dsimp only at k1 k2 k3 L I F;subst k1;subst k2;subst k3;subst I;refine aZ (by simp;omega) (by omega) (ai ⟨j1,j3,rfl,?_,by simp;omega,λe he=>?_,?_⟩)
   .dsimp only;rw[b7,c9,<-wg];exact hS2
   .rcases bP.1 he with he|he
    .exact i5 e he
    .rw[aI]at he;subst he;exact L
   .dsimp only;rw[b7,c9];exact F
 rintro⟨tp',s',w'',out',r'⟩ ⟨k1,k2,k3,L,I,F,k7⟩;dsimp only at k1 k2 k3 L I F k7;have e1:=i1.e;have a1:=k1.p.a1;have e2:=k1.e;refine ai ⟨⟨i1.trans k1,k3,L,I,F,k7⟩,?_⟩;dsimp only;rw[e2,e1]at a1;omega
structure W0 (w:WT):Prop where
 c:w.1.length=5
 l:w.2.1.length=3
 d:w.2.2.1.length=1
 f:w.2.2.2.1.length=1
 t:w.2.2.2.2.1.length=4
 s:w.2.2.2.2.2.length<=24
theorem W0.vl {w:WT} (h:W0 w):VL w:=⟨by rw[h.c];decide,by rw[h.l];decide,by rw[h.d];decide,by rw[h.f];decide,by rw[h.t];decide,by rw[h.t];decide,by have:=h.s;omega⟩
theorem Ry:Ok (nC ()) W0:=by
 unfold nC aX bh bm bT dC bA bt cM aB cw;refine b9 4 (λi x=>x.1=(i:Int)/\x.2.1.length=5/\x.2.2.1.length=3/\x.2.2.2.1.length=1/\x.2.2.2.2.1.length=1/\x.2.2.2.2.2.1.length=4/\x.2.2.2.2.2.2.length<=6*i) ?_ ?_ ⟨rfl,rfl,rfl,rfl,rfl,rfl,by simp⟩
 .rintro i ⟨a,w1,w2,w3,w4,w5,w6⟩ hi ⟨e1,e2,e3,s,q,d,I⟩;dsimp only at e1 e2 e3 s q d I;subst e1;refine aQ (λ_=>?_) λg=>(by dsimp only[aj]at g;simp at g;omega)
  refine b9 6 (λj x=>x.1=(j:Int)/\x.2.1=w1/\x.2.2.1=w2/\x.2.2.2.1=w3/\x.2.2.2.2.1=w4/\x.2.2.2.2.2.1=w5/\x.2.2.2.2.2.2.length<=6*i+j) ?_ ?_ ⟨rfl,rfl,rfl,rfl,rfl,rfl,by dsimp only;omega⟩
  .rintro j ⟨b,v1,v2,v3,v4,v5,v6⟩ hj ⟨d1,d2,F,D,A,z,L⟩;dsimp only at d1 d2 F D A z L;subst d1;refine aQ (λ_=>?_) λg=>(by dsimp only at g;omega)
   refine aZ (by simp;omega) (by omega) (ai ?_);dsimp only;exact⟨fo (by omega),d2,F,D,A,z,by simp;omega⟩
  .rintro⟨b,v1,v2,v3,v4,v5,v6⟩ ⟨d1,d2,F,D,A,z,L⟩;dsimp only at d1 d2 F D A z L;subst d1;subst d2;subst F;subst D;subst A;subst z;refine aQ (λg=>(by dsimp only at g;omega)) λ_=>ai ?_
   dsimp only;exact⟨fo (by omega),e2,e3,s,q,d,by omega⟩
 .rintro⟨a,w1,w2,w3,w4,w5,w6⟩ ⟨e1,e2,e3,s,q,d,I⟩;dsimp only at e1 e2 e3 s q d I;subst e1;refine aQ (λg=>(by dsimp only[aj]at g;simp at g)) λ_=>ai ?_
  exact⟨e2,e3,s,q,d,by omega⟩
theorem SZ.mono {n m:Nat} {s:SN} (h:SZ n s) (hnm:n<=m) (hm:m<=100000):SZ m s:=
 ⟨⟨⟨hm,h.nb.sb.lk,λl hl=>cY (h.nb.sb.rd l hl) hnm,h.nb.sb.dn,h.nb.sb.th⟩,h.nb.c,h.nb.f,h.nb.k⟩,h.c,h.f,h.k⟩
theorem Ux (w:WT) (d:W0 w):Ok (mU w) λs=>SZ 0 s:=by
 refine (Uy w d.vl).mono λs hs=>⟨hs.1,?_,?_,?_⟩
 .rw[hs.2.1,d.c]
 .rw[hs.2.2.1,d.f]
 .rw[hs.2.2.2,d.t]
structure WB (w:WT):Prop where
 c:w.1.length<=12
 l:w.2.1.length<=4
 d:w.2.2.1.length<=2
 f:w.2.2.2.1.length<=2
 t:w.2.2.2.2.1.length<=4
 s:w.2.2.2.2.2.length<=60
theorem VL.wb {w:WT} (h:VL w):WB w:=⟨h.c,h.l,h.d,h.f,h.t,h.s⟩
structure TR (y:WT×List ET):Prop where
 len:y.2.length<=100000
 ls:∀e∈y.2,UI e
theorem Hx (L:η) (n:Int) (hl:L.length<=9223372036854775807) (hb:∀x∈L,0<=x/\x<=255):Ok (pW (L,n)) TR:=by
 unfold pW aX bh bm cI cD bA ji iT bt kM aY cM aB cw;refine aU (λx=>x.length<=600/\∀z∈x,0<=z/\z<=255) ?_ ?_
 .refine aQ (λg=>?_) λg=>?_
  .dsimp only[aj]at g;refine cR (dv (by omega) (dv (by dsimp only;omega) (ai ⟨by dsimp only;rw[cg];simp;omega,λz q=>hb z (fH q)⟩)))
  .dsimp only[aj]at g;exact ai ⟨by dsimp only;omega,hb⟩
 rintro L' ⟨hL,hB⟩;refine ar Ry λw D=>?_
 have hvl:=D.vl;refine ar (Ux w D) λs hs=>?_
 refine ar (gk 3 (L',0) ⟨by dsimp only;omega,hB,by dsimp only;omega,by dsimp only;omega⟩) λy hy=>?_
 obtain⟨y1,yt⟩:=y;obtain⟨ty,yy0,yy1,_⟩:=hy;have yy1:=yy1 (by decide);dsimp only at ty yy0 yy1;have ew:ba .i64 (1+y1)=1+y1:=gI (by omega) (by omega);refine mB (λx=>(1+y1+1-x.1).toNat) (λx=>1<=x.1/\x.1<=2+y1/\x.2.1=yt/\x.2.2.1=w/\x.2.2.2.1=s/\((x.2.2.2.2.length:Nat):Int)<=2*x.1/\∀e∈x.2.2.2.2,UI e) ?_ ⟨by dsimp only;omega,by dsimp only;omega,rfl,rfl,rfl,by simp,λe he=>?_⟩
 .rintro⟨a,t,w',s',es⟩ ⟨e1,e2,e3,e4,e5,e6,e7⟩;dsimp only at e1 e2 e3 e4 e5 e6 e7;subst e3;subst e4;subst e5;refine dV (λg=>?_) λg=>?_
  .dsimp only at g;rw[ew]at g;refine aZ (by simp;omega) (by omega) (ai ?_);dsimp only;rw[gI (n:=a+1) (by omega) (by omega)];refine ⟨⟨by omega,by omega,rfl,rfl,rfl,by simp;omega,λe he=>?_⟩,by omega⟩;rcases bP.1 he with he|he
   .exact e7 e he
   .simp only[bx,cH,gK]at he;rcases he with he|he<;>subst he<;>exact⟨by simp,by simp⟩
  .refine ar (P:=TR) ?_ λr hr=>ai hr
   refine b9 es.length (λi x=>x.1=(i:Int)/\TP x.2.1/\x.2.2.1=w'/\SZ i x.2.2.2.1/\x.2.2.2.2.1=es/\x.2.2.2.2.2.length<=i/\∀e∈x.2.2.2.2.2,UI e) ?_ ?_ ⟨rfl,ty.p,rfl,hs,rfl,by simp,λe he=>(by cases he)⟩
   .rintro i ⟨b,t,w',s',es',out⟩ hi ⟨d1,d2,d3,A,I,d6,F⟩;dsimp only at d1 d2 d3 A I d6 F;subst d1;subst d3;subst I;refine aQ (λ_=>?_) λg=>(by dsimp only[aj]at g;omega)
    refine aU (λx=>TP x.1/\x.2.1=w'/\SZ (i+1) x.2.2.1/\x.2.2.2.1=es'/\x.2.2.2.2.length<=i+1/\∀e∈x.2.2.2.2,UI e) ?_ ?_
    .refine aK (by dsimp only;omega) (by dsimp only;omega) (aK (by dsimp only;omega) (by dsimp only;omega) (aV ?_));have q:=e7 _ (bG (T:=.st (.pr (.int .i64) (.pr (.int .i64) (.pr (.int .i64) (.pr (.int .i64) (.pr (.int .i64) (.pr (.sl (.int .i64)) (.sl (.int .i64))))))))) (xs:=es') (j:=(i:Int)) (by omega) (by omega));revert q;generalize (aH _ _)=z;intro q;refine ar (zD w' s' A.nb (by rw[D.d];decide) z (.inl (by have:=q.1;omega)) (.inl (by have:=q.2;omega))) λv hv=>?_
     refine aJ (λh=>?_) λh=>ai ⟨d2,rfl,A.mono (by omega) (by omega),rfl,by dsimp only;omega,F⟩
     refine aZ (by simp;omega) (by omega) (ai ⟨d2,rfl,A.step (hv.1 h).2.1 (by omega),rfl,by simp;omega,λe he=>?_⟩);rcases bP.1 he with he|he
     .exact F e he
     .rw[aI]at he;subst he;exact q
    .rintro⟨t,w'',s'',es'',out'⟩ ⟨f1,f2,f3,f4,f5,f6⟩;dsimp only at f1 f2 f3 f4 f5 f6;refine ai ?_;dsimp only;exact⟨fo (by omega),f1,f2,f3,f4,f5,f6⟩
   .rintro⟨b,t,w',s',es',out⟩ ⟨d1,d2,d3,A,I,d6,F⟩;dsimp only at d1 d2 d3 A I d6 F;subst d1;subst d3;subst I;refine aQ (λg=>(by dsimp only[aj]at g;omega)) λ_=>?_
    refine ar (P:=TR) ?_ λr hr=>ai hr
    have hmin:F1 (gJ n 0) 60<=60:=by
     unfold F1;split
     .omega
     .rename_i h;simp[fE]at h;exact h
    refine ar (abg (by omega) s' A w' D.c D.t (by rw[D.d];decide) _ hmin t d2) λv hv=>?_
    refine aZ (by have:=hv.2;dsimp only;omega) (by omega) ?_;have hall:∀e∈out++v.1,UI e:=λe he=>by
     rcases bP.1 he with he|he
     .exact F e he
     .exact hv.1 e he
    refine ar (aag w' (out++v.1)) λc hc=>?_
    refine bY (λ_=>?_) λh=>?_
    .exact ar Ry λu _=>ai ⟨by simp,λe he=>(by cases he)⟩
    .exact ai ⟨by have:=hv.2;simp;omega,hall⟩
 .rw[aI]at he;subst he;exact⟨by simp,by simp⟩
abbrev IT:Type:=ω
abbrev CT:Type:=WT×Y (Int×Y IT)
theorem B' (a b:Int):jr (a,b)=Z (decide (0<=a/\a<b)):=by
 refine b6 ?_;unfold jr ji aB;with_reducible repeat' first|(refine OS.ok ?_;constructor)|refine IM.mk λ_=>?_
 .by_cases h:a<b<;>simp[*,fE]
 .simp;omega
theorem MN (k:Int):pA k=Z (decide (1<=k/\k<=5)):=by
 refine b6 ?_;unfold pA ji aB;with_reducible repeat' first|(refine OS.ok ?_;constructor)|refine IM.mk λ_=>?_
 .by_cases h:k<=5<;>simp[*,cO]
 .simp;omega
def sL (i:IT):η:=
 if i.1=1\/i.1=6\/i.1=10\/i.1=27 then [i.2.1]
 else if i.1=2\/i.1=3 then [i.2.1,i.2.2.1]
 else if i.1=4 then [i.2.1,i.2.2.1,i.2.2.2.1]
 else if i.1=7 then [i.2.1,i.2.2.2.1]
 else if i.1=8\/i.1=26 then [i.2.2.1]
 else if i.1=9 then [i.2.2.1,i.2.2.2.1]
 else []
theorem xd (i:IT):jI i=Z (sL i):=by
 obtain⟨d,i2⟩:=i;unfold jI sL aX bh bm bg aB;by_cases h1:d=1
 .subst h1;rfl
 by_cases h2:d=6
 .subst h2;rfl
 by_cases h3:d=10
 .subst h3;rfl
 by_cases L:d=27
 .subst L;rfl
 by_cases I:d=2
 .subst I;rfl
 by_cases F:d=3
 .subst F;rfl
 by_cases D:d=4
 .subst D;rfl
 by_cases A:d=7
 .subst A;rfl
 by_cases z:d=8
 .subst z;rfl
 by_cases s:d=26
 .subst s;rfl
 by_cases q:d=9
 .subst q;rfl
 simp only[h1,h2,h3,L,I,F,D,A,z,s,q,dh,ZO,jnr,gK,dx]
theorem Hz (z:IT):(sL z).length<=3:=by
 unfold sL
 (repeat' split)<;>simp
theorem YU (l:Y IT) (a:Int) (hl:l.length<=1000000):Ok (tw (l,a)) λ_=>True:=by
 unfold tw bg bA ji bJ aY cM aB cw;refine mB (λx=>((l.length:Int)+1-x.2).toNat) (λx=>0<=x.2/\x.2<=(l.length:Int)+1) ?_ ⟨by dsimp only;omega,by dsimp only;omega⟩;rintro⟨(a:Int),(n:Int)⟩ ⟨h0,h1⟩;dsimp only at h0 h1;refine dV (λg=>?_) λ_=>ai trivial
 dsimp only[aj]at g;refine aU (λ_=>True) ?_ λb _=>ai ?_
 .refine aU (λb=>b=aa->0<=a/\a<(l.length:Int)) ?_ ?_
  .refine aQ (λ_=>ai λh=>(by cases h)) λd=>ai λh=>?_
   rw[ko]at h;dsimp only[aj]at h d;exact⟨d,h⟩
  .intro b hb;refine aJ (λ_=>ai trivial) λh=>?_
   obtain⟨q0,q1⟩:=hb h;refine aK q0 (by dsimp only;omega) (aV ?_);refine aS (MN _) ?_;refine cV (λ_=>ai trivial) λ_=>?_
   refine aK q0 (by dsimp only;omega) (aV ?_);refine aE (λ_=>?_) λ_=>ai trivial
   exact aK q0 (by dsimp only;omega) (aV (ai trivial))
 .dsimp only;rw[gI (by omega) (by omega)];exact⟨⟨by omega,by omega⟩,by omega⟩
theorem Rs (w:WT) (b n:Int):Ok (qR (w,b,n)) λ_=>True:=by
 unfold qR bg iT bJ aY aB;refine aU (λ_=>True) ?_ λ_ _=>ai trivial
 refine aS (B' _ _) ?_;refine aE (λh=>?_) λ_=>ai trivial
 dsimp only[aj]at h;with_reducible repeat' first|(refine OS.ok ?_;constructor)|refine IM.mk λ_=>?_
 all_goals try simp only[aj,ol] at*
 all_goals first|omega|trivial
theorem Sz (w:WT) (i:IT):Ok (pZ (w,i)) λ_=>True:=by
 unfold pZ aX bh bm bT cX bg ji bJ aY aB;simp only[B',R6];refine aE (λ_=>?_) λ_=>?_
 .refine aU (λ_=>True) ?_ λ_ _=>ai trivial
  refine aE (λh=>?_) λ_=>ai trivial
  exact aK h.1 h.2 (aV (ai trivial))
 refine aE (λ_=>?_) λ_=>?_
 .refine aU (λ_=>True) ?_ λ_ _=>ai trivial
  refine aE (λh=>?_) λ_=>ai trivial
  exact aK h.1 h.2 (aV (ai trivial))
 refine aE (λ_=>?_) λ_=>?_
 .exact ar (Rs _ _ _) λ_ _=>ai trivial
 refine aE (λ_=>?_) λ_=>?_
 .exact ar (Rs _ _ _) λ_ _=>ai trivial
 refine aU (λx=>x.2=(w,i)) (aE (λ_=>ai rfl) λ_=>ai rfl) ?_;rintro⟨b,x⟩ e;dsimp only at e;subst e;refine aJ (λ_=>?_) λ_=>?_
 .refine aU (λ_=>True) ?_ λ_ _=>ai trivial
  refine aE (λh=>?_) λ_=>ai trivial
  exact aK h.1 h.2 (aV (ai trivial))
 refine aU (λx=>x.2=(w,i)) (aE (λ_=>ai rfl) λ_=>aE (λ_=>ai rfl) λ_=>aE (λ_=>ai rfl) λ_=>ai rfl) ?_;rintro⟨b,x⟩ e;dsimp only at e;subst e;refine aJ (λ_=>?_) λ_=>?_
 .refine aU (λ_=>True) ?_ λ_ _=>ai trivial
  refine aE (λh=>?_) λ_=>ai trivial
  exact aK h.1 h.2 (aV (ai trivial))
 refine aU (λx=>x.2=(w,i)) (aE (λ_=>ai rfl) λ_=>aE (λ_=>ai rfl) λ_=>ai rfl) ?_;rintro⟨b,x⟩ e;dsimp only at e;subst e;refine aJ (λ_=>ai trivial) λ_=>?_
 refine aU (λx=>x.2=(w,i)) (aE (λ_=>ai rfl) λ_=>ai rfl) ?_;rintro⟨b,x⟩ e;dsimp only at e;subst e;with_reducible repeat' first|(refine OS.ok ?_;constructor)|refine IM.mk λ_=>?_
 all_goals trivial
structure VI (n:Int) (i:IT):Prop where
 o1:1<=i.1
 o2:i.1<=28
 r:∀j∈sL i,0<=j/\j<n
structure VT (t:Int×List IT):Prop where
 r0:0<=t.1
 r1:t.1<=32
 i:∀i∈t.2,VI t.1 i
theorem Hr (w:WT) (k:Int) (c:Int×Y IT) (hc:c.2.length<=1000000):Ok (kW (w,k,c)) λb=>b=M->VT c:=by
 unfold kW aX bh bm bT bp cD lz bg bA iT bJ aY cM aB cw;refine aU (λx=>x.2=(w,c)/\(x.1=aa->0<=c.1/\c.1<=32)) ?_ ?_
 .refine aQ (λ_=>ai ⟨rfl,λh=>(by cases h)⟩) λh0=>aQ (λ_=>ai ⟨rfl,λh=>(by cases h)⟩) λh1=>ai ⟨rfl,λ_=>⟨h0,h1⟩⟩
 rintro⟨b,x⟩ ⟨e,hb⟩;dsimp only at e hb;subst e;refine aJ (λ_=>ai λh=>(by cases h)) λh=>?_
 obtain⟨r0,r1⟩:=hb h;refine b9 c.2.length (λi x=>x.1=(i:Int)/\x.2=(w,c)/\∀k:Nat,k<i->VI c.1 (aH (T:=.st (.pr (.int .i64) (.pr (.int .i64) (.pr (.int .i64) (.pr (.int .i64) (.pr (.int .i64) (.int .i64))))))) c.2 (k:Int))) ?_ ?_ ⟨rfl,rfl,λk hk=>by omega⟩
 .rintro i ⟨a,x⟩ hi ⟨e1,e2,e3⟩;dsimp only at e1 e2 e3;subst e1;subst e2;refine aQ (λ_=>?_) λg=>(by dsimp only[aj]at g;omega)
  refine aK (by dsimp only;omega) (by dsimp only;omega) (aV ?_);generalize s:(aH _ _)=z;refine aU (λx=>x.2=(w,c,z)/\(x.1=aa->1<=z.1/\z.1<=28)) ?_ ?_
  .refine aQ (λ_=>ai ⟨rfl,λh=>(by cases h)⟩) λh0=>aQ (λ_=>ai ⟨rfl,λh=>(by cases h)⟩) λh1=>?_
   refine aJ (λ_=>ai ⟨rfl,λh=>(by cases h)⟩) λ_=>?_
   refine ar (Sz w z) λy _=>?_
   refine cV (λ_=>ai ⟨rfl,λh=>(by cases h)⟩) λ_=>?_
   exact ar (YU c.2 _ hc) λy _=>ai ⟨rfl,λ_=>⟨h0,h1⟩⟩
  rintro⟨b,x⟩ ⟨e,hb⟩;dsimp only at e hb;subst e;refine aJ (λ_=>ai λh=>(by cases h)) λh=>?_
  obtain⟨o1,o2⟩:=hb h;refine aU (λx=>x.2=(w,c,z)) ?_ ?_
  .simp only[B',R6];have key:∀(f:ν->Bool),Ok (aF (!decide (0<=z.2.2.2.2.2/\z.2.2.2.2.2<aT w.2.2.2.2.2.length)) (Z (bZ (M,w,c,z)):J (Bool⊕(Bool×WT×(Int×Y IT)×IT))) (chk (eZ z.2.2.2.2.2 w.2.2.2.2.2.length) λ_=>lt (aH (T:=.st (.pr (.int .i64) (.pr (.int .i64) (.int .i64)))) w.2.2.2.2.2 z.2.2.2.2.2).1 λq=>Z (bZ (!decide ((q:Int)=k),w,c,z)))) (λr=>match r with|.inl r=>(match (r:Bool) with|_=>True)|.inr x=>x.2=(w,c,z)):=λf=>by
    refine bY (λ_=>ai rfl) λh=>?_
    exact aK h.1 h.2 (aV (ai rfl))
   with_reducible repeat' first|(refine OS.ok ?_;constructor)|refine IM.mk λ_=>?_
   all_goals first|rfl|(simp only[aj]at *;omega)|skip
  rintro⟨b,x⟩ e;dsimp only at e;subst e;refine aJ (λ_=>ai λh=>(by cases h)) λ_=>?_
  refine aU (λx=>x.2=(w,c,z)) ?_ ?_
  .simp only[B',R6];with_reducible repeat' first|(refine OS.ok ?_;constructor)|refine IM.mk λ_=>?_
   all_goals rfl
  rintro⟨b,x⟩ e;dsimp only at e;subst e;refine aJ (λ_=>ai λh=>(by cases h)) λ_=>?_
  refine aS (xd z) ?_;refine b9 (sL z).length (λj x=>x.1=(j:Int)/\x.2=(w,c)/\∀k:Nat,k<j->0<=aH (T:=.int .i64) (sL z) (k:Int)/\aH (T:=.int .i64) (sL z) (k:Int)<c.1) ?_ ?_ ⟨rfl,rfl,λk hk=>by omega⟩
  .rintro j ⟨a,x⟩ hj ⟨d1,d2,d⟩;dsimp only at d1 d2 d;subst d1;subst d2;refine aQ (λ_=>?_) λg=>(by dsimp only[aj]at g;omega)
   refine aK (by dsimp only;omega) (by dsimp only;omega) (aV ?_);refine aS (B' _ _) ?_;refine bY (λ_=>ai λh=>(by cases h)) λh=>ai ?_
   dsimp only at h ⊢;have hj32:(sL z).length<=3:=Hz z;refine ⟨fo (by omega),rfl,λk hk=>?_⟩;rcases bN k j with h1|h1
   .exact d k h1
   .rw[show k=j by omega];exact h
  .rintro⟨a,x⟩ ⟨d1,d2,d⟩;dsimp only at d1 d2 d;subst d1;subst d2;refine aQ (λg=>(by dsimp only[aj]at g;omega)) λ_=>ai ?_
   dsimp only;refine ⟨fo (by omega),rfl,λk hk=>?_⟩;rcases bN k i with h1|h1
   .exact e3 k h1
   .rw[show k=i by omega,s];exact⟨o1,o2,ir (T:=.int .i64) d⟩
 .rintro⟨a,x⟩ ⟨e1,e2,e3⟩;dsimp only at e1 e2 e3;subst e1;subst e2;refine aQ (λg=>(by dsimp only[aj]at g;omega)) λ_=>ai λ_=>⟨r0,r1,ir (T:=.st (.pr (.int .i64) (.pr (.int .i64) (.pr (.int .i64) (.pr (.int .i64) (.pr (.int .i64) (.int .i64))))))) (p:=VI c.1) e3⟩
structure VC (c:CT):Prop where
 vl:VL c.1
 tl:c.2.length=c.1.2.2.2.2.1.length
 t:∀t∈c.2,VT t
structure CB (c:CT):Prop where
 th:c.2.length<=1000000
 ins:∀t∈c.2,t.2.length<=1000000
theorem J1 (c:CT) (hb:CB c):Ok (pl c) λb=>b=M->VC c:=by
 obtain⟨w,l⟩:=c;obtain⟨h1,h2⟩:=hb;dsimp only at h1 h2;unfold pl bm bA bJ aY cM aB cw;refine aU (λx=>x.2=(w,l)/\(x.1=aa->VL w/\l.length=w.2.2.2.2.1.length)) ?_ ?_
 .refine ar (AB w) λb hb=>?_
  refine cV (λ_=>ai ⟨rfl,λh=>(by cases h)⟩) λh=>ai ⟨rfl,λs=>⟨(hb h).1,?_⟩⟩
  simp at s;omega
 rintro⟨b,x⟩ ⟨e,d⟩;dsimp only at e d;subst e;refine aJ (λ_=>ai λh=>(by cases h)) λh=>?_
 obtain⟨hv,hl⟩:=d h;refine b9 l.length (λi x=>x.1=(i:Int)/\x.2=(w,l)/\∀k:Nat,k<i->VT (aH (T:=G2) l (k:Int))) ?_ ?_ ⟨rfl,rfl,λk hk=>by omega⟩
 .rintro i ⟨a,x⟩ hi ⟨e1,e2,e3⟩;dsimp only at e1 e2 e3;subst e1;subst e2;refine aQ (λ_=>?_) λg=>(by dsimp only[aj]at g;omega)
  refine aK (by dsimp only;omega) (by dsimp only;omega) (aV ?_);have hm:=bG (T:=G2) (xs:=l) (j:=(i:Int)) (by omega) (by omega);revert hm;generalize q:(aH (T:=G2) l (i:Int))=z;intro hm;refine ar (Hr w _ z (h2 z hm)) λb hb=>?_
  refine cV (λ_=>ai λh=>(by cases h)) λh=>ai ?_
  dsimp only;refine ⟨fo (by omega),rfl,λk hk=>?_⟩;rcases bN k i with h1|h1
  .exact e3 k h1
  .rw[show k=i by omega,q];exact hb h
 .rintro⟨a,x⟩ ⟨e1,e2,e3⟩;dsimp only at e1 e2 e3;subst e1;subst e2;refine aQ (λg=>(by dsimp only[aj]at g;omega)) λ_=>ai λ_=>⟨hv,hl,ir (T:=G2) (p:=VT) e3⟩
abbrev TT:Type:=Int×η×Y η×Int
structure TL (E:Nat) (l:η):Prop where
 a:xR l
 m:∀y∈l,0<=y/\y<(E:Int)
theorem TL.len {E:Nat} {l:η} (h:TL E l):l.length<=E:=by
 have:=Hj l 0 E h.a h.m;omega
theorem TL.nil (E:Nat):TL E []:=⟨trivial,λy d=>(by cases d)⟩
theorem TL.uni {E:Nat} {a b:η} (q:TL E a) (hb:TL E b):TL E (qC a b):=
 ⟨OM a b,λy d=>by
   rcases OL.1 d with h|h
   .exact q.m y h
   .exact hb.m y h⟩
theorem TL.mono {E F:Nat} {l:η} (h:TL E l) (hf:E<=F):TL F l:=⟨h.a,λy d=>⟨(h.m y d).1,by have:=(h.m y d).2;omega⟩⟩
structure TH (E:Nat) (s:TT):Prop where
 r:s.2.1.length<=32
 t:s.2.2.1.length<=32
 l:∀l∈s.2.2.1,TL E l
 e0:0<=s.2.2.2
 e1:s.2.2.2<=(E:Int)
theorem TH.zero (E:Nat):TH E (0,[],[],0):=⟨by simp,by simp,λl hl=>(by cases hl),by simp,by simp⟩
theorem TH.mono {E F:Nat} {s:TT} (h:TH E s) (hf:E<=F):TH F s:=⟨h.r,h.t,λl hl=>(h.l l hl).mono hf,h.e0,by have:=h.e1;omega⟩
theorem c7 (s:TT) (E:Nat) (F:E<=100000) (h:TH E s):ci s=Z ((s.1,s.2.2.2),s.2.1,s.2.2.1):=by
 obtain⟨h1,h2,D,L,I⟩:=h;refine b6 ?_;unfold ci aX bh bm bp cD bA bt bJ aY cM aB cw;refine aZ (by simp;omega) (by omega) ?_;refine b9 s.2.2.1.length (λi x=>x.1=(i:Int)/\x.2.1=s/\x.2.2.2.1=(s.1,s.2.2.2)/\x.2.2.2.2.1=s.2.1/\x.2.2.2.2.2=s.2.2.1.take i) ?_ ?_ ⟨rfl,rfl,rfl,rfl,rfl⟩
 .rintro i ⟨a,b,c,d,e,f⟩ hi ⟨e1,e2,e3,z,q⟩;dsimp only at e1 e2 e3 z q;subst e1;subst e2;subst q;refine aQ (λ_=>?_) λg=>(by dsimp only[aj]at g;omega)
  refine aK (by dsimp only;omega) (by dsimp only;omega) (aV ?_);have A:=(D _ (bG (T:=.sl (.int .i64)) (xs:=b.2.2.1) (j:=(i:Int)) (by omega) (by omega))).len;refine aZ (by simp only[j6,bM];exact cY A (by omega)) (by omega) ?_;refine aZ (by simp;omega) (by omega) (ai ?_);dsimp only;refine ⟨fo (by omega),rfl,e3,z,?_⟩;rw[pP (T:=.sl (.int .i64)) hi];rfl
 .rintro⟨a,b,c,d,e,f⟩ ⟨e1,e2,e3,z,q⟩;dsimp only at e1 e2 e3 z q;subst e1;subst e2;subst q;refine aQ (λg=>(by dsimp only[aj]at g;omega)) λ_=>ai ?_
  show (d,e,_)=_;rw[e3,z,bS]
theorem vj (b:Bool):Ok (fI b) λ_=>True:=by
 unfold fI;with_reducible repeat' first|(refine OS.ok ?_;constructor)|refine IM.mk λ_=>?_
 all_goals trivial
theorem EO (n:Int):Ok (ml n) λ_=>True:=by
 unfold ml bA aB;with_reducible repeat' first|(refine OS.ok ?_;constructor)|refine IM.mk λ_=>?_
 all_goals trivial
theorem Z1 (x:Γ):Ok (tD x) λ_=>True:=by
 unfold tD bg;refine aE (λ_=>ai trivial) λ_=>aE (λ_=>?_) λ_=>ai trivial
 exact ar (vj _) λ_ _=>ai trivial
theorem XX (x:ν):Ok (rS x) λ_=>True:=by
 unfold rS bg iT bt aB;have t1:∀b,Ok (av (fI b) λy=>Z (y,M)) λ_=>True:=λb=>ar (vj _) λ_ _=>ai trivial
 refine aE (λ_=>ai trivial) λ_=>aE (λ_=>ai trivial) λ_=>aE (λ_=>ai trivial) λ_=>?_
 refine aE (λ_=>aE (λ_=>ai trivial) λh=>vo h (ai trivial)) λ_=>?_
 refine aE (λ_=>aE (λ_=>ai trivial) λh=>vo h (ai trivial)) λ_=>?_
 refine aE (λ_=>t1 _) λ_=>aE (λ_=>t1 _) λ_=>aE (λ_=>t1 _) λ_=>aE (λ_=>t1 _) λ_=>aE (λ_=>t1 _) λ_=>aE (λ_=>t1 _) λ_=>?_
 refine aE (λ_=>aU (λ_=>True) (bY (λ_=>ar (vj _) λ_ _=>ai trivial) λ_=>ar (vj _) λ_ _=>ai trivial) λ_ _=>ai trivial) λ_=>?_
 exact aE (λ_=>aU (λ_=>True) (bY (λ_=>ar (vj _) λ_ _=>ai trivial) λ_=>ar (vj _) λ_ _=>ai trivial) λ_ _=>ai trivial) λ_=>ai trivial
theorem VY (E:Nat) (hE:E<=100000) (i:IT) (p:Γ) (R:η) (T:Y η) (hr:∀j∈sL i,0<=j/\j<(R.length:Int)) (o1:1<=i.1) (o2:i.1<=5) (hR:R.length<=32) (q:T.length=R.length) (hl:∀l∈T,TL E l):Ok (vx ((i,p),R,T)) λy=>y.1.1.2=p.2/\y.2.1.length=R.length/\y.2.2.length=T.length/\∀l∈y.2.2,TL E l:=by
 unfold vx aX bh bm ck bg bA bt bJ kM aY cM aB cw;refine aS (xd i) ?_;have h3:=Hz i;refine b9 (sL i).length (λj x=>x.1=(j:Int)/\x.2.1=R/\x.2.2.1=T/\x.2.2.2.1=i/\x.2.2.2.2.1=p) ?_ ?_ ⟨rfl,rfl,rfl,rfl,rfl⟩
 .rintro j ⟨a,b,c,d,e⟩ hj ⟨e1,e2,e3,F,z⟩;dsimp only at e1 e2 e3 F z;subst e1;subst e2;subst e3;subst F;refine aQ (λ_=>?_) λg=>(by dsimp only[aj]at g;omega)
  have hz:=hr _ (bG (T:=.int .i64) (xs:=sL d) (j:=(j:Int)) (by omega) (by omega));refine aU (λx=>x.2=(b,c,d,e)/\x.1=aa) ?_ ?_
  .refine aK (by dsimp only;omega) (by dsimp only;omega) (aV ?_);refine aQ (λg=>?_) λ_=>?_
   .dsimp only at g;omega
   refine aK (by dsimp only;omega) (by dsimp only;omega) (aV (ai ⟨rfl,?_⟩));dsimp only;rw[ko];exact hz.2
  rintro⟨b',x⟩ ⟨D,A⟩;dsimp only at D A;subst D;subst A;refine aJ (λh=>(by cases h)) λ_=>ai ?_
  dsimp only;exact⟨fo (by omega),rfl,rfl,rfl,z⟩
 .rintro⟨a,b,c,d,e⟩ ⟨e1,e2,e3,F,z⟩;dsimp only at e1 e2 e3 F z;subst e1;subst e2;subst e3;subst F;refine aQ (λg=>(by dsimp only[aj]at g;omega)) λ_=>?_
  obtain⟨e,e'⟩:=e;dsimp only at z;subst z;refine ar (P:=λy=>y.1.1.2=e.2/\y.2.1.length=b.length/\y.2.2.length=c.length/\∀l∈y.2.2,TL E l) ?_ λr hr=>ai hr
  have hA:d.1≠5->0<=d.2.1/\d.2.1<(b.length:Int):=λh5=>hr _ (by
   unfold sL;(repeat' split)<;>simp<;>omega)
  have hB:2<=d.1->d.1≠5->0<=d.2.2.1/\d.2.2.1<(b.length:Int):=λh2 h5=>hr _ (by
   unfold sL;(repeat' split)<;>simp<;>omega)
  have hC:d.1=4->0<=d.2.2.2.1/\d.2.2.2.1<(b.length:Int):=λh5=>hr _ (by
   unfold sL;(repeat' split)<;>simp<;>omega)
  have hg:∀{j:Int},0<=j->j<(b.length:Int)->TL E (aH (T:=.sl (.int .i64)) c j):=λh0 h1=>hl _ (bG (T:=.sl (.int .i64)) (xs:=c) h0 (by rw[q];exact h1))
  refine aU (λx=>x.2.1=b/\x.2.2.1=c/\x.2.2.2.1=d/\x.2.2.2.2.1=e/\TL E x.1.2.2/\d.1≠5) ?_ ?_
  .refine aE (λ_=>ai ⟨rfl,rfl,rfl,hl⟩) λs=>?_
   refine aE (λ_=>ai ⟨rfl,rfl,rfl,rfl,TL.nil E,s⟩) λn1=>?_
   dsimp only at n1 s;obtain⟨b0,b1⟩:=hB (by omega) s;refine aE (λ_=>?_) λn2=>?_
   .refine aK b0 b1 (aK b0 b1 (aV ?_));refine aK b0 (by dsimp only;rw[q];exact b1) (aK b0 (by dsimp only;rw[q];exact b1) (aV ?_));exact ai ⟨rfl,rfl,rfl,rfl,hg b0 b1,s⟩
   refine aE (λ_=>?_) λn3=>?_
   .refine ar (EO _) λy _=>?_
    refine aK b0 b1 (aK b0 b1 (aV ?_));refine ar (Z1 _) λy _=>?_
    refine aK b0 (by dsimp only;rw[q];exact b1) (aK b0 (by dsimp only;rw[q];exact b1) (aV ?_));exact ai ⟨rfl,rfl,rfl,rfl,hg b0 b1,s⟩
   dsimp only at n2 n3;obtain⟨L,I⟩:=hC (by omega);refine ar (EO _) λy _=>?_
   refine aK b0 b1 (aK b0 b1 (aV ?_));refine aK L I (aK L I (aV ?_));refine ar (XX _) λy _=>?_
   refine aK b0 (by dsimp only;rw[q];exact b1) (aK b0 (by dsimp only;rw[q];exact b1) (aV ?_));refine aK L (by dsimp only;rw[q];exact I) (aK L (by dsimp only;rw[q];exact I) (aV ?_));have g1:=hg b0 b1;have g2:=hg L I;refine aS (RA _ _ (cY g1.len (by omega)) (cY g2.len (by omega))) ?_;exact ai ⟨rfl,rfl,rfl,rfl,g1.uni g2,s⟩
  rintro⟨⟨v,ok,tn⟩,b',c',d',e',e''⟩ ⟨D,A,f3,f4,f5,f6⟩;dsimp only at D A f3 f4 f5 f6;subst D;subst A;subst f3;subst f4;obtain⟨a0,a1⟩:=hA f6;have ht:=f5.len;refine aZ (by simp;omega) (by omega) ?_;refine aK a0 a1 (aK a0 a1 (aK a0 (by dsimp only;rw[q];exact a1) (aK a0 (by dsimp only;rw[q];exact a1) (ai ?_))));refine ⟨rfl,cu ..,cu ..,λl hm=>?_⟩;rcases xX hm with h|h
  .exact hl l h
  .rw[h];exact f5
theorem Xw (E:Nat) (I:E<=100000) (c:Int×Y IT) (hc:c.2.length<=1000000) (hv:VT c) (s:TT) (h:TH E s):Ok (nk (c,s)) λy=>TH E y.1:=by
 unfold nk aX bh bm bp cI cD bg bA ji iT bt bJ aY cM aB cw;have q:=h;obtain⟨h1,h2,h3,h4,h5⟩:=h;refine aU (λx=>x.2.1=c/\x.2.2.1=s/\(x.1=aa->(s.2.1.length:Int)=c.1/\(s.2.2.1.length:Int)=c.1)) ?_ ?_
 .refine bY (λ_=>ai ⟨rfl,rfl,λh=>(by cases h)⟩) λg=>ai ⟨rfl,rfl,λh=>?_⟩
  simp at h;exact⟨g,h⟩
 rintro⟨b,c',s',z⟩ ⟨e1,e2,e3⟩;dsimp only at e1 e2 e3;subst e1;subst e2;refine aJ (λ_=>ai (TH.zero E)) λhb=>?_
 obtain⟨q1,q2⟩:=e3 hb;refine aS (c7 s' E I q) ?_;refine mB (λx=>((c'.2.length:Int)+1-x.1).toNat) (λx=>0<=x.1/\x.1<=(c'.2.length:Int)+1/\x.2.1=c'/\x.2.2.1.2=s'.2.2.2/\x.2.2.2.2.1.length=s'.2.1.length/\x.2.2.2.2.2.length=s'.2.2.1.length/\∀l∈x.2.2.2.2.2,TL E l) ?_ ⟨by dsimp only;omega,by dsimp only;omega,rfl,rfl,rfl,rfl,h3⟩;rintro⟨(n:Int),c,⟨(d:Int),ev⟩,z',R,T⟩ ⟨n0,n1,e1,e2,e3,e4,A⟩;dsimp only at n0 n1 e1 e2 e3 e4 A;subst e1;subst e2;refine dV (λg=>?_) λ_=>ai (TH.zero E)
 dsimp only[aj]at g;refine aU (λx=>x.2=(c,(d,s'.2.2.2),z',R,T)/\(x.1=aa->0<=d/\d<(c.2.length:Int))) ?_ ?_
 .refine aQ (λ_=>ai ⟨rfl,λh=>(by cases h)⟩) λL=>ai ⟨rfl,λh=>?_⟩
  dsimp only at L h;rw[ko]at h;exact⟨L,h⟩
 rintro⟨b',x⟩ ⟨f1,f2⟩;dsimp only at f1 f2;subst f1;refine aJ (λ_=>ai (TH.zero E)) λhb=>?_
 obtain⟨p0,p1⟩:=f2 hb;refine aK p0 p1 (aV ?_);have hi:=hv.i _ (bG (T:=UN) (xs:=c.2) (j:=d) p0 p1);revert hi;generalize (aH (T:=UN) _ _)=i;intro hi;refine aS (MN _) ?_;refine bY (λ_=>ai ⟨by dsimp only;omega,by dsimp only;omega,A,h4,h5⟩) λhsil=>?_
 refine aE (λ_=>ai (TH.zero E)) λhn=>?_
 dsimp only[aj]at hn;refine ar (VY E I i (d,s'.2.2.2) R T (λj hj=>by have:=hi.r j hj;omega) hsil.1 hsil.2 (by omega) (by omega) A) λy hy=>?_
 obtain⟨⟨⟨pc',ev'⟩,ok⟩,R',T'⟩:=y;obtain⟨k1,k2,F,D⟩:=hy;dsimp only at k1 k2 F D;refine cR (lI F.symm (cR (lI k2.symm (Aa ?_))));refine cV (λ_=>ai (TH.zero E)) λ_=>ai ?_
 dsimp only;rw[gI (by omega) (by omega)];exact⟨⟨by omega,by omega,rfl,k1,by omega,by omega,D⟩,by omega⟩
abbrev ST:Type:=SY×η×η×Y TT
structure TF (c:Int×List IT) (t:TT):Prop where
 p0:0<=t.1
 p1:t.1<(c.2.length:Int)
 r:(t.2.1.length:Int)=c.1
 t:(t.2.2.1.length:Int)=c.1
structure FSx (c:CT) (s:ST):Prop where
 vc:VC c
 cd:∀d∈c.1.2.2.1,0<=d.2/\d.2<(c.1.2.1.length:Int)
 e3:s.1.2.2.2.length=c.1.2.2.2.2.1.length
 ce:s.2.1.length=c.1.1.length
 fu:s.2.2.1.length=c.1.2.2.2.1.length
 th:s.2.2.2.length=c.2.length
 t:∀k:Nat,k<c.2.length->TF (aH (T:=G2) c.2 (k:Int)) (aH (T:=EH) s.2.2.2 (k:Int))
structure SV (n:Nat) (s:ST):Prop where
 sb:SB n s.1
 t:∀t∈s.2.2.2,TH n t
theorem aca (c:CT) (s:ST) (hc:CB c):Ok (vu (c,s)) λb=>b=M->FSx c s:=by
 unfold vu aX bh cI cD bA ji iT bJ aY cM aB cw;refine aU (λx=>x.2=(c,s)/\(x.1=aa->VC c/\(∀d∈c.1.2.2.1,0<=d.2/\d.2<(c.1.2.1.length:Int))/\s.1.2.2.2.length=c.1.2.2.2.2.1.length/\s.2.1.length=c.1.1.length/\s.2.2.1.length=c.1.2.2.2.1.length/\s.2.2.2.length=c.2.length)) ?_ ?_
 .refine ar (J1 c hc) λb hb=>?_
  refine cV (λ_=>ai ⟨rfl,λh=>(by cases h)⟩) λh=>?_
  have hv:=hb h;refine ar (OA c.1 s.1 (by have:=hv.vl.d;omega)) λb2 q=>?_
  refine cV (λ_=>ai ⟨rfl,λh=>(by cases h)⟩) λh2=>?_
  obtain⟨z,_,_,I⟩:=q h2;refine bY (λ_=>ai ⟨rfl,λh=>(by cases h)⟩) λk1=>?_
  refine bY (λ_=>ai ⟨rfl,λh=>(by cases h)⟩) λk2=>ai ⟨rfl,λD=>⟨hv,z,I,?_,?_,?_⟩⟩
  .dsimp only[aj]at k1;omega
  .dsimp only[aj]at k2;omega
  .simp at D;omega
 rintro⟨b,x⟩ ⟨e,hb⟩;dsimp only at e hb;subst e;refine aJ (λ_=>ai λh=>(by cases h)) λh=>?_
 obtain⟨hv,hcd,F,hce,hfu,hth⟩:=hb h;have hcl:=hc.th;refine b9 c.2.length (λi x=>x.1=(i:Int)/\x.2=(c,s)/\∀k:Nat,k<i->TF (aH (T:=G2) c.2 (k:Int)) (aH (T:=EH) s.2.2.2 (k:Int))) ?_ ?_ ⟨rfl,rfl,λk hk=>by omega⟩
 .rintro i ⟨a,x⟩ hi ⟨e1,e2,e3⟩;dsimp only at e1 e2 e3;subst e1;subst e2;refine aQ (λ_=>?_) λg=>(by dsimp only[aj]at g;omega)
  have hin:((i:Nat):Int)<(c.2.length:Int):=by omega
  refine aK (by dsimp only;omega) (by dsimp only;omega) (aV ?_);refine aU (λx=>x.2=(c,s)/\(x.1=aa->TF (aH (T:=G2) c.2 (i:Int)) (aH (T:=EH) s.2.2.2 (i:Int)))) ?_ ?_
  .refine aQ (λ_=>ai ⟨rfl,λh=>(by cases h)⟩) λg0=>?_
   refine aK (by dsimp only;omega) hin (aV ?_);refine dV (λ_=>ai ⟨rfl,λh=>(by cases h)⟩) λz=>?_
   refine aK (by dsimp only;omega) hin (aV ?_);refine bY (λ_=>ai ⟨rfl,λh=>(by cases h)⟩) λL=>?_
   refine aK (by dsimp only;omega) hin (aV (ai ⟨rfl,λA=>⟨g0,z,L,?_⟩⟩));simp at A;exact A
  rintro⟨b,x⟩ ⟨e,hb⟩;dsimp only at e hb;subst e;refine aJ (λ_=>ai λh=>(by cases h)) λh=>ai ?_
  dsimp only;refine ⟨fo (by omega),rfl,λk hk=>?_⟩;rcases bN k i with h1|h1
  .exact e3 k h1
  .rw[show k=i by omega];exact hb h
 .rintro⟨a,x⟩ ⟨e1,e2,e3⟩;dsimp only at e1 e2 e3;subst e1;subst e2;refine aQ (λg=>(by dsimp only[aj]at g;omega)) λ_=>ai λ_=>⟨hv,hcd,F,hce,hfu,hth,e3⟩
theorem ae7 {i:IT} (h:i.1=6\/i.1=7\/i.1=27\/i.1=10):i.2.1∈sL i:=by
 unfold sL;(repeat' split)<;>simp<;>omega
theorem ae6 {i:IT} (h:i.1=8\/i.1=9\/i.1=26):i.2.2.1∈sL i:=by
 unfold sL;(repeat' split)<;>simp<;>omega
theorem ai4 {i:IT} (h:i.1=7\/i.1=9):i.2.2.2.1∈sL i:=by
 unfold sL;(repeat' split)<;>simp<;>omega
structure KD (op k:Int):Prop where
 ld:k=3->op=6\/op=7
 st:k=4->op=8\/op=9
 br:k=5->op=10
 se:k=22->op=26
 ge:k=23->op=27
theorem abs (op:Int):Ok (vq op) λk=>KD op k:=by
 unfold vq bA kM aB;refine aU (λx=>x.2=[3,3,4,4,5,6,7,8,9,10,11,12,13,14,15,16,18,19,20,21,22,23,2]/\(x.1=aa->6<=op/\op<=28)) ?_ ?_
 .refine aQ (λ_=>ai ⟨rfl,λh=>(by cases h)⟩) λg=>ai ⟨rfl,λh=>?_⟩
  dsimp only at h;rw[fD]at h;exact⟨g,h⟩
 rintro⟨b,x⟩ ⟨e,hb⟩;dsimp only at e hb;subst e;refine aJ (λ_=>ai ⟨λh=>(by cases h),λh=>(by cases h),λh=>(by cases h),λh=>(by cases h),λh=>(by cases h)⟩) λh=>?_
 obtain⟨h1,h2⟩:=hb h;dsimp only;rw[gI (n:=op-6) (by omega) (by omega)];refine aK (by omega) (by simp;omega) (aK (by omega) (by simp;omega) (aV (ai ?_)));have:op=6\/op=7\/op=8\/op=9\/op=10\/op=11\/op=12\/op=13\/op=14\/op=15\/op=16\/op=17\/op=18\/op=19\/op=20\/op=21\/op=22\/op=23\/op=24\/op=25\/op=26\/op=27\/op=28:=by omega
 rcases this with rfl|rfl|rfl|rfl|rfl|rfl|rfl|rfl|rfl|rfl|rfl|rfl|rfl|rfl|rfl|rfl|rfl|rfl|rfl|rfl|rfl|rfl|rfl;all_goals exact⟨by decide,by decide,by decide,by decide,by decide⟩
theorem RK (a n:Int):Ok (qS (a,n)) λ_=>True:=by
 unfold qS bA bt aB;refine aQ (λ_=>ai trivial) λh=>?_
 dsimp only at h;refine vo (by dsimp only;omega) ?_;refine aU (λ_=>True) (aQ (λ_=>ai trivial) λ_=>ai trivial) λ_ _=>ai trivial
theorem Pe (i:IT) (t:TT) (hr:∀j∈sL i,0<=j/\j<(t.2.1.length:Int)):Ok (rR (i,t)) λ_=>True:=by
 unfold rR aX bh bm bg bJ aB;have d:i.1=7\/i.1=9->0<=i.2.2.2.1/\i.2.2.2.1<(t.2.1.length:Int):=λh=>hr _ (by
  unfold sL;(repeat' split)<;>simp<;>omega)
 refine aU (λx=>x.2=(i,t)) (aE (λ_=>ai rfl) λ_=>ai rfl) ?_;rintro⟨b,x⟩ e;dsimp only at e;subst e;refine aJ (λ_=>ai trivial) λ_=>?_
 refine aE (λh=>?_) λ_=>?_
 .exact aK (d (.inl h)).1 (d (.inl h)).2 (aV (ar (RK _ _) λ_ _=>ai trivial))
 refine aE (λh=>?_) λ_=>?_
 .exact aK (d (.inr h)).1 (d (.inr h)).2 (aV (ar (RK _ _) λ_ _=>ai trivial))
 refine aU (λ_=>True) ?_ λx _=>aJ (λ_=>ai trivial) λ_=>ai trivial
 with_reducible repeat' first|(refine OS.ok ?_;constructor)|refine IM.mk λ_=>?_
 all_goals trivial
structure PE (n:Nat) (c:CT) (s:ST) (t:Int) (e:ET):Prop where
 fs:FSx c s
 t0:0<=t
 t1:t<(c.2.length:Int)
 et:e.1=t
 d:e.2.2.2.2.2.1.length<=n
 f:e.2.2.2.2.2.2.length<=n
 a:e.2.1=3\/e.2.1=23\/e.2.1=5->0<=(aH (T:=UN) (aH (T:=G2) c.2 t).2 (aH (T:=EH) s.2.2.2 t).1).2.1/\(aH (T:=UN) (aH (T:=G2) c.2 t).2 (aH (T:=EH) s.2.2.2 t).1).2.1<((aH (T:=EH) s.2.2.2 t).2.1.length:Int)
 b:e.2.1=4\/e.2.1=22->0<=(aH (T:=UN) (aH (T:=G2) c.2 t).2 (aH (T:=EH) s.2.2.2 t).1).2.2.1/\(aH (T:=UN) (aH (T:=G2) c.2 t).2 (aH (T:=EH) s.2.2.2 t).1).2.2.1<((aH (T:=EH) s.2.2.2 t).2.1.length:Int)
theorem UB (n:Nat) (hn:n<=100000) (c:CT) (s:ST) (hc:CB c) (hs:SV n s) (t:Int):Ok (nE (c,s,t)) λy=>y.2=M->PE n c s t y.1:=by
 unfold nE aX bh bm bp cI cD bg bA bt bJ aY aB;refine aU (λx=>x.2.1=c/\x.2.2.1=s/\(x.1=aa->FSx c s/\0<=t/\t<(c.2.length:Int))) ?_ ?_
 .refine ar (aca c s hc) λb hb=>?_
  refine cV (λ_=>ai ⟨rfl,rfl,λh=>(by cases h)⟩) λh=>?_
  refine aQ (λ_=>ai ⟨rfl,rfl,λh=>(by cases h)⟩) λg0=>ai ⟨rfl,rfl,λg1=>?_⟩
  dsimp only at g0 g1;rw[ko]at g1;exact⟨hb h,g0,g1⟩
 rintro⟨b,c',s',z⟩ ⟨e1,e2,hb⟩;dsimp only at e1 e2 hb;subst e1;subst e2;refine aJ (λ_=>ai λh=>(by cases h)) λh=>?_
 obtain⟨hf,t0,t1⟩:=hb h;have hk:((t.toNat:Nat):Int)=t:=by omega
 have htf:=hf.t t.toNat (by omega);rw[hk]at htf;have hvt:=hf.vc.t _ (bG (T:=G2) (xs:=c'.2) (j:=t) t0 t1);have hth:=hs.t _ (bG (T:=EH) (xs:=s'.2.2.2) (j:=t) t0 (by rw[hf.th];exact t1));have key:∀e:ET,e.1=t->e.2.2.2.2.2.1.length<=n->e.2.2.2.2.2.2.length<=n->(e.2.1=1\/e.2.1=17\/KD (aH (T:=UN) (aH (T:=G2) c'.2 t).2 (aH (T:=EH) s'.2.2.2 t).1).1 e.2.1)->PE n c' s' t e:=by
  intro e h1 h2 h3 d;have hi:=hvt.i _ (bG (T:=UN) (xs:=(aH (T:=G2) c'.2 t).2) (j:=(aH (T:=EH) s'.2.2.2 t).1) htf.p0 htf.p1);refine ⟨hf,t0,t1,h1,h2,h3,λI=>?_,λI=>?_⟩
  .rw[htf.r];rcases d with d|d|d
   .omega
   .omega
   .refine hi.r _ ?_;have a1:=d.ld;have a2:=d.ge;have a3:=d.br;revert a1 a2 a3 I;generalize (aH (T:=UN) (aH (T:=G2) c'.2 t).2 (aH (T:=EH) s'.2.2.2 t).1)=i;intro I a1 a2 a3;exact ae7 (by omega)
  .rw[htf.r];rcases d with d|d|d
   .omega
   .omega
   .refine hi.r _ ?_;have a1:=d.st;have a2:=d.se;revert a1 a2 I;generalize (aH (T:=UN) (aH (T:=G2) c'.2 t).2 (aH (T:=EH) s'.2.2.2 t).1)=i;intro I a1 a2;exact ae6 (by omega)
 have hir:=(hvt.i _ (bG (T:=UN) (xs:=(aH (T:=G2) c'.2 t).2) (j:=(aH (T:=EH) s'.2.2.2 t).1) htf.p0 htf.p1)).r;rw[<- htf.r]at hir;refine aK t0 (by dsimp only;rw[hf.th];exact t1) (aV ?_);refine aK t0 t1 (aV ?_);refine aK htf.p0 htf.p1 (aV ?_);have t4:t<(s'.1.2.2.2.length:Int):=by rw[hf.e3,<-hf.vc.tl];exact t1
 have D:(aH (T:=EH) s'.2.2.2 t).2.2.1.length=(aH (T:=EH) s'.2.2.2 t).2.1.length:=by have:=htf.r;have:=htf.t;omega
 refine aK t0 t4 (aV ?_);refine aE (λ_=>ai λ_=>key _ rfl (mM _) (mM _) (.inl rfl)) λ_=>?_
 refine aE (λ_=>aK t0 t4 (aV (ai λ_=>key _ rfl (mM _) (mM _) (.inr (.inl rfl))))) λ_=>?_
 refine aE (λ_=>?_) λ_=>ai λh=>(by cases h)
 refine ar (abs _) λk A=>?_
 refine ar (Pe _ _ hir) λo _=>?_
 refine aE (λ_=>ai λh=>(by cases h)) λ_=>?_
 revert key htf hvt hth hir D A;dsimp only;generalize (aH (T:=EH) s'.2.2.2 t)=th;generalize (aH (T:=UN) _ th.1)=i;intro htf hvt hth key hir D A;have hlen:∀{j:Int},0<=j->j<(th.2.2.1.length:Int)->(aH (T:=.sl (.int .i64)) th.2.2.1 j).length<=n:=λh0 h1=>(hth.l _ (bG (T:=.sl (.int .i64)) (xs:=th.2.2.1) h0 h1)).len
 have hA:i.1=10->0<=i.2.1/\i.2.1<(th.2.2.1.length:Int):=λh=>by
  rw[D];exact hir _ (ae7 (.inr (.inr (.inr h))))
 have hB:i.1=8\/i.1=9\/i.1=26->0<=i.2.2.1/\i.2.2.1<(th.2.2.1.length:Int):=λh=>by
  rw[D];exact hir _ (ae6 (h))
 have hC:i.1=7\/i.1=9->0<=i.2.2.2.1/\i.2.2.2.1<(th.2.2.1.length:Int):=λh=>by
  rw[D];exact hir _ (ai4 (h))
 refine aU (λx=>x.2.1=th/\x.2.2.1=i/\x.2.2.2.1.1=t/\x.2.2.2.1.2.1=k/\x.2.2.2.2.length<=n) ?_ ?_
 .refine aE (λh=>?_) λ_=>?_
  .obtain⟨a0,a1⟩:=hA h;refine aK a0 a1 (aV ?_);have:=hlen a0 a1;exact aZ (cY this (by omega)) (by omega) (ai ⟨rfl,rfl,rfl,rfl,this⟩)
  refine aU (λx=>x.2.2.1=th/\x.2.2.2.1=i/\x.2.2.2.2.1=t/\x.2.2.2.2.2.1=k/\(x.1=M->i.1=7\/i.1=9)) ?_ ?_
  .refine aE (λh=>ai ⟨rfl,rfl,rfl,rfl,λ_=>.inl h⟩) λ_=>ai ⟨rfl,rfl,rfl,rfl,λh=>.inr (bf h)⟩
  rintro⟨b,z0,th',F,t',k',z1⟩ ⟨e1,e2,e3,L,q⟩;dsimp only at e1 e2 e3 L q;subst e1;subst e2;subst e3;subst L;refine aJ (λh=>?_) λ_=>ai ⟨rfl,rfl,rfl,rfl,mM _⟩
  obtain⟨a0,a1⟩:=hC (q h);refine aK a0 a1 (aV ?_);have:=hlen a0 a1;exact aZ (cY this (by omega)) (by omega) (ai ⟨rfl,rfl,rfl,rfl,this⟩)
 rintro⟨z0,th',F,⟨t',k',z1⟩,ds⟩ ⟨e1,e2,e3,L,hd⟩;dsimp only at e1 e2 e3 L hd;subst e1;subst e2;subst e3;subst L;refine aU (λx=>x.2.1.1=t'/\x.2.1.2.1=k'/\x.2.2.1.length<=n/\x.2.2.2.length<=n) ?_ ?_
 .refine aU (λx=>x.2=(z0,th',F,(t',k',z1),ds)/\(x.1=M->F.1=8\/F.1=9\/F.1=26)) ?_ ?_
  .exact aE (λh=>ai ⟨rfl,λ_=>.inl h⟩) λ_=>aE (λh=>ai ⟨rfl,λ_=>.inr (.inl h)⟩) λ_=>ai ⟨rfl,λh=>.inr (.inr (bf h))⟩
  rintro⟨b,x⟩ ⟨e,q⟩;dsimp only at e q;subst e;refine aJ (λh=>?_) λ_=>ai ⟨rfl,rfl,hd,mM _⟩
  obtain⟨a0,a1⟩:=hB (q h);refine aK a0 a1 (aV ?_);have:=hlen a0 a1;exact aZ (cY this (by omega)) (by omega) (ai ⟨rfl,rfl,hd,this⟩)
 rintro⟨z2,⟨t2,k2,z3⟩,d2,f2⟩ ⟨e1,e2,h1,h2⟩;dsimp only at e1 e2 h1 h2;subst e1;subst e2;exact ai λ_=>key _ rfl h1 h2 (.inr (.inr A))
theorem SV.zero (n:Nat) (hn:n<=100000):SV n (([],0,[],[]),[],[],[]):=⟨⟨hn,by simp,λl hl=>(by cases hl),by simp,by simp⟩,λt ht=>(by cases ht)⟩
theorem Uz (c:CT) (hc:CB c):Ok (tu c) λs=>SV 0 s:=by
 unfold tu aX bh bm bT bp cI cD dC bA mq bt bJ aY cM aB cw;refine ar (J1 c hc) λb hb=>?_
 refine cV (λ_=>ai (SV.zero 0 (by omega))) λh=>?_
 have hv:=hb h;obtain⟨vc,vl,L,I,_,F,_⟩:=id hv.vl;have htl:=hv.tl;refine ar (UA c.1 hv.vl) λy D=>?_
 refine b9 c.1.1.length (λi x=>x.1=(i:Int)/\x.2.1=c/\x.2.2.2.1=y/\x.2.2.2.2.length=i) ?_ ?_ ⟨rfl,rfl,rfl,rfl⟩
 .rintro i ⟨a,c',z,A,l⟩ hi ⟨e1,e2,e3,d⟩;dsimp only at e1 e2 e3 d;subst e1;subst e2;subst e3;refine aQ (λ_=>?_) λg=>(by dsimp only[aj]at g;omega)
  refine aK (by dsimp only;omega) (by dsimp only;omega) (aV (aZ (by simp;omega) (by omega) (ai ?_)));dsimp only;exact⟨fo (by omega),rfl,rfl,by simp;omega⟩
 rintro⟨a,c',z,A,l⟩ ⟨e1,e2,e3,d⟩;dsimp only at e1 e2 e3 d;subst e1;subst e2;subst e3;refine aQ (λg=>(by dsimp only[aj]at g;omega)) λ_=>?_
 refine ar (P:=SV 0) ?_ λr hr=>ai hr
 refine b9 c'.1.2.2.2.1.length (λi x=>x.1=(i:Int)/\x.2.1=c'/\x.2.2.2.1=A/\x.2.2.2.2.2.length=i) ?_ ?_ ⟨rfl,rfl,rfl,rfl⟩
 .rintro i ⟨a,c,z,y,l,f⟩ hi ⟨e1,e2,e3,d⟩;dsimp only at e1 e2 e3 d;subst e1;subst e2;subst e3;refine aQ (λ_=>?_) λg=>(by dsimp only[aj]at g;omega)
  refine aZ (by simp;omega) (by omega) (ai ?_);dsimp only;exact⟨fo (by omega),rfl,rfl,by simp;omega⟩
 rintro⟨a,c,z,y,l,f⟩ ⟨e1,e2,e3,d⟩;dsimp only at e1 e2 e3 d;subst e1;subst e2;subst e3;refine aQ (λg=>(by dsimp only[aj]at g;omega)) λ_=>?_
 refine ar (P:=SV 0) ?_ λr hr=>ai hr
 refine b9 c.2.length (λi x=>x.1=(i:Int)/\x.2.1=c/\x.2.2.2.1=y/\x.2.2.2.2.2.2.length=i/\∀t∈x.2.2.2.2.2.2,TH 0 t) ?_ ?_ ⟨rfl,rfl,rfl,rfl,λt ht=>(by cases ht)⟩
 .rintro i ⟨a,c,z,y,l,f,th⟩ hi ⟨e1,e2,e3,d,q⟩;dsimp only at e1 e2 e3 d q;subst e1;subst e2;subst e3;refine aQ (λ_=>?_) λg=>(by dsimp only[aj]at g;omega)
  have hin:((i:Nat):Int)<(c.2.length:Int):=by omega
  have hvt:=hv.t _ (bG (T:=G2) (xs:=c.2) (j:=(i:Int)) (by omega) hin);have q0:=hvt.r0;have q1:=hvt.r1;refine aK (by dsimp only;omega) hin (aV ?_);refine cR (cR (dv q0 (dv (fb _) (aZ (by dsimp only;omega) (by omega) ?_))));refine aK (by dsimp only;omega) hin (aV ?_);refine cR (cR (dv q0 (dv (fb _) (aZ (by dsimp only;omega) (by omega) ?_))));refine aZ (by simp;omega) (by omega) (ai ?_);dsimp only;refine ⟨fo (by omega),rfl,rfl,by simp;omega,λt ht=>?_⟩;rcases bP.1 ht with h|h
  .exact q t h
  .rw[aI]at h;subst h;refine ⟨?_,?_,λl hl=>?_,fb _,fb _⟩
   .dsimp only;rw[cB];omega
   .dsimp only;rw[cB];omega
   .rw[wh hl];exact TL.nil 0
 .rintro⟨a,c,z,y,l,f,th⟩ ⟨e1,e2,e3,d,q⟩;dsimp only at e1 e2 e3 d q;subst e1;subst e2;subst e3;refine aQ (λg=>(by dsimp only[aj]at g;omega)) λ_=>ai ?_
  exact⟨D,q⟩
theorem kz {α R:Type} (o:J α):av o (λ_=>(U:J R))=U:=by cases o<;>rfl
theorem oD {R:Type} (b:Bool):chk b (λ_=>(U:J R))=U:=by cases b<;>rfl
theorem rD {α R:Type} (x:α):lt x (λ_=>(U:J R))=U:=rfl
def OG {R:Type} (o:J R) (Q:R->Prop):Prop:=o=U\/Ok o Q
theorem OG.or {R:Type} {a b:J R} {Q:R->Prop} (d:OG a Q) (hb:OG b Q):OG (orE a b) Q:=by
 rcases d with rfl|⟨y,rfl,h⟩
 .exact hb
 .exact .inr ⟨y,rfl,h⟩
theorem Ok.orL {R:Type} {a b:J R} {Q:R->Prop} (d:Ok a Q):Ok (orE a b) Q:=by
 obtain⟨y,rfl,h⟩:=d;exact⟨y,rfl,h⟩
theorem OG.orR {R:Type} {a b:J R} {Q:R->Prop} (d:OG a Q) (hb:Ok b Q):Ok (orE a b) Q:=by
 rcases d with rfl|⟨y,rfl,h⟩
 .exact hb
 .exact⟨y,rfl,h⟩
def SQ (n:Nat) (c:CT) (y:ST×ET×Bool):Prop:=y.2.2=M->SV (n+1) y.1/\X9 c.1 y.2.1/\UI y.2.1
theorem Hu {n:Nat} (hn:n+1<=100000) {c:CT} {s:ST} {t u:Int} (hc:CB c) (hs:SV n s) (G:J (ST×ET×Bool)->Prop) (F:∀y,SQ n c y->G (Z y)) (k:ET×Bool->SY×Int×Bool->J (ST×ET×Bool))
 (hk:∀e v sy,PE n c s t e->EN c.1 s.1 t e.2.1 e.2.2.1->AP n s.1 sy->G (k (e,M) (sy,v,M))):
 G (av (nE (c,s,t)) λq=>aF (!q.2) (Z ((([],0,[],[]),[],[],[]),(0,0,0,0,0,[],[]),aa)) (av (pi (c.1,s.1,t,q.1.2.1,q.1.2.2.1,u)) λz=>aF (!z.2.2) (Z ((([],0,[],[]),[],[],[]),(0,0,0,0,0,[],[]),aa)) (k q z))):=by
 have A:=F ((([],0,[],[]),[],[],[]),(0,0,0,0,0,[],[]),aa) λh=>(by cases h)
 obtain⟨⟨e,b⟩,h1,h2⟩:=UB n (by omega) c s hc hs t;rw[h1,R6];cases b with
 |false=>exact A
 |true=>
  have hp:=h2 rfl;have hcd:c.1.2.2.1.length<=1000:=by have:=hp.fs.vc.vl.d;omega
  obtain⟨⟨sy,v,b⟩,I,D,_,_⟩:=Kh c.1 s.1 hs.sb hcd t e.2.1 e.2.2.1 u;have e0:∀{R:Type} (a b:J R),aF (!M) a b=b:=λ_ _=>rfl
  rw[e0,I,R6];cases b with
  |false=>exact A
  |true=>exact hk e v sy hp (D rfl).1 (D rfl).2.2.1
theorem XT {E:Nat} (sy:SY) (ce fu:η) (a:TT) (h:SV E (sy,ce,fu,[a])) (hce:ce.length<=1000) (hfu:fu.length<=1000):nj (sy,ce,fu,[a])=Z ((sy.2.1,sy.1,sy.2.2.1,sy.2.2.2).1,(sy.2.1,sy.1,sy.2.2.1,sy.2.2.2).2.1,(sy.2.1,sy.1,sy.2.2.1,sy.2.2.2).2.2.1,(sy.2.1,sy.1,sy.2.2.1,sy.2.2.2).2.2.2,(([]:η)++ce),(([]:η)++fu),((a.1,a.2.2.2),a.2.1,a.2.2.1)):=by
 have q:=h.sb.n1;have d:=h.t a (by simp);refine b6 ?_;unfold nj aX bp bA bt bJ aY;refine aS (qx sy h.sb) ?_;refine aZ (by simp;omega) (by omega) (aZ (by simp;omega) (by omega) ?_);refine eW rfl (a_ rfl (aV (aS (c7 a E q d) ?_)));exact jG rfl (ai rfl)
theorem R3 (sy:SY) (ce fu:η) (l:Y TT) (h0:l.length<=4) (h:l.length≠1):nj (sy,ce,fu,l)=U:=by
 unfold nj aX bp bA bt bJ aY;rcases l with _|⟨a,_|⟨b,_|⟨c,_|⟨d,_|⟨e,l⟩⟩⟩⟩⟩;all_goals first|(simp at h;done)|(exfalso;simp only[ch]at h0;omega)|simp[fE,kz,oD,rD,bcT,ZO]
theorem XS {E:Nat} (sy:SY) (ce fu:η) (a b:TT) (h:SV E (sy,ce,fu,[a,b])) (hce:ce.length<=1000) (hfu:fu.length<=1000):nh (sy,ce,fu,[a,b])=Z ((sy.2.1,sy.1,sy.2.2.1,sy.2.2.2).1,(sy.2.1,sy.1,sy.2.2.1,sy.2.2.2).2.1,(sy.2.1,sy.1,sy.2.2.1,sy.2.2.2).2.2.1,(sy.2.1,sy.1,sy.2.2.1,sy.2.2.2).2.2.2,(([]:η)++ce),(([]:η)++fu),(((a.1,a.2.2.2),a.2.1,a.2.2.1).1.1,((a.1,a.2.2.2),a.2.1,a.2.2.1).1.2,((b.1,b.2.2.2),b.2.1,b.2.2.1).1.1,((b.1,b.2.2.2),b.2.1,b.2.2.1).2.1,((b.1,b.2.2.2),b.2.1,b.2.2.1).2.2,((b.1,b.2.2.2),b.2.1,b.2.2.1).1.2),((a.1,a.2.2.2),a.2.1,a.2.2.1).2):=by
 have d:=h.sb.n1;have q:=h.t a (by simp);have hb:=h.t b (by simp);refine b6 ?_;unfold nh aX bp bA bt bJ aY;refine aS (qx sy h.sb) ?_;refine aZ (by simp;omega) (by omega) (aZ (by simp;omega) (by omega) ?_);refine eW rfl (a_ rfl (aV (aS (c7 a E d q) ?_)));refine eW rfl (a_ rfl (aV (aS (c7 b E d hb) ?_)));exact jG rfl (ai rfl)
theorem R2 (sy:SY) (ce fu:η) (l:Y TT) (h0:l.length<=4) (h:l.length≠2):nh (sy,ce,fu,l)=U:=by
 unfold nh aX bp bA bt bJ aY;rcases l with _|⟨a,_|⟨b,_|⟨c,_|⟨d,_|⟨e,l⟩⟩⟩⟩⟩;all_goals first|(simp at h;done)|(exfalso;simp only[ch]at h0;omega)|simp[fE,kz,oD,rD,bcT,ZO]
theorem XR {E:Nat} (sy:SY) (ce fu:η) (a b:TT) (h:SV E (sy,ce,fu,[a,b])) (hce:ce.length<=1000) (hfu:fu.length<=1000):ng (sy,ce,fu,[a,b])=Z ((sy.2.1,sy.1,sy.2.2.1,sy.2.2.2).1,(sy.2.1,sy.1,sy.2.2.1,sy.2.2.2).2.1,(sy.2.1,sy.1,sy.2.2.1,sy.2.2.2).2.2.1,(sy.2.1,sy.1,sy.2.2.1,sy.2.2.2).2.2.2,(([]:η)++ce),(([]:η)++fu),((((a.1,a.2.2.2),a.2.1,a.2.2.1).1.1,((a.1,a.2.2.2),a.2.1,a.2.2.1).2.1,((a.1,a.2.2.2),a.2.1,a.2.2.1).2.2,((a.1,a.2.2.2),a.2.1,a.2.2.1).1.2),((b.1,b.2.2.2),b.2.1,b.2.2.1).1),((b.1,b.2.2.2),b.2.1,b.2.2.1).2):=by
 have d:=h.sb.n1;have q:=h.t a (by simp);have hb:=h.t b (by simp);refine b6 ?_;unfold ng aX bp bA bt bJ aY;refine aS (qx sy h.sb) ?_;refine aZ (by simp;omega) (by omega) (aZ (by simp;omega) (by omega) ?_);refine eW rfl (a_ rfl (aV (aS (c7 a E d q) ?_)));refine eW rfl (a_ rfl (aV (aS (c7 b E d hb) ?_)));exact jG rfl (ai rfl)
theorem R1 (sy:SY) (ce fu:η) (l:Y TT) (h0:l.length<=4) (h:l.length≠2):ng (sy,ce,fu,l)=U:=by
 unfold ng aX bp bA bt bJ aY;rcases l with _|⟨a,_|⟨b,_|⟨c,_|⟨d,_|⟨e,l⟩⟩⟩⟩⟩;all_goals first|(simp at h;done)|(exfalso;simp only[ch]at h0;omega)|simp[fE,kz,oD,rD,bcT,ZO]
theorem XQ {E:Nat} (sy:SY) (ce fu:η) (a b c:TT) (h:SV E (sy,ce,fu,[a,b,c])) (hce:ce.length<=1000) (hfu:fu.length<=1000):ne (sy,ce,fu,[a,b,c])=Z ((sy.2.1,sy.1,sy.2.2.1,sy.2.2.2).1,(sy.2.1,sy.1,sy.2.2.1,sy.2.2.2).2.1,(sy.2.1,sy.1,sy.2.2.1,sy.2.2.2).2.2.1,(sy.2.1,sy.1,sy.2.2.1,sy.2.2.2).2.2.2,(([]:η)++ce),(([]:η)++fu),(((a.1,a.2.2.2),a.2.1,a.2.2.1).1.1,((a.1,a.2.2.2),a.2.1,a.2.2.1).1.2,(((b.1,b.2.2.2),b.2.1,b.2.2.1).1.1,((b.1,b.2.2.2),b.2.1,b.2.2.1).2.1,((b.1,b.2.2.2),b.2.1,b.2.2.1).2.2,((b.1,b.2.2.2),b.2.1,b.2.2.1).1.2),((c.1,c.2.2.2),c.2.1,c.2.2.1).1.1,((c.1,c.2.2.2),c.2.1,c.2.2.1).2.1,((c.1,c.2.2.2),c.2.1,c.2.2.1).2.2,((c.1,c.2.2.2),c.2.1,c.2.2.1).1.2),((a.1,a.2.2.2),a.2.1,a.2.2.1).2):=by
 have d:=h.sb.n1;have q:=h.t a (by simp);have hb:=h.t b (by simp);have hc:=h.t c (by simp);refine b6 ?_;unfold ne aX bp bA bt bJ aY;refine aS (qx sy h.sb) ?_;refine aZ (by simp;omega) (by omega) (aZ (by simp;omega) (by omega) ?_);refine eW rfl (a_ rfl (aV (aS (c7 a E d q) ?_)));refine eW rfl (a_ rfl (aV (aS (c7 b E d hb) ?_)));refine eW rfl (a_ rfl (aV (aS (c7 c E d hc) ?_)));exact jG rfl (ai rfl)
theorem RZ (sy:SY) (ce fu:η) (l:Y TT) (h0:l.length<=4) (h:l.length≠3):ne (sy,ce,fu,l)=U:=by
 unfold ne aX bp bA bt bJ aY;rcases l with _|⟨a,_|⟨b,_|⟨c,_|⟨d,_|⟨e,l⟩⟩⟩⟩⟩;all_goals first|(simp at h;done)|(exfalso;simp only[ch]at h0;omega)|simp[fE,kz,oD,rD,bcT,ZO]
theorem XP {E:Nat} (sy:SY) (ce fu:η) (a b c:TT) (h:SV E (sy,ce,fu,[a,b,c])) (hce:ce.length<=1000) (hfu:fu.length<=1000):m_ (sy,ce,fu,[a,b,c])=Z ((sy.2.1,sy.1,sy.2.2.1,sy.2.2.2).1,(sy.2.1,sy.1,sy.2.2.1,sy.2.2.2).2.1,(sy.2.1,sy.1,sy.2.2.1,sy.2.2.2).2.2.1,(sy.2.1,sy.1,sy.2.2.1,sy.2.2.2).2.2.2,(([]:η)++ce),(([]:η)++fu),((((a.1,a.2.2.2),a.2.1,a.2.2.1).1.1,((a.1,a.2.2.2),a.2.1,a.2.2.1).2.1,((a.1,a.2.2.2),a.2.1,a.2.2.1).2.2,((a.1,a.2.2.2),a.2.1,a.2.2.1).1.2),((b.1,b.2.2.2),b.2.1,b.2.2.1).1.1,((b.1,b.2.2.2),b.2.1,b.2.2.1).1.2,((c.1,c.2.2.2),c.2.1,c.2.2.1).1.1,((c.1,c.2.2.2),c.2.1,c.2.2.1).2.1,((c.1,c.2.2.2),c.2.1,c.2.2.1).2.2,((c.1,c.2.2.2),c.2.1,c.2.2.1).1.2),((b.1,b.2.2.2),b.2.1,b.2.2.1).2):=by
 have d:=h.sb.n1;have q:=h.t a (by simp);have hb:=h.t b (by simp);have hc:=h.t c (by simp);refine b6 ?_;unfold m_ aX bp bA bt bJ aY;refine aS (qx sy h.sb) ?_;refine aZ (by simp;omega) (by omega) (aZ (by simp;omega) (by omega) ?_);refine eW rfl (a_ rfl (aV (aS (c7 a E d q) ?_)));refine eW rfl (a_ rfl (aV (aS (c7 b E d hb) ?_)));refine eW rfl (a_ rfl (aV (aS (c7 c E d hc) ?_)));exact jG rfl (ai rfl)
theorem RY (sy:SY) (ce fu:η) (l:Y TT) (h0:l.length<=4) (h:l.length≠3):m_ (sy,ce,fu,l)=U:=by
 unfold m_ aX bp bA bt bJ aY;rcases l with _|⟨a,_|⟨b,_|⟨c,_|⟨d,_|⟨e,l⟩⟩⟩⟩⟩;all_goals first|(simp at h;done)|(exfalso;simp only[ch]at h0;omega)|simp[fE,kz,oD,rD,bcT,ZO]
theorem XO {E:Nat} (sy:SY) (ce fu:η) (a b c:TT) (h:SV E (sy,ce,fu,[a,b,c])) (hce:ce.length<=1000) (hfu:fu.length<=1000):m8 (sy,ce,fu,[a,b,c])=Z ((sy.2.1,sy.1,sy.2.2.1,sy.2.2.2).1,(sy.2.1,sy.1,sy.2.2.1,sy.2.2.2).2.1,(sy.2.1,sy.1,sy.2.2.1,sy.2.2.2).2.2.1,(sy.2.1,sy.1,sy.2.2.1,sy.2.2.2).2.2.2,(([]:η)++ce),(([]:η)++fu),((((a.1,a.2.2.2),a.2.1,a.2.2.1).1.1,((a.1,a.2.2.2),a.2.1,a.2.2.1).2.1,((a.1,a.2.2.2),a.2.1,a.2.2.1).2.2,((a.1,a.2.2.2),a.2.1,a.2.2.1).1.2),(((b.1,b.2.2.2),b.2.1,b.2.2.1).1.1,((b.1,b.2.2.2),b.2.1,b.2.2.1).2.1,((b.1,b.2.2.2),b.2.1,b.2.2.1).2.2,((b.1,b.2.2.2),b.2.1,b.2.2.1).1.2),((c.1,c.2.2.2),c.2.1,c.2.2.1).1),((c.1,c.2.2.2),c.2.1,c.2.2.1).2):=by
 have d:=h.sb.n1;have q:=h.t a (by simp);have hb:=h.t b (by simp);have hc:=h.t c (by simp);refine b6 ?_;unfold m8 aX bp bA bt bJ aY;refine aS (qx sy h.sb) ?_;refine aZ (by simp;omega) (by omega) (aZ (by simp;omega) (by omega) ?_);refine eW rfl (a_ rfl (aV (aS (c7 a E d q) ?_)));refine eW rfl (a_ rfl (aV (aS (c7 b E d hb) ?_)));refine eW rfl (a_ rfl (aV (aS (c7 c E d hc) ?_)));exact jG rfl (ai rfl)
theorem RX (sy:SY) (ce fu:η) (l:Y TT) (h0:l.length<=4) (h:l.length≠3):m8 (sy,ce,fu,l)=U:=by
 unfold m8 aX bp bA bt bJ aY;rcases l with _|⟨a,_|⟨b,_|⟨c,_|⟨d,_|⟨e,l⟩⟩⟩⟩⟩;all_goals first|(simp at h;done)|(exfalso;simp only[ch]at h0;omega)|simp[fE,kz,oD,rD,bcT,ZO]
theorem XN {E:Nat} (sy:SY) (ce fu:η) (a b c d:TT) (h:SV E (sy,ce,fu,[a,b,c,d])) (hce:ce.length<=1000) (hfu:fu.length<=1000):m7 (sy,ce,fu,[a,b,c,d])=Z ((sy.2.1,sy.1,sy.2.2.1,sy.2.2.2).1,(sy.2.1,sy.1,sy.2.2.1,sy.2.2.2).2.1,(sy.2.1,sy.1,sy.2.2.1,sy.2.2.2).2.2.1,(sy.2.1,sy.1,sy.2.2.1,sy.2.2.2).2.2.2,(([]:η)++ce),(([]:η)++fu),(((a.1,a.2.2.2),a.2.1,a.2.2.1).1.1,((a.1,a.2.2.2),a.2.1,a.2.2.1).1.2,(((b.1,b.2.2.2),b.2.1,b.2.2.1).1.1,((b.1,b.2.2.2),b.2.1,b.2.2.1).2.1,((b.1,b.2.2.2),b.2.1,b.2.2.1).2.2,((b.1,b.2.2.2),b.2.1,b.2.2.1).1.2),(((c.1,c.2.2.2),c.2.1,c.2.2.1).1.1,((c.1,c.2.2.2),c.2.1,c.2.2.1).2.1,((c.1,c.2.2.2),c.2.1,c.2.2.1).2.2,((c.1,c.2.2.2),c.2.1,c.2.2.1).1.2),((d.1,d.2.2.2),d.2.1,d.2.2.1).1.1,((d.1,d.2.2.2),d.2.1,d.2.2.1).2.1,((d.1,d.2.2.2),d.2.1,d.2.2.1).2.2,((d.1,d.2.2.2),d.2.1,d.2.2.1).1.2),((a.1,a.2.2.2),a.2.1,a.2.2.1).2):=by
 have q:=h.sb.n1;have s:=h.t a (by simp);have hb:=h.t b (by simp);have hc:=h.t c (by simp);have hd:=h.t d (by simp);refine b6 ?_;unfold m7 aX bp bA bt bJ aY;refine aS (qx sy h.sb) ?_;refine aZ (by simp;omega) (by omega) (aZ (by simp;omega) (by omega) ?_);refine eW rfl (a_ rfl (aV (aS (c7 a E q s) ?_)));refine eW rfl (a_ rfl (aV (aS (c7 b E q hb) ?_)));refine eW rfl (a_ rfl (aV (aS (c7 c E q hc) ?_)));refine eW rfl (a_ rfl (aV (aS (c7 d E q hd) ?_)));exact jG rfl (ai rfl)
theorem RW (sy:SY) (ce fu:η) (l:Y TT) (h0:l.length<=4) (h:l.length≠4):m7 (sy,ce,fu,l)=U:=by
 unfold m7 aX bp bA bt bJ aY;rcases l with _|⟨a,_|⟨b,_|⟨c,_|⟨d,_|⟨e,l⟩⟩⟩⟩⟩;all_goals first|(simp at h;done)|(exfalso;simp only[ch]at h0;omega)|simp[fE,kz,oD,rD,bcT,ZO]
theorem XM {E:Nat} (sy:SY) (ce fu:η) (a b c d:TT) (h:SV E (sy,ce,fu,[a,b,c,d])) (hce:ce.length<=1000) (hfu:fu.length<=1000):m6 (sy,ce,fu,[a,b,c,d])=Z ((sy.2.1,sy.1,sy.2.2.1,sy.2.2.2).1,(sy.2.1,sy.1,sy.2.2.1,sy.2.2.2).2.1,(sy.2.1,sy.1,sy.2.2.1,sy.2.2.2).2.2.1,(sy.2.1,sy.1,sy.2.2.1,sy.2.2.2).2.2.2,(([]:η)++ce),(([]:η)++fu),((((a.1,a.2.2.2),a.2.1,a.2.2.1).1.1,((a.1,a.2.2.2),a.2.1,a.2.2.1).2.1,((a.1,a.2.2.2),a.2.1,a.2.2.1).2.2,((a.1,a.2.2.2),a.2.1,a.2.2.1).1.2),((b.1,b.2.2.2),b.2.1,b.2.2.1).1.1,((b.1,b.2.2.2),b.2.1,b.2.2.1).1.2,(((c.1,c.2.2.2),c.2.1,c.2.2.1).1.1,((c.1,c.2.2.2),c.2.1,c.2.2.1).2.1,((c.1,c.2.2.2),c.2.1,c.2.2.1).2.2,((c.1,c.2.2.2),c.2.1,c.2.2.1).1.2),((d.1,d.2.2.2),d.2.1,d.2.2.1).1.1,((d.1,d.2.2.2),d.2.1,d.2.2.1).2.1,((d.1,d.2.2.2),d.2.1,d.2.2.1).2.2,((d.1,d.2.2.2),d.2.1,d.2.2.1).1.2),((b.1,b.2.2.2),b.2.1,b.2.2.1).2):=by
 have q:=h.sb.n1;have s:=h.t a (by simp);have hb:=h.t b (by simp);have hc:=h.t c (by simp);have hd:=h.t d (by simp);refine b6 ?_;unfold m6 aX bp bA bt bJ aY;refine aS (qx sy h.sb) ?_;refine aZ (by simp;omega) (by omega) (aZ (by simp;omega) (by omega) ?_);refine eW rfl (a_ rfl (aV (aS (c7 a E q s) ?_)));refine eW rfl (a_ rfl (aV (aS (c7 b E q hb) ?_)));refine eW rfl (a_ rfl (aV (aS (c7 c E q hc) ?_)));refine eW rfl (a_ rfl (aV (aS (c7 d E q hd) ?_)));exact jG rfl (ai rfl)
theorem RU (sy:SY) (ce fu:η) (l:Y TT) (h0:l.length<=4) (h:l.length≠4):m6 (sy,ce,fu,l)=U:=by
 unfold m6 aX bp bA bt bJ aY;rcases l with _|⟨a,_|⟨b,_|⟨c,_|⟨d,_|⟨e,l⟩⟩⟩⟩⟩;all_goals first|(simp at h;done)|(exfalso;simp only[ch]at h0;omega)|simp[fE,kz,oD,rD,bcT,ZO]
theorem XL {E:Nat} (sy:SY) (ce fu:η) (a b c d:TT) (h:SV E (sy,ce,fu,[a,b,c,d])) (hce:ce.length<=1000) (hfu:fu.length<=1000):mZ (sy,ce,fu,[a,b,c,d])=Z ((sy.2.1,sy.1,sy.2.2.1,sy.2.2.2).1,(sy.2.1,sy.1,sy.2.2.1,sy.2.2.2).2.1,(sy.2.1,sy.1,sy.2.2.1,sy.2.2.2).2.2.1,(sy.2.1,sy.1,sy.2.2.1,sy.2.2.2).2.2.2,(([]:η)++ce),(([]:η)++fu),((((a.1,a.2.2.2),a.2.1,a.2.2.1).1.1,((a.1,a.2.2.2),a.2.1,a.2.2.1).2.1,((a.1,a.2.2.2),a.2.1,a.2.2.1).2.2,((a.1,a.2.2.2),a.2.1,a.2.2.1).1.2),(((b.1,b.2.2.2),b.2.1,b.2.2.1).1.1,((b.1,b.2.2.2),b.2.1,b.2.2.1).2.1,((b.1,b.2.2.2),b.2.1,b.2.2.1).2.2,((b.1,b.2.2.2),b.2.1,b.2.2.1).1.2),((c.1,c.2.2.2),c.2.1,c.2.2.1).1.1,((c.1,c.2.2.2),c.2.1,c.2.2.1).1.2,((d.1,d.2.2.2),d.2.1,d.2.2.1).1.1,((d.1,d.2.2.2),d.2.1,d.2.2.1).2.1,((d.1,d.2.2.2),d.2.1,d.2.2.1).2.2,((d.1,d.2.2.2),d.2.1,d.2.2.1).1.2),((c.1,c.2.2.2),c.2.1,c.2.2.1).2):=by
 have q:=h.sb.n1;have s:=h.t a (by simp);have hb:=h.t b (by simp);have hc:=h.t c (by simp);have hd:=h.t d (by simp);refine b6 ?_;unfold mZ aX bp bA bt bJ aY;refine aS (qx sy h.sb) ?_;refine aZ (by simp;omega) (by omega) (aZ (by simp;omega) (by omega) ?_);refine eW rfl (a_ rfl (aV (aS (c7 a E q s) ?_)));refine eW rfl (a_ rfl (aV (aS (c7 b E q hb) ?_)));refine eW rfl (a_ rfl (aV (aS (c7 c E q hc) ?_)));refine eW rfl (a_ rfl (aV (aS (c7 d E q hd) ?_)));exact jG rfl (ai rfl)
theorem RQ (sy:SY) (ce fu:η) (l:Y TT) (h0:l.length<=4) (h:l.length≠4):mZ (sy,ce,fu,l)=U:=by
 unfold mZ aX bp bA bt bJ aY;rcases l with _|⟨a,_|⟨b,_|⟨c,_|⟨d,_|⟨e,l⟩⟩⟩⟩⟩;all_goals first|(simp at h;done)|(exfalso;simp only[ch]at h0;omega)|simp[fE,kz,oD,rD,bcT,ZO]
theorem XK {E:Nat} (sy:SY) (ce fu:η) (a b c d:TT) (h:SV E (sy,ce,fu,[a,b,c,d])) (hce:ce.length<=1000) (hfu:fu.length<=1000):mY (sy,ce,fu,[a,b,c,d])=Z ((sy.2.1,sy.1,sy.2.2.1,sy.2.2.2).1,(sy.2.1,sy.1,sy.2.2.1,sy.2.2.2).2.1,(sy.2.1,sy.1,sy.2.2.1,sy.2.2.2).2.2.1,(sy.2.1,sy.1,sy.2.2.1,sy.2.2.2).2.2.2,(([]:η)++ce),(([]:η)++fu),((((a.1,a.2.2.2),a.2.1,a.2.2.1).1.1,((a.1,a.2.2.2),a.2.1,a.2.2.1).2.1,((a.1,a.2.2.2),a.2.1,a.2.2.1).2.2,((a.1,a.2.2.2),a.2.1,a.2.2.1).1.2),(((b.1,b.2.2.2),b.2.1,b.2.2.1).1.1,((b.1,b.2.2.2),b.2.1,b.2.2.1).2.1,((b.1,b.2.2.2),b.2.1,b.2.2.1).2.2,((b.1,b.2.2.2),b.2.1,b.2.2.1).1.2),(((c.1,c.2.2.2),c.2.1,c.2.2.1).1.1,((c.1,c.2.2.2),c.2.1,c.2.2.1).2.1,((c.1,c.2.2.2),c.2.1,c.2.2.1).2.2,((c.1,c.2.2.2),c.2.1,c.2.2.1).1.2),((d.1,d.2.2.2),d.2.1,d.2.2.1).1),((d.1,d.2.2.2),d.2.1,d.2.2.1).2):=by
 have q:=h.sb.n1;have s:=h.t a (by simp);have hb:=h.t b (by simp);have hc:=h.t c (by simp);have hd:=h.t d (by simp);refine b6 ?_;unfold mY aX bp bA bt bJ aY;refine aS (qx sy h.sb) ?_;refine aZ (by simp;omega) (by omega) (aZ (by simp;omega) (by omega) ?_);refine eW rfl (a_ rfl (aV (aS (c7 a E q s) ?_)));refine eW rfl (a_ rfl (aV (aS (c7 b E q hb) ?_)));refine eW rfl (a_ rfl (aV (aS (c7 c E q hc) ?_)));refine eW rfl (a_ rfl (aV (aS (c7 d E q hd) ?_)));exact jG rfl (ai rfl)
theorem RP (sy:SY) (ce fu:η) (l:Y TT) (h0:l.length<=4) (h:l.length≠4):mY (sy,ce,fu,l)=U:=by
 unfold mY aX bp bA bt bJ aY;rcases l with _|⟨a,_|⟨b,_|⟨c,_|⟨d,_|⟨e,l⟩⟩⟩⟩⟩;all_goals first|(simp at h;done)|(exfalso;simp only[ch]at h0;omega)|simp[fE,kz,oD,rD,bcT,ZO]
theorem kdx (k:Int):k=1\/k=16\/k=2\/k=3\/k=23\/k=4\/k=22\/k=5\/((k=1)=False/\(k=16)=False/\(k=2)=False/\(k=3)=False/\(k=23)=False/\(k=4)=False/\(k=22)=False/\(k=5)=False):=by
 by_cases h:k=1\/k=16\/k=2\/k=3\/k=23\/k=4\/k=22\/k=5
 .omega
 .repeat (first|exact⟨eq_false (by omega),eq_false (by omega),eq_false (by omega),eq_false (by omega),eq_false (by omega),eq_false (by omega),eq_false (by omega),eq_false (by omega)⟩|refine Or.inr ?_)
def KR {g:Type} (n:Nat) (d:CT) (i:Nat) (u:Int) (l:Y TT) (z:g) (k:Int->(CT×SY×(Γ)×Int×(υ)×ET×(Γ)×(η)×(η)×g×(η)×Y η)->J (ST×ET×Bool)):Prop:=
 ∀(p:Int) (sy:SY) (kd o v q:Int) (ds fs ce fu R:η) (T:Y η) (ev:Int),
  (kd≠16->kd≠2->Ok (nk (aH (T:=G2) d.2 (i:Int),(p,R,T,ba .i64 (ev+1)))) λy=>TH (n+1) y.1)->
  (kd=16\/kd=2->TH (n+1) (p,R,T,ba .i64 (ev+1)))->
  (∀t',TH (n+1) t'->SQ n d ((sy,ce,fu,l.set i t'),((i:Int),kd,o,v,q,ds,fs),M))->(i:Int)<(d.2.length:Int)->
  ∀s,Ok (k p (d,sy,((i:Int),u),0,(0,0,0,0,0),((i:Int),kd,o,v,q,ds,fs),(s,ev),ce,fu,z,R,T)) (SQ n d)
theorem AC {g:Type} (N i:Nat) {D:SY×(η)×(η)×Y TT->J (Int×(Y (Int×η))×(θ)×(Y (Int×Int×Bool))×(η)×(η)×g×(η)×Y η)} {pc ev:g->Int} {k:Int->(CT×SY×(Γ)×Int×(υ)×ET×(Γ)×(η)×(η)×g×(η)×Y η)->J (ST×ET×Bool)} {n:Nat} (hn:n+1<=100000) (q:CT) (s:ST) (t u:Int) (hc:CB q) (hs:SV n s)
 (h0:∀sy ce fu (l:Y TT),l.length<=4->l.length≠N->D (sy,ce,fu,l)=U)
 (h1:∀sy ce fu (l:Y TT),SV n (sy,ce,fu,l)->ce.length<=1000->fu.length<=1000->l.length=N->i<N/\∃y,D (sy,ce,fu,l)=Z y/\y.2.2.2.2.1=ce/\y.2.2.2.2.2.1=fu/\y.2.2.2.2.2.2.2.1=(aH (T:=EH) l (i:Int)).2.1/\y.2.2.2.2.2.2.2.2=(aH (T:=EH) l (i:Int)).2.2.1/\pc y.2.2.2.2.2.2.1=(aH (T:=EH) l (i:Int)).1/\ev y.2.2.2.2.2.2.1=(aH (T:=EH) l (i:Int)).2.2.2/\KR n q i u l y.2.2.2.2.2.2.1 k):
 OG (SG (i:Int) D pc ev k (q,s,t,u)) (SQ n q)/\(s.2.2.2.length=N->t=(i:Int)->Ok (SG (i:Int) D pc ev k (q,s,t,u)) (SQ n q)):=by
 by_cases hz:s.2.2.2.length=N/\t=(i:Int)
 .obtain⟨I,rfl⟩:=hz;suffices h:Ok (SG (i:Int) D pc ev k (q,s,(i:Int),u)) (SQ n q) from ⟨.inr h,λ_ _=>h⟩
  unfold SG ua yZ Kk aX bh bm bT cX gN rn um De Kj Prod.q13 bp cI gd GW ck bg bJ kM aB;refine Hu hn hc hs (λo=>Ok o (SQ n q)) (λy h=>ai h) _ λe v sy hp he ha=>?_
  obtain⟨sy0,ce,fu,l⟩:=s;dsimp only at I he ha;have hE:=hs.sb.n1;have vl:=hp.fs.vc.vl;have hce:=hp.fs.ce;have hfu:=hp.fs.fu;dsimp only at hce hfu;obtain⟨hiN,⟨q1,q2,q3,q4,ce',fu',z,R0,T0⟩,hcp,g1,g2,g3,g4,hpc,hve,hk⟩:=h1 sy0 ce fu l hs (by have:=vl.c;omega) (by have:=vl.f;omega) I;dsimp only at g1 g2 g3 g4 hpc hve hk;rw[g1,g2,g3,g4]at hcp;have hsb:=ha.toSB hs.sb hn;obtain⟨_,_,nmce,_,_,_,nmfu⟩:=id he.nm;have hev:X9 q.1 e:=⟨he.nm,hp.et▸hp.t0,by rw[hp.et,<-hp.fs.vc.tl];exact hp.t1,he.cd⟩
  have hes:UI e:=⟨cY hp.d (by omega),cY hp.f (by omega)⟩
  have t1:(i:Int)<(q.2.length:Int):=hp.t1;have htf:TF (aH (T:=G2) q.2 (i:Int)) (aH (T:=EH) l (i:Int)):=hp.fs.t i (by omega);have hA:=hp.a;have F:=hp.b;dsimp only at hA F;have hvt:=hp.fs.vc.t _ (bG (T:=G2) (xs:=q.2) (j:=(i:Int)) (by omega) t1);have hci:=hc.ins _ (bG (T:=G2) (xs:=q.2) (j:=(i:Int)) (by omega) t1);have hth:TH n (aH (T:=EH) l (i:Int)):=hs.t _ (bG (T:=EH) (xs:=l) (j:=(i:Int)) (by omega) (by omega));have hl:=hs.t;dsimp only at hl;clear g3 g4;generalize aH (T:=EH) l (i:Int)=th at hcp hpc hve htf hA F hth;obtain⟨e1,kd,o,e4,site,ds,fs⟩:=e;have het:=hp.et;dsimp only at het nmce nmfu hA F;subst het;refine aS hcp ?_;dsimp only;rw[hpc,hve];refine eW (bl rfl) ?_;refine aK (by omega) t1 (aV (aK htf.p0 htf.p1 (aV ?_)));have htz:th.2.2.1.length=th.2.1.length:=by have:=htf.r;have:=htf.t;omega
  have fin:∀(p:Int) (R:η) (T:Y η),R.length=th.2.1.length->T.length=th.2.2.1.length->(∀x∈T,TL (n+1) x)->Ok (nk (aH (T:=G2) q.2 (i:Int),(p,R,T,ba .i64 (th.2.2.2+1)))) λy=>TH (n+1) y.1:=λp R T h1 h2 h3=>by
   have a1:=hth.e0;have a2:=hth.e1;have a3:=hth.r;have a4:=hth.t;rw[gI (n:=th.2.2.2+1) (by omega) (by omega)];exact Xw (n+1) hn _ hci hvt _ ⟨by dsimp only;omega,by dsimp only;omega,h3,by dsimp only;omega,by dsimp only;omega⟩
  have keep:∀x∈th.2.2.1,TL (n+1) x:=λx L=>(hth.l x L).mono (by omega)
  have mark:∀j:Int,∀x∈ct th.2.2.1 j [th.2.2.2],TL (n+1) x:=λj x L=>by
   rcases xX L with h|h
   .exact keep x h
   .rw[h];exact⟨⟨λy hy=>(by cases hy),trivial⟩,λy hy=>by rw[aI]at hy;have:=hth.e0;have:=hth.e1;rw[hy];exact⟨by omega,by omega⟩⟩
  have nopark:TH (n+1) (th.1,th.2.1,th.2.2.1,ba .i64 (th.2.2.2+1)):=by
   have a1:=hth.e0;have a2:=hth.e1;rw[gI (n:=th.2.2.2+1) (by omega) (by omega)];exact⟨hth.r,hth.t,keep,by dsimp only;omega,by dsimp only;omega⟩
  have done:∀(ce' fu':η) (v':Int) (t':TT),TH (n+1) t'->SQ n q ((sy,ce',fu',l.set i t'),((i:Int),kd,o,v',site,ds,fs),M):=λce' fu' v' t' ht' _=>⟨⟨hsb,λx L=>(LJ L).elim (λh=>(hl x h).mono (by omega)) λh=>h▸ht'⟩,⟨hev.nm,hev.t0,hev.t1,hev.cd⟩,hes⟩
  clear hp hs hc h0 h1 hcp g1 g2;generalize (aH (T:=UN) (aH (T:=G2) q.2 (i:Int)).2 th.1)=ins at hA F ⊢;rcases kdx kd with rfl|rfl|rfl|rfl|rfl|rfl|rfl|rfl|⟨k1,k2,k3,k4,k5,k6,k7,k8⟩
  case inr.inr.inr.inr.inr.inr.inr.inr=>
   simp only[k1,k2,k3,k4,k5,k6,k7,k8,aN,aR,kG];exact hk _ _ _ _ _ _ _ _ _ _ _ _ _ (λ_ _=>fin _ _ _ rfl rfl keep) (λh=>by rw[k2,k3]at h;exact (h.elim id id).elim) (done _ _ _) t1 _
  all_goals simp only[aN,aR,kG]
  .exact hk _ _ _ _ _ _ _ _ _ _ _ _ _ (λ_ _=>fin _ _ _ rfl rfl keep) (λh=>by omega) (done _ _ _) t1 _
  .exact hk _ _ _ _ _ _ _ _ _ _ _ _ _ (λh _=>(h rfl).elim) (λ_=>nopark) (done _ _ _) t1 _
  .exact hk _ _ _ _ _ _ _ _ _ _ _ _ _ (λ_ h=>(h rfl).elim) (λ_=>nopark) (done _ _ _) t1 _
  .obtain⟨A,o1⟩:=nmce (.inl rfl);rw[<- hce]at o1;obtain⟨a0,a1⟩:=hA (.inl rfl);have a2:ins.2.1<(th.2.2.1.length:Int):=by rw[htz];exact a1
   refine fP (aK A o1 (aK A o1 (ai ?_)));simp only[aN,aR,kG];refine fP (aK a0 a1 (aK a0 a1 (aK a0 a2 (aK a0 a2 (ai ?_)))));exact hk _ _ _ _ _ _ _ _ _ _ _ _ _ (λ_ _=>fin _ _ _ (cu ..) (cu ..) (mark _)) (λh=>by omega) (done _ _ _) t1 _
  .obtain⟨A,o1⟩:=nmfu (.inr rfl);rw[<- hfu]at o1;obtain⟨a0,a1⟩:=hA (.inr (.inl rfl));have a2:ins.2.1<(th.2.2.1.length:Int):=by rw[htz];exact a1
   refine fP (aK A o1 (aK A o1 (ai ?_)));simp only[aN,aR,kG];refine fP (aK a0 a1 (aK a0 a1 (aK a0 a2 (aK a0 a2 (ai ?_)))));exact hk _ _ _ _ _ _ _ _ _ _ _ _ _ (λ_ _=>fin _ _ _ (cu ..) (cu ..) (mark _)) (λh=>by omega) (done _ _ _) t1 _
  .obtain⟨A,o1⟩:=nmce (.inr rfl);rw[<- hce]at o1;obtain⟨a0,a1⟩:=F (.inl rfl);refine fP (aK a0 a1 (aK a0 a1 (aK A o1 (aK A o1 (ai ?_)))));simp only[aN,aR,kG];exact hk _ _ _ _ _ _ _ _ _ _ _ _ _ (λ_ _=>fin _ _ _ rfl rfl keep) (λh=>by omega) (done _ _ _) t1 _
  .obtain⟨A,o1⟩:=nmfu (.inl rfl);rw[<- hfu]at o1;obtain⟨a0,a1⟩:=F (.inr rfl);refine fP (aK a0 a1 (aK a0 a1 (aK A o1 (aK A o1 (ai ?_)))));simp only[aN,aR,kG];exact hk _ _ _ _ _ _ _ _ _ _ _ _ _ (λ_ _=>fin _ _ _ rfl rfl keep) (λh=>by omega) (done _ _ _) t1 _
  .obtain⟨a0,a1⟩:=hA (.inr (.inr rfl));refine fP (aK a0 a1 (aK a0 a1 (aE (λ_=>ai ?_) λ_=>ai ?_)));all_goals
    simp only[aN,aR,kG];exact hk _ _ _ _ _ _ _ _ _ _ _ _ _ (λ_ _=>fin _ _ _ rfl rfl keep) (λh=>by omega) (done _ _ _) t1 _
 .refine ⟨?_,λh1 h2=>(hz ⟨h1,h2⟩).elim⟩;unfold SG ua yZ Kk aX bh bm bT cX gN rn um De Kj Prod.q13 bp cI gd GW ck bg bJ kM aB;refine Hu hn hc hs (λo=>OG o (SQ n q)) (λy h=>.inr (ai h)) _ λe v sy hp he ha=>.inl ?_
  obtain⟨sy0,ce,fu,l⟩:=s;have vl:=hp.fs.vc.vl;by_cases hl:l.length=N
  .have ht:¬t=(i:Int):=λh=>hz ⟨hl,h⟩
   dsimp only;cases D (sy0,ce,fu,l) with
   |none=>rfl
   |some y=>rw[R6,bF ht];rfl
  .show av (D (sy0,ce,fu,l)) _=U;rw[h0 sy0 ce fu l (by have h1:l.length=q.2.length:=hp.fs.th;have:=hp.fs.vc.tl;have:=vl.t;omega) hl];rfl
theorem AD {g W V:Type} {n:Nat} {s:CT} {i:Nat} {u:Int} {l:Y TT} {z:g} {t1:g->η->Y η->W} {q:W->V} {d:V->TT->Y TT} (F:∀R T t',d (q (t1 z R T)) t'=l.set i t'):KR n s i u l z (KG (i:Int) t1 q d):=by
 intro p sy kd o v A ds fs ce fu R T ev fin park done ht I;unfold KG ua aX bh bm bT cX gN rn um De Kj lz bg iT bJ aB cw;dsimp only;have done:∀t',TH (n+1) t'->SQ n s ((sy,ce,fu,d (q (t1 z R T)) t'),((i:Int),kd,o,v,A,ds,fs),M):=λt' h=>by rw[F];exact done t' h
 by_cases h1:kd=16
 .subst h1;exact fP (fP (jG rfl (ai (jG rfl (ai (eW (bl rfl) (ai (done _ (park (.inl rfl))))))))))
 by_cases h2:kd=2
 .subst h2;exact fP (fP (eW rfl (ai (jG rfl (ai (eW (bl rfl) (ai (done _ (park (.inr rfl))))))))))
 rw[bF h1,bF h2];exact fP (fP (eW rfl (ai (eW rfl (aK (ey i) ht (aV (ar (fin h1 h2) λy D=>ai (eW (bl rfl) (ai (done _ D))))))))))
theorem Xm {n:Nat} (hn:n+1<=100000) (q:CT) (s:ST) (t u:Int) (hc:CB q) (hs:SV n s):OG (mX (q,s,t,u)) (SQ n q)/\(s.2.2.2.length=4->t=0->Ok (mX (q,s,t,u)) (SQ n q)):=by
 refine AC 4 0 hn q s t u hc hs RW λsy ce fu l hs hce hfu hl=>⟨by decide,?_⟩
 obtain⟨a,b,c,d,rfl⟩:∃a b c d,l=[a,b,c,d]:=by
  rcases l with _|⟨a,_|⟨b,_|⟨c,_|⟨d,_|⟨e,l⟩⟩⟩⟩⟩;all_goals first|exact⟨_,_,_,_,rfl⟩|(simp at hl;done)|(exfalso;simp only[ch]at hl;omega)
 refine ⟨_,XN sy ce fu a b c d hs hce hfu,rfl,rfl,rfl,rfl,rfl,rfl,AD λR T t'=>rfl⟩
theorem Xl {n:Nat} (hn:n+1<=100000) (q:CT) (s:ST) (t u:Int) (hc:CB q) (hs:SV n s):OG (mW (q,s,t,u)) (SQ n q)/\(s.2.2.2.length=4->t=1->Ok (mW (q,s,t,u)) (SQ n q)):=by
 refine AC 4 1 hn q s t u hc hs RU λsy ce fu l hs hce hfu hl=>⟨by decide,?_⟩
 obtain⟨a,b,c,d,rfl⟩:∃a b c d,l=[a,b,c,d]:=by
  rcases l with _|⟨a,_|⟨b,_|⟨c,_|⟨d,_|⟨e,l⟩⟩⟩⟩⟩;all_goals first|exact⟨_,_,_,_,rfl⟩|(simp at hl;done)|(exfalso;simp only[ch]at hl;omega)
 refine ⟨_,XM sy ce fu a b c d hs hce hfu,rfl,rfl,rfl,rfl,rfl,rfl,AD λR T t'=>rfl⟩
theorem Xk {n:Nat} (hn:n+1<=100000) (q:CT) (s:ST) (t u:Int) (hc:CB q) (hs:SV n s):OG (ll (q,s,t,u)) (SQ n q)/\(s.2.2.2.length=4->t=2->Ok (ll (q,s,t,u)) (SQ n q)):=by
 refine AC 4 2 hn q s t u hc hs RQ λsy ce fu l hs hce hfu hl=>⟨by decide,?_⟩
 obtain⟨a,b,c,d,rfl⟩:∃a b c d,l=[a,b,c,d]:=by
  rcases l with _|⟨a,_|⟨b,_|⟨c,_|⟨d,_|⟨e,l⟩⟩⟩⟩⟩;all_goals first|exact⟨_,_,_,_,rfl⟩|(simp at hl;done)|(exfalso;simp only[ch]at hl;omega)
 refine ⟨_,XL sy ce fu a b c d hs hce hfu,rfl,rfl,rfl,rfl,rfl,rfl,AD λR T t'=>rfl⟩
theorem Xj {n:Nat} (hn:n+1<=100000) (q:CT) (s:ST) (t u:Int) (hc:CB q) (hs:SV n s):OG (kl (q,s,t,u)) (SQ n q)/\(s.2.2.2.length=4->t=3->Ok (kl (q,s,t,u)) (SQ n q)):=by
 refine AC 4 3 hn q s t u hc hs RP λsy ce fu l hs hce hfu hl=>⟨by decide,?_⟩
 obtain⟨a,b,c,d,rfl⟩:∃a b c d,l=[a,b,c,d]:=by
  rcases l with _|⟨a,_|⟨b,_|⟨c,_|⟨d,_|⟨e,l⟩⟩⟩⟩⟩;all_goals first|exact⟨_,_,_,_,rfl⟩|(simp at hl;done)|(exfalso;simp only[ch]at hl;omega)
 refine ⟨_,XK sy ce fu a b c d hs hce hfu,rfl,rfl,rfl,rfl,rfl,rfl,AD λR T t'=>rfl⟩
theorem Xq {n:Nat} (hn:n+1<=100000) (q:CT) (s:ST) (t u:Int) (hc:CB q) (hs:SV n s):OG (jv (q,s,t,u)) (SQ n q)/\(s.2.2.2.length=3->t=0->Ok (jv (q,s,t,u)) (SQ n q)):=by
 refine AC 3 0 hn q s t u hc hs RZ λsy ce fu l hs hce hfu hl=>⟨by decide,?_⟩
 obtain⟨a,b,c,rfl⟩:∃a b c,l=[a,b,c]:=by
  rcases l with _|⟨a,_|⟨b,_|⟨c,_|⟨d,_|⟨e,l⟩⟩⟩⟩⟩;all_goals first|exact⟨_,_,_,rfl⟩|(simp at hl;done)|(exfalso;simp only[ch]at hl;omega)
 refine ⟨_,XQ sy ce fu a b c hs hce hfu,rfl,rfl,rfl,rfl,rfl,rfl,AD λR T t'=>rfl⟩
theorem Xo {n:Nat} (hn:n+1<=100000) (q:CT) (s:ST) (t u:Int) (hc:CB q) (hs:SV n s):OG (iF (q,s,t,u)) (SQ n q)/\(s.2.2.2.length=3->t=1->Ok (iF (q,s,t,u)) (SQ n q)):=by
 refine AC 3 1 hn q s t u hc hs RY λsy ce fu l hs hce hfu hl=>⟨by decide,?_⟩
 obtain⟨a,b,c,rfl⟩:∃a b c,l=[a,b,c]:=by
  rcases l with _|⟨a,_|⟨b,_|⟨c,_|⟨d,_|⟨e,l⟩⟩⟩⟩⟩;all_goals first|exact⟨_,_,_,rfl⟩|(simp at hl;done)|(exfalso;simp only[ch]at hl;omega)
 refine ⟨_,XP sy ce fu a b c hs hce hfu,rfl,rfl,rfl,rfl,rfl,rfl,AD λR T t'=>rfl⟩
theorem Xn {n:Nat} (hn:n+1<=100000) (q:CT) (s:ST) (t u:Int) (hc:CB q) (hs:SV n s):OG (g_ (q,s,t,u)) (SQ n q)/\(s.2.2.2.length=3->t=2->Ok (g_ (q,s,t,u)) (SQ n q)):=by
 refine AC 3 2 hn q s t u hc hs RX λsy ce fu l hs hce hfu hl=>⟨by decide,?_⟩
 obtain⟨a,b,c,rfl⟩:∃a b c,l=[a,b,c]:=by
  rcases l with _|⟨a,_|⟨b,_|⟨c,_|⟨d,_|⟨e,l⟩⟩⟩⟩⟩;all_goals first|exact⟨_,_,_,rfl⟩|(simp at hl;done)|(exfalso;simp only[ch]at hl;omega)
 refine ⟨_,XO sy ce fu a b c hs hce hfu,rfl,rfl,rfl,rfl,rfl,rfl,AD λR T t'=>rfl⟩
theorem Xs {n:Nat} (hn:n+1<=100000) (q:CT) (s:ST) (t u:Int) (hc:CB q) (hs:SV n s):OG (gA (q,s,t,u)) (SQ n q)/\(s.2.2.2.length=2->t=0->Ok (gA (q,s,t,u)) (SQ n q)):=by
 refine AC 2 0 hn q s t u hc hs R2 λsy ce fu l hs hce hfu hl=>⟨by decide,?_⟩
 obtain⟨a,b,rfl⟩:∃a b,l=[a,b]:=by
  rcases l with _|⟨a,_|⟨b,_|⟨c,_|⟨d,_|⟨e,l⟩⟩⟩⟩⟩;all_goals first|exact⟨_,_,rfl⟩|(simp at hl;done)|(exfalso;simp only[ch]at hl;omega)
 refine ⟨_,XS sy ce fu a b hs hce hfu,rfl,rfl,rfl,rfl,rfl,rfl,AD λR T t'=>rfl⟩
theorem Xr {n:Nat} (hn:n+1<=100000) (q:CT) (s:ST) (t u:Int) (hc:CB q) (hs:SV n s):OG (fQ (q,s,t,u)) (SQ n q)/\(s.2.2.2.length=2->t=1->Ok (fQ (q,s,t,u)) (SQ n q)):=by
 refine AC 2 1 hn q s t u hc hs R1 λsy ce fu l hs hce hfu hl=>⟨by decide,?_⟩
 obtain⟨a,b,rfl⟩:∃a b,l=[a,b]:=by
  rcases l with _|⟨a,_|⟨b,_|⟨c,_|⟨d,_|⟨e,l⟩⟩⟩⟩⟩;all_goals first|exact⟨_,_,rfl⟩|(simp at hl;done)|(exfalso;simp only[ch]at hl;omega)
 refine ⟨_,XR sy ce fu a b hs hce hfu,rfl,rfl,rfl,rfl,rfl,rfl,AD λR T t'=>rfl⟩
theorem Xt {n:Nat} (hn:n+1<=100000) (q:CT) (s:ST) (t u:Int) (hc:CB q) (hs:SV n s):OG (fR (q,s,t,u)) (SQ n q)/\(s.2.2.2.length=1->t=0->Ok (fR (q,s,t,u)) (SQ n q)):=by
 refine AC 1 0 hn q s t u hc hs R3 λsy ce fu l hs hce hfu hl=>⟨by decide,?_⟩
 obtain⟨a,rfl⟩:∃a,l=[a]:=by
  rcases l with _|⟨a,_|⟨b,_|⟨c,_|⟨d,_|⟨e,l⟩⟩⟩⟩⟩;all_goals first|exact⟨_,rfl⟩|(simp at hl;done)|(exfalso;simp only[ch]at hl;omega)
 refine ⟨_,XT sy ce fu a hs hce hfu,rfl,rfl,rfl,rfl,rfl,rfl,AD λR T t'=>rfl⟩
theorem Xu {n:Nat} (hn:n+1<=100000) (c:CT) (s:ST) (t u:Int) (hc:CB c) (hs:SV n s):Ok (zj (c,s,t,u)) (SQ n c):=by
 unfold zj;have d:=Xm hn c s t u hc hs;have q:=Xl hn c s t u hc hs;have z:=Xk hn c s t u hc hs;have A:=Xj hn c s t u hc hs;have D:=Xq hn c s t u hc hs;have F:=Xo hn c s t u hc hs;have I:=Xn hn c s t u hc hs;have L:=Xs hn c s t u hc hs;have a21:=Xr hn c s t u hc hs;have a10:=Xt hn c s t u hc hs;by_cases hz:s.2.2.2.length<=4/\0<=t/\t<(s.2.2.2.length:Int)
 .obtain⟨h1,h2,h3⟩:=hz;have:(s.2.2.2.length=4/\t=0)\/(s.2.2.2.length=4/\t=1)\/(s.2.2.2.length=4/\t=2)\/(s.2.2.2.length=4/\t=3)\/(s.2.2.2.length=3/\t=0)\/(s.2.2.2.length=3/\t=1)\/(s.2.2.2.length=3/\t=2)\/(s.2.2.2.length=2/\t=0)\/(s.2.2.2.length=2/\t=1)\/(s.2.2.2.length=1/\t=0):=by omega
  rcases this with h|h|h|h|h|h|h|h|h|h
  .exact (d.2 h.1 h.2).orL
  .exact d.1.orR (q.2 h.1 h.2).orL
  .exact d.1.orR (q.1.orR (z.2 h.1 h.2).orL)
  .exact d.1.orR (q.1.orR (z.1.orR (A.2 h.1 h.2).orL))
  .exact d.1.orR (q.1.orR (z.1.orR (A.1.orR (D.2 h.1 h.2).orL)))
  .exact d.1.orR (q.1.orR (z.1.orR (A.1.orR (D.1.orR (F.2 h.1 h.2).orL))))
  .exact d.1.orR (q.1.orR (z.1.orR (A.1.orR (D.1.orR (F.1.orR (I.2 h.1 h.2).orL)))))
  .exact d.1.orR (q.1.orR (z.1.orR (A.1.orR (D.1.orR (F.1.orR (I.1.orR (L.2 h.1 h.2).orL))))))
  .exact d.1.orR (q.1.orR (z.1.orR (A.1.orR (D.1.orR (F.1.orR (I.1.orR (L.1.orR (a21.2 h.1 h.2).orL)))))))
  .exact d.1.orR (q.1.orR (z.1.orR (A.1.orR (D.1.orR (F.1.orR (I.1.orR (L.1.orR (a21.1.orR (a10.2 h.1 h.2)))))))))
 .refine Ok.orL ?_;unfold mX aX bh cI;refine Hu hn hc hs (λo=>Ok o (SQ n c)) (λy h=>ai h) _ λe v sy hp he ha=>(hz ?_).elim
  have h1:s.2.2.2.length=c.2.length:=hp.fs.th;have h2:c.2.length=c.1.2.2.2.2.1.length:=hp.fs.vc.tl;have h3:c.1.2.2.2.2.1.length<=4:=hp.fs.vc.vl.t;have h4:0<=t:=hp.t0;have h5:t<(c.2.length:Int):=hp.t1;exact⟨by omega,h4,by omega⟩
theorem ac9 (c:CT) (s:ST) (l:Y Γ) (hc:CB c) (hs:SV 0 s) (hl:l.length<=9223372036854775806):Ok (vr (c,s,l)) λy=>y.1.length<=400/\∀e∈y.1,X9 c.1 e/\UI e:=by
 unfold vr aX bh cI bA bt bJ aY cM aB cw;refine mB (λx=>((l.length:Int)-x.1).toNat) (λx=>0<=x.1/\x.2.2.1=c/\SV x.2.1.length x.2.2.2.1/\x.2.1.length<=400/\∀e∈x.2.1,X9 c.1 e/\UI e) ?_ ⟨fb _,rfl,hs,by simp,λe he=>(by cases he)⟩;rintro⟨(i:Int),es,c',s',z⟩ ⟨D,e1,e2,e3,d⟩;dsimp only at D e1 e2 e3 d;subst e1;refine aU (λx=>x.2=(es,c',s',z)/\(x.1=M->i<(l.length:Int)/\es.length<400)) ?_ ?_
 .refine aQ (λg=>ai ⟨rfl,λh=>⟨g,?_⟩⟩) λ_=>ai ⟨rfl,λh=>(by cases h)⟩
  dsimp only at h;rw[lQ]at h;dsimp only[aj]at h;omega
 rintro⟨b,x⟩ ⟨I,F⟩;dsimp only at I F;subst I;refine aJ (λh=>?_) λ_=>ai ⟨e3,d⟩
 obtain⟨g1,g2⟩:=F h;refine aU (λx=>x.2.1=c'/\SV x.1.length x.2.2.1/\x.1.length<=400/\∀e∈x.1,X9 c'.1 e/\UI e) ?_ ?_
 .refine aK D g1 (aV ?_);refine ar (Xu (n:=es.length) (by omega) c' s' _ _ hc e2) λy L=>?_
  refine aJ (λh=>?_) λ_=>ai ⟨rfl,e2,e3,d⟩
  obtain⟨h1,h2,h3⟩:=L h;refine aZ (by simp;omega) (by omega) (ai ⟨rfl,?_,by simp;omega,λe he=>?_⟩)
  .dsimp only;rw[b7,c9];exact h1
  .rcases bP.1 he with he|he
   .exact d e he
   .rw[aI]at he;subst he;exact⟨h2,h3⟩
 rintro⟨es',c2,s2,z2⟩ ⟨k1,k2,A,q⟩;dsimp only at k1 k2 A q;subst k1;refine ai ?_;dsimp only;rw[gI (n:=i+1) (by omega) (by omega)];exact⟨⟨by omega,rfl,k2,A,q⟩,by omega⟩
theorem aga (c:CT) (l:Y Γ) (hc:CB c) (hl:l.length<=9223372036854775806):Ok (ye (c,l)) λy=>TR y.1:=by
 unfold ye;refine ar (J1 c hc) λb hb=>?_
 refine cV (λ_=>ai ⟨by simp,λe he=>(by cases he)⟩) λh=>?_
 have hv:=hb h;refine ar (Uz c hc) λs hs=>?_
 refine ar (ac9 c s l hc hs hl) λy d=>ai ?_
 exact⟨by have:=d.1;dsimp only;omega,λe he=>(d.2 e he).2⟩
theorem UJ (l:η) (hl:l.length<=1000000):Ok (oz l) λy=>y.length=l.length:=by
 unfold oz bA bt bJ aY cM aB cw;refine b9 l.length (λi x=>x.1=(i:Int)/\x.2.length=i) ?_ ?_ ⟨rfl,rfl⟩
 .rintro i ⟨a,b⟩ hi ⟨e1,e2⟩;dsimp only at e1 e2;subst e1;refine aQ (λ_=>?_) λg=>(by dsimp only[aj]at g;omega)
  refine aK (by dsimp only;omega) (by dsimp only;omega) (aV (aK (by dsimp only;omega) (by dsimp only;omega) (aV (aZ (by simp;omega) (by omega) (ai ?_)))));dsimp only;exact⟨fo (by omega),by simp;omega⟩
 .rintro⟨a,b⟩ ⟨e1,e2⟩;dsimp only at e1 e2;subst e1;exact aQ (λg=>(by dsimp only[aj]at g;omega)) λ_=>ai e2
theorem eX (e:Xp):d9 (Xp.op e,Xp.n e,Xp.name e,Xp.l e)=e:=by cases e;rfl
theorem xW (s:Sx):oA (Sx.op s,Sx.line s,Sx.name s,Sx.arg s,Sx.index s,Sx.expr s,Sx.body s,Sx.els s)=s:=by cases s;rfl
def GE:Nat->Xp->Prop
 |0,_=>False
 |d+1,e=>(e.op=3->e.name=[113])/\(e.op≠1->e.op≠2->1<=e.l.length)/\e.l.length<=2/\∀x∈e.l,GE d x
theorem GE.mono:∀{d:Nat} {e:Xp},GE d e->GE (d+1) e
 |0,_,h=>h.elim
 |_+1,_,h=>⟨h.1,h.2.1,h.2.2.1,λx q=>(h.2.2.2 x q).mono⟩
theorem GE.le {d k:Nat} {e:Xp} (h:GE d e) (hk:d<=k):GE k e:=by
 induction hk with
 |refl=>exact h
 |step _ q=>exact q.mono
theorem Nc (n:Int):qW n=Z (.mk 1 n [] []):=rfl
theorem G5 (s:ζ):pn s=Z (.mk 2 0 s []):=rfl
theorem Eo (o:Int) (a b:Xp):nI (o,a,b)=Z (.mk o 0 [] [a,b]):=by
 cases a;cases b;rfl
theorem td (s:ζ) (e:Xp):jt (s,e)=Z (.mk 1 0 s [] [] e [] []):=by
 cases e;rfl
abbrev MK:Type:=Int×Int×Bool×Bool×Bool×Bool
abbrev Oo:Type:=η×Int
abbrev HD:Type:=Bool×Y ζ
theorem GE.num (n:Int) (d:Nat):GE (d+1) (.mk 1 n [] []):=⟨λh=>(by cases h),λh=>(h rfl).elim,by simp[Xp.l],λx q=>(by cases q)⟩
theorem GE.nm (s:ζ) (d:Nat):GE (d+1) (.mk 2 0 s []):=⟨λh=>(by cases h),λ_ h=>(h rfl).elim,by simp[Xp.l],λx q=>(by cases q)⟩
theorem GE.bin {o:Int} {a b:Xp} {d:Nat} (s:o≠3) (z:GE d a) (hb:GE d b):GE (d+1) (.mk o 0 [] [a,b]):=
 ⟨λh=>(s h).elim,λ_ _=>by simp[Xp.l],by simp[Xp.l],λx q=>by
   simp only[Xp.l,bx,cH,gK]at q;rcases q with rfl|rfl
   .exact z
   .exact hb⟩
theorem GE.ix {a:Xp} {d:Nat} (s:GE d a):GE (d+1) (.mk 3 0 [113] [a]):=
 ⟨λ_=>rfl,λ_ _=>by simp[Xp.l],by simp[Xp.l],λx q=>by
   simp only[Xp.l,bx,cH,gK]at q;rw[q];exact s⟩
theorem Cq:∀(n d:Nat),d<n->d<=10->∀(m:MK) (t:Oo) (h:HD),TP t->Ok (iq n ((d:Int),m,t,h)) λy=>GE (d+1) y.1/\y.2.1=m/\ui t y.2.2.1/\y.2.2.2=h
 |0,d,hd,_,_,_,_,_=>by omega
 |n+1,d,hd,h10,m,t,h,ht=>by
  rw[xO];unfold nQ aX bh bp cI cD bg bA bt kM aY aB;refine ar (gk 10 t ht) λy q=>?_
  obtain⟨k,t1⟩:=y;obtain⟨s1,k0,k1,_⟩:=q;have k1:=k1 (by decide);dsimp only at s1 k0 k1;refine aU (λx=>x.2=(m,t1,h,(0,0,[]),[[97],[98],[120],[121],[118],[120],[121]])/\(x.1=aa->2<=k/\(d=0->k<7))) ?_ ?_
  .refine aQ (λ_=>ai ⟨rfl,λh=>(by cases h)⟩) λg=>aE (λg2=>ai ⟨rfl,λL=>⟨g,λ_=>?_⟩⟩) λg2=>ai ⟨rfl,λ_=>⟨g,λh=>(g2 (by dsimp only;omega)).elim⟩⟩
   dsimp only at L;rw[ko]at L;exact L
  rintro⟨b,x⟩ ⟨e,hb⟩;dsimp only at e hb;subst e;refine aJ (λ_=>?_) λg=>?_
  .refine ar (gk 4 t1 s1.p) λy q=>?_
   refine aS (Nc _) (ai ?_);exact⟨GE.num _ _,rfl,s1.trans q.1,rfl⟩
  obtain⟨q0,q1⟩:=hb g;refine aQ (λg=>?_) λg=>?_
  .refine ar (gk _ t1 s1.p) λy q=>?_
   obtain⟨I,A,s,_⟩:=q;have s:=s (show (1:Int)<=7 by decide);refine aK A s (aK A s (aV ?_));refine aS (G5 _) (ai ?_);exact⟨GE.nm _ _,rfl,s1.trans I,rfl⟩
  dsimp only at g;have hd0:d≠0:=λh=>by have:=q1 h;omega
  obtain⟨d,rfl⟩:∃k,d=k+1:=⟨d-1,by omega⟩
  refine aE (λg=>?_) λg=>?_
  .refine ar (Cq n 0 (by omega) (by omega) m t1 h s1.p) λy q=>?_
   obtain⟨e,m',t',h'⟩:=y;obtain⟨v1,v2,D,F⟩:=q;dsimp only at v1 v2 D F;subst v2;subst F;refine a_ (by simp) (ai ?_);dsimp only;rw[eX];exact⟨(GE.ix (v1.le (by omega):GE (d+1) e)),rfl,s1.trans D,rfl⟩
  .refine ar (gk _ t1 s1.p) λy q=>?_
   obtain⟨k2,t2⟩:=y;obtain⟨I,A,s,_⟩:=q;have s:=s (by decide);dsimp only at I A s;refine aK A s (aK A s (aV ?_));have ho:aH (T:=.int .i64) [6,7,8,11,13,17] k2≠(3:Int):=by
    have h1:=bG (T:=.int .i64) (xs:=([6,7,8,11,13,17]:η)) A s;have:∀z:Int,z∈([6,7,8,11,13,17]:η)->z≠3:=by decide
    exact this _ h1
   have ew:ba .i64 (((d+1:Nat):Int)-1)=(d:Int):=by rw[gI (by omega) (by omega)];omega
   dsimp only;rw[ew];refine ar (Cq n d (by omega) (by omega) m t2 h I.p) λy q=>?_
   obtain⟨e,m',t',h'⟩:=y;obtain⟨v1,v2,D,F⟩:=q;dsimp only at v1 v2 D F;subst v2;subst F;refine a_ (by simp) ?_;refine ar (Cq n d (by omega) (by omega) m' t' h' D.p) λy q=>?_
   obtain⟨e2,m2,t2',h2⟩:=y;obtain⟨w1,w2,w3,w4⟩:=q;dsimp only at w1 w2 w3 w4;subst w2;subst w4;refine a_ (by simp) ?_;refine aS (Eo _ _ _) (ai ?_);dsimp only;rw[eX];exact⟨GE.bin ho v1 w1,rfl,s1.trans (I.trans (D.trans w3)),rfl⟩
theorem YQ (d:Nat) (hd:d<=10) (m:MK) (t:Oo) (h:HD) (ht:TP t):Ok (eV ((d:Int),m,t,h)) λy=>GE (d+1) y.1/\y.2.1=m/\ui t y.2.2.1/\y.2.2.2=h:=Cq fuel d (by rw[qk];omega) hd m t h ht
def NE (op:Int):Prop:=op=1\/op=2\/op=3\/op=14
def ZE (e:Xp):Prop:=GE 4 e\/e= .mk 0 0 [] []
def GS:Nat->Sx->Prop
 |0,_=>False
 |d+1,s=>(s.index≠[]->s.name=[113])/\s.index.length<=1/\(∀e∈s.index,GE 4 e)/\(NE s.op->GE 4 s.expr)/\ZE s.expr/\s.body.length<=8/\s.els.length<=8/\(∀x∈s.body,GS d x)/\(∀x∈s.els,GS d x)
theorem GS.mono:∀{d:Nat} {s:Sx},GS d s->GS (d+1) s
 |0,_,h=>h.elim
 |_+1,_,⟨a,b,c,e,f,g,i,j,k⟩=>⟨a,b,c,e,f,g,i,λx q=>(j x q).mono,λx q=>(k x q).mono⟩
theorem GS.le {d k:Nat} {s:Sx} (h:GS d s) (hk:d<=k):GS k s:=by
 induction hk with
 |refl=>exact h
 |step _ q=>exact q.mono
theorem GS.asg {d:Nat} (s:ζ) {e:Xp} (h:GE 4 e):GS (d+1) (.mk 1 0 s [] [] e [] []):=
 ⟨λh=>(h rfl).elim,by simp[Sx.index],λe he=>(by cases he),λ_=>h,.inl h,by simp[Sx.body],by simp[Sx.els],λx q=>(by cases q),λx q=>(by cases q)⟩
theorem GS.aix {d:Nat} {i e:Xp} (hi:GE 4 i) (h:GE 4 e):GS (d+1) (.mk 1 0 [113] [] [i] e [] []):=
 ⟨λ_=>rfl,by simp[Sx.index],λe he=>(by simp only[Sx.index,aI]at he;rw[he];exact hi),λ_=>h,.inl h,by simp[Sx.body],by simp[Sx.els],λx q=>(by cases q),λx q=>(by cases q)⟩
theorem GS.we {d:Nat} {op:Int} {s a:ζ} {e:Xp} {b l:Y Sx} (h:GE 4 e) (hb:b.length<=8) (hl:l.length<=8) (q:∀x∈b,GS d x) (gl:∀x∈l,GS d x):GS (d+1) (.mk op 0 s a [] e b l):=
 ⟨λh=>(h rfl).elim,by simp[Sx.index],λe he=>(by cases he),λ_=>h,.inl h,hb,hl,q,gl⟩
theorem GS.wo {d:Nat} {op q:Int} {s a:ζ} {b:Y Sx} (D:4<=op/\op≠14) (hb:b.length<=8) (A:∀x∈b,GS d x):GS (d+1) (.mk op q s a [] (.mk 0 0 [] []) b []):=
 ⟨λh=>(h rfl).elim,by simp[Sx.index],λe he=>(by cases he),λh=>(by have h:op=1\/op=2\/op=3\/op=14:=h;omega),.inr rfl,hb,by simp[Sx.els],A,λx z=>(by cases z)⟩
def QS (d:Nat) (n:Int) (t:Oo) (h:HD) (y:MK×Oo×HD×Y Sx):Prop:=(y.2.2.2.length:Int)<=max 0 n/\(∀s∈y.2.2.2,GS (d+1) s)/\ui t y.2.1/\y.2.2.1.2=h.2
def QT (d:Nat) (t:Oo) (h:HD) (y:Sx×MK×Oo×HD):Prop:=GS (d+1) y.1/\ui t y.2.2.1/\y.2.2.2.2=h.2
def QB (d:Nat) (t:Oo) (h:HD) (y:Y Sx×MK×Oo×HD):Prop:=y.1.length<=2/\(∀s∈y.1,GS (d+1) s)/\ui t y.2.2.1/\y.2.2.2.2=h.2
abbrev RS:Type:=(Γ×MK×Oo×HD)->J (MK×Oo×HD×Y Sx)
abbrev RT:Type:=(Int×MK×Oo×HD)->J (Sx×MK×Oo×HD)
abbrev RBk:Type:=((ζ×Int)×MK×Oo×HD)->J (Y Sx×MK×Oo×HD)
def SpS (rs:RS) (d:Nat):Prop:=∀(n:Int) (m:MK) (t:Oo) (h:HD),n<=3->TP t->h.2.length+d<=100->Ok (rs (((d:Int),n),m,t,h)) (QS d n t h)
def SpT (q:RT) (d:Nat):Prop:=∀(m:MK) (t:Oo) (h:HD),TP t->h.2.length+d<=100->Ok (q ((d:Int),m,t,h)) (QT d t h)
def SpB (q:RBk) (d:Nat):Prop:=∀(s:ζ) (m:MK) (t:Oo) (h:HD),TP t->h.2.length+1+d<=100->Ok (q ((s,(d:Int)),m,t,h)) (QB d t h)
theorem Wu (rs:RS) (A:RT) (L:RBk) (d:Nat) (ht:SpT A d):SpS (mG rs A L) d:=by
 intro n m t h hn hp hh;unfold mG aX bh bm bp cI cD bg bA bt cM aB cw dY;refine mB (λx=>(n-x.1).toNat) (λx=>0<=x.1/\(x.1<=n\/x.1=0)/\ui t x.2.2.1/\(x.2.2.2.1.length:Int)<=x.1/\(∀s∈x.2.2.2.1,GS (d+1) s)/\x.2.2.2.2.2=h.2) ?_ ⟨fb _,.inr rfl,ui.refl hp,by simp,λs hs=>(by cases hs),rfl⟩;rintro⟨(i:Int),m',t',l,h'⟩ ⟨i0,i1,e1,e2,e3,z⟩;dsimp only at i0 i1 e1 e2 e3 z;refine aU (λx=>x.2=(m',t',l,h')/\(x.1=M->i<n)) ?_ ?_
 .refine aQ (λg=>aE (λ_=>ai ⟨rfl,λ_=>g⟩) λ_=>ai ⟨rfl,λ_=>g⟩) λ_=>ai ⟨rfl,λh=>(by cases h)⟩
 rintro⟨b,x⟩ ⟨I,F⟩;dsimp only at I F;subst I;refine aJ (λhb=>?_) λ_=>ai ⟨by dsimp only;omega,e3,e1,z⟩
 have g:=F hb;refine ar (ht m' t' h' e1.p (by rw[z];exact hh)) λy hy=>?_
 obtain⟨s,m2,t2,h2⟩:=y;obtain⟨k1,k2,D⟩:=hy;dsimp only at k1 k2 D;refine a_ (by simp) (aZ (by simp;omega) (by omega) (ai ?_));dsimp only;rw[eX,xW,gI (n:=i+1) (by omega) (by omega)];refine ⟨⟨by omega,by omega,e1.trans k2,by simp;omega,λx q=>?_,D.trans z⟩,by omega⟩;rcases bP.1 q with q|q
 .exact e3 x q
 .rw[aI]at q;subst q;exact k1
theorem Ww (rs:RS) (L:RT) (rb:RBk) (d:Nat) (hs:SpS rs d):SpB (mH rs L rb) d:=by
 intro s m t h hp hh;unfold mH aX bh bp cI bt aY;refine aZ (by simp;omega) (by omega) ?_;refine ar (gk 2 t hp) λy A=>?_
 obtain⟨k,t1⟩:=y;obtain⟨z,I,q,_⟩:=A;have q:=q (by decide);dsimp only at z I q;have ew:ba .i64 (1+k)=1+k:=gI (by omega) (by omega);dsimp only;rw[ew];refine ar (hs (1+k) m t1 (h.1,h.2++[s]) (by omega) z.p (by simp;omega)) λy A=>?_
 obtain⟨m2,t2,h2,l⟩:=y;obtain⟨k1,k2,F,D⟩:=A;dsimp only at k1 k2 F D;refine a_ (by simp) ?_;dsimp only;rw[D];have el:ba .i64 ((aT (h.2++[s]).length)-1)=(h.2.length:Int):=by
  rw[b7,c9,gI (by simp<;>omega) (by simp<;>omega)];simp<;>omega
 rw[el];refine cR (dv (by omega) (rA (by simp;omega) (ai ?_)));refine ⟨by dsimp only;omega,k2,z.trans F,?_⟩;show dj (aO (h.2.length:Int)) (h.2++[s])=h.2;simp
theorem Cc (s:ζ) (m:MK) (t:Oo) (h:HD) (hh:h.2.length<=100):Ok (eD (s,m,t,h)) λy=>y.2=(m,t,h):=by
 unfold eD cI;exact ar (AG h.2 s (by omega)) λy _=>ai rfl
theorem Zj (rs:RS) (rt:RT) (rb:RBk) (d:Nat) (hd:d<=5) (h0:1<=d->SpS rs 0) (hS:1<=d->SpS rs (d-1)) (hB:1<=d->SpB rb (d-1)):SpT (nP rs rt rb) d:=by
 intro m t h hp hh;unfold nP aX bh bm bp cI cD bg bA bt kM aB dY;refine ar (gk 18 t hp) λy A=>?_
 obtain⟨k,t1⟩:=y;obtain⟨s1,k0,k1,_⟩:=A;have k1:=k1 (by decide);dsimp only at s1 k0 k1;have hE:∀(j:Nat) (m':MK) (t':Oo) (h':HD),j<=1->TP t'->Ok (eV ((j:Int),m',t',h')) λy=>GE 4 y.1/\y.2.1=m'/\ui t' y.2.2.1/\y.2.2.2=h':=λj m' t' h' hj ht'=>(YQ j (by omega) m' t' h' ht').mono λy A=>⟨A.1.le (by omega),A.2⟩
 have ed:ba .i64 ((d:Int)-1)=(d:Int)-1:=gI (by omega) (by omega);have ed1:1<=d->(d:Int)-1=((d-1:Nat):Int):=λ_=>by omega
 refine aU (λx=>x.2=((m.1,ba .i64 (m.2.1-1),m.2.2),t1,(0,0,[],[],0,0,[]),h)/\(x.1=M->1<=d)) ?_ ?_
 .refine aQ (λg=>aV (aQ (λ_=>ai ⟨rfl,λ_=>?_⟩) λ_=>ai ⟨rfl,λh=>(by cases h)⟩)) λ_=>ai ⟨rfl,λh=>(by cases h)⟩
  dsimp only at g;omega
 generalize ((m.1,ba .i64 (m.2.1-1),m.2.2):MK)=m0;rintro⟨nest,x⟩ ⟨e,hn⟩;dsimp only at e hn;subst e;refine aQ (λ_=>?_) λg4=>?_
 .refine aK k0 (by dsimp only[ah];omega) (aK k0 (by dsimp only[ah];omega) (aV ?_));refine ar (hE 1 m0 t1 h (by omega) s1.p) λy A=>?_
  obtain⟨e,m2,t2,h2⟩:=y;obtain⟨v1,v2,v3,v4⟩:=A;dsimp only at v1 v2 v3 v4;subst v2;subst v4;refine a_ (by simp) (aS (td _ _) (ai ?_));dsimp only;rw[eX,xW];exact⟨GS.asg _ v1,s1.trans v3,rfl⟩
 dsimp only at g4;refine aE (λ_=>?_) λg5=>?_
 .refine ar (gk 2 t1 s1.p) λy A=>?_
  obtain⟨u1,u2,u3,_⟩:=A;have u3:=u3 (by decide);refine aK u2 u3 (aK u2 u3 (aV ?_));refine ar (hE 1 m0 y.2 h (by omega) u1.p) λz D=>?_
  obtain⟨e,m2,t2,h2⟩:=z;obtain⟨v1,v2,v3,v4⟩:=D;dsimp only at v1 v2 v3 v4;subst v2;subst v4;refine a_ (by simp) (aS (td _ _) (ai ?_));dsimp only;rw[eX,xW];exact⟨GS.asg _ v1,s1.trans (u1.trans v3),rfl⟩
 dsimp only at g5;refine aE (λ_=>?_) λg6=>?_
 .refine ar (hE 0 m0 t1 h (by omega) s1.p) λz D=>?_
  obtain⟨e,m2,t2,h2⟩:=z;obtain⟨v1,v2,v3,v4⟩:=D;dsimp only at v1 v2 v3 v4;subst v2;subst v4;refine a_ (by simp) ?_;refine ar (hE 1 m2 t2 h2 (by omega) v3.p) λz D=>?_
  obtain⟨e',m3,t3,h3⟩:=z;obtain⟨w1,w2,L,I⟩:=D;dsimp only at w1 w2 L I;subst w2;subst I;refine a_ (by simp) (ai ?_);dsimp only;rw[eX,eX];exact⟨GS.aix v1 w1,s1.trans (v3.trans L),rfl⟩
 dsimp only at g6;have D:∀(c:Prop),c->c:=λ_ h=>h
 have dd:1<=d->d-1+1=d:=λ_=>by omega
 have w8:8<=k->ba .i64 (k-8)=k-8:=λ_=>gI (by omega) (by omega)
 refine aU (λx=>x.2=(m0,t1,(0,0,[],[],0,0,[]),h)/\(x.1=M->1<=d)) ?_ ?_
 .refine aE (λ_=>ai ⟨rfl,λg=>?_⟩) λ_=>ai ⟨rfl,λh=>(by cases h)⟩
  dsimp only at g;rw[lQ]at g;omega
 rintro⟨b,x⟩ ⟨e,hb⟩;dsimp only at e hb;subst e;refine aJ (λq=>?_) λ_=>?_
 .have d1:=hb q;refine ar (hE 1 m0 t1 h (by omega) s1.p) λz D=>?_
  obtain⟨e,m2,t2,h2⟩:=z;obtain⟨v1,v2,v3,v4⟩:=D;dsimp only at v1 v2 v3 v4;subst v2;subst v4;refine a_ (by simp) ?_;dsimp only;rw[ed,ed1 d1];refine ar (hS d1 1 m2 t2 h2 (by omega) v3.p (by omega)) λz D=>?_
  obtain⟨m3,t3,h3,l⟩:=z;obtain⟨w1,w2,L,I⟩:=D;dsimp only at w1 w2 L I;rw[dd d1]at w2;refine a_ (by simp) ?_;refine aU (λx=>x.2.2.2.1=(2,0,[],[],e.op,e.n,e.name,e.l)/\ui t1 x.2.1/\x.2.2.2.2.1.2=h2.2/\x.2.2.2.2.2.1=l/\x.2.2.2.2.2.2.length<=8/\∀s∈x.2.2.2.2.2.2,GS d s) ?_ ?_
  .refine ar (gk 2 t3 L.p) λy A=>?_
   refine aE (λ_=>?_) λ_=>ai ⟨rfl,v3.trans (L.trans A.1),I,rfl,by simp,λs hs=>(by cases hs)⟩
   dsimp only;refine ar (hS d1 1 m3 y.2 h3 (by omega) A.1.p (by rw[I];omega)) λz D=>?_
   obtain⟨m4,t4,h4,l2⟩:=z;obtain⟨x1,x2,x3,x4⟩:=D;dsimp only at x1 x2 x3 x4;rw[dd d1]at x2;exact a_ (by simp) (ai ⟨rfl,v3.trans (L.trans (A.1.trans x3)),x4.trans I,rfl,by dsimp only;omega,x2⟩)
  rintro⟨m5,t5,z5,e5,h5,l5,l6⟩ ⟨x1,x2,x3,x4,x5,x6⟩;dsimp only at x1 x2 x3 x4 x5 x6;subst x1;subst x4;refine ai ?_;dsimp only;rw[eX];exact⟨GS.we v1 (by first|omega|(dsimp only;omega)) x5 w2 x6,s1.trans x2,x3⟩
 refine aU (λx=>x.2=(m0,t1,(0,0,[],[],0,0,[]),h)/\(x.1=M->1<=d)) ?_ ?_
 .refine aE (λ_=>ai ⟨rfl,λg=>?_⟩) λ_=>ai ⟨rfl,λh=>(by cases h)⟩
  dsimp only at g;rw[lQ]at g;omega
 rintro⟨b,x⟩ ⟨e,hb⟩;dsimp only at e hb;subst e;refine aJ (λq=>?_) λ_=>?_
 .have d1:=hb q;refine aS (G5 _) (aS (Nc _) (aS (Eo _ _ _) ?_));dsimp only;rw[ed,ed1 d1];refine ar (hS d1 1 _ t1 h (by omega) s1.p (by omega)) λz D=>?_
  obtain⟨m3,t3,h3,l⟩:=z;obtain⟨w1,w2,L,I⟩:=D;dsimp only at w1 w2 L I;rw[dd d1]at w2;refine a_ (by simp) ?_;refine aS (G5 _) (aS (Nc _) (aS (Eo _ _ _) (aS (td _ _) ?_)));refine aZ (by simp;omega) (by omega) (ai ?_);dsimp only;rw[eX,eX,xW];refine ⟨GS.we (GE.bin (by omega) (GE.nm _ 2) (GE.num _ 2)) (by simp;omega) (by simp) (λx F=>?_) (λx F=>(by cases F)),s1.trans L,I⟩;rcases bP.1 F with F|F
  .exact w2 x F
  .rw[aI]at F;subst F;rw[<- dd d1];exact GS.asg _ (GE.bin (by omega) (GE.nm _ 2) (GE.num _ 2))
 refine aU (λx=>x.2=(m0,t1,(0,0,[],[],0,0,[]),h)/\(x.1=M->nest=M/\(k=8\/k=9))) ?_ ?_
 .refine aE (λg=>aJ (λgn=>?_) λ_=>ai ⟨rfl,λh=>(by cases h)⟩) λ_=>aE (λg=>aJ (λgn=>?_) λ_=>ai ⟨rfl,λh=>(by cases h)⟩) λ_=>ai ⟨rfl,λh=>(by cases h)⟩
  all_goals
   dsimp only at g ⊢;rw[w8 (by omega)];refine aK (by omega) (by simp;omega) (aK (by omega) (by simp;omega) (aV ?_));refine ar (Cc _ m0 t1 h (by omega)) λy A=>?_
   obtain⟨yb,y2⟩:=y;dsimp only at A;subst A;exact a_ (by simp) (ai ⟨rfl,λ_=>⟨gn,by omega⟩⟩)
 rintro⟨b,x⟩ ⟨e,hb⟩;dsimp only at e hb;subst e;refine aJ (λq=>?_) λ_=>?_
 .obtain⟨q1,q2⟩:=hb q;have d1:=hn q1;dsimp only;rw[w8 (by omega),ed,ed1 d1];refine aK (by omega) (by simp;omega) (aK (by omega) (by simp;omega) (aV ?_));refine ar (hB d1 _ m0 t1 h s1.p (by omega)) λz D=>?_
  obtain⟨l,m3,t3,h3⟩:=z;obtain⟨w1,w2,L,I⟩:=D;dsimp only at w1 w2 L I;rw[dd d1]at w2;exact a_ (by simp) (ai ⟨GS.wo (by omega) (by first|omega|(dsimp only;omega)) w2,s1.trans L,I⟩)
 refine aU (λx=>x.2=(m0,t1,(0,0,[],[],0,0,[]),h)/\(x.1=M->nest=M/\(k=10\/k=11))) ?_ ?_
 .refine aE (λg=>aJ (λgn=>?_) λ_=>ai ⟨rfl,λh=>(by cases h)⟩) λ_=>aE (λg=>aJ (λgn=>?_) λ_=>ai ⟨rfl,λh=>(by cases h)⟩) λ_=>ai ⟨rfl,λh=>(by cases h)⟩
  all_goals
   dsimp only at g ⊢;refine ar (Cc _ m0 t1 h (by omega)) λy A=>?_
   obtain⟨yb,y2⟩:=y;dsimp only at A;subst A;exact a_ (by simp) (ai ⟨rfl,λ_=>⟨gn,by omega⟩⟩)
 rintro⟨b,x⟩ ⟨e,hb⟩;dsimp only at e hb;subst e;refine aJ (λq=>?_) λ_=>?_
 .obtain⟨q1,q2⟩:=hb q;have d1:=hn q1;dsimp only;rw[ed,ed1 d1,gI (n:=k-10) (by omega) (by omega),gI (n:=k-10+5) (by omega) (by omega)];refine ar (hB d1 _ m0 t1 h s1.p (by omega)) λz D=>?_
  obtain⟨l,m3,t3,h3⟩:=z;obtain⟨w1,w2,L,I⟩:=D;dsimp only at w1 w2 L I;rw[dd d1]at w2;exact a_ (by simp) (ai ⟨GS.wo (by omega) (by first|omega|(dsimp only;omega)) w2,s1.trans L,I⟩)
 refine aU (λx=>x.2=(m0,t1,(0,0,[],[],0,0,[]),h)/\(x.1=M->nest=M)) ?_ ?_
 .exact aE (λ_=>ai ⟨rfl,λg=>g⟩) λ_=>ai ⟨rfl,λh=>(by cases h)⟩
 rintro⟨b,x⟩ ⟨e,hb⟩;dsimp only at e hb;subst e;refine aJ (λq=>?_) λ_=>?_
 .have d1:=hn (hb q);refine ar (gk 2 t1 s1.p) λy A=>?_
  obtain⟨u1,u2,u3,_⟩:=A;have u3:=u3 (by decide);dsimp only;rw[gI (n:=1+y.1) (by omega) (by omega)];refine ar (h0 d1 (1+y.1) _ y.2 h (by omega) u1.p (by omega)) λz D=>?_
  obtain⟨m3,t3,h3,l⟩:=z;obtain⟨w1,w2,L,I⟩:=D;dsimp only at w1 w2 L I;exact a_ (by simp) (ai ⟨GS.wo (by omega) (by first|omega|(dsimp only;omega)) (λx F=>(w2 x F).le (by omega)),s1.trans (u1.trans L),I⟩)
 refine aU (λx=>x.2=(m0,t1,(0,0,[],[],0,0,[]),h)/\(x.1=M->nest=M)) ?_ ?_
 .exact aE (λ_=>aJ (λgn=>ai ⟨rfl,λ_=>gn⟩) λ_=>ai ⟨rfl,λh=>(by cases h)⟩) λ_=>ai ⟨rfl,λh=>(by cases h)⟩
 rintro⟨b,x⟩ ⟨e,hb⟩;dsimp only at e hb;subst e;refine aJ (λq=>?_) λ_=>?_
 .have d1:=hn (hb q);dsimp only;rw[ed,ed1 d1];refine ar (hS d1 2 _ t1 h (by omega) s1.p (by omega)) λz D=>?_
  obtain⟨m3,t3,h3,l⟩:=z;obtain⟨w1,w2,L,I⟩:=D;dsimp only at w1 w2 L I;rw[dd d1]at w2;exact a_ (by simp) (ai ⟨GS.wo (by omega) (by first|omega|(dsimp only;omega)) w2,s1.trans L,I⟩)
 refine aU (λx=>x.2=(m0,t1,(0,0,[],[],0,0,[]),h)/\(x.1=M->nest=M)) ?_ ?_
 .refine aE (λ_=>aJ (λgn=>aJ (λ_=>?_) λ_=>ai ⟨rfl,λh=>(by cases h)⟩) λ_=>ai ⟨rfl,λh=>(by cases h)⟩) λ_=>ai ⟨rfl,λh=>(by cases h)⟩
  refine ar (Cc _ m0 t1 h (by omega)) λy A=>?_
  obtain⟨yb,y2⟩:=y;dsimp only at A;subst A;exact a_ (by simp) (ai ⟨rfl,λ_=>gn⟩)
 rintro⟨b,x⟩ ⟨e,hb⟩;dsimp only at e hb;subst e;refine aJ (λq=>?_) λ_=>?_
 .have d1:=hn (hb q);refine aS (G5 _) (aS (td _ _) (ai ?_));dsimp only;rw[eX,xW];refine ⟨GS.wo (by omega) (by simp) (λx F=>?_),s1,rfl⟩;simp only[bx,cH,gK]at F;rw[<- dd d1];rcases F with rfl|rfl
  .exact GS.wo (by omega) (by simp) (λx F=>(by cases F))
  .exact GS.asg _ (GE.nm _ 3)
 refine aU (λx=>x.2=(m0,t1,(0,0,[],[],0,0,[]),h)/\(x.1=M->nest=M)) ?_ ?_
 .refine aE (λ_=>aJ (λgn=>?_) λ_=>ai ⟨rfl,λh=>(by cases h)⟩) λ_=>ai ⟨rfl,λh=>(by cases h)⟩
  refine ar (Cc _ m0 t1 h (by omega)) λy A=>?_
  obtain⟨yb,y2⟩:=y;dsimp only at A;subst A;exact a_ (by simp) (ai ⟨rfl,λ_=>gn⟩)
 rintro⟨b,x⟩ ⟨e,hb⟩;dsimp only at e hb;subst e;refine aJ (λq=>?_) λ_=>?_
 .have d1:=hn (hb q);refine ar (gk 2 t1 s1.p) λy A=>ai ?_
  obtain⟨u1,u2,u3,_⟩:=A;have u3:=u3 (by decide);dsimp only;rw[gI (n:=10+y.1) (by omega) (by omega)];refine ⟨GS.wo (by omega) (by simp) (λx F=>?_),s1.trans u1,rfl⟩;simp only[bx,cH,gK]at F;rw[F,<-dd d1];exact GS.wo (by omega) (by simp) (λx F=>(by cases F))
 refine aU (λx=>x.2=(m0,t1,(0,0,[],[],0,0,[]),h)) ?_ ?_
 .exact aE (λ_=>aJ (λ_=>aJ (λ_=>ai rfl) λ_=>ai rfl) λ_=>ai rfl) λ_=>ai rfl
 rintro⟨b,x⟩ e;dsimp only at e;subst e;refine aJ (λq=>?_) λ_=>?_
 .refine ar (hE 1 _ t1 h (by omega) s1.p) λz D=>?_
  obtain⟨e,m2,t2,h2⟩:=z;obtain⟨v1,v2,v3,v4⟩:=D;dsimp only at v1 v2 v3 v4;subst v2;subst v4;refine a_ (by simp) (ai ?_);dsimp only;rw[eX];exact⟨GS.we v1 (by simp) (by simp) (λx F=>(by cases F)) (λx F=>(by cases F)),s1.trans v3,rfl⟩
 refine aU (λx=>x.2.1=m0/\ui t1 x.2.2.1/\x.2.2.2.2=h) ?_ ?_
 .refine aE (λ_=>aJ (λ_=>?_) λ_=>ai ⟨rfl,ui.refl s1.p,rfl⟩) λ_=>ai ⟨rfl,ui.refl s1.p,rfl⟩
  exact ar (gk 2 t1 s1.p) λy A=>ai ⟨rfl,A.1,rfl⟩
 rintro⟨b,m9,t9,z9,h9⟩ ⟨e1,e2,e3⟩;dsimp only at e1 e2 e3;subst e1;subst e3;refine aJ (λq=>?_) λ_=>?_
 .exact ai ⟨GS.wo (by omega) (by simp) (λx F=>(by cases F)),s1.trans e2,rfl⟩
 refine ar (hE 1 _ t9 h9 (by omega) e2.p) λz D=>?_
 obtain⟨e,m2,t2,h2⟩:=z;obtain⟨v1,v2,v3,v4⟩:=D;dsimp only at v1 v2 v3 v4;subst v2;subst v4;refine a_ (by simp) (aS (td _ _) (ai ?_));dsimp only;rw[eX,xW];exact⟨GS.asg _ v1,s1.trans (e2.trans v3),rfl⟩
theorem Mh:∀(n:Nat),(∀d:Nat,d<=5->3*d+1<=n->SpT (eo n) d)/\(∀d:Nat,d<=5->3*d+2<=n->SpS (dF n) d)/\(∀d:Nat,d<=5->3*d+3<=n->SpB (dX n) d)
 |0=>⟨λd _ h=>by omega,λd _ h=>by omega,λd _ h=>by omega⟩
 |n+1=>by
  obtain⟨s,q,z⟩:=Mh n;refine ⟨λd h1 h2=>?_,λd h1 h2=>?_,λd h1 h2=>?_⟩
  .exact Zj (dF n) (eo n) (dX n) d h1 (λh=>q 0 (by omega) (by omega)) (λh=>q (d-1) (by omega) (by omega)) (λh=>z (d-1) (by omega) (by omega))
  .exact Wu (dF n) (eo n) (dX n) d (s d h1 (by omega))
  .exact Ww (dF n) (eo n) (dX n) d (q d h1 (by omega))
theorem V_ (d:Nat) (hd:d<=5):SpS qb d:=(Mh fuel).2.1 d hd (by rw[qk];omega)
def GX:Nat->Xp->Prop
 |0,_=>False
 |d+1,e=>e.l.length<=2/\∀x∈e.l,GX d x
theorem GE.x:∀{d:Nat} {e:Xp},GE d e->GX d e
 |0,_,h=>h.elim
 |_+1,_,h=>⟨h.2.2.1,λx q=>(h.2.2.2 x q).x⟩
theorem ZE.x {e:Xp} (h:ZE e):GX 4 e:=by
 rcases h with h|rfl
 .exact h.x
 .exact⟨by simp[Xp.l],λx d=>(by cases d)⟩
def GT:Nat->Sx->Prop
 |0,_=>False
 |d+1,s=>s.index.length<=1/\(∀e∈s.index,GX 4 e)/\GX 4 s.expr/\s.body.length<=8/\s.els.length<=8/\(∀x∈s.body,GT d x)/\(∀x∈s.els,GT d x)
theorem GS.t:∀{d:Nat} {s:Sx},GS d s->GT d s
 |0,_,h=>h.elim
 |_+1,_,⟨_,b,c,_,f,g,i,j,k⟩=>⟨b,λe he=>(c e he).x,f.x,g,i,λx q=>(j x q).t,λx q=>(k x q).t⟩
theorem xN (s:Sx):oA (Sx.op s,Sx.line s,Sx.name s,Sx.arg s,Sx.index s,d9 (Xp.op (Sx.expr s),Xp.n (Sx.expr s),Xp.name (Sx.expr s),Xp.l (Sx.expr s)),Sx.body s,Sx.els s)=s:=by
 rw[eX,xW]
theorem RC (k:Int):Ok (ov k) λ_=>True:=by
 unfold ov bg ji aB;with_reducible repeat' first|(refine OS.ok ?_;constructor)|refine IM.mk λ_=>?_
 all_goals trivial
theorem qu (e:Xp):Ok (qT e) λ_=>True:=by
 unfold qT bg aB;with_reducible repeat' first|(refine OS.ok ?_;constructor)|refine IM.mk λ_=>?_
 all_goals trivial
theorem yC:∀(n d:Nat) (e:Xp),d<n->GX d e->Ok (jh n e) λ_=>True
 |0,_,_,h,_=>by omega
 |n+1,0,_,_,h=>h.elim
 |n+1,d+1,e,hn,h=>by
  obtain⟨h1,h2⟩:=h;rw[yw];unfold oV bg bA iT bJ cM aB cw;refine aU (λx=>x.2=e) (aE (λ_=>ai (eX e)) λ_=>ai (eX e)) ?_;rintro⟨b,x⟩ s;dsimp only at s;subst s;refine aU (λy=>y.2=x) ?_ ?_
  .refine ar (RC _) λ_ _=>?_
   with_reducible repeat' first|refine bY (λ_=>?_) λ_=>?_|refine aQ (λ_=>?_) λ_=>?_|refine cV (λ_=>?_) λ_=>?_|refine aJ (λ_=>?_) λ_=>?_|exact ai (eX x)|refine ar (iu _) λ_ _=>?_
  rintro⟨A,y⟩ q;dsimp only at q;subst q;refine aJ (λ_=>ai trivial) λ_=>?_
  refine b9 y.l.length (λi x=>x.1=(i:Int)/\x.2=y) ?_ ?_ ⟨rfl,eX y⟩
  .rintro i ⟨a,z⟩ hi ⟨e1,e2⟩;dsimp only at e1 e2;subst e1;subst e2;refine aQ (λ_=>?_) λg=>(by dsimp only[aj]at g;omega)
   refine aK (by dsimp only;omega) (by dsimp only;omega) (aV ?_);refine ar (yC n d _ (by omega) (h2 _ (bG (T:=.ex) (xs:=z.l) (j:=(i:Int)) (by omega) (by omega)))) λ_ _=>?_
   refine cV (λ_=>ai trivial) λ_=>ai ?_
   dsimp only;exact⟨fo (by omega),eX z⟩
  .rintro⟨a,z⟩ ⟨e1,e2⟩;dsimp only at e1 e2;subst e1;subst e2;exact aQ (λg=>(by dsimp only[aj]at g;omega)) λ_=>ai trivial
theorem f_ (e:Xp) (h:GX 4 e):Ok (j_ e) λ_=>True:=yC fuel 4 e (by rw[qk];omega) h
theorem Ky (d:Int×Int×ζ×Int×Int×ζ):Ok (ma d) λ_=>True:=by
 unfold ma aX bh bT dC bg bA iT aB;refine aU (λ_=>True) ?_ λx _=>aJ (λ_=>ai trivial) λ_=>?_
 .with_reducible repeat' first|refine bY (λ_=>?_) λ_=>?_|refine aQ (λ_=>?_) λ_=>?_|refine cV (λ_=>?_) λ_=>?_|exact ai trivial|refine ar (iu _) λ_ _=>?_
 refine aU (λ_=>True) ?_ λx _=>aJ (λ_=>ai trivial) λ_=>?_
 .with_reducible repeat' first|refine bY (λ_=>?_) λ_=>?_|refine aE (λ_=>?_) λ_=>?_|refine cV (λ_=>?_) λ_=>?_|exact ai trivial|refine ar (iu _) λ_ _=>?_
 with_reducible repeat' first|(refine OS.ok ?_;constructor)|refine IM.mk λ_=>?_
 all_goals trivial
theorem Gg (d:Sx->J Bool) (rs:Y Sx->J Bool) (l:Y Sx) (hl:l.length<=1000) (h:∀s∈l,Ok (d s) λ_=>True):Ok (nO d rs l) λ_=>True:=by
 unfold nO bA mq aY cM aB cw;refine b9 l.length (λi x=>x=(i:Int)) ?_ ?_ rfl
 .rintro i x hi rfl;refine aQ (λ_=>?_) λg=>(by dsimp only[aj]at g;omega)
  refine aK (by omega) (by omega) ?_;refine ar (h _ (bG (T:=.sm) (xs:=l) (j:=(i:Int)) (by omega) (by omega))) λ_ _=>?_
  exact cV (λ_=>ai trivial) λ_=>ai (fo (by omega))
 .rintro x rfl;exact aQ (λg=>(by dsimp only[aj]at g;omega)) λ_=>ai trivial
theorem IF (q:Sx->J Bool) (rs:Y Sx->J Bool) (s:Sx) (h1:∀e∈s.index,GX 4 e) (h2:GX 4 s.expr) (hb:Ok (rs s.body) λ_=>True) (he:Ok (rs s.els) λ_=>True):Ok (oU q rs s) λ_=>True:=by
 unfold oU bg bA ji iT bJ aB dY;refine aU (λx=>x.2=s) ?_ ?_
 .with_reducible repeat' first|refine bY (λ_=>?_) λ_=>?_|refine aE (λ_=>?_) λ_=>?_|refine aQ (λ_=>?_) λ_=>?_|refine dV (λ_=>?_) λ_=>?_|refine cV (λ_=>?_) λ_=>?_|refine aJ (λ_=>?_) λ_=>?_|exact ai (xN _)|refine ar (iu _) λ_ _=>?_|refine ar (qu _) λ_ _=>?_|refine ar (f_ _ h2x) λ_ _=>?_
 rintro⟨b,x⟩ d;dsimp only at d;have d:=d.symm;subst d;refine aJ (λ_=>ai trivial) λ_=>?_
 refine aU (λx=>x.2=s) ?_ ?_
 .with_reducible repeat' first|refine bY (λ_=>?_) λ_=>?_|refine aE (λ_=>?_) λ_=>?_|refine aQ (λ_=>?_) λ_=>?_|refine dV (λ_=>?_) λ_=>?_|refine cV (λ_=>?_) λ_=>?_|refine aJ (λ_=>?_) λ_=>?_|exact ai (xN _)|refine ar (iu _) λ_ _=>?_|refine ar (qu _) λ_ _=>?_|refine ar (f_ _ h2x) λ_ _=>?_
 rintro⟨b,x⟩ d;dsimp only at d;have d:=d.symm;subst d;refine aU (λx=>x.2=s) ?_ ?_
 .with_reducible repeat' first|refine bY (λ_=>?_) λ_=>?_|refine aE (λ_=>?_) λ_=>?_|refine aQ (λ_=>?_) λ_=>?_|refine dV (λ_=>?_) λ_=>?_|refine cV (λ_=>?_) λ_=>?_|refine aJ (λ_=>?_) λ_=>?_|exact ai (xN _)|refine ar (iu _) λ_ _=>?_|refine ar (qu _) λ_ _=>?_|refine ar (f_ _ h2x) λ_ _=>?_
 rintro⟨b,x⟩ d;dsimp only at d;have d:=d.symm;subst d;refine aJ (λ_=>ai trivial) λ_=>?_
 refine aU (λx=>x.2=s) ?_ ?_
 .with_reducible repeat' first|refine bY (λ_=>?_) λ_=>?_|refine aE (λ_=>?_) λ_=>?_|refine aQ (λ_=>?_) λ_=>?_|refine dV (λ_=>?_) λ_=>?_|refine cV (λ_=>?_) λ_=>?_|refine aJ (λ_=>?_) λ_=>?_|exact ai (xN _)|refine ar (iu _) λ_ _=>?_|refine ar (qu _) λ_ _=>?_|refine ar (f_ _ h2x) λ_ _=>?_
 rintro⟨b,x⟩ d;dsimp only at d;have d:=d.symm;subst d;refine aJ (λ_=>ai trivial) λ_=>?_
 refine aU (λx=>x.2=s) ?_ ?_
 .with_reducible repeat' first|refine bY (λ_=>?_) λ_=>?_|refine aE (λ_=>?_) λ_=>?_|refine aQ (λ_=>?_) λ_=>?_|refine dV (λ_=>?_) λ_=>?_|refine cV (λ_=>?_) λ_=>?_|refine aJ (λ_=>?_) λ_=>?_|exact ai (xN _)|refine ar (iu _) λ_ _=>?_|refine ar (qu _) λ_ _=>?_|refine ar (f_ _ h2x) λ_ _=>?_
  all_goals
   rename_i g;dsimp only[aj]at g;refine aK (by omega) (by dsimp only;omega) (aV ?_);refine ar (f_ _ (h1 _ (bG (T:=.ex) (xs:=Sx.index _) (j:=0) (by omega) (by omega)))) λ_ _=>ai (xN _)
 rintro⟨b,x⟩ d;dsimp only at d;have d:=d.symm;subst d;refine aJ (λ_=>ai trivial) λ_=>?_
 refine aU (λx=>x.2=s) ?_ ?_
 .with_reducible repeat' first|refine bY (λ_=>?_) λ_=>?_|refine aE (λ_=>?_) λ_=>?_|refine aQ (λ_=>?_) λ_=>?_|refine dV (λ_=>?_) λ_=>?_|refine cV (λ_=>?_) λ_=>?_|refine aJ (λ_=>?_) λ_=>?_|exact ai (xN _)|refine ar (iu _) λ_ _=>?_|refine ar (qu _) λ_ _=>?_|refine ar (f_ _ h2x) λ_ _=>?_
 rintro⟨b,x⟩ d;dsimp only at d;have d:=d.symm;subst d;refine aU (λx=>x.2=s) ?_ ?_
 .have h2x:GX 4 (d9 (Xp.op (Sx.expr s),Xp.n (Sx.expr s),Xp.name (Sx.expr s),Xp.l (Sx.expr s))):=by rw[eX];exact h2
  with_reducible repeat' first|refine bY (λ_=>?_) λ_=>?_|refine aE (λ_=>?_) λ_=>?_|refine aQ (λ_=>?_) λ_=>?_|refine dV (λ_=>?_) λ_=>?_|refine cV (λ_=>?_) λ_=>?_|refine aJ (λ_=>?_) λ_=>?_|exact ai (xN _)|refine ar (iu _) λ_ _=>?_|refine ar (qu _) λ_ _=>?_|refine ar (f_ _ h2x) λ_ _=>?_
 rintro⟨b,x⟩ d;dsimp only at d;have d:=d.symm;subst d;refine aJ (λ_=>ai trivial) λ_=>?_
 refine aU (λx=>x.2=s) ?_ ?_
 .with_reducible repeat' first|refine bY (λ_=>?_) λ_=>?_|refine aE (λ_=>?_) λ_=>?_|refine aQ (λ_=>?_) λ_=>?_|refine dV (λ_=>?_) λ_=>?_|refine cV (λ_=>?_) λ_=>?_|refine aJ (λ_=>?_) λ_=>?_|exact ai (xN _)|refine ar (iu _) λ_ _=>?_|refine ar (qu _) λ_ _=>?_|refine ar (f_ _ h2x) λ_ _=>?_
 rintro⟨b,x⟩ d;dsimp only at d;have d:=d.symm;subst d;refine aU (λx=>x.2=s) ?_ ?_
 .with_reducible repeat' first|refine bY (λ_=>?_) λ_=>?_|refine aE (λ_=>?_) λ_=>?_|refine aQ (λ_=>?_) λ_=>?_|refine dV (λ_=>?_) λ_=>?_|refine cV (λ_=>?_) λ_=>?_|refine aJ (λ_=>?_) λ_=>?_|exact ai (xN _)|refine ar (iu _) λ_ _=>?_|refine ar (qu _) λ_ _=>?_|refine ar (f_ _ h2x) λ_ _=>?_
 rintro⟨b,x⟩ d;dsimp only at d;have d:=d.symm;subst d;refine aJ (λ_=>ai trivial) λ_=>?_
 refine aU (λ_=>True) ?_ λ_ _=>ai trivial
 refine ar hb λ_ _=>aJ (λ_=>ar he λ_ _=>ai trivial) λ_=>ai trivial
theorem IL:∀(n:Nat),(∀(d:Nat) (s:Sx),2*d<n->GT d s->Ok (hZ n s) λ_=>True)/\(∀(d:Nat) (l:Y Sx),2*d+1<n->l.length<=1000->(∀s∈l,GT d s)->Ok (fA n l) λ_=>True)
 |0=>⟨λd _ h=>by omega,λd _ h=>by omega⟩
 |n+1=>by
  obtain⟨z,q⟩:=IL n;refine ⟨λd s hd h=>?_,λd l hd hl h=>?_⟩
  .cases d with
   |zero=>exact h.elim
   |succ d=>
    obtain⟨_,I,F,g4,L,D,A⟩:=h;exact IF (hZ n) (fA n) s I F (q d _ (by omega) (by omega) D) (q d _ (by omega) (by omega) A)
  .exact Gg (hZ n) (fA n) l hl λs hs=>z d s (by omega) (h s hs)
theorem J4 (d:Nat) (hd:d<=100) (l:Y Sx) (hl:l.length<=1000) (h:∀s∈l,GT d s):Ok (qU l) λ_=>True:=(IL fuel).2 d l (by rw[qk];omega) hl h
end
end Go.Proofs.YtiaemgcbndhkfaaGreatDoor.AI
