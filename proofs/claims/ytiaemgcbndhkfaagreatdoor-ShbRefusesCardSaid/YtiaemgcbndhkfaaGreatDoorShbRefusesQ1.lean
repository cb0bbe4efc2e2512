/-
  Texts of the proof, part 2 of 6: what is used to prove the statement. No condition.
-/
import Derived.Test.YtiaemgcbndhkfaaGreatDoorShbRefusesQ0
namespace Go.Proofs.YtiaemgcbndhkfaaGreatDoor.AI
open Go.RowKit
set_option maxRecDepth 100000
set_option maxHeartbeats 4000000
set_option linter.unusedVariables false
set_option linter.unusedSimpArgs false
open _root_.Bool renaming true→M,false→aa
open _root_.Int renaming ofNat_eq_natCast→aj,reduceEq→aN,toNat→aP,reduceNeg→aS,ofNat→aU,toNat_natCast→cO,le_trans→eX,max_le→xd
open _root_.List renaming length→ah,replicate→aA,length_cons→cf,take→cM,length_singleton→cS,range→fm,cons_append→gZ,length_nil→jX,take_succ_cons→vb,getElem_of_mem→ve,foldl_cons→EB,mem_or_eq_of_mem_set→LI
open _root_.Nat renaming beq→aw,blt→eS
open _root_.Option renaming some→Z,none→U,map_some→bU,getD_some→uo
open _root_.Prod renaming p2→aV,p3→ba,p4→bk,q3→bn,p5→bO,q5→ci,q4→cC,p6→cU,q6→dx,p7→fM,q7→gI,q8→lB,p8→ry,p10→ub,p9→um,p11→ze,q9→GZ,q11→Kj
open _root_.Sum renaming inr→bZ,inl→oL
noncomputable section
abbrev Kd0:Ty:=(.st (.pr kM (.pr kM (.pr kM (.pr kM (.pr kM (.pr kM (.pr (.sl aM) (.pr kM (.sl aM))))))))))
abbrev Kd1:Ty:=(.st (.pr .bool .bool))
abbrev V0:=((Y η)×(Y η)×(Y η)×(Y η)×(Y η)×(Y η)×(η)×(Y η)×η)
abbrev Yd1:=(η×(Y η)×(Y η)×(Y η)×(Y η)×(Y η)×(Y η)×(Y η)×(η)×η)
abbrev Yk:=(Int×(θ)×Y dI)
abbrev Yd3:=(Int×iI×(θ)×Y dI)
abbrev Yd4:=(Int×nz×mr×(Y jC)×dj×dj×Y ν)
abbrev Yd5:=(eP×Int×Int×Int×Int×Int×(η)×η)
abbrev Xv:=(Y Γ)
def LS {α R:Type} [DecidableEq α] (a b:α) (r:J R):J R:=if a=b then r else U
theorem Pf {α R:Type} [DecidableEq α] (a b:α) (r:J R):LS a b r=same a b r:=by unfold LS same;by_cases h:a=b<;>simp[h]
theorem Pe {α R:Type} [DecidableEq α] {a b:α} (h:a=b) (r:J R):LS a b r=r:=by unfold LS;rw[aT h]
def iS (x:η×Int):J (Int):=
 (jn (bx x.2 0 (aB M) (aB (cP (aY x.1) x.2))) λx1=>(aF x1 (Z 0) (l8 x.2 x.1 (Z (aG (T:=aM) x.1 x.2)))))
def uF (it:xT) (x:η×η):J η:=
 (bo (cP 0 (lq (aY x.1) (aY x.2))&&cP (lq (aY x.1) (aY x.2)) (lq (aY x.1) (aY x.2))&&bc (aP (lq (aY x.1) (aY x.2))) 8) (it (Int×η) _ (λx1=>(bx x1.1 (aU (ah (aA (aP (lq (aY x.1) (aY x.2))) (0:Int)))) (av (iS (x.1,x1.1)) λq=>(av (iS (x.2,x1.1)) λd=>(ck (e9 x1.1 (ah x1.2)) (cI ((cu x1.1),(cj x1.2 x1.1 (lq q d))))))) (aB x1.2))) (0,(aA (aP (lq (aY x.1) (aY x.2))) (0:Int)))))
def yg (x:η×η):J η:=uF @iter x
def jv (x:η×η):J η:=uF @fR x
def Nu (x:η):J η:=
 (aF (aw (ah x) 0) (El (Z ([]:η)) (bo (bc (ah ([]:η)+ah x) 8) (Z (([]:η)++x)))) (bo (bc (ah ([]:η)+ah x) 8) (Z (([]:η)++x))))
def wy (x:η):J η:=chk (bc (ah x) 8) λ_=>Z x
def wF (it:xT) (x:Y η):J (Y η):=
 (bo (cP 0 (aY x)&&cP (aY x) (aY x)&&bc (aP (aY x)) 24) (it (Int×Y η) _ (λx1=>(bx x1.1 (aY x) (l8 x1.1 x (av (wy (aG (T:=(.sl aM)) x x1.1)) λd=>(ck (e9 x1.1 (ah x1.2)) (cI ((cu x1.1),(cj x1.2 x1.1 d)))))) (aB x1.2))) (0,(aA (aP (aY x)) ([]:η)))))
def AR (x:Y η):J (Y η):=wF @iter x
def ij (x:Y η):J (Y η):=wF @fR x
def H7 (x:η):J η:=
 (aF (aw (ah x) 0) (El (Z ([]:η)) (bo (bc (ah ([]:η)+ah x) 8) (Z (([]:η)++x)))) (bo (bc (ah ([]:η)+ah x) 8) (Z (([]:η)++x))))
def gg (x:η):J η:=chk (bc (ah x) 8) λ_=>Z x
def q_ (x:(Y η)×(Y η)×(Y η)×(Y η)×(Y η)×(Y η)×(η)×(Y η)×η):J (η×(Y η)×(Y η)×(Y η)×(Y η)×(Y η)×(Y η)×(Y η)×η):=
 (av (ij x.1) λL=>(av (ij x.2.1) λI=>(av (ij x.p2) λF=>(av (ij x.p3) λD=>(av (ij x.p4) λA=>(av (ij x.p5) λz=>(av (gg x.p6) λs=>(av (ij x.p7) λq=>(av (gg x.q8) λd=>(Z (s,L,I,F,D,A,z,q,d)))))))))))
def s_ (x:Int×Y η):J (η×Y η):=
 (jn (bx x.1 0 (aB (M,x.2)) (aB ((cP (aY x.2) x.1),x.2))) λx1=>(aF x1.1 (Z (([]:η),x1.2)) (ck (e9 x.1 (ah x1.2)) (Z ((aG (T:=(.sl aM)) x1.2 x.1),x1.2)))))
def rc (x:jD×(η)×eP×(Y η)×(Y η)×(Y η)×(Y η)×(Y η)×(Y η)×(Y η)×η):J ((Y η)×jD×(η)×eP×(Y η)×(Y η)×(Y η)×(Y η)×(Y η)×(Y η)×(Y η)×η):=
 (bf x.1.2.1 1 (ck (e9 x.1.1 (ah x.p4)) (Z ([(aG (T:=(.sl aM)) x.p4 x.1.1)],(x.1.1,x.1.2.1,x.1.p2,x.1.p3,x.1.p4,x.1.p5,x.1.q6),x.2.1,(x.p2.1,x.p2.2.1,x.p2.p2,x.p2.p3,x.p2.p4,x.p2.q5),x.p3,x.p4,x.p5,x.p6,x.p7,x.p8,x.p9,x.q10))) (bf x.1.2.1 21 (ck (e9 x.1.p2 (ah x.p3)) (Z ([(aG (T:=(.sl aM)) x.p3 x.1.p2)],(x.1.1,x.1.2.1,x.1.p2,x.1.p3,x.1.p4,x.1.p5,x.1.q6),x.2.1,(x.p2.1,x.p2.2.1,x.p2.p2,x.p2.p3,x.p2.p4,x.p2.q5),x.p3,x.p4,x.p5,x.p6,x.p7,x.p8,x.p9,x.q10))) (jn (bf x.1.2.1 6 (aB ((decide ((x.1.2.1:Int)=6)),(x.1.1,x.1.2.1,x.1.p2,x.1.p3,x.1.p4,x.1.p5,x.1.q6),x.2.1,(x.p2.1,x.p2.2.1,x.p2.p2,x.p2.p3,x.p2.p4,x.p2.q5),x.p3,x.p4,x.p5,x.p6,x.p7,x.p8,x.p9,x.q10)) (aB ((decide ((x.1.2.1:Int)=10)),(x.1.1,x.1.2.1,x.1.p2,x.1.p3,x.1.p4,x.1.p5,x.1.q6),x.2.1,(x.p2.1,x.p2.2.1,x.p2.p2,x.p2.p3,x.p2.p4,x.p2.q5),x.p3,x.p4,x.p5,x.p6,x.p7,x.p8,x.p9,x.q10))) λx1=>(aF x1.1 (ck (e9 x1.2.1.p2 (ah x1.p6)) (ck (e9 x1.2.1.p2 (ah x1.p7)) (Z ([(aG (T:=(.sl aM)) x1.p6 x1.2.1.p2),(aG (T:=(.sl aM)) x1.p7 x1.2.1.p2)],(x1.2.1.1,x1.2.1.2.1,x1.2.1.p2,x1.2.1.p3,x1.2.1.p4,x1.2.1.p5,x1.2.1.q6),x1.p2,(x1.p3.1,x1.p3.2.1,x1.p3.p2,x1.p3.p3,x1.p3.p4,x1.p3.q5),x1.p4,x1.p5,x1.p6,x1.p7,x1.p8,x1.p9,x1.p10,x1.q11)))) (bf x.1.2.1 8 (ck (e9 x1.2.1.p2 (ah x1.p6)) (Z ([(aG (T:=(.sl aM)) x1.p6 x1.2.1.p2)],(x1.2.1.1,x1.2.1.2.1,x1.2.1.p2,x1.2.1.p3,x1.2.1.p4,x1.2.1.p5,x1.2.1.q6),x1.p2,(x1.p3.1,x1.p3.2.1,x1.p3.p2,x1.p3.p3,x1.p3.p4,x1.p3.q5),x1.p4,x1.p5,x1.p6,x1.p7,x1.p8,x1.p9,x1.p10,x1.q11))) (bf x.1.2.1 17 (l8 x1.2.1.p2 x1.p3.p2 (av (s_ ((aG (T:=lZ) x1.p3.p2 x1.2.1.p2).2,x1.p6)) λq=>(bo (aw (ah x1.p6) (ah q.2)&&M) (av (s_ ((aG (T:=lZ) x1.p3.p2 x1.2.1.p2).2,x1.p7)) λd=>(bo (aw (ah x1.p7) (ah d.2)&&M) (ck (e9 x1.2.1.1 (ah x1.p10)) (Z ([q.1,d.1,(aG (T:=(.sl aM)) x1.p10 x1.2.1.1)],(x1.2.1.1,x1.2.1.2.1,x1.2.1.p2,x1.2.1.p3,x1.2.1.p4,x1.2.1.p5,x1.2.1.q6),x1.p2,(x1.p3.1,x1.p3.2.1,x1.p3.p2,x1.p3.p3,x1.p3.p4,x1.p3.q5),x1.p4,x1.p5,q.2,d.2,x1.p8,x1.p9,x1.p10,x1.q11)))))))) (bf x.1.2.1 3 (ck (e9 x1.2.1.p2 (ah x1.p8)) (Z ([(aG (T:=(.sl aM)) x1.p8 x1.2.1.p2)],(x1.2.1.1,x1.2.1.2.1,x1.2.1.p2,x1.2.1.p3,x1.2.1.p4,x1.2.1.p5,x1.2.1.q6),x1.p2,(x1.p3.1,x1.p3.2.1,x1.p3.p2,x1.p3.p3,x1.p3.p4,x1.p3.q5),x1.p4,x1.p5,x1.p6,x1.p7,x1.p8,x1.p9,x1.p10,x1.q11))) (bf x.1.2.1 23 (ck (e9 x1.2.1.p2 (ah x1.p9)) (Z ([(aG (T:=(.sl aM)) x1.p9 x1.2.1.p2)],(x1.2.1.1,x1.2.1.2.1,x1.2.1.p2,x1.2.1.p3,x1.2.1.p4,x1.2.1.p5,x1.2.1.q6),x1.p2,(x1.p3.1,x1.p3.2.1,x1.p3.p2,x1.p3.p3,x1.p3.p4,x1.p3.q5),x1.p4,x1.p5,x1.p6,x1.p7,x1.p8,x1.p9,x1.p10,x1.q11))) (bf x.1.2.1 12 (Z ([x1.p2],(x1.2.1.1,x1.2.1.2.1,x1.2.1.p2,x1.2.1.p3,x1.2.1.p4,x1.2.1.p5,x1.2.1.q6),x1.p2,(x1.p3.1,x1.p3.2.1,x1.p3.p2,x1.p3.p3,x1.p3.p4,x1.p3.q5),x1.p4,x1.p5,x1.p6,x1.p7,x1.p8,x1.p9,x1.p10,x1.q11)) (Z (([]:Y η),(x1.2.1.1,x1.2.1.2.1,x1.2.1.p2,x1.2.1.p3,x1.2.1.p4,x1.2.1.p5,x1.2.1.q6),x1.p2,(x1.p3.1,x1.p3.2.1,x1.p3.p2,x1.p3.p3,x1.p3.p4,x1.p3.q5),x1.p4,x1.p5,x1.p6,x1.p7,x1.p8,x1.p9,x1.p10,x1.q11)))))))))))
def zC (it:xT) (x:nz×mr×(Y jC)×dj×dj×Y ν):J V0:=
 (ck (cP 0 (aY x.p4)&&cP (aY x.p4) (aY x.p4)&&bc (aP (aY x.p4)) 24) (ck (cP 0 (aY x.2.1)&&cP (aY x.2.1) (aY x.2.1)&&bc (aP (aY x.2.1)) 24) (bo (cP 0 (aY x.1)&&cP (aY x.1) (aY x.1)&&bc (aP (aY x.1)) 24) (bo (cP 0 (aY x.p3)&&cP (aY x.p3) (aY x.p3)&&bc (aP (aY x.p3)) 24) (bo (cP 0 (aY x.p4)&&cP (aY x.p4) (aY x.p4)&&bc (aP (aY x.p4)) 24) (bo (cP 0 (aY x.p4)&&cP (aY x.p4) (aY x.p4)&&bc (aP (aY x.p4)) 8) (it (Int×(Y η)×(Y η)×(Y η)×(Y η)×(Y η)×(Y η)×(Y η)×η) _ (λx1=>(bx x1.1 (aU (ah (aA (aP (aY x.p4)) (0:Int)))) (ck (e9 x1.1 (ah x1.q8)) (cI ((cu x1.1),x1.2.1,x1.p2,x1.p3,x1.p4,x1.p5,x1.p6,x1.p7,(cj x1.q8 x1.1 (-1))))) (aB (x1.2.1,x1.p2,x1.p3,x1.p4,x1.p5,x1.p6,([]:η),x1.p7,x1.q8)))) (0,(aA (aP (aY x.p4)) ([]:η)),(aA (aP (aY x.p4)) ([]:η)),(aA (aP (aY x.2.1)) ([]:η)),(aA (aP (aY x.2.1)) ([]:η)),(aA (aP (aY x.1)) ([]:η)),(aA (aP (aY x.p3)) ([]:η)),(aA (aP (aY x.p4)) ([]:η)),(aA (aP (aY x.p4)) (0:Int))))))))))
def Du (x:nz×mr×(Y jC)×dj×dj×Y ν):J V0:=zC @iter x
def nL (x:nz×mr×(Y jC)×dj×dj×Y ν):J V0:=zC @fR x
def pJ (x:η×Int):J η:=
 (jn (jk 0 x.2 (aB (fK x.2 4)) (aB aa)) λx1=>(jn (aF x1 (aB (lq (aY x.1) (cu x.2))) (aB (aY x.1))) λx2=>(bo (cP 0 x2&&cP x2 x2&&bc (aP x2) 8) (jn (jn (aF x1 (ck (e9 x.2 (ah (Sk (aA (aP x2) (0:Int)) x.1))) (aB ((fK (aG (T:=aM) (Sk (aA (aP x2) (0:Int)) x.1) x.2) 9223372036854775807),(Sk (aA (aP x2) (0:Int)) x.1)))) (aB (aa,(Sk (aA (aP x2) (0:Int)) x.1)))) λd=>(aF d.1 (ck (e9 x.2 (ah d.2)) (ck (e9 x.2 (ah d.2)) (aB (cj d.2 x.2 (a9 .i64 ((aG (T:=aM) d.2 x.2)+1)))))) (aB d.2))) λq=>(Z q)))))
def vz (x:η):J (η×η):=
 (bo (bc (ah ([]:η)+ah x) 8) (Z ((([]:η)++x),x)))
def ux (x:η):J η:=av (vz x) λy=>LS y.2 x (Z y.1)
def Hi (it:xT) (x:η×η):J (η×η):=
 (bo (cP 0 (lq (aY x.1) (aY x.2))&&cP (lq (aY x.1) (aY x.2)) (lq (aY x.1) (aY x.2))&&bc (aP (lq (aY x.1) (aY x.2))) 8) (it (Int×(η)×η) _ (λx1=>(bx x1.1 (aU (ah (aA (aP (lq (aY x.1) (aY x.2))) (0:Int)))) (av (iS (x.1,x1.1)) λq=>(av (iS (x1.2.1,x1.1)) λd=>(ck (e9 x1.1 (ah x1.2.2)) (cI ((cu x1.1),x1.2.1,(cj x1.2.2 x1.1 (lq q d))))))) (aB (x1.2.2,x1.2.1)))) (0,x.2,(aA (aP (lq (aY x.1) (aY x.2))) (0:Int)))))
def Nr (x:η×η):J (η×η):=Hi @iter x
def sU (x:η×η):J (η×η):=Hi @fR x
def AW (x:η×η):J η:=av (sU x) λy=>LS y.2 x.2 (Z y.1)
def lP (x:Int×(Y η)×η):J ((Y η)×η):=
 (jn (jk 0 x.1 (aB ((fK x.1 (aY x.2.1)),x.2.1,x.2.2)) (aB (aa,x.2.1,x.2.2))) λx1=>(aF x1.1 (ck (e9 x.1 (ah x1.2.1)) (av (AW ((aG (T:=(.sl aM)) x1.2.1 x.1),x1.2.2)) λd=>(ck (e9 x.1 (ah x1.2.1)) (Z ((cj x1.2.1 x.1 d),x1.2.2))))) (Z (x1.2.1,x1.2.2))))
def vx (x:Int×(η)×(Y η)×(Y η)×(Y η)×(Y η)×(Y η)×(Y η)×(Y η)×(η)×η):J Yd1:=
 (av (ux x.q10) λd=>(ck (e9 x.1 (ah x.p8)) (ck (e9 x.1 (ah x.p9)) (Z (x.2.1,x.p2,x.p3,x.p4,x.p5,x.p6,x.p7,(cj x.p8 x.1 d),(cj x.p9 x.1 (-1)),x.q10)))))
def zA (it:xT) (x:Yd5×(η)×(Y η)×(Y η)×(Y η)×(Y η)×(Y η)×(Y η)×(Y η)×(η)×η):J Yd1:=
 (av (ux x.q10) λy1=>(ck (e9 x.1.2.1 (ah x.p2)) (jn (α:=(η)×(Y η)×(Y η)×(Y η)×(Y η)×(Y η)×(Y η)×(Y η)×(η)×η) (bf x.1.p2 20 (av (ux x.q10) λy3=>(ck (e9 x.1.p3 (ah x.p3)) (aB (x.2.1,(cj x.p2 x.1.2.1 y1),(cj x.p3 x.1.p3 y3),x.p4,x.p5,x.p6,x.p7,x.p8,x.p9,x.q10)))) (jn (bf x.1.p2 7 (aB ((decide ((x.1.p2:Int)=7)),x.2.1,(cj x.p2 x.1.2.1 y1),x.p3,x.p4,x.p5,x.p6,x.p7,x.p8,x.p9,x.q10,(x.1.1.1,x.1.1.2.1,x.1.1.p2,x.1.1.p3,x.1.1.p4,x.1.1.q5),x.1.2.1,x.1.p2,x.1.p3,x.1.p4,x.1.p5,x.1.p6,x.1.q7)) (aB ((decide ((x.1.p2:Int)=11)),x.2.1,(cj x.p2 x.1.2.1 y1),x.p3,x.p4,x.p5,x.p6,x.p7,x.p8,x.p9,x.q10,(x.1.1.1,x.1.1.2.1,x.1.1.p2,x.1.1.p3,x.1.1.p4,x.1.1.q5),x.1.2.1,x.1.p2,x.1.p3,x.1.p4,x.1.p5,x.1.p6,x.1.q7))) λd=>(aF d.1 (av (lP (d.p14,d.p4,d.p10)) λy5=>(bo (aw (ah d.p10) (ah y5.2)&&(aw (ah d.p4) (ah y5.1)&&M)) (aB (d.2.1,d.p2,d.p3,y5.1,d.p5,d.p6,d.p7,d.p8,d.p9,y5.2)))) (bf x.1.p2 9 (av (lP (d.p14,d.p5,d.p10)) λy6=>(bo (aw (ah d.p10) (ah y6.2)&&(aw (ah d.p5) (ah y6.1)&&M)) (aB (d.2.1,d.p2,d.p3,d.p4,y6.1,d.p6,d.p7,d.p8,d.p9,y6.2)))) (bf x.1.p2 16 (ck (e9 d.p12 (ah d.p9)) (l8 d.p14 d.p11.p2 (av (lP ((aG (T:=lZ) d.p11.p2 d.p14).2,d.p4,d.p10)) λL=>(bo (aw (ah d.p10) (ah L.2)&&(aw (ah d.p4) (ah L.1)&&M)) (aB (d.2.1,d.p2,d.p3,L.1,d.p5,d.p6,d.p7,d.p8,(cj d.p9 d.p12 d.p14),L.2)))))) (bf x.1.p2 4 (l8 d.p14 d.p11.1 (aF (((((aG (T:=kG) d.p11.1 d.p14).2).2).2).1) (av (lP (d.p14,d.p6,d.p10)) λI=>(bo (aw (ah d.p10) (ah I.2)&&(aw (ah d.p6) (ah I.1)&&M)) (aB (d.2.1,d.p2,d.p3,d.p4,d.p5,I.1,d.p7,d.p8,d.p9,I.2)))) (aB (d.2.1,d.p2,d.p3,d.p4,d.p5,d.p6,d.p7,d.p8,d.p9,d.p10)))) (bf x.1.p2 22 (av (lP (d.p14,d.p7,d.p10)) λF=>(bo (aw (ah d.p10) (ah F.2)&&(aw (ah d.p7) (ah F.1)&&M)) (aB (d.2.1,d.p2,d.p3,d.p4,d.p5,d.p6,F.1,d.p8,d.p9,F.2)))) (bf x.1.p2 13 (av (AW (d.2.1,d.p10)) λy10=>(aB (y10,d.p2,d.p3,d.p4,d.p5,d.p6,d.p7,d.p8,d.p9,d.p10))) (bf x.1.p2 18 (jn (jk 0 d.p15 (aB ((fK d.p15 (aY d.p8)),d.2.1,d.p2,d.p3,d.p4,d.p5,d.p6,d.p7,d.p8,d.p9,d.p10,d.p12,d.p13,d.p14,d.p15,d.p16,d.p17,d.q18)) (aB (aa,d.2.1,d.p2,d.p3,d.p4,d.p5,d.p6,d.p7,d.p8,d.p9,d.p10,d.p12,d.p13,d.p14,d.p15,d.p16,d.p17,d.q18))) λs=>(aF s.1 (av (vx (s.p14,s.2.1,s.p2,s.p3,s.p4,s.p5,s.p6,s.p7,s.p8,s.p9,s.p10)) λA=>(bo (aw (ah s.p10) (ah A.q9)&&(aw (ah s.p9) (ah A.p8)&&(aw (ah s.p8) (ah A.p7)&&(aw (ah s.p7) (ah A.p6)&&(aw (ah s.p6) (ah A.p5)&&(aw (ah s.p5) (ah A.p4)&&(aw (ah s.p4) (ah A.p3)&&(aw (ah s.p3) (ah A.p2)&&(aw (ah s.p2) (ah A.2.1)&&M))))))))) (aB (A.1,A.2.1,A.p2,A.p3,A.p4,A.p5,A.p6,A.p7,A.p8,A.q9)))) (aB (s.2.1,s.p2,s.p3,s.p4,s.p5,s.p6,s.p7,s.p8,s.p9,s.p10)))) (bf x.1.p2 19 (it (Int×(η)×(Y η)×(Y η)×(Y η)×(Y η)×(Y η)×(Y η)×(Y η)×(η)×(η)×Int×Int×Int×Int×Int×(η)×η) _ (λq=>(bx q.1 (aY d.p9) (jn (ck (e9 q.1 (ah q.p9)) (bf (aG (T:=aM) q.p9 q.1) q.p13 (av (vx (q.1,q.2.1,q.p2,q.p3,q.p4,q.p5,q.p6,q.p7,q.p8,q.p9,q.p10)) λz=>(bo (aw (ah q.p10) (ah z.q9)&&(aw (ah q.p9) (ah z.p8)&&(aw (ah q.p8) (ah z.p7)&&(aw (ah q.p7) (ah z.p6)&&(aw (ah q.p6) (ah z.p5)&&(aw (ah q.p5) (ah z.p4)&&(aw (ah q.p4) (ah z.p3)&&(aw (ah q.p3) (ah z.p2)&&(aw (ah q.p2) (ah z.2.1)&&M))))))))) (aB (z.1,z.2.1,z.p2,z.p3,z.p4,z.p5,z.p6,z.p7,z.p8,z.q9,q.p11,q.p12,q.p13,q.p14,q.p15,q.p16,q.q17)))) (aB (q.2.1,q.p2,q.p3,q.p4,q.p5,q.p6,q.p7,q.p8,q.p9,q.p10,q.p11,q.p12,q.p13,q.p14,q.p15,q.p16,q.q17)))) λD=>(cI ((cu q.1),D.1,D.2.1,D.p2,D.p3,D.p4,D.p5,D.p6,D.p7,D.p8,D.p9,D.p10,D.p11,D.p12,D.p13,D.p14,D.p15,D.q16))) (aB (bZ (q.2.1,q.p2,q.p3,q.p4,q.p5,q.p6,q.p7,q.p8,q.p9,q.p10))))) (0,d.2.1,d.p2,d.p3,d.p4,d.p5,d.p6,d.p7,d.p8,d.p9,d.p10,d.p12,d.p13,d.p14,d.p15,d.p16,d.p17,d.q18)) (aB (d.2.1,d.p2,d.p3,d.p4,d.p5,d.p6,d.p7,d.p8,d.p9,d.p10)))))))))))) λx2=>(Z (x2.1,x2.2.1,x2.p2,x2.p3,x2.p4,x2.p5,x2.p6,x2.p7,x2.p8,x2.q9)))))
def Ds (x:Yd5×(η)×(Y η)×(Y η)×(Y η)×(Y η)×(Y η)×(Y η)×(Y η)×(η)×η):J Yd1:=zA @iter x
def pH (x:Yd5×(η)×(Y η)×(Y η)×(Y η)×(Y η)×(Y η)×(Y η)×(Y η)×(η)×η):J Yd1:=zA @fR x
def Cf (it:xT) (x:eP×V0×Int×Int×Int×Int×Int×(η)×η):J (V0×η):=
 (av (q_ (x.2.1.1,x.2.1.2.1,x.2.1.p2,x.2.1.p3,x.2.1.p4,x.2.1.p5,x.2.1.p6,x.2.1.p7,x.2.1.q8)) λz=>(ck (e9 x.p2 (ah z.2.1)) (av (rc ((x.p2,x.p3,x.p4,x.p5,x.p6,x.p7,x.q8),z.1,(x.1.1,x.1.2.1,x.1.p2,x.1.p3,x.1.p4,x.1.q5),z.2.1,z.p2,z.p3,z.p4,z.p5,z.p6,z.p7,z.q8)) λq=>(bo (aw (ah z.q8) (ah q.q11)&&(aw (ah z.p7) (ah q.p10)&&(aw (ah z.p6) (ah q.p9)&&(aw (ah z.p5) (ah q.p8)&&(aw (ah z.p4) (ah q.p7)&&(aw (ah z.p3) (ah q.p6)&&(aw (ah z.p2) (ah q.p5)&&(aw (ah z.2.1) (ah q.p4)&&M)))))))) (it (Int×eP×jD×(η)×(η)×(Y η)×(Y η)×(Y η)×(Y η)×(Y η)×(Y η)×(Y η)×η) _ (λd=>(bx d.1 (aY q.1) (l8 d.1 q.1 (av (jv (d.p4,(aG (T:=(.sl aM)) q.1 d.1))) λD=>(cI ((cu d.1),(d.2.1.1,d.2.1.2.1,d.2.1.p2,d.2.1.p3,d.2.1.p4,d.2.1.q5),(d.p2.1,d.p2.2.1,d.p2.p2,d.p2.p3,d.p2.p4,d.p2.p5,d.p2.q6),d.p3,D,d.p5,d.p6,d.p7,d.p8,d.p9,d.p10,d.p11,d.q12)))) (av (av (pJ (d.p4,d.p2.1)) λA=>(av (pH (((d.2.1.1,d.2.1.2.1,d.2.1.p2,d.2.1.p3,d.2.1.p4,d.2.1.q5),d.p2.1,d.p2.2.1,d.p2.p2,d.p2.p3,d.p2.p4,d.p2.p5,d.p2.q6),d.p3,d.p5,d.p6,d.p7,d.p8,d.p9,d.p10,d.p11,d.q12,A)) λs=>(bo (aw (ah A) (ah s.q9)&&(aw (ah d.q12) (ah s.p8)&&(aw (ah d.p11) (ah s.p7)&&(aw (ah d.p10) (ah s.p6)&&(aw (ah d.p9) (ah s.p5)&&(aw (ah d.p8) (ah s.p4)&&(aw (ah d.p7) (ah s.p3)&&(aw (ah d.p6) (ah s.p2)&&(aw (ah d.p5) (ah s.2.1)&&M))))))))) (Z ((s.2.1,s.p2,s.p3,s.p4,s.p5,s.p6,s.1,s.p7,s.p8),s.q9))))) λr=>Z (bZ r)))) (0,(q.p3.1,q.p3.2.1,q.p3.p2,q.p3.p3,q.p3.p4,q.p3.q5),(q.2.1.1,q.2.1.2.1,q.2.1.p2,q.2.1.p3,q.2.1.p4,q.2.1.p5,q.2.1.q6),q.p2,(aG (T:=(.sl aM)) z.2.1 x.p2),q.p4,q.p5,q.p6,q.p7,q.p8,q.p9,q.p10,q.q11))))))
def HX (x:eP×V0×Int×Int×Int×Int×Int×(η)×η):J (V0×η):=Cf @iter x
def r8 (x:eP×V0×Int×Int×Int×Int×Int×(η)×η):J (V0×η):=Cf @fR x
def nP (it:xT) (x:ζ):J (Bool):=
 (lt (aG (T:=(.st (.pr .str (.pr .str (.pr .str (.pr .str (.pr .str (.pr .str (.pr .str (.pr .str (.pr .str (.pr .str (.pr .str (.pr .str (.pr .str (.pr .str (.pr .str (.pr .str (.pr .str (.pr .str (.pr .str (.pr .str (.pr .str .str))))))))))))))))))))))) ([kwV]) 0) λd=>(it (Int) _ (λx2=>(bx x2 22 (bo (cP 0 x2&&fK x2 22) (lt (aG (T:=.str) [d.1,d.2.1,d.p2,d.p3,d.p4,d.p5,d.p6,d.p7,d.p8,d.p9,d.p10,d.p11,d.p12,d.p13,d.p14,d.p15,d.p16,d.p17,d.p18,d.p19,d.p20,d.q21] x2) λq=>(aF (decide ((x:ζ)=q)) (aB M) (cI (cu x2))))) (aB aa))) 0))
def qR (x:ζ):J (Bool):=nP @iter x
def ig (x:ζ):J (Bool):=nP @fR x
def rI (it:xT) (x:ζ):J (Bool):=
 (jn (bx (aY x) 1 (aB M) (bx 12 (aY x) (aB M) (av (ig x) λz=>(aB z)))) λx1=>(aF x1 (Z aa) (it (Y (jC×Unit)) _ (λd=>(aF (eS (F3 d) (ah (G' d))) (jn (α:=Y (jC×Unit)) (jn (α:=Bool×Y (jC×Unit)) (jk 97 (Nj (G' d) (F3 d)) (jk (Nj (G' d) (F3 d)) 122 (aB (M,[(((G' d),(aU ((F3 d)+So (G' d) (F3 d)))),())])) (jk 65 (Nj (G' d) (F3 d)) (aB ((cP (Nj (G' d) (F3 d)) 90),[(((G' d),(aU ((F3 d)+So (G' d) (F3 d)))),())])) (aB (aa,[(((G' d),(aU ((F3 d)+So (G' d) (F3 d)))),())])))) (jk 65 (Nj (G' d) (F3 d)) (aB ((cP (Nj (G' d) (F3 d)) 90),[(((G' d),(aU ((F3 d)+So (G' d) (F3 d)))),())])) (aB (aa,[(((G' d),(aU ((F3 d)+So (G' d) (F3 d)))),())])))) λq=>(aF q.1 (aB q.2) (jn (bx 0 (aU (F3 d)) (bf (Nj (G' d) (F3 d)) 95 (aB (M,q.2)) (jk 48 (Nj (G' d) (F3 d)) (aB ((cP (Nj (G' d) (F3 d)) 57),q.2)) (aB (aa,q.2)))) (aB (aa,q.2))) λs=>(aF s.1 (aB s.2) (cI (bZ aa)))))) λA=>(cI A)) (aB M))) ([((x,0),())]))))
def uR (x:ζ):J (Bool):=rI @iter x
def kA (x:ζ):J (Bool):=rI @fR x
def wJ (it:xT) (x:η×Int):J (Int):=
 (it (Int) _ (λx1=>(bx x1 (aY x.1) (bG aM x.1 x1 λd=>(bf x.2 d (aB x1) (cI (cu x1)))) (aB (-1)))) 0)
def AT (x:η×Int):J (Int):=wJ @iter x
def re (x:η×Int):J (Int):=wJ @fR x
def jw (x:η×Int):J (Bool):=
 (av (re x) λd=>(Z (cP 0 d)))
def oF (x:η×Int×Int):J (Bool):=
 (av (iS (x.1,x.2.2)) λd=>(Z (cP x.2.1 d)))
def md (x:Γ):J (Bool):=
 (jn (jk 0 x.1 (aB (fK x.1 x.2)) (aB aa)) λx1=>(Z x1))
def oV (x:eP×Int×Bool):J (Bool):=
 (jn (av (md (x.2.1,(aY x.1.2.1))) λq=>(aF q (bG qK x.1.2.1 x.2.1 λd=>(aB ((d.2==x.2.2) !=aa))) (aB aa))) λx1=>(Z x1))
def kS (it:xT) (x:Y RJ):J (dj×Bool):=
 (it (Int×Y ζ) _ (λx1=>(bx x1.1 (aY x) (jn (α:=Int×Y ζ) (bG kG x x1.1 λd=>(bo (bc (ah x1.2+ah ([d.1])) 16) (bf d.p2 0 (ir d.2.1 0 (cI (bZ (([]:Y ζ),aa))) (aB ((cu x1.1),(x1.2++([d.1]))))) (jn (α:=Bool×dj×(ζ)×Int×Int×Bool×Int) (bx d.p2 1 (aB (M,(x1.2++([d.1])),d)) (bx 4 d.p2 (aB (M,(x1.2++([d.1])),d)) (aF d.p3 (aB (M,(x1.2++([d.1])),d)) (aB ((fK (a9 .i64 ((aY x)-x1.1)) d.p2),(x1.2++([d.1])),d))))) λz=>(aF z.1 (cI (bZ (([]:Y ζ),aa))) (it (Int×dj×(ζ)×Int×Int×Bool×Int) _ (λq=>(bx q.1 z.p4 (bG kG x (a9 .i64 (x1.1+q.1)) λs=>(aF (Mo (.pr .str (.pr aM (.pr aM (.pr .bool (.pr aM .un))))) (s.1,s.2.1,s.p2,s.p3,s.q4,()) (q.p2,q.1,q.p4,q.p5,q.q6,()) !=M) (aB (oL (bZ (([]:Y ζ),aa)))) (cI ((cu q.1),q.2.1,q.p2,q.1,q.q4)))) (aB (bZ ((a9 .i64 (x1.1+q.p4)),q.2.1))))) (0,z.2))))))) λx2=>(cI x2)) (aB (x1.2,M)))) (0,([]:Y ζ)))
def oc (x:Y RJ):J (dj×Bool):=kS @iter x
def fJ (x:Y RJ):J (dj×Bool):=kS @fR x
def kR (it:xT) (x:eP×Y ζ):J (Bool):=
 (bo (bc (ah (x.2:Y ζ)) 16) (it (Int×eP×Y ζ) _ (λx1=>(bx x1.1 (aY x.1.2.1) (bG qK x.1.2.1 x1.1 λD=>(bo (bc (ah x1.2.2+ah ([D.1])) 16) (cI ((cu x1.1),x1.2.1,(x1.2.2++([D.1])))))) (av (it (Int×eP×Y ζ) _ (λd=>(bx d.1 (aY x1.2.1.p2) (bG lZ x1.2.1.p2 d.1 λA=>(bo (bc (ah d.2.2+ah ([A.1])) 16) (cI ((cu d.1),d.2.1,(d.2.2++([A.1])))))) (av (bo (bc (ah d.2.2+ah d.2.1.p3) 16) (bo (bc (ah (d.2.2++d.2.1.p3)+ah d.2.1.p4) 16) (it (Int×mr×Y ζ) _ (λq=>(bx q.1 (aU (ah ((d.2.2++d.2.1.p3)++d.2.1.p4))) (j7 (.str) q.2.2 q.1 λs=>(jn (av (kA s) λF=>(aF (!F) (aB (M,q.2)) (aB ((yl (K:=.str) (V:=.bool) s q.2.1 aa),q.2)))) λz=>(aF z.1 (aB aa) (cI ((cu q.1),(AU (K:=.str) (V:=.bool) s M z.2.1),z.2.2))))) (aB M))) (0,([]:Y (ζ×Bool)),((d.2.2++d.2.1.p3)++d.2.1.p4))))) λr=>Z (bZ r)))) (0,x1.2)) λr=>Z (bZ r)))) (0,x)))
def oa (x:eP×Y ζ):J (Bool):=kR @iter x
def fI (x:eP×Y ζ):J (Bool):=kR @fR x
def kQ (it:xT) (x:nz×mr×(Y jC)×dj×dj×Y ν):J (Bool):=
 (it (ν×nz×mr×(Y jC)×dj×dj×Y ν) _ (λx1=>(bx x1.1.2.2 (aY x.q5) (bG og x.q5 x1.1.2.2 λs=>(jn (bx s.1 x1.1.1 (aB (M,x1.2,s)) (aB ((cP (aY x1.p5) s.1),x1.2,s))) λq=>(aF q.1 (aB aa) (jn (α:=(Γ)×eP×Int×Int×Int) (bx x1.1.1 q.p2 (aB ((q.p2,0),q.2)) (aB ((x1.1.1,x1.1.2.1),q.2))) λd=>(ir d.p3 d.1.2 (aB aa) (cI ((d.1.1,(cu d.1.2),(cu x1.1.2.2)),d.2.1))))))) (aB M))) ((0,0,0),x))
def n_ (x:nz×mr×(Y jC)×dj×dj×Y ν):J (Bool):=kQ @iter x
def fH (x:nz×mr×(Y jC)×dj×dj×Y ν):J (Bool):=kQ @fR x
def kT (it:xT) (x:nz×mr×(Y jC)×dj×dj×Y ν):J (Bool):=
 (jn (bx 12 (aY x.1) (aB (M,x)) (bx 4 (aY x.2.1) (aB (M,x)) (bx 2 (aY x.p2) (aB (M,x)) (bx 2 (aY x.p3) (aB (M,x)) (aB ((fK 60 (aY x.q5)),x)))))) λx1=>(aF x1.1 (Z aa) (jn (bx (aY x1.p5) 1 (aB (M,x1.2)) (aB ((fK 4 (aY x1.p5)),x1.2))) λx2=>(aF x2.1 (Z aa) (av (fJ x2.2.1) λs=>(jn (aF (!s.2) (aB (M,x2.2)) (av (fI (x2.2,s.1)) λF=>(aB ((!F),x2.2)))) λq=>(aF q.1 (Z aa) (it Yd4 _ (λd=>(bx d.1 (aY q.p3) (bG lZ q.p3 d.1 λz=>(av (oV (d.2,z.2,aa)) λD=>(aF (!D) (aB aa) (cI ((cu d.1),d.2))))) (av (av (fH d.2) λA=>(Z A)) λr=>Z (bZ r)))) (0,q.2)))))))))
def od (x:nz×mr×(Y jC)×dj×dj×Y ν):J (Bool):=kT @iter x
def dw (x:nz×mr×(Y jC)×dj×dj×Y ν):J (Bool):=kT @fR x
def rM (it:xT) (x:nz×mr×(Y jC)×dj×dj×Y ν):J pR:=
 (bo (cP 0 (aY x.2.1)&&cP (aY x.2.1) (aY x.2.1)&&bc (aP (aY x.2.1)) 32) (bo (cP 0 (aY x.p3)&&cP (aY x.p3) (aY x.p3)&&bc (aP (aY x.p3)) 1) (bo (cP 0 (aY x.p4)&&cP (aY x.p4) (aY x.p4)&&bc (aP (aY x.p4)) 24) (it (Int×Int×Int×iI×(θ)×Y dI) _ (λx1=>(bx x1.1 (aU (ah (aA (aP (aY x.2.1)) ((0,[]):Int×η)))) (ck (e9 x1.1 (ah x1.p3)) (cI ((cu x1.1),x1.2.1,x1.p2,(cj x1.p3 x1.1 ((-1),(aG (T:=dt) x1.p3 x1.1).2)),x1.q4))) (av (jn (α:=Int×Int×iI×(θ)×Y dI) (bx 0 (aY x1.q5) (ck (e9 0 (ah x1.q5)) (aB (x1.2.1,x1.p2,x1.p3,x1.p4,(cj x1.q5 0 (1,(aG (T:=gF) x1.q5 0).2))))) (aB x1.2)) λx2=>(Z (x2.p2,x2.2.1,x2.q3))) λr=>Z (bZ r)))) (0,0,(-1),(aA (aP (aY x.2.1)) ((0,[]):Int×η)),(aA (aP (aY x.p3)) (aa:Bool)),(aA (aP (aY x.p4)) ((0,(0,aa)):Int×Int×Bool)))))))
def uT (x:nz×mr×(Y jC)×dj×dj×Y ν):J pR:=rM @iter x
def kE (x:nz×mr×(Y jC)×dj×dj×Y ν):J pR:=rM @fR x
def mD (it:xT) (x:nz×mr×(Y jC)×dj×dj×Y ν):J fV:=
 (av (kE x) λq=>(bo (cP 0 0&&cP 0 (aY x.1)&&bc (aP (aY x.1)) 8) (bo (cP 0 (aY x.p3)&&cP (aY x.p3) (aY x.p3)&&bc (aP (aY x.p3)) 8) (bo (cP 0 (aY x.p4)&&cP (aY x.p4) (aY x.p4)&&bc (aP (aY x.p4)) 8) (it (Int×Int×pR×(η)×(η)×η) _ (λx2=>(bx x2.1 (aY x.1) (bG kG x.1 x2.1 λd=>(bo (bc (ah x2.p3+ah ([d.q4])) 8) (cI ((cu x2.1),x2.2.1,x2.p2,(x2.p3++([d.q4])),x2.q4)))) (aB x2.2.2))) (0,0,q,(aA (aP 0) (0:Int)),(aA (aP (aY x.p3)) (0:Int)),(aA (aP (aY x.p4)) (0:Int))))))))
def p_ (x:nz×mr×(Y jC)×dj×dj×Y ν):J fV:=mD @iter x
def eB (x:nz×mr×(Y jC)×dj×dj×Y ν):J fV:=mD @fR x
def iG (it:xT) (x:θ×Int×Int×Int×Int×Int×(η)×η):J (Bool):=
 (it (Int) _ (λx1=>(bx x1 2 (bo (cP 0 x1&&fK x1 2) (lt (aG (T:=(.sl aM)) [x.p6,x.q7] x1) λs=>(it (Int) _ (λq=>(bx q (aY s) (bG aM s q λd=>(jn (bx d 0 (aB M) (jk (aY x.1) d (aB M) (bG (.bool) x.1 d λz=>(aB (!z))))) λA=>(aF A (aB (bZ aa)) (cI (cu q))))) (aB (oL (cu x1))))) 0))) (aB M))) 0)
def mT (x:θ×Int×Int×Int×Int×Int×(η)×η):J (Bool):=iG @iter x
def bT (x:θ×Int×Int×Int×Int×Int×(η)×η):J (Bool):=iG @fR x
def eQ (x:Γ):J (Bool):=
 (jn (jk 0 x.1 (aB (fK x.1 x.2)) (aB aa)) λx1=>(Z x1))
def ja (x:eP×Int×Int):J (Bool):=
 (jn (bf x.2.1 1 (aB ((decide ((x.2.1:Int)=1)),x.1)) (bf x.2.1 2 (aB ((decide ((x.2.1:Int)=2)),x.1)) (bf x.2.1 5 (aB ((decide ((x.2.1:Int)=5)),x.1)) (bf x.2.1 12 (aB ((decide ((x.2.1:Int)=12)),x.1)) (bf x.2.1 13 (aB ((decide ((x.2.1:Int)=13)),x.1)) (bf x.2.1 14 (aB ((decide ((x.2.1:Int)=14)),x.1)) (aB ((decide ((x.2.1:Int)=15)),x.1)))))))) λx1=>(aF x1.1 (Z (decide ((x.2.2:Int)=(-1)))) (jn (bf x.2.1 3 (aB ((decide ((x.2.1:Int)=3)),x1.2)) (aB ((decide ((x.2.1:Int)=4)),x1.2))) λx2=>(aF x2.1 (av (eQ (x.2.2,(aY x2.2.1))) λy3=>(Z y3)) (jn (bf x.2.1 6 (aB ((decide ((x.2.1:Int)=6)),x2.2)) (aB ((decide ((x.2.1:Int)=7)),x2.2))) λz=>(aF z.1 (jn (av (eQ (x.2.2,(aY z.p2))) λy6=>(aF y6 (bG qK z.p2 x.2.2 λz7=>(aB (!z7.2))) (aB aa))) λx5=>(Z x5)) (jn (bf x.2.1 8 (aB ((decide ((x.2.1:Int)=8)),z.2)) (bf x.2.1 9 (aB ((decide ((x.2.1:Int)=9)),z.2)) (bf x.2.1 10 (aB ((decide ((x.2.1:Int)=10)),z.2)) (aB ((decide ((x.2.1:Int)=11)),z.2))))) λs=>(aF s.1 (jn (av (eQ (x.2.2,(aY s.p2))) λy10=>(aF y10 (bG qK s.p2 x.2.2 λD=>(aB D.2)) (aB aa))) λx9=>(Z x9)) (jn (bf x.2.1 16 (aB ((decide ((x.2.1:Int)=16)),s.2)) (bf x.2.1 17 (aB ((decide ((x.2.1:Int)=17)),s.2)) (bf x.2.1 18 (aB ((decide ((x.2.1:Int)=18)),s.2)) (aB ((decide ((x.2.1:Int)=19)),s.2))))) λq=>(aF q.1 (av (eQ (x.2.2,(aY q.p3))) λL=>(Z L)) (jn (bf x.2.1 20 (aB ((decide ((x.2.1:Int)=20)),q.2)) (aB ((decide ((x.2.1:Int)=21)),q.2))) λd=>(aF d.1 (av (eQ (x.2.2,(aY d.p5))) λI=>(Z I)) (jn (bf x.2.1 22 (aB ((decide ((x.2.1:Int)=22)),d.2)) (aB ((decide ((x.2.1:Int)=23)),d.2))) λA=>(aF A.1 (av (eQ (x.2.2,(aY A.p4))) λF=>(Z F)) (Z aa)))))))))))))))
def qr (it:xT) (x:eP×iI×Int×(θ)×Y dI):J (Bool):=
 (jn (ir (aY x.2.1) (aY x.1.2.1) (aB (M,x.1)) (ir (aY x.p3) (aY x.1.p3) (aB (M,x.1)) (aB ((!decide (((aY x.q4):Int)=(aY x.1.p4))),x.1)))) λx1=>(aF x1.1 (Z aa) (it Yd4 _ (λx2=>(bx x2.1 (aY x1.p3) (bG lZ x1.p3 x2.1 λd=>(av (eQ (d.2,(aY x2.p2))) λq=>(aF (!q) (aB aa) (cI ((cu x2.1),x2.2))))) (aB M))) (0,x1.2))))
def wv (x:eP×iI×Int×(θ)×Y dI):J (Bool):=qr @iter x
def iz (x:eP×iI×Int×(θ)×Y dI):J (Bool):=qr @fR x
def kC (x:eP×pR×Int×Int×Int):J (Bool):=
 (bf x.p3 6 (bG dt x.2.1.1 x.q4 λz1=>(Z (decide ((z1.1:Int)=(-1))))) (bf x.p3 10 (jn (α:=Bool) (bG dt x.2.1.1 x.q4 λz3=>(bf z3.1 (-1) (bG dt x.2.1.1 x.q4 λz4=>(aB (decide (((aY z4.2):Int)=0)))) (aB aa))) λx2=>(Z x2)) (bf x.p3 8 (jn (α:=Bool) (bG dt x.2.1.1 x.q4 λz6=>(bf z6.1 (-1) (bG dt x.2.1.1 x.q4 λz7=>(av (jw (z7.2,x.p2)) λy8=>(aB (!y8)))) (aB aa))) λx5=>(Z x5)) (jn (bf x.p3 7 (aB ((decide ((x.p3:Int)=7)),x.1,x.2.1)) (aB ((decide ((x.p3:Int)=11)),x.1,x.2.1))) λq=>(aF q.1 (bG dt q.p2 x.q4 λz10=>(Z (decide ((z10.1:Int)=x.p2)))) (bf x.p3 9 (bG dt q.p2 x.q4 λz11=>(av (jw (z11.2,x.p2)) λy12=>(Z y12))) (bf x.p3 12 (Z (decide ((q.p3:Int)=(-1)))) (bf x.p3 13 (Z (decide ((q.p3:Int)=x.p2))) (bf x.p3 14 (bG gF q.q5 x.p2 λz13=>(Z (!z13.2.2))) (bf x.p3 15 (bG gF q.q5 x.p2 λL=>(Z L.2.2)) (jn (bf x.p3 16 (aB ((decide ((x.p3:Int)=16)),q.2)) (bf x.p3 18 (aB ((decide ((x.p3:Int)=18)),q.2)) (aB ((decide ((x.p3:Int)=19)),q.2)))) λd=>(aF d.1 (bG lZ d.2.1.p2 x.q4 λI=>(bG dt d.p2 I.2 λF=>(Z (decide ((F.1:Int)=x.p2))))) (bf x.p3 20 (jn (ir x.q4 x.p2 (bG gF d.q5 x.q4 λD=>(aB (decide ((D.1:Int)=0)))) (aB aa)) λx18=>(Z x18)) (bf x.p3 21 (jn (ir x.q4 x.p2 (bG gF d.q5 x.q4 λA=>(aB (decide ((A.1:Int)=5)))) (aB aa)) λx20=>(Z x20)) (bf x.p3 22 (bG (.bool) d.p4 x.q4 λz=>(Z (!z))) (bf x.p3 23 (bG (.bool) d.p4 x.q4 λs=>(Z s)) (Z M)))))))))))))))))
def eg (x:eP×pR×Int×Int×Int):J (Bool):=
 (jn (av (iz (x.1,x.2.1)) λF=>(aF (!F) (aB (M,x.1,x.2.1)) (av (eQ (x.p2,(aY x.1.p4))) λD=>(aF (!D) (aB (M,x.1,x.2.1)) (av (ja (x.1,x.q3)) λA=>(aB ((!A),x.1,x.2.1))))))) λx1=>(aF x1.1 (Z aa) (bG gF x1.q5 x.p2 λd=>(bf x.p3 1 (Z (decide ((d.1:Int)=1))) (bf x.p3 17 (jn (α:=Bool) (bf d.1 4 (bf d.2.1 x.q4 (bG lZ x1.2.1.p2 x.q4 λz=>(bG dt x1.p2 z.2 λs=>(aB (decide ((s.1:Int)=(-1)))))) (aB aa)) (aB aa)) λL=>(Z L)) (jn (bf d.1 2 (av (kC (x1.2.1,x1.2.2,x.2.2)) λq=>(aB q)) (aB aa)) λI=>(Z I)))))))
def ie (x:eP×pR×(η)×(η)×η):J (Bool):=
 (jn (av (iz (x.1,x.2.1)) λd=>(aF d (bf (aY x.p2) (aY x.1.1) (bf (aY x.p3) (aY x.1.p3) (aB (decide (((aY x.q4):Int)=(aY x.1.p4)))) (aB aa)) (aB aa)) (aB aa))) λx1=>(Z x1))
def gr (x:eP×Int×Int×Int×Int×Int×(η)×η):J (Bool):=
 (jn (bf x.p2 1 (aB (M,x)) (aB ((decide ((x.p2:Int)=2)),x))) λx1=>(aF x1.1 (Z (decide ((x1.p6:Int)=(-1)))) (jn (jk 0 x1.p6 (bx x1.p6 (aY x1.2.1.q5) (bG og x1.2.1.q5 x1.p6 λd=>(aB (decide ((d.1:Int)=x1.p2)))) (aB aa)) (aB aa)) λx2=>(Z x2))))
def gN (it:xT) (x:eP×fV×Int×Int×Int×Int×Int×(η)×η):J (Bool):=
 (jn (bf x.p3 3 (bG kG x.1.1 x.p4 λz2=>(aB ((!decide ((z2.2.2.1:Int)=0)),x.2))) (bf x.p3 4 (bG kG x.1.1 x.p4 λz3=>(aB ((!decide ((z3.2.2.1:Int)=0)),x.2))) (aB (aa,x.2)))) λx1=>(jn (bf x1.p3 5 (bf x1.p3 4 (aB (x1.2.1,x1.2.2,M,M)) (aB (x1.2.1,x1.2.2,M,(decide ((x1.p3:Int)=22))))) (bf x1.p3 4 (aB (x1.2.1,x1.2.2,x1.1,M)) (aB (x1.2.1,x1.2.2,x1.1,(decide ((x1.p3:Int)=22)))))) λF=>(it (Int×fV×jD×Bool×Bool) _ (λd=>(bx d.1 2 (bo (cP 0 d.1&&fK d.1 2) (lt (aG (T:=(.sl aM)) [F.2.1.p5,F.2.1.q6] d.1) λA=>(jn (α:=Bool×fV×jD×Bool×Bool) (bx 0 (aY A) (bo (cP 0 d.1&&fK d.1 2) (bo (e9 d.1 2) (lt (aG (T:=.bool) [d.p3,d.q4] d.1) λL=>(aB ((!L),d.2))))) (aB (aa,d.2))) λI=>(aF I.1 (aB aa) (it (Γ×fV×jD×Bool×Bool) _ (λq=>(bx q.1.2 (aY A) (bG aM A q.1.2 λs=>(jn (jk s q.1.1 (aB (M,q.2)) (bG aM q.2.1.q3 q.p2.1 λD=>(aB ((cP D s),q.2)))) λz=>(aF z.1 (aB (bZ aa)) (cI ((s,(cu q.1.2)),z.2))))) (aB (oL ((cu d.1),q.2))))) ((0,0),I.2)))))) (aB M))) (0,F))))
def lM (x:eP×fV×Int×Int×Int×Int×Int×(η)×η):J (Bool):=gN @iter x
def dy (x:eP×fV×Int×Int×Int×Int×Int×(η)×η):J (Bool):=gN @fR x
def jL (it:xT) (x:fV×Int×Int×Int×Int×Int×(η)×η):J (Bool):=
 (bf x.p2 3 (bG aM x.1.2.1 x.p3 λz1=>(Z (decide ((x.p4:Int)=z1)))) (bf x.p2 23 (bG aM x.1.p2 x.p3 λz2=>(Z (decide ((x.p4:Int)=z2)))) (bf x.p2 5 (jn (bf x.p4 0 (aB M) (aB (decide ((x.p4:Int)=1)))) λx3=>(Z x3)) (jn (bf x.p2 4 (aB ((decide ((x.p2:Int)=4)),x)) (aB ((decide ((x.p2:Int)=22)),x))) λs=>(aF s.1 (Z M) (bf x.p2 18 (it ((Int×Bool×Int)×Int×Int×Int×Int×Int×(η)×η) _ (λq=>(bx q.1.2.2 (aY s.2.1.1.q3) (jn (bG gF s.2.1.1.q3 q.1.2.2 λL=>(jn (bf L.1 3 (aB ((decide ((L.2.1:Int)=q.p3)),q.2)) (aB (aa,q.2))) λD=>(aF D.1 (aF q.1.2.1 (aB (((cu q.1.1),M),D.2)) (aB (((cu q.1.1),(decide ((D.p4:Int)=q.1.2.2))),D.2))) (aB ((q.1.1,q.1.2.1),D.2))))) λI=>(cI ((I.1.1,I.1.2,(cu q.1.2.2)),I.2))) (av (jn (α:=Bool) (aF q.1.2.1 (aB M) (bf q.1.1 0 (aB (decide ((q.p4:Int)=(-1)))) (aB aa))) λx9=>(Z x9)) λr=>Z (bZ r)))) ((0,aa,0),s.2.2)) (bf x.p2 19 (it (Γ×Int×Int×Int×Int×Int×(η)×η) _ (λd=>(bx d.1.2 (aY s.2.1.1.q3) (jn (bG gF s.2.1.1.q3 d.1.2 λA=>(jn (bf A.1 3 (aB ((decide ((A.2.1:Int)=d.p3)),d.2)) (aB (aa,d.2))) λz=>(aF z.1 (aB ((cu d.1.1),z.2)) (aB (d.1.1,z.2))))) λF=>(cI ((F.1,(cu d.1.2)),F.2))) (aB (decide ((d.p4:Int)=d.1.1))))) ((0,0),s.2.2)) (Z (decide ((s.p5:Int)=0))))))))))
def pe (x:fV×Int×Int×Int×Int×Int×(η)×η):J (Bool):=jL @iter x
def eK (x:fV×Int×Int×Int×Int×Int×(η)×η):J (Bool):=jL @fR x
def ml (x:dI×Int):J (Bool):=
 (jn (bf x.1.1 3 (aB (decide ((x.1.2.1:Int)=x.2))) (aB aa)) λx1=>(Z x1))
def H9 (x:θ):J θ:=
 (aF (aw (ah x) 0) (El (Z ([]:θ)) (bo (bc (ah ([]:θ)+ah x) 1) (Z (([]:θ)++x)))) (bo (bc (ah ([]:θ)+ah x) 1) (Z (([]:θ)++x))))
def zo (x:θ):J θ:=chk (bc (ah x) 1) λ_=>Z x
def Dy (x:θ):J θ:=
 (aF (aw (ah x) 0) (El (Z ([]:θ)) (bo (bc (ah ([]:θ)+ah x) 1) (Z (([]:θ)++x)))) (bo (bc (ah ([]:θ)+ah x) 1) (Z (([]:θ)++x))))
def H8 (x:θ):J θ:=chk (bc (ah x) 1) λ_=>Z x
def H6 (x:Y dI):J (Y dI):=
 (aF (aw (ah x) 0) (El (Z ([]:Y dI)) (bo (bc (ah ([]:Y dI)+ah x) 24) (Z (([]:Y dI)++x)))) (bo (bc (ah ([]:Y dI)+ah x) 24) (Z (([]:Y dI)++x))))
def zn (x:Y dI):J (Y dI):=chk (bc (ah x) 24) λ_=>Z x
def Dw (x:Y dI):J (Y dI):=
 (aF (aw (ah x) 0) (El (Z ([]:Y dI)) (bo (bc (ah ([]:Y dI)+ah x) 24) (Z (([]:Y dI)++x)))) (bo (bc (ah ([]:Y dI)+ah x) 24) (Z (([]:Y dI)++x))))
def H5 (x:Y dI):J (Y dI):=chk (bc (ah x) 24) λ_=>Z x
def Dx (x:η):J η:=
 (aF (aw (ah x) 0) (El (Z ([]:η)) (bo (bc (ah ([]:η)+ah x) 8) (Z (([]:η)++x)))) (bo (bc (ah ([]:η)+ah x) 8) (Z (([]:η)++x))))
def yn (x:η):J η:=chk (bc (ah x) 8) λ_=>Z x
def rL (it:xT) (x:iI×Int×(θ)×Y dI):J Yd3:=
 (bo (cP 0 (aY x.1)&&cP (aY x.1) (aY x.1)&&bc (aP (aY x.1)) 32) (it (Int×pR×Int×Y (Int×η)) _ (λx1=>(bx x1.1 (aY x.1) (bG dt x.1 x1.1 λd=>(av (wy d.2) λz=>(ck (e9 x1.1 (ah x1.q3)) (cI ((cu x1.1),x1.2.1,x1.p2,(cj x1.q3 x1.1 (d.1,z))))))) (av (av (H8 x1.2.1.p2) λs=>(av (H5 x1.2.1.q3) λq=>(Z (x1.2.1.2.1,x1.q3,s,q)))) λr=>Z (bZ r)))) (0,x,0,(aA (aP (aY x.1)) ((0,[]):Int×η)))))
def uS (x:iI×Int×(θ)×Y dI):J Yd3:=rL @iter x
def kD (x:iI×Int×(θ)×Y dI):J Yd3:=rL @fR x
def qp (it:xT) (x:ν×iI×(θ)×Y dI):J Yd3:=
 (it (Γ×iI×(θ)×(Y dI)×Int) _ (λx1=>(bx x1.1.2 (aY x.q3) (jn (j7 gF x1.p3 x1.1.2 λq=>(jn (av (ml (q,x.1.2.1)) λs=>(aF s (bx x1.1.1 0 (aB (M,x1.2)) (aB ((decide ((x1.1.2:Int)=x.1.2.2)),x1.2))) (aB (aa,x1.2)))) λd=>(aF d.1 (aB (x1.1.2,d.2)) (aB (x1.1.1,d.2))))) λx2=>(cI ((x2.1,(cu x1.1.2)),x2.2))) (av (jn (α:=iI×(θ)×Y dI) (jk 0 x1.1.1 (ck (e9 x1.1.1 (ah x1.p3)) (aB (x1.2.1,x1.p2,(cj x1.p3 x1.1.1 (4,(aG (T:=gF) x1.p3 x1.1.1).2))))) (aB (x1.2.1,x1.p2,x1.p3))) λz=>(Z (x1.1.1,z))) λr=>Z (bZ r)))) (((-1),0),x.2.1,x.p2,x.q3,x.1.1))
def tu (x:ν×iI×(θ)×Y dI):J Yd3:=qp @iter x
def jI (x:ν×iI×(θ)×Y dI):J Yd3:=qp @fR x
def mF (it:xT) (x:Γ×iI×(θ)×Y dI):J Yd3:=
 (it (Γ×iI×(θ)×(Y dI)×Int) _ (λx1=>(bx x1.1.2 (aY x.q3) (jn (α:=Int×iI×(θ)×(Y dI)×Int) (j7 gF x1.p3 x1.1.2 λd=>(av (ml (d,x.1.2)) λq=>(aF q (ck (e9 x1.1.2 (ah x1.p3)) (aB ((cu x1.1.1),x1.2.1,x1.p2,(cj x1.p3 x1.1.2 (4,(aG (T:=gF) x1.p3 x1.1.2).2)),x1.q4))) (aB (x1.1.1,x1.2))))) λx2=>(cI ((x2.1,(cu x1.1.2)),x2.2))) (aB (x1.1.1,x1.2.1,x1.p2,x1.p3)))) ((0,0),x.2.1,x.p2,x.q3,x.1.1))
def qa (x:Γ×iI×(θ)×Y dI):J Yd3:=mF @iter x
def gL (x:Γ×iI×(θ)×Y dI):J Yd3:=mF @fR x
def ql (x:Int):J (Bool):=
 (Z (!decide ((x:Int)=x)))
def uU (x:Γ):J (Bool):=
 (jn (av (ql x.1) λq=>(aF q (av (ql x.2) λd=>(aF (!d) (aB M) (aB (fK x.1 x.2)))) (aB (fK x.1 x.2)))) λx1=>(Z x1))
def qY (x:Int):J (Int):=
 (jk 4294967296 x U (jk 65536 x U (jk 256 x U (l8 (a9 .u8 x) ([0,1,2,2,3,3,3,3,4,4,4,4,4,4,4,4,5,5,5,5,5,5,5,5,5,5,5,5,5,5,5,5,6,6,6,6,6,6,6,6,6,6,6,6,6,6,6,6,6,6,6,6,6,6,6,6,6,6,6,6,6,6,6,6,7,7,7,7,7,7,7,7,7,7,7,7,7,7,7,7,7,7,7,7,7,7,7,7,7,7,7,7,7,7,7,7,7,7,7,7,7,7,7,7,7,7,7,7,7,7,7,7,7,7,7,7,7,7,7,7,7,7,7,7,7,7,7,7,8,8,8,8,8,8,8,8,8,8,8,8,8,8,8,8,8,8,8,8,8,8,8,8,8,8,8,8,8,8,8,8,8,8,8,8,8,8,8,8,8,8,8,8,8,8,8,8,8,8,8,8,8,8,8,8,8,8,8,8,8,8,8,8,8,8,8,8,8,8,8,8,8,8,8,8,8,8,8,8,8,8,8,8,8,8,8,8,8,8,8,8,8,8,8,8,8,8,8,8,8,8,8,8,8,8,8,8,8,8,8,8,8,8,8,8,8,8,8,8,8,8,8,8,8,8,8,8]) (Z (a9 .i64 (0+(a9 .i64 (qJ ([0,1,2,2,3,3,3,3,4,4,4,4,4,4,4,4,5,5,5,5,5,5,5,5,5,5,5,5,5,5,5,5,6,6,6,6,6,6,6,6,6,6,6,6,6,6,6,6,6,6,6,6,6,6,6,6,6,6,6,6,6,6,6,6,7,7,7,7,7,7,7,7,7,7,7,7,7,7,7,7,7,7,7,7,7,7,7,7,7,7,7,7,7,7,7,7,7,7,7,7,7,7,7,7,7,7,7,7,7,7,7,7,7,7,7,7,7,7,7,7,7,7,7,7,7,7,7,7,8,8,8,8,8,8,8,8,8,8,8,8,8,8,8,8,8,8,8,8,8,8,8,8,8,8,8,8,8,8,8,8,8,8,8,8,8,8,8,8,8,8,8,8,8,8,8,8,8,8,8,8,8,8,8,8,8,8,8,8,8,8,8,8,8,8,8,8,8,8,8,8,8,8,8,8,8,8,8,8,8,8,8,8,8,8,8,8,8,8,8,8,8,8,8,8,8,8,8,8,8,8,8,8,8,8,8,8,8,8,8,8,8,8,8,8,8,8,8,8,8,8,8,8,8,8,8,8]) (a9 .u8 x))))))))))
def tJ (x:Int):J (Int):=
 (av (qY x) λd=>(Z d))
def jZ (it:xT) (x:Γ×η):J η:=
 (it (Int×η) _ (λx1=>(bx x1.1 x.1.2 (it (Int×η) _ (λx2=>(jn (bx x.1.1 x2.1 (j7 aM x2.2 x2.1 λA=>(j7 aM x2.2 (a9 .i64 (x2.1-1)) λz=>(av (uU (A,z)) λD=>(aB (D,x2.2))))) (aB (aa,x2.2))) λd=>(aF d.1 (j7 aM d.2 (a9 .i64 (x2.1-1)) λq=>(j7 aM d.2 x2.1 λs=>(ck (e9 x2.1 (ah d.2)) (ck (e9 (a9 .i64 (x2.1-1)) (ah (cj d.2 x2.1 q))) (cI ((a9 .i64 (x2.1-1)),(cj (cj d.2 x2.1 q) (a9 .i64 (x2.1-1)) s))))))) (aB (oL ((cu x1.1),d.2)))))) x1) (aB x1.2))) ((cu x.1.1),x.2))
def jY (x:Γ×η):J η:=jZ @iter x
def fB (x:Γ×η):J η:=jZ @fR x
def oe (it:xT) (x:ν×η):J η:=
 (it ((Int×Int×Int×Bool×Bool)×η) _ (λx1=>(jk (a9 .i64 (x1.1.2.1-x1.1.1)) 12 (av (fB ((x1.1.1,x1.1.2.1),x1.2)) λd=>(bo (aw (ah x1.2) (ah d)&&M) (aB d))) (bf x1.1.p2 0 U (aF (!x1.1.p3) U U)))) ((x.1.1,x.1.2.1,x.1.2.2,M,M),x.2))
def n7 (x:ν×η):J η:=oe @iter x
def jg (x:ν×η):J η:=oe @fR x
def iT (x:η):J η:=
 (av (tJ (a9 .u64 (aY x))) λq=>(av (jg ((0,(aY x),q),x)) λd=>(bo (aw (ah x) (ah d)&&M) (Z d))))
def wK (it:xT) (x:η):J η:=
 (bx (aY x) 2 (Z x) (it (Int×η) _ (λx1=>(bx x1.1 (aY x1.2) (j7 aM x1.2 x1.1 λq=>(j7 aM x1.2 (a9 .i64 (x1.1-1)) λd=>(bf q d (bo (cP 0 x1.1&&fK x1.1 (ah x1.2)) U) (cI ((cu x1.1),x1.2))))) (aB x1.2))) (1,x)))
def ww (x:η):J η:=wK @iter x
def ec (x:η):J η:=wK @fR x
def oU (x:Γ):J (Bool×Int):=
 (Z ((decide ((x.1:Int)=x.2)),x.2))
def tT (it:xT) (x:η×Int):J (Int×(η)×Int):=
 (it (Int×(η)×Int) _ (λx1=>(bx x1.1 (aY x.1) (j7 aM x1.2.1 x1.1 λq=>(av (oU (q,x1.2.2)) λd=>(aF d.1 (aB (x1.1,x1.2.1,d.2)) (cI ((cu x1.1),x1.2.1,d.2))))) (aB ((-1),x1.2)))) (0,x))
def tw (x:η×Int):J (Int×(η)×Int):=tT @iter x
def nu (x:η×Int):J (Int×(η)×Int):=tT @fR x
def su (it:xT) (x:η×Int):J (Int×η):=
 (av (nu x) λd=>(bo (aw (ah x.1) (ah d.2.1)&&M) (bf d.1 (-1) U (it (Γ×(η)×Int) _ (λx2=>(bx x2.1.2 (aY x2.2.1) (jn (j7 aM x2.2.1 x2.1.2 λs=>(av (oU (s,x2.2.2)) λq=>(aF (!q.1) (ck (e9 x2.1.1 (ah x2.2.1)) (aB ((cu x2.1.1),(cj x2.2.1 x2.1.1 s),q.2))) (aB (x2.1.1,x2.2.1,q.2))))) λz=>(cI ((z.1,(cu x2.1.2)),z.2))) (av (ck (cP 0 x2.1.1&&fK x2.1.1 (ah x2.2.1)) (bo (cP 0 x2.1.1&&fK x2.1.1 (ah (cM (aP x2.1.1) x2.2.1++aA (ah x2.2.1-aP x2.1.1) (0:Int)))) (Z (x2.2.2,(cM (aP x2.1.1) (cM (aP x2.1.1) x2.2.1++aA (ah x2.2.1-aP x2.1.1) (0:Int))))))) λr=>Z (bZ r)))) ((d.1,(cu d.1)),d.2)))))
def sq (x:η×Int):J (Int×η):=su @iter x
def db (x:η×Int):J (Int×η):=su @fR x
def gM (x:eP×pR×Int×Int×Int×Int):J (pR×Int×Bool):=
 (av (eg (x.1,x.2.1,x.p2,x.p3,x.p4)) λL=>(aF (!L) (Z ((([]:Y (Int×η)),0,([]:θ),([]:Y dI)),0,aa)) (av (kD x.2.1) λq=>(jn (α:=Int×Int×Int×iI×(θ)×Y dI) (bf x.p3 1 (ck (e9 x.p2 (ah q.q3)) (aB (0,q.1,0,q.2.1,q.p2,(cj q.q3 x.p2 (2,(aG (T:=gF) q.q3 x.p2).2))))) (bf x.p3 2 (ck (e9 x.p2 (ah q.q3)) (aB (0,q.1,0,q.2.1,q.p2,(cj q.q3 x.p2 (5,(aG (T:=gF) q.q3 x.p2).2))))) (jn (α:=Bool×eP×Int×Int×Int×iI×(θ)×Y dI) (bf x.p3 6 (aB ((decide ((x.p3:Int)=6)),x.1,q.1,x.p2,0,q.2)) (aB ((decide ((x.p3:Int)=10)),x.1,q.1,x.p2,0,q.2))) λA=>(aF A.1 (ck (e9 x.p4 (ah A.p5)) (aB (0,A.p2,A.p4,(cj A.p5 x.p4 (A.p3,(aG (T:=dt) A.p5 x.p4).2)),A.q6))) (jn (bf x.p3 7 (aB ((decide ((x.p3:Int)=7)),A.2)) (aB ((decide ((x.p3:Int)=11)),A.2))) λd=>(aF d.1 (ck (e9 x.p4 (ah d.p5)) (aB (0,d.p2,d.p4,(cj d.p5 x.p4 ((-1),(aG (T:=dt) d.p5 x.p4).2)),d.q6))) (bf x.p3 8 (j7 dt d.p5 x.p4 λz6=>U) (bf x.p3 9 (j7 dt d.p5 x.p4 λz7=>U) (bf x.p3 12 (aB (0,d.q3)) (bf x.p3 13 (aB (0,(-1),d.q4)) (bf x.p3 14 (ck (e9 d.p3 (ah d.q7)) (aB (0,d.p2,d.p4,d.p5,d.p6,(cj d.q7 d.p3 ((aG (T:=gF) d.q7 d.p3).1,((aG (T:=gF) d.q7 d.p3).2).1,M))))) (bf x.p3 15 (ck (e9 d.p3 (ah d.q7)) (aB (0,d.p2,d.p4,d.p5,d.p6,(cj d.q7 d.p3 ((aG (T:=gF) d.q7 d.p3).1,((aG (T:=gF) d.q7 d.p3).2).1,aa))))) (bf x.p3 16 (bG lZ d.2.1.p2 x.p4 λI=>(ck (e9 I.2 (ah d.p5)) (ck (e9 d.p3 (ah d.q7)) (ck (e9 d.p3 (ah (cj d.q7 d.p3 (3,(aG (T:=gF) d.q7 d.p3).2)))) (aB (0,d.p2,d.p4,(cj d.p5 I.2 ((-1),(aG (T:=dt) d.p5 I.2).2)),d.p6,(cj (cj d.q7 d.p3 (3,(aG (T:=gF) d.q7 d.p3).2)) d.p3 ((aG (T:=gF) (cj d.q7 d.p3 (3,(aG (T:=gF) d.q7 d.p3).2)) d.p3).1,x.p4,((aG (T:=gF) (cj d.q7 d.p3 (3,(aG (T:=gF) d.q7 d.p3).2)) d.p3).2).2)))))))) (bf x.p3 17 (bG lZ d.2.1.p2 x.p4 λF=>(ck (e9 F.2 (ah d.p5)) (ck (e9 d.p3 (ah d.q7)) (ck (e9 d.p3 (ah (cj d.q7 d.p3 (2,(aG (T:=gF) d.q7 d.p3).2)))) (aB (0,d.p2,d.p4,(cj d.p5 F.2 (d.p3,(aG (T:=dt) d.p5 F.2).2)),d.p6,(cj (cj d.q7 d.p3 (2,(aG (T:=gF) d.q7 d.p3).2)) d.p3 ((aG (T:=gF) (cj d.q7 d.p3 (2,(aG (T:=gF) d.q7 d.p3).2)) d.p3).1,0,((aG (T:=gF) (cj d.q7 d.p3 (2,(aG (T:=gF) d.q7 d.p3).2)) d.p3).2).2)))))))) (bf x.p3 18 (av (jI ((d.p2,x.q4),d.q5)) λz=>(bo (aw (ah d.q7) (ah z.q3)&&(aw (ah d.p6) (ah z.p2)&&(aw (ah d.p5) (ah z.2.1)&&M))) (aB (z.1,d.p2,d.p4,z.2)))) (bf x.p3 19 (av (gL ((d.p2,x.p4),d.q5)) λs=>(bo (aw (ah d.q7) (ah s.q3)&&(aw (ah d.p6) (ah s.p2)&&(aw (ah d.p5) (ah s.2.1)&&M))) (aB (s.1,d.p2,d.p4,s.2)))) (bf x.p3 20 (ck (e9 x.p4 (ah d.q7)) (aB (0,d.p2,d.p4,d.p5,d.p6,(cj d.q7 x.p4 (1,(aG (T:=gF) d.q7 x.p4).2))))) (bf x.p3 22 (ck (e9 x.p4 (ah d.p6)) (aB (0,d.p2,d.p4,d.p5,(cj d.p6 x.p4 M),d.q7))) (aB (0,d.p2,d.q4)))))))))))))))))))) λD=>(Z ((D.p3,D.2.1,D.q4),D.1,M))))))
def i_ (x:iI×Int×(θ)×Y dI):J (Yk×Int×η):=
 (bo (cP 0 (aY x.1)&&cP (aY x.1) (aY x.1)&&bc (aP (aY x.1)) 32&&decide (((aY x.1):Int)=1)) (jn (α:=pR×Int×Int×η) (bx 0 (aY x.1) (bG dt x.1 0 λd=>(av (gg d.2) λA=>(bx 1 (aY x.1) (bG dt x.1 1 λq=>(av (gg q.2) λD=>U)) (aB (x,0,d.1,A))))) (aB (x,0,0,([]:η)))) λx1=>(av (zo x1.1.p2) λz=>(av (zn x1.1.q3) λs=>(Z ((x1.1.2.1,z,s),x1.2.2))))))
def gf (x:eP×pR×Int×Int×Int×Int):J (pR×Int×Bool):=
 (av (eg (x.1,x.2.1,x.p2,x.p3,x.p4)) λI=>(aF (!I) (Z ((([]:Y (Int×η)),0,([]:θ),([]:Y dI)),0,aa)) (av (i_ x.2.1) λq=>(jn (α:=Int×Yk×Int×Int×η) (bf x.p3 1 (l8 x.p2 q.1.2.2 U) (bf x.p3 2 (l8 x.p2 q.1.2.2 U) (jn (α:=Bool×eP×Yk×Int×Int×Int×η) (bf x.p3 6 (aB ((decide ((x.p3:Int)=6)),x.1,q.1,x.p2,0,q.2)) (aB ((decide ((x.p3:Int)=10)),x.1,q.1,x.p2,0,q.2))) λz=>(aF z.1 U (jn (bf x.p3 7 (aB ((decide ((x.p3:Int)=7)),z.2)) (aB ((decide ((x.p3:Int)=11)),z.2))) λd=>(aF d.1 U (bf x.p3 8 (bf x.p4 0 (bo (bc (ah d.q6+ah ([d.p3])) 8) (av (iT (d.q6++([d.p3]))) λs=>(bo (aw (ah (d.q6++([d.p3]))) (ah s)&&M) (av (ec s) λD=>(bo (aw (ah s) (ah D)&&M) (aB (0,d.p2,d.p4,d.p5,D))))))) U) (bf x.p3 9 (bf x.p4 0 (av (db (d.q6,d.p3)) λF=>(bo (aw (ah d.q6) (ah d.q6)&&M) (aB (0,d.p2,d.p4,d.p5,F.2)))) U) (bf x.p3 12 (aB (0,(d.p3,d.p2.2),d.q4)) (bf x.p3 13 (aB (0,((-1),d.p2.2),d.q4)) (bf x.p3 14 (l8 d.p3 d.p2.2.2 U) (bf x.p3 15 (l8 d.p3 d.p2.2.2 U) (bf x.p3 16 U (bf x.p3 17 U (bf x.p3 18 U (bf x.p3 19 U (bf x.p3 20 (l8 x.p4 d.p2.2.2 U) (bf x.p3 22 (l8 x.p4 d.p2.2.1 U) (aB (0,d.p2,d.q4)))))))))))))))))))) λA=>(Z (([A.q3],A.2.1),A.1,M))))))
def iZ (x:iI×Int×(θ)×Y dI):J (Yk×(Γ)×(η)×η):=
 (bo (cP 0 (aY x.1)&&cP (aY x.1) (aY x.1)&&bc (aP (aY x.1)) 32&&decide (((aY x.1):Int)=2)) (jn (α:=pR×Int×(Γ)×(η)×η) (bx 0 (aY x.1) (bG dt x.1 0 λd=>(av (gg d.2) λs=>(bx 1 (aY x.1) (bG dt x.1 1 λq=>(av (gg q.2) λF=>(bx 2 (aY x.1) (bG dt x.1 2 λz=>(av (gg z.2) λI=>U)) (aB (x,0,(d.1,q.1),s,F))))) (aB (x,0,(d.1,0),s,([]:η)))))) (aB (x,0,(0,0),([]:η),([]:η)))) λx1=>(av (zo x1.1.p2) λD=>(av (zn x1.1.q3) λA=>(Z ((x1.1.2.1,D,A),x1.2.2))))))
def fo (x:eP×pR×Int×Int×Int×Int):J (pR×Int×Bool):=
 (av (eg (x.1,x.2.1,x.p2,x.p3,x.p4)) λy1=>(aF (!y1) (Z ((([]:Y (Int×η)),0,([]:θ),([]:Y dI)),0,aa)) (av (iZ x.2.1) λq=>(jn (α:=Int×Yk×Int×Int×(η)×Int×η) (bf x.p3 1 (l8 x.p2 q.1.2.2 U) (bf x.p3 2 (l8 x.p2 q.1.2.2 U) (jn (α:=Bool×eP×Yk×Int×Int×(Γ)×(η)×η) (bf x.p3 6 (aB ((decide ((x.p3:Int)=6)),x.1,q.1,x.p2,0,q.2)) (aB ((decide ((x.p3:Int)=10)),x.1,q.1,x.p2,0,q.2))) λI=>(aF I.1 U (jn (bf x.p3 7 (aB ((decide ((x.p3:Int)=7)),I.2)) (aB ((decide ((x.p3:Int)=11)),I.2))) λd=>(aF d.1 U (bf x.p3 8 (bf x.p4 0 (bo (bc (ah d.p6+ah ([d.p3])) 8) (av (iT (d.p6++([d.p3]))) λA=>(bo (aw (ah (d.p6++([d.p3]))) (ah A)&&M) (av (ec A) λy7=>(bo (aw (ah A) (ah y7)&&M) (aB (0,d.p2,d.p4,d.p5.1,y7,d.p5.2,d.q7))))))) (bf x.p4 1 (bo (bc (ah d.q7+ah ([d.p3])) 8) (av (iT (d.q7++([d.p3]))) λz=>(bo (aw (ah (d.q7++([d.p3]))) (ah z)&&M) (av (ec z) λL=>(bo (aw (ah z) (ah L)&&M) (aB (0,d.p2,d.p4,d.p5.1,d.p6,d.p5.2,L))))))) U)) (bf x.p3 9 (bf x.p4 0 (av (db (d.p6,d.p3)) λF=>(bo (aw (ah d.p6) (ah d.p6)&&M) (aB (0,d.p2,d.p4,d.p5.1,F.2,d.p5.2,d.q7)))) (bf x.p4 1 (av (db (d.q7,d.p3)) λD=>(bo (aw (ah d.q7) (ah d.q7)&&M) (aB (0,d.p2,d.p4,d.p5.1,d.p6,d.p5.2,D.2)))) U)) (bf x.p3 12 (aB (0,(d.p3,d.p2.2),d.p4,d.p5.1,d.p6,d.p5.2,d.q7)) (bf x.p3 13 (aB (0,((-1),d.p2.2),d.p4,d.p5.1,d.p6,d.p5.2,d.q7)) (bf x.p3 14 (l8 d.p3 d.p2.2.2 U) (bf x.p3 15 (l8 d.p3 d.p2.2.2 U) (bf x.p3 16 U (bf x.p3 17 U (bf x.p3 18 U (bf x.p3 19 U (bf x.p3 20 (l8 x.p4 d.p2.2.2 U) (bf x.p3 22 (l8 x.p4 d.p2.2.1 U) (aB (0,d.p2,d.p4,d.p5.1,d.p6,d.p5.2,d.q7)))))))))))))))))))) λs=>(Z (([(s.p3,s.p4),s.q5],s.2.1),s.1,M))))))
def iY (x:iI×Int×(θ)×Y dI):J (Yk×(ν)×(η)×(η)×η):=
 (bo (cP 0 (aY x.1)&&cP (aY x.1) (aY x.1)&&bc (aP (aY x.1)) 32&&decide (((aY x.1):Int)=3)) (jn (α:=pR×Int×(ν)×(η)×(η)×η) (bx 0 (aY x.1) (bG dt x.1 0 λd=>(av (gg d.2) λs=>(bx 1 (aY x.1) (bG dt x.1 1 λq=>(av (gg q.2) λF=>(bx 2 (aY x.1) (bG dt x.1 2 λD=>(av (gg D.2) λL=>(bx 3 (aY x.1) (bG dt x.1 3 λI=>(av (gg I.2) λy9=>U)) (aB (x,0,(d.1,q.1,D.1),s,F,L))))) (aB (x,0,(d.1,q.1,0),s,F,([]:η)))))) (aB (x,0,(d.1,0,0),s,([]:η),([]:η)))))) (aB (x,0,(0,0,0),([]:η),([]:η),([]:η)))) λx1=>(av (zo x1.1.p2) λA=>(av (zn x1.1.q3) λz=>(Z ((x1.1.2.1,A,z),x1.2.2))))))
def eR (x:eP×pR×Int×Int×Int×Int):J (pR×Int×Bool):=
 (av (eg (x.1,x.2.1,x.p2,x.p3,x.p4)) λy1=>(aF (!y1) (Z ((([]:Y (Int×η)),0,([]:θ),([]:Y dI)),0,aa)) (av (iY x.2.1) λz=>(jn (α:=Int×Yk×Int×Int×(η)×Int×(η)×Int×η) (bf x.p3 1 (l8 x.p2 z.1.2.2 U) (bf x.p3 2 (l8 x.p2 z.1.2.2 U) (jn (α:=Bool×eP×Yk×Int×Int×(ν)×(η)×(η)×η) (bf x.p3 6 (aB ((decide ((x.p3:Int)=6)),x.1,z.1,x.p2,0,z.2)) (aB ((decide ((x.p3:Int)=10)),x.1,z.1,x.p2,0,z.2))) λx4=>(aF x4.1 U (jn (bf x.p3 7 (aB ((decide ((x.p3:Int)=7)),x4.2)) (aB ((decide ((x.p3:Int)=11)),x4.2))) λd=>(aF d.1 U (bf x.p3 8 (bf x.p4 0 (bo (bc (ah d.p6+ah ([d.p3])) 8) (av (iT (d.p6++([d.p3]))) λF=>(bo (aw (ah (d.p6++([d.p3]))) (ah F)&&M) (av (ec F) λy7=>(bo (aw (ah F) (ah y7)&&M) (aB (0,d.p2,d.p4,d.p5.1,y7,d.p5.2.1,d.p7,d.p5.2.2,d.q8))))))) (bf x.p4 1 (bo (bc (ah d.p7+ah ([d.p3])) 8) (av (iT (d.p7++([d.p3]))) λD=>(bo (aw (ah (d.p7++([d.p3]))) (ah D)&&M) (av (ec D) λy9=>(bo (aw (ah D) (ah y9)&&M) (aB (0,d.p2,d.p4,d.p5.1,d.p6,d.p5.2.1,y9,d.p5.2.2,d.q8))))))) (bf x.p4 2 (bo (bc (ah d.q8+ah ([d.p3])) 8) (av (iT (d.q8++([d.p3]))) λq=>(bo (aw (ah (d.q8++([d.p3]))) (ah q)&&M) (av (ec q) λA=>(bo (aw (ah q) (ah A)&&M) (aB (0,d.p2,d.p4,d.p5.1,d.p6,d.p5.2.1,d.p7,d.p5.2.2,A))))))) U))) (bf x.p3 9 (bf x.p4 0 (av (db (d.p6,d.p3)) λy12=>(bo (aw (ah d.p6) (ah d.p6)&&M) (aB (0,d.p2,d.p4,d.p5.1,y12.2,d.p5.2.1,d.p7,d.p5.2.2,d.q8)))) (bf x.p4 1 (av (db (d.p7,d.p3)) λL=>(bo (aw (ah d.p7) (ah d.p7)&&M) (aB (0,d.p2,d.p4,d.p5.1,d.p6,d.p5.2.1,L.2,d.p5.2.2,d.q8)))) (bf x.p4 2 (av (db (d.q8,d.p3)) λI=>(bo (aw (ah d.q8) (ah d.q8)&&M) (aB (0,d.p2,d.p4,d.p5.1,d.p6,d.p5.2.1,d.p7,d.p5.2.2,I.2)))) U))) (bf x.p3 12 (aB (0,(d.p3,d.p2.2),d.p4,d.p5.1,d.p6,d.p5.2.1,d.p7,d.p5.2.2,d.q8)) (bf x.p3 13 (aB (0,((-1),d.p2.2),d.p4,d.p5.1,d.p6,d.p5.2.1,d.p7,d.p5.2.2,d.q8)) (bf x.p3 14 (l8 d.p3 d.p2.2.2 U) (bf x.p3 15 (l8 d.p3 d.p2.2.2 U) (bf x.p3 16 U (bf x.p3 17 U (bf x.p3 18 U (bf x.p3 19 U (bf x.p3 20 (l8 x.p4 d.p2.2.2 U) (bf x.p3 22 (l8 x.p4 d.p2.2.1 U) (aB (0,d.p2,d.p4,d.p5.1,d.p6,d.p5.2.1,d.p7,d.p5.2.2,d.q8)))))))))))))))))))) λs=>(Z (([(s.p3,s.p4),(s.p5,s.p6),s.q7],s.2.1),s.1,M))))))
def mc (x:iI×Int×(θ)×Y dI):J (Yk×(π)×(η)×(η)×(η)×η):=
 (bo (cP 0 (aY x.1)&&cP (aY x.1) (aY x.1)&&bc (aP (aY x.1)) 32&&decide (((aY x.1):Int)=4)) (jn (α:=pR×Int×(π)×(η)×(η)×(η)×η) (bx 0 (aY x.1) (bG dt x.1 0 λd=>(av (gg d.2) λs=>(bx 1 (aY x.1) (bG dt x.1 1 λq=>(av (gg q.2) λD=>(bx 2 (aY x.1) (bG dt x.1 2 λz=>(av (gg z.2) λy7=>(bx 3 (aY x.1) (bG dt x.1 3 λL=>(av (gg L.2) λy9=>(bx 4 (aY x.1) (bG dt x.1 4 λA=>(av (gg A.2) λy11=>U)) (aB (x,0,(d.1,q.1,z.1,L.1),s,D,y7,y9))))) (aB (x,0,(d.1,q.1,z.1,0),s,D,y7,([]:η)))))) (aB (x,0,(d.1,q.1,0,0),s,D,([]:η),([]:η)))))) (aB (x,0,(d.1,0,0,0),s,([]:η),([]:η),([]:η)))))) (aB (x,0,(0,0,0,0),([]:η),([]:η),([]:η),([]:η)))) λx1=>(av (zo x1.1.p2) λI=>(av (zn x1.1.q3) λF=>(Z ((x1.1.2.1,I,F),x1.2.2))))))
def gd (x:eP×pR×Int×Int×Int×Int):J (pR×Int×Bool):=
 (av (eg (x.1,x.2.1,x.p2,x.p3,x.p4)) λy1=>(aF (!y1) (Z ((([]:Y (Int×η)),0,([]:θ),([]:Y dI)),0,aa)) (av (mc x.2.1) λA=>(jn (α:=Int×Yk×Int×Int×(η)×Int×(η)×Int×(η)×Int×η) (bf x.p3 1 (l8 x.p2 A.1.2.2 U) (bf x.p3 2 (l8 x.p2 A.1.2.2 U) (jn (α:=Bool×eP×Yk×Int×Int×(π)×(η)×(η)×(η)×η) (bf x.p3 6 (aB ((decide ((x.p3:Int)=6)),x.1,A.1,x.p2,0,A.2)) (aB ((decide ((x.p3:Int)=10)),x.1,A.1,x.p2,0,A.2))) λx4=>(aF x4.1 U (jn (bf x.p3 7 (aB ((decide ((x.p3:Int)=7)),x4.2)) (aB ((decide ((x.p3:Int)=11)),x4.2))) λd=>(aF d.1 U (bf x.p3 8 (bf x.p4 0 (bo (bc (ah d.p6+ah ([d.p3])) 8) (av (iT (d.p6++([d.p3]))) λL=>(bo (aw (ah (d.p6++([d.p3]))) (ah L)&&M) (av (ec L) λy7=>(bo (aw (ah L) (ah y7)&&M) (aB (0,d.p2,d.p4,d.p5.1,y7,d.p5.2.1,d.p7,d.p5.p2,d.p8,d.p5.q3,d.q9))))))) (bf x.p4 1 (bo (bc (ah d.p7+ah ([d.p3])) 8) (av (iT (d.p7++([d.p3]))) λI=>(bo (aw (ah (d.p7++([d.p3]))) (ah I)&&M) (av (ec I) λy9=>(bo (aw (ah I) (ah y9)&&M) (aB (0,d.p2,d.p4,d.p5.1,d.p6,d.p5.2.1,y9,d.p5.p2,d.p8,d.p5.q3,d.q9))))))) (bf x.p4 2 (bo (bc (ah d.p8+ah ([d.p3])) 8) (av (iT (d.p8++([d.p3]))) λz=>(bo (aw (ah (d.p8++([d.p3]))) (ah z)&&M) (av (ec z) λF=>(bo (aw (ah z) (ah F)&&M) (aB (0,d.p2,d.p4,d.p5.1,d.p6,d.p5.2.1,d.p7,d.p5.p2,F,d.p5.q3,d.q9))))))) (bf x.p4 3 (bo (bc (ah d.q9+ah ([d.p3])) 8) (av (iT (d.q9++([d.p3]))) λs=>(bo (aw (ah (d.q9++([d.p3]))) (ah s)&&M) (av (ec s) λD=>(bo (aw (ah s) (ah D)&&M) (aB (0,d.p2,d.p4,d.p5.1,d.p6,d.p5.2.1,d.p7,d.p5.p2,d.p8,d.p5.q3,D))))))) U)))) (bf x.p3 9 (bf x.p4 0 (av (db (d.p6,d.p3)) λy14=>(bo (aw (ah d.p6) (ah d.p6)&&M) (aB (0,d.p2,d.p4,d.p5.1,y14.2,d.p5.2.1,d.p7,d.p5.p2,d.p8,d.p5.q3,d.q9)))) (bf x.p4 1 (av (db (d.p7,d.p3)) λy15=>(bo (aw (ah d.p7) (ah d.p7)&&M) (aB (0,d.p2,d.p4,d.p5.1,d.p6,d.p5.2.1,y15.2,d.p5.p2,d.p8,d.p5.q3,d.q9)))) (bf x.p4 2 (av (db (d.p8,d.p3)) λy16=>(bo (aw (ah d.p8) (ah d.p8)&&M) (aB (0,d.p2,d.p4,d.p5.1,d.p6,d.p5.2.1,d.p7,d.p5.p2,y16.2,d.p5.q3,d.q9)))) (bf x.p4 3 (av (db (d.q9,d.p3)) λy17=>(bo (aw (ah d.q9) (ah d.q9)&&M) (aB (0,d.p2,d.p4,d.p5.1,d.p6,d.p5.2.1,d.p7,d.p5.p2,d.p8,d.p5.q3,y17.2)))) U)))) (bf x.p3 12 (aB (0,(d.p3,d.p2.2),d.p4,d.p5.1,d.p6,d.p5.2.1,d.p7,d.p5.p2,d.p8,d.p5.q3,d.q9)) (bf x.p3 13 (aB (0,((-1),d.p2.2),d.p4,d.p5.1,d.p6,d.p5.2.1,d.p7,d.p5.p2,d.p8,d.p5.q3,d.q9)) (bf x.p3 14 (l8 d.p3 d.p2.2.2 U) (bf x.p3 15 (l8 d.p3 d.p2.2.2 U) (bf x.p3 16 U (bf x.p3 17 U (bf x.p3 18 U (bf x.p3 19 U (bf x.p3 20 (l8 x.p4 d.p2.2.2 U) (bf x.p3 22 (l8 x.p4 d.p2.2.1 U) (aB (0,d.p2,d.p4,d.p5.1,d.p6,d.p5.2.1,d.p7,d.p5.p2,d.p8,d.p5.q3,d.q9)))))))))))))))))))) λq=>(Z (([(q.p3,q.p4),(q.p5,q.p6),(q.p7,q.p8),q.q9],q.2.1),q.1,M))))))
def rF (x:eP×pR×Int×Int×Int×Int):J (pR×Int×Bool):=orE (gM x) (orE (gf x) (orE (fo x) (orE (eR x) (gd x))))
def dR (x:eP×fV×Int×Int×Int×Int×Int×(η)×η):J (fV×Bool):=
 (jn (α:=Bool×eP×fV×jD×Int) (av (ie (x.1,x.2.1)) λy2=>(aF (!y2) (aB (M,x.1,x.2.1,x.2.2,0)) (bx x.p2 0 (aB (M,x.1,x.2.1,x.2.2,0)) (jk (aY x.1.p4) x.p2 (aB (M,x.1,x.2.1,x.2.2,0)) (bx x.p3 1 (aB (M,x.1,x.2.1,x.2.2,0)) (aB ((fK 23 x.p3),x.1,x.2.1,x.2.2,0))))))) λx1=>(aF x1.1 (Z (((([]:Y (Int×η)),0,([]:θ),([]:Y dI)),([]:η),([]:η),([]:η)),aa)) (jn (av (eg (x1.2.1,x1.p2.1,x1.p3.1,x1.p3.2.1,x1.p3.p2)) λy4=>(aF (!y4) (aB (M,x1.2)) (av (gr (x1.2.1,x1.p3)) λy5=>(aF (!y5) (aB (M,x1.2)) (av (dy (x1.2.1,x1.p2,x1.p3)) λy6=>(aF (!y6) (aB (M,x1.2)) (av (eK (x1.p2,x1.p3)) λL=>(aB ((!L),x1.2))))))))) λD=>(aF D.1 (Z (((([]:Y (Int×η)),0,([]:θ),([]:Y dI)),([]:η),([]:η),([]:η)),aa)) (jn (α:=Int×eP×fV×jD×Int) (bf D.p3.2.1 18 (aB (D.p3.p3,D.2)) (aB ((-1),D.2))) λd=>(av (rF (d.2.1,d.p2.1,d.p3.1,d.p3.2.1,d.p3.p2,d.1)) λF=>(aF (!F.2.2) (Z (((([]:Y (Int×η)),0,([]:θ),([]:Y dI)),([]:η),([]:η),([]:η)),aa)) (av (yn d.p2.2.1) λz=>(av (yn d.p2.p2) λs=>(av (gg d.p2.q3) λA=>(jn (bf d.p3.2.1 4 (ck (e9 d.p3.p2 (ah z)) (aB (d.p3,d.q4,F.1,(cj z d.p3.p2 d.p3.p3),s,A))) (bf d.p3.2.1 22 (ck (e9 d.p3.p2 (ah s)) (aB (d.p3,d.q4,F.1,z,(cj s d.p3.p2 d.p3.p3),A))) (aB (d.p3,d.q4,F.1,z,s,A)))) λq=>(j7 aM q.q5 q.1.1 λI=>(ck (e9 q.1.1 (ah q.q5)) (Z ((q.p2,q.p3,q.p4,(cj q.q5 q.1.1 (cu I))),M)))))))))))))))
def lU (it:xT) (x:eP×Y jD):J Γ:=
 (bx 400 (aY x.2) (Z (0,2)) (av (dw x.1) λI=>(aF (!I) (Z (0,1)) (av (eB x.1) λF=>(bo (cP 0 (aY x.1.p4)&&cP (aY x.1.p4) (aY x.1.p4)&&bc (aP (aY x.1.p4)) 24&&decide (((aY x.1.p4):Int)=1)) (it (Int×(eP×Y jD)×fV×θ) _ (λq=>(bx q.1 (aY x.2) (bG gG x.2 q.1 λs=>(av (dR (q.2.1.1,q.p2,s)) λz=>(jn (α:=Bool×(eP×Y jD)×fV×jD×fV×θ) (aF z.2 (bf s.1 0 (av (bT (q.q3,0,s.2)) λD=>(aB ((!D),q.2.1,q.p2,(0,s.2),z.1,q.q3))) U) (aB (M,q.2.1,q.p2,s,z.1,q.q3))) λd=>(aF d.1 (aB (q.1,12)) (jn (α:=(eP×Y jD)×fV×fV×θ) (bf d.p3.1 0 (bf d.p3.2.1 3 (bo (bc (ah d.q5+ah ([M])) 1) (aB (d.2.1,d.p2,d.p4,(d.q5++([M]))))) (bo (bc (ah d.q5+ah ([(decide ((d.p3.2.1:Int)=23))])) 1) (aB (d.2.1,d.p2,d.p4,(d.q5++([(decide ((d.p3.2.1:Int)=23))])))))) U) λA=>(cI ((cu q.1),A.1,A.2.2))))))) (aB (0,0)))) (0,x,F,([]:θ))))))))
def pi (x:eP×Y jD):J Γ:=lU @iter x
def dY (x:eP×Y jD):J Γ:=lU @fR x
def jN (it:xT) (x:eP×Y jD):J Γ:=
 (bx 400 (aY x.2) (Z (0,2)) (av (dw x.1) λL=>(aF (!L) (Z (0,1)) (av (eB x.1) λI=>(bo (cP 0 (aY x.1.p4)&&cP (aY x.1.p4) (aY x.1.p4)&&bc (aP (aY x.1.p4)) 24&&decide (((aY x.1.p4):Int)=2)) (it (Int×(eP×Y jD)×fV×(θ)×θ) _ (λq=>(bx q.1 (aY x.2) (bG gG x.2 q.1 λs=>(av (dR (q.2.1.1,q.p2,s)) λz=>(jn (α:=Bool×(eP×Y jD)×fV×jD×fV×(θ)×θ) (aF z.2 (bf s.1 0 (av (bT (q.p3,0,s.2)) λF=>(aB ((!F),q.2.1,q.p2,(0,s.2),z.1,q.q3))) (bf s.1 1 (av (bT (q.q4,1,s.2)) λD=>(aB ((!D),q.2.1,q.p2,(1,s.2),z.1,q.q3))) U)) (aB (M,q.2.1,q.p2,s,z.1,q.q3))) λd=>(aF d.1 (aB (q.1,12)) (jn (α:=(eP×Y jD)×fV×fV×(θ)×θ) (bf d.p3.1 0 (bf d.p3.2.1 3 (bo (bc (ah d.p5+ah ([M])) 1) (aB (d.2.1,d.p2,d.p4,(d.p5++([M])),d.q6))) (bo (bc (ah d.p5+ah ([(decide ((d.p3.2.1:Int)=23))])) 1) (aB (d.2.1,d.p2,d.p4,(d.p5++([(decide ((d.p3.2.1:Int)=23))])),d.q6)))) (bf d.p3.1 1 (bf d.p3.2.1 3 (bo (bc (ah d.q6+ah ([M])) 1) (aB (d.2.1,d.p2,d.p4,d.p5,(d.q6++([M]))))) (bo (bc (ah d.q6+ah ([(decide ((d.p3.2.1:Int)=23))])) 1) (aB (d.2.1,d.p2,d.p4,d.p5,(d.q6++([(decide ((d.p3.2.1:Int)=23))])))))) U)) λA=>(cI ((cu q.1),A.1,A.2.2))))))) (aB (0,0)))) (0,x,I,([]:θ),([]:θ))))))))
def ph (x:eP×Y jD):J Γ:=jN @iter x
def dl (x:eP×Y jD):J Γ:=jN @fR x
def jM (it:xT) (x:eP×Y jD):J Γ:=
 (bx 400 (aY x.2) (Z (0,2)) (av (dw x.1) λy1=>(aF (!y1) (Z (0,1)) (av (eB x.1) λL=>(bo (cP 0 (aY x.1.p4)&&cP (aY x.1.p4) (aY x.1.p4)&&bc (aP (aY x.1.p4)) 24&&decide (((aY x.1.p4):Int)=3)) (it (Int×(eP×Y jD)×fV×(θ)×(θ)×θ) _ (λq=>(bx q.1 (aY x.2) (bG gG x.2 q.1 λs=>(av (dR (q.2.1.1,q.p2,s)) λz=>(jn (α:=Bool×(eP×Y jD)×fV×jD×fV×(θ)×(θ)×θ) (aF z.2 (bf s.1 0 (av (bT (q.p3,0,s.2)) λI=>(aB ((!I),q.2.1,q.p2,(0,s.2),z.1,q.q3))) (bf s.1 1 (av (bT (q.p4,1,s.2)) λF=>(aB ((!F),q.2.1,q.p2,(1,s.2),z.1,q.q3))) (bf s.1 2 (av (bT (q.q5,2,s.2)) λD=>(aB ((!D),q.2.1,q.p2,(2,s.2),z.1,q.q3))) U))) (aB (M,q.2.1,q.p2,s,z.1,q.q3))) λd=>(aF d.1 (aB (q.1,12)) (jn (α:=(eP×Y jD)×fV×fV×(θ)×(θ)×θ) (bf d.p3.1 0 (bf d.p3.2.1 3 (bo (bc (ah d.p5+ah ([M])) 1) (aB (d.2.1,d.p2,d.p4,(d.p5++([M])),d.q6))) (bo (bc (ah d.p5+ah ([(decide ((d.p3.2.1:Int)=23))])) 1) (aB (d.2.1,d.p2,d.p4,(d.p5++([(decide ((d.p3.2.1:Int)=23))])),d.q6)))) (bf d.p3.1 1 (bf d.p3.2.1 3 (bo (bc (ah d.p6+ah ([M])) 1) (aB (d.2.1,d.p2,d.p4,d.p5,(d.p6++([M])),d.q7))) (bo (bc (ah d.p6+ah ([(decide ((d.p3.2.1:Int)=23))])) 1) (aB (d.2.1,d.p2,d.p4,d.p5,(d.p6++([(decide ((d.p3.2.1:Int)=23))])),d.q7)))) (bf d.p3.1 2 (bf d.p3.2.1 3 (bo (bc (ah d.q7+ah ([M])) 1) (aB (d.2.1,d.p2,d.p4,d.p5,d.p6,(d.q7++([M]))))) (bo (bc (ah d.q7+ah ([(decide ((d.p3.2.1:Int)=23))])) 1) (aB (d.2.1,d.p2,d.p4,d.p5,d.p6,(d.q7++([(decide ((d.p3.2.1:Int)=23))])))))) U))) λA=>(cI ((cu q.1),A.1,A.2.2))))))) (aB (0,0)))) (0,x,L,([]:θ),([]:θ),([]:θ))))))))
def pg (x:eP×Y jD):J Γ:=jM @iter x
def dG (x:eP×Y jD):J Γ:=jM @fR x
def gu (it:xT) (x:eP×Y jD):J Γ:=
 (bx 400 (aY x.2) (Z (0,2)) (av (dw x.1) λy1=>(aF (!y1) (Z (0,1)) (av (eB x.1) λy2=>(bo (cP 0 (aY x.1.p4)&&cP (aY x.1.p4) (aY x.1.p4)&&bc (aP (aY x.1.p4)) 24&&decide (((aY x.1.p4):Int)=4)) (it (Int×(eP×Y jD)×fV×(θ)×(θ)×(θ)×θ) _ (λq=>(bx q.1 (aY x.2) (bG gG x.2 q.1 λs=>(av (dR (q.2.1.1,q.p2,s)) λz=>(jn (α:=Bool×(eP×Y jD)×fV×jD×fV×(θ)×(θ)×(θ)×θ) (aF z.2 (bf s.1 0 (av (bT (q.p3,0,s.2)) λL=>(aB ((!L),q.2.1,q.p2,(0,s.2),z.1,q.q3))) (bf s.1 1 (av (bT (q.p4,1,s.2)) λI=>(aB ((!I),q.2.1,q.p2,(1,s.2),z.1,q.q3))) (bf s.1 2 (av (bT (q.p5,2,s.2)) λF=>(aB ((!F),q.2.1,q.p2,(2,s.2),z.1,q.q3))) (bf s.1 3 (av (bT (q.q6,3,s.2)) λD=>(aB ((!D),q.2.1,q.p2,(3,s.2),z.1,q.q3))) U)))) (aB (M,q.2.1,q.p2,s,z.1,q.q3))) λd=>(aF d.1 (aB (q.1,12)) (jn (α:=(eP×Y jD)×fV×fV×(θ)×(θ)×(θ)×θ) (bf d.p3.1 0 (bf d.p3.2.1 3 (bo (bc (ah d.p5+ah ([M])) 1) (aB (d.2.1,d.p2,d.p4,(d.p5++([M])),d.q6))) (bo (bc (ah d.p5+ah ([(decide ((d.p3.2.1:Int)=23))])) 1) (aB (d.2.1,d.p2,d.p4,(d.p5++([(decide ((d.p3.2.1:Int)=23))])),d.q6)))) (bf d.p3.1 1 (bf d.p3.2.1 3 (bo (bc (ah d.p6+ah ([M])) 1) (aB (d.2.1,d.p2,d.p4,d.p5,(d.p6++([M])),d.q7))) (bo (bc (ah d.p6+ah ([(decide ((d.p3.2.1:Int)=23))])) 1) (aB (d.2.1,d.p2,d.p4,d.p5,(d.p6++([(decide ((d.p3.2.1:Int)=23))])),d.q7)))) (bf d.p3.1 2 (bf d.p3.2.1 3 (bo (bc (ah d.p7+ah ([M])) 1) (aB (d.2.1,d.p2,d.p4,d.p5,d.p6,(d.p7++([M])),d.q8))) (bo (bc (ah d.p7+ah ([(decide ((d.p3.2.1:Int)=23))])) 1) (aB (d.2.1,d.p2,d.p4,d.p5,d.p6,(d.p7++([(decide ((d.p3.2.1:Int)=23))])),d.q8)))) (bf d.p3.1 3 (bf d.p3.2.1 3 (bo (bc (ah d.q8+ah ([M])) 1) (aB (d.2.1,d.p2,d.p4,d.p5,d.p6,d.p7,(d.q8++([M]))))) (bo (bc (ah d.q8+ah ([(decide ((d.p3.2.1:Int)=23))])) 1) (aB (d.2.1,d.p2,d.p4,d.p5,d.p6,d.p7,(d.q8++([(decide ((d.p3.2.1:Int)=23))])))))) U)))) λA=>(cI ((cu q.1),A.1,A.2.2))))))) (aB (0,0)))) (0,x,y2,([]:θ),([]:θ),([]:θ),([]:θ))))))))
def pf (x:eP×Y jD):J Γ:=gu @iter x
def cV (x:eP×Y jD):J Γ:=gu @fR x
def kh (x:eP×Y jD):J Γ:=orE (cV x) (orE (dG x) (orE (dl x) (dY x)))
def tP (it:xT) (x:eP×Y jD):J ((Y η)×Int):=
 (av (kh x) λA=>(ir A.2 0 (Z (([]:Y η),12)) (av (nL x.1) λz=>(bo (cP 0 (aY x.2)&&cP (aY x.2) (aY x.2)&&bc (aP (aY x.2)) 24) (it (Int×(eP×Y jD)×V0×Y η) _ (λd=>(bx d.1 (aY x.2) (bG gG x.2 d.1 λs=>(av (r8 (d.2.1.1,d.p2,s)) λq=>(ck (e9 d.1 (ah d.q3)) (cI ((cu d.1),d.2.1,q.1,(cj d.q3 d.1 q.2)))))) (aB (d.q3,0)))) (0,x,z,(aA (aP (aY x.2)) ([]:η))))))))
def AS (x:eP×Y jD):J ((Y η)×Int):=tP @iter x
def lQ (x:eP×Y jD):J ((Y η)×Int):=tP @fR x
def NS (it:xT) (x:Unit):J eP:=
 (it Yd4 _ (λx1=>(bx x1.1 (aU (ah ([[109,97,105,110],[116,49],[116,50],[116,51]]))) (it Yd4 _ (λx2=>(bx x2.1 6 (bo (bc (ah x2.q6+ah ([(x1.1,x2.1,(a9 .i64 ((a9 .i64 ((a9 .i64 (10*x1.1))+x2.1))+1)))])) 24) (cI ((cu x2.1),x2.2.1,x2.p2,x2.p3,x2.p4,x2.p5,(x2.q6++([(x1.1,x2.1,(a9 .i64 ((a9 .i64 ((a9 .i64 (10*x1.1))+x2.1))+1)))]))))) (aB (oL ((cu x1.1),x2.2))))) (0,x1.2)) (aB x1.2))) (0,[([120],0,0,aa,0),([121],0,0,aa,1),([118],0,0,M,0),([113],0,2,aa,0),([113],1,2,aa,0)],[([109],aa),([110],aa),([114],M)],[([99],0)],[[102]],[[109,97,105,110],[116,49],[116,50],[116,51]],([]:Y ν)))
def Nq (x:Unit):J eP:=NS @iter x
def BX (x:Unit):J eP:=NS @fR x
def xP:Nat:=1000000000
def jl (a b:η):η:=(fm (max a.length b.length)).map λi=>lq (a.getD i 0) (b.getD i 0)
theorem zr (a b:η):(jl a b).length=max a.length b.length:=by simp[jl]
theorem AX (a b:η) (i:Nat):(jl a b).getD i 0=lq (a.getD i 0) (b.getD i 0):=by
 unfold jl;simp only[ay,bi];by_cases h:i<max a.length b.length
 .rw[vg h];rfl
 .rw[bJ (by simp only[lD];omega),bJ (l:=a) (by omega),bJ (l:=b) (by omega)];rfl
theorem OQ (c:η) (i:Nat):iS (c,(i:Int))=Z (c.getD i 0):=by
 unfold iS bx l8 aY aB;simp only[];rw[xh (by omega)];simp only[dU,mo];by_cases h:i<c.length
 .rw[Zi (by simp;omega)];simp only[dU];rw[cw (cZ h),tQ];rfl
 .rw[qM (by simp;omega)];simp only[dE];rw[ay,bJ (by omega)];rfl
theorem V_ (a b:η) (s:a.length<=xP) (hb:b.length<=xP):jv (a,b)=Z (jl a b):=by
 unfold xP at s hb;unfold jv uF ck bx bo aY cI aB cu;have hm:max a.length b.length<=1000000000:=by omega
 rw[cw (by simp only[yr];rw[qM (by omega),qM (by omega),wi (by simp;omega) (by simp;omega)];rfl)];simp only[yr,cO,cN];have:=yq (σ:=Int×η) (R:=η) (max a.length b.length) (by omega) (λi=>((i:Int),(fm (max a.length b.length)).map λk=>if k<i then lq (a.getD k 0) (b.getD k 0) else 0)) (f:=(λx1=>(aF (fK x1.1 (aU (max a.length b.length))) (av (iS (a,x1.1)) λq=>(av (iS (b,x1.1)) λd=>(chk (e9 x1.1 (ah x1.2)) λ_=>(chk (e9 x1.1 (ah x1.2)) λ_=>(Z (oL ((a9 .i64 (x1.1+1)),(cj x1.2 x1.1 (lq q d))))))))) (Z (bZ x1.2))))) (r:=jl a b) ?_ ?_
 .refine Eq.trans ?_ this;congr 1;simp only[Int.natCast_zero,wa,du,aC,AC];apply dA<;>simp
 .intro i hi;simp only[];rw[uB (by simp;omega),dE,OQ,OQ,dc,dc,cw (cZ (by simpa using hi)),cw (cZ (by simpa using hi)),pE hi (by omega),eG];congr 3;apply dA
  .simp
  .intro k h1 h2;simp only[ca,lD]at h2;simp only[ur,qG,nB];by_cases e:i=k
   .subst e;simp
   .by_cases h:k<i
    .rw[aL e,aT h,aT (by omega)]
    .rw[aL e,aL h,aL (by omega)]
 .simp only[];rw[xh (by simp),dU];congr 2;unfold jl;apply List.map_congr_left;intro k hk;rw[aT (nA.1 hk)]
theorem XW (a b:η) (s:a.length<=xP) (hb:b.length<=xP):sU (a,b)=Z (jl a b,b):=by
 unfold xP at s hb;unfold sU Hi ck bx bo aY cI aB cu;have hm:max a.length b.length<=1000000000:=by omega
 rw[cw (by simp only[yr];rw[qM (by omega),qM (by omega),wi (by simp;omega) (by simp;omega)];rfl)];simp only[yr,cO,cN];have:=yq (σ:=Int×η×η) (R:=η×η) (max a.length b.length) (by omega) (λi=>((i:Int),b,(fm (max a.length b.length)).map λk=>if k<i then lq (a.getD k 0) (b.getD k 0) else 0)) (f:=(λx1=>(aF (fK x1.1 (aU (max a.length b.length))) (av (iS (a,x1.1)) λq=>(av (iS (x1.2.1,x1.1)) λd=>(chk (e9 x1.1 (ah x1.2.2)) λ_=>(chk (e9 x1.1 (ah x1.2.2)) λ_=>(Z (oL ((a9 .i64 (x1.1+1)),x1.2.1,(cj x1.2.2 x1.1 (lq q d))))))))) (Z (bZ (x1.2.2,x1.2.1)))))) (r:=(jl a b,b)) ?_ ?_
 .refine Eq.trans ?_ this;congr 1;simp only[Int.natCast_zero,wa,du,aC,AC];apply dA<;>simp
 .intro i hi;simp only[];rw[uB (by simp;omega),dE,OQ,OQ,dc,dc,cw (cZ (by simpa using hi)),cw (cZ (by simpa using hi)),pE hi (by omega),eG];congr 4;apply dA
  .simp
  .intro k h1 h2;simp only[ca,lD]at h2;simp only[ur,qG,nB];by_cases e:i=k
   .subst e;simp
   .by_cases h:k<i
    .rw[aL e,aT h,aT (by omega)]
    .rw[aL e,aL h,aL (by omega)]
 .simp only[];rw[xh (by simp),dU];congr 3;unfold jl;apply List.map_congr_left;intro k hk;rw[aT (nA.1 hk)]
theorem R2 (a b:η) (d:a.length<=xP) (hb:b.length<=xP):AW (a,b)=Z (jl a b):=by
 unfold AW;rw[XW a b d hb,dc];exact Pe rfl _
def tk (c:η) (t:Nat):η:=(c++aA (t+1-c.length) 0).set t (c.getD t 0+1)
theorem LM (c:η) (t:Nat):(tk c t).length=max c.length (t+1):=by simp[tk];omega
theorem aij (c:η) (n i:Nat):(c++aA n 0).getD i 0=c.getD i 0:=by
 simp only[ay];by_cases h:i<c.length
 .rw[bQ h]
 .rw[bX (by omega),bJ (l:=c) (by omega),lE];split<;>rfl
theorem Hw (c:η) (t i:Nat):(tk c t).getD i 0=if i=t then c.getD t 0+1 else c.getD i 0:=by
 unfold tk;rw[ay,oP];by_cases h:t=i
 .subst h;rw[aT rfl,aT (by simp;omega),aT rfl];rfl
 .rw[aL h,aL (λe=>h e.symm),<-ay,aij]
theorem ZK (c:η) (n:Nat) (h:c.length<=n):Sk (aA n 0) c=c++aA (n-c.length) 0:=by
 unfold Sk;rw[cN,eU h,List.drop_replicate]
theorem V2 (c:η) (t:Nat) (hc:c.length<=xP) (ht:t<4) (h0:0<=c.getD t 0) (h1:c.getD t 0<9223372036854775807):pJ (c,(t:Int))=Z (tk c t):=by
 unfold xP at hc;unfold pJ ck jk bo aY aB cu;simp only[];rw[qM (by omega),dE,mo,uB (by omega)];simp only[dE,mo];have e1:lq (aU c.length) (a9 .i64 ((t:Int)+1))=((max c.length (t+1):Nat):Int):=by
  rw[pE ht (by omega)];exact yr _ _
 rw[e1];rw[cw (by rw[qM (by omega),qM (by omega),wi (by simp;omega) (by simp;omega)];rfl)];rw[cO];have e2:Sk (aA (max c.length (t+1)) (0:Int)) c=c++aA (t+1-c.length) 0:=by
  rw[ZK c _ (by omega)];rw[show max c.length (t+1)-c.length=t+1-c.length from by omega]
 rw[e2];have hl:t<(c++aA (t+1-c.length) (0:Int)).length:=by simp;omega
 rw[cw (cZ hl),cw (cZ hl),mo];have e3:aG (T:=.int .i64) (c++aA (t+1-c.length) (0:Int)) (t:Int)=c.getD t 0:=by
  rw[tQ];exact aij c _ t
 simp only[];rw[e3,uB h1,dE,cw (cZ hl),cw (cZ hl),cw (cZ hl),cw (cZ hl),mo,ae5 (by omega) (by omega),eG];rfl
theorem Da (c:η) (hc:c.length<=xP):wy c=Z c:=by
 unfold xP at hc;unfold wy;rw[cw (wi (by omega) (by omega))]
theorem MX (c:η) (hc:c.length<=xP):ux c=Z c:=by
 unfold xP at hc;unfold ux vz bo;rw[cw (wi (by simp;omega) (by simp;omega)),dc];exact Pe rfl _
theorem MY (c:η) (hc:c.length<=xP):gg c=Z c:=Da c hc
def GL (l:Y η):Prop:=l.length<=xP/\∀c∈l,c.length<=xP
abbrev HTp:Type:=Y η×Y η×Y η×Y η×Y η×Y η×η×Y η×η
def GH (h:HTp):Prop:=GL h.1/\GL h.2.1/\GL h.2.2.1/\GL h.2.2.2.1/\GL h.2.2.2.2.1/\GL h.2.2.2.2.2.1/\h.2.2.2.2.2.2.1.length<=xP/\GL h.2.2.2.2.2.2.2.1/\h.2.2.2.2.2.2.2.2.length<=xP
theorem Ch {l:Y η} {i:Nat} (h:i<l.length):l.getD i []∈l:=by
 rw[ay,ax h];exact qF h
theorem GL.at {l:Y η} (h:GL l) (i:Nat):(l.getD i []).length<=xP:=by
 by_cases hi:i<l.length
 .exact h.2 _ (Ch hi)
 .rw[ay,bJ (by omega)];simp
theorem Xb (g:η->J η) (l:Y η) (hl:l.length<=xP) (hg:∀c∈l,g c=Z c):
 fR (σ:=Int×Y η) (λx1=>(aF (fK x1.1 (aU (ah l))) (chk (e9 x1.1 (ah l)) λ_=>(av (g (aG (T:=(.sl (.int .i64))) l x1.1)) λd=>(chk (e9 x1.1 (ah x1.2)) λ_=>(chk (e9 x1.1 (ah x1.2)) λ_=>(Z (oL ((a9 .i64 (x1.1+1)),(cj x1.2 x1.1 d)))))))) (Z (bZ x1.2)))) (0,(aA (aP (aU (ah l))) ([]:η)))=Z l:=by
 unfold xP at hl;have:=yq (σ:=Int×Y η) (R:=Y η) l.length (by omega) (λi=>((i:Int),(fm l.length).map λk=>if k<i then l.getD k [] else [])) (f:=(λx1=>(aF (fK x1.1 (aU (ah l))) (chk (e9 x1.1 (ah l)) λ_=>(av (g (aG (T:=(.sl (.int .i64))) l x1.1)) λd=>(chk (e9 x1.1 (ah x1.2)) λ_=>(chk (e9 x1.1 (ah x1.2)) λ_=>(Z (oL ((a9 .i64 (x1.1+1)),(cj x1.2 x1.1 d)))))))) (Z (bZ x1.2))))) (r:=l) ?_ ?_
 .refine Eq.trans ?_ this;congr 1;simp only[Int.natCast_zero,wa,du,aC,AC,aj,cO];apply dA<;>simp
 .intro i hi;simp only[];rw[uB (by simp;omega),dE,cw (cZ hi),tQ,show (l.getD i (Ty.zero (.sl (.int .i64))))=l.getD i [] from rfl,hg _ (Ch hi),dc,cw (cZ (by simpa using hi)),cw (cZ (by simpa using hi)),pE hi (by omega),eG];congr 3;apply dA
  .simp
  .intro k h1 h2;simp only[ca,lD]at h2;simp only[ur,qG,nB];by_cases e:i=k
   .subst e;simp
   .by_cases h:k<i
    .rw[aL e,aT h,aT (by omega)]
    .rw[aL e,aL h,aL (by omega)]
 .simp only[];rw[xh (by simp),dU];congr 2;apply dA
  .simp
  .intro k h1 h2;simp only[qG,nB];rw[aT h2,ay,ax h2];rfl
theorem rn (l:Y η) (h:GL l):ij l=Z l:=by
 have hl:=h.1;unfold xP at hl;unfold ij wF ck bx l8 bo aY cI aB cu;rw[cw (by rw[qM (by simp),qM (by omega),wi (by simp;omega) (by simp;omega)];rfl)];exact Xb wy l h.1 λc hc=>Da c (h.2 c hc)
theorem MM (h:HTp) (g:GH h):q_ h=Z (h.2.2.2.2.2.2.1,h.1,h.2.1,h.2.2.1,h.2.2.2.1,h.2.2.2.2.1,h.2.2.2.2.2.1,h.2.2.2.2.2.2.2.1,h.2.2.2.2.2.2.2.2):=by
 obtain⟨L,I,F,D,A,z,s,q,d⟩:=g;unfold q_ aV ba bk bO cU fM lB;rw[rn _ L,dc,rn _ I,dc,rn _ F,dc,rn _ D,dc,rn _ A,dc,rn _ z,dc,MY _ s,dc,rn _ q,dc,MY _ d,dc]
abbrev Bv:Type:=Y (ζ×Int×Int×Bool×Int)×Y (ζ×Bool)×Y (ζ×Int)×Y ζ×Y ζ×Y ν
def h0 (w:Bv):HTp:=(aA w.2.2.2.2.1.length [],aA w.2.2.2.2.1.length [],aA w.2.1.length [],aA w.2.1.length [],aA w.1.length [],aA w.2.2.2.1.length [],[],aA w.2.2.2.2.1.length [],aA w.2.2.2.2.1.length (-1))
theorem aa7 (w:Bv) (h1:w.1.length<=xP) (h2:w.2.1.length<=xP) (q:w.2.2.2.1.length<=xP) (d:w.2.2.2.2.1.length<=xP):nL w=Z (h0 w):=by
 unfold xP at h1 h2 q d;have c:∀n b:Nat,n<=1000000000->b<=24->(cP 0 (aU n)&&cP (aU n) (aU n)&&bc (aP (aU n)) b)=M:=λn b hn hb=>by
  have:n*b<=n*24:=Nat.mul_le_mul_left n hb;rw[qM (by simp),qM (by omega),wi (by simp;omega) (by simp;omega)];rfl
 unfold nL zC aV ba bk bO cU fM lB ck bx bo aY cI aB cu;rw[cw (c _ 24 d (by omega)),cw (c _ 24 d (by omega)),cw (c _ 24 h2 (by omega)),cw (c _ 24 h2 (by omega)),cw (c _ 24 h1 (by omega)),cw (c _ 24 q (by omega)),cw (c _ 24 d (by omega)),cw (c _ 8 d (by omega))];simp only[aj,cO,cN];have:=yq (σ:=Int×(Y η)×(Y η)×(Y η)×(Y η)×(Y η)×(Y η)×(Y η)×η) (R:=HTp) w.2.2.2.2.1.length (by omega) (λi=>((i:Int),aA w.2.2.2.2.1.length [],aA w.2.2.2.2.1.length [],aA w.2.1.length [],aA w.2.1.length [],aA w.1.length [],aA w.2.2.2.1.length [],aA w.2.2.2.2.1.length [],(fm w.2.2.2.2.1.length).map λk=>if k<i then -1 else 0)) (f:=(λx1=>(aF (fK x1.1 (w.2.2.2.2.1.length:Int)) (chk (e9 x1.1 (ah x1.2.2.2.2.2.2.2.2)) λ_=>(chk (e9 x1.1 (ah x1.2.2.2.2.2.2.2.2)) λ_=>(Z (oL ((a9 .i64 (x1.1+1)),x1.2.1,x1.2.2.1,x1.2.2.2.1,x1.2.2.2.2.1,x1.2.2.2.2.2.1,x1.2.2.2.2.2.2.1,x1.2.2.2.2.2.2.2.1,(cj x1.2.2.2.2.2.2.2.2 x1.1 (-1))))))) (Z (bZ (x1.2.1,x1.2.2.1,x1.2.2.2.1,x1.2.2.2.2.1,x1.2.2.2.2.2.1,x1.2.2.2.2.2.2.1,([]:η),x1.2.2.2.2.2.2.2.1,x1.2.2.2.2.2.2.2.2)))))) (r:=h0 w) ?_ ?_
 .refine Eq.trans ?_ this;congr 1;simp only[Int.natCast_zero,wa,du,aC,AC];apply dA<;>simp
 .intro i hi;simp only[];rw[uB (by omega),dE,cw (cZ (by simpa using hi)),cw (cZ (by simpa using hi)),pE hi (by omega),eG];congr 3;simp only[aC,AC];apply dA
  .simp
  .intro k h1 h2;simp only[ca,lD]at h2;simp only[ur,qG,nB];by_cases e:i=k
   .subst e;simp
   .by_cases h:k<i
    .rw[aL e,aT h,aT (by omega)]
    .rw[aL e,aL h,aL (by omega)]
 .simp only[];rw[xh (by omega),dU];unfold h0;congr 3;simp only[aC,AC];apply dA
  .simp
  .intro k h1 h2;simp only[cN]at h2;simp only[qG,nB,List.getElem_replicate];rw[aT h2]
theorem vE (x y:Int):lq x y=max x y:=by
 unfold lq;by_cases h:x<y
 .rw[uB h,aT rfl];omega
 .rw[xh (by omega)];simp;omega
theorem Wu {a b:η} (hl:a.length=b.length) (h:∀i,a.getD i 0=b.getD i 0):a=b:=by
 apply dA hl;intro i h1 h2;have:=h i;simpa[ay,ax h1,ax h2] using this
def En (n:Int) (c:η):Prop:=c.length<=4/\∀i,0<=c.getD i 0/\c.getD i 0<=n
theorem En.nil {n:Int} (h:0<=n):En n []:=⟨by simp,λi=>by simp;exact h⟩
theorem En.mono {n m:Int} {c:η} (h:En n c) (hm:n<=m):En m c:=⟨h.1,λi=>⟨(h.2 i).1,eX (h.2 i).2 hm⟩⟩
theorem En.jl {n:Int} {a b:η} (d:En n a) (hb:En n b):En n (jl a b):=⟨by rw[zr];have:=d.1;have:=hb.1;omega,λi=>by
 rw[AX];obtain⟨h1,h2⟩:=d.2 i;obtain⟨s,q⟩:=hb.2 i;unfold lq;split<;>exact⟨by assumption,by assumption⟩⟩
theorem En.tk {n:Int} {c:η} {t:Nat} (h:En n c) (ht:t<4):En (n+1) (tk c t):=⟨by rw[LM];have:=h.1;omega,λi=>by
 rw[Hw];obtain⟨h1,h2⟩:=h.2 i;obtain⟨q,d⟩:=h.2 t;split<;>omega⟩
def Az (n:Int) (l:Y η):Prop:=∀i,En n (l.getD i [])
theorem Az.mono {n m:Int} {l:Y η} (h:Az n l) (hm:n<=m):Az m l:=λi=>(h i).mono hm
theorem Az.set {n:Int} {l:Y η} (h:Az n l) {c:η} (hc:En n c) (j:Nat):Az n (l.set j c):=λi=>by
 rw[ay,oP];by_cases e:j=i
 .subst e;rw[aT rfl];split
  .exact hc
  .have:=h j;simp only[ay]at this;rename_i hj;rw[bJ (by omega)]at this;exact this
 .rw[aL e,<-ay];exact h i
theorem Az.repl {n:Int} (h:0<=n) (k:Nat):Az n (aA k []):=λi=>by
 rw[ay,lE];split<;>exact En.nil h
structure HS where
 T:List η
 S:List η
 L:List η
 R:List η
 C:List η
 F:List η
 X:η
 N:List η
 W:η
def HS.t (h:HS):HTp:=(h.T,h.S,h.L,h.R,h.C,h.F,h.X,h.N,h.W)
structure EV where
 th:Nat
 k:Nat
 ob:Nat
 va:Int
abbrev WTc:=Y (ζ×Int)
def mxP (d:WTc) (o:Nat):Nat:=((d.getD o ([],0)).2).toNat
def Yt (d:Y (ζ×Int×Int×Bool×Int)) (o:Nat):Bool:=(d.getD o ([],0,0,aa,0)).2.2.2.1
def xX (w:Bv) (h:HS) (e:EV):Y η:=
 if e.k=1 then [h.S.getD e.th []]
 else if e.k=21 then [h.T.getD e.ob []]
 else if e.k=6\/e.k=10 then [h.L.getD e.ob [],h.R.getD e.ob []]
 else if e.k=8 then [h.L.getD e.ob []]
 else if e.k=17 then [h.L.getD (mxP w.2.2.1 e.ob) [],h.R.getD (mxP w.2.2.1 e.ob) [],h.N.getD e.th []]
 else if e.k=3 then [h.C.getD e.ob []]
 else if e.k=23 then [h.F.getD e.ob []]
 else if e.k=12 then [h.X]
 else []
def wV (w:Bv) (h:HS) (e:EV):η:=tk ((xX w h e).foldl jl (h.T.getD e.th [])) e.th
def jat (l:Y η) (i:Nat) (c:η):Y η:=l.set i (jl (l.getD i []) c)
def By (p:Nat->Bool) (c:η) (h:HS):HS:={h with N:=h.N.mapIdx λu x=>if p u then c else x,W:=h.W.mapIdx λu x=>if p u then -1 else x}
def pC (w:Bv) (h:HS) (e:EV) (c:η):HS:=
 let h:={h with T:=h.T.set e.th c}
 if e.k=20 then {h with S:=h.S.set e.ob c}
 else if e.k=7\/e.k=11 then {h with L:=jat h.L e.ob c}
 else if e.k=9 then {h with R:=jat h.R e.ob c}
 else if e.k=16 then {h with L:=jat h.L (mxP w.2.2.1 e.ob) c,W:=h.W.set e.th e.ob}
 else if e.k=4 then (if Yt w.1 e.ob then {h with C:=jat h.C e.ob c} else h)
 else if e.k=22 then {h with F:=jat h.F e.ob c}
 else if e.k=13 then {h with X:=jl h.X c}
 else if e.k=18 then (if 0<=e.va/\e.va<h.N.length then {h with N:=h.N.set e.va.toNat c,W:=h.W.set e.va.toNat (-1)} else h)
 else if e.k=19 then By (λu=>decide (h.W.getD u 0=(e.ob:Int))) c h
 else h
def EI (w:Bv) (h:HS) (e:EV):HS×η:=(pC w h e (wV w h e),wV w h e)
structure EOK (w:Bv) (h:HS) (e:EV):Prop where
 th4:e.th<4
 th:e.th<h.T.length
 k1:1<=e.k
 k2:e.k<=23
 sp:e.k=20\/e.k=21->e.ob<h.T.length
 lk:6<=e.k/\e.k<=11->e.ob<h.L.length
 cd:e.k=16\/e.k=17->e.ob<w.2.2.1.length/\0<=(w.2.2.1.getD e.ob ([],0)).2/\mxP w.2.2.1 e.ob<h.L.length
 ce:e.k=3\/e.k=4->e.ob<h.C.length/\e.ob<w.1.length
 fu:e.k=22\/e.k=23->e.ob<h.F.length
structure OX (n:Int) (h:HS):Prop where
 n0:0<=n
 n1:n<=1000000
 T:Az n h.T
 S:Az n h.S
 L:Az n h.L
 R:Az n h.R
 C:Az n h.C
 F:Az n h.F
 X:En n h.X
 N:Az n h.N
 lT:h.T.length<=1000
 lS:h.S.length=h.T.length
 lN:h.N.length=h.T.length
 lW:h.W.length=h.T.length
 lL:h.L.length<=1000
 lR:h.R.length=h.L.length
 lC:h.C.length<=1000
 lF:h.F.length<=1000
theorem En.lb {n:Int} {c:η} (h:En n c):c.length<=xP:=by have:=h.1;unfold xP;omega
theorem Az.GL {n:Int} {l:Y η} (h:Az n l) (hl:l.length<=1000):GL l:=⟨by unfold xP;omega,λc hc=>by
 obtain⟨i,hi⟩:=eW hc;have:=(h i).lb
 rwa [ay,hi]at this⟩
theorem OX.GH {n:Int} {h:HS} (o:OX n h):GH h.t:=
 ⟨o.T.GL o.lT,o.S.GL (by rw[o.lS];exact o.lT),o.L.GL o.lL,o.R.GL (by rw[o.lR];exact o.lL),o.C.GL o.lC,o.F.GL o.lF,o.X.lb,o.N.GL (by rw[o.lN];exact o.lT),by show h.W.length<=xP;have:=o.lT;rw[o.lW];unfold xP;omega⟩
theorem En.join {n:Int} {a b:η} (d:En n a) (hb:En n b):jv (a,b)=Z (AI.jl a b):=V_ a b d.lb hb.lb
theorem Na {n:Int} {w:Bv} {h:HS} (o:OX n h) (e:EV):∀c∈xX w h e,En n c:=by
 intro c hc;unfold xX at hc;repeat' (split at hc)
 all_goals simp only[bu,cE,gH]at hc
 .subst hc;exact o.S _
 .subst hc;exact o.T _
 .rcases hc with rfl|rfl
  .exact o.L _
  .exact o.R _
 .subst hc;exact o.L _
 .rcases hc with rfl|rfl|rfl
  .exact o.L _
  .exact o.R _
  .exact o.N _
 .subst hc;exact o.C _
 .subst hc;exact o.F _
 .subst hc;exact o.X
theorem wL {n:Int}:∀(l:Y η) (c:η),En n c->(∀x∈l,En n x)->En n (l.foldl jl c)
 |[],_,hc,_=>hc
 |x::r,c,hc,h=>wL r _ (hc.jl (h x (eo ..))) λy d=>h y (dk _ d)
theorem JK {n:Int} {w:Bv} {h:HS} (o:OX n h) {e:EV} (he:e.th<4):En (n+1) (wV w h e):=(wL _ _ (o.T _) (Na o e)).tk he
theorem Az.jat {n:Int} {l:Y η} {c:η} (h:Az n l) (hc:En n c) (i:Nat):Az n (jat l i c):=h.set ((h i).jl hc) i
theorem Az.mapIdx {n:Int} {l:Y η} {c:η} (h:Az n l) (hc:En n c) (p:Nat->Bool):Az n (l.mapIdx λu x=>if p u then c else x):=λi=>by
 rw[ay,List.getElem?_mapIdx];have:=h i;rw[ay]at this;cases d:l[i]? with
 |none=>rw[d]at this;exact this
 |some x=>
  rw[d]at this;simp only[bU,uo];split
  .exact hc
  .exact this
theorem Vx {n:Int} {w:Bv} {h:HS} (o:OX n h) (hn:n+1<=1000000) {e:EV} {c:η} (hc:En (n+1) c):OX (n+1) (pC w h e c):=by
 have m:n<=n+1:=by omega
 have oT:Az (n+1) (h.T.set e.th c):=(o.T.mono m).set hc _;have b:OX (n+1) {h with T:=h.T.set e.th c}:=⟨by have:=o.n0;omega,hn,oT,o.S.mono m,o.L.mono m,o.R.mono m,o.C.mono m,o.F.mono m,o.X.mono m,o.N.mono m,by simpa using o.lT,by simpa using o.lS,by simpa using o.lN,by simpa using o.lW,o.lL,o.lR,o.lC,o.lF⟩
 unfold pC;simp only[];repeat' split
 .exact {b with S:=(o.S.mono m).set hc _,lS:=by simpa using b.lS}
 .exact {b with L:=(o.L.mono m).jat hc _,lL:=by simpa[jat] using b.lL,lR:=by simpa[jat] using b.lR}
 .exact {b with R:=(o.R.mono m).jat hc _,lR:=by simpa[jat] using b.lR}
 .exact {b with L:=(o.L.mono m).jat hc _,lL:=by simpa[jat] using b.lL,lR:=by simpa[jat] using b.lR,lW:=by simpa using b.lW}
 .exact {b with C:=(o.C.mono m).jat hc _,lC:=by simpa[jat] using b.lC}
 .exact b
 .exact {b with F:=(o.F.mono m).jat hc _,lF:=by simpa[jat] using b.lF}
 .exact {b with X:=(o.X.mono m).jl hc}
 .exact {b with N:=(o.N.mono m).set hc _,lN:=by simpa using b.lN,lW:=by simpa using b.lW}
 .exact b
 .exact {b with N:=(o.N.mono m).mapIdx hc _,lN:=by simpa[By] using b.lN,lW:=by simpa[By] using b.lW}
 .exact b
theorem YB {n:Int} {w:Bv} {h:HS} (o:OX n h) (hn:n+1<=1000000) {e:EV} (he:e.th<4):OX (n+1) (EI w h e).1:=Vx o hn (JK o he)
theorem UC {a b:Nat} (h:a=b):aw a b=M:=by subst h;exact rA a
theorem QD (l:Y η) (i:Nat) (h:i<l.length):s_ ((i:Int),l)=Z (l.getD i [],l):=by
 unfold s_ ck bx aY aB;simp only[];rw[xh (by omega)];simp only[dU,mo];rw[Zi (by simp;omega)];simp only[dU];rw[cw (cZ h),cw (cZ h),nv]
theorem td {n:Int} (l:Y η) (i:Nat) (c:η) (h:i<l.length) (hl:Az n l) (hc:En n c):lP ((i:Int),l,c)=Z (jat l i c,c):=by
 unfold lP ck jk aY aB;simp only[];rw[qM (by omega)];simp only[dE,mo];rw[uB (by simp;omega)];simp only[dE];rw[cw (cZ h),cw (cZ h),nv,R2 _ _ (hl i).lb hc.lb,dc,cw (cZ h),cw (cZ h),eG];rfl
theorem rh (l:Y η) (i:Nat) (c:η):(jat l i c).length=l.length:=by simp[jat]
theorem UY {n:Int} (h:HS) (u:Nat) (c:η) (h1:u<h.N.length) (h2:u<h.W.length) (hc:En n c):vx ((u:Int),h.X,h.T,h.S,h.L,h.R,h.C,h.F,h.N,h.W,c)=Z (h.X,h.T,h.S,h.L,h.R,h.C,h.F,h.N.set u c,h.W.set u (-1),c):=by
 unfold vx aV ba bk bO cU fM ry um Prod.q10 ck;simp only[];rw[MX c hc.lb,dc,cw (cZ h1),cw (cZ h1),cw (cZ h2),cw (cZ h2),eG,eG]
theorem Vp (d:WTc) (i:Nat):aG (T:=.st (.pr .str (.int .i64))) d (i:Int)=d.getD i ([],0):=tQ (T:=.st (.pr .str (.int .i64))) d i
theorem acg (d:Y (ζ×Int×Int×Bool×Int)) (i:Nat):aG (T:=.st (.pr .str (.pr (.int .i64) (.pr (.int .i64) (.pr .bool (.int .i64)))))) d (i:Int)=d.getD i ([],0,0,aa,0):=tQ (T:=.st (.pr .str (.pr (.int .i64) (.pr (.int .i64) (.pr .bool (.int .i64)))))) d i
abbrev ETp:Type:=Int×Int×Int×Int×Int×η×η
structure EvT (e:EV) (x:ETp):Prop where
 th:x.1=(e.th:Int)
 k:x.2.1=(e.k:Int)
 ob:e.k∈[3,4,6,7,8,9,10,11,16,17,18,19,20,21,22,23]->x.2.2.1=(e.ob:Int)
 va:x.2.2.2.1=e.va
theorem Vh {k:Nat} {z:Int} (d:z=(k:Int)) (h1:1<=k) (h2:k<=23):(k=1/\z=1)\/(k=2/\z=2)\/(k=3/\z=3)\/(k=4/\z=4)\/(k=5/\z=5)\/(k=6/\z=6)\/(k=7/\z=7)\/(k=8/\z=8)\/(k=9/\z=9)\/(k=10/\z=10)\/(k=11/\z=11)\/(k=12/\z=12)\/(k=13/\z=13)\/(k=14/\z=14)\/(k=15/\z=15)\/(k=16/\z=16)\/(k=17/\z=17)\/(k=18/\z=18)\/(k=19/\z=19)\/(k=20/\z=20)\/(k=21/\z=21)\/(k=22/\z=22)\/(k=23/\z=23):=by
 have h:k=1\/k=2\/k=3\/k=4\/k=5\/k=6\/k=7\/k=8\/k=9\/k=10\/k=11\/k=12\/k=13\/k=14\/k=15\/k=16\/k=17\/k=18\/k=19\/k=20\/k=21\/k=22\/k=23:=by omega
 subst d;rcases h with rfl|rfl|rfl|rfl|rfl|rfl|rfl|rfl|rfl|rfl|rfl|rfl|rfl|rfl|rfl|rfl|rfl|rfl|rfl|rfl|rfl|rfl|rfl<;>simp
theorem UB (a:Nat):(aw a a&&M)=M:=by rw[UC rfl];rfl
theorem RO {n:Int} {w:Bv} {h:HS} (o:OX n h) {e:EV} (ok:EOK w h e) {x:ETp} (D:EvT e x):rc (x,h.X,w,h.T,h.S,h.L,h.R,h.C,h.F,h.N,h.W)=Z (xX w h e,x,h.X,w,h.T,h.S,h.L,h.R,h.C,h.F,h.N,h.W):=by
 obtain⟨x1,x2,s,x4,x5,x6,x7⟩:=x;obtain⟨w1,w2,z,w4,w5,w6⟩:=w;obtain⟨th,k,ob,va⟩:=e;obtain⟨q1,q2,q3,q4⟩:=D;simp only at q1 q2 q3 q4;subst q1 q4;have t1:=ok.th;simp only at t1;have fS:e9 (th:Int) h.S.length=M:=cZ (by rw[o.lS];exact t1);have fN:e9 (th:Int) h.N.length=M:=cZ (by rw[o.lN];exact t1);have fT:k=21->e9 (ob:Int) h.T.length=M/\s=(ob:Int):=λe=>by
  subst e;have:=ok.sp (.inr rfl);exact⟨cZ this,q3 (by decide)⟩
 have fL:(k=6\/k=10\/k=8)->e9 (ob:Int) h.L.length=M/\e9 (ob:Int) h.R.length=M/\s=(ob:Int):=λe=>by
  have h1:ob<h.L.length:=ok.lk (by rcases e with rfl|rfl|rfl<;>(simp only[];omega));exact⟨cZ h1,cZ (by rw[o.lR];exact h1),q3 (by rcases e with rfl|rfl|rfl<;>decide)⟩
 have fC:k=3->e9 (ob:Int) h.C.length=M/\s=(ob:Int):=λe=>by
  subst e;have:=(ok.ce (.inl rfl)).1;exact⟨cZ this,q3 (by decide)⟩
 have fF:k=23->e9 (ob:Int) h.F.length=M/\s=(ob:Int):=λe=>by
  subst e;have:=ok.fu (.inr rfl);exact⟨cZ this,q3 (by decide)⟩
 unfold rc xX ub aV ba bk bO cU fM ry um Prod.q10 Kj ci dx ck bf l8 bo aB;rcases Vh q2 ok.k1 ok.k2 with ⟨e,e'⟩|⟨e,e'⟩|⟨e,e'⟩|⟨e,e'⟩|⟨e,e'⟩|⟨e,e'⟩|⟨e,e'⟩|⟨e,e'⟩|⟨e,e'⟩|⟨e,e'⟩|⟨e,e'⟩|⟨e,e'⟩|⟨e,e'⟩|⟨e,e'⟩|⟨e,e'⟩|⟨e,e'⟩|⟨e,e'⟩|⟨e,e'⟩|⟨e,e'⟩|⟨e,e'⟩|⟨e,e'⟩|⟨e,e'⟩|⟨e,e'⟩<;>clear q2<;>subst e<;>subst e'
 case inr.inr.inr.inr.inr.inr.inr.inr.inr.inr.inr.inr.inr.inr.inr.inr.inl=>
  have q3:=q3 (by decide);subst q3;obtain⟨d1,d2,A⟩:=ok.cd (.inr rfl);simp only at d1 d2 A;have I:mxP z ob<h.R.length:=by rw[o.lR];exact A
  have e1:(z.getD ob ([],0)).2=((mxP z ob:Nat):Int):=by unfold mxP;omega
  simp only[aN,c9,dJ,dE,dU,mo,cw,cZ d1,Vp,e1,QD _ _ A,QD _ _ I,dc,UB,fN,nv];rfl
 case inr.inr.inl=>
  obtain⟨d,rfl⟩:=fC rfl;simp only[aN,c9,dJ,dE,dU,mo,cw,d,nv];rfl
 case inr.inr.inr.inr.inr.inr.inr.inr.inr.inr.inr.inr.inr.inr.inr.inr.inr.inr.inr.inr.inr.inr=>
  obtain⟨d,rfl⟩:=fF rfl;simp only[aN,c9,dJ,dE,dU,mo,cw,d,nv];rfl
 case inr.inr.inr.inr.inr.inr.inr.inr.inr.inr.inr.inr.inr.inr.inr.inr.inr.inr.inr.inr.inl=>
  obtain⟨d,rfl⟩:=fT rfl;simp only[aN,c9,dJ,dE,dU,mo,cw,d,nv];rfl
 case inl=>
  simp only[aN,c9,dJ,dE,dU,mo,cw,fS,nv];rfl
 case inr.inr.inr.inr.inr.inl=>
  obtain⟨d,q,rfl⟩:=fL (by decide);simp only[aN,c9,dJ,dE,dU,mo,cw,d,q,nv];rfl
 case inr.inr.inr.inr.inr.inr.inr.inr.inr.inl=>
  obtain⟨d,q,rfl⟩:=fL (by decide);simp only[aN,c9,dJ,dE,dU,mo,cw,d,q,nv];rfl
 case inr.inr.inr.inr.inr.inr.inr.inl=>
  obtain⟨d,q,rfl⟩:=fL (by decide);simp only[aN,c9,dJ,dE,dU,mo,cw,d,q,nv];rfl
 all_goals
  simp only[aN,c9,dJ,dE,dU,mo];rfl
theorem DE {σ R:Type} {f:σ->J (σ⊕R)} {x0:σ} {r:R} (n:Nat) (hn:n<18446744073709551616) (st:Nat->σ) (d:x0=st 0) (h0:∀i,i<n->f (st i)=Z (.inl (st (i+1)))) (h1:f (st n)=Z (.inr r)):fR f x0=Z r:=by
 subst d;exact yq n hn st h0 h1
def Km {α:Type} (p:Nat->Bool) (c:α) (u:Nat) (l:Y α):Y α:=l.mapIdx λk x=>if decide (k<u)&&p k then c else x
theorem Yq {α:Type} (p:Nat->Bool) (c:α) (l:Y α):Km p c 0 l=l:=by
 unfold Km;apply dA
 .simp
 .intro i h1 h2;simp
theorem Ht {α:Type} (p:Nat->Bool) (c:α) (u:Nat) (l:Y α):(Km p c u l).length=l.length:=by simp[Km]
theorem O0 {α:Type} (p:Nat->Bool) (c:α) (u:Nat) (l:Y α) (h:l.length<=u):Km p c u l=l.mapIdx λk x=>if p k then c else x:=by
 unfold Km;apply dA
 .simp
 .intro i h1 h2;simp only[List.length_mapIdx]at h1;simp only[List.getElem_mapIdx];rw[show decide (i<u)=M from be (by omega)];rfl
theorem UW {α:Type} (p:Nat->Bool) (c:α) (u:Nat) (l:Y α) (hp:p u=M):(Km p c u l).set u c=Km p c (u+1) l:=by
 unfold Km;apply dA
 .simp
 .intro i h1 h2;simp only[ur,List.getElem_mapIdx];by_cases e:u=i
  .subst e;simp[hp]
  .rw[aL e];by_cases h:i<u
   .rw[be h,be (show i<u+1 by omega)]
   .rw[bD h,bD (show ¬i<u+1 by omega)]
theorem OZ {α:Type} (p:Nat->Bool) (c:α) (u:Nat) (l:Y α) (hp:p u=aa):Km p c u l=Km p c (u+1) l:=by
 unfold Km;apply dA
 .simp
 .intro i h1 h2;simp only[List.getElem_mapIdx];by_cases e:u=i
  .subst e;simp[hp]
  .by_cases h:i<u
   .rw[be h,be (show i<u+1 by omega)]
   .rw[bD h,bD (show ¬i<u+1 by omega)]
theorem af9 (p:Nat->Bool) (c:Int) (u:Nat) (l:η):(Km p c u l).getD u 0=l.getD u 0:=by
 unfold Km;rw[ay,List.getElem?_mapIdx,ay];cases l[u]? with
 |none=>rfl
 |some x=>simp
def HS.e (h:HS) (c:η):η×Y η×Y η×Y η×Y η×Y η×Y η×Y η×η×η:=(h.X,h.T,h.S,h.L,h.R,h.C,h.F,h.N,h.W,c)
theorem QE {n:Int} {w:Bv} {h:HS} (o:OX n h) (hn:n+1<=1000000) {e:EV} (ok:EOK w h e) {x:ETp} (hx:EvT e x) {c:η} (hc:En (n+1) c):pH ((w,x),h.e c)=Z ((pC w h e c).e c):=by
 obtain⟨x1,x2,x3,d,x5,x6,x7⟩:=x;obtain⟨w1,w2,s,I,D,A⟩:=w;obtain⟨th,k,ob,va⟩:=e;obtain⟨q1,q2,q3,q4⟩:=hx;simp only at q1 q2 q3 q4;subst q1 q4;have t1:=ok.th;simp only at t1;have m:n<=n+1:=by omega
 have fT:e9 (th:Int) h.T.length=M:=cZ t1;have fW:e9 (th:Int) h.W.length=M:=cZ (by rw[o.lW];exact t1);have cl:=MX c hc.lb;unfold pH zA HS.e ub ze Prod.p12 Prod.p13 Prod.p14 Prod.p15 Prod.p16 Prod.p17 aV ba bk bO cU fM ry um Prod.q10 Prod.q16 Prod.q17 Prod.q18 ci gI GZ ck bf bx jk l8 bo aY cI aB cu;rcases Vh q2 ok.k1 ok.k2 with ⟨e,e'⟩|⟨e,e'⟩|⟨e,e'⟩|⟨e,e'⟩|⟨e,e'⟩|⟨e,e'⟩|⟨e,e'⟩|⟨e,e'⟩|⟨e,e'⟩|⟨e,e'⟩|⟨e,e'⟩|⟨e,e'⟩|⟨e,e'⟩|⟨e,e'⟩|⟨e,e'⟩|⟨e,e'⟩|⟨e,e'⟩|⟨e,e'⟩|⟨e,e'⟩|⟨e,e'⟩|⟨e,e'⟩|⟨e,e'⟩|⟨e,e'⟩<;>clear q2<;>subst e<;>subst e'
 case inr.inr.inr.inr.inr.inr.inr.inr.inr.inr.inr.inr.inr.inr.inr.inr.inr.inr.inr.inl=>
  obtain rfl:=q3 (by decide);have f:e9 (ob:Int) h.S.length=M:=cZ (by rw[o.lS];exact ok.sp (.inl rfl));simp only[aN,c9,dJ,dE,dU,mo,dc,cw,cl,fT,f,eG];rfl
 case inr.inr.inr.inr.inr.inr.inl=>
  obtain rfl:=q3 (by decide);have f:ob<h.L.length:=ok.lk (by simp only[];omega);simp only[aN,c9,dJ,dE,dU,mo,dc,cw,cl,fT,eG,td _ _ _ f (o.L.mono m) hc,rh,UB];rfl
 case inr.inr.inr.inr.inr.inr.inr.inr.inr.inr.inl=>
  obtain rfl:=q3 (by decide);have f:ob<h.L.length:=ok.lk (by simp only[];omega);simp only[aN,c9,dJ,dE,dU,mo,dc,cw,cl,fT,eG,td _ _ _ f (o.L.mono m) hc,rh,UB];rfl
 case inr.inr.inr.inr.inr.inr.inr.inr.inl=>
  obtain rfl:=q3 (by decide);have f:ob<h.R.length:=by rw[o.lR];exact ok.lk (by simp only[];omega)
  simp only[aN,c9,dJ,dE,dU,mo,dc,cw,cl,fT,eG,td _ _ _ f (o.R.mono m) hc,rh,UB];rfl
 case inr.inr.inr.inr.inr.inr.inr.inr.inr.inr.inr.inr.inr.inr.inr.inl=>
  obtain rfl:=q3 (by decide);obtain⟨d1,d2,d3⟩:=ok.cd (.inl rfl);simp only at d1 d2 d3;have e1:(s.getD ob ([],0)).2=((mxP s ob:Nat):Int):=by unfold mxP;omega
  simp only[aN,c9,dJ,dE,dU,mo,dc,cw,cl,fT,fW,eG,cZ d1,Vp,e1,td _ _ _ d3 (o.L.mono m) hc,rh,UB];rfl
 case inr.inr.inr.inl=>
  obtain rfl:=q3 (by decide);obtain⟨d1,d2⟩:=ok.ce (.inr rfl);simp only at d1 d2;simp only[aN,c9,dJ,dE,dU,mo,dc,cw,cl,fT,eG,cZ d2,acg];cases hv:(w1.getD ob ([],0,0,aa,0)).2.2.2.1 with
  |true=>
   simp only[dE,dc,cw,td _ _ _ d1 (o.C.mono m) hc,rh,UB,mo];have z:pC (w1,w2,s,I,D,A) h ⟨th,4,ob,d⟩ c=if Yt w1 ob then {h with T:=h.T.set th c,C:=jat h.C ob c} else {h with T:=h.T.set th c}:=rfl
   rw[z,show Yt w1 ob=M from hv];rfl
  |false=>
   simp only[dU,mo];have z:pC (w1,w2,s,I,D,A) h ⟨th,4,ob,d⟩ c=if Yt w1 ob then {h with T:=h.T.set th c,C:=jat h.C ob c} else {h with T:=h.T.set th c}:=rfl
   rw[z,show Yt w1 ob=aa from hv];rfl
 case inr.inr.inr.inr.inr.inr.inr.inr.inr.inr.inr.inr.inr.inr.inr.inr.inr.inr.inr.inr.inr.inl=>
  obtain rfl:=q3 (by decide);have f:ob<h.F.length:=ok.fu (.inl rfl);simp only[aN,c9,dJ,dE,dU,mo,dc,cw,cl,fT,eG,td _ _ _ f (o.F.mono m) hc,rh,UB];rfl
 case inr.inr.inr.inr.inr.inr.inr.inr.inr.inr.inr.inr.inl=>
  simp only[aN,c9,dJ,dE,dU,mo,dc,cw,cl,fT,eG,R2 _ _ (o.X.mono m).lb hc.lb];rfl
 case inr.inr.inr.inr.inr.inr.inr.inr.inr.inr.inr.inr.inr.inr.inr.inr.inr.inl=>
  simp only[aN,c9,dJ,dE,dU,mo,dc,cw,cl,fT,eG];have z:pC (w1,w2,s,I,D,A) h ⟨th,18,ob,d⟩ c=if 0<=d/\d<h.N.length then {h with T:=h.T.set th c,N:=h.N.set d.toNat c,W:=h.W.set d.toNat (-1)} else {h with T:=h.T.set th c}:=rfl
  rw[z];by_cases h0:0<=d
  .by_cases h1:d<h.N.length
   .rw[qM h0];simp only[dE,mo];rw[uB (show d<aU h.N.length from h1)];obtain⟨v,rfl⟩:∃v:Nat,d=(v:Int):=⟨d.toNat,by omega⟩
    have v1:v<h.N.length:=by omega
    have v2:v<h.W.length:=by rw[o.lW,<-o.lN];exact v1
    have:=UY {h with T:=h.T.set th c} v c v1 v2 hc;simp only[]at this;simp only[dE,this,dc,EA,cw,UC rfl,gR,mo];rw[aT ⟨h0,h1⟩];rfl
   .rw[qM h0];simp only[dE,mo];rw[xh (show aU h.N.length<=d from Int.not_lt.1 h1)];simp only[dU,mo];rw[aL (λq=>h1 q.2)]
  .rw[Zi (by omega)];simp only[dU,mo];rw[aL (λq=>h0 q.1)]
 case inr.inr.inr.inr.inr.inr.inr.inr.inr.inr.inr.inr.inr.inr.inr.inr.inr.inr.inl=>
  obtain rfl:=q3 (by decide);simp only[aN,c9,dJ,dE,dU,mo,dc,cw,cl,fT,eG];rw[DE (r:=bZ (h.X,h.T.set th c,h.S,h.L,h.R,h.C,h.F,Km (λu=>decide (h.W.getD u 0=(ob:Int))) c h.W.length h.N,Km (λu=>decide (h.W.getD u 0=(ob:Int))) (-1) h.W.length h.W,c)) h.W.length (by have:=o.lW;have:=o.lT;omega)
   (λi=>((i:Int),h.X,h.T.set th c,h.S,h.L,h.R,h.C,h.F,Km (λu=>decide (h.W.getD u 0=(ob:Int))) c i h.N,Km (λu=>decide (h.W.getD u 0=(ob:Int))) (-1) i h.W,c,(th:Int),(19:Int),(ob:Int),d,x5,x6,x7)) ?_ ?_ ?_]
  .simp only[mo];rw[O0 _ _ _ h.W (cF _),O0 _ _ _ h.N (by rw[o.lN,o.lW];exact cF _)];rfl
  .simp only[Yq];rfl
  .intro i hi;simp only[];have hN:i<(Km (λu=>decide (h.W.getD u 0=(ob:Int))) c i h.N).length:=by rw[Ht,o.lN,<-o.lW];exact hi
   have hW:i<(Km (λu=>decide (h.W.getD u 0=(ob:Int))) (-1) i h.W).length:=by rw[Ht];exact hi
   rw[uB (by simp;omega),dE,cw (cZ hW),cw (cZ hW),afk,af9];have ws:=pE hi (show h.W.length<=1099511627776 by have:=o.lW;have:=o.lT;omega);by_cases hp:h.W.getD i 0=(ob:Int)
   .rw[be hp,dE];have:=UY {h with T:=h.T.set th c,N:=Km (λu=>decide (h.W.getD u 0=(ob:Int))) c i h.N,W:=Km (λu=>decide (h.W.getD u 0=(ob:Int))) (-1) i h.W} i c hN hW hc;simp only[]at this;rw[this,dc,cw (by simp only[EA,UC rfl,gR]),mo,ws,UW _ _ _ _ (be hp),UW _ _ _ _ (be hp)]
   .rw[bD hp,dU,mo,ws,<-OZ _ _ _ _ (bD hp),<-OZ _ _ _ _ (bD hp)]
  .simp only[];rw[xh (by simp),dU]
 all_goals
  simp only[aN,c9,dJ,dE,dU,mo,dc,cw,cl,fT,eG];rfl
theorem IJ (l:Y η) (c:η) (i:Nat) (hi:i<l.length):(l.take (i+1)).foldl jl c=jl ((l.take i).foldl jl c) (l.getD i []):=by
 rw[List.take_add_one,jS,ax hi,ay,ax hi];rfl
theorem EJ (w:Bv) (h:HS) (e:EV):(xX w h e).length<=3:=by
 unfold xX;repeat' split
 all_goals simp
theorem ZO {n:Int} {w:Bv} {h:HS} (o:OX n h) (e:EV) (i:Nat):0<=((xX w h e).foldl jl (h.T.getD e.th [])).getD i 0/\((xX w h e).foldl jl (h.T.getD e.th [])).getD i 0<9223372036854775807:=by
 have:=(wL _ _ (o.T e.th) (Na (w:=w) o e)).2 i;have:=o.n1;omega
theorem uH (w:Bv) (h:HS) (e:EV) (c:η):(pC w h e c).T.length=h.T.length/\(pC w h e c).S.length=h.S.length/\(pC w h e c).L.length=h.L.length/\(pC w h e c).R.length=h.R.length/\(pC w h e c).C.length=h.C.length/\(pC w h e c).F.length=h.F.length/\(pC w h e c).N.length=h.N.length/\(pC w h e c).W.length=h.W.length:=by
 unfold pC;simp only[];repeat' split
 all_goals simp[jat,By]
theorem adh {n:Int} {w:Bv} {h:HS} (o:OX n h) (hn:n+1<=1000000) {e:EV} (ok:EOK w h e) {x:ETp} (A:EvT e x):r8 (w,h.t,x)=Z ((EI w h e).1.t,(EI w h e).2):=by
 have s2:=RO o ok A;have hce:En (n+1) (wV w h e):=JK o ok.th4;have en:=QE o hn ok A hce;have D:=MM h.t o.GH;have sl:=EJ w h e;have sE:=Na (w:=w) o e;have hlen:=uH w h e (wV w h e);obtain⟨x1,x2,x3,x4,x5,x6,I⟩:=x;obtain⟨w1,w2,z,s,q,d⟩:=w;have t1:=A.th;simp only at t1;subst t1;unfold HS.t at D;simp only[]at D;have fT:e9 (e.th:Int) h.T.length=M:=cZ ok.th;unfold r8 Cf HS.t ub ze aV ba bk bO cU fM ry um Kj Prod.q12 ci dx lB GZ ck bx l8 bo aY cI cu;simp only[];rw[D,dc];simp only[];rw[cw fT,cw fT,s2,dc];simp only[];rw[cw (by simp only[UC rfl,gR])];refine DE (xX (w1,w2,z,s,q,d) h e).length (by omega) (λi=>((i:Int),(w1,w2,z,s,q,d),((e.th:Int),x2,x3,x4,x5,x6,I),h.X,((xX (w1,w2,z,s,q,d) h e).take i).foldl jl (h.T.getD e.th []),h.T,h.S,h.L,h.R,h.C,h.F,h.N,h.W)) ?_ ?_ ?_
 .simp only[nv,List.take_zero,List.foldl_nil];rfl
 .intro i hi;simp only[];rw[uB (by simp;omega),dE,cw (cZ hi),nv,(wL _ _ (o.T e.th) (λy hy=>sE y (eV hy))).join (sE _ (Ch hi)),dc,pE hi (by omega),IJ _ _ _ hi]
 .simp only[];rw[xh (by simp),dU,eU (cF _)];have hl:=ZO (w:=(w1,w2,z,s,q,d)) o e e.th;rw[V2 _ e.th (wL _ _ (o.T e.th) sE).lb ok.th4 hl.1 hl.2,dc];unfold HS.e at en;unfold wV at en hlen;rw[en,dc];simp only[];rw[cw (by rw[hlen.1,hlen.2.1,hlen.2.2.1,hlen.2.2.2.1,hlen.2.2.2.2.1,hlen.2.2.2.2.2.1,hlen.2.2.2.2.2.2.1,hlen.2.2.2.2.2.2.2];simp only[UC rfl,gR])];rfl
abbrev G4:Ty:=(.st (.pr (.int .i64) (.sl (.st (.pr (.int .i64) (.pr (.int .i64) (.pr (.int .i64) (.pr (.int .i64) (.pr (.int .i64) (.int .i64))))))))))
abbrev UZ:Ty:=(.st (.pr (.int .i64) (.pr (.int .i64) (.pr (.int .i64) (.pr (.int .i64) (.pr (.int .i64) (.int .i64)))))))
abbrev EH:Ty:=(.st (.pr (.int .i64) (.pr (.sl (.int .i64)) (.pr (.sl (.sl (.int .i64))) (.int .i64)))))
abbrev Hx:Ty:=(.st (.pr .str (.pr (.int .i64) (.pr (.sl .str) (.sl .sm)))))
abbrev tDc:Ty:=(.st (.pr (.int .i64) (.pr (.int .i64) (.pr .str (.pr (.int .i64) (.pr (.int .i64) .str))))))
abbrev tE:Ty:=(.st (.pr (.int .i64) (.pr (.int .i64) (.pr (.int .i64) (.pr (.int .i64) (.pr (.int .i64) (.pr (.sl (.int .i64)) (.sl (.int .i64)))))))))
abbrev xM:Ty:=(.st (.pr .str .bool))
abbrev OR:Ty:=(.st (.pr .str (.pr (.int .i64) (.pr (.int .i64) (.pr .bool (.int .i64))))))
abbrev De:Ty:=(.st (.pr (.int .i64) (.pr (.int .i64) (.int .i64))))
abbrev pT:Ty:=(.st (.pr .str (.int .i64)))
abbrev ti:Ty:=(.st (.pr (.int .i64) (.sl (.int .i64))))
abbrev uP:Ty:=(.st (.pr (.int .i64) (.pr (.int .i64) .bool)))
def Ok {R:Type} (o:J R) (Q:R->Prop):Prop:=∃y,o=Z y/\Q y
theorem Ok.mono {R:Type} {o:J R} {Q Q':R->Prop} (h:Ok o Q) (hq:∀y,Q y->Q' y):Ok o Q':=by obtain⟨y,h1,h2⟩:=h;exact⟨y,h1,hq y h2⟩
theorem Ok.and {R:Type} {o:J R} {Q Q':R->Prop} (h:Ok o Q) (h':Ok o Q'):Ok o λy=>Q y/\Q' y:=by
 obtain⟨y,h1,h2⟩:=h;obtain⟨z,d,q⟩:=h';rw[h1]at d;cases d;exact⟨y,h1,h2,q⟩
theorem ai {R:Type} {y:R} {Q:R->Prop} (h:Q y):Ok (Z y) Q:=⟨y,rfl,h⟩
theorem YU {R:Type} {o:J R} {y:R} {Q:R->Prop} (e:o=Z y) (h:Q y):Ok o Q:=⟨y,e,h⟩
theorem a8 {R:Type} {b:Bool} {k:J R} {Q:R->Prop} (h:b=M) (hk:Ok k Q):Ok (chk b λ_=>k) Q:=by subst h;exact hk
theorem aK {R:Type} {b:Bool} {t f:J R} {Q:R->Prop} (ht:b=M->Ok t Q) (hf:b=aa->Ok f Q):Ok (aF b t f) Q:=by
 cases b with
 |true=>exact ht rfl
 |false=>exact hf rfl
theorem eO {R:Type} {b:Bool} {t f:J R} {Q:R->Prop} (h:b=M) (ht:Ok t Q):Ok (aF b t f) Q:=by subst h;exact ht
theorem jr {R:Type} {b:Bool} {t f:J R} {Q:R->Prop} (h:b=aa) (hf:Ok f Q):Ok (aF b t f) Q:=by subst h;exact hf
theorem ar {α R:Type} {o:J α} {k:α->J R} {P:α->Prop} {Q:R->Prop} (h:Ok o P) (hk:∀x,P x->Ok (k x) Q):Ok (av o k) Q:=by
 obtain⟨x,rfl,d⟩:=h;exact hk x d
theorem aQ {α R:Type} {o:J α} {k:α->J R} {x:α} {Q:R->Prop} (h:o=Z x) (hk:Ok (k x) Q):Ok (av o k) Q:=by subst h;exact hk
theorem aW {α R:Type} {x:α} {k:α->J R} {Q:R->Prop} (h:Ok (k x) Q):Ok (lt x k) Q:=h
theorem aX {α R:Type} {o:J (R⊕α)} {k:α->J R} {Q:R->Prop} (P:α->Prop) (h:Ok o λr=>match r with|.inl r=>Q r|.inr x=>P x) (hk:∀x,P x->Ok (k x) Q):Ok (jn o k) Q:=by
 obtain⟨r,rfl,hr⟩:=h;cases r with
 |inl r=>exact⟨r,rfl,hr⟩
 |inr x=>exact hk x hr
theorem fO {α R:Type} {o:J (R⊕α)} {k:α->J R} {Q:R->Prop} (h:Ok o λr=>match r with|.inl r=>Q r|.inr x=>Ok (k x) Q):Ok (jn o k) Q:=aX (λx=>Ok (k x) Q) h λ_ h=>h
theorem abt {α R:Type} {a b:α} {r:J R} {Q:R->Prop} (e:a=b) (h:Ok r Q):Ok (same a b r) Q:=by unfold same;rw[aT e];exact h
theorem my {σ R:Type} {f:σ->J (σ⊕R)} {Q:R->Prop} (μ:σ->Nat) (I:σ->Prop) (h:∀x,I x->Ok (f x) λr=>match r with|.inl y=>I y/\μ y<μ x|.inr r=>Q r) {x:σ} (d:I x):Ok (iter f x) Q:=by
 have key:∀n x,μ x<n->I x->∃m r,iterN f m x=Z r/\Q r:=by
  intro n;induction n with
  |zero=>intro x hm;omega
  |succ n q=>
   intro x hm d;obtain⟨r,h1,h2⟩:=h x d;cases r with
   |inl y=>
    obtain⟨m,r,z,s⟩:=q y (by have:=h2.2;omega) h2.1;exact⟨m+1,r,by rw[iterN,h1];exact z,s⟩
   |inr r=>exact⟨1,r,by rw[iterN,h1],h2⟩
 obtain⟨m,r,h1,h2⟩:=key (μ x+1) x (kH _) d;exact⟨r,If h1,h2⟩
theorem cg {σ R:Type} {f:σ->J (σ⊕R)} {Q:R->Prop} (n:Nat) (I:Nat->σ->Prop) (h0:∀i x,i<n->I i x->Ok (f x) λr=>match r with|.inl y=>I (i+1) y|.inr r=>Q r) (h1:∀x,I n x->Ok (f x) λr=>match r with|.inl _=>False|.inr r=>Q r) {x:σ} (s:I 0 x):Ok (iter f x) Q:=by
 have key:∀m i x,i+m=n->I i x->∃k r,iterN f k x=Z r/\Q r:=by
  intro m;induction m with
  |zero=>
   intro i x hi s;have:i=n:=by omega
   subst this;obtain⟨r,q,d⟩:=h1 x s;cases r with
   |inl y=>exact d.elim
   |inr r=>exact⟨1,r,by rw[iterN,q],d⟩
  |succ m z=>
   intro i x hi s;obtain⟨r,q,d⟩:=h0 i x (by omega) s;cases r with
   |inl y=>
    obtain⟨k,r,D,A⟩:=z (i+1) y (by omega) d;exact⟨k+1,r,by rw[iterN,q];exact D,A⟩
   |inr r=>exact⟨1,r,by rw[iterN,q],d⟩
 obtain⟨m,r,q,d⟩:=key n 0 x (by omega) s;exact⟨r,If q,d⟩
theorem Ny {j:Int} {n:Nat}:e9 j n=M↔0<=j/\j<n:=by simp[e9,cP,fK]
theorem oW {a b:Int}:cP a b=M↔a<=b:=by simp[cP]
theorem mB {a b:Int}:fK a b=M↔a<b:=by simp[fK]
theorem fD {a b:Int}:fK a b=aa↔b<=a:=by simp[fK]
theorem ko {a b:Int}:cP a b=aa↔b<a:=by simp[cP]
theorem zj {n b:Nat}:bc n b=M↔n<=1099511627776/\n*b<=1099511627776:=by simp[bc]
theorem bY {R:Type} {o:J R} {v:R} (h:Ok o (·=v)):o=Z v:=by obtain⟨y,h1,h2⟩:=h;rw[h1,h2]
section steps
variable {R:Type} {k t f:J R} {Q:R->Prop}
theorem aH {j:Int} {n:Nat} (h0:0<=j) (h1:j<n) (hk:Ok k Q):Ok (chk (e9 j n) λ_=>k) Q:=a8 (Ny.2 ⟨h0,h1⟩) hk
theorem aZ {n b:Nat} (h0:n<=1073741824) (h1:b<=1024) (hk:Ok k Q):Ok (chk (bc n b) λ_=>k) Q:=
 a8 (zj.2 ⟨by omega,c6 (Nat.mul_le_mul h0 h1) (by omega)⟩) hk
theorem cK {a b:Bool} (h:Ok (chk a λ_=>chk b λ_=>k) Q):Ok (chk (a&&b) λ_=>k) Q:=by
 cases a with
 |true=>exact h
 |false=>obtain⟨y,h,_⟩:=h;cases h
theorem cY {a b:Int} (h:a<=b) (hk:Ok k Q):Ok (chk (cP a b) λ_=>k) Q:=a8 (oW.2 h) hk
theorem rE {a b:Int} (h:a<b) (hk:Ok k Q):Ok (chk (fK a b) λ_=>k) Q:=a8 (mB.2 h) hk
theorem Nn {p:Prop} {i:Decidable p} (h:p) (hk:Ok k Q):Ok (chk (decide p) λ_=>k) Q:=a8 (be h) hk
theorem vn {p:Prop} {i:Decidable p} (h:¬p) (hk:Ok k Q):Ok (chk (!decide p) λ_=>k) Q:=a8 (by simp[h]) hk
theorem lK {a b:Nat} (h:a=b) (hk:Ok k Q):Ok (chk (aw a b) λ_=>k) Q:=a8 (by subst h;exact rA a) hk
theorem Aa (hk:Ok k Q):Ok (chk M λ_=>k) Q:=hk
theorem aR {a b:Int} (ht:a<b->Ok t Q) (hf:b<=a->Ok f Q):Ok (aF (fK a b) t f) Q:=aK (λh=>ht (mB.1 h)) (λh=>hf (fD.1 h))
theorem dX {a b:Int} (ht:a<=b->Ok t Q) (hf:b<a->Ok f Q):Ok (aF (cP a b) t f) Q:=aK (λh=>ht (oW.1 h)) (λh=>hf (ko.1 h))
theorem aE {p:Prop} {i:Decidable p} (ht:p->Ok t Q) (hf:¬p->Ok f Q):Ok (aF (decide p) t f) Q:=aK (λh=>ht (bg h)) (λh=>hf (jE h))
theorem bV {p:Prop} {i:Decidable p} (ht:¬p->Ok t Q) (hf:p->Ok f Q):Ok (aF (!decide p) t f) Q:=aK (λh=>ht (by simpa using h)) (λh=>hf (by simpa using h))
theorem cX {b:Bool} (ht:b=aa->Ok t Q) (hf:b=M->Ok f Q):Ok (aF (!b) t f) Q:=aK (λh=>ht (by simpa using h)) (λh=>hf (by simpa using h))
theorem rU (ht:Ok t Q):Ok (aF M t f) Q:=ht
theorem gw (hf:Ok f Q):Ok (aF aa t f) Q:=hf
theorem dV {j:Int} {n:Nat} (hk:Ok k Q) (h0:0<=j:=by first|omega|(dsimp only;omega)) (h1:j<n:=by first|omega|(dsimp only;omega)):Ok (chk (e9 j n) λ_=>k) Q:=aH h0 h1 hk
theorem iC {a b:Int} (ht:Ok t Q) (h:a<b:=by first|omega|(dsimp only[aj];omega)):Ok (aF (fK a b) t f) Q:=aR (λ_=>ht) λg=>dP h (Int.not_lt.2 g)
theorem hX {a b:Int} (hf:Ok f Q) (h:b<=a:=by first|omega|(dsimp only[aj];omega)):Ok (aF (fK a b) t f) Q:=aR (λg=>dP g (Int.not_lt.2 h)) λ_=>hf
end steps
theorem oq:(∀(p:Prop) [Decidable p],(decide p=M)=p)/\(∀p:Prop,(True\/p)=True)/\(∀p:Prop,(p\/True)=True)/\(∀p:Prop,(True->p)=p)/\(∀p:Prop,(True/\p)=p)/\∀p:Prop,(p/\True)=p:=⟨λ_=>bz,true_or,or_true,λ_=>true_implies _,AC,and_true⟩
theorem kJ:(∀i:Decidable True,@decide True i=M)/\(∀i:Decidable False,@decide False i=aa)/\(∀{R:Type} (t f:J R),aF M t f=t)/\(∀{R:Type} (t f:J R),aF aa t f=f)/\(∀{α R:Type} (x:α) (k:α->J R),jn (Z (.inr x)) k=k x)/\(∀{α R:Type} (r:R) (k:α->J R),jn (Z (.inl r)) k=Z r)/\(∀{α R:Type} (x:α) (k:α->J R),av (Z x) k=k x)/\(∀{α R:Type} (x:α) (k:α->J R),lt x k=k x)/\(!M)=aa/\(!aa)=M:=⟨dJ,c9,λ_ _=>rfl,λ_ _=>rfl,λ_ _=>rfl,λ_ _=>rfl,λ_ _=>rfl,λ_ _=>rfl,rfl,rfl⟩
structure IM (p q:Prop):Prop where
 h:p->q
inductive OS {R:Type}:Option R->(R->Prop)->Prop where
 |cand {a b:Bool} {k:Option R} {Q:R->Prop} (h:Ok (chk a λ_=>chk b λ_=>k) Q):OS (chk (a&&b) λ_=>k) Q
 |e9 {j:Int} {n:Nat} {k:Option R} {Q:R->Prop} (h0:0<=j) (h1:j<n) (hk:Ok k Q):OS (chk (e9 j n) λ_=>k) Q
 |room {n b:Nat} {k:Option R} {Q:R->Prop} (h0:n<=1073741824) (h1:b<=1024) (hk:Ok k Q):OS (chk (bc n b) λ_=>k) Q
 |cile {a b:Int} {k:Option R} {Q:R->Prop} (h:a<=b) (hk:Ok k Q):OS (chk (cP a b) λ_=>k) Q
 |cilt {a b:Int} {k:Option R} {Q:R->Prop} (h:a<b) (hk:Ok k Q):OS (chk (fK a b) λ_=>k) Q
 |cdec {p:Prop} {i:Decidable p} {k:Option R} {Q:R->Prop} (h:p) (hk:Ok k Q):OS (chk (decide p) λ_=>k) Q
 |cndec {p:Prop} {i:Decidable p} {k:Option R} {Q:R->Prop} (h:¬p) (hk:Ok k Q):OS (chk (!decide p) λ_=>k) Q
 |cbeq {a b:Nat} {k:Option R} {Q:R->Prop} (h:a=b) (hk:Ok k Q):OS (chk (aw a b) λ_=>k) Q
 |cT {k:Option R} {Q:R->Prop} (hk:Ok k Q):OS (chk M λ_=>k) Q
 |lt {α:Type} {x:α} {k:α->Option R} {Q:R->Prop} (h:Ok (k x) Q):OS (lt x k) Q
 |b1 {t f:Option R} {Q:R->Prop} (h:Ok t Q):OS (aF M t f) Q
 |b0 {t f:Option R} {Q:R->Prop} (h:Ok f Q):OS (aF aa t f) Q
 |fK {a b:Int} {t f:Option R} {Q:R->Prop} (ht:IM (a<b) (Ok t Q)) (hf:IM (b<=a) (Ok f Q)):OS (aF (fK a b) t f) Q
 |cP {a b:Int} {t f:Option R} {Q:R->Prop} (ht:IM (a<=b) (Ok t Q)) (hf:IM (b<a) (Ok f Q)):OS (aF (cP a b) t f) Q
 |dec {p:Prop} {i:Decidable p} {t f:Option R} {Q:R->Prop} (ht:IM p (Ok t Q)) (hf:IM (¬p) (Ok f Q)):OS (aF (decide p) t f) Q
 |ndec {p:Prop} {i:Decidable p} {t f:Option R} {Q:R->Prop} (ht:IM (¬p) (Ok t Q)) (hf:IM p (Ok f Q)):OS (aF (!decide p) t f) Q
 |not {b:Bool} {t f:Option R} {Q:R->Prop} (ht:IM (b=aa) (Ok t Q)) (hf:IM (b=M) (Ok f Q)):OS (aF (!b) t f) Q
 |aF {b:Bool} {t f:Option R} {Q:R->Prop} (ht:IM (b=M) (Ok t Q)) (hf:IM (b=aa) (Ok f Q)):OS (aF b t f) Q
 |jc {α:Type} {o:Option (R⊕α)} {k:α->Option R} {Q:R->Prop} (h:Ok o λr=>match r with|.inl r=>Q r|.inr x=>Ok (k x) Q):OS (jn o k) Q
 |some {y:R} {Q:R->Prop} (h:Q y):OS (Z y) Q
theorem OS.ok {R:Type} {o:J R} {Q:R->Prop} (h:OS o Q):Ok o Q:=by
 cases h with
 |cand h=>exact cK h
 |e9 a b h=>exact aH a b h
 |room a b h=>exact aZ a b h
 |cile a h=>exact cY a h
 |cilt a h=>exact rE a h
 |cdec a h=>exact Nn a h
 |cndec a h=>exact vn a h
 |cbeq a h=>exact lK a h
 |cT h=>exact h
 |lt h=>exact h
 |b1 h=>exact h
 |b0 h=>exact h
 |fK a b=>exact aR a.h b.h
 |cP a b=>exact dX a.h b.h
 |dec a b=>exact aE a.h b.h
 |ndec a b=>exact bV a.h b.h
 |not a b=>exact cX a.h b.h
 |aF a b=>exact aK a.h b.h
 |jc h=>
  obtain⟨r,e,h⟩:=h;exact fO ⟨r,e,by cases r<;>exact h⟩
 |some h=>exact ai h
theorem bcT {R:Type} (t f:J R):aF M t f=t:=rfl
theorem Z1 {R:Type} (t f:J R):aF aa t f=f:=rfl
theorem jnr {α R:Type} (x:α) (k:α->J R):jn (Z (.inr x)) k=k x:=rfl
theorem Si {α R:Type} (x:α) (k:α->J R):av (Z x) k=k x:=rfl
theorem yo {k:Int}:k=1\/k=2\/k=3\/k=4\/k=5\/k=6\/k=7\/k=8\/k=9\/k=10\/k=11\/k=12\/k=13\/k=14\/k=15\/k=16\/k=17\/k=18\/k=19\/k=20\/k=21\/k=22\/k=23\/((∀j:Int,1<=j->j<=23->(k=j)=False)/\(k<1\/23<k)):=by
 by_cases h:1<=k/\k<=23
 .omega
 .have:(∀j:Int,1<=j->j<=23->(k=j)=False)/\(k<1\/23<k):=⟨λj h1 h2=>eq_false (by omega),by omega⟩
  repeat (first|exact this|refine Or.inr ?_)
theorem gJ {n:Int} (h0: -9223372036854775808<=n) (h1:n<=9223372036854775807):a9 .i64 n=n:=by
 rw[G3];unfold LJ;simp[cP,h0,h1]
theorem fx {i:Nat} (h:i<9223372036854775807):a9 .i64 ((i:Int)+1)=((i+1:Nat):Int):=by rw[gJ (by omega) (by omega)];omega
theorem K_ {T:Ty} (xs:Y T.den) (i:Nat):aG xs (i:Int)=xs.getD i T.zero:=by unfold aG;simp
theorem DV (xs:η) (i:Nat):aG (T:=.int .i64) xs (i:Int)=xs.getD i 0:=K_ (T:=.int .i64) xs i
theorem bH {T:Ty} {xs:Y T.den} {j:Int} (h0:0<=j) (h1:j<xs.length):aG xs j∈xs:=by
 unfold aG;rw[ay,ax (by omega)];exact qF _
theorem cL {α:Type} (xs:Y α) (j:Int) (x:α):(cj xs j x).length=xs.length:=by unfold cj;simp
theorem BG {α:Type} {xs:Y α} {j:Int} {x y:α} (h:y∈cj xs j x):y∈xs\/y=x:=LI h
theorem dZ {σ R:Type} {f:σ->J (σ⊕R)} {Q:R->Prop} (n:Nat) (hn:n<=1000000) (I:Nat->σ->Prop) (h0:∀i x,i<n->I i x->Ok (f x) λr=>match r with|.inl y=>I (i+1) y|.inr r=>Q r) (h1:∀x,I n x->Ok (f x) λr=>match r with|.inl _=>False|.inr r=>Q r) {x:σ} (s:I 0 x):Ok (fR f x) Q:=by
 have key:∀m i x,i+m=n->I i x->∃r,iterN f (m+1) x=Z r/\Q r:=by
  intro m;induction m with
  |zero=>
   intro i x hi s;have:i=n:=by omega
   subst this;obtain⟨r,q,d⟩:=h1 x s;cases r with
   |inl y=>exact d.elim
   |inr r=>exact⟨r,by rw[iterN,q],d⟩
  |succ m z=>
   intro i x hi s;obtain⟨r,q,d⟩:=h0 i x (by omega) s;cases r with
   |inl y=>
    obtain⟨r,D,A⟩:=z (i+1) y (by omega) d;exact⟨r,by rw[iterN,q];exact D,A⟩
   |inr r=>exact⟨r,vB (n:=1) (by rw[iterN,q]) (by omega),d⟩
 obtain⟨r,q,d⟩:=key n 0 x (by omega) s;exact⟨r,vB q (by omega),d⟩
abbrev WT:Type:=Y (ζ×Int×Int×Bool×Int)×Y (ζ×Bool)×Y (ζ×Int)×Y ζ×Y ζ×Y ν
abbrev SY:Type:=Y (Int×η)×Int×θ×Y (Int×Int×Bool)
theorem PL (a b:Int):qf (a,b)=Z (decide (0<=a/\a<b)):=by
 refine bY ?_;unfold qf jk aB;with_reducible repeat' first|(refine OS.ok ?_;constructor)|refine IM.mk λ_=>?_
 .by_cases h:a<b<;>simp[*,fK]
 .simp;omega
theorem Ke (l:η) (n:Int) (hl:l.length<=1000000):ox (l,n)=Z (l.contains n):=by
 refine bY ?_;unfold ox bf bx bG aY cI aB cu;refine cg l.length (λi x=>x=(i:Int)/\∀k,k<i->l.getD k 0≠n) ?_ ?_ ⟨rfl,λk hk=>by omega⟩
 .rintro i x hi ⟨rfl,d⟩;with_reducible repeat' first|(refine OS.ok ?_;constructor)|refine IM.mk λ_=>?_
  all_goals try simp only[aj,oq] at*
  .omega
  .omega
  .rename_i h;rw[DV]at h;show M=_
   symm
   rw[sC,<-h,ay,ax hi];exact qF _
  .rename_i h;rw[DV]at h;refine ⟨fx (by omega),λk hk=>?_⟩;rcases bM k i with h1|h1
   .exact d k h1
   .rw[show k=i by omega];exact h
  .omega
 .rintro x ⟨rfl,d⟩;with_reducible repeat' first|(refine OS.ok ?_;constructor)|refine IM.mk λ_=>?_
  all_goals try simp only[aj,oq] at*
  .omega
  .omega
  .omega
  .omega
  .symm
   rw[Bool.eq_false_iff];intro hc;rw[sC]at hc;obtain⟨k,hk,he⟩:=ve hc;exact d k hk (by rw[ay,ax hk];exact he)
theorem il {T:Ty} {xs:Y T.den} {p:T.den->Prop} (h:∀k:Nat,k<ah xs->p (aG xs (k:Int))):∀c∈xs,p c:=λc hc=>by
 obtain⟨k,hk,he⟩:=ve hc;have:=h k hk;rw[K_,ay,ax hk,uo,he]at this;exact this
theorem OO (w:WT) (s:SY) (D:w.2.2.1.length<=1000000):Ok (nH (w,s)) λb=>b=M->(∀c∈w.2.2.1,0<=c.2/\c.2<w.2.1.length)/\s.1.length=w.2.1.length/\s.2.2.1.length=w.2.2.2.1.length/\s.2.2.2.length=w.2.2.2.2.1.length:=by
 unfold nH aV ba bk ci bf bx bG aY cI aB cu;refine cg w.2.2.1.length (λi x=>x.1=(i:Int)/\x.2=(w,s)/\∀k:Nat,k<i->0<=(aG (T:=pT) w.2.2.1 (k:Int)).2/\(aG (T:=pT) w.2.2.1 (k:Int)).2<w.2.1.length) ?_ ?_ ⟨rfl,rfl,λk hk=>by omega⟩
 .rintro i ⟨x1,x2⟩ hi ⟨q,d,z⟩;dsimp only at q d;subst q;subst d;with_reducible repeat' first|(refine OS.ok ?_;constructor)|refine IM.mk λ_=>?_
  all_goals try simp only[aj,oq] at*
  all_goals first|omega|skip
  .intro h;cases h
  .intro h;cases h
  .refine ⟨fx (by omega),λk hk=>?_⟩;rcases bM k i with h1|h1
   .exact z k h1
   .rename_i h2 A;rw[show k=i by omega];exact⟨h2,A⟩
 .rintro⟨x1,x2⟩ ⟨q,d,z⟩;dsimp only at q d;subst q;subst d;with_reducible repeat' first|(refine OS.ok ?_;constructor)|refine IM.mk λ_=>?_
  all_goals try simp only[aj,oq] at*
  all_goals first|omega|skip
  refine ar (P:=λb=>b=M->s.1.length=w.2.1.length/\s.2.2.1.length=w.2.2.2.1.length/\s.2.2.2.length=w.2.2.2.2.1.length) ?_ ?_
  .with_reducible repeat' first|(refine OS.ok ?_;constructor)|refine IM.mk λ_=>?_
   all_goals try simp only[aj,oq] at*
   .intro h;omega
   .intro h;cases h
   .intro h;cases h
  .intro b hb;with_reducible repeat' first|(refine OS.ok ?_;constructor)|refine IM.mk λ_=>?_
   exact λh=>⟨il (T:=pT) z,hb h⟩
structure NM (w:WT) (k o:Int):Prop where
 k1:1<=k
 k2:k<=23
 ce:k=3\/k=4->0<=o/\o<w.1.length
 lk:6<=k/\k<=11->0<=o/\o<w.2.1.length
 cd:16<=k/\k<=19->0<=o/\o<w.2.2.1.length
 th:k=20\/k=21->0<=o/\o<w.2.2.2.2.1.length
 fu:k=22\/k=23->0<=o/\o<w.2.2.2.1.length
 no:k=1\/k=2\/k=5\/(12<=k/\k<=15)->o= -1
 mu:k=6\/k=7->(aG (T:=xM) w.2.1 o).2=aa
 rw:8<=k/\k<=11->(aG (T:=xM) w.2.1 o).2=M
theorem YY (w:WT) (k o:Int):Ok (pm (w,k,o)) λb=>b=M->NM w k o:=by
 unfold pm aV ba bk bO bf bG aY aB;rcases @yo k with rfl|rfl|rfl|rfl|rfl|rfl|rfl|rfl|rfl|rfl|rfl|rfl|rfl|rfl|rfl|rfl|rfl|rfl|rfl|rfl|rfl|rfl|rfl|⟨hk,d⟩
 case inr.inr.inr.inr.inr.inr.inr.inr.inr.inr.inr.inr.inr.inr.inr.inr.inr.inr.inr.inr.inr.inr.inr=>
  simp only[hk 1 (by decide) (by decide),hk 2 (by decide) (by decide),hk 3 (by decide) (by decide),hk 4 (by decide) (by decide),hk 5 (by decide) (by decide),hk 6 (by decide) (by decide),hk 7 (by decide) (by decide),hk 8 (by decide) (by decide),hk 9 (by decide) (by decide),hk 10 (by decide) (by decide),hk 11 (by decide) (by decide),hk 12 (by decide) (by decide),hk 13 (by decide) (by decide),hk 14 (by decide) (by decide),hk 15 (by decide) (by decide),hk 16 (by decide) (by decide),hk 17 (by decide) (by decide),hk 18 (by decide) (by decide),hk 19 (by decide) (by decide),hk 20 (by decide) (by decide),hk 21 (by decide) (by decide),hk 22 (by decide) (by decide),hk 23 (by decide) (by decide),aN,aS,kJ];exact ai λh=>by cases h
 all_goals simp only[aN,aS,kJ,PL]
 all_goals with_reducible repeat' first|(refine OS.ok ?_;constructor)|refine IM.mk λ_=>?_
 all_goals try simp only[aj,oq] at*
 all_goals first|omega|(intro h;cases h;done)|(intro h;constructor<;>first|omega|(intro h2;first|omega|(simpa using h)))
structure SB (n:Nat) (s:SY):Prop where
 n1:n<=100000
 lk:s.1.length<=1000
 rd:∀l∈s.1,l.2.length<=n
 dn:s.2.2.1.length<=1000
 th:s.2.2.2.length<=1000
structure EN (w:WT) (s:SY) (t k o:Int):Prop where
 nm:NM w k o
 t0:0<=t
 t1:t<w.2.2.2.2.1.length
 cd:∀c∈w.2.2.1,0<=c.2/\c.2<w.2.1.length
 e1:s.1.length=w.2.1.length
 e2:s.2.2.1.length=w.2.2.2.1.length
 e3:s.2.2.2.length=w.2.2.2.2.1.length
structure FO (w:WT) (s:SY) (t k o:Int):Prop where
 b:k=1->(aG (T:=uP) s.2.2.2 t).1=1
 wk:k=17->(aG (T:=uP) s.2.2.2 t).1=4/\(aG (T:=uP) s.2.2.2 t).2.1=o/\(aG (T:=ti) s.1 (aG (T:=pT) w.2.2.1 o).2).1= -1
 r:k≠1->k≠17->(aG (T:=uP) s.2.2.2 t).1=2
 aq:k=6\/k=8\/k=10->(aG (T:=ti) s.1 o).1= -1
 wr:k=10->(aG (T:=ti) s.1 o).2.length=0
 ra:k=8->(aG (T:=ti) s.1 o).2.contains t=aa
 rl:k=7\/k=11->(aG (T:=ti) s.1 o).1=t
 rr:k=9->(aG (T:=ti) s.1 o).2.contains t=M
 xb:k=12->s.2.1= -1
 xe:k=13->s.2.1=t
 ab:k=14->(aG (T:=uP) s.2.2.2 t).2.2=aa
 ae:k=15->(aG (T:=uP) s.2.2.2 t).2.2=M
 nt:k=16\/k=18\/k=19->(aG (T:=ti) s.1 (aG (T:=pT) w.2.2.1 o).2).1=t
 sp:k=20->¬o=t/\(aG (T:=uP) s.2.2.2 o).1=0
 jo:k=21->¬o=t/\(aG (T:=uP) s.2.2.2 o).1=5
 se:k=22->aG (T:=.bool) s.2.2.1 o=aa
 ge:k=23->aG (T:=.bool) s.2.2.1 o=M
theorem Kg {n:Nat} (w:WT) (s:SY) (hs:SB n s) (L:w.2.2.1.length<=1000) (t k o:Int):Ok (iw (w,s,t,k,o)) λb=>b=M->EN w s t k o/\FO w s t k o:=by
 unfold iw aV ba bk bn cC ci bf ir bG aY aB;refine aX (λx=>x.2=(w,s)/\(x.1=aa->EN w s t k o)) ?_ ?_
 .refine ar (OO w s (by omega)) λb hb=>?_
  with_reducible repeat' first|(refine OS.ok ?_;constructor)|refine IM.mk λ_=>?_
  .exact⟨rfl,λh=>by cases h⟩
  .simp only[PL,Si];with_reducible repeat' first|(refine OS.ok ?_;constructor)|refine IM.mk λ_=>?_
   .exact⟨rfl,λh=>by cases h⟩
   .refine ar (YY w k o) λc hc=>?_
    with_reducible repeat' first|(refine OS.ok ?_;constructor)|refine IM.mk λ_=>?_
    all_goals try simp only[aj,oq] at*
    rename_i h1 h2;obtain⟨I,F,D,f4⟩:=hb h1;exact λh=>⟨hc (by simpa using h),by omega,by omega,I,F,D,f4⟩
 .rintro⟨x1,x2⟩ ⟨d,q⟩;dsimp only at d q;subst d;refine aK (λh=>ai λh=>by cases h) (λh=>?_);have he:=q h;obtain⟨nm,t0,t1,cd,e1,e2,e3⟩:=id he;obtain⟨_,_,ce,lk,cn,th,fu⟩:=nm;have hm:16<=k/\k<=19->0<=(aG (T:=pT) w.2.2.1 o).2/\(aG (T:=pT) w.2.2.1 o).2<w.2.1.length:=λh=>cd _ (bH (cn h).1 (cn h).2)
  have A:6<=k/\k<=11->ox ((aG (T:=ti) s.1 o).2,t)=Z ((aG (T:=ti) s.1 o).2.contains t):=λh=>Ke _ _ (by
   have:=hs.rd _ (bH (T:=ti) (lk h).1 (by have:=(lk h).2;omega));have:=hs.n1;omega)
  rcases @yo k with rfl|rfl|rfl|rfl|rfl|rfl|rfl|rfl|rfl|rfl|rfl|rfl|rfl|rfl|rfl|rfl|rfl|rfl|rfl|rfl|rfl|rfl|rfl|⟨hk,z⟩
  case inr.inr.inr.inr.inr.inr.inr.inr.inr.inr.inr.inr.inr.inr.inr.inr.inr.inr.inr.inr.inr.inr.inr=>omega
  all_goals simp only[aN,aS,kJ]
  all_goals with_reducible repeat' first|(refine OS.ok ?_;constructor)|refine IM.mk λ_=>?_
  all_goals try simp only[A (by omega),Si]
  all_goals with_reducible repeat' first|(refine OS.ok ?_;constructor)|refine IM.mk λ_=>?_
  all_goals try simp only[aj,oq] at*
  all_goals first|omega|(intro h;cases h;done)|exact (hm ⟨by decide,by decide⟩).1|(rw [e1];exact (hm ⟨by decide,by decide⟩).2)|(intro h;refine ⟨he,?_⟩;constructor<;>first|omega|(intros;first|omega|assumption|(simpa using h)|exact⟨by assumption,by first|assumption|exact⟨by assumption,by assumption⟩⟩))|(refine ⟨he,?_⟩;constructor<;>first|omega|(intros;first|omega|assumption))
def l9:η->Int->η
 |[],n=>[n]
 |x::r,n=>if x<n then x::l9 r n else if x=n then x::r else n::x::r
theorem Do (n:Int):∀(i:Nat) (l:η),i<=l.length->(∀k,k<i->l.getD k 0<n)->l9 l n=l.take i++l9 (l.drop i) n
 |0,l,_,_=>by simp
 |i+1,[],h,_=>by simp at h
 |i+1,x::r,h,hk=>by
  have h0:=hk 0 (by omega);simp at h0;have:=Do n i r (by simpa using h) (λk d=>by have:=hk (k+1) (by omega);simpa using this);rw[l9,aT h0,this,vb,vh,gZ]
theorem EP (n:Int):∀l:η,(l9 l n).length<=l.length+1
 |[]=>by simp[l9]
 |x::r=>by
  have:=EP n r;rw[l9];split
  .simp;omega
  .split<;>simp
theorem HI {n y:Int}:∀{l:η},y∈l9 l n↔y=n\/y∈l
 |[]=>by simp[l9]
 |x::r=>by
  have:=HI (n:=n) (y:=y) (l:=r);rw[l9];split
  .simp[this];constructor
   .rintro (h|h|h)<;>simp[h]
   .rintro (h|h|h)<;>simp[h]
  .split
   .rename_i h;subst h;simp
   .simp
def xR:η->Prop
 |[]=>True
 |x::r=>(∀y∈r,x<y)/\xR r
theorem Pr {n:Int}:∀{l:η},xR l->xR (l9 l n)
 |[],_=>by simp[l9,xR]
 |x::r,h=>by
  rw[l9];split
  .rename_i q;refine ⟨λy d=>?_,Pr h.2⟩;rcases HI.1 d with rfl|d
   .exact q
   .exact h.1 y d
  .split
   .exact h
   .rename_i h1 h2;refine ⟨λy d=>?_,h⟩;rcases bu.1 d with rfl|d
    .omega
    .have:=h.1 y d;omega
theorem aaa (l:η) (n:Int) (hl:l.length<=1000000):vu (l,n)=Z (l9 l n):=by
 refine bY ?_;unfold vu bx bo bG aY cI aB cu;have fin:∀i:Nat,i<=l.length->(∀k,k<i->l.getD k 0<n)->(i<l.length->¬l.getD i 0<n/\l.getD i 0≠n)->l.take i++[n]++l.drop i=l9 l n:=λi hi hk hn=>by
  rw[Do n i l hi hk];cases hd:l.drop i with
  |nil=>simp[l9]
  |cons y r=>
   have hlt:i<l.length:=by
    rcases bM i l.length with h|h
    .exact h
    .rw[List.drop_eq_nil_of_le h]at hd;cases hd
   have q:l.getD i 0=y:=by
    rw[ay,<-List.head?_drop,hd];rfl
   obtain⟨h1,h2⟩:=hn hlt;rw[q]at h1 h2;rw[l9,aL h1,aL h2];simp
 refine cg l.length (λi x=>x=(i:Int)/\∀k,k<i->l.getD k 0<n) ?_ ?_ ⟨rfl,λk hk=>by omega⟩
 .rintro i x hi ⟨rfl,d⟩;by_cases hlt:l.getD i 0<n
  .with_reducible repeat' first|(refine OS.ok ?_;constructor)|refine IM.mk λ_=>?_
   all_goals try simp only[aj,oq] at*
   all_goals first|omega|skip
   .refine ⟨fx (by omega),λk hk=>?_⟩;rcases bM k i with h1|h1
    .exact d k h1
    .rw[show k=i by omega];exact hlt
   .rename_i h;exact dP hlt (Int.not_lt.2 h)
  .have key:l.getD i 0=n->l9 l n=l:=λhe=>by
    rw[Do n i l (by omega) d];cases hd:l.drop i with
    |nil=>have:=iX ah hd;simp at this;omega
    |cons y r=>
     have q:l.getD i 0=y:=by rw[ay,<-List.head?_drop,hd];rfl
     rw[q]at he;rw[l9,aL (by omega),aT he,<-hd,List.take_append_drop]
   with_reducible repeat' first|(refine OS.ok ?_;constructor)|refine IM.mk λ_=>?_
   all_goals try simp only[aj,oq] at*
   all_goals first|omega|skip
   .rename_i h;exact dP h hlt
   .refine ar (P:=λr=>r=l9 l n) ?_ λr hr=>ai hr
    with_reducible repeat' first|(refine OS.ok ?_;constructor)|refine IM.mk λ_=>?_
    all_goals try simp only[aj,oq] at*
    all_goals first|omega|skip
    .rename_i h;exact (key h).symm
    .simp;omega
    .simp;omega
    .simp;omega
    .rename_i h;simpa using fin i (by omega) d (λ_=>⟨hlt,h⟩)
 .rintro x ⟨rfl,d⟩;with_reducible repeat' first|(refine OS.ok ?_;constructor)|refine IM.mk λ_=>?_
  all_goals try simp only[aj,oq] at*
  all_goals first|omega|skip
  refine ar (P:=λr=>r=l9 l n) ?_ λr hr=>ai hr
  with_reducible repeat' first|(refine OS.ok ?_;constructor)|refine IM.mk λ_=>?_
  all_goals try simp only[aj,oq] at*
  all_goals first|omega|skip
  .simp;omega
  .simp;omega
  .simp;omega
  .simpa using fin l.length (by omega) d (λh=>by omega)
def qI (a b:η):η:=b.foldl l9 (a.foldl l9 [])
theorem vG:∀(b acc:η),(b.foldl l9 acc).length<=acc.length+b.length
 |[],acc=>by simp
 |x::r,acc=>by
  have:=vG r (l9 acc x);have:=EP x acc;rw[EB,cf];omega
theorem IL:∀{b acc:η},xR acc->xR (b.foldl l9 acc)
 |[],_,h=>h
 |x::r,acc,h=>by rw[EB];exact IL (Pr h)
theorem IK {y:Int}:∀{b acc:η},y∈b.foldl l9 acc↔y∈acc\/y∈b
 |[],acc=>by simp
 |x::r,acc=>by
  rw[EB,IK,HI];simp;constructor
  .rintro ((h|h)|h)<;>simp[h]
  .rintro (h|h|h)<;>simp[h]
theorem O2 (a b:η):xR (qI a b):=IL (IL trivial)
theorem O1 {a b:η} {y:Int}:y∈qI a b↔y∈a\/y∈b:=by unfold qI;rw[IK,IK];simp
theorem Yv (a b:η):(qI a b).length<=a.length+b.length:=by
 have:=vG b (a.foldl l9 []);have:=vG a [];unfold qI;simp at *;omega
theorem Mj {b acc:η} {i:Nat} (hi:i<b.length):(b.take (i+1)).foldl l9 acc=l9 ((b.take i).foldl l9 acc) (b.getD i 0):=by
 rw[oO hi,jS,ay,ax hi];rfl
theorem RN (a b:η) (d:a.length<=400000) (hb:b.length<=400000):qT (a,b)=Z (qI a b):=by
 refine bY ?_;unfold qT bx bG aY cI aB cu;refine cg a.length (λi x=>x.2=(i:Int)/\x.1=(a.take i).foldl l9 []) ?_ ?_ ⟨rfl,rfl⟩
 .rintro i ⟨x1,x2⟩ hi ⟨h1,h2⟩;dsimp only at h1 h2;subst h1;subst h2;have hl:((a.take i).foldl l9 []).length<=1000000:=by have:=vG (a.take i) [];have:=gm i a;simp at *;omega
  with_reducible repeat' first|(refine OS.ok ?_;constructor)|refine IM.mk λ_=>?_
  all_goals try simp only[aj,oq] at*
  all_goals first|omega|skip
  refine aQ (aaa _ _ hl) (ai ?_);dsimp only;refine ⟨fx (by omega),?_⟩;rw[DV,Mj hi]
 .rintro⟨x1,x2⟩ ⟨h1,h2⟩;dsimp only at h1 h2;subst h1;subst h2;rw[bS];have hla:=vG a [];with_reducible repeat' first|(refine OS.ok ?_;constructor)|refine IM.mk λ_=>?_
  all_goals try simp only[aj,oq] at*
  all_goals first|omega|skip
  refine ar (P:=λr=>r=qI a b) ?_ λr hr=>ai hr
  refine cg b.length (λi x=>x.2=(i:Int)/\x.1=(b.take i).foldl l9 (a.foldl l9 [])) ?_ ?_ ⟨rfl,rfl⟩
  .rintro i ⟨x1,x2⟩ hi ⟨h1,h2⟩;dsimp only at h1 h2;subst h1;subst h2;have hl:((b.take i).foldl l9 (a.foldl l9 [])).length<=1000000:=by have:=vG (b.take i) (a.foldl l9 []);have:=gm i b;simp at *;omega
   with_reducible repeat' first|(refine OS.ok ?_;constructor)|refine IM.mk λ_=>?_
   all_goals try simp only[aj,oq] at*
   all_goals first|omega|skip
   refine aQ (aaa _ _ hl) (ai ?_);dsimp only;refine ⟨fx (by omega),?_⟩;rw[DV,Mj hi]
  .rintro⟨x1,x2⟩ ⟨h1,h2⟩;dsimp only at h1 h2;subst h1;subst h2;rw[bS];with_reducible repeat' first|(refine OS.ok ?_;constructor)|refine IM.mk λ_=>?_
   all_goals try simp only[aj,oq] at*
   all_goals first|omega|rfl
def EE (c:Int) (x:Int×Int×Bool):Bool:=decide (x.1=3)&&decide (x.2.1=c)
def wl (th:Y (Int×Int×Bool)) (c:Int):Nat->η
 |0=>[]
 |i+1=>if EE c (aG (T:=uP) th (i:Int)) then wl th c i++[(i:Int)] else wl th c i
theorem pW (th:Y (Int×Int×Bool)) (c:Int):∀i,(wl th c i).length<=i
 |0=>cF _
 |i+1=>by have:=pW th c i;rw[wl];split<;>simp<;>omega
theorem xW {th:Y (Int×Int×Bool)} {c u:Int}:∀{i:Nat},u∈wl th c i↔0<=u/\u<i/\EE c (aG (T:=uP) th u)=M
 |0=>by simp[wl];omega
 |i+1=>by
  have d:= @xW th c u i;rw[wl];by_cases hu:u=(i:Int)
  .subst hu;split
   .rename_i h;simp[h];omega
   .rename_i h;rw[d];simp[h]
  .split
   .rw[bN,d,aJ];constructor
    .rintro (h|h)
     .exact⟨h.1,by omega,h.2.2⟩
     .exact dP h hu
    .intro h;exact .inl ⟨h.1,by omega,h.2.2⟩
   .rw[d];constructor
    .intro h;exact⟨h.1,by omega,h.2.2⟩
    .intro h;exact⟨h.1,by omega,h.2.2⟩
theorem ai7 {th:Y (Int×Int×Bool)} {c:Int} {i:Nat} (h1:(aG (T:=uP) th (i:Int)).1=3) (h2:(aG (T:=uP) th (i:Int)).2.1=c):wl th c (i+1)=wl th c i++[(i:Int)]:=by
 rw[wl,aT];unfold EE;rw[h1,h2];simp
theorem ae7 {th:Y (Int×Int×Bool)} {c:Int} {i:Nat} (h1:¬(aG (T:=uP) th (i:Int)).1=3):wl th c (i+1)=wl th c i:=by
 rw[wl,aL];unfold EE;rw[bD h1];simp
theorem ae6 {th:Y (Int×Int×Bool)} {c:Int} {i:Nat} (h1:¬(aG (T:=uP) th (i:Int)).2.1=c):wl th c (i+1)=wl th c i:=by
 rw[wl,aL];unfold EE;rw[bD h1];simp
theorem J2 (s:SY) (c:Int) (hs:s.2.2.2.length<=1000):nG (s,c)=Z (wl s.2.2.2 c s.2.2.2.length):=by
 refine bY ?_;unfold nG bn bf bx bo bG aY cI aB cu;refine cg s.2.2.2.length (λi x=>x=((i:Int),s,wl s.2.2.2 c i)) ?_ ?_ rfl
 .rintro i x hi rfl;have hl:=pW s.2.2.2 c i;with_reducible repeat' first|(refine OS.ok ?_;constructor)|refine IM.mk λ_=>?_
  all_goals try simp only[aj,oq] at*
  all_goals first|omega|skip
  all_goals first|(simp;omega)|skip
  .rename_i h1 h2;rw[ai7 h1 h2,fx (by omega)]
  .rename_i h1 h2;rw[ae6 h2,fx (by omega)]
  .rename_i h1;rw[ae7 h1,fx (by omega)]
 .rintro x rfl;with_reducible repeat' first|(refine OS.ok ?_;constructor)|refine IM.mk λ_=>?_
  all_goals try simp only[aj,oq] at*
  all_goals first|omega|rfl
def wo (l:η) (n:Int):η:=l.filter λx=> !decide (x=n)
theorem Sn (l:η) (n:Int) (hl:l.length<=1000000):qe (l,n)=Z (wo l n):=by
 refine bY ?_;unfold qe bx ir bo bG aY cI aB cu;refine cg l.length (λi x=>x=((i:Int),wo (l.take i) n)) ?_ ?_ rfl
 .rintro i x hi rfl;have hq:(wo (l.take i) n).length<=i:=c6 (List.length_filter_le ..) (gm ..);have ht:wo (l.take (i+1)) n=if aG (T:=.int .i64) l (i:Int)=n then wo (l.take i) n else wo (l.take i) n++[aG (T:=.int .i64) l (i:Int)]:=by
   unfold wo;rw[oO hi,List.filter_append,DV,ay,ax hi];by_cases h:l[i]=n<;>simp[h]
  with_reducible repeat' first|(refine OS.ok ?_;constructor)|refine IM.mk λ_=>?_
  all_goals try simp only[aj,oq] at*
  all_goals first|omega|skip
  .simp;omega
  .rename_i h;rw[ht,aL h,fx (by omega)]
  .rename_i h;rw[ht,aT h,fx (by omega)]
 .rintro x rfl;with_reducible repeat' first|(refine OS.ok ?_;constructor)|refine IM.mk λ_=>?_
  all_goals try simp only[aj,oq] at*
  all_goals first|omega|(rw [bS])
theorem pX {T:Ty} {xs:Y T.den} {i:Nat} (hi:i<ah xs):cM (i+1) xs=cM i xs++[aG xs (i:Int)]:=by
 rw[oO hi,K_,ay,ax hi];rfl
theorem qE {n:Nat} (s:SY) (hs:SB n s):ii s=Z (s.2.1,s.1,s.2.2.1,s.2.2.2):=by
 refine bY ?_;obtain⟨s1,s2,d,s4⟩:=s;have hn:=hs.n1;have A:=hs.lk;have z:=hs.dn;have q:=hs.th;dsimp only at A z q;unfold ii aV ba bk bn ci bx bo bG aY cI aB cu;with_reducible repeat' first|(refine OS.ok ?_;constructor)|refine IM.mk λ_=>?_
 all_goals try simp only[aj,oq] at*
 .simp;omega
 .omega
 .simp;omega
 .omega
 refine cg s1.length (λi x=>x=((i:Int),(s1,s2,d,s4),0,s2,s1.take i,d,s4)) ?_ ?_ ?_
 .rintro i x hi rfl;have hg:=hs.rd _ (bH (T:=ti) (xs:=s1) (j:=(i:Int)) (by omega) (by omega));with_reducible repeat' first|(refine OS.ok ?_;constructor)|refine IM.mk λ_=>?_
  all_goals try simp only[aj,oq] at*
  all_goals first|omega|skip
  .simp;omega
  .simp;omega
  .rw[fx (by omega),pX (T:=ti) hi];rfl
 .rintro x rfl;with_reducible repeat' first|(refine OS.ok ?_;constructor)|refine IM.mk λ_=>?_
  all_goals try simp only[aj,oq] at*
  all_goals first|omega|skip
  simp
 .simp
theorem FN (s:SY) (c:Int) (hs:s.2.2.2.length<=1000):jF ((s.2.1,c),s.1,s.2.2.1,s.2.2.2)=Z (wl s.2.2.2 c s.2.2.2.length):=by
 refine bY ?_;unfold jF;refine ar (P:=λy=>y=(wl s.2.2.2 c s.2.2.2.length,s.1,s.2.2.1,s.2.2.2)) ?_ λy d=>by subst d;exact abt rfl (ai rfl)
 unfold mi aV ba bk bn ci bf bx bo j7 aY cI aB cu;refine cg s.2.2.2.length (λi x=>x=((i:Int),s.1,s.2.2.1,s.2.2.2,s.2.1,wl s.2.2.2 c i)) ?_ ?_ rfl
 .rintro i x hi rfl;have hl:=pW s.2.2.2 c i;with_reducible repeat' first|(refine OS.ok ?_;constructor)|refine IM.mk λ_=>?_
  all_goals try simp only[aj,oq] at*
  all_goals first|omega|skip
  all_goals first|(simp;omega)|skip
  .rename_i h1 h2;rw[ai7 h1 h2,fx (by omega)]
  .rename_i h1 h2;rw[ae6 h2,fx (by omega)]
  .rename_i h1;rw[ae7 h1,fx (by omega)]
 .rintro x rfl;with_reducible repeat' first|(refine OS.ok ?_;constructor)|refine IM.mk λ_=>?_
  all_goals try simp only[aj,oq] at*
  all_goals first|omega|rfl
structure AP (n:Nat) (s y:SY):Prop where
 a1:y.1.length=s.1.length
 a2:y.2.2.1.length=s.2.2.1.length
 a3:y.2.2.2.length=s.2.2.2.length
 rd:∀l∈y.1,l.2.length<=n+1
theorem AP.toSB {n:Nat} {s y:SY} (h:AP n s y) (hs:SB n s) (hn:n+1<=100000):SB (n+1) y:=
 ⟨hn,by rw[h.a1];exact hs.lk,h.rd,by rw[h.a2];exact hs.dn,by rw[h.a3];exact hs.th⟩
theorem AP.same {n:Nat} {s:SY} (hs:SB n s) (x:Int) (d:θ) (t:Y (Int×Int×Bool)) (hd:d.length=s.2.2.1.length) (ht:t.length=s.2.2.2.length):AP n s (s.1,x,d,t):=
 ⟨rfl,hd,ht,λl hl=>iu (hs.rd l hl)⟩
theorem AP.set {n:Nat} {s:SY} (hs:SB n s) (j a:Int) (r:η) (hr:r.length<=n+1) (x:Int) (d:θ) (t:Y (Int×Int×Bool)) (hd:d.length=s.2.2.1.length) (ht:t.length=s.2.2.2.length):AP n s (cj s.1 j (a,r),x,d,t):=
 ⟨cL _ _ _,hd,ht,λl hl=>by
   rcases BG hl with h|rfl
   .exact iu (hs.rd l h)
   .exact hr⟩
def Kv (th:Y (Int×Int×Bool)) (t st:Int):Y (Int×Int×Bool):=cj th t (st,(aG (T:=uP) th t).2)
def owP (lk:Y (Int×η)) (o t:Int):Y (Int×η):=cj lk o (t,(aG (T:=ti) lk o).2)
def rdP (lk:Y (Int×η)) (o:Int) (l:η):Y (Int×η):=cj lk o ((aG (T:=ti) lk o).1,l)
def cdP (th:Y (Int×Int×Bool)) (t c:Int):Y (Int×Int×Bool):=cj th t ((aG (T:=uP) th t).1,c,(aG (T:=uP) th t).2.2)
def atP (th:Y (Int×Int×Bool)) (t:Int) (b:Bool):Y (Int×Int×Bool):=cj th t ((aG (T:=uP) th t).1,(aG (T:=uP) th t).2.1,b)
def OT (th:Y (Int×Int×Bool)) (l:η):Y (Int×Int×Bool):=l.foldl (λx u=>Kv x u 4) th
def Df (l:η) (u:Int):Int:=if l.length=0 then -1 else if l.contains u then u else aG (T:=.int .i64) l 0
def muP (w:WT) (o:Int):Int:=(aG (T:=pT) w.2.2.1 o).2
def vW (w:WT) (s:SY) (t k o u:Int):SY×Int:=
 if k=1 then ((s.1,s.2.1,s.2.2.1,Kv s.2.2.2 t 2),0)
 else if k=2 then ((s.1,s.2.1,s.2.2.1,Kv s.2.2.2 t 5),0)
 else if k=6\/k=10 then ((owP s.1 o t,s.2),0)
 else if k=7\/k=11 then ((owP s.1 o (-1),s.2),0)
 else if k=8 then ((rdP s.1 o (qI (aG (T:=ti) s.1 o).2 [t]),s.2),0)
 else if k=9 then ((rdP s.1 o (wo (aG (T:=ti) s.1 o).2 t),s.2),0)
 else if k=12 then ((s.1,t,s.2.2),0)
 else if k=13 then ((s.1,-1,s.2.2),0)
 else if k=14 then ((s.1,s.2.1,s.2.2.1,atP s.2.2.2 t M),0)
 else if k=15 then ((s.1,s.2.1,s.2.2.1,atP s.2.2.2 t aa),0)
 else if k=16 then ((owP s.1 (muP w o) (-1),s.2.1,s.2.2.1,cdP (Kv s.2.2.2 t 3) t o),0)
 else if k=17 then ((owP s.1 (muP w o) t,s.2.1,s.2.2.1,cdP (Kv s.2.2.2 t 2) t 0),0)
 else if k=18 then (if (wl s.2.2.2 o s.2.2.2.length).length=0 then (s,-1) else ((s.1,s.2.1,s.2.2.1,Kv s.2.2.2 (Df (wl s.2.2.2 o s.2.2.2.length) u) 4),Df (wl s.2.2.2 o s.2.2.2.length) u))
 else if k=19 then ((s.1,s.2.1,s.2.2.1,OT s.2.2.2 (wl s.2.2.2 o s.2.2.2.length)),((wl s.2.2.2 o s.2.2.2.length).length:Int))
 else if k=20 then ((s.1,s.2.1,s.2.2.1,Kv s.2.2.2 o 1),0)
 else if k=22 then ((s.1,s.2.1,cj s.2.2.1 o M,s.2.2.2),0)
 else (s,0)
theorem G9 (l:η):∀th,(OT th l).length=th.length:=by
 induction l with
 |nil=>intro th;rfl
 |cons x r d=>intro th;unfold OT;rw[EB];exact (d _).trans (cL ..)
theorem YZ {th:Y (Int×Int×Bool)} {l:η} {i:Nat} (hi:i<l.length):OT th (l.take (i+1))=Kv (OT th (l.take i)) (aG (T:=.int .i64) l (i:Int)) 4:=by
 unfold OT;rw[oO hi,jS,DV,ay,ax hi];rfl
theorem VN {l:η} (u:Int) (hl:¬l.length=0):Df l u∈l:=by
 unfold Df;rw[aL hl];split
 .rename_i h;exact sC.1 h
 .exact bH (T:=.int .i64) (by omega) (by omega)
theorem Ki {n:Nat} (w:WT) (s:SY) (hs:SB n s) (A:w.2.2.1.length<=1000) (t k o u:Int):Ok (po (w,s,t,k,o,u)) λy=>(y.2.2=M->EN w s t k o/\FO w s t k o/\AP n s y.1/\(y.1,y.2.1)=vW w s t k o u)/\(y.2.2=aa->y.1=([],0,[],[]))/\(iw (w,s,t,k,o)=Z M->y.2.2=M):=by
 unfold po aV ba bk bO bn cC ci dx ck bf bx bG j7 aY cI aB cu;obtain⟨b,q,hb⟩:=Kg w s hs A t k o;refine aQ q ?_;refine cX (λh=>ai ⟨λh=>(by cases h),λ_=>rfl,λh2=>(by rw[q,h]at h2;cases h2)⟩) (λh=>?_);obtain⟨he,hry⟩:=hb h;refine aQ (qE s hs) ?_;suffices hmain:Ok _ _ from aX (λx=>AP n s (x.2.2.2.1,x.2.1,x.2.2.2.2)/\((x.2.2.2.1,x.2.1,x.2.2.2.2),x.1)=vW w s t k o u) hmain λx z=>ai ⟨λ_=>⟨he,hry,z⟩,λh=>(by cases h),λ_=>rfl⟩
 obtain⟨nm,t0,t1,cd,e1,e2,e3⟩:=id he;obtain⟨_,_,ce,lk,cn,th,fu⟩:=nm;have hn:=hs.n1;have hlk:=hs.lk;have hm:16<=k/\k<=19->0<=(aG (T:=pT) w.2.2.1 o).2/\(aG (T:=pT) w.2.2.1 o).2<w.2.1.length:=λh=>cd _ (bH (cn h).1 (cn h).2)
 have hr:∀j:Int,0<=j->j<s.1.length->(aG (T:=ti) s.1 j).2.length<=n:=λj h0 h1=>hs.rd _ (bH (T:=ti) h0 h1)
 rcases @yo k with rfl|rfl|rfl|rfl|rfl|rfl|rfl|rfl|rfl|rfl|rfl|rfl|rfl|rfl|rfl|rfl|rfl|rfl|rfl|rfl|rfl|rfl|rfl|⟨hk,D⟩
 case inr.inr.inr.inr.inr.inr.inr.inr.inr.inr.inr.inr.inr.inr.inr.inr.inr.inr.inr.inr.inr.inr.inr=>omega
 all_goals simp only[aN,aS,kJ]
 all_goals with_reducible repeat' first|(refine OS.ok ?_;constructor)|refine IM.mk λ_=>?_
 all_goals try simp only[aj,oq] at*
 all_goals try rw[cL]
 all_goals first|omega|exact (hm ⟨by decide,by decide⟩).1|exact e1▸(hm ⟨by decide,by decide⟩).2|exact⟨AP.same hs _ _ _ rfl rfl,rfl⟩|exact⟨AP.same hs _ _ _ rfl (cL _ _ _),rfl⟩|exact⟨AP.same hs _ _ _ (cL _ _ _) rfl,rfl⟩|skip
 all_goals try exact⟨AP.set hs _ _ _ (iu (hr o (by omega) (by omega))) _ _ _ rfl rfl,rfl⟩
 .have:=hr o (by omega) (by omega);refine aQ (RN _ _ (c6 this (by have:=hs.n1;omega)) (by simp)) ?_;with_reducible repeat' first|(refine OS.ok ?_;constructor)|refine IM.mk λ_=>?_
  all_goals try simp only[aj,oq] at*
  all_goals first|omega|skip
  exact⟨AP.set hs _ _ _ (by have:=Yv (aG (T:=ti) s.1 o).2 [t];simp at this;omega) _ _ _ rfl rfl,rfl⟩
 .have:=hr o (by omega) (by omega);have hl:(wo (aG (T:=ti) s.1 o).2 t).length<=(aG (T:=ti) s.1 o).2.length:=List.length_filter_le ..;refine aQ (Sn _ _ (by omega)) ?_;with_reducible repeat' first|(refine OS.ok ?_;constructor)|refine IM.mk λ_=>?_
  all_goals try simp only[aj,oq] at*
  all_goals first|omega|skip
  exact⟨AP.set hs _ _ _ (c6 hl (by omega)) _ _ _ rfl rfl,rfl⟩
 .exact⟨AP.set hs _ _ _ (iu (hr _ (hm ⟨by decide,by decide⟩).1 (by rw[e1];exact (hm ⟨by decide,by decide⟩).2))) _ _ _ rfl (by rw[cL,cL]),rfl⟩
 .exact⟨AP.set hs _ _ _ (iu (hr _ (hm ⟨by decide,by decide⟩).1 (by rw[e1];exact (hm ⟨by decide,by decide⟩).2))) _ _ _ rfl (by rw[cL,cL]),rfl⟩
 .refine aQ (FN s o hs.th) ?_;have hth:=hs.th;have hll:=pW s.2.2.2 o s.2.2.2.length;have hml:∀u∈wl s.2.2.2 o s.2.2.2.length,0<=u/\u<s.2.2.2.length:=λu hu=>⟨(xW.1 hu).1,(xW.1 hu).2.1⟩
  have hap:vW w s t 18 o u=if (wl s.2.2.2 o s.2.2.2.length).length=0 then (s,-1) else ((s.1,s.2.1,s.2.2.1,Kv s.2.2.2 (Df (wl s.2.2.2 o s.2.2.2.length) u) 4),Df (wl s.2.2.2 o s.2.2.2.length) u):=rfl
  unfold Df at hap;revert hll hml hap;generalize wl s.2.2.2 o s.2.2.2.length=l;intro hll hml hap;with_reducible repeat' first|(refine OS.ok ?_;constructor)|refine IM.mk λ_=>?_
  all_goals try simp only[aj,oq] at*
  all_goals first|omega|skip
  .have d:=hml _ (bH (T:=.int .i64) (xs:=l) (j:=0) (by omega) (by omega));rw[aL (by omega),aL (by omega)]at hap;simp only[Ke l u (by omega),Si];refine aK (λhc=>?_) λhc=>?_
   .have hu:=hml u (sC.1 hc);rw[hc,aT rfl]at hap;refine ai (aH hu.1 hu.2 (aH hu.1 hu.2 (ai ⟨AP.same hs _ _ _ rfl (cL ..),?_⟩)));rw[hap];rfl
   .rw[hc,aL (by decide)]at hap;refine ai (aH d.1 d.2 (aH d.1 d.2 (ai ⟨AP.same hs _ _ _ rfl (cL ..),?_⟩)));rw[hap];rfl
  .rw[aT (by omega)]at hap;exact⟨AP.same hs _ _ _ rfl rfl,hap.symm⟩
 .refine aQ (FN s o hs.th) ?_;have hth:=hs.th;have hll:=pW s.2.2.2 o s.2.2.2.length;have hml:∀u∈wl s.2.2.2 o s.2.2.2.length,0<=u/\u<s.2.2.2.length:=λu hu=>⟨(xW.1 hu).1,(xW.1 hu).2.1⟩
  have hap:vW w s t 19 o u=((s.1,s.2.1,s.2.2.1,OT s.2.2.2 (wl s.2.2.2 o s.2.2.2.length)),((wl s.2.2.2 o s.2.2.2.length).length:Int)):=rfl;rw[hap];clear hap;generalize wl s.2.2.2 o s.2.2.2.length=l at hll hml ⊢;refine cg l.length (λi x=>x=((i:Int),s.2.1,0,s.1,s.2.2.1,OT s.2.2.2 (l.take i))) ?_ ?_ rfl
  .rintro i x hi rfl;have d:=hml _ (bH (T:=.int .i64) (xs:=l) (j:=(i:Int)) (by omega) (by omega));have hq:=G9 (l.take i) s.2.2.2;with_reducible repeat' first|(refine OS.ok ?_;constructor)|refine IM.mk λ_=>?_
   all_goals try simp only[aj,oq] at*
   all_goals first|omega|skip
   rw[fx (by omega),YZ hi];rfl
  .rintro x rfl;rw[bS];with_reducible repeat' first|(refine OS.ok ?_;constructor)|refine IM.mk λ_=>?_
   all_goals try simp only[aj,oq] at*
   all_goals first|omega|skip
   exact AP.same hs _ _ _ rfl (G9 ..)
abbrev SN:Type:=SY×η×η×η
abbrev ET:Type:=Int×Int×Int×Int×Int×η×η
theorem ac9 (a b:Int):BV (a,b)=Z (decide (0<=a/\a<b)):=PL a b
structure NB (n:Nat) (s:SN):Prop where
 sb:SB n s.1
 c:s.2.1.length<=1000
 f:s.2.2.1.length<=1000
 k:s.2.2.2.length<=1000
structure SP (n:Nat) (s y:SN):Prop where
 ap:AP n s.1 y.1
 c:y.2.1.length=s.2.1.length
 f:y.2.2.1.length=s.2.2.1.length
 k:y.2.2.2.length=s.2.2.2.length
theorem SP.NB {n:Nat} {s y:SN} (h:SP n s y) (hs:NB n s) (hn:n+1<=100000):NB (n+1) y:=
 ⟨h.ap.toSB hs.sb hn,by rw[h.c];exact hs.c,by rw[h.f];exact hs.f,by rw[h.k];exact hs.k⟩
def sn0:SN:=(([],0,[],[]),[],[],[])
structure R6 (w:WT) (s:SN):Prop where
 c:s.2.1.length=w.1.length
 f:s.2.2.1.length=w.2.2.2.1.length
 k:s.2.2.2.length=w.2.2.2.2.1.length
theorem XX (w:WT) (s:SN) (d:w.2.2.1.length<=1000):Ok (qS (w,s)) λb=>b=M->R6 w s:=by
 unfold qS aV ba bk cC bf aY aB;refine fO (ar (OO w s.1 (by omega)) λb hb=>?_);with_reducible repeat' first|(refine OS.ok ?_;constructor)|refine IM.mk λ_=>?_
 all_goals try simp only[aj,oq] at*
 all_goals first|(intro h;constructor<;>omega)|(intro h;cases h;done)
theorem OB:∀(l:η),(∀k:Nat,k+1<l.length->l.getD k 0<l.getD (k+1) 0)->xR l
 |[],_=>trivial
 |[x],_=>⟨λy s=>(by cases s),trivial⟩
 |x::y::r,h=>by
  have q:=OB (y::r) λk hk=>by have:=h (k+1) (by simpa using hk);simpa using this
  have h0:=h 0 (by simp);simp at h0;refine ⟨λz d=>?_,q⟩;rcases bu.1 d with rfl|d
  .exact h0
  .have:=q.1 z d;omega
structure AN (c:Int) (l:η):Prop where
 a:xR l
 m:∀x:Int,x∈l->1<=x/\x<c
theorem Hm:∀(l:η) (lo hi:Int),xR l->(∀y∈l,lo<=y/\y<hi)->(l.length:Int)<=max 0 (hi-lo)
 |[],lo,hi,_,_=>by simp;omega
 |x::r,lo,hi,h,hm=>by
  have h1:=hm x (eo ..);have h2:=Hm r (x+1) hi h.2 λy d=>⟨by have:=h.1 y d;omega,(hm y (dk _ d)).2⟩
  rw[cf];omega
theorem AN.len {c:Int} {l:η} (h:AN c l):(l.length:Int)<=max 0 c:=by
 have:=Hm l 1 c h.a h.m;omega
theorem Zj {l:η} {i:Nat} {c:Int} (d:∀k:Nat,k<i->1<=aG (T:=.int .i64) l (k:Int)/\aG (T:=.int .i64) l (k:Int)<c) (s:∀k:Nat,k+1<i->l.getD k 0<l.getD (k+1) 0):(i:Int)<=max 0 c:=by
 have key:∀k:Nat,k<i->(k:Int)+1<=l.getD k 0:=by
  intro k;induction k with
  |zero=>intro hk;have:=(d 0 hk).1;rw[DV]at this;exact this
  |succ k q=>
   intro hk;have h1:=q (by omega);have h2:=s k hk;omega
 rcases rz i with z|z
 .omega
 .have h1:=key (i-1) (by omega);have h2:=(d (i-1) (by omega)).2;rw[DV]at h2;have h2:l.getD (i-1) 0<c:=h2;omega
theorem HV (l:η) (c:Int) (hl:l.length<=1000000000\/c<=1000000000):Ok (ki (l,c)) λb=>b=M->AN c l:=by
 unfold ki bx jk bG aY cI aB cu;refine cg l.length (λi x=>x=(i:Int)/\(∀k:Nat,k<i->1<=aG (T:=.int .i64) l (k:Int)/\aG (T:=.int .i64) l (k:Int)<c)/\∀k:Nat,k+1<i->l.getD k 0<l.getD (k+1) 0) ?_ ?_ ⟨rfl,λk hk=>by omega,λk hk=>by omega⟩
 .rintro i x hi ⟨rfl,d,q⟩;have hbd:i<=1000000000:=by
   have:=Zj d q;rcases hl with hl|hl<;>omega
  have s:0<(i:Int)->a9 .i64 ((i:Int)-1)=((i-1:Nat):Int):=λh=>by rw[gJ (by omega) (by omega)];omega
  have hq:(0<i->l.getD (i-1) 0<l.getD i 0)->1<=aG (T:=.int .i64) l (i:Int)/\aG (T:=.int .i64) l (i:Int)<c->a9 .i64 ((i:Int)+1)=((i+1:Nat):Int)/\(∀k:Nat,k<i+1->1<=aG (T:=.int .i64) l (k:Int)/\aG (T:=.int .i64) l (k:Int)<c)/\∀k:Nat,k+1<i+1->l.getD k 0<l.getD (k+1) 0:=λF D=>by
   refine ⟨fx (by omega),λk hk=>?_,λk hk=>?_⟩
   .rcases bM k i with h1|h1
    .exact d k h1
    .rw[show k=i by omega];exact D
   .rcases bM (k+1) i with h1|h1
    .exact q k h1
    .have:=F (by omega);rw[show k=i-1 by omega,show i-1+1=i by omega];exact this
  with_reducible repeat' first|(refine OS.ok ?_;constructor)|refine IM.mk λ_=>?_
  all_goals try simp only[aj,oq] at*
  all_goals first|omega|(intro h;cases h;done)|(rw [s (by omega)];omega)|skip
  .rename_i h1 h2 A z;rw[s A,DV,DV]at z;exact hq (λ_=>z) ⟨by omega,by omega⟩
  .exact hq (λh=>by omega) ⟨by omega,by omega⟩
 .rintro x ⟨rfl,d,q⟩;with_reducible repeat' first|(refine OS.ok ?_;constructor)|refine IM.mk λ_=>?_
  all_goals try simp only[aj,oq] at*
  all_goals first|omega|skip
  exact⟨OB l λk hk=>q k hk,il (T:=.int .i64) d⟩
structure VA (w:WT) (sy:SY) (ce fu:η) (t k o v:Int):Prop where
 ld:k=3->v=aG (T:=.int .i64) ce o
 gt:k=23->v=aG (T:=.int .i64) fu o
 br:k=5->v=0\/v=1
 el:¬k=3->¬k=23->¬k=5->¬k=4->¬k=22->v=(vW w sy t k o v).2
theorem ite2 {c:Prop} [Decidable c] {a b:SY×Int} (d:a.2=0) (hb:b.2=0):(if c then a else b).2=0:=by by_cases h:c<;>simp[h,d,hb]
theorem VX (w:WT) (sy:SY) (t k o u:Int) (h1:¬k=18) (h2:¬k=19):(vW w sy t k o u).2=0:=by
 unfold vW;rw[aL h1,aL h2];repeat (first|exact rfl|refine ite2 rfl ?_)
theorem aeq (w:WT) (sy:SY) (t k o u d:Int) (h1:¬k=18):vW w sy t k o u=vW w sy t k o d:=by
 unfold vW;rw[aL h1,aL h1]
theorem JY (w:WT) (sy:SY) (t o u:Int):vW w sy t 18 o u=if (wl sy.2.2.2 o sy.2.2.2.length).length=0 then (sy,-1) else ((sy.1,sy.2.1,sy.2.2.1,Kv sy.2.2.2 (Df (wl sy.2.2.2 o sy.2.2.2.length) u) 4),Df (wl sy.2.2.2 o sy.2.2.2.length) u):=rfl
theorem UE (w:WT) (sy:SY) (t o u:Int):(vW w sy t 19 o u).2=((wl sy.2.2.2 o sy.2.2.2.length).length:Int):=rfl
theorem Yu {n:Nat} (w:WT) (s:SN) (hs:NB n s) (hf:R6 w s) (e:ET) (he:EN w s.1 e.1 e.2.1 e.2.2.1):Ok (pl (s,e)) λb=>b=M->VA w s.1 s.2.1 s.2.2.1 e.1 e.2.1 e.2.2.1 e.2.2.2.1:=by
 obtain⟨t,k,o,v,si,de,fr⟩:=e;obtain⟨s1,s2,I,s4⟩:=s;obtain⟨nm,t0,t1,cd,e1,e2,e3⟩:=he;obtain⟨_,_,ce,lk,cn,th,fu,_,_,_⟩:=nm;obtain⟨f1,f2,f3⟩:=hf;have hth:=hs.sb.th;dsimp only at*
 unfold pl aV ba bk bO bn bf bx jk bG aY aB;have hW:=J2 s1 o hth;have hWl:=pW s1.2.2.2 o s1.2.2.2.length;refine aE (λh=>?_) λn3=>?_
 .have h:k=3:=h;obtain⟨F,D⟩:=ce (.inl h);exact aH F (by rw[f1];exact D) (aW (ai λh2=>⟨λ_=>bg h2,λd=>by omega,λd=>by omega,λd=>(d h).elim⟩))
 refine aE (λh=>?_) λq=>?_
 .have h:k=23:=h;obtain⟨F,D⟩:=fu (.inr h);exact aH F (by rw[f2];exact D) (aW (ai λh2=>⟨λd=>by omega,λ_=>bg h2,λd=>by omega,λ_ d=>(d h).elim⟩))
 refine aE (λh=>?_) λL=>?_
 .have h:k=5:=h;exact fO (aE (λh2=>ai (ai λ_=>⟨λd=>by omega,λd=>by omega,λ_=>.inl h2,λ_ _ d=>(d h).elim⟩)) λ_=>ai (ai λh2=>⟨λd=>by omega,λd=>by omega,λ_=>.inr (bg h2),λ_ _ d=>(d h).elim⟩))
 refine aX (λx=>x.2=((s1,s2,I,s4),t,k,o,v,si,de,fr)/\(x.1=M->k=4\/k=22)) (aE (λh=>ai ⟨rfl,λ_=>.inl h⟩) λ_=>ai ⟨rfl,λh=>.inr (bg h)⟩) ?_;rintro⟨b,x⟩ ⟨e,hb⟩;dsimp only at e hb;subst e;refine aK (λh=>ai λ_=>⟨λd=>(n3 d).elim,λd=>(q d).elim,λd=>(L d).elim,λ_ _ _ h4 h5=>(hb h).elim (λh=>(h4 h).elim) λh=>(h5 h).elim⟩) λ_=>?_
 have fin:v=(vW w s1 t k o v).2->VA w s1 s2 I t k o v:=λh=>⟨λd=>(n3 d).elim,λd=>(q d).elim,λd=>(L d).elim,λ_ _ _ _ _=>h⟩
 refine aE (λh=>?_) λA=>?_
 .have h:k=18:=h;subst h;rw[JY]at fin;refine aQ hW ?_;revert fin hWl;generalize wl s1.2.2.2 o s1.2.2.2.length=l;intro hWl fin;refine aE (λh=>ai λh2=>fin ?_) λh=>?_
  .dsimp only[aj]at h;rw[aT (by omega)];exact bg h2
  .dsimp only[aj]at h;have hne:¬l.length=0:=by omega
   refine fO (dX (λ_=>aR (λ_=>?_) λ_=>ai (ai λh=>(by cases h))) λ_=>ai (ai λh=>(by cases h)));refine aQ (Ke _ _ (by omega)) (ai (ai λh2=>fin ?_));rw[aL hne];unfold Df;rw[aL hne,aT h2]
 refine aE (λh=>?_) λz=>?_
 .have h:k=19:=h;subst h;exact aQ hW (ai λh2=>fin (bg h2))
 exact ai λh2=>fin (by rw[VX _ _ _ _ _ _ A z];exact bg h2)
structure Yl (w:WT) (s:SN) (e:ET):Prop where
 rd:FO w s.1 e.1 e.2.1 e.2.2.1
 s1:e.2.1=1\/e.2.1=2->e.2.2.2.2.1= -1
 s2:¬(e.2.1=1\/e.2.1=2)->0<=e.2.2.2.2.1/\e.2.2.2.2.1<w.2.2.2.2.2.length/\(aG (T:=De) w.2.2.2.2.2 e.2.2.2.2.1).1=e.1
 de:0<e.2.2.2.2.2.1.length->e.2.1=5\/(e.2.1=3\/e.2.1=4)/\¬(aG (T:=OR) w.1 e.2.2.1).2.2.1=0
 fr:0<e.2.2.2.2.2.2.length->e.2.1=4\/e.2.1=22
 nd:AN (aG (T:=.int .i64) s.2.2.2 e.1) e.2.2.2.2.2.1
 nf:AN (aG (T:=.int .i64) s.2.2.2 e.1) e.2.2.2.2.2.2
 va:VA w s.1 s.2.1 s.2.2.1 e.1 e.2.1 e.2.2.1 e.2.2.2.1
def ZT (ce:η) (e:ET):η:=if e.2.1=4 then cj ce e.2.2.1 e.2.2.2.1 else ce
def fuP (fu:η) (e:ET):η:=if e.2.1=22 then cj fu e.2.2.1 e.2.2.2.1 else fu
def Sj (w:WT) (s:SN) (e:ET):SN:=((vW w s.1 e.1 e.2.1 e.2.2.1 e.2.2.2.1).1,ZT s.2.1 e,fuP s.2.2.1 e,cj s.2.2.2 e.1 (a9 .i64 (aG (T:=.int .i64) s.2.2.2 e.1+1)))
theorem zG {n:Nat} (w:WT) (s:SN) (hs:NB n s) (hw:w.2.2.1.length<=1000) (e:ET) (hd:e.2.2.2.2.2.1.length<=1000000000\/(aG (T:=.int .i64) s.2.2.2 e.1:Int)<=1000000000) (hf:e.2.2.2.2.2.2.length<=1000000000\/(aG (T:=.int .i64) s.2.2.2 e.1:Int)<=1000000000):Ok (nE (w,s,e)) λy=>(y.2=M->EN w s.1 e.1 e.2.1 e.2.2.1/\SP n s y.1/\Yl w s e/\y.1=Sj w s e)/\(y.2=aa->y.1=sn0):=by
 have A:∀{Q:SN×Bool->Prop},Q (sn0,aa)->Ok (Z (sn0,aa)) Q:=λh=>ai h
 have F:((sn0,aa).2=M->EN w s.1 e.1 e.2.1 e.2.2.1/\SP n s (sn0,aa).1/\Yl w s e/\(sn0,aa).1=Sj w s e)/\((sn0,aa).2=aa->(sn0,aa).1=sn0):=⟨λh=>(by cases h),λ_=>rfl⟩
 unfold nE aV ba bk bO cU bn cC ci dx gI ck bf bx ir bo bG j7 aY cI aB cu;refine aX (λx=>x.2=(w,s,e,0)/\(x.1=aa->R6 w s/\(EN w s.1 e.1 e.2.1 e.2.2.1/\FO w s.1 e.1 e.2.1 e.2.2.1)/\iw (w,s.1,e.1,e.2.1,e.2.2.1)=Z M)) ?_ ?_
 .refine ar (XX w s hw) λb hb=>?_
  with_reducible repeat' first|(refine OS.ok ?_;constructor)|refine IM.mk λ_=>?_
  .exact⟨rfl,λh=>(by cases h)⟩
  simp only[ac9,Si];with_reducible repeat' first|(refine OS.ok ?_;constructor)|refine IM.mk λ_=>?_
  .exact⟨rfl,λh=>(by cases h)⟩
  .exact⟨rfl,λh=>(by cases h)⟩
  .exact⟨rfl,λh=>(by cases h)⟩
  obtain⟨c,hc0,hc⟩:=Kg w s.1 hs.sb hw e.1 e.2.1 e.2.2.1;refine aQ hc0 (ai ⟨rfl,λh=>?_⟩);have h:c=M:=by simpa using h
  exact⟨hb (by assumption),hc h,h▸hc0⟩
 rintro⟨x1,x2⟩ ⟨d,hx⟩;dsimp only at d hx;subst d;refine aK (λ_=>A F) λh1=>?_
 obtain⟨hF,⟨hE,hR⟩,hEn⟩:=hx h1;clear hx h1;refine aX (λx=>x=(w,s,e,0)/\(e.2.1=1\/e.2.1=2->e.2.2.2.2.1= -1)/\(¬(e.2.1=1\/e.2.1=2)->0<=e.2.2.2.2.1/\e.2.2.2.2.1<w.2.2.2.2.2.length/\(aG (T:=De) w.2.2.2.2.2 e.2.2.2.2.1).1=e.1)) ?_ ?_
 .refine aX (λx=>x.2=(w,s,e,0)/\(x.1=M->e.2.1=1\/e.2.1=2)/\(x.1=aa->¬(e.2.1=1\/e.2.1=2))) ?_ ?_
  .refine aE (λh=>ai ⟨rfl,λ_=>.inl h,λh=>(by cases h)⟩) λh=>ai ⟨rfl,λh2=>.inr (bg h2),λh2=>?_⟩
   have:=jE h2;exact λz=>z.elim h this
  rintro⟨x1,x2⟩ ⟨d,L,I⟩;dsimp only at d L I;subst d;refine aK (λhk=>?_) λhk=>?_
  .exact bV (λ_=>ai F) λh=>ai ⟨rfl,λ_=>h,λz=>(z (L hk)).elim⟩
  .refine aX (λx=>x.2=(w,s,e,0)/\(x.1=aa->0<=e.2.2.2.2.1/\e.2.2.2.2.1<w.2.2.2.2.2.length/\(aG (T:=De) w.2.2.2.2.2 e.2.2.2.2.1).1=e.1)) ?_ ?_
   .simp only[ac9,Si];refine bV (λ_=>ai ⟨rfl,λh=>(by cases h)⟩) λh=>aH h.1 h.2 (aW (ai ⟨rfl,λh2=>⟨h.1,h.2,?_⟩⟩))
    simpa using h2
   rintro⟨x1,x2⟩ ⟨d,A⟩;dsimp only at d A;subst d;exact aK (λ_=>ai F) λh=>ai ⟨rfl,λz=>((I hk) z).elim,λ_=>A h⟩
 rintro x ⟨rfl,hS1,hS2⟩;obtain⟨nm,t0,t1,cd,e1,e2,e3⟩:=id hE;obtain⟨_,_,ce,lk,cn,th,fu,_,_,_⟩:=nm;obtain⟨f1,f2,f3⟩:=id hF;refine aX (λx=>x.2=(w,s,e,0)/\(x.1=M->e.2.1=3\/e.2.1=4)) ?_ ?_
 .with_reducible repeat' first|(refine OS.ok ?_;constructor)|refine IM.mk λ_=>?_
  .exact⟨rfl,λ_=>.inl (by assumption)⟩
  .exact⟨rfl,λh=>.inr (bg h)⟩
 rintro⟨x1,x2⟩ ⟨d,q⟩;dsimp only at d q;subst d;refine aX (λx=>x.2=(w,s,e,0)/\(x.1=aa->0<e.2.2.2.2.2.1.length->e.2.1=5\/(e.2.1=3\/e.2.1=4)/\¬(aG (T:=OR) w.1 e.2.2.1).2.2.1=0)) ?_ ?_
 .refine aR (λ_=>bV (λ_=>aK (λh=>?_) λ_=>ai ⟨rfl,λh=>(by cases h)⟩) λh5=>ai ⟨rfl,λ_ _=>.inl h5⟩) λh=>ai ⟨rfl,λ_ h2=>?_⟩
  .refine aH (ce (q h)).1 (ce (q h)).2 (aW (ai ⟨rfl,λh2 _=>.inr ⟨q h,?_⟩⟩));simpa using h2
  .dsimp only[aj]at h;omega
 rintro⟨x1,x2⟩ ⟨d,hDe⟩;dsimp only at d hDe;subst d;refine aK (λ_=>A F) λhde=>?_
 refine aX (λx=>x.2=(w,s,e,0)/\(x.1=aa->0<e.2.2.2.2.2.2.length->e.2.1=4\/e.2.1=22)) ?_ ?_
 .refine aR (λ_=>bV (λ_=>ai ⟨rfl,λh _=>.inr (by simpa using h)⟩) λD=>ai ⟨rfl,λ_ _=>.inl D⟩) λh=>ai ⟨rfl,λ_ h2=>?_⟩
  dsimp only[aj]at h;omega
 rintro⟨x1,x2⟩ ⟨d,hFr⟩;dsimp only at d hFr;subst d;refine aK (λ_=>A F) λhfr=>?_
 have hk:=hs.k;have hc:=hs.c;have hfu:=hs.f;refine aX (λx=>x.2=(w,s,e,0)/\(x.1=aa->AN (aG (T:=.int .i64) s.2.2.2 e.1) e.2.2.2.2.2.1/\AN (aG (T:=.int .i64) s.2.2.2 e.1) e.2.2.2.2.2.2/\VA w s.1 s.2.1 s.2.2.1 e.1 e.2.1 e.2.2.1 e.2.2.2.1)) ?_ ?_
 .have hv:=Yu w s hs hF e hE;refine aH t0 (by rw[f3];exact t1) (aW (ar (HV _ _ hd) λb hb=>?_));refine cX (λ_=>ai ⟨rfl,λh=>(by cases h)⟩) λb1=>?_
  refine aH t0 (by rw[f3];exact t1) (aW (ar (HV _ _ hf) λb hb2=>?_));refine cX (λ_=>ai ⟨rfl,λh=>(by cases h)⟩) λb2=>?_
  exact ar hv λb hb3=>ai ⟨rfl,λh=>⟨hb b1,hb2 b2,hb3 (by simpa using h)⟩⟩
 rintro⟨x1,x2⟩ ⟨d,hNum⟩;dsimp only at d hNum;subst d;refine aK (λ_=>A F) λhnu=>?_
 obtain⟨hN1,hN2,hVA⟩:=hNum hnu;have hS:Yl w s e:=⟨hR,hS1,hS2,hDe hde,hFr hfr,hN1,hN2,hVA⟩
 refine aZ (by simp;omega) (by omega) (aZ (by simp;omega) (by omega) (aZ (by simp;omega) (by omega) ?_));refine aX (λx=>x.2=(w,s,e,0,0,s.2.1,s.2.2.1,s.2.2.2)/\vW w s.1 e.1 e.2.1 e.2.2.1 x.1=vW w s.1 e.1 e.2.1 e.2.2.1 e.2.2.2.1) ?_ ?_
 .exact aE (λ_=>ai ⟨rfl,rfl⟩) λh=>ai ⟨rfl,aeq _ _ _ _ _ _ _ h⟩
 rintro⟨x1,x2⟩ ⟨d,hxu⟩;dsimp only at d hxu;subst d;refine ar (Ki w s.1 hs.sb hw e.1 e.2.1 e.2.2.1 x1) λy hy=>?_
 obtain⟨_,_,hap,hyq⟩:=hy.1 (hy.2.2 hEn);rw[hxu]at hyq;refine aX (λx=>x.1=e/\x.2.2.1=y.1/\x.2.2.2.1=ZT s.2.1 e/\x.2.2.2.2=(s.2.2.1,s.2.2.2)) ?_ ?_
 .unfold ZT;refine aE (λh=>?_) λh=>ai ⟨rfl,rfl,(aL h).symm,rfl⟩
  have hc4:=ce (.inr h);with_reducible repeat' first|(refine OS.ok ?_;constructor)|refine IM.mk λ_=>?_
  all_goals try simp only[aj,oq] at*
  all_goals first|omega|exact (aT h).symm
 rintro⟨x1,x2,x3,x4,x5,x6⟩ ⟨h1,h2,z,D⟩;simp only[aC]at h1 h2 z D;obtain⟨rfl,rfl⟩:=D;subst h1;subst h2;subst z;refine aX (λx=>x.1=x1/\x.2.2.1=y.1/\x.2.2.2.1=ZT s.2.1 x1/\x.2.2.2.2.1=fuP s.2.2.1 x1/\x.2.2.2.2.2=s.2.2.2) ?_ ?_
 .unfold fuP;refine aE (λh=>?_) λh=>ai ⟨rfl,rfl,rfl,(aL h).symm,rfl⟩
  have hc4:=fu (.inl h);with_reducible repeat' first|(refine OS.ok ?_;constructor)|refine IM.mk λ_=>?_
  all_goals try simp only[aj,oq] at*
  all_goals first|omega|exact (aT h).symm
 rintro⟨x1,x2,x3,x4,x5,x6⟩ ⟨h1,h2,D,h5,h6⟩;simp only at h1 h2 D h5 h6;subst h1;subst h2;subst D;subst h5;subst h6;have l1:(ZT s.2.1 x1).length=s.2.1.length:=by unfold ZT;split<;>simp[cL]
 have l2:(fuP s.2.2.1 x1).length=s.2.2.1.length:=by unfold fuP;split<;>simp[cL]
 with_reducible repeat' first|(refine OS.ok ?_;constructor)|refine IM.mk λ_=>?_
 all_goals try simp only[aj,oq] at*
 all_goals first|omega|skip
 exact⟨⟨hE,⟨hap,l1,l2,by rw[cL]⟩,hS,by unfold Sj;rw[<- hyq]⟩,λh=>(by cases h)⟩
theorem R1:Ok (oA ()) λl=>l.length=22:=by
 unfold oA;with_reducible repeat' first|(refine OS.ok ?_;constructor)|refine IM.mk λ_=>?_
 all_goals rfl
theorem OM (s:ζ):Ok (jH s) λ_=>True:=by
 unfold jH bx bG aY cI aB cu;refine ar R1 λl hl=>?_
 refine cg l.length (λi x=>x=(i:Int)) ?_ ?_ rfl
 .rintro i x hi rfl;with_reducible repeat' first|(refine OS.ok ?_;constructor)|refine IM.mk λ_=>?_
  all_goals try simp only[aj,oq] at*
  all_goals first|omega|exact fx (by omega)
 .rintro x rfl;with_reducible repeat' first|(refine OS.ok ?_;constructor)|refine IM.mk λ_=>?_
  all_goals try simp only[aj,oq] at*
  all_goals omega
theorem MS (c:Int):Ok (lA c) λ_=>True:=by
 unfold lA jk aB;with_reducible repeat' first|(refine OS.ok ?_;constructor)|refine IM.mk λ_=>?_
 all_goals exact trivial
theorem Zd (c:Int):Ok (pu c) λ_=>True:=by
 unfold pu tI jk aB;refine fO (ar (MS c) λ_ _=>?_);with_reducible repeat' first|(refine OS.ok ?_;constructor)|refine IM.mk λ_=>?_
 all_goals try exact trivial
 refine ar (P:=λ_=>True) ?_ λ_ _=>?_
 .with_reducible repeat' first|(refine OS.ok ?_;constructor)|refine IM.mk λ_=>?_
  all_goals exact trivial
 .with_reducible repeat' first|(refine OS.ok ?_;constructor)|refine IM.mk λ_=>?_
  all_goals exact trivial
theorem io (s:ζ):Ok (fh s) λ_=>True:=by
 unfold fh bx l8 aY cI aB cu;refine aX (λb=>b=aa->s.length<=12) ?_ ?_
 .with_reducible repeat' first|(refine OS.ok ?_;constructor)|refine IM.mk λ_=>?_
  .exact λh=>(by cases h)
  .exact λh=>(by cases h)
  .omega
  .simp only[aj]at *;omega
  refine ar (MS _) λ_ _=>?_
  with_reducible repeat' first|(refine OS.ok ?_;constructor)|refine IM.mk λ_=>?_
  .exact λh=>(by cases h)
  refine ar (OM _) λ_ _=>ai λ_=>?_
  simp only[aj]at *;omega
 .rintro b hb;refine aK (λ_=>ai trivial) λh=>?_
  have hb:=hb h;refine cg s.length (λi x=>x=(i:Int)) ?_ ?_ rfl
  .rintro i x hi rfl;with_reducible repeat' first|(refine OS.ok ?_;constructor)|refine IM.mk λ_=>?_
   all_goals try simp only[aj,oq] at*
   all_goals first|omega|skip
   refine ar (Zd _) λ_ _=>?_
   with_reducible repeat' first|(refine OS.ok ?_;constructor)|refine IM.mk λ_=>?_
   .exact trivial
   .exact fx (by omega)
  .rintro x rfl;with_reducible repeat' first|(refine OS.ok ?_;constructor)|refine IM.mk λ_=>?_
   all_goals try simp only[aj,oq] at*
   all_goals first|omega|exact trivial
theorem AB (l:Y ζ) (s:ζ) (hl:l.length<=1000000000):Ok (jU (l,s)) λr=> -1<=r/\r<l.length/\(0<=r->aG (T:=.str) l r=s)/\(r<0->s∉l):=by
 unfold jU bx bG aY cI aB cu;refine cg l.length (λi x=>x=(i:Int)/\∀k:Nat,k<i->aG (T:=.str) l (k:Int)≠s) ?_ ?_ ⟨rfl,λk hk=>by omega⟩
 .rintro i x hi ⟨rfl,d⟩;with_reducible repeat' first|(refine OS.ok ?_;constructor)|refine IM.mk λ_=>?_
  all_goals try simp only[aj,oq] at*
  all_goals first|omega|skip
  .exact⟨by omega,by omega,λ_=>by assumption,λh=>by omega⟩
  .refine ⟨fx (by omega),λk hk=>?_⟩;rcases bM k i with h1|h1
   .exact d k h1
   .rw[show k=i by omega];assumption
 .rintro x ⟨rfl,d⟩;with_reducible repeat' first|(refine OS.ok ?_;constructor)|refine IM.mk λ_=>?_
  all_goals try simp only[aj,oq] at*
  all_goals first|omega|skip
  exact⟨by omega,by omega,λh=>by omega,λ_ h=>il (T:=.str) (p:=λc=>c≠s) d s h rfl⟩
structure VL (w:WT):Prop where
 c:w.1.length<=12
 l:w.2.1.length<=4
 d:w.2.2.1.length<=2
 f:w.2.2.2.1.length<=2
 t0:1<=w.2.2.2.2.1.length
 t:w.2.2.2.2.1.length<=4
 s:w.2.2.2.2.2.length<=60
theorem YX (w:WT) (h:VL w):Ok (pq w) λy=>y.1.length<=100:=by
 obtain⟨w1,w2,q,D,A,s⟩:=w;obtain⟨h1,h2,h3,h4,_,h5,h6⟩:=h;dsimp only at*
 unfold pq aV ba bk bO cC gI bf bx ir bo bG aY cI aB cu;refine my (λx=>((w1.length:Int)-x.1).toNat) (λx=>x.2.1=(w1,w2,q,D,A,s)/\0<=x.1/\x.1<=(w1.length:Int)/\(x.2.2.length:Int)<=x.1) ?_ ⟨rfl,by simp,by simp,by simp⟩;rintro⟨x1,x2,x3⟩ ⟨e,g1,g2,g3⟩;dsimp only at e g1 g2 g3;subst e;refine aR (λF=>?_) λF=>?_
 .dsimp only[aj]at F;refine aX (λx=>x.2.1=(w1,w2,q,D,A,s)/\x1<x.1/\x.1<=(w1.length:Int)/\(x.2.2.length:Int)<=x.1) ?_ ?_
  .refine dV (aW (aZ (by simp;omega) (by omega) ?_));refine aE (λ_=>?_) λ_=>?_
   .with_reducible repeat' first|(refine OS.ok ?_;constructor)|refine IM.mk λ_=>?_
    .exact oN _
    .rw[gJ (by omega) (by omega)];exact⟨rfl,by dsimp only;omega,by dsimp only;omega,by simp;omega⟩
   .generalize hz:aG _ x1=z;obtain⟨I,(z2:Int),(d:Int),z4,z5⟩:=z;dsimp only;refine aX (λx=>x.2=((w1,w2,q,D,A,s),x3++[I],I,z2,d,z4,z5)/\(x.1=aa->1<=d/\d<=4/\x1+d<=w1.length)) ?_ ?_
    .with_reducible repeat' first|(refine OS.ok ?_;constructor)|refine IM.mk λ_=>?_
     .exact⟨rfl,λh=>(by cases h)⟩
     .exact⟨rfl,λh=>(by cases h)⟩
     .refine ⟨rfl,λh=>?_⟩;dsimp only[aj] at*
      rw[gJ (by omega) (by omega),fD]at h;omega
    .rintro⟨b,y⟩ ⟨e,hb⟩;dsimp only at e hb;subst e;refine aK (λ_=>ai (oN _)) λh=>?_
     obtain⟨q1,q2,q3⟩:=hb h;refine my (λx=>(d-x.1).toNat) (λx=>x.2=((w1,w2,q,D,A,s),x3++[I],I,z2,d,z4,z5)/\0<=x.1/\x.1<=d) ?_ ⟨rfl,by simp,by dsimp only;omega⟩;rintro⟨k,y⟩ ⟨e,k0,k1⟩;dsimp only at e k0 k1;subst e;refine aR (λk2=>?_) λk2=>?_
     .dsimp only at k2;have e1:a9 .i64 (x1+k)=x1+k:=gJ (by omega) (by omega);refine aH (by dsimp only;rw[e1];omega) (by dsimp only;rw[e1];omega) (aW ?_);refine aX (λx=>x.2=((w1,w2,q,D,A,s),x3++[I],I,z2,d,z4,z5)) ?_ ?_
      .with_reducible repeat' first|(refine OS.ok ?_;constructor)|refine IM.mk λ_=>?_
       all_goals rfl
      .rintro⟨b,y⟩ e;dsimp only at e;subst e;refine aK (λ_=>ai (oN _)) λ_=>ai ?_
       dsimp only;rw[gJ (by omega) (by omega)];exact⟨⟨rfl,by omega,by omega⟩,by omega⟩
     .dsimp only at k2;refine ai ?_;dsimp only;rw[gJ (by omega) (by omega)];exact⟨rfl,by omega,by omega,by simp;omega⟩
  .rintro⟨y1,y2,y3⟩ ⟨e,g5,g6,g7⟩;dsimp only at e g5 g6 g7;subst e;refine ai ⟨⟨rfl,by dsimp only;omega,g6,g7⟩,?_⟩;dsimp only;omega
 .dsimp only[aj]at F;refine ar (P:=λy=>y.1.length<=100) ?_ λy L=>ai L
  refine cg w2.length (λi x=>x.1=(i:Int)/\x.2.1=(w1,w2,q,D,A,s)/\x.2.2.length<=12+i) ?_ ?_ ⟨rfl,rfl,by dsimp only;omega⟩
  .rintro i ⟨a,b,c⟩ hi ⟨e1,e2,e3⟩;dsimp only at e1 e2 e3;subst e1;subst e2;with_reducible repeat' first|(refine OS.ok ?_;constructor)|refine IM.mk λ_=>?_
   all_goals try simp only[aj,oq] at*
   all_goals first|omega|(simp;omega)|skip
   exact⟨fx (by omega),by simp;omega⟩
  .rintro⟨a,b,c⟩ ⟨e1,e2,e3⟩;dsimp only at e1 e2 e3;subst e1;subst e2;refine aR (λF=>(by dsimp only[aj]at F;omega)) λ_=>?_
   refine ar (P:=λy=>y.1.length<=100) ?_ λy L=>ai L
   refine cg q.length (λi x=>x.1=(i:Int)/\x.2.1=(w1,w2,q,D,A,s)/\x.2.2.length<=16+i) ?_ ?_ ⟨rfl,rfl,by dsimp only;omega⟩
   .rintro i ⟨a,b,c⟩ hi ⟨e1,e2,e3⟩;dsimp only at e1 e2 e3;subst e1;subst e2;with_reducible repeat' first|(refine OS.ok ?_;constructor)|refine IM.mk λ_=>?_
    all_goals try simp only[aj,oq] at*
    all_goals first|omega|(simp;omega)|skip
    exact⟨fx (by omega),by simp;omega⟩
   .rintro⟨a,b,c⟩ ⟨e1,e2,e3⟩;dsimp only at e1 e2 e3;subst e1;subst e2;refine aR (λF=>(by dsimp only[aj]at F;omega)) λ_=>?_
    refine ar (P:=λy=>y.1.length<=100) ?_ λy L=>ai L
    with_reducible repeat' first|(refine OS.ok ?_;constructor)|refine IM.mk λ_=>?_
    all_goals try simp only[aj,oq] at*
    all_goals first|omega|(simp;omega)
def siS (T:Int) (o:J Γ) (s:ν):J Γ:=
 match o with
 |none=>U
 |some (t,n)=>if s.1=t/\s.2.1=n then Z (t,n+1) else if t<s.1/\s.1<T/\s.2.1=0 then Z (s.1,1) else U
def Wh (T:Int) (l:Y ν):J Γ:=l.foldl (siS T) (Z (0,0))
def SV0 (w:WT):Prop:=Wh w.2.2.2.2.1.length w.2.2.2.2.2≠U
theorem Hz {T:Int} {l:Y ν} {i:Nat} (hi:i<l.length):Wh T (l.take (i+1))=siS T (Wh T (l.take i)) (aG (T:=De) l (i:Int)):=by
 rw[pX (T:=De) hi];unfold Wh;rw[jS];rfl
theorem Pb (T:Int):∀l:Y ν,l.foldl (siS T) U=U
 |[]=>rfl
 |_::r=>Pb T r
theorem abi {T:Int} {l:Y ν} (h:Wh T l≠U) (i:Nat):Wh T (l.take i)≠U:=λhn=>h (by
 unfold Wh at hn ⊢;rw[<- List.take_append_drop i l,jS,hn,Pb])
theorem YE {T t n:Int} {z:ν} (h:siS T (Z (t,n)) z≠U):siS T (Z (t,n)) z=Z (z.1,z.2.1+1)/\(z.1=t/\z.2.1=n\/t<z.1/\z.1<T/\z.2.1=0):=by
 unfold siS at h ⊢;dsimp only at h ⊢;by_cases h1:z.1=t/\z.2.1=n
 .rw[aT h1];exact⟨by rw[h1.1,h1.2],.inl h1⟩
 .rw[aL h1]at h ⊢;by_cases h2:t<z.1/\z.1<T/\z.2.1=0
  .rw[aT h2];exact⟨by rw[h2.2.2];rfl,.inr h2⟩
  .rw[aL h2]at h;exact (h rfl).elim
theorem Aw (w:WT):Ok (gV w) λb=>b=M->VL w/\SV0 w:=by
 unfold gV aV ba bk bO ci dx bf bx jk ir bo bG aY cI aB cu;refine aX (λx=>x.2=w/\(x.1=aa->VL w)) ?_ ?_
 .with_reducible repeat' first|(refine OS.ok ?_;constructor)|refine IM.mk λ_=>?_
  all_goals first|exact⟨rfl,λh=>(by cases h)⟩|skip
  dsimp only[aj] at*
  refine ⟨rfl,λh=>?_⟩;rw[fD]at h;constructor<;>omega
 rintro⟨b,x⟩ ⟨e,hb⟩;dsimp only at e hb;subst e;refine aK (λ_=>ai λh=>(by cases h)) λh=>?_
 have hv:=hb h;refine ar (YX _ hv) λy hy=>?_
 refine cX (λ_=>ai λh=>(by cases h)) λ_=>?_
 obtain⟨w1,w2,F,L,A,q⟩:=x;have h6:=hv.s;have h3:=hv.d;dsimp only at h6 h3;refine cg y.1.length (λi x=>x.1=(i:Int)/\x.2=(w1,w2,F,L,A,q)) ?_ ?_ ⟨rfl,rfl⟩
 .rintro i ⟨a,b⟩ hi ⟨e1,e2⟩;dsimp only at e1 e2;subst e1;subst e2;refine aR (λI=>?_) λI=>(by dsimp only[aj]at I;omega)
  refine aX (λx=>x.2=(w1,w2,F,L,A,q)) ?_ ?_
  .refine dV (aW (ar (io _) λ_ _=>?_));refine cX (λ_=>ai rfl) λ_=>?_
   with_reducible repeat' first|(refine OS.ok ?_;constructor)|refine IM.mk λ_=>?_
   all_goals try simp only[aj,oq] at*
   all_goals first|omega|skip
   refine ar (AB _ _ (by simp;omega)) λ_ _=>ai rfl
  .rintro⟨a,b⟩ e;dsimp only at e;subst e;with_reducible repeat' first|(refine OS.ok ?_;constructor)|refine IM.mk λ_=>?_
   .exact λh=>(by cases h)
   .dsimp only;exact⟨fx (by omega),rfl⟩
 rintro⟨a,b⟩ ⟨e1,e2⟩;dsimp only at e1 e2;subst e1;subst e2;refine aR (λI=>(by dsimp only[aj]at I;omega)) λ_=>?_
 refine ar (P:=λb=>b=M->VL (w1,w2,F,L,A,q)/\SV0 (w1,w2,F,L,A,q)) ?_ λy hy=>ai hy
 refine cg F.length (λi x=>x.1=(i:Int)/\x.2=(w1,w2,F,L,A,q)) ?_ ?_ ⟨rfl,rfl⟩
 .rintro i ⟨a,b⟩ hi ⟨e1,e2⟩;dsimp only at e1 e2;subst e1;subst e2;refine aR (λI=>?_) λI=>(by dsimp only[aj]at I;omega)
  refine dV (aW ?_);refine aX (λx=>x.2=(w1,w2,F,L,A,q)) ?_ ?_
  .with_reducible repeat' first|(refine OS.ok ?_;constructor)|refine IM.mk λ_=>?_
   all_goals try simp only[aj,oq] at*
   all_goals first|omega|rfl
  .rintro⟨a,b⟩ e;dsimp only at e;subst e;with_reducible repeat' first|(refine OS.ok ?_;constructor)|refine IM.mk λ_=>?_
   .exact λh=>(by cases h)
   .dsimp only;exact⟨fx (by omega),rfl⟩
 rintro⟨a,b⟩ ⟨e1,e2⟩;dsimp only at e1 e2;subst e1;subst e2;refine aR (λI=>(by dsimp only[aj]at I;omega)) λ_=>?_
 refine ar (P:=λb=>b=M->VL (w1,w2,F,L,A,q)/\SV0 (w1,w2,F,L,A,q)) ?_ λy hy=>ai hy
 refine cg q.length (λi x=>x.1=(i:Int)/\x.2=(w1,w2,F,L,A,q)/\Wh A.length (q.take i)=Z (if i=0 then (0,0) else ((aG (T:=De) q ((i-1:Nat):Int)).1,(aG (T:=De) q ((i-1:Nat):Int)).2.1+1))/\(¬i=0->(0:Int)<=(aG (T:=De) q ((i-1:Nat):Int)).2.1/\(i:Int)>(aG (T:=De) q ((i-1:Nat):Int)).2.1)) ?_ ?_ ⟨rfl,rfl,rfl,λh=>(h rfl).elim⟩
 .rintro i ⟨a,b⟩ hi ⟨e1,e2,e3,hpb⟩;dsimp only at e1 e2;subst e1;subst e2;have hw:¬(i:Int)=0->a9 .i64 ((i:Int)-1)=((i-1:Nat):Int):=λh=>by rw[gJ (by omega) (by omega)];omega
  have hnx:=Hz (T:=A.length) hi;rw[e3]at hnx;clear e3;refine aR (λI=>?_) λI=>(by dsimp only[aj]at I;omega)
  refine aX (λx=>x=(w1,w2,F,L,A,q)/\Wh A.length (q.take (i+1))=Z (((aG (T:=De) q (i:Int)).1,(aG (T:=De) q (i:Int)).2.1+1))/\(0:Int)<=(aG (T:=De) q (i:Int)).2.1/\((i+1:Nat):Int)>(aG (T:=De) q (i:Int)).2.1) ?_ ?_
  .refine dV (aW ?_);rw[hnx];generalize hz:aG (T:=De) q (i:Int)=z;obtain⟨(z1:Int),(z2:Int),(z3:Int)⟩:=z;dsimp only;refine aX (λx=>x.2=((w1,w2,F,L,A,q),z1,z2,z3)/\(x.1=aa->0<=z1/\z1<A.length)) ?_ ?_
   .refine aR (λ_=>ai ⟨rfl,λh=>(by cases h)⟩) λg=>ai ⟨rfl,λh=>⟨g,?_⟩⟩
    rw[ko]at h;exact h
   rintro⟨c,y⟩ ⟨e,hzr⟩;dsimp only at e hzr;subst e;refine aK (λ_=>ai λh=>(by cases h)) λhzb=>?_
   obtain⟨z0,zT⟩:=hzr hzb;refine aX (λx=>x.2=((w1,w2,F,L,A,q),z1,z2,z3)/\(x.1=M->i=0\/¬(aG (T:=De) q ((i-1:Nat):Int)).1=z1)/\(x.1=aa->¬(i:Int)=0/\(aG (T:=De) q ((i-1:Nat):Int)).1=z1)) ?_ ?_
   .refine aE (λh=>ai ⟨rfl,λ_=>.inl (by have h:((i:Nat):Int)=0:=h;omega),λh=>(by cases h)⟩) λh=>?_
    rw[hw h];refine dV (aW (ai ⟨rfl,λh2=>.inr (by simpa using h2),λh2=>⟨h,by simpa using h2⟩⟩))
   rintro⟨c,y⟩ ⟨e,hc1,hc⟩;dsimp only at e hc1 hc;subst e;refine aK (λhct=>?_) λhcf=>?_
   .refine aX (λx=>x.2=(w1,w2,F,L,A,q)/\(x.1=aa->z2=0/\(¬i=0->((aG (T:=De) q ((i-1:Nat):Int)).1:Int)<z1))) ?_ ?_
    .refine bV (λ_=>ai ⟨rfl,λh=>(by cases h)⟩) λhz2=>?_
     refine aR (λh=>?_) λD=>ai ⟨rfl,λ_=>⟨hz2,λh=>by have D:((i:Nat):Int)<=0:=D;omega⟩⟩
     have h:(0:Int)<((i:Nat):Int):=h;rw[hw (by omega)];refine dV (aW (ai ⟨rfl,λh2=>⟨hz2,λh3=>?_⟩⟩));rw[fD]at h2;have h4:=(hc1 hct).resolve_left h3;have h2:(aG (T:=De) q ((i-1:Nat):Int)).1<=z1:=h2;exact Int.lt_iff_le_and_ne.2 ⟨h2,h4⟩
    rintro⟨c,y⟩ ⟨e,hy⟩;dsimp only at e hy;subst e;refine aK (λ_=>ai λh=>(by cases h)) λh=>ai ⟨rfl,?_⟩
    obtain⟨q1,q2⟩:=hy h;have q1:z2=0:=q1;subst q1;refine ⟨?_,gp 0,by show _>(0:Int);omega⟩;unfold siS;by_cases D:i=0
    .subst D;rw[aT rfl];dsimp only;by_cases hz1:z1=0
     .subst hz1;rfl
     .rw[aL (λh=>hz1 h.1),aT ⟨by omega,zT,rfl⟩];rfl
    .have:=q2 D;rw[aL D];dsimp only;rw[aL (λh=>by omega),aT ⟨this,zT,rfl⟩];rfl
   .obtain⟨D,hpr⟩:=hc hcf;rw[hw D];refine dV (aW ?_);refine bV (λ_=>ai λh=>(by cases h)) λh=>ai ⟨rfl,?_⟩
    obtain⟨b0,b1⟩:=hpb (by omega);have h:z2=a9 .i64 ((aG (T:=De) q ((i-1:Nat):Int)).2.1+1):=h;rw[gJ (by omega) (by omega)]at h;refine ⟨?_,by omega,by omega⟩;rw[aL (by omega)];unfold siS;dsimp only;rw[aT ⟨hpr.symm,h⟩,hpr,h]
  .rintro x ⟨rfl,hx,hx2⟩;refine ai ?_;dsimp only;refine ⟨fx (by omega),rfl,?_,λ_=>hx2⟩;rw[aL (by omega)];exact hx
 .rintro⟨a,b⟩ ⟨e1,e2,e3,_⟩;dsimp only at e1 e2;subst e1;subst e2;refine aR (λI=>(by dsimp only[aj]at I;omega)) λ_=>?_
  rw[bS]at e3;exact ai λ_=>⟨hv,by unfold SV0;dsimp only;rw[e3];simp⟩
def sQ (e:ET):Bool:=decide (e.2.1=3)||decide (e.2.1=23)
def fl (l:Y ET) (t:Int):θ:=(l.filter λe=>decide (e.1=t)).map sQ
def Bp (l:Y ET) (t y:Int):Prop:=0<=y/\(fl l t).getD y.toNat aa=M
theorem yF (l m:Y ET) (t:Int):fl (l++m) t=fl l t++fl m t:=by unfold fl;rw[List.filter_append,da]
theorem D2 {e:ET} {t:Int} (h:e.1=t):fl [e] t=[sQ e]:=by unfold fl;simp[h]
theorem yE {e:ET} {t:Int} (h:¬e.1=t):fl [e] t=[]:=by unfold fl;simp[h]
theorem Bp.app {l:Y ET} {t y:Int} (h:Bp l t y) (m:Y ET):Bp (l++m) t y:=by
 obtain⟨h0,h1⟩:=h;refine ⟨h0,?_⟩;rw[yF];rw[ay]at h1 ⊢;rcases bM y.toNat (fl l t).length with g|g
 .rw[bQ g];exact h1
 .rw[bJ g]at h1;cases h1
theorem Bp.lt {l:Y ET} {t y:Int} (h:Bp l t y):y<(fl l t).length:=by
 obtain⟨h0,h1⟩:=h;rcases bM y.toNat (fl l t).length with g|g
 .omega
 .rw[ay,bJ g]at h1;cases h1
theorem Bp.last {l:Y ET} {e:ET} {y:Int} (h:sQ e=M) (d:y=(fl l e.1).length):Bp (l++[e]) e.1 y:=by
 subst d;refine ⟨by omega,?_⟩;rw[yF,D2 rfl,ay,bX (by simp),h];simp
theorem Cj (l:Y ET) (t:Int):(fl l t).length<=l.length:=by unfold fl;rw[ca];exact List.length_filter_le ..
structure Sl (w:WT) (l:List ET) (sy:SY) (ce fu:η) (e:ET):Prop where
 en:EN w sy e.1 e.2.1 e.2.2.1
 rd:FO w sy e.1 e.2.1 e.2.2.1
 s1:e.2.1=1\/e.2.1=2->e.2.2.2.2.1= -1
 s2:¬(e.2.1=1\/e.2.1=2)->0<=e.2.2.2.2.1/\e.2.2.2.2.1<w.2.2.2.2.2.length/\(aG (T:=De) w.2.2.2.2.2 e.2.2.2.2.1).1=e.1
 de:0<e.2.2.2.2.2.1.length->e.2.1=5\/(e.2.1=3\/e.2.1=4)/\¬(aG (T:=OR) w.1 e.2.2.1).2.2.1=0
 fr:0<e.2.2.2.2.2.2.length->e.2.1=4\/e.2.1=22
 nd:AN (fl l e.1).length e.2.2.2.2.2.1
 nf:AN (fl l e.1).length e.2.2.2.2.2.2
 rd1:∀y∈e.2.2.2.2.2.1,Bp l e.1 y
 rd2:∀y∈e.2.2.2.2.2.2,Bp l e.1 y
 va:VA w sy ce fu e.1 e.2.1 e.2.2.1 e.2.2.2.1
def thP:Nat->Y (Int×Int×Bool)
 |0=>[]
 |n+1=>(1,0,aa)::aA n (0,0,aa)
def KA (w:WT):SY:=(aA w.2.1.length (-1,[]),-1,aA w.2.2.2.1.length aa,thP w.2.2.2.2.1.length)
def ce0 (w:WT):η:=w.1.map λc=>c.2.2.2.2
def fu0 (w:WT):η:=aA w.2.2.2.1.length 0
inductive Hq (w:WT):List ET->SY->η->η->Prop
 |nil:Hq w [] (KA w) (ce0 w) (fu0 w)
 |snoc {l:List ET} {sy:SY} {ce fu:η} {e:ET} (h:Hq w l sy ce fu) (hs:Sl w l sy ce fu e):Hq w (l++[e]) (vW w sy e.1 e.2.1 e.2.2.1 e.2.2.2.1).1 (ZT ce e) (fuP fu e)
theorem Yz (i:Nat):thP (i+2)=thP (i+1)++[(0,0,aa)]:=by
 show (1,0,aa)::aA (i+1) (0,0,aa)=(1,0,aa)::aA i (0,0,aa)++[(0,0,aa)]
 rw[Dc,gZ]
theorem M6:∀n,(thP n).length=n
 |0=>rfl
 |n+1=>by simp[thP]
theorem J5 (w:WT) (h:VL w):pn w=Z (KA w):=by
 obtain⟨w1,w2,F,q,A,D⟩:=w;obtain⟨h1,h2,h3,h4,_,h5,L⟩:=h;dsimp only at*
 refine bY ?_;unfold pn aV ba bk bO cC ci dx bf bx bo aY cI aB cu;refine cg w2.length (λi x=>x.1=(i:Int)/\x.2.1=(w1,w2,F,q,A,D)/\x.2.2.2=(-1,aA i (-1,[]))) ?_ ?_ ⟨rfl,rfl,rfl⟩
 .rintro i ⟨a,b,c,d,e⟩ hi ⟨e1,e2,e3⟩;simp only[aC]at e1 e2 e3;obtain⟨rfl,rfl⟩:=e3;subst e1;subst e2;with_reducible repeat' first|(refine OS.ok ?_;constructor)|refine IM.mk λ_=>?_
  all_goals try simp only[aj,oq] at*
  all_goals first|omega|(simp;omega)|skip
  exact⟨fx (by omega),by rw[Dc]⟩
 rintro⟨a,b,c,d,e⟩ ⟨e1,e2,e3⟩;simp only[aC]at e1 e2 e3;obtain⟨rfl,rfl⟩:=e3;subst e1;subst e2;refine aR (λz=>(by dsimp only[aj]at z;omega)) λ_=>?_
 refine ar (P:=λs=>s=KA (w1,w2,F,q,A,D)) ?_ λy I=>ai I
 refine cg q.length (λi x=>x.1=(i:Int)/\x.2.1=(w1,w2,F,q,A,D)/\x.2.2.2=(-1,aA w2.length (-1,[]),aA i aa)) ?_ ?_ ⟨rfl,rfl,rfl⟩
 .rintro i ⟨a,b,c,d,e',f⟩ hi ⟨e1,e2,e3⟩;simp only[aC]at e1 e2 e3;obtain⟨rfl,rfl,rfl⟩:=e3;subst e1;subst e2;with_reducible repeat' first|(refine OS.ok ?_;constructor)|refine IM.mk λ_=>?_
  all_goals try simp only[aj,oq] at*
  all_goals first|omega|(simp;omega)|skip
  exact⟨fx (by omega),by rw[Dc]⟩
 rintro⟨a,b,c,d,e',f⟩ ⟨e1,e2,e3⟩;simp only[aC]at e1 e2 e3;obtain⟨rfl,rfl,rfl⟩:=e3;subst e1;subst e2;refine aR (λz=>(by dsimp only[aj]at z;omega)) λ_=>?_
 refine ar (P:=λs=>s=KA (w1,w2,F,q,A,D)) ?_ λy I=>ai I
 refine cg A.length (λi x=>x.1=(i:Int)/\x.2.1=(w1,w2,F,q,A,D)/\x.2.2.2=(-1,aA w2.length (-1,[]),aA q.length aa,thP i)) ?_ ?_ ⟨rfl,rfl,rfl⟩
 .rintro i ⟨a,b,c,d,e'',f',g⟩ hi ⟨e1,e2,e3⟩;simp only[aC]at e1 e2 e3;obtain⟨rfl,rfl,rfl,rfl⟩:=e3;subst e1;subst e2;have hl:=M6 i;refine aR (λ_=>?_) λz=>(by dsimp only[aj]at z;omega)
  refine fO (aE (λh0=>ai ?_) λh0=>ai ?_)
  .have h0:((i:Nat):Int)=0:=h0;have h0:i=0:=by omega
   subst h0;exact aZ (by simp[thP]) (by omega) (ai ⟨rfl,rfl,rfl⟩)
  .have h0:¬((i:Nat):Int)=0:=h0;obtain⟨j,rfl⟩:∃j,i=j+1:=⟨i-1,by omega⟩
   refine aZ (by dsimp only;rw[hl];simp;omega) (by omega) (ai ⟨fx (by omega),rfl,?_⟩);dsimp only;rw[Yz]
 rintro⟨a,b,c,d,e'',f',g⟩ ⟨e1,e2,e3⟩;simp only[aC]at e1 e2 e3;obtain⟨rfl,rfl,rfl,rfl⟩:=e3;subst e1;subst e2;refine aR (λz=>(by dsimp only[aj]at z;omega)) λ_=>ai rfl
theorem SK {w:WT} (h:VL w):SB 0 (KA w):=by
 obtain⟨h1,h2,z,s,_,q,d⟩:=h;refine ⟨by omega,by simp[KA];omega,λl hl=>?_,by simp[KA];omega,by simp[KA,M6];omega⟩;rw[List.eq_of_mem_replicate hl];simp
theorem UM (w:WT) (h:VL w):Ok (pn w) λs=>SB 0 s:=YU (J5 w h) (SK h)
theorem Bo (w:WT) (h:VL w):mV w=Z (KA w,ce0 w,fu0 w,aA w.2.2.2.2.1.length 0):=by
 have hs:=J5 w h;have hd:(KA w)=KA w:=rfl;obtain⟨w1,w2,A,s,q,z⟩:=w;obtain⟨h1,h2,h3,L,_,I,F⟩:=h;dsimp only at*
 refine bY ?_;unfold mV aV ba bk bn ci bx bo bG aY cI aB cu;refine aQ hs ?_;with_reducible repeat' first|(refine OS.ok ?_;constructor)|refine IM.mk λ_=>?_
 all_goals try simp only[aj,oq] at*
 all_goals first|omega|skip
 refine cg w1.length (λi x=>x.1=(i:Int)/\x.2.1=(w1,w2,A,s,q,z)/\x.2.2.2=(KA (w1,w2,A,s,q,z),(w1.take i).map (λc=>c.2.2.2.2),aA s.length 0,aA q.length 0)) ?_ ?_ ⟨rfl,rfl,rfl⟩
 .rintro i ⟨a,b,c,d,e,f,g⟩ hi ⟨e1,e2,e3⟩;simp only[aC]at e1 e2 e3;obtain⟨rfl,rfl,rfl,rfl⟩:=e3;subst e1;subst e2;with_reducible repeat' first|(refine OS.ok ?_;constructor)|refine IM.mk λ_=>?_
  all_goals try simp only[aj,oq] at*
  all_goals first|omega|(simp;omega)|skip
  exact⟨fx (by omega),by rw[pX (T:=OR) hi,da];rfl⟩
 rintro⟨a,b,c,d,e,f,g⟩ ⟨e1,e2,e3⟩;simp only[aC]at e1 e2 e3;obtain⟨rfl,rfl,rfl,rfl⟩:=e3;subst e1;subst e2;refine aR (λD=>(by dsimp only[aj]at D;omega)) λ_=>ai ?_
 rw[bS];rfl
theorem UK (w:WT) (h:VL w):Ok (mV w) λs=>NB 0 s/\s.2.1.length=w.1.length/\s.2.2.1.length=w.2.2.2.1.length/\s.2.2.2.length=w.2.2.2.2.1.length:=
 YU (Bo w h) ⟨⟨SK h,by have:=h.c;simp[ce0];omega,by have:=h.f;simp[fu0];omega,by have:=h.t;simp;omega⟩,by simp[ce0],by simp[fu0],by simp⟩
theorem BN (l:Y ET) (i t:Int) (ns:η) (hl:l.length<=1000000000) (hi:0<=i/\i<=l.length) (hn:ns.length<=1000000000):Ok (mU (l,i,t,ns)) λb=>b=M->∀y∈ns,Bp (l.take i.toNat) t y:=by
 unfold mU aV bn bf bx ir bG aY cI aB cu;refine cg ns.length (λk x=>x=(k:Int)/\∀j:Nat,j<k->Bp (l.take i.toNat) t (aG (T:=.int .i64) ns (j:Int))) ?_ ?_ ⟨rfl,λj hj=>(by omega)⟩
 .rintro k x hk ⟨rfl,A⟩;refine aR (λs=>?_) λs=>(by dsimp only[aj]at s;omega)
  refine my (λx=>(i-x.2.2).toNat) (λx=>0<=x.2.2/\x.2.2<=i/\x.1=((fl (l.take x.2.2.toNat) t).length:Int)/\(x.2.1=M->Bp (l.take x.2.2.toNat) t (aG (T:=.int .i64) ns (k:Int)))) ?_ ⟨by simp,hi.1,by simp[fl],λh=>(by cases h)⟩;rintro⟨a,b,(c:Int)⟩ ⟨z,I,D,hb⟩;dsimp only at z I D hb;subst D;obtain⟨c,rfl⟩:∃n:Nat,c=(n:Int):=⟨c.toNat,by omega⟩
  rw[cO]at hb;dsimp only;rw[cO];have hfl:=Cj (l.take c) t;have htl:=gm c l;refine aR (λd=>?_) λd=>?_
  .have d:(c:Int)<i:=d;have htk:l.take (c+1)=l.take c++[aG (T:=tE) l (c:Int)]:=pX (T:=tE) (by omega);refine aX (λy=>y.1=((fl (l.take (c+1)) t).length:Int)/\(y.2=M->Bp (l.take (c+1)) t (aG (T:=.int .i64) ns (k:Int)))) ?_ ?_
   .rw[htk,yF];refine aH z (by first|omega|(dsimp only;omega)) (aW ?_);refine bV (λhne=>ai ⟨by rw[yE hne];simp,λh=>(hb h).app _⟩) λhe=>?_
    have he:(aG (T:=tE) l (c:Int)).1=t:=he;refine aX (λy=>y=M->Bp (l.take c++[aG (T:=tE) l (c:Int)]) t (aG (T:=.int .i64) ns (k:Int))) ?_ λy F=>ai ⟨?_,F⟩
    .refine aK (λh=>ai λ_=>(hb h).app _) λ_=>?_
     refine aH (by omega) (by first|omega|(dsimp only;omega)) (aW ?_);refine aE (λhn=>?_) λ_=>ai λh=>(by cases h)
     have hq:sQ (aG (T:=tE) l (c:Int))=M->Bp (l.take c++[aG (T:=tE) l (c:Int)]) t (aG (T:=.int .i64) ns (k:Int)):=λh=>by
      rw[<- he]at hn ⊢;exact Bp.last h hn.symm
     refine aH z (by first|omega|(dsimp only;omega)) (aW ?_);refine aE (λh=>ai λ_=>hq (by unfold sQ;rw[be h];rfl)) λ_=>?_
     exact aH z (by first|omega|(dsimp only;omega)) (aW (ai λh=>hq (by unfold sQ;rw[h];simp)))
    .dsimp only;rw[D2 he,fx (by omega)];simp
   .rintro⟨p,q⟩ ⟨hp,hq⟩;refine ai ?_;dsimp only at hp hq ⊢;rw[fx (by omega),cO];exact⟨⟨by omega,by omega,hp,hq⟩,by omega⟩
  .refine ar (P:=λr=>match r with|.inl y=>y=((k+1:Nat):Int)/\∀j:Nat,j<k+1->Bp (l.take i.toNat) t (aG (T:=.int .i64) ns (j:Int))|.inr r=>r=M->∀y∈ns,Bp (l.take i.toNat) t y) ?_ λr hr=>ai ?_
   .refine cX (λ_=>ai λh=>(by cases h)) λh=>ai ⟨fx (by omega),λj hj=>?_⟩
    rcases bM j k with h1|h1
    .exact A j h1
    .have:=hb h;have hci:c=i.toNat:=by have d:i<=(c:Int):=d;omega
     rw[show j=k by omega,<-hci];exact this
   .cases r with
    |inl y=>exact hr
    |inr r=>exact hr
 .rintro x ⟨rfl,A⟩;refine aR (λs=>(by dsimp only[aj]at s;omega)) λ_=>ai λ_=>il (T:=.int .i64) A
def CN (l:Y ET) (c:η):Prop:=∀t:Int,0<=t->t<c.length->aG (T:=.int .i64) c t=((fl l t).length:Int)
theorem Mg {T:Ty} (xs:Y T.den) (j k:Int) (x:T.den) (hj:0<=j) (d:j<xs.length) (hk:0<=k):aG (cj xs j x) k=if k=j then x else aG xs k:=by
 unfold aG cj;rw[ay,ay,oP];by_cases h:k=j
 .subst h;rw[aT rfl,aT rfl,aT (by omega)];rfl
 .rw[aL (by omega),aL h]
theorem CN.next {l:Y ET} {c:η} (h:CN l c) (e:ET) (h0:0<=e.1) (h1:e.1<c.length) (hl:l.length<1000000):CN (l++[e]) (cj c e.1 (a9 .i64 (aG (T:=.int .i64) c e.1+1))):=λt t0 t1=>by
 rw[cL]at t1;have:=Cj l e.1;rw[Mg (T:=.int .i64) _ _ _ _ h0 h1 t0,yF];split
 .rename_i h2;subst h2;rw[D2 rfl,h _ h0 h1,fx (by omega)];simp
 .rename_i h2;rw[yE λd=>h2 d.symm,h _ t0 t1];simp
theorem CN.bd {l:Y ET} {c:η} (h:CN l c) (t:Int):(aG (T:=.int .i64) c t:Int)<=l.length:=by
 have key:∀z:Int,aG (T:=.int .i64) c t=z->z<=l.length:=by
  intro z e;rcases bM t.toNat c.length with g|g
  .have h1:=h (t.toNat:Int) (by omega) (by omega);have h2:=Cj l ((t.toNat:Nat):Int);have d:aG (T:=.int .i64) c t=aG (T:=.int .i64) c ((t.toNat:Nat):Int):=by unfold aG;rw[cO]
   have q:z=((fl l ((t.toNat:Nat):Int)).length:Int):=e.symm.trans (d.trans h1);omega
  .have:z=0:=by
    rw[<- e];unfold aG;rw[ay,bJ g];rfl
   omega
 exact key _ rfl
structure Ym (w:WT) (e:ET):Prop where
 nm:NM w e.2.1 e.2.2.1
 t0:0<=e.1
 t1:e.1<w.2.2.2.2.1.length
 cd:∀c∈w.2.2.1,0<=c.2/\c.2<w.2.1.length
theorem aar (w:WT) (l:Y ET):Ok (mW (w,l)) λy=>y.2=0->(VL w/\SV0 w)/\(∀e∈l,Ym w e)/\∃sy ce fu,Hq w l sy ce fu:=by
 unfold mW bO bn dx bx bG aY cI aB cu;refine aR (λ_=>ai λh=>(by cases h)) λhl=>?_
 dsimp only[aj]at hl;refine ar (Aw w) λb hb=>?_
 refine cX (λ_=>ai λh=>(by cases h)) λh=>?_
 obtain⟨hv,hsv⟩:=hb h;refine aQ (Bo w hv) ?_;have hs:NB 0 (KA w,ce0 w,fu0 w,aA w.2.2.2.2.1.length 0):=⟨SK hv,by have:=hv.c;simp[ce0];omega,by have:=hv.f;simp[fu0];omega,by have:=hv.t;simp;omega⟩
 have hw:w.2.2.1.length<=1000:=by have:=hv.d;omega
 refine cg l.length (λi x=>x.1=(i:Int)/\x.2.1=(w,l)/\NB i x.2.2/\(∀k:Nat,k<i->Ym w (aG (T:=tE) l (k:Int)))/\Hq w (l.take i) x.2.2.1 x.2.2.2.1 x.2.2.2.2.1/\CN (l.take i) x.2.2.2.2.2/\x.2.2.2.2.2.length=w.2.2.2.2.1.length) ?_ ?_ ⟨rfl,rfl,hs,λk hk=>(by omega),.nil,λt t0 t1=>?_,by simp⟩
 .rintro i ⟨a,b,s⟩ hi ⟨e1,e2,e3,L,I,e6,e7⟩;dsimp only at e1 e2 e3 L I e6 e7;subst e1;subst e2;refine aR (λA=>?_) λA=>(by dsimp only[aj]at A;omega)
  refine dV (aW ?_);have hmem:=bH (T:=tE) (xs:=l) (j:=(i:Int)) (by omega) (by omega);have hbd:=e6.bd (aG (T:=tE) l (i:Int)).1;have htl:=gm i l;have hbd:(aG (T:=.int .i64) s.2.2.2 (aG (T:=tE) l (i:Int)).1:Int)<=1000000:=by
   refine eX hbd ?_;omega
  refine ar (zG w s e3 hw _ (.inr (eX hbd (by decide))) (.inr (eX hbd (by decide)))) λy hy=>?_
  have d1:y.2=M->(aG (T:=tE) l (i:Int)).2.2.2.2.2.1.length<=1000000000:=λh=>by
   have h3:((aG (T:=tE) l (i:Int)).2.2.2.2.2.1.length:Int)<=max (0:Int) (aG (T:=.int .i64) s.2.2.2 (aG (T:=tE) l (i:Int)).1):=(hy.1 h).2.2.1.nd.len;have h4:max (0:Int) (aG (T:=.int .i64) s.2.2.2 (aG (T:=tE) l (i:Int)).1)<=1000000:=xd.2 ⟨by decide,hbd⟩;have:=eX h3 h4;omega
  have d2:y.2=M->(aG (T:=tE) l (i:Int)).2.2.2.2.2.2.length<=1000000000:=λh=>by
   have h3:((aG (T:=tE) l (i:Int)).2.2.2.2.2.2.length:Int)<=max (0:Int) (aG (T:=.int .i64) s.2.2.2 (aG (T:=tE) l (i:Int)).1):=(hy.1 h).2.2.1.nf.len;have h4:max (0:Int) (aG (T:=.int .i64) s.2.2.2 (aG (T:=tE) l (i:Int)).1)<=1000000:=xd.2 ⟨by decide,hbd⟩;have:=eX h3 h4;omega
  refine aX (λx=>x.2.1=(w,l)/\x.2.2.2=y.1/\(x.1=aa->y.2=M/\(∀z∈(aG (T:=tE) l (i:Int)).2.2.2.2.2.1,Bp (l.take i) (aG (T:=tE) l (i:Int)).1 z)/\∀z∈(aG (T:=tE) l (i:Int)).2.2.2.2.2.2,Bp (l.take i) (aG (T:=tE) l (i:Int)).1 z)) ?_ ?_
  .refine cX (λ_=>ai ⟨rfl,rfl,λh=>(by cases h)⟩) λh=>?_
   refine ar (BN l _ _ _ (by omega) ⟨by dsimp only;omega,by dsimp only;omega⟩ (d1 h)) λb1 hr1=>?_
   refine cX (λ_=>ai ⟨rfl,rfl,λh=>(by cases h)⟩) λhb1=>?_
   refine ar (BN l _ _ _ (by omega) ⟨by dsimp only;omega,by dsimp only;omega⟩ (d2 h)) λb2 hr2=>ai ⟨rfl,rfl,λhb2=>⟨h,hr1 hb1,hr2 (by simpa using hb2)⟩⟩
  .rintro⟨c,p,q,r⟩ ⟨f1,f2,f3⟩;dsimp only at f1 f2 f3;subst f1;subst f2;refine aK (λ_=>ai λh=>(by cases h)) λh=>?_
   obtain⟨f4,r1,r2⟩:=f3 h;obtain⟨D,g2,F,A⟩:=hy.1 f4;refine ai ?_;dsimp only;have htk:l.take (i+1)=l.take i++[aG (T:=tE) l (i:Int)]:=pX (T:=tE) hi;have hc:=e6 _ D.t0 (by rw[e7];exact D.t1);have hnx:=iX Prod.fst A;have hac:=I.snoc (e:=aG (T:=tE) l (i:Int)) ⟨D,F.rd,F.s1,F.s2,F.de,F.fr,by rw[<- hc];exact F.nd,by rw[<- hc];exact F.nf,r1,r2,F.va⟩;refine ⟨fx (by omega),rfl,g2.NB e3 (by omega),λk hk=>?_,by rw[htk,A];exact hac,by rw[htk,A];exact e6.next _ D.t0 (by rw[e7];exact D.t1) (by rw[b7];omega),by rw[A];unfold Sj;rw[cL];exact e7⟩;rcases bM k i with h1|h1
   .exact L k h1
   .rw[show k=i by omega];exact⟨D.nm,D.t0,D.t1,D.cd⟩
 .rintro⟨a,b,s⟩ ⟨e1,e2,e3,L,I,_⟩;dsimp only at e1 e2 e3 L I;subst e1;subst e2;rw[bS]at I;refine aR (λA=>(by dsimp only[aj]at A;omega)) λ_=>ai λ_=>⟨⟨hv,hsv⟩,il (T:=tE) L,_,_,_,I⟩
 .rw[cN]at t1;obtain⟨t,rfl⟩:∃n:Nat,t=(n:Int):=⟨t.toNat,by omega⟩
  rw[DV,ay,lE];split<;>simp[fl]
structure TP (t:η×Int):Prop where
 l0:t.1.length<=9223372036854775807
 by_:∀x∈t.1,0<=x/\x<=255
 a0:0<=t.2
 a1:t.2<=t.1.length
structure uj (t t':η×Int):Prop where
 e:t'.1=t.1
 m:t.2<=t'.2
 p:TP t'
theorem uj.refl {t:η×Int} (h:TP t):uj t t:=⟨rfl,gp _,h⟩
theorem uj.trans {a b c:η×Int} (h:uj a b) (g:uj b c):uj a c:=⟨g.e.trans h.e,eX h.m g.m,g.p⟩
theorem gj (n:Int) (t:η×Int) (h:TP t):Ok (bC (n,t)) λy=>uj t y.2/\0<=y.1/\(1<=n->y.1<n)/\(t.2<t.1.length->1<=n->t.2<y.2.2):=by
 obtain⟨L,a⟩:=t;have s:=h;obtain⟨l0,hb,a0,a1⟩:=h;dsimp only at l0 hb a0 a1;unfold bC jk bo bG aY aB cu;refine aX (λx=>x.2=(L,a)/\(x.1=M->a=L.length\/n<1)/\(x.1=aa->a<L.length/\1<=n)) ?_ ?_
 .refine dX (λh=>ai ⟨rfl,λ_=>?_,λh=>(by cases h)⟩) λh=>ai ⟨rfl,λh2=>?_,λh2=>?_⟩
  .dsimp only[aj]at h;omega
  .rw[mB]at h2;exact .inr h2
  .rw[fD]at h2;dsimp only[aj]at h h2;omega
 rintro⟨b,x⟩ ⟨e,h1,h2⟩;dsimp only at e h1 h2;subst e;refine aK (λh=>ai ⟨uj.refl s,gp _,λq=>(by dsimp only;omega),λq A=>?_⟩) λh=>?_
 .have:=h1 h;dsimp only at q;omega
 obtain⟨q1,q2⟩:=h2 h;refine aW ?_;have e1:a9 .i64 (a+1)=a+1:=gJ (by omega) (by omega);dsimp only;rw[e1,gJ (n:=a+1-1) (by omega) (by omega),show a+1-1=a by omega];have d:=hb _ (bH (T:=.int .u8) (xs:=L) (j:=a) a0 q1);refine aH a0 q1 (aW ?_);generalize (aG _ a)=z at d;have d:0<=z/\z<=255:=d;rw[gJ (n:=z) (by omega) (by omega)];refine vn (by omega) (ai ?_);dsimp only;refine ⟨⟨rfl,by dsimp only;omega,⟨l0,hb,by dsimp only;omega,by dsimp only;omega⟩⟩,Int.tmod_nonneg _ d.1,λ_=>?_,λ_ _=>by omega⟩;exact Int.tmod_lt_of_pos _ (by omega)
theorem Sq (s:SY) (hs:s.2.2.2.length<=1000) (y:η×η×η):Ok (kW (s,y)) λl=>l.length<=s.2.2.2.length:=by
 unfold kW bn bf bx bo bG aY cI aB cu;refine cg s.2.2.2.length (λi x=>x.1=(i:Int)/\x.2.length<=i) ?_ ?_ ⟨rfl,by simp⟩
 .rintro i ⟨a,b⟩ hi ⟨e1,e2⟩;dsimp only at e1 e2;subst e1;with_reducible repeat' first|(refine OS.ok ?_;constructor)|refine IM.mk λ_=>?_
  all_goals try simp only[aj,oq] at*
  all_goals first|omega|(simp;omega)|skip
  .exact⟨fx (by omega),by simp;omega⟩
  .exact⟨fx (by omega),by omega⟩
 .rintro⟨a,b⟩ ⟨e1,e2⟩;dsimp only at e1 e2;subst e1;refine aR (λd=>(by dsimp only[aj]at d;omega)) λ_=>ai e2
theorem Wr (k u:Int) (t:η×Int) (h:TP t):Ok (ov ((k,u),t)) λy=>uj t y.2/\(k=3\/k=4->0<=y.1/\y.1<5):=by
 unfold ov bf j7 aB cu;rcases @yo k with rfl|rfl|rfl|rfl|rfl|rfl|rfl|rfl|rfl|rfl|rfl|rfl|rfl|rfl|rfl|rfl|rfl|rfl|rfl|rfl|rfl|rfl|rfl|⟨hk,q⟩
 case inr.inr.inr.inr.inr.inr.inr.inr.inr.inr.inr.inr.inr.inr.inr.inr.inr.inr.inr.inr.inr.inr.inr=>
  simp only[hk 1 (by decide) (by decide),hk 2 (by decide) (by decide),hk 3 (by decide) (by decide),hk 4 (by decide) (by decide),hk 5 (by decide) (by decide),hk 6 (by decide) (by decide),hk 7 (by decide) (by decide),hk 8 (by decide) (by decide),hk 9 (by decide) (by decide),hk 10 (by decide) (by decide),hk 11 (by decide) (by decide),hk 12 (by decide) (by decide),hk 13 (by decide) (by decide),hk 14 (by decide) (by decide),hk 15 (by decide) (by decide),hk 16 (by decide) (by decide),hk 17 (by decide) (by decide),hk 18 (by decide) (by decide),hk 19 (by decide) (by decide),hk 20 (by decide) (by decide),hk 21 (by decide) (by decide),hk 22 (by decide) (by decide),hk 23 (by decide) (by decide),aN,aS,kJ];exact ai ⟨uj.refl h,λh=>(by first|omega|(simp at h;done)|(rcases h with h|h<;>cases h;done))⟩
 all_goals simp only[aN,aS,kJ]
 all_goals first
  |exact ai ⟨uj.refl h,λh=>(by first|omega|(simp at h;done)|(rcases h with h|h<;>cases h;done))⟩
  |exact ar (gj 2 t h) λy d=>ai ⟨d.1,λh=>(by first|omega|(simp at h;done)|(rcases h with h|h<;>cases h;done))⟩
  |exact ar (gj 3 t h) λy d=>ai ⟨d.1,λh=>(by first|omega|(simp at h;done)|(rcases h with h|h<;>cases h;done))⟩
  |skip
 all_goals
  refine ar (gj 8 t h) λy d=>?_
  have h1:=d.2.1;have h2:=d.2.2.1 (by omega);refine aH h1 (by simp;omega) (aH h1 (by simp;omega) (aW (ai ⟨d.1,λ_=>?_⟩)));have:∀z:Int,z∈([0,0,0,1,1,2,3,4]:η)->0<=z/\z<5:=by decide
  exact this _ (bH (T:=.int .i64) h1 (by simp;omega))
structure SZ (n:Nat) (s:SN):Prop where
 nb:NB n s
 c:s.2.1.length=5
 f:s.2.2.1.length=1
 k:s.2.2.2.length=4
theorem SZ.step {n:Nat} {s y:SN} (h:SZ n s) (hp:SP n s y) (hn:n+1<=100000):SZ (n+1) y:=
 ⟨hp.NB h.nb hn,by rw[hp.c];exact h.c,by rw[hp.f];exact h.f,by rw[hp.k];exact h.k⟩
theorem We {n:Nat} (s:SN) (hs:SZ n s) (k o:Int) (z:k=3->0<=o/\o<5) (t:η×Int) (h:TP t):Ok (qb ((s,k,o),t)) λy=>uj t y.2:=by
 obtain⟨s1,s2,A,s4⟩:=s;have hc:=hs.c;have hf:=hs.f;have hth:=hs.nb.sb.th;dsimp only at hc hf hth;have q:=Sq s1 hth (s2,A,s4);unfold qb aV bf bx bG aY aB;rcases @yo k with rfl|rfl|rfl|rfl|rfl|rfl|rfl|rfl|rfl|rfl|rfl|rfl|rfl|rfl|rfl|rfl|rfl|rfl|rfl|rfl|rfl|rfl|rfl|⟨hk,D⟩
 case inr.inr.inr.inr.inr.inr.inr.inr.inr.inr.inr.inr.inr.inr.inr.inr.inr.inr.inr.inr.inr.inr.inr=>
  simp only[hk 1 (by decide) (by decide),hk 2 (by decide) (by decide),hk 3 (by decide) (by decide),hk 4 (by decide) (by decide),hk 5 (by decide) (by decide),hk 6 (by decide) (by decide),hk 7 (by decide) (by decide),hk 8 (by decide) (by decide),hk 9 (by decide) (by decide),hk 10 (by decide) (by decide),hk 11 (by decide) (by decide),hk 12 (by decide) (by decide),hk 13 (by decide) (by decide),hk 14 (by decide) (by decide),hk 15 (by decide) (by decide),hk 16 (by decide) (by decide),hk 17 (by decide) (by decide),hk 18 (by decide) (by decide),hk 19 (by decide) (by decide),hk 20 (by decide) (by decide),hk 21 (by decide) (by decide),hk 22 (by decide) (by decide),hk 23 (by decide) (by decide),aN,aS,kJ];exact ai (uj.refl h)
 all_goals simp only[aN,aS,kJ]
 all_goals first
  |exact ai (uj.refl h)
  |exact ar (gj 2 t h) λy d=>ai d.1
  |exact ar (gj 3 t h) λy d=>ai d.1
  |exact ar q λy d=>ai (uj.refl h)
  |exact aH (by decide) (by omega) (aW (ai (uj.refl h)))
  |exact aH (z rfl).1 (by have:=(z rfl).2;omega) (aW (ai (uj.refl h)))
  |skip
 refine ar q λl hl=>?_
 refine aR (λh1=>?_) λ_=>ai (uj.refl h)
 refine ar (gj _ t h) λy d=>?_
 dsimp only[aj]at h1;have h2:=d.2.2.1 (by dsimp only[aj];omega);exact aH d.2.1 h2 (aW (ai d.1))
theorem abg (t:η×Int) (h:TP t) (r:η) (hr:r.length<=1000000):Ok (gx (t,r)) λy=>y.1.length<=r.length/\uj t y.2.1/\y.2.2=r:=by
 unfold gx aV bn bx jk bo j7 aY cI aB cu;refine cg r.length (λi x=>x.1=(i:Int)/\uj t x.2.1/\x.2.2.1=r/\x.2.2.2.length<=i) ?_ ?_ ⟨rfl,uj.refl h,rfl,by simp⟩
 .rintro i ⟨a,b,c,d⟩ hi ⟨e1,e2,e3,D⟩;dsimp only at e1 e2 e3 D;subst e1;subst e3;refine aR (λA=>?_) λA=>(by dsimp only[aj]at A;omega)
  refine aX (λx=>uj t x.1/\x.2.1=c/\x.2.2.length<=i+1) ?_ ?_
  .refine dV (dV (aW ?_));refine aX (λx=>uj t x.2.1/\x.2.2=(c,d)) ?_ ?_
   .refine aK (λ_=>?_) λ_=>ai ⟨e2,rfl⟩
    exact ar (gj 2 b e2.p) λy I=>ai ⟨e2.trans I.1,rfl⟩
   .rintro⟨p,q,u⟩ ⟨s,z⟩;dsimp only at s z;subst z;refine aK (λ_=>?_) λ_=>ai ⟨s,rfl,by dsimp only;omega⟩
    exact aZ (by simp;omega) (by omega) (ai ⟨s,rfl,by simp;omega⟩)
  .rintro⟨p,q,u⟩ ⟨s,z,F⟩;dsimp only at s z F;subst z;refine ai ?_;dsimp only;exact⟨fx (by omega),s,rfl,F⟩
 .rintro⟨a,b,c,d⟩ ⟨e1,e2,e3,D⟩;dsimp only at e1 e2 e3 D;subst e1;subst e3;refine aR (λA=>(by dsimp only[aj]at A;omega)) λ_=>ai ⟨D,e2,rfl⟩
theorem Y_:sS ()=Z [3,3,3,3,3,4,4,4,4,4,5,5,5,6,6,6,7,7,7,8,9,10,11,12,13,14,14,15,16,16,17,17,18,18,19,20,1,1,2,21,22,23,23]:=rfl
abbrev RR:Type:=η×η×η×η
structure RB4 (m:Nat) (r:RR):Prop where
 r0:r.1.length<=m
 r1:r.2.1.length<=m
 r2:r.2.2.1.length<=m
 r3:r.2.2.2.length<=m
theorem ZC {n:Nat} (s:SN) (hs:SZ n s) (w:WT) (hw:w.1.length=5) (t:η×Int) (h:TP t) (r:RR) (hr:RB4 1000000 r):Ok (qc ((s,w),t,r)) λy=>uj t y.2.1/\y.2.2=r/\(t.2<t.1.length->t.2<y.2.1.2)/\y.1.2.2.2.2.2.1.length<=1000000/\y.1.2.2.2.2.2.2.length<=1000000:=by
 obtain⟨r0,r1,r2,r3⟩:=r;obtain⟨h0,h1,h2,h3⟩:=hr;dsimp only at h0 h1 h2 h3;unfold qc ub ze Prod.p12 aV ba bk bO cU fM ry um Kj Prod.q12 ci dx bf bo bG aY aB;refine ar (gj 4 t h) λy hy=>?_
 refine aQ Y_ ?_;refine ar (gj _ y.2 hy.1.p) λz hz=>?_
 obtain⟨y1,yt⟩:=y;obtain⟨z1,zt⟩:=z;obtain⟨ty,yy0,yy1,yy2⟩:=hy;obtain⟨tz,zz0,zz1,_⟩:=hz;dsimp only at ty yy0 yy1 yy2 tz zz0 zz1;have yy1:=yy1 (by decide);have hzl:=zz1 (by decide);refine aH zz0 hzl (aW ?_);generalize (aG _ z1)=k;refine ar (gj 6 zt tz.p) λv hv=>?_
 obtain⟨v1,vt⟩:=v;have tv:=hv.1;dsimp only at tv;have tt:=(ty.trans tz).trans tv;have hadv:t.2<t.1.length->t.2<vt.2:=λh=>by
  have:=yy2 h (by decide);have:=tz.m;have:=tv.m;omega
 refine aX (λx=>x.1=vt/\x.2.1=r0/\x.2.2.1=r1/\x.2.2.2.1=r2/\x.2.2.2.2.1=r3/\x.2.2.2.2.2.1=s/\x.2.2.2.2.2.2.1=w) ?_ ?_
 .refine aX (λx=>x.2.1=vt/\x.2.2.1=r0/\x.2.2.2.1=r1/\x.2.2.2.2.1=r2/\x.2.2.2.2.2.1=r3/\x.2.2.2.2.2.2.1=s/\x.2.2.2.2.2.2.2.1=w) ?_ ?_
  .with_reducible repeat' first|(refine OS.ok ?_;constructor)|refine IM.mk λ_=>?_
   all_goals exact⟨rfl,rfl,rfl,rfl,rfl,rfl,rfl⟩
  .rintro⟨p,q⟩ hq;dsimp only at hq;with_reducible repeat' first|(refine OS.ok ?_;constructor)|refine IM.mk λ_=>?_
   all_goals exact hq
 rintro⟨x1,x2,x3,x4,x5,x6,x7,x8,x9,x10⟩ ⟨D,L,f3,f4,f5,f6,I⟩;dsimp only at D L f3 f4 f5 f6 I;subst D;subst L;subst f3;subst f4;subst f5;subst f6;subst I;refine ar (Wr _ _ _ tv.p) λo ho=>?_
 obtain⟨o1,ot⟩:=o;obtain⟨to,ho⟩:=ho;dsimp only at to ho;refine ar (We _ hs _ _ (λhk=>ho (.inl hk)) _ to.p) λq hq=>?_
 obtain⟨q1,qt⟩:=q;dsimp only at hq;have F:=(tt.trans to).trans hq;have hadv2:t.2<t.1.length->t.2<qt.2:=λh=>by have:=hadv h;have:=to.m;have:=hq.m;omega
 have row:∀(T:η×Int) (c:η) {R:Type} (k:η×((η×Int)×η)->J R) (Q:R->Prop),uj t T->c.length<=1000000->(∀v T',uj T T'->v.length<=1000000->Ok (k (v,T',c)) Q)->Ok (av (gx (T,c)) k) Q:=λT c R k Q A hc hk=>by
  refine ar (abg T A.p c hc) λy hy=>?_
  obtain⟨a,b,d⟩:=y;obtain⟨g1,g2,g3⟩:=hy;dsimp only at g1 g2 g3;subst g3;exact hk a b g2 (by omega)
 refine aX (λx=>uj t x.1/\(t.2<t.1.length->t.2<x.1.2)/\x.2.1=x2/\x.2.2.1=x3/\x.2.2.2.1=x4/\x.2.2.2.2.1=x5/\x.2.2.2.2.2.2.2.2.2.2.2.length<=1000000) ?_ ?_
 .refine aX (λx=>x.2.1=qt/\x.2.2.1=x2/\x.2.2.2.1=x3/\x.2.2.2.2.1=x4/\x.2.2.2.2.2.1=x5) ?_ ?_
  .refine aE (λ_=>ai ⟨rfl,rfl,rfl,rfl,rfl⟩) λ_=>?_
   refine aE (λhk=>?_) λ_=>aE (λhk=>?_) λ_=>ai ⟨rfl,rfl,rfl,rfl,rfl⟩
   .exact aH (ho (.inl hk)).1 (by dsimp only;rw[hw];exact (ho (.inl hk)).2) (aW (ai ⟨rfl,rfl,rfl,rfl,rfl⟩))
   .exact aH (ho (.inr hk)).1 (by dsimp only;rw[hw];exact (ho (.inr hk)).2) (aW (ai ⟨rfl,rfl,rfl,rfl,rfl⟩))
  .rintro⟨b,p1,p2,p3,p4,p5,p6⟩ ⟨D,L,f3,f4,f5⟩;dsimp only at D L f3 f4 f5;subst D;subst L;subst f3;subst f4;subst f5;refine aK (λ_=>?_) λ_=>ai ⟨F,hadv2,rfl,rfl,rfl,rfl,by simp⟩
   have adv3:∀T',uj p1 T'->t.2<t.1.length->t.2<T'.2:=λT' A h=>by have:=hadv2 h;have:=A.m;omega
   refine aE (λ_=>?_) λ_=>aE (λ_=>?_) λ_=>aE (λ_=>?_) λ_=>aE (λ_=>?_) λ_=>?_
   .refine row p1 p2 _ _ F h0 λv T' A hv=>?_
    refine cK (lK rfl (Aa ?_));exact ai ⟨F.trans A,adv3 T' A,rfl,rfl,rfl,rfl,hv⟩
   .refine row p1 p3 _ _ F h1 λv T' A hv=>?_
    refine cK (lK rfl (Aa ?_));exact ai ⟨F.trans A,adv3 T' A,rfl,rfl,rfl,rfl,hv⟩
   .refine row p1 p4 _ _ F h2 λv T' A hv=>?_
    refine cK (lK rfl (Aa ?_));exact ai ⟨F.trans A,adv3 T' A,rfl,rfl,rfl,rfl,hv⟩
   .refine row p1 p5 _ _ F h3 λv T' A hv=>?_
    refine cK (lK rfl (Aa ?_));exact ai ⟨F.trans A,adv3 T' A,rfl,rfl,rfl,rfl,hv⟩
   .omega
 rintro⟨u1,u2,u3,u4,u5,u6,u7,u8,u9,u10,u11,u12⟩ ⟨D,L,f3,f4,f5,f6,I⟩;dsimp only at D L f3 f4 f5 f6 I;subst f3;subst f4;subst f5;subst f6;refine aX (λx=>uj t x.1/\(t.2<t.1.length->t.2<x.1.2)/\x.2.1=u2/\x.2.2.1=u3/\x.2.2.2.1=u4/\x.2.2.2.2.1=u5/\x.2.2.2.2.2.2.2.2.2.2.2.1.length<=1000000/\x.2.2.2.2.2.2.2.2.2.2.2.2.length<=1000000) ?_ ?_
 .refine aX (λx=>x.2=(u1,u2,u3,u4,u5,u6,u7,u8,u9,u10,u11,u12)) ?_ ?_
  .with_reducible repeat' first|(refine OS.ok ?_;constructor)|refine IM.mk λ_=>?_
   all_goals rfl
  .rintro⟨b,x⟩ e;dsimp only at e;subst e;refine aK (λ_=>?_) λ_=>ai ⟨D,L,rfl,rfl,rfl,rfl,I,by simp⟩
   have adv3:∀T',uj u1 T'->t.2<t.1.length->t.2<T'.2:=λT' A h=>by have:=L h;have:=A.m;omega
   refine aE (λ_=>?_) λ_=>aE (λ_=>?_) λ_=>aE (λ_=>?_) λ_=>aE (λ_=>?_) λ_=>?_
   .refine row u1 u2 _ _ D h0 λv T' A hv=>?_
    refine cK (lK rfl (Aa ?_));exact ai ⟨D.trans A,adv3 T' A,rfl,rfl,rfl,rfl,I,hv⟩
   .refine row u1 u3 _ _ D h1 λv T' A hv=>?_
    refine cK (lK rfl (Aa ?_));exact ai ⟨D.trans A,adv3 T' A,rfl,rfl,rfl,rfl,I,hv⟩
   .refine row u1 u4 _ _ D h2 λv T' A hv=>?_
    refine cK (lK rfl (Aa ?_));exact ai ⟨D.trans A,adv3 T' A,rfl,rfl,rfl,rfl,I,hv⟩
   .refine row u1 u5 _ _ D h3 λv T' A hv=>?_
    refine cK (lK rfl (Aa ?_));exact ai ⟨D.trans A,adv3 T' A,rfl,rfl,rfl,rfl,I,hv⟩
   .omega
 rintro⟨a1,a2,a3,a4,a5,a6,a7⟩ ⟨g1,g2,g3,g4,g5,g6,g7,g8⟩;dsimp only at g1 g2 g3 g4 g5 g6 g7 g8;subst g3;subst g4;subst g5;subst g6;exact ai ⟨g1,rfl,g2,g7,g8⟩
def UT (e:ET):Prop:=e.2.2.2.2.2.1.length<=1000000/\e.2.2.2.2.2.2.length<=1000000
theorem abq {m:Nat} (hm:m<=1000) (s:SN) (hs:SZ m s) (w:WT) (hw:w.1.length=5) (hwt:w.2.2.2.2.1.length=4) (hwc:w.2.2.1.length<=1000) (n:Int) (hn:n<=60) (t:η×Int) (h:TP t):Ok (rV ((s,w,n,aa),t)) λy=>(∀e∈y.1,UT e)/\y.1.length<=60:=by
 unfold rV aV ba bk bO cU fM ry um Prod.q10 bn ci dx gI lB GZ bf bx bo bG aY cI aB;refine cK (cK (cK (cY (by dsimp only[aj];omega) (cY (gp _) (aZ (by dsimp only[aj];omega) (by omega) (Nn (by dsimp only[aj];omega) ?_))))));refine aX (λx=>x=(t,s,w,[],[],[],[])) ⟨_,rfl,rfl⟩ ?_;rintro x rfl;refine my (λx=>((t.1.length:Int)-x.1.2).toNat) (λx=>uj t x.1/\x.2.2.1=w/\SZ (m+x.2.2.2.1.length) x.2.1/\x.2.2.2.1.length<=60/\(∀e∈x.2.2.2.1,UT e)/\RB4 x.2.2.2.1.length x.2.2.2.2) ?_ ⟨uj.refl h,rfl,(by simpa using hs),by simp,λe he=>(by cases he),⟨by simp,by simp,by simp,by simp⟩⟩;rintro⟨d,s,w',out,r⟩ ⟨i1,i2,D,i4,i5,i6⟩;dsimp only at i1 i2 D i4 i5 i6;subst i2;refine aX (λx=>x.2=(d,s,w',out,r)/\(x.1=M->out.length<60/\d.2<d.1.length)) ?_ ?_
 .refine aR (λh1=>ai ⟨rfl,λh2=>?_⟩) λ_=>ai ⟨rfl,λh=>(by cases h)⟩
  rw[mB]at h2;dsimp only[aj]at h1 h2;exact⟨by omega,h2⟩
 rintro⟨b,x⟩ ⟨e,hb⟩;dsimp only at e hb;subst e;refine aK (λh1=>?_) λ_=>ai ⟨i5,i4⟩
 obtain⟨ho,ht⟩:=hb h1;obtain⟨q0,q1,q2,q3⟩:=id i6;refine aX (λx=>uj d x.1/\d.2<x.1.2/\x.2.2.1=w'/\SZ (m+x.2.2.2.1.length) x.2.1/\x.2.2.2.1.length<=60/\(∀e∈x.2.2.2.1,UT e)/\RB4 x.2.2.2.1.length x.2.2.2.2) ?_ ?_
 .refine ar (ZC s D w' hw d i1.p r ⟨by omega,by omega,by omega,by omega⟩) λy hy=>?_
  obtain⟨ev,tp',r'⟩:=y;obtain⟨j1,j2,j3,A,q⟩:=hy;dsimp only at j1 j2 j3 A q;subst j2;have j3:=j3 ht;refine cK (lK rfl (cK (lK rfl (cK (lK rfl (cK (lK rfl (Aa ?_))))))));refine ar (zG w' s D.nb hwc ev (.inl (by omega)) (.inl (by omega))) λz hz=>?_
  refine cX (λ_=>ai ⟨j1,j3,rfl,D,i4,i5,i6⟩) λh2=>?_
  obtain⟨z1,z2⟩:=z;obtain⟨hE,hS,_⟩:=hz.1 h2;have hS2:=D.step hS (by omega);refine aX (λx=>x.1=tp'/\x.2.2.1=w'/\x.2.2.2.1=out/\UT x.2.2.2.2.1/\x.2.2.2.2.2.1=z1/\RB4 (out.length+1) x.2.2.2.2.2.2) ?_ ?_
  .refine aX (λx=>x.2=(tp',s,w',out,ev,z1,r')) ?_ ?_
   .refine aE (λ_=>ai rfl) λ_=>ai rfl
   .rintro⟨b,x⟩ e;dsimp only at e;subst e;have hk:=D.k;obtain⟨ev1,ev2⟩:=ev;have t0:=hE.t0;have t1:=hE.t1;rw[hwt]at t1;dsimp only at t0 t1;refine aK (λ_=>?_) λ_=>ai ⟨rfl,rfl,rfl,⟨A,q⟩,rfl,⟨by dsimp only;omega,by dsimp only;omega,by dsimp only;omega,by dsimp only;omega⟩⟩
    refine aE (λ_=>?_) λ_=>aE (λ_=>?_) λ_=>aE (λ_=>?_) λ_=>aE (λ_=>?_) λ_=>?_
    .exact aH (by decide) (by dsimp only;omega) (aW (aZ (by simp;omega) (by omega) (ai ⟨rfl,rfl,rfl,⟨A,q⟩,rfl,⟨by simp;omega,by dsimp only;omega,by dsimp only;omega,by dsimp only;omega⟩⟩)))
    .exact aH (by decide) (by dsimp only;omega) (aW (aZ (by simp;omega) (by omega) (ai ⟨rfl,rfl,rfl,⟨A,q⟩,rfl,⟨by dsimp only;omega,by simp;omega,by dsimp only;omega,by dsimp only;omega⟩⟩)))
    .exact aH (by decide) (by dsimp only;omega) (aW (aZ (by simp;omega) (by omega) (ai ⟨rfl,rfl,rfl,⟨A,q⟩,rfl,⟨by dsimp only;omega,by dsimp only;omega,by simp;omega,by dsimp only;omega⟩⟩)))
    .exact aH (by decide) (by dsimp only;omega) (aW (aZ (by simp;omega) (by omega) (ai ⟨rfl,rfl,rfl,⟨A,q⟩,rfl,⟨by dsimp only;omega,by dsimp only;omega,by dsimp only;omega,by simp;omega⟩⟩)))
    .dsimp only at *;omega
  .rintro⟨x1,x2,x3,x4,x5,x6,x7⟩ ⟨k1,k2,k3,L,I,F⟩;dsimp only at k1 k2 k3 L I F;subst k1;subst k2;subst k3;subst I;refine aZ (by simp;omega) (by omega) (ai ⟨j1,j3,rfl,?_,by simp;omega,λe he=>?_,?_⟩)
   .dsimp only;rw[b6,cS,<-v_];exact hS2
   .rcases bN.1 he with he|he
    .exact i5 e he
    .rw[aJ]at he;subst he;exact L
   .dsimp only;rw[b6,cS];exact F
 rintro⟨tp',s',w'',out',r'⟩ ⟨k1,k2,k3,L,I,F,k7⟩;dsimp only at k1 k2 k3 L I F k7;have e1:=i1.e;have a1:=k1.p.a1;have e2:=k1.e;refine ai ⟨⟨i1.trans k1,k3,L,I,F,k7⟩,?_⟩;dsimp only;rw[e2,e1]at a1;omega
structure W0 (w:WT):Prop where
 c:w.1.length=5
 l:w.2.1.length=3
 d:w.2.2.1.length=1
 f:w.2.2.2.1.length=1
 t:w.2.2.2.2.1.length=4
 s:w.2.2.2.2.2.length<=24
theorem W0.vl {w:WT} (h:W0 w):VL w:=⟨by rw[h.c];decide,by rw[h.l];decide,by rw[h.d];decide,by rw[h.f];decide,by rw[h.t];decide,by rw[h.t];decide,by have:=h.s;omega⟩
theorem RL:Ok (nD ()) W0:=by
 unfold nD aV ba bk bO dx bx bo cI aB cu;refine cg 4 (λi x=>x.1=(i:Int)/\x.2.1.length=5/\x.2.2.1.length=3/\x.2.2.2.1.length=1/\x.2.2.2.2.1.length=1/\x.2.2.2.2.2.1.length=4/\x.2.2.2.2.2.2.length<=6*i) ?_ ?_ ⟨rfl,rfl,rfl,rfl,rfl,rfl,by simp⟩
 .rintro i ⟨a,w1,w2,w3,w4,w5,w6⟩ hi ⟨e1,e2,e3,s,q,d,I⟩;dsimp only at e1 e2 e3 s q d I;subst e1;refine aR (λ_=>?_) λg=>(by dsimp only[aj]at g;simp at g;omega)
  refine cg 6 (λj x=>x.1=(j:Int)/\x.2.1=w1/\x.2.2.1=w2/\x.2.2.2.1=w3/\x.2.2.2.2.1=w4/\x.2.2.2.2.2.1=w5/\x.2.2.2.2.2.2.length<=6*i+j) ?_ ?_ ⟨rfl,rfl,rfl,rfl,rfl,rfl,by dsimp only;omega⟩
  .rintro j ⟨b,v1,v2,v3,v4,v5,v6⟩ hj ⟨d1,d2,F,D,A,z,L⟩;dsimp only at d1 d2 F D A z L;subst d1;refine aR (λ_=>?_) λg=>(by dsimp only at g;omega)
   refine aZ (by simp;omega) (by omega) (ai ?_);dsimp only;exact⟨fx (by omega),d2,F,D,A,z,by simp;omega⟩
  .rintro⟨b,v1,v2,v3,v4,v5,v6⟩ ⟨d1,d2,F,D,A,z,L⟩;dsimp only at d1 d2 F D A z L;subst d1;subst d2;subst F;subst D;subst A;subst z;refine aR (λg=>(by dsimp only at g;omega)) λ_=>ai ?_
   dsimp only;exact⟨fx (by omega),e2,e3,s,q,d,by omega⟩
 .rintro⟨a,w1,w2,w3,w4,w5,w6⟩ ⟨e1,e2,e3,s,q,d,I⟩;dsimp only at e1 e2 e3 s q d I;subst e1;refine aR (λg=>(by dsimp only[aj]at g;simp at g)) λ_=>ai ?_
  exact⟨e2,e3,s,q,d,by omega⟩
theorem SZ.mono {n m:Nat} {s:SN} (h:SZ n s) (hnm:n<=m) (hm:m<=100000):SZ m s:=
 ⟨⟨⟨hm,h.nb.sb.lk,λl hl=>c6 (h.nb.sb.rd l hl) hnm,h.nb.sb.dn,h.nb.sb.th⟩,h.nb.c,h.nb.f,h.nb.k⟩,h.c,h.f,h.k⟩
theorem UJ (w:WT) (d:W0 w):Ok (mV w) λs=>SZ 0 s:=by
 refine (UK w d.vl).mono λs hs=>⟨hs.1,?_,?_,?_⟩
 .rw[hs.2.1,d.c]
 .rw[hs.2.2.1,d.f]
 .rw[hs.2.2.2,d.t]
structure WB (w:WT):Prop where
 c:w.1.length<=12
 l:w.2.1.length<=4
 d:w.2.2.1.length<=2
 f:w.2.2.2.1.length<=2
 t:w.2.2.2.2.1.length<=4
 s:w.2.2.2.2.2.length<=60
theorem VL.wb {w:WT} (h:VL w):WB w:=⟨h.c,h.l,h.d,h.f,h.t,h.s⟩
structure TR (y:WT×List ET):Prop where
 len:y.2.length<=100000
 ls:∀e∈y.2,UT e
theorem HA (L:η) (n:Int) (hl:L.length<=9223372036854775807) (hb:∀x∈L,0<=x/\x<=255):Ok (qd (L,n)) TR:=by
 unfold qd aV ba bk cC ci bx jk ir bo j7 aY cI aB cu;refine aX (λx=>x.length<=600/\∀z∈x,0<=z/\z<=255) ?_ ?_
 .refine aR (λg=>?_) λg=>?_
  .dsimp only[aj]at g;refine cK (cY (by omega) (cY (by dsimp only;omega) (ai ⟨by dsimp only;rw[b7];simp;omega,λz q=>hb z (eV q)⟩)))
  .dsimp only[aj]at g;exact ai ⟨by dsimp only;omega,hb⟩
 rintro L' ⟨hL,hB⟩;refine ar RL λw D=>?_
 have hvl:=D.vl;refine ar (UJ w D) λs hs=>?_
 refine ar (gj 3 (L',0) ⟨by dsimp only;omega,hB,by dsimp only;omega,by dsimp only;omega⟩) λy hy=>?_
 obtain⟨y1,yt⟩:=y;obtain⟨ty,yy0,yy1,_⟩:=hy;have yy1:=yy1 (by decide);dsimp only at ty yy0 yy1;have ew:a9 .i64 (1+y1)=1+y1:=gJ (by omega) (by omega);refine my (λx=>(1+y1+1-x.1).toNat) (λx=>1<=x.1/\x.1<=2+y1/\x.2.1=yt/\x.2.2.1=w/\x.2.2.2.1=s/\((x.2.2.2.2.length:Nat):Int)<=2*x.1/\∀e∈x.2.2.2.2,UT e) ?_ ⟨by dsimp only;omega,by dsimp only;omega,rfl,rfl,rfl,by simp,λe he=>?_⟩
 .rintro⟨a,t,w',s',es⟩ ⟨e1,e2,e3,e4,e5,e6,e7⟩;dsimp only at e1 e2 e3 e4 e5 e6 e7;subst e3;subst e4;subst e5;refine dX (λg=>?_) λg=>?_
  .dsimp only at g;rw[ew]at g;refine aZ (by simp;omega) (by omega) (ai ?_);dsimp only;rw[gJ (n:=a+1) (by omega) (by omega)];refine ⟨⟨by omega,by omega,rfl,rfl,rfl,by simp;omega,λe he=>?_⟩,by omega⟩;rcases bN.1 he with he|he
   .exact e7 e he
   .simp only[bu,cE,gH]at he;rcases he with he|he<;>subst he<;>exact⟨by simp,by simp⟩
  .refine ar (P:=TR) ?_ λr hr=>ai hr
   refine cg es.length (λi x=>x.1=(i:Int)/\TP x.2.1/\x.2.2.1=w'/\SZ i x.2.2.2.1/\x.2.2.2.2.1=es/\x.2.2.2.2.2.length<=i/\∀e∈x.2.2.2.2.2,UT e) ?_ ?_ ⟨rfl,ty.p,rfl,hs,rfl,by simp,λe he=>(by cases he)⟩
   .rintro i ⟨b,t,w',s',es',out⟩ hi ⟨d1,d2,d3,A,I,d6,F⟩;dsimp only at d1 d2 d3 A I d6 F;subst d1;subst d3;subst I;refine aR (λ_=>?_) λg=>(by dsimp only[aj]at g;omega)
    refine aX (λx=>TP x.1/\x.2.1=w'/\SZ (i+1) x.2.2.1/\x.2.2.2.1=es'/\x.2.2.2.2.length<=i+1/\∀e∈x.2.2.2.2,UT e) ?_ ?_
    .refine aH (by dsimp only;omega) (by dsimp only;omega) (aH (by dsimp only;omega) (by dsimp only;omega) (aW ?_));have q:=e7 _ (bH (T:=.st (.pr (.int .i64) (.pr (.int .i64) (.pr (.int .i64) (.pr (.int .i64) (.pr (.int .i64) (.pr (.sl (.int .i64)) (.sl (.int .i64))))))))) (xs:=es') (j:=(i:Int)) (by omega) (by omega));revert q;generalize (aG _ _)=z;intro q;refine ar (zG w' s' A.nb (by rw[D.d];decide) z (.inl (by have:=q.1;omega)) (.inl (by have:=q.2;omega))) λv hv=>?_
     refine aK (λh=>?_) λh=>ai ⟨d2,rfl,A.mono (by omega) (by omega),rfl,by dsimp only;omega,F⟩
     refine aZ (by simp;omega) (by omega) (ai ⟨d2,rfl,A.step (hv.1 h).2.1 (by omega),rfl,by simp;omega,λe he=>?_⟩);rcases bN.1 he with he|he
     .exact F e he
     .rw[aJ]at he;subst he;exact q
    .rintro⟨t,w'',s'',es'',out'⟩ ⟨f1,f2,f3,f4,f5,f6⟩;dsimp only at f1 f2 f3 f4 f5 f6;refine ai ?_;dsimp only;exact⟨fx (by omega),f1,f2,f3,f4,f5,f6⟩
   .rintro⟨b,t,w',s',es',out⟩ ⟨d1,d2,d3,A,I,d6,F⟩;dsimp only at d1 d2 d3 A I d6 F;subst d1;subst d3;subst I;refine aR (λg=>(by dsimp only[aj]at g;omega)) λ_=>?_
    refine ar (P:=TR) ?_ λr hr=>ai hr
    have hmin:F4 (lq n 0) 60<=60:=by
     unfold F4;split
     .omega
     .rename_i h;simp[fK]at h;exact h
    refine ar (abq (by omega) s' A w' D.c D.t (by rw[D.d];decide) _ hmin t d2) λv hv=>?_
    refine aZ (by have:=hv.2;dsimp only;omega) (by omega) ?_;have hall:∀e∈out++v.1,UT e:=λe he=>by
     rcases bN.1 he with he|he
     .exact F e he
     .exact hv.1 e he
    refine ar (aar w' (out++v.1)) λc hc=>?_
    refine bV (λ_=>?_) λh=>?_
    .exact ar RL λu _=>ai ⟨by simp,λe he=>(by cases he)⟩
    .exact ai ⟨by have:=hv.2;simp;omega,hall⟩
 .rw[aJ]at he;subst he;exact⟨by simp,by simp⟩
abbrev IT:Type:=ω
abbrev CT:Type:=WT×Y (Int×Y IT)
theorem B7 (a b:Int):jm (a,b)=Z (decide (0<=a/\a<b)):=by
 refine bY ?_;unfold jm jk aB;with_reducible repeat' first|(refine OS.ok ?_;constructor)|refine IM.mk λ_=>?_
 .by_cases h:a<b<;>simp[*,fK]
 .simp;omega
theorem MR (k:Int):pG k=Z (decide (1<=k/\k<=5)):=by
 refine bY ?_;unfold pG jk aB;with_reducible repeat' first|(refine OS.ok ?_;constructor)|refine IM.mk λ_=>?_
 .by_cases h:k<=5<;>simp[*,cP]
 .simp;omega
def sP (i:IT):η:=
 if i.1=1\/i.1=6\/i.1=10\/i.1=27 then [i.2.1]
 else if i.1=2\/i.1=3 then [i.2.1,i.2.2.1]
 else if i.1=4 then [i.2.1,i.2.2.1,i.2.2.2.1]
 else if i.1=7 then [i.2.1,i.2.2.2.1]
 else if i.1=8\/i.1=26 then [i.2.2.1]
 else if i.1=9 then [i.2.2.1,i.2.2.2.1]
 else []
theorem xa (i:IT):jG i=Z (sP i):=by
 obtain⟨d,i2⟩:=i;unfold jG sP aV ba bk bf aB;by_cases h1:d=1
 .subst h1;rfl
 by_cases h2:d=6
 .subst h2;rfl
 by_cases h3:d=10
 .subst h3;rfl
 by_cases L:d=27
 .subst L;rfl
 by_cases I:d=2
 .subst I;rfl
 by_cases F:d=3
 .subst F;rfl
 by_cases D:d=4
 .subst D;rfl
 by_cases A:d=7
 .subst A;rfl
 by_cases z:d=8
 .subst z;rfl
 by_cases s:d=26
 .subst s;rfl
 by_cases q:d=9
 .subst q;rfl
 simp only[h1,h2,h3,L,I,F,D,A,z,s,q,c9,Z1,jnr,gH,du]
theorem HC (z:IT):(sP z).length<=3:=by
 unfold sP
 (repeat' split)<;>simp
theorem Y9 (l:Y IT) (a:Int) (hl:l.length<=1000000):Ok (tC (l,a)) λ_=>True:=by
 unfold tC bf bx jk bG aY cI aB cu;refine my (λx=>((l.length:Int)+1-x.2).toNat) (λx=>0<=x.2/\x.2<=(l.length:Int)+1) ?_ ⟨by dsimp only;omega,by dsimp only;omega⟩;rintro⟨(a:Int),(n:Int)⟩ ⟨h0,h1⟩;dsimp only at h0 h1;refine dX (λg=>?_) λ_=>ai trivial
 dsimp only[aj]at g;refine aX (λ_=>True) ?_ λb _=>ai ?_
 .refine aX (λb=>b=aa->0<=a/\a<(l.length:Int)) ?_ ?_
  .refine aR (λ_=>ai λh=>(by cases h)) λd=>ai λh=>?_
   rw[ko]at h;dsimp only[aj]at h d;exact⟨d,h⟩
  .intro b hb;refine aK (λ_=>ai trivial) λh=>?_
   obtain⟨q0,q1⟩:=hb h;refine aH q0 (by dsimp only;omega) (aW ?_);refine aQ (MR _) ?_;refine cX (λ_=>ai trivial) λ_=>?_
   refine aH q0 (by dsimp only;omega) (aW ?_);refine aE (λ_=>?_) λ_=>ai trivial
   exact aH q0 (by dsimp only;omega) (aW (ai trivial))
 .dsimp only;rw[gJ (by omega) (by omega)];exact⟨⟨by omega,by omega⟩,by omega⟩
theorem RF (w:WT) (b n:Int):Ok (qU (w,b,n)) λ_=>True:=by
 unfold qU bf ir bG aY aB;refine aX (λ_=>True) ?_ λ_ _=>ai trivial
 refine aQ (B7 _ _) ?_;refine aE (λh=>?_) λ_=>ai trivial
 dsimp only[aj]at h;with_reducible repeat' first|(refine OS.ok ?_;constructor)|refine IM.mk λ_=>?_
 all_goals try simp only[aj,oq] at*
 all_goals first|omega|trivial
theorem S1 (w:WT) (i:IT):Ok (qg (w,i)) λ_=>True:=by
 unfold qg aV ba bk bO cU bf jk bG aY aB;simp only[B7,Si];refine aE (λ_=>?_) λ_=>?_
 .refine aX (λ_=>True) ?_ λ_ _=>ai trivial
  refine aE (λh=>?_) λ_=>ai trivial
  exact aH h.1 h.2 (aW (ai trivial))
 refine aE (λ_=>?_) λ_=>?_
 .refine aX (λ_=>True) ?_ λ_ _=>ai trivial
  refine aE (λh=>?_) λ_=>ai trivial
  exact aH h.1 h.2 (aW (ai trivial))
 refine aE (λ_=>?_) λ_=>?_
 .exact ar (RF _ _ _) λ_ _=>ai trivial
 refine aE (λ_=>?_) λ_=>?_
 .exact ar (RF _ _ _) λ_ _=>ai trivial
 refine aX (λx=>x.2=(w,i)) (aE (λ_=>ai rfl) λ_=>ai rfl) ?_;rintro⟨b,x⟩ e;dsimp only at e;subst e;refine aK (λ_=>?_) λ_=>?_
 .refine aX (λ_=>True) ?_ λ_ _=>ai trivial
  refine aE (λh=>?_) λ_=>ai trivial
  exact aH h.1 h.2 (aW (ai trivial))
 refine aX (λx=>x.2=(w,i)) (aE (λ_=>ai rfl) λ_=>aE (λ_=>ai rfl) λ_=>aE (λ_=>ai rfl) λ_=>ai rfl) ?_;rintro⟨b,x⟩ e;dsimp only at e;subst e;refine aK (λ_=>?_) λ_=>?_
 .refine aX (λ_=>True) ?_ λ_ _=>ai trivial
  refine aE (λh=>?_) λ_=>ai trivial
  exact aH h.1 h.2 (aW (ai trivial))
 refine aX (λx=>x.2=(w,i)) (aE (λ_=>ai rfl) λ_=>aE (λ_=>ai rfl) λ_=>ai rfl) ?_;rintro⟨b,x⟩ e;dsimp only at e;subst e;refine aK (λ_=>ai trivial) λ_=>?_
 refine aX (λx=>x.2=(w,i)) (aE (λ_=>ai rfl) λ_=>ai rfl) ?_;rintro⟨b,x⟩ e;dsimp only at e;subst e;with_reducible repeat' first|(refine OS.ok ?_;constructor)|refine IM.mk λ_=>?_
 all_goals trivial
structure VI (n:Int) (i:IT):Prop where
 o1:1<=i.1
 o2:i.1<=28
 r:∀j∈sP i,0<=j/\j<n
structure VT (t:Int×List IT):Prop where
 r0:0<=t.1
 r1:t.1<=32
 i:∀i∈t.2,VI t.1 i
theorem Hu (w:WT) (k:Int) (c:Int×Y IT) (hc:c.2.length<=1000000):Ok (kY (w,k,c)) λb=>b=M->VT c:=by
 unfold kY aV ba bk bO bn ci lB bf bx ir bG aY cI aB cu;refine aX (λx=>x.2=(w,c)/\(x.1=aa->0<=c.1/\c.1<=32)) ?_ ?_
 .refine aR (λ_=>ai ⟨rfl,λh=>(by cases h)⟩) λh0=>aR (λ_=>ai ⟨rfl,λh=>(by cases h)⟩) λh1=>ai ⟨rfl,λ_=>⟨h0,h1⟩⟩
 rintro⟨b,x⟩ ⟨e,hb⟩;dsimp only at e hb;subst e;refine aK (λ_=>ai λh=>(by cases h)) λh=>?_
 obtain⟨r0,r1⟩:=hb h;refine cg c.2.length (λi x=>x.1=(i:Int)/\x.2=(w,c)/\∀k:Nat,k<i->VI c.1 (aG (T:=.st (.pr (.int .i64) (.pr (.int .i64) (.pr (.int .i64) (.pr (.int .i64) (.pr (.int .i64) (.int .i64))))))) c.2 (k:Int))) ?_ ?_ ⟨rfl,rfl,λk hk=>by omega⟩
 .rintro i ⟨a,x⟩ hi ⟨e1,e2,e3⟩;dsimp only at e1 e2 e3;subst e1;subst e2;refine aR (λ_=>?_) λg=>(by dsimp only[aj]at g;omega)
  refine aH (by dsimp only;omega) (by dsimp only;omega) (aW ?_);generalize s:(aG _ _)=z;refine aX (λx=>x.2=(w,c,z)/\(x.1=aa->1<=z.1/\z.1<=28)) ?_ ?_
  .refine aR (λ_=>ai ⟨rfl,λh=>(by cases h)⟩) λh0=>aR (λ_=>ai ⟨rfl,λh=>(by cases h)⟩) λh1=>?_
   refine aK (λ_=>ai ⟨rfl,λh=>(by cases h)⟩) λ_=>?_
   refine ar (S1 w z) λy _=>?_
   refine cX (λ_=>ai ⟨rfl,λh=>(by cases h)⟩) λ_=>?_
   exact ar (Y9 c.2 _ hc) λy _=>ai ⟨rfl,λ_=>⟨h0,h1⟩⟩
  rintro⟨b,x⟩ ⟨e,hb⟩;dsimp only at e hb;subst e;refine aK (λ_=>ai λh=>(by cases h)) λh=>?_
  obtain⟨o1,o2⟩:=hb h;refine aX (λx=>x.2=(w,c,z)) ?_ ?_
  .simp only[B7,Si];have key:∀(f:ν->Bool),Ok (aF (!decide (0<=z.2.2.2.2.2/\z.2.2.2.2.2<aU w.2.2.2.2.2.length)) (Z (bZ (M,w,c,z)):J (Bool⊕(Bool×WT×(Int×Y IT)×IT))) (chk (e9 z.2.2.2.2.2 w.2.2.2.2.2.length) λ_=>lt (aG (T:=.st (.pr (.int .i64) (.pr (.int .i64) (.int .i64)))) w.2.2.2.2.2 z.2.2.2.2.2).1 λq=>Z (bZ (!decide ((q:Int)=k),w,c,z)))) (λr=>match r with|.inl r=>(match (r:Bool) with|_=>True)|.inr x=>x.2=(w,c,z)):=λf=>by
    refine bV (λ_=>ai rfl) λh=>?_
    exact aH h.1 h.2 (aW (ai rfl))
   with_reducible repeat' first|(refine OS.ok ?_;constructor)|refine IM.mk λ_=>?_
   all_goals first|rfl|(simp only[aj]at *;omega)|skip
  rintro⟨b,x⟩ e;dsimp only at e;subst e;refine aK (λ_=>ai λh=>(by cases h)) λ_=>?_
  refine aX (λx=>x.2=(w,c,z)) ?_ ?_
  .simp only[B7,Si];with_reducible repeat' first|(refine OS.ok ?_;constructor)|refine IM.mk λ_=>?_
   all_goals rfl
  rintro⟨b,x⟩ e;dsimp only at e;subst e;refine aK (λ_=>ai λh=>(by cases h)) λ_=>?_
  refine aQ (xa z) ?_;refine cg (sP z).length (λj x=>x.1=(j:Int)/\x.2=(w,c)/\∀k:Nat,k<j->0<=aG (T:=.int .i64) (sP z) (k:Int)/\aG (T:=.int .i64) (sP z) (k:Int)<c.1) ?_ ?_ ⟨rfl,rfl,λk hk=>by omega⟩
  .rintro j ⟨a,x⟩ hj ⟨d1,d2,d⟩;dsimp only at d1 d2 d;subst d1;subst d2;refine aR (λ_=>?_) λg=>(by dsimp only[aj]at g;omega)
   refine aH (by dsimp only;omega) (by dsimp only;omega) (aW ?_);refine aQ (B7 _ _) ?_;refine bV (λ_=>ai λh=>(by cases h)) λh=>ai ?_
   dsimp only at h ⊢;have hj32:(sP z).length<=3:=HC z;refine ⟨fx (by omega),rfl,λk hk=>?_⟩;rcases bM k j with h1|h1
   .exact d k h1
   .rw[show k=j by omega];exact h
  .rintro⟨a,x⟩ ⟨d1,d2,d⟩;dsimp only at d1 d2 d;subst d1;subst d2;refine aR (λg=>(by dsimp only[aj]at g;omega)) λ_=>ai ?_
   dsimp only;refine ⟨fx (by omega),rfl,λk hk=>?_⟩;rcases bM k i with h1|h1
   .exact e3 k h1
   .rw[show k=i by omega,s];exact⟨o1,o2,il (T:=.int .i64) d⟩
 .rintro⟨a,x⟩ ⟨e1,e2,e3⟩;dsimp only at e1 e2 e3;subst e1;subst e2;refine aR (λg=>(by dsimp only[aj]at g;omega)) λ_=>ai λ_=>⟨r0,r1,il (T:=.st (.pr (.int .i64) (.pr (.int .i64) (.pr (.int .i64) (.pr (.int .i64) (.pr (.int .i64) (.int .i64))))))) (p:=VI c.1) e3⟩
structure VC (c:CT):Prop where
 vl:VL c.1
 tl:c.2.length=c.1.2.2.2.2.1.length
 t:∀t∈c.2,VT t
structure CB (c:CT):Prop where
 th:c.2.length<=1000000
 ins:∀t∈c.2,t.2.length<=1000000
theorem J3 (c:CT) (hb:CB c):Ok (pt c) λb=>b=M->VC c:=by
 obtain⟨w,l⟩:=c;obtain⟨h1,h2⟩:=hb;dsimp only at h1 h2;unfold pt bk bx bG aY cI aB cu;refine aX (λx=>x.2=(w,l)/\(x.1=aa->VL w/\l.length=w.2.2.2.2.1.length)) ?_ ?_
 .refine ar (Aw w) λb hb=>?_
  refine cX (λ_=>ai ⟨rfl,λh=>(by cases h)⟩) λh=>ai ⟨rfl,λs=>⟨(hb h).1,?_⟩⟩
  simp at s;omega
 rintro⟨b,x⟩ ⟨e,d⟩;dsimp only at e d;subst e;refine aK (λ_=>ai λh=>(by cases h)) λh=>?_
 obtain⟨hv,hl⟩:=d h;refine cg l.length (λi x=>x.1=(i:Int)/\x.2=(w,l)/\∀k:Nat,k<i->VT (aG (T:=G4) l (k:Int))) ?_ ?_ ⟨rfl,rfl,λk hk=>by omega⟩
 .rintro i ⟨a,x⟩ hi ⟨e1,e2,e3⟩;dsimp only at e1 e2 e3;subst e1;subst e2;refine aR (λ_=>?_) λg=>(by dsimp only[aj]at g;omega)
  refine aH (by dsimp only;omega) (by dsimp only;omega) (aW ?_);have hm:=bH (T:=G4) (xs:=l) (j:=(i:Int)) (by omega) (by omega);revert hm;generalize q:(aG (T:=G4) l (i:Int))=z;intro hm;refine ar (Hu w _ z (h2 z hm)) λb hb=>?_
  refine cX (λ_=>ai λh=>(by cases h)) λh=>ai ?_
  dsimp only;refine ⟨fx (by omega),rfl,λk hk=>?_⟩;rcases bM k i with h1|h1
  .exact e3 k h1
  .rw[show k=i by omega,q];exact hb h
 .rintro⟨a,x⟩ ⟨e1,e2,e3⟩;dsimp only at e1 e2 e3;subst e1;subst e2;refine aR (λg=>(by dsimp only[aj]at g;omega)) λ_=>ai λ_=>⟨hv,hl,il (T:=G4) (p:=VT) e3⟩
abbrev TT:Type:=Int×η×Y η×Int
structure TL (E:Nat) (l:η):Prop where
 a:xR l
 m:∀y∈l,0<=y/\y<(E:Int)
theorem TL.len {E:Nat} {l:η} (h:TL E l):l.length<=E:=by
 have:=Hm l 0 E h.a h.m;omega
theorem TL.nil (E:Nat):TL E []:=⟨trivial,λy d=>(by cases d)⟩
theorem TL.uni {E:Nat} {a b:η} (q:TL E a) (hb:TL E b):TL E (qI a b):=
 ⟨O2 a b,λy d=>by
   rcases O1.1 d with h|h
   .exact q.m y h
   .exact hb.m y h⟩
theorem TL.mono {E F:Nat} {l:η} (h:TL E l) (hf:E<=F):TL F l:=⟨h.a,λy d=>⟨(h.m y d).1,by have:=(h.m y d).2;omega⟩⟩
structure TH (E:Nat) (s:TT):Prop where
 r:s.2.1.length<=32
 t:s.2.2.1.length<=32
 l:∀l∈s.2.2.1,TL E l
 e0:0<=s.2.2.2
 e1:s.2.2.2<=(E:Int)
theorem TH.zero (E:Nat):TH E (0,[],[],0):=⟨by simp,by simp,λl hl=>(by cases hl),by simp,by simp⟩
theorem TH.mono {E F:Nat} {s:TT} (h:TH E s) (hf:E<=F):TH F s:=⟨h.r,h.t,λl hl=>(h.l l hl).mono hf,h.e0,by have:=h.e1;omega⟩
theorem c_ (s:TT) (E:Nat) (F:E<=100000) (h:TH E s):ch s=Z ((s.1,s.2.2.2),s.2.1,s.2.2.1):=by
 obtain⟨h1,h2,D,L,I⟩:=h;refine bY ?_;unfold ch aV ba bk bn ci bx bo bG aY cI aB cu;refine aZ (by simp;omega) (by omega) ?_;refine cg s.2.2.1.length (λi x=>x.1=(i:Int)/\x.2.1=s/\x.2.2.2.1=(s.1,s.2.2.2)/\x.2.2.2.2.1=s.2.1/\x.2.2.2.2.2=s.2.2.1.take i) ?_ ?_ ⟨rfl,rfl,rfl,rfl,rfl⟩
 .rintro i ⟨a,b,c,d,e,f⟩ hi ⟨e1,e2,e3,z,q⟩;dsimp only at e1 e2 e3 z q;subst e1;subst e2;subst q;refine aR (λ_=>?_) λg=>(by dsimp only[aj]at g;omega)
  refine aH (by dsimp only;omega) (by dsimp only;omega) (aW ?_);have A:=(D _ (bH (T:=.sl (.int .i64)) (xs:=b.2.2.1) (j:=(i:Int)) (by omega) (by omega))).len;refine aZ (by simp only[jX,bL];exact c6 A (by omega)) (by omega) ?_;refine aZ (by simp;omega) (by omega) (ai ?_);dsimp only;refine ⟨fx (by omega),rfl,e3,z,?_⟩;rw[pX (T:=.sl (.int .i64)) hi];rfl
 .rintro⟨a,b,c,d,e,f⟩ ⟨e1,e2,e3,z,q⟩;dsimp only at e1 e2 e3 z q;subst e1;subst e2;subst q;refine aR (λg=>(by dsimp only[aj]at g;omega)) λ_=>ai ?_
  show (d,e,_)=_;rw[e3,z,bS]
theorem vi (b:Bool):Ok (fG b) λ_=>True:=by
 unfold fG;with_reducible repeat' first|(refine OS.ok ?_;constructor)|refine IM.mk λ_=>?_
 all_goals trivial
theorem ES (n:Int):Ok (mj n) λ_=>True:=by
 unfold mj bx aB;with_reducible repeat' first|(refine OS.ok ?_;constructor)|refine IM.mk λ_=>?_
 all_goals trivial
theorem aa2 (x:Γ):Ok (tG x) λ_=>True:=by
 unfold tG bf;refine aE (λ_=>ai trivial) λ_=>aE (λ_=>?_) λ_=>ai trivial
 exact ar (vi _) λ_ _=>ai trivial
theorem X' (x:ν):Ok (rX x) λ_=>True:=by
 unfold rX bf ir bo aB;have t1:∀b,Ok (av (fG b) λy=>Z (y,M)) λ_=>True:=λb=>ar (vi _) λ_ _=>ai trivial
 refine aE (λ_=>ai trivial) λ_=>aE (λ_=>ai trivial) λ_=>aE (λ_=>ai trivial) λ_=>?_
 refine aE (λ_=>aE (λ_=>ai trivial) λh=>vn h (ai trivial)) λ_=>?_
 refine aE (λ_=>aE (λ_=>ai trivial) λh=>vn h (ai trivial)) λ_=>?_
 refine aE (λ_=>t1 _) λ_=>aE (λ_=>t1 _) λ_=>aE (λ_=>t1 _) λ_=>aE (λ_=>t1 _) λ_=>aE (λ_=>t1 _) λ_=>aE (λ_=>t1 _) λ_=>?_
 refine aE (λ_=>aX (λ_=>True) (bV (λ_=>ar (vi _) λ_ _=>ai trivial) λ_=>ar (vi _) λ_ _=>ai trivial) λ_ _=>ai trivial) λ_=>?_
 exact aE (λ_=>aX (λ_=>True) (bV (λ_=>ar (vi _) λ_ _=>ai trivial) λ_=>ar (vi _) λ_ _=>ai trivial) λ_ _=>ai trivial) λ_=>ai trivial
theorem Wg (E:Nat) (hE:E<=100000) (i:IT) (p:Γ) (R:η) (T:Y η) (hr:∀j∈sP i,0<=j/\j<(R.length:Int)) (o1:1<=i.1) (o2:i.1<=5) (hR:R.length<=32) (q:T.length=R.length) (hl:∀l∈T,TL E l):Ok (vr ((i,p),R,T)) λy=>y.1.1.2=p.2/\y.2.1.length=R.length/\y.2.2.length=T.length/\∀l∈y.2.2,TL E l:=by
 unfold vr aV ba bk ck bf bx bo bG j7 aY cI aB cu;refine aQ (xa i) ?_;have h3:=HC i;refine cg (sP i).length (λj x=>x.1=(j:Int)/\x.2.1=R/\x.2.2.1=T/\x.2.2.2.1=i/\x.2.2.2.2.1=p) ?_ ?_ ⟨rfl,rfl,rfl,rfl,rfl⟩
 .rintro j ⟨a,b,c,d,e⟩ hj ⟨e1,e2,e3,F,z⟩;dsimp only at e1 e2 e3 F z;subst e1;subst e2;subst e3;subst F;refine aR (λ_=>?_) λg=>(by dsimp only[aj]at g;omega)
  have hz:=hr _ (bH (T:=.int .i64) (xs:=sP d) (j:=(j:Int)) (by omega) (by omega));refine aX (λx=>x.2=(b,c,d,e)/\x.1=aa) ?_ ?_
  .refine aH (by dsimp only;omega) (by dsimp only;omega) (aW ?_);refine aR (λg=>?_) λ_=>?_
   .dsimp only at g;omega
   refine aH (by dsimp only;omega) (by dsimp only;omega) (aW (ai ⟨rfl,?_⟩));dsimp only;rw[ko];exact hz.2
  rintro⟨b',x⟩ ⟨D,A⟩;dsimp only at D A;subst D;subst A;refine aK (λh=>(by cases h)) λ_=>ai ?_
  dsimp only;exact⟨fx (by omega),rfl,rfl,rfl,z⟩
 .rintro⟨a,b,c,d,e⟩ ⟨e1,e2,e3,F,z⟩;dsimp only at e1 e2 e3 F z;subst e1;subst e2;subst e3;subst F;refine aR (λg=>(by dsimp only[aj]at g;omega)) λ_=>?_
  obtain⟨e,e'⟩:=e;dsimp only at z;subst z;refine ar (P:=λy=>y.1.1.2=e.2/\y.2.1.length=b.length/\y.2.2.length=c.length/\∀l∈y.2.2,TL E l) ?_ λr hr=>ai hr
  have hA:d.1≠5->0<=d.2.1/\d.2.1<(b.length:Int):=λh5=>hr _ (by
   unfold sP;(repeat' split)<;>simp<;>omega)
  have hB:2<=d.1->d.1≠5->0<=d.2.2.1/\d.2.2.1<(b.length:Int):=λh2 h5=>hr _ (by
   unfold sP;(repeat' split)<;>simp<;>omega)
  have hC:d.1=4->0<=d.2.2.2.1/\d.2.2.2.1<(b.length:Int):=λh5=>hr _ (by
   unfold sP;(repeat' split)<;>simp<;>omega)
  have hg:∀{j:Int},0<=j->j<(b.length:Int)->TL E (aG (T:=.sl (.int .i64)) c j):=λh0 h1=>hl _ (bH (T:=.sl (.int .i64)) (xs:=c) h0 (by rw[q];exact h1))
  refine aX (λx=>x.2.1=b/\x.2.2.1=c/\x.2.2.2.1=d/\x.2.2.2.2.1=e/\TL E x.1.2.2/\d.1≠5) ?_ ?_
  .refine aE (λ_=>ai ⟨rfl,rfl,rfl,hl⟩) λs=>?_
   refine aE (λ_=>ai ⟨rfl,rfl,rfl,rfl,TL.nil E,s⟩) λn1=>?_
   dsimp only at n1 s;obtain⟨b0,b1⟩:=hB (by omega) s;refine aE (λ_=>?_) λn2=>?_
   .refine aH b0 b1 (aH b0 b1 (aW ?_));refine aH b0 (by dsimp only;rw[q];exact b1) (aH b0 (by dsimp only;rw[q];exact b1) (aW ?_));exact ai ⟨rfl,rfl,rfl,rfl,hg b0 b1,s⟩
   refine aE (λ_=>?_) λn3=>?_
   .refine ar (ES _) λy _=>?_
    refine aH b0 b1 (aH b0 b1 (aW ?_));refine ar (aa2 _) λy _=>?_
    refine aH b0 (by dsimp only;rw[q];exact b1) (aH b0 (by dsimp only;rw[q];exact b1) (aW ?_));exact ai ⟨rfl,rfl,rfl,rfl,hg b0 b1,s⟩
   dsimp only at n2 n3;obtain⟨L,I⟩:=hC (by omega);refine ar (ES _) λy _=>?_
   refine aH b0 b1 (aH b0 b1 (aW ?_));refine aH L I (aH L I (aW ?_));refine ar (X' _) λy _=>?_
   refine aH b0 (by dsimp only;rw[q];exact b1) (aH b0 (by dsimp only;rw[q];exact b1) (aW ?_));refine aH L (by dsimp only;rw[q];exact I) (aH L (by dsimp only;rw[q];exact I) (aW ?_));have g1:=hg b0 b1;have g2:=hg L I;refine aQ (RN _ _ (c6 g1.len (by omega)) (c6 g2.len (by omega))) ?_;exact ai ⟨rfl,rfl,rfl,rfl,g1.uni g2,s⟩
  rintro⟨⟨v,ok,tn⟩,b',c',d',e',e''⟩ ⟨D,A,f3,f4,f5,f6⟩;dsimp only at D A f3 f4 f5 f6;subst D;subst A;subst f3;subst f4;obtain⟨a0,a1⟩:=hA f6;have ht:=f5.len;refine aZ (by simp;omega) (by omega) ?_;refine aH a0 a1 (aH a0 a1 (aH a0 (by dsimp only;rw[q];exact a1) (aH a0 (by dsimp only;rw[q];exact a1) (ai ?_))));refine ⟨rfl,cL ..,cL ..,λl hm=>?_⟩;rcases BG hm with h|h
  .exact hl l h
  .rw[h];exact f5
theorem XK (E:Nat) (I:E<=100000) (c:Int×Y IT) (hc:c.2.length<=1000000) (hv:VT c) (s:TT) (h:TH E s):Ok (nl (c,s)) λy=>TH E y.1:=by
 unfold nl aV ba bk bn cC ci bf bx jk ir bo bG aY cI aB cu;have q:=h;obtain⟨h1,h2,h3,h4,h5⟩:=h;refine aX (λx=>x.2.1=c/\x.2.2.1=s/\(x.1=aa->(s.2.1.length:Int)=c.1/\(s.2.2.1.length:Int)=c.1)) ?_ ?_
 .refine bV (λ_=>ai ⟨rfl,rfl,λh=>(by cases h)⟩) λg=>ai ⟨rfl,rfl,λh=>?_⟩
  simp at h;exact⟨g,h⟩
 rintro⟨b,c',s',z⟩ ⟨e1,e2,e3⟩;dsimp only at e1 e2 e3;subst e1;subst e2;refine aK (λ_=>ai (TH.zero E)) λhb=>?_
 obtain⟨q1,q2⟩:=e3 hb;refine aQ (c_ s' E I q) ?_;refine my (λx=>((c'.2.length:Int)+1-x.1).toNat) (λx=>0<=x.1/\x.1<=(c'.2.length:Int)+1/\x.2.1=c'/\x.2.2.1.2=s'.2.2.2/\x.2.2.2.2.1.length=s'.2.1.length/\x.2.2.2.2.2.length=s'.2.2.1.length/\∀l∈x.2.2.2.2.2,TL E l) ?_ ⟨by dsimp only;omega,by dsimp only;omega,rfl,rfl,rfl,rfl,h3⟩;rintro⟨(n:Int),c,⟨(d:Int),ev⟩,z',R,T⟩ ⟨n0,n1,e1,e2,e3,e4,A⟩;dsimp only at n0 n1 e1 e2 e3 e4 A;subst e1;subst e2;refine dX (λg=>?_) λ_=>ai (TH.zero E)
 dsimp only[aj]at g;refine aX (λx=>x.2=(c,(d,s'.2.2.2),z',R,T)/\(x.1=aa->0<=d/\d<(c.2.length:Int))) ?_ ?_
 .refine aR (λ_=>ai ⟨rfl,λh=>(by cases h)⟩) λL=>ai ⟨rfl,λh=>?_⟩
  dsimp only at L h;rw[ko]at h;exact⟨L,h⟩
 rintro⟨b',x⟩ ⟨f1,f2⟩;dsimp only at f1 f2;subst f1;refine aK (λ_=>ai (TH.zero E)) λhb=>?_
 obtain⟨p0,p1⟩:=f2 hb;refine aH p0 p1 (aW ?_);have hi:=hv.i _ (bH (T:=UZ) (xs:=c.2) (j:=d) p0 p1);revert hi;generalize (aG (T:=UZ) _ _)=i;intro hi;refine aQ (MR _) ?_;refine bV (λ_=>ai ⟨by dsimp only;omega,by dsimp only;omega,A,h4,h5⟩) λhsil=>?_
 refine aE (λ_=>ai (TH.zero E)) λhn=>?_
 dsimp only[aj]at hn;refine ar (Wg E I i (d,s'.2.2.2) R T (λj hj=>by have:=hi.r j hj;omega) hsil.1 hsil.2 (by omega) (by omega) A) λy hy=>?_
 obtain⟨⟨⟨pc',ev'⟩,ok⟩,R',T'⟩:=y;obtain⟨k1,k2,F,D⟩:=hy;dsimp only at k1 k2 F D;refine cK (lK F.symm (cK (lK k2.symm (Aa ?_))));refine cX (λ_=>ai (TH.zero E)) λ_=>ai ?_
 dsimp only;rw[gJ (by omega) (by omega)];exact⟨⟨by omega,by omega,rfl,k1,by omega,by omega,D⟩,by omega⟩
abbrev ST:Type:=SY×η×η×Y TT
structure TF (c:Int×List IT) (t:TT):Prop where
 p0:0<=t.1
 p1:t.1<(c.2.length:Int)
 r:(t.2.1.length:Int)=c.1
 t:(t.2.2.1.length:Int)=c.1
structure FSx (c:CT) (s:ST):Prop where
 vc:VC c
 cd:∀d∈c.1.2.2.1,0<=d.2/\d.2<(c.1.2.1.length:Int)
 e3:s.1.2.2.2.length=c.1.2.2.2.2.1.length
 ce:s.2.1.length=c.1.1.length
 fu:s.2.2.1.length=c.1.2.2.2.1.length
 th:s.2.2.2.length=c.2.length
 t:∀k:Nat,k<c.2.length->TF (aG (T:=G4) c.2 (k:Int)) (aG (T:=EH) s.2.2.2 (k:Int))
structure SV (n:Nat) (s:ST):Prop where
 sb:SB n s.1
 t:∀t∈s.2.2.2,TH n t
theorem acn (c:CT) (s:ST) (hc:CB c):Ok (vq (c,s)) λb=>b=M->FSx c s:=by
 unfold vq aV ba cC ci bx jk ir bG aY cI aB cu;refine aX (λx=>x.2=(c,s)/\(x.1=aa->VC c/\(∀d∈c.1.2.2.1,0<=d.2/\d.2<(c.1.2.1.length:Int))/\s.1.2.2.2.length=c.1.2.2.2.2.1.length/\s.2.1.length=c.1.1.length/\s.2.2.1.length=c.1.2.2.2.1.length/\s.2.2.2.length=c.2.length)) ?_ ?_
 .refine ar (J3 c hc) λb hb=>?_
  refine cX (λ_=>ai ⟨rfl,λh=>(by cases h)⟩) λh=>?_
  have hv:=hb h;refine ar (OO c.1 s.1 (by have:=hv.vl.d;omega)) λb2 q=>?_
  refine cX (λ_=>ai ⟨rfl,λh=>(by cases h)⟩) λh2=>?_
  obtain⟨z,_,_,I⟩:=q h2;refine bV (λ_=>ai ⟨rfl,λh=>(by cases h)⟩) λk1=>?_
  refine bV (λ_=>ai ⟨rfl,λh=>(by cases h)⟩) λk2=>ai ⟨rfl,λD=>⟨hv,z,I,?_,?_,?_⟩⟩
  .dsimp only[aj]at k1;omega
  .dsimp only[aj]at k2;omega
  .simp at D;omega
 rintro⟨b,x⟩ ⟨e,hb⟩;dsimp only at e hb;subst e;refine aK (λ_=>ai λh=>(by cases h)) λh=>?_
 obtain⟨hv,hcd,F,hce,hfu,hth⟩:=hb h;have hcl:=hc.th;refine cg c.2.length (λi x=>x.1=(i:Int)/\x.2=(c,s)/\∀k:Nat,k<i->TF (aG (T:=G4) c.2 (k:Int)) (aG (T:=EH) s.2.2.2 (k:Int))) ?_ ?_ ⟨rfl,rfl,λk hk=>by omega⟩
 .rintro i ⟨a,x⟩ hi ⟨e1,e2,e3⟩;dsimp only at e1 e2 e3;subst e1;subst e2;refine aR (λ_=>?_) λg=>(by dsimp only[aj]at g;omega)
  have hin:((i:Nat):Int)<(c.2.length:Int):=by omega
  refine aH (by dsimp only;omega) (by dsimp only;omega) (aW ?_);refine aX (λx=>x.2=(c,s)/\(x.1=aa->TF (aG (T:=G4) c.2 (i:Int)) (aG (T:=EH) s.2.2.2 (i:Int)))) ?_ ?_
  .refine aR (λ_=>ai ⟨rfl,λh=>(by cases h)⟩) λg0=>?_
   refine aH (by dsimp only;omega) hin (aW ?_);refine dX (λ_=>ai ⟨rfl,λh=>(by cases h)⟩) λz=>?_
   refine aH (by dsimp only;omega) hin (aW ?_);refine bV (λ_=>ai ⟨rfl,λh=>(by cases h)⟩) λL=>?_
   refine aH (by dsimp only;omega) hin (aW (ai ⟨rfl,λA=>⟨g0,z,L,?_⟩⟩));simp at A;exact A
  rintro⟨b,x⟩ ⟨e,hb⟩;dsimp only at e hb;subst e;refine aK (λ_=>ai λh=>(by cases h)) λh=>ai ?_
  dsimp only;refine ⟨fx (by omega),rfl,λk hk=>?_⟩;rcases bM k i with h1|h1
  .exact e3 k h1
  .rw[show k=i by omega];exact hb h
 .rintro⟨a,x⟩ ⟨e1,e2,e3⟩;dsimp only at e1 e2 e3;subst e1;subst e2;refine aR (λg=>(by dsimp only[aj]at g;omega)) λ_=>ai λ_=>⟨hv,hcd,F,hce,hfu,hth,e3⟩
theorem aeg {i:IT} (h:i.1=6\/i.1=7\/i.1=27\/i.1=10):i.2.1∈sP i:=by
 unfold sP;(repeat' split)<;>simp<;>omega
theorem aef {i:IT} (h:i.1=8\/i.1=9\/i.1=26):i.2.2.1∈sP i:=by
 unfold sP;(repeat' split)<;>simp<;>omega
theorem aie {i:IT} (h:i.1=7\/i.1=9):i.2.2.2.1∈sP i:=by
 unfold sP;(repeat' split)<;>simp<;>omega
structure KD (op k:Int):Prop where
 ld:k=3->op=6\/op=7
 st:k=4->op=8\/op=9
 br:k=5->op=10
 se:k=22->op=26
 ge:k=23->op=27
theorem ac4 (op:Int):Ok (vo op) λk=>KD op k:=by
 unfold vo bx j7 aB;refine aX (λx=>x.2=[3,3,4,4,5,6,7,8,9,10,11,12,13,14,15,16,18,19,20,21,22,23,2]/\(x.1=aa->6<=op/\op<=28)) ?_ ?_
 .refine aR (λ_=>ai ⟨rfl,λh=>(by cases h)⟩) λg=>ai ⟨rfl,λh=>?_⟩
  dsimp only at h;rw[fD]at h;exact⟨g,h⟩
 rintro⟨b,x⟩ ⟨e,hb⟩;dsimp only at e hb;subst e;refine aK (λ_=>ai ⟨λh=>(by cases h),λh=>(by cases h),λh=>(by cases h),λh=>(by cases h),λh=>(by cases h)⟩) λh=>?_
 obtain⟨h1,h2⟩:=hb h;dsimp only;rw[gJ (n:=op-6) (by omega) (by omega)];refine aH (by omega) (by simp;omega) (aH (by omega) (by simp;omega) (aW (ai ?_)));have:op=6\/op=7\/op=8\/op=9\/op=10\/op=11\/op=12\/op=13\/op=14\/op=15\/op=16\/op=17\/op=18\/op=19\/op=20\/op=21\/op=22\/op=23\/op=24\/op=25\/op=26\/op=27\/op=28:=by omega
 rcases this with rfl|rfl|rfl|rfl|rfl|rfl|rfl|rfl|rfl|rfl|rfl|rfl|rfl|rfl|rfl|rfl|rfl|rfl|rfl|rfl|rfl|rfl|rfl;all_goals exact⟨by decide,by decide,by decide,by decide,by decide⟩
theorem R3 (a n:Int):Ok (qV (a,n)) λ_=>True:=by
 unfold qV bx bo aB;refine aR (λ_=>ai trivial) λh=>?_
 dsimp only at h;refine vn (by dsimp only;omega) ?_;refine aX (λ_=>True) (aR (λ_=>ai trivial) λ_=>ai trivial) λ_ _=>ai trivial
theorem Px (i:IT) (t:TT) (hr:∀j∈sP i,0<=j/\j<(t.2.1.length:Int)):Ok (rW (i,t)) λ_=>True:=by
 unfold rW aV ba bk bf bG aB;have d:i.1=7\/i.1=9->0<=i.2.2.2.1/\i.2.2.2.1<(t.2.1.length:Int):=λh=>hr _ (by
  unfold sP;(repeat' split)<;>simp<;>omega)
 refine aX (λx=>x.2=(i,t)) (aE (λ_=>ai rfl) λ_=>ai rfl) ?_;rintro⟨b,x⟩ e;dsimp only at e;subst e;refine aK (λ_=>ai trivial) λ_=>?_
 refine aE (λh=>?_) λ_=>?_
 .exact aH (d (.inl h)).1 (d (.inl h)).2 (aW (ar (R3 _ _) λ_ _=>ai trivial))
 refine aE (λh=>?_) λ_=>?_
 .exact aH (d (.inr h)).1 (d (.inr h)).2 (aW (ar (R3 _ _) λ_ _=>ai trivial))
 refine aX (λ_=>True) ?_ λx _=>aK (λ_=>ai trivial) λ_=>ai trivial
 with_reducible repeat' first|(refine OS.ok ?_;constructor)|refine IM.mk λ_=>?_
 all_goals trivial
structure PE (n:Nat) (c:CT) (s:ST) (t:Int) (e:ET):Prop where
 fs:FSx c s
 t0:0<=t
 t1:t<(c.2.length:Int)
 et:e.1=t
 d:e.2.2.2.2.2.1.length<=n
 f:e.2.2.2.2.2.2.length<=n
 a:e.2.1=3\/e.2.1=23\/e.2.1=5->0<=(aG (T:=UZ) (aG (T:=G4) c.2 t).2 (aG (T:=EH) s.2.2.2 t).1).2.1/\(aG (T:=UZ) (aG (T:=G4) c.2 t).2 (aG (T:=EH) s.2.2.2 t).1).2.1<((aG (T:=EH) s.2.2.2 t).2.1.length:Int)
 b:e.2.1=4\/e.2.1=22->0<=(aG (T:=UZ) (aG (T:=G4) c.2 t).2 (aG (T:=EH) s.2.2.2 t).1).2.2.1/\(aG (T:=UZ) (aG (T:=G4) c.2 t).2 (aG (T:=EH) s.2.2.2 t).1).2.2.1<((aG (T:=EH) s.2.2.2 t).2.1.length:Int)
theorem UN (n:Nat) (hn:n<=100000) (c:CT) (s:ST) (hc:CB c) (hs:SV n s) (t:Int):Ok (nF (c,s,t)) λy=>y.2=M->PE n c s t y.1:=by
 unfold nF aV ba bk bn cC ci bf bx bo bG aY aB;refine aX (λx=>x.2.1=c/\x.2.2.1=s/\(x.1=aa->FSx c s/\0<=t/\t<(c.2.length:Int))) ?_ ?_
 .refine ar (acn c s hc) λb hb=>?_
  refine cX (λ_=>ai ⟨rfl,rfl,λh=>(by cases h)⟩) λh=>?_
  refine aR (λ_=>ai ⟨rfl,rfl,λh=>(by cases h)⟩) λg0=>ai ⟨rfl,rfl,λg1=>?_⟩
  dsimp only at g0 g1;rw[ko]at g1;exact⟨hb h,g0,g1⟩
 rintro⟨b,c',s',z⟩ ⟨e1,e2,hb⟩;dsimp only at e1 e2 hb;subst e1;subst e2;refine aK (λ_=>ai λh=>(by cases h)) λh=>?_
 obtain⟨hf,t0,t1⟩:=hb h;have hk:((t.toNat:Nat):Int)=t:=by omega
 have htf:=hf.t t.toNat (by omega);rw[hk]at htf;have hvt:=hf.vc.t _ (bH (T:=G4) (xs:=c'.2) (j:=t) t0 t1);have hth:=hs.t _ (bH (T:=EH) (xs:=s'.2.2.2) (j:=t) t0 (by rw[hf.th];exact t1));have key:∀e:ET,e.1=t->e.2.2.2.2.2.1.length<=n->e.2.2.2.2.2.2.length<=n->(e.2.1=1\/e.2.1=17\/KD (aG (T:=UZ) (aG (T:=G4) c'.2 t).2 (aG (T:=EH) s'.2.2.2 t).1).1 e.2.1)->PE n c' s' t e:=by
  intro e h1 h2 h3 d;have hi:=hvt.i _ (bH (T:=UZ) (xs:=(aG (T:=G4) c'.2 t).2) (j:=(aG (T:=EH) s'.2.2.2 t).1) htf.p0 htf.p1);refine ⟨hf,t0,t1,h1,h2,h3,λI=>?_,λI=>?_⟩
  .rw[htf.r];rcases d with d|d|d
   .omega
   .omega
   .refine hi.r _ ?_;have a1:=d.ld;have a2:=d.ge;have a3:=d.br;revert a1 a2 a3 I;generalize (aG (T:=UZ) (aG (T:=G4) c'.2 t).2 (aG (T:=EH) s'.2.2.2 t).1)=i;intro I a1 a2 a3;exact aeg (by omega)
  .rw[htf.r];rcases d with d|d|d
   .omega
   .omega
   .refine hi.r _ ?_;have a1:=d.st;have a2:=d.se;revert a1 a2 I;generalize (aG (T:=UZ) (aG (T:=G4) c'.2 t).2 (aG (T:=EH) s'.2.2.2 t).1)=i;intro I a1 a2;exact aef (by omega)
 have hir:=(hvt.i _ (bH (T:=UZ) (xs:=(aG (T:=G4) c'.2 t).2) (j:=(aG (T:=EH) s'.2.2.2 t).1) htf.p0 htf.p1)).r;rw[<- htf.r]at hir;refine aH t0 (by dsimp only;rw[hf.th];exact t1) (aW ?_);refine aH t0 t1 (aW ?_);refine aH htf.p0 htf.p1 (aW ?_);have t4:t<(s'.1.2.2.2.length:Int):=by rw[hf.e3,<-hf.vc.tl];exact t1
 have D:(aG (T:=EH) s'.2.2.2 t).2.2.1.length=(aG (T:=EH) s'.2.2.2 t).2.1.length:=by have:=htf.r;have:=htf.t;omega
 refine aH t0 t4 (aW ?_);refine aE (λ_=>ai λ_=>key _ rfl (oN _) (oN _) (.inl rfl)) λ_=>?_
 refine aE (λ_=>aH t0 t4 (aW (ai λ_=>key _ rfl (oN _) (oN _) (.inr (.inl rfl))))) λ_=>?_
 refine aE (λ_=>?_) λ_=>ai λh=>(by cases h)
 refine ar (ac4 _) λk A=>?_
 refine ar (Px _ _ hir) λo _=>?_
 refine aE (λ_=>ai λh=>(by cases h)) λ_=>?_
 revert key htf hvt hth hir D A;dsimp only;generalize (aG (T:=EH) s'.2.2.2 t)=th;generalize (aG (T:=UZ) _ th.1)=i;intro htf hvt hth key hir D A;have hlen:∀{j:Int},0<=j->j<(th.2.2.1.length:Int)->(aG (T:=.sl (.int .i64)) th.2.2.1 j).length<=n:=λh0 h1=>(hth.l _ (bH (T:=.sl (.int .i64)) (xs:=th.2.2.1) h0 h1)).len
 have hA:i.1=10->0<=i.2.1/\i.2.1<(th.2.2.1.length:Int):=λh=>by
  rw[D];exact hir _ (aeg (.inr (.inr (.inr h))))
 have hB:i.1=8\/i.1=9\/i.1=26->0<=i.2.2.1/\i.2.2.1<(th.2.2.1.length:Int):=λh=>by
  rw[D];exact hir _ (aef (h))
 have hC:i.1=7\/i.1=9->0<=i.2.2.2.1/\i.2.2.2.1<(th.2.2.1.length:Int):=λh=>by
  rw[D];exact hir _ (aie (h))
 refine aX (λx=>x.2.1=th/\x.2.2.1=i/\x.2.2.2.1.1=t/\x.2.2.2.1.2.1=k/\x.2.2.2.2.length<=n) ?_ ?_
 .refine aE (λh=>?_) λ_=>?_
  .obtain⟨a0,a1⟩:=hA h;refine aH a0 a1 (aW ?_);have:=hlen a0 a1;exact aZ (c6 this (by omega)) (by omega) (ai ⟨rfl,rfl,rfl,rfl,this⟩)
  refine aX (λx=>x.2.2.1=th/\x.2.2.2.1=i/\x.2.2.2.2.1=t/\x.2.2.2.2.2.1=k/\(x.1=M->i.1=7\/i.1=9)) ?_ ?_
  .refine aE (λh=>ai ⟨rfl,rfl,rfl,rfl,λ_=>.inl h⟩) λ_=>ai ⟨rfl,rfl,rfl,rfl,λh=>.inr (bg h)⟩
  rintro⟨b,z0,th',F,t',k',z1⟩ ⟨e1,e2,e3,L,q⟩;dsimp only at e1 e2 e3 L q;subst e1;subst e2;subst e3;subst L;refine aK (λh=>?_) λ_=>ai ⟨rfl,rfl,rfl,rfl,oN _⟩
  obtain⟨a0,a1⟩:=hC (q h);refine aH a0 a1 (aW ?_);have:=hlen a0 a1;exact aZ (c6 this (by omega)) (by omega) (ai ⟨rfl,rfl,rfl,rfl,this⟩)
 rintro⟨z0,th',F,⟨t',k',z1⟩,ds⟩ ⟨e1,e2,e3,L,hd⟩;dsimp only at e1 e2 e3 L hd;subst e1;subst e2;subst e3;subst L;refine aX (λx=>x.2.1.1=t'/\x.2.1.2.1=k'/\x.2.2.1.length<=n/\x.2.2.2.length<=n) ?_ ?_
 .refine aX (λx=>x.2=(z0,th',F,(t',k',z1),ds)/\(x.1=M->F.1=8\/F.1=9\/F.1=26)) ?_ ?_
  .exact aE (λh=>ai ⟨rfl,λ_=>.inl h⟩) λ_=>aE (λh=>ai ⟨rfl,λ_=>.inr (.inl h)⟩) λ_=>ai ⟨rfl,λh=>.inr (.inr (bg h))⟩
  rintro⟨b,x⟩ ⟨e,q⟩;dsimp only at e q;subst e;refine aK (λh=>?_) λ_=>ai ⟨rfl,rfl,hd,oN _⟩
  obtain⟨a0,a1⟩:=hB (q h);refine aH a0 a1 (aW ?_);have:=hlen a0 a1;exact aZ (c6 this (by omega)) (by omega) (ai ⟨rfl,rfl,hd,this⟩)
 rintro⟨z2,⟨t2,k2,z3⟩,d2,f2⟩ ⟨e1,e2,h1,h2⟩;dsimp only at e1 e2 h1 h2;subst e1;subst e2;exact ai λ_=>key _ rfl h1 h2 (.inr (.inr A))
theorem SV.zero (n:Nat) (hn:n<=100000):SV n (([],0,[],[]),[],[],[]):=⟨⟨hn,by simp,λl hl=>(by cases hl),by simp,by simp⟩,λt ht=>(by cases ht)⟩
theorem UL (c:CT) (hc:CB c):Ok (tB c) λs=>SV 0 s:=by
 unfold tB aV ba bk bO bn cC ci dx bx l8 bo bG aY cI aB cu;refine ar (J3 c hc) λb hb=>?_
 refine cX (λ_=>ai (SV.zero 0 (by omega))) λh=>?_
 have hv:=hb h;obtain⟨vc,vl,L,I,_,F,_⟩:=id hv.vl;have htl:=hv.tl;refine ar (UM c.1 hv.vl) λy D=>?_
 refine cg c.1.1.length (λi x=>x.1=(i:Int)/\x.2.1=c/\x.2.2.2.1=y/\x.2.2.2.2.length=i) ?_ ?_ ⟨rfl,rfl,rfl,rfl⟩
 .rintro i ⟨a,c',z,A,l⟩ hi ⟨e1,e2,e3,d⟩;dsimp only at e1 e2 e3 d;subst e1;subst e2;subst e3;refine aR (λ_=>?_) λg=>(by dsimp only[aj]at g;omega)
  refine aH (by dsimp only;omega) (by dsimp only;omega) (aW (aZ (by simp;omega) (by omega) (ai ?_)));dsimp only;exact⟨fx (by omega),rfl,rfl,by simp;omega⟩
 rintro⟨a,c',z,A,l⟩ ⟨e1,e2,e3,d⟩;dsimp only at e1 e2 e3 d;subst e1;subst e2;subst e3;refine aR (λg=>(by dsimp only[aj]at g;omega)) λ_=>?_
 refine ar (P:=SV 0) ?_ λr hr=>ai hr
 refine cg c'.1.2.2.2.1.length (λi x=>x.1=(i:Int)/\x.2.1=c'/\x.2.2.2.1=A/\x.2.2.2.2.2.length=i) ?_ ?_ ⟨rfl,rfl,rfl,rfl⟩
 .rintro i ⟨a,c,z,y,l,f⟩ hi ⟨e1,e2,e3,d⟩;dsimp only at e1 e2 e3 d;subst e1;subst e2;subst e3;refine aR (λ_=>?_) λg=>(by dsimp only[aj]at g;omega)
  refine aZ (by simp;omega) (by omega) (ai ?_);dsimp only;exact⟨fx (by omega),rfl,rfl,by simp;omega⟩
 rintro⟨a,c,z,y,l,f⟩ ⟨e1,e2,e3,d⟩;dsimp only at e1 e2 e3 d;subst e1;subst e2;subst e3;refine aR (λg=>(by dsimp only[aj]at g;omega)) λ_=>?_
 refine ar (P:=SV 0) ?_ λr hr=>ai hr
 refine cg c.2.length (λi x=>x.1=(i:Int)/\x.2.1=c/\x.2.2.2.1=y/\x.2.2.2.2.2.2.length=i/\∀t∈x.2.2.2.2.2.2,TH 0 t) ?_ ?_ ⟨rfl,rfl,rfl,rfl,λt ht=>(by cases ht)⟩
 .rintro i ⟨a,c,z,y,l,f,th⟩ hi ⟨e1,e2,e3,d,q⟩;dsimp only at e1 e2 e3 d q;subst e1;subst e2;subst e3;refine aR (λ_=>?_) λg=>(by dsimp only[aj]at g;omega)
  have hin:((i:Nat):Int)<(c.2.length:Int):=by omega
  have hvt:=hv.t _ (bH (T:=G4) (xs:=c.2) (j:=(i:Int)) (by omega) hin);have q0:=hvt.r0;have q1:=hvt.r1;refine aH (by dsimp only;omega) hin (aW ?_);refine cK (cK (cY q0 (cY (gp _) (aZ (by dsimp only;omega) (by omega) ?_))));refine aH (by dsimp only;omega) hin (aW ?_);refine cK (cK (cY q0 (cY (gp _) (aZ (by dsimp only;omega) (by omega) ?_))));refine aZ (by simp;omega) (by omega) (ai ?_);dsimp only;refine ⟨fx (by omega),rfl,rfl,by simp;omega,λt ht=>?_⟩;rcases bN.1 ht with h|h
  .exact q t h
  .rw[aJ]at h;subst h;refine ⟨?_,?_,λl hl=>?_,gp _,gp _⟩
   .dsimp only;rw[cN];omega
   .dsimp only;rw[cN];omega
   .rw[List.eq_of_mem_replicate hl];exact TL.nil 0
 .rintro⟨a,c,z,y,l,f,th⟩ ⟨e1,e2,e3,d,q⟩;dsimp only at e1 e2 e3 d q;subst e1;subst e2;subst e3;refine aR (λg=>(by dsimp only[aj]at g;omega)) λ_=>ai ?_
  exact⟨D,q⟩
theorem kz {α R:Type} (o:J α):av o (λ_=>(U:J R))=U:=by cases o<;>rfl
theorem oH {R:Type} (b:Bool):chk b (λ_=>(U:J R))=U:=by cases b<;>rfl
theorem rH {α R:Type} (x:α):lt x (λ_=>(U:J R))=U:=rfl
def OW {R:Type} (o:J R) (Q:R->Prop):Prop:=o=U\/Ok o Q
theorem OW.or {R:Type} {a b:J R} {Q:R->Prop} (d:OW a Q) (hb:OW b Q):OW (orE a b) Q:=by
 rcases d with rfl|⟨y,rfl,h⟩
 .exact hb
 .exact .inr ⟨y,rfl,h⟩
theorem Ok.orL {R:Type} {a b:J R} {Q:R->Prop} (d:Ok a Q):Ok (orE a b) Q:=by
 obtain⟨y,rfl,h⟩:=d;exact⟨y,rfl,h⟩
theorem OW.orR {R:Type} {a b:J R} {Q:R->Prop} (d:OW a Q) (hb:Ok b Q):Ok (orE a b) Q:=by
 rcases d with rfl|⟨y,rfl,h⟩
 .exact hb
 .exact⟨y,rfl,h⟩
def SQ (n:Nat) (c:CT) (y:ST×ET×Bool):Prop:=y.2.2=M->SV (n+1) y.1/\Ym c.1 y.2.1/\UT y.2.1
theorem Hy {n:Nat} (hn:n+1<=100000) {c:CT} {s:ST} {t u:Int} (hc:CB c) (hs:SV n s) (G:J (ST×ET×Bool)->Prop) (F:∀y,SQ n c y->G (Z y)) (k:ET×Bool->SY×Int×Bool->J (ST×ET×Bool))
 (hk:∀e v sy,PE n c s t e->EN c.1 s.1 t e.2.1 e.2.2.1->AP n s.1 sy->G (k (e,M) (sy,v,M))):
 G (av (nF (c,s,t)) λq=>aF (!q.2) (Z ((([],0,[],[]),[],[],[]),(0,0,0,0,0,[],[]),aa)) (av (po (c.1,s.1,t,q.1.2.1,q.1.2.2.1,u)) λz=>aF (!z.2.2) (Z ((([],0,[],[]),[],[],[]),(0,0,0,0,0,[],[]),aa)) (k q z))):=by
 have A:=F ((([],0,[],[]),[],[],[]),(0,0,0,0,0,[],[]),aa) λh=>(by cases h)
 obtain⟨⟨e,b⟩,h1,h2⟩:=UN n (by omega) c s hc hs t;rw[h1,Si];cases b with
 |false=>exact A
 |true=>
  have hp:=h2 rfl;have hcd:c.1.2.2.1.length<=1000:=by have:=hp.fs.vc.vl.d;omega
  obtain⟨⟨sy,v,b⟩,I,D,_,_⟩:=Ki c.1 s.1 hs.sb hcd t e.2.1 e.2.2.1 u;have e0:∀{R:Type} (a b:J R),aF (!M) a b=b:=λ_ _=>rfl
  rw[e0,I,Si];cases b with
  |false=>exact A
  |true=>exact hk e v sy hp (D rfl).1 (D rfl).2.2.1
theorem X7 {E:Nat} (sy:SY) (ce fu:η) (a:TT) (h:SV E (sy,ce,fu,[a])) (hce:ce.length<=1000) (hfu:fu.length<=1000):nk (sy,ce,fu,[a])=Z ((sy.2.1,sy.1,sy.2.2.1,sy.2.2.2).1,(sy.2.1,sy.1,sy.2.2.1,sy.2.2.2).2.1,(sy.2.1,sy.1,sy.2.2.1,sy.2.2.2).2.2.1,(sy.2.1,sy.1,sy.2.2.1,sy.2.2.2).2.2.2,(([]:η)++ce),(([]:η)++fu),((a.1,a.2.2.2),a.2.1,a.2.2.1)):=by
 have q:=h.sb.n1;have d:=h.t a (by simp);refine bY ?_;unfold nk aV bn bx bo bG aY;refine aQ (qE sy h.sb) ?_;refine aZ (by simp;omega) (by omega) (aZ (by simp;omega) (by omega) ?_);refine eO rfl (a8 rfl (aW (aQ (c_ a E q d) ?_)));exact jr rfl (ai rfl)
theorem Sg (sy:SY) (ce fu:η) (l:Y TT) (h0:l.length<=4) (h:l.length≠1):nk (sy,ce,fu,l)=U:=by
 unfold nk aV bn bx bo bG aY;rcases l with _|⟨a,_|⟨b,_|⟨c,_|⟨d,_|⟨e,l⟩⟩⟩⟩⟩;all_goals first|(simp at h;done)|(exfalso;simp only[cf]at h0;omega)|simp[fK,kz,oH,rH,bcT,Z1]
theorem X6 {E:Nat} (sy:SY) (ce fu:η) (a b:TT) (h:SV E (sy,ce,fu,[a,b])) (hce:ce.length<=1000) (hfu:fu.length<=1000):nj (sy,ce,fu,[a,b])=Z ((sy.2.1,sy.1,sy.2.2.1,sy.2.2.2).1,(sy.2.1,sy.1,sy.2.2.1,sy.2.2.2).2.1,(sy.2.1,sy.1,sy.2.2.1,sy.2.2.2).2.2.1,(sy.2.1,sy.1,sy.2.2.1,sy.2.2.2).2.2.2,(([]:η)++ce),(([]:η)++fu),(((a.1,a.2.2.2),a.2.1,a.2.2.1).1.1,((a.1,a.2.2.2),a.2.1,a.2.2.1).1.2,((b.1,b.2.2.2),b.2.1,b.2.2.1).1.1,((b.1,b.2.2.2),b.2.1,b.2.2.1).2.1,((b.1,b.2.2.2),b.2.1,b.2.2.1).2.2,((b.1,b.2.2.2),b.2.1,b.2.2.1).1.2),((a.1,a.2.2.2),a.2.1,a.2.2.1).2):=by
 have d:=h.sb.n1;have q:=h.t a (by simp);have hb:=h.t b (by simp);refine bY ?_;unfold nj aV bn bx bo bG aY;refine aQ (qE sy h.sb) ?_;refine aZ (by simp;omega) (by omega) (aZ (by simp;omega) (by omega) ?_);refine eO rfl (a8 rfl (aW (aQ (c_ a E d q) ?_)));refine eO rfl (a8 rfl (aW (aQ (c_ b E d hb) ?_)));exact jr rfl (ai rfl)
theorem Sf (sy:SY) (ce fu:η) (l:Y TT) (h0:l.length<=4) (h:l.length≠2):nj (sy,ce,fu,l)=U:=by
 unfold nj aV bn bx bo bG aY;rcases l with _|⟨a,_|⟨b,_|⟨c,_|⟨d,_|⟨e,l⟩⟩⟩⟩⟩;all_goals first|(simp at h;done)|(exfalso;simp only[cf]at h0;omega)|simp[fK,kz,oH,rH,bcT,Z1]
theorem X5 {E:Nat} (sy:SY) (ce fu:η) (a b:TT) (h:SV E (sy,ce,fu,[a,b])) (hce:ce.length<=1000) (hfu:fu.length<=1000):nh (sy,ce,fu,[a,b])=Z ((sy.2.1,sy.1,sy.2.2.1,sy.2.2.2).1,(sy.2.1,sy.1,sy.2.2.1,sy.2.2.2).2.1,(sy.2.1,sy.1,sy.2.2.1,sy.2.2.2).2.2.1,(sy.2.1,sy.1,sy.2.2.1,sy.2.2.2).2.2.2,(([]:η)++ce),(([]:η)++fu),((((a.1,a.2.2.2),a.2.1,a.2.2.1).1.1,((a.1,a.2.2.2),a.2.1,a.2.2.1).2.1,((a.1,a.2.2.2),a.2.1,a.2.2.1).2.2,((a.1,a.2.2.2),a.2.1,a.2.2.1).1.2),((b.1,b.2.2.2),b.2.1,b.2.2.1).1),((b.1,b.2.2.2),b.2.1,b.2.2.1).2):=by
 have d:=h.sb.n1;have q:=h.t a (by simp);have hb:=h.t b (by simp);refine bY ?_;unfold nh aV bn bx bo bG aY;refine aQ (qE sy h.sb) ?_;refine aZ (by simp;omega) (by omega) (aZ (by simp;omega) (by omega) ?_);refine eO rfl (a8 rfl (aW (aQ (c_ a E d q) ?_)));refine eO rfl (a8 rfl (aW (aQ (c_ b E d hb) ?_)));exact jr rfl (ai rfl)
theorem Se (sy:SY) (ce fu:η) (l:Y TT) (h0:l.length<=4) (h:l.length≠2):nh (sy,ce,fu,l)=U:=by
 unfold nh aV bn bx bo bG aY;rcases l with _|⟨a,_|⟨b,_|⟨c,_|⟨d,_|⟨e,l⟩⟩⟩⟩⟩;all_goals first|(simp at h;done)|(exfalso;simp only[cf]at h0;omega)|simp[fK,kz,oH,rH,bcT,Z1]
theorem X4 {E:Nat} (sy:SY) (ce fu:η) (a b c:TT) (h:SV E (sy,ce,fu,[a,b,c])) (hce:ce.length<=1000) (hfu:fu.length<=1000):ng (sy,ce,fu,[a,b,c])=Z ((sy.2.1,sy.1,sy.2.2.1,sy.2.2.2).1,(sy.2.1,sy.1,sy.2.2.1,sy.2.2.2).2.1,(sy.2.1,sy.1,sy.2.2.1,sy.2.2.2).2.2.1,(sy.2.1,sy.1,sy.2.2.1,sy.2.2.2).2.2.2,(([]:η)++ce),(([]:η)++fu),(((a.1,a.2.2.2),a.2.1,a.2.2.1).1.1,((a.1,a.2.2.2),a.2.1,a.2.2.1).1.2,(((b.1,b.2.2.2),b.2.1,b.2.2.1).1.1,((b.1,b.2.2.2),b.2.1,b.2.2.1).2.1,((b.1,b.2.2.2),b.2.1,b.2.2.1).2.2,((b.1,b.2.2.2),b.2.1,b.2.2.1).1.2),((c.1,c.2.2.2),c.2.1,c.2.2.1).1.1,((c.1,c.2.2.2),c.2.1,c.2.2.1).2.1,((c.1,c.2.2.2),c.2.1,c.2.2.1).2.2,((c.1,c.2.2.2),c.2.1,c.2.2.1).1.2),((a.1,a.2.2.2),a.2.1,a.2.2.1).2):=by
 have d:=h.sb.n1;have q:=h.t a (by simp);have hb:=h.t b (by simp);have hc:=h.t c (by simp);refine bY ?_;unfold ng aV bn bx bo bG aY;refine aQ (qE sy h.sb) ?_;refine aZ (by simp;omega) (by omega) (aZ (by simp;omega) (by omega) ?_);refine eO rfl (a8 rfl (aW (aQ (c_ a E d q) ?_)));refine eO rfl (a8 rfl (aW (aQ (c_ b E d hb) ?_)));refine eO rfl (a8 rfl (aW (aQ (c_ c E d hc) ?_)));exact jr rfl (ai rfl)
theorem Sd (sy:SY) (ce fu:η) (l:Y TT) (h0:l.length<=4) (h:l.length≠3):ng (sy,ce,fu,l)=U:=by
 unfold ng aV bn bx bo bG aY;rcases l with _|⟨a,_|⟨b,_|⟨c,_|⟨d,_|⟨e,l⟩⟩⟩⟩⟩;all_goals first|(simp at h;done)|(exfalso;simp only[cf]at h0;omega)|simp[fK,kz,oH,rH,bcT,Z1]
theorem X3 {E:Nat} (sy:SY) (ce fu:η) (a b c:TT) (h:SV E (sy,ce,fu,[a,b,c])) (hce:ce.length<=1000) (hfu:fu.length<=1000):ne (sy,ce,fu,[a,b,c])=Z ((sy.2.1,sy.1,sy.2.2.1,sy.2.2.2).1,(sy.2.1,sy.1,sy.2.2.1,sy.2.2.2).2.1,(sy.2.1,sy.1,sy.2.2.1,sy.2.2.2).2.2.1,(sy.2.1,sy.1,sy.2.2.1,sy.2.2.2).2.2.2,(([]:η)++ce),(([]:η)++fu),((((a.1,a.2.2.2),a.2.1,a.2.2.1).1.1,((a.1,a.2.2.2),a.2.1,a.2.2.1).2.1,((a.1,a.2.2.2),a.2.1,a.2.2.1).2.2,((a.1,a.2.2.2),a.2.1,a.2.2.1).1.2),((b.1,b.2.2.2),b.2.1,b.2.2.1).1.1,((b.1,b.2.2.2),b.2.1,b.2.2.1).1.2,((c.1,c.2.2.2),c.2.1,c.2.2.1).1.1,((c.1,c.2.2.2),c.2.1,c.2.2.1).2.1,((c.1,c.2.2.2),c.2.1,c.2.2.1).2.2,((c.1,c.2.2.2),c.2.1,c.2.2.1).1.2),((b.1,b.2.2.2),b.2.1,b.2.2.1).2):=by
 have d:=h.sb.n1;have q:=h.t a (by simp);have hb:=h.t b (by simp);have hc:=h.t c (by simp);refine bY ?_;unfold ne aV bn bx bo bG aY;refine aQ (qE sy h.sb) ?_;refine aZ (by simp;omega) (by omega) (aZ (by simp;omega) (by omega) ?_);refine eO rfl (a8 rfl (aW (aQ (c_ a E d q) ?_)));refine eO rfl (a8 rfl (aW (aQ (c_ b E d hb) ?_)));refine eO rfl (a8 rfl (aW (aQ (c_ c E d hc) ?_)));exact jr rfl (ai rfl)
theorem Sc (sy:SY) (ce fu:η) (l:Y TT) (h0:l.length<=4) (h:l.length≠3):ne (sy,ce,fu,l)=U:=by
 unfold ne aV bn bx bo bG aY;rcases l with _|⟨a,_|⟨b,_|⟨c,_|⟨d,_|⟨e,l⟩⟩⟩⟩⟩;all_goals first|(simp at h;done)|(exfalso;simp only[cf]at h0;omega)|simp[fK,kz,oH,rH,bcT,Z1]
theorem X2 {E:Nat} (sy:SY) (ce fu:η) (a b c:TT) (h:SV E (sy,ce,fu,[a,b,c])) (hce:ce.length<=1000) (hfu:fu.length<=1000):m_ (sy,ce,fu,[a,b,c])=Z ((sy.2.1,sy.1,sy.2.2.1,sy.2.2.2).1,(sy.2.1,sy.1,sy.2.2.1,sy.2.2.2).2.1,(sy.2.1,sy.1,sy.2.2.1,sy.2.2.2).2.2.1,(sy.2.1,sy.1,sy.2.2.1,sy.2.2.2).2.2.2,(([]:η)++ce),(([]:η)++fu),((((a.1,a.2.2.2),a.2.1,a.2.2.1).1.1,((a.1,a.2.2.2),a.2.1,a.2.2.1).2.1,((a.1,a.2.2.2),a.2.1,a.2.2.1).2.2,((a.1,a.2.2.2),a.2.1,a.2.2.1).1.2),(((b.1,b.2.2.2),b.2.1,b.2.2.1).1.1,((b.1,b.2.2.2),b.2.1,b.2.2.1).2.1,((b.1,b.2.2.2),b.2.1,b.2.2.1).2.2,((b.1,b.2.2.2),b.2.1,b.2.2.1).1.2),((c.1,c.2.2.2),c.2.1,c.2.2.1).1),((c.1,c.2.2.2),c.2.1,c.2.2.1).2):=by
 have d:=h.sb.n1;have q:=h.t a (by simp);have hb:=h.t b (by simp);have hc:=h.t c (by simp);refine bY ?_;unfold m_ aV bn bx bo bG aY;refine aQ (qE sy h.sb) ?_;refine aZ (by simp;omega) (by omega) (aZ (by simp;omega) (by omega) ?_);refine eO rfl (a8 rfl (aW (aQ (c_ a E d q) ?_)));refine eO rfl (a8 rfl (aW (aQ (c_ b E d hb) ?_)));refine eO rfl (a8 rfl (aW (aQ (c_ c E d hc) ?_)));exact jr rfl (ai rfl)
theorem Sb (sy:SY) (ce fu:η) (l:Y TT) (h0:l.length<=4) (h:l.length≠3):m_ (sy,ce,fu,l)=U:=by
 unfold m_ aV bn bx bo bG aY;rcases l with _|⟨a,_|⟨b,_|⟨c,_|⟨d,_|⟨e,l⟩⟩⟩⟩⟩;all_goals first|(simp at h;done)|(exfalso;simp only[cf]at h0;omega)|simp[fK,kz,oH,rH,bcT,Z1]
theorem X1 {E:Nat} (sy:SY) (ce fu:η) (a b c d:TT) (h:SV E (sy,ce,fu,[a,b,c,d])) (hce:ce.length<=1000) (hfu:fu.length<=1000):m8 (sy,ce,fu,[a,b,c,d])=Z ((sy.2.1,sy.1,sy.2.2.1,sy.2.2.2).1,(sy.2.1,sy.1,sy.2.2.1,sy.2.2.2).2.1,(sy.2.1,sy.1,sy.2.2.1,sy.2.2.2).2.2.1,(sy.2.1,sy.1,sy.2.2.1,sy.2.2.2).2.2.2,(([]:η)++ce),(([]:η)++fu),(((a.1,a.2.2.2),a.2.1,a.2.2.1).1.1,((a.1,a.2.2.2),a.2.1,a.2.2.1).1.2,(((b.1,b.2.2.2),b.2.1,b.2.2.1).1.1,((b.1,b.2.2.2),b.2.1,b.2.2.1).2.1,((b.1,b.2.2.2),b.2.1,b.2.2.1).2.2,((b.1,b.2.2.2),b.2.1,b.2.2.1).1.2),(((c.1,c.2.2.2),c.2.1,c.2.2.1).1.1,((c.1,c.2.2.2),c.2.1,c.2.2.1).2.1,((c.1,c.2.2.2),c.2.1,c.2.2.1).2.2,((c.1,c.2.2.2),c.2.1,c.2.2.1).1.2),((d.1,d.2.2.2),d.2.1,d.2.2.1).1.1,((d.1,d.2.2.2),d.2.1,d.2.2.1).2.1,((d.1,d.2.2.2),d.2.1,d.2.2.1).2.2,((d.1,d.2.2.2),d.2.1,d.2.2.1).1.2),((a.1,a.2.2.2),a.2.1,a.2.2.1).2):=by
 have q:=h.sb.n1;have s:=h.t a (by simp);have hb:=h.t b (by simp);have hc:=h.t c (by simp);have hd:=h.t d (by simp);refine bY ?_;unfold m8 aV bn bx bo bG aY;refine aQ (qE sy h.sb) ?_;refine aZ (by simp;omega) (by omega) (aZ (by simp;omega) (by omega) ?_);refine eO rfl (a8 rfl (aW (aQ (c_ a E q s) ?_)));refine eO rfl (a8 rfl (aW (aQ (c_ b E q hb) ?_)));refine eO rfl (a8 rfl (aW (aQ (c_ c E q hc) ?_)));refine eO rfl (a8 rfl (aW (aQ (c_ d E q hd) ?_)));exact jr rfl (ai rfl)
theorem Sa (sy:SY) (ce fu:η) (l:Y TT) (h0:l.length<=4) (h:l.length≠4):m8 (sy,ce,fu,l)=U:=by
 unfold m8 aV bn bx bo bG aY;rcases l with _|⟨a,_|⟨b,_|⟨c,_|⟨d,_|⟨e,l⟩⟩⟩⟩⟩;all_goals first|(simp at h;done)|(exfalso;simp only[cf]at h0;omega)|simp[fK,kz,oH,rH,bcT,Z1]
theorem X0 {E:Nat} (sy:SY) (ce fu:η) (a b c d:TT) (h:SV E (sy,ce,fu,[a,b,c,d])) (hce:ce.length<=1000) (hfu:fu.length<=1000):m7 (sy,ce,fu,[a,b,c,d])=Z ((sy.2.1,sy.1,sy.2.2.1,sy.2.2.2).1,(sy.2.1,sy.1,sy.2.2.1,sy.2.2.2).2.1,(sy.2.1,sy.1,sy.2.2.1,sy.2.2.2).2.2.1,(sy.2.1,sy.1,sy.2.2.1,sy.2.2.2).2.2.2,(([]:η)++ce),(([]:η)++fu),((((a.1,a.2.2.2),a.2.1,a.2.2.1).1.1,((a.1,a.2.2.2),a.2.1,a.2.2.1).2.1,((a.1,a.2.2.2),a.2.1,a.2.2.1).2.2,((a.1,a.2.2.2),a.2.1,a.2.2.1).1.2),((b.1,b.2.2.2),b.2.1,b.2.2.1).1.1,((b.1,b.2.2.2),b.2.1,b.2.2.1).1.2,(((c.1,c.2.2.2),c.2.1,c.2.2.1).1.1,((c.1,c.2.2.2),c.2.1,c.2.2.1).2.1,((c.1,c.2.2.2),c.2.1,c.2.2.1).2.2,((c.1,c.2.2.2),c.2.1,c.2.2.1).1.2),((d.1,d.2.2.2),d.2.1,d.2.2.1).1.1,((d.1,d.2.2.2),d.2.1,d.2.2.1).2.1,((d.1,d.2.2.2),d.2.1,d.2.2.1).2.2,((d.1,d.2.2.2),d.2.1,d.2.2.1).1.2),((b.1,b.2.2.2),b.2.1,b.2.2.1).2):=by
 have q:=h.sb.n1;have s:=h.t a (by simp);have hb:=h.t b (by simp);have hc:=h.t c (by simp);have hd:=h.t d (by simp);refine bY ?_;unfold m7 aV bn bx bo bG aY;refine aQ (qE sy h.sb) ?_;refine aZ (by simp;omega) (by omega) (aZ (by simp;omega) (by omega) ?_);refine eO rfl (a8 rfl (aW (aQ (c_ a E q s) ?_)));refine eO rfl (a8 rfl (aW (aQ (c_ b E q hb) ?_)));refine eO rfl (a8 rfl (aW (aQ (c_ c E q hc) ?_)));refine eO rfl (a8 rfl (aW (aQ (c_ d E q hd) ?_)));exact jr rfl (ai rfl)
theorem R_ (sy:SY) (ce fu:η) (l:Y TT) (h0:l.length<=4) (h:l.length≠4):m7 (sy,ce,fu,l)=U:=by
 unfold m7 aV bn bx bo bG aY;rcases l with _|⟨a,_|⟨b,_|⟨c,_|⟨d,_|⟨e,l⟩⟩⟩⟩⟩;all_goals first|(simp at h;done)|(exfalso;simp only[cf]at h0;omega)|simp[fK,kz,oH,rH,bcT,Z1]
theorem XZ {E:Nat} (sy:SY) (ce fu:η) (a b c d:TT) (h:SV E (sy,ce,fu,[a,b,c,d])) (hce:ce.length<=1000) (hfu:fu.length<=1000):m6 (sy,ce,fu,[a,b,c,d])=Z ((sy.2.1,sy.1,sy.2.2.1,sy.2.2.2).1,(sy.2.1,sy.1,sy.2.2.1,sy.2.2.2).2.1,(sy.2.1,sy.1,sy.2.2.1,sy.2.2.2).2.2.1,(sy.2.1,sy.1,sy.2.2.1,sy.2.2.2).2.2.2,(([]:η)++ce),(([]:η)++fu),((((a.1,a.2.2.2),a.2.1,a.2.2.1).1.1,((a.1,a.2.2.2),a.2.1,a.2.2.1).2.1,((a.1,a.2.2.2),a.2.1,a.2.2.1).2.2,((a.1,a.2.2.2),a.2.1,a.2.2.1).1.2),(((b.1,b.2.2.2),b.2.1,b.2.2.1).1.1,((b.1,b.2.2.2),b.2.1,b.2.2.1).2.1,((b.1,b.2.2.2),b.2.1,b.2.2.1).2.2,((b.1,b.2.2.2),b.2.1,b.2.2.1).1.2),((c.1,c.2.2.2),c.2.1,c.2.2.1).1.1,((c.1,c.2.2.2),c.2.1,c.2.2.1).1.2,((d.1,d.2.2.2),d.2.1,d.2.2.1).1.1,((d.1,d.2.2.2),d.2.1,d.2.2.1).2.1,((d.1,d.2.2.2),d.2.1,d.2.2.1).2.2,((d.1,d.2.2.2),d.2.1,d.2.2.1).1.2),((c.1,c.2.2.2),c.2.1,c.2.2.1).2):=by
 have q:=h.sb.n1;have s:=h.t a (by simp);have hb:=h.t b (by simp);have hc:=h.t c (by simp);have hd:=h.t d (by simp);refine bY ?_;unfold m6 aV bn bx bo bG aY;refine aQ (qE sy h.sb) ?_;refine aZ (by simp;omega) (by omega) (aZ (by simp;omega) (by omega) ?_);refine eO rfl (a8 rfl (aW (aQ (c_ a E q s) ?_)));refine eO rfl (a8 rfl (aW (aQ (c_ b E q hb) ?_)));refine eO rfl (a8 rfl (aW (aQ (c_ c E q hc) ?_)));refine eO rfl (a8 rfl (aW (aQ (c_ d E q hd) ?_)));exact jr rfl (ai rfl)
theorem R9 (sy:SY) (ce fu:η) (l:Y TT) (h0:l.length<=4) (h:l.length≠4):m6 (sy,ce,fu,l)=U:=by
 unfold m6 aV bn bx bo bG aY;rcases l with _|⟨a,_|⟨b,_|⟨c,_|⟨d,_|⟨e,l⟩⟩⟩⟩⟩;all_goals first|(simp at h;done)|(exfalso;simp only[cf]at h0;omega)|simp[fK,kz,oH,rH,bcT,Z1]
theorem XY {E:Nat} (sy:SY) (ce fu:η) (a b c d:TT) (h:SV E (sy,ce,fu,[a,b,c,d])) (hce:ce.length<=1000) (hfu:fu.length<=1000):mZ (sy,ce,fu,[a,b,c,d])=Z ((sy.2.1,sy.1,sy.2.2.1,sy.2.2.2).1,(sy.2.1,sy.1,sy.2.2.1,sy.2.2.2).2.1,(sy.2.1,sy.1,sy.2.2.1,sy.2.2.2).2.2.1,(sy.2.1,sy.1,sy.2.2.1,sy.2.2.2).2.2.2,(([]:η)++ce),(([]:η)++fu),((((a.1,a.2.2.2),a.2.1,a.2.2.1).1.1,((a.1,a.2.2.2),a.2.1,a.2.2.1).2.1,((a.1,a.2.2.2),a.2.1,a.2.2.1).2.2,((a.1,a.2.2.2),a.2.1,a.2.2.1).1.2),(((b.1,b.2.2.2),b.2.1,b.2.2.1).1.1,((b.1,b.2.2.2),b.2.1,b.2.2.1).2.1,((b.1,b.2.2.2),b.2.1,b.2.2.1).2.2,((b.1,b.2.2.2),b.2.1,b.2.2.1).1.2),(((c.1,c.2.2.2),c.2.1,c.2.2.1).1.1,((c.1,c.2.2.2),c.2.1,c.2.2.1).2.1,((c.1,c.2.2.2),c.2.1,c.2.2.1).2.2,((c.1,c.2.2.2),c.2.1,c.2.2.1).1.2),((d.1,d.2.2.2),d.2.1,d.2.2.1).1),((d.1,d.2.2.2),d.2.1,d.2.2.1).2):=by
 have q:=h.sb.n1;have s:=h.t a (by simp);have hb:=h.t b (by simp);have hc:=h.t c (by simp);have hd:=h.t d (by simp);refine bY ?_;unfold mZ aV bn bx bo bG aY;refine aQ (qE sy h.sb) ?_;refine aZ (by simp;omega) (by omega) (aZ (by simp;omega) (by omega) ?_);refine eO rfl (a8 rfl (aW (aQ (c_ a E q s) ?_)));refine eO rfl (a8 rfl (aW (aQ (c_ b E q hb) ?_)));refine eO rfl (a8 rfl (aW (aQ (c_ c E q hc) ?_)));refine eO rfl (a8 rfl (aW (aQ (c_ d E q hd) ?_)));exact jr rfl (ai rfl)
theorem R8 (sy:SY) (ce fu:η) (l:Y TT) (h0:l.length<=4) (h:l.length≠4):mZ (sy,ce,fu,l)=U:=by
 unfold mZ aV bn bx bo bG aY;rcases l with _|⟨a,_|⟨b,_|⟨c,_|⟨d,_|⟨e,l⟩⟩⟩⟩⟩;all_goals first|(simp at h;done)|(exfalso;simp only[cf]at h0;omega)|simp[fK,kz,oH,rH,bcT,Z1]
theorem kdx (k:Int):k=1\/k=16\/k=2\/k=3\/k=23\/k=4\/k=22\/k=5\/((k=1)=False/\(k=16)=False/\(k=2)=False/\(k=3)=False/\(k=23)=False/\(k=4)=False/\(k=22)=False/\(k=5)=False):=by
 by_cases h:k=1\/k=16\/k=2\/k=3\/k=23\/k=4\/k=22\/k=5
 .omega
 .repeat (first|exact⟨eq_false (by omega),eq_false (by omega),eq_false (by omega),eq_false (by omega),eq_false (by omega),eq_false (by omega),eq_false (by omega),eq_false (by omega)⟩|refine Or.inr ?_)
def KR {g:Type} (n:Nat) (d:CT) (i:Nat) (u:Int) (l:Y TT) (z:g) (k:Int->(CT×SY×(Γ)×Int×(υ)×ET×(Γ)×(η)×(η)×g×(η)×Y η)->J (ST×ET×Bool)):Prop:=
 ∀(p:Int) (sy:SY) (kd o v q:Int) (ds fs ce fu R:η) (T:Y η) (ev:Int),
  (kd≠16->kd≠2->Ok (nl (aG (T:=G4) d.2 (i:Int),(p,R,T,a9 .i64 (ev+1)))) λy=>TH (n+1) y.1)->
  (kd=16\/kd=2->TH (n+1) (p,R,T,a9 .i64 (ev+1)))->
  (∀t',TH (n+1) t'->SQ n d ((sy,ce,fu,l.set i t'),((i:Int),kd,o,v,q,ds,fs),M))->(i:Int)<(d.2.length:Int)->
  ∀s,Ok (k p (d,sy,((i:Int),u),0,(0,0,0,0,0),((i:Int),kd,o,v,q,ds,fs),(s,ev),ce,fu,z,R,T)) (SQ n d)
theorem Ax {g:Type} (N i:Nat) {D:SY×(η)×(η)×Y TT->J (Int×(Y (Int×η))×(θ)×(Y (Int×Int×Bool))×(η)×(η)×g×(η)×Y η)} {pc ev:g->Int} {k:Int->(CT×SY×(Γ)×Int×(υ)×ET×(Γ)×(η)×(η)×g×(η)×Y η)->J (ST×ET×Bool)} {n:Nat} (hn:n+1<=100000) (q:CT) (s:ST) (t u:Int) (hc:CB q) (hs:SV n s)
 (h0:∀sy ce fu (l:Y TT),l.length<=4->l.length≠N->D (sy,ce,fu,l)=U)
 (h1:∀sy ce fu (l:Y TT),SV n (sy,ce,fu,l)->ce.length<=1000->fu.length<=1000->l.length=N->i<N/\∃y,D (sy,ce,fu,l)=Z y/\y.2.2.2.2.1=ce/\y.2.2.2.2.2.1=fu/\y.2.2.2.2.2.2.2.1=(aG (T:=EH) l (i:Int)).2.1/\y.2.2.2.2.2.2.2.2=(aG (T:=EH) l (i:Int)).2.2.1/\pc y.2.2.2.2.2.2.1=(aG (T:=EH) l (i:Int)).1/\ev y.2.2.2.2.2.2.1=(aG (T:=EH) l (i:Int)).2.2.2/\KR n q i u l y.2.2.2.2.2.2.1 k):
 OW (SG (i:Int) D pc ev k (q,s,t,u)) (SQ n q)/\(s.2.2.2.length=N->t=(i:Int)->Ok (SG (i:Int) D pc ev k (q,s,t,u)) (SQ n q)):=by
 by_cases hz:s.2.2.2.length=N/\t=(i:Int)
 .obtain⟨I,rfl⟩:=hz;suffices h:Ok (SG (i:Int) D pc ev k (q,s,(i:Int),u)) (SQ n q) from ⟨.inr h,λ_ _=>h⟩
  unfold SG ub ze Prod.p12 aV ba bk bO cU fM ry um Prod.q10 Kj Prod.q13 bn cC gI GZ ck bf bG j7 aB;refine Hy hn hc hs (λo=>Ok o (SQ n q)) (λy h=>ai h) _ λe v sy hp he ha=>?_
  obtain⟨sy0,ce,fu,l⟩:=s;dsimp only at I he ha;have hE:=hs.sb.n1;have vl:=hp.fs.vc.vl;have hce:=hp.fs.ce;have hfu:=hp.fs.fu;dsimp only at hce hfu;obtain⟨hiN,⟨q1,q2,q3,q4,ce',fu',z,R0,T0⟩,hcp,g1,g2,g3,g4,hpc,hve,hk⟩:=h1 sy0 ce fu l hs (by have:=vl.c;omega) (by have:=vl.f;omega) I;dsimp only at g1 g2 g3 g4 hpc hve hk;rw[g1,g2,g3,g4]at hcp;have hsb:=ha.toSB hs.sb hn;obtain⟨_,_,nmce,_,_,_,nmfu⟩:=id he.nm;have hev:Ym q.1 e:=⟨he.nm,hp.et▸hp.t0,by rw[hp.et,<-hp.fs.vc.tl];exact hp.t1,he.cd⟩
  have hes:UT e:=⟨c6 hp.d (by omega),c6 hp.f (by omega)⟩
  have t1:(i:Int)<(q.2.length:Int):=hp.t1;have htf:TF (aG (T:=G4) q.2 (i:Int)) (aG (T:=EH) l (i:Int)):=hp.fs.t i (by omega);have hA:=hp.a;have F:=hp.b;dsimp only at hA F;have hvt:=hp.fs.vc.t _ (bH (T:=G4) (xs:=q.2) (j:=(i:Int)) (by omega) t1);have hci:=hc.ins _ (bH (T:=G4) (xs:=q.2) (j:=(i:Int)) (by omega) t1);have hth:TH n (aG (T:=EH) l (i:Int)):=hs.t _ (bH (T:=EH) (xs:=l) (j:=(i:Int)) (by omega) (by omega));have hl:=hs.t;dsimp only at hl;clear g3 g4;generalize aG (T:=EH) l (i:Int)=th at hcp hpc hve htf hA F hth;obtain⟨e1,kd,o,e4,site,ds,fs⟩:=e;have het:=hp.et;dsimp only at het nmce nmfu hA F;subst het;refine aQ hcp ?_;dsimp only;rw[hpc,hve];refine eO (be rfl) ?_;refine aH (by omega) t1 (aW (aH htf.p0 htf.p1 (aW ?_)));have htz:th.2.2.1.length=th.2.1.length:=by have:=htf.r;have:=htf.t;omega
  have fin:∀(p:Int) (R:η) (T:Y η),R.length=th.2.1.length->T.length=th.2.2.1.length->(∀x∈T,TL (n+1) x)->Ok (nl (aG (T:=G4) q.2 (i:Int),(p,R,T,a9 .i64 (th.2.2.2+1)))) λy=>TH (n+1) y.1:=λp R T h1 h2 h3=>by
   have a1:=hth.e0;have a2:=hth.e1;have a3:=hth.r;have a4:=hth.t;rw[gJ (n:=th.2.2.2+1) (by omega) (by omega)];exact XK (n+1) hn _ hci hvt _ ⟨by dsimp only;omega,by dsimp only;omega,h3,by dsimp only;omega,by dsimp only;omega⟩
  have keep:∀x∈th.2.2.1,TL (n+1) x:=λx L=>(hth.l x L).mono (by omega)
  have mark:∀j:Int,∀x∈cj th.2.2.1 j [th.2.2.2],TL (n+1) x:=λj x L=>by
   rcases BG L with h|h
   .exact keep x h
   .rw[h];exact⟨⟨λy hy=>(by cases hy),trivial⟩,λy hy=>by rw[aJ]at hy;have:=hth.e0;have:=hth.e1;rw[hy];exact⟨by omega,by omega⟩⟩
  have nopark:TH (n+1) (th.1,th.2.1,th.2.2.1,a9 .i64 (th.2.2.2+1)):=by
   have a1:=hth.e0;have a2:=hth.e1;rw[gJ (n:=th.2.2.2+1) (by omega) (by omega)];exact⟨hth.r,hth.t,keep,by dsimp only;omega,by dsimp only;omega⟩
  have done:∀(ce' fu':η) (v':Int) (t':TT),TH (n+1) t'->SQ n q ((sy,ce',fu',l.set i t'),((i:Int),kd,o,v',site,ds,fs),M):=λce' fu' v' t' ht' _=>⟨⟨hsb,λx L=>(LI L).elim (λh=>(hl x h).mono (by omega)) λh=>h▸ht'⟩,⟨hev.nm,hev.t0,hev.t1,hev.cd⟩,hes⟩
  clear hp hs hc h0 h1 hcp g1 g2;generalize (aG (T:=UZ) (aG (T:=G4) q.2 (i:Int)).2 th.1)=ins at hA F ⊢;rcases kdx kd with rfl|rfl|rfl|rfl|rfl|rfl|rfl|rfl|⟨k1,k2,k3,k4,k5,k6,k7,k8⟩
  case inr.inr.inr.inr.inr.inr.inr.inr=>
   simp only[k1,k2,k3,k4,k5,k6,k7,k8,aN,aS,kJ];exact hk _ _ _ _ _ _ _ _ _ _ _ _ _ (λ_ _=>fin _ _ _ rfl rfl keep) (λh=>by rw[k2,k3]at h;exact (h.elim id id).elim) (done _ _ _) t1 _
  all_goals simp only[aN,aS,kJ]
  .exact hk _ _ _ _ _ _ _ _ _ _ _ _ _ (λ_ _=>fin _ _ _ rfl rfl keep) (λh=>by omega) (done _ _ _) t1 _
  .exact hk _ _ _ _ _ _ _ _ _ _ _ _ _ (λh _=>(h rfl).elim) (λ_=>nopark) (done _ _ _) t1 _
  .exact hk _ _ _ _ _ _ _ _ _ _ _ _ _ (λ_ h=>(h rfl).elim) (λ_=>nopark) (done _ _ _) t1 _
  .obtain⟨A,o1⟩:=nmce (.inl rfl);rw[<- hce]at o1;obtain⟨a0,a1⟩:=hA (.inl rfl);have a2:ins.2.1<(th.2.2.1.length:Int):=by rw[htz];exact a1
   refine fO (aH A o1 (aH A o1 (ai ?_)));simp only[aN,aS,kJ];refine fO (aH a0 a1 (aH a0 a1 (aH a0 a2 (aH a0 a2 (ai ?_)))));exact hk _ _ _ _ _ _ _ _ _ _ _ _ _ (λ_ _=>fin _ _ _ (cL ..) (cL ..) (mark _)) (λh=>by omega) (done _ _ _) t1 _
  .obtain⟨A,o1⟩:=nmfu (.inr rfl);rw[<- hfu]at o1;obtain⟨a0,a1⟩:=hA (.inr (.inl rfl));have a2:ins.2.1<(th.2.2.1.length:Int):=by rw[htz];exact a1
   refine fO (aH A o1 (aH A o1 (ai ?_)));simp only[aN,aS,kJ];refine fO (aH a0 a1 (aH a0 a1 (aH a0 a2 (aH a0 a2 (ai ?_)))));exact hk _ _ _ _ _ _ _ _ _ _ _ _ _ (λ_ _=>fin _ _ _ (cL ..) (cL ..) (mark _)) (λh=>by omega) (done _ _ _) t1 _
  .obtain⟨A,o1⟩:=nmce (.inr rfl);rw[<- hce]at o1;obtain⟨a0,a1⟩:=F (.inl rfl);refine fO (aH a0 a1 (aH a0 a1 (aH A o1 (aH A o1 (ai ?_)))));simp only[aN,aS,kJ];exact hk _ _ _ _ _ _ _ _ _ _ _ _ _ (λ_ _=>fin _ _ _ rfl rfl keep) (λh=>by omega) (done _ _ _) t1 _
  .obtain⟨A,o1⟩:=nmfu (.inl rfl);rw[<- hfu]at o1;obtain⟨a0,a1⟩:=F (.inr rfl);refine fO (aH a0 a1 (aH a0 a1 (aH A o1 (aH A o1 (ai ?_)))));simp only[aN,aS,kJ];exact hk _ _ _ _ _ _ _ _ _ _ _ _ _ (λ_ _=>fin _ _ _ rfl rfl keep) (λh=>by omega) (done _ _ _) t1 _
  .obtain⟨a0,a1⟩:=hA (.inr (.inr rfl));refine fO (aH a0 a1 (aH a0 a1 (aE (λ_=>ai ?_) λ_=>ai ?_)));all_goals
    simp only[aN,aS,kJ];exact hk _ _ _ _ _ _ _ _ _ _ _ _ _ (λ_ _=>fin _ _ _ rfl rfl keep) (λh=>by omega) (done _ _ _) t1 _
 .refine ⟨?_,λh1 h2=>(hz ⟨h1,h2⟩).elim⟩;unfold SG ub ze Prod.p12 aV ba bk bO cU fM ry um Prod.q10 Kj Prod.q13 bn cC gI GZ ck bf bG j7 aB;refine Hy hn hc hs (λo=>OW o (SQ n q)) (λy h=>.inr (ai h)) _ λe v sy hp he ha=>.inl ?_
  obtain⟨sy0,ce,fu,l⟩:=s;have vl:=hp.fs.vc.vl;by_cases hl:l.length=N
  .have ht:¬t=(i:Int):=λh=>hz ⟨hl,h⟩
   dsimp only;cases D (sy0,ce,fu,l) with
   |none=>rfl
   |some y=>rw[Si,bD ht];rfl
  .show av (D (sy0,ce,fu,l)) _=U;rw[h0 sy0 ce fu l (by have h1:l.length=q.2.length:=hp.fs.th;have:=hp.fs.vc.tl;have:=vl.t;omega) hl];rfl
theorem Ay {g W V:Type} {n:Nat} {s:CT} {i:Nat} {u:Int} {l:Y TT} {z:g} {t1:g->η->Y η->W} {q:W->V} {d:V->TT->Y TT} (F:∀R T t',d (q (t1 z R T)) t'=l.set i t'):KR n s i u l z (KG (i:Int) t1 q d):=by
 intro p sy kd o v A ds fs ce fu R T ev fin park done ht I;unfold KG ub aV ba bk bO cU fM ry um Prod.q10 Kj lB bf ir bG aB cu;dsimp only;have done:∀t',TH (n+1) t'->SQ n s ((sy,ce,fu,d (q (t1 z R T)) t'),((i:Int),kd,o,v,A,ds,fs),M):=λt' h=>by rw[F];exact done t' h
 by_cases h1:kd=16
 .subst h1;exact fO (fO (jr rfl (ai (jr rfl (ai (eO (be rfl) (ai (done _ (park (.inl rfl))))))))))
 by_cases h2:kd=2
 .subst h2;exact fO (fO (eO rfl (ai (jr rfl (ai (eO (be rfl) (ai (done _ (park (.inr rfl))))))))))
 rw[bD h1,bD h2];exact fO (fO (eO rfl (ai (eO rfl (aH (ey i) ht (aW (ar (fin h1 h2) λy D=>ai (eO (be rfl) (ai (done _ D))))))))))
theorem XB {n:Nat} (hn:n+1<=100000) (q:CT) (s:ST) (t u:Int) (hc:CB q) (hs:SV n s):OW (mY (q,s,t,u)) (SQ n q)/\(s.2.2.2.length=4->t=0->Ok (mY (q,s,t,u)) (SQ n q)):=by
 refine Ax 4 0 hn q s t u hc hs Sa λsy ce fu l hs hce hfu hl=>⟨by decide,?_⟩
 obtain⟨a,b,c,d,rfl⟩:∃a b c d,l=[a,b,c,d]:=by
  rcases l with _|⟨a,_|⟨b,_|⟨c,_|⟨d,_|⟨e,l⟩⟩⟩⟩⟩;all_goals first|exact⟨_,_,_,_,rfl⟩|(simp at hl;done)|(exfalso;simp only[cf]at hl;omega)
 refine ⟨_,X1 sy ce fu a b c d hs hce hfu,rfl,rfl,rfl,rfl,rfl,rfl,Ay λR T t'=>rfl⟩
theorem XA {n:Nat} (hn:n+1<=100000) (q:CT) (s:ST) (t u:Int) (hc:CB q) (hs:SV n s):OW (mX (q,s,t,u)) (SQ n q)/\(s.2.2.2.length=4->t=1->Ok (mX (q,s,t,u)) (SQ n q)):=by
 refine Ax 4 1 hn q s t u hc hs R_ λsy ce fu l hs hce hfu hl=>⟨by decide,?_⟩
 obtain⟨a,b,c,d,rfl⟩:∃a b c d,l=[a,b,c,d]:=by
  rcases l with _|⟨a,_|⟨b,_|⟨c,_|⟨d,_|⟨e,l⟩⟩⟩⟩⟩;all_goals first|exact⟨_,_,_,_,rfl⟩|(simp at hl;done)|(exfalso;simp only[cf]at hl;omega)
 refine ⟨_,X0 sy ce fu a b c d hs hce hfu,rfl,rfl,rfl,rfl,rfl,rfl,Ay λR T t'=>rfl⟩
theorem Xz {n:Nat} (hn:n+1<=100000) (q:CT) (s:ST) (t u:Int) (hc:CB q) (hs:SV n s):OW (lx (q,s,t,u)) (SQ n q)/\(s.2.2.2.length=4->t=2->Ok (lx (q,s,t,u)) (SQ n q)):=by
 refine Ax 4 2 hn q s t u hc hs R9 λsy ce fu l hs hce hfu hl=>⟨by decide,?_⟩
 obtain⟨a,b,c,d,rfl⟩:∃a b c d,l=[a,b,c,d]:=by
  rcases l with _|⟨a,_|⟨b,_|⟨c,_|⟨d,_|⟨e,l⟩⟩⟩⟩⟩;all_goals first|exact⟨_,_,_,_,rfl⟩|(simp at hl;done)|(exfalso;simp only[cf]at hl;omega)
 refine ⟨_,XZ sy ce fu a b c d hs hce hfu,rfl,rfl,rfl,rfl,rfl,rfl,Ay λR T t'=>rfl⟩
theorem Xy {n:Nat} (hn:n+1<=100000) (q:CT) (s:ST) (t u:Int) (hc:CB q) (hs:SV n s):OW (kj (q,s,t,u)) (SQ n q)/\(s.2.2.2.length=4->t=3->Ok (kj (q,s,t,u)) (SQ n q)):=by
 refine Ax 4 3 hn q s t u hc hs R8 λsy ce fu l hs hce hfu hl=>⟨by decide,?_⟩
 obtain⟨a,b,c,d,rfl⟩:∃a b c d,l=[a,b,c,d]:=by
  rcases l with _|⟨a,_|⟨b,_|⟨c,_|⟨d,_|⟨e,l⟩⟩⟩⟩⟩;all_goals first|exact⟨_,_,_,_,rfl⟩|(simp at hl;done)|(exfalso;simp only[cf]at hl;omega)
 refine ⟨_,XY sy ce fu a b c d hs hce hfu,rfl,rfl,rfl,rfl,rfl,rfl,Ay λR T t'=>rfl⟩
theorem XE {n:Nat} (hn:n+1<=100000) (q:CT) (s:ST) (t u:Int) (hc:CB q) (hs:SV n s):OW (jt (q,s,t,u)) (SQ n q)/\(s.2.2.2.length=3->t=0->Ok (jt (q,s,t,u)) (SQ n q)):=by
 refine Ax 3 0 hn q s t u hc hs Sd λsy ce fu l hs hce hfu hl=>⟨by decide,?_⟩
 obtain⟨a,b,c,rfl⟩:∃a b c,l=[a,b,c]:=by
  rcases l with _|⟨a,_|⟨b,_|⟨c,_|⟨d,_|⟨e,l⟩⟩⟩⟩⟩;all_goals first|exact⟨_,_,_,rfl⟩|(simp at hl;done)|(exfalso;simp only[cf]at hl;omega)
 refine ⟨_,X4 sy ce fu a b c hs hce hfu,rfl,rfl,rfl,rfl,rfl,rfl,Ay λR T t'=>rfl⟩
theorem XD {n:Nat} (hn:n+1<=100000) (q:CT) (s:ST) (t u:Int) (hc:CB q) (hs:SV n s):OW (iD (q,s,t,u)) (SQ n q)/\(s.2.2.2.length=3->t=1->Ok (iD (q,s,t,u)) (SQ n q)):=by
 refine Ax 3 1 hn q s t u hc hs Sc λsy ce fu l hs hce hfu hl=>⟨by decide,?_⟩
 obtain⟨a,b,c,rfl⟩:∃a b c,l=[a,b,c]:=by
  rcases l with _|⟨a,_|⟨b,_|⟨c,_|⟨d,_|⟨e,l⟩⟩⟩⟩⟩;all_goals first|exact⟨_,_,_,rfl⟩|(simp at hl;done)|(exfalso;simp only[cf]at hl;omega)
 refine ⟨_,X3 sy ce fu a b c hs hce hfu,rfl,rfl,rfl,rfl,rfl,rfl,Ay λR T t'=>rfl⟩
theorem XC {n:Nat} (hn:n+1<=100000) (q:CT) (s:ST) (t u:Int) (hc:CB q) (hs:SV n s):OW (gU (q,s,t,u)) (SQ n q)/\(s.2.2.2.length=3->t=2->Ok (gU (q,s,t,u)) (SQ n q)):=by
 refine Ax 3 2 hn q s t u hc hs Sb λsy ce fu l hs hce hfu hl=>⟨by decide,?_⟩
 obtain⟨a,b,c,rfl⟩:∃a b c,l=[a,b,c]:=by
  rcases l with _|⟨a,_|⟨b,_|⟨c,_|⟨d,_|⟨e,l⟩⟩⟩⟩⟩;all_goals first|exact⟨_,_,_,rfl⟩|(simp at hl;done)|(exfalso;simp only[cf]at hl;omega)
 refine ⟨_,X2 sy ce fu a b c hs hce hfu,rfl,rfl,rfl,rfl,rfl,rfl,Ay λR T t'=>rfl⟩
theorem XG {n:Nat} (hn:n+1<=100000) (q:CT) (s:ST) (t u:Int) (hc:CB q) (hs:SV n s):OW (gy (q,s,t,u)) (SQ n q)/\(s.2.2.2.length=2->t=0->Ok (gy (q,s,t,u)) (SQ n q)):=by
 refine Ax 2 0 hn q s t u hc hs Sf λsy ce fu l hs hce hfu hl=>⟨by decide,?_⟩
 obtain⟨a,b,rfl⟩:∃a b,l=[a,b]:=by
  rcases l with _|⟨a,_|⟨b,_|⟨c,_|⟨d,_|⟨e,l⟩⟩⟩⟩⟩;all_goals first|exact⟨_,_,rfl⟩|(simp at hl;done)|(exfalso;simp only[cf]at hl;omega)
 refine ⟨_,X6 sy ce fu a b hs hce hfu,rfl,rfl,rfl,rfl,rfl,rfl,Ay λR T t'=>rfl⟩
theorem XF {n:Nat} (hn:n+1<=100000) (q:CT) (s:ST) (t u:Int) (hc:CB q) (hs:SV n s):OW (fP (q,s,t,u)) (SQ n q)/\(s.2.2.2.length=2->t=1->Ok (fP (q,s,t,u)) (SQ n q)):=by
 refine Ax 2 1 hn q s t u hc hs Se λsy ce fu l hs hce hfu hl=>⟨by decide,?_⟩
 obtain⟨a,b,rfl⟩:∃a b,l=[a,b]:=by
  rcases l with _|⟨a,_|⟨b,_|⟨c,_|⟨d,_|⟨e,l⟩⟩⟩⟩⟩;all_goals first|exact⟨_,_,rfl⟩|(simp at hl;done)|(exfalso;simp only[cf]at hl;omega)
 refine ⟨_,X5 sy ce fu a b hs hce hfu,rfl,rfl,rfl,rfl,rfl,rfl,Ay λR T t'=>rfl⟩
theorem XH {n:Nat} (hn:n+1<=100000) (q:CT) (s:ST) (t u:Int) (hc:CB q) (hs:SV n s):OW (fQ (q,s,t,u)) (SQ n q)/\(s.2.2.2.length=1->t=0->Ok (fQ (q,s,t,u)) (SQ n q)):=by
 refine Ax 1 0 hn q s t u hc hs Sg λsy ce fu l hs hce hfu hl=>⟨by decide,?_⟩
 obtain⟨a,rfl⟩:∃a,l=[a]:=by
  rcases l with _|⟨a,_|⟨b,_|⟨c,_|⟨d,_|⟨e,l⟩⟩⟩⟩⟩;all_goals first|exact⟨_,rfl⟩|(simp at hl;done)|(exfalso;simp only[cf]at hl;omega)
 refine ⟨_,X7 sy ce fu a hs hce hfu,rfl,rfl,rfl,rfl,rfl,rfl,Ay λR T t'=>rfl⟩
theorem XI {n:Nat} (hn:n+1<=100000) (c:CT) (s:ST) (t u:Int) (hc:CB c) (hs:SV n s):Ok (zm (c,s,t,u)) (SQ n c):=by
 unfold zm;have d:=XB hn c s t u hc hs;have q:=XA hn c s t u hc hs;have z:=Xz hn c s t u hc hs;have A:=Xy hn c s t u hc hs;have D:=XE hn c s t u hc hs;have F:=XD hn c s t u hc hs;have I:=XC hn c s t u hc hs;have L:=XG hn c s t u hc hs;have a21:=XF hn c s t u hc hs;have a10:=XH hn c s t u hc hs;by_cases hz:s.2.2.2.length<=4/\0<=t/\t<(s.2.2.2.length:Int)
 .obtain⟨h1,h2,h3⟩:=hz;have:(s.2.2.2.length=4/\t=0)\/(s.2.2.2.length=4/\t=1)\/(s.2.2.2.length=4/\t=2)\/(s.2.2.2.length=4/\t=3)\/(s.2.2.2.length=3/\t=0)\/(s.2.2.2.length=3/\t=1)\/(s.2.2.2.length=3/\t=2)\/(s.2.2.2.length=2/\t=0)\/(s.2.2.2.length=2/\t=1)\/(s.2.2.2.length=1/\t=0):=by omega
  rcases this with h|h|h|h|h|h|h|h|h|h
  .exact (d.2 h.1 h.2).orL
  .exact d.1.orR (q.2 h.1 h.2).orL
  .exact d.1.orR (q.1.orR (z.2 h.1 h.2).orL)
  .exact d.1.orR (q.1.orR (z.1.orR (A.2 h.1 h.2).orL))
  .exact d.1.orR (q.1.orR (z.1.orR (A.1.orR (D.2 h.1 h.2).orL)))
  .exact d.1.orR (q.1.orR (z.1.orR (A.1.orR (D.1.orR (F.2 h.1 h.2).orL))))
  .exact d.1.orR (q.1.orR (z.1.orR (A.1.orR (D.1.orR (F.1.orR (I.2 h.1 h.2).orL)))))
  .exact d.1.orR (q.1.orR (z.1.orR (A.1.orR (D.1.orR (F.1.orR (I.1.orR (L.2 h.1 h.2).orL))))))
  .exact d.1.orR (q.1.orR (z.1.orR (A.1.orR (D.1.orR (F.1.orR (I.1.orR (L.1.orR (a21.2 h.1 h.2).orL)))))))
  .exact d.1.orR (q.1.orR (z.1.orR (A.1.orR (D.1.orR (F.1.orR (I.1.orR (L.1.orR (a21.1.orR (a10.2 h.1 h.2)))))))))
 .refine Ok.orL ?_;unfold mY aV ba cC;refine Hy hn hc hs (λo=>Ok o (SQ n c)) (λy h=>ai h) _ λe v sy hp he ha=>(hz ?_).elim
  have h1:s.2.2.2.length=c.2.length:=hp.fs.th;have h2:c.2.length=c.1.2.2.2.2.1.length:=hp.fs.vc.tl;have h3:c.1.2.2.2.2.1.length<=4:=hp.fs.vc.vl.t;have h4:0<=t:=hp.t0;have h5:t<(c.2.length:Int):=hp.t1;exact⟨by omega,h4,by omega⟩
theorem acm (c:CT) (s:ST) (l:Y Γ) (hc:CB c) (hs:SV 0 s) (hl:l.length<=9223372036854775806):Ok (vp (c,s,l)) λy=>y.1.length<=400/\∀e∈y.1,Ym c.1 e/\UT e:=by
 unfold vp aV ba cC bx bo bG aY cI aB cu;refine my (λx=>((l.length:Int)-x.1).toNat) (λx=>0<=x.1/\x.2.2.1=c/\SV x.2.1.length x.2.2.2.1/\x.2.1.length<=400/\∀e∈x.2.1,Ym c.1 e/\UT e) ?_ ⟨gp _,rfl,hs,by simp,λe he=>(by cases he)⟩;rintro⟨(i:Int),es,c',s',z⟩ ⟨D,e1,e2,e3,d⟩;dsimp only at D e1 e2 e3 d;subst e1;refine aX (λx=>x.2=(es,c',s',z)/\(x.1=M->i<(l.length:Int)/\es.length<400)) ?_ ?_
 .refine aR (λg=>ai ⟨rfl,λh=>⟨g,?_⟩⟩) λ_=>ai ⟨rfl,λh=>(by cases h)⟩
  dsimp only at h;rw[mB]at h;dsimp only[aj]at h;omega
 rintro⟨b,x⟩ ⟨I,F⟩;dsimp only at I F;subst I;refine aK (λh=>?_) λ_=>ai ⟨e3,d⟩
 obtain⟨g1,g2⟩:=F h;refine aX (λx=>x.2.1=c'/\SV x.1.length x.2.2.1/\x.1.length<=400/\∀e∈x.1,Ym c'.1 e/\UT e) ?_ ?_
 .refine aH D g1 (aW ?_);refine ar (XI (n:=es.length) (by omega) c' s' _ _ hc e2) λy L=>?_
  refine aK (λh=>?_) λ_=>ai ⟨rfl,e2,e3,d⟩
  obtain⟨h1,h2,h3⟩:=L h;refine aZ (by simp;omega) (by omega) (ai ⟨rfl,?_,by simp;omega,λe he=>?_⟩)
  .dsimp only;rw[b6,cS];exact h1
  .rcases bN.1 he with he|he
   .exact d e he
   .rw[aJ]at he;subst he;exact⟨h2,h3⟩
 rintro⟨es',c2,s2,z2⟩ ⟨k1,k2,A,q⟩;dsimp only at k1 k2 A q;subst k1;refine ai ?_;dsimp only;rw[gJ (n:=i+1) (by omega) (by omega)];exact⟨⟨by omega,rfl,k2,A,q⟩,by omega⟩
theorem agh (c:CT) (l:Y Γ) (hc:CB c) (hl:l.length<=9223372036854775806):Ok (yh (c,l)) λy=>TR y.1:=by
 unfold yh;refine ar (J3 c hc) λb hb=>?_
 refine cX (λ_=>ai ⟨by simp,λe he=>(by cases he)⟩) λh=>?_
 have hv:=hb h;refine ar (UL c hc) λs hs=>?_
 refine ar (acm c s l hc hs hl) λy d=>ai ?_
 exact⟨by have:=d.1;dsimp only;omega,λe he=>(d.2 e he).2⟩
theorem UV (l:η) (hl:l.length<=1000000):Ok (oC l) λy=>y.length=l.length:=by
 unfold oC bx bo bG aY cI aB cu;refine cg l.length (λi x=>x.1=(i:Int)/\x.2.length=i) ?_ ?_ ⟨rfl,rfl⟩
 .rintro i ⟨a,b⟩ hi ⟨e1,e2⟩;dsimp only at e1 e2;subst e1;refine aR (λ_=>?_) λg=>(by dsimp only[aj]at g;omega)
  refine aH (by dsimp only;omega) (by dsimp only;omega) (aW (aH (by dsimp only;omega) (by dsimp only;omega) (aW (aZ (by simp;omega) (by omega) (ai ?_)))));dsimp only;exact⟨fx (by omega),by simp;omega⟩
 .rintro⟨a,b⟩ ⟨e1,e2⟩;dsimp only at e1 e2;subst e1;exact aR (λg=>(by dsimp only[aj]at g;omega)) λ_=>ai e2
theorem e_ (e:Xp):d8 (Xp.op e,Xp.n e,Xp.name e,Xp.l e)=e:=by cases e;rfl
theorem xZ (s:Sx):oD (Sx.op s,Sx.line s,Sx.name s,Sx.arg s,Sx.index s,Sx.expr s,Sx.body s,Sx.els s)=s:=by cases s;rfl
def GE:Nat->Xp->Prop
 |0,_=>False
 |d+1,e=>(e.op=3->e.name=[113])/\(e.op≠1->e.op≠2->1<=e.l.length)/\e.l.length<=2/\∀x∈e.l,GE d x
theorem GE.mono:∀{d:Nat} {e:Xp},GE d e->GE (d+1) e
 |0,_,h=>h.elim
 |_+1,_,h=>⟨h.1,h.2.1,h.2.2.1,λx q=>(h.2.2.2 x q).mono⟩
theorem GE.le {d k:Nat} {e:Xp} (h:GE d e) (hk:d<=k):GE k e:=by
 induction hk with
 |refl=>exact h
 |step _ q=>exact q.mono
theorem Np (n:Int):qZ n=Z (.mk 1 n [] []):=rfl
theorem G8 (s:ζ):pw s=Z (.mk 2 0 s []):=rfl
theorem Em (o:Int) (a b:Xp):nJ (o,a,b)=Z (.mk o 0 [] [a,b]):=by
 cases a;cases b;rfl
theorem tf (s:ζ) (e:Xp):jq (s,e)=Z (.mk 1 0 s [] [] e [] []):=by
 cases e;rfl
abbrev MK:Type:=Int×Int×Bool×Bool×Bool×Bool
abbrev OE:Type:=η×Int
abbrev HD:Type:=Bool×Y ζ
theorem GE.num (n:Int) (d:Nat):GE (d+1) (.mk 1 n [] []):=⟨λh=>(by cases h),λh=>(h rfl).elim,by simp[Xp.l],λx q=>(by cases q)⟩
theorem GE.nm (s:ζ) (d:Nat):GE (d+1) (.mk 2 0 s []):=⟨λh=>(by cases h),λ_ h=>(h rfl).elim,by simp[Xp.l],λx q=>(by cases q)⟩
theorem GE.bin {o:Int} {a b:Xp} {d:Nat} (s:o≠3) (z:GE d a) (hb:GE d b):GE (d+1) (.mk o 0 [] [a,b]):=
 ⟨λh=>(s h).elim,λ_ _=>by simp[Xp.l],by simp[Xp.l],λx q=>by
   simp only[Xp.l,bu,cE,gH]at q;rcases q with rfl|rfl
   .exact z
   .exact hb⟩
theorem GE.ix {a:Xp} {d:Nat} (s:GE d a):GE (d+1) (.mk 3 0 [113] [a]):=
 ⟨λ_=>rfl,λ_ _=>by simp[Xp.l],by simp[Xp.l],λx q=>by
   simp only[Xp.l,bu,cE,gH]at q;rw[q];exact s⟩
theorem Cl:∀(n d:Nat),d<n->d<=10->∀(m:MK) (t:OE) (h:HD),TP t->Ok (ik n ((d:Int),m,t,h)) λy=>GE (d+1) y.1/\y.2.1=m/\uj t y.2.2.1/\y.2.2.2=h
 |0,d,hd,_,_,_,_,_=>by omega
 |n+1,d,hd,h10,m,t,h,ht=>by
  rw[xO];unfold nS aV ba bn cC ci bf bx bo j7 aY aB;refine ar (gj 10 t ht) λy q=>?_
  obtain⟨k,t1⟩:=y;obtain⟨s1,k0,k1,_⟩:=q;have k1:=k1 (by decide);dsimp only at s1 k0 k1;refine aX (λx=>x.2=(m,t1,h,(0,0,[]),[[97],[98],[120],[121],[118],[120],[121]])/\(x.1=aa->2<=k/\(d=0->k<7))) ?_ ?_
  .refine aR (λ_=>ai ⟨rfl,λh=>(by cases h)⟩) λg=>aE (λg2=>ai ⟨rfl,λL=>⟨g,λ_=>?_⟩⟩) λg2=>ai ⟨rfl,λ_=>⟨g,λh=>(g2 (by dsimp only;omega)).elim⟩⟩
   dsimp only at L;rw[ko]at L;exact L
  rintro⟨b,x⟩ ⟨e,hb⟩;dsimp only at e hb;subst e;refine aK (λ_=>?_) λg=>?_
  .refine ar (gj 4 t1 s1.p) λy q=>?_
   refine aQ (Np _) (ai ?_);exact⟨GE.num _ _,rfl,s1.trans q.1,rfl⟩
  obtain⟨q0,q1⟩:=hb g;refine aR (λg=>?_) λg=>?_
  .refine ar (gj _ t1 s1.p) λy q=>?_
   obtain⟨I,A,s,_⟩:=q;have s:=s (show (1:Int)<=7 by decide);refine aH A s (aH A s (aW ?_));refine aQ (G8 _) (ai ?_);exact⟨GE.nm _ _,rfl,s1.trans I,rfl⟩
  dsimp only at g;have hd0:d≠0:=λh=>by have:=q1 h;omega
  obtain⟨d,rfl⟩:∃k,d=k+1:=⟨d-1,by omega⟩
  refine aE (λg=>?_) λg=>?_
  .refine ar (Cl n 0 (by omega) (by omega) m t1 h s1.p) λy q=>?_
   obtain⟨e,m',t',h'⟩:=y;obtain⟨v1,v2,D,F⟩:=q;dsimp only at v1 v2 D F;subst v2;subst F;refine a8 (by simp) (ai ?_);dsimp only;rw[e_];exact⟨(GE.ix (v1.le (by omega):GE (d+1) e)),rfl,s1.trans D,rfl⟩
  .refine ar (gj _ t1 s1.p) λy q=>?_
   obtain⟨k2,t2⟩:=y;obtain⟨I,A,s,_⟩:=q;have s:=s (by decide);dsimp only at I A s;refine aH A s (aH A s (aW ?_));have ho:aG (T:=.int .i64) [6,7,8,11,13,17] k2≠(3:Int):=by
    have h1:=bH (T:=.int .i64) (xs:=([6,7,8,11,13,17]:η)) A s;have:∀z:Int,z∈([6,7,8,11,13,17]:η)->z≠3:=by decide
    exact this _ h1
   have ew:a9 .i64 (((d+1:Nat):Int)-1)=(d:Int):=by rw[gJ (by omega) (by omega)];omega
   dsimp only;rw[ew];refine ar (Cl n d (by omega) (by omega) m t2 h I.p) λy q=>?_
   obtain⟨e,m',t',h'⟩:=y;obtain⟨v1,v2,D,F⟩:=q;dsimp only at v1 v2 D F;subst v2;subst F;refine a8 (by simp) ?_;refine ar (Cl n d (by omega) (by omega) m' t' h' D.p) λy q=>?_
   obtain⟨e2,m2,t2',h2⟩:=y;obtain⟨w1,w2,w3,w4⟩:=q;dsimp only at w1 w2 w3 w4;subst w2;subst w4;refine a8 (by simp) ?_;refine aQ (Em _ _ _) (ai ?_);dsimp only;rw[e_];exact⟨GE.bin ho v1 w1,rfl,s1.trans (I.trans (D.trans w3)),rfl⟩
theorem Y4 (d:Nat) (hd:d<=10) (m:MK) (t:OE) (h:HD) (ht:TP t):Ok (eZ ((d:Int),m,t,h)) λy=>GE (d+1) y.1/\y.2.1=m/\uj t y.2.2.1/\y.2.2.2=h:=Cl fuel d (by rw[qu];omega) hd m t h ht
def NE (op:Int):Prop:=op=1\/op=2\/op=3\/op=14
def ZE (e:Xp):Prop:=GE 4 e\/e= .mk 0 0 [] []
def GS:Nat->Sx->Prop
 |0,_=>False
 |d+1,s=>(s.index≠[]->s.name=[113])/\s.index.length<=1/\(∀e∈s.index,GE 4 e)/\(NE s.op->GE 4 s.expr)/\ZE s.expr/\s.body.length<=8/\s.els.length<=8/\(∀x∈s.body,GS d x)/\(∀x∈s.els,GS d x)
theorem GS.mono:∀{d:Nat} {s:Sx},GS d s->GS (d+1) s
 |0,_,h=>h.elim
 |_+1,_,⟨a,b,c,e,f,g,i,j,k⟩=>⟨a,b,c,e,f,g,i,λx q=>(j x q).mono,λx q=>(k x q).mono⟩
theorem GS.le {d k:Nat} {s:Sx} (h:GS d s) (hk:d<=k):GS k s:=by
 induction hk with
 |refl=>exact h
 |step _ q=>exact q.mono
theorem GS.asg {d:Nat} (s:ζ) {e:Xp} (h:GE 4 e):GS (d+1) (.mk 1 0 s [] [] e [] []):=
 ⟨λh=>(h rfl).elim,by simp[Sx.index],λe he=>(by cases he),λ_=>h,.inl h,by simp[Sx.body],by simp[Sx.els],λx q=>(by cases q),λx q=>(by cases q)⟩
theorem GS.aix {d:Nat} {i e:Xp} (hi:GE 4 i) (h:GE 4 e):GS (d+1) (.mk 1 0 [113] [] [i] e [] []):=
 ⟨λ_=>rfl,by simp[Sx.index],λe he=>(by simp only[Sx.index,aJ]at he;rw[he];exact hi),λ_=>h,.inl h,by simp[Sx.body],by simp[Sx.els],λx q=>(by cases q),λx q=>(by cases q)⟩
theorem GS.we {d:Nat} {op:Int} {s a:ζ} {e:Xp} {b l:Y Sx} (h:GE 4 e) (hb:b.length<=8) (hl:l.length<=8) (q:∀x∈b,GS d x) (gl:∀x∈l,GS d x):GS (d+1) (.mk op 0 s a [] e b l):=
 ⟨λh=>(h rfl).elim,by simp[Sx.index],λe he=>(by cases he),λ_=>h,.inl h,hb,hl,q,gl⟩
theorem GS.wo {d:Nat} {op q:Int} {s a:ζ} {b:Y Sx} (D:4<=op/\op≠14) (hb:b.length<=8) (A:∀x∈b,GS d x):GS (d+1) (.mk op q s a [] (.mk 0 0 [] []) b []):=
 ⟨λh=>(h rfl).elim,by simp[Sx.index],λe he=>(by cases he),λh=>(by have h:op=1\/op=2\/op=3\/op=14:=h;omega),.inr rfl,hb,by simp[Sx.els],A,λx z=>(by cases z)⟩
def QS (d:Nat) (n:Int) (t:OE) (h:HD) (y:MK×OE×HD×Y Sx):Prop:=(y.2.2.2.length:Int)<=max 0 n/\(∀s∈y.2.2.2,GS (d+1) s)/\uj t y.2.1/\y.2.2.1.2=h.2
def QT (d:Nat) (t:OE) (h:HD) (y:Sx×MK×OE×HD):Prop:=GS (d+1) y.1/\uj t y.2.2.1/\y.2.2.2.2=h.2
def QB (d:Nat) (t:OE) (h:HD) (y:Y Sx×MK×OE×HD):Prop:=y.1.length<=2/\(∀s∈y.1,GS (d+1) s)/\uj t y.2.2.1/\y.2.2.2.2=h.2
abbrev RS:Type:=(Γ×MK×OE×HD)->J (MK×OE×HD×Y Sx)
abbrev RT:Type:=(Int×MK×OE×HD)->J (Sx×MK×OE×HD)
abbrev RBk:Type:=((ζ×Int)×MK×OE×HD)->J (Y Sx×MK×OE×HD)
def SpS (rs:RS) (d:Nat):Prop:=∀(n:Int) (m:MK) (t:OE) (h:HD),n<=3->TP t->h.2.length+d<=100->Ok (rs (((d:Int),n),m,t,h)) (QS d n t h)
def SpT (q:RT) (d:Nat):Prop:=∀(m:MK) (t:OE) (h:HD),TP t->h.2.length+d<=100->Ok (q ((d:Int),m,t,h)) (QT d t h)
def SpB (q:RBk) (d:Nat):Prop:=∀(s:ζ) (m:MK) (t:OE) (h:HD),TP t->h.2.length+1+d<=100->Ok (q ((s,(d:Int)),m,t,h)) (QB d t h)
theorem WN (rs:RS) (A:RT) (L:RBk) (d:Nat) (ht:SpT A d):SpS (mG rs A L) d:=by
 intro n m t h hn hp hh;unfold mG aV ba bk bn cC ci bf bx bo cI aB cu dW;refine my (λx=>(n-x.1).toNat) (λx=>0<=x.1/\(x.1<=n\/x.1=0)/\uj t x.2.2.1/\(x.2.2.2.1.length:Int)<=x.1/\(∀s∈x.2.2.2.1,GS (d+1) s)/\x.2.2.2.2.2=h.2) ?_ ⟨gp _,.inr rfl,uj.refl hp,by simp,λs hs=>(by cases hs),rfl⟩;rintro⟨(i:Int),m',t',l,h'⟩ ⟨i0,i1,e1,e2,e3,z⟩;dsimp only at i0 i1 e1 e2 e3 z;refine aX (λx=>x.2=(m',t',l,h')/\(x.1=M->i<n)) ?_ ?_
 .refine aR (λg=>aE (λ_=>ai ⟨rfl,λ_=>g⟩) λ_=>ai ⟨rfl,λ_=>g⟩) λ_=>ai ⟨rfl,λh=>(by cases h)⟩
 rintro⟨b,x⟩ ⟨I,F⟩;dsimp only at I F;subst I;refine aK (λhb=>?_) λ_=>ai ⟨by dsimp only;omega,e3,e1,z⟩
 have g:=F hb;refine ar (ht m' t' h' e1.p (by rw[z];exact hh)) λy hy=>?_
 obtain⟨s,m2,t2,h2⟩:=y;obtain⟨k1,k2,D⟩:=hy;dsimp only at k1 k2 D;refine a8 (by simp) (aZ (by simp;omega) (by omega) (ai ?_));dsimp only;rw[e_,xZ,gJ (n:=i+1) (by omega) (by omega)];refine ⟨⟨by omega,by omega,e1.trans k2,by simp;omega,λx q=>?_,D.trans z⟩,by omega⟩;rcases bN.1 q with q|q
 .exact e3 x q
 .rw[aJ]at q;subst q;exact k1
theorem WP (rs:RS) (L:RT) (rb:RBk) (d:Nat) (hs:SpS rs d):SpB (mH rs L rb) d:=by
 intro s m t h hp hh;unfold mH aV ba bn cC bo aY;refine aZ (by simp;omega) (by omega) ?_;refine ar (gj 2 t hp) λy A=>?_
 obtain⟨k,t1⟩:=y;obtain⟨z,I,q,_⟩:=A;have q:=q (by decide);dsimp only at z I q;have ew:a9 .i64 (1+k)=1+k:=gJ (by omega) (by omega);dsimp only;rw[ew];refine ar (hs (1+k) m t1 (h.1,h.2++[s]) (by omega) z.p (by simp;omega)) λy A=>?_
 obtain⟨m2,t2,h2,l⟩:=y;obtain⟨k1,k2,F,D⟩:=A;dsimp only at k1 k2 F D;refine a8 (by simp) ?_;dsimp only;rw[D];have el:a9 .i64 ((aU (h.2++[s]).length)-1)=(h.2.length:Int):=by
  rw[b6,cS,gJ (by simp<;>omega) (by simp<;>omega)];simp<;>omega
 rw[el];refine cK (cY (by omega) (rE (by simp;omega) (ai ?_)));refine ⟨by dsimp only;omega,k2,z.trans F,?_⟩;show cM (aP (h.2.length:Int)) (h.2++[s])=h.2;simp
theorem B_ (s:ζ) (m:MK) (t:OE) (h:HD) (hh:h.2.length<=100):Ok (eC (s,m,t,h)) λy=>y.2=(m,t,h):=by
 unfold eC cC;exact ar (AB h.2 s (by omega)) λy _=>ai rfl
theorem Zx (rs:RS) (rt:RT) (rb:RBk) (d:Nat) (hd:d<=5) (h0:1<=d->SpS rs 0) (hS:1<=d->SpS rs (d-1)) (hB:1<=d->SpB rb (d-1)):SpT (nR rs rt rb) d:=by
 intro m t h hp hh;unfold nR aV ba bk bn cC ci bf bx bo j7 aB dW;refine ar (gj 18 t hp) λy A=>?_
 obtain⟨k,t1⟩:=y;obtain⟨s1,k0,k1,_⟩:=A;have k1:=k1 (by decide);dsimp only at s1 k0 k1;have hE:∀(j:Nat) (m':MK) (t':OE) (h':HD),j<=1->TP t'->Ok (eZ ((j:Int),m',t',h')) λy=>GE 4 y.1/\y.2.1=m'/\uj t' y.2.2.1/\y.2.2.2=h':=λj m' t' h' hj ht'=>(Y4 j (by omega) m' t' h' ht').mono λy A=>⟨A.1.le (by omega),A.2⟩
 have ed:a9 .i64 ((d:Int)-1)=(d:Int)-1:=gJ (by omega) (by omega);have ed1:1<=d->(d:Int)-1=((d-1:Nat):Int):=λ_=>by omega
 refine aX (λx=>x.2=((m.1,a9 .i64 (m.2.1-1),m.2.2),t1,(0,0,[],[],0,0,[]),h)/\(x.1=M->1<=d)) ?_ ?_
 .refine aR (λg=>aW (aR (λ_=>ai ⟨rfl,λ_=>?_⟩) λ_=>ai ⟨rfl,λh=>(by cases h)⟩)) λ_=>ai ⟨rfl,λh=>(by cases h)⟩
  dsimp only at g;omega
 generalize ((m.1,a9 .i64 (m.2.1-1),m.2.2):MK)=m0;rintro⟨nest,x⟩ ⟨e,hn⟩;dsimp only at e hn;subst e;refine aR (λ_=>?_) λg4=>?_
 .refine aH k0 (by dsimp only[ah];omega) (aH k0 (by dsimp only[ah];omega) (aW ?_));refine ar (hE 1 m0 t1 h (by omega) s1.p) λy A=>?_
  obtain⟨e,m2,t2,h2⟩:=y;obtain⟨v1,v2,v3,v4⟩:=A;dsimp only at v1 v2 v3 v4;subst v2;subst v4;refine a8 (by simp) (aQ (tf _ _) (ai ?_));dsimp only;rw[e_,xZ];exact⟨GS.asg _ v1,s1.trans v3,rfl⟩
 dsimp only at g4;refine aE (λ_=>?_) λg5=>?_
 .refine ar (gj 2 t1 s1.p) λy A=>?_
  obtain⟨u1,u2,u3,_⟩:=A;have u3:=u3 (by decide);refine aH u2 u3 (aH u2 u3 (aW ?_));refine ar (hE 1 m0 y.2 h (by omega) u1.p) λz D=>?_
  obtain⟨e,m2,t2,h2⟩:=z;obtain⟨v1,v2,v3,v4⟩:=D;dsimp only at v1 v2 v3 v4;subst v2;subst v4;refine a8 (by simp) (aQ (tf _ _) (ai ?_));dsimp only;rw[e_,xZ];exact⟨GS.asg _ v1,s1.trans (u1.trans v3),rfl⟩
 dsimp only at g5;refine aE (λ_=>?_) λg6=>?_
 .refine ar (hE 0 m0 t1 h (by omega) s1.p) λz D=>?_
  obtain⟨e,m2,t2,h2⟩:=z;obtain⟨v1,v2,v3,v4⟩:=D;dsimp only at v1 v2 v3 v4;subst v2;subst v4;refine a8 (by simp) ?_;refine ar (hE 1 m2 t2 h2 (by omega) v3.p) λz D=>?_
  obtain⟨e',m3,t3,h3⟩:=z;obtain⟨w1,w2,L,I⟩:=D;dsimp only at w1 w2 L I;subst w2;subst I;refine a8 (by simp) (ai ?_);dsimp only;rw[e_,e_];exact⟨GS.aix v1 w1,s1.trans (v3.trans L),rfl⟩
 dsimp only at g6;have D:∀(c:Prop),c->c:=λ_ h=>h
 have dd:1<=d->d-1+1=d:=λ_=>by omega
 have w8:8<=k->a9 .i64 (k-8)=k-8:=λ_=>gJ (by omega) (by omega)
 refine aX (λx=>x.2=(m0,t1,(0,0,[],[],0,0,[]),h)/\(x.1=M->1<=d)) ?_ ?_
 .refine aE (λ_=>ai ⟨rfl,λg=>?_⟩) λ_=>ai ⟨rfl,λh=>(by cases h)⟩
  dsimp only at g;rw[mB]at g;omega
 rintro⟨b,x⟩ ⟨e,hb⟩;dsimp only at e hb;subst e;refine aK (λq=>?_) λ_=>?_
 .have d1:=hb q;refine ar (hE 1 m0 t1 h (by omega) s1.p) λz D=>?_
  obtain⟨e,m2,t2,h2⟩:=z;obtain⟨v1,v2,v3,v4⟩:=D;dsimp only at v1 v2 v3 v4;subst v2;subst v4;refine a8 (by simp) ?_;dsimp only;rw[ed,ed1 d1];refine ar (hS d1 1 m2 t2 h2 (by omega) v3.p (by omega)) λz D=>?_
  obtain⟨m3,t3,h3,l⟩:=z;obtain⟨w1,w2,L,I⟩:=D;dsimp only at w1 w2 L I;rw[dd d1]at w2;refine a8 (by simp) ?_;refine aX (λx=>x.2.2.2.1=(2,0,[],[],e.op,e.n,e.name,e.l)/\uj t1 x.2.1/\x.2.2.2.2.1.2=h2.2/\x.2.2.2.2.2.1=l/\x.2.2.2.2.2.2.length<=8/\∀s∈x.2.2.2.2.2.2,GS d s) ?_ ?_
  .refine ar (gj 2 t3 L.p) λy A=>?_
   refine aE (λ_=>?_) λ_=>ai ⟨rfl,v3.trans (L.trans A.1),I,rfl,by simp,λs hs=>(by cases hs)⟩
   dsimp only;refine ar (hS d1 1 m3 y.2 h3 (by omega) A.1.p (by rw[I];omega)) λz D=>?_
   obtain⟨m4,t4,h4,l2⟩:=z;obtain⟨x1,x2,x3,x4⟩:=D;dsimp only at x1 x2 x3 x4;rw[dd d1]at x2;exact a8 (by simp) (ai ⟨rfl,v3.trans (L.trans (A.1.trans x3)),x4.trans I,rfl,by dsimp only;omega,x2⟩)
  rintro⟨m5,t5,z5,e5,h5,l5,l6⟩ ⟨x1,x2,x3,x4,x5,x6⟩;dsimp only at x1 x2 x3 x4 x5 x6;subst x1;subst x4;refine ai ?_;dsimp only;rw[e_];exact⟨GS.we v1 (by first|omega|(dsimp only;omega)) x5 w2 x6,s1.trans x2,x3⟩
 refine aX (λx=>x.2=(m0,t1,(0,0,[],[],0,0,[]),h)/\(x.1=M->1<=d)) ?_ ?_
 .refine aE (λ_=>ai ⟨rfl,λg=>?_⟩) λ_=>ai ⟨rfl,λh=>(by cases h)⟩
  dsimp only at g;rw[mB]at g;omega
 rintro⟨b,x⟩ ⟨e,hb⟩;dsimp only at e hb;subst e;refine aK (λq=>?_) λ_=>?_
 .have d1:=hb q;refine aQ (G8 _) (aQ (Np _) (aQ (Em _ _ _) ?_));dsimp only;rw[ed,ed1 d1];refine ar (hS d1 1 _ t1 h (by omega) s1.p (by omega)) λz D=>?_
  obtain⟨m3,t3,h3,l⟩:=z;obtain⟨w1,w2,L,I⟩:=D;dsimp only at w1 w2 L I;rw[dd d1]at w2;refine a8 (by simp) ?_;refine aQ (G8 _) (aQ (Np _) (aQ (Em _ _ _) (aQ (tf _ _) ?_)));refine aZ (by simp;omega) (by omega) (ai ?_);dsimp only;rw[e_,e_,xZ];refine ⟨GS.we (GE.bin (by omega) (GE.nm _ 2) (GE.num _ 2)) (by simp;omega) (by simp) (λx F=>?_) (λx F=>(by cases F)),s1.trans L,I⟩;rcases bN.1 F with F|F
  .exact w2 x F
  .rw[aJ]at F;subst F;rw[<- dd d1];exact GS.asg _ (GE.bin (by omega) (GE.nm _ 2) (GE.num _ 2))
 refine aX (λx=>x.2=(m0,t1,(0,0,[],[],0,0,[]),h)/\(x.1=M->nest=M/\(k=8\/k=9))) ?_ ?_
 .refine aE (λg=>aK (λgn=>?_) λ_=>ai ⟨rfl,λh=>(by cases h)⟩) λ_=>aE (λg=>aK (λgn=>?_) λ_=>ai ⟨rfl,λh=>(by cases h)⟩) λ_=>ai ⟨rfl,λh=>(by cases h)⟩
  all_goals
   dsimp only at g ⊢;rw[w8 (by omega)];refine aH (by omega) (by simp;omega) (aH (by omega) (by simp;omega) (aW ?_));refine ar (B_ _ m0 t1 h (by omega)) λy A=>?_
   obtain⟨yb,y2⟩:=y;dsimp only at A;subst A;exact a8 (by simp) (ai ⟨rfl,λ_=>⟨gn,by omega⟩⟩)
 rintro⟨b,x⟩ ⟨e,hb⟩;dsimp only at e hb;subst e;refine aK (λq=>?_) λ_=>?_
 .obtain⟨q1,q2⟩:=hb q;have d1:=hn q1;dsimp only;rw[w8 (by omega),ed,ed1 d1];refine aH (by omega) (by simp;omega) (aH (by omega) (by simp;omega) (aW ?_));refine ar (hB d1 _ m0 t1 h s1.p (by omega)) λz D=>?_
  obtain⟨l,m3,t3,h3⟩:=z;obtain⟨w1,w2,L,I⟩:=D;dsimp only at w1 w2 L I;rw[dd d1]at w2;exact a8 (by simp) (ai ⟨GS.wo (by omega) (by first|omega|(dsimp only;omega)) w2,s1.trans L,I⟩)
 refine aX (λx=>x.2=(m0,t1,(0,0,[],[],0,0,[]),h)/\(x.1=M->nest=M/\(k=10\/k=11))) ?_ ?_
 .refine aE (λg=>aK (λgn=>?_) λ_=>ai ⟨rfl,λh=>(by cases h)⟩) λ_=>aE (λg=>aK (λgn=>?_) λ_=>ai ⟨rfl,λh=>(by cases h)⟩) λ_=>ai ⟨rfl,λh=>(by cases h)⟩
  all_goals
   dsimp only at g ⊢;refine ar (B_ _ m0 t1 h (by omega)) λy A=>?_
   obtain⟨yb,y2⟩:=y;dsimp only at A;subst A;exact a8 (by simp) (ai ⟨rfl,λ_=>⟨gn,by omega⟩⟩)
 rintro⟨b,x⟩ ⟨e,hb⟩;dsimp only at e hb;subst e;refine aK (λq=>?_) λ_=>?_
 .obtain⟨q1,q2⟩:=hb q;have d1:=hn q1;dsimp only;rw[ed,ed1 d1,gJ (n:=k-10) (by omega) (by omega),gJ (n:=k-10+5) (by omega) (by omega)];refine ar (hB d1 _ m0 t1 h s1.p (by omega)) λz D=>?_
  obtain⟨l,m3,t3,h3⟩:=z;obtain⟨w1,w2,L,I⟩:=D;dsimp only at w1 w2 L I;rw[dd d1]at w2;exact a8 (by simp) (ai ⟨GS.wo (by omega) (by first|omega|(dsimp only;omega)) w2,s1.trans L,I⟩)
 refine aX (λx=>x.2=(m0,t1,(0,0,[],[],0,0,[]),h)/\(x.1=M->nest=M)) ?_ ?_
 .exact aE (λ_=>ai ⟨rfl,λg=>g⟩) λ_=>ai ⟨rfl,λh=>(by cases h)⟩
 rintro⟨b,x⟩ ⟨e,hb⟩;dsimp only at e hb;subst e;refine aK (λq=>?_) λ_=>?_
 .have d1:=hn (hb q);refine ar (gj 2 t1 s1.p) λy A=>?_
  obtain⟨u1,u2,u3,_⟩:=A;have u3:=u3 (by decide);dsimp only;rw[gJ (n:=1+y.1) (by omega) (by omega)];refine ar (h0 d1 (1+y.1) _ y.2 h (by omega) u1.p (by omega)) λz D=>?_
  obtain⟨m3,t3,h3,l⟩:=z;obtain⟨w1,w2,L,I⟩:=D;dsimp only at w1 w2 L I;exact a8 (by simp) (ai ⟨GS.wo (by omega) (by first|omega|(dsimp only;omega)) (λx F=>(w2 x F).le (by omega)),s1.trans (u1.trans L),I⟩)
 refine aX (λx=>x.2=(m0,t1,(0,0,[],[],0,0,[]),h)/\(x.1=M->nest=M)) ?_ ?_
 .exact aE (λ_=>aK (λgn=>ai ⟨rfl,λ_=>gn⟩) λ_=>ai ⟨rfl,λh=>(by cases h)⟩) λ_=>ai ⟨rfl,λh=>(by cases h)⟩
 rintro⟨b,x⟩ ⟨e,hb⟩;dsimp only at e hb;subst e;refine aK (λq=>?_) λ_=>?_
 .have d1:=hn (hb q);dsimp only;rw[ed,ed1 d1];refine ar (hS d1 2 _ t1 h (by omega) s1.p (by omega)) λz D=>?_
  obtain⟨m3,t3,h3,l⟩:=z;obtain⟨w1,w2,L,I⟩:=D;dsimp only at w1 w2 L I;rw[dd d1]at w2;exact a8 (by simp) (ai ⟨GS.wo (by omega) (by first|omega|(dsimp only;omega)) w2,s1.trans L,I⟩)
 refine aX (λx=>x.2=(m0,t1,(0,0,[],[],0,0,[]),h)/\(x.1=M->nest=M)) ?_ ?_
 .refine aE (λ_=>aK (λgn=>aK (λ_=>?_) λ_=>ai ⟨rfl,λh=>(by cases h)⟩) λ_=>ai ⟨rfl,λh=>(by cases h)⟩) λ_=>ai ⟨rfl,λh=>(by cases h)⟩
  refine ar (B_ _ m0 t1 h (by omega)) λy A=>?_
  obtain⟨yb,y2⟩:=y;dsimp only at A;subst A;exact a8 (by simp) (ai ⟨rfl,λ_=>gn⟩)
 rintro⟨b,x⟩ ⟨e,hb⟩;dsimp only at e hb;subst e;refine aK (λq=>?_) λ_=>?_
 .have d1:=hn (hb q);refine aQ (G8 _) (aQ (tf _ _) (ai ?_));dsimp only;rw[e_,xZ];refine ⟨GS.wo (by omega) (by simp) (λx F=>?_),s1,rfl⟩;simp only[bu,cE,gH]at F;rw[<- dd d1];rcases F with rfl|rfl
  .exact GS.wo (by omega) (by simp) (λx F=>(by cases F))
  .exact GS.asg _ (GE.nm _ 3)
 refine aX (λx=>x.2=(m0,t1,(0,0,[],[],0,0,[]),h)/\(x.1=M->nest=M)) ?_ ?_
 .refine aE (λ_=>aK (λgn=>?_) λ_=>ai ⟨rfl,λh=>(by cases h)⟩) λ_=>ai ⟨rfl,λh=>(by cases h)⟩
  refine ar (B_ _ m0 t1 h (by omega)) λy A=>?_
  obtain⟨yb,y2⟩:=y;dsimp only at A;subst A;exact a8 (by simp) (ai ⟨rfl,λ_=>gn⟩)
 rintro⟨b,x⟩ ⟨e,hb⟩;dsimp only at e hb;subst e;refine aK (λq=>?_) λ_=>?_
 .have d1:=hn (hb q);refine ar (gj 2 t1 s1.p) λy A=>ai ?_
  obtain⟨u1,u2,u3,_⟩:=A;have u3:=u3 (by decide);dsimp only;rw[gJ (n:=10+y.1) (by omega) (by omega)];refine ⟨GS.wo (by omega) (by simp) (λx F=>?_),s1.trans u1,rfl⟩;simp only[bu,cE,gH]at F;rw[F,<-dd d1];exact GS.wo (by omega) (by simp) (λx F=>(by cases F))
 refine aX (λx=>x.2=(m0,t1,(0,0,[],[],0,0,[]),h)) ?_ ?_
 .exact aE (λ_=>aK (λ_=>aK (λ_=>ai rfl) λ_=>ai rfl) λ_=>ai rfl) λ_=>ai rfl
 rintro⟨b,x⟩ e;dsimp only at e;subst e;refine aK (λq=>?_) λ_=>?_
 .refine ar (hE 1 _ t1 h (by omega) s1.p) λz D=>?_
  obtain⟨e,m2,t2,h2⟩:=z;obtain⟨v1,v2,v3,v4⟩:=D;dsimp only at v1 v2 v3 v4;subst v2;subst v4;refine a8 (by simp) (ai ?_);dsimp only;rw[e_];exact⟨GS.we v1 (by simp) (by simp) (λx F=>(by cases F)) (λx F=>(by cases F)),s1.trans v3,rfl⟩
 refine aX (λx=>x.2.1=m0/\uj t1 x.2.2.1/\x.2.2.2.2=h) ?_ ?_
 .refine aE (λ_=>aK (λ_=>?_) λ_=>ai ⟨rfl,uj.refl s1.p,rfl⟩) λ_=>ai ⟨rfl,uj.refl s1.p,rfl⟩
  exact ar (gj 2 t1 s1.p) λy A=>ai ⟨rfl,A.1,rfl⟩
 rintro⟨b,m9,t9,z9,h9⟩ ⟨e1,e2,e3⟩;dsimp only at e1 e2 e3;subst e1;subst e3;refine aK (λq=>?_) λ_=>?_
 .exact ai ⟨GS.wo (by omega) (by simp) (λx F=>(by cases F)),s1.trans e2,rfl⟩
 refine ar (hE 1 _ t9 h9 (by omega) e2.p) λz D=>?_
 obtain⟨e,m2,t2,h2⟩:=z;obtain⟨v1,v2,v3,v4⟩:=D;dsimp only at v1 v2 v3 v4;subst v2;subst v4;refine a8 (by simp) (aQ (tf _ _) (ai ?_));dsimp only;rw[e_,xZ];exact⟨GS.asg _ v1,s1.trans (e2.trans v3),rfl⟩
theorem Mk:∀(n:Nat),(∀d:Nat,d<=5->3*d+1<=n->SpT (em n) d)/\(∀d:Nat,d<=5->3*d+2<=n->SpS (dD n) d)/\(∀d:Nat,d<=5->3*d+3<=n->SpB (dT n) d)
 |0=>⟨λd _ h=>by omega,λd _ h=>by omega,λd _ h=>by omega⟩
 |n+1=>by
  obtain⟨s,q,z⟩:=Mk n;refine ⟨λd h1 h2=>?_,λd h1 h2=>?_,λd h1 h2=>?_⟩
  .exact Zx (dD n) (em n) (dT n) d h1 (λh=>q 0 (by omega) (by omega)) (λh=>q (d-1) (by omega) (by omega)) (λh=>z (d-1) (by omega) (by omega))
  .exact WN (dD n) (em n) (dT n) d (s d h1 (by omega))
  .exact WP (dD n) (em n) (dT n) d (q d h1 (by omega))
theorem Ws (d:Nat) (hd:d<=5):SpS qj d:=(Mk fuel).2.1 d hd (by rw[qu];omega)
def GX:Nat->Xp->Prop
 |0,_=>False
 |d+1,e=>e.l.length<=2/\∀x∈e.l,GX d x
theorem GE.x:∀{d:Nat} {e:Xp},GE d e->GX d e
 |0,_,h=>h.elim
 |_+1,_,h=>⟨h.2.2.1,λx q=>(h.2.2.2 x q).x⟩
theorem ZE.x {e:Xp} (h:ZE e):GX 4 e:=by
 rcases h with h|rfl
 .exact h.x
 .exact⟨by simp[Xp.l],λx d=>(by cases d)⟩
def GT:Nat->Sx->Prop
 |0,_=>False
 |d+1,s=>s.index.length<=1/\(∀e∈s.index,GX 4 e)/\GX 4 s.expr/\s.body.length<=8/\s.els.length<=8/\(∀x∈s.body,GT d x)/\(∀x∈s.els,GT d x)
theorem GS.t:∀{d:Nat} {s:Sx},GS d s->GT d s
 |0,_,h=>h.elim
 |_+1,_,⟨_,b,c,_,f,g,i,j,k⟩=>⟨b,λe he=>(c e he).x,f.x,g,i,λx q=>(j x q).t,λx q=>(k x q).t⟩
theorem xN (s:Sx):oD (Sx.op s,Sx.line s,Sx.name s,Sx.arg s,Sx.index s,d8 (Xp.op (Sx.expr s),Xp.n (Sx.expr s),Xp.name (Sx.expr s),Xp.l (Sx.expr s)),Sx.body s,Sx.els s)=s:=by
 rw[e_,xZ]
theorem RQ (k:Int):Ok (oz k) λ_=>True:=by
 unfold oz bf jk aB;with_reducible repeat' first|(refine OS.ok ?_;constructor)|refine IM.mk λ_=>?_
 all_goals trivial
theorem qB (e:Xp):Ok (qW e) λ_=>True:=by
 unfold qW bf aB;with_reducible repeat' first|(refine OS.ok ?_;constructor)|refine IM.mk λ_=>?_
 all_goals trivial
theorem yH:∀(n d:Nat) (e:Xp),d<n->GX d e->Ok (je n e) λ_=>True
 |0,_,_,h,_=>by omega
 |n+1,0,_,_,h=>h.elim
 |n+1,d+1,e,hn,h=>by
  obtain⟨h1,h2⟩:=h;rw[yD];unfold o6 bf bx ir bG cI aB cu;refine aX (λx=>x.2=e) (aE (λ_=>ai (e_ e)) λ_=>ai (e_ e)) ?_;rintro⟨b,x⟩ s;dsimp only at s;subst s;refine aX (λy=>y.2=x) ?_ ?_
  .refine ar (RQ _) λ_ _=>?_
   with_reducible repeat' first|refine bV (λ_=>?_) λ_=>?_|refine aR (λ_=>?_) λ_=>?_|refine cX (λ_=>?_) λ_=>?_|refine aK (λ_=>?_) λ_=>?_|exact ai (e_ x)|refine ar (io _) λ_ _=>?_
  rintro⟨A,y⟩ q;dsimp only at q;subst q;refine aK (λ_=>ai trivial) λ_=>?_
  refine cg y.l.length (λi x=>x.1=(i:Int)/\x.2=y) ?_ ?_ ⟨rfl,e_ y⟩
  .rintro i ⟨a,z⟩ hi ⟨e1,e2⟩;dsimp only at e1 e2;subst e1;subst e2;refine aR (λ_=>?_) λg=>(by dsimp only[aj]at g;omega)
   refine aH (by dsimp only;omega) (by dsimp only;omega) (aW ?_);refine ar (yH n d _ (by omega) (h2 _ (bH (T:=.ex) (xs:=z.l) (j:=(i:Int)) (by omega) (by omega)))) λ_ _=>?_
   refine cX (λ_=>ai trivial) λ_=>ai ?_
   dsimp only;exact⟨fx (by omega),e_ z⟩
  .rintro⟨a,z⟩ ⟨e1,e2⟩;dsimp only at e1 e2;subst e1;subst e2;exact aR (λg=>(by dsimp only[aj]at g;omega)) λ_=>ai trivial
theorem f_ (e:Xp) (h:GX 4 e):Ok (j8 e) λ_=>True:=yH fuel 4 e (by rw[qu];omega) h
theorem Ky (d:Int×Int×ζ×Int×Int×ζ):Ok (mb d) λ_=>True:=by
 unfold mb aV ba bO dx bf bx ir aB;refine aX (λ_=>True) ?_ λx _=>aK (λ_=>ai trivial) λ_=>?_
 .with_reducible repeat' first|refine bV (λ_=>?_) λ_=>?_|refine aR (λ_=>?_) λ_=>?_|refine cX (λ_=>?_) λ_=>?_|exact ai trivial|refine ar (io _) λ_ _=>?_
 refine aX (λ_=>True) ?_ λx _=>aK (λ_=>ai trivial) λ_=>?_
 .with_reducible repeat' first|refine bV (λ_=>?_) λ_=>?_|refine aE (λ_=>?_) λ_=>?_|refine cX (λ_=>?_) λ_=>?_|exact ai trivial|refine ar (io _) λ_ _=>?_
 with_reducible repeat' first|(refine OS.ok ?_;constructor)|refine IM.mk λ_=>?_
 all_goals trivial
theorem Gj (d:Sx->J Bool) (rs:Y Sx->J Bool) (l:Y Sx) (hl:l.length<=1000) (h:∀s∈l,Ok (d s) λ_=>True):Ok (nQ d rs l) λ_=>True:=by
 unfold nQ bx l8 aY cI aB cu;refine cg l.length (λi x=>x=(i:Int)) ?_ ?_ rfl
 .rintro i x hi rfl;refine aR (λ_=>?_) λg=>(by dsimp only[aj]at g;omega)
  refine aH (by omega) (by omega) ?_;refine ar (h _ (bH (T:=.sm) (xs:=l) (j:=(i:Int)) (by omega) (by omega))) λ_ _=>?_
  exact cX (λ_=>ai trivial) λ_=>ai (fx (by omega))
 .rintro x rfl;exact aR (λg=>(by dsimp only[aj]at g;omega)) λ_=>ai trivial
theorem IH (q:Sx->J Bool) (rs:Y Sx->J Bool) (s:Sx) (h1:∀e∈s.index,GX 4 e) (h2:GX 4 s.expr) (hb:Ok (rs s.body) λ_=>True) (he:Ok (rs s.els) λ_=>True):Ok (oZ q rs s) λ_=>True:=by
 unfold oZ bf bx jk ir bG aB dW;refine aX (λx=>x.2=s) ?_ ?_
 .with_reducible repeat' first|refine bV (λ_=>?_) λ_=>?_|refine aE (λ_=>?_) λ_=>?_|refine aR (λ_=>?_) λ_=>?_|refine dX (λ_=>?_) λ_=>?_|refine cX (λ_=>?_) λ_=>?_|refine aK (λ_=>?_) λ_=>?_|exact ai (xN _)|refine ar (io _) λ_ _=>?_|refine ar (qB _) λ_ _=>?_|refine ar (f_ _ h2x) λ_ _=>?_
 rintro⟨b,x⟩ d;dsimp only at d;have d:=d.symm;subst d;refine aK (λ_=>ai trivial) λ_=>?_
 refine aX (λx=>x.2=s) ?_ ?_
 .with_reducible repeat' first|refine bV (λ_=>?_) λ_=>?_|refine aE (λ_=>?_) λ_=>?_|refine aR (λ_=>?_) λ_=>?_|refine dX (λ_=>?_) λ_=>?_|refine cX (λ_=>?_) λ_=>?_|refine aK (λ_=>?_) λ_=>?_|exact ai (xN _)|refine ar (io _) λ_ _=>?_|refine ar (qB _) λ_ _=>?_|refine ar (f_ _ h2x) λ_ _=>?_
 rintro⟨b,x⟩ d;dsimp only at d;have d:=d.symm;subst d;refine aX (λx=>x.2=s) ?_ ?_
 .with_reducible repeat' first|refine bV (λ_=>?_) λ_=>?_|refine aE (λ_=>?_) λ_=>?_|refine aR (λ_=>?_) λ_=>?_|refine dX (λ_=>?_) λ_=>?_|refine cX (λ_=>?_) λ_=>?_|refine aK (λ_=>?_) λ_=>?_|exact ai (xN _)|refine ar (io _) λ_ _=>?_|refine ar (qB _) λ_ _=>?_|refine ar (f_ _ h2x) λ_ _=>?_
 rintro⟨b,x⟩ d;dsimp only at d;have d:=d.symm;subst d;refine aK (λ_=>ai trivial) λ_=>?_
 refine aX (λx=>x.2=s) ?_ ?_
 .with_reducible repeat' first|refine bV (λ_=>?_) λ_=>?_|refine aE (λ_=>?_) λ_=>?_|refine aR (λ_=>?_) λ_=>?_|refine dX (λ_=>?_) λ_=>?_|refine cX (λ_=>?_) λ_=>?_|refine aK (λ_=>?_) λ_=>?_|exact ai (xN _)|refine ar (io _) λ_ _=>?_|refine ar (qB _) λ_ _=>?_|refine ar (f_ _ h2x) λ_ _=>?_
 rintro⟨b,x⟩ d;dsimp only at d;have d:=d.symm;subst d;refine aK (λ_=>ai trivial) λ_=>?_
 refine aX (λx=>x.2=s) ?_ ?_
 .with_reducible repeat' first|refine bV (λ_=>?_) λ_=>?_|refine aE (λ_=>?_) λ_=>?_|refine aR (λ_=>?_) λ_=>?_|refine dX (λ_=>?_) λ_=>?_|refine cX (λ_=>?_) λ_=>?_|refine aK (λ_=>?_) λ_=>?_|exact ai (xN _)|refine ar (io _) λ_ _=>?_|refine ar (qB _) λ_ _=>?_|refine ar (f_ _ h2x) λ_ _=>?_
  all_goals
   rename_i g;dsimp only[aj]at g;refine aH (by omega) (by dsimp only;omega) (aW ?_);refine ar (f_ _ (h1 _ (bH (T:=.ex) (xs:=Sx.index _) (j:=0) (by omega) (by omega)))) λ_ _=>ai (xN _)
 rintro⟨b,x⟩ d;dsimp only at d;have d:=d.symm;subst d;refine aK (λ_=>ai trivial) λ_=>?_
 refine aX (λx=>x.2=s) ?_ ?_
 .with_reducible repeat' first|refine bV (λ_=>?_) λ_=>?_|refine aE (λ_=>?_) λ_=>?_|refine aR (λ_=>?_) λ_=>?_|refine dX (λ_=>?_) λ_=>?_|refine cX (λ_=>?_) λ_=>?_|refine aK (λ_=>?_) λ_=>?_|exact ai (xN _)|refine ar (io _) λ_ _=>?_|refine ar (qB _) λ_ _=>?_|refine ar (f_ _ h2x) λ_ _=>?_
 rintro⟨b,x⟩ d;dsimp only at d;have d:=d.symm;subst d;refine aX (λx=>x.2=s) ?_ ?_
 .have h2x:GX 4 (d8 (Xp.op (Sx.expr s),Xp.n (Sx.expr s),Xp.name (Sx.expr s),Xp.l (Sx.expr s))):=by rw[e_];exact h2
  with_reducible repeat' first|refine bV (λ_=>?_) λ_=>?_|refine aE (λ_=>?_) λ_=>?_|refine aR (λ_=>?_) λ_=>?_|refine dX (λ_=>?_) λ_=>?_|refine cX (λ_=>?_) λ_=>?_|refine aK (λ_=>?_) λ_=>?_|exact ai (xN _)|refine ar (io _) λ_ _=>?_|refine ar (qB _) λ_ _=>?_|refine ar (f_ _ h2x) λ_ _=>?_
 rintro⟨b,x⟩ d;dsimp only at d;have d:=d.symm;subst d;refine aK (λ_=>ai trivial) λ_=>?_
 refine aX (λx=>x.2=s) ?_ ?_
 .with_reducible repeat' first|refine bV (λ_=>?_) λ_=>?_|refine aE (λ_=>?_) λ_=>?_|refine aR (λ_=>?_) λ_=>?_|refine dX (λ_=>?_) λ_=>?_|refine cX (λ_=>?_) λ_=>?_|refine aK (λ_=>?_) λ_=>?_|exact ai (xN _)|refine ar (io _) λ_ _=>?_|refine ar (qB _) λ_ _=>?_|refine ar (f_ _ h2x) λ_ _=>?_
 rintro⟨b,x⟩ d;dsimp only at d;have d:=d.symm;subst d;refine aX (λx=>x.2=s) ?_ ?_
 .with_reducible repeat' first|refine bV (λ_=>?_) λ_=>?_|refine aE (λ_=>?_) λ_=>?_|refine aR (λ_=>?_) λ_=>?_|refine dX (λ_=>?_) λ_=>?_|refine cX (λ_=>?_) λ_=>?_|refine aK (λ_=>?_) λ_=>?_|exact ai (xN _)|refine ar (io _) λ_ _=>?_|refine ar (qB _) λ_ _=>?_|refine ar (f_ _ h2x) λ_ _=>?_
 rintro⟨b,x⟩ d;dsimp only at d;have d:=d.symm;subst d;refine aK (λ_=>ai trivial) λ_=>?_
 refine aX (λ_=>True) ?_ λ_ _=>ai trivial
 refine ar hb λ_ _=>aK (λ_=>ar he λ_ _=>ai trivial) λ_=>ai trivial
theorem IQ:∀(n:Nat),(∀(d:Nat) (s:Sx),2*d<n->GT d s->Ok (gW n s) λ_=>True)/\(∀(d:Nat) (l:Y Sx),2*d+1<n->l.length<=1000->(∀s∈l,GT d s)->Ok (fA n l) λ_=>True)
 |0=>⟨λd _ h=>by omega,λd _ h=>by omega⟩
 |n+1=>by
  obtain⟨z,q⟩:=IQ n;refine ⟨λd s hd h=>?_,λd l hd hl h=>?_⟩
  .cases d with
   |zero=>exact h.elim
   |succ d=>
    obtain⟨_,I,F,g4,L,D,A⟩:=h;exact IH (gW n) (fA n) s I F (q d _ (by omega) (by omega) D) (q d _ (by omega) (by omega) A)
  .exact Gj (gW n) (fA n) l hl λs hs=>z d s (by omega) (h s hs)
theorem J7 (d:Nat) (hd:d<=100) (l:Y Sx) (hl:l.length<=1000) (h:∀s∈l,GT d s):Ok (qX l) λ_=>True:=(IQ fuel).2 d l (by rw[qu];omega) hl h
end
end Go.Proofs.YtiaemgcbndhkfaaGreatDoor.AI
