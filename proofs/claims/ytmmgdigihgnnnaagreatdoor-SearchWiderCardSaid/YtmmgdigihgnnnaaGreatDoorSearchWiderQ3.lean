/-
  Texts of the proof, part 4 of 6: what is used to prove the statement. No condition.
-/
import Derived.Test.YtmmgdigihgnnnaaGreatDoorSearchWiderQ2
namespace Go.Proofs.YtmmgdigihgnnnaaGreatDoor.AI
open Go.RowKit
set_option maxRecDepth 100000
set_option maxHeartbeats 4000000
set_option linter.unusedVariables false
set_option linter.unusedSimpArgs false
set_option linter.defProp false
open _root_.Bool renaming true→J,false→aa,not_eq_false'→iB,not_eq_true→iQ,false_or→nU,or_eq_false_iff→wq,eq_iff_iff→yX
open _root_.Int renaming ofNat_eq_natCast→al,toNat→aN,ofNat→aY,tmod→cC,reduceNeg→dA,reduceEq→ec,toNat_natCast→kL,tmod_eq_emod_of_nonneg→kM,sub_add_cancel→tf,add_sub_cancel→tj,tdiv→wn,le_trans→wG,tdiv_eq_ediv_of_nonneg→Ox,emod_lt_of_pos→Oy
open IntKind renaming wrap→jW
open _root_.List renaming length→l!,length→ah,replicate→aD,length_singleton→a_,take→cu,foldl_cons→dz,length_nil→eS,cons_append→ft,length_cons→fX,drop→ig,replicate_succ→mY,mem_of_mem_drop→pW,take_take→su,mem_replicate→te,map_nil→wE,getElem?_take_of_lt→yU,set→CL,getElem_of_mem→J_
open _root_.List.cons renaming inj→E8
open _root_.Nat renaming beq→aB,blt→dw,le_of_lt→eZ,mod_eq_of_lt→lF
open _root_.Option renaming some→Z,none→U
open _root_.Prod renaming a→bg,b→bA,c→bQ,d→bY,f→cS,e→dt,g→dv,i→gz,h→ji,j→tb,l→Rz,k→RA
open _root_.Sum renaming inr→bU,inl→kZ
open _root_.UInt8 renaming ofNat→AW
noncomputable section
abbrev Bn:Ty:=(.st (.pr aP .bool))
abbrev KX:Ty:=(.st (.pr pE (.pr (.sl Bn) (.pr (.sl Bn) (.pr (.sl aP) (.pr nX (.sl aP)))))))
abbrev sj:Ty:=(.st (.pr qV (.pr aP (.pr qU (.sl gm)))))
abbrev Hb:Ty:=(.st (.pr aP (.pr aP (.pr aP (.pr aP (.pr aP (.sl aP)))))))
abbrev Kd4:Ty:=(.st (.pr sj (.sl pE)))
abbrev XO:Ty:=(.st (.pr KX (.sl iK)))
abbrev Kd6:Ty:=(.st (.pr qV (.sl gm)))
abbrev Kd7:Ty:=(.st (.pr .bool .bool))
abbrev Kd8:Ty:=(.int .u64)
abbrev EL:=(Y c?)
abbrev g!:=lE×EL×EL×(η)×(θ)×η
abbrev E3:=g!
abbrev j!:=lN×Int×mF×Y tJ
abbrev lD:=j!
abbrev Yd3:=(Int×B!)
abbrev Yd4:=(E3×Y ν)
abbrev c!:=Int×Int×Int×Int×Int×η
abbrev J1:=c!
abbrev Yd6:=(ν×b!)
abbrev Yd7:=v?
abbrev Yd8:=(Y ν)
abbrev u?:=pD×mG×(Y jQ)×dC×dC×(Y π)×Int×jF×Int×(θ)×(Y dQ)×(η)×(η)×(η)×Y tJ
abbrev Yd9:=u?
abbrev anf:=(Int×e?)
abbrev av2:=(jF×Int×(θ)×(Y dQ)×η)
def og (x:lD×Int):M mF:=
 (iter (σ:=Int×lD×Int×N?) (λx1=>(jn (bV x1.1 x.2 (aI ((gM x1.1 (be x1.2.1.d)),x1.2)) (aI (aa,x1.2))) λx2=>(aJ x2.1 (bI gm x2.2.1.d x1.1 λq=>(av (qZ (x2.2.1.1,x2.d,q)) λA=>(c7 ((cL x1.1),x2.2.1,x2.a,A.1)))) (aI x2.d)))) (0,x.1,0,x.1.a))
def Sg (x:η):M η:=
 (aJ (aB (ah x) 0) (yI (Z ([]:η)) (bX (bh (ah ([]:η)+ah x) 8) (Z (([]:η)++x)))) (bX (bh (ah ([]:η)+ah x) 8) (Z (([]:η)++x))))
def xu (x:η):M η:=chk (bh (ah x) 8) λ_=>Z x
def L6 (x:η):M η:=
 (aJ (aB (ah x) 0) (yI (Z ([]:η)) (bX (bh (ah ([]:η)+ah x) 8) (Z (([]:η)++x)))) (bX (bh (ah ([]:η)+ah x) 8) (Z (([]:η)++x))))
def p_ (x:η):M η:=chk (bh (ah x) 8) λ_=>Z x
def s7 (it:OH) (x:ζ):M (Bool):=
 (lt (aw ((.st (.pr .str (.pr .str (.pr .str (.pr .str (.pr .str (.pr .str (.pr .str (.pr .str (.pr .str (.pr .str (.pr .str (.pr .str (.pr .str (.pr .str (.pr .str (.pr .str (.pr .str (.pr .str (.pr .str (.pr .str (.pr .str .str))))))))))))))))))))))) ([kwV]) 0) λq=>(it (Int) _ (λx2=>(bV x2 22 (bX (c8 0 x2&&gM x2 22) (lt (aw (.str) [q.1,q.2.1,q.a,q.b,q.c,q.f,q.h,q.k,q.p8,q.m,q.n,q.q,q.p,q.t,q.v,q.w,q.y,q.B,q.C,q.D,q.E,q.F] x2) λA=>(aJ (decide ((x:ζ)=A)) (aI J) (c7 (cL x2))))) (aI aa))) 0))
def sR (x:ζ):M (Bool):=s7 @iter x
def lQ (x:ζ):M (Bool):=s7 @mQ x
def xz (it:OH) (x:ζ):M (Bool):=
 (jn (bV (be x) 1 (aI J) (bV 12 (be x) (aI J) (av (lQ x) λD=>(aI D)))) λx1=>(aJ x1 (Z aa) (it (Y (jQ×Unit)) _ (λx3=>(aJ (dw (Mh x3) (ah (OE x3))) (jn (α:=Y (jQ×Unit)) (jn (α:=Bool×Y (jQ×Unit)) (jr 97 (rnP (OE x3) (Mh x3)) (jr (rnP (OE x3) (Mh x3)) 122 (aI (J,[(((OE x3),(aY ((Mh x3)+wdP (OE x3) (Mh x3)))),())])) (jr 65 (rnP (OE x3) (Mh x3)) (aI ((c8 (rnP (OE x3) (Mh x3)) 90),[(((OE x3),(aY ((Mh x3)+wdP (OE x3) (Mh x3)))),())])) (aI (aa,[(((OE x3),(aY ((Mh x3)+wdP (OE x3) (Mh x3)))),())])))) (jr 65 (rnP (OE x3) (Mh x3)) (aI ((c8 (rnP (OE x3) (Mh x3)) 90),[(((OE x3),(aY ((Mh x3)+wdP (OE x3) (Mh x3)))),())])) (aI (aa,[(((OE x3),(aY ((Mh x3)+wdP (OE x3) (Mh x3)))),())])))) λq=>(aJ q.1 (aI q.2) (jn (bV 0 (aY (Mh x3)) (bq (rnP (OE x3) (Mh x3)) 95 (aI (J,q.2)) (jr 48 (rnP (OE x3) (Mh x3)) (aI ((c8 (rnP (OE x3) (Mh x3)) 57),q.2)) (aI (aa,q.2)))) (aI (aa,q.2))) λA=>(aJ A.1 (aI A.2) (c7 (bU aa)))))) λx4=>(c7 x4)) (aI J))) ([((x,0),())]))))
def xn (x:ζ):M (Bool):=xz @iter x
def pI (x:ζ):M (Bool):=xz @mQ x
def vY (it:OH) (x:q!):M (Int):=
 (it (Int) _ (λx1=>(bV x1 (be x.1) (bI aP x.1 x1 λq=>(bq x.2 q (aI x1) (c7 (cL x1)))) (aI (-1)))) 0)
def Ef (x:q!):M (Int):=vY @iter x
def j7 (x:q!):M (Int):=vY @mQ x
def e_ (x:q!):M (Bool):=
 (av (j7 x) λq=>(Z (c8 0 q)))
def uz (x:ν):M (Bool):=
 (jn (jr 0 x.1 (aI (gM x.1 x.2)) (aI aa)) λx1=>(Z x1))
def uA (x:lN×c?):M (Bool):=
 (jn (av (uz (x.2.1,(be x.1.2.1))) λA=>(aJ A (bI sk x.1.2.1 x.2.1 λq=>(aI ((q.2==x.2.2) !=aa))) (aI aa))) λx1=>(Z x1))
def pw (it:OH) (x:Y EM):M (dC×Bool):=
 (it (Int×Y ζ) _ (λx1=>(bV x1.1 (be x) (jn (α:=Int×Y ζ) (bI mb x x1.1 λq=>(bX (bh (ah x1.2+ah ([q.1])) 16) (bq q.a 0 (gV q.2.1 0 (c7 (bU (([]:Y ζ),aa))) (aI ((cL x1.1),(x1.2++([q.1]))))) (jn (α:=Bool×J?) (bV q.a 1 (aI (J,(x1.2++([q.1])),q)) (bV 4 q.a (aI (J,(x1.2++([q.1])),q)) (aJ q.b (aI (J,(x1.2++([q.1])),q)) (aI ((gM (aT .i64 ((be x)-x1.1)) q.a),(x1.2++([q.1])),q))))) λx4=>(aJ x4.1 (c7 (bU (([]:Y ζ),aa))) (it (Int×J?) _ (λA=>(bV A.1 x4.c (bI mb x (aT .i64 (x1.1+A.1)) λD=>(aJ (OG (.pr .str (.pr aP (.pr aP (.pr .bool (.pr aP .un))))) (D.1,D.2.1,D.a,D.b,D.e,()) (A.a,A.1,A.c,A.f,A.i,()) !=J) (aI (kZ (bU (([]:Y ζ),aa)))) (c7 ((cL A.1),A.2.1,A.a,A.1,A.e)))) (aI (bU ((aT .i64 (x1.1+A.c)),A.2.1))))) (0,x4.2))))))) λx2=>(c7 x2)) (aI (x1.2,J)))) (0,([]:Y ζ)))
def pn (x:Y EM):M (dC×Bool):=pw @iter x
def iD (x:Y EM):M (dC×Bool):=pw @mQ x
def pu (it:OH) (x:lN×Y ζ):M (Bool):=
 (bX (bh (ah (x.2:Y ζ)) 16) (it y! _ (λx1=>(bV x1.1 (be x.1.2.1) (bI sk x.1.2.1 x1.1 λN=>(bX (bh (ah x1.2.2+ah ([N.1])) 16) (c7 ((cL x1.1),x1.2.1,(x1.2.2++([N.1])))))) (av (it y! _ (λx3=>(bV x3.1 (be x1.2.1.a) (bI itK x1.2.1.a x3.1 λI=>(bX (bh (ah x3.2.2+ah ([I.1])) 16) (c7 ((cL x3.1),x3.2.1,(x3.2.2++([I.1])))))) (av (bX (bh (ah x3.2.2+ah x3.2.1.b) 16) (bX (bh (ah (x3.2.2++x3.2.1.b)+ah x3.2.1.c) 16) (it (Int×mG×Y ζ) _ (λq=>(bV q.1 (aY (ah ((x3.2.2++x3.2.1.b)++x3.2.1.c))) (mn (.str) q.2.2 q.1 λA=>(jn (av (pI A) λy8=>(aJ (!y8) (aI (J,q.2)) (aI ((FD (K:=.str) (V:=.bool) A q.2.1 aa),q.2)))) λD=>(aJ D.1 (aI aa) (c7 ((cL q.1),(Kf (K:=.str) (V:=.bool) A J D.2.1),D.2.2))))) (aI J))) (0,([]:Y Yd7),((x3.2.2++x3.2.1.b)++x3.2.1.c))))) λr=>Z (bU r)))) (0,x1.2)) λr=>Z (bU r)))) (0,x)))
def pm (x:lN×Y ζ):M (Bool):=pu @iter x
def d6 (x:lN×Y ζ):M (Bool):=pu @mQ x
def lM (it:OH) (x:b?):M (Bool):=
 (it (π×b?) _ (λx1=>(bV x1.1.2.2 (be x.g) (bI pS x.g x1.1.2.2 λq=>(jn (bV q.1 x1.1.1 (aI (J,x1.2,q)) (aI ((c8 (be x1.f) q.1),x1.2,q))) λx3=>(aJ x3.1 (aI aa) (jn (α:=(ν)×lN×Int×f?) (bV x1.1.1 x3.a (aI ((x3.a,0),x3.2)) (aI ((x1.1.1,x1.1.2.1),x3.2))) λx4=>(gV x4.b x4.1.2 (aI aa) (c7 ((x4.1.1,(cL x4.1.2),(cL x1.1.2.2)),x4.2.1))))))) (aI J))) ((0,0,0),x))
def pl (x:b?):M (Bool):=lM @iter x
def gy (x:b?):M (Bool):=lM @mQ x
def pA (it:OH) (x:b?):M (Bool):=
 (jn (bV 12 (be x.1) (aI (J,x)) (bV 4 (be x.2.1) (aI (J,x)) (bV 2 (be x.a) (aI (J,x)) (bV 2 (be x.b) (aI (J,x)) (aI ((gM 60 (be x.g)),x)))))) λx1=>(aJ x1.1 (Z aa) (jn (bV (be x1.f) 1 (aI (J,x1.2)) (aI ((gM 4 (be x1.f)),x1.2))) λx2=>(aJ x2.1 (Z aa) (av (iD x2.2.1) λA=>(jn (aJ (!A.2) (aI (J,x2.2)) (av (d6 (x2.2,A.1)) λy5=>(aI ((!y5),x2.2)))) λx4=>(aJ x4.1 (Z aa) (it N! _ (λq=>(bV q.1 (be x4.b) (bI itK x4.b q.1 λD=>(av (uA (q.2,D.2,aa)) λN=>(aJ (!N) (aI aa) (c7 ((cL q.1),q.2))))) (av (av (gy q.2) λI=>(Z I)) λr=>Z (bU r)))) (0,x4.2)))))))))
def po (x:b?):M (Bool):=pA @iter x
def iE (x:b?):M (Bool):=pA @mQ x
def xA (it:OH) (x:b?):M lE:=
 (bX (c8 0 (be x.2.1)&&c8 (be x.2.1) (be x.2.1)&&bh (aN (be x.2.1)) 32) (bX (c8 0 (be x.b)&&c8 (be x.b) (be x.b)&&bh (aN (be x.b)) 1) (bX (c8 0 (be x.c)&&c8 (be x.c) (be x.c)&&bh (aN (be x.c)) 24) (it T? _ (λx1=>(bV x1.1 (aY (ah (aD (aN (be x.2.1)) ((0,[]):g?)))) (ck (ij x1.1 (ah x1.b)) (c7 ((cL x1.1),x1.2.1,x1.a,(ca x1.b x1.1 ((-1),(aw dy x1.b x1.1).2)),x1.e))) (av (jn (α:=n!) (bV 0 (be x1.g) (ck (ij 0 (ah x1.g)) (aI (x1.2.1,x1.a,x1.b,x1.c,(ca x1.g 0 (1,(aw gU x1.g 0).2))))) (aI x1.2)) λx2=>(Z (x2.a,x2.2.1,x2.d))) λr=>Z (bU r)))) (0,0,(-1),(aD (aN (be x.2.1)) ((0,[]):g?)),(aD (aN (be x.b)) (aa:Bool)),(aD (aN (be x.c)) ((0,(0,aa)):i?)))))))
def xp (x:b?):M lE:=xA @iter x
def pK (x:b?):M lE:=xA @mQ x
def rT (it:OH) (x:b?):M mF:=
 (av (pK x) λA=>(bX (c8 0 0&&c8 0 (be x.1)&&bh (aN (be x.1)) 8) (bX (c8 0 (be x.b)&&c8 (be x.b) (be x.b)&&bh (aN (be x.b)) 8) (bX (c8 0 (be x.c)&&c8 (be x.c) (be x.c)&&bh (aN (be x.c)) 8) (it (Int×Int×N?) _ (λx2=>(bV x2.1 (be x.1) (bI mb x.1 x2.1 λq=>(bX (bh (ah x2.b+ah ([q.e])) 8) (c7 ((cL x2.1),x2.2.1,x2.a,(x2.b++([q.e])),x2.e)))) (aI x2.2.2))) (0,0,A,(aD (aN 0) (0:Int)),(aD (aN (be x.b)) (0:Int)),(aD (aN (be x.c)) (0:Int))))))))
def rC (x:b?):M mF:=rT @iter x
def eD (x:b?):M mF:=rT @mQ x
def fA (x:ν):M (Bool):=
 (jn (jr 0 x.1 (aI (gM x.1 x.2)) (aI aa)) λx1=>(Z x1))
def j6 (x:lN×f?):M (Bool):=
 (jn (bq x.2.1 1 (aI ((decide ((x.2.1:Int)=1)),x.1)) (bq x.2.1 2 (aI ((decide ((x.2.1:Int)=2)),x.1)) (bq x.2.1 5 (aI ((decide ((x.2.1:Int)=5)),x.1)) (bq x.2.1 12 (aI ((decide ((x.2.1:Int)=12)),x.1)) (bq x.2.1 13 (aI ((decide ((x.2.1:Int)=13)),x.1)) (bq x.2.1 14 (aI ((decide ((x.2.1:Int)=14)),x.1)) (aI ((decide ((x.2.1:Int)=15)),x.1)))))))) λx1=>(aJ x1.1 (Z (decide ((x.2.2:Int)=(-1)))) (jn (bq x.2.1 3 (aI ((decide ((x.2.1:Int)=3)),x1.2)) (aI ((decide ((x.2.1:Int)=4)),x1.2))) λx2=>(aJ x2.1 (av (fA (x.2.2,(be x2.2.1))) λy3=>(Z y3)) (jn (bq x.2.1 6 (aI ((decide ((x.2.1:Int)=6)),x2.2)) (aI ((decide ((x.2.1:Int)=7)),x2.2))) λx4=>(aJ x4.1 (jn (av (fA (x.2.2,(be x4.a))) λy6=>(aJ y6 (bI sk x4.a x.2.2 λz7=>(aI (!z7.2))) (aI aa))) λx5=>(Z x5)) (jn (bq x.2.1 8 (aI ((decide ((x.2.1:Int)=8)),x4.2)) (bq x.2.1 9 (aI ((decide ((x.2.1:Int)=9)),x4.2)) (bq x.2.1 10 (aI ((decide ((x.2.1:Int)=10)),x4.2)) (aI ((decide ((x.2.1:Int)=11)),x4.2))))) λD=>(aJ D.1 (jn (av (fA (x.2.2,(be D.a))) λy10=>(aJ y10 (bI sk D.a x.2.2 λN=>(aI N.2)) (aI aa))) λx9=>(Z x9)) (jn (bq x.2.1 16 (aI ((decide ((x.2.1:Int)=16)),D.2)) (bq x.2.1 17 (aI ((decide ((x.2.1:Int)=17)),D.2)) (bq x.2.1 18 (aI ((decide ((x.2.1:Int)=18)),D.2)) (aI ((decide ((x.2.1:Int)=19)),D.2))))) λA=>(aJ A.1 (av (fA (x.2.2,(be A.b))) λy13=>(Z y13)) (jn (bq x.2.1 20 (aI ((decide ((x.2.1:Int)=20)),A.2)) (aI ((decide ((x.2.1:Int)=21)),A.2))) λq=>(aJ q.1 (av (fA (x.2.2,(be q.f))) λy15=>(Z y15)) (jn (bq x.2.1 22 (aI ((decide ((x.2.1:Int)=22)),q.2)) (aI ((decide ((x.2.1:Int)=23)),q.2))) λI=>(aJ I.1 (av (fA (x.2.2,(be I.c))) λy17=>(Z y17)) (Z aa)))))))))))))))
def rW (it:OH) (x:lN×o?):M (Bool):=
 (jn (gV (be x.2.1) (be x.1.2.1) (aI (J,x.1)) (gV (be x.b) (be x.1.b) (aI (J,x.1)) (aI ((!decide (((be x.e):Int)=(be x.1.c))),x.1)))) λx1=>(aJ x1.1 (Z aa) (it N! _ (λx2=>(bV x2.1 (be x1.b) (bI itK x1.b x2.1 λq=>(av (fA (q.2,(be x2.a))) λA=>(aJ (!A) (aI aa) (c7 ((cL x2.1),x2.2))))) (aI J))) (0,x1.2))))
def zD (x:lN×o?):M (Bool):=rW @iter x
def jB (x:lN×o?):M (Bool):=rW @mQ x
def lz (x:M!):M (Bool):=
 (bq x.b 6 (bI dy x.2.1.1 x.e λz1=>(Z (decide ((z1.1:Int)=(-1))))) (bq x.b 10 (jn (α:=Bool) (bI dy x.2.1.1 x.e λz3=>(bq z3.1 (-1) (bI dy x.2.1.1 x.e λz4=>(aI (decide (((be z4.2):Int)=0)))) (aI aa))) λx2=>(Z x2)) (bq x.b 8 (jn (α:=Bool) (bI dy x.2.1.1 x.e λz6=>(bq z6.1 (-1) (bI dy x.2.1.1 x.e λz7=>(av (e_ (z7.2,x.a)) λy8=>(aI (!y8)))) (aI aa))) λx5=>(Z x5)) (jn (bq x.b 7 (aI ((decide ((x.b:Int)=7)),x.1,x.2.1)) (aI ((decide ((x.b:Int)=11)),x.1,x.2.1))) λA=>(aJ A.1 (bI dy A.a x.e λz10=>(Z (decide ((z10.1:Int)=x.a)))) (bq x.b 9 (bI dy A.a x.e λz11=>(av (e_ (z11.2,x.a)) λy12=>(Z y12))) (bq x.b 12 (Z (decide ((A.b:Int)=(-1)))) (bq x.b 13 (Z (decide ((A.b:Int)=x.a))) (bq x.b 14 (bI gU A.g x.a λz13=>(Z (!z13.2.2))) (bq x.b 15 (bI gU A.g x.a λz14=>(Z z14.2.2)) (jn (bq x.b 16 (aI ((decide ((x.b:Int)=16)),A.2)) (bq x.b 18 (aI ((decide ((x.b:Int)=18)),A.2)) (aI ((decide ((x.b:Int)=19)),A.2)))) λq=>(aJ q.1 (bI itK q.2.1.a x.e λz16=>(bI dy q.a z16.2 λz17=>(Z (decide ((z17.1:Int)=x.a))))) (bq x.b 20 (jn (gV x.e x.a (bI gU q.g x.e λz19=>(aI (decide ((z19.1:Int)=0)))) (aI aa)) λx18=>(Z x18)) (bq x.b 21 (jn (gV x.e x.a (bI gU q.g x.e λN=>(aI (decide ((N.1:Int)=5)))) (aI aa)) λx20=>(Z x20)) (bq x.b 22 (bI (.bool) q.c x.e λI=>(Z (!I))) (bq x.b 23 (bI (.bool) q.c x.e λD=>(Z D)) (Z J)))))))))))))))))
def eT (x:M!):M (Bool):=
 (jn (av (jB (x.1,x.2.1)) λy2=>(aJ (!y2) (aI (J,x.1,x.2.1)) (av (fA (x.a,(be x.1.c))) λy3=>(aJ (!y3) (aI (J,x.1,x.2.1)) (av (j6 (x.1,x.d)) λN=>(aI ((!N),x.1,x.2.1))))))) λx1=>(aJ x1.1 (Z aa) (bI gU x1.g x.a λq=>(bq x.b 1 (Z (decide ((q.1:Int)=1))) (bq x.b 17 (jn (α:=Bool) (bq q.1 4 (bq q.2.1 x.e (bI itK x1.2.1.a x.e λI=>(bI dy x1.a I.2 λD=>(aI (decide ((D.1:Int)=(-1)))))) (aI aa)) (aI aa)) λx6=>(Z x6)) (jn (bq q.1 2 (av (lz (x1.2.1,x1.2.2,x.2.2)) λA=>(aI A)) (aI aa)) λx9=>(Z x9)))))))
def lP (x:lN×N?):M (Bool):=
 (jn (av (jB (x.1,x.2.1)) λq=>(aJ q (bq (be x.a) (be x.1.1) (bq (be x.b) (be x.1.b) (aI (decide (((be x.e):Int)=(be x.1.c)))) (aI aa)) (aI aa)) (aI aa))) λx1=>(Z x1))
def mr (x:lN×b!):M (Bool):=
 (jn (bq x.a 1 (aI (J,x)) (aI ((decide ((x.a:Int)=2)),x))) λx1=>(aJ x1.1 (Z (decide ((x1.h:Int)=(-1)))) (jn (jr 0 x1.h (bV x1.h (be x1.2.1.g) (bI pS x1.2.1.g x1.h λq=>(aI (decide ((q.1:Int)=x1.a)))) (aI aa)) (aI aa)) λx2=>(Z x2))))
def mA (it:OH) (x:lN×G!):M (Bool):=
 (jn (bq x.b 3 (bI mb x.1.1 x.c λz2=>(aI ((!decide ((z2.2.2.1:Int)=0)),x.2))) (bq x.b 4 (bI mb x.1.1 x.c λz3=>(aI ((!decide ((z3.2.2.1:Int)=0)),x.2))) (aI (aa,x.2)))) λx1=>(jn (bq x1.b 5 (bq x1.b 4 (aI (x1.2.1,x1.2.2,J,J)) (aI (x1.2.1,x1.2.2,J,(decide ((x1.b:Int)=22))))) (bq x1.b 4 (aI (x1.2.1,x1.2.2,x1.1,J)) (aI (x1.2.1,x1.2.2,x1.1,(decide ((x1.b:Int)=22)))))) λx4=>(it (Int×mF×tJ×I!) _ (λq=>(bV q.1 2 (bX (c8 0 q.1&&gM q.1 2) (lt (aw ((.sl aP)) [x4.2.1.f,x4.2.1.i] q.1) λN=>(jn (α:=Bool×mF×tJ×I!) (bV 0 (be N) (bX (c8 0 q.1&&gM q.1 2) (bX (ij q.1 2) (lt (aw (.bool) [q.b,q.e] q.1) λz8=>(aI ((!z8),q.2))))) (aI (aa,q.2))) λx7=>(aJ x7.1 (aI aa) (it (ν×mF×tJ×I!) _ (λA=>(bV A.1.2 (be N) (bI aP N A.1.2 λD=>(jn (jr D A.1.1 (aI (J,A.2)) (bI aP A.2.1.d A.a.1 λz12=>(aI ((c8 z12 D),A.2)))) λI=>(aJ I.1 (aI (bU aa)) (c7 ((D,(cL A.1.2)),I.2))))) (aI (kZ ((cL q.1),A.2))))) ((0,0),x7.2)))))) (aI J))) (0,x4))))
def mo (x:lN×G!):M (Bool):=mA @iter x
def gf (x:lN×G!):M (Bool):=mA @mQ x
def mz (it:OH) (x:G!):M (Bool):=
 (bq x.a 3 (bI aP x.1.2.1 x.b λz1=>(Z (decide ((x.c:Int)=z1)))) (bq x.a 23 (bI aP x.1.a x.b λz2=>(Z (decide ((x.c:Int)=z2)))) (bq x.a 5 (jn (bq x.c 0 (aI J) (aI (decide ((x.c:Int)=1)))) λx3=>(Z x3)) (jn (bq x.a 4 (aI ((decide ((x.a:Int)=4)),x)) (aI ((decide ((x.a:Int)=22)),x))) λx4=>(aJ x4.1 (Z J) (bq x.a 18 (it ((Int×Bool×Int)×b!) _ (λA=>(bV A.1.2.2 (be x4.2.1.1.d) (jn (bI gU x4.2.1.1.d A.1.2.2 λz7=>(jn (bq z7.1 3 (aI ((decide ((z7.2.1:Int)=A.b)),A.2)) (aI (aa,A.2))) λN=>(aJ N.1 (aJ A.1.2.1 (aI (((cL A.1.1),J),N.2)) (aI (((cL A.1.1),(decide ((N.c:Int)=A.1.2.2))),N.2))) (aI ((A.1.1,A.1.2.1),N.2))))) λx6=>(c7 ((x6.1.1,x6.1.2,(cL A.1.2.2)),x6.2))) (av (jn (α:=Bool) (aJ A.1.2.1 (aI J) (bq A.1.1 0 (aI (decide ((A.c:Int)=(-1)))) (aI aa))) λx9=>(Z x9)) λr=>Z (bU r)))) ((0,aa,0),x4.2.2)) (bq x.a 19 (it Yd6 _ (λq=>(bV q.1.2 (be x4.2.1.1.d) (jn (bI gU x4.2.1.1.d q.1.2 λI=>(jn (bq I.1 3 (aI ((decide ((I.2.1:Int)=q.b)),q.2)) (aI (aa,q.2))) λD=>(aJ D.1 (aI ((cL q.1.1),D.2)) (aI (q.1.1,D.2))))) λx11=>(c7 ((x11.1,(cL q.1.2)),x11.2))) (aI (decide ((q.c:Int)=q.1.1))))) ((0,0),x4.2.2)) (Z (decide ((x4.f:Int)=0))))))))))
def qG (x:G!):M (Bool):=mz @iter x
def gX (x:G!):M (Bool):=mz @mQ x
def ne (x:dQ×Int):M (Bool):=
 (jn (bq x.1.1 3 (aI (decide ((x.1.2.1:Int)=x.2))) (aI aa)) λx1=>(Z x1))
def L8 (x:θ):M θ:=
 (aJ (aB (ah x) 0) (yI (Z ([]:θ)) (bX (bh (ah ([]:θ)+ah x) 1) (Z (([]:θ)++x)))) (bX (bh (ah ([]:θ)+ah x) 1) (Z (([]:θ)++x))))
def zI (x:θ):M θ:=chk (bh (ah x) 1) λ_=>Z x
def HM (x:θ):M θ:=
 (aJ (aB (ah x) 0) (yI (Z ([]:θ)) (bX (bh (ah ([]:θ)+ah x) 1) (Z (([]:θ)++x)))) (bX (bh (ah ([]:θ)+ah x) 1) (Z (([]:θ)++x))))
def xZ (x:θ):M θ:=chk (bh (ah x) 1) λ_=>Z x
def L4 (x:Y dQ):M (Y dQ):=
 (aJ (aB (ah x) 0) (yI (Z ([]:Y dQ)) (bX (bh (ah ([]:Y dQ)+ah x) 24) (Z (([]:Y dQ)++x)))) (bX (bh (ah ([]:Y dQ)+ah x) 24) (Z (([]:Y dQ)++x))))
def zH (x:Y dQ):M (Y dQ):=chk (bh (ah x) 24) λ_=>Z x
def HE (x:Y dQ):M (Y dQ):=
 (aJ (aB (ah x) 0) (yI (Z ([]:Y dQ)) (bX (bh (ah ([]:Y dQ)+ah x) 24) (Z (([]:Y dQ)++x)))) (bX (bh (ah ([]:Y dQ)+ah x) 24) (Z (([]:Y dQ)++x))))
def L2 (x:Y dQ):M (Y dQ):=chk (bh (ah x) 24) λ_=>Z x
def L7 (x:η):M η:=
 (aJ (aB (ah x) 0) (yI (Z ([]:η)) (bX (bh (ah ([]:η)+ah x) 8) (Z (([]:η)++x)))) (bX (bh (ah ([]:η)+ah x) 8) (Z (([]:η)++x))))
def FG (x:η):M η:=chk (bh (ah x) 8) λ_=>Z x
def HI (x:η):M η:=
 (aJ (aB (ah x) 0) (yI (Z ([]:η)) (bX (bh (ah ([]:η)+ah x) 8) (Z (([]:η)++x)))) (bX (bh (ah ([]:η)+ah x) 8) (Z (([]:η)++x))))
def BA (x:η):M η:=chk (bh (ah x) 8) λ_=>Z x
def HL (x:Y c?):M EL:=
 (aJ (aB (ah x) 0) (yI (Z ([]:Y c?)) (bX (bh (ah ([]:Y c?)+ah x) 16) (Z (([]:Y c?)++x)))) (bX (bh (ah ([]:Y c?)+ah x) 16) (Z (([]:Y c?)++x))))
def BB (x:Y c?):M EL:=chk (bh (ah x) 16) λ_=>Z x
def tD (it:OH) (x:o?):M Yd3:=
 (bX (c8 0 (be x.1)&&c8 (be x.1) (be x.1)&&bh (aN (be x.1)) 32) (it (Int×lE×Int×Y (Int×η)) _ (λx1=>(bV x1.1 (be x.1) (bI dy x.1 x1.1 λq=>(av (xu q.2) λI=>(ck (ij x1.1 (ah x1.d)) (c7 ((cL x1.1),x1.2.1,x1.a,(ca x1.d x1.1 (q.1,I))))))) (av (av (xZ x1.2.1.a) λD=>(av (L2 x1.2.1.d) λA=>(Z (x1.2.1.2.1,x1.d,D,A)))) λr=>Z (bU r)))) (0,x,0,(aD (aN (be x.1)) ((0,[]):g?)))))
def xo (x:o?):M Yd3:=tD @iter x
def lA (x:o?):M Yd3:=tD @mQ x
abbrev F!:=jF×(θ)×(Y dQ)×Int
def rV (it:OH) (x:π×B!):M Yd3:=
 (it (ν×F!) _ (λx1=>(bV x1.1.2 (be x.d) (jn (mn gU x1.b x1.1.2 λq=>(jn (av (ne (q,x.1.2.1)) λA=>(aJ A (bV x1.1.1 0 (aI (J,x1.2)) (aI ((decide ((x1.1.2:Int)=x.1.2.2)),x1.2))) (aI (aa,x1.2)))) λx4=>(aJ x4.1 (aI (x1.1.2,x4.2)) (aI (x1.1.1,x4.2))))) λx2=>(c7 ((x2.1,(cL x1.1.2)),x2.2))) (av (jn (α:=B!) (jr 0 x1.1.1 (ck (ij x1.1.1 (ah x1.b)) (aI (x1.2.1,x1.a,(ca x1.b x1.1.1 (4,(aw gU x1.b x1.1.1).2))))) (aI (x1.2.1,x1.a,x1.b))) λD=>(Z (x1.1.1,D))) λr=>Z (bU r)))) (((-1),0),x.2.1,x.a,x.d,x.1.1))
def vD (x:π×B!):M Yd3:=rV @iter x
def kH (x:π×B!):M Yd3:=rV @mQ x
def nG (it:OH) (x:ν×B!):M Yd3:=
 (it (ν×F!) _ (λx1=>(bV x1.1.2 (be x.d) (jn (α:=Int×F!) (mn gU x1.b x1.1.2 λq=>(av (ne (q,x.1.2)) λA=>(aJ A (ck (ij x1.1.2 (ah x1.b)) (aI ((cL x1.1.1),x1.2.1,x1.a,(ca x1.b x1.1.2 (4,(aw gU x1.b x1.1.2).2)),x1.e))) (aI (x1.1.1,x1.2))))) λx2=>(c7 ((x2.1,(cL x1.1.2)),x2.2))) (aI (x1.1.1,x1.2.1,x1.a,x1.b)))) ((0,0),x.2.1,x.a,x.d,x.1.1))
def rE (x:ν×B!):M Yd3:=nG @iter x
def im (x:ν×B!):M Yd3:=nG @mQ x
def rM (x:Int):M (Bool):=
 (Z (!decide ((x:Int)=x)))
def xt (x:ν):M (Bool):=
 (jn (av (rM x.1) λA=>(aJ A (av (rM x.2) λq=>(aJ (!q) (aI J) (aI (gM x.1 x.2)))) (aI (gM x.1 x.2)))) λx1=>(Z x1))
def sV (x:Int):M (Int):=
 (jr 4294967296 x U (jr 65536 x U (jr 256 x U (AY (aT .u8 x) ([0,1,2,2,3,3,3,3,4,4,4,4,4,4,4,4,5,5,5,5,5,5,5,5,5,5,5,5,5,5,5,5,6,6,6,6,6,6,6,6,6,6,6,6,6,6,6,6,6,6,6,6,6,6,6,6,6,6,6,6,6,6,6,6,7,7,7,7,7,7,7,7,7,7,7,7,7,7,7,7,7,7,7,7,7,7,7,7,7,7,7,7,7,7,7,7,7,7,7,7,7,7,7,7,7,7,7,7,7,7,7,7,7,7,7,7,7,7,7,7,7,7,7,7,7,7,7,7,8,8,8,8,8,8,8,8,8,8,8,8,8,8,8,8,8,8,8,8,8,8,8,8,8,8,8,8,8,8,8,8,8,8,8,8,8,8,8,8,8,8,8,8,8,8,8,8,8,8,8,8,8,8,8,8,8,8,8,8,8,8,8,8,8,8,8,8,8,8,8,8,8,8,8,8,8,8,8,8,8,8,8,8,8,8,8,8,8,8,8,8,8,8,8,8,8,8,8,8,8,8,8,8,8,8,8,8,8,8,8,8,8,8,8,8,8,8,8,8,8,8,8,8,8,8,8,8]) (Z (aT .i64 (0+(aT .i64 (sC ([0,1,2,2,3,3,3,3,4,4,4,4,4,4,4,4,5,5,5,5,5,5,5,5,5,5,5,5,5,5,5,5,6,6,6,6,6,6,6,6,6,6,6,6,6,6,6,6,6,6,6,6,6,6,6,6,6,6,6,6,6,6,6,6,7,7,7,7,7,7,7,7,7,7,7,7,7,7,7,7,7,7,7,7,7,7,7,7,7,7,7,7,7,7,7,7,7,7,7,7,7,7,7,7,7,7,7,7,7,7,7,7,7,7,7,7,7,7,7,7,7,7,7,7,7,7,7,7,8,8,8,8,8,8,8,8,8,8,8,8,8,8,8,8,8,8,8,8,8,8,8,8,8,8,8,8,8,8,8,8,8,8,8,8,8,8,8,8,8,8,8,8,8,8,8,8,8,8,8,8,8,8,8,8,8,8,8,8,8,8,8,8,8,8,8,8,8,8,8,8,8,8,8,8,8,8,8,8,8,8,8,8,8,8,8,8,8,8,8,8,8,8,8,8,8,8,8,8,8,8,8,8,8,8,8,8,8,8,8,8,8,8,8,8,8,8,8,8,8,8,8,8,8,8,8,8]) (aT .u8 x))))))))))
def vO (x:Int):M (Int):=
 (av (sV x) λq=>(Z q))
abbrev U?:=ν×η
def kV (it:OH) (x:U?):M η:=
 (it g? _ (λx1=>(bV x1.1 x.1.2 (it g? _ (λx2=>(jn (bV x.1.1 x2.1 (mn aP x2.2 x2.1 λI=>(mn aP x2.2 (aT .i64 (x2.1-1)) λD=>(av (xt (I,D)) λN=>(aI (N,x2.2))))) (aI (aa,x2.2))) λx3=>(aJ x3.1 (mn aP x3.2 (aT .i64 (x2.1-1)) λq=>(mn aP x3.2 x2.1 λA=>(ck (ij x2.1 (ah x3.2)) (ck (ij (aT .i64 (x2.1-1)) (ah (ca x3.2 x2.1 q))) (c7 ((aT .i64 (x2.1-1)),(ca (ca x3.2 x2.1 q) (aT .i64 (x2.1-1)) A))))))) (aI (kZ ((cL x1.1),x3.2)))))) x1) (aI x1.2))) ((cL x.1.1),x.2))
def kU (x:U?):M η:=kV @iter x
def gp (x:U?):M η:=kV @mQ x
def pt (it:OH) (x:π×η):M η:=
 (it ((Int×Int×Int×Bool×Bool)×η) _ (λx1=>(jr (aT .i64 (x1.1.2.1-x1.1.1)) 12 (av (gp ((x1.1.1,x1.1.2.1),x1.2)) λq=>(bX (aB (ah x1.2) (ah q)&&J) (aI q))) (bq x1.1.a 0 U (aJ (!x1.1.b) U U)))) ((x.1.1,x.1.2.1,x.1.2.2,J,J),x.2))
def pj (x:π×η):M η:=pt @iter x
def j_ (x:π×η):M η:=pt @mQ x
def xY (x:η):M η:=
 (av (vO (aT .u64 (be x))) λA=>(av (j_ ((0,(be x),A),x)) λq=>(bX (aB (ah x) (ah q)&&J) (Z q))))
def zY (it:OH) (x:η):M η:=
 (bV (be x) 2 (Z x) (it g? _ (λx1=>(bV x1.1 (be x1.2) (mn aP x1.2 x1.1 λA=>(mn aP x1.2 (aT .i64 (x1.1-1)) λq=>(bq A q (bX (c8 0 x1.1&&gM x1.1 (ah x1.2)) U) (c7 ((cL x1.1),x1.2))))) (aI x1.2))) (1,x)))
def zE (x:η):M η:=zY @iter x
def my (x:η):M η:=zY @mQ x
def pZ (x:ν):M (Bool×Int):=
 (Z ((decide ((x.1:Int)=x.2)),x.2))
def vZ (it:OH) (x:q!):M x!:=
 (it x! _ (λx1=>(bV x1.1 (be x.1) (mn aP x1.2.1 x1.1 λA=>(av (pZ (A,x1.2.2)) λq=>(aJ q.1 (aI (x1.1,x1.2.1,q.2)) (c7 ((cL x1.1),x1.2.1,q.2))))) (aI ((-1),x1.2)))) (0,x))
def vE (x:q!):M x!:=vZ @iter x
def ou (x:q!):M x!:=vZ @mQ x
def uF (it:OH) (x:q!):M g?:=
 (av (ou x) λq=>(bX (aB (ah x.1) (ah q.2.1)&&J) (bq q.1 (-1) U (it (ν×(η)×Int) _ (λx2=>(bV x2.1.2 (be x2.2.1) (jn (mn aP x2.2.1 x2.1.2 λD=>(av (pZ (D,x2.2.2)) λA=>(aJ (!A.1) (ck (ij x2.1.1 (ah x2.2.1)) (aI ((cL x2.1.1),(ca x2.2.1 x2.1.1 D),A.2))) (aI (x2.1.1,x2.2.1,A.2))))) λx3=>(c7 ((x3.1,(cL x2.1.2)),x3.2))) (av (ck (c8 0 x2.1.1&&gM x2.1.1 (ah x2.2.1)) (bX (c8 0 x2.1.1&&gM x2.1.1 (ah (cu (aN x2.1.1) x2.2.1++aD (ah x2.2.1-aN x2.1.1) (0:Int)))) (Z (x2.2.2,(cu (aN x2.1.1) (cu (aN x2.1.1) x2.2.1++aD (ah x2.2.1-aN x2.1.1) (0:Int))))))) λr=>Z (bU r)))) ((q.1,(cL q.1)),q.2)))))
def uy (x:q!):M g?:=uF @iter x
def j8 (x:q!):M g?:=uF @mQ x
def io (x:P!):M (lE×c?):=
 (av (eT (x.1,x.2.1,x.a,x.b,x.c)) λy1=>(aJ (!y1) (Z ((([]:Y g?),0,([]:θ),([]:Y dQ)),0,aa)) (av (lA x.2.1) λA=>(jn (α:=T?) (bq x.b 1 (ck (ij x.a (ah A.d)) (aI (0,A.1,0,A.2.1,A.a,(ca A.d x.a (2,(aw gU A.d x.a).2))))) (bq x.b 2 (ck (ij x.a (ah A.d)) (aI (0,A.1,0,A.2.1,A.a,(ca A.d x.a (5,(aw gU A.d x.a).2))))) (jn (α:=Bool×lN×T?) (bq x.b 6 (aI ((decide ((x.b:Int)=6)),x.1,A.1,x.a,0,A.2)) (aI ((decide ((x.b:Int)=10)),x.1,A.1,x.a,0,A.2))) λx4=>(aJ x4.1 (ck (ij x.c (ah x4.f)) (aI (0,x4.a,x4.c,(ca x4.f x.c (x4.b,(aw dy x4.f x.c).2)),x4.i))) (jn (bq x.b 7 (aI ((decide ((x.b:Int)=7)),x4.2)) (aI ((decide ((x.b:Int)=11)),x4.2))) λq=>(aJ q.1 (ck (ij x.c (ah q.f)) (aI (0,q.a,q.c,(ca q.f x.c ((-1),(aw dy q.f x.c).2)),q.i))) (bq x.b 8 (mn dy q.f x.c λz6=>U) (bq x.b 9 (mn dy q.f x.c λz7=>U) (bq x.b 12 (aI (0,q.d)) (bq x.b 13 (aI (0,(-1),q.e)) (bq x.b 14 (ck (ij q.b (ah q.j)) (aI (0,q.a,q.c,q.f,q.h,(ca q.j q.b ((aw gU q.j q.b).1,((aw gU q.j q.b).2).1,J))))) (bq x.b 15 (ck (ij q.b (ah q.j)) (aI (0,q.a,q.c,q.f,q.h,(ca q.j q.b ((aw gU q.j q.b).1,((aw gU q.j q.b).2).1,aa))))) (bq x.b 16 (bI itK q.2.1.a x.c λz8=>(ck (ij z8.2 (ah q.f)) (ck (ij q.b (ah q.j)) (ck (ij q.b (ah (ca q.j q.b (3,(aw gU q.j q.b).2)))) (aI (0,q.a,q.c,(ca q.f z8.2 ((-1),(aw dy q.f z8.2).2)),q.h,(ca (ca q.j q.b (3,(aw gU q.j q.b).2)) q.b ((aw gU (ca q.j q.b (3,(aw gU q.j q.b).2)) q.b).1,x.c,((aw gU (ca q.j q.b (3,(aw gU q.j q.b).2)) q.b).2).2)))))))) (bq x.b 17 (bI itK q.2.1.a x.c λN=>(ck (ij N.2 (ah q.f)) (ck (ij q.b (ah q.j)) (ck (ij q.b (ah (ca q.j q.b (2,(aw gU q.j q.b).2)))) (aI (0,q.a,q.c,(ca q.f N.2 (q.b,(aw dy q.f N.2).2)),q.h,(ca (ca q.j q.b (2,(aw gU q.j q.b).2)) q.b ((aw gU (ca q.j q.b (2,(aw gU q.j q.b).2)) q.b).1,0,((aw gU (ca q.j q.b (2,(aw gU q.j q.b).2)) q.b).2).2)))))))) (bq x.b 18 (av (kH ((q.a,x.e),q.g)) λI=>(bX (aB (ah q.j) (ah I.d)&&(aB (ah q.h) (ah I.a)&&(aB (ah q.f) (ah I.2.1)&&J))) (aI (I.1,q.a,q.c,I.2)))) (bq x.b 19 (av (im ((q.a,x.c),q.g)) λD=>(bX (aB (ah q.j) (ah D.d)&&(aB (ah q.h) (ah D.a)&&(aB (ah q.f) (ah D.2.1)&&J))) (aI (D.1,q.a,q.c,D.2)))) (bq x.b 20 (ck (ij x.c (ah q.j)) (aI (0,q.a,q.c,q.f,q.h,(ca q.j x.c (1,(aw gU q.j x.c).2))))) (bq x.b 22 (ck (ij x.c (ah q.h)) (aI (0,q.a,q.c,q.f,(ca q.h x.c J),q.j))) (aI (0,q.a,q.e)))))))))))))))))))) λx3=>(Z ((x3.b,x3.2.1,x3.e),x3.1,J))))))
def rJ (x:o?):M (anf×(π)×l?):=
 (bX (c8 0 (be x.1)&&c8 (be x.1) (be x.1)&&bh (aN (be x.1)) 32&&decide (((be x.1):Int)=3)) (jn (α:=lE×Int×(π)×l?) (bV 0 (be x.1) (bI dy x.1 0 λq=>(av (p_ q.2) λD=>(bV 1 (be x.1) (bI dy x.1 1 λA=>(av (p_ A.2) λy5=>(bV 2 (be x.1) (bI dy x.1 2 λz6=>(av (p_ z6.2) λy7=>(bV 3 (be x.1) (bI dy x.1 3 λz8=>(av (p_ z8.2) λy9=>U)) (aI (x,0,(q.1,A.1,z6.1),D,y5,y7))))) (aI (x,0,(q.1,A.1,0),D,y5,([]:η)))))) (aI (x,0,(q.1,0,0),D,([]:η),([]:η)))))) (aI (x,0,(0,0,0),([]:η),([]:η),([]:η)))) λx1=>(av (zI x1.1.a) λN=>(av (zH x1.1.d) λI=>(Z ((x1.1.2.1,N,I),x1.2.2))))))
def lU (x:P!):M (lE×c?):=
 (av (eT (x.1,x.2.1,x.a,x.b,x.c)) λy1=>(aJ (!y1) (Z ((([]:Y g?),0,([]:θ),([]:Y dQ)),0,aa)) (av (rJ x.2.1) λA=>(jn (α:=Int×anf×Int×((Int×η)×(Int×η)×Int)×Bool×η) (bq x.b 1 (AY x.a A.1.2.2 U) (bq x.b 2 (AY x.a A.1.2.2 U) (jn (α:=Bool×lN×anf×Int×Int×(π)×l?) (bq x.b 6 (aI ((decide ((x.b:Int)=6)),x.1,A.1,x.a,0,A.2)) (aI ((decide ((x.b:Int)=10)),x.1,A.1,x.a,0,A.2))) λx4=>(aJ x4.1 U (jn (bq x.b 7 (aI ((decide ((x.b:Int)=7)),x4.2.1,x4.a,x4.b,x4.c,(x4.f.1,x4.h,x4.f.2.1,x4.k,x4.f.2.2),x4.l)) (aI ((decide ((x.b:Int)=11)),x4.2.1,x4.a,x4.b,x4.c,(x4.f.1,x4.h,x4.f.2.1,x4.k,x4.f.2.2),x4.l))) λq=>(aJ q.1 U (bq x.b 8 (bq x.c 0 U (bq x.c 1 U (bq x.c 2 (bX (bh (ah q.i+ah ([q.b])) 8) (av (xY (q.i++([q.b]))) λD=>(bX (aB (ah (q.i++([q.b]))) (ah D)&&J) (av (my D) λI=>(bX (aB (ah D) (ah I)&&J) (aI (0,q.a,q.c,((q.f.1,q.f.2.1),(q.f.a,q.f.b),q.f.e),J,I))))))) U))) (bq x.b 9 (bq x.c 0 U (bq x.c 1 U (bq x.c 2 (av (j8 (q.i,q.b)) λN=>(bX (aB (ah q.i) (ah q.i)&&J) (aI (0,q.a,q.c,((q.f.1,q.f.2.1),(q.f.a,q.f.b),q.f.e),aa,N.2)))) U))) (bq x.b 12 (aI (0,(q.b,q.a.2),q.c,((q.f.1,q.f.2.1),(q.f.a,q.f.b),q.f.e),J,q.i)) (bq x.b 13 (aI (0,((-1),q.a.2),q.c,((q.f.1,q.f.2.1),(q.f.a,q.f.b),q.f.e),J,q.i)) (bq x.b 14 (AY q.b q.a.2.2 U) (bq x.b 15 (AY q.b q.a.2.2 U) (bq x.b 16 U (bq x.b 17 U (bq x.b 18 U (bq x.b 19 U (bq x.b 20 (AY x.c q.a.2.2 U) (bq x.b 22 (AY x.c q.a.2.1 U) (aI (0,q.a,q.c,((q.f.1,q.f.2.1),(q.f.a,q.f.b),q.f.e),J,q.i)))))))))))))))))))) λx3=>(Z (([x3.b.1,x3.b.2.1,(x3.b.2.2,x3.g)],x3.2.1),x3.1,J))))))
def lB (x:P!):M (lE×c?):=orE (io x) (lU x)
def kw (x:lN×G!):M (mF×Bool):=
 (jn (α:=Bool×E?) (av (lP (x.1,x.2.1)) λy2=>(aJ (!y2) (aI (J,x.1,x.2.1,x.2.2,0)) (bV x.a 0 (aI (J,x.1,x.2.1,x.2.2,0)) (jr (be x.1.c) x.a (aI (J,x.1,x.2.1,x.2.2,0)) (bV x.b 1 (aI (J,x.1,x.2.1,x.2.2,0)) (aI ((gM 23 x.b),x.1,x.2.1,x.2.2,0))))))) λx1=>(aJ x1.1 (Z (((([]:Y g?),0,([]:θ),([]:Y dQ)),([]:η),([]:η),([]:η)),aa)) (jn (av (eT (x1.2.1,x1.a.1,x1.b.1,x1.b.2.1,x1.b.a)) λy4=>(aJ (!y4) (aI (J,x1.2)) (av (mr (x1.2.1,x1.b)) λy5=>(aJ (!y5) (aI (J,x1.2)) (av (gf (x1.2.1,x1.a,x1.b)) λy6=>(aJ (!y6) (aI (J,x1.2)) (av (gX (x1.a,x1.b)) λy7=>(aI ((!y7),x1.2))))))))) λx3=>(aJ x3.1 (Z (((([]:Y g?),0,([]:θ),([]:Y dQ)),([]:η),([]:η),([]:η)),aa)) (jn (α:=Int×E?) (bq x3.b.2.1 18 (aI (x3.b.b,x3.2)) (aI ((-1),x3.2))) λq=>(av (lB (q.2.1,q.a.1,q.b.1,q.b.2.1,q.b.a,q.1)) λy9=>(aJ (!y9.2.2) (Z (((([]:Y g?),0,([]:θ),([]:Y dQ)),([]:η),([]:η),([]:η)),aa)) (av (BA q.a.2.1) λI=>(av (BA q.a.a) λD=>(av (p_ q.a.d) λN=>(jn (bq q.b.2.1 4 (ck (ij q.b.a (ah I)) (aI (q.b,q.e,y9.1,(ca I q.b.a q.b.b),D,N))) (bq q.b.2.1 22 (ck (ij q.b.a (ah D)) (aI (q.b,q.e,y9.1,I,(ca D q.b.a q.b.b),N))) (aI (q.b,q.e,y9.1,I,D,N)))) λA=>(mn aP A.g A.1.1 λz14=>(ck (ij A.1.1 (ah A.g)) (Z ((A.a,A.b,A.c,(ca A.g A.1.1 (cL z14))),J)))))))))))))))
def kO (it:OH) (x:Yd6×Y θ):M (Bool×Y θ):=
 (it ((ν×Int)×Y θ) _ (λx1=>(bV x1.1.2 2 (bX (c8 0 x1.1.2&&gM x1.1.2 2) (lt (aw ((.sl aP)) [x.1.h,x.1.j] x1.1.2) λD=>(it ((ν×Int)×Y θ) _ (λx3=>(bV x3.1.2 (be D) (bI aP D x3.1.2 λA=>(jn (bV A 0 (aI (((x3.1.1.1,aY (aN x3.1.1.2)),J),x3.2)) (jr (aY (aN x3.1.1.2)) A (aI (((x3.1.1.1,aY (aN x3.1.1.2)),J),x3.2)) (bX (ij A (aN x3.1.1.2)) (AY x3.1.1.1 x3.2 (bI (.bool) (Au (T:=.bool) x3.2 x3.1.1.1) A λI=>(aI (((x3.1.1.1,aY (aN x3.1.1.2)),(!I)),x3.2))))))) λq=>(aJ q.1.2 (aI (bU (aa,q.2))) (c7 (((q.1.1.1,aY (aN q.1.1.2)),(cL x3.1.2)),q.2))))) (aI (kZ (((x3.1.1.1,aY (aN x3.1.1.2)),(cL x1.1.2)),x3.2))))) (((x1.1.1.1,aY (aN x1.1.1.2)),0),x1.2)))) (aI (J,x1.2)))) (((x.1.1.1,aY (aN x.1.1.2)),0),x.2))
def nv (x:Yd6×Y θ):M (Bool×Y θ):=kO @iter x
def eQ (x:Yd6×Y θ):M (Bool×Y θ):=kO @mQ x
def nE (it:OH) (x:lN×Y tJ):M ν:=
 (bV 400 (be x.2) (Z (0,2)) (av (iE x.1) λy1=>(aJ (!y1) (Z (0,1)) (av (eD x.1) λy2=>(bX (c8 0 (be x.1.c)&&c8 (be x.1.c) (be x.1.c)&&bh (aN (be x.1.c)) 24) (it (Int×(lN×Y tJ)×mF×(η)×Y θ) _ (λx3=>(bV x3.1 (be x.2) (bI gm x.2 x3.1 λA=>(av (kw (x3.2.1.1,x3.a,A)) λI=>(jn (aJ (!I.2) (aI (J,x3.2.1,x3.a,x3.b,A,I.1,x3.e)) (ck (ij A.1 (ah x3.b)) (av (eQ (((A.1,aY (aN (OF x3.b A.1))),A),x3.e)) λN=>(aI ((!N.1),x3.2.1,x3.a,x3.b,A,I.1,N.2))))) λq=>(aJ q.1 (aI (x3.1,12)) (jn (α:=(lN×Y tJ)×mF×(η)×mF×Y θ) (ck (ij q.c.1 (ah q.b)) (bq q.c.2.1 3 (AY q.c.1 q.i (bX (aB (aN (OF q.b q.c.1)) (ah (Au (T:=.bool) q.i q.c.1))&&bh ((aN (OF q.b q.c.1))+ah ([J]:θ)) 1) (ck (ij q.c.1 (ah q.b)) (aI (q.2.1,q.a,(CL q.b (aN q.c.1) (aY (ah ((Au (T:=.bool) q.i q.c.1)++([J]))))),q.f,(xM (T:=.bool) (xM (T:=.bool) q.i q.c.1 []) q.c.1 ((Au (T:=.bool) q.i q.c.1)++([J])))))))) (AY q.c.1 q.i (bX (aB (aN (OF q.b q.c.1)) (ah (Au (T:=.bool) q.i q.c.1))&&bh ((aN (OF q.b q.c.1))+ah ([(decide ((q.c.2.1:Int)=23))]:θ)) 1) (ck (ij q.c.1 (ah q.b)) (aI (q.2.1,q.a,(CL q.b (aN q.c.1) (aY (ah ((Au (T:=.bool) q.i q.c.1)++([(decide ((q.c.2.1:Int)=23))]))))),q.f,(xM (T:=.bool) (xM (T:=.bool) q.i q.c.1 []) q.c.1 ((Au (T:=.bool) q.i q.c.1)++([(decide ((q.c.2.1:Int)=23))])))))))))) λD=>(c7 ((cL x3.1),D.1,D.b,D.a,D.e))))))) (aI (0,0)))) (0,x,y2,(aD (aN (be x.1.c)) (0:Int)),(aD (aN (be x.1.c)) ([]:θ)))))))))
def rD (x:lN×Y tJ):M ν:=nE @iter x
def il (x:lN×Y tJ):M ν:=nE @mQ x
def HJ (x:Y EM):M pD:=
 (aJ (aB (ah x) 0) (yI (Z ([]:Y EM)) (bX (bh (ah ([]:Y EM)+ah x) 48) (Z (([]:Y EM)++x)))) (bX (bh (ah ([]:Y EM)+ah x) 48) (Z (([]:Y EM)++x))))
def FH (x:Y EM):M pD:=chk (bh (ah x) 48) λ_=>Z x
def HH (x:Y Yd7):M mG:=
 (aJ (aB (ah x) 0) (yI (Z ([]:Y Yd7)) (bX (bh (ah ([]:Y Yd7)+ah x) 24) (Z (([]:Y Yd7)++x)))) (bX (bh (ah ([]:Y Yd7)+ah x) 24) (Z (([]:Y Yd7)++x))))
def FF (x:Y Yd7):M mG:=chk (bh (ah x) 24) λ_=>Z x
def HK (x:Y jQ):M (Y jQ):=
 (aJ (aB (ah x) 0) (yI (Z ([]:Y jQ)) (bX (bh (ah ([]:Y jQ)+ah x) 24) (Z (([]:Y jQ)++x)))) (bX (bh (ah ([]:Y jQ)+ah x) 24) (Z (([]:Y jQ)++x))))
def FI (x:Y jQ):M (Y jQ):=chk (bh (ah x) 24) λ_=>Z x
def L5 (x:Y ζ):M dC:=
 (aJ (aB (ah x) 0) (yI (Z ([]:Y ζ)) (bX (bh (ah ([]:Y ζ)+ah x) 16) (Z (([]:Y ζ)++x)))) (bX (bh (ah ([]:Y ζ)+ah x) 16) (Z (([]:Y ζ)++x))))
def CS (x:Y ζ):M dC:=chk (bh (ah x) 16) λ_=>Z x
def HG (x:Y π):M (Y π):=
 (aJ (aB (ah x) 0) (yI (Z ([]:Y π)) (bX (bh (ah ([]:Y π)+ah x) 24) (Z (([]:Y π)++x)))) (bX (bh (ah ([]:Y π)+ah x) 24) (Z (([]:Y π)++x))))
def FE (x:Y π):M (Y π):=chk (bh (ah x) 24) λ_=>Z x
def lh (x:b?):M lN:=
 (av (FH x.1) λy1=>(av (FF x.2.1) λN=>(av (FI x.a) λI=>(av (CS x.b) λD=>(av (CS x.c) λA=>(av (FE x.g) λq=>(Z (y1,N,I,D,A,q))))))))
def jH (x:N?):M mF:=
 (av (FG x.2.1) λy1=>(av (FG x.a) λy2=>(av (xu x.d) λy3=>(av (zI x.1.a) λN=>(av (zH x.1.d) λI=>(iter (σ:=Int×Int×(Int×(θ)×(Y dQ)×(η)×(η)×η)×Y (Int×η)) (λq=>(bV q.1 (be x.1.1) (bI dy x.1.1 q.1 λA=>(av (xu A.2) λD=>(bX (bh (ah q.d+ah ([(A.1,D)])) 32) (c7 ((cL q.1),q.2.1,q.a,(q.d++([(A.1,D)]))))))) (aI ((q.d,q.a.1,q.a.2.1,q.a.a),q.a.d)))) (0,0,(x.1.2.1,N,I,y1,y2,y3),([]:Y g?))))))))
def kD (x:Y tJ):M (Y tJ):=
 (bX (c8 0 0&&c8 0 (be x)&&bh (aN (be x)) 88) (iter (σ:=Int×Y tJ) (λx1=>(bV x1.1 (be x) (bI gm x x1.1 λq=>(av (xu q.f) λD=>(av (xu q.i) λA=>(bX (bh (ah x1.2+ah ([(q.1,q.2.1,q.a,q.b,q.c,D,A)])) 88) (c7 ((cL x1.1),(x1.2++([(q.1,q.2.1,q.a,q.b,q.c,D,A)])))))))) (aI x1.2))) (0,(aD (aN 0) ((0,(0,(0,(0,(0,([],[])))))):b!)))))
def mZ (x:(lN×Y tJ)×Int):M ((Y lD)×Int):=
 (av (il x.1) λy1=>(gV y1.2 0 (Z (([]:Y lD),12)) (jn (bV x.2 1 (aI (J,x.1)) (aI ((gM 16 x.2),x.1))) λx2=>(aJ x2.1 (Z (([]:Y lD),1)) (av (eD x2.2.1) λy3=>(iter (σ:=Int×(lN×Y tJ)×(Y lD)×N?) (λx4=>(bV x4.1 (be x2.2.2) (bI gm x2.2.2 x4.1 λD=>(jn (α:=(lN×Y tJ)×(Y lD)×G!) (bX (!decide ((x.2:Int)=0)) (bq (cC x4.1 x.2) 0 (av (lh x4.2.1.1) λy7=>(av (jH x4.d) λN=>(bX (c8 0 x4.1&&(c8 x4.1 (Mk (aT .i64 (x4.1+x.2)) (be x4.2.1.2))&&c8 (Mk (aT .i64 (x4.1+x.2)) (be x4.2.1.2)) (ah x4.2.1.2))) (av (kD (cu (aN (Mk (aT .i64 (x4.1+x.2)) (be x4.2.1.2))-aN x4.1) (ig (aN x4.1) x4.2.1.2))) λI=>(bX (bh (ah x4.a+ah ([(y7,x4.1,N,I)])) 328) (aI (x4.2.1,(x4.a++([(y7,x4.1,N,I)])),x4.d,D))))))) (aI (x4.2.1,x4.a,x4.d,D)))) λq=>(av (kw (q.1.1,q.2.2)) λA=>(c7 ((cL x4.1),q.1,q.2.1,A.1))))) (aI (x4.a,0)))) (0,x2.2,([]:Y lD),y3)))))))
def mP (x:o?):M lE:=
 (av (zI x.a) λI=>(av (zH x.d) λD=>(iter (σ:=Int×Int×anf×Y (Int×η)) (λx3=>(bV x3.1 (be x.1) (bI dy x.1 x3.1 λq=>(av (xu q.2) λA=>(bX (bh (ah x3.d+ah ([(q.1,A)])) 32) (c7 ((cL x3.1),x3.2.1,x3.a,(x3.d++([(q.1,A)]))))))) (aI (x3.d,x3.a)))) (0,0,(x.2.1,I,D),([]:Y g?)))))
def oW (x:η):M EL:=
 (bX (c8 0 0&&c8 0 (be x)&&bh (aN (be x)) 16) (iter (σ:=Int×Y (Int×Bool)) (λx1=>(bV x1.1 (be x) (bI aP x x1.1 λq=>(bX (bh (ah x1.2+ah ([(q,J)])) 16) (c7 ((cL x1.1),(x1.2++([(q,J)])))))) (aI x1.2))) (0,(aD (aN 0) ((0,aa):c?)))))
def rK (x:j!):M E3:=
 (av (mP x.a.1) λD=>(av (oW x.a.2.1) λA=>(av (oW x.a.a) λq=>(bX (c8 0 (be x.d)&&c8 (be x.d) (be x.d)&&bh (aN (be x.d)) 1) (bX (c8 0 (be x.d)&&c8 (be x.d) (be x.d)&&bh (aN (be x.d)) 8) (Z (D,A,q,([]:η),(aD (aN (be x.d)) (aa:Bool)),(aD (aN (be x.d)) (0:Int)))))))))
abbrev K?:=lD×E3×Int
def mh (x:K?):M (Int):=
 (jn (bV x.2.2 0 (aI (J,x.1,x.2.1)) (aI ((c8 (be x.1.1.c) x.2.2),x.1,x.2.1))) λx1=>(aJ x1.1 (Z (-1)) (iter (σ:=Int×g!) (λx2=>(bV x2.1 (be x1.2.1.d) (bI gm x1.2.1.d x2.1 λq=>(jn (bq q.1 x.2.2 (av (e_ (x2.c,x2.1)) λA=>(aI ((!A),x2.2))) (aI (aa,x2.2))) λx4=>(aJ x4.1 (aI x2.1) (c7 ((cL x2.1),x4.2))))) (aI (-1)))) (0,x1.2.2))))
abbrev D!:=Int×E3×η
def oX (x:lD×E3×g?):M (Bool):=
 (bq (be x.d) 0 (Z J) (jn (bV x.a 0 (aI (J,x.1,x.2.1)) (jr (be x.1.1.c) x.a (aI (J,x.1,x.2.1)) (aI ((c8 (be x.1.a.d) x.a),x.1,x.2.1)))) λx1=>(aJ x1.1 (Z aa) (bI aP x1.2.1.a.d x.a λD=>(iter (σ:=D!) (λx3=>(bV x3.1 (be x1.2.1.d) (jn (α:=E3×η) (bI gm x1.2.1.d x3.1 λz5=>(bq z5.1 x.a (bX (bh (ah x3.2.2+ah ([x3.1])) 8) (aI (x3.2.1,(x3.2.2++([x3.1]))))) (aI x3.2))) λx4=>(c7 ((cL x3.1),x4))) (av (iter (σ:=D!) (λq=>(bV q.1 (be x.d) (jn (bI aP x.d q.1 λA=>(bV A D (aI q.2) (jn (bV (aT .i64 (A-D)) 0 (aI (J,q.2)) (jr (be q.2.2) (aT .i64 (A-D)) (aI (J,q.2)) (mn aP q.2.2 (aT .i64 (A-D)) λz10=>(jr (be q.2.1.c) z10 (aI (J,q.2)) (mn aP q.2.2 (aT .i64 (A-D)) λN=>(bI (.bool) q.2.1.c N λI=>(aI ((!I),q.2)))))))) λx9=>(aJ x9.1 (c7 (bU aa)) (aI x9.2))))) λx7=>(c7 ((cL q.1),x7))) (aI J))) (0,x3.2)) λr=>Z (bU r)))) (0,x1.2.2,([]:η)))))))
def fT (x:K?):M (Bool):=
 (av (mh x) λA=>(bV A 0 (Z aa) (bI gm x.1.d A λq=>(jn (av (eT (x.1.1,x.2.1.1,x.2.2,q.2.1,q.a)) λI=>(aJ I (av (oX (x.1,x.2.1,x.2.2,q.f)) λD=>(aI D)) (aI aa))) λx3=>(Z x3)))))
def uc (x:lD×g!):M (Bool):=
 (jn (bq (be x.a) (be x.1.1.1) (bq (be x.b) (be x.1.1.b) (bq (be x.f) (be x.1.d) (aI (decide (((be x.i):Int)=(be x.1.d)))) (aI aa)) (aI aa)) (aI aa)) λx1=>(Z x1))
def ud (x:lD×E3×f?):M (E3×Bool):=
 (jn (α:=Bool×lD×E3×(ν)×Int) (av (uc (x.1,x.2.1)) λy2=>(aJ (!y2) (aI (J,x.1,x.2.1,x.2.2,0)) (av (fT (x.1,x.2.1,x.a)) λy3=>(aI ((!y3),x.1,x.2.1,x.2.2,0))))) λx1=>(aJ x1.1 (Z (((([]:Y g?),0,([]:θ),([]:Y dQ)),([]:Y c?),([]:Y c?),([]:η),([]:θ),([]:η)),aa)) (av (mh (x1.2.1,x1.a,x1.b.1)) λI=>(bI gm x1.2.1.d I λz5=>(av (lB (x1.2.1.1,x1.a.1,x1.b.1,z5.2.1,z5.a,x1.b.2)) λN=>(aJ (!N.2.2) (Z (((([]:Y g?),0,([]:θ),([]:Y dQ)),([]:Y c?),([]:Y c?),([]:η),([]:θ),([]:η)),aa)) (jn (α:=lD×E3×(ν)×Int×tJ×av2×EL×EL×(θ)×η) (av (BB x1.a.2.1) λy8=>(av (BB x1.a.a) λy9=>(bX ((decide ((be x1.a.b)=(be x1.a.b))&&c8 0 (be x1.a.b))&&c8 (be x1.a.b) (ah x1.a.b)) (bX (bh (ah (cu (aN (be x1.a.b)) x1.a.b)+ah ([I])) 8) (aJ (aB (ah ([I])) 0) (av (xZ x1.a.c) λy10=>(av (p_ x1.a.g) λy11=>(aI (x1.2.1,x1.a,x1.b,x1.e,z5,(N.1.1,N.1.2.1,N.1.a,N.1.d,(cu (aN (be x1.a.b)) x1.a.b)),y8,y9,y10,y11)))) (av (xZ x1.a.c) λy12=>(av (p_ x1.a.g) λy13=>(aI (x1.2.1,x1.a,x1.b,x1.e,z5,(N.1.1,N.1.2.1,N.1.a,N.1.d,((cu (aN (be x1.a.b)) x1.a.b)++([I]))),y8,y9,y12,y13))))))))) λA=>(jn (α:=E3×Int×tJ×av2×(Int×Bool)×(Int×Bool)×EL×EL×(θ)×η) (av (oX (A.1,A.2.1,A.a.1,A.c.i)) λy15=>(aJ y15 (aI (A.2.1,A.b,A.c,A.f,(A.c.b,J),(A.c.b,J),A.i)) (aI (A.2.1,A.b,A.c,A.f,(A.c.b,J),(0,aa),A.i)))) λq=>(jn (bq q.a.2.1 3 (bI Bn q.1.2.1 q.a.a λz17=>(ck (ij I (ah q.p8)) (aI (q.2.1,q.b,q.h,q.k,(ca q.p8 I (OG (.pr aP (.pr .bool .un)) (z17.1,z17.2,()) (q.c.1,q.c.2,()) !=aa)),q.o)))) (bq q.a.2.1 23 (bI Bn q.1.a q.a.a λz18=>(ck (ij I (ah q.p8)) (aI (q.2.1,q.b,q.h,q.k,(ca q.p8 I (OG (.pr aP (.pr .bool .un)) (z18.1,z18.2,()) (q.c.1,q.c.2,()) !=aa)),q.o)))) (bq q.a.2.1 4 (ck (ij q.a.a (ah q.h)) (aI (q.2.1,q.b,(ca q.h q.a.a q.f),q.j))) (bq q.a.2.1 22 (ck (ij q.a.a (ah q.k)) (aI (q.2.1,q.b,q.h,(ca q.k q.a.a q.f),q.l))) (bq q.a.2.1 18 (jr 0 N.2.1 (ck (ij I (ah q.o)) (aI (q.2.1,q.b,q.h,q.k,q.p8,(ca q.o I 1)))) (aI (q.2.1,q.b,q.i))) (bq q.a.2.1 19 (ck (ij I (ah q.o)) (aI (q.2.1,q.b,q.h,q.k,q.p8,(ca q.o I N.2.1)))) (aI (q.2.1,q.b,q.i)))))))) λD=>(Z (((D.2.1.1,D.2.1.2.1,D.2.1.a,D.2.1.b),D.a,D.b,D.2.1.e,D.e),J)))))))))))
def o7 (x:b!):M (Bool):=
 (jn (bq x.2.1 3 (aI J) (aI (decide ((x.2.1:Int)=4)))) λx1=>(Z x1))
def uf (x:Int):M (Bool):=
 (jn (bq x 6 (aI (decide ((x:Int)=6))) (bq x 8 (aI (decide ((x:Int)=8))) (bq x 10 (aI (decide ((x:Int)=10))) (bq x 17 (aI (decide ((x:Int)=17))) (aI (decide ((x:Int)=21))))))) λx1=>(aJ x1 (Z J) (Z aa)))
def pN (x:j!):M ((lD×Y lE)×Bool):=
 (jn (α:=Bool×lD×(ν)×u?) (bV 16 (be x.d) (aI (J,x,(0,0),x.1.1,x.1.2.1,x.1.a,x.1.b,x.1.c,x.1.g,x.2.1,x.a.1.1,x.a.1.2.1,x.a.1.a,x.a.1.d,x.a.2.1,x.a.a,x.a.d,x.d)) (aI ((gM 4 (be x.1.c)),x,(0,0),x.1.1,x.1.2.1,x.1.a,x.1.b,x.1.c,x.1.g,x.2.1,x.a.1.1,x.a.1.2.1,x.a.1.a,x.a.1.d,x.a.2.1,x.a.a,x.a.d,x.d))) λx1=>(aJ x1.1 (Z ((((x1.b,x1.c,x1.f,x1.h,x1.k,x1.p8),x1.m,((x1.n,x1.q,x1.p,x1.t),x1.v,x1.w,x1.y),x1.G),([]:Y lE)),aa)) (iter (σ:=Int×lD×(ν)×Yd9×lE×Y lE) (λx2=>(bV x2.1 (be x1.2.1.d) (bI gm x1.2.1.d x2.1 λq=>(bX (bh (ah x2.g+ah ([x2.c])) 80) (jn (α:=Int×lD×(ν)×Yd9×lE×tJ×Y lE) (bq q.2.1 18 (aI (q.b,x2.2.1,x2.a,x2.b,x2.c,q,(x2.g++([x2.c])))) (aI ((-1),x2.2.1,x2.a,x2.b,x2.c,q,(x2.g++([x2.c]))))) λx4=>(av (lB (x4.2.1.1,x4.c,x4.f.1,x4.f.2.1,x4.f.a,x4.1)) λA=>(aJ (!A.2.2) (aI ((((x4.b.1,x4.b.2.1,x4.b.a,x4.b.b,x4.b.c,x4.b.f),x4.b.h,((x4.b.k,x4.b.p8,x4.b.m,x4.b.n),x4.b.q,x4.b.p,x4.b.t),x4.b.z),x4.i),aa)) (c7 ((cL x2.1),x4.2.1,x4.a,x4.b,A.1,x4.i))))))) (aI ((((x2.b.1,x2.b.2.1,x2.b.a,x2.b.b,x2.b.c,x2.b.f),x2.b.h,((x2.b.k,x2.b.p8,x2.b.m,x2.b.n),x2.b.q,x2.b.p,x2.b.t),x2.b.z),x2.g),J)))) (0,x1.2.1,x1.a,x1.d,x1.2.1.a.1,([]:Y lE)))))
abbrev P?:=lD×Y lE
def eR (x:(lD×Y lE)×η):M (Bool):=
 (iter (σ:=Int×P?) (λx1=>(bV x1.1 (be x.2) (bI aP x.2 x1.1 λq=>(jn (bV q 0 (aI (J,x1.2)) (aI ((c8 (be x1.2.1.d) q),x1.2))) λx3=>(aJ x3.1 (aI aa) (c7 ((cL x1.1),x3.2))))) (aI J))) (0,x.1))
abbrev B?:=(lD×Y lE)×f?
def eV (x:B?):M (Bool):=
 (bI gm x.1.1.d x.2.1 λA=>(bI gm x.1.1.d x.2.2 λq=>(jn (av (o7 A) λI=>(aJ I (av (o7 q) λD=>(aJ D (bq A.a q.a (bq A.2.1 4 (aI J) (aI (decide ((q.2.1:Int)=4)))) (aI aa)) (aI aa))) (aI aa))) λx3=>(Z x3))))
def kf (x:B?):M (Bool):=
 (jn (α:=Bool×P?) (av (eR (x.1,[x.2.1,x.2.2])) λN=>(aJ (!N) (aI (J,x.1)) (jr x.2.2 x.2.1 (aI (J,x.1)) (av (eV x) λI=>(aI ((!I),x.1)))))) λx1=>(aJ x1.1 (Z aa) (bI gm x1.2.1.d x.2.1 λq=>(bI gm x1.2.1.d x.2.2 λD=>(jn (gV q.1 D.1 (bI mb x1.2.1.1.1 q.a λA=>(aI (!A.2.2.2.1))) (aI aa)) λx6=>(Z x6))))))
def iS (x:B?):M (Bool):=
 (bI gm x.1.1.d x.2.2 λI=>(bI gm x.1.1.d x.2.1 λD=>(jn (bq I.1 D.1 (aI (J,x.1,I,D)) (av (uf D.2.1) λy4=>(aI ((!y4),x.1,I,D)))) λx3=>(aJ x3.1 (Z aa) (jn (jn (bq x3.a.2.1 6 (aI ((decide ((x3.a.2.1:Int)=6)),x3.2)) (aI ((decide ((x3.a.2.1:Int)=10)),x3.2))) λq=>(aJ q.1 (aI ((x3.a.a,J),q.2.1,q.d)) (bq x3.a.2.1 8 (aI ((x3.a.a,aa),q.2.1,q.d)) (bq x3.a.2.1 17 (bI itK q.2.1.1.1.a q.a.a λz7=>(aI ((z7.2,aa),q.2.1,q.d))) (bq x3.a.2.1 21 (c7 (decide ((q.a.a:Int)=q.b))) (c7 aa)))))) λA=>(bI pE A.2.1.2 x.2.1 λz8=>(bI dy z8.1 A.1.1 λz9=>(jn (bq z9.1 A.a (aI J) (aJ A.1.2 (av (e_ (z9.2,A.a)) λN=>(aI N)) (aI aa))) λx10=>(Z x10)))))))))
def jM (x:(lD×Y lE)×η):M (Bool):=
 (jn (bV (be x.2) 2 (aI (J,x.1)) (bV 4 (be x.2) (aI (J,x.1)) (av (eR x) λy2=>(aI ((!y2),x.1))))) λx1=>(aJ x1.1 (Z aa) (iter (σ:=Int×P?) (λx3=>(bV x3.1 (be x.2) (bI aP x.2 x3.1 λA=>(jn (bI aP x.2 0 λz6=>(bV A z6 (aI (J,x3.2)) (bX (!decide (((be x.2):Int)=0)) (bI aP x.2 (cC (cL x3.1) (be x.2)) λz7=>(av (iS (x3.2,z7,A)) λy8=>(aI ((!y8),x3.2))))))) λx5=>(aJ x5.1 (aI aa) (bX (c8 0 x3.1&&c8 x3.1 (ah x.2)) (iter (σ:=Int×P?) (λq=>(bV q.1 (aY (ah (cu (aN x3.1) x.2))) (bI aP (cu (aN x3.1) x.2) q.1 λN=>(bI gm q.2.1.d A λI=>(bI gm q.2.1.d N λD=>(bq I.1 D.1 (aI (bU aa)) (c7 ((cL q.1),q.2)))))) (aI (kZ ((cL x3.1),q.2))))) (0,x5.2)))))) (aI J))) (0,x1.2))))
def kg (x:B?):M (Bool):=
 (jn (α:=Bool×P?) (av (eR (x.1,[x.2.1,x.2.2])) λy2=>(aJ (!y2) (aI (J,x.1)) (aI ((c8 x.2.1 x.2.2),x.1)))) λx1=>(aJ x1.1 (Z aa) (bI gm x1.2.1.d x.2.1 λA=>(bI gm x1.2.1.d x.2.2 λq=>(jn (gV A.2.1 18 (gV A.2.1 19 (aI (J,x1.2,A,q)) (gV q.2.1 16 (aI (J,x1.2,A,q)) (gV A.a q.a (aI (J,x1.2,A,q)) (aI ((decide ((A.1:Int)=q.1)),x1.2,A,q))))) (gV q.2.1 16 (aI (J,x1.2,A,q)) (gV A.a q.a (aI (J,x1.2,A,q)) (aI ((decide ((A.1:Int)=q.1)),x1.2,A,q))))) λI=>(aJ I.1 (Z aa) (bX (c8 0 (cL x.2.2)&&(c8 (cL x.2.2) x.2.1&&c8 x.2.1 (ah I.2.1.1.d))) (iter (σ:=Int×(lD×Y lE)×tJ×b!) (λD=>(bV D.1 (aY (ah (cu (aN x.2.1-aN (cL x.2.2)) (ig (aN (cL x.2.2)) I.2.1.1.d)))) (bI gm (cu (aN x.2.1-aN (cL x.2.2)) (ig (aN (cL x.2.2)) I.2.1.1.d)) D.1 λz7=>(bq z7.1 D.b (aI aa) (c7 ((cL D.1),D.2)))) (av (bI pE D.2.1.2 x.2.1 λz8=>(bI gU z8.2.2.2 D.b λz9=>(gV z9.1 3 (Z aa) (jn (bq D.a.2.1 19 (aI J) (aI (decide ((D.a.b:Int)=D.b)))) λN=>(Z N))))) λr=>Z (bU r)))) (0,I.2)))))))))
def jN (x:B?):M (Bool):=
 (bI gm x.1.1.d x.2.1 λq=>(jn (jr x.2.2 x.2.1 (aI (J,x.1)) (bI gm x.1.1.d x.2.2 λz3=>(gV z3.1 q.1 (aI (J,x.1)) (bI pE x.1.2 x.2.1 λN=>(bI gU N.2.2.2 q.1 λI=>(aI ((!I.2.2),x.1))))))) λx2=>(aJ x2.1 (Z aa) (bX (c8 0 (cL x.2.1)&&(c8 (cL x.2.1) x.2.2&&c8 x.2.2 (ah x2.2.1.d))) (iter (σ:=Int) (λA=>(bV A (aY (ah (cu (aN x.2.2-aN (cL x.2.1)) (ig (aN (cL x.2.1)) x2.2.1.d)))) (bI gm (cu (aN x.2.2-aN (cL x.2.1)) (ig (aN (cL x.2.1)) x2.2.1.d)) A λD=>(jn (bq D.1 q.1 (aI (decide ((D.2.1:Int)=15))) (aI aa)) λx8=>(aJ x8 (aI aa) (c7 (cL A))))) (aI J))) 0)))))
def iR (x:(lD×Y lE)×c!):M (Bool):=
 (jn (jr x.c x.f (bI gm x.1.1.d x.c λI=>(bI gm x.1.1.d x.f λD=>(bq I.1 D.1 (bI gm x.1.1.d x.c λA=>(bI gm x.1.1.d x.a λq=>(gV A.1 q.1 (av (eV (x.1,x.a,x.c)) λy6=>(aJ y6 (av (eV (x.1,x.f,x.b)) λN=>(aI N)) (aI aa))) (aI aa)))) (aI aa)))) (aI aa)) λx1=>(Z x1))
def jL (x:(lD×Y lE)×c!):M (Bool):=
 (bq x.2.1 1 (jn (bq x.c 0 (bq x.f 0 (bq (be x.i) 0 (av (kf (x.1,x.a,x.b)) λy2=>(aI y2)) (aI aa)) (aI aa)) (aI aa)) λx1=>(Z x1)) (bq x.2.1 2 (jn (bq x.a 0 (bq x.b 0 (bq x.c 0 (bq x.f 0 (av (jM (x.1,x.i)) λN=>(aI N)) (aI aa)) (aI aa)) (aI aa)) (aI aa)) λx3=>(Z x3)) (bq x.2.1 3 (jn (bq x.c 0 (bq x.f 0 (bq (be x.i) 0 (av (kg (x.1,x.a,x.b)) λI=>(aI I)) (aI aa)) (aI aa)) (aI aa)) λx5=>(Z x5)) (bq x.2.1 4 (jn (α:=Bool) (bq (be x.i) 0 (av (eR (x.1,[x.a,x.b,x.c,x.f])) λD=>(aJ D (av (jN (x.1,x.a,x.b)) λA=>(aJ A (av (iR x) λq=>(aI q)) (aI aa))) (aI aa))) (aI aa)) λx7=>(Z x7)) (Z aa)))))
abbrev G?:=lD×c!
def ot (x:G?):M (Bool):=
 (av (pN x.1) λq=>(jn (aJ q.2 (av (jL (q.1,x.2)) λA=>(aI A)) (aI aa)) λx2=>(Z x2)))
def sY (x:K?):M (Bool):=
 (jn (jr 0 x.2.2 (bV x.2.2 (be x.1.d) (bI gm x.1.d x.2.2 λq=>(av (mh (x.1,x.2.1,q.1)) λA=>(aI (decide ((A:Int)=x.2.2))))) (aI aa)) (aI aa)) λx1=>(Z x1))
def oq (x:K?):M (Bool):=
 (jn (av (sY x) λD=>(aJ D (bI gm x.1.d x.2.2 λq=>(av (fT (x.1,x.2.1,q.1)) λA=>(aI A))) (aI aa))) λx1=>(Z x1))
def pM (x:lD×E3×c!):M (Bool):=
 (bq x.a 1 (jn (av (oq (x.1,x.2.1,x.b)) λy2=>(aJ y2 (av (oq (x.1,x.2.1,x.c)) λy3=>(aI y3)) (aI aa))) λx1=>(Z x1)) (bq x.a 2 (iter (σ:=Int×lD×g!) (λx4=>(bV x4.1 (be x.j) (bI aP x.j x4.1 λz5=>(av (sY (x4.2.1,x4.2.2,z5)) λy6=>(aJ (!y6) (aI aa) (bI gm x4.2.1.d z5 λA=>(jn (bq A.2.1 17 (jr (be x4.a.d) A.1 (aI (J,x4.2)) (bI gU x4.a.d A.1 λz9=>(aI ((!decide ((z9.1:Int)=4)),x4.2)))) (aI (aa,x4.2))) λx8=>(aJ x8.1 (aI aa) (c7 ((cL x4.1),x8.2)))))))) (aI J))) (0,x.1,x.2.1)) (bq x.a 3 (jn (bV 0 (be x.2.1.b) (bI aP x.2.1.b (aT .i64 ((be x.2.1.b)-1)) λI=>(bq I x.c (av (e_ (x.2.1.b,x.b)) λy12=>(aJ y12 (jr 0 x.b (bV x.b (be x.2.1.g) (bI aP x.2.1.g x.b λD=>(aI (decide ((D:Int)=0)))) (aI aa)) (aI aa)) (aI aa))) (aI aa))) (aI aa)) λx10=>(Z x10)) (bq x.a 4 (av (j7 (x.2.1.b,x.b)) λq=>(jn (jr 0 q (av (j7 (x.2.1.b,x.f)) λy16=>(bV q y16 (av (e_ (x.2.1.b,x.h)) λy17=>(aJ y17 (av (oq (x.1,x.2.1,x.c)) λN=>(aI N)) (aI aa))) (aI aa))) (aI aa)) λx15=>(Z x15))) (Z aa)))))
def ri (x:lD×E3×c!):M (Bool):=
 (jn (av (pM x) λA=>(aJ A (av (ot (x.1,x.2.2)) λq=>(aI q)) (aI aa))) λx1=>(Z x1))
def gh (x:Int):M (Bool):=
 (Z (decide (((alw .i64 x (aT .i64 (x-1))):Int)=0)))
def fB (x:(Int×Int×Bool×Bool)×η):M (ζ×η):=
 (jn (bV x.1.2.1 2 (aI (J,x.2)) (bq x.1.2.1 10 (aI (J,x.2)) (aI ((gM 36 x.1.2.1),x.2)))) λx1=>(aJ x1.1 U (jn (aJ x.1.a (aI ((aT .u64 (0-x.1.1)),x1.2,(aD 65 (0:Int)))) (aI (x.1.1,x1.2,(aD 65 (0:Int))))) λx2=>(av (gh x.1.2.1) λA=>(aJ A U (iter (σ:=(ν)×(η)×η) (λx4=>(jr (aT .u64 x.1.2.1) x4.1.1 (bX (!decide (((aT .u64 x.1.2.1):Int)=0)) (AY (aT .u64 (x4.1.1-(aT .u64 ((aT .u64 (wn x4.1.1 (aT .u64 x.1.2.1)))*(aT .u64 x.1.2.1))))) ([48,49,50,51,52,53,54,55,56,57,97,98,99,100,101,102,103,104,105,106,107,108,109,110,111,112,113,114,115,116,117,118,119,120,121,122]) (bX (c8 0 (aT .i64 (x4.1.2-1))&&gM (aT .i64 (x4.1.2-1)) 65) (AY (aT .i64 (x4.1.2-1)) x4.2.2 (c7 (((aT .u64 (wn x4.1.1 (aT .u64 x.1.2.1))),(aT .i64 (x4.1.2-1))),x4.2.1,(ca x4.2.2 (aT .i64 (x4.1.2-1)) (sC ([48,49,50,51,52,53,54,55,56,57,97,98,99,100,101,102,103,104,105,106,107,108,109,110,111,112,113,114,115,116,117,118,119,120,121,122]) (aT .u64 (x4.1.1-(aT .u64 ((aT .u64 (wn x4.1.1 (aT .u64 x.1.2.1)))*(aT .u64 x.1.2.1))))))))))))) (av (AY x4.1.1 ([48,49,50,51,52,53,54,55,56,57,97,98,99,100,101,102,103,104,105,106,107,108,109,110,111,112,113,114,115,116,117,118,119,120,121,122]) (bX (c8 0 (aT .i64 (x4.1.2-1))&&gM (aT .i64 (x4.1.2-1)) 65) (AY (aT .i64 (x4.1.2-1)) x4.2.2 (jn (α:=Int×(η)×η) (aJ x.1.a (bX (c8 0 (aT .i64 ((aT .i64 (x4.1.2-1))-1))&&gM (aT .i64 ((aT .i64 (x4.1.2-1))-1)) 65) (AY (aT .i64 ((aT .i64 (x4.1.2-1))-1)) (ca x4.2.2 (aT .i64 (x4.1.2-1)) (sC ([48,49,50,51,52,53,54,55,56,57,97,98,99,100,101,102,103,104,105,106,107,108,109,110,111,112,113,114,115,116,117,118,119,120,121,122]) x4.1.1)) (aI ((aT .i64 ((aT .i64 (x4.1.2-1))-1)),x4.2.1,(ca (ca x4.2.2 (aT .i64 (x4.1.2-1)) (sC ([48,49,50,51,52,53,54,55,56,57,97,98,99,100,101,102,103,104,105,106,107,108,109,110,111,112,113,114,115,116,117,118,119,120,121,122]) x4.1.1)) (aT .i64 ((aT .i64 (x4.1.2-1))-1)) 45))))) (aI ((aT .i64 (x4.1.2-1)),x4.2.1,(ca x4.2.2 (aT .i64 (x4.1.2-1)) (sC ([48,49,50,51,52,53,54,55,56,57,97,98,99,100,101,102,103,104,105,106,107,108,109,110,111,112,113,114,115,116,117,118,119,120,121,122]) x4.1.1))))) λq=>(aJ x.1.d (bX (c8 0 q.1&&(gM q.1 65&&aB 65 (ah q.2.2))) (bX (c8 0 q.1&&gM q.1 (ah q.2.2)) (bX (bh (ah q.2.1+ah (ig (aN q.1) q.2.2)) 1) (Z ([],(q.2.1++(ig (aN q.1) q.2.2))))))) (bX (c8 0 q.1&&(gM q.1 65&&aB 65 (ah q.2.2))) U)))))) λr=>Z (bU r)))) ((x2.1,65),x2.2)))))))
def gT (x:U?):M η:=
 (bq x.1.2 10 (bV x.1.1 100 U U) (av (fB ((x.1.1,x.1.2,aa,J),x.2)) λq=>(bX (aB (ah x.2) (ah x.2)&&J) (Z q.2))))
def hZ (x:U?):M η:=
 (jn (α:=g?) (bV x.1.1 0 (bX (bh (ah x.2+ah ([45])) 1) (aI ((aT .u64 (0-(aT .u64 x.1.1))),(x.2++([45]))))) (aI ((aT .u64 x.1.1),x.2))) λx1=>(av (gT ((x1.1,x.1.2),x1.2)) λq=>(bX (aB (ah x1.2) (ah x1.2)&&J) (Z q))))
def kE (x:U?):M η:=
 (av (hZ x) λq=>(bX (aB (ah x.2) (ah x.2)&&J) (Z q)))
def d5 (x:g?):M η:=
 (av (kE ((x.1,36),x.2)) λq=>(bX (aB (ah x.2) (ah x.2)&&J) (bX (bh (ah q+ah ([32])) 1) (Z (q++([32]))))))
def gL (x:Bool×η):M η:=
 (aJ x.1 (av (d5 (1,x.2)) λA=>(bX (aB (ah x.2) (ah x.2)&&J) (Z A))) (av (d5 (0,x.2)) λq=>(bX (aB (ah x.2) (ah x.2)&&J) (Z q))))
def tQ (x:E3×η):M ζ:=
 (bX (c8 0 (be x.2)&&c8 (be x.2) (be x.2)&&bh (aN (be x.2)) 1) (iter (σ:=Int×E3×(θ)×η) (λx1=>(bV x1.1 (be x.1.b) (bI aP x.1.b x1.1 λz2=>(ck (ij z2 (ah x1.a)) (c7 ((cL x1.1),x1.2.1,(ca x1.a z2 J),x1.d)))) (av (iter (σ:=Int×E3×(θ)×η) (λx3=>(bV x3.1 (be x.2) (jn (bI aP x.2 x3.1 λz5=>(mn (.bool) x3.a x3.1 λz6=>(av (gL (z6,x3.d)) λy7=>(bX (aB (ah x3.d) (ah x3.d)&&J) (jr 0 z5 (mn (.bool) x3.a z5 λz8=>(aJ (!z8) (bI (.bool) x3.2.1.c x3.1 λz9=>(av (gL (z9,y7)) λy10=>(bX (aB (ah y7) (ah y7)&&J) (aI (x3.2.1,x3.a,y10))))) (av (gL (aa,y7)) λy11=>(bX (aB (ah y7) (ah y7)&&J) (aI (x3.2.1,x3.a,y11)))))) (av (gL (aa,y7)) λy12=>(bX (aB (ah y7) (ah y7)&&J) (aI (x3.2.1,x3.a,y12))))))))) λx4=>(c7 ((cL x3.1),x4))) (av (iter (σ:=D!) (λq=>(bV q.1 (be x3.2.1.1.1) (bI dy x3.2.1.1.1 q.1 λz14=>(av (d5 (z14.1,q.2.2)) λy15=>(bX (aB (ah q.2.2) (ah q.2.2)&&J) (av (d5 ((be z14.2),y15)) λy16=>(bX (aB (ah y15) (ah y15)&&J) (iter (σ:=D!) (λI=>(bV I.1 (be z14.2) (bI aP z14.2 I.1 λz18=>(av (d5 (z18,I.2.2)) λy19=>(bX (aB (ah I.2.2) (ah I.2.2)&&J) (c7 ((cL I.1),I.2.1,y19))))) (aI (kZ ((cL q.1),I.2))))) (0,q.2.1,y16))))))) (av (av (d5 (q.2.1.1.2.1,q.2.2)) λy20=>(bX (aB (ah q.2.2) (ah q.2.2)&&J) (iter (σ:=D!) (λD=>(bV D.1 (be q.2.1.1.a) (bI (.bool) q.2.1.1.a D.1 λz22=>(av (gL (z22,D.2.2)) λy23=>(bX (aB (ah D.2.2) (ah D.2.2)&&J) (c7 ((cL D.1),D.2.1,y23))))) (av (iter (σ:=D!) (λA=>(bV A.1 (be D.2.1.1.d) (bI gU D.2.1.1.d A.1 λz25=>(av (d5 (z25.1,A.2.2)) λy26=>(bX (aB (ah A.2.2) (ah A.2.2)&&J) (av (d5 (z25.2.1,y26)) λy27=>(bX (aB (ah y26) (ah y26)&&J) (av (gL (z25.2.2,y27)) λy28=>(bX (aB (ah y27) (ah y27)&&J) (c7 ((cL A.1),A.2.1,y28))))))))) (av (iter (σ:=g?) (λx29=>(bV x29.1 2 (bX (c8 0 x29.1&&gM x29.1 2) (lt (aw ((.sl Bn)) [A.2.1.2.1,A.2.1.a] x29.1) λz30=>(iter (σ:=g?) (λN=>(bV N.1 (be z30) (bI Bn z30 N.1 λz32=>(av (d5 (z32.1,N.2)) λy33=>(bX (aB (ah N.2) (ah N.2)&&J) (av (gL (z32.2,y33)) λy34=>(bX (aB (ah y33) (ah y33)&&J) (c7 ((cL N.1),y34))))))) (aI (kZ ((cL x29.1),N.2))))) (0,x29.2)))) (aI (nP x29.2)))) (0,A.2.2)) λr=>Z (bU r)))) (0,D.2)) λr=>Z (bU r)))) (0,q.2.1,y20)))) λr=>Z (bU r)))) (0,x3.2.1,x3.d)) λr=>Z (bU r)))) (0,x1.2)) λr=>Z (bU r)))) (0,x.1,(aD (aN (be x.2)) (aa:Bool)),([]:η))))
def oM (x:Int×g!):M (Bool×g!):=
 (av (e_ (x.c,x.1)) λq=>(Z (q,x.2)))
def wQ (x:η×g!):M (Int×g!):=
 (iter (σ:=Int×g!) (λx1=>(bV x1.1 (be x.1) (bI aP x.1 x1.1 λA=>(av (oM (A,x1.2)) λq=>(aJ q.1 (aI (x1.1,q.2)) (c7 ((cL x1.1),q.2))))) (aI ((-1),x1.2)))) (0,x.2))
def ov (x:η×g!):M (Bool×g!):=
 (av (wQ x) λq=>(Z ((c8 0 q.1),q.2)))
def oc (x:E3×c!):M (Bool):=
 (av (j7 (x.1.b,x.a)) λA=>(av (j7 (x.1.b,x.b)) λq=>(bq x.2.1 1 (jn (jr 0 A (aI J) (aI (c8 0 q))) λx3=>(Z x3)) (bq x.2.1 2 (av (ov (x.i,x.1)) λN=>(Z N.1)) (bq x.2.1 3 (jn (jr 0 q (aI J) (jr 0 A (bI aP x.1.g x.a λD=>(aI (!decide ((D:Int)=0)))) (aI aa))) λx5=>(Z x5)) (bq x.2.1 4 (jn (jr 0 q (aI J) (bV A 0 (av (e_ (x.1.b,x.c)) λI=>(aI I)) (aI aa))) λx7=>(Z x7)) (Z aa)))))))
def mM (x:lD×g!):M Yd8:=
 (iter (σ:=Int×lD×E3×Y ν) (λx1=>(bV x1.1 (be x.1.1.c) (jn (α:=lD×E3×Y ν) (av (fT (x1.2.1,x1.a,x1.1)) λy3=>(aJ (!y3) (aI x1.2) (av (mh (x1.2.1,x1.a,x1.1)) λy4=>(bI gm x1.2.1.d y4 λN=>(iter (σ:=(Bool×Int)×lD×E3×Yd8×b!) (λq=>(bV q.1.2 (be x1.a.1.d) (jn (α:=Bool×lD×E3×Yd8×b!) (bI gU x1.a.1.d q.1.2 λD=>(jn (bq q.f 18 (bq D.1 3 (aI ((decide ((D.2.1:Int)=q.h)),q.2)) (aI (aa,q.2))) (aI (aa,q.2))) λA=>(aJ A.1 (bX (bh (ah A.b+ah ([(x1.1,q.1.2)])) 16) (aI (J,A.2.1,A.a,(A.b++([(x1.1,q.1.2)])),A.e))) (aI (q.1.1,A.2))))) λI=>(c7 ((I.1,(cL q.1.2)),I.2))) (av (aJ (!q.1.1) (bX (bh (ah q.b+ah ([(x1.1,(-1))])) 16) (aI (q.2.1,q.a,(q.b++([(x1.1,(-1))]))))) (aI (q.2.1,q.a,q.b))) λr=>Z (bU r)))) ((aa,0),x1.2.1,x1.a,x1.d,N)))))) λx2=>(c7 ((cL x1.1),x2))) (aI x1.d))) (0,x.1,x.2,([]:Y ν)))
abbrev L!:=Int×lD×(η)×(η)×tJ×Y η
def li (x:j!):M η:=
 (bX (c8 0 (be x.d)&&c8 (be x.d) (be x.d)&&bh (aN (be x.d)) 8) (iter (σ:=Int×lD×η) (λx1=>(bV x1.1 (aY (ah (aD (aN (be x.d)) (0:Int)))) (ck (ij x1.1 (ah x1.2.2)) (c7 ((cL x1.1),x1.2.1,(ca x1.2.2 x1.1 (-1))))) (av (bX (c8 0 (be x1.2.1.1.c)&&c8 (be x1.2.1.1.c) (be x1.2.1.1.c)&&bh (aN (be x1.2.1.1.c)) 24) (iter (σ:=Int×lD×(η)×k?) (λx2=>(bV x2.1 (be x1.2.1.d) (jn (α:=lD×(η)×k?) (bI gm x1.2.1.d x2.1 λz4=>(jn (bV z4.1 0 (aI (J,x2.2.1,x2.a,x2.b,z4,x2.e)) (jr (be x2.b) z4.1 (aI (J,x2.2.1,x2.a,x2.b,z4,x2.e)) (aI ((c8 (be x2.2.1.a.d) z4.1),x2.2.1,x2.a,x2.b,z4,x2.e)))) λx5=>(aJ x5.1 (aI (x5.2.1,x5.a,x5.b,x5.g)) (iter (σ:=L!) (λq=>(bV q.1 2 (bX (c8 0 q.1&&gM q.1 2) (lt (aw ((.sl aP)) [x5.c.f,x5.c.i] q.1) λz7=>(iter (σ:=L!) (λD=>(bV D.1 (be z7) (jn (bI aP z7 D.1 λN=>(bI aP D.2.1.a.d D.c.1 λI=>(jn (jr 0 (aT .i64 (N-I)) (ck (ij D.c.1 (ah D.b)) (aI ((gM (aT .i64 (N-I)) (aY (aN (OF D.b D.c.1)))),D.2))) (aI (aa,D.2))) λA=>(aJ A.1 (ck (ij A.c.1 (ah A.b)) (bX (ij (aT .i64 (N-I)) (aN (OF A.b A.c.1))) (AY A.c.1 A.g (bI aP (Au (T:=aP) A.g A.c.1) (aT .i64 (N-I)) λz13=>(ck (ij z13 (ah A.a)) (aI (A.2.1,(ca A.a z13 x2.1),A.d))))))) (aI A.2))))) λx9=>(c7 ((cL D.1),x9))) (aI (kZ ((cL q.1),D.2))))) (0,q.2)))) (av (ck (ij q.c.1 (ah q.b)) (AY q.c.1 q.g (bX (aB (aN (OF q.b q.c.1)) (ah (Au (T:=aP) q.g q.c.1))&&bh ((aN (OF q.b q.c.1))+ah ([x2.1]:η)) 8) (ck (ij q.c.1 (ah q.b)) (aI (q.2.1,q.a,(CL q.b (aN q.c.1) (aY (ah ((Au (T:=aP) q.g q.c.1)++([x2.1]))))),(xM (T:=aP) (xM (T:=aP) q.g q.c.1 []) q.c.1 ((Au (T:=aP) q.g q.c.1)++([x2.1]))))))))) λr=>Z (bU r)))) (0,x5.2))))) λx3=>(c7 ((cL x2.1),x3))) (aI x2.a))) (0,x1.2.1,x1.2.2,(aD (aN (be x1.2.1.1.c)) (0:Int)),(aD (aN (be x1.2.1.1.c)) ([]:η))))) λr=>Z (bU r)))) (0,x,(aD (aN (be x.d)) (0:Int)))))
abbrev z!:=lD×J1×Yd8×(η)×mG×Y Yd4
def oe (x:(Yd4×Int×Int)×z!):M (Bool×z!):=
 (av (ud (x.2.1,x.1.1.1,x.1.2)) λq=>(aJ (!q.2) (Z (aa,x.2)) (jn (α:=Yd8×lD×J1×Yd8×(η)×mG×E3×Y Yd4) (bX ((decide ((be x.1.1.2)=(be x.1.1.2))&&c8 0 (be x.1.1.2))&&c8 (be x.1.1.2) (ah x.1.1.2)) (bX (bh (ah (cu (aN (be x.1.1.2)) x.1.1.2)+ah ([x.1.2])) 16) (aJ (aB (ah ([x.1.2])) 0) (aI ((cu (aN (be x.1.1.2)) x.1.1.2),x.2.1,x.a,x.b,x.c,x.f,q.1,x.i)) (aI (((cu (aN (be x.1.1.2)) x.1.1.2)++([x.1.2])),x.2.1,x.a,x.b,x.c,x.f,q.1,x.i))))) λx2=>(av (ri (x2.2.1,x2.h,x2.a)) λI=>(aJ I (Z (J,x2.2.1,x2.a,x2.1,x2.c,x2.f,x2.j)) (av (oc (x2.h,x2.a)) λD=>(aJ D (Z (aa,x2.2.1,x2.a,x2.b,x2.c,x2.f,x2.j)) (jn (α:=z!) (av (tQ (x2.h,x2.c)) λA=>(aJ (!(FD (K:=.str) (V:=.bool) A x2.f aa)) (bX (bh (ah x2.j+ah ([(x2.h,x2.1)])) 224) (aI (x2.2.1,x2.a,x2.b,x2.c,(Kf (K:=.str) (V:=.bool) A J x2.f),(x2.j++([(x2.h,x2.1)]))))) (aI (x2.2.1,x2.a,x2.b,x2.c,x2.f,x2.j)))) λN=>(Z (aa,N))))))))))
abbrev L?:=(Bool×Y Yd4)×(Y Yd4)×Y Yd7
def oN (x:G?):M (Yd8×Bool):=
 (av (ot x) λy1=>(aJ (!y1) (Z (([]:Y ν),aa)) (av (li x.1) λy2=>(av (rK x.1) λy3=>(av (ri (x.1,y3,x.2)) λy4=>(aJ y4 (Z (([]:Y ν),J)) (iter (σ:=lD×J1×(η)×Bool×Y Yd4) (λI=>(bV 0 (be I.e) (iter (σ:=Int×lD×J1×(η)×Yd8×L?) (λD=>(bV D.1 (be I.e) (mn XO D.f.2 D.1 λz7=>(av (mM (D.2.1,z7.1)) λy8=>(iter (σ:=Int×lD×J1×(η)×Yd8×Yd4×L?) (λq=>(bV q.1 (be y8) (bI iK y8 q.1 λN=>(av (oe ((q.f,N),q.2.1,q.a,q.c,q.b,q.l,q.k)) λA=>(bX (aB (ah q.k) (ah q.k)&&J) (aJ A.1 (aI (bU (bU (A.b,J)))) (c7 ((cL q.1),A.2.1,A.a,A.c,A.b,q.f,q.h,A.i,A.f)))))) (aI (kZ ((cL D.1),q.2.1,q.a,q.b,q.c,q.i))))) (0,D.2.1,D.a,D.b,D.c,z7,D.g)))) (aI (kZ (D.2.1,D.a,D.b,J,D.h))))) (0,I.1,I.2.1,I.a,([]:Y ν),I.d,([]:Y Yd4),([]:Y Yd7))) (aI (([]:Y ν),aa)))) (x.1,x.2,y2,aa,[(y3,([]:Y ν))]))))))))
def CM (a b:Int):fA (a,b)=Z (decide (0<=a/\a<b)):=by
 refine bT ?_;unfold fA jr aI;with_reducible repeat' first|apply OS.ok;constructor|refine IM.mk λ_=>?_
 .by_cases h:a<b<;>simp[*,gM]
 .simp;omega
def mi (l:η) (t:Int) (I:l! l<=1000):e_ (l,t)=Z (l.contains t):=by
 refine bT ?_;unfold e_ j7 vY bq bV bI be c7 aI cL;refine au (P:=λy:Int=>0<=y↔t∈l) ?_ λy q=>aj ?_
 .refine lK (l! l) (by omega) (λi x=>x=(i:Int)/\∀j,j<i->¬l.getD j 0=t) ?_ ?_ ⟨rfl,λj A=>by omega⟩
  .rintro i x hi ⟨rfl,D⟩;refine cE ?_;refine bK (aS (aG (λh=>aj ?_) λh=>aj ?_))
   .refine ⟨λ_=>?_,λ_=>by omega⟩;have h:t=aw aP l (i:Int):=h;rw[h];exact ba (T:=aP) (xs:=l) (by omega) (by omega)
   .refine ⟨fH,λj A=>?_⟩;have h:¬t=l.getD i 0:=h
    grind
  .rintro x ⟨rfl,D⟩;refine cz (aj ?_);refine ⟨λg=>(by omega),λg=>?_⟩;let⟨j,A,e⟩:=J_ g
   grind
 .by_cases h:t∈l
  .have:=q.2 h;simp[c8,h,this]
  .have:¬0<=y:=λg=>h (q.1 g)
   simp[c8,h,this]
def apq (w:WT) (s:SY) (A:l! w.2.2.1<=1000) (q:∀c∈w.2.2.1,0<=c.2/\c.2<l! w.2.1) (e1:l! s.1=l! w.2.1) (e2:l! s.2.2.1=l! w.2.2.2.1) (e3:l! s.2.2.2=l! w.2.2.2.2.1):jB (w,s)=Z J:=by
 refine bT ?_;unfold jB rW bg bA bQ dt bV gV bI be c7 aI cL;refine aW (λx=>x=(aa,w)) ?_ ?_
 .refine bw (λh=>(h (by grind)).elim) λ_=>bw (λh=>(h (by grind)).elim) λ_=>aj ?_
  grind
 rintro x rfl;refine iM (lK (l! w.2.2.1) (by omega) (λi x=>x=((i:Int),w)) ?_ ?_ rfl)
 .rintro i x hi rfl;refine cE ?_;refine bK (aS (aU (CM _ _) (bw (λh=>(h ?_).elim) λ_=>aj ?_)))
  .exact q _ (ba (T:=itK) (xs:=w.2.2.1) (j:=(i:Int)) (by omega) (by omega))
  .rw[fH]
 .rintro x rfl;exact cz (aj rfl)
def aj7 (w:WT) (k o:Int) (h:NM w k o):j6 (w,k,o)=Z J:=by
 refine bT ?_;let⟨k1,k2,N,A,cn,th,I,no,q,rw_⟩:=h;unfold j6 bg bA bQ cS bq bI be aI;cases kdI k
 case no D _=>omega
 all_goals simp only[ec,dA,OC,CM]
 all_goals with_reducible repeat' first|apply OS.ok;constructor|refine IM.mk λ_=>?_
 all_goals try simp[al,sB] at*
 all_goals first|omega|exact rw_ ⟨by decide,by decide⟩|(simp [*,Bool.not_false,decide_true];done)
variable {i:Nat}
def aqb (w:WT) (s:SY) (hs:SB i s) (hn:i<=1000) (t k o:Int) (he:EN w s t k o) (hr:IE w s t k o):lz (w,s,t,k,o)=Z J:=by
 refine bT ?_;let⟨nm,D,t1,cd,e1,e2,e3⟩:=id he;let⟨_,_,ce,lk,cn,th,fu,no,mu,rw_⟩:=nm;let⟨_,_,_,q,wr,ra,rl,rr,xb,xe,ab,ae,nt,sp,I,se,ge⟩:=hr;have hm:16<=k/\k<=19->0<=(aw itK w.2.2.1 o).2/\(aw itK w.2.2.1 o).2<l! w.2.1:=λh=>cd _ (ba (cn h).1 (cn h).2)
 have hH:6<=k/\k<=11->e_ ((aw dy s.1 o).2,t)=Z ((aw dy s.1 o).2.contains t):=λh=>mi _ _ (by
  have:=hs.rd _ (ba (T:=dy) (lk h).1 (by grind));omega)
 have lk1:6<=k/\k<=11->0<=o/\o<(l! s.1:Int):=λh=>by grind
 have A:t<(l! s.2.2.2:Int):=by omega
 have fu1:k=22\/k=23->0<=o/\o<(l! s.2.2.1:Int):=λh=>by have:=fu h;omega
 have th1:k=20\/k=21->0<=o/\o<(l! s.2.2.2:Int):=λh=>by have:=th h;omega
 have tr:∀{p:Prop} [Decidable p],p->decide p=J:=λh=>aO h
 unfold lz bg bA bQ dt dv bq gV bI be aI;refine aG (λh=>?_) λn6=>?_
 .have h:k=6:=h;exact aQ (lk1 (by omega)).1 (lk1 (by omega)).2 (aS (aj (tr (q (.inl h)))))
 refine aG (λh=>?_) λn10=>?_
 .have h:k=10:=h;refine gK (aQ (lk1 (by omega)).1 (lk1 (by omega)).2 (aS (aG (λ_=>?_) λg=>(g (q (.inr (.inr h)))).elim)));refine aQ (lk1 (by omega)).1 (lk1 (by omega)).2 (aS (aj (aj (tr ?_))))
  grind
 refine aG (λh=>?_) λn8=>?_
 .have h:k=8:=h;refine gK (aQ (lk1 (by omega)).1 (lk1 (by omega)).2 (aS (aG (λ_=>?_) λg=>(g (q (.inr (.inl h)))).elim)));refine aQ (lk1 (by omega)).1 (lk1 (by omega)).2 (aS (aU (hH (by omega)) (aj (aj ?_))));rw[ra h];rfl
 refine aW (λx=>x.2=(w,s)/\(x.1=J↔k=7\/k=11)) (aG (λh=>aj ⟨rfl,λ_=>.inl h,λ_=>tr h⟩) λh=>aj ⟨rfl,λh2=>.inr (aZ h2),λh2=>tr (h2.resolve_left h)⟩) ?_;rintro⟨b,x⟩ ⟨e,hb⟩;dsimp only at e hb;subst e;refine aR (λh=>?_) λ_=>?_
 .have h:=hb.1 h;exact aQ (lk1 (by omega)).1 (lk1 (by omega)).2 (aS (aj (tr (rl h))))
 refine aG (λh=>?_) λn9=>?_
 .have h:k=9:=h;refine aQ (lk1 (by omega)).1 (lk1 (by omega)).2 (aS (aU (hH (by omega)) (aj (rr h))))
 refine aG (λh=>aj (tr (xb h))) λ_=>aG (λh=>aj (tr (xe h))) λ_=>?_
 refine aG (λh=>aQ D A (aS (aj (by grind)))) λ_=>aG (λh=>aQ D A (aS (aj (ae h)))) λ_=>?_
 refine aW (λx=>x.2=(w,s)/\(x.1=J->k=16\/k=18\/k=19)) (aG (λh=>aj ⟨rfl,λ_=>.inl h⟩) λ_=>aG (λh=>aj ⟨rfl,λ_=>.inr (.inl h)⟩) λ_=>aj ⟨rfl,λh=>.inr (.inr (aZ h))⟩) ?_;rintro⟨c,x⟩ ⟨e,N⟩;dsimp only at e N;subst e;refine aR (λh=>?_) λ_=>?_
 .have h:=N h;have hq:=hm (by omega);exact aQ (cn (by omega)).1 (cn (by omega)).2 (aS (aQ hq.1 (by grind) (aS (aj (tr (nt h))))))
 refine aG (λh=>?_) λ_=>?_
 .have h:k=20:=h;exact gK (bw (λ_=>aQ (th1 (.inl h)).1 (th1 (.inl h)).2 (aS (aj (aj (tr (sp h).2))))) λg=>((sp h).1 g).elim)
 refine aG (λh=>?_) λ_=>?_
 .have h:k=21:=h;exact gK (bw (λ_=>aQ (th1 (.inr h)).1 (th1 (.inr h)).2 (aS (aj (aj (tr (I h).2))))) λg=>((I h).1 g).elim)
 refine aG (λh=>aQ (fu1 (.inl h)).1 (fu1 (.inl h)).2 (aS (aj (by grind)))) λ_=>aG (λh=>aQ (fu1 (.inr h)).1 (fu1 (.inr h)).2 (aS (aj (ge h)))) λ_=>aj rfl
def CA (w:WT) (s:SY) (hs:SB i s) (hn:i<=1000) (hw:l! w.2.2.1<=1000) (t k o:Int) (he:EN w s t k o) (q:IE w s t k o):eT (w,s,t,k,o)=Z J:=by
 refine bT ?_;let⟨nm,D,t1,cd,e1,e2,e3⟩:=id he;have hrd:=aqb w s hs hn t k o he q;have t2:t<(l! s.2.2.2:Int):=by omega
 refine aW (λx=>x=(aa,w,s)) ?_ ?_
 .refine aU (apq w s hw cd e1 e2 e3) (fJ rfl (aU (CM _ _) ?_));refine bw (λh=>(h ⟨D,t1⟩).elim) λ_=>aU (aj7 w k o nm) (aj rfl)
 rintro x rfl;refine iM (aQ D t2 (aS ?_));refine aG (λh=>aj (aO (q.b h))) λn1=>?_
 refine aG (λh=>?_) λA=>?_
 .have h:k=17:=h;let⟨a1,a2,a3⟩:=q.wk h;let⟨N,I⟩:=nm.cd (by omega);have hq:=cd _ (ba (T:=itK) (xs:=w.2.2.1) (j:=o) N I);refine gK (aG (λ_=>aG (λ_=>?_) λg=>(g a2).elim) λg=>(g a1).elim);exact aQ N I (aS (aQ hq.1 (by grind) (aS (aj (aj (aO a3))))))
 refine gK (aG (λ_=>aU hrd (aj (aj rfl))) λg=>(g (q.r n1 A)).elim)
def al6 (w:WT) (e:ET) (h1:e.2.1=1\/e.2.1=2->e.2.2.2.2.1= -1) (h2:¬(e.2.1=1\/e.2.1=2)->0<=e.2.2.2.2.1/\e.2.2.2.2.1<l! w.2.2.2.2.2/\(aw pS w.2.2.2.2.2 e.2.2.2.2.1).1=e.1):mr (w,e)=Z J:=by
 refine bT ?_;refine aW (λx=>x.2=(w,e)/\(x.1=J↔e.2.1=1\/e.2.1=2)) (aG (λh=>aj ⟨rfl,λ_=>.inl h,λ_=>rfl⟩) λh=>aj ⟨rfl,λh2=>.inr (aZ h2),λh2=>aO (h2.resolve_left h)⟩) ?_;rintro⟨b,x⟩ ⟨e1,q⟩;subst e1;refine aR (λh=>aj (aO (h1 (q.1 h)))) λh=>?_
 let⟨I,D,A⟩:=h2 λg=>by grind
 exact gK (dB (λ_=>cE (aQ I D (aS (aj (aj (aO A)))))) λg=>(by grind))
variable {c:η}
def aj2 (h:J6 c) (i:Nat) (hi:i<l! c):∀z∈c.drop (i+1),c.getD i 0<z:=by
 induction c generalizing i with
 |nil=>cases hi
 |cons a c q=>
  cases i with
  |zero=>exact λz A=>h.1 z (by grind)
  |succ i=>exact q h.2 i (by grind)
def We (w:WT) (s:SN) (e:ET) (I:e.2.1=3\/e.2.1=4->0<=e.2.2.1/\e.2.2.1<l! w.1) (de:0<l! e.2.2.2.2.2.1->e.2.1=5\/(e.2.1=3\/e.2.1=4)/\¬(aw mb w.1 e.2.2.1).2.2.1=0) (fr:0<l! e.2.2.2.2.2.2->e.2.1=4\/e.2.1=22) (t0:0<=e.1) (t1:e.1<l! s.2.2.2) (nd:AN (aw aP s.2.2.2 e.1) e.2.2.2.2.2.1) (nf:AN (aw aP s.2.2.2 e.1) e.2.2.2.2.2.2) (ld:l! e.2.2.2.2.2.1<=1000000) (lf:l! e.2.2.2.2.2.2<=1000000):gf (w,s,e)=Z J:=by
 refine bT ?_;refine aW (λx=>x.2=(s,e)/\((e.2.1=3\/e.2.1=4)/\¬(aw mb w.1 e.2.2.1).2.2.1=0->x.1=J)) ?_ ?_
 .refine aG (λh=>?_) λn3=>aG (λh=>?_) λn4=>?_
  .exact aQ (I (.inl h)).1 (I (.inl h)).2 (aS (aj ⟨rfl,λg=>by simpa using g.2⟩))
  .exact aQ (I (.inr h)).1 (I (.inr h)).2 (aS (aj ⟨rfl,λg=>by simpa using g.2⟩))
  .exact aj ⟨rfl,λg=>(g.1.elim n3 n4).elim⟩
 rintro⟨b,x⟩ ⟨e1,hb⟩;dsimp only at e1 hb;subst e1;refine aW (λx=>x.1=s/\x.2.1=e/\(0<l! e.2.2.2.2.2.1->x.2.2.1=J)/\(0<l! e.2.2.2.2.2.2->x.2.2.2=J)) ?_ ?_
 .refine aG (λh5=>aG (λh4=>aj ⟨rfl,rfl,λ_=>rfl,λ_=>rfl⟩) λh4=>aj ⟨rfl,rfl,λ_=>rfl,λg=>?_⟩) λh5=>aG (λh4=>aj ⟨rfl,rfl,λg=>?_,λ_=>rfl⟩) λh4=>aj ⟨rfl,rfl,λg=>?_,λg=>?_⟩
  .grind
  .grind
  .grind
  .grind
 rintro⟨s',e',a,b'⟩ ⟨e1,e2,h1,h2⟩;dsimp only at e1 e2 h1 h2;subst e1 e2;have key:∀(r:η),l! r<=1000000->AN (aw aP s'.2.2.2 e'.1) r->∀j:Nat,j<l! r->∀z∈r.drop (j+1),aw aP r (j:Int)<z:=λr _ h j D z hz=>aj2 h.a j D z hz
 refine lK 2 (by omega) (λi x=>x=((i:Int),s',e',a,b')) ?_ ?_ rfl
 .rintro i x hi rfl;refine cE ?_;refine bZ (cK (by simp) (pY (by omega) (aS ?_)));have hr:∃r:η,aw (.sl (.int .i64)) [e'.2.2.2.2.2.1,e'.2.2.2.2.2.2] (i:Int)=r/\AN (aw aP s'.2.2.2 e'.1) r/\l! r<=1000000/\(0<l! r->aw (.bool) [a,b'] (i:Int)=J):=by
   match i,hi with
   |0,_=>exact⟨_,rfl,nd,ld,h1⟩
   |1,_=>exact⟨_,rfl,nf,lf,h2⟩
  let⟨r,er,hA,hl,N⟩:=hr;have er':aw (.sl aP) [e'.2.2.2.2.2.1,e'.2.2.2.2.2.2] (i:Int)=r:=er;dsimp only at er' ⊢;rw[er'];refine aW (λx=>x=(aa,s',e',a,b')) ?_ ?_
  .refine bG (λg=>?_) λ_=>aj rfl
   have g':0<l! r:=by grind
   refine bZ (a? (pY (by omega) (bK (aS (aj ?_)))));rw[N g'];rfl
  rintro x rfl;refine iM ?_;refine lK (l! r) (by omega) (λj x=>x.1.2=(j:Int)/\x.2=(s',e',a,b')/\∀z∈r.drop j,x.1.1<z) ?_ ?_ ⟨rfl,rfl,λz hz=>?_⟩
  .rintro j ⟨⟨la,ix⟩,x⟩ D ⟨A,q,g3⟩;dsimp only at A q g3;subst A q;have m:aw aP r (j:Int)∈r:=ba (T:=aP) (xs:=r) (by omega) (by omega);have m2:aw aP r (j:Int)∈r.drop j:=by
    have:aw aP r (j:Int)=r[j]:=by
     show r.getD j 0=_
     grind
    rw[this,List.drop_eq_getElem_cons D];exact cj
   refine cE ?_;refine bK (aS (aW (λx=>x=(aa,s',e',a,b')) ?_ ?_))
   .refine dB (λg=>?_) λ_=>aQ t0 t1 (aS (aj ?_))
    .grind
    .have:=(hA.m _ m).2;rw[gq.2 (show aw aP r (j:Int)<aw aP s'.2.2.2 e'.1 from this)]
   rintro x rfl;exact iM (aj ⟨fH,rfl,key r hl hA j D⟩)
  .rintro⟨⟨la,ix⟩,x⟩ ⟨A,q,_⟩;dsimp only at A q;subst A q;exact cz (aj (gW (·,s',e',a,b') fH))
  .have:=(hA.m z (by grind)).1;dsimp only;omega
 .rintro x rfl;exact cz (aj rfl)
def aus (w:WT) (s:SN) (q:l! w.2.2.1<=1000) (t k o:Int) (he:EN w s.1 t k o) (hf:F16 w s):lP (w,s)=Z J:=by
 let⟨_,_,_,A,e1,e2,e3⟩:=he;let⟨I,D,f3⟩:=hf;refine bT ?_;unfold lP bg bA bQ dt bq be aI;refine gK (aU (apq w s.1 q A e1 e2 e3) (aa9 (aG (λ_=>aG (λ_=>aj (aj (aO ?_))) λg=>(g ?_).elim) λg=>(g ?_).elim)));all_goals dsimp [al];omega
def Fa (th:Y i?) (c:Int) (i:Nat):wl th c (i+1)=if P9 c (aw gU th (i:Int)) then wl th c i++[(i:Int)] else wl th c i:=rfl
def akl (w:WT) (s:SN) (hs:SB i s.1) (e:ET) (hf:F16 w s) (he:EN w s.1 e.1 e.2.1 e.2.2.1) (va:VA w s.1 s.2.1 s.2.2.1 e.1 e.2.1 e.2.2.1 e.2.2.2.1):gX (s,e)=Z J:=by
 refine bT ?_;let⟨t,k,o,v,N,de,fr⟩:=e;let⟨q,s2,s3,s4⟩:=s;let⟨nm,t0,t1,cd,e1,e2,e3⟩:=he;let⟨_,_,ce,lk,cn,th,fu,_,_,_⟩:=nm;let⟨f1,f2,f3⟩:=hf;have hth:=hs.th;let⟨v3,v23,v5,vel⟩:=va;dsimp only at*
 unfold gX mz bg bA bQ cS bY bq bV bI be c7 aI cL;refine aG (λh=>?_) λn3=>?_
 .have h:k=3:=h;let⟨c0,c1⟩:=ce (.inl h);exact aQ c0 (by rw[f1];exact c1) (aS (aj (aO (v3 h))))
 refine aG (λh=>?_) λn23=>?_
 .have h:k=23:=h;let⟨c0,c1⟩:=fu (.inr h);exact aQ c0 (by rw[f2];exact c1) (aS (aj (aO (v23 h))))
 refine aG (λh=>?_) λn5=>?_
 .have h:k=5:=h;exact gK (aG (λ_=>aj (aj rfl)) λg=>aj (aj (aO ((v5 h).resolve_left g))))
 refine aW (λx=>x.2=((q,s2,s3,s4),t,k,o,v,N,de,fr)/\(x.1=aa->¬k=4/\¬k=22)) (aG (λh=>aj ⟨rfl,λh2=>(by rw[aO h]at h2;cases h2)⟩) λh=>aj ⟨rfl,λh2=>⟨h,vy h2⟩⟩) ?_;rintro⟨b,x⟩ ⟨e,hb⟩;dsimp only at e hb;subst e;refine aR (λh=>aj rfl) λh=>?_
 let⟨n4,n22⟩:=hb h;have vel:=vel n3 n23 n5 n4 n22;have hWl:=ux q.2.2.2 o (l! q.2.2.2);refine aG (λh=>?_) λn18=>?_
 .have h:k=18:=h;subst h;rw[Iz]at vel;refine lK (l! q.2.2.2) (by omega) (λn x=>x.1.2.2=(n:Int)/\x.2=(t,18,o,v,N,de,fr)/\x.1.1=(l! (wl q.2.2.2 o n):Int)/\(x.1.2.1=J↔v∈wl q.2.2.2 o n)) ?_ ?_ ⟨rfl,rfl,rfl,by simp[wl]⟩
  .rintro n ⟨⟨c,hit,ix⟩,x⟩ hi ⟨D,A,I,g4⟩;dsimp only at D A I g4;subst D A I;have hl:=ux q.2.2.2 o n;refine cE ?_;refine aW (λx=>x.2=(t,18,o,v,N,de,fr)/\x.1.1=(l! (wl q.2.2.2 o (n+1)):Int)/\(x.1.2=J↔v∈wl q.2.2.2 o (n+1))) ?_ ?_
   .refine bK (aS (aW (λx=>x=(P9 o (aw gU q.2.2.2 (n:Int)),t,18,o,v,N,de,fr)) ?_ ?_))
    .unfold P9;refine aG (λh=>aj ?_) λh=>aj ?_
     .dsimp only at h ⊢;rw[h];rfl
     .dsimp only at h ⊢;rw[bp h];rfl
    rintro x rfl;rw[Fa];dsimp only;cases hw:P9 o (aw gU q.2.2.2 (n:Int)) with
    |true=>
     refine aa9 (aR (λh=>aj ⟨rfl,?_,?_⟩) λh=>aj ⟨rfl,?_,?_⟩)
     .dsimp only;rw[fH];simp
     .simp[g4.1 h]
     .dsimp only;rw[fH];simp
     .have:¬v∈wl q.2.2.2 o n:=λg=>by rw[g4.2 g]at h;cases h
      simp[this]
    |false=>exact iM (aj ⟨rfl,rfl,g4⟩)
   rintro⟨⟨c,hit'⟩,x⟩ ⟨D,A,I⟩;dsimp only at D A I;subst D A;exact aj ⟨fH,rfl,rfl,I⟩
  .rintro⟨⟨c,hit,ix⟩,x⟩ ⟨D,A,I,g4⟩;dsimp only at D A I g4;subst D A I;refine cz (au (P:=λy=>y=J) (gK (aR (λ_=>aj (aj rfl)) λh=>?_)) λy hy=>aj hy);have hn:¬v∈wl q.2.2.2 o (l! q.2.2.2):=λg=>by rw[g4.2 g]at h;cases h
   by_cases h0:l! (wl q.2.2.2 o (l! q.2.2.2))=0
   .rw[aK h0]at vel;refine aG (λ_=>aj (aj (aO vel))) λg=>(g (by dsimp only;omega)).elim
   .rw[ay h0]at vel;have vel:v=Do (wl q.2.2.2 o (l! q.2.2.2)) v:=vel;exact (hn (vel▸G3 v h0)).elim
 refine aG (λh=>?_) λn19=>?_
 .have h:k=19:=h;subst h;rw[aj6]at vel;refine lK (l! q.2.2.2) (by omega) (λn x=>x.1.2=(n:Int)/\x.2=(t,19,o,v,N,de,fr)/\x.1.1=(l! (wl q.2.2.2 o n):Int)) ?_ ?_ ⟨rfl,rfl,rfl⟩
  .rintro n ⟨⟨c,ix⟩,x⟩ hi ⟨D,A,I⟩;dsimp only at D A I;subst D A I;have hl:=ux q.2.2.2 o n;refine cE ?_;refine aW (λx=>x.2=(t,19,o,v,N,de,fr)/\x.1=(l! (wl q.2.2.2 o (n+1)):Int)) ?_ ?_
   .refine bK (aS (aW (λx=>x=(P9 o (aw gU q.2.2.2 (n:Int)),t,19,o,v,N,de,fr)) ?_ ?_))
    .unfold P9;refine aG (λh=>aj ?_) λh=>aj ?_
     .dsimp only at h ⊢;rw[h];rfl
     .dsimp only at h ⊢;rw[bp h];rfl
    rintro x rfl;rw[Fa];dsimp only;cases hw:P9 o (aw gU q.2.2.2 (n:Int)) with
    |true=>
     refine aa9 (aj ⟨rfl,?_⟩);dsimp only;rw[fH];simp
    |false=>exact iM (aj ⟨rfl,rfl⟩)
   rintro⟨c,x⟩ ⟨D,A⟩;dsimp only at D A;subst D A;exact aj ⟨fH,rfl,rfl⟩
  .rintro⟨⟨c,ix⟩,x⟩ ⟨D,A,I⟩;dsimp only at D A I;subst D A I;exact cz (aj (aO vel))
 exact aj (aO (by rw[aj5 _ _ _ _ _ _ n18 n19]at vel;exact vel))
def afe (x:i?) (c:Int):ne (x,c)=Z (P9 c x):=by
 refine bT ?_;unfold ne P9 bq aI;refine gK (aG (λh=>aj (aj ?_)) λh=>aj (aj ?_))
 .grind
 .grind
def aig (s:SY) (A:SB i s):lA s=Z (s.2.1,s.1,s.2.2.1,s.2.2.2):=by
 refine bT ?_;let⟨q,N,I,D⟩:=s;have hn:=A.n1;have hlk:=A.lk;have hdn:=A.dn;have hth:=A.th;have hrd:=A.rd;dsimp only at hlk hdn hth hrd;unfold lA tD bg bY ck bV bX bI be c7 cL;dsimp [al];refine bZ (bZ (a? (a? (a! ?_))));refine lK (l! q) (by omega) (λn x=>∃c d,x=((n:Int),(q,N,I,D),c,d)/\l! d=l! q/\∀j,j<n->d.getD j (0,[])=q.getD j (0,[])) ?_ ?_ ⟨_,_,rfl,by simp,λj hj=>by omega⟩
 .rintro n x hi ⟨c,d,rfl,hd,he⟩;have hr:=hrd _ (ba (T:=dy) (xs:=q) (j:=(n:Int)) (by omega) (by omega));refine cE ?_;refine bK (aS (aU (x:=(aw dy q (n:Int)).2) (bT ?_) ?_))
  .exact bu (by grind) (by omega) (aj rfl)
  refine bK (bK (aj ⟨c,d.set n (aw dy q (n:Int)),?_,by simp[hd],λj hj=>?_⟩))
  .rw[fH];rfl
  .by_cases e:n=j
   .subst e;rw[aA,List.getElem?_set_self (by omega)];rfl
   .grind
 .rintro x ⟨c,d,rfl,hd,he⟩;have:d=q:=by
   refine List.ext_getElem hd λj g1 g2=>?_
   grind
  subst this;refine cz (au (P:=λy=>y=(N,d,I,D)) ?_ λy hy=>aj hy);refine aU (x:=I) (bT (bu (by grind) (by omega) (aj rfl))) (aU (x:=D) (bT (bu (by grind) (by omega) (aj rfl))) (aj rfl))
def abk (l:η) (i u:Int):Do (l++[i]) u=if (l! l)=0 then i else if i=u then i else Do l u:=by
 unfold Do;cases l with
 |nil=>
  by_cases h:u=i
  .subst h;simp
  .simp[h];rfl
 |cons a r=>
  have e1:¬l! (a::r++[i])=0:=by simp
  have e2:¬l! (a::r)=0:=by simp
  by_cases h:i=u
  .subst h;simp
  .have h':¬u=i:=λg=>h g.symm
   rw[ay h];have:(a::r++[i]).contains u=(a::r).contains u:=by simp[h']
   rw[this];rfl
variable {Q:Y (Int×Int×Bool)} {a:Int}
def TI {u:Int} (h:¬l! (wl Q a i)=0):0<=Do (wl Q a i) u/\Do (wl Q a i) u<i:=by
 have:=vz.1 (G3 u h);exact⟨this.1,this.2.1⟩
def NU {u:Int} (h:l! c=0):Do c u= -1:=by unfold Do;rw[aK h]
def alc (s:SY) (o u:Int) (hs:l! s.2.2.2<=1000):kH ((s.2.1,o,u),s.1,s.2.2.1,s.2.2.2)=Z (Do (wl s.2.2.2 o (l! s.2.2.2)) u,s.1,s.2.2.1,if (l! (wl s.2.2.2 o (l! s.2.2.2)))=0 then s.2.2.2 else Dx s.2.2.2 (Do (wl s.2.2.2 o (l! s.2.2.2)) u) 4):=by
 refine bT ?_;let⟨I,N,D,A⟩:=s;dsimp only at hs ⊢;unfold kH rV bg bA bY ck bV jr mn be c7 aI cL;refine lK (l! A) (by omega) (λi x=>x=((Do (wl A o i) u,(i:Int)),I,D,A,N)) ?_ ?_ rfl
 .rintro i x hi rfl;refine cE ?_;refine aW (λx=>x=(Do (wl A o (i+1)) u,I,D,A,N)) ?_ ?_
  .refine bK (bK (aS ?_));refine aW (λx=>x=(decide (P9 o (aw gU A (i:Int))=J/\(l! (wl A o i)=0\/(i:Int)=u)),I,D,A,N)) ?_ ?_
   .refine aU (afe _ _) (aR (λh=>?_) λh=>aj ?_)
    .have h:P9 o (aw gU A (i:Int))=J:=h;refine bG (λg=>aj ?_) λg=>aj ?_
     .have:l! (wl A o i)=0:=xj λq=>by have:=(TI (u:=u) q).1;dsimp only at g;omega
      simp[h,this]
     .have:¬l! (wl A o i)=0:=λq=>by have:=NU (u:=u) q;dsimp only at g;omega
      simp[h,this]
    .grind
   rintro x rfl;rw[Fa];refine aG (λh=>aj ?_) λh=>aj ?_
   .rw[aK h.1,abk]
    grind
   .by_cases g:P9 o (aw gU A (i:Int))=J
    .rw[aK g,abk,ay λq=>h ⟨g,.inl q⟩,ay λq=>h ⟨g,.inr q⟩]
    .rw[ay g]
  rintro x rfl;exact aj (by dsimp only;rw[fH])
 .rintro x rfl;refine cz (au (P:=λy=>y=(Do (wl A o (l! A)) u,I,D,if (l! (wl A o (l! A)))=0 then A else Dx A (Do (wl A o (l! A)) u) 4)) ?_ λy hy=>aj hy);refine aW (λx=>x=(I,D,if (l! (wl A o (l! A)))=0 then A else Dx A (Do (wl A o (l! A)) u) 4)) ?_ ?_
  .refine dB (λg=>?_) λg=>aj ?_
   .have h0:¬l! (wl A o (l! A))=0:=λq=>by have:=NU (u:=u) q;dsimp only at g;omega
    have hp:=TI (u:=u) h0;refine aQ hp.1 hp.2 (aQ hp.1 hp.2 (aj ?_));rw[ay h0];rfl
   .have:l! (wl A o (l! A))=0:=xj λq=>by have:=(TI (u:=u) q).1;dsimp only at g;omega
    rw[aK this]
  rintro x rfl;exact aj rfl
def alh (th:Y i?) (l:η) (i:Int):IY th (l++[i])=Dx (IY th l) i 4:=by unfold IY;rw[dD];rfl
def alg (l:η):∀(th:Y i?) (j:Int),0<=j->(∀z∈l,0<=z/\z<l! th/\¬z=j)->aw gU (IY th l) j=aw gU th j:=by
 induction l with
 |nil=>intro th j _ _;rfl
 |cons x r I=>
  intro th j D h;have A:=h x (by simp);refine (I (Dx th x 4) j D λz N=>?_).trans ?_
  .have:=h z (by grind);unfold Dx;rw[bM];exact this
  .unfold Dx;rw[kx (T:=gU) th x j _ A.1 A.2.1 D,ay λq=>A.2.2 q.symm]
def Yb (s:SY) (o:Int) (hs:l! s.2.2.2<=1000):im ((s.2.1,o),s.1,s.2.2.1,s.2.2.2)=Z ((l! (wl s.2.2.2 o (l! s.2.2.2)):Int),s.1,s.2.2.1,IY s.2.2.2 (wl s.2.2.2 o (l! s.2.2.2))):=by
 refine bT ?_;let⟨I,D,A,q⟩:=s;dsimp only at hs ⊢;unfold im nG bg bA bY dt ck bV mn be c7 aI cL;refine lK (l! q) (by omega) (λi x=>x=(((l! (wl q o i):Int),(i:Int)),I,A,IY q (wl q o i),D)) ?_ ?_ rfl
 .rintro i x hi rfl;have hl:=ux q o i;have hg:aw gU (IY q (wl q o i)) (i:Int)=aw gU q (i:Int):=alg _ _ _ (by omega) λz N=>by have:=vz.1 N;exact⟨this.1,by omega,by omega⟩
  have hq:=FB (wl q o i) q;refine cE ?_;refine aW (λx=>x=((l! (wl q o (i+1)):Int),I,A,IY q (wl q o (i+1)),D)) ?_ ?_
  .refine bK (bK (aS (aU (afe _ _) ?_)));rw[Fa];refine aR (λh=>?_) λh=>aj ?_
   .have h:P9 o (aw gU q (i:Int))=J:=hg▸h;refine bK (bK (aj ?_));rw[aK h,alh];rw[fH];simp[aF,fX,eS];rfl
   .grind
  rintro x rfl;exact aj (by dsimp only;rw[fH])
 .rintro x rfl;exact cz (aj rfl)
def aog (w:WT) (s:SY) (q:SB i s) (hn:i<=1000) (N:l! w.2.2.1<=1000) (t k o u:Int) (he:EN w s t k o) (hr:IE w s t k o) (D:¬k=8) (A:¬k=9):io (w,s,t,k,o,u)=Z ((qD w s t k o u).1,(qD w s t k o u).2,J):=by
 refine bT ?_;unfold io bg bA bQ cS ji bY dt dv gz tb ck bq bX bI mn aI;refine aU (CA w s q hn N t k o he hr) (fJ rfl (aU (aig s q) ?_));suffices hmain:Ok _ _ from aW (λx=>((x.2.2.2.1,x.2.1,x.2.2.2.2),x.1)=qD w s t k o u) hmain λx I=>aj (by rw[<- I])
 obtain⟨nm,t0,t1,cd,e1,e2,e3⟩:=id he;obtain⟨_,_,ce,lk,cn,th,fu⟩:=nm;have hm:16<=k/\k<=19->0<=(aw itK w.2.2.1 o).2/\(aw itK w.2.2.1 o).2<l! w.2.1:=λh=>cd _ (ba (cn h).1 (cn h).2)
 cases kdI k
 case no hk _=>omega
 all_goals first|exact (D rfl).elim|exact (A rfl).elim|skip
 all_goals simp only[ec,dA,OC]
 all_goals with_reducible repeat' first|apply OS.ok;constructor|refine IM.mk λ_=>?_
 all_goals try simp only[al,sB] at*
 all_goals try rw[bM]
 all_goals first|omega|exact (hm ⟨by decide,by decide⟩).1|exact e1▸(hm ⟨by decide,by decide⟩).2|exact rfl|skip
 .refine aU (alc s o u q.th) (bO ?_ (aj ?_))
  .have:ah (if (l! (wl s.2.2.2 o (l! s.2.2.2)))=0 then s.2.2.2 else Dx s.2.2.2 (Do (wl s.2.2.2 o (l! s.2.2.2)) u) 4)=l! s.2.2.2:=by
    split
    .rfl
    .exact bM ..
   dsimp only;rw[this];simp
  .rw[Iz];by_cases h:l! (wl s.2.2.2 o (l! s.2.2.2))=0
   .rw[aK h,aK h,NU h]
   .rw[ay h,ay h]
 .refine aU (Yb s o q.th) (bO ?_ (aj rfl));dsimp only;rw[FB];simp
def Dw:Nat->Y η
 |0=>[[]]
 |m+1=>Dw m++(Dw m).map ((3-(m:Int))::·)
def Qc:∀m,[]∈Dw m
 |0=>by simp[Dw]
 |m+1=>by simp[Dw,Qc m]
def Hm:∀(m:Nat) (l:η),J6 l->(∀z∈l,4-(m:Int)<=z/\z<4)->l∈Dw m
 |m,[],_,_=>Qc m
 |0,a::r,_,h=>by have:=h a (by simp);omega
 |m+1,a::r,hA,h=>by
  have A:=h a (by simp);rw[Dw,bt];by_cases e:a=3-(m:Int)
  .refine .inr (cv.2 ⟨r,Hm m r hA.2 λz q=>?_,by rw[e]⟩);have:=h z (by grind);have:=hA.1 z q;omega
  .refine .inl (Hm m (a::r) hA λz q=>?_);have:=h z q;rcases bk.1 q with rfl|q
   .omega
   .have:=hA.1 z q;omega
def aon (h:J6 c) (h2:∀z∈c,0<=z/\z<4):c∈Dw 4:=Hm 4 c h λz q=>by have:=h2 z q;omega
def in4:η:=[0,1,2,3]
def aas (h0:0<=a) (h1:a<4):a∈in4:=by
 have:a=0\/a=1\/a=2\/a=3:=by omega
 rcases this with rfl|rfl|rfl|rfl<;>simp[in4]
def au6 (l:η) (t:Int):Bool:=l.contains t||((xY (l++[t])==Z (za l [t]))&&(my (za l [t])==Z (za l [t]))&&aB (l! (za l [t])) (l! (l++[t])))
def auy (l:η) (t:Int):Bool:= !l.contains t||(j8 (l,t)==Z (t,wo l t))
def akp:((Dw 4).all λl=>in4.all λt=>au6 l t)=J:=by kernel_rfl
def amn:((Dw 4).all λl=>in4.all λt=>auy l t)=J:=by kernel_rfl
def srt8 (h:J6 c) (h2:∀z∈c,0<=z/\z<4) (h0:0<=a) (h1:a<4) (q:¬a∈c):xY (c++[a])=Z (za c [a])/\my (za c [a])=Z (za c [a])/\l! (za c [a])=l! (c++[a]):=by
 have:=cQ.1 (cQ.1 akp c (aon h h2)) a (aas h0 h1);unfold au6 at this;simp_all
def del8 (h:J6 c) (h2:∀z∈c,0<=z/\z<4) (h0:0<=a) (h1:a<4) (q:c.contains a=J):j8 (c,a)=Z (a,wo c a):=by
 have:=cQ.1 (cQ.1 amn c (aon h h2)) a (aas h0 h1);unfold auy at this
 grind
def amx (D A q:Int) (r0 r1 r2:η) (h:Int) (d:θ) (th:Y i?) (h0:l! r0<=1000) (h1:l! r1<=1000) (h2:l! r2<=1000) (hd:l! d<=1000) (ht:l! th<=1000):rJ ([(D,r0),(A,r1),(q,r2)],h,d,th)=Z ((h,d,th),(D,A,q),r0,r1,r2):=by
 refine bT ?_;have I:∀l:η,l! l<=1000->p_ l=Z l:=λl N=>bT (a! (aj rfl))
 refine bO rfl (aW (λx=>x=(([(D,r0),(A,r1),(q,r2)],h,d,th),0,(D,A,q),r0,r1,r2)) ?_ ?_)
 .exact mL rfl (bO rfl (aS (aU (I _ h0) (mL rfl (bO rfl (aS (aU (I _ h1) (mL rfl (bO rfl (aS (aU (I _ h2) (fJ rfl (aj rfl)))))))))))))
 rintro x rfl;refine aU (x:=d) (bT (bu (by grind) (by omega) (aj rfl))) (aU (x:=th) (bT (bu (by grind) (by omega) (aj rfl))) (aj rfl))
def aoh (w:WT) (s:SY) (q:SB i s) (I:i<=1000) (A:l! w.2.2.1<=1000) (t k o u:Int) (he:EN w s t k o) (D:IE w s t k o) (N:k=8\/k=9):io (w,s,t,k,o,u)=U:=by
 have h1:=CA w s q I A t k o he D;have h2:=aig s q;rcases N with rfl|rfl
 .unfold io bg bA bQ cS ji bY dt dv gz tb ck bq bX bI mn aI;simp[h1,h2,ec,dA,OC];cases ij o (ah s.1)<;>rfl
 .unfold io bg bA bQ cS ji bY dt dv gz tb ck bq bX bI mn aI;simp[h1,h2,ec,dA,OC];cases ij o (ah s.1)<;>rfl
def aof (w:WT) (s:SY) (q:SB i s) (hn:i<=900) (hw:l! w.2.2.1<=1000) (t k u:Int) (he:EN w s t k 2) (N:IE w s t k 2) (hk:k=8\/k=9) (h3:l! s.1=3) (hA:J6 (aw dy s.1 2).2) (h4:∀z∈(aw dy s.1 2).2,0<=z/\z<4) (t4:t<4):lU (w,s,t,k,2,u)=Z ((qD w s t k 2 u).1,(qD w s t k 2 u).2,J):=by
 have h1:=CA w s q (by omega) hw t k 2 he N;have t0:=he.t0;have ra:=N.ra;have rr:=N.rr;have hrd:=q.rd;have hdn:=q.dn;have hth:=q.th;let⟨s1,h,d,th⟩:=s
 match s1,h3 with
 |[(I,r0),(D,r1),(A,r2)],_=>
  have g0:l! r0<=i:=hrd (I,r0) (by simp);have g1:l! r1<=i:=hrd (D,r1) (by simp);have g2:l! r2<=i:=hrd (A,r2) (by simp);have hA:J6 r2:=hA;have hc:=amx I D A r0 r1 r2 h d th (by omega) (by omega) (by omega) hdn hth;refine bT ?_;unfold lU bg bA bQ cS ji RA dt dv gz Rz bq AY bX aI;rcases hk with rfl|rfl
  .have ra:r2.contains t=aa:=ra rfl;let⟨q1,q2,q3⟩:=srt8 hA h4 t0 t4 (by grind);simp[h1,hc,ec,dA,OC];refine aW (λx=>x=(0,(h,d,th),0,(((I,r0),(D,r1),A)),J,za r2 [t])) ?_ ?_
   .refine bu (by grind) (by omega) (aU q1 (bO ?_ (aU q2 (bO ?_ (aj ?_)))))
    .rw[q3];simp
    .simp
    .rfl
   rintro x rfl;exact aj rfl
  .have rr:r2.contains t=J:=rr rfl;have q1:=del8 hA h4 t0 t4 rr;simp[h1,hc,ec,dA,OC];refine aW (λx=>x=(0,(h,d,th),0,(((I,r0),(D,r1),A)),aa,wo r2 t)) ?_ ?_
   .exact aU q1 (bO (by simp) (aj rfl))
   rintro x rfl;exact aj rfl
def ZS (w:WT) (s:SY) (D:SB i s) (hn:i<=900) (A:l! w.2.2.1<=1000) (t k o u:Int) (he:EN w s t k o) (I:IE w s t k o) (h2:k=8\/k=9->o=2) (h3:l! s.1=3) (hA:∀l∈s.1,J6 l.2/\∀z∈l.2,0<=z/\z<4) (t4:t<4):lB (w,s,t,k,o,u)=Z ((qD w s t k o u).1,(qD w s t k o u).2,J):=by
 unfold lB;by_cases q:k=8\/k=9
 .have:=h2 q;subst this;have N:=hA _ (ba (T:=dy) (xs:=s.1) (j:=2) (by omega) (by omega));rw[aoh w s D (by omega) A t k 2 u he I q,aof w s D hn A t k u he I q h3 N.1 N.2 t4];rfl
 .rw[aog w s D (by omega) A t k o u he I (λh=>q (.inl h)) λh=>q (.inr h)];rfl
def abj (l:η) (h:l! l<=100000):BA l=Z l:=bT (a! (aj rfl))
def amy (l:η) (h:l! l<=100000):p_ l=Z l:=bT (a! (aj rfl))
def avs {n:Nat} (w:WT) (s:SN) (e:ET) (A:NB n s) (hn:n<=900) (hw:l! w.2.2.1<=1000) (hF:F16 w s) (I:EN w s.1 e.1 e.2.1 e.2.2.1) (hS:S16 w s e) (ld:l! e.2.2.2.2.2.1<=1000000) (lf:l! e.2.2.2.2.2.2<=1000000) (h2:e.2.1=8\/e.2.1=9->e.2.2.1=2) (h3:l! s.1.1=3) (hA:∀l∈s.1.1,J6 l.2/\∀z∈l.2,0<=z/\z<4) (t4:e.1<4):kw (w,s,e)=Z (Uc w s e,J):=by
 refine bT ?_;let⟨rd,q1,q2,de,fr,nd,nf,va⟩:=id hS;let⟨nm,D,t1,cd,e1,e2,e3⟩:=id I;let⟨k1,k2,ce,lk,cn,th,fu,_,_,_⟩:=nm;let⟨f1,f2,f3⟩:=id hF;have hsc:=A.c;have hsf:=A.f;have hsk:=A.k;refine aW (λx=>x=(aa,w,s,e,0)) ?_ ?_
 .refine aU (aus w s hw _ _ _ I hF) (fJ rfl (cz (dB (λg=>(by grind)) λ_=>cz (aj ?_))));rw[g8.2 (show e.2.1<=23 by omega)]
 rintro x rfl;refine iM (aW (λx=>x=(aa,w,s,e,0)) ?_ ?_)
 .exact aU (CA w s.1 A.sb (by omega) hw _ _ _ I rd) (fJ rfl (aU (al6 w e q1 q2) (fJ rfl (aU (We w s e (λh=>ce h) de fr D (by omega) nd nf ld lf) (fJ rfl (aU (akl w s A.sb e hF I va) (aj rfl)))))))
 rintro x rfl;refine iM (aW (λx=>x.2=(w,s,e,0)/\qD w s.1 e.1 e.2.1 e.2.2.1 x.1=qD w s.1 e.1 e.2.1 e.2.2.1 e.2.2.2.1) ?_ ?_)
 .exact aG (λ_=>aj ⟨rfl,rfl⟩) λh=>aj ⟨rfl,Rm _ _ _ _ _ _ _ h⟩
 rintro⟨u,x⟩ ⟨hx,hu⟩;dsimp only at hx hu;subst hx;refine aU (ZS w s.1 A.sb hn hw _ _ _ u I rd h2 h3 hA t4) (fJ rfl (aU (abj _ (by grind)) (aU (abj _ (by grind)) (aU (amy _ (by grind)) ?_))));rw[hu];refine aW (λx=>x.1=e/\x.2.2.1=(qD w s.1 e.1 e.2.1 e.2.2.1 e.2.2.2.1).1/\x.2.2.2.1=Rf s.2.1 e/\x.2.2.2.2.1=S6 s.2.2.1 e/\x.2.2.2.2.2=s.2.2.2) ?_ ?_
 .unfold Rf S6;refine aG (λh=>?_) λh=>aG (λh'=>?_) λh'=>aj ⟨rfl,rfl,(ay h).symm,(ay h').symm,rfl⟩
  .have h:e.2.1=4:=h;have q:=ce (.inr h);exact aQ q.1 (by grind) (aQ q.1 (by grind) (aj ⟨rfl,rfl,(aK h).symm,(ay (by omega)).symm,rfl⟩))
  .have h:e.2.1=22:=h';have q:=fu (.inl h);exact aQ q.1 (by grind) (aQ q.1 (by grind) (aj ⟨rfl,rfl,(ay (by omega)).symm,(aK h).symm,rfl⟩))
 rintro⟨x1,x2,x3,x4,x5,x6⟩ ⟨h1,h2,h4,h5,h6⟩;simp only at h1 h2 h4 h5 h6;subst h1 h2 h4 h5 h6;have N:x1.1<(l! s.2.2.2:Int):=by omega
 exact aQ D N (aQ D N (aS (aQ D N (aQ D N (aj rfl)))))
structure TP (t:η×Int):Prop where
 l0:l! t.1<=9223372036854775807
 by_:∀x∈t.1,0<=x/\x<=255
 a0:0<=t.2
 a1:t.2<=l! t.1
structure Rp (t t':η×Int):Prop where
 e:t'.1=t.1
 m:t.2<=t'.2
 p:TP t'
def Rp.refl {t:q!} (h:TP t):Rp t t:=⟨rfl,c6 _,h⟩
def Rp.trans {a b c:q!} (h:Rp a b) (g:Rp b c):Rp a c:=⟨g.e.trans h.e,wG h.m g.m,g.p⟩
def nQ (n:Int) (t:q!) (h:TP t):Ok (c_ (n,t)) λy=>Rp t y.2/\0<=y.1/\(1<=n->y.1<n)/\(t.2<l! t.1->1<=n->t.2<y.2.2):=by
 let⟨L,a⟩:=t;have N:=h;let⟨D,q,A,a1⟩:=h;dsimp only at D q A a1;unfold c_ jr bX bI be aI cL;refine aW (λx=>x.2=(L,a)/\(x.1=J->a=l! L\/n<1)/\(x.1=aa->a<l! L/\1<=n)) ?_ ?_
 .refine dB (λh=>aj ⟨rfl,λ_=>?_,nofun⟩) λh=>aj ⟨rfl,λh2=>?_,λh2=>?_⟩
  .grind
  .rw[tB]at h2;exact .inr h2
  .rw[g8]at h2;dsimp [al]at h h2;omega
 rintro⟨b,x⟩ ⟨e,h1,h2⟩;subst e;refine aR (λh=>aj ⟨Rp.refl N,c6 _,λh3=>(by omega),λh3 h4=>?_⟩) λh=>?_
 .grind
 let⟨q1,q2⟩:=h2 h;refine aS ?_;have e1:aT .i64 (a+1)=a+1:=fh;rw[e1,fh (n:=a+1-1) (by omega) (by omega),show a+1-1=a by omega];have I:=q _ (ba (T:=.int .u8) (xs:=L) (j:=a) A q1);refine aQ A q1 (aS ?_);generalize (aw _ _ a)=z at I;rw[fh (n:=z) (by omega) (by omega)];refine n_ (by omega) (aj ?_);dsimp only;refine ⟨⟨rfl,by dsimp only;omega,⟨D,q,by dsimp only;omega,by dsimp only;omega⟩⟩,Int.tmod_nonneg _ I.1,λ_=>?_,λ_ _=>by omega⟩;exact Int.tmod_lt_of_pos _ (by omega)
def IW (z:Int):Prop:= -9223372036854775808<=z/\z<=9223372036854775807
def IW.sm (h0: -1000000<=a) (h1:a<=1000000):IW a:=⟨by omega,by omega⟩
def Ug (z:Int):IW (aT .i64 z):=by
 rw[E_];unfold P' IW;dsimp only;split
 next h=>rw[ak,rR,rR]at h;exact h
 .have e:jW .i64 z=if 9223372036854775808<=z%18446744073709551616 then z%18446744073709551616-18446744073709551616 else z%18446744073709551616:=by
   unfold jW;simp[IntKind.signed,IntKind.bits]
  rw[e];split<;>omega
def IW.tm (h:IW a) (b:Int):IW (cC a b):=by
 let⟨h0,h1⟩:=h;rcases Int.lt_or_le a 0 with q|q
 .have:=Int.tmod_nonneg b (a:= -a) (by omega);have h2:=Int.natAbs_tmod a b;have h3:=Nat.mod_le a.natAbs b.natAbs;rw[Int.neg_tmod]at this;exact⟨by omega,by omega⟩
 .have:=Int.tmod_nonneg b q;have h2:=Int.natAbs_tmod a b;have h3:=Nat.mod_le a.natAbs b.natAbs;exact⟨by omega,by omega⟩
def EvS (e:ET):Prop:=l! e.2.2.2.2.2.1<=1000000/\l! e.2.2.2.2.2.2<=1000000
def IWe (e:ET):Prop:=e.2.1=4\/e.2.1=22->IW e.2.2.2.1
def C0:Y (ζ×o!):=[([120],0,0,aa,0),([121],0,0,aa,1),([118],0,0,J,0),([113],0,2,aa,0),([113],1,2,aa,0)]
def E6:Y v?:=[([109],aa),([110],aa),([114],J)]
def Rw:Y (ζ×Int):=[([99],0)]
def XP:Y ζ:=[[102]]
def yV:Y ζ:=[[109,97,105,110],[116,49],[116,50],[116,51]]
structure WX (w:WT):Prop where
 c:w.1=C0
 l:w.2.1=E6
 d:w.2.2.1=Rw
 f:w.2.2.2.1=XP
 t:∃n,1<=n/\n<=4/\w.2.2.2.2.1=yV.take n
 s:l! w.2.2.2.2.2<=60
 v:SV0 w
def aks {l:Y π} {s:π}:RN a (l++[s])=ZZ a (RN a l) s:=by unfold RN;rw[dD];rfl
structure WB (w:WT):Prop where
 c:l! w.1<=12
 l:l! w.2.1<=4
 d:l! w.2.2.1<=2
 f:l! w.2.2.2.1<=2
 t:l! w.2.2.2.2.1<=4
 s:l! w.2.2.2.2.2<=60
def VL.wb {w:WT} (h:VL w):WB w:=⟨h.c,h.l,h.d,h.f,h.t,h.s⟩
structure TR (y:WT×List ET):Prop where
 wb:WB y.1
 vl:VL y.1
 ev:∀e∈y.2,EvF y.1 e
 len:l! y.2<=400
 ls:∀e∈y.2,EvS e
 wx:WX y.1
 ac:∃sy ce fu,Acw y.1 y.2 sy ce fu
 iw:∀e∈y.2,IWe e
def al0 {rows:Y θ} {e:ET} (D:0<=a) (A:a<l! rows) (h1:∀y∈e.2.2.2.2.2.1,0<=y/\(Au (T:=.bool) rows a).getD y.toNat aa=J) (h2:∀y∈e.2.2.2.2.2.2,0<=y/\(Au (T:=.bool) rows a).getD y.toNat aa=J) (N:l! e.2.2.2.2.2.1<=1000000) (I:l! e.2.2.2.2.2.2<=1000000):eQ (((a,aY (l! (Au (T:=.bool) rows a))),e),rows)=Z (J,rows):=by
 refine bT ?_;unfold eQ kO ji tb bV jr AY bX bI be c7 aI cL;refine lK 2 (by omega) (λi x=>x=(((a,aY (l! (Au (T:=.bool) rows a))),(i:Int)),rows)) ?_ ?_ rfl
 .rintro i x hi rfl;refine bG (λ_=>?_) λg=>(by dsimp only at g;omega)
  refine bZ (a? (pY (by dsimp only;omega) (aS ?_)));have hr:∃l:η,aw (.sl aP) [e.2.2.2.2.2.1,e.2.2.2.2.2.2] (i:Int)=l/\(∀y∈l,0<=y/\(Au (T:=.bool) rows a).getD y.toNat aa=J)/\l! l<=1000000:=by
   match i,hi with
   |0,_=>exact⟨_,rfl,h1,N⟩
   |1,_=>exact⟨_,rfl,h2,I⟩
  let⟨l,er,hA,hl⟩:=hr;dsimp only;rw[er];generalize hR:Au (T:=.bool) rows a=r at*
  refine lK (l! l) (by omega) (λj x=>x=(((a,aY (l! r)),(j:Int)),rows)) ?_ ?_ rfl
  .rintro j x hj rfl;refine cE ?_;have m:=hA _ (ba (T:=aP) (xs:=l) (j:=(j:Int)) (by omega) (by omega));refine bK (aS (aW (λx=>x=(((a,aY (l! r)),aa),rows)) ?_ ?_))
   .obtain⟨z,hze⟩:∃z:Int,aw aP l (j:Int)=z:=⟨_,rfl⟩
    have m:0<=z/\r.getD z.toNat aa=J:=by rw[<- hze];exact m
    dsimp only;rw[hze];have hz:z.toNat<l! r:=by
     rcases bF z.toNat (l! r) with g|g
     .exact g
     .have:=m.2;rw[aA,jG g]at this;cases this
    have q:(0:Int)<=z:=m.1;have hzi:(z:Int)<(l! r:Int):=by omega
    refine bG (λg=>bc q (Int.not_le.2 g)) λ_=>dB (λg=>bc hzi (gG.2 g)) λ_=>aQ q hzi (aQ D A ?_)
    rw[hR];refine aQ q hzi (aS (aj ?_));have:aw (.bool) r z=J:=m.2;dsimp only;rw[this];rfl
   rintro x rfl;refine iM (aj ?_);dsimp only;rw[fH];rfl
  .rintro x rfl;refine cz (aj ?_);dsimp only;rw[fH];rfl
 .rintro x rfl;exact bG (λg=>(by dsimp only at g;omega)) λ_=>aj rfl
abbrev W8 (n:Nat) (s:Y π):WT:=(C0,E6,Rw,XP,yV.take n,s)
def WX.w8 {w:WT} (q:WX w):∃n,(n=1\/n=2\/n=3\/n=4)/\w=W8 n w.2.2.2.2.2:=by
 let⟨h1,h2,h3,h4,⟨n,D,A,I⟩,_,_⟩:=q
 grind
abbrev Qg (w:WT):SN:=(s0P w,ce0 w,fu0 w,aD (l! w.2.2.2.2.1) 0)
def LC (s:Y π):eD (W8 1 s)=Z (Qg (W8 1 s)):=by kernel_rfl
def st2 (s:Y π):eD (W8 2 s)=Z (Qg (W8 2 s)):=by kernel_rfl
def st3 (s:Y π):eD (W8 3 s)=Z (Qg (W8 3 s)):=by kernel_rfl
def st4 (s:Y π):eD (W8 4 s)=Z (Qg (W8 4 s)):=by kernel_rfl
def ajm {w:WT} (q:WX w):eD w=Z (Qg w):=by
 let⟨n,A,e⟩:=q.w8;rw[e];rcases A with rfl|rfl|rfl|rfl
 .exact LC _
 .exact st2 _
 .exact st3 _
 .exact st4 _
abbrev VN4:Y ζ:=[[120],[121],[118],[113]]
def vc8:iD C0=Z (VN4,J):=by kernel_rfl
def vn1 (s:Y π):d6 (W8 1 s,VN4)=Z J:=by kernel_rfl
def vn2 (s:Y π):d6 (W8 2 s,VN4)=Z J:=by kernel_rfl
def vn3 (s:Y π):d6 (W8 3 s,VN4)=Z J:=by kernel_rfl
def vn4 (s:Y π):d6 (W8 4 s,VN4)=Z J:=by kernel_rfl
def vs8 {w:WT} (q:WX w) (I:VL w):gy w=Z J:=by
 have D:=q.v;have hs:=q.s;have ht:=I.t0;refine bT ?_;unfold gy lM bg bA cS dv bV gV bI be c7 aI cL;refine lK (l! w.2.2.2.2.2) (by omega) (λi x=>∃t n:Int,x=((t,n,(i:Int)),w)/\RN (l! w.2.2.2.2.1) (w.2.2.2.2.2.take i)=Z (t,n)/\0<=t/\t<l! w.2.2.2.2.1/\0<=n/\n<=i) ?_ ?_ ⟨0,0,rfl,rfl,by omega,by omega,by omega,by omega⟩
 .rintro i x hi ⟨t,n,rfl,h1,t0,A,n0,n1⟩;refine cE ?_;refine bK (aS ?_);have h2:=Z1 D (i+1);have h3:RN (l! w.2.2.2.2.1) (w.2.2.2.2.2.take (i+1))=ZZ (l! w.2.2.2.2.1) (Z (t,n)) (aw pS w.2.2.2.2.2 (i:Int)):=by rw[LD hi,h1]
  rw[h3]at h2;revert h2 h3;generalize aw pS w.2.2.2.2.2 (i:Int)=z;intro h2 h3;obtain⟨(a:Int),(b:Int),(c:Int)⟩:=z;have N:(a=t/\b=n)\/(t<a/\a<l! w.2.2.2.2.1/\b=0):=by
   simp[ZZ]at h2
   grind
  refine aW (λx=>x=(aa,w,a,b,c)) ?_ ?_
  .refine cz (aj ?_);rw[gq.2 (by grind)]
  rintro x rfl;rcases N with ⟨rfl,rfl⟩|⟨q1,q2,rfl⟩
  .refine aW (λx=>x=((a,b),w,a,b,c)) (cz (aj rfl)) ?_;rintro x rfl;refine bw (λg=>(g rfl).elim) λ_=>aj ⟨a,b+1,?_,?_,t0,A,by omega,by omega⟩
   .rw[fh (n:=b+1) (by omega) (by omega),fH]
   .rw[h3];simp[ZZ]
  .refine aW (λx=>x=((a,0),w,a,0,c)) (cE (aj rfl)) ?_;rintro x rfl;refine bw (λg=>(g rfl).elim) λ_=>aj ⟨a,1,?_,?_,by omega,q2,by omega,by omega⟩
   .rw[fh (n:=0+1) (by omega) (by omega),fH];rfl
   .rw[h3];show (if a=t/\(0:Int)=n then Z (t,n+1) else if t<a/\a<_/\(0:Int)=0 then Z (a,1) else U)=Z (a,1)
    grind
 .rintro x ⟨t,n,rfl,_⟩;exact cz (aj rfl)
def VW8 {w:WT} (q:WX w) (I:VL w):iE w=Z J:=by
 have N:=vs8 q I;have hvn:d6 (w,VN4)=Z J:=by
  let⟨n,hn,e⟩:=q.w8;rw[e];rcases hn with rfl|rfl|rfl|rfl
  .exact vn1 _
  .exact vn2 _
  .exact vn3 _
  .exact vn4 _
 have hc:=q.c;have hd:=q.d;have hl:=q.l;let⟨w1,w2,w3,w4,D,A⟩:=w;let⟨b1,b2,b3,b4,b0,b5,b6⟩:=I;subst hc hd hl;refine bT ?_;have f:∀n m:Nat,n<=m->gM (m:Int) (aY n)=aa:=λn m h=>g8.2 (by grind)
 refine aW (λx=>x=(aa,C0,E6,Rw,w4,D,A)) ?_ ?_
 .refine fJ rfl (fJ rfl (fJ rfl (fJ (f _ 2 b4) (aj ?_))))
  grind
 rintro x rfl;refine iM (aW (λx=>x=(aa,C0,E6,Rw,w4,D,A)) ?_ ?_)
 .refine fJ (g8.2 (by grind)) (aj ?_)
  grind
 rintro x rfl;refine iM (aU vc8 (aW (λx=>x=(aa,C0,E6,Rw,w4,D,A)) ?_ ?_))
 .exact iM (aU hvn (aj rfl))
 rintro x rfl;refine iM (lK 1 (by omega) (λi x=>x=((i:Int),C0,E6,Rw,w4,D,A)) ?_ ?_ rfl)
 .rintro i x hi rfl;have:i=0:=by omega
  subst this;refine mL rfl (bO rfl (aS (aU (x:=J) ?_ (iM (aj rfl)))));rfl
 .rintro x rfl;exact fJ rfl (aU (x:=J) (by rw[N];rfl) (aj rfl))
abbrev eN (l:Y ET) (i:Nat):ET:=aw gm l (i:Int)
variable {L:Y ET}
def M8 (h:i<l! L):eN L i∈L:=ba (T:=gm) (by omega) (by omega)
def ara {e:ET} (h:i<l! L):eN (L++[e]) i=eN L i:=by
 unfold eN;rw[xC,xC,aA,aA,cU h]
def amm (l:Y ET) (e:ET):eN (l++[e]) (l! l)=e:=by
 unfold eN;rw[xC,aA,cB (bi _),CE];rfl
def acS (w:WT) (l:Y ET):SY×O!:=l.foldl (λs e=>((qD w s.1 e.1 e.2.1 e.2.2.1 e.2.2.2.1).1,Rf s.2.1 e,S6 s.2.2 e)) (s0P w,ce0 w,fu0 w)
def aja (w:WT) (h:i<l! L):acS w (L.take (i+1))=((qD w (acS w (L.take i)).1 (eN L i).1 (eN L i).2.1 (eN L i).2.2.1 (eN L i).2.2.2.1).1,Rf (acS w (L.take i)).2.1 (eN L i),S6 (acS w (L.take i)).2.2 (eN L i)):=by
 rw[kA (T:=gm) h];unfold acS;rw[dD];rfl
def Acw.all {w:WT} {sy:SY} {q:η} (h:Acw w L sy c q):acS w L=(sy,c,q)/\∀i,i<l! L->SCx w (L.take i) (acS w (L.take i)).1 (acS w (L.take i)).2.1 (acS w (L.take i)).2.2 (eN L i):=by
 induction h with
 |nil=>exact⟨rfl,λi hi=>bc hi (dp _)⟩
 |snoc h I D=>
  rename_i L sy c q e;let⟨h1,h2⟩:=D;refine ⟨by unfold acS at h1 ⊢;rw[dD,h1];rfl,λi hi=>?_⟩;rw[aF,a_]at hi;rcases bF i (l! L) with g|g
  .rw[Hf (by omega),ara g];exact h2 i g
  .have:i=l! L:=by omega
   subst this;rw[Hf (bi _),cH,amm,h1];exact I
def TR.sc {w:WT} (tr:TR (w,L)) (h:i<l! L):SCx w (L.take i) (acS w (L.take i)).1 (acS w (L.take i)).2.1 (acS w (L.take i)).2.2 (eN L i):=by
 let⟨sy,A,q,ac⟩:=tr.ac;exact ac.all.2 i h
def Q8 (r:η):Prop:=J6 r/\∀z∈r,0<=z/\z<4
def P8 (s:Y g?):Prop:=∀x∈s,Q8 x.2
def P8.get {s:Y g?} (h:P8 s) (o:Int):Q8 (aw dy s o).2:=by
 unfold aw;rw[aA];cases e:s[o.toNat]? with
 |none=>exact⟨trivial,λz q=>by cases q⟩
 |some x=>exact h x (bn e)
def P8.set {s:Y g?} (h:P8 s) (o a:Int) (A:Q8 c):P8 (ca s o (a,c)):=λx q=>by
 rcases kB q with q|rfl
 .exact h x q
 .exact A
def EK (p:Int->Bool):∀{l:η},J6 l->J6 (l.filter p)
 |[],_=>trivial
 |x::r,h=>by
  rw[List.filter_cons];split
  .exact⟨λy q=>h.1 y ((yW.1 q).1),EK p h.2⟩
  .exact EK p h.2
def P8.ite {c:Prop} [Decidable c] {a b:U!} (A:P8 a.1.1) (q:P8 b.1.1):P8 (if c then a else b).1.1:=by grind
def P8.ap {w:WT} {s:SY} (h:P8 s.1) (k o v:Int) (I:0<=a) (D:a<4):P8 (qD w s a k o v).1.1:=by
 have ow:∀t b,P8 (owP s.1 t b):=λt b=>h.set t b (h.get t)
 have un:P8 (rdP s.1 o (za (aw dy s.1 o).2 [a])):=h.set _ _ ⟨Uj _ _,λz q=>by
  rcases Ly.1 q with q|q
  .exact (h.get o).2 z q
  .rw[aE]at q;subst q;exact⟨I,D⟩⟩
 have A:P8 (rdP s.1 o (wo (aw dy s.1 o).2 a)):=h.set _ _ ⟨EK _ (h.get o).1,λz q=>(h.get o).2 z (yW.1 q).1⟩;exact P8.ite h (P8.ite h (P8.ite (ow _ _) (P8.ite (ow _ _) (P8.ite un (P8.ite A (P8.ite h (P8.ite h (P8.ite h (P8.ite h (P8.ite (ow _ _) (P8.ite (ow _ _) (P8.ite (P8.ite h h) (P8.ite h (P8.ite h (P8.ite h h)))))))))))))))
def D' (w:WT) (l:Y ET):SN:=l.foldl (Uc w) (Qg w)
def Qf (w:WT) (h:i<l! L):D' w (L.take (i+1))=Uc w (D' w (L.take i)) (eN L i):=by
 rw[kA (T:=gm) h];unfold D';rw[dD];rfl
structure K8 (w:WT) (l:List ET) (i:Nat) (s:SN):Prop where
 a:(s.1,s.2.1,s.2.2.1)=acS w (l.take i)
 r:P8 s.1.1
 c:l! s.2.1=l! w.1
 f:l! s.2.2.1=l! w.2.2.2.1
 k:l! s.2.2.2=l! w.2.2.2.2.1
 n:CN (l.take i) s.2.2.2
def K5 {w:WT} (tr:TR (w,L)):∀i:Nat,i<=l! L->K8 w L i (D' w (L.take i))
 |0,_=>⟨rfl,λx A=>by rw[qX A];exact⟨trivial,λz q=>by cases q⟩,by simp[D',ce0],by simp[D',fu0],by simp[D'],λt t0 t1=>by
   have:(aD (l! w.2.2.2.2.1) (0:Int)).getD t.toNat 0=0:=by grind
   exact this⟩
 |i+1,h=>by
  let⟨a,r,c,f,k,n⟩:=K5 tr i (by omega);have sc:=tr.sc (i:=i) (by omega);have D:=tr.len;have ht:=tr.wb.t;dsimp only at D ht;have en:=sc.en;have e1:=en.t1;have htk:=J9 i L;rw[Qf w (by omega)];refine ⟨?_,r.ap _ _ _ en.t0 (by omega),?_,?_,?_,?_⟩
  .rw[aja w (by omega),<-a];rfl
  .unfold Uc Rf;split
   .rw[bM];exact c
   .exact c
  .unfold Uc S6;split
   .rw[bM];exact f
   .exact f
  .unfold Uc;rw[bM];exact k
  .have:=n.next (eN L i) en.t0 (by omega) (by omega);rw[kA (T:=gm) (show i<l! L by omega)];exact this
def afq {w:WT} (tr:TR (w,L)) (hi:i<l! L):kw (w,D' w (L.take i),eN L i)=Z (D' w (L.take (i+1)),J):=by
 let⟨a,r,c,f,k,n⟩:=K5 tr i (by omega);have sc:=tr.sc hi;have A:=tr.wx;have ht:=tr.wb.t;have hls:=tr.ls _ (M8 hi);dsimp only at A ht hls;rw[Qf w hi];rw[<- a]at sc;generalize D' w (L.take i)=s at*
 generalize eN L i=e at*
 have en:=sc.en;have e1:=en.t1;have l3:l! w.2.1=3:=by rw[A.l];rfl
 have I:=n e.1 en.t0 (by omega);have b1:=tr.wb.c;have b4:=tr.wb.f;have b3:=tr.wb.d;dsimp only at b1 b4 b3;have q1:=en.e1;have q2:=en.e2;have q3:=en.e3;dsimp only at q1 q2 q3;refine avs (n:=4) w s e ⟨⟨by omega,by omega,λx N=>?_,by omega,by omega⟩,by omega,by omega,by omega⟩ (by omega) (by omega) ⟨c,f,k⟩ en ⟨sc.rd,sc.s1,sc.s2,sc.de,sc.fr,by rw[I];exact sc.nd,by rw[I];exact sc.nf,sc.va⟩ hls.1 hls.2 (λh=>?_) (by omega) r (by omega)
 .have:=C3 x.2 0 4 (r x N).1 (r x N).2;omega
 .have D:=en.nm.lk (by omega);have q:=en.nm.rw (by omega);generalize e.2.2.1=o at D q;rw[A.l]at D q;have:o=0\/o=1\/o=2:=by have:E6.length=3:=rfl;omega
  rcases this with rfl|rfl|rfl
  .cases q
  .cases q
  .rfl
abbrev fN (l:Y ET) (i:Nat) (t:Int):θ:=fl (l.take i) t
def ar5 (h:i<l! L) (e:(eN L i).1=a):fN L (i+1) a=fN L i a++[nW (eN L i)]:=by
 unfold fN;rw[kA (T:=gm) h,uG,BW e]
def ai2 (h:i<l! L) (e:¬(eN L i).1=a):fN L (i+1) a=fN L i a:=by
 unfold fN;rw[kA (T:=gm) h,uG,yg e,cJ]
def ar6 (l:Y ET) (i:Nat) (t:Int):l! (fN l i t)<=l! l:=cP (VW _ _) (List.length_take_le' ..)
structure RwB (w:WT) (l:List ET) (i:Nat) (lens:η) (rows:List θ):Prop where
 ll:l! lens=l! w.2.2.2.2.1
 lr:l! rows=l! w.2.2.2.2.1
 r:∀u:Nat,u<l! w.2.2.2.2.1->rows.getD u []=fN l i (u:Int)
 n:∀u:Nat,u<l! w.2.2.2.2.1->lens.getD u 0=aY (l! (fN l i (u:Int)))
def RwB.zero (w:WT) (l:Y ET):RwB w l 0 (aD (l! w.2.2.2.2.1) 0) (aD (l! w.2.2.2.2.1) []):=by
 refine ⟨cR ..,cR ..,λu q=>?_,λu q=>?_⟩
 .rw[aA,mj,aK q];rfl
 .rw[aA,mj,aK q];rfl
variable {b:Bool}
def RwB.next {w:WT} (hi:i<l! L) {rows:Y θ} (h:RwB w L i c rows) (A:0<=a) (I:a<l! w.2.2.2.2.1) (D:(eN L i).1=a) (N:nW (eN L i)=b):RwB w L (i+1) (CL c (aN a) (aY (ah (Au (T:=.bool) rows a++[b])))) (xM (T:=.bool) (xM (T:=.bool) rows a []) a (Au (T:=.bool) rows a++[b])):=by
 let⟨h1,h2,h3,h4⟩:=h;have er:Au (T:=.bool) rows a=fN L i a:=by
  have:=h3 a.toNat (by omega);rw[Int.toNat_of_nonneg A]at this;exact this
 have own:=ar5 hi D;refine ⟨by rw[dI,h1],by unfold xM;rw[dI,dI,h2],λu q=>?_,λu q=>?_⟩
 .unfold xM;rw[aA,g_];by_cases e:a.toNat=u
  .grind
  .rw[ay e,g_,ay e,<-aA,h3 u q,ai2 hi (by omega)]
 .rw[aA,g_];by_cases e:a.toNat=u
  .grind
  .rw[ay e,<-aA,h4 u q,ai2 hi (by omega)]
def atk {w:WT} (tr:TR (w,L)):il (w,L)=Z (0,0):=by
 have hl:l! L<=400:=tr.len;have hT:l! w.2.2.2.2.1<=4:=tr.wb.t;refine bT ?_;unfold il nE bg bA bQ cS dt gz ck bq bV AY bX bI be c7 aI cL;refine fJ (g8.2 (by grind)) (aU (VW8 tr.wx tr.vl) (iM (aU (ajm tr.wx) ?_)));refine bZ (bZ (cK (by simp) (a? (bu (by grind) (by omega) ?_))));refine lK (l! L) (by omega) (λi x=>∃lens rows,x=((i:Int),(w,L),D' w (L.take i),lens,rows)/\RwB w L i lens rows) ?_ ?_ ⟨_,_,by simp[al,kL];rfl,RwB.zero w L⟩
 .rintro i x hi ⟨lens,rows,rfl,q⟩;have sc:=tr.sc hi;have e1:=sc.en.t1;have e0:=sc.en.t0;have st:=afq tr hi;have hls:=tr.ls _ (M8 hi);have fa:=ar6 L i (eN L i).1;have I:(eN L i).1=(((eN L i).1.toNat:Nat):Int):=by omega
  have D:Au (T:=.bool) rows (eN L i).1=fN L i (eN L i).1:=by
   have:=q.r (eN L i).1.toNat (by omega);rw[<- I]at this;exact this
  have en:aN (OF lens (eN L i).1)=l! (Au (T:=.bool) rows (eN L i).1):=by
   have:=q.n (eN L i).1.toNat (by omega);rw[<- I,<-D]at this;unfold OF;rw[this];rfl
  have rd:eQ (((((eN L i).1,aY (l! (Au (T:=.bool) rows (eN L i).1))),eN L i),rows))=Z (J,rows):=by
   refine al0 e0 (by rw[q.lr];exact e1) ?_ ?_ hls.1 hls.2
   .rw[D];exact sc.rd1
   .rw[D];exact sc.rd2
  have nx:=λb=>q.next hi e0 e1 rfl (b:=b)
  have l1:=q.ll;have l2:=q.lr;refine cE (bK (aS ?_));have N:aw gm L (i:Int)=eN L i:=rfl;rw[N];generalize eN L i=e at*
  refine aU st ?_;refine aW (λx=>x=(aa,(w,L),D' w (L.take i),lens,e,D' w (L.take (i+1)),rows)) ?_ ?_
  .refine iM (bK (bK ?_));rw[en];exact aU rd (aj rfl)
  rintro x rfl;refine iM (aW (λx=>∃lens' rows',x=((w,L),D' w (L.take i),lens',D' w (L.take (i+1)),rows')/\RwB w L (i+1) lens' rows') ?_ ?_)
  .refine bK (bK ?_);rw[en];refine aG (λh=>bK (bZ (bO (wD _) (bu (by grind) (by omega) (bK (bK (aj ⟨_,_,rfl,nx _ ?_⟩))))))) λh=>bK (bZ (bO (wD _) (bu (by grind) (by omega) (bK (bK (aj ⟨_,_,rfl,nx _ ?_⟩))))))
   .unfold nW;rw[aO h];rfl
   .unfold nW;rw[bp h];rfl
  rintro x ⟨lens',rows',rfl,A⟩;refine aj ⟨lens',rows',?_,A⟩;rw[fH]
 .rintro x ⟨lens,rows,rfl,_⟩;exact cz (aj rfl)
def J4 (w:WT) (s:SY) (I:l! w.2.2.1<=1000) (D:∀c∈w.2.2.1,0<=c.2/\c.2<l! w.2.1) (e1:l! s.1=l! w.2.1) (e2:l! s.2.2.1=l! w.2.2.2.1) (e3:l! s.2.2.2=l! w.2.2.2.2.1):oS (w,s)=Z J:=by
 refine bT ?_;unfold oS bg bA bQ dv bq bV bI be c7 aI cL;refine bC (l! w.2.2.1) (λi x=>x=((i:Int),w,s)) ?_ ?_ rfl
 .rintro i x hi rfl;have N:=D _ (ba (T:=itK) (xs:=w.2.2.1) (j:=(i:Int)) (by omega) (by omega));with_reducible repeat' first|apply OS.ok;constructor|refine IM.mk λ_=>?_
  all_goals try simp only[al,sB] at*
  all_goals first|omega|skip
  rw[fH]
 .rintro x rfl;refine cz (au (P:=λb=>b=J) (aW (λx=>x=J) ?_ λx q=>aj q) λb A=>aj A);refine aG (λ_=>aG (λ_=>aj ?_) λg=>(g ?_).elim) λg=>(g ?_).elim
  .grind
  .grind
  .grind
def Yc (w:WT) (k o:Int) (h:NM w k o):qK (w,k,o)=Z J:=by
 refine bT ?_;let⟨k1,k2,N,A,cn,th,I,no,q,rw_⟩:=h;unfold qK bg bA bQ cS bq bI be aI;cases kdI k
 case no D _=>omega
 all_goals simp only[ec,dA,OC,Qy]
 all_goals with_reducible repeat' first|apply OS.ok;constructor|refine IM.mk λ_=>?_
 all_goals try simp[al,sB] at*
 all_goals first|omega|exact rw_ ⟨by decide,by decide⟩|(simp [*,Bool.not_false,decide_true];done)
set_option maxHeartbeats 4000000 in
def T_ {n:Nat} (w:WT) (s:SY) (hs:SB n s) (hw:l! w.2.2.1<=1000) (t k o:Int) (he:EN w s t k o) (hr:IE w s t k o):ju (w,s,t,k,o)=Z J:=by
 refine bT ?_;obtain⟨nm,t0,t1,cd,e1,e2,e3⟩:=id he;unfold ju bg bA bQ bY dt dv bq gV bI be aI;refine aW (λx=>x=(aa,w,s)) ?_ ?_
 .refine aU (J4 w s hw cd e1 e2 e3) ?_;refine iM ?_;simp only[Qy,R_];refine bw (λg=>(g ⟨t0,t1⟩).elim) λ_=>?_
  refine aU (Yc w k o nm) (aj rfl)
 rintro x rfl;refine iM ?_;obtain⟨_,_,ce,lk,cn,th,fu,_,_,_⟩:=nm;have hm:16<=k/\k<=19->0<=(aw itK w.2.2.1 o).2/\(aw itK w.2.2.1 o).2<l! w.2.1:=λh=>cd _ (ba (cn h).1 (cn h).2)
 have hH:6<=k/\k<=11->lS ((aw dy s.1 o).2,t)=Z ((aw dy s.1 o).2.contains t):=λh=>ER _ _ (by
  have:=hs.rd _ (ba (T:=dy) (lk h).1 (by have:=(lk h).2;omega));have:=hs.n1;omega)
 cases kdI k
 case no hk _=>omega
 all_goals simp only[ec,dA,OC]
 all_goals with_reducible repeat' first|apply OS.ok;constructor|refine IM.mk λ_=>?_
 all_goals try simp only[hH (by omega),R_]
 all_goals with_reducible repeat' first|apply OS.ok;constructor|refine IM.mk λ_=>?_
 all_goals try simp only[al,sB] at*
 all_goals first|omega|exact (hm ⟨by decide,by decide⟩).1|(rw [e1];exact (hm ⟨by decide,by decide⟩).2)|skip
 all_goals first|exact hr.b (by decide)|exact hr.aq (by decide)|exact hr.rl (by decide)|exact hr.rr (by decide)|(rw [hr.ra (by decide)];rfl)|(have:=hr.wr (by decide);omega)|exact hr.xb (by decide)|exact hr.xe (by decide)|(rw [hr.ab (by decide)];rfl)|exact hr.ae (by decide)|exact hr.nt (by decide)|exact (hr.sp (by decide)).2|exact (hr.jo (by decide)).2|(rw [hr.se (by decide)];rfl)|exact hr.ge (by decide)|exact (hr.wk (by decide)).2.2|(exfalso;first|(have:=hr.r (by decide) (by decide);contradiction)|(have:=hr.aq (by decide);contradiction)|(have:=(hr.wk (by decide)).1;contradiction)|(have:=(hr.wk (by decide)).2.1;contradiction)|(have:=(hr.sp (by decide)).1;contradiction)|(have:=(hr.jo (by decide)).1;contradiction))|skip
def XJ (w:WT) (s:SN) (A:l! w.2.2.1<=1000) (t k o:Int) (he:EN w s.1 t k o) (hf:F16 w s):vo (w,s)=Z J:=by
 refine bT ?_;refine aW (λx=>x=J) ?_ λx q=>aj q
 refine aU (J4 w s.1 A he.cd he.e1 he.e2 he.e3) (aa9 ?_);have:=hf.c;have:=hf.f;have:=hf.k;refine aG (λ_=>aG (λ_=>aj ?_) λg=>(g ?_).elim) λg=>(g ?_).elim
 .grind
 .grind
 .grind
def aj3:∀{l:η},J6 l->∀k:Nat,k+1<l! l->l.getD k 0<l.getD (k+1) 0
 |[],_,k,h|[x],_,k,h=>by simp at h
 |x::y::r,h,0,_=>h.1 y (cj ..)
 |x::y::r,h,k+1,q=>by have:=aj3 h.2 k (by grind);simpa using this
def FA (l:η) (c:Int) (D:l! l<=1000000000) (h:AN c l):oO (l,c)=Z J:=by
 refine bT ?_;refine bC (l! l) (λi x=>x=(i:Int)) ?_ ?_ rfl
 .rintro i x hi rfl;have hm:=h.m _ (ba (T:=aP) (xs:=l) (j:=(i:Int)) (by omega) (by omega));have A:0<(i:Int)->aT .i64 ((i:Int)-1)=((i-1:Nat):Int):=λh=>by rw[fh];omega
  refine cE (aW (λx=>x=aa) ?_ ?_)
  .refine bK (aS (bG (λg=>bc g (by grind)) λ_=>bK (aS (dB (λg=>bc g (by grind)) λ_=>bG (λg=>?_) λ_=>aj rfl))));refine bK (aS ?_);dsimp only;rw[A g];refine bK (aS (aj ?_));have q:=aj3 h.a (i-1) (by omega);rw[show i-1+1=i by omega]at q;exact gq.2 q
  rintro x rfl;exact iM (aj fH)
 .rintro x rfl;exact cz (aj rfl)
def XV (w:WT) (s:SN) (hs:NB i s) (hf:F16 w s) (e:ET) (he:EN w s.1 e.1 e.2.1 e.2.2.1) (hv:VA w s.1 s.2.1 s.2.2.1 e.1 e.2.1 e.2.2.1 e.2.2.2.1):vG (s,e)=Z J:=by
 refine bT ?_;let⟨t,k,o,v,si,de,fr⟩:=e;let⟨A,s2,s3,s4⟩:=s;let⟨nm,t0,t1,cd,e1,e2,e3⟩:=he;let⟨_,_,ce,lk,cn,th,fu,_,_,_⟩:=nm;let⟨f1,f2,f3⟩:=hf;let⟨v3,D,v5,vel⟩:=hv;have hth:=hs.sb.th;dsimp only at*
 have hW:=Oc A o hth;have hWl:=ux A.2.2.2 o (l! A.2.2.2);refine aG (λh=>?_) λn3=>?_
 .have h:k=3:=h;let⟨c0,c1⟩:=ce (.inl h);exact aQ c0 (by grind) (aS (aj (aO (v3 h))))
 refine aG (λh=>?_) λI=>?_
 .have h:k=23:=h;let⟨c0,c1⟩:=fu (.inr h);exact aQ c0 (by grind) (aS (aj (aO (D h))))
 refine aG (λh=>?_) λn5=>?_
 .have h:k=5:=h;exact gK (aG (λh2=>aj (aj rfl)) λh2=>aj (aj (aO ((v5 h).resolve_left h2))))
 refine aW (λx=>x.2=((A,s2,s3,s4),t,k,o,v,si,de,fr)/\(x.1=aa->¬k=4/\¬k=22)) (aG (λh=>aj ⟨rfl,λg=>bc g (by grind)⟩) λh=>aj ⟨rfl,λg=>⟨h,vy g⟩⟩) ?_;rintro⟨b,x⟩ ⟨e,hb⟩;dsimp only at e hb;subst e;refine aR (λh=>aj rfl) λh=>?_
 let⟨n4,N⟩:=hb h;have val:=vel n3 I n5 n4 N;refine aG (λh=>?_) λn18=>?_
 .have h:k=18:=h;subst h;rw[Iz]at val;have hmem:¬l! (wl A.2.2.2 o (l! A.2.2.2))=0->0<=v/\v<l! A.2.2.2/\(wl A.2.2.2 o (l! A.2.2.2)).contains v=J:=λg=>by
   rw[ay g]at val;dsimp only at val;unfold Do at val;rw[ay g]at val;by_cases c:(wl A.2.2.2 o (l! A.2.2.2)).contains v=J
   .have:=(vz (th:=A.2.2.2) (c:=o)).1 (by simpa using c:v∈wl A.2.2.2 o (l! A.2.2.2));exact⟨this.1,this.2.1,c⟩
   .exfalso;rw[ay c]at val;refine c ?_;rw[val];have hz:wl A.2.2.2 o (l! A.2.2.2)≠[]:=λq=>g (by grind)
    generalize wl A.2.2.2 o (l! A.2.2.2)=y at hz ⊢;cases y with
    |nil=>exact (hz rfl).elim
    |cons a r=>rw[show aw aP (a::r) 0=a from rfl];simp
  refine aU hW ?_;refine aG (λg=>aj ?_) λg=>?_
  .grind
  .dsimp only[al]at g;let⟨q0,q1,q2⟩:=hmem (by omega);refine gK (dB (λ_=>bG (λ_=>?_) λq=>bc q (by grind)) λq=>bc q (by grind));exact aU (ER _ _ (by omega)) (aj (aj q2))
 refine aG (λh=>?_) λn19=>?_
 .have h:k=19:=h;subst h;exact aU hW (aj (aO (by rw[aj6]at val;exact val)))
 .rw[aj5 _ _ _ _ _ _ n18 n19]at val;exact aj (aO val)
def Xz (w:WT) (s:SN) (N:NB i s) (hw:l! w.2.2.1<=1000) (e:ET) (hcb:(aw aP s.2.2.2 e.1:Int)<=1000000) (hF:F16 w s) (hE:EN w s.1 e.1 e.2.1 e.2.2.1) (D:S16 w s e):Ok (qZ (w,s,e)) λy=>y.2=J:=by
 have hd:l! e.2.2.2.2.2.1<=1000000000:=by
  have h3:(l! e.2.2.2.2.2.1:Int)<=max (0:Int) (aw aP s.2.2.2 e.1):=D.nd.len
  grind
 have hf:l! e.2.2.2.2.2.2<=1000000000:=by
  have h3:(l! e.2.2.2.2.2.2:Int)<=max (0:Int) (aw aP s.2.2.2 e.1):=D.nf.len
  grind
 have hEn:=T_ w s.1 N.sb hw e.1 e.2.1 e.2.2.1 hE D.rd;let⟨nm,t0,t1,cd,e1,e2,e3⟩:=id hE;let⟨k1,k2,ce,lk,cn,th,fu,_,_,_⟩:=nm;let⟨f1,f2,f3⟩:=id hF;unfold qZ bg bA bQ cS ji bY dt dv gz tb ck bq bV gV bX bI mn be c7 aI cL;refine aW (λx=>x=(aa,w,s,e,0)) ?_ ?_
 .refine aU (XJ w s hw _ _ _ hE hF) (iM ?_);simp only[alv,R_];refine bw (λg=>(g ⟨t0,t1⟩).elim) λ_=>bG (λg=>bc g (gG.2 k1)) λ_=>bG (λg=>bc g (gG.2 k2)) λ_=>aU hEn (aj rfl)
 rintro x rfl;refine iM (aW (λx=>x=(w,s,e,0)) ?_ ?_)
 .refine aW (λx=>x.2=(w,s,e,0)/\(x.1=J->e.2.1=1\/e.2.1=2)/\(x.1=aa->¬(e.2.1=1\/e.2.1=2))) ?_ ?_
  .refine aG (λh=>aj ⟨rfl,λ_=>.inl h,nofun⟩) λh=>aj ⟨rfl,λh2=>.inr (aZ h2),λh2=>?_⟩
   grind
  rintro⟨x1,x2⟩ ⟨q,hy1,hy2⟩;dsimp only at q hy1 hy2;subst q;refine aR (λhk=>?_) λhk=>?_
  .exact bw (λg=>(g (D.s1 (hy1 hk))).elim) λ_=>aj rfl
  .obtain⟨q1,q2,q3⟩:=D.s2 (hy2 hk);refine aW (λx=>x=(aa,w,s,e,0)) ?_ ?_
   .simp only[alv,R_];refine bw (λg=>(g ⟨q1,q2⟩).elim) λ_=>aQ q1 q2 (aS (aj ?_))
    dsimp only;rw[q3];simp
   rintro x rfl;exact iM (aj rfl)
 rintro x rfl;refine aW (λx=>x.2=(w,s,e,0)/\(x.1=J->e.2.1=3\/e.2.1=4)/\(x.1=aa->¬(e.2.1=3\/e.2.1=4))) ?_ ?_
 .refine aG (λh=>aj ⟨rfl,λ_=>.inl h,nofun⟩) λh=>aj ⟨rfl,λh2=>.inr (aZ h2),λh2=>?_⟩
  grind
 rintro⟨x1,x2⟩ ⟨q,I,hx0⟩;dsimp only at q I hx0;subst q;refine aW (λx=>x=(aa,w,s,e,0)) ?_ ?_
 .refine bG (λg=>bw (λn5=>?_) λ_=>aj rfl) λ_=>aj rfl
  have de:=(D.de (by grind)).resolve_left n5;refine aR (λh=>?_) λh=>(hx0 h de.1).elim
  refine aQ (ce (I h)).1 (ce (I h)).2 (aS (aj ?_))
  grind
 rintro x rfl;refine iM (aW (λx=>x=(aa,w,s,e,0)) ?_ ?_)
 .refine bG (λg=>bw (λn4=>aj ?_) λ_=>aj rfl) λ_=>aj rfl
  have fr:=(D.fr (by grind)).resolve_left n4;dsimp only;simp[fr]
 rintro x rfl;have hk:=N.k;have hc:=N.c;have hfu:=N.f;refine iM (aW (λx=>x=(aa,w,s,e,0)) ?_ ?_)
 .refine aQ t0 (by rw[f3];exact t1) (aS (aU (FA _ _ hd D.nd) (iM ?_)));refine aQ t0 (by rw[f3];exact t1) (aS (aU (FA _ _ hf D.nf) (iM ?_)));exact aU (XV w s N hF e hE D.va) (aj rfl)
 rintro x rfl;refine iM (a! (a! (a! ?_)));refine aW (λx=>x.2=(w,s,e,0,0,s.2.1,s.2.2.1,s.2.2.2)) ?_ ?_
 .exact aG (λ_=>aj rfl) λh=>aj rfl
 rintro⟨x1,x2⟩ q;dsimp only at q;subst q;refine au (Ov w s.1 N.sb hw e.1 e.2.1 e.2.2.1 x1) λy hy=>?_
 refine aW (λx=>x.1=e/\l! x.2.2.2.1=l! s.2.1/\x.2.2.2.2=(s.2.2.1,s.2.2.2)) ?_ ?_
 .refine aG (λh=>?_) λh=>aj ⟨rfl,rfl,rfl⟩
  have A:=ce (.inr h);refine aQ A.1 (by dsimp only;omega) (aQ A.1 (by dsimp only;omega) (aj ⟨rfl,?_,rfl⟩));dsimp only;rw[bM]
 rintro⟨x1,x2,x3,x4,x5,x6⟩ ⟨h1,h2,h4⟩;simp only[aV]at h1 h4;obtain⟨rfl,rfl⟩:=h4;subst h1;refine aW (λx=>x.1=x1/\x.2.2.2.2.2=s.2.2.2) ?_ ?_
 .refine aG (λh=>?_) λh=>aj ⟨rfl,rfl⟩
  have A:=fu (.inl h);exact aQ A.1 (by dsimp only;omega) (aQ A.1 (by dsimp only;omega) (aj ⟨rfl,rfl⟩))
 rintro⟨x1,x2,x3,x4,x5,x6⟩ ⟨h1,h6⟩;simp only at h1 h6;subst h1 h6;with_reducible repeat' first|apply OS.ok;constructor|refine IM.mk λ_=>?_
 all_goals try simp only[al,sB] at*
 all_goals first|omega|skip
abbrev WN:Type:=WT×Int×SN×Y ET
structure G1 (w:WT) (s:SN) (e:ET):Prop where
 en:EN w s.1 e.1 e.2.1 e.2.2.1
 s16:S16 w s e
 eq:qZ (w,s,e)=Z (Uc w s e,J)
abbrev nD (w:WT) (s:SN) (l:Y ET) (i:Nat):SN:=(l.take i).foldl (Uc w) s
def Dy (w:WT) (s:SN) (h:i<l! L):nD w s L (i+1)=Uc w (nD w s L i) (eN L i):=by
 unfold nD;rw[kA (T:=gm) h,dD];rfl
def CHN (w:WT) (s:SN) (l:Y ET):Prop:=∀i:Nat,i<l! l->G1 w (nD w s l i) (eN l i)
def G1.nb {w:WT} {s:SN} {e:ET} (g:G1 w s e) (h:NB i s) (q:l! w.2.2.1<=1000) (he:EvS e) (A:i+1<=100000):NB (i+1) (Uc w s e):=by
 let⟨y,h1,h2,_⟩:=Rq w s h q e (.inl (by have:=he.1;omega)) (.inl (by have:=he.2;omega));rw[g.eq]at h1;cases h1;exact (h2 rfl).2.1.NB h A
def ZQ (h:∀e∈L,EvS e) (hi:i<l! L):EvS (eN L i):=h _ (ba (T:=gm) (xs:=L) (j:=(i:Int)) (by omega) (by omega))
def CHN.nb {w:WT} {s:SN} (c:CHN w s L) (h:NB i s) (q:l! w.2.2.1<=1000) (A:∀e∈L,EvS e) (D:i+l! L<=90000):∀n,n<=l! L->NB (i+n) (nD w s L n)
 |0,_=>h
 |n+1,hi=>by
  rw[Dy w s (by omega)];exact (c n (by omega)).nb (CHN.nb c h q A D n (by omega)) q (ZQ A (by omega)) (by show i+n+1<=100000;omega)
variable {m:Nat}
def NB.mono {s:SN} (h:NB i s) (hnm:i<=m) (hm:m<=100000:=by omega):NB m s:=⟨⟨hm,h.sb.lk,λl q=>cP (h.sb.rd l q) hnm,h.sb.dn,h.sb.th⟩,h.c,h.f,h.k⟩
structure nz (x:WN):Prop where
 vl:VL x.1
 lk:x.1.2.1=E6
 nb:NB 800 x.2.2.1
 jb:F16 x.1 x.2.2.1
 fy:l! x.2.2.1.1.1=l! x.1.2.1/\l! x.2.2.1.1.2.2.1=l! x.1.2.2.2.1/\l! x.2.2.1.1.2.2.2=l! x.1.2.2.2.2.1
 p8:P8 x.2.2.1.1.1
 ch:CHN x.1 x.2.2.1 x.2.2.2
 ln:l! x.2.2.2<=8
 es:∀e∈x.2.2.2,EvS e
def CHN.p8 {w:WT} {s:SN} (c:CHN w s L) (h:P8 s.1.1) (q:VL w):∀i,i<=l! L->P8 (nD w s L i).1.1
 |0,_=>h
 |i+1,hi=>by
  rw[Dy w s (by omega)];have g:=c i (by omega);have:=q.t;exact (CHN.p8 c h q i (by omega)).ap _ _ _ g.en.t0 (by have:=g.en.t1;omega)
def CHN.slice {w:WT} {s:SN} (c:CHN w s L) (i m:Nat):CHN w (nD w s L i) ((L.drop i).take m):=λk q=>by
 rw[bl,fo]at q;have h1:((L.drop i).take m).take k=(L.drop i).take k:=by rw[su];congr 1;omega
 have h2:nD w (nD w s L i) ((L.drop i).take m) k=nD w s L (i+k):=by
  unfold nD;rw[h1,<-dD,List.take_add]
 have h3:eN ((L.drop i).take m) k=eN L (i+k):=by
  unfold eN;rw[xC,xC];simp only[aA];rw[dG,aK (by omega),iz]
 rw[h2,h3];exact c (i+k) (by omega)
def dpE (e:ET) (n:Int):Prop:=n∈e.2.2.2.2.2.1\/n∈e.2.2.2.2.2.2
def K8.nb {w:WT} (h:K8 w L i (nD w (Qg w) L i)) (tr:TR (w,L)) (hi:i<l! L):NB 4 (nD w (Qg w) L i)/\EN w (nD w (Qg w) L i).1 (eN L i).1 (eN L i).2.1 (eN L i).2.2.1/\S16 w (nD w (Qg w) L i) (eN L i):=by
 have sc:=tr.sc hi;rw[<- h.a]at sc;have en:=sc.en;have b1:=tr.wb.c;have N:=tr.wb.l;have I:=tr.wb.f;have D:=tr.wb.t;dsimp only at b1 N I D;have q1:=en.e1;have q2:=en.e2;have q3:=en.e3;dsimp only at q1 q2 q3;have hc:=h.c;have hf:=h.f;have A:=h.k;refine ⟨⟨⟨by omega,by omega,λx q=>?_,by omega,by omega⟩,by omega,by omega,by omega⟩,en,⟨sc.rd,sc.s1,sc.s2,sc.de,sc.fr,?_,?_,sc.va⟩⟩
 .have:=C3 x.2 0 4 (h.r x q).1 (h.r x q).2;omega
 .rw[h.n _ en.t0 (by rw[A];exact en.t1)];exact sc.nd
 .rw[h.n _ en.t0 (by rw[A];exact en.t1)];exact sc.nf
def CHN.tr {w:WT} (tr:TR (w,L)):CHN w (Qg w) L:=λi hi=>by
 have h:K8 w L i (nD w (Qg w) L i):=K5 tr i (by omega);let⟨nb,en,q⟩:=h.nb tr hi;have hd:l! w.2.2.1<=1000:=by have:=tr.wb.d;dsimp only at this;omega
 have A:=tr.ls _ (M8 hi);dsimp only at A;have hcb:=h.n.bd (eN L i).1;have hl:=J9 i L;have D:=tr.len;dsimp only at D;let⟨y,h1,h2,_⟩:=Rq w _ nb hd (eN L i) (.inl (by have:=A.1;omega)) (.inl (by have:=A.2;omega));let⟨y',N,I⟩:=Xz w _ nb hd (eN L i) (wG hcb (by omega)) ⟨h.c,h.f,h.k⟩ en q;rw[h1]at N;cases N;exact⟨en,q,by rw[h1,<-(h2 I).2.2.2,<-I]⟩
def Xq (w:WT) (k o:Int):Ok (j6 (w,k,o)) λb=>b=J->NM w k o:=by
 unfold j6 bg bA bQ cS bq bI be aI;cases kdI k
 case no q _=>
  simp only[q,ec,dA,OC];with_reducible repeat' first|apply OS.ok;constructor|refine IM.mk λ_=>?_
  all_goals try simp only[al,sB] at*
  all_goals first|omega|(intro h;cases h;done)|skip
 all_goals simp only[ec,dA,OC,CM]
 all_goals with_reducible repeat' first|apply OS.ok;constructor|refine IM.mk λ_=>?_
 all_goals try simp only[al,sB] at*
 all_goals first|omega|(intro h;cases h;done)|(intro h;constructor<;>first|omega|(intro h2;first|omega|(simpa using h)))
def ak0 (w:WT) (s:SY) (N:l! w.2.2.1<=1000):Ok (jB (w,s)) λb=>b=J->(∀c∈w.2.2.1,0<=c.2/\c.2<l! w.2.1)/\l! s.1=l! w.2.1/\l! s.2.2.1=l! w.2.2.2.1/\l! s.2.2.2=l! w.2.2.2.2.1:=by
 unfold jB rW bg bA bQ dt bV gV bI be c7 aI cL;refine aW (λx=>x.2=w/\(x.1=aa->l! s.1=l! w.2.1/\l! s.2.2.1=l! w.2.2.2.1/\l! s.2.2.2=l! w.2.2.2.2.1)) ?_ ?_
 .refine bw (λ_=>aj ⟨rfl,nofun⟩) λh1=>bw (λ_=>aj ⟨rfl,nofun⟩) λh2=>aj ⟨rfl,λh3=>?_⟩
  have h3:aY (l! s.2.2.2)=aY (l! w.2.2.2.2.1):=by simpa using h3
  exact⟨Int.ofNat.inj h1,Int.ofNat.inj h2,Int.ofNat.inj h3⟩
 rintro⟨b,x⟩ ⟨e,A⟩;dsimp only at e A;subst e;refine aR (λ_=>aj nofun) λh=>?_
 have D:=A h;refine lK (l! x.2.2.1) (by omega) (λi y=>y=((i:Int),x)/\∀k:Nat,k<i->0<=(aw itK x.2.2.1 (k:Int)).2/\(aw itK x.2.2.1 (k:Int)).2<l! x.2.1) ?_ ?_ ⟨rfl,λk I=>(by omega)⟩
 .rintro i y hi ⟨rfl,q⟩;refine cE (bK (aS (aU (CM _ _) (bw (λ_=>aj nofun) λg=>aj ⟨?_,λk I=>?_⟩))))
  .dsimp only;rw[fH]
  .rcases bF k i with h1|h1
   .exact q k h1
   .rw[show k=i by omega];exact g
 .rintro y ⟨rfl,q⟩;exact cz (aj λ_=>⟨fI (T:=itK) q,D⟩)
def acj (w:WT) (s:SY) (D:SB i s) (hn:i<=1000) (t k o:Int) (he:EN w s t k o) (n1:¬k=1) (A:¬k=17) (hst:(aw gU s.2.2.2 t).1=2):Ok (lz (w,s,t,k,o)) λb=>b=J->IE w s t k o:=by
 let⟨nm,t0,t1,N,e1,e2,e3⟩:=id he;let⟨_,_,ce,q,cn,th,fu,_,_,_⟩:=nm;have hm:16<=k/\k<=19->0<=(aw itK w.2.2.1 o).2/\(aw itK w.2.2.1 o).2<l! w.2.1:=λh=>N _ (ba (cn h).1 (cn h).2)
 have I:6<=k/\k<=11->e_ ((aw dy s.1 o).2,t)=Z ((aw dy s.1 o).2.contains t):=λh=>mi _ _ (by
  have:=D.rd _ (ba (T:=dy) (q h).1 (by have:=(q h).2;omega));omega)
 unfold lz bg bA bQ dt dv bq gV bI be aI;cases kdI k
 case no hk _=>omega
 all_goals first|omega|skip
 all_goals simp only[ec,dA,OC]
 all_goals with_reducible repeat' first|apply OS.ok;constructor|refine IM.mk λ_=>?_
 all_goals try simp only[I (by omega),R_]
 all_goals with_reducible repeat' first|apply OS.ok;constructor|refine IM.mk λ_=>?_
 all_goals try simp only[al,sB] at*
 all_goals first|omega|(intro h;cases h;done)|exact (hm ⟨by decide,by decide⟩).1|(rw [e1];exact (hm ⟨by decide,by decide⟩).2)|(intro h;constructor<;>first|omega|(intros;first|omega|assumption|(simpa using h)|exact⟨by assumption,by first|assumption|(simpa using h)⟩))|(constructor<;>(intros;first|omega|assumption))|skip
def IE.one {w:WT} {s:SY} {o:Int} (h:(aw gU s.2.2.2 a).1=1):IE w s a 1 o:=by
 constructor<;>(intros;first|omega|assumption)
def IE.wake {w:WT} {s:SY} {o:Int} (h1:(aw gU s.2.2.2 a).1=4) (h2:(aw gU s.2.2.2 a).2.1=o) (h3:(aw dy s.1 (aw itK w.2.2.1 o).2).1= -1):IE w s a 17 o:=by
 constructor<;>(intros;first|omega|exact⟨h1,h2,h3⟩)
def J5 (w:WT) (s:SY) (hs:SB i s) (hn:i<=1000) (hw:l! w.2.2.1<=1000) (t k o:Int):Ok (eT (w,s,t,k,o)) λb=>b=J->EN w s t k o/\IE w s t k o:=by
 unfold eT bg bA bQ bY dt dv bq bI be aI;refine aW (λx=>x.2=(w,s)/\(x.1=aa->EN w s t k o)) ?_ ?_
 .refine au (ak0 w s hw) λb hb=>dc (λ_=>aj ⟨rfl,nofun⟩) λh1=>aU (CM _ _) ?_
  refine bw (λ_=>aj ⟨rfl,nofun⟩) λh2=>au (Xq w k o) λc A=>aj ⟨rfl,λh3=>?_⟩
  let⟨f1,f2,f3,f4⟩:=hb h1;exact⟨A (by simpa using h3),h2.1,h2.2,f1,f2,f3,f4⟩
 rintro⟨b,x⟩ ⟨e,D⟩;dsimp only at e D;subst e;refine aR (λ_=>aj nofun) λh=>?_
 have he:=D h;let⟨nm,t0,t1,cd,e1,e2,e3⟩:=id he;have t2:t<(l! s.2.2.2:Int):=by omega
 refine aQ t0 t2 (aS ?_);refine aG (λh=>aj λg=>⟨he,?_⟩) λn1=>?_
 .have h:k=1:=h;subst h;exact IE.one (aZ g)
 refine aG (λh=>?_) λq=>?_
 .have h:k=17:=h;subst h;let⟨c0,N⟩:=nm.cd (by omega);have I:=cd _ (ba (T:=itK) (xs:=w.2.2.1) (j:=o) c0 N);refine gK (aG (λg1=>aG (λg2=>?_) λ_=>aj (aj nofun)) λ_=>aj (aj nofun));exact aQ c0 N (aS (aQ I.1 (by rw[e1];exact I.2) (aS (aj (aj λg3=>⟨he,IE.wake g1 g2 (aZ g3)⟩)))))
 refine gK (aG (λg=>?_) λ_=>aj (aj nofun));exact au (acj w s hs hn t k o he n1 q g) λc A=>aj (aj λh=>⟨he,A h⟩)
abbrev CF:Type:=SY×Y (Int×Bool)×Y (Int×Bool)×η×θ×η
def fdN (p:Nat->Bool):Nat->Int
 |0=> -1
 |n+1=>if fdN p n<0 then (if p n=J then (n:Int) else -1) else fdN p n
def z_ (p:Nat->Bool):∀n,(fdN p n= -1/\∀j,j<n->p j=aa)\/∃k,k<n/\fdN p n=(k:Int)/\p k=J/\∀j,j<k->p j=aa
 |0=>.inl ⟨rfl,λj q=>bc q (dp _)⟩
 |n+1=>by
  rcases z_ p n with ⟨h1,h2⟩|⟨k,h1,h2,h3,h4⟩
  .rw[fdN,h1,aK (by decide)];by_cases h:p n=J
   .rw[aK h];exact .inr ⟨n,sr n,rfl,h,h2⟩
   .rw[ay h];refine .inl ⟨rfl,λj q=>?_⟩;rcases bF j n with g|g
    .exact h2 j g
    .rw[show j=n by omega];simpa using h
  .rw[fdN,h2,ay (by omega)];exact .inr ⟨k,by omega,rfl,h3,h4⟩
variable {p:Nat->Bool}
def Ez (q:m<i) (hp:p m=J) (hm:∀j,j<m->p j=aa):fdN p i=(m:Int):=by
 rcases z_ p i with ⟨_,h2⟩|⟨k,h1,h2,h3,h4⟩
 .rw[h2 m q]at hp;cases hp
 .rcases CJ k m with h|h|h
  .rw[hm k h]at h3;cases h3
  .rw[h2,h]
  .rw[h4 m h]at hp;cases hp
def ahz (h:∀j,j<i->p j=aa):fdN p i= -1:=by
 rcases z_ p i with ⟨h1,_⟩|⟨m,h1,h2,h3,h4⟩
 .exact h1
 .rw[h m h1]at h3;cases h3
def QI {q:Nat->Bool}:∀{n:Nat},(∀j,j<n->p j=q j)->fdN p n=fdN q n
 |0,_=>rfl
 |n+1,h=>by rw[fdN,fdN,QI λj A=>h j (by omega),h n (sr n)]
def nxp (l:Y ET) (q:η) (t:Int) (k:Nat):Bool:=decide ((eN l k).1=t)&& !q.contains (k:Int)
def xP (x:WN) (q:η) (t:Int):Int:=if t<0\/(l! x.1.2.2.2.2.1:Int)<=t then -1 else fdN (nxp x.2.2.2 q t) (l! x.2.2.2)
def Og (x:WN) (c:CF) (t:Int) (A:l! c.2.2.2.1<=1000) (D:l! x.2.2.2<=1000):mh (x,c,t)=Z (xP x c.2.2.2.1 t):=by
 refine bT ?_;unfold mh bQ bY bq bV bI be c7 aI cL;refine aW (λz=>z=(decide (t<0\/(l! x.1.2.2.2.2.1:Int)<=t),x,c)) ?_ ?_
 .refine bG (λh=>aj (by rw[aO (.inl h)])) λh=>aj ?_
  dsimp only[al]at h ⊢;rcases Int.lt_or_le t (l! x.1.2.2.2.2.1:Int) with g|g
  .rw[gq.2 g,bp (by omega)]
  .rw[rR.2 g,aO (.inr g)]
 rintro z rfl;refine aG (λh=>aj (by rw[xP,aK h])) λh=>?_
 rw[xP,ay h];refine bC (l! x.2.2.2) (λi y=>y=((i:Int),c)/\∀j,j<i->nxp x.2.2.2 c.2.2.2.1 t j=aa) ?_ ?_ ⟨rfl,λj q=>bc q (dp _)⟩
 .rintro i y hi ⟨rfl,hp⟩;refine cE (bK (aS ?_));refine aW (λz=>z=(nxp x.2.2.2 c.2.2.2.1 t i,c)) ?_ ?_
  .refine aG (λh=>aU (mi _ _ A) (aj ?_)) λh=>aj ?_
   .show _=(decide ((eN x.2.2.2 i).1=t)&&_,c)
    rw[aO h,cD]
   .show _=(decide ((eN x.2.2.2 i).1=t)&&_,c)
    rw[bp h,fY]
  rintro z rfl;refine aR (λh=>aj (Ez hi h hp).symm) λh=>aj ⟨?_,λj q=>?_⟩
  .dsimp only;rw[fH]
  .rcases bF j i with g|g
   .exact hp j g
   .rw[show j=i by omega];exact h
 .rintro y ⟨rfl,hp⟩;exact cz (aj (ahz hp).symm)
def Sd (x:WN) (q:η) (t:Int):xP x q t= -1\/(0<=t/\t<l! x.1.2.2.2.2.1)/\∃k:Nat,k<l! x.2.2.2/\xP x q t=(k:Int)/\(eN x.2.2.2 k).1=t/\¬(k:Int)∈q:=by
 unfold xP;split
 .exact .inl rfl
 .rename_i h;rcases z_ (nxp x.2.2.2 q t) (l! x.2.2.2) with ⟨h1,_⟩|⟨m,h1,h2,h3,h4⟩
  .exact .inl h1
  .unfold nxp at h3;rw[ak,decide_eq_true_iff,dE]at h3;exact .inr ⟨by omega,m,h1,h2,h3.1,λg=>by rw[bR.2 g]at h3;cases h3.2⟩
def eY (l:Y ET) (t:Int):Nat->η
 |0=>[]
 |n+1=>if (eN l n).1=t then eY l t n++[(n:Int)] else eY l t n
def xO (l:Y ET) (t:Int):∀n,l! (eY l t n)<=n
 |0=>bi _
 |n+1=>by
  have:=xO l t n;rw[eY];split
  .rw[aF,a_];omega
  .omega
def rB {z:Int}:∀{n:Nat},z∈eY L a n->0<=z/\z<n
 |0,h=>by cases h
 |n+1,h=>by
  rw[eY]at h;split at h
  .rcases bt.1 h with h|h
   .have:=rB h;omega
   .rw[aE]at h;omega
  .have:=rB h;omega
def fxK (own:η) (fx:θ) (k:Int):Bool:=decide (0<=k/\k<own.length/\aw aP own k<l! fx)&&aw (.bool) fx (aw aP own k)
def VK (own:η) (fx:θ) (b n:Int):Bool:=decide (n<b)||fxK own fx (aT .i64 (n-b))
def MO (x:WN) (fx:θ) (t:Int) (ns:η):Bool:=decide (l! ns=0)||(decide (0<=t/\t<l! x.1.2.2.2.2.1/\t<l! x.2.2.1.2.2.2)&&ns.all λn=>VK (eY x.2.2.2 t (l! x.2.2.2)) fx (aw aP x.2.2.1.2.2.2 t) n)
def T8 (x:WN) (c:CF) (t:Int) (ns:η) (hl:l! x.2.2.2<=1000) (hn:l! ns<=1000000):oX (x,c,t,ns)=Z (MO x c.2.2.2.2.1 t ns):=by
 refine bT ?_;unfold oX MO bg bQ bY bq bV jr bX bI mn be c7 aI cL;refine aG (λh=>aj ?_) λh=>?_
 .dsimp only[al]at h;rw[aO (by omega)];rfl
 dsimp only[al]at h;rw[bp (by omega),nU];refine aW (λz=>z=(!decide (0<=t/\t<l! x.1.2.2.2.2.1/\t<l! x.2.2.1.2.2.2),x,c)) ?_ ?_
 .refine bG (λh=>aj (by dsimp only at h;rw[bp (by omega)];rfl)) λh=>dB (λg=>aj (by dsimp only[al]at g;rw[bp (by omega)];rfl)) λg=>aj ?_
  dsimp only[al]at h g ⊢;rcases Int.lt_or_le t (l! x.2.2.1.2.2.2:Int) with k|k
  .rw[gq.2 k,aO ⟨h,g,k⟩];rfl
  .rw[rR.2 k,bp (by omega)];rfl
 rintro z rfl;refine dc (λh=>aj (by rw[h];rfl)) λh=>?_
 rw[h,cD];have h:=aZ h;refine aQ h.1 h.2.2 (aS ?_);refine bC (l! x.2.2.2) (λi y=>y=((i:Int),c,eY x.2.2.2 t i)) ?_ ?_ rfl
 .rintro i y hi rfl;refine cE (aW (λz=>z=(c,eY x.2.2.2 t (i+1))) ?_ ?_)
  .refine bK (aS (aG (λh=>?_) λh=>aj ?_))
   .have:=xO x.2.2.2 t i;refine bu (by simp only[a_];omega) (by decide) (aj ?_);rw[eY,aK h]
   .rw[eY,ay h]
  .rintro z rfl;exact aj (by dsimp only;rw[fH])
 rintro y rfl;refine cz ?_;refine au (P:=λb=>b=ns.all λn=>VK (eY x.2.2.2 t (l! x.2.2.2)) c.2.2.2.2.1 (aw aP x.2.2.1.2.2.2 t) n) ?_ λb hb=>aj hb
 have A:∀k:Int,0<=k->k<l! (eY x.2.2.2 t (l! x.2.2.2))->0<=aw aP (eY x.2.2.2 t (l! x.2.2.2)) k:=λk D k1=>(rB (ba (T:=aP) D k1)).1
 generalize eY x.2.2.2 t (l! x.2.2.2)=own at A ⊢;refine bC (l! ns) (λi y=>y=((i:Int),c,own)/\∀k:Nat,k<i->VK own c.2.2.2.2.1 (aw aP x.2.2.1.2.2.2 t) (aw aP ns (k:Int))=J) ?_ ?_ ⟨rfl,λj N=>bc N (dp _)⟩
 .rintro i y hi ⟨rfl,hp⟩;have no:VK own c.2.2.2.2.1 (aw aP x.2.2.1.2.2.2 t) (aw aP ns (i:Int))=aa->aa=ns.all λn=>VK own c.2.2.2.2.1 (aw aP x.2.2.1.2.2.2 t) n:=λh=>by
   symm
   rw[<- iQ,cQ];intro g;rw[g _ (ba (T:=aP) (by omega) (by omega))]at h;cases h
  refine cE (aW (λz=>z=(c,own)/\VK own c.2.2.2.2.1 (aw aP x.2.2.1.2.2.2 t) (aw aP ns (i:Int))=J) ?_ ?_)
  .refine bK (aS (bG (λh=>aj ⟨rfl,?_⟩) λh=>?_))
   .unfold VK;rw[aO h];rfl
   have h:¬aw aP ns (i:Int)<aw aP x.2.2.1.2.2.2 t:=gG.2 h;have e:VK own c.2.2.2.2.1 (aw aP x.2.2.1.2.2.2 t) (aw aP ns (i:Int))=fxK own c.2.2.2.2.1 (aT .i64 (aw aP ns (i:Int)-aw aP x.2.2.1.2.2.2 t)):=by unfold VK;rw[bp h];rfl
   rw[e]at no ⊢;generalize aT .i64 (aw aP ns (i:Int)-aw aP x.2.2.1.2.2.2 t)=k at no ⊢;refine aW (λz=>z=(!fxK own c.2.2.2.2.1 k,c,own)) ?_ ?_
   .have bad:∀{p:Prop},(¬(0<=k/\k<own.length/\aw aP own k<l! c.2.2.2.2.1))->fxK own c.2.2.2.2.1 k=aa:=λh=>by unfold fxK;rw[bp h];rfl
    refine bG (λh=>aj ?_) λh=>dB (λg=>aj ?_) λg=>aQ h g (aQ h g (aS (dB (λq=>aj ?_) λq=>aQ h g (aQ h g (aS (aQ (A k h g) q (aS (aj ?_))))))))
    .rw[bad (p:=True) (λa=>by omega)];rfl
    .rw[bad (p:=True) (λa=>by have g:(own.length:Int)<=k:=g;omega)];rfl
    .rw[bad (p:=True) (λa=>bc a.2.2 (gG.2 q))];rfl
    .unfold fxK;rw[aO ⟨h,g,q⟩];rfl
   rintro z rfl;exact dc (λh=>aj (no h)) λh=>aj ⟨rfl,h⟩
  .rintro z ⟨rfl,I⟩;refine aj ⟨by dsimp only;rw[fH],λk hk=>?_⟩;rcases bF k i with g|g
   .exact hp k g
   .rw[show k=i by omega];exact I
 .rintro y ⟨rfl,hp⟩;refine cz (aj (Eq.symm ?_));rw[cQ];exact fI (T:=aP) (p:=λn=>VK own c.2.2.2.2.1 (aw aP x.2.2.1.2.2.2 t) n=J) hp
def L3 (s y:SY):Prop:=l! y.1=l! s.1/\l! y.2.2.1=l! s.2.2.1/\l! y.2.2.2=l! s.2.2.2
def L3.ite {s:SY} {c:Prop} [Decidable c] {a b:U!} (A:L3 s a.1) (q:L3 s b.1):L3 s (if c then a else b).1:=by by_cases h:c<;>simp[h,A,q]
def L3.ap (w:WT) (s:SY) (t k o v:Int):L3 s (qD w s t k o v).1:=by
 have h:L3 s s:=⟨rfl,rfl,rfl⟩
 have ow:∀a b (d:Int),L3 s (owP s.1 a b,d,s.2.2):=λa b d=>⟨bM ..,rfl,rfl⟩
 have th:∀(a b:Int) (x:i?),L3 s (s.1,b,s.2.2.1,ca s.2.2.2 a x):=λa b x=>⟨rfl,rfl,bM ..⟩
 have q:∀(a b c d x y:Int),L3 s (owP s.1 a b,d,s.2.2.1,cdP (Dx s.2.2.2 c x) c y):=λa b c d x y=>⟨bM ..,rfl,(bM ..).trans (bM ..)⟩
 unfold qD;exact L3.ite (th _ _ _) (L3.ite (th _ _ _) (L3.ite (ow _ _ _) (L3.ite (ow _ _ _) (L3.ite ⟨bM ..,rfl,rfl⟩ (L3.ite ⟨bM ..,rfl,rfl⟩ (L3.ite h (L3.ite h (L3.ite (th _ _ _) (L3.ite (th _ _ _) (L3.ite (q _ _ _ _ _ _) (L3.ite (q _ _ _ _ _ _) (L3.ite (L3.ite h (th _ _ _)) (L3.ite ⟨rfl,rfl,FB _ _⟩ (L3.ite (th _ _ _) (L3.ite ⟨rfl,bM ..,rfl⟩ h)))))))))))))))
def P8.le {s:Y g?} (h:P8 s):∀l∈s,l! l.2<=4:=λl q=>by
 have:=C3 l.2 0 4 (h l q).1 (h l q).2;omega
structure CI (x:WN) (c:CF):Prop where
 p8:P8 c.1.1
 l1:l! c.1.1=l! x.1.2.1
 l2:l! c.1.2.2.1=l! x.1.2.2.2.1
 l3:l! c.1.2.2.2=l! x.1.2.2.2.2.1
 ce:l! c.2.1=l! x.1.1
 fu:l! c.2.2.1=l! x.1.2.2.2.1
 od:∀z∈c.2.2.2.1,0<=z/\z<l! x.2.2.2
 nd:c.2.2.2.1.Nodup
 fx:l! c.2.2.2.2.1=l! x.2.2.2
 wk:l! c.2.2.2.2.2=l! x.2.2.2
def Qs:∀(n:Nat) (l:η),l.Nodup->(∀z∈l,0<=z/\z<(n:Int))->l! l<=n
 |0,l,_,h=>by
  cases l with
  |nil=>exact bi _
  |cons z r=>have:=h z (cj ..);omega
 |n+1,l,hd,h=>by
  have h1:=Qs n (l.erase (n:Int)) (hd.erase _) λz q=>by
   rw[hd.mem_erase_iff]at q;have:=h z q.2;have:=q.1;omega
  by_cases hm:(n:Int)∈l
  .rw[List.length_erase_of_mem hm]at h1;omega
  .rw[List.erase_of_not_mem hm]at h1;omega
variable {k:WN}
def CI.ln {c:CF} (h:CI k c):l! c.2.2.2.1<=l! k.2.2.2:=Qs _ _ h.nd h.od
def CI.sb {c:CF} (h:CI k c) (v:VL k.1):SB 800 c.1:=
 ⟨by decide,by have:=h.l1;have:=v.l;omega,λl q=>cP (h.p8.le l q) (by decide),by have:=h.l2;have:=v.f;omega,by have:=h.l3;have:=v.t;omega⟩
def Zi (s:SY) (q:SB i s):mP s=Z s:=by
 refine bT ?_;unfold mP bg bY bV bX bI be c7 aI cL;have h1:=q.dn;have h2:=q.th;have h3:=q.lk;have h4:=q.n1;refine aU (bT (a! (aj rfl)):zI s.2.2.1=Z s.2.2.1) (aU (bT (a! (aj rfl)):zH s.2.2.2=Z s.2.2.2) ?_);refine bC (l! s.1) (λn y=>y=((n:Int),0,(s.2.1,s.2.2.1,s.2.2.2),s.1.take n)) ?_ ?_ rfl
 .rintro n y hi rfl;have A:(aw dy s.1 (n:Int)).2.length<=i:=q.rd _ (ba (T:=dy) (by omega) (by omega));refine cE (bK (aS ?_));refine aU (bT (a! (aj rfl)):xu (aw dy s.1 (n:Int)).2=Z (aw dy s.1 (n:Int)).2) ?_;refine bu (by simp only[a_,bl];omega) (by decide) (aj ?_);dsimp only;rw[fH,kA (T:=dy) hi]
 .rintro y rfl;refine cz (aj ?_);dsimp only;rw[cH]
def aam (l:η) (q:l! l<=1000):oW l=Z (l.map λz=>(z,J)):=by
 refine bT ?_;unfold oW bV bX bI be c7 aI cL;refine bZ (bZ (cK (c6 0) (cK (by dsimp only[al];omega) (bu (by dsimp only[al];omega) (by decide) ?_))));refine bC (l! l) (λi y=>y=((i:Int),(l.take i).map λz=>(z,J))) ?_ ?_ rfl
 .rintro i y hi rfl;refine cE (bK (aS (bu (by simp only[a_,bj,bl];omega) (by decide) (aj ?_))));dsimp only;rw[fH,kA (T:=aP) hi,b7];rfl
 .rintro y rfl;refine cz (aj ?_);dsimp only;rw[cH]
def st0 (x:WN):CF:=(x.2.2.1.1,x.2.2.1.2.1.map λz=>(z,J),x.2.2.1.2.2.1.map λz=>(z,J),[],aD (l! x.2.2.2) aa,aD (l! x.2.2.2) 0)
def ann (x:WN) (h:nz x):rK x=Z (st0 x):=by
 refine bT ?_;unfold rK bg bY bX be;have q:=h.ln;refine aU (Zi x.2.2.1.1 h.nb.sb) (aU (aam _ h.nb.c) (aU (aam _ h.nb.f) ?_));refine bZ (bZ (cK (by dsimp only[al];omega) (cK (c6 _) (bu (by dsimp only[al];omega) (by decide) ?_))));refine bZ (bZ (cK (by dsimp only[al];omega) (cK (c6 _) (bu (by dsimp only[al];omega) (by decide) (aj rfl)))))
def RK (h:nz k):CI k (st0 k):=
 ⟨h.p8,h.fy.1,h.fy.2.1,h.fy.2.2,by show l! (List.map _ _)=_;rw[bj];exact h.jb.c,by show l! (List.map _ _)=_;rw[bj];exact h.jb.f,λz q=>(by cases q),List.nodup_nil,by show l! (aD _ _)=_;simp,by show l! (aD _ _)=_;simp⟩
def Ig (x:WN) (c:CF) (t:Int):Bool:=(fT (x,c,t)).getD aa
def nz.ev (h:nz k) {x:Nat} (q:x<l! k.2.2.2):EvS (eN k.2.2.2 x):=ZQ h.es q
def IF (x:WN) (h:nz x) (c:CF) (D:CI x c) (t:Int):fT (x,c,t)=Z (Ig x c t)/\(Ig x c t=J->(0<=t/\t<l! x.1.2.2.2.2.1)/\∃k:Nat,k<l! x.2.2.2/\xP x c.2.2.2.1 t=(k:Int)/\(eN x.2.2.2 k).1=t/\¬(k:Int)∈c.2.2.2.1/\EN x.1 c.1 t (eN x.2.2.2 k).2.1 (eN x.2.2.2 k).2.2.1/\IE x.1 c.1 t (eN x.2.2.2 k).2.1 (eN x.2.2.2 k).2.2.1):=by
 suffices I:Ok (fT (x,c,t)) λb=>b=J->(0<=t/\t<l! x.1.2.2.2.2.1)/\∃k:Nat,k<l! x.2.2.2/\xP x c.2.2.2.1 t=(k:Int)/\(eN x.2.2.2 k).1=t/\¬(k:Int)∈c.2.2.2.1/\EN x.1 c.1 t (eN x.2.2.2 k).2.1 (eN x.2.2.2 k).2.2.1/\IE x.1 c.1 t (eN x.2.2.2 k).2.1 (eN x.2.2.2 k).2.2.1 by
  let⟨b,h1,h2⟩:=I;unfold Ig;rw[h1];exact⟨rfl,h2⟩
 unfold fT bg cS bY bV bI aI;have hl:=h.ln;have N:=D.ln;refine aU (Og x c t (by omega) (by omega)) ?_;rcases Sd x c.2.2.2.1 t with e|⟨ht,k,A,e,e1,e2⟩
 .rw[e];exact bG (λ_=>aj λh=>by cases h) λh=>bc h (by decide)
 rw[e];refine bG (λh=>bc h (by omega)) λ_=>bK (aS ?_)
 refine aW (λb=>b=J->EN x.1 c.1 t (eN x.2.2.2 k).2.1 (eN x.2.2.2 k).2.2.1/\IE x.1 c.1 t (eN x.2.2.2 k).2.1 (eN x.2.2.2 k).2.2.1) ?_ λb q=>aj λh=>⟨ht,k,A,rfl,e1,e2,q h⟩
 refine au (J5 x.1 c.1 (D.sb h.vl) (by decide) (by have:=h.vl.d;omega) t _ _) λb q=>aR (λh1=>?_) λ_=>aj nofun
 exact aU (T8 x c t _ (by omega) (h.ev A).1) (aj λ_=>q h1)
def eqV (a b:c?):Bool:=OG (.pr aP (.pr .bool .un)) (a.1,a.2,()) (b.1,b.2,()) !=aa
def mvE (x:WN) (c:CF) (i:Int) (e:ET) (t u:Int):CF:=
 ((qD x.1 c.1 t e.2.1 e.2.2.1 u).1,
   if e.2.1=4 then ca c.2.1 e.2.2.1 (if MO x c.2.2.2.2.1 t e.2.2.2.2.2.2=J then (e.2.2.2.1,J) else (0,aa)) else c.2.1,
   if e.2.1=22 then ca c.2.2.1 e.2.2.1 (if MO x c.2.2.2.2.1 t e.2.2.2.2.2.2=J then (e.2.2.2.1,J) else (0,aa)) else c.2.2.1,
   c.2.2.2.1++[i],
   if e.2.1=3 then ca c.2.2.2.2.1 i (eqV (aw Bn c.2.1 e.2.2.1) (e.2.2.2.1,J)) else if e.2.1=23 then ca c.2.2.2.2.1 i (eqV (aw Bn c.2.2.1 e.2.2.1) (e.2.2.2.1,J)) else c.2.2.2.2.1,
   if e.2.1=18 then (if 0<=(qD x.1 c.1 t e.2.1 e.2.2.1 u).2 then ca c.2.2.2.2.2 i 1 else c.2.2.2.2.2) else if e.2.1=19 then ca c.2.2.2.2.2 i (qD x.1 c.1 t e.2.1 e.2.2.1 u).2 else c.2.2.2.2.2)
def sD (x:WN) (c:CF) (t u:Int):CF:=mvE x c (xP x c.2.2.2.1 t) (aw gm x.2.2.2 (xP x c.2.2.2.1 t)) t u
def cf0:CF:=(([],0,[],[]),[],[],[],[],[])
def ar4 (x:WN) (c:CF) (q:CI x c):uc (x,c)=Z J:=by
 refine bT ?_;unfold uc bg bA cS bY gz bq be aI;have h1:=q.ce;have h2:=q.fu;have h3:=q.fx;have h4:=q.wk;refine aW (λb=>b=J) ?_ λb A=>aj A
 exact aG (λ_=>aG (λ_=>aG (λ_=>aj (aO (by dsimp only[al];omega))) λh=>bc (by dsimp only[al];omega) h) λh=>bc (by dsimp only[al];omega) h) λh=>bc (by dsimp only[al];omega) h
def E6.two {w:WT} (h:w.2.1=E6) (h0:0<=a) (h1:a<l! w.2.1) (h2:(aw sk w.2.1 a).2=J):a=2:=by
 rw[h]at h1 h2;have h1:a<3:=h1;rcases show a=0\/a=1\/a=2 by omega with rfl|rfl|rfl
 .exact bc h2 (by decide)
 .exact bc h2 (by decide)
 .rfl
def aoi (h:nz k) {c:CF} (q:CI k c) {x o:Int} (u:Int) (he:EN k.1 c.1 a x o) (A:IE k.1 c.1 a x o):lB (k.1,c.1,a,x,o,u)=Z ((qD k.1 c.1 a x o u).1,(qD k.1 c.1 a x o u).2,J):=by
 refine ZS k.1 c.1 (q.sb h.vl) (by decide) (by have:=h.vl.d;omega) a x o u he A (λD=>?_) (by rw[q.l1,h.lk];rfl) q.p8 (by have:=he.t1;have:=h.vl.t;omega);have:=he.nm.lk (by omega);exact E6.two h.lk this.1 this.2 (he.nm.rw (by omega))
def aif (l:θ) (h:l! l<=100000):xZ l=Z l:=bT (a! (aj rfl))
def Xd (l:Y c?) (h:l! l<=100000):BB l=Z l:=bT (a! (aj rfl))
def aie (l:η) (h:l! l<=100000):p_ l=Z l:=bT (a! (aj rfl))
def arz (x:WN) (h:nz x) (c:CF) (A:CI x c) (t u:Int):ud (x,c,t,u)=Z (if Ig x c t=J then (sD x c t u,J) else (cf0,aa)):=by
 refine bT ?_;unfold ud bg bA bQ cS ji RA Prod.p8 bY dt dv gz tb Rz Prod.o ck bq jr bX bI be aI;let⟨e1,e2⟩:=IF x h c A t;refine aW (λz=>z=(!Ig x c t,x,c,(t,u),0)) ?_ ?_
 .exact aU (ar4 x c A) (fJ rfl (aU e1 (aj rfl)))
 rintro z rfl;refine dc (λh=>aj (by rw[h];rfl)) λhb=>?_
 rw[aK hb];let⟨ht,k,hk,g1,g2,g3,g4,g5⟩:=e2 hb;have hl:=h.ln;have hlo:=A.ln;have hv:=h.vl;have v1:=hv.c;have v2:=hv.f;have l1:=A.ce;have l2:=A.fu;have l3:=A.fx;have l4:=A.wk;refine aU (Og x c t (by omega) (by omega)) ?_;unfold sD;rw[g1];refine bK (aS (aU (aoi h A u g4 g5) (fJ rfl ?_)));have hev:=h.ev hk;have hnm:=g4.nm;generalize hE:eN x.2.2.2 k=e at hev hnm g2 g4 g5;have hE:aw gm x.2.2.2 (k:Int)=e:=hE;rw[hE];obtain⟨⟨⟨s1,s2,s3,s4⟩,an⟩,hA⟩:∃y,qD x.1 c.1 t e.2.1 e.2.2.1 u=y:=⟨_,rfl⟩
 refine aW (λz=>z=(x,c,(t,u),0,e,(s1,s2,s3,s4,c.2.2.2.1++[(k:Int)]),c.2.1,c.2.2.1,c.2.2.2.2.1,c.2.2.2.2.2)) ?_ ?_
 .refine aU (Xd c.2.1 (by omega)) (aU (Xd c.2.2.1 (by omega)) ?_);refine bZ (bZ (R9 rfl (cK (by dsimp only[al];omega) (cK (c6 _) ?_))));have ht:cu (aN (aY (l! c.2.2.2.1))) c.2.2.2.1=c.2.2.2.1:=cH;rw[ht];refine bu (by simp only[a_];omega) (by decide) (fJ rfl ?_);exact aU (aif c.2.2.2.2.1 (by omega)) (aU (aie c.2.2.2.2.2 (by omega)) (aj (by dsimp only;rw[hA])))
 rintro z rfl;refine aW (λz=>z=(c,0,e,(s1,s2,s3,s4,c.2.2.2.1++[(k:Int)]),(e.2.2.2.1,J),(if MO x c.2.2.2.2.1 t e.2.2.2.2.2.2=J then (e.2.2.2.1,J) else (0,aa)),c.2.1,c.2.2.1,c.2.2.2.2.1,c.2.2.2.2.2)) ?_ ?_
 .refine aU (T8 x c t _ (by omega) hev.2) ?_;exact aR (λh=>aj (by rw[aK h])) λh=>aj (by rw[ay (by rw[h];decide)])
 rintro z rfl;generalize hfv:(if MO x c.2.2.2.2.1 t e.2.2.2.2.2.2=J then ((e.2.2.2.1,J):c?) else (0,aa))=fv;let⟨et,I,D,ev,es,ed,ef⟩:=e;dsimp only at hnm hA hE g2 g4 g5 hev hfv;have hce:=hnm.ce;have hfu:=hnm.fu;refine aW (λz=>z=((0:Int),(s1,s2,s3,s4,c.2.2.2.1++[(k:Int)]),(if I=4 then ca c.2.1 D fv else c.2.1),(if I=22 then ca c.2.2.1 D fv else c.2.2.1),(if I=3 then ca c.2.2.2.2.1 (k:Int) (eqV (aw Bn c.2.1 D) (ev,J)) else if I=23 then ca c.2.2.2.2.1 (k:Int) (eqV (aw Bn c.2.2.1 D) (ev,J)) else c.2.2.2.2.1),(if I=18 then (if 0<=an then ca c.2.2.2.2.2 (k:Int) 1 else c.2.2.2.2.2) else if I=19 then ca c.2.2.2.2.2 (k:Int) an else c.2.2.2.2.2))) ?_ ?_
 .refine aG (λq=>?_) λq3=>aG (λq=>?_) λN=>aG (λq=>?_) λq4=>aG (λq=>?_) λq22=>aG (λq=>?_) λq18=>aG (λq=>?_) λq19=>?_
  .dsimp only at q;subst q;have:=hce (by decide);exact bK (aS (bK (bK (aj rfl))))
  .dsimp only at q;subst q;have:=hfu (by decide);exact bK (aS (bK (bK (aj rfl))))
  .dsimp only at q;subst q;have:=hce (by decide);exact bK (bK (aj rfl))
  .dsimp only at q;subst q;have:=hfu (by decide);exact bK (bK (aj rfl))
  .dsimp only at q;subst q;have ga:(qD x.1 c.1 t 18 D u).2=an:=by rw[hA]
   refine dB (λg=>bK (bK (aj ?_))) λg=>aj ?_
   .have g:0<=(qD x.1 c.1 t 18 D u).2:=g;rw[ga]at g;simp[g]
   .have g:(qD x.1 c.1 t 18 D u).2<0:=g;rw[ga]at g;simp[Int.not_le.2 g]
  .dsimp only at q;subst q;have ga:(qD x.1 c.1 t 19 D u).2=an:=by rw[hA]
   exact bK (bK (aj (by rw[<- ga];rfl)))
  .dsimp only at q3 N q4 q22 q18 q19;exact aj (by simp[q3,N,q4,q22,q18,q19])
 rintro z rfl;refine aj ?_;unfold mvE;dsimp only;rw[hA,hfv]
def IZ (h:nz k) {c:CF} (q:CI k c) (u:Int) (he:Ig k c a=J):CI k (sD k c a u):=by
 let⟨ht,x,hk,g1,g2,g3,g4,g5⟩:=(IF k h c q a).2 he;have I:=h.vl;have N:=I.t;unfold sD;rw[g1];let⟨l1,l2,l3⟩:=L3.ap k.1 c.1 a (eN k.2.2.2 x).2.1 (eN k.2.2.2 x).2.2.1 u;refine ⟨q.p8.ap _ _ _ ht.1 (by omega),l1.trans q.l1,l2.trans q.l2,l3.trans q.l3,?_,?_,λz A=>?_,?_,?_,?_⟩
 .refine Eq.trans ?_ q.ce;unfold mvE;dsimp only;split
  .exact bM ..
  .rfl
 .refine Eq.trans ?_ q.fu;unfold mvE;dsimp only;split
  .exact bM ..
  .rfl
 .rcases bt.1 A with A|A
  .exact q.od z A
  .rw[aE]at A;omega
 .show (c.2.2.2.1++[(x:Int)]).Nodup;rw[List.nodup_append];exact⟨q.nd,by simp,λt ha b D=>by rw[aE]at D;subst D;exact λe=>g3 (e▸ha)⟩
 .refine Eq.trans ?_ q.fx;unfold mvE;dsimp only;split
  .exact bM ..
  .split
   .exact bM ..
   .rfl
 .refine Eq.trans ?_ q.wk;unfold mvE;dsimp only;split
  .split
   .exact bM ..
   .rfl
  .split
   .exact bM ..
   .rfl
def qI {c:CF} {u:Int}:(sD k c a u).2.2.2.1=c.2.2.2.1++[xP k c.2.2.2.1 a]:=rfl
def P_ (c:CF) (e:ET) (n:Nat):η:=if e.2.1=18 then wl c.1.2.2.2 e.2.2.1 n else []
def chE (c:CF) (e:ET) (t:Int):Y ν:=if (l! (P_ c e (l! c.1.2.2.2)))=0 then [(t,-1)] else (P_ c e (l! c.1.2.2.2)).map λj=>(t,j)
def chT (x:WN) (c:CF) (t:Int):Y ν:=if Ig x c t=J then chE c (aw gm x.2.2.2 (xP x c.2.2.2.1 t)) t else []
def chN (x:WN) (c:CF):Nat->Y ν
 |0=>[]
 |t+1=>chN x c t++chT x c (t:Int)
def K4 (c:CF) (e:ET) (n:Nat):l! (P_ c e n)<=n:=by
 unfold P_;split
 .exact ux ..
 .exact dU _
def amz (c:CF) (e:ET) (t:Int):l! (chE c e t)<=l! c.1.2.2.2+1:=by
 have:=K4 c e (l! c.1.2.2.2);unfold chE;split
 .simp
 .rw[bj];omega
def abl (x:WN) (c:CF) (b:Nat) (q:l! c.1.2.2.2<=b):∀n,l! (chN x c n)<=n*(b+1)
 |0=>dU _
 |n+1=>by
  have h1:=abl x c b q n;rw[chN,aF,jl];have:l! (chT x c (n:Int))<=b+1:=by
   unfold chT;split
   .have:=amz c (aw gm x.2.2.2 (xP x c.2.2.2.1 (n:Int))) (n:Int);omega
   .exact dU _
  omega
def aea (x:WN) (h:nz x) (c:CF) (D:CI x c):mM (x,c)=Z (chN x c (l! x.1.2.2.2.2.1)):=by
 refine bT ?_;unfold mM bg bA bQ cS ji bY dt bq bV bX bI be c7 aI cL;have hl:=h.ln;have hlo:=D.ln;have ht4:=h.vl.t;have hth:=D.l3;refine bC (l! x.1.2.2.2.2.1) (λi y=>y=((i:Int),x,c,chN x c i)) ?_ ?_ rfl
 .rintro t y hi rfl;have hcl:=abl x c 4 (by omega) t;refine cE (aW (λz=>z=(x,c,chN x c (t+1))) ?_ ?_)
  .obtain⟨e1,e2⟩:=IF x h c D (t:Int);refine aU e1 (dc (λA=>aj ?_) λA=>?_)
   .rw[chN,chT,ay (by rw[A];decide),cJ]
   rw[chN,chT,aK A];let⟨ht,k,hk,g1,g2,g3,g4,g5⟩:=e2 A;refine aU (Og x c (t:Int) (by omega) (by omega)) ?_;rw[g1];refine bK (aS ?_);generalize aw gm x.2.2.2 (k:Int)=e;refine bC (l! c.1.2.2.2) (λj y=>y=((!decide (l! (P_ c e j)=0),(j:Int)),x,c,chN x c t++(P_ c e j).map λj=>((t:Int),j),e)) ?_ ?_ ?_
   .rintro j y hj rfl;have hwl:=K4 c e j;refine cE (aW (λz=>z=(!decide (l! (P_ c e (j+1))=0),x,c,chN x c t++(P_ c e (j+1)).map λj=>((t:Int),j),e)) ?_ ?_)
    .refine bK (aS ?_);have hws:P_ c e (j+1)=if e.2.1=18/\(aw gU c.1.2.2.2 (j:Int)).1=3/\(aw gU c.1.2.2.2 (j:Int)).2.1=e.2.2.1 then P_ c e j++[(j:Int)] else P_ c e j:=by
      unfold P_;by_cases q:e.2.1=18
      .rw[aK q,aK q,Fa];unfold P9;by_cases q1:(aw gU c.1.2.2.2 (j:Int)).1=3<;>by_cases q2:(aw gU c.1.2.2.2 (j:Int)).2.1=e.2.2.1<;>simp[q,q1,q2]
      .rw[ay q,ay q,ay (λa=>q a.1)]
     refine aW (λz=>z=(decide (e.2.1=18/\(aw gU c.1.2.2.2 (j:Int)).1=3/\(aw gU c.1.2.2.2 (j:Int)).2.1=e.2.2.1),x,c,chN x c t++(P_ c e j).map λj=>((t:Int),j),e)) ?_ ?_
     .refine aG (λq=>aG (λq1=>aj ?_) λq1=>aj ?_) λq=>aj ?_
      .have q:e.2.1=18:=q;have q1:(aw gU c.1.2.2.2 (j:Int)).1=3:=q1;dsimp only;simp[q,q1]
      .have q1:¬(aw gU c.1.2.2.2 (j:Int)).1=3:=q1;dsimp only;simp[q1]
      .have q:¬e.2.1=18:=q;dsimp only;simp[q]
     rintro z rfl;refine aG (λq=>?_) λq=>aj ?_
     .refine bu (by simp only[a_,aF,bj];omega) (by decide) (aj ?_);dsimp only;rw[hws,aK q,b7,bm];simp
     .dsimp only;rw[hws,ay q]
    .rintro z rfl;refine aj ?_;dsimp only;rw[fH]
   .rintro y rfl;have hwl:=K4 c e (l! c.1.2.2.2);refine cz (au (P:=λz:((Int×WN×CF×Y ν)⊕Y ν)⊕(WN×CF×Y ν)=>z=bU (x,c,chN x c t++chE c e (t:Int))) ?_ λz N=>aj (by rw[N]));unfold chE;refine dc (λq=>?_) λq=>aj ?_
    .have q:l! (P_ c e (l! c.1.2.2.2))=0:=by simpa using q
     have I:P_ c e (l! c.1.2.2.2)=[]:=List.eq_nil_of_length_eq_zero q;refine bu (by simp only[a_,aF,bj];omega) (by decide) (aj ?_);dsimp only;rw[aK q,I];simp
    .have q:¬l! (P_ c e (l! c.1.2.2.2))=0:=by simpa using q
     rw[ay q]
   .have:P_ c e 0=[]:=by unfold P_;split<;>rfl
    dsimp only;rw[this];simp
  .rintro z rfl;refine aj ?_;dsimp only;rw[fH]
 .rintro y rfl;exact cz (aj rfl)
def ze (x:WN):Nat->Y SY
 |0=>[]
 |i+1=>ze x i++[(nD x.1 x.2.2.1 x.2.2.2 i).1]
def wH (x:WN):∀n,l! (ze x n)=n
 |0=>rfl
 |n+1=>by rw[ze,aF,wH x n];rfl
def D9 (x:WN) {i:Nat}:∀{n:Nat},i<n->aw pE (ze x n) (i:Int)=(nD x.1 x.2.2.1 x.2.2.2 i).1
 |0,h=>bc h (dp _)
 |n+1,h=>by
  rcases bF i n with g|g
  .rw[<- D9 x g];unfold aw;rw[aA,aA];congr 1;show (ze x n++[_])[i]? =_;rw[cU (by rw[wH];exact g)];rfl
  .have:i=n:=by omega
   subst this;unfold aw;rw[aA];show ((ze x i++[_])[i]?).getD _=_;rw[cB (by rw[wH];exact bi _),wH,CE];rfl
def nz.nbi (h:nz k) (hi:i<=l! k.2.2.2):NB 816 (nD k.1 k.2.2.1 k.2.2.2 i):=
 (h.ch.nb h.nb (by have:=h.vl.d;omega) h.es (by have:=h.ln;omega) i hi).mono (by have:=h.ln;omega)
def nz.eni (h:nz k) (hi:i<l! k.2.2.2):EN k.1 (nD k.1 k.2.2.1 k.2.2.2 i).1 (eN k.2.2.2 i).1 (eN k.2.2.2 i).2.1 (eN k.2.2.2 i).2.2.1:=(h.ch i hi).en
def aeg (x:WN) (h:nz x):pN x=Z ((x,ze x (l! x.2.2.2)),J):=by
 refine bT ?_;unfold pN Prod.n Prod.q Prod.p Prod.t Prod.v Prod.w Prod.y bg bA bQ cS ji RA Prod.p8 Prod.m Prod.z Prod.G bY dv gz bq bV bX bI be c7 aI cL;have I:=h.ln;have ht:=h.vl.t;let⟨w,f,s,l⟩:=x;dsimp only at I ht;refine aW (λz=>z=(aa,(w,f,s,l),(0,0),w.1,w.2.1,w.2.2.1,w.2.2.2.1,w.2.2.2.2.1,w.2.2.2.2.2,f,s.1.1,s.1.2.1,s.1.2.2.1,s.1.2.2.2,s.2.1,s.2.2.1,s.2.2.2,l)) ?_ ?_
 .refine cz (aj ?_);dsimp only[al];rw[g8.2 (by omega)]
 rintro z rfl;refine fJ rfl ?_;refine bC (l! l) (λi y=>y=((i:Int),(w,f,s,l),(0,0),(w.1,w.2.1,w.2.2.1,w.2.2.2.1,w.2.2.2.2.1,w.2.2.2.2.2,f,s.1.1,s.1.2.1,s.1.2.2.1,s.1.2.2.2,s.2.1,s.2.2.1,s.2.2.2,l),(nD w s l i).1,ze (w,f,s,l) i)) ?_ ?_ rfl
 .rintro i y hi rfl;refine cE (bK (aS ?_));have hsl:=wH (w,f,s,l) i;refine bu (by simp only[a_];omega) (by decide) ?_;have g:=h.ch i hi;have D:=h.nbi (eZ hi);dsimp only at D g;generalize A:(if (eN l i).2.1=18 then (eN l i).2.2.2.1 else -1)=u;refine aW (λz=>z=(u,(w,f,s,l),(0,0),(w.1,w.2.1,w.2.2.1,w.2.2.2.1,w.2.2.2.2.1,w.2.2.2.2.2,f,s.1.1,s.1.2.1,s.1.2.2.1,s.1.2.2.2,s.2.1,s.2.2.1,s.2.2.2,l),(nD w s l i).1,eN l i,ze (w,f,s,l) (i+1))) ?_ ?_
  .refine aG (λq=>aj ?_) λq=>aj ?_
   .rw[<- A,aK q];rfl
   .rw[<- A,ay q];rfl
  rintro z rfl;have hp:=h.ch.p8 h.p8 h.vl i (eZ hi);dsimp only at hp;have e3:(nD w s l i).1.1.length=3:=g.en.e1.trans (by rw[h.lk];rfl);have hap:=ZS w (nD w s l i).1 D.sb (by decide) (by have:=h.vl.d;dsimp only at this;omega) (eN l i).1 (eN l i).2.1 (eN l i).2.2.1 u g.en g.s16.rd (λN=>by
   have:=g.en.nm.lk (by omega);exact E6.two h.lk this.1 this.2 (g.en.nm.rw (by omega))) e3 hp (by have:=g.en.t1;omega)
  refine aU hap (fJ rfl (aj ?_));dsimp only;rw[fH,Dy w s hi];have:(qD w (nD w s l i).1 (eN l i).1 (eN l i).2.1 (eN l i).2.2.1 u).1=(Uc w (nD w s l i) (eN l i)).1:=by
   unfold Uc;by_cases q:(eN l i).2.1=18
   .rw[<- A,aK q]
   .rw[Rm w _ _ _ _ u (eN l i).2.2.2.1 q]
  rw[this]
 .rintro y rfl;exact cz (aj rfl)
def Fb (y:WN×Y SY) (ns:η) (D:l! ns<=1000):Ok (eR (y,ns)) λb=>b=J↔∀z∈ns,0<=z/\z<l! y.1.2.2.2:=by
 unfold eR bY bV bI be c7 aI cL;refine bC (l! ns) (λi z=>z=((i:Int),y)/\∀k:Nat,k<i->0<=aw aP ns (k:Int)/\aw aP ns (k:Int)<l! y.1.2.2.2) ?_ ?_ ⟨rfl,λj A=>bc A (dp _)⟩
 .rintro i z hi ⟨rfl,hp⟩;refine cE (bK (aS (aW (λz=>z.2=y/\(z.1=aa↔0<=aw aP ns (i:Int)/\aw aP ns (i:Int)<l! y.1.2.2.2)) ?_ ?_)))
  .refine bG (λh=>aj ⟨rfl,⟨nofun,λg=>bc g.1 (Int.not_le.2 h)⟩⟩) λh=>aj ⟨rfl,?_⟩
   dsimp only[al];rw[gq];exact⟨λg=>⟨h,g⟩,λg=>g.2⟩
  .rintro⟨b,z⟩ ⟨e,q⟩;dsimp only at e q;subst e;refine aR (λh=>aj ⟨nofun,λg=>?_⟩) λh=>aj ⟨?_,λk I=>?_⟩
   .have h:b=J:=h;have:=q.2 (g _ (ba (T:=aP) (by omega) (by omega)));rw[h]at this;cases this
   .dsimp only;rw[fH]
   .rcases bF k i with g|g
    .exact hp k g
    .rw[show k=i by omega];exact q.1 h
 .rintro z ⟨rfl,hp⟩;exact cz (aj ⟨λ_=>fI (T:=aP) (p:=λz:Int=>0<=z/\z<l! y.1.2.2.2) hp,λ_=>rfl⟩)
def acB (e:ET):Bool:=decide (e.2.1=3)||decide (e.2.1=4)
def cfB (a b:ET):Bool:=acB a&&acB b&&decide (a.2.2.1=b.2.2.1)&&(decide (a.2.1=4)||decide (b.2.1=4))
def Oa (e:ET):o7 e=Z (acB e):=by
 refine bT ?_;unfold o7 acB bq aI;exact aW (λb=>b=(decide (e.2.1=3)||decide (e.2.1=4))) (aG (λh=>aj (by rw[aO h];rfl)) λh=>aj (by rw[bp h];rfl)) λb q=>aj q
def EG (y:WN×Y SY) (a b:Int) (D:0<=a/\a<l! y.1.2.2.2) (A:0<=b/\b<l! y.1.2.2.2):eV (y,a,b)=Z (cfB (aw gm y.1.2.2.2 a) (aw gm y.1.2.2.2 b)):=by
 refine bT ?_;unfold eV bg bY bq bI aI;refine aQ D.1 D.2 (aS (aQ A.1 A.2 (aS ?_)));generalize aw gm y.1.2.2.2 a=e;generalize aw gm y.1.2.2.2 b=e';refine aW (λz=>z=cfB e e') ?_ λz I=>aj I
 unfold cfB;refine aU (Oa e) (aR (λh=>aU (Oa e') (aR (λh'=>?_) λh'=>aj (by rw[h,h'];rfl))) λh=>aj (by rw[h];rfl));rw[h,h'];refine aG (λq=>?_) λq=>aj (by rw[bp q];rfl)
 rw[aO q];exact aG (λp=>aj (by rw[aO p];rfl)) λp=>aj (by rw[bp p];rfl)
def UH (w:WT) (n:Nat) (ev:Int->ET) (a b:Int):Prop:=
 (0<=a/\a<n)/\(0<=b/\b<n)/\a<b/\cfB (ev a) (ev b)=J/\¬(ev a).1=(ev b).1/\(aw mb w.1 (ev a).2.2.1).2.2.2.1=aa
def Lz {b:Int}:(∀z∈[a,b],0<=z/\z<(i:Int))↔(0<=a/\a<i)/\(0<=b/\b<i):=
 ⟨λh=>⟨h a (by simp),h b (by simp)⟩,λh z q=>by
   rcases bk.1 q with rfl|q
   .exact h.1
   .rw[aE]at q;subst q;exact h.2⟩
def nz.at (h:nz k) (q:0<=a/\a<l! k.2.2.2):∃i:Nat,a=i/\i<l! k.2.2.2:=⟨a.toNat,by omega,by omega⟩
def aqe (x:WN) (h:nz x) (S:Y SY) (a b:Int):Ok (kf ((x,S),a,b)) λr=>r=J↔UH x.1 (l! x.2.2.2) (aw gm x.2.2.2) a b:=by
 unfold kf UH bg bY jr gV bI aI;have no:∀{p:Prop},¬p->((aa:Bool)=J↔p):=λh=>⟨nofun,λg=>bc g h⟩
 refine aW (λz=>z.2=(x,S)/\(z.1=aa↔((0<=a/\a<l! x.2.2.2)/\(0<=b/\b<l! x.2.2.2))/\a<b/\cfB (aw gm x.2.2.2 a) (aw gm x.2.2.2 b)=J)) ?_ ?_
 .refine au (Fb (x,S) [a,b] (by simp)) λr A=>?_
  rw[Lz]at A;refine dc (λq=>aj ⟨rfl,nofun,λg=>?_⟩) λq=>?_
  .rw[A.2 g.1]at q;cases q
  have N:=A.1 q;refine dB (λq=>aj ⟨rfl,nofun,λg=>?_⟩) λq=>?_
  .have:=g.2.1;dsimp only at q;omega
  refine aU (EG (x,S) a b N.1 N.2) (aj ⟨rfl,?_⟩);dsimp only;rw[iB];exact⟨λg=>⟨N,q,g⟩,λg=>g.2.2⟩
 rintro⟨r,z⟩ ⟨e,A⟩;dsimp only at e A;subst e;refine aR (λq=>aj (no λg=>?_)) λq=>?_
 .have q:r=J:=q;rw[A.2 ⟨⟨g.1,g.2.1⟩,g.2.2.1,g.2.2.2.1⟩]at q;cases q
 let⟨⟨I,hb⟩,hab,D⟩:=A.1 q;refine aQ I.1 I.2 (aS (aQ hb.1 hb.2 (aS ?_)));refine aW (λz=>z=J↔¬(aw gm x.2.2.2 a).1=(aw gm x.2.2.2 b).1/\(aw mb x.1.1 (aw gm x.2.2.2 a).2.2.1).2.2.2.1=aa) ?_ ?_
 .obtain⟨i,rfl,hi⟩:=h.at I;have hce:=(h.eni hi).nm.ce (by
   have:acB (eN x.2.2.2 i)=J:=by
    unfold cfB at D;rw[ak,ak,ak]at D;exact D.1.1.1
   unfold acB at this;rw[eu,decide_eq_true_iff,decide_eq_true_iff]at this;exact this)
  refine bw (λq=>aQ hce.1 hce.2 (aS (aj ?_))) λq=>aj (no λg=>g.1 q)
  dsimp only;rw[dE];exact⟨λg=>⟨q,g⟩,λg=>g.2⟩
 rintro z hz;exact aj ⟨λg=>⟨I,hb,hab,D,hz.1 g⟩,λg=>hz.2 g.2.2.2.2⟩
def iX {p:Prop} (h:¬p):((aa:Bool)=J↔p):=⟨nofun,λg=>bc g h⟩
def wtK (k:Int):Bool:=decide (k=6\/k=8\/k=10\/k=17\/k=21)
def akk (k:Int):uf k=Z (wtK k):=by
 refine bT ?_;unfold uf wtK bq aI;refine aW (λb=>b=decide (k=6\/k=8\/k=10\/k=17\/k=21)) ?_ λb D=>aR (λh=>aj (by rw[<- D];exact h.symm)) λh=>aj (by rw[<- D];exact h.symm)
 refine aG (λh=>aj (by simp[h])) λN=>aG (λh=>aj (by simp[h])) λI=>aG (λh=>aj (by simp[h])) λA=>aG (λh=>aj (by simp[h])) λq=>aj (by simp[N,I,A,q])
def aee (w:WT) (s:SY) (A q:ET):Bool:=
 !decide (q.1=A.1)&&(wtK A.2.1&&(if q.2.1=6\/q.2.1=10 then decide ((aw dy s.1 q.2.2.1).1=A.1)||(aw dy s.1 q.2.2.1).2.contains A.1
  else if q.2.1=8 then decide ((aw dy s.1 q.2.2.1).1=A.1)
  else if q.2.1=17 then decide ((aw dy s.1 (aw itK w.2.2.1 q.2.2.1).2).1=A.1)
  else if q.2.1=21 then decide (q.2.2.1=A.1) else aa))
def aj0 (x:WN) (h:nz x) (i j:Nat) (hi:i<l! x.2.2.2) (hj:j<l! x.2.2.2):iS ((x,ze x (l! x.2.2.2)),(i:Int),(j:Int))=Z (aee x.1 (nD x.1 x.2.2.1 x.2.2.2 i).1 (eN x.2.2.2 i) (eN x.2.2.2 j)):=by
 refine bT ?_;unfold iS bg bA bY bq bI c7 aI;refine bK (aS (bK (aS ?_)));have g:=h.eni hi;have g2:=h.eni hj;have I:=D9 x hi;have hsl:=wH x (l! x.2.2.2);have hn:=h.nbi (eZ hi);have hen:∀e:ET,e=eN x.2.2.2 j->EN x.1 (nD x.1 x.2.2.1 x.2.2.2 j).1 e.1 e.2.1 e.2.2.1:=λe he=>by rw[he];exact g2
 generalize hS:ze x (l! x.2.2.2)=S at I hsl ⊢;generalize hsy:(nD x.1 x.2.2.1 x.2.2.2 i).1=sy at I g ⊢;have hsb:SB 816 sy:=by rw[<- hsy];exact hn.sb
 show Ok _ (·=aee x.1 sy (aw gm x.2.2.2 (i:Int)) (aw gm x.2.2.2 (j:Int)));generalize aw gm x.2.2.2 (i:Int)=D
 replace hen:=hen (aw gm x.2.2.2 (j:Int)) rfl
 generalize aw gm x.2.2.2 (j:Int)=A at hen ⊢;have hnm:=hen.nm;refine aW (λz=>z=(!(!decide (A.1=D.1)&&wtK D.2.1),(x,S),A,D)) ?_ ?_
 .refine aG (λq=>aj (by rw[aO q];rfl)) λq=>aU (akk _) (aj (by rw[bp q];rfl))
 rintro z rfl;unfold aee;rw[<- Bool.and_assoc];refine dc (λq=>aj (by rw[q];rfl)) λq=>?_
 rw[q,cD];have lkr:6<=A.2.1/\A.2.1<=11->0<=A.2.2.1/\A.2.2.1<l! sy.1:=λa=>by have:=hnm.lk a;rw[g.e1];exact this
 refine aW (λz=>∃o fl,z=((o,fl),(x,S),D)/\(0<=o/\o<l! sy.1)/\(if A.2.1=6\/A.2.1=10 then decide ((aw dy sy.1 A.2.2.1).1=D.1)||(aw dy sy.1 A.2.2.1).2.contains D.1
  else if A.2.1=8 then decide ((aw dy sy.1 A.2.2.1).1=D.1)
  else if A.2.1=17 then decide ((aw dy sy.1 (aw itK x.1.2.2.1 A.2.2.1).2).1=D.1)
  else if A.2.1=21 then decide (A.2.2.1=D.1) else aa)=(decide ((aw dy sy.1 o).1=D.1)||fl&&(aw dy sy.1 o).2.contains D.1)) ?_ ?_
 .refine aW (λz=>z=(decide (A.2.1=6\/A.2.1=10),(x,S),A,D)) (aG (λp=>aj (by have p:A.2.1=6:=p;simp[p])) λp=>aj (by have p:¬A.2.1=6:=p;simp[p])) ?_;rintro z rfl;refine aG (λp=>aj ⟨_,J,rfl,lkr (by rcases p with p|p<;>rw[p]<;>decide),?_⟩) λp=>?_
  .rw[aK p,cD]
  rw[ay p];refine aG (λp=>aj ⟨_,aa,rfl,lkr (by have p:A.2.1=8:=p;rw[p];decide),?_⟩) λp=>?_
  .rw[aK p,fY,Bool.or_false]
  rw[ay p];refine aG (λp=>?_) λp=>?_
  .have c1:=hnm.cd (by have p:A.2.1=17:=p;rw[p];decide);refine aQ c1.1 c1.2 (aS (aj ⟨_,aa,rfl,?_,?_⟩))
   .have:=hen.cd _ (ba (T:=itK) c1.1 c1.2);rw[g.e1];exact this
   .rw[aK p,fY,Bool.or_false]
  rw[ay p];exact aG (λp=>aj (by rw[aK p])) λp=>aj (by rw[ay p])
 rintro z ⟨o,fl,rfl,N,e⟩;rw[e];refine bK (aS ?_);have I:aw pE S (i:Int)=sy:=I;show Ok (chk (ij o (aw pE S (i:Int)).1.length) λ_=>_) _;dsimp only;rw[I];have hr:(aw dy sy.1 o).2.length<=816:=hsb.rd _ (ba (T:=dy) N.1 N.2);refine aQ N.1 N.2 (aS ?_);refine aW (λz=>z=(decide ((aw dy sy.1 o).1=D.1)||fl&&(aw dy sy.1 o).2.contains D.1)) ?_ λz hz=>aj hz
 refine aG (λq=>aj (by have q:(aw dy sy.1 o).1=D.1:=q;rw[aO q];rfl)) λq=>?_
 have q:¬(aw dy sy.1 o).1=D.1:=q;rw[bp q,nU];refine aR (λp=>aU (mi _ _ (by omega)) (aj ?_)) λp=>aj ?_
 .have p:fl=J:=p;rw[p,cD]
 .have p:fl=aa:=p;rw[p];rfl
def arb (w:WT) (n:Nat) (ev:Int->ET) (sy:Int->SY) (ns:η):Prop:=
 2<=l! ns/\l! ns<=4/\(∀z∈ns,0<=z/\z<(n:Int))/\∀i:Nat,i<l! ns->aw aP ns 0<=aw aP ns (i:Int)/\aee w (sy (aw aP ns (cC ((i+1:Nat):Int) (l! ns:Int)))) (ev (aw aP ns (cC ((i+1:Nat):Int) (l! ns:Int)))) (ev (aw aP ns (i:Int)))=J/\∀j:Nat,j<i->¬(ev (aw aP ns (i:Int))).1=(ev (aw aP ns (j:Int))).1
def RF (i:Nat) {n:Nat} (h:0<n):0<=cC ((i+1:Nat):Int) (n:Int)/\cC ((i+1:Nat):Int) (n:Int)<n:=by
 rw[kM (by omega)];exact⟨Int.emod_nonneg _ (by omega),Oy _ (by omega)⟩
def amo (x:WN) (h:nz x) (ns:η):Ok (jM ((x,ze x (l! x.2.2.2)),ns)) λr=>r=J↔arb x.1 (l! x.2.2.2) (aw gm x.2.2.2) (aw pE (ze x (l! x.2.2.2))) ns:=by
 unfold jM bY bq bV bX bI be c7 aI cL;have hl:=h.ln;generalize hS:ze x (l! x.2.2.2)=S;refine aW (λz=>z.2=(x,S)/\(z.1=aa↔2<=l! ns/\l! ns<=4/\∀z∈ns,0<=z/\z<(l! x.2.2.2:Int))) ?_ ?_
 .refine bG (λq=>aj ⟨rfl,nofun,λg=>bc g.1 (by dsimp only[al]at q;omega)⟩) λq=>bG (λp=>aj ⟨rfl,nofun,λg=>bc g.2.1 (by dsimp only[al]at p;omega)⟩) λp=>?_
  dsimp only[al]at q p;refine au (Fb (x,S) ns (by omega)) λr A=>aj ⟨rfl,?_⟩
  dsimp only;rw[iB];exact⟨λg=>⟨by omega,by omega,A.1 g⟩,λg=>A.2 g.2.2⟩
 rintro⟨r,z⟩ ⟨e,A⟩;dsimp only at e A;subst e;refine aR (λq=>aj (iX λg=>?_)) λq=>?_
 .have q:r=J:=q;rw[A.2 ⟨g.1,g.2.1,g.2.2.1⟩]at q;cases q
 let⟨h1,h2,h3⟩:=A.1 q;have hat:∀k:Int,0<=k->k<l! ns->0<=aw aP ns k/\aw aP ns k<(l! x.2.2.2:Int):=λk k0 k1=>h3 _ (ba (T:=aP) k0 k1)
 refine bC (l! ns) (λi y=>y=((i:Int),(x,S))/\∀k:Nat,k<i->aw aP ns 0<=aw aP ns (k:Int)/\aee x.1 (aw pE S (aw aP ns (cC ((k+1:Nat):Int) (l! ns:Int)))) (aw gm x.2.2.2 (aw aP ns (cC ((k+1:Nat):Int) (l! ns:Int)))) (aw gm x.2.2.2 (aw aP ns (k:Int)))=J/\∀j:Nat,j<k->¬(aw gm x.2.2.2 (aw aP ns (k:Int))).1=(aw gm x.2.2.2 (aw aP ns (j:Int))).1) ?_ ?_ ⟨rfl,λj D=>bc D (dp _)⟩
 .rintro i y hi ⟨rfl,hp⟩;have hm:=RF i (n:=l! ns) (by omega);refine cE (bK (aS (aW (λz=>z.2=(x,S)/\(z.1=aa↔aw aP ns 0<=aw aP ns (i:Int)/\aee x.1 (aw pE S (aw aP ns (cC ((i+1:Nat):Int) (l! ns:Int)))) (aw gm x.2.2.2 (aw aP ns (cC ((i+1:Nat):Int) (l! ns:Int)))) (aw gm x.2.2.2 (aw aP ns (i:Int)))=J)) ?_ ?_)))
  .refine bK (aS (bG (λq=>aj ⟨rfl,nofun,λg=>bc g.1 (Int.not_le.2 q)⟩) λq=>?_));refine n_ (by dsimp only[al];omega) ?_;dsimp only;rw[fH];refine aQ hm.1 hm.2 (aS ?_);let⟨a,ha,I⟩:=h.at (hat _ hm.1 hm.2);let⟨b,N,hb1⟩:=h.at (hat (i:Int) (by omega) (by omega));have ha:aw aP ns (cC ((i+1:Nat):Int) (l! ns:Int))=(a:Int):=ha;have N:aw aP ns (i:Int)=(b:Int):=N;dsimp only[al];rw[ha,N,<-hS,D9 x I];refine aU (aj0 x h a b I hb1) (aj ⟨by rw[hS],?_⟩);dsimp only;rw[iB];exact⟨λg=>⟨N▸q,g⟩,λg=>g.2⟩
  rintro⟨r,z⟩ ⟨e,A⟩;dsimp only at e A;subst e;refine aR (λq=>aj (iX λg=>?_)) λq=>?_
  .have q:r=J:=q;rw[A.2 ⟨(g.2.2.2 i hi).1,(g.2.2.2 i hi).2.1⟩]at q;cases q
  have hri:=A.1 q;refine bZ (a? (a? ?_));have htk:(l! (ns.take (aN (i:Int))))=i:=by rw[bl];omega
  have hg:∀j:Nat,j<i->aw aP (ns.take (aN (i:Int))) (j:Int)=aw aP ns (j:Int):=λj D=>by
   unfold aw;rw[aA,aA];congr 1;exact yU D
  have hki:=hat (i:Int) (by omega) (by omega);dsimp only;generalize ns.take (aN (i:Int))=tk at htk hg;refine bC i (λj y=>y=((j:Int),(x,S))/\∀m:Nat,m<j->¬(aw gm x.2.2.2 (aw aP ns (i:Int))).1=(aw gm x.2.2.2 (aw aP ns (m:Int))).1) ?_ ?_ ⟨rfl,λj D=>bc D (dp _)⟩
  .rintro j y D ⟨rfl,hq⟩;have hkj:=hat (j:Int) (by omega) (by omega);refine cE (bK (aS ?_));show Ok (chk (ij (aw aP ns (i:Int)) (l! x.2.2.2)) λ_=>_) _;refine aQ hki.1 hki.2 (aS ?_);dsimp only;rw[hg j D];refine aQ hkj.1 hkj.2 (aS (aG (λp=>aj (iX λg=>(g.2.2.2 i hi).2.2 j D p)) λp=>aj ⟨by rw[fH],λm hm=>?_⟩));rcases bF m j with g|g
   .exact hq m g
   .rw[show m=j by omega];exact p
  .rintro y ⟨rfl,hq⟩;refine cz (aj ⟨?_,λk hk=>?_⟩)
   .dsimp only;rw[fH]
   .rcases bF k i with g|g
    .exact hp k g
    .rw[show k=i by omega];exact⟨hri.1,hri.2,hq⟩
 .rintro y ⟨rfl,hp⟩;exact cz (aj ⟨λ_=>⟨h1,h2,h3,hp⟩,λ_=>rfl⟩)
def MD (l:Y ET) {b k:Int} (D:0<=a) (q:0<=k) (A:a+k<b):aw gm (cu (aN b-aN a) (ig (aN a) l)) k=aw gm l (a+k):=by
 unfold aw;rw[aA,aA];congr 1;show (cu (aN b-aN a) (ig (aN a) l))[k.toNat]? =l[(a+k).toNat]?;rw[yU (by omega),iz];congr 1;omega
def Qi (l:Y ET) {b:Int} (D:0<=a) (A:a<=b) (q:b<=l! l):(l! (cu (aN b-aN a) (ig (aN a) l)):Int)=b-a:=by
 rw[bl,fo];omega
def UY (n:Nat) (ev:Int->ET) (sy:Int->SY) (a b:Int):Prop:=
 (0<=a/\a<n)/\(0<=b/\b<n)/\b<a/\((ev a).2.1=18\/(ev a).2.1=19)/\(ev b).2.1=16/\(ev a).2.2.1=(ev b).2.2.1/\¬(ev a).1=(ev b).1/\(∀k:Int,b<k->k<a->¬(ev k).1=(ev b).1)/\(aw gU (sy a).2.2.2 (ev b).1).1=3/\((ev a).2.1=19\/(ev a).2.2.2.1=(ev b).1)
def aqr (x:WN) (h:nz x) (a b:Int):Ok (kg ((x,ze x (l! x.2.2.2)),a,b)) λr=>r=J↔UY (l! x.2.2.2) (aw gm x.2.2.2) (aw pE (ze x (l! x.2.2.2))) a b:=by
 unfold kg bg bA bY bq bV gV bX bI c7 aI cL;have hl:=h.ln;have hS:= @D9 x;have hsl:=wH x (l! x.2.2.2);generalize hS':ze x (l! x.2.2.2)=S;refine aW (λz=>z.2=(x,S)/\(z.1=aa↔((0<=a/\a<(l! x.2.2.2:Int))/\(0<=b/\b<(l! x.2.2.2:Int)))/\b<a)) ?_ ?_
 .refine au (Fb (x,S) [a,b] (by simp)) λr I=>?_
  rw[Lz]at I;refine dc (λq=>aj ⟨rfl,nofun,λg=>?_⟩) λq=>aj ⟨rfl,?_⟩
  .rw[I.2 g.1]at q;cases q
  .dsimp only;rw[gq];exact⟨λg=>⟨I.1 q,g⟩,λg=>g.2⟩
 rintro⟨r,z⟩ ⟨e,I⟩;dsimp only at e I;subst e;refine aR (λq=>aj (iX λg=>?_)) λq=>?_
 .have q:r=J:=q;rw[I.2 ⟨⟨g.1,g.2.1⟩,g.2.2.1⟩]at q;cases q
 let⟨⟨ha,N⟩,hba⟩:=I.1 q;refine aQ ha.1 ha.2 (aS (aQ N.1 N.2 (aS ?_)));let⟨i,hi,hi1⟩:=h.at ha;let⟨j,hj,hj1⟩:=h.at N;have gi:=h.eni hi1;have gj:=h.eni hj1;have hsi:aw pE S a=(nD x.1 x.2.2.1 x.2.2.2 i).1:=by rw[<- hS',hi];exact hS hi1
 generalize (nD x.1 x.2.2.1 x.2.2.2 i).1=sa at hsi gi;have gj1:0<=(aw gm x.2.2.2 b).1/\(aw gm x.2.2.2 b).1<l! x.1.2.2.2.2.1:=by rw[hj];exact⟨gj.t0,gj.t1⟩
 have ge3:=gi.e3;unfold UY;generalize hea:aw gm x.2.2.2 a=A;generalize heb:aw gm x.2.2.2 b=D at gj1;refine aW (λz=>z.2=((x,S),A,D)/\(z.1=aa↔(A.2.1=18\/A.2.1=19)/\D.2.1=16/\A.2.2.1=D.2.2.1/\¬A.1=D.1)) ?_ ?_
 .have tl:∀c:Prop,(c↔(A.2.1=18\/A.2.1=19))->c->∀b:Bool,b=decide (A.1=D.1)->D.2.1=16->A.2.2.1=D.2.2.1->((b=aa)↔(A.2.1=18\/A.2.1=19)/\D.2.1=16/\A.2.2.1=D.2.2.1/\¬A.1=D.1):=λc hc h b N h1 h2=>by
   rw[N,decide_eq_false_iff_not];exact⟨λg=>⟨hc.1 h,h1,h2,g⟩,λg=>g.2.2.2⟩
  refine bw (λq=>bw (λq2=>aj ⟨rfl,nofun,λg=>(g.1.elim q q2).elim⟩) λq2=>?_) λq=>?_
  .refine bw (λp=>aj ⟨rfl,nofun,λg=>(p g.2.1).elim⟩) λp=>bw (λp2=>aj ⟨rfl,nofun,λg=>(p2 g.2.2.1).elim⟩) λp2=>aj ⟨rfl,tl _ Iff.rfl (.inr q2) _ rfl p p2⟩
  .refine bw (λp=>aj ⟨rfl,nofun,λg=>(p g.2.1).elim⟩) λp=>bw (λp2=>aj ⟨rfl,nofun,λg=>(p2 g.2.2.1).elim⟩) λp2=>aj ⟨rfl,tl _ Iff.rfl (.inl q) _ rfl p p2⟩
 rintro⟨r,z⟩ ⟨e,I⟩;dsimp only at e I;subst e;refine aR (λq=>aj (iX λg=>?_)) λq=>?_
 .have q:r=J:=q;rw[I.2 ⟨g.2.2.2.1,g.2.2.2.2.1,g.2.2.2.2.2.1,g.2.2.2.2.2.2.1⟩]at q;cases q
 let⟨c1,c2,c3,c4⟩:=I.1 q;dsimp only;rw[fh];refine bZ (a? (bZ (a? (a? ?_))));have hsn:=Qi x.2.2.2 (a:=b+1) (b:=a) (by omega) (by omega) (by omega);have hsg:∀k:Nat,(k:Int)<a-(b+1)->aw gm (cu (aN a-aN (b+1)) (ig (aN (b+1)) x.2.2.2)) (k:Int)=aw gm x.2.2.2 (b+1+(k:Int)):=λk hk=>MD x.2.2.2 (by omega) (by omega) (by omega)
 generalize cu (aN a-aN (b+1)) (ig (aN (b+1)) x.2.2.2)=sl at hsn hsg;refine bC (l! sl) (λi y=>y=((i:Int),(x,S),A,D)/\∀k:Nat,k<i->¬(aw gm x.2.2.2 (b+1+(k:Int))).1=D.1) ?_ ?_ ⟨rfl,λj hj=>bc hj (dp _)⟩
 .rintro k y hk ⟨rfl,hp⟩;refine cE (bK (aS ?_));dsimp only;rw[hsg k (by omega)];refine aG (λp=>aj (iX λg=>g.2.2.2.2.2.2.2.1 (b+1+(k:Int)) (by omega) (by omega) p)) λp=>aj ⟨by rw[fH],λm hm=>?_⟩
  rcases bF m k with g|g
  .exact hp m g
  .rw[show m=k by omega];exact p
 .rintro y ⟨rfl,hp⟩;refine cz (au (P:=λr=>r=J↔(aw gU sa.2.2.2 D.1).1=3/\(A.2.1=19\/A.2.2.2.1=D.1)) ?_ λr I=>aj ?_)
  .show Ok (chk (ij a (ah S)) λ_=>_) _;refine aQ ha.1 (by rw[<- hS',hsl];exact ha.2) (aS ?_);dsimp only;rw[hsi];refine aQ gj1.1 (by rw[ge3];exact gj1.2) (aS (bw (λp=>aj (iX λg=>p g.1)) λp=>?_));refine aW (λz=>z=J↔(A.2.1=19\/A.2.2.2.1=D.1)) ?_ λz hz=>aj ⟨λg=>⟨p,hz.1 g⟩,λg=>hz.2 g.2⟩
   refine aG (λq=>aj ⟨λ_=>.inl q,λ_=>rfl⟩) λq=>aj ?_
   dsimp only;rw[decide_eq_true_iff];exact⟨λg=>.inr g,λg=>g.elim (λg=>(q g).elim) id⟩
  .dsimp only;rw[I];rw[hsi];refine ⟨λg=>⟨ha,N,hba,c1,c2,c3,c4,λk k0 k1=>?_,g.1,g.2⟩,λg=>g.2.2.2.2.2.2.2.2⟩;have:=hp (k-(b+1)).toNat (by omega);rw[show b+1+(((k-(b+1)).toNat:Nat):Int)=k by omega]at this;exact this
def N3 (n:Nat) (ev:Int->ET) (sy:Int->SY) (a b:Int):Prop:=
 a<b/\(ev b).1=(ev a).1/\(aw gU (sy a).2.2.2 (ev a).1).2.2=J/\∀k:Int,a<k->k<b->¬((ev k).1=(ev a).1/\(ev k).2.1=15)
def an8 (x:WN) (h:nz x) (a b:Int) (D:0<=a/\a<l! x.2.2.2) (hb:0<=b/\b<l! x.2.2.2):Ok (jN ((x,ze x (l! x.2.2.2)),a,b)) λr=>r=J↔N3 (l! x.2.2.2) (aw gm x.2.2.2) (aw pE (ze x (l! x.2.2.2))) a b:=by
 unfold jN bY bq bV jr gV bX bI c7 aI cL;have hl:=h.ln;have hS:= @D9 x;have hsl:=wH x (l! x.2.2.2);generalize I:ze x (l! x.2.2.2)=S;refine aQ D.1 D.2 (aS ?_);let⟨i,hi,A⟩:=h.at D;have N:=h.eni A;have hsi:aw pE S a=(nD x.1 x.2.2.1 x.2.2.2 i).1:=by rw[<- I,hi];exact hS A
 generalize (nD x.1 x.2.2.1 x.2.2.2 i).1=sa at hsi N;have gt:0<=(aw gm x.2.2.2 a).1/\(aw gm x.2.2.2 a).1<l! sa.2.2.2:=by rw[N.e3,hi];exact⟨N.t0,N.t1⟩
 unfold N3;rw[hsi];generalize hea:aw gm x.2.2.2 a=ea at gt;refine aW (λz=>z.2=(x,S)/\(z.1=aa↔a<b/\(aw gm x.2.2.2 b).1=ea.1/\(aw gU sa.2.2.2 ea.1).2.2=J)) ?_ ?_
 .refine dB (λq=>aj ⟨rfl,nofun,λg=>bc g.1 (gG.2 q)⟩) λq=>aQ hb.1 hb.2 (aS (bw (λp=>aj ⟨rfl,nofun,λg=>(p g.2.1).elim⟩) λp=>?_))
  refine aQ D.1 (by dsimp only;rw[<- I,hsl];exact D.2) (aS ?_);refine aQ gt.1 gt.2 (aS (aj ⟨rfl,?_⟩));dsimp only;rw[iB];exact⟨λg=>⟨q,p,g⟩,λg=>g.2.2⟩
 rintro⟨r,z⟩ ⟨e,hr⟩;dsimp only at e hr;subst e;refine aR (λq=>aj (iX λg=>?_)) λq=>?_
 .have q:r=J:=q;rw[hr.2 ⟨g.1,g.2.1,g.2.2.1⟩]at q;cases q
 let⟨hab,c1,c2⟩:=hr.1 q;dsimp only;rw[fh];refine bZ (a? (bZ (a? (a? ?_))));have hsn:=Qi x.2.2.2 (a:=a+1) (b:=b) (by omega) (by omega) (by omega);have hsg:∀k:Nat,(k:Int)<b-(a+1)->aw gm (cu (aN b-aN (a+1)) (ig (aN (a+1)) x.2.2.2)) (k:Int)=aw gm x.2.2.2 (a+1+(k:Int)):=λk hk=>MD x.2.2.2 (by omega) (by omega) (by omega)
 generalize cu (aN b-aN (a+1)) (ig (aN (a+1)) x.2.2.2)=sl at hsn hsg;refine bC (l! sl) (λi y=>y=(i:Int)/\∀k:Nat,k<i->¬((aw gm x.2.2.2 (a+1+(k:Int))).1=ea.1/\(aw gm x.2.2.2 (a+1+(k:Int))).2.1=15)) ?_ ?_ ⟨rfl,λj hj=>bc hj (dp _)⟩
 .rintro k y hk ⟨rfl,hp⟩;refine cE (bK (aS ?_));rw[hsg k (by omega)];refine aW (λz=>z=decide ((aw gm x.2.2.2 (a+1+(k:Int))).1=ea.1/\(aw gm x.2.2.2 (a+1+(k:Int))).2.1=15)) ?_ ?_
  .exact aG (λq=>aj (by simp[q])) λq=>aj (by simp[q])
  rintro z rfl;refine aG (λp=>aj (iX λg=>g.2.2.2 (a+1+(k:Int)) (by omega) (by omega) p)) λp=>aj ⟨by rw[fH],λm hm=>?_⟩
  rcases bF m k with g|g
  .exact hp m g
  .rw[show m=k by omega];exact p
 .rintro y ⟨rfl,hp⟩;refine cz (aj ⟨λg=>⟨hab,c1,c2,λk k0 k1=>?_⟩,λ_=>rfl⟩);have:=hp (k-(a+1)).toNat (by omega);rw[show a+1+(((k-(a+1)).toNat:Nat):Int)=k by omega]at this;exact this
def aiw (ev:Int->ET) (a b c d:Int):Prop:=
 c<=d/\(ev c).1=(ev d).1/\¬(ev c).1=(ev a).1/\cfB (ev a) (ev c)=J/\cfB (ev d) (ev b)=J
abbrev sA:Type:=c!
def aiv (y:WN×Y SY) (g:sA) (D:0<=g.2.1/\g.2.1<l! y.1.2.2.2) (N:0<=g.2.2.1/\g.2.2.1<l! y.1.2.2.2) (A:0<=g.2.2.2.1/\g.2.2.2.1<l! y.1.2.2.2) (hd:0<=g.2.2.2.2.1/\g.2.2.2.2.1<l! y.1.2.2.2):Ok (iR (y,g)) λr=>r=J↔aiw (aw gm y.1.2.2.2) g.2.1 g.2.2.1 g.2.2.2.1 g.2.2.2.2.1:=by
 unfold iR aiw bg bA bQ cS bY bq jr gV bI aI;refine aW (λr=>r=J↔_) ?_ λr I=>aj I
 refine dB (λq=>aQ A.1 A.2 (aS (aQ hd.1 hd.2 (aS (aG (λp=>aQ A.1 A.2 (aS (aQ D.1 D.2 (aS (bw (λo=>?_) λo=>aj (iX λg=>g.2.2.1 o)))))) λp=>aj (iX λg=>p g.2.1)))))) λq=>aj (iX λg=>bc g.1 (Int.not_le.2 q))
 refine aU (EG y _ _ D A) (aR (λm=>aU (EG y _ _ hd N) (aj ⟨λm2=>⟨q,p,o,m,m2⟩,λg=>g.2.2.2.2⟩)) λm=>aj (iX λg=>?_))
 .exact bc (m.symm.trans g.2.2.2.1) (by decide)
def GV (w:WT) (n:Nat) (ev:Int->ET) (sy:Int->SY) (g:sA):Prop:=
 (g.1=1/\g.2.2.2.1=0/\g.2.2.2.2.1=0/\l! g.2.2.2.2.2=0/\UH w n ev g.2.1 g.2.2.1)\/
 (g.1=2/\g.2.1=0/\g.2.2.1=0/\g.2.2.2.1=0/\g.2.2.2.2.1=0/\arb w n ev sy g.2.2.2.2.2)\/
 (g.1=3/\g.2.2.2.1=0/\g.2.2.2.2.1=0/\l! g.2.2.2.2.2=0/\UY n ev sy g.2.1 g.2.2.1)\/
 (g.1=4/\l! g.2.2.2.2.2=0/\((0<=g.2.1/\g.2.1<n)/\(0<=g.2.2.1/\g.2.2.1<n)/\(0<=g.2.2.2.1/\g.2.2.2.1<n)/\(0<=g.2.2.2.2.1/\g.2.2.2.2.1<n))/\N3 n ev sy g.2.1 g.2.2.1/\aiw ev g.2.1 g.2.2.1 g.2.2.2.1 g.2.2.2.2.1)
def akm (x:WN) (h:nz x) (g:sA):Ok (jL ((x,ze x (l! x.2.2.2)),g)) λr=>r=J↔GV x.1 (l! x.2.2.2) (aw gm x.2.2.2) (aw pE (ze x (l! x.2.2.2))) g:=by
 let⟨k,a,b,c,d,ns⟩:=g;unfold jL GV bg bA bQ cS gz bq be aI;dsimp only;refine aG (λq=>?_) λq1=>aG (λq=>?_) λq2=>aG (λq=>?_) λq3=>aG (λq=>?_) λq4=>aj (iX λg=>?_)
 .subst q;refine aW (λr=>r=J↔c=0/\d=0/\l! ns=0/\UH x.1 (l! x.2.2.2) (aw gm x.2.2.2) a b) ?_ λr A=>aj (A.trans ⟨λg=>.inl ⟨rfl,g⟩,λg=>?_⟩)
  .refine aG (λp=>aG (λp2=>aG (λp3=>?_) λp3=>aj (iX λg=>p3 (by have:=g.2.2.1;dsimp only[al];omega))) λp2=>aj (iX λg=>p2 g.2.1)) λp=>aj (iX λg=>p g.1)
   refine au (aqe x h _ a b) λr A=>aj (A.trans ⟨λg=>⟨p,p2,by dsimp only[al]at p3;omega,g⟩,λg=>g.2.2.2⟩)
  .rcases g with g|g|g|g
   .exact g.2
   .exact bc g.1 (by decide)
   .exact bc g.1 (by decide)
   .exact bc g.1 (by decide)
 .subst q;refine aW (λr=>r=J↔a=0/\b=0/\c=0/\d=0/\arb x.1 (l! x.2.2.2) (aw gm x.2.2.2) (aw pE (ze x (l! x.2.2.2))) ns) ?_ λr A=>aj (A.trans ⟨λg=>.inr (.inl ⟨rfl,g⟩),λg=>?_⟩)
  .refine aG (λp=>aG (λp2=>aG (λp3=>aG (λp4=>?_) λp4=>aj (iX λg=>p4 g.2.2.2.1)) λp3=>aj (iX λg=>p3 g.2.2.1)) λp2=>aj (iX λg=>p2 g.2.1)) λp=>aj (iX λg=>p g.1)
   refine au (amo x h ns) λr A=>aj (A.trans ⟨λg=>⟨p,p2,p3,p4,g⟩,λg=>g.2.2.2.2⟩)
  .rcases g with g|g|g|g
   .exact bc g.1 (by decide)
   .exact g.2
   .exact bc g.1 (by decide)
   .exact bc g.1 (by decide)
 .subst q;refine aW (λr=>r=J↔c=0/\d=0/\l! ns=0/\UY (l! x.2.2.2) (aw gm x.2.2.2) (aw pE (ze x (l! x.2.2.2))) a b) ?_ λr A=>aj (A.trans ⟨λg=>.inr (.inr (.inl ⟨rfl,g⟩)),λg=>?_⟩)
  .refine aG (λp=>aG (λp2=>aG (λp3=>?_) λp3=>aj (iX λg=>p3 (by have:=g.2.2.1;dsimp only[al];omega))) λp2=>aj (iX λg=>p2 g.2.1)) λp=>aj (iX λg=>p g.1)
   refine au (aqr x h a b) λr A=>aj (A.trans ⟨λg=>⟨p,p2,by dsimp only[al]at p3;omega,g⟩,λg=>g.2.2.2⟩)
  .rcases g with g|g|g|g
   .exact bc g.1 (by decide)
   .exact bc g.1 (by decide)
   .exact g.2
   .exact bc g.1 (by decide)
 .subst q;have I:(∀z∈[a,b,c,d],0<=z/\z<(l! x.2.2.2:Int))↔((0<=a/\a<(l! x.2.2.2:Int))/\(0<=b/\b<(l! x.2.2.2:Int))/\(0<=c/\c<(l! x.2.2.2:Int))/\(0<=d/\d<(l! x.2.2.2:Int))):=⟨λh=>⟨h a (by simp),h b (by simp),h c (by simp),h d (by simp)⟩,λh z hz=>by
   simp only[bk,cI,gH]at hz;rcases hz with rfl|rfl|rfl|rfl
   .exact h.1
   .exact h.2.1
   .exact h.2.2.1
   .exact h.2.2.2⟩
  refine aW (λr=>r=J↔l! ns=0/\((0<=a/\a<(l! x.2.2.2:Int))/\(0<=b/\b<(l! x.2.2.2:Int))/\(0<=c/\c<(l! x.2.2.2:Int))/\(0<=d/\d<(l! x.2.2.2:Int)))/\N3 (l! x.2.2.2) (aw gm x.2.2.2) (aw pE (ze x (l! x.2.2.2))) a b/\aiw (aw gm x.2.2.2) a b c d) ?_ λr A=>aj (A.trans ⟨λg=>.inr (.inr (.inr ⟨rfl,g⟩)),λg=>?_⟩)
  .refine aG (λp=>?_) λp=>aj (iX λg=>p (by have:=g.1;dsimp only[al];omega))
   refine au (Fb (x,ze x (l! x.2.2.2)) [a,b,c,d] (by simp)) λr A=>?_
   rw[I]at A;refine aR (λq=>?_) λq=>aj (iX λg=>?_)
   .obtain⟨ha,hb,hc,hd⟩:=A.1 q;refine au (an8 x h a b ha hb) λr2 D=>aR (λq2=>?_) λq2=>aj (iX λg=>?_)
    .refine au (aiv (x,ze x (l! x.2.2.2)) ((4:Int),a,b,c,d,ns) ha hb hc hd) λr3 N=>aj ?_
     exact N.trans ⟨λg=>⟨by dsimp only[al]at p;omega,⟨ha,hb,hc,hd⟩,D.1 q2,g⟩,λg=>g.2.2.2⟩
    .rw[D.2 g.2.2.1]at q2;cases q2
   .rw[A.2 g.2.1]at q;cases q
  .rcases g with g|g|g|g
   .exact bc g.1 (by decide)
   .exact bc g.1 (by decide)
   .exact bc g.1 (by decide)
   .exact g.2
 .rcases g with g|g|g|g
  .exact q1 g.1
  .exact q2 g.1
  .exact q3 g.1
  .exact q4 g.1
def Oo (x:WN) (h:nz x) (g:sA):Ok (ot (x,g)) λr=>r=J↔GV x.1 (l! x.2.2.2) (aw gm x.2.2.2) (aw pE (ze x (l! x.2.2.2))) g:=by
 unfold ot aI;refine aU (aeg x h) (aW (λr=>r=J↔_) (mL rfl (au (akm x h g) λr q=>aj q)) λr q=>aj q)
def A_ (l:η) (z:Int):Int:=fdN (λk=>decide (z=aw aP l (k:Int))) (l! l)
def Ls (l:η) (z:Int) (D:l! l<=1000):j7 (l,z)=Z (A_ l z):=by
 refine bT ?_;unfold j7 vY bq bV bI be c7 aI cL;refine lK (l! l) (by omega) (λi x=>x=(i:Int)/\∀j,j<i->decide (z=aw aP l (j:Int))=aa) ?_ ?_ ⟨rfl,λj A=>bc A (dp _)⟩
 .rintro i x hi ⟨rfl,q⟩;refine cE (bK (aS (aG (λh=>aj (Ez hi (aO h) q).symm) λh=>aj ⟨fH,λj A=>?_⟩)));rcases bF j i with g|g
  .exact q j g
  .rw[show j=i by omega];exact bp h
 .rintro x ⟨rfl,q⟩;exact cz (aj (ahz q).symm)
def tw :0<=A_ c a↔a∈c:=by
 unfold A_;rcases z_ (λk=>decide (a=aw aP c (k:Int))) (l! c) with ⟨h1,h2⟩|⟨k,h1,h2,h3,_⟩
 .rw[h1];refine ⟨λg=>bc g (by decide),λg=>?_⟩;let⟨j,q,e⟩:=J_ g;have:=h2 j q;rw[decide_eq_false_iff_not]at this;exact (this (by
   unfold aw;rw[aA];show a=(c[j]?).getD _;rw[aL q];exact e.symm)).elim
 .rw[h2];refine ⟨λ_=>?_,λ_=>by omega⟩;have h3:a=aw aP c (k:Int):=aZ h3;rw[h3];exact ba (T:=aP) (by omega) (by omega)
def nxE (x:WN) (c:CF) (e:Int):Bool:=decide (0<=e/\e<l! x.2.2.2)&&decide (xP x c.2.2.2.1 (aw gm x.2.2.2 e).1=e)
def ryE (x:WN) (c:CF) (e:Int):Bool:=nxE x c e&&Ig x c (aw gm x.2.2.2 e).1
def agf (x:WN) (h:nz x) (c:CF) (A:CI x c) (e:Int):sY (x,c,e)=Z (nxE x c e):=by
 refine bT ?_;unfold sY nxE bY bV jr bI be aI;have N:=h.ln;have I:=A.ln;refine aW (λb=>b=(decide (0<=e/\e<l! x.2.2.2)&&decide (xP x c.2.2.2.1 (aw gm x.2.2.2 e).1=e))) ?_ λb D=>aj D
 refine dB (λp=>bG (λq=>aQ p q (aS (aU (Og x c _ (by omega) (by omega)) (aj ?_)))) λq=>aj ?_) λp=>aj ?_
 .dsimp only;rw[aO (p:=0<=e/\e<l! x.2.2.2) ⟨p,q⟩,cD]
 .have q:(l! x.2.2.2:Int)<=e:=q;rw[bp (by omega)];rfl
 .have p:e<0:=p;rw[bp (by omega)];rfl
def Se {c:CF} (h:nxE k c a=J):0<=a/\a<l! k.2.2.2:=by
 unfold nxE at h;rw[ak,decide_eq_true_iff]at h;exact h.1
def R3 (x:WN) (h:nz x) (c:CF) (A:CI x c) (e:Int):oq (x,c,e)=Z (ryE x c e):=by
 refine bT ?_;unfold oq ryE bY bI aI;refine aW (λb=>b=(nxE x c e&&Ig x c (aw gm x.2.2.2 e).1)) ?_ λb D=>aj D
 refine aU (agf x h c A e) (aR (λp=>?_) λp=>aj (by rw[p];rfl));have q:=Se p;refine aQ q.1 q.2 (aS (aU (IF x h c A _).1 (aj ?_)));dsimp only;rw[p,cD]
def YU (x:WN) (c:CF) (z:Int):Bool:=nxE x c z&&(!decide ((aw gm x.2.2.2 z).2.1=17)||(decide ((aw gm x.2.2.2 z).1<l! c.1.2.2.2)&&decide ((aw gU c.1.2.2.2 (aw gm x.2.2.2 z).1).1=4)))
def wkB (c:CF) (a:Int):Bool:=decide (0<=a/\a<l! c.2.2.2.2.2)&&decide (aw aP c.2.2.2.2.2 a=0)
def K9 (x:WN) (c:CF) (g:sA):Bool:=
 if g.1=1 then ryE x c g.2.1&&ryE x c g.2.2.1
 else if g.1=2 then g.2.2.2.2.2.all (YU x c)
 else if g.1=3 then decide (0<l! c.2.2.2.1)&&(decide (aw aP c.2.2.2.1 ((l! c.2.2.2.1:Int)-1)=g.2.2.1)&&(c.2.2.2.1.contains g.2.1&&wkB c g.2.1))
 else if g.1=4 then decide (0<=A_ c.2.2.2.1 g.2.1/\A_ c.2.2.2.1 g.2.1<A_ c.2.2.2.1 g.2.2.2.1)&&(c.2.2.2.1.contains g.2.2.2.2.1&&ryE x c g.2.2.1)
 else aa
def ack (x:WN) (h:nz x) (c:CF) (I:CI x c) (g:sA) (hg:g.1=2->l! g.2.2.2.2.2<=1000):pM (x,c,g)=Z (K9 x c g):=by
 refine bT ?_;let⟨k,a,b,d,e,ns⟩:=g;unfold pM K9 bg bA bQ cS ji bY dv tb bq bV jr bI be c7 aI cL;dsimp only at hg ⊢;have hl:=h.ln;have ho:=I.ln;refine aG (λp=>?_) λp=>?_
 .rw[aK p];refine aW (λr=>r=(ryE x c a&&ryE x c b)) ?_ λr D=>aj D
  refine aU (R3 x h c I a) (aR (λq=>aU (R3 x h c I b) (aj ?_)) λq=>aj (by rw[q];rfl));dsimp only;rw[q,cD]
 rw[ay p];refine aG (λp=>?_) λp=>?_
 .rw[aK p];have hns:=hg p;refine bC (l! ns) (λi y=>y=((i:Int),x,c)/\∀k:Nat,k<i->YU x c (aw aP ns (k:Int))=J) ?_ ?_ ⟨rfl,λj hj=>bc hj (dp _)⟩
  .rintro i y hi ⟨rfl,hp⟩;refine cE (bK (aS ?_));have hz:aw aP ns (i:Int)∈ns:=ba (T:=aP) (by omega) (by omega);dsimp only;have hcy:YU x c (aw aP ns (i:Int))=J->∀k:Nat,k<i+1->YU x c (aw aP ns (k:Int))=J:=λq m hm=>by
    rcases bF m i with g|g
    .exact hp m g
    .rw[show m=i by omega];exact q
   generalize aw aP ns (i:Int)=z at hz hcy;have no:YU x c z=aa->aa=ns.all (YU x c):=λq=>by
    symm;rw[<- iQ,cQ]
    intro g;rw[g z hz]at q;cases q
   refine aU (agf x h c I z) (dc (λq=>aj (no (by unfold YU;rw[q];rfl))) λq=>?_);have q2:=Se q;refine aQ q2.1 q2.2 (aS ?_);refine aW (λr=>r=(!YU x c z,x,c)) ?_ ?_
   .have e:YU x c z=(!decide ((aw gm x.2.2.2 z).2.1=17)||(decide ((aw gm x.2.2.2 z).1<l! c.1.2.2.2)&&decide ((aw gU c.1.2.2.2 (aw gm x.2.2.2 z).1).1=4))):=by unfold YU;rw[q];rfl
    rw[e];let⟨i,hi,N⟩:=h.at q2;have t0:0<=(aw gm x.2.2.2 z).1:=by rw[hi];exact (h.eni N).t0
    generalize aw gm x.2.2.2 z=ev at t0 ⊢;refine aG (λp=>dB (λo=>aj ?_) λo=>aQ t0 o (aS (aj ?_))) λp=>aj ?_
    .have o:(l! c.1.2.2.2:Int)<=ev.1:=o;have p:ev.2.1=17:=p;rw[aO p,bp (p:=ev.1<(l! c.1.2.2.2:Int)) (gG.2 o)];rfl
    .have o:ev.1<(l! c.1.2.2.2:Int):=o;have p:ev.2.1=17:=p;rw[aO p,aO o];rfl
    .have p:¬ev.2.1=17:=p;rw[bp p];rfl
   rintro r rfl;exact dc (λp=>aj (no p)) λp=>aj ⟨by dsimp only;rw[fH],hcy p⟩
  .rintro y ⟨rfl,hp⟩;refine cz (aj (Eq.symm ?_));rw[cQ];exact fI (T:=aP) (p:=λz=>YU x c z=J) hp
 rw[ay p];refine aG (λp=>?_) λp=>?_
 .rw[aK p];refine aW (λr=>r=(decide (0<l! c.2.2.2.1)&&(decide (aw aP c.2.2.2.1 ((l! c.2.2.2.1:Int)-1)=b)&&(c.2.2.2.1.contains a&&wkB c a)))) ?_ λr D=>aj D
  refine bG (λq=>?_) λq=>aj ?_
  .have q:(0:Int)<(l! c.2.2.2.1:Int):=q;rw[aO (by omega:0<l! c.2.2.2.1),cD];dsimp only[al];rw[fh];refine bK (aS (aG (λq1=>aU (mi _ _ (by omega)) (aR (λq2=>?_) λq2=>aj ?_)) λq1=>aj ?_))
   .rw[aO q1,q2,cD,cD];unfold wkB;refine dB (λo=>bG (λA=>aQ o A (aS (aj ?_))) λA=>aj ?_) λo=>aj ?_
    .have o:0<=a:=o;have A:a<(l! c.2.2.2.2.2:Int):=A;rw[aO (p:=0<=a/\a<(l! c.2.2.2.2.2:Int)) ⟨o,A⟩];rfl
    .have A:(l! c.2.2.2.2.2:Int)<=a:=A;rw[bp (by omega)];rfl
    .have o:a<0:=o;rw[bp (by omega)];rfl
   .rw[q2,fY,Bool.and_false]
   .rw[bp q1];rfl
  .have q:(l! c.2.2.2.1:Int)<=0:=q;rw[bp (by omega)];rfl
 rw[ay p];refine aG (λp=>?_) λp=>aj (by rw[ay p])
 rw[aK p];refine aU (Ls _ _ (by omega)) ?_;refine aW (λr=>r=(decide (0<=A_ c.2.2.2.1 a/\A_ c.2.2.2.1 a<A_ c.2.2.2.1 d)&&(c.2.2.2.1.contains e&&ryE x c b))) ?_ λr D=>aj D
 refine dB (λq=>aU (Ls _ _ (by omega)) (bG (λq2=>aU (mi _ _ (by omega)) (aR (λq3=>aU (R3 x h c I b) (aj ?_)) λq3=>aj ?_)) λq2=>aj ?_)) λq=>aj ?_
 .have q:0<=A_ c.2.2.2.1 a:=q;have q2:A_ c.2.2.2.1 a<A_ c.2.2.2.1 d:=q2;have q3:c.2.2.2.1.contains e=J:=q3;rw[aO (p:=0<=A_ c.2.2.2.1 a/\A_ c.2.2.2.1 a<A_ c.2.2.2.1 d) ⟨q,q2⟩,q3];rfl
 .have q3:c.2.2.2.1.contains e=aa:=q3;rw[q3,fY,Bool.and_false]
 .have q2:A_ c.2.2.2.1 d<=A_ c.2.2.2.1 a:=q2;rw[bp (by omega)];rfl
 .have q:A_ c.2.2.2.1 a<0:=q;rw[bp (by omega)];rfl
variable {e:sA}
def GV.ns {w:WT} {ev:Int->ET} {sy:Int->SY} (h:GV w i ev sy e):l! e.2.2.2.2.2<=1000:=by
 rcases h with h|h|h|h
 .have:=h.2.2.2.1;omega
 .have:=h.2.2.2.2.2.2.1;omega
 .have:=h.2.2.2.1;omega
 .have:=h.2.1;omega
def ac6 (x:WN) (h:nz x) (c:CF) (D:CI x c) (g:sA) (A:GV x.1 (l! x.2.2.2) (aw gm x.2.2.2) (aw pE (ze x (l! x.2.2.2))) g):ri (x,c,g)=Z (K9 x c g):=by
 refine bT ?_;unfold ri aI;refine aW (λr=>r=K9 x c g) ?_ λr q=>aj q
 refine aU (ack x h c D g λ_=>A.ns) (aR (λp=>au (Oo x h g) λr q=>aj ?_) λp=>aj p.symm);dsimp only;rw[p];exact q.2 A
def Ud (c:CF) (g:sA):Bool:=
 if g.1=1 then c.2.2.2.1.contains g.2.1||c.2.2.2.1.contains g.2.2.1
 else if g.1=2 then g.2.2.2.2.2.any λz=>c.2.2.2.1.contains z
 else if g.1=3 then c.2.2.2.1.contains g.2.2.1||(c.2.2.2.1.contains g.2.1&& !decide (aw aP c.2.2.2.2.2 g.2.1=0))
 else if g.1=4 then c.2.2.2.1.contains g.2.2.1||(!c.2.2.2.1.contains g.2.1&&c.2.2.2.1.contains g.2.2.2.1)
 else aa
def ap0 (l:η) (z:Int):c8 0 (A_ l z)=l.contains z:=by
 by_cases h:z∈l
 .rw[rR.2 (tw.2 h),bR.2 h]
 .rw[gq.2 (by have:=mt tw.1 h;omega)]
  symm;rw[<- iQ,bR];exact h
def XL (c:CF) (ns:η) (N:l! c.2.2.2.1<=1000) (hn:l! ns<=1000):ov (ns,c)=Z (ns.any (λz=>c.2.2.2.1.contains z),c):=by
 refine bT ?_;unfold ov;refine au (P:=λy:Int×CF=>y.2=c/\c8 0 y.1=ns.any (λz=>c.2.2.2.1.contains z)) ?_ λy D=>aj (by rw[D.2,D.1])
 unfold wQ bV bI be c7 aI cL;refine bC (l! ns) (λi y=>y=((i:Int),c)/\∀k:Nat,k<i->c.2.2.2.1.contains (aw aP ns (k:Int))=aa) ?_ ?_ ⟨rfl,λj hj=>bc hj (dp _)⟩
 .rintro i y hi ⟨rfl,hp⟩;refine cE (bK (aS ?_));have A:aw aP ns (i:Int)∈ns:=ba (T:=aP) (by omega) (by omega);refine aU (by unfold oM bQ;exact bT (aU (mi _ _ N) (aj rfl))) (aR (λq=>aj ⟨rfl,?_⟩) λq=>aj ⟨by dsimp only;rw[fH],λm hm=>?_⟩)
  .have q:c.2.2.2.1.contains (aw aP ns (i:Int))=J:=q;dsimp only;rw[rR.2 (by omega)]
   symm;rw[List.any_eq_true]
   exact⟨_,A,q⟩
  .rcases bF m i with g|g
   .exact hp m g
   .rw[show m=i by omega];exact q
 .rintro y ⟨rfl,hp⟩;refine cz (aj ⟨rfl,?_⟩);show aa=_
  symm;rw[<- iQ,List.any_eq_true]
  rintro⟨z,A,I⟩;have:=fI (T:=aP) (p:=λz=>c.2.2.2.1.contains z=aa) hp z A;exact bc (this.symm.trans I) (by decide)
def agn (x:WN) (h:nz x) (c:CF) (hc:CI x c) (g:sA) (hg:l! g.2.2.2.2.2<=1000):oc (c,g)=Z (Ud c g):=by
 refine bT ?_;let⟨k,a,b,d,e,ns⟩:=g;unfold oc Ud bg bA bQ dv gz bq bV jr bI aI;dsimp only at hg ⊢;have hl:=h.ln;have ho:=hc.ln;have A:l! c.2.2.2.1<=1000:=by omega
 refine aU (Ls _ a A) (aU (Ls _ b A) ?_);have I:=ap0 c.2.2.2.1 a;have D:=ap0 c.2.2.2.1 b;refine aG (λp=>?_) λp=>?_
 .rw[aK p];refine aW (λr=>r=(c.2.2.2.1.contains a||c.2.2.2.1.contains b)) (aR (λq=>aj ?_) λq=>aj ?_) λr N=>aj N
  .rw[<- I,q];rfl
  .dsimp only;rw[<- I,q,D];rfl
 rw[ay p];refine aG (λp=>?_) λp=>?_
 .rw[aK p];exact aU (XL c ns A hg) (aj rfl)
 rw[ay p];refine aG (λp=>?_) λp=>?_
 .rw[aK p];refine aW (λr=>r=(c.2.2.2.1.contains b||(c.2.2.2.1.contains a&& !decide (aw aP c.2.2.2.2.2 a=0)))) ?_ λr N=>aj N
  refine aR (λq=>aj ?_) λq=>aR (λq2=>?_) λq2=>aj ?_
  .rw[<- D,q];rfl
  .have hm:a∈c.2.2.2.1:=by rw[<- tw];exact rR.1 q2
   have:=hc.od a hm;have hw:=hc.wk;refine aQ this.1 (by omega) (aS (aj ?_));rw[<- D,q,<-I,q2];rfl
  .rw[<- D,q,<-I,q2];rfl
 rw[ay p];refine aG (λp=>?_) λp=>aj (by rw[ay p])
 rw[aK p];refine aW (λr=>r=(c.2.2.2.1.contains b||(!c.2.2.2.1.contains a&&c.2.2.2.1.contains d))) ?_ λr N=>aj N
 refine aR (λq=>aj ?_) λq=>bG (λq2=>?_) λq2=>aj ?_
 .rw[<- D,q];rfl
 .refine aU (mi _ d A) (aj ?_);have q2:A_ c.2.2.2.1 a<0:=q2;rw[<- D,q,<-I,gq.2 q2];rfl
 .have q2:0<=A_ c.2.2.2.1 a:=q2;rw[<- D,q,<-I,rR.2 q2];rfl
def wrU (n:Int):aT .u64 n=n%18446744073709551616:=by
 rw[E_];show jW .u64 n=_;unfold jW;simp[IntKind.signed,IntKind.bits]
abbrev Qj:ζ:=[48,49,50,51,52,53,54,55,56,57,97,98,99,100,101,102,103,104,105,106,107,108,109,110,111,112,113,114,115,116,117,118,119,120,121,122]
def Hi:Nat->Int->η->η
 |0,u,D=>sC Qj u::D
 |n+1,u,D=>if 36<=u then Hi n (u/36) (sC Qj (u%36)::D) else sC Qj u::D
def Tg:∀(n:Nat) (u:Int) (D:η),l! (Hi n u D)<=n+1+l! D
 |0,u,D=>by rw[Hi,fX];omega
 |n+1,u,D=>by
  rw[Hi];split
  .have:=Tg n (u/36) (sC Qj (u%36)::D);rw[fX]at this;omega
  .rw[fX];omega
def Tf (D:η) (h:a<36):Hi i a D=sC Qj a::D:=by
 cases i with
 |zero=>rfl
 |succ i=>rw[Hi,ay (by omega)]
def QO (l:η) (i:Nat) (d:Int) (hi:i<l! l):(ca l (i:Int) d).drop i=d::l.drop (i+1):=by
 unfold ca;rw[kL,List.drop_eq_getElem_cons (by rw[dI];exact hi),List.getElem_set_self,List.drop_set_of_lt (by omega)]
def ahu (u:Int) (h0:0<=u) (h1:u<18446744073709551616) (buf:η) (hb:l! buf<=1000000):fB ((u,36,aa,J),buf)=Z ([],buf++Hi 13 u []):=by
 refine bT ?_;unfold fB bg bY bq bV jr AY bX c7 aI;refine aW (λz=>z=(aa,buf)) ?_ ?_
 .exact cz (aG (λh=>bc h (by show ¬(36:Int)=10;decide)) λ_=>aj rfl)
 rintro z rfl;refine fJ rfl ?_;refine aW (λz=>z=(u,buf,aD 65 (0:Int))) (fJ rfl (aj rfl)) ?_;rintro z rfl;refine aU (show gh 36=Z aa by rfl) (fJ rfl ?_);have A:aT .u64 36=36:=rfl;dsimp only;rw[A];refine bC 14 (λk y=>∃(v:Int) (arr:η),k<=13/\y=((v,((65-k:Nat):Int)),buf,arr)/\l! arr=65/\0<=v/\v*36^k<18446744073709551616/\Hi (13-k) v (arr.drop (65-k))=Hi 13 u []) ?_ ?_ ⟨u,_,by omega,rfl,cR,h0,by simpa using h1,rfl⟩
 .rintro k y hk ⟨v,arr,k13,rfl,D,v0,v1,hd⟩;have hv:v<18446744073709551616:=by
   refine Int.lt_of_le_of_lt ?_ v1;have:(1:Int)<=36^k:=by have:(0:Int)<36^k:=Int.pow_pos (by decide);omega
   have:=Int.mul_le_mul_of_nonneg_left this v0;omega
  have hi:aT .i64 (((65-k:Nat):Int)-1)=((64-k:Nat):Int):=by rw[fh];omega
  dsimp only;rw[hi];refine dB (λq=>?_) λq=>?_
  .have q:36<=v:=q;have:¬k=12:=λe=>by subst e;rw[show (36:Int)^12=4738381338321616896 by decide]at v1;omega
   have:¬k=13:=λe=>by subst e;rw[show (36:Int)^13=170581728179578208256 by decide]at v1;omega
   have e1:aT .u64 (wn v 36)=v/36:=by rw[Ox v0,wrU];omega
   have e2:aT .u64 (v-aT .u64 (v/36*36))=v%36:=by rw[wrU,wrU];omega
   rw[e1,e2];refine n_ (by decide) (aQ (by omega) (by show v%36<36;omega) (bZ (a? (pY (by omega) (bK (aj ⟨v/36,ca arr ((64-k:Nat):Int) (sC Qj (v%36)),?_,by rw[show 65-(k+1)=64-k by omega],?_,by omega,?_,?_⟩))))))
   .omega
   .unfold ca;rw[dI];exact D
   .rw[Int.pow_succ];have I:v/36*36<=v:=by omega
    have:=Int.mul_le_mul_of_nonneg_right I (Int.le_of_lt (Int.pow_pos (by decide):(0:Int)<36^k));have e:v/36*(36^k*36)=v/36*36*36^k:=by rw[Int.mul_comm (36^k) 36,Int.mul_assoc]
    rw[e];omega
   .rw[<- hd];have:13-k=(13-(k+1))+1:=by omega
    rw[this,Hi,aK q];have:(65-(k+1):Nat)=64-k:=by omega
    rw[this,QO _ _ _ (by omega),show 64-k+1=65-k by omega]
  .have q:v<36:=q;refine au (P:=λr=>r=([],buf++Hi 13 u [])) ?_ λr N=>aj N
   refine aQ v0 (by show v<36;omega) (bZ (a? (pY (by omega) (bK ?_))));refine aW (λz=>z=(((64-k:Nat):Int),buf,ca arr ((64-k:Nat):Int) (sC Qj v))) (fJ rfl (aj rfl)) ?_;rintro z rfl;have hl:l! (ca arr ((64-k:Nat):Int) (sC Qj v))=65:=by unfold ca;rw[dI];exact D
   have hdr:(ca arr ((64-k:Nat):Int) (sC Qj v)).drop (aN ((64-k:Nat):Int))=Hi 13 u []:=by
    rw[kL,QO _ _ _ (by omega),<-hd,Tf _ q,show 64-k+1=65-k by omega]
   have hdl:=Tg 13 u [];refine mL rfl (bZ (a? (bZ (pY (by dsimp only;omega) (fE (by dsimp only;omega) (bZ (a? (pY (by dsimp only;omega) ?_))))))));dsimp only;rw[hdr];exact bu (by simp only[eS]at hdl;omega) (by decide) (aj rfl)
 .rintro y ⟨v,arr,k13,rfl,D,v0,v1,hd⟩;omega
def kb (i:Int):η:=(if i<0 then [45] else [])++(Hi 13 (if i<0 then aT .u64 (0-aT .u64 i) else aT .u64 i) []++[32])
def Mf (b:Bool):η:=if b=J then [49,32] else [48,32]
def rP (i:Int):l! (kb i)<=16:=by
 have:=Tg 13 (if i<0 then aT .u64 (0-aT .u64 i) else aT .u64 i) [];unfold kb;generalize Hi 13 (if i<0 then aT .u64 (0-aT .u64 i) else aT .u64 i) []=d at this ⊢;simp only[aF,a_,eS] at*
 split<;>simp<;>omega
def u7 (b:Bool):l! (Mf b)=2:=by cases b<;>rfl
def XM (i:Int) (buf:η) (I:l! buf<=100000):kE ((i,36),buf)=Z (buf++((if i<0 then [45] else [])++Hi 13 (if i<0 then aT .u64 (0-aT .u64 i) else aT .u64 i) [])):=by
 refine bT ?_;unfold kE bX;refine au (P:=λy=>y=buf++((if i<0 then [45] else [])++Hi 13 (if i<0 then aT .u64 (0-aT .u64 i) else aT .u64 i) [])) ?_ λy q=>bZ (fE rfl (mc (aj q)))
 unfold hZ bV bX aI;refine aW (λz=>z=((if i<0 then aT .u64 (0-aT .u64 i) else aT .u64 i),buf++(if i<0 then [45] else []))) ?_ ?_
 .refine bG (λh=>bu (by simp;omega) (by decide) (aj ?_)) λh=>aj ?_
  .have h:i<0:=h;rw[aK h,aK h]
  .have h:¬i<0:=gG.2 h;rw[ay h,ay h,cJ]
 rintro z rfl;refine au (P:=λy=>y=buf++((if i<0 then [45] else [])++Hi 13 (if i<0 then aT .u64 (0-aT .u64 i) else aT .u64 i) [])) ?_ λy q=>bZ (fE rfl (mc (aj q)))
 unfold gT bq bV bX;refine aG (λh=>bc h (by show ¬(36:Int)=10;decide)) λ_=>?_
 have A:0<=(if i<0 then aT .u64 (0-aT .u64 i) else aT .u64 i)/\(if i<0 then aT .u64 (0-aT .u64 i) else aT .u64 i)<18446744073709551616:=by
  split<;>rw[wrU]<;>omega
 have D:l! (buf++(if i<0 then [45] else []))<=1000000:=by rw[aF];split<;>simp<;>omega
 refine aU (ahu _ A.1 A.2 _ D) (bZ (fE rfl (mc (aj ?_))));dsimp only;rw[bm]
def u6 (i:Int) (buf:η) (q:l! buf<=100000):d5 (i,buf)=Z (buf++kb i):=by
 refine bT ?_;unfold d5 bX;refine aU (XM i buf q) (bZ (fE rfl (mc (bu ?_ (by decide) (aj ?_)))))
 .have:=rP i;unfold kb at this;simp only[aF,a_]at this ⊢;omega
 .unfold kb;simp only[bm]
def kb_0:kb 0=[48,32]:=by unfold kb;rw[ay (by decide),ay (by decide),wrU,Tf _ (by decide)];rfl
def kb_1:kb 1=[49,32]:=by unfold kb;rw[ay (by decide),ay (by decide),wrU,Tf _ (by decide)];rfl
def zN (b:Bool) (buf:η) (q:l! buf<=100000):gL (b,buf)=Z (buf++Mf b):=by
 refine bT ?_;unfold gL bX;refine aR (λh=>aU (u6 1 buf q) (bZ (fE rfl (mc (aj ?_))))) λh=>aU (u6 0 buf q) (bZ (fE rfl (mc (aj ?_))))
 .have h:b=J:=h;rw[h,kb_1];rfl
 .have h:b=aa:=h;rw[h,kb_0];rfl
def exL (n:Nat) (q:η):θ:=q.foldl (λl z=>ca l z J) (aD n aa)
def Tc (q:η):∀(l:θ),(∀z∈q,0<=z/\z<(l! l:Int))->l! (q.foldl (λl z=>ca l z J) l)=l! l/\∀k:Nat,k<l! l->aw (.bool) (q.foldl (λl z=>ca l z J) l) (k:Int)=(aw (.bool) l (k:Int)||q.contains (k:Int)):=by
 induction q with
 |nil=>intro l _;exact⟨rfl,λk _=>by simp⟩
 |cons z r D=>
  intro l h;have hz:=h z (cj ..);have A:l! (ca l z J)=l! l:=by unfold ca;rw[dI]
  let⟨h1,h2⟩:=D (ca l z J) λy I=>by rw[A];exact h y (bP _ I)
  refine ⟨by rw[dz,h1,A],λk N=>?_⟩;rw[dz,h2 k (by rw[A];exact N)];have hg:aw (.bool) (ca l z J) (k:Int)=if (k:Int)=z then J else aw (.bool) l (k:Int):=by
   unfold aw ca;rw[aA,aA];show ((l.set z.toNat J)[k]?).getD _=_;rw[g_];by_cases e:(k:Int)=z
   .rw[aK e,aK (by omega),aK (by omega)];rfl
   .rw[ay e,ay (by omega)];rfl
  rw[hg,List.contains_cons];by_cases e:(k:Int)=z
  .rw[aK e,e];simp
  .rw[ay e];have:((k:Int)==z)=aa:=by simp[e]
   rw[this,nU]
def amg (n:Nat) (q:η) (h:∀z∈q,0<=z/\z<(n:Int)):l! (exL n q)=n:=by
 have:=(Tc q (aD n aa) (by simpa using h)).1;simpa[exL] using this
def ar8 (n:Nat) (q:η) (h:∀z∈q,0<=z/\z<(n:Int)) (k:Nat) (A:k<n):aw (.bool) (exL n q) (k:Int)=q.contains (k:Int):=by
 have:=(Tc q (aD n aa) (by simpa using h)).2 k (by simpa using A);unfold exL;rw[this];have:aw (.bool) (aD n aa) (k:Int)=aa:=by
  unfold aw;rw[aA];show ((aD n aa)[k]?).getD _=_;rw[mj,aK A];rfl
 rw[this,nU]
def kyU (q:η) (fx:θ) (u:Int) (k:Int):Bool:=decide (0<=u)&&(!q.contains u&&aw (.bool) fx k)
def Yi (q A:η) (fx:θ):Nat->η
 |0=>[]
 |k+1=>Yi q A fx k++(Mf (q.contains (k:Int))++Mf (kyU q fx (aw aP A (k:Int)) (k:Int)))
def zM (q A:η) (fx:θ):∀n,l! (Yi q A fx n)=4*n
 |0=>rfl
 |n+1=>by rw[Yi,aF,aF,zM q A fx n,u7,u7];omega
variable {R:Type}
def nJ (f:R->η):Y R->η
 |[]=>[]
 |x::r=>f x++nJ f r
def ab1 (f:R->η):∀l m:Y R,nJ f (l++m)=nJ f l++nJ f m
 |[],m=>rfl
 |x::r,m=>by rw[ft,nJ,nJ,ab1 f r m,bm]
def vb {f:R->η} {b:Nat}:∀{l:Y R},(∀x∈l,l! (f x)<=b)->l! (nJ f l)<=l! l*b
 |[],_=>dU _
 |x::r,h=>by
  have h1:=h x (cj ..);have h2:=vb (l:=r) λy q=>h y (bP _ q)
  rw[nJ,aF,fX,jl];omega
def kyL (x:g?):η:=kb x.1++(kb (l! x.2:Int)++nJ kb x.2)
def zL (x:i?):η:=kb x.1++(kb x.2.1++Mf x.2.2)
def CU (x:c?):η:=kb x.1++Mf x.2
def kyB (c:CF):η:=nJ kyL c.1.1++(kb c.1.2.1++(nJ Mf c.1.2.2.1++(nJ zL c.1.2.2.2++(nJ CU c.2.1++nJ CU c.2.2.1))))
def HO (n:Nat) (c:CF) (q:η):ζ:=nP (Yi c.2.2.2.1 q c.2.2.2.2.1 n++kyB c)
variable {T:Ty}
def VU {f:T.den->η} {xs:Y T.den} (hi:i<ah xs):nJ f (cu (i+1) xs)=nJ f (cu i xs)++f (aw _ xs (i:Int)):=by
 rw[kA hi,ab1];show _++(f _++[])=_;rw[cJ]
def pG {l:Y R} (h:l! l<=i):l.take i=l:=gF h
def VS {f:Int->η} {l:η} (h:∀x:Int,l! (f x)<=16):l! (nJ f l)<=l! l*16:=vb λx _=>h x
def auk (x:WN) (h:nz x) (c:CF) (hc:CI x c) (D:η) (hlu:l! D=l! x.2.2.2) (hu:∀z∈D,z<(l! x.2.2.2:Int)):tQ (c,D)=Z (HO (l! x.2.2.2) c D):=by
 refine bT ?_;unfold tQ bg bA bQ bY ck bV jr bX bI mn be c7 aI cL;have hl:=h.ln;have ho:=hc.ln;have hod:=hc.od;have hfx:=hc.fx;have v:=h.vl;have hl1:l! c.1.1<=4:=by rw[hc.l1];exact v.l
 have hl2:l! c.1.2.2.1<=2:=by rw[hc.l2];exact v.f
 have hl3:l! c.1.2.2.2<=4:=by rw[hc.l3];exact v.t
 have hl4:l! c.2.1<=12:=by rw[hc.ce];exact v.c
 have hl5:l! c.2.2.1<=2:=by rw[hc.fu];exact v.f
 have hrl:=hc.p8.le;unfold HO;rw[<- hlu];rw[<- hlu]at hl hod hfx hu;generalize hn:l! D=n at hl hod hfx hu ⊢;refine bZ (bZ (cK (by dsimp only[al];omega) (cK (c6 _) (bu (by dsimp only[al];omega) (by decide) ?_))));refine bC (l! c.2.2.2.1) (λi y=>y=((i:Int),c,(c.2.2.2.1.take i).foldl (λl z=>ca l z J) (aD n aa),[])) ?_ ?_ rfl
 .rintro i y hi rfl;have hz:=hod _ (ba (T:=aP) (xs:=c.2.2.2.1) (j:=(i:Int)) (by omega) (by omega));have hlen:=(Tc (c.2.2.2.1.take i) (aD n aa) λz hz=>by rw[cR];exact hod z (dV hz)).1;rw[cR]at hlen;refine cE (bK (aS (aQ hz.1 (by rw[hlen];exact hz.2) (aQ hz.1 (by rw[hlen];exact hz.2) (aj ?_)))));dsimp only;rw[fH,kA (T:=aP) hi,dD];rfl
 rintro y rfl;rw[pG (bi _)];have hxl:=amg n c.2.2.2.1 hod;have hxa:=ar8 n c.2.2.2.1 hod;show Ok (aJ (gM _ _) _ (av (iter _ (0,c,exL n c.2.2.2.1,[])) _)) _;generalize exL n c.2.2.2.1=ex at hxl hxa;refine cz (au (P:=λr=>r=nP (Yi c.2.2.2.1 D c.2.2.2.2.1 n++kyB c)) ?_ λr hr=>aj hr);refine bC n (λi y=>y=((i:Int),c,ex,Yi c.2.2.2.1 D c.2.2.2.2.1 i)) ?_ ?_ rfl
 .rintro i y hi rfl;have hal:=zM c.2.2.2.1 D c.2.2.2.2.1 i;refine cE ?_;refine aW (λz=>z=(c,ex,Yi c.2.2.2.1 D c.2.2.2.2.1 (i+1))) ?_ ?_
  .refine bK (aS (bK (bK (aS (aU (zN _ _ (by dsimp only;omega)) (bZ (fE rfl (mc ?_))))))));have hui:=hu _ (ba (T:=aP) (xs:=D) (j:=(i:Int)) (by omega) (by omega));rw[Yi];generalize aw aP D (i:Int)=u at hui ⊢;have hkl:=u7;dsimp only;rw[hxa i hi];have I:l! (Yi c.2.2.2.1 D c.2.2.2.2.1 i++Mf (c.2.2.2.1.contains (i:Int)))<=100000:=by rw[aF,hkl];omega
   refine dB (λq=>?_) λq=>?_
   .have hua:=hxa u.toNat (by omega);rw[show ((u.toNat:Nat):Int)=u by omega]at hua;refine aQ q (by omega) (aQ q (by omega) (aS ?_));rw[hua];refine dc (λp=>bK (aS (aU (zN _ _ I) (bZ (fE rfl (mc (aj ?_))))))) λp=>aU (zN _ _ I) (bZ (fE rfl (mc (aj ?_))))
    .unfold kyU;rw[aO q,p,bm];rfl
    .unfold kyU;rw[aO q,p,bm];rfl
   .have q:u<0:=q;refine aU (zN _ _ I) (bZ (fE rfl (mc (aj ?_))));unfold kyU;rw[bp (by omega),bm];rfl
  .rintro z rfl;exact aj (by dsimp only;rw[fH])
 rintro y rfl;have hA:=zM c.2.2.2.1 D c.2.2.2.2.1 n;unfold kyB;generalize Yi c.2.2.2.1 D c.2.2.2.2.1 n=A at hA;refine cz (au (P:=λr=>r=nP (A++(nJ kyL c.1.1++(kb c.1.2.1++(nJ Mf c.1.2.2.1++(nJ zL c.1.2.2.2++(nJ CU c.2.1++nJ CU c.2.2.1))))))) ?_ λr hr=>aj hr);have hL:∀i,i<=l! c.1.1->l! (A++nJ kyL (c.1.1.take i))<=1000:=λi hi=>by
  have:l! (nJ kyL (c.1.1.take i))<=l! (c.1.1.take i)*96:=vb λx hx=>by
   have h1:=rP x.1;have h2:=rP (l! x.2:Int);have h3:=VS (l:=x.2) rP;have h4:=hrl x (dV hx);unfold kyL;rw[aF,aF];omega
  rw[bl]at this;rw[aF];omega
 refine bC (l! c.1.1) (λi y=>y=((i:Int),c,A++nJ kyL (c.1.1.take i))) ?_ ?_ (by show _=(_,_,A++[]);rw[cJ];rfl)
 .rintro i y hi rfl;have hb:=hL i (eZ hi);rw[show nJ kyL (c.1.1.take (i+1))=nJ kyL (c.1.1.take i)++kyL (aw dy c.1.1 (i:Int)) from VU (T:=dy) hi,<-bm];have hrd:=hrl _ (ba (T:=dy) (xs:=c.1.1) (j:=(i:Int)) (by omega) (by omega));refine cE (bK (aS ?_));dsimp only;generalize A++nJ kyL (c.1.1.take i)=b at hb;show Ok (av (d5 ((aw dy c.1.1 (i:Int)).1,b)) _) _;generalize aw dy c.1.1 (i:Int)=N at hrd ⊢;have k1:=rP N.1;have k2:=rP (l! N.2:Int);refine aU (u6 _ _ (by omega)) (bZ (fE rfl (mc (aU (u6 _ _ (by rw[aF];omega)) (bZ (fE rfl (mc ?_)))))));refine bC (l! N.2) (λj y=>y=((j:Int),c,(b++kb N.1++kb (l! N.2:Int))++nJ kb (N.2.take j))) ?_ ?_ (by show _=(_,_,_++[]);rw[cJ];rfl)
  .rintro j y hj rfl;have k3:=VS (l:=N.2.take j) rP;rw[bl]at k3;refine cE (bK (aS (aU (u6 _ _ (by simp only[aF];omega)) (bZ (fE rfl (mc (aj ?_)))))));dsimp only;rw[fH,show nJ kb (N.2.take (j+1))=nJ kb (N.2.take j)++kb (aw aP N.2 (j:Int)) from VU (T:=aP) hj,bm]
  .rintro y rfl;refine cz (aj ?_);dsimp only;rw[fH,pG (bi _)];unfold kyL;simp only[bm]
 rintro y rfl;have hb:=hL _ (bi _);rw[pG (bi _)]at hb;rw[pG (bi _)];simp only[<- bm];generalize A++nJ kyL c.1.1=b at hb;refine cz (au (P:=λr=>r=nP (b++kb c.1.2.1++nJ Mf c.1.2.2.1++nJ zL c.1.2.2.2++nJ CU c.2.1++nJ CU c.2.2.1)) ?_ λr hr=>aj hr);have k1:=rP c.1.2.1;refine aU (u6 _ _ (by omega)) (bZ (fE rfl (mc ?_)));have hb1:l! (b++kb c.1.2.1)<=2000:=by rw[aF];omega
 generalize b++kb c.1.2.1=b at hb1;refine bC (l! c.1.2.2.1) (λi y=>y=((i:Int),c,b++nJ Mf (c.1.2.2.1.take i))) ?_ ?_ (by show _=(_,_,b++[]);rw[cJ];rfl)
 .rintro i y hi rfl;have k3:=vb (f:=Mf) (b:=2) (l:=c.1.2.2.1.take i) λx _=>by rw[u7];exact bi _
  rw[bl]at k3;refine cE (bK (aS (aU (zN _ _ (by simp only[aF];omega)) (bZ (fE rfl (mc (aj ?_)))))));dsimp only;rw[fH,show nJ Mf (c.1.2.2.1.take (i+1))=nJ Mf (c.1.2.2.1.take i)++Mf (aw (.bool) c.1.2.2.1 (i:Int)) from VU (T:=.bool) hi,bm]
 rintro y rfl;have k3:=vb (f:=Mf) (b:=2) (l:=c.1.2.2.1) λx _=>by rw[u7];exact bi _
 have I:l! (b++nJ Mf c.1.2.2.1)<=3000:=by rw[aF];omega
 rw[pG (bi _)];generalize b++nJ Mf c.1.2.2.1=b at I;refine cz (au (P:=λr=>r=nP (b++nJ zL c.1.2.2.2++nJ CU c.2.1++nJ CU c.2.2.1)) ?_ λr hr=>aj hr);have kT:∀x:i?,l! (zL x)<=34:=λx=>by
  have:=rP x.1;have:=rP x.2.1;have:=u7 x.2.2;unfold zL;rw[aF,aF];omega
 refine bC (l! c.1.2.2.2) (λi y=>y=((i:Int),c,b++nJ zL (c.1.2.2.2.take i))) ?_ ?_ (by show _=(_,_,b++[]);rw[cJ];rfl)
 .rintro i y hi rfl;have k3:=vb (f:=zL) (b:=34) (l:=c.1.2.2.2.take i) λx _=>kT x
  rw[bl]at k3;rw[show nJ zL (c.1.2.2.2.take (i+1))=nJ zL (c.1.2.2.2.take i)++zL (aw gU c.1.2.2.2 (i:Int)) from VU (T:=gU) hi];refine cE (bK (aS ?_));dsimp only;have hb3:l! (b++nJ zL (c.1.2.2.2.take i))<=4000:=by rw[aF];omega
  rw[<- bm];generalize b++nJ zL (c.1.2.2.2.take i)=b at hb3;show Ok (av (d5 ((aw gU c.1.2.2.2 (i:Int)).1,b)) _) _;generalize aw gU c.1.2.2.2 (i:Int)=th;have k4:=rP th.1;have k5:=rP th.2.1;refine aU (u6 _ _ (by omega)) (bZ (fE rfl (mc (aU (u6 _ _ (by rw[aF];omega)) (bZ (fE rfl (mc (aU (zN _ _ (by rw[aF,aF];omega)) (bZ (fE rfl (mc (aj ?_))))))))))));dsimp only;rw[fH];unfold zL;simp only[bm]
 rintro y rfl;have k4:=vb (f:=zL) (b:=34) (l:=c.1.2.2.2) λx _=>kT x
 have hb3:l! (b++nJ zL c.1.2.2.2)<=4000:=by rw[aF];omega
 rw[pG (bi _)];generalize b++nJ zL c.1.2.2.2=b at hb3;refine cz (au (P:=λr=>r=nP (b++nJ CU c.2.1++nJ CU c.2.2.1)) ?_ λr hr=>aj hr);have kC:∀x:c?,l! (CU x)<=18:=λx=>by
  have:=rP x.1;have:=u7 x.2;unfold CU;rw[aF];omega
 have hkc:∀(cs:Y c?) (b:η),l! cs<=12->l! b<=5000->∀i:Nat,i<l! cs->l! (b++nJ CU (cs.take i))<=6000:=λcs b h1 h2 i hi=>by
  have k3:=vb (f:=CU) (b:=18) (l:=cs.take i) λx _=>kC x
  rw[bl]at k3;rw[aF];omega
 have hce:l! (b++nJ CU c.2.1)<=5000:=by
  have k3:=vb (f:=CU) (b:=18) (l:=c.2.1) λx _=>kC x
  rw[aF];omega
 refine bC 2 (λi y=>y=((i:Int),if i=0 then b else if i=1 then b++nJ CU c.2.1 else b++nJ CU c.2.1++nJ CU c.2.2.1)) ?_ ?_ rfl
 .rintro i y hi rfl;refine cE (bZ (a? (pY (by dsimp only;omega) (aS ?_))));obtain⟨cs,bb,hcs,hbb,e1,e2,e3⟩:∃(cs:Y c?) (bb:η),l! cs<=12/\l! bb<=5000/\aw ((.sl Bn)) [c.2.1,c.2.2.1] (i:Int)=cs/\(if i=0 then b else if i=1 then b++nJ CU c.2.1 else b++nJ CU c.2.1++nJ CU c.2.2.1)=bb/\(if i+1=0 then b else if i+1=1 then b++nJ CU c.2.1 else b++nJ CU c.2.1++nJ CU c.2.2.1)=bb++nJ CU cs:=by
   rcases show i=0\/i=1 by omega with rfl|rfl
   .exact⟨c.2.1,b,hl4,by omega,rfl,rfl,rfl⟩
   .exact⟨c.2.2.1,_,by omega,hce,rfl,rfl,rfl⟩
  rw[e3];dsimp only;rw[e2];rw[e1];refine bC (l! cs) (λj y=>y=((j:Int),bb++nJ CU (cs.take j))) ?_ ?_ (by show _=(_,_++[]);rw[cJ];rfl)
  .rintro j y hj rfl;have hb4:=hkc cs bb hcs hbb j hj;rw[show nJ CU (cs.take (j+1))=nJ CU (cs.take j)++CU (aw Bn cs (j:Int)) from VU (T:=Bn) hj,<-bm];refine cE (bK (aS ?_));dsimp only;generalize bb++nJ CU (cs.take j)=b at hb4;show Ok (av (d5 ((aw Bn cs (j:Int)).1,b)) _) _;generalize aw Bn cs (j:Int)=z;have k6:=rP z.1;refine aU (u6 _ _ (by omega)) (bZ (fE rfl (mc (aU (zN _ _ (by rw[aF];omega)) (bZ (fE rfl (mc (aj ?_))))))));dsimp only;rw[fH];unfold CU;simp only[bm]
  .rintro y rfl;refine cz (aj ?_);dsimp only;rw[fH,pG (bi _)]
 .rintro y rfl;exact cz (aj rfl)
def DA (own:η) (b i:Int) (q:η) (z:Int):η:=if 0<=aT .i64 (z-b)/\aT .i64 (z-b)<own.length then ca q (aw aP own (aT .i64 (z-b))) i else q
def luE (x:WN) (i:Nat) (q:η):η:=(eN x.2.2.2 i).2.2.2.2.2.2.foldl (DA (eY x.2.2.2 (eN x.2.2.2 i).1 i) (aw aP x.2.2.1.2.2.2 (eN x.2.2.2 i).1) (i:Int)) ((eN x.2.2.2 i).2.2.2.2.2.1.foldl (DA (eY x.2.2.2 (eN x.2.2.2 i).1 i) (aw aP x.2.2.1.2.2.2 (eN x.2.2.2 i).1) (i:Int)) q)
def EY (x:WN):Nat->η
 |0=>aD (l! x.2.2.2) (-1)
 |i+1=>luE x i (EY x i)
def Sh (own:η) (b i:Int) (q:η) (z:Int):l! (DA own b i q z)=l! q:=by
 unfold DA;split
 .exact bM ..
 .rfl
def zJ (own:η) (b i:Int):∀(l q:η),l! (l.foldl (DA own b i) q)=l! q
 |[],_=>rfl
 |z::r,q=>by rw[dz,zJ own b i r,Sh]
def Lf (x:WN):∀i,l! (EY x i)=l! x.2.2.2
 |0=>cR
 |i+1=>by rw[EY,luE,zJ,zJ,Lf x i]
def Ye {i:Int} {m:Int} (hi:i<m):∀(l A:η),(∀z∈A,z<m)->∀z∈l.foldl (DA c a i) A,z<m
 |[],_,h=>h
 |y::r,A,h=>by
  rw[dz];refine Ye hi r _ λz q=>?_
  unfold DA at q;split at q
  .rcases kB q with q|rfl
   .exact h z q
   .exact hi
  .exact h z q
def agr (x:WN):∀i,i<=l! x.2.2.2->∀z∈EY x i,z<(l! x.2.2.2:Int)
 |0,hi=>λz q=>by rw[(te.1 q).2];omega
 |i+1,hi=>by
  rw[EY,luE];exact Ye (by omega) _ _ (Ye (by omega) _ _ (agr x i (by omega)))
structure RWS (l:List ET) (i T:Nat) (js:η) (R:List η):Prop where
 a:l! js=T
 b:l! R=T
 c:∀t:Nat,t<T->Au (T:=aP) R (t:Int)=eY l (t:Int) i/\OF js (t:Int)=l! (eY l (t:Int) i)
def RWS.at {R:Y η} (h:RWS L i m c R) (D:0<=a) (A:a<m):Au (T:=aP) R a=eY L a i/\OF c a=l! (eY L a i):=by
 have:=h.c a.toNat (by omega)
 rwa [show ((a.toNat:Nat):Int)=a by omega]at this
def RWS.step {R:Y η} (h:RWS L i m c R) (t0:0<=(eN L i).1) (N:(eN L i).1<m):RWS L (i+1) m (CL c (aN (eN L i).1) (aY (ah (eY L (eN L i).1 i++[(i:Int)])))) (xM (T:=aP) (xM (T:=aP) R (eN L i).1 []) (eN L i).1 (eY L (eN L i).1 i++[(i:Int)])):=by
 have I:=h.a;have D:=h.b;refine ⟨by rw[dI];exact I,by unfold xM;rw[dI,dI];exact D,λt ht=>?_⟩;have q:=h.c t ht;unfold Au OF at q ⊢;unfold xM;rw[aA,aA]at q ⊢;rw[kL]at q ⊢;rw[g_,g_,g_,eY];by_cases e:(eN L i).1=(t:Int)
 .rw[aK (by omega:(eN L i).1.toNat=t),aK (by rw[dI];omega),aK (by omega:(eN L i).1.toNat=t),aK (show (eN L i).1.toNat<l! c by omega),aK e,e];exact⟨rfl,rfl⟩
 .rw[ay (by omega:¬(eN L i).1.toNat=t),ay (by omega:¬(eN L i).1.toNat=t),ay (by omega:¬(eN L i).1.toNat=t),ay e];exact q
def akz (n:Nat):∀i,i<n->ca (aD i (-1)++aD (n-i) (0:Int)) (i:Int) (-1)=aD (i+1) (-1)++aD (n-(i+1)) (0:Int):=λi hi=>by
 unfold ca;rw[kL,show n-i=(n-(i+1))+1 by omega,mY,List.set_append_right _ _ (by simp),wj];simp
def U0 (x:WN) (h:nz x):li x=Z (EY x (l! x.2.2.2)):=by
 refine bT ?_;unfold li bg bA bQ cS bY dt dv gz ck bV jr AY bX bI be c7 aI cL;have hl:=h.ln;have ht4:=h.vl.t;have hk:=h.jb.k;generalize hn:l! x.2.2.2=n at hl;generalize hT:l! x.1.2.2.2.2.1=T at ht4 hk;refine bZ (bZ (cK (by dsimp only[al];omega) (cK (c6 _) (bu (by dsimp only[al];omega) (by decide) ?_))));have hrl:l! (aD (aN (aY n)) (0:Int))=n:=by simp
 refine bC n (λi y=>y=((i:Int),x,aD i (-1)++aD (n-i) (0:Int))) ?_ ?_ rfl
 .rintro i y hi rfl;have hlen:l! (aD i (-1)++aD (n-i) (0:Int))=n:=by simp;omega
  refine cE (h:=by rw[hrl];dsimp only[al];omega) (aQ (by dsimp only;omega) (by rw[hlen];dsimp only;omega) (aQ (by dsimp only;omega) (by rw[hlen];dsimp only;omega) (aj ?_)));dsimp only;rw[fH,akz n i hi]
 rintro y rfl;refine cz (h:=by rw[hrl];exact c6 _) (au (P:=λr=>r=EY x n) ?_ λr hr=>aj hr);rw[CE,List.replicate_zero,cJ];refine bZ (bZ (cK (by dsimp only[al];omega) (cK (c6 _) (bu (by dsimp only[al];rw[hT];omega) (by decide) ?_))));refine bC n (λi y=>∃A R,y=((i:Int),x,EY x i,A,R)/\RWS x.2.2.2 i T A R) ?_ ?_ ⟨aD T 0,aD T [],by rw[EY,hn,<-hT];rfl,?_⟩
 .rintro i y hi ⟨A,R,rfl,hR⟩;have hi':i<l! x.2.2.2:=by omega
  have hev:=h.ev hi';have hen:=h.eni hi';have t0:=hen.t0;have t1:=hen.t1;rw[hT]at t1;have hlu:=Lf x i;rw[hn]at hlu;have hja:=hR.a;have hjb:=hR.b;let⟨c1,c2⟩:=hR.at t0 t1;refine cE (aW (λz=>∃A R,z=(x,EY x (i+1),A,R)/\RWS x.2.2.2 (i+1) T A R) ?_ ?_)
  .refine bK (aS ?_);refine aW (λz=>z=(aa,x,EY x i,A,eN x.2.2.2 i,R)) ?_ ?_
   .refine bG (λq=>bc q (gG.2 t0)) λ_=>dB (λq=>?_) λ_=>aj ?_
    .have q:(l! A:Int)<=(eN x.2.2.2 i).1:=q;exact bc q (by omega)
    .have:¬(l! x.2.2.1.2.2.2:Int)<=(eN x.2.2.2 i).1:=by omega
     dsimp only[al];rw[gq.2 (by show (eN x.2.2.2 i).1<_;omega)]
   rintro z rfl;refine fJ rfl ?_;have hst:=hR.step t0 t1;rw[EY,luE];have hcb:(eN x.2.2.2 i).1<l! x.2.2.1.2.2.2:=by omega
   have hom:∀k:Int,0<=k->k<l! (eY x.2.2.2 (eN x.2.2.2 i).1 i)->0<=aw aP (eY x.2.2.2 (eN x.2.2.2 i).1 i) k/\aw aP (eY x.2.2.2 (eN x.2.2.2 i).1 i) k<i:=λk k0 k1=>rB (ba (T:=aP) k0 k1)
   have hol:=xO x.2.2.2 (eN x.2.2.2 i).1 i;generalize eY x.2.2.2 (eN x.2.2.2 i).1 i=own at c1 c2 hom hst hol ⊢;generalize hbb:aw aP x.2.2.1.2.2.2 (eN x.2.2.2 i).1=D;generalize EY x i=I at hlu;generalize eN x.2.2.2 i=e at hev hst t0 t1 hcb hbb c1 c2 ⊢;have hit:aY (aN (OF A e.1))=(own.length:Int):=by rw[c2];simp
   have hit2:aN (OF A e.1)=own.length:=by rw[c2];simp
   refine bC 2 (λa y=>y=((a:Int),x,(if a=0 then I else if a=1 then e.2.2.2.2.2.1.foldl (DA own D (i:Int)) I else e.2.2.2.2.2.2.foldl (DA own D (i:Int)) (e.2.2.2.2.2.1.foldl (DA own D (i:Int)) I)),A,e,R)) ?_ ?_ rfl
   .rintro a y ha rfl;refine cE (bZ (a? (pY (by dsimp only;omega) (aS ?_))));obtain⟨ns,N,hns,hu0,e1,e2,e3⟩:∃(ns N:η),l! ns<=1000000/\l! N=n/\aw ((.sl aP)) [e.2.2.2.2.2.1,e.2.2.2.2.2.2] (a:Int)=ns/\(if a=0 then I else if a=1 then e.2.2.2.2.2.1.foldl (DA own D (i:Int)) I else e.2.2.2.2.2.2.foldl (DA own D (i:Int)) (e.2.2.2.2.2.1.foldl (DA own D (i:Int)) I))=N/\(if a+1=0 then I else if a+1=1 then e.2.2.2.2.2.1.foldl (DA own D (i:Int)) I else e.2.2.2.2.2.2.foldl (DA own D (i:Int)) (e.2.2.2.2.2.1.foldl (DA own D (i:Int)) I))=ns.foldl (DA own D (i:Int)) N:=by
     rcases show a=0\/a=1 by omega with rfl|rfl
     .exact⟨e.2.2.2.2.2.1,I,hev.1,hlu,rfl,rfl,rfl⟩
     .exact⟨e.2.2.2.2.2.2,e.2.2.2.2.2.1.foldl (DA own D (i:Int)) I,hev.2,by rw[zJ];exact hlu,rfl,rfl,rfl⟩
    rw[e3];dsimp only;rw[e2,e1];refine bC (l! ns) (λj y=>y=((j:Int),x,(ns.take j).foldl (DA own D (i:Int)) N,A,e,R)) ?_ ?_ rfl
    .rintro j y hj rfl;refine cE ?_;have hul:l! ((ns.take j).foldl (DA own D (i:Int)) N)=n:=by rw[zJ];exact hu0
     rw[kA (T:=aP) hj,dD];generalize (ns.take j).foldl (DA own D (i:Int)) N=uj at hul ⊢;refine aW (λz=>z=(x,DA own D (i:Int) uj (aw aP ns (j:Int)),A,e,R)) ?_ ?_
     .refine bK (aS (aQ t0 hcb (aS ?_)));dsimp only;rw[hbb];unfold DA;generalize aT .i64 (aw aP ns (j:Int)-D)=k;refine aW (λz=>z=(decide (0<=k/\k<own.length),x,uj,A,e,R)) ?_ ?_
      .refine dB (λq=>aQ t0 (by omega) (aQ t0 (by omega) (aj ?_))) λq=>aj ?_
       .dsimp only;rw[hit];by_cases q2:k<(own.length:Int)
        .rw[tB.2 q2,aO ⟨q,q2⟩]
        .rw[g8.2 (by omega),bp (by omega)]
       .have q:k<0:=q;rw[bp (by omega)]
      rintro z rfl;refine aG (λq=>?_) λq=>aj (by rw[ay q])
      rw[aK q];have hr:=hom k q.1 q.2;refine aQ t0 (by dsimp only;omega) (aQ t0 (by dsimp only;omega) ?_);dsimp only;rw[hit2];refine aQ q.1 q.2 (aQ t0 (by omega) ?_);rw[c1];refine aQ q.1 q.2 (aS (aQ hr.1 (by rw[hul];exact Int.lt_trans hr.2 (by omega)) (aQ hr.1 (by rw[hul];exact Int.lt_trans hr.2 (by omega)) (aj rfl))))
     rintro z rfl;exact aj (by dsimp only;rw[fH];rfl)
    .rintro y rfl;refine cz (aj ?_);dsimp only;rw[fH,pG (bi _)]
   .rintro y rfl;refine cz (au (P:=λz:((Int×WN×η×η×Y η)⊕η)⊕(WN×η×η×Y η)=>∃A R,z=bU (x,e.2.2.2.2.2.2.foldl (DA own D (i:Int)) (e.2.2.2.2.2.1.foldl (DA own D (i:Int)) I),A,R)/\RWS x.2.2.2 (i+1) T A R) ?_ λz hz=>aj ?_)
    .refine aQ t0 (by dsimp only;omega) (aQ t0 (by dsimp only;omega) (aQ t0 (by dsimp only;omega) ?_));dsimp only;rw[c1,hit2];refine bZ (fE rfl (bu (by rw[a_];omega) (by decide) (aQ t0 (by omega) (aQ t0 (by omega) (aj ⟨_,_,rfl,hst⟩)))))
    .obtain⟨js',R',rfl,hh⟩:=hz;exact⟨js',R',rfl,hh⟩
  .rintro z ⟨js',R',rfl,hR'⟩;exact aj ⟨js',R',by dsimp only;rw[fH],hR'⟩
 .rintro y ⟨A,R,rfl,hR⟩;exact cz (aj rfl)
 .refine ⟨by simp,by simp,λt ht=>?_⟩;unfold Au OF;rw[aA,aA,kL,mj,mj];simp[ht,eY]
def ago (k j:ζ) (v:Bool):∀m:Y v?,wP (K:=.str) (V:=.bool) j (Kf (K:=.str) (V:=.bool) k v m)=if j=k then Z v else wP (K:=.str) (V:=.bool) j m
 |[]=>by
  show (if decide (j=k)=J then Z v else U)=_;by_cases h:j=k<;>simp[h,wP]
 |(a,b)::r=>by
  have A:=ago k j v r;show wP (K:=.str) (V:=.bool) j (if decide (k=a)=J then (k,v)::r else (a,b)::Kf (K:=.str) (V:=.bool) k v r)=if j=k then Z v else if decide (j=a)=J then Z b else wP (K:=.str) (V:=.bool) j r
  by_cases h:k=a
  .subst h;rw[aK (aO rfl)];show (if decide (j=k)=J then Z v else wP (K:=.str) (V:=.bool) j r)=_;by_cases g:j=k<;>simp[g]
  .rw[ay (by simpa using h)];show (if decide (j=a)=J then Z b else wP (K:=.str) (V:=.bool) j (Kf (K:=.str) (V:=.bool) k v r))=_;rw[A];by_cases g:j=a
   .subst g;rw[aK (aO rfl),ay λq=>h q.symm,aK (aO rfl)]
   .simp only[g,decide_false,cA,fM]
def Cy (l:Y ζ) (m:Y v?):Prop:=∀s,FD (K:=.str) (V:=.bool) s m aa=decide (s∈l)
def Cy.nil:Cy [] []:=λs=>by simp[FD,wP]
def Cy.snoc {l:Y ζ} {m:Y v?} (h:Cy l m) (x:ζ):Cy (l++[x]) (Kf (K:=.str) (V:=.bool) x J m):=λs=>by
 have:=h s;unfold FD at this ⊢;rw[ago];by_cases e:s=x
 .subst e;simp
 .rw[ay e,this];simp[e]
abbrev Cz:Type:=CF×Y ν
def LN (ky:CF->ζ) (g:sA) (nx:Y Cz) (d:Cz):Y Cz:=if Ud d.1 g=J then nx else if ky d.1∈nx.map (λq=>ky q.1) then nx else nx++[d]
def al5 (ky:CF->ζ) (g:sA) (nx:Y Cz) (d:Cz):l! (LN ky g nx d)<=l! nx+1:=by
 unfold LN;split
 .omega
 .split
  .omega
  .rw[aF];exact bi _
def al4 {ky:CF->ζ} {nx:Y Cz} {d q:Cz} (h:q∈LN ky e nx d):q∈nx\/q=d:=by
 unfold LN at h;split at h
 .exact .inl h
 .split at h
  .exact .inl h
  .rcases bt.1 h with h|h
   .exact .inl h
   .rw[aE]at h;exact .inr h
def aky {k:M R} {Q:R->Prop} (h:i<=4294967296) (q:Ok k Q):Ok (chk (bh i 224) λ_=>k) Q:=bO (by
 unfold bh;rw[ak];rw[Nat.ble_eq,Nat.ble_eq];exact⟨by omega,by omega⟩) q
def ak1 (x:WN) (h:nz x) (g:sA) (I:GV x.1 (l! x.2.2.2) (aw gm x.2.2.2) (aw pE (ze x (l! x.2.2.2))) g) (A:η) (hlu:l! A=l! x.2.2.2) (hu:∀z∈A,z<(l! x.2.2.2:Int)) (c:CF) (N:CI x c) (p:Y ν) (hp:l! p<=100) (t u:Int) (he:Ig x c t=J) (res:Y ν) (nx:Y Cz) (m:Y v?) (hnx:l! nx+1<=4294967296) (hm:Cy (nx.map λq=>HO (l! x.2.2.2) q.1 A) m):
 Ok (oe (((c,p),t,u),x,g,res,A,m,nx)) λy=>(K9 x (sD x c t u) g=J->y.1=J/\y.2.2.2.1=p++[(t,u)])/\(K9 x (sD x c t u) g=aa->∃m',y=(aa,x,g,res,A,m',LN (λd=>HO (l! x.2.2.2) d A) g nx (sD x c t u,p++[(t,u)]))/\Cy ((LN (λd=>HO (l! x.2.2.2) d A) g nx (sD x c t u,p++[(t,u)])).map λq=>HO (l! x.2.2.2) q.1 A) m'):=by
 unfold oe bg bA bQ cS ji gz tb bX be aI;have hd:=IZ h N u he;refine aU (arz x h c N t u) ?_;rw[aK he];generalize sD x c t u=d at hd;refine fJ rfl ?_;refine aW (λz=>z=(p++[(t,u)],x,g,res,A,m,d,nx)) ?_ ?_
 .have ht:cu (aN (aY (l! p))) p=p:=cH;refine bZ (bZ (R9 rfl (cK (by dsimp only[al];omega) (cK (c6 _) ?_))));dsimp only;rw[ht];exact bu (by rw[a_];omega) (by decide) (fJ rfl (aj rfl))
 rintro z rfl;refine aU (ac6 x h d hd g I) (aR (λq=>aj ⟨λ_=>⟨rfl,rfl⟩,λq2=>?_⟩) λq=>?_)
 .exact bc (q.symm.trans q2) (by decide)
 have q:K9 x d g=aa:=q;refine aU (agn x h d hd g I.ns) (aR (λq2=>aj ⟨λq3=>bc (q.symm.trans q3) (by decide),λ_=>⟨m,?_,?_⟩⟩) λq2=>?_)
 .unfold LN;rw[aK q2]
 .unfold LN;rw[aK q2];exact hm
 have q2:Ud d g=aa:=q2;refine aW (λz=>∃m',z=(x,g,res,A,m',LN (λd=>HO (l! x.2.2.2) d A) g nx (d,p++[(t,u)]))/\Cy ((LN (λd=>HO (l! x.2.2.2) d A) g nx (d,p++[(t,u)])).map λq=>HO (l! x.2.2.2) q.1 A) m') ?_ ?_
 .refine aU (auk x h d hd A hlu hu) ?_;have hmk:=hm (HO (l! x.2.2.2) d A);unfold LN;rw[ay (by rw[q2];decide)];refine dc (λo=>?_) λo=>aj ⟨m,?_,?_⟩
  .have hin:¬HO (l! x.2.2.2) d A∈nx.map λq=>HO (l! x.2.2.2) q.1 A:=vy (hmk.symm.trans o)
   rw[ay hin];refine aky (by rw[a_];exact hnx) (aj ⟨_,rfl,?_⟩);rw[b7];exact hm.snoc _
  .have hin:HO (l! x.2.2.2) d A∈nx.map λq=>HO (l! x.2.2.2) q.1 A:=aZ (hmk.symm.trans o)
   rw[aK hin]
  .have hin:HO (l! x.2.2.2) d A∈nx.map λq=>HO (l! x.2.2.2) q.1 A:=aZ (hmk.symm.trans o)
   rw[aK hin];exact hm
 rintro z ⟨m',rfl,D⟩;exact aj ⟨λq3=>bc (q.symm.trans q3) (by decide),λ_=>⟨m',rfl,D⟩⟩
def cdC (x:WN) (q:Cz):Y Cz:=(chN x q.1 (l! x.1.2.2.2.2.1)).map λch=>(sD x q.1 ch.1 ch.2,q.2++[ch])
def Is (x:WN):Y Cz->Y Cz
 |[]=>[]
 |q::r=>cdC x q++Is x r
def C2 (x:WN):∀l m:Y Cz,Is x (l++m)=Is x l++Is x m
 |[],m=>rfl
 |q::r,m=>by rw[ft,Is,Is,C2 x r m,bm]
def nxL (x:WN) (g:sA) (q:η) (L:Y Cz):Y Cz:=(Is x L).foldl (LN (λd=>HO (l! x.2.2.2) d q) g) []
def fnd (x:WN) (g:sA) (q:η):Nat->Y Cz->Prop
 |0,_=>False
 |k+1,L=>(∃d∈Is x L,K9 x d.1 g=J)\/fnd x g q k (nxL x g q L)
def S_ (x:WN) (g:sA) (q:η):∀k,¬fnd x g q k []
 |0=>id
 |k+1=>λh=>by
  rcases h with ⟨d,h,_⟩|h
  .cases h
  .exact S_ x g q k h
def Aj {c:CF} {z:ν}:∀{n:Nat},z∈chN k c n->Ig k c z.1=J
 |0,h=>by cases h
 |n+1,h=>by
  rw[chN]at h;rcases bt.1 h with h|h
  .exact Aj h
  .unfold chT at h;split at h
   .rename_i he;unfold chE at h;split at h
    .rw[aE]at h;subst h;exact he
    .obtain⟨j,_,rfl⟩:=cv.1 h;exact he
   .cases h
def aij (h:nz k) {c:CF} (q:CI k c):l! (chN k c (l! k.1.2.2.2.2.1))<=16:=by
 have ht:=h.vl.t;have D:=q.l3;have aux:∀n,l! (chN k c n)<=n*4:=λn=>by
  induction n with
  |zero=>exact dU _
  |succ n A=>
   rw[chN,aF,jl];have:l! (chT k c (n:Int))<=4:=by
    unfold chT;split
    .unfold chE;split
     .simp
     .rw[bj];exact cP (K4 ..) (by omega)
    .exact dU _
   omega
 have:=aux (l! k.1.2.2.2.2.1);omega
structure LV (x:WN) (k:Nat) (L:List Cz):Prop where
 n:l! L<=16^k
 a:∀q∈L,CI x q.1/\l! q.1.2.2.2.1=k/\l! q.2=k
def LV.le {x:Nat} {L:Y Cz} (h:LV k x L) (A:l! k.2.2.2<x):L=[]:=by
 cases L with
 |nil=>rfl
 |cons q r=>
  have:=h.a q (cj ..);have:=this.1.ln;omega
def an0 (h:nz k) {q d:Cz} (A:CI k q.1) (hd:d∈cdC k q):CI k d.1/\l! d.1.2.2.2.1=l! q.1.2.2.2.1+1/\l! d.2=l! q.2+1:=by
 obtain⟨ch,h1,rfl⟩:=cv.1 hd;refine ⟨IZ h A _ (Aj h1),?_,?_⟩
 .dsimp only;rw[qI,aF];rfl
 .rw[aF];rfl
def G5 {d:Cz}:∀{L:Y Cz},d∈Is k L->∃q∈L,d∈cdC k q
 |[],h=>by cases h
 |q::r,h=>by
  rw[Is]at h;rcases bt.1 h with h|h
  .exact⟨q,cj ..,h⟩
  .obtain⟨A,h1,h2⟩:=G5 h;exact⟨A,bP _ h1,h2⟩
def Z8 {ky:CF->ζ} :∀{l nx:Y Cz} {q:Cz},q∈l.foldl (LN ky e) nx->q∈nx\/q∈l
 |[],nx,q,h=>.inl h
 |d::r,nx,q,h=>by
  rw[dz]at h;rcases Z8 h with h|h
  .rcases al4 h with h|rfl
   .exact .inl h
   .exact .inr (cj ..)
  .exact .inr (bP _ h)
def R4 (ky:CF->ζ) (g:sA):∀(l nx:Y Cz),l! (l.foldl (LN ky g) nx)<=l! nx+l! l
 |[],nx=>bi _
 |d::r,nx=>by
  rw[dz,fX];have h1:=R4 ky g r (LN ky g nx d);have h2:=al5 ky g nx d;omega
def TN (h:nz k):∀{L:Y Cz},(∀q∈L,CI k q.1)->l! (Is k L)<=l! L*16
 |[],_=>dU _
 |q::r,hL=>by
  have h1:=TN h (L:=r) λq A=>hL q (bP _ A)
  have h2:=aij h (hL q (cj ..));have h3:l! (cdC k q)=l! (chN k q.1 (l! k.1.2.2.2.2.1)):=bj ..;rw[Is,aF,fX,jl];omega
def LV.next (h:nz k) {x:Nat} {L:Y Cz} (hL:LV k x L) (g:sA) (D:η):LV k (x+1) (nxL k g D L):=by
 refine ⟨?_,λq A=>?_⟩
 .have h1:=R4 (λd=>HO (l! k.2.2.2) d D) g (Is k L) [];have h2:=TN h λq A=>(hL.a q A).1
  have h3:=hL.n;rw[Nat.pow_succ];show (l! (nxL k g D L))<=_;unfold nxL;have h4:=cg 16 h3;simp only[eS]at h1;omega
 .rcases Z8 A with A|A
  .cases A
  .obtain⟨I,h1,h2⟩:=G5 A;let⟨N,a2,a3⟩:=hL.a I h1;let⟨b1,b2,b3⟩:=an0 h N h2;exact⟨b1,by omega,by omega⟩
def VR :∀{j:Nat} {L:Y Cz},fnd k e c j L->fnd k e c (j+1) L
 |0,_,h=>h.elim
 |_+1,_,h=>Or.imp id VR h
def Ta {L:Y Cz} (h:fnd k e c i L):∀{x:Nat},i<=x->fnd k e c x L
 |0,A=>by rw[show i=0 by omega]at h;exact h
 |x+1,A=>by
  rcases bF x i with e|e
  .rw[show x+1=i by omega];exact h
  .exact VR (Ta h e)
def FOK (x:WN) (g:sA) (y:Y ν×Bool):Prop:=
 (l! y.1)<=l! x.2.2.2/\
 (y.2=J->GV x.1 (l! x.2.2.2) (aw gm x.2.2.2) (aw pE (ze x (l! x.2.2.2))) g/\(l! y.1=0/\K9 x (st0 x) g=J\/fnd x g (EY x (l! x.2.2.2)) (l! y.1) [(st0 x,[])]))/\
 (GV x.1 (l! x.2.2.2) (aw gm x.2.2.2) (aw pE (ze x (l! x.2.2.2))) g->(K9 x (st0 x) g=J->y.2=J/\l! y.1=0)/\∀j,fnd x g (EY x (l! x.2.2.2)) j [(st0 x,[])]->y.2=J/\l! y.1<=j)
def ak2 (x:WN) (h:nz x) (g:sA):Ok (oN (x,g)) (FOK x g):=by
 unfold oN bg bA bQ cS ji RA bY dt dv gz Rz bV bX bI mn be c7 aI cL;refine au (Oo x h g) λb hb=>dc (λq=>aj ⟨dU _,nofun,λa=>?_⟩) λq=>?_
 .rw[hb.2 a]at q;cases q
 have hg:=hb.1 q;refine aU (U0 x h) (aU (ann x h) (aU (ac6 x h _ (RK h) g hg) (aR (λq=>aj ⟨dU _,λ_=>⟨hg,.inl ⟨rfl,q⟩⟩,λ_=>⟨λ_=>⟨rfl,rfl⟩,λ_ _=>⟨rfl,dU _⟩⟩⟩) λq=>?_)));have q0:K9 x (st0 x) g=aa:=q;have hlu:=Lf x (l! x.2.2.2);have hult:=agr x (l! x.2.2.2) (bi _);unfold FOK;generalize EY x (l! x.2.2.2)=A at hlu hult ⊢;have hln:=h.ln;suffices hmain:Ok _ λy:Y ν×Bool=>l! y.1<=l! x.2.2.2/\(y.2=J->fnd x g A (l! y.1) [(st0 x,[])])/\∀j,fnd x g A j [(st0 x,[])]->y.2=J/\l! y.1<=j from hmain.mono λy I=>⟨I.1,λa=>⟨hg,.inr (I.2.1 a)⟩,λ_=>⟨λa=>bc (q0.symm.trans a) (by decide),I.2.2⟩⟩
 refine bC (l! x.2.2.2+1) (λk y=>∃fl L,y=(x,g,A,fl,L)/\LV x k L/\∀j,fnd x g A (k+j) [(st0 x,[])]↔fnd x g A j L) ?_ ?_ ⟨aa,_,rfl,⟨by simp,λq D=>by rw[aE]at D;subst D;exact⟨RK h,rfl,rfl⟩⟩,λj=>by rw[b9]⟩
 .rintro k y hk ⟨fl,L,rfl,hL,hf⟩;have hLn:=hL.n;have h16:(16:Nat)^k<=16^8:=Nat.pow_le_pow_right (by decide) (by omega);rw[show (16:Nat)^8=4294967296 by decide]at h16;refine bG (λhpos=>?_) λhpos=>aj ?_
  .refine bC (l! L) (λi y=>∃res m nx,y=((i:Int),x,g,A,res,(fl,L),nx,m)/\nx=(Is x (L.take i)).foldl (LN (λd=>HO (l! x.2.2.2) d A) g) []/\Cy (nx.map λq=>HO (l! x.2.2.2) q.1 A) m/\∀d∈Is x (L.take i),K9 x d.1 g=aa) ?_ ?_ ⟨[],[],[],rfl,rfl,Cy.nil,λd hd=>by cases hd⟩
   .rintro i y hi ⟨res,m,nx,rfl,hnx,hm,hno⟩;obtain⟨q,D,hqm⟩:∃q,aw XO L (i:Int)=q/\L.take (i+1)=L.take i++[q]:=⟨_,rfl,kA (T:=XO) hi⟩
    have hqL:q∈L:=by rw[<- D];exact ba (T:=XO) (by omega) (by omega)
    obtain⟨N,ho,hp⟩:=hL.a q hqL;refine cE (bK (bK (aS ?_)));dsimp only;rw[D];refine aU (aea x h q.1 N) ?_;have hcd:Is x (L.take (i+1))=Is x (L.take i)++cdC x q:=by rw[hqm,C2,Is,Is,cJ]
    have hch:=aij h N;have hmem:∀z∈chN x q.1 (l! x.1.2.2.2.2.1),Ig x q.1 z.1=J:=λz hz=>Aj hz
    have hcl:l! (Is x (L.take i))<=i*16:=by
     have:=TN h (L:=L.take i) λq D=>(hL.a q (dV D)).1
     rw[bl]at this;exact cP this (cg 16 (by omega))
    unfold cdC at hcd;generalize chN x q.1 (l! x.1.2.2.2.2.1)=cs at hcd hch hmem;refine bC (l! cs) (λj y=>∃res m nx,y=((j:Int),x,g,A,res,q,(fl,L),nx,m)/\nx=(Is x (L.take i)++(cs.take j).map λch=>(sD x q.1 ch.1 ch.2,q.2++[ch])).foldl (LN (λd=>HO (l! x.2.2.2) d A) g) []/\Cy (nx.map λq=>HO (l! x.2.2.2) q.1 A) m/\∀d∈Is x (L.take i)++(cs.take j).map (λch=>((sD x q.1 ch.1 ch.2,q.2++[ch]):Cz)),K9 x d.1 g=aa) ?_ ?_ ⟨res,m,nx,rfl,by rw[List.take_zero,wE,cJ];exact hnx,hm,by rw[List.take_zero,wE,cJ];exact hno⟩
    .rintro j y hj ⟨res,m,nx,rfl,hnx,hm,hno⟩;obtain⟨ch,hch1,hchm⟩:∃ch:ν,aw iK cs (j:Int)=ch/\cs.take (j+1)=cs.take j++[ch]:=⟨_,rfl,kA (T:=iK) hj⟩
     have hchc:ch∈cs:=by rw[<- hch1];exact ba (T:=iK) (by omega) (by omega)
     have hen:=hmem ch hchc;have hkn:k<8:=by
      have:=(IZ h N ch.2 hen).ln;rw[qI,aF,ho]at this;simp only[a_]at this;omega
     have hiL:i<16^7:=by
      have:(16:Nat)^k<=16^7:=Nat.pow_le_pow_right (by decide) (by omega);omega
     rw[show (16:Nat)^7=268435456 by decide]at hiL;have hnl:l! nx+1<=4294967296:=by
      have:=R4 (λd=>HO (l! x.2.2.2) d A) g (Is x (L.take i)++(cs.take j).map λch=>(sD x q.1 ch.1 ch.2,q.2++[ch])) [];rw[<- hnx,aF,bj,bl]at this;simp only[eS]at this;omega
     refine cE (bK (aS ?_));dsimp only;rw[hch1];obtain⟨t,u⟩:=ch;obtain⟨c,p⟩:=q;refine au (ak1 x h g hg A hlu hult c N p (by dsimp only at hp;omega) t u hen res nx m hnl hm) λy I=>bZ (fE rfl (mc ?_))
     cases hrc:K9 x (sD x c t u) g with
     |true=>
      obtain⟨y1,y2⟩:=I.1 hrc;refine aR (λ_=>aj ⟨?_,?_⟩) λa=>bc (y1.symm.trans a) (by decide)
      .dsimp only;rw[y2,aF,a_];have:=(IZ h N u hen).ln;rw[qI,aF,a_]at this;dsimp only at hp ho this ⊢;omega
      .dsimp only;have hyl:l! (p++[(t,u)])=k+1:=by rw[aF,a_];dsimp only at hp;omega
       rw[y2,hyl];refine ⟨λ_=>(hf 1).2 (.inl ⟨(sD x c t u,p++[(t,u)]),?_,hrc⟩),λj hj=>⟨rfl,?_⟩⟩
       rotate_left
       .rcases bF k j with g2|g2
        .exact g2
        .exact ((hf 0).1 (Ta hj g2)).elim
       have:L=L.take i++([(c,p)]++L.drop (i+1)):=by rw[<- bm,<-hqm,oK]
       rw[this,C2,C2,bt,bt];refine .inr (.inl ?_);rw[hqm,C2]at hcd;rw[List.append_cancel_left hcd];exact cv.2 ⟨(t,u),hchc,rfl⟩
     |false=>
      obtain⟨m',y2,hm'⟩:=I.2 hrc;rw[y2];refine fJ rfl (aj ⟨res,m',_,?_,?_,hm',?_⟩)
      .dsimp only;rw[fH]
      .rw[hchm,b7,<-bm,dD,<-hnx];rfl
      .rw[hchm,b7,<-bm];intro d hd;rcases bt.1 hd with hd|hd
       .exact hno d hd
       .rw[eg,wE,aE]at hd;subst hd;exact hrc
    .rintro y ⟨res,m,nx,rfl,hnx,hm,hno⟩;rw[pG (bi _),<-hcd]at hnx hno;refine cz (aj ⟨res,m,nx,?_,hnx,hm,hno⟩);dsimp only;rw[fH]
   .rintro y ⟨res,m,nx,rfl,hnx,hm,hno⟩;rw[pG (bi _)]at hnx hno;refine cz (aj ⟨J,nx,rfl,?_,?_⟩)
    .have:nx=nxL x g A L:=hnx;rw[this];exact hL.next h g A
    .have:nx=nxL x g A L:=hnx;intro j;rw[this,show k+1+j=k+(j+1) by omega,hf];exact⟨λa=>a.resolve_left λ⟨d,h1,h2⟩=>bc ((hno d h1).symm.trans h2) (by decide),.inr⟩
  .have hpos:(l! L:Int)<=0:=hpos;have:L=[]:=List.eq_nil_of_length_eq_zero (by omega);subst this;exact⟨dU _,nofun,λj a=>(S_ x g A j ((hf j).1 (Ta a (Nat.le_add_left _ _)))).elim⟩
 .rintro y ⟨fl,L,rfl,hL,hf⟩;have:L=[]:=hL.le (by omega);subst this;exact cz (h:=c6 _) (aj ⟨dU _,nofun,λj a=>(S_ x g A j ((hf j).1 (Ta a (Nat.le_add_left _ _)))).elim⟩)
def dvF (a z:Int):Int:=a*36+(if z<58 then z-48 else z-87)
def aq8:∀k:Nat,k<36->(if sC Qj (k:Int)<58 then sC Qj (k:Int)-48 else sC Qj (k:Int)-87)=(k:Int)/\48<=sC Qj (k:Int)/\sC Qj (k:Int)<=122:=by decide
def RR (h0:0<=a) (h:a<36):(if sC Qj a<58 then sC Qj a-48 else sC Qj a-87)=a/\48<=sC Qj a/\sC Qj a<=122:=by
 have:=aq8 a.toNat (by omega)
 rwa [show ((a.toNat:Nat):Int)=a by omega]at this
def ai5 {u:Int} (h0:0<=u) (h:u<36):dvF a (sC Qj u)=a*36+u:=by unfold dvF;rw[(RR h0 h).1]
def Te:∀(n:Nat) (u:Int) (D:η),0<=u->u<36^(n+1)->(Hi n u D).foldl dvF 0=D.foldl dvF u
 |0,u,D,h0,h=>by rw[Hi,dz,ai5 h0 (by simpa using h)];congr 1;omega
 |n+1,u,D,h0,h=>by
  rw[Hi];split
  .rw[Int.pow_succ]at h;rw[Te n (u/36) _ (by omega) (by omega),dz,ai5 (by omega) (by omega)];congr 1;omega
  .rw[dz,ai5 h0 (by omega)];congr 1;omega
def Lm:∀(n:Nat) (u:Int) (D:η),0<=u->u<36^(n+1)->∀z∈Hi n u D,z∈D\/48<=z/\z<=122
 |0,u,D,h0,h=>λz q=>by
  rw[Hi]at q;rcases bk.1 q with rfl|q
  .exact .inr (RR h0 (by simpa using h)).2
  .exact .inl q
 |n+1,u,D,h0,h=>λz q=>by
  rw[Hi]at q;split at q
  .rw[Int.pow_succ]at h;rcases Lm n (u/36) _ (by omega) (by omega) z q with q|q
   .rcases bk.1 q with rfl|q
    .exact .inr (RR (by omega) (by omega)).2
    .exact .inl q
   .exact .inr q
  .rcases bk.1 q with rfl|q
   .exact .inr (RR h0 (by omega)).2
   .exact .inl q
def ZD (i:Int):Int:=if i<0 then -i else i
def sgD (i:Int):η:=(if i<0 then [45] else [])++Hi 13 (ZD i) []
def agz (h:IW a):kb a=sgD a++[32]:=by
 let⟨h0,h1⟩:=h;have:(if a<0 then aT .u64 (0-aT .u64 a) else aT .u64 a)=ZD a:=by
  unfold ZD;split
  .rw[wrU,wrU];omega
  .rw[wrU];omega
 unfold kb sgD;rw[this,bm]
def ZC (h:IW a):0<=ZD a/\ZD a<36^(13+1):=by
 rw[show (36:Int)^(13+1)=6140942214464815497216 by decide];let⟨h0,h1⟩:=h;unfold ZD;split<;>omega
def aos {s:η}:∀{a b:η},¬32∈a->¬32∈b->a++32::c=b++32::s->a=b/\c=s
 |[],[],_,_,h=>⟨rfl,(E8 h).2⟩
 |[],y::b,_,q,h=>bc (bk.2 (.inl (E8 h).1)) q
 |x::a,[],A,_,h=>bc (bk.2 (.inl (E8 h).1.symm)) A
 |x::a,y::b,A,q,h=>by
  let⟨h1,h2⟩:=E8 h;let⟨h3,h4⟩:=aos (λg=>A (bP _ g)) (λg=>q (bP _ g)) h2;exact⟨by rw[h1,h3],h4⟩
def RO (h:IW a):∀z∈sgD a,z=45\/48<=z/\z<=122:=λz q=>by
 unfold sgD at q;rcases bt.1 q with q|q
 .split at q
  .exact .inl (aE.1 q)
  .cases q
 .obtain⟨i,b⟩:=ZC h;exact .inr ((Lm 13 _ [] i b z q).resolve_left (by simp))
def akt {j:Int} (hi:IW a) (hj:IW j) (e:sgD a=sgD j):a=j:=by
 let⟨N,I⟩:=ZC hi;let⟨b0,b1⟩:=ZC hj;have v1:(Hi 13 (ZD a) []).foldl dvF 0=ZD a:=Te 13 _ [] N I;have v2:(Hi 13 (ZD j) []).foldl dvF 0=ZD j:=Te 13 _ [] b0 b1;have A:=Lm 13 (ZD a) [] N I 45;have m2:=Lm 13 (ZD j) [] b0 b1 45;unfold sgD at e;generalize Hi 13 (ZD a) []=D at v1 A e;generalize Hi 13 (ZD j) []=E at v2 m2 e;unfold ZD at v1 v2;by_cases p:a<0
 .rw[aK p]at e v1;by_cases q:j<0
  .rw[aK q]at e v2;rw[List.append_cancel_left e]at v1;omega
  .rw[ay q]at e;have:=(m2 (by rw[<- show [45]++D=E from e];simp)).resolve_left (by simp);omega
 .rw[ay p]at e v1;by_cases q:j<0
  .rw[aK q]at e;have:=(A (by rw[show D=[45]++E from e];simp)).resolve_left (by simp);omega
  .rw[ay q]at e v2;rw[show D=E from e]at v1;omega
def PJx (P:R->Prop) (f:R->η):Prop:=∀{x y:R} {r s:η},P x->P y->f x++r=f y++s->x=y/\r=s
def Me:PJx IW kb:=λ{x y r s} A q e=>by
 rw[agz A,agz q,bm,bm]at e;let⟨h1,h2⟩:=aos (λh=>by have:=RO A 32 h;omega) (λh=>by have:=RO q 32 h;omega) e;exact⟨akt A q h1,h2⟩
def aap {a:Bool} (h:Mf a=Mf b):a=b:=by cases a<;>cases b<;>first|rfl|exact bc h (by decide)
def Sk:PJx (λ_=>True) Mf:=λ{x y r s} _ _ e=>by
 let⟨h1,h2⟩:=List.append_inj e (by rw[u7,u7]);exact⟨aap h1,h2⟩
def Ew {P:R->Prop} {f:R->η} (h:PJx P f):∀{l m:Y R} {r s:η},l! l=l! m->(∀x∈l,P x)->(∀x∈m,P x)->nJ f l++r=nJ f m++s->l=m/\r=s
 |[],[],_,_,_,_,_,e=>⟨rfl,e⟩
 |[],_::_,_,_,q,_,_,_|_::_,[],_,_,q,_,_,_=>by cases q
 |x::l,y::m,r,s,q,h1,h2,e=>by
  rw[nJ,nJ,bm,bm]at e;let⟨e1,e2⟩:=h (h1 x (cj ..)) (h2 y (cj ..)) e;let⟨e3,e4⟩:=Ew h (by simpa using q) (λx A=>h1 x (bP _ A)) (λx A=>h2 x (bP _ A)) e2;exact⟨by rw[e1,e3],e4⟩
def aln:PJx (λx=>IW x.1/\IW x.2.1) zL:=λ{x y r s} A q e=>by
 unfold zL at e;simp only[bm]at e;let⟨e1,e⟩:=Me A.1 q.1 e;let⟨e2,e⟩:=Me A.2 q.2 e;let⟨e3,e⟩:=Sk trivial trivial e;exact⟨Prod.ext e1 (Prod.ext e2 e3),e⟩
def agw:PJx (λx=>IW x.1) CU:=λ{x y r s} A q e=>by
 unfold CU at e;simp only[bm]at e;let⟨e1,e⟩:=Me A q e;let⟨e2,e⟩:=Sk trivial trivial e;exact⟨Prod.ext e1 e2,e⟩
def aqt:PJx (λx=>IW x.1/\IW (l! x.2)/\∀z∈x.2,IW z) kyL:=λ{x y r s} A q e=>by
 unfold kyL at e;simp only[bm]at e;let⟨e1,e⟩:=Me A.1 q.1 e;let⟨e2,e⟩:=Me A.2.1 q.2.1 e;let⟨e3,e⟩:=Ew Me (by omega) A.2.2 q.2.2 e;exact⟨Prod.ext e1 e3,e⟩
def BY (z:Int):Prop:=0<=z/\z<256
def I1 (h:IW a):∀z∈kb a,BY z:=λz q=>by
 rw[agz h]at q;unfold BY;rcases bt.1 q with q|q
 .have:=RO h z q;omega
 .rw[aE]at q;omega
def HS (b:Bool):∀z∈Mf b,BY z:=by cases b<;>(unfold Mf BY;simp)
def pB {b:η} (h1:∀z∈c,BY z) (h2:∀z∈b,BY z):∀z∈c++b,BY z:=λz q=>(bt.1 q).elim (h1 z) (h2 z)
def Ey {f:R->η}:∀{l:Y R},(∀x∈l,∀z∈f x,BY z)->∀z∈nJ f l,BY z
 |[],_=>λz q=>by cases q
 |x::l,h=>pB (h x (cj ..)) (Ey λy A=>h y (bP _ A))
def Yh (q A:η) (fx:θ):∀n,∀z∈Yi q A fx n,BY z
 |0=>λz D=>by cases D
 |n+1=>pB (Yh q A fx n) (pB (HS _) (HS _))
def Rg:∀{l m:η},(∀z∈l,BY z)->(∀z∈m,BY z)->nP l=nP m->l=m
 |[],[],_,_,_=>rfl
 |[],_::_,_,_,h|_::_,[],_,_,h=>by cases h
 |x::l,y::m,h1,h2,h=>by
  let⟨a,b⟩:=E8 (show AW x.toNat::nP l=AW y.toNat::nP m from h);have D:=h1 x (cj ..);have A:=h2 y (cj ..);have e:=gW UInt8.toNat a;unfold BY at D A;rw[UInt8.toNat_ofNat',UInt8.toNat_ofNat',lF (by omega),lF (by omega)]at e;rw[Rg (λz q=>h1 z (bP _ q)) (λz q=>h2 z (bP _ q)) b];congr 1;omega
def Hj (s:SY):Prop:=(∀l∈s.1,IW l.1)/\IW s.2.1/\∀t∈s.2.2.2,IW t.1/\IW t.2.1
def RGd (c:CF):Prop:=Hj c.1/\(∀z∈c.2.1,IW z.1)/\∀z∈c.2.2.1,IW z.1
def agx {c:CF} (h:CI k c) (g:RGd c):∀z∈kyB c,BY z:=by
 let⟨⟨g1,g2,D⟩,N,I⟩:=g;refine pB (Ey λl A=>?_) (pB (I1 g2) (pB (Ey λb _=>HS b) (pB (Ey λt ht=>pB (I1 (D t ht).1) (pB (I1 (D t ht).2) (HS _))) (pB (Ey λz q=>pB (I1 (N z q)) (HS _)) (Ey λz q=>pB (I1 (I z q)) (HS _))))));have h4:=h.p8.le l A;exact pB (I1 (g1 l A)) (pB (I1 ⟨by omega,by omega⟩) (Ey λz q=>I1 (by have:=(h.p8 l A).2 z q;exact⟨by omega,by omega⟩)))
def aak {od' q:η} {fx fx':θ}:∀{n:Nat},Yi c q fx n=Yi od' q fx' n->∀k:Nat,k<n->c.contains (k:Int)=od'.contains (k:Int)/\kyU c fx (aw aP q (k:Int)) (k:Int)=kyU od' fx' (aw aP q (k:Int)) (k:Int)
 |0,_=>λk D=>bc D (dp _)
 |n+1,e=>λk D=>by
  let⟨e1,e2⟩:=List.append_inj (show Yi c q fx n++_=Yi od' q fx' n++_ from e) (by rw[zM,zM]);rcases bF k n with g|g
  .exact aak e1 k g
  .have:k=n:=by omega
   subst this;let⟨a,e2⟩:=Sk trivial trivial e2;exact⟨a,aap e2⟩
def alp {I d:CF} (q:CI k I) (hd:CI k d) (A:RGd I) (D:RGd d) (e:HO i I c=HO i d c):(∀x:Nat,x<i->I.2.2.2.1.contains (x:Int)=d.2.2.2.1.contains (x:Int)/\kyU I.2.2.2.1 I.2.2.2.2.1 (aw aP c (x:Int)) (x:Int)=kyU d.2.2.2.1 d.2.2.2.2.1 (aw aP c (x:Int)) (x:Int))/\I.1=d.1/\I.2.1=d.2.1/\I.2.2.1=d.2.2.1:=by
 have e:=Rg (pB (Yh _ _ _ _) (agx q A)) (pB (Yh _ _ _ _) (agx hd D)) e;let⟨e1,e2⟩:=List.append_inj e (by rw[zM,zM]);refine ⟨aak e1,?_⟩;have rl:∀{I:CF},CI k I->RGd I->∀l∈I.1.1,IW l.1/\IW (l! l.2)/\∀z∈l.2,IW z:=λq A l N=>by
  have h4:=q.p8.le l N;exact⟨A.1.1 l N,⟨by omega,by omega⟩,λz hz=>by have:=(q.p8 l N).2 z hz;exact⟨by omega,by omega⟩⟩
 unfold kyB at e2;let⟨a1,e2⟩:=Ew aqt (by rw[q.l1,hd.l1]) (rl q A) (rl hd D) e2;let⟨a2,e2⟩:=Me A.1.2.1 D.1.2.1 e2;let⟨a3,e2⟩:=Ew Sk (by rw[q.l2,hd.l2]) (λ_ _=>trivial) (λ_ _=>trivial) e2;let⟨a4,e2⟩:=Ew aln (by rw[q.l3,hd.l3]) A.1.2.2 D.1.2.2 e2;let⟨a5,e2⟩:=Ew agw (by rw[q.ce,hd.ce]) A.2.1 D.2.1 e2;have:=Ew (r:=[]) (s:=[]) agw (by rw[q.fu,hd.fu]) A.2.2 D.2.2 (by rw[cJ,cJ];exact e2);exact⟨Prod.ext a1 (Prod.ext a2 (Prod.ext a3 a4)),a5,this.1⟩
def MJ {xs:Y T.den} {p:T.den->Prop} (h:∀x∈xs,p x) (h0:p T.zero) (j:Int):p (aw _ xs j):=by
 unfold aw;rw[aA];cases q:xs[j.toNat]? with
 |none=>exact h0
 |some x=>exact h x (bn q)
def Hj.ite {c:Prop} [Decidable c] {a b:U!} (A:Hj a.1) (q:Hj b.1):Hj (if c then a else b).1:=by by_cases h:c<;>simp[h,A,q]
def XB (l:Y i?):Prop:=∀t∈l,IW t.1/\IW t.2.1
def XB.at (h:XB Q) (j:Int):IW (aw gU Q j).1/\IW (aw gU Q j).2.1:=MJ (T:=gU) (p:=λt=>IW t.1/\IW t.2.1) h ⟨IW.sm (by decide) (by decide),IW.sm (by decide) (by decide)⟩ j
def XB.set (h:XB Q) (j:Int) {t:i?} (ht:IW t.1/\IW t.2.1):XB (ca Q j t):=λx q=>by
 rcases kB q with q|rfl
 .exact h x q
 .exact ht
def XB.st (h:XB Q) (j a:Int) (q:IW a):XB (Dx Q j a):=h.set j ⟨q,(h.at j).2⟩
def XB.na:∀(q:η) {l:Y i?},XB l->XB (IY l q)
 |[],_,h=>h
 |u::r,l,h=>XB.na r (h.st u 4 (IW.sm (by decide) (by decide)))
def Hj.ap {w:WT} {s:SY} (h:Hj s) {o:Int} (k u:Int) (ht:IW a) (ho:IW o):Hj (qD w s a k o u).1:=by
 let⟨h1,h2,h3⟩:=h;have h3:XB s.2.2.2:=h3;have A:IW (-1):=IW.sm (by decide) (by decide);have q:∀(t b:Int) (r:η),IW b->∀x∈ca s.1 t (b,r),IW x.1:=λt b r I x D=>by
  rcases kB D with D|rfl
  .exact h1 x D
  .exact I
 have lo:∀t:Int,IW (aw dy s.1 t).1:=λt=>MJ (T:=dy) (p:=λl=>IW l.1) h1 (IW.sm (by decide) (by decide)) t
 have sm:∀t:Int,0<=t->t<=5->IW t:=λt h0 h1=>IW.sm (by omega) (by omega)
 have N:Hj s:=⟨h1,h2,h3⟩
 have cd:∀(l:Y i?) (t b:Int),XB l->IW b->XB (cdP l t b):=λl t b hl I=>hl.set t ⟨(hl.at t).1,I⟩
 have at':∀(b:Bool),XB (atP s.2.2.2 a b):=λb=>h3.set a (h3.at a)
 unfold qD;refine Hj.ite ⟨h1,h2,h3.st _ _ (sm _ (by decide) (by decide))⟩ (Hj.ite ⟨h1,h2,h3.st _ _ (sm _ (by decide) (by decide))⟩ (Hj.ite ⟨q _ _ _ ht,h2,h3⟩ (Hj.ite ⟨q _ _ _ A,h2,h3⟩ (Hj.ite ⟨q _ _ _ (lo _),h2,h3⟩ (Hj.ite ⟨q _ _ _ (lo _),h2,h3⟩ (Hj.ite ⟨h1,ht,h3⟩ (Hj.ite ⟨h1,A,h3⟩ (Hj.ite ⟨h1,h2,at' _⟩ (Hj.ite ⟨h1,h2,at' _⟩ (Hj.ite ⟨q _ _ _ A,h2,cd _ _ _ (h3.st _ _ (sm _ (by decide) (by decide))) ho⟩ (Hj.ite ⟨q _ _ _ ht,h2,cd _ _ _ (h3.st _ _ (sm _ (by decide) (by decide))) (sm _ (by decide) (by decide))⟩ (Hj.ite (Hj.ite N ⟨h1,h2,h3.st _ _ (sm _ (by decide) (by decide))⟩) (Hj.ite ⟨h1,h2,XB.na _ h3⟩ (Hj.ite ⟨h1,h2,h3.st _ _ (sm _ (by decide) (by decide))⟩ (Hj.ite ⟨h1,h2,h3⟩ N)))))))))))))))
structure RX (x:WN):Prop where
 s:Hj x.2.2.1.1
 c:∀z∈x.2.2.1.2.1,IW z
 f:∀z∈x.2.2.1.2.2.1,IW z
 k:∀z∈x.2.2.1.2.2.2,0<=z/\z<=100000
 v:∀e∈x.2.2.2,IWe e
def NM.iw {w:WT} {o:Int} (h:NM w a o) (v:VL w):IW o:=by
 have h1:=h.k1;have h2:=h.k2;have v1:=v.c;have v2:=v.l;have v3:=v.d;have v4:=v.f;have q:=v.t;by_cases k:a=3\/a=4
 .have:=h.ce k;exact IW.sm (by omega) (by omega)
 by_cases k:6<=a/\a<=11
 .have:=h.lk k;exact IW.sm (by omega) (by omega)
 by_cases k:16<=a/\a<=19
 .have:=h.cd k;exact IW.sm (by omega) (by omega)
 by_cases k:a=20\/a=21
 .have:=h.th k;exact IW.sm (by omega) (by omega)
 by_cases k:a=22\/a=23
 .have:=h.fu k;exact IW.sm (by omega) (by omega)
 .have:=h.no (by omega);exact IW.sm (by omega) (by omega)
def aq6 (r:RX k):RGd (st0 k):=⟨r.s,λz q=>by obtain⟨y,A,rfl⟩:=cv.1 q;exact r.c y A,λz q=>by obtain⟨y,A,rfl⟩:=cv.1 q;exact r.f y A⟩
def aug (h:nz k) (r:RX k) {c:CF} (hc:CI k c) (g:RGd c) (u:Int) (he:Ig k c a=J):RGd (sD k c a u):=by
 let⟨ht,x,hk,g1,g2,g3,g4,g5⟩:=(IF k h c hc a).2 he;have N:=h.vl;have ht4:=N.t;have z0:IW 0:=IW.sm (by decide) (by decide);have I:∀b:Prop,[Decidable b]->(eN k.2.2.2 x).2.1=4\/(eN k.2.2.2 x).2.1=22->IW (if b then ((eN k.2.2.2 x).2.2.2.1,J) else ((0:Int),aa)).1:=λb _ q=>by
  split
  .exact r.v _ (M8 hk) q
  .exact z0
 unfold sD;rw[g1];have D:a<=1000000:=by omega
 refine ⟨g.1.ap _ _ (IW.sm (wG (by decide) ht.1) D) (g4.nm.iw N),λz A=>?_,λz A=>?_⟩
 .have A:z∈if (eN k.2.2.2 x).2.1=4 then ca c.2.1 _ _ else c.2.1:=A
  split at A
  .rename_i q;rcases kB A with A|rfl
   .exact g.2.1 z A
   .exact I _ (.inl q)
  .exact g.2.1 z A
 .have A:z∈if (eN k.2.2.2 x).2.1=22 then ca c.2.2.1 _ _ else c.2.2.1:=A
  split at A
  .rename_i q;rcases kB A with A|rfl
   .exact g.2.2 z A
   .exact I _ (.inr q)
  .exact g.2.2 z A
def PF (x:WN) (q:η):Prop:=∀i j:Nat,i<j->j<l! x.2.2.2->(eN x.2.2.2 i).1=(eN x.2.2.2 j).1->(j:Int)∈q->(i:Int)∈q
def aaa {x:Nat} (e:xP k c a=(x:Int)) (A:i<x) (ht:(eN k.2.2.2 i).1=a):(i:Int)∈c:=by
 unfold xP at e;split at e
 .omega
 .rcases z_ (nxp k.2.2.2 c a) (l! k.2.2.2) with ⟨h1,_⟩|⟨m,h1,h2,h3,h4⟩
  .rw[h1]at e;omega
  .have hm:=h4 i (by omega);unfold nxp at hm;rw[aO ht,cD,iB]at hm;exact bR.1 hm
def PF.snoc (h:PF k c) {x:Nat} (D:x<l! k.2.2.2) (e:xP k c a=(x:Int)) (ht:(eN k.2.2.2 x).1=a):PF k (c++[(x:Int)]):=λi j hij A he hm=>by
 rcases bt.1 hm with hm|hm
 .exact dW _ (h i j hij A he hm)
 .rw[aE]at hm;have:j=x:=by omega
  subst this;exact dW _ (aaa e hij (he.trans ht))
def Fu {z:Int}:∀{n:Nat},z∈eY L a n->∃j:Nat,z=(j:Int)/\j<n/\(eN L j).1=a
 |0,h=>by cases h
 |n+1,h=>by
  rw[eY]at h;split at h
  .rename_i e;rcases bt.1 h with h|h
   .obtain⟨j,h1,h2,h3⟩:=Fu h;exact⟨j,h1,by omega,h3⟩
   .rw[aE]at h;exact⟨n,h,by omega,e⟩
  .obtain⟨j,h1,h2,h3⟩:=Fu h;exact⟨j,h1,by omega,h3⟩
def mS (l m:Y T.den) (h0:0<=a) (h:a<ah l):aw _ (l++m) a=aw _ l a:=by
 unfold aw;rw[aA,aA];congr 1;exact cU (by omega)
def Z' {l:Y ET} {t:Int} :∀{n:Nat},i<=n->∃m,eY l t n=eY l t i++m
 |0,h=>⟨[],by rw[show i=0 by omega];rfl⟩
 |n+1,h=>by
  rcases bF i (n+1) with g|g
  .obtain⟨m,hm⟩:=Z' (l:=l) (t:=t) (show i<=n by omega);rw[eY];split
   .exact⟨m++[(n:Int)],by rw[hm,bm]⟩
   .exact⟨m,hm⟩
  .rw[show i=n+1 by omega];exact⟨[],(cJ _).symm⟩
def Bu {l:Y ET} {t k:Int} {n:Nat} (h:i<=n) (q:0<=k) (A:k<l! (eY l t i)):aw aP (eY l t n) k=aw aP (eY l t i) k/\k<l! (eY l t n):=by
 let⟨m,hm⟩:=Z' (l:=l) (t:=t) h;rw[hm];exact⟨mS (T:=aP) _ _ q A,by rw[aF];omega⟩
def aib (h:nz k) (r:RX k) (t0:0<=a) (t1:a<l! k.2.2.1.2.2.2):∀i:Nat,i<=l! k.2.2.2->aw aP (nD k.1 k.2.2.1 k.2.2.2 i).2.2.2 a=aw aP k.2.2.1.2.2.2 a+l! (eY k.2.2.2 a i)/\(nD k.1 k.2.2.1 k.2.2.2 i).2.2.2.length=l! k.2.2.1.2.2.2
 |0,_=>⟨by show _=_+((0:Nat):Int);rw[Int.natCast_zero,Int.add_zero];rfl,rfl⟩
 |i+1,hi=>by
  let⟨t,b⟩:=aib h r t0 t1 i (by omega);have I:=r.k _ (ba (T:=aP) t0 t1);have D:=xO k.2.2.2 a i;have hln:=h.ln;have g:=h.eni (i:=i) (by omega);have f:=h.jb.k;rw[Dy _ _ (by omega)];refine ⟨?_,(bM ..).trans b⟩;show aw aP (ca (nD k.1 k.2.2.1 k.2.2.2 i).2.2.2 (eN k.2.2.2 i).1 (aT .i64 (aw aP (nD k.1 k.2.2.1 k.2.2.2 i).2.2.2 (eN k.2.2.2 i).1+1))) a=_;have A:=g.t0;have N:=g.t1;rw[kx (T:=aP) _ _ _ _ A (by rw[b];omega) t0,eY];by_cases q:a=(eN k.2.2.2 i).1
  .rw[aK q,aK q.symm,<-q,t,aF,a_];rw[fh];exact Int.add_assoc ..
  .rw[ay q,ay λp=>q p.symm];exact t
structure USE (x:WN) (i:Nat) (n:Int):Prop where
 w:aT .i64 (n-aw aP x.2.2.1.2.2.2 (eN x.2.2.2 i).1)=n-aw aP x.2.2.1.2.2.2 (eN x.2.2.2 i).1
 l:n-aw aP x.2.2.1.2.2.2 (eN x.2.2.2 i).1<l! (eY x.2.2.2 (eN x.2.2.2 i).1 i)
def Ui (h:nz k) (r:RX k) (hi:i<l! k.2.2.2) (q:dpE (eN k.2.2.2 i) a):USE k i a:=by
 have g:=h.ch i hi;have e:=g.en;have f:=h.jb.k;have t1:=e.t1;let⟨n,_⟩:=aib h r e.t0 (by rw[f];exact t1) i (eZ hi);have I:=r.k _ (ba (T:=aP) e.t0 (by rw[f];exact t1));have D:=xO k.2.2.2 (eN k.2.2.2 i).1 i;have hln:=h.ln;have A:0<a/\a<aw aP (nD k.1 k.2.2.1 k.2.2.2 i).2.2.2 (eN k.2.2.2 i).1:=by
  rcases q with q|q
  .have:=g.s16.nd.m a q;exact⟨by omega,this.2⟩
  .have:=g.s16.nf.m a q;exact⟨by omega,this.2⟩
 rw[n]at A;exact⟨fh,by omega⟩
def agq {A:η} {i n z:Int} (D:0<=z) (I:∀y∈c,0<=y/\y<(l! A:Int)):aw aP (DA c a i A n) z=if (0<=aT .i64 (n-a)/\aT .i64 (n-a)<c.length)/\z=aw aP c (aT .i64 (n-a)) then i else aw aP A z:=by
 unfold DA;by_cases q:0<=aT .i64 (n-a)/\aT .i64 (n-a)<c.length
 .have:=I _ (ba (T:=aP) q.1 q.2);rw[aK q,kx (T:=aP) _ _ _ _ this.1 this.2 D];by_cases p:z=aw aP c (aT .i64 (n-a))
  .rw[aK p,aK ⟨q,p⟩]
  .rw[ay p,ay λb=>p b.2]
 .rw[ay q,ay λb=>q b.1]
def Yf {b i:Int} (D:0<=a):∀(l A:η),(∀y∈c,0<=y/\y<(l! A:Int))->aw aP (l.foldl (DA c b i) A) a=aw aP A a\/aw aP (l.foldl (DA c b i) A) a=i/\a∈c
 |[],_,_=>.inl rfl
 |n::r,A,I=>by
  rw[dz];rcases Yf D r (DA c b i A n) (by rw[Sh];exact I) with h|h
  .rw[h,agq D I];split
   next q=>exact .inr ⟨rfl,q.2▸ba (T:=aP) q.1.1 q.1.2⟩
   .exact .inl rfl
  .exact .inr h
def Si {i z:Int} (D:0<=z):∀(l A:η),(∀y∈c,0<=y/\y<(l! A:Int))->(aw aP A z=i\/∃n∈l,(0<=aT .i64 (n-a)/\aT .i64 (n-a)<c.length)/\z=aw aP c (aT .i64 (n-a)))->aw aP (l.foldl (DA c a i) A) z=i
 |[],A,_,h=>by
  rcases h with h|⟨n,hn,_⟩
  .exact h
  .cases hn
 |n::r,A,N,h=>by
  rw[dz];refine Si D r _ (by rw[Sh];exact N) ?_;rw[agq D N];split
  .exact .inl rfl
  .rename_i q;rcases h with h|⟨m,hm,I⟩
   .exact .inl h
   .rcases bk.1 hm with rfl|hm
    .exact bc I q
    .exact .inr ⟨m,hm,I⟩
def aui (h:nz k) (r:RX k) (hi:i<l! k.2.2.2) (A:dpE (eN k.2.2.2 i) a) (hb:aw aP k.2.2.1.2.2.2 (eN k.2.2.2 i).1<=a) {z:Int} (hz:z=aw aP (eY k.2.2.2 (eN k.2.2.2 i).1 i) (a-aw aP k.2.2.1.2.2.2 (eN k.2.2.2 i).1)):∀m:Nat,i<m->m<=l! k.2.2.2->∃j:Nat,i<=j/\j<m/\(eN k.2.2.2 j).1=(eN k.2.2.2 i).1/\aw aP (EY k m) z=(j:Int)
 |0,h0,_=>bc h0 (dp _)
 |m+1,h0,hm=>by
  have hu:=Ui h r hi A;have hown:z∈eY k.2.2.2 (eN k.2.2.2 i).1 i:=by rw[hz];exact ba (T:=aP) (Int.sub_nonneg.2 hb) hu.l
  obtain⟨D,rfl,hzi,hzt⟩:=Fu hown;have I:0<=(D:Int):=by omega
  have hll:=Lf k m;have ho:∀y∈eY k.2.2.2 (eN k.2.2.2 m).1 m,0<=y/\y<(l! (EY k m):Int):=λy hy=>by have:=rB hy;rw[hll];omega
  rw[EY,luE];rcases bF i m with g|g
  .obtain⟨j,h1,h2,h3,h4⟩:=aui h r hi A hb hz m g (by omega);have fin:∀v:Int,v=(j:Int)\/v=(m:Int)/\(D:Int)∈eY k.2.2.2 (eN k.2.2.2 m).1 m->∃j:Nat,i<=j/\j<m+1/\(eN k.2.2.2 j).1=(eN k.2.2.2 i).1/\v=(j:Int):=λv hv=>by
    rcases hv with rfl|⟨rfl,N⟩
    .exact⟨j,h1,by omega,h3,rfl⟩
    .obtain⟨q,q1,q2,q3⟩:=Fu N;have:q=D:=by omega
     subst this;exact⟨m,by omega,by omega,q3.symm.trans hzt,rfl⟩
   have c1:=Yf (b:=aw aP k.2.2.1.2.2.2 (eN k.2.2.2 m).1) (i:=(m:Int)) I (eN k.2.2.2 m).2.2.2.2.2.1 (EY k m) ho;have c2:=Yf (b:=aw aP k.2.2.1.2.2.2 (eN k.2.2.2 m).1) (i:=(m:Int)) I (eN k.2.2.2 m).2.2.2.2.2.2 ((eN k.2.2.2 m).2.2.2.2.2.1.foldl (DA (eY k.2.2.2 (eN k.2.2.2 m).1 m) (aw aP k.2.2.1.2.2.2 (eN k.2.2.2 m).1) (m:Int)) (EY k m)) (by rw[zJ];exact ho);refine fin _ ?_;rcases c2 with q|q
   .rw[q];rcases c1 with p|p
    .rw[p];exact .inl h4
    .exact .inr p
   .exact .inr q
  .have:m=i:=by omega
   subst this;refine ⟨m,bi _,by omega,rfl,?_⟩;have N:(0<=aT .i64 (a-aw aP k.2.2.1.2.2.2 (eN k.2.2.2 m).1)/\aT .i64 (a-aw aP k.2.2.1.2.2.2 (eN k.2.2.2 m).1)<l! (eY k.2.2.2 (eN k.2.2.2 m).1 m))/\(D:Int)=aw aP (eY k.2.2.2 (eN k.2.2.2 m).1 m) (aT .i64 (a-aw aP k.2.2.1.2.2.2 (eN k.2.2.2 m).1)):=by
    rw[hu.w];exact⟨⟨Int.sub_nonneg.2 hb,hu.l⟩,hz⟩
   refine Si I _ _ (by rw[zJ];exact ho) ?_;rcases A with A|A
   .exact .inl (Si I _ _ ho (.inr ⟨a,A,N⟩))
   .exact .inr ⟨a,A,N⟩
section
def enP (x:WN) (c:CF) (t:Int):Bool:=if xP x c.2.2.2.1 t<0 then aa else ((eT (x.1,c.1,t,(aw gm x.2.2.2 (xP x c.2.2.2.1 t)).2.1,(aw gm x.2.2.2 (xP x c.2.2.2.1 t)).2.2.1)).getD aa&&MO x c.2.2.2.2.1 t (aw gm x.2.2.2 (xP x c.2.2.2.1 t)).2.2.2.2.2.1)
def V_ (h:nz k) {c:CF} (A:CI k c) (t:Int):Ig k c t=enP k c t:=by
 suffices I:fT (k,c,t)=Z (enP k c t) by unfold Ig;rw[I];rfl
 refine bT ?_;unfold fT enP bg cS bY bV bI aI;have hl:=h.ln;have ho:=A.ln;refine aU (Og k c t (by omega) (by omega)) ?_;rcases Sd k c.2.2.2.1 t with e|⟨ht,x,N,e,e1,e2⟩
 .rw[e];exact bG (λ_=>aj rfl) λh=>bc h (by decide)
 rw[e];refine bG (λh=>bc h (by omega)) λ_=>bK (aS ?_)
 rw[ay (by omega)];have hev:=h.ev N;let⟨b,hb,_⟩:=J5 k.1 c.1 (A.sb h.vl) (by decide) (by have:=h.vl.d;omega) t (eN k.2.2.2 x).2.1 (eN k.2.2.2 x).2.2.1;show Ok _ (·=((eT (k.1,c.1,t,(eN k.2.2.2 x).2.1,(eN k.2.2.2 x).2.2.1)).getD aa&&MO k c.2.2.2.2.1 t (eN k.2.2.2 x).2.2.2.2.2.1));rw[hb];refine aW (λz=>z=(b&&MO k c.2.2.2.2.1 t (eN k.2.2.2 x).2.2.2.2.2.1)) (aU rfl (aR (λq=>aU (T8 k c t _ (by omega) hev.1) (aj ?_)) λq=>aj ?_)) λz D=>aj D
 .have q:b=J:=q;rw[q];rfl
 .have q:b=aa:=q;rw[q];rfl
structure Sm (x:WN) (c d:CF):Prop where
 cc:CI x c
 cd:CI x d
 s:c.1=d.1
 ce:c.2.1=d.2.1
 fu:c.2.2.1=d.2.2.1
 o:∀k:Int,c.2.2.2.1.contains k=d.2.2.2.1.contains k
 f:∀k:Nat,k<l! x.2.2.2->kyU c.2.2.2.1 c.2.2.2.2.1 (aw aP (EY x (l! x.2.2.2)) (k:Int)) (k:Int)=kyU d.2.2.2.1 d.2.2.2.2.1 (aw aP (EY x (l! x.2.2.2)) (k:Int)) (k:Int)
 p:PF x c.2.2.2.1
variable {x:WN}
def Sm.nx {c d:CF} (h:Sm x c d) (t:Int):xP x c.2.2.2.1 t=xP x d.2.2.2.1 t:=by
 unfold xP;split
 .rfl
 .exact QI λj _=>by unfold nxp;rw[h.o]
def Sm.fx (w:nz x) (r:RX x) {c d:CF} (h:Sm x c d) (hi:i<l! x.2.2.2) (e:xP x c.2.2.2.1 a=(i:Int)) (N:(eN x.2.2.2 i).1=a) (en:¬(i:Int)∈c.2.2.2.1) {ns:η} (A:∀n∈ns,dpE (eN x.2.2.2 i) n):MO x c.2.2.2.2.1 a ns=MO x d.2.2.2.2.1 a ns:=by
 unfold MO;have:∀n∈ns,VK (eY x.2.2.2 a (l! x.2.2.2)) c.2.2.2.2.1 (aw aP x.2.2.1.2.2.2 a) n=VK (eY x.2.2.2 a (l! x.2.2.2)) d.2.2.2.2.1 (aw aP x.2.2.1.2.2.2 a) n:=λn hm=>by
  have hd:=A n hm;have hu:=Ui w r hi hd;let⟨hw,hl⟩:=hu;rw[N]at hw hl;unfold VK;rw[hw];by_cases q:n<aw aP x.2.2.1.2.2.2 a
  .rw[aO q];rfl
  rw[bp q,nU,nU];let⟨p1,p2⟩:=Bu (n:=l! x.2.2.2) (eZ hi) (Int.sub_nonneg.2 (gG.1 q)) hl;have hlu:=aui w r hi hd (by rw[N];exact gG.1 q) (z:=aw aP (eY x.2.2.2 a (l! x.2.2.2)) (n-aw aP x.2.2.1.2.2.2 a)) (by rw[N];exact p1) (l! x.2.2.2) hi (bi _);have hz:aw aP (eY x.2.2.2 a (l! x.2.2.2)) (n-aw aP x.2.2.1.2.2.2 a)∈eY x.2.2.2 a (l! x.2.2.2):=ba (T:=aP) (Int.sub_nonneg.2 (gG.1 q)) p2;unfold fxK;rw[h.cc.fx,h.cd.fx];congr 1;generalize aw aP (eY x.2.2.2 a (l! x.2.2.2)) (n-aw aP x.2.2.1.2.2.2 a)=z at hlu hz;obtain⟨k,rfl,hk,_⟩:=Fu hz;let⟨j,j1,j2,j3,j4⟩:=hlu;have hf:=h.f k hk;rw[j4]at hf;have D:¬(j:Int)∈c.2.2.2.1:=λD=>by
   rcases bF i j with g|g
   .exact en (h.p i j g j2 j3.symm D)
   .exact en (by rw[show i=j by omega];exact D)
  have I:c.2.2.2.1.contains (j:Int)=aa:=by rw[<- iQ,bR];exact D
  unfold kyU at hf;rw[<- h.o,I,aO (by omega:(0:Int)<=(j:Int))]at hf;simpa using hf
 congr 2;rw[yX,cQ,cQ];exact⟨λt n A=>by rw[<- this n A];exact t n A,λt n A=>by rw[this n A];exact t n A⟩
def Sm.en (w:nz x) (r:RX x) {c d:CF} (h:Sm x c d) (t:Int):Ig x c t=Ig x d t:=by
 rw[V_ w h.cc,V_ w h.cd];unfold enP;rw[<- h.nx,<-h.s];rcases Sd x c.2.2.2.1 t with e|⟨_,k,A,e,e1,e2⟩
 .rw[e];rfl
 rw[e];rw[h.fx w r A e e1 e2 (ns:=(aw gm x.2.2.2 (k:Int)).2.2.2.2.2.1) λn q=>.inl q]
def Sm.ch (w:nz x) (r:RX x) {c d:CF} (h:Sm x c d):∀n,chN x c n=chN x d n
 |0=>rfl
 |n+1=>by
  rw[chN,chN,h.ch w r n];congr 1;unfold chT chE P_;rw[h.en w r,h.nx,h.s]
def ku (l:η) (i k:Int):(l++[i]).contains k=(l.contains k||decide (k=i)):=by
 rw[yX,bR,eu,bR,decide_eq_true_iff,bt,aE]
def aoy {c:CF} {u:Int} (g:xP x c.2.2.2.1 a=(i:Int)):(sD x c a u).2.2.2.2.1=if (eN x.2.2.2 i).2.1=3 then ca c.2.2.2.2.1 (i:Int) (eqV (aw Bn c.2.1 (eN x.2.2.2 i).2.2.1) ((eN x.2.2.2 i).2.2.2.1,J)) else if (eN x.2.2.2 i).2.1=23 then ca c.2.2.2.2.1 (i:Int) (eqV (aw Bn c.2.2.1 (eN x.2.2.2 i).2.2.1) ((eN x.2.2.2 i).2.2.2.1,J)) else c.2.2.2.2.1:=by
 unfold sD;rw[g];rfl
def agl {c:CF} {u:Int} (g:xP x c.2.2.2.1 a=(i:Int)):(sD x c a u).2.2.2.2.2=if (eN x.2.2.2 i).2.1=18 then (if 0<=(qD x.1 c.1 a (eN x.2.2.2 i).2.1 (eN x.2.2.2 i).2.2.1 u).2 then ca c.2.2.2.2.2 (i:Int) 1 else c.2.2.2.2.2) else if (eN x.2.2.2 i).2.1=19 then ca c.2.2.2.2.2 (i:Int) (qD x.1 c.1 a (eN x.2.2.2 i).2.1 (eN x.2.2.2 i).2.2.1 u).2 else c.2.2.2.2.2:=by
 unfold sD;rw[g];rfl
def Sm.mv (w:nz x) (r:RX x) {c d:CF} (h:Sm x c d) (u:Int) (he:Ig x c a=J):Sm x (sD x c a u) (sD x d a u):=by
 have N:Ig x d a=J:=by rw[<- h.en w r];exact he
 let⟨_,k,hk,D,g2,g3,_,_⟩:=(IF x w c h.cc a).2 he;have hfr:=h.fx w r hk D g2 g3 (ns:=(eN x.2.2.2 k).2.2.2.2.2.2) λn hn=>.inr hn
 have A:xP x d.2.2.2.1 a=(k:Int):=by rw[<- h.nx];exact D
 have hce:=h.cc.fx;have hde:=h.cd.fx;refine ⟨IZ w h.cc u he,IZ w h.cd u N,?_,?_,?_,λj=>?_,λj hj=>?_,?_⟩
 .unfold sD;rw[D,A];show (qD _ _ _ _ _ _).1=(qD _ _ _ _ _ _).1;rw[h.s]
 .unfold sD;rw[D,A];show (if _ then ca c.2.1 _ (if MO x c.2.2.2.2.1 a (eN x.2.2.2 k).2.2.2.2.2.2=J then _ else _) else c.2.1)=(if _ then ca d.2.1 _ (if MO x d.2.2.2.2.1 a (eN x.2.2.2 k).2.2.2.2.2.2=J then _ else _) else d.2.1)
  rw[h.ce,hfr]
 .unfold sD;rw[D,A];show (if _ then ca c.2.2.1 _ (if MO x c.2.2.2.2.1 a (eN x.2.2.2 k).2.2.2.2.2.2=J then _ else _) else c.2.2.1)=(if _ then ca d.2.2.1 _ (if MO x d.2.2.2.2.1 a (eN x.2.2.2 k).2.2.2.2.2.2=J then _ else _) else d.2.2.1)
  rw[h.fu,hfr]
 .rw[qI,qI,D,A,ku,ku,h.o]
 .have hf:=h.f j hj;have hx:aw (.bool) (sD x c a u).2.2.2.2.1 (j:Int)=aw (.bool) (sD x d a u).2.2.2.2.1 (j:Int)\/aw (.bool) (sD x c a u).2.2.2.2.1 (j:Int)=aw (.bool) c.2.2.2.2.1 (j:Int)/\aw (.bool) (sD x d a u).2.2.2.2.1 (j:Int)=aw (.bool) d.2.2.2.2.1 (j:Int):=by
   rw[aoy D,aoy A,<-h.ce,<-h.fu];have sc:∀b:Bool,aw (.bool) (ca c.2.2.2.2.1 (k:Int) b) (j:Int)=if (j:Int)=(k:Int) then b else aw (.bool) c.2.2.2.2.1 (j:Int):=λb=>kx (T:=.bool) _ _ _ _ (by omega) (by omega) (by omega)
   have sd:∀b:Bool,aw (.bool) (ca d.2.2.2.2.1 (k:Int) b) (j:Int)=if (j:Int)=(k:Int) then b else aw (.bool) d.2.2.2.2.1 (j:Int):=λb=>kx (T:=.bool) _ _ _ _ (by omega) (by omega) (by omega)
   by_cases q3:(eN x.2.2.2 k).2.1=3
   .rw[aK q3,aK q3,sc,sd];by_cases q:(j:Int)=(k:Int)
    .rw[aK q,aK q];exact .inl rfl
    .rw[ay q,ay q];exact .inr ⟨rfl,rfl⟩
   rw[ay q3,ay q3];by_cases I:(eN x.2.2.2 k).2.1=23
   .rw[aK I,aK I,sc,sd];by_cases q:(j:Int)=(k:Int)
    .rw[aK q,aK q];exact .inl rfl
    .rw[ay q,ay q];exact .inr ⟨rfl,rfl⟩
   .rw[ay I,ay I];exact .inr ⟨rfl,rfl⟩
  unfold kyU at hf ⊢;rw[qI,qI,D,A,ku,ku,<-h.o];rw[<- h.o]at hf;rcases hx with e|⟨e1,e2⟩
  .rw[e]
  .rw[e1,e2];revert hf;cases decide (0<=aw aP (EY x (l! x.2.2.2)) (j:Int))<;>cases c.2.2.2.1.contains (aw aP (EY x (l! x.2.2.2)) (j:Int))<;>cases decide (aw aP (EY x (l! x.2.2.2)) (j:Int)=(k:Int))<;>simp
 .rw[qI,D];exact h.p.snoc hk D g2
structure GAx (g:sA):Prop where
 l0:g.1=3->0<=g.2.1
 l:g.1=3->¬g.2.1=g.2.2.1
 a:g.1=4->¬g.2.1=g.2.2.2.1
def GV.ax {w:WT} {ev:Int->ET} {sy:Int->SY} (h:GV w i ev sy e):GAx e:=by
 rcases h with h|h|h|h
 .exact⟨λq=>bc (h.1.symm.trans q) (by decide),λq=>bc (h.1.symm.trans q) (by decide),λq=>bc (h.1.symm.trans q) (by decide)⟩
 .exact⟨λq=>bc (h.1.symm.trans q) (by decide),λq=>bc (h.1.symm.trans q) (by decide),λq=>bc (h.1.symm.trans q) (by decide)⟩
 .have h2:=h.2.2.2.2;exact⟨λ_=>h2.1.1,λ_ g=>by have:=h2.2.2.1;omega,λq=>bc (h.1.symm.trans q) (by decide)⟩
 .exact⟨λq=>bc (h.1.symm.trans q) (by decide),λq=>bc (h.1.symm.trans q) (by decide),λ_ g=>h.2.2.2.2.2.2.1 (by rw[g])⟩
structure IA (c:CF) (g:sA):Prop where
 a:g.1=4->g.2.2.2.1∈c.2.2.2.1->g.2.1∈c.2.2.2.1/\A_ c.2.2.2.1 g.2.1<A_ c.2.2.2.1 g.2.2.2.1
 l:g.1=3->aw aP c.2.2.2.2.2 g.2.1=0
def aum (l:η) (z:Int):A_ l z<l! l:=by
 unfold A_;rcases z_ (λk=>decide (z=aw aP l (k:Int))) (l! l) with ⟨h1,_⟩|⟨k,h1,h2,_⟩
 .rw[h1];omega
 .rw[h2];omega
def MG (l:Y T.den) (z:T.den):aw _ (l++[z]) (ah l:Int)=z:=by
 unfold aw;rw[aA];show ((l++[z])[l! l]?).getD _=z;rw[cB (bi _),CE];rfl
def Sn (h:a∈c) (i:Int):A_ (c++[i]) a=A_ c a:=by
 have h0:=tw.2 h;unfold A_ at h0 ⊢;rcases z_ (λk=>decide (a=aw aP c (k:Int))) (l! c) with ⟨h1,_⟩|⟨k,h1,h2,h3,h4⟩
 .rw[h1]at h0;exact bc h0 (by decide)
 .rw[h2];have A:∀j:Nat,j<l! c->aw aP (c++[i]) (j:Int)=aw aP c (j:Int):=λj q=>mS (T:=aP) c [i] (by omega) (by omega)
  refine Ez (by rw[aF];omega) ?_ λj q=>?_
  .rw[A k h1];exact h3
  .rw[A j (by omega)];exact h4 j q
def aqu (h:¬a∈c):A_ (c++[a]) a=l! c:=by
 unfold A_;refine Ez (by rw[aF,a_];omega) ?_ λj q=>?_
 .rw[MG (T:=aP)];exact aO rfl
 .rw[mS (T:=aP) c [a] (by omega) (by omega)];exact bp λe=>h (by rw[e];exact ba (T:=aP) (by omega) (by omega))
def ah0 {l i:Int} (hac:¬a=l) (h:l∈c->a∈c/\A_ c a<A_ c l) (D:a∈c++[i]) (A:l∈c++[i]):A_ (c++[i]) a<A_ (c++[i]) l:=by
 by_cases q:l∈c
 .obtain⟨h1,h2⟩:=h q;rw[Sn h1,Sn q];exact h2
 .have e:l=i:=by simpa[q] using A
  subst e;have:a∈c:=by simpa[hac] using D
  rw[Sn this,aqu q];exact aum ..
def XS {c:CF} {t u:Int} (g:xP x c.2.2.2.1 t=(i:Int)) (A:(i:Int)<l! c.2.2.2.2.2) (h0:0<=a) (D:¬a=(i:Int)):aw aP (sD x c t u).2.2.2.2.2 a=aw aP c.2.2.2.2.2 a:=by
 have q:∀b:Int,aw aP (ca c.2.2.2.2.2 (i:Int) b) a=aw aP c.2.2.2.2.2 a:=λb=>by rw[kx (T:=aP) _ _ _ _ (by omega) A h0,ay D]
 rw[agl g];split
 .split
  .exact q _
  .rfl
 .split
  .exact q _
  .rfl
def IA.mv {c:CF} (h:IA c e) (I:GAx e) {u:Int} (g:xP x c.2.2.2.1 a=(i:Int)) (N:(i:Int)<l! c.2.2.2.2.2) (hm:Ud (sD x c a u) e=aa):IA (sD x c a u) e:=by
 unfold Ud at hm;rw[qI,g]at hm;refine ⟨λq A=>?_,λq=>?_⟩
 .rw[qI,g]at A ⊢;rw[ay (by rw[q];decide),ay (by rw[q];decide),ay (by rw[q];decide),aK q,wq]at hm;have D:e.2.1∈c.2.2.2.1++[(i:Int)]:=by
   have:=hm.2;rw[bR.2 A,Bool.and_true,iB]at this;exact bR.1 this
  exact⟨D,ah0 (I.a q) (h.a q) D A⟩
 .rw[ay (by rw[q];decide),ay (by rw[q];decide),aK q,wq]at hm;by_cases p:e.2.1=(i:Int)
  .have h1:(c.2.2.2.1++[(i:Int)]).contains e.2.1=J:=bR.2 (by rw[p];simp);have:=hm.2;rw[h1,cD,iB,decide_eq_true_iff]at this;exact this
  .rw[XS g N (I.l0 q) p];exact h.l q
def aps {c d:CF} (N:c.1=d.1) {u:Int} (e:xP x c.2.2.2.1 a=(i:Int)) (e':xP x d.2.2.2.1 a=(i:Int)) (hk:(i:Int)<l! c.2.2.2.2.2) (D:(i:Int)<l! d.2.2.2.2.2) (hd:aw aP d.2.2.2.2.2 (i:Int)=0) (A:aw aP (sD x c a u).2.2.2.2.2 (i:Int)=0):aw aP (sD x d a u).2.2.2.2.2 (i:Int)=0:=by
 have sc:∀b:Int,aw aP (ca c.2.2.2.2.2 (i:Int) b) (i:Int)=b:=λb=>by rw[kx (T:=aP) _ _ _ _ (by omega) hk (by omega),aK rfl]
 have I:∀b:Int,aw aP (ca d.2.2.2.2.2 (i:Int) b) (i:Int)=b:=λb=>by rw[kx (T:=aP) _ _ _ _ (by omega) D (by omega),aK rfl]
 rw[agl e,N]at A;rw[agl e'];split
 .rename_i q;rw[aK q]at A;split
  next p=>rw[aK p,sc]at A;exact bc A (by decide)
  .exact hd
 .rename_i q;rw[ay q]at A;split
  next p=>rw[aK p,sc]at A;rw[I];exact A
  .exact hd
def Sm.ms (w:nz x) {c d:CF} (h:Sm x c d) (ga:GAx e) (id:IA d e) {u:Int} (he:Ig x c a=J) (hm:Ud (sD x c a u) e=aa):Ud (sD x d a u) e=aa:=by
 let⟨_,k,hk,D,_⟩:=(IF x w c h.cc a).2 he;have A:xP x d.2.2.2.1 a=(k:Int):=by rw[<- h.nx];exact D
 have N:∀j:Int,(d.2.2.2.1++[(k:Int)]).contains j=(c.2.2.2.1++[(k:Int)]).contains j:=λj=>by rw[ku,ku,h.o]
 have hcw:=h.cc.wk;have hdw:=h.cd.wk;unfold Ud at hm ⊢;rw[qI,D]at hm;rw[qI,A];simp only[N];split
 next q=>rw[aK q]at hm;exact hm
 rename_i q;rw[ay q]at hm;split
 next q=>rw[aK q]at hm;exact hm
 rename_i q;rw[ay q]at hm;split
 .rename_i q;rw[aK q,wq]at hm;rw[wq];refine ⟨hm.1,?_⟩;have h2:=hm.2;cases hA:(c.2.2.2.1++[(k:Int)]).contains e.2.1 with
  |false=>rfl
  |true=>
   rw[hA,cD,iB,decide_eq_true_iff]at h2;rw[cD,iB,decide_eq_true_iff];by_cases p:e.2.1=(k:Int)
   .have I:=id.l q;rw[p]at h2 I ⊢;exact aps h.s D A (by omega) (by omega) I h2
   .rw[XS A (by omega) (ga.l0 q) p];exact id.l q
 rename_i q;rw[ay q]at hm;exact hm
def Sm.nxE {c d:CF} (h:Sm x c d) (e:Int):nxE x c e=AI.nxE x d e:=by unfold AI.nxE;rw[h.nx]
def Sm.ry (w:nz x) (r:RX x) {c d:CF} (h:Sm x c d) (e:Int):ryE x c e=ryE x d e:=by unfold ryE;rw[h.nxE,h.en w r]
def Sm.rc (w:nz x) (r:RX x) {c d:CF} (h:Sm x c d) (ga:GAx e) (id:IA d e) {u:Int} (he:Ig x c a=J) (A:K9 x (sD x c a u) e=J):K9 x (sD x d a u) e=J:=by
 have h2:=h.mv w r u he;let⟨_,k,hk,g1,_⟩:=(IF x w c h.cc a).2 he;have I:xP x d.2.2.2.1 a=(k:Int):=by rw[<- h.nx];exact g1
 have ho:∀j:Int,(d.2.2.2.1++[(k:Int)]).contains j=(c.2.2.2.1++[(k:Int)]).contains j:=λj=>by rw[ku,ku,h.o]
 have hdw:=h.cd.wk;unfold K9 at A ⊢;split
 next q=>rw[aK q]at A;rw[<- h2.ry w r,<-h2.ry w r];exact A
 rename_i q;rw[ay q]at A;split
 .rename_i q;rw[aK q]at A;have:YU x (sD x d a u)=YU x (sD x c a u):=by funext z;unfold YU;rw[h2.nxE,h2.s]
  rw[this];exact A
 rename_i q;rw[ay q]at A;rw[qI,g1]at A;rw[qI,I,ho,ho];have hl:∀l:η,aw aP (l++[(k:Int)]) ((l! (l++[(k:Int)]):Int)-1)=(k:Int):=λl=>by
  rw[show (l! (l++[(k:Int)]):Int)-1=(l! l:Int) by rw[aF,a_];omega];exact MG (T:=aP) l _
 split
 next q=>rw[aK q,hl]at A;rw[hl];simp only[ak]at A ⊢;let⟨a1,N,a3,D⟩:=A;refine ⟨aO (by rw[aF,a_];omega),N,a3,?_⟩;have hB:(k:Int)=e.2.2.1:=aZ N;unfold wkB at D ⊢;rw[ak,decide_eq_true_iff,decide_eq_true_iff]at D ⊢;rw[h2.cc.wk]at D;rw[h2.cd.wk];refine ⟨D.1,?_⟩;rw[XS I (by omega) D.1.1 λg=>ga.l q (g.trans hB)];exact id.l q
 rename_i q;rw[ay q]at A;split
 .rename_i q;rw[aK q,<-h2.ry w r] at*
  simp only[ak,decide_eq_true_iff]at A ⊢;let⟨⟨a1,N⟩,a3,D⟩:=A;have cm:∀j:Int,j∈c.2.2.2.1++[(k:Int)]->j∈d.2.2.2.1++[(k:Int)]:=λj hj=>bR.1 (by rw[ho];exact bR.2 hj)
  have hA:=cm _ (tw.1 a1);have hC:=cm _ (tw.1 (wG a1 (Int.le_of_lt N)));exact⟨⟨tw.2 hA,ah0 (ga.a q) (id.a q) hA hC⟩,a3,D⟩
 next q=>rw[ay q]at A;cases A
def RP (x:WN) (g:sA):Nat->CF->Prop
 |0,_=>False
 |k+1,c=>∃ch∈chN x c (l! x.1.2.2.2.2.1),K9 x (sD x c ch.1 ch.2) g=J\/Ud (sD x c ch.1 ch.2) g=aa/\RP x g k (sD x c ch.1 ch.2)
def Sm.rp (w:nz x) (r:RX x) (q:GAx e):∀{k:Nat} {c d:CF},Sm x c d->IA c e->IA d e->RP x e k c->RP x e k d
 |0,_,_,_,_,_,hp=>hp
 |k+1,c,d,h,I,id,hp=>by
  let⟨ch,h1,h2⟩:=hp;have he:=Aj h1;have N:Ig x d ch.1=J:=by rw[<- h.en w r];exact he
  refine ⟨ch,by rw[<- h.ch w r];exact h1,?_⟩;rcases h2 with h2|⟨h2,h3⟩
  .exact .inl (h.rc w r q id he h2)
  .obtain⟨_,n,hn,D,_⟩:=(IF x w c h.cc ch.1).2 he;have A:xP x d.2.2.2.1 ch.1=(n:Int):=by rw[<- h.nx];exact D
   have hcw:=h.cc.wk;have hdw:=h.cd.wk;have m2:=h.ms w q id he h2;exact .inr ⟨m2,(h.mv w r ch.2 he).rp w r q (I.mv q D (by omega) h2) (id.mv q A (by omega) m2) h3⟩
structure ND (x:WN) (g:sA) (c:CF):Prop where
 ci:CI x c
 rg:RGd c
 pf:PF x c.2.2.2.1
 ia:IA c g
def ND.st0 (w:nz x) (r:RX x) (g:sA):ND x g (st0 x):=⟨RK w,aq6 r,λ_ _ _ _ _ h=>(by cases h),⟨λ_ h=>(by cases h),λ_=>MJ (T:=aP) (p:=λz=>z=0) (λz q=>(te.1 q).2) rfl _⟩⟩
def ND.mv (w:nz x) (r:RX x) (D:GAx e) {c:CF} (h:ND x e c) {u:Int} (he:Ig x c a=J) (hm:Ud (sD x c a u) e=aa):ND x e (sD x c a u):=by
 let⟨_,k,A,q,I,_⟩:=(IF x w c h.ci a).2 he;have hcw:=h.ci.wk;exact⟨IZ w h.ci u he,aug w r h.ci h.rg u he,by rw[qI,q];exact h.pf.snoc A q I,h.ia.mv D q (by omega) hm⟩
def X7 {ky:CF->ζ} :∀{l nx:Y Cz} {q:Cz},q∈l.foldl (LN ky e) nx->q∈nx\/q∈l/\Ud q.1 e=aa
 |[],nx,q,h=>.inl h
 |d::r,nx,q,h=>by
  rw[dz]at h;rcases X7 h with h|h
  .unfold LN at h;split at h
   .exact .inl h
   .rename_i hm;split at h
    .exact .inl h
    .rcases bt.1 h with h|h
     .exact .inl h
     .rw[aE]at h;subst h;exact .inr ⟨cj ..,by simpa using hm⟩
  .exact .inr ⟨bP _ h.1,h.2⟩
def Z7 {ky:CF->ζ} {g:sA} {k:ζ}:∀{l nx:Y Cz},((∃q∈nx,ky q.1=k)\/∃q∈l,Ud q.1 g=aa/\ky q.1=k)->∃q∈l.foldl (LN ky g) nx,ky q.1=k
 |[],nx,h=>by
  rcases h with h|⟨q,A,_⟩
  .exact h
  .cases A
 |d::r,nx,h=>by
  rw[dz];refine Z7 ?_;have keep:(∃q∈nx,ky q.1=k)->∃q∈LN ky g nx d,ky q.1=k:=λ⟨q,A,e⟩=>⟨q,by
   unfold LN;split
   .exact A
   .split
    .exact A
    .exact dW _ A,e⟩
  rcases h with h|⟨q,A,hm,e⟩
  .exact .inl (keep h)
  .rcases bk.1 A with rfl|A
   .by_cases p:ky q.1∈nx.map λq=>ky q.1
    .obtain⟨D,h1,h2⟩:=cv.1 p;exact .inl (keep ⟨D,h1,h2.trans e⟩)
    .refine .inl ⟨q,?_,e⟩;unfold LN;rw[ay (by rw[hm];decide),ay p];simp
   .exact .inr ⟨q,A,hm,e⟩
def ahw (w:nz x) (r:RX x) (ga:GAx e):∀{k:Nat} {L:Y Cz},(∀q∈L,ND x e q.1)->(∃q∈L,RP x e k q.1)->fnd x e (EY x (l! x.2.2.2)) k L
 |0,_,_,⟨_,_,h⟩=>h.elim
 |k+1,L,hL,⟨q,A,ch,h1,h2⟩=>by
  by_cases hd:∃d∈Is x L,K9 x d.1 e=J
  .exact .inl hd
  have hin:((sD x q.1 ch.1 ch.2,q.2++[ch]):Cz)∈Is x L:=by
   obtain⟨a,b,rfl⟩:=List.append_of_mem A;rw[C2,Is,bt,bt];exact .inr (.inl (cv.2 ⟨ch,h1,rfl⟩))
  rcases h2 with h2|⟨h2,h3⟩
  .exact .inl ⟨_,hin,h2⟩
  have hN:∀q∈nxL x e (EY x (l! x.2.2.2)) L,ND x e q.1:=λq A=>by
   rcases X7 A with A|⟨A,hm⟩
   .cases A
   let⟨D,b1,b2⟩:=G5 A;obtain⟨ch',b3,rfl⟩:=cv.1 b2;exact (hL D b1).mv w r ga (Aj b3) hm
  have I:=(hL q A).mv w r ga (u:=ch.2) (Aj h1) h2;let⟨D,hq',g⟩:=Z7 (ky:=λd=>HO (l! x.2.2.2) d (EY x (l! x.2.2.2))) (g:=e) (k:=HO (l! x.2.2.2) (sD x q.1 ch.1 ch.2) (EY x (l! x.2.2.2))) (l:=Is x L) (nx:=[]) (.inr ⟨_,hin,h2,rfl⟩);have N:=hN D hq';let⟨k1,k2,k3,k4⟩:=alp I.ci N.ci I.rg N.rg g.symm;have hs:Sm x (sD x q.1 ch.1 ch.2) D.1:=⟨I.ci,N.ci,k2,k3,k4,λj=>by
   by_cases p:0<=j/\j<l! x.2.2.2
   .have:=(k1 j.toNat (by omega)).1
    rwa [show ((j.toNat:Nat):Int)=j by omega]at this
   .have a:¬j∈(sD x q.1 ch.1 ch.2).2.2.2.1:=λa=>p (I.ci.od j a)
    have b:¬j∈D.1.2.2.2.1:=λa=>p (N.ci.od j a)
    rw[yX,bR,bR];exact⟨λh=>bc h a,λh=>bc h b⟩,λj hj=>(k1 j hj).2,I.pf⟩
  exact .inr (ahw w r ga hN ⟨D,hq',hs.rp w r ga I.ia N.ia h3⟩)
def ahv :∀{k:Nat} {L:Y Cz},fnd x e c k L->∃q∈L,RP x e k q.1
 |0,_,h=>h.elim
 |k+1,L,h=>by
  rcases h with ⟨d,hd,D⟩|h
  .obtain⟨q,h1,h2⟩:=G5 hd;obtain⟨ch,h3,rfl⟩:=cv.1 h2;exact⟨q,h1,ch,h3,.inl D⟩
  .obtain⟨d,hd,hp⟩:=ahv h;rcases X7 hd with hd|⟨hd,hm⟩
   .cases hd
   let⟨q,h1,h2⟩:=G5 hd;obtain⟨ch,h3,rfl⟩:=cv.1 h2;exact⟨q,h1,ch,h3,.inr ⟨hm,hp⟩⟩
end
section
def RDW (y:WN):Prop:=∀i:Nat,i<l! y.2.2.2->∀n:Int,dpE (eN y.2.2.2 i) n->aw aP y.2.2.1.2.2.2 (eN y.2.2.2 i).1<=n->nW (aw gm y.2.2.2 (aw aP (eY y.2.2.2 (eN y.2.2.2 i).1 i) (n-aw aP y.2.2.1.2.2.2 (eN y.2.2.2 i).1)))=J
structure vg (x y:WN) (P S:List ET):Prop where
 a:y.1=x.1
 l:y.2.2.2=P++(x.2.2.2++S)
 s:x.2.2.1=nD y.1 y.2.2.1 y.2.2.2 (l! P)
 o:nz x
 o':nz y
 r:RX x
 r':RX y
 d:RDW y
def uB:Nat->η
 |0=>[]
 |n+1=>uB n++[(n:Int)]
def FR:∀n,l! (uB n)=n
 |0=>rfl
 |n+1=>by rw[uB,aF,FR n];rfl
def rQ :∀{n:Nat},a∈uB n↔0<=a/\a<n
 |0=>⟨nofun,λh=>(by omega)⟩
 |n+1=>by
  rw[uB,bt,rQ,aE];omega
def Sp:∀n,(uB n).Nodup
 |0=>List.nodup_nil
 |n+1=>by
  rw[uB,List.nodup_append];exact⟨Sp n,by simp,λa A b q=>by rw[rQ]at A;rw[aE]at q;omega⟩
def Lx (p:Nat) (l:η):η:=l.map λz=>z+p
def y_ :a∈Lx i c↔a-i∈c:=by
 unfold Lx;rw[cv];exact⟨λ⟨z,h,e⟩=>by rw[<- e,tj];exact h,λh=>⟨_,h,tf ..⟩⟩
def RC (h0:0<=a) (h1:a<l! c):aw aP (Lx i c) a=aw aP c a+i:=by
 unfold aw Lx;rw[aA,aA];show ((c.map λz=>z+(i:Int))[a.toNat]?).getD _=(c[a.toNat]?).getD _+(i:Int)
 rw[bL,aL (by omega)];rfl
def s8 (l m:Y T.den) (h:(ah l:Int)<=a):aw _ (l++m) a=aw _ m (a-ah l):=by
 unfold aw;rw[aA,aA,cB (by omega)];congr 2;omega
def Uv (l m:Y R) (v:R) (h0:0<=a) (h:a<l! l):ca (l++m) a v=ca l a v++m:=by
 unfold ca;exact List.set_append_left _ _ (by omega)
def Fi (l m:Y R) {k:Int} (v:R) (h0:0<=k):ca (l++m) ((l! l:Int)+k) v=l++ca m k v:=by
 unfold ca;rw[List.set_append_right _ _ (by omega)];congr 2;omega
def IR (p:Nat) (q:η):η:=uB p++Lx p q
def Lb :a∈IR i c↔(0<=a/\a<i)\/a-i∈c:=by
 unfold IR;rw[bt,rQ,y_]
def HN (F:θ) (W:η) (s:Nat) (c:CF):CF:=(c.1,c.2.1,c.2.2.1,IR (l! F) c.2.2.2.1,F++(c.2.2.2.2.1++aD s aa),W++(c.2.2.2.2.2++aD s 0))
def OL (p:Nat) (g:sA):sA:=if g.1=2 then (g.1,0,0,0,0,Lx p g.2.2.2.2.2) else (g.1,g.2.1+p,g.2.2.1+p,if g.1=4 then g.2.2.2.1+p else 0,if g.1=4 then g.2.2.2.2.1+p else 0,[])
def afu (p:Nat) (g:sA):(OL p g).1=g.1:=by unfold OL;split<;>rfl
variable {x y:WN} {P S:Y ET}
def vg.len (h:vg x y P S):l! y.2.2.2=l! P+(l! x.2.2.2+l! S):=by rw[h.l,aF,aF]
def vg.at (h:vg x y P S) {k:Int} (h0:0<=k) (q:k<l! x.2.2.2):aw gm y.2.2.2 (k+l! P)=aw gm x.2.2.2 k:=by
 rw[h.l,s8 (T:=gm) P _ (by omega),mS (T:=gm) x.2.2.2 S (by omega) (by omega)];congr 1;omega
def vg.eN (h:vg x y P S) (q:i<l! x.2.2.2):eN y.2.2.2 (l! P+i)=AI.eN x.2.2.2 i:=by
 have:=h.at (k:=(i:Int)) (by omega) (by omega);unfold AI.eN;rw[<- this];congr 1;omega
def vg.eP (h:vg x y P S) (h0:0<=a) (q:a<l! P):aw gm y.2.2.2 a=aw gm P a:=by rw[h.l];exact mS (T:=gm) P _ h0 q
def vg.own (h:vg x y P S) (t:Int):∀i:Nat,i<=l! x.2.2.2->eY y.2.2.2 t (l! P+i)=eY y.2.2.2 t (l! P)++Lx (l! P) (eY x.2.2.2 t i)
 |0,_=>(cJ _).symm
 |i+1,hi=>by
  show eY y.2.2.2 t (l! P+i+1)=_;rw[eY,eY,h.eN (by omega),h.own t i (by omega)];split
  .unfold Lx;rw[b7,bm];congr 2;show [((l! P+i:Nat):Int)]=[(i:Int)+(l! P:Int)]
   congr 1;omega
  .rfl
def vg.cn (h:vg x y P S) (A:0<=a) (q:a<l! y.2.2.1.2.2.2):aw aP x.2.2.1.2.2.2 a=aw aP y.2.2.1.2.2.2 a+l! (eY y.2.2.2 a (l! P)):=by
 rw[h.s];exact (aib h.o' h.r' A q (l! P) (by rw[h.len];omega)).1
def vg.fx (h:vg x y P S) {fx:θ} (hf:l! fx=l! x.2.2.2) (hi:i<l! x.2.2.2) {ns:η} (D:∀n∈ns,dpE (AI.eN x.2.2.2 i) n):MO y (P.map nW++(fx++aD (l! S) aa)) (AI.eN x.2.2.2 i).1 ns=MO x fx (AI.eN x.2.2.2 i).1 ns:=by
 have hpi:l! P+i<l! y.2.2.2:=by rw[h.len];omega
 have ey:=h.eN hi;have gx:=h.o.eni hi;have t0:=gx.t0;have t1:=gx.t1;have fy:=h.o'.jb.k;have fxk:=h.o.jb.k;have hxy:l! y.1.2.2.2.2.1=l! x.1.2.2.2.2.1:=by rw[h.a]
 have hcn:=h.cn t0 (by rw[fy,h.a];exact t1);have hown:=h.own (AI.eN x.2.2.2 i).1 i (eZ hi);have key:∀n∈ns,VK (eY y.2.2.2 (AI.eN x.2.2.2 i).1 (l! y.2.2.2)) (P.map nW++(fx++aD (l! S) aa)) (aw aP y.2.2.1.2.2.2 (AI.eN x.2.2.2 i).1) n=VK (eY x.2.2.2 (AI.eN x.2.2.2 i).1 (l! x.2.2.2)) fx (aw aP x.2.2.1.2.2.2 (AI.eN x.2.2.2 i).1) n:=λn hm=>by
  have hd:=D n hm;obtain⟨xw,xl⟩:=Ui h.o h.r hi hd;obtain⟨I,N⟩:=Ui h.o' h.r' hpi (by rw[ey];exact hd);have q:=h.d _ hpi n (by rw[ey];exact hd);rw[ey]at I N q;obtain⟨t,ht⟩:∃t:Int,t=(AI.eN x.2.2.2 i).1:=⟨_,rfl⟩
  rw[<- ht]at xw xl I N q hcn hown ⊢;obtain⟨B,hB⟩:∃b:Int,b=aw aP y.2.2.1.2.2.2 t:=⟨_,rfl⟩
  obtain⟨A,hA⟩:∃b:Int,b=aw aP x.2.2.1.2.2.2 t:=⟨_,rfl⟩
  rw[<- hB]at I N q hcn ⊢;rw[<- hA]at xw xl hcn ⊢;have hcn:A=B+(l! (eY y.2.2.2 t (l! P)):Int):=hcn;have px:=Bu (l:=x.2.2.2) (t:=t) (k:=n-A) (eZ hi);have py:=Bu (l:=y.2.2.2) (t:=t) (k:=n-B) (eZ hpi);have hpl:=xO y.2.2.2 t (l! P);have hul:l! (Lx (l! P) (eY x.2.2.2 t i))=l! (eY x.2.2.2 t i):=bj ..;unfold VK;rw[xw,I];by_cases q1:n<B
  .rw[aO q1,aO (by omega:n<A)];rfl
  obtain⟨p1,p2⟩:=py (by omega) N;have q:=q (gG.1 q1);rw[bp q1,nU];have hlen:∀z:Int,z<l! y.2.2.2->z<(l! (P.map nW++(fx++aD (l! S) aa)):Int):=λz hz=>by
   rw[aF,aF,cR,bj,hf];have:=h.len;omega
  have hzy:=rB (ba (T:=aP) (j:=n-B) (by omega) p2);have q0:0<=n-B:=by omega
  by_cases q2:n<A
  .rw[aO q2,Bool.true_or];unfold fxK;rw[aO (p:=_/\_/\_) ⟨q0,p2,hlen _ hzy.2⟩,cD];rw[<- p1]at q;have hz:aw aP (eY y.2.2.2 t (l! y.2.2.2)) (n-B)=aw aP (eY y.2.2.2 t (l! P)) (n-B):=(Bu (by omega) q0 (by omega)).1;rw[hz]at q ⊢;have hzp:=rB (ba (T:=aP) (xs:=eY y.2.2.2 t (l! P)) (j:=n-B) q0 (by omega));obtain⟨z,hzz⟩:∃z:Int,z=aw aP (eY y.2.2.2 t (l! P)) (n-B):=⟨_,rfl⟩
   rw[<- hzz]at q hzp ⊢;rw[mS (T:=.bool) (P.map nW) _ hzp.1 (by rw[bj];exact hzp.2)];rw[h.eP hzp.1 hzp.2]at q;unfold aw at q ⊢;rw[aA]at q ⊢;show ((P.map nW)[z.toNat]?).getD _=J;rw[aL (by omega)]at q;rw[bL,aL (by omega)];exact q
  .obtain⟨x1,x2⟩:=px (by omega) xl;have q3:0<=n-A:=by omega
   rw[bp q2,nU];have hzx:=rB (ba (T:=aP) (j:=n-A) q3 x2);have hz:aw aP (eY y.2.2.2 t (l! y.2.2.2)) (n-B)=aw aP (eY x.2.2.2 t (l! x.2.2.2)) (n-A)+l! P:=by
    rw[p1,x1,hown,s8 (T:=aP) (eY y.2.2.2 t (l! P)) _ (by omega),show n-B-(l! (eY y.2.2.2 t (l! P)):Int)=n-A by omega];exact RC q3 xl
   unfold fxK;rw[aO (p:=_/\_/\_) ⟨q0,p2,hlen _ hzy.2⟩,aO (p:=_/\_/\_) ⟨q3,x2,by rw[hf];exact hzx.2⟩,cD,cD,hz];obtain⟨z,hzz⟩:∃z:Int,z=aw aP (eY x.2.2.2 t (l! x.2.2.2)) (n-A):=⟨_,rfl⟩
   rw[<- hzz]at hzx ⊢;rw[s8 (T:=.bool) (P.map nW) _ (by rw[bj];omega),bj,tj];exact mS (T:=.bool) fx _ hzx.1 (by rw[hf];exact hzx.2)
 unfold MO;rw[aO (p:=0<=(AI.eN x.2.2.2 i).1/\(AI.eN x.2.2.2 i).1<l! y.1.2.2.2.2.1/\(AI.eN x.2.2.2 i).1<l! y.2.2.1.2.2.2) ⟨t0,by rw[hxy];exact t1,by rw[fy,hxy];exact t1⟩,aO (p:=0<=(AI.eN x.2.2.2 i).1/\(AI.eN x.2.2.2 i).1<l! x.1.2.2.2.2.1/\(AI.eN x.2.2.2 i).1<l! x.2.2.1.2.2.2) ⟨t0,t1,by rw[fxk];exact t1⟩];congr 2;rw[yX,cQ,cQ];exact⟨λa n D=>by rw[<- key n D];exact a n D,λa n D=>by rw[key n D];exact a n D⟩
def vg.nx (h:vg x y P S) (I:i<l! x.2.2.2) (e:xP x c a=(i:Int)) (ht:(AI.eN x.2.2.2 i).1=a) (D:¬(i:Int)∈c) (N:0<=a/\a<l! x.1.2.2.2.2.1):xP y (IR (l! P) c) a=(i:Int)+l! P:=by
 unfold xP;rw[ay (by rw[h.a];omega),show (i:Int)+l! P=((l! P+i:Nat):Int) by omega];refine Ez (by rw[h.len];omega) ?_ λj hj=>?_
 .unfold nxp;rw[h.eN I,aO ht,cD,dE,<-iQ,bR,Lb];rintro (q|q)
  .omega
  .exact D (by rwa [show ((l! P+i:Nat):Int)-l! P=(i:Int) by omega]at q)
 .unfold nxp;by_cases q:(AI.eN y.2.2.2 j).1=a
  .rw[aO q,cD,iB,bR,Lb];rcases bF j (l! P) with g|g
   .exact .inl (by omega)
   .obtain⟨m,rfl⟩:∃m,j=l! P+m:=⟨j-l! P,by omega⟩
    rw[h.eN (by omega)]at q;refine .inr ?_;rw[show ((l! P+m:Nat):Int)-l! P=(m:Int) by omega];exact aaa e (by omega) q
  .rw[bp q];rfl
def UT (p:Nat):∀{l:η},l.Nodup->(Lx p l).Nodup
 |[],_=>List.nodup_nil
 |z::r,h=>by
  rw[List.nodup_cons]at h;show ((z+(p:Int))::Lx p r).Nodup;rw[List.nodup_cons,y_,tj];exact⟨h.1,UT p h.2⟩
def vg.ci (h:vg x y P S) {W:CF} (N:CI x W) (hW:l! c=l! P):CI y (HN (P.map nW) c (l! S) W):=by
 let⟨a1,a2,a3,a4,a5,a6,I,a8,a9,A⟩:=N;have e:l! (P.map nW)=l! P:=bj ..;refine ⟨a1,by rw[h.a];exact a2,by rw[h.a];exact a3,by rw[h.a];exact a4,by rw[h.a];exact a5,by rw[h.a];exact a6,λz q=>?_,?_,?_,?_⟩
 .have q:z∈IR (l! (P.map nW)) W.2.2.2.1:=q;rw[e,Lb]at q;rw[h.len];rcases q with q|q
  .omega
  .have:=I _ q;omega
 .show (IR (l! (P.map nW)) W.2.2.2.1).Nodup;rw[e];unfold IR;rw[List.nodup_append];exact⟨Sp _,UT _ a8,λa ha b D=>by rw[rQ]at ha;rw[y_]at D;have:=I _ D;omega⟩
 .show (l! (P.map nW++(W.2.2.2.2.1++aD (l! S) aa)))=_;rw[aF,aF,cR,e,h.len,a9]
 .show (l! (c++(W.2.2.2.2.2++aD (l! S) 0)))=_;rw[aF,aF,cR,hW,h.len,A]
def vg.en (h:vg x y P S) {W:CF} (q:CI x W) (hW:l! c=l! P) (he:Ig x W a=J):Ig y (HN (P.map nW) c (l! S) W) a=J:=by
 let⟨ht,k,A,I,D,g3,_⟩:=(IF x h.o W q a).2 he;have e:l! (P.map nW)=l! P:=bj ..;have N:=h.nx A I D g3 ht;rw[V_ h.o' (h.ci q hW)];rw[V_ h.o q]at he;unfold enP at he ⊢;rw[show (HN (P.map nW) c (l! S) W).2.2.2.1=IR (l! P) W.2.2.2.1 by unfold HN;rw[e],N,ay (by omega),h.at (by omega) (by omega),h.a];rw[I,ay (by omega)]at he;rw[ak]at he ⊢;refine ⟨he.1,?_⟩;rw[<- D]at he ⊢;rw[<- he.2];exact h.fx q.fx A λn hn=>.inl hn
def vg.chT (h:vg x y P S) {W:CF} (A:CI x W) (hW:l! c=l! P) {z:ν} (q:z∈chT x W a):z∈AI.chT y (HN (P.map nW) c (l! S) W) a:=by
 unfold AI.chT at q ⊢;split at q
 next he=>let⟨ht,k,I,D,g2,N,_⟩:=(IF x h.o W A a).2 he;have e:l! (P.map nW)=l! P:=bj ..;rw[aK (h.en A hW he),show (HN (P.map nW) c (l! S) W).2.2.2.1=IR (l! P) W.2.2.2.1 by unfold HN;rw[e],h.nx I D g2 N ht,h.at (by omega) (by omega)];rw[D]at q;exact q
 .cases q
def vg.chN (h:vg x y P S) {W:CF} (A:CI x W) (hW:l! c=l! P) {z:ν}:∀{n:Nat},z∈chN x W n->z∈AI.chN y (HN (P.map nW) c (l! S) W) n
 |0,q=>by cases q
 |n+1,q=>by
  rw[AI.chN]at q ⊢;rcases bt.1 q with q|q
  .exact dW _ (h.chN A hW q)
  .exact lw _ (h.chT A hW q)
def vg.mv (h:vg x y P S) {W:CF} (q:CI x W) (hW:l! c=l! P) {u:Int} (he:Ig x W a=J):sD y (HN (P.map nW) c (l! S) W) a u=HN (P.map nW) c (l! S) (sD x W a u):=by
 let⟨ht,k,A,I,D,g3,_⟩:=(IF x h.o W q a).2 he;have e:l! (P.map nW)=l! P:=bj ..;have hfr:=h.fx q.fx A (ns:=(AI.eN x.2.2.2 k).2.2.2.2.2.2) λn hn=>.inr hn
 rw[D]at hfr;have hfx:=q.fx;have hwk:=q.wk;unfold sD;rw[show (HN (P.map nW) c (l! S) W).2.2.2.1=IR (l! P) W.2.2.2.1 by unfold HN;rw[e],h.nx A I D g3 ht,I,h.at (by omega) (by omega)];have hfr:MO y (P.map nW++(W.2.2.2.2.1++aD (l! S) aa)) a (aw gm x.2.2.2 (k:Int)).2.2.2.2.2.2=MO x W.2.2.2.2.1 a (aw gm x.2.2.2 (k:Int)).2.2.2.2.2.2:=hfr;generalize aw gm x.2.2.2 (k:Int)=ev at hfr;have sF:∀b:Bool,ca (P.map nW++(W.2.2.2.2.1++aD (l! S) aa)) ((k:Int)+l! P) b=P.map nW++(ca W.2.2.2.2.1 (k:Int) b++aD (l! S) aa):=λb=>by
  have:=Fi (P.map nW) (W.2.2.2.2.1++aD (l! S) aa) (k:=(k:Int)) b (by omega);rw[e]at this;rw[Int.add_comm,this,Uv _ _ _ (by omega) (by omega)]
 have sW:∀b:Int,ca (c++(W.2.2.2.2.2++aD (l! S) 0)) ((k:Int)+l! P) b=c++(ca W.2.2.2.2.2 (k:Int) b++aD (l! S) 0):=λb=>by
  have:=Fi c (W.2.2.2.2.2++aD (l! S) 0) (k:=(k:Int)) b (by omega);rw[hW]at this;rw[Int.add_comm,this,Uv _ _ _ (by omega) (by omega)]
 have N:IR (l! P) W.2.2.2.1++[(k:Int)+l! P]=IR (l! P) (W.2.2.2.1++[(k:Int)]):=by
  unfold IR Lx;rw[b7,bm];rfl
 unfold mvE HN;dsimp only;rw[h.a,hfr,e,N,sF,sF,sW,sW];congr 5
 .split
  .rfl
  .split<;>rfl
 .split
  .split<;>rfl
  .split<;>rfl
def vg.nxE (h:vg x y P S) {c:CF} {W:η} (A:nxE x c a=J):AI.nxE y (HN (P.map nW) W (l! S) c) (a+l! P)=J:=by
 have hi:=Se A;have e:l! (P.map nW)=l! P:=bj ..;unfold AI.nxE at A ⊢;rw[ak,decide_eq_true_iff,decide_eq_true_iff]at A ⊢;refine ⟨⟨by omega,by rw[h.len];omega⟩,?_⟩;rcases Sd x c.2.2.2.1 (aw gm x.2.2.2 a).1 with q|⟨ht,k,N,I,g2,g3⟩
 .rw[q]at A;omega
 .have D:(k:Int)=a:=I.symm.trans A.2;rw[show (HN (P.map nW) W (l! S) c).2.2.2.1=IR (l! P) c.2.2.2.1 by unfold HN;rw[e],h.at hi.1 hi.2,h.nx N I g2 g3 ht,D]
def vg.ryE (h:vg x y P S) {W:CF} (A:CI x W) (hW:l! c=l! P) (q:ryE x W a=J):AI.ryE y (HN (P.map nW) c (l! S) W) (a+l! P)=J:=by
 unfold AI.ryE at q ⊢;rw[ak]at q ⊢;have hi:=Se q.1;exact⟨h.nxE q.1,by rw[h.at hi.1 hi.2];exact h.en A hW q.2⟩
def ah1 (h:a∈c) (h0:∀z∈c,0<=z):A_ (IR i c) (a+i)=A_ c a+i:=by
 have hm:=tw.2 h;unfold A_ at hm ⊢;rcases z_ (λk=>decide (a=aw aP c (k:Int))) (l! c) with ⟨h1,_⟩|⟨k,h1,h2,h3,h4⟩
 .rw[h1]at hm;exact bc hm (by decide)
 .rw[h2,show (k:Int)+i=((i+k:Nat):Int) by omega];have hil:=FR i;have I:∀j:Nat,j<l! c->aw aP (IR i c) ((i+j:Nat):Int)=aw aP c (j:Int)+i:=λj N=>by
   unfold IR;rw[s8 (T:=aP) (uB i) _ (by omega),show ((i+j:Nat):Int)-(l! (uB i):Int)=(j:Int) by omega];exact RC (by omega) (by omega)
  have ha:=h0 a h;refine Ez (by unfold IR Lx;rw[aF,bj,hil];omega) ?_ λj N=>?_
  .rw[I k h1,<-aZ h3];exact aO rfl
  .refine bp λq=>?_
   rcases bF j i with g|g
   .have D:aw aP (IR i c) (j:Int)=aw aP (uB i) (j:Int):=mS (T:=aP) (uB i) _ (by omega) (by omega);have:=rQ.1 (ba (T:=aP) (xs:=uB i) (j:=(j:Int)) (by omega) (by omega));rw[D]at q;have q:a+i=aw aP (uB i) (j:Int):=q;omega
   .obtain⟨m,rfl⟩:∃m,j=i+m:=⟨j-i,by omega⟩
    rw[I m (by omega)]at q;have:=h4 m (by omega);rw[decide_eq_false_iff_not]at this;exact this (by have q:a+i=aw aP c (m:Int)+i:=q;omega)
def HB (p:Nat) (A:η) (h:0<=a):(IR p A).contains (a+p)=A.contains a:=by
 rw[yX,bR,bR,Lb,tj];exact⟨λq=>q.resolve_left λq=>by omega,.inr⟩
structure GIn (g:sA) (n:Nat):Prop where
 c:g.1=2->∀z∈g.2.2.2.2.2,0<=z/\z<(n:Int)
 ab:¬g.1=2->(0<=g.2.1/\g.2.1<n)/\0<=g.2.2.1/\g.2.2.1<n
 cd:g.1=4->(0<=g.2.2.2.1/\g.2.2.2.1<n)/\0<=g.2.2.2.2.1/\g.2.2.2.2.1<n
def GV.gin {w:WT} {ev:Int->ET} {sy:Int->SY} (h:GV w i ev sy e):GIn e i:=by
 rcases h with h|h|h|h
 .exact⟨λq=>bc (h.1.symm.trans q) (by decide),λ_=>⟨h.2.2.2.2.1,h.2.2.2.2.2.1⟩,λq=>bc (h.1.symm.trans q) (by decide)⟩
 .exact⟨λ_=>h.2.2.2.2.2.2.2.1,λq=>bc h.1 q,λq=>bc (h.1.symm.trans q) (by decide)⟩
 .exact⟨λq=>bc (h.1.symm.trans q) (by decide),λ_=>⟨h.2.2.2.2.1,h.2.2.2.2.2.1⟩,λq=>bc (h.1.symm.trans q) (by decide)⟩
 .exact⟨λq=>bc (h.1.symm.trans q) (by decide),λ_=>⟨h.2.2.1.1,h.2.2.1.2.1⟩,λ_=>⟨h.2.2.1.2.2.1,h.2.2.1.2.2.2⟩⟩
def vg.rc (h:vg x y P S) {W:CF} (D:CI x W) (hW:l! c=l! P) (N:GIn e (l! x.2.2.2)) (q:K9 x W e=J):K9 y (HN (P.map nW) c (l! S) W) (OL (l! P) e)=J:=by
 have g:l! (P.map nW)=l! P:=bj ..;have ho:(HN (P.map nW) c (l! S) W).2.2.2.1=IR (l! P) W.2.2.2.1:=by unfold HN;rw[g]
 have hod:=λz A=>(D.od z A).1
 have hwk:=D.wk;unfold K9 at q ⊢;rw[afu,ho];unfold OL;by_cases q1:e.1=1
 .rw[aK q1,ak]at q;rw[aK q1,ay (by rw[q1];decide),ak];exact⟨h.ryE D hW q.1,h.ryE D hW q.2⟩
 rw[ay q1]at q;rw[ay q1];by_cases q2:e.1=2
 .rw[aK q2,cQ]at q;rw[aK q2,aK q2,cQ];intro z A;have A:z∈Lx (l! P) e.2.2.2.2.2:=A;rw[y_]at A;have hcy:=q _ A;have hzi:=N.c q2 _ A;unfold YU at hcy ⊢;rw[ak]at hcy ⊢;have:=h.nxE (W:=c) hcy.1;have ha:=h.at hzi.1 hzi.2;rw[tf]at this ha;exact⟨this,by rw[ha];exact hcy.2⟩
 rw[ay q2]at q;rw[ay q2,ay q2];have gab:=N.ab q2;dsimp only;by_cases q3:e.1=3
 .rw[aK q3]at q;rw[aK q3];simp only[ak,decide_eq_true_iff]at q ⊢;let⟨a1,a2,a3,I⟩:=q;have hol:l! (IR (l! P) W.2.2.2.1)=l! P+l! W.2.2.2.1:=by unfold IR Lx;rw[aF,bj,FR]
  refine ⟨by omega,?_,by rw[HB _ _ gab.1.1];exact a3,?_⟩
  .rw[<- a2];unfold IR at hol ⊢;have hil:=FR (l! P);rw[s8 (T:=aP) (uB (l! P)) _ (by omega),show (l! (uB (l! P)++Lx (l! P) W.2.2.2.1):Int)-1-(l! (uB (l! P)):Int)=(l! W.2.2.2.1:Int)-1 by omega];exact RC (by omega) (by omega)
  .unfold wkB at I ⊢;rw[ak,decide_eq_true_iff,decide_eq_true_iff]at I ⊢;show ((0:Int)<=_/\_<(l! (c++(W.2.2.2.2.2++aD (l! S) 0)):Int))/\aw aP (c++(W.2.2.2.2.2++aD (l! S) 0)) _=0;rw[aF,aF,hW];refine ⟨by omega,?_⟩;rw[s8 (T:=aP) c _ (by omega),hW,tj,mS (T:=aP) W.2.2.2.2.2 _ (by omega) (by omega)];exact I.2
 rw[ay q3]at q;rw[ay q3];by_cases q4:e.1=4
 .rw[aK q4]at q;rw[aK q4,aK q4,aK q4];have gcd:=N.cd q4;simp only[ak,decide_eq_true_iff]at q ⊢;let⟨⟨a1,a2⟩,a3,I⟩:=q;rw[ah1 (tw.1 a1) hod,ah1 (tw.1 (wG a1 (Int.le_of_lt a2))) hod,HB _ _ gcd.2.1];exact⟨⟨by omega,by omega⟩,a3,h.ryE D hW I⟩
 .rw[ay q4]at q;cases q
def vg.ms (h:vg x y P S) {W:CF} (N:CI x W) (hW:l! c=l! P) (A:GIn e (l! x.2.2.2)) (hm:Ud W e=aa):Ud (HN (P.map nW) c (l! S) W) (OL (l! P) e)=aa:=by
 have g:l! (P.map nW)=l! P:=bj ..;have D:(HN (P.map nW) c (l! S) W).2.2.2.1=IR (l! P) W.2.2.2.1:=by unfold HN;rw[g]
 have hwk:=N.wk;have I:∀z:Int,0<=z->z<l! x.2.2.2->aw aP (HN (P.map nW) c (l! S) W).2.2.2.2.2 (z+l! P)=aw aP W.2.2.2.2.2 z:=λz h0 h1=>by
  show aw aP (c++(W.2.2.2.2.2++aD (l! S) 0)) _=_;rw[s8 (T:=aP) c _ (by omega),hW,tj,mS (T:=aP) W.2.2.2.2.2 _ (by omega) (by omega)]
 unfold Ud at hm ⊢;rw[afu,D];unfold OL;by_cases q2:e.1=2
 .rw[ay (by rw[q2];decide),aK q2]at hm ⊢;rw[aK q2];dsimp only;rw[<- iQ,List.any_eq_true]at hm ⊢;rintro⟨z,q,hzc⟩;rw[y_]at q;have hzi:=A.c q2 _ q;have:=HB (l! P) W.2.2.2.1 hzi.1;rw[tf]at this;exact hm ⟨_,q,this.symm.trans hzc⟩
 .have gab:=A.ab q2;rw[ay q2]at hm;rw[ay q2,ay q2];dsimp only;rw[HB _ _ gab.1.1,HB _ _ gab.2.1,I _ gab.1.1 gab.1.2];by_cases q4:e.1=4
  .rw[aK q4]at hm;rw[aK q4,aK q4,HB _ _ (A.cd q4).1.1];exact hm
  .rw[ay q4]at hm;rw[ay q4];exact hm
def vg.rp (h:vg x y P S) (hW:l! c=l! P) (A:GIn e (l! x.2.2.2)):∀{k:Nat} {W:CF},CI x W->RP x e k W->RP y (OL (l! P) e) k (HN (P.map nW) c (l! S) W)
 |0,_,_,hp=>hp
 |k+1,W,q,hp=>by
  let⟨ch,h1,h2⟩:=hp;have he:=Aj h1;refine ⟨ch,by rw[h.a];exact h.chN q hW h1,?_⟩;rw[h.mv q hW he];have hd:=IZ h.o q ch.2 he;rcases h2 with h2|⟨h2,h3⟩
  .exact .inl (h.rc hd hW A h2)
  .exact .inr ⟨h.ms hd hW A h2,h.rp hW A hd h3⟩
end
section
variable {x y:WN} {P S:Y ET}
def vg.sn (h:vg x y P S):∀k:Nat,k<=l! x.2.2.2->nD y.1 y.2.2.1 y.2.2.2 (l! P+k)=nD x.1 x.2.2.1 x.2.2.2 k
 |0,_=>h.s.symm
 |k+1,q=>by
  show nD y.1 y.2.2.1 y.2.2.2 (l! P+k+1)=_;rw[Dy _ _ (by rw[h.len];omega),Dy _ _ (by omega),h.sn k (by omega),h.eN (by omega),h.a]
def vg.sy (h:vg x y P S) {k:Int} (h0:0<=k) (q:k<l! x.2.2.2):aw pE (ze y (l! y.2.2.2)) (k+l! P)=aw pE (ze x (l! x.2.2.2)) k:=by
 have e1:k+l! P=((l! P+k.toNat:Nat):Int):=by omega
 have e2:k=((k.toNat:Nat):Int):=by omega
 rw[e1,D9 y (by rw[h.len];omega),h.sn _ (by omega)];rw[e2,D9 x (by omega)];rfl
def vg.gv (h:vg x y P S) (A:GV x.1 (l! x.2.2.2) (aw gm x.2.2.2) (aw pE (ze x (l! x.2.2.2))) e):GV y.1 (l! y.2.2.2) (aw gm y.2.2.2) (aw pE (ze y (l! y.2.2.2))) (OL (l! P) e):=by
 have he:= @vg.at x y P S h;have hs:= @vg.sy x y P S h;have hn:=h.len;rw[h.a];generalize aw gm y.2.2.2=ev' at he ⊢;generalize aw pE (ze y (l! y.2.2.2))=sy' at hs ⊢;generalize (l! y.2.2.2)=n' at hn ⊢;generalize aw gm x.2.2.2=ev at he A;generalize aw pE (ze x (l! x.2.2.2))=sy at hs A;generalize (l! x.2.2.2)=n at hn he hs A;generalize (l! P)=p at hn he hs ⊢;unfold OL;rcases A with A|A|A|A
 .have q:=A.1;rw[ay (by rw[q];decide),ay (by rw[q];decide),ay (by rw[q];decide)];refine .inl ⟨q,rfl,rfl,rfl,?_⟩;let⟨D,I,a3,N,a5,a6⟩:=A.2.2.2.2;unfold UH;dsimp only;rw[he D.1 D.2,he I.1 I.2];exact⟨by omega,by omega,by omega,N,a5,a6⟩
 .have q:=A.1;rw[aK q];refine .inr (.inl ⟨q,rfl,rfl,rfl,rfl,?_⟩);let⟨D,I,a3,N⟩:=A.2.2.2.2.2;dsimp only;generalize e.2.2.2.2.2=ns at D I a3 N;have hl:l! (Lx p ns)=l! ns:=bj ..;have hin:∀k:Int,0<=k->k<l! ns->(0<=aw aP ns k/\aw aP ns k<(n:Int))/\aw aP (Lx p ns) k=aw aP ns k+p:=λk k0 k1=>⟨a3 _ (ba (T:=aP) k0 k1),RC k0 k1⟩
  refine ⟨by omega,by omega,λz hz=>?_,λi hi=>?_⟩
  .rw[y_]at hz;have:=a3 _ hz;omega
  .rw[hl]at hi ⊢;let⟨b1,b2,b3⟩:=N i hi;let⟨c1,c2⟩:=hin (i:Int) (by omega) (by omega);have hm:=RF i (n:=l! ns) (by omega);let⟨d1,d2⟩:=hin _ hm.1 hm.2;let⟨_,f2⟩:=hin 0 (by omega) (by omega);rw[c2,d2,f2,he c1.1 c1.2,he d1.1 d1.2,hs d1.1 d1.2];refine ⟨Int.add_le_add_right b1 _,b2,λj hj=>?_⟩;let⟨j1,j2⟩:=hin (j:Int) (by omega) (by omega);rw[j2,he j1.1 j1.2];exact b3 j hj
 .have q:=A.1;rw[ay (by rw[q];decide),ay (by rw[q];decide),ay (by rw[q];decide)];refine .inr (.inr (.inl ⟨q,rfl,rfl,rfl,?_⟩));let⟨D,I,a3,N,a5,a6,a7,a8,a9,a10⟩:=A.2.2.2.2;unfold UY;dsimp only;rw[he D.1 D.2,he I.1 I.2,hs D.1 D.2];refine ⟨by omega,by omega,by omega,N,a5,a6,a7,λk k0 k1=>?_,a9,a10⟩;have:=he (k:=k-p) (by omega) (by omega);rw[tf]at this;rw[this];exact a8 _ (by omega) (by omega)
 .have q:=A.1;rw[ay (by rw[q];decide),aK q,aK q];refine .inr (.inr (.inr ⟨q,rfl,?_⟩));let⟨⟨D,I,a3,N⟩,⟨b1,b2,b3,b4⟩,c1,c2,c3,c4,c5⟩:=A.2.2;unfold N3 aiw;dsimp only;rw[he D.1 D.2,he I.1 I.2,he a3.1 a3.2,he N.1 N.2,hs D.1 D.2];refine ⟨⟨by omega,by omega,by omega,by omega⟩,⟨by omega,b2,b3,λk k0 k1=>?_⟩,by omega,c2,c3,c4,c5⟩;have:=he (k:=k-p) (by omega) (by omega);rw[tf]at this;rw[this];exact b4 _ (by omega) (by omega)
def U2 (l:η):Y c?:=l.map λz=>(z,J)
def LH (y:WN) (j:Nat) (W:η) (r:Nat):CF:=((nD y.1 y.2.2.1 y.2.2.2 j).1,U2 (nD y.1 y.2.2.1 y.2.2.2 j).2.1,U2 (nD y.1 y.2.2.1 y.2.2.2 j).2.2.1,uB j,(y.2.2.2.take j).map nW++aD r aa,W++aD r 0)
def agy (h0:0<=a) (h1:a<l! c):aw Bn (U2 c) a=(aw aP c a,J):=by
 unfold aw U2;rw[aA,aA];show ((c.map λz=>(z,J))[a.toNat]?).getD _=((c[a.toNat]?).getD _,J)
 rw[bL,aL (by omega)];rfl
def aan (l:η) (k v:Int):ca (U2 l) k (v,J)=U2 (ca l k v):=by
 unfold ca U2;rw[List.map_set]
def X2 (h:nz y):∀j:Nat,j<=l! y.2.2.2->(nD y.1 y.2.2.1 y.2.2.2 j).2.1.length=l! y.1.1/\(nD y.1 y.2.2.1 y.2.2.2 j).2.2.1.length=l! y.1.2.2.2.1
 |0,_=>⟨h.jb.c,h.jb.f⟩
 |j+1,q=>by
  let⟨a,b⟩:=X2 h j (by omega);rw[Dy _ _ (by omega)];refine ⟨Eq.trans ?_ a,Eq.trans ?_ b⟩
  .show (l! (Rf _ _))=_;unfold Rf;split
   .exact bM ..
   .rfl
  .show (l! (S6 _ _))=_;unfold S6;split
   .exact bM ..
   .rfl
def aqc (h:nz y) (D:i+m=l! y.2.2.2) (hW:l! c=i) (A:0<m):CI y (LH y i c m):=by
 let⟨a,b⟩:=X2 h i (by omega);have g:=h.eni (i:=i) (by omega);refine ⟨h.ch.p8 h.p8 h.vl i (by omega),g.e1,g.e2,g.e3,(bj ..).trans a,(bj ..).trans b,λz q=>?_,Sp i,?_,?_⟩
 .have q:z∈uB i:=q;rw[rQ]at q;omega
 .show (l! ((y.2.2.2.take i).map nW++aD m aa))=_;rw[aF,bj,bl,cR];omega
 .show (l! (c++aD m 0))=_;rw[aF,cR];omega
def alb (q:i<l! y.2.2.2) (A:0<=(eN y.2.2.2 i).1/\(eN y.2.2.2 i).1<l! y.1.2.2.2.2.1):xP y (uB i) (eN y.2.2.2 i).1=(i:Int):=by
 unfold xP;rw[ay (by omega)];refine Ez q ?_ λk D=>?_
 .unfold nxp;rw[aO rfl,cD,dE,<-iQ,bR,rQ];omega
 .unfold nxp;rw[bR.2 (rQ.2 ⟨by omega,by omega⟩)];exact Bool.and_false _
def ahq (h:nz y) (r:RX y) (d:RDW y) (D:i<l! y.2.2.2) {fx:θ} (hl:l! fx=l! y.2.2.2) (hf:∀k:Nat,k<i->aw (.bool) fx (k:Int)=nW (eN y.2.2.2 k)) {ns:η} (hn:∀n∈ns,dpE (eN y.2.2.2 i) n):MO y fx (eN y.2.2.2 i).1 ns=J:=by
 have g:=h.eni D;have fk:=h.jb.k;have t0:=g.t0;have t1:=g.t1;unfold MO;rw[aO (p:=0<=(eN y.2.2.2 i).1/\(eN y.2.2.2 i).1<l! y.1.2.2.2.2.1/\(eN y.2.2.2 i).1<l! y.2.2.1.2.2.2) ⟨t0,t1,by rw[fk];exact t1⟩,cD,eu];refine .inr ?_;rw[cQ];intro n hm;have hd:=hn n hm;let⟨N,I⟩:=Ui h r D hd;have A:=d i D n hd;obtain⟨B,hB⟩:∃b:Int,b=aw aP y.2.2.1.2.2.2 (eN y.2.2.2 i).1:=⟨_,rfl⟩
 rw[<- hB]at N I A ⊢;unfold VK;rw[N];by_cases q:n<B
 .rw[aO q];rfl
 have q0:0<=n-B:=by omega
 let⟨p1,p2⟩:=Bu (l:=y.2.2.2) (t:=(eN y.2.2.2 i).1) (k:=n-B) (eZ D) q0 I;have A:=A (gG.1 q);rw[bp q,nU];unfold fxK;have hz:=rB (ba (T:=aP) (xs:=eY y.2.2.2 (eN y.2.2.2 i).1 i) (j:=n-B) q0 I);rw[p1];obtain⟨z,hzz⟩:∃z:Int,z=aw aP (eY y.2.2.2 (eN y.2.2.2 i).1 i) (n-B):=⟨_,rfl⟩
 rw[<- hzz]at A hz ⊢;rw[aO (p:=_/\_/\_) ⟨q0,p2,show z<(l! fx:Int) by rw[hl];omega⟩,cD];have:=hf z.toNat (by omega);unfold eN at this;rw[show ((z.toNat:Nat):Int)=z by omega]at this;rw[this];exact A
def wkV (e:ET):Int:=if e.2.1=18 then e.2.2.2.1 else -1
def aii {c:CF} {z:ν} {t:Nat} (q:z∈chT y c (t:Int)):∀{n:Nat},t<n->z∈chN y c n
 |0,h=>bc h (dp _)
 |n+1,h=>by
  rw[chN];rcases bF t n with g|g
  .exact dW _ (aii q g)
  .have:t=n:=by omega
   subst this;exact lw _ q
def UG (h:nz y) (rx:RX y) (d:RDW y) {j r:Nat} {W:η} (hj:j+(r+1)=l! y.2.2.2) (hW:l! W=j):((eN y.2.2.2 j).1,wkV (eN y.2.2.2 j))∈chN y (LH y j W (r+1)) (l! y.1.2.2.2.2.1)/\∃W':η,l! W'=j+1/\sD y (LH y j W (r+1)) (eN y.2.2.2 j).1 (wkV (eN y.2.2.2 j))=LH y (j+1) W' r:=by
 have hjl:j<l! y.2.2.2:=by omega
 have ci:=aqc h hj hW (Nat.succ_pos r);have G:=h.ch j hjl;have g:=G.en;have t0:=g.t0;have t1:=g.t1;have I:=alb hjl ⟨t0,t1⟩;have hF:l! ((y.2.2.2.take j).map nW)=j:=by rw[bj,bl];omega
 have hfl:l! ((y.2.2.2.take j).map nW++aD (r+1) aa)=l! y.2.2.2:=by rw[aF,hF,cR];omega
 have hfe:∀k:Nat,k<j->aw (.bool) ((y.2.2.2.take j).map nW++aD (r+1) aa) (k:Int)=nW (eN y.2.2.2 k):=λk hk=>by
  rw[mS (T:=.bool) ((y.2.2.2.take j).map nW) _ (by omega) (by omega)];unfold eN aw;rw[aA,aA];show (((y.2.2.2.take j).map nW)[(k:Int).toNat]?).getD _=nW (((y.2.2.2)[(k:Int).toNat]?).getD _);rw[bL,dG,aK (by omega),aL (by omega)];rfl
 have fD:=ahq h rx d hjl hfl hfe (ns:=(eN y.2.2.2 j).2.2.2.2.2.1) λn N=>.inl N
 have fR:=ahq h rx d hjl hfl hfe (ns:=(eN y.2.2.2 j).2.2.2.2.2.2) λn N=>.inr N
 have hen:Ig y (LH y j W (r+1)) (eN y.2.2.2 j).1=J:=by
  rw[V_ h ci];unfold enP;rw[show (LH y j W (r+1)).2.2.2.1=uB j from rfl,I,ay (by omega)];have:=CA y.1 (nD y.1 y.2.2.1 y.2.2.2 j).1 (h.nbi (eZ hjl)).sb (by decide) (by have:=h.vl.d;omega) (eN y.2.2.2 j).1 (eN y.2.2.2 j).2.1 (eN y.2.2.2 j).2.2.1 g G.s16.rd;rw[ak];refine ⟨?_,fD⟩;show (eT (y.1,(nD y.1 y.2.2.1 y.2.2.2 j).1,(eN y.2.2.2 j).1,(eN y.2.2.2 j).2.1,(eN y.2.2.2 j).2.2.1)).getD aa=J;rw[this];rfl
 have va:=G.s16.va;refine ⟨?_,?_⟩
 .refine aii (t:=(eN y.2.2.2 j).1.toNat) ?_ (by omega);rw[show (((eN y.2.2.2 j).1.toNat:Nat):Int)=(eN y.2.2.2 j).1 by omega];unfold chT;rw[aK hen,show (LH y j W (r+1)).2.2.2.1=uB j from rfl,I];show _∈chE (LH y j W (r+1)) (eN y.2.2.2 j) (eN y.2.2.2 j).1;unfold chE P_ wkV;by_cases q:(eN y.2.2.2 j).2.1=18
  .rw[aK q,aK q];have D:=va.el (by omega) (by omega) (by omega) (by omega) (by omega);unfold qD at D;rw[ay (by omega),ay (by omega),ay (by omega),ay (by omega),ay (by omega),ay (by omega),ay (by omega),ay (by omega),ay (by omega),ay (by omega),ay (by omega),ay (by omega),aK q]at D;show _∈if (l! (wl (nD y.1 y.2.2.1 y.2.2.2 j).1.2.2.2 (eN y.2.2.2 j).2.2.1 (nD y.1 y.2.2.1 y.2.2.2 j).1.2.2.2.length))=0 then [((eN y.2.2.2 j).1,(-1:Int))] else (wl (nD y.1 y.2.2.1 y.2.2.2 j).1.2.2.2 (eN y.2.2.2 j).2.2.1 (nD y.1 y.2.2.1 y.2.2.2 j).1.2.2.2.length).map λk=>((eN y.2.2.2 j).1,k)
   split
   next p=>rw[aK p]at D;rw[aE];exact Prod.ext rfl D
   next p=>rw[ay p]at D;refine cv.2 ⟨_,?_,rfl⟩;have D:(eN y.2.2.2 j).2.2.2.1=Do _ _:=D;rw[D];exact G3 _ p
  .rw[ay q,ay q];simp
 .have hap:(qD y.1 (nD y.1 y.2.2.1 y.2.2.2 j).1 (eN y.2.2.2 j).1 (eN y.2.2.2 j).2.1 (eN y.2.2.2 j).2.2.1 (wkV (eN y.2.2.2 j))).1=(Uc y.1 (nD y.1 y.2.2.1 y.2.2.2 j) (eN y.2.2.2 j)).1:=by
   unfold wkV;show _=(qD _ _ _ _ _ _).1;split
   .rfl
   next q=>rw[Rm _ _ _ _ _ _ (eN y.2.2.2 j).2.2.2.1 q]
  have hsl:=X2 h j (eZ hjl);have nce:=g.nm.ce;have nfu:=g.nm.fu;unfold sD;rw[show (LH y j W (r+1)).2.2.2.1=uB j from rfl,I];show ∃W':η,l! W'=j+1/\mvE y (LH y j W (r+1)) (j:Int) (eN y.2.2.2 j) (eN y.2.2.2 j).1 (wkV (eN y.2.2.2 j))=LH y (j+1) W' r;unfold mvE LH;dsimp only;rw[hap,fR,aK rfl,Dy _ _ hjl,kA (T:=gm) hjl,b7];show ∃W':η,l! W'=j+1/\_=(_,_,_,_,(y.2.2.2.take j).map nW++[nW (eN y.2.2.2 j)]++aD r aa,_)
  rw[bm,List.singleton_append];generalize nD y.1 y.2.2.1 y.2.2.2 j=s at*
  generalize eN y.2.2.2 j=e at*
  have sF:∀b:Bool,ca ((y.2.2.2.take j).map nW++aD (r+1) aa) (j:Int) b=(y.2.2.2.take j).map nW++b::aD r aa:=λb=>by
   have:=Fi ((y.2.2.2.take j).map nW) (aD (r+1) aa) (k:=0) b (c6 _);rw[hF,Int.add_zero]at this;rw[this];rfl
  have sW:∀b:Int,ca (W++aD (r+1) 0) (j:Int) b=(W++[b])++aD r 0:=λb=>by
   have:=Fi W (aD (r+1) 0) (k:=0) b (c6 _);rw[hW,Int.add_zero]at this;rw[this,bm];rfl
  have sW0:W++aD (r+1) 0=(W++[0])++aD r 0:=by rw[bm];rfl
  have wl1:∀b:Int,l! (W++[b])=j+1:=λb=>by rw[aF,hW];rfl
  have e1:(if e.2.1=4 then ca (U2 s.2.1) e.2.2.1 (e.2.2.2.1,J) else U2 s.2.1)=U2 (Uc y.1 s e).2.1:=by
   show _=U2 (Rf s.2.1 e);unfold Rf;split
   .exact aan ..
   .rfl
  have e2:(if e.2.1=22 then ca (U2 s.2.2.1) e.2.2.1 (e.2.2.2.1,J) else U2 s.2.2.1)=U2 (Uc y.1 s e).2.2.1:=by
   show _=U2 (S6 s.2.2.1 e);unfold S6;split
   .exact aan ..
   .rfl
  have ev1:∀z:Int,eqV (z,J) (z,J)=J:=λz=>by unfold eqV OG;simp[OG]
  have e3:(if e.2.1=3 then ca ((y.2.2.2.take j).map nW++aD (r+1) aa) (j:Int) (eqV (aw Bn (U2 s.2.1) e.2.2.1) (e.2.2.2.1,J)) else if e.2.1=23 then ca ((y.2.2.2.take j).map nW++aD (r+1) aa) (j:Int) (eqV (aw Bn (U2 s.2.2.1) e.2.2.1) (e.2.2.2.1,J)) else (y.2.2.2.take j).map nW++aD (r+1) aa)=(y.2.2.2.take j).map nW++nW e::aD r aa:=by
   unfold nW at sF ⊢;by_cases q3:e.2.1=3
   .have:=nce (.inl q3);rw[aK q3,sF,agy this.1 (by rw[hsl.1];exact this.2),<-va.ld q3,ev1,aO q3];rfl
   rw[ay q3];by_cases A:e.2.1=23
   .have:=nfu (.inr A);rw[aK A,sF,agy this.1 (by rw[hsl.2];exact this.2),<-va.gt A,ev1,aO A,Bool.or_true]
   rw[ay A,bp q3,bp A];rfl
  rw[e1,e2,e3];split
  .split
   .rw[sW];exact⟨_,wl1 _,rfl⟩
   .rw[sW0];exact⟨_,wl1 _,rfl⟩
  .split
   .rw[sW];exact⟨_,wl1 _,rfl⟩
   .rw[sW0];exact⟨_,wl1 _,rfl⟩
def Li (q:m<=i) (h:0<=a):(uB m).contains (a+i)=aa:=by
 rw[<- iQ,bR,rQ];omega
def ag3 (A:m<=i) {n:Nat} (D:GIn e n) (W:η) (r:Nat):Ud (LH y m W r) (OL i e)=aa:=by
 unfold Ud;rw[afu,show (LH y m W r).2.2.2.1=uB m from rfl];unfold OL;by_cases q2:e.1=2
 .rw[ay (by rw[q2];decide),aK q2,aK q2,<-iQ,List.any_eq_true];rintro⟨z,q,hzc⟩;have q:z∈Lx i e.2.2.2.2.2:=q;rw[y_]at q;have:=D.c q2 _ q;have h2:=Li A this.1;rw[tf]at h2;exact bc (h2.symm.trans hzc) (by decide)
 .have gab:=D.ab q2;rw[ay q2,ay q2];dsimp only;rw[Li A gab.1.1,Li A gab.2.1];by_cases q4:e.1=4
  .rw[aK q4,aK q4,Li A (D.cd q4).1.1]
   (repeat' split)<;>rfl
  .rw[ay q4]
   (repeat' split)<;>rfl
def ag2 (h:nz y) (A:RX y) (d:RDW y) {p:Nat} (D:GIn e i) {r:Nat} (hp:p+r=l! y.2.2.2) (I:∀W:η,l! W=p->K9 y (LH y p W r) (OL p e)=J\/RP y (OL p e) m (LH y p W r)):∀(k j:Nat) (W:η),j+(k+1)=p->l! W=j->RP y (OL p e) (m+(k+1)) (LH y j W (r+(k+1)))
 |0,j,W,N,hW=>by
  let⟨h1,W',hW',h2⟩:=UG h A d (j:=j) (r:=r) (W:=W) (by omega) hW;refine ⟨_,h1,?_⟩;rw[h2];have g:j+1=p:=by omega
  rw[g]at hW' ⊢;exact (I W' hW').imp id λq=>⟨ag3 (bi _) D _ _,q⟩
 |k+1,j,W,N,hW=>by
  let⟨h1,W',hW',h2⟩:=UG h A d (j:=j) (r:=r+(k+1)) (W:=W) (by omega) hW;have h2:sD y (LH y j W (r+(k+1+1))) _ _=_:=h2;refine ⟨_,h1,?_⟩;rw[h2];exact .inr ⟨ag3 (by omega) D _ _,ag2 h A d D hp I k (j+1) W' (by omega) hW'⟩
def vg.st (h:vg x y P S) (hW:l! c=l! P):LH y (l! P) c (l! x.2.2.2+l! S)=HN (P.map nW) c (l! S) (st0 x):=by
 have e:l! (P.map nW)=l! P:=bj ..;unfold LH HN st0;dsimp only;rw[e,<-h.s,h.l,List.take_left,List.replicate_append_replicate,List.replicate_append_replicate];unfold IR Lx;rw[wE,cJ];rfl
def vg.wide (h:vg x y P S) {a b:Y ν×Bool} (ha:FOK x e a) (hb:FOK y (OL (l! P) e) b) (hf:a.2=J):GV y.1 (l! y.2.2.2) (aw gm y.2.2.2) (aw pE (ze y (l! y.2.2.2))) (OL (l! P) e)/\b.2=J/\l! b.1<=l! P+l! a.1:=by
 let⟨hg,D⟩:=ha.2.1 hf;have A:=h.gv hg;let⟨b1,b2⟩:=hb.2.2 A;have I:=hg.gin;refine ⟨A,?_⟩;have ci:=RK h.o;have hlen:=h.len;have goal:∀W:η,l! W=l! P->K9 y (LH y (l! P) W (l! x.2.2.2+l! S)) (OL (l! P) e)=J\/RP y (OL (l! P) e) (l! a.1) (LH y (l! P) W (l! x.2.2.2+l! S)):=λW hW=>by
  rw[h.st hW];rcases D with D|D
  .exact .inl (h.rc ci hW I D.2)
  .obtain⟨q,h1,h2⟩:=ahv D;rw[aE]at h1;subst h1;exact .inr (h.rp hW I ci h2)
 have N:LH y 0 [] (l! y.2.2.2)=st0 y:=rfl;have fin:∀k,RP y (OL (l! P) e) k (st0 y)->b.2=J/\l! b.1<=k:=λk hk=>b2 k (ahw h.o' h.r' A.ax (λq hq=>by rw[aE]at hq;subst hq;exact ND.st0 h.o' h.r' _) ⟨_,aE.2 rfl,hk⟩)
 cases hp:l! P with
 |zero=>
  have:=goal [] hp.symm;rw[hp]at this fin b1 hlen;rw[b9]at hlen ⊢;rw[<- hlen,N]at this;rcases this with q|q
  .have:=b1 q;exact⟨this.1,by omega⟩
  .exact fin _ q
 |succ m=>
  rw[hp]at goal fin hlen;have:=ag2 h.o' h.r' h.d I (p:=m+1) hlen.symm goal m 0 [] (by omega) rfl;rw[show (l! x.2.2.2)+l! S+(m+1)=l! y.2.2.2 by omega,N,Nat.add_comm (l! a.1) (m+1)]at this;exact fin _ this
end
def W5 (w:WT) (h:VL w):lh w=Z w:=by
 let⟨w1,w2,w3,w4,A,q⟩:=w;let⟨h1,h2,h3,h4,_,I,D⟩:=h;dsimp only at*
 refine bT ?_;unfold lh bg bA bQ dv;refine aU (bT (a! (aj rfl)):FH w1=Z w1) (aU (bT (a! (aj rfl)):FF w2=Z w2) (aU (bT (a! (aj rfl)):FI w3=Z w3) ?_));exact aU (bT (a! (aj rfl)):CS w4=Z w4) (aU (bT (a! (aj rfl)):CS A=Z A) (aU (bT (a! (aj rfl)):FE q=Z q) (aj rfl)))
def Ln (l:η) (h:l! l<=1000000):xu l=Z l:=bT (a! (aj rfl))
def Xc (l:η) (h:l! l<=1000000):FG l=Z l:=bT (a! (aj rfl))
def Zj (s:SN) (q:NB i s):jH s=Z s:=by
 refine bT ?_;unfold jH bg bY bV bX bI be c7 aI cL;have h1:=q.sb.dn;have h2:=q.sb.th;have h3:=q.sb.lk;have h4:=q.sb.n1;refine aU (Xc _ (by have:=q.c;omega)) (aU (Xc _ (by have:=q.f;omega)) (aU (Ln _ (by have:=q.k;omega)) ?_));refine aU (bT (a! (aj rfl)):zI s.1.2.2.1=Z s.1.2.2.1) (aU (bT (a! (aj rfl)):zH s.1.2.2.2=Z s.1.2.2.2) ?_);refine bC (l! s.1.1) (λn y=>y=((n:Int),0,(s.1.2.1,s.1.2.2.1,s.1.2.2.2,s.2.1,s.2.2.1,s.2.2.2),s.1.1.take n)) ?_ ?_ rfl
 .rintro n y hi rfl;have A:(aw dy s.1.1 (n:Int)).2.length<=i:=q.sb.rd _ (ba (T:=dy) (by omega) (by omega));refine cE (bK (aS (aU (Ln _ (by dsimp only;omega)) ?_)));refine bu (by simp only[a_,bl];omega) (by decide) (aj ?_);dsimp only;rw[fH,kA (T:=dy) hi]
 .rintro y rfl;refine cz (aj ?_);dsimp only;rw[cH]
def ae8 (l:Y ET) (A:l! l<=1000) (q:∀e∈l,EvS e):kD l=Z l:=by
 refine bT ?_;unfold kD bg bA bQ cS gz bV bX bI be c7 aI cL;refine bZ (bZ (cK (c6 0) (cK (by dsimp only[al];omega) (bu (by dsimp only[al];omega) (by decide) ?_))));refine bC (l! l) (λi y=>y=((i:Int),l.take i)) ?_ ?_ rfl
 .rintro i y hi rfl;have he:=ZQ q hi;refine cE (bK (aS (aU (Ln _ he.1) (aU (Ln _ he.2) (bu (by simp only[a_,bl];omega) (by decide) (aj ?_))))));dsimp only;rw[fH,kA (T:=gm) hi]
 .rintro y rfl;refine cz (aj ?_);dsimp only;rw[cH]
def Fc (w:WT) (l:Y ET) (z i:Nat):WN:=(w,(i:Int),nD w (Qg w) l i,(l.drop i).take z)
def Ua (w:WT) (l:Y ET) (z:Nat):Nat->Y WN
 |0=>[]
 |i+1=>if i%z=0 then Ua w l z i++[Fc w l z i] else Ua w l z i
def XQ (w:WT) (l:Y ET) (z:Nat):∀i,l! (Ua w l z i)<=i
 |0=>bi _
 |i+1=>by
  have:=XQ w l z i;rw[Ua];split
  .rw[aF,a_];omega
  .omega
def K8.of {w:WT} (tr:TR (w,L)) (hi:i<=l! L):K8 w L i (nD w (Qg w) L i):=K5 tr i hi
def ac1 {w:WT} (tr:TR (w,L)) (D:1<=i) (A:i<=8):mZ ((w,L),(i:Int))=Z (Ua w L i (l! L),0):=by
 have I:l! L<=400:=tr.len;refine bT ?_;unfold mZ bg bY bq bV gV bX bI be c7 aI cL;refine aU (atk tr) (bw (λh=>bc rfl h) λ_=>?_);refine aW (λx=>x=(aa,w,L)) (bG (λh=>bc h (by dsimp only;omega)) λ_=>aj (by dsimp only;rw[g8.2 (by omega)])) ?_;rintro x rfl;refine fJ rfl (aU (ajm tr.wx) ?_);refine bC (l! L) (λz y=>y=((z:Int),(w,L),Ua w L i z,nD w (Qg w) L z)) ?_ ?_ rfl
 .rintro z y hi rfl;refine cE (bK (aS ?_));refine aW (λu=>u=((w,L),Ua w L i (z+1),nD w (Qg w) L z,eN L z)) ?_ ?_
  .refine n_ (by dsimp only;omega) ?_;have hm:cC (z:Int) (i:Int)=((z%i:Nat):Int):=by rw[kM (by omega)];rfl
   dsimp only;rw[hm];refine aG (λq=>?_) λq=>aj ?_
   .have q:z%i=0:=by omega
    let⟨nb,_⟩:=(K8.of tr (eZ hi)).nb tr hi;refine aU (W5 w tr.vl) (aU (Zj _ nb) ?_);have hwr:aT .i64 ((z:Int)+i)=z+i:=fh;have hmn:Mk ((z:Int)+i) (aY (l! L))<=z+i/\Mk ((z:Int)+i) (aY (l! L))<=(l! L:Int)/\(z:Int)<=Mk ((z:Int)+i) (aY (l! L))/\(Mk ((z:Int)+i) (aY (l! L))=z+i\/Mk ((z:Int)+i) (aY (l! L))=l! L):=by
     unfold Mk;split
     next h=>have h:(l! L:Int)<(z:Int)+i:=tB.1 h;exact⟨by show (l! L:Int)<=_;omega,c6 _,by show _<=(l! L:Int);omega,.inr rfl⟩
     next h=>have h:(z:Int)+i<=(l! L:Int):=g8.1 (Bool.eq_false_iff.2 h);exact⟨c6 _,h,by omega,.inl rfl⟩
    rw[hwr];refine bZ (a? (bZ (cK hmn.2.2.1 (cK hmn.2.1 ?_))));have htk:cu (aN (Mk ((z:Int)+i) (aY (l! L)))-aN (z:Int)) (ig (aN (z:Int)) L)=(L.drop z).take i:=by
     rw[kL];rcases hmn.2.2.2 with e|e
     .rw[e];congr 1;omega
     .rw[e,gF (by rw[fo];omega),gF (by rw[fo];omega)]
    rw[htk];refine aU (ae8 _ (by rw[bl];omega) λe he=>tr.ls e (pW (dV he))) ?_;have:=XQ w L i z;refine bu (by rw[a_];omega) (by decide) (aj ?_);rw[Ua,aK q];rfl
   .have q:¬z%i=0:=λe=>q (by omega)
    rw[Ua,ay q]
  .rintro u rfl;refine aU (afq tr hi) (aj ?_);dsimp only;rw[fH];rfl
 .rintro y rfl;exact cz (aj rfl)
def XR (w:WT) (l:Y ET) {z:Nat} (D:1<=z):∀i:Nat,l! (Ua w l z i)*z<i+z/\i<=l! (Ua w l z i)*z/\∀k:Nat,k<l! (Ua w l z i)->aw sj (Ua w l z i) (k:Int)=Fc w l z (k*z)
 |0=>⟨by show 0*z<0+z;omega,by show 0<=0*z;omega,λk I=>bc I (dp _)⟩
 |i+1=>by
  let⟨a,b,c⟩:=XR w l D i;have hd:=Nat.div_add_mod i z;have hm:=Nat.mod_lt i D;have N:z*(i/z)=(i/z)*z:=CH ..;generalize A:l! (Ua w l z i)=q at a b c;rw[Ua];have hqd:i%z=0->q*z=i:=λh=>by
   have h1:i/z<=q:=by
    rcases bF q (i/z) with g|g
    .have:=cg z (show q+1<=i/z from g);rw[jl]at this;omega
    .exact g
   have h2:q<=i/z:=by
    rcases bF (i/z) q with g|g
    .have:=cg z (show i/z+1<=q from g);rw[jl]at this;omega
    .exact g
   have:q=i/z:=by omega
   rw[this];omega
  split
  .rename_i h;have e:=hqd h;rw[aF,a_,A,jl];refine ⟨by omega,by omega,λk I=>?_⟩;rcases bF k q with g|g
   .rw[mS (T:=sj) _ _ (by omega) (by rw[A];omega)];exact c k g
   .have:k=q:=by omega
    subst this;have:=MG (T:=sj) (Ua w l z i) (Fc w l z i);rw[A]at this;rw[this,e]
  .rename_i h;rw[A];refine ⟨by omega,?_,c⟩;rcases bF i (q*z) with g|g
   .exact g
   .exfalso;have e:q*z=i:=by omega
    exact h (by rw[<- e];exact Nat.mul_mod_left q z)
end
end Go.Proofs.YtmmgdigihgnnnaaGreatDoor.AI
