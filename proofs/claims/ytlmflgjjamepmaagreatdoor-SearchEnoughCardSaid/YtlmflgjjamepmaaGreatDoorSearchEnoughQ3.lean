/-
  Texts of the proof, part 4 of 6: what is used to prove the statement. No condition.
-/
import Derived.Test.YtlmflgjjamepmaaGreatDoorSearchEnoughQ2
namespace Go.Proofs.YtlmflgjjamepmaaGreatDoor.AI
open Go.RowKit
set_option maxRecDepth 100000
set_option maxHeartbeats 4000000
set_option linter.unusedVariables false
set_option linter.unusedSimpArgs false
set_option linter.defProp false
open _root_.Bool renaming true→J,false→aa
open _root_.Int renaming ofNat_eq_natCast→ak,toNat→aS,ofNat→bC,reduceNeg→dB,reduceEq→dR,tmod→fR,toNat_natCast→lL
open _root_.List renaming length→l!,length→ah,length_singleton→aJ,replicate→aP,length_cons→bX,take→ca,foldl_cons→dg,length_nil→em,cons_append→fG,drop→gL,take_succ_cons→wd,getElem_of_mem→HN
open _root_.Nat renaming beq→ay,le_succ→yR
open _root_.Option renaming some→Z,none→U
open _root_.Prod renaming a→ba,d→bI,b→bQ,c→b_,e→da,f→dD,h→dP,i→fX,g→ia,k→tI,j→tJ,n→AR,p8→O3
open _root_.Sum renaming inr→bV,inl→kS
noncomputable section
abbrev aO:Ty:=(.int .i64)
abbrev mO:Ty:=(.st (.pr .str (.pr aO (.pr aO (.pr .bool aO)))))
abbrev rj:Ty:=(.st (.pr .str .bool))
abbrev rk:Ty:=(.st (.pr aO (.pr aO aO)))
abbrev pK:Ty:=(.st (.pr (.sl mO) (.pr (.sl rj) (.pr (.sl itK) (.pr (.sl .str) (.pr (.sl .str) (.sl rk)))))))
abbrev Mc:Ty:=(.sl (.sl aO))
abbrev eT:Ty:=(.st (.pr aO (.pr (.sl aO) (.pr Mc aO))))
abbrev rq:Ty:=(.st (.pr aO (.pr aO (.pr aO (.pr aO (.pr aO aO))))))
abbrev c_:Ty:=(.st (.pr aO (.sl aO)))
abbrev oI:Ty:=(.sl .bool)
abbrev fg:Ty:=(.st (.pr aO (.pr aO .bool)))
abbrev oH:Ty:=(.st (.pr (.sl c_) (.pr aO (.pr oI (.sl fg)))))
abbrev fP:Ty:=(.st (.pr aO (.pr aO (.pr aO (.pr aO (.pr aO (.pr (.sl aO) (.sl aO))))))))
abbrev HK:Ty:=(.st (.pr aO (.pr aO (.pr .str (.pr aO (.pr aO .str))))))
abbrev tj:Ty:=(.st (.pr .str (.pr aO (.pr (.sl .str) (.sl .sm)))))
abbrev OW:Ty:=(.st (.pr (.sl HK) (.sl tj)))
abbrev xi:Ty:=(.st (.pr aO (.sl rq)))
abbrev uX:Ty:=(.st (.pr pK (.sl xi)))
abbrev wb:Ty:=(.st (.pr oH (.pr (.sl aO) (.pr (.sl aO) (.sl eT)))))
abbrev oJ:Ty:=(.st (.pr oH (.pr (.sl aO) (.pr (.sl aO) (.sl aO)))))
abbrev EU:Ty:=(.sl (.int .u8))
abbrev yh:Ty:=(.st (.pr EU aO))
abbrev gZ:Ty:=(.st (.pr aO aO))
abbrev Nx:Ty:=(.st (.pr pK (.sl fP)))
abbrev B?:=Int×Int×Bool×Int
abbrev afu:=(ζ×B?)
abbrev uV:=(Y afu)
abbrev x!:=ζ×Bool
abbrev ry:=(Y x!)
abbrev oF:=(ζ×Int)
abbrev e_:=(Y ζ)
abbrev c?:=uV×ry×(Y oF)×e_×e_×Y π
abbrev ji:=c?
abbrev h!:=Int×Int
abbrev sj:=(uV×ry×(Y oF)×e_×e_×(Y π)×e_×h!)
abbrev i?:=Int×η
abbrev fq:=(Y i?)
abbrev p?:=Int×c!
abbrev du:=p?
abbrev f?:=(θ)×Y du
abbrev o?:=fq×Int×f?
abbrev kM:=o?
abbrev j?:=Int×(η)×(Y η)×Int
abbrev v8:=j?
abbrev lz:=(ω)
abbrev d?:=Int×Int×Int×Int×Int×(η)×η
abbrev pI:=d?
abbrev A!:=Int×Int×(ζ)×Int×Int×ζ
abbrev anq:=A!
abbrev xg:=(Y anq)
abbrev xf:=(ζ×Int×e_×Y Sx)
abbrev M!:=Int×Int×Bool×Bool×Bool×Bool
abbrev C':=M!
abbrev y!:=ji×Y (Int×Y lz)
abbrev C_:=y!
abbrev ER:=(υ)
abbrev b!:=(η)×(η)×η
abbrev N?:=kM×b!
abbrev iW:=N?
abbrev m?:=η×Int
abbrev fO:=m?
abbrev g!:=kM×(η)×(η)×Y v8
abbrev yc:=g!
abbrev XR:=(Int×Int×(ζ)×(ζ)×Int×Int×ζ)
abbrev ya:=(xg×(Y xf)×Int)
abbrev U3:=(Bool×Y ζ)
abbrev Ya23:=(Int×Int×v8×v8×j?)
abbrev Ya24:=(v8×Int×Int×v8×j?)
abbrev W?:=Int×Int×j?
abbrev Ya25:=(v8×v8×W?)
abbrev j!:=C'×fO×Bool×Y ζ
abbrev afx:=((Y Sx)×j!)
abbrev Ya27:=(Int×Int×v8×j?)
abbrev Ya28:=(v8×W?)
abbrev Ya29:=W?
abbrev X!:=Int×j!
abbrev aaw:=X!
abbrev afw:=(Sx×j!)
abbrev d!:=ya×(Bool×Y Sx)×e_×Y ζ
abbrev ajv:=(ν×d!)
abbrev e!:=sj×Y lz
abbrev No:=(Sx×e!)
abbrev EQ:=(yc×pI×Bool)
abbrev V?:=(Sx×Int×Int×Int)×e!
abbrev afv:=V?
abbrev aju:=(ν×j!)
abbrev ajt:=(oF×j!)
abbrev aav:=(C'×fO×U3×Y Sx)
abbrev ajs:=(Xp×j!)
abbrev Ya42:=(v8×v8×v8×h!)
abbrev aft:=((Y Sx)×e!)
abbrev bc {α:Type} (l:Y α):Int:=bC (ah l)
abbrev cM (n:Int):Int:=aZ .i64 (n+1)
abbrev aF {R α:Type} (x:α):M (R⊕α):=Z (bV x)
abbrev cW {R α:Type} (x:R):M (R⊕α):=Z (kS x)
abbrev bz {R:Type} (T:Ty) (l:Y T.den) (j:Int) (k:T.den->M R):M R:=chk (gr j (ah l)) λ_=>lt (aK T l j) k
abbrev kQ {R:Type} (T:Ty) (l:Y T.den) (j:Int) (k:T.den->M R):M R:=chk (gr j (ah l)) λ_=>chk (gr j (ah l)) λ_=>lt (aK T l j) k
abbrev BJ {R α:Type} (j:Int) (l:Y α) (k:M R):M R:=chk (gr j (ah l)) λ_=>k
abbrev bY {R:Type} (b:Bool) (k:M R):M R:=chk b λ_=>k
abbrev bi {R:Type} (a b:Int) (t f:M R):M R:=aI (decide (a=b)) t f
abbrev gF {R:Type} (a b:Int) (t f:M R):M R:=aI (!decide (a=b)) t f
abbrev bS {R:Type} (a b:Int) (t f:M R):M R:=aI (fV a b) t f
abbrev jO {R:Type} (a b:Int) (t f:M R):M R:=aI (cZ a b) t f
variable {R:Type}
def ck (b:Bool) (k:M R):M R:=chk b λ_=>chk b λ_=>k
def eu (s:Sx):Sx:=oY (Sx.op s,Sx.line s,Sx.name s,Sx.arg s,Sx.index s,ey (Xp.op (Sx.expr s),Xp.n (Sx.expr s),Xp.name (Sx.expr s),Xp.l (Sx.expr s)),Sx.body s,Sx.els s)
def oV (x:Unit):M e_:=
 (Z ([[118,97,114],[118,111,108,97,116,105,108,101],[109,117,116,101,120],[114,119,108,111,99,107],[99,111,110,100],[102,117,116,117,114,101],[116,104,114,101,97,100],[105,102],[101,108,115,101],[119,104,105,108,101],[108,111,99,107],[114,101,97,100],[119,114,105,116,101],[116,114,97,110,115,97,99,116,105,111,110],[97,116,111,109,105,99],[119,97,105,116],[110,111,116,105,102,121],[110,111,116,105,102,121,97,108,108],[115,112,97,119,110],[106,111,105,110],[115,101,116],[103,101,116]]))
def qO (x:ζ):M (Bool):=
 (aw (oV ()) λq=>(iter (σ:=Int) (λc=>(bS c (bc q) (bz (.str) q c λz=>(aI (decide ((z:ζ)=x)) (aF J) (cW (cM c)))) (aF aa))) 0))
def pR (x:Int):M (Bool):=
 (jn (jO 97 x (jO x 122 (aF J) (jO 65 x (aF (cZ x 90)) (aF aa))) (jO 65 x (aF (cZ x 90)) (aF aa))) λx1=>(Z x1))
def xB (x:Int):M (Bool):=
 (jn (jO 48 x (aF (cZ x 57)) (aF aa)) λx1=>(Z x1))
def uE (x:Int):M (Bool):=
 (jn (aw (pR x) λq=>(aI q (aF J) (aw (xB x) λc=>(aI c (aF J) (aF (decide ((x:Int)=95))))))) λx1=>(Z x1))
def hJ (x:ζ):M (Bool):=
 (jn (bS (bc x) 1 (aF J) (bS 12 (bc x) (aF J) (BJ 0 x (aw (pR (zH x 0)) λA=>(aI (!A) (aF J) (aw (qO x) λz=>(aF z))))))) λx1=>(aI x1 (Z aa) (iter (σ:=Int) (λc=>(bS c (bc x) (BJ c x (aw (uE (zH x c)) λq=>(aI (!q) (aF aa) (cW (cM c))))) (aF J))) 0)))
def fU (x:Bool):M (Int):=
 (aI x (Z 1) (Z 0))
def uC (x:ν):M c!:=
 (bi x.1 4 (Z ((aZ .i64 (0-x.2)),J)) (bi x.1 5 (aw (fU (decide ((x.2:Int)=0))) λc=>(Z (c,J))) (Z (0,aa))))
def vB (x:π):M c!:=
 (bi x.1 6 (Z ((aZ .i64 (x.2.1+x.2.2)),J)) (bi x.1 7 (Z ((aZ .i64 (x.2.1-x.2.2)),J)) (bi x.1 8 (Z ((aZ .i64 (x.2.1*x.2.2)),J)) (bi x.1 9 (bi x.2.2 0 (Z (0,J)) (bY (!decide ((x.2.2:Int)=0)) (Z ((aZ .i64 (Int.tdiv x.2.1 x.2.2)),J)))) (bi x.1 10 (bi x.2.2 0 (Z (0,J)) (bY (!decide ((x.2.2:Int)=0)) (Z ((fR x.2.1 x.2.2),J)))) (bi x.1 11 (aw (fU (decide ((x.2.1:Int)=x.2.2))) λy1=>(Z (y1,J))) (bi x.1 12 (aw (fU (!decide ((x.2.1:Int)=x.2.2))) λy2=>(Z (y2,J))) (bi x.1 13 (aw (fU (fV x.2.1 x.2.2)) λy3=>(Z (y3,J))) (bi x.1 14 (aw (fU (cZ x.2.1 x.2.2)) λN=>(Z (N,J))) (bi x.1 15 (aw (fU (fV x.2.2 x.2.1)) λI=>(Z (I,J))) (bi x.1 16 (aw (fU (cZ x.2.2 x.2.1)) λF=>(Z (F,J))) (bi x.1 17 (jn (gF x.2.1 0 (aw (fU (!decide ((x.2.2:Int)=0))) λD=>(aF (D,J))) (aw (fU aa) λA=>(aF (A,J)))) λx7=>(Z x7)) (bi x.1 18 (jn (gF x.2.1 0 (aw (fU J) λq=>(aF (q,J))) (aw (fU (!decide ((x.2.2:Int)=0))) λc=>(aF (c,J)))) λz=>(Z z)) (Z (0,aa)))))))))))))))
def rM (x:ν):M (Int):=
 (bS x.2 1 (Z 0) (bY (!decide ((x.2:Int)=0)) (jn (bS (fR x.1 x.2) 0 (aF (aZ .i64 ((fR x.1 x.2)+x.2))) (aF (fR x.1 x.2))) λx1=>(Z x1))))
def oU (x:Int):M (Int):=
 (jn (bi x 1 (aF J) (aF (decide ((x:Int)=2)))) λx1=>(aI x1 (Z 0) (jn (jO 3 x (aF (cZ x 5)) (aF aa)) λq=>(aI q (Z 1) (jn (jO 6 x (aF (cZ x 18)) (aF aa)) λc=>(aI c (Z 2) (Z (-1))))))))
def pn (rr02_ShapedExpr:Xp->M (Bool)) (x:Xp):M (Bool):=
 (jn (bi (Xp.op x) 2 (aF (J,ey ((Xp.op x),(Xp.n x),(Xp.name x),(Xp.l x)))) (aF ((decide (((Xp.op x):Int)=3)),ey ((Xp.op x),(Xp.n x),(Xp.name x),(Xp.l x))))) λx1=>(jn (α:=Bool×Xp) (aw (oU (Xp.op x1.2)) λF=>(gF F (bC (ah (Xp.l x1.2))) (aF (J,ey ((Xp.op x1.2),(Xp.n x1.2),(Xp.name x1.2),(Xp.l x1.2)))) (aI ((x1.1==(!decide (((Xp.name x1.2):ζ)=([])))) !=J) (aF (J,ey ((Xp.op x1.2),(Xp.n x1.2),(Xp.name x1.2),(Xp.l x1.2)))) (aI x1.1 (aw (hJ (Xp.name x1.2)) λD=>(aI (!D) (aF (J,ey ((Xp.op x1.2),(Xp.n x1.2),(Xp.name x1.2),(Xp.l x1.2)))) (bS (Xp.n x1.2) 0 (aF (J,ey ((Xp.op x1.2),(Xp.n x1.2),(Xp.name x1.2),(Xp.l x1.2)))) (gF (Xp.op x1.2) 1 (aF ((!decide (((Xp.n x1.2):Int)=0)),ey ((Xp.op x1.2),(Xp.n x1.2),(Xp.name x1.2),(Xp.l x1.2)))) (aF (aa,ey ((Xp.op x1.2),(Xp.n x1.2),(Xp.name x1.2),(Xp.l x1.2)))))))) (bS (Xp.n x1.2) 0 (aF (J,ey ((Xp.op x1.2),(Xp.n x1.2),(Xp.name x1.2),(Xp.l x1.2)))) (gF (Xp.op x1.2) 1 (aF ((!decide (((Xp.n x1.2):Int)=0)),ey ((Xp.op x1.2),(Xp.n x1.2),(Xp.name x1.2),(Xp.l x1.2)))) (aF (aa,ey ((Xp.op x1.2),(Xp.n x1.2),(Xp.name x1.2),(Xp.l x1.2)))))))))) λq=>(aI q.1 (Z aa) (iter (σ:=Int×Xp) (λc=>(bS c.1 (bC (ah (Xp.l c.2))) (bz (.ex) (Xp.l c.2) c.1 λz=>(aw (rr02_ShapedExpr z) λA=>(aI (!A) (aF aa) (cW ((cM c.1),ey ((Xp.op c.2),(Xp.n c.2),(Xp.name c.2),(Xp.l c.2))))))) (aF J))) (0,ey ((Xp.op q.2),(Xp.n q.2),(Xp.name q.2),(Xp.l q.2)))))))
def iV:Nat->Xp->M (Bool)
 |0,_=>U
 |n+1,x=>pn (iV n) x
def Ah (n:Nat) (x:Xp):iV (n+1) x=pn (iV n) x:=rfl
def kj (x:Xp):M (Bool):=iV fI x
def rN (x:Xp):M (Bool):=
 (jn (α:=Bool) (bi (Xp.op x) 0 (bi (Xp.n x) 0 (aI (decide (((Xp.name x):ζ)=([]))) (aF (decide (((bC (ah (Xp.l x))):Int)=0))) (aF aa)) (aF aa)) (aF aa)) λx1=>(Z x1))
def pm (rr02_ShapedStmt:Sx->M (Bool)) (rr02_ShapedStmts:(Y Sx)->M (Bool)) (x:Sx):M (Bool):=
 (jn (bS (Sx.op x) 1 (aF (J,eu x)) (aF ((fV 15 (Sx.op x)),eu x))) λx1=>(aI x1.1 (Z aa) (jn (bi (Sx.op x1.2) 2 (aF (J,eu x1.2)) (bi (Sx.op x1.2) 3 (aF (J,eu x1.2)) (bi (Sx.op x1.2) 7 (aF (J,eu x1.2)) (aF ((decide (((Sx.op x1.2):Int)=8)),eu x1.2))))) λD=>(jn (α:=Bool×Sx) (aI D.1 (aI (!decide (((Sx.name D.2):ζ)=([]))) (aF (J,eu D.2)) (aI (!D.1) (aw (hJ (Sx.name D.2)) λy4=>(aF ((!y4),eu D.2))) (aF (aa,eu D.2)))) (aI (!D.1) (aw (hJ (Sx.name D.2)) λy5=>(aF ((!y5),eu D.2))) (aF (aa,eu D.2)))) λA=>(aI A.1 (Z aa) (jn (α:=Bool×Sx) (bi (Sx.op A.2) 15 (aw (hJ (Sx.arg A.2)) λy7=>(aI (!y7) (aF (J,eu A.2)) (gF (Sx.op A.2) 15 (aF ((!decide (((Sx.arg A.2):ζ)=([]))),eu A.2)) (aF (aa,eu A.2))))) (gF (Sx.op A.2) 15 (aF ((!decide (((Sx.arg A.2):ζ)=([]))),eu A.2)) (aF (aa,eu A.2)))) λz=>(aI z.1 (Z aa) (jn (bS 1 (bC (ah (Sx.index z.2))) (aF (J,eu z.2)) (gF (Sx.op z.2) 1 (bS 0 (bC (ah (Sx.index z.2))) (aF (J,eu z.2)) (bi (bC (ah (Sx.index z.2))) 1 (bz (.ex) (Sx.index z.2) 0 λz9=>(aw (kj z9) λy10=>(aF ((!y10),eu z.2)))) (aF (aa,eu z.2)))) (bi (bC (ah (Sx.index z.2))) 1 (bz (.ex) (Sx.index z.2) 0 λz11=>(aw (kj z11) λy12=>(aF ((!y12),eu z.2)))) (aF (aa,eu z.2))))) λI=>(aI I.1 (Z aa) (jn (bi (Sx.op I.2) 1 (aF (J,eu I.2)) (bi (Sx.op I.2) 2 (aF (J,eu I.2)) (bi (Sx.op I.2) 3 (aF (J,eu I.2)) (aF ((decide (((Sx.op I.2):Int)=14)),eu I.2))))) λc=>(jn (aI c.1 (aw (kj (ey ((Xp.op (Sx.expr c.2)),(Xp.n (Sx.expr c.2)),(Xp.name (Sx.expr c.2)),(Xp.l (Sx.expr c.2))))) λy15=>(aI (!y15) (aF (J,eu c.2)) (aI (!c.1) (aw (rN (ey ((Xp.op (Sx.expr c.2)),(Xp.n (Sx.expr c.2)),(Xp.name (Sx.expr c.2)),(Xp.l (Sx.expr c.2))))) λy16=>(aF ((!y16),eu c.2))) (aF (aa,eu c.2))))) (aI (!c.1) (aw (rN (ey ((Xp.op (Sx.expr c.2)),(Xp.n (Sx.expr c.2)),(Xp.name (Sx.expr c.2)),(Xp.l (Sx.expr c.2))))) λy17=>(aF ((!y17),eu c.2))) (aF (aa,eu c.2)))) λF=>(aI F.1 (Z aa) (jn (jO 2 (Sx.op F.2) (aF ((cZ (Sx.op F.2) 8),eu F.2)) (aF (aa,eu F.2))) λq=>(jn (aI (!q.1) (bS 0 (bC (ah (Sx.body q.2))) (aF (J,eu q.2)) (gF (Sx.op q.2) 2 (aF ((fV 0 (bC (ah (Sx.els q.2)))),eu q.2)) (aF (aa,eu q.2)))) (gF (Sx.op q.2) 2 (aF ((fV 0 (bC (ah (Sx.els q.2)))),eu q.2)) (aF (aa,eu q.2)))) λN=>(aI N.1 (Z aa) (jn (aw (rr02_ShapedStmts (Sx.body N.2)) λy21=>(aI y21 (aw (rr02_ShapedStmts (Sx.els N.2)) λy22=>(aF y22)) (aF aa))) λx20=>(Z x20)))))))))))))))))
def og (rr02_ShapedStmt:Sx->M (Bool)) (rr02_ShapedStmts:(Y Sx)->M (Bool)) (x:Y Sx):M (Bool):=
 (iter (σ:=Int) (λx1=>(bS x1 (bc x) (BJ x1 x (aw (rr02_ShapedStmt (aK (.sm) x x1)) λc=>(aI (!c) (aF aa) (cW (cM x1))))) (aF J))) 0)
mutual
def hP:Nat->Sx->M (Bool)
 |0,_=>U
 |n+1,x=>pm (hP n) (fL n) x
def fL:Nat->(Y Sx)->M (Bool)
 |0,_=>U
 |n+1,x=>og (hP n) (fL n) x
end
def rO (x:Y Sx):M (Bool):=fL fI x
def pi (x:A!):M (Bool):=
 (jn (bS x.1 1 (aF (J,x)) (bS 6 x.1 (aF (J,x)) (aw (hJ x.a) λz=>(aI (!z) (aF (J,x)) (bS x.b 0 (aF (J,x)) (gF x.1 1 (aF ((!decide ((x.b:Int)=0)),x)) (aF (aa,x)))))))) λx1=>(aI x1.1 (Z aa) (jn (α:=Bool×A!) (bi x1.2.1 5 (aw (hJ x1.i) λq=>(aI (!q) (aF (J,x1.2)) (gF x1.2.1 5 (aF ((!decide ((x1.i:ζ)=([]))),x1.2)) (aF (aa,x1.2))))) (gF x1.2.1 5 (aF ((!decide ((x1.i:ζ)=([]))),x1.2)) (aF (aa,x1.2)))) λc=>(aI c.1 (Z aa) (jn (α:=Bool) (bS (-9223372036854775808) c.e (bi c.e 0 (aF J) (bi c.2.1 1 (aF J) (aF (decide ((c.2.1:Int)=2))))) (aF aa)) λA=>(Z A))))))
abbrev y?:=xg×Y xf
abbrev K?:=Int×(xg×Y xf)×(ζ)×Int×e_×Y Sx
def sC (x:y?):M (Bool):=
 (iter (σ:=Int×y?) (λx1=>(bS x1.1 (bc x1.2.1) (bz HK x1.2.1 x1.1 λN=>(aw (pi N) λy3=>(aI (!y3) (aF aa) (cW ((cM x1.1),x1.2))))) (aw (iter (σ:=Int×y?) (λq=>(bS q.1 (bc q.2.2) (bz tj q.2.2 q.1 λI=>(iter (σ:=K?) (λc=>(bS c.1 (bc c.c) (bz (.str) c.c c.1 λF=>(aw (hJ F) λy8=>(aI (!y8) (aF (bV aa)) (cW ((cM c.1),c.2))))) (aw (jn (aw (hJ c.a) λA=>(aI (!A) (aF (J,c.2.1)) (aw (rO c.h) λz=>(aF ((!z),c.2.1))))) λD=>(aI D.1 (aF aa) (cW ((cM q.1),D.2)))) λr=>Z (bV r)))) (0,q.2,I))) (aF (fV 0 (bc q.2.2))))) (0,x1.2)) λr=>Z (bV r)))) (0,x))
def kB (x:e_×ζ):M (Int):=
 (iter (σ:=Int) (λx1=>(bS x1 (bc x.1) (bz (.str) x.1 x1 λc=>(aI (decide ((c:ζ)=x.2)) (aF x1) (cW (cM x1)))) (aF (-1)))) 0)
def iD (x:xg×ζ):M (Int):=
 (iter (σ:=Int) (λx1=>(bS x1 (bc x.1) (bz HK x.1 x1 λc=>(aI (decide ((c.2.2.1:ζ)=x.2)) (aF x1) (cW (cM x1)))) (aF (-1)))) 0)
def iz (x:(Y xf)×ζ):M (Int):=
 (iter (σ:=Int) (λx1=>(bS x1 (bc x.1) (bz tj x.1 x1 λc=>(aI (decide ((c.1:ζ)=x.2)) (aF x1) (cW (cM x1)))) (aF (-1)))) 0)
def vC (x:(xg×Y xf)×Int×ζ):M (Int):=
 (jn (jO 0 x.2.1 (bS x.2.1 (bc x.1.2) (bz tj x.1.2 x.2.1 λF=>(aw (kB (F.2.2.1,x.2.2)) λN=>(aF ((cZ 0 N),x.1)))) (aF (aa,x.1))) (aF (aa,x.1))) λx1=>(aI x1.1 (Z 8) (aw (iD (x1.2.1,x.2.2)) λq=>(bS q 0 (aw (iz (x1.2.2,x.2.2)) λI=>(jO 0 I (Z 7) (Z 0))) (BJ q x1.2.1 (lt ((aK HK x1.2.1 q).1) λc=>(bi c 1 (bz HK x1.2.1 q λD=>(gF D.2.2.2.1 0 (Z 2) (Z 1))) (bi c 2 (Z 1) (jn (bi c 3 (aF ((decide ((c:Int)=3)),x1.2)) (bi c 4 (aF ((decide ((c:Int)=4)),x1.2)) (bi c 5 (aF ((decide ((c:Int)=5)),x1.2)) (aF ((decide ((c:Int)=6)),x1.2))))) λz=>(aI z.1 (bz HK z.2.1 q λA=>(Z A.1)) (Z 9)))))))))))
def ip (x:(xg×Y xf)×Int×(ζ)×h!):M (Int):=
 (aw (vC (x.1,x.2.1,x.a)) λc=>(bi c 0 (Z 5) (jn (gF c x.b (aF (!decide ((c:Int)=x.f))) (aF aa)) λq=>(aI q (Z 6) (Z 0)))))
def xM (rr04_Nodes:Xp->M ν) (x:Xp):M ν:=
 (iter (σ:=(π)×Xp) (λx1=>(bS x1.1.2.2 (bC (ah (Xp.l x1.2))) (bz (.ex) (Xp.l x1.2) x1.1.2.2 λq=>(aw (rr04_Nodes q) λc=>(cW (((aZ .i64 (x1.1.1+c.1)),(Fo x1.1.2.1 c.2),(cM x1.1.2.2)),ey ((Xp.op x1.2),(Xp.n x1.2),(Xp.name x1.2),(Xp.l x1.2)))))) (aF (x1.1.1,(cM x1.1.2.1))))) ((1,0,0),ey ((Xp.op x),(Xp.n x),(Xp.name x),(Xp.l x))))
def pF:Nat->Xp->M ν
 |0,_=>U
 |n+1,x=>xM (pF n) x
def H9 (n:Nat) (x:Xp):pF (n+1) x=xM (pF n) x:=rfl
def JJ (x:Xp):M ν:=pF fI x
abbrev v?:=(xg×Y xf)×Int×Xp
def xL (rr04_names:v?->M (Int)) (x:v?):M (Int):=
 (jn (α:=Int×(xg×Y xf)×Xp) (bi (Xp.op x.2.2) 2 (aw (ip (x.1,x.2.1,(Xp.name x.2.2),8,1)) λF=>(aF (F,x.1,ey ((Xp.op x.2.2),(Xp.n x.2.2),(Xp.name x.2.2),(Xp.l x.2.2))))) (bi (Xp.op x.2.2) 3 (aw (ip (x.1,x.2.1,(Xp.name x.2.2),2,2)) λD=>(aF (D,x.1,ey ((Xp.op x.2.2),(Xp.n x.2.2),(Xp.name x.2.2),(Xp.l x.2.2))))) (aF (0,x.1,ey ((Xp.op x.2.2),(Xp.n x.2.2),(Xp.name x.2.2),(Xp.l x.2.2)))))) λx1=>(iter (σ:=(ν)×(xg×Y xf)×Xp) (λc=>(jn (bS c.1.2 (bC (ah (Xp.l c.2.2))) (aF ((decide ((c.1.1:Int)=0)),c.2.1,ey ((Xp.op c.2.2),(Xp.n c.2.2),(Xp.name c.2.2),(Xp.l c.2.2)))) (aF (aa,c.2.1,ey ((Xp.op c.2.2),(Xp.n c.2.2),(Xp.name c.2.2),(Xp.l c.2.2))))) λq=>(aI q.1 (bz (.ex) (Xp.l q.2.2) c.1.2 λz=>(aw (rr04_names (q.2.1,x.2.1,z)) λA=>(cW ((A,(cM c.1.2)),q.2.1,ey ((Xp.op q.2.2),(Xp.n q.2.2),(Xp.name q.2.2),(Xp.l q.2.2)))))) (aF c.1.1)))) ((x1.1,0),x1.2.1,ey ((Xp.op x1.2.2),(Xp.n x1.2.2),(Xp.name x1.2.2),(Xp.l x1.2.2)))))
def pE:Nat->(v?)->M (Int)
 |0,_=>U
 |n+1,x=>xL (pE n) x
def H8 (n:Nat) (x:v?):pE (n+1) x=xL (pE n) x:=rfl
def JI (x:v?):M (Int):=pE fI x
def pQ (x:v?):M (Int):=
 (aw (kj (ey ((Xp.op x.2.2),(Xp.n x.2.2),(Xp.name x.2.2),(Xp.l x.2.2)))) λA=>(aI (!A) (Z 3) (aw (JJ (ey ((Xp.op x.2.2),(Xp.n x.2.2),(Xp.name x.2.2),(Xp.l x.2.2)))) λq=>(jn (bS 24 q.1 (aF (J,x.1,ey ((Xp.op x.2.2),(Xp.n x.2.2),(Xp.name x.2.2),(Xp.l x.2.2)))) (aF ((fV 6 q.2),x.1,ey ((Xp.op x.2.2),(Xp.n x.2.2),(Xp.name x.2.2),(Xp.l x.2.2))))) λc=>(aI c.1 (Z 2) (aw (JI (c.2.1,x.2.1,ey ((Xp.op c.2.2),(Xp.n c.2.2),(Xp.name c.2.2),(Xp.l c.2.2)))) λz=>(Z z)))))))
def dz (x:Bool):M (Int):=
 (aI x (Z 7) (Z 0))
def jC (x:ν):M (Int):=
 (gF x.1 0 (Z x.1) (Z x.2))
abbrev R!:=Int×d!
def eH (x:(Int×Int×ζ)×d!):M (Bool×d!):=
 (iter (σ:=R!) (λx1=>(bS x1.1 (bc x1.a.2) (kQ (.sm) x1.a.2 x1.1 λc=>(jn (α:=Bool×d!) (bi (Sx.op c) x.1.1 (aI (decide ((x.1.2.2:ζ)=([]))) (aF (J,x1.2)) (aF ((decide (((Sx.name c):ζ)=x.1.2.2)),x1.2))) (bi (Sx.op c) x.1.2.1 (aI (decide ((x.1.2.2:ζ)=([]))) (aF (J,x1.2)) (aF ((decide (((Sx.name c):ζ)=x.1.2.2)),x1.2))) (aF (aa,x1.2)))) λq=>(aI q.1 (aF (J,q.2)) (cW ((cM x1.1),q.2))))) (aF (aa,x1.2)))) (0,x.2))
abbrev D?:=Int×ya×(Bool×Y Sx)×Sx×(xg×Y xf)×e_×Y ζ
def oT (x:Sx×d!):M R!:=
 (aw (eH ((7,7,[]),x.2)) λy1=>(bY (ay (ah x.f) (ah y1.f)&&(ay (ah x.b) (ah y1.b)&&(((x.a.1==y1.a.1)&&J)&&ay (ah x.a.2) (ah y1.a.2)&&J))) (aw (eH ((8,8,[]),y1.2)) λy2=>(bY (ay (ah y1.f) (ah y2.f)&&(ay (ah y1.b) (ah y2.b)&&(((y1.a.1==y2.a.1)&&J)&&ay (ah y1.a.2) (ah y2.a.2)&&J))) (aw (eH ((3,3,[]),y2.2)) λy3=>(bY (ay (ah y2.f) (ah y3.f)&&(ay (ah y2.b) (ah y3.b)&&(((y2.a.1==y3.a.1)&&J)&&ay (ah y2.a.2) (ah y3.a.2)&&J))) (bi (Sx.op x.1) 1 (bi (bC (ah (Sx.index x.1))) 0 (aw (ip ((x.2.1.1,x.2.1.2.1),x.2.1.2.2,(Sx.name x.1),8,1)) λy4=>(aw (pQ ((x.2.1.1,x.2.1.2.1),x.2.1.2.2,ey ((Xp.op (Sx.expr x.1)),(Xp.n (Sx.expr x.1)),(Xp.name (Sx.expr x.1)),(Xp.l (Sx.expr x.1))))) λy5=>(aw (jC (y4,y5)) λy6=>(Z (y6,y3.2))))) (aw (ip ((x.2.1.1,x.2.1.2.1),x.2.1.2.2,(Sx.name x.1),2,2)) λy7=>(bz (.ex) (Sx.index x.1) 0 λz8=>(aw (pQ ((x.2.1.1,x.2.1.2.1),x.2.1.2.2,z8)) λy9=>(aw (pQ ((x.2.1.1,x.2.1.2.1),x.2.1.2.2,ey ((Xp.op (Sx.expr x.1)),(Xp.n (Sx.expr x.1)),(Xp.name (Sx.expr x.1)),(Xp.l (Sx.expr x.1))))) λy10=>(aw (jC (y9,y10)) λy11=>(aw (jC (y7,y11)) λy12=>(Z (y12,y3.2))))))))) (jn (bi (Sx.op x.1) 2 (aF ((decide (((Sx.op x.1):Int)=2)),y3.2.1,y3.a,eu x.1,(x.2.1.1,x.2.1.2.1),y3.d)) (aF ((decide (((Sx.op x.1):Int)=3)),y3.2.1,y3.a,eu x.1,(x.2.1.1,x.2.1.2.1),y3.d))) λz=>(aI z.1 (aw (pQ (z.c,x.2.1.2.2,ey ((Xp.op (Sx.expr z.b)),(Xp.n (Sx.expr z.b)),(Xp.name (Sx.expr z.b)),(Xp.l (Sx.expr z.b))))) λy14=>(Z (y14,z.2.1,z.a,z.h))) (bi (Sx.op x.1) 4 (jn (α:=R!) (aw (ip (z.c,x.2.1.2.2,(Sx.name z.b),3,3)) λy16=>(aI y1.1 (aw (dz J) λy17=>(aw (jC (y16,y17)) λy18=>(aF (y18,z.2.1,z.a,z.h)))) (aw (eH ((4,4,(Sx.name z.b)),z.2.1,z.a,z.h)) λy19=>(bY (ay (ah z.i) (ah y19.f)&&(ay (ah z.e) (ah y19.b)&&(((z.a.1==y19.a.1)&&J)&&ay (ah z.a.2) (ah y19.a.2)&&J))) (aw (dz y19.1) λy20=>(aw (jC (y16,y20)) λy21=>(aF (y21,y19.2)))))))) λx15=>(Z x15)) (jn (bi (Sx.op x.1) 5 (aF ((decide (((Sx.op x.1):Int)=5)),z.2.1,z.a,eu z.b,z.f)) (aF ((decide (((Sx.op x.1):Int)=6)),z.2.1,z.a,eu z.b,z.f))) λq=>(aI q.1 (jn (α:=R!) (aw (ip (q.c,x.2.1.2.2,(Sx.name q.b),4,4)) λy24=>(aI y1.1 (aw (dz J) λy25=>(aw (jC (y24,y25)) λy26=>(aF (y26,q.2.1,q.a,q.h)))) (aw (eH ((5,6,(Sx.name q.b)),q.2.1,q.a,q.h)) λy27=>(bY (ay (ah q.i) (ah y27.f)&&(ay (ah q.e) (ah y27.b)&&(((q.a.1==y27.a.1)&&J)&&ay (ah q.a.2) (ah y27.a.2)&&J))) (aw (dz y27.1) λy28=>(aw (jC (y24,y28)) λy29=>(aF (y29,y27.2)))))))) λx23=>(Z x23)) (bi (Sx.op x.1) 7 (aw (dz y1.1) λy30=>(Z (y30,q.2.1,q.a,q.h))) (bi (Sx.op x.1) 8 (jn (aI y1.1 (aw (dz J) λy32=>(aF (y32,q.2.1,q.a,q.h))) (aw (dz y2.1) λy33=>(aF (y33,q.2.1,q.a,q.h)))) λx31=>(Z x31)) (jn (bi (Sx.op x.1) 9 (aF ((decide (((Sx.op x.1):Int)=9)),q.2.1,q.a,eu q.b,q.f)) (bi (Sx.op x.1) 10 (aF ((decide (((Sx.op x.1):Int)=10)),q.2.1,q.a,eu q.b,q.f)) (aF ((decide (((Sx.op x.1):Int)=11)),q.2.1,q.a,eu q.b,q.f)))) λc=>(aI c.1 (aw (ip (c.c,x.2.1.2.2,(Sx.name c.b),5,5)) λy35=>(gF y35 0 (Z (y35,c.2.1,c.a,c.h)) (aw (iD (c.c.1,(Sx.name c.b))) λy36=>(bz HK c.c.1 y36 λz37=>(aw (eH ((4,4,z37.2.2.2.2.2),c.2.1,c.a,c.h)) λI=>(bY (ay (ah c.i) (ah I.f)&&(ay (ah c.e) (ah I.b)&&(((c.a.1==I.a.1)&&J)&&ay (ah c.a.2) (ah I.a.2)&&J))) (jn (aI y1.1 (aw (dz J) λy40=>(aF (y40,I.2))) (aI (!I.1) (aw (dz J) λy41=>(aF (y41,I.2))) (bi (Sx.op c.b) 9 (aw (dz y2.1) λy42=>(aF (y42,I.2))) (aw (dz aa) λy43=>(aF (y43,I.2)))))) λx39=>(Z x39)))))))) (bi (Sx.op x.1) 12 (aw (ip (c.c,x.2.1.2.2,(Sx.name c.b),7,7)) λy44=>(gF y44 0 (Z (y44,c.2.1,c.a,c.h)) (aw (iz (c.c.2,(Sx.name c.b))) λy45=>(jn (aI y1.1 (aF (J,c.2.1,c.a,eu c.b,c.h)) (aI y2.1 (aF (J,c.2.1,c.a,eu c.b,c.h)) (aI y3.1 (aF (J,c.2.1,c.a,eu c.b,c.h)) (bi y45 x.2.1.2.2 (aF (J,c.2.1,c.a,eu c.b,c.h)) (aF ((decide ((y45:Int)=0)),c.2.1,c.a,eu c.b,c.h)))))) λA=>(aI A.1 (Z (7,A.2.1,A.a,A.f)) (aw (kB (A.c,(Sx.name A.b))) λy47=>(jO 0 y47 (Z (8,A.2.1,A.a,A.f)) (bY (bl (ah A.c+ah ([(Sx.name A.b)])) 16) (Z (0,A.2.1,A.a,(A.c++([(Sx.name A.b)])),A.h)))))))))) (bi (Sx.op x.1) 13 (jn (α:=R!) (aw (ip (c.c,x.2.1.2.2,(Sx.name c.b),7,7)) λy49=>(aI y1.1 (aw (dz J) λy50=>(aw (jC (y49,y50)) λy51=>(aF (y51,c.2.1,c.a,c.h)))) (aI y2.1 (aw (dz J) λy52=>(aw (jC (y49,y52)) λy53=>(aF (y53,c.2.1,c.a,c.h)))) (aw (iz (c.c.2,(Sx.name c.b))) λy54=>(aw (dz (decide ((y54:Int)=x.2.1.2.2))) λy55=>(aw (jC (y49,y55)) λy56=>(aF (y56,c.2.1,c.a,c.h)))))))) λx48=>(Z x48)) (bi (Sx.op x.1) 14 (jn (α:=D?) (aw (ip (c.c,x.2.1.2.2,(Sx.name c.b),6,6)) λy58=>(aI y1.1 (aw (dz J) λy59=>(aw (jC (y58,y59)) λy60=>(aF (y60,c.2.1,c.a,eu c.b,c.f)))) (aw (dz y3.1) λy61=>(aw (jC (y58,y61)) λy62=>(aF (y62,c.2.1,c.a,eu c.b,c.f)))))) λF=>(jn (α:=D?) (jn (bi F.1 0 (aw (kB (F.i,(Sx.name F.b))) λy65=>(aF ((cZ 0 y65),F.2.1,F.a,eu F.b,F.f))) (aF (aa,F.2.1,F.a,eu F.b,F.f))) λN=>(aI N.1 (aF (8,N.2.1,N.a,eu N.b,N.f)) (aF (F.1,N.2.1,N.a,eu N.b,N.f)))) λD=>(bY (bl (ah D.i+ah ([(Sx.name D.b)])) 16) (aw (pQ (D.c,x.2.1.2.2,ey ((Xp.op (Sx.expr D.b)),(Xp.n (Sx.expr D.b)),(Xp.name (Sx.expr D.b)),(Xp.l (Sx.expr D.b))))) λy66=>(aw (jC (D.1,y66)) λy67=>(Z (y67,D.2.1,D.a,D.e,(D.i++([(Sx.name D.b)]))))))))) (aw (ip (c.c,x.2.1.2.2,(Sx.name c.b),8,8)) λy68=>(aw (ip (c.c,x.2.1.2.2,(Sx.arg c.b),6,6)) λy69=>(aw (dz y1.1) λy70=>(aw (jC (y69,y70)) λy71=>(aw (jC (y68,y71)) λy72=>(Z (y72,c.2.1,c.a,c.h))))))))))))))))))))))))))
abbrev R?:=(Y Sx)×d!
def r8 (rr04_walk_all:R?->M ajv) (x:R?):M ajv:=
 (iter (σ:=R!) (λx1=>(bS x1.1 (bc x.1) (bz (.sm) x.1 x1.1 λD=>(aw (oT (eu D,x1.2)) λA=>(bY (ay (ah x1.f) (ah x1.f)&&(ay (ah x1.b) (ah x1.b)&&(((x1.a.1==A.a.1)&&J)&&ay (ah x1.a.2) (ah A.a.2)&&J))) (jn (α:=Int×ya×Sx×(Bool×Y Sx)×e_×Y ζ) (bS 6 (aZ .i64 ((bc A.a.2)+1)) (aF (2,A.2.1,eu D,A.2.2)) (aF (A.1,A.2.1,eu D,A.2.2))) λc=>(gF c.1 0 (aF ((c.1,(Sx.line c.a)),c.2.1,c.d)) (bY (bl (ah c.b.2+ah ([oY (0,0,[],[],([]:Y Xp),ey (0,0,[],([]:Y Xp)),([]:Y Sx),([]:Y Sx))])) 176) (ck (gr (bc c.b.2) (ah (c.b.2++([oY (0,0,[],[],([]:Y Xp),ey (0,0,[],([]:Y Xp)),([]:Y Sx),([]:Y Sx))])))) (aw (rr04_walk_all ((Sx.body c.a),c.2.1,(c.b.1,(cC (c.b.2++([oY (0,0,[],[],([]:Y Xp),ey (0,0,[],([]:Y Xp)),([]:Y Sx),([]:Y Sx))])) (bc c.b.2) (eu c.a))),c.f)) λz=>(bY (ay (ah c.h) (ah c.h)&&(ay (ah c.c) (ah c.c)&&(((c.b.1==c.b.1)&&J)&&ay (ah (cC (c.b.2++([oY (0,0,[],[],([]:Y Xp),ey (0,0,[],([]:Y Xp)),([]:Y Sx),([]:Y Sx))])) (bc c.b.2) (eu c.a))) (ah (cC (c.b.2++([oY (0,0,[],[],([]:Y Xp),ey (0,0,[],([]:Y Xp)),([]:Y Sx),([]:Y Sx))])) (bc c.b.2) (eu c.a)))&&J))) (jn (bi z.1.1 0 (aw (rr04_walk_all ((Sx.els c.a),z.2)) λF=>(bY (ay (ah z.f) (ah z.f)&&(ay (ah z.b) (ah z.b)&&(((z.a.1==z.a.1)&&J)&&ay (ah z.a.2) (ah z.a.2)&&J))) (aF F))) (aF z)) λq=>(bY (cZ 0 (aZ .i64 ((bc q.a.2)-1))&&fV (aZ .i64 ((bc q.a.2)-1)) (ah q.a.2)) (gF q.1.1 0 (aF (q.1,q.2.1,(aa,(ca (aS (aZ .i64 ((bc q.a.2)-1))) q.a.2)),q.d)) (cW ((cM x1.1),q.2.1,(aa,(ca (aS (aZ .i64 ((bc q.a.2)-1))) q.a.2)),q.d)))))))))))))) (aF ((0,0),x1.2)))) (0,x.2))
def mw:Nat->(R?)->M ajv
 |0,_=>U
 |n+1,x=>r8 (mw n) x
def BL (x:R?):M ajv:=mw fI x
def xN (rr04_Count:(Y Sx)->M (Int)) (x:Y Sx):M (Int):=
 (iter (σ:=ν) (λx1=>(bS x1.2 (bc x) (BJ x1.2 x (lt (Sx.body (aK (.sm) x x1.2)) λq=>(aw (rr04_Count q) λA=>(BJ x1.2 x (lt (Sx.els (aK (.sm) x x1.2)) λc=>(aw (rr04_Count c) λz=>(cW ((aZ .i64 ((aZ .i64 (x1.1+A))+z)),(cM x1.2))))))))) (aF x1.1))) ((bc x),0))
def pG:Nat->(Y Sx)->M (Int)
 |0,_=>U
 |n+1,x=>xN (pG n) x
def H_ (n:Nat) (x:Y Sx):pG (n+1) x=xN (pG n) x:=rfl
def JK (x:Y Sx):M (Int):=pG fI x
abbrev s?:=Int×Int×h!
def uD (x:Y anq):M ν:=
 (iter (σ:=υ) (λx1=>(bS x1.f (bc x) (jn (α:=s?) (bz HK x x1.f λc=>(bY (cZ 0 x1.f&&cZ x1.f (ah x)) (aw (iD ((ca (aS x1.f) x),c.a)) λy4=>(jO 0 y4 (cW (bV (4,c.2.1))) (bS 4 c.b (cW (bV (2,c.2.1))) (jn (jn (bi c.1 1 (aF ((decide ((c.1:Int)=1)),c)) (aF ((decide ((c.1:Int)=2)),c))) λA=>(aI A.1 (aF (((aZ .i64 (x1.1+(Fo A.c 1))),x1.2.1,x1.a,x1.b),A.2)) (jn (bi c.1 3 (aF ((decide ((c.1:Int)=3)),A.2)) (aF ((decide ((c.1:Int)=4)),A.2))) λD=>(aI D.1 (aF ((x1.1,(cM x1.2.1),x1.a,x1.b),D.2)) (bi c.1 5 (aF ((x1.1,x1.2.1,(cM x1.a),x1.b),D.2)) (aF ((x1.1,x1.2.1,x1.a,(cM x1.b)),D.2))))))) λq=>(jn (bS 12 q.1.1 (aF (J,q.2)) (bS 4 q.1.2.1 (aF (J,q.2)) (bS 2 q.1.a (aF (J,q.2)) (aF ((fV 2 q.1.d),q.2))))) λz=>(aI z.1 (cW (bV (2,z.a))) (bi z.2.1 5 (bY (cZ 0 x1.f&&cZ x1.f (ah x)) (aw (iD ((ca (aS x1.f) x),z.i)) λN=>(bS N 0 (cW (bV (5,z.a))) (bz HK x N λI=>(gF I.1 3 (cW (bV (6,z.a))) (aF q.1)))))) (aF q.1)))))))))) λF=>(cW (F.1,F.2.1,F.a,F.d,(cM x1.f)))) (aF (0,0)))) (0,0,0,0,0))
def qN (x:y?):M ν:=
 (iter (σ:=Int×y?) (λx1=>(bS x1.1 (bc x1.2.2) (bz tj x1.2.2 x1.1 λA=>(jn (aw (iD (x1.2.1,A.1)) λy4=>(jO 0 y4 (aF (J,x1.2,A)) (bY (cZ 0 x1.1&&cZ x1.1 (ah x1.2.2)) (aw (iz ((ca (aS x1.1) x1.2.2),A.1)) λy5=>(aF ((cZ 0 y5),x1.2,A)))))) λx3=>(aI x3.1 (aF (4,x3.b)) (cW ((cM x1.1),x3.2.1))))) (aw (iter (σ:=Int×y?) (λz=>(bS z.1 (bc z.2.2) (bz tj z.2.2 z.1 λF=>(bS 4 (bc F.a) (aF (2,F.2.1)) (iter (σ:=K?) (λc=>(bS c.1 (bc c.c) (bz (.str) c.c c.1 λD=>(jn (aw (iD (c.2.1.1,D)) λy11=>(jO 0 y11 (aF (J,c.2)) (aw (iz (c.2.1.2,D)) λN=>(jO 0 N (aF (J,c.2)) (bY (cZ 0 c.1&&cZ c.1 (ah c.c)) (aw (kB ((ca (aS c.1) c.c),D)) λI=>(aF ((cZ 0 I),c.2)))))))) λq=>(aI q.1 (aF (bV (4,q.b))) (cW ((cM c.1),q.2))))) (aF (kS ((cM z.1),c.2.1))))) (0,z.2,F)))) (aF (0,0)))) (0,x1.2)) λr=>Z (bV r)))) (0,x))
def kA (x:y?):M ν:=
 (aw (sC x) λy1=>(aI (!y1) (Z (3,0)) (aw (uD x.1) λD=>(gF D.1 0 (Z D) (bS 4 (bc x.2) (Z (2,0)) (aw (qN x) λA=>(gF A.1 0 (Z A) (iter (σ:=(ν)×y?) (λq=>(bS q.1.2 (bc q.2.2) (bz tj q.2.2 q.1.2 λI=>(aw (JK I.2.2.2) λN=>(cW (((aZ .i64 (q.1.1+N)),(cM q.1.2)),q.2)))) (aw (bS 60 q.1.1 (Z (2,0)) (iter (σ:=Int×(xg×Y xf)×d!) (λc=>(bS c.1 (bc c.2.1.2) (bz tj c.2.1.2 c.1 λF=>(aw (BL (F.2.2.2,(c.a.1,c.a.2.1,c.1),c.d)) λz=>(bY (ay (ah c.h) (ah c.h)&&(ay (ah c.c) (ah c.c)&&(((c.b.1==c.b.1)&&J)&&ay (ah c.b.2) (ah c.b.2)&&J))) (gF z.1.1 0 (aF z.1) (cW ((cM c.1),c.2.1,z.2)))))) (aF (0,0)))) (0,q.2,(q.2.1,q.2.2,0),(J,([]:Y Sx)),([]:Y ζ),([]:Y ζ)))) λr=>Z (bV r)))) ((0,0),x)))))))))
abbrev w!:=(Int×Int×Y Sx)×Y π
abbrev W!:=Int×Y π
def xK (rr06_sites:w!->M W!) (x:w!):M W!:=
 (iter (σ:=(ν)×Y π) (λx1=>(bS x1.1.2 (bc x.1.2.2) (BJ x1.1.2 x.1.2.2 (lt (Sx.line (aK (.sm) x.1.2.2 x1.1.2)) λc=>(bY (bl (ah x1.2+ah ([(x.1.1,x1.1.1,c)])) 24) (BJ x1.1.2 x.1.2.2 (lt (Sx.body (aK (.sm) x.1.2.2 x1.1.2)) λD=>(aw (rr06_sites ((x.1.1,(cM x1.1.1),D),(x1.2++([(x.1.1,x1.1.1,c)])))) λq=>(bY (ay (ah (x1.2++([(x.1.1,x1.1.1,c)]))) (ah (x1.2++([(x.1.1,x1.1.1,c)])))&&J) (BJ x1.1.2 x.1.2.2 (lt (Sx.els (aK (.sm) x.1.2.2 x1.1.2)) λA=>(aw (rr06_sites ((x.1.1,q.1,A),q.2)) λz=>(bY (ay (ah q.2) (ah q.2)&&J) (cW ((z.1,(cM x1.1.2)),z.2))))))))))))) (aF (x1.1.1,x1.2)))) ((x.1.2.1,0),x.2))
def pD:Nat->(w!)->M W!
 |0,_=>U
 |n+1,x=>xK (pD n) x
def H7 (n:Nat) (x:w!):pD (n+1) x=xK (pD n) x:=rfl
def JH (x:w!):M W!:=pD fI x
def lG (x:ry×ζ):M (Int):=
 (iter (σ:=Int) (λx1=>(bS x1 (bc x.1) (bz rj x.1 x1 λc=>(aI (decide ((c.1:ζ)=x.2)) (aF x1) (cW (cM x1)))) (aF (-1)))) 0)
abbrev M?:=Int×c?
def lH (x:ji×ζ):M (Int):=
 (iter (σ:=M?) (λx1=>(bS x1.1 (bc x1.2.1) (bz mO x1.2.1 x1.1 λc=>(aI (decide ((c.1:ζ)=x.2)) (aF x1.1) (cW ((cM x1.1),x1.2)))) (aF (-1)))) (0,x.1))
abbrev I!:=uV×ry×(Y oF)×Y ζ
def uB (x:y?):M ji:=
 (aw (kA x) λy1=>(gF y1.1 0 (Z (([]:Y afu),([]:Y x!),([]:Y oF),([]:Y ζ),([]:Y ζ),([]:Y π))) (iter (σ:=Int×(xg×Y xf)×I!) (λA=>(bS A.1 (bc A.2.1.1) (bz HK A.2.1.1 A.1 λD=>(jn (α:=(xg×Y xf)×I!) (jn (bi D.1 1 (aF ((decide ((D.1:Int)=1)),A.2.1,D,A.2.2)) (aF ((decide ((D.1:Int)=2)),A.2.1,D,A.2.2))) λI=>(aI I.1 (iter (σ:=Int×(xg×Y xf)×anq×I!) (λq=>(bS q.1 (Fo q.a.b 1) (bY (bl (ah q.b+ah ([(q.a.a,q.1,q.a.b,(decide ((q.a.1:Int)=2)),q.a.c)])) 48) (cW ((cM q.1),q.2.1,q.a,(q.b++([(q.a.a,q.1,q.a.b,(decide ((q.a.1:Int)=2)),q.a.c)])),q.f))) (aF (bV (q.2.1,q.d))))) (0,I.2)) (jn (bi D.1 3 (aF ((decide ((D.1:Int)=3)),I.2)) (aF ((decide ((D.1:Int)=4)),I.2))) λc=>(aI c.1 (bY (bl (ah c.c+ah ([(c.a.a,(decide ((c.a.1:Int)=4)))])) 24) (aF (c.2.1,c.b,(c.c++([(c.a.a,(decide ((c.a.1:Int)=4)))])),c.h))) (bi D.1 5 (aw (lG (c.c,c.a.h)) λy8=>(bY (bl (ah c.e+ah ([(c.a.a,y8)])) 24) (aF (c.2.1,c.b,c.c,(c.e++([(c.a.a,y8)])),c.i)))) (bY (bl (ah c.i+ah ([c.a.a])) 16) (aF (c.2.1,c.b,c.c,c.e,(c.i++([c.a.a])))))))))) λx4=>(cW ((cM A.1),x4)))) (aw (iter (σ:=Int×(xg×Y xf)×c?) (λz=>(bS z.1 (bc z.2.1.2) (bz tj z.2.1.2 z.1 λF=>(bY (bl (ah z.g+ah ([F.1])) 16) (bz tj z.2.1.2 z.1 λN=>(aw (JH ((z.1,0,N.2.2.2),z.k)) λy12=>(bY (ay (ah z.k) (ah z.k)&&J) (cW ((cM z.1),z.2.1,z.a,z.b,z.c,z.e,(z.g++([F.1])),y12.2))))))) (aF z.2.2))) (0,A.2.1,A.a,A.b,A.c,A.h,([]:Y ζ),([]:Y π))) λr=>Z (bV r)))) (0,x,([]:Y afu),([]:Y x!),([]:Y oF),([]:Y ζ)))))
abbrev L?:=Int×ji×Y ζ
def uy (x:c?):M (e_×Bool):=
 (iter (σ:=L?) (λx1=>(bS x1.1 (bc x1.2.1.1) (jn (α:=L?) (bz mO x1.2.1.1 x1.1 λz=>(bY (bl (ah x1.2.2+ah ([z.1])) 16) (bi z.a 0 (gF z.2.1 0 (cW (bV (([]:Y ζ),aa))) (aF ((cM x1.1),x1.2.1,(x1.2.2++([z.1]))))) (jn (α:=Bool×ji×e_×(ζ)×B?) (bS z.a 1 (aF (J,x1.2.1,(x1.2.2++([z.1])),z)) (bS 4 z.a (aF (J,x1.2.1,(x1.2.2++([z.1])),z)) (aF ((fV (aZ .i64 ((bc x1.2.1.1)-x1.1)) z.a),x1.2.1,(x1.2.2++([z.1])),z)))) λx4=>(aI x4.1 (cW (bV (([]:Y ζ),aa))) (iter (σ:=Int×ji×e_×(ζ)×B?) (λq=>(bS q.1 q.e (bz mO q.2.1.1 (aZ .i64 (x1.1+q.1)) λD=>(jn (gF D.2.1 q.1 (aF (J,q.2)) (aI (!decide ((D.1:ζ)=q.b)) (aF (J,q.2)) (gF D.a q.e (aF (J,q.2)) (gF D.f q.k (aF (J,q.2)) (aF (D.b,q.2)))))) λN=>(aI N.1 (aF (kS (bV (([]:Y ζ),aa)))) (cW ((cM q.1),N.2))))) (aF (bV ((aZ .i64 (x1.1+q.e)),q.2.1,q.a))))) (0,x4.2))))))) λx2=>(cW x2)) (aw (iter (σ:=L?) (λA=>(bS A.1 (bc A.2.1.2.1) (bz rj A.2.1.2.1 A.1 λI=>(bY (bl (ah A.2.2+ah ([I.1])) 16) (cW ((cM A.1),A.2.1,(A.2.2++([I.1])))))) (aw (iter (σ:=L?) (λc=>(bS c.1 (bc c.2.1.a) (bz itK c.2.1.a c.1 λF=>(bY (bl (ah c.2.2+ah ([F.1])) 16) (cW ((cM c.1),c.2.1,(c.2.2++([F.1])))))) (aw (bY (bl (ah c.2.2+ah c.2.1.b) 16) (bY (bl (ah (c.2.2++c.2.1.b)+ah c.2.1.c) 16) (Z (((c.2.2++c.2.1.b)++c.2.1.c),J)))) λr=>Z (bV r)))) (0,A.2)) λr=>Z (bV r)))) (0,x1.2)) λr=>Z (bV r)))) (0,x,([]:Y ζ)))
def iR (x:c?):M (Bool):=
 (jn (bS 12 (bc x.1) (aF (J,x)) (bS 4 (bc x.2.1) (aF (J,x)) (bS 2 (bc x.a) (aF (J,x)) (bS 2 (bc x.b) (aF (J,x)) (bS (bc x.c) 1 (aF (J,x)) (bS 4 (bc x.c) (aF (J,x)) (aF ((fV 60 (bc x.h)),x)))))))) λx1=>(aI x1.1 (Z aa) (aw (uy x1.2) λN=>(aI (!N.2) (Z aa) (iter (σ:=M?) (λD=>(bS D.1 (bc N.1) (jn (bz (.str) N.1 D.1 λz5=>(aw (hJ z5) λy6=>(aI (!y6) (aF (J,D.2)) (bY (cZ 0 D.1&&cZ D.1 (ah N.1)) (bz (.str) N.1 D.1 λz7=>(aw (kB ((ca (aS D.1) N.1),z7)) λy8=>(aF ((cZ 0 y8),D.2)))))))) λx4=>(aI x4.1 (aF aa) (cW ((cM D.1),x4.2)))) (aw (iter (σ:=M?) (λz=>(bS z.1 (bc z.b) (bz itK z.b z.1 λI=>(jn (bS I.2 0 (aF (J,z.2)) (jO (bc z.a) I.2 (aF (J,z.2)) (bz rj z.a I.2 λz12=>(aF (z12.2,z.2))))) λx11=>(aI x11.1 (aF aa) (cW ((cM z.1),x11.2))))) (aw (iter (σ:=M?) (λc=>(bS c.1 (bc c.i) (jn (bz rk c.i c.1 λF=>(jn (bS F.1 0 (aF (J,c.2,F)) (aF ((cZ (bc c.e) F.1),c.2,F))) λA=>(aI A.1 (cW (bV aa)) (jn (bi c.1 0 (aF (J,A.2)) (bz rk A.2.1.h (aZ .i64 (c.1-1)) λz18=>(aF ((!decide ((z18.1:Int)=A.a)),A.2)))) λq=>(aI q.1 (jn (gF q.b 0 (aF (J,q.2.1)) (bS 0 c.1 (bz rk q.2.1.h (aZ .i64 (c.1-1)) λz20=>(aF ((fV q.a z20.1),q.2.1))) (aF (aa,q.2.1)))) λx19=>(aI x19.1 (cW (bV aa)) (aF x19.2))) (bz rk q.2.1.h (aZ .i64 (c.1-1)) λz21=>(gF q.b (cM z21.2.1) (cW (bV aa)) (aF q.2.1)))))))) λx14=>(cW ((cM c.1),x14))) (aF J))) (0,z.2)) λr=>Z (bV r)))) (0,D.2)) λr=>Z (bV r)))) (0,x1.2))))))
def jT (x:ω):M η:=
 (jn (bi x.1 1 (aF ((decide ((x.1:Int)=1)),x)) (bi x.1 6 (aF ((decide ((x.1:Int)=6)),x)) (bi x.1 10 (aF ((decide ((x.1:Int)=10)),x)) (aF ((decide ((x.1:Int)=27)),x))))) λx1=>(aI x1.1 (Z ([x1.a])) (jn (bi x.1 2 (aF ((decide ((x.1:Int)=2)),x1.2)) (aF ((decide ((x.1:Int)=3)),x1.2))) λc=>(aI c.1 (Z ([c.a,c.b])) (bi x.1 4 (Z ([c.a,c.b,c.c])) (bi x.1 7 (Z ([c.a,c.c])) (jn (bi x.1 8 (aF ((decide ((x.1:Int)=8)),c.2)) (aF ((decide ((x.1:Int)=26)),c.2))) λq=>(aI q.1 (Z ([q.b])) (bi x.1 9 (Z ([q.b,q.c])) (Z ([]:η)))))))))))
def pP (x:Int):M (Bool):=
 (jn (jO 1 x (aF (cZ x 5)) (aF aa)) λx1=>(Z x1))
def uz (x:(Y lz)×Int):M (Bool):=
 (iter (σ:=ν) (λx1=>(jO x1.2 (bc x.1) (jn (jn (bS x1.1 0 (aF J) (aF (cZ (bc x.1) x1.1))) λD=>(aI D (cW (bV aa)) (bz rq x.1 x1.1 λz=>(aw (pP z.1) λA=>(aI (!A) (cW (bV J)) (bz rq x.1 x1.1 λq=>(bi q.1 5 (bz rq x.1 x1.1 λc=>(aF c.2.1)) (aF (cM x1.1))))))))) λF=>(cW (F,(cM x1.2)))) (aF aa))) (x.2,0))
def jB (x:ν):M (Bool):=
 (jn (jO 0 x.1 (aF (fV x.1 x.2)) (aF aa)) λx1=>(Z x1))
def rL (x:ji×h!):M (Bool):=
 (jn (aw (jB (x.2.1,(bc x.1.1))) λA=>(aI A (bz mO x.1.1 x.2.1 λz=>(bi z.2.1 0 (bz mO x.1.1 x.2.1 λq=>(gF q.2.2.1 0 (bz mO x.1.1 x.2.1 λc=>(aF (decide ((c.2.2.1:Int)=x.2.2)))) (aF aa))) (aF aa))) (aF aa))) λx1=>(Z x1))
def qL (x:ji×Int×Int×s?):M (Bool):=
 (bi x.2.1 6 (jn (aw (jB (x.b,(bc x.1.1))) λy2=>(aI y2 (bz mO x.1.1 x.b λz3=>(aF (decide ((z3.2.2.1:Int)=0)))) (aF aa))) λx1=>(Z x1)) (bi x.2.1 8 (jn (aw (jB (x.a,(bc x.1.1))) λy5=>(aI y5 (bz mO x.1.1 x.a λz6=>(aF (decide ((z6.2.2.1:Int)=0)))) (aF aa))) λx4=>(Z x4)) (bi x.2.1 7 (aw (rL (x.1,x.b,x.e)) λy7=>(Z y7)) (bi x.2.1 9 (aw (rL (x.1,x.a,x.e)) λy8=>(Z y8)) (jn (bi x.2.1 11 (aF ((decide ((x.2.1:Int)=11)),x)) (aF ((decide ((x.2.1:Int)=12)),x))) λA=>(aI A.1 (jn (aw (jB (A.b,(bc A.2.1.2.1))) λy11=>(aI y11 (bz rj A.2.1.2.1 A.b λF=>(aF (!F.2))) (aF aa))) λx10=>(Z x10)) (jn (bi x.2.1 13 (aF ((decide ((x.2.1:Int)=13)),A.2)) (bi x.2.1 14 (aF ((decide ((x.2.1:Int)=14)),A.2)) (bi x.2.1 15 (aF ((decide ((x.2.1:Int)=15)),A.2)) (aF ((decide ((x.2.1:Int)=16)),A.2))))) λq=>(aI q.1 (jn (aw (jB (q.b,(bc q.2.1.2.1))) λy15=>(aI y15 (bz rj q.2.1.2.1 q.b λD=>(aF D.2)) (aF aa))) λx14=>(Z x14)) (jn (bi x.2.1 21 (aF ((decide ((x.2.1:Int)=21)),q.2)) (bi x.2.1 22 (aF ((decide ((x.2.1:Int)=22)),q.2)) (aF ((decide ((x.2.1:Int)=23)),q.2)))) λz=>(aI z.1 (aw (jB (z.b,(bc z.2.1.a))) λy18=>(Z y18)) (jn (bi x.2.1 24 (aF ((decide ((x.2.1:Int)=24)),z.2)) (aF ((decide ((x.2.1:Int)=25)),z.2))) λc=>(aI c.1 (aw (jB (c.b,(bc c.2.1.c))) λy20=>(Z y20)) (bi x.2.1 26 (aw (jB (c.b,(bc c.2.1.b))) λN=>(Z N)) (bi x.2.1 27 (aw (jB (c.c,(bc c.2.1.b))) λI=>(Z I)) (bi x.2.1 3 (jn (bi c.g 4 (aF J) (aF (decide ((c.g:Int)=5)))) λx23=>(Z x23)) (bi x.2.1 4 (jn (jO 6 c.g (aF (cZ c.g 18)) (aF aa)) λx24=>(Z x24)) (Z J)))))))))))))))))
abbrev O!:=Int×Y lz
def lh (x:ji×Int×O!):M (Bool):=
 (jn (bS x.a 0 (aF (J,x.1,x.2.2)) (bS 32 x.a (aF (J,x.1,x.2.2)) (aF ((decide (((bc x.d):Int)=0)),x.1,x.2.2)))) λx1=>(aI x1.1 (Z aa) (iter (σ:=Int×ji×O!) (λq=>(bS q.1 (bc x.d) (bz rq q.d q.1 λD=>(jn (bS D.1 1 (aF (J,q.2.1,q.2.2,D)) (bS 28 D.1 (aF (J,q.2.1,q.2.2,D)) (aI (((decide ((D.1:Int)=28))==(decide ((q.1:Int)=(aZ .i64 ((bc x.d)-1))))) !=J) (aF (J,q.2.1,q.2.2,D)) (aw (qL (q.2.1,D)) λy5=>(aI (!y5) (aF (J,q.2.1,q.2.2,D)) (aw (uz (q.d,q.1)) λy6=>(aF ((!y6),q.2.1,q.2.2,D)))))))) λc=>(aI c.1 (aF aa) (jn (α:=Bool×ji×(Int×Y lz)×Int×Int×s?) (bi c.b 28 (gF c.n (-1) (aF (J,c.2)) (gF c.b 28 (aw (jB (c.n,(bc c.2.1.h))) λy8=>(aI (!y8) (aF (J,c.2)) (bz rk c.2.1.h c.n λz9=>(aF ((!decide ((z9.1:Int)=x.2.1)),c.2))))) (aF (aa,c.2)))) (gF c.b 28 (aw (jB (c.n,(bc c.2.1.h))) λy10=>(aI (!y10) (aF (J,c.2)) (bz rk c.2.1.h c.n λz11=>(aF ((!decide ((z11.1:Int)=x.2.1)),c.2))))) (aF (aa,c.2)))) λA=>(aI A.1 (aF aa) (jn (bi A.b 5 (aw (jB (A.c,(bc x.d))) λy13=>(aI (!y13) (aF (J,A.2)) (bi A.b 10 (aw (jB (A.e,(bc x.d))) λy14=>(aF ((!y14),A.2))) (aF (aa,A.2))))) (bi A.b 10 (aw (jB (A.e,(bc x.d))) λy15=>(aF ((!y15),A.2))) (aF (aa,A.2)))) λF=>(aI F.1 (aF aa) (aw (jT F.d) λI=>(iter (σ:=Int×ji×O!) (λz=>(bS z.1 (bc I) (bz aO I z.1 λN=>(aw (jB (N,z.a)) λy19=>(aI (!y19) (aF (bV aa)) (cW ((cM z.1),z.2))))) (aF (kS ((cM q.1),z.2))))) (0,F.2.1,F.a)))))))))) (aF J))) (0,x1.2))))
def pB (x:y!):M (Bool):=
 (jn (aw (iR x.1) λA=>(aI (!A) (aF (J,x)) (aF ((!decide (((bc x.2):Int)=(bc x.1.c))),x)))) λx1=>(aI x1.1 (Z aa) (iter (σ:=Int×y!) (λc=>(bS c.1 (bc c.2.2) (bz xi c.2.2 c.1 λq=>(aw (lh (c.2.1,c.1,q)) λz=>(aI (!z) (aF aa) (cW ((cM c.1),c.2))))) (aF J))) (0,x1.2))))
def cQ (x:lz×e!):M e!:=
 (bY (bl (ah x.2.2+ah ([(x.1.1,x.1.2.1,x.1.a,x.1.b,x.1.c,x.2.1.j)])) 48) (Z (x.2.1,(x.2.2++([(x.1.1,x.1.2.1,x.1.a,x.1.b,x.1.c,x.2.1.j)])))))
abbrev F?:=(Xp×Int)×e!
def qU (rr06_gen_value:F?->M e!) (x:F?):M e!:=
 (jn (α:=e!) (bi (Xp.op x.1.1) 1 (aw (cQ ((1,x.1.2,0,0,(Xp.n x.1.1),0),x.2)) λy2=>(bY (ay (ah x.2.2) (ah x.2.2)&&J) (aF y2))) (bi (Xp.op x.1.1) 2 (aw (kB (x.2.1.g,(Xp.name x.1.1))) λy3=>(jO 0 y3 (aw (cQ ((2,x.1.2,y3,0,0,0),x.2)) λy4=>(bY (ay (ah x.2.2) (ah x.2.2)&&J) (aF y4))) (aw (lH ((x.2.1.1,x.2.1.2.1,x.2.1.a,x.2.1.b,x.2.1.c,x.2.1.e),(Xp.name x.1.1))) λy5=>(aw (cQ ((6,x.1.2,y5,0,0,0),x.2)) λy6=>(bY (ay (ah x.2.2) (ah x.2.2)&&J) (aF y6)))))) (bi (Xp.op x.1.1) 3 (bz (.ex) (Xp.l x.1.1) 0 λz7=>(aw (rr06_gen_value ((z7,x.1.2),x.2)) λc=>(bY (ay (ah x.2.2) (ah x.2.2)&&J) (aw (lH ((c.1.1,c.1.2.1,c.1.a,c.1.b,c.1.c,c.1.e),(Xp.name x.1.1))) λy9=>(bz mO c.1.1 y9 λN=>(aw (cQ ((7,x.1.2,y9,x.1.2,N.2.2.1,0),c)) λy11=>(bY (ay (ah c.2) (ah c.2)&&J) (aF y11)))))))) (bi (bC (ah (Xp.l x.1.1))) 1 (bz (.ex) (Xp.l x.1.1) 0 λI=>(aw (rr06_gen_value ((I,x.1.2),x.2)) λA=>(bY (ay (ah x.2.2) (ah x.2.2)&&J) (aw (cQ ((3,x.1.2,x.1.2,0,(Xp.op x.1.1),0),A)) λy14=>(bY (ay (ah A.2) (ah A.2)&&J) (aF y14)))))) (bz (.ex) (Xp.l x.1.1) 0 λF=>(aw (rr06_gen_value ((F,x.1.2),x.2)) λz=>(bY (ay (ah x.2.2) (ah x.2.2)&&J) (bz (.ex) (Xp.l x.1.1) 1 λD=>(aw (rr06_gen_value ((D,(cM x.1.2)),z)) λq=>(bY (ay (ah z.2) (ah z.2)&&J) (aw (cQ ((4,x.1.2,x.1.2,(cM x.1.2),(Xp.op x.1.1),0),q)) λy19=>(bY (ay (ah q.2) (ah q.2)&&J) (aF y19))))))))))))) λx1=>(Z x1))
def iH:Nat->(F?)->M e!
 |0,_=>U
 |n+1,x=>qU (iH n) x
def BA (n:Nat) (x:F?):iH (n+1) x=qU (iH n) x:=rfl
def iC (x:F?):M e!:=iH fI x
def mb (x:Sx×e!):M e!:=
 (bS 0 (bC (ah (Sx.index x.1))) (bz (.ex) (Sx.index x.1) 0 λz1=>(aw (iC ((z1,(bc x.2.1.g)),x.2)) λz=>(bY (ay (ah x.2.2) (ah x.2.2)&&J) (aw (iC ((ey ((Xp.op (Sx.expr x.1)),(Xp.n (Sx.expr x.1)),(Xp.name (Sx.expr x.1)),(Xp.l (Sx.expr x.1))),(aZ .i64 ((bc x.2.1.g)+1))),z)) λq=>(bY (ay (ah z.2) (ah z.2)&&J) (aw (lH ((q.1.1,q.1.2.1,q.1.a,q.1.b,q.1.c,q.1.e),(Sx.name x.1))) λI=>(bz mO q.1.1 I λN=>(aw (cQ ((9,I,(aZ .i64 ((bc x.2.1.g)+1)),(bc x.2.1.g),N.2.2.1,0),q)) λy6=>(bY (ay (ah q.2) (ah q.2)&&J) (Z y6)))))))))) (aw (iC ((ey ((Xp.op (Sx.expr x.1)),(Xp.n (Sx.expr x.1)),(Xp.name (Sx.expr x.1)),(Xp.l (Sx.expr x.1))),(bc x.2.1.g)),x.2)) λc=>(bY (ay (ah x.2.2) (ah x.2.2)&&J) (aw (kB (c.1.g,(Sx.name x.1))) λF=>(jO 0 F (aw (cQ ((2,F,(bc x.2.1.g),0,0,0),c)) λy9=>(bY (ay (ah c.2) (ah c.2)&&J) (Z y9))) (aw (lH ((c.1.1,c.1.2.1,c.1.a,c.1.b,c.1.c,c.1.e),(Sx.name x.1))) λD=>(aw (cQ ((8,D,(bc x.2.1.g),0,0,0),c)) λA=>(bY (ay (ah c.2) (ah c.2)&&J) (Z A)))))))))
def jL (x:ζ×e!):M (Int×e!):=
 (iter (σ:=Int×e!) (λx1=>(bS x1.1 (bc x1.2.1.a) (bz itK x1.2.1.a x1.1 λc=>(aI (decide ((c.1:ζ)=x.1)) (aF x1) (cW ((cM x1.1),x1.2)))) (aF ((-1),x1.2)))) (0,x.2))
def qV (rr06_gen_stmts:aft->M e!) (rr06_gen_stmt:No->M e!) (rr06_gen_branches:No->M e!) (rr06_gen_around:afv->M e!) (x:(Y Sx)×e!):M e!:=
 (iter (σ:=Int×e!) (λx1=>(bS x1.1 (bc x.1) (bz (.sm) x.1 x1.1 λc=>(aw (rr06_gen_stmt (c,x1.2)) λq=>(bY (ay (ah x1.2.2) (ah x1.2.2)&&J) (cW ((cM x1.1),q))))) (aF x1.2))) (0,x.2))
def r7 (rr06_gen_stmts:aft->M e!) (rr06_gen_stmt:No->M e!) (rr06_gen_branches:No->M e!) (rr06_gen_around:afv->M e!) (x:Sx×e!):M e!:=
 (jn (α:=e!) (bi (Sx.op x.1) 1 (aw (mb (eu x.1,(x.2.1.1,x.2.1.2.1,x.2.1.a,x.2.1.b,x.2.1.c,x.2.1.e,x.2.1.g,x.2.1.n,(cM x.2.1.n)),x.2.2)) λy2=>(bY (ay (ah x.2.2) (ah x.2.2)&&J) (aF y2))) (jn (bi (Sx.op x.1) 2 (aF ((decide (((Sx.op x.1):Int)=2)),(x.2.1.1,x.2.1.2.1,x.2.1.a,x.2.1.b,x.2.1.c,x.2.1.e,x.2.1.g,x.2.1.n,(cM x.2.1.n)),eu x.1,x.2.2)) (aF ((decide (((Sx.op x.1):Int)=3)),(x.2.1.1,x.2.1.2.1,x.2.1.a,x.2.1.b,x.2.1.c,x.2.1.e,x.2.1.g,x.2.1.n,(cM x.2.1.n)),eu x.1,x.2.2))) λc=>(aI c.1 (aw (rr06_gen_branches (eu c.a,c.2.1,c.d)) λy4=>(bY (ay (ah c.d) (ah c.d)&&J) (aF y4))) (bi (Sx.op x.1) 4 (aw (lG (c.2.1.2.1,(Sx.name c.a))) λy5=>(aw (rr06_gen_around ((eu c.a,11,12,y5),c.2.1,c.d)) λy6=>(bY (ay (ah c.d) (ah c.d)&&J) (aF y6)))) (bi (Sx.op x.1) 5 (aw (lG (c.2.1.2.1,(Sx.name c.a))) λy7=>(aw (rr06_gen_around ((eu c.a,13,14,y7),c.2.1,c.d)) λy8=>(bY (ay (ah c.d) (ah c.d)&&J) (aF y8)))) (bi (Sx.op x.1) 6 (aw (lG (c.2.1.2.1,(Sx.name c.a))) λy9=>(aw (rr06_gen_around ((eu c.a,15,16,y9),c.2.1,c.d)) λy10=>(bY (ay (ah c.d) (ah c.d)&&J) (aF y10)))) (bi (Sx.op x.1) 7 (aw (rr06_gen_around ((eu c.a,17,18,0),c.2.1,c.d)) λy11=>(bY (ay (ah c.d) (ah c.d)&&J) (aF y11))) (bi (Sx.op x.1) 8 (aw (rr06_gen_around ((eu c.a,19,20,0),c.2.1,c.d)) λy12=>(bY (ay (ah c.d) (ah c.d)&&J) (aF y12))) (bi (Sx.op x.1) 9 (aw (jL ((Sx.name c.a),c.2.1,c.d)) λA=>(bY (ay (ah c.d) (ah A.2.2)&&J) (aw (cQ ((21,A.1,0,0,0,0),A.2)) λy14=>(bY (ay (ah A.2.2) (ah A.2.2)&&J) (aF y14))))) (bi (Sx.op x.1) 10 (aw (jL ((Sx.name c.a),c.2.1,c.d)) λz=>(bY (ay (ah c.d) (ah z.2.2)&&J) (aw (cQ ((22,z.1,0,0,0,0),z.2)) λy16=>(bY (ay (ah z.2.2) (ah z.2.2)&&J) (aF y16))))) (bi (Sx.op x.1) 11 (aw (jL ((Sx.name c.a),c.2.1,c.d)) λq=>(bY (ay (ah c.d) (ah q.2.2)&&J) (aw (cQ ((23,q.1,0,0,0,0),q.2)) λy18=>(bY (ay (ah q.2.2) (ah q.2.2)&&J) (aF y18))))) (bi (Sx.op x.1) 12 (aw (kB (c.2.1.c,(Sx.name c.a))) λy19=>(aw (cQ ((24,y19,0,0,0,0),c.2.1,c.d)) λy20=>(bY (ay (ah c.d) (ah c.d)&&J) (aF y20)))) (bi (Sx.op x.1) 13 (aw (kB (c.2.1.c,(Sx.name c.a))) λy21=>(aw (cQ ((25,y21,0,0,0,0),c.2.1,c.d)) λy22=>(bY (ay (ah c.d) (ah c.d)&&J) (aF y22)))) (bi (Sx.op x.1) 14 (aw (iC ((ey ((Xp.op (Sx.expr c.a)),(Xp.n (Sx.expr c.a)),(Xp.name (Sx.expr c.a)),(Xp.l (Sx.expr c.a))),(bc x.2.1.g)),c.2.1,c.d)) λD=>(bY (ay (ah c.d) (ah c.d)&&J) (aw (kB (D.1.b,(Sx.name c.a))) λy24=>(aw (cQ ((26,y24,(bc x.2.1.g),0,0,0),D)) λy25=>(bY (ay (ah D.2) (ah D.2)&&J) (aF y25)))))) (bi (Sx.op x.1) 15 (aw (kB (c.2.1.g,(Sx.name c.a))) λN=>(aw (kB (c.2.1.b,(Sx.arg c.a))) λI=>(aw (cQ ((27,N,I,0,0,0),c.2.1,c.d)) λF=>(bY (ay (ah c.d) (ah c.d)&&J) (aF F))))) (aF (c.2.1,c.d))))))))))))))))) λx1=>(Z x1))
def mC (rr06_gen_stmts:aft->M e!) (rr06_gen_stmt:No->M e!) (rr06_gen_branches:No->M e!) (rr06_gen_around:afv->M e!) (x:Sx×e!):M e!:=
 (aw (iC ((ey ((Xp.op (Sx.expr x.1)),(Xp.n (Sx.expr x.1)),(Xp.name (Sx.expr x.1)),(Xp.l (Sx.expr x.1))),(bc x.2.1.g)),x.2)) λq=>(bY (ay (ah x.2.2) (ah x.2.2)&&J) (aw (cQ ((10,(bc q.1.g),0,0,0,0),q)) λF=>(bY (ay (ah q.2) (ah q.2)&&J) (aw (rr06_gen_stmts ((Sx.body x.1),F)) λc=>(bY (ay (ah F.2) (ah F.2)&&J) (bi (Sx.op x.1) 3 (aw (cQ ((5,(bc x.2.2),0,0,0,0),(c.1.1,c.1.2.1,c.1.a,c.1.b,c.1.c,c.1.e,c.1.g,x.2.1.j,c.1.n),c.2)) λA=>(bY (ay (ah c.2) (ah c.2)&&J) (ck (gr (bc q.2) (ah A.2)) (Z (A.1,(cC A.2 (bc q.2) ((aK rq A.2 (bc q.2)).1,((aK rq A.2 (bc q.2)).2).1,(bc A.2),(((aK rq A.2 (bc q.2)).2).2).2))))))) (bi (bC (ah (Sx.els x.1))) 0 (ck (gr (bc q.2) (ah c.2)) (Z ((c.1.1,c.1.2.1,c.1.a,c.1.b,c.1.c,c.1.e,c.1.g,x.2.1.j,c.1.n),(cC c.2 (bc q.2) ((aK rq c.2 (bc q.2)).1,((aK rq c.2 (bc q.2)).2).1,(bc c.2),(((aK rq c.2 (bc q.2)).2).2).2))))) (aw (cQ ((5,0,0,0,0,0),(c.1.1,c.1.2.1,c.1.a,c.1.b,c.1.c,c.1.e,c.1.g,x.2.1.j,c.1.n),c.2)) λz=>(bY (ay (ah c.2) (ah c.2)&&J) (ck (gr (bc q.2) (ah z.2)) (aw (rr06_gen_stmts ((Sx.els x.1),z.1,(cC z.2 (bc q.2) ((aK rq z.2 (bc q.2)).1,((aK rq z.2 (bc q.2)).2).1,(bc z.2),(((aK rq z.2 (bc q.2)).2).2).2)))) λD=>(bY (ay (ah (cC z.2 (bc q.2) ((aK rq z.2 (bc q.2)).1,((aK rq z.2 (bc q.2)).2).1,(bc z.2),(((aK rq z.2 (bc q.2)).2).2).2))) (ah (cC z.2 (bc q.2) ((aK rq z.2 (bc q.2)).1,((aK rq z.2 (bc q.2)).2).1,(bc z.2),(((aK rq z.2 (bc q.2)).2).2).2)))&&J) (ck (gr (bc c.2) (ah D.2)) (Z (D.1,(cC D.2 (bc c.2) ((aK rq D.2 (bc c.2)).1,(bc D.2),((aK rq D.2 (bc c.2)).2).2))))))))))))))))))
def pl (rr06_gen_stmts:aft->M e!) (rr06_gen_stmt:No->M e!) (rr06_gen_branches:No->M e!) (rr06_gen_around:afv->M e!) (x:V?):M e!:=
 (aw (cQ ((x.1.2.1,x.1.d,0,0,0,0),x.2)) λq=>(bY (ay (ah x.2.2) (ah x.2.2)&&J) (aw (rr06_gen_stmts ((Sx.body x.1.1),q)) λc=>(bY (ay (ah q.2) (ah q.2)&&J) (aw (cQ ((x.1.a,x.1.d,0,0,0,0),(c.1.1,c.1.2.1,c.1.a,c.1.b,c.1.c,c.1.e,c.1.g,x.2.1.j,c.1.n),c.2)) λz=>(bY (ay (ah c.2) (ah c.2)&&J) (Z z)))))))
mutual
def dW:Nat->aft->M e!
 |0,_=>U
 |n+1,x=>qV (dW n) (eP n) (dv n) (dT n) x
def eP:Nat->No->M e!
 |0,_=>U
 |n+1,x=>r7 (dW n) (eP n) (dv n) (dT n) x
def dv:Nat->No->M e!
 |0,_=>U
 |n+1,x=>mC (dW n) (eP n) (dv n) (dT n) x
def dT:Nat->afv->M e!
 |0,_=>U
 |n+1,x=>pl (dW n) (eP n) (dv n) (dT n) x
end
def uA (x:(Y Sx)×e!):M e!:=dW fI x
abbrev C!:=Int×(xg×Y xf)×ji×sj×Int×(Y (Int×Y lz))×Y lz
def qM (x:y?):M (C_×h!):=
 (aw (kA x) λN=>(gF N.1 0 (Z (((([]:Y afu),([]:Y x!),([]:Y oF),([]:Y ζ),([]:Y ζ),([]:Y π)),([]:Y O!)),N)) (aw (uB x) λy2=>(iter (σ:=(ν)×(xg×Y xf)×y!) (λq=>(bS q.1.2 (bc q.2.1.2) (bz tj q.2.1.2 q.1.2 λz4=>(bz tj q.2.1.2 q.1.2 λz5=>(aw (uA (z5.2.2.2,(q.a.1,q.a.2.1,q.a.a,q.a.b,q.a.c,q.a.h,z4.2.2.1,0,q.1.1),([]:Y lz))) λA=>(bY (ay (ah ([]:Y lz)) (ah ([]:Y lz))&&J) (aw (cQ ((28,0,0,0,0,0),(A.1.1,A.1.2.1,A.1.a,A.1.b,A.1.c,A.1.e,A.1.g,(-1),A.1.n),A.2)) λI=>(bY (ay (ah A.2) (ah A.2)&&J) (iter (σ:=C!) (λz=>(bS z.1 (bc z.i) (kQ rq z.i z.1 λz9=>(aw (jT z9) λD=>(iter (σ:=C!) (λc=>(bS c.1 (bc D) (bz aO D c.1 λF=>(cW ((cM c.1),c.2.1,c.a,c.b,(Fo c.c (cM F)),c.h))) (aF (kS ((cM z.1),c.2))))) (0,z.2)))) (aw (bY (bl (ah z.e+ah ([(z.c,z.i)])) 32) (cW ((A.1.n,(cM q.1.2)),z.2.1,z.a,(z.e++([(z.c,z.i)]))))) λr=>Z (bV r)))) (0,q.2.1,q.a,I.1,(bc I.1.g),q.d,I.2)))))))) (aF (q.2.2,0,0)))) ((0,0),x,y2,([]:Y O!))))))
def ma (x:m?):M (Bool):=
 (iter (σ:=Int) (λx1=>(bS x1 (bc x.1) (bz aO x.1 x1 λc=>(bi c x.2 (aF J) (cW (cM x1)))) (aF aa))) 0)
def wI (x:m?):M η:=
 (iter (σ:=Int) (λx1=>(jn (bS x1 (bc x.1) (bz aO x.1 x1 λq=>(aF (fV q x.2))) (aF aa)) λA=>(aI A (cW (cM x1)) (aw (jn (bS x1 (bc x.1) (bz aO x.1 x1 λc=>(aF (decide ((c:Int)=x.2)))) (aF aa)) λz=>(aI z (Z x.1) (bY (cZ 0 x1&&cZ x1 (ah x.1)) (bY (bl (ah ([]:η)+ah (ca (aS x1) x.1)) 8) (bY (bl (ah (([]:η)++(ca (aS x1) x.1))+ah ([x.2])) 8) (bY (cZ 0 x1&&cZ x1 (ah x.1)) (bY (bl (ah ((([]:η)++(ca (aS x1) x.1))++([x.2]))+ah (gL (aS x1) x.1)) 8) (Z (((([]:η)++(ca (aS x1) x.1))++([x.2]))++(gL (aS x1) x.1)))))))))) λr=>Z (bV r))))) 0)
abbrev q?:=(η)×Int
abbrev X?:=η×η
def ux (x:X?):M η:=
 (iter (σ:=q?) (λx1=>(bS x1.2 (bc x.1) (bz aO x.1 x1.2 λz=>(aw (wI (x1.1,z)) λD=>(cW (D,(cM x1.2))))) (aw (iter (σ:=q?) (λc=>(bS c.2 (bc x.2) (bz aO x.2 c.2 λq=>(aw (wI (c.1,q)) λA=>(cW (A,(cM c.2))))) (aF c.1))) (x1.1,0)) λr=>Z (bV r)))) (([]:η),0))
def mm (x:Int):M (Int):=
 (jn (bS x 1 (aF J) (aF (fV 100 x))) λx1=>(aI x1 (Z 0) (Z x)))
abbrev o!:=(η)×Y η
def cD (x:j?):M (ν×o!):=
 (bY (bl (ah ([]:η)+ah x.2.1) 8) (iter (σ:=Int×v8×(ν)×(ν)×o!) (λx1=>(bS x1.1 (bc x1.2.1.a) (bz (.sl aO) x1.2.1.a x1.1 λc=>(bY (bl (ah ([]:η)+ah c) 8) (bY (bl (ah x1.h+ah ([(([]:η)++c)])) 24) (cW ((cM x1.1),x1.2.1,x1.a,x1.b,x1.c,(x1.h++([(([]:η)++c)]))))))) (aF x1.d))) (0,x,(0,0),(x.1,x.d),(([]:η)++x.2.1),([]:Y η))))
abbrev S!:=(η)×(Y η)×lz×(ν)×h!
def wH (x:(lz×Int×Int)×o!):M ((ν×Bool)×o!):=
 (aw (jT x.1.1) λy1=>(iter (σ:=Int×S!) (λc=>(bS c.1 (bc y1) (jn (bz aO y1 c.1 λz4=>(bS z4 0 (aF (J,c.2)) (bz aO y1 c.1 λz5=>(aF ((cZ (bc c.2.1) z5),c.2))))) λx3=>(aI x3.1 U (cW ((cM c.1),x3.2)))) (aw (jn (α:=(Int×Bool×η)×S!) (bi c.b.1 5 (cW (((c.b.2.1,c.c.2),J),c.2.1,c.a)) (bi c.b.1 1 (aF ((c.b.c,J,([]:η)),c.2)) (bi c.b.1 2 (kQ aO c.2.1 c.b.a λz7=>(kQ (.sl aO) c.a c.b.a λz8=>(aF ((z7,J,z8),c.2)))) (bi c.b.1 3 (aw (mm c.b.c) λy9=>(kQ aO c.2.1 c.b.a λz10=>(aw (uC (y9,z10)) λA=>(kQ (.sl aO) c.a c.b.a λz12=>(aF ((A.1,A.2,z12),c.2)))))) (aw (mm c.b.c) λy13=>(kQ aO c.2.1 c.b.a λN=>(kQ aO c.2.1 c.b.b λI=>(aw (vB (y13,N,I)) λz=>(kQ (.sl aO) c.a c.b.a λF=>(kQ (.sl aO) c.a c.b.b λD=>(aw (ux (F,D)) λy19=>(aF ((z.1,z.2,y19),c.2))))))))))))) λq=>(bY (bl (ah ([]:η)+ah q.1.2.2) 8) (ck (gr q.b.2.1 (ah q.2.1)) (ck (gr q.b.2.1 (ah q.a)) (Z ((((cM q.c.1),q.c.2),q.1.2.1),(cC q.2.1 q.b.2.1 q.1.1),(cC q.a q.b.2.1 (([]:η)++q.1.2.2)))))))) λr=>Z (bV r)))) (0,x.2.1,x.2.2,x.1.1,x.1.2,0,0)))
def nB (x:(Int×Y lz)×j?):M (v8×Bool):=
 (jn (α:=Bool×(Int×Y lz)×v8×h!) (gF (bc x.a) x.1.1 (aF (J,x.1,x.2,0,0)) (aF ((!decide (((bc x.b):Int)=x.1.1)),x.1,x.2,0,0))) λx1=>(aI x1.1 (Z ((0,([]:η),([]:Y η),0),aa)) (aw (cD x1.a) λD=>(iter (σ:=Int×(Int×Y lz)×(ν)×(ν)×o!) (λq=>(jO q.1 (bc q.2.1.2) (jn (bS q.a.1 0 (aF (J,q.2)) (aF ((cZ (bc q.2.1.2) q.a.1),q.2))) λc=>(aI c.1 (aF ((0,([]:η),([]:Y η),0),aa)) (bz rq c.2.1.2 c.a.1 λA=>(aw (pP A.1) λF=>(aI (!F) (aF ((c.a.1,c.c,c.h,c.a.2),J)) (bi q.1 (bc c.2.1.2) (aF ((0,([]:η),([]:Y η),0),aa)) (aw (wH ((A,c.a),c.f)) λz=>(bY (ay (ah c.h) (ah z.2.2)&&(ay (ah c.c) (ah z.2.1)&&J)) (aI (!z.1.2) (aF ((0,([]:η),([]:Y η),0),aa)) (cW ((cM q.1),c.2.1,z.1.1,c.b,z.2))))))))))) (aF ((0,([]:η),([]:Y η),0),aa)))) (0,x1.2.1,D.1,x1.d,D.2)))))
abbrev t?:=Int×Int×fq×f?
abbrev A?:=fq×f?
abbrev O?:=Int×ji×Int×Int×Y (Int×η)
abbrev V!:=Int×ji×Int×Int×fq×θ
def pz (x:c?):M kM:=
 (iter (σ:=O?) (λx1=>(bS x1.1 (bc x1.2.1.2.1) (bY (bl (ah x1.f+ah ([((-1),([]:η))])) 32) (cW ((cM x1.1),x1.2.1,x1.a,x1.b,(x1.f++([((-1),([]:η))]))))) (aw (iter (σ:=V!) (λq=>(bS q.1 (bc q.2.1.b) (bY (bl (ah q.h+ah ([aa])) 1) (cW ((cM q.1),q.2.1,q.a,q.b,q.c,(q.h++([aa]))))) (aw (iter (σ:=Int×ji×t?) (λc=>(bS c.1 (bc c.2.1.c) (jn (α:=ji×Int×Int×du×A?) (bi c.1 0 (aF (c.2.1,c.a,c.b,(1,0,aa),c.f)) (aF (c.2.1,c.a,c.b,(0,0,aa),c.f))) λz=>(bY (bl (ah z.i+ah ([z.b])) 24) (cW ((cM c.1),z.1,z.2.1,z.a,z.c,z.e,(z.i++([z.b])))))) (aF (c.c,c.b,c.h)))) (0,q.2.1,q.a,q.b,q.c,q.h,([]:Y du))) λr=>Z (bV r)))) (0,x1.2.1,x1.a,x1.b,x1.f,([]:θ))) λr=>Z (bV r)))) (0,x,0,(-1),([]:Y i?)))
def rK (x:ji×o?):M (Bool):=
 (iter (σ:=Int×ji×o?) (λx1=>(bS x1.1 (bc x1.2.1.a) (jn (bz itK x1.2.1.a x1.1 λz=>(bS z.2 0 (aF (J,x1.2)) (bz itK x1.2.1.a x1.1 λq=>(aF ((cZ (bc x1.2.1.2.1) q.2),x1.2))))) λc=>(aI c.1 (aF aa) (cW ((cM x1.1),c.2)))) (aw (jn (bi (bc x1.a) (bc x1.2.1.2.1) (bi (bc x1.c) (bc x1.2.1.b) (aF (decide (((bc x1.h):Int)=(bc x1.2.1.c)))) (aF aa)) (aF aa)) λA=>(Z A)) λr=>Z (bV r)))) (0,x))
def qK (x:ν):M (Bool):=
 (jn (jO 0 x.1 (aF (fV x.1 x.2)) (aF aa)) λx1=>(Z x1))
def uw (x:ji×h!):M (Bool):=
 (jn (bi x.2.1 1 (aF ((decide ((x.2.1:Int)=1)),x.1)) (bi x.2.1 2 (aF ((decide ((x.2.1:Int)=2)),x.1)) (bi x.2.1 5 (aF ((decide ((x.2.1:Int)=5)),x.1)) (bi x.2.1 12 (aF ((decide ((x.2.1:Int)=12)),x.1)) (bi x.2.1 13 (aF ((decide ((x.2.1:Int)=13)),x.1)) (bi x.2.1 14 (aF ((decide ((x.2.1:Int)=14)),x.1)) (aF ((decide ((x.2.1:Int)=15)),x.1)))))))) λx1=>(aI x1.1 (Z (decide ((x.2.2:Int)=(-1)))) (jn (bi x.2.1 3 (aF ((decide ((x.2.1:Int)=3)),x1.2)) (aF ((decide ((x.2.1:Int)=4)),x1.2))) λF=>(aI F.1 (aw (qK (x.2.2,(bc F.2.1))) λy3=>(Z y3)) (jn (bi x.2.1 6 (aF ((decide ((x.2.1:Int)=6)),F.2)) (aF ((decide ((x.2.1:Int)=7)),F.2))) λA=>(aI A.1 (jn (aw (qK (x.2.2,(bc A.a))) λy6=>(aI y6 (bz rj A.a x.2.2 λz7=>(aF (!z7.2))) (aF aa))) λx5=>(Z x5)) (jn (bi x.2.1 8 (aF ((decide ((x.2.1:Int)=8)),A.2)) (bi x.2.1 9 (aF ((decide ((x.2.1:Int)=9)),A.2)) (bi x.2.1 10 (aF ((decide ((x.2.1:Int)=10)),A.2)) (aF ((decide ((x.2.1:Int)=11)),A.2))))) λz=>(aI z.1 (jn (aw (qK (x.2.2,(bc z.a))) λy10=>(aI y10 (bz rj z.a x.2.2 λI=>(aF I.2)) (aF aa))) λx9=>(Z x9)) (jn (bi x.2.1 16 (aF ((decide ((x.2.1:Int)=16)),z.2)) (bi x.2.1 17 (aF ((decide ((x.2.1:Int)=17)),z.2)) (bi x.2.1 18 (aF ((decide ((x.2.1:Int)=18)),z.2)) (aF ((decide ((x.2.1:Int)=19)),z.2))))) λq=>(aI q.1 (aw (qK (x.2.2,(bc q.b))) λy13=>(Z y13)) (jn (bi x.2.1 20 (aF ((decide ((x.2.1:Int)=20)),q.2)) (aF ((decide ((x.2.1:Int)=21)),q.2))) λc=>(aI c.1 (aw (qK (x.2.2,(bc c.e))) λy15=>(Z y15)) (jn (bi x.2.1 22 (aF ((decide ((x.2.1:Int)=22)),c.2)) (aF ((decide ((x.2.1:Int)=23)),c.2))) λD=>(aI D.1 (aw (qK (x.2.2,(bc D.c))) λN=>(Z N)) (Z aa)))))))))))))))
abbrev Q!:=ji×kM×Int×h!
def kz (x:Q!):M (Bool):=
 (jn (aw (rK (x.1,x.2.1)) λy2=>(aI (!y2) (aF (J,x.1,x.2.1)) (aw (qK (x.a,(bc x.1.c))) λy3=>(aI (!y3) (aF (J,x.1,x.2.1)) (aw (uw (x.1,x.d)) λy4=>(aF ((!y4),x.1,x.2.1))))))) λx1=>(aI x1.1 (Z aa) (bz fg x1.h x.a λz=>(bi x.b 1 (Z (decide ((z.1:Int)=1))) (bi x.b 17 (jn (α:=Bool) (bi z.1 4 (bi z.2.1 x.f (bz itK x1.2.1.a x.f λz7=>(bz c_ x1.a z7.2 λz8=>(aF (decide ((z8.1:Int)=(-1)))))) (aF aa)) (aF aa)) λx6=>(Z x6)) (gF z.1 2 (Z aa) (bi x.b 6 (bz c_ x1.a x.f λz9=>(Z (decide ((z9.1:Int)=(-1))))) (bi x.b 10 (jn (α:=Bool) (bz c_ x1.a x.f λz11=>(bi z11.1 (-1) (bz c_ x1.a x.f λz12=>(aF (decide (((bc z12.2):Int)=0)))) (aF aa))) λx10=>(Z x10)) (bi x.b 8 (jn (α:=Bool) (bz c_ x1.a x.f λz14=>(bi z14.1 (-1) (bz c_ x1.a x.f λz15=>(aw (ma (z15.2,x.a)) λy16=>(aF (!y16)))) (aF aa))) λx13=>(Z x13)) (jn (bi x.b 7 (aF ((decide ((x.b:Int)=7)),x1.2.1,x1.2.2,z)) (aF ((decide ((x.b:Int)=11)),x1.2.1,x1.2.2,z))) λc=>(aI c.1 (bz c_ c.a.1 x.f λz18=>(Z (decide ((z18.1:Int)=x.a)))) (bi x.b 9 (bz c_ c.a.1 x.f λz19=>(aw (ma (z19.2,x.a)) λy20=>(Z y20))) (bi x.b 12 (Z (decide ((c.a.2.1:Int)=(-1)))) (bi x.b 13 (Z (decide ((c.a.2.1:Int)=x.a))) (bi x.b 14 (Z (!c.h)) (bi x.b 15 (Z c.h) (jn (bi x.b 16 (aF ((decide ((x.b:Int)=16)),c.2.1,c.a)) (bi x.b 18 (aF ((decide ((x.b:Int)=18)),c.2.1,c.a)) (aF ((decide ((x.b:Int)=19)),c.2.1,c.a)))) λq=>(aI q.1 (bz itK q.2.1.a x.f λz22=>(bz c_ q.a z22.2 λN=>(Z (decide ((N.1:Int)=x.a))))) (bi x.b 20 (jn (gF x.f x.a (bz fg q.h x.f λI=>(aF (decide ((I.1:Int)=0)))) (aF aa)) λx24=>(Z x24)) (bi x.b 21 (jn (gF x.f x.a (bz fg q.h x.f λF=>(aF (decide ((F.1:Int)=5)))) (aF aa)) λx26=>(Z x26)) (bi x.b 22 (bz (.bool) q.c x.f λD=>(Z (!D))) (bi x.b 23 (bz (.bool) q.c x.f λA=>(Z A)) (Z J)))))))))))))))))))))))
def nW (x:kM×Int):M η:=
 (iter (σ:=Int×kM×η) (λx1=>(bS x1.1 (bc x1.2.1.d) (jn (α:=kM×η) (jn (bz fg x1.2.1.d x1.1 λz=>(bi z.1 3 (bz fg x1.2.1.d x1.1 λq=>(aF ((decide ((q.2.1:Int)=x.2)),x1.2))) (aF (aa,x1.2)))) λc=>(aI c.1 (bY (bl (ah c.2.2+ah ([x1.1])) 8) (aF (c.2.1,(c.2.2++([x1.1]))))) (aF c.2))) λA=>(cW ((cM x1.1),A))) (aF x1.2.2))) (0,x.1,([]:η)))
def qJ (x:m?):M η:=
 (iter (σ:=i?) (λx1=>(bS x1.1 (bc x.1) (jn (α:=η) (bz aO x.1 x1.1 λq=>(gF q x.2 (bz aO x.1 x1.1 λc=>(bY (bl (ah x1.2+ah ([c])) 8) (aF (x1.2++([c]))))) (aF x1.2))) λz=>(cW ((cM x1.1),z))) (aF x1.2))) (0,([]:η)))
def io (x:o?):M (Int×A?):=
 (bY (bl (ah ([]:θ)+ah x.a) 1) (bY (bl (ah ([]:Y du)+ah x.d) 24) (iter (σ:=Int×kM×t?) (λx1=>(bS x1.1 (bc x1.2.1.1) (bz c_ x1.2.1.1 x1.1 λq=>(bz c_ x1.2.1.1 x1.1 λc=>(bY (bl (ah ([]:η)+ah c.2) 8) (bY (bl (ah x1.c+ah ([(q.1,(([]:η)++c.2))])) 32) (cW ((cM x1.1),x1.2.1,x1.a,x1.b,(x1.c++([(q.1,(([]:η)++c.2))])),x1.h)))))) (aF x1.d))) (0,x,0,x.2.1,([]:Y i?),(([]:θ)++x.a),(([]:Y du)++x.d)))))
def ml (x:ν×A?):M (η×A?):=
 (iter (σ:=Int×fq×(θ)×(Y du)×i?) (λx1=>(bS x1.1 (bc x1.b) (jn (α:=fq×(θ)×(Y du)×i?) (jn (kQ fg x1.b x1.1 λz=>(bi z.1 3 (kQ fg x1.b x1.1 λq=>(aF ((decide ((q.2.1:Int)=x.1.2)),x1.2))) (aF (aa,x1.2)))) λc=>(aI c.1 (bY (bl (ah c.h+ah ([x1.1])) 8) (aF (c.2.1,c.a,c.b,c.c,(c.h++([x1.1]))))) (aF c.2))) λA=>(cW ((cM x1.1),A))) (aF (x1.h,x1.2.1,x1.a,x1.b)))) (0,x.2.1,x.a,x.d,x.1.1,([]:η)))
def lf (x:ν×A?):M η:=aw (ml x) λy=>same y.2 x.2 (Z y.1)
abbrev S?:=ji×kM×s?
def pA (x:S?):M (kM×c!):=
 (aw (kz (x.1,x.2.1,x.a,x.b,x.c)) λy1=>(aI (!y1) (Z ((([]:Y i?),0,([]:θ),([]:Y du)),0,aa)) (aw (io x.2.1) λA=>(jn (α:=Int×t?) (bi x.b 1 (ck (gr x.a (ah A.d)) (aF (0,A.1,0,A.2.1,A.a,(cC A.d x.a (2,(aK fg A.d x.a).2))))) (bi x.b 2 (ck (gr x.a (ah A.d)) (aF (0,A.1,0,A.2.1,A.a,(cC A.d x.a (5,(aK fg A.d x.a).2))))) (jn (α:=Bool×ji×t?) (bi x.b 6 (aF ((decide ((x.b:Int)=6)),x.1,A.1,0,A.2)) (aF ((decide ((x.b:Int)=10)),x.1,A.1,0,A.2))) λD=>(aI D.1 (ck (gr x.c (ah D.c)) (aF (0,D.a,D.b,(cC D.c x.c (x.a,(aK c_ D.c x.c).2)),D.h))) (jn (bi x.b 7 (aF ((decide ((x.b:Int)=7)),D.2)) (aF ((decide ((x.b:Int)=11)),D.2))) λc=>(aI c.1 (ck (gr x.c (ah c.c)) (aF (0,c.a,c.b,(cC c.c x.c ((-1),(aK c_ c.c x.c).2)),c.h))) (bi x.b 8 (kQ c_ c.c x.c λz6=>(aw (ux (z6.2,[x.a])) λy7=>(ck (gr x.c (ah c.c)) (aF (0,c.a,c.b,(cC c.c x.c ((aK c_ c.c x.c).1,y7)),c.h))))) (bi x.b 9 (kQ c_ c.c x.c λz8=>(aw (qJ (z8.2,x.a)) λy9=>(ck (gr x.c (ah c.c)) (aF (0,c.a,c.b,(cC c.c x.c ((aK c_ c.c x.c).1,y9)),c.h))))) (bi x.b 12 (aF (0,x.a,c.d)) (bi x.b 13 (aF (0,(-1),c.d)) (bi x.b 14 (ck (gr x.a (ah c.i)) (aF (0,c.a,c.b,c.c,c.e,(cC c.i x.a ((aK fg c.i x.a).1,((aK fg c.i x.a).2).1,J))))) (bi x.b 15 (ck (gr x.a (ah c.i)) (aF (0,c.a,c.b,c.c,c.e,(cC c.i x.a ((aK fg c.i x.a).1,((aK fg c.i x.a).2).1,aa))))) (bi x.b 16 (bz itK c.2.1.a x.c λN=>(ck (gr N.2 (ah c.c)) (ck (gr x.a (ah c.i)) (ck (gr x.a (ah (cC c.i x.a (3,(aK fg c.i x.a).2)))) (aF (0,c.a,c.b,(cC c.c N.2 ((-1),(aK c_ c.c N.2).2)),c.e,(cC (cC c.i x.a (3,(aK fg c.i x.a).2)) x.a ((aK fg (cC c.i x.a (3,(aK fg c.i x.a).2)) x.a).1,x.c,((aK fg (cC c.i x.a (3,(aK fg c.i x.a).2)) x.a).2).2)))))))) (bi x.b 17 (bz itK c.2.1.a x.c λI=>(ck (gr I.2 (ah c.c)) (ck (gr x.a (ah c.i)) (ck (gr x.a (ah (cC c.i x.a (2,(aK fg c.i x.a).2)))) (aF (0,c.a,c.b,(cC c.c I.2 (x.a,(aK c_ c.c I.2).2)),c.e,(cC (cC c.i x.a (2,(aK fg c.i x.a).2)) x.a ((aK fg (cC c.i x.a (2,(aK fg c.i x.a).2)) x.a).1,0,((aK fg (cC c.i x.a (2,(aK fg c.i x.a).2)) x.a).2).2)))))))) (bi x.b 18 (aw (lf ((c.a,x.c),c.f)) λy12=>(bS 0 (bc y12) (bz aO y12 0 λz13=>(jn (aw (ma (y12,x.h)) λy15=>(aI y15 (aF (x.h,c.2.2)) (aF (z13,c.2.2)))) λz=>(ck (gr z.1 (ah z.h)) (aF (z.1,z.2.1,z.a,z.b,z.c,(cC z.h z.1 (4,(aK fg z.h z.1).2))))))) (aF ((-1),c.2.2)))) (bi x.b 19 (aw (lf ((c.a,x.c),c.f)) λy16=>(iter (σ:=Int×t?) (λq=>(bS q.1 (bc y16) (bz aO y16 q.1 λF=>(ck (gr F (ah q.h)) (cW ((cM q.1),q.2.1,q.a,q.b,q.c,(cC q.h F (4,(aK fg q.h F).2)))))) (aF (bV ((bc y16),q.2))))) (0,c.2.2))) (bi x.b 20 (ck (gr x.c (ah c.i)) (aF (0,c.a,c.b,c.c,c.e,(cC c.i x.c (1,(aK fg c.i x.c).2))))) (bi x.b 22 (ck (gr x.c (ah c.e)) (aF (0,c.a,c.b,c.c,(cC c.e x.c J),c.i))) (aF (0,c.2.2)))))))))))))))))))) λx3=>(Z ((x3.b,x3.2.1,x3.f),x3.1,J))))))
abbrev I?:=(η)×η
def uv (x:y!):M yc:=
 (aw (pB x) λN=>(aI (!N) (Z ((([]:Y i?),0,([]:θ),([]:Y du)),([]:η),([]:η),([]:Y v8))) (aw (pz x.1) λI=>(iter (σ:=Int×C_×Int×kM×η) (λz=>(bS z.1 (bc z.2.1.1.1) (bz mO z.2.1.1.1 z.1 λF=>(bY (bl (ah z.f+ah ([F.2.2.2.2])) 8) (cW ((cM z.1),z.2.1,z.a,z.b,(z.f++([F.2.2.2.2])))))) (aw (iter (σ:=Int×C_×Int×kM×I?) (λq=>(bS q.1 (bc q.2.1.1.b) (bY (bl (ah q.h+ah ([0])) 8) (cW ((cM q.1),q.2.1,q.a,q.b,q.c,(q.h++([0]))))) (aw (iter (σ:=Int×C_×Int×g!) (λc=>(bS c.1 (bc c.2.1.2) (BJ c.1 c.2.1.2 (lt ((aK xi c.2.1.2 c.1).1) λD=>(bY (cZ 0 D&&cZ D D&&bl (aS D) 8) (BJ c.1 c.2.1.2 (lt ((aK xi c.2.1.2 c.1).1) λA=>(bY (cZ 0 A&&cZ A A&&bl (aS A) 24) (bY (bl (ah c.i+ah ([(0,(aP (aS D) (0:Int)),(aP (aS A) ([]:η)),0)])) 64) (cW ((cM c.1),c.2.1,c.a,c.b,c.c,c.e,(c.i++([(0,(aP (aS D) (0:Int)),(aP (aS A) ([]:η)),0)]))))))))))) (aF c.d))) (0,q.2.1,q.a,q.b,q.c,q.h,([]:Y v8))) λr=>Z (bV r)))) (0,z.2.1,z.a,z.b,z.f,([]:η))) λr=>Z (bV r)))) (0,x,0,I,([]:η))))))
def wG (x:C_×g!):M (Bool):=
 (jn (aw (pB x.1) λN=>(aI (!N) (aF (J,x)) (aw (rK (x.1.1,x.2.1)) λI=>(aI (!I) (aF (J,x)) (gF (bc x.a) (bc x.1.1.1) (aF (J,x)) (gF (bc x.b) (bc x.1.1.b) (aF (J,x)) (aF ((!decide (((bc x.f):Int)=(bc x.1.2))),x)))))))) λx1=>(aI x1.1 (Z aa) (iter (σ:=Int×C_×g!) (λc=>(bS c.1 (bc c.2.1.2) (bz eT c.h c.1 λq=>(jn (bS q.1 0 (aF (J,c.2)) (bz xi c.2.1.2 c.1 λF=>(jO (bc F.2) q.1 (aF (J,c.2)) (bz xi c.2.1.2 c.1 λD=>(gF (bc q.2.1) D.1 (aF (J,c.2)) (bz xi c.2.1.2 c.1 λA=>(aF ((!decide (((bc q.a):Int)=A.1)),c.2)))))))) λz=>(aI z.1 (aF aa) (cW ((cM c.1),z.2))))) (aF J))) (0,x1.2))))
def wE (x:Int):M (Int):=
 (jn (α:=Bool×η) (bS x 6 (aF (J,[3,3,4,4,5,6,7,8,9,10,11,12,13,14,15,16,18,19,20,21,22,23,2])) (aF ((fV 28 x),[3,3,4,4,5,6,7,8,9,10,11,12,13,14,15,16,18,19,20,21,22,23,2]))) λx1=>(aI x1.1 (Z 0) (kQ aO x1.2 (aZ .i64 (x-6)) λc=>(Z c))))
def sA (x:lz×j?):M (Int):=
 (jn (bi x.1.1 6 (aF ((decide ((x.1.1:Int)=6)),x)) (aF ((decide ((x.1.1:Int)=27)),x))) λx1=>(aI x1.1 (Z x1.2.1.a) (bi x.1.1 7 (bz aO x1.b x1.2.1.b λz=>(aw (rM (z,x1.2.1.c)) λD=>(Z (aZ .i64 (x1.2.1.a+D))))) (bi x.1.1 9 (bz aO x1.b x1.2.1.b λq=>(aw (rM (q,x1.2.1.c)) λA=>(Z (aZ .i64 (x1.2.1.2.1+A))))) (jn (bi x.1.1 10 (aF ((decide ((x.1.1:Int)=10)),x1.2.1)) (bi x.1.1 17 (aF ((decide ((x.1.1:Int)=17)),x1.2.1)) (bi x.1.1 18 (aF ((decide ((x.1.1:Int)=18)),x1.2.1)) (bi x.1.1 19 (aF ((decide ((x.1.1:Int)=19)),x1.2.1)) (bi x.1.1 20 (aF ((decide ((x.1.1:Int)=20)),x1.2.1)) (aF ((decide ((x.1.1:Int)=28)),x1.2.1))))))) λc=>(aI c.1 (Z (-1)) (Z c.a)))))))
def nV (x:C_×yc×Int):M (pI×Bool):=
 (jn (α:=Bool×C_×yc×Int×s?) (aw (wG (x.1,x.2.1)) λy2=>(aI (!y2) (aF (J,x.1,x.2.1,0,0,0,0,0)) (bS x.2.2 0 (aF (J,x.1,x.2.1,0,0,0,0,0)) (aF ((cZ (bc x.1.2) x.2.2),x.1,x.2.1,0,0,0,0,0))))) λx1=>(aI x1.1 (Z ((0,0,0,0,0,([]:η),([]:η)),aa)) (bz eT x1.a.d x.2.2 λF=>(bz xi x1.2.1.2 x.2.2 λz4=>(bz rq z4.2 F.1 λz=>(bz fg x1.a.1.d x.2.2 λz6=>(bi z6.1 1 (Z ((x.2.2,1,(-1),0,(-1),([]:η),([]:η)),J)) (bi z6.1 4 (bz fg x1.a.1.d x.2.2 λz7=>(Z ((x.2.2,17,z7.2.1,0,z.h,([]:η),([]:η)),J))) (bi z6.1 2 (aw (wE z.1) λy8=>(aw (sA (z,F)) λy9=>(bi y8 0 (Z ((0,0,0,0,0,([]:η),([]:η)),aa)) (jn (α:=ER×v8×lz×ER×η) (bi z.1 10 (bz (.sl aO) F.a z.2.1 λz11=>(bY (bl (ah (z11:η)) 8) (aF (x1.d,F,z,(x.2.2,y8,y9,0,z.h),z11)))) (jn (α:=Bool×ER×v8×lz×Int×s?) (bi z.1 7 (aF ((decide ((z.1:Int)=7)),x1.d,F,z,x.2.2,y8,y9,0,z.h)) (aF ((decide ((z.1:Int)=9)),x1.d,F,z,x.2.2,y8,y9,0,z.h))) λc=>(aI c.1 (bz (.sl aO) c.a.a c.b.b λN=>(bY (bl (ah (N:η)) 8) (aF (c.2.1,c.a,c.b,c.f,N)))) (aF (c.2.1,c.a,c.b,c.f,([]:η)))))) λD=>(jn (α:=ER×ER×I?) (jn (bi D.a.1 8 (aF (J,D)) (bi D.a.1 9 (aF (J,D)) (aF ((decide ((D.a.1:Int)=26)),D)))) λq=>(aI q.1 (bz (.sl aO) q.a.a q.b.a λI=>(bY (bl (ah (I:η)) 8) (aF (q.2.1,q.c,q.h,I)))) (aF (q.2.1,q.c,q.h,([]:η))))) λA=>(Z ((A.2.1.1,A.2.1.2.1,A.2.1.a,A.2.1.b,A.2.1.f,A.2.2),J))))))) (Z ((0,0,0,0,0,([]:η),([]:η)),aa)))))))))))
def m8 (x:c?):M iW:=
 (aw (pz x) λz=>(bY (cZ 0 (bc x.b)&&cZ (bc x.b) (bc x.b)&&bl (aS (bc x.b)) 8) (bY (cZ 0 (bc x.c)&&cZ (bc x.c) (bc x.c)&&bl (aS (bc x.c)) 8) (iter (σ:=Int×ji×Int×N?) (λc=>(bS c.1 (bc c.2.1.1) (bz mO c.2.1.1 c.1 λq=>(bY (bl (ah c.c+ah ([q.2.2.2.2])) 8) (cW ((cM c.1),c.2.1,c.a,c.b,(c.c++([q.2.2.2.2])),c.h)))) (aF c.d))) (0,x,0,z,([]:η),(aP (aS (bc x.b)) (0:Int)),(aP (aS (bc x.c)) (0:Int)))))))
def rJ (x:ji×N?):M (Bool):=
 (jn (aw (rK (x.1,x.2.1)) λc=>(aI c (bi (bc x.a) (bc x.1.1) (bi (bc x.b) (bc x.1.b) (aF (decide (((bc x.f):Int)=(bc x.1.c)))) (aF aa)) (aF aa)) (aF aa))) λx1=>(Z x1))
def Dy (x:ν):M (Bool):=
 (jn (jO 0 x.1 (aF (fV x.1 x.2)) (aF aa)) λx1=>(Z x1))
def qI (x:m?):M (Bool):=
 (iter (σ:=Int) (λx1=>(bS x1 (bc x.1) (jn (bz aO x.1 x1 λA=>(bS A 1 (aF J) (bz aO x.1 x1 λz=>(jO x.2 z (aF J) (bS 0 x1 (bz aO x.1 x1 λq=>(bz aO x.1 (aZ .i64 (x1-1)) λc=>(aF (cZ q c)))) (aF aa)))))) λD=>(aI D (aF aa) (cW (cM x1)))) (aF J))) 0)
def xA (x:iW×d?):M (Bool):=
 (bi x.a 3 (bz aO x.1.2.1 x.b λA=>(Z (decide ((x.c:Int)=A)))) (bi x.a 23 (bz aO x.1.a x.b λz=>(Z (decide ((x.c:Int)=z)))) (bi x.a 5 (jn (bi x.c 0 (aF J) (aF (decide ((x.c:Int)=1)))) λN=>(Z N)) (jn (bi x.a 4 (aF ((decide ((x.a:Int)=4)),x)) (aF ((decide ((x.a:Int)=22)),x))) λc=>(aI c.1 (Z J) (bi x.a 18 (aw (nW (c.2.1.1,c.c)) λq=>(bi (bc q) 0 (Z (decide ((c.e:Int)=(-1)))) (jn (jO 0 c.e (bS c.e (bc c.2.1.1.d) (aw (ma (q,c.e)) λF=>(aF F)) (aF aa)) (aF aa)) λI=>(Z I)))) (bi x.a 19 (aw (nW (c.2.1.1,c.c)) λD=>(Z (decide ((c.e:Int)=(bc D))))) (Z (decide ((c.e:Int)=0))))))))))
def k_ (x:ji×iW×d?):M (iW×Bool):=
 (jn (α:=Bool×ji×iW×pI×Int) (aw (rJ (x.1,x.2.1)) λy2=>(aI (!y2) (aF (J,x.1,x.2.1,x.2.2,0)) (aw (Dy (x.a,(bc x.1.c))) λy3=>(aI (!y3) (aF (J,x.1,x.2.1,x.2.2,0)) (bS x.b 1 (aF (J,x.1,x.2.1,x.2.2,0)) (bS 23 x.b (aF (J,x.1,x.2.1,x.2.2,0)) (aw (kz (x.1,x.2.1.1,x.a,x.b,x.c)) λy4=>(aF ((!y4),x.1,x.2.1,x.2.2,0))))))))) λx1=>(aI x1.1 (Z (((([]:Y i?),0,([]:θ),([]:Y du)),([]:η),([]:η),([]:η)),aa)) (jn (α:=ji×iW×pI×Int) (jn (bi x1.b.2.1 1 (aF (J,x1.2)) (aF ((decide ((x1.b.2.1:Int)=2)),x1.2))) λN=>(aI N.1 (gF N.b.c (-1) (cW (((([]:Y i?),0,([]:θ),([]:Y du)),([]:η),([]:η),([]:η)),aa)) (aF N.2)) (jn (aw (Dy (N.b.c,(bc N.2.1.h))) λy8=>(aI (!y8) (aF (J,N.2)) (bz rk N.2.1.h N.b.c λz9=>(aF ((!decide ((z9.1:Int)=N.b.1)),N.2))))) λx7=>(aI x7.1 (cW (((([]:Y i?),0,([]:θ),([]:Y du)),([]:η),([]:η),([]:η)),aa)) (aF x7.2))))) λx5=>(jn (bi x5.a.2.1 3 (aF (J,x5)) (aF ((decide ((x5.a.2.1:Int)=4)),x5))) λF=>(jn (bS 0 (bc F.b.e) (gF F.b.2.1 5 (aI F.1 (bz mO F.2.1.1 F.b.a λz12=>(aF ((!(!decide ((z12.2.2.1:Int)=0))),F.2))) (aF (J,F.2))) (aF (aa,F.2))) (aF (aa,F.2))) λI=>(aI I.1 (Z (((([]:Y i?),0,([]:θ),([]:Y du)),([]:η),([]:η),([]:η)),aa)) (jn (bS 0 (bc I.b.i) (gF I.b.2.1 4 (aF ((!decide ((I.b.2.1:Int)=22)),I.2)) (aF (aa,I.2))) (aF (aa,I.2))) λA=>(aI A.1 (Z (((([]:Y i?),0,([]:θ),([]:Y du)),([]:η),([]:η),([]:η)),aa)) (jn (bz aO A.a.d A.b.1 λz15=>(aw (qI (A.b.e,z15)) λy16=>(aI (!y16) (aF (J,A.2)) (bz aO A.a.d A.b.1 λz17=>(aw (qI (A.b.i,z17)) λy18=>(aI (!y18) (aF (J,A.2)) (aw (xA (A.a,A.b)) λy19=>(aF ((!y19),A.2))))))))) λc=>(aI c.1 (Z (((([]:Y i?),0,([]:θ),([]:Y du)),([]:η),([]:η),([]:η)),aa)) (bY (bl (ah ([]:η)+ah c.a.2.1) 8) (bY (bl (ah ([]:η)+ah c.a.a) 8) (bY (bl (ah ([]:η)+ah c.a.d) 8) (jn (α:=Int×ji×iW×pI×Int×Int×b!) (bi c.b.2.1 18 (aF (c.b.b,c.2.1,c.a,c.b,c.f,0,(([]:η)++c.a.2.1),(([]:η)++c.a.a),(([]:η)++c.a.d))) (aF ((-1),c.2.1,c.a,c.b,c.f,0,(([]:η)++c.a.2.1),(([]:η)++c.a.a),(([]:η)++c.a.d)))) λq=>(aw (pA (q.2.1,q.a.1,q.b.1,q.b.2.1,q.b.a,q.1)) λy21=>(jn (bi q.b.2.1 4 (ck (gr q.b.a (ah q.g)) (aF (q.b,q.c,y21.1,(cC q.g q.b.a q.b.b),q.k))) (aF (q.b,q.c,y21.1,q.i))) λz=>(jn (bi z.1.2.1 22 (ck (gr z.1.a (ah z.c)) (aF (z.1,z.2.1,z.a,z.b,(cC z.c z.1.a z.1.b),z.h))) (aF z)) λD=>(kQ aO D.h D.1.1 λz24=>(ck (gr D.1.1 (ah D.h)) (Z ((D.a,D.b,D.c,(cC D.h D.1.1 (cM z24))),J)))))))))))))))))))))
def rI (x:(Y pI)×Int×i?):M (Bool):=
 (iter (σ:=Int) (λx1=>(bS x1 (bc x.d) (iter (σ:=Int×Bool×Int) (λc=>(bS c.2.2 x.2.1 (jn (bz fP x.1 c.2.2 λF=>(gF F.1 x.a (aF (c.1,c.2.1)) (jn (aI c.2.1 (aF J) (bz aO x.d x1 λD=>(bi c.1 D (bz fP x.1 c.2.2 λA=>(bi A.2.1 3 (aF J) (bz fP x.1 c.2.2 λz=>(aF (decide ((z.2.1:Int)=23)))))) (aF aa)))) λI=>(aF ((cM c.1),I))))) λq=>(cW (q.1,q.2,(cM c.2.2)))) (aw (aI (!c.2.1) (aF aa) (cW (cM x1))) λr=>Z (bV r)))) (0,aa,0)) (aF J))) 0)
def uu (x:ji×Y pI):M ν:=
 (bS 400 (bc x.2) (Z (0,2)) (aw (iR x.1) λN=>(aI (!N) (Z (0,1)) (aw (m8 x.1) λI=>(iter (σ:=Int×(ji×Y pI)×N?) (λc=>(bS c.1 (bc c.2.1.2) (bz fP c.2.1.2 c.1 λq=>(aw (k_ (c.2.1.1,c.2.2,q)) λz=>(jn (aI (!z.2) (aF (J,c.2.1,c.2.2,z.1)) (aw (rI (c.2.1.2,c.1,q.1,q.e)) λF=>(aI (!F) (aF (J,c.2.1,c.2.2,z.1)) (aw (rI (c.2.1.2,c.1,q.1,q.i)) λD=>(aF ((!D),c.2.1,c.2.2,z.1)))))) λA=>(aI A.1 (aF (c.1,12)) (cW ((cM c.1),A.2.1,A.d)))))) (aF (0,0)))) (0,x,I))))))
def KG {W V:Type} (i:Int) (N:R->(η)->(Y η)->W) (I:W->V) (t3:V->v8->Y v8) (F:Int) (c:C_×kM×(ν)×Int×ER×pI×(ν)×(η)×(η)×R×(η)×Y η):M EQ:=
 (jn (jn (gF c.e.2.1 16 (aF ((!decide ((c.e.2.1:Int)=2)),c.1,c.2.1,c.a,c.b,c.c,c.e,(F,c.m,c.r,(cM c.g.2)),c.j,c.p8,(N c.l c.m c.r))) (aF (aa,c.1,c.2.1,c.a,c.b,c.c,c.e,(F,c.m,c.r,(cM c.g.2)),c.j,c.p8,(N c.l c.m c.r)))) λq=>(aI q.1 (bz xi q.2.1.2 q.b.1 λA=>(aw (nB (A,q.j)) λD=>(aF (q.a,q.b,q.c,q.e,q.g,D.1,q.p8,q.l,(I q.s))))) (aF (q.a,q.b,q.c,q.e,q.g,q.j,q.p8,q.l,(I q.s))))) λz=>(bi z.2.1.1 i (Z ((z.1,z.g,z.j,(t3 z.n z.e)),z.c,J)) U))
abbrev u?:=C_×yc×h!
def SG (i:Int) (cp:g!->M (Int×fq×(θ)×(Y du)×(η)×(η)×R×(η)×Y η)) (D ev:R->Int) (k:Int->(C_×kM×(ν)×Int×ER×pI×(ν)×(η)×(η)×R×(η)×Y η)->M EQ) (x:u?):M EQ:=
 (aw (nV (x.1,x.2.1,x.a)) λz=>(aI (!z.2) (Z (((([]:Y i?),0,([]:θ),([]:Y du)),([]:η),([]:η),([]:Y v8)),(0,0,0,0,0,([]:η),([]:η)),aa)) (aw (pA (x.1.1,x.2.1.1,x.a,z.1.2.1,z.1.a,x.d)) λF=>(aI (!F.2.2) (Z (((([]:Y i?),0,([]:θ),([]:Y du)),([]:η),([]:η),([]:Y v8)),(0,0,0,0,0,([]:η),([]:η)),aa)) (aw (cp x.2.1) λA=>(bi x.a i (bz xi x.1.2 i λz4=>(bz rq z4.2 (D A.g) λz5=>(jn (α:=Int×C_×kM×(ν)×Int×ER×pI×(ν)×lz×(η)×(η)×R×(η)×Y η) (jn (α:=Bool×C_×kM×(ν)×Int×ER×pI×(ν)×lz×(η)×(η)×R×(η)×Y η) (bi z.1.2.1 1 (aF ((decide ((z.1.2.1:Int)=1)),x.1,F.1,(i,x.d),0,(0,0,0,0,0),(z.1.1,z.1.2.1,z.1.a,F.2.1,z.1.f),((D A.g),(ev A.g)),z5,A.f)) (bi z.1.2.1 16 (aF ((decide ((z.1.2.1:Int)=16)),x.1,F.1,(i,x.d),0,(0,0,0,0,0),(z.1.1,z.1.2.1,z.1.a,F.2.1,z.1.f),((D A.g),(ev A.g)),z5,A.f)) (aF ((decide ((z.1.2.1:Int)=2)),x.1,F.1,(i,x.d),0,(0,0,0,0,0),(z.1.1,z.1.2.1,z.1.a,F.2.1,z.1.f),((D A.g),(ev A.g)),z5,A.f)))) λc=>(aI c.1 (aF (c.j.1,c.2)) (bi z.1.2.1 3 (kQ aO c.l c.g.a λz8=>(aF ((aZ .i64 ((D A.g)+1)),c.2.1,c.a,c.b,c.c,c.e,(c.g.1,c.g.2.1,c.g.a,z8,c.g.f),c.k))) (bi z.1.2.1 23 (kQ aO c.m c.g.a λz9=>(aF ((aZ .i64 ((D A.g)+1)),c.2.1,c.a,c.b,c.c,c.e,(c.g.1,c.g.2.1,c.g.a,z9,c.g.f),c.k))) (bi z.1.2.1 4 (kQ aO c.q c.p8.a λN=>(ck (gr c.g.a (ah c.l)) (aF ((aZ .i64 ((D A.g)+1)),c.2.1,c.a,c.b,c.c,c.e,(c.g.1,c.g.2.1,c.g.a,N,c.g.f),c.j,c.p8,(cC c.l c.g.a N),c.s)))) (bi z.1.2.1 22 (kQ aO c.q c.p8.a λI=>(ck (gr c.g.a (ah c.m)) (aF ((aZ .i64 ((D A.g)+1)),c.2.1,c.a,c.b,c.c,c.e,(c.g.1,c.g.2.1,c.g.a,I,c.g.f),c.j,c.p8,c.l,(cC c.m c.g.a I),c.r)))) (bi z.1.2.1 5 (kQ aO c.q c.p8.2.1 λz12=>(bi z12 0 (aF (c.p8.a,c.2.1,c.a,c.b,c.c,c.e,(c.g.1,c.g.2.1,c.g.a,0,c.g.f),c.k)) (aF ((aZ .i64 ((D A.g)+1)),c.2.1,c.a,c.b,c.c,c.e,(c.g.1,c.g.2.1,c.g.a,1,c.g.f),c.k)))) (aF ((aZ .i64 ((D A.g)+1)),c.2))))))))) λx6=>(jn (α:=C_×kM×(ν)×Int×ER×pI×(ν)×(η)×(η)×R×(η)×Y η) (jn (bi x6.g.2.1 3 (aF (J,x6.2)) (aF ((decide ((x6.g.2.1:Int)=23)),x6.2))) λq=>(aI q.1 (ck (gr q.p8.2.1 (ah q.q)) (ck (gr q.p8.2.1 (ah q.w)) (aF (q.2.1,q.a,q.b,q.c,q.e,q.g,q.j,q.l,q.m,q.p,(cC q.q q.p8.2.1 q.g.b),(cC q.w q.p8.2.1 ([q.j.2])))))) (aF (q.2.1,q.a,q.b,q.c,q.e,q.g,q.j,q.o)))) λx13=>(k x6.1 x13))))) U))))))
def nA (x:g!):M (Int×fq×(θ)×(Y du)×(η)×(η)×(ν)×o!):=
 (aw (io x.1) λc=>(bY (bl (ah ([]:η)+ah x.2.1) 8) (bY (bl (ah ([]:η)+ah x.a) 8) (bS 0 (bc x.d) (bz eT x.d 0 λz=>(aw (cD z) λA=>(bS 1 (bc x.d) (bz eT x.d 1 λq=>(aw (cD q) λD=>U)) (Z (c.1,c.2.1,c.a,c.d,(([]:η)++x.2.1),(([]:η)++x.a),A))))) U))))
def gd (x:u?):M EQ:=
 SG 0 nA (λz=>z.1) (λz=>z.2) (KG 0 (λz R T=>(z.1,R,T,z.2)) (λw=>((w.1,w.2.1,w.2.2.1,w.2.2.2))) (λv t=>[t])) x
def nz (x:g!):M (Int×fq×(θ)×(Y du)×(η)×(η)×Ya29×o!):=
 (aw (io x.1) λq=>(bY (bl (ah ([]:η)+ah x.2.1) 8) (bY (bl (ah ([]:η)+ah x.a) 8) (bS 0 (bc x.d) (bz eT x.d 0 λF=>(aw (cD F) λz=>(bS 1 (bc x.d) (bz eT x.d 1 λD=>(aw (cD D) λc=>(bS 2 (bc x.d) (bz eT x.d 2 λA=>(aw (cD A) λI=>U)) (Z (q.1,q.2.1,q.a,q.d,(([]:η)++x.2.1),(([]:η)++x.a),(z.1.1,z.1.2,c.1.1,c.2.1,c.2.2,c.1.2),z.2))))) U))) U))))
def gA (x:u?):M EQ:=
 SG 0 nz (λz=>z.1) (λz=>z.2.1) (KG 0 (λz R T=>(z.1,R,T,z.2.1,z.2.2)) (λw=>((w.1,w.2.1,w.2.2.1,w.2.2.2.1),w.2.2.2.2)) (λv t=>[t,v.2])) x
def ny (x:g!):M (Int×fq×(θ)×(Y du)×(η)×(η)×(v8×Int×Int)×o!):=
 (aw (io x.1) λq=>(bY (bl (ah ([]:η)+ah x.2.1) 8) (bY (bl (ah ([]:η)+ah x.a) 8) (bS 0 (bc x.d) (bz eT x.d 0 λF=>(aw (cD F) λc=>(bS 1 (bc x.d) (bz eT x.d 1 λD=>(aw (cD D) λz=>(bS 2 (bc x.d) (bz eT x.d 2 λA=>(aw (cD A) λI=>U)) (Z (q.1,q.2.1,q.a,q.d,(([]:η)++x.2.1),(([]:η)++x.a),((c.1.1,c.2.1,c.2.2,c.1.2),z.1),z.2))))) U))) U))))
def f_ (x:u?):M EQ:=
 SG 1 ny (λz=>z.2.1) (λz=>z.2.2) (KG 1 (λz R T=>(z.1,z.2.1,R,T,z.2.2)) (λw=>(w.1,(w.2.1,w.2.2.1,w.2.2.2.1,w.2.2.2.2))) (λv t=>[v.1,t])) x
def nv (x:g!):M (Int×fq×(θ)×(Y du)×(η)×(η)×Ya27×o!):=
 (aw (io x.1) λz=>(bY (bl (ah ([]:η)+ah x.2.1) 8) (bY (bl (ah ([]:η)+ah x.a) 8) (bS 0 (bc x.d) (bz eT x.d 0 λN=>(aw (cD N) λA=>(bS 1 (bc x.d) (bz eT x.d 1 λI=>(aw (cD I) λq=>(bS 2 (bc x.d) (bz eT x.d 2 λF=>(aw (cD F) λc=>(bS 3 (bc x.d) (bz eT x.d 3 λD=>(aw (cD D) λy9=>U)) (Z (z.1,z.2.1,z.a,z.d,(([]:η)++x.2.1),(([]:η)++x.a),(A.1.1,A.1.2,(q.1.1,q.2.1,q.2.2,q.1.2),c.1.1,c.2.1,c.2.2,c.1.2),A.2))))) U))) U))) U))))
def jK (x:u?):M EQ:=
 SG 0 nv (λz=>z.1) (λz=>z.2.1) (KG 0 (λz R T=>(z.1,R,T,z.2.1,z.a,z.d)) (λw=>((w.1,w.2.1,w.2.2.1,w.2.2.2.1),w.2.2.2.2.1,w.2.2.2.2.2)) (λv t=>[t,v.2.1,v.2.2])) x
def nu (x:g!):M (Int×fq×(θ)×(Y du)×(η)×(η)×Ya28×o!):=
 (aw (io x.1) λz=>(bY (bl (ah ([]:η)+ah x.2.1) 8) (bY (bl (ah ([]:η)+ah x.a) 8) (bS 0 (bc x.d) (bz eT x.d 0 λN=>(aw (cD N) λq=>(bS 1 (bc x.d) (bz eT x.d 1 λI=>(aw (cD I) λA=>(bS 2 (bc x.d) (bz eT x.d 2 λF=>(aw (cD F) λc=>(bS 3 (bc x.d) (bz eT x.d 3 λD=>(aw (cD D) λy9=>U)) (Z (z.1,z.2.1,z.a,z.d,(([]:η)++x.2.1),(([]:η)++x.a),((q.1.1,q.2.1,q.2.2,q.1.2),A.1.1,A.1.2,c.1.1,c.2.1,c.2.2,c.1.2),A.2))))) U))) U))) U))))
def iB (x:u?):M EQ:=
 SG 1 nu (λz=>z.2.1) (λz=>z.a) (KG 1 (λz R T=>(z.1,z.2.1,R,T,z.a,z.d)) (λw=>(w.1,(w.2.1,w.2.2.1,w.2.2.2.1,w.2.2.2.2.1),w.2.2.2.2.2)) (λv t=>[v.1,t,v.2.2])) x
def nk (x:g!):M (Int×fq×(θ)×(Y du)×(η)×(η)×(v8×v8×Int×Int)×o!):=
 (aw (io x.1) λz=>(bY (bl (ah ([]:η)+ah x.2.1) 8) (bY (bl (ah ([]:η)+ah x.a) 8) (bS 0 (bc x.d) (bz eT x.d 0 λN=>(aw (cD N) λq=>(bS 1 (bc x.d) (bz eT x.d 1 λI=>(aw (cD I) λc=>(bS 2 (bc x.d) (bz eT x.d 2 λF=>(aw (cD F) λA=>(bS 3 (bc x.d) (bz eT x.d 3 λD=>(aw (cD D) λy9=>U)) (Z (z.1,z.2.1,z.a,z.d,(([]:η)++x.2.1),(([]:η)++x.a),((q.1.1,q.2.1,q.2.2,q.1.2),(c.1.1,c.2.1,c.2.2,c.1.2),A.1),A.2))))) U))) U))) U))))
def g_ (x:u?):M EQ:=
 SG 2 nk (λz=>z.a) (λz=>z.d) (KG 2 (λz R T=>(z.1,z.2.1,z.a,R,T,z.d)) (λw=>(w.1,w.2.1,(w.2.2.1,w.2.2.2.1,w.2.2.2.2.1,w.2.2.2.2.2))) (λv t=>[v.1,v.2.1,t])) x
def nj (x:g!):M (Int×fq×(θ)×(Y du)×(η)×(η)×Ya23×o!):=
 (aw (io x.1) λA=>(bY (bl (ah ([]:η)+ah x.2.1) 8) (bY (bl (ah ([]:η)+ah x.a) 8) (bS 0 (bc x.d) (bz eT x.d 0 λz2=>(aw (cD z2) λF=>(bS 1 (bc x.d) (bz eT x.d 1 λz4=>(aw (cD z4) λz=>(bS 2 (bc x.d) (bz eT x.d 2 λN=>(aw (cD N) λq=>(bS 3 (bc x.d) (bz eT x.d 3 λI=>(aw (cD I) λc=>(bS 4 (bc x.d) (bz eT x.d 4 λD=>(aw (cD D) λy11=>U)) (Z (A.1,A.2.1,A.a,A.d,(([]:η)++x.2.1),(([]:η)++x.a),(F.1.1,F.1.2,(z.1.1,z.2.1,z.2.2,z.1.2),(q.1.1,q.2.1,q.2.2,q.1.2),c.1.1,c.2.1,c.2.2,c.1.2),F.2))))) U))) U))) U))) U))))
def na (x:u?):M EQ:=
 SG 0 nj (λz=>z.1) (λz=>z.2.1) (KG 0 (λz R T=>(z.1,R,T,z.2.1,z.a,z.b,z.f)) (λw=>((w.1,w.2.1,w.2.2.1,w.2.2.2.1),w.2.2.2.2.1,w.2.2.2.2.2.1,w.2.2.2.2.2.2)) (λv t=>[t,v.2.1,v.2.2.1,v.2.2.2])) x
def nh (x:g!):M (Int×fq×(θ)×(Y du)×(η)×(η)×Ya24×o!):=
 (aw (io x.1) λA=>(bY (bl (ah ([]:η)+ah x.2.1) 8) (bY (bl (ah ([]:η)+ah x.a) 8) (bS 0 (bc x.d) (bz eT x.d 0 λz2=>(aw (cD z2) λz=>(bS 1 (bc x.d) (bz eT x.d 1 λz4=>(aw (cD z4) λF=>(bS 2 (bc x.d) (bz eT x.d 2 λN=>(aw (cD N) λq=>(bS 3 (bc x.d) (bz eT x.d 3 λI=>(aw (cD I) λc=>(bS 4 (bc x.d) (bz eT x.d 4 λD=>(aw (cD D) λy11=>U)) (Z (A.1,A.2.1,A.a,A.d,(([]:η)++x.2.1),(([]:η)++x.a),((z.1.1,z.2.1,z.2.2,z.1.2),F.1.1,F.1.2,(q.1.1,q.2.1,q.2.2,q.1.2),c.1.1,c.2.1,c.2.2,c.1.2),F.2))))) U))) U))) U))) U))))
def m_ (x:u?):M EQ:=
 SG 1 nh (λz=>z.2.1) (λz=>z.a) (KG 1 (λz R T=>(z.1,z.2.1,R,T,z.a,z.b,z.f)) (λw=>(w.1,(w.2.1,w.2.2.1,w.2.2.2.1,w.2.2.2.2.1),w.2.2.2.2.2.1,w.2.2.2.2.2.2)) (λv t=>[v.1,t,v.2.2.1,v.2.2.2])) x
def ng (x:g!):M (Int×fq×(θ)×(Y du)×(η)×(η)×Ya25×o!):=
 (aw (io x.1) λA=>(bY (bl (ah ([]:η)+ah x.2.1) 8) (bY (bl (ah ([]:η)+ah x.a) 8) (bS 0 (bc x.d) (bz eT x.d 0 λz2=>(aw (cD z2) λz=>(bS 1 (bc x.d) (bz eT x.d 1 λz4=>(aw (cD z4) λq=>(bS 2 (bc x.d) (bz eT x.d 2 λN=>(aw (cD N) λF=>(bS 3 (bc x.d) (bz eT x.d 3 λI=>(aw (cD I) λc=>(bS 4 (bc x.d) (bz eT x.d 4 λD=>(aw (cD D) λy11=>U)) (Z (A.1,A.2.1,A.a,A.d,(([]:η)++x.2.1),(([]:η)++x.a),((z.1.1,z.2.1,z.2.2,z.1.2),(q.1.1,q.2.1,q.2.2,q.1.2),F.1.1,F.1.2,c.1.1,c.2.1,c.2.2,c.1.2),F.2))))) U))) U))) U))) U))))
def lF (x:u?):M EQ:=
 SG 2 ng (λz=>z.a) (λz=>z.b) (KG 2 (λz R T=>(z.1,z.2.1,z.a,R,T,z.b,z.f)) (λw=>(w.1,w.2.1,(w.2.2.1,w.2.2.2.1,w.2.2.2.2.1,w.2.2.2.2.2.1),w.2.2.2.2.2.2)) (λv t=>[v.1,v.2.1,t,v.2.2.2])) x
def nc (x:g!):M (Int×fq×(θ)×(Y du)×(η)×(η)×Ya42×o!):=
 (aw (io x.1) λA=>(bY (bl (ah ([]:η)+ah x.2.1) 8) (bY (bl (ah ([]:η)+ah x.a) 8) (bS 0 (bc x.d) (bz eT x.d 0 λz2=>(aw (cD z2) λz=>(bS 1 (bc x.d) (bz eT x.d 1 λz4=>(aw (cD z4) λq=>(bS 2 (bc x.d) (bz eT x.d 2 λN=>(aw (cD N) λc=>(bS 3 (bc x.d) (bz eT x.d 3 λI=>(aw (cD I) λF=>(bS 4 (bc x.d) (bz eT x.d 4 λD=>(aw (cD D) λy11=>U)) (Z (A.1,A.2.1,A.a,A.d,(([]:η)++x.2.1),(([]:η)++x.a),((z.1.1,z.2.1,z.2.2,z.1.2),(q.1.1,q.2.1,q.2.2,q.1.2),(c.1.1,c.2.1,c.2.2,c.1.2),F.1),F.2))))) U))) U))) U))) U))))
def kx (x:u?):M EQ:=
 SG 3 nc (λz=>z.b) (λz=>z.f) (KG 3 (λz R T=>(z.1,z.2.1,z.a,z.b,R,T,z.f)) (λw=>(w.1,w.2.1,w.2.2.1,(w.2.2.2.1,w.2.2.2.2.1,w.2.2.2.2.2.1,w.2.2.2.2.2.2))) (λv t=>[v.1,v.2.1,v.2.2.1,t])) x
def Bc (x:u?):M EQ:=orE (na x) (orE (m_ x) (orE (lF x) (orE (kx x) (orE (jK x) (orE (iB x) (orE (g_ x) (orE (gA x) (orE (f_ x) (gd x)))))))))
def wF (x:C_×yc×Y ν):M ((Y pI)×g!):=
 (iter (σ:=Int×(Y pI)×C_×yc×Int) (λx1=>(jn (bS x1.1 (bc x.2.2) (aF ((fV (bc x1.2.1) 400),x1.2)) (aF (aa,x1.2))) λc=>(aI c.1 (jn (α:=(Y pI)×C_×yc×Int) (bz gZ x.2.2 x1.1 λz=>(aw (Bc (c.a,c.b,z)) λq=>(aI q.2.2 (bY (bl (ah c.2.1+ah ([q.2.1])) 88) (aF ((c.2.1++([q.2.1])),c.a,q.1,c.f))) (aF c.2)))) λA=>(cW ((cM x1.1),A))) (aF (c.2.1,c.b))))) (0,([]:Y pI),x.1,x.2.1,0))
def zP (x:C_×Y ν):M ((ji×Y pI)×g!):=
 (aw (pB x.1) λz=>(aI (!z) (Z (((([]:Y afu),([]:Y x!),([]:Y oF),([]:Y ζ),([]:Y ζ),([]:Y π)),([]:Y pI)),(([]:Y i?),0,([]:θ),([]:Y du)),([]:η),([]:η),([]:Y v8))) (aw (uv x.1) λq=>(aw (wF (x.1,q,x.2)) λc=>(Z ((x.1.1,c.1),c.2))))))
abbrev K!:=Int×q?
def bk (x:K!):M K!:=
 (jn (jO (bc x.2.1) x.2.2 (aF (J,x.2)) (aF ((fV x.1 1),x.2))) λx1=>(aI x1.1 (Z (0,x1.2)) (lt (cM x1.2.2) λq=>(bz (.int .u8) x1.2.1 (aZ .i64 (q-1)) λc=>(bY (!decide ((x.1:Int)=0)) (Z ((fR (aZ .i64 c) x.1),x1.2.1,(cM x1.2.2))))))))
def rQ (x:Int):M (Xp):=
 (Z (ey (1,x,[],([]:Y Xp))))
def pC (x:ζ):M (Xp):=
 (Z (ey (2,0,x,([]:Y Xp))))
def nZ (x:Int×Xp×Xp):M (Xp):=
 (Z (ey (x.1,0,[],[ey ((Xp.op x.2.1),(Xp.n x.2.1),(Xp.name x.2.1),(Xp.l x.2.1)),ey ((Xp.op x.2.2),(Xp.n x.2.2),(Xp.name x.2.2),(Xp.l x.2.2))])))
def jE (x:ζ×Xp):M (Sx):=
 (Z (oY (1,0,x.1,[],([]:Y Xp),ey ((Xp.op x.2),(Xp.n x.2),(Xp.name x.2),(Xp.l x.2)),([]:Y Sx),([]:Y Sx))))
def sF (x:Unit):M xg:=
 (Z ([(1,0,[120],0,0,[]),(1,0,[121],0,1,[]),(2,0,[118],0,0,[]),(1,0,[113],2,0,[]),(3,0,[109],0,0,[]),(3,0,[110],0,0,[]),(4,0,[114],0,0,[]),(5,0,[99],0,0,[109]),(6,0,[102],0,0,[])]))
def oX (x:η):M (Y ν):=
 (iter (σ:=Int×Y ν) (λx1=>(bS x1.1 (bc x) (bz (.int .u8) x x1.1 λq=>(bz (.int .u8) x x1.1 λc=>(bY (bl (ah x1.2+ah ([((fR (aZ .i64 q) 4),(aZ .i64 ((fR (aZ .i64 (Int.tdiv (aZ .i64 c) 4)) 5)-1)))])) 16) (cW ((cM x1.1),(x1.2++([((fR (aZ .i64 q) 4),(aZ .i64 ((fR (aZ .i64 (Int.tdiv (aZ .i64 c) 4)) 5)-1)))]))))))) (aF x1.2))) (0,([]:Y ν)))
def ol (rmade_maker_expr:aaw->M ajs) (x:X!):M ajs:=
 (aw (bk (10,x.a)) λF=>(jn (α:=Bool×C'×fO×U3×(Int×Int×ζ)×Y ζ) (bS F.1 2 (aF (J,x.2.1,F.2,x.d,(0,0,[]),[[97],[98],[120],[121],[118],[120],[121]])) (bi x.1 0 (aF ((cZ 7 F.1),x.2.1,F.2,x.d,(0,0,[]),[[97],[98],[120],[121],[118],[120],[121]])) (aF (aa,x.2.1,F.2,x.d,(0,0,[]),[[97],[98],[120],[121],[118],[120],[121]])))) λc=>(aI c.1 (aw (bk (4,c.a)) λy3=>(aw (rQ y3.1) λN=>(Z (ey ((Xp.op N),(Xp.n N),(Xp.name N),(Xp.l N)),c.2.1,y3.2,c.b)))) (bS F.1 7 (aw (bk ((bc c.h),c.a)) λy5=>(kQ (.str) c.h y5.1 λz6=>(aw (pC z6) λI=>(Z (ey ((Xp.op I),(Xp.n I),(Xp.name I),(Xp.l I)),c.2.1,y5.2,c.b))))) (bi F.1 7 (aw (rmade_maker_expr (0,c.2.1,c.a,c.b)) λD=>(bY (((c.b.1==D.b)&&J)&&ay (ah c.b.2) (ah D.f)&&J) (Z (ey (3,0,[113],[ey ((Xp.op D.1),(Xp.n D.1),(Xp.name D.1),(Xp.l D.1))]),D.2)))) (aw (bk ((bC (ah ([6,7,8,11,13,17]))),c.a)) λy9=>(kQ aO ([6,7,8,11,13,17]) y9.1 λz10=>(aw (rmade_maker_expr ((aZ .i64 (x.1-1)),c.2.1,y9.2,c.b)) λq=>(bY (((c.b.1==q.b)&&J)&&ay (ah c.b.2) (ah q.f)&&J) (aw (rmade_maker_expr ((aZ .i64 (x.1-1)),q.2)) λA=>(bY (((q.b==A.b)&&J)&&ay (ah q.f) (ah A.f)&&J) (aw (nZ (z10,q.1,A.1)) λz=>(Z (ey ((Xp.op z),(Xp.n z),(Xp.name z),(Xp.l z)),A.2))))))))))))))
def iu:Nat->aaw->M ajs
 |0,_=>U
 |n+1,x=>ol (iu n) x
def za (n:Nat) (x:X!):iu (n+1) x=ol (iu n) x:=rfl
def fc (x:X!):M ajs:=iu fI x
def eM (x:ζ×j!):M (Bool×j!):=
 (aw (kB (x.f,x.1)) λc=>(Z ((cZ 0 c),x.2)))
def mE (rmade_maker_stmts:aju->M aav) (rmade_maker_stmt:aaw->M afw) (rmade_maker_block:ajt->M afx) (x:ν×j!):M aav:=
 (iter (σ:=Int×C'×fO×(Y Sx)×Bool×Y ζ) (λx1=>(jn (bS x1.1 x.1.2 (bi x1.1 0 (aF (J,x1.2)) (aF ((fV 0 x1.2.1.2.1),x1.2))) (aF (aa,x1.2))) λc=>(aI c.1 (aw (rmade_maker_stmt (x.1.1,c.2.1,c.a,c.f)) λq=>(bY (((c.c==c.c)&&J)&&ay (ah c.h) (ah c.h)&&J) (bY (bl (ah c.b+ah ([eu q.1])) 176) (cW ((cM x1.1),q.2.1,q.a,(c.b++([eu q.1])),q.d))))) (aF (c.2.1,c.a,c.f,c.b))))) (0,x.2.1,x.a,([]:Y Sx),x.d))
abbrev n?:=Bool×C'×fO×XR×Bool×Y ζ
def oh (rmade_maker_stmts:aju->M aav) (rmade_maker_stmt:aaw->M afw) (rmade_maker_block:ajt->M afx) (x:X!):M afw:=
 (aw (bk (18,x.a)) λy1=>(jn (α:=n?) (bS 0 x.1 (lt (aZ .i64 (x.2.1.2.1-1)) λz3=>(bS 0 z3 (aF ((!x.2.1.b),(x.2.1.1,(aZ .i64 (x.2.1.2.1-1)),x.2.1.2.2),y1.2,(0,0,[],[],0,0,[]),x.d)) (aF (aa,(x.2.1.1,(aZ .i64 (x.2.1.2.1-1)),x.2.1.2.2),y1.2,(0,0,[],[],0,0,[]),x.d)))) (aF (aa,(x.2.1.1,(aZ .i64 (x.2.1.2.1-1)),x.2.1.2.2),y1.2,(0,0,[],[],0,0,[]),x.d))) λN=>(bS y1.1 4 (kQ (.str) ([[120],[121],[120],[118]]) y1.1 λz4=>(aw (fc (1,N.2.1,N.a,N.f)) λy5=>(bY (((N.c==y5.b)&&J)&&ay (ah N.h) (ah y5.f)&&J) (aw (jE (z4,y5.1)) λy6=>(Z (eu y6,y5.2)))))) (bi y1.1 4 (aw (bk (2,N.a)) λy7=>(kQ (.str) ([[97],[98]]) y7.1 λz8=>(aw (fc (1,N.2.1,y7.2,N.f)) λy9=>(bY (((N.c==y9.b)&&J)&&ay (ah N.h) (ah y9.f)&&J) (aw (jE (z8,y9.1)) λy10=>(Z (eu y10,y9.2))))))) (bi y1.1 5 (aw (fc (0,N.2.1,N.a,N.f)) λy11=>(bY (((N.c==y11.b)&&J)&&ay (ah N.h) (ah y11.f)&&J) (aw (fc (1,y11.2)) λy12=>(bY (((y11.b==y12.b)&&J)&&ay (ah y11.f) (ah y12.f)&&J) (Z (oY (1,0,[113],[],[ey ((Xp.op y11.1),(Xp.n y11.1),(Xp.name y11.1),(Xp.l y11.1))],ey ((Xp.op y12.1),(Xp.n y12.1),(Xp.name y12.1),(Xp.l y12.1)),([]:Y Sx),([]:Y Sx)),y12.2)))))) (jn (bi y1.1 6 (aF ((fV 0 x.1),N.2)) (aF (aa,N.2))) λx13=>(aI x13.1 (aw (fc (1,x13.2.1,x13.a,x13.f)) λA=>(bY (((x13.c==A.b)&&J)&&ay (ah x13.h) (ah A.f)&&J) (aw (rmade_maker_stmts (((aZ .i64 (x.1-1)),1),A.2)) λy15=>(bY (((A.b==A.b)&&J)&&ay (ah A.f) (ah A.f)&&J) (jn (α:=C'×fO×XR×(Int×Int×(ζ)×(ζ)×Int×Int×(ζ)×Y Xp)×U3×(Y Sx)×Y Sx) (aw (bk (2,y15.2.1)) λy17=>(bi y17.1 1 (aw (rmade_maker_stmts (((aZ .i64 (x.1-1)),1),y15.1,y17.2,y15.a)) λy18=>(bY (((y15.a.1==y15.a.1)&&J)&&ay (ah y15.a.2) (ah y15.a.2)&&J) (aF (y18.1,y18.2.1,x13.b,(2,0,[],[],(Xp.op A.1),(Xp.n A.1),(Xp.name A.1),(Xp.l A.1)),y18.a,y15.d,y18.d)))) (aF (y15.1,y17.2,x13.b,(2,0,[],[],(Xp.op A.1),(Xp.n A.1),(Xp.name A.1),(Xp.l A.1)),y15.a,y15.d,([]:Y Sx))))) λx16=>(Z (oY (x16.b.1,x16.b.2.1,x16.b.a,x16.b.b,([]:Y Xp),ey x16.b.f,x16.h),x16.1,x16.2.1,x16.c))))))) (jn (bi y1.1 7 (aF ((fV 0 x.1),x13.2)) (aF (aa,x13.2))) λc=>(aI c.1 (aw (pC ([98])) λy20=>(aw (rQ 2) λy21=>(aw (nZ (13,y20,y21)) λy22=>(aw (rmade_maker_stmts (((aZ .i64 (x.1-1)),1),(c.2.1.1,c.2.1.2.1,c.2.1.a,c.2.1.b,c.2.1.c,J),c.a,c.f)) λy23=>(bY (((c.c==c.c)&&J)&&ay (ah c.h) (ah c.h)&&J) (aw (pC ([98])) λy24=>(aw (rQ 1) λy25=>(aw (nZ (6,y24,y25)) λy26=>(aw (jE ([98],y26)) λy27=>(bY (bl (ah y23.d+ah ([eu y27])) 176) (Z (oY (3,0,[],[],([]:Y Xp),ey ((Xp.op y22),(Xp.n y22),(Xp.name y22),(Xp.l y22)),(y23.d++([eu y27])),([]:Y Sx)),(y23.1.1,y23.1.2.1,y23.1.a,y23.1.b,y23.1.c,c.2.1.h),y23.2.1,y23.a)))))))))))) (jn (α:=n?) (bi y1.1 8 (aI N.1 (kQ (.str) ([[109],[110]]) (aZ .i64 (y1.1-8)) λz29=>(aw (eM (z29,c.2.1,c.a,c.f)) λy30=>(bY (((c.c==y30.b)&&J)&&ay (ah c.h) (ah y30.f)&&J) (aF ((!y30.1),y30.2.1,y30.a,c.b,y30.d))))) (aF (aa,c.2))) (bi y1.1 9 (aI N.1 (kQ (.str) ([[109],[110]]) (aZ .i64 (y1.1-8)) λz31=>(aw (eM (z31,c.2.1,c.a,c.f)) λy32=>(bY (((c.c==y32.b)&&J)&&ay (ah c.h) (ah y32.f)&&J) (aF ((!y32.1),y32.2.1,y32.a,c.b,y32.d))))) (aF (aa,c.2))) (aF (aa,c.2)))) λq=>(aI q.1 (kQ (.str) ([[109],[110]]) (aZ .i64 (y1.1-8)) λz33=>(aw (rmade_maker_block ((z33,(aZ .i64 (x.1-1))),q.2.1,q.a,q.f)) λy34=>(bY (((q.c==q.c)&&J)&&ay (ah q.h) (ah q.h)&&J) (Z (oY (4,0,z33,[],([]:Y Xp),ey (0,0,[],([]:Y Xp)),y34.1,([]:Y Sx)),y34.2))))) (jn (α:=n?) (bi y1.1 10 (aI N.1 (aw (eM ([114],q.2.1,q.a,q.f)) λy36=>(bY (((q.c==y36.b)&&J)&&ay (ah q.h) (ah y36.f)&&J) (aF ((!y36.1),y36.2.1,y36.a,q.b,y36.d)))) (aF (aa,q.2))) (bi y1.1 11 (aI N.1 (aw (eM ([114],q.2.1,q.a,q.f)) λy37=>(bY (((q.c==y37.b)&&J)&&ay (ah q.h) (ah y37.f)&&J) (aF ((!y37.1),y37.2.1,y37.a,q.b,y37.d)))) (aF (aa,q.2))) (aF (aa,q.2)))) λx35=>(aI x35.1 (aw (rmade_maker_block (([114],(aZ .i64 (x.1-1))),x35.2.1,x35.a,x35.f)) λy38=>(bY (((x35.c==x35.c)&&J)&&ay (ah x35.h) (ah x35.h)&&J) (Z (oY ((aZ .i64 ((aZ .i64 (y1.1-10))+5)),0,[114],[],([]:Y Xp),ey (0,0,[],([]:Y Xp)),y38.1,([]:Y Sx)),y38.2)))) (jn (bi y1.1 12 (aF (N.1,x35.2)) (aF (aa,x35.2))) λD=>(aI D.1 (aw (bk (2,D.a)) λy40=>(aw (rmade_maker_stmts ((0,(aZ .i64 (1+y40.1))),(D.2.1.1,D.2.1.2.1,D.2.1.a,J,D.2.1.f),y40.2,D.f)) λy41=>(bY (((D.c==D.c)&&J)&&ay (ah D.h) (ah D.h)&&J) (Z (oY (7,0,[],[],([]:Y Xp),ey (0,0,[],([]:Y Xp)),y41.d,([]:Y Sx)),(y41.1.1,y41.1.2.1,y41.1.a,aa,y41.1.f),y41.2.1,y41.a))))) (jn (bi y1.1 13 (aI N.1 (aF ((!D.2.1.c),D.2)) (aF (aa,D.2))) (aF (aa,D.2))) λz=>(aI z.1 (aw (rmade_maker_stmts (((aZ .i64 (x.1-1)),2),(z.2.1.1,z.2.1.2.1,z.2.1.a,z.2.1.b,J,z.2.1.h),z.a,z.f)) λy43=>(bY (((z.c==z.c)&&J)&&ay (ah z.h) (ah z.h)&&J) (Z (oY (8,0,[],[],([]:Y Xp),ey (0,0,[],([]:Y Xp)),y43.d,([]:Y Sx)),(y43.1.1,y43.1.2.1,y43.1.a,y43.1.b,aa,y43.1.h),y43.2.1,y43.a)))) (jn (α:=n?) (bi y1.1 14 (aI N.1 (aI (!z.2.1.c) (aw (eM ([109],z.2.1,z.a,z.f)) λy45=>(bY (((z.c==y45.b)&&J)&&ay (ah z.h) (ah y45.f)&&J) (aF ((!y45.1),y45.2.1,y45.a,z.b,y45.d)))) (aF (aa,z.2))) (aF (aa,z.2))) (aF (aa,z.2))) λI=>(aI I.1 (aw (pC ([120])) λy46=>(aw (jE ([97],y46)) λy47=>(Z (oY (4,0,[109],[],([]:Y Xp),ey (0,0,[],([]:Y Xp)),[oY (9,0,[99],[],([]:Y Xp),ey (0,0,[],([]:Y Xp)),([]:Y Sx),([]:Y Sx)),eu y47],([]:Y Sx)),I.2.1,I.a,I.f)))) (jn (α:=n?) (bi y1.1 15 (aI N.1 (aw (eM ([109],I.2.1,I.a,I.f)) λy49=>(bY (((I.c==y49.b)&&J)&&ay (ah I.h) (ah y49.f)&&J) (aF ((!y49.1),y49.2.1,y49.a,I.b,y49.d)))) (aF (aa,I.2))) (aF (aa,I.2))) λx48=>(aI x48.1 (aw (bk (2,x48.a)) λy50=>(Z (oY (4,0,[109],[],([]:Y Xp),ey (0,0,[],([]:Y Xp)),[oY ((aZ .i64 (10+y50.1)),0,[99],[],([]:Y Xp),ey (0,0,[],([]:Y Xp)),([]:Y Sx),([]:Y Sx))],([]:Y Sx)),x48.2.1,y50.2,x48.f))) (jn (bi y1.1 16 (aI (!x48.2.1.b) (aI (!x48.2.1.h) (aF ((!x48.2.1.a),x48.2)) (aF (aa,x48.2))) (aF (aa,x48.2))) (aF (aa,x48.2))) λF=>(aI F.1 (aw (fc (1,(F.2.1.1,F.2.1.2.1,J,F.2.1.d),F.a,F.f)) λy52=>(bY (((F.c==y52.b)&&J)&&ay (ah F.h) (ah y52.f)&&J) (Z (oY (14,0,[102],[],([]:Y Xp),ey ((Xp.op y52.1),(Xp.n y52.1),(Xp.name y52.1),(Xp.l y52.1)),([]:Y Sx),([]:Y Sx)),y52.2)))) (jn (α:=n?) (bi y1.1 17 (aI (!F.2.1.b) (aw (bk (2,F.a)) λy54=>(aF ((decide ((y54.1:Int)=1)),F.2.1,y54.2,F.d))) (aF (aa,F.2))) (aF (aa,F.2))) λx53=>(aI x53.1 (Z (oY (15,0,[97],[102],([]:Y Xp),ey (0,0,[],([]:Y Xp)),([]:Y Sx),([]:Y Sx)),x53.2.1,x53.a,x53.f)) (aw (fc (1,x53.2.1,x53.a,x53.f)) λy55=>(bY (((x53.c==y55.b)&&J)&&ay (ah x53.h) (ah y55.f)&&J) (aw (jE ([120],y55.1)) λy56=>(Z (eu y56,y55.2))))))))))))))))))))))))))))))
def mF (rmade_maker_stmts:aju->M aav) (rmade_maker_stmt:aaw->M afw) (rmade_maker_block:ajt->M afx) (x:oF×j!):M afx:=
 (bY (bl (ah x.f+ah ([x.1.1])) 16) (aw (bk (2,x.a)) λq=>(aw (rmade_maker_stmts ((x.1.2,(aZ .i64 (1+q.1))),x.2.1,q.2,x.b,(x.f++([x.1.1])))) λc=>(bY (((x.b==x.b)&&J)&&ay (ah (x.f++([x.1.1]))) (ah (x.f++([x.1.1])))&&J) (bY (cZ 0 (aZ .i64 ((bc c.a.2)-1))&&fV (aZ .i64 ((bc c.a.2)-1)) (ah c.a.2)) (Z (c.d,c.1,c.2.1,aa,(ca (aS (aZ .i64 ((bc c.a.2)-1))) c.a.2))))))))
mutual
def dU:Nat->aju->M aav
 |0,_=>U
 |n+1,x=>mE (dU n) (eJ n) (er n) x
def eJ:Nat->aaw->M afw
 |0,_=>U
 |n+1,x=>oh (dU n) (eJ n) (er n) x
def er:Nat->ajt->M afx
 |0,_=>U
 |n+1,x=>mF (dU n) (eJ n) (er n) x
end
def qQ (x:ν×j!):M aav:=dU fI x
abbrev q!:=C'×xg×e_×oF×fO×U3×(Y xf)×e_×Y Sx
def oW (x:η):M y?:=
 (aw (sF ()) λy1=>(aw (bk (3,x,0)) λy2=>(iter (σ:=Int×C'×xg×e_×fO×U3×Y xf) (λz=>(bS z.1 (aZ .i64 (2+y2.1)) (kQ (.str) z.b z.1 λz4=>(jn (α:=q!) (bi z.1 0 (iter (σ:=Int×q!) (λD=>(bS D.1 (aZ .i64 (2+y2.1)) (kQ (.str) D.b D.1 λz7=>(bY (bl (ah D.o+ah ([oY (12,0,z7,[],([]:Y Xp),ey (0,0,[],([]:Y Xp)),([]:Y Sx),([]:Y Sx))])) 176) (cW ((cM D.1),D.2.1,D.a,D.b,D.c,D.e,D.g,D.j,D.p8,(D.o++([oY (12,0,z7,[],([]:Y Xp),ey (0,0,[],([]:Y Xp)),([]:Y Sx),([]:Y Sx))])))))) (aF (bV D.2)))) (1,(z.1,z.2.1.2),z.a,z.b,(z4,0),z.c,z.e,z.i,[[97],[98]],([]:Y Sx))) (aF ((z.1,z.2.1.2),z.a,z.b,(z4,0),z.c,z.e,z.i,[[97],[98]],([]:Y Sx)))) λA=>(aw (bk (3,A.c)) λy8=>(aw (qQ ((2,(aZ .i64 (1+y8.1))),A.1,y8.2,A.e)) λF=>(bY (((A.e.1==A.e.1)&&J)&&ay (ah A.e.2) (ah A.e.2)&&J) (bY (bl (ah A.n+ah F.d) 176) (jn (α:=q!) (jn (α:=Bool×q!) (bi z.1 0 (aw (bk (3,F.2.1)) λN=>(aF ((decide ((N.1:Int)=2)),F.1,A.2.1,A.a,A.b,N.2,F.a,A.g,A.j,(A.n++F.d)))) (aF (aa,F.1,A.2.1,A.a,A.b,F.2.1,F.a,A.g,A.j,(A.n++F.d)))) λc=>(aI c.1 (kQ (.str) c.b 1 λI=>(bY (bl (ah c.o+ah ([oY (13,0,I,[],([]:Y Xp),ey (0,0,[],([]:Y Xp)),([]:Y Sx),([]:Y Sx))])) 176) (aF (c.2.1,c.a,c.b,c.c,c.e,c.g,c.j,c.p8,(c.o++([oY (13,0,I,[],([]:Y Xp),ey (0,0,[],([]:Y Xp)),([]:Y Sx),([]:Y Sx))])))))) (aF c.2))) λq=>(bY (bl (ah q.g+ah ([(q.b.1,q.b.2,q.k)])) 72) (cW ((cM z.1),q.1,q.2.1,q.a,q.c,q.e,(q.g++([(q.b.1,q.b.2,q.k)])))))))))))) (aw (aw (kA (z.a,z.i)) λy14=>(gF y14.1 0 (aw (sF ()) λy15=>(aw (rQ 1) λy16=>(aw (jE ([120],y16)) λy17=>(Z (y15,[([109,97,105,110],0,[[97],[98]],[eu y17])]))))) (Z (z.a,z.i)))) λr=>Z (bV r)))) (0,(0,20,aa,aa,aa,aa),y1,[[109,97,105,110],[116,49],[116,50],[116,51]],y2.2,(J,([]:Y ζ)),([]:Y xf)))))
def xC (x:η):M C_:=
 (aw (oW x) λq=>(aw (qM q) λc=>(Z c.1)))
def sG (x:X?):M (ji×Y pI):=
 (aw (xC x.1) λz=>(aw (oX x.2) λq=>(aw (zP (z,q)) λc=>(Z c.1))))
def lP (x:Unit):M ji:=
 (iter (σ:=M?) (λx1=>(bS x1.1 (bC (ah ([[109,97,105,110],[116,49],[116,50],[116,51]]))) (iter (σ:=M?) (λc=>(bS c.1 6 (bY (bl (ah c.i+ah ([(x1.1,c.1,(aZ .i64 ((aZ .i64 ((aZ .i64 (10*x1.1))+c.1))+1)))])) 24) (cW ((cM c.1),c.2.1,c.a,c.b,c.c,c.e,(c.i++([(x1.1,c.1,(aZ .i64 ((aZ .i64 ((aZ .i64 (10*x1.1))+c.1))+1)))]))))) (aF (kS ((cM x1.1),c.2))))) (0,x1.2)) (aF x1.2))) (0,[([120],0,0,aa,0),([121],0,0,aa,1),([118],0,0,J,0),([113],0,2,aa,0),([113],1,2,aa,0)],[([109],aa),([110],aa),([114],J)],[([99],0)],[[102]],[[109,97,105,110],[116,49],[116,50],[116,51]],([]:Y π)))
def mZ (x:N?):M η:=
 (iter (σ:=i?) (λx1=>(bS x1.1 (bc x.1.d) (jn (α:=η) (bz fg x.1.d x1.1 λc=>(bi c.1 3 (bY (bl (ah x1.2+ah ([x1.1])) 8) (aF (x1.2++([x1.1])))) (aF x1.2))) λq=>(cW ((cM x1.1),q))) (aF x1.2))) (0,([]:η)))
def tP (x:Unit):M η:=
 (Z ([3,3,3,3,3,4,4,4,4,4,5,5,5,6,6,6,7,7,7,8,9,10,11,12,13,14,14,15,16,16,17,17,18,18,19,20,1,1,2,21,22,23,23]))
def oQ (x:ν×q?):M K!:=
 (jn (bi x.1.1 3 (aF ((decide ((x.1.1:Int)=3)),x.2)) (aF ((decide ((x.1.1:Int)=4)),x.2))) λx1=>(aI x1.1 (aw (bk (8,x1.2)) λF=>(kQ aO ([0,0,0,1,1,2,3,4]) F.1 λI=>(Z (I,F.2)))) (jn (bi x.1.1 6 (aF ((decide ((x.1.1:Int)=6)),x1.2)) (aF ((decide ((x.1.1:Int)=7)),x1.2))) λq=>(aI q.1 (aw (bk (2,q.2)) λN=>(Z N)) (jn (bi x.1.1 8 (aF ((decide ((x.1.1:Int)=8)),q.2)) (bi x.1.1 9 (aF ((decide ((x.1.1:Int)=9)),q.2)) (bi x.1.1 10 (aF ((decide ((x.1.1:Int)=10)),q.2)) (aF ((decide ((x.1.1:Int)=11)),q.2))))) λc=>(aI c.1 (Z (2,c.2)) (jn (bi x.1.1 16 (aF ((decide ((x.1.1:Int)=16)),c.2)) (bi x.1.1 17 (aF ((decide ((x.1.1:Int)=17)),c.2)) (bi x.1.1 18 (aF ((decide ((x.1.1:Int)=18)),c.2)) (bi x.1.1 19 (aF ((decide ((x.1.1:Int)=19)),c.2)) (bi x.1.1 22 (aF ((decide ((x.1.1:Int)=22)),c.2)) (aF ((decide ((x.1.1:Int)=23)),c.2))))))) λz=>(aI z.1 (Z (0,z.2)) (jn (bi x.1.1 20 (aF ((decide ((x.1.1:Int)=20)),z.2)) (aF ((decide ((x.1.1:Int)=21)),z.2))) λA=>(aI A.1 (aw (bk (3,A.2)) λD=>(Z ((fR (aZ .i64 ((cM x.1.2)+D.1)) 4),D.2))) (Z ((-1),A.2))))))))))))
def qE (x:(iW×Int×Int)×q?):M K!:=
 (bi x.1.2.1 3 (bz aO x.1.1.2.1 x.1.2.2 λF=>(Z (F,x.2))) (bi x.1.2.1 23 (bz aO x.1.1.a 0 λD=>(Z (D,x.2))) (jn (bi x.1.2.1 4 (aF ((decide ((x.1.2.1:Int)=4)),x.2,x.1.1)) (aF ((decide ((x.1.2.1:Int)=22)),x.2,x.1.1))) λc=>(aI c.1 (aw (bk (3,c.2.1)) λy4=>(Z y4)) (bi x.1.2.1 5 (aw (bk (2,c.2.1)) λN=>(Z N)) (bi x.1.2.1 18 (aw (mZ c.2.2) λq=>(bS 0 (bc q) (aw (bk ((bc q),c.2.1)) λz=>(bz aO q z.1 λA=>(Z (A,z.2)))) (Z ((-1),c.2.1)))) (bi x.1.2.1 19 (aw (mZ c.2.2) λI=>(Z ((bc I),c.2.1))) (Z (0,c.2.1)))))))))
def g9 (x:fO×η):M (η×fO×η):=
 (iter (σ:=Int×fO×I?) (λx1=>(bS x1.1 (bc x.2) (jn (α:=fO×I?) (kQ aO x1.a x1.1 λq=>(jn (α:=Bool×fO×I?) (jO (bc x1.a) (aZ .i64 (x1.1+3)) (aw (bk (2,x1.2.1)) λz=>(aF ((decide ((z.1:Int)=1)),z.2,x1.2.2))) (aF (aa,x1.2))) λc=>(aI c.1 (bY (bl (ah c.d+ah ([q])) 8) (aF (c.2.1,c.a,(c.d++([q]))))) (aF c.2)))) λA=>(cW ((cM x1.1),A))) (aF (x1.d,x1.2.1,x1.a)))) (0,x.1,x.2,([]:η)))
abbrev b?:=Int×Int×Int×Int×Int×η
abbrev E!:=fO×(η)×(η)×(η)×(η)×iW×ji×ER×Int×s?
def qF (x:(iW×uV×ry×(Y oF)×e_×e_×Y π)×fO×(η)×b!):M (pI×fO×(η)×b!):=
 (aw (bk (4,x.2.1)) λA=>(aw (tP ()) λy2=>(aw (bk ((bc y2),A.2)) λy3=>(bz aO y2 y3.1 λz4=>(aw (bk (6,y3.2)) λy5=>(jn (α:=E!) (jn (α:=Bool×E!) (bi z4 1 (aF (J,y5.2,x.a,x.b,x.c,x.h,x.1.1,x.1.2,(0,0,0,0,0),A.1,z4,0,0,(aZ .i64 ((aZ .i64 (A.1*6))+y5.1)))) (aF ((decide ((z4:Int)=2)),y5.2,x.a,x.b,x.c,x.h,x.1.1,x.1.2,(0,0,0,0,0),A.1,z4,0,0,(aZ .i64 ((aZ .i64 (A.1*6))+y5.1))))) λD=>(aI D.1 (aF (D.2.1,D.a,D.b,D.c,D.e,D.g,D.j,D.p8,D.l,D.m,D.p,D.q,(-1))) (aF D.2))) λz=>(aw (oQ ((z.l,A.1),z.1)) λy8=>(aw (qE ((z.e,z.l,y8.1),y8.2)) λy9=>(jn (α:=fO×(η)×(η)×(η)×(η)×ER×b?) (jn (bi z.l 5 (aF (J,y9.2,z.2.1,z.a,z.b,z.c,z.j,z.p8,z.l,y8.1,y9.1,z.t)) (bi z.l 3 (bz mO z.g.1 y8.1 λz12=>(aF ((fV 0 z12.2.2.1),y9.2,z.2.1,z.a,z.b,z.c,z.j,z.p8,z.l,y8.1,y9.1,z.t))) (bi z.l 4 (bz mO z.g.1 y8.1 λz13=>(aF ((fV 0 z13.2.2.1),y9.2,z.2.1,z.a,z.b,z.c,z.j,z.p8,z.l,y8.1,y9.1,z.t))) (aF (aa,y9.2,z.2.1,z.a,z.b,z.c,z.j,z.p8,z.l,y8.1,y9.1,z.t))))) λq=>(aI q.1 (bi A.1 0 (aw (g9 (q.2.1,q.a)) λy14=>(bY (ay (ah q.a) (ah y14.2.2)&&J) (aF (y14.2.1,y14.2.2,q.b,q.c,q.e,q.g,q.j,q.p8,q.l,q.m,q.r,y14.1)))) (bi A.1 1 (aw (g9 (q.2.1,q.b)) λy15=>(bY (ay (ah q.b) (ah y15.2.2)&&J) (aF (y15.2.1,q.a,y15.2.2,q.c,q.e,q.g,q.j,q.p8,q.l,q.m,q.r,y15.1)))) (bi A.1 2 (aw (g9 (q.2.1,q.c)) λy16=>(bY (ay (ah q.c) (ah y16.2.2)&&J) (aF (y16.2.1,q.a,q.b,y16.2.2,q.e,q.g,q.j,q.p8,q.l,q.m,q.r,y16.1)))) (bi A.1 3 (aw (g9 (q.2.1,q.e)) λy17=>(bY (ay (ah q.e) (ah y17.2.2)&&J) (aF (y17.2.1,q.a,q.b,q.c,y17.2.2,q.g,q.j,q.p8,q.l,q.m,q.r,y17.1)))) U)))) (aF (q.2.1,q.a,q.b,q.c,q.e,q.g,q.j,q.p8,q.l,q.m,q.r,([]:η))))) λx10=>(jn (α:=fO×(η)×(η)×(η)×(η)×ER×d?) (jn (bi x10.j 4 (aF (J,x10)) (aF ((decide ((x10.j:Int)=22)),x10))) λc=>(aI c.1 (bi A.1 0 (aw (g9 (c.2.1,c.a)) λy20=>(bY (ay (ah c.a) (ah y20.2.2)&&J) (aF (y20.2.1,y20.2.2,c.b,c.c,c.e,c.g,c.j,c.p8,c.l,c.m,c.p,c.t,y20.1)))) (bi A.1 1 (aw (g9 (c.2.1,c.b)) λy21=>(bY (ay (ah c.b) (ah y21.2.2)&&J) (aF (y21.2.1,c.a,y21.2.2,c.c,c.e,c.g,c.j,c.p8,c.l,c.m,c.p,c.t,y21.1)))) (bi A.1 2 (aw (g9 (c.2.1,c.c)) λN=>(bY (ay (ah c.c) (ah N.2.2)&&J) (aF (N.2.1,c.a,c.b,N.2.2,c.e,c.g,c.j,c.p8,c.l,c.m,c.p,c.t,N.1)))) (bi A.1 3 (aw (g9 (c.2.1,c.e)) λI=>(bY (ay (ah c.e) (ah I.2.2)&&J) (aF (I.2.1,c.a,c.b,c.c,I.2.2,c.g,c.j,c.p8,c.l,c.m,c.p,c.t,I.1)))) U)))) (aF (c.2.1,c.a,c.b,c.c,c.e,c.g,c.j,c.p8,c.l,c.m,c.p,c.t,([]:η))))) λF=>(Z (F.i,F.1,F.2.1,F.a,F.b,F.c))))))))))))
abbrev k!:=fO×iW×ji×(η)×b!
abbrev Q?:=fO×iW×ji×(Y pI)×(η)×b!
abbrev T!:=Bool×k!
def su (x:(iW×ji×Int×Bool)×q?):M ((Y pI)×q?):=
 (bY (cZ 0 (bc x.1.2.1.c)&&cZ (bc x.1.2.1.c) (bc x.1.2.1.c)&&bl (aS (bc x.1.2.1.c)) 24&&decide (((bc x.1.2.1.c):Int)=4)) (jn (α:=k!) (bS 0 (bC 4) (jn (α:=k!) (jn (α:=T!) (aI x.1.d (bz aO x.1.1.d 0 λz4=>(bS 1 z4 (aw (bk (3,x.2)) λy5=>(aF ((decide ((y5.1:Int)=2)),y5.2,x.1.1,x.1.2.1,([]:η),([]:η),([]:η),([]:η)))) (aF (aa,x.2,x.1.1,x.1.2.1,([]:η),([]:η),([]:η),([]:η))))) (aF (aa,x.2,x.1.1,x.1.2.1,([]:η),([]:η),([]:η),([]:η)))) λx3=>(aI x3.1 (bY (bl (ah x3.c+ah ([1])) 8) (aF (x3.2.1,x3.a,x3.b,(x3.c++([1])),x3.h))) (aF x3.2))) λx2=>(bS 1 (bC 4) (jn (α:=k!) (jn (α:=T!) (aI x.1.d (bz aO x2.2.1.d 1 λz8=>(bS 1 z8 (aw (bk (3,x2.1)) λy9=>(aF ((decide ((y9.1:Int)=2)),y9.2,x2.2))) (aF (aa,x2)))) (aF (aa,x2))) λx7=>(aI x7.1 (bY (bl (ah x7.e+ah ([1])) 8) (aF (x7.2.1,x7.a,x7.b,x7.c,(x7.e++([1])),x7.i))) (aF x7.2))) λx6=>(bS 2 (bC 4) (jn (α:=k!) (jn (α:=T!) (aI x.1.d (bz aO x6.2.1.d 2 λz12=>(bS 1 z12 (aw (bk (3,x6.1)) λy13=>(aF ((decide ((y13.1:Int)=2)),y13.2,x6.2))) (aF (aa,x6)))) (aF (aa,x6))) λD=>(aI D.1 (bY (bl (ah D.g+ah ([1])) 8) (aF (D.2.1,D.a,D.b,D.c,D.e,(D.g++([1])),D.k))) (aF D.2))) λN=>(bS 3 (bC 4) (jn (α:=k!) (jn (α:=T!) (aI x.1.d (bz aO N.2.1.d 3 λz16=>(bS 1 z16 (aw (bk (3,N.1)) λy17=>(aF ((decide ((y17.1:Int)=2)),y17.2,N.2))) (aF (aa,N)))) (aF (aa,N))) λA=>(aI A.1 (bY (bl (ah A.k+ah ([1])) 8) (aF (A.2.1,A.a,A.b,A.c,A.e,A.g,(A.k++([1]))))) (aF A.2))) λI=>(bS 4 (bC 4) (jn (α:=k!) (jn (α:=T!) (aI x.1.d (bz aO I.2.1.d 4 λz20=>(bS 1 z20 (aw (bk (3,I.1)) λy21=>(aF ((decide ((y21.1:Int)=2)),y21.2,I.2))) (aF (aa,I)))) (aF (aa,I))) λx19=>(aI x19.1 U (aF x19.2))) λx18=>U) (aF I))) (aF N))) (aF x6))) (aF x2))) (aF (x.2,x.1.1,x.1.2.1,([]:η),([]:η),([]:η),([]:η)))) λx1=>(iter (σ:=Q?) (λx22=>(jn (bS (bc x22.b) x.1.a (aF ((fV x22.1.2 (bc x22.1.1)),x22)) (aF (aa,x22))) λq=>(aI q.1 (jn (α:=Q?) (aw (qF ((q.a,q.b),q.2.1,q.h)) λz=>(bY (ay (ah q.n) (ah z.h)&&(ay (ah q.j) (ah z.c)&&(ay (ah q.g) (ah z.b)&&(ay (ah q.e) (ah z.a)&&J)))) (aw (k_ (q.b,q.a,z.1)) λy26=>(aI (!y26.2) (aF (z.2.1,q.a,q.b,q.c,z.2.2)) (jn (α:=fO×iW×ji×(Y pI)×pI×iW×(η)×b!) (jn (bi z.1.2.1 3 (aF (J,z.2.1,q.a,q.b,q.c,z.1,y26.1,z.2.2)) (aF ((decide ((z.1.2.1:Int)=23)),z.2.1,q.a,q.b,q.c,z.1,y26.1,z.2.2))) λc=>(aI c.1 (bi c.e.1 0 (bz aO c.a.d 0 λz29=>(bY (bl (ah c.j+ah ([z29])) 8) (aF (c.2.1,c.a,c.b,c.c,(0,c.e.2),c.g,(c.j++([z29])),c.n)))) (bi c.e.1 1 (bz aO c.a.d 1 λz30=>(bY (bl (ah c.p8+ah ([z30])) 8) (aF (c.2.1,c.a,c.b,c.c,(1,c.e.2),c.g,c.j,(c.p8++([z30])),c.o)))) (bi c.e.1 2 (bz aO c.a.d 2 λz31=>(bY (bl (ah c.l+ah ([z31])) 8) (aF (c.2.1,c.a,c.b,c.c,(2,c.e.2),c.g,c.j,c.p8,(c.l++([z31])),c.s)))) (bi c.e.1 3 (bz aO c.a.d 3 λz32=>(bY (bl (ah c.s+ah ([z32])) 8) (aF (c.2.1,c.a,c.b,c.c,(3,c.e.2),c.g,c.j,c.p8,c.l,(c.s++([z32])))))) U)))) (aF c.2))) λF=>(bY (bl (ah F.b+ah ([F.c])) 88) (aF (F.1,F.e,F.a,(F.b++([F.c])),F.i)))))))) λx24=>(cW x24)) (aF (q.c,q.2.1))))) (x1.1,x1.2.1,x1.a,([]:Y pI),x1.d))))
def Ok (o:M R) (Q:R->Prop):Prop:=∃y,o=Z y/\Q y
def Ok.mono {o:M R} {Q Q':R->Prop} (h:Ok o Q) (c:∀y,Q y->Q' y):Ok o Q':=by let⟨y,h1,q⟩:=h;exact⟨y,h1,c y q⟩
def Ok.and {o:M R} {Q Q':R->Prop} (h:Ok o Q) (h':Ok o Q'):Ok o λy=>Q y/\Q' y:=by
 let⟨y,h1,A⟩:=h;let⟨z,c,q⟩:=h';rw[h1]at c;cases c;exact⟨y,h1,A,q⟩
def aj {y:R} {Q:R->Prop} (h:Q y):Ok (Z y) Q:=⟨y,rfl,h⟩
def aqe {o:M R} {y:R} {Q:R->Prop} (e:o=Z y) (h:Q y):Ok o Q:=⟨y,e,h⟩
variable {b:Bool}
def bu {k:M R} {Q:R->Prop} (h:b=J) (c:Ok k Q):Ok (chk b λ_=>k) Q:=by subst h;exact c
def aM {t f:M R} {Q:R->Prop} (ht:b=J->Ok t Q) (hf:b=aa->Ok f Q):Ok (aI b t f) Q:=by
 cases b with
 |true=>exact ht rfl
 |false=>exact hf rfl
def eU {t f:M R} {Q:R->Prop} (h:b=J) (ht:Ok t Q):Ok (aI b t f) Q:=by subst h;exact ht
def jQ {t f:M R} {Q:R->Prop} (h:b=aa) (hf:Ok f Q):Ok (aI b t f) Q:=by subst h;exact hf
def av {α:Type} {o:M α} {k:α->M R} {P:α->Prop} {Q:R->Prop} (h:Ok o P) (q:∀x,P x->Ok (k x) Q):Ok (aw o k) Q:=by
 obtain⟨x,rfl,c⟩:=h;exact q x c
def aV {α:Type} {o:M α} {k:α->M R} {x:α} {Q:R->Prop} (h:o=Z x) (c:Ok (k x) Q):Ok (aw o k) Q:=by subst h;exact c
def aQ {α:Type} {x:α} {k:α->M R} {Q:R->Prop} (h:Ok (k x) Q):Ok (lt x k) Q:=h
def aX {α:Type} {o:M (R⊕α)} {k:α->M R} {Q:R->Prop} (P:α->Prop) (h:Ok o λr=>match r with|.inl r=>Q r|.inr x=>P x) (q:∀x,P x->Ok (k x) Q):Ok (jn o k) Q:=by
 obtain⟨r,rfl,c⟩:=h;cases r with
 |inl r=>exact⟨r,rfl,c⟩
 |inr x=>exact q x c
def kP {α:Type} {o:M (R⊕α)} {k:α->M R} {Q:R->Prop} (h:Ok o λr=>match r with|.inl r=>Q r|.inr x=>Ok (k x) Q):Ok (jn o k) Q:=aX (λx=>Ok (k x) Q) h λ_ h=>h
def ahr {α:Type} {a b:α} {r:M R} {Q:R->Prop} (e:a=b) (h:Ok r Q):Ok (same a b r) Q:=by unfold same;rw[aR e];exact h
def qB {σ:Type} {f:σ->M (σ⊕R)} {Q:R->Prop} (μ:σ->Nat) (I:σ->Prop) (h:∀x,I x->Ok (f x) λr=>match r with|.inl y=>I y/\μ y<μ x|.inr r=>Q r) {x:σ} (q:I x):Ok (iter f x) Q:=by
 have key:∀n x,μ x<n->I x->∃m r,iterN f m x=Z r/\Q r:=by
  intro n;induction n with
  |zero=>intro x hm;omega
  |succ n z=>
   intro x hm q;let⟨r,h1,c⟩:=h x q;cases r with
   |inl y=>
    let⟨m,r,D,A⟩:=z y (by omega) c.1;exact⟨m+1,r,by rw[iterN,h1];exact D,A⟩
   |inr r=>exact⟨1,r,by rw[iterN,h1],c⟩
 let⟨m,r,h1,c⟩:=key (μ x+1) x (ib _) q;exact⟨r,JZ h1,c⟩
def bn {σ:Type} {f:σ->M (σ⊕R)} {Q:R->Prop} (n:Nat) (I:Nat->σ->Prop) (h0:∀i x,i<n->I i x->Ok (f x) λr=>match r with|.inl y=>I (i+1) y|.inr r=>Q r) (h1:∀x,I n x->Ok (f x) λr=>match r with|.inl _=>False|.inr r=>Q r) {x:σ} (z:I 0 x):Ok (iter f x) Q:=by
 have key:∀m i x,i+m=n->I i x->∃k r,iterN f k x=Z r/\Q r:=by
  intro m;induction m with
  |zero=>
   intro i x hi z;have:i=n:=by omega
   subst this;let⟨r,q,c⟩:=h1 x z;cases r with
   |inl y=>exact c.elim
   |inr r=>exact⟨1,r,by rw[iterN,q],c⟩
  |succ m A=>
   intro i x hi z;let⟨r,q,c⟩:=h0 i x (by omega) z;cases r with
   |inl y=>
    let⟨k,r,F,D⟩:=A (i+1) y (by omega) c;exact⟨k+1,r,by rw[iterN,q];exact F,D⟩
   |inr r=>exact⟨1,r,by rw[iterN,q],c⟩
 let⟨m,r,q,c⟩:=key n 0 x (by omega) z;exact⟨r,JZ q,c⟩
variable {a:Int} {i:Nat}
def aib :gr a i=J↔0<=a/\a<i:=by simp[gr,cZ,fV]
def vH {b:Int}:cZ a b=J↔a<=b:=by simp[cZ]
def oc {b:Int}:fV a b=J↔a<b:=by simp[fV]
def nG {b:Int}:fV a b=aa↔b<=a:=by simp[fV]
def je {b:Int}:cZ a b=aa↔b<a:=by simp[cZ]
variable {m:Nat}
def ZB :bl i m=J↔i<=1099511627776/\i*m<=1099511627776:=by simp[bl]
def cF {o:M R} {v:R} (h:Ok o (·=v)):o=Z v:=by let⟨y,h1,c⟩:=h;rw[h1,c]
section steps
variable {R:Type} {k t f:M R} {Q:R->Prop}
def aG (h0:0<=a) (h1:a<i) (c:Ok k Q):Ok (chk (gr a i) λ_=>k) Q:=bu (aib.2 ⟨h0,h1⟩) c
def bg (h0:i<=1073741824) (h1:m<=1024) (c:Ok k Q):Ok (chk (bl i m) λ_=>k) Q:=
 bu (ZB.2 ⟨by omega,cA (Nat.mul_le_mul h0 h1) (by omega)⟩) c
def a! {i m:Nat} (d:Ok k Q) (h:i<=1073741824:=by first|omega|(simp;omega)|(dsimp only;omega)) (g:m<=1024:=by omega):Ok (chk (bl i m) λ_=>k) Q:=bg h g d
def bt {a:Bool} (h:Ok (chk a λ_=>chk b λ_=>k) Q):Ok (chk (a&&b) λ_=>k) Q:=by
 cases a with
 |true=>exact h
 |false=>let⟨y,h,_⟩:=h;cases h
def cI {b:Int} (h:a<=b) (c:Ok k Q):Ok (chk (cZ a b) λ_=>k) Q:=bu (vH.2 h) c
def a? {a b:Int} (d:Ok k Q) (h:a<=b:=by first|omega|(simp;omega)|(dsimp only;omega)):Ok (chk (cZ a b) λ_=>k) Q:=cI h d
def tN {b:Int} (h:a<b) (c:Ok k Q):Ok (chk (fV a b) λ_=>k) Q:=bu (oc.2 h) c
def IL {p:Prop} {i:Decidable p} (h:p) (c:Ok k Q):Ok (chk (decide p) λ_=>k) Q:=bu (bK h) c
def l8 {p:Prop} {i:Decidable p} (h:¬p) (c:Ok k Q):Ok (chk (!decide p) λ_=>k) Q:=bu (by simp[h]) c
def cU (h:i=m) (c:Ok k Q):Ok (chk (ay i m) λ_=>k) Q:=bu (by subst h;exact AT i) c
def ie (c:Ok k Q):Ok (chk J λ_=>k) Q:=c
def aY {b:Int} (ht:a<b->Ok t Q) (hf:b<=a->Ok f Q):Ok (aI (fV a b) t f) Q:=aM (λh=>ht (oc.1 h)) (λh=>hf (nG.1 h))
def eh {b:Int} (ht:a<=b->Ok t Q) (hf:b<a->Ok f Q):Ok (aI (cZ a b) t f) Q:=aM (λh=>ht (vH.1 h)) (λh=>hf (je.1 h))
def aL {p:Prop} {i:Decidable p} (ht:p->Ok t Q) (hf:¬p->Ok f Q):Ok (aI (decide p) t f) Q:=aM (λh=>ht (bJ h)) (λh=>hf (Ct h))
def bW {p:Prop} {i:Decidable p} (ht:¬p->Ok t Q) (hf:p->Ok f Q):Ok (aI (!decide p) t f) Q:=aM (λh=>ht (by simpa using h)) (λh=>hf (by simpa using h))
def cH (ht:b=aa->Ok t Q) (hf:b=J->Ok f Q):Ok (aI (!b) t f) Q:=aM (λh=>ht (by simpa using h)) (λh=>hf (by simpa using h))
def adb (hf:Ok f Q):Ok (aI aa t f) Q:=hf
def cG (c:Ok k Q) (h0:0<=a:=by first|omega|(dsimp only;omega)) (h1:a<i:=by first|omega|(dsimp only;omega)):Ok (chk (gr a i) λ_=>k) Q:=aG h0 h1 c
def dx {b:Int} (ht:Ok t Q) (h:a<b:=by first|omega|(dsimp only[ak];omega)):Ok (aI (fV a b) t f) Q:=aY (λ_=>ht) λg=>bO h (yo.2 g)
def di {b:Int} (hf:Ok f Q) (h:b<=a:=by first|omega|(dsimp only[ak];omega)):Ok (aI (fV a b) t f) Q:=aY (λg=>bO g (yo.2 h)) λ_=>hf
end steps
def ru:(∀(p:Prop) [Decidable p],(decide p=J)=p)/\(∀p:Prop,(True\/p)=True)/\(∀p:Prop,(p\/True)=True)/\(∀p:Prop,(True->p)=p)/\(∀p:Prop,(True/\p)=p)/\∀p:Prop,(p/\True)=p:=⟨λ_=>bG,true_or,or_true,λ_=>true_implies _,true_and,and_true⟩
def Ji:(∀i:Decidable True,@decide True i=J)/\(∀i:Decidable False,@decide False i=aa)/\(∀{R:Type} (t f:M R),aI J t f=t)/\(∀{R:Type} (t f:M R),aI aa t f=f)/\(∀{α R:Type} (x:α) (k:α->M R),jn (Z (.inr x)) k=k x)/\(∀{α R:Type} (r:R) (k:α->M R),jn (Z (.inl r)) k=Z r)/\(∀{α R:Type} (x:α) (k:α->M R),aw (Z x) k=k x)/\(∀{α R:Type} (x:α) (k:α->M R),lt x k=k x)/\(!J)=aa/\(!aa)=J:=⟨decide_true,decide_false,λ_ _=>rfl,λ_ _=>rfl,λ_ _=>rfl,λ_ _=>rfl,λ_ _=>rfl,λ_ _=>rfl,rfl,rfl⟩
structure IM (p q:Prop):Prop where
 h:p->q
inductive OS {R:Type}:Option R->(R->Prop)->Prop where
 |cand {a b:Bool} {k:Option R} {Q:R->Prop} (h:Ok (chk a λ_=>chk b λ_=>k) Q):OS (chk (a&&b) λ_=>k) Q
 |gr {j:Int} {n:Nat} {k:Option R} {Q:R->Prop} (h0:0<=j) (h1:j<n) (hk:Ok k Q):OS (chk (gr j n) λ_=>k) Q
 |room {n b:Nat} {k:Option R} {Q:R->Prop} (h0:n<=1073741824) (h1:b<=1024) (hk:Ok k Q):OS (chk (bl n b) λ_=>k) Q
 |cile {a b:Int} {k:Option R} {Q:R->Prop} (h:a<=b) (hk:Ok k Q):OS (chk (cZ a b) λ_=>k) Q
 |cilt {a b:Int} {k:Option R} {Q:R->Prop} (h:a<b) (hk:Ok k Q):OS (chk (fV a b) λ_=>k) Q
 |cdec {p:Prop} {i:Decidable p} {k:Option R} {Q:R->Prop} (h:p) (hk:Ok k Q):OS (chk (decide p) λ_=>k) Q
 |cndec {p:Prop} {i:Decidable p} {k:Option R} {Q:R->Prop} (h:¬p) (hk:Ok k Q):OS (chk (!decide p) λ_=>k) Q
 |cbeq {a b:Nat} {k:Option R} {Q:R->Prop} (h:a=b) (hk:Ok k Q):OS (chk (ay a b) λ_=>k) Q
 |cT {k:Option R} {Q:R->Prop} (hk:Ok k Q):OS (chk J λ_=>k) Q
 |lt {α:Type} {x:α} {k:α->Option R} {Q:R->Prop} (h:Ok (k x) Q):OS (lt x k) Q
 |b1 {t f:Option R} {Q:R->Prop} (h:Ok t Q):OS (aI J t f) Q
 |b0 {t f:Option R} {Q:R->Prop} (h:Ok f Q):OS (aI aa t f) Q
 |fV {a b:Int} {t f:Option R} {Q:R->Prop} (ht:IM (a<b) (Ok t Q)) (hf:IM (b<=a) (Ok f Q)):OS (aI (fV a b) t f) Q
 |cZ {a b:Int} {t f:Option R} {Q:R->Prop} (ht:IM (a<=b) (Ok t Q)) (hf:IM (b<a) (Ok f Q)):OS (aI (cZ a b) t f) Q
 |dec {p:Prop} {i:Decidable p} {t f:Option R} {Q:R->Prop} (ht:IM p (Ok t Q)) (hf:IM (¬p) (Ok f Q)):OS (aI (decide p) t f) Q
 |ndec {p:Prop} {i:Decidable p} {t f:Option R} {Q:R->Prop} (ht:IM (¬p) (Ok t Q)) (hf:IM p (Ok f Q)):OS (aI (!decide p) t f) Q
 |not {b:Bool} {t f:Option R} {Q:R->Prop} (ht:IM (b=aa) (Ok t Q)) (hf:IM (b=J) (Ok f Q)):OS (aI (!b) t f) Q
 |aI {b:Bool} {t f:Option R} {Q:R->Prop} (ht:IM (b=J) (Ok t Q)) (hf:IM (b=aa) (Ok f Q)):OS (aI b t f) Q
 |jc {α:Type} {o:Option (R⊕α)} {k:α->Option R} {Q:R->Prop} (h:Ok o λr=>match r with|.inl r=>Q r|.inr x=>Ok (k x) Q):OS (jn o k) Q
 |some {y:R} {Q:R->Prop} (h:Q y):OS (Z y) Q
def OS.ok {o:M R} {Q:R->Prop} (h:OS o Q):Ok o Q:=by
 cases h with
 |cand h=>exact bt h
 |gr a b h=>exact aG a b h
 |room a b h=>exact bg a b h
 |cile a h=>exact cI a h
 |cilt a h=>exact tN a h
 |cdec a h=>exact IL a h
 |cndec a h=>exact l8 a h
 |cbeq a h=>exact cU a h
 |cT h|lt h|b1 h|b0 h=>exact h
 |fV a b=>exact aY a.h b.h
 |cZ a b=>exact eh a.h b.h
 |dec a b=>exact aL a.h b.h
 |ndec a b=>exact bW a.h b.h
 |not a b=>exact cH a.h b.h
 |aI a b=>exact aM a.h b.h
 |jc h=>
  let⟨r,e,h⟩:=h;exact kP ⟨r,e,by cases r<;>exact h⟩
 |some h=>exact aj h
def bcT (t f:M R):aI J t f=t:=rfl
def bcF (t f:M R):aI aa t f=f:=rfl
def jnr {α:Type} (x:α) (k:α->M R):jn (Z (.inr x)) k=k x:=rfl
def obs {α:Type} (x:α) (k:α->M R):aw (Z x) k=k x:=rfl
inductive Iu:Int->Prop where
 |k1:Iu 1
 |k2:Iu 2
 |k3:Iu 3
 |k4:Iu 4
 |k5:Iu 5
 |k6:Iu 6
 |k7:Iu 7
 |k8:Iu 8
 |k9:Iu 9
 |k10:Iu 10
 |k11:Iu 11
 |k12:Iu 12
 |k13:Iu 13
 |k14:Iu 14
 |k15:Iu 15
 |k16:Iu 16
 |k17:Iu 17
 |k18:Iu 18
 |k19:Iu 19
 |k20:Iu 20
 |k21:Iu 21
 |k22:Iu 22
 |k23:Iu 23
 |no {k:Int} (h:¬k=1/\¬k=2/\¬k=3/\¬k=4/\¬k=5/\¬k=6/\¬k=7/\¬k=8/\¬k=9/\¬k=10/\¬k=11/\¬k=12/\¬k=13/\¬k=14/\¬k=15/\¬k=16/\¬k=17/\¬k=18/\¬k=19/\¬k=20/\¬k=21/\¬k=22/\¬k=23) (h2:k<1\/23<k):Iu k
def kdI (k:Int):Iu k:=by
 by_cases h:k<1\/23<k
 .exact .no (by omega) h
 .have:k=1\/k=2\/k=3\/k=4\/k=5\/k=6\/k=7\/k=8\/k=9\/k=10\/k=11\/k=12\/k=13\/k=14\/k=15\/k=16\/k=17\/k=18\/k=19\/k=20\/k=21\/k=22\/k=23:=by omega
  repeat' (rcases this with rfl|this)
  all_goals first|(subst this;constructor)|constructor
def jA {n:Int} (h0: -9223372036854775808<=n:=by omega) (h1:n<=9223372036854775807:=by omega):aZ .i64 n=n:=by
 rw[IA];unfold Rp;simp[cZ,h0,h1]
def fd (h:i<9223372036854775807:=by omega):aZ .i64 ((i:Int)+1)=((i+1:Nat):Int):=by rw[jA];omega
variable {T:Ty}
def aei (xs:Y T.den) (i:Nat):aK _ xs (i:Int)=xs.getD i T.zero:=by unfold aK;simp
def Qh (xs:η) (i:Nat):aK aO xs (i:Int)=xs.getD i 0:=aei (T:=aO) xs i
def bE {xs:Y T.den} {j:Int} (h0:0<=j) (h1:j<l! xs):aK _ xs j∈xs:=by
 unfold aK;rw[aT,aH (by omega)];exact List.getElem_mem _
def cj (xs:Y R) (j:Int) (x:R):l! (cC xs j x)=l! xs:=by unfold cC;simp
def ui {xs:Y R} {x y:R} (h:y∈cC xs a x):y∈xs\/y=x:=List.mem_or_eq_of_mem_set h
def xw {σ:Type} {f:σ->M (σ⊕R)} {Q:R->Prop} (n:Nat) (N:n<=1000000) (I:Nat->σ->Prop) (h0:∀i x,i<n->I i x->Ok (f x) λr=>match r with|.inl y=>I (i+1) y|.inr r=>Q r) (h1:∀x,I n x->Ok (f x) λr=>match r with|.inl _=>False|.inr r=>Q r) {x:σ} (z:I 0 x):Ok (wO f x) Q:=by
 have key:∀m i x,i+m=n->I i x->∃r,iterN f (m+1) x=Z r/\Q r:=by
  intro m;induction m with
  |zero=>
   intro i x hi z;have:i=n:=by omega
   subst this;let⟨r,q,c⟩:=h1 x z;cases r with
   |inl y=>exact c.elim
   |inr r=>exact⟨r,by rw[iterN,q],c⟩
  |succ m A=>
   intro i x hi z;let⟨r,q,c⟩:=h0 i x (by omega) z;cases r with
   |inl y=>
    let⟨r,F,D⟩:=A (i+1) y (by omega) c;exact⟨r,by rw[iterN,q];exact F,D⟩
   |inr r=>exact⟨r,DJ (n:=1) (by rw[iterN,q]) (by omega),c⟩
 let⟨r,q,c⟩:=key n 0 x (by omega) z;exact⟨r,DJ q (by omega),c⟩
abbrev WT:Type:=Y (ζ×Int×Int×Bool×Int)×Y (ζ×Bool)×Y (ζ×Int)×Y ζ×Y ζ×Y π
abbrev Y!:=θ×Y (Int×Int×Bool)
abbrev SY:Type:=Y (Int×η)×Int×Y!
def Se (a b:Int):qK (a,b)=Z (decide (0<=a/\a<b)):=by
 refine cF ?_;unfold qK jO aF;with_reducible repeat' first|apply OS.ok;constructor|refine IM.mk λ_=>?_
 .by_cases h:a<b<;>simp[*,fV]
 .simp;omega
def Md (l:η) (n:Int) (A:l! l<=1000000):ma (l,n)=Z (l.contains n):=by
 refine cF ?_;refine bn (l! l) (λi x=>x=(i:Int)/\∀k,k<i->l.getD k 0≠n) ?_ ?_ ⟨rfl,λk c=>by omega⟩
 .rintro i x hi ⟨rfl,z⟩;with_reducible repeat' first|apply OS.ok;constructor|refine IM.mk λ_=>?_
  all_goals try simp only[ak,ru] at*
  .omega
  .omega
  .rename_i h;rw[Qh]at h
   grind
  .rename_i h;rw[Qh]at h;refine ⟨fd,λk c=>?_⟩
   grind
  .omega
 .rintro x ⟨rfl,z⟩;with_reducible repeat' first|apply OS.ok;constructor|refine IM.mk λ_=>?_
  all_goals try simp only[ak,ru] at*
  .omega
  .omega
  .omega
  .omega
  .symm
   rw[Bool.eq_false_iff];intro q;rw[dJ]at q;let⟨k,c,he⟩:=HN q
   grind
def iv {xs:Y T.den} {p:T.den->Prop} (h:∀k:Nat,k<ah xs->p (aK _ xs (k:Int))):∀c∈xs,p c:=λc z=>by
 let⟨k,q,he⟩:=HN z;have:=h k q;rw[aei,aT,aH q,Option.getD_some,he]at this;exact this
def I_ (w:WT) (s:SY) (N:l! w.2.2.1<=1000000):Ok (rK (w,s)) λb=>b=J->(∀c∈w.2.2.1,0<=c.2/\c.2<l! w.2.1)/\l! s.1=l! w.2.1/\l! s.2.2.1=l! w.2.2.2.1/\l! s.2.2.2=l! w.2.2.2.2.1:=by
 unfold rK ba bQ b_ dP bi bS bz bc cW aF cM;refine bn (l! w.2.2.1) (λi x=>x.1=(i:Int)/\x.2=(w,s)/\∀k:Nat,k<i->0<=(aK itK w.2.2.1 (k:Int)).2/\(aK itK w.2.2.1 (k:Int)).2<l! w.2.1) ?_ ?_ ⟨rfl,rfl,λk F=>by omega⟩
 .rintro i ⟨x1,D⟩ hi ⟨z,q,A⟩;subst z q;with_reducible repeat' first|apply OS.ok;constructor|refine IM.mk λ_=>?_
  all_goals try simp only[ak,ru] at*
  all_goals first|omega|skip
  .intro h;cases h
  .intro h;cases h
  .refine ⟨fd,λk F=>?_⟩
   grind
 .rintro⟨x1,D⟩ ⟨z,q,A⟩;subst z q;with_reducible repeat' first|apply OS.ok;constructor|refine IM.mk λ_=>?_
  all_goals try simp only[ak,ru] at*
  all_goals first|omega|skip
  refine av (P:=λb=>b=J->l! s.1=l! w.2.1/\l! s.2.2.1=l! w.2.2.2.1/\l! s.2.2.2=l! w.2.2.2.2.1) ?_ ?_
  .with_reducible repeat' first|apply OS.ok;constructor|refine IM.mk λ_=>?_
   all_goals try simp only[ak,ru] at*
   .omega
   .intro h;cases h
   .intro h;cases h
  .intro b I;with_reducible repeat' first|apply OS.ok;constructor|refine IM.mk λ_=>?_
   exact λh=>⟨iv (T:=itK) A,I h⟩
structure NM (w:WT) (k o:Int):Prop where
 k1:1<=k
 k2:k<=23
 ce:k=3\/k=4->0<=o/\o<l! w.1
 lk:6<=k/\k<=11->0<=o/\o<l! w.2.1
 cd:16<=k/\k<=19->0<=o/\o<l! w.2.2.1
 th:k=20\/k=21->0<=o/\o<l! w.2.2.2.2.1
 fu:k=22\/k=23->0<=o/\o<l! w.2.2.2.1
 no:k=1\/k=2\/k=5\/(12<=k/\k<=15)->o= -1
 mu:k=6\/k=7->(aK rj w.2.1 o).2=aa
 rw:8<=k/\k<=11->(aK rj w.2.1 o).2=J
def adi (w:WT) (k o:Int):Ok (uw (w,k,o)) λb=>b=J->NM w k o:=by
 unfold uw ba bQ b_ da bi bz bc aF;cases kdI k
 case no c _=>
  simp[c,dR,dB,Ji];exact aj nofun
 all_goals simp only[dR,dB,Ji,Se]
 all_goals with_reducible repeat' first|apply OS.ok;constructor|refine IM.mk λ_=>?_
 all_goals try simp only[ak,ru] at*
 all_goals first|omega|(intro h;cases h;done)|(intro h;constructor<;>first|omega|(intro q;first|omega|(simpa using h)))
structure SB (n:Nat) (s:SY):Prop where
 n1:n<=100000
 lk:l! s.1<=1000
 rd:∀l∈s.1,l! l.2<=n
 dn:l! s.2.2.1<=1000
 th:l! s.2.2.2<=1000
structure EN (w:WT) (s:SY) (t k o:Int):Prop where
 nm:NM w k o
 t0:0<=t
 t1:t<l! w.2.2.2.2.1
 cd:∀c∈w.2.2.1,0<=c.2/\c.2<l! w.2.1
 e1:l! s.1=l! w.2.1
 e2:l! s.2.2.1=l! w.2.2.2.1
 e3:l! s.2.2.2=l! w.2.2.2.2.1
structure Mo (w:WT) (s:SY) (t k o:Int):Prop where
 b:k=1->(aK fg s.2.2.2 t).1=1
 wk:k=17->(aK fg s.2.2.2 t).1=4/\(aK fg s.2.2.2 t).2.1=o/\(aK c_ s.1 (aK itK w.2.2.1 o).2).1= -1
 r:k≠1->k≠17->(aK fg s.2.2.2 t).1=2
 aq:k=6\/k=8\/k=10->(aK c_ s.1 o).1= -1
 wr:k=10->(aK c_ s.1 o).2.length=0
 ra:k=8->(aK c_ s.1 o).2.contains t=aa
 rl:k=7\/k=11->(aK c_ s.1 o).1=t
 rr:k=9->(aK c_ s.1 o).2.contains t=J
 xb:k=12->s.2.1= -1
 xe:k=13->s.2.1=t
 ab:k=14->(aK fg s.2.2.2 t).2.2=aa
 ae:k=15->(aK fg s.2.2.2 t).2.2=J
 nt:k=16\/k=18\/k=19->(aK c_ s.1 (aK itK w.2.2.1 o).2).1=t
 sp:k=20->¬o=t/\(aK fg s.2.2.2 o).1=0
 jo:k=21->¬o=t/\(aK fg s.2.2.2 o).1=5
 se:k=22->aK (.bool) s.2.2.1 o=aa
 ge:k=23->aK (.bool) s.2.2.1 o=J
def Mg (w:WT) (s:SY) (D:SB i s) (hw:l! w.2.2.1<=1000) (t k o:Int):Ok (kz (w,s,t,k,o)) λb=>b=J->EN w s t k o/\Mo w s t k o:=by
 unfold kz ba bQ b_ bI dD dP bi gF bz bc aF;refine aX (λx=>x.2=(w,s)/\(x.1=aa->EN w s t k o)) ?_ ?_
 .refine av (I_ w s (by omega)) λb I=>?_
  with_reducible repeat' first|apply OS.ok;constructor|refine IM.mk λ_=>?_
  .exact⟨rfl,nofun⟩
  .simp only[Se,obs];with_reducible repeat' first|apply OS.ok;constructor|refine IM.mk λ_=>?_
   .exact⟨rfl,nofun⟩
   .refine av (adi w k o) λc F=>?_
    with_reducible repeat' first|apply OS.ok;constructor|refine IM.mk λ_=>?_
    all_goals try simp only[ak,ru] at*
    rename_i h1 h2;obtain⟨f1,f2,f3,f4⟩:=I h1;exact λh=>⟨F (by simpa using h),by omega,by omega,f1,f2,f3,f4⟩
 .rintro⟨x1,x2⟩ ⟨q,A⟩;dsimp only at q A;subst q;refine aM (λh=>aj λh=>by cases h) (λh=>?_);have he:=A h;obtain⟨nm,t0,t1,cd,e1,e2,e3⟩:=id he;obtain⟨_,_,ce,z,cn,th,fu⟩:=nm;have hm:16<=k/\k<=19->0<=(aK itK w.2.2.1 o).2/\(aK itK w.2.2.1 o).2<l! w.2.1:=λh=>cd _ (bE (cn h).1 (cn h).2)
  have N:6<=k/\k<=11->ma ((aK c_ s.1 o).2,t)=Z ((aK c_ s.1 o).2.contains t):=λh=>Md _ _ (by
   have:=D.rd _ (bE (T:=c_) (z h).1 (by have:=(z h).2;omega));have:=D.n1;omega)
  cases kdI k
  case no hk _=>omega
  all_goals simp only[dR,dB,Ji]
  all_goals with_reducible repeat' first|apply OS.ok;constructor|refine IM.mk λ_=>?_
  all_goals try simp only[N (by omega),obs]
  all_goals with_reducible repeat' first|apply OS.ok;constructor|refine IM.mk λ_=>?_
  all_goals try simp only[ak,ru] at*
  all_goals first|omega|(intro h;cases h;done)|exact (hm ⟨by decide,by decide⟩).1|(rw [e1];exact (hm ⟨by decide,by decide⟩).2)|(intro h;refine ⟨he,?_⟩;constructor<;>first|omega|(intros;first|omega|assumption|(simpa using h)|exact⟨by assumption,by first|assumption|exact⟨by assumption,by assumption⟩⟩))|(refine ⟨he,?_⟩;constructor<;>first|omega|(intros;first|omega|assumption))
def l7:η->Int->η
 |[],n=>[n]
 |x::r,n=>if x<n then x::l7 r n else if x=n then x::r else n::x::r
def Fa (n:Int):∀(i:Nat) (l:η),i<=l! l->(∀k,k<i->l.getD k 0<n)->l7 l n=l.take i++l7 (l.drop i) n
 |0,l,_,_=>by simp
 |i+1,[],h,_=>by simp at h
 |i+1,x::r,h,c=>by
  have h0:=c 0 (by omega);simp at h0;have:=Fa n i r (by grind) (λk q=>by have:=c (k+1) (by omega);simpa using this);rw[l7,aR h0,this,wd,HO,fG]
def Gl (n:Int):∀l:η,l! (l7 l n)<=l! l+1
 |[]=>by simp[l7]
 |x::r=>by
  have:=Gl n r;rw[l7];split
  .simp;omega
  .split<;>simp
def Jo {n y:Int}:∀{l:η},y∈l7 l n↔y=n\/y∈l
 |[]=>by simp[l7]
 |x::r=>by
  have:=Jo (n:=n) (y:=y) (l:=r);rw[l7];split
  .grind
  .grind
def Ny:η->Prop
 |[]=>True
 |x::r=>(∀y∈r,x<y)/\Ny r
def RZ :∀{l:η},Ny l->Ny (l7 l a)
 |[],_=>by simp[l7,Ny]
 |x::r,h=>by
  rw[l7];split
  .rename_i q;refine ⟨λy c=>?_,RZ h.2⟩;rcases Jo.1 c with rfl|c
   .exact q
   .exact h.1 y c
  .split
   .exact h
   .rename_i h1 z;refine ⟨λy c=>?_,h⟩;rcases bB.1 c with rfl|c
    .omega
    .have:=h.1 y c;omega
def ag3 (l:η) (n:Int) (I:l! l<=1000000):wI (l,n)=Z (l7 l n):=by
 refine cF ?_;unfold wI bS bY bz bc cW aF cM;have fin:∀i:Nat,i<=l! l->(∀k,k<i->l.getD k 0<n)->(i<l! l->¬l.getD i 0<n/\l.getD i 0≠n)->l.take i++[n]++l.drop i=l7 l n:=λi hi A F=>by
  rw[Fa n i l hi A];cases hd:l.drop i with
  |nil=>simp[l7]
  |cons y r=>
   have hlt:i<l! l:=by grind
   have q:l.getD i 0=y:=by
    rw[aT,<-List.head?_drop,hd];rfl
   let⟨h1,D⟩:=F hlt;rw[q]at h1 D;rw[l7,aE h1,aE D];simp
 refine bn (l! l) (λi x=>x=(i:Int)/\∀k,k<i->l.getD k 0<n) ?_ ?_ ⟨rfl,λk A=>by omega⟩
 .rintro i x hi ⟨rfl,c⟩;by_cases hlt:l.getD i 0<n
  .with_reducible repeat' first|apply OS.ok;constructor|refine IM.mk λ_=>?_
   all_goals try simp only[ak,ru] at*
   all_goals first|omega|skip
   .refine ⟨fd,λk A=>?_⟩
    grind
   next h=>exact bO hlt (yo.2 h)
  .have key:l.getD i 0=n->l7 l n=l:=λhe=>by
    rw[Fa n i l (by omega) c];cases hd:l.drop i with
    |nil=>have:=iQ ah hd;simp at this;omega
    |cons y r=>
     have q:l.getD i 0=y:=by rw[aT,<-List.head?_drop,hd];rfl
     rw[q]at he;rw[l7,aE (by omega),aR he,<-hd,List.take_append_drop]
   with_reducible repeat' first|apply OS.ok;constructor|refine IM.mk λ_=>?_
   all_goals try simp only[ak,ru] at*
   all_goals first|omega|skip
   next h=>exact bO h hlt
   .refine av (P:=λr=>r=l7 l n) ?_ λr z=>aj z
    with_reducible repeat' first|apply OS.ok;constructor|refine IM.mk λ_=>?_
    all_goals try simp only[ak,ru] at*
    all_goals first|omega|skip
    next h=>exact (key h).symm
    .simp;omega
    .simp;omega
    .simp;omega
    next h=>simpa using fin i (by omega) c (λ_=>⟨hlt,h⟩)
 .rintro x ⟨rfl,c⟩;with_reducible repeat' first|apply OS.ok;constructor|refine IM.mk λ_=>?_
  all_goals try simp only[ak,ru] at*
  all_goals first|omega|skip
  refine av (P:=λr=>r=l7 l n) ?_ λr z=>aj z
  with_reducible repeat' first|apply OS.ok;constructor|refine IM.mk λ_=>?_
  all_goals try simp only[ak,ru] at*
  all_goals first|omega|skip
  .simp;omega
  .simp;omega
  .simp;omega
  .simpa using fin (l! l) (by omega) c (λh=>by omega)
def xp (a b:η):η:=b.foldl l7 (a.foldl l7 [])
def wT:∀(b acc:η),l! (b.foldl l7 acc)<=l! acc+l! b
 |[],acc=>by simp
 |x::r,acc=>by
  have:=wT r (l7 acc x);have:=Gl x acc;rw[dg,bX];omega
def Kv:∀{b acc:η},Ny acc->Ny (b.foldl l7 acc)
 |[],_,h=>h
 |x::r,acc,h=>by rw[dg];exact Kv (RZ h)
def Ku :∀{b acc:η},a∈b.foldl l7 acc↔a∈acc\/a∈b
 |[],acc=>by simp
 |x::r,acc=>by
  rw[dg,Ku,Jo]
  grind
def Rs (a b:η):Ny (xp a b):=Kv (Kv trivial)
variable {r:η}
def Rr {b:η} {y:Int}:y∈xp r b↔y∈r\/y∈b:=by unfold xp;rw[Ku,Ku];simp
def ace (a b:η):l! (xp a b)<=l! a+l! b:=by
 have:=wT b (a.foldl l7 []);have:=wT a [];unfold xp;simp at *;omega
def N' {acc:η} (hi:i<l! r):(r.take (i+1)).foldl l7 acc=l7 ((r.take i).foldl l7 acc) (r.getD i 0):=by
 rw[pf hi,j8,aT,aH hi];rfl
def U6 (a b:η) (F:l! a<=400000) (D:l! b<=400000):ux (a,b)=Z (xp a b):=by
 refine cF ?_;refine bn (l! a) (λi x=>x.2=(i:Int)/\x.1=(a.take i).foldl l7 []) ?_ ?_ ⟨rfl,rfl⟩
 .rintro i ⟨x1,q⟩ hi ⟨h1,c⟩;subst h1 c;have z:l! ((a.take i).foldl l7 [])<=1000000:=by have:=wT (a.take i) [];simp at *;omega
  with_reducible repeat' first|apply OS.ok;constructor|refine IM.mk λ_=>?_
  all_goals try simp[ak,ru] at*
  all_goals first|omega|skip
  refine aV (ag3 _ _ z) (aj ?_);refine ⟨fd,?_⟩;rw[Qh,N' hi]
 .rintro⟨x1,q⟩ ⟨h1,c⟩;subst h1 c;rw[dC];have hla:=wT a [];with_reducible repeat' first|apply OS.ok;constructor|refine IM.mk λ_=>?_
  all_goals try simp[ak,ru] at*
  all_goals first|omega|skip
  refine av (P:=λr=>r=xp a b) ?_ λr A=>aj A
  refine bn (l! b) (λi x=>x.2=(i:Int)/\x.1=(b.take i).foldl l7 (a.foldl l7 [])) ?_ ?_ ⟨rfl,rfl⟩
  .rintro i ⟨x1,q⟩ hi ⟨h1,c⟩;subst h1 c;have z:l! ((b.take i).foldl l7 (a.foldl l7 []))<=1000000:=by have:=wT (b.take i) (a.foldl l7 []);simp at *;omega
   with_reducible repeat' first|apply OS.ok;constructor|refine IM.mk λ_=>?_
   all_goals first|omega|skip
   refine aV (ag3 _ _ z) (aj ?_);refine ⟨fd,?_⟩;rw[Qh,N' hi]
  .rintro⟨x1,q⟩ ⟨h1,c⟩;subst h1 c;rw[dC];with_reducible repeat' first|apply OS.ok;constructor|refine IM.mk λ_=>?_
   all_goals first|omega|rfl
def VJ (c:Int) (x:p?):Bool:=decide (x.1=3)&&decide (x.2.1=c)
def wl (q:Y p?) (c:Int):Nat->η
 |0=>[]
 |i+1=>if VJ c (aK fg q (i:Int)) then wl q c i++[(i:Int)] else wl q c i
def zE (q:Y p?) (c:Int):∀i,l! (wl q c i)<=i
 |0=>bL _
 |i+1=>by have:=zE q c i;rw[wl];split<;>simp<;>omega
def Cu {q:Y p?} {c u:Int}:∀{i:Nat},u∈wl q c i↔0<=u/\u<i/\VJ c (aK fg q u)=J
 |0=>by simp[wl];omega
 |i+1=>by
  have z:= @Cu q c u i;rw[wl]
  grind
variable {j:Y (Int×Int×Bool)}
def aq2 (h1:(aK fg j (i:Int)).1=3) (z:(aK fg j (i:Int)).2.1=a):wl j a (i+1)=wl j a i++[(i:Int)]:=by
 rw[wl,aR];unfold VJ;rw[h1,z];simp
def al0 (h1:¬(aK fg j (i:Int)).1=3):wl j a (i+1)=wl j a i:=by
 rw[wl,aE];unfold VJ;rw[bT h1];simp
def akz (h1:¬(aK fg j (i:Int)).2.1=a):wl j a (i+1)=wl j a i:=by
 rw[wl,aE];unfold VJ;rw[bT h1];simp
def XT (s:SY) (c:Int) (z:l! s.2.2.2<=1000):nW (s,c)=Z (wl s.2.2.2 c (l! s.2.2.2)):=by
 refine cF ?_;unfold nW bI bi bS bY bz bc cW aF cM;refine bn (l! s.2.2.2) (λi x=>x=((i:Int),s,wl s.2.2.2 c i)) ?_ ?_ rfl
 .rintro i x hi rfl;have A:=zE s.2.2.2 c i;with_reducible repeat' first|apply OS.ok;constructor|refine IM.mk λ_=>?_
  all_goals try simp only[ak,ru] at*
  all_goals first|omega|skip
  all_goals first|(simp;omega)|skip
  next h1 q=>rw[aq2 h1 q,fd]
  next h1 q=>rw[akz q,fd]
  next h1=>rw[al0 h1,fd]
 .rintro x rfl;with_reducible repeat' first|apply OS.ok;constructor|refine IM.mk λ_=>?_
  all_goals try simp[ak,ru] at*
  all_goals first|omega|rfl
def wo (l:η) (n:Int):η:=l.filter λx=> !decide (x=n)
def VK (l:η) (n:Int) (q:l! l<=1000000):qJ (l,n)=Z (wo l n):=by
 refine cF ?_;unfold qJ bS gF bY bz bc cW aF cM;refine bn (l! l) (λi x=>x=((i:Int),wo (l.take i) n)) ?_ ?_ rfl
 .rintro i x hi rfl;have c:l! (wo (l.take i) n)<=i:=cA (Cq ..) (List.length_take_le ..);have ht:wo (l.take (i+1)) n=if aK aO l (i:Int)=n then wo (l.take i) n else wo (l.take i) n++[aK aO l (i:Int)]:=by
   unfold wo;rw[pf hi,nN,Qh,aT,aH hi]
   grind
  with_reducible repeat' first|apply OS.ok;constructor|refine IM.mk λ_=>?_
  all_goals try simp only[ak,ru] at*
  all_goals first|omega|skip
  .simp;omega
  next h=>rw[ht,aE h,fd]
  next h=>rw[ht,aR h,fd]
 .rintro x rfl;with_reducible repeat' first|apply OS.ok;constructor|refine IM.mk λ_=>?_
  all_goals try simp[ak,ru] at*
  all_goals first|omega|(rw [dC])
def uh {xs:Y T.den} (hi:i<ah xs):ca (i+1) xs=ca i xs++[aK _ xs (i:Int)]:=by
 rw[pf hi,aei,aT,aH hi];rfl
def rm (s:SY) (c:SB i s):io s=Z (s.2.1,s.1,s.2.2.1,s.2.2.2):=by
 refine cF ?_;let⟨q,D,A,z⟩:=s;have hn:=c.n1;have N:=c.lk;have I:=c.dn;have F:=c.th;dsimp only at N I F;unfold io ba bQ b_ bI dP bS bY bz bc cW aF cM;with_reducible repeat' first|apply OS.ok;constructor|refine IM.mk λ_=>?_
 .simp;omega
 .omega
 .simp;omega
 .omega
 refine bn (l! q) (λn x=>x=((n:Int),(q,D,A,z),0,D,q.take n,A,z)) ?_ ?_ ?_
 .rintro n x hi rfl;have hg:=c.rd _ (bE (T:=c_) (xs:=q) (j:=(n:Int)) (by omega) (by omega));with_reducible repeat' first|apply OS.ok;constructor|refine IM.mk λ_=>?_
  all_goals try simp only[ak,ru] at*
  all_goals first|omega|skip
  .simp;omega
  .simp;omega
  .rw[fd,uh (T:=c_) hi];rfl
 .rintro x rfl;with_reducible repeat' first|apply OS.ok;constructor|refine IM.mk λ_=>?_
  all_goals try simp only[ak,ru] at*
  all_goals first|omega|skip
  simp
 .simp
def HJ (s:SY) (c:Int) (A:l! s.2.2.2<=1000):lf ((s.2.1,c),s.1,s.2.2.1,s.2.2.2)=Z (wl s.2.2.2 c (l! s.2.2.2)):=by
 refine cF ?_;refine av (P:=λy=>y=(wl s.2.2.2 c (l! s.2.2.2),s.1,s.2.2.1,s.2.2.2)) ?_ λy z=>by subst z;exact ahr rfl (aj rfl)
 unfold ml ba bQ b_ bI dP bi bS bY kQ bc cW aF cM;refine bn (l! s.2.2.2) (λi x=>x=((i:Int),s.1,s.2.2.1,s.2.2.2,s.2.1,wl s.2.2.2 c i)) ?_ ?_ rfl
 .rintro i x hi rfl;have D:=zE s.2.2.2 c i;with_reducible repeat' first|apply OS.ok;constructor|refine IM.mk λ_=>?_
  all_goals try simp only[ak,ru] at*
  all_goals first|omega|skip
  all_goals first|(simp;omega)|skip
  next h1 q=>rw[aq2 h1 q,fd]
  next h1 q=>rw[akz q,fd]
  next h1=>rw[al0 h1,fd]
 .rintro x rfl;with_reducible repeat' first|apply OS.ok;constructor|refine IM.mk λ_=>?_
  all_goals try simp[ak,ru] at*
  all_goals first|omega|rfl
structure AP (n:Nat) (s y:SY):Prop where
 a1:l! y.1=l! s.1
 a2:l! y.2.2.1=l! s.2.2.1
 a3:l! y.2.2.2=l! s.2.2.2
 rd:∀l∈y.1,l! l.2<=n+1
def AP.toSB {s y:SY} (h:AP i s y) (c:SB i s) (q:i+1<=100000):SB (i+1) y:=
 ⟨q,by rw[h.a1];exact c.lk,h.rd,by rw[h.a2];exact c.dn,by rw[h.a3];exact c.th⟩
def AP.same {s:SY} (c:SB i s) (x:Int) (d:θ) (t:Y p?) (hd:l! d=l! s.2.2.1) (ht:l! t=l! s.2.2.2):AP i s (s.1,x,d,t):=
 ⟨rfl,hd,ht,λl q=>fJ (c.rd l q)⟩
def AP.set {s:SY} (c:SB i s) (j a:Int) (r:η) (q:l! r<=i+1) (x:Int) (d:θ) (t:Y p?) (hd:l! d=l! s.2.2.1) (ht:l! t=l! s.2.2.2):AP i s (cC s.1 j (a,r),x,d,t):=
 ⟨cj _ _ _,hd,ht,λl z=>by
   rcases ui z with h|rfl
   .exact fJ (c.rd l h)
   .exact q⟩
def Pd (c:Y p?) (t st:Int):Y p?:=cC c t (st,(aK fg c t).2)
def owP (c:Y i?) (o t:Int):Y i?:=cC c o (t,(aK c_ c o).2)
def rdP (c:Y i?) (o:Int) (l:η):Y i?:=cC c o ((aK c_ c o).1,l)
def cdP (q:Y p?) (t c:Int):Y p?:=cC q t ((aK fg q t).1,c,(aK fg q t).2.2)
def atP (c:Y p?) (t:Int) (b:Bool):Y p?:=cC c t ((aK fg c t).1,(aK fg c t).2.1,b)
def VB (c:Y p?) (l:η):Y p?:=l.foldl (λx u=>Pd x u 4) c
def In (l:η) (u:Int):Int:=if (l! l)=0 then -1 else if l.contains u then u else aK aO l 0
def muP (w:WT) (o:Int):Int:=(aK itK w.2.2.1 o).2
def zu (w:WT) (s:SY) (t k o u:Int):SY×Int:=
 if k=1 then ((s.1,s.2.1,s.2.2.1,Pd s.2.2.2 t 2),0)
 else if k=2 then ((s.1,s.2.1,s.2.2.1,Pd s.2.2.2 t 5),0)
 else if k=6\/k=10 then ((owP s.1 o t,s.2),0)
 else if k=7\/k=11 then ((owP s.1 o (-1),s.2),0)
 else if k=8 then ((rdP s.1 o (xp (aK c_ s.1 o).2 [t]),s.2),0)
 else if k=9 then ((rdP s.1 o (wo (aK c_ s.1 o).2 t),s.2),0)
 else if k=12 then ((s.1,t,s.2.2),0)
 else if k=13 then ((s.1,-1,s.2.2),0)
 else if k=14 then ((s.1,s.2.1,s.2.2.1,atP s.2.2.2 t J),0)
 else if k=15 then ((s.1,s.2.1,s.2.2.1,atP s.2.2.2 t aa),0)
 else if k=16 then ((owP s.1 (muP w o) (-1),s.2.1,s.2.2.1,cdP (Pd s.2.2.2 t 3) t o),0)
 else if k=17 then ((owP s.1 (muP w o) t,s.2.1,s.2.2.1,cdP (Pd s.2.2.2 t 2) t 0),0)
 else if k=18 then (if (l! (wl s.2.2.2 o (l! s.2.2.2)))=0 then (s,-1) else ((s.1,s.2.1,s.2.2.1,Pd s.2.2.2 (In (wl s.2.2.2 o (l! s.2.2.2)) u) 4),In (wl s.2.2.2 o (l! s.2.2.2)) u))
 else if k=19 then ((s.1,s.2.1,s.2.2.1,VB s.2.2.2 (wl s.2.2.2 o (l! s.2.2.2))),(l! (wl s.2.2.2 o (l! s.2.2.2)):Int))
 else if k=20 then ((s.1,s.2.1,s.2.2.1,Pd s.2.2.2 o 1),0)
 else if k=22 then ((s.1,s.2.1,cC s.2.2.1 o J,s.2.2.2),0)
 else (s,0)
def Dw (l:η):∀c,l! (VB c l)=l! c:=by
 induction l with
 |nil=>intro c;rfl
 |cons x r q=>intro c;unfold VB;rw[dg];exact (q _).trans (cj ..)
def adk (hi:i<l! r):VB j (r.take (i+1))=Pd (VB j (r.take i)) (aK aO r (i:Int)) 4:=by
 unfold VB;rw[pf hi,j8,Qh,aT,aH hi];rfl
def ajg (u:Int) (c:¬l! r=0):In r u∈r:=by
 unfold In;rw[aE c];split
 next h=>exact dJ.1 h
 .exact bE (T:=aO) (by omega) (by omega)
def Vv (w:WT) (s:SY) (c:SB i s) (hw:l! w.2.2.1<=1000) (t k o u:Int):Ok (pA (w,s,t,k,o,u)) λy=>(y.2.2=J->EN w s t k o/\Mo w s t k o/\AP i s y.1/\(y.1,y.2.1)=zu w s t k o u)/\(y.2.2=aa->y.1=([],0,[],[]))/\(kz (w,s,t,k,o)=Z J->y.2.2=J):=by
 unfold pA ba bQ b_ da bI dD dP fX ck bi bS bz kQ bc cW aF cM;obtain⟨b,D,hb⟩:=Mg w s c hw t k o;refine aV D ?_;refine cH (λh=>aj ⟨nofun,λ_=>rfl,λI=>(by rw[D,h]at I;cases I)⟩) (λh=>?_);obtain⟨he,hry⟩:=hb h;refine aV (rm s c) ?_;suffices hmain:Ok _ _ from aX (λx=>AP i s (x.2.2.2.1,x.2.1,x.2.2.2.2)/\((x.2.2.2.1,x.2.1,x.2.2.2.2),x.1)=zu w s t k o u) hmain λx N=>aj ⟨λ_=>⟨he,hry,N⟩,nofun,λ_=>rfl⟩
 obtain⟨nm,t0,t1,cd,e1,e2,e3⟩:=id he;obtain⟨_,_,ce,lk,cn,th,fu⟩:=nm;have hn:=c.n1;have hlk:=c.lk;have hm:16<=k/\k<=19->0<=(aK itK w.2.2.1 o).2/\(aK itK w.2.2.1 o).2<l! w.2.1:=λh=>cd _ (bE (cn h).1 (cn h).2)
 have A:∀j:Int,0<=j->j<l! s.1->(aK c_ s.1 j).2.length<=i:=λj h0 h1=>c.rd _ (bE (T:=c_) h0 h1)
 cases kdI k
 case no hk _=>omega
 all_goals simp only[dR,dB,Ji]
 all_goals with_reducible repeat' first|apply OS.ok;constructor|refine IM.mk λ_=>?_
 all_goals try simp only[ak,ru] at*
 all_goals try rw[cj]
 all_goals first|omega|exact (hm ⟨by decide,by decide⟩).1|exact e1▸(hm ⟨by decide,by decide⟩).2|exact⟨AP.same c _ _ _ rfl rfl,rfl⟩|exact⟨AP.same c _ _ _ rfl (cj _ _ _),rfl⟩|exact⟨AP.same c _ _ _ (cj _ _ _) rfl,rfl⟩|skip
 all_goals try exact⟨AP.set c _ _ _ (fJ (A o (by omega) (by omega))) _ _ _ rfl rfl,rfl⟩
 .have:=A o (by omega) (by omega);refine aV (U6 _ _ (cA this (by have:=c.n1;omega)) (by simp)) ?_;with_reducible repeat' first|apply OS.ok;constructor|refine IM.mk λ_=>?_
  all_goals try simp only[ak,ru] at*
  all_goals first|omega|skip
  exact⟨AP.set c _ _ _ (by have:=ace (aK c_ s.1 o).2 [t];simp at this;omega) _ _ _ rfl rfl,rfl⟩
 .have:=A o (by omega) (by omega);have hl:l! (wo (aK c_ s.1 o).2 t)<=(aK c_ s.1 o).2.length:=Cq ..;refine aV (VK _ _ (by omega)) ?_;with_reducible repeat' first|apply OS.ok;constructor|refine IM.mk λ_=>?_
  all_goals try simp only[ak,ru] at*
  all_goals first|omega|skip
  exact⟨AP.set c _ _ _ (cA hl (by omega)) _ _ _ rfl rfl,rfl⟩
 .exact⟨AP.set c _ _ _ (fJ (A _ (hm ⟨by decide,by decide⟩).1 (by rw[e1];exact (hm ⟨by decide,by decide⟩).2))) _ _ _ rfl (by rw[cj,cj]),rfl⟩
 .exact⟨AP.set c _ _ _ (fJ (A _ (hm ⟨by decide,by decide⟩).1 (by rw[e1];exact (hm ⟨by decide,by decide⟩).2))) _ _ _ rfl (by rw[cj,cj]),rfl⟩
 .refine aV (HJ s o c.th) ?_;have hth:=c.th;have hll:=zE s.2.2.2 o (l! s.2.2.2);have hml:∀u∈wl s.2.2.2 o (l! s.2.2.2),0<=u/\u<l! s.2.2.2:=λu z=>⟨(Cu.1 z).1,(Cu.1 z).2.1⟩
  have hap:zu w s t 18 o u=if (l! (wl s.2.2.2 o (l! s.2.2.2)))=0 then (s,-1) else ((s.1,s.2.1,s.2.2.1,Pd s.2.2.2 (In (wl s.2.2.2 o (l! s.2.2.2)) u) 4),In (wl s.2.2.2 o (l! s.2.2.2)) u):=rfl
  unfold In at hap;revert hll hml hap;generalize wl s.2.2.2 o (l! s.2.2.2)=l;intro hll hml hap;with_reducible repeat' first|apply OS.ok;constructor|refine IM.mk λ_=>?_
  all_goals try simp only[ak,ru] at*
  all_goals first|omega|skip
  .have q:=hml _ (bE (T:=aO) (xs:=l) (j:=0) (by omega) (by omega));rw[aE (by omega),aE (by omega)]at hap;simp only[Md l u (by omega),obs];refine aM (λF=>?_) λF=>?_
   .have z:=hml u (dJ.1 F);rw[F,aR rfl]at hap;refine aj (aG z.1 z.2 (aG z.1 z.2 (aj ⟨AP.same c _ _ _ rfl (cj ..),?_⟩)));rw[hap];rfl
   .rw[F,aE (by decide)]at hap;refine aj (aG q.1 q.2 (aG q.1 q.2 (aj ⟨AP.same c _ _ _ rfl (cj ..),?_⟩)));rw[hap];rfl
  .rw[aR (by omega)]at hap;exact⟨AP.same c _ _ _ rfl rfl,hap.symm⟩
 .refine aV (HJ s o c.th) ?_;have hth:=c.th;have hll:=zE s.2.2.2 o (l! s.2.2.2);have hml:∀u∈wl s.2.2.2 o (l! s.2.2.2),0<=u/\u<l! s.2.2.2:=λu z=>⟨(Cu.1 z).1,(Cu.1 z).2.1⟩
  have hap:zu w s t 19 o u=((s.1,s.2.1,s.2.2.1,VB s.2.2.2 (wl s.2.2.2 o (l! s.2.2.2))),(l! (wl s.2.2.2 o (l! s.2.2.2)):Int)):=rfl;rw[hap];clear hap;generalize wl s.2.2.2 o (l! s.2.2.2)=l at hll hml ⊢;refine bn (l! l) (λn x=>x=((n:Int),s.2.1,0,s.1,s.2.2.1,VB s.2.2.2 (l.take n))) ?_ ?_ rfl
  .rintro n x hi rfl;have q:=hml _ (bE (T:=aO) (xs:=l) (j:=(n:Int)) (by omega) (by omega));have hq:=Dw (l.take n) s.2.2.2;with_reducible repeat' first|apply OS.ok;constructor|refine IM.mk λ_=>?_
   all_goals try simp only[ak,ru] at*
   all_goals first|omega|skip
   rw[fd,adk hi];rfl
  .rintro x rfl;rw[dC];with_reducible repeat' first|apply OS.ok;constructor|refine IM.mk λ_=>?_
   all_goals try simp only[ak,ru] at*
   all_goals first|omega|skip
   exact AP.same c _ _ _ rfl (Dw ..)
abbrev SN:Type:=SY×η×X?
abbrev ET:Type:=Int×Int×Int×Int×Int×X?
def aqr (a b:Int):Dy (a,b)=Z (decide (0<=a/\a<b)):=Se a b
structure NB (n:Nat) (s:SN):Prop where
 sb:SB n s.1
 c:l! s.2.1<=1000
 f:l! s.2.2.1<=1000
 k:l! s.2.2.2<=1000
structure SP (n:Nat) (s y:SN):Prop where
 ap:AP n s.1 y.1
 c:l! y.2.1=l! s.2.1
 f:l! y.2.2.1=l! s.2.2.1
 k:l! y.2.2.2=l! s.2.2.2
def SP.NB {s y:SN} (h:SP i s y) (q:NB i s) (z:i+1<=100000):NB (i+1) y:=
 ⟨h.ap.toSB q.sb z,by rw[h.c];exact q.c,by rw[h.f];exact q.f,by rw[h.k];exact q.k⟩
def sn0:SN:=(([],0,[],[]),[],[],[])
structure F16 (w:WT) (s:SN):Prop where
 c:l! s.2.1=l! w.1
 f:l! s.2.2.1=l! w.2.2.2.1
 k:l! s.2.2.2=l! w.2.2.2.2.1
def OX (w:WT) (s:SN) (c:l! w.2.2.1<=1000):Ok (rJ (w,s)) λb=>b=J->F16 w s:=by
 unfold rJ ba bQ b_ dD bi bc aF;refine kP (av (I_ w s.1 (by omega)) λb q=>?_);with_reducible repeat' first|apply OS.ok;constructor|refine IM.mk λ_=>?_
 all_goals try simp[ak,ru] at*
 all_goals first|(intro h;constructor<;>omega)|(intro h;cases h;done)
def Zc:∀(l:η),(∀k:Nat,k+1<l! l->l.getD k 0<l.getD (k+1) 0)->Ny l
 |[],_=>trivial
 |[x],_=>⟨λy A=>(by cases A),trivial⟩
 |x::y::r,h=>by
  have q:=Zc (y::r) λk D=>by have:=h (k+1) (by grind);simpa using this
  have h0:=h 0 (by simp);simp at h0;refine ⟨λz c=>?_,q⟩;rcases bB.1 c with rfl|c
  .exact h0
  .have:=q.1 z c;omega
structure AN (c:Int) (l:η):Prop where
 a:Ny l
 m:∀x:Int,x∈l->1<=x/\x<c
def I4:∀(l:η) (c hi:Int),Ny l->(∀y∈l,c<=y/\y<hi)->(l! l:Int)<=max 0 (hi-c)
 |[],c,hi,_,_=>by simp;omega
 |x::r,c,hi,h,hm=>by
  have h1:=hm x (cS ..);have z:=I4 r (x+1) hi h.2 λy q=>⟨by have:=h.1 y q;omega,(hm y (cq _ q)).2⟩
  grind
def AN.len (h:AN a r):(l! r:Int)<=max 0 a:=by
 have:=I4 r 1 a h.a h.m;omega
def amz (q:∀k:Nat,k<i->1<=aK aO r (k:Int)/\aK aO r (k:Int)<a) (I:∀k:Nat,k+1<i->r.getD k 0<r.getD (k+1) 0):(i:Int)<=max 0 a:=by
 have key:∀k:Nat,k<i->(k:Int)+1<=r.getD k 0:=by
  intro k;induction k with
  |zero=>intro A;have:=(q 0 A).1;exact this
  |succ k F=>grind
 rcases Nat.eq_zero_or_pos i with z|z
 .omega
 .have h1:=key (i-1) (by omega);have D:=(q (i-1) (by omega)).2;rw[Qh]at D
  grind
def JE (l:η) (c:Int) (hl:l! l<=1000000000\/c<=1000000000):Ok (qI (l,c)) λb=>b=J->AN c l:=by
 refine bn (l! l) (λi x=>x=(i:Int)/\(∀k:Nat,k<i->1<=aK aO l (k:Int)/\aK aO l (k:Int)<c)/\∀k:Nat,k+1<i->l.getD k 0<l.getD (k+1) 0) ?_ ?_ ⟨rfl,λk q=>by omega,λk q=>by omega⟩
 .rintro i x hi ⟨rfl,z,A⟩;have hbd:i<=1000000000:=by
   have:=amz z A;omega
  have D:0<(i:Int)->aZ .i64 ((i:Int)-1)=((i-1:Nat):Int):=λh=>by rw[jA];omega
  have N:(0<i->l.getD (i-1) 0<l.getD i 0)->1<=aK aO l (i:Int)/\aK aO l (i:Int)<c->aZ .i64 ((i:Int)+1)=((i+1:Nat):Int)/\(∀k:Nat,k<i+1->1<=aK aO l (k:Int)/\aK aO l (k:Int)<c)/\∀k:Nat,k+1<i+1->l.getD k 0<l.getD (k+1) 0:=λg1 g2=>by
   refine ⟨fd,λk q=>?_,λk q=>?_⟩
   .grind
   .grind
  with_reducible repeat' first|apply OS.ok;constructor|refine IM.mk λ_=>?_
  all_goals try simp only[ak,ru] at*
  all_goals first|omega|(intro h;cases h;done)|(rw [D (by omega)];omega)|skip
  .rename_i h1 h2 I F;rw[D I,Qh,Qh]at F
   grind
  .grind
 .rintro x ⟨rfl,z,A⟩;with_reducible repeat' first|apply OS.ok;constructor|refine IM.mk λ_=>?_
  all_goals try simp only[ak,ru] at*
  all_goals first|omega|skip
  exact⟨Zc l λk q=>A k q,iv (T:=aO) z⟩
structure VA (w:WT) (sy:SY) (ce fu:η) (t k o v:Int):Prop where
 ld:k=3->v=aK aO ce o
 gt:k=23->v=aK aO fu o
 br:k=5->v=0\/v=1
 el:¬k=3->¬k=23->¬k=5->¬k=4->¬k=22->v=(zu w sy t k o v).2
def ite2 {c:Prop} [Decidable c] {a b:SY×Int} (z:a.2=0) (q:b.2=0):(if c then a else b).2=0:=by by_cases h:c<;>simp[h,z,q]
def ar3 (w:WT) (sy:SY) (t k o u:Int) (h1:¬k=18) (c:¬k=19):(zu w sy t k o u).2=0:=by
 unfold zu;rw[aE h1,aE c];repeat (first|exact rfl|refine ite2 rfl ?_)
def alr (w:WT) (sy:SY) (t k o u c:Int) (h1:¬k=18):zu w sy t k o u=zu w sy t k o c:=by
 unfold zu;rw[aE h1,aE h1]
def afp (w:WT) (sy:SY) (t o u:Int):zu w sy t 18 o u=if (l! (wl sy.2.2.2 o (l! sy.2.2.2)))=0 then (sy,-1) else ((sy.1,sy.2.1,sy.2.2.1,Pd sy.2.2.2 (In (wl sy.2.2.2 o (l! sy.2.2.2)) u) 4),In (wl sy.2.2.2 o (l! sy.2.2.2)) u):=rfl
def aca (w:WT) (s:SN) (hs:NB i s) (hf:F16 w s) (e:ET) (he:EN w s.1 e.1 e.2.1 e.2.2.1):Ok (xA (s,e)) λb=>b=J->VA w s.1 s.2.1 s.2.2.1 e.1 e.2.1 e.2.2.1 e.2.2.2.1:=by
 let⟨t,k,o,v,si,de,fr⟩:=e;let⟨z,s2,N,s4⟩:=s;let⟨nm,t0,t1,cd,e1,e2,e3⟩:=he;let⟨_,_,ce,lk,cn,th,fu,_,_,_⟩:=nm;let⟨f1,f2,f3⟩:=hf;have hth:=hs.sb.th;dsimp only at*
 have hW:=XT z o hth;have hWl:=zE z.2.2.2 o (l! z.2.2.2);refine aL (λh=>?_) λn3=>?_
 .have h:k=3:=h;let⟨I,c1⟩:=ce (.inl h);exact aG I (by grind) (aQ (aj λq=>⟨λ_=>bJ q,λc=>by omega,λc=>by omega,λc=>(c h).elim⟩))
 refine aL (λh=>?_) λA=>?_
 .have h:k=23:=h;let⟨I,c1⟩:=fu (.inr h);exact aG I (by grind) (aQ (aj λq=>⟨λc=>by omega,λ_=>bJ q,λc=>by omega,λ_ c=>(c h).elim⟩))
 refine aL (λh=>?_) λn5=>?_
 .have h:k=5:=h;exact kP (aL (λq=>aj (aj λ_=>⟨λc=>by omega,λc=>by omega,λ_=>.inl q,λ_ _ c=>(c h).elim⟩)) λ_=>aj (aj λq=>⟨λc=>by omega,λc=>by omega,λ_=>.inr (bJ q),λ_ _ c=>(c h).elim⟩))
 refine aX (λx=>x.2=((z,s2,N,s4),t,k,o,v,si,de,fr)/\(x.1=J->k=4\/k=22)) (aL (λh=>aj ⟨rfl,λ_=>.inl h⟩) λ_=>aj ⟨rfl,λh=>.inr (bJ h)⟩) ?_;rintro⟨b,x⟩ ⟨e,hb⟩;subst e;refine aM (λh=>aj λ_=>⟨λc=>(n3 c).elim,λc=>(A c).elim,λc=>(n5 c).elim,λ_ _ _ h4 h5=>(hb h).elim (λh=>(h4 h).elim) λh=>(h5 h).elim⟩) λ_=>?_
 have fin:v=(zu w z t k o v).2->VA w z s2 N t k o v:=λh=>⟨λc=>(n3 c).elim,λc=>(A c).elim,λc=>(n5 c).elim,λ_ _ _ _ _=>h⟩
 refine aL (λh=>?_) λF=>?_
 .have h:k=18:=h;subst h;rw[afp]at fin;refine aV hW ?_;revert fin hWl;generalize wl z.2.2.2 o (l! z.2.2.2)=l;intro hWl fin;refine aL (λh=>aj λq=>fin ?_) λh=>?_
  .grind
  .dsimp [ak]at h;have hne:¬l! l=0:=by omega
   refine kP (eh (λ_=>aY (λ_=>?_) λ_=>aj (aj nofun)) λ_=>aj (aj nofun));refine aV (Md _ _ (by omega)) (aj (aj λq=>fin ?_));rw[aE hne];unfold In;rw[aE hne,aR q]
 refine aL (λh=>?_) λD=>?_
 .have h:k=19:=h;subst h;exact aV hW (aj λq=>fin (bJ q))
 exact aj λq=>fin (by rw[ar3 _ _ _ _ _ _ F D];exact bJ q)
structure S16 (w:WT) (s:SN) (e:ET):Prop where
 rd:Mo w s.1 e.1 e.2.1 e.2.2.1
 s1:e.2.1=1\/e.2.1=2->e.2.2.2.2.1= -1
 s2:¬(e.2.1=1\/e.2.1=2)->0<=e.2.2.2.2.1/\e.2.2.2.2.1<l! w.2.2.2.2.2/\(aK rk w.2.2.2.2.2 e.2.2.2.2.1).1=e.1
 de:0<l! e.2.2.2.2.2.1->e.2.1=5\/(e.2.1=3\/e.2.1=4)/\¬(aK mO w.1 e.2.2.1).2.2.1=0
 fr:0<l! e.2.2.2.2.2.2->e.2.1=4\/e.2.1=22
 nd:AN (aK aO s.2.2.2 e.1) e.2.2.2.2.2.1
 nf:AN (aK aO s.2.2.2 e.1) e.2.2.2.2.2.2
 va:VA w s.1 s.2.1 s.2.2.1 e.1 e.2.1 e.2.2.1 e.2.2.2.1
def ceP (c:η) (e:ET):η:=if e.2.1=4 then cC c e.2.2.1 e.2.2.2.1 else c
def fuP (c:η) (e:ET):η:=if e.2.1=22 then cC c e.2.2.1 e.2.2.2.1 else c
def Vz (w:WT) (s:SN) (e:ET):SN:=((zu w s.1 e.1 e.2.1 e.2.2.1 e.2.2.2.1).1,ceP s.2.1 e,fuP s.2.2.1 e,cC s.2.2.2 e.1 (aZ .i64 (aK aO s.2.2.2 e.1+1)))
def Bq (w:WT) (s:SN) (hs:NB i s) (hw:l! w.2.2.1<=1000) (e:ET) (hd:l! e.2.2.2.2.2.1<=1000000000\/(aK aO s.2.2.2 e.1:Int)<=1000000000) (hf:l! e.2.2.2.2.2.2<=1000000000\/(aK aO s.2.2.2 e.1:Int)<=1000000000):Ok (k_ (w,s,e)) λy=>(y.2=J->EN w s.1 e.1 e.2.1 e.2.2.1/\SP i s y.1/\S16 w s e/\y.1=Vz w s e)/\(y.2=aa->y.1=sn0):=by
 have I:∀{Q:SN×Bool->Prop},Q (sn0,aa)->Ok (Z (sn0,aa)) Q:=λh=>aj h
 have z0:((sn0,aa).2=J->EN w s.1 e.1 e.2.1 e.2.2.1/\SP i s (sn0,aa).1/\S16 w s e/\(sn0,aa).1=Vz w s e)/\((sn0,aa).2=aa->(sn0,aa).1=sn0):=⟨nofun,λ_=>rfl⟩
 unfold k_ ba bQ b_ da ia bI dD dP fX tI ck bi bS gF bY bz kQ bc cW aF cM;refine aX (λx=>x.2=(w,s,e,0)/\(x.1=aa->F16 w s/\(EN w s.1 e.1 e.2.1 e.2.2.1/\Mo w s.1 e.1 e.2.1 e.2.2.1)/\kz (w,s.1,e.1,e.2.1,e.2.2.1)=Z J)) ?_ ?_
 .refine av (OX w s hw) λb hb=>?_
  with_reducible repeat' first|apply OS.ok;constructor|refine IM.mk λ_=>?_
  .exact⟨rfl,nofun⟩
  simp only[aqr,obs];with_reducible repeat' first|apply OS.ok;constructor|refine IM.mk λ_=>?_
  .exact⟨rfl,nofun⟩
  .exact⟨rfl,nofun⟩
  .exact⟨rfl,nofun⟩
  let⟨c,hc0,hc⟩:=Mg w s.1 hs.sb hw e.1 e.2.1 e.2.2.1;refine aV hc0 (aj ⟨rfl,λh=>?_⟩);have h:c=J:=by simpa using h
  exact⟨hb (by assumption),hc h,h▸hc0⟩
 rintro⟨x1,A⟩ ⟨q,hx⟩;dsimp only at q hx;subst q;refine aM (λ_=>I z0) λh1=>?_
 let⟨hF,⟨hE,hR⟩,hEn⟩:=hx h1;clear hx h1;refine aX (λx=>x=(w,s,e,0)/\(e.2.1=1\/e.2.1=2->e.2.2.2.2.1= -1)/\(¬(e.2.1=1\/e.2.1=2)->0<=e.2.2.2.2.1/\e.2.2.2.2.1<l! w.2.2.2.2.2/\(aK rk w.2.2.2.2.2 e.2.2.2.2.1).1=e.1)) ?_ ?_
 .refine aX (λx=>x.2=(w,s,e,0)/\(x.1=J->e.2.1=1\/e.2.1=2)/\(x.1=aa->¬(e.2.1=1\/e.2.1=2))) ?_ ?_
  .refine aL (λh=>aj ⟨rfl,λ_=>.inl h,nofun⟩) λh=>aj ⟨rfl,λz=>.inr (bJ z),λz=>?_⟩
   have:=Ct z;exact λF=>F.elim h this
  rintro⟨x1,A⟩ ⟨q,hy1,hy2⟩;dsimp only at q hy1 hy2;subst q;refine aM (λhk=>?_) λhk=>?_
  .exact bW (λ_=>aj z0) λh=>aj ⟨rfl,λ_=>h,λF=>(F (hy1 hk)).elim⟩
  .refine aX (λx=>x.2=(w,s,e,0)/\(x.1=aa->0<=e.2.2.2.2.1/\e.2.2.2.2.1<l! w.2.2.2.2.2/\(aK rk w.2.2.2.2.2 e.2.2.2.2.1).1=e.1)) ?_ ?_
   .simp only[aqr,obs];refine bW (λ_=>aj ⟨rfl,nofun⟩) λh=>aG h.1 h.2 (aQ (aj ⟨rfl,λz=>⟨h.1,h.2,?_⟩⟩))
    simpa using z
   rintro⟨x1,A⟩ ⟨q,I⟩;dsimp only at q I;subst q;exact aM (λ_=>aj z0) λh=>aj ⟨rfl,λF=>((hy2 hk) F).elim,λ_=>I h⟩
 rintro x ⟨rfl,hS1,hS2⟩;let⟨nm,t0,t1,cd,e1,e2,e3⟩:=id hE;let⟨_,_,ce,lk,cn,th,fu,_,_,_⟩:=nm;let⟨f1,f2,f3⟩:=id hF;refine aX (λx=>x.2=(w,s,e,0)/\(x.1=J->e.2.1=3\/e.2.1=4)) ?_ ?_
 .with_reducible repeat' first|apply OS.ok;constructor|refine IM.mk λ_=>?_
  .exact⟨rfl,λ_=>.inl (by assumption)⟩
  .exact⟨rfl,λh=>.inr (bJ h)⟩
 rintro⟨x1,A⟩ ⟨q,D⟩;dsimp only at q D;subst q;refine aX (λx=>x.2=(w,s,e,0)/\(x.1=aa->0<l! e.2.2.2.2.2.1->e.2.1=5\/(e.2.1=3\/e.2.1=4)/\¬(aK mO w.1 e.2.2.1).2.2.1=0)) ?_ ?_
 .refine aY (λ_=>bW (λ_=>aM (λh=>?_) λ_=>aj ⟨rfl,nofun⟩) λh5=>aj ⟨rfl,λ_ _=>.inl h5⟩) λh=>aj ⟨rfl,λ_ z=>?_⟩
  .refine aG (ce (D h)).1 (ce (D h)).2 (aQ (aj ⟨rfl,λz _=>.inr ⟨D h,?_⟩⟩));simpa using z
  .dsimp only[ak]at h;omega
 rintro⟨x1,A⟩ ⟨q,hDe⟩;dsimp only at q hDe;subst q;refine aM (λ_=>I z0) λhde=>?_
 refine aX (λx=>x.2=(w,s,e,0)/\(x.1=aa->0<l! e.2.2.2.2.2.2->e.2.1=4\/e.2.1=22)) ?_ ?_
 .refine aY (λ_=>bW (λ_=>aj ⟨rfl,λh _=>.inr (by simpa using h)⟩) λN=>aj ⟨rfl,λ_ _=>.inl N⟩) λh=>aj ⟨rfl,λ_ z=>?_⟩
  dsimp only[ak]at h;omega
 rintro⟨x1,A⟩ ⟨q,hFr⟩;dsimp only at q hFr;subst q;refine aM (λ_=>I z0) λhfr=>?_
 have hk:=hs.k;have hc:=hs.c;have hfu:=hs.f;refine aX (λx=>x.2=(w,s,e,0)/\(x.1=aa->AN (aK aO s.2.2.2 e.1) e.2.2.2.2.2.1/\AN (aK aO s.2.2.2 e.1) e.2.2.2.2.2.2/\VA w s.1 s.2.1 s.2.2.1 e.1 e.2.1 e.2.2.1 e.2.2.2.1)) ?_ ?_
 .have hv:=aca w s hs hF e hE;refine aG t0 (by rw[f3];exact t1) (aQ (av (JE _ _ hd) λb hb=>?_));refine cH (λ_=>aj ⟨rfl,nofun⟩) λb1=>?_
  refine aG t0 (by rw[f3];exact t1) (aQ (av (JE _ _ hf) λb hb2=>?_));refine cH (λ_=>aj ⟨rfl,nofun⟩) λb2=>?_
  exact av hv λb hb3=>aj ⟨rfl,λh=>⟨hb b1,hb2 b2,hb3 (by simpa using h)⟩⟩
 rintro⟨x1,A⟩ ⟨q,hNum⟩;dsimp only at q hNum;subst q;refine aM (λ_=>I z0) λhnu=>?_
 let⟨hN1,hN2,hVA⟩:=hNum hnu;have hS:S16 w s e:=⟨hR,hS1,hS2,hDe hde,hFr hfr,hN1,hN2,hVA⟩
 refine a! (a! (a! ?_));refine aX (λx=>x.2=(w,s,e,0,0,s.2.1,s.2.2.1,s.2.2.2)/\zu w s.1 e.1 e.2.1 e.2.2.1 x.1=zu w s.1 e.1 e.2.1 e.2.2.1 e.2.2.2.1) ?_ ?_
 .exact aL (λ_=>aj ⟨rfl,rfl⟩) λh=>aj ⟨rfl,alr _ _ _ _ _ _ _ h⟩
 rintro⟨x1,A⟩ ⟨q,hxu⟩;dsimp only at q hxu;subst q;refine av (Vv w s.1 hs.sb hw e.1 e.2.1 e.2.2.1 x1) λy hy=>?_
 let⟨_,_,hap,hyq⟩:=hy.1 (hy.2.2 hEn);rw[hxu]at hyq;refine aX (λx=>x.1=e/\x.2.2.1=y.1/\x.2.2.2.1=ceP s.2.1 e/\x.2.2.2.2=(s.2.2.1,s.2.2.2)) ?_ ?_
 .unfold ceP;refine aL (λh=>?_) λh=>aj ⟨rfl,rfl,(aE h).symm,rfl⟩
  have hc4:=ce (.inr h);with_reducible repeat' first|apply OS.ok;constructor|refine IM.mk λ_=>?_
  all_goals try simp only[ak,ru] at*
  all_goals first|omega|exact (aR h).symm
 rintro⟨x1,A,x3,x4,x5,x6⟩ ⟨h1,z,F,N⟩;simp only[aU]at h1 z F N;obtain⟨rfl,rfl⟩:=N;subst h1 z F;refine aX (λx=>x.1=x1/\x.2.2.1=y.1/\x.2.2.2.1=ceP s.2.1 x1/\x.2.2.2.2.1=fuP s.2.2.1 x1/\x.2.2.2.2.2=s.2.2.2) ?_ ?_
 .unfold fuP;refine aL (λh=>?_) λh=>aj ⟨rfl,rfl,rfl,(aE h).symm,rfl⟩
  have hc4:=fu (.inl h);with_reducible repeat' first|apply OS.ok;constructor|refine IM.mk λ_=>?_
  all_goals try simp only[ak,ru] at*
  all_goals first|omega|exact (aR h).symm
 rintro⟨x1,A,x3,x4,x5,x6⟩ ⟨h1,z,N,h5,h6⟩;simp only at h1 z N h5 h6;subst h1 z N h5 h6;have l1:l! (ceP s.2.1 x1)=l! s.2.1:=by unfold ceP;split<;>simp[cj]
 have l2:l! (fuP s.2.2.1 x1)=l! s.2.2.1:=by unfold fuP;split<;>simp[cj]
 with_reducible repeat' first|apply OS.ok;constructor|refine IM.mk λ_=>?_
 all_goals try simp only[ak,ru] at*
 all_goals first|omega|skip
 exact⟨⟨hE,⟨hap,l1,l2,by rw[cj]⟩,hS,by unfold Vz;rw[<- hyq]⟩,nofun⟩
def Ve:Ok (oV ()) λl=>l! l=22:=by
 unfold oV;with_reducible repeat' first|apply OS.ok;constructor|refine IM.mk λ_=>?_
 all_goals rfl
def Rj (s:ζ):Ok (qO s) λ_=>True:=by
 refine av Ve λl c=>?_
 refine bn (l! l) (λi x=>x=(i:Int)) ?_ ?_ rfl
 .rintro i x hi rfl;with_reducible repeat' first|apply OS.ok;constructor|refine IM.mk λ_=>?_
  all_goals try simp[ak,ru] at*
  all_goals first|omega|exact fd
 .rintro x rfl;with_reducible repeat' first|apply OS.ok;constructor|refine IM.mk λ_=>?_
  all_goals try simp[ak,ru] at*
  all_goals omega
def OU (c:Int):Ok (pR c) λ_=>True:=by
 unfold pR jO aF;with_reducible repeat' first|apply OS.ok;constructor|refine IM.mk λ_=>?_
 all_goals exact trivial
def ae6 (c:Int):Ok (uE c) λ_=>True:=by
 unfold uE xB jO aF;refine kP (av (OU c) λ_ _=>?_);with_reducible repeat' first|apply OS.ok;constructor|refine IM.mk λ_=>?_
 all_goals try exact trivial
 refine av (P:=λ_=>True) ?_ λ_ _=>?_
 .with_reducible repeat' first|apply OS.ok;constructor|refine IM.mk λ_=>?_
  all_goals exact trivial
 .with_reducible repeat' first|apply OS.ok;constructor|refine IM.mk λ_=>?_
  all_goals exact trivial
def iw (s:ζ):Ok (hJ s) λ_=>True:=by
 refine aX (λb=>b=aa->l! s<=12) ?_ ?_
 .with_reducible repeat' first|apply OS.ok;constructor|refine IM.mk λ_=>?_
  .grind
  .grind
  .omega
  .grind
  refine av (OU _) λ_ _=>?_
  with_reducible repeat' first|apply OS.ok;constructor|refine IM.mk λ_=>?_
  .grind
  refine av (Rj _) λ_ _=>aj λ_=>?_
  grind
 .rintro b c;refine aM (λ_=>aj trivial) λh=>?_
  have c:=c h;refine bn (l! s) (λi x=>x=(i:Int)) ?_ ?_ rfl
  .rintro i x hi rfl;with_reducible repeat' first|apply OS.ok;constructor|refine IM.mk λ_=>?_
   all_goals try simp[ak,ru] at*
   all_goals first|omega|skip
   refine av (ae6 _) λ_ _=>?_
   with_reducible repeat' first|apply OS.ok;constructor|refine IM.mk λ_=>?_
   .exact trivial
   .exact fd
  .rintro x rfl;with_reducible repeat' first|apply OS.ok;constructor|refine IM.mk λ_=>?_
   all_goals try simp[ak,ru] at*
   all_goals first|omega|exact trivial
def EW (l:Y ζ) (s:ζ) (A:l! l<=1000000000):Ok (kB (l,s)) λr=> -1<=r/\r<l! l/\(0<=r->aK (.str) l r=s)/\(r<0->s∉l):=by
 refine bn (l! l) (λi x=>x=(i:Int)/\∀k:Nat,k<i->aK (.str) l (k:Int)≠s) ?_ ?_ ⟨rfl,λk z=>by omega⟩
 .rintro i x hi ⟨rfl,q⟩;with_reducible repeat' first|apply OS.ok;constructor|refine IM.mk λ_=>?_
  all_goals try simp[ak,ru] at*
  all_goals first|omega|skip
  .grind
  .refine ⟨fd,λk z=>?_⟩
   grind
 .rintro x ⟨rfl,q⟩;with_reducible repeat' first|apply OS.ok;constructor|refine IM.mk λ_=>?_
  all_goals try simp only[ak,ru] at*
  all_goals first|omega|skip
  exact⟨by omega,by omega,λh=>by omega,λ_ h=>iv (T:=.str) (p:=λc=>c≠s) q s h rfl⟩
structure VL (w:WT):Prop where
 c:l! w.1<=12
 l:l! w.2.1<=4
 d:l! w.2.2.1<=2
 f:l! w.2.2.2.1<=2
 t0:1<=l! w.2.2.2.2.1
 t:l! w.2.2.2.2.1<=4
 s:l! w.2.2.2.2.2<=60
def adh (w:WT) (h:VL w):Ok (uy w) λy=>l! y.1<=100:=by
 let⟨w1,D,A,N,I,F⟩:=w;let⟨h1,h2,h3,h4,_,h5,h6⟩:=h;dsimp only at*
 unfold uy ba bQ b_ da dD tI bi bS gF bY bz bc cW aF cM;refine qB (λx=>((l! w1:Int)-x.1).toNat) (λx=>x.2.1=(w1,D,A,N,I,F)/\0<=x.1/\x.1<=(l! w1:Int)/\(l! x.2.2:Int)<=x.1) ?_ ⟨rfl,by simp,by simp,by simp⟩;rintro⟨x1,x2,x3⟩ ⟨e,g1,g2,g3⟩;dsimp only at e g1 g2 g3;subst e;refine aY (λg4=>?_) λg4=>?_
 .dsimp only[ak]at g4;refine aX (λx=>x.2.1=(w1,D,A,N,I,F)/\x1<x.1/\x.1<=(l! w1:Int)/\(l! x.2.2:Int)<=x.1) ?_ ?_
  .refine cG (aQ (a! ?_));refine aL (λ_=>?_) λ_=>?_
   .with_reducible repeat' first|apply OS.ok;constructor|refine IM.mk λ_=>?_
    .exact eQ _
    .rw[jA];exact⟨rfl,by dsimp only;omega,by dsimp only;omega,by simp;omega⟩
   .generalize hz:aK _ _ x1=z;obtain⟨z1,(z2:Int),(q:Int),z4,z5⟩:=z;dsimp only;refine aX (λx=>x.2=((w1,D,A,N,I,F),x3++[z1],z1,z2,q,z4,z5)/\(x.1=aa->1<=q/\q<=4/\x1+q<=l! w1)) ?_ ?_
    .with_reducible repeat' first|apply OS.ok;constructor|refine IM.mk λ_=>?_
     .exact⟨rfl,nofun⟩
     .exact⟨rfl,nofun⟩
     .refine ⟨rfl,λh=>?_⟩;dsimp only[ak] at*
      rw[jA,nG]at h;omega
    .rintro⟨b,y⟩ ⟨e,hb⟩;dsimp only at e hb;subst e;refine aM (λ_=>aj (eQ _)) λh=>?_
     let⟨q1,q2,q3⟩:=hb h;refine qB (λx=>(q-x.1).toNat) (λx=>x.2=((w1,D,A,N,I,F),x3++[z1],z1,z2,q,z4,z5)/\0<=x.1/\x.1<=q) ?_ ⟨rfl,by simp,by dsimp only;omega⟩;rintro⟨k,y⟩ ⟨e,k0,k1⟩;dsimp only at e k0 k1;subst e;refine aY (λk2=>?_) λk2=>?_
     .dsimp only at k2;have e1:aZ .i64 (x1+k)=x1+k:=jA;refine aG (by dsimp only;rw[e1];omega) (by dsimp only;rw[e1];omega) (aQ ?_);refine aX (λx=>x.2=((w1,D,A,N,I,F),x3++[z1],z1,z2,q,z4,z5)) ?_ ?_
      .with_reducible repeat' first|apply OS.ok;constructor|refine IM.mk λ_=>?_
       all_goals rfl
      .rintro⟨b,y⟩ e;dsimp only at e;subst e;refine aM (λ_=>aj (eQ _)) λ_=>aj ?_
       dsimp only;rw[jA];exact⟨⟨rfl,by omega,by omega⟩,by omega⟩
     .dsimp only at k2;refine aj ?_;dsimp only;rw[jA];exact⟨rfl,by omega,by omega,by simp;omega⟩
  .rintro⟨y1,y2,y3⟩ ⟨e,g5,g6,g7⟩;dsimp only at e g5 g6 g7;subst e;refine aj ⟨⟨rfl,by dsimp only;omega,g6,g7⟩,?_⟩;dsimp only;omega
 .dsimp only[ak]at g4;refine av (P:=λy=>l! y.1<=100) ?_ λy hy=>aj hy
  refine bn (l! D) (λi x=>x.1=(i:Int)/\x.2.1=(w1,D,A,N,I,F)/\l! x.2.2<=12+i) ?_ ?_ ⟨rfl,rfl,by dsimp only;omega⟩
  .rintro i ⟨a,b,c⟩ hi ⟨e1,e2,e3⟩;dsimp only at e1 e2 e3;subst e1 e2;with_reducible repeat' first|apply OS.ok;constructor|refine IM.mk λ_=>?_
   all_goals try simp only[ak,ru] at*
   all_goals first|omega|(simp;omega)|skip
   exact⟨fd,by simp;omega⟩
  .rintro⟨a,b,c⟩ ⟨e1,e2,e3⟩;dsimp only at e1 e2 e3;subst e1 e2;refine aY (λg4=>(by dsimp only[ak]at g4;omega)) λ_=>?_
   refine av (P:=λy=>l! y.1<=100) ?_ λy hy=>aj hy
   refine bn (l! A) (λi x=>x.1=(i:Int)/\x.2.1=(w1,D,A,N,I,F)/\l! x.2.2<=16+i) ?_ ?_ ⟨rfl,rfl,by dsimp only;omega⟩
   .rintro i ⟨a,b,c⟩ hi ⟨e1,e2,e3⟩;dsimp only at e1 e2 e3;subst e1 e2;with_reducible repeat' first|apply OS.ok;constructor|refine IM.mk λ_=>?_
    all_goals try simp only[ak,ru] at*
    all_goals first|omega|(simp;omega)|skip
    exact⟨fd,by simp;omega⟩
   .rintro⟨a,b,c⟩ ⟨e1,e2,e3⟩;dsimp only at e1 e2 e3;subst e1 e2;refine aY (λg4=>(by dsimp only[ak]at g4;omega)) λ_=>?_
    refine av (P:=λy=>l! y.1<=100) ?_ λy hy=>aj hy
    with_reducible repeat' first|apply OS.ok;constructor|refine IM.mk λ_=>?_
    all_goals try simp only[ak,ru] at*
    all_goals first|omega|(simp;omega)
def siS (T:Int) (o:M ν) (s:π):M ν:=
 match o with
 |none=>U
 |some (t,n)=>if s.1=t/\s.2.1=n then Z (t,n+1) else if t<s.1/\s.1<T/\s.2.1=0 then Z (s.1,1) else U
def siF (T:Int) (l:Y π):M ν:=l.foldl (siS T) (Z (0,0))
def SV0 (w:WT):Prop:=siF (l! w.2.2.2.2.1) w.2.2.2.2.2≠U
def acn {T:Int} {l:Y π} (hi:i<l! l):siF T (l.take (i+1))=siS T (siF T (l.take i)) (aK rk l (i:Int)):=by
 rw[uh (T:=rk) hi];unfold siF;rw[j8];rfl
def v9 (w:WT):Ok (iR w) λb=>b=J->VL w/\SV0 w:=by
 unfold iR ba bQ b_ da dP fX bi bS jO gF bY bz bc cW aF cM;refine aX (λx=>x.2=w/\(x.1=aa->VL w)) ?_ ?_
 .with_reducible repeat' first|apply OS.ok;constructor|refine IM.mk λ_=>?_
  all_goals first|exact⟨rfl,λh=>(by cases h)⟩|skip
  dsimp only[ak] at*
  refine ⟨rfl,λh=>?_⟩;rw[nG]at h;constructor<;>omega
 rintro⟨b,x⟩ ⟨e,hb⟩;dsimp only at e hb;subst e;refine aM (λ_=>aj λh=>(by cases h)) λh=>?_
 have hv:=hb h;refine av (adh _ hv) λy hy=>?_
 refine cH (λ_=>aj λh=>(by cases h)) λ_=>?_
 let⟨w1,N,D,I,A,q⟩:=x;have h6:=hv.s;have h3:=hv.d;dsimp only at h6 h3;refine bn (l! y.1) (λi x=>x.1=(i:Int)/\x.2=(w1,N,D,I,A,q)) ?_ ?_ ⟨rfl,rfl⟩
 .rintro i ⟨a,b⟩ hi ⟨e1,e2⟩;dsimp only at e1 e2;subst e1 e2;refine aY (λF=>?_) λF=>(by dsimp only[ak]at F;omega)
  refine aX (λx=>x.2=(w1,N,D,I,A,q)) ?_ ?_
  .refine cG (aQ (av (iw _) λ_ _=>?_));refine cH (λ_=>aj rfl) λ_=>?_
   with_reducible repeat' first|apply OS.ok;constructor|refine IM.mk λ_=>?_
   all_goals try simp only[ak,ru] at*
   all_goals first|omega|skip
   refine av (EW _ _ (by simp;omega)) λ_ _=>aj rfl
  .rintro⟨a,b⟩ e;dsimp only at e;subst e;with_reducible repeat' first|apply OS.ok;constructor|refine IM.mk λ_=>?_
   .exact λh=>(by cases h)
   .dsimp only;exact⟨fd,rfl⟩
 rintro⟨a,b⟩ ⟨e1,e2⟩;dsimp only at e1 e2;subst e1 e2;refine aY (λF=>(by dsimp only[ak]at F;omega)) λ_=>?_
 refine av (P:=λb=>b=J->VL (w1,N,D,I,A,q)/\SV0 (w1,N,D,I,A,q)) ?_ λy hy=>aj hy
 refine bn (l! D) (λi x=>x.1=(i:Int)/\x.2=(w1,N,D,I,A,q)) ?_ ?_ ⟨rfl,rfl⟩
 .rintro i ⟨a,b⟩ hi ⟨e1,e2⟩;dsimp only at e1 e2;subst e1 e2;refine aY (λF=>?_) λF=>(by dsimp only[ak]at F;omega)
  refine cG (aQ ?_);refine aX (λx=>x.2=(w1,N,D,I,A,q)) ?_ ?_
  .with_reducible repeat' first|apply OS.ok;constructor|refine IM.mk λ_=>?_
   all_goals try simp only[ak,ru] at*
   all_goals first|omega|rfl
  .rintro⟨a,b⟩ e;dsimp only at e;subst e;with_reducible repeat' first|apply OS.ok;constructor|refine IM.mk λ_=>?_
   .exact λh=>(by cases h)
   .dsimp only;exact⟨fd,rfl⟩
 rintro⟨a,b⟩ ⟨e1,e2⟩;dsimp only at e1 e2;subst e1 e2;refine aY (λF=>(by dsimp only[ak]at F;omega)) λ_=>?_
 refine av (P:=λb=>b=J->VL (w1,N,D,I,A,q)/\SV0 (w1,N,D,I,A,q)) ?_ λy hy=>aj hy
 refine bn (l! q) (λi x=>x.1=(i:Int)/\x.2=(w1,N,D,I,A,q)/\siF (l! A) (q.take i)=Z (if i=0 then (0,0) else ((aK rk q ((i-1:Nat):Int)).1,(aK rk q ((i-1:Nat):Int)).2.1+1))/\(¬i=0->(0:Int)<=(aK rk q ((i-1:Nat):Int)).2.1/\(i:Int)>(aK rk q ((i-1:Nat):Int)).2.1)) ?_ ?_ ⟨rfl,rfl,rfl,λh=>(h rfl).elim⟩
 .rintro i ⟨a,b⟩ hi ⟨e1,e2,e3,hpb⟩;dsimp only at e1 e2;subst e1 e2;have hw:¬(i:Int)=0->aZ .i64 ((i:Int)-1)=((i-1:Nat):Int):=λh=>by rw[jA];omega
  have hnx:=acn (T:=l! A) hi;rw[e3]at hnx;clear e3;refine aY (λF=>?_) λF=>(by dsimp only[ak]at F;omega)
  refine aX (λx=>x=(w1,N,D,I,A,q)/\siF (l! A) (q.take (i+1))=Z (((aK rk q (i:Int)).1,(aK rk q (i:Int)).2.1+1))/\(0:Int)<=(aK rk q (i:Int)).2.1/\((i+1:Nat):Int)>(aK rk q (i:Int)).2.1) ?_ ?_
  .refine cG (aQ ?_);rw[hnx];generalize hz:aK rk q (i:Int)=z;obtain⟨(z1:Int),(z2:Int),(z3:Int)⟩:=z;dsimp only;refine aX (λx=>x.2=((w1,N,D,I,A,q),z1,z2,z3)/\(x.1=aa->0<=z1/\z1<l! A)) ?_ ?_
   .refine aY (λ_=>aj ⟨rfl,λh=>(by cases h)⟩) λg=>aj ⟨rfl,λh=>⟨g,?_⟩⟩
    rw[je]at h;exact h
   rintro⟨c,y⟩ ⟨e,hzr⟩;dsimp only at e hzr;subst e;refine aM (λ_=>aj λh=>(by cases h)) λhzb=>?_
   let⟨z0,zT⟩:=hzr hzb;refine aX (λx=>x.2=((w1,N,D,I,A,q),z1,z2,z3)/\(x.1=J->i=0\/¬(aK rk q ((i-1:Nat):Int)).1=z1)/\(x.1=aa->¬(i:Int)=0/\(aK rk q ((i-1:Nat):Int)).1=z1)) ?_ ?_
   .refine aL (λh=>aj ⟨rfl,λ_=>.inl (by have h:((i:Nat):Int)=0:=h;omega),λh=>(by cases h)⟩) λh=>?_
    rw[hw h];refine cG (aQ (aj ⟨rfl,λh2=>.inr (by simpa using h2),λh2=>⟨h,by simpa using h2⟩⟩))
   rintro⟨c,y⟩ ⟨e,hc1,hc⟩;dsimp only at e hc1 hc;subst e;refine aM (λhct=>?_) λhcf=>?_
   .refine aX (λx=>x.2=(w1,N,D,I,A,q)/\(x.1=aa->z2=0/\(¬i=0->((aK rk q ((i-1:Nat):Int)).1:Int)<z1))) ?_ ?_
    .refine bW (λ_=>aj ⟨rfl,λh=>(by cases h)⟩) λhz2=>?_
     refine aY (λh=>?_) λhi0=>aj ⟨rfl,λ_=>⟨hz2,λh=>by have hi0:((i:Nat):Int)<=0:=hi0;omega⟩⟩
     have h:(0:Int)<((i:Nat):Int):=h;rw[hw (by omega)];refine cG (aQ (aj ⟨rfl,λh2=>⟨hz2,λh3=>?_⟩⟩));rw[nG]at h2;have h4:=(hc1 hct).resolve_left h3;have h2:(aK rk q ((i-1:Nat):Int)).1<=z1:=h2;exact Int.lt_iff_le_and_ne.2 ⟨h2,h4⟩
    rintro⟨c,y⟩ ⟨e,hy⟩;dsimp only at e hy;subst e;refine aM (λ_=>aj λh=>(by cases h)) λh=>aj ⟨rfl,?_⟩
    let⟨q1,q2⟩:=hy h;have q1:z2=0:=q1;subst q1;refine ⟨?_,dX 0,by show _>(0:Int);omega⟩;unfold siS
    grind
   .obtain⟨hi0,hpr⟩:=hc hcf;rw[hw hi0];refine cG (aQ ?_);refine bW (λ_=>aj λh=>(by cases h)) λh=>aj ⟨rfl,?_⟩
    let⟨b0,b1⟩:=hpb (by omega);have h:z2=aZ .i64 ((aK rk q ((i-1:Nat):Int)).2.1+1):=h;rw[jA]at h;refine ⟨?_,by omega,by omega⟩;rw[aE (by omega)];unfold siS;dsimp only;rw[aR ⟨hpr.symm,h⟩,hpr,h]
  .rintro x ⟨rfl,hx,hx2⟩;refine aj ?_;dsimp only;refine ⟨fd,rfl,?_,λ_=>hx2⟩;rw[aE (by omega)];exact hx
 .rintro⟨a,b⟩ ⟨e1,e2,e3,_⟩;dsimp only at e1 e2;subst e1 e2;refine aY (λF=>(by dsimp only[ak]at F;omega)) λ_=>?_
  rw[dC]at e3;exact aj λ_=>⟨hv,by unfold SV0;dsimp only;rw[e3];simp⟩
def rdE (e:ET):Bool:=decide (e.2.1=3)||decide (e.2.1=23)
def fl (l:Y ET) (t:Int):θ:=(l.filter λe=>decide (e.1=t)).map rdE
def VH (l:Y ET) (t y:Int):Prop:=0<=y/\(fl l t).getD y.toNat aa=J
def Qo (l m:Y ET) (t:Int):fl (l++m) t=fl l t++fl m t:=by unfold fl;rw[nN,cf]
def WM {e:ET} (h:e.1=a):fl [e] a=[rdE e]:=by unfold fl;simp[h]
def Ti {e:ET} (h:¬e.1=a):fl [e] a=[]:=by unfold fl;simp[h]
def VH.app {l:Y ET} {y:Int} (h:VH l a y) (m:Y ET):VH (l++m) a y:=by
 let⟨h0,h1⟩:=h;refine ⟨h0,?_⟩;rw[Qo]
 grind
def VH.lt {l:Y ET} {y:Int} (h:VH l a y):y<l! (fl l a):=by
 let⟨h0,h1⟩:=h;rcases bZ y.toNat (l! (fl l a)) with g|g
 .omega
 .rw[aT,kF g]at h1;cases h1
def VH.last {l:Y ET} {e:ET} (h:rdE e=J) (c:a=l! (fl l e.1)):VH (l++[e]) e.1 a:=by
 subst c;refine ⟨by omega,?_⟩;rw[Qo,WM rfl,aT,cw (by simp),h];simp
def alk (l:Y ET) (t:Int):l! (fl l t)<=l! l:=by unfold fl;rw[bN];exact Cq ..
def thP:Nat->Y p?
 |0=>[]
 |n+1=>(1,0,aa)::aP n (0,0,aa)
def s0P (w:WT):SY:=(aP (l! w.2.1) (-1,[]),-1,aP (l! w.2.2.2.1) aa,thP (l! w.2.2.2.2.1))
def ce0 (w:WT):η:=w.1.map λc=>c.2.2.2.2
def fu0 (w:WT):η:=aP (l! w.2.2.2.1) 0
def ach (i:Nat):thP (i+2)=thP (i+1)++[(0,0,aa)]:=by
 show (1,0,aa)::aP (i+1) (0,0,aa)=(1,0,aa)::aP i (0,0,aa)++[(0,0,aa)]
 rw[lA,fG]
def IB:∀n,l! (thP n)=n
 |0=>rfl
 |n+1=>by simp[thP]
def L6 (w:WT) (h:VL w):pz w=Z (s0P w):=by
 let⟨w1,z,I,A,D,F⟩:=w;let⟨h1,h2,h3,h4,_,h5,h6⟩:=h;dsimp only at*
 refine cF ?_;unfold pz ba bQ b_ da dD dP fX bi bS bY bc cW aF cM;refine bn (l! z) (λi x=>x.1=(i:Int)/\x.2.1=(w1,z,I,A,D,F)/\x.2.2.2=(-1,aP i (-1,[]))) ?_ ?_ ⟨rfl,rfl,rfl⟩
 .rintro i ⟨a,b,c,d,e⟩ hi ⟨e1,e2,q⟩;obtain⟨rfl,rfl⟩:=q;subst e1 e2;with_reducible repeat' first|apply OS.ok;constructor|refine IM.mk λ_=>?_
  all_goals try simp[ak,ru] at*
  all_goals first|omega|(simp;omega)|skip
  exact⟨fd,by rw[lA]⟩
 rintro⟨a,b,c,d,e⟩ ⟨e1,e2,q⟩;obtain⟨rfl,rfl⟩:=q;subst e2;refine aY (λg4=>(by grind)) λ_=>?_
 refine av (P:=λs=>s=s0P (w1,z,I,A,D,F)) ?_ λy N=>aj N
 refine bn (l! A) (λi x=>x.1=(i:Int)/\x.2.1=(w1,z,I,A,D,F)/\x.2.2.2=(-1,aP (l! z) (-1,[]),aP i aa)) ?_ ?_ ⟨rfl,rfl,rfl⟩
 .rintro i ⟨a,b,c,d,e',f⟩ hi ⟨e1,e2,q⟩;obtain⟨rfl,rfl,rfl⟩:=q;subst e1 e2;with_reducible repeat' first|apply OS.ok;constructor|refine IM.mk λ_=>?_
  all_goals try simp[ak,ru] at*
  all_goals first|omega|(simp;omega)|skip
  exact⟨fd,by rw[lA]⟩
 rintro⟨a,b,c,d,e',f⟩ ⟨e1,e2,q⟩;obtain⟨rfl,rfl,rfl⟩:=q;subst e2;refine aY (λg4=>(by grind)) λ_=>?_
 refine av (P:=λs=>s=s0P (w1,z,I,A,D,F)) ?_ λy N=>aj N
 refine bn (l! D) (λi x=>x.1=(i:Int)/\x.2.1=(w1,z,I,A,D,F)/\x.2.2.2=(-1,aP (l! z) (-1,[]),aP (l! A) aa,thP i)) ?_ ?_ ⟨rfl,rfl,rfl⟩
 .rintro i ⟨a,b,c,d,e'',f',g⟩ hi ⟨e1,e2,q⟩;obtain⟨rfl,rfl,rfl,rfl⟩:=q;subst e1 e2;have hl:=IB i;refine aY (λ_=>?_) λg4=>(by grind)
  refine kP (aL (λh0=>aj ?_) λh0=>aj ?_)
  .have h0:((i:Nat):Int)=0:=h0;have h0:i=0:=by omega
   subst h0;exact bg (by grind) (by omega) (aj ⟨rfl,rfl,rfl⟩)
  .have h0:¬((i:Nat):Int)=0:=h0;obtain⟨j,rfl⟩:∃j,i=j+1:=⟨i-1,by omega⟩
   refine bg (by grind) (by omega) (aj ⟨fd,rfl,?_⟩);rw[ach]
 rintro⟨a,b,c,d,e'',f',g⟩ ⟨e1,e2,q⟩;obtain⟨rfl,rfl,rfl,rfl⟩:=q;refine aY (λg4=>(by grind)) λ_=>aj rfl
def acr {w:WT} (h:VL w):SB 0 (s0P w):=by
 let⟨h1,F,D,A,_,z,q⟩:=h;refine ⟨by omega,by simp[s0P];omega,λl c=>?_,by simp[s0P];omega,by simp[s0P,IB];omega⟩;rw[List.eq_of_mem_replicate c];simp
def XV (w:WT) (h:VL w):Ok (pz w) λs=>SB 0 s:=aqe (L6 w h) (acr h)
def uW (w:WT) (h:VL w):m8 w=Z (s0P w,ce0 w,fu0 w,aP (l! w.2.2.2.2.1) 0):=by
 have N:=L6 w h;let⟨w1,I,F,z,q,D⟩:=w;let⟨h1,h2,h3,h4,_,h5,h6⟩:=h;refine cF ?_;unfold m8 ba bQ b_ bI dP bS bY bz bc cW aF cM;refine aV N ?_;with_reducible repeat' first|apply OS.ok;constructor|refine IM.mk λ_=>?_
 all_goals try simp[ak,ru] at*
 all_goals first|omega|skip
 refine bn (l! w1) (λi x=>x.1=(i:Int)/\x.2.1=(w1,I,F,z,q,D)/\x.2.2.2=(s0P (w1,I,F,z,q,D),(w1.take i).map (λc=>c.2.2.2.2),aP (l! z) 0,aP (l! q) 0)) ?_ ?_ ⟨rfl,rfl,rfl⟩
 .rintro i ⟨a,b,c,d,e,f,g⟩ hi ⟨e1,e2,A⟩;obtain⟨rfl,rfl,rfl,rfl⟩:=A;subst e1 e2;with_reducible repeat' first|apply OS.ok;constructor|refine IM.mk λ_=>?_
  all_goals try simp only[ak,ru] at*
  all_goals first|omega|(simp;omega)|skip
  exact⟨fd,by rw[uh (T:=mO) hi,cf];rfl⟩
 rintro⟨a,b,c,d,e,f,g⟩ ⟨e1,e2,A⟩;obtain⟨rfl,rfl,rfl,rfl⟩:=A;refine aY (λg4=>(by grind)) λ_=>aj ?_
 rw[dC];rfl
def RQ (l:Y ET) (i t:Int) (ns:η) (hl:l! l<=1000000000) (hi:0<=i/\i<=l! l) (F:l! ns<=1000000000):Ok (rI (l,i,t,ns)) λb=>b=J->∀y∈ns,VH (l.take i.toNat) t y:=by
 unfold rI ba bI bi bS gF bz bc cW aF cM;refine bn (l! ns) (λk x=>x=(k:Int)/\∀j:Nat,j<k->VH (l.take i.toNat) t (aK aO ns (j:Int))) ?_ ?_ ⟨rfl,λj hj=>(by omega)⟩
 .rintro k x hk ⟨rfl,N⟩;refine aY (λg4=>?_) λg4=>(by grind)
  refine qB (λx=>(i-x.2.2).toNat) (λx=>0<=x.2.2/\x.2.2<=i/\x.1=(l! (fl (l.take x.2.2.toNat) t):Int)/\(x.2.1=J->VH (l.take x.2.2.toNat) t (aK aO ns (k:Int)))) ?_ ⟨by simp,hi.1,by simp[fl],nofun⟩;rintro⟨a,b,(c:Int)⟩ ⟨D,c1,ha,A⟩;dsimp only at D c1 ha A;subst ha;obtain⟨c,rfl⟩:∃n:Nat,c=(n:Int):=⟨c.toNat,by omega⟩
  rw[lL]at A;dsimp only;rw[lL];have hfl:=alk (l.take c) t;have htl:=List.length_take_le c l;refine aY (λI=>?_) λI=>?_
  .have I:(c:Int)<i:=I;have htk:l.take (c+1)=l.take c++[aK fP l (c:Int)]:=uh (T:=fP) (by omega);refine aX (λy=>y.1=(l! (fl (l.take (c+1)) t):Int)/\(y.2=J->VH (l.take (c+1)) t (aK aO ns (k:Int)))) ?_ ?_
   .rw[htk,Qo];refine aG D (by omega) (aQ ?_);refine bW (λhne=>aj ⟨by rw[Ti hne];simp,λh=>(A h).app _⟩) λhe=>?_
    have he:(aK fP l (c:Int)).1=t:=he;refine aX (λy=>y=J->VH (l.take c++[aK fP l (c:Int)]) t (aK aO ns (k:Int))) ?_ λy hy=>aj ⟨?_,hy⟩
    .refine aM (λh=>aj λ_=>(A h).app _) λ_=>?_
     refine cG (aQ ?_);refine aL (λF=>?_) λ_=>aj nofun
     have z:rdE (aK fP l (c:Int))=J->VH (l.take c++[aK fP l (c:Int)]) t (aK aO ns (k:Int)):=λh=>by
      rw[<- he]at F ⊢;exact VH.last h F.symm
     refine aG D (by omega) (aQ ?_);refine aL (λh=>aj λ_=>z (by unfold rdE;rw[bK h];rfl)) λ_=>?_
     exact aG D (by first|omega|(dsimp only;omega)) (aQ (aj λh=>z (by unfold rdE;rw[h];simp)))
    .dsimp only;rw[WM he,fd];simp
   .rintro⟨p,q⟩ ⟨hp,z⟩;refine aj ?_;dsimp only at hp z ⊢;rw[fd,lL]
    grind
  .refine av (P:=λr=>match r with|.inl y=>y=((k+1:Nat):Int)/\∀j:Nat,j<k+1->VH (l.take i.toNat) t (aK aO ns (j:Int))|.inr r=>r=J->∀y∈ns,VH (l.take i.toNat) t y) ?_ λr hr=>aj ?_
   .refine cH (λ_=>aj nofun) λh=>aj ⟨fd,λj hj=>?_⟩
    grind
   .grind
 .rintro x ⟨rfl,N⟩;refine aY (λg4=>(by grind)) λ_=>aj λ_=>iv (T:=aO) N
def CN (l:Y ET) (c:η):Prop:=∀t:Int,0<=t->t<l! c->aK aO c t=(l! (fl l t):Int)
def N8 (xs:Y T.den) (j k:Int) (x:T.den) (z:0<=j) (c:j<l! xs) (q:0<=k):aK _ (cC xs j x) k=if k=j then x else aK _ xs k:=by
 unfold aK cC
 grind
def CN.next {l:Y ET} (h:CN l r) (e:ET) (h0:0<=e.1) (h1:e.1<l! r) (F:l! l<1000000):CN (l++[e]) (cC r e.1 (aZ .i64 (aK aO r e.1+1))):=λt A z=>by
 rw[cj]at z;have:=alk l e.1;rw[N8 (T:=aO) _ _ _ _ h0 h1 A,Qo];split
 next q=>subst q;rw[WM rfl,h _ h0 h1,fd];simp
 next q=>rw[Ti λD=>q D.symm,h _ A z];simp
structure EvF (w:WT) (e:ET):Prop where
 nm:NM w e.2.1 e.2.2.1
 t0:0<=e.1
 t1:e.1<l! w.2.2.2.2.1
 cd:∀c∈w.2.2.1,0<=c.2/\c.2<l! w.2.1
structure TP (t:η×Int):Prop where
 l0:l! t.1<=9223372036854775807
 by_:∀x∈t.1,0<=x/\x<=255
 a0:0<=t.2
 a1:t.2<=l! t.1
structure oz (t t':η×Int):Prop where
 e:t'.1=t.1
 m:t.2<=t'.2
 p:TP t'
def oz.refl {t:m?} (h:TP t):oz t t:=⟨rfl,dX _,h⟩
def oz.trans {a b c:m?} (h:oz a b) (g:oz b c):oz a c:=⟨g.e.trans h.e,Int.le_trans h.m g.m,g.p⟩
def d8 (n:Int) (t:m?) (h:TP t):Ok (bk (n,t)) λy=>oz t y.2/\0<=y.1/\(1<=n->y.1<n)/\(t.2<l! t.1->1<=n->t.2<y.2.2):=by
 let⟨L,a⟩:=t;have I:=h;let⟨D,q,A,a1⟩:=h;dsimp only at D q A a1;unfold bk jO bY bz bc aF cM;refine aX (λx=>x.2=(L,a)/\(x.1=J->a=l! L\/n<1)/\(x.1=aa->a<l! L/\1<=n)) ?_ ?_
 .refine eh (λh=>aj ⟨rfl,λ_=>?_,nofun⟩) λh=>aj ⟨rfl,λc=>?_,λc=>?_⟩
  .grind
  .rw[oc]at c;exact .inr c
  .rw[nG]at c;dsimp [ak]at h c;omega
 rintro⟨b,x⟩ ⟨e,h1,c⟩;subst e;refine aM (λh=>aj ⟨oz.refl I,dX _,λN=>(by omega),λN h4=>?_⟩) λh=>?_
 .grind
 let⟨q1,q2⟩:=c h;refine aQ ?_;have e1:aZ .i64 (a+1)=a+1:=jA;rw[e1,jA (n:=a+1-1) (by omega) (by omega),show a+1-1=a by omega];have F:=q _ (bE (T:=.int .u8) (xs:=L) (j:=a) A q1);refine aG A q1 (aQ ?_);generalize (aK _ _ a)=z at F;rw[jA (n:=z) (by omega) (by omega)];refine l8 (by omega) (aj ?_);dsimp only;refine ⟨⟨rfl,by dsimp only;omega,⟨D,q,by dsimp only;omega,by dsimp only;omega⟩⟩,Int.tmod_nonneg _ F.1,λ_=>?_,λ_ _=>by omega⟩;exact Int.tmod_lt_of_pos _ (by omega)
def VN (s:SY) (c:l! s.2.2.2<=1000) (y:η×X?):Ok (mZ (s,y)) λl=>l! l<=l! s.2.2.2:=by
 refine bn (l! s.2.2.2) (λi x=>x.1=(i:Int)/\l! x.2<=i) ?_ ?_ ⟨rfl,by simp⟩
 .rintro i ⟨a,b⟩ hi ⟨e1,e2⟩;subst e1;with_reducible repeat' first|apply OS.ok;constructor|refine IM.mk λ_=>?_
  all_goals try simp only[ak,ru] at*
  all_goals first|omega|(simp;omega)|skip
  .exact⟨fd,by simp;omega⟩
  .exact⟨fd,by omega⟩
 .rintro⟨a,b⟩ ⟨e1,e2⟩;refine aY (λq=>(by grind)) λ_=>aj e2
def ZI (k u:Int) (t:m?) (h:TP t):Ok (oQ ((k,u),t)) λy=>oz t y.2/\(k=3\/k=4->0<=y.1/\y.1<5):=by
 unfold oQ bi kQ aF cM;cases kdI k
 case no q _=>
  simp only[q,dR,dB,Ji];exact aj ⟨oz.refl h,λh=>(by grind)⟩
 all_goals first
  |exact aj ⟨oz.refl h,λh=>(by grind)⟩
  |exact av (d8 2 t h) λy c=>aj ⟨c.1,λh=>(by omega)⟩
  |exact av (d8 3 t h) λy c=>aj ⟨c.1,λh=>(by grind)⟩
  |skip
 all_goals
  refine av (d8 8 t h) λy c=>?_
  have h1:=c.2.1;have A:=c.2.2.1 (by omega);refine aG h1 (by omega) (aG h1 (by omega) (aQ (aj ⟨c.1,λ_=>?_⟩)));have:∀z:Int,z∈([0,0,0,1,1,2,3,4]:η)->0<=z/\z<5:=by decide
  exact this _ (bE (T:=aO) h1 (by omega))
structure SZ (n:Nat) (s:SN):Prop where
 nb:NB n s
 c:l! s.2.1=5
 f:l! s.2.2.1=1
 k:l! s.2.2.2=4
def SZ.step {s y:SN} (h:SZ i s) (hp:SP i s y) (q:i+1<=100000):SZ (i+1) y:=
 ⟨hp.NB h.nb q,by rw[hp.c];exact h.c,by rw[hp.f];exact h.f,by rw[hp.k];exact h.k⟩
def Zt (s:SN) (z:SZ i s) (k o:Int) (ho:k=3->0<=o/\o<5) (t:m?) (h:TP t):Ok (qE ((s,k,o),t)) λy=>oz t y.2:=by
 let⟨N,I,F,D⟩:=s;have hc:=z.c;have hf:=z.f;have hth:=z.nb.sb.th;dsimp only at hc hf hth;have A:=VN N hth (I,F,D);unfold qE ba bi bS bz bc aF;cases kdI k
 case no hk _=>
  simp[hk,dR,dB,Ji];exact aj (oz.refl h)
 all_goals simp[dR,dB,Ji]
 all_goals first
  |exact aj (oz.refl h)
  |exact av (d8 2 t h) λy q=>aj q.1
  |exact av (d8 3 t h) λy q=>aj q.1
  |exact av A λy q=>aj (oz.refl h)
  |exact aG (by decide) (by omega) (aQ (aj (oz.refl h)))
  |exact aG (ho rfl).1 (by omega) (aQ (aj (oz.refl h)))
  |skip
 refine av A λl hl=>?_
 refine aY (λh1=>?_) λ_=>aj (oz.refl h)
 refine av (d8 _ t h) λy q=>?_
 have h2:=q.2.2.1 (by grind);exact aG q.2.1 h2 (aQ (aj q.1))
def ah7 (t:m?) (h:TP t) (r:η) (hr:l! r<=1000000):Ok (g9 (t,r)) λy=>l! y.1<=l! r/\oz t y.2.1/\y.2.2=r:=by
 refine bn (l! r) (λi x=>x.1=(i:Int)/\oz t x.2.1/\x.2.2.1=r/\l! x.2.2.2<=i) ?_ ?_ ⟨rfl,oz.refl h,rfl,by simp⟩
 .rintro i ⟨a,b,c,d⟩ hi ⟨e1,e2,z,D⟩;dsimp only at e1 e2 z D;subst e1 z;refine aY (λI=>?_) λI=>(by grind)
  refine aX (λx=>oz t x.1/\x.2.1=c/\l! x.2.2<=i+1) ?_ ?_
  .refine cG (cG (aQ ?_));refine aX (λx=>oz t x.2.1/\x.2.2=(c,d)) ?_ ?_
   .refine aM (λ_=>?_) λ_=>aj ⟨e2,rfl⟩
    exact av (d8 2 b e2.p) λy N=>aj ⟨e2.trans N.1,rfl⟩
   .rintro⟨p,q,u⟩ ⟨A,F⟩;subst F;refine aM (λ_=>?_) λ_=>aj ⟨A,rfl,by dsimp only;omega⟩
    exact bg (by grind) (by omega) (aj ⟨A,rfl,by simp;omega⟩)
  .rintro⟨p,q,u⟩ ⟨A,F,f3⟩;subst F;refine aj ?_;exact⟨fd,A,rfl,f3⟩
 .rintro⟨a,b,c,d⟩ ⟨e1,e2,z,D⟩;dsimp only at e1 e2 z D;subst z;refine aY (λI=>(by grind)) λ_=>aj ⟨D,e2,rfl⟩
def adx:tP ()=Z [3,3,3,3,3,4,4,4,4,4,5,5,5,6,6,6,7,7,7,8,9,10,11,12,13,14,14,15,16,16,17,17,18,18,19,20,1,1,2,21,22,23,23]:=rfl
abbrev RR:Type:=η×η×X?
structure RB4 (m:Nat) (r:RR):Prop where
 r0:l! r.1<=m
 r1:l! r.2.1<=m
 r2:l! r.2.2.1<=m
 r3:l! r.2.2.2<=m
def aev (s:SN) (hs:SZ i s) (w:WT) (hw:l! w.1=5) (t:m?) (h:TP t) (r:RR) (hr:RB4 1000000 r):Ok (qF ((s,w),t,r)) λy=>oz t y.2.1/\y.2.2=r/\(t.2<l! t.1->t.2<y.2.1.2)/\l! y.1.2.2.2.2.2.1<=1000000/\l! y.1.2.2.2.2.2.2<=1000000:=by
 let⟨r0,r1,r2,r3⟩:=r;let⟨h0,h1,h2,h3⟩:=hr;dsimp only at h0 h1 h2 h3;unfold qF Prod.m Prod.p Prod.q ba bQ b_ da ia tJ O3 Prod.l Prod.r Prod.t dP fX bi bY bz bc aF;refine av (d8 4 t h) λy hy=>?_
 refine aV adx ?_;refine av (d8 _ y.2 hy.1.p) λz hz=>?_
 let⟨y1,yt⟩:=y;let⟨z1,zt⟩:=z;let⟨ty,yy0,yy1,yy2⟩:=hy;let⟨tz,zz0,zz1,_⟩:=hz;dsimp only at ty yy0 yy1 yy2 tz zz0 zz1;have yy1:=yy1 (by decide);have hzl:=zz1 (by decide);refine aG zz0 hzl (aQ ?_);generalize (aK _ _ z1)=k;refine av (d8 6 zt tz.p) λv D=>?_
 let⟨v1,vt⟩:=v;have tv:=D.1;dsimp only at tv;have tt:=(ty.trans tz).trans tv;have hadv:t.2<l! t.1->t.2<vt.2:=λh=>by
  have:=yy2 h (by decide);have:=tz.m;have:=tv.m;omega
 refine aX (λx=>x.1=vt/\x.2.1=r0/\x.2.2.1=r1/\x.2.2.2.1=r2/\x.2.2.2.2.1=r3/\x.2.2.2.2.2.1=s/\x.2.2.2.2.2.2.1=w) ?_ ?_
 .refine aX (λx=>x.2.1=vt/\x.2.2.1=r0/\x.2.2.2.1=r1/\x.2.2.2.2.1=r2/\x.2.2.2.2.2.1=r3/\x.2.2.2.2.2.2.1=s/\x.2.2.2.2.2.2.2.1=w) ?_ ?_
  .with_reducible repeat' first|apply OS.ok;constructor|refine IM.mk λ_=>?_
   all_goals exact⟨rfl,rfl,rfl,rfl,rfl,rfl,rfl⟩
  .rintro⟨p,q⟩ hq;dsimp only at hq;with_reducible repeat' first|apply OS.ok;constructor|refine IM.mk λ_=>?_
   all_goals exact hq
 rintro⟨x1,x2,x3,x4,x5,x6,x7,x8,x9,x10⟩ ⟨F,f2,f3,f4,f5,f6,N⟩;dsimp only at F f2 f3 f4 f5 f6 N;subst F f2 f3 f4 f5 f6 N;refine av (ZI _ _ _ tv.p) λo ho=>?_
 let⟨o1,ot⟩:=o;let⟨to,ho⟩:=ho;dsimp only at to ho;refine av (Zt _ hs _ _ (λhk=>ho (.inl hk)) _ to.p) λq hq=>?_
 let⟨q1,qt⟩:=q;dsimp only at hq;have I:=(tt.trans to).trans hq;have hadv2:t.2<l! t.1->t.2<qt.2:=λh=>by have:=hadv h;have:=to.m;have:=hq.m;omega
 have row:∀(T:m?) (c:η) {R:Type} (k:η×((η×Int)×η)->M R) (Q:R->Prop),oz t T->l! c<=1000000->(∀v T',oz T T'->l! v<=1000000->Ok (k (v,T',c)) Q)->Ok (aw (g9 (T,c)) k) Q:=λT c R k Q A hc hk=>by
  refine av (ah7 T A.p c hc) λy hy=>?_
  grind
 refine aX (λx=>oz t x.1/\(t.2<l! t.1->t.2<x.1.2)/\x.2.1=x2/\x.2.2.1=x3/\x.2.2.2.1=x4/\x.2.2.2.2.1=x5/\l! x.2.2.2.2.2.2.2.2.2.2.2<=1000000) ?_ ?_
 .refine aX (λx=>x.2.1=qt/\x.2.2.1=x2/\x.2.2.2.1=x3/\x.2.2.2.2.1=x4/\x.2.2.2.2.2.1=x5) ?_ ?_
  .refine aL (λ_=>aj ⟨rfl,rfl,rfl,rfl,rfl⟩) λ_=>?_
   refine aL (λhk=>?_) λ_=>aL (λhk=>?_) λ_=>aj ⟨rfl,rfl,rfl,rfl,rfl⟩
   .exact aG (ho (.inl hk)).1 (by dsimp only;rw[hw];exact (ho (.inl hk)).2) (aQ (aj ⟨rfl,rfl,rfl,rfl,rfl⟩))
   .exact aG (ho (.inr hk)).1 (by dsimp only;rw[hw];exact (ho (.inr hk)).2) (aQ (aj ⟨rfl,rfl,rfl,rfl,rfl⟩))
  .rintro⟨b,p1,p2,p3,p4,p5,p6⟩ ⟨F,f2,f3,f4,f5⟩;dsimp only at F f2 f3 f4 f5;subst F f2 f3 f4 f5;refine aM (λ_=>?_) λ_=>aj ⟨I,hadv2,rfl,rfl,rfl,rfl,by simp⟩
   have adv3:∀T',oz p1 T'->t.2<l! t.1->t.2<T'.2:=λT' A h=>by have:=hadv2 h;have:=A.m;omega
   refine aL (λ_=>?_) λ_=>aL (λ_=>?_) λ_=>aL (λ_=>?_) λ_=>aL (λ_=>?_) λ_=>?_
   .refine row p1 p2 _ _ I h0 λv T' A D=>?_
    refine bt (cU rfl (ie ?_));exact aj ⟨I.trans A,adv3 T' A,rfl,rfl,rfl,rfl,D⟩
   .refine row p1 p3 _ _ I h1 λv T' A D=>?_
    refine bt (cU rfl (ie ?_));exact aj ⟨I.trans A,adv3 T' A,rfl,rfl,rfl,rfl,D⟩
   .refine row p1 p4 _ _ I h2 λv T' A D=>?_
    refine bt (cU rfl (ie ?_));exact aj ⟨I.trans A,adv3 T' A,rfl,rfl,rfl,rfl,D⟩
   .refine row p1 p5 _ _ I h3 λv T' A D=>?_
    refine bt (cU rfl (ie ?_));exact aj ⟨I.trans A,adv3 T' A,rfl,rfl,rfl,rfl,D⟩
   .omega
 rintro⟨u1,u2,u3,u4,u5,u6,u7,u8,u9,u10,u11,u12⟩ ⟨F,f2,f3,f4,f5,f6,N⟩;dsimp only at F f2 f3 f4 f5 f6 N;subst f3 f4 f5 f6;refine aX (λx=>oz t x.1/\(t.2<l! t.1->t.2<x.1.2)/\x.2.1=u2/\x.2.2.1=u3/\x.2.2.2.1=u4/\x.2.2.2.2.1=u5/\l! x.2.2.2.2.2.2.2.2.2.2.2.1<=1000000/\l! x.2.2.2.2.2.2.2.2.2.2.2.2<=1000000) ?_ ?_
 .refine aX (λx=>x.2=(u1,u2,u3,u4,u5,u6,u7,u8,u9,u10,u11,u12)) ?_ ?_
  .with_reducible repeat' first|apply OS.ok;constructor|refine IM.mk λ_=>?_
   all_goals rfl
  .rintro⟨b,x⟩ e;dsimp only at e;subst e;refine aM (λ_=>?_) λ_=>aj ⟨F,f2,rfl,rfl,rfl,rfl,N,by simp⟩
   have adv3:∀T',oz u1 T'->t.2<l! t.1->t.2<T'.2:=λT' A h=>by have:=f2 h;have:=A.m;omega
   refine aL (λ_=>?_) λ_=>aL (λ_=>?_) λ_=>aL (λ_=>?_) λ_=>aL (λ_=>?_) λ_=>?_
   .refine row u1 u2 _ _ F h0 λv T' A D=>?_
    refine bt (cU rfl (ie ?_));exact aj ⟨F.trans A,adv3 T' A,rfl,rfl,rfl,rfl,N,D⟩
   .refine row u1 u3 _ _ F h1 λv T' A D=>?_
    refine bt (cU rfl (ie ?_));exact aj ⟨F.trans A,adv3 T' A,rfl,rfl,rfl,rfl,N,D⟩
   .refine row u1 u4 _ _ F h2 λv T' A D=>?_
    refine bt (cU rfl (ie ?_));exact aj ⟨F.trans A,adv3 T' A,rfl,rfl,rfl,rfl,N,D⟩
   .refine row u1 u5 _ _ F h3 λv T' A D=>?_
    refine bt (cU rfl (ie ?_));exact aj ⟨F.trans A,adv3 T' A,rfl,rfl,rfl,rfl,N,D⟩
   .omega
 rintro⟨a1,a2,a3,a4,a5,a6,a7⟩ ⟨g1,g2,g3,g4,g5,g6,g7,g8⟩;dsimp only at g1 g2 g3 g4 g5 g6 g7 g8;subst g3 g4 g5 g6;exact aj ⟨g1,rfl,g2,g7,g8⟩
def Mp (e:ET):Prop:=l! e.2.2.2.2.2.1<=1000000/\l! e.2.2.2.2.2.2<=1000000
def ahn (hm:m<=1000) (s:SN) (hs:SZ m s) (w:WT) (hw:l! w.1=5) (hwt:l! w.2.2.2.2.1=4) (hwc:l! w.2.2.1<=1000) (N:Nat) (hN:N<=60) (n:Int) (hn:n<=N) (t:m?) (h:TP t):Ok (su ((s,w,n,J),t)) λy=>(∀e∈y.1,Mp e)/\l! y.1<=N:=by
 unfold su ba bQ b_ da ia tJ O3 Prod.l Prod.s bI dP fX tI AR Prod.o bi bS bY bz bc cW aF;refine bt (bt (bt (cI (by dsimp only[ak];omega) (cI (dX _) (bg (by dsimp only[ak];omega) (by omega) (IL (by dsimp only[ak];omega) ?_))))));refine aX (λx=>oz t x.1/\x.2.1=s/\x.2.2.1=w/\RB4 1 x.2.2.2) ?_ ?_
 .have hk:=hs.k;refine eU rfl (aX (λx=>oz t x.1/\x.2.1=s/\x.2.2.1=w/\l! x.2.2.2.1<=1/\l! x.2.2.2.2.1<=0/\l! x.2.2.2.2.2.1<=0/\l! x.2.2.2.2.2.2<=0) (aX (λx=>oz t x.2.1/\x.2.2.1=s/\x.2.2.2.1=w/\l! x.2.2.2.2.1<=0/\l! x.2.2.2.2.2.1<=0/\l! x.2.2.2.2.2.2.1<=0/\l! x.2.2.2.2.2.2.2<=0) ?_ ?_) ?_)
  .refine eU rfl (aG (by decide) (by dsimp only;omega) (aQ (aY (λ_=>av (d8 3 t h) λy hy=>aj ⟨hy.1,rfl,rfl,by simp,by simp,by simp,by simp⟩) λ_=>aj ⟨oz.refl h,rfl,rfl,by simp,by simp,by simp,by simp⟩)))
  .rintro⟨b,tp,s1,w1,r0,r1,r2,r3⟩ ⟨A,q,c,D,g5,I,F⟩;dsimp only at A q c D g5 I F;have q:=q.symm;subst q;have c:=c.symm;subst c;exact aM (λ_=>bg (by dsimp only;rw[aJ];omega) (by omega) (aj ⟨A,rfl,rfl,by dsimp only;(try rw[aD,aJ]);omega,by dsimp only;(try rw[aD,aJ]);omega,by dsimp only;(try rw[aD,aJ]);omega,by dsimp only;(try rw[aD,aJ]);omega⟩)) λ_=>aj ⟨A,rfl,rfl,by dsimp only;(try rw[aD,aJ]);omega,by dsimp only;(try rw[aD,aJ]);omega,by dsimp only;(try rw[aD,aJ]);omega,by dsimp only;(try rw[aD,aJ]);omega⟩
  rintro⟨tp,s1,w1,r0,r1,r2,r3⟩ ⟨A,q,c,D,g5,I,F⟩;dsimp only at A q c D g5 I F;have q:=q.symm;subst q;have c:=c.symm;subst c;refine eU rfl (aX (λx=>oz t x.1/\x.2.1=s/\x.2.2.1=w/\l! x.2.2.2.1<=1/\l! x.2.2.2.2.1<=1/\l! x.2.2.2.2.2.1<=0/\l! x.2.2.2.2.2.2<=0) (aX (λx=>oz t x.2.1/\x.2.2.1=s/\x.2.2.2.1=w/\l! x.2.2.2.2.1<=1/\l! x.2.2.2.2.2.1<=0/\l! x.2.2.2.2.2.2.1<=0/\l! x.2.2.2.2.2.2.2<=0) ?_ ?_) ?_)
  .refine eU rfl (aG (by decide) (by dsimp only;omega) (aQ (aY (λ_=>av (d8 3 tp A.p) λy hy=>aj ⟨A.trans hy.1,rfl,rfl,D,g5,I,F⟩) λ_=>aj ⟨A,rfl,rfl,D,g5,I,F⟩)))
  .rintro⟨b,tp,s1,w1,r0,r1,r2,r3⟩ ⟨A,q,c,D,g5,I,F⟩;dsimp only at A q c D g5 I F;have q:=q.symm;subst q;have c:=c.symm;subst c;exact aM (λ_=>bg (by dsimp only;rw[aJ];omega) (by omega) (aj ⟨A,rfl,rfl,by dsimp only;(try rw[aD,aJ]);omega,by dsimp only;(try rw[aD,aJ]);omega,by dsimp only;(try rw[aD,aJ]);omega,by dsimp only;(try rw[aD,aJ]);omega⟩)) λ_=>aj ⟨A,rfl,rfl,by dsimp only;(try rw[aD,aJ]);omega,by dsimp only;(try rw[aD,aJ]);omega,by dsimp only;(try rw[aD,aJ]);omega,by dsimp only;(try rw[aD,aJ]);omega⟩
  rintro⟨tp,s1,w1,r0,r1,r2,r3⟩ ⟨A,q,c,D,g5,I,F⟩;dsimp only at A q c D g5 I F;have q:=q.symm;subst q;have c:=c.symm;subst c;refine eU rfl (aX (λx=>oz t x.1/\x.2.1=s/\x.2.2.1=w/\l! x.2.2.2.1<=1/\l! x.2.2.2.2.1<=1/\l! x.2.2.2.2.2.1<=1/\l! x.2.2.2.2.2.2<=0) (aX (λx=>oz t x.2.1/\x.2.2.1=s/\x.2.2.2.1=w/\l! x.2.2.2.2.1<=1/\l! x.2.2.2.2.2.1<=1/\l! x.2.2.2.2.2.2.1<=0/\l! x.2.2.2.2.2.2.2<=0) ?_ ?_) ?_)
  .refine eU rfl (aG (by decide) (by dsimp only;omega) (aQ (aY (λ_=>av (d8 3 tp A.p) λy hy=>aj ⟨A.trans hy.1,rfl,rfl,D,g5,I,F⟩) λ_=>aj ⟨A,rfl,rfl,D,g5,I,F⟩)))
  .rintro⟨b,tp,s1,w1,r0,r1,r2,r3⟩ ⟨A,q,c,D,g5,I,F⟩;dsimp only at A q c D g5 I F;have q:=q.symm;subst q;have c:=c.symm;subst c;exact aM (λ_=>bg (by dsimp only;rw[aJ];omega) (by omega) (aj ⟨A,rfl,rfl,by dsimp only;(try rw[aD,aJ]);omega,by dsimp only;(try rw[aD,aJ]);omega,by dsimp only;(try rw[aD,aJ]);omega,by dsimp only;(try rw[aD,aJ]);omega⟩)) λ_=>aj ⟨A,rfl,rfl,by dsimp only;(try rw[aD,aJ]);omega,by dsimp only;(try rw[aD,aJ]);omega,by dsimp only;(try rw[aD,aJ]);omega,by dsimp only;(try rw[aD,aJ]);omega⟩
  rintro⟨tp,s1,w1,r0,r1,r2,r3⟩ ⟨A,q,c,D,g5,I,F⟩;dsimp only at A q c D g5 I F;have q:=q.symm;subst q;have c:=c.symm;subst c;refine eU rfl (aX (λx=>oz t x.1/\x.2.1=s/\x.2.2.1=w/\l! x.2.2.2.1<=1/\l! x.2.2.2.2.1<=1/\l! x.2.2.2.2.2.1<=1/\l! x.2.2.2.2.2.2<=1) (aX (λx=>oz t x.2.1/\x.2.2.1=s/\x.2.2.2.1=w/\l! x.2.2.2.2.1<=1/\l! x.2.2.2.2.2.1<=1/\l! x.2.2.2.2.2.2.1<=1/\l! x.2.2.2.2.2.2.2<=0) ?_ ?_) ?_)
  .refine eU rfl (aG (by decide) (by dsimp only;omega) (aQ (aY (λ_=>av (d8 3 tp A.p) λy hy=>aj ⟨A.trans hy.1,rfl,rfl,D,g5,I,F⟩) λ_=>aj ⟨A,rfl,rfl,D,g5,I,F⟩)))
  .rintro⟨b,tp,s1,w1,r0,r1,r2,r3⟩ ⟨A,q,c,D,g5,I,F⟩;dsimp only at A q c D g5 I F;have q:=q.symm;subst q;have c:=c.symm;subst c;exact aM (λ_=>bg (by dsimp only;rw[aJ];omega) (by omega) (aj ⟨A,rfl,rfl,by dsimp only;(try rw[aD,aJ]);omega,by dsimp only;(try rw[aD,aJ]);omega,by dsimp only;(try rw[aD,aJ]);omega,by dsimp only;(try rw[aD,aJ]);omega⟩)) λ_=>aj ⟨A,rfl,rfl,by dsimp only;(try rw[aD,aJ]);omega,by dsimp only;(try rw[aD,aJ]);omega,by dsimp only;(try rw[aD,aJ]);omega,by dsimp only;(try rw[aD,aJ]);omega⟩
  rintro⟨tp,s1,w1,r0,r1,r2,r3⟩ ⟨A,q,c,D,g5,I,F⟩;dsimp only at A q c D g5 I F;have q:=q.symm;subst q;have c:=c.symm;subst c;exact jQ rfl (aj ⟨A,rfl,rfl,⟨D,g5,I,F⟩⟩)
 rintro⟨t0,s0,w0,r0⟩ ⟨A,q,c,D⟩;dsimp only at A q c D;have q:=q.symm;subst q;have c:=c.symm;subst c;refine qB (λx=>((l! t.1:Int)-x.1.2).toNat) (λx:m?×SN×WT×Y ET×RR=>oz t x.1/\x.2.2.1=w/\SZ (m+l! x.2.2.2.1) x.2.1/\l! x.2.2.2.1<=N/\(∀e∈x.2.2.2.1,Mp e)/\RB4 (l! x.2.2.2.1+1) x.2.2.2.2) ?_ ⟨A,rfl,(by simpa using hs),by simp,λe he=>(by cases he),D⟩;rintro⟨tp,s,w',out,r⟩ ⟨i1,i2,i3,i4,i5,i6⟩;dsimp only at i1 i2 i3 i4 i5 i6;subst i2;refine aX (λx=>x.2=(tp,s,w',out,r)/\(x.1=J->l! out<N/\tp.2<l! tp.1)) ?_ ?_
 .refine aY (λh1=>aj ⟨rfl,λh2=>?_⟩) λ_=>aj ⟨rfl,nofun⟩
  rw[oc]at h2;dsimp only[ak]at h1 h2;exact⟨by omega,h2⟩
 rintro⟨b,x⟩ ⟨e,hb⟩;dsimp only at e hb;subst e;refine aM (λh1=>?_) λ_=>aj ⟨i5,i4⟩
 let⟨ho,ht⟩:=hb h1;let⟨q0,q1,q2,q3⟩:=id i6;refine aX (λx=>oz tp x.1/\tp.2<x.1.2/\x.2.2.1=w'/\SZ (m+l! x.2.2.2.1) x.2.1/\l! x.2.2.2.1<=N/\(∀e∈x.2.2.2.1,Mp e)/\RB4 (l! x.2.2.2.1+1) x.2.2.2.2) ?_ ?_
 .refine av (aev s i3 w' hw tp i1.p r ⟨by omega,by omega,by omega,by omega⟩) λy hy=>?_
  let⟨ev,tp',r'⟩:=y;let⟨j1,j2,j3,j4,j5⟩:=hy;dsimp only at j1 j2 j3 j4 j5;subst j2;have j3:=j3 ht;refine bt (cU rfl (bt (cU rfl (bt (cU rfl (bt (cU rfl (ie ?_))))))));refine av (Bq w' s i3.nb hwc ev (.inl (by omega)) (.inl (by omega))) λz hz=>?_
  refine cH (λ_=>aj ⟨j1,j3,rfl,i3,i4,i5,i6⟩) λh2=>?_
  let⟨z1,z2⟩:=z;let⟨hE,hS,_⟩:=hz.1 h2;have hS2:=i3.step hS (by omega);refine aX (λx=>x.1=tp'/\x.2.2.1=w'/\x.2.2.2.1=out/\Mp x.2.2.2.2.1/\x.2.2.2.2.2.1=z1/\RB4 (l! out+2) x.2.2.2.2.2.2) ?_ ?_
  .refine aX (λx=>x.2=(tp',s,w',out,ev,z1,r')) ?_ ?_
   .refine aL (λ_=>aj rfl) λ_=>aj rfl
   .rintro⟨b,x⟩ e;dsimp only at e;subst e;have hk:=i3.k;let⟨ev1,ev2⟩:=ev;have t0:=hE.t0;have t1:=hE.t1;rw[hwt]at t1;dsimp only at t0 t1;refine aM (λ_=>?_) λ_=>aj ⟨rfl,rfl,rfl,⟨j4,j5⟩,rfl,⟨by dsimp only;omega,by dsimp only;omega,by dsimp only;omega,by dsimp only;omega⟩⟩
    refine aL (λ_=>?_) λ_=>aL (λ_=>?_) λ_=>aL (λ_=>?_) λ_=>aL (λ_=>?_) λ_=>?_
    .exact aG (by decide) (by dsimp only;omega) (aQ (a! (aj ⟨rfl,rfl,rfl,⟨j4,j5⟩,rfl,⟨by simp;omega,by dsimp only;omega,by dsimp only;omega,by dsimp only;omega⟩⟩)))
    .exact aG (by decide) (by dsimp only;omega) (aQ (a! (aj ⟨rfl,rfl,rfl,⟨j4,j5⟩,rfl,⟨by dsimp only;omega,by simp;omega,by dsimp only;omega,by dsimp only;omega⟩⟩)))
    .exact aG (by decide) (by dsimp only;omega) (aQ (a! (aj ⟨rfl,rfl,rfl,⟨j4,j5⟩,rfl,⟨by dsimp only;omega,by dsimp only;omega,by simp;omega,by dsimp only;omega⟩⟩)))
    .exact aG (by decide) (by dsimp only;omega) (aQ (a! (aj ⟨rfl,rfl,rfl,⟨j4,j5⟩,rfl,⟨by dsimp only;omega,by dsimp only;omega,by dsimp only;omega,by simp;omega⟩⟩)))
    .dsimp only at *;omega
  .rintro⟨x1,x2,x3,x4,x5,x6,x7⟩ ⟨k1,k2,k3,k4,k5,k6⟩;dsimp only at k1 k2 k3 k4 k5 k6;subst k1 k2 k3 k5;refine a! (aj ⟨j1,j3,rfl,?_,by simp;omega,λe he=>?_,?_⟩)
   .dsimp only;rw[aD,aJ,<-pL];exact hS2
   .rcases bF.1 he with he|he
    .exact i5 e he
    .rw[aA]at he;subst he;exact k4
   .dsimp only;rw[aD,aJ];exact k6
 rintro⟨tp',s',w'',out',r'⟩ ⟨k1,k2,k3,k4,k5,k6,k7⟩;dsimp only at k1 k2 k3 k4 k5 k6 k7;have e1:=i1.e;have a1:=k1.p.a1;have e2:=k1.e;refine aj ⟨⟨i1.trans k1,k3,k4,k5,k6,k7⟩,?_⟩;dsimp only;rw[e2,e1]at a1;omega
def LK0:Y x!:=[([109],aa),([110],aa),([114],J)]
structure W0 (w:WT):Prop where
 c:l! w.1=5
 l:w.2.1=LK0
 d:l! w.2.2.1=1
 f:l! w.2.2.2.1=1
 t:l! w.2.2.2.2.1=4
 s:l! w.2.2.2.2.2<=24
def W0.vl {w:WT} (h:W0 w):VL w:=⟨by rw[h.c];decide,by rw[h.l];decide,by rw[h.d];decide,by rw[h.f];decide,by rw[h.t];decide,by rw[h.t];decide,by have:=h.s;omega⟩
def L2:Ok (lP ()) W0:=by
 unfold lP ba bQ b_ da fX bS bY cW aF cM;refine bn 4 (λi x=>x.1=(i:Int)/\l! x.2.1=5/\x.2.2.1=LK0/\l! x.2.2.2.1=1/\l! x.2.2.2.2.1=1/\l! x.2.2.2.2.2.1=4/\l! x.2.2.2.2.2.2<=6*i) ?_ ?_ ⟨rfl,rfl,rfl,rfl,rfl,rfl,by simp⟩
 .rintro i ⟨a,w1,w2,w3,w4,w5,w6⟩ hi ⟨e1,e2,A,z,q,c,e7⟩;dsimp only at e1 e2 A z q c e7;subst e1;refine aY (λ_=>?_) λg=>(by dsimp only[ak]at g;simp at g;omega)
  refine bn 6 (λj x=>x.1=(j:Int)/\x.2.1=w1/\x.2.2.1=w2/\x.2.2.2.1=w3/\x.2.2.2.2.1=w4/\x.2.2.2.2.2.1=w5/\l! x.2.2.2.2.2.2<=6*i+j) ?_ ?_ ⟨rfl,rfl,rfl,rfl,rfl,rfl,by dsimp only;omega⟩
  .rintro j ⟨b,v1,v2,v3,v4,v5,v6⟩ hj ⟨d1,d2,N,I,F,D,d7⟩;dsimp only at d1 d2 N I F D d7;subst d1;refine aY (λ_=>?_) λg=>(by dsimp only at g;omega)
   refine a! (aj ?_);dsimp only;exact⟨fd,d2,N,I,F,D,by simp;omega⟩
  .rintro⟨b,v1,v2,v3,v4,v5,v6⟩ ⟨d1,d2,N,I,F,D,d7⟩;dsimp only at d1 d2 N I F D d7;subst d1 d2 N I F D;refine aY (λg=>(by dsimp only at g;omega)) λ_=>aj ?_
   dsimp only;exact⟨fd,e2,A,z,q,c,by omega⟩
 .rintro⟨a,w1,w2,w3,w4,w5,w6⟩ ⟨e1,e2,A,z,q,c,e7⟩;dsimp only at e1 e2 A z q c e7;subst e1;refine aY (λg=>(by dsimp only[ak]at g;simp at g)) λ_=>aj ?_
  exact⟨e2,A,z,q,c,by omega⟩
def SZ.mono {s:SN} (h:SZ i s) (hnm:i<=m) (hm:m<=100000):SZ m s:=
 ⟨⟨⟨hm,h.nb.sb.lk,λl q=>cA (h.nb.sb.rd l q) hnm,h.nb.sb.dn,h.nb.sb.th⟩,h.nb.c,h.nb.f,h.nb.k⟩,h.c,h.f,h.k⟩
structure TR (y:WT×List ET):Prop where
 len:l! y.2<=100000
 ls:∀e∈y.2,Mp e
 lk:y.2=[]\/y.1.2.1=LK0
abbrev IT:Type:=ω
abbrev CT:Type:=WT×Y (Int×Y IT)
def DL (a b:Int):jB (a,b)=Z (decide (0<=a/\a<b)):=by
 refine cF ?_;unfold jB jO aF;with_reducible repeat' first|apply OS.ok;constructor|refine IM.mk λ_=>?_
 .by_cases h:a<b<;>simp[*,fV]
 .simp;omega
def OQ (k:Int):pP k=Z (decide (1<=k/\k<=5)):=by
 refine cF ?_;unfold pP jO aF;with_reducible repeat' first|apply OS.ok;constructor|refine IM.mk λ_=>?_
 .by_cases h:k<=5<;>simp[*,cZ]
 .simp;omega
def tM (i:IT):η:=
 if i.1=1\/i.1=6\/i.1=10\/i.1=27 then [i.2.1]
 else if i.1=2\/i.1=3 then [i.2.1,i.2.2.1]
 else if i.1=4 then [i.2.1,i.2.2.1,i.2.2.2.1]
 else if i.1=7 then [i.2.1,i.2.2.2.1]
 else if i.1=8\/i.1=26 then [i.2.2.1]
 else if i.1=9 then [i.2.2.1,i.2.2.2.1]
 else []
def ye (i:IT):jT i=Z (tM i):=by
 let⟨c,i2⟩:=i;unfold jT tM ba bQ b_ bi aF;by_cases h1:c=1
 .subst h1;rfl
 by_cases h2:c=6
 .subst h2;rfl
 by_cases h3:c=10
 .subst h3;rfl
 by_cases h4:c=27
 .subst h4;rfl
 by_cases N:c=2
 .subst N;rfl
 by_cases I:c=3
 .subst I;rfl
 by_cases F:c=4
 .subst F;rfl
 by_cases D:c=7
 .subst D;rfl
 by_cases A:c=8
 .subst A;rfl
 by_cases z:c=26
 .subst z;rfl
 by_cases q:c=9
 .subst q;rfl
 simp[h1,h2,h3,h4,N,I,F,D,A,z,q,decide_false,bcF,jnr,gx,eV]
def Jl (z:IT):l! (tM z)<=3:=by
 unfold tM
 (repeat' split)<;>simp
def adv (l:Y IT) (a:Int) (q:l! l<=1000000):Ok (uz (l,a)) λ_=>True:=by
 unfold uz bi bS jO bz bc cW aF cM;refine qB (λx=>((l! l:Int)+1-x.2).toNat) (λx=>0<=x.2/\x.2<=(l! l:Int)+1) ?_ ⟨by dsimp only;omega,by dsimp only;omega⟩;rintro⟨(a:Int),(n:Int)⟩ ⟨h0,h1⟩;refine eh (λg=>?_) λ_=>aj trivial
 dsimp [ak]at g;refine aX (λ_=>True) ?_ λb _=>aj ?_
 .refine aX (λb=>b=aa->0<=a/\a<(l! l:Int)) ?_ ?_
  .refine aY (λ_=>aj nofun) λz=>aj λh=>?_
   rw[je]at h
   grind
  .intro b c;refine aM (λ_=>aj trivial) λh=>?_
   let⟨q0,q1⟩:=c h;refine aG q0 (by omega) (aQ ?_);refine aV (OQ _) ?_;refine cH (λ_=>aj trivial) λ_=>?_
   refine aG q0 (by omega) (aQ ?_);refine aL (λ_=>?_) λ_=>aj trivial
   exact aG q0 (by omega) (aQ (aj trivial))
 .dsimp only;rw[jA];omega
def UW (w:WT) (b n:Int):Ok (rL (w,b,n)) λ_=>True:=by
 unfold rL bi gF bz bc aF;refine aX (λ_=>True) ?_ λ_ _=>aj trivial
 refine aV (DL _ _) ?_;refine aL (λh=>?_) λ_=>aj trivial
 dsimp only[ak]at h;with_reducible repeat' first|apply OS.ok;constructor|refine IM.mk λ_=>?_
 all_goals try simp only[ak,ru] at*
 all_goals first|omega|trivial
def V5 (w:WT) (i:IT):Ok (qL (w,i)) λ_=>True:=by
 unfold qL ba bQ b_ da ia bi jO bz bc aF;simp only[DL,obs];refine aL (λ_=>?_) λ_=>?_
 .refine aX (λ_=>True) ?_ λ_ _=>aj trivial
  refine aL (λh=>?_) λ_=>aj trivial
  exact aG h.1 h.2 (aQ (aj trivial))
 refine aL (λ_=>?_) λ_=>?_
 .refine aX (λ_=>True) ?_ λ_ _=>aj trivial
  refine aL (λh=>?_) λ_=>aj trivial
  exact aG h.1 h.2 (aQ (aj trivial))
 refine aL (λ_=>?_) λ_=>?_
 .exact av (UW _ _ _) λ_ _=>aj trivial
 refine aL (λ_=>?_) λ_=>?_
 .exact av (UW _ _ _) λ_ _=>aj trivial
 refine aX (λx=>x.2=(w,i)) (aL (λ_=>aj rfl) λ_=>aj rfl) ?_;rintro⟨b,x⟩ e;dsimp only at e;subst e;refine aM (λ_=>?_) λ_=>?_
 .refine aX (λ_=>True) ?_ λ_ _=>aj trivial
  refine aL (λh=>?_) λ_=>aj trivial
  exact aG h.1 h.2 (aQ (aj trivial))
 refine aX (λx=>x.2=(w,i)) (aL (λ_=>aj rfl) λ_=>aL (λ_=>aj rfl) λ_=>aL (λ_=>aj rfl) λ_=>aj rfl) ?_;rintro⟨b,x⟩ e;dsimp only at e;subst e;refine aM (λ_=>?_) λ_=>?_
 .refine aX (λ_=>True) ?_ λ_ _=>aj trivial
  refine aL (λh=>?_) λ_=>aj trivial
  exact aG h.1 h.2 (aQ (aj trivial))
 refine aX (λx=>x.2=(w,i)) (aL (λ_=>aj rfl) λ_=>aL (λ_=>aj rfl) λ_=>aj rfl) ?_;rintro⟨b,x⟩ e;dsimp only at e;subst e;refine aM (λ_=>aj trivial) λ_=>?_
 refine aX (λx=>x.2=(w,i)) (aL (λ_=>aj rfl) λ_=>aj rfl) ?_;rintro⟨b,x⟩ e;dsimp only at e;subst e;with_reducible repeat' first|apply OS.ok;constructor|refine IM.mk λ_=>?_
 all_goals trivial
structure VI (n:Int) (i:IT):Prop where
 o1:1<=i.1
 o2:i.1<=28
 r:∀j∈tM i,0<=j/\j<n
structure VT (t:Int×List IT):Prop where
 r0:0<=t.1
 r1:t.1<=32
 i:∀i∈t.2,VI t.1 i
def Jc (w:WT) (k:Int) (c:Int×Y IT) (hc:l! c.2<=1000000):Ok (lh (w,k,c)) λb=>b=J->VT c:=by
 unfold lh ba bQ b_ da bI dP AR bi bS gF bz bc cW aF cM;refine aX (λx=>x.2=(w,c)/\(x.1=aa->0<=c.1/\c.1<=32)) ?_ ?_
 .refine aY (λ_=>aj ⟨rfl,nofun⟩) λh0=>aY (λ_=>aj ⟨rfl,nofun⟩) λh1=>aj ⟨rfl,λ_=>⟨h0,h1⟩⟩
 rintro⟨b,x⟩ ⟨e,q⟩;dsimp only at e q;subst e;refine aM (λ_=>aj nofun) λh=>?_
 let⟨r0,r1⟩:=q h;refine bn (l! c.2) (λi x=>x.1=(i:Int)/\x.2=(w,c)/\∀k:Nat,k<i->VI c.1 (aK (.st (.pr (.int .i64) (.pr (.int .i64) (.pr (.int .i64) (.pr (.int .i64) (.pr (.int .i64) (.int .i64))))))) c.2 (k:Int))) ?_ ?_ ⟨rfl,rfl,λk I=>by omega⟩
 .rintro i ⟨a,x⟩ hi ⟨e1,e2,A⟩;dsimp only at e1 e2 A;subst e1 e2;refine aY (λ_=>?_) λg=>(by dsimp only[ak]at g;omega)
  refine cG (aQ ?_);generalize hz:(aK _ _ _)=z;refine aX (λx=>x.2=(w,c,z)/\(x.1=aa->1<=z.1/\z.1<=28)) ?_ ?_
  .refine aY (λ_=>aj ⟨rfl,nofun⟩) λh0=>aY (λ_=>aj ⟨rfl,nofun⟩) λh1=>?_
   refine aM (λ_=>aj ⟨rfl,nofun⟩) λ_=>?_
   refine av (V5 w z) λy _=>?_
   refine cH (λ_=>aj ⟨rfl,nofun⟩) λ_=>?_
   exact av (adv c.2 _ hc) λy _=>aj ⟨rfl,λ_=>⟨h0,h1⟩⟩
  rintro⟨b,x⟩ ⟨e,q⟩;dsimp only at e q;subst e;refine aM (λ_=>aj nofun) λh=>?_
  let⟨o1,o2⟩:=q h;refine aX (λx=>x.2=(w,c,z)) ?_ ?_
  .simp only[DL,obs];have key:∀(f:π->Bool),Ok (aI (!decide (0<=z.2.2.2.2.2/\z.2.2.2.2.2<bC (l! w.2.2.2.2.2))) (Z (bV (J,w,c,z)):M (Bool⊕(Bool×WT×(Int×Y IT)×IT))) (chk (gr z.2.2.2.2.2 (l! w.2.2.2.2.2)) λ_=>lt (aK (.st (.pr (.int .i64) (.pr (.int .i64) (.int .i64)))) w.2.2.2.2.2 z.2.2.2.2.2).1 λN=>Z (bV (!decide ((N:Int)=k),w,c,z)))) (λr=>match r with|.inl r=>(match (r:Bool) with|_=>True)|.inr x=>x.2=(w,c,z)):=λf=>by
    refine bW (λ_=>aj rfl) λh=>?_
    exact aG h.1 h.2 (aQ (aj rfl))
   with_reducible repeat' first|apply OS.ok;constructor|refine IM.mk λ_=>?_
   all_goals first|rfl|(simp only[ak]at *;omega)|skip
  rintro⟨b,x⟩ e;dsimp only at e;subst e;refine aM (λ_=>aj nofun) λ_=>?_
  refine aX (λx=>x.2=(w,c,z)) ?_ ?_
  .simp only[DL,obs];with_reducible repeat' first|apply OS.ok;constructor|refine IM.mk λ_=>?_
   all_goals rfl
  rintro⟨b,x⟩ e;dsimp only at e;subst e;refine aM (λ_=>aj nofun) λ_=>?_
  refine aV (ye z) ?_;refine bn (l! (tM z)) (λj x=>x.1=(j:Int)/\x.2=(w,c)/\∀k:Nat,k<j->0<=aK aO (tM z) (k:Int)/\aK aO (tM z) (k:Int)<c.1) ?_ ?_ ⟨rfl,rfl,λk I=>by omega⟩
  .rintro j ⟨a,x⟩ hj ⟨d1,F,D⟩;dsimp only at d1 F D;subst d1 F;refine aY (λ_=>?_) λg=>(by dsimp only[ak]at g;omega)
   refine cG (aQ ?_);refine aV (DL _ _) ?_;refine bW (λ_=>aj nofun) λh=>aj ?_
   dsimp only at h ⊢;have hj32:l! (tM z)<=3:=Jl z;refine ⟨fd,rfl,λk I=>?_⟩;rcases bZ k j with h1|h1
   .exact D k h1
   .rw[show k=j by omega];exact h
  .rintro⟨a,x⟩ ⟨d1,F,D⟩;dsimp only at d1 F D;subst d1 F;refine aY (λg=>(by dsimp only[ak]at g;omega)) λ_=>aj ?_
   dsimp only;refine ⟨fd,rfl,λk I=>?_⟩;rcases bZ k i with h1|h1
   .exact A k h1
   .rw[show k=i by omega,hz];exact⟨o1,o2,iv (T:=aO) D⟩
 .rintro⟨a,x⟩ ⟨e1,e2,A⟩;dsimp only at e1 e2 A;subst e1 e2;refine aY (λg=>(by dsimp only[ak]at g;omega)) λ_=>aj λ_=>⟨r0,r1,iv (T:=.st (.pr (.int .i64) (.pr (.int .i64) (.pr (.int .i64) (.pr (.int .i64) (.pr (.int .i64) (.int .i64))))))) (p:=VI c.1) A⟩
structure VC (c:CT):Prop where
 vl:VL c.1
 tl:l! c.2=l! c.1.2.2.2.2.1
 t:∀t∈c.2,VT t
structure CB (c:CT):Prop where
 lk:c.2=[]\/c.1.2.1=LK0
 th:l! c.2<=1000000
 ins:∀t∈c.2,l! t.2<=1000000
def L5 (c:CT) (q:CB c):Ok (pB c) λb=>b=J->VC c:=by
 let⟨w,l⟩:=c;let⟨_,h1,F⟩:=q;dsimp only at h1 F;unfold pB b_ bS bz bc cW aF cM;refine aX (λx=>x.2=(w,l)/\(x.1=aa->VL w/\l! l=l! w.2.2.2.2.1)) ?_ ?_
 .refine av (v9 w) λb q=>?_
  refine cH (λ_=>aj ⟨rfl,nofun⟩) λh=>aj ⟨rfl,λh3=>⟨(q h).1,?_⟩⟩
  simp at h3;omega
 rintro⟨b,x⟩ ⟨e,D⟩;dsimp only at e D;subst e;refine aM (λ_=>aj nofun) λh=>?_
 let⟨N,hl⟩:=D h;refine bn (l! l) (λi x=>x.1=(i:Int)/\x.2=(w,l)/\∀k:Nat,k<i->VT (aK xi l (k:Int))) ?_ ?_ ⟨rfl,rfl,λk hk=>by omega⟩
 .rintro i ⟨a,x⟩ hi ⟨e1,e2,A⟩;dsimp only at e1 e2 A;subst e1 e2;refine aY (λ_=>?_) λg=>(by dsimp only[ak]at g;omega)
  refine cG (aQ ?_);have hm:=bE (T:=xi) (xs:=l) (j:=(i:Int)) (by omega) (by omega);revert hm;generalize I:(aK xi l (i:Int))=z;intro hm;refine av (Jc w _ z (F z hm)) λb q=>?_
  refine cH (λ_=>aj nofun) λh=>aj ?_
  dsimp only;refine ⟨fd,rfl,λk hk=>?_⟩;rcases bZ k i with h1|h1
  .exact A k h1
  .rw[show k=i by omega,I];exact q h
 .rintro⟨a,x⟩ ⟨e1,e2,A⟩;dsimp only at e1 e2 A;subst e1 e2;refine aY (λg=>(by dsimp only[ak]at g;omega)) λ_=>aj λ_=>⟨N,hl,iv (T:=xi) (p:=VT) A⟩
abbrev TT:Type:=Int×η×Y η×Int
structure TL (E:Nat) (l:η):Prop where
 a:Ny l
 m:∀y∈l,0<=y/\y<(E:Int)
def TL.len (h:TL i r):l! r<=i:=by
 have:=I4 r 0 i h.a h.m;omega
def TL.nil (E:Nat):TL E []:=⟨trivial,λy c=>(by cases c)⟩
def TL.uni {b:η} (z:TL i r) (q:TL i b):TL i (xp r b):=
 ⟨Rs r b,λy c=>by
   rcases Rr.1 c with h|h
   .exact z.m y h
   .exact q.m y h⟩
def TL.mono (h:TL i r) (hf:i<=m):TL m r:=⟨h.a,λy c=>⟨(h.m y c).1,by have:=(h.m y c).2;omega⟩⟩
structure TH (E:Nat) (s:TT):Prop where
 r:l! s.2.1<=32
 t:l! s.2.2.1<=32
 l:∀l∈s.2.2.1,TL E l
 e0:0<=s.2.2.2
 e1:s.2.2.2<=(E:Int)
def TH.zero (E:Nat):TH E (0,[],[],0):=⟨by simp,by simp,λl c=>(by cases c),by simp,by simp⟩
def TH.mono {s:TT} (h:TH i s) (hf:i<=m):TH m s:=⟨h.r,h.t,λl c=>(h.l l c).mono hf,h.e0,by have:=h.e1;omega⟩
def dw (s:TT) (E:Nat) (I:E<=100000) (h:TH E s):cD s=Z ((s.1,s.2.2.2),s.2.1,s.2.2.1):=by
 let⟨h1,h2,F,h4,N⟩:=h;refine cF ?_;unfold cD ba bQ b_ bI dP bS bY bz bc cW aF cM;refine a! ?_;refine bn (l! s.2.2.1) (λi x=>x.1=(i:Int)/\x.2.1=s/\x.2.2.2.1=(s.1,s.2.2.2)/\x.2.2.2.2.1=s.2.1/\x.2.2.2.2.2=s.2.2.1.take i) ?_ ?_ ⟨rfl,rfl,rfl,rfl,rfl⟩
 .rintro i ⟨a,b,c,d,e,f⟩ hi ⟨e1,e2,A,z,q⟩;dsimp only at e1 e2 A z q;subst e1 e2 q;refine aY (λ_=>?_) λg=>(by dsimp only[ak]at g;omega)
  refine cG (aQ ?_);have D:=(F _ (bE (T:=.sl (.int .i64)) (xs:=b.2.2.1) (j:=(i:Int)) (by omega) (by omega))).len;refine bg (by simp only[em,b6];exact cA D (by omega)) (by omega) ?_;refine a! (aj ?_);dsimp only;refine ⟨fd,rfl,A,z,?_⟩;rw[uh (T:=.sl (.int .i64)) hi];rfl
 .rintro⟨a,b,c,d,e,f⟩ ⟨e1,e2,A,z,q⟩;dsimp only at e1 e2 A z q;subst e1 e2 q;refine aY (λg=>(by dsimp only[ak]at g;omega)) λ_=>aj ?_
  show (d,e,_)=_;rw[A,z,dC]
def wi (b:Bool):Ok (fU b) λ_=>True:=by
 unfold fU;with_reducible repeat' first|apply OS.ok;constructor|refine IM.mk λ_=>?_
 all_goals trivial
def Gm (n:Int):Ok (mm n) λ_=>True:=by
 unfold mm bS aF;with_reducible repeat' first|apply OS.ok;constructor|refine IM.mk λ_=>?_
 all_goals trivial
def afy (x:ν):Ok (uC x) λ_=>True:=by
 unfold uC bi;refine aL (λ_=>aj trivial) λ_=>aL (λ_=>?_) λ_=>aj trivial
 exact av (wi _) λ_ _=>aj trivial
def abt (x:π):Ok (vB x) λ_=>True:=by
 have c:∀b,Ok (aw (fU b) λy=>Z (y,J)) λ_=>True:=λb=>av (wi _) λ_ _=>aj trivial
 refine aL (λ_=>aj trivial) λ_=>aL (λ_=>aj trivial) λ_=>aL (λ_=>aj trivial) λ_=>?_
 refine aL (λ_=>aL (λ_=>aj trivial) λh=>l8 h (aj trivial)) λ_=>?_
 refine aL (λ_=>aL (λ_=>aj trivial) λh=>l8 h (aj trivial)) λ_=>?_
 refine aL (λ_=>c _) λ_=>aL (λ_=>c _) λ_=>aL (λ_=>c _) λ_=>aL (λ_=>c _) λ_=>aL (λ_=>c _) λ_=>aL (λ_=>c _) λ_=>?_
 refine aL (λ_=>aX (λ_=>True) (bW (λ_=>av (wi _) λ_ _=>aj trivial) λ_=>av (wi _) λ_ _=>aj trivial) λ_ _=>aj trivial) λ_=>?_
 exact aL (λ_=>aX (λ_=>True) (bW (λ_=>av (wi _) λ_ _=>aj trivial) λ_=>av (wi _) λ_ _=>aj trivial) λ_ _=>aj trivial) λ_=>aj trivial
def Zu (E:Nat) (hE:E<=100000) (i:IT) (p:ν) (R:η) (T:Y η) (A:∀j∈tM i,0<=j/\j<(l! R:Int)) (o1:1<=i.1) (o2:i.1<=5) (hR:l! R<=32) (q:l! T=l! R) (hl:∀l∈T,TL E l):Ok (wH ((i,p),R,T)) λy=>y.1.1.2=p.2/\l! y.2.1=l! R/\l! y.2.2=l! T/\∀l∈y.2.2,TL E l:=by
 unfold wH ba bQ b_ ck bi bS bY bz kQ bc cW aF cM;refine aV (ye i) ?_;have h3:=Jl i;refine bn (l! (tM i)) (λj x=>x.1=(j:Int)/\x.2.1=R/\x.2.2.1=T/\x.2.2.2.1=i/\x.2.2.2.2.1=p) ?_ ?_ ⟨rfl,rfl,rfl,rfl,rfl⟩
 .rintro j ⟨a,b,c,d,e⟩ hj ⟨e1,e2,e3,N,D⟩;dsimp only at e1 e2 e3 N D;subst e1 e2 e3 N;refine aY (λ_=>?_) λg=>(by dsimp only[ak]at g;omega)
  have hz:=A _ (bE (T:=aO) (xs:=tM d) (j:=(j:Int)) (by omega) (by omega));refine aX (λx=>x.2=(b,c,d,e)/\x.1=aa) ?_ ?_
  .refine cG (aQ ?_);refine aY (λg=>?_) λ_=>?_
   .dsimp only at g;omega
   refine cG (aQ (aj ⟨rfl,?_⟩));dsimp only;rw[je];exact hz.2
  rintro⟨b',x⟩ ⟨I,F⟩;dsimp only at I F;subst I F;refine aM nofun λ_=>aj ?_
  dsimp only;exact⟨fd,rfl,rfl,rfl,D⟩
 .rintro⟨a,b,c,d,e⟩ ⟨e1,e2,e3,N,D⟩;dsimp only at e1 e2 e3 N D;subst e1 e2 e3 N;refine aY (λg=>(by dsimp only[ak]at g;omega)) λ_=>?_
  let⟨e,e'⟩:=e;dsimp only at D;subst D;refine av (P:=λy=>y.1.1.2=e.2/\l! y.2.1=l! b/\l! y.2.2=l! c/\∀l∈y.2.2,TL E l) ?_ λr A=>aj A
  have hA:d.1≠5->0<=d.2.1/\d.2.1<(l! b:Int):=λh5=>A _ (by
   unfold tM;(repeat' split)<;>simp<;>omega)
  have hB:2<=d.1->d.1≠5->0<=d.2.2.1/\d.2.2.1<(l! b:Int):=λh2 h5=>A _ (by
   unfold tM;(repeat' split)<;>simp<;>omega)
  have hC:d.1=4->0<=d.2.2.2.1/\d.2.2.2.1<(l! b:Int):=λh5=>A _ (by
   unfold tM;(repeat' split)<;>simp<;>omega)
  have hg:∀{j:Int},0<=j->j<(l! b:Int)->TL E (aK (.sl (.int .i64)) c j):=λh0 h1=>hl _ (bE (T:=.sl (.int .i64)) (xs:=c) h0 (by rw[q];exact h1))
  refine aX (λx=>x.2.1=b/\x.2.2.1=c/\x.2.2.2.1=d/\x.2.2.2.2.1=e/\TL E x.1.2.2/\d.1≠5) ?_ ?_
  .refine aL (λ_=>aj ⟨rfl,rfl,rfl,hl⟩) λz=>?_
   refine aL (λ_=>aj ⟨rfl,rfl,rfl,rfl,TL.nil E,z⟩) λn1=>?_
   dsimp only at n1 z;let⟨b0,b1⟩:=hB (by omega) z;refine aL (λ_=>?_) λn2=>?_
   .refine aG b0 b1 (aG b0 b1 (aQ ?_));refine aG b0 (by dsimp only;rw[q];exact b1) (aG b0 (by dsimp only;rw[q];exact b1) (aQ ?_));exact aj ⟨rfl,rfl,rfl,rfl,hg b0 b1,z⟩
   refine aL (λ_=>?_) λn3=>?_
   .refine av (Gm _) λy _=>?_
    refine aG b0 b1 (aG b0 b1 (aQ ?_));refine av (afy _) λy _=>?_
    refine aG b0 (by dsimp only;rw[q];exact b1) (aG b0 (by dsimp only;rw[q];exact b1) (aQ ?_));exact aj ⟨rfl,rfl,rfl,rfl,hg b0 b1,z⟩
   dsimp only at n2 n3;let⟨c0,c1⟩:=hC (by omega);refine av (Gm _) λy _=>?_
   refine aG b0 b1 (aG b0 b1 (aQ ?_));refine aG c0 c1 (aG c0 c1 (aQ ?_));refine av (abt _) λy _=>?_
   refine aG b0 (by dsimp only;rw[q];exact b1) (aG b0 (by dsimp only;rw[q];exact b1) (aQ ?_));refine aG c0 (by dsimp only;rw[q];exact c1) (aG c0 (by dsimp only;rw[q];exact c1) (aQ ?_));have g1:=hg b0 b1;have g2:=hg c0 c1;refine aV (U6 _ _ (cA g1.len (by omega)) (cA g2.len (by omega))) ?_;exact aj ⟨rfl,rfl,rfl,rfl,g1.uni g2,z⟩
  rintro⟨⟨v,ok,tn⟩,b',c',d',e',e''⟩ ⟨I,F,f3,f4,f5,f6⟩;dsimp only at I F f3 f4 f5 f6;subst I F f3 f4;let⟨a0,a1⟩:=hA f6;have ht:=f5.len;refine a! ?_;refine aG a0 a1 (aG a0 a1 (aG a0 (by dsimp only;rw[q];exact a1) (aG a0 (by dsimp only;rw[q];exact a1) (aj ?_))));refine ⟨rfl,cj ..,cj ..,λl hm=>?_⟩;rcases ui hm with h|h
  .exact hl l h
  .rw[h];exact f5
def ab9 (E:Nat) (hE:E<=100000) (c:Int×Y IT) (hc:l! c.2<=1000000) (hv:VT c) (s:TT) (h:TH E s):Ok (nB (c,s)) λy=>TH E y.1:=by
 unfold nB ba bQ b_ bI dD dP bi bS jO gF bY bz bc cW aF cM;have D:=h;let⟨h1,h2,h3,h4,h5⟩:=h;refine aX (λx=>x.2.1=c/\x.2.2.1=s/\(x.1=aa->(l! s.2.1:Int)=c.1/\(l! s.2.2.1:Int)=c.1)) ?_ ?_
 .refine bW (λ_=>aj ⟨rfl,rfl,nofun⟩) λg=>aj ⟨rfl,rfl,λh=>?_⟩
  simp at h;exact⟨g,h⟩
 rintro⟨b,N,s',z⟩ ⟨e1,e2,A⟩;dsimp only at e1 e2 A;subst e1 e2;refine aM (λ_=>aj (TH.zero E)) λF=>?_
 let⟨q1,q2⟩:=A F;refine aV (dw s' E hE D) ?_;refine qB (λx=>((l! N.2:Int)+1-x.1).toNat) (λx=>0<=x.1/\x.1<=(l! N.2:Int)+1/\x.2.1=N/\x.2.2.1.2=s'.2.2.2/\l! x.2.2.2.2.1=l! s'.2.1/\l! x.2.2.2.2.2=l! s'.2.2.1/\∀l∈x.2.2.2.2.2,TL E l) ?_ ⟨by dsimp only;omega,by dsimp only;omega,rfl,rfl,rfl,rfl,h3⟩;rintro⟨(n:Int),c,⟨(q:Int),ev⟩,z',R,T⟩ ⟨n0,n1,e1,e2,A,e4,I⟩;dsimp only at n0 n1 e1 e2 A e4 I;subst e1 e2;refine eh (λg=>?_) λ_=>aj (TH.zero E)
 dsimp only[ak]at g;refine aX (λx=>x.2=(c,(q,s'.2.2.2),z',R,T)/\(x.1=aa->0<=q/\q<(l! c.2:Int))) ?_ ?_
 .refine aY (λ_=>aj ⟨rfl,nofun⟩) λg1=>aj ⟨rfl,λh=>?_⟩
  dsimp only at g1 h;rw[je]at h;exact⟨g1,h⟩
 rintro⟨b',x⟩ ⟨f1,f2⟩;dsimp only at f1 f2;subst f1;refine aM (λ_=>aj (TH.zero E)) λF=>?_
 let⟨p0,p1⟩:=f2 F;refine aG p0 p1 (aQ ?_);have hi:=hv.i _ (bE (T:=rq) (xs:=c.2) (j:=q) p0 p1);revert hi;generalize (aK rq _ _)=i;intro hi;refine aV (OQ _) ?_;refine bW (λ_=>aj ⟨by dsimp only;omega,by dsimp only;omega,I,h4,h5⟩) λhsil=>?_
 refine aL (λ_=>aj (TH.zero E)) λhn=>?_
 dsimp only[ak]at hn;refine av (Zu E hE i (q,s'.2.2.2) R T (λj hj=>by have:=hi.r j hj;omega) hsil.1 hsil.2 (by omega) (by omega) I) λy hy=>?_
 let⟨⟨⟨pc',ev'⟩,ok⟩,R',T'⟩:=y;let⟨k1,k2,k3,k4⟩:=hy;dsimp only at k1 k2 k3 k4;refine bt (cU k3.symm (bt (cU k2.symm (ie ?_))));refine cH (λ_=>aj (TH.zero E)) λ_=>aj ?_
 dsimp only;rw[jA];exact⟨⟨by omega,by omega,rfl,k1,by omega,by omega,k4⟩,by omega⟩
abbrev ST:Type:=SY×η×η×Y TT
structure TF (c:Int×List IT) (t:TT):Prop where
 p0:0<=t.1
 p1:t.1<(l! c.2:Int)
 r:(l! t.2.1:Int)=c.1
 t:(l! t.2.2.1:Int)=c.1
structure FSx (c:CT) (s:ST):Prop where
 vc:VC c
 cd:∀d∈c.1.2.2.1,0<=d.2/\d.2<(l! c.1.2.1:Int)
 e3:l! s.1.2.2.2=l! c.1.2.2.2.2.1
 ce:l! s.2.1=l! c.1.1
 fu:l! s.2.2.1=l! c.1.2.2.2.1
 th:l! s.2.2.2=l! c.2
 t:∀k:Nat,k<l! c.2->TF (aK xi c.2 (k:Int)) (aK eT s.2.2.2 (k:Int))
structure SV (n:Nat) (s:ST):Prop where
 sb:SB n s.1
 t:∀t∈s.2.2.2,TH n t
def aiu (c:CT) (s:ST) (I:CB c):Ok (wG (c,s)) λb=>b=J->FSx c s:=by
 unfold wG ba bQ dD dP bS jO gF bz bc cW aF cM;refine aX (λx=>x.2=(c,s)/\(x.1=aa->VC c/\(∀d∈c.1.2.2.1,0<=d.2/\d.2<(l! c.1.2.1:Int))/\l! s.1.2.2.2=l! c.1.2.2.2.2.1/\l! s.2.1=l! c.1.1/\l! s.2.2.1=l! c.1.2.2.2.1/\l! s.2.2.2=l! c.2)) ?_ ?_
 .refine av (L5 c I) λb q=>?_
  refine cH (λ_=>aj ⟨rfl,nofun⟩) λh=>?_
  have A:=q h;refine av (I_ c.1 s.1 (by have:=A.vl.d;omega)) λb2 D=>?_
  refine cH (λ_=>aj ⟨rfl,nofun⟩) λh2=>?_
  let⟨F,_,_,g4⟩:=D h2;refine bW (λ_=>aj ⟨rfl,nofun⟩) λk1=>?_
  refine bW (λ_=>aj ⟨rfl,nofun⟩) λk2=>aj ⟨rfl,λk3=>⟨A,F,g4,?_,?_,?_⟩⟩
  .dsimp only[ak]at k1;omega
  .dsimp only[ak]at k2;omega
  .simp at k3;omega
 rintro⟨b,x⟩ ⟨e,q⟩;dsimp only at e q;subst e;refine aM (λ_=>aj nofun) λh=>?_
 let⟨A,hcd,h3,hce,hfu,hth⟩:=q h;have hcl:=I.th;refine bn (l! c.2) (λi x=>x.1=(i:Int)/\x.2=(c,s)/\∀k:Nat,k<i->TF (aK xi c.2 (k:Int)) (aK eT s.2.2.2 (k:Int))) ?_ ?_ ⟨rfl,rfl,λk hk=>by omega⟩
 .rintro i ⟨a,x⟩ hi ⟨e1,e2,z⟩;dsimp only at e1 e2 z;subst e1 e2;refine aY (λ_=>?_) λg=>(by dsimp only[ak]at g;omega)
  have hin:((i:Nat):Int)<(l! c.2:Int):=by omega
  refine cG (aQ ?_);refine aX (λx=>x.2=(c,s)/\(x.1=aa->TF (aK xi c.2 (i:Int)) (aK eT s.2.2.2 (i:Int)))) ?_ ?_
  .refine aY (λ_=>aj ⟨rfl,nofun⟩) λg0=>?_
   refine aG (by dsimp only;omega) hin (aQ ?_);refine eh (λ_=>aj ⟨rfl,nofun⟩) λF=>?_
   refine aG (by dsimp only;omega) hin (aQ ?_);refine bW (λ_=>aj ⟨rfl,nofun⟩) λg2=>?_
   refine aG (by dsimp only;omega) hin (aQ (aj ⟨rfl,λN=>⟨g0,F,g2,?_⟩⟩));simp at N;exact N
  rintro⟨b,x⟩ ⟨e,q⟩;dsimp only at e q;subst e;refine aM (λ_=>aj nofun) λh=>aj ?_
  dsimp only;refine ⟨fd,rfl,λk hk=>?_⟩;rcases bZ k i with h1|h1
  .exact z k h1
  .rw[show k=i by omega];exact q h
 .rintro⟨a,x⟩ ⟨e1,e2,z⟩;dsimp only at e1 e2 z;subst e1 e2;refine aY (λg=>(by dsimp only[ak]at g;omega)) λ_=>aj λ_=>⟨A,hcd,h3,hce,hfu,hth,z⟩
def al6 {i:IT} (h:i.1=6\/i.1=7\/i.1=27\/i.1=10):i.2.1∈tM i:=by
 unfold tM;(repeat' split)<;>simp<;>omega
def al5 {i:IT} (h:i.1=8\/i.1=9\/i.1=26):i.2.2.1∈tM i:=by
 unfold tM;(repeat' split)<;>simp<;>omega
def aq8 {i:IT} (h:i.1=7\/i.1=9):i.2.2.2.1∈tM i:=by
 unfold tM;(repeat' split)<;>simp<;>omega
structure KD (op k:Int):Prop where
 ld:k=3->op=6\/op=7
 st:k=4->op=8\/op=9
 br:k=5->op=10
 se:k=22->op=26
 ge:k=23->op=27
def ai7 (op:Int):Ok (wE op) λk=>KD op k:=by
 unfold wE bS kQ aF;refine aX (λx=>x.2=[3,3,4,4,5,6,7,8,9,10,11,12,13,14,15,16,18,19,20,21,22,23,2]/\(x.1=aa->6<=op/\op<=28)) ?_ ?_
 .refine aY (λ_=>aj ⟨rfl,nofun⟩) λg=>aj ⟨rfl,λh=>?_⟩
  dsimp only at h;rw[nG]at h;exact⟨g,h⟩
 rintro⟨b,x⟩ ⟨e,c⟩;dsimp only at e c;subst e;refine aM (λ_=>aj ⟨nofun,nofun,nofun,nofun,nofun⟩) λh=>?_
 let⟨h1,q⟩:=c h;dsimp only;rw[jA (n:=op-6) (by omega) (by omega)];refine aG (by omega) (by simp;omega) (aG (by omega) (by simp;omega) (aQ (aj ?_)));have:op=6\/op=7\/op=8\/op=9\/op=10\/op=11\/op=12\/op=13\/op=14\/op=15\/op=16\/op=17\/op=18\/op=19\/op=20\/op=21\/op=22\/op=23\/op=24\/op=25\/op=26\/op=27\/op=28:=by omega
 rcases this with rfl|rfl|rfl|rfl|rfl|rfl|rfl|rfl|rfl|rfl|rfl|rfl|rfl|rfl|rfl|rfl|rfl|rfl|rfl|rfl|rfl|rfl|rfl;all_goals exact⟨by decide,by decide,by decide,by decide,by decide⟩
def Vg (a n:Int):Ok (rM (a,n)) λ_=>True:=by
 unfold rM bS bY aF;refine aY (λ_=>aj trivial) λh=>?_
 dsimp only at h;refine l8 (by dsimp only;omega) ?_;refine aX (λ_=>True) (aY (λ_=>aj trivial) λ_=>aj trivial) λ_ _=>aj trivial
def R5 (i:IT) (t:TT) (q:∀j∈tM i,0<=j/\j<(l! t.2.1:Int)):Ok (sA (i,t)) λ_=>True:=by
 unfold sA ba bQ b_ bi bz aF;have c:i.1=7\/i.1=9->0<=i.2.2.2.1/\i.2.2.2.1<(l! t.2.1:Int):=λh=>q _ (by
  unfold tM;(repeat' split)<;>simp<;>omega)
 refine aX (λx=>x.2=(i,t)) (aL (λ_=>aj rfl) λ_=>aj rfl) ?_;rintro⟨b,x⟩ e;dsimp only at e;subst e;refine aM (λ_=>aj trivial) λ_=>?_
 refine aL (λh=>?_) λ_=>?_
 .exact aG (c (.inl h)).1 (c (.inl h)).2 (aQ (av (Vg _ _) λ_ _=>aj trivial))
 refine aL (λh=>?_) λ_=>?_
 .exact aG (c (.inr h)).1 (c (.inr h)).2 (aQ (av (Vg _ _) λ_ _=>aj trivial))
 refine aX (λ_=>True) ?_ λx _=>aM (λ_=>aj trivial) λ_=>aj trivial
 with_reducible repeat' first|apply OS.ok;constructor|refine IM.mk λ_=>?_
 all_goals trivial
structure PE (n:Nat) (c:CT) (s:ST) (t:Int) (e:ET):Prop where
 fs:FSx c s
 t0:0<=t
 t1:t<(l! c.2:Int)
 et:e.1=t
 d:l! e.2.2.2.2.2.1<=n
 f:l! e.2.2.2.2.2.2<=n
 a:e.2.1=3\/e.2.1=23\/e.2.1=5->0<=(aK rq (aK xi c.2 t).2 (aK eT s.2.2.2 t).1).2.1/\(aK rq (aK xi c.2 t).2 (aK eT s.2.2.2 t).1).2.1<((aK eT s.2.2.2 t).2.1.length:Int)
 b:e.2.1=4\/e.2.1=22->0<=(aK rq (aK xi c.2 t).2 (aK eT s.2.2.2 t).1).2.2.1/\(aK rq (aK xi c.2 t).2 (aK eT s.2.2.2 t).1).2.2.1<((aK eT s.2.2.2 t).2.1.length:Int)
def XW (n:Nat) (hn:n<=100000) (c:CT) (s:ST) (hc:CB c) (hs:SV n s) (t:Int):Ok (nV (c,s,t)) λy=>y.2=J->PE n c s t y.1:=by
 unfold nV ba bQ b_ bI dD dP bi bS bY bz bc aF;refine aX (λx=>x.2.1=c/\x.2.2.1=s/\(x.1=aa->FSx c s/\0<=t/\t<(l! c.2:Int))) ?_ ?_
 .refine av (aiu c s hc) λb hb=>?_
  refine cH (λ_=>aj ⟨rfl,rfl,nofun⟩) λh=>?_
  refine aY (λ_=>aj ⟨rfl,rfl,nofun⟩) λg0=>aj ⟨rfl,rfl,λg1=>?_⟩
  dsimp only at g0 g1;rw[je]at g1;exact⟨hb h,g0,g1⟩
 rintro⟨b,c',s',z⟩ ⟨e1,e2,hb⟩;dsimp only at e1 e2 hb;subst e1 e2;refine aM (λ_=>aj nofun) λh=>?_
 let⟨hf,I,t1⟩:=hb h;have hk:((t.toNat:Nat):Int)=t:=by omega
 have htf:=hf.t t.toNat (by omega);rw[hk]at htf;have hvt:=hf.vc.t _ (bE (T:=xi) (xs:=c'.2) (j:=t) I t1);have hth:=hs.t _ (bE (T:=eT) (xs:=s'.2.2.2) (j:=t) I (by rw[hf.th];exact t1));have key:∀e:ET,e.1=t->l! e.2.2.2.2.2.1<=n->l! e.2.2.2.2.2.2<=n->(e.2.1=1\/e.2.1=17\/KD (aK rq (aK xi c'.2 t).2 (aK eT s'.2.2.2 t).1).1 e.2.1)->PE n c' s' t e:=by
  intro e h1 h2 h3 A;have hi:=hvt.i _ (bE (T:=rq) (xs:=(aK xi c'.2 t).2) (j:=(aK eT s'.2.2.2 t).1) htf.p0 htf.p1);refine ⟨hf,I,t1,h1,h2,h3,λh5=>?_,λh5=>?_⟩
  .rw[htf.r];rcases A with A|A|A
   .omega
   .omega
   .refine hi.r _ ?_;have q:=A.ld;have a2:=A.ge;have a3:=A.br;revert q a2 a3 h5;generalize (aK rq (aK xi c'.2 t).2 (aK eT s'.2.2.2 t).1)=i;intro h5 q a2 a3;exact al6 (by omega)
  .rw[htf.r];rcases A with A|A|A
   .omega
   .omega
   .refine hi.r _ ?_;have q:=A.st;have a2:=A.se;revert q a2 h5;generalize (aK rq (aK xi c'.2 t).2 (aK eT s'.2.2.2 t).1)=i;intro h5 q a2;exact al5 (by omega)
 have hir:=(hvt.i _ (bE (T:=rq) (xs:=(aK xi c'.2 t).2) (j:=(aK eT s'.2.2.2 t).1) htf.p0 htf.p1)).r;rw[<- htf.r]at hir;refine aG I (by dsimp only;rw[hf.th];exact t1) (aQ ?_);refine aG I t1 (aQ ?_);refine aG htf.p0 htf.p1 (aQ ?_);have t4:t<(l! s'.1.2.2.2:Int):=by rw[hf.e3,<-hf.vc.tl];exact t1
 have tz:(aK eT s'.2.2.2 t).2.2.1.length=(aK eT s'.2.2.2 t).2.1.length:=by have:=htf.r;have:=htf.t;omega
 refine aG I t4 (aQ ?_);refine aL (λ_=>aj λ_=>key _ rfl (eQ _) (eQ _) (.inl rfl)) λ_=>?_
 refine aL (λ_=>aG I t4 (aQ (aj λ_=>key _ rfl (eQ _) (eQ _) (.inr (.inl rfl))))) λ_=>?_
 refine aL (λ_=>?_) λ_=>aj nofun
 refine av (ai7 _) λk N=>?_
 refine av (R5 _ _ hir) λo _=>?_
 refine aL (λ_=>aj nofun) λ_=>?_
 revert key htf hvt hth hir tz N;dsimp only;generalize (aK eT s'.2.2.2 t)=th;generalize (aK rq _ th.1)=i;intro htf hvt hth key hir tz N;have hlen:∀{j:Int},0<=j->j<(l! th.2.2.1:Int)->l! (aK (.sl (.int .i64)) th.2.2.1 j)<=n:=λh0 h1=>(hth.l _ (bE (T:=.sl (.int .i64)) (xs:=th.2.2.1) h0 h1)).len
 have hA:i.1=10->0<=i.2.1/\i.2.1<(l! th.2.2.1:Int):=λh=>by
  rw[tz];exact hir _ (al6 (.inr (.inr (.inr h))))
 have hB:i.1=8\/i.1=9\/i.1=26->0<=i.2.2.1/\i.2.2.1<(l! th.2.2.1:Int):=λh=>by
  rw[tz];exact hir _ (al5 (h))
 have hC:i.1=7\/i.1=9->0<=i.2.2.2.1/\i.2.2.2.1<(l! th.2.2.1:Int):=λh=>by
  rw[tz];exact hir _ (aq8 (h))
 refine aX (λx=>x.2.1=th/\x.2.2.1=i/\x.2.2.2.1.1=t/\x.2.2.2.1.2.1=k/\l! x.2.2.2.2<=n) ?_ ?_
 .refine aL (λh=>?_) λ_=>?_
  .obtain⟨F,q⟩:=hA h;refine aG F q (aQ ?_);have:=hlen F q;exact bg (cA this (by omega)) (by omega) (aj ⟨rfl,rfl,rfl,rfl,this⟩)
  refine aX (λx=>x.2.2.1=th/\x.2.2.2.1=i/\x.2.2.2.2.1=t/\x.2.2.2.2.2.1=k/\(x.1=J->i.1=7\/i.1=9)) ?_ ?_
  .refine aL (λh=>aj ⟨rfl,rfl,rfl,rfl,λ_=>.inl h⟩) λ_=>aj ⟨rfl,rfl,rfl,rfl,λh=>.inr (bJ h)⟩
  rintro⟨b,z0,th',i',t',k',z1⟩ ⟨e1,e2,e3,e4,D⟩;dsimp only at e1 e2 e3 e4 D;subst e1 e2 e3 e4;refine aM (λh=>?_) λ_=>aj ⟨rfl,rfl,rfl,rfl,eQ _⟩
  let⟨F,q⟩:=hC (D h);refine aG F q (aQ ?_);have:=hlen F q;exact bg (cA this (by omega)) (by omega) (aj ⟨rfl,rfl,rfl,rfl,this⟩)
 rintro⟨z0,th',i',⟨t',k',z1⟩,ds⟩ ⟨e1,e2,e3,e4,hd⟩;dsimp only at e1 e2 e3 e4 hd;subst e1 e2 e3 e4;refine aX (λx=>x.2.1.1=t'/\x.2.1.2.1=k'/\l! x.2.2.1<=n/\l! x.2.2.2<=n) ?_ ?_
 .refine aX (λx=>x.2=(z0,th',i',(t',k',z1),ds)/\(x.1=J->i'.1=8\/i'.1=9\/i'.1=26)) ?_ ?_
  .exact aL (λh=>aj ⟨rfl,λ_=>.inl h⟩) λ_=>aL (λh=>aj ⟨rfl,λ_=>.inr (.inl h)⟩) λ_=>aj ⟨rfl,λh=>.inr (.inr (bJ h))⟩
  rintro⟨b,x⟩ ⟨e,D⟩;dsimp only at e D;subst e;refine aM (λh=>?_) λ_=>aj ⟨rfl,rfl,hd,eQ _⟩
  let⟨F,q⟩:=hB (D h);refine aG F q (aQ ?_);have:=hlen F q;exact bg (cA this (by omega)) (by omega) (aj ⟨rfl,rfl,hd,this⟩)
 rintro⟨z2,⟨t2,k2,z3⟩,d2,f2⟩ ⟨e1,e2,h1,h2⟩;dsimp only at e1 e2 h1 h2;subst e1 e2;exact aj λ_=>key _ rfl h1 h2 (.inr (.inr N))
def SV.zero (n:Nat) (c:n<=100000):SV n (([],0,[],[]),[],[],[]):=⟨⟨c,by simp,λl q=>(by cases q),by simp,by simp⟩,λt ht=>(by cases ht)⟩
def XU (c:CT) (hc:CB c):Ok (uv c) λs=>SV 0 s:=by
 unfold uv ba bQ b_ da bI dD dP fX bS BJ bY bz bc cW aF cM;refine av (L5 c hc) λb hb=>?_
 refine cH (λ_=>aj (SV.zero 0 (by omega))) λh=>?_
 have F:=hb h;let⟨vc,vl,vd,vf,_,vt,_⟩:=id F.vl;have htl:=F.tl;refine av (XV c.1 F.vl) λy hy=>?_
 refine bn (l! c.1.1) (λi x=>x.1=(i:Int)/\x.2.1=c/\x.2.2.2.1=y/\l! x.2.2.2.2=i) ?_ ?_ ⟨rfl,rfl,rfl,rfl⟩
 .rintro i ⟨a,N,z,y',l⟩ hi ⟨e1,e2,q,A⟩;dsimp only at e1 e2 q A;subst e1 e2 q;refine aY (λ_=>?_) λg=>(by dsimp only[ak]at g;omega)
  refine cG (aQ (a! (aj ?_)));dsimp only;exact⟨fd,rfl,rfl,by simp;omega⟩
 rintro⟨a,N,z,y',l⟩ ⟨e1,e2,q,A⟩;dsimp only at e1 e2 q A;subst e1 e2 q;refine aY (λg=>(by dsimp only[ak]at g;omega)) λ_=>?_
 refine av (P:=SV 0) ?_ λr I=>aj I
 refine bn (l! N.1.2.2.2.1) (λi x=>x.1=(i:Int)/\x.2.1=N/\x.2.2.2.1=y'/\l! x.2.2.2.2.2=i) ?_ ?_ ⟨rfl,rfl,rfl,rfl⟩
 .rintro i ⟨a,c,z,y,l,f⟩ hi ⟨e1,e2,q,A⟩;dsimp only at e1 e2 q A;subst e1 e2 q;refine aY (λ_=>?_) λg=>(by dsimp only[ak]at g;omega)
  refine a! (aj ?_);dsimp only;exact⟨fd,rfl,rfl,by simp;omega⟩
 rintro⟨a,c,z,y,l,f⟩ ⟨e1,e2,q,A⟩;dsimp only at e1 e2 q A;subst e1 e2 q;refine aY (λg=>(by dsimp only[ak]at g;omega)) λ_=>?_
 refine av (P:=SV 0) ?_ λr I=>aj I
 refine bn (l! c.2) (λi x=>x.1=(i:Int)/\x.2.1=c/\x.2.2.2.1=y/\l! x.2.2.2.2.2.2=i/\∀t∈x.2.2.2.2.2.2,TH 0 t) ?_ ?_ ⟨rfl,rfl,rfl,rfl,λt ht=>(by cases ht)⟩
 .rintro i ⟨a,c,z,y,l,f,th⟩ hi ⟨e1,e2,q,A,D⟩;dsimp only at e1 e2 q A D;subst e1 e2 q;refine aY (λ_=>?_) λg=>(by dsimp only[ak]at g;omega)
  have hin:((i:Nat):Int)<(l! c.2:Int):=by omega
  have hvt:=F.t _ (bE (T:=xi) (xs:=c.2) (j:=(i:Int)) (by omega) hin);have q0:=hvt.r0;have q1:=hvt.r1;refine aG (by dsimp only;omega) hin (aQ ?_);refine bt (bt (cI q0 (cI (dX _) (a! ?_))));refine aG (by dsimp only;omega) hin (aQ ?_);refine bt (bt (cI q0 (cI (dX _) (a! ?_))));refine a! (aj ?_);dsimp only;refine ⟨fd,rfl,rfl,by simp;omega,λt ht=>?_⟩;rcases bF.1 ht with h|h
  .exact D t h
  .rw[aA]at h;subst h;refine ⟨?_,?_,λl hl=>?_,dX _,dX _⟩
   .dsimp only;rw[eL];omega
   .dsimp only;rw[eL];omega
   .rw[List.eq_of_mem_replicate hl];exact TL.nil 0
 .rintro⟨a,c,z,y,l,f,th⟩ ⟨e1,e2,q,A,D⟩;dsimp only at e1 e2 q A D;subst e1 e2 q;refine aY (λg=>(by dsimp only[ak]at g;omega)) λ_=>aj ?_
  exact⟨hy,D⟩
def kH {α:Type} (o:M α):aw o (λ_=>(U:M R))=U:=by cases o<;>rfl
def o8 (b:Bool):chk b (λ_=>(U:M R))=U:=by cases b<;>rfl
def r4 {α:Type} (x:α):lt x (λ_=>(U:M R))=U:=rfl
def Ro (o:M R) (Q:R->Prop):Prop:=o=U\/Ok o Q
def Ro.or {a b:M R} {Q:R->Prop} (q:Ro a Q) (c:Ro b Q):Ro (orE a b) Q:=by
 rcases q with rfl|⟨y,rfl,h⟩
 .exact c
 .exact .inr ⟨y,rfl,h⟩
def Ok.orL {a b:M R} {Q:R->Prop} (c:Ok a Q):Ok (orE a b) Q:=by
 obtain⟨y,rfl,h⟩:=c;exact⟨y,rfl,h⟩
def Ro.orR {a b:M R} {Q:R->Prop} (q:Ro a Q) (c:Ok b Q):Ok (orE a b) Q:=by
 rcases q with rfl|⟨y,rfl,h⟩
 .exact c
 .exact⟨y,rfl,h⟩
abbrev G?:=ST×ET×Bool
def SQ (n:Nat) (c:CT) (y:G?):Prop:=y.2.2=J->SV (n+1) y.1/\EvF c.1 y.2.1/\Mp y.2.1
def Jf (hn:i+1<=100000) {c:CT} {s:ST} {u:Int} (N:CB c) (D:SV i s) (G:M G?->Prop) (hG:∀y,SQ i c y->G (Z y)) (k:ET×Bool->SY×c!->M G?)
 (I:∀e v sy,PE i c s a e->EN c.1 s.1 a e.2.1 e.2.2.1->AP i s.1 sy->G (k (e,J) (sy,v,J))):
 G (aw (nV (c,s,a)) λq=>aI (!q.2) (Z ((([],0,[],[]),[],[],[]),(0,0,0,0,0,[],[]),aa)) (aw (pA (c.1,s.1,a,q.1.2.1,q.1.2.2.1,u)) λz=>aI (!z.2.2) (Z ((([],0,[],[]),[],[],[]),(0,0,0,0,0,[],[]),aa)) (k q z))):=by
 have A:=hG ((([],0,[],[]),[],[],[]),(0,0,0,0,0,[],[]),aa) nofun
 let⟨⟨e,b⟩,h1,h2⟩:=XW i (by omega) c s N D a;rw[h1,obs];cases b with
 |false=>exact A
 |true=>
  have hp:=h2 rfl;have hcd:l! c.1.2.2.1<=1000:=by have:=hp.fs.vc.vl.d;omega
  let⟨⟨sy,v,b⟩,h3,F,_,_⟩:=Vv c.1 s.1 D.sb hcd a e.2.1 e.2.2.1 u;have e0:∀{R:Type} (t b:M R),aI (!J) t b=b:=λ_ _=>rfl
  rw[e0,h3,obs];cases b with
  |false=>exact A
  |true=>exact I e v sy hp (F rfl).1 (F rfl).2.2.1
def abr (sy:SY) (q c:η) (a:TT) (h:SV i (sy,q,c,[a])) (hce:l! q<=1000) (hfu:l! c<=1000):nA (sy,q,c,[a])=Z ((sy.2.1,sy.1,sy.2.2.1,sy.2.2.2).1,(sy.2.1,sy.1,sy.2.2.1,sy.2.2.2).2.1,(sy.2.1,sy.1,sy.2.2.1,sy.2.2.2).2.2.1,(sy.2.1,sy.1,sy.2.2.1,sy.2.2.2).2.2.2,(([]:η)++q),(([]:η)++c),((a.1,a.2.2.2),a.2.1,a.2.2.1)):=by
 have A:=h.sb.n1;have z:=h.t a (by simp);refine cF ?_;unfold nA ba bI bS bY bz bc;refine aV (rm sy h.sb) ?_;refine a! (a! ?_);refine eU rfl (bu rfl (aQ (aV (dw a i A z) ?_)));exact jQ rfl (aj rfl)
def Vs (sy:SY) (z q:η) (l:Y TT) (h0:l! l<=4) (h:l! l≠1):nA (sy,z,q,l)=U:=by
 unfold nA ba bI bS bY bz bc;rcases l with _|⟨a,_|⟨b,_|⟨c,_|⟨d,_|⟨e,l⟩⟩⟩⟩⟩;all_goals first|(simp at h;done)|(exfalso;simp only[bX]at h0;omega)|simp[fV,kH,o8,r4,bcT,bcF]
def abq (sy:SY) (q c:η) (a b:TT) (h:SV i (sy,q,c,[a,b])) (hce:l! q<=1000) (hfu:l! c<=1000):nz (sy,q,c,[a,b])=Z ((sy.2.1,sy.1,sy.2.2.1,sy.2.2.2).1,(sy.2.1,sy.1,sy.2.2.1,sy.2.2.2).2.1,(sy.2.1,sy.1,sy.2.2.1,sy.2.2.2).2.2.1,(sy.2.1,sy.1,sy.2.2.1,sy.2.2.2).2.2.2,(([]:η)++q),(([]:η)++c),(((a.1,a.2.2.2),a.2.1,a.2.2.1).1.1,((a.1,a.2.2.2),a.2.1,a.2.2.1).1.2,((b.1,b.2.2.2),b.2.1,b.2.2.1).1.1,((b.1,b.2.2.2),b.2.1,b.2.2.1).2.1,((b.1,b.2.2.2),b.2.1,b.2.2.1).2.2,((b.1,b.2.2.2),b.2.1,b.2.2.1).1.2),((a.1,a.2.2.2),a.2.1,a.2.2.1).2):=by
 have z:=h.sb.n1;have D:=h.t a (by simp);have A:=h.t b (by simp);refine cF ?_;unfold nz ba bI bS bY bz bc;refine aV (rm sy h.sb) ?_;refine a! (a! ?_);refine eU rfl (bu rfl (aQ (aV (dw a i z D) ?_)));refine eU rfl (bu rfl (aQ (aV (dw b i z A) ?_)));exact jQ rfl (aj rfl)
def Vr (sy:SY) (z q:η) (l:Y TT) (h0:l! l<=4) (h:l! l≠2):nz (sy,z,q,l)=U:=by
 unfold nz ba bI bS bY bz bc;rcases l with _|⟨a,_|⟨b,_|⟨c,_|⟨d,_|⟨e,l⟩⟩⟩⟩⟩;all_goals first|(simp at h;done)|(exfalso;simp only[bX]at h0;omega)|simp[fV,kH,o8,r4,bcT,bcF]
def abp (sy:SY) (q c:η) (a b:TT) (h:SV i (sy,q,c,[a,b])) (hce:l! q<=1000) (hfu:l! c<=1000):ny (sy,q,c,[a,b])=Z ((sy.2.1,sy.1,sy.2.2.1,sy.2.2.2).1,(sy.2.1,sy.1,sy.2.2.1,sy.2.2.2).2.1,(sy.2.1,sy.1,sy.2.2.1,sy.2.2.2).2.2.1,(sy.2.1,sy.1,sy.2.2.1,sy.2.2.2).2.2.2,(([]:η)++q),(([]:η)++c),((((a.1,a.2.2.2),a.2.1,a.2.2.1).1.1,((a.1,a.2.2.2),a.2.1,a.2.2.1).2.1,((a.1,a.2.2.2),a.2.1,a.2.2.1).2.2,((a.1,a.2.2.2),a.2.1,a.2.2.1).1.2),((b.1,b.2.2.2),b.2.1,b.2.2.1).1),((b.1,b.2.2.2),b.2.1,b.2.2.1).2):=by
 have z:=h.sb.n1;have D:=h.t a (by simp);have A:=h.t b (by simp);refine cF ?_;unfold ny ba bI bS bY bz bc;refine aV (rm sy h.sb) ?_;refine a! (a! ?_);refine eU rfl (bu rfl (aQ (aV (dw a i z D) ?_)));refine eU rfl (bu rfl (aQ (aV (dw b i z A) ?_)));exact jQ rfl (aj rfl)
def Vq (sy:SY) (z q:η) (l:Y TT) (h0:l! l<=4) (h:l! l≠2):ny (sy,z,q,l)=U:=by
 unfold ny ba bI bS bY bz bc;rcases l with _|⟨a,_|⟨b,_|⟨c,_|⟨d,_|⟨e,l⟩⟩⟩⟩⟩;all_goals first|(simp at h;done)|(exfalso;simp only[bX]at h0;omega)|simp[fV,kH,o8,r4,bcT,bcF]
def abo (sy:SY) (z q:η) (a b c:TT) (h:SV i (sy,z,q,[a,b,c])) (hce:l! z<=1000) (hfu:l! q<=1000):nv (sy,z,q,[a,b,c])=Z ((sy.2.1,sy.1,sy.2.2.1,sy.2.2.2).1,(sy.2.1,sy.1,sy.2.2.1,sy.2.2.2).2.1,(sy.2.1,sy.1,sy.2.2.1,sy.2.2.2).2.2.1,(sy.2.1,sy.1,sy.2.2.1,sy.2.2.2).2.2.2,(([]:η)++z),(([]:η)++q),(((a.1,a.2.2.2),a.2.1,a.2.2.1).1.1,((a.1,a.2.2.2),a.2.1,a.2.2.1).1.2,(((b.1,b.2.2.2),b.2.1,b.2.2.1).1.1,((b.1,b.2.2.2),b.2.1,b.2.2.1).2.1,((b.1,b.2.2.2),b.2.1,b.2.2.1).2.2,((b.1,b.2.2.2),b.2.1,b.2.2.1).1.2),((c.1,c.2.2.2),c.2.1,c.2.2.1).1.1,((c.1,c.2.2.2),c.2.1,c.2.2.1).2.1,((c.1,c.2.2.2),c.2.1,c.2.2.1).2.2,((c.1,c.2.2.2),c.2.1,c.2.2.1).1.2),((a.1,a.2.2.2),a.2.1,a.2.2.1).2):=by
 have A:=h.sb.n1;have I:=h.t a (by simp);have F:=h.t b (by simp);have D:=h.t c (by simp);refine cF ?_;unfold nv ba bI bS bY bz bc;refine aV (rm sy h.sb) ?_;refine a! (a! ?_);refine eU rfl (bu rfl (aQ (aV (dw a i A I) ?_)));refine eU rfl (bu rfl (aQ (aV (dw b i A F) ?_)));refine eU rfl (bu rfl (aQ (aV (dw c i A D) ?_)));exact jQ rfl (aj rfl)
def Vp (sy:SY) (z q:η) (l:Y TT) (h0:l! l<=4) (h:l! l≠3):nv (sy,z,q,l)=U:=by
 unfold nv ba bI bS bY bz bc;rcases l with _|⟨a,_|⟨b,_|⟨c,_|⟨d,_|⟨e,l⟩⟩⟩⟩⟩;all_goals first|(simp at h;done)|(exfalso;simp only[bX]at h0;omega)|simp[fV,kH,o8,r4,bcT,bcF]
def abn (sy:SY) (z q:η) (a b c:TT) (h:SV i (sy,z,q,[a,b,c])) (hce:l! z<=1000) (hfu:l! q<=1000):nu (sy,z,q,[a,b,c])=Z ((sy.2.1,sy.1,sy.2.2.1,sy.2.2.2).1,(sy.2.1,sy.1,sy.2.2.1,sy.2.2.2).2.1,(sy.2.1,sy.1,sy.2.2.1,sy.2.2.2).2.2.1,(sy.2.1,sy.1,sy.2.2.1,sy.2.2.2).2.2.2,(([]:η)++z),(([]:η)++q),((((a.1,a.2.2.2),a.2.1,a.2.2.1).1.1,((a.1,a.2.2.2),a.2.1,a.2.2.1).2.1,((a.1,a.2.2.2),a.2.1,a.2.2.1).2.2,((a.1,a.2.2.2),a.2.1,a.2.2.1).1.2),((b.1,b.2.2.2),b.2.1,b.2.2.1).1.1,((b.1,b.2.2.2),b.2.1,b.2.2.1).1.2,((c.1,c.2.2.2),c.2.1,c.2.2.1).1.1,((c.1,c.2.2.2),c.2.1,c.2.2.1).2.1,((c.1,c.2.2.2),c.2.1,c.2.2.1).2.2,((c.1,c.2.2.2),c.2.1,c.2.2.1).1.2),((b.1,b.2.2.2),b.2.1,b.2.2.1).2):=by
 have A:=h.sb.n1;have I:=h.t a (by simp);have F:=h.t b (by simp);have D:=h.t c (by simp);refine cF ?_;unfold nu ba bI bS bY bz bc;refine aV (rm sy h.sb) ?_;refine a! (a! ?_);refine eU rfl (bu rfl (aQ (aV (dw a i A I) ?_)));refine eU rfl (bu rfl (aQ (aV (dw b i A F) ?_)));refine eU rfl (bu rfl (aQ (aV (dw c i A D) ?_)));exact jQ rfl (aj rfl)
def Vo (sy:SY) (z q:η) (l:Y TT) (h0:l! l<=4) (h:l! l≠3):nu (sy,z,q,l)=U:=by
 unfold nu ba bI bS bY bz bc;rcases l with _|⟨a,_|⟨b,_|⟨c,_|⟨d,_|⟨e,l⟩⟩⟩⟩⟩;all_goals first|(simp at h;done)|(exfalso;simp only[bX]at h0;omega)|simp[fV,kH,o8,r4,bcT,bcF]
def abm (sy:SY) (z q:η) (a b c:TT) (h:SV i (sy,z,q,[a,b,c])) (hce:l! z<=1000) (hfu:l! q<=1000):nk (sy,z,q,[a,b,c])=Z ((sy.2.1,sy.1,sy.2.2.1,sy.2.2.2).1,(sy.2.1,sy.1,sy.2.2.1,sy.2.2.2).2.1,(sy.2.1,sy.1,sy.2.2.1,sy.2.2.2).2.2.1,(sy.2.1,sy.1,sy.2.2.1,sy.2.2.2).2.2.2,(([]:η)++z),(([]:η)++q),((((a.1,a.2.2.2),a.2.1,a.2.2.1).1.1,((a.1,a.2.2.2),a.2.1,a.2.2.1).2.1,((a.1,a.2.2.2),a.2.1,a.2.2.1).2.2,((a.1,a.2.2.2),a.2.1,a.2.2.1).1.2),(((b.1,b.2.2.2),b.2.1,b.2.2.1).1.1,((b.1,b.2.2.2),b.2.1,b.2.2.1).2.1,((b.1,b.2.2.2),b.2.1,b.2.2.1).2.2,((b.1,b.2.2.2),b.2.1,b.2.2.1).1.2),((c.1,c.2.2.2),c.2.1,c.2.2.1).1),((c.1,c.2.2.2),c.2.1,c.2.2.1).2):=by
 have A:=h.sb.n1;have I:=h.t a (by simp);have F:=h.t b (by simp);have D:=h.t c (by simp);refine cF ?_;unfold nk ba bI bS bY bz bc;refine aV (rm sy h.sb) ?_;refine a! (a! ?_);refine eU rfl (bu rfl (aQ (aV (dw a i A I) ?_)));refine eU rfl (bu rfl (aQ (aV (dw b i A F) ?_)));refine eU rfl (bu rfl (aQ (aV (dw c i A D) ?_)));exact jQ rfl (aj rfl)
def Vn (sy:SY) (z q:η) (l:Y TT) (h0:l! l<=4) (h:l! l≠3):nk (sy,z,q,l)=U:=by
 unfold nk ba bI bS bY bz bc;rcases l with _|⟨a,_|⟨b,_|⟨c,_|⟨d,_|⟨e,l⟩⟩⟩⟩⟩;all_goals first|(simp at h;done)|(exfalso;simp only[bX]at h0;omega)|simp[fV,kH,o8,r4,bcT,bcF]
def abl (sy:SY) (A z:η) (a b c d:TT) (h:SV i (sy,A,z,[a,b,c,d])) (hce:l! A<=1000) (hfu:l! z<=1000):nj (sy,A,z,[a,b,c,d])=Z ((sy.2.1,sy.1,sy.2.2.1,sy.2.2.2).1,(sy.2.1,sy.1,sy.2.2.1,sy.2.2.2).2.1,(sy.2.1,sy.1,sy.2.2.1,sy.2.2.2).2.2.1,(sy.2.1,sy.1,sy.2.2.1,sy.2.2.2).2.2.2,(([]:η)++A),(([]:η)++z),(((a.1,a.2.2.2),a.2.1,a.2.2.1).1.1,((a.1,a.2.2.2),a.2.1,a.2.2.1).1.2,(((b.1,b.2.2.2),b.2.1,b.2.2.1).1.1,((b.1,b.2.2.2),b.2.1,b.2.2.1).2.1,((b.1,b.2.2.2),b.2.1,b.2.2.1).2.2,((b.1,b.2.2.2),b.2.1,b.2.2.1).1.2),(((c.1,c.2.2.2),c.2.1,c.2.2.1).1.1,((c.1,c.2.2.2),c.2.1,c.2.2.1).2.1,((c.1,c.2.2.2),c.2.1,c.2.2.1).2.2,((c.1,c.2.2.2),c.2.1,c.2.2.1).1.2),((d.1,d.2.2.2),d.2.1,d.2.2.1).1.1,((d.1,d.2.2.2),d.2.1,d.2.2.1).2.1,((d.1,d.2.2.2),d.2.1,d.2.2.1).2.2,((d.1,d.2.2.2),d.2.1,d.2.2.1).1.2),((a.1,a.2.2.2),a.2.1,a.2.2.1).2):=by
 have q:=h.sb.n1;have I:=h.t a (by simp);have F:=h.t b (by simp);have D:=h.t c (by simp);have hd:=h.t d (by simp);refine cF ?_;unfold nj ba bI bS bY bz bc;refine aV (rm sy h.sb) ?_;refine a! (a! ?_);refine eU rfl (bu rfl (aQ (aV (dw a i q I) ?_)));refine eU rfl (bu rfl (aQ (aV (dw b i q F) ?_)));refine eU rfl (bu rfl (aQ (aV (dw c i q D) ?_)));refine eU rfl (bu rfl (aQ (aV (dw d i q hd) ?_)));exact jQ rfl (aj rfl)
def Vm (sy:SY) (z q:η) (l:Y TT) (h0:l! l<=4) (h:l! l≠4):nj (sy,z,q,l)=U:=by
 unfold nj ba bI bS bY bz bc;rcases l with _|⟨a,_|⟨b,_|⟨c,_|⟨d,_|⟨e,l⟩⟩⟩⟩⟩;all_goals first|(simp at h;done)|(exfalso;simp only[bX]at h0;omega)|simp[fV,kH,o8,r4,bcT,bcF]
def abk (sy:SY) (A z:η) (a b c d:TT) (h:SV i (sy,A,z,[a,b,c,d])) (hce:l! A<=1000) (hfu:l! z<=1000):nh (sy,A,z,[a,b,c,d])=Z ((sy.2.1,sy.1,sy.2.2.1,sy.2.2.2).1,(sy.2.1,sy.1,sy.2.2.1,sy.2.2.2).2.1,(sy.2.1,sy.1,sy.2.2.1,sy.2.2.2).2.2.1,(sy.2.1,sy.1,sy.2.2.1,sy.2.2.2).2.2.2,(([]:η)++A),(([]:η)++z),((((a.1,a.2.2.2),a.2.1,a.2.2.1).1.1,((a.1,a.2.2.2),a.2.1,a.2.2.1).2.1,((a.1,a.2.2.2),a.2.1,a.2.2.1).2.2,((a.1,a.2.2.2),a.2.1,a.2.2.1).1.2),((b.1,b.2.2.2),b.2.1,b.2.2.1).1.1,((b.1,b.2.2.2),b.2.1,b.2.2.1).1.2,(((c.1,c.2.2.2),c.2.1,c.2.2.1).1.1,((c.1,c.2.2.2),c.2.1,c.2.2.1).2.1,((c.1,c.2.2.2),c.2.1,c.2.2.1).2.2,((c.1,c.2.2.2),c.2.1,c.2.2.1).1.2),((d.1,d.2.2.2),d.2.1,d.2.2.1).1.1,((d.1,d.2.2.2),d.2.1,d.2.2.1).2.1,((d.1,d.2.2.2),d.2.1,d.2.2.1).2.2,((d.1,d.2.2.2),d.2.1,d.2.2.1).1.2),((b.1,b.2.2.2),b.2.1,b.2.2.1).2):=by
 have q:=h.sb.n1;have I:=h.t a (by simp);have F:=h.t b (by simp);have D:=h.t c (by simp);have hd:=h.t d (by simp);refine cF ?_;unfold nh ba bI bS bY bz bc;refine aV (rm sy h.sb) ?_;refine a! (a! ?_);refine eU rfl (bu rfl (aQ (aV (dw a i q I) ?_)));refine eU rfl (bu rfl (aQ (aV (dw b i q F) ?_)));refine eU rfl (bu rfl (aQ (aV (dw c i q D) ?_)));refine eU rfl (bu rfl (aQ (aV (dw d i q hd) ?_)));exact jQ rfl (aj rfl)
def Vl (sy:SY) (z q:η) (l:Y TT) (h0:l! l<=4) (h:l! l≠4):nh (sy,z,q,l)=U:=by
 unfold nh ba bI bS bY bz bc;rcases l with _|⟨a,_|⟨b,_|⟨c,_|⟨d,_|⟨e,l⟩⟩⟩⟩⟩;all_goals first|(simp at h;done)|(exfalso;simp only[bX]at h0;omega)|simp[fV,kH,o8,r4,bcT,bcF]
def abj (sy:SY) (A z:η) (a b c d:TT) (h:SV i (sy,A,z,[a,b,c,d])) (hce:l! A<=1000) (hfu:l! z<=1000):ng (sy,A,z,[a,b,c,d])=Z ((sy.2.1,sy.1,sy.2.2.1,sy.2.2.2).1,(sy.2.1,sy.1,sy.2.2.1,sy.2.2.2).2.1,(sy.2.1,sy.1,sy.2.2.1,sy.2.2.2).2.2.1,(sy.2.1,sy.1,sy.2.2.1,sy.2.2.2).2.2.2,(([]:η)++A),(([]:η)++z),((((a.1,a.2.2.2),a.2.1,a.2.2.1).1.1,((a.1,a.2.2.2),a.2.1,a.2.2.1).2.1,((a.1,a.2.2.2),a.2.1,a.2.2.1).2.2,((a.1,a.2.2.2),a.2.1,a.2.2.1).1.2),(((b.1,b.2.2.2),b.2.1,b.2.2.1).1.1,((b.1,b.2.2.2),b.2.1,b.2.2.1).2.1,((b.1,b.2.2.2),b.2.1,b.2.2.1).2.2,((b.1,b.2.2.2),b.2.1,b.2.2.1).1.2),((c.1,c.2.2.2),c.2.1,c.2.2.1).1.1,((c.1,c.2.2.2),c.2.1,c.2.2.1).1.2,((d.1,d.2.2.2),d.2.1,d.2.2.1).1.1,((d.1,d.2.2.2),d.2.1,d.2.2.1).2.1,((d.1,d.2.2.2),d.2.1,d.2.2.1).2.2,((d.1,d.2.2.2),d.2.1,d.2.2.1).1.2),((c.1,c.2.2.2),c.2.1,c.2.2.1).2):=by
 have q:=h.sb.n1;have I:=h.t a (by simp);have F:=h.t b (by simp);have D:=h.t c (by simp);have hd:=h.t d (by simp);refine cF ?_;unfold ng ba bI bS bY bz bc;refine aV (rm sy h.sb) ?_;refine a! (a! ?_);refine eU rfl (bu rfl (aQ (aV (dw a i q I) ?_)));refine eU rfl (bu rfl (aQ (aV (dw b i q F) ?_)));refine eU rfl (bu rfl (aQ (aV (dw c i q D) ?_)));refine eU rfl (bu rfl (aQ (aV (dw d i q hd) ?_)));exact jQ rfl (aj rfl)
def Vk (sy:SY) (z q:η) (l:Y TT) (h0:l! l<=4) (h:l! l≠4):ng (sy,z,q,l)=U:=by
 unfold ng ba bI bS bY bz bc;rcases l with _|⟨a,_|⟨b,_|⟨c,_|⟨d,_|⟨e,l⟩⟩⟩⟩⟩;all_goals first|(simp at h;done)|(exfalso;simp only[bX]at h0;omega)|simp[fV,kH,o8,r4,bcT,bcF]
def abi (sy:SY) (A z:η) (a b c d:TT) (h:SV i (sy,A,z,[a,b,c,d])) (hce:l! A<=1000) (hfu:l! z<=1000):nc (sy,A,z,[a,b,c,d])=Z ((sy.2.1,sy.1,sy.2.2.1,sy.2.2.2).1,(sy.2.1,sy.1,sy.2.2.1,sy.2.2.2).2.1,(sy.2.1,sy.1,sy.2.2.1,sy.2.2.2).2.2.1,(sy.2.1,sy.1,sy.2.2.1,sy.2.2.2).2.2.2,(([]:η)++A),(([]:η)++z),((((a.1,a.2.2.2),a.2.1,a.2.2.1).1.1,((a.1,a.2.2.2),a.2.1,a.2.2.1).2.1,((a.1,a.2.2.2),a.2.1,a.2.2.1).2.2,((a.1,a.2.2.2),a.2.1,a.2.2.1).1.2),(((b.1,b.2.2.2),b.2.1,b.2.2.1).1.1,((b.1,b.2.2.2),b.2.1,b.2.2.1).2.1,((b.1,b.2.2.2),b.2.1,b.2.2.1).2.2,((b.1,b.2.2.2),b.2.1,b.2.2.1).1.2),(((c.1,c.2.2.2),c.2.1,c.2.2.1).1.1,((c.1,c.2.2.2),c.2.1,c.2.2.1).2.1,((c.1,c.2.2.2),c.2.1,c.2.2.1).2.2,((c.1,c.2.2.2),c.2.1,c.2.2.1).1.2),((d.1,d.2.2.2),d.2.1,d.2.2.1).1),((d.1,d.2.2.2),d.2.1,d.2.2.1).2):=by
 have q:=h.sb.n1;have I:=h.t a (by simp);have F:=h.t b (by simp);have D:=h.t c (by simp);have hd:=h.t d (by simp);refine cF ?_;unfold nc ba bI bS bY bz bc;refine aV (rm sy h.sb) ?_;refine a! (a! ?_);refine eU rfl (bu rfl (aQ (aV (dw a i q I) ?_)));refine eU rfl (bu rfl (aQ (aV (dw b i q F) ?_)));refine eU rfl (bu rfl (aQ (aV (dw c i q D) ?_)));refine eU rfl (bu rfl (aQ (aV (dw d i q hd) ?_)));exact jQ rfl (aj rfl)
def Vj (sy:SY) (z q:η) (l:Y TT) (h0:l! l<=4) (h:l! l≠4):nc (sy,z,q,l)=U:=by
 unfold nc ba bI bS bY bz bc;rcases l with _|⟨a,_|⟨b,_|⟨c,_|⟨d,_|⟨e,l⟩⟩⟩⟩⟩;all_goals first|(simp at h;done)|(exfalso;simp only[bX]at h0;omega)|simp[fV,kH,o8,r4,bcT,bcF]
def kdx (k:Int):k=1\/k=16\/k=2\/k=3\/k=23\/k=4\/k=22\/k=5\/((k=1)=False/\(k=16)=False/\(k=2)=False/\(k=3)=False/\(k=23)=False/\(k=4)=False/\(k=22)=False/\(k=5)=False):=by grind
def KR (n:Nat) (c:CT) (i:Nat) (u:Int) (l:Y TT) (z:R) (k:Int->(CT×SY×(ν)×Int×(υ)×ET×(ν)×(η)×(η)×R×(η)×Y η)->M G?):Prop:=
 ∀(p:Int) (sy:SY) (kd o v A:Int) (ds F I D g:η) (T:Y η) (ev:Int),
  (kd≠16->kd≠2->Ok (nB (aK xi c.2 (i:Int),(p,g,T,aZ .i64 (ev+1)))) λy=>TH (n+1) y.1)->
  (kd=16\/kd=2->TH (n+1) (p,g,T,aZ .i64 (ev+1)))->
  (∀q,TH (n+1) q->SQ n c ((sy,I,D,l.set i q),((i:Int),kd,o,v,A,ds,F),J))->(i:Int)<(l! c.2:Int)->
  ∀N,Ok (k p (c,sy,((i:Int),u),0,(0,0,0,0,0),((i:Int),kd,o,v,A,ds,F),(N,ev),I,D,z,g,T)) (SQ n c)
def Cn (N n:Nat) {cp:SY×(η)×(η)×Y TT->M (Int×(Y (Int×η))×(θ)×(Y (Int×Int×Bool))×(η)×(η)×R×(η)×Y η)} {pc ev:R->Int} {k:Int->(CT×SY×(ν)×Int×(υ)×ET×(ν)×(η)×(η)×R×(η)×Y η)->M G?} (hn:i+1<=100000) (q:CT) (s:ST) (t u:Int) (hc:CB q) (hs:SV i s)
 (h0:∀sy ce fu (l:Y TT),l! l<=4->l! l≠N->cp (sy,ce,fu,l)=U)
 (h1:∀sy ce fu (l:Y TT),SV i (sy,ce,fu,l)->l! ce<=1000->l! fu<=1000->l! l=N->n<N/\∃y,cp (sy,ce,fu,l)=Z y/\y.2.2.2.2.1=ce/\y.2.2.2.2.2.1=fu/\y.2.2.2.2.2.2.2.1=(aK eT l (n:Int)).2.1/\y.2.2.2.2.2.2.2.2=(aK eT l (n:Int)).2.2.1/\pc y.2.2.2.2.2.2.1=(aK eT l (n:Int)).1/\ev y.2.2.2.2.2.2.1=(aK eT l (n:Int)).2.2.2/\KR i q n u l y.2.2.2.2.2.2.1 k):
 Ro (SG (n:Int) cp pc ev k (q,s,t,u)) (SQ i q)/\(l! s.2.2.2=N->t=(n:Int)->Ok (SG (n:Int) cp pc ev k (q,s,t,u)) (SQ i q)):=by
 by_cases hz:l! s.2.2.2=N/\t=(n:Int)
 .obtain⟨hz1,rfl⟩:=hz;suffices h:Ok (SG (n:Int) cp pc ev k (q,s,(n:Int),u)) (SQ i q) from ⟨.inr h,λ_ _=>h⟩
  unfold SG Prod.m Prod.p Prod.q ba bQ b_ da ia tJ O3 Prod.l Prod.s Prod.r Prod.w bI dD tI Prod.o ck bi bz kQ aF;refine Jf hn hc hs (λo=>Ok o (SQ i q)) (λy h=>aj h) _ λe v sy hp he ha=>?_
  obtain⟨sy0,ce,fu,l⟩:=s;dsimp only at hz1 he ha;have hE:=hs.sb.n1;have vl:=hp.fs.vc.vl;have hce:=hp.fs.ce;have hfu:=hp.fs.fu;dsimp only at hce hfu;obtain⟨hiN,⟨q1,q2,q3,q4,ce',fu',z,R0,T0⟩,hcp,g1,g2,g3,g4,hpc,hve,hk⟩:=h1 sy0 ce fu l hs (by have:=vl.c;omega) (by have:=vl.f;omega) hz1;dsimp only at g1 g2 g3 g4 hpc hve hk;rw[g1,g2,g3,g4]at hcp;have hsb:=ha.toSB hs.sb hn;obtain⟨_,_,nmce,_,_,_,nmfu⟩:=id he.nm;have hev:EvF q.1 e:=⟨he.nm,hp.et▸hp.t0,by rw[hp.et,<-hp.fs.vc.tl];exact hp.t1,he.cd⟩
  have hes:Mp e:=⟨cA hp.d (by omega),cA hp.f (by omega)⟩
  have t1:(n:Int)<(l! q.2:Int):=hp.t1;have htf:TF (aK xi q.2 (n:Int)) (aK eT l (n:Int)):=hp.fs.t n (by omega);have hA:=hp.a;have hB:=hp.b;dsimp only at hA hB;have hvt:=hp.fs.vc.t _ (bE (T:=xi) (xs:=q.2) (j:=(n:Int)) (by omega) t1);have hci:=hc.ins _ (bE (T:=xi) (xs:=q.2) (j:=(n:Int)) (by omega) t1);have hth:TH i (aK eT l (n:Int)):=hs.t _ (bE (T:=eT) (xs:=l) (j:=(n:Int)) (by omega) (by omega));have hl:=hs.t;dsimp only at hl;clear g3 g4;generalize aK eT l (n:Int)=th at hcp hpc hve htf hA hB hth;obtain⟨e1,kd,o,e4,site,ds,fs⟩:=e;have het:=hp.et;dsimp only at het nmce nmfu hA hB;subst het;refine aV hcp ?_;dsimp only;rw[hpc,hve];refine eU (bK rfl) ?_;refine aG (by omega) t1 (aQ (aG htf.p0 htf.p1 (aQ ?_)));have htz:l! th.2.2.1=l! th.2.1:=by have:=htf.r;have:=htf.t;omega
  have fin:∀(p:Int) (g:η) (T:Y η),l! g=l! th.2.1->l! T=l! th.2.2.1->(∀x∈T,TL (i+1) x)->Ok (nB (aK xi q.2 (n:Int),(p,g,T,aZ .i64 (th.2.2.2+1)))) λy=>TH (i+1) y.1:=λp g T h1 h2 h3=>by
   have A:=hth.e0;have a2:=hth.e1;have a3:=hth.r;have a4:=hth.t;rw[jA (n:=th.2.2.2+1) (by omega) (by omega)];exact ab9 (i+1) hn _ hci hvt _ ⟨by dsimp only;omega,by dsimp only;omega,h3,by dsimp only;omega,by dsimp only;omega⟩
  have keep:∀x∈th.2.2.1,TL (i+1) x:=λx hx=>(hth.l x hx).mono (by omega)
  have mark:∀j:Int,∀x∈cC th.2.2.1 j [th.2.2.2],TL (i+1) x:=λj x hx=>by
   rcases ui hx with h|h
   .exact keep x h
   .rw[h];exact⟨⟨λy hy=>(by cases hy),trivial⟩,λy hy=>by rw[aA]at hy;have:=hth.e0;have:=hth.e1;rw[hy];exact⟨by omega,by omega⟩⟩
  have nopark:TH (i+1) (th.1,th.2.1,th.2.2.1,aZ .i64 (th.2.2.2+1)):=by
   have A:=hth.e0;have a2:=hth.e1;rw[jA (n:=th.2.2.2+1) (by omega) (by omega)];exact⟨hth.r,hth.t,keep,by dsimp only;omega,by dsimp only;omega⟩
  have done:∀(ce' fu':η) (v':Int) (t':TT),TH (i+1) t'->SQ i q ((sy,ce',fu',l.set n t'),((n:Int),kd,o,v',site,ds,fs),J):=λce' fu' v' t' ht' _=>⟨⟨hsb,λx hx=>(List.mem_or_eq_of_mem_set hx).elim (λh=>(hl x h).mono (by omega)) λh=>h▸ht'⟩,⟨hev.nm,hev.t0,hev.t1,hev.cd⟩,hes⟩
  clear hp hs hc h0 h1 hcp g1 g2;generalize (aK rq (aK xi q.2 (n:Int)).2 th.1)=ins at hA hB ⊢;rcases kdx kd with rfl|rfl|rfl|rfl|rfl|rfl|rfl|rfl|⟨k1,k2,k3,k4,k5,k6,k7,k8⟩
  case inr.inr.inr.inr.inr.inr.inr.inr=>
   simp only[k1,k2,k3,k4,k5,k6,k7,k8,dR,dB,Ji];exact hk _ _ _ _ _ _ _ _ _ _ _ _ _ (λ_ _=>fin _ _ _ rfl rfl keep) (λh=>by rw[k2,k3]at h;exact (h.elim id id).elim) (done _ _ _) t1 _
  all_goals simp only[dR,dB,Ji]
  .exact hk _ _ _ _ _ _ _ _ _ _ _ _ _ (λ_ _=>fin _ _ _ rfl rfl keep) (λh=>by omega) (done _ _ _) t1 _
  .exact hk _ _ _ _ _ _ _ _ _ _ _ _ _ (λh _=>(h rfl).elim) (λ_=>nopark) (done _ _ _) t1 _
  .exact hk _ _ _ _ _ _ _ _ _ _ _ _ _ (λ_ h=>(h rfl).elim) (λ_=>nopark) (done _ _ _) t1 _
  .obtain⟨I,F⟩:=nmce (.inl rfl);rw[<- hce]at F;obtain⟨D,A⟩:=hA (.inl rfl);have a2:ins.2.1<(l! th.2.2.1:Int):=by rw[htz];exact A
   refine kP (aG I F (aG I F (aj ?_)));simp only[dR,dB,Ji];refine kP (aG D A (aG D A (aG D a2 (aG D a2 (aj ?_)))));exact hk _ _ _ _ _ _ _ _ _ _ _ _ _ (λ_ _=>fin _ _ _ (cj ..) (cj ..) (mark _)) (λh=>by omega) (done _ _ _) t1 _
  .obtain⟨I,F⟩:=nmfu (.inr rfl);rw[<- hfu]at F;obtain⟨D,A⟩:=hA (.inr (.inl rfl));have a2:ins.2.1<(l! th.2.2.1:Int):=by rw[htz];exact A
   refine kP (aG I F (aG I F (aj ?_)));simp only[dR,dB,Ji];refine kP (aG D A (aG D A (aG D a2 (aG D a2 (aj ?_)))));exact hk _ _ _ _ _ _ _ _ _ _ _ _ _ (λ_ _=>fin _ _ _ (cj ..) (cj ..) (mark _)) (λh=>by omega) (done _ _ _) t1 _
  .obtain⟨I,F⟩:=nmce (.inr rfl);rw[<- hce]at F;obtain⟨D,A⟩:=hB (.inl rfl);refine kP (aG D A (aG D A (aG I F (aG I F (aj ?_)))));simp only[dR,dB,Ji];exact hk _ _ _ _ _ _ _ _ _ _ _ _ _ (λ_ _=>fin _ _ _ rfl rfl keep) (λh=>by omega) (done _ _ _) t1 _
  .obtain⟨I,F⟩:=nmfu (.inl rfl);rw[<- hfu]at F;obtain⟨D,A⟩:=hB (.inr rfl);refine kP (aG D A (aG D A (aG I F (aG I F (aj ?_)))));simp only[dR,dB,Ji];exact hk _ _ _ _ _ _ _ _ _ _ _ _ _ (λ_ _=>fin _ _ _ rfl rfl keep) (λh=>by omega) (done _ _ _) t1 _
  .obtain⟨D,A⟩:=hA (.inr (.inr rfl));refine kP (aG D A (aG D A (aL (λ_=>aj ?_) λ_=>aj ?_)));all_goals
    simp only[dR,dB,Ji];exact hk _ _ _ _ _ _ _ _ _ _ _ _ _ (λ_ _=>fin _ _ _ rfl rfl keep) (λh=>by omega) (done _ _ _) t1 _
 .refine ⟨?_,λh1 h2=>(hz ⟨h1,h2⟩).elim⟩;unfold SG Prod.m Prod.p Prod.q ba bQ b_ da ia tJ O3 Prod.l Prod.s Prod.r Prod.w bI dD tI Prod.o ck bi bz kQ aF;refine Jf hn hc hs (λo=>Ro o (SQ i q)) (λy h=>.inr (aj h)) _ λe v sy hp he ha=>.inl ?_
  obtain⟨sy0,ce,fu,l⟩:=s;have vl:=hp.fs.vc.vl;by_cases hl:l! l=N
  .have ht:¬t=(n:Int):=λh=>hz ⟨hl,h⟩
   dsimp only;cases cp (sy0,ce,fu,l) with
   |none=>rfl
   |some y=>rw[obs,bT ht];rfl
  .show aw (cp (sy0,ce,fu,l)) _=U;rw[h0 sy0 ce fu l (by have h1:l! l=l! q.2:=hp.fs.th;have:=hp.fs.vc.tl;have:=vl.t;omega) hl];rfl
def Cp {W V:Type} {I:CT} {l:Y TT} {z:R} {D:R->η->Y η->W} {A:W->V} {q:V->TT->Y TT} (h3:∀g T c,q (A (D z g T)) c=l.set i c):KR m I i a l z (KG (i:Int) D A q):=by
 intro p sy kd o v N ds fs ce fu g T ev fin park done ht pc;unfold KG Prod.m ba bQ b_ da ia tJ O3 Prod.l Prod.s Prod.r AR bi gF bz aF cM;dsimp only;have done:∀c,TH (m+1) c->SQ m I ((sy,ce,fu,q (A (D z g T)) c),((i:Int),kd,o,v,N,ds,fs),J):=λc h=>by rw[h3];exact done c h
 by_cases h1:kd=16
 .subst h1;exact kP (kP (jQ rfl (aj (jQ rfl (aj (eU (bK rfl) (aj (done _ (park (.inl rfl))))))))))
 by_cases F:kd=2
 .subst F;exact kP (kP (eU rfl (aj (jQ rfl (aj (eU (bK rfl) (aj (done _ (park (.inr rfl))))))))))
 rw[bT h1,bT F];exact kP (kP (eU rfl (aj (eU rfl (aG (iY i) ht (aQ (av (fin h1 F) λy hy=>aj (eU (bK rfl) (aj (done _ hy))))))))))
def ab0 (D:i+1<=100000) (q:CT) (s:ST) (t u:Int) (F:CB q) (z:SV i s):Ro (na (q,s,t,u)) (SQ i q)/\(l! s.2.2.2=4->t=0->Ok (na (q,s,t,u)) (SQ i q)):=by
 refine Cn 4 0 D q s t u F z Vm λsy N I l z hce hfu A=>⟨by decide,?_⟩
 obtain⟨a,b,c,d,rfl⟩:∃a b c d,l=[a,b,c,d]:=by
  rcases l with _|⟨a,_|⟨b,_|⟨c,_|⟨d,_|⟨e,l⟩⟩⟩⟩⟩;all_goals first|exact⟨_,_,_,_,rfl⟩|(simp at A;done)|(exfalso;simp only[bX]at A;omega)
 refine ⟨_,abl sy N I a b c d z hce hfu,rfl,rfl,rfl,rfl,rfl,rfl,Cp λR T t'=>rfl⟩
def aaz (D:i+1<=100000) (q:CT) (s:ST) (t u:Int) (F:CB q) (z:SV i s):Ro (m_ (q,s,t,u)) (SQ i q)/\(l! s.2.2.2=4->t=1->Ok (m_ (q,s,t,u)) (SQ i q)):=by
 refine Cn 4 1 D q s t u F z Vl λsy N I l z hce hfu A=>⟨by decide,?_⟩
 obtain⟨a,b,c,d,rfl⟩:∃a b c d,l=[a,b,c,d]:=by
  rcases l with _|⟨a,_|⟨b,_|⟨c,_|⟨d,_|⟨e,l⟩⟩⟩⟩⟩;all_goals first|exact⟨_,_,_,_,rfl⟩|(simp at A;done)|(exfalso;simp only[bX]at A;omega)
 refine ⟨_,abk sy N I a b c d z hce hfu,rfl,rfl,rfl,rfl,rfl,rfl,Cp λR T t'=>rfl⟩
def aay (D:i+1<=100000) (q:CT) (s:ST) (t u:Int) (F:CB q) (z:SV i s):Ro (lF (q,s,t,u)) (SQ i q)/\(l! s.2.2.2=4->t=2->Ok (lF (q,s,t,u)) (SQ i q)):=by
 refine Cn 4 2 D q s t u F z Vk λsy N I l z hce hfu A=>⟨by decide,?_⟩
 obtain⟨a,b,c,d,rfl⟩:∃a b c d,l=[a,b,c,d]:=by
  rcases l with _|⟨a,_|⟨b,_|⟨c,_|⟨d,_|⟨e,l⟩⟩⟩⟩⟩;all_goals first|exact⟨_,_,_,_,rfl⟩|(simp at A;done)|(exfalso;simp only[bX]at A;omega)
 refine ⟨_,abj sy N I a b c d z hce hfu,rfl,rfl,rfl,rfl,rfl,rfl,Cp λR T t'=>rfl⟩
def aax (D:i+1<=100000) (q:CT) (s:ST) (t u:Int) (F:CB q) (z:SV i s):Ro (kx (q,s,t,u)) (SQ i q)/\(l! s.2.2.2=4->t=3->Ok (kx (q,s,t,u)) (SQ i q)):=by
 refine Cn 4 3 D q s t u F z Vj λsy N I l z hce hfu A=>⟨by decide,?_⟩
 obtain⟨a,b,c,d,rfl⟩:∃a b c d,l=[a,b,c,d]:=by
  rcases l with _|⟨a,_|⟨b,_|⟨c,_|⟨d,_|⟨e,l⟩⟩⟩⟩⟩;all_goals first|exact⟨_,_,_,_,rfl⟩|(simp at A;done)|(exfalso;simp only[bX]at A;omega)
 refine ⟨_,abi sy N I a b c d z hce hfu,rfl,rfl,rfl,rfl,rfl,rfl,Cp λR T t'=>rfl⟩
def ab3 (D:i+1<=100000) (q:CT) (s:ST) (t u:Int) (F:CB q) (z:SV i s):Ro (jK (q,s,t,u)) (SQ i q)/\(l! s.2.2.2=3->t=0->Ok (jK (q,s,t,u)) (SQ i q)):=by
 refine Cn 3 0 D q s t u F z Vp λsy N I l z hce hfu A=>⟨by decide,?_⟩
 obtain⟨a,b,c,rfl⟩:∃a b c,l=[a,b,c]:=by
  rcases l with _|⟨a,_|⟨b,_|⟨c,_|⟨d,_|⟨e,l⟩⟩⟩⟩⟩;all_goals first|exact⟨_,_,_,rfl⟩|(simp at A;done)|(exfalso;simp only[bX]at A;omega)
 refine ⟨_,abo sy N I a b c z hce hfu,rfl,rfl,rfl,rfl,rfl,rfl,Cp λR T t'=>rfl⟩
def ab2 (D:i+1<=100000) (q:CT) (s:ST) (t u:Int) (F:CB q) (z:SV i s):Ro (iB (q,s,t,u)) (SQ i q)/\(l! s.2.2.2=3->t=1->Ok (iB (q,s,t,u)) (SQ i q)):=by
 refine Cn 3 1 D q s t u F z Vo λsy N I l z hce hfu A=>⟨by decide,?_⟩
 obtain⟨a,b,c,rfl⟩:∃a b c,l=[a,b,c]:=by
  rcases l with _|⟨a,_|⟨b,_|⟨c,_|⟨d,_|⟨e,l⟩⟩⟩⟩⟩;all_goals first|exact⟨_,_,_,rfl⟩|(simp at A;done)|(exfalso;simp only[bX]at A;omega)
 refine ⟨_,abn sy N I a b c z hce hfu,rfl,rfl,rfl,rfl,rfl,rfl,Cp λR T t'=>rfl⟩
def ab1 (D:i+1<=100000) (q:CT) (s:ST) (t u:Int) (F:CB q) (z:SV i s):Ro (g_ (q,s,t,u)) (SQ i q)/\(l! s.2.2.2=3->t=2->Ok (g_ (q,s,t,u)) (SQ i q)):=by
 refine Cn 3 2 D q s t u F z Vn λsy N I l z hce hfu A=>⟨by decide,?_⟩
 obtain⟨a,b,c,rfl⟩:∃a b c,l=[a,b,c]:=by
  rcases l with _|⟨a,_|⟨b,_|⟨c,_|⟨d,_|⟨e,l⟩⟩⟩⟩⟩;all_goals first|exact⟨_,_,_,rfl⟩|(simp at A;done)|(exfalso;simp only[bX]at A;omega)
 refine ⟨_,abm sy N I a b c z hce hfu,rfl,rfl,rfl,rfl,rfl,rfl,Cp λR T t'=>rfl⟩
def ab5 (D:i+1<=100000) (q:CT) (s:ST) (t u:Int) (F:CB q) (z:SV i s):Ro (gA (q,s,t,u)) (SQ i q)/\(l! s.2.2.2=2->t=0->Ok (gA (q,s,t,u)) (SQ i q)):=by
 refine Cn 2 0 D q s t u F z Vr λsy N I l z hce hfu A=>⟨by decide,?_⟩
 obtain⟨a,b,rfl⟩:∃a b,l=[a,b]:=by
  rcases l with _|⟨a,_|⟨b,_|⟨c,_|⟨d,_|⟨e,l⟩⟩⟩⟩⟩;all_goals first|exact⟨_,_,rfl⟩|(simp at A;done)|(exfalso;simp only[bX]at A;omega)
 refine ⟨_,abq sy N I a b z hce hfu,rfl,rfl,rfl,rfl,rfl,rfl,Cp λR T t'=>rfl⟩
def ab4 (D:i+1<=100000) (q:CT) (s:ST) (t u:Int) (F:CB q) (z:SV i s):Ro (f_ (q,s,t,u)) (SQ i q)/\(l! s.2.2.2=2->t=1->Ok (f_ (q,s,t,u)) (SQ i q)):=by
 refine Cn 2 1 D q s t u F z Vq λsy N I l z hce hfu A=>⟨by decide,?_⟩
 obtain⟨a,b,rfl⟩:∃a b,l=[a,b]:=by
  rcases l with _|⟨a,_|⟨b,_|⟨c,_|⟨d,_|⟨e,l⟩⟩⟩⟩⟩;all_goals first|exact⟨_,_,rfl⟩|(simp at A;done)|(exfalso;simp only[bX]at A;omega)
 refine ⟨_,abp sy N I a b z hce hfu,rfl,rfl,rfl,rfl,rfl,rfl,Cp λR T t'=>rfl⟩
def ab6 (D:i+1<=100000) (q:CT) (s:ST) (t u:Int) (F:CB q) (z:SV i s):Ro (gd (q,s,t,u)) (SQ i q)/\(l! s.2.2.2=1->t=0->Ok (gd (q,s,t,u)) (SQ i q)):=by
 refine Cn 1 0 D q s t u F z Vs λsy N I l z hce hfu A=>⟨by decide,?_⟩
 obtain⟨a,rfl⟩:∃a,l=[a]:=by
  rcases l with _|⟨a,_|⟨b,_|⟨c,_|⟨d,_|⟨e,l⟩⟩⟩⟩⟩;all_goals first|exact⟨_,rfl⟩|(simp at A;done)|(exfalso;simp only[bX]at A;omega)
 refine ⟨_,abr sy N I a z hce hfu,rfl,rfl,rfl,rfl,rfl,rfl,Cp λR T t'=>rfl⟩
def ab7 {n:Nat} (N:n+1<=100000) (c:CT) (s:ST) (t u:Int) (hc:CB c) (I:SV n s):Ok (Bc (c,s,t,u)) (SQ n c):=by
 unfold Bc;have q:=ab0 N c s t u hc I;have z:=aaz N c s t u hc I;have A:=aay N c s t u hc I;have D:=aax N c s t u hc I;have F:=ab3 N c s t u hc I;have a31:=ab2 N c s t u hc I;have a32:=ab1 N c s t u hc I;have a20:=ab5 N c s t u hc I;have a21:=ab4 N c s t u hc I;have a10:=ab6 N c s t u hc I;by_cases hz:l! s.2.2.2<=4/\0<=t/\t<(l! s.2.2.2:Int)
 .obtain⟨h1,h2,h3⟩:=hz;have:(l! s.2.2.2=4/\t=0)\/(l! s.2.2.2=4/\t=1)\/(l! s.2.2.2=4/\t=2)\/(l! s.2.2.2=4/\t=3)\/(l! s.2.2.2=3/\t=0)\/(l! s.2.2.2=3/\t=1)\/(l! s.2.2.2=3/\t=2)\/(l! s.2.2.2=2/\t=0)\/(l! s.2.2.2=2/\t=1)\/(l! s.2.2.2=1/\t=0):=by omega
  rcases this with h|h|h|h|h|h|h|h|h|h
  .exact (q.2 h.1 h.2).orL
  .exact q.1.orR (z.2 h.1 h.2).orL
  .exact q.1.orR (z.1.orR (A.2 h.1 h.2).orL)
  .exact q.1.orR (z.1.orR (A.1.orR (D.2 h.1 h.2).orL))
  .exact q.1.orR (z.1.orR (A.1.orR (D.1.orR (F.2 h.1 h.2).orL)))
  .exact q.1.orR (z.1.orR (A.1.orR (D.1.orR (F.1.orR (a31.2 h.1 h.2).orL))))
  .exact q.1.orR (z.1.orR (A.1.orR (D.1.orR (F.1.orR (a31.1.orR (a32.2 h.1 h.2).orL)))))
  .exact q.1.orR (z.1.orR (A.1.orR (D.1.orR (F.1.orR (a31.1.orR (a32.1.orR (a20.2 h.1 h.2).orL))))))
  .exact q.1.orR (z.1.orR (A.1.orR (D.1.orR (F.1.orR (a31.1.orR (a32.1.orR (a20.1.orR (a21.2 h.1 h.2).orL)))))))
  .exact q.1.orR (z.1.orR (A.1.orR (D.1.orR (F.1.orR (a31.1.orR (a32.1.orR (a20.1.orR (a21.1.orR (a10.2 h.1 h.2)))))))))
 .refine Ok.orL ?_;unfold na ba bQ dD;refine Jf N hc I (λo=>Ok o (SQ n c)) (λy h=>aj h) _ λe v sy hp he ha=>(hz ?_).elim
  have h1:l! s.2.2.2=l! c.2:=hp.fs.th;have h2:l! c.2=l! c.1.2.2.2.2.1:=hp.fs.vc.tl;have h3:l! c.1.2.2.2.2.1<=4:=hp.fs.vc.vl.t;have h4:0<=t:=hp.t0;have h5:t<(l! c.2:Int):=hp.t1;exact⟨by omega,h4,by omega⟩
def aio (c:CT) (s:ST) (l:Y ν) (hc:CB c) (hs:SV 0 s) (hl:l.length<=9223372036854775806):Ok (wF (c,s,l)) λy=>y.1.length<=400/\∀e∈y.1,EvF c.1 e/\Mp e:=by
 unfold wF ba bQ dD bS bY bz bc cW aF cM;refine qB (λx=>((l.length:Int)-x.1).toNat) (λx=>0<=x.1/\x.2.2.1=c/\SV x.2.1.length x.2.2.2.1/\x.2.1.length<=400/\∀e∈x.2.1,EvF c.1 e/\Mp e) ?_ ⟨dX _,rfl,hs,by simp,λe he=>(by cases he)⟩;rintro⟨(i:Int),es,A,s',z⟩ ⟨F,e1,e2,D,q⟩;dsimp only at F e1 e2 D q;subst e1;refine aX (λx=>x.2=(es,A,s',z)/\(x.1=J->i<(l.length:Int)/\es.length<400)) ?_ ?_
 .refine aY (λg=>aj ⟨rfl,λh=>⟨g,?_⟩⟩) λ_=>aj ⟨rfl,nofun⟩
  dsimp only at h;rw[oc]at h;dsimp only[ak]at h;omega
 rintro⟨b,x⟩ ⟨N,I⟩;dsimp only at N I;subst N;refine aM (λh=>?_) λ_=>aj ⟨D,q⟩
 let⟨g1,g2⟩:=I h;refine aX (λx=>x.2.1=A/\SV x.1.length x.2.2.1/\x.1.length<=400/\∀e∈x.1,EvF A.1 e/\Mp e) ?_ ?_
 .refine aG F g1 (aQ ?_);refine av (ab7 (n:=es.length) (by omega) A s' _ _ hc e2) λy hy=>?_
  refine aM (λh=>?_) λ_=>aj ⟨rfl,e2,D,q⟩
  let⟨h1,h2,h3⟩:=hy h;refine a! (aj ⟨rfl,?_,by simp;omega,λe he=>?_⟩)
  .dsimp only;rw[aD,aJ];exact h1
  .rcases bF.1 he with he|he
   .exact q e he
   .rw[aA]at he;subst he;exact⟨h2,h3⟩
 rintro⟨es',c2,s2,z2⟩ ⟨k1,k2,k3,k4⟩;dsimp only at k1 k2 k3 k4;subst k1;refine aj ?_;dsimp only;rw[jA (n:=i+1) (by omega) (by omega)];exact⟨⟨by omega,rfl,k2,k3,k4⟩,by omega⟩
def ao7 (c:CT) (l:Y ν) (q:CB c) (F:l! l<=9223372036854775806):Ok (zP (c,l)) λy=>TR y.1:=by
 unfold zP;refine av (L5 c q) λb I=>?_
 refine cH (λ_=>aj ⟨by simp,λe he=>(by cases he),.inl rfl⟩) λh=>?_
 have A:=I h;refine av (XU c q) λs D=>?_
 refine av (aio c s l q D F) λy z=>aj ?_
 exact⟨by have:=z.1;dsimp only;omega,λe he=>(z.2 e he).2,.inr (q.lk.resolve_left λe=>by have h1:=A.tl;have N:=A.vl.t0;rw[e,em]at h1;omega)⟩
def X2 (l:η) (c:l! l<=1000000):Ok (oX l) λy=>l! y=l! l:=by
 unfold oX bS bY bz bc cW aF cM;refine bn (l! l) (λi x=>x.1=(i:Int)/\l! x.2=i) ?_ ?_ ⟨rfl,rfl⟩
 .rintro i ⟨a,b⟩ hi ⟨e1,e2⟩;dsimp only at e1 e2;subst e1;refine aY (λ_=>?_) λg=>(by dsimp only[ak]at g;omega)
  refine cG (aQ (cG (aQ (a! (aj ?_)))));dsimp only;exact⟨fd,by simp;omega⟩
 .rintro⟨a,b⟩ ⟨e1,e2⟩;dsimp only at e1 e2;subst e1;exact aY (λg=>(by dsimp only[ak]at g;omega)) λ_=>aj e2
def fo (e:Xp):ey (Xp.op e,Xp.n e,Xp.name e,Xp.l e)=e:=by cases e;rfl
def zG (s:Sx):oY (Sx.op s,Sx.line s,Sx.name s,Sx.arg s,Sx.index s,Sx.expr s,Sx.body s,Sx.els s)=s:=by cases s;rfl
def GE:Nat->Xp->Prop
 |0,_=>False
 |d+1,e=>(e.op=3->e.name=[113])/\(e.op≠1->e.op≠2->1<=l! e.l)/\l! e.l<=2/\∀x∈e.l,GE d x
def GE.mono:∀{d:Nat} {e:Xp},GE d e->GE (d+1) e
 |0,_,h=>h.elim
 |_+1,_,h=>⟨h.1,h.2.1,h.2.2.1,λx c=>(h.2.2.2 x c).mono⟩
def GE.le {e:Xp} (h:GE i e) (q:i<=m):GE m e:=by
 induction q with
 |refl=>exact h
 |step _ c=>exact c.mono
def Px (n:Int):rQ n=Z (.mk 1 n [] []):=rfl
def IQ (s:ζ):pC s=Z (.mk 2 0 s []):=rfl
def FZ (o:Int) (a b:Xp):nZ (o,a,b)=Z (.mk o 0 [] [a,b]):=by
 cases a;cases b;rfl
def ue (s:ζ) (e:Xp):jE (s,e)=Z (.mk 1 0 s [] [] e [] []):=by
 cases e;rfl
abbrev MK:Type:=M!
abbrev Rf:Type:=m?
abbrev HD:Type:=Bool×Y ζ
def GE.num (n:Int) (d:Nat):GE (d+1) (.mk 1 n [] []):=⟨nofun,λh=>(h rfl).elim,by simp[Xp.l],λx c=>(by cases c)⟩
def GE.nm (s:ζ) (d:Nat):GE (d+1) (.mk 2 0 s []):=⟨nofun,λ_ h=>(h rfl).elim,by simp[Xp.l],λx c=>(by cases c)⟩
def GE.bin {o b:Xp} (q:a≠3) (A:GE i o) (z:GE i b):GE (i+1) (.mk a 0 [] [o,b]):=
 ⟨λh=>(q h).elim,λ_ _=>by simp[Xp.l],by simp[Xp.l],λx c=>by
   simp only[Xp.l,bB,cO,gx]at c;rcases c with rfl|rfl
   .exact A
   .exact z⟩
def GE.ix {a:Xp} (q:GE i a):GE (i+1) (.mk 3 0 [113] [a]):=
 ⟨λ_=>rfl,λ_ _=>by simp[Xp.l],by simp[Xp.l],λx c=>by
   simp only[Xp.l,bB,cO,gx]at c;rw[c];exact q⟩
def D5:∀(n d:Nat),d<n->d<=10->∀(m:MK) (t:Rf) (h:HD),TP t->Ok (iu n ((d:Int),m,t,h)) λy=>GE (d+1) y.1/\y.2.1=m/\oz t y.2.2.1/\y.2.2.2=h
 |0,d,hd,_,_,_,_,_=>by omega
 |n+1,d,hd,h10,m,t,h,ht=>by
  rw[za];unfold ol ba bQ bI dD dP bi bS bY kQ bc aF;refine av (d8 10 t ht) λy c=>?_
  let⟨k,t1⟩:=y;let⟨A,k0,k1,_⟩:=c;have k1:=k1 (by decide);dsimp only at A k0 k1;refine aX (λx=>x.2=(m,t1,h,(0,0,[]),[[97],[98],[120],[121],[118],[120],[121]])/\(x.1=aa->2<=k/\(d=0->k<7))) ?_ ?_
  .refine aY (λ_=>aj ⟨rfl,nofun⟩) λg=>aL (λg2=>aj ⟨rfl,λg3=>⟨g,λ_=>?_⟩⟩) λg2=>aj ⟨rfl,λ_=>⟨g,λh=>(g2 (by dsimp only;omega)).elim⟩⟩
   dsimp only at g3;rw[je]at g3;exact g3
  rintro⟨b,x⟩ ⟨e,hb⟩;dsimp only at e hb;subst e;refine aM (λ_=>?_) λg=>?_
  .refine av (d8 4 t1 A.p) λy c=>?_
   refine aV (Px _) (aj ?_);exact⟨GE.num _ _,rfl,A.trans c.1,rfl⟩
  let⟨q0,q1⟩:=hb g;refine aY (λg=>?_) λg=>?_
  .refine av (d8 _ t1 A.p) λy c=>?_
   let⟨u1,D,q,_⟩:=c;have q:=q (show (1:Int)<=7 by decide);refine aG D q (aG D q (aQ ?_));refine aV (IQ _) (aj ?_);exact⟨GE.nm _ _,rfl,A.trans u1,rfl⟩
  dsimp only at g;have hd0:d≠0:=λh=>by have:=q1 h;omega
  obtain⟨d,rfl⟩:∃k,d=k+1:=⟨d-1,by omega⟩
  refine aL (λg=>?_) λg=>?_
  .refine av (D5 n 0 (by omega) (by omega) m t1 h A.p) λy c=>?_
   let⟨e,m',t',h'⟩:=y;let⟨v1,N,F,I⟩:=c;dsimp only at v1 N F I;subst N I;refine bu (by simp) (aj ?_);dsimp only;rw[fo];exact⟨(GE.ix (v1.le (by omega):GE (d+1) e)),rfl,A.trans F,rfl⟩
  .refine av (d8 _ t1 A.p) λy c=>?_
   let⟨k2,t2⟩:=y;let⟨u1,D,q,_⟩:=c;have q:=q (by decide);dsimp only at u1 D q;refine aG D q (aG D q (aQ ?_));have ho:aK aO [6,7,8,11,13,17] k2≠(3:Int):=by
    have h1:=bE (T:=aO) (xs:=([6,7,8,11,13,17]:η)) D q;have:∀z:Int,z∈([6,7,8,11,13,17]:η)->z≠3:=by decide
    exact this _ h1
   have ew:aZ .i64 (((d+1:Nat):Int)-1)=(d:Int):=by rw[jA];omega
   dsimp only;rw[ew];refine av (D5 n d (by omega) (by omega) m t2 h u1.p) λy c=>?_
   let⟨e,m',t',h'⟩:=y;let⟨v1,N,F,I⟩:=c;dsimp only at v1 N F I;subst N I;refine bu (by simp) ?_;refine av (D5 n d (by omega) (by omega) m' t' h' F.p) λy c=>?_
   let⟨e2,m2,t2',h2⟩:=y;let⟨w1,w2,w3,w4⟩:=c;dsimp only at w1 w2 w3 w4;subst w2 w4;refine bu (by simp) ?_;refine aV (FZ _ _ _) (aj ?_);dsimp only;rw[fo];exact⟨GE.bin ho v1 w1,rfl,A.trans (u1.trans (F.trans w3)),rfl⟩
def adp (d:Nat) (hd:d<=10) (m:MK) (t:Rf) (h:HD) (ht:TP t):Ok (fc ((d:Int),m,t,h)) λy=>GE (d+1) y.1/\y.2.1=m/\oz t y.2.2.1/\y.2.2.2=h:=D5 fI d (by rw[po];omega) hd m t h ht
def NE (op:Int):Prop:=op=1\/op=2\/op=3\/op=14
def ZE (e:Xp):Prop:=GE 4 e\/e= .mk 0 0 [] []
def GS:Nat->Sx->Prop
 |0,_=>False
 |d+1,s=>(s.index≠[]->s.name=[113])/\l! s.index<=1/\(∀e∈s.index,GE 4 e)/\(NE s.op->GE 4 s.expr)/\ZE s.expr/\l! s.body<=8/\l! s.els<=8/\(∀x∈s.body,GS d x)/\(∀x∈s.els,GS d x)
def GS.mono:∀{d:Nat} {s:Sx},GS d s->GS (d+1) s
 |0,_,h=>h.elim
 |_+1,_,⟨a,b,c,e,f,g,i,j,k⟩=>⟨a,b,c,e,f,g,i,λx q=>(j x q).mono,λx q=>(k x q).mono⟩
def GS.le {s:Sx} (h:GS i s) (q:i<=m):GS m s:=by
 induction q with
 |refl=>exact h
 |step _ c=>exact c.mono
def GS.asg (s:ζ) {e:Xp} (h:GE 4 e):GS (i+1) (.mk 1 0 s [] [] e [] []):=
 ⟨λh=>(h rfl).elim,by simp[Sx.index],λe he=>(by cases he),λ_=>h,.inl h,by simp[Sx.body],by simp[Sx.els],λx c=>(by cases c),λx c=>(by cases c)⟩
def GS.aix {d e:Xp} (hi:GE 4 d) (h:GE 4 e):GS (i+1) (.mk 1 0 [113] [] [d] e [] []):=
 ⟨λ_=>rfl,by simp[Sx.index],λe he=>(by simp only[Sx.index,aA]at he;rw[he];exact hi),λ_=>h,.inl h,by simp[Sx.body],by simp[Sx.els],λx c=>(by cases c),λx c=>(by cases c)⟩
def GS.we {s op:ζ} {e:Xp} {b l:Y Sx} (h:GE 4 e) (q:l! b<=8) (c:l! l<=8) (A:∀x∈b,GS i x) (z:∀x∈l,GS i x):GS (i+1) (.mk a 0 s op [] e b l):=
 ⟨λh=>(h rfl).elim,by simp[Sx.index],λe he=>(by cases he),λ_=>h,.inl h,q,c,A,z⟩
def GS.wo {ln:Int} {s op:ζ} {b:Y Sx} (A:4<=a/\a≠14) (q:l! b<=8) (z:∀x∈b,GS i x):GS (i+1) (.mk a ln s op [] (.mk 0 0 [] []) b []):=
 ⟨λh=>(h rfl).elim,by simp[Sx.index],λe he=>(by cases he),λh=>(by have h:a=1\/a=2\/a=3\/a=14:=h;omega),.inr rfl,q,by simp[Sx.els],z,λx c=>(by cases c)⟩
def QS (d:Nat) (n:Int) (t:Rf) (h:HD) (y:MK×Rf×HD×Y Sx):Prop:=(l! y.2.2.2:Int)<=max 0 n/\(∀s∈y.2.2.2,GS (d+1) s)/\oz t y.2.1/\y.2.2.1.2=h.2
abbrev C?:=MK×Rf×HD
def QT (d:Nat) (t:Rf) (h:HD) (y:Sx×C?):Prop:=GS (d+1) y.1/\oz t y.2.2.1/\y.2.2.2.2=h.2
def QB (d:Nat) (t:Rf) (h:HD) (y:Y Sx×C?):Prop:=l! y.1<=2/\(∀s∈y.1,GS (d+1) s)/\oz t y.2.2.1/\y.2.2.2.2=h.2
abbrev RS:Type:=(ν×C?)->M (MK×Rf×HD×Y Sx)
abbrev RT:Type:=(Int×C?)->M (Sx×C?)
abbrev RBk:Type:=((ζ×Int)×C?)->M (Y Sx×C?)
def SpS (c:RS) (d:Nat):Prop:=∀(n:Int) (m:MK) (t:Rf) (h:HD),n<=3->TP t->l! h.2+d<=100->Ok (c (((d:Int),n),m,t,h)) (QS d n t h)
def SpT (c:RT) (d:Nat):Prop:=∀(m:MK) (t:Rf) (h:HD),TP t->l! h.2+d<=100->Ok (c ((d:Int),m,t,h)) (QT d t h)
def SpB (c:RBk) (d:Nat):Prop:=∀(s:ζ) (m:MK) (t:Rf) (h:HD),TP t->l! h.2+1+d<=100->Ok (c ((s,(d:Int)),m,t,h)) (QB d t h)
def Z6 (N:RS) (D:RT) (rb:RBk) (d:Nat) (ht:SpT D d):SpS (mE N D rb) d:=by
 intro n m t h hn hp hh;unfold mE ba bQ b_ bI dD dP bi bS bY cW aF cM eu;refine qB (λx=>(n-x.1).toNat) (λx=>0<=x.1/\(x.1<=n\/x.1=0)/\oz t x.2.2.1/\(l! x.2.2.2.1:Int)<=x.1/\(∀s∈x.2.2.2.1,GS (d+1) s)/\x.2.2.2.2.2=h.2) ?_ ⟨dX _,.inr rfl,oz.refl hp,by simp,λs hs=>(by cases hs),rfl⟩;rintro⟨(i:Int),m',A,l,h'⟩ ⟨i0,i1,e1,e2,z,q⟩;dsimp only at i0 i1 e1 e2 z q;refine aX (λx=>x.2=(m',A,l,h')/\(x.1=J->i<n)) ?_ ?_
 .refine aY (λg=>aL (λ_=>aj ⟨rfl,λ_=>g⟩) λ_=>aj ⟨rfl,λ_=>g⟩) λ_=>aj ⟨rfl,nofun⟩
 rintro⟨b,x⟩ ⟨I,F⟩;dsimp only at I F;subst I;refine aM (λhb=>?_) λ_=>aj ⟨by dsimp only;omega,z,e1,q⟩
 have g:=F hb;refine av (ht m' A h' e1.p (by rw[q];exact hh)) λy hy=>?_
 let⟨s,m2,t2,h2⟩:=y;let⟨k1,k2,k3⟩:=hy;dsimp only at k1 k2 k3;refine bu (by simp) (a! (aj ?_));dsimp only;rw[fo,zG,jA (n:=i+1) (by omega) (by omega)];refine ⟨⟨by omega,by omega,e1.trans k2,by simp;omega,λx c=>?_,k3.trans q⟩,by omega⟩;rcases bF.1 c with c|c
 .exact z x c
 .rw[aA]at c;subst c;exact k1
def Z8 (A:RS) (I:RT) (N:RBk) (d:Nat) (hs:SpS A d):SpB (mF A I N) d:=by
 intro s m t h hp hh;unfold mF ba bQ bI dD bY bc;refine a! ?_;refine av (d8 2 t hp) λy z=>?_
 let⟨k,F⟩:=y;let⟨q,D,c,_⟩:=z;have c:=c (by decide);dsimp only at q D c;have ew:aZ .i64 (1+k)=1+k:=jA;dsimp only;rw[ew];refine av (hs (1+k) m F (h.1,h.2++[s]) (by omega) q.p (by simp;omega)) λy z=>?_
 let⟨m2,t2,h2,l⟩:=y;let⟨k1,k2,k3,k4⟩:=z;dsimp only at k1 k2 k3 k4;refine bu (by simp) ?_;dsimp only;rw[k4];have el:aZ .i64 ((bC (l! (h.2++[s])))-1)=(l! h.2:Int):=by
  rw[aD,aJ,jA (by simp<;>omega) (by simp<;>omega)];simp<;>omega
 rw[el];refine bt (a? (tN (by simp;omega) (aj ?_)));refine ⟨by dsimp only;omega,k2,q.trans k3,?_⟩;show ca (aS (l! h.2:Int)) (h.2++[s])=h.2;simp
def DO (s:ζ) (m:MK) (t:Rf) (h:HD) (hh:l! h.2<=100):Ok (eM (s,m,t,h)) λy=>y.2=(m,t,h):=by
 unfold eM dD;exact av (EW h.2 s (by omega)) λy _=>aj rfl
def aeh (rs:RS) (rt:RT) (rb:RBk) (d:Nat) (hd:d<=5) (h0:1<=d->SpS rs 0) (hS:1<=d->SpS rs (d-1)) (hB:1<=d->SpB rb (d-1)):SpT (oh rs rt rb) d:=by
 intro m t h hp hh;unfold oh ba bQ b_ bI dD dP bi bS bY kQ aF eu;refine av (d8 18 t hp) λy A=>?_
 let⟨k,F⟩:=y;let⟨D,k0,k1,_⟩:=A;have k1:=k1 (by decide);dsimp only at D k0 k1;have hE:∀(j:Nat) (m':MK) (t':Rf) (h':HD),j<=1->TP t'->Ok (fc ((j:Int),m',t',h')) λy=>GE 4 y.1/\y.2.1=m'/\oz t' y.2.2.1/\y.2.2.2=h':=λj m' t' h' hj ht'=>(adp j (by omega) m' t' h' ht').mono λy A=>⟨A.1.le (by omega),A.2⟩
 have ed:aZ .i64 ((d:Int)-1)=(d:Int)-1:=jA;have ed1:1<=d->(d:Int)-1=((d-1:Nat):Int):=λ_=>by omega
 refine aX (λx=>x.2=((m.1,aZ .i64 (m.2.1-1),m.2.2),F,(0,0,[],[],0,0,[]),h)/\(x.1=J->1<=d)) ?_ ?_
 .refine aY (λg=>aQ (aY (λ_=>aj ⟨rfl,λ_=>?_⟩) λ_=>aj ⟨rfl,nofun⟩)) λ_=>aj ⟨rfl,nofun⟩
  dsimp only at g;omega
 generalize ((m.1,aZ .i64 (m.2.1-1),m.2.2):MK)=m0;rintro⟨nest,x⟩ ⟨e,hn⟩;dsimp only at e hn;subst e;refine aY (λ_=>?_) λg4=>?_
 .refine aG k0 (by dsimp only[ah];omega) (aG k0 (by dsimp only[ah];omega) (aQ ?_));refine av (hE 1 m0 F h (by omega) D.p) λy A=>?_
  let⟨e,m2,t2,h2⟩:=y;let⟨v1,v2,v3,v4⟩:=A;dsimp only at v1 v2 v3 v4;subst v2 v4;refine bu (by simp) (aV (ue _ _) (aj ?_));dsimp only;rw[fo,zG];exact⟨GS.asg _ v1,D.trans v3,rfl⟩
 dsimp only at g4;refine aL (λ_=>?_) λg5=>?_
 .refine av (d8 2 F D.p) λy A=>?_
  let⟨u1,u2,u3,_⟩:=A;have u3:=u3 (by decide);refine aG u2 u3 (aG u2 u3 (aQ ?_));refine av (hE 1 m0 y.2 h (by omega) u1.p) λz I=>?_
  let⟨e,m2,t2,h2⟩:=z;let⟨v1,v2,v3,v4⟩:=I;dsimp only at v1 v2 v3 v4;subst v2 v4;refine bu (by simp) (aV (ue _ _) (aj ?_));dsimp only;rw[fo,zG];exact⟨GS.asg _ v1,D.trans (u1.trans v3),rfl⟩
 dsimp only at g5;refine aL (λ_=>?_) λg6=>?_
 .refine av (hE 0 m0 F h (by omega) D.p) λz I=>?_
  let⟨e,m2,t2,h2⟩:=z;let⟨v1,v2,v3,v4⟩:=I;dsimp only at v1 v2 v3 v4;subst v2 v4;refine bu (by simp) ?_;refine av (hE 1 m2 t2 h2 (by omega) v3.p) λz I=>?_
  let⟨e',m3,t3,h3⟩:=z;let⟨w1,w2,w3,w4⟩:=I;dsimp only at w1 w2 w3 w4;subst w2 w4;refine bu (by simp) (aj ?_);dsimp only;rw[fo,fo];exact⟨GS.aix v1 w1,D.trans (v3.trans w3),rfl⟩
 dsimp only at g6;have I:∀(c:Prop),c->c:=λ_ h=>h
 have dd:1<=d->d-1+1=d:=λ_=>by omega
 have w8:8<=k->aZ .i64 (k-8)=k-8:=λ_=>jA
 refine aX (λx=>x.2=(m0,F,(0,0,[],[],0,0,[]),h)/\(x.1=J->1<=d)) ?_ ?_
 .refine aL (λ_=>aj ⟨rfl,λg=>?_⟩) λ_=>aj ⟨rfl,nofun⟩
  dsimp only at g;rw[oc]at g;omega
 rintro⟨b,x⟩ ⟨e,hb⟩;dsimp only at e hb;subst e;refine aM (λq=>?_) λ_=>?_
 .have d1:=hb q;refine av (hE 1 m0 F h (by omega) D.p) λz I=>?_
  let⟨e,m2,t2,h2⟩:=z;let⟨v1,v2,v3,v4⟩:=I;dsimp only at v1 v2 v3 v4;subst v2 v4;refine bu (by simp) ?_;dsimp only;rw[ed,ed1 d1];refine av (hS d1 1 m2 t2 h2 (by omega) v3.p (by omega)) λz I=>?_
  let⟨m3,t3,h3,l⟩:=z;let⟨w1,w2,w3,w4⟩:=I;dsimp only at w1 w2 w3 w4;rw[dd d1]at w2;refine bu (by simp) ?_;refine aX (λx=>x.2.2.2.1=(2,0,[],[],e.op,e.n,e.name,e.l)/\oz F x.2.1/\x.2.2.2.2.1.2=h2.2/\x.2.2.2.2.2.1=l/\l! x.2.2.2.2.2.2<=8/\∀s∈x.2.2.2.2.2.2,GS d s) ?_ ?_
  .refine av (d8 2 t3 w3.p) λy A=>?_
   refine aL (λ_=>?_) λ_=>aj ⟨rfl,v3.trans (w3.trans A.1),w4,rfl,by simp,λs hs=>(by cases hs)⟩
   dsimp only;refine av (hS d1 1 m3 y.2 h3 (by omega) A.1.p (by rw[w4];omega)) λz I=>?_
   let⟨m4,t4,h4,l2⟩:=z;let⟨x1,x2,x3,x4⟩:=I;dsimp only at x1 x2 x3 x4;rw[dd d1]at x2;exact bu (by simp) (aj ⟨rfl,v3.trans (w3.trans (A.1.trans x3)),x4.trans w4,rfl,by dsimp only;omega,x2⟩)
  rintro⟨m5,t5,z5,e5,h5,l5,l6⟩ ⟨x1,x2,x3,x4,x5,x6⟩;dsimp only at x1 x2 x3 x4 x5 x6;subst x1 x4;refine aj ?_;dsimp only;rw[fo];exact⟨GS.we v1 (by first|omega|(dsimp only;omega)) x5 w2 x6,D.trans x2,x3⟩
 refine aX (λx=>x.2=(m0,F,(0,0,[],[],0,0,[]),h)/\(x.1=J->1<=d)) ?_ ?_
 .refine aL (λ_=>aj ⟨rfl,λg=>?_⟩) λ_=>aj ⟨rfl,nofun⟩
  dsimp only at g;rw[oc]at g;omega
 rintro⟨b,x⟩ ⟨e,hb⟩;dsimp only at e hb;subst e;refine aM (λq=>?_) λ_=>?_
 .have d1:=hb q;refine aV (IQ _) (aV (Px _) (aV (FZ _ _ _) ?_));dsimp only;rw[ed,ed1 d1];refine av (hS d1 1 _ F h (by omega) D.p (by omega)) λz I=>?_
  let⟨m3,t3,h3,l⟩:=z;let⟨w1,w2,w3,w4⟩:=I;dsimp only at w1 w2 w3 w4;rw[dd d1]at w2;refine bu (by simp) ?_;refine aV (IQ _) (aV (Px _) (aV (FZ _ _ _) (aV (ue _ _) ?_)));refine a! (aj ?_);dsimp only;rw[fo,fo,zG];refine ⟨GS.we (GE.bin (by omega) (GE.nm _ 2) (GE.num _ 2)) (by simp;omega) (by simp) (λx N=>?_) (λx N=>(by cases N)),D.trans w3,w4⟩;rcases bF.1 N with N|N
  .exact w2 x N
  .rw[aA]at N;subst N;rw[<- dd d1];exact GS.asg _ (GE.bin (by omega) (GE.nm _ 2) (GE.num _ 2))
 refine aX (λx=>x.2=(m0,F,(0,0,[],[],0,0,[]),h)/\(x.1=J->nest=J/\(k=8\/k=9))) ?_ ?_
 .refine aL (λg=>aM (λgn=>?_) λ_=>aj ⟨rfl,nofun⟩) λ_=>aL (λg=>aM (λgn=>?_) λ_=>aj ⟨rfl,nofun⟩) λ_=>aj ⟨rfl,nofun⟩
  all_goals
   dsimp only at g ⊢;rw[w8 (by omega)];refine aG (by omega) (by simp;omega) (aG (by omega) (by simp;omega) (aQ ?_));refine av (DO _ m0 F h (by omega)) λy A=>?_
   let⟨yb,y2⟩:=y;dsimp only at A;subst A;exact bu (by simp) (aj ⟨rfl,λ_=>⟨gn,by omega⟩⟩)
 rintro⟨b,x⟩ ⟨e,hb⟩;dsimp only at e hb;subst e;refine aM (λq=>?_) λ_=>?_
 .obtain⟨q1,q2⟩:=hb q;have d1:=hn q1;dsimp only;rw[w8 (by omega),ed,ed1 d1];refine aG (by omega) (by simp;omega) (aG (by omega) (by simp;omega) (aQ ?_));refine av (hB d1 _ m0 F h D.p (by omega)) λz I=>?_
  let⟨l,m3,t3,h3⟩:=z;let⟨w1,w2,w3,w4⟩:=I;dsimp only at w1 w2 w3 w4;rw[dd d1]at w2;exact bu (by simp) (aj ⟨GS.wo (by omega) (by first|omega|(dsimp only;omega)) w2,D.trans w3,w4⟩)
 refine aX (λx=>x.2=(m0,F,(0,0,[],[],0,0,[]),h)/\(x.1=J->nest=J/\(k=10\/k=11))) ?_ ?_
 .refine aL (λg=>aM (λgn=>?_) λ_=>aj ⟨rfl,nofun⟩) λ_=>aL (λg=>aM (λgn=>?_) λ_=>aj ⟨rfl,nofun⟩) λ_=>aj ⟨rfl,nofun⟩
  all_goals
   dsimp only at g ⊢;refine av (DO _ m0 F h (by omega)) λy A=>?_
   let⟨yb,y2⟩:=y;dsimp only at A;subst A;exact bu (by simp) (aj ⟨rfl,λ_=>⟨gn,by omega⟩⟩)
 rintro⟨b,x⟩ ⟨e,hb⟩;dsimp only at e hb;subst e;refine aM (λq=>?_) λ_=>?_
 .obtain⟨q1,q2⟩:=hb q;have d1:=hn q1;dsimp only;rw[ed,ed1 d1,jA (n:=k-10) (by omega) (by omega),jA (n:=k-10+5) (by omega) (by omega)];refine av (hB d1 _ m0 F h D.p (by omega)) λz I=>?_
  let⟨l,m3,t3,h3⟩:=z;let⟨w1,w2,w3,w4⟩:=I;dsimp only at w1 w2 w3 w4;rw[dd d1]at w2;exact bu (by simp) (aj ⟨GS.wo (by omega) (by first|omega|(dsimp only;omega)) w2,D.trans w3,w4⟩)
 refine aX (λx=>x.2=(m0,F,(0,0,[],[],0,0,[]),h)/\(x.1=J->nest=J)) ?_ ?_
 .exact aL (λ_=>aj ⟨rfl,λg=>g⟩) λ_=>aj ⟨rfl,nofun⟩
 rintro⟨b,x⟩ ⟨e,hb⟩;dsimp only at e hb;subst e;refine aM (λq=>?_) λ_=>?_
 .have d1:=hn (hb q);refine av (d8 2 F D.p) λy A=>?_
  let⟨u1,u2,u3,_⟩:=A;have u3:=u3 (by decide);dsimp only;rw[jA (n:=1+y.1) (by omega) (by omega)];refine av (h0 d1 (1+y.1) _ y.2 h (by omega) u1.p (by omega)) λz I=>?_
  let⟨m3,t3,h3,l⟩:=z;let⟨w1,w2,w3,w4⟩:=I;dsimp only at w1 w2 w3 w4;exact bu (by simp) (aj ⟨GS.wo (by omega) (by first|omega|(dsimp only;omega)) (λx N=>(w2 x N).le (by omega)),D.trans (u1.trans w3),w4⟩)
 refine aX (λx=>x.2=(m0,F,(0,0,[],[],0,0,[]),h)/\(x.1=J->nest=J)) ?_ ?_
 .exact aL (λ_=>aM (λgn=>aj ⟨rfl,λ_=>gn⟩) λ_=>aj ⟨rfl,nofun⟩) λ_=>aj ⟨rfl,nofun⟩
 rintro⟨b,x⟩ ⟨e,hb⟩;dsimp only at e hb;subst e;refine aM (λq=>?_) λ_=>?_
 .have d1:=hn (hb q);dsimp only;rw[ed,ed1 d1];refine av (hS d1 2 _ F h (by omega) D.p (by omega)) λz I=>?_
  let⟨m3,t3,h3,l⟩:=z;let⟨w1,w2,w3,w4⟩:=I;dsimp only at w1 w2 w3 w4;rw[dd d1]at w2;exact bu (by simp) (aj ⟨GS.wo (by omega) (by first|omega|(dsimp only;omega)) w2,D.trans w3,w4⟩)
 refine aX (λx=>x.2=(m0,F,(0,0,[],[],0,0,[]),h)/\(x.1=J->nest=J)) ?_ ?_
 .refine aL (λ_=>aM (λgn=>aM (λ_=>?_) λ_=>aj ⟨rfl,nofun⟩) λ_=>aj ⟨rfl,nofun⟩) λ_=>aj ⟨rfl,nofun⟩
  refine av (DO _ m0 F h (by omega)) λy A=>?_
  let⟨yb,y2⟩:=y;dsimp only at A;subst A;exact bu (by simp) (aj ⟨rfl,λ_=>gn⟩)
 rintro⟨b,x⟩ ⟨e,hb⟩;dsimp only at e hb;subst e;refine aM (λq=>?_) λ_=>?_
 .have d1:=hn (hb q);refine aV (IQ _) (aV (ue _ _) (aj ?_));dsimp only;rw[fo,zG];refine ⟨GS.wo (by omega) (by simp) (λx N=>?_),D,rfl⟩;simp only[bB,cO,gx]at N;rw[<- dd d1];rcases N with rfl|rfl
  .exact GS.wo (by omega) (by simp) (λx N=>(by cases N))
  .exact GS.asg _ (GE.nm _ 3)
 refine aX (λx=>x.2=(m0,F,(0,0,[],[],0,0,[]),h)/\(x.1=J->nest=J)) ?_ ?_
 .refine aL (λ_=>aM (λgn=>?_) λ_=>aj ⟨rfl,nofun⟩) λ_=>aj ⟨rfl,nofun⟩
  refine av (DO _ m0 F h (by omega)) λy A=>?_
  let⟨yb,y2⟩:=y;dsimp only at A;subst A;exact bu (by simp) (aj ⟨rfl,λ_=>gn⟩)
 rintro⟨b,x⟩ ⟨e,hb⟩;dsimp only at e hb;subst e;refine aM (λq=>?_) λ_=>?_
 .have d1:=hn (hb q);refine av (d8 2 F D.p) λy A=>aj ?_
  let⟨u1,u2,u3,_⟩:=A;have u3:=u3 (by decide);dsimp only;rw[jA (n:=10+y.1) (by omega) (by omega)];refine ⟨GS.wo (by omega) (by simp) (λx N=>?_),D.trans u1,rfl⟩;simp only[bB,cO,gx]at N;rw[N,<-dd d1];exact GS.wo (by omega) (by simp) (λx N=>(by cases N))
 refine aX (λx=>x.2=(m0,F,(0,0,[],[],0,0,[]),h)) ?_ ?_
 .exact aL (λ_=>aM (λ_=>aM (λ_=>aj rfl) λ_=>aj rfl) λ_=>aj rfl) λ_=>aj rfl
 rintro⟨b,x⟩ e;dsimp only at e;subst e;refine aM (λq=>?_) λ_=>?_
 .refine av (hE 1 _ F h (by omega) D.p) λz I=>?_
  let⟨e,m2,t2,h2⟩:=z;let⟨v1,v2,v3,v4⟩:=I;dsimp only at v1 v2 v3 v4;subst v2 v4;refine bu (by simp) (aj ?_);dsimp only;rw[fo];exact⟨GS.we v1 (by simp) (by simp) (λx N=>(by cases N)) (λx N=>(by cases N)),D.trans v3,rfl⟩
 refine aX (λx=>x.2.1=m0/\oz F x.2.2.1/\x.2.2.2.2=h) ?_ ?_
 .refine aL (λ_=>aM (λ_=>?_) λ_=>aj ⟨rfl,oz.refl D.p,rfl⟩) λ_=>aj ⟨rfl,oz.refl D.p,rfl⟩
  exact av (d8 2 F D.p) λy A=>aj ⟨rfl,A.1,rfl⟩
 rintro⟨b,m9,t9,z9,h9⟩ ⟨e1,e2,e3⟩;dsimp only at e1 e2 e3;subst e1 e3;refine aM (λq=>?_) λ_=>?_
 .exact aj ⟨GS.wo (by omega) (by simp) (λx N=>(by cases N)),D.trans e2,rfl⟩
 refine av (hE 1 _ t9 h9 (by omega) e2.p) λz I=>?_
 let⟨e,m2,t2,h2⟩:=z;let⟨v1,v2,v3,v4⟩:=I;dsimp only at v1 v2 v3 v4;subst v2 v4;refine bu (by simp) (aV (ue _ _) (aj ?_));dsimp only;rw[fo,zG];exact⟨GS.asg _ v1,D.trans (e2.trans v3),rfl⟩
def Oa:∀(n:Nat),(∀d:Nat,d<=5->3*d+1<=n->SpT (eJ n) d)/\(∀d:Nat,d<=5->3*d+2<=n->SpS (dU n) d)/\(∀d:Nat,d<=5->3*d+3<=n->SpB (er n) d)
 |0=>⟨λd _ h=>by omega,λd _ h=>by omega,λd _ h=>by omega⟩
 |n+1=>by
  let⟨z,c,A⟩:=Oa n;refine ⟨λd h1 q=>?_,λd h1 q=>?_,λd h1 q=>?_⟩
  .exact aeh (dU n) (eJ n) (er n) d h1 (λh=>c 0 (by omega) (by omega)) (λh=>c (d-1) (by omega) (by omega)) (λh=>A (d-1) (by omega) (by omega))
  .exact Z6 (dU n) (eJ n) (er n) d (z d h1 (by omega))
  .exact Z8 (dU n) (eJ n) (er n) d (c d h1 (by omega))
def ZK (d:Nat) (hd:d<=5):SpS qQ d:=(Oa fI).2.1 d hd (by rw[po];omega)
def GX:Nat->Xp->Prop
 |0,_=>False
 |d+1,e=>l! e.l<=2/\∀x∈e.l,GX d x
def GE.x:∀{d:Nat} {e:Xp},GE d e->GX d e
 |0,_,h=>h.elim
 |_+1,_,h=>⟨h.2.2.1,λx c=>(h.2.2.2 x c).x⟩
def ZE.x {e:Xp} (h:ZE e):GX 4 e:=by
 rcases h with h|rfl
 .exact h.x
 .exact⟨by simp[Xp.l],λx c=>(by cases c)⟩
def GT:Nat->Sx->Prop
 |0,_=>False
 |d+1,s=>l! s.index<=1/\(∀e∈s.index,GX 4 e)/\GX 4 s.expr/\l! s.body<=8/\l! s.els<=8/\(∀x∈s.body,GT d x)/\(∀x∈s.els,GT d x)
def GS.t:∀{d:Nat} {s:Sx},GS d s->GT d s
 |0,_,h=>h.elim
 |_+1,_,⟨_,b,c,_,f,g,i,j,k⟩=>⟨b,λe he=>(c e he).x,f.x,g,i,λx q=>(j x q).t,λx q=>(k x q).t⟩
def yX (s:Sx):oY (Sx.op s,Sx.line s,Sx.name s,Sx.arg s,Sx.index s,ey (Xp.op (Sx.expr s),Xp.n (Sx.expr s),Xp.name (Sx.expr s),Xp.l (Sx.expr s)),Sx.body s,Sx.els s)=s:=by
 rw[fo,zG]
def U_ (k:Int):Ok (oU k) λ_=>True:=by
 unfold oU bi jO aF;with_reducible repeat' first|apply OS.ok;constructor|refine IM.mk λ_=>?_
 all_goals trivial
def ri (e:Xp):Ok (rN e) λ_=>True:=by
 unfold rN bi aF;with_reducible repeat' first|apply OS.ok;constructor|refine IM.mk λ_=>?_
 all_goals trivial
def Ak:∀(n d:Nat) (e:Xp),d<n->GX d e->Ok (iV n e) λ_=>True
 |0,_,_,h,_=>by omega
 |n+1,0,_,_,h=>h.elim
 |n+1,d+1,e,D,h=>by
  let⟨h1,A⟩:=h;rw[Ah];unfold pn bi bS gF bz cW aF cM;refine aX (λx=>x.2=e) (aL (λ_=>aj (fo e)) λ_=>aj (fo e)) ?_;rintro⟨b,x⟩ q;dsimp only at q;subst q;refine aX (λy=>y.2=x) ?_ ?_
  .refine av (U_ _) λ_ _=>?_
   with_reducible repeat' first|refine bW (λ_=>?_) λ_=>?_|refine aY (λ_=>?_) λ_=>?_|refine cH (λ_=>?_) λ_=>?_|refine aM (λ_=>?_) λ_=>?_|exact aj (fo x)|refine av (iw _) λ_ _=>?_
  rintro⟨F,y⟩ c;dsimp only at c;subst c;refine aM (λ_=>aj trivial) λ_=>?_
  refine bn (l! y.l) (λi x=>x.1=(i:Int)/\x.2=y) ?_ ?_ ⟨rfl,fo y⟩
  .rintro i ⟨a,z⟩ hi ⟨e1,e2⟩;dsimp only at e1 e2;subst e1 e2;refine aY (λ_=>?_) λg=>(by dsimp only[ak]at g;omega)
   refine cG (aQ ?_);refine av (Ak n d _ (by omega) (A _ (bE (T:=.ex) (xs:=z.l) (j:=(i:Int)) (by omega) (by omega)))) λ_ _=>?_
   refine cH (λ_=>aj trivial) λ_=>aj ?_
   dsimp only;exact⟨fd,fo z⟩
  .rintro⟨a,z⟩ ⟨e1,e2⟩;dsimp only at e1 e2;subst e1 e2;exact aY (λg=>(by dsimp only[ak]at g;omega)) λ_=>aj trivial
def gm (e:Xp) (h:GX 4 e):Ok (kj e) λ_=>True:=Ak fI 4 e (by rw[po];omega) h
abbrev T?:=Int×Int×ζ×Int×Int×ζ
def Mr (d:T?):Ok (pi d) λ_=>True:=by
 refine aX (λ_=>True) ?_ λx _=>aM (λ_=>aj trivial) λ_=>?_
 .with_reducible repeat' first|refine bW (λ_=>?_) λ_=>?_|refine aY (λ_=>?_) λ_=>?_|refine cH (λ_=>?_) λ_=>?_|exact aj trivial|refine av (iw _) λ_ _=>?_
 refine aX (λ_=>True) ?_ λx _=>aM (λ_=>aj trivial) λ_=>?_
 .with_reducible repeat' first|refine bW (λ_=>?_) λ_=>?_|refine aL (λ_=>?_) λ_=>?_|refine cH (λ_=>?_) λ_=>?_|exact aj trivial|refine av (iw _) λ_ _=>?_
 with_reducible repeat' first|apply OS.ok;constructor|refine IM.mk λ_=>?_
 all_goals trivial
def H6 (c:Sx->M Bool) (q:Y Sx->M Bool) (l:Y Sx) (z:l! l<=1000) (h:∀s∈l,Ok (c s) λ_=>True):Ok (og c q l) λ_=>True:=by
 unfold og bS BJ bc cW aF cM;refine bn (l! l) (λi x=>x=(i:Int)) ?_ ?_ rfl
 .rintro i x hi rfl;refine aY (λ_=>?_) λg=>(by dsimp only[ak]at g;omega)
  refine cG ?_;refine av (h _ (bE (T:=.sm) (xs:=l) (j:=(i:Int)) (by omega) (by omega))) λ_ _=>?_
  exact cH (λ_=>aj trivial) λ_=>aj fd
 .rintro x rfl;exact aY (λg=>(by dsimp only[ak]at g;omega)) λ_=>aj trivial
def Kp (z:Sx->M Bool) (q:Y Sx->M Bool) (s:Sx) (h1:∀e∈s.index,GX 4 e) (D:GX 4 s.expr) (A:Ok (q s.body) λ_=>True) (he:Ok (q s.els) λ_=>True):Ok (pm z q s) λ_=>True:=by
 unfold pm bi bS jO gF bz aF eu;refine aX (λx=>x.2=s) ?_ ?_
 .with_reducible repeat' first|refine bW (λ_=>?_) λ_=>?_|refine aL (λ_=>?_) λ_=>?_|refine aY (λ_=>?_) λ_=>?_|refine eh (λ_=>?_) λ_=>?_|refine cH (λ_=>?_) λ_=>?_|refine aM (λ_=>?_) λ_=>?_|exact aj (yX _)|refine av (iw _) λ_ _=>?_|refine av (ri _) λ_ _=>?_|refine av (gm _ h2x) λ_ _=>?_
 rintro⟨b,x⟩ c;dsimp only at c;have c:=c.symm;subst c;refine aM (λ_=>aj trivial) λ_=>?_
 refine aX (λx=>x.2=s) ?_ ?_
 .with_reducible repeat' first|refine bW (λ_=>?_) λ_=>?_|refine aL (λ_=>?_) λ_=>?_|refine aY (λ_=>?_) λ_=>?_|refine eh (λ_=>?_) λ_=>?_|refine cH (λ_=>?_) λ_=>?_|refine aM (λ_=>?_) λ_=>?_|exact aj (yX _)|refine av (iw _) λ_ _=>?_|refine av (ri _) λ_ _=>?_|refine av (gm _ h2x) λ_ _=>?_
 rintro⟨b,x⟩ c;dsimp only at c;have c:=c.symm;subst c;refine aX (λx=>x.2=s) ?_ ?_
 .with_reducible repeat' first|refine bW (λ_=>?_) λ_=>?_|refine aL (λ_=>?_) λ_=>?_|refine aY (λ_=>?_) λ_=>?_|refine eh (λ_=>?_) λ_=>?_|refine cH (λ_=>?_) λ_=>?_|refine aM (λ_=>?_) λ_=>?_|exact aj (yX _)|refine av (iw _) λ_ _=>?_|refine av (ri _) λ_ _=>?_|refine av (gm _ h2x) λ_ _=>?_
 rintro⟨b,x⟩ c;dsimp only at c;have c:=c.symm;subst c;refine aM (λ_=>aj trivial) λ_=>?_
 refine aX (λx=>x.2=s) ?_ ?_
 .with_reducible repeat' first|refine bW (λ_=>?_) λ_=>?_|refine aL (λ_=>?_) λ_=>?_|refine aY (λ_=>?_) λ_=>?_|refine eh (λ_=>?_) λ_=>?_|refine cH (λ_=>?_) λ_=>?_|refine aM (λ_=>?_) λ_=>?_|exact aj (yX _)|refine av (iw _) λ_ _=>?_|refine av (ri _) λ_ _=>?_|refine av (gm _ h2x) λ_ _=>?_
 rintro⟨b,x⟩ c;dsimp only at c;have c:=c.symm;subst c;refine aM (λ_=>aj trivial) λ_=>?_
 refine aX (λx=>x.2=s) ?_ ?_
 .with_reducible repeat' first|refine bW (λ_=>?_) λ_=>?_|refine aL (λ_=>?_) λ_=>?_|refine aY (λ_=>?_) λ_=>?_|refine eh (λ_=>?_) λ_=>?_|refine cH (λ_=>?_) λ_=>?_|refine aM (λ_=>?_) λ_=>?_|exact aj (yX _)|refine av (iw _) λ_ _=>?_|refine av (ri _) λ_ _=>?_|refine av (gm _ h2x) λ_ _=>?_
  all_goals
   rename_i g;dsimp only[ak]at g;refine cG (aQ ?_);refine av (gm _ (h1 _ (bE (T:=.ex) (xs:=Sx.index _) (j:=0) (by omega) (by omega)))) λ_ _=>aj (yX _)
 rintro⟨b,x⟩ c;dsimp only at c;have c:=c.symm;subst c;refine aM (λ_=>aj trivial) λ_=>?_
 refine aX (λx=>x.2=s) ?_ ?_
 .with_reducible repeat' first|refine bW (λ_=>?_) λ_=>?_|refine aL (λ_=>?_) λ_=>?_|refine aY (λ_=>?_) λ_=>?_|refine eh (λ_=>?_) λ_=>?_|refine cH (λ_=>?_) λ_=>?_|refine aM (λ_=>?_) λ_=>?_|exact aj (yX _)|refine av (iw _) λ_ _=>?_|refine av (ri _) λ_ _=>?_|refine av (gm _ h2x) λ_ _=>?_
 rintro⟨b,x⟩ c;dsimp only at c;have c:=c.symm;subst c;refine aX (λx=>x.2=s) ?_ ?_
 .have h2x:GX 4 (ey (Xp.op (Sx.expr s),Xp.n (Sx.expr s),Xp.name (Sx.expr s),Xp.l (Sx.expr s))):=by rw[fo];exact D
  with_reducible repeat' first|refine bW (λ_=>?_) λ_=>?_|refine aL (λ_=>?_) λ_=>?_|refine aY (λ_=>?_) λ_=>?_|refine eh (λ_=>?_) λ_=>?_|refine cH (λ_=>?_) λ_=>?_|refine aM (λ_=>?_) λ_=>?_|exact aj (yX _)|refine av (iw _) λ_ _=>?_|refine av (ri _) λ_ _=>?_|refine av (gm _ h2x) λ_ _=>?_
 rintro⟨b,x⟩ c;dsimp only at c;have c:=c.symm;subst c;refine aM (λ_=>aj trivial) λ_=>?_
 refine aX (λx=>x.2=s) ?_ ?_
 .with_reducible repeat' first|refine bW (λ_=>?_) λ_=>?_|refine aL (λ_=>?_) λ_=>?_|refine aY (λ_=>?_) λ_=>?_|refine eh (λ_=>?_) λ_=>?_|refine cH (λ_=>?_) λ_=>?_|refine aM (λ_=>?_) λ_=>?_|exact aj (yX _)|refine av (iw _) λ_ _=>?_|refine av (ri _) λ_ _=>?_|refine av (gm _ h2x) λ_ _=>?_
 rintro⟨b,x⟩ c;dsimp only at c;have c:=c.symm;subst c;refine aX (λx=>x.2=s) ?_ ?_
 .with_reducible repeat' first|refine bW (λ_=>?_) λ_=>?_|refine aL (λ_=>?_) λ_=>?_|refine aY (λ_=>?_) λ_=>?_|refine eh (λ_=>?_) λ_=>?_|refine cH (λ_=>?_) λ_=>?_|refine aM (λ_=>?_) λ_=>?_|exact aj (yX _)|refine av (iw _) λ_ _=>?_|refine av (ri _) λ_ _=>?_|refine av (gm _ h2x) λ_ _=>?_
 rintro⟨b,x⟩ c;dsimp only at c;have c:=c.symm;subst c;refine aM (λ_=>aj trivial) λ_=>?_
 refine aX (λ_=>True) ?_ λ_ _=>aj trivial
 refine av A λ_ _=>aM (λ_=>av he λ_ _=>aj trivial) λ_=>aj trivial
def KB:∀(n:Nat),(∀(d:Nat) (s:Sx),2*d<n->GT d s->Ok (hP n s) λ_=>True)/\(∀(d:Nat) (l:Y Sx),2*d+1<n->l! l<=1000->(∀s∈l,GT d s)->Ok (fL n l) λ_=>True)
 |0=>⟨λd _ h=>by omega,λd _ h=>by omega⟩
 |n+1=>by
  let⟨A,c⟩:=KB n;refine ⟨λd s hd h=>?_,λd l hd z h=>?_⟩
  .cases d with
   |zero=>exact h.elim
   |succ d=>
    let⟨_,N,I,g4,g5,F,D⟩:=h;exact Kp (hP n) (fL n) s N I (c d _ (by omega) (by omega) F) (c d _ (by omega) (by omega) D)
  .exact H6 (hP n) (fL n) l z λs q=>A d s (by omega) (h s q)
def L7 (d:Nat) (hd:d<=100) (l:Y Sx) (c:l! l<=1000) (h:∀s∈l,GT d s):Ok (rO l) λ_=>True:=(KB fI).2 d l (by rw[po];omega) c h
abbrev DT:Type:=T?
abbrev HT:Type:=ζ×Int×Y ζ×Y Sx
abbrev PG:Type:=Y DT×Y HT
structure PX (p:PG):Prop where
 d:l! p.1<=100
 t:l! p.2<=8
 l:∀t∈p.2,l! t.2.2.1<=100
 b:∀t∈p.2,l! t.2.2.2<=100
 s:∀t∈p.2,∀s∈t.2.2.2,GT 5 s
def ab8 (p:PG) (h:PX p):Ok (sC p) λ_=>True:=by
 let⟨hd,ht,N,hb,I⟩:=h;unfold sC ba b_ dP bS bz bc cW aF cM;refine bn (l! p.1) (λi x=>x.1=(i:Int)/\x.2=p) ?_ ?_ ⟨rfl,rfl⟩
 .rintro i ⟨a,x⟩ hi ⟨e1,e2⟩;dsimp only at e1 e2;subst e1 e2;refine aY (λ_=>?_) λg=>(by dsimp only[ak]at g;omega)
  refine cG (aQ ?_);refine av (Mr _) λ_ _=>?_
  exact cH (λ_=>aj trivial) λ_=>aj ⟨fd,rfl⟩
 rintro⟨a,x⟩ ⟨e1,e2⟩;dsimp only at e1 e2;subst e1 e2;refine aY (λg=>(by dsimp only[ak]at g;omega)) λ_=>?_
 refine av (P:=λ_=>True) ?_ λ_ _=>aj trivial
 refine bn (l! x.2) (λi y=>y.1=(i:Int)/\y.2=x) ?_ ?_ ⟨rfl,rfl⟩
 .rintro i ⟨a,x⟩ hi ⟨e1,e2⟩;dsimp only at e1 e2;subst e1;have e2:=e2.symm;subst e2;refine aY (λ_=>?_) λg=>(by dsimp only[ak]at g;omega)
  refine cG (aQ ?_);have hm:=bE (T:=tj) (xs:=x.2) (j:=(i:Int)) (by omega) (by omega);have h1:=N _ hm;have D:=hb _ hm;have A:=I _ hm;revert h1 D A;generalize (aK tj x.2 (i:Int))=t;intro h1 D A;refine bn (l! t.2.2.1) (λk y=>y.1=(k:Int)/\y.2=(x,t)) ?_ ?_ ⟨rfl,rfl⟩
  .rintro k ⟨a,z⟩ hk ⟨q,c⟩;dsimp only at q c;subst q c;refine aY (λ_=>?_) λg=>(by dsimp only[ak]at g;omega)
   refine cG (aQ ?_);refine av (iw _) λ_ _=>?_
   exact cH (λ_=>aj trivial) λ_=>aj ⟨fd,rfl⟩
  .rintro⟨a,z⟩ ⟨q,c⟩;dsimp only at q c;subst q c;refine aY (λg=>(by dsimp only[ak]at g;omega)) λ_=>?_
   refine av (P:=λr=>match r with|.inl y=>y.1=((i+1:Nat):Int)/\y.2=x|.inr _=>True) ?_ ?_
   .refine aX (λy=>y.2=x) ?_ ?_
    .refine av (iw _) λ_ _=>cH (λ_=>aj rfl) λ_=>?_
     exact av (L7 5 (by omega) _ (by dsimp only;omega) A) λ_ _=>aj rfl
    rintro⟨b,y⟩ e;dsimp only at e;subst e;exact aM (λ_=>aj trivial) λ_=>aj ⟨fd,rfl⟩
   .rintro (y|y) F
    .exact aj F
    .exact aj trivial
 .rintro⟨a,y⟩ ⟨e1,e2⟩;dsimp only at e1 e2;subst e1 e2;exact aY (λg=>(by dsimp only[ak]at g;omega)) λ_=>aj trivial
def xk (l:Y DT) (s:ζ) (c:l! l<=1000):Ok (iD (l,s)) λr=> -1<=r/\r<(l! l:Int):=by
 unfold iD bS bz bc cW aF cM;refine bn (l! l) (λi x=>x=(i:Int)) ?_ ?_ rfl
 .rintro i x hi rfl;refine aY (λ_=>?_) λg=>(by dsimp only[ak]at g;omega)
  refine cG (aQ ?_);exact aL (λ_=>aj ⟨by omega,by omega⟩) λ_=>aj fd
 .rintro x rfl;exact aY (λg=>(by dsimp only[ak]at g;omega)) λ_=>aj ⟨by omega,by omega⟩
def sR (l:Y HT) (s:ζ) (c:l! l<=1000):Ok (iz (l,s)) λr=> -1<=r/\r<(l! l:Int):=by
 unfold iz bS bz bc cW aF cM;refine bn (l! l) (λi x=>x=(i:Int)) ?_ ?_ rfl
 .rintro i x hi rfl;refine aY (λ_=>?_) λg=>(by dsimp only[ak]at g;omega)
  refine cG (aQ ?_);exact aL (λ_=>aj ⟨by omega,by omega⟩) λ_=>aj fd
 .rintro x rfl;exact aY (λg=>(by dsimp only[ak]at g;omega)) λ_=>aj ⟨by omega,by omega⟩
def DD (p:PG) (s:ζ):Prop:=∃v,iD (p.1,s)=Z v/\0<=v/\v<(l! p.1:Int)
def abh (p:PG) (h:PX p) (t:Int) (s:ζ):Ok (vC (p,t,s)) λk=>k≠0->k≠7->k≠8->DD p s:=by
 have hd:=h.d;have ht:=h.t;refine aX (λx=>x.2=p) ?_ ?_
 .refine eh (λA=>aY (λz=>?_) λ_=>aj rfl) λ_=>aj rfl
  refine aG A z (aQ ?_);have hm:=h.l _ (bE (T:=tj) (xs:=p.2) (j:=t) A z);exact av (EW _ s (cA hm (by omega))) λ_ _=>aj rfl
 rintro⟨b,x⟩ e;have e:=e.symm;subst e;refine aM (λ_=>aj λ_ _ h=>(h rfl).elim) λ_=>?_
 let⟨v,q,v0,v1⟩:=xk p.1 s (by omega);refine aV q ?_;refine aY (λ_=>?_) λg=>?_
 .exact av (sR p.2 s (by omega)) λ_ _=>eh (λ_=>aj λ_ h=>(h rfl).elim) λ_=>aj λh=>(h rfl).elim
 have c:DD p s:=⟨v,q,g,v1⟩
 refine aG g v1 (aQ ?_);refine aL (λ_=>?_) λ_=>?_
 .exact aG g v1 (aQ (bW (λ_=>aj λ_ _ _=>c) λ_=>aj λ_ _ _=>c))
 refine aL (λ_=>aj λ_ _ _=>c) λ_=>?_
 refine aX (λx=>x.2=p) (aL (λ_=>aj rfl) λ_=>aL (λ_=>aj rfl) λ_=>aL (λ_=>aj rfl) λ_=>aj rfl) ?_;rintro⟨b,x⟩ e;dsimp only at e;subst e;exact aM (λ_=>aG g v1 (aQ (aj λ_ _ _=>c))) λ_=>aj λ_ _ _=>c
def ph (p:PG) (h:PX p) (t:Int) (s:ζ) (a b:Int):Ok (ip (p,t,s,a,b)) λr=>r=0->(a≠7/\a≠8)->(b≠7/\b≠8)->DD p s:=by
 refine av (abh p h t s) λk c=>?_
 refine aL (λ_=>aj nofun) λg=>?_
 refine aX (λx=>x=aa->k=a\/k=b) ?_ ?_
 .refine bW (λ_=>aj λh=>?_) λh=>aj λ_=>.inl h
  simp at h;exact .inr h
 rintro x q;refine aM (λ_=>aj nofun) λh=>aj λ_ h1 z=>c g ?_ ?_
 .grind
 .grind
def Oe:∀(n d:Nat) (e:Xp),d<n->GX d e->Ok (pF n e) λ_=>True
 |0,_,_,h,_=>by omega
 |n+1,0,_,_,h=>h.elim
 |n+1,d+1,e,A,h=>by
  let⟨h1,q⟩:=h;rw[H9];unfold xM bS bz cW aF cM;refine bn (l! e.l) (λi x=>x.1.2.2=(i:Int)/\x.2=e) ?_ ?_ ⟨rfl,fo e⟩
  .rintro i ⟨⟨a,b,c⟩,z⟩ hi ⟨e1,e2⟩;dsimp only at e1 e2;subst e1 e2;refine aY (λ_=>?_) λg=>(by dsimp only[ak]at g;omega)
   refine cG (aQ ?_);refine av (Oe n d _ (by omega) (q _ (bE (T:=.ex) (xs:=z.l) (j:=(i:Int)) (by omega) (by omega)))) λ_ _=>aj ?_
   exact⟨fd,fo z⟩
  .rintro⟨⟨a,b,c⟩,z⟩ ⟨e1,e2⟩;dsimp only at e1 e2;subst e1 e2;exact aY (λg=>(by dsimp only[ak]at g;omega)) λ_=>aj trivial
def GG (p:PG) (hp:PX p) (t:Int):∀(n d:Nat) (e:Xp),d<n->GX d e->Ok (pE n (p,t,e)) λ_=>True
 |0,_,_,h,_=>by omega
 |n+1,0,_,_,h=>h.elim
 |n+1,d+1,e,N,h=>by
  let⟨h1,I⟩:=h;rw[H8];unfold xL bi bS bz cW aF cM;refine aX (λx=>x.2.1=p/\x.2.2=e) ?_ ?_
  .refine aL (λ_=>av (ph p hp t _ _ _) λ_ _=>aj ⟨rfl,fo e⟩) λ_=>aL (λ_=>av (ph p hp t _ _ _) λ_ _=>aj ⟨rfl,fo e⟩) λ_=>aj ⟨rfl,fo e⟩
  rintro⟨r,A,D⟩ ⟨z,q⟩;have z:=z.symm;subst z;have q:=q.symm;subst q;refine qB (λx=>((l! e.l:Int)-x.1.2).toNat) (λx=>0<=x.1.2/\x.2.1=p/\x.2.2=e) ?_ ⟨dX _,rfl,fo e⟩;rintro⟨⟨a,(b:Int)⟩,A,D⟩ ⟨b0,z,q⟩;dsimp only at b0 z q;have z:=z.symm;subst z;have q:=q.symm;subst q;refine aX (λx=>x.2.1=p/\x.2.2=e/\(x.1=J->b<(l! e.l:Int))) ?_ ?_
  .exact aY (λg=>aj ⟨rfl,fo e,λ_=>g⟩) λ_=>aj ⟨rfl,fo e,nofun⟩
  rintro⟨c,A,D⟩ ⟨z,q,f3⟩;have z:=z.symm;subst z;have q:=q.symm;subst q;refine aM (λF=>?_) λ_=>aj trivial
  have g:=f3 F;refine aG b0 g (aQ ?_);refine av (GG p hp t n d _ (by omega) (I _ (bE (T:=.ex) (xs:=e.l) (j:=b) b0 g))) λ_ _=>aj ?_
  dsimp only;rw[jA (n:=b+1) (by omega) (by omega)];exact⟨⟨by omega,rfl,fo e⟩,by omega⟩
def xj (p:PG) (hp:PX p) (t:Int) (e:Xp) (h:GX 4 e):Ok (pQ (p,t,e)) λ_=>True:=by
 have c:GX 4 (ey (Xp.op e,Xp.n e,Xp.name e,Xp.l e)):=by exact h
 refine av (gm _ c) λ_ _=>cH (λ_=>aj trivial) λ_=>?_
 refine av (Oe fI 4 _ (by rw[po];omega) c) λ_ _=>?_
 refine aX (λx=>x.2.1=p/\x.2.2=e) (aY (λ_=>aj ⟨rfl,fo e⟩) λ_=>aj ⟨rfl,fo e⟩) ?_;rintro⟨r,A,D⟩ ⟨q,z⟩;have q:=q.symm;subst q z;exact aM (λ_=>aj trivial) λ_=>av (GG p hp t fI 4 _ (by rw[po];omega) c) λ_ _=>aj trivial
def fE (b:Bool):Ok (dz b) λ_=>True:=by
 unfold dz;exact aM (λ_=>aj trivial) λ_=>aj trivial
def ul (x:ν):Ok (jC x) λr=>r=0->x.1=0/\x.2=0:=by
 unfold jC gF;exact bW (λh=>aj λc=>(h c).elim) λh=>aj λc=>⟨h,c⟩
abbrev WK:Type:=(Y DT×Y HT×Int)×(Bool×Y Sx)×Y ζ×Y ζ
def ZS (a b:Int) (s:ζ) (w:WK) (h:l! w.2.1.2<=100):Ok (eH ((a,b,s),w)) λy=>y.2=w:=by
 unfold eH ba bi bS kQ bc cW aF cM;refine bn (l! w.2.1.2) (λi x=>x.1=(i:Int)/\x.2=w) ?_ ?_ ⟨rfl,rfl⟩
 .rintro i ⟨c,x⟩ hi ⟨e1,e2⟩;dsimp only at e1 e2;subst e1;have e2:=e2.symm;subst e2;refine aY (λ_=>?_) λg=>(by dsimp only[ak]at g;omega)
  refine cG (cG (aQ ?_));refine aX (λx=>x.2=w) ?_ ?_
  .refine aL (λ_=>aL (λ_=>aj rfl) λ_=>aj rfl) λ_=>aL (λ_=>aL (λ_=>aj rfl) λ_=>aj rfl) λ_=>aj rfl
  rintro⟨c,x⟩ e;dsimp only at e;have e:=e.symm;subst e;exact aM (λ_=>aj rfl) λ_=>aj ⟨fd,rfl⟩
 .rintro⟨c,x⟩ ⟨e1,e2⟩;dsimp only at e1 e2;subst e1;have e2:=e2.symm;subst e2;exact aY (λg=>(by dsimp only[ak]at g;omega)) λ_=>aj rfl
def FD:∀(n d:Nat) (l:Y Sx),d<n->l! l<=1000->(∀s∈l,GT d s)->Ok (pG n l) λ_=>True
 |0,_,_,h,_,_=>by omega
 |n+1,d,l,z,A,h=>by
  rw[H_];unfold xN bS BJ bc cW aF cM;refine bn (l! l) (λi x=>x.2=(i:Int)) ?_ ?_ rfl
  .rintro i ⟨a,b⟩ hi e1;dsimp only at e1;subst e1;refine aY (λ_=>?_) λg=>(by dsimp only[ak]at g;omega)
   refine cG (aQ ?_);have hm:=h _ (bE (T:=.sm) (xs:=l) (j:=(i:Int)) (by omega) (by omega));revert hm;generalize (aK (.sm) l (i:Int))=s;intro hm;cases d with
   |zero=>exact hm.elim
   |succ d=>
    let⟨_,_,_,F,D,q,c⟩:=hm;refine av (FD n d _ (by omega) (by omega) q) λ_ _=>?_
    refine cG (aQ ?_);exact av (FD n d _ (by omega) (by omega) c) λ_ _=>aj fd
  .rintro⟨a,b⟩ e1;dsimp only at e1;subst e1;exact aY (λg=>(by dsimp only[ak]at g;omega)) λ_=>aj trivial
def WZ (l:Y DT) (A:l! l<=100):Ok (uD l) λ_=>True:=by
 unfold uD ba bQ b_ bI dD fX bi bS jO gF bY bz bc cW aF cM;refine bn (l! l) (λi x=>x.2.2.2.2=(i:Int)) ?_ ?_ rfl
 .rintro i ⟨a,b,c,d,e⟩ hi e1;dsimp only at e1;subst e1;refine aY (λ_=>?_) λg=>(by dsimp only[ak]at g;omega)
  refine aX (λ_=>True) ?_ λx _=>aj fd
  refine cG (aQ ?_);have htk:l! (ca (aS (i:Int)) l)<=100:=by rw[bD];omega
  refine bt (a? (a? ?_));refine av (xk _ _ (cA htk (by omega))) λv q=>?_
  refine eh (λ_=>aj trivial) λ_=>aY (λ_=>aj trivial) λ_=>?_
  refine aX (λ_=>True) ?_ λx _=>?_
  .refine aX (λ_=>True) (aL (λ_=>aj trivial) λ_=>aj trivial) λx _=>aM (λ_=>aj trivial) λ_=>?_
   refine aX (λ_=>True) (aL (λ_=>aj trivial) λ_=>aj trivial) λx _=>aM (λ_=>aj trivial) λ_=>?_
   exact aL (λ_=>aj trivial) λ_=>aj trivial
  refine aX (λ_=>True) (aY (λ_=>aj trivial) λ_=>aY (λ_=>aj trivial) λ_=>aY (λ_=>aj trivial) λ_=>aj trivial) λx _=>aM (λ_=>aj trivial) λ_=>?_
  refine aL (λ_=>?_) λ_=>aj trivial
  refine bt (a? (a? ?_));refine av (xk _ _ (cA htk (by omega))) λv q=>?_
  refine aY (λ_=>aj trivial) λg=>?_
  have z:=q.2;rw[bD]at z;exact aG g (by dsimp only at z ⊢;omega) (aQ (bW (λ_=>aj trivial) λ_=>aj trivial))
 .rintro⟨a,b,c,d,e⟩ e1;dsimp only at e1;subst e1;exact aY (λg=>(by dsimp only[ak]at g;omega)) λ_=>aj trivial
def Pa (p:PG) (h:PX p):Ok (qN p) λ_=>True:=by
 have hd:=h.d;have ht:=h.t;unfold qN ba bQ b_ bS jO bY bz bc cW aF cM;refine bn (l! p.2) (λi x=>x.1=(i:Int)/\x.2=p) ?_ ?_ ⟨rfl,rfl⟩
 .rintro i ⟨a,x⟩ hi ⟨e1,e2⟩;dsimp only at e1 e2;subst e1;have e2:=e2.symm;subst e2;refine aY (λ_=>?_) λg=>(by dsimp only[ak]at g;omega)
  refine cG (aQ ?_);refine aX (λx=>x.2.1=p) ?_ ?_
  .refine av (xk _ _ (by dsimp only;omega)) λv A=>eh (λ_=>aj rfl) λ_=>?_
   refine bt (a? (a? ?_));exact av (sR _ _ (by rw[bD];dsimp only;omega)) λ_ _=>aj rfl
  rintro⟨b,x,z⟩ e;dsimp only at e;have e:=e.symm;subst e;exact aM (λ_=>aj trivial) λ_=>aj ⟨fd,rfl⟩
 rintro⟨a,x⟩ ⟨e1,e2⟩;dsimp only at e1 e2;subst e1;have e2:=e2.symm;subst e2;refine aY (λg=>(by dsimp only[ak]at g;omega)) λ_=>?_
 refine av (P:=λ_=>True) ?_ λ_ _=>aj trivial
 refine bn (l! p.2) (λi x=>x.1=(i:Int)/\x.2=p) ?_ ?_ ⟨rfl,rfl⟩
 .rintro i ⟨a,x⟩ hi ⟨e1,e2⟩;dsimp only at e1 e2;subst e1;have e2:=e2.symm;subst e2;refine aY (λ_=>?_) λg=>(by dsimp only[ak]at g;omega)
  refine cG (aQ ?_);have hm:=h.l _ (bE (T:=tj) (xs:=p.2) (j:=(i:Int)) (by omega) (by omega));revert hm;generalize (aK tj p.2 (i:Int))=t;intro hm;refine aY (λ_=>aj trivial) λ_=>?_
  refine bn (l! t.2.2.1) (λk y=>y.1=(k:Int)/\y.2=(p,t)) ?_ ?_ ⟨rfl,rfl⟩
  .rintro k ⟨a,z⟩ D ⟨q,c⟩;dsimp only at q c;subst q c;refine aY (λ_=>?_) λg=>(by dsimp only[ak]at g;omega)
   refine cG (aQ ?_);refine aX (λx=>x.2=(p,t)) ?_ ?_
   .refine av (xk _ _ (by dsimp only;omega)) λv A=>eh (λ_=>aj rfl) λ_=>?_
    refine av (sR _ _ (by dsimp only;omega)) λv A=>eh (λ_=>aj rfl) λ_=>?_
    refine bt (a? (a? ?_));exact av (EW _ _ (by rw[bD];dsimp only;omega)) λ_ _=>aj rfl
   rintro⟨b,x⟩ e;dsimp only at e;subst e;exact aM (λ_=>aj trivial) λ_=>aj ⟨fd,rfl⟩
  .rintro⟨a,z⟩ ⟨q,c⟩;dsimp only at q c;subst q c;exact aY (λg=>(by dsimp only[ak]at g;omega)) λ_=>aj ⟨fd,rfl⟩
 .rintro⟨a,x⟩ ⟨e1,e2⟩;dsimp only at e1 e2;subst e1;have e2:=e2.symm;subst e2;exact aY (λg=>(by dsimp only[ak]at g;omega)) λ_=>aj trivial
structure WQ (w:WK) (y:Int×WK):Prop where
 p:y.2.1=w.1
 a:y.2.2.1=w.2.1
 s:l! y.2.2.2.1<=l! w.2.2.1+1
 t:l! y.2.2.2.2<=l! w.2.2.2+1
def WQ.same (w:WK) (e:Int):WQ w (e,w):=⟨rfl,rfl,yR _,yR _⟩
def amp (s:Sx) (D:Y DT) (T:Y HT) (t:Int) (A:Bool×Y Sx) (sp c:Y ζ) (hp:PX (D,T)) (hA:l! A.2<=100) (h1:l! sp<=100000000) (h2:l! c<=100000000) (z:∀e∈s.index,GX 4 e) (he:GX 4 s.expr):Ok (oT (s,((D,T,t),A,sp,c))) (WQ ((D,T,t),A,sp,c)):=by
 have hex:GX 4 (ey (Xp.op s.expr,Xp.n s.expr,Xp.name s.expr,Xp.l s.expr)):=by rw[fo];exact he
 have hin:∀(a b:Int) (n:ζ),Ok (eH ((a,b,n),((D,T,t),A,sp,c))) λy=>y.2=((D,T,t),A,sp,c):=λa b n=>ZS a b n _ hA
 have hth:l! T<=1000:=by have:=hp.t;dsimp only at this;omega
 have hdl:l! D<=1000:=by have:=hp.d;dsimp only at this;omega
 have sm:∀e,WQ ((D,T,t),A,sp,c) (e,((D,T,t),A,sp,c)):=WQ.same _;unfold oT ba bQ b_ da bI dD dP fX bi jO gF bY bz aF eu;refine av (hin _ _ _) λy q=>?_
 let⟨b1,F⟩:=y;dsimp only at q;subst q;refine bu (by simp) ?_;refine av (hin _ _ _) λy q=>?_
 let⟨b2,F⟩:=y;dsimp only at q;subst q;refine bu (by simp) ?_;refine av (hin _ _ _) λy q=>?_
 let⟨b3,F⟩:=y;dsimp only at q;subst q;refine bu (by simp) ?_;refine aL (λ_=>?_) λ_=>?_
 .refine aL (λ_=>?_) λg=>?_
  .exact av (ph _ hp _ _ _ _) λ_ _=>av (xj _ hp _ _ hex) λ_ _=>av (ul _) λ_ _=>aj (sm _)
  .refine av (ph _ hp _ _ _ _) λ_ _=>?_
   dsimp only[ak]at g;refine cG (aQ ?_);refine av (xj _ hp _ _ (z _ (bE (T:=.ex) (xs:=s.index) (j:=0) (by omega) (by omega)))) λ_ _=>?_
   exact av (xj _ hp _ _ hex) λ_ _=>av (ul _) λ_ _=>av (ul _) λ_ _=>aj (sm _)
 refine aX (λx=>x.2=((D,T,t),A,s,(D,T),sp,c)) (aL (λ_=>aj (by dsimp only;rw[yX])) λ_=>aj (by dsimp only;rw[yX])) ?_;rintro⟨b,x⟩ e;dsimp only at e;subst e;refine aM (λ_=>av (xj _ hp _ _ hex) λ_ _=>aj (sm _)) λ_=>?_
 refine aL (λ_=>?_) λ_=>?_
 .refine aX (λx=>WQ ((D,T,t),A,sp,c) x) ?_ λx z=>aj z
  refine av (ph _ hp _ _ _ _) λ_ _=>aM (λ_=>?_) λ_=>?_
  .exact av (fE _) λ_ _=>av (ul _) λ_ _=>aj (sm _)
  .refine av (hin _ _ _) λy q=>?_
   let⟨b4,F⟩:=y;dsimp only at q;subst q;exact bu (by simp) (av (fE _) λ_ _=>av (ul _) λ_ _=>aj (sm _))
 refine aX (λx=>x.2=((D,T,t),A,s,(D,T),sp,c)) (aL (λ_=>aj (by dsimp only;rw[yX])) λ_=>aj (by dsimp only;rw[yX])) ?_;rintro⟨b,x⟩ e;dsimp only at e;subst e;refine aM (λ_=>?_) λ_=>?_
 .refine aX (λx=>WQ ((D,T,t),A,sp,c) x) ?_ λx z=>aj z
  refine av (ph _ hp _ _ _ _) λ_ _=>aM (λ_=>?_) λ_=>?_
  .exact av (fE _) λ_ _=>av (ul _) λ_ _=>aj (sm _)
  .refine av (hin _ _ _) λy q=>?_
   let⟨b4,F⟩:=y;dsimp only at q;subst q;exact bu (by simp) (av (fE _) λ_ _=>av (ul _) λ_ _=>aj (sm _))
 refine aL (λ_=>av (fE _) λ_ _=>aj (sm _)) λ_=>?_
 refine aL (λ_=>?_) λ_=>?_
 .refine aX (λx=>WQ ((D,T,t),A,sp,c) x) ?_ λx z=>aj z
  exact aM (λ_=>av (fE _) λ_ _=>aj (sm _)) λ_=>av (fE _) λ_ _=>aj (sm _)
 refine aX (λx=>x.2=((D,T,t),A,s,(D,T),sp,c)) (aL (λ_=>aj (by dsimp only;rw[yX])) λ_=>aL (λ_=>aj (by dsimp only;rw[yX])) λ_=>aj (by dsimp only;rw[yX])) ?_;rintro⟨b,x⟩ e;dsimp only at e;subst e;refine aM (λ_=>?_) λ_=>?_
 .refine av (ph _ hp _ _ _ _) λr I=>bW (λ_=>aj (sm _)) λg=>?_
  let⟨v,N,v0,v1⟩:=I g (by omega) (by omega);refine aV N (aG v0 v1 (aQ ?_));refine av (hin _ _ _) λy q=>?_
  let⟨b4,F⟩:=y;dsimp only at q;subst q;refine bu (by simp) ?_;refine aX (λx=>WQ ((D,T,t),A,sp,c) x) ?_ λx z=>aj z
  refine aM (λ_=>av (fE _) λ_ _=>aj (sm _)) λ_=>cH (λ_=>av (fE _) λ_ _=>aj (sm _)) λ_=>?_
  exact aL (λ_=>av (fE _) λ_ _=>aj (sm _)) λ_=>av (fE _) λ_ _=>aj (sm _)
 refine aL (λ_=>?_) λ_=>?_
 .refine av (ph _ hp _ _ _ _) λr I=>bW (λ_=>aj (sm _)) λg=>?_
  refine av (sR T _ hth) λv N=>?_
  refine aX (λx=>x.2=((D,T,t),A,s,sp,c)) ?_ ?_
  .refine aM (λ_=>aj (by dsimp only;rw[yX])) λ_=>aM (λ_=>aj (by dsimp only;rw[yX])) λ_=>aM (λ_=>aj (by dsimp only;rw[yX])) λ_=>aL (λ_=>aj (by dsimp only;rw[yX])) λ_=>aj (by dsimp only;rw[yX])
  rintro⟨b,x⟩ e;dsimp only at e;subst e;refine aM (λ_=>aj (sm _)) λ_=>?_
  refine av (EW sp _ (by omega)) λ_ _=>eh (λ_=>aj (sm _)) λ_=>?_
  exact a! (aj ⟨rfl,rfl,by simp,yR _⟩)
 refine aL (λ_=>?_) λ_=>?_
 .refine aX (λx=>WQ ((D,T,t),A,sp,c) x) ?_ λx z=>aj z
  refine av (ph _ hp _ _ _ _) λr I=>?_
  refine aM (λ_=>av (fE _) λ_ _=>av (ul _) λ_ _=>aj (sm _)) λ_=>?_
  refine aM (λ_=>av (fE _) λ_ _=>av (ul _) λ_ _=>aj (sm _)) λ_=>?_
  exact av (sR T _ hth) λv N=>av (fE _) λ_ _=>av (ul _) λ_ _=>aj (sm _)
 refine aL (λ_=>?_) λ_=>?_
 .refine aX (λx=>x.2=((D,T,t),A,s,(D,T),sp,c)) ?_ ?_
  .refine av (ph _ hp _ _ _ _) λr I=>?_
   exact aM (λ_=>av (fE _) λ_ _=>av (ul _) λ_ _=>aj (by dsimp only;rw[yX])) λ_=>av (fE _) λ_ _=>av (ul _) λ_ _=>aj (by dsimp only;rw[yX])
  rintro⟨b,x⟩ e;dsimp only at e;subst e;refine aX (λx=>x.2=((D,T,t),A,s,(D,T),sp,c)) ?_ ?_
  .refine aX (λx=>x.2=((D,T,t),A,s,(D,T),sp,c)) ?_ ?_
   .exact aL (λ_=>av (EW c _ (by omega)) λ_ _=>aj (by dsimp only;rw[yX])) λ_=>aj (by dsimp only;rw[yX])
   rintro⟨b,x⟩ e;dsimp only at e;subst e;exact aM (λ_=>aj (by dsimp only;rw[yX])) λ_=>aj (by dsimp only;rw[yX])
  rintro⟨b,x⟩ e;dsimp only at e;subst e;refine a! ?_;exact av (xj _ hp _ _ hex) λ_ _=>av (ul _) λ_ _=>aj ⟨rfl,rfl,yR _,by simp⟩
 exact av (ph _ hp _ _ _ _) λ_ _=>av (ph _ hp _ _ _ _) λ_ _=>av (fE _) λ_ _=>av (ul _) λ_ _=>av (ul _) λ_ _=>aj (sm _)
end
end Go.Proofs.YtlmflgjjamepmaaGreatDoor.AI
