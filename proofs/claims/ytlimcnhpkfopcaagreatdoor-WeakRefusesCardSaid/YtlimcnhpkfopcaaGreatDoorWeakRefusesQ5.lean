/-
  Texts of the proof, part 6 of 6: what is used to prove the statement. No condition.
-/
import Derived.Test.YtlimcnhpkfopcaaGreatDoorWeakRefusesQ4
import Derived.Test.YtlimcnhpkfopcaaGreatDoorRows
import Derived.LaidMore
namespace Go.Proofs.YtlimcnhpkfopcaaGreatDoor.AI
open Go.RowKit
set_option maxRecDepth 100000
set_option maxHeartbeats 4000000
set_option linter.unusedVariables false
set_option linter.unusedSimpArgs false
set_option linter.defProp false
open _root_.Bool renaming true→J,false→aa
open _root_.List renaming length→l!,getElem?_cons_zero→dH,getElem?_cons_succ→mL
open _root_.Nat renaming beq→ax,mul_one→Gi
open _root_.Option renaming some→Z,none→U,map_some→bx
open _root_.Prod renaming a→aY,b→bi,c→bt,e→bN,d→b7,g→cW,h→cY,f→dc,m→dN,i→fx,p→iX,l→jH,j→kh,n→ki,k→kl,o→lA,q→s9,r→yH,D→NF
noncomputable section
def aak:aN Pg 107 ab8:=(aN.orE (pre:=dQ.pre) (post:=dQ.post) (m:=ou) (m':=(λx=>orE (oq x) ((λx=>orE (mG x) ((λx=>orE (lF x) ((λx=>orE (ky x) ((λx=>orE (jA x) ((λx=>orE (iw x) ((λx=>orE (gS x) ((λx=>orE (gp x) (gr x)) x)) x)) x)) x)) x)) x)) x))) rfl T3 (aN.orE (pre:=dQ.pre) (post:=dQ.post) (m:=oq) (m':=(λx=>orE (mG x) ((λx=>orE (lF x) ((λx=>orE (ky x) ((λx=>orE (jA x) ((λx=>orE (iw x) ((λx=>orE (gS x) ((λx=>orE (gp x) (gr x)) x)) x)) x)) x)) x)) x))) rfl T2 (aN.orE (pre:=dQ.pre) (post:=dQ.post) (m:=mG) (m':=(λx=>orE (lF x) ((λx=>orE (ky x) ((λx=>orE (jA x) ((λx=>orE (iw x) ((λx=>orE (gS x) ((λx=>orE (gp x) (gr x)) x)) x)) x)) x)) x))) rfl TZ (aN.orE (pre:=dQ.pre) (post:=dQ.post) (m:=lF) (m':=(λx=>orE (ky x) ((λx=>orE (jA x) ((λx=>orE (iw x) ((λx=>orE (gS x) ((λx=>orE (gp x) (gr x)) x)) x)) x)) x))) rfl TY (aN.orE (pre:=dQ.pre) (post:=dQ.post) (m:=ky) (m':=(λx=>orE (jA x) ((λx=>orE (iw x) ((λx=>orE (gS x) ((λx=>orE (gp x) (gr x)) x)) x)) x))) rfl T6 (aN.orE (pre:=dQ.pre) (post:=dQ.post) (m:=jA) (m':=(λx=>orE (iw x) ((λx=>orE (gS x) ((λx=>orE (gp x) (gr x)) x)) x))) rfl T5 (aN.orE (pre:=dQ.pre) (post:=dQ.post) (m:=iw) (m':=(λx=>orE (gS x) ((λx=>orE (gp x) (gr x)) x))) rfl T4 (aN.orE (pre:=dQ.pre) (post:=dQ.post) (m:=gS) (m':=(λx=>orE (gp x) (gr x))) rfl T8 (aN.orE (pre:=dQ.pre) (post:=dQ.post) (m:=gp) (m':=gr) rfl T7 T9)))))))))
def aai:aN Pg 81 ab6:=mk _ _ (ac aak an) co
def afi:aN Pg 42 ag3:=mk _ _ (ac DV (ac aai (ac Xn an))) co
def fL:aN Pg 40 JQ:=mk _ _ an co
def G2:aN Pg 116 abg:=mk _ _ an co
def LV:aN Pg 172 Yj:=mk _ _ an co
def Fe:aN Pg 171 R3:=mk _ _ an co
def Ff:aN Pg 115 R4:=mk _ _ an co
def Un:aN Pg 113 Vz:=mk _ _ an co
def Ov:aN Pg 44 OU:=mk _ _ an co
def wT:∀n:Nat,aN Pg 170 (GJ n)
 |0=>HW pl
 |n+1=>mk pl (ph (iQ n)) (ac fL (ac G2 (ac (wT n) (ac Fe (ac LV an))))) co
def G3:aN Pg 170 Hn:=(wT fuel)
def Fd:aN Pg 173 FZ:=mk _ _ (ac wS an) co
def kQ:∀n:Nat,aN Pg 114 (EX n)/\aN Pg 140 (GI n)/\aN Pg 174 (EY n)
 |0=>⟨HW nU,HW sZ,HW sk⟩
 |n+1=>⟨mk nU (nR (dU n) (eK n) (ej n)) (ac (kQ n).2.1 an) co,mk sZ (pg (dU n) (eK n) (ej n)) (ac fL (ac (kQ n).1 (ac Ff (ac G2 (ac G3 (ac Fe (ac LV (ac Fd (ac (kQ n).2.2 an))))))))) co,mk sk (nS (dU n) (eK n) (ej n)) (ac fL (ac (kQ n).1 an)) co⟩
def Fc:aN Pg 114 FY:=(kQ fuel).1
def Ou:aN Pg 84 OT:=mk _ _ (ac fL (ac za (ac Un (ac Fc (ac Ff (ac G2 an)))))) co
def XF:aN Pg 43 Yk:=mk _ _ (ac Rr (ac Ou an)) co
def Uo:aN Pg 22 VB:=mk _ _ (ac afi (ac XF (ac Ov an))) co
def Rk:aN Pg 16 RK:=mk _ _ an co
def LH:aN Pg 125 MY:=mk _ _ an co
def Ri:aN Pg 102 RI:=mk _ _ an co
def Oe:aN Pg 103 OD:=mk _ _ (ac fL an) co
def Rh:aN Pg 104 RH:=mk _ _ (ac fL (ac LH an)) co
def TU:aN Pg 105 U2:=mk _ _ (ac fL an) co
def Rj:aN Pg 79 RJ:=mk _ _ (ac fL (ac Ri (ac Oe (ac Rh (ac TU an))))) co
def tv1 (t:TypeId):M Ty:=if ax t 56 then Z (.pr .un (.pr .un (.pr .un (.pr .un (.pr .un (.sl aP)))))) else co t
def TW:aN Pg 41 U3:=mk _ _ (ac GV (ac fL (ac Rj an))) tv1
def Rl:aN Pg 21 RL:=mk _ _ (ac LJ (ac Rk (ac LI (ac GV (ac fL (ac TW an)))))) co
def GU:aN Pg 11 Hh:=mk _ _ (ac Rl (ac Uo an)) co
abbrev Ld0:Y PB:=[ĝ,Æ,ß,.C 78 JX]
abbrev Ld1:Y PB:=[ĝ,Æ,ß]
abbrev Ld2:Y PB:=(Ŧ::.C 78 (.qw 4 2 4::ŗ)::ŭ::æ::.C 150 [Z!,ë,Z!,å,Z!,ê,Z!,ď]::Ř)
abbrev Ld3:Y PB:=[ŧ,ť,.C 172 [.d Kd0]]
abbrev Ld4:Y PB:=[Ŧ,.C 78 (.qw 4 2 3::ŗ),ŭ,æ,.C 150 [Z!,ë,Z!,å,Z!,ê],Ä,Ä,Ä]
abbrev ZZ:Y PB:=[Ä]
abbrev Ld6:Y PB:=[Ŧ,.C 78 (.qw 4 2 2::ŗ),ŭ,æ,.C 150 [Z!,ë,Z!,å],Ä,Ä]
abbrev Ld7:Y PV:=(Ó::õ::Z!::Z!::Ŗ)
abbrev Ld8:Y PB:=[Ä,ŭ]
abbrev Ld9:Y PB:=[Ŧ,.C 78 [ã,Z!,ë,å],ŭ,æ,ĝ,Æ,ß]
abbrev arq:Y PB:=[Ŧ,.C 78 (.qw 4 2 1::ŗ),ŭ,æ,.C 150 [Z!,ë],Ä]
abbrev arp:Y PB:=[æ,ű,ĝ,.F 4 aa .bool,.F 152 aa hJ]
abbrev ah4:Y PV:=[õ,Z!,Z?]
abbrev ac9:Y PB:=[ť]
abbrev YD:Y PV:=[ô,Z!]
def abp:=ź O2 [] [Z!] [] (d_ [ŷ 3 [0,1] [12] [Z?] []]) o8
def IJ:=Ź [Ð,Ð] [] rh [] (d_ [ŷ 8 [0,1,14] [5,15] YD [Å]])
def VH:cD:=cn IJ lH
def F3:=ź rh [] rh [] .leaf Q_
def anh:cD:=⟨F3.pre,F3.post,W_⟩
def BN:=ź rh [] [ô] ZZ (d_ [(8,(.a [.nil 2 3 aP])),(12,(.a [.nil 2 3 aP]))]) Ln
def akb:cD:=⟨BN.pre,BN.post,iG⟩
def VG:=ź O2 [] rh [] (d_ [ŷ 4 [0,1,5] [6] [Z?] [],ŷ 6 [0,1,6] [5] [Z!] [],ŷ 16 [] [7] [ô] [Å],ŷ 17 [1] [7,33] [ô,Z?] [Å]]) q_
def yi:=Ź [é] [] [Z?] [] (d_ [ŷ 6 [0,5] [6] [Z!] []])
def Hg:cD:=cn yi iN
def C5:=Ź [é] [] [Z?] [] (d_ [ŷ 3 [0] [16] [Z?] [],ŷ 14 [] [18] [Á] [Ŀ],ŷ 24 [] [18] [Á] [Ŀ],ŷ 25 [3,4] [18,23] iB [Ŀ],ŷ 29 [] [18,38] iB [Ŀ]])
def OC:cD:=cn C5 lP
def MQ:=Ź O2 [] [Z!] [] (d_ [ŷ 6 [0,1,7] [8] [Z!] []])
def Yp:cD:=cn MQ sX
def OX:=ź O2 [] [Z?] [] .leaf kB
def OW:=ź [Ð,ç] [] [Z?] [] .leaf kA
def JT:=ź xu [] [Z?] [] (d_ [ŷ 2 [] [4] [Z?] []]) nu
def JU:=ź [Ó,Z!,Z?] [] [Z?] [] (d_ [ŷ 2 [] [6] [Z?] []]) qa
def uJ:=Ź [Ć] [] [Ô,Z?] [] (d_ [Ÿ 8 [0] [4,5] YD [Ö] [.nil 4 9 .str],ŷ 15 [0] [4,5] YD [Ö],ŷ 37 [0,5] [4,6,49] [ô,Ë,Z?] [Ö,ŀ],ŷ 48 [0,5,51] [4,6,52] [ô,Ë,Z!] [Ö,ŀ]])
def CU:cD:=cn uJ gg
def uI:=Ź [Ó,Ô] [] [Z?] [] (d_ [ŷ 10 [17,18] [2,5,19] YE acd,ŷ 27 [30,31] [2,5,32] YE acd,Ÿ 50 [52] [10,51,53] [.mp 0,ù,Z!] [.mp .str .bool,Ö] [.mpt 10 .str .bool],Ÿ 62 [12,52,53] [10,51,64] [.mp 0,ù,Z?] [.mp .str .bool,Ö] [.mpt 10 .str .bool]])
def CS:cD:=cn uI gf
def uH:=Ź [Ó] [] [Z?] [] (d_ [ŷ 8 [8,9] [1,3,4,10] (Á::Z!::Ŗ) rn,ŷ 20 [3,4,8,9,10] [1,6,25] sr ţ,ŷ 27 [8,9,10] [1,3,4,6] [Á,Z!,Z!,Ë] ţ])
def CR:cD:=cn uH gd
def uK:=Ź [Ó] [] [Z?] [] (d_ [ŷ 3 [] [1,34] iB rn,ŷ 11 [] [1,44] iB rn,ŷ 21 [] [1,58] iB rn,ŷ 32 [60,61] [1,62] wD rn])
def CV:cD:=cn uK dL
def De:=Ź [Ó] [] [õ] [] (d_ [ŷ 8 [20] [2,3,21] wg arp,ŷ 21 [] [2,3] [Á,Ë] arp])
def OQ:cD:=cn De lS
def wV:=Ź [Ó] [] [Ü] [] (d_ [ŷ 8 [22,23] [2,3,24] wg [Ļ,.C 81 (ō++[ó,á,ã]),.F 2 aa aP,.F 2 aa aP,Å]])
def FQ:cD:=cn wV eS
def tX:=Ź [ì,Î] [] [Z?] [] (d_ [ŷ 6 [0,13] [14] [Z!] [],ŷ 20 [0,13,14,17,18] [19] [Z!] [],ŷ 31 [0,13,14,17,18,19] [37] [Z?] []])
def BI:cD:=cn tX ch
def M4:=ź xu [] [Z?] [] (d_ [ŷ 2 [] [4] [Z?] []]) fd
def JH:=ź (Ó::Ŗ) [] [Z?] [] (d_ [ŷ 6 [2,7] [3,8] iB rn,ŷ 36 [2,7] [3,18] iB rn,ŷ 46 [2,7] [3,26] iB rn,ŷ 53 [] [6] [Z?] [],ŷ 56 [2,7] [3,43] iB rn,ŷ 71 [] [6] [Z?] [],ŷ 74 [2,7] [3,61] iB rn,ŷ 92 [2,7] [3,71] iB rn,ŷ 102 [2] [3,79] iB rn]) jV
def FJ:=Ź [Ó,õ] [] [Z?] [] (d_ [ŷ 3 [] [2,31] iB rn,ŷ 14 [33,34] [2,35] wD rn])
def R2:cD:=cn FJ ja
def OO:=ź (Ó::õ::Z!::Ŗ) [] [Z?] [] (d_ [ŷ 15 [] [10] [Z?] [],ŷ 21 [] [10] [Z?] [],ŷ 24 [2,4,11] [5,6,60] sr YF,ŷ 64 [2,4,11] [5,6,109] sr YF,ŷ 81 [] [10] [Z?] [],ŷ 87 [] [10] [Z?] []]) lQ
def JJ:=ź (Ó::õ::Z!::Ŗ) [] [Z?] [] (d_ [ŷ 3 [2,3,4] [5,6,30] sr YF,ŷ 25 [] [10] [Z?] [],ŷ 29 [] [10] [Z?] []]) eH
def He:=ź [Ó,Ü] [] [Z?] [] (d_ [ŷ 2 [] [4] [Z?] []]) iM
def DZ:=ź [Ó,Î] [] [Z?] [] (d_ [ŷ 3 [] [2,3,12] sr ş,ŷ 10 [] [4] [Z?] []]) gL
def sd:=Ź [Ó,Ü,Î] [] [Z?] [] (d_ [ŷ 2 [] [4,5,7] sr Ş,ŷ 4 [] [4,5,8] Ŏ Ld3,ŷ 10 [51] [4,5,8,52] Hz Ld3,ŷ 22 [10,51,52] [4,5,8,64] Hy Ld3,ŷ 34 [51,52,65,66] [4,5,8,11,67] (Ŏ++Ŗ) Ld3,ŷ 46 [13,51,52,65,66,67] [4,5,8,83] Hy Ld3])
def zM:cD:=cn sd dP
def vV:=Ź [Ü,Î] [] [Z?] [] (d_ [ŷ 21 [] [4] [Z?] [],ŷ 24 [13] [2,3,46] sr Ş,ŷ 43 [53,54] [3,5,6,55] [Á,Z!,Z?,Z!] ac9,ŷ 51 [53,54,55] [3,5,6] [Á,Z!,Z?] ac9,ŷ 54 [5,6,7,53,54,55] [3,69] iB ac9,ŷ 62 [] [4] [Z?] [],ŷ 74 [94,95] [3,9,96] V7 ac9,ŷ 82 [94,95,96] [3,9] wD ac9,ŷ 85 [9,94,95,96] [3,109] iB ac9])
def DY:cD:=cn vV e9
def ON:=ź [.d hJ,Z!] [] [Z?] [] (d_ [ŷ 2 [] [4] [Z?] []]) nE
def BO:=ź [ì] [] [ì] [] .leaf Lp
def akc:cD:=⟨BO.pre,BO.post,Cb⟩
def yr:=ź [ì] [] [ô] [Æ] (d_ [(8,(.a [.nil 2 4 .bool])),(12,(.a [.nil 2 4 .bool]))]) GG
def age:cD:=⟨yr.pre,yr.post,Lo⟩
def BL:=ź [Ò] [] [Ò] [] .leaf Lm
def aka:cD:=⟨BL.pre,BL.post,Ca⟩
def yp:=ź [Ò] [] [ô] [ß] (d_ [(8,(.a [.nil 2 152 hJ])),(12,(.a [.nil 2 152 hJ]))]) GD
def agc:cD:=⟨yp.pre,yp.post,Ll⟩
def yq:=ź rh [] [ô] [À] (d_ [(8,(.a [.nil 2 2 aP])),(12,(.a [.nil 2 2 aP]))]) GF
def agd:cD:=⟨yq.pre,yq.post,Bc⟩
def Dd:=Ź [õ] [] [Ğ] Ld1 (d_ [ŷ 8 [11,12] [1,2,3,13] [Á,Ë,ó,Z!] (ŝ++[ĝ])])
def OP:cD:=cn Dd lR
def BD:=Ź (Ğ::Ŗ) Ld1 [Z!] Ld1 (d_ [ŷ 8 [1,2,12] [3,7,11,13] [Þ,Z!,ó,Z!] Ld0,ŷ 16 [1,2,12,13] [3,7,11] [Þ,Z!,ó] Ld0,ŷ 19 [1,2,7,8,12,13] [3,11,29] [Þ,ó,Z?] Ld0,ŷ 25 [7] [] [] Ld1])
def M5:cD:=cn BD kN
def wX:=Ź [Ğ,Z!] Ld1 [Z!] Ld1 (d_ [ŷ 8 [1,10] [2,5,9,11] [Þ,Z!,ó,Z!] Ld0,ŷ 16 [1,10,11] [2,5,9] [Þ,Z!,ó] Ld0])
def FX:cD:=cn wX ie
def Nb:=ź [Z!] [] [Z?] [] .leaf rS
def OV:=ź xu [] [Z?] [] (d_ [ŷ 2 [] [4] [Z?] []]) xl
def Hm:=ź [.d (.int .u64)] [] [Z!] [] .leaf sU
def M7:=ź [.d (.int .u64)] [] [Z!] [] .leaf vK
def pn:=Ź (ô::Ŗ) ZZ [] ZZ (d_ [ŷ 3 [1,2] [0,6] YD ZZ,ŷ 15 [1,2,6] [0,7] YD ZZ,ŷ 17 [1,2,6,7] [0,30] [ô,Z?] ZZ])
def wB:cD:=cn pn fU
def uG:=Ź (ô::Z!::Ŗ) ZZ [] ZZ (d_ [ŷ 5 [] [0,1,2,3,8,9] [ô,Z!,Z!,Z!,Z?,Z?] ZZ])
def CQ:cD:=cn uG j_
def abq:=ź [ô] ZZ [] ZZ .leaf jP
def FP:=Ź [ô] ZZ [ô] ZZ (d_ [ŷ 14 [] [0,3] YD ZZ])
def R7:cD:=cn FP eF
def JL:=ź [Z!,Á] [ŭ] [Z?] [ŭ] .leaf pZ
def BH:=Ź [ô,ğ] Ld8 [Z!] Ld8 (d_ [ŷ 6 [7] [0,1,8] [ô,ğ,Z!] Ld8])
def Nd:cD:=cn BH oH
def Ay:=Ź [ô,ğ] Ld8 [ó] [ą,ŭ,Å] (d_ [ŷ 16 [] [0,1,5,6] (ô::ğ::Ŗ) Ld8,ŷ 24 [6] [0,1,5] [ô,ğ,Z!] Ld8])
def JV:cD:=cn Ay dw
def fI:=Ź Ld7 [] ah4 [] (d_ [ŷ 17 [] [7,12,15] wg [ű,æ,ĝ,Æ,ß],ŷ 26 [4,5,15,27] [6,7,8,12,42] wh Ld9,ŷ 34 [4,5,15,27] [6,7,8,12,51] wh Ld9])
def M6:cD:=cn fI ig
def JG:=ź [õ] [] [.agg (.qw 0 2 1::ŗ)] [.C 150 [Z!,ù],Ä] (d_ [Ÿ 7 [] [1,2,3] [Á,Ë,.qw 2 2 1] (ŝ++[.C 150 [Z!,á],Ä]) [.qb 3 1 3 aP],(8,(.u 2))]) jU
def JP:=ź Ld7 [] ah4 [] (d_ [ŷ 17 [] [7,12,15] wg [.C 78 (.qw 2 2 1::ŗ),æ,.C 150 [Z!,Ð]],ŷ 26 [4,5,15,27] [6,7,8,12,42] wh arq,(33,(.s 4 0 0 0)),ŷ 34 [4,5,15,27] [6,7,8,12,51] wh arq,(41,(.s 4 0 0 0)),(46,(.s 4 0 0 1)),(53,(.s 4 0 0 1)),(74,(.s 4 0 0 0)),(80,(.s 4 0 0 0)),(100,(.a [.pk 7 0 dF]))]) gH
def JF:=ź [õ] [] [.agg (.qw 0 2 2::ŗ)] [.C 150 [Z!,ù,Z!,ó],Ä,Ä] (d_ [Ÿ 7 [] [1,2,3] [Á,Ë,.qw 2 2 2] (ŝ++[.C 150 [Z!,á,Z!,ã],Ä,Ä]) [.qb 3 1 3 aP,.qb 3 3 3 aP],(8,(.u 3))]) jT
def JO:=ź Ld7 [] ah4 [] (d_ [ŷ 17 [] [7,12,15] wg [.C 78 (.qw 2 2 2::ŗ),æ,.C 150 [Z!,Ð,Z!,Ð]],ŷ 26 [4,5,15,27] [6,7,8,12,42] wh Ld6,(33,(.s 4 0 0 0)),ŷ 34 [4,5,15,27] [6,7,8,12,51] wh Ld6,(41,(.s 4 0 0 0)),(46,(.s 4 0 0 2)),(53,(.s 4 0 0 2)),(74,(.s 4 0 0 0)),(80,(.s 4 0 0 0)),(100,(.a [.pk 7 0 dF]))]) fK
def JE:=ź [õ] [] [.agg (.qw 0 2 3::ŗ)] [.C 150 [Z!,ù,Z!,ó,Z!,á],Ä,Ä,Ä] (d_ [Ÿ 7 [] [1,2,3] [Á,Ë,.qw 2 2 3] (ŝ++[.C 150 [Z!,á,Z!,ã,Z!,ë],Ä,Ä,Ä]) [.qb 3 1 3 aP,.qb 3 3 3 aP,.qb 3 5 3 aP],(8,(.u 4))]) jS
def JN:=ź Ld7 [] ah4 [] (d_ [ŷ 17 [] [7,12,15] wg [.C 78 (.qw 2 2 3::ŗ),æ,.C 150 [Z!,Ð,Z!,Ð,Z!,Ð]],ŷ 26 [4,5,15,27] [6,7,8,12,42] wh Ld4,(33,(.s 4 0 0 0)),ŷ 34 [4,5,15,27] [6,7,8,12,51] wh Ld4,(41,(.s 4 0 0 0)),(46,(.s 4 0 0 3)),(53,(.s 4 0 0 3)),(74,(.s 4 0 0 0)),(80,(.s 4 0 0 0)),(100,(.a [.pk 7 0 dF]))]) fe
def JD:=ź [õ] [] [.agg (.qw 0 2 4::ŗ)] (.C 150 [Z!,ù,Z!,ó,Z!,á,Z!,ã]::Ř) (d_ [Ÿ 7 [] [1,2,3] [Á,Ë,.qw 2 2 4] (ŝ++.C 150 [Z!,á,Z!,ã,Z!,ë,Z!,å]::Ř) [.qb 3 1 3 aP,.qb 3 3 3 aP,.qb 3 5 3 aP,.qb 3 7 3 aP],(8,(.u 5))]) nk
def JM:=ź Ld7 [] ah4 [] (d_ [ŷ 17 [] [7,12,15] wg [.C 78 (.qw 2 2 4::ŗ),æ,.C 150 [Z!,Ð,Z!,Ð,Z!,Ð,Z!,Ð]],ŷ 26 [4,5,15,27] [6,7,8,12,42] wh Ld2,(33,(.s 4 0 0 0)),ŷ 34 [4,5,15,27] [6,7,8,12,51] wh Ld2,(41,(.s 4 0 0 0)),(46,(.s 4 0 0 4)),(53,(.s 4 0 0 4)),(74,(.s 4 0 0 0)),(80,(.s 4 0 0 0)),(100,(.a [.pk 7 0 dF]))]) gG
def OR:cD:=cn fI tf
def Hf:=ź [Ó,Ü,Î] [] [Ü,Z?] [] (d_ [ŷ 3 [] [3,4,5,6,39] wh Ny,ŷ 11 [] [3,4,5,6,70] wh Ny,ŷ 20 [] [3,4,5,6,8] (Ŏ++[Þ,Z!]) Ny,ŷ 41 [] [5,6,12] Ŏ ao8]) eh
def vZ:=Ź [Õ] [] xu [] (d_ [Ÿ 26 [27,28] [1,4,5,29] [Á,Ë,.qw 2 1 1,Z!] (Ň++[.C 75 [á],Æ]) [.qb 5 0 4 .bool],ŷ 40 [6,27,28,29] [1,4,5,7,8,53] [Á,Ë,.qw 2 1 1,Þ,í,Z?] (Ň++[.C 75 [ë],ť,ŧ,Æ]),(41,(.b 9 7 0 0 1)),ŷ 47 [27,28,29] [1,4,5,8] [Á,Ë,.qw 2 1 1,Þ] (Ň++[.C 75 [ã],ŧ,Æ]),(48,(.s 7 0 0 1))])
def D6:cD:=cn vZ eC
def vY:=Ź [Õ] [] xu [] (d_ [Ÿ 26 [27,28] [1,4,5,29] [Á,Ë,.qw 2 1 2,Z!] (Ň++[.C 75 [á,ã],Æ,Æ]) [.qb 5 0 4 .bool,.qb 5 1 4 .bool],ŷ 40 [6,27,28,29] [1,4,5,7,8,53] [Á,Ë,.qw 2 1 2,Þ,í,Z?] (Ň++[.C 75 [ë,å],ť,ŧ,Æ,Æ]),(41,(.b 9 7 0 0 2)),ŷ 47 [27,28,29] [1,4,5,8] [Á,Ë,.qw 2 1 2,Þ] (Ň++[.C 75 [ã,ë],ŧ,Æ,Æ]),(48,(.s 7 0 0 2))])
def D5:cD:=cn vY dE
def vX:=Ź [Õ] [] xu [] (d_ [Ÿ 26 [27,28] [1,4,5,29] [Á,Ë,.qw 2 1 3,Z!] (Ň++[.C 75 [á,ã,ë],Æ,Æ,Æ]) [.qb 5 0 4 .bool,.qb 5 1 4 .bool,.qb 5 2 4 .bool],ŷ 40 [6,27,28,29] [1,4,5,7,8,53] [Á,Ë,.qw 2 1 3,Þ,í,Z?] (Ň++[.C 75 [ë,å,ê],ť,ŧ,Æ,Æ,Æ]),(41,(.b 9 7 0 0 3)),ŷ 47 [27,28,29] [1,4,5,8] [Á,Ë,.qw 2 1 3,Þ] (Ň++[.C 75 [ã,ë,å],ŧ,Æ,Æ,Æ]),(48,(.s 7 0 0 3))])
def D3:cD:=cn vX dY
def e_:=Ź [Õ] [] xu [] (d_ [Ÿ 26 [27,28] [1,4,5,29] [Á,Ë,.qw 2 1 4,Z!] (Ň++[.C 75 [á,ã,ë,å],Æ,Æ,Æ,Æ]) [.qb 5 0 4 .bool,.qb 5 1 4 .bool,.qb 5 2 4 .bool,.qb 5 3 4 .bool],ŷ 40 [6,27,28,29] [1,4,5,7,8,53] [Á,Ë,.qw 2 1 4,Þ,í,Z?] (Ň++[.C 75 [ë,å,ê,ď],ť,ŧ,Æ,Æ,Æ,Æ]),(41,(.b 9 7 0 0 4)),ŷ 47 [27,28,29] [1,4,5,8] [Á,Ë,.qw 2 1 4,Þ] (Ň++[.C 75 [ã,ë,å,ê],ŧ,Æ,Æ,Æ,Æ]),(48,(.s 7 0 0 4))])
def D2:cD:=cn e_ dl
def FR:cD:=cn e_ jO
def PL:aN Pg 29 abp:=mk _ _ an co
def Tt x:mK (lH x) (Ba x):=by
 unfold lH Ba wU ck bR bI bc c7 aH cS;with_reducible repeat' first|apply OI.o;constructor|intro _
def Bi:aN Pg 59 VH:=B_ IJ lH Ba Tt (ac PL an) co
def ajj:aN Pg 57 F3:=mk _ _ an co
def an6:aN Pg 57 anh:= @aN.sub Pg 57 F3.pre F3.post Q_ W_ ajj rfl (λx y h=>s5 (b:=8) x y h)
def afm:aN Pg 57 BN:=mk _ _ an co
def Fg:aN Pg 57 akb:= @aN.sub Pg 57 BN.pre BN.post Ln iG afm rfl (λx y h=>s5 (b:=8) x y h)
def Up:aN Pg 65 VG:=mk _ _ an co
def Gy x:mK (iN x) (sN x):=by
 unfold iN sN pd jH ki kh yH Prod.u Prod.v Prod.B Prod.C Prod.G Prod.H aY Prod.I bi bt b7 dc fx kl lA Prod.K bR bI c7 aH cS;with_reducible repeat' first|apply OI.o;constructor|intro _
def GR:aN Pg 117 Hg:=B_ yi iN sN Gy an co
def N5 x:mK (lP x) (xh x):=by
 unfold lP xh tw bn bR jR bc c7 aH;with_reducible repeat' first|apply OI.o;constructor|intro _
def Od:aN Pg 85 OC:=B_ C5 lP xh N5 (ac GR an) co
def W3 x:mK (sX x) (DJ x):=by
 unfold sX DJ zD bn bR bY bc c7 aH cS;with_reducible repeat' first|apply OI.o;constructor|intro _
def XG:aN Pg 141 Yp:=B_ MQ sX DJ W3 an co
def Ox:aN Pg 118 OX:=mk _ _ (ac XG an) co
def C2:aN Pg 15 OW:=mk _ _ (ac PL an) co
def Jp:aN Pg 86 JT:=mk _ _ an co
def Jq:aN Pg 47 JU:=mk _ _ (ac Jp an) co
def Cx x:mK (gg x) (px x):=by
 unfold gg px md aY bi bt b7 cW dN bn bR iK bI bY bc c7 aH cS;with_reducible repeat' first|apply OI.o;constructor|intro _
def CJ:aN Pg 45 CU:=B_ uJ gg px Cx an co
def Cw x:mK (gf x) (pw x):=by
 unfold gf pw mc aY bi bt bR bI bY jZ bc c7 aH cS;with_reducible repeat' first|apply OI.o;constructor|intro _
def CH:aN Pg 46 CS:=B_ uI gf pw Cw (ac Od an) co
def Cv x:mK (gd x) (pu x):=by
 unfold gd pu mb aY bi b7 cY bR iK bY bc c7 aH cS;with_reducible repeat' first|apply OI.o;constructor|intro _
def CG:aN Pg 48 CR:=B_ uH gd pu Cv an co
def Cy x:mK (dL x) (py x):=by
 unfold dL py me aY bi b7 cY bR bY bc c7 aH cS;with_reducible repeat' first|apply OI.o;constructor|intro _
def ma:aN Pg 23 CV:=B_ uK dL py Cy (ac CJ (ac CH (ac Jq (ac CG an)))) co
def N8 x:mK (lS x) (xk x):=by
 unfold lS xk tD aY bi bt bN cW cY ck bR bI bc c7 aH cS;with_reducible repeat' first|apply OI.o;constructor|intro _
def Oq:aN Pg 49 OQ:=B_ De lS xk N8 an co
def EI x:mK (eS x) (rF x):=by
 unfold eS rF nN aY bi bt cW bR bI bY bc c7 aH cS;with_reducible repeat' first|apply OI.o;constructor|intro _
def nM:aN Pg 24 FQ:=B_ wV eS rF EI (ac Oq an) co
def AX x:mK (ch x) (oe x):=by
 unfold ch oe jD dc iX bR jR bI bY bc c7 aH cS;with_reducible repeat' first|apply OI.o;constructor|intro _
def lJ:aN Pg 26 BI:=B_ tX ch oe AX an co
def vR:aN Pg 88 M4:=mk _ _ an co
def Jj:aN Pg 89 JH:=mk _ _ (ac vR an) co
def QW x:mK (ja x) (yU x):=by
 unfold ja yU r7 aY bi bt cW bR iK bY bc c7 aH cS;with_reducible repeat' first|apply OI.o;constructor|intro _
def Fb:aN Pg 87 R2:=B_ FJ ja yU QW (ac vR an) co
def On:aN Pg 90 OO:=mk _ _ (ac Ox an) co
def ly:aN Pg 51 JJ:=mk _ _ (ac Fb (ac vR (ac Jj (ac On an)))) co
def GP:aN Pg 50 He:=mk _ _ (ac Fb an) co
def DO:aN Pg 52 DZ:=mk _ _ an co
def yR x:mK (dP x) (mQ x):=by
 unfold dP mQ ii aY bi bt b7 bN cW dN bn bR jR bI bY bc c7 aH cS;with_reducible repeat' first|apply OI.o;constructor|intro _
def y_:aN Pg 53 zM:=B_ sd dP mQ yR an co
def DA x:mK (e9 x) (qE x):=by
 unfold e9 qE kR aY bi bt b7 bN bn bR bY bc c7 aH cS;with_reducible repeat' first|apply OI.o;constructor|intro _
def DN:aN Pg 54 DY:=B_ vV e9 qE DA an co
def C1:aN Pg 124 ON:=mk _ _ an co
def afp:aN Pg 119 BO:=mk _ _ an co
def Kn:aN Pg 119 akc:= @aN.sub Pg 119 BO.pre BO.post Lp Cb afp rfl (λx y h=>s5 (b:=1) x y h)
def aap:aN Pg 119 yr:=mk _ _ an co
def afo:aN Pg 119 age:= @aN.sub Pg 119 yr.pre yr.post GG Lo aap rfl (λx y h=>s5 (b:=1) x y h)
def afl:aN Pg 120 BL:=mk _ _ an co
def Km:aN Pg 120 aka:= @aN.sub Pg 120 BL.pre BL.post Lm Ca afl rfl (λx y h=>s5 (b:=24) x y h)
def aan:aN Pg 120 yp:=mk _ _ an co
def afk:aN Pg 120 agc:= @aN.sub Pg 120 yp.pre yp.post GD Ll aan rfl (λx y h=>s5 (b:=24) x y h)
def aao:aN Pg 56 yq:=mk _ _ an co
def afn:aN Pg 56 agd:= @aN.sub Pg 56 yq.pre yq.post GF Bc aao rfl (λx y h=>s5 (b:=8) x y h)
def N7 x:mK (lR x) (xi x):=by
 unfold lR xi tC aY bN ck bR bI bY bc c7 cS;with_reducible repeat' first|apply OI.o;constructor|intro _
def Oo:aN Pg 91 OP:=B_ Dd lR xi N7 (ac an6 (ac afo (ac afk an))) co
def K7 x:mK (kN x) (vA x):=by
 unfold kN vA rZ aY bi bN ck bR jR jZ bc c7 aH cS;with_reducible repeat' first|apply OI.o;constructor|intro _
def LR:aN Pg 96 M5:=B_ BD kN vA K7 (ac C1 an) co
def EL x:mK (ie x) (rH x):=by
 unfold ie rH nQ aY bi bN cW ck bR jZ bc c7 aH cS;with_reducible repeat' first|apply OI.o;constructor|intro _
def Fa:aN Pg 97 FX:=B_ wX ie rH EL (ac C1 an) co
def LX:aN Pg 180 Nb:=mk _ _ an co
def Ow:aN Pg 148 OV:=mk _ _ (ac LX an) co
def G1:aN Pg 152 Hm:=mk _ _ an co
def LU:aN Pg 122 M7:=mk _ _ (ac G1 an) co
def ww x:mK (fU x) (lq x):=by
 unfold fU lq lw ck bR jZ c7 aH cS;with_reducible repeat' first|apply OI.o;constructor|intro _
def wy:aN Pg 142 wB:=B_ pn fU lq ww (ac Ow an) co
def Cu x:mK (j_ x) (pq x):=by
 unfold j_ pq pz aY bi bn jR bI aH;with_reducible repeat' first|apply OI.o;constructor|intro _
def CF:aN Pg 121 CQ:=B_ uG j_ pq Cu (ac wy an) co
def Ce:aN Pg 92 abq:=mk _ _ (ac CF (ac LU an)) co
def Q1 x:mK (eF x) (yV x):=by
 unfold eF yV zE bn bR bI jZ bc c7 aH cS;with_reducible repeat' first|apply OI.o;constructor|intro _
def uU:aN Pg 93 R7:=B_ FP eF yV Q1 an co
def Ab:aN Pg 95 JL:=mk _ _ an co
def La x:mK (oH x) (vB x):=by
 unfold oH vB vS bR jZ bc c7 aH cS;with_reducible repeat' first|apply OI.o;constructor|intro _
def LY:aN Pg 123 Nd:=B_ BH oH vB La (ac Ab an) co
def I5 x:mK (dw x) (uk x):=by
 unfold dw uk uo ck bn bR bI jZ bc c7 aH cS;with_reducible repeat' first|apply OI.o;constructor|intro _
def qi:aN Pg 94 JV:=B_ Ay dw uk I5 (ac Ab (ac LY an)) co
def LS:aN Pg 55 M6:=mk fI ig (ac ly (ac Oo (ac LR (ac Fa an)))) co
def tv2 (t:TypeId):M Ty:=if ax t 150 then Z (.pr .un (.pr .un dF)) else co t
def Ji:aN Pg 91 JG:=mk _ _ (ac Fg (ac Kn (ac Km an))) tv2
def Jn:aN Pg 55 JP:=mk _ _ (ac ly (ac Ji (ac Ce (ac uU (ac qi an))))) tv2
def tv3 (t:TypeId):M Ty:=if ax t 150 then Z (.pr .un (.pr .un (.pr .un dF))) else co t
def Jh:aN Pg 91 JF:=mk _ _ (ac Fg (ac Kn (ac Km an))) tv3
def Jm:aN Pg 55 JO:=mk _ _ (ac ly (ac Jh (ac Ce (ac uU (ac qi an))))) tv3
def tv4 (t:TypeId):M Ty:=if ax t 150 then Z (.pr .un (.pr .un (.pr .un (.pr .un dF)))) else co t
def Jg:aN Pg 91 JE:=mk _ _ (ac Fg (ac Kn (ac Km an))) tv4
def Jl:aN Pg 55 JN:=mk _ _ (ac ly (ac Jg (ac Ce (ac uU (ac qi an))))) tv4
def tv5 (t:TypeId):M Ty:=if ax t 150 then Z (.pr .un (.pr .un (.pr .un (.pr .un (.pr .un dF))))) else co t
def Jf:aN Pg 91 JD:=mk _ _ (ac Fg (ac Kn (ac Km an))) tv5
def Jk:aN Pg 55 JM:=mk _ _ (ac ly (ac Jf (ac Ce (ac uU (ac qi an))))) tv5
def Ot:aN Pg 55 OR:=(aN.orE (pre:=fI.pre) (post:=fI.post) (m:=ig) (m':=(λx=>orE (gH x) ((λx=>orE (fK x) ((λx=>orE (fe x) (gG x)) x)) x))) rfl LS (aN.orE (pre:=fI.pre) (post:=fI.post) (m:=gH) (m':=(λx=>orE (fK x) ((λx=>orE (fe x) (gG x)) x))) rfl Jn (aN.orE (pre:=fI.pre) (post:=fI.post) (m:=fK) (m':=(λx=>orE (fe x) (gG x))) rfl Jm (aN.orE (pre:=fI.pre) (post:=fI.post) (m:=fe) (m':=gG) rfl Jl Jk))))
def o9:aN Pg 25 Hf:=mk _ _ (ac GP (ac ly (ac DO (ac y_ (ac DN (ac Ot (ac afn (ac Fg an)))))))) co
def tv6 (t:TypeId):M Ty:=if ax t 75 then Z (.pr .un (.pr .un nz)) else co t
def DF x:mK (eC x) (qI x):=by
 unfold eC qI mW aY bi bt bN cY bn bR bI bY bc c7 aH cS;with_reducible repeat' first|apply OI.o;constructor|intro _
def DS:aN Pg 12 D6:=B_ vZ eC qI DF (ac ma (ac nM (ac o9 (ac lJ an)))) tv6
def tv7 (t:TypeId):M Ty:=if ax t 75 then Z (.pr .un (.pr .un (.pr .un nz))) else co t
def DE x:mK (dE x) (qH x):=by
 unfold dE qH kT aY bi bt b7 bN cW dN bn bR bI bY bc c7 aH cS;with_reducible repeat' first|apply OI.o;constructor|intro _
def DR:aN Pg 12 D5:=B_ vY dE qH DE (ac ma (ac nM (ac o9 (ac lJ an)))) tv7
def tv8 (t:TypeId):M Ty:=if ax t 75 then Z (.pr .un (.pr .un (.pr .un (.pr .un nz)))) else co t
def DC x:mK (dY x) (qG x):=by
 unfold dY qG kS aY bi bt b7 dc bN cY dN iX bn bR bI bY bc c7 aH cS;with_reducible repeat' first|apply OI.o;constructor|intro _
def DQ:aN Pg 12 D3:=B_ vX dY qG DC (ac ma (ac nM (ac o9 (ac lJ an)))) tv8
def tv9 (t:TypeId):M Ty:=if ax t 75 then Z (.pr .un (.pr .un (.pr .un (.pr .un (.pr .un nz))))) else co t
def DB x:mK (dl x) (qF x):=by
 unfold dl qF gN aY bi bt b7 dc fx bN dN iX s9 bn bR bI bY bc c7 aH cS;with_reducible repeat' first|apply OI.o;constructor|intro _
def DP:aN Pg 12 D2:=B_ e_ dl qF DB (ac ma (ac nM (ac o9 (ac lJ an)))) tv9
def wQ:aN Pg 12 FR:=(aN.orE (pre:=e_.pre) (post:=e_.post) (m:=dl) (m':=(λx=>orE (dY x) ((λx=>orE (dE x) (eC x)) x))) rfl DP (aN.orE (pre:=e_.pre) (post:=e_.post) (m:=dY) (m':=(λx=>orE (dE x) (eC x))) rfl DQ (aN.orE (pre:=e_.pre) (post:=e_.post) (m:=dE) (m':=eC) rfl DR DS)))
abbrev arm:Y PV:=[Õ,ó,á,ã,ë,å,ê,ď,Ĺ,.mp 10,î]
def ő:Y PB:=[.C 59 [Ë],.C 69 arm,Â,ò,Å,Å,Å,Å,ï,đ,.I .qh 12,.I (.qc 137) 12,Ù,Ì,Ì]
abbrev Le0:Y PB:=(ő++[Ņ,.C 4 [Z?]])
abbrev Le1:Y PB:=(ő++[ť,Ņ])
abbrev Le5:Y PV:=[Õ,ù,ó,á,ã,ë,å,ê,ď,.mp 9,Ė]
def ģ:PB:=.C 69 Le5
def Ť:Y PB:=[ģ,Â,ò,Å,Å,Å,Å]
def ŋ:Y PB:=(Ť++[û,ï,Į,ċ,Ù,Ì])
abbrev Le2:Y PB:=(ŋ++[Ì,.C 59 [Á],ť,Ņ])
abbrev Le3:Y PB:=(ŋ++[Ì])
abbrev Le4:Y PB:=[Ų,.C 69 [Õ,ã,ë,å,ê,ď,Ĺ,Ė,î,.mp 12,.G 13],.F 48 J fP,ť,Â,ò,Å,Å,Å,Å,đ,Ĳ,.I .qh 16,.I (.qc 137) 16,Ì,Ì,Ù]
abbrev Le6:Y PB:=[Ų,.C 69 [Õ,á,ã,ë,å,ê,ď,Ĺ,Ė,.mp 11,ĥ],.F 48 J fP,Â,ò,Å,Å,Å,Å,ï,đ,.I .qh 15,.I (.qc 137) 15,Ì,Ì,Ù]
abbrev Le7:Y PB:=(ŋ++[Ì,ť])
abbrev Le8:Y PB:=(Ť++[đ,Ĳ,Į,ċ,Ù,ą,ą,Ì,Ì])
abbrev Le9:Y PB:=[Ľ,.C 31 (ŏ++[Ķ])]
abbrev ao6:Y PV:=[Á,Ë,ó,Þ,Z?]
def Mp:=Ź [Z!] [] [ô] [Å] (d_ [ŷ 8 [8] [3,9] YD [Å]])
def XQ:cD:=cn Mp lO
def RF:=ź [Î] [] [Z?] [] (d_ [ŷ 2 [] [2] [Z?] []]) mS
def MU:=ź [Ó,Î] [] [Z!] [] (d_ [ŷ 6 [6] [2,3,7] sr ş]) ml
def MR:=ź [Ó,Î] [] [Z!] [] (d_ [ŷ 6 [6] [2,3,7] sr ş]) mj
def BJ:=ź [Á,Î] Le3 rh Le3 (d_ [ŷ 7 [] [5] [.G 14] (ŋ++[Ì,Å])]) ji
def CM:=ź [.ob 0 0,Î] [Ù] [] [Ù] .leaf j7
def v7:=Ź [Á,Z!,Î] Le3 [] Le8 (d_ [Ÿ 6 [] [] [] Le8 [.jm 0 13,.jm 0 14],ŷ 39 [1,105] [0,5,104,106] [Á,Ĥ,å,Z!] Le7,ŷ 47 [1,105,106] [0,5,104] [Á,Ĥ,å] Le7])
def D7:cD:=cn v7 gM
def AJ:=ź [Á,Z!,Î] Le3 [] [.C 69 [Õ,ù,ó,á,ã,ë,å,ê,ď,.mp 9,.G 14],Â,ò,Å,Å,Å,Å,û,ï,.I .qh 15,ą,ą,Ì,Ì,.I (.qc 137) 15,Ù] (d_ [(60000,(.a [.qx 0 16,.jm 0 15]))]) iI
def CP:=ź [ü,Ġ,Ĕ,Á] Le1 [] Le1 (d_ [ŷ 0 [] [0,2,3,25] [ü,Ĕ,Á,Z?] Le1]) j9
def CO:=ź [ü,Ġ,Á,Ĕ] Le0 [] Le0 (d_ [ŷ 0 [] [0,1,2,3,31] [ü,Ġ,Á,Ĕ,Z?] Le0]) j8
def Bw:=Ź [ü,ý,Á] Le1 [] Le1 (d_ [ŷ 3 [11] [0,1,10,12] [ü,ý,î,Z!] Le1,ŷ 11 [11,12] [0,1,10] [ü,ý,î] Le1,ŷ 14 [11,12] [0,1,6,10,59] [ü,ý,ü,î,Z?] Le1])
def MT:cD:=cn Bw kJ
def Bv:=Ź [ü,þ,Á] Le0 [] Le0 (d_ [ŷ 3 [11] [0,1,10,12] [ü,þ,î,Z!] Le0,ŷ 11 [11,12] [0,1,10] [ü,þ,î] Le0,ŷ 14 [11,12] [0,1,6,10,59] [ü,þ,ü,î,Z?] Le0])
def MS:cD:=cn Bv kI
def wW:=Ź [Á,Z!,Î] Le3 [] [.C 69 [Õ,.G 14,.G 15,á,ã,ë,å,ê,ď,.mp 9,.G 16],ą,ą,Å,Å,Å,Å,.I (.rr 56 1) 18,.I (.rr 56 1) 19,.I .qh 17,ą,ą,ą,ą,Â,ò,.I (.qc 137) 17,Ù,Ì,Ì] (d_ [ŷ 8 [1,24,25] [3,5,6,26] [Ĥ,Ġ,Ĕ,Z!] Le2,ŷ 16 [1,24,25,26] [3,5,6] [Ĥ,Ġ,Ĕ] Le2,ŷ 27 [1] [3,5,6,9] [Ĥ,Ġ,Ĕ,ĩ] Le2,ŷ 34 [1,52] [3,5,6,9,53] [Ĥ,Ġ,Ĕ,ĩ,Z!] Le2,ŷ 42 [1,52,53] [3,5,6,9] [Ĥ,Ġ,Ĕ,ĩ] Le2,ŷ 58 [1] [3,5,6] [Ĥ,Ġ,Ĕ] Le2,ŷ 67 [1] [3,5,6,9,12,13] [Ĥ,Ġ,Ĕ,ĩ,.ob 11 0,.H 17 0] (ŋ++[Ì,.C 59 [Á],ť,Ņ,.C 4 [Z?]])])
def FU:cD:=cn wW gm
def Fq:=Ź [Õ] [] [Á] Le3 (d_ [Ÿ 10 [34,35] [4,36] wD (Ť++[.I (.rr 56 1) 11,û,.I .qh 13,.I (.qc 137) 13,Ì,Ì,Ù]) [.fmp 4 15 141 l7,.frw 4 16 15 137,.qb 4 7 56 (.sl aP),.qb 4 8 71 fP]])
def RE:cD:=cn Fq lD
def RG:=ź [Õ] [] [Ĭ,Z!] [] .leaf mT
def H9:=Ź [Õ] [] [ķ,Z!] [] (d_ [Ÿ 20 [23,24] [1,6,7,25] [Á,Ë,ó,Z!] Le6 [.nil 7 48 fP],ŷ 28 [23,24,25] [1,6,7] [Á,Ë,ó] Le6,ŷ 32 [8,23,24,25] [1,6,7,9,42] ao6 Le4,ŷ 40 [8,23,24,25,46,47] [1,6,7,9,48] [Á,Ë,ó,Þ,Z!] Le4,ŷ 48 [8,23,24,25,46,47,48] [1,6,7,9] [Á,Ë,ó,Þ] Le4,ŷ 52 [8,10,23,24,25,46,47,48] [1,6,7,9,11,69] [Á,Ë,ó,Þ,í,Z?] [Ų,.C 69 [Õ,ë,å,ê,ď,Ĺ,Ė,î,ĥ,.mp 13,.G 14],.F 48 J fP,ť,ť,Â,ò,Å,Å,Å,Å,Ĳ,.I (.rr 56 1) 16,.I .qh 17,.I (.qc 137) 17,Ì,Ì,Ù],ŷ 57 [8,10,23,24,25,46,47,48] [1,6,7,9,12] ao6 Le4,ŷ 59 [8,10,23,24,25,46,47,48] [1,6,7,9,96] ao6 Le4])
def U1:cD:=cn H9 ju
def ZA:=Ź [] [] [Ó] [] (d_ [Ÿ 8 [21] [0,1,22] wg al1 [.qb 1 5 98 pR],ŷ 22 [2,21,22] [0,1,3] wg al1])
def ak9:cD:=cn ZA ES
def JS:=ź [Z?] [] [Õ] [] (d_ [ŷ 4 [] [2,3] wD [Ľ]]) p_
def R5:=ź [] [] [Z?] [] (d_ [ŷ 6 [] [0] [Z?] []]) rR
def Jx:=ź [.d Ke2,Z!,.d Ke1] [] [Õ] [] (d_ [ŷ 23 [] [6,7] [Á,Ë] Le9,ŷ 52 [8] [6,7,102] sr Le9]) ng
def M8:=ź [Õ] [] [Z?] [] (d_ [ŷ 12 [] [2] [Z?] [],ŷ 16 [] [2] [Z?] []]) mq
def D8:=ź [Õ,.d Ke2,.d Ke1] [] [Z?] [] (d_ [ŷ 3 [] [3,4,5,44] Hy [Ų,.C 34 [.d Ke2],.C 37 [.d Ke1]],ŷ 10 [] [6] [Z?] []]) kO
def WZ x:mK (lO x) (DH x):=by
 unfold lO DH ze ck bR bI c7 aH cS;with_reducible repeat' first|apply OI.o;constructor|intro _
def Xk:aN Pg 27 XQ:=B_ Mp lO DH WZ an co
def E8:aN Pg 14 RF:=mk _ _ an co
def LG:aN Pg 98 MU:=mk _ _ an co
def Bf:aN Pg 63 MR:=mk _ _ an co
def Bg:aN Pg 58 BJ:=mk _ _ an co
def CC:aN Pg 62 CM:=mk _ _ an co
def DG x:mK (gM x) (qJ x):=by
 unfold gM qJ mX jH ki kh yH Prod.u Prod.C aY bi bt b7 dc fx kl lA Prod.s cY dN s9 ck bn bR jR kj bI jZ bc c7 aH cS;with_reducible repeat' first|apply OI.o;constructor|intro _
def DU:aN Pg 67 D7:=B_ v7 gM qJ DG an co
def tv10 (t:TypeId):M Ty:=if ax t 137 then Z (.pr .un .un) else co t
def AF:aN Pg 66 AJ:=mk _ _ (ac Bf (ac LG an)) tv10
def CE:aN Pg 61 CP:=mk _ _ (ac Bi an) co
def CD:aN Pg 64 CO:=mk _ _ (ac C2 (ac Bi an)) co
def K3 x:mK (kJ x) (vz x):=by
 unfold kJ vz rW jH ki kh aY bi bt b7 dc fx kl lA ck bn bR iK kj bI bc c7 aH cS;with_reducible repeat' first|apply OI.o;constructor|intro _
def LF:aN Pg 60 MT:=B_ Bw kJ vz K3 (ac CE an) co
def K0 x:mK (kI x) (vy x):=by
 unfold kI vy rV jH ki kh aY bi bt b7 dc fx kl lA ck bn bR iK kj bI bc c7 aH cS;with_reducible repeat' first|apply OI.o;constructor|intro _
def LD:aN Pg 60 MS:=B_ Bv kI vy K0 (ac CD an) co
def EJ x:mK (gm x) (rG x):=by
 unfold gm rG nO jH ki kh yH Prod.u Prod.v Prod.B aY bi bt b7 dc fx kl lA Prod.y Prod.z NF Prod.s Prod.F Prod.E Prod.L bR jR bI bY jZ bc c7 aH cS;with_reducible repeat' first|apply OI.o;constructor|intro _
def E7:aN Pg 28 FU:=B_ wW gm rG EJ (ac E8 (ac Bg (ac Bi (ac CC (ac Bf (ac Up (ac AF (ac DU (ac2 4063292 rfl LF (ac2 4259900 rfl LD an)))))))))) co
def tv11 (t:TypeId):M Ty:=if ax t 56 then Z (.pr .bool (.pr (.st (.st (.st .un))) (.sl aP))) else co t
def QV x:mK (lD x) (yS x):=by
 unfold lD yS uV jH ki kh yH aY bi bt b7 dc fx kl lA NF Prod.s bR bI bY bc c7 aH cS;with_reducible repeat' first|apply OI.o;constructor|intro _
def E6:aN Pg 13 RE:=B_ Fq lD yS QV (ac Xk (ac E7 an)) tv11
def Rg:aN Pg 10 RG:=mk _ _ (ac wQ (ac E6 an)) co
def Tr x:mK (ju x) (A_ x):=by
 unfold ju A_ tT jH ki kh aY bi bt b7 dc fx kl lA NF cW cY dN bn bR iK bI bY jZ bc c7 aH cS;with_reducible repeat' first|apply OI.o;constructor|intro _
def HX:aN Pg 7 U1:=B_ H9 ju A_ Tr (ac wQ (ac E6 (ac E8 (ac C2 an)))) co
def aiv x:mK (ES x) (Q6 x):=by
 unfold ES Q6 Rw aY bi bt b7 dN bR bI c7 aH cS;with_reducible repeat' first|apply OI.o;constructor|intro _
def aji:aN Pg 16 ak9:=B_ ZA ES Q6 aiv an co
def Jo:aN Pg 8 JS:=mk _ _ (ac aji an) co
def Ru:aN Pg 4 R5:=mk _ _ (ac HX (ac Jo an)) co
def Jc:aN Pg 6 Jx:=mk _ _ (ac GU an) co
def LW:aN Pg 5 M8:=mk _ _ (ac HX (ac LJ (ac Rg an))) co
def hlaw26_WeakRefuses:aN Pg 3 D8:=mk _ _ (ac Ru (ac LW (ac Jc an))) co
variable {P:Program} {f:FuncId} {L:ξ}
def run_law {pre:Tm} {m:pre.ty.den->M (Tm.ty ⟨[.d .bool],[]⟩).den} (sp:ri P f ⟨pre,⟨[.d .bool],[]⟩,m⟩) (h0:l! pre.bs=0) {x:pre.ty.den} (N:m x=Z J) {vs:Y TV} {hp:bk} (hi:C0 pre x=Z (vs,hp)) {la:Y AV} (hla:cO hp vs=Z la)
 {W:World} (hg:∀g cells,G g=Z cells->m6 (λ_=>False) W (.H cells 0) (.pointer (Z ⟨g,0,U⟩))) (hrel:lV (λ_=>U) (λ_=>False) W la L):
 Calls P f L.toArray W λe w'=>e= .returned (.bool J)/\Below W.heap.size W w':=by
 obtain⟨z,I⟩:=ya hi;obtain⟨F,y⟩:=ya (t:=⟨[.d .bool],[]⟩) (x:=J) (vs:=[.f .bool J]) (h1:=PT.leaf) rfl;have D:erHF hp=λ_=>U:=by
  funext n;cases hb:erHF hp n with
  |none=>rfl
  |some b=>
   obtain⟨c,h1,_⟩:=iR hb;have:=I.lt_len h1;omega
 have own0:∀(φ:PM) k,¬own φ (erHF hp) k:=by rintro φ k ⟨i,b,h1,_⟩;rw[D]at h1;cases h1
 have htot:tot (λ_=>False) (λ_=>U) (erHF hp)=λ_=>False:=by
  funext k;exact propext ⟨λh=>h.elim id λh=>cN h (own0 _ k),λh=>h.elim⟩
 refine Calls.mono (sp.calls x J N vs hp z _ PT.leaf F la _ I y hla rfl (λ_=>U) (λ_=>False) W L ⟨(λi j b b' k h1=>by rw[D]at h1;cases h1),(λi b h1=>by rw[D]at h1;cases h1),(λk h=>h.elim),(λg cells h=>by rw[htot];exact hg g cells h)⟩ (by rw[htot];exact hrel) (λn k h=>by cases h)) ?_;rintro en w' ⟨v,φ',rfl,he,_,_,_,A⟩;refine ⟨?_,⟨he.os,he.tape,he.output,he.size,λk hk=>he.jg k hk (own0 _ k)⟩⟩;have A:cu φ' _ w' (.f (.raw (.bool J))) v:=A;cases A with
 |f h=>cases h;rfl
def gKw:Tryz.prog.globalNamed "interleave/token.keywords" =Z 0:=by kernel_rfl
def tKw:(Tryz.prog.globals[0]?).map (·.type)=Z 246:=by kernel_rfl
def kw_of_laid {W:World} (h:laidMetH Tryz.prog [("interleave/token.keywords",Rows.laid_interleave_token_keywords)] W):∀g cells,G g=Z cells→m6 (λ_=>False) W (.H cells 0) (.pointer (Z ⟨g,0,U⟩)):=by
 intro g cells F;unfold G at F;split at F
 .rename_i hg;have hg:=eq_of_beq hg;subst hg;cases F;rw[MakeChecks.laidMetH_plain _ _ _ (by kernel_rfl)]at h;obtain⟨ps,⟨g0,t0,cs0,f0,p0,q0,D,N,L,hd0,_,_⟩,_,_⟩:=h;obtain rfl:=fE (gKw.symm.trans D);obtain rfl:=fE (tKw.symm.trans N);obtain⟨xs,m1,rfl,z,hlen,hn,hel⟩:=DataW.trod_array Tryz.underlying246 hd0;have c1:Tryz.prog.cellsOf 9=1:=by kernel_rfl
  have c22:Tryz.prog.cellsOf 246=22:=by kernel_rfl
  rw[c22]at hlen;simp only[aI,Rows.laid_interleave_token_keywords,DataW.agg.injEq]at z;have hxs:=z.1;have hcell:∀j,j<22→∃l,(xs.map (·.1))[j]? =Z (.lit (.string l))∧W.cell? ⟨0,j,U⟩=Z (.string ⟨l.toArray⟩):=λj A=>by
   have h1:=hel j A;rw[c1,Gi]at h1;rw[aD (by omega)]at h1;obtain⟨s,e1,e2,_⟩:=DataW.trod_string Tryz.underlying9 h1;refine ⟨s.data.toList,?_,?_⟩
   .rw[a8,aD (by omega),bx,e2]
   .have:=World.var?_cell D L j;rw[this];have h2:cs0.toList[j]? =Z (.string s):=by
     have:((cs0.toList.drop j).take 1)[0]? =Z (.string s):=by rw[e1];rfl
     rw[cP,aG (by omega),im]at this;simpa using this
    rw[← bL,h2]
  have hb:0<W.heap.size:=by
   obtain⟨l,_,h2⟩:=hcell 0 (by omega);exact World.block_lt_of_cell? W _ h2
  refine .H EV 0 0 0 (λj=>(W.cell? ⟨0,j,U⟩).getD undef) (λh=>h) hb (λx d=>?_) (λj A=>?_) (λj x d=>?_)
  .simp only[EV,bm,cI,gy]at d;rcases d with rfl|rfl|rfl|rfl|rfl|rfl|rfl|rfl|rfl|rfl|rfl|rfl|rfl|rfl|rfl|rfl|rfl|rfl|rfl|rfl|rfl|rfl<;>rfl
  .obtain⟨l,_,h2⟩:=hcell j A;rw[bO,h2];rfl
  .have A:j<22:=(bq.1 d).1;obtain⟨l,h1,h2⟩:=hcell j A;rw[← hxs]at h1;have:x= .raw (.string ⟨l.toArray⟩):=by
    rcases j with _|_|_|_|_|_|_|_|_|_|_|_|_|_|_|_|_|_|_|_|_|_|j;all_goals first|(simp only[dH,mL,af,DataW.lit.injEq,Lit.string.injEq,EV]at h1 d;subst h1 d;rfl)|omega
   rw[this,h2];exact .raw _
 .cases F
end
end Go.Proofs.YtlimcnhpkfopcaaGreatDoor.AI
