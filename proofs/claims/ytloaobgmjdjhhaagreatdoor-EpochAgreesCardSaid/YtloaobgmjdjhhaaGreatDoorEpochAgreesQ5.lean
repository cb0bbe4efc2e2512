/-
  Texts of the proof, part 6 of 6: what is used to prove the statement. No condition.
-/
import Derived.Test.YtloaobgmjdjhhaaGreatDoorEpochAgreesQ4
import Derived.Test.YtloaobgmjdjhhaaGreatDoorRows
import Derived.LaidMore
namespace Go.Proofs.YtloaobgmjdjhhaaGreatDoor.AI
open Go.RowKit
set_option maxRecDepth 100000
set_option maxHeartbeats 4000000
set_option linter.unusedVariables false
set_option linter.unusedSimpArgs false
open _root_.Bool renaming true→J,false→af
open _root_.List renaming getElem?_cons_zero→lQ
open _root_.Nat renaming beq→aA
open _root_.Option renaming some→M,none→D,map_some→cj
open _root_.Prod renaming p2→aY,p3→bm,p4→bz,q3→bL,p5→cH,q5→cY,q4→dx,p6→eC,q6→fo,p7→kP,q7→lP,q8→qf,p8→Ae,p9→Ct,p10→Ed
noncomputable section
abbrev akf:Y PV:=[.row 1,.row 2,.row 3,.row 4,.row 5,.row 6,.d (.sl aL),.row 7,.row 8]
abbrev Ld0:Y PB:=[.cells 78 akf,.rows 36 af (.sl aL),.rows 36 af (.sl aL),.rows 36 af (.sl aL),.rows 36 af (.sl aL),.rows 36 af (.sl aL),.rows 36 af (.sl aL),.rows 36 af (.sl aL),.rows 3 J aL,.rows 3 af aL]
abbrev Ld4:Y PV:=[.d aL,.d aL,.d aL,.d aL,.d aL,.d (.sl aL),.d (.sl aL)]
abbrev Ld3:Y PV:=[.d (.sl kO),.d (.sl rT),.d (.sl mn),.d (.sl .str),.d (.sl .str),.d (.sl pI)]
abbrev Ld1:Y PB:=[.cells 57 Ld4,.cells 78 [.row 3,.row 4,.row 5,.row 6,.row 7,.row 8,.d (.sl aL),.row 9,.row 10],.cells 31 Ld3,.rows 36 af (.sl aL),.rows 36 af (.sl aL),.rows 36 af (.sl aL),.rows 36 af (.sl aL),.rows 36 af (.sl aL),.rows 36 af (.sl aL),.rows 36 af (.sl aL),.rows 3 J aL]
abbrev Ld2:Y PB:=[.cells 78 akf,.rows 36 af (.sl aL),.rows 36 af (.sl aL),.rows 36 af (.sl aL),.rows 36 af (.sl aL),.rows 36 af (.sl aL),.rows 36 af (.sl aL),.rows 36 af (.sl aL),.rows 3 J aL,.rows 3 af aL,.cells 57 Ld4]
abbrev Ld5:Y PB:=[.rows 176 af eh,.rows 4 J .bool,.rows 178 J ik,.cells 96 Hx]
abbrev Ld6:Y PB:=[.rows 176 af eh,.rows 4 J .bool,.rows 178 J ik]
abbrev XN:Y PB:=[.rows 3 J aL]
abbrev Ld8:Y PB:=[.cells 99 [.d iY],.cells 57 [.d jE],.cells 226 [.d Kd1]]
abbrev Ld9:Y PB:=[.rows 3 J aL,.cells 3 [.d aL]]
abbrev anv:Y PB:=[.cells 31 [.d oG],.cells 96 [.row 4,.d aL,.row 5,.row 6],.cells 3 [.d aL],.cells 96 Cl,.rows 176 af eh,.rows 4 J .bool,.rows 178 J ik]
abbrev PH:Y PB:=[.rows 3 af aL]
abbrev anu:Y PB:=[.cells 96 Cl,.cells 96 [.row 2,.d aL,.row 3,.row 4],.rows 176 af eh,.rows 4 af .bool,.rows 178 af ik]
abbrev agl:Y PB:=[.cells 34 [.d mH],.rows 67 J il]
abbrev Tc:Y PV:=[.row 0,.d aL]
abbrev acy:Y PB:=[.rows 36 af (.sl aL)]
abbrev ake:Y PB:=[.rows 36 af (.sl aL),.rows 3 af aL]
abbrev Zi:Y PB:=[.cells 57 [.d jE]]
abbrev agk:Y PV:=[.d (.sl aL),.d (.sl aL)]
abbrev akd:Y PV:=[.ptr 0 0,.ptr 1 0,.ptr 2 0]
def No:FT:=⟨⟨Hw,[]⟩,⟨[.d aL],[]⟩,dT [(3,(.j ⟨[0,1],[12],⟨[.d .bool],[]⟩,[]⟩))]⟩
def YX:cA:=cn No gJ
def GV:FT:=⟨⟨agk,[]⟩,⟨rf,[]⟩,dT [(8,(.j ⟨[0,1,14],[5,15],⟨Tc,PH⟩,[]⟩))]⟩
def SJ:cA:=cn GV lM
def Xk:FT:=⟨⟨Hw,[]⟩,⟨[.d aL],[]⟩,dT [(3,(.j ⟨[0,1],[12],⟨[.d .bool],[]⟩,[]⟩))]⟩
def afm:cA:=cn Xk HR
def Xr:FT:=⟨⟨rf,[]⟩,⟨rf,[]⟩,.leaf⟩
def D2:cA:=cn Xr Og
def aji:cA:=⟨D2.pre,D2.post,B1⟩
def Kc:FT:=⟨⟨[.d vR],[]⟩,⟨[.row 0],acy⟩,dT [(8,(.j ⟨[9,10],[3,11],⟨Tc,acy⟩,[]⟩))]⟩
def VK:cA:=cn Kc iB
def RO:FT:=⟨⟨rf,[]⟩,⟨[.row 0],XN⟩,dT [(8,(.a [.nil 2 3 aL])),(12,(.a [.nil 2 3 aL]))]⟩
def zX:cA:=cn RO IQ
def afz:cA:=⟨zX.pre,zX.post,o9⟩
def Kd:FT:=⟨⟨[.d Kd0],[]⟩,⟨[.agg [.row 0,.row 1,.row 2,.row 3,.row 4,.row 5,.d (.sl aL),.row 6,.row 7]],[.rows 36 af (.sl aL),.rows 36 af (.sl aL),.rows 36 af (.sl aL),.rows 36 af (.sl aL),.rows 36 af (.sl aL),.rows 36 af (.sl aL),.rows 36 af (.sl aL),.rows 3 J aL]⟩,.leaf⟩
def VM:cA:=cn Kd uo
def Nk:FT:=⟨⟨Tc,acy⟩,⟨rf,acy⟩,dT [(3,(.j ⟨[1],[0,12],⟨[.row 0,.d .bool],acy⟩,[]⟩))]⟩
def YR:cA:=cn Nk tW
def Kf:FT:=⟨⟨akd,Ld1⟩,⟨[.d vR],Ld1⟩,dT [(18,(.j ⟨[6],[0,1,2,25],⟨Cm,Ld1⟩,[]⟩))]⟩
def VO:cA:=cn Kf ur
def Nm:FT:=⟨⟨[.d oG],[]⟩,⟨[.d Kd0],[]⟩,dT [(8,(.j ⟨[40],[2,3,41],⟨xX,[.cells 78 [.nil,.nil,.nil,.nil,.nil,.nil,.nil,.nil,.nil],.cells 78 [.row 2,.row 3,.row 4,.row 5,.row 6,.row 7,.nil,.row 8,.row 9],.rows 36 af (.sl aL),.rows 36 af (.sl aL),.rows 36 af (.sl aL),.rows 36 af (.sl aL),.rows 36 af (.sl aL),.rows 36 af (.sl aL),.rows 36 af (.sl aL),.rows 3 af aL]⟩,[]⟩))]⟩
def YT:cA:=cn Nm pR
def GU:FT:=⟨⟨Hw,[]⟩,⟨[.row 0],PH⟩,dT [(4,(.j ⟨[0,1,5],[6],⟨[.d .bool],[]⟩,[]⟩)),(6,(.j ⟨[0,1,6],[5],⟨[.d aL],[]⟩,[]⟩)),(16,(.j ⟨[],[7],⟨[.row 0],PH⟩,[]⟩)),(17,(.j ⟨[1],[7,33],⟨[.row 0,.d .bool],PH⟩,[]⟩))]⟩
def SH:cA:=cn GU sG
def wW:FT:=⟨⟨[.row 0],PH⟩,⟨rf,PH⟩,.leaf⟩
def ac5:cA:=cn wW wC
def afy:cA:=⟨wW.pre,⟨wW.post.vs,[]⟩,vg⟩
def Av:FT:=⟨⟨[.d (.sl aL),.row 0],PH⟩,⟨rf,PH⟩,dT [(8,(.j ⟨[0,14],[1,5,15],⟨[.row 0,.row 1,.d aL],[.rows 3 af aL,.rows 3 af aL]⟩,[]⟩))]⟩
def afw:cA:=cn Av tK
def ajh:cA:=⟨Av.pre,⟨Av.post.vs,[]⟩,BZ⟩
def Ka:FT:=⟨⟨[.row 0,.d aL,.row 1],ake⟩,⟨[],ake⟩,dT [(0,(.j ⟨[1],[0,2,13],⟨[.row 0,.row 1,.d .bool],ake⟩,[]⟩))]⟩
def VG:cA:=cn Ka l9
def RI:FT:=⟨⟨[.ptr 0 0,.d aL,.row 9],Ld0⟩,⟨[],Ld0⟩,.leaf⟩
def ac0:cA:=cn RI ww
def Nl:FT:=⟨⟨[.d oG,.ptr 0 0,.d jE,.row 9],Ld0⟩,⟨[],Ld0⟩,dT [(6,(.j ⟨[],[],⟨[],Ld0⟩,[]⟩)),(11,(.j ⟨[20],[1,3,4,6,32],⟨[.ptr 0 0,.row 9,.ptr 10 0,.ptr 11 0,.d .bool],[.cells 78 akf,.rows 36 af (.sl aL),.rows 36 af (.sl aL),.rows 36 af (.sl aL),.rows 36 af (.sl aL),.rows 36 af (.sl aL),.rows 36 af (.sl aL),.rows 36 af (.sl aL),.rows 3 J aL,.rows 3 af aL,.cells 31 Ld3,.cells 57 Ld4]⟩,[]⟩)),(48,(.j ⟨[],[1,3,6,129],⟨[.ptr 0 0,.row 9,.ptr 10 0,.d .bool],Ld2⟩,[]⟩)),(59,(.j ⟨[141],[1,3,6,140,142],⟨[.ptr 0 0,.row 9,.ptr 10 0,.row 8,.d aL],Ld2⟩,[]⟩)),(67,(.j ⟨[141,142],[1,3,6,140],⟨[.ptr 0 0,.row 9,.ptr 10 0,.row 8],Ld2⟩,[]⟩))]⟩
def YS:cA:=cn Nl rE
def RJ:FT:=⟨⟨[.d oG,.d Kd0,.d jE],[]⟩,⟨[.d Kd0,.row 0],PH⟩,dT [(14,(.j ⟨[22,23],[3,5,6,7,24],⟨[.ptr 0 0,.ptr 1 0,.ptr 2 0,.ptr 3 0,.d aL],[.cells 31 Ld3,.cells 57 Ld4,.cells 78 [.row 4,.row 5,.row 6,.row 7,.row 8,.row 9,.d (.sl aL),.row 10,.row 11],.cells 36 rf,.rows 36 af (.sl aL),.rows 36 af (.sl aL),.rows 36 af (.sl aL),.rows 36 af (.sl aL),.rows 36 af (.sl aL),.rows 36 af (.sl aL),.rows 36 af (.sl aL),.rows 3 J aL]⟩,[]⟩))]⟩
def ac1:cA:=cn RJ sF
def RE:FT:=⟨⟨agk,[]⟩,⟨[.d .bool],[]⟩,dT [(6,(.j ⟨[0,1],[5],⟨[.d aL],[]⟩,[]⟩))]⟩
def abr:cA:=cn RE wg
def M8:FT:=⟨⟨agk,[]⟩,⟨[.d .bool],[]⟩,dT [(2,(.j ⟨[],[4],⟨[.d .bool],[]⟩,[]⟩))]⟩
def YA:cA:=cn M8 EC
def wR:FT:=⟨⟨[.d .str],[]⟩,⟨[.d .bool],[]⟩,dT [(6,(.j ⟨[0,5],[6],⟨[.d aL],[]⟩,[]⟩))]⟩
def Fh:cA:=cn wR k9
def Bb:FT:=⟨⟨[.d .str],[]⟩,⟨[.d .bool],[]⟩,dT [(3,(.j ⟨[0],[16],⟨[.d .bool],[]⟩,[]⟩)),(14,(.j ⟨[],[18],⟨[.ptr 0 0],[.mp mn .un]⟩,[]⟩)),(24,(.j ⟨[],[18],⟨[.ptr 0 0],[.mp mn .un]⟩,[]⟩)),(25,(.j ⟨[3,4],[18,23],⟨hP,[.mp mn .un]⟩,[]⟩)),(29,(.j ⟨[],[18,38],⟨hP,[.mp mn .un]⟩,[]⟩))]⟩
def LZ:cA:=cn Bb oL
def Ki:FT:=⟨⟨Hw,[]⟩,⟨[.d aL],[]⟩,dT [(6,(.j ⟨[0,1,7],[8],⟨[.d aL],[]⟩,[]⟩))]⟩
def VV:cA:=cn Ki rG
def Bt:FT:=⟨⟨Hw,[]⟩,⟨[.d .bool],[]⟩,.leaf⟩
def Mk:cA:=cn Bt kJ
def Bs:FT:=⟨⟨[.d (.sl aL),.d il],[]⟩,⟨[.d .bool],[]⟩,.leaf⟩
def Mj:cA:=cn Bs eQ
def Ke:FT:=⟨⟨[.d jE],[]⟩,⟨[.d .bool],[]⟩,dT [(2,(.j ⟨[],[2],⟨[.d .bool],[]⟩,[]⟩))]⟩
def VN:cA:=cn Ke uq
def DL:FT:=⟨⟨[.d mH,.d aL,.d aL],[]⟩,⟨[.d .bool],[]⟩,dT [(5,(.j ⟨[],[3,7,8,30],⟨Cm,[.cells 34 [.d mH],.cells 57 [.d jE],.cells 57 [.d jE]]⟩,[]⟩)),(13,(.j ⟨[],[7,8,48],⟨qc,[.cells 57 [.d jE],.cells 57 [.d jE]]⟩,[]⟩)),(20,(.j ⟨[],[6],⟨[.d .bool],[]⟩,[]⟩))]⟩
def Pn:cA:=cn DL qA
def Kb:FT:=⟨⟨[.d (.sl jE)],[]⟩,⟨[.d (.sl il)],[]⟩,dT [(10,(.j ⟨[11,12],[3,4,13],⟨[.mp 0,.row 1,.d aL],[.mp aL aL,.rows 50 af il]⟩,[.mpt 3 aL aL]⟩))]⟩
def VH:cA:=cn Kb pB
def yB:FT:=⟨⟨vP,[]⟩,⟨[.d .bool],[]⟩,dT [(2,(.j ⟨[],[4],⟨[.d .bool],[]⟩,[]⟩))]⟩
def Hq:cA:=cn yB sU
def yC:FT:=⟨⟨[.d oG,.d aL,.d .bool],[]⟩,⟨[.d .bool],[]⟩,dT [(2,(.j ⟨[],[6],⟨[.d .bool],[]⟩,[]⟩))]⟩
def Hr:cA:=cn yC sV
def tw:FT:=⟨⟨[.d (.sl kO)],[]⟩,⟨[.d (.sl .str),.d .bool],[]⟩,dT [(8,(.j ⟨[0],[4,5],⟨Tc,[.rows 9 J .str]⟩,[.nil 4 9 .str]⟩)),(15,(.j ⟨[0],[4,5],⟨Tc,[.rows 9 J .str]⟩,[]⟩)),(37,(.j ⟨[0,5],[4,6,49],⟨[.row 0,.ptr 1 0,.d .bool],[.rows 9 J .str,.cells 60 [.d kO]]⟩,[]⟩)),(48,(.j ⟨[0,5,51],[4,6,52],⟨[.row 0,.ptr 1 0,.d aL],[.rows 9 J .str,.cells 60 [.d kO]]⟩,[]⟩))]⟩
def AT:cA:=cn tw h_
def tu:FT:=⟨⟨[.d oG,.d (.sl .str)],[]⟩,⟨[.d .bool],[]⟩,dT [(10,(.j ⟨[17,18],[2,5,19],⟨PI,Zl⟩,[]⟩)),(27,(.j ⟨[30,31],[2,5,32],⟨PI,Zl⟩,[]⟩)),(50,(.j ⟨[52],[10,51,53],⟨[.mp 0,.row 1,.d aL],[.mp .str .bool,.rows 9 J .str]⟩,[.mpt 10 .str .bool]⟩)),(62,(.j ⟨[12,52,53],[10,51,64],⟨[.mp 0,.row 1,.d .bool],[.mp .str .bool,.rows 9 J .str]⟩,[.mpt 10 .str .bool]⟩))]⟩
def AS:cA:=cn tu dQ
def tm:FT:=⟨⟨[.d oG],[]⟩,⟨[.d .bool],[]⟩,dT [(8,(.j ⟨[8,9],[1,3,4,10],⟨[.ptr 0 0,.d aL,.d aL,.d aL],qb⟩,[]⟩)),(20,(.j ⟨[3,4,8,9,10],[1,6,25],⟨qc,[.cells 31 [.d oG],.cells 139 [.d pI]]⟩,[]⟩)),(27,(.j ⟨[8,9,10],[1,3,4,6],⟨[.ptr 0 0,.d aL,.d aL,.ptr 1 0],[.cells 31 [.d oG],.cells 139 [.d pI]]⟩,[]⟩))]⟩
def AQ:cA:=cn tm gd
def tB:FT:=⟨⟨[.d oG],[]⟩,⟨[.d .bool],[]⟩,dT [(3,(.j ⟨[],[1,34],⟨hP,qb⟩,[]⟩)),(11,(.j ⟨[],[1,44],⟨hP,qb⟩,[]⟩)),(21,(.j ⟨[],[1,58],⟨hP,qb⟩,[]⟩)),(32,(.j ⟨[60,61],[1,62],⟨uT,qb⟩,[]⟩))]⟩
def AU:cA:=cn tB dR
def Bm:FT:=⟨⟨[.d oG],[]⟩,⟨[.d Hy],[]⟩,dT [(8,(.j ⟨[20],[2,3,21],⟨xX,anu⟩,[]⟩)),(21,(.j ⟨[],[2,3],⟨[.ptr 0 0,.ptr 1 0],anu⟩,[]⟩))]⟩
def Mc:cA:=cn Bm oO
def vq:FT:=⟨⟨[.d oG],[]⟩,⟨[.d iY],[]⟩,dT [(8,(.j ⟨[22,23],[2,3,24],⟨xX,[.cells 99 vQ,.cells 99 [.d (.sl eh),.d aL,.d qd,.d (.sl ik),.row 2,.row 3,.row 4],.rows 2 af aL,.rows 2 af aL,.rows 3 af aL]⟩,[]⟩))]⟩
def DR:cA:=cn vq dt
def sL:FT:=⟨⟨[.d qd,.d jE],[]⟩,⟨[.d .bool],[]⟩,dT [(6,(.j ⟨[0,13],[14],⟨[.d aL],[]⟩,[]⟩)),(20,(.j ⟨[0,13,14,17,18],[19],⟨[.d aL],[]⟩,[]⟩)),(31,(.j ⟨[0,13,14,17,18,19],[37],⟨[.d .bool],[]⟩,[]⟩))]⟩
def zR:cA:=cn sL co
def zK:FT:=⟨⟨vP,[]⟩,⟨[.d .bool],[]⟩,dT [(2,(.j ⟨[],[4],⟨[.d .bool],[]⟩,[]⟩))]⟩
def Ku:cA:=cn zK e_
def yr:FT:=⟨⟨[.d oG,.d aL,.d aL],[]⟩,⟨[.d .bool],[]⟩,dT [(6,(.j ⟨[2,7],[3,8],⟨hP,qb⟩,[]⟩)),(36,(.j ⟨[2,7],[3,18],⟨hP,qb⟩,[]⟩)),(46,(.j ⟨[2,7],[3,26],⟨hP,qb⟩,[]⟩)),(53,(.j ⟨[],[6],⟨[.d .bool],[]⟩,[]⟩)),(56,(.j ⟨[2,7],[3,43],⟨hP,qb⟩,[]⟩)),(71,(.j ⟨[],[6],⟨[.d .bool],[]⟩,[]⟩)),(74,(.j ⟨[2,7],[3,61],⟨hP,qb⟩,[]⟩)),(92,(.j ⟨[2,7],[3,71],⟨hP,qb⟩,[]⟩)),(102,(.j ⟨[2],[3,79],⟨hP,qb⟩,[]⟩))]⟩
def Hm:cA:=cn yr mh
def DG:FT:=⟨⟨[.d oG,.d Hy],[]⟩,⟨[.d .bool],[]⟩,dT [(3,(.j ⟨[],[2,31],⟨hP,qb⟩,[]⟩)),(14,(.j ⟨[33,34],[2,35],⟨uT,qb⟩,[]⟩))]⟩
def Pc:cA:=cn DG kw
def Bk:FT:=⟨⟨[.d oG,.d Hy,.d aL,.d aL,.d aL],[]⟩,⟨[.d .bool],[]⟩,dT [(15,(.j ⟨[],[10],⟨[.d .bool],[]⟩,[]⟩)),(21,(.j ⟨[],[10],⟨[.d .bool],[]⟩,[]⟩)),(24,(.j ⟨[2,4,11],[5,6,60],⟨qc,Wg⟩,[]⟩)),(64,(.j ⟨[2,4,11],[5,6,109],⟨qc,Wg⟩,[]⟩)),(81,(.j ⟨[],[10],⟨[.d .bool],[]⟩,[]⟩)),(87,(.j ⟨[],[10],⟨[.d .bool],[]⟩,[]⟩))]⟩
def Ma:cA:=cn Bk oN
def yw:FT:=⟨⟨[.d oG,.d Hy,.d aL,.d aL,.d aL],[]⟩,⟨[.d .bool],[]⟩,dT [(3,(.j ⟨[2,3,4],[5,6,30],⟨qc,Wg⟩,[]⟩)),(25,(.j ⟨[],[10],⟨[.d .bool],[]⟩,[]⟩)),(29,(.j ⟨[],[10],⟨[.d .bool],[]⟩,[]⟩))]⟩
def Hn:cA:=cn yw jm
def wP:FT:=⟨⟨[.d oG,.d iY],[]⟩,⟨[.d .bool],[]⟩,dT [(2,(.j ⟨[],[4],⟨[.d .bool],[]⟩,[]⟩))]⟩
def Ff:cA:=cn wP kZ
def uF:FT:=⟨⟨[.d oG,.d jE],[]⟩,⟨[.d .bool],[]⟩,dT [(3,(.j ⟨[],[2,3,12],⟨qc,[.cells 31 [.d oG],.cells 57 [.d jE]]⟩,[]⟩)),(10,(.j ⟨[],[4],⟨[.d .bool],[]⟩,[]⟩))]⟩
def Cb:cA:=cn uF jJ
def qL:FT:=⟨⟨[.d oG,.d iY,.d jE],[]⟩,⟨[.d .bool],[]⟩,dT [(2,(.j ⟨[],[4,5,7],⟨qc,[.cells 99 [.d iY],.cells 57 [.d jE]]⟩,[]⟩)),(4,(.j ⟨[],[4,5,8],⟨akd,Ld8⟩,[]⟩)),(10,(.j ⟨[51],[4,5,8,52],⟨FA,Ld8⟩,[]⟩)),(22,(.j ⟨[10,51,52],[4,5,8,64],⟨Cm,Ld8⟩,[]⟩)),(34,(.j ⟨[51,52,65,66],[4,5,8,11,67],⟨[.ptr 0 0,.ptr 1 0,.ptr 2 0,.d aL,.d aL],Ld8⟩,[]⟩)),(46,(.j ⟨[13,51,52,65,66,67],[4,5,8,83],⟨Cm,Ld8⟩,[]⟩))]⟩
def xS:cA:=cn qL eY
def uE:FT:=⟨⟨[.d iY,.d jE],[]⟩,⟨[.d .bool],[]⟩,dT [(21,(.j ⟨[],[4],⟨[.d .bool],[]⟩,[]⟩)),(24,(.j ⟨[13],[2,3,46],⟨qc,[.cells 99 [.d iY],.cells 57 [.d jE]]⟩,[]⟩)),(43,(.j ⟨[53,54],[3,5,6,55],⟨[.ptr 0 0,.d aL,.d .bool,.d aL],Zi⟩,[]⟩)),(51,(.j ⟨[53,54,55],[3,5,6],⟨[.ptr 0 0,.d aL,.d .bool],Zi⟩,[]⟩)),(54,(.j ⟨[5,6,7,53,54,55],[3,69],⟨hP,Zi⟩,[]⟩)),(62,(.j ⟨[],[4],⟨[.d .bool],[]⟩,[]⟩)),(74,(.j ⟨[94,95],[3,9,96],⟨NC,Zi⟩,[]⟩)),(82,(.j ⟨[94,95,96],[3,9],⟨uT,Zi⟩,[]⟩)),(85,(.j ⟨[9,94,95,96],[3,109],⟨hP,Zi⟩,[]⟩))]⟩
def Ca:cA:=cn uE gB
def Bj:FT:=⟨⟨[.d ik,.d aL],[]⟩,⟨[.d .bool],[]⟩,dT [(2,(.j ⟨[],[4],⟨[.d .bool],[]⟩,[]⟩))]⟩
def L_:cA:=cn Bj mC
def RP:FT:=⟨⟨[.d qd],[]⟩,⟨[.d qd],[]⟩,.leaf⟩
def zY:cA:=cn RP IU
def ag0:cA:=⟨zY.pre,zY.post,Of⟩
def Ns:FT:=⟨⟨[.d qd],[]⟩,⟨[.row 0],[.rows 4 J .bool]⟩,dT [(8,(.a [.nil 2 4 .bool])),(12,(.a [.nil 2 4 .bool]))]⟩
def w7:cA:=cn Ns EI
def ac7:cA:=⟨w7.pre,w7.post,IR⟩
def RN:FT:=⟨⟨[.d (.sl ik)],[]⟩,⟨[.d (.sl ik)],[]⟩,.leaf⟩
def zW:cA:=cn RN IP
def afx:cA:=⟨zW.pre,zW.post,Oe⟩
def Nq:FT:=⟨⟨[.d (.sl ik)],[]⟩,⟨[.row 0],[.rows 178 J ik]⟩,dT [(8,(.a [.nil 2 178 ik])),(12,(.a [.nil 2 178 ik]))]⟩
def wY:cA:=cn Nq EG
def ac4:cA:=⟨wY.pre,wY.post,IL⟩
def Nr:FT:=⟨⟨rf,[]⟩,⟨[.row 0],[.rows 2 J aL]⟩,dT [(8,(.a [.nil 2 2 aL])),(12,(.a [.nil 2 2 aL]))]⟩
def wZ:cA:=cn Nr EH
def ac6:cA:=⟨wZ.pre,wZ.post,zj⟩
def Bl:FT:=⟨⟨[.d Hy],[]⟩,⟨[.agg Hx],Ld6⟩,dT [(8,(.j ⟨[11,12],[1,2,3,13],⟨[.ptr 0 0,.ptr 1 0,.row 2,.d aL],[.cells 96 [.d Hy],.cells 96 Cl,.rows 176 af eh]⟩,[]⟩))]⟩
def Mb:cA:=cn Bl kH
def zL:FT:=⟨⟨[.agg Hx,.d aL,.d aL],Ld6⟩,⟨[.d aL],Ld6⟩,dT [(8,(.j ⟨[1,2,12],[3,7,11,13],⟨[.ptr 3 0,.d aL,.row 2,.d aL],Ld5⟩,[]⟩)),(16,(.j ⟨[1,2,12,13],[3,7,11],⟨[.ptr 3 0,.d aL,.row 2],Ld5⟩,[]⟩)),(19,(.j ⟨[1,2,7,8,12,13],[3,11,29],⟨[.ptr 3 0,.row 2,.d .bool],Ld5⟩,[]⟩)),(25,(.j ⟨[7],[],⟨[],Ld6⟩,[]⟩))]⟩
def Kv:cA:=cn zL jO
def vu:FT:=⟨⟨[.agg Hx,.d aL],Ld6⟩,⟨[.d aL],Ld6⟩,dT [(8,(.j ⟨[1,10],[2,5,9,11],⟨[.ptr 3 0,.d aL,.row 2,.d aL],Ld5⟩,[]⟩)),(16,(.j ⟨[1,10,11],[2,5,9],⟨[.ptr 3 0,.d aL,.row 2],Ld5⟩,[]⟩))]⟩
def DW:cA:=cn vu gX
def zP:FT:=⟨⟨[.d aL],[]⟩,⟨[.d .bool],[]⟩,.leaf⟩
def KF:cA:=cn zP qC
def Br:FT:=⟨⟨vP,[]⟩,⟨[.d .bool],[]⟩,dT [(2,(.j ⟨[],[4],⟨[.d .bool],[]⟩,[]⟩))]⟩
def Mi:cA:=cn Br vI
def wV:FT:=⟨⟨[.d (.int .u64)],[]⟩,⟨[.d aL],[]⟩,.leaf⟩
def Fn:cA:=cn wV rC
def zO:FT:=⟨⟨[.d (.int .u64)],[]⟩,⟨[.d aL],[]⟩,.leaf⟩
def Kz:cA:=cn zO um
def ox:FT:=⟨⟨[.row 0,.d aL,.d aL],XN⟩,⟨[],XN⟩,dT [(3,(.j ⟨[1,2],[0,6],⟨Tc,XN⟩,[]⟩)),(15,(.j ⟨[1,2,6],[0,7],⟨Tc,XN⟩,[]⟩)),(17,(.j ⟨[1,2,6,7],[0,30],⟨[.row 0,.d .bool],XN⟩,[]⟩))]⟩
def uR:cA:=cn ox fY
def tj:FT:=⟨⟨[.row 0,.d aL,.d aL,.d aL],XN⟩,⟨[],XN⟩,dT [(5,(.j ⟨[],[0,1,2,3,8,9],⟨[.row 0,.d aL,.d aL,.d aL,.d .bool,.d .bool],XN⟩,[]⟩))]⟩
def AO:cA:=cn tj js
def Np:FT:=⟨⟨[.row 0],XN⟩,⟨[],XN⟩,.leaf⟩
def YY:cA:=cn Np wB
def DQ:FT:=⟨⟨[.row 0],XN⟩,⟨[.row 0],XN⟩,dT [(14,(.j ⟨[],[0,3],⟨Tc,XN⟩,[]⟩))]⟩
def Pt:cA:=cn DQ l_
def yz:FT:=⟨⟨[.d aL,.ptr 0 0],[.cells 3 [.d aL]]⟩,⟨[.d .bool],[.cells 3 [.d aL]]⟩,.leaf⟩
def Ho:cA:=cn yz o8
def zQ:FT:=⟨⟨[.row 0,.clo 143 1 0],Ld9⟩,⟨[.d aL],Ld9⟩,dT [(6,(.j ⟨[7],[0,1,8],⟨[.row 0,.clo 143 1 0,.d aL],Ld9⟩,[]⟩))]⟩
def KH:cA:=cn zQ nF
def yD:FT:=⟨⟨[.row 0,.clo 143 1 0],Ld9⟩,⟨[.row 2],[.gone,.cells 3 [.d aL],.rows 3 af aL]⟩,dT [(16,(.j ⟨[],[0,1,5,6],⟨[.row 0,.clo 143 1 0,.d aL,.d aL],Ld9⟩,[]⟩)),(24,(.j ⟨[6],[0,1,5],⟨[.row 0,.clo 143 1 0,.d aL],Ld9⟩,[]⟩))]⟩
def Hs:cA:=cn yD jp
def nK:FT:=⟨⟨[.d oG,.d Hy,.d aL,.d aL,.d aL,.d aL],[]⟩,⟨[.d Hy,.d aL,.d .bool],[]⟩,dT [(17,(.j ⟨[],[7,12,15],⟨xX,[.cells 96 [.row 2,.d aL,.row 3,.row 4],.cells 96 Cl,.rows 176 af eh,.rows 4 J .bool,.rows 178 J ik]⟩,[]⟩)),(26,(.j ⟨[4,5,15,27],[6,7,8,12,42],⟨Aa,anv⟩,[]⟩)),(34,(.j ⟨[4,5,15,27],[6,7,8,12,51],⟨Aa,anv⟩,[]⟩))]⟩
def Ky:cA:=cn nK gY
def zM:FT:=⟨⟨[.d Hy],[]⟩,⟨[.agg [.csl 0 2 3,.d aL,.d qd,.d (.sl ik)]],[.cells 176 [.d aL,.row 1,.d aL,.row 2,.d aL,.row 3],.rows 3 J aL,.rows 3 J aL,.rows 3 J aL]⟩,dT [(7,(.j ⟨[],[1,2,3],⟨[.ptr 0 0,.ptr 1 0,.csl 2 2 3],[.cells 96 [.d Hy],.cells 96 Cl,.cells 176 [.d aL,.row 3,.d aL,.row 4,.d aL,.row 5],.rows 3 J aL,.rows 3 J aL,.rows 3 J aL]⟩,[.cel 3 1 3 aL,.cel 3 3 3 aL,.cel 3 5 3 aL]⟩)),(8,(.u 4))]⟩
def Kw:cA:=cn zM nD
def zN:FT:=⟨⟨[.d oG,.d Hy,.d aL,.d aL,.d aL,.d aL],[]⟩,⟨[.d Hy,.d aL,.d .bool],[]⟩,dT [(17,(.j ⟨[],[7,12,15],⟨xX,[.cells 96 [.csl 2 2 3,.d aL,.d qd,.d (.sl ik)],.cells 96 Cl,.cells 176 [.d eh,.d eh,.d aL,.row 3],.rowsP 3 aL]⟩,[]⟩)),(26,(.j ⟨[4,5,15,27],[6,7,8,12,42],⟨Aa,[.cells 31 [.d oG],.cells 96 [.csl 4 2 3,.d aL,.d qd,.d (.sl ik)],.cells 3 [.d aL],.cells 96 Cl,.cells 176 [.d aL,.row 5,.d aL,.row 6,.d aL,.row 7],.rows 3 J aL,.rows 3 J aL,.rows 3 J aL]⟩,[]⟩)),(33,(.s 4 0 0 0)),(34,(.j ⟨[4,5,15,27],[6,7,8,12,51],⟨Aa,[.cells 31 [.d oG],.cells 96 [.csl 4 2 3,.d aL,.d qd,.d (.sl ik)],.cells 3 [.d aL],.cells 96 Cl,.cells 176 [.d aL,.d (.sl aL),.d aL,.d (.sl aL),.d aL,.row 5],.rows 3 J aL]⟩,[]⟩)),(41,(.s 4 0 0 0)),(46,(.s 4 0 0 3)),(53,(.s 4 0 0 3)),(74,(.s 4 0 0 0)),(80,(.s 4 0 0 0)),(100,(.a [.pk 7 0 eh]))]⟩
def Kx:cA:=cn zN li
def Md:cA:=cn nK rZ
def wQ:FT:=⟨⟨[.d oG,.d iY,.d jE],[]⟩,⟨[.d iY,.d .bool],[]⟩,dT [(3,(.j ⟨[],[3,4,5,6,39],⟨Aa,K5⟩,[]⟩)),(11,(.j ⟨[],[3,4,5,6,70],⟨Aa,K5⟩,[]⟩)),(20,(.j ⟨[],[3,4,5,6,8],⟨[.ptr 0 0,.ptr 1 0,.ptr 2 0,.ptr 3 0,.d aL],K5⟩,[]⟩)),(41,(.j ⟨[],[5,6,12],⟨akd,akh⟩,[]⟩))]⟩
def Fg:cA:=cn wQ fV
def uI:FT:=⟨⟨[.d mH],[]⟩,⟨vP,[]⟩,dT [(26,(.j ⟨[27,28],[1,4,5,29],⟨[.ptr 0 0,.ptr 1 0,.csl 2 1 1,.d aL],[.cells 34 [.d mH],.cells 99 [.d iY],.cells 93 [.row 3],.rows 4 J .bool]⟩,[.cel 5 0 4 .bool]⟩)),(40,(.j ⟨[6,27,28,29],[1,4,5,7,8,53],⟨[.ptr 0 0,.ptr 1 0,.csl 2 1 1,.ptr 3 0,.ptr 4 0,.d .bool],[.cells 34 [.d mH],.cells 99 [.d iY],.cells 93 [.row 5],.cells 57 [.d jE],.cells 99 [.d iY],.rows 4 J .bool]⟩,[]⟩)),(41,(.s 7 0 0 1)),(47,(.j ⟨[27,28,29],[1,4,5,8],⟨[.ptr 0 0,.ptr 1 0,.csl 2 1 1,.ptr 3 0],[.cells 34 [.d mH],.cells 99 [.d iY],.cells 93 [.row 4],.cells 99 [.d iY],.rows 4 J .bool]⟩,[]⟩)),(48,(.s 7 0 0 1))]⟩
def Cf:cA:=cn uI ey
def uH:FT:=⟨⟨[.d mH],[]⟩,⟨vP,[]⟩,dT [(26,(.j ⟨[27,28],[1,4,5,29],⟨[.ptr 0 0,.ptr 1 0,.csl 2 1 2,.d aL],[.cells 34 [.d mH],.cells 99 [.d iY],.cells 93 [.row 3,.row 4],.rows 4 J .bool,.rows 4 J .bool]⟩,[.cel 5 0 4 .bool,.cel 5 1 4 .bool]⟩)),(40,(.j ⟨[6,27,28,29],[1,4,5,7,8,53],⟨[.ptr 0 0,.ptr 1 0,.csl 2 1 2,.ptr 3 0,.ptr 4 0,.d .bool],[.cells 34 [.d mH],.cells 99 [.d iY],.cells 93 [.row 5,.row 6],.cells 57 [.d jE],.cells 99 [.d iY],.rows 4 J .bool,.rows 4 J .bool]⟩,[]⟩)),(41,(.s 7 0 0 2)),(47,(.j ⟨[27,28,29],[1,4,5,8],⟨[.ptr 0 0,.ptr 1 0,.csl 2 1 2,.ptr 3 0],[.cells 34 [.d mH],.cells 99 [.d iY],.cells 93 [.row 4,.row 5],.cells 99 [.d iY],.rows 4 J .bool,.rows 4 J .bool]⟩,[]⟩)),(48,(.s 7 0 0 2))]⟩
def Ce:cA:=cn uH dv
def uG:FT:=⟨⟨[.d mH],[]⟩,⟨vP,[]⟩,dT [(26,(.j ⟨[27,28],[1,4,5,29],⟨[.ptr 0 0,.ptr 1 0,.csl 2 1 3,.d aL],[.cells 34 [.d mH],.cells 99 [.d iY],.cells 93 [.row 3,.row 4,.row 5],.rows 4 J .bool,.rows 4 J .bool,.rows 4 J .bool]⟩,[.cel 5 0 4 .bool,.cel 5 1 4 .bool,.cel 5 2 4 .bool]⟩)),(40,(.j ⟨[6,27,28,29],[1,4,5,7,8,53],⟨[.ptr 0 0,.ptr 1 0,.csl 2 1 3,.ptr 3 0,.ptr 4 0,.d .bool],[.cells 34 [.d mH],.cells 99 [.d iY],.cells 93 [.row 5,.row 6,.row 7],.cells 57 [.d jE],.cells 99 [.d iY],.rows 4 J .bool,.rows 4 J .bool,.rows 4 J .bool]⟩,[]⟩)),(41,(.s 7 0 0 3)),(47,(.j ⟨[27,28,29],[1,4,5,8],⟨[.ptr 0 0,.ptr 1 0,.csl 2 1 3,.ptr 3 0],[.cells 34 [.d mH],.cells 99 [.d iY],.cells 93 [.row 4,.row 5,.row 6],.cells 99 [.d iY],.rows 4 J .bool,.rows 4 J .bool,.rows 4 J .bool]⟩,[]⟩)),(48,(.s 7 0 0 3))]⟩
def Cd:cA:=cn uG dL
def eZ:FT:=⟨⟨[.d mH],[]⟩,⟨vP,[]⟩,dT [(26,(.j ⟨[27,28],[1,4,5,29],⟨[.ptr 0 0,.ptr 1 0,.csl 2 1 4,.d aL],[.cells 34 [.d mH],.cells 99 [.d iY],.cells 93 [.row 3,.row 4,.row 5,.row 6],.rows 4 J .bool,.rows 4 J .bool,.rows 4 J .bool,.rows 4 J .bool]⟩,[.cel 5 0 4 .bool,.cel 5 1 4 .bool,.cel 5 2 4 .bool,.cel 5 3 4 .bool]⟩)),(40,(.j ⟨[6,27,28,29],[1,4,5,7,8,53],⟨[.ptr 0 0,.ptr 1 0,.csl 2 1 4,.ptr 3 0,.ptr 4 0,.d .bool],[.cells 34 [.d mH],.cells 99 [.d iY],.cells 93 [.row 5,.row 6,.row 7,.row 8],.cells 57 [.d jE],.cells 99 [.d iY],.rows 4 J .bool,.rows 4 J .bool,.rows 4 J .bool,.rows 4 J .bool]⟩,[]⟩)),(41,(.s 7 0 0 4)),(47,(.j ⟨[27,28,29],[1,4,5,8],⟨[.ptr 0 0,.ptr 1 0,.csl 2 1 4,.ptr 3 0],[.cells 34 [.d mH],.cells 99 [.d iY],.cells 93 [.row 4,.row 5,.row 6,.row 7],.cells 99 [.d iY],.rows 4 J .bool,.rows 4 J .bool,.rows 4 J .bool,.rows 4 J .bool]⟩,[]⟩)),(48,(.s 7 0 0 4))]⟩
def Cc:cA:=cn eZ ep
def DS:cA:=cn eZ mI
def Kg:FT:=⟨⟨[.d mH],[]⟩,⟨[.d vR,.d aL],[]⟩,dT [(20,(.j ⟨[25,26],[1,6,7,27],⟨[.ptr 0 0,.ptr 1 0,.row 2,.d aL],[.cells 34 [.d mH],.cells 78 [.d Kd0],.rows 36 af (.sl aL)]⟩,[]⟩))]⟩
def VP:cA:=cn Kg nE
def Nn:FT:=⟨⟨[.d mH],[]⟩,⟨[.d (.sl il),.d aL],[]⟩,dT [(20,(.j ⟨[4,6,23],[1,7,24],⟨PI,agl⟩,[.nil 7 67 il]⟩)),(34,(.j ⟨[4,6,8,23,24,27],[1,7,28],⟨PI,agl⟩,[]⟩)),(42,(.j ⟨[4,6,8,23,24,27,28],[1,7],⟨[.ptr 0 0,.row 1],agl⟩,[]⟩)),(45,(.j ⟨[4,6,8,9,23,24,27,28],[1,7,46],⟨[.ptr 0 0,.row 1,.d .bool],agl⟩,[]⟩))]⟩
def YU:cA:=cn Nn rF
theorem tZ:aH Pg 33 YX:=mk No gJ an b9
theorem QD x:lE (lM x) (ze x):=by
 unfold lM ze vo ck bx bH aV cP aE cG;with_reducible repeat' first|(refine OI.o ?_;constructor)|intro _
theorem Rk:aH Pg 67 SJ:=yP GV lM ze QD (ac tZ an) b9
theorem af2:aH Pg 56 afm:=mk Xk HR an b9
theorem af8:aH Pg 102 D2:=mk Xr Og an b9
theorem abd:aH Pg 102 aji:= @aH.sub Pg 102 D2.pre D2.post Og B1 af8 rfl (λx y h=>rS (b:=8) x y h)
theorem Uj x:lE (iB x) (BS x):=by
 unfold iB BS xC ck bx xi bH aV cP aE cG;with_reducible repeat' first|(refine OI.o ?_;constructor)|intro _
theorem UW:aH Pg 103 VK:=yP Kc iB BS Uj (ac abd an) b9
theorem ab9:aH Pg 102 zX:=mk RO IQ an b9
theorem OK:aH Pg 102 afz:= @aH.sub Pg 102 zX.pre zX.post IQ o9 ab9 rfl (λx y h=>rS (b:=8) x y h)
theorem UX:aH Pg 64 VM:=mk Kd uo (ac OK (ac UW an)) b9
theorem Yg:aH Pg 66 YR:=mk Nk tW an b9
theorem UZ:aH Pg 65 VO:=mk Kf ur (ac Yg an) b9
theorem X2 x:lE (pR x) (EA x):=by
 unfold pR EA Aq aY bm bz cH eC kP qf ck bx bH aV cP aE cG;with_reducible repeat' first|(refine OI.o ?_;constructor)|intro _
theorem Yi:aH Pg 30 YT:=yP Nm pR EA X2 an b9
theorem Rj:aH Pg 68 SH:=mk GU sG an b9
theorem ab8:aH Pg 102 ac5:=mk wW wC an b9
theorem W7:aH Pg 102 afy:= @aH.ro Pg 102 wW.pre wW.post.vs wC vg (ab8.holds rfl) rfl (λx _ h=>by rw[show vg x=av (wC x) λy=>same y.2 x (M y.1) from gR (av _) (funext λ_=>Qk ..)]at h;exact h)
theorem aep x:lE (tK x) (Oc x):=by
 unfold tK Oc H0 ck bx bH aV cP aE cG;with_reducible repeat' first|(refine OI.o ?_;constructor)|intro _
theorem af5:aH Pg 67 afw:=yP Av tK Oc aep (ac tZ an) b9
theorem ab5:aH Pg 67 ajh:= @aH.ro Pg 67 Av.pre Av.post.vs tK BZ (af5.holds rfl) rfl (λx _ h=>by rw[show BZ x=av (tK x) λy=>same y.2 x.2 (M y.1) from gR (av _) (funext λ_=>Qk ..)]at h;exact h)
theorem UU:aH Pg 104 VG:=mk Ka l9 (ac ab5 an) b9
theorem ab3:aH Pg 105 ac0:=mk RI ww (ac W7 an) b9
theorem X1 x:lE (rE x) (Ez x):=by
 unfold rE Ez Ap Ed Prod.p11 Prod.p12 Prod.p13 Prod.p14 Prod.p15 Prod.p16 Prod.p17 aY bm bz cH eC kP Ae Ct Prod.q10 Prod.q16 Prod.q17 Prod.q18 cY lP Prod.q9 ck bg bx jI xi bH aV cP aE cG;with_reducible repeat' first|(refine OI.o ?_;constructor)|intro _
theorem Yh:aH Pg 69 YS:=yP Nl rE Ez X1 (ac ab5 (ac W7 (ac UU (ac ab3 an)))) b9
theorem aaa x:lE (sF x) (II x):=by
 unfold sF II De Ed Prod.p11 aY bm bz cH eC kP Ae Ct Prod.q11 Prod.q12 cY fo qf Prod.q9 ck bx xi bH aV cP cG;with_reducible repeat' first|(refine OI.o ?_;constructor)|intro _
theorem ab4:aH Pg 31 ac1:=yP RJ sF II aaa (ac UX (ac UZ (ac Rk (ac Rj (ac Yh an))))) b9
theorem aa5 x:lE (wg x) (IH x):=by
 unfold wg IH Jn bx aV cP aE cG;with_reducible repeat' first|(refine OI.o ?_;constructor)|intro _
theorem ab0:aH Pg 55 abr:=yP RE wg IH aa5 (ac af2 an) b9
theorem X_:aH Pg 25 YA:=mk M8 EC (ac ab0 an) b9
theorem Ew x:lE (k9 x) (rm x):=by
 unfold k9 rm rL Ed Prod.p11 Prod.p12 Prod.p13 Prod.p14 Prod.p15 Prod.p16 Prod.p17 Prod.p18 Prod.p19 aY Prod.p20 bm bz cH eC kP Ae Ct Prod.q21 bx bH cP aE cG;with_reducible repeat' first|(refine OI.o ?_;constructor)|intro _
theorem EQ:aH Pg 166 Fh:=yP wR k9 rm Ew an b9
theorem Lt x:lE (oL x) (vE x):=by
 unfold oL vE vL bg bx jI bH aV cP aE;with_reducible repeat' first|(refine OI.o ?_;constructor)|intro _
theorem LD:aH Pg 133 LZ:=yP Bb oL vE Lt (ac EQ an) b9
theorem Un x:lE (rG x) (BV x):=by
 unfold rG BV xI bg bx bM aV cP aE cG;with_reducible repeat' first|(refine OI.o ?_;constructor)|intro _
theorem U1:aH Pg 198 VV:=yP Ki rG BV Un an b9
theorem LW:aH Pg 167 Mk:=mk Bt kJ (ac U1 an) b9
theorem vK:aH Pg 34 Mj:=mk Bs eQ (ac tZ an) b9
theorem UY:aH Pg 70 VN:=mk Ke uq an b9
theorem OG:aH Pg 37 Pn:=mk DL qA (ac UY an) b9
theorem Ui x:lE (pB x) (BR x):=by
 unfold pB BR xB ck bx bH bM aV cP aE cG;with_reducible repeat' first|(refine OI.o ?_;constructor)|intro _
theorem UV:aH Pg 36 VH:=yP Kb pB BR Ui an b9
theorem Hd:aH Pg 134 Hq:=mk yB sU an b9
theorem He:aH Pg 92 Hr:=mk yC sV (ac Hd an) b9
theorem AE x:lE (h_ x) (oB x):=by
 unfold h_ oB oF aY bm bz cH dx fo bg bx iU bH bM aV cP aE cG;with_reducible repeat' first|(refine OI.o ?_;constructor)|intro _
theorem AL:aH Pg 90 AT:=yP tw h_ oB AE an b9
theorem AD x:lE (dQ x) (oA x):=by
 unfold dQ oA oE aY bm bz bx bH bM lG aV cP aE cG;with_reducible repeat' first|(refine OI.o ?_;constructor)|intro _
theorem AK:aH Pg 91 AS:=yP tu dQ oA AD (ac LD an) b9
theorem AC x:lE (gd x) (oz x):=by
 unfold gd oz kU aY bm cH cY bx iU bM aV cP aE cG;with_reducible repeat' first|(refine OI.o ?_;constructor)|intro _
theorem AJ:aH Pg 93 AQ:=yP tm gd oz AC an b9
theorem AF x:lE (dR x) (oC x):=by
 unfold dR oC kV aY bm cH cY bx bM aV cP aE cG;with_reducible repeat' first|(refine OI.o ?_;constructor)|intro _
theorem kT:aH Pg 59 AU:=yP tB dR oC AF (ac AL (ac AK (ac He (ac AJ an)))) b9
theorem Lw x:lE (oO x) (vG x):=by
 unfold oO vG vM aY bm bz bL dx cY ck bx bH aV cP aE cG;with_reducible repeat' first|(refine OI.o ?_;constructor)|intro _
theorem LP:aH Pg 94 Mc:=yP Bm oO vG Lw an b9
theorem CQ x:lE (dt x) (ql x):=by
 unfold dt ql qF aY bm bz dx bx bH bM aV cP aE cG;with_reducible repeat' first|(refine OI.o ?_;constructor)|intro _
theorem mJ:aH Pg 60 DR:=yP vq dt ql CQ (ac LP an) b9
theorem yZ x:lE (co x) (mZ x):=by
 unfold co mZ kA eC lP bx jI bH bM aV cP aE cG;with_reducible repeat' first|(refine OI.o ?_;constructor)|intro _
theorem kz:aH Pg 62 zR:=yP sL co mZ yZ an b9
theorem uw:aH Pg 136 Ku:=mk zK e_ an b9
theorem Hc:aH Pg 137 Hm:=mk yr mh (ac uw an) b9
theorem N9 x:lE (kw x) (xu x):=by
 unfold kw xu tM aY bm bz dx bx iU bM aV cP aE cG;with_reducible repeat' first|(refine OI.o ?_;constructor)|intro _
theorem C_:aH Pg 135 Pc:=yP DG kw xu N9 (ac uw an) b9
theorem LN:aH Pg 138 Ma:=mk Bk oN (ac LW an) b9
theorem sW:aH Pg 96 Hn:=mk yw jm (ac C_ (ac uw (ac Hc (ac LN an)))) b9
theorem EP:aH Pg 95 Ff:=mk wP kZ (ac C_ an) b9
theorem B4:aH Pg 97 Cb:=mk uF jJ an b9
theorem xt x:lE (eY x) (lZ x):=by
 unfold eY lZ jx aY bm bz cH bL dx fo bg bx jI bH bM aV cP aE cG;with_reducible repeat' first|(refine OI.o ?_;constructor)|intro _
theorem xy:aH Pg 98 xS:=yP qL eY lZ xt an b9
theorem BJ x:lE (gB x) (pi x):=by
 unfold gB pi ma aY bm bz cH bL bg bx bM aV cP aE cG;with_reducible repeat' first|(refine OI.o ?_;constructor)|intro _
theorem B3:aH Pg 99 Ca:=yP uE gB pi BJ an b9
theorem AY:aH Pg 173 L_:=mk Bj mC an b9
theorem abc:aH Pg 168 zY:=mk RP IU an b9
theorem af7:aH Pg 168 ag0:= @aH.sub Pg 168 zY.pre zY.post IU Of abc rfl (λx y h=>rS (b:=1) x y h)
theorem Yn:aH Pg 168 w7:=mk Ns EI an b9
theorem abb:aH Pg 168 ac7:= @aH.sub Pg 168 w7.pre w7.post EI IR Yn rfl (λx y h=>rS (b:=1) x y h)
theorem ab7:aH Pg 169 zW:=mk RN IP an b9
theorem af6:aH Pg 169 afx:= @aH.sub Pg 169 zW.pre zW.post IP Oe ab7 rfl (λx y h=>rS (b:=24) x y h)
theorem Yl:aH Pg 169 wY:=mk Nq EG an b9
theorem ab6:aH Pg 169 ac4:= @aH.sub Pg 169 wY.pre wY.post EG IL Yl rfl (λx y h=>rS (b:=24) x y h)
theorem Ym:aH Pg 101 wZ:=mk Nr EH an b9
theorem aba:aH Pg 101 ac6:= @aH.sub Pg 101 wZ.pre wZ.post EH zj Ym rfl (λx y h=>rS (b:=8) x y h)
theorem Lv x:lE (kH x) (vF x):=by
 unfold kH vF sd aY bL ck bx bH bM aV cP cG;with_reducible repeat' first|(refine OI.o ?_;constructor)|intro _
theorem LO:aH Pg 139 Mb:=yP Bl kH vF Lv (ac abd (ac abb (ac ab6 an))) b9
theorem IC x:lE (jO x) (ud x):=by
 unfold jO ud qI aY bm bL ck bx jI lG aV cP aE cG;with_reducible repeat' first|(refine OI.o ?_;constructor)|intro _
theorem Je:aH Pg 144 Kv:=yP zL jO ud IC (ac AY an) b9
theorem CR x:lE (gX x) (qm x):=by
 unfold gX qm mL aY bm bL dx ck bx lG aV cP aE cG;with_reducible repeat' first|(refine OI.o ?_;constructor)|intro _
theorem C9:aH Pg 145 DW:=yP vu gX qm CR (ac AY an) b9
theorem Jl:aH Pg 226 KF:=mk zP qC an b9
theorem LV:aH Pg 205 Mi:=mk Br vI (ac Jl an) b9
theorem EZ:aH Pg 209 Fn:=mk wV rC an b9
theorem Ji:aH Pg 171 Kz:=mk zO um (ac EZ an) b9
theorem uO x:lE (fY x) (kf x):=by
 unfold fY kf kg ck bx lG cP aE cG;with_reducible repeat' first|(refine OI.o ?_;constructor)|intro _
theorem uP:aH Pg 199 uR:=yP ox fY kf uO (ac LV an) b9
theorem AB x:lE (js x) (oy x):=by
 unfold js oy oD aY bm bg jI bH aE;with_reducible repeat' first|(refine OI.o ?_;constructor)|intro _
theorem AH:aH Pg 170 AO:=yP tj js oy AB (ac uP an) b9
theorem Yk:aH Pg 140 YY:=mk Np wB (ac AH (ac Ji an)) b9
theorem Oa x:lE (l_ x) (xv x):=by
 unfold l_ xv xJ bg bx bH lG aV cP aE cG;with_reducible repeat' first|(refine OI.o ?_;constructor)|intro _
theorem OJ:aH Pg 141 Pt:=yP DQ l_ xv Oa an b9
theorem yg:aH Pg 143 Ho:=mk yz o8 an b9
theorem IF x:lE (nF x) (ue x):=by
 unfold nF ue uC bx lG aV cP aE cG;with_reducible repeat' first|(refine OI.o ?_;constructor)|intro _
theorem Jm:aH Pg 172 KH:=yP zQ nF ue IF (ac yg an) b9
theorem G6 x:lE (jp x) (sT x):=by
 unfold jp sT sY ck bg bx bH lG aV cP aE cG;with_reducible repeat' first|(refine OI.o ?_;constructor)|intro _
theorem Hf:aH Pg 142 Hs:=yP yD jp sT G6 (ac yg (ac Jm an)) b9
theorem Jh:aH Pg 100 Ky:=mk nK gY (ac sW (ac LO (ac Je (ac C9 an)))) b9
def tv2 (t:TypeId):I Ty:=if aA t 176 then M (.pr .un (.pr .un (.pr .un (.pr .un eh)))) else b9 t
theorem Jf:aH Pg 139 Kw:=mk zM nD (ac OK (ac af7 (ac af6 an))) tv2
theorem Jg:aH Pg 100 Kx:=mk zN li (ac sW (ac Jf (ac Yk (ac OJ (ac Hf an))))) tv2
theorem LQ:aH Pg 100 Md:=(aH.orE (pre:=nK.pre) (post:=nK.post) (m:=gY) (m':=li) rfl Jh Jg)
theorem oa:aH Pg 61 Fg:=mk wQ fV (ac EP (ac sW (ac B4 (ac xy (ac B3 (ac LQ (ac aba (ac OK an)))))))) b9
def tv3 (t:TypeId):I Ty:=if aA t 93 then M (.pr .un (.pr .un qd)) else b9 t
theorem BO x:lE (ey x) (pn x):=by
 unfold ey pn mb aY bm bz bL cY bg bx bH bM aV cP aE cG;with_reducible repeat' first|(refine OI.o ?_;constructor)|intro _
theorem B8:aH Pg 29 Cf:=yP uI ey pn BO (ac kT (ac mJ (ac oa (ac kz an)))) tv3
def tv4 (t:TypeId):I Ty:=if aA t 93 then M (.pr .un (.pr .un (.pr .un qd))) else b9 t
theorem BN x:lE (dv x) (pm x):=by
 unfold dv pm jU aY bm bz cH bL dx fo bg bx bH bM aV cP aE cG;with_reducible repeat' first|(refine OI.o ?_;constructor)|intro _
theorem B7:aH Pg 29 Ce:=yP uH dv pm BN (ac kT (ac mJ (ac oa (ac kz an)))) tv4
def tv5 (t:TypeId):I Ty:=if aA t 93 then M (.pr .un (.pr .un (.pr .un (.pr .un qd)))) else b9 t
theorem BL x:lE (dL x) (pl x):=by
 unfold dL pl jT aY bm bz cH eC bL cY fo lP bg bx bH bM aV cP aE cG;with_reducible repeat' first|(refine OI.o ?_;constructor)|intro _
theorem B6:aH Pg 29 Cd:=yP uG dL pl BL (ac kT (ac mJ (ac oa (ac kz an)))) tv5
def tv6 (t:TypeId):I Ty:=if aA t 93 then M (.pr .un (.pr .un (.pr .un (.pr .un (.pr .un qd))))) else b9 t
theorem BK x:lE (ep x) (pj x):=by
 unfold ep pj jS aY bm bz cH eC kP bL fo lP qf bg bx bH bM aV cP aE cG;with_reducible repeat' first|(refine OI.o ?_;constructor)|intro _
theorem B5:aH Pg 29 Cc:=yP eZ ep pj BK (ac kT (ac mJ (ac oa (ac kz an)))) tv6
theorem C6:aH Pg 29 DS:=(aH.orE (pre:=eZ.pre) (post:=eZ.post) (m:=ep) (m':=(λx=>orE (dL x) ((λx=>orE (dv x) (ey x)) x))) rfl B5 (aH.orE (pre:=eZ.pre) (post:=eZ.post) (m:=dL) (m':=(λx=>orE (dv x) (ey x))) rfl B6 (aH.orE (pre:=eZ.pre) (post:=eZ.post) (m:=dv) (m':=ey) rfl B7 B8)))
theorem Uk x:lE (nE x) (BT x):=by
 unfold nE BT xD aY bL ck bx iU bH bM aV cP aE cG;with_reducible repeat' first|(refine OI.o ?_;constructor)|intro _
theorem Jk:aH Pg 15 VP:=yP Kg nE BT Uk (ac C6 (ac Yi (ac ab4 an))) b9
theorem X3 x:lE (rF x) (EB x):=by
 unfold rF EB Ar bx iU bH bM aV cP aE cG;with_reducible repeat' first|(refine OI.o ?_;constructor)|intro _
theorem Yj:aH Pg 19 YU:=yP Nn rF EB X3 (ac Jk (ac vK (ac UV (ac OG an)))) b9
abbrev Lg9:Y PV:=[.d (.sl aL),.d (.sl aL),.d (.sl aL),.d (.sl aL),.d (.sl aL)]
abbrev Lg0:Y PB:=[.cells 34 [.d mH],.cells D Lg9,.rows 3 af aL,.rows 52 af Kg0]
abbrev Lg1:Y PV:=[.d aL,.d aL,.d aL,.d aL,.nil]
abbrev Lg2:Y PB:=[.cells 34 [.d mH],.cells D [.row 2,.row 3,.row 4,.row 5,.row 6],.rows 3 J aL,.rows 3 J aL,.rows 3 J aL,.rows 3 J aL,.rows 3 J aL]
abbrev Lg5:Y PV:=[.d Kg0,.d (.sl aL),.d aL]
abbrev Lg7:Y PB:=[.cells 34 [.d mH]]
def Kh:FT:=⟨⟨agk,[]⟩,⟨[.d .bool],[]⟩,dT [(6,(.j ⟨[0,1,10],[11],⟨[.d aL],[]⟩,[]⟩))]⟩
def VU:cA:=cn Kh pD
def Bp:FT:=⟨⟨[.d aL],[]⟩,⟨[.d .bool],[]⟩,dT [(2,(.j ⟨[],[2],⟨[.d .bool],[]⟩,[]⟩))]⟩
def Mg:cA:=cn Bp gV
def GR:FT:=⟨⟨Lg5,[]⟩,⟨[.d Kg0,.d .bool],[]⟩,dT [(3,(.j ⟨[1,2],[3,6,26],⟨qc,[.cells 52 [.d Kg0],.cells 52 Lg1]⟩,[]⟩)),(24,(.j ⟨[1,2,8],[3,6,9,83],⟨Cm,[.cells 52 [.d Kg0],.cells 52 Lg1,.cells 52 Lg1]⟩,[]⟩))]⟩
def SA:cA:=cn GR lK
def DM:FT:=⟨⟨Lg5,[]⟩,⟨[.d Kg0,.d .bool],[]⟩,dT [(3,(.j ⟨[1,2],[3,6,25],⟨qc,[.cells 52 [.d Kg0],.cells 52 Lg1]⟩,[]⟩)),(10,(.j ⟨[1,2],[6,8],⟨hP,[.cells 52 Lg1]⟩,[]⟩))]⟩
def Pp:cA:=cn DM kx
def Bq:FT:=⟨⟨[.d mH],[]⟩,⟨[.d (.sl aL),.d (.sl Kg0),.d aL],[]⟩,dT [(14,(.j ⟨[5],[1,7],⟨[.ptr 0 0,.mp 1],[.cells 34 [.d mH],.cells D Lg9]⟩,[.mz 7 5]⟩)),(18,(.j ⟨[5,28,29],[1,7,30],⟨[.ptr 0 0,.mp 1,.d aL],Lg2⟩,[.mz 7 5,.cel 7 0 3 aL,.cel 7 1 3 aL,.cel 7 2 3 aL,.cel 7 3 3 aL,.cel 7 4 3 aL]⟩)),(26,(.j ⟨[5,28,29,30],[1,7],⟨[.ptr 0 0,.mp 1],Lg2⟩,[.mz 7 5]⟩)),(29,(.j ⟨[5,8,28,29,30],[1,7,9,42],⟨[.ptr 0 0,.mp 1,.ptr 2 0,.d .bool],[.cells 34 [.d mH],.cells D [.row 3,.row 4,.row 5,.row 6,.row 7],.cells 57 [.d jE],.rows 3 J aL,.rows 3 J aL,.rows 3 J aL,.rows 3 J aL,.rows 3 J aL]⟩,[.mz 7 5]⟩)),(32,(.s 9 2 0 5)),(43,(.j ⟨[5,66,67],[1,7,10,11,68],⟨[.ptr 0 0,.mp 1,.row 2,.row 3,.d aL],Lg0⟩,[.mz 7 5]⟩)),(51,(.j ⟨[5,66,67,68],[1,7,10,11],⟨[.ptr 0 0,.mp 1,.row 2,.row 3],Lg0⟩,[.mz 7 5]⟩)),(62,(.j ⟨[5,12,66,67,68],[1,7,10,11,80,81,82],⟨[.ptr 0 0,.mp 1,.row 2,.row 3,.d (.sl aL),.d aL,.d aL],Lg0⟩,[.mz 7 5]⟩)),(63,(.s 12 0 0 5)),(65,(.j ⟨[5,12,66,67,68,80,81],[1,7,10,11,82],⟨[.ptr 0 0,.mp 1,.row 2,.row 3,.d aL],Lg0⟩,[.mz 7 5]⟩)),(73,(.j ⟨[5,12,66,67,68,80,81,82],[1,7,10,11],⟨[.ptr 0 0,.mp 1,.row 2,.row 3],Lg0⟩,[.mz 7 5]⟩)),(78,(.j ⟨[5,12,15,66,67,68,80,81,82],[1,7,10,11,16],⟨[.ptr 0 0,.mp 1,.row 2,.row 3,.d .bool],Lg0⟩,[.mz 7 5]⟩)),(86,(.j ⟨[5,12,15,66,67,68,80,81,82],[1,7,10,11,135],⟨[.ptr 0 0,.mp 1,.row 2,.row 3,.d .bool],Lg0⟩,[.mz 7 5]⟩))]⟩
def Mh:cA:=cn Bq oS
def DN:FT:=⟨⟨[.d mH],[]⟩,⟨Hw,[]⟩,.leaf⟩
def Pq:cA:=cn DN qB
def DJ:FT:=⟨⟨[],[]⟩,⟨[.d .bool],[]⟩,dT [(10,(.j ⟨[],[0],⟨[.d .bool],[]⟩,[]⟩))]⟩
def Pk:cA:=cn DJ tI
def uJ:FT:=⟨⟨[.d Kg1],[]⟩,⟨[.d .bool],[]⟩,dT [(9,(.j ⟨[4,6],[3,38],⟨hP,Lg7⟩,[]⟩)),(20,(.j ⟨[4,6,42],[3,43],⟨uT,Lg7⟩,[]⟩)),(37,(.j ⟨[4,6,8,42,43,46,47],[3,9,48],⟨NC,Lg7⟩,[]⟩)),(45,(.j ⟨[4,6,8,42,43,46,47,48],[3,9],⟨uT,Lg7⟩,[]⟩)),(48,(.j ⟨[4,6,8,9,42,43,46,47,48],[3,11,83],⟨qc,[.cells 34 [.d mH],.cells 67 [.d il]]⟩,[]⟩))]⟩
def Cg:cA:=cn uJ jP
theorem Ul x:lE (pD x) (BU x):=by
 unfold pD BU xG bx aV cP aE cG;with_reducible repeat' first|(refine OI.o ?_;constructor)|intro _
theorem U0:aH Pg 35 VU:=yP Kh pD BU Ul (ac tZ an) b9
theorem AZ:aH Pg 32 Mg:=mk Bp gV an b9
theorem F4:aH Pg 17 SA:=mk GR lK (ac AZ (ac tZ (ac vK an))) b9
theorem Dd:aH Pg 18 Pp:=mk DM kx (ac AZ (ac tZ (ac vK (ac U0 an)))) b9
theorem LU:aH Pg 22 Mh:=mk Bq oS (ac Jk (ac F4 (ac Dd an))) b9
theorem OH:aH Pg 8 Pq:=mk DN qB (ac LU an) b9
theorem OF:aH Pg 11 Pk:=mk DJ tI (ac F4 (ac Dd (ac X_ an))) b9
theorem hlaw24_EpochAgrees:aH Pg 6 Cg:=mk uJ jP (ac ER (ac OH (ac OF (ac Yj an)))) b9
theorem run_law {P:Program} {f:FuncId} {pre:Tm} {m:pre.ty.den->I (Tm.ty ⟨[.d .bool],[]⟩).den} (sp:pZ P f ⟨pre,⟨[.d .bool],[]⟩,m⟩) (h0:pre.bs.length=0) {x:pre.ty.den} (a:m x=M J) {vs:Y TV} {hp:bi} (hi:C5 pre x=M (vs,hp)) {la:Y AV} (hla:cJ hp vs=M la)
 {W:World} {us:ξ} (hg:∀g cells,G g=M cells->nM (λ_=>False) W (.ptr cells 0) (.pointer (M ⟨g,0,D⟩))) (hrel:kh (λ_=>D) (λ_=>False) W la us):
 Calls P f us.toArray W λe w'=>e= .returned (.bool J)/\Below W.heap.size W w':=by
 obtain⟨l1,y⟩:=wG hi;obtain⟨l2,z⟩:=wG (t:=⟨[.d .bool],[]⟩) (x:=J) (vs:=[.f .bool J]) (h1:=PT.leaf) rfl;have hn:bu hp=λ_=>D:=by
  funext n;cases hb:bu hp n with
  |none=>rfl
  |some b=>
   obtain⟨i,c,rfl,h1,_⟩:=jD hb;have:=y.lt_len h1;omega
 have own0:∀(φ:PM) k,¬own φ (bu hp) k:=by rintro φ k ⟨i,b,h1,_⟩;rw[hn]at h1;cases h1
 have htot:tot (λ_=>False) (λ_=>D) (bu hp)=λ_=>False:=by
  funext k;exact propext ⟨λh=>h.elim id λh=>bZ h (own0 _ k),λh=>h.elim⟩
 refine Calls.mono (sp.calls x J a vs hp l1 _ PT.leaf l2 la _ y z hla rfl (λ_=>D) (λ_=>False) W us ⟨(λi j b b' k h1=>by rw[hn]at h1;cases h1),(λi b h1=>by rw[hn]at h1;cases h1),(λk h=>h.elim),(λg cells h=>by rw[htot];exact hg g cells h)⟩ (by rw[htot];exact hrel) (λn k h=>by cases h)) ?_;rintro en w' ⟨v,φ',rfl,he,_,_,_,hv⟩;refine ⟨?_,⟨he.os,he.tape,he.output,he.size,λk hk=>he.blk k hk (own0 _ k)⟩⟩;have hv:cN φ' _ w' (.f (.raw (.bool J))) v:=hv;cases hv with
 |f h=>cases h;rfl
theorem gKw:Tryz.prog.globalNamed "interleave/token.keywords" =M 0:=by kernel_rfl
theorem tKw:(Tryz.prog.globals[0]?).map (·.type)=M 278:=by kernel_rfl
theorem kw_of_laid {W:World} (h:laidMetH Tryz.prog [("interleave/token.keywords",Rows.laid_interleave_token_keywords)] W):∀g cells,G g=M cells→nM (λ_=>False) W (.ptr cells 0) (.pointer (M ⟨g,0,D⟩)):=by
 intro g cells z;unfold G at z;split at z
 .rename_i hg;have hg:=eq_of_beq hg;subst hg;cases z;rw[MakeChecks.laidMetH_plain _ _ _ (by kernel_rfl)]at h;obtain⟨ps,⟨g0,t0,cs0,f0,p0,q0,q,L,A,U,_,_⟩,_,_⟩:=h;obtain rfl:=j9 (gKw.symm.trans q);obtain rfl:=j9 (tKw.symm.trans L);obtain⟨xs,m1,rfl,c,hlen,hn,hel⟩:=DataW.trod_array Tryz.underlying278 U;have c1:Tryz.prog.cellsOf 9=1:=by kernel_rfl
  have Z:Tryz.prog.cellsOf 278=22:=by kernel_rfl
  rw[Z]at hlen;simp only[aD,Rows.laid_interleave_token_keywords,DataW.agg.injEq]at c;have hxs:=c.1;have hcell:∀j,j<22→∃l,(xs.map (·.1))[j]? =M (.lit (.string l))∧W.cell? ⟨0,j,D⟩=M (.string ⟨l.toArray⟩):=λj hj=>by
   have h1:=hel j hj;rw[c1,Nat.mul_one]at h1;rw[ay (by omega)]at h1;obtain⟨s,e1,e2,_⟩:=DataW.trod_string Tryz.underlying9 h1;refine ⟨s.data.toList,?_,?_⟩
   .rw[ba,ay (by omega),cj,e2]
   .have:=World.var?_cell q A j;rw[this];have h2:cs0.toList[j]? =M (.string s):=by
     have:((cs0.toList.drop j).take 1)[0]? =M (.string s):=by rw[e1];rfl
     rw[cR,aC (by omega),hZ]at this;simpa using this
    rw[← cz,h2]
  have hb:0<W.heap.size:=by
   obtain⟨l,_,h2⟩:=hcell 0 (by omega);exact World.block_lt_of_cell? W _ h2
  refine .ptr CX 0 0 0 (λj=>(W.cell? ⟨0,j,D⟩).getD undef) (λh=>h) hb (λx a=>?_) (λj hj=>?_) (λj x a=>?_)
  .simp only[CX,bk,cB,gj]at a;rcases a with rfl|rfl|rfl|rfl|rfl|rfl|rfl|rfl|rfl|rfl|rfl|rfl|rfl|rfl|rfl|rfl|rfl|rfl|rfl|rfl|rfl|rfl<;>rfl
  .obtain⟨l,_,h2⟩:=hcell j hj;rw[bI,h2];rfl
  .have hj:j<22:=(bh.1 a).1;obtain⟨l,h1,h2⟩:=hcell j hj;rw[← hxs]at h1;have:x= .raw (.string ⟨l.toArray⟩):=by
    rcases j with _|_|_|_|_|_|_|_|_|_|_|_|_|_|_|_|_|_|_|_|_|_|j;all_goals first|(simp only[lQ,List.getElem?_cons_succ,ah,DataW.lit.injEq,Lit.string.injEq,CX]at h1 a;subst h1;subst a;rfl)|omega
   rw[this,h2];exact .raw _
 .cases z
end
end Go.Proofs.YtloaobgmjdjhhaaGreatDoor.AI
