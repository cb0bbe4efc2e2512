/-
  Texts of the proof, part 6 of 6: what is used to prove the statement. No condition.
-/
import Derived.Test.YtgijlolllojpaaaGreatDoorShbStrongerQ4
import Derived.Test.YtgijlolllojpaaaGreatDoorRows
import Derived.LaidMore
namespace Go.Proofs.YtgijlolllojpaaaGreatDoor.AI
open Go.RowKit
set_option maxRecDepth 100000
set_option maxHeartbeats 4000000
set_option linter.unusedVariables false
set_option linter.unusedSimpArgs false
open _root_.Bool renaming true→ai,false→aj
open _root_.List renaming getElem?_cons_zero→qT
open _root_.Nat renaming beq→aC
open _root_.Option renaming some→af,none→ah,map_some→b_
open _root_.Prod renaming p2→aV,p3→bh,p4→bw,q3→bL,p5→cu,q5→cN,q4→dh,p6→dU,q6→eZ,p7→iW,q7→mB,q8→nK,p8→ve,p10→xm,p9→xn,p11→Ek,q11→Lj,q9→NJ
noncomputable section
abbrev ak7:List PV:=[.row 1,.row 2,.row 3,.row 4,.row 5,.row 6,.d (.sl aM),.row 7,.row 8]
abbrev Ld0:List PB:=[.cells 62 ak7,.rows 50 aj (.sl aM),.rows 50 aj (.sl aM),.rows 50 aj (.sl aM),.rows 50 aj (.sl aM),.rows 50 aj (.sl aM),.rows 50 aj (.sl aM),.rows 50 aj (.sl aM),.rows 3 ai aM,.rows 3 aj aM]
abbrev Ld4:List PV:=[.d aM,.d aM,.d aM,.d aM,.d aM,.d (.sl aM),.d (.sl aM)]
abbrev Ld3:List PV:=[.d (.sl kE),.d (.sl rU),.d (.sl mh),.d (.sl .str),.d (.sl .str),.d (.sl oX)]
abbrev Ld1:List PB:=[.cells 52 Ld4,.cells 62 [.row 3,.row 4,.row 5,.row 6,.row 7,.row 8,.d (.sl aM),.row 9,.row 10],.cells 31 Ld3,.rows 50 aj (.sl aM),.rows 50 aj (.sl aM),.rows 50 aj (.sl aM),.rows 50 aj (.sl aM),.rows 50 aj (.sl aM),.rows 50 aj (.sl aM),.rows 50 aj (.sl aM),.rows 3 ai aM]
abbrev Ld2:List PB:=[.cells 62 ak7,.rows 50 aj (.sl aM),.rows 50 aj (.sl aM),.rows 50 aj (.sl aM),.rows 50 aj (.sl aM),.rows 50 aj (.sl aM),.rows 50 aj (.sl aM),.rows 50 aj (.sl aM),.rows 3 ai aM,.rows 3 aj aM,.cells 52 Ld4]
abbrev Ld5:List PB:=[.rows 167 aj eh,.rows 4 ai .bool,.rows 169 ai ij,.cells 94 HL]
abbrev Ld6:List PB:=[.rows 167 aj eh,.rows 4 ai .bool,.rows 169 ai ij]
abbrev XK:List PB:=[.rows 3 ai aM]
abbrev Ld8:List PB:=[.cells 97 [.d iV],.cells 52 [.d jt],.cells 216 [.d Kd1]]
abbrev Ld9:List PB:=[.rows 3 ai aM,.cells 3 [.d aM]]
abbrev ant:List PB:=[.cells 31 [.d nI],.cells 94 [.row 4,.d aM,.row 5,.row 6],.cells 3 [.d aM],.cells 94 Cp,.rows 167 aj eh,.rows 4 ai .bool,.rows 169 ai ij]
abbrev PP:List PB:=[.rows 3 aj aM]
abbrev ans:List PB:=[.cells 94 Cp,.cells 94 [.row 2,.d aM,.row 3,.row 4],.rows 167 aj eh,.rows 4 aj .bool,.rows 169 aj ij]
abbrev agi:List PB:=[.cells 34 [.d mK],.rows 57 ai gp]
abbrev Te:List PV:=[.row 0,.d aM]
abbrev ad4:List PB:=[.rows 50 aj (.sl aM)]
abbrev ak6:List PB:=[.rows 50 aj (.sl aM),.rows 3 aj aM]
abbrev Zk:List PB:=[.cells 52 [.d jt]]
abbrev ak5:List PV:=[.d (.sl aM),.d (.sl aM)]
abbrev ak4:List PV:=[.ptr 0 0,.ptr 1 0,.ptr 2 0]
def Nm:FT:=⟨⟨K7,[]⟩,⟨[.d aM],[]⟩,dT [(3,(.j ⟨[0,1],[12],⟨[.d .bool],[]⟩,[]⟩))]⟩
def YY:cr:=cn Nm jf
def G8:FT:=⟨⟨ak5,[]⟩,⟨qN,[]⟩,dT [(8,(.j ⟨[0,1,14],[5,15],⟨Te,PP⟩,[]⟩))]⟩
def SM:cr:=cn G8 jz
def Xe:FT:=⟨⟨K7,[]⟩,⟨[.d aM],[]⟩,dT [(3,(.j ⟨[0,1],[12],⟨[.d .bool],[]⟩,[]⟩))]⟩
def afl:cr:=cn Xe C1
def Xl:FT:=⟨⟨qN,[]⟩,⟨qN,[]⟩,.leaf⟩
def D9:cr:=cn Xl Oo
def ajf:cr:=⟨D9.pre,D9.post,xG⟩
def Kj:FT:=⟨⟨[.d kL],[]⟩,⟨[.row 0],ad4⟩,dT [(8,(.j ⟨[9,10],[3,11],⟨Te,ad4⟩,[]⟩))]⟩
def VH:cr:=cn Kj iz
def RU:FT:=⟨⟨qN,[]⟩,⟨[.row 0],XK⟩,dT [(8,(.a [.nil 2 3 aM])),(12,(.a [.nil 2 3 aM]))]⟩
def zZ:cr:=cn RU IY
def ag0:cr:=⟨zZ.pre,zZ.post,pa⟩
def Kk:FT:=⟨⟨[.d Kd0],[]⟩,⟨[.agg [.row 0,.row 1,.row 2,.row 3,.row 4,.row 5,.d (.sl aM),.row 6,.row 7]],[.rows 50 aj (.sl aM),.rows 50 aj (.sl aM),.rows 50 aj (.sl aM),.rows 50 aj (.sl aM),.rows 50 aj (.sl aM),.rows 50 aj (.sl aM),.rows 50 aj (.sl aM),.rows 3 ai aM]⟩,.leaf⟩
def VK:cr:=cn Kk rC
def Nh:FT:=⟨⟨Te,ad4⟩,⟨qN,ad4⟩,dT [(3,(.j ⟨[1],[0,12],⟨[.row 0,.d .bool],ad4⟩,[]⟩))]⟩
def YR:cr:=cn Nh t8
def Km:FT:=⟨⟨ak4,Ld1⟩,⟨[.d kL],Ld1⟩,dT [(18,(.j ⟨[6],[0,1,2,25],⟨Ef,Ld1⟩,[]⟩))]⟩
def VN:cr:=cn Km rD
def Nk:FT:=⟨⟨[.d nI],[]⟩,⟨[.d Kd0],[]⟩,dT [(8,(.j ⟨[40],[2,3,41],⟨wa,[.cells 62 [.nil,.nil,.nil,.nil,.nil,.nil,.nil,.nil,.nil],.cells 62 [.row 2,.row 3,.row 4,.row 5,.row 6,.row 7,.nil,.row 8,.row 9],.rows 50 aj (.sl aM),.rows 50 aj (.sl aM),.rows 50 aj (.sl aM),.rows 50 aj (.sl aM),.rows 50 aj (.sl aM),.rows 50 aj (.sl aM),.rows 50 aj (.sl aM),.rows 3 aj aM]⟩,[]⟩))]⟩
def YU:cr:=cn Nk nW
def G7:FT:=⟨⟨K7,[]⟩,⟨[.row 0],PP⟩,dT [(4,(.j ⟨[0,1,5],[6],⟨[.d .bool],[]⟩,[]⟩)),(6,(.j ⟨[0,1,6],[5],⟨[.d aM],[]⟩,[]⟩)),(16,(.j ⟨[],[7],⟨[.row 0],PP⟩,[]⟩)),(17,(.j ⟨[1],[7,33],⟨[.row 0,.d .bool],PP⟩,[]⟩))]⟩
def SK:cr:=cn G7 pR
def w_:FT:=⟨⟨[.row 0],PP⟩,⟨qN,PP⟩,.leaf⟩
def acf:cr:=cn w_ wK
def afz:cr:=⟨w_.pre,⟨w_.post.vs,[]⟩,vp⟩
def AA:FT:=⟨⟨[.d (.sl aM),.row 0],PP⟩,⟨qN,PP⟩,dT [(8,(.j ⟨[0,14],[1,5,15],⟨[.row 0,.row 1,.d aM],[.rows 3 aj aM,.rows 3 aj aM]⟩,[]⟩))]⟩
def afx:cr:=cn AA tN
def aje:cr:=⟨AA.pre,⟨AA.post.vs,[]⟩,B3⟩
def Kh:FT:=⟨⟨[.row 0,.d aM,.row 1],ak6⟩,⟨[],ak6⟩,dT [(0,(.j ⟨[1],[0,2,13],⟨[.row 0,.row 1,.d .bool],ak6⟩,[]⟩))]⟩
def VF:cr:=cn Kh lI
def RL:FT:=⟨⟨[.ptr 0 0,.d aM,.row 9],Ld0⟩,⟨[],Ld0⟩,.leaf⟩
def ac6:cr:=cn RL wH
def Ni:FT:=⟨⟨[.d nI,.ptr 0 0,.d jt,.row 9],Ld0⟩,⟨[],Ld0⟩,dT [(6,(.j ⟨[],[],⟨[],Ld0⟩,[]⟩)),(11,(.j ⟨[20],[1,3,4,6,32],⟨[.ptr 0 0,.row 9,.ptr 10 0,.ptr 11 0,.d .bool],[.cells 62 ak7,.rows 50 aj (.sl aM),.rows 50 aj (.sl aM),.rows 50 aj (.sl aM),.rows 50 aj (.sl aM),.rows 50 aj (.sl aM),.rows 50 aj (.sl aM),.rows 50 aj (.sl aM),.rows 3 ai aM,.rows 3 aj aM,.cells 31 Ld3,.cells 52 Ld4]⟩,[]⟩)),(48,(.j ⟨[],[1,3,6,129],⟨[.ptr 0 0,.row 9,.ptr 10 0,.d .bool],Ld2⟩,[]⟩)),(59,(.j ⟨[141],[1,3,6,140,142],⟨[.ptr 0 0,.row 9,.ptr 10 0,.row 8,.d aM],Ld2⟩,[]⟩)),(67,(.j ⟨[141,142],[1,3,6,140],⟨[.ptr 0 0,.row 9,.ptr 10 0,.row 8],Ld2⟩,[]⟩))]⟩
def YS:cr:=cn Ni pP
def RM:FT:=⟨⟨[.d nI,.d Kd0,.d jt],[]⟩,⟨[.d Kd0,.row 0],PP⟩,dT [(14,(.j ⟨[22,23],[3,5,6,7,24],⟨[.ptr 0 0,.ptr 1 0,.ptr 2 0,.ptr 3 0,.d aM],[.cells 31 Ld3,.cells 52 Ld4,.cells 62 [.row 4,.row 5,.row 6,.row 7,.row 8,.row 9,.d (.sl aM),.row 10,.row 11],.cells 50 qN,.rows 50 aj (.sl aM),.rows 50 aj (.sl aM),.rows 50 aj (.sl aM),.rows 50 aj (.sl aM),.rows 50 aj (.sl aM),.rows 50 aj (.sl aM),.rows 50 aj (.sl aM),.rows 3 ai aM]⟩,[]⟩))]⟩
def ac7:cr:=cn RM sD
def RH:FT:=⟨⟨ak5,[]⟩,⟨[.d .bool],[]⟩,dT [(6,(.j ⟨[0,1],[5],⟨[.d aM],[]⟩,[]⟩))]⟩
def abu:cr:=cn RH oN
def M5:FT:=⟨⟨ak5,[]⟩,⟨[.d .bool],[]⟩,dT [(2,(.j ⟨[],[4],⟨[.d .bool],[]⟩,[]⟩))]⟩
def YB:cr:=cn M5 t7
def wW:FT:=⟨⟨[.d .str],[]⟩,⟨[.d .bool],[]⟩,dT [(6,(.j ⟨[0,5],[6],⟨[.d aM],[]⟩,[]⟩))]⟩
def Fp:cr:=cn wW k9
def Be:FT:=⟨⟨[.d .str],[]⟩,⟨[.d .bool],[]⟩,dT [(3,(.j ⟨[0],[16],⟨[.d .bool],[]⟩,[]⟩)),(14,(.j ⟨[],[18],⟨[.ptr 0 0],[.mp mh .un]⟩,[]⟩)),(24,(.j ⟨[],[18],⟨[.ptr 0 0],[.mp mh .un]⟩,[]⟩)),(25,(.j ⟨[3,4],[18,23],⟨g_,[.mp mh .un]⟩,[]⟩)),(29,(.j ⟨[],[18,38],⟨g_,[.mp mh .un]⟩,[]⟩))]⟩
def L3:cr:=cn Be oL
def Ko:FT:=⟨⟨K7,[]⟩,⟨[.d aM],[]⟩,dT [(6,(.j ⟨[0,1,7],[8],⟨[.d aM],[]⟩,[]⟩))]⟩
def VU:cr:=cn Ko rF
def Bu:FT:=⟨⟨K7,[]⟩,⟨[.d .bool],[]⟩,.leaf⟩
def Ml:cr:=cn Bu kC
def Bt:FT:=⟨⟨[.d (.sl aM),.d gp],[]⟩,⟨[.d .bool],[]⟩,.leaf⟩
def Mk:cr:=cn Bt mw
def Kl:FT:=⟨⟨[.d jt],[]⟩,⟨[.d .bool],[]⟩,dT [(2,(.j ⟨[],[2],⟨[.d .bool],[]⟩,[]⟩))]⟩
def VM:cr:=cn Kl uv
def DU:FT:=⟨⟨[.d mK,.d aM,.d aM],[]⟩,⟨[.d .bool],[]⟩,dT [(5,(.j ⟨[],[3,7,8,30],⟨Ef,[.cells 34 [.d mK],.cells 52 [.d jt],.cells 52 [.d jt]]⟩,[]⟩)),(13,(.j ⟨[],[7,8,48],⟨rT,[.cells 52 [.d jt],.cells 52 [.d jt]]⟩,[]⟩)),(20,(.j ⟨[],[6],⟨[.d .bool],[]⟩,[]⟩))]⟩
def Pv:cr:=cn DU qy
def Ki:FT:=⟨⟨[.d (.sl jt)],[]⟩,⟨[.d (.sl gp)],[]⟩,dT [(10,(.j ⟨[11,12],[3,4,13],⟨[.mp 0,.row 1,.d aM],[.mp aM aM,.rows 77 aj gp]⟩,[.mpt 3 aM aM]⟩))]⟩
def VG:cr:=cn Ki pD
def yJ:FT:=⟨⟨v_,[]⟩,⟨[.d .bool],[]⟩,dT [(2,(.j ⟨[],[4],⟨[.d .bool],[]⟩,[]⟩))]⟩
def HG:cr:=cn yJ sV
def yK:FT:=⟨⟨[.d nI,.d aM,.d .bool],[]⟩,⟨[.d .bool],[]⟩,dT [(2,(.j ⟨[],[6],⟨[.d .bool],[]⟩,[]⟩))]⟩
def HH:cr:=cn yK sW
def tD:FT:=⟨⟨[.d (.sl kE)],[]⟩,⟨[.d (.sl .str),.d .bool],[]⟩,dT [(8,(.j ⟨[0],[4,5],⟨Te,[.rows 9 ai .str]⟩,[.nil 4 9 .str]⟩)),(15,(.j ⟨[0],[4,5],⟨Te,[.rows 9 ai .str]⟩,[]⟩)),(37,(.j ⟨[0,5],[4,6,49],⟨[.row 0,.ptr 1 0,.d .bool],[.rows 9 ai .str,.cells 123 [.d kE]]⟩,[]⟩)),(48,(.j ⟨[0,5,51],[4,6,52],⟨[.row 0,.ptr 1 0,.d aM],[.rows 9 ai .str,.cells 123 [.d kE]]⟩,[]⟩))]⟩
def AX:cr:=cn tD hZ
def tC:FT:=⟨⟨[.d nI,.d (.sl .str)],[]⟩,⟨[.d .bool],[]⟩,dT [(10,(.j ⟨[17,18],[2,5,19],⟨PQ,Zn⟩,[]⟩)),(27,(.j ⟨[30,31],[2,5,32],⟨PQ,Zn⟩,[]⟩)),(50,(.j ⟨[52],[10,51,53],⟨[.mp 0,.row 1,.d aM],[.mp .str .bool,.rows 9 ai .str]⟩,[.mpt 10 .str .bool]⟩)),(62,(.j ⟨[12,52,53],[10,51,64],⟨[.mp 0,.row 1,.d .bool],[.mp .str .bool,.rows 9 ai .str]⟩,[.mpt 10 .str .bool]⟩))]⟩
def AW:cr:=cn tC dR
def tB:FT:=⟨⟨[.d nI],[]⟩,⟨[.d .bool],[]⟩,dT [(8,(.j ⟨[8,9],[1,3,4,10],⟨[.ptr 0 0,.d aM,.d aM,.d aM],qa⟩,[]⟩)),(20,(.j ⟨[3,4,8,9,10],[1,6,25],⟨rT,[.cells 31 [.d nI],.cells 127 [.d oX]]⟩,[]⟩)),(27,(.j ⟨[8,9,10],[1,3,4,6],⟨[.ptr 0 0,.d aM,.d aM,.ptr 1 0],[.cells 31 [.d nI],.cells 127 [.d oX]]⟩,[]⟩))]⟩
def AU:cr:=cn tB fZ
def tF:FT:=⟨⟨[.d nI],[]⟩,⟨[.d .bool],[]⟩,dT [(3,(.j ⟨[],[1,34],⟨g_,qa⟩,[]⟩)),(11,(.j ⟨[],[1,44],⟨g_,qa⟩,[]⟩)),(21,(.j ⟨[],[1,58],⟨g_,qa⟩,[]⟩)),(32,(.j ⟨[60,61],[1,62],⟨u_,qa⟩,[]⟩))]⟩
def AY:cr:=cn tF dS
def Bp:FT:=⟨⟨[.d nI],[]⟩,⟨[.d HM],[]⟩,dT [(8,(.j ⟨[20],[2,3,21],⟨wa,ans⟩,[]⟩)),(21,(.j ⟨[],[2,3],⟨[.ptr 0 0,.ptr 1 0],ans⟩,[]⟩))]⟩
def Mf:cr:=cn Bp oP
def vF:FT:=⟨⟨[.d nI],[]⟩,⟨[.d iV],[]⟩,dT [(8,(.j ⟨[22,23],[2,3,24],⟨wa,[.cells 97 wg,.cells 97 [.d (.sl eh),.d aM,.d qb,.d (.sl ij),.row 2,.row 3,.row 4],.rows 2 aj aM,.rows 2 aj aM,.rows 3 aj aM]⟩,[]⟩))]⟩
def DY:cr:=cn vF di
def sM:FT:=⟨⟨[.d qb,.d jt],[]⟩,⟨[.d .bool],[]⟩,dT [(6,(.j ⟨[0,13],[14],⟨[.d aM],[]⟩,[]⟩)),(20,(.j ⟨[0,13,14,17,18],[19],⟨[.d aM],[]⟩,[]⟩)),(31,(.j ⟨[0,13,14,17,18,19],[37],⟨[.d .bool],[]⟩,[]⟩))]⟩
def zV:cr:=cn sM cf
def zN:FT:=⟨⟨v_,[]⟩,⟨[.d .bool],[]⟩,dT [(2,(.j ⟨[],[4],⟨[.d .bool],[]⟩,[]⟩))]⟩
def Ky:cr:=cn zN fe
def yF:FT:=⟨⟨[.d nI,.d aM,.d aM],[]⟩,⟨[.d .bool],[]⟩,dT [(6,(.j ⟨[2,7],[3,8],⟨g_,qa⟩,[]⟩)),(36,(.j ⟨[2,7],[3,18],⟨g_,qa⟩,[]⟩)),(46,(.j ⟨[2,7],[3,26],⟨g_,qa⟩,[]⟩)),(53,(.j ⟨[],[6],⟨[.d .bool],[]⟩,[]⟩)),(56,(.j ⟨[2,7],[3,43],⟨g_,qa⟩,[]⟩)),(71,(.j ⟨[],[6],⟨[.d .bool],[]⟩,[]⟩)),(74,(.j ⟨[2,7],[3,61],⟨g_,qa⟩,[]⟩)),(92,(.j ⟨[2,7],[3,71],⟨g_,qa⟩,[]⟩)),(102,(.j ⟨[2],[3,79],⟨g_,qa⟩,[]⟩))]⟩
def HA:cr:=cn yF l9
def DO:FT:=⟨⟨[.d nI,.d HM],[]⟩,⟨[.d .bool],[]⟩,dT [(3,(.j ⟨[],[2,31],⟨g_,qa⟩,[]⟩)),(14,(.j ⟨[33,34],[2,35],⟨u_,qa⟩,[]⟩))]⟩
def Pm:cr:=cn DO kr
def Bn:FT:=⟨⟨[.d nI,.d HM,.d aM,.d aM,.d aM],[]⟩,⟨[.d .bool],[]⟩,dT [(15,(.j ⟨[],[10],⟨[.d .bool],[]⟩,[]⟩)),(21,(.j ⟨[],[10],⟨[.d .bool],[]⟩,[]⟩)),(24,(.j ⟨[2,4,11],[5,6,60],⟨rT,Wc⟩,[]⟩)),(64,(.j ⟨[2,4,11],[5,6,109],⟨rT,Wc⟩,[]⟩)),(81,(.j ⟨[],[10],⟨[.d .bool],[]⟩,[]⟩)),(87,(.j ⟨[],[10],⟨[.d .bool],[]⟩,[]⟩))]⟩
def Md:cr:=cn Bn oO
def yG:FT:=⟨⟨[.d nI,.d HM,.d aM,.d aM,.d aM],[]⟩,⟨[.d .bool],[]⟩,dT [(3,(.j ⟨[2,3,4],[5,6,30],⟨rT,Wc⟩,[]⟩)),(25,(.j ⟨[],[10],⟨[.d .bool],[]⟩,[]⟩)),(29,(.j ⟨[],[10],⟨[.d .bool],[]⟩,[]⟩))]⟩
def HB:cr:=cn yG jk
def wU:FT:=⟨⟨[.d nI,.d iV],[]⟩,⟨[.d .bool],[]⟩,dT [(2,(.j ⟨[],[4],⟨[.d .bool],[]⟩,[]⟩))]⟩
def Fn:cr:=cn wU kZ
def uK:FT:=⟨⟨[.d nI,.d jt],[]⟩,⟨[.d .bool],[]⟩,dT [(3,(.j ⟨[],[2,3,12],⟨rT,[.cells 31 [.d nI],.cells 52 [.d jt]]⟩,[]⟩)),(10,(.j ⟨[],[4],⟨[.d .bool],[]⟩,[]⟩))]⟩
def Cf:cr:=cn uK jI
def qH:FT:=⟨⟨[.d nI,.d iV,.d jt],[]⟩,⟨[.d .bool],[]⟩,dT [(2,(.j ⟨[],[4,5,7],⟨rT,[.cells 97 [.d iV],.cells 52 [.d jt]]⟩,[]⟩)),(4,(.j ⟨[],[4,5,8],⟨ak4,Ld8⟩,[]⟩)),(10,(.j ⟨[51],[4,5,8,52],⟨FK,Ld8⟩,[]⟩)),(22,(.j ⟨[10,51,52],[4,5,8,64],⟨Ef,Ld8⟩,[]⟩)),(34,(.j ⟨[51,52,65,66],[4,5,8,11,67],⟨[.ptr 0 0,.ptr 1 0,.ptr 2 0,.d aM,.d aM],Ld8⟩,[]⟩)),(46,(.j ⟨[13,51,52,65,66,67],[4,5,8,83],⟨Ef,Ld8⟩,[]⟩))]⟩
def yd:cr:=cn qH e9
def uJ:FT:=⟨⟨[.d iV,.d jt],[]⟩,⟨[.d .bool],[]⟩,dT [(21,(.j ⟨[],[4],⟨[.d .bool],[]⟩,[]⟩)),(24,(.j ⟨[13],[2,3,46],⟨rT,[.cells 97 [.d iV],.cells 52 [.d jt]]⟩,[]⟩)),(43,(.j ⟨[53,54],[3,5,6,55],⟨[.ptr 0 0,.d aM,.d .bool,.d aM],Zk⟩,[]⟩)),(51,(.j ⟨[53,54,55],[3,5,6],⟨[.ptr 0 0,.d aM,.d .bool],Zk⟩,[]⟩)),(54,(.j ⟨[5,6,7,53,54,55],[3,69],⟨g_,Zk⟩,[]⟩)),(62,(.j ⟨[],[4],⟨[.d .bool],[]⟩,[]⟩)),(74,(.j ⟨[94,95],[3,9,96],⟨Ti,Zk⟩,[]⟩)),(82,(.j ⟨[94,95,96],[3,9],⟨u_,Zk⟩,[]⟩)),(85,(.j ⟨[9,94,95,96],[3,109],⟨g_,Zk⟩,[]⟩))]⟩
def Ce:cr:=cn uJ gy
def Bm:FT:=⟨⟨[.d ij,.d aM],[]⟩,⟨[.d .bool],[]⟩,dT [(2,(.j ⟨[],[4],⟨[.d .bool],[]⟩,[]⟩))]⟩
def Mc:cr:=cn Bm mr
def RW:FT:=⟨⟨[.d qb],[]⟩,⟨[.d qb],[]⟩,.leaf⟩
def z_:cr:=cn RW I0
def ag1:cr:=⟨z_.pre,z_.post,On⟩
def Nq:FT:=⟨⟨[.d qb],[]⟩,⟨[.row 0],[.rows 4 ai .bool]⟩,dT [(8,(.a [.nil 2 4 .bool])),(12,(.a [.nil 2 4 .bool]))]⟩
def xg:cr:=cn Nq EQ
def ach:cr:=⟨xg.pre,xg.post,IZ⟩
def RQ:FT:=⟨⟨[.d (.sl ij)],[]⟩,⟨[.d (.sl ij)],[]⟩,.leaf⟩
def zY:cr:=cn RQ IX
def afy:cr:=⟨zY.pre,zY.post,Om⟩
def No:FT:=⟨⟨[.d (.sl ij)],[]⟩,⟨[.row 0],[.rows 169 ai ij]⟩,dT [(8,(.a [.nil 2 169 ij])),(12,(.a [.nil 2 169 ij]))]⟩
def xd:cr:=cn No EO
def ace:cr:=⟨xd.pre,xd.post,IW⟩
def Np:FT:=⟨⟨qN,[]⟩,⟨[.row 0],[.rows 2 ai aM]⟩,dT [(8,(.a [.nil 2 2 aM])),(12,(.a [.nil 2 2 aM]))]⟩
def xf:cr:=cn Np EP
def acg:cr:=⟨xf.pre,xf.post,zm⟩
def Bo:FT:=⟨⟨[.d HM],[]⟩,⟨[.agg HL],Ld6⟩,dT [(8,(.j ⟨[11,12],[1,2,3,13],⟨[.ptr 0 0,.ptr 1 0,.row 2,.d aM],[.cells 94 [.d HM],.cells 94 Cp,.rows 167 aj eh]⟩,[]⟩))]⟩
def Me:cr:=cn Bo kB
def zO:FT:=⟨⟨[.agg HL,.d aM,.d aM],Ld6⟩,⟨[.d aM],Ld6⟩,dT [(8,(.j ⟨[1,2,12],[3,7,11,13],⟨[.ptr 3 0,.d aM,.row 2,.d aM],Ld5⟩,[]⟩)),(16,(.j ⟨[1,2,12,13],[3,7,11],⟨[.ptr 3 0,.d aM,.row 2],Ld5⟩,[]⟩)),(19,(.j ⟨[1,2,7,8,12,13],[3,11,29],⟨[.ptr 3 0,.row 2,.d .bool],Ld5⟩,[]⟩)),(25,(.j ⟨[7],[],⟨[],Ld6⟩,[]⟩))]⟩
def Kz:cr:=cn zO jN
def vG:FT:=⟨⟨[.agg HL,.d aM],Ld6⟩,⟨[.d aM],Ld6⟩,dT [(8,(.j ⟨[1,10],[2,5,9,11],⟨[.ptr 3 0,.d aM,.row 2,.d aM],Ld5⟩,[]⟩)),(16,(.j ⟨[1,10,11],[2,5,9],⟨[.ptr 3 0,.d aM,.row 2],Ld5⟩,[]⟩))]⟩
def D3:cr:=cn vG gW
def zS:FT:=⟨⟨[.d aM],[]⟩,⟨[.d .bool],[]⟩,.leaf⟩
def KK:cr:=cn zS qz
def Bs:FT:=⟨⟨v_,[]⟩,⟨[.d .bool],[]⟩,dT [(2,(.j ⟨[],[4],⟨[.d .bool],[]⟩,[]⟩))]⟩
def Mj:cr:=cn Bs vV
def w9:FT:=⟨⟨[.d (.int .u64)],[]⟩,⟨[.d aM],[]⟩,.leaf⟩
def Fw:cr:=cn w9 rA
def zR:FT:=⟨⟨[.d (.int .u64)],[]⟩,⟨[.d aM],[]⟩,.leaf⟩
def KF:cr:=cn zR ut
def ou:FT:=⟨⟨[.row 0,.d aM,.d aM],XK⟩,⟨[],XK⟩,dT [(3,(.j ⟨[1,2],[0,6],⟨Te,XK⟩,[]⟩)),(15,(.j ⟨[1,2,6],[0,7],⟨Te,XK⟩,[]⟩)),(17,(.j ⟨[1,2,6,7],[0,30],⟨[.row 0,.d .bool],XK⟩,[]⟩))]⟩
def uX:cr:=cn ou fU
def tw:FT:=⟨⟨[.row 0,.d aM,.d aM,.d aM],XK⟩,⟨[],XK⟩,dT [(5,(.j ⟨[],[0,1,2,3,8,9],⟨[.row 0,.d aM,.d aM,.d aM,.d .bool,.d .bool],XK⟩,[]⟩))]⟩
def AT:cr:=cn tw jq
def Nn:FT:=⟨⟨[.row 0],XK⟩,⟨[],XK⟩,.leaf⟩
def YZ:cr:=cn Nn wJ
def DX:FT:=⟨⟨[.row 0],XK⟩,⟨[.row 0],XK⟩,dT [(14,(.j ⟨[],[0,3],⟨Te,XK⟩,[]⟩))]⟩
def Pz:cr:=cn DX lK
def yH:FT:=⟨⟨[.d aM,.ptr 0 0],[.cells 3 [.d aM]]⟩,⟨[.d .bool],[.cells 3 [.d aM]]⟩,.leaf⟩
def HC:cr:=cn yH o_
def zU:FT:=⟨⟨[.row 0,.clo 136 1 0],Ld9⟩,⟨[.d aM],Ld9⟩,dT [(6,(.j ⟨[7],[0,1,8],⟨[.row 0,.clo 136 1 0,.d aM],Ld9⟩,[]⟩))]⟩
def KL:cr:=cn zU nk
def yL:FT:=⟨⟨[.row 0,.clo 136 1 0],Ld9⟩,⟨[.row 2],[.gone,.cells 3 [.d aM],.rows 3 aj aM]⟩,dT [(16,(.j ⟨[],[0,1,5,6],⟨[.row 0,.clo 136 1 0,.d aM,.d aM],Ld9⟩,[]⟩)),(24,(.j ⟨[6],[0,1,5],⟨[.row 0,.clo 136 1 0,.d aM],Ld9⟩,[]⟩))]⟩
def HI:cr:=cn yL jm
def nA:FT:=⟨⟨[.d nI,.d HM,.d aM,.d aM,.d aM,.d aM],[]⟩,⟨[.d HM,.d aM,.d .bool],[]⟩,dT [(17,(.j ⟨[],[7,12,15],⟨wa,[.cells 94 [.row 2,.d aM,.row 3,.row 4],.cells 94 Cp,.rows 167 aj eh,.rows 4 ai .bool,.rows 169 ai ij]⟩,[]⟩)),(26,(.j ⟨[4,5,15,27],[6,7,8,12,42],⟨Ae,ant⟩,[]⟩)),(34,(.j ⟨[4,5,15,27],[6,7,8,12,51],⟨Ae,ant⟩,[]⟩))]⟩
def KC:cr:=cn nA gX
def zP:FT:=⟨⟨[.d HM],[]⟩,⟨[.agg [.csl 0 2 3,.d aM,.d qb,.d (.sl ij)]],[.cells 167 [.d aM,.row 1,.d aM,.row 2,.d aM,.row 3],.rows 3 ai aM,.rows 3 ai aM,.rows 3 ai aM]⟩,dT [(7,(.j ⟨[],[1,2,3],⟨[.ptr 0 0,.ptr 1 0,.csl 2 2 3],[.cells 94 [.d HM],.cells 94 Cp,.cells 167 [.d aM,.row 3,.d aM,.row 4,.d aM,.row 5],.rows 3 ai aM,.rows 3 ai aM,.rows 3 ai aM]⟩,[.cel 3 1 3 aM,.cel 3 3 3 aM,.cel 3 5 3 aM]⟩)),(8,(.u 4))]⟩
def KA:cr:=cn zP nj
def zQ:FT:=⟨⟨[.d nI,.d HM,.d aM,.d aM,.d aM,.d aM],[]⟩,⟨[.d HM,.d aM,.d .bool],[]⟩,dT [(17,(.j ⟨[],[7,12,15],⟨wa,[.cells 94 [.csl 2 2 3,.d aM,.d qb,.d (.sl ij)],.cells 94 Cp,.cells 167 [.d eh,.d eh,.d aM,.row 3],.rowsP 3 aM]⟩,[]⟩)),(26,(.j ⟨[4,5,15,27],[6,7,8,12,42],⟨Ae,[.cells 31 [.d nI],.cells 94 [.csl 4 2 3,.d aM,.d qb,.d (.sl ij)],.cells 3 [.d aM],.cells 94 Cp,.cells 167 [.d aM,.row 5,.d aM,.row 6,.d aM,.row 7],.rows 3 ai aM,.rows 3 ai aM,.rows 3 ai aM]⟩,[]⟩)),(33,(.s 4 0 0 0)),(34,(.j ⟨[4,5,15,27],[6,7,8,12,51],⟨Ae,[.cells 31 [.d nI],.cells 94 [.csl 4 2 3,.d aM,.d qb,.d (.sl ij)],.cells 3 [.d aM],.cells 94 Cp,.cells 167 [.d aM,.d (.sl aM),.d aM,.d (.sl aM),.d aM,.row 5],.rows 3 ai aM]⟩,[]⟩)),(41,(.s 4 0 0 0)),(46,(.s 4 0 0 3)),(53,(.s 4 0 0 3)),(74,(.s 4 0 0 0)),(80,(.s 4 0 0 0)),(100,(.a [.pk 7 0 eh]))]⟩
def KB:cr:=cn zQ li
def Mg:cr:=cn nA r7
def wV:FT:=⟨⟨[.d nI,.d iV,.d jt],[]⟩,⟨[.d iV,.d .bool],[]⟩,dT [(3,(.j ⟨[],[3,4,5,6,39],⟨Ae,Lb⟩,[]⟩)),(11,(.j ⟨[],[3,4,5,6,70],⟨Ae,Lb⟩,[]⟩)),(20,(.j ⟨[],[3,4,5,6,8],⟨[.ptr 0 0,.ptr 1 0,.ptr 2 0,.ptr 3 0,.d aM],Lb⟩,[]⟩)),(41,(.j ⟨[],[5,6,12],⟨ak4,ak9⟩,[]⟩))]⟩
def Fo:cr:=cn wV fQ
def uN:FT:=⟨⟨[.d mK],[]⟩,⟨v_,[]⟩,dT [(26,(.j ⟨[27,28],[1,4,5,29],⟨[.ptr 0 0,.ptr 1 0,.csl 2 1 1,.d aM],[.cells 34 [.d mK],.cells 97 [.d iV],.cells 91 [.row 3],.rows 4 ai .bool]⟩,[.cel 5 0 4 .bool]⟩)),(40,(.j ⟨[6,27,28,29],[1,4,5,7,8,53],⟨[.ptr 0 0,.ptr 1 0,.csl 2 1 1,.ptr 3 0,.ptr 4 0,.d .bool],[.cells 34 [.d mK],.cells 97 [.d iV],.cells 91 [.row 5],.cells 52 [.d jt],.cells 97 [.d iV],.rows 4 ai .bool]⟩,[]⟩)),(41,(.s 7 0 0 1)),(47,(.j ⟨[27,28,29],[1,4,5,8],⟨[.ptr 0 0,.ptr 1 0,.csl 2 1 1,.ptr 3 0],[.cells 34 [.d mK],.cells 97 [.d iV],.cells 91 [.row 4],.cells 97 [.d iV],.rows 4 ai .bool]⟩,[]⟩)),(48,(.s 7 0 0 1))]⟩
def Cj:cr:=cn uN eB
def uM:FT:=⟨⟨[.d mK],[]⟩,⟨v_,[]⟩,dT [(26,(.j ⟨[27,28],[1,4,5,29],⟨[.ptr 0 0,.ptr 1 0,.csl 2 1 2,.d aM],[.cells 34 [.d mK],.cells 97 [.d iV],.cells 91 [.row 3,.row 4],.rows 4 ai .bool,.rows 4 ai .bool]⟩,[.cel 5 0 4 .bool,.cel 5 1 4 .bool]⟩)),(40,(.j ⟨[6,27,28,29],[1,4,5,7,8,53],⟨[.ptr 0 0,.ptr 1 0,.csl 2 1 2,.ptr 3 0,.ptr 4 0,.d .bool],[.cells 34 [.d mK],.cells 97 [.d iV],.cells 91 [.row 5,.row 6],.cells 52 [.d jt],.cells 97 [.d iV],.rows 4 ai .bool,.rows 4 ai .bool]⟩,[]⟩)),(41,(.s 7 0 0 2)),(47,(.j ⟨[27,28,29],[1,4,5,8],⟨[.ptr 0 0,.ptr 1 0,.csl 2 1 2,.ptr 3 0],[.cells 34 [.d mK],.cells 97 [.d iV],.cells 91 [.row 4,.row 5],.cells 97 [.d iV],.rows 4 ai .bool,.rows 4 ai .bool]⟩,[]⟩)),(48,(.s 7 0 0 2))]⟩
def Ci:cr:=cn uM dj
def uL:FT:=⟨⟨[.d mK],[]⟩,⟨v_,[]⟩,dT [(26,(.j ⟨[27,28],[1,4,5,29],⟨[.ptr 0 0,.ptr 1 0,.csl 2 1 3,.d aM],[.cells 34 [.d mK],.cells 97 [.d iV],.cells 91 [.row 3,.row 4,.row 5],.rows 4 ai .bool,.rows 4 ai .bool,.rows 4 ai .bool]⟩,[.cel 5 0 4 .bool,.cel 5 1 4 .bool,.cel 5 2 4 .bool]⟩)),(40,(.j ⟨[6,27,28,29],[1,4,5,7,8,53],⟨[.ptr 0 0,.ptr 1 0,.csl 2 1 3,.ptr 3 0,.ptr 4 0,.d .bool],[.cells 34 [.d mK],.cells 97 [.d iV],.cells 91 [.row 5,.row 6,.row 7],.cells 52 [.d jt],.cells 97 [.d iV],.rows 4 ai .bool,.rows 4 ai .bool,.rows 4 ai .bool]⟩,[]⟩)),(41,(.s 7 0 0 3)),(47,(.j ⟨[27,28,29],[1,4,5,8],⟨[.ptr 0 0,.ptr 1 0,.csl 2 1 3,.ptr 3 0],[.cells 34 [.d mK],.cells 97 [.d iV],.cells 91 [.row 4,.row 5,.row 6],.cells 97 [.d iV],.rows 4 ai .bool,.rows 4 ai .bool,.rows 4 ai .bool]⟩,[]⟩)),(48,(.s 7 0 0 3))]⟩
def Ch:cr:=cn uL dO
def e_:FT:=⟨⟨[.d mK],[]⟩,⟨v_,[]⟩,dT [(26,(.j ⟨[27,28],[1,4,5,29],⟨[.ptr 0 0,.ptr 1 0,.csl 2 1 4,.d aM],[.cells 34 [.d mK],.cells 97 [.d iV],.cells 91 [.row 3,.row 4,.row 5,.row 6],.rows 4 ai .bool,.rows 4 ai .bool,.rows 4 ai .bool,.rows 4 ai .bool]⟩,[.cel 5 0 4 .bool,.cel 5 1 4 .bool,.cel 5 2 4 .bool,.cel 5 3 4 .bool]⟩)),(40,(.j ⟨[6,27,28,29],[1,4,5,7,8,53],⟨[.ptr 0 0,.ptr 1 0,.csl 2 1 4,.ptr 3 0,.ptr 4 0,.d .bool],[.cells 34 [.d mK],.cells 97 [.d iV],.cells 91 [.row 5,.row 6,.row 7,.row 8],.cells 52 [.d jt],.cells 97 [.d iV],.rows 4 ai .bool,.rows 4 ai .bool,.rows 4 ai .bool,.rows 4 ai .bool]⟩,[]⟩)),(41,(.s 7 0 0 4)),(47,(.j ⟨[27,28,29],[1,4,5,8],⟨[.ptr 0 0,.ptr 1 0,.csl 2 1 4,.ptr 3 0],[.cells 34 [.d mK],.cells 97 [.d iV],.cells 91 [.row 4,.row 5,.row 6,.row 7],.cells 97 [.d iV],.rows 4 ai .bool,.rows 4 ai .bool,.rows 4 ai .bool,.rows 4 ai .bool]⟩,[]⟩)),(48,(.s 7 0 0 4))]⟩
def Cg:cr:=cn e_ eA
def DZ:cr:=cn e_ mC
def Kn:FT:=⟨⟨[.d mK],[]⟩,⟨[.d kL,.d aM],[]⟩,dT [(20,(.j ⟨[25,26],[1,6,7,27],⟨[.ptr 0 0,.ptr 1 0,.row 2,.d aM],[.cells 34 [.d mK],.cells 62 [.d Kd0],.rows 50 aj (.sl aM)]⟩,[]⟩))]⟩
def VO:cr:=cn Kn lJ
def Nl:FT:=⟨⟨[.d mK],[]⟩,⟨[.d (.sl gp),.d aM],[]⟩,dT [(20,(.j ⟨[4,6,23],[1,7,24],⟨PQ,agi⟩,[.nil 7 57 gp]⟩)),(34,(.j ⟨[4,6,8,23,24,27],[1,7,28],⟨PQ,agi⟩,[]⟩)),(42,(.j ⟨[4,6,8,23,24,27,28],[1,7],⟨[.ptr 0 0,.row 1],agi⟩,[]⟩)),(45,(.j ⟨[4,6,8,9,23,24,27,28],[1,7,46],⟨[.ptr 0 0,.row 1,.d .bool],agi⟩,[]⟩))]⟩
def YV:cr:=cn Nl rE
def Xk:FT:=⟨⟨[],[]⟩,⟨[.d nI],[]⟩,dT [(8,(.j ⟨[21],[0,1,22],⟨wa,agr⟩,[.cel 1 5 127 oX]⟩)),(22,(.j ⟨[2,21,22],[0,1,3],⟨wa,agr⟩,[]⟩))]⟩
def afw:cr:=cn Xk C5
theorem Fb:aI Pg 57 YY:=mk Nm jf an b8
theorem QI x:kK (jz x) (zj x):=by
 unfold jz zj vC ck bB bF aX cK aF cA;with_reducible repeat' first|(refine OI.o ?_;constructor)|intro _
theorem zB:aI Pg 26 SM:=xF G8 jz zj QI (ac Fb an) b8
theorem af1:aI Pg 39 afl:=mk Xe C1 an b8
theorem af8:aI Pg 25 D9:=mk Xl Oo an b8
theorem U2:aI Pg 25 ajf:= @aI.sub Pg 25 D9.pre D9.post Oo xG af8 rfl (λx y h=>rR (b:=8) x y h)
theorem Uj x:kK (iz x) (BV x):=by
 unfold iz BV xN ck bB vQ bF aX cK aF cA;with_reducible repeat' first|(refine OI.o ?_;constructor)|intro _
theorem UZ:aI Pg 84 VH:=xF Kj iz BV Uj (ac U2 an) b8
theorem abh:aI Pg 25 zZ:=mk RU IY an b8
theorem OQ:aI Pg 25 ag0:= @aI.sub Pg 25 zZ.pre zZ.post IY pa abh rfl (λx y h=>rR (b:=8) x y h)
theorem Jr:aI Pg 52 VK:=mk Kk rC (ac OQ (ac UZ an)) b8
theorem Yj:aI Pg 54 YR:=mk Nh t8 an b8
theorem Js:aI Pg 53 VN:=mk Km rD (ac Yj an) b8
theorem X4 x:kK (nW x) (EJ x):=by
 unfold nW EJ Av aV bh bw cu dU iW nK ck bB bF aX cK aF cA;with_reducible repeat' first|(refine OI.o ?_;constructor)|intro _
theorem MW:aI Pg 23 YU:=xF Nk nW EJ X4 an b8
theorem Gh:aI Pg 55 SK:=mk G7 pR an b8
theorem abg:aI Pg 25 acf:=mk w_ wK an b8
theorem W1:aI Pg 25 afz:= @aI.ro Pg 25 w_.pre w_.post.vs wK vp (abg.holds rfl) rfl (λx _ h=>by rw[show vp x=obind (wK x) λy=>same y.2 x (af y.1) from gQ (obind _) (funext λ_=>Ql ..)] at h;exact h)
theorem aen x:kK (tN x) (Oj x):=by
 unfold tN Oj Ic ck bB bF aX cK aF cA;with_reducible repeat' first|(refine OI.o ?_;constructor)|intro _
theorem af5:aI Pg 26 afx:=xF AA tN Oj aen (ac Fb an) b8
theorem abd:aI Pg 26 aje:= @aI.ro Pg 26 AA.pre AA.post.vs tN B3 (af5.holds rfl) rfl (λx _ h=>by rw[show B3 x=obind (tN x) λy=>same y.2 x.2 (af y.1) from gQ (obind _) (funext λ_=>Ql ..)] at h;exact h)
theorem UX:aI Pg 85 VF:=mk Kh lI (ac abd an) b8
theorem abb:aI Pg 86 ac6:=mk RL wH (ac W1 an) b8
theorem X2 x:kK (pP x) (EH x):=by
 unfold pP EH At xm Ek Prod.p12 Prod.p13 Prod.p14 Prod.p15 Prod.p16 Prod.p17 aV bh bw cu dU iW ve xn Prod.q10 Prod.q16 Prod.q17 Prod.q18 cN mB NJ ck bd bB j7 vQ bF aX cK aF cA;with_reducible repeat' first|(refine OI.o ?_;constructor)|intro _
theorem MV:aI Pg 56 YS:=xF Ni pP EH X2 (ac W1 (ac abd (ac UX (ac abb an)))) b8
theorem aak x:kK (sD x) (IR x):=by
 unfold sD IR Dn xm Ek aV bh bw cu dU iW ve xn Lj Prod.q12 cN eZ nK NJ ck bB vQ bF aX cK cA;with_reducible repeat' first|(refine OI.o ?_;constructor)|intro _
theorem abc:aI Pg 24 ac7:=xF RM sD IR aak (ac zB (ac Jr (ac Js (ac Gh (ac MV an))))) b8
theorem aae x:kK (oN x) (IQ x):=by
 unfold oN IQ Dm bB aX cK aF cA;with_reducible repeat' first|(refine OI.o ?_;constructor)|intro _
theorem QV:aI Pg 16 abu:=xF RH oN IQ aae (ac af1 an) b8
theorem Yb:aI Pg 19 YB:=mk M5 t7 (ac QV an) b8
theorem EE x:kK (k9 x) (rj x):=by
 unfold k9 rj rL xm Ek Prod.p12 Prod.p13 Prod.p14 Prod.p15 Prod.p16 Prod.p17 Prod.p18 Prod.p19 aV Prod.p20 bh bw cu dU iW ve xn Prod.q21 bB bF cK aF cA;with_reducible repeat' first|(refine OI.o ?_;constructor)|intro _
theorem EZ:aI Pg 159 Fp:=xF wW k9 rj EE an b8
theorem Lx x:kK (oL x) (vR x):=by
 unfold oL vR vX bd bB j7 bF aX cK aF;with_reducible repeat' first|(refine OI.o ?_;constructor)|intro _
theorem LI:aI Pg 126 L3:=xF Be oL vR Lx (ac EZ an) b8
theorem Um x:kK (rF x) (BX x):=by
 unfold rF BX xS bd bB bH aX cK aF cA;with_reducible repeat' first|(refine OI.o ?_;constructor)|intro _
theorem U1:aI Pg 191 VU:=xF Ko rF BX Um an b8
theorem LZ:aI Pg 160 Ml:=mk Bu kC (ac U1 an) b8
theorem Bb:aI Pg 34 Mk:=mk Bt mw (ac Fb an) b8
theorem U0:aI Pg 68 VM:=mk Kl uv an b8
theorem OO:aI Pg 42 Pv:=mk DU qy (ac U0 an) b8
theorem Ui x:kK (pD x) (BU x):=by
 unfold pD BU xM ck bB bF bH aX cK aF cA;with_reducible repeat' first|(refine OI.o ?_;constructor)|intro _
theorem UY:aI Pg 41 VG:=xF Ki pD BU Ui an b8
theorem Hq:aI Pg 127 HG:=mk yJ sV an b8
theorem Hr:aI Pg 90 HH:=mk yK sW (ac Hq an) b8
theorem AH x:kK (hZ x) (oz x):=by
 unfold hZ oz oE aV bh bw cu dh eZ bd bB il bF bH aX cK aF cA;with_reducible repeat' first|(refine OI.o ?_;constructor)|intro _
theorem AQ:aI Pg 88 AX:=xF tD hZ oz AH an b8
theorem AG x:kK (dR x) (oy x):=by
 unfold dR oy oD aV bh bw bB bF bH kJ aX cK aF cA;with_reducible repeat' first|(refine OI.o ?_;constructor)|intro _
theorem AO:aI Pg 89 AW:=xF tC dR oy AG (ac LI an) b8
theorem AF x:kK (fZ x) (ox x):=by
 unfold fZ ox kR aV bh cu cN bB il bH aX cK aF cA;with_reducible repeat' first|(refine OI.o ?_;constructor)|intro _
theorem AM:aI Pg 91 AU:=xF tB fZ ox AF an b8
theorem AJ x:kK (dS x) (oA x):=by
 unfold dS oA kS aV bh cu cN bB bH aX cK aF cA;with_reducible repeat' first|(refine OI.o ?_;constructor)|intro _
theorem kQ:aI Pg 64 AY:=xF tF dS oA AJ (ac AQ (ac AO (ac Hr (ac AM an)))) b8
theorem LA x:kK (oP x) (vT x):=by
 unfold oP vT vY aV bh bw bL dh cN ck bB bF aX cK aF cA;with_reducible repeat' first|(refine OI.o ?_;constructor)|intro _
theorem LU:aI Pg 92 Mf:=xF Bp oP vT LA an b8
theorem CX x:kK (di x) (qi x):=by
 unfold di qi qB aV bh bw dh bB bF bH aX cK aF cA;with_reducible repeat' first|(refine OI.o ?_;constructor)|intro _
theorem mD:aI Pg 65 DY:=xF vF di qi CX (ac LU an) b8
theorem zd x:kK (cf x) (mQ x):=by
 unfold cf mQ kw dU mB bB j7 bF bH aX cK aF cA;with_reducible repeat' first|(refine OI.o ?_;constructor)|intro _
theorem ku:aI Pg 67 zV:=xF sM cf mQ zd an b8
theorem uB:aI Pg 129 Ky:=mk zN fe an b8
theorem Hp:aI Pg 130 HA:=mk yF l9 (ac uB an) b8
theorem Od x:kK (kr x) (xC x):=by
 unfold kr xC tQ aV bh bw dh bB il bH aX cK aF cA;with_reducible repeat' first|(refine OI.o ?_;constructor)|intro _
theorem Dh:aI Pg 128 Pm:=xF DO kr xC Od (ac uB an) b8
theorem LR:aI Pg 131 Md:=mk Bn oO (ac LZ an) b8
theorem sX:aI Pg 94 HB:=mk yG jk (ac Dh (ac uB (ac Hp (ac LR an)))) b8
theorem EY:aI Pg 93 Fn:=mk wU kZ (ac Dh an) b8
theorem B5:aI Pg 95 Cf:=mk uK jI an b8
theorem xB x:kK (e9 x) (lE x):=by
 unfold e9 lE jw aV bh bw cu bL dh eZ bd bB j7 bF bH aX cK aF cA;with_reducible repeat' first|(refine OI.o ?_;constructor)|intro _
theorem xI:aI Pg 96 yd:=xF qH e9 lE xB an b8
theorem BL x:kK (gy x) (pj x):=by
 unfold gy pj lM aV bh bw cu bL bd bB bH aX cK aF cA;with_reducible repeat' first|(refine OI.o ?_;constructor)|intro _
theorem B4:aI Pg 97 Ce:=xF uJ gy pj BL an b8
theorem Ba:aI Pg 166 Mc:=mk Bm mr an b8
theorem abk:aI Pg 161 z_:=mk RW I0 an b8
theorem af7:aI Pg 161 ag1:= @aI.sub Pg 161 z_.pre z_.post I0 On abk rfl (λx y h=>rR (b:=1) x y h)
theorem Yp:aI Pg 161 xg:=mk Nq EQ an b8
theorem abj:aI Pg 161 ach:= @aI.sub Pg 161 xg.pre xg.post EQ IZ Yp rfl (λx y h=>rR (b:=1) x y h)
theorem abf:aI Pg 162 zY:=mk RQ IX an b8
theorem af6:aI Pg 162 afy:= @aI.sub Pg 162 zY.pre zY.post IX Om abf rfl (λx y h=>rR (b:=24) x y h)
theorem Yn:aI Pg 162 xd:=mk No EO an b8
theorem abe:aI Pg 162 ace:= @aI.sub Pg 162 xd.pre xd.post EO IW Yn rfl (λx y h=>rR (b:=24) x y h)
theorem Yo:aI Pg 99 xf:=mk Np EP an b8
theorem abi:aI Pg 99 acg:= @aI.sub Pg 99 xf.pre xf.post EP zm Yo rfl (λx y h=>rR (b:=8) x y h)
theorem Lz x:kK (kB x) (vS x):=by
 unfold kB vS sa aV bL ck bB bF bH aX cK cA;with_reducible repeat' first|(refine OI.o ?_;constructor)|intro _
theorem LS:aI Pg 132 Me:=xF Bo kB vS Lz (ac U2 (ac abj (ac abe an))) b8
theorem II x:kK (jN x) (uh x):=by
 unfold jN uh qE aV bh bL ck bB j7 kJ aX cK aF cA;with_reducible repeat' first|(refine OI.o ?_;constructor)|intro _
theorem Jl:aI Pg 137 Kz:=xF zO jN uh II (ac Ba an) b8
theorem CY x:kK (gW x) (qj x):=by
 unfold gW qj mF aV bh bL dh ck bB kJ aX cK aF cA;with_reducible repeat' first|(refine OI.o ?_;constructor)|intro _
theorem Dg:aI Pg 138 D3:=xF vG gW qj CY (ac Ba an) b8
theorem Jt:aI Pg 219 KK:=mk zS qz an b8
theorem LY:aI Pg 198 Mj:=mk Bs vV (ac Jt an) b8
theorem E9:aI Pg 202 Fw:=mk w9 rA an b8
theorem Jp:aI Pg 164 KF:=mk zR ut (ac E9 an) b8
theorem uT x:kK (fU x) (j8 x):=by
 unfold fU j8 j9 ck bB kJ cK aF cA;with_reducible repeat' first|(refine OI.o ?_;constructor)|intro _
theorem uU:aI Pg 192 uX:=xF ou fU j8 uT (ac LY an) b8
theorem AE x:kK (jq x) (ov x):=by
 unfold jq ov oC aV bh bd j7 bF aF;with_reducible repeat' first|(refine OI.o ?_;constructor)|intro _
theorem AL:aI Pg 163 AT:=xF tw jq ov AE (ac uU an) b8
theorem Ym:aI Pg 133 YZ:=mk Nn wJ (ac AL (ac Jp an)) b8
theorem Og x:kK (lK x) (xD x):=by
 unfold lK xD xT bd bB bF kJ aX cK aF cA;with_reducible repeat' first|(refine OI.o ?_;constructor)|intro _
theorem OP:aI Pg 134 Pz:=xF DX lK xD Og an b8
theorem yp:aI Pg 136 HC:=mk yH o_ an b8
theorem IL x:kK (nk x) (ui x):=by
 unfold nk ui uH bB kJ aX cK aF cA;with_reducible repeat' first|(refine OI.o ?_;constructor)|intro _
theorem Ju:aI Pg 165 KL:=xF zU nk ui IL (ac yp an) b8
theorem Hh x:kK (jm x) (sU x):=by
 unfold jm sU sZ ck bd bB bF kJ aX cK aF cA;with_reducible repeat' first|(refine OI.o ?_;constructor)|intro _
theorem Hs:aI Pg 135 HI:=xF yL jm sU Hh (ac yp (ac Ju an)) b8
theorem Jo:aI Pg 98 KC:=mk nA gX (ac sX (ac LS (ac Jl (ac Dg an)))) b8
def tv2 (t:TypeId):Option Ty:=if aC t 167 then af (.pr .un (.pr .un (.pr .un (.pr .un eh)))) else b8 t
theorem Jm:aI Pg 132 KA:=mk zP nj (ac OQ (ac af7 (ac af6 an))) tv2
theorem Jn:aI Pg 98 KB:=mk zQ li (ac sX (ac Jm (ac Ym (ac OP (ac Hs an))))) tv2
theorem LV:aI Pg 98 Mg:=(aI.orE (pre:=nA.pre) (post:=nA.post) (m:=gX) (m':=li) rfl Jo Jn)
theorem nY:aI Pg 66 Fo:=mk wV fQ (ac OQ (ac EY (ac sX (ac B5 (ac xI (ac B4 (ac LV (ac abi an)))))))) b8
def tv3 (t:TypeId):Option Ty:=if aC t 91 then af (.pr .un (.pr .un qb)) else b8 t
theorem BQ x:kK (eB x) (po x):=by
 unfold eB po lO aV bh bw bL cN bd bB bF bH aX cK aF cA;with_reducible repeat' first|(refine OI.o ?_;constructor)|intro _
theorem B9:aI Pg 40 Cj:=xF uN eB po BQ (ac kQ (ac mD (ac nY (ac ku an)))) tv3
def tv4 (t:TypeId):Option Ty:=if aC t 91 then af (.pr .un (.pr .un (.pr .un qb))) else b8 t
theorem BP x:kK (dj x) (pn x):=by
 unfold dj pn jT aV bh bw cu bL dh eZ bd bB bF bH aX cK aF cA;with_reducible repeat' first|(refine OI.o ?_;constructor)|intro _
theorem B8:aI Pg 40 Ci:=xF uM dj pn BP (ac kQ (ac mD (ac nY (ac ku an)))) tv4
def tv5 (t:TypeId):Option Ty:=if aC t 91 then af (.pr .un (.pr .un (.pr .un (.pr .un qb)))) else b8 t
theorem BO x:kK (dO x) (pm x):=by
 unfold dO pm jS aV bh bw cu dU bL cN eZ mB bd bB bF bH aX cK aF cA;with_reducible repeat' first|(refine OI.o ?_;constructor)|intro _
theorem B7:aI Pg 40 Ch:=xF uL dO pm BO (ac kQ (ac mD (ac nY (ac ku an)))) tv5
def tv6 (t:TypeId):Option Ty:=if aC t 91 then af (.pr .un (.pr .un (.pr .un (.pr .un (.pr .un qb))))) else b8 t
theorem BN x:kK (eA x) (pl x):=by
 unfold eA pl jR aV bh bw cu dU iW bL eZ mB nK bd bB bF bH aX cK aF cA;with_reducible repeat' first|(refine OI.o ?_;constructor)|intro _
theorem B6:aI Pg 40 Cg:=xF e_ eA pl BN (ac kQ (ac mD (ac nY (ac ku an)))) tv6
theorem Dc:aI Pg 40 DZ:=(aI.orE (pre:=e_.pre) (post:=e_.post) (m:=eA) (m':=(λx=>orE (dO x) ((λx=>orE (dj x) (eB x)) x))) rfl B6 (aI.orE (pre:=e_.pre) (post:=e_.post) (m:=dO) (m':=(λx=>orE (dj x) (eB x))) rfl B7 (aI.orE (pre:=e_.pre) (post:=e_.post) (m:=dj) (m':=eB) rfl B8 B9)))
theorem Uk x:kK (lJ x) (BW x):=by
 unfold lJ BW xO aV bL ck bB il bF bH aX cK aF cA;with_reducible repeat' first|(refine OI.o ?_;constructor)|intro _
theorem B':aI Pg 17 VO:=xF Kn lJ BW Uk (ac MW (ac abc (ac Dc an))) b8
theorem X5 x:kK (rE x) (EK x):=by
 unfold rE EK Aw bB il bF bH aX cK aF cA;with_reducible repeat' first|(refine OI.o ?_;constructor)|intro _
theorem Yl:aI Pg 18 YV:=xF Nl rE EK X5 (ac B' (ac Bb (ac UY (ac OO an)))) b8
theorem aem x:kK (C5 x) (Oi x):=by
 unfold C5 Oi OV aV bh bw cu eZ bB bF cK aF cA;with_reducible repeat' first|(refine OI.o ?_;constructor)|intro _
theorem af4:aI Pg 32 afw:=xF Xk C5 Oi aem an b8
abbrev Lf1:List PB:=[.cells 34 [.d mK],.cells 74 [.d Kf0],.rows 77 aj gp,.rows 57 ai gp,.cells 52 [.d jt]]
abbrev Lf4:List PB:=[.cells 34 [.d mK]]
abbrev Lf5:List PV:=[.ptr 0 0,.ptr 1 0,.row 2,.row 3,.ptr 4 0]
abbrev Lf6:List PB:=[.cells 34 [.d mK],.cells 74 [.d Kf0],.rows 77 aj gp,.rows 57 ai gp]
abbrev Lf8:List PV:=[.ptr 0 0,.ptr 1 0,.row 2,.row 3,.ptr 4 0,.d .bool]
def Nj:FT:=⟨⟨[.d nI,.d Kd0,.d jt],[]⟩,⟨[.agg [.row 1,.d kL,.d kL,.d kL,.d kL,.d kL,.d (.sl aM),.d kL,.d (.sl aM)],.row 0],[.rows 3 aj aM,.rows 50 aj (.sl aM)]⟩,dT [(14,(.j ⟨[22,23],[3,5,6,7,24],⟨[.ptr 0 0,.ptr 1 0,.ptr 2 0,.ptr 3 0,.d aM],[.cells 31 Ld3,.cells 52 Ld4,.cells 62 [.row 4,.row 5,.row 6,.row 7,.row 8,.row 9,.d (.sl aM),.row 10,.row 11],.cells 50 qN,.rows 50 aj (.sl aM),.rows 50 aj (.sl aM),.rows 50 aj (.sl aM),.rows 50 aj (.sl aM),.rows 50 aj (.sl aM),.rows 50 aj (.sl aM),.rows 50 aj (.sl aM),.rows 3 ai aM]⟩,[]⟩))]⟩
def YT:cr:=cn Nj pQ
def wX:FT:=⟨⟨[.d nI,.d jt],[]⟩,⟨[.d .bool],[]⟩,dT [(2,(.j ⟨[],[4],⟨[.d .bool],[]⟩,[]⟩))]⟩
def Fq:cr:=cn wX jC
def Gk:FT:=⟨⟨[.d mK],[]⟩,⟨[.d kL,.d kL,.d aM],[]⟩,dT [(24,(.j ⟨[34,35],[1,2,3,7,8,36],⟨[.ptr 0 0,.row 1,.row 2,.ptr 3 0,.mp 4,.d aM],[.cells 34 [.d mK],.rows 50 aj (.sl aM),.rows 50 aj (.sl aM),.cells 62 [.d kL,.d kL,.d kL,.d kL,.d kL,.d kL,.d (.sl aM),.d kL,.d (.sl aM)],.mp aM aM]⟩,[.mpt 8 aM aM]⟩)),(41,(.j ⟨[34,35,36],[1,2,3,7,8],⟨[.ptr 0 0,.row 1,.row 2,.ptr 3 0,.mp 4],[.cells 34 [.d mK],.rows 50 aj (.sl aM),.rows 50 aj (.sl aM),.cells 62 [.row 5,.d kL,.d kL,.d kL,.d kL,.d kL,.d (.sl aM),.d kL,.d (.sl aM)],.mp aM aM,.rows 50 aj (.sl aM)]⟩,[.mpt 8 aM aM]⟩))]⟩
def RX:cr:=cn Gk lw
def JS:FT:=⟨⟨[.d mK],[]⟩,⟨[.d (.sl gp),.d aM],[]⟩,dT [(22,(.j ⟨[4,29,30],[1,7,8,9,31],⟨[.ptr 0 0,.ptr 1 0,.row 2,.row 3,.d aM],Lf6⟩,[.nil 9 57 gp]⟩)),(30,(.j ⟨[4,29,30,31],[1,7,8,9],⟨[.ptr 0 0,.ptr 1 0,.row 2,.row 3],Lf6⟩,[]⟩)),(33,(.j ⟨[4,10,29,30,31],[1,7,8,9,11],⟨Lf5,Lf1⟩,[]⟩)),(34,(.s 11 0 0 4)),(35,(.j ⟨[4,10,29,30,31],[1,7,8,9,11],⟨Lf5,Lf1⟩,[]⟩)),(36,(.s 11 0 0 4)),(46,(.j ⟨[4,10,29,30,31,60,61],[1,7,8,9,11,62],⟨[.ptr 0 0,.ptr 1 0,.row 2,.row 3,.ptr 4 0,.d aM],Lf1⟩,[]⟩)),(54,(.j ⟨[4,10,29,30,31,60,61,62],[1,7,8,9,11],⟨Lf5,Lf1⟩,[]⟩)),(57,(.j ⟨[4,10,12,29,30,31,60,61,62],[1,7,8,9,11,14],⟨Lf8,Lf1⟩,[]⟩)),(59,(.j ⟨[4,10,12,29,30,31,60,61,62],[1,7,8,9,11,107],⟨Lf8,Lf1⟩,[]⟩))]⟩
def U7:cr:=cn JS mR
def DR:FT:=⟨⟨[],[]⟩,⟨[.d .bool],[]⟩,dT [(6,(.j ⟨[],[0],⟨[.d .bool],[]⟩,[]⟩))]⟩
def Ps:cr:=cn DR tL
def Kg:FT:=⟨⟨[.d (.sl gp),.d gp],[]⟩,⟨[.d .bool],[]⟩,dT [(6,(.j ⟨[7,8],[3,9],⟨u_,[.cells 57 [.d gp]]⟩,[]⟩))]⟩
def VD:cr:=cn Kg uu
def uO:FT:=⟨⟨[.d Kf1],[]⟩,⟨[.d .bool],[]⟩,dT [(13,(.j ⟨[4,5,7,9,11],[3,66],⟨g_,Lf4⟩,[]⟩)),(24,(.j ⟨[4,5,7,9,11,68],[3,69],⟨u_,Lf4⟩,[]⟩)),(35,(.j ⟨[4,5,7,9,11,68,69],[3,114],⟨g_,Lf4⟩,[]⟩)),(47,(.j ⟨[11,116,117],[118],⟨[.d aM],[]⟩,[]⟩))]⟩
def Ck:cr:=cn uO jO
theorem X3 x:kK (pQ x) (EI x):=by
 unfold pQ EI Au xm Ek aV bh bw cu dU iW ve xn Lj Prod.q12 cN eZ nK NJ ck bB vQ bF aX cK cA;with_reducible repeat' first|(refine OI.o ?_;constructor)|intro _
theorem Yk:aI Pg 24 YT:=xF Nj pQ EI X3 (ac zB (ac Jr (ac Js (ac Gh (ac MV an))))) b8
theorem E0:aI Pg 33 Fq:=mk wX jC an b8
theorem Qz x:kK (lw x) (zh x):=by
 unfold lw zh vB aV bh bw cN ck bd bB il bH kJ aX cK aF cA;with_reducible repeat' first|(refine OI.o ?_;constructor)|intro _
theorem F8:aI Pg 9 RX:=xF Gk lw zh Qz (ac B' (ac MW (ac Yk (ac U2 (ac zB an))))) b8
theorem Ug x:kK (mR x) (BS x):=by
 unfold mR BS xK aV bh bw cu dU iW bL dh cN ck bd bB il bF bH kJ aX cK aF cA;with_reducible repeat' first|(refine OI.o ?_;constructor)|intro _
theorem I_:aI Pg 13 U7:=xF JS mR BS Ug (ac F8 (ac E0 (ac Bb an))) b8
theorem ON:aI Pg 12 Ps:=mk DR tL (ac I_ (ac af4 an)) b8
theorem UW:aI Pg 20 VD:=mk Kg uu an b8
theorem hlaw25_ShbStronger:aI Pg 6 Ck:=mk uO jO (ac E3 (ac F8 (ac ON (ac I_ (ac QV (ac B' (ac Yl (ac Yb (ac UW an))))))))) b8
theorem run_law {P:Program} {f:FuncId} {pre:Tm} {m:pre.ty.den->Option (Tm.ty ⟨[.d .bool],[]⟩).den} (sp:pY P f ⟨pre,⟨[.d .bool],[]⟩,m⟩) (h0:pre.bs.length=0) {x:pre.ty.den} (M:m x=af ai) {vs:List TV} {hp:bk} (hi:Db pre x=af (vs,hp)) {la:List AV} (hla:cL hp vs=af la)
 {W:World} {us:List Value} (hg:∀ g cells,G g=af cells->nC (λ_=>False) W (.ptr cells 0) (.pointer (af ⟨g,0,ah⟩))) (hrel:j_ (λ_=>ah) (λ_=>False) W la us):
 Calls P f us.toArray W λe w'=>e= .returned (.bool ai)/\Below W.heap.size W w':=by
 obtain⟨l1,I⟩:=wO hi;obtain⟨l2,J⟩:=wO (t:=⟨[.d .bool],[]⟩) (x:=ai) (vs:=[.f .bool ai]) (h1:=PT.leaf) rfl;have hn:bC hp=λ_=>ah:=by
  funext n;cases hb:bC hp n with
  |none=>rfl
  |some b=>
   obtain⟨i,c,rfl,h1,_⟩:=jF hb;have:=I.lt_len h1;omega
 have own0:∀ (φ:PM) k,¬own φ (bC hp) k:=by rintro φ k ⟨i,b,h1,_⟩;rw[hn] at h1;cases h1
 have htot:tot (λ_=>False) (λ_=>ah) (bC hp)=λ_=>False:=by
  funext k;exact propext ⟨λh=>h.elim id λh=>cV h (own0 _ k),λh=>h.elim⟩
 refine Calls.mono (sp.calls x ai M vs hp l1 _ PT.leaf l2 la _ I J hla rfl (λ_=>ah) (λ_=>False) W us ⟨(λi j b b' k h1=>by rw[hn] at h1;cases h1),(λi b h1=>by rw[hn] at h1;cases h1),(λk h=>h.elim),(λg cells h=>by rw[htot];exact hg g cells h)⟩ (by rw[htot];exact hrel) (λn k h=>by cases h)) ?_;rintro en w' ⟨v,φ',rfl,he,_,_,_,hv⟩;refine ⟨?_,⟨he.os,he.tape,he.output,he.size,λk hk=>he.blk k hk (own0 _ k)⟩⟩;have hv:cM φ' _ w' (.f (.raw (.bool ai))) v:=hv;cases hv with
 |f h=>cases h;rfl
theorem gKw:Tryz.prog.globalNamed "interleave/token.keywords" =af 0:=by kernel_rfl
theorem tKw:(Tryz.prog.globals[0]?).map (·.type)=af 269:=by kernel_rfl
theorem kw_of_laid {W:World} (h:laidMetH Tryz.prog [("interleave/token.keywords",Rows.laid_interleave_token_keywords)] W):∀ g cells,G g=af cells→nC (λ_=>False) W (.ptr cells 0) (.pointer (af ⟨g,0,ah⟩)):=by
 intro g cells U;unfold G at U;split at U
 .rename_i hg;have hg:=eq_of_beq hg;subst hg;cases U;rw[MakeChecks.laidMetH_plain _ _ _ (by kernel_rfl)] at h;obtain⟨ps,⟨g0,t0,cs0,f0,p0,q0,M,Z,Y,hd0,_,_⟩,_,_⟩:=h;obtain rfl:=iX (gKw.symm.trans M);obtain rfl:=iX (tKw.symm.trans Z);obtain⟨xs,m1,rfl,J,hlen,hn,hel⟩:=DataW.trod_array Tryz.underlying269 hd0;have c1:Tryz.prog.cellsOf 9=1:=by kernel_rfl
  have c22:Tryz.prog.cellsOf 269=22:=by kernel_rfl
  rw[c22] at hlen;simp only[aD,Rows.laid_interleave_token_keywords,DataW.agg.injEq] at J;have hxs:=J.1;have hcell:∀ j,j<22→∃ l,(xs.map (·.1))[j]? =af (.lit (.string l))∧W.cell? ⟨0,j,ah⟩=af (.string ⟨l.toArray⟩):=λj hj=>by
   have h1:=hel j hj;rw[c1,Nat.mul_one] at h1;rw[aB (by omega)] at h1;obtain⟨s,e1,e2,_⟩:=DataW.trod_string Tryz.underlying9 h1;refine ⟨s.data.toList,?_,?_⟩
   .rw[a8,aB (by omega),b_,e2]
   .have:=World.var?_cell M Y j;rw[this];have h2:cs0.toList[j]? =af (.string s):=by
     have:((cs0.toList.drop j).take 1)[0]? =af (.string s):=by rw[e1];rfl
     rw[cH,aE (by omega),hY] at this;simpa using this
    rw[← cI,h2]
  have hb:0<W.heap.size:=by
   obtain⟨l,_,h2⟩:=hcell 0 (by omega);exact World.block_lt_of_cell? W _ h2
  refine .ptr C7 0 0 0 (λj=>(W.cell? ⟨0,j,ah⟩).getD undef) (λh=>h) hb (λx I=>?_) (λj hj=>?_) (λj x I=>?_)
  .simp only[C7,bl,cw,gf] at I;rcases I with rfl|rfl|rfl|rfl|rfl|rfl|rfl|rfl|rfl|rfl|rfl|rfl|rfl|rfl|rfl|rfl|rfl|rfl|rfl|rfl|rfl|rfl<;>rfl
  .obtain⟨l,_,h2⟩:=hcell j hj;rw[bO,h2];rfl
  .have hj:j<22:=(bg.1 I).1;obtain⟨l,h1,h2⟩:=hcell j hj;rw[← hxs] at h1;have:x= .raw (.string ⟨l.toArray⟩):=by
    rcases j with _|_|_|_|_|_|_|_|_|_|_|_|_|_|_|_|_|_|_|_|_|_|j;all_goals first|(simp only[qT,List.getElem?_cons_succ,ak,DataW.lit.injEq,Lit.string.injEq,C7] at h1 I;subst h1;subst I;rfl)|omega
   rw[this,h2];exact .raw _
 .cases U
end
end Go.Proofs.YtgijlolllojpaaaGreatDoor.AI
