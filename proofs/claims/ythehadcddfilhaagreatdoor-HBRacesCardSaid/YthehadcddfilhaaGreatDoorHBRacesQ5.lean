/-
  Texts of the proof, part 6 of 6: what is used to prove the statement. No condition.
-/
import Derived.Test.YthehadcddfilhaaGreatDoorHBRacesQ4
import Derived.Test.YthehadcddfilhaaGreatDoorRows
import Derived.LaidMore
namespace Go.Proofs.YthehadcddfilhaaGreatDoor.AI
open Go.RowKit
set_option maxRecDepth 100000
set_option maxHeartbeats 4000000
set_option linter.unusedVariables false
set_option linter.unusedSimpArgs false
open _root_.Bool renaming true→ai,false→aj
open _root_.List renaming getElem?_cons_zero→qX
open _root_.Nat renaming beq→aC
open _root_.Option renaming some→af,none→ah,map_some→ch
open _root_.Prod renaming p2→aY,p3→bh,p4→bx,q3→bL,p5→cC,q5→cX,q4→dA,p6→dW,q6→fh,q7→kD,p7→kE,q8→qa,p8→Ah,p9→Cy,p10→Ej
noncomputable section
abbrev akl:List PV:=[.row 1,.row 2,.row 3,.row 4,.row 5,.row 6,.d (.sl aM),.row 7,.row 8]
abbrev Ld0:List PB:=[.cells 107 akl,.rows 53 aj (.sl aM),.rows 53 aj (.sl aM),.rows 53 aj (.sl aM),.rows 53 aj (.sl aM),.rows 53 aj (.sl aM),.rows 53 aj (.sl aM),.rows 53 aj (.sl aM),.rows 3 ai aM,.rows 3 aj aM]
abbrev Ld4:List PV:=[.d aM,.d aM,.d aM,.d aM,.d aM,.d (.sl aM),.d (.sl aM)]
abbrev Ld3:List PV:=[.d (.sl ky),.d (.sl q_),.d (.sl lm),.d (.sl .str),.d (.sl .str),.d (.sl oB)]
abbrev Ld1:List PB:=[.cells 59 Ld4,.cells 107 [.row 3,.row 4,.row 5,.row 6,.row 7,.row 8,.d (.sl aM),.row 9,.row 10],.cells 31 Ld3,.rows 53 aj (.sl aM),.rows 53 aj (.sl aM),.rows 53 aj (.sl aM),.rows 53 aj (.sl aM),.rows 53 aj (.sl aM),.rows 53 aj (.sl aM),.rows 53 aj (.sl aM),.rows 3 ai aM]
abbrev Ld2:List PB:=[.cells 107 akl,.rows 53 aj (.sl aM),.rows 53 aj (.sl aM),.rows 53 aj (.sl aM),.rows 53 aj (.sl aM),.rows 53 aj (.sl aM),.rows 53 aj (.sl aM),.rows 53 aj (.sl aM),.rows 3 ai aM,.rows 3 aj aM,.cells 59 Ld4]
abbrev Ld5:List PB:=[.rows 153 aj d_,.rows 4 ai .bool,.rows 155 ai ie,.cells 84 HH]
abbrev Ld6:List PB:=[.rows 153 aj d_,.rows 4 ai .bool,.rows 155 ai ie]
abbrev P1:List PB:=[.rows 3 ai aM]
abbrev Ld8:List PB:=[.cells 87 [.d iQ],.cells 59 [.d fH],.cells 235 [.d Kd1]]
abbrev Ld9:List PB:=[.rows 3 ai aM,.cells 3 [.d aM]]
abbrev ao5:List PB:=[.cells 31 [.d md],.cells 84 [.row 4,.d aM,.row 5,.row 6],.cells 3 [.d aM],.cells 84 Cr,.rows 153 aj d_,.rows 4 ai .bool,.rows 155 ai ie]
abbrev Mw:List PB:=[.rows 3 aj aM]
abbrev ao4:List PB:=[.cells 84 Cr,.cells 84 [.row 2,.d aM,.row 3,.row 4],.rows 153 aj d_,.rows 4 aj .bool,.rows 155 aj ie]
abbrev Tv:List PB:=[.cells 34 [.d oA],.rows 47 ai gR]
abbrev P3:List PV:=[.row 0,.d aM]
abbrev ado:List PB:=[.rows 53 aj (.sl aM)]
abbrev akk:List PB:=[.rows 53 aj (.sl aM),.rows 3 aj aM]
abbrev ZM:List PB:=[.cells 59 [.d fH]]
abbrev akj:List PV:=[.ptr 0 0,.ptr 1 0,.ptr 2 0]
def NC:FT:=⟨⟨HG,[]⟩,⟨[.d aM],[]⟩,dG [(3,(.j ⟨[0,1],[12],⟨[.d .bool],[]⟩,[]⟩))]⟩
def Zn:cg:=cn NC jw
def G2:FT:=⟨⟨[.d (.sl aM),.d (.sl aM)],[]⟩,⟨nB,[]⟩,dG [(8,(.j ⟨[0,1,14],[5,15],⟨P3,Mw⟩,[]⟩))]⟩
def Td:cg:=cn G2 kh
def XH:FT:=⟨⟨HG,[]⟩,⟨[.d aM],[]⟩,dG [(3,(.j ⟨[0,1],[12],⟨[.d .bool],[]⟩,[]⟩))]⟩
def ag1:cg:=cn XH C3
def Nj:FT:=⟨⟨[.d (.sl aM),.d (.sl aM)],[]⟩,⟨nB,[]⟩,dG [(8,(.j ⟨[0,1,14],[5,15],⟨P3,Mw⟩,[]⟩))]⟩
def Y1:cg:=cn Nj pJ
def XO:FT:=⟨⟨nB,[]⟩,⟨nB,[]⟩,.leaf⟩
def D9:cg:=cn XO Oz
def ajt:cg:=⟨D9.pre,D9.post,B9⟩
def Kj:FT:=⟨⟨[.d uO],[]⟩,⟨[.row 0],ado⟩,dG [(8,(.j ⟨[9,10],[3,11],⟨P3,ado⟩,[]⟩))]⟩
def Wa:cg:=cn Kj ir
def R8:FT:=⟨⟨nB,[]⟩,⟨[.row 0],P1⟩,dG [(8,(.a [.nil 2 3 aM])),(12,(.a [.nil 2 3 aM]))]⟩
def zY:cg:=cn R8 IU
def age:cg:=⟨zY.pre,zY.post,o6⟩
def Kk:FT:=⟨⟨[.d Kd0],[]⟩,⟨[.agg [.row 0,.row 1,.row 2,.row 3,.row 4,.row 5,.d (.sl aM),.row 6,.row 7]],[.rows 53 aj (.sl aM),.rows 53 aj (.sl aM),.rows 53 aj (.sl aM),.rows 53 aj (.sl aM),.rows 53 aj (.sl aM),.rows 53 aj (.sl aM),.rows 53 aj (.sl aM),.rows 3 ai aM]⟩,.leaf⟩
def Wb:cg:=cn Kk uu
def Nx:FT:=⟨⟨P3,ado⟩,⟨nB,ado⟩,dG [(3,(.j ⟨[1],[0,12],⟨[.row 0,.d .bool],ado⟩,[]⟩))]⟩
def Zh:cg:=cn Nx tY
def Km:FT:=⟨⟨akj,Ld1⟩,⟨[.d uO],Ld1⟩,dG [(18,(.j ⟨[6],[0,1,2,25],⟨Ee,Ld1⟩,[]⟩))]⟩
def Wd:cg:=cn Km uw
def Nz:FT:=⟨⟨[.d md],[]⟩,⟨[.d Kd0],[]⟩,dG [(8,(.j ⟨[40],[2,3,41],⟨vX,[.cells 107 [.nil,.nil,.nil,.nil,.nil,.nil,.nil,.nil,.nil],.cells 107 [.row 2,.row 3,.row 4,.row 5,.row 6,.row 7,.nil,.row 8,.row 9],.rows 53 aj (.sl aM),.rows 53 aj (.sl aM),.rows 53 aj (.sl aM),.rows 53 aj (.sl aM),.rows 53 aj (.sl aM),.rows 53 aj (.sl aM),.rows 53 aj (.sl aM),.rows 3 aj aM]⟩,[]⟩))]⟩
def Zj:cg:=cn Nz pO
def G1:FT:=⟨⟨HG,[]⟩,⟨[.row 0],Mw⟩,dG [(4,(.j ⟨[0,1,5],[6],⟨[.d .bool],[]⟩,[]⟩)),(6,(.j ⟨[0,1,6],[5],⟨[.d aM],[]⟩,[]⟩)),(16,(.j ⟨[],[7],⟨[.row 0],Mw⟩,[]⟩)),(17,(.j ⟨[1],[7,33],⟨[.row 0,.d .bool],Mw⟩,[]⟩))]⟩
def Tc:cg:=cn G1 sG
def w9:FT:=⟨⟨[.row 0],Mw⟩,⟨nB,Mw⟩,.leaf⟩
def acv:cg:=cn w9 wJ
def agd:cg:=⟨w9.pre,⟨w9.post.vs,[]⟩,vo⟩
def Az:FT:=⟨⟨[.d (.sl aM),.row 0],Mw⟩,⟨nB,Mw⟩,dG [(8,(.j ⟨[0,14],[1,5,15],⟨[.row 0,.row 1,.d aM],[.rows 3 aj aM,.rows 3 aj aM]⟩,[]⟩))]⟩
def agb:cg:=cn Az tM
def ajs:cg:=⟨Az.pre,⟨Az.post.vs,[]⟩,B8⟩
def Kh:FT:=⟨⟨[.row 0,.d aM,.row 1],akk⟩,⟨[],akk⟩,dG [(0,(.j ⟨[1],[0,2,13],⟨[.row 0,.row 1,.d .bool],akk⟩,[]⟩))]⟩
def V9:cg:=cn Kh lI
def R2:FT:=⟨⟨[.ptr 0 0,.d aM,.row 9],Ld0⟩,⟨[],Ld0⟩,.leaf⟩
def acq:cg:=cn R2 wE
def Ny:FT:=⟨⟨[.d md,.ptr 0 0,.d fH,.row 9],Ld0⟩,⟨[],Ld0⟩,dG [(6,(.j ⟨[],[],⟨[],Ld0⟩,[]⟩)),(11,(.j ⟨[20],[1,3,4,6,32],⟨[.ptr 0 0,.row 9,.ptr 10 0,.ptr 11 0,.d .bool],[.cells 107 akl,.rows 53 aj (.sl aM),.rows 53 aj (.sl aM),.rows 53 aj (.sl aM),.rows 53 aj (.sl aM),.rows 53 aj (.sl aM),.rows 53 aj (.sl aM),.rows 53 aj (.sl aM),.rows 3 ai aM,.rows 3 aj aM,.cells 31 Ld3,.cells 59 Ld4]⟩,[]⟩)),(48,(.j ⟨[],[1,3,6,129],⟨[.ptr 0 0,.row 9,.ptr 10 0,.d .bool],Ld2⟩,[]⟩)),(59,(.j ⟨[141],[1,3,6,140,142],⟨[.ptr 0 0,.row 9,.ptr 10 0,.row 8,.d aM],Ld2⟩,[]⟩)),(67,(.j ⟨[141,142],[1,3,6,140],⟨[.ptr 0 0,.row 9,.ptr 10 0,.row 8],Ld2⟩,[]⟩))]⟩
def Zi:cg:=cn Ny rH
def R3:FT:=⟨⟨[.d md,.d Kd0,.d fH],[]⟩,⟨[.d Kd0,.row 0],Mw⟩,dG [(14,(.j ⟨[22,23],[3,5,6,7,24],⟨[.ptr 0 0,.ptr 1 0,.ptr 2 0,.ptr 3 0,.d aM],[.cells 31 Ld3,.cells 59 Ld4,.cells 107 [.row 4,.row 5,.row 6,.row 7,.row 8,.row 9,.d (.sl aM),.row 10,.row 11],.cells 53 nB,.rows 53 aj (.sl aM),.rows 53 aj (.sl aM),.rows 53 aj (.sl aM),.rows 53 aj (.sl aM),.rows 53 aj (.sl aM),.rows 53 aj (.sl aM),.rows 53 aj (.sl aM),.rows 3 ai aM]⟩,[]⟩))]⟩
def acr:cg:=cn R3 sF
def JS:FT:=⟨⟨nB,[]⟩,⟨[.row 0],P1⟩,dG [(4,(.a [.nil 2 3 aM]))]⟩
def Vt:cg:=cn JS ui
def Nh:FT:=⟨⟨HG,[]⟩,⟨nB,[]⟩,dG [(5,(.j ⟨[1],[0,12],⟨[.row 0,.d .bool],P1⟩,[]⟩)),(14,(.j ⟨[1],[0],⟨[.row 0],P1⟩,[]⟩)),(23,(.j ⟨[],[0],⟨[.row 0],P1⟩,[]⟩))]⟩
def YZ:cg:=cn Nh pI
def JR:FT:=⟨⟨[.d md,.d aM],[]⟩,⟨[.d aM],[]⟩,dG [(3,(.j ⟨[1],[2,13],⟨hY,[.cells 31 Ld3]⟩,[]⟩))]⟩
def Vs:cg:=cn JR ru
def Bm:FT:=⟨⟨[.d md,.d fH],[]⟩,⟨[.d aM,.d .bool],[]⟩,dG [(6,(.j ⟨[7],[2,3,8],⟨qS,[.cells 31 Ld3,.cells 59 Ld4]⟩,[]⟩))]⟩
def Mc:cg:=cn Bm oL
def Bj:FT:=⟨⟨[.d md,.d fH],[]⟩,⟨[.d aM,.d .bool],[]⟩,dG [(6,(.j ⟨[7],[2,3,8],⟨qS,[.cells 31 Ld3,.cells 59 Ld4]⟩,[]⟩))]⟩
def L_:cg:=cn Bj oJ
def wW:FT:=⟨⟨[.d .str],[]⟩,⟨[.d .bool],[]⟩,dG [(6,(.j ⟨[0,5],[6],⟨[.d aM],[]⟩,[]⟩))]⟩
def Fm:cg:=cn wW kV
def Bg:FT:=⟨⟨[.d .str],[]⟩,⟨[.d .bool],[]⟩,dG [(3,(.j ⟨[0],[16],⟨[.d .bool],[]⟩,[]⟩)),(14,(.j ⟨[],[18],⟨[.ptr 0 0],[.mp lm .un]⟩,[]⟩)),(24,(.j ⟨[],[18],⟨[.ptr 0 0],[.mp lm .un]⟩,[]⟩)),(25,(.j ⟨[3,4],[18,23],⟨hY,[.mp lm .un]⟩,[]⟩)),(29,(.j ⟨[],[18,38],⟨hY,[.mp lm .un]⟩,[]⟩))]⟩
def L7:cg:=cn Bg oH
def Ko:FT:=⟨⟨HG,[]⟩,⟨[.d aM],[]⟩,dG [(6,(.j ⟨[0,1,7],[8],⟨[.d aM],[]⟩,[]⟩))]⟩
def Wi:cg:=cn Ko rJ
def BB:FT:=⟨⟨HG,[]⟩,⟨[.d .bool],[]⟩,.leaf⟩
def Mu:cg:=cn BB kw
def BA:FT:=⟨⟨[.d (.sl aM),.d gR],[]⟩,⟨[.d .bool],[]⟩,.leaf⟩
def Mt:cg:=cn BA mo
def Kl:FT:=⟨⟨[.d fH],[]⟩,⟨[.d .bool],[]⟩,dG [(2,(.j ⟨[],[2],⟨[.d .bool],[]⟩,[]⟩))]⟩
def Wc:cg:=cn Kl uv
def DU:FT:=⟨⟨[.d oA,.d aM,.d aM],[]⟩,⟨[.d .bool],[]⟩,dG [(5,(.j ⟨[],[3,7,8,30],⟨Ee,[.cells 34 [.d oA],.cells 59 [.d fH],.cells 59 [.d fH]]⟩,[]⟩)),(13,(.j ⟨[],[7,8,48],⟨qS,[.cells 59 [.d fH],.cells 59 [.d fH]]⟩,[]⟩)),(20,(.j ⟨[],[6],⟨[.d .bool],[]⟩,[]⟩))]⟩
def PF:cg:=cn DU qy
def Ki:FT:=⟨⟨[.d (.sl fH)],[]⟩,⟨[.d (.sl gR)],[]⟩,dG [(10,(.j ⟨[11,12],[3,4,13],⟨[.mp 0,.row 1,.d aM],[.mp aM aM,.rows 55 aj gR]⟩,[.mpt 3 aM aM]⟩))]⟩
def V_:cg:=cn Ki pw
def yD:FT:=⟨⟨u_,[]⟩,⟨[.d .bool],[]⟩,dG [(2,(.j ⟨[],[4],⟨[.d .bool],[]⟩,[]⟩))]⟩
def Hz:cg:=cn yD sU
def yE:FT:=⟨⟨[.d md,.d aM,.d .bool],[]⟩,⟨[.d .bool],[]⟩,dG [(2,(.j ⟨[],[6],⟨[.d .bool],[]⟩,[]⟩))]⟩
def HA:cg:=cn yE sV
def tB:FT:=⟨⟨[.d (.sl ky)],[]⟩,⟨[.d (.sl .str),.d .bool],[]⟩,dG [(8,(.j ⟨[0],[4,5],⟨P3,[.rows 9 ai .str]⟩,[.nil 4 9 .str]⟩)),(15,(.j ⟨[0],[4,5],⟨P3,[.rows 9 ai .str]⟩,[]⟩)),(37,(.j ⟨[0,5],[4,6,49],⟨[.row 0,.ptr 1 0,.d .bool],[.rows 9 ai .str,.cells 114 [.d ky]]⟩,[]⟩)),(48,(.j ⟨[0,5,51],[4,6,52],⟨[.row 0,.ptr 1 0,.d aM],[.rows 9 ai .str,.cells 114 [.d ky]]⟩,[]⟩))]⟩
def AY:cg:=cn tB hP
def tw:FT:=⟨⟨[.d md,.d (.sl .str)],[]⟩,⟨[.d .bool],[]⟩,dG [(10,(.j ⟨[17,18],[2,5,19],⟨FF,ZP⟩,[]⟩)),(27,(.j ⟨[30,31],[2,5,32],⟨FF,ZP⟩,[]⟩)),(50,(.j ⟨[52],[10,51,53],⟨[.mp 0,.row 1,.d aM],[.mp .str .bool,.rows 9 ai .str]⟩,[.mpt 10 .str .bool]⟩)),(62,(.j ⟨[12,52,53],[10,51,64],⟨[.mp 0,.row 1,.d .bool],[.mp .str .bool,.rows 9 ai .str]⟩,[.mpt 10 .str .bool]⟩))]⟩
def AX:cg:=cn tw dO
def tu:FT:=⟨⟨[.d md],[]⟩,⟨[.d .bool],[]⟩,dG [(8,(.j ⟨[8,9],[1,3,4,10],⟨[.ptr 0 0,.d aM,.d aM,.d aM],pZ⟩,[]⟩)),(20,(.j ⟨[3,4,8,9,10],[1,6,25],⟨qS,[.cells 31 [.d md],.cells 120 [.d oB]]⟩,[]⟩)),(27,(.j ⟨[8,9,10],[1,3,4,6],⟨[.ptr 0 0,.d aM,.d aM,.ptr 1 0],[.cells 31 [.d md],.cells 120 [.d oB]]⟩,[]⟩))]⟩
def AW:cg:=cn tu fZ
def tC:FT:=⟨⟨[.d md],[]⟩,⟨[.d .bool],[]⟩,dG [(3,(.j ⟨[],[1,34],⟨hY,pZ⟩,[]⟩)),(11,(.j ⟨[],[1,44],⟨hY,pZ⟩,[]⟩)),(21,(.j ⟨[],[1,58],⟨hY,pZ⟩,[]⟩)),(32,(.j ⟨[60,61],[1,62],⟨xh,pZ⟩,[]⟩))]⟩
def AZ:cg:=cn tC dP
def Bw:FT:=⟨⟨[.d md],[]⟩,⟨[.d HI],[]⟩,dG [(8,(.j ⟨[20],[2,3,21],⟨vX,ao4⟩,[]⟩)),(21,(.j ⟨[],[2,3],⟨[.ptr 0 0,.ptr 1 0],ao4⟩,[]⟩))]⟩
def Mo:cg:=cn Bw oN
def vC:FT:=⟨⟨[.d md],[]⟩,⟨[.d iQ],[]⟩,dG [(8,(.j ⟨[22,23],[2,3,24],⟨vX,[.cells 87 vY,.cells 87 [.d (.sl d_),.d aM,.d p_,.d (.sl ie),.row 2,.row 3,.row 4],.rows 2 aj aM,.rows 2 aj aM,.rows 3 aj aM]⟩,[]⟩))]⟩
def DY:cg:=cn vC dl
def sO:FT:=⟨⟨[.d p_,.d fH],[]⟩,⟨[.d .bool],[]⟩,dG [(6,(.j ⟨[0,13],[14],⟨[.d aM],[]⟩,[]⟩)),(20,(.j ⟨[0,13,14,17,18],[19],⟨[.d aM],[]⟩,[]⟩)),(31,(.j ⟨[0,13,14,17,18,19],[37],⟨[.d .bool],[]⟩,[]⟩))]⟩
def zU:cg:=cn sO cj
def zL:FT:=⟨⟨u_,[]⟩,⟨[.d .bool],[]⟩,dG [(2,(.j ⟨[],[4],⟨[.d .bool],[]⟩,[]⟩))]⟩
def KA:cg:=cn zL e9
def yz:FT:=⟨⟨[.d md,.d aM,.d aM],[]⟩,⟨[.d .bool],[]⟩,dG [(6,(.j ⟨[2,7],[3,8],⟨hY,pZ⟩,[]⟩)),(36,(.j ⟨[2,7],[3,18],⟨hY,pZ⟩,[]⟩)),(46,(.j ⟨[2,7],[3,26],⟨hY,pZ⟩,[]⟩)),(53,(.j ⟨[],[6],⟨[.d .bool],[]⟩,[]⟩)),(56,(.j ⟨[2,7],[3,43],⟨hY,pZ⟩,[]⟩)),(71,(.j ⟨[],[6],⟨[.d .bool],[]⟩,[]⟩)),(74,(.j ⟨[2,7],[3,61],⟨hY,pZ⟩,[]⟩)),(92,(.j ⟨[2,7],[3,71],⟨hY,pZ⟩,[]⟩)),(102,(.j ⟨[2],[3,79],⟨hY,pZ⟩,[]⟩))]⟩
def Hu:cg:=cn yz l7
def DO:FT:=⟨⟨[.d md,.d HI],[]⟩,⟨[.d .bool],[]⟩,dG [(3,(.j ⟨[],[2,31],⟨hY,pZ⟩,[]⟩)),(14,(.j ⟨[33,34],[2,35],⟨xh,pZ⟩,[]⟩))]⟩
def Pv:cg:=cn DO kg
def Bu:FT:=⟨⟨[.d md,.d HI,.d aM,.d aM,.d aM],[]⟩,⟨[.d .bool],[]⟩,dG [(15,(.j ⟨[],[10],⟨[.d .bool],[]⟩,[]⟩)),(21,(.j ⟨[],[10],⟨[.d .bool],[]⟩,[]⟩)),(24,(.j ⟨[2,4,11],[5,6,60],⟨qS,WA⟩,[]⟩)),(64,(.j ⟨[2,4,11],[5,6,109],⟨qS,WA⟩,[]⟩)),(81,(.j ⟨[],[10],⟨[.d .bool],[]⟩,[]⟩)),(87,(.j ⟨[],[10],⟨[.d .bool],[]⟩,[]⟩))]⟩
def Mm:cg:=cn Bu oM
def yA:FT:=⟨⟨[.d md,.d HI,.d aM,.d aM,.d aM],[]⟩,⟨[.d .bool],[]⟩,dG [(3,(.j ⟨[2,3,4],[5,6,30],⟨qS,WA⟩,[]⟩)),(25,(.j ⟨[],[10],⟨[.d .bool],[]⟩,[]⟩)),(29,(.j ⟨[],[10],⟨[.d .bool],[]⟩,[]⟩))]⟩
def Hw:cg:=cn yA jd
def wU:FT:=⟨⟨[.d md,.d iQ],[]⟩,⟨[.d .bool],[]⟩,dG [(2,(.j ⟨[],[4],⟨[.d .bool],[]⟩,[]⟩))]⟩
def Fk:cg:=cn wU kU
def uI:FT:=⟨⟨[.d md,.d fH],[]⟩,⟨[.d .bool],[]⟩,dG [(3,(.j ⟨[],[2,3,12],⟨qS,[.cells 31 [.d md],.cells 59 [.d fH]]⟩,[]⟩)),(10,(.j ⟨[],[4],⟨[.d .bool],[]⟩,[]⟩))]⟩
def Ci:cg:=cn uI jB
def qM:FT:=⟨⟨[.d md,.d iQ,.d fH],[]⟩,⟨[.d .bool],[]⟩,dG [(2,(.j ⟨[],[4,5,7],⟨qS,[.cells 87 [.d iQ],.cells 59 [.d fH]]⟩,[]⟩)),(4,(.j ⟨[],[4,5,8],⟨akj,Ld8⟩,[]⟩)),(10,(.j ⟨[51],[4,5,8,52],⟨FG,Ld8⟩,[]⟩)),(22,(.j ⟨[10,51,52],[4,5,8,64],⟨Ee,Ld8⟩,[]⟩)),(34,(.j ⟨[51,52,65,66],[4,5,8,11,67],⟨[.ptr 0 0,.ptr 1 0,.ptr 2 0,.d aM,.d aM],Ld8⟩,[]⟩)),(46,(.j ⟨[13,51,52,65,66,67],[4,5,8,83],⟨Ee,Ld8⟩,[]⟩))]⟩
def xX:cg:=cn qM eV
def uH:FT:=⟨⟨[.d iQ,.d fH],[]⟩,⟨[.d .bool],[]⟩,dG [(21,(.j ⟨[],[4],⟨[.d .bool],[]⟩,[]⟩)),(24,(.j ⟨[13],[2,3,46],⟨qS,[.cells 87 [.d iQ],.cells 59 [.d fH]]⟩,[]⟩)),(43,(.j ⟨[53,54],[3,5,6,55],⟨[.ptr 0 0,.d aM,.d .bool,.d aM],ZM⟩,[]⟩)),(51,(.j ⟨[53,54,55],[3,5,6],⟨[.ptr 0 0,.d aM,.d .bool],ZM⟩,[]⟩)),(54,(.j ⟨[5,6,7,53,54,55],[3,69],⟨hY,ZM⟩,[]⟩)),(62,(.j ⟨[],[4],⟨[.d .bool],[]⟩,[]⟩)),(74,(.j ⟨[94,95],[3,9,96],⟨TA,ZM⟩,[]⟩)),(82,(.j ⟨[94,95,96],[3,9],⟨xh,ZM⟩,[]⟩)),(85,(.j ⟨[9,94,95,96],[3,109],⟨hY,ZM⟩,[]⟩))]⟩
def Ch:cg:=cn uH gB
def Bt:FT:=⟨⟨[.d ie,.d aM],[]⟩,⟨[.d .bool],[]⟩,dG [(2,(.j ⟨[],[4],⟨[.d .bool],[]⟩,[]⟩))]⟩
def Ml:cg:=cn Bt mn
def R9:FT:=⟨⟨[.d p_],[]⟩,⟨[.d p_],[]⟩,.leaf⟩
def zZ:cg:=cn R9 IW
def agf:cg:=⟨zZ.pre,zZ.post,Oy⟩
def NH:FT:=⟨⟨[.d p_],[]⟩,⟨[.row 0],[.rows 4 ai .bool]⟩,dG [(8,(.a [.nil 2 4 .bool])),(12,(.a [.nil 2 4 .bool]))]⟩
def xf:cg:=cn NH EP
def acx:cg:=⟨xf.pre,xf.post,IV⟩
def R7:FT:=⟨⟨[.d (.sl ie)],[]⟩,⟨[.d (.sl ie)],[]⟩,.leaf⟩
def zX:cg:=cn R7 IR
def agc:cg:=⟨zX.pre,zX.post,Ox⟩
def NF:FT:=⟨⟨[.d (.sl ie)],[]⟩,⟨[.row 0],[.rows 155 ai ie]⟩,dG [(8,(.a [.nil 2 155 ie])),(12,(.a [.nil 2 155 ie]))]⟩
def xc:cg:=cn NF EM
def acu:cg:=⟨xc.pre,xc.post,IQ⟩
def NG:FT:=⟨⟨nB,[]⟩,⟨[.row 0],[.rows 2 ai aM]⟩,dG [(8,(.a [.nil 2 2 aM])),(12,(.a [.nil 2 2 aM]))]⟩
def xd:cg:=cn NG EO
def acw:cg:=⟨xd.pre,xd.post,zg⟩
def Bv:FT:=⟨⟨[.d HI],[]⟩,⟨[.agg HH],Ld6⟩,dG [(8,(.j ⟨[11,12],[1,2,3,13],⟨[.ptr 0 0,.ptr 1 0,.row 2,.d aM],[.cells 84 [.d HI],.cells 84 Cr,.rows 153 aj d_]⟩,[]⟩))]⟩
def Mn:cg:=cn Bv ku
def zM:FT:=⟨⟨[.agg HH,.d aM,.d aM],Ld6⟩,⟨[.d aM],Ld6⟩,dG [(8,(.j ⟨[1,2,12],[3,7,11,13],⟨[.ptr 3 0,.d aM,.row 2,.d aM],Ld5⟩,[]⟩)),(16,(.j ⟨[1,2,12,13],[3,7,11],⟨[.ptr 3 0,.d aM,.row 2],Ld5⟩,[]⟩)),(19,(.j ⟨[1,2,7,8,12,13],[3,11,29],⟨[.ptr 3 0,.row 2,.d .bool],Ld5⟩,[]⟩)),(25,(.j ⟨[7],[],⟨[],Ld6⟩,[]⟩))]⟩
def KB:cg:=cn zM jG
def vD:FT:=⟨⟨[.agg HH,.d aM],Ld6⟩,⟨[.d aM],Ld6⟩,dG [(8,(.j ⟨[1,10],[2,5,9,11],⟨[.ptr 3 0,.d aM,.row 2,.d aM],Ld5⟩,[]⟩)),(16,(.j ⟨[1,10,11],[2,5,9],⟨[.ptr 3 0,.d aM,.row 2],Ld5⟩,[]⟩))]⟩
def D3:cg:=cn vD gW
def zR:FT:=⟨⟨[.d aM],[]⟩,⟨[.d .bool],[]⟩,.leaf⟩
def KM:cg:=cn zR qz
def Bz:FT:=⟨⟨u_,[]⟩,⟨[.d .bool],[]⟩,dG [(2,(.j ⟨[],[4],⟨[.d .bool],[]⟩,[]⟩))]⟩
def Ms:cg:=cn Bz vQ
def w7:FT:=⟨⟨[.d (.int .u64)],[]⟩,⟨[.d aM],[]⟩,.leaf⟩
def Fs:cg:=cn w7 rF
def zP:FT:=⟨⟨[.d (.int .u64)],[]⟩,⟨[.d aM],[]⟩,.leaf⟩
def KH:cg:=cn zP ut
def og:FT:=⟨⟨[.row 0,.d aM,.d aM],P1⟩,⟨[],P1⟩,dG [(3,(.j ⟨[1,2],[0,6],⟨P3,P1⟩,[]⟩)),(15,(.j ⟨[1,2,6],[0,7],⟨P3,P1⟩,[]⟩)),(17,(.j ⟨[1,2,6,7],[0,30],⟨[.row 0,.d .bool],P1⟩,[]⟩))]⟩
def uW:cg:=cn og fV
def tm:FT:=⟨⟨[.row 0,.d aM,.d aM,.d aM],P1⟩,⟨[],P1⟩,dG [(5,(.j ⟨[],[0,1,2,3,8,9],⟨[.row 0,.d aM,.d aM,.d aM,.d .bool,.d .bool],P1⟩,[]⟩))]⟩
def AU:cg:=cn tm jg
def ND:FT:=⟨⟨[.row 0],P1⟩,⟨[],P1⟩,.leaf⟩
def Zo:cg:=cn ND wI
def DX:FT:=⟨⟨[.row 0],P1⟩,⟨[.row 0],P1⟩,dG [(14,(.j ⟨[],[0,3],⟨P3,P1⟩,[]⟩))]⟩
def PL:cg:=cn DX lJ
def yB:FT:=⟨⟨[.d aM,.ptr 0 0],[.cells 3 [.d aM]]⟩,⟨[.d .bool],[.cells 3 [.d aM]]⟩,.leaf⟩
def Hx:cg:=cn yB oZ
def zS:FT:=⟨⟨[.row 0,.clo 151 1 0],Ld9⟩,⟨[.d aM],Ld9⟩,dG [(6,(.j ⟨[7],[0,1,8],⟨[.row 0,.clo 151 1 0,.d aM],Ld9⟩,[]⟩))]⟩
def KN:cg:=cn zS nh
def yF:FT:=⟨⟨[.row 0,.clo 151 1 0],Ld9⟩,⟨[.row 2],[.gone,.cells 3 [.d aM],.rows 3 aj aM]⟩,dG [(16,(.j ⟨[],[0,1,5,6],⟨[.row 0,.clo 151 1 0,.d aM,.d aM],Ld9⟩,[]⟩)),(24,(.j ⟨[6],[0,1,5],⟨[.row 0,.clo 151 1 0,.d aM],Ld9⟩,[]⟩))]⟩
def HB:cg:=cn yF je
def ny:FT:=⟨⟨[.d md,.d HI,.d aM,.d aM,.d aM,.d aM],[]⟩,⟨[.d HI,.d aM,.d .bool],[]⟩,dG [(17,(.j ⟨[],[7,12,15],⟨vX,[.cells 84 [.row 2,.d aM,.row 3,.row 4],.cells 84 Cr,.rows 153 aj d_,.rows 4 ai .bool,.rows 155 ai ie]⟩,[]⟩)),(26,(.j ⟨[4,5,15,27],[6,7,8,12,42],⟨Ac,ao5⟩,[]⟩)),(34,(.j ⟨[4,5,15,27],[6,7,8,12,51],⟨Ac,ao5⟩,[]⟩))]⟩
def KF:cg:=cn ny gX
def zN:FT:=⟨⟨[.d HI],[]⟩,⟨[.agg [.csl 0 2 3,.d aM,.d p_,.d (.sl ie)]],[.cells 153 [.d aM,.row 1,.d aM,.row 2,.d aM,.row 3],.rows 3 ai aM,.rows 3 ai aM,.rows 3 ai aM]⟩,dG [(7,(.j ⟨[],[1,2,3],⟨[.ptr 0 0,.ptr 1 0,.csl 2 2 3],[.cells 84 [.d HI],.cells 84 Cr,.cells 153 [.d aM,.row 3,.d aM,.row 4,.d aM,.row 5],.rows 3 ai aM,.rows 3 ai aM,.rows 3 ai aM]⟩,[.cel 3 1 3 aM,.cel 3 3 3 aM,.cel 3 5 3 aM]⟩)),(8,(.u 4))]⟩
def KC:cg:=cn zN ne
def zO:FT:=⟨⟨[.d md,.d HI,.d aM,.d aM,.d aM,.d aM],[]⟩,⟨[.d HI,.d aM,.d .bool],[]⟩,dG [(17,(.j ⟨[],[7,12,15],⟨vX,[.cells 84 [.csl 2 2 3,.d aM,.d p_,.d (.sl ie)],.cells 84 Cr,.cells 153 [.d d_,.d d_,.d aM,.row 3],.rowsP 3 aM]⟩,[]⟩)),(26,(.j ⟨[4,5,15,27],[6,7,8,12,42],⟨Ac,[.cells 31 [.d md],.cells 84 [.csl 4 2 3,.d aM,.d p_,.d (.sl ie)],.cells 3 [.d aM],.cells 84 Cr,.cells 153 [.d aM,.row 5,.d aM,.row 6,.d aM,.row 7],.rows 3 ai aM,.rows 3 ai aM,.rows 3 ai aM]⟩,[]⟩)),(33,(.s 4 0 0 0)),(34,(.j ⟨[4,5,15,27],[6,7,8,12,51],⟨Ac,[.cells 31 [.d md],.cells 84 [.csl 4 2 3,.d aM,.d p_,.d (.sl ie)],.cells 3 [.d aM],.cells 84 Cr,.cells 153 [.d aM,.d (.sl aM),.d aM,.d (.sl aM),.d aM,.row 5],.rows 3 ai aM]⟩,[]⟩)),(41,(.s 4 0 0 0)),(46,(.s 4 0 0 3)),(53,(.s 4 0 0 3)),(74,(.s 4 0 0 0)),(80,(.s 4 0 0 0)),(100,(.a [.pk 7 0 d_]))]⟩
def KE:cg:=cn zO kY
def Mp:cg:=cn ny r7
def wV:FT:=⟨⟨[.d md,.d iQ,.d fH],[]⟩,⟨[.d iQ,.d .bool],[]⟩,dG [(3,(.j ⟨[],[3,4,5,6,39],⟨Ac,Ld⟩,[]⟩)),(11,(.j ⟨[],[3,4,5,6,70],⟨Ac,Ld⟩,[]⟩)),(20,(.j ⟨[],[3,4,5,6,8],⟨[.ptr 0 0,.ptr 1 0,.ptr 2 0,.ptr 3 0,.d aM],Ld⟩,[]⟩)),(41,(.j ⟨[],[5,6,12],⟨akj,akn⟩,[]⟩))]⟩
def Fl:cg:=cn wV fQ
def uL:FT:=⟨⟨[.d oA],[]⟩,⟨u_,[]⟩,dG [(26,(.j ⟨[27,28],[1,4,5,29],⟨[.ptr 0 0,.ptr 1 0,.csl 2 1 1,.d aM],[.cells 34 [.d oA],.cells 87 [.d iQ],.cells 81 [.row 3],.rows 4 ai .bool]⟩,[.cel 5 0 4 .bool]⟩)),(40,(.j ⟨[6,27,28,29],[1,4,5,7,8,53],⟨[.ptr 0 0,.ptr 1 0,.csl 2 1 1,.ptr 3 0,.ptr 4 0,.d .bool],[.cells 34 [.d oA],.cells 87 [.d iQ],.cells 81 [.row 5],.cells 59 [.d fH],.cells 87 [.d iQ],.rows 4 ai .bool]⟩,[]⟩)),(41,(.s 7 0 0 1)),(47,(.j ⟨[27,28,29],[1,4,5,8],⟨[.ptr 0 0,.ptr 1 0,.csl 2 1 1,.ptr 3 0],[.cells 34 [.d oA],.cells 87 [.d iQ],.cells 81 [.row 4],.cells 87 [.d iQ],.rows 4 ai .bool]⟩,[]⟩)),(48,(.s 7 0 0 1))]⟩
def Cm:cg:=cn uL ey
def uK:FT:=⟨⟨[.d oA],[]⟩,⟨u_,[]⟩,dG [(26,(.j ⟨[27,28],[1,4,5,29],⟨[.ptr 0 0,.ptr 1 0,.csl 2 1 2,.d aM],[.cells 34 [.d oA],.cells 87 [.d iQ],.cells 81 [.row 3,.row 4],.rows 4 ai .bool,.rows 4 ai .bool]⟩,[.cel 5 0 4 .bool,.cel 5 1 4 .bool]⟩)),(40,(.j ⟨[6,27,28,29],[1,4,5,7,8,53],⟨[.ptr 0 0,.ptr 1 0,.csl 2 1 2,.ptr 3 0,.ptr 4 0,.d .bool],[.cells 34 [.d oA],.cells 87 [.d iQ],.cells 81 [.row 5,.row 6],.cells 59 [.d fH],.cells 87 [.d iQ],.rows 4 ai .bool,.rows 4 ai .bool]⟩,[]⟩)),(41,(.s 7 0 0 2)),(47,(.j ⟨[27,28,29],[1,4,5,8],⟨[.ptr 0 0,.ptr 1 0,.csl 2 1 2,.ptr 3 0],[.cells 34 [.d oA],.cells 87 [.d iQ],.cells 81 [.row 4,.row 5],.cells 87 [.d iQ],.rows 4 ai .bool,.rows 4 ai .bool]⟩,[]⟩)),(48,(.s 7 0 0 2))]⟩
def Cl:cg:=cn uK dt
def uJ:FT:=⟨⟨[.d oA],[]⟩,⟨u_,[]⟩,dG [(26,(.j ⟨[27,28],[1,4,5,29],⟨[.ptr 0 0,.ptr 1 0,.csl 2 1 3,.d aM],[.cells 34 [.d oA],.cells 87 [.d iQ],.cells 81 [.row 3,.row 4,.row 5],.rows 4 ai .bool,.rows 4 ai .bool,.rows 4 ai .bool]⟩,[.cel 5 0 4 .bool,.cel 5 1 4 .bool,.cel 5 2 4 .bool]⟩)),(40,(.j ⟨[6,27,28,29],[1,4,5,7,8,53],⟨[.ptr 0 0,.ptr 1 0,.csl 2 1 3,.ptr 3 0,.ptr 4 0,.d .bool],[.cells 34 [.d oA],.cells 87 [.d iQ],.cells 81 [.row 5,.row 6,.row 7],.cells 59 [.d fH],.cells 87 [.d iQ],.rows 4 ai .bool,.rows 4 ai .bool,.rows 4 ai .bool]⟩,[]⟩)),(41,(.s 7 0 0 3)),(47,(.j ⟨[27,28,29],[1,4,5,8],⟨[.ptr 0 0,.ptr 1 0,.csl 2 1 3,.ptr 3 0],[.cells 34 [.d oA],.cells 87 [.d iQ],.cells 81 [.row 4,.row 5,.row 6],.cells 87 [.d iQ],.rows 4 ai .bool,.rows 4 ai .bool,.rows 4 ai .bool]⟩,[]⟩)),(48,(.s 7 0 0 3))]⟩
def Ck:cg:=cn uJ dL
def eX:FT:=⟨⟨[.d oA],[]⟩,⟨u_,[]⟩,dG [(26,(.j ⟨[27,28],[1,4,5,29],⟨[.ptr 0 0,.ptr 1 0,.csl 2 1 4,.d aM],[.cells 34 [.d oA],.cells 87 [.d iQ],.cells 81 [.row 3,.row 4,.row 5,.row 6],.rows 4 ai .bool,.rows 4 ai .bool,.rows 4 ai .bool,.rows 4 ai .bool]⟩,[.cel 5 0 4 .bool,.cel 5 1 4 .bool,.cel 5 2 4 .bool,.cel 5 3 4 .bool]⟩)),(40,(.j ⟨[6,27,28,29],[1,4,5,7,8,53],⟨[.ptr 0 0,.ptr 1 0,.csl 2 1 4,.ptr 3 0,.ptr 4 0,.d .bool],[.cells 34 [.d oA],.cells 87 [.d iQ],.cells 81 [.row 5,.row 6,.row 7,.row 8],.cells 59 [.d fH],.cells 87 [.d iQ],.rows 4 ai .bool,.rows 4 ai .bool,.rows 4 ai .bool,.rows 4 ai .bool]⟩,[]⟩)),(41,(.s 7 0 0 4)),(47,(.j ⟨[27,28,29],[1,4,5,8],⟨[.ptr 0 0,.ptr 1 0,.csl 2 1 4,.ptr 3 0],[.cells 34 [.d oA],.cells 87 [.d iQ],.cells 81 [.row 4,.row 5,.row 6,.row 7],.cells 87 [.d iQ],.rows 4 ai .bool,.rows 4 ai .bool,.rows 4 ai .bool,.rows 4 ai .bool]⟩,[]⟩)),(48,(.s 7 0 0 4))]⟩
def Cj:cg:=cn eX eo
def DZ:cg:=cn eX my
def Kn:FT:=⟨⟨[.d oA],[]⟩,⟨[.d uO,.d aM],[]⟩,dG [(20,(.j ⟨[25,26],[1,6,7,27],⟨[.ptr 0 0,.ptr 1 0,.row 2,.d aM],[.cells 34 [.d oA],.cells 107 [.d Kd0],.rows 53 aj (.sl aM)]⟩,[]⟩))]⟩
def We:cg:=cn Kn px
def NA:FT:=⟨⟨[.d oA],[]⟩,⟨[.d (.sl gR),.d aM],[]⟩,dG [(20,(.j ⟨[4,6,23],[1,7,24],⟨FF,Tv⟩,[.nil 7 47 gR]⟩)),(34,(.j ⟨[4,6,8,23,24,27],[1,7,28],⟨FF,Tv⟩,[]⟩)),(42,(.j ⟨[4,6,8,23,24,27,28],[1,7],⟨[.ptr 0 0,.row 1],Tv⟩,[]⟩)),(45,(.j ⟨[4,6,8,9,23,24,27,28],[1,7,46],⟨[.ptr 0 0,.row 1,.d .bool],Tv⟩,[]⟩))]⟩
def Zk:cg:=cn NA nR
def XN:FT:=⟨⟨[],[]⟩,⟨[.d md],[]⟩,dG [(8,(.j ⟨[21],[0,1,22],⟨vX,ah6⟩,[.cel 1 5 120 oB]⟩)),(22,(.j ⟨[2,21,22],[0,1,3],⟨vX,ah6⟩,[]⟩))]⟩
def aga:cg:=cn XN C6
def Kg:FT:=⟨⟨[.d .bool],[]⟩,⟨[.d oA],[]⟩,dG [(6,(.j ⟨[],[2,3],⟨[.ptr 0 0,.ptr 1 0],[.cells 34 ZQ,.cells 34 [.d (.sl ky),.d (.sl q_),.d (.sl lm),.d (.sl .str),.d (.sl .str),.d (.sl oB),.row 2],.rows 59 aj fH]⟩,[]⟩))]⟩
def V7:cg:=cn Kg xC
def DR:FT:=⟨⟨[],[]⟩,⟨[.d .bool],[]⟩,dG [(6,(.j ⟨[],[0],⟨[.d .bool],[]⟩,[]⟩))]⟩
def PC:cg:=cn DR tK
theorem E9:aH Pg 48 Zn:=mk NC jw an bY
theorem QV x:lh (kh x) (zd x):=by
 unfold kh zd vA ck bz bC aZ cK aF cD;with_reducible repeat' first|(refine OI.o ?_;constructor)|intro _
theorem RB:aH Pg 76 Td:=yL G2 kh zd QV (ac E9 an) bY
theorem Xu:aH Pg 33 ag1:=mk XH C3 an bY
theorem Yl x:lh (pJ x) (EE x):=by
 unfold pJ EE E_ ck bz bC aZ cK aF cD;with_reducible repeat' first|(refine OI.o ?_;constructor)|intro _
theorem Yy:aH Pg 27 Y1:=yL Nj pJ EE Yl (ac Xu an) bY
theorem afk:aH Pg 117 D9:=mk XO Oz an bY
theorem ac5:aH Pg 117 ajt:= @aH.sub Pg 117 D9.pre D9.post Oz B9 afk rfl (λx y h=>rT (b:=8) x y h)
theorem UA x:lh (ir x) (B1 x):=by
 unfold ir B1 xI ck bz wa bC aZ cK aF cD;with_reducible repeat' first|(refine OI.o ?_;constructor)|intro _
theorem Vf:aH Pg 118 Wa:=yL Kj ir B1 UA (ac ac5 an) bY
theorem ac1:aH Pg 117 zY:=mk R8 IU an bY
theorem OZ:aH Pg 117 age:= @aH.sub Pg 117 zY.pre zY.post IU o6 ac1 rfl (λx y h=>rT (b:=8) x y h)
theorem Vg:aH Pg 73 Wb:=mk Kk uu (ac OZ (ac Vf an)) bY
theorem YH:aH Pg 75 Zh:=mk Nx tY an bY
theorem Vi:aH Pg 74 Wd:=mk Km uw (ac YH an) bY
theorem Yn x:lh (pO x) (EI x):=by
 unfold pO EI Au aY bh bx cC dW kE qa ck bz bC aZ cK aF cD;with_reducible repeat' first|(refine OI.o ?_;constructor)|intro _
theorem YJ:aH Pg 45 Zj:=yL Nz pO EI Yn an bY
theorem RA:aH Pg 77 Tc:=mk G1 sG an bY
theorem ac0:aH Pg 117 acv:=mk w9 wJ an bY
theorem Xw:aH Pg 117 agd:= @aH.ro Pg 117 w9.pre w9.post.vs wJ vo (ac0.holds rfl) rfl (λx _ h=>by rw[show vo x=obind (wJ x) λy=>same y.2 x (af y.1) from gO (obind _) (funext λ_=>Qx ..)] at h;exact h)
theorem af1 x:lh (tM x) (Ov x):=by
 unfold tM Ov H9 ck bz bC aZ cK aF cD;with_reducible repeat' first|(refine OI.o ?_;constructor)|intro _
theorem afh:aH Pg 76 agb:=yL Az tM Ov af1 (ac E9 an) bY
theorem abx:aH Pg 76 ajs:= @aH.ro Pg 76 Az.pre Az.post.vs tM B8 (afh.holds rfl) rfl (λx _ h=>by rw[show B8 x=obind (tM x) λy=>same y.2 x.2 (af y.1) from gO (obind _) (funext λ_=>Qx ..)] at h;exact h)
theorem Vd:aH Pg 119 V9:=mk Kh lI (ac abx an) bY
theorem abv:aH Pg 120 acq:=mk R2 wE (ac Xw an) bY
theorem Ym x:lh (rH x) (EH x):=by
 unfold rH EH At Ej Prod.p11 Prod.p12 Prod.p13 Prod.p14 Prod.p15 Prod.p16 Prod.p17 aY bh bx cC dW kE Ah Cy Prod.q10 Prod.q16 Prod.q17 Prod.q18 cX kD Prod.q9 ck be bz iW wa bC aZ cK aF cD;with_reducible repeat' first|(refine OI.o ?_;constructor)|intro _
theorem YI:aH Pg 78 Zi:=yL Ny rH EH Ym (ac abx (ac Xw (ac Vd (ac abv an)))) bY
theorem ab7 x:lh (sF x) (IK x):=by
 unfold sF IK Dm Ej Prod.p11 aY bh bx cC dW kE Ah Cy Prod.q11 Prod.q12 cX fh qa Prod.q9 ck bz wa bC aZ cK cD;with_reducible repeat' first|(refine OI.o ?_;constructor)|intro _
theorem abw:aH Pg 46 acr:=yL R3 sF IK ab7 (ac Vg (ac Vi (ac RB (ac RA (ac YI an))))) bY
theorem US:aH Pg 51 Vt:=mk JS ui an bY
theorem Yk x:lh (pI x) (ED x):=by
 unfold pI ED As ck bz iW bC aZ cK aF;with_reducible repeat' first|(refine OI.o ?_;constructor)|intro _
theorem Yw:aH Pg 29 YZ:=yL Nh pI ED Yk (ac US an) bY
theorem I_:aH Pg 52 Vs:=mk JR ru an bY
theorem LM:aH Pg 31 Mc:=mk Bm oL (ac I_ an) bY
theorem LK:aH Pg 32 L_:=mk Bj oJ (ac I_ an) bY
theorem EC x:lh (kV x) (rq x):=by
 unfold kV rq rN Ej Prod.p11 Prod.p12 Prod.p13 Prod.p14 Prod.p15 Prod.p16 Prod.p17 Prod.p18 Prod.p19 aY Prod.p20 bh bx cC dW kE Ah Cy Prod.q21 bz bC cK aF cD;with_reducible repeat' first|(refine OI.o ?_;constructor)|intro _
theorem EX:aH Pg 178 Fm:=yL wW kV rq EC an bY
theorem Lx x:lh (oH x) (vM x):=by
 unfold oH vM vT be bz iW bC aZ cK aF;with_reducible repeat' first|(refine OI.o ?_;constructor)|intro _
theorem LI:aH Pg 141 L7:=yL Bg oH vM Lx (ac EX an) bY
theorem UD x:lh (rJ x) (B3 x):=by
 unfold rJ B3 xN be bz bB aZ cK aF cD;with_reducible repeat' first|(refine OI.o ?_;constructor)|intro _
theorem Vk:aH Pg 197 Wi:=yL Ko rJ B3 UD an bY
theorem L4:aH Pg 179 Mu:=mk BB kw (ac Vk an) bY
theorem L3:aH Pg 22 Mt:=mk BA mo (ac E9 an) bY
theorem Vh:aH Pg 47 Wc:=mk Kl uv an bY
theorem OX:aH Pg 21 PF:=mk DU qy (ac Vh an) bY
theorem Uz x:lh (pw x) (BZ x):=by
 unfold pw BZ xH ck bz bC bB aZ cK aF cD;with_reducible repeat' first|(refine OI.o ?_;constructor)|intro _
theorem Ve:aH Pg 20 V_:=yL Ki pw BZ Uz an bY
theorem Hl:aH Pg 142 Hz:=mk yD sU an bY
theorem Hm:aH Pg 107 HA:=mk yE sV (ac Hl an) bY
theorem AJ x:lh (hP x) (oq x):=by
 unfold hP oq oy aY bh bx cC dA fh be bz iV bC bB aZ cK aF cD;with_reducible repeat' first|(refine OI.o ?_;constructor)|intro _
theorem AS:aH Pg 105 AY:=yL tB hP oq AJ an bY
theorem AH x:lh (dO x) (oo x):=by
 unfold dO oo ox aY bh bx bz bC bB kB aZ cK aF cD;with_reducible repeat' first|(refine OI.o ?_;constructor)|intro _
theorem AQ:aH Pg 106 AX:=yL tw dO oo AH (ac LI an) bY
theorem AG x:lh (fZ x) (om x):=by
 unfold fZ om kM aY bh cC cX bz iV bB aZ cK aF cD;with_reducible repeat' first|(refine OI.o ?_;constructor)|intro _
theorem AO:aH Pg 108 AW:=yL tu fZ om AG an bY
theorem AK x:lh (dP x) (ou x):=by
 unfold dP ou kN aY bh cC cX bz bB aZ cK aF cD;with_reducible repeat' first|(refine OI.o ?_;constructor)|intro _
theorem kL:aH Pg 68 AZ:=yL tC dP ou AK (ac AS (ac AQ (ac Hm (ac AO an)))) bY
theorem LA x:lh (oN x) (vO x):=by
 unfold oN vO vU aY bh bx bL dA cX ck bz bC aZ cK aF cD;with_reducible repeat' first|(refine OI.o ?_;constructor)|intro _
theorem LX:aH Pg 109 Mo:=yL Bw oN vO LA an bY
theorem CZ x:lh (dl x) (qh x):=by
 unfold dl qh qE aY bh bx dA bz bC bB aZ cK aF cD;with_reducible repeat' first|(refine OI.o ?_;constructor)|intro _
theorem mz:aH Pg 69 DY:=yL vC dl qh CZ (ac LX an) bY
theorem yY x:lh (cj x) (mM x):=by
 unfold cj mM km dW kD bz iW bC bB aZ cK aF cD;with_reducible repeat' first|(refine OI.o ?_;constructor)|intro _
theorem kl:aH Pg 71 zU:=yL sO cj mM yY an bY
theorem uA:aH Pg 144 KA:=mk zL e9 an bY
theorem Hk:aH Pg 145 Hu:=mk yz l7 (ac uA an) bY
theorem Om x:lh (kg x) (xz x):=by
 unfold kg xz tP aY bh bx dA bz iV bB aZ cK aF cD;with_reducible repeat' first|(refine OI.o ?_;constructor)|intro _
theorem Dh:aH Pg 143 Pv:=yL DO kg xz Om (ac uA an) bY
theorem LV:aH Pg 146 Mm:=mk Bu oM (ac L4 an) bY
theorem sW:aH Pg 111 Hw:=mk yA jd (ac Dh (ac uA (ac Hk (ac LV an)))) bY
theorem EW:aH Pg 110 Fk:=mk wU kU (ac Dh an) bY
theorem B':aH Pg 112 Ci:=mk uI jB an bY
theorem xy x:lh (eV x) (lE x):=by
 unfold eV lE jr aY bh bx cC bL dA fh be bz iW bC bB aZ cK aF cD;with_reducible repeat' first|(refine OI.o ?_;constructor)|intro _
theorem xE:aH Pg 113 xX:=yL qM eV lE xy an bY
theorem BS x:lh (gB x) (pe x):=by
 unfold gB pe lK aY bh bx cC bL be bz bB aZ cK aF cD;with_reducible repeat' first|(refine OI.o ?_;constructor)|intro _
theorem B_:aH Pg 114 Ch:=yL uH gB pe BS an bY
theorem Bd:aH Pg 185 Ml:=mk Bt mn an bY
theorem ac4:aH Pg 180 zZ:=mk R9 IW an bY
theorem afj:aH Pg 180 agf:= @aH.sub Pg 180 zZ.pre zZ.post IW Oy ac4 rfl (λx y h=>rT (b:=1) x y h)
theorem YO:aH Pg 180 xf:=mk NH EP an bY
theorem ac3:aH Pg 180 acx:= @aH.sub Pg 180 xf.pre xf.post EP IV YO rfl (λx y h=>rT (b:=1) x y h)
theorem abz:aH Pg 181 zX:=mk R7 IR an bY
theorem afi:aH Pg 181 agc:= @aH.sub Pg 181 zX.pre zX.post IR Ox abz rfl (λx y h=>rT (b:=24) x y h)
theorem YM:aH Pg 181 xc:=mk NF EM an bY
theorem aby:aH Pg 181 acu:= @aH.sub Pg 181 xc.pre xc.post EM IQ YM rfl (λx y h=>rT (b:=24) x y h)
theorem YN:aH Pg 116 xd:=mk NG EO an bY
theorem ac2:aH Pg 116 acw:= @aH.sub Pg 116 xd.pre xd.post EO zg YN rfl (λx y h=>rT (b:=8) x y h)
theorem Lz x:lh (ku x) (vN x):=by
 unfold ku vN sa aY bL ck bz bC bB aZ cK cD;with_reducible repeat' first|(refine OI.o ?_;constructor)|intro _
theorem LW:aH Pg 147 Mn:=yL Bv ku vN Lz (ac ac5 (ac ac3 (ac aby an))) bY
theorem IF x:lh (jG x) (uf x):=by
 unfold jG uf qH aY bh bL ck bz iW kB aZ cK aF cD;with_reducible repeat' first|(refine OI.o ?_;constructor)|intro _
theorem Ji:aH Pg 152 KB:=yL zM jG uf IF (ac Bd an) bY
theorem C1 x:lh (gW x) (qi x):=by
 unfold gW qi mB aY bh bL dA ck bz kB aZ cK aF cD;with_reducible repeat' first|(refine OI.o ?_;constructor)|intro _
theorem Dg:aH Pg 153 D3:=yL vD gW qi C1 (ac Bd an) bY
theorem Jo:aH Pg 220 KM:=mk zR qz an bY
theorem L2:aH Pg 204 Ms:=mk Bz vQ (ac Jo an) bY
theorem E6:aH Pg 208 Fs:=mk w7 rF an bY
theorem Jm:aH Pg 183 KH:=mk zP ut (ac E6 an) bY
theorem uT x:lh (fV x) (jV x):=by
 unfold fV jV jW ck bz kB cK aF cD;with_reducible repeat' first|(refine OI.o ?_;constructor)|intro _
theorem uU:aH Pg 198 uW:=yL og fV jV uT (ac L2 an) bY
theorem AF x:lh (jg x) (ol x):=by
 unfold jg ol ov aY bh be iW bC aF;with_reducible repeat' first|(refine OI.o ?_;constructor)|intro _
theorem AM:aH Pg 182 AU:=yL tm jg ol AF (ac uU an) bY
theorem YL:aH Pg 148 Zo:=mk ND wI (ac AM (ac Jm an)) bY
theorem Oq x:lh (lJ x) (xA x):=by
 unfold lJ xA xO be bz bC kB aZ cK aF cD;with_reducible repeat' first|(refine OI.o ?_;constructor)|intro _
theorem OY:aH Pg 149 PL:=yL DX lJ xA Oq an bY
theorem yi:aH Pg 151 Hx:=mk yB oZ an bY
theorem II x:lh (nh x) (ug x):=by
 unfold nh ug uF bz kB aZ cK aF cD;with_reducible repeat' first|(refine OI.o ?_;constructor)|intro _
theorem Jp:aH Pg 184 KN:=yL zS nh ug II (ac yi an) bY
theorem Hc x:lh (je x) (sT x):=by
 unfold je sT sY ck be bz bC kB aZ cK aF cD;with_reducible repeat' first|(refine OI.o ?_;constructor)|intro _
theorem Hn:aH Pg 150 HB:=yL yF je sT Hc (ac yi (ac Jp an)) bY
theorem Jl:aH Pg 115 KF:=mk ny gX (ac sW (ac LW (ac Ji (ac Dg an)))) bY
def tv2 (t:TypeId):Option Ty:=if aC t 153 then af (.pr .un (.pr .un (.pr .un (.pr .un d_)))) else bY t
theorem Jj:aH Pg 147 KC:=mk zN ne (ac OZ (ac afj (ac afi an))) tv2
theorem Jk:aH Pg 115 KE:=mk zO kY (ac sW (ac Jj (ac YL (ac OY (ac Hn an))))) tv2
theorem LY:aH Pg 115 Mp:=(aH.orE (pre:=ny.pre) (post:=ny.post) (m:=gX) (m':=kY) rfl Jl Jk)
theorem nU:aH Pg 70 Fl:=mk wV fQ (ac EW (ac sW (ac B' (ac xE (ac B_ (ac LY (ac ac2 (ac OZ an)))))))) bY
def tv3 (t:TypeId):Option Ty:=if aC t 81 then af (.pr .un (.pr .un p_)) else bY t
theorem BW x:lh (ey x) (pi x):=by
 unfold ey pi lM aY bh bx bL cX be bz bC bB aZ cK aF cD;with_reducible repeat' first|(refine OI.o ?_;constructor)|intro _
theorem Cd:aH Pg 44 Cm:=yL uL ey pi BW (ac kL (ac mz (ac nU (ac kl an)))) tv3
def tv4 (t:TypeId):Option Ty:=if aC t 81 then af (.pr .un (.pr .un (.pr .un p_))) else bY t
theorem BV x:lh (dt x) (ph x):=by
 unfold dt ph jL aY bh bx cC bL dA fh be bz bC bB aZ cK aF cD;with_reducible repeat' first|(refine OI.o ?_;constructor)|intro _
theorem Cc:aH Pg 44 Cl:=yL uK dt ph BV (ac kL (ac mz (ac nU (ac kl an)))) tv4
def tv5 (t:TypeId):Option Ty:=if aC t 81 then af (.pr .un (.pr .un (.pr .un (.pr .un p_)))) else bY t
theorem BU x:lh (dL x) (pg x):=by
 unfold dL pg jK aY bh bx cC dW bL cX fh kD be bz bC bB aZ cK aF cD;with_reducible repeat' first|(refine OI.o ?_;constructor)|intro _
theorem Cb:aH Pg 44 Ck:=yL uJ dL pg BU (ac kL (ac mz (ac nU (ac kl an)))) tv5
def tv6 (t:TypeId):Option Ty:=if aC t 81 then af (.pr .un (.pr .un (.pr .un (.pr .un (.pr .un p_))))) else bY t
theorem BT x:lh (eo x) (pf x):=by
 unfold eo pf jJ aY bh bx cC dW kE bL fh kD qa be bz bC bB aZ cK aF cD;with_reducible repeat' first|(refine OI.o ?_;constructor)|intro _
theorem Ca:aH Pg 44 Cj:=yL eX eo pf BT (ac kL (ac mz (ac nU (ac kl an)))) tv6
theorem Dd:aH Pg 44 DZ:=(aH.orE (pre:=eX.pre) (post:=eX.post) (m:=eo) (m':=(λx=>orE (dL x) ((λx=>orE (dt x) (ey x)) x))) rfl Ca (aH.orE (pre:=eX.pre) (post:=eX.post) (m:=dL) (m':=(λx=>orE (dt x) (ey x))) rfl Cb (aH.orE (pre:=eX.pre) (post:=eX.post) (m:=dt) (m':=ey) rfl Cc Cd)))
theorem UB x:lh (px x) (B2 x):=by
 unfold px B2 xJ aY bL ck bz iV bC bB aZ cK aF cD;with_reducible repeat' first|(refine OI.o ?_;constructor)|intro _
theorem Vj:aH Pg 19 We:=yL Kn px B2 UB (ac Dd (ac YJ (ac abw an))) bY
theorem Yo x:lh (nR x) (EJ x):=by
 unfold nR EJ Av bz iV bC bB aZ cK aF cD;with_reducible repeat' first|(refine OI.o ?_;constructor)|intro _
theorem M8:aH Pg 8 Zk:=yL NA nR EJ Yo (ac Vj (ac Ve (ac OX (ac L3 an)))) bY
theorem af0 x:lh (C6 x) (Ou x):=by
 unfold C6 Ou O4 aY bh bx cC fh bz bC cK aF cD;with_reducible repeat' first|(refine OI.o ?_;constructor)|intro _
theorem afg:aH Pg 35 aga:=yL XN C6 Ou af0 an bY
theorem Vc:aH Pg 30 V7:=mk Kg xC (ac afg an) bY
theorem OW:aH Pg 12 PC:=mk DR tK (ac M8 (ac Vc an)) bY
abbrev Le1:List PB:=[.cells 31 [.d md],.rows 3 ai aM,.cells 59 [.d fH],.cells 59 [.d fH]]
abbrev Le2:List PB:=[.cells 34 [.d oA],.rows 53 ai (.sl aM)]
abbrev Le3:List PB:=[.cells 31 [.d md],.rows 3 ai aM,.cells 59 [.d fH]]
abbrev Le4:List PV:=[.ptr 0 0,.row 1,.ptr 2 0,.ptr 3 0,.d .bool]
abbrev Le6:List PB:=[.cells 31 [.d md],.rows 3 ai aM]
abbrev Le7:List PV:=[.d (.sl fH),.d aM]
def Gg:FT:=⟨⟨[.d fH],[]⟩,⟨[.d .bool],[]⟩,dG [(2,(.j ⟨[],[2],⟨[.d .bool],[]⟩,[]⟩))]⟩
def Sg:cg:=cn Gg j9
def Bi:FT:=⟨⟨[.d md,.d fH],[]⟩,⟨[.d .bool],[]⟩,dG [(2,(.j ⟨[],[4],⟨[.d .bool],[]⟩,[]⟩))]⟩
def L9:cg:=cn Bi mf
def Bl:FT:=⟨⟨[.d fH,.d fH],[]⟩,⟨[.d .bool],[]⟩,dG [(2,(.j ⟨[],[4],⟨[.d .bool],[]⟩,[]⟩))]⟩
def Mb:cg:=cn Bl oK
def Bk:FT:=⟨⟨Le7,[]⟩,⟨[.d aM],[]⟩,dG [(6,(.j ⟨[0,1],[5],⟨[.d aM],[]⟩,[]⟩))]⟩
def Ma:cg:=cn Bk mg
def Gb:FT:=⟨⟨Le7,[]⟩,⟨[.d aM],[]⟩,dG [(8,(.j ⟨[0,1],[5,6],⟨u_,[]⟩,[]⟩)),(16,(.j ⟨[0,1,6],[5],⟨[.d aM],[]⟩,[]⟩))]⟩
def Sd:cg:=cn Gb sw
def JQ:FT:=⟨⟨Le7,[]⟩,⟨[.d aM],[]⟩,dG [(5,(.j ⟨[0,1,5],[19],⟨[.d .bool],[]⟩,[]⟩)),(16,(.j ⟨[0,1,5],[6],⟨[.d aM],[]⟩,[]⟩)),(25,(.j ⟨[0,1,5,6],[66],⟨[.d .bool],[]⟩,[]⟩))]⟩
def Vr:cg:=cn JQ uh
def Nk:FT:=⟨⟨[.d md,.d (.sl fH),.d aM],[]⟩,⟨nB,[]⟩,dG [(10,(.j ⟨[1,2],[3,7,8,9],⟨[.ptr 0 0,.row 1,.ptr 2 0,.d aM],Le3⟩,[.nil 7 3 aM]⟩)),(21,(.j ⟨[1,2,9],[3,7,8],⟨[.ptr 0 0,.row 1,.ptr 2 0],Le3⟩,[]⟩)),(22,(.j ⟨[1,2,9],[3,7,8,10,25],⟨Le4,Le1⟩,[]⟩)),(26,(.j ⟨[1,2,9],[3,7,8,10,45],⟨Le4,Le1⟩,[]⟩)),(30,(.j ⟨[1,2,9],[3,7,8,10,60],⟨Le4,Le1⟩,[]⟩)),(34,(.j ⟨[1,2,9],[3,7,8,85],⟨[.ptr 0 0,.row 1,.ptr 2 0,.d .bool],Le3⟩,[]⟩)),(40,(.j ⟨[],[7],⟨[.row 0],P1⟩,[]⟩))]⟩
def Y2:cg:=cn Nk ww
def Ni:FT:=⟨⟨[.d md,.d (.sl fH),.d aM],[]⟩,⟨nB,[]⟩,dG [(10,(.j ⟨[1,2,8,9],[3,7,10],⟨FF,Le6⟩,[.nil 7 3 aM]⟩)),(18,(.j ⟨[1,2,8,9,10],[3,7],⟨[.ptr 0 0,.row 1],Le6⟩,[]⟩)),(21,(.j ⟨[1,2,8,9,10],[3,7,65],⟨[.ptr 0 0,.row 1,.d .bool],Le6⟩,[]⟩))]⟩
def Y0:cg:=cn Ni wv
def Gf:FT:=⟨⟨[.d oA],[]⟩,⟨[.d uO],[]⟩,dG [(6,(.a [.nil 3 53 (.sl aM)])),(8,(.j ⟨[13],[1,3,14],⟨FF,Le2⟩,[]⟩)),(21,(.j ⟨[4,13,14],[1,3,5],⟨[.ptr 0 0,.row 1,.d (.sl aM)],Le2⟩,[]⟩)),(33,(.j ⟨[4,13,14,32,33],[1,3,5,34],⟨[.ptr 0 0,.row 1,.d (.sl aM),.d aM],Le2⟩,[]⟩)),(50,(.j ⟨[4,13,14,50,51],[1,3,5,52],⟨[.ptr 0 0,.row 1,.d (.sl aM),.d aM],Le2⟩,[]⟩))]⟩
def Sf:cg:=cn Gf sx
def Ge:FT:=⟨⟨[.d (.sl aM),.d gR],[]⟩,⟨[.d .bool],[]⟩,.leaf⟩
def Se:cg:=cn Ge vn
def DB:FT:=⟨⟨Le7,[]⟩,⟨[.d gR],[]⟩,.leaf⟩
def Ph:cg:=cn DB qn
def zH:FT:=⟨⟨[.d oA,.d uO],[]⟩,⟨[.d (.sl gR)],[]⟩,dG [(8,(.j ⟨[1,10],[2,5,11],⟨FF,Tv⟩,[.nil 5 47 gR]⟩)),(22,(.j ⟨[1,6,10,11],[2,5,7],⟨FF,Tv⟩,[]⟩)),(30,(.j ⟨[1,6,7,10,11],[2,5],⟨[.ptr 0 0,.row 1],Tv⟩,[]⟩)),(31,(.j ⟨[1,6,7,10,11],[2,5,52],⟨[.ptr 0 0,.row 1,.d .bool],Tv⟩,[]⟩))]⟩
def Kt:cg:=cn zH mN
def zI:FT:=⟨⟨[.d (.sl gR),.d (.sl gR)],[]⟩,⟨[.d .bool],[]⟩,dG [(14,(.j ⟨[0,1,12],[13],⟨[.d aM],[]⟩,[]⟩))]⟩
def Ku:cg:=cn zI mO
def zQ:FT:=⟨⟨[.d Ke0],[]⟩,⟨[.d .bool],[]⟩,dG [(6,(.j ⟨[],[2],⟨[.d .bool],[]⟩,[]⟩))]⟩
def KI:cg:=cn zQ ng
theorem FY:aH Pg 49 Sg:=mk Gg j9 an bY
theorem Bb:aH Pg 24 L9:=mk Bi mf (ac FY an) bY
theorem LL:aH Pg 23 Mb:=mk Bl oK (ac FY an) bY
theorem Bc:aH Pg 25 Ma:=mk Bk mg an bY
theorem Q6:aH Pg 34 Sd:=mk Gb sw an bY
theorem UR:aH Pg 50 Vr:=mk JQ uh (ac Bc an) bY
theorem Yz:aH Pg 26 Y2:=mk Nk ww (ac Bb (ac UR an)) bY
theorem Yx:aH Pg 28 Y0:=mk Ni wv (ac LM (ac LK an)) bY
theorem Q9:aH Pg 11 Sf:=mk Gf sx (ac Bc (ac Yz (ac Yy (ac Yx (ac Yw an))))) bY
theorem Q7:aH Pg 15 Se:=mk Ge vn (ac Xu an) bY
theorem OM:aH Pg 16 Ph:=mk DB qn (ac Q6 an) bY
theorem I8:aH Pg 10 Kt:=mk zH mN (ac Q7 (ac OM (ac LL (ac Bb an)))) bY
theorem I9:aH Pg 9 Ku:=mk zI mO an bY
theorem hlaw23_HBRaces:aH Pg 3 KI:=mk zQ ng (ac EY (ac M8 (ac I9 (ac I8 (ac Q9 (ac OW an)))))) bY
theorem run_law {P:Program} {f:FuncId} {pre:Tm} {m:pre.ty.den->Option (Tm.ty ⟨[.d .bool],[]⟩).den} (sp:pV P f ⟨pre,⟨[.d .bool],[]⟩,m⟩) (h0:pre.bs.length=0) {x:pre.ty.den} (M:m x=af ai) {vs:List TV} {hp:bl} (hi:Dc pre x=af (vs,hp)) {la:List AV} (hla:cN hp vs=af la)
 {W:World} {us:List Value} (hg:∀ g cells,G g=af cells->nA (λ_=>False) W (.ptr cells 0) (.pointer (af ⟨g,0,ah⟩))) (hrel:jX (λ_=>ah) (λ_=>False) W la us):
 Calls P f us.toArray W λe w'=>e= .returned (.bool ai)/\Below W.heap.size W w':=by
 obtain⟨l1,I⟩:=wN hi;obtain⟨l2,J⟩:=wN (t:=⟨[.d .bool],[]⟩) (x:=ai) (vs:=[.f .bool ai]) (h1:=PT.leaf) rfl;have hn:bD hp=λ_=>ah:=by
  funext n;cases hb:bD hp n with
  |none=>rfl
  |some b=>
   obtain⟨i,c,rfl,h1,_⟩:=jy hb;have:=I.lt_len h1;omega
 have own0:∀ (φ:PM) k,¬own φ (bD hp) k:=by rintro φ k ⟨i,b,h1,_⟩;rw[hn] at h1;cases h1
 have htot:tot (λ_=>False) (λ_=>ah) (bD hp)=λ_=>False:=by
  funext k;exact propext ⟨λh=>h.elim id λh=>cR h (own0 _ k),λh=>h.elim⟩
 refine Calls.mono (sp.calls x ai M vs hp l1 _ PT.leaf l2 la _ I J hla rfl (λ_=>ah) (λ_=>False) W us ⟨(λi j b b' k h1=>by rw[hn] at h1;cases h1),(λi b h1=>by rw[hn] at h1;cases h1),(λk h=>h.elim),(λg cells h=>by rw[htot];exact hg g cells h)⟩ (by rw[htot];exact hrel) (λn k h=>by cases h)) ?_;rintro en w' ⟨v,φ',rfl,he,_,_,_,hv⟩;refine ⟨?_,⟨he.os,he.tape,he.output,he.size,λk hk=>he.blk k hk (own0 _ k)⟩⟩;have hv:cO φ' _ w' (.f (.raw (.bool ai))) v:=hv;cases hv with
 |f h=>cases h;rfl
theorem gKw:Tryz.prog.globalNamed "interleave/token.keywords" =af 0:=by kernel_rfl
theorem tKw:(Tryz.prog.globals[0]?).map (·.type)=af 276:=by kernel_rfl
theorem kw_of_laid {W:World} (h:laidMetH Tryz.prog [("interleave/token.keywords",Rows.laid_interleave_token_keywords)] W):∀ g cells,G g=af cells→nA (λ_=>False) W (.ptr cells 0) (.pointer (af ⟨g,0,ah⟩)):=by
 intro g cells U;unfold G at U;split at U
 .rename_i hg;have hg:=eq_of_beq hg;subst hg;cases U;rw[MakeChecks.laidMetH_plain _ _ _ (by kernel_rfl)] at h;obtain⟨ps,⟨g0,t0,cs0,f0,p0,q0,M,Z,Y,hd0,_,_⟩,_,_⟩:=h;obtain rfl:=jS (gKw.symm.trans M);obtain rfl:=jS (tKw.symm.trans Z);obtain⟨xs,m1,rfl,J,hlen,hn,hel⟩:=DataW.trod_array Tryz.underlying276 hd0;have c1:Tryz.prog.cellsOf 9=1:=by kernel_rfl
  have c22:Tryz.prog.cellsOf 276=22:=by kernel_rfl
  rw[c22] at hlen;simp only[aD,Rows.laid_interleave_token_keywords,DataW.agg.injEq] at J;have hxs:=J.1;have hcell:∀ j,j<22→∃ l,(xs.map (·.1))[j]? =af (.lit (.string l))∧W.cell? ⟨0,j,ah⟩=af (.string ⟨l.toArray⟩):=λj hj=>by
   have h1:=hel j hj;rw[c1,Nat.mul_one] at h1;rw[aB (by omega)] at h1;obtain⟨s,e1,e2,_⟩:=DataW.trod_string Tryz.underlying9 h1;refine ⟨s.data.toList,?_,?_⟩
   .rw[ba,aB (by omega),ch,e2]
   .have:=World.var?_cell M Y j;rw[this];have h2:cs0.toList[j]? =af (.string s):=by
     have:((cs0.toList.drop j).take 1)[0]? =af (.string s):=by rw[e1];rfl
     rw[cU,aE (by omega),g_] at this;simpa using this
    rw[← cJ,h2]
  have hb:0<W.heap.size:=by
   obtain⟨l,_,h2⟩:=hcell 0 (by omega);exact World.block_lt_of_cell? W _ h2
  refine .ptr C8 0 0 0 (λj=>(W.cell? ⟨0,j,ah⟩).getD undef) (λh=>h) hb (λx I=>?_) (λj hj=>?_) (λj x I=>?_)
  .simp only[C8,bp,cz,gi] at I;rcases I with rfl|rfl|rfl|rfl|rfl|rfl|rfl|rfl|rfl|rfl|rfl|rfl|rfl|rfl|rfl|rfl|rfl|rfl|rfl|rfl|rfl|rfl<;>rfl
  .obtain⟨l,_,h2⟩:=hcell j hj;rw[bN,h2];rfl
  .have hj:j<22:=(bn.1 I).1;obtain⟨l,h1,h2⟩:=hcell j hj;rw[← hxs] at h1;have:x= .raw (.string ⟨l.toArray⟩):=by
    rcases j with _|_|_|_|_|_|_|_|_|_|_|_|_|_|_|_|_|_|_|_|_|_|j;all_goals first|(simp only[qX,List.getElem?_cons_succ,ak,DataW.lit.injEq,Lit.string.injEq,C8] at h1 I;subst h1;subst I;rfl)|omega
   rw[this,h2];exact .raw _
 .cases U
end
end Go.Proofs.YthehadcddfilhaaGreatDoor.AI
