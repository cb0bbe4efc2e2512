/-
  Texts of the proof, part 6 of 6: what is used to prove the statement. No condition.
-/
import Derived.Test.YthehadcddfilhaaGreatDoorHBOrdersQ4
import Derived.Test.YthehadcddfilhaaGreatDoorRows
import Derived.LaidMore
namespace Go.Proofs.YthehadcddfilhaaGreatDoor.AI
open Go.RowKit
set_option maxRecDepth 100000
set_option maxHeartbeats 4000000
set_option linter.unusedVariables false
set_option linter.unusedSimpArgs false
open _root_.Bool renaming true→ai,false→aj
open _root_.List renaming getElem?_cons_zero→qV
open _root_.Nat renaming beq→aC
open _root_.Option renaming some→af,none→ah,map_some→ch
open _root_.Prod renaming p2→aZ,p3→bk,p4→bw,q3→bL,p5→cA,q5→cX,q4→dA,p6→dV,q6→fk,q7→kD,p7→kE,q8→pZ,p8→Aa,p9→Cn,p10→D'
noncomputable section
abbrev ak2:List PV:=[.row 1,.row 2,.row 3,.row 4,.row 5,.row 6,.d (.sl aM),.row 7,.row 8]
abbrev Ld0:List PB:=[.cells 107 ak2,.rows 53 aj (.sl aM),.rows 53 aj (.sl aM),.rows 53 aj (.sl aM),.rows 53 aj (.sl aM),.rows 53 aj (.sl aM),.rows 53 aj (.sl aM),.rows 53 aj (.sl aM),.rows 3 ai aM,.rows 3 aj aM]
abbrev Ld4:List PV:=[.d aM,.d aM,.d aM,.d aM,.d aM,.d (.sl aM),.d (.sl aM)]
abbrev Ld3:List PV:=[.d (.sl ky),.d (.sl qY),.d (.sl lq),.d (.sl .str),.d (.sl .str),.d (.sl oy)]
abbrev Ld1:List PB:=[.cells 59 Ld4,.cells 107 [.row 3,.row 4,.row 5,.row 6,.row 7,.row 8,.d (.sl aM),.row 9,.row 10],.cells 31 Ld3,.rows 53 aj (.sl aM),.rows 53 aj (.sl aM),.rows 53 aj (.sl aM),.rows 53 aj (.sl aM),.rows 53 aj (.sl aM),.rows 53 aj (.sl aM),.rows 53 aj (.sl aM),.rows 3 ai aM]
abbrev Ld2:List PB:=[.cells 107 ak2,.rows 53 aj (.sl aM),.rows 53 aj (.sl aM),.rows 53 aj (.sl aM),.rows 53 aj (.sl aM),.rows 53 aj (.sl aM),.rows 53 aj (.sl aM),.rows 53 aj (.sl aM),.rows 3 ai aM,.rows 3 aj aM,.cells 59 Ld4]
abbrev Ld5:List PB:=[.rows 153 aj dZ,.rows 4 ai .bool,.rows 155 ai ic,.cells 84 Hu]
abbrev Ld6:List PB:=[.rows 153 aj dZ,.rows 4 ai .bool,.rows 155 ai ic]
abbrev Pz:List PB:=[.rows 3 ai aM]
abbrev Ld8:List PB:=[.cells 87 [.d iQ],.cells 59 [.d fX],.cells 235 [.d Kd1]]
abbrev Ld9:List PB:=[.rows 3 ai aM,.cells 3 [.d aM]]
abbrev ani:List PB:=[.cells 31 [.d mc],.cells 84 [.row 4,.d aM,.row 5,.row 6],.cells 3 [.d aM],.cells 84 Ch,.rows 153 aj dZ,.rows 4 ai .bool,.rows 155 ai ic]
abbrev Ml:List PB:=[.rows 3 aj aM]
abbrev anh:List PB:=[.cells 84 Ch,.cells 84 [.row 2,.d aM,.row 3,.row 4],.rows 153 aj dZ,.rows 4 aj .bool,.rows 155 aj ic]
abbrev agb:List PB:=[.cells 34 [.d nZ],.rows 47 ai iv]
abbrev PA:List PV:=[.row 0,.d aM]
abbrev ad0:List PB:=[.rows 53 aj (.sl aM)]
abbrev ak1:List PB:=[.rows 53 aj (.sl aM),.rows 3 aj aM]
abbrev Zs:List PB:=[.cells 59 [.d fX]]
abbrev ak0:List PV:=[.ptr 0 0,.ptr 1 0,.ptr 2 0]
def Nn:FT:=⟨⟨Ht,[]⟩,⟨[.d aM],[]⟩,dH [(3,(.j ⟨[0,1],[12],⟨[.d .bool],[]⟩,[]⟩))]⟩
def Y7:cg:=cn Nn jw
def GM:FT:=⟨⟨[.d (.sl aM),.d (.sl aM)],[]⟩,⟨nz,[]⟩,dH [(8,(.j ⟨[0,1,14],[5,15],⟨PA,Ml⟩,[]⟩))]⟩
def SH:cg:=cn GM kc
def Xm:FT:=⟨⟨Ht,[]⟩,⟨[.d aM],[]⟩,dH [(3,(.j ⟨[0,1],[12],⟨[.d .bool],[]⟩,[]⟩))]⟩
def afg:cg:=cn Xm CR
def M6:FT:=⟨⟨[.d (.sl aM),.d (.sl aM)],[]⟩,⟨nz,[]⟩,dH [(8,(.j ⟨[0,1,14],[5,15],⟨PA,Ml⟩,[]⟩))]⟩
def YJ:cg:=cn M6 pG
def Xu:FT:=⟨⟨nz,[]⟩,⟨nz,[]⟩,.leaf⟩
def DW:cg:=cn Xu Of
def aj8:cg:=⟨DW.pre,DW.post,BY⟩
def Ka:FT:=⟨⟨[.d uW],[]⟩,⟨[.row 0],ad0⟩,dH [(8,(.j ⟨[9,10],[3,11],⟨PA,ad0⟩,[]⟩))]⟩
def VO:cg:=cn Ka io
def RL:FT:=⟨⟨nz,[]⟩,⟨[.row 0],Pz⟩,dH [(8,(.a [.nil 2 3 aM])),(12,(.a [.nil 2 3 aM]))]⟩
def zR:cg:=cn RL IG
def aft:cg:=⟨zR.pre,zR.post,oY⟩
def Kb:FT:=⟨⟨[.d Kd0],[]⟩,⟨[.agg [.row 0,.row 1,.row 2,.row 3,.row 4,.row 5,.d (.sl aM),.row 6,.row 7]],[.rows 53 aj (.sl aM),.rows 53 aj (.sl aM),.rows 53 aj (.sl aM),.rows 53 aj (.sl aM),.rows 53 aj (.sl aM),.rows 53 aj (.sl aM),.rows 53 aj (.sl aM),.rows 3 ai aM]⟩,.leaf⟩
def VP:cg:=cn Kb uo
def Nj:FT:=⟨⟨PA,ad0⟩,⟨nz,ad0⟩,dH [(3,(.j ⟨[1],[0,12],⟨[.row 0,.d .bool],ad0⟩,[]⟩))]⟩
def Y1:cg:=cn Nj tR
def Kd:FT:=⟨⟨ak0,Ld1⟩,⟨[.d uW],Ld1⟩,dH [(18,(.j ⟨[6],[0,1,2,25],⟨D6,Ld1⟩,[]⟩))]⟩
def VR:cg:=cn Kd uq
def Nl:FT:=⟨⟨[.d mc],[]⟩,⟨[.d Kd0],[]⟩,dH [(8,(.j ⟨[40],[2,3,41],⟨vT,[.cells 107 [.nil,.nil,.nil,.nil,.nil,.nil,.nil,.nil,.nil],.cells 107 [.row 2,.row 3,.row 4,.row 5,.row 6,.row 7,.nil,.row 8,.row 9],.rows 53 aj (.sl aM),.rows 53 aj (.sl aM),.rows 53 aj (.sl aM),.rows 53 aj (.sl aM),.rows 53 aj (.sl aM),.rows 53 aj (.sl aM),.rows 53 aj (.sl aM),.rows 3 aj aM]⟩,[]⟩))]⟩
def Y3:cg:=cn Nl pM
def GJ:FT:=⟨⟨Ht,[]⟩,⟨[.row 0],Ml⟩,dH [(4,(.j ⟨[0,1,5],[6],⟨[.d .bool],[]⟩,[]⟩)),(6,(.j ⟨[0,1,6],[5],⟨[.d aM],[]⟩,[]⟩)),(16,(.j ⟨[],[7],⟨[.row 0],Ml⟩,[]⟩)),(17,(.j ⟨[1],[7,33],⟨[.row 0,.d .bool],Ml⟩,[]⟩))]⟩
def SE:cg:=cn GJ sB
def wY:FT:=⟨⟨[.row 0],Ml⟩,⟨nz,Ml⟩,.leaf⟩
def ac9:cg:=cn wY wG
def afs:cg:=⟨wY.pre,⟨wY.post.vs,[]⟩,vi⟩
def Aq:FT:=⟨⟨[.d (.sl aM),.row 0],Ml⟩,⟨nz,Ml⟩,dH [(8,(.j ⟨[0,14],[1,5,15],⟨[.row 0,.row 1,.d aM],[.rows 3 aj aM,.rows 3 aj aM]⟩,[]⟩))]⟩
def afq:cg:=cn Aq tG
def aj7:cg:=⟨Aq.pre,⟨Aq.post.vs,[]⟩,BX⟩
def J9:FT:=⟨⟨[.row 0,.d aM,.row 1],ak1⟩,⟨[],ak1⟩,dH [(0,(.j ⟨[1],[0,2,13],⟨[.row 0,.row 1,.d .bool],ak1⟩,[]⟩))]⟩
def VM:cg:=cn J9 lH
def RF:FT:=⟨⟨[.ptr 0 0,.d aM,.row 9],Ld0⟩,⟨[],Ld0⟩,.leaf⟩
def ac4:cg:=cn RF wB
def Nk:FT:=⟨⟨[.d mc,.ptr 0 0,.d fX,.row 9],Ld0⟩,⟨[],Ld0⟩,dH [(6,(.j ⟨[],[],⟨[],Ld0⟩,[]⟩)),(11,(.j ⟨[20],[1,3,4,6,32],⟨[.ptr 0 0,.row 9,.ptr 10 0,.ptr 11 0,.d .bool],[.cells 107 ak2,.rows 53 aj (.sl aM),.rows 53 aj (.sl aM),.rows 53 aj (.sl aM),.rows 53 aj (.sl aM),.rows 53 aj (.sl aM),.rows 53 aj (.sl aM),.rows 53 aj (.sl aM),.rows 3 ai aM,.rows 3 aj aM,.cells 31 Ld3,.cells 59 Ld4]⟩,[]⟩)),(48,(.j ⟨[],[1,3,6,129],⟨[.ptr 0 0,.row 9,.ptr 10 0,.d .bool],Ld2⟩,[]⟩)),(59,(.j ⟨[141],[1,3,6,140,142],⟨[.ptr 0 0,.row 9,.ptr 10 0,.row 8,.d aM],Ld2⟩,[]⟩)),(67,(.j ⟨[141,142],[1,3,6,140],⟨[.ptr 0 0,.row 9,.ptr 10 0,.row 8],Ld2⟩,[]⟩))]⟩
def Y2:cg:=cn Nk rF
def RG:FT:=⟨⟨[.d mc,.d Kd0,.d fX],[]⟩,⟨[.d Kd0,.row 0],Ml⟩,dH [(14,(.j ⟨[22,23],[3,5,6,7,24],⟨[.ptr 0 0,.ptr 1 0,.ptr 2 0,.ptr 3 0,.d aM],[.cells 31 Ld3,.cells 59 Ld4,.cells 107 [.row 4,.row 5,.row 6,.row 7,.row 8,.row 9,.d (.sl aM),.row 10,.row 11],.cells 53 nz,.rows 53 aj (.sl aM),.rows 53 aj (.sl aM),.rows 53 aj (.sl aM),.rows 53 aj (.sl aM),.rows 53 aj (.sl aM),.rows 53 aj (.sl aM),.rows 53 aj (.sl aM),.rows 3 ai aM]⟩,[]⟩))]⟩
def ac5:cg:=cn RG sA
def JJ:FT:=⟨⟨nz,[]⟩,⟨[.row 0],Pz⟩,dH [(4,(.a [.nil 2 3 aM]))]⟩
def U_:cg:=cn JJ ue
def M4:FT:=⟨⟨Ht,[]⟩,⟨nz,[]⟩,dH [(5,(.j ⟨[1],[0,12],⟨[.row 0,.d .bool],Pz⟩,[]⟩)),(14,(.j ⟨[1],[0],⟨[.row 0],Pz⟩,[]⟩)),(23,(.j ⟨[],[0],⟨[.row 0],Pz⟩,[]⟩))]⟩
def YH:cg:=cn M4 pE
def JI:FT:=⟨⟨[.d mc,.d aM],[]⟩,⟨[.d aM],[]⟩,dH [(3,(.j ⟨[1],[2,13],⟨gL,[.cells 31 Ld3]⟩,[]⟩))]⟩
def U9:cg:=cn JI rn
def Bc:FT:=⟨⟨[.d mc,.d fX],[]⟩,⟨[.d aM,.d .bool],[]⟩,dH [(6,(.j ⟨[7],[2,3,8],⟨qQ,[.cells 31 Ld3,.cells 59 Ld4]⟩,[]⟩))]⟩
def L2:cg:=cn Bc oI
def Ba:FT:=⟨⟨[.d mc,.d fX],[]⟩,⟨[.d aM,.d .bool],[]⟩,dH [(6,(.j ⟨[7],[2,3,8],⟨qQ,[.cells 31 Ld3,.cells 59 Ld4]⟩,[]⟩))]⟩
def LZ:cg:=cn Ba oH
def wT:FT:=⟨⟨[.d .str],[]⟩,⟨[.d .bool],[]⟩,dH [(6,(.j ⟨[0,5],[6],⟨[.d aM],[]⟩,[]⟩))]⟩
def Fd:cg:=cn wT kV
def AY:FT:=⟨⟨[.d .str],[]⟩,⟨[.d .bool],[]⟩,dH [(3,(.j ⟨[0],[16],⟨[.d .bool],[]⟩,[]⟩)),(14,(.j ⟨[],[18],⟨[.ptr 0 0],[.mp lq .un]⟩,[]⟩)),(24,(.j ⟨[],[18],⟨[.ptr 0 0],[.mp lq .un]⟩,[]⟩)),(25,(.j ⟨[3,4],[18,23],⟨gL,[.mp lq .un]⟩,[]⟩)),(29,(.j ⟨[],[18,38],⟨gL,[.mp lq .un]⟩,[]⟩))]⟩
def LW:cg:=cn AY oE
def Kg:FT:=⟨⟨Ht,[]⟩,⟨[.d aM],[]⟩,dH [(6,(.j ⟨[0,1,7],[8],⟨[.d aM],[]⟩,[]⟩))]⟩
def VY:cg:=cn Kg rG
def Br:FT:=⟨⟨Ht,[]⟩,⟨[.d .bool],[]⟩,.leaf⟩
def Mj:cg:=cn Br kw
def Bq:FT:=⟨⟨[.d (.sl aM),.d iv],[]⟩,⟨[.d .bool],[]⟩,.leaf⟩
def Mi:cg:=cn Bq ku
def Kc:FT:=⟨⟨[.d fX],[]⟩,⟨[.d .bool],[]⟩,dH [(2,(.j ⟨[],[2],⟨[.d .bool],[]⟩,[]⟩))]⟩
def VQ:cg:=cn Kc xz
def DJ:FT:=⟨⟨[.d nZ,.d aM,.d aM],[]⟩,⟨[.d .bool],[]⟩,dH [(5,(.j ⟨[],[3,7,8,30],⟨D6,[.cells 34 [.d nZ],.cells 59 [.d fX],.cells 59 [.d fX]]⟩,[]⟩)),(13,(.j ⟨[],[7,8,48],⟨qQ,[.cells 59 [.d fX],.cells 59 [.d fX]]⟩,[]⟩)),(20,(.j ⟨[],[6],⟨[.d .bool],[]⟩,[]⟩))]⟩
def Pk:cg:=cn DJ xy
def J_:FT:=⟨⟨[.d (.sl fX)],[]⟩,⟨[.d (.sl iv)],[]⟩,dH [(10,(.j ⟨[11,12],[3,4,13],⟨[.mp 0,.row 1,.d aM],[.mp aM aM,.rows 55 aj iv]⟩,[.mpt 3 aM aM]⟩))]⟩
def VN:cg:=cn J_ m8
def yB:FT:=⟨⟨uU,[]⟩,⟨[.d .bool],[]⟩,dH [(2,(.j ⟨[],[4],⟨[.d .bool],[]⟩,[]⟩))]⟩
def Ho:cg:=cn yB sQ
def yC:FT:=⟨⟨[.d mc,.d aM,.d .bool],[]⟩,⟨[.d .bool],[]⟩,dH [(2,(.j ⟨[],[6],⟨[.d .bool],[]⟩,[]⟩))]⟩
def Hp:cg:=cn yC sR
def tf:FT:=⟨⟨[.d (.sl ky)],[]⟩,⟨[.d (.sl .str),.d .bool],[]⟩,dH [(8,(.j ⟨[0],[4,5],⟨PA,[.rows 9 ai .str]⟩,[.nil 4 9 .str]⟩)),(15,(.j ⟨[0],[4,5],⟨PA,[.rows 9 ai .str]⟩,[]⟩)),(37,(.j ⟨[0,5],[4,6,49],⟨[.row 0,.ptr 1 0,.d .bool],[.rows 9 ai .str,.cells 114 [.d ky]]⟩,[]⟩)),(48,(.j ⟨[0,5,51],[4,6,52],⟨[.row 0,.ptr 1 0,.d aM],[.rows 9 ai .str,.cells 114 [.d ky]]⟩,[]⟩))]⟩
def AL:cg:=cn tf g_
def s_:FT:=⟨⟨[.d mc,.d (.sl .str)],[]⟩,⟨[.d .bool],[]⟩,dH [(10,(.j ⟨[17,18],[2,5,19],⟨KY,Zv⟩,[]⟩)),(27,(.j ⟨[30,31],[2,5,32],⟨KY,Zv⟩,[]⟩)),(50,(.j ⟨[52],[10,51,53],⟨[.mp 0,.row 1,.d aM],[.mp .str .bool,.rows 9 ai .str]⟩,[.mpt 10 .str .bool]⟩)),(62,(.j ⟨[12,52,53],[10,51,64],⟨[.mp 0,.row 1,.d .bool],[.mp .str .bool,.rows 9 ai .str]⟩,[.mpt 10 .str .bool]⟩))]⟩
def AK:cg:=cn s_ dN
def s9:FT:=⟨⟨[.d mc],[]⟩,⟨[.d .bool],[]⟩,dH [(8,(.j ⟨[8,9],[1,3,4,10],⟨[.ptr 0 0,.d aM,.d aM,.d aM],pW⟩,[]⟩)),(20,(.j ⟨[3,4,8,9,10],[1,6,25],⟨qQ,[.cells 31 [.d mc],.cells 120 [.d oy]]⟩,[]⟩)),(27,(.j ⟨[8,9,10],[1,3,4,6],⟨[.ptr 0 0,.d aM,.d aM,.ptr 1 0],[.cells 31 [.d mc],.cells 120 [.d oy]]⟩,[]⟩))]⟩
def AJ:cg:=cn s9 fZ
def tj:FT:=⟨⟨[.d mc],[]⟩,⟨[.d .bool],[]⟩,dH [(3,(.j ⟨[],[1,34],⟨gL,pW⟩,[]⟩)),(11,(.j ⟨[],[1,44],⟨gL,pW⟩,[]⟩)),(21,(.j ⟨[],[1,58],⟨gL,pW⟩,[]⟩)),(32,(.j ⟨[60,61],[1,62],⟨vS,pW⟩,[]⟩))]⟩
def AM:cg:=cn tj dO
def Bm:FT:=⟨⟨[.d mc],[]⟩,⟨[.d Hw],[]⟩,dH [(8,(.j ⟨[20],[2,3,21],⟨vT,anh⟩,[]⟩)),(21,(.j ⟨[],[2,3],⟨[.ptr 0 0,.ptr 1 0],anh⟩,[]⟩))]⟩
def Md:cg:=cn Bm oK
def vx:FT:=⟨⟨[.d mc],[]⟩,⟨[.d iQ],[]⟩,dH [(8,(.j ⟨[22,23],[2,3,24],⟨vT,[.cells 87 vU,.cells 87 [.d (.sl dZ),.d aM,.d pY,.d (.sl ic),.row 2,.row 3,.row 4],.rows 2 aj aM,.rows 2 aj aM,.rows 3 aj aM]⟩,[]⟩))]⟩
def DN:cg:=cn vx dl
def sJ:FT:=⟨⟨[.d pY,.d fX],[]⟩,⟨[.d .bool],[]⟩,dH [(6,(.j ⟨[0,13],[14],⟨[.d aM],[]⟩,[]⟩)),(20,(.j ⟨[0,13,14,17,18],[19],⟨[.d aM],[]⟩,[]⟩)),(31,(.j ⟨[0,13,14,17,18,19],[37],⟨[.d .bool],[]⟩,[]⟩))]⟩
def zN:cg:=cn sJ ci
def zG:FT:=⟨⟨uU,[]⟩,⟨[.d .bool],[]⟩,dH [(2,(.j ⟨[],[4],⟨[.d .bool],[]⟩,[]⟩))]⟩
def Kq:cg:=cn zG e_
def yq:FT:=⟨⟨[.d mc,.d aM,.d aM],[]⟩,⟨[.d .bool],[]⟩,dH [(6,(.j ⟨[2,7],[3,8],⟨gL,pW⟩,[]⟩)),(36,(.j ⟨[2,7],[3,18],⟨gL,pW⟩,[]⟩)),(46,(.j ⟨[2,7],[3,26],⟨gL,pW⟩,[]⟩)),(53,(.j ⟨[],[6],⟨[.d .bool],[]⟩,[]⟩)),(56,(.j ⟨[2,7],[3,43],⟨gL,pW⟩,[]⟩)),(71,(.j ⟨[],[6],⟨[.d .bool],[]⟩,[]⟩)),(74,(.j ⟨[2,7],[3,61],⟨gL,pW⟩,[]⟩)),(92,(.j ⟨[2,7],[3,71],⟨gL,pW⟩,[]⟩)),(102,(.j ⟨[2],[3,79],⟨gL,pW⟩,[]⟩))]⟩
def Hj:cg:=cn yq lZ
def DE:FT:=⟨⟨[.d mc,.d Hw],[]⟩,⟨[.d .bool],[]⟩,dH [(3,(.j ⟨[],[2,31],⟨gL,pW⟩,[]⟩)),(14,(.j ⟨[33,34],[2,35],⟨vS,pW⟩,[]⟩))]⟩
def Pa:cg:=cn DE ka
def Bk:FT:=⟨⟨[.d mc,.d Hw,.d aM,.d aM,.d aM],[]⟩,⟨[.d .bool],[]⟩,dH [(15,(.j ⟨[],[10],⟨[.d .bool],[]⟩,[]⟩)),(21,(.j ⟨[],[10],⟨[.d .bool],[]⟩,[]⟩)),(24,(.j ⟨[2,4,11],[5,6,60],⟨qQ,Wf⟩,[]⟩)),(64,(.j ⟨[2,4,11],[5,6,109],⟨qQ,Wf⟩,[]⟩)),(81,(.j ⟨[],[10],⟨[.d .bool],[]⟩,[]⟩)),(87,(.j ⟨[],[10],⟨[.d .bool],[]⟩,[]⟩))]⟩
def Mb:cg:=cn Bk oJ
def yr:FT:=⟨⟨[.d mc,.d Hw,.d aM,.d aM,.d aM],[]⟩,⟨[.d .bool],[]⟩,dH [(3,(.j ⟨[2,3,4],[5,6,30],⟨qQ,Wf⟩,[]⟩)),(25,(.j ⟨[],[10],⟨[.d .bool],[]⟩,[]⟩)),(29,(.j ⟨[],[10],⟨[.d .bool],[]⟩,[]⟩))]⟩
def Hk:cg:=cn yr jb
def wR:FT:=⟨⟨[.d mc,.d iQ],[]⟩,⟨[.d .bool],[]⟩,dH [(2,(.j ⟨[],[4],⟨[.d .bool],[]⟩,[]⟩))]⟩
def Fb:cg:=cn wR kU
def uE:FT:=⟨⟨[.d mc,.d fX],[]⟩,⟨[.d .bool],[]⟩,dH [(3,(.j ⟨[],[2,3,12],⟨qQ,[.cells 31 [.d mc],.cells 59 [.d fX]]⟩,[]⟩)),(10,(.j ⟨[],[4],⟨[.d .bool],[]⟩,[]⟩))]⟩
def B_:cg:=cn uE jB
def qK:FT:=⟨⟨[.d mc,.d iQ,.d fX],[]⟩,⟨[.d .bool],[]⟩,dH [(2,(.j ⟨[],[4,5,7],⟨qQ,[.cells 87 [.d iQ],.cells 59 [.d fX]]⟩,[]⟩)),(4,(.j ⟨[],[4,5,8],⟨ak0,Ld8⟩,[]⟩)),(10,(.j ⟨[51],[4,5,8,52],⟨Fw,Ld8⟩,[]⟩)),(22,(.j ⟨[10,51,52],[4,5,8,64],⟨D6,Ld8⟩,[]⟩)),(34,(.j ⟨[51,52,65,66],[4,5,8,11,67],⟨[.ptr 0 0,.ptr 1 0,.ptr 2 0,.d aM,.d aM],Ld8⟩,[]⟩)),(46,(.j ⟨[13,51,52,65,66,67],[4,5,8,83],⟨D6,Ld8⟩,[]⟩))]⟩
def xU:cg:=cn qK eY
def uD:FT:=⟨⟨[.d iQ,.d fX],[]⟩,⟨[.d .bool],[]⟩,dH [(21,(.j ⟨[],[4],⟨[.d .bool],[]⟩,[]⟩)),(24,(.j ⟨[13],[2,3,46],⟨qQ,[.cells 87 [.d iQ],.cells 59 [.d fX]]⟩,[]⟩)),(43,(.j ⟨[53,54],[3,5,6,55],⟨[.ptr 0 0,.d aM,.d .bool,.d aM],Zs⟩,[]⟩)),(51,(.j ⟨[53,54,55],[3,5,6],⟨[.ptr 0 0,.d aM,.d .bool],Zs⟩,[]⟩)),(54,(.j ⟨[5,6,7,53,54,55],[3,69],⟨gL,Zs⟩,[]⟩)),(62,(.j ⟨[],[4],⟨[.d .bool],[]⟩,[]⟩)),(74,(.j ⟨[94,95],[3,9,96],⟨Tf,Zs⟩,[]⟩)),(82,(.j ⟨[94,95,96],[3,9],⟨vS,Zs⟩,[]⟩)),(85,(.j ⟨[9,94,95,96],[3,109],⟨gL,Zs⟩,[]⟩))]⟩
def B9:cg:=cn uD gy
def Bj:FT:=⟨⟨[.d ic,.d aM],[]⟩,⟨[.d .bool],[]⟩,dH [(2,(.j ⟨[],[4],⟨[.d .bool],[]⟩,[]⟩))]⟩
def Ma:cg:=cn Bj mm
def RM:FT:=⟨⟨[.d pY],[]⟩,⟨[.d pY],[]⟩,.leaf⟩
def zS:cg:=cn RM II
def afu:cg:=⟨zS.pre,zS.post,Oe⟩
def Nr:FT:=⟨⟨[.d pY],[]⟩,⟨[.row 0],[.rows 4 ai .bool]⟩,dH [(8,(.a [.nil 2 4 .bool])),(12,(.a [.nil 2 4 .bool]))]⟩
def xa:cg:=cn Nr ED
def acb:cg:=⟨xa.pre,xa.post,IH⟩
def RK:FT:=⟨⟨[.d (.sl ic)],[]⟩,⟨[.d (.sl ic)],[]⟩,.leaf⟩
def zQ:cg:=cn RK IF
def afr:cg:=⟨zQ.pre,zQ.post,Od⟩
def Np:FT:=⟨⟨[.d (.sl ic)],[]⟩,⟨[.row 0],[.rows 155 ai ic]⟩,dH [(8,(.a [.nil 2 155 ic])),(12,(.a [.nil 2 155 ic]))]⟩
def w9:cg:=cn Np EB
def ac8:cg:=⟨w9.pre,w9.post,IE⟩
def Nq:FT:=⟨⟨nz,[]⟩,⟨[.row 0],[.rows 2 ai aM]⟩,dH [(8,(.a [.nil 2 2 aM])),(12,(.a [.nil 2 2 aM]))]⟩
def w_:cg:=cn Nq EC
def aca:cg:=⟨w_.pre,w_.post,zd⟩
def Bl:FT:=⟨⟨[.d Hw],[]⟩,⟨[.agg Hu],Ld6⟩,dH [(8,(.j ⟨[11,12],[1,2,3,13],⟨[.ptr 0 0,.ptr 1 0,.row 2,.d aM],[.cells 84 [.d Hw],.cells 84 Ch,.rows 153 aj dZ]⟩,[]⟩))]⟩
def Mc:cg:=cn Bl kq
def zH:FT:=⟨⟨[.agg Hu,.d aM,.d aM],Ld6⟩,⟨[.d aM],Ld6⟩,dH [(8,(.j ⟨[1,2,12],[3,7,11,13],⟨[.ptr 3 0,.d aM,.row 2,.d aM],Ld5⟩,[]⟩)),(16,(.j ⟨[1,2,12,13],[3,7,11],⟨[.ptr 3 0,.d aM,.row 2],Ld5⟩,[]⟩)),(19,(.j ⟨[1,2,7,8,12,13],[3,11,29],⟨[.ptr 3 0,.row 2,.d .bool],Ld5⟩,[]⟩)),(25,(.j ⟨[7],[],⟨[],Ld6⟩,[]⟩))]⟩
def Kr:cg:=cn zH jG
def vy:FT:=⟨⟨[.agg Hu,.d aM],Ld6⟩,⟨[.d aM],Ld6⟩,dH [(8,(.j ⟨[1,10],[2,5,9,11],⟨[.ptr 3 0,.d aM,.row 2,.d aM],Ld5⟩,[]⟩)),(16,(.j ⟨[1,10,11],[2,5,9],⟨[.ptr 3 0,.d aM,.row 2],Ld5⟩,[]⟩))]⟩
def DQ:cg:=cn vy gV
def zL:FT:=⟨⟨[.d aM],[]⟩,⟨[.d .bool],[]⟩,.leaf⟩
def Kz:cg:=cn zL qx
def Bp:FT:=⟨⟨uU,[]⟩,⟨[.d .bool],[]⟩,dH [(2,(.j ⟨[],[4],⟨[.d .bool],[]⟩,[]⟩))]⟩
def Mh:cg:=cn Bp vL
def wX:FT:=⟨⟨[.d (.int .u64)],[]⟩,⟨[.d aM],[]⟩,.leaf⟩
def Fj:cg:=cn wX rD
def zK:FT:=⟨⟨[.d (.int .u64)],[]⟩,⟨[.d aM],[]⟩,.leaf⟩
def Kv:cg:=cn zK um
def od:FT:=⟨⟨[.row 0,.d aM,.d aM],Pz⟩,⟨[],Pz⟩,dH [(3,(.j ⟨[1,2],[0,6],⟨PA,Pz⟩,[]⟩)),(15,(.j ⟨[1,2,6],[0,7],⟨PA,Pz⟩,[]⟩)),(17,(.j ⟨[1,2,6,7],[0,30],⟨[.row 0,.d .bool],Pz⟩,[]⟩))]⟩
def uQ:cg:=cn od fU
def s8:FT:=⟨⟨[.row 0,.d aM,.d aM,.d aM],Pz⟩,⟨[],Pz⟩,dH [(5,(.j ⟨[],[0,1,2,3,8,9],⟨[.row 0,.d aM,.d aM,.d aM,.d .bool,.d .bool],Pz⟩,[]⟩))]⟩
def AH:cg:=cn s8 jg
def No:FT:=⟨⟨[.row 0],Pz⟩,⟨[],Pz⟩,.leaf⟩
def Y8:cg:=cn No wF
def DM:FT:=⟨⟨[.row 0],Pz⟩,⟨[.row 0],Pz⟩,dH [(14,(.j ⟨[],[0,3],⟨PA,Pz⟩,[]⟩))]⟩
def Pp:cg:=cn DM lI
def yw:FT:=⟨⟨[.d aM,.ptr 0 0],[.cells 3 [.d aM]]⟩,⟨[.d .bool],[.cells 3 [.d aM]]⟩,.leaf⟩
def Hl:cg:=cn yw oX
def zM:FT:=⟨⟨[.row 0,.clo 151 1 0],Ld9⟩,⟨[.d aM],Ld9⟩,dH [(6,(.j ⟨[7],[0,1,8],⟨[.row 0,.clo 151 1 0,.d aM],Ld9⟩,[]⟩))]⟩
def KA:cg:=cn zM ne
def yD:FT:=⟨⟨[.row 0,.clo 151 1 0],Ld9⟩,⟨[.row 2],[.gone,.cells 3 [.d aM],.rows 3 aj aM]⟩,dH [(16,(.j ⟨[],[0,1,5,6],⟨[.row 0,.clo 151 1 0,.d aM,.d aM],Ld9⟩,[]⟩)),(24,(.j ⟨[6],[0,1,5],⟨[.row 0,.clo 151 1 0,.d aM],Ld9⟩,[]⟩))]⟩
def Hq:cg:=cn yD jd
def nl:FT:=⟨⟨[.d mc,.d Hw,.d aM,.d aM,.d aM,.d aM],[]⟩,⟨[.d Hw,.d aM,.d .bool],[]⟩,dH [(17,(.j ⟨[],[7,12,15],⟨vT,[.cells 84 [.row 2,.d aM,.row 3,.row 4],.cells 84 Ch,.rows 153 aj dZ,.rows 4 ai .bool,.rows 155 ai ic]⟩,[]⟩)),(26,(.j ⟨[4,5,15,27],[6,7,8,12,42],⟨zX,ani⟩,[]⟩)),(34,(.j ⟨[4,5,15,27],[6,7,8,12,51],⟨zX,ani⟩,[]⟩))]⟩
def Ku:cg:=cn nl gW
def zI:FT:=⟨⟨[.d Hw],[]⟩,⟨[.agg [.csl 0 2 3,.d aM,.d pY,.d (.sl ic)]],[.cells 153 [.d aM,.row 1,.d aM,.row 2,.d aM,.row 3],.rows 3 ai aM,.rows 3 ai aM,.rows 3 ai aM]⟩,dH [(7,(.j ⟨[],[1,2,3],⟨[.ptr 0 0,.ptr 1 0,.csl 2 2 3],[.cells 84 [.d Hw],.cells 84 Ch,.cells 153 [.d aM,.row 3,.d aM,.row 4,.d aM,.row 5],.rows 3 ai aM,.rows 3 ai aM,.rows 3 ai aM]⟩,[.cel 3 1 3 aM,.cel 3 3 3 aM,.cel 3 5 3 aM]⟩)),(8,(.u 4))]⟩
def Ks:cg:=cn zI m7
def zJ:FT:=⟨⟨[.d mc,.d Hw,.d aM,.d aM,.d aM,.d aM],[]⟩,⟨[.d Hw,.d aM,.d .bool],[]⟩,dH [(17,(.j ⟨[],[7,12,15],⟨vT,[.cells 84 [.csl 2 2 3,.d aM,.d pY,.d (.sl ic)],.cells 84 Ch,.cells 153 [.d dZ,.d dZ,.d aM,.row 3],.rowsP 3 aM]⟩,[]⟩)),(26,(.j ⟨[4,5,15,27],[6,7,8,12,42],⟨zX,[.cells 31 [.d mc],.cells 84 [.csl 4 2 3,.d aM,.d pY,.d (.sl ic)],.cells 3 [.d aM],.cells 84 Ch,.cells 153 [.d aM,.row 5,.d aM,.row 6,.d aM,.row 7],.rows 3 ai aM,.rows 3 ai aM,.rows 3 ai aM]⟩,[]⟩)),(33,(.s 4 0 0 0)),(34,(.j ⟨[4,5,15,27],[6,7,8,12,51],⟨zX,[.cells 31 [.d mc],.cells 84 [.csl 4 2 3,.d aM,.d pY,.d (.sl ic)],.cells 3 [.d aM],.cells 84 Ch,.cells 153 [.d aM,.d (.sl aM),.d aM,.d (.sl aM),.d aM,.row 5],.rows 3 ai aM]⟩,[]⟩)),(41,(.s 4 0 0 0)),(46,(.s 4 0 0 3)),(53,(.s 4 0 0 3)),(74,(.s 4 0 0 0)),(80,(.s 4 0 0 0)),(100,(.a [.pk 7 0 dZ]))]⟩
def Kt:cg:=cn zJ kY
def Me:cg:=cn nl rW
def wS:FT:=⟨⟨[.d mc,.d iQ,.d fX],[]⟩,⟨[.d iQ,.d .bool],[]⟩,dH [(3,(.j ⟨[],[3,4,5,6,39],⟨zX,K3⟩,[]⟩)),(11,(.j ⟨[],[3,4,5,6,70],⟨zX,K3⟩,[]⟩)),(20,(.j ⟨[],[3,4,5,6,8],⟨[.ptr 0 0,.ptr 1 0,.ptr 2 0,.ptr 3 0,.d aM],K3⟩,[]⟩)),(41,(.j ⟨[],[5,6,12],⟨ak0,ak4⟩,[]⟩))]⟩
def Fc:cg:=cn wS fP
def uH:FT:=⟨⟨[.d nZ],[]⟩,⟨uU,[]⟩,dH [(26,(.j ⟨[27,28],[1,4,5,29],⟨[.ptr 0 0,.ptr 1 0,.csl 2 1 1,.d aM],[.cells 34 [.d nZ],.cells 87 [.d iQ],.cells 81 [.row 3],.rows 4 ai .bool]⟩,[.cel 5 0 4 .bool]⟩)),(40,(.j ⟨[6,27,28,29],[1,4,5,7,8,53],⟨[.ptr 0 0,.ptr 1 0,.csl 2 1 1,.ptr 3 0,.ptr 4 0,.d .bool],[.cells 34 [.d nZ],.cells 87 [.d iQ],.cells 81 [.row 5],.cells 59 [.d fX],.cells 87 [.d iQ],.rows 4 ai .bool]⟩,[]⟩)),(41,(.s 7 0 0 1)),(47,(.j ⟨[27,28,29],[1,4,5,8],⟨[.ptr 0 0,.ptr 1 0,.csl 2 1 1,.ptr 3 0],[.cells 34 [.d nZ],.cells 87 [.d iQ],.cells 81 [.row 4],.cells 87 [.d iQ],.rows 4 ai .bool]⟩,[]⟩)),(48,(.s 7 0 0 1))]⟩
def Cc:cg:=cn uH ey
def uG:FT:=⟨⟨[.d nZ],[]⟩,⟨uU,[]⟩,dH [(26,(.j ⟨[27,28],[1,4,5,29],⟨[.ptr 0 0,.ptr 1 0,.csl 2 1 2,.d aM],[.cells 34 [.d nZ],.cells 87 [.d iQ],.cells 81 [.row 3,.row 4],.rows 4 ai .bool,.rows 4 ai .bool]⟩,[.cel 5 0 4 .bool,.cel 5 1 4 .bool]⟩)),(40,(.j ⟨[6,27,28,29],[1,4,5,7,8,53],⟨[.ptr 0 0,.ptr 1 0,.csl 2 1 2,.ptr 3 0,.ptr 4 0,.d .bool],[.cells 34 [.d nZ],.cells 87 [.d iQ],.cells 81 [.row 5,.row 6],.cells 59 [.d fX],.cells 87 [.d iQ],.rows 4 ai .bool,.rows 4 ai .bool]⟩,[]⟩)),(41,(.s 7 0 0 2)),(47,(.j ⟨[27,28,29],[1,4,5,8],⟨[.ptr 0 0,.ptr 1 0,.csl 2 1 2,.ptr 3 0],[.cells 34 [.d nZ],.cells 87 [.d iQ],.cells 81 [.row 4,.row 5],.cells 87 [.d iQ],.rows 4 ai .bool,.rows 4 ai .bool]⟩,[]⟩)),(48,(.s 7 0 0 2))]⟩
def Cb:cg:=cn uG dt
def uF:FT:=⟨⟨[.d nZ],[]⟩,⟨uU,[]⟩,dH [(26,(.j ⟨[27,28],[1,4,5,29],⟨[.ptr 0 0,.ptr 1 0,.csl 2 1 3,.d aM],[.cells 34 [.d nZ],.cells 87 [.d iQ],.cells 81 [.row 3,.row 4,.row 5],.rows 4 ai .bool,.rows 4 ai .bool,.rows 4 ai .bool]⟩,[.cel 5 0 4 .bool,.cel 5 1 4 .bool,.cel 5 2 4 .bool]⟩)),(40,(.j ⟨[6,27,28,29],[1,4,5,7,8,53],⟨[.ptr 0 0,.ptr 1 0,.csl 2 1 3,.ptr 3 0,.ptr 4 0,.d .bool],[.cells 34 [.d nZ],.cells 87 [.d iQ],.cells 81 [.row 5,.row 6,.row 7],.cells 59 [.d fX],.cells 87 [.d iQ],.rows 4 ai .bool,.rows 4 ai .bool,.rows 4 ai .bool]⟩,[]⟩)),(41,(.s 7 0 0 3)),(47,(.j ⟨[27,28,29],[1,4,5,8],⟨[.ptr 0 0,.ptr 1 0,.csl 2 1 3,.ptr 3 0],[.cells 34 [.d nZ],.cells 87 [.d iQ],.cells 81 [.row 4,.row 5,.row 6],.cells 87 [.d iQ],.rows 4 ai .bool,.rows 4 ai .bool,.rows 4 ai .bool]⟩,[]⟩)),(48,(.s 7 0 0 3))]⟩
def Ca:cg:=cn uF dL
def eZ:FT:=⟨⟨[.d nZ],[]⟩,⟨uU,[]⟩,dH [(26,(.j ⟨[27,28],[1,4,5,29],⟨[.ptr 0 0,.ptr 1 0,.csl 2 1 4,.d aM],[.cells 34 [.d nZ],.cells 87 [.d iQ],.cells 81 [.row 3,.row 4,.row 5,.row 6],.rows 4 ai .bool,.rows 4 ai .bool,.rows 4 ai .bool,.rows 4 ai .bool]⟩,[.cel 5 0 4 .bool,.cel 5 1 4 .bool,.cel 5 2 4 .bool,.cel 5 3 4 .bool]⟩)),(40,(.j ⟨[6,27,28,29],[1,4,5,7,8,53],⟨[.ptr 0 0,.ptr 1 0,.csl 2 1 4,.ptr 3 0,.ptr 4 0,.d .bool],[.cells 34 [.d nZ],.cells 87 [.d iQ],.cells 81 [.row 5,.row 6,.row 7,.row 8],.cells 59 [.d fX],.cells 87 [.d iQ],.rows 4 ai .bool,.rows 4 ai .bool,.rows 4 ai .bool,.rows 4 ai .bool]⟩,[]⟩)),(41,(.s 7 0 0 4)),(47,(.j ⟨[27,28,29],[1,4,5,8],⟨[.ptr 0 0,.ptr 1 0,.csl 2 1 4,.ptr 3 0],[.cells 34 [.d nZ],.cells 87 [.d iQ],.cells 81 [.row 4,.row 5,.row 6,.row 7],.cells 87 [.d iQ],.rows 4 ai .bool,.rows 4 ai .bool,.rows 4 ai .bool,.rows 4 ai .bool]⟩,[]⟩)),(48,(.s 7 0 0 4))]⟩
def B':cg:=cn eZ eo
def DO:cg:=cn eZ mw
def Ke:FT:=⟨⟨[.d nZ],[]⟩,⟨[.d uW,.d aM],[]⟩,dH [(20,(.j ⟨[25,26],[1,6,7,27],⟨[.ptr 0 0,.ptr 1 0,.row 2,.d aM],[.cells 34 [.d nZ],.cells 107 [.d Kd0],.rows 53 aj (.sl aM)]⟩,[]⟩))]⟩
def VS:cg:=cn Ke m_
def Nm:FT:=⟨⟨[.d nZ],[]⟩,⟨[.d (.sl iv),.d aM],[]⟩,dH [(20,(.j ⟨[4,6,23],[1,7,24],⟨KY,agb⟩,[.nil 7 47 iv]⟩)),(34,(.j ⟨[4,6,8,23,24,27],[1,7,28],⟨KY,agb⟩,[]⟩)),(42,(.j ⟨[4,6,8,23,24,27,28],[1,7],⟨[.ptr 0 0,.row 1],agb⟩,[]⟩)),(45,(.j ⟨[4,6,8,9,23,24,27,28],[1,7,46],⟨[.ptr 0 0,.row 1,.d .bool],agb⟩,[]⟩))]⟩
def Y4:cg:=cn Nm tS
def Xt:FT:=⟨⟨[],[]⟩,⟨[.d mc],[]⟩,dH [(8,(.j ⟨[21],[0,1,22],⟨vT,agl⟩,[.cel 1 5 120 oy]⟩)),(22,(.j ⟨[2,21,22],[0,1,3],⟨vT,agl⟩,[]⟩))]⟩
def afp:cg:=cn Xt CV
def J8:FT:=⟨⟨[.d .bool],[]⟩,⟨[.d nZ],[]⟩,dH [(6,(.j ⟨[],[2,3],⟨[.ptr 0 0,.ptr 1 0],[.cells 34 Zw,.cells 34 [.d (.sl ky),.d (.sl qY),.d (.sl lq),.d (.sl .str),.d (.sl .str),.d (.sl oy),.row 2],.rows 59 aj fX]⟩,[]⟩))]⟩
def VH:cg:=cn J8 xx
def DH:FT:=⟨⟨[],[]⟩,⟨[.d .bool],[]⟩,dH [(6,(.j ⟨[],[0],⟨[.d .bool],[]⟩,[]⟩))]⟩
def Ph:cg:=cn DH qw
theorem EX:aI Pg 48 Y7:=mk Nn jw an bX
theorem Qw x:lh (kc x) (yZ x):=by
 unfold kc yZ vu ck bx bB aY cK aE cE;with_reducible repeat' first|(refine OI.o ?_;constructor)|intro _
theorem Rj:aI Pg 76 SH:=yJ GM kc yZ Qw (ac EX an) bX
theorem W9:aI Pg 33 afg:=mk Xm CR an bX
theorem X4 x:lh (pG x) (Et x):=by
 unfold pG Et EY ck bx bB aY cK aE cE;with_reducible repeat' first|(refine OI.o ?_;constructor)|intro _
theorem Yf:aI Pg 27 YJ:=yJ M6 pG Et X4 (ac W9 an) bX
theorem aez:aI Pg 117 DW:=mk Xu Of an bX
theorem abk:aI Pg 117 aj8:= @aI.sub Pg 117 DW.pre DW.post Of BY aez rfl (λx y h=>rP (b:=8) x y h)
theorem Ug x:lh (io x) (BQ x):=by
 unfold io BQ xF ck bx v7 bB aY cK aE cE;with_reducible repeat' first|(refine OI.o ?_;constructor)|intro _
theorem UW:aI Pg 118 VO:=yJ Ka io BQ Ug (ac abk an) bX
theorem abg:aI Pg 117 zR:=mk RL IG an bX
theorem OG:aI Pg 117 aft:= @aI.sub Pg 117 zR.pre zR.post IG oY abg rfl (λx y h=>rP (b:=8) x y h)
theorem UX:aI Pg 73 VP:=mk Kb uo (ac OG (ac UW an)) bX
theorem Yo:aI Pg 75 Y1:=mk Nj tR an bX
theorem UZ:aI Pg 74 VR:=mk Kd uq (ac Yo an) bX
theorem X6 x:lh (pM x) (Ew x):=by
 unfold pM Ew Am aZ bk bw cA dV kE pZ ck bx bB aY cK aE cE;with_reducible repeat' first|(refine OI.o ?_;constructor)|intro _
theorem Yq:aI Pg 45 Y3:=yJ Nl pM Ew X6 an bX
theorem Ri:aI Pg 77 SE:=mk GJ sB an bX
theorem abf:aI Pg 117 ac9:=mk wY wG an bX
theorem Xa:aI Pg 117 afs:= @aI.ro Pg 117 wY.pre wY.post.vs wG vi (abf.holds rfl) rfl (λx _ h=>by rw[show vi x=obind (wG x) λy=>same y.2 x (af y.1) from gO (obind _) (funext λ_=>Qf ..)] at h;exact h)
theorem aeg x:lh (tG x) (Ob x):=by
 unfold tG Ob HX ck bx bB aY cK aE cE;with_reducible repeat' first|(refine OI.o ?_;constructor)|intro _
theorem aew:aI Pg 76 afq:=yJ Aq tG Ob aeg (ac EX an) bX
theorem abc:aI Pg 76 aj7:= @aI.ro Pg 76 Aq.pre Aq.post.vs tG BX (aew.holds rfl) rfl (λx _ h=>by rw[show BX x=obind (tG x) λy=>same y.2 x.2 (af y.1) from gO (obind _) (funext λ_=>Qf ..)] at h;exact h)
theorem UV:aI Pg 119 VM:=mk J9 lH (ac abc an) bX
theorem aba:aI Pg 120 ac4:=mk RF wB (ac Xa an) bX
theorem X5 x:lh (rF x) (Ev x):=by
 unfold rF Ev Al D' Prod.p11 Prod.p12 Prod.p13 Prod.p14 Prod.p15 Prod.p16 Prod.p17 aZ bk bw cA dV kE Aa Cn Prod.q10 Prod.q16 Prod.q17 Prod.q18 cX kD Prod.q9 ck bf bx iH v7 bB aY cK aE cE;with_reducible repeat' first|(refine OI.o ?_;constructor)|intro _
theorem Yp:aI Pg 78 Y2:=yJ Nk rF Ev X5 (ac abc (ac Xa (ac UV (ac aba an)))) bX
theorem aam x:lh (sA x) (IB x):=by
 unfold sA IB Dc D' Prod.p11 aZ bk bw cA dV kE Aa Cn Prod.q11 Prod.q12 cX fk pZ Prod.q9 ck bx v7 bB aY cK cE;with_reducible repeat' first|(refine OI.o ?_;constructor)|intro _
theorem abb:aI Pg 46 ac5:=yJ RG sA IB aam (ac UX (ac UZ (ac Rj (ac Ri (ac Yp an))))) bX
theorem Uy:aI Pg 51 U_:=mk JJ ue an bX
theorem X3 x:lh (pE x) (Es x):=by
 unfold pE Es Ak ck bx iH bB aY cK aE;with_reducible repeat' first|(refine OI.o ?_;constructor)|intro _
theorem Yd:aI Pg 29 YH:=yJ M4 pE Es X3 (ac Uy an) bX
theorem IZ:aI Pg 52 U9:=mk JI rn an bX
theorem LC:aI Pg 31 L2:=mk Bc oI (ac IZ an) bX
theorem LB:aI Pg 32 LZ:=mk Ba oH (ac IZ an) bX
theorem Ep x:lh (kV x) (rm x):=by
 unfold kV rm rK D' Prod.p11 Prod.p12 Prod.p13 Prod.p14 Prod.p15 Prod.p16 Prod.p17 Prod.p18 Prod.p19 aZ Prod.p20 bk bw cA dV kE Aa Cn Prod.q21 bx bB cK aE cE;with_reducible repeat' first|(refine OI.o ?_;constructor)|intro _
theorem EK:aI Pg 178 Fd:=yJ wT kV rm Ep an bX
theorem Lo x:lh (oE x) (vH x):=by
 unfold oE vH vO bf bx iH bB aY cK aE;with_reducible repeat' first|(refine OI.o ?_;constructor)|intro _
theorem Ly:aI Pg 141 LW:=yJ AY oE vH Lo (ac EK an) bX
theorem Uj x:lh (rG x) (BS x):=by
 unfold rG BS xK bf bx bA aY cK aE cE;with_reducible repeat' first|(refine OI.o ?_;constructor)|intro _
theorem U1:aI Pg 197 VY:=yJ Kg rG BS Uj an bX
theorem LS:aI Pg 179 Mj:=mk Br kw (ac U1 an) bX
theorem AU:aI Pg 22 Mi:=mk Bq ku (ac EX an) bX
theorem UY:aI Pg 47 VQ:=mk Kc xz an bX
theorem OE:aI Pg 21 Pk:=mk DJ xy (ac UY an) bX
theorem Uf x:lh (m8 x) (BP x):=by
 unfold m8 BP xE ck bx bB bA aY cK aE cE;with_reducible repeat' first|(refine OI.o ?_;constructor)|intro _
theorem Jd:aI Pg 20 VN:=yJ J_ m8 BP Uf an bX
theorem Ha:aI Pg 142 Ho:=mk yB sQ an bX
theorem Hb:aI Pg 107 Hp:=mk yC sR (ac Ha an) bX
theorem Az x:lh (g_ x) (om x):=by
 unfold g_ om ov aZ bk bw cA dA fk bf bx je bB bA aY cK aE cE;with_reducible repeat' first|(refine OI.o ?_;constructor)|intro _
theorem AF:aI Pg 105 AL:=yJ tf g_ om Az an bX
theorem Ay x:lh (dN x) (ol x):=by
 unfold dN ol ou aZ bk bw bx bB bA kB aY cK aE cE;with_reducible repeat' first|(refine OI.o ?_;constructor)|intro _
theorem AE:aI Pg 106 AK:=yJ s_ dN ol Ay (ac Ly an) bX
theorem Ax x:lh (fZ x) (oh x):=by
 unfold fZ oh kM aZ bk cA cX bx je bA aY cK aE cE;with_reducible repeat' first|(refine OI.o ?_;constructor)|intro _
theorem AD:aI Pg 108 AJ:=yJ s9 fZ oh Ax an bX
theorem AA x:lh (dO x) (oo x):=by
 unfold dO oo kN aZ bk cA cX bx bA aY cK aE cE;with_reducible repeat' first|(refine OI.o ?_;constructor)|intro _
theorem kL:aI Pg 68 AM:=yJ tj dO oo AA (ac AF (ac AE (ac Hb (ac AD an)))) bX
theorem Lr x:lh (oK x) (vJ x):=by
 unfold oK vJ vP aZ bk bw bL dA cX ck bx bB aY cK aE cE;with_reducible repeat' first|(refine OI.o ?_;constructor)|intro _
theorem LN:aI Pg 109 Md:=yJ Bm oK vJ Lr an bX
theorem CO x:lh (dl x) (qf x):=by
 unfold dl qf qC aZ bk bw dA bx bB bA aY cK aE cE;with_reducible repeat' first|(refine OI.o ?_;constructor)|intro _
theorem my:aI Pg 69 DN:=yJ vx dl qf CO (ac LN an) bX
theorem yW x:lh (ci x) (mL x):=by
 unfold ci mL kh dV kD bx iH bB bA aY cK aE cE;with_reducible repeat' first|(refine OI.o ?_;constructor)|intro _
theorem kg:aI Pg 71 zN:=yJ sJ ci mL yW an bX
theorem uv:aI Pg 144 Kq:=mk zG e_ an bX
theorem G':aI Pg 145 Hj:=mk yq lZ (ac uv an) bX
theorem N7 x:lh (ka x) (xu x):=by
 unfold ka xu tJ aZ bk bw dA bx je bA aY cK aE cE;with_reducible repeat' first|(refine OI.o ?_;constructor)|intro _
theorem C9:aI Pg 143 Pa:=yJ DE ka xu N7 (ac uv an) bX
theorem LL:aI Pg 146 Mb:=mk Bk oJ (ac LS an) bX
theorem sS:aI Pg 111 Hk:=mk yr jb (ac C9 (ac uv (ac G' (ac LL an)))) bX
theorem EJ:aI Pg 110 Fb:=mk wR kU (ac C9 an) bX
theorem B1:aI Pg 112 B_:=mk uE jB an bX
theorem xt x:lh (eY x) (lD x):=by
 unfold eY lD jr aZ bk bw cA bL dA fk bf bx iH bB bA aY cK aE cE;with_reducible repeat' first|(refine OI.o ?_;constructor)|intro _
theorem xB:aI Pg 113 xU:=yJ qK eY lD xt an bX
theorem BH x:lh (gy x) (pa x):=by
 unfold gy pa lJ aZ bk bw cA bL bf bx bA aY cK aE cE;with_reducible repeat' first|(refine OI.o ?_;constructor)|intro _
theorem BZ:aI Pg 114 B9:=yJ uD gy pa BH an bX
theorem AT:aI Pg 185 Ma:=mk Bj mm an bX
theorem abj:aI Pg 180 zS:=mk RM II an bX
theorem aey:aI Pg 180 afu:= @aI.sub Pg 180 zS.pre zS.post II Oe abj rfl (λx y h=>rP (b:=1) x y h)
theorem Yw:aI Pg 180 xa:=mk Nr ED an bX
theorem abi:aI Pg 180 acb:= @aI.sub Pg 180 xa.pre xa.post ED IH Yw rfl (λx y h=>rP (b:=1) x y h)
theorem abe:aI Pg 181 zQ:=mk RK IF an bX
theorem aex:aI Pg 181 afr:= @aI.sub Pg 181 zQ.pre zQ.post IF Od abe rfl (λx y h=>rP (b:=24) x y h)
theorem Yu:aI Pg 181 w9:=mk Np EB an bX
theorem abd:aI Pg 181 ac8:= @aI.sub Pg 181 w9.pre w9.post EB IE Yu rfl (λx y h=>rP (b:=24) x y h)
theorem Yv:aI Pg 116 w_:=mk Nq EC an bX
theorem abh:aI Pg 116 aca:= @aI.sub Pg 116 w_.pre w_.post EC zd Yv rfl (λx y h=>rP (b:=8) x y h)
theorem Lq x:lh (kq x) (vI x):=by
 unfold kq vI r7 aZ bL ck bx bB bA aY cK cE;with_reducible repeat' first|(refine OI.o ?_;constructor)|intro _
theorem LM:aI Pg 147 Mc:=yJ Bl kq vI Lq (ac abk (ac abi (ac abd an))) bX
theorem Iw x:lh (jG x) (ub x):=by
 unfold jG ub qF aZ bk bL ck bx iH kB aY cK aE cE;with_reducible repeat' first|(refine OI.o ?_;constructor)|intro _
theorem I8:aI Pg 152 Kr:=yJ zH jG ub Iw (ac AT an) bX
theorem CP x:lh (gV x) (qg x):=by
 unfold gV qg mA aZ bk bL dA ck bx kB aY cK aE cE;with_reducible repeat' first|(refine OI.o ?_;constructor)|intro _
theorem C8:aI Pg 153 DQ:=yJ vy gV qg CP (ac AT an) bX
theorem Jf:aI Pg 220 Kz:=mk zL qx an bX
theorem LR:aI Pg 204 Mh:=mk Bp vL (ac Jf an) bX
theorem ES:aI Pg 208 Fj:=mk wX rD an bX
theorem Jb:aI Pg 183 Kv:=mk zK um (ac ES an) bX
theorem uN x:lh (fU x) (jU x):=by
 unfold fU jU jV ck bx kB cK aE cE;with_reducible repeat' first|(refine OI.o ?_;constructor)|intro _
theorem uO:aI Pg 198 uQ:=yJ od fU jU uN (ac LR an) bX
theorem Aw x:lh (jg x) (og x):=by
 unfold jg og oq aZ bk bf iH bB aE;with_reducible repeat' first|(refine OI.o ?_;constructor)|intro _
theorem AC:aI Pg 182 AH:=yJ s8 jg og Aw (ac uO an) bX
theorem Yt:aI Pg 148 Y8:=mk No wF (ac AC (ac Jb an)) bX
theorem N_ x:lh (lI x) (xv x):=by
 unfold lI xv xL bf bx bB kB aY cK aE cE;with_reducible repeat' first|(refine OI.o ?_;constructor)|intro _
theorem OF:aI Pg 149 Pp:=yJ DM lI xv N_ an bX
theorem yf:aI Pg 151 Hl:=mk yw oX an bX
theorem Iz x:lh (ne x) (uc x):=by
 unfold ne uc uA bx kB aY cK aE cE;with_reducible repeat' first|(refine OI.o ?_;constructor)|intro _
theorem Jg:aI Pg 184 KA:=yJ zM ne uc Iz (ac yf an) bX
theorem G3 x:lh (jd x) (sP x):=by
 unfold jd sP sU ck bf bx bB kB aY cK aE cE;with_reducible repeat' first|(refine OI.o ?_;constructor)|intro _
theorem Hc:aI Pg 150 Hq:=yJ yD jd sP G3 (ac yf (ac Jg an)) bX
theorem Ja:aI Pg 115 Ku:=mk nl gW (ac sS (ac LM (ac I8 (ac C8 an)))) bX
def tv2 (t:TypeId):Option Ty:=if aC t 153 then af (.pr .un (.pr .un (.pr .un (.pr .un dZ)))) else bX t
theorem I9:aI Pg 147 Ks:=mk zI m7 (ac OG (ac aey (ac aex an))) tv2
theorem I_:aI Pg 115 Kt:=mk zJ kY (ac sS (ac I9 (ac Yt (ac OF (ac Hc an))))) tv2
theorem LO:aI Pg 115 Me:=(aI.orE (pre:=nl.pre) (post:=nl.post) (m:=gW) (m':=kY) rfl Ja I_)
theorem nQ:aI Pg 70 Fc:=mk wS fP (ac EJ (ac sS (ac B1 (ac xB (ac BZ (ac LO (ac abh (ac OG an)))))))) bX
def tv3 (t:TypeId):Option Ty:=if aC t 81 then af (.pr .un (.pr .un pY)) else bX t
theorem BL x:lh (ey x) (pg x):=by
 unfold ey pg lK aZ bk bw bL cX bf bx bB bA aY cK aE cE;with_reducible repeat' first|(refine OI.o ?_;constructor)|intro _
theorem B5:aI Pg 44 Cc:=yJ uH ey pg BL (ac kL (ac my (ac nQ (ac kg an)))) tv3
def tv4 (t:TypeId):Option Ty:=if aC t 81 then af (.pr .un (.pr .un (.pr .un pY))) else bX t
theorem BK x:lh (dt x) (pf x):=by
 unfold dt pf jL aZ bk bw cA bL dA fk bf bx bB bA aY cK aE cE;with_reducible repeat' first|(refine OI.o ?_;constructor)|intro _
theorem B4:aI Pg 44 Cb:=yJ uG dt pf BK (ac kL (ac my (ac nQ (ac kg an)))) tv4
def tv5 (t:TypeId):Option Ty:=if aC t 81 then af (.pr .un (.pr .un (.pr .un (.pr .un pY)))) else bX t
theorem BJ x:lh (dL x) (pe x):=by
 unfold dL pe jK aZ bk bw cA dV bL cX fk kD bf bx bB bA aY cK aE cE;with_reducible repeat' first|(refine OI.o ?_;constructor)|intro _
theorem B3:aI Pg 44 Ca:=yJ uF dL pe BJ (ac kL (ac my (ac nQ (ac kg an)))) tv5
def tv6 (t:TypeId):Option Ty:=if aC t 81 then af (.pr .un (.pr .un (.pr .un (.pr .un (.pr .un pY))))) else bX t
theorem BI x:lh (eo x) (pd x):=by
 unfold eo pd jJ aZ bk bw cA dV kE bL fk kD pZ bf bx bB bA aY cK aE cE;with_reducible repeat' first|(refine OI.o ?_;constructor)|intro _
theorem B2:aI Pg 44 B':=yJ eZ eo pd BI (ac kL (ac my (ac nQ (ac kg an)))) tv6
theorem C5:aI Pg 44 DO:=(aI.orE (pre:=eZ.pre) (post:=eZ.post) (m:=eo) (m':=(λx=>orE (dL x) ((λx=>orE (dt x) (ey x)) x))) rfl B2 (aI.orE (pre:=eZ.pre) (post:=eZ.post) (m:=dL) (m':=(λx=>orE (dt x) (ey x))) rfl B3 (aI.orE (pre:=eZ.pre) (post:=eZ.post) (m:=dt) (m':=ey) rfl B4 B5)))
theorem Uh x:lh (m_ x) (BR x):=by
 unfold m_ BR xG aZ bL ck bx je bB bA aY cK aE cE;with_reducible repeat' first|(refine OI.o ?_;constructor)|intro _
theorem Je:aI Pg 19 VS:=yJ Ke m_ BR Uh (ac C5 (ac Yq (ac abb an))) bX
theorem X7 x:lh (tS x) (Ey x):=by
 unfold tS Ey EZ bx je bB bA aY cK aE cE;with_reducible repeat' first|(refine OI.o ?_;constructor)|intro _
theorem Yr:aI Pg 8 Y4:=yJ Nm tS Ey X7 (ac Je (ac Jd (ac OE (ac AU an)))) bX
theorem aef x:lh (CV x) (Oa x):=by
 unfold CV Oa OL aZ bk bw cA fk bx bB cK aE cE;with_reducible repeat' first|(refine OI.o ?_;constructor)|intro _
theorem aev:aI Pg 35 afp:=yJ Xt CV Oa aef an bX
theorem UU:aI Pg 30 VH:=mk J8 xx (ac aev an) bX
theorem OD:aI Pg 12 Ph:=mk DH qw (ac Yr (ac UU an)) bX
abbrev Le0:List PB:=[.cells 34 [.d nZ]]
abbrev Le1:List PB:=[.cells 31 [.d mc],.rows 3 ai aM,.cells 59 [.d fX],.cells 59 [.d fX]]
abbrev Le2:List PB:=[.cells 34 [.d nZ],.rows 53 ai (.sl aM)]
abbrev Le3:List PB:=[.cells 31 [.d mc],.rows 3 ai aM,.cells 59 [.d fX]]
abbrev Le4:List PV:=[.ptr 0 0,.row 1,.ptr 2 0,.ptr 3 0,.d .bool]
abbrev Le6:List PB:=[.cells 31 [.d mc],.rows 3 ai aM]
abbrev Le7:List PV:=[.d (.sl fX),.d aM]
def Kf:FT:=⟨⟨[.d nZ,.d aM,.d aM],[]⟩,⟨[.d .bool],[]⟩,dH [(3,(.j ⟨[1,2],[3,22],⟨gL,Le0⟩,[]⟩))]⟩
def VU:cg:=cn Kf kr
def F6:FT:=⟨⟨[.d fX],[]⟩,⟨[.d .bool],[]⟩,dH [(2,(.j ⟨[],[2],⟨[.d .bool],[]⟩,[]⟩))]⟩
def RY:cg:=cn F6 pH
def A_:FT:=⟨⟨[.d mc,.d fX],[]⟩,⟨[.d .bool],[]⟩,dH [(2,(.j ⟨[],[4],⟨[.d .bool],[]⟩,[]⟩))]⟩
def LY:cg:=cn A_ oG
def Bb:FT:=⟨⟨Le7,[]⟩,⟨[.d aM],[]⟩,dH [(6,(.j ⟨[0,1],[5],⟨[.d aM],[]⟩,[]⟩))]⟩
def L1:cg:=cn Bb mf
def F3:FT:=⟨⟨Le7,[]⟩,⟨[.d aM],[]⟩,dH [(8,(.j ⟨[0,1],[5,6],⟨uU,[]⟩,[]⟩)),(16,(.j ⟨[0,1,6],[5],⟨[.d aM],[]⟩,[]⟩))]⟩
def RU:cg:=cn F3 sk
def JH:FT:=⟨⟨Le7,[]⟩,⟨[.d aM],[]⟩,dH [(5,(.j ⟨[0,1,5],[19],⟨[.d .bool],[]⟩,[]⟩)),(16,(.j ⟨[0,1,5],[6],⟨[.d aM],[]⟩,[]⟩)),(25,(.j ⟨[0,1,5,6],[66],⟨[.d .bool],[]⟩,[]⟩))]⟩
def U8:cg:=cn JH ud
def M7:FT:=⟨⟨[.d mc,.d (.sl fX),.d aM],[]⟩,⟨nz,[]⟩,dH [(10,(.j ⟨[1,2],[3,7,8,9],⟨[.ptr 0 0,.row 1,.ptr 2 0,.d aM],Le3⟩,[.nil 7 3 aM]⟩)),(21,(.j ⟨[1,2,9],[3,7,8],⟨[.ptr 0 0,.row 1,.ptr 2 0],Le3⟩,[]⟩)),(22,(.j ⟨[1,2,9],[3,7,8,10,25],⟨Le4,Le1⟩,[]⟩)),(26,(.j ⟨[1,2,9],[3,7,8,10,45],⟨Le4,Le1⟩,[]⟩)),(30,(.j ⟨[1,2,9],[3,7,8,10,60],⟨Le4,Le1⟩,[]⟩)),(34,(.j ⟨[1,2,9],[3,7,8,85],⟨[.ptr 0 0,.row 1,.ptr 2 0,.d .bool],Le3⟩,[]⟩)),(40,(.j ⟨[],[7],⟨[.row 0],Pz⟩,[]⟩))]⟩
def YK:cg:=cn M7 wq
def M5:FT:=⟨⟨[.d mc,.d (.sl fX),.d aM],[]⟩,⟨nz,[]⟩,dH [(10,(.j ⟨[1,2,8,9],[3,7,10],⟨KY,Le6⟩,[.nil 7 3 aM]⟩)),(18,(.j ⟨[1,2,8,9,10],[3,7],⟨[.ptr 0 0,.row 1],Le6⟩,[]⟩)),(21,(.j ⟨[1,2,8,9,10],[3,7,65],⟨[.ptr 0 0,.row 1,.d .bool],Le6⟩,[]⟩))]⟩
def YI:cg:=cn M5 wn
def F5:FT:=⟨⟨[.d nZ],[]⟩,⟨[.d uW],[]⟩,dH [(6,(.a [.nil 3 53 (.sl aM)])),(8,(.j ⟨[13],[1,3,14],⟨KY,Le2⟩,[]⟩)),(21,(.j ⟨[4,13,14],[1,3,5],⟨[.ptr 0 0,.row 1,.d (.sl aM)],Le2⟩,[]⟩)),(33,(.j ⟨[4,13,14,32,33],[1,3,5,34],⟨[.ptr 0 0,.row 1,.d (.sl aM),.d aM],Le2⟩,[]⟩)),(50,(.j ⟨[4,13,14,50,51],[1,3,5,52],⟨[.ptr 0 0,.row 1,.d (.sl aM),.d aM],Le2⟩,[]⟩))]⟩
def RX:cg:=cn F5 sq
def F4:FT:=⟨⟨[.d (.sl aM),.d iv],[]⟩,⟨[.d .bool],[]⟩,.leaf⟩
def RW:cg:=cn F4 vh
def Dr:FT:=⟨⟨Le7,[]⟩,⟨[.d iv],[]⟩,.leaf⟩
def OZ:cg:=cn Dr ql
def yA:FT:=⟨⟨[.d Ke0,.d aM,.d aM],[]⟩,⟨[.d .bool],[]⟩,dH [(7,(.j ⟨[2,8],[7,42],⟨gL,Le0⟩,[]⟩)),(20,(.j ⟨[],[6],⟨[.d .bool],[]⟩,[]⟩)),(30,(.j ⟨[8,9,10],[7,11],⟨vS,Le0⟩,[]⟩)),(39,(.j ⟨[8,9,10,11],[7,12],⟨gL,Le0⟩,[]⟩)),(49,(.j ⟨[],[6],⟨[.d .bool],[]⟩,[]⟩))]⟩
def Hn:cg:=cn yA l7
theorem U0:aI Pg 14 VU:=mk Kf kr (ac Je (ac Jd (ac AU an))) bX
theorem QO:aI Pg 49 RY:=mk F6 pH an bX
theorem LA:aI Pg 24 LY:=mk A_ oG (ac QO an) bX
theorem AS:aI Pg 25 L1:=mk Bb mf an bX
theorem QL:aI Pg 34 RU:=mk F3 sk an bX
theorem Ux:aI Pg 50 U8:=mk JH ud (ac AS an) bX
theorem Yg:aI Pg 26 YK:=mk M7 wq (ac LA (ac Ux an)) bX
theorem Ye:aI Pg 28 YI:=mk M5 wn (ac LC (ac LB an)) bX
theorem QN:aI Pg 11 RX:=mk F5 sq (ac AS (ac Yg (ac Yf (ac Ye (ac Yd an))))) bX
theorem QM:aI Pg 15 RW:=mk F4 vh (ac W9 an) bX
theorem Ot:aI Pg 16 OZ:=mk Dr ql (ac QL an) bX
theorem hlaw23_HBOrders:aI Pg 5 Hn:=mk yA l7 (ac EL (ac QN (ac OD (ac U0 (ac QM (ac Ot an)))))) bX
theorem run_law {P:Program} {f:FuncId} {pre:Tm} {m:pre.ty.den->Option (Tm.ty ⟨[.d .bool],[]⟩).den} (sp:pR P f ⟨pre,⟨[.d .bool],[]⟩,m⟩) (h0:pre.bs.length=0) {x:pre.ty.den} (M:m x=af ai) {vs:List TV} {hp:bi} (hi:C4 pre x=af (vs,hp)) {la:List AV} (hla:cN hp vs=af la)
 {W:World} {us:List Value} (hg:∀ g cells,G g=af cells->ny (λ_=>False) W (.ptr cells 0) (.pointer (af ⟨g,0,ah⟩))) (hrel:jW (λ_=>ah) (λ_=>False) W la us):
 Calls P f us.toArray W λe w'=>e= .returned (.bool ai)/\Below W.heap.size W w':=by
 obtain⟨l1,I⟩:=wK hi;obtain⟨l2,J⟩:=wK (t:=⟨[.d .bool],[]⟩) (x:=ai) (vs:=[.f .bool ai]) (h1:=PT.leaf) rfl;have hn:bC hp=λ_=>ah:=by
  funext n;cases hb:bC hp n with
  |none=>rfl
  |some b=>
   obtain⟨i,c,rfl,h1,_⟩:=jy hb;have:=I.lt_len h1;omega
 have own0:∀ (φ:PM) k,¬own φ (bC hp) k:=by rintro φ k ⟨i,b,h1,_⟩;rw[hn] at h1;cases h1
 have htot:tot (λ_=>False) (λ_=>ah) (bC hp)=λ_=>False:=by
  funext k;exact propext ⟨λh=>h.elim id λh=>cR h (own0 _ k),λh=>h.elim⟩
 refine Calls.mono (sp.calls x ai M vs hp l1 _ PT.leaf l2 la _ I J hla rfl (λ_=>ah) (λ_=>False) W us ⟨(λi j b b' k h1=>by rw[hn] at h1;cases h1),(λi b h1=>by rw[hn] at h1;cases h1),(λk h=>h.elim),(λg cells h=>by rw[htot];exact hg g cells h)⟩ (by rw[htot];exact hrel) (λn k h=>by cases h)) ?_;rintro en w' ⟨v,φ',rfl,he,_,_,_,hv⟩;refine ⟨?_,⟨he.os,he.tape,he.output,he.size,λk hk=>he.blk k hk (own0 _ k)⟩⟩;have hv:cO φ' _ w' (.f (.raw (.bool ai))) v:=hv;cases hv with
 |f h=>cases h;rfl
theorem gKw:Tryz.prog.globalNamed "interleave/token.keywords" =af 0:=by kernel_rfl
theorem tKw:(Tryz.prog.globals[0]?).map (·.type)=af 276:=by kernel_rfl
theorem kw_of_laid {W:World} (h:laidMetH Tryz.prog [("interleave/token.keywords",Rows.laid_interleave_token_keywords)] W):∀ g cells,G g=af cells→ny (λ_=>False) W (.ptr cells 0) (.pointer (af ⟨g,0,ah⟩)):=by
 intro g cells U;unfold G at U;split at U
 .rename_i hg;have hg:=eq_of_beq hg;subst hg;cases U;rw[MakeChecks.laidMetH_plain _ _ _ (by kernel_rfl)] at h;obtain⟨ps,⟨g0,t0,cs0,f0,p0,q0,M,Z,Y,hd0,_,_⟩,_,_⟩:=h;obtain rfl:=jS (gKw.symm.trans M);obtain rfl:=jS (tKw.symm.trans Z);obtain⟨xs,m1,rfl,J,hlen,hn,hel⟩:=DataW.trod_array Tryz.underlying276 hd0;have c1:Tryz.prog.cellsOf 9=1:=by kernel_rfl
  have c22:Tryz.prog.cellsOf 276=22:=by kernel_rfl
  rw[c22] at hlen;simp only[aD,Rows.laid_interleave_token_keywords,DataW.agg.injEq] at J;have hxs:=J.1;have hcell:∀ j,j<22→∃ l,(xs.map (·.1))[j]? =af (.lit (.string l))∧W.cell? ⟨0,j,ah⟩=af (.string ⟨l.toArray⟩):=λj hj=>by
   have h1:=hel j hj;rw[c1,Nat.mul_one] at h1;rw[aB (by omega)] at h1;obtain⟨s,e1,e2,_⟩:=DataW.trod_string Tryz.underlying9 h1;refine ⟨s.data.toList,?_,?_⟩
   .rw[ba,aB (by omega),ch,e2]
   .have:=World.var?_cell M Y j;rw[this];have h2:cs0.toList[j]? =af (.string s):=by
     have:((cs0.toList.drop j).take 1)[0]? =af (.string s):=by rw[e1];rfl
     rw[cU,aF (by omega),gZ] at this;simpa using this
    rw[← cJ,h2]
  have hb:0<W.heap.size:=by
   obtain⟨l,_,h2⟩:=hcell 0 (by omega);exact World.block_lt_of_cell? W _ h2
  refine .ptr CX 0 0 0 (λj=>(W.cell? ⟨0,j,ah⟩).getD undef) (λh=>h) hb (λx I=>?_) (λj hj=>?_) (λj x I=>?_)
  .simp only[CX,bm,cw,gi] at I;rcases I with rfl|rfl|rfl|rfl|rfl|rfl|rfl|rfl|rfl|rfl|rfl|rfl|rfl|rfl|rfl|rfl|rfl|rfl|rfl|rfl|rfl|rfl<;>rfl
  .obtain⟨l,_,h2⟩:=hcell j hj;rw[bN,h2];rfl
  .have hj:j<22:=(bl.1 I).1;obtain⟨l,h1,h2⟩:=hcell j hj;rw[← hxs] at h1;have:x= .raw (.string ⟨l.toArray⟩):=by
    rcases j with _|_|_|_|_|_|_|_|_|_|_|_|_|_|_|_|_|_|_|_|_|_|j;all_goals first|(simp only[qV,List.getElem?_cons_succ,ak,DataW.lit.injEq,Lit.string.injEq,CX] at h1 I;subst h1;subst I;rfl)|omega
   rw[this,h2];exact .raw _
 .cases U
end
end Go.Proofs.YthehadcddfilhaaGreatDoor.AI
