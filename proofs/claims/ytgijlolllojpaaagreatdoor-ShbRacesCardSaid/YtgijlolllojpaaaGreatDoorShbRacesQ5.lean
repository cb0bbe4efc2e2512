/-
  Texts of the proof, part 6 of 6: what is used to prove the statement. No condition.
-/
import Derived.Test.YtgijlolllojpaaaGreatDoorShbRacesQ4
import Derived.Test.YtgijlolllojpaaaGreatDoorRows
import Derived.LaidMore
namespace Go.Proofs.YtgijlolllojpaaaGreatDoor.AI
open Go.RowKit
set_option maxRecDepth 100000
set_option maxHeartbeats 4000000
set_option linter.unusedVariables false
set_option linter.unusedSimpArgs false
open _root_.Bool renaming true→ai,false→aj
open _root_.List renaming getElem?_cons_zero→rz
open _root_.Nat renaming beq→aC
open _root_.Option renaming some→af,none→ah,map_some→cr
open _root_.Prod renaming p2→aX,p3→bf,p4→bu,q3→bK,p5→ch,q5→cN,q4→dx,p6→dC,q6→fg,p7→ja,q7→kP,q8→nZ,p8→vC,p10→xF,p9→xG,p11→EM,q11→L4,q9→OO
noncomputable section
abbrev zZ0:PB:=.rows 50 aj (.sl aM)
abbrev am4:List PV:=[.row 1,.row 2,.row 3,.row 4,.row 5,.row 6,.d (.sl aM),.row 7,.row 8]
abbrev Ld0:List PB:=[.cells 62 am4,zZ0,zZ0,zZ0,zZ0,zZ0,zZ0,zZ0,.rows 3 ai aM,.rows 3 aj aM]
abbrev Ld4:List PV:=[.d aM,.d aM,.d aM,.d aM,.d aM,.d (.sl aM),.d (.sl aM)]
abbrev Ld3:List PV:=[.d (.sl kK),.d (.sl su),.d (.sl ma),.d (.sl .str),.d (.sl .str),.d (.sl pj)]
abbrev Ld1:List PB:=[.cells 52 Ld4,.cells 62 [.row 3,.row 4,.row 5,.row 6,.row 7,.row 8,.d (.sl aM),.row 9,.row 10],.cells 31 Ld3,zZ0,zZ0,zZ0,zZ0,zZ0,zZ0,zZ0,.rows 3 ai aM]
abbrev Ld2:List PB:=[.cells 62 am4,zZ0,zZ0,zZ0,zZ0,zZ0,zZ0,zZ0,.rows 3 ai aM,.rows 3 aj aM,.cells 52 Ld4]
abbrev Ld5:List PB:=[.rows 167 aj eh,.rows 4 ai .bool,.rows 169 ai im,.cells 94 Ii]
abbrev Ld6:List PB:=[.rows 167 aj eh,.rows 4 ai .bool,.rows 169 ai im]
abbrev QY:List PB:=[.rows 3 ai aM]
abbrev Ld8:List PB:=[.cells 97 [.d i_],.cells 52 [.d gr],.cells 216 [.d Kd1]]
abbrev Ld9:List PB:=[.rows 3 ai aM,.cells 3 [.d aM]]
abbrev apo:List PB:=[.cells 31 [.d mb],.cells 94 [.row 4,.d aM,.row 5,.row 6],.cells 3 [.d aM],.cells 94 CV,.rows 167 aj eh,.rows 4 ai .bool,.rows 169 ai im]
abbrev Nf:List PB:=[.rows 3 aj aM]
abbrev apn:List PB:=[.cells 94 CV,.cells 94 [.row 2,.d aM,.row 3,.row 4],.rows 167 aj eh,.rows 4 aj .bool,.rows 169 aj im]
abbrev ai9:List PB:=[.cells 34 [.d mU],.rows 57 ai gQ]
abbrev QZ:List PV:=[.row 0,.d aM]
abbrev af0:List PB:=[zZ0]
abbrev am3:List PB:=[zZ0,.rows 3 aj aM]
abbrev aap:List PB:=[.cells 52 [.d gr]]
abbrev apm:List PV:=[.d (.sl aM),.d (.sl aM)]
abbrev am2:List PV:=[.ptr 0 0,.ptr 1 0,.ptr 2 0]
def Oo:FT:=⟨⟨Ih,[]⟩,⟨[.d aM],[]⟩,dL [(3,(.j ⟨[0,1],[12],⟨[.d .bool],[]⟩,[]⟩))]⟩
def aa2:cq:=cn Oo jF
def Hw:FT:=⟨⟨apm,[]⟩,⟨mT,[]⟩,dL [(8,(.j ⟨[0,1,14],[5,15],⟨QZ,Nf⟩,[]⟩))]⟩
def Ui:cq:=cn Hw iR
def Ys:FT:=⟨⟨Ih,[]⟩,⟨[.d aM],[]⟩,dL [(3,(.j ⟨[0,1],[12],⟨[.d .bool],[]⟩,[]⟩))]⟩
def ahe:cq:=cn Ys Do
def N7:FT:=⟨⟨apm,[]⟩,⟨mT,[]⟩,dL [(8,(.j ⟨[0,1,14],[5,15],⟨QZ,Nf⟩,[]⟩))]⟩
def ZR:cq:=cn N7 od
def Yz:FT:=⟨⟨mT,[]⟩,⟨mT,[]⟩,.leaf⟩
def Ey:cq:=cn Yz Po
def al8:cq:=⟨Ey.pre,Ey.post,xW⟩
def K3:FT:=⟨⟨[.d kg],[]⟩,⟨[.row 0],af0⟩,dL [(8,(.j ⟨[9,10],[3,11],⟨QZ,af0⟩,[]⟩))]⟩
def W3:cq:=cn K3 iB
def Tj:FT:=⟨⟨mT,[]⟩,⟨[.row 0],QY⟩,dL [(8,(.a [.nil 2 3 aM])),(12,(.a [.nil 2 3 aM]))]⟩
def Av:cq:=cn Tj Jv
def ahs:cq:=⟨Av.pre,Av.post,pu⟩
def K4:FT:=⟨⟨[.d Kd0],[]⟩,⟨[.agg [.row 0,.row 1,.row 2,.row 3,.row 4,.row 5,.d (.sl aM),.row 6,.row 7]],[zZ0,zZ0,zZ0,zZ0,zZ0,zZ0,zZ0,.rows 3 ai aM]⟩,.leaf⟩
def W5:cq:=cn K4 rZ
def Oj:FT:=⟨⟨QZ,af0⟩,⟨mT,af0⟩,dL [(3,(.j ⟨[1],[0,12],⟨[.row 0,.d .bool],af0⟩,[]⟩))]⟩
def Z8:cq:=cn Oj uo
def K5:FT:=⟨⟨am2,Ld1⟩,⟨[.d kg],Ld1⟩,dL [(18,(.j ⟨[6],[0,1,2,25],⟨Gb,Ld1⟩,[]⟩))]⟩
def W6:cq:=cn K5 r7
def On:FT:=⟨⟨[.d mb],[]⟩,⟨[.d Kd0],[]⟩,dL [(8,(.j ⟨[40],[2,3,41],⟨wD,[.cells 62 [.nil,.nil,.nil,.nil,.nil,.nil,.nil,.nil,.nil],.cells 62 [.row 2,.row 3,.row 4,.row 5,.row 6,.row 7,.nil,.row 8,.row 9],zZ0,zZ0,zZ0,zZ0,zZ0,zZ0,zZ0,.rows 3 aj aM]⟩,[]⟩))]⟩
def Z':cq:=cn On ov
def Hu:FT:=⟨⟨Ih,[]⟩,⟨[.row 0],Nf⟩,dL [(4,(.j ⟨[0,1,5],[6],⟨[.d .bool],[]⟩,[]⟩)),(6,(.j ⟨[0,1,6],[5],⟨[.d aM],[]⟩,[]⟩)),(16,(.j ⟨[],[7],⟨[.row 0],Nf⟩,[]⟩)),(17,(.j ⟨[1],[7,33],⟨[.row 0,.d .bool],Nf⟩,[]⟩))]⟩
def Uh:cq:=cn Hu ql
def xt:FT:=⟨⟨[.row 0],Nf⟩,⟨mT,Nf⟩,.leaf⟩
def aea:cq:=cn xt w7
def ahr:cq:=⟨xt.pre,⟨xt.post.vs,[]⟩,vM⟩
def A_:FT:=⟨⟨[.d (.sl aM),.row 0],Nf⟩,⟨mT,Nf⟩,dL [(8,(.j ⟨[0,14],[1,5,15],⟨[.row 0,.row 1,.d aM],[.rows 3 aj aM,.rows 3 aj aM]⟩,[]⟩))]⟩
def ahp:cq:=cn A_ ub
def al7:cq:=⟨A_.pre,⟨A_.post.vs,[]⟩,Cv⟩
def K2:FT:=⟨⟨[.row 0,.d aM,.row 1],am3⟩,⟨[],am3⟩,dL [(0,(.j ⟨[1],[0,2,13],⟨[.row 0,.row 1,.d .bool],am3⟩,[]⟩))]⟩
def W2:cq:=cn K2 lV
def Td:FT:=⟨⟨[.ptr 0 0,.d aM,.row 9],Ld0⟩,⟨[],Ld0⟩,.leaf⟩
def ae5:cq:=cn Td wX
def Ol:FT:=⟨⟨[.d mb,.ptr 0 0,.d gr,.row 9],Ld0⟩,⟨[],Ld0⟩,dL [(6,(.j ⟨[],[],⟨[],Ld0⟩,[]⟩)),(11,(.j ⟨[20],[1,3,4,6,32],⟨[.ptr 0 0,.row 9,.ptr 10 0,.ptr 11 0,.d .bool],[.cells 62 am4,zZ0,zZ0,zZ0,zZ0,zZ0,zZ0,zZ0,.rows 3 ai aM,.rows 3 aj aM,.cells 31 Ld3,.cells 52 Ld4]⟩,[]⟩)),(48,(.j ⟨[],[1,3,6,129],⟨[.ptr 0 0,.row 9,.ptr 10 0,.d .bool],Ld2⟩,[]⟩)),(59,(.j ⟨[141],[1,3,6,140,142],⟨[.ptr 0 0,.row 9,.ptr 10 0,.row 8,.d aM],Ld2⟩,[]⟩)),(67,(.j ⟨[141,142],[1,3,6,140],⟨[.ptr 0 0,.row 9,.ptr 10 0,.row 8],Ld2⟩,[]⟩))]⟩
def Z9:cq:=cn Ol qi
def Te:FT:=⟨⟨[.d mb,.d Kd0,.d gr],[]⟩,⟨[.d Kd0,.row 0],Nf⟩,dL [(14,(.j ⟨[22,23],[3,5,6,7,24],⟨[.ptr 0 0,.ptr 1 0,.ptr 2 0,.ptr 3 0,.d aM],[.cells 31 Ld3,.cells 52 Ld4,.cells 62 [.row 4,.row 5,.row 6,.row 7,.row 8,.row 9,.d (.sl aM),.row 10,.row 11],.cells 50 mT,zZ0,zZ0,zZ0,zZ0,zZ0,zZ0,zZ0,.rows 3 ai aM]⟩,[]⟩))]⟩
def ae6:cq:=cn Te sY
def Kx:FT:=⟨⟨mT,[]⟩,⟨[.row 0],QY⟩,dL [(4,(.a [.nil 2 3 aM]))]⟩
def Wp:cq:=cn Kx uF
def N5:FT:=⟨⟨Ih,[]⟩,⟨mT,[]⟩,dL [(5,(.j ⟨[1],[0,12],⟨[.row 0,.d .bool],QY⟩,[]⟩)),(14,(.j ⟨[1],[0],⟨[.row 0],QY⟩,[]⟩)),(23,(.j ⟨[],[0],⟨[.row 0],QY⟩,[]⟩))]⟩
def ZP:cq:=cn N5 mz
def Kw:FT:=⟨⟨[.d mb,.d aM],[]⟩,⟨[.d aM],[]⟩,dL [(3,(.j ⟨[1],[2,13],⟨ie,[.cells 31 Ld3]⟩,[]⟩))]⟩
def Wo:cq:=cn Kw rN
def BI:FT:=⟨⟨[.d mb,.d gr],[]⟩,⟨[.d aM,.d .bool],[]⟩,dL [(6,(.j ⟨[7],[2,3,8],⟨rC,[.cells 31 Ld3,.cells 52 Ld4]⟩,[]⟩))]⟩
def MW:cq:=cn BI pa
def BF:FT:=⟨⟨[.d mb,.d gr],[]⟩,⟨[.d aM,.d .bool],[]⟩,dL [(6,(.j ⟨[7],[2,3,8],⟨rC,[.cells 31 Ld3,.cells 52 Ld4]⟩,[]⟩))]⟩
def MT:cq:=cn BF o9
def xl:FT:=⟨⟨[.d .str],[]⟩,⟨[.d .bool],[]⟩,dL [(6,(.j ⟨[0,5],[6],⟨[.d aM],[]⟩,[]⟩))]⟩
def FO:cq:=cn xl ll
def BB:FT:=⟨⟨[.d .str],[]⟩,⟨[.d .bool],[]⟩,dL [(3,(.j ⟨[0],[16],⟨[.d .bool],[]⟩,[]⟩)),(14,(.j ⟨[],[18],⟨[.ptr 0 0],[.mp ma .un]⟩,[]⟩)),(24,(.j ⟨[],[18],⟨[.ptr 0 0],[.mp ma .un]⟩,[]⟩)),(25,(.j ⟨[3,4],[18,23],⟨ie,[.mp ma .un]⟩,[]⟩)),(29,(.j ⟨[],[18,38],⟨ie,[.mp ma .un]⟩,[]⟩))]⟩
def MQ:cq:=cn BB o7
def K7:FT:=⟨⟨Ih,[]⟩,⟨[.d aM],[]⟩,dL [(6,(.j ⟨[0,1,7],[8],⟨[.d aM],[]⟩,[]⟩))]⟩
def Xb:cq:=cn K7 r8
def BY:FT:=⟨⟨Ih,[]⟩,⟨[.d .bool],[]⟩,.leaf⟩
def Nc:cq:=cn BY kH
def BX:FT:=⟨⟨[.d (.sl aM),.d gQ],[]⟩,⟨[.d .bool],[]⟩,.leaf⟩
def Nb:cq:=cn BX mH
def ze:FT:=⟨⟨vA,[]⟩,⟨[.d .bool],[]⟩,dL [(2,(.j ⟨[],[4],⟨[.d .bool],[]⟩,[]⟩))]⟩
def Ib:cq:=cn ze tB
def zf:FT:=⟨⟨[.d mb,.d aM,.d .bool],[]⟩,⟨[.d .bool],[]⟩,dL [(2,(.j ⟨[],[6],⟨[.d .bool],[]⟩,[]⟩))]⟩
def Ic:cq:=cn zf tC
def tV:FT:=⟨⟨[.d (.sl kK)],[]⟩,⟨[.d (.sl .str),.d .bool],[]⟩,dL [(8,(.j ⟨[0],[4,5],⟨QZ,[.rows 9 ai .str]⟩,[.nil 4 9 .str]⟩)),(15,(.j ⟨[0],[4,5],⟨QZ,[.rows 9 ai .str]⟩,[]⟩)),(37,(.j ⟨[0,5],[4,6,49],⟨[.row 0,.ptr 1 0,.d .bool],[.rows 9 ai .str,.cells 123 [.d kK]]⟩,[]⟩)),(48,(.j ⟨[0,5,51],[4,6,52],⟨[.row 0,.ptr 1 0,.d aM],[.rows 9 ai .str,.cells 123 [.d kK]]⟩,[]⟩))]⟩
def Bs:cq:=cn tV ib
def tU:FT:=⟨⟨[.d mb,.d (.sl .str)],[]⟩,⟨[.d .bool],[]⟩,dL [(10,(.j ⟨[17,18],[2,5,19],⟨Ng,aas⟩,[]⟩)),(27,(.j ⟨[30,31],[2,5,32],⟨Ng,aas⟩,[]⟩)),(50,(.j ⟨[52],[10,51,53],⟨[.mp 0,.row 1,.d aM],[.mp .str .bool,.rows 9 ai .str]⟩,[.mpt 10 .str .bool]⟩)),(62,(.j ⟨[12,52,53],[10,51,64],⟨[.mp 0,.row 1,.d .bool],[.mp .str .bool,.rows 9 ai .str]⟩,[.mpt 10 .str .bool]⟩))]⟩
def Br:cq:=cn tU dT
def tR:FT:=⟨⟨[.d mb],[]⟩,⟨[.d .bool],[]⟩,dL [(8,(.j ⟨[8,9],[1,3,4,10],⟨[.ptr 0 0,.d aM,.d aM,.d aM],qy⟩,[]⟩)),(20,(.j ⟨[3,4,8,9,10],[1,6,25],⟨rC,[.cells 31 [.d mb],.cells 127 [.d pj]]⟩,[]⟩)),(27,(.j ⟨[8,9,10],[1,3,4,6],⟨[.ptr 0 0,.d aM,.d aM,.ptr 1 0],[.cells 31 [.d mb],.cells 127 [.d pj]]⟩,[]⟩))]⟩
def Bq:cq:=cn tR gm
def tW:FT:=⟨⟨[.d mb],[]⟩,⟨[.d .bool],[]⟩,dL [(3,(.j ⟨[],[1,34],⟨ie,qy⟩,[]⟩)),(11,(.j ⟨[],[1,44],⟨ie,qy⟩,[]⟩)),(21,(.j ⟨[],[1,58],⟨ie,qy⟩,[]⟩)),(32,(.j ⟨[60,61],[1,62],⟨xA,qy⟩,[]⟩))]⟩
def Bt:cq:=cn tW dU
def BT:FT:=⟨⟨[.d mb],[]⟩,⟨[.d Ij],[]⟩,dL [(8,(.j ⟨[20],[2,3,21],⟨wD,apn⟩,[]⟩)),(21,(.j ⟨[],[2,3],⟨[.ptr 0 0,.ptr 1 0],apn⟩,[]⟩))]⟩
def M8:cq:=cn BT pe
def vY:FT:=⟨⟨[.d mb],[]⟩,⟨[.d i_],[]⟩,dL [(8,(.j ⟨[22,23],[2,3,24],⟨wD,[.cells 97 wE,.cells 97 [.d (.sl eh),.d aM,.d qz,.d (.sl im),.row 2,.row 3,.row 4],.rows 2 aj aM,.rows 2 aj aM,.rows 3 aj aM]⟩,[]⟩))]⟩
def Em:cq:=cn vY dy
def s_:FT:=⟨⟨[.d qz,.d gr],[]⟩,⟨[.d .bool],[]⟩,dL [(6,(.j ⟨[0,13],[14],⟨[.d aM],[]⟩,[]⟩)),(20,(.j ⟨[0,13,14,17,18],[19],⟨[.d aM],[]⟩,[]⟩)),(31,(.j ⟨[0,13,14,17,18,19],[37],⟨[.d .bool],[]⟩,[]⟩))]⟩
def Ar:cq:=cn s_ cu
def Ak:FT:=⟨⟨vA,[]⟩,⟨[.d .bool],[]⟩,dL [(2,(.j ⟨[],[4],⟨[.d .bool],[]⟩,[]⟩))]⟩
def Ll:cq:=cn Ak fo
def yY:FT:=⟨⟨[.d mb,.d aM,.d aM],[]⟩,⟨[.d .bool],[]⟩,dL [(6,(.j ⟨[2,7],[3,8],⟨ie,qy⟩,[]⟩)),(36,(.j ⟨[2,7],[3,18],⟨ie,qy⟩,[]⟩)),(46,(.j ⟨[2,7],[3,26],⟨ie,qy⟩,[]⟩)),(53,(.j ⟨[],[6],⟨[.d .bool],[]⟩,[]⟩)),(56,(.j ⟨[2,7],[3,43],⟨ie,qy⟩,[]⟩)),(71,(.j ⟨[],[6],⟨[.d .bool],[]⟩,[]⟩)),(74,(.j ⟨[2,7],[3,61],⟨ie,qy⟩,[]⟩)),(92,(.j ⟨[2,7],[3,71],⟨ie,qy⟩,[]⟩)),(102,(.j ⟨[2],[3,79],⟨ie,qy⟩,[]⟩))]⟩
def H7:cq:=cn yY mh
def Ee:FT:=⟨⟨[.d mb,.d Ij],[]⟩,⟨[.d .bool],[]⟩,dL [(3,(.j ⟨[],[2,31],⟨ie,qy⟩,[]⟩)),(14,(.j ⟨[33,34],[2,35],⟨xA,qy⟩,[]⟩))]⟩
def Qu:cq:=cn Ee kx
def BR:FT:=⟨⟨[.d mb,.d Ij,.d aM,.d aM,.d aM],[]⟩,⟨[.d .bool],[]⟩,dL [(15,(.j ⟨[],[10],⟨[.d .bool],[]⟩,[]⟩)),(21,(.j ⟨[],[10],⟨[.d .bool],[]⟩,[]⟩)),(24,(.j ⟨[2,4,11],[5,6,60],⟨rC,Xu⟩,[]⟩)),(64,(.j ⟨[2,4,11],[5,6,109],⟨rC,Xu⟩,[]⟩)),(81,(.j ⟨[],[10],⟨[.d .bool],[]⟩,[]⟩)),(87,(.j ⟨[],[10],⟨[.d .bool],[]⟩,[]⟩))]⟩
def M6:cq:=cn BR pd
def yZ:FT:=⟨⟨[.d mb,.d Ij,.d aM,.d aM,.d aM],[]⟩,⟨[.d .bool],[]⟩,dL [(3,(.j ⟨[2,3,4],[5,6,30],⟨rC,Xu⟩,[]⟩)),(25,(.j ⟨[],[10],⟨[.d .bool],[]⟩,[]⟩)),(29,(.j ⟨[],[10],⟨[.d .bool],[]⟩,[]⟩))]⟩
def H8:cq:=cn yZ jq
def xj:FT:=⟨⟨[.d mb,.d i_],[]⟩,⟨[.d .bool],[]⟩,dL [(2,(.j ⟨[],[4],⟨[.d .bool],[]⟩,[]⟩))]⟩
def FM:cq:=cn xj lj
def u_:FT:=⟨⟨[.d mb,.d gr],[]⟩,⟨[.d .bool],[]⟩,dL [(3,(.j ⟨[],[2,3,12],⟨rC,[.cells 31 [.d mb],.cells 52 [.d gr]]⟩,[]⟩)),(10,(.j ⟨[],[4],⟨[.d .bool],[]⟩,[]⟩))]⟩
def CJ:cq:=cn u_ jK
def rf:FT:=⟨⟨[.d mb,.d i_,.d gr],[]⟩,⟨[.d .bool],[]⟩,dL [(2,(.j ⟨[],[4,5,7],⟨rC,[.cells 97 [.d i_],.cells 52 [.d gr]]⟩,[]⟩)),(4,(.j ⟨[],[4,5,8],⟨am2,Ld8⟩,[]⟩)),(10,(.j ⟨[51],[4,5,8,52],⟨Ge,Ld8⟩,[]⟩)),(22,(.j ⟨[10,51,52],[4,5,8,64],⟨Gb,Ld8⟩,[]⟩)),(34,(.j ⟨[51,52,65,66],[4,5,8,11,67],⟨[.ptr 0 0,.ptr 1 0,.ptr 2 0,.d aM,.d aM],Ld8⟩,[]⟩)),(46,(.j ⟨[13,51,52,65,66,67],[4,5,8,83],⟨Gb,Ld8⟩,[]⟩))]⟩
def yA:cq:=cn rf fh
def uZ:FT:=⟨⟨[.d i_,.d gr],[]⟩,⟨[.d .bool],[]⟩,dL [(21,(.j ⟨[],[4],⟨[.d .bool],[]⟩,[]⟩)),(24,(.j ⟨[13],[2,3,46],⟨rC,[.cells 97 [.d i_],.cells 52 [.d gr]]⟩,[]⟩)),(43,(.j ⟨[53,54],[3,5,6,55],⟨[.ptr 0 0,.d aM,.d .bool,.d aM],aap⟩,[]⟩)),(51,(.j ⟨[53,54,55],[3,5,6],⟨[.ptr 0 0,.d aM,.d .bool],aap⟩,[]⟩)),(54,(.j ⟨[5,6,7,53,54,55],[3,69],⟨ie,aap⟩,[]⟩)),(62,(.j ⟨[],[4],⟨[.d .bool],[]⟩,[]⟩)),(74,(.j ⟨[94,95],[3,9,96],⟨UD,aap⟩,[]⟩)),(82,(.j ⟨[94,95,96],[3,9],⟨xA,aap⟩,[]⟩)),(85,(.j ⟨[9,94,95,96],[3,109],⟨ie,aap⟩,[]⟩))]⟩
def CI:cq:=cn uZ gH
def BQ:FT:=⟨⟨[.d im,.d aM],[]⟩,⟨[.d .bool],[]⟩,dL [(2,(.j ⟨[],[4],⟨[.d .bool],[]⟩,[]⟩))]⟩
def M5:cq:=cn BQ mG
def Tk:FT:=⟨⟨[.d qz],[]⟩,⟨[.d qz],[]⟩,.leaf⟩
def Aw:cq:=cn Tk Jx
def aht:cq:=⟨Aw.pre,Aw.post,Pn⟩
def Ov:FT:=⟨⟨[.d qz],[]⟩,⟨[.row 0],[.rows 4 ai .bool]⟩,dL [(8,(.a [.nil 2 4 .bool])),(12,(.a [.nil 2 4 .bool]))]⟩
def xy:cq:=cn Ov Fg
def aec:cq:=⟨xy.pre,xy.post,Jw⟩
def Ti:FT:=⟨⟨[.d (.sl im)],[]⟩,⟨[.d (.sl im)],[]⟩,.leaf⟩
def Au:cq:=cn Ti Ju
def ahq:cq:=⟨Au.pre,Au.post,Pm⟩
def Ot:FT:=⟨⟨[.d (.sl im)],[]⟩,⟨[.row 0],[.rows 169 ai im]⟩,dL [(8,(.a [.nil 2 169 im])),(12,(.a [.nil 2 169 im]))]⟩
def xw:cq:=cn Ot Fe
def ae9:cq:=⟨xw.pre,xw.post,Jt⟩
def Ou:FT:=⟨⟨mT,[]⟩,⟨[.row 0],[.rows 2 ai aM]⟩,dL [(8,(.a [.nil 2 2 aM])),(12,(.a [.nil 2 2 aM]))]⟩
def xx:cq:=cn Ou Ff
def aeb:cq:=⟨xx.pre,xx.post,zP⟩
def BS:FT:=⟨⟨[.d Ij],[]⟩,⟨[.agg Ii],Ld6⟩,dL [(8,(.j ⟨[11,12],[1,2,3,13],⟨[.ptr 0 0,.ptr 1 0,.row 2,.d aM],[.cells 94 [.d Ij],.cells 94 CV,.rows 167 aj eh]⟩,[]⟩))]⟩
def M7:cq:=cn BS kG
def Al:FT:=⟨⟨[.agg Ii,.d aM,.d aM],Ld6⟩,⟨[.d aM],Ld6⟩,dL [(8,(.j ⟨[1,2,12],[3,7,11,13],⟨[.ptr 3 0,.d aM,.row 2,.d aM],Ld5⟩,[]⟩)),(16,(.j ⟨[1,2,12,13],[3,7,11],⟨[.ptr 3 0,.d aM,.row 2],Ld5⟩,[]⟩)),(19,(.j ⟨[1,2,7,8,12,13],[3,11,29],⟨[.ptr 3 0,.row 2,.d .bool],Ld5⟩,[]⟩)),(25,(.j ⟨[7],[],⟨[],Ld6⟩,[]⟩))]⟩
def Lm:cq:=cn Al jP
def vZ:FT:=⟨⟨[.agg Ii,.d aM],Ld6⟩,⟨[.d aM],Ld6⟩,dL [(8,(.j ⟨[1,10],[2,5,9,11],⟨[.ptr 3 0,.d aM,.row 2,.d aM],Ld5⟩,[]⟩)),(16,(.j ⟨[1,10,11],[2,5,9],⟨[.ptr 3 0,.d aM,.row 2],Ld5⟩,[]⟩))]⟩
def Es:cq:=cn vZ hY
def Ap:FT:=⟨⟨[.d aM],[]⟩,⟨[.d .bool],[]⟩,.leaf⟩
def Lv:cq:=cn Ap qT
def BW:FT:=⟨⟨vA,[]⟩,⟨[.d .bool],[]⟩,dL [(2,(.j ⟨[],[4],⟨[.d .bool],[]⟩,[]⟩))]⟩
def Na:cq:=cn BW ww
def xr:FT:=⟨⟨[.d (.int .u64)],[]⟩,⟨[.d aM],[]⟩,.leaf⟩
def F0:cq:=cn xr rX
def Ao:FT:=⟨⟨[.d (.int .u64)],[]⟩,⟨[.d aM],[]⟩,.leaf⟩
def Lq:cq:=cn Ao uN
def oJ:FT:=⟨⟨[.row 0,.d aM,.d aM],QY⟩,⟨[],QY⟩,dL [(3,(.j ⟨[1,2],[0,6],⟨QZ,QY⟩,[]⟩)),(15,(.j ⟨[1,2,6],[0,7],⟨QZ,QY⟩,[]⟩)),(17,(.j ⟨[1,2,6,7],[0,30],⟨[.row 0,.d .bool],QY⟩,[]⟩))]⟩
def vx:cq:=cn oJ gg
def tQ:FT:=⟨⟨[.row 0,.d aM,.d aM,.d aM],QY⟩,⟨[],QY⟩,dL [(5,(.j ⟨[],[0,1,2,3,8,9],⟨[.row 0,.d aM,.d aM,.d aM,.d .bool,.d .bool],QY⟩,[]⟩))]⟩
def Bp:cq:=cn tQ jt
def Oq:FT:=⟨⟨[.row 0],QY⟩,⟨[],QY⟩,.leaf⟩
def aa3:cq:=cn Oq wZ
def El:FT:=⟨⟨[.row 0],QY⟩,⟨[.row 0],QY⟩,dL [(14,(.j ⟨[],[0,3],⟨QZ,QY⟩,[]⟩))]⟩
def QL:cq:=cn El lX
def y_:FT:=⟨⟨[.d aM,.ptr 0 0],[.cells 3 [.d aM]]⟩,⟨[.d .bool],[.cells 3 [.d aM]]⟩,.leaf⟩
def H9:cq:=cn y_ pt
def Aq:FT:=⟨⟨[.row 0,.clo 136 1 0],Ld9⟩,⟨[.d aM],Ld9⟩,dL [(6,(.j ⟨[7],[0,1,8],⟨[.row 0,.clo 136 1 0,.d aM],Ld9⟩,[]⟩))]⟩
def Lw:cq:=cn Aq nK
def zg:FT:=⟨⟨[.row 0,.clo 136 1 0],Ld9⟩,⟨[.row 2],[.gone,.cells 3 [.d aM],.rows 3 aj aM]⟩,dL [(16,(.j ⟨[],[0,1,5,6],⟨[.row 0,.clo 136 1 0,.d aM,.d aM],Ld9⟩,[]⟩)),(24,(.j ⟨[6],[0,1,5],⟨[.row 0,.clo 136 1 0,.d aM],Ld9⟩,[]⟩))]⟩
def Ie:cq:=cn zg jr
def nQ:FT:=⟨⟨[.d mb,.d Ij,.d aM,.d aM,.d aM,.d aM],[]⟩,⟨[.d Ij,.d aM,.d .bool],[]⟩,dL [(17,(.j ⟨[],[7,12,15],⟨wD,[.cells 94 [.row 2,.d aM,.row 3,.row 4],.cells 94 CV,.rows 167 aj eh,.rows 4 ai .bool,.rows 169 ai im]⟩,[]⟩)),(26,(.j ⟨[4,5,15,27],[6,7,8,12,42],⟨AA,apo⟩,[]⟩)),(34,(.j ⟨[4,5,15,27],[6,7,8,12,51],⟨AA,apo⟩,[]⟩))]⟩
def Lp:cq:=cn nQ hZ
def Am:FT:=⟨⟨[.d Ij],[]⟩,⟨[.agg [.csl 0 2 3,.d aM,.d qz,.d (.sl im)]],[.cells 167 [.d aM,.row 1,.d aM,.row 2,.d aM,.row 3],.rows 3 ai aM,.rows 3 ai aM,.rows 3 ai aM]⟩,dL [(7,(.j ⟨[],[1,2,3],⟨[.ptr 0 0,.ptr 1 0,.csl 2 2 3],[.cells 94 [.d Ij],.cells 94 CV,.cells 167 [.d aM,.row 3,.d aM,.row 4,.d aM,.row 5],.rows 3 ai aM,.rows 3 ai aM,.rows 3 ai aM]⟩,[.cel 3 1 3 aM,.cel 3 3 3 aM,.cel 3 5 3 aM]⟩)),(8,(.u 4))]⟩
def Ln:cq:=cn Am nJ
def An:FT:=⟨⟨[.d mb,.d Ij,.d aM,.d aM,.d aM,.d aM],[]⟩,⟨[.d Ij,.d aM,.d .bool],[]⟩,dL [(17,(.j ⟨[],[7,12,15],⟨wD,[.cells 94 [.csl 2 2 3,.d aM,.d qz,.d (.sl im)],.cells 94 CV,.cells 167 [.d eh,.d eh,.d aM,.row 3],.rowsP 3 aM]⟩,[]⟩)),(26,(.j ⟨[4,5,15,27],[6,7,8,12,42],⟨AA,[.cells 31 [.d mb],.cells 94 [.csl 4 2 3,.d aM,.d qz,.d (.sl im)],.cells 3 [.d aM],.cells 94 CV,.cells 167 [.d aM,.row 5,.d aM,.row 6,.d aM,.row 7],.rows 3 ai aM,.rows 3 ai aM,.rows 3 ai aM]⟩,[]⟩)),(33,(.s 4 0 0 0)),(34,(.j ⟨[4,5,15,27],[6,7,8,12,51],⟨AA,[.cells 31 [.d mb],.cells 94 [.csl 4 2 3,.d aM,.d qz,.d (.sl im)],.cells 3 [.d aM],.cells 94 CV,.cells 167 [.d aM,.d (.sl aM),.d aM,.d (.sl aM),.d aM,.row 5],.rows 3 ai aM]⟩,[]⟩)),(41,(.s 4 0 0 0)),(46,(.s 4 0 0 3)),(53,(.s 4 0 0 3)),(74,(.s 4 0 0 0)),(80,(.s 4 0 0 0)),(100,(.a [.pk 7 0 eh]))]⟩
def Lo:cq:=cn An lx
def M9:cq:=cn nQ sD
def xk:FT:=⟨⟨[.d mb,.d i_,.d gr],[]⟩,⟨[.d i_,.d .bool],[]⟩,dL [(3,(.j ⟨[],[3,4,5,6,39],⟨AA,LU⟩,[]⟩)),(11,(.j ⟨[],[3,4,5,6,70],⟨AA,LU⟩,[]⟩)),(20,(.j ⟨[],[3,4,5,6,8],⟨[.ptr 0 0,.ptr 1 0,.ptr 2 0,.ptr 3 0,.d aM],LU⟩,[]⟩)),(41,(.j ⟨[],[5,6,12],⟨am2,am6⟩,[]⟩))]⟩
def FN:cq:=cn xk f_
def vg:FT:=⟨⟨[.d mU],[]⟩,⟨vA,[]⟩,dL [(26,(.j ⟨[27,28],[1,4,5,29],⟨[.ptr 0 0,.ptr 1 0,.csl 2 1 1,.d aM],[.cells 34 [.d mU],.cells 97 [.d i_],.cells 91 [.row 3],.rows 4 ai .bool]⟩,[.cel 5 0 4 .bool]⟩)),(40,(.j ⟨[6,27,28,29],[1,4,5,7,8,53],⟨[.ptr 0 0,.ptr 1 0,.csl 2 1 1,.ptr 3 0,.ptr 4 0,.d .bool],[.cells 34 [.d mU],.cells 97 [.d i_],.cells 91 [.row 5],.cells 52 [.d gr],.cells 97 [.d i_],.rows 4 ai .bool]⟩,[]⟩)),(41,(.s 7 0 0 1)),(47,(.j ⟨[27,28,29],[1,4,5,8],⟨[.ptr 0 0,.ptr 1 0,.csl 2 1 1,.ptr 3 0],[.cells 34 [.d mU],.cells 97 [.d i_],.cells 91 [.row 4],.cells 97 [.d i_],.rows 4 ai .bool]⟩,[]⟩)),(48,(.s 7 0 0 1))]⟩
def CP:cq:=cn vg eC
def ve:FT:=⟨⟨[.d mU],[]⟩,⟨vA,[]⟩,dL [(26,(.j ⟨[27,28],[1,4,5,29],⟨[.ptr 0 0,.ptr 1 0,.csl 2 1 2,.d aM],[.cells 34 [.d mU],.cells 97 [.d i_],.cells 91 [.row 3,.row 4],.rows 4 ai .bool,.rows 4 ai .bool]⟩,[.cel 5 0 4 .bool,.cel 5 1 4 .bool]⟩)),(40,(.j ⟨[6,27,28,29],[1,4,5,7,8,53],⟨[.ptr 0 0,.ptr 1 0,.csl 2 1 2,.ptr 3 0,.ptr 4 0,.d .bool],[.cells 34 [.d mU],.cells 97 [.d i_],.cells 91 [.row 5,.row 6],.cells 52 [.d gr],.cells 97 [.d i_],.rows 4 ai .bool,.rows 4 ai .bool]⟩,[]⟩)),(41,(.s 7 0 0 2)),(47,(.j ⟨[27,28,29],[1,4,5,8],⟨[.ptr 0 0,.ptr 1 0,.csl 2 1 2,.ptr 3 0],[.cells 34 [.d mU],.cells 97 [.d i_],.cells 91 [.row 4,.row 5],.cells 97 [.d i_],.rows 4 ai .bool,.rows 4 ai .bool]⟩,[]⟩)),(48,(.s 7 0 0 2))]⟩
def CO:cq:=cn ve dz
def vb:FT:=⟨⟨[.d mU],[]⟩,⟨vA,[]⟩,dL [(26,(.j ⟨[27,28],[1,4,5,29],⟨[.ptr 0 0,.ptr 1 0,.csl 2 1 3,.d aM],[.cells 34 [.d mU],.cells 97 [.d i_],.cells 91 [.row 3,.row 4,.row 5],.rows 4 ai .bool,.rows 4 ai .bool,.rows 4 ai .bool]⟩,[.cel 5 0 4 .bool,.cel 5 1 4 .bool,.cel 5 2 4 .bool]⟩)),(40,(.j ⟨[6,27,28,29],[1,4,5,7,8,53],⟨[.ptr 0 0,.ptr 1 0,.csl 2 1 3,.ptr 3 0,.ptr 4 0,.d .bool],[.cells 34 [.d mU],.cells 97 [.d i_],.cells 91 [.row 5,.row 6,.row 7],.cells 52 [.d gr],.cells 97 [.d i_],.rows 4 ai .bool,.rows 4 ai .bool,.rows 4 ai .bool]⟩,[]⟩)),(41,(.s 7 0 0 3)),(47,(.j ⟨[27,28,29],[1,4,5,8],⟨[.ptr 0 0,.ptr 1 0,.csl 2 1 3,.ptr 3 0],[.cells 34 [.d mU],.cells 97 [.d i_],.cells 91 [.row 4,.row 5,.row 6],.cells 97 [.d i_],.rows 4 ai .bool,.rows 4 ai .bool,.rows 4 ai .bool]⟩,[]⟩)),(48,(.s 7 0 0 3))]⟩
def CM:cq:=cn vb dR
def fk:FT:=⟨⟨[.d mU],[]⟩,⟨vA,[]⟩,dL [(26,(.j ⟨[27,28],[1,4,5,29],⟨[.ptr 0 0,.ptr 1 0,.csl 2 1 4,.d aM],[.cells 34 [.d mU],.cells 97 [.d i_],.cells 91 [.row 3,.row 4,.row 5,.row 6],.rows 4 ai .bool,.rows 4 ai .bool,.rows 4 ai .bool,.rows 4 ai .bool]⟩,[.cel 5 0 4 .bool,.cel 5 1 4 .bool,.cel 5 2 4 .bool,.cel 5 3 4 .bool]⟩)),(40,(.j ⟨[6,27,28,29],[1,4,5,7,8,53],⟨[.ptr 0 0,.ptr 1 0,.csl 2 1 4,.ptr 3 0,.ptr 4 0,.d .bool],[.cells 34 [.d mU],.cells 97 [.d i_],.cells 91 [.row 5,.row 6,.row 7,.row 8],.cells 52 [.d gr],.cells 97 [.d i_],.rows 4 ai .bool,.rows 4 ai .bool,.rows 4 ai .bool,.rows 4 ai .bool]⟩,[]⟩)),(41,(.s 7 0 0 4)),(47,(.j ⟨[27,28,29],[1,4,5,8],⟨[.ptr 0 0,.ptr 1 0,.csl 2 1 4,.ptr 3 0],[.cells 34 [.d mU],.cells 97 [.d i_],.cells 91 [.row 4,.row 5,.row 6,.row 7],.cells 97 [.d i_],.rows 4 ai .bool,.rows 4 ai .bool,.rows 4 ai .bool,.rows 4 ai .bool]⟩,[]⟩)),(48,(.s 7 0 0 4))]⟩
def CK:cq:=cn fk eB
def Eo:cq:=cn fk mL
def K6:FT:=⟨⟨[.d mU],[]⟩,⟨[.d kg,.d aM],[]⟩,dL [(20,(.j ⟨[25,26],[1,6,7,27],⟨[.ptr 0 0,.ptr 1 0,.row 2,.d aM],[.cells 34 [.d mU],.cells 62 [.d Kd0],zZ0]⟩,[]⟩))]⟩
def W7:cq:=cn K6 pV
def Yy:FT:=⟨⟨[],[]⟩,⟨[.d mb],[]⟩,dL [(8,(.j ⟨[21],[0,1,22],⟨wD,aii⟩,[.cel 1 5 127 pj]⟩)),(22,(.j ⟨[2,21,22],[0,1,3],⟨wD,aii⟩,[]⟩))]⟩
def aho:cq:=cn Yy Dr
theorem Fz:aH Pg 57 aa2:=mk Oo jF an b9
theorem RP x:k_ (iR x) (zM x):=by
 unfold iR zM vV ck bA bE aZ cK aF cH;with_reducible repeat' first|(refine OI.o ?_;constructor)|intro _
theorem zX:aH Pg 26 Ui:=yL Hw iR zM RP (ac Fz an) b9
theorem Yd:aH Pg 39 ahe:=mk Ys Do an b9
theorem Zb x:k_ (od x) (E9 x):=by
 unfold od E9 FA ck bA bE aZ cK aF cH;with_reducible repeat' first|(refine OI.o ?_;constructor)|intro _
theorem Zo:aH Pg 29 ZR:=yL N7 od E9 Zb (ac Yd an) b9
theorem ah0:aH Pg 25 Ey:=mk Yz Po an b9
theorem Wf:aH Pg 25 al8:= @aH.sub Pg 25 Ey.pre Ey.post Po xW ah0 rfl (λx y h=>sq (b:=8) x y h)
theorem Vo x:k_ (iB x) (Cm x):=by
 unfold iB Cm yc ck bA vp bE aZ cK aF cH;with_reducible repeat' first|(refine OI.o ?_;constructor)|intro _
theorem Wb:aH Pg 84 W3:=yL K3 iB Cm Vo (ac Wf an) b9
theorem adk:aH Pg 25 Av:=mk Tj Jv an b9
theorem PR:aH Pg 25 ahs:= @aH.sub Pg 25 Av.pre Av.post Jv pu adk rfl (λx y h=>sq (b:=8) x y h)
theorem J4:aH Pg 52 W5:=mk K4 rZ (ac PR (ac Wb an)) b9
theorem Zx:aH Pg 54 Z8:=mk Oj uo an b9
theorem J5:aH Pg 53 W6:=mk K5 r7 (ac Zx an) b9
theorem Ze x:k_ (ov x) (Fc x):=by
 unfold ov Fc AW aX bf bu ch dC ja nZ ck bA bE aZ cK aF cH;with_reducible repeat' first|(refine OI.o ?_;constructor)|intro _
theorem NS:aH Pg 23 Z':=yL On ov Fc Ze an b9
theorem GJ:aH Pg 55 Uh:=mk Hu ql an b9
theorem adi:aH Pg 25 aea:=mk xt w7 an b9
theorem Yf:aH Pg 25 ahr:= @aH.ro Pg 25 xt.pre xt.post.vs w7 vM (adi.holds rfl) rfl (λx _ h=>by rw[show vM x=obind (w7 x) λy=>same y.2 x (af y.1) from gX (obind _) (funext λ_=>Ru ..)]at h;exact h)
theorem agf x:k_ (ub x) (Ph x):=by
 unfold ub Ph II ck bA bE aZ cK aF cH;with_reducible repeat' first|(refine OI.o ?_;constructor)|intro _
theorem agx:aH Pg 26 ahp:=yL A_ ub Ph agf (ac Fz an) b9
theorem adf:aH Pg 26 al7:= @aH.ro Pg 26 A_.pre A_.post.vs ub Cv (agx.holds rfl) rfl (λx _ h=>by rw[show Cv x=obind (ub x) λy=>same y.2 x.2 (af y.1) from gX (obind _) (funext λ_=>Ru ..)]at h;exact h)
theorem Wa:aH Pg 85 W2:=mk K2 lV (ac adf an) b9
theorem adc:aH Pg 86 ae5:=mk Td wX (ac Yf an) b9
theorem Zc x:k_ (qi x) (Fa x):=by
 unfold qi Fa AT xF EM Prod.p12 Prod.p13 Prod.p14 Prod.p15 Prod.p16 Prod.p17 aX bf bu ch dC ja vC xG Prod.q10 Prod.q16 Prod.q17 Prod.q18 cN kP OO ck bd bA iY vp bE aZ cK aF cH;with_reducible repeat' first|(refine OI.o ?_;constructor)|intro _
theorem NR:aH Pg 56 Z9:=yL Ol qi Fa Zc (ac Yf (ac adf (ac Wa (ac adc an)))) b9
theorem acm x:k_ (sY x) (Jp x):=by
 unfold sY Jp DL xF EM aX bf bu ch dC ja vC xG L4 Prod.q12 cN fg nZ OO ck bA vp bE aZ cK cH;with_reducible repeat' first|(refine OI.o ?_;constructor)|intro _
theorem ade:aH Pg 24 ae6:=yL Te sY Jp acm (ac zX (ac J4 (ac J5 (ac GJ (ac NR an))))) b9
theorem VN:aH Pg 61 Wp:=mk Kx uF an b9
theorem Za x:k_ (mz x) (E8 x):=by
 unfold mz E8 AS ck bA iY bE aZ cK aF;with_reducible repeat' first|(refine OI.o ?_;constructor)|intro _
theorem Zm:aH Pg 31 ZP:=yL N5 mz E8 Za (ac VN an) b9
theorem JO:aH Pg 87 Wo:=mk Kw rN an b9
theorem Mv:aH Pg 59 MW:=mk BI pa (ac JO an) b9
theorem Mt:aH Pg 60 MT:=mk BF o9 (ac JO an) b9
theorem E7 x:k_ (ll x) (rM x):=by
 unfold ll rM sd xF EM Prod.p12 Prod.p13 Prod.p14 Prod.p15 Prod.p16 Prod.p17 Prod.p18 Prod.p19 aX Prod.p20 bf bu ch dC ja vC xG Prod.q21 bA bE cK aF cH;with_reducible repeat' first|(refine OI.o ?_;constructor)|intro _
theorem Fn:aH Pg 159 FO:=yL xl ll rM E7 an b9
theorem Mh x:k_ (o7 x) (wn x):=by
 unfold o7 wn wz bd bA iY bE aZ cK aF;with_reducible repeat' first|(refine OI.o ?_;constructor)|intro _
theorem Mr:aH Pg 126 MQ:=yL BB o7 wn Mh (ac Fn an) b9
theorem Vr x:k_ (r8 x) (Cp x):=by
 unfold r8 Cp yh bd bA bD aZ cK aF cH;with_reducible repeat' first|(refine OI.o ?_;constructor)|intro _
theorem We:aH Pg 191 Xb:=yL K7 r8 Cp Vr an b9
theorem MN:aH Pg 160 Nc:=mk BY kH (ac We an) b9
theorem MM:aH Pg 34 Nb:=mk BX mH (ac Fz an) b9
theorem HW:aH Pg 127 Ib:=mk ze tB an b9
theorem HX:aH Pg 90 Ic:=mk zf tC (ac HW an) b9
theorem Bh x:k_ (ib x) (oO x):=by
 unfold ib oO oU aX bf bu ch dx fg bd bA iO bE bD aZ cK aF cH;with_reducible repeat' first|(refine OI.o ?_;constructor)|intro _
theorem Bn:aH Pg 88 Bs:=yL tV ib oO Bh an b9
theorem Bg x:k_ (dT x) (oN x):=by
 unfold dT oN oS aX bf bu bA bE bD kl aZ cK aF cH;with_reducible repeat' first|(refine OI.o ?_;constructor)|intro _
theorem Bm:aH Pg 89 Br:=yL tU dT oN Bg (ac Mr an) b9
theorem Bf x:k_ (gm x) (oM x):=by
 unfold gm oM kV aX bf ch cN bA iO bD aZ cK aF cH;with_reducible repeat' first|(refine OI.o ?_;constructor)|intro _
theorem Bl:aH Pg 91 Bq:=yL tR gm oM Bf an b9
theorem Bi x:k_ (dU x) (oP x):=by
 unfold dU oP kW aX bf ch cN bA bD aZ cK aF cH;with_reducible repeat' first|(refine OI.o ?_;constructor)|intro _
theorem kU:aH Pg 64 Bt:=yL tW dU oP Bi (ac Bn (ac Bm (ac HX (ac Bl an)))) b9
theorem Mk x:k_ (pe x) (wu x):=by
 unfold pe wu wA aX bf bu bK dx cN ck bA bE aZ cK aF cH;with_reducible repeat' first|(refine OI.o ?_;constructor)|intro _
theorem MG:aH Pg 92 M8:=yL BT pe wu Mk an b9
theorem Dl x:k_ (dy x) (qI x):=by
 unfold dy qI qX aX bf bu dx bA bE bD aZ cK aF cH;with_reducible repeat' first|(refine OI.o ?_;constructor)|intro _
theorem mM:aH Pg 65 Em:=yL vY dy qI Dl (ac MG an) b9
theorem zH x:k_ (cu x) (m7 x):=by
 unfold cu m7 kA dC kP bA iY bE bD aZ cK aF cH;with_reducible repeat' first|(refine OI.o ?_;constructor)|intro _
theorem kz:aH Pg 67 Ar:=yL s_ cu m7 zH an b9
theorem uS:aH Pg 129 Ll:=mk Ak fo an b9
theorem HV:aH Pg 130 H7:=mk yY mh (ac uS an) b9
theorem Pa x:k_ (kx x) (xT x):=by
 unfold kx xT ue aX bf bu dx bA iO bD aZ cK aF cH;with_reducible repeat' first|(refine OI.o ?_;constructor)|intro _
theorem DG:aH Pg 128 Qu:=yL Ee kx xT Pa (ac uS an) b9
theorem MD:aH Pg 131 M6:=mk BR pd (ac MN an) b9
theorem tD:aH Pg 94 H8:=mk yZ jq (ac DG (ac uS (ac HV (ac MD an)))) b9
theorem Fm:aH Pg 93 FM:=mk xj lj (ac DG an) b9
theorem Cx:aH Pg 95 CJ:=mk u_ jK an b9
theorem xS x:k_ (fh x) (lP x):=by
 unfold fh lP jz aX bf bu ch bK dx fg bd bA iY bE bD aZ cK aF cH;with_reducible repeat' first|(refine OI.o ?_;constructor)|intro _
theorem xY:aH Pg 96 yA:=yL rf fh lP xS an b9
theorem Ce x:k_ (gH x) (pE x):=by
 unfold gH pE lY aX bf bu ch bK bd bA bD aZ cK aF cH;with_reducible repeat' first|(refine OI.o ?_;constructor)|intro _
theorem Cw:aH Pg 97 CI:=yL uZ gH pE Ce an b9
theorem By:aH Pg 166 M5:=mk BQ mG an b9
theorem adn:aH Pg 161 Aw:=mk Tk Jx an b9
theorem agz:aH Pg 161 aht:= @aH.sub Pg 161 Aw.pre Aw.post Jx Pn adn rfl (λx y h=>sq (b:=1) x y h)
theorem ZD:aH Pg 161 xy:=mk Ov Fg an b9
theorem adm:aH Pg 161 aec:= @aH.sub Pg 161 xy.pre xy.post Fg Jw ZD rfl (λx y h=>sq (b:=1) x y h)
theorem adh:aH Pg 162 Au:=mk Ti Ju an b9
theorem agy:aH Pg 162 ahq:= @aH.sub Pg 162 Au.pre Au.post Ju Pm adh rfl (λx y h=>sq (b:=24) x y h)
theorem ZB:aH Pg 162 xw:=mk Ot Fe an b9
theorem adg:aH Pg 162 ae9:= @aH.sub Pg 162 xw.pre xw.post Fe Jt ZB rfl (λx y h=>sq (b:=24) x y h)
theorem ZC:aH Pg 99 xx:=mk Ou Ff an b9
theorem adl:aH Pg 99 aeb:= @aH.sub Pg 99 xx.pre xx.post Ff zP ZC rfl (λx y h=>sq (b:=8) x y h)
theorem Mj x:k_ (kG x) (wq x):=by
 unfold kG wq sI aX bK ck bA bE bD aZ cK cH;with_reducible repeat' first|(refine OI.o ?_;constructor)|intro _
theorem MF:aH Pg 132 M7:=yL BS kG wq Mj (ac Wf (ac adm (ac adg an))) b9
theorem Jk x:k_ (jP x) (uC x):=by
 unfold jP uC q_ aX bf bK ck bA iY kl aZ cK aF cH;with_reducible repeat' first|(refine OI.o ?_;constructor)|intro _
theorem JY:aH Pg 137 Lm:=yL Al jP uC Jk (ac By an) b9
theorem Dm x:k_ (hY x) (qJ x):=by
 unfold hY qJ mO aX bf bK dx ck bA kl aZ cK aF cH;with_reducible repeat' first|(refine OI.o ?_;constructor)|intro _
theorem DF:aH Pg 138 Es:=yL vZ hY qJ Dm (ac By an) b9
theorem J6:aH Pg 219 Lv:=mk Ap qT an b9
theorem ML:aH Pg 198 Na:=mk BW ww (ac J6 an) b9
theorem Fw:aH Pg 202 F0:=mk xr rX an b9
theorem J2:aH Pg 164 Lq:=mk Ao uN (ac Fw an) b9
theorem vq x:k_ (gg x) (j9 x):=by
 unfold gg j9 j_ ck bA kl cK aF cH;with_reducible repeat' first|(refine OI.o ?_;constructor)|intro _
theorem vu:aH Pg 192 vx:=yL oJ gg j9 vq (ac ML an) b9
theorem Be x:k_ (jt x) (oL x):=by
 unfold jt oL oR aX bf bd iY bE aF;with_reducible repeat' first|(refine OI.o ?_;constructor)|intro _
theorem Bk:aH Pg 163 Bp:=yL tQ jt oL Be (ac vu an) b9
theorem ZA:aH Pg 133 aa3:=mk Oq wZ (ac Bk (ac J2 an)) b9
theorem Pd x:k_ (lX x) (xU x):=by
 unfold lX xU yi bd bA bE kl aZ cK aF cH;with_reducible repeat' first|(refine OI.o ?_;constructor)|intro _
theorem PQ:aH Pg 134 QL:=yL El lX xU Pd an b9
theorem yO:aH Pg 136 H9:=mk y_ pt an b9
theorem Jn x:k_ (nK x) (uD x):=by
 unfold nK uD uX bA kl aZ cK aF cH;with_reducible repeat' first|(refine OI.o ?_;constructor)|intro _
theorem J7:aH Pg 165 Lw:=yL Aq nK uD Jn (ac yO an) b9
theorem HK x:k_ (jr x) (tw x):=by
 unfold jr tw tG ck bd bA bE kl aZ cK aF cH;with_reducible repeat' first|(refine OI.o ?_;constructor)|intro _
theorem HY:aH Pg 135 Ie:=yL zg jr tw HK (ac yO (ac J7 an)) b9
theorem J1:aH Pg 98 Lp:=mk nQ hZ (ac tD (ac MF (ac JY (ac DF an)))) b9
def tv2 (t:TypeId):Option Ty:=if aC t 167 then af (.pr .un (.pr .un (.pr .un (.pr .un eh)))) else b9 t
theorem JZ:aH Pg 132 Ln:=mk Am nJ (ac PR (ac agz (ac agy an))) tv2
theorem J0:aH Pg 98 Lo:=mk An lx (ac tD (ac JZ (ac ZA (ac PQ (ac HY an))))) tv2
theorem MH:aH Pg 98 M9:=(aH.orE (pre:=nQ.pre) (post:=nQ.post) (m:=hZ) (m':=lx) rfl J1 J0)
theorem oz:aH Pg 66 FN:=mk xk f_ (ac PR (ac Fm (ac tD (ac Cx (ac xY (ac Cw (ac MH (ac adl an)))))))) b9
def tv3 (t:TypeId):Option Ty:=if aC t 91 then af (.pr .un (.pr .un qz)) else b9 t
theorem Ci x:k_ (eC x) (pJ x):=by
 unfold eC pJ lZ aX bf bu bK cN bd bA bE bD aZ cK aF cH;with_reducible repeat' first|(refine OI.o ?_;constructor)|intro _
theorem CC:aH Pg 40 CP:=yL vg eC pJ Ci (ac kU (ac mM (ac oz (ac kz an)))) tv3
def tv4 (t:TypeId):Option Ty:=if aC t 91 then af (.pr .un (.pr .un (.pr .un qz))) else b9 t
theorem Ch x:k_ (dz x) (pI x):=by
 unfold dz pI jU aX bf bu ch bK dx fg bd bA bE bD aZ cK aF cH;with_reducible repeat' first|(refine OI.o ?_;constructor)|intro _
theorem CA:aH Pg 40 CO:=yL ve dz pI Ch (ac kU (ac mM (ac oz (ac kz an)))) tv4
def tv5 (t:TypeId):Option Ty:=if aC t 91 then af (.pr .un (.pr .un (.pr .un (.pr .un qz)))) else b9 t
theorem Cg x:k_ (dR x) (pH x):=by
 unfold dR pH jT aX bf bu ch dC bK cN fg kP bd bA bE bD aZ cK aF cH;with_reducible repeat' first|(refine OI.o ?_;constructor)|intro _
theorem Cz:aH Pg 40 CM:=yL vb dR pH Cg (ac kU (ac mM (ac oz (ac kz an)))) tv5
def tv6 (t:TypeId):Option Ty:=if aC t 91 then af (.pr .un (.pr .un (.pr .un (.pr .un (.pr .un qz))))) else b9 t
theorem Cf x:k_ (eB x) (pG x):=by
 unfold eB pG jS aX bf bu ch dC ja bK fg kP nZ bd bA bE bD aZ cK aF cH;with_reducible repeat' first|(refine OI.o ?_;constructor)|intro _
theorem Cy:aH Pg 40 CK:=yL fk eB pG Cf (ac kU (ac mM (ac oz (ac kz an)))) tv6
theorem DA:aH Pg 40 Eo:=(aH.orE (pre:=fk.pre) (post:=fk.post) (m:=eB) (m':=(λx=>orE (dR x) ((λx=>orE (dz x) (eC x)) x))) rfl Cy (aH.orE (pre:=fk.pre) (post:=fk.post) (m:=dR) (m':=(λx=>orE (dz x) (eC x))) rfl Cz (aH.orE (pre:=fk.pre) (post:=fk.post) (m:=dz) (m':=eC) rfl CA CC)))
theorem Vp x:k_ (pV x) (Co x):=by
 unfold pV Co yd aX bK ck bA iO bE bD aZ cK aF cH;with_reducible repeat' first|(refine OI.o ?_;constructor)|intro _
theorem Wc:aH Pg 17 W7:=yL K6 pV Co Vp (ac NS (ac ade (ac DA an))) b9
theorem age x:k_ (Dr x) (Pf x):=by
 unfold Dr Pf P0 aX bf bu ch fg bA bE cK aF cH;with_reducible repeat' first|(refine OI.o ?_;constructor)|intro _
theorem agw:aH Pg 32 aho:=yL Yy Dr Pf age an b9
abbrev Le0:List PB:=[.cells 31 [.d mb],.rows 3 ai aM,.cells 52 [.d gr],.cells 52 [.d gr]]
abbrev Le1:List PB:=[.cells 31 [.d mb],.rows 3 ai aM,.cells 52 [.d gr]]
abbrev Le2:List PV:=[.ptr 0 0,.row 1,.ptr 2 0,.ptr 3 0,.d .bool]
abbrev Le3:List PB:=[.cells 31 [.d mb],.rows 3 ai aM]
abbrev Le4:List PV:=[.d (.sl gr),.d aM]
def GZ:FT:=⟨⟨[.d gr],[]⟩,⟨[.d .bool],[]⟩,dL [(2,(.j ⟨[],[2],⟨[.d .bool],[]⟩,[]⟩))]⟩
def Tr:cq:=cn GZ lG
def BE:FT:=⟨⟨[.d mb,.d gr],[]⟩,⟨[.d .bool],[]⟩,dL [(2,(.j ⟨[],[4],⟨[.d .bool],[]⟩,[]⟩))]⟩
def MS:cq:=cn BE my
def BH:FT:=⟨⟨[.d gr,.d gr],[]⟩,⟨[.d .bool],[]⟩,dL [(2,(.j ⟨[],[4],⟨[.d .bool],[]⟩,[]⟩))]⟩
def MV:cq:=cn BH o_
def BG:FT:=⟨⟨Le4,[]⟩,⟨[.d aM],[]⟩,dL [(6,(.j ⟨[0,1],[5],⟨[.d aM],[]⟩,[]⟩))]⟩
def MU:cq:=cn BG mA
def GW:FT:=⟨⟨Le4,[]⟩,⟨[.d aM],[]⟩,dL [(8,(.j ⟨[0,1],[5,6],⟨vA,[]⟩,[]⟩)),(16,(.j ⟨[0,1,6],[5],⟨[.d aM],[]⟩,[]⟩))]⟩
def Tp:cq:=cn GW sT
def Kv:FT:=⟨⟨Le4,[]⟩,⟨[.d aM],[]⟩,dL [(5,(.j ⟨[0,1,5],[19],⟨[.d .bool],[]⟩,[]⟩)),(16,(.j ⟨[0,1,5],[6],⟨[.d aM],[]⟩,[]⟩)),(25,(.j ⟨[0,1,5,6],[66],⟨[.d .bool],[]⟩,[]⟩))]⟩
def Wn:cq:=cn Kv uE
def N8:FT:=⟨⟨[.d mb,.d (.sl gr),.d aM],[]⟩,⟨mT,[]⟩,dL [(10,(.j ⟨[1,2],[3,7,8,9],⟨[.ptr 0 0,.row 1,.ptr 2 0,.d aM],Le1⟩,[.nil 7 3 aM]⟩)),(21,(.j ⟨[1,2,9],[3,7,8],⟨[.ptr 0 0,.row 1,.ptr 2 0],Le1⟩,[]⟩)),(22,(.j ⟨[1,2,9],[3,7,8,10,25],⟨Le2,Le0⟩,[]⟩)),(26,(.j ⟨[1,2,9],[3,7,8,10,45],⟨Le2,Le0⟩,[]⟩)),(30,(.j ⟨[1,2,9],[3,7,8,10,60],⟨Le2,Le0⟩,[]⟩)),(34,(.j ⟨[1,2,9],[3,7,8,85],⟨[.ptr 0 0,.row 1,.ptr 2 0,.d .bool],Le1⟩,[]⟩)),(40,(.j ⟨[],[7],⟨[.row 0],QY⟩,[]⟩))]⟩
def ZS:cq:=cn N8 wQ
def N6:FT:=⟨⟨[.d mb,.d (.sl gr),.d aM],[]⟩,⟨mT,[]⟩,dL [(10,(.j ⟨[1,2,8,9],[3,7,10],⟨Ng,Le3⟩,[.nil 7 3 aM]⟩)),(18,(.j ⟨[1,2,8,9,10],[3,7],⟨[.ptr 0 0,.row 1],Le3⟩,[]⟩)),(21,(.j ⟨[1,2,8,9,10],[3,7,65],⟨[.ptr 0 0,.row 1,.d .bool],Le3⟩,[]⟩))]⟩
def ZQ:cq:=cn N6 wP
def GY:FT:=⟨⟨[.d (.sl aM),.d gQ],[]⟩,⟨[.d .bool],[]⟩,.leaf⟩
def Tq:cq:=cn GY vL
def D3:FT:=⟨⟨Le4,[]⟩,⟨[.d gQ],[]⟩,.leaf⟩
def Qi:cq:=cn D3 qN
def Ag:FT:=⟨⟨[.d mU,.d kg],[]⟩,⟨[.d (.sl gQ)],[]⟩,dL [(8,(.j ⟨[1,10],[2,5,11],⟨Ng,ai9⟩,[.nil 5 57 gQ]⟩)),(22,(.j ⟨[1,6,10,11],[2,5,7],⟨Ng,ai9⟩,[]⟩)),(30,(.j ⟨[1,6,7,10,11],[2,5],⟨[.ptr 0 0,.row 1],ai9⟩,[]⟩)),(31,(.j ⟨[1,6,7,10,11],[2,5,52],⟨[.ptr 0 0,.row 1,.d .bool],ai9⟩,[]⟩))]⟩
def Ld:cq:=cn Ag ne
def Ah:FT:=⟨⟨[.d (.sl gQ),.d (.sl gQ)],[]⟩,⟨[.d .bool],[]⟩,dL [(14,(.j ⟨[0,1,12],[13],⟨[.d aM],[]⟩,[]⟩))]⟩
def Lf:cq:=cn Ah ng
theorem Gv:aH Pg 62 Tr:=mk GZ lG an b9
theorem Bw:aH Pg 36 MS:=mk BE my (ac Gv an) b9
theorem Mu:aH Pg 35 MV:=mk BH o_ (ac Gv an) b9
theorem Bx:aH Pg 27 MU:=mk BG mA an b9
theorem R6:aH Pg 63 Tp:=mk GW sT an b9
theorem VM:aH Pg 58 Wn:=mk Kv uE (ac Bx an) b9
theorem Zp:aH Pg 28 ZS:=mk N8 wQ (ac Bw (ac VM an)) b9
theorem Zn:aH Pg 30 ZQ:=mk N6 wP (ac Mv (ac Mt an)) b9
theorem R7:aH Pg 37 Tq:=mk GY vL (ac Yd an) b9
theorem PC:aH Pg 38 Qi:=mk D3 qN (ac R6 an) b9
theorem JM:aH Pg 15 Ld:=mk Ag ne (ac Mu (ac Bw (ac R7 (ac PC an)))) b9
theorem JN:aH Pg 14 Lf:=mk Ah ng an b9
abbrev Lf0:List PB:=[.cells 34 [.d mU],.rows 50 ai (.sl aM),.rows 50 ai (.sl aM),.cells 52 [.d gr]]
abbrev Lf1:List PB:=[.cells 34 [.d mU],.cells 74 [.d Kf0],.rows 77 aj gQ,.rows 57 ai gQ,.cells 52 [.d gr]]
abbrev Lf2:List PV:=[.ptr 0 0,.row 1,.row 2,.ptr 3 0,.d (.sl aM),.d aM]
abbrev Lf3:List PV:=[.ptr 0 0,.row 1,.row 2,.ptr 3 0,.d (.sl aM)]
abbrev Lf5:List PV:=[.ptr 0 0,.ptr 1 0,.row 2,.row 3,.ptr 4 0]
abbrev Lf6:List PB:=[.cells 34 [.d mU],.cells 74 [.d Kf0],.rows 77 aj gQ,.rows 57 ai gQ]
abbrev Lf8:List PV:=[.ptr 0 0,.ptr 1 0,.row 2,.row 3,.ptr 4 0,.d .bool]
def Om:FT:=⟨⟨[.d mb,.d Kd0,.d gr],[]⟩,⟨[.agg [.row 1,.d kg,.d kg,.d kg,.d kg,.d kg,.d (.sl aM),.d kg,.d (.sl aM)],.row 0],[.rows 3 aj aM,zZ0]⟩,dL [(14,(.j ⟨[22,23],[3,5,6,7,24],⟨[.ptr 0 0,.ptr 1 0,.ptr 2 0,.ptr 3 0,.d aM],[.cells 31 Ld3,.cells 52 Ld4,.cells 62 [.row 4,.row 5,.row 6,.row 7,.row 8,.row 9,.d (.sl aM),.row 10,.row 11],.cells 50 mT,zZ0,zZ0,zZ0,zZ0,zZ0,zZ0,zZ0,.rows 3 ai aM]⟩,[]⟩))]⟩
def Z_:cq:=cn Om qj
def xm:FT:=⟨⟨[.d mb,.d gr],[]⟩,⟨[.d .bool],[]⟩,dL [(2,(.j ⟨[],[4],⟨[.d .bool],[]⟩,[]⟩))]⟩
def FP:cq:=cn xm jE
def GR:FT:=⟨⟨[.d mU],[]⟩,⟨[.d kg,.d kg,.d aM],[]⟩,dL [(24,(.j ⟨[34,35],[1,2,3,7,8,36],⟨[.ptr 0 0,.row 1,.row 2,.ptr 3 0,.mp 4,.d aM],[.cells 34 [.d mU],zZ0,zZ0,.cells 62 [.d kg,.d kg,.d kg,.d kg,.d kg,.d kg,.d (.sl aM),.d kg,.d (.sl aM)],.mp aM aM]⟩,[.mpt 8 aM aM]⟩)),(41,(.j ⟨[34,35,36],[1,2,3,7,8],⟨[.ptr 0 0,.row 1,.row 2,.ptr 3 0,.mp 4],[.cells 34 [.d mU],zZ0,zZ0,.cells 62 [.row 5,.d kg,.d kg,.d kg,.d kg,.d kg,.d (.sl aM),.d kg,.d (.sl aM)],.mp aM aM,zZ0]⟩,[.mpt 8 aM aM]⟩))]⟩
def Tl:cq:=cn GR m_
def Ku:FT:=⟨⟨[.d mU],[]⟩,⟨[.d (.sl gQ),.d aM],[]⟩,dL [(22,(.j ⟨[4,29,30],[1,7,8,9,31],⟨[.ptr 0 0,.ptr 1 0,.row 2,.row 3,.d aM],Lf6⟩,[.nil 9 57 gQ]⟩)),(30,(.j ⟨[4,29,30,31],[1,7,8,9],⟨[.ptr 0 0,.ptr 1 0,.row 2,.row 3],Lf6⟩,[]⟩)),(33,(.j ⟨[4,10,29,30,31],[1,7,8,9,11],⟨Lf5,Lf1⟩,[]⟩)),(34,(.s 11 0 0 4)),(35,(.j ⟨[4,10,29,30,31],[1,7,8,9,11],⟨Lf5,Lf1⟩,[]⟩)),(36,(.s 11 0 0 4)),(46,(.j ⟨[4,10,29,30,31,60,61],[1,7,8,9,11,62],⟨[.ptr 0 0,.ptr 1 0,.row 2,.row 3,.ptr 4 0,.d aM],Lf1⟩,[]⟩)),(54,(.j ⟨[4,10,29,30,31,60,61,62],[1,7,8,9,11],⟨Lf5,Lf1⟩,[]⟩)),(57,(.j ⟨[4,10,12,29,30,31,60,61,62],[1,7,8,9,11,14],⟨Lf8,Lf1⟩,[]⟩)),(59,(.j ⟨[4,10,12,29,30,31,60,61,62],[1,7,8,9,11,107],⟨Lf8,Lf1⟩,[]⟩))]⟩
def Wl:cq:=cn Ku m8
def xo:FT:=⟨⟨[.d mU],[]⟩,⟨[.d kg,.d kg],[]⟩,dL [(4,(.a [.nil 2 50 (.sl aM),.nil 3 50 (.sl aM)])),(6,(.j ⟨[14,15],[1,2,3,16],⟨[.ptr 0 0,.row 1,.row 2,.d aM],[.cells 34 [.d mU],.rows 50 ai (.sl aM),.rows 50 ai (.sl aM)]⟩,[]⟩)),(19,(.j ⟨[4,14,15,16],[1,2,3,5,6],⟨Lf3,Lf0⟩,[]⟩)),(31,(.j ⟨[4,14,15,16,36,37],[1,2,3,5,6,38],⟨Lf2,Lf0⟩,[]⟩)),(48,(.j ⟨[4,14,15,16,54,55],[1,2,3,5,6,56],⟨Lf2,Lf0⟩,[]⟩)),(63,(.j ⟨[14,15,16],[1,2,3,5,6],⟨Lf3,Lf0⟩,[]⟩)),(69,(.j ⟨[14,15,16],[1,2,3,5,6],⟨Lf3,Lf0⟩,[]⟩)),(70,(.j ⟨[14,15,16],[1,2,3,5,6,12],⟨Lf2,Lf0⟩,[]⟩)),(79,(.j ⟨[6,12,14,15,16],[1,2,3,5,100],⟨[.ptr 0 0,.row 1,.row 2,.ptr 3 0,.d .bool],Lf0⟩,[]⟩))]⟩
def FU:cq:=cn xo lw
def Eh:FT:=⟨⟨[],[]⟩,⟨[.d .bool],[]⟩,dL [(6,(.j ⟨[],[0],⟨[.d .bool],[]⟩,[]⟩))]⟩
def QE:cq:=cn Eh t_
def zd:FT:=⟨⟨[.d Kf1],[]⟩,⟨[.d .bool],[]⟩,dL [(8,(.j ⟨[],[2],⟨[.d .bool],[]⟩,[]⟩))]⟩
def Ia:cq:=cn zd mi
theorem Zd x:k_ (qj x) (Fb x):=by
 unfold qj Fb AU xF EM aX bf bu ch dC ja vC xG L4 Prod.q12 cN fg nZ OO ck bA vp bE aZ cK cH;with_reducible repeat' first|(refine OI.o ?_;constructor)|intro _
theorem Zy:aH Pg 24 Z_:=yL Om qj Fb Zd (ac zX (ac J4 (ac J5 (ac GJ (ac NR an))))) b9
theorem Fo:aH Pg 33 FP:=mk xm jE an b9
theorem RJ x:k_ (m_ x) (zL x):=by
 unfold m_ zL vU aX bf bu cN ck bd bA iO bD kl aZ cK aF cH;with_reducible repeat' first|(refine OI.o ?_;constructor)|intro _
theorem R3:aH Pg 9 Tl:=yL GR m_ zL RJ (ac Wc (ac NS (ac Zy (ac Wf (ac zX an))))) b9
theorem Vm x:k_ (m8 x) (Ck x):=by
 unfold m8 Ck x_ aX bf bu ch dC ja bK dx cN ck bd bA iO bE bD kl aZ cK aF cH;with_reducible repeat' first|(refine OI.o ?_;constructor)|intro _
theorem JJ:aH Pg 13 Wl:=yL Ku m8 Ck Vm (ac R3 (ac Fo (ac MM an))) b9
theorem Fq:aH Pg 10 FU:=mk xo lw (ac Bx (ac Zp (ac Zo (ac Zn (ac Zm an))))) b9
theorem PP:aH Pg 12 QE:=mk Eh t_ (ac JJ (ac agw an)) b9
theorem hlaw25_ShbRaces:aH Pg 4 Ia:=mk zd mi (ac Fp (ac Fq (ac PP (ac JJ (ac JN (ac JM an)))))) b9
theorem run_law {P:Program} {f:FuncId} {pre:Tm} {m:pre.ty.den->Option (Tm.ty ⟨[.d .bool],[]⟩).den} (sp:qr P f ⟨pre,⟨[.d .bool],[]⟩,m⟩) (h0:pre.bs.length=0) {x:pre.ty.den} (M:m x=af ai) {vs:List TV} {hp:bl} (hi:Dz pre x=af (vs,hp)) {la:List AV} (hla:cU hp vs=af la)
 {W:World} {us:ξ} (hg:∀g cells,G g=af cells->nS (λ_=>False) W (.ptr cells 0) (.pointer (af ⟨g,0,ah⟩))) (hrel:kf (λ_=>ah) (λ_=>False) W la us):
 Calls P f us.toArray W λe w'=>e= .returned (.bool ai)/\Below W.heap.size W w':=by
 obtain⟨l1,I⟩:=xa hi;obtain⟨l2,J⟩:=xa (t:=⟨[.d .bool],[]⟩) (x:=ai) (vs:=[.f .bool ai]) (h1:=PT.leaf) rfl;have hn:bF hp=λ_=>ah:=by
  funext n;cases hb:bF hp n with
  |none=>rfl
  |some b=>
   obtain⟨i,c,rfl,h1,_⟩:=jH hb;have:=I.lt_len h1;omega
 have own0:∀(φ:PM) k,¬own φ (bF hp) k:=by rintro φ k ⟨i,b,h1,_⟩;rw[hn]at h1;cases h1
 have htot:tot (λ_=>False) (λ_=>ah) (bF hp)=λ_=>False:=by
  funext k;exact propext ⟨λh=>h.elim id λh=>cX h (own0 _ k),λh=>h.elim⟩
 refine Calls.mono (sp.calls x ai M vs hp l1 _ PT.leaf l2 la _ I J hla rfl (λ_=>ah) (λ_=>False) W us ⟨(λi j b b' k h1=>by rw[hn]at h1;cases h1),(λi b h1=>by rw[hn]at h1;cases h1),(λk h=>h.elim),(λg cells h=>by rw[htot];exact hg g cells h)⟩ (by rw[htot];exact hrel) (λn k h=>by cases h)) ?_;rintro en w' ⟨v,φ',rfl,he,_,_,_,hv⟩;refine ⟨?_,⟨he.os,he.tape,he.output,he.size,λk hk=>he.blk k hk (own0 _ k)⟩⟩;have hv:cV φ' _ w' (.f (.raw (.bool ai))) v:=hv;cases hv with
 |f h=>cases h;rfl
theorem gKw:Tryz.prog.globalNamed "interleave/token.keywords" =af 0:=by kernel_rfl
theorem tKw:(Tryz.prog.globals[0]?).map (·.type)=af 269:=by kernel_rfl
theorem kw_of_laid {W:World} (h:laidMetH Tryz.prog [("interleave/token.keywords",Rows.laid_interleave_token_keywords)] W):∀g cells,G g=af cells→nS (λ_=>False) W (.ptr cells 0) (.pointer (af ⟨g,0,ah⟩)):=by
 intro g cells U;unfold G at U;split at U
 .rename_i hg;have hg:=eq_of_beq hg;subst hg;cases U;rw[MakeChecks.laidMetH_plain _ _ _ (by kernel_rfl)]at h;obtain⟨ps,⟨g0,t0,cs0,f0,p0,q0,M,Z,Y,hd0,_,_⟩,_,_⟩:=h;obtain rfl:=j6 (gKw.symm.trans M);obtain rfl:=j6 (tKw.symm.trans Z);obtain⟨xs,m1,rfl,J,hlen,hn,hel⟩:=DataW.trod_array Tryz.underlying269 hd0;have c1:Tryz.prog.cellsOf 9=1:=by kernel_rfl
  have c22:Tryz.prog.cellsOf 269=22:=by kernel_rfl
  rw[c22]at hlen;simp only[aE,Rows.laid_interleave_token_keywords,DataW.agg.injEq]at J;have hxs:=J.1;have hcell:∀j,j<22→∃l,(xs.map (·.1))[j]? =af (.lit (.string l))∧W.cell? ⟨0,j,ah⟩=af (.string ⟨l.toArray⟩):=λj hj=>by
   have h1:=hel j hj;rw[c1,Nat.mul_one]at h1;rw[aB (by omega)]at h1;obtain⟨s,e1,e2,_⟩:=DataW.trod_string Tryz.underlying9 h1;refine ⟨s.data.toList,?_,?_⟩
   .rw[ba,aB (by omega),cr,e2]
   .have:=World.var?_cell M Y j;rw[this];have h2:cs0.toList[j]? =af (.string s):=by
     have:((cs0.toList.drop j).take 1)[0]? =af (.string s):=by rw[e1];rfl
     rw[cP,aD (by omega),ia]at this;simpa using this
    rw[← cQ,h2]
  have hb:0<W.heap.size:=by
   obtain⟨l,_,h2⟩:=hcell 0 (by omega);exact World.block_lt_of_cell? W _ h2
  refine .ptr Dt 0 0 0 (λj=>(W.cell? ⟨0,j,ah⟩).getD undef) (λh=>h) hb (λx I=>?_) (λj hj=>?_) (λj x I=>?_)
  .simp only[Dt,bp,cF,gu]at I;rcases I with rfl|rfl|rfl|rfl|rfl|rfl|rfl|rfl|rfl|rfl|rfl|rfl|rfl|rfl|rfl|rfl|rfl|rfl|rfl|rfl|rfl|rfl<;>rfl
  .obtain⟨l,_,h2⟩:=hcell j hj;rw[bR,h2];rfl
  .have hj:j<22:=(bn.1 I).1;obtain⟨l,h1,h2⟩:=hcell j hj;rw[← hxs]at h1;have:x= .raw (.string ⟨l.toArray⟩):=by
    rcases j with _|_|_|_|_|_|_|_|_|_|_|_|_|_|_|_|_|_|_|_|_|_|j;all_goals first|(simp only[rz,List.getElem?_cons_succ,ak,DataW.lit.injEq,Lit.string.injEq,Dt]at h1 I;subst h1;subst I;rfl)|omega
   rw[this,h2];exact .raw _
 .cases U
end
end Go.Proofs.YtgijlolllojpaaaGreatDoor.AI
