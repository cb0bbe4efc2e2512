/-
  Texts of the proof, part 6 of 6: what is used to prove the statement. No condition.
-/
import Derived.Test.YtgijlolllojpaaaGreatDoorShbFirstQ4
import Derived.Test.YtgijlolllojpaaaGreatDoorRows
import Derived.LaidMore
namespace Go.Proofs.YtgijlolllojpaaaGreatDoor.AI
open Go.RowKit
set_option maxRecDepth 100000
set_option maxHeartbeats 4000000
set_option linter.unusedVariables false
set_option linter.unusedSimpArgs false
open _root_.Bool renaming true→ai,false→aj
open _root_.List renaming getElem?_cons_zero→qQ
open _root_.Nat renaming beq→aC
open _root_.Option renaming some→af,none→ah,map_some→b_
open _root_.Prod renaming p2→aV,p3→bh,p4→bw,q3→bL,p5→ct,q5→cN,q4→dc,p6→dQ,q6→eZ,p7→iU,q7→mq,q8→nF,p8→uV,p10→xd,p9→xf,p11→D9,q11→Lb,q9→Ny
noncomputable section
abbrev ajl:List PV:=[.row 1,.row 2,.row 3,.row 4,.row 5,.row 6,.d (.sl aM),.row 7,.row 8]
abbrev Ld0:List PB:=[.cells 62 ajl,.rows 50 aj (.sl aM),.rows 50 aj (.sl aM),.rows 50 aj (.sl aM),.rows 50 aj (.sl aM),.rows 50 aj (.sl aM),.rows 50 aj (.sl aM),.rows 50 aj (.sl aM),.rows 3 ai aM,.rows 3 aj aM]
abbrev Ld4:List PV:=[.d aM,.d aM,.d aM,.d aM,.d aM,.d (.sl aM),.d (.sl aM)]
abbrev Ld3:List PV:=[.d (.sl kB),.d (.sl rP),.d (.sl mb),.d (.sl .str),.d (.sl .str),.d (.sl oR)]
abbrev Ld1:List PB:=[.cells 52 Ld4,.cells 62 [.row 3,.row 4,.row 5,.row 6,.row 7,.row 8,.d (.sl aM),.row 9,.row 10],.cells 31 Ld3,.rows 50 aj (.sl aM),.rows 50 aj (.sl aM),.rows 50 aj (.sl aM),.rows 50 aj (.sl aM),.rows 50 aj (.sl aM),.rows 50 aj (.sl aM),.rows 50 aj (.sl aM),.rows 3 ai aM]
abbrev Ld2:List PB:=[.cells 62 ajl,.rows 50 aj (.sl aM),.rows 50 aj (.sl aM),.rows 50 aj (.sl aM),.rows 50 aj (.sl aM),.rows 50 aj (.sl aM),.rows 50 aj (.sl aM),.rows 50 aj (.sl aM),.rows 3 ai aM,.rows 3 aj aM,.cells 52 Ld4]
abbrev Ld5:List PB:=[.rows 167 aj ef,.rows 4 ai .bool,.rows 169 ai ie,.cells 94 Hy]
abbrev Ld6:List PB:=[.rows 167 aj ef,.rows 4 ai .bool,.rows 169 ai ie]
abbrev XE:List PB:=[.rows 3 ai aM]
abbrev Ld8:List PB:=[.cells 97 [.d iT],.cells 52 [.d jt],.cells 216 [.d Kd1]]
abbrev Ld9:List PB:=[.rows 3 ai aM,.cells 3 [.d aM]]
abbrev an1:List PB:=[.cells 31 [.d nD],.cells 94 [.row 4,.d aM,.row 5,.row 6],.cells 3 [.d aM],.cells 94 Cf,.rows 167 aj ef,.rows 4 ai .bool,.rows 169 ai ie]
abbrev PC:List PB:=[.rows 3 aj aM]
abbrev an0:List PB:=[.cells 94 Cf,.cells 94 [.row 2,.d aM,.row 3,.row 4],.rows 167 aj ef,.rows 4 aj .bool,.rows 169 aj ie]
abbrev afv:List PB:=[.cells 34 [.d ny],.rows 57 ai gj]
abbrev S8:List PV:=[.row 0,.d aM]
abbrev ack:List PB:=[.rows 50 aj (.sl aM)]
abbrev ajk:List PB:=[.rows 50 aj (.sl aM),.rows 3 aj aM]
abbrev Za:List PB:=[.cells 52 [.d jt]]
abbrev Ld19:List PV:=[.d (.sl aM),.d (.sl aM)]
abbrev ajj:List PV:=[.ptr 0 0,.ptr 1 0,.ptr 2 0]
def Nc:FT:=⟨⟨Mf,[]⟩,⟨[.d aM],[]⟩,dU [(3,(.j ⟨[0,1],[12],⟨[.d .bool],[]⟩,[]⟩))]⟩
def YP:cu:=cn Nc jA
def GR:FT:=⟨⟨Ld19,[]⟩,⟨qK,[]⟩,dU [(8,(.j ⟨[0,1,14],[5,15],⟨S8,PC⟩,[]⟩))]⟩
def Sz:cu:=cn GR jw
def Xf:FT:=⟨⟨qK,[]⟩,⟨qK,[]⟩,.leaf⟩
def DU:cu:=cn Xf Of
def ait:cu:=⟨DU.pre,DU.post,xx⟩
def Ka:FT:=⟨⟨[.d kG],[]⟩,⟨[.row 0],ack⟩,dU [(8,(.j ⟨[9,10],[3,11],⟨S8,ack⟩,[]⟩))]⟩
def Vy:cu:=cn Ka iv
def RL:FT:=⟨⟨qK,[]⟩,⟨[.row 0],XE⟩,dU [(8,(.a [.nil 2 3 aM])),(12,(.a [.nil 2 3 aM]))]⟩
def zV:cu:=cn RL IJ
def aff:cu:=⟨zV.pre,zV.post,o6⟩
def Kb:FT:=⟨⟨[.d Kd0],[]⟩,⟨[.agg [.row 0,.row 1,.row 2,.row 3,.row 4,.row 5,.d (.sl aM),.row 6,.row 7]],[.rows 50 aj (.sl aM),.rows 50 aj (.sl aM),.rows 50 aj (.sl aM),.rows 50 aj (.sl aM),.rows 50 aj (.sl aM),.rows 50 aj (.sl aM),.rows 50 aj (.sl aM),.rows 3 ai aM]⟩,.leaf⟩
def Vz:cu:=cn Kb ry
def M9:FT:=⟨⟨S8,ack⟩,⟨qK,ack⟩,dU [(3,(.j ⟨[1],[0,12],⟨[.row 0,.d .bool],ack⟩,[]⟩))]⟩
def YI:cu:=cn M9 tW
def Kd:FT:=⟨⟨ajj,Ld1⟩,⟨[.d kG],Ld1⟩,dU [(18,(.j ⟨[6],[0,1,2,25],⟨D3,Ld1⟩,[]⟩))]⟩
def VD:cu:=cn Kd rz
def Na:FT:=⟨⟨[.d nD],[]⟩,⟨[.d Kd0],[]⟩,dU [(8,(.j ⟨[40],[2,3,41],⟨vW,[.cells 62 [.nil,.nil,.nil,.nil,.nil,.nil,.nil,.nil,.nil],.cells 62 [.row 2,.row 3,.row 4,.row 5,.row 6,.row 7,.nil,.row 8,.row 9],.rows 50 aj (.sl aM),.rows 50 aj (.sl aM),.rows 50 aj (.sl aM),.rows 50 aj (.sl aM),.rows 50 aj (.sl aM),.rows 50 aj (.sl aM),.rows 50 aj (.sl aM),.rows 3 aj aM]⟩,[]⟩))]⟩
def YL:cu:=cn Na nQ
def GP:FT:=⟨⟨Mf,[]⟩,⟨[.row 0],PC⟩,dU [(4,(.j ⟨[0,1,5],[6],⟨[.d .bool],[]⟩,[]⟩)),(6,(.j ⟨[0,1,6],[5],⟨[.d aM],[]⟩,[]⟩)),(16,(.j ⟨[],[7],⟨[.row 0],PC⟩,[]⟩)),(17,(.j ⟨[1],[7,33],⟨[.row 0,.d .bool],PC⟩,[]⟩))]⟩
def Sy:cu:=cn GP pN
def wU:FT:=⟨⟨[.row 0],PC⟩,⟨qK,PC⟩,.leaf⟩
def abu:cu:=cn wU wD
def afe:cu:=⟨wU.pre,⟨wU.post.vs,[]⟩,vh⟩
def Av:FT:=⟨⟨[.d (.sl aM),.row 0],PC⟩,⟨qK,PC⟩,dU [(8,(.j ⟨[0,14],[1,5,15],⟨[.row 0,.row 1,.d aM],[.rows 3 aj aM,.rows 3 aj aM]⟩,[]⟩))]⟩
def afc:cu:=cn Av tJ
def ais:cu:=⟨Av.pre,⟨Av.post.vs,[]⟩,BW⟩
def J9:FT:=⟨⟨[.row 0,.d aM,.row 1],ajk⟩,⟨[],ajk⟩,dU [(0,(.j ⟨[1],[0,2,13],⟨[.row 0,.row 1,.d .bool],ajk⟩,[]⟩))]⟩
def Vw:cu:=cn J9 lD
def RF:FT:=⟨⟨[.ptr 0 0,.d aM,.row 9],Ld0⟩,⟨[],Ld0⟩,.leaf⟩
def abp:cu:=cn RF wA
def M_:FT:=⟨⟨[.d nD,.ptr 0 0,.d jt,.row 9],Ld0⟩,⟨[],Ld0⟩,dU [(6,(.j ⟨[],[],⟨[],Ld0⟩,[]⟩)),(11,(.j ⟨[20],[1,3,4,6,32],⟨[.ptr 0 0,.row 9,.ptr 10 0,.ptr 11 0,.d .bool],[.cells 62 ajl,.rows 50 aj (.sl aM),.rows 50 aj (.sl aM),.rows 50 aj (.sl aM),.rows 50 aj (.sl aM),.rows 50 aj (.sl aM),.rows 50 aj (.sl aM),.rows 50 aj (.sl aM),.rows 3 ai aM,.rows 3 aj aM,.cells 31 Ld3,.cells 52 Ld4]⟩,[]⟩)),(48,(.j ⟨[],[1,3,6,129],⟨[.ptr 0 0,.row 9,.ptr 10 0,.d .bool],Ld2⟩,[]⟩)),(59,(.j ⟨[141],[1,3,6,140,142],⟨[.ptr 0 0,.row 9,.ptr 10 0,.row 8,.d aM],Ld2⟩,[]⟩)),(67,(.j ⟨[141,142],[1,3,6,140],⟨[.ptr 0 0,.row 9,.ptr 10 0,.row 8],Ld2⟩,[]⟩))]⟩
def YJ:cu:=cn M_ pK
def RG:FT:=⟨⟨[.d nD,.d Kd0,.d jt],[]⟩,⟨[.d Kd0,.row 0],PC⟩,dU [(14,(.j ⟨[22,23],[3,5,6,7,24],⟨[.ptr 0 0,.ptr 1 0,.ptr 2 0,.ptr 3 0,.d aM],[.cells 31 Ld3,.cells 52 Ld4,.cells 62 [.row 4,.row 5,.row 6,.row 7,.row 8,.row 9,.d (.sl aM),.row 10,.row 11],.cells 50 qK,.rows 50 aj (.sl aM),.rows 50 aj (.sl aM),.rows 50 aj (.sl aM),.rows 50 aj (.sl aM),.rows 50 aj (.sl aM),.rows 50 aj (.sl aM),.rows 50 aj (.sl aM),.rows 3 ai aM]⟩,[]⟩))]⟩
def abq:cu:=cn RG sw
def wO:FT:=⟨⟨[.d .str],[]⟩,⟨[.d .bool],[]⟩,dU [(6,(.j ⟨[0,5],[6],⟨[.d aM],[]⟩,[]⟩))]⟩
def Ff:cu:=cn wO kX
def A_:FT:=⟨⟨[.d .str],[]⟩,⟨[.d .bool],[]⟩,dU [(3,(.j ⟨[0],[16],⟨[.d .bool],[]⟩,[]⟩)),(14,(.j ⟨[],[18],⟨[.ptr 0 0],[.mp mb .un]⟩,[]⟩)),(24,(.j ⟨[],[18],⟨[.ptr 0 0],[.mp mb .un]⟩,[]⟩)),(25,(.j ⟨[3,4],[18,23],⟨ig,[.mp mb .un]⟩,[]⟩)),(29,(.j ⟨[],[18,38],⟨ig,[.mp mb .un]⟩,[]⟩))]⟩
def LU:cu:=cn A_ oG
def Kf:FT:=⟨⟨Mf,[]⟩,⟨[.d aM],[]⟩,dU [(6,(.j ⟨[0,1,7],[8],⟨[.d aM],[]⟩,[]⟩))]⟩
def VM:cu:=cn Kf rB
def Bp:FT:=⟨⟨Mf,[]⟩,⟨[.d .bool],[]⟩,.leaf⟩
def Md:cu:=cn Bp kz
def Bo:FT:=⟨⟨[.d (.sl aM),.d gj],[]⟩,⟨[.d .bool],[]⟩,.leaf⟩
def Mc:cu:=cn Bo ml
def Kc:FT:=⟨⟨[.d jt],[]⟩,⟨[.d .bool],[]⟩,dU [(2,(.j ⟨[],[2],⟨[.d .bool],[]⟩,[]⟩))]⟩
def VB:cu:=cn Kc uo
def DH:FT:=⟨⟨[.d ny,.d aM,.d aM],[]⟩,⟨[.d .bool],[]⟩,dU [(5,(.j ⟨[],[3,7,8,30],⟨D3,[.cells 34 [.d ny],.cells 52 [.d jt],.cells 52 [.d jt]]⟩,[]⟩)),(13,(.j ⟨[],[7,8,48],⟨rN,[.cells 52 [.d jt],.cells 52 [.d jt]]⟩,[]⟩)),(20,(.j ⟨[],[6],⟨[.d .bool],[]⟩,[]⟩))]⟩
def Pn:cu:=cn DH qu
def J_:FT:=⟨⟨[.d (.sl jt)],[]⟩,⟨[.d (.sl gj)],[]⟩,dU [(10,(.j ⟨[11,12],[3,4,13],⟨[.mp 0,.row 1,.d aM],[.mp aM aM,.rows 77 aj gj]⟩,[.mpt 3 aM aM]⟩))]⟩
def Vx:cu:=cn J_ pw
def yD:FT:=⟨⟨vU,[]⟩,⟨[.d .bool],[]⟩,dU [(2,(.j ⟨[],[4],⟨[.d .bool],[]⟩,[]⟩))]⟩
def Hs:cu:=cn yD sR
def yE:FT:=⟨⟨[.d nD,.d aM,.d .bool],[]⟩,⟨[.d .bool],[]⟩,dU [(2,(.j ⟨[],[6],⟨[.d .bool],[]⟩,[]⟩))]⟩
def Ht:cu:=cn yE sS
def tu:FT:=⟨⟨[.d (.sl kB)],[]⟩,⟨[.d (.sl .str),.d .bool],[]⟩,dU [(8,(.j ⟨[0],[4,5],⟨S8,[.rows 9 ai .str]⟩,[.nil 4 9 .str]⟩)),(15,(.j ⟨[0],[4,5],⟨S8,[.rows 9 ai .str]⟩,[]⟩)),(37,(.j ⟨[0,5],[4,6,49],⟨[.row 0,.ptr 1 0,.d .bool],[.rows 9 ai .str,.cells 123 [.d kB]]⟩,[]⟩)),(48,(.j ⟨[0,5,51],[4,6,52],⟨[.row 0,.ptr 1 0,.d aM],[.rows 9 ai .str,.cells 123 [.d kB]]⟩,[]⟩))]⟩
def AQ:cu:=cn tu hP
def tm:FT:=⟨⟨[.d nD,.d (.sl .str)],[]⟩,⟨[.d .bool],[]⟩,dU [(10,(.j ⟨[17,18],[2,5,19],⟨PD,Zd⟩,[]⟩)),(27,(.j ⟨[30,31],[2,5,32],⟨PD,Zd⟩,[]⟩)),(50,(.j ⟨[52],[10,51,53],⟨[.mp 0,.row 1,.d aM],[.mp .str .bool,.rows 9 ai .str]⟩,[.mpt 10 .str .bool]⟩)),(62,(.j ⟨[12,52,53],[10,51,64],⟨[.mp 0,.row 1,.d .bool],[.mp .str .bool,.rows 9 ai .str]⟩,[.mpt 10 .str .bool]⟩))]⟩
def AO:cu:=cn tm dO
def tj:FT:=⟨⟨[.d nD],[]⟩,⟨[.d .bool],[]⟩,dU [(8,(.j ⟨[8,9],[1,3,4,10],⟨[.ptr 0 0,.d aM,.d aM,.d aM],pY⟩,[]⟩)),(20,(.j ⟨[3,4,8,9,10],[1,6,25],⟨rN,[.cells 31 [.d nD],.cells 127 [.d oR]]⟩,[]⟩)),(27,(.j ⟨[8,9,10],[1,3,4,6],⟨[.ptr 0 0,.d aM,.d aM,.ptr 1 0],[.cells 31 [.d nD],.cells 127 [.d oR]]⟩,[]⟩))]⟩
def AM:cu:=cn tj fZ
def tw:FT:=⟨⟨[.d nD],[]⟩,⟨[.d .bool],[]⟩,dU [(3,(.j ⟨[],[1,34],⟨ig,pY⟩,[]⟩)),(11,(.j ⟨[],[1,44],⟨ig,pY⟩,[]⟩)),(21,(.j ⟨[],[1,58],⟨ig,pY⟩,[]⟩)),(32,(.j ⟨[60,61],[1,62],⟨vV,pY⟩,[]⟩))]⟩
def AS:cu:=cn tw dP
def Bk:FT:=⟨⟨[.d nD],[]⟩,⟨[.d Hz],[]⟩,dU [(8,(.j ⟨[20],[2,3,21],⟨vW,an0⟩,[]⟩)),(21,(.j ⟨[],[2,3],⟨[.ptr 0 0,.ptr 1 0],an0⟩,[]⟩))]⟩
def L8:cu:=cn Bk oJ
def vy:FT:=⟨⟨[.d nD],[]⟩,⟨[.d iT],[]⟩,dU [(8,(.j ⟨[22,23],[2,3,24],⟨vW,[.cells 97 vX,.cells 97 [.d (.sl ef),.d aM,.d pZ,.d (.sl ie),.row 2,.row 3,.row 4],.rows 2 aj aM,.rows 2 aj aM,.rows 3 aj aM]⟩,[]⟩))]⟩
def DL:cu:=cn vy dh
def sG:FT:=⟨⟨[.d pZ,.d jt],[]⟩,⟨[.d .bool],[]⟩,dU [(6,(.j ⟨[0,13],[14],⟨[.d aM],[]⟩,[]⟩)),(20,(.j ⟨[0,13,14,17,18],[19],⟨[.d aM],[]⟩,[]⟩)),(31,(.j ⟨[0,13,14,17,18,19],[37],⟨[.d .bool],[]⟩,[]⟩))]⟩
def zQ:cu:=cn sG cf
def zJ:FT:=⟨⟨vU,[]⟩,⟨[.d .bool],[]⟩,dU [(2,(.j ⟨[],[4],⟨[.d .bool],[]⟩,[]⟩))]⟩
def Kp:cu:=cn zJ fd
def yw:FT:=⟨⟨[.d nD,.d aM,.d aM],[]⟩,⟨[.d .bool],[]⟩,dU [(6,(.j ⟨[2,7],[3,8],⟨ig,pY⟩,[]⟩)),(36,(.j ⟨[2,7],[3,18],⟨ig,pY⟩,[]⟩)),(46,(.j ⟨[2,7],[3,26],⟨ig,pY⟩,[]⟩)),(53,(.j ⟨[],[6],⟨[.d .bool],[]⟩,[]⟩)),(56,(.j ⟨[2,7],[3,43],⟨ig,pY⟩,[]⟩)),(71,(.j ⟨[],[6],⟨[.d .bool],[]⟩,[]⟩)),(74,(.j ⟨[2,7],[3,61],⟨ig,pY⟩,[]⟩)),(92,(.j ⟨[2,7],[3,71],⟨ig,pY⟩,[]⟩)),(102,(.j ⟨[2],[3,79],⟨ig,pY⟩,[]⟩))]⟩
def Hn:cu:=cn yw lX
def DB:FT:=⟨⟨[.d nD,.d Hz],[]⟩,⟨[.d .bool],[]⟩,dU [(3,(.j ⟨[],[2,31],⟨ig,pY⟩,[]⟩)),(14,(.j ⟨[33,34],[2,35],⟨vV,pY⟩,[]⟩))]⟩
def Pc:cu:=cn DB kn
def Bi:FT:=⟨⟨[.d nD,.d Hz,.d aM,.d aM,.d aM],[]⟩,⟨[.d .bool],[]⟩,dU [(15,(.j ⟨[],[10],⟨[.d .bool],[]⟩,[]⟩)),(21,(.j ⟨[],[10],⟨[.d .bool],[]⟩,[]⟩)),(24,(.j ⟨[2,4,11],[5,6,60],⟨rN,V6⟩,[]⟩)),(64,(.j ⟨[2,4,11],[5,6,109],⟨rN,V6⟩,[]⟩)),(81,(.j ⟨[],[10],⟨[.d .bool],[]⟩,[]⟩)),(87,(.j ⟨[],[10],⟨[.d .bool],[]⟩,[]⟩))]⟩
def L6:cu:=cn Bi oI
def yz:FT:=⟨⟨[.d nD,.d Hz,.d aM,.d aM,.d aM],[]⟩,⟨[.d .bool],[]⟩,dU [(3,(.j ⟨[2,3,4],[5,6,30],⟨rN,V6⟩,[]⟩)),(25,(.j ⟨[],[10],⟨[.d .bool],[]⟩,[]⟩)),(29,(.j ⟨[],[10],⟨[.d .bool],[]⟩,[]⟩))]⟩
def Ho:cu:=cn yz jg
def wM:FT:=⟨⟨[.d nD,.d iT],[]⟩,⟨[.d .bool],[]⟩,dU [(2,(.j ⟨[],[4],⟨[.d .bool],[]⟩,[]⟩))]⟩
def Fd:cu:=cn wM kW
def uG:FT:=⟨⟨[.d nD,.d jt],[]⟩,⟨[.d .bool],[]⟩,dU [(3,(.j ⟨[],[2,3,12],⟨rN,[.cells 31 [.d nD],.cells 52 [.d jt]]⟩,[]⟩)),(10,(.j ⟨[],[4],⟨[.d .bool],[]⟩,[]⟩))]⟩
def B9:cu:=cn uG jF
def qE:FT:=⟨⟨[.d nD,.d iT,.d jt],[]⟩,⟨[.d .bool],[]⟩,dU [(2,(.j ⟨[],[4,5,7],⟨rN,[.cells 97 [.d iT],.cells 52 [.d jt]]⟩,[]⟩)),(4,(.j ⟨[],[4,5,8],⟨ajj,Ld8⟩,[]⟩)),(10,(.j ⟨[51],[4,5,8,52],⟨Fz,Ld8⟩,[]⟩)),(22,(.j ⟨[10,51,52],[4,5,8,64],⟨D3,Ld8⟩,[]⟩)),(34,(.j ⟨[51,52,65,66],[4,5,8,11,67],⟨[.ptr 0 0,.ptr 1 0,.ptr 2 0,.d aM,.d aM],Ld8⟩,[]⟩)),(46,(.j ⟨[13,51,52,65,66,67],[4,5,8,83],⟨D3,Ld8⟩,[]⟩))]⟩
def xV:cu:=cn qE e9
def uF:FT:=⟨⟨[.d iT,.d jt],[]⟩,⟨[.d .bool],[]⟩,dU [(21,(.j ⟨[],[4],⟨[.d .bool],[]⟩,[]⟩)),(24,(.j ⟨[13],[2,3,46],⟨rN,[.cells 97 [.d iT],.cells 52 [.d jt]]⟩,[]⟩)),(43,(.j ⟨[53,54],[3,5,6,55],⟨[.ptr 0 0,.d aM,.d .bool,.d aM],Za⟩,[]⟩)),(51,(.j ⟨[53,54,55],[3,5,6],⟨[.ptr 0 0,.d aM,.d .bool],Za⟩,[]⟩)),(54,(.j ⟨[5,6,7,53,54,55],[3,69],⟨ig,Za⟩,[]⟩)),(62,(.j ⟨[],[4],⟨[.d .bool],[]⟩,[]⟩)),(74,(.j ⟨[94,95],[3,9,96],⟨Tb,Za⟩,[]⟩)),(82,(.j ⟨[94,95,96],[3,9],⟨vV,Za⟩,[]⟩)),(85,(.j ⟨[9,94,95,96],[3,109],⟨ig,Za⟩,[]⟩))]⟩
def B8:cu:=cn uF gy
def Bh:FT:=⟨⟨[.d ie,.d aM],[]⟩,⟨[.d .bool],[]⟩,dU [(2,(.j ⟨[],[4],⟨[.d .bool],[]⟩,[]⟩))]⟩
def L5:cu:=cn Bh mj
def RM:FT:=⟨⟨[.d pZ],[]⟩,⟨[.d pZ],[]⟩,.leaf⟩
def zW:cu:=cn RM IL
def afg:cu:=⟨zW.pre,zW.post,Oe⟩
def Nh:FT:=⟨⟨[.d pZ],[]⟩,⟨[.row 0],[.rows 4 ai .bool]⟩,dU [(8,(.a [.nil 2 4 .bool])),(12,(.a [.nil 2 4 .bool]))]⟩
def wZ:cu:=cn Nh ED
def abw:cu:=⟨wZ.pre,wZ.post,IK⟩
def RK:FT:=⟨⟨[.d (.sl ie)],[]⟩,⟨[.d (.sl ie)],[]⟩,.leaf⟩
def zU:cu:=cn RK II
def afd:cu:=⟨zU.pre,zU.post,Od⟩
def Nf:FT:=⟨⟨[.d (.sl ie)],[]⟩,⟨[.row 0],[.rows 169 ai ie]⟩,dU [(8,(.a [.nil 2 169 ie])),(12,(.a [.nil 2 169 ie]))]⟩
def wX:cu:=cn Nf EB
def abt:cu:=⟨wX.pre,wX.post,IH⟩
def Ng:FT:=⟨⟨qK,[]⟩,⟨[.row 0],[.rows 2 ai aM]⟩,dU [(8,(.a [.nil 2 2 aM])),(12,(.a [.nil 2 2 aM]))]⟩
def wY:cu:=cn Ng EC
def abv:cu:=⟨wY.pre,wY.post,zg⟩
def Bj:FT:=⟨⟨[.d Hz],[]⟩,⟨[.agg Hy],Ld6⟩,dU [(8,(.j ⟨[11,12],[1,2,3,13],⟨[.ptr 0 0,.ptr 1 0,.row 2,.d aM],[.cells 94 [.d Hz],.cells 94 Cf,.rows 167 aj ef]⟩,[]⟩))]⟩
def L7:cu:=cn Bj ky
def zK:FT:=⟨⟨[.agg Hy,.d aM,.d aM],Ld6⟩,⟨[.d aM],Ld6⟩,dU [(8,(.j ⟨[1,2,12],[3,7,11,13],⟨[.ptr 3 0,.d aM,.row 2,.d aM],Ld5⟩,[]⟩)),(16,(.j ⟨[1,2,12,13],[3,7,11],⟨[.ptr 3 0,.d aM,.row 2],Ld5⟩,[]⟩)),(19,(.j ⟨[1,2,7,8,12,13],[3,11,29],⟨[.ptr 3 0,.row 2,.d .bool],Ld5⟩,[]⟩)),(25,(.j ⟨[7],[],⟨[],Ld6⟩,[]⟩))]⟩
def Kq:cu:=cn zK jK
def vz:FT:=⟨⟨[.agg Hy,.d aM],Ld6⟩,⟨[.d aM],Ld6⟩,dU [(8,(.j ⟨[1,10],[2,5,9,11],⟨[.ptr 3 0,.d aM,.row 2,.d aM],Ld5⟩,[]⟩)),(16,(.j ⟨[1,10,11],[2,5,9],⟨[.ptr 3 0,.d aM,.row 2],Ld5⟩,[]⟩))]⟩
def DO:cu:=cn vz gU
def zO:FT:=⟨⟨[.d aM],[]⟩,⟨[.d .bool],[]⟩,.leaf⟩
def KA:cu:=cn zO qw
def Bn:FT:=⟨⟨vU,[]⟩,⟨[.d .bool],[]⟩,dU [(2,(.j ⟨[],[4],⟨[.d .bool],[]⟩,[]⟩))]⟩
def Mb:cu:=cn Bn vN
def wT:FT:=⟨⟨[.d (.int .u64)],[]⟩,⟨[.d aM],[]⟩,.leaf⟩
def Fm:cu:=cn wT ru
def zN:FT:=⟨⟨[.d (.int .u64)],[]⟩,⟨[.d aM],[]⟩,.leaf⟩
def Kv:cu:=cn zN ul
def oh:FT:=⟨⟨[.row 0,.d aM,.d aM],XE⟩,⟨[],XE⟩,dU [(3,(.j ⟨[1,2],[0,6],⟨S8,XE⟩,[]⟩)),(15,(.j ⟨[1,2,6],[0,7],⟨S8,XE⟩,[]⟩)),(17,(.j ⟨[1,2,6,7],[0,30],⟨[.row 0,.d .bool],XE⟩,[]⟩))]⟩
def uR:cu:=cn oh fR
def tf:FT:=⟨⟨[.row 0,.d aM,.d aM,.d aM],XE⟩,⟨[],XE⟩,dU [(5,(.j ⟨[],[0,1,2,3,8,9],⟨[.row 0,.d aM,.d aM,.d aM,.d .bool,.d .bool],XE⟩,[]⟩))]⟩
def AL:cu:=cn tf jk
def Nd:FT:=⟨⟨[.row 0],XE⟩,⟨[],XE⟩,.leaf⟩
def YQ:cu:=cn Nd wC
def DK:FT:=⟨⟨[.row 0],XE⟩,⟨[.row 0],XE⟩,dU [(14,(.j ⟨[],[0,3],⟨S8,XE⟩,[]⟩))]⟩
def Pr:cu:=cn DK lE
def yA:FT:=⟨⟨[.d aM,.ptr 0 0],[.cells 3 [.d aM]]⟩,⟨[.d .bool],[.cells 3 [.d aM]]⟩,.leaf⟩
def Hp:cu:=cn yA oZ
def zP:FT:=⟨⟨[.row 0,.clo 136 1 0],Ld9⟩,⟨[.d aM],Ld9⟩,dU [(6,(.j ⟨[7],[0,1,8],⟨[.row 0,.clo 136 1 0,.d aM],Ld9⟩,[]⟩))]⟩
def KB:cu:=cn zP m_
def yF:FT:=⟨⟨[.row 0,.clo 136 1 0],Ld9⟩,⟨[.row 2],[.gone,.cells 3 [.d aM],.rows 3 aj aM]⟩,dU [(16,(.j ⟨[],[0,1,5,6],⟨[.row 0,.clo 136 1 0,.d aM,.d aM],Ld9⟩,[]⟩)),(24,(.j ⟨[6],[0,1,5],⟨[.row 0,.clo 136 1 0,.d aM],Ld9⟩,[]⟩))]⟩
def Hu:cu:=cn yF jh
def nk:FT:=⟨⟨[.d nD,.d Hz,.d aM,.d aM,.d aM,.d aM],[]⟩,⟨[.d Hz,.d aM,.d .bool],[]⟩,dU [(17,(.j ⟨[],[7,12,15],⟨vW,[.cells 94 [.row 2,.d aM,.row 3,.row 4],.cells 94 Cf,.rows 167 aj ef,.rows 4 ai .bool,.rows 169 ai ie]⟩,[]⟩)),(26,(.j ⟨[4,5,15,27],[6,7,8,12,42],⟨Aa,an1⟩,[]⟩)),(34,(.j ⟨[4,5,15,27],[6,7,8,12,51],⟨Aa,an1⟩,[]⟩))]⟩
def Kt:cu:=cn nk gV
def zL:FT:=⟨⟨[.d Hz],[]⟩,⟨[.agg [.csl 0 2 3,.d aM,.d pZ,.d (.sl ie)]],[.cells 167 [.d aM,.row 1,.d aM,.row 2,.d aM,.row 3],.rows 3 ai aM,.rows 3 ai aM,.rows 3 ai aM]⟩,dU [(7,(.j ⟨[],[1,2,3],⟨[.ptr 0 0,.ptr 1 0,.csl 2 2 3],[.cells 94 [.d Hz],.cells 94 Cf,.cells 167 [.d aM,.row 3,.d aM,.row 4,.d aM,.row 5],.rows 3 ai aM,.rows 3 ai aM,.rows 3 ai aM]⟩,[.cel 3 1 3 aM,.cel 3 3 3 aM,.cel 3 5 3 aM]⟩)),(8,(.u 4))]⟩
def Kr:cu:=cn zL m7
def zM:FT:=⟨⟨[.d nD,.d Hz,.d aM,.d aM,.d aM,.d aM],[]⟩,⟨[.d Hz,.d aM,.d .bool],[]⟩,dU [(17,(.j ⟨[],[7,12,15],⟨vW,[.cells 94 [.csl 2 2 3,.d aM,.d pZ,.d (.sl ie)],.cells 94 Cf,.cells 167 [.d ef,.d ef,.d aM,.row 3],.rowsP 3 aM]⟩,[]⟩)),(26,(.j ⟨[4,5,15,27],[6,7,8,12,42],⟨Aa,[.cells 31 [.d nD],.cells 94 [.csl 4 2 3,.d aM,.d pZ,.d (.sl ie)],.cells 3 [.d aM],.cells 94 Cf,.cells 167 [.d aM,.row 5,.d aM,.row 6,.d aM,.row 7],.rows 3 ai aM,.rows 3 ai aM,.rows 3 ai aM]⟩,[]⟩)),(33,(.s 4 0 0 0)),(34,(.j ⟨[4,5,15,27],[6,7,8,12,51],⟨Aa,[.cells 31 [.d nD],.cells 94 [.csl 4 2 3,.d aM,.d pZ,.d (.sl ie)],.cells 3 [.d aM],.cells 94 Cf,.cells 167 [.d aM,.d (.sl aM),.d aM,.d (.sl aM),.d aM,.row 5],.rows 3 ai aM]⟩,[]⟩)),(41,(.s 4 0 0 0)),(46,(.s 4 0 0 3)),(53,(.s 4 0 0 3)),(74,(.s 4 0 0 0)),(80,(.s 4 0 0 0)),(100,(.a [.pk 7 0 ef]))]⟩
def Ks:cu:=cn zM k9
def L9:cu:=cn nk rV
def wN:FT:=⟨⟨[.d nD,.d iT,.d jt],[]⟩,⟨[.d iT,.d .bool],[]⟩,dU [(3,(.j ⟨[],[3,4,5,6,39],⟨Aa,K3⟩,[]⟩)),(11,(.j ⟨[],[3,4,5,6,70],⟨Aa,K3⟩,[]⟩)),(20,(.j ⟨[],[3,4,5,6,8],⟨[.ptr 0 0,.ptr 1 0,.ptr 2 0,.ptr 3 0,.d aM],K3⟩,[]⟩)),(41,(.j ⟨[],[5,6,12],⟨ajj,ajn⟩,[]⟩))]⟩
def Fe:cu:=cn wN fP
def uJ:FT:=⟨⟨[.d ny],[]⟩,⟨vU,[]⟩,dU [(26,(.j ⟨[27,28],[1,4,5,29],⟨[.ptr 0 0,.ptr 1 0,.csl 2 1 1,.d aM],[.cells 34 [.d ny],.cells 97 [.d iT],.cells 91 [.row 3],.rows 4 ai .bool]⟩,[.cel 5 0 4 .bool]⟩)),(40,(.j ⟨[6,27,28,29],[1,4,5,7,8,53],⟨[.ptr 0 0,.ptr 1 0,.csl 2 1 1,.ptr 3 0,.ptr 4 0,.d .bool],[.cells 34 [.d ny],.cells 97 [.d iT],.cells 91 [.row 5],.cells 52 [.d jt],.cells 97 [.d iT],.rows 4 ai .bool]⟩,[]⟩)),(41,(.s 7 0 0 1)),(47,(.j ⟨[27,28,29],[1,4,5,8],⟨[.ptr 0 0,.ptr 1 0,.csl 2 1 1,.ptr 3 0],[.cells 34 [.d ny],.cells 97 [.d iT],.cells 91 [.row 4],.cells 97 [.d iT],.rows 4 ai .bool]⟩,[]⟩)),(48,(.s 7 0 0 1))]⟩
def Cb:cu:=cn uJ eA
def uI:FT:=⟨⟨[.d ny],[]⟩,⟨vU,[]⟩,dU [(26,(.j ⟨[27,28],[1,4,5,29],⟨[.ptr 0 0,.ptr 1 0,.csl 2 1 2,.d aM],[.cells 34 [.d ny],.cells 97 [.d iT],.cells 91 [.row 3,.row 4],.rows 4 ai .bool,.rows 4 ai .bool]⟩,[.cel 5 0 4 .bool,.cel 5 1 4 .bool]⟩)),(40,(.j ⟨[6,27,28,29],[1,4,5,7,8,53],⟨[.ptr 0 0,.ptr 1 0,.csl 2 1 2,.ptr 3 0,.ptr 4 0,.d .bool],[.cells 34 [.d ny],.cells 97 [.d iT],.cells 91 [.row 5,.row 6],.cells 52 [.d jt],.cells 97 [.d iT],.rows 4 ai .bool,.rows 4 ai .bool]⟩,[]⟩)),(41,(.s 7 0 0 2)),(47,(.j ⟨[27,28,29],[1,4,5,8],⟨[.ptr 0 0,.ptr 1 0,.csl 2 1 2,.ptr 3 0],[.cells 34 [.d ny],.cells 97 [.d iT],.cells 91 [.row 4,.row 5],.cells 97 [.d iT],.rows 4 ai .bool,.rows 4 ai .bool]⟩,[]⟩)),(48,(.s 7 0 0 2))]⟩
def Ca:cu:=cn uI di
def uH:FT:=⟨⟨[.d ny],[]⟩,⟨vU,[]⟩,dU [(26,(.j ⟨[27,28],[1,4,5,29],⟨[.ptr 0 0,.ptr 1 0,.csl 2 1 3,.d aM],[.cells 34 [.d ny],.cells 97 [.d iT],.cells 91 [.row 3,.row 4,.row 5],.rows 4 ai .bool,.rows 4 ai .bool,.rows 4 ai .bool]⟩,[.cel 5 0 4 .bool,.cel 5 1 4 .bool,.cel 5 2 4 .bool]⟩)),(40,(.j ⟨[6,27,28,29],[1,4,5,7,8,53],⟨[.ptr 0 0,.ptr 1 0,.csl 2 1 3,.ptr 3 0,.ptr 4 0,.d .bool],[.cells 34 [.d ny],.cells 97 [.d iT],.cells 91 [.row 5,.row 6,.row 7],.cells 52 [.d jt],.cells 97 [.d iT],.rows 4 ai .bool,.rows 4 ai .bool,.rows 4 ai .bool]⟩,[]⟩)),(41,(.s 7 0 0 3)),(47,(.j ⟨[27,28,29],[1,4,5,8],⟨[.ptr 0 0,.ptr 1 0,.csl 2 1 3,.ptr 3 0],[.cells 34 [.d ny],.cells 97 [.d iT],.cells 91 [.row 4,.row 5,.row 6],.cells 97 [.d iT],.rows 4 ai .bool,.rows 4 ai .bool,.rows 4 ai .bool]⟩,[]⟩)),(48,(.s 7 0 0 3))]⟩
def B':cu:=cn uH dL
def e_:FT:=⟨⟨[.d ny],[]⟩,⟨vU,[]⟩,dU [(26,(.j ⟨[27,28],[1,4,5,29],⟨[.ptr 0 0,.ptr 1 0,.csl 2 1 4,.d aM],[.cells 34 [.d ny],.cells 97 [.d iT],.cells 91 [.row 3,.row 4,.row 5,.row 6],.rows 4 ai .bool,.rows 4 ai .bool,.rows 4 ai .bool,.rows 4 ai .bool]⟩,[.cel 5 0 4 .bool,.cel 5 1 4 .bool,.cel 5 2 4 .bool,.cel 5 3 4 .bool]⟩)),(40,(.j ⟨[6,27,28,29],[1,4,5,7,8,53],⟨[.ptr 0 0,.ptr 1 0,.csl 2 1 4,.ptr 3 0,.ptr 4 0,.d .bool],[.cells 34 [.d ny],.cells 97 [.d iT],.cells 91 [.row 5,.row 6,.row 7,.row 8],.cells 52 [.d jt],.cells 97 [.d iT],.rows 4 ai .bool,.rows 4 ai .bool,.rows 4 ai .bool,.rows 4 ai .bool]⟩,[]⟩)),(41,(.s 7 0 0 4)),(47,(.j ⟨[27,28,29],[1,4,5,8],⟨[.ptr 0 0,.ptr 1 0,.csl 2 1 4,.ptr 3 0],[.cells 34 [.d ny],.cells 97 [.d iT],.cells 91 [.row 4,.row 5,.row 6,.row 7],.cells 97 [.d iT],.rows 4 ai .bool,.rows 4 ai .bool,.rows 4 ai .bool,.rows 4 ai .bool]⟩,[]⟩)),(48,(.s 7 0 0 4))]⟩
def B_:cu:=cn e_ ey
def DM:cu:=cn e_ mr
def Ke:FT:=⟨⟨[.d ny],[]⟩,⟨[.d kG,.d aM],[]⟩,dU [(20,(.j ⟨[25,26],[1,6,7,27],⟨[.ptr 0 0,.ptr 1 0,.row 2,.d aM],[.cells 34 [.d ny],.cells 62 [.d Kd0],.rows 50 aj (.sl aM)]⟩,[]⟩))]⟩
def VF:cu:=cn Ke m8
def Nb:FT:=⟨⟨[.d ny],[]⟩,⟨[.d (.sl gj),.d aM],[]⟩,dU [(20,(.j ⟨[4,6,23],[1,7,24],⟨PD,afv⟩,[.nil 7 57 gj]⟩)),(34,(.j ⟨[4,6,8,23,24,27],[1,7,28],⟨PD,afv⟩,[]⟩)),(42,(.j ⟨[4,6,8,23,24,27,28],[1,7],⟨[.ptr 0 0,.row 1],afv⟩,[]⟩)),(45,(.j ⟨[4,6,8,9,23,24,27,28],[1,7,46],⟨[.ptr 0 0,.row 1,.d .bool],afv⟩,[]⟩))]⟩
def YM:cu:=cn Nb rA
def Xe:FT:=⟨⟨[],[]⟩,⟨[.d nD],[]⟩,dU [(8,(.j ⟨[21],[0,1,22],⟨vW,ag4⟩,[.cel 1 5 127 oR]⟩)),(22,(.j ⟨[2,21,22],[0,1,3],⟨vW,ag4⟩,[]⟩))]⟩
def afb:cu:=cn Xe CS
theorem E0:aI Pg 57 YP:=mk Nc jA an b9
theorem Qz x:kT (jw x) (zd x):=by
 unfold jw zd vu ck bB bF aY cK aF cC;with_reducible repeat' first|(refine OI.o ?_;constructor)|intro _
theorem zq:aI Pg 26 Sz:=yd GR jw zd Qz (ac E0 an) b9
theorem aeo:aI Pg 25 DU:=mk Xf Of an b9
theorem UU:aI Pg 25 ait:= @aI.sub Pg 25 DU.pre DU.post Of xx aeo rfl (λx y h=>rL (b:=8) x y h)
theorem Ub x:kT (iv x) (BP x):=by
 unfold iv BP xF ck bB v9 bF aY cK aF cC;with_reducible repeat' first|(refine OI.o ?_;constructor)|intro _
theorem UR:aI Pg 84 Vy:=yd Ka iv BP Ub (ac UU an) b9
theorem ab2:aI Pg 25 zV:=mk RL IJ an b9
theorem OJ:aI Pg 25 aff:= @aI.sub Pg 25 zV.pre zV.post IJ o6 ab2 rfl (λx y h=>rL (b:=8) x y h)
theorem Jg:aI Pg 52 Vz:=mk Kb ry (ac OJ (ac UR an)) b9
theorem Yc:aI Pg 54 YI:=mk M9 tW an b9
theorem Jh:aI Pg 53 VD:=mk Kd rz (ac Yc an) b9
theorem XY x:kT (nQ x) (Ew x):=by
 unfold nQ Ew Aq aV bh bw ct dQ iU nF ck bB bF aY cK aF cC;with_reducible repeat' first|(refine OI.o ?_;constructor)|intro _
theorem MO:aI Pg 23 YL:=yd Na nQ Ew XY an b9
theorem F3:aI Pg 55 Sy:=mk GP pN an b9
theorem ab1:aI Pg 25 abu:=mk wU wD an b9
theorem WS:aI Pg 25 afe:= @aI.ro Pg 25 wU.pre wU.post.vs wD vh (ab1.holds rfl) rfl (λx _ h=>by rw[show vh x=obind (wD x) λy=>same y.2 x (af y.1) from gx (obind _) (funext λ_=>Qf ..)] at h;exact h)
theorem ae4 x:kT (tJ x) (Ob x):=by
 unfold tJ Ob H0 ck bB bF aY cK aF cC;with_reducible repeat' first|(refine OI.o ?_;constructor)|intro _
theorem ael:aI Pg 26 afc:=yd Av tJ Ob ae4 (ac E0 an) b9
theorem aay:aI Pg 26 ais:= @aI.ro Pg 26 Av.pre Av.post.vs tJ BW (ael.holds rfl) rfl (λx _ h=>by rw[show BW x=obind (tJ x) λy=>same y.2 x.2 (af y.1) from gx (obind _) (funext λ_=>Qf ..)] at h;exact h)
theorem UP:aI Pg 85 Vw:=mk J9 lD (ac aay an) b9
theorem aaw:aI Pg 86 abp:=mk RF wA (ac WS an) b9
theorem XW x:kT (pK x) (Eu x):=by
 unfold pK Eu Ao xd D9 Prod.p12 Prod.p13 Prod.p14 Prod.p15 Prod.p16 Prod.p17 aV bh bw ct dQ iU uV xf Prod.q10 Prod.q16 Prod.q17 Prod.q18 cN mq Ny ck bd bB jZ v9 bF aY cK aF cC;with_reducible repeat' first|(refine OI.o ?_;constructor)|intro _
theorem MN:aI Pg 56 YJ:=yd M_ pK Eu XW (ac WS (ac aay (ac UP (ac aaw an)))) b9
theorem aa5 x:kT (sw x) (IE x):=by
 unfold sw IE Db xd D9 aV bh bw ct dQ iU uV xf Lb Prod.q12 cN eZ nF Ny ck bB v9 bF aY cK cC;with_reducible repeat' first|(refine OI.o ?_;constructor)|intro _
theorem aax:aI Pg 24 abq:=yd RG sw IE aa5 (ac zq (ac Jg (ac Jh (ac F3 (ac MN an))))) b9
theorem Es x:kT (kX x) (re x):=by
 unfold kX re rF xd D9 Prod.p12 Prod.p13 Prod.p14 Prod.p15 Prod.p16 Prod.p17 Prod.p18 Prod.p19 aV Prod.p20 bh bw ct dQ iU uV xf Prod.q21 bB bF cK aF cC;with_reducible repeat' first|(refine OI.o ?_;constructor)|intro _
theorem EL:aI Pg 159 Ff:=yd wO kX re Es an b9
theorem Lp x:kT (oG x) (vJ x):=by
 unfold oG vJ vP bd bB jZ bF aY cK aF;with_reducible repeat' first|(refine OI.o ?_;constructor)|intro _
theorem Lz:aI Pg 126 LU:=yd A_ oG vJ Lp (ac EL an) b9
theorem Ue x:kT (rB x) (BR x):=by
 unfold rB BR xK bd bB bI aY cK aF cC;with_reducible repeat' first|(refine OI.o ?_;constructor)|intro _
theorem UT:aI Pg 191 VM:=yd Kf rB BR Ue an b9
theorem LQ:aI Pg 160 Md:=mk Bp kz (ac UT an) b9
theorem AX:aI Pg 34 Mc:=mk Bo ml (ac E0 an) b9
theorem US:aI Pg 68 VB:=mk Kc uo an b9
theorem OG:aI Pg 42 Pn:=mk DH qu (ac US an) b9
theorem Ua x:kT (pw x) (BO x):=by
 unfold pw BO xE ck bB bF bI aY cK aF cC;with_reducible repeat' first|(refine OI.o ?_;constructor)|intro _
theorem UQ:aI Pg 41 Vx:=yd J_ pw BO Ua an b9
theorem He:aI Pg 127 Hs:=mk yD sR an b9
theorem Hf:aI Pg 90 Ht:=mk yE sS (ac He an) b9
theorem AC x:kT (hP x) (oq x):=by
 unfold hP oq oz aV bh bw ct dc eZ bd bB iF bF bI aY cK aF cC;with_reducible repeat' first|(refine OI.o ?_;constructor)|intro _
theorem AJ:aI Pg 88 AQ:=yd tu hP oq AC an b9
theorem AB x:kT (dO x) (oo x):=by
 unfold dO oo oy aV bh bw bB bF bI kF aY cK aF cC;with_reducible repeat' first|(refine OI.o ?_;constructor)|intro _
theorem AH:aI Pg 89 AO:=yd tm dO oo AB (ac Lz an) b9
theorem AA x:kT (fZ x) (om x):=by
 unfold fZ om kN aV bh ct cN bB iF bI aY cK aF cC;with_reducible repeat' first|(refine OI.o ?_;constructor)|intro _
theorem AG:aI Pg 91 AM:=yd tj fZ om AA an b9
theorem AD x:kT (dP x) (ou x):=by
 unfold dP ou kO aV bh ct cN bB bI aY cK aF cC;with_reducible repeat' first|(refine OI.o ?_;constructor)|intro _
theorem kM:aI Pg 64 AS:=yd tw dP ou AD (ac AJ (ac AH (ac Hf (ac AG an)))) b9
theorem Ls x:kT (oJ x) (vL x):=by
 unfold oJ vL vQ aV bh bw bL dc cN ck bB bF aY cK aF cC;with_reducible repeat' first|(refine OI.o ?_;constructor)|intro _
theorem LL:aI Pg 92 L8:=yd Bk oJ vL Ls an b9
theorem CK x:kT (dh x) (qf x):=by
 unfold dh qf qy aV bh bw dc bB bF bI aY cK aF cC;with_reducible repeat' first|(refine OI.o ?_;constructor)|intro _
theorem mw:aI Pg 65 DL:=yd vy dh qf CK (ac LL an) b9
theorem yX x:kT (cf x) (mJ x):=by
 unfold cf mJ kq dQ mq bB jZ bF bI aY cK aF cC;with_reducible repeat' first|(refine OI.o ?_;constructor)|intro _
theorem ko:aI Pg 67 zQ:=yd sG cf mJ yX an b9
theorem uv:aI Pg 129 Kp:=mk zJ fd an b9
theorem Hd:aI Pg 130 Hn:=mk yw lX (ac uv an) b9
theorem N7 x:kT (kn x) (xu x):=by
 unfold kn xu tM aV bh bw dc bB iF bI aY cK aF cC;with_reducible repeat' first|(refine OI.o ?_;constructor)|intro _
theorem C8:aI Pg 128 Pc:=yd DB kn xu N7 (ac uv an) b9
theorem LJ:aI Pg 131 L6:=mk Bi oI (ac LQ an) b9
theorem sT:aI Pg 94 Ho:=mk yz jg (ac C8 (ac uv (ac Hd (ac LJ an)))) b9
theorem EK:aI Pg 93 Fd:=mk wM kW (ac C8 an) b9
theorem BY:aI Pg 95 B9:=mk uG jF an b9
theorem xt x:kT (e9 x) (lz x):=by
 unfold e9 lz js aV bh bw ct bL dc eZ bd bB jZ bF bI aY cK aF cC;with_reducible repeat' first|(refine OI.o ?_;constructor)|intro _
theorem xz:aI Pg 96 xV:=yd qE e9 lz xt an b9
theorem BF x:kT (gy x) (pe x):=by
 unfold gy pe lG aV bh bw ct bL bd bB bI aY cK aF cC;with_reducible repeat' first|(refine OI.o ?_;constructor)|intro _
theorem BX:aI Pg 97 B8:=yd uF gy pe BF an b9
theorem AW:aI Pg 166 L5:=mk Bh mj an b9
theorem ab5:aI Pg 161 zW:=mk RM IL an b9
theorem aen:aI Pg 161 afg:= @aI.sub Pg 161 zW.pre zW.post IL Oe ab5 rfl (λx y h=>rL (b:=1) x y h)
theorem Yi:aI Pg 161 wZ:=mk Nh ED an b9
theorem ab4:aI Pg 161 abw:= @aI.sub Pg 161 wZ.pre wZ.post ED IK Yi rfl (λx y h=>rL (b:=1) x y h)
theorem ab0:aI Pg 162 zU:=mk RK II an b9
theorem aem:aI Pg 162 afd:= @aI.sub Pg 162 zU.pre zU.post II Od ab0 rfl (λx y h=>rL (b:=24) x y h)
theorem Yg:aI Pg 162 wX:=mk Nf EB an b9
theorem aaz:aI Pg 162 abt:= @aI.sub Pg 162 wX.pre wX.post EB IH Yg rfl (λx y h=>rL (b:=24) x y h)
theorem Yh:aI Pg 99 wY:=mk Ng EC an b9
theorem ab3:aI Pg 99 abv:= @aI.sub Pg 99 wY.pre wY.post EC zg Yh rfl (λx y h=>rL (b:=8) x y h)
theorem Lr x:kT (ky x) (vK x):=by
 unfold ky vK rZ aV bL ck bB bF bI aY cK cC;with_reducible repeat' first|(refine OI.o ?_;constructor)|intro _
theorem LK:aI Pg 132 L7:=yd Bj ky vK Lr (ac UU (ac ab4 (ac aaz an))) b9
theorem Iz x:kT (jK x) (uc x):=by
 unfold jK uc qB aV bh bL ck bB jZ kF aY cK aF cC;with_reducible repeat' first|(refine OI.o ?_;constructor)|intro _
theorem Ja:aI Pg 137 Kq:=yd zK jK uc Iz (ac AW an) b9
theorem CM x:kT (gU x) (qg x):=by
 unfold gU qg mz aV bh bL dc ck bB kF aY cK aF cC;with_reducible repeat' first|(refine OI.o ?_;constructor)|intro _
theorem C7:aI Pg 138 DO:=yd vz gU qg CM (ac AW an) b9
theorem Jj:aI Pg 219 KA:=mk zO qw an b9
theorem LP:aI Pg 198 Mb:=mk Bn vN (ac Jj an) b9
theorem EX:aI Pg 202 Fm:=mk wT ru an b9
theorem Je:aI Pg 164 Kv:=mk zN ul (ac EX an) b9
theorem uO x:kT (fR x) (j6 x):=by
 unfold fR j6 j7 ck bB kF cK aF cC;with_reducible repeat' first|(refine OI.o ?_;constructor)|intro _
theorem uP:aI Pg 192 uR:=yd oh fR j6 uO (ac LP an) b9
theorem Az x:kT (jk x) (ol x):=by
 unfold jk ol ox aV bh bd jZ bF aF;with_reducible repeat' first|(refine OI.o ?_;constructor)|intro _
theorem AF:aI Pg 163 AL:=yd tf jk ol Az (ac uP an) b9
theorem Yf:aI Pg 133 YQ:=mk Nd wC (ac AF (ac Je an)) b9
theorem N_ x:kT (lE x) (xv x):=by
 unfold lE xv xL bd bB bF kF aY cK aF cC;with_reducible repeat' first|(refine OI.o ?_;constructor)|intro _
theorem OH:aI Pg 134 Pr:=yd DK lE xv N_ an b9
theorem yh:aI Pg 136 Hp:=mk yA oZ an b9
theorem IC x:kT (m_ x) (ud x):=by
 unfold m_ ud uC bB kF aY cK aF cC;with_reducible repeat' first|(refine OI.o ?_;constructor)|intro _
theorem Jk:aI Pg 165 KB:=yd zP m_ ud IC (ac yh an) b9
theorem G6 x:kT (jh x) (sQ x):=by
 unfold jh sQ sV ck bd bB bF kF aY cK aF cC;with_reducible repeat' first|(refine OI.o ?_;constructor)|intro _
theorem Hg:aI Pg 135 Hu:=yd yF jh sQ G6 (ac yh (ac Jk an)) b9
theorem Jd:aI Pg 98 Kt:=mk nk gV (ac sT (ac LK (ac Ja (ac C7 an)))) b9
def tv2 (t:TypeId):Option Ty:=if aC t 167 then af (.pr .un (.pr .un (.pr .un (.pr .un ef)))) else b9 t
theorem Jb:aI Pg 132 Kr:=mk zL m7 (ac OJ (ac aen (ac aem an))) tv2
theorem Jc:aI Pg 98 Ks:=mk zM k9 (ac sT (ac Jb (ac Yf (ac OH (ac Hg an))))) tv2
theorem LM:aI Pg 98 L9:=(aI.orE (pre:=nk.pre) (post:=nk.post) (m:=gV) (m':=k9) rfl Jd Jc)
theorem nS:aI Pg 66 Fe:=mk wN fP (ac OJ (ac EK (ac sT (ac BY (ac xz (ac BX (ac LM (ac ab3 an)))))))) b9
def tv3 (t:TypeId):Option Ty:=if aC t 91 then af (.pr .un (.pr .un pZ)) else b9 t
theorem BJ x:kT (eA x) (pi x):=by
 unfold eA pi lH aV bh bw bL cN bd bB bF bI aY cK aF cC;with_reducible repeat' first|(refine OI.o ?_;constructor)|intro _
theorem B3:aI Pg 40 Cb:=yd uJ eA pi BJ (ac kM (ac mw (ac nS (ac ko an)))) tv3
def tv4 (t:TypeId):Option Ty:=if aC t 91 then af (.pr .un (.pr .un (.pr .un pZ))) else b9 t
theorem BI x:kT (di x) (ph x):=by
 unfold di ph jQ aV bh bw ct bL dc eZ bd bB bF bI aY cK aF cC;with_reducible repeat' first|(refine OI.o ?_;constructor)|intro _
theorem B2:aI Pg 40 Ca:=yd uI di ph BI (ac kM (ac mw (ac nS (ac ko an)))) tv4
def tv5 (t:TypeId):Option Ty:=if aC t 91 then af (.pr .un (.pr .un (.pr .un (.pr .un pZ)))) else b9 t
theorem BH x:kT (dL x) (pg x):=by
 unfold dL pg jP aV bh bw ct dQ bL cN eZ mq bd bB bF bI aY cK aF cC;with_reducible repeat' first|(refine OI.o ?_;constructor)|intro _
theorem B1:aI Pg 40 B':=yd uH dL pg BH (ac kM (ac mw (ac nS (ac ko an)))) tv5
def tv6 (t:TypeId):Option Ty:=if aC t 91 then af (.pr .un (.pr .un (.pr .un (.pr .un (.pr .un pZ))))) else b9 t
theorem BG x:kT (ey x) (pf x):=by
 unfold ey pf jO aV bh bw ct dQ iU bL eZ mq nF bd bB bF bI aY cK aF cC;with_reducible repeat' first|(refine OI.o ?_;constructor)|intro _
theorem BZ:aI Pg 40 B_:=yd e_ ey pf BG (ac kM (ac mw (ac nS (ac ko an)))) tv6
theorem C3:aI Pg 40 DM:=(aI.orE (pre:=e_.pre) (post:=e_.post) (m:=ey) (m':=(λx=>orE (dL x) ((λx=>orE (di x) (eA x)) x))) rfl BZ (aI.orE (pre:=e_.pre) (post:=e_.post) (m:=dL) (m':=(λx=>orE (di x) (eA x))) rfl B1 (aI.orE (pre:=e_.pre) (post:=e_.post) (m:=di) (m':=eA) rfl B2 B3)))
theorem Uc x:kT (m8 x) (BQ x):=by
 unfold m8 BQ xG aV bL ck bB iF bF bI aY cK aF cC;with_reducible repeat' first|(refine OI.o ?_;constructor)|intro _
theorem Ji:aI Pg 17 VF:=yd Ke m8 BQ Uc (ac MO (ac aax (ac C3 an))) b9
theorem XZ x:kT (rA x) (Ey x):=by
 unfold rA Ey Ar bB iF bF bI aY cK aF cC;with_reducible repeat' first|(refine OI.o ?_;constructor)|intro _
theorem Ye:aI Pg 18 YM:=yd Nb rA Ey XZ (ac Ji (ac AX (ac UQ (ac OG an)))) b9
theorem ae3 x:kT (CS x) (Oa x):=by
 unfold CS Oa ON aV bh bw ct eZ bB bF cK aF cC;with_reducible repeat' first|(refine OI.o ?_;constructor)|intro _
theorem aek:aI Pg 32 afb:=yd Xe CS Oa ae3 an b9
abbrev Lf1:List PB:=[.cells 34 [.d ny],.cells 74 [.d Kf0],.rows 77 aj gj,.rows 57 ai gj,.cells 52 [.d jt]]
abbrev Lf5:List PV:=[.ptr 0 0,.ptr 1 0,.row 2,.row 3,.ptr 4 0]
abbrev Lf6:List PB:=[.cells 34 [.d ny],.cells 74 [.d Kf0],.rows 77 aj gj,.rows 57 ai gj]
abbrev Lf8:List PV:=[.ptr 0 0,.ptr 1 0,.row 2,.row 3,.ptr 4 0,.d .bool]
def M':FT:=⟨⟨[.d nD,.d Kd0,.d jt],[]⟩,⟨[.agg [.row 1,.d kG,.d kG,.d kG,.d kG,.d kG,.d (.sl aM),.d kG,.d (.sl aM)],.row 0],[.rows 3 aj aM,.rows 50 aj (.sl aM)]⟩,dU [(14,(.j ⟨[22,23],[3,5,6,7,24],⟨[.ptr 0 0,.ptr 1 0,.ptr 2 0,.ptr 3 0,.d aM],[.cells 31 Ld3,.cells 52 Ld4,.cells 62 [.row 4,.row 5,.row 6,.row 7,.row 8,.row 9,.d (.sl aM),.row 10,.row 11],.cells 50 qK,.rows 50 aj (.sl aM),.rows 50 aj (.sl aM),.rows 50 aj (.sl aM),.rows 50 aj (.sl aM),.rows 50 aj (.sl aM),.rows 50 aj (.sl aM),.rows 50 aj (.sl aM),.rows 3 ai aM]⟩,[]⟩))]⟩
def YK:cu:=cn M' pM
def wP:FT:=⟨⟨[.d nD,.d jt],[]⟩,⟨[.d .bool],[]⟩,dU [(2,(.j ⟨[],[4],⟨[.d .bool],[]⟩,[]⟩))]⟩
def Fg:cu:=cn wP jz
def F6:FT:=⟨⟨[.d ny],[]⟩,⟨[.d kG,.d kG,.d aM],[]⟩,dU [(24,(.j ⟨[34,35],[1,2,3,7,8,36],⟨[.ptr 0 0,.row 1,.row 2,.ptr 3 0,.mp 4,.d aM],[.cells 34 [.d ny],.rows 50 aj (.sl aM),.rows 50 aj (.sl aM),.cells 62 [.d kG,.d kG,.d kG,.d kG,.d kG,.d kG,.d (.sl aM),.d kG,.d (.sl aM)],.mp aM aM]⟩,[.mpt 8 aM aM]⟩)),(41,(.j ⟨[34,35,36],[1,2,3,7,8],⟨[.ptr 0 0,.row 1,.row 2,.ptr 3 0,.mp 4],[.cells 34 [.d ny],.rows 50 aj (.sl aM),.rows 50 aj (.sl aM),.cells 62 [.row 5,.d kG,.d kG,.d kG,.d kG,.d kG,.d (.sl aM),.d kG,.d (.sl aM)],.mp aM aM,.rows 50 aj (.sl aM)]⟩,[.mpt 8 aM aM]⟩))]⟩
def RN:cu:=cn F6 mL
def JJ:FT:=⟨⟨[.d ny],[]⟩,⟨[.d (.sl gj),.d aM],[]⟩,dU [(22,(.j ⟨[4,29,30],[1,7,8,9,31],⟨[.ptr 0 0,.ptr 1 0,.row 2,.row 3,.d aM],Lf6⟩,[.nil 9 57 gj]⟩)),(30,(.j ⟨[4,29,30,31],[1,7,8,9],⟨[.ptr 0 0,.ptr 1 0,.row 2,.row 3],Lf6⟩,[]⟩)),(33,(.j ⟨[4,10,29,30,31],[1,7,8,9,11],⟨Lf5,Lf1⟩,[]⟩)),(34,(.s 11 0 0 4)),(35,(.j ⟨[4,10,29,30,31],[1,7,8,9,11],⟨Lf5,Lf1⟩,[]⟩)),(36,(.s 11 0 0 4)),(46,(.j ⟨[4,10,29,30,31,60,61],[1,7,8,9,11,62],⟨[.ptr 0 0,.ptr 1 0,.row 2,.row 3,.ptr 4 0,.d aM],Lf1⟩,[]⟩)),(54,(.j ⟨[4,10,29,30,31,60,61,62],[1,7,8,9,11],⟨Lf5,Lf1⟩,[]⟩)),(57,(.j ⟨[4,10,12,29,30,31,60,61,62],[1,7,8,9,11,14],⟨Lf8,Lf1⟩,[]⟩)),(59,(.j ⟨[4,10,12,29,30,31,60,61,62],[1,7,8,9,11,107],⟨Lf8,Lf1⟩,[]⟩))]⟩
def U0:cu:=cn JJ mK
def DF:FT:=⟨⟨[],[]⟩,⟨[.d .bool],[]⟩,dU [(6,(.j ⟨[],[0],⟨[.d .bool],[]⟩,[]⟩))]⟩
def Pk:cu:=cn DF tH
def J8:FT:=⟨⟨[.d (.sl gj),.d gj],[]⟩,⟨[.d .bool],[]⟩,dU [(6,(.j ⟨[7,8],[3,9],⟨vV,[.cells 57 [.d gj]]⟩,[]⟩))]⟩
def Vu:cu:=cn J8 um
def yC:FT:=⟨⟨[.d Kf1],[]⟩,⟨[.d .bool],[]⟩,dU [(9,(.j ⟨[4,6],[27],⟨[.d .bool],[]⟩,[]⟩)),(20,(.j ⟨[4,6,28,29],[30],⟨[.d aM],[]⟩,[]⟩)),(31,(.j ⟨[4,6,28,29,30],[46],⟨[.d .bool],[]⟩,[]⟩))]⟩
def Hr:cu:=cn yC lY
theorem XX x:kT (pM x) (Ev x):=by
 unfold pM Ev Ap xd D9 aV bh bw ct dQ iU uV xf Lb Prod.q12 cN eZ nF Ny ck bB v9 bF aY cK cC;with_reducible repeat' first|(refine OI.o ?_;constructor)|intro _
theorem Yd:aI Pg 24 YK:=yd M' pM Ev XX (ac zq (ac Jg (ac Jh (ac F3 (ac MN an))))) b9
theorem EM:aI Pg 33 Fg:=mk wP jz an b9
theorem Qu x:kT (mL x) (za x):=by
 unfold mL za vq aV bh bw cN ck bd bB iF bI kF aY cK aF cC;with_reducible repeat' first|(refine OI.o ?_;constructor)|intro _
theorem QM:aI Pg 9 RN:=yd F6 mL za Qu (ac Ji (ac MO (ac Yd (ac UU (ac zq an))))) b9
theorem T9 x:kT (mK x) (BL x):=by
 unfold mK BL xC aV bh bw ct dQ iU bL dc cN ck bd bB iF bF bI kF aY cK aF cC;with_reducible repeat' first|(refine OI.o ?_;constructor)|intro _
theorem I0:aI Pg 13 U0:=yd JJ mK BL T9 (ac QM (ac EM (ac AX an))) b9
theorem OF:aI Pg 12 Pk:=mk DF tH (ac I0 (ac aek an)) b9
theorem UO:aI Pg 20 Vu:=mk J8 um an b9
theorem hlaw25_ShbFirst:aI Pg 7 Hr:=mk yC lY (ac EO (ac OF (ac I0 (ac Ye (ac UO an))))) b9
theorem run_law {P:Program} {f:FuncId} {pre:Tm} {m:pre.ty.den->Option (Tm.ty ⟨[.d .bool],[]⟩).den} (sp:pU P f ⟨pre,⟨[.d .bool],[]⟩,m⟩) (h0:pre.bs.length=0) {x:pre.ty.den} (M:m x=af ai) {vs:List TV} {hp:bk} (hi:C2 pre x=af (vs,hp)) {la:List AV} (hla:cL hp vs=af la)
 {W:World} {us:List Value} (hg:∀ g cells,G g=af cells->nu (λ_=>False) W (.ptr cells 0) (.pointer (af ⟨g,0,ah⟩))) (hrel:j8 (λ_=>ah) (λ_=>False) W la us):
 Calls P f us.toArray W λe w'=>e= .returned (.bool ai)/\Below W.heap.size W w':=by
 obtain⟨l1,I⟩:=wG hi;obtain⟨l2,J⟩:=wG (t:=⟨[.d .bool],[]⟩) (x:=ai) (vs:=[.f .bool ai]) (h1:=PT.leaf) rfl;have hn:bC hp=λ_=>ah:=by
  funext n;cases hb:bC hp n with
  |none=>rfl
  |some b=>
   obtain⟨i,c,rfl,h1,_⟩:=jC hb;have:=I.lt_len h1;omega
 have own0:∀ (φ:PM) k,¬own φ (bC hp) k:=by rintro φ k ⟨i,b,h1,_⟩;rw[hn] at h1;cases h1
 have htot:tot (λ_=>False) (λ_=>ah) (bC hp)=λ_=>False:=by
  funext k;exact propext ⟨λh=>h.elim id λh=>cV h (own0 _ k),λh=>h.elim⟩
 refine Calls.mono (sp.calls x ai M vs hp l1 _ PT.leaf l2 la _ I J hla rfl (λ_=>ah) (λ_=>False) W us ⟨(λi j b b' k h1=>by rw[hn] at h1;cases h1),(λi b h1=>by rw[hn] at h1;cases h1),(λk h=>h.elim),(λg cells h=>by rw[htot];exact hg g cells h)⟩ (by rw[htot];exact hrel) (λn k h=>by cases h)) ?_;rintro en w' ⟨v,φ',rfl,he,_,_,_,hv⟩;refine ⟨?_,⟨he.os,he.tape,he.output,he.size,λk hk=>he.blk k hk (own0 _ k)⟩⟩;have hv:cM φ' _ w' (.f (.raw (.bool ai))) v:=hv;cases hv with
 |f h=>cases h;rfl
theorem gKw:Tryz.prog.globalNamed "interleave/token.keywords" =af 0:=by kernel_rfl
theorem tKw:(Tryz.prog.globals[0]?).map (·.type)=af 269:=by kernel_rfl
theorem kw_of_laid {W:World} (h:laidMetH Tryz.prog [("interleave/token.keywords",Rows.laid_interleave_token_keywords)] W):∀ g cells,G g=af cells→nu (λ_=>False) W (.ptr cells 0) (.pointer (af ⟨g,0,ah⟩)):=by
 intro g cells U;unfold G at U;split at U
 .rename_i hg;have hg:=eq_of_beq hg;subst hg;cases U;rw[MakeChecks.laidMetH_plain _ _ _ (by kernel_rfl)] at h;obtain⟨ps,⟨g0,t0,cs0,f0,p0,q0,M,Z,Y,hd0,_,_⟩,_,_⟩:=h;obtain rfl:=iV (gKw.symm.trans M);obtain rfl:=iV (tKw.symm.trans Z);obtain⟨xs,m1,rfl,J,hlen,hn,hel⟩:=DataW.trod_array Tryz.underlying269 hd0;have c1:Tryz.prog.cellsOf 9=1:=by kernel_rfl
  have c22:Tryz.prog.cellsOf 269=22:=by kernel_rfl
  rw[c22] at hlen;simp only[aD,Rows.laid_interleave_token_keywords,DataW.agg.injEq] at J;have hxs:=J.1;have hcell:∀ j,j<22→∃ l,(xs.map (·.1))[j]? =af (.lit (.string l))∧W.cell? ⟨0,j,ah⟩=af (.string ⟨l.toArray⟩):=λj hj=>by
   have h1:=hel j hj;rw[c1,Nat.mul_one] at h1;rw[aB (by omega)] at h1;obtain⟨s,e1,e2,_⟩:=DataW.trod_string Tryz.underlying9 h1;refine ⟨s.data.toList,?_,?_⟩
   .rw[a8,aB (by omega),b_,e2]
   .have:=World.var?_cell M Y j;rw[this];have h2:cs0.toList[j]? =af (.string s):=by
     have:((cs0.toList.drop j).take 1)[0]? =af (.string s):=by rw[e1];rfl
     rw[cH,aE (by omega),g_] at this;simpa using this
    rw[← cI,h2]
  have hb:0<W.heap.size:=by
   obtain⟨l,_,h2⟩:=hcell 0 (by omega);exact World.block_lt_of_cell? W _ h2
  refine .ptr CV 0 0 0 (λj=>(W.cell? ⟨0,j,ah⟩).getD undef) (λh=>h) hb (λx I=>?_) (λj hj=>?_) (λj x I=>?_)
  .simp only[CV,bl,cw,gf] at I;rcases I with rfl|rfl|rfl|rfl|rfl|rfl|rfl|rfl|rfl|rfl|rfl|rfl|rfl|rfl|rfl|rfl|rfl|rfl|rfl|rfl|rfl|rfl<;>rfl
  .obtain⟨l,_,h2⟩:=hcell j hj;rw[bO,h2];rfl
  .have hj:j<22:=(bg.1 I).1;obtain⟨l,h1,h2⟩:=hcell j hj;rw[← hxs] at h1;have:x= .raw (.string ⟨l.toArray⟩):=by
    rcases j with _|_|_|_|_|_|_|_|_|_|_|_|_|_|_|_|_|_|_|_|_|_|j;all_goals first|(simp only[qQ,List.getElem?_cons_succ,ak,DataW.lit.injEq,Lit.string.injEq,CV] at h1 I;subst h1;subst I;rfl)|omega
   rw[this,h2];exact .raw _
 .cases U
end
end Go.Proofs.YtgijlolllojpaaaGreatDoor.AI
