/-
  Texts of the proof, part 6 of 6: what is used to prove the statement. No condition.
-/
import Derived.Test.YtgijlolllojpaaaGreatDoorShbClocksQ4
import Derived.Test.YtgijlolllojpaaaGreatDoorRows
import Derived.LaidMore
namespace Go.Proofs.YtgijlolllojpaaaGreatDoor.AI
open Go.RowKit
set_option maxRecDepth 100000
set_option maxHeartbeats 4000000
set_option linter.unusedVariables false
set_option linter.unusedSimpArgs false
open _root_.Bool renaming true→ai,false→aj
open _root_.List renaming getElem?_cons_zero→re
open _root_.Nat renaming beq→aC
open _root_.Option renaming some→af,none→ah,map_some→co
open _root_.Prod renaming p2→aX,p3→bf,p4→bp,q3→bL,p5→ch,q5→cR,q4→dw,p6→dA,q6→fc,p7→jt,q7→kK,q8→nM,p8→vq,p10→xv,p9→xz,p11→Eu,q11→LD,q9→Oi
noncomputable section
abbrev ala:List PV:=[.row 1,.row 2,.row 3,.row 4,.row 5,.row 6,.d (.sl aM),.row 7,.row 8]
abbrev Ld0:List PB:=[.cells 62 ala,.rows 50 aj (.sl aM),.rows 50 aj (.sl aM),.rows 50 aj (.sl aM),.rows 50 aj (.sl aM),.rows 50 aj (.sl aM),.rows 50 aj (.sl aM),.rows 50 aj (.sl aM),.rows 3 ai aM,.rows 3 aj aM]
abbrev Ld4:List PV:=[.d aM,.d aM,.d aM,.d aM,.d aM,.d (.sl aM),.d (.sl aM)]
abbrev Ld3:List PV:=[.d (.sl kE),.d (.sl rY),.d (.sl lZ),.d (.sl .str),.d (.sl .str),.d (.sl o7)]
abbrev Ld1:List PB:=[.cells 52 Ld4,.cells 62 [.row 3,.row 4,.row 5,.row 6,.row 7,.row 8,.d (.sl aM),.row 9,.row 10],.cells 31 Ld3,.rows 50 aj (.sl aM),.rows 50 aj (.sl aM),.rows 50 aj (.sl aM),.rows 50 aj (.sl aM),.rows 50 aj (.sl aM),.rows 50 aj (.sl aM),.rows 50 aj (.sl aM),.rows 3 ai aM]
abbrev Ld2:List PB:=[.cells 62 ala,.rows 50 aj (.sl aM),.rows 50 aj (.sl aM),.rows 50 aj (.sl aM),.rows 50 aj (.sl aM),.rows 50 aj (.sl aM),.rows 50 aj (.sl aM),.rows 50 aj (.sl aM),.rows 3 ai aM,.rows 3 aj aM,.cells 52 Ld4]
abbrev Ld5:List PB:=[.rows 167 aj dZ,.rows 4 ai .bool,.rows 169 ai ib,.cells 94 H0]
abbrev Ld6:List PB:=[.rows 167 aj dZ,.rows 4 ai .bool,.rows 169 ai ib]
abbrev Qs:List PB:=[.rows 3 ai aM]
abbrev Ld8:List PB:=[.cells 97 [.d iV],.cells 52 [.d gA],.cells 216 [.d Kd1]]
abbrev Ld9:List PB:=[.rows 3 ai aM,.cells 3 [.d aM]]
abbrev aov:List PB:=[.cells 31 [.d l7],.cells 94 [.row 4,.d aM,.row 5,.row 6],.cells 3 [.d aM],.cells 94 CD,.rows 167 aj dZ,.rows 4 ai .bool,.rows 169 ai ib]
abbrev MR:List PB:=[.rows 3 aj aM]
abbrev aou:List PB:=[.cells 94 CD,.cells 94 [.row 2,.d aM,.row 3,.row 4],.rows 167 aj dZ,.rows 4 aj .bool,.rows 169 aj ib]
abbrev Qt:List PV:=[.row 0,.d aM]
abbrev ae8:List PB:=[.rows 50 aj (.sl aM)]
abbrev al9:List PB:=[.rows 50 aj (.sl aM),.rows 3 aj aM]
abbrev Z7:List PB:=[.cells 52 [.d gA]]
abbrev ahg:List PV:=[.d (.sl aM),.d (.sl aM)]
abbrev al8:List PV:=[.ptr 0 0,.ptr 1 0,.ptr 2 0]
def NY:FT:=⟨⟨HZ,[]⟩,⟨[.d aM],[]⟩,dJ [(3,(.j ⟨[0,1],[12],⟨[.d .bool],[]⟩,[]⟩))]⟩
def ZK:cq:=cn NY je
def Hf:FT:=⟨⟨ahg,[]⟩,⟨mM,[]⟩,dJ [(8,(.j ⟨[0,1,14],[5,15],⟨Qt,MR⟩,[]⟩))]⟩
def TD:cq:=cn Hf iK
def X1:FT:=⟨⟨HZ,[]⟩,⟨[.d aM],[]⟩,dJ [(3,(.j ⟨[0,1],[12],⟨[.d .bool],[]⟩,[]⟩))]⟩
def agl:cq:=cn X1 xP
def Nz:FT:=⟨⟨ahg,[]⟩,⟨mM,[]⟩,dJ [(8,(.j ⟨[0,1,14],[5,15],⟨Qt,MR⟩,[]⟩))]⟩
def Zm:cq:=cn Nz nQ
def X8:FT:=⟨⟨mM,[]⟩,⟨mM,[]⟩,.leaf⟩
def Ee:cq:=cn X8 OY
def akf:cq:=⟨Ee.pre,Ee.post,xR⟩
def KE:FT:=⟨⟨[.d jY],[]⟩,⟨[.row 0],ae8⟩,dJ [(8,(.j ⟨[9,10],[3,11],⟨Qt,ae8⟩,[]⟩))]⟩
def Wr:cq:=cn KE ip
def SA:FT:=⟨⟨mM,[]⟩,⟨[.row 0],Qs⟩,dJ [(8,(.a [.nil 2 3 aM])),(12,(.a [.nil 2 3 aM]))]⟩
def Ag:cq:=cn SA Jf
def agy:cq:=⟨Ag.pre,Ag.post,pg⟩
def KF:FT:=⟨⟨[.d Kd0],[]⟩,⟨[.agg [.row 0,.row 1,.row 2,.row 3,.row 4,.row 5,.d (.sl aM),.row 6,.row 7]],[.rows 50 aj (.sl aM),.rows 50 aj (.sl aM),.rows 50 aj (.sl aM),.rows 50 aj (.sl aM),.rows 50 aj (.sl aM),.rows 50 aj (.sl aM),.rows 50 aj (.sl aM),.rows 3 ai aM]⟩,.leaf⟩
def Ws:cq:=cn KF rL
def NS:FT:=⟨⟨Qt,ae8⟩,⟨mM,ae8⟩,dJ [(3,(.j ⟨[1],[0,12],⟨[.row 0,.d .bool],ae8⟩,[]⟩))]⟩
def ZD:cq:=cn NS ug
def KH:FT:=⟨⟨al8,Ld1⟩,⟨[.d jY],Ld1⟩,dJ [(18,(.j ⟨[6],[0,1,2,25],⟨FX,Ld1⟩,[]⟩))]⟩
def Wt:cq:=cn KH rM
def NX:FT:=⟨⟨[.d l7],[]⟩,⟨[.d Kd0],[]⟩,dJ [(8,(.j ⟨[40],[2,3,41],⟨wu,[.cells 62 [.nil,.nil,.nil,.nil,.nil,.nil,.nil,.nil,.nil],.cells 62 [.row 2,.row 3,.row 4,.row 5,.row 6,.row 7,.nil,.row 8,.row 9],.rows 50 aj (.sl aM),.rows 50 aj (.sl aM),.rows 50 aj (.sl aM),.rows 50 aj (.sl aM),.rows 50 aj (.sl aM),.rows 50 aj (.sl aM),.rows 50 aj (.sl aM),.rows 3 aj aM]⟩,[]⟩))]⟩
def ZH:cq:=cn NX n_
def He:FT:=⟨⟨HZ,[]⟩,⟨[.row 0],MR⟩,dJ [(4,(.j ⟨[0,1,5],[6],⟨[.d .bool],[]⟩,[]⟩)),(6,(.j ⟨[0,1,6],[5],⟨[.d aM],[]⟩,[]⟩)),(16,(.j ⟨[],[7],⟨[.row 0],MR⟩,[]⟩)),(17,(.j ⟨[1],[7,33],⟨[.row 0,.d .bool],MR⟩,[]⟩))]⟩
def TB:cq:=cn He qb
def xi:FT:=⟨⟨[.row 0],MR⟩,⟨mM,MR⟩,.leaf⟩
def adg:cq:=cn xi wR
def agx:cq:=⟨xi.pre,⟨xi.post.vs,[]⟩,vD⟩
def AG:FT:=⟨⟨[.d (.sl aM),.row 0],MR⟩,⟨mM,MR⟩,dJ [(8,(.j ⟨[0,14],[1,5,15],⟨[.row 0,.row 1,.d aM],[.rows 3 aj aM,.rows 3 aj aM]⟩,[]⟩))]⟩
def agv:cq:=cn AG tV
def ake:cq:=⟨AG.pre,⟨AG.post.vs,[]⟩,Cb⟩
def KC:FT:=⟨⟨[.row 0,.d aM,.row 1],al9⟩,⟨[],al9⟩,dJ [(0,(.j ⟨[1],[0,2,13],⟨[.row 0,.row 1,.d .bool],al9⟩,[]⟩))]⟩
def Wq:cq:=cn KC lM
def St:FT:=⟨⟨[.ptr 0 0,.d aM,.row 9],Ld0⟩,⟨[],Ld0⟩,.leaf⟩
def ad9:cq:=cn St wO
def NT:FT:=⟨⟨[.d l7,.ptr 0 0,.d gA,.row 9],Ld0⟩,⟨[],Ld0⟩,dJ [(6,(.j ⟨[],[],⟨[],Ld0⟩,[]⟩)),(11,(.j ⟨[20],[1,3,4,6,32],⟨[.ptr 0 0,.row 9,.ptr 10 0,.ptr 11 0,.d .bool],[.cells 62 ala,.rows 50 aj (.sl aM),.rows 50 aj (.sl aM),.rows 50 aj (.sl aM),.rows 50 aj (.sl aM),.rows 50 aj (.sl aM),.rows 50 aj (.sl aM),.rows 50 aj (.sl aM),.rows 3 ai aM,.rows 3 aj aM,.cells 31 Ld3,.cells 52 Ld4]⟩,[]⟩)),(48,(.j ⟨[],[1,3,6,129],⟨[.ptr 0 0,.row 9,.ptr 10 0,.d .bool],Ld2⟩,[]⟩)),(59,(.j ⟨[141],[1,3,6,140,142],⟨[.ptr 0 0,.row 9,.ptr 10 0,.row 8,.d aM],Ld2⟩,[]⟩)),(67,(.j ⟨[141,142],[1,3,6,140],⟨[.ptr 0 0,.row 9,.ptr 10 0,.row 8],Ld2⟩,[]⟩))]⟩
def ZF:cq:=cn NT p_
def Su:FT:=⟨⟨[.d l7,.d Kd0,.d gA],[]⟩,⟨[.d Kd0,.row 0],MR⟩,dJ [(14,(.j ⟨[22,23],[3,5,6,7,24],⟨[.ptr 0 0,.ptr 1 0,.ptr 2 0,.ptr 3 0,.d aM],[.cells 31 Ld3,.cells 52 Ld4,.cells 62 [.row 4,.row 5,.row 6,.row 7,.row 8,.row 9,.d (.sl aM),.row 10,.row 11],.cells 50 mM,.rows 50 aj (.sl aM),.rows 50 aj (.sl aM),.rows 50 aj (.sl aM),.rows 50 aj (.sl aM),.rows 50 aj (.sl aM),.rows 50 aj (.sl aM),.rows 50 aj (.sl aM),.rows 3 ai aM]⟩,[]⟩))]⟩
def ada:cq:=cn Su sI
def Ke:FT:=⟨⟨mM,[]⟩,⟨[.row 0],Qs⟩,dJ [(4,(.a [.nil 2 3 aM]))]⟩
def VV:cq:=cn Ke uz
def Nw:FT:=⟨⟨HZ,[]⟩,⟨mM,[]⟩,dJ [(5,(.j ⟨[1],[0,12],⟨[.row 0,.d .bool],Qs⟩,[]⟩)),(14,(.j ⟨[1],[0],⟨[.row 0],Qs⟩,[]⟩)),(23,(.j ⟨[],[0],⟨[.row 0],Qs⟩,[]⟩))]⟩
def Zj:cq:=cn Nw mn
def Sp:FT:=⟨⟨ahg,[]⟩,⟨[.d .bool],[]⟩,dJ [(6,(.j ⟨[0,1],[5],⟨[.d aM],[]⟩,[]⟩))]⟩
def acy:cq:=cn Sp sC
def Ny:FT:=⟨⟨ahg,[]⟩,⟨[.d .bool],[]⟩,dJ [(2,(.j ⟨[],[4],⟨[.d .bool],[]⟩,[]⟩))]⟩
def Zl:cq:=cn Ny uf
def DL:FT:=⟨⟨[.d jY,.d jY],[]⟩,⟨[.d .bool],[]⟩,dJ [(14,(.j ⟨[0,1,12],[13],⟨[.d aM],[]⟩,[]⟩))]⟩
def PN:cq:=cn DL jv
def Kd:FT:=⟨⟨[.d l7,.d aM],[]⟩,⟨[.d aM],[]⟩,dJ [(3,(.j ⟨[1],[2,13],⟨hP,[.cells 31 Ld3]⟩,[]⟩))]⟩
def VU:cq:=cn Kd rA
def Br:FT:=⟨⟨[.d l7,.d gA],[]⟩,⟨[.d aM,.d .bool],[]⟩,dJ [(6,(.j ⟨[7],[2,3,8],⟨ri,[.cells 31 Ld3,.cells 52 Ld4]⟩,[]⟩))]⟩
def Mv:cq:=cn Br oU
def Bp:FT:=⟨⟨[.d l7,.d gA],[]⟩,⟨[.d aM,.d .bool],[]⟩,dJ [(6,(.j ⟨[7],[2,3,8],⟨ri,[.cells 31 Ld3,.cells 52 Ld4]⟩,[]⟩))]⟩
def Mt:cq:=cn Bp oS
def w9:FT:=⟨⟨[.d .str],[]⟩,⟨[.d .bool],[]⟩,dJ [(6,(.j ⟨[0,5],[6],⟨[.d aM],[]⟩,[]⟩))]⟩
def Fy:cq:=cn w9 kY
def Bm:FT:=⟨⟨[.d .str],[]⟩,⟨[.d .bool],[]⟩,dJ [(3,(.j ⟨[0],[16],⟨[.d .bool],[]⟩,[]⟩)),(14,(.j ⟨[],[18],⟨[.ptr 0 0],[.mp lZ .un]⟩,[]⟩)),(24,(.j ⟨[],[18],⟨[.ptr 0 0],[.mp lZ .un]⟩,[]⟩)),(25,(.j ⟨[3,4],[18,23],⟨hP,[.mp lZ .un]⟩,[]⟩)),(29,(.j ⟨[],[18,38],⟨hP,[.mp lZ .un]⟩,[]⟩))]⟩
def Mq:cq:=cn Bm oO
def KJ:FT:=⟨⟨HZ,[]⟩,⟨[.d aM],[]⟩,dJ [(6,(.j ⟨[0,1,7],[8],⟨[.d aM],[]⟩,[]⟩))]⟩
def Wy:cq:=cn KJ rN
def BH:FT:=⟨⟨HZ,[]⟩,⟨[.d .bool],[]⟩,.leaf⟩
def MP:cq:=cn BH kC
def BG:FT:=⟨⟨[.d (.sl aM),.d iN],[]⟩,⟨[.d .bool],[]⟩,.leaf⟩
def MO:cq:=cn BG v_
def yS:FT:=⟨⟨wq,[]⟩,⟨[.d .bool],[]⟩,dJ [(2,(.j ⟨[],[4],⟨[.d .bool],[]⟩,[]⟩))]⟩
def HR:cq:=cn yS s5
def yT:FT:=⟨⟨[.d l7,.d aM,.d .bool],[]⟩,⟨[.d .bool],[]⟩,dJ [(2,(.j ⟨[],[6],⟨[.d .bool],[]⟩,[]⟩))]⟩
def HU:cq:=cn yT s6
def tI:FT:=⟨⟨[.d (.sl kE)],[]⟩,⟨[.d (.sl .str),.d .bool],[]⟩,dJ [(8,(.j ⟨[0],[4,5],⟨Qt,[.rows 9 ai .str]⟩,[.nil 4 9 .str]⟩)),(15,(.j ⟨[0],[4,5],⟨Qt,[.rows 9 ai .str]⟩,[]⟩)),(37,(.j ⟨[0,5],[4,6,49],⟨[.row 0,.ptr 1 0,.d .bool],[.rows 9 ai .str,.cells 123 [.d kE]]⟩,[]⟩)),(48,(.j ⟨[0,5,51],[4,6,52],⟨[.row 0,.ptr 1 0,.d aM],[.rows 9 ai .str,.cells 123 [.d kE]]⟩,[]⟩))]⟩
def Be:cq:=cn tI gZ
def tH:FT:=⟨⟨[.d l7,.d (.sl .str)],[]⟩,⟨[.d .bool],[]⟩,dJ [(10,(.j ⟨[17,18],[2,5,19],⟨T9,Z_⟩,[]⟩)),(27,(.j ⟨[30,31],[2,5,32],⟨T9,Z_⟩,[]⟩)),(50,(.j ⟨[52],[10,51,53],⟨[.mp 0,.row 1,.d aM],[.mp .str .bool,.rows 9 ai .str]⟩,[.mpt 10 .str .bool]⟩)),(62,(.j ⟨[12,52,53],[10,51,64],⟨[.mp 0,.row 1,.d .bool],[.mp .str .bool,.rows 9 ai .str]⟩,[.mpt 10 .str .bool]⟩))]⟩
def Bd:cq:=cn tH dP
def tG:FT:=⟨⟨[.d l7],[]⟩,⟨[.d .bool],[]⟩,dJ [(8,(.j ⟨[8,9],[1,3,4,10],⟨[.ptr 0 0,.d aM,.d aM,.d aM],qj⟩,[]⟩)),(20,(.j ⟨[3,4,8,9,10],[1,6,25],⟨ri,[.cells 31 [.d l7],.cells 127 [.d o7]]⟩,[]⟩)),(27,(.j ⟨[8,9,10],[1,3,4,6],⟨[.ptr 0 0,.d aM,.d aM,.ptr 1 0],[.cells 31 [.d l7],.cells 127 [.d o7]]⟩,[]⟩))]⟩
def Bc:cq:=cn tG gd
def tJ:FT:=⟨⟨[.d l7],[]⟩,⟨[.d .bool],[]⟩,dJ [(3,(.j ⟨[],[1,34],⟨hP,qj⟩,[]⟩)),(11,(.j ⟨[],[1,44],⟨hP,qj⟩,[]⟩)),(21,(.j ⟨[],[1,58],⟨hP,qj⟩,[]⟩)),(32,(.j ⟨[60,61],[1,62],⟨xp,qj⟩,[]⟩))]⟩
def Bf:cq:=cn tJ dQ
def BB:FT:=⟨⟨[.d l7],[]⟩,⟨[.d H3],[]⟩,dJ [(8,(.j ⟨[20],[2,3,21],⟨wu,aou⟩,[]⟩)),(21,(.j ⟨[],[2,3],⟨[.ptr 0 0,.ptr 1 0],aou⟩,[]⟩))]⟩
def MI:cq:=cn BB oW
def vO:FT:=⟨⟨[.d l7],[]⟩,⟨[.d iV],[]⟩,dJ [(8,(.j ⟨[22,23],[2,3,24],⟨wu,[.cells 97 wv,.cells 97 [.d (.sl dZ),.d aM,.d ql,.d (.sl ib),.row 2,.row 3,.row 4],.rows 2 aj aM,.rows 2 aj aM,.rows 3 aj aM]⟩,[]⟩))]⟩
def D9:cq:=cn vO dk
def sU:FT:=⟨⟨[.d ql,.d gA],[]⟩,⟨[.d .bool],[]⟩,dJ [(6,(.j ⟨[0,13],[14],⟨[.d aM],[]⟩,[]⟩)),(20,(.j ⟨[0,13,14,17,18],[19],⟨[.d aM],[]⟩,[]⟩)),(31,(.j ⟨[0,13,14,17,18,19],[37],⟨[.d .bool],[]⟩,[]⟩))]⟩
def Ac:cq:=cn sU cr
def zW:FT:=⟨⟨wq,[]⟩,⟨[.d .bool],[]⟩,dJ [(2,(.j ⟨[],[4],⟨[.d .bool],[]⟩,[]⟩))]⟩
def KY:cq:=cn zW fh
def yO:FT:=⟨⟨[.d l7,.d aM,.d aM],[]⟩,⟨[.d .bool],[]⟩,dJ [(6,(.j ⟨[2,7],[3,8],⟨hP,qj⟩,[]⟩)),(36,(.j ⟨[2,7],[3,18],⟨hP,qj⟩,[]⟩)),(46,(.j ⟨[2,7],[3,26],⟨hP,qj⟩,[]⟩)),(53,(.j ⟨[],[6],⟨[.d .bool],[]⟩,[]⟩)),(56,(.j ⟨[2,7],[3,43],⟨hP,qj⟩,[]⟩)),(71,(.j ⟨[],[6],⟨[.d .bool],[]⟩,[]⟩)),(74,(.j ⟨[2,7],[3,61],⟨hP,qj⟩,[]⟩)),(92,(.j ⟨[2,7],[3,71],⟨hP,qj⟩,[]⟩)),(102,(.j ⟨[2],[3,79],⟨hP,qj⟩,[]⟩))]⟩
def HN:cq:=cn yO mc
def DY:FT:=⟨⟨[.d l7,.d H3],[]⟩,⟨[.d .bool],[]⟩,dJ [(3,(.j ⟨[],[2,31],⟨hP,qj⟩,[]⟩)),(14,(.j ⟨[33,34],[2,35],⟨xp,qj⟩,[]⟩))]⟩
def P4:cq:=cn DY kq
def Bz:FT:=⟨⟨[.d l7,.d H3,.d aM,.d aM,.d aM],[]⟩,⟨[.d .bool],[]⟩,dJ [(15,(.j ⟨[],[10],⟨[.d .bool],[]⟩,[]⟩)),(21,(.j ⟨[],[10],⟨[.d .bool],[]⟩,[]⟩)),(24,(.j ⟨[2,4,11],[5,6,60],⟨ri,WV⟩,[]⟩)),(64,(.j ⟨[2,4,11],[5,6,109],⟨ri,WV⟩,[]⟩)),(81,(.j ⟨[],[10],⟨[.d .bool],[]⟩,[]⟩)),(87,(.j ⟨[],[10],⟨[.d .bool],[]⟩,[]⟩))]⟩
def MG:cq:=cn Bz oV
def yP:FT:=⟨⟨[.d l7,.d H3,.d aM,.d aM,.d aM],[]⟩,⟨[.d .bool],[]⟩,dJ [(3,(.j ⟨[2,3,4],[5,6,30],⟨ri,WV⟩,[]⟩)),(25,(.j ⟨[],[10],⟨[.d .bool],[]⟩,[]⟩)),(29,(.j ⟨[],[10],⟨[.d .bool],[]⟩,[]⟩))]⟩
def HO:cq:=cn yP ji
def wZ:FT:=⟨⟨[.d l7,.d iV],[]⟩,⟨[.d .bool],[]⟩,dJ [(2,(.j ⟨[],[4],⟨[.d .bool],[]⟩,[]⟩))]⟩
def Fw:cq:=cn wZ kX
def uU:FT:=⟨⟨[.d l7,.d gA],[]⟩,⟨[.d .bool],[]⟩,dJ [(3,(.j ⟨[],[2,3,12],⟨ri,[.cells 31 [.d l7],.cells 52 [.d gA]]⟩,[]⟩)),(10,(.j ⟨[],[4],⟨[.d .bool],[]⟩,[]⟩))]⟩
def Cr:cq:=cn uU jH
def qR:FT:=⟨⟨[.d l7,.d iV,.d gA],[]⟩,⟨[.d .bool],[]⟩,dJ [(2,(.j ⟨[],[4,5,7],⟨ri,[.cells 97 [.d iV],.cells 52 [.d gA]]⟩,[]⟩)),(4,(.j ⟨[],[4,5,8],⟨al8,Ld8⟩,[]⟩)),(10,(.j ⟨[51],[4,5,8,52],⟨FY,Ld8⟩,[]⟩)),(22,(.j ⟨[10,51,52],[4,5,8,64],⟨FX,Ld8⟩,[]⟩)),(34,(.j ⟨[51,52,65,66],[4,5,8,11,67],⟨[.ptr 0 0,.ptr 1 0,.ptr 2 0,.d aM,.d aM],Ld8⟩,[]⟩)),(46,(.j ⟨[13,51,52,65,66,67],[4,5,8,83],⟨FX,Ld8⟩,[]⟩))]⟩
def yn:cq:=cn qR fd
def uT:FT:=⟨⟨[.d iV,.d gA],[]⟩,⟨[.d .bool],[]⟩,dJ [(21,(.j ⟨[],[4],⟨[.d .bool],[]⟩,[]⟩)),(24,(.j ⟨[13],[2,3,46],⟨ri,[.cells 97 [.d iV],.cells 52 [.d gA]]⟩,[]⟩)),(43,(.j ⟨[53,54],[3,5,6,55],⟨[.ptr 0 0,.d aM,.d .bool,.d aM],Z7⟩,[]⟩)),(51,(.j ⟨[53,54,55],[3,5,6],⟨[.ptr 0 0,.d aM,.d .bool],Z7⟩,[]⟩)),(54,(.j ⟨[5,6,7,53,54,55],[3,69],⟨hP,Z7⟩,[]⟩)),(62,(.j ⟨[],[4],⟨[.d .bool],[]⟩,[]⟩)),(74,(.j ⟨[94,95],[3,9,96],⟨Ub,Z7⟩,[]⟩)),(82,(.j ⟨[94,95,96],[3,9],⟨xp,Z7⟩,[]⟩)),(85,(.j ⟨[9,94,95,96],[3,109],⟨hP,Z7⟩,[]⟩))]⟩
def Cq:cq:=cn uT gy
def By:FT:=⟨⟨[.d ib,.d aM],[]⟩,⟨[.d .bool],[]⟩,dJ [(2,(.j ⟨[],[4],⟨[.d .bool],[]⟩,[]⟩))]⟩
def MF:cq:=cn By mA
def SD:FT:=⟨⟨[.d ql],[]⟩,⟨[.d ql],[]⟩,.leaf⟩
def Ah:cq:=cn SD Jh
def agz:cq:=⟨Ah.pre,Ah.post,OX⟩
def N3:FT:=⟨⟨[.d ql],[]⟩,⟨[.row 0],[.rows 4 ai .bool]⟩,dJ [(8,(.a [.nil 2 4 .bool])),(12,(.a [.nil 2 4 .bool]))]⟩
def xn:cq:=cn N3 EZ
def adi:cq:=⟨xn.pre,xn.post,Jg⟩
def Sz:FT:=⟨⟨[.d (.sl ib)],[]⟩,⟨[.d (.sl ib)],[]⟩,.leaf⟩
def Af:cq:=cn Sz Je
def agw:cq:=⟨Af.pre,Af.post,OW⟩
def N0:FT:=⟨⟨[.d (.sl ib)],[]⟩,⟨[.row 0],[.rows 169 ai ib]⟩,dJ [(8,(.a [.nil 2 169 ib])),(12,(.a [.nil 2 169 ib]))]⟩
def xl:cq:=cn N0 EX
def adf:cq:=⟨xl.pre,xl.post,Jd⟩
def N2:FT:=⟨⟨mM,[]⟩,⟨[.row 0],[.rows 2 ai aM]⟩,dJ [(8,(.a [.nil 2 2 aM])),(12,(.a [.nil 2 2 aM]))]⟩
def xm:cq:=cn N2 EY
def adh:cq:=⟨xm.pre,xm.post,zC⟩
def BA:FT:=⟨⟨[.d H3],[]⟩,⟨[.agg H0],Ld6⟩,dJ [(8,(.j ⟨[11,12],[1,2,3,13],⟨[.ptr 0 0,.ptr 1 0,.row 2,.d aM],[.cells 94 [.d H3],.cells 94 CD,.rows 167 aj dZ]⟩,[]⟩))]⟩
def MH:cq:=cn BA kB
def zX:FT:=⟨⟨[.agg H0,.d aM,.d aM],Ld6⟩,⟨[.d aM],Ld6⟩,dJ [(8,(.j ⟨[1,2,12],[3,7,11,13],⟨[.ptr 3 0,.d aM,.row 2,.d aM],Ld5⟩,[]⟩)),(16,(.j ⟨[1,2,12,13],[3,7,11],⟨[.ptr 3 0,.d aM,.row 2],Ld5⟩,[]⟩)),(19,(.j ⟨[1,2,7,8,12,13],[3,11,29],⟨[.ptr 3 0,.row 2,.d .bool],Ld5⟩,[]⟩)),(25,(.j ⟨[7],[],⟨[],Ld6⟩,[]⟩))]⟩
def KZ:cq:=cn zX jM
def vP:FT:=⟨⟨[.agg H0,.d aM],Ld6⟩,⟨[.d aM],Ld6⟩,dJ [(8,(.j ⟨[1,10],[2,5,9,11],⟨[.ptr 3 0,.d aM,.row 2,.d aM],Ld5⟩,[]⟩)),(16,(.j ⟨[1,10,11],[2,5,9],⟨[.ptr 3 0,.d aM,.row 2],Ld5⟩,[]⟩))]⟩
def Ea:cq:=cn vP gV
def Aa:FT:=⟨⟨[.d aM],[]⟩,⟨[.d .bool],[]⟩,.leaf⟩
def La:cq:=cn Aa qH
def BF:FT:=⟨⟨wq,[]⟩,⟨[.d .bool],[]⟩,dJ [(2,(.j ⟨[],[4],⟨[.d .bool],[]⟩,[]⟩))]⟩
def MN:cq:=cn BF v9
def xg:FT:=⟨⟨[.d (.int .u64)],[]⟩,⟨[.d aM],[]⟩,.leaf⟩
def FG:cq:=cn xg rJ
def z_:FT:=⟨⟨[.d (.int .u64)],[]⟩,⟨[.d aM],[]⟩,.leaf⟩
def K4:cq:=cn z_ uH
def oz:FT:=⟨⟨[.row 0,.d aM,.d aM],Qs⟩,⟨[],Qs⟩,dJ [(3,(.j ⟨[1,2],[0,6],⟨Qt,Qs⟩,[]⟩)),(15,(.j ⟨[1,2,6],[0,7],⟨Qt,Qs⟩,[]⟩)),(17,(.j ⟨[1,2,6,7],[0,30],⟨[.row 0,.d .bool],Qs⟩,[]⟩))]⟩
def vm:cq:=cn oz fX
def tF:FT:=⟨⟨[.row 0,.d aM,.d aM,.d aM],Qs⟩,⟨[],Qs⟩,dJ [(5,(.j ⟨[],[0,1,2,3,8,9],⟨[.row 0,.d aM,.d aM,.d aM,.d .bool,.d .bool],Qs⟩,[]⟩))]⟩
def Bb:cq:=cn tF jq
def NZ:FT:=⟨⟨[.row 0],Qs⟩,⟨[],Qs⟩,.leaf⟩
def ZL:cq:=cn NZ wQ
def D8:FT:=⟨⟨[.row 0],Qs⟩,⟨[.row 0],Qs⟩,dJ [(14,(.j ⟨[],[0,3],⟨Qt,Qs⟩,[]⟩))]⟩
def Qh:cq:=cn D8 lO
def yQ:FT:=⟨⟨[.d aM,.ptr 0 0],[.cells 3 [.d aM]]⟩,⟨[.d .bool],[.cells 3 [.d aM]]⟩,.leaf⟩
def HP:cq:=cn yQ pf
def Ab:FT:=⟨⟨[.row 0,.clo 136 1 0],Ld9⟩,⟨[.d aM],Ld9⟩,dJ [(6,(.j ⟨[7],[0,1,8],⟨[.row 0,.clo 136 1 0,.d aM],Ld9⟩,[]⟩))]⟩
def Lb:cq:=cn Ab nu
def yU:FT:=⟨⟨[.row 0,.clo 136 1 0],Ld9⟩,⟨[.row 2],[.gone,.cells 3 [.d aM],.rows 3 aj aM]⟩,dJ [(16,(.j ⟨[],[0,1,5,6],⟨[.row 0,.clo 136 1 0,.d aM,.d aM],Ld9⟩,[]⟩)),(24,(.j ⟨[6],[0,1,5],⟨[.row 0,.clo 136 1 0,.d aM],Ld9⟩,[]⟩))]⟩
def HV:cq:=cn yU jk
def nD:FT:=⟨⟨[.d l7,.d H3,.d aM,.d aM,.d aM,.d aM],[]⟩,⟨[.d H3,.d aM,.d .bool],[]⟩,dJ [(17,(.j ⟨[],[7,12,15],⟨wu,[.cells 94 [.row 2,.d aM,.row 3,.row 4],.cells 94 CD,.rows 167 aj dZ,.rows 4 ai .bool,.rows 169 ai ib]⟩,[]⟩)),(26,(.j ⟨[4,5,15,27],[6,7,8,12,42],⟨Al,aov⟩,[]⟩)),(34,(.j ⟨[4,5,15,27],[6,7,8,12,51],⟨Al,aov⟩,[]⟩))]⟩
def K3:cq:=cn nD gW
def zY:FT:=⟨⟨[.d H3],[]⟩,⟨[.agg [.csl 0 2 3,.d aM,.d ql,.d (.sl ib)]],[.cells 167 [.d aM,.row 1,.d aM,.row 2,.d aM,.row 3],.rows 3 ai aM,.rows 3 ai aM,.rows 3 ai aM]⟩,dJ [(7,(.j ⟨[],[1,2,3],⟨[.ptr 0 0,.ptr 1 0,.csl 2 2 3],[.cells 94 [.d H3],.cells 94 CD,.cells 167 [.d aM,.row 3,.d aM,.row 4,.d aM,.row 5],.rows 3 ai aM,.rows 3 ai aM,.rows 3 ai aM]⟩,[.cel 3 1 3 aM,.cel 3 3 3 aM,.cel 3 5 3 aM]⟩)),(8,(.u 4))]⟩
def K0:cq:=cn zY nl
def zZ:FT:=⟨⟨[.d l7,.d H3,.d aM,.d aM,.d aM,.d aM],[]⟩,⟨[.d H3,.d aM,.d .bool],[]⟩,dJ [(17,(.j ⟨[],[7,12,15],⟨wu,[.cells 94 [.csl 2 2 3,.d aM,.d ql,.d (.sl ib)],.cells 94 CD,.cells 167 [.d dZ,.d dZ,.d aM,.row 3],.rowsP 3 aM]⟩,[]⟩)),(26,(.j ⟨[4,5,15,27],[6,7,8,12,42],⟨Al,[.cells 31 [.d l7],.cells 94 [.csl 4 2 3,.d aM,.d ql,.d (.sl ib)],.cells 3 [.d aM],.cells 94 CD,.cells 167 [.d aM,.row 5,.d aM,.row 6,.d aM,.row 7],.rows 3 ai aM,.rows 3 ai aM,.rows 3 ai aM]⟩,[]⟩)),(33,(.s 4 0 0 0)),(34,(.j ⟨[4,5,15,27],[6,7,8,12,51],⟨Al,[.cells 31 [.d l7],.cells 94 [.csl 4 2 3,.d aM,.d ql,.d (.sl ib)],.cells 3 [.d aM],.cells 94 CD,.cells 167 [.d aM,.d (.sl aM),.d aM,.d (.sl aM),.d aM,.row 5],.rows 3 ai aM]⟩,[]⟩)),(41,(.s 4 0 0 0)),(46,(.s 4 0 0 3)),(53,(.s 4 0 0 3)),(74,(.s 4 0 0 0)),(80,(.s 4 0 0 0)),(100,(.a [.pk 7 0 dZ]))]⟩
def K2:cq:=cn zZ lh
def MJ:cq:=cn nD sa
def w7:FT:=⟨⟨[.d l7,.d iV,.d gA],[]⟩,⟨[.d iV,.d .bool],[]⟩,dJ [(3,(.j ⟨[],[3,4,5,6,39],⟨Al,Lx⟩,[]⟩)),(11,(.j ⟨[],[3,4,5,6,70],⟨Al,Lx⟩,[]⟩)),(20,(.j ⟨[],[3,4,5,6,8],⟨[.ptr 0 0,.ptr 1 0,.ptr 2 0,.ptr 3 0,.d aM],Lx⟩,[]⟩)),(41,(.j ⟨[],[5,6,12],⟨al8,alc⟩,[]⟩))]⟩
def Fx:cq:=cn w7 fU
def uX:FT:=⟨⟨[.d ou],[]⟩,⟨wq,[]⟩,dJ [(26,(.j ⟨[27,28],[1,4,5,29],⟨[.ptr 0 0,.ptr 1 0,.csl 2 1 1,.d aM],[.cells 34 [.d ou],.cells 97 [.d iV],.cells 91 [.row 3],.rows 4 ai .bool]⟩,[.cel 5 0 4 .bool]⟩)),(40,(.j ⟨[6,27,28,29],[1,4,5,7,8,53],⟨[.ptr 0 0,.ptr 1 0,.csl 2 1 1,.ptr 3 0,.ptr 4 0,.d .bool],[.cells 34 [.d ou],.cells 97 [.d iV],.cells 91 [.row 5],.cells 52 [.d gA],.cells 97 [.d iV],.rows 4 ai .bool]⟩,[]⟩)),(41,(.s 7 0 0 1)),(47,(.j ⟨[27,28,29],[1,4,5,8],⟨[.ptr 0 0,.ptr 1 0,.csl 2 1 1,.ptr 3 0],[.cells 34 [.d ou],.cells 97 [.d iV],.cells 91 [.row 4],.cells 97 [.d iV],.rows 4 ai .bool]⟩,[]⟩)),(48,(.s 7 0 0 1))]⟩
def Cw:cq:=cn uX ey
def uW:FT:=⟨⟨[.d ou],[]⟩,⟨wq,[]⟩,dJ [(26,(.j ⟨[27,28],[1,4,5,29],⟨[.ptr 0 0,.ptr 1 0,.csl 2 1 2,.d aM],[.cells 34 [.d ou],.cells 97 [.d iV],.cells 91 [.row 3,.row 4],.rows 4 ai .bool,.rows 4 ai .bool]⟩,[.cel 5 0 4 .bool,.cel 5 1 4 .bool]⟩)),(40,(.j ⟨[6,27,28,29],[1,4,5,7,8,53],⟨[.ptr 0 0,.ptr 1 0,.csl 2 1 2,.ptr 3 0,.ptr 4 0,.d .bool],[.cells 34 [.d ou],.cells 97 [.d iV],.cells 91 [.row 5,.row 6],.cells 52 [.d gA],.cells 97 [.d iV],.rows 4 ai .bool,.rows 4 ai .bool]⟩,[]⟩)),(41,(.s 7 0 0 2)),(47,(.j ⟨[27,28,29],[1,4,5,8],⟨[.ptr 0 0,.ptr 1 0,.csl 2 1 2,.ptr 3 0],[.cells 34 [.d ou],.cells 97 [.d iV],.cells 91 [.row 4,.row 5],.cells 97 [.d iV],.rows 4 ai .bool,.rows 4 ai .bool]⟩,[]⟩)),(48,(.s 7 0 0 2))]⟩
def Cv:cq:=cn uW dl
def uV:FT:=⟨⟨[.d ou],[]⟩,⟨wq,[]⟩,dJ [(26,(.j ⟨[27,28],[1,4,5,29],⟨[.ptr 0 0,.ptr 1 0,.csl 2 1 3,.d aM],[.cells 34 [.d ou],.cells 97 [.d iV],.cells 91 [.row 3,.row 4,.row 5],.rows 4 ai .bool,.rows 4 ai .bool,.rows 4 ai .bool]⟩,[.cel 5 0 4 .bool,.cel 5 1 4 .bool,.cel 5 2 4 .bool]⟩)),(40,(.j ⟨[6,27,28,29],[1,4,5,7,8,53],⟨[.ptr 0 0,.ptr 1 0,.csl 2 1 3,.ptr 3 0,.ptr 4 0,.d .bool],[.cells 34 [.d ou],.cells 97 [.d iV],.cells 91 [.row 5,.row 6,.row 7],.cells 52 [.d gA],.cells 97 [.d iV],.rows 4 ai .bool,.rows 4 ai .bool,.rows 4 ai .bool]⟩,[]⟩)),(41,(.s 7 0 0 3)),(47,(.j ⟨[27,28,29],[1,4,5,8],⟨[.ptr 0 0,.ptr 1 0,.csl 2 1 3,.ptr 3 0],[.cells 34 [.d ou],.cells 97 [.d iV],.cells 91 [.row 4,.row 5,.row 6],.cells 97 [.d iV],.rows 4 ai .bool,.rows 4 ai .bool,.rows 4 ai .bool]⟩,[]⟩)),(48,(.s 7 0 0 3))]⟩
def Cu:cq:=cn uV dN
def fe:FT:=⟨⟨[.d ou],[]⟩,⟨wq,[]⟩,dJ [(26,(.j ⟨[27,28],[1,4,5,29],⟨[.ptr 0 0,.ptr 1 0,.csl 2 1 4,.d aM],[.cells 34 [.d ou],.cells 97 [.d iV],.cells 91 [.row 3,.row 4,.row 5,.row 6],.rows 4 ai .bool,.rows 4 ai .bool,.rows 4 ai .bool,.rows 4 ai .bool]⟩,[.cel 5 0 4 .bool,.cel 5 1 4 .bool,.cel 5 2 4 .bool,.cel 5 3 4 .bool]⟩)),(40,(.j ⟨[6,27,28,29],[1,4,5,7,8,53],⟨[.ptr 0 0,.ptr 1 0,.csl 2 1 4,.ptr 3 0,.ptr 4 0,.d .bool],[.cells 34 [.d ou],.cells 97 [.d iV],.cells 91 [.row 5,.row 6,.row 7,.row 8],.cells 52 [.d gA],.cells 97 [.d iV],.rows 4 ai .bool,.rows 4 ai .bool,.rows 4 ai .bool,.rows 4 ai .bool]⟩,[]⟩)),(41,(.s 7 0 0 4)),(47,(.j ⟨[27,28,29],[1,4,5,8],⟨[.ptr 0 0,.ptr 1 0,.csl 2 1 4,.ptr 3 0],[.cells 34 [.d ou],.cells 97 [.d iV],.cells 91 [.row 4,.row 5,.row 6,.row 7],.cells 97 [.d iV],.rows 4 ai .bool,.rows 4 ai .bool,.rows 4 ai .bool,.rows 4 ai .bool]⟩,[]⟩)),(48,(.s 7 0 0 4))]⟩
def Ct:cq:=cn fe eo
def D_:cq:=cn fe mE
def KI:FT:=⟨⟨[.d ou],[]⟩,⟨[.d jY,.d aM],[]⟩,dJ [(20,(.j ⟨[25,26],[1,6,7,27],⟨[.ptr 0 0,.ptr 1 0,.row 2,.d aM],[.cells 34 [.d ou],.cells 62 [.d Kd0],.rows 50 aj (.sl aM)]⟩,[]⟩))]⟩
def Wu:cq:=cn KI pI
def X7:FT:=⟨⟨[],[]⟩,⟨[.d l7],[]⟩,dJ [(8,(.j ⟨[21],[0,1,22],⟨wu,ahp⟩,[.cel 1 5 127 o7]⟩)),(22,(.j ⟨[2,21,22],[0,1,3],⟨wu,ahp⟩,[]⟩))]⟩
def agu:cq:=cn X7 Db
theorem Fj:aI Pg 57 ZK:=mk NY je an b7
theorem Ro x:kJ (iK x) (zw x):=by
 unfold iK zw vL ck bz bB aY cK aF cF;with_reducible repeat' first|(refine OI.o ?_;constructor)|intro _
theorem zI:aI Pg 26 TD:=xx Hf iK zw Ro (ac Fj an) b7
theorem XL:aI Pg 39 agl:=mk X1 xP an b7
theorem YH x:kJ (nQ x) (EP x):=by
 unfold nQ EP Fk ck bz bB aY cK aF cF;with_reducible repeat' first|(refine OI.o ?_;constructor)|intro _
theorem YV:aI Pg 29 Zm:=xx Nz nQ EP YH (ac XL an) b7
theorem ag6:aI Pg 25 Ee:=mk X8 OY an b7
theorem VH:aI Pg 25 akf:= @aI.sub Pg 25 Ee.pre Ee.post OY xR ag6 rfl (λx y h=>rW (b:=8) x y h)
theorem UV x:kJ (ip x) (B6 x):=by
 unfold ip B6 xW ck bz tO bB aY cK aF cF;with_reducible repeat' first|(refine OI.o ?_;constructor)|intro _
theorem VB:aI Pg 84 Wr:=xx KE ip B6 UV (ac VH an) b7
theorem acn:aI Pg 25 Ag:=mk SA Jf an b7
theorem Po:aI Pg 25 agy:= @aI.sub Pg 25 Ag.pre Ag.post Jf pg acn rfl (λx y h=>rW (b:=8) x y h)
theorem JK:aI Pg 52 Ws:=mk KF rL (ac Po (ac VB an)) b7
theorem Y4:aI Pg 54 ZD:=mk NS ug an b7
theorem JL:aI Pg 53 Wt:=mk KH rM (ac Y4 an) b7
theorem YK x:kJ (n_ x) (EU x):=by
 unfold n_ EU AC aX bf bp ch dA jt nM ck bz bB aY cK aF cF;with_reducible repeat' first|(refine OI.o ?_;constructor)|intro _
theorem No:aI Pg 23 ZH:=xx NX n_ EU YK an b7
theorem Gq:aI Pg 55 TB:=mk He qb an b7
theorem acm:aI Pg 25 adg:=mk xi wR an b7
theorem XN:aI Pg 25 agx:= @aI.ro Pg 25 xi.pre xi.post.vs wR vD (acm.holds rfl) rfl (λx _ h=>by rw[show vD x=obind (wR x) λy=>same y.2 x (af y.1) from gM (obind _) (funext λ_=>Q6 ..)]at h;exact h)
theorem afm x:kJ (tV x) (OT x):=by
 unfold tV OT Ir ck bz bB aY cK aF cF;with_reducible repeat' first|(refine OI.o ?_;constructor)|intro _
theorem ag3:aI Pg 26 agv:=xx AG tV OT afm (ac Fj an) b7
theorem acj:aI Pg 26 ake:= @aI.ro Pg 26 AG.pre AG.post.vs tV Cb (ag3.holds rfl) rfl (λx _ h=>by rw[show Cb x=obind (tV x) λy=>same y.2 x.2 (af y.1) from gM (obind _) (funext λ_=>Q6 ..)]at h;exact h)
theorem Vz:aI Pg 85 Wq:=mk KC lM (ac acj an) b7
theorem ach:aI Pg 86 ad9:=mk St wO (ac XN an) b7
theorem YI x:kJ (p_ x) (ER x):=by
 unfold p_ ER AA xv Eu Prod.p12 Prod.p13 Prod.p14 Prod.p15 Prod.p16 Prod.p17 aX bf bp ch dA jt vq xz Prod.q10 Prod.q16 Prod.q17 Prod.q18 cR kK Oi ck bd bz iT tO bB aY cK aF cF;with_reducible repeat' first|(refine OI.o ?_;constructor)|intro _
theorem Nn:aI Pg 56 ZF:=xx NT p_ ER YI (ac XN (ac acj (ac Vz (ac ach an)))) b7
theorem abp x:kJ (sI x) (I_ x):=by
 unfold sI I_ Dv xv Eu aX bf bp ch dA jt vq xz LD Prod.q12 cR fc nM Oi ck bz tO bB aY cK cF;with_reducible repeat' first|(refine OI.o ?_;constructor)|intro _
theorem aci:aI Pg 24 ada:=xx Su sI I_ abp (ac zI (ac JK (ac JL (ac Gq (ac Nn an))))) b7
theorem Vd:aI Pg 61 VV:=mk Ke uz an b7
theorem YG x:kJ (mn x) (EO x):=by
 unfold mn EO Az ck bz iT bB aY cK aF;with_reducible repeat' first|(refine OI.o ?_;constructor)|intro _
theorem YS:aI Pg 31 Zj:=xx Nw mn EO YG (ac Vd an) b7
theorem abk x:kJ (sC x) (I9 x):=by
 unfold sC I9 Du bz aY cK aF cF;with_reducible repeat' first|(refine OI.o ?_;constructor)|intro _
theorem ace:aI Pg 16 acy:=xx Sp sC I9 abk (ac XL an) b7
theorem YU:aI Pg 19 Zl:=mk Ny uf (ac ace an) b7
theorem OL x:kJ (jv x) (xM x):=by
 unfold jv xM tY bz iR tO aY cK aF cF;with_reducible repeat' first|(refine OI.o ?_;constructor)|intro _
theorem Pa:aI Pg 11 PN:=xx DL jv xM OL (ac YU an) b7
theorem Ju:aI Pg 87 VU:=mk Kd rA an b7
theorem L8:aI Pg 59 Mv:=mk Br oU (ac Ju an) b7
theorem L7:aI Pg 60 Mt:=mk Bp oS (ac Ju an) b7
theorem EM x:kJ (kY x) (rz x):=by
 unfold kY rz rR xv Eu Prod.p12 Prod.p13 Prod.p14 Prod.p15 Prod.p16 Prod.p17 Prod.p18 Prod.p19 aX Prod.p20 bf bp ch dA jt vq xz Prod.q21 bz bB cK aF cF;with_reducible repeat' first|(refine OI.o ?_;constructor)|intro _
theorem E8:aI Pg 159 Fy:=xx w9 kY rz EM an b7
theorem LS x:kJ (oO x) (vY x):=by
 unfold oO vY wg bd bz iT bB aY cK aF;with_reducible repeat' first|(refine OI.o ?_;constructor)|intro _
theorem L4:aI Pg 126 Mq:=xx Bm oO vY LS (ac E8 an) b7
theorem UY x:kJ (rN x) (B8 x):=by
 unfold rN B8 ya bd bz bF aY cK aF cF;with_reducible repeat' first|(refine OI.o ?_;constructor)|intro _
theorem VG:aI Pg 191 Wy:=xx KJ rN B8 UY an b7
theorem Mn:aI Pg 160 MP:=mk BH kC (ac VG an) b7
theorem Mm:aI Pg 34 MO:=mk BG v_ (ac Fj an) b7
theorem HC:aI Pg 127 HR:=mk yS s5 an b7
theorem HE:aI Pg 90 HU:=mk yT s6 (ac HC an) b7
theorem AT x:kJ (gZ x) (oD x):=by
 unfold gZ oD oH aX bf bp ch dw fc bd bz iR bB bF aY cK aF cF;with_reducible repeat' first|(refine OI.o ?_;constructor)|intro _
theorem A_:aI Pg 88 Be:=xx tI gZ oD AT an b7
theorem AS x:kJ (dP x) (oC x):=by
 unfold dP oC oG aX bf bp bz bB bF kl aY cK aF cF;with_reducible repeat' first|(refine OI.o ?_;constructor)|intro _
theorem AZ:aI Pg 89 Bd:=xx tH dP oC AS (ac L4 an) b7
theorem AQ x:kJ (gd x) (oB x):=by
 unfold gd oB kP aX bf ch cR bz iR bF aY cK aF cF;with_reducible repeat' first|(refine OI.o ?_;constructor)|intro _
theorem AY:aI Pg 91 Bc:=xx tG gd oB AQ an b7
theorem AU x:kJ (dQ x) (oE x):=by
 unfold dQ oE kQ aX bf ch cR bz bF aY cK aF cF;with_reducible repeat' first|(refine OI.o ?_;constructor)|intro _
theorem kO:aI Pg 64 Bf:=xx tJ dQ oE AU (ac A_ (ac AZ (ac HE (ac AY an)))) b7
theorem LW x:kJ (oW x) (v7 x):=by
 unfold oW v7 wh aX bf bp bL dw cR ck bz bB aY cK aF cF;with_reducible repeat' first|(refine OI.o ?_;constructor)|intro _
theorem Mh:aI Pg 92 MI:=xx BB oW v7 LW an b7
theorem C8 x:kJ (dk x) (qx x):=by
 unfold dk qx qL aX bf bp dw bz bB bF aY cK aF cF;with_reducible repeat' first|(refine OI.o ?_;constructor)|intro _
theorem mF:aI Pg 65 D9:=xx vO dk qx C8 (ac Mh an) b7
theorem zm x:kJ (cr x) (mT x):=by
 unfold cr mT kw dA kK bz iT bB bF aY cK aF cF;with_reducible repeat' first|(refine OI.o ?_;constructor)|intro _
theorem ku:aI Pg 67 Ac:=xx sU cr mT zm an b7
theorem uM:aI Pg 129 KY:=mk zW fh an b7
theorem HB:aI Pg 130 HN:=mk yO mc (ac uM an) b7
theorem OM x:kJ (kq x) (xN x):=by
 unfold kq xN tZ aX bf bp dw bz iR bF aY cK aF cF;with_reducible repeat' first|(refine OI.o ?_;constructor)|intro _
theorem Dp:aI Pg 128 P4:=xx DY kq xN OM (ac uM an) b7
theorem Mf:aI Pg 131 MG:=mk Bz oV (ac Mn an) b7
theorem s7:aI Pg 94 HO:=mk yP ji (ac Dp (ac uM (ac HB (ac Mf an)))) b7
theorem E7:aI Pg 93 Fw:=mk wZ kX (ac Dp an) b7
theorem Cd:aI Pg 95 Cr:=mk uU jH an b7
theorem xL x:kJ (fd x) (lI x):=by
 unfold fd lI jy aX bf bp ch bL dw fc bd bz iT bB bF aY cK aF cF;with_reducible repeat' first|(refine OI.o ?_;constructor)|intro _
theorem xT:aI Pg 96 yn:=xx qR fd lI xL an b7
theorem BX x:kJ (gy x) (po x):=by
 unfold gy po lP aX bf bp ch bL bd bz bF aY cK aF cF;with_reducible repeat' first|(refine OI.o ?_;constructor)|intro _
theorem Cc:aI Pg 97 Cq:=xx uT gy po BX an b7
theorem Bj:aI Pg 166 MF:=mk By mA an b7
theorem acq:aI Pg 161 Ah:=mk SD Jh an b7
theorem ag5:aI Pg 161 agz:= @aI.sub Pg 161 Ah.pre Ah.post Jh OX acq rfl (λx y h=>rW (b:=1) x y h)
theorem Y_:aI Pg 161 xn:=mk N3 EZ an b7
theorem acp:aI Pg 161 adi:= @aI.sub Pg 161 xn.pre xn.post EZ Jg Y_ rfl (λx y h=>rW (b:=1) x y h)
theorem acl:aI Pg 162 Af:=mk Sz Je an b7
theorem ag4:aI Pg 162 agw:= @aI.sub Pg 162 Af.pre Af.post Je OW acl rfl (λx y h=>rW (b:=24) x y h)
theorem Y8:aI Pg 162 xl:=mk N0 EX an b7
theorem ack:aI Pg 162 adf:= @aI.sub Pg 162 xl.pre xl.post EX Jd Y8 rfl (λx y h=>rW (b:=24) x y h)
theorem Y9:aI Pg 99 xm:=mk N2 EY an b7
theorem aco:aI Pg 99 adh:= @aI.sub Pg 99 xm.pre xm.post EY zC Y9 rfl (λx y h=>rW (b:=8) x y h)
theorem LV x:kJ (kB x) (vZ x):=by
 unfold kB vZ sj aX bL ck bz bB bF aY cK cF;with_reducible repeat' first|(refine OI.o ?_;constructor)|intro _
theorem Mg:aI Pg 132 MH:=xx BA kB vZ LV (ac VH (ac acp (ac ack an))) b7
theorem I4 x:kJ (jM x) (uv x):=by
 unfold jM uv qO aX bf bL ck bz iT kl aY cK aF cF;with_reducible repeat' first|(refine OI.o ?_;constructor)|intro _
theorem JE:aI Pg 137 KZ:=xx zX jM uv I4 (ac Bj an) b7
theorem C9 x:kJ (gV x) (qy x):=by
 unfold gV qy mH aX bf bL dw ck bz kl aY cK aF cF;with_reducible repeat' first|(refine OI.o ?_;constructor)|intro _
theorem Do:aI Pg 138 Ea:=xx vP gV qy C9 (ac Bj an) b7
theorem JM:aI Pg 219 La:=mk Aa qH an b7
theorem Ml:aI Pg 198 MN:=mk BF v9 (ac JM an) b7
theorem Fg:aI Pg 202 FG:=mk xg rJ an b7
theorem JI:aI Pg 164 K4:=mk z_ uH (ac Fg an) b7
theorem vi x:kJ (fX x) (j7 x):=by
 unfold fX j7 j8 ck bz kl cK aF cF;with_reducible repeat' first|(refine OI.o ?_;constructor)|intro _
theorem vj:aI Pg 192 vm:=xx oz fX j7 vi (ac Ml an) b7
theorem AO x:kJ (jq x) (oA x):=by
 unfold jq oA oF aX bf bd iT bB aF;with_reducible repeat' first|(refine OI.o ?_;constructor)|intro _
theorem AX:aI Pg 163 Bb:=xx tF jq oA AO (ac vj an) b7
theorem Y7:aI Pg 133 ZL:=mk NZ wQ (ac AX (ac JI an)) b7
theorem OP x:kJ (lO x) (xO x):=by
 unfold lO xO yc bd bz bB kl aY cK aF cF;with_reducible repeat' first|(refine OI.o ?_;constructor)|intro _
theorem Pn:aI Pg 134 Qh:=xx D8 lO xO OP an b7
theorem yE:aI Pg 136 HP:=mk yQ pf an b7
theorem I7 x:kJ (nu x) (uw x):=by
 unfold nu uw uR bz kl aY cK aF cF;with_reducible repeat' first|(refine OI.o ?_;constructor)|intro _
theorem JN:aI Pg 165 Lb:=xx Ab nu uw I7 (ac yE an) b7
theorem Hr x:kJ (jk x) (sZ x):=by
 unfold jk sZ s9 ck bd bz bB kl aY cK aF cF;with_reducible repeat' first|(refine OI.o ?_;constructor)|intro _
theorem HG:aI Pg 135 HV:=xx yU jk sZ Hr (ac yE (ac JN an)) b7
theorem JH:aI Pg 98 K3:=mk nD gW (ac s7 (ac Mg (ac JE (ac Do an)))) b7
def tv2 (t:TypeId):Option Ty:=if aC t 167 then af (.pr .un (.pr .un (.pr .un (.pr .un dZ)))) else b7 t
theorem JF:aI Pg 132 K0:=mk zY nl (ac Po (ac ag5 (ac ag4 an))) tv2
theorem JG:aI Pg 98 K2:=mk zZ lh (ac s7 (ac JF (ac Y7 (ac Pn (ac HG an))))) tv2
theorem Mi:aI Pg 98 MJ:=(aI.orE (pre:=nD.pre) (post:=nD.post) (m:=gW) (m':=lh) rfl JH JG)
theorem od:aI Pg 66 Fx:=mk w7 fU (ac Po (ac E7 (ac s7 (ac Cd (ac xT (ac Cc (ac Mi (ac aco an)))))))) b7
def tv3 (t:TypeId):Option Ty:=if aC t 91 then af (.pr .un (.pr .un ql)) else b7 t
theorem B2 x:kJ (ey x) (pw x):=by
 unfold ey pw lQ aX bf bp bL cR bd bz bB bF aY cK aF cF;with_reducible repeat' first|(refine OI.o ?_;constructor)|intro _
theorem Ch:aI Pg 40 Cw:=xx uX ey pw B2 (ac kO (ac mF (ac od (ac ku an)))) tv3
def tv4 (t:TypeId):Option Ty:=if aC t 91 then af (.pr .un (.pr .un (.pr .un ql))) else b7 t
theorem B1 x:kJ (dl x) (pu x):=by
 unfold dl pu jR aX bf bp ch bL dw fc bd bz bB bF aY cK aF cF;with_reducible repeat' first|(refine OI.o ?_;constructor)|intro _
theorem Cg:aI Pg 40 Cv:=xx uW dl pu B1 (ac kO (ac mF (ac od (ac ku an)))) tv4
def tv5 (t:TypeId):Option Ty:=if aC t 91 then af (.pr .un (.pr .un (.pr .un (.pr .un ql)))) else b7 t
theorem BZ x:kJ (dN x) (pt x):=by
 unfold dN pt jQ aX bf bp ch dA bL cR fc kK bd bz bB bF aY cK aF cF;with_reducible repeat' first|(refine OI.o ?_;constructor)|intro _
theorem Cf:aI Pg 40 Cu:=xx uV dN pt BZ (ac kO (ac mF (ac od (ac ku an)))) tv5
def tv6 (t:TypeId):Option Ty:=if aC t 91 then af (.pr .un (.pr .un (.pr .un (.pr .un (.pr .un ql))))) else b7 t
theorem BY x:kJ (eo x) (pq x):=by
 unfold eo pq jP aX bf bp ch dA jt bL fc kK nM bd bz bB bF aY cK aF cF;with_reducible repeat' first|(refine OI.o ?_;constructor)|intro _
theorem Ce:aI Pg 40 Ct:=xx fe eo pq BY (ac kO (ac mF (ac od (ac ku an)))) tv6
theorem Dk:aI Pg 40 D_:=(aI.orE (pre:=fe.pre) (post:=fe.post) (m:=eo) (m':=(λx=>orE (dN x) ((λx=>orE (dl x) (ey x)) x))) rfl Ce (aI.orE (pre:=fe.pre) (post:=fe.post) (m:=dN) (m':=(λx=>orE (dl x) (ey x))) rfl Cf (aI.orE (pre:=fe.pre) (post:=fe.post) (m:=dl) (m':=ey) rfl Cg Ch)))
theorem UW x:kJ (pI x) (B7 x):=by
 unfold pI B7 xX aX bL ck bz iR bB bF aY cK aF cF;with_reducible repeat' first|(refine OI.o ?_;constructor)|intro _
theorem VD:aI Pg 17 Wu:=xx KI pI B7 UW (ac No (ac aci (ac Dk an))) b7
theorem afl x:kJ (Db x) (OR x):=by
 unfold Db OR Ps aX bf bp ch fc bz bB cK aF cF;with_reducible repeat' first|(refine OI.o ?_;constructor)|intro _
theorem ag2:aI Pg 32 agu:=xx X7 Db OR afl an b7
abbrev Le0:List PB:=[.cells 31 [.d l7],.rows 3 ai aM,.cells 52 [.d gA],.cells 52 [.d gA]]
abbrev Le1:List PB:=[.cells 31 [.d l7],.rows 3 ai aM,.cells 52 [.d gA]]
abbrev Le2:List PV:=[.ptr 0 0,.row 1,.ptr 2 0,.ptr 3 0,.d .bool]
abbrev Le3:List PB:=[.cells 31 [.d l7],.rows 3 ai aM]
abbrev Le4:List PV:=[.d (.sl gA),.d aM]
def Gw:FT:=⟨⟨[.d gA],[]⟩,⟨[.d .bool],[]⟩,dJ [(2,(.j ⟨[],[2],⟨[.d .bool],[]⟩,[]⟩))]⟩
def SK:cq:=cn Gw pV
def Bo:FT:=⟨⟨[.d l7,.d gA],[]⟩,⟨[.d .bool],[]⟩,dJ [(2,(.j ⟨[],[4],⟨[.d .bool],[]⟩,[]⟩))]⟩
def Ms:cq:=cn Bo oR
def Bq:FT:=⟨⟨Le4,[]⟩,⟨[.d aM],[]⟩,dJ [(6,(.j ⟨[0,1],[5],⟨[.d aM],[]⟩,[]⟩))]⟩
def Mu:cq:=cn Bq mo
def Kc:FT:=⟨⟨Le4,[]⟩,⟨[.d aM],[]⟩,dJ [(5,(.j ⟨[0,1,5],[19],⟨[.d .bool],[]⟩,[]⟩)),(16,(.j ⟨[0,1,5],[6],⟨[.d aM],[]⟩,[]⟩)),(25,(.j ⟨[0,1,5,6],[66],⟨[.d .bool],[]⟩,[]⟩))]⟩
def VS:cq:=cn Kc uy
def NA:FT:=⟨⟨[.d l7,.d (.sl gA),.d aM],[]⟩,⟨mM,[]⟩,dJ [(10,(.j ⟨[1,2],[3,7,8,9],⟨[.ptr 0 0,.row 1,.ptr 2 0,.d aM],Le1⟩,[.nil 7 3 aM]⟩)),(21,(.j ⟨[1,2,9],[3,7,8],⟨[.ptr 0 0,.row 1,.ptr 2 0],Le1⟩,[]⟩)),(22,(.j ⟨[1,2,9],[3,7,8,10,25],⟨Le2,Le0⟩,[]⟩)),(26,(.j ⟨[1,2,9],[3,7,8,10,45],⟨Le2,Le0⟩,[]⟩)),(30,(.j ⟨[1,2,9],[3,7,8,10,60],⟨Le2,Le0⟩,[]⟩)),(34,(.j ⟨[1,2,9],[3,7,8,85],⟨[.ptr 0 0,.row 1,.ptr 2 0,.d .bool],Le1⟩,[]⟩)),(40,(.j ⟨[],[7],⟨[.row 0],Qs⟩,[]⟩))]⟩
def Zn:cq:=cn NA wH
def Nx:FT:=⟨⟨[.d l7,.d (.sl gA),.d aM],[]⟩,⟨mM,[]⟩,dJ [(10,(.j ⟨[1,2,8,9],[3,7,10],⟨T9,Le3⟩,[.nil 7 3 aM]⟩)),(18,(.j ⟨[1,2,8,9,10],[3,7],⟨[.ptr 0 0,.row 1],Le3⟩,[]⟩)),(21,(.j ⟨[1,2,8,9,10],[3,7,65],⟨[.ptr 0 0,.row 1,.d .bool],Le3⟩,[]⟩))]⟩
def Zk:cq:=cn Nx wG
theorem Rz:aI Pg 62 SK:=mk Gw pV an b7
theorem L6:aI Pg 36 Ms:=mk Bo oR (ac Rz an) b7
theorem Bi:aI Pg 27 Mu:=mk Bq mo an b7
theorem Vc:aI Pg 58 VS:=mk Kc uy (ac Bi an) b7
theorem YW:aI Pg 28 Zn:=mk NA wH (ac L6 (ac Vc an)) b7
theorem YT:aI Pg 30 Zk:=mk Nx wG (ac L8 (ac L7 an)) b7
abbrev Lf0:List PB:=[.cells 34 [.d ou],.rows 50 ai (.sl aM),.rows 50 ai (.sl aM),.cells 52 [.d gA]]
abbrev Lf1:List PB:=[.cells 34 [.d ou],.cells 74 [.d Kf0],.rows 77 aj iN,.rows 57 ai iN,.cells 52 [.d gA]]
abbrev Lf2:List PV:=[.ptr 0 0,.row 1,.row 2,.ptr 3 0,.d (.sl aM),.d aM]
abbrev Lf3:List PV:=[.ptr 0 0,.row 1,.row 2,.ptr 3 0,.d (.sl aM)]
abbrev Lf5:List PV:=[.ptr 0 0,.ptr 1 0,.row 2,.row 3,.ptr 4 0]
abbrev Lf6:List PB:=[.cells 34 [.d ou],.cells 74 [.d Kf0],.rows 77 aj iN,.rows 57 ai iN]
abbrev Lf8:List PV:=[.ptr 0 0,.ptr 1 0,.row 2,.row 3,.ptr 4 0,.d .bool]
def NU:FT:=⟨⟨[.d l7,.d Kd0,.d gA],[]⟩,⟨[.agg [.row 1,.d jY,.d jY,.d jY,.d jY,.d jY,.d (.sl aM),.d jY,.d (.sl aM)],.row 0],[.rows 3 aj aM,.rows 50 aj (.sl aM)]⟩,dJ [(14,(.j ⟨[22,23],[3,5,6,7,24],⟨[.ptr 0 0,.ptr 1 0,.ptr 2 0,.ptr 3 0,.d aM],[.cells 31 Ld3,.cells 52 Ld4,.cells 62 [.row 4,.row 5,.row 6,.row 7,.row 8,.row 9,.d (.sl aM),.row 10,.row 11],.cells 50 mM,.rows 50 aj (.sl aM),.rows 50 aj (.sl aM),.rows 50 aj (.sl aM),.rows 50 aj (.sl aM),.rows 50 aj (.sl aM),.rows 50 aj (.sl aM),.rows 50 aj (.sl aM),.rows 3 ai aM]⟩,[]⟩))]⟩
def ZG:cq:=cn NU qa
def w_:FT:=⟨⟨[.d l7,.d gA],[]⟩,⟨[.d .bool],[]⟩,dJ [(2,(.j ⟨[],[4],⟨[.d .bool],[]⟩,[]⟩))]⟩
def Fz:cq:=cn w_ nO
def Gt:FT:=⟨⟨[.d ou],[]⟩,⟨[.d jY,.d jY,.d aM],[]⟩,dJ [(24,(.j ⟨[34,35],[1,2,3,7,8,36],⟨[.ptr 0 0,.row 1,.row 2,.ptr 3 0,.mp 4,.d aM],[.cells 34 [.d ou],.rows 50 aj (.sl aM),.rows 50 aj (.sl aM),.cells 62 [.d jY,.d jY,.d jY,.d jY,.d jY,.d jY,.d (.sl aM),.d jY,.d (.sl aM)],.mp aM aM]⟩,[.mpt 8 aM aM]⟩)),(41,(.j ⟨[34,35,36],[1,2,3,7,8],⟨[.ptr 0 0,.row 1,.row 2,.ptr 3 0,.mp 4],[.cells 34 [.d ou],.rows 50 aj (.sl aM),.rows 50 aj (.sl aM),.cells 62 [.row 5,.d jY,.d jY,.d jY,.d jY,.d jY,.d (.sl aM),.d jY,.d (.sl aM)],.mp aM aM,.rows 50 aj (.sl aM)]⟩,[.mpt 8 aM aM]⟩))]⟩
def SE:cq:=cn Gt ly
def Kb:FT:=⟨⟨[.d ou],[]⟩,⟨[.d (.sl iN),.d aM],[]⟩,dJ [(22,(.j ⟨[4,29,30],[1,7,8,9,31],⟨[.ptr 0 0,.ptr 1 0,.row 2,.row 3,.d aM],Lf6⟩,[.nil 9 57 iN]⟩)),(30,(.j ⟨[4,29,30,31],[1,7,8,9],⟨[.ptr 0 0,.ptr 1 0,.row 2,.row 3],Lf6⟩,[]⟩)),(33,(.j ⟨[4,10,29,30,31],[1,7,8,9,11],⟨Lf5,Lf1⟩,[]⟩)),(34,(.s 11 0 0 4)),(35,(.j ⟨[4,10,29,30,31],[1,7,8,9,11],⟨Lf5,Lf1⟩,[]⟩)),(36,(.s 11 0 0 4)),(46,(.j ⟨[4,10,29,30,31,60,61],[1,7,8,9,11,62],⟨[.ptr 0 0,.ptr 1 0,.row 2,.row 3,.ptr 4 0,.d aM],Lf1⟩,[]⟩)),(54,(.j ⟨[4,10,29,30,31,60,61,62],[1,7,8,9,11],⟨Lf5,Lf1⟩,[]⟩)),(57,(.j ⟨[4,10,12,29,30,31,60,61,62],[1,7,8,9,11,14],⟨Lf8,Lf1⟩,[]⟩)),(59,(.j ⟨[4,10,12,29,30,31,60,61,62],[1,7,8,9,11,107],⟨Lf8,Lf1⟩,[]⟩))]⟩
def VQ:cq:=cn Kb ux
def xc:FT:=⟨⟨[.d ou],[]⟩,⟨[.d jY,.d jY],[]⟩,dJ [(4,(.a [.nil 2 50 (.sl aM),.nil 3 50 (.sl aM)])),(6,(.j ⟨[14,15],[1,2,3,16],⟨[.ptr 0 0,.row 1,.row 2,.d aM],[.cells 34 [.d ou],.rows 50 ai (.sl aM),.rows 50 ai (.sl aM)]⟩,[]⟩)),(19,(.j ⟨[4,14,15,16],[1,2,3,5,6],⟨Lf3,Lf0⟩,[]⟩)),(31,(.j ⟨[4,14,15,16,36,37],[1,2,3,5,6,38],⟨Lf2,Lf0⟩,[]⟩)),(48,(.j ⟨[4,14,15,16,54,55],[1,2,3,5,6,56],⟨Lf2,Lf0⟩,[]⟩)),(63,(.j ⟨[14,15,16],[1,2,3,5,6],⟨Lf3,Lf0⟩,[]⟩)),(69,(.j ⟨[14,15,16],[1,2,3,5,6],⟨Lf3,Lf0⟩,[]⟩)),(70,(.j ⟨[14,15,16],[1,2,3,5,6,12],⟨Lf2,Lf0⟩,[]⟩)),(79,(.j ⟨[6,12,14,15,16],[1,2,3,5,100],⟨[.ptr 0 0,.row 1,.row 2,.ptr 3 0,.d .bool],Lf0⟩,[]⟩))]⟩
def FB:cq:=cn xc k_
def D3:FT:=⟨⟨[],[]⟩,⟨[.d .bool],[]⟩,dJ [(6,(.j ⟨[],[0],⟨[.d .bool],[]⟩,[]⟩))]⟩
def Qc:cq:=cn D3 tR
def xh:FT:=⟨⟨[.d Kf1],[]⟩,⟨[.d .bool],[]⟩,dJ [(8,(.j ⟨[],[2],⟨[.d .bool],[]⟩,[]⟩))]⟩
def FI:cq:=cn xh li
theorem YJ x:kJ (qa x) (ES x):=by
 unfold qa ES AB xv Eu aX bf bp ch dA jt vq xz LD Prod.q12 cR fc nM Oi ck bz tO bB aY cK cF;with_reducible repeat' first|(refine OI.o ?_;constructor)|intro _
theorem Y5:aI Pg 24 ZG:=xx NU qa ES YJ (ac zI (ac JK (ac JL (ac Gq (ac Nn an))))) b7
theorem E9:aI Pg 33 Fz:=mk w_ nO an b7
theorem Rk x:kJ (ly x) (zu x):=by
 unfold ly zu vK aX bf bp cR ck bd bz iR bF kl aY cK aF cF;with_reducible repeat' first|(refine OI.o ?_;constructor)|intro _
theorem Gg:aI Pg 9 SE:=xx Gt ly zu Rk (ac VD (ac No (ac Y5 (ac VH (ac zI an))))) b7
theorem UT x:kJ (ux x) (B4 x):=by
 unfold ux B4 Cj aX bf bp ch dA jt bL dw cR ck bd bz iR bB bF kl aY cK aF cF;with_reducible repeat' first|(refine OI.o ?_;constructor)|intro _
theorem U':aI Pg 13 VQ:=xx Kb ux B4 UT (ac Gg (ac E9 (ac Mm an))) b7
theorem Fa:aI Pg 10 FB:=mk xc k_ (ac Bi (ac YW (ac YV (ac YT (ac YS an))))) b7
theorem Pm:aI Pg 12 Qc:=mk D3 tR (ac U' (ac ag2 an)) b7
theorem hlaw25_ShbClocks:aI Pg 3 FI:=mk xh li (ac E_ (ac Gg (ac Fa (ac Pa (ac Pm an))))) b7
theorem run_law {P:Program} {f:FuncId} {pre:Tm} {m:pre.ty.den->Option (Tm.ty ⟨[.d .bool],[]⟩).den} (sp:qf P f ⟨pre,⟨[.d .bool],[]⟩,m⟩) (h0:pre.bs.length=0) {x:pre.ty.den} (M:m x=af ai) {vs:List TV} {hp:bi} (hi:Dj pre x=af (vs,hp)) {la:List AV} (hla:cU hp vs=af la)
 {W:World} {us:ξ} (hg:∀g cells,G g=af cells->nF (λ_=>False) W (.ptr cells 0) (.pointer (af ⟨g,0,ah⟩))) (hrel:j9 (λ_=>ah) (λ_=>False) W la us):
 Calls P f us.toArray W λe w'=>e= .returned (.bool ai)/\Below W.heap.size W w':=by
 obtain⟨l1,I⟩:=wT hi;obtain⟨l2,J⟩:=wT (t:=⟨[.d .bool],[]⟩) (x:=ai) (vs:=[.f .bool ai]) (h1:=PT.leaf) rfl;have hn:bC hp=λ_=>ah:=by
  funext n;cases hb:bC hp n with
  |none=>rfl
  |some b=>
   obtain⟨i,c,rfl,h1,_⟩:=jE hb;have:=I.lt_len h1;omega
 have own0:∀(φ:PM) k,¬own φ (bC hp) k:=by rintro φ k ⟨i,b,h1,_⟩;rw[hn]at h1;cases h1
 have htot:tot (λ_=>False) (λ_=>ah) (bC hp)=λ_=>False:=by
  funext k;exact propext ⟨λh=>h.elim id λh=>cY h (own0 _ k),λh=>h.elim⟩
 refine Calls.mono (sp.calls x ai M vs hp l1 _ PT.leaf l2 la _ I J hla rfl (λ_=>ah) (λ_=>False) W us ⟨(λi j b b' k h1=>by rw[hn]at h1;cases h1),(λi b h1=>by rw[hn]at h1;cases h1),(λk h=>h.elim),(λg cells h=>by rw[htot];exact hg g cells h)⟩ (by rw[htot];exact hrel) (λn k h=>by cases h)) ?_;rintro en w' ⟨v,φ',rfl,he,_,_,_,hv⟩;refine ⟨?_,⟨he.os,he.tape,he.output,he.size,λk hk=>he.blk k hk (own0 _ k)⟩⟩;have hv:cW φ' _ w' (.f (.raw (.bool ai))) v:=hv;cases hv with
 |f h=>cases h;rfl
theorem gKw:Tryz.prog.globalNamed "interleave/token.keywords" =af 0:=by kernel_rfl
theorem tKw:(Tryz.prog.globals[0]?).map (·.type)=af 269:=by kernel_rfl
theorem kw_of_laid {W:World} (h:laidMetH Tryz.prog [("interleave/token.keywords",Rows.laid_interleave_token_keywords)] W):∀g cells,G g=af cells→nF (λ_=>False) W (.ptr cells 0) (.pointer (af ⟨g,0,ah⟩)):=by
 intro g cells U;unfold G at U;split at U
 .rename_i hg;have hg:=eq_of_beq hg;subst hg;cases U;rw[MakeChecks.laidMetH_plain _ _ _ (by kernel_rfl)]at h;obtain⟨ps,⟨g0,t0,cs0,f0,p0,q0,M,Z,Y,hd0,_,_⟩,_,_⟩:=h;obtain rfl:=jZ (gKw.symm.trans M);obtain rfl:=jZ (tKw.symm.trans Z);obtain⟨xs,m1,rfl,J,hlen,hn,hel⟩:=DataW.trod_array Tryz.underlying269 hd0;have c1:Tryz.prog.cellsOf 9=1:=by kernel_rfl
  have c22:Tryz.prog.cellsOf 269=22:=by kernel_rfl
  rw[c22]at hlen;simp only[aE,Rows.laid_interleave_token_keywords,DataW.agg.injEq]at J;have hxs:=J.1;have hcell:∀j,j<22→∃l,(xs.map (·.1))[j]? =af (.lit (.string l))∧W.cell? ⟨0,j,ah⟩=af (.string ⟨l.toArray⟩):=λj hj=>by
   have h1:=hel j hj;rw[c1,Nat.mul_one]at h1;rw[aB (by omega)]at h1;obtain⟨s,e1,e2,_⟩:=DataW.trod_string Tryz.underlying9 h1;refine ⟨s.data.toList,?_,?_⟩
   .rw[bc,aB (by omega),co,e2]
   .have:=World.var?_cell M Y j;rw[this];have h2:cs0.toList[j]? =af (.string s):=by
     have:((cs0.toList.drop j).take 1)[0]? =af (.string s):=by rw[e1];rfl
     rw[cZ,aD (by omega),gY]at this;simpa using this
    rw[← cP,h2]
  have hb:0<W.heap.size:=by
   obtain⟨l,_,h2⟩:=hcell 0 (by omega);exact World.block_lt_of_cell? W _ h2
  refine .ptr Dd 0 0 0 (λj=>(W.cell? ⟨0,j,ah⟩).getD undef) (λh=>h) hb (λx I=>?_) (λj hj=>?_) (λj x I=>?_)
  .simp only[Dd,bm,cD,gh]at I;rcases I with rfl|rfl|rfl|rfl|rfl|rfl|rfl|rfl|rfl|rfl|rfl|rfl|rfl|rfl|rfl|rfl|rfl|rfl|rfl|rfl|rfl|rfl<;>rfl
  .obtain⟨l,_,h2⟩:=hcell j hj;rw[bQ,h2];rfl
  .have hj:j<22:=(bl.1 I).1;obtain⟨l,h1,h2⟩:=hcell j hj;rw[← hxs]at h1;have:x= .raw (.string ⟨l.toArray⟩):=by
    rcases j with _|_|_|_|_|_|_|_|_|_|_|_|_|_|_|_|_|_|_|_|_|_|j;all_goals first|(simp only[re,List.getElem?_cons_succ,ak,DataW.lit.injEq,Lit.string.injEq,Dd]at h1 I;subst h1;subst I;rfl)|omega
   rw[this,h2];exact .raw _
 .cases U
end
end Go.Proofs.YtgijlolllojpaaaGreatDoor.AI
