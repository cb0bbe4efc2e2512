/-
  Texts of the proof, part 6 of 6: what is used to prove the statement. No condition.
-/
import Derived.Test.YtloaobgmjdjhhaaGreatDoorEpochShadowsQ4
import Derived.Test.YtloaobgmjdjhhaaGreatDoorRows
import Derived.LaidMore
namespace Go.Proofs.YtloaobgmjdjhhaaGreatDoor.AI
open Go.RowKit
set_option maxRecDepth 100000
set_option maxHeartbeats 4000000
set_option linter.unusedVariables false
set_option linter.unusedSimpArgs false
open _root_.Bool renaming true→J,false→af
open _root_.List renaming getElem?_cons_zero→l8
open _root_.Nat renaming beq→aB
open _root_.Option renaming some→M,none→D,map_some→ct
open _root_.Prod renaming p2→aY,p3→bi,p4→bu,q3→bO,p5→cF,q5→cY,q4→dG,p6→dZ,q6→fH,q7→ky,p7→kY,q8→qJ,p8→AG,p9→C7,p10→EW
noncomputable section
abbrev vJ:Y PV:=[.d aL,.d aL,.d aL,.d aL,.d aL,.nil,.nil]
abbrev wI:Y PV:=[.nil,.d aL,.nil,.nil,.nil,.nil,.nil]
abbrev aky:Y PV:=[.ptr 1 0,.d aL,.d aL,.d .bool,.d .bool,.d .bool,.d .bool,.row 4]
abbrev al2:Y PV:=[.d aL,.d aL,.d .str,.d .str,.nil,.d aL,.d aL,.d .str,.nil,.nil,.nil]
abbrev La2:Y PB:=[.cells 214 aky,.cells 90 [.d zq],.gone,.cells 220 al2,.rowsP 9 .str]
abbrev OT:Y PV:=[.ptr 0 0,.ptr 1 0,.ptr 2 0,.ptr 3 0,.ptr 4 0,.ptr 5 0,.ptr 6 0,.ptr 7 0,.d .bool]
abbrev La4:Y PB:=[.cells 206 [.d (.sl kX),.d (.sl sA),.d (.sl mn),.d (.sl .str),.d (.sl .str),.d (.sl qe),.d (.sl .str),.row 2,.d aL,.d aL],.gone,.rows 210 J rF]
abbrev La5:Y PB:=[.cells 206 [.d (.sl kX),.d (.sl sA),.d (.sl mn),.d (.sl .str),.d (.sl .str),.d (.sl qe),.d (.sl .str),.row 1,.d aL,.d aL],.rows 210 J rF]
abbrev La6:Y PV:=[.d aL,.row 11,.row 12,.d aL]
abbrev La7:Y PB:=[.cells 159 [.nil,.nil],.cells 214 [.ptr 5 0,.d aL,.d aL,.d .bool,.d .bool,.d .bool,.d .bool,.row 6],.cells 159 [.d (.sl HK),.row 7],.rows 9 af .str,.cells 204 [.d .str,.d aL,.row 8,.row 9],.cells 90 [.d zq],.rowsP 9 .str,.rows 204 J tR,.rows 9 af .str,.rows 220 J .sm]
abbrev La8:Y PB:=[.cells 245 [.d (.sl HK),.d (.sl tR),.d aL,.row 1,.row 6,.row 7],.rowsP 220 .sm,.gone,.gone,.cells 220 [.d .sm],.cells 159 [.d OU],.rows 9 J .str,.rows 9 J .str]
abbrev La9:Y PV:=[.d (.sl eC),.d aL,.d qI,.d (.sl ip),.row 8,.row 9,.csl 10 4 4]
abbrev ajc:Y PB:=[.cells 107 [.d (.sl eC),.d aL,.d qI,.d (.sl ip),.row 6,.row 7,.csl 8 4 4],.cells 162 [.d jB],.cells 107 wI,.cells 57 vJ,.cells 57 [.d gX],.cells 197 [.d fd],.rows 2 J aL,.rows 2 J aL,.cells 197 [.d fd,.d fd,.d fd,.d fd]]
abbrev akz:Y PV:=[.ptr 1 0,.d aL,.d aL,.d .bool,.d .bool,.d .bool,.d .bool,.row 2]
abbrev Q5:Y PV:=[.d EQ,.d aL]
abbrev XH:Y PB:=[.cells 214 akz,.cells 90 Q5,.rowsP 9 .str]
abbrev No:Y PV:=[.ptr 0 0,.ptr 1 0,.ptr 2 0,.ptr 3 0,.ptr 4 0,.ptr 5 0,.ptr 6 0,.ptr 7 0,.d aL]
abbrev ane:Y PV:=[.d (.sl eC),.d aL,.d qI,.d (.sl ip),.row 8,.row 9,.csl 10 4 3]
abbrev anz:Y PB:=[.cells 112 [.d vz],.cells 107 ane,.cells 162 [.d jB],.cells 107 wI,.cells 57 vJ,.cells 57 [.d gX],.cells 197 La6,.cells 210 [.d rF],.rows 2 J aL,.rows 2 J aL,.cells 197 [.d aL,.row 11,.row 12,.d aL,.d fd,.d fd],.rows 2 J aL,.rows 36 J (.sl aL)]
abbrev anx:Y PB:=[.cells 112 [.d vz],.cells 107 ane,.cells 162 [.d jB],.cells 107 wI,.cells 57 vJ,.cells 57 [.d gX],.cells 197 La6,.cells 210 [.d rF],.rows 2 J aL,.rows 2 J aL,.cells 197 [.d fd,.d aL,.row 11,.row 12,.d aL,.d fd],.rows 2 J aL,.rows 36 J (.sl aL)]
abbrev anw:Y PB:=[.cells 112 [.d vz],.cells 107 ane,.cells 162 [.d jB],.cells 107 wI,.cells 57 vJ,.cells 57 [.d gX],.cells 197 La6,.cells 210 [.d rF],.rows 2 J aL,.rows 2 J aL,.cells 197 [.d fd,.d fd,.d aL,.row 11,.row 12,.d aL],.rows 2 J aL,.rows 36 J (.sl aL)]
abbrev al1:Y PV:=[.d (.sl eC),.d aL,.d qI,.d (.sl ip),.row 8,.row 9,.csl 10 4 2]
abbrev anv:Y PB:=[.cells 112 [.d vz],.cells 107 al1,.cells 162 [.d jB],.cells 107 wI,.cells 57 vJ,.cells 57 [.d gX],.cells 197 La6,.cells 210 [.d rF],.rows 2 J aL,.rows 2 J aL,.cells 197 [.d aL,.row 11,.row 12,.d aL,.d fd],.rows 2 J aL,.rows 36 J (.sl aL)]
abbrev anu:Y PB:=[.cells 112 [.d vz],.cells 107 al1,.cells 162 [.d jB],.cells 107 wI,.cells 57 vJ,.cells 57 [.d gX],.cells 197 La6,.cells 210 [.d rF],.rows 2 J aL,.rows 2 J aL,.cells 197 [.d fd,.d aL,.row 11,.row 12,.d aL],.rows 2 J aL,.rows 36 J (.sl aL)]
abbrev ab7:Y PB:=[.cells 245 [.d (.sl HK),.d (.sl tR),.d aL,.row 1,.row 4,.row 5],.rowsP 220 .sm,.gone,.gone,.rows 9 J .str,.rows 9 J .str]
abbrev Nn:Y PV:=[.ptr 0 0,.ptr 1 0,.ptr 2 0,.ptr 3 0,.ptr 4 0,.ptr 5 0,.ptr 6 0,.d .bool]
abbrev hP:Y PV:=[.ptr 0 0,.d .bool]
abbrev ab6:Y PB:=[.cells 245 [.d (.sl HK),.d (.sl tR),.d aL,.row 1,.row 2,.row 3],.rowsP 220 .sm,.rows 9 J .str,.rows 9 J .str]
abbrev ant:Y PB:=[.cells 112 [.d vz],.cells 107 [.d (.sl eC),.d aL,.d qI,.d (.sl ip),.row 8,.row 9,.csl 10 4 1],.cells 162 [.d jB],.cells 107 wI,.cells 57 vJ,.cells 57 [.d gX],.cells 197 La6,.cells 210 [.d rF],.rows 2 J aL,.rows 2 J aL,.cells 197 La6,.rows 2 J aL,.rows 36 J (.sl aL)]
abbrev Nm:Y PV:=[.ptr 0 0,.ptr 1 0,.ptr 2 0,.ptr 3 0,.ptr 4 0,.ptr 5 0,.ptr 6 0]
abbrev ans:Y PB:=[.cells 112 [.d vz],.cells 107 La9,.cells 162 [.d jB],.cells 107 wI,.cells 57 vJ,.cells 57 [.d gX],.cells 197 La6,.cells 210 [.d rF],.rows 2 J aL,.rows 2 J aL,.cells 197 [.d aL,.row 11,.row 12,.d aL,.d fd,.d fd,.d fd],.rows 2 J aL,.rows 36 J (.sl aL)]
abbrev anr:Y PB:=[.cells 112 [.d vz],.cells 107 La9,.cells 162 [.d jB],.cells 107 wI,.cells 57 vJ,.cells 57 [.d gX],.cells 197 La6,.cells 210 [.d rF],.rows 2 J aL,.rows 2 J aL,.cells 197 [.d fd,.d aL,.row 11,.row 12,.d aL,.d fd,.d fd],.rows 2 J aL,.rows 36 J (.sl aL)]
abbrev anq:Y PB:=[.cells 112 [.d vz],.cells 107 La9,.cells 162 [.d jB],.cells 107 wI,.cells 57 vJ,.cells 57 [.d gX],.cells 197 La6,.cells 210 [.d rF],.rows 2 J aL,.rows 2 J aL,.cells 197 [.d fd,.d fd,.d aL,.row 11,.row 12,.d aL,.d fd],.rows 2 J aL,.rows 36 J (.sl aL)]
abbrev anp:Y PB:=[.cells 112 [.d vz],.cells 107 La9,.cells 162 [.d jB],.cells 107 wI,.cells 57 vJ,.cells 57 [.d gX],.cells 197 La6,.cells 210 [.d rF],.rows 2 J aL,.rows 2 J aL,.cells 197 [.d fd,.d fd,.d fd,.d aL,.row 11,.row 12,.d aL],.rows 2 J aL,.rows 36 J (.sl aL)]
abbrev LV:Y PB:=[.cells 31 [.d mP],.cells 99 [.d ja],.cells 57 [.d gX],.cells 99 wI]
abbrev Nl:Y PV:=[.ptr 0 0,.ptr 1 0,.ptr 2 0,.ptr 3 0,.ptr 4 0,.ptr 5 0]
abbrev ano:Y PB:=[.cells 107 [.d (.sl eC),.d aL,.d qI,.d (.sl ip),.row 6,.row 7,.csl 8 4 3],.cells 162 [.d jB],.cells 107 wI,.cells 57 vJ,.cells 57 [.d gX],.cells 197 [.d fd],.rows 2 J aL,.rows 2 J aL,.cells 197 [.d fd,.d fd,.d fd]]
abbrev UG:Y PV:=[.d (.sl eC),.d aL,.d qI,.d (.sl ip),.row 7,.row 8,.csl 9 4 4]
abbrev qH:Y PV:=[.ptr 0 0,.ptr 1 0,.d .bool]
abbrev AC:Y PV:=[.ptr 0 0,.ptr 1 0,.ptr 2 0,.ptr 3 0,.d .bool]
abbrev aj5:Y PV:=[.nil,.nil,.nil,.nil,.nil,.nil]
abbrev ann:Y PB:=[.cells 159 [.d OU],.cells 31 aj5,.cells 31 [.row 4,.row 5,.row 6,.row 7,.nil,.nil],.cells 248 [.d HK],.rows 60 J kX,.rows 137 J sA,.rows 130 J mn,.rows 9 J .str]
abbrev afo:Y PV:=[.nil,.nil,.nil,.nil,.nil,.nil,.nil]
abbrev aqu:Y PV:=[.d (.sl kX),.d (.sl sA),.d (.sl mn),.d (.sl .str),.d (.sl .str),.d (.sl qe),.row 5]
abbrev ar7:Y PB:=[.cells 159 [.d OU],.cells 112 afo,.cells 112 aqu,.cells 206 [.d (.sl kX),.d (.sl sA),.d (.sl mn),.d (.sl .str),.d (.sl .str),.d (.sl qe),.d (.sl .str),.row 6,.d aL,.d aL],.cells 193 [.d aL,.row 6],.rows 193 J xI,.rows 210 J rF]
abbrev Im:Y PV:=[.row 0,.d aL,.row 1,.row 2]
abbrev anm:Y PB:=[.cells 90 [.d zq],.cells 99 [.d ja],.cells 31 [.d mP],.rows 57 J gX,.cells 36 [.row 5,.row 6,.row 7,.row 8],.rows 3 J aL,.rows 3 J aL,.rows 3 J aL,.rows 3 J aL]
abbrev Gg:Y PV:=[.ptr 0 0,.ptr 1 0,.ptr 2 0,.d aL]
abbrev LU:Y PV:=[.d aL,.d (.sl aL),.d vK,.d aL]
abbrev ab5:Y PV:=[.d (.sl eC),.d aL,.d qI,.d (.sl ip),.row 7,.row 8,.csl 9 4 3]
abbrev anl:Y PB:=[.cells 90 [.d zq],.cells 99 [.d ja],.cells 31 [.d mP],.cells 36 [.row 4,.row 5,.row 6,.row 7],.rows 3 J aL,.rows 3 J aL,.rows 3 J aL,.rows 3 J aL]
abbrev CZ:Y PV:=[.ptr 0 0,.ptr 1 0,.ptr 2 0,.d .bool]
abbrev yG:Y PV:=[.ptr 0 0,.ptr 1 0,.d aL]
abbrev LS:Y PV:=[.d aL,.row 10,.row 11,.d aL]
abbrev aj4:Y PV:=[.d aL,.row 0,.row 1,.d aL]
abbrev Y5:Y PV:=[.d aL,.nil,.nil,.d aL]
abbrev ank:Y PB:=[.rows 2 J aL,.rows 36 J (.sl aL),.cells 210 [.d rF],.cells 197 aj4,.cells 197 Y5]
abbrev anj:Y PB:=[.cells 245 [.d (.sl HK),.d (.sl tR),.d aL,.row 4,.row 5,.row 6],.gone,.gone,.gone,.rowsP 220 .sm,.rows 9 J .str,.rows 9 J .str]
abbrev CY:Y PV:=[.nil,.d aL,.nil,.nil]
abbrev ani:Y PB:=[.cells 96 [.row 2,.d aL,.row 3,.row 4],.cells 96 CY,.rows 176 J eC,.rows 4 J .bool,.rows 178 J ip]
abbrev LR:Y PV:=[.ptr 0 0,.ptr 3 0,.d .bool]
abbrev ar6:Y PB:=[.cells 107 [.d (.sl eC),.d aL,.d qI,.d (.sl ip),.row 6,.row 7,.csl 8 4 2],.cells 162 [.d jB],.cells 107 wI,.cells 57 vJ,.cells 57 [.d gX],.cells 197 [.d fd],.rows 2 J aL,.rows 2 J aL,.cells 197 [.d fd,.d fd]]
abbrev ar5:Y PB:=[.cells 34 afo,.cells 90 [.d zq],.cells 34 aqu,.cells 99 [.d ja],.rows 57 af gX,.rows 57 J gX]
abbrev qG:Y PB:=[.cells 31 [.d mP]]
abbrev ar4:Y PB:=[.cells 90 [.d zq],.cells 99 [.d ja],.cells 31 [.d mP],.rows 57 J gX,.cells 36 [.row 7,.row 8,.row 9,.row 10],.cells 57 [.d gX],.cells 99 [.d ja],.rows 3 J aL,.rows 3 J aL,.rows 3 J aL,.rows 3 J aL]
abbrev ar3:Y PB:=[.cells 31 aj5,.cells 31 [.row 2,.row 3,.row 4,.row 5,.row 6,.row 7],.rows 60 af kX,.rows 137 af sA,.rows 130 af mn,.rows 9 af .str,.rows 9 af .str,.rows 139 J qe]
abbrev xH:Y PV:=[.ptr 0 0,.d aL]
abbrev afn:Y PV:=[.row 2,.row 3,.row 4,.row 5]
abbrev ar2:Y PB:=[.cells 90 [.d zq],.cells 36 afn,.rows 3 J aL,.rows 3 J aL,.rows 3 J aL,.rows 3 J aL,.cells 57 vJ,.cells 57 [.d aL,.d aL,.d aL,.d aL,.d aL,.d (.sl aL),.nil]]
abbrev ajb:Y PV:=[.d (.sl eC),.d aL,.d qI,.d (.sl ip),.row 7,.row 8,.csl 9 4 2]
abbrev Nk:Y PV:=[.d wJ,.d gX,.d .bool]
abbrev ar1:Y PB:=[.cells 90 [.d zq],.cells 36 afn,.rows 3 J aL,.rows 3 J aL,.rows 3 J aL,.rows 3 J aL,.cells 99 [.d ja],.cells 31 [.d mP],.cells 57 vJ,.cells 57 vJ]
abbrev ar0:Y PB:=[.cells 159 [.d OU],.cells 31 aj5,.cells 31 [.row 3,.row 4,.row 5,.row 6,.nil,.nil],.rows 60 J kX,.rows 137 J sA,.rows 130 J mn,.rows 9 J .str]
abbrev anh:Y PV:=[.d (.sl eC),.d aL,.d qI,.d (.sl ip),.row 3,.row 4,.row 5]
abbrev Nj:Y PV:=[.d vz,.d wJ,.d jB]
abbrev ang:Y PB:=[.rows 176 J eC,.rows 4 J .bool,.rows 178 J ip,.cells 96 Im,.rows 3 J aL]
abbrev afr:Y PV:=[.row 3,.d aL,.row 4,.row 5]
abbrev aqz:Y PB:=[.cells 31 [.d mP],.cells 96 afr,.cells 96 CY,.rows 176 J eC,.rows 4 J .bool,.rows 178 J ip]
abbrev wH:Y PV:=[.d aL,.d aL]
abbrev anf:Y PB:=[.rows 57 J gX,.cells 112 [.d vz],.cells 107 [.d wJ],.cells 107 wI]
abbrev aqy:Y PB:=[.cells 193 [.d xI],.cells 197 [.d aL,.row 3,.row 4,.d aL],.cells 197 Y5,.rows 2 J aL,.rows 36 J (.sl aL)]
abbrev aqx:Y PB:=[.cells 214 aky,.cells 90 [.d zq],.gone,.rows 220 J .sm,.rowsP 9 .str]
abbrev and:Y PV:=[.ptr 1 0,.d aL,.d aL,.d .bool,.d .bool,.d .bool,.d .bool,.row 3]
abbrev aqw:Y PB:=[.cells 57 vJ,.cells 197 [.d fd],.cells 210 [.d rF],.cells 57 [.d aL,.d aL,.d aL,.d aL,.d aL,.row 4,.nil],.rows 3 J aL]
abbrev Q4:Y PB:=[.cells 220 [.d .sm]]
abbrev aja:Y PV:=[.agg [.agg Im,.row 3,.row 4,.csl 5 4 4]]
abbrev UF:Y PB:=[.cells 159 [.d OU]]
abbrev anc:Y PB:=[.cells 31 [.d mP],.cells 193 [.d xI],.cells 210 [.d rF]]
abbrev aj9:Y PB:=[.cells 159 [.d OU],.cells 204 [.d tR]]
abbrev aj8:Y PB:=[.cells 159 [.d OU],.cells 218 [.d .ex]]
abbrev anb:Y PB:=[.rows 176 J eC,.rows 4 J .bool,.rows 178 J ip]
abbrev ana:Y PB:=[.cells 31 [.d mP],.rows 9 J .str,.cells 60 [.d kX]]
abbrev aj7:Y PB:=[.cells 31 [.d mP],.cells 210 [.d rF]]
abbrev aj6:Y PV:=[.ptr 0 0,.ptr 4 0,.ptr 5 0,.d .bool]
abbrev an9:Y PV:=[.ptr 0 0,.ptr 1 0,.ptr 2 0,.ptr 3 0,.ptr 4 0,.d aL]
abbrev XG:Y PB:=[.cells 31 [.d mP],.cells 96 [.d Io]]
abbrev an8:Y PB:=[.cells 90 [.d zq],.rows 3 J aL,.rows 3 J aL]
abbrev ab4:Y PB:=[.cells 31 [.d mP],.rows 9 J .str]
abbrev an7:Y PB:=[.cells 57 [.d gX],.cells 99 wI,.cells 99 anh,.rows 2 J aL,.rows 2 J aL,.rows 3 J aL]
abbrev aqv:Y PB:=[.cells 90 Q5,.cells 36 afn,.rows 3 J aL,.rows 3 J aL,.rows 3 J aL,.rows 3 J aL]
abbrev Il:Y PV:=[.d (.sl aL),.d aL]
abbrev Ni:Y PV:=[.ptr 0 0,.row 1,.d aL]
abbrev ab3:Y PB:=[.cells 248 [.d HK]]
abbrev ab2:Y PB:=[.cells 90 [.d zq]]
abbrev an6:Y PV:=[.agg [.agg Im,.row 3,.row 4,.csl 5 4 3]]
abbrev UE:Y PB:=[.cells 90 Q5]
abbrev afw:Y PB:=[.rows 2 J aL,.rows 36 J (.sl aL)]
abbrev afv:Y PB:=[.cells 112 [.d vz],.cells 107 [.d wJ]]
abbrev afu:Y PB:=[.cells 31 [.d mP],.cells 193 [.d xI]]
abbrev l7:Y PV:=[.d (.sl aL)]
abbrev aft:Y PV:=[.ptr 0 0,.ptr 1 0,.ptr 2 0,.ptr 3 0]
abbrev al0:Y PV:=[.d (.sl eC),.d aL,.d qI,.d (.sl ip),.row 7,.row 8,.csl 9 4 1]
abbrev afs:Y PB:=[.cells 96 [.d Io],.rows 3 J aL]
abbrev UH:Y PV:=[.ptr 0 0,.d aL,.d aL]
def tyT:PT Ty:=dL [(2,aL),(3,aL),(4,.bool),(9,.str),(36,(.sl aL)),(50,jB),(52,(.st (.pr jB (.pr jB (.sl aL))))),(57,gX),(60,kX),(67,jB),(93,qI),(130,mn),(137,sA),(139,qe),(162,jB),(176,eC),(178,ip),(193,xI),(197,fd),(204,tR),(210,rF),(218,.ex),(220,.sm),(248,HK)]
def b9 (t:TypeId):I Ty:=tyT.get t
def BT:FT:=⟨⟨[],[]⟩,⟨[.d (.sl .str)],[]⟩,.leaf⟩
def M1:co:=cn BT kQ
def Al:FT:=⟨⟨[.d .str],[]⟩,⟨[.d .bool],[]⟩,dL [(8,(.j ⟨[0,3],[4],⟨[.d aL],[]⟩,[]⟩))]⟩
def Ln:co:=cn Al jU
def Hs:FT:=⟨⟨[.d (.int .u8)],[]⟩,⟨[.d .bool],[]⟩,dL [(2,(.j ⟨[],[2],⟨[.d .bool],[]⟩,[]⟩))]⟩
def Uc:co:=cn Hs lV
def K4:FT:=⟨⟨[.d (.int .u8)],[]⟩,⟨[.d .bool],[]⟩,dL [(2,(.j ⟨[],[2],⟨[.d .bool],[]⟩,[]⟩))]⟩
def W3:co:=cn K4 rZ
def K3:FT:=⟨⟨[.d (.int .u8)],[]⟩,⟨[.d .bool],[]⟩,dL [(2,(.j ⟨[],[2],⟨[.d .bool],[]⟩,[]⟩))]⟩
def W2:co:=cn K3 pY
def Ht:FT:=⟨⟨[.d .str],[]⟩,⟨[.d .bool],[]⟩,dL [(3,(.j ⟨[0],[21],⟨[.d .bool],[]⟩,[]⟩)),(14,(.j ⟨[0],[3],⟨[.d aL],[]⟩,[]⟩))]⟩
def Ud:co:=cn Ht fA
def KX:FT:=⟨⟨[.d .bool],[]⟩,⟨[.d aL],[]⟩,.leaf⟩
def WP:co:=cn KX gh
def KY:FT:=⟨⟨wH,[]⟩,⟨[.d aL,.d .bool],[]⟩,.leaf⟩
def WR:co:=cn KY uU
def Ho:FT:=⟨⟨[.d aL,.d aL,.d aL],[]⟩,⟨[.d aL,.d .bool],[]⟩,dL [(91,(.j ⟨[],[6,7],⟨[.d aL,.d .bool],[]⟩,[]⟩)),(97,(.j ⟨[],[6,7],⟨[.d aL,.d .bool],[]⟩,[]⟩))]⟩
def T9:co:=cn Ho s5
def KZ:FT:=⟨⟨wH,[]⟩,⟨[.d aL],[]⟩,dL [(12,(.j ⟨[],[5],⟨[.d aL],[]⟩,[]⟩))]⟩
def WS:co:=cn KZ rX
def BS:FT:=⟨⟨[.d aL],[]⟩,⟨[.d aL],[]⟩,dL [(4,(.j ⟨[0],[3],⟨[.d .bool],[]⟩,[]⟩)),(10,(.j ⟨[0],[10],⟨[.d .bool],[]⟩,[]⟩)),(16,(.j ⟨[],[17],⟨[.d .bool],[]⟩,[]⟩))]⟩
def M0:co:=cn BS mL
def pH:FT:=⟨⟨[.d .ex],[]⟩,⟨[.d .bool],[]⟩,dL [(2,(.j ⟨[],[1,3],⟨hP,[.cells 218 [.d .ex]]⟩,[]⟩)),(5,(.j ⟨[],[1,50],⟨hP,[.cells 218 [.d .ex]]⟩,[]⟩)),(16,(.j ⟨[],[1,4],⟨xH,[.cells 218 [.d .ex]]⟩,[]⟩))]⟩
def H_:co:=cn pH jq
def HR (n:Nat):co:=cn pH (io n)
def K2:FT:=⟨⟨[.d .ex],[]⟩,⟨[.d .bool],[]⟩,dL [(2,(.j ⟨[],[2],⟨[.d .bool],[]⟩,[]⟩))]⟩
def W1:co:=cn K2 pW
def tQ:FT:=⟨⟨[.d .sm],[]⟩,⟨[.d .bool],[]⟩,dL [(3,(.j ⟨[],[1,13],⟨hP,Q4⟩,[]⟩)),(10,(.j ⟨[],[1,3],⟨hP,Q4⟩,[]⟩)),(13,(.j ⟨[],[1,47],⟨hP,Q4⟩,[]⟩)),(21,(.j ⟨[],[1,66],⟨hP,Q4⟩,[]⟩)),(29,(.j ⟨[],[1,95],⟨hP,Q4⟩,[]⟩)),(36,(.j ⟨[],[1,4],⟨hP,Q4⟩,[]⟩)),(39,(.j ⟨[],[1,130],⟨hP,Q4⟩,[]⟩)),(46,(.j ⟨[],[1,5],⟨hP,Q4⟩,[]⟩)),(49,(.j ⟨[],[1,157],⟨hP,Q4⟩,[]⟩)),(56,(.j ⟨[],[2],⟨[.d .bool],[]⟩,[]⟩))]⟩
def HQ (n:Nat):co:=cn tQ (eL n)
def oH:FT:=⟨⟨[.d (.sl .sm)],[]⟩,⟨[.d .bool],[]⟩,dL [(6,(.j ⟨[0],[3],⟨[.d aL],[]⟩,[]⟩))]⟩
def FZ:co:=cn oH ov
def Fn (n:Nat):co:=cn oH (dO n)
def yY:FT:=⟨⟨[.d HK],[]⟩,⟨[.d .bool],[]⟩,dL [(3,(.j ⟨[],[1,31],⟨hP,ab3⟩,[]⟩)),(11,(.j ⟨[],[1,50],⟨hP,ab3⟩,[]⟩)),(18,(.j ⟨[],[2],⟨[.d .bool],[]⟩,[]⟩))]⟩
def H9:co:=cn yY kr
def Hr:FT:=⟨⟨[.d OU],[]⟩,⟨[.d .bool],[]⟩,dL [(6,(.j ⟨[],[1,3],⟨xH,UF⟩,[]⟩)),(27,(.j ⟨[],[1,4],⟨xH,UF⟩,[]⟩)),(42,(.j ⟨[4],[1,5,6],⟨yG,aj9⟩,[]⟩)),(59,(.j ⟨[4],[1,56],⟨hP,UF⟩,[]⟩))]⟩
def Ub:co:=cn Hr qu
def YG:FT:=⟨⟨[.d (.sl .str),.d .str],[]⟩,⟨[.d aL],[]⟩,dL [(6,(.j ⟨[0,1],[5],⟨[.d aL],[]⟩,[]⟩))]⟩
def ai9:co:=cn YG ji
def Hq:FT:=⟨⟨[.d (.sl HK),.d .str],[]⟩,⟨[.d aL],[]⟩,dL [(6,(.j ⟨[0,1],[5],⟨[.d aL],[]⟩,[]⟩))]⟩
def Ua:co:=cn Hq im
def BR:FT:=⟨⟨[.d (.sl tR),.d .str],[]⟩,⟨[.d aL],[]⟩,dL [(6,(.j ⟨[0,1],[5],⟨[.d aL],[]⟩,[]⟩))]⟩
def MZ:co:=cn BR hX
def Hp:FT:=⟨⟨[.d OU,.d aL,.d .str],[]⟩,⟨[.d aL],[]⟩,dL [(3,(.j ⟨[2],[3,27],⟨hP,UF⟩,[]⟩)),(52,(.j ⟨[7],[3,56],⟨hP,UF⟩,[]⟩))]⟩
def T_:co:=cn Hp qr
def Ov:FT:=⟨⟨[.d OU,.d aL,.d .str,.d aL,.d aL],[]⟩,⟨[.d aL],[]⟩,dL [(13,(.j ⟨[],[25],⟨[.d .bool],[]⟩,[]⟩))]⟩
def aa2:co:=cn Ov gP
def yr:FT:=⟨⟨[.d .ex],[]⟩,⟨wH,[]⟩,dL [(8,(.j ⟨[],[1,4,5,6],⟨[.ptr 0 0,.d aL,.d aL,.d aL],[.cells 218 [.d .ex]]⟩,[]⟩))]⟩
def WY:co:=cn yr Cx
def VM (n:Nat):co:=cn yr (nZ n)
def yq:FT:=⟨⟨[.d OU,.d aL,.d .ex],[]⟩,⟨[.d aL],[]⟩,dL [(7,(.j ⟨[1],[3,5,7],⟨yG,aj8⟩,[]⟩)),(21,(.j ⟨[1],[3,5,7,8],⟨[.ptr 0 0,.ptr 1 0,.d aL,.d aL],aj8⟩,[]⟩)),(23,(.j ⟨[1,7,8],[3,5,33],⟨qH,aj8⟩,[]⟩))]⟩
def WU:co:=cn yq Cw
def VK (n:Nat):co:=cn yq (nY n)
def Ow:FT:=⟨⟨[.d OU,.d aL,.d .ex],[]⟩,⟨[.d aL],[]⟩,dL [(13,(.j ⟨[1],[3,5,22],⟨qH,aj8⟩,[]⟩))]⟩
def aa3:co:=cn Ow mK
def Ei:FT:=⟨⟨[.d .bool],[]⟩,⟨[.d aL],[]⟩,.leaf⟩
def Qx:co:=cn Ei dh
def YF:FT:=⟨⟨wH,[]⟩,⟨[.d aL],[]⟩,.leaf⟩
def ai8:co:=cn YF jh
def xx:FT:=⟨⟨[.ptr 0 0,.d aL,.d aL,.d .str],ab6⟩,⟨[.d .bool],ab6⟩,dL [(6,(.j ⟨[1,2,3],[0,9],⟨xH,ab6⟩,[]⟩)),(17,(.j ⟨[1,2,3,9],[0,46],⟨hP,ab6⟩,[]⟩))]⟩
def FY:co:=cn xx em
def BQ:FT:=⟨⟨[.ptr 0 0,.d .sm],ab6⟩,⟨[.d aL],ab7⟩,dL [(1,(.a [.ren 0 4,.ren 0 5])),(28,(.j ⟨[6,7,8,9,30],[0,3,5,67],⟨aj6,La8⟩,[]⟩)),(41,(.j ⟨[],[4],⟨[.d aL],ab7⟩,[]⟩)),(44,(.j ⟨[6,7,8,9,30],[0,3,5,91],⟨aj6,La8⟩,[]⟩)),(51,(.j ⟨[],[4],⟨[.d aL],ab7⟩,[]⟩)),(63,(.j ⟨[],[4],⟨[.d aL],ab7⟩,[]⟩)),(66,(.j ⟨[6,7,8,9,30],[0,3,5,119],⟨aj6,La8⟩,[]⟩)),(89,(.j ⟨[],[4],⟨[.d aL],ab7⟩,[]⟩)),(108,(.j ⟨[],[0,3,187],⟨[.ptr 0 0,.ptr 4 0,.d .bool],[.cells 245 [.d (.sl HK),.d (.sl tR),.d aL,.row 1,.row 5,.row 6],.rowsP 220 .sm,.gone,.gone,.cells 220 [.d .sm],.rows 9 J .str,.rows 9 J .str]⟩,[]⟩)),(131,(.j ⟨[],[4],⟨[.d aL],ab7⟩,[]⟩)),(137,(.j ⟨[6],[0,3,5,14],⟨[.ptr 0 0,.ptr 4 0,.ptr 5 0,.d aL],La8⟩,[]⟩)),(139,(.j ⟨[6],[0,3,5,14],⟨[.ptr 0 0,.ptr 4 0,.ptr 5 0,.d aL],La8⟩,[]⟩)),(140,(.j ⟨[6,14],[0,3,5,253],⟨aj6,La8⟩,[]⟩))]⟩
def MX:co:=cn BQ mJ
def sR:FT:=⟨⟨[.ptr 0 0,.d (.sl .sm)],ab6⟩,⟨wH,anj⟩,dL [(1,(.a [.ren 0 3,.ren 0 4,.ren 0 5])),(6,(.j ⟨[1],[0,6],⟨xH,anj⟩,[]⟩)),(19,(.j ⟨[1,6],[0,7,8],⟨[.ptr 0 0,.ptr 4 0,.d aL],[.cells 245 [.d (.sl HK),.d (.sl tR),.d aL,.row 5,.row 6,.row 7],.gone,.gone,.gone,.cells 220 [.d .sm],.rowsP 220 .sm,.rows 9 J .str,.rows 9 J .str]⟩,[]⟩)),(37,(.j ⟨[1,6],[0,8,9],⟨UH,anj⟩,[]⟩))]⟩
def MY:co:=cn sR wz
def Mp (n:Nat):co:=cn sR (iO n)
def yw:FT:=⟨⟨[.d (.sl .sm)],[]⟩,⟨[.d aL],[]⟩,dL [(8,(.j ⟨[0],[3,4],⟨wH,[]⟩,[]⟩))]⟩
def WZ:co:=cn yw Cy
def VN (n:Nat):co:=cn yw (n_ n)
def K0:FT:=⟨⟨[.d (.sl HK)],[]⟩,⟨wH,[]⟩,dL [(8,(.j ⟨[0],[4,5,6,7,8],⟨[.d aL,.d aL,.d aL,.d aL,.d aL],[]⟩,[]⟩)),(16,(.j ⟨[0,8],[4,5,6,7],⟨[.d aL,.d aL,.d aL,.d aL],[]⟩,[]⟩)),(38,(.j ⟨[0,8],[4,5,6,7,9],⟨[.d aL,.d aL,.d aL,.d aL,.ptr 0 0],ab3⟩,[]⟩)),(39,(.j ⟨[0,4,5,6,7,8,36],[9,39],⟨hP,ab3⟩,[]⟩)),(47,(.j ⟨[0,4,5,6,7,8,36],[9,47],⟨hP,ab3⟩,[]⟩)),(61,(.j ⟨[0,4,5,6,7,8],[9,69],⟨hP,ab3⟩,[]⟩))]⟩
def WV:co:=cn K0 rY
def Eh:FT:=⟨⟨[.d OU],[]⟩,⟨wH,[]⟩,dL [(6,(.j ⟨[],[1,4],⟨xH,UF⟩,[]⟩)),(17,(.j ⟨[4],[1,5,37],⟨qH,aj9⟩,[]⟩)),(29,(.j ⟨[],[1,6],⟨xH,UF⟩,[]⟩)),(51,(.j ⟨[6],[1,7,8],⟨yG,aj9⟩,[]⟩)),(62,(.j ⟨[6,8],[1,7,90],⟨qH,aj9⟩,[]⟩))]⟩
def Qw:co:=cn Eh ou
def Ej:FT:=⟨⟨[.d OU],[]⟩,⟨wH,[]⟩,dL [(44,(.j ⟨[],[1,8,9],⟨UH,UF⟩,[]⟩)),(67,(.a [.cel 10 3 220 .sm,.cel 10 4 9 .str,.cel 10 5 9 .str])),(69,(.j ⟨[],[1,10,11],⟨yG,[.cells 159 [.d OU],.cells 245 [.d (.sl HK),.d (.sl tR),.d aL,.row 2,.row 3,.row 4],.rowsP 220 .sm,.rows 9 J .str,.rows 9 J .str]⟩,[]⟩))]⟩
def Qy:co:=cn Ej fI
def yp:FT:=⟨⟨[.row 0,.d aL,.d aL,.d (.sl .sm)],[.rows 139 J qe]⟩,⟨[.row 1,.d aL],[.gone,.rows 139 J qe]⟩,dL [(1,(.a [.ren 0 0])),(6,(.j ⟨[1,3],[0,2,10],⟨[.row 1,.d aL,.d aL],[.gone,.rows 139 J qe]⟩,[]⟩)),(25,(.a [.nil 8 139 qe]))]⟩
def WH:co:=cn yp Jx
def VH (n:Nat):co:=cn yp (qc n)
def Hl:FT:=⟨⟨[.d (.sl sA),.d .str],[]⟩,⟨[.d aL],[]⟩,dL [(6,(.j ⟨[0,1],[5],⟨[.d aL],[]⟩,[]⟩))]⟩
def T6:co:=cn Hl kC
def Hn:FT:=⟨⟨[.d mP,.d .str],[]⟩,⟨[.d aL],[]⟩,dL [(6,(.j ⟨[1],[2,5],⟨xH,qG⟩,[]⟩))]⟩
def T8:co:=cn Hn lU
def KV:FT:=⟨⟨[.d OU],[]⟩,⟨[.d mP],[]⟩,dL [(18,(.j ⟨[],[1,2,3,6],⟨Gg,ar0⟩,[.cel 3 0 60 kX,.cel 3 1 137 sA,.cel 3 2 130 mn,.cel 3 3 9 .str]⟩)),(31,(.j ⟨[6],[1,2,3],⟨[.ptr 0 0,.ptr 1 0,.ptr 2 0],ar0⟩,[]⟩)),(32,(.j ⟨[6,31],[1,2,3,7,39],⟨AC,ann⟩,[]⟩)),(42,(.j ⟨[6],[1,2,3,7,8],⟨[.ptr 0 0,.ptr 1 0,.ptr 2 0,.ptr 3 0,.d aL],ann⟩,[]⟩)),(53,(.j ⟨[6,31],[1,2,3,7,65],⟨AC,ann⟩,[]⟩)),(69,(.a [.cel 3 5 139 qe])),(71,(.j ⟨[],[1,2,3,9],⟨Gg,[.cells 159 [.d OU],.cells 31 aj5,.cells 31 [.row 3,.row 4,.row 5,.row 6,.row 7,.row 8],.rows 60 J kX,.rows 137 J sA,.rows 130 J mn,.rows 9 J .str,.rows 9 J .str,.rows 139 J qe]⟩,[.cel 3 4 9 .str]⟩))]⟩
def WN:co:=cn KV uT
def KP:FT:=⟨⟨[.d mP],[]⟩,⟨[.d (.sl .str),.d .bool],[]⟩,dL [(8,(.j ⟨[],[1,4,5],⟨Ni,ab4⟩,[.nil 4 9 .str]⟩)),(15,(.j ⟨[],[1,4,5],⟨Ni,ab4⟩,[]⟩)),(37,(.j ⟨[5],[1,4,6,51],⟨[.ptr 0 0,.row 1,.ptr 2 0,.d .bool],ana⟩,[]⟩)),(48,(.j ⟨[5],[1,4,6,7],⟨[.ptr 0 0,.row 1,.ptr 2 0,.d aL],ana⟩,[]⟩)),(59,(.j ⟨[5,7],[1,4,6,93],⟨[.ptr 0 0,.row 1,.ptr 2 0,.d .bool],ana⟩,[]⟩)),(72,(.j ⟨[],[1,4,9],⟨Ni,ab4⟩,[]⟩)),(87,(.j ⟨[],[1,4,10],⟨Ni,ab4⟩,[]⟩))]⟩
def WJ:co:=cn KP pU
def yX:FT:=⟨⟨[.d mP],[]⟩,⟨[.d .bool],[]⟩,dL [(3,(.j ⟨[],[1,49],⟨hP,qG⟩,[]⟩)),(24,(.j ⟨[3],[1,5],⟨xH,qG⟩,[]⟩)),(33,(.j ⟨[3,5],[1,79],⟨hP,qG⟩,[]⟩)),(45,(.j ⟨[],[1,6],⟨xH,qG⟩,[]⟩)),(56,(.j ⟨[6],[1,109],⟨hP,qG⟩,[]⟩)),(68,(.j ⟨[],[1,8],⟨xH,qG⟩,[]⟩)),(76,(.j ⟨[8],[1],⟨[.ptr 0 0],qG⟩,[]⟩)),(80,(.j ⟨[8],[1,9,132],⟨qH,[.cells 31 [.d mP],.cells 139 [.d qe]]⟩,[]⟩)),(87,(.j ⟨[8],[1,9,146],⟨qH,[.cells 31 [.d mP],.cells 139 [.d qe]]⟩,[]⟩)),(90,(.j ⟨[8],[1,165],⟨hP,qG⟩,[]⟩))]⟩
def H8:co:=cn yX il
def Ak:FT:=⟨⟨[.d rF],[]⟩,⟨l7,[]⟩,dL [(6,(.j ⟨[4],[1,5],⟨hP,[.cells 210 [.d rF]]⟩,[]⟩)),(24,(.j ⟨[4],[1,13],⟨hP,[.cells 210 [.d rF]]⟩,[]⟩)),(46,(.j ⟨[4],[1,37],⟨hP,[.cells 210 [.d rF]]⟩,[]⟩))]⟩
def Lm:co:=cn Ak jT
def Hm:FT:=⟨⟨[.d aL],[]⟩,⟨[.d .bool],[]⟩,dL [(2,(.j ⟨[],[2],⟨[.d .bool],[]⟩,[]⟩))]⟩
def T7:co:=cn Hm qp
def KQ:FT:=⟨⟨[.d (.sl rF),.d aL],[]⟩,⟨[.d .bool],[]⟩,dL [(6,(.j ⟨[0],[1,5],⟨wH,[]⟩,[]⟩)),(14,(.j ⟨[0,5],[1],⟨[.d aL],[]⟩,[]⟩)),(16,(.j ⟨[0,1,5],[19],⟨[.d .bool],[]⟩,[]⟩))]⟩
def WL:co:=cn KQ pV
def YE:FT:=⟨⟨wH,[]⟩,⟨[.d .bool],[]⟩,dL [(2,(.j ⟨[],[4],⟨[.d .bool],[]⟩,[]⟩))]⟩
def ai7:co:=cn YE jE
def KU:FT:=⟨⟨[.d mP,.d aL,.d aL],[]⟩,⟨[.d .bool],[]⟩,dL [(2,(.j ⟨[],[6],⟨[.d .bool],[]⟩,[]⟩))]⟩
def WM:co:=cn KU nR
def Ee:FT:=⟨⟨[.d mP,.d rF],[]⟩,⟨[.d .bool],[]⟩,dL [(9,(.j ⟨[],[4],⟨[.d .bool],[]⟩,[]⟩)),(15,(.j ⟨[],[4],⟨[.d .bool],[]⟩,[]⟩)),(30,(.j ⟨[6],[2,3,59],⟨qH,aj7⟩,[]⟩)),(37,(.j ⟨[],[4],⟨[.d .bool],[]⟩,[]⟩)),(40,(.j ⟨[6],[2,3,78],⟨qH,aj7⟩,[]⟩)),(55,(.j ⟨[],[4],⟨[.d .bool],[]⟩,[]⟩)),(58,(.j ⟨[6],[2,3,98],⟨qH,aj7⟩,[]⟩)),(72,(.j ⟨[6],[2,3,108],⟨qH,aj7⟩,[]⟩)),(97,(.j ⟨[],[4],⟨[.d .bool],[]⟩,[]⟩)),(103,(.j ⟨[],[4],⟨[.d .bool],[]⟩,[]⟩))]⟩
def Qt:co:=cn Ee mf
def xw:FT:=⟨⟨[.d mP,.d aL,.d xI],[]⟩,⟨[.d .bool],[]⟩,dL [(5,(.j ⟨[1,7],[3,5,26],⟨qH,afu⟩,[]⟩)),(16,(.j ⟨[1,7],[3,5,8],⟨yG,afu⟩,[]⟩)),(28,(.j ⟨[1,7,8],[3,5,9,67],⟨CZ,anc⟩,[]⟩)),(36,(.j ⟨[1,7,8],[3,5,9,100],⟨CZ,anc⟩,[]⟩)),(44,(.j ⟨[1,7,8],[3,5,9,122],⟨CZ,anc⟩,[]⟩)),(56,(.j ⟨[1,7,8,10],[3,5,11],⟨yG,afu⟩,[]⟩))]⟩
def FX:co:=cn xw iD
def KW:FT:=⟨⟨[.d vz],[]⟩,⟨[.d .bool],[]⟩,dL [(3,(.j ⟨[],[1,17],⟨hP,[.cells 112 [.d vz]]⟩,[]⟩)),(14,(.j ⟨[],[1,3],⟨xH,[.cells 112 [.d vz]]⟩,[]⟩))]⟩
def WO:co:=cn KW jS
def Ef:FT:=⟨⟨[.ptr 0 0,.d rF],La5⟩,⟨[],La4⟩,.leaf⟩
def Qu:co:=cn Ef cN
def ru:FT:=⟨⟨[.ptr 0 0,.d .ex,.d aL],La5⟩,⟨[],La4⟩,dL [(2,(.j ⟨[],[],⟨[],La4⟩,[]⟩))]⟩
def Lk:co:=cn ru iT
def JH (n:Nat):co:=cn ru (iU n)
def yW:FT:=⟨⟨[.ptr 0 0,.d .sm],La5⟩,⟨[],La4⟩,.leaf⟩
def H7:co:=cn yW mw
def BP:FT:=⟨⟨[.ptr 0 0,.d .str],La5⟩,⟨[.d aL],La5⟩,dL [(6,(.j ⟨[1],[0,5],⟨xH,La5⟩,[]⟩))]⟩
def MW:co:=cn BP jI
def rx:FT:=⟨⟨[.ptr 0 0,.d (.sl .sm)],La5⟩,⟨[],La4⟩,dL [(1,(.a [.ren 0 7])),(3,(.j ⟨[1],[0,4],⟨xH,La4⟩,[]⟩))]⟩
def Ll:co:=cn rx uS
def JI (n:Nat):co:=cn rx (dV n)
def wF:FT:=⟨⟨[.ptr 0 0,.d .sm],La5⟩,⟨[],La4⟩,dL [(1,(.a [.ren 0 7])),(10,(.j ⟨[],[],⟨[],La4⟩,[]⟩)),(15,(.j ⟨[4,25],[0,3,31],⟨[.ptr 0 0,.ptr 2 0,.d .bool],[.cells 206 [.d (.sl kX),.d (.sl sA),.d (.sl mn),.d (.sl .str),.d (.sl .str),.d (.sl qe),.d (.sl .str),.row 3,.d aL,.d aL],.gone,.cells 220 [.d .sm],.rows 210 J rF]⟩,[]⟩))]⟩
def Mo (n:Nat):co:=cn wF (eV n)
def ry:FT:=⟨⟨[.ptr 0 0,.d .sm],La5⟩,⟨[],La4⟩,.leaf⟩
def Dx (n:Nat):co:=cn ry (dw n)
def tP:FT:=⟨⟨[.ptr 0 0,.d .sm,.d aL,.d aL,.d aL],La5⟩,⟨[],La4⟩,.leaf⟩
def HP (n:Nat):co:=cn tP (dP n)
def Eg:FT:=⟨⟨[.d OU],[]⟩,⟨[.d vz,.d aL,.d aL],[]⟩,dL [(20,(.j ⟨[],[1,2,7,8,9],⟨[.ptr 0 0,.ptr 1 0,.ptr 2 0,.d aL,.d aL],[.cells 159 [.d OU],.cells 112 afo,.cells 112 [.d (.sl kX),.d (.sl sA),.d (.sl mn),.d (.sl .str),.d (.sl .str),.d (.sl qe),.row 3],.rows 193 J xI]⟩,[.cel 7 6 193 xI]⟩)),(32,(.a [.cel 10 7 210 rF])),(45,(.j ⟨[8,9],[1,2,7,10,11,12],⟨an9,ar7⟩,[]⟩)),(59,(.j ⟨[8,9,12,13],[1,2,7,10,11,14],⟨an9,ar7⟩,[]⟩))]⟩
def Qv:co:=cn Eg qX
def Tg:FT:=⟨⟨Il,[]⟩,⟨[.d .bool],[]⟩,dL [(6,(.j ⟨[0,1],[5],⟨[.d aL],[]⟩,[]⟩))]⟩
def aeg:co:=cn Tg qW
def Tf:FT:=⟨⟨Il,[]⟩,⟨l7,[]⟩,dL [(6,(.j ⟨[0,1],[5],⟨[.d aL],[]⟩,[]⟩)),(8,(.j ⟨[0,1,5],[18],⟨[.d .bool],[]⟩,[]⟩)),(16,(.j ⟨[0,1,5],[32],⟨[.d .bool],[]⟩,[]⟩))]⟩
def aef:co:=cn Tf xc
def KN:FT:=⟨⟨[.d (.sl aL),.d (.sl aL)],[]⟩,⟨l7,[]⟩,dL [(8,(.j ⟨[0,1],[5,6],⟨Il,[]⟩,[]⟩)),(23,(.j ⟨[1],[5,7],⟨Il,[]⟩,[]⟩))]⟩
def WG:co:=cn KN rW
def BO:FT:=⟨⟨[.d aL],[]⟩,⟨[.d aL],[]⟩,dL [(3,(.j ⟨[0],[8],⟨[.d .bool],[]⟩,[]⟩))]⟩
def MV:co:=cn BO mI
def Ou:FT:=⟨⟨[.d fd],[]⟩,⟨[.agg aj4],afw⟩,dL [(8,(.j ⟨[],[1,2,3,4],⟨Gg,[.cells 197 [.d fd],.cells 197 Y5,.cells 197 [.d aL,.row 3,.row 4,.d aL],.rows 2 J aL,.rows 36 J (.sl aL)]⟩,[.cel 3 2 36 (.sl aL)]⟩))]⟩
def aa1:co:=cn Ou cz
def Ot:FT:=⟨⟨[.d rF,.agg aj4],afw⟩,⟨[.agg aj4,.d .bool],afw⟩,dL [(8,(.j ⟨[6],[2,3,4,7],⟨[.ptr 2 0,.ptr 3 0,.ptr 4 0,.d aL],ank⟩,[]⟩)),(17,(.j ⟨[6,7],[2,3,4,33],⟨[.ptr 2 0,.ptr 3 0,.ptr 4 0,.d .bool],ank⟩,[]⟩)),(32,(.j ⟨[],[2,3,4,8,9,10],⟨[.ptr 2 0,.ptr 3 0,.ptr 4 0,.d aL,.d .bool,.d (.sl aL)],ank⟩,[]⟩))]⟩
def aa0:co:=cn Ot xa
def Hk:FT:=⟨⟨[.d xI,.d fd],[]⟩,⟨[.d fd,.d .bool],[]⟩,dL [(3,(.j ⟨[],[2,3,4,23],⟨CZ,[.cells 193 [.d xI],.cells 197 [.d fd],.cells 197 Y5]⟩,[]⟩)),(16,(.j ⟨[],[2,3,4,6],⟨Gg,aqy⟩,[]⟩)),(26,(.j ⟨[6],[2,3,4,44],⟨CZ,aqy⟩,[]⟩))]⟩
def T5:co:=cn Hk nQ
def KL:FT:=⟨⟨[.d mP],[]⟩,⟨[.d Io],[]⟩,dL [(8,(.j ⟨[],[1,2,3,4],⟨Gg,[.cells 31 [.d mP],.cells 96 CY,.cells 96 [.row 3,.d aL,.nil,.nil],.rows 176 J eC]⟩,[.cel 3 0 176 eC]⟩)),(23,(.j ⟨[],[1,2,3,5],⟨Gg,[.cells 31 [.d mP],.cells 96 CY,.cells 96 [.row 3,.d aL,.row 4,.nil],.rows 176 J eC,.rows 4 J .bool]⟩,[.cel 3 2 4 .bool]⟩)),(38,(.j ⟨[],[1,2,3,6],⟨Gg,[.cells 31 [.d mP],.cells 96 CY,.cells 96 afr,.rows 176 J eC,.rows 4 J .bool,.rows 178 J ip]⟩,[.cel 3 3 178 ip]⟩)),(49,(.j ⟨[6],[1,2,3,7],⟨aft,[.cells 31 [.d mP],.cells 96 CY,.cells 96 [.row 4,.d aL,.row 5,.row 6],.cells 178 [.d ip],.rows 176 J eC,.rows 4 J .bool,.rows 178 J ip]⟩,[]⟩))]⟩
def WE:co:=cn KL rU
def Oo:FT:=⟨⟨[.d mP,.d Io],[]⟩,⟨[.d .bool],[]⟩,dL [(6,(.j ⟨[],[2,3,5],⟨yG,XG⟩,[]⟩)),(15,(.j ⟨[5],[2,3,31],⟨qH,XG⟩,[]⟩)),(23,(.j ⟨[],[4],⟨[.d .bool],[]⟩,[]⟩))]⟩
def Z_:co:=cn Oo rV
def YD:FT:=⟨⟨wH,[]⟩,⟨[.d .bool],[]⟩,dL [(2,(.j ⟨[],[4],⟨[.d .bool],[]⟩,[]⟩))]⟩
def ai6:co:=cn YD qV
def KK:FT:=⟨⟨[.d mP,.d aL,.d aL],[]⟩,⟨[.d .bool],[]⟩,dL [(6,(.j ⟨[2,7],[3,8],⟨hP,qG⟩,[]⟩)),(36,(.j ⟨[2,7],[3,18],⟨hP,qG⟩,[]⟩)),(46,(.j ⟨[2,7],[3,26],⟨hP,qG⟩,[]⟩)),(53,(.j ⟨[],[6],⟨[.d .bool],[]⟩,[]⟩)),(56,(.j ⟨[2,7],[3,43],⟨hP,qG⟩,[]⟩)),(71,(.j ⟨[],[6],⟨[.d .bool],[]⟩,[]⟩)),(74,(.j ⟨[2,7],[3,61],⟨hP,qG⟩,[]⟩)),(92,(.j ⟨[2,7],[3,71],⟨hP,qG⟩,[]⟩)),(102,(.j ⟨[2],[3,79],⟨hP,qG⟩,[]⟩))]⟩
def WD:co:=cn KK uR
def Ed:FT:=⟨⟨[.d mP,.d Io,.d aL,.d aL,.d aL],[]⟩,⟨[.d .bool],[]⟩,dL [(3,(.j ⟨[2,3,4],[5,6,30],⟨qH,XG⟩,[]⟩)),(25,(.j ⟨[],[10],⟨[.d .bool],[]⟩,[]⟩)),(50,(.j ⟨[],[10],⟨[.d .bool],[]⟩,[]⟩)),(56,(.j ⟨[],[10],⟨[.d .bool],[]⟩,[]⟩)),(59,(.j ⟨[2,4,70],[5,6,11,119],⟨CZ,[.cells 31 [.d mP],.cells 96 [.d Io],.cells 178 [.d ip]]⟩,[]⟩)),(99,(.j ⟨[2,4,70],[5,6,160],⟨qH,XG⟩,[]⟩)),(116,(.j ⟨[],[10],⟨[.d .bool],[]⟩,[]⟩)),(122,(.j ⟨[],[10],⟨[.d .bool],[]⟩,[]⟩))]⟩
def Qs:co:=cn Ed kB
def Ec:FT:=⟨⟨[.d Io,.d aL],[]⟩,⟨l7,[]⟩,dL [(8,(.j ⟨[1],[2,5,6],⟨Ni,afs⟩,[.nil 5 3 aL]⟩)),(16,(.j ⟨[1,6],[2,5],⟨[.ptr 0 0,.row 1],afs⟩,[]⟩)),(17,(.j ⟨[1,6],[2,5,30],⟨[.ptr 0 0,.row 1,.d .bool],afs⟩,[]⟩))]⟩
def Qr:co:=cn Ec oq
def Eb:FT:=⟨⟨Il,[]⟩,⟨l7,[]⟩,dL [(8,(.j ⟨[0,1],[5,6],⟨[.row 0,.d aL],[.rows 3 J aL]⟩,[.nil 5 3 aL]⟩)),(16,(.j ⟨[0,1,6],[5],⟨[.row 0],[.rows 3 J aL]⟩,[]⟩))]⟩
def Qq:co:=cn Eb qU
def Oq:FT:=⟨⟨[.d Io],[]⟩,⟨[.agg Im],anb⟩,dL [(8,(.j ⟨[],[1,2,3,4],⟨Gg,[.cells 96 [.d Io],.cells 96 CY,.cells 96 afr,.rows 176 J eC,.rows 4 J .bool,.rows 178 J ip]⟩,[.cel 3 0 176 eC]⟩))]⟩
def Z':co:=cn Oq iC
def mO:FT:=⟨⟨[.agg Im,.d aL],anb⟩,⟨l7,anb⟩,dL [(8,(.j ⟨[1],[2,5,6],⟨[.ptr 3 0,.row 4,.d aL],ang⟩,[.nil 5 3 aL]⟩)),(16,(.j ⟨[1,6],[2,5],⟨[.ptr 3 0,.row 4],ang⟩,[]⟩)),(17,(.j ⟨[1,6],[2,5,30],⟨[.ptr 3 0,.row 4,.d .bool],ang⟩,[]⟩))]⟩
def MU:co:=cn mO mH
def Lj:co:=⟨mO.pre,⟨mO.post.vs,[]⟩,jR⟩
def KM:FT:=⟨⟨[.d mP,.d Io,.d aL,.d aL,.d aL,.d aL],[]⟩,⟨[.d Io,.d aL,.d .bool],[]⟩,dL [(17,(.j ⟨[],[7,12,15],⟨yG,ani⟩,[]⟩)),(26,(.j ⟨[2,4,5,15,30],[6,7,12,45],⟨CZ,aqz⟩,[]⟩)),(34,(.j ⟨[2,4,5,15,30],[6,7,12,54],⟨CZ,aqz⟩,[]⟩)),(90,(.j ⟨[],[7,12,17],⟨yG,ani⟩,[]⟩)),(109,(.j ⟨[18],[7,12,19],⟨yG,ani⟩,[]⟩))]⟩
def WF:co:=cn KM pR
def KJ:FT:=⟨⟨[.d vz],[]⟩,⟨[.d wJ],[]⟩,dL [(16,(.j ⟨[],[1,2,3,4],⟨Gg,[.cells 112 [.d vz],.cells 107 wI,.cells 107 [.d (.sl eC),.d aL,.d qI,.d (.sl ip),.row 3,.nil,.nil],.rows 2 J aL]⟩,[.cel 3 4 2 aL]⟩)),(31,(.j ⟨[],[1,2,3,5],⟨Gg,[.cells 112 [.d vz],.cells 107 wI,.cells 107 [.d (.sl eC),.d aL,.d qI,.d (.sl ip),.row 3,.row 4,.nil],.rows 2 J aL,.rows 2 J aL]⟩,[.cel 3 5 2 aL]⟩)),(46,(.j ⟨[],[1,2,3,6],⟨Gg,[.cells 112 [.d vz],.cells 107 wI,.cells 107 anh,.rows 2 J aL,.rows 2 J aL,.rows 197 J fd]⟩,[.cel 3 6 197 fd]⟩))]⟩
def WC:co:=cn KJ uQ
def On:FT:=⟨⟨[.d vz,.d wJ],[]⟩,⟨[.d .bool],[]⟩,dL [(3,(.j ⟨[],[2,3,46],⟨qH,afv⟩,[]⟩)),(14,(.j ⟨[],[2,3,5],⟨yG,afv⟩,[]⟩)),(25,(.j ⟨[5],[2,3,97],⟨qH,afv⟩,[]⟩))]⟩
def Z8:co:=cn On w_
def Ol:FT:=⟨⟨[.d aL],[]⟩,⟨[.d aL],[]⟩,dL [(5,(.j ⟨[0],[3,10],⟨[.row 0,.d .bool],[.rows 3 af aL]⟩,[]⟩))]⟩
def Z6:co:=cn Ol w7
def G2:FT:=⟨⟨[.d rF,.d fd],[]⟩,⟨[.d aL],[]⟩,dL [(6,(.j ⟨[6],[2,3,7],⟨qH,[.cells 210 [.d rF],.cells 197 [.d fd]]⟩,[]⟩)),(28,(.j ⟨[],[2,40],⟨hP,[.cells 210 [.d rF]]⟩,[]⟩))]⟩
def Tw:co:=cn G2 sZ
def Ea:FT:=⟨⟨[.d vz,.d wJ,.d aL],[]⟩,⟨[.d gX,.d .bool],[]⟩,dL [(3,(.j ⟨[2],[3,4,6,25],⟨CZ,[.cells 112 [.d vz],.cells 107 [.d wJ],.cells 57 vJ]⟩,[]⟩)),(54,(.j ⟨[],[6,8,9,10],⟨aft,aqw⟩,[.cel 10 5 3 aL]⟩)),(59,(.j ⟨[],[6,8,9,10,98],⟨AC,[.cells 57 vJ,.cells 197 [.d fd],.cells 210 [.d rF],.cells 57 vJ]⟩,[]⟩)),(68,(.j ⟨[],[6,10],⟨[.ptr 0 0,.ptr 1 0],[.cells 57 vJ,.cells 57 [.d aL,.d aL,.d aL,.d aL,.d aL,.row 2,.row 3],.rows 3 J aL,.rows 3 J aL]⟩,[.cel 10 6 3 aL]⟩)),(69,(.j ⟨[],[6,8,9,10,123],⟨AC,aqw⟩,[]⟩))]⟩
def Qp:co:=cn Ea oo
def KH:FT:=⟨⟨[.d mP],[]⟩,⟨[.d ja],[]⟩,dL [(8,(.j ⟨[],[1,2,3,4],⟨Gg,[.cells 31 [.d mP],.cells 99 wI,.cells 99 anh,.rows 2 J aL,.rows 2 af aL,.rows 3 af aL]⟩,[.cel 3 4 2 aL]⟩))]⟩
def Wz:co:=cn KH nC
def Oj:FT:=⟨⟨[.d mP,.d ja],[]⟩,⟨[.d .bool],[]⟩,dL [(2,(.j ⟨[],[4],⟨[.d .bool],[]⟩,[]⟩))]⟩
def Z5:co:=cn Oj wZ
def YC:FT:=⟨⟨wH,[]⟩,⟨[.d .bool],[]⟩,dL [(2,(.j ⟨[],[4],⟨[.d .bool],[]⟩,[]⟩))]⟩
def ai5:co:=cn YC Dt
def D':FT:=⟨⟨Il,[]⟩,⟨[.d .bool],[]⟩,dL [(6,(.j ⟨[0,1],[5],⟨[.d aL],[]⟩,[]⟩)),(15,(.j ⟨[0,1,5],[40],⟨[.d .bool],[]⟩,[]⟩))]⟩
def Qo:co:=cn D' om
def KE:FT:=⟨⟨[.d ja,.d gX],[]⟩,⟨[.d .bool],[]⟩,dL [(21,(.j ⟨[],[4],⟨[.d .bool],[]⟩,[]⟩)),(24,(.j ⟨[7],[2,3,40],⟨qH,[.cells 99 [.d ja],.cells 57 [.d gX]]⟩,[]⟩)),(47,(.j ⟨[],[4],⟨[.d .bool],[]⟩,[]⟩))]⟩
def Wx:co:=cn KE uO
def Oi:FT:=⟨⟨[.d mP,.d ja,.d gX],[]⟩,⟨[.d ja,.d .bool],[]⟩,dL [(3,(.j ⟨[],[3,4,5,6,46],⟨AC,LV⟩,[]⟩)),(10,(.j ⟨[],[3,4,5,6],⟨aft,LV⟩,[]⟩)),(11,(.j ⟨[],[3,4,5,6,55],⟨AC,LV⟩,[]⟩)),(21,(.j ⟨[],[3,4,5,6,78],⟨AC,LV⟩,[]⟩)),(28,(.j ⟨[],[3,4,5,6,8],⟨AC,LV⟩,[]⟩)),(31,(.j ⟨[],[3,4,5,6,110],⟨AC,LV⟩,[]⟩)),(39,(.j ⟨[],[3,4,5,6,125],⟨AC,LV⟩,[]⟩)),(47,(.j ⟨[],[3,4,5,6,154],⟨AC,LV⟩,[]⟩)),(58,(.j ⟨[],[3,4,5,6,9,10],⟨an9,[.cells 31 [.d mP],.cells 99 [.d ja],.cells 57 [.d gX],.cells 99 wI,.cells 99 [.nil,.d aL,.nil,.nil,.row 5,.row 6,.row 7],.rows 2 J aL,.rows 2 J aL,.rows 3 J aL]⟩,[]⟩)),(66,(.j ⟨[],[5,6,9],⟨[.ptr 0 0,.ptr 1 0,.ptr 2 0],an7⟩,[]⟩)),(72,(.j ⟨[],[5,6,9],⟨[.ptr 0 0,.ptr 1 0,.ptr 2 0],an7⟩,[]⟩))]⟩
def Z4:co:=cn Oi rT
def KF:FT:=⟨⟨[.d (.sl gX),.d aL,.d aL,.d (.sl aL)],[]⟩,⟨[.d .bool],[]⟩,dL [(6,(.j ⟨[0,1,2,3],[9],⟨[.d aL],[]⟩,[]⟩)),(23,(.j ⟨[0,1,2,3,9],[10,11,12],⟨[.d aL,.d .bool,.d aL],[]⟩,[]⟩)),(31,(.j ⟨[0,1,2,3,9,12],[10,11],⟨[.d aL,.d .bool],[]⟩,[]⟩)),(38,(.j ⟨[0,1,2,3,9,10,12],[11],⟨[.d .bool],[]⟩,[]⟩))]⟩
def Wy:co:=cn KF rS
def KI:FT:=⟨⟨[.d m8],[]⟩,⟨wH,[]⟩,dL [(24,(.j ⟨[],[1,4,5],⟨yG,[.cells 34 [.d m8],.cells 99 [.d ja]]⟩,[]⟩)),(38,(.j ⟨[5],[1,4,7,63],⟨CZ,[.cells 34 [.d m8],.cells 99 [.d ja],.cells 99 [.d ja]]⟩,[]⟩))]⟩
def WA:co:=cn KI uP
def Hj:FT:=⟨⟨[.d wJ],[]⟩,⟨[.agg [.agg Im,.row 3,.row 4,.csl 5 4 1]],[.rows 176 J eC,.rows 4 J .bool,.rows 178 J ip,.rows 2 J aL,.rows 2 J aL,.cells 197 [.d aL,.row 6,.row 7,.d aL],.rows 2 J aL,.rows 36 J (.sl aL)]⟩,dL [(8,(.u 2))]⟩
def T4:co:=cn Hj nP
def G':FT:=⟨⟨Nj,[]⟩,⟨Nk,[]⟩,dL [(27,(.s 5 0 0 1)),(37,(.j ⟨[],[3,4,5,6,7,9,14,15,16],⟨No,ant⟩,[]⟩)),(38,(.j ⟨[16,77],[3,4,5,6,7,9,14,15,78],⟨OT,ant⟩,[]⟩)),(83,(.j ⟨[16],[3,4,5,6,7,9,14],⟨Nm,[.cells 112 [.d vz],.cells 107 al0,.cells 162 [.d jB],.cells 107 wI,.cells 57 vJ,.cells 57 [.d gX],.cells 197 LS,.rows 2 J aL,.rows 2 J aL,.cells 197 LS,.rows 2 J aL,.rows 36 J (.sl aL)]⟩,[]⟩)),(84,(.j ⟨[16],[3,4,5,6,7,9,14,15,154],⟨OT,ant⟩,[]⟩)),(95,(.j ⟨[],[4,5,6,7,9,14],⟨Nl,[.cells 107 [.d (.sl eC),.d aL,.d qI,.d (.sl ip),.row 6,.row 7,.csl 8 4 1],.cells 162 [.d jB],.cells 107 wI,.cells 57 vJ,.cells 57 [.d gX],.cells 197 [.d fd],.rows 2 J aL,.rows 2 J aL,.cells 197 [.d fd]]⟩,[]⟩)),(96,(.j ⟨[],[3,4,5,6,7,9,14,183],⟨Nn,[.cells 112 [.d vz],.cells 107 al0,.cells 162 [.d jB],.cells 107 wI,.cells 57 vJ,.cells 57 [.d gX],.cells 197 LU,.rows 2 J aL,.rows 2 J aL,.cells 197 LU]⟩,[]⟩)),(102,(.s 5 0 0 1)),(104,(.a [.pk 4 6 fd]))]⟩
def TN:co:=cn G' gm
def Hi:FT:=⟨⟨[.d wJ],[]⟩,⟨[.agg [.agg Im,.row 3,.row 4,.csl 5 4 2]],[.rows 176 J eC,.rows 4 J .bool,.rows 178 J ip,.rows 2 J aL,.rows 2 J aL,.cells 197 [.d aL,.row 6,.row 7,.d aL,.d fd],.rows 2 J aL,.rows 36 J (.sl aL)]⟩,dL [(8,(.u 3))]⟩
def T3:co:=cn Hi nO
def G_:FT:=⟨⟨Nj,[]⟩,⟨Nk,[]⟩,dL [(27,(.s 5 0 0 1)),(37,(.j ⟨[],[3,4,5,6,7,9,14,15,16],⟨No,anv⟩,[]⟩)),(38,(.j ⟨[16,77],[3,4,5,6,7,9,14,15,78],⟨OT,anv⟩,[]⟩)),(83,(.j ⟨[16],[3,4,5,6,7,9,14],⟨Nm,[.cells 112 [.d vz],.cells 107 ajb,.cells 162 [.d jB],.cells 107 wI,.cells 57 vJ,.cells 57 [.d gX],.cells 197 LS,.rows 2 J aL,.rows 2 J aL,.cells 197 [.d aL,.row 10,.row 11,.d aL,.d fd],.rows 2 J aL,.rows 36 J (.sl aL)]⟩,[]⟩)),(84,(.j ⟨[16],[3,4,5,6,7,9,14,15,154],⟨OT,anv⟩,[]⟩)),(95,(.j ⟨[],[4,5,6,7,9,14],⟨Nl,ar6⟩,[]⟩)),(96,(.j ⟨[],[3,4,5,6,7,9,14,183],⟨Nn,[.cells 112 [.d vz],.cells 107 ajb,.cells 162 [.d jB],.cells 107 wI,.cells 57 vJ,.cells 57 [.d gX],.cells 197 LU,.rows 2 J aL,.rows 2 J aL,.cells 197 [.d aL,.d (.sl aL),.d vK,.d aL,.d fd]]⟩,[]⟩)),(102,(.s 5 0 0 1)),(104,(.a [.pk 4 6 fd]))]⟩
def TK:co:=cn G_ gO
def Hh:FT:=⟨⟨[.d wJ],[]⟩,⟨[.agg [.agg Im,.row 3,.row 4,.csl 5 4 2]],[.rows 176 J eC,.rows 4 J .bool,.rows 178 J ip,.rows 2 J aL,.rows 2 J aL,.cells 197 [.d fd,.d aL,.row 6,.row 7,.d aL],.rows 2 J aL,.rows 36 J (.sl aL)]⟩,dL [(8,(.u 3))]⟩
def T2:co:=cn Hh nN
def G9:FT:=⟨⟨Nj,[]⟩,⟨Nk,[]⟩,dL [(27,(.s 5 0 1 1)),(37,(.j ⟨[],[3,4,5,6,7,9,14,15,16],⟨No,anu⟩,[]⟩)),(38,(.j ⟨[16,77],[3,4,5,6,7,9,14,15,78],⟨OT,anu⟩,[]⟩)),(83,(.j ⟨[16],[3,4,5,6,7,9,14],⟨Nm,[.cells 112 [.d vz],.cells 107 ajb,.cells 162 [.d jB],.cells 107 wI,.cells 57 vJ,.cells 57 [.d gX],.cells 197 LS,.rows 2 J aL,.rows 2 J aL,.cells 197 [.d fd,.d aL,.row 10,.row 11,.d aL],.rows 2 J aL,.rows 36 J (.sl aL)]⟩,[]⟩)),(84,(.j ⟨[16],[3,4,5,6,7,9,14,15,154],⟨OT,anu⟩,[]⟩)),(95,(.j ⟨[],[4,5,6,7,9,14],⟨Nl,ar6⟩,[]⟩)),(96,(.j ⟨[],[3,4,5,6,7,9,14,183],⟨Nn,[.cells 112 [.d vz],.cells 107 ajb,.cells 162 [.d jB],.cells 107 wI,.cells 57 vJ,.cells 57 [.d gX],.cells 197 LU,.rows 2 J aL,.rows 2 J aL,.cells 197 [.d fd,.d aL,.d (.sl aL),.d vK,.d aL]]⟩,[]⟩)),(102,(.s 5 0 1 1)),(104,(.a [.pk 4 6 fd]))]⟩
def TJ:co:=cn G9 gk
def Hg:FT:=⟨⟨[.d wJ],[]⟩,⟨an6,[.rows 176 J eC,.rows 4 J .bool,.rows 178 J ip,.rows 2 J aL,.rows 2 J aL,.cells 197 [.d aL,.row 6,.row 7,.d aL,.d fd,.d fd],.rows 2 J aL,.rows 36 J (.sl aL)]⟩,dL [(8,(.u 4))]⟩
def TZ:co:=cn Hg nM
def G8:FT:=⟨⟨Nj,[]⟩,⟨Nk,[]⟩,dL [(27,(.s 5 0 0 1)),(37,(.j ⟨[],[3,4,5,6,7,9,14,15,16],⟨No,anz⟩,[]⟩)),(38,(.j ⟨[16,77],[3,4,5,6,7,9,14,15,78],⟨OT,anz⟩,[]⟩)),(83,(.j ⟨[16],[3,4,5,6,7,9,14],⟨Nm,[.cells 112 [.d vz],.cells 107 ab5,.cells 162 [.d jB],.cells 107 wI,.cells 57 vJ,.cells 57 [.d gX],.cells 197 LS,.rows 2 J aL,.rows 2 J aL,.cells 197 [.d aL,.row 10,.row 11,.d aL,.d fd,.d fd],.rows 2 J aL,.rows 36 J (.sl aL)]⟩,[]⟩)),(84,(.j ⟨[16],[3,4,5,6,7,9,14,15,154],⟨OT,anz⟩,[]⟩)),(95,(.j ⟨[],[4,5,6,7,9,14],⟨Nl,ano⟩,[]⟩)),(96,(.j ⟨[],[3,4,5,6,7,9,14,183],⟨Nn,[.cells 112 [.d vz],.cells 107 ab5,.cells 162 [.d jB],.cells 107 wI,.cells 57 vJ,.cells 57 [.d gX],.cells 197 LU,.rows 2 J aL,.rows 2 J aL,.cells 197 [.d aL,.d (.sl aL),.d vK,.d aL,.d fd,.d fd]]⟩,[]⟩)),(102,(.s 5 0 0 1)),(104,(.a [.pk 4 6 fd]))]⟩
def TI:co:=cn G8 jH
def Hf:FT:=⟨⟨[.d wJ],[]⟩,⟨an6,[.rows 176 J eC,.rows 4 J .bool,.rows 178 J ip,.rows 2 J aL,.rows 2 J aL,.cells 197 [.d fd,.d aL,.row 6,.row 7,.d aL,.d fd],.rows 2 J aL,.rows 36 J (.sl aL)]⟩,dL [(8,(.u 4))]⟩
def TY:co:=cn Hf nL
def G7:FT:=⟨⟨Nj,[]⟩,⟨Nk,[]⟩,dL [(27,(.s 5 0 1 1)),(37,(.j ⟨[],[3,4,5,6,7,9,14,15,16],⟨No,anx⟩,[]⟩)),(38,(.j ⟨[16,77],[3,4,5,6,7,9,14,15,78],⟨OT,anx⟩,[]⟩)),(83,(.j ⟨[16],[3,4,5,6,7,9,14],⟨Nm,[.cells 112 [.d vz],.cells 107 ab5,.cells 162 [.d jB],.cells 107 wI,.cells 57 vJ,.cells 57 [.d gX],.cells 197 LS,.rows 2 J aL,.rows 2 J aL,.cells 197 [.d fd,.d aL,.row 10,.row 11,.d aL,.d fd],.rows 2 J aL,.rows 36 J (.sl aL)]⟩,[]⟩)),(84,(.j ⟨[16],[3,4,5,6,7,9,14,15,154],⟨OT,anx⟩,[]⟩)),(95,(.j ⟨[],[4,5,6,7,9,14],⟨Nl,ano⟩,[]⟩)),(96,(.j ⟨[],[3,4,5,6,7,9,14,183],⟨Nn,[.cells 112 [.d vz],.cells 107 ab5,.cells 162 [.d jB],.cells 107 wI,.cells 57 vJ,.cells 57 [.d gX],.cells 197 LU,.rows 2 J aL,.rows 2 J aL,.cells 197 [.d fd,.d aL,.d (.sl aL),.d vK,.d aL,.d fd]]⟩,[]⟩)),(102,(.s 5 0 1 1)),(104,(.a [.pk 4 6 fd]))]⟩
def TE:co:=cn G7 iS
def He:FT:=⟨⟨[.d wJ],[]⟩,⟨an6,[.rows 176 J eC,.rows 4 J .bool,.rows 178 J ip,.rows 2 J aL,.rows 2 J aL,.cells 197 [.d fd,.d fd,.d aL,.row 6,.row 7,.d aL],.rows 2 J aL,.rows 36 J (.sl aL)]⟩,dL [(8,(.u 4))]⟩
def TX:co:=cn He nK
def G6:FT:=⟨⟨Nj,[]⟩,⟨Nk,[]⟩,dL [(27,(.s 5 0 2 1)),(37,(.j ⟨[],[3,4,5,6,7,9,14,15,16],⟨No,anw⟩,[]⟩)),(38,(.j ⟨[16,77],[3,4,5,6,7,9,14,15,78],⟨OT,anw⟩,[]⟩)),(83,(.j ⟨[16],[3,4,5,6,7,9,14],⟨Nm,[.cells 112 [.d vz],.cells 107 ab5,.cells 162 [.d jB],.cells 107 wI,.cells 57 vJ,.cells 57 [.d gX],.cells 197 LS,.rows 2 J aL,.rows 2 J aL,.cells 197 [.d fd,.d fd,.d aL,.row 10,.row 11,.d aL],.rows 2 J aL,.rows 36 J (.sl aL)]⟩,[]⟩)),(84,(.j ⟨[16],[3,4,5,6,7,9,14,15,154],⟨OT,anw⟩,[]⟩)),(95,(.j ⟨[],[4,5,6,7,9,14],⟨Nl,ano⟩,[]⟩)),(96,(.j ⟨[],[3,4,5,6,7,9,14,183],⟨Nn,[.cells 112 [.d vz],.cells 107 ab5,.cells 162 [.d jB],.cells 107 wI,.cells 57 vJ,.cells 57 [.d gX],.cells 197 LU,.rows 2 J aL,.rows 2 J aL,.cells 197 [.d fd,.d fd,.d aL,.d (.sl aL),.d vK,.d aL]]⟩,[]⟩)),(102,(.s 5 0 2 1)),(104,(.a [.pk 4 6 fd]))]⟩
def TD:co:=cn G6 ik
def Hd:FT:=⟨⟨[.d wJ],[]⟩,⟨aja,[.rows 176 J eC,.rows 4 J .bool,.rows 178 J ip,.rows 2 J aL,.rows 2 J aL,.cells 197 [.d aL,.row 6,.row 7,.d aL,.d fd,.d fd,.d fd],.rows 2 J aL,.rows 36 J (.sl aL)]⟩,dL [(8,(.u 5))]⟩
def TW:co:=cn Hd nJ
def dN:FT:=⟨⟨Nj,[]⟩,⟨Nk,[]⟩,dL [(27,(.s 5 0 0 1)),(37,(.j ⟨[],[3,4,5,6,7,9,14,15,16],⟨No,ans⟩,[]⟩)),(38,(.j ⟨[16,77],[3,4,5,6,7,9,14,15,78],⟨OT,ans⟩,[]⟩)),(83,(.j ⟨[16],[3,4,5,6,7,9,14],⟨Nm,[.cells 112 [.d vz],.cells 107 UG,.cells 162 [.d jB],.cells 107 wI,.cells 57 vJ,.cells 57 [.d gX],.cells 197 LS,.rows 2 J aL,.rows 2 J aL,.cells 197 [.d aL,.row 10,.row 11,.d aL,.d fd,.d fd,.d fd],.rows 2 J aL,.rows 36 J (.sl aL)]⟩,[]⟩)),(84,(.j ⟨[16],[3,4,5,6,7,9,14,15,154],⟨OT,ans⟩,[]⟩)),(95,(.j ⟨[],[4,5,6,7,9,14],⟨Nl,ajc⟩,[]⟩)),(96,(.j ⟨[],[3,4,5,6,7,9,14,183],⟨Nn,[.cells 112 [.d vz],.cells 107 UG,.cells 162 [.d jB],.cells 107 wI,.cells 57 vJ,.cells 57 [.d gX],.cells 197 LU,.rows 2 J aL,.rows 2 J aL,.cells 197 [.d aL,.d (.sl aL),.d vK,.d aL,.d fd,.d fd,.d fd]]⟩,[]⟩)),(102,(.s 5 0 0 1)),(104,(.a [.pk 4 6 fd]))]⟩
def TB:co:=cn dN nE
def Hc:FT:=⟨⟨[.d wJ],[]⟩,⟨aja,[.rows 176 J eC,.rows 4 J .bool,.rows 178 J ip,.rows 2 J aL,.rows 2 J aL,.cells 197 [.d fd,.d aL,.row 6,.row 7,.d aL,.d fd,.d fd],.rows 2 J aL,.rows 36 J (.sl aL)]⟩,dL [(8,(.u 5))]⟩
def TU:co:=cn Hc nI
def G5:FT:=⟨⟨Nj,[]⟩,⟨Nk,[]⟩,dL [(27,(.s 5 0 1 1)),(37,(.j ⟨[],[3,4,5,6,7,9,14,15,16],⟨No,anr⟩,[]⟩)),(38,(.j ⟨[16,77],[3,4,5,6,7,9,14,15,78],⟨OT,anr⟩,[]⟩)),(83,(.j ⟨[16],[3,4,5,6,7,9,14],⟨Nm,[.cells 112 [.d vz],.cells 107 UG,.cells 162 [.d jB],.cells 107 wI,.cells 57 vJ,.cells 57 [.d gX],.cells 197 LS,.rows 2 J aL,.rows 2 J aL,.cells 197 [.d fd,.d aL,.row 10,.row 11,.d aL,.d fd,.d fd],.rows 2 J aL,.rows 36 J (.sl aL)]⟩,[]⟩)),(84,(.j ⟨[16],[3,4,5,6,7,9,14,15,154],⟨OT,anr⟩,[]⟩)),(95,(.j ⟨[],[4,5,6,7,9,14],⟨Nl,ajc⟩,[]⟩)),(96,(.j ⟨[],[3,4,5,6,7,9,14,183],⟨Nn,[.cells 112 [.d vz],.cells 107 UG,.cells 162 [.d jB],.cells 107 wI,.cells 57 vJ,.cells 57 [.d gX],.cells 197 LU,.rows 2 J aL,.rows 2 J aL,.cells 197 [.d fd,.d aL,.d (.sl aL),.d vK,.d aL,.d fd,.d fd]]⟩,[]⟩)),(102,(.s 5 0 1 1)),(104,(.a [.pk 4 6 fd]))]⟩
def TA:co:=cn G5 nD
def Hb:FT:=⟨⟨[.d wJ],[]⟩,⟨aja,[.rows 176 J eC,.rows 4 J .bool,.rows 178 J ip,.rows 2 J aL,.rows 2 J aL,.cells 197 [.d fd,.d fd,.d aL,.row 6,.row 7,.d aL,.d fd],.rows 2 J aL,.rows 36 J (.sl aL)]⟩,dL [(8,(.u 5))]⟩
def TQ:co:=cn Hb nG
def G4:FT:=⟨⟨Nj,[]⟩,⟨Nk,[]⟩,dL [(27,(.s 5 0 2 1)),(37,(.j ⟨[],[3,4,5,6,7,9,14,15,16],⟨No,anq⟩,[]⟩)),(38,(.j ⟨[16,77],[3,4,5,6,7,9,14,15,78],⟨OT,anq⟩,[]⟩)),(83,(.j ⟨[16],[3,4,5,6,7,9,14],⟨Nm,[.cells 112 [.d vz],.cells 107 UG,.cells 162 [.d jB],.cells 107 wI,.cells 57 vJ,.cells 57 [.d gX],.cells 197 LS,.rows 2 J aL,.rows 2 J aL,.cells 197 [.d fd,.d fd,.d aL,.row 10,.row 11,.d aL,.d fd],.rows 2 J aL,.rows 36 J (.sl aL)]⟩,[]⟩)),(84,(.j ⟨[16],[3,4,5,6,7,9,14,15,154],⟨OT,anq⟩,[]⟩)),(95,(.j ⟨[],[4,5,6,7,9,14],⟨Nl,ajc⟩,[]⟩)),(96,(.j ⟨[],[3,4,5,6,7,9,14,183],⟨Nn,[.cells 112 [.d vz],.cells 107 UG,.cells 162 [.d jB],.cells 107 wI,.cells 57 vJ,.cells 57 [.d gX],.cells 197 LU,.rows 2 J aL,.rows 2 J aL,.cells 197 [.d fd,.d fd,.d aL,.d (.sl aL),.d vK,.d aL,.d fd]]⟩,[]⟩)),(102,(.s 5 0 2 1)),(104,(.a [.pk 4 6 fd]))]⟩
def Tz:co:=cn G4 lQ
def Ha:FT:=⟨⟨[.d wJ],[]⟩,⟨aja,[.rows 176 J eC,.rows 4 J .bool,.rows 178 J ip,.rows 2 J aL,.rows 2 J aL,.cells 197 [.d fd,.d fd,.d fd,.d aL,.row 6,.row 7,.d aL],.rows 2 J aL,.rows 36 J (.sl aL)]⟩,dL [(8,(.u 5))]⟩
def TO:co:=cn Ha nF
def G3:FT:=⟨⟨Nj,[]⟩,⟨Nk,[]⟩,dL [(27,(.s 5 0 3 1)),(37,(.j ⟨[],[3,4,5,6,7,9,14,15,16],⟨No,anp⟩,[]⟩)),(38,(.j ⟨[16,77],[3,4,5,6,7,9,14,15,78],⟨OT,anp⟩,[]⟩)),(83,(.j ⟨[16],[3,4,5,6,7,9,14],⟨Nm,[.cells 112 [.d vz],.cells 107 UG,.cells 162 [.d jB],.cells 107 wI,.cells 57 vJ,.cells 57 [.d gX],.cells 197 LS,.rows 2 J aL,.rows 2 J aL,.cells 197 [.d fd,.d fd,.d fd,.d aL,.row 10,.row 11,.d aL],.rows 2 J aL,.rows 36 J (.sl aL)]⟩,[]⟩)),(84,(.j ⟨[16],[3,4,5,6,7,9,14,15,154],⟨OT,anp⟩,[]⟩)),(95,(.j ⟨[],[4,5,6,7,9,14],⟨Nl,ajc⟩,[]⟩)),(96,(.j ⟨[],[3,4,5,6,7,9,14,183],⟨Nn,[.cells 112 [.d vz],.cells 107 UG,.cells 162 [.d jB],.cells 107 wI,.cells 57 vJ,.cells 57 [.d gX],.cells 197 LU,.rows 2 J aL,.rows 2 J aL,.cells 197 [.d fd,.d fd,.d fd,.d aL,.d (.sl aL),.d vK,.d aL]]⟩,[]⟩)),(102,(.s 5 0 3 1)),(104,(.a [.pk 4 6 fd]))]⟩
def Tx:co:=cn G3 kA
def Z9:co:=cn dN AS
def Om:FT:=⟨⟨[.d vz,.d wJ,.nil,.d (.sl jB)],[]⟩,⟨[.d (.sl gX),.d wJ],[]⟩,dL [(1,(.a [.nil 2 57 gX])),(6,(.j ⟨[3],[2,4,5,9,10],⟨[.row 0,.ptr 1 0,.ptr 2 0,.ptr 3 0,.d aL],anf⟩,[]⟩)),(8,(.j ⟨[3,10],[2,4,5,9,22],⟨[.row 0,.ptr 1 0,.ptr 2 0,.ptr 3 0,.d .bool],anf⟩,[]⟩)),(14,(.j ⟨[3,10],[2,4,5,9],⟨[.row 0,.ptr 1 0,.ptr 2 0,.ptr 3 0],anf⟩,[]⟩))]⟩
def Z7:co:=cn Om w9
def Te:FT:=⟨⟨[.d vz,.d (.sl jB)],[]⟩,⟨[.d m8,.d wJ],[]⟩,.leaf⟩
def aee:co:=cn Te zP
def zd:FT:=⟨⟨xH,UE⟩,⟨[.d aL],UE⟩,dL [(3,(.j ⟨[1],[0,18],⟨hP,ab2⟩,[]⟩))]⟩
def Ie:co:=cn zd bA
def Ox:FT:=⟨⟨[.d aL],[]⟩,⟨[.d .ex],[]⟩,.leaf⟩
def aa7:co:=cn Ox r8
def K5:FT:=⟨⟨[.d .str],[]⟩,⟨[.d .ex],[]⟩,.leaf⟩
def W_:co:=cn K5 pZ
def El:FT:=⟨⟨[.d aL,.d .ex,.d .ex],[]⟩,⟨[.d .ex],[]⟩,.leaf⟩
def QF:co:=cn El ox
def Em:FT:=⟨⟨[.d .str,.d .ex],[]⟩,⟨[.d .sm],[]⟩,.leaf⟩
def QH:co:=cn Em jF
def Hu:FT:=⟨⟨[],[]⟩,⟨[.d (.sl HK)],[]⟩,.leaf⟩
def Uh:co:=cn Hu s6
def BZ:FT:=⟨⟨[.d EQ],[]⟩,⟨[.d (.sl jB)],[]⟩,dL [(8,(.j ⟨[0],[3,4],⟨[.row 0,.d aL],[.rows 162 J jB]⟩,[.nil 3 162 jB]⟩))]⟩
def M8:co:=cn BZ pg
def oI:FT:=⟨⟨xH,XH⟩,⟨[.d .ex],XH⟩,dL [(8,(.j ⟨[1,6],[0,4,5,14],⟨[.ptr 0 0,.ptr 3 0,.row 4,.d .bool],[.cells 214 akz,.cells 90 [.d zq],.rowsP 9 .str,.cells 218 [.d aL,.d aL,.d .str,.nil],.rows 9 af .str]⟩,[]⟩))]⟩
def F3:co:=cn oI fy
def Fp (n:Nat):co:=cn oI (iF n)
def wa:FT:=⟨⟨[.ptr 0 0,.d .str],XH⟩,⟨[.d .bool],XH⟩,.leaf⟩
def EE:co:=cn wa eT
def mZ:FT:=⟨⟨UH,XH⟩,⟨[.row 4],[.cells 214 and,.cells 90 Q5,.gone,.rowsP 9 .str,.rows 220 J .sm]⟩,dL [(1,(.a [.ren 0 7])),(8,(.j ⟨[1,2],[0,7,8],⟨[.ptr 0 0,.row 3,.d aL],aqx⟩,[.nil 7 220 .sm]⟩)),(10,(.j ⟨[1,2,8],[0,7,22],⟨[.ptr 0 0,.row 3,.d .bool],aqx⟩,[]⟩)),(21,(.a [.nil 6 220 .sm]))]⟩
def ED:co:=cn mZ qY
def Dy (n:Nat):co:=cn mZ (dQ n)
def su:FT:=⟨⟨xH,XH⟩,⟨[.d .sm],[.cells 214 and,.cells 90 Q5,.gone,.rowsP 9 .str]⟩,dL [(1,(.a [.ren 0 7])),(6,(.j ⟨[1,5],[0,4,6],⟨LR,La2⟩,[]⟩)),(28,(.j ⟨[1,5,6],[0,4,74],⟨LR,La2⟩,[]⟩)),(33,(.j ⟨[],[4,7],⟨[.ptr 3 0,.ptr 4 0],[.cells 214 [.ptr 1 0,.d aL,.d aL,.d .bool,.d .bool,.d .bool,.d .bool,.row 5],.cells 90 [.d zq],.gone,.cells 220 al2,.cells 220 [.d aL,.d aL,.d .str,.d .str,.nil,.d aL,.d aL,.d .str,.d (.sl .ex),.row 6,.row 7],.rowsP 9 .str,.rows 220 J .sm,.rows 220 J .sm]⟩,[.cel 7 10 220 .sm]⟩)),(42,(.j ⟨[1,5,6],[0,4,100],⟨LR,La2⟩,[]⟩)),(56,(.j ⟨[1,5,6],[0,4,133],⟨LR,La2⟩,[]⟩)),(64,(.j ⟨[1,5,6],[0,4,165],⟨LR,La2⟩,[]⟩)),(70,(.j ⟨[1,5,6],[0,4,188],⟨LR,La2⟩,[]⟩)),(82,(.j ⟨[1,5,6],[0,4,210],⟨LR,La2⟩,[]⟩)),(94,(.j ⟨[5,6],[0,4,235],⟨LR,La2⟩,[]⟩)),(100,(.j ⟨[5],[0,4,258],⟨LR,La2⟩,[]⟩)),(106,(.j ⟨[5],[0,4,278],⟨LR,La2⟩,[]⟩)),(114,(.j ⟨[],[0,4,308],⟨LR,La2⟩,[]⟩))]⟩
def Fo (n:Nat):co:=cn su (eP n)
def rz:FT:=⟨⟨[.ptr 0 0,.d .str,.d aL],XH⟩,⟨[.d (.sl .sm)],[.cells 214 and,.cells 90 Q5,.gone,.rowsP 9 .str]⟩,.leaf⟩
def Dz (n:Nat):co:=cn rz (ey n)
def BY:FT:=⟨⟨[.d EQ],[]⟩,⟨[.d OU],[]⟩,dL [(5,(.a [.cel 3 7 9 .str])),(14,(.j ⟨[5],[2,3,4,6,7],⟨[.ptr 0 0,.ptr 1 0,.ptr 2 0,.row 3,.d aL],[.cells 159 [.nil,.nil],.cells 214 [.ptr 4 0,.d aL,.d aL,.d .bool,.d .bool,.d .bool,.d .bool,.row 5],.cells 159 [.d (.sl HK),.row 6],.rows 9 af .str,.cells 90 [.d zq],.rowsP 9 .str,.rows 204 J tR]⟩,[.cel 4 1 204 tR]⟩)),(27,(.j ⟨[5,7],[2,3,4,6,8],⟨[.ptr 0 0,.ptr 1 0,.ptr 2 0,.row 3,.ptr 4 0],La7⟩,[.cel 8 3 220 .sm]⟩)),(34,(.j ⟨[5,7],[2,3,4,6,8,9],⟨[.ptr 0 0,.ptr 1 0,.ptr 2 0,.row 3,.ptr 4 0,.d aL],La7⟩,[.cel 8 3 220 .sm]⟩)),(48,(.j ⟨[5,7],[2,3,4,6,8],⟨[.ptr 0 0,.ptr 1 0,.ptr 2 0,.row 3,.ptr 4 0],La7⟩,[]⟩)),(49,(.j ⟨[5,7],[2,3,4,6,8,79],⟨[.ptr 0 0,.ptr 1 0,.ptr 2 0,.row 3,.ptr 4 0,.d .bool],La7⟩,[]⟩))]⟩
def M7:co:=cn BY pf
def K6:FT:=⟨⟨[.d EQ],[]⟩,⟨[.d vz],[]⟩,.leaf⟩
def Xa:co:=cn K6 xZ
def Hw:FT:=⟨⟨[.d EQ,.d EQ],[]⟩,⟨[.d m8],[]⟩,.leaf⟩
def Ui:co:=cn Hw s7
def D8:FT:=⟨⟨[],[]⟩,⟨[.d mP],[]⟩,dL [(8,(.j ⟨[21],[0,1,22],⟨yG,ar3⟩,[.cel 1 5 139 qe]⟩)),(22,(.j ⟨[2,21,22],[0,1,3],⟨yG,ar3⟩,[]⟩))]⟩
def Ql:co:=cn D8 ol
def Aj:FT:=⟨⟨[.d ja],[]⟩,⟨l7,[]⟩,dL [(8,(.j ⟨[8,9],[3,10],⟨[.row 0,.d aL],[.rows 3 J aL]⟩,[.nil 3 3 aL]⟩)),(16,(.j ⟨[8,9,10],[3],⟨[.row 0],[.rows 3 J aL]⟩,[]⟩))]⟩
def Lh:co:=cn Aj ly
def D6:FT:=⟨⟨[],[]⟩,⟨l7,[]⟩,.leaf⟩
def Qj:co:=cn D6 ui
def BI:FT:=⟨⟨UH,UE⟩,⟨[.d aL],UE⟩,dL [(6,(.j ⟨[2,7],[0,8],⟨hP,ab2⟩,[]⟩)),(16,(.j ⟨[2,7],[0,16],⟨hP,ab2⟩,[]⟩)),(26,(.j ⟨[2,7],[0,21],⟨hP,ab2⟩,[]⟩)),(44,(.j ⟨[2,7],[0,26],⟨hP,ab2⟩,[]⟩)),(70,(.j ⟨[2],[0,33],⟨hP,ab2⟩,[]⟩))]⟩
def MP:co:=cn BI o8
def D5:FT:=⟨⟨[.ptr 0 0,.d ja,.d aL,.d aL],UE⟩,⟨[.d aL],UE⟩,dL [(18,(.j ⟨[10],[0,5,24],⟨qH,[.cells 90 [.d zq],.cells 99 [.d ja]]⟩,[]⟩))]⟩
def Qi:co:=cn D5 qQ
def GW:FT:=⟨⟨[.ptr 0 0,.row 1],[.cells 90 Q5,.rows 3 J aL]⟩,⟨l7,[.cells 90 Q5,.rows 3 J aL]⟩,dL [(8,(.j ⟨[9],[0,1,5,8,10],⟨[.ptr 0 0,.row 1,.row 2,.row 1,.d aL],an8⟩,[.nil 5 3 aL]⟩)),(16,(.j ⟨[9,10],[0,1,5,8],⟨[.ptr 0 0,.row 1,.row 2,.row 1],an8⟩,[]⟩)),(19,(.j ⟨[7,9,10],[0,1,5,8,24],⟨[.ptr 0 0,.row 1,.row 2,.row 1,.d .bool],an8⟩,[]⟩))]⟩
def Tq:co:=cn GW gM
def D7:FT:=⟨⟨[.ptr 0 0,.d ja,.d mP,.csl 1 1 4],aqv⟩,⟨[.d gX],aqv⟩,dL [(8,(.j ⟨[9],[0,3,5,6,8,11],⟨[.ptr 0 0,.csl 1 1 4,.ptr 6 0,.ptr 7 0,.ptr 8 0,.ptr 9 0],ar1⟩,[]⟩)),(9,(.j ⟨[9],[0,3,5,6,8,11,36],⟨[.ptr 0 0,.csl 1 1 4,.ptr 6 0,.ptr 7 0,.ptr 8 0,.ptr 9 0,.d .bool],ar1⟩,[]⟩)),(18,(.j ⟨[9],[0,3,8,11],⟨[.ptr 0 0,.csl 1 1 4,.ptr 6 0,.ptr 7 0],ar2⟩,[]⟩)),(19,(.j ⟨[9],[0,3,8,11,74],⟨[.ptr 0 0,.csl 1 1 4,.ptr 6 0,.ptr 7 0,.d .bool],[.cells 90 [.d zq],.cells 36 afn,.rows 3 J aL,.rows 3 J aL,.rows 3 J aL,.rows 3 J aL,.cells 57 vJ,.cells 57 vJ]⟩,[]⟩)),(22,(.s 9 0 0 4)),(24,(.j ⟨[],[8,11],⟨[.ptr 6 0,.ptr 7 0],[.cells 90 [.d zq],.cells 36 afn,.rows 3 J aL,.rows 3 J aL,.rows 3 J aL,.rows 3 J aL,.cells 57 vJ,.cells 57 [.d aL,.d aL,.d aL,.d aL,.d aL,.d (.sl aL),.d (.sl aL)]]⟩,[]⟩)),(25,(.j ⟨[9],[0,3,8,11,89],⟨[.ptr 0 0,.csl 1 1 4,.ptr 6 0,.ptr 7 0,.d .bool],ar2⟩,[]⟩)),(28,(.s 9 0 0 4))]⟩
def Qk:co:=cn D7 qR
def GY:FT:=⟨⟨[.ptr 0 0,.d ja,.d mP,.d aL,.d .bool],UE⟩,⟨[.d (.sl gX)],UE⟩,dL [(8,(.a [.cel 12 0 3 aL,.cel 12 1 3 aL,.cel 12 2 3 aL,.cel 12 3 3 aL])),(9,(.j ⟨[3,11],[0,6,7,12],⟨[.ptr 0 0,.ptr 1 0,.ptr 2 0,.csl 3 1 4],anl⟩,[]⟩)),(10,(.u 5)),(18,(.j ⟨[3,4,11,22,23],[0,6,7,12],⟨[.ptr 0 0,.ptr 1 0,.ptr 2 0,.csl 3 1 4],anl⟩,[]⟩)),(21,(.j ⟨[3,4,11,13,22,23],[0,6,7,12,39],⟨[.ptr 0 0,.ptr 1 0,.ptr 2 0,.csl 3 1 4,.d .bool],anl⟩,[]⟩)),(29,(.j ⟨[3],[0,6,7,11,12],⟨[.ptr 0 0,.ptr 1 0,.ptr 2 0,.row 3,.csl 4 1 4],anm⟩,[.nil 11 57 gX]⟩)),(31,(.j ⟨[3],[0,6,7,11,12,65],⟨[.ptr 0 0,.ptr 1 0,.ptr 2 0,.row 3,.csl 4 1 4,.d .bool],anm⟩,[]⟩)),(36,(.j ⟨[3],[0,6,7,11,12],⟨[.ptr 0 0,.ptr 1 0,.ptr 2 0,.row 3,.csl 4 1 4],anm⟩,[]⟩)),(47,(.j ⟨[3],[0,6,7,11,12,14,15],⟨[.ptr 0 0,.ptr 1 0,.ptr 2 0,.row 3,.csl 4 1 4,.ptr 5 0,.ptr 6 0],ar4⟩,[]⟩)),(48,(.j ⟨[3],[0,6,7,11,12,14,15,87],⟨[.ptr 0 0,.ptr 1 0,.ptr 2 0,.row 3,.csl 4 1 4,.ptr 5 0,.ptr 6 0,.d .bool],ar4⟩,[]⟩)),(51,(.s 14 0 0 4))]⟩
def Tr:co:=cn GY sX
def D9:FT:=⟨⟨Q5,[]⟩,⟨[.d m8],[]⟩,dL [(2,(.j ⟨[1],[0,4],⟨[.d EQ,.ptr 0 0],[.cells 34 afo]⟩,[]⟩)),(22,(.j ⟨[1,9],[4,5,6,7,8,10],⟨[.ptr 0 0,.ptr 1 0,.ptr 2 0,.ptr 3 0,.row 4,.d aL],[.cells 34 afo,.cells 90 [.d zq],.cells 34 [.d (.sl kX),.d (.sl sA),.d (.sl mn),.d (.sl .str),.d (.sl .str),.d (.sl qe),.nil],.cells 99 [.d ja],.rows 57 af gX]⟩,[]⟩)),(37,(.j ⟨[1,48],[4,5,6,7,47,49],⟨[.ptr 0 0,.ptr 1 0,.ptr 2 0,.ptr 3 0,.row 4,.d aL],ar5⟩,[.cel 6 6 57 gX]⟩)),(45,(.j ⟨[1,48,49],[4,5,6,7,47],⟨[.ptr 0 0,.ptr 1 0,.ptr 2 0,.ptr 3 0,.row 4],ar5⟩,[]⟩))]⟩
def Qm:co:=cn D9 qS
def xv:FT:=⟨⟨[.d (.st (.pr EQ (.pr EQ EQ))),.d aL],[]⟩,⟨[.d m8],[]⟩,.leaf⟩
def FW:co:=cn xv lz
theorem MA:aH Pg 174 M1:=mk BT kQ an b9
theorem J0:aH Pg 149 Ln:=mk Al jU (ac MA an) b9
theorem GD:aH Pg 148 Uc:=mk Hs lV an b9
theorem Wd:aH Pg 175 W3:=mk K4 rZ an b9
theorem Wc:aH Pg 150 W2:=mk K3 pY (ac GD (ac Wd an)) b9
theorem s_:aH Pg 119 Ud:=mk Ht fA (ac GD (ac J0 (ac Wc an))) b9
theorem JZ:aH Pg 227 WP:=mk KX gh an b9
theorem V6:aH Pg 211 WR:=mk KY uU (ac JZ an) b9
theorem St:aH Pg 213 T9:=mk Ho s5 (ac JZ an) b9
theorem V7:aH Pg 210 WS:=mk KZ rX an b9
theorem Mz:aH Pg 234 M0:=mk BS mL an b9
theorem xm:∀n:Nat,aH Pg 228 (HR n)
 |0=>NK pH
 |n+1=>mk pH (mC (io n)) (ac s_ (ac (xm n) (ac Mz an))) b9
theorem yN:aH Pg 228 H_:=(xm fuel)
theorem Wb:aH Pg 229 W1:=mk K2 pW an b9
theorem sh:∀n:Nat,aH Pg 214 (HQ n)/\aH Pg 184 (Fn n)
 |0=>⟨NK tQ,NK oH⟩
 |n+1=>⟨mk tQ (kw (eL n) (dO n)) (ac s_ (ac (sh n).2 (ac yN (ac Wb an)))) b9,mk oH (jK (eL n) (dO n)) (ac (sh n).1 an) b9⟩
theorem Fz:aH Pg 184 FZ:=(sh fuel).2
theorem HX:aH Pg 183 H9:=mk yY kr (ac s_ an) b9
theorem Sv:aH Pg 157 Ub:=mk Hr qu (ac s_ (ac HX (ac Fz an))) b9
theorem vY:aH Pg 120 ai9:=mk YG ji an b9
theorem vX:aH Pg 185 Ua:=mk Hq im an b9
theorem wC:aH Pg 186 MZ:=mk BR hX an b9
theorem Su:aH Pg 230 T_:=mk Hp qr (ac vY (ac vX (ac wC an))) b9
theorem N3:aH Pg 217 aa2:=mk Ov gP (ac Su an) b9
theorem GJ:∀n:Nat,aH Pg 231 (VM n)
 |0=>NK yr
 |n+1=>mk yr (vj (nZ n)) (ac (GJ n) an) b9
theorem V_:aH Pg 231 WY:=(GJ fuel)
theorem GG:∀n:Nat,aH Pg 232 (VK n)
 |0=>NK yq
 |n+1=>mk yq (vi (nY n)) (ac N3 (ac (GG n) an)) b9
theorem V8:aH Pg 232 WU:=(GG fuel)
theorem ZD:aH Pg 218 aa3:=mk Ow mK (ac yN (ac V_ (ac V8 an))) b9
theorem P1:aH Pg 219 Qx:=mk Ei dh an b9
theorem ahj:aH Pg 216 ai8:=mk YF jh an b9
theorem Fy:aH Pg 215 FY:=mk xx em an b9
theorem Mx:aH Pg 187 MX:=mk BQ mJ (ac vY (ac vX (ac wC (ac Fy (ac ahj (ac N3 (ac ZD (ac P1 an)))))))) b9
theorem z_:∀n:Nat,aH Pg 161 (Mp n)
 |0=>NK sR
 |n+1=>mk sR (mN (iO n)) (ac (z_ n) (ac Mx an)) b9
theorem My:aH Pg 161 MY:=(z_ fuel)
theorem GM:∀n:Nat,aH Pg 160 (VN n)
 |0=>NK yw
 |n+1=>mk yw (vk (n_ n)) (ac (GM n) an) b9
theorem Wa:aH Pg 160 WZ:=(GM fuel)
theorem V9:aH Pg 158 WV:=mk K0 rY (ac vX an) b9
theorem P0:aH Pg 159 Qw:=mk Eh ou (ac vY (ac vX (ac wC an))) b9
theorem yc:aH Pg 123 Qy:=mk Ej fI (ac Sv (ac V9 (ac P0 (ac Wa (ac My an))))) b9
theorem GF:∀n:Nat,aH Pg 163 (VH n)
 |0=>NK yp
 |n+1=>mk yp (yd (qc n)) (ac (GF n) an) b9
theorem V0:aH Pg 163 WH:=(GF fuel)
theorem Gy:aH Pg 162 T6:=mk Hl kC an b9
theorem GA:aH Pg 220 T8:=mk Hn lU an b9
theorem V5:aH Pg 124 WN:=mk KV uT (ac yc (ac Gy (ac V0 an))) b9
theorem V2:aH Pg 118 WJ:=mk KP pU an b9
theorem yM:aH Pg 79 H8:=mk yX il (ac V2 (ac s_ (ac vY an))) b9
theorem vg:aH Pg 127 Lm:=mk Ak jT an b9
theorem Gz:aH Pg 177 T7:=mk Hm qp an b9
theorem V3:aH Pg 152 WL:=mk KQ pV (ac Gz an) b9
theorem PY:aH Pg 153 ai7:=mk YE jE an b9
theorem V4:aH Pg 176 WM:=mk KU nR (ac PY an) b9
theorem PW:aH Pg 151 Qt:=mk Ee mf (ac PY (ac V4 an)) b9
theorem Fx:aH Pg 121 FX:=mk xw iD (ac vg (ac PW (ac V3 (ac PY an)))) b9
theorem CI:aH Pg 81 WO:=mk KW jS (ac yM (ac Fx an)) b9
theorem oC:aH Pg 126 Qu:=mk Ef cN an b9
theorem yP:∀n:Nat,aH Pg 192 (JH n)
 |0=>NK ru
 |n+1=>mk ru (ri (iU n)) (ac vY (ac oC (ac (yP n) (ac GA an)))) b9
theorem ve:aH Pg 192 Lk:=(yP fuel)
theorem HW:aH Pg 188 H7:=mk yW mw (ac vY (ac oC (ac ve (ac GA an)))) b9
theorem Mw:aH Pg 191 MW:=mk BP jI an b9
theorem ku:∀n:Nat,aH Pg 125 (JI n)/\aH Pg 164 (Mo n)/\aH Pg 189 (Dx n)/\aH Pg 190 (HP n)
 |0=>⟨NK rx,NK wF,NK ry,NK tP⟩
 |n+1=>⟨mk rx (rj (dV n) (eV n) (dw n) (dP n)) (ac (ku n).2.1 an) b9,mk wF (sP (dV n) (eV n) (dw n) (dP n)) (ac vY (ac oC (ac Gy (ac HW (ac (ku n).2.2.1 (ac (ku n).2.2.2 (ac Mw (ac ve an)))))))) b9,mk ry (mV (dV n) (eV n) (dw n) (dP n)) (ac (ku n).1 (ac oC (ac ve an))) b9,mk tP (pB (dV n) (eV n) (dw n) (dP n)) (ac (ku n).1 (ac oC an)) b9⟩
theorem JY:aH Pg 125 Ll:=(ku fuel).1
theorem PZ:aH Pg 84 Qv:=mk Eg qX (ac yc (ac V5 (ac JY (ac oC (ac vg an))))) b9
theorem JX:aH Pg 109 aeg:=mk Tg qW an b9
theorem adp:aH Pg 146 aef:=mk Tf xc an b9
theorem JW:aH Pg 112 WG:=mk KN rW (ac adp an) b9
theorem Mv:aH Pg 212 MV:=mk BO mI an b9
theorem lD:aH Pg 181 aa1:=mk Ou cz an b9
theorem ZC:aH Pg 182 aa0:=mk Ot xa (ac JW (ac vg (ac V6 (ac Mv (ac St an))))) b9
theorem jJ:aH Pg 156 T5:=mk Hk nQ (ac Gz (ac lD (ac ZC an))) b9
theorem JV:aH Pg 71 WE:=mk KL rU an b9
theorem Fw:aH Pg 106 Z_:=mk Oo rV an b9
theorem Yp:aH Pg 107 ai6:=mk YD qV an b9
theorem VZ:aH Pg 108 WD:=mk KK uR (ac Yp an) b9
theorem DH:aH Pg 74 Qs:=mk Ed kB (ac Fw (ac Yp (ac VZ (ac JX an)))) b9
theorem PU:aH Pg 110 Qr:=mk Ec oq an b9
theorem PR:aH Pg 113 Qq:=mk Eb qU an b9
theorem lB:aH Pg 111 Z':=mk Oq iC an b9
theorem Mu:aH Pg 110 MU:=mk mO mH an b9
theorem JU:aH Pg 110 Lj:= @aH.ro Pg 110 mO.pre mO.post.vs mH jR (Mu.holds rfl) rfl (λx _ h=>by rw[show jR x=au (mH x) λy=>same y.2 x.2 (M y.1) from rfl]at h;exact h)
theorem jW:aH Pg 77 WF:=mk KM pR (ac DH (ac JX (ac JU (ac lB (ac JW (ac PR an)))))) b9
theorem VY:aH Pg 83 WC:=mk KJ uQ (ac JV (ac CI an)) b9
theorem ZA:aH Pg 178 Z8:=mk On w_ (ac CI (ac Fw an)) b9
theorem Zy:aH Pg 179 Z6:=mk Ol w7 an b9
theorem R8:aH Pg 180 Tw:=mk G2 sZ (ac V7 an) b9
theorem iN:aH Pg 154 Qp:=mk Ea oo (ac ZA (ac Zy (ac R8 an))) b9
theorem JS:aH Pg 39 Wz:=mk KH nC (ac JV an) b9
theorem Zx:aH Pg 72 Z5:=mk Oj wZ (ac Fw an) b9
theorem ahi:aH Pg 73 ai5:=mk YC Dt an b9
theorem PQ:aH Pg 75 Qo:=mk D' om an b9
theorem VV:aH Pg 76 Wx:=mk KE uO (ac JX (ac PU an)) b9
theorem Fv:aH Pg 41 Z4:=mk Oi rT (ac Zx (ac ahi (ac DH (ac PQ (ac VV (ac jW an)))))) b9
theorem VW:aH Pg 80 Wy:=mk KF rS an b9
theorem VX:aH Pg 43 WA:=mk KI uP (ac JS (ac Fv (ac yM (ac VW an)))) b9
def Nt (t:TypeId):I Ty:=if aB t 197 then M (.pr .un fd) else b9 t
theorem Ss:aH Pg 155 T4:=mk Hj nP (ac lB (ac lD an)) Nt
theorem Si:aH Pg 122 TN:=mk G' gm (ac jW (ac iN (ac Ss (ac jJ an)))) Nt
theorem Sr:aH Pg 155 T3:=mk Hi nO (ac lB (ac lD an)) Nt
theorem Sg:aH Pg 122 TK:=mk G_ gO (ac jW (ac iN (ac Sr (ac jJ an)))) Nt
theorem Sq:aH Pg 155 T2:=mk Hh nN (ac lB (ac lD an)) Nt
theorem Sf:aH Pg 122 TJ:=mk G9 gk (ac jW (ac iN (ac Sq (ac jJ an)))) Nt
theorem Sp:aH Pg 155 TZ:=mk Hg nM (ac lB (ac lD an)) Nt
theorem Se:aH Pg 122 TI:=mk G8 jH (ac jW (ac iN (ac Sp (ac jJ an)))) Nt
theorem So:aH Pg 155 TY:=mk Hf nL (ac lB (ac lD an)) Nt
theorem Sd:aH Pg 122 TE:=mk G7 iS (ac jW (ac iN (ac So (ac jJ an)))) Nt
theorem Sn:aH Pg 155 TX:=mk He nK (ac lB (ac lD an)) Nt
theorem Sc:aH Pg 122 TD:=mk G6 ik (ac jW (ac iN (ac Sn (ac jJ an)))) Nt
theorem Sm:aH Pg 155 TW:=mk Hd nJ (ac lB (ac lD an)) Nt
theorem Sb:aH Pg 122 TB:=mk dN nE (ac jW (ac iN (ac Sm (ac jJ an)))) Nt
theorem Sl:aH Pg 155 TU:=mk Hc nI (ac lB (ac lD an)) Nt
theorem Sa:aH Pg 122 TA:=mk G5 nD (ac jW (ac iN (ac Sl (ac jJ an)))) Nt
theorem Sk:aH Pg 155 TQ:=mk Hb nG (ac lB (ac lD an)) Nt
theorem R_:aH Pg 122 Tz:=mk G4 lQ (ac jW (ac iN (ac Sk (ac jJ an)))) Nt
theorem Sj:aH Pg 155 TO:=mk Ha nF (ac lB (ac lD an)) Nt
theorem R9:aH Pg 122 Tx:=mk G3 kA (ac jW (ac iN (ac Sj (ac jJ an)))) Nt
theorem ZB:aH Pg 122 Z9:=(aH.orE (pre:=dN.pre) (post:=dN.post) (m:=nE) (m':=(λx=>orE (nD x) ((λx=>orE (lQ x) ((λx=>orE (kA x) ((λx=>orE (jH x) ((λx=>orE (iS x) ((λx=>orE (ik x) ((λx=>orE (gO x) ((λx=>orE (gk x) (gm x)) x)) x)) x)) x)) x)) x)) x))) rfl Sb (aH.orE (pre:=dN.pre) (post:=dN.post) (m:=nD) (m':=(λx=>orE (lQ x) ((λx=>orE (kA x) ((λx=>orE (jH x) ((λx=>orE (iS x) ((λx=>orE (ik x) ((λx=>orE (gO x) ((λx=>orE (gk x) (gm x)) x)) x)) x)) x)) x)) x))) rfl Sa (aH.orE (pre:=dN.pre) (post:=dN.post) (m:=lQ) (m':=(λx=>orE (kA x) ((λx=>orE (jH x) ((λx=>orE (iS x) ((λx=>orE (ik x) ((λx=>orE (gO x) ((λx=>orE (gk x) (gm x)) x)) x)) x)) x)) x))) rfl R_ (aH.orE (pre:=dN.pre) (post:=dN.post) (m:=kA) (m':=(λx=>orE (jH x) ((λx=>orE (iS x) ((λx=>orE (ik x) ((λx=>orE (gO x) ((λx=>orE (gk x) (gm x)) x)) x)) x)) x))) rfl R9 (aH.orE (pre:=dN.pre) (post:=dN.post) (m:=jH) (m':=(λx=>orE (iS x) ((λx=>orE (ik x) ((λx=>orE (gO x) ((λx=>orE (gk x) (gm x)) x)) x)) x))) rfl Se (aH.orE (pre:=dN.pre) (post:=dN.post) (m:=iS) (m':=(λx=>orE (ik x) ((λx=>orE (gO x) ((λx=>orE (gk x) (gm x)) x)) x))) rfl Sd (aH.orE (pre:=dN.pre) (post:=dN.post) (m:=ik) (m':=(λx=>orE (gO x) ((λx=>orE (gk x) (gm x)) x))) rfl Sc (aH.orE (pre:=dN.pre) (post:=dN.post) (m:=gO) (m':=(λx=>orE (gk x) (gm x))) rfl Sg (aH.orE (pre:=dN.pre) (post:=dN.post) (m:=gk) (m':=gm) rfl Sf Si)))))))))
theorem Zz:aH Pg 82 Z7:=mk Om w9 (ac ZB an) b9
theorem ado:aH Pg 44 aee:=mk Te zP (ac CI (ac Zz (ac VY an))) b9
theorem fV:aH Pg 40 Ie:=mk zd bA an b9
theorem FB:aH Pg 131 aa7:=mk Ox r8 an b9
theorem J6:aH Pg 195 W_:=mk K5 pZ an b9
theorem DN:aH Pg 194 QF:=mk El ox an b9
theorem DO:aH Pg 130 QH:=mk Em jF an b9
theorem Sy:aH Pg 128 Uh:=mk Hu s6 an b9
theorem MH:aH Pg 46 M8:=mk BZ pg an b9
theorem vZ:∀n:Nat,aH Pg 193 (Fp n)
 |0=>NK oI
 |n+1=>mk oI (oE (iF n)) (ac fV (ac FB (ac (vZ n) (ac DN (ac J6 an))))) b9
theorem FC:aH Pg 193 F3:=(vZ fuel)
theorem DM:aH Pg 196 EE:=mk wa eT (ac vY an) b9
theorem jX:∀n:Nat,aH Pg 129 (Dy n)/\aH Pg 165 (Fo n)/\aH Pg 197 (Dz n)
 |0=>⟨NK mZ,NK su,NK rz⟩
 |n+1=>⟨mk mZ (mX (dQ n) (eP n) (ey n)) (ac (jX n).2.1 an) b9,mk su (oD (dQ n) (eP n) (ey n)) (ac fV (ac (jX n).1 (ac DO (ac FB (ac FC (ac DN (ac J6 (ac DM (ac (jX n).2.2 an))))))))) b9,mk rz (mY (dQ n) (eP n) (ey n)) (ac fV (ac (jX n).1 an)) b9⟩
theorem DL:aH Pg 129 ED:=(jX fuel).1
theorem MG:aH Pg 85 M7:=mk BY pf (ac fV (ac yc (ac Sy (ac DL (ac DO (ac FB an)))))) b9
theorem Wf:aH Pg 45 Xa:=mk K6 xZ (ac PZ (ac MG an)) b9
theorem Sz:aH Pg 21 Ui:=mk Hw s7 (ac ado (ac Wf (ac MH an))) b9
theorem PN:aH Pg 38 Ql:=mk D8 ol an b9
theorem JO:aH Pg 147 Lh:=mk Aj ly an b9
theorem PK:aH Pg 114 Qj:=mk D6 ui an b9
theorem Mr:aH Pg 115 MP:=mk BI o8 (ac fV an) b9
theorem PI:aH Pg 116 Qi:=mk D5 qQ (ac fV (ac JO an)) b9
theorem R4:aH Pg 117 Tq:=mk GW gM (ac fV an) b9
theorem PL:aH Pg 78 Qk:=mk D7 qR (ac fV (ac PK (ac Mr (ac PI (ac R4 an))))) b9
def tv1 (t:TypeId):I Ty:=if aB t 36 then M (.pr .un (.pr .un (.pr .un (.pr .un (.pr .un (.sl aL)))))) else b9 t
theorem R5:aH Pg 42 Tr:=mk GY sX (ac fV (ac Fv (ac PL an))) tv1
theorem PO:aH Pg 20 Qm:=mk D9 qS (ac PN (ac JS (ac fV (ac Fv (ac R5 (ac VX an)))))) b9
theorem Fu:aH Pg 7 FW:=mk xv lz (ac PO (ac Sz an)) b9
abbrev an5:Y PV:=[.row 1,.row 2,.row 3,.row 4,.row 5,.row 6,.d (.sl aL),.row 7,.row 8]
abbrev Ld0:Y PB:=[.cells 78 an5,.rows 36 af (.sl aL),.rows 36 af (.sl aL),.rows 36 af (.sl aL),.rows 36 af (.sl aL),.rows 36 af (.sl aL),.rows 36 af (.sl aL),.rows 36 af (.sl aL),.rows 3 J aL,.rows 3 af aL]
abbrev Ld4:Y PV:=[.d aL,.d aL,.d aL,.d aL,.d aL,.d (.sl aL),.d (.sl aL)]
abbrev Ld3:Y PV:=[.d (.sl kX),.d (.sl sA),.d (.sl mn),.d (.sl .str),.d (.sl .str),.d (.sl qe)]
abbrev Ld1:Y PB:=[.cells 57 Ld4,.cells 78 [.row 3,.row 4,.row 5,.row 6,.row 7,.row 8,.d (.sl aL),.row 9,.row 10],.cells 31 Ld3,.rows 36 af (.sl aL),.rows 36 af (.sl aL),.rows 36 af (.sl aL),.rows 36 af (.sl aL),.rows 36 af (.sl aL),.rows 36 af (.sl aL),.rows 36 af (.sl aL),.rows 3 J aL]
abbrev Ld2:Y PB:=[.cells 78 an5,.rows 36 af (.sl aL),.rows 36 af (.sl aL),.rows 36 af (.sl aL),.rows 36 af (.sl aL),.rows 36 af (.sl aL),.rows 36 af (.sl aL),.rows 36 af (.sl aL),.rows 3 J aL,.rows 3 af aL,.cells 57 Ld4]
abbrev Ld5:Y PB:=[.rows 176 af eC,.rows 4 J .bool,.rows 178 J ip,.cells 96 Im]
abbrev Ld6:Y PB:=[.rows 176 af eC,.rows 4 J .bool,.rows 178 J ip]
abbrev OR:Y PB:=[.rows 3 J aL]
abbrev Ld8:Y PB:=[.cells 99 [.d ja],.cells 57 [.d gX],.cells 226 [.d Kd1]]
abbrev Ld9:Y PB:=[.rows 3 J aL,.cells 3 [.d aL]]
abbrev aqs:Y PB:=[.cells 31 [.d mP],.cells 96 [.row 4,.d aL,.row 5,.row 6],.cells 3 [.d aL],.cells 96 CY,.rows 176 af eC,.rows 4 J .bool,.rows 178 J ip]
abbrev Nh:Y PB:=[.rows 3 af aL]
abbrev aqr:Y PB:=[.cells 96 CY,.cells 96 [.row 2,.d aL,.row 3,.row 4],.rows 176 af eC,.rows 4 af .bool,.rows 178 af ip]
abbrev Q3:Y PV:=[.row 0,.d aL]
abbrev afm:Y PB:=[.rows 36 af (.sl aL)]
abbrev an4:Y PB:=[.rows 36 af (.sl aL),.rows 3 af aL]
abbrev ab1:Y PB:=[.cells 57 [.d gX]]
abbrev afl:Y PV:=[.d (.sl aL),.d (.sl aL)]
abbrev an3:Y PV:=[.ptr 0 0,.ptr 1 0,.ptr 2 0]
def OC:FT:=⟨⟨Il,[]⟩,⟨[.d aL],[]⟩,dL [(3,(.j ⟨[0,1],[12],⟨[.d .bool],[]⟩,[]⟩))]⟩
def aad:co:=cn OC gu
def Hz:FT:=⟨⟨afl,[]⟩,⟨l7,[]⟩,dL [(8,(.j ⟨[0,1,14],[5,15],⟨Q3,Nh⟩,[]⟩))]⟩
def Un:co:=cn Hz kF
def YB:FT:=⟨⟨Il,[]⟩,⟨[.d aL],[]⟩,dL [(3,(.j ⟨[0,1],[12],⟨[.d .bool],[]⟩,[]⟩))]⟩
def ai4:co:=cn YB sI
def Of:FT:=⟨⟨afl,[]⟩,⟨l7,[]⟩,dL [(8,(.j ⟨[0,1,14],[5,15],⟨Q3,Nh⟩,[]⟩))]⟩
def Z1:co:=cn Of qn
def YH:FT:=⟨⟨l7,[]⟩,⟨l7,[]⟩,.leaf⟩
def EH:co:=cn YH Py
def am7:co:=⟨EH.pre,EH.post,CA⟩
def K9:FT:=⟨⟨[.d vK],[]⟩,⟨[.row 0],afm⟩,dL [(8,(.j ⟨[9,10],[3,11],⟨Q3,afm⟩,[]⟩))]⟩
def Xc:co:=cn K9 iE
def To:FT:=⟨⟨l7,[]⟩,⟨[.row 0],OR⟩,dL [(8,(.a [.nil 2 3 aL])),(12,(.a [.nil 2 3 aL]))]⟩
def Ay:co:=cn To JB
def aih:co:=⟨Ay.pre,Ay.post,pA⟩
def K_:FT:=⟨⟨[.d Kd0],[]⟩,⟨[.agg [.row 0,.row 1,.row 2,.row 3,.row 4,.row 5,.d (.sl aL),.row 6,.row 7]],[.rows 36 af (.sl aL),.rows 36 af (.sl aL),.rows 36 af (.sl aL),.rows 36 af (.sl aL),.rows 36 af (.sl aL),.rows 36 af (.sl aL),.rows 36 af (.sl aL),.rows 3 J aL]⟩,.leaf⟩
def Xd:co:=cn K_ uW
def Oy:FT:=⟨⟨Q3,afm⟩,⟨l7,afm⟩,dL [(3,(.j ⟨[1],[0,12],⟨[.row 0,.d .bool],afm⟩,[]⟩))]⟩
def aa8:co:=cn Oy uz
def La:FT:=⟨⟨an3,Ld1⟩,⟨[.d vK],Ld1⟩,dL [(18,(.j ⟨[6],[0,1,2,25],⟨CZ,Ld1⟩,[]⟩))]⟩
def Xe:co:=cn La uX
def OA:FT:=⟨⟨[.d mP],[]⟩,⟨[.d Kd0],[]⟩,dL [(8,(.j ⟨[40],[2,3,41],⟨yG,[.cells 78 [.nil,.nil,.nil,.nil,.nil,.nil,.nil,.nil,.nil],.cells 78 [.row 2,.row 3,.row 4,.row 5,.row 6,.row 7,.nil,.row 8,.row 9],.rows 36 af (.sl aL),.rows 36 af (.sl aL),.rows 36 af (.sl aL),.rows 36 af (.sl aL),.rows 36 af (.sl aL),.rows 36 af (.sl aL),.rows 36 af (.sl aL),.rows 3 af aL]⟩,[]⟩))]⟩
def aaa:co:=cn OA qw
def Hy:FT:=⟨⟨Il,[]⟩,⟨[.row 0],Nh⟩,dL [(4,(.j ⟨[0,1,5],[6],⟨[.d .bool],[]⟩,[]⟩)),(6,(.j ⟨[0,1,6],[5],⟨[.d aL],[]⟩,[]⟩)),(16,(.j ⟨[],[7],⟨[.row 0],Nh⟩,[]⟩)),(17,(.j ⟨[1],[7,33],⟨[.row 0,.d .bool],Nh⟩,[]⟩))]⟩
def Um:co:=cn Hy s9
def xz:FT:=⟨⟨[.row 0],Nh⟩,⟨l7,Nh⟩,.leaf⟩
def aer:co:=cn xz xh
def aig:co:=⟨xz.pre,⟨xz.post.vs,[]⟩,vT⟩
def Ba:FT:=⟨⟨[.d (.sl aL),.row 0],Nh⟩,⟨l7,Nh⟩,dL [(8,(.j ⟨[0,14],[1,5,15],⟨[.row 0,.row 1,.d aL],[.rows 3 af aL,.rows 3 af aL]⟩,[]⟩))]⟩
def aie:co:=cn Ba ul
def am6:co:=⟨Ba.pre,⟨Ba.post.vs,[]⟩,Cz⟩
def K7:FT:=⟨⟨[.row 0,.d aL,.row 1],an4⟩,⟨[],an4⟩,dL [(0,(.j ⟨[1],[0,2,13],⟨[.row 0,.row 1,.d .bool],an4⟩,[]⟩))]⟩
def Xb:co:=cn K7 mg
def Th:FT:=⟨⟨[.ptr 0 0,.d aL,.row 9],Ld0⟩,⟨[],Ld0⟩,.leaf⟩
def aem:co:=cn Th xd
def Oz:FT:=⟨⟨[.d mP,.ptr 0 0,.d gX,.row 9],Ld0⟩,⟨[],Ld0⟩,dL [(6,(.j ⟨[],[],⟨[],Ld0⟩,[]⟩)),(11,(.j ⟨[20],[1,3,4,6,32],⟨[.ptr 0 0,.row 9,.ptr 10 0,.ptr 11 0,.d .bool],[.cells 78 an5,.rows 36 af (.sl aL),.rows 36 af (.sl aL),.rows 36 af (.sl aL),.rows 36 af (.sl aL),.rows 36 af (.sl aL),.rows 36 af (.sl aL),.rows 36 af (.sl aL),.rows 3 J aL,.rows 3 af aL,.cells 31 Ld3,.cells 57 Ld4]⟩,[]⟩)),(48,(.j ⟨[],[1,3,6,129],⟨[.ptr 0 0,.row 9,.ptr 10 0,.d .bool],Ld2⟩,[]⟩)),(59,(.j ⟨[141],[1,3,6,140,142],⟨[.ptr 0 0,.row 9,.ptr 10 0,.row 8,.d aL],Ld2⟩,[]⟩)),(67,(.j ⟨[141,142],[1,3,6,140],⟨[.ptr 0 0,.row 9,.ptr 10 0,.row 8],Ld2⟩,[]⟩))]⟩
def aa9:co:=cn Oz r9
def Ti:FT:=⟨⟨[.d mP,.d Kd0,.d gX],[]⟩,⟨[.d Kd0,.row 0],Nh⟩,dL [(14,(.j ⟨[22,23],[3,5,6,7,24],⟨[.ptr 0 0,.ptr 1 0,.ptr 2 0,.ptr 3 0,.d aL],[.cells 31 Ld3,.cells 57 Ld4,.cells 78 [.row 4,.row 5,.row 6,.row 7,.row 8,.row 9,.d (.sl aL),.row 10,.row 11],.cells 36 l7,.rows 36 af (.sl aL),.rows 36 af (.sl aL),.rows 36 af (.sl aL),.rows 36 af (.sl aL),.rows 36 af (.sl aL),.rows 36 af (.sl aL),.rows 36 af (.sl aL),.rows 3 J aL]⟩,[]⟩))]⟩
def aen:co:=cn Ti s8
def Oh:FT:=⟨⟨l7,[]⟩,⟨l7,[]⟩,.leaf⟩
def Z3:co:=cn Oh AQ
def KC:FT:=⟨⟨l7,[]⟩,⟨[.row 0],OR⟩,dL [(4,(.a [.nil 2 3 aL]))]⟩
def Ww:co:=cn KC rR
def Ob:FT:=⟨⟨Il,[]⟩,⟨l7,[]⟩,dL [(5,(.j ⟨[1],[0,12],⟨[.row 0,.d .bool],OR⟩,[]⟩)),(14,(.j ⟨[1],[0],⟨[.row 0],OR⟩,[]⟩)),(23,(.j ⟨[],[0],⟨[.row 0],OR⟩,[]⟩))]⟩
def ZX:co:=cn Ob qm
def Td:FT:=⟨⟨afl,[]⟩,⟨[.d .bool],[]⟩,dL [(6,(.j ⟨[0,1],[5],⟨[.d aL],[]⟩,[]⟩))]⟩
def aed:co:=cn Td o_
def Od:FT:=⟨⟨afl,[]⟩,⟨[.d .bool],[]⟩,dL [(2,(.j ⟨[],[4],⟨[.d .bool],[]⟩,[]⟩))]⟩
def ZZ:co:=cn Od rP
def KB:FT:=⟨⟨[.d mP,.d aL],[]⟩,⟨[.d aL],[]⟩,dL [(3,(.j ⟨[1],[2,13],⟨hP,[.cells 31 Ld3]⟩,[]⟩))]⟩
def Wv:co:=cn KB rQ
def BN:FT:=⟨⟨[.d mP,.d gX],[]⟩,⟨[.d aL,.d .bool],[]⟩,dL [(6,(.j ⟨[7],[2,3,8],⟨qH,[.cells 31 Ld3,.cells 57 Ld4]⟩,[]⟩))]⟩
def MT:co:=cn BN pa
def BK:FT:=⟨⟨[.d mP,.d gX],[]⟩,⟨[.d aL,.d .bool],[]⟩,dL [(6,(.j ⟨[7],[2,3,8],⟨qH,[.cells 31 Ld3,.cells 57 Ld4]⟩,[]⟩))]⟩
def MR:co:=cn BK o9
def xu:FT:=⟨⟨[.d .str],[]⟩,⟨[.d .bool],[]⟩,dL [(6,(.j ⟨[0,5],[6],⟨[.d aL],[]⟩,[]⟩))]⟩
def FU:co:=cn xu lx
def BH:FT:=⟨⟨[.d .str],[]⟩,⟨[.d .bool],[]⟩,dL [(3,(.j ⟨[0],[16],⟨[.d .bool],[]⟩,[]⟩)),(14,(.j ⟨[],[18],⟨[.ptr 0 0],[.mp mn .un]⟩,[]⟩)),(24,(.j ⟨[],[18],⟨[.ptr 0 0],[.mp mn .un]⟩,[]⟩)),(25,(.j ⟨[3,4],[18,23],⟨hP,[.mp mn .un]⟩,[]⟩)),(29,(.j ⟨[],[18,38],⟨hP,[.mp mn .un]⟩,[]⟩))]⟩
def MO:co:=cn BH o7
def Ld:FT:=⟨⟨Il,[]⟩,⟨[.d aL],[]⟩,dL [(6,(.j ⟨[0,1,7],[8],⟨[.d aL],[]⟩,[]⟩))]⟩
def Xk:co:=cn Ld r_
def B5:FT:=⟨⟨Il,[]⟩,⟨[.d .bool],[]⟩,.leaf⟩
def Nb:co:=cn B5 kS
def B4:FT:=⟨⟨[.d (.sl aL),.d jB],[]⟩,⟨[.d .bool],[]⟩,.leaf⟩
def Na:co:=cn B4 eU
def ze:FT:=⟨⟨wH,[]⟩,⟨[.d .bool],[]⟩,dL [(2,(.j ⟨[],[4],⟨[.d .bool],[]⟩,[]⟩))]⟩
def If:co:=cn ze tJ
def zf:FT:=⟨⟨[.d mP,.d aL,.d .bool],[]⟩,⟨[.d .bool],[]⟩,dL [(2,(.j ⟨[],[6],⟨[.d .bool],[]⟩,[]⟩))]⟩
def Ig:co:=cn zf tK
def t8:FT:=⟨⟨[.d (.sl kX)],[]⟩,⟨[.d (.sl .str),.d .bool],[]⟩,dL [(8,(.j ⟨[0],[4,5],⟨Q3,[.rows 9 J .str]⟩,[.nil 4 9 .str]⟩)),(15,(.j ⟨[0],[4,5],⟨Q3,[.rows 9 J .str]⟩,[]⟩)),(37,(.j ⟨[0,5],[4,6,49],⟨[.row 0,.ptr 1 0,.d .bool],[.rows 9 J .str,.cells 60 [.d kX]]⟩,[]⟩)),(48,(.j ⟨[0,5,51],[4,6,52],⟨[.row 0,.ptr 1 0,.d aL],[.rows 9 J .str,.cells 60 [.d kX]]⟩,[]⟩))]⟩
def Bv:co:=cn t8 ie
def t7:FT:=⟨⟨[.d mP,.d (.sl .str)],[]⟩,⟨[.d .bool],[]⟩,dL [(10,(.j ⟨[17,18],[2,5,19],⟨Ni,ab4⟩,[]⟩)),(27,(.j ⟨[30,31],[2,5,32],⟨Ni,ab4⟩,[]⟩)),(50,(.j ⟨[52],[10,51,53],⟨[.mp 0,.row 1,.d aL],[.mp .str .bool,.rows 9 J .str]⟩,[.mpt 10 .str .bool]⟩)),(62,(.j ⟨[12,52,53],[10,51,64],⟨[.mp 0,.row 1,.d .bool],[.mp .str .bool,.rows 9 J .str]⟩,[.mpt 10 .str .bool]⟩))]⟩
def Bu:co:=cn t7 dW
def tZ:FT:=⟨⟨[.d mP],[]⟩,⟨[.d .bool],[]⟩,dL [(8,(.j ⟨[8,9],[1,3,4,10],⟨[.ptr 0 0,.d aL,.d aL,.d aL],qG⟩,[]⟩)),(20,(.j ⟨[3,4,8,9,10],[1,6,25],⟨qH,[.cells 31 [.d mP],.cells 139 [.d qe]]⟩,[]⟩)),(27,(.j ⟨[8,9,10],[1,3,4,6],⟨[.ptr 0 0,.d aL,.d aL,.ptr 1 0],[.cells 31 [.d mP],.cells 139 [.d qe]]⟩,[]⟩))]⟩
def Bt:co:=cn tZ gi
def t_:FT:=⟨⟨[.d mP],[]⟩,⟨[.d .bool],[]⟩,dL [(3,(.j ⟨[],[1,34],⟨hP,qG⟩,[]⟩)),(11,(.j ⟨[],[1,44],⟨hP,qG⟩,[]⟩)),(21,(.j ⟨[],[1,58],⟨hP,qG⟩,[]⟩)),(32,(.j ⟨[60,61],[1,62],⟨xH,qG⟩,[]⟩))]⟩
def Bw:co:=cn t_ dX
def BX:FT:=⟨⟨[.d mP],[]⟩,⟨[.d Io],[]⟩,dL [(8,(.j ⟨[20],[2,3,21],⟨yG,aqr⟩,[]⟩)),(21,(.j ⟨[],[2,3],⟨[.ptr 0 0,.ptr 1 0],aqr⟩,[]⟩))]⟩
def M5:co:=cn BX pe
def v9:FT:=⟨⟨[.d mP],[]⟩,⟨[.d ja],[]⟩,dL [(8,(.j ⟨[22,23],[2,3,24],⟨yG,[.cells 99 wI,.cells 99 [.d (.sl eC),.d aL,.d qI,.d (.sl ip),.row 2,.row 3,.row 4],.rows 2 af aL,.rows 2 af aL,.rows 3 af aL]⟩,[]⟩))]⟩
def Ew:co:=cn v9 dD
def tw:FT:=⟨⟨[.d qI,.d gX],[]⟩,⟨[.d .bool],[]⟩,dL [(6,(.j ⟨[0,13],[14],⟨[.d aL],[]⟩,[]⟩)),(20,(.j ⟨[0,13,14,17,18],[19],⟨[.d aL],[]⟩,[]⟩)),(31,(.j ⟨[0,13,14,17,18,19],[37],⟨[.d .bool],[]⟩,[]⟩))]⟩
def Au:co:=cn tw cu
def Am:FT:=⟨⟨wH,[]⟩,⟨[.d .bool],[]⟩,dL [(2,(.j ⟨[],[4],⟨[.d .bool],[]⟩,[]⟩))]⟩
def Lp:co:=cn Am fm
def yZ:FT:=⟨⟨[.d mP,.d aL,.d aL],[]⟩,⟨[.d .bool],[]⟩,dL [(6,(.j ⟨[2,7],[3,8],⟨hP,qG⟩,[]⟩)),(36,(.j ⟨[2,7],[3,18],⟨hP,qG⟩,[]⟩)),(46,(.j ⟨[2,7],[3,26],⟨hP,qG⟩,[]⟩)),(53,(.j ⟨[],[6],⟨[.d .bool],[]⟩,[]⟩)),(56,(.j ⟨[2,7],[3,43],⟨hP,qG⟩,[]⟩)),(71,(.j ⟨[],[6],⟨[.d .bool],[]⟩,[]⟩)),(74,(.j ⟨[2,7],[3,61],⟨hP,qG⟩,[]⟩)),(92,(.j ⟨[2,7],[3,71],⟨hP,qG⟩,[]⟩)),(102,(.j ⟨[2],[3,79],⟨hP,qG⟩,[]⟩))]⟩
def Ia:co:=cn yZ my
def Ek:FT:=⟨⟨[.d mP,.d Io],[]⟩,⟨[.d .bool],[]⟩,dL [(3,(.j ⟨[],[2,31],⟨hP,qG⟩,[]⟩)),(14,(.j ⟨[33,34],[2,35],⟨xH,qG⟩,[]⟩))]⟩
def Qz:co:=cn Ek kD
def BV:FT:=⟨⟨[.d mP,.d Io,.d aL,.d aL,.d aL],[]⟩,⟨[.d .bool],[]⟩,dL [(15,(.j ⟨[],[10],⟨[.d .bool],[]⟩,[]⟩)),(21,(.j ⟨[],[10],⟨[.d .bool],[]⟩,[]⟩)),(24,(.j ⟨[2,4,11],[5,6,60],⟨qH,XG⟩,[]⟩)),(64,(.j ⟨[2,4,11],[5,6,109],⟨qH,XG⟩,[]⟩)),(81,(.j ⟨[],[10],⟨[.d .bool],[]⟩,[]⟩)),(87,(.j ⟨[],[10],⟨[.d .bool],[]⟩,[]⟩))]⟩
def M3:co:=cn BV pd
def y_:FT:=⟨⟨[.d mP,.d Io,.d aL,.d aL,.d aL],[]⟩,⟨[.d .bool],[]⟩,dL [(3,(.j ⟨[2,3,4],[5,6,30],⟨qH,XG⟩,[]⟩)),(25,(.j ⟨[],[10],⟨[.d .bool],[]⟩,[]⟩)),(29,(.j ⟨[],[10],⟨[.d .bool],[]⟩,[]⟩))]⟩
def Ib:co:=cn y_ jr
def xr:FT:=⟨⟨[.d mP,.d ja],[]⟩,⟨[.d .bool],[]⟩,dL [(2,(.j ⟨[],[4],⟨[.d .bool],[]⟩,[]⟩))]⟩
def FP:co:=cn xr lw
def vq:FT:=⟨⟨[.d mP,.d gX],[]⟩,⟨[.d .bool],[]⟩,dL [(3,(.j ⟨[],[2,3,12],⟨qH,[.cells 31 [.d mP],.cells 57 [.d gX]]⟩,[]⟩)),(10,(.j ⟨[],[4],⟨[.d .bool],[]⟩,[]⟩))]⟩
def CM:co:=cn vq jQ
def rq:FT:=⟨⟨[.d mP,.d ja,.d gX],[]⟩,⟨[.d .bool],[]⟩,dL [(2,(.j ⟨[],[4,5,7],⟨qH,[.cells 99 [.d ja],.cells 57 [.d gX]]⟩,[]⟩)),(4,(.j ⟨[],[4,5,8],⟨an3,Ld8⟩,[]⟩)),(10,(.j ⟨[51],[4,5,8,52],⟨Gg,Ld8⟩,[]⟩)),(22,(.j ⟨[10,51,52],[4,5,8,64],⟨CZ,Ld8⟩,[]⟩)),(34,(.j ⟨[51,52,65,66],[4,5,8,11,67],⟨[.ptr 0 0,.ptr 1 0,.ptr 2 0,.d aL,.d aL],Ld8⟩,[]⟩)),(46,(.j ⟨[13,51,52,65,66,67],[4,5,8,83],⟨CZ,Ld8⟩,[]⟩))]⟩
def yB:co:=cn rq fe
def vp:FT:=⟨⟨[.d ja,.d gX],[]⟩,⟨[.d .bool],[]⟩,dL [(21,(.j ⟨[],[4],⟨[.d .bool],[]⟩,[]⟩)),(24,(.j ⟨[13],[2,3,46],⟨qH,[.cells 99 [.d ja],.cells 57 [.d gX]]⟩,[]⟩)),(43,(.j ⟨[53,54],[3,5,6,55],⟨[.ptr 0 0,.d aL,.d .bool,.d aL],ab1⟩,[]⟩)),(51,(.j ⟨[53,54,55],[3,5,6],⟨[.ptr 0 0,.d aL,.d .bool],ab1⟩,[]⟩)),(54,(.j ⟨[5,6,7,53,54,55],[3,69],⟨hP,ab1⟩,[]⟩)),(62,(.j ⟨[],[4],⟨[.d .bool],[]⟩,[]⟩)),(74,(.j ⟨[94,95],[3,9,96],⟨UH,ab1⟩,[]⟩)),(82,(.j ⟨[94,95,96],[3,9],⟨xH,ab1⟩,[]⟩)),(85,(.j ⟨[9,94,95,96],[3,109],⟨hP,ab1⟩,[]⟩))]⟩
def CL:co:=cn vp gI
def BU:FT:=⟨⟨[.d ip,.d aL],[]⟩,⟨[.d .bool],[]⟩,dL [(2,(.j ⟨[],[4],⟨[.d .bool],[]⟩,[]⟩))]⟩
def M2:co:=cn BU mM
def Tp:FT:=⟨⟨[.d qI],[]⟩,⟨[.d qI],[]⟩,.leaf⟩
def Az:co:=cn Tp JE
def aii:co:=⟨Az.pre,Az.post,Px⟩
def OG:FT:=⟨⟨[.d qI],[]⟩,⟨[.row 0],[.rows 4 J .bool]⟩,dL [(8,(.a [.nil 2 4 .bool])),(12,(.a [.nil 2 4 .bool]))]⟩
def xD:co:=cn OG Fm
def aet:co:=⟨xD.pre,xD.post,JD⟩
def Tn:FT:=⟨⟨[.d (.sl ip)],[]⟩,⟨[.d (.sl ip)],[]⟩,.leaf⟩
def Ax:co:=cn Tn JA
def aif:co:=⟨Ax.pre,Ax.post,Pw⟩
def OE:FT:=⟨⟨[.d (.sl ip)],[]⟩,⟨[.row 0],[.rows 178 J ip]⟩,dL [(8,(.a [.nil 2 178 ip])),(12,(.a [.nil 2 178 ip]))]⟩
def xB:co:=cn OE Fk
def aeq:co:=⟨xB.pre,xB.post,Jz⟩
def OF:FT:=⟨⟨l7,[]⟩,⟨[.row 0],[.rows 2 J aL]⟩,dL [(8,(.a [.nil 2 2 aL])),(12,(.a [.nil 2 2 aL]))]⟩
def xC:co:=cn OF Fl
def aes:co:=⟨xC.pre,xC.post,zS⟩
def BW:FT:=⟨⟨[.d Io],[]⟩,⟨[.agg Im],Ld6⟩,dL [(8,(.j ⟨[11,12],[1,2,3,13],⟨[.ptr 0 0,.ptr 1 0,.row 2,.d aL],[.cells 96 [.d Io],.cells 96 CY,.rows 176 af eC]⟩,[]⟩))]⟩
def M4:co:=cn BW kR
def An:FT:=⟨⟨[.agg Im,.d aL,.d aL],Ld6⟩,⟨[.d aL],Ld6⟩,dL [(8,(.j ⟨[1,2,12],[3,7,11,13],⟨[.ptr 3 0,.d aL,.row 2,.d aL],Ld5⟩,[]⟩)),(16,(.j ⟨[1,2,12,13],[3,7,11],⟨[.ptr 3 0,.d aL,.row 2],Ld5⟩,[]⟩)),(19,(.j ⟨[1,2,7,8,12,13],[3,11,29],⟨[.ptr 3 0,.row 2,.d .bool],Ld5⟩,[]⟩)),(25,(.j ⟨[7],[],⟨[],Ld6⟩,[]⟩))]⟩
def Lq:co:=cn An jV
def v_:FT:=⟨⟨[.agg Im,.d aL],Ld6⟩,⟨[.d aL],Ld6⟩,dL [(8,(.j ⟨[1,10],[2,5,9,11],⟨[.ptr 3 0,.d aL,.row 2,.d aL],Ld5⟩,[]⟩)),(16,(.j ⟨[1,10,11],[2,5,9],⟨[.ptr 3 0,.d aL,.row 2],Ld5⟩,[]⟩))]⟩
def EB:co:=cn v_ h_
def As:FT:=⟨⟨[.d aL],[]⟩,⟨[.d .bool],[]⟩,.leaf⟩
def Lz:co:=cn As qZ
def B3:FT:=⟨⟨wH,[]⟩,⟨[.d .bool],[]⟩,dL [(2,(.j ⟨[],[4],⟨[.d .bool],[]⟩,[]⟩))]⟩
def M':co:=cn B3 wA
def xy:FT:=⟨⟨[.d (.int .u64)],[]⟩,⟨[.d aL],[]⟩,.leaf⟩
def F1:co:=cn xy r7
def Aq:FT:=⟨⟨[.d (.int .u64)],[]⟩,⟨[.d aL],[]⟩,.leaf⟩
def Lu:co:=cn Aq uV
def oN:FT:=⟨⟨[.row 0,.d aL,.d aL],OR⟩,⟨[],OR⟩,dL [(3,(.j ⟨[1,2],[0,6],⟨Q3,OR⟩,[]⟩)),(15,(.j ⟨[1,2,6],[0,7],⟨Q3,OR⟩,[]⟩)),(17,(.j ⟨[1,2,6,7],[0,30],⟨[.row 0,.d .bool],OR⟩,[]⟩))]⟩
def vG:co:=cn oN gf
def tX:FT:=⟨⟨[.row 0,.d aL,.d aL,.d aL],OR⟩,⟨[],OR⟩,dL [(5,(.j ⟨[],[0,1,2,3,8,9],⟨[.row 0,.d aL,.d aL,.d aL,.d .bool,.d .bool],OR⟩,[]⟩))]⟩
def Br:co:=cn tX jy
def OD:FT:=⟨⟨[.row 0],OR⟩,⟨[],OR⟩,.leaf⟩
def aae:co:=cn OD xg
def Ev:FT:=⟨⟨[.row 0],OR⟩,⟨[.row 0],OR⟩,dL [(14,(.j ⟨[],[0,3],⟨Q3,OR⟩,[]⟩))]⟩
def QP:co:=cn Ev mh
def za:FT:=⟨⟨[.d aL,.ptr 0 0],[.cells 3 [.d aL]]⟩,⟨[.d .bool],[.cells 3 [.d aL]]⟩,.leaf⟩
def Ic:co:=cn za py
def At:FT:=⟨⟨[.row 0,.clo 143 1 0],Ld9⟩,⟨[.d aL],Ld9⟩,dL [(6,(.j ⟨[7],[0,1,8],⟨[.row 0,.clo 143 1 0,.d aL],Ld9⟩,[]⟩))]⟩
def LA:co:=cn At nW
def zg:FT:=⟨⟨[.row 0,.clo 143 1 0],Ld9⟩,⟨[.row 2],[.gone,.cells 3 [.d aL],.rows 3 af aL]⟩,dL [(16,(.j ⟨[],[0,1,5,6],⟨[.row 0,.clo 143 1 0,.d aL,.d aL],Ld9⟩,[]⟩)),(24,(.j ⟨[6],[0,1,5],⟨[.row 0,.clo 143 1 0,.d aL],Ld9⟩,[]⟩))]⟩
def Ih:co:=cn zg js
def oc:FT:=⟨⟨[.d mP,.d Io,.d aL,.d aL,.d aL,.d aL],[]⟩,⟨[.d Io,.d aL,.d .bool],[]⟩,dL [(17,(.j ⟨[],[7,12,15],⟨yG,[.cells 96 [.row 2,.d aL,.row 3,.row 4],.cells 96 CY,.rows 176 af eC,.rows 4 J .bool,.rows 178 J ip]⟩,[]⟩)),(26,(.j ⟨[4,5,15,27],[6,7,8,12,42],⟨AC,aqs⟩,[]⟩)),(34,(.j ⟨[4,5,15,27],[6,7,8,12,51],⟨AC,aqs⟩,[]⟩))]⟩
def Lt:co:=cn oc ia
def Ao:FT:=⟨⟨[.d Io],[]⟩,⟨[.agg [.csl 0 2 3,.d aL,.d qI,.d (.sl ip)]],[.cells 176 [.d aL,.row 1,.d aL,.row 2,.d aL,.row 3],.rows 3 J aL,.rows 3 J aL,.rows 3 J aL]⟩,dL [(7,(.j ⟨[],[1,2,3],⟨[.ptr 0 0,.ptr 1 0,.csl 2 2 3],[.cells 96 [.d Io],.cells 96 CY,.cells 176 [.d aL,.row 3,.d aL,.row 4,.d aL,.row 5],.rows 3 J aL,.rows 3 J aL,.rows 3 J aL]⟩,[.cel 3 1 3 aL,.cel 3 3 3 aL,.cel 3 5 3 aL]⟩)),(8,(.u 4))]⟩
def Lr:co:=cn Ao nS
def Ap:FT:=⟨⟨[.d mP,.d Io,.d aL,.d aL,.d aL,.d aL],[]⟩,⟨[.d Io,.d aL,.d .bool],[]⟩,dL [(17,(.j ⟨[],[7,12,15],⟨yG,[.cells 96 [.csl 2 2 3,.d aL,.d qI,.d (.sl ip)],.cells 96 CY,.cells 176 [.d eC,.d eC,.d aL,.row 3],.rowsP 3 aL]⟩,[]⟩)),(26,(.j ⟨[4,5,15,27],[6,7,8,12,42],⟨AC,[.cells 31 [.d mP],.cells 96 [.csl 4 2 3,.d aL,.d qI,.d (.sl ip)],.cells 3 [.d aL],.cells 96 CY,.cells 176 [.d aL,.row 5,.d aL,.row 6,.d aL,.row 7],.rows 3 J aL,.rows 3 J aL,.rows 3 J aL]⟩,[]⟩)),(33,(.s 4 0 0 0)),(34,(.j ⟨[4,5,15,27],[6,7,8,12,51],⟨AC,[.cells 31 [.d mP],.cells 96 [.csl 4 2 3,.d aL,.d qI,.d (.sl ip)],.cells 3 [.d aL],.cells 96 CY,.cells 176 [.d aL,.d (.sl aL),.d aL,.d (.sl aL),.d aL,.row 5],.rows 3 J aL]⟩,[]⟩)),(41,(.s 4 0 0 0)),(46,(.s 4 0 0 3)),(53,(.s 4 0 0 3)),(74,(.s 4 0 0 0)),(80,(.s 4 0 0 0)),(100,(.a [.pk 7 0 eC]))]⟩
def Ls:co:=cn Ap lA
def M6:co:=cn oc sJ
def xt:FT:=⟨⟨[.d mP,.d ja,.d gX],[]⟩,⟨[.d ja,.d .bool],[]⟩,dL [(3,(.j ⟨[],[3,4,5,6,39],⟨AC,LV⟩,[]⟩)),(11,(.j ⟨[],[3,4,5,6,70],⟨AC,LV⟩,[]⟩)),(20,(.j ⟨[],[3,4,5,6,8],⟨[.ptr 0 0,.ptr 1 0,.ptr 2 0,.ptr 3 0,.d aL],LV⟩,[]⟩)),(41,(.j ⟨[],[5,6,12],⟨an3,an7⟩,[]⟩))]⟩
def FR:co:=cn xt f_
def vx:FT:=⟨⟨[.d m8],[]⟩,⟨wH,[]⟩,dL [(26,(.j ⟨[27,28],[1,4,5,29],⟨[.ptr 0 0,.ptr 1 0,.csl 2 1 1,.d aL],[.cells 34 [.d m8],.cells 99 [.d ja],.cells 93 [.row 3],.rows 4 J .bool]⟩,[.cel 5 0 4 .bool]⟩)),(40,(.j ⟨[6,27,28,29],[1,4,5,7,8,53],⟨[.ptr 0 0,.ptr 1 0,.csl 2 1 1,.ptr 3 0,.ptr 4 0,.d .bool],[.cells 34 [.d m8],.cells 99 [.d ja],.cells 93 [.row 5],.cells 57 [.d gX],.cells 99 [.d ja],.rows 4 J .bool]⟩,[]⟩)),(41,(.s 7 0 0 1)),(47,(.j ⟨[27,28,29],[1,4,5,8],⟨[.ptr 0 0,.ptr 1 0,.csl 2 1 1,.ptr 3 0],[.cells 34 [.d m8],.cells 99 [.d ja],.cells 93 [.row 4],.cells 99 [.d ja],.rows 4 J .bool]⟩,[]⟩)),(48,(.s 7 0 0 1))]⟩
def CR:co:=cn vx eJ
def vw:FT:=⟨⟨[.d m8],[]⟩,⟨wH,[]⟩,dL [(26,(.j ⟨[27,28],[1,4,5,29],⟨[.ptr 0 0,.ptr 1 0,.csl 2 1 2,.d aL],[.cells 34 [.d m8],.cells 99 [.d ja],.cells 93 [.row 3,.row 4],.rows 4 J .bool,.rows 4 J .bool]⟩,[.cel 5 0 4 .bool,.cel 5 1 4 .bool]⟩)),(40,(.j ⟨[6,27,28,29],[1,4,5,7,8,53],⟨[.ptr 0 0,.ptr 1 0,.csl 2 1 2,.ptr 3 0,.ptr 4 0,.d .bool],[.cells 34 [.d m8],.cells 99 [.d ja],.cells 93 [.row 5,.row 6],.cells 57 [.d gX],.cells 99 [.d ja],.rows 4 J .bool,.rows 4 J .bool]⟩,[]⟩)),(41,(.s 7 0 0 2)),(47,(.j ⟨[27,28,29],[1,4,5,8],⟨[.ptr 0 0,.ptr 1 0,.csl 2 1 2,.ptr 3 0],[.cells 34 [.d m8],.cells 99 [.d ja],.cells 93 [.row 4,.row 5],.cells 99 [.d ja],.rows 4 J .bool,.rows 4 J .bool]⟩,[]⟩)),(48,(.s 7 0 0 2))]⟩
def CQ:co:=cn vw dE
def vu:FT:=⟨⟨[.d m8],[]⟩,⟨wH,[]⟩,dL [(26,(.j ⟨[27,28],[1,4,5,29],⟨[.ptr 0 0,.ptr 1 0,.csl 2 1 3,.d aL],[.cells 34 [.d m8],.cells 99 [.d ja],.cells 93 [.row 3,.row 4,.row 5],.rows 4 J .bool,.rows 4 J .bool,.rows 4 J .bool]⟩,[.cel 5 0 4 .bool,.cel 5 1 4 .bool,.cel 5 2 4 .bool]⟩)),(40,(.j ⟨[6,27,28,29],[1,4,5,7,8,53],⟨[.ptr 0 0,.ptr 1 0,.csl 2 1 3,.ptr 3 0,.ptr 4 0,.d .bool],[.cells 34 [.d m8],.cells 99 [.d ja],.cells 93 [.row 5,.row 6,.row 7],.cells 57 [.d gX],.cells 99 [.d ja],.rows 4 J .bool,.rows 4 J .bool,.rows 4 J .bool]⟩,[]⟩)),(41,(.s 7 0 0 3)),(47,(.j ⟨[27,28,29],[1,4,5,8],⟨[.ptr 0 0,.ptr 1 0,.csl 2 1 3,.ptr 3 0],[.cells 34 [.d m8],.cells 99 [.d ja],.cells 93 [.row 4,.row 5,.row 6],.cells 99 [.d ja],.rows 4 J .bool,.rows 4 J .bool,.rows 4 J .bool]⟩,[]⟩)),(48,(.s 7 0 0 3))]⟩
def CP:co:=cn vu dU
def fh:FT:=⟨⟨[.d m8],[]⟩,⟨wH,[]⟩,dL [(26,(.j ⟨[27,28],[1,4,5,29],⟨[.ptr 0 0,.ptr 1 0,.csl 2 1 4,.d aL],[.cells 34 [.d m8],.cells 99 [.d ja],.cells 93 [.row 3,.row 4,.row 5,.row 6],.rows 4 J .bool,.rows 4 J .bool,.rows 4 J .bool,.rows 4 J .bool]⟩,[.cel 5 0 4 .bool,.cel 5 1 4 .bool,.cel 5 2 4 .bool,.cel 5 3 4 .bool]⟩)),(40,(.j ⟨[6,27,28,29],[1,4,5,7,8,53],⟨[.ptr 0 0,.ptr 1 0,.csl 2 1 4,.ptr 3 0,.ptr 4 0,.d .bool],[.cells 34 [.d m8],.cells 99 [.d ja],.cells 93 [.row 5,.row 6,.row 7,.row 8],.cells 57 [.d gX],.cells 99 [.d ja],.rows 4 J .bool,.rows 4 J .bool,.rows 4 J .bool,.rows 4 J .bool]⟩,[]⟩)),(41,(.s 7 0 0 4)),(47,(.j ⟨[27,28,29],[1,4,5,8],⟨[.ptr 0 0,.ptr 1 0,.csl 2 1 4,.ptr 3 0],[.cells 34 [.d m8],.cells 99 [.d ja],.cells 93 [.row 4,.row 5,.row 6,.row 7],.cells 99 [.d ja],.rows 4 J .bool,.rows 4 J .bool,.rows 4 J .bool,.rows 4 J .bool]⟩,[]⟩)),(48,(.s 7 0 0 4))]⟩
def CO:co:=cn fh eH
def Ey:co:=cn fh mT
def Lb:FT:=⟨⟨[.d m8],[]⟩,⟨[.d vK,.d aL],[]⟩,dL [(20,(.j ⟨[25,26],[1,6,7,27],⟨[.ptr 0 0,.ptr 1 0,.row 2,.d aL],[.cells 34 [.d m8],.cells 78 [.d Kd0],.rows 36 af (.sl aL)]⟩,[]⟩))]⟩
def Xf:co:=cn Lb qa
theorem uC:aH Pg 33 aad:=mk OC gu an b9
theorem RO x:lP (kF x) (zO x):=by
 unfold kF zO v7 ck bx bC aX cR aD cL;with_reducible repeat' first|(refine OI.o ?_;constructor)|intro _
theorem SD:aH Pg 67 Un:=zu Hz kF zO RO (ac uC an) b9
theorem DG:aH Pg 56 ai4:=mk YB sI an b9
theorem Zi x:lP (qn x) (Ff x):=by
 unfold qn Ff FD ck bx bC aX cR aD cL;with_reducible repeat' first|(refine OI.o ?_;constructor)|intro _
theorem Zu:aH Pg 52 Z1:=zu Of qn Ff Zi (ac DG an) b9
theorem ahn:aH Pg 102 EH:=mk YH Py an b9
theorem ae0:aH Pg 102 am7:= @aH.sub Pg 102 EH.pre EH.post Py CA ahn rfl (λx y h=>sx (b:=8) x y h)
theorem Vt x:lP (iE x) (Cr x):=by
 unfold iE Cr ye ck bx wQ bC aX cR aD cL;with_reducible repeat' first|(refine OI.o ?_;constructor)|intro _
theorem Wh:aH Pg 103 Xc:=zu K9 iE Cr Vt (ac ae0 an) b9
theorem adw:aH Pg 102 Ay:=mk To JB an b9
theorem P5:aH Pg 102 aih:= @aH.sub Pg 102 Ay.pre Ay.post JB pA adw rfl (λx y h=>sx (b:=8) x y h)
theorem Wi:aH Pg 64 Xd:=mk K_ uW (ac P5 (ac Wh an)) b9
theorem ZF:aH Pg 66 aa8:=mk Oy uz an b9
theorem Wj:aH Pg 65 Xe:=mk La uX (ac ZF an) b9
theorem Zk x:lP (qw x) (Fi x):=by
 unfold qw Fi AX aY bi bu cF dZ kY qJ ck bx bC aX cR aD cL;with_reducible repeat' first|(refine OI.o ?_;constructor)|intro _
theorem ZH:aH Pg 30 aaa:=zu OA qw Fi Zk an b9
theorem SA:aH Pg 68 Um:=mk Hy s9 an b9
theorem adv:aH Pg 102 aer:=mk xz xh an b9
theorem Yq:aH Pg 102 aig:= @aH.ro Pg 102 xz.pre xz.post.vs xh vT (adv.holds rfl) rfl (λx _ h=>by rw[show vT x=au (xh x) λy=>same y.2 x (M y.1) from gZ (au _) (funext λ_=>Rx ..)]at h;exact h)
theorem ah5 x:lP (ul x) (Pt x):=by
 unfold ul Pt IQ ck bx bC aX cR aD cL;with_reducible repeat' first|(refine OI.o ?_;constructor)|intro _
theorem ahk:aH Pg 67 aie:=zu Ba ul Pt ah5 (ac uC an) b9
theorem ads:aH Pg 67 am6:= @aH.ro Pg 67 Ba.pre Ba.post.vs ul Cz (ahk.holds rfl) rfl (λx _ h=>by rw[show Cz x=au (ul x) λy=>same y.2 x.2 (M y.1) from gZ (au _) (funext λ_=>Rx ..)]at h;exact h)
theorem Wg:aH Pg 104 Xb:=mk K7 mg (ac ads an) b9
theorem adq:aH Pg 105 aem:=mk Th xd (ac Yq an) b9
theorem Zj x:lP (r9 x) (Fh x):=by
 unfold r9 Fh AW EW Prod.p11 Prod.p12 Prod.p13 Prod.p14 Prod.p15 Prod.p16 Prod.p17 aY bi bu cF dZ kY AG C7 Prod.q10 Prod.q16 Prod.q17 Prod.q18 cY ky Prod.q9 ck be bx iR wQ bC aX cR aD cL;with_reducible repeat' first|(refine OI.o ?_;constructor)|intro _
theorem ZG:aH Pg 69 aa9:=zu Oz r9 Fh Zj (ac ads (ac Yq (ac Wg (ac adq an)))) b9
theorem acy x:lP (s8 x) (Jw x):=by
 unfold s8 Jw DR EW Prod.p11 aY bi bu cF dZ kY AG C7 Prod.q11 Prod.q12 cY fH qJ Prod.q9 ck bx wQ bC aX cR cL;with_reducible repeat' first|(refine OI.o ?_;constructor)|intro _
theorem adr:aH Pg 31 aen:=zu Ti s8 Jw acy (ac Wi (ac Wj (ac SD (ac SA (ac ZG an))))) b9
theorem Zw:aH Pg 57 Z3:=mk Oh AQ an b9
theorem JR:aH Pg 57 Ww:=mk KC rR an b9
theorem Zh x:lP (qm x) (Fe x):=by
 unfold qm Fe AU ck bx iR bC aX cR aD;with_reducible repeat' first|(refine OI.o ?_;constructor)|intro _
theorem Zr:aH Pg 54 ZX:=zu Ob qm Fe Zh (ac JR an) b9
theorem act x:lP (o_ x) (Jv x):=by
 unfold o_ Jv DQ bx aX cR aD cL;with_reducible repeat' first|(refine OI.o ?_;constructor)|intro _
theorem R6:aH Pg 55 aed:=zu Td o_ Jv act (ac DG an) b9
theorem N2:aH Pg 25 ZZ:=mk Od rP (ac R6 an) b9
theorem JQ:aH Pg 132 Wv:=mk KB rQ an b9
theorem Mt:aH Pg 88 MT:=mk BN pa (ac JQ an) b9
theorem Ms:aH Pg 89 MR:=mk BK o9 (ac JQ an) b9
theorem Fd x:lP (lx x) (rO x):=by
 unfold lx rO sj EW Prod.p11 Prod.p12 Prod.p13 Prod.p14 Prod.p15 Prod.p16 Prod.p17 Prod.p18 Prod.p19 aY Prod.p20 bi bu cF dZ kY AG C7 Prod.q21 bx bC cR aD cL;with_reducible repeat' first|(refine OI.o ?_;constructor)|intro _
theorem Ft:aH Pg 166 FU:=zu xu lx rO Fd an b9
theorem Mg x:lP (o7 x) (wv x):=by
 unfold o7 wv wD be bx iR bC aX cR aD;with_reducible repeat' first|(refine OI.o ?_;constructor)|intro _
theorem Mq:aH Pg 133 MO:=zu BH o7 wv Mg (ac Ft an) b9
theorem Vx x:lP (r_ x) (Cv x):=by
 unfold r_ Cv yl be bx bD aX cR aD cL;with_reducible repeat' first|(refine OI.o ?_;constructor)|intro _
theorem Wm:aH Pg 198 Xk:=zu Ld r_ Cv Vx an b9
theorem ML:aH Pg 167 Nb:=mk B5 kS (ac Wm an) b9
theorem BE:aH Pg 34 Na:=mk B4 eU (ac uC an) b9
theorem HZ:aH Pg 134 If:=mk ze tJ an b9
theorem H0:aH Pg 92 Ig:=mk zf tK (ac HZ an) b9
theorem Bj x:lP (ie x) (oS x):=by
 unfold ie oS oX aY bi bu cF dG fH be bx jw bC bD aX cR aD cL;with_reducible repeat' first|(refine OI.o ?_;constructor)|intro _
theorem Bp:aH Pg 90 Bv:=zu t8 ie oS Bj an b9
theorem Bi x:lP (dW x) (oR x):=by
 unfold dW oR oW aY bi bu bx bC bD kO aX cR aD cL;with_reducible repeat' first|(refine OI.o ?_;constructor)|intro _
theorem Bo:aH Pg 91 Bu:=zu t7 dW oR Bi (ac Mq an) b9
theorem Bh x:lP (gi x) (oP x):=by
 unfold gi oP li aY bi cF cY bx jw bD aX cR aD cL;with_reducible repeat' first|(refine OI.o ?_;constructor)|intro _
theorem Bn:aH Pg 93 Bt:=zu tZ gi oP Bh an b9
theorem Bk x:lP (dX x) (oU x):=by
 unfold dX oU lj aY bi cF cY bx bD aX cR aD cL;with_reducible repeat' first|(refine OI.o ?_;constructor)|intro _
theorem lh:aH Pg 59 Bw:=zu t_ dX oU Bk (ac Bp (ac Bo (ac H0 (ac Bn an)))) b9
theorem Mj x:lP (pe x) (wy x):=by
 unfold pe wy wE aY bi bu bO dG cY ck bx bC aX cR aD cL;with_reducible repeat' first|(refine OI.o ?_;constructor)|intro _
theorem MD:aH Pg 94 M5:=zu BX pe wy Mj an b9
theorem Dq x:lP (dD x) (qO x):=by
 unfold dD qO rh aY bi bu dG bx bC bD aX cR aD cL;with_reducible repeat' first|(refine OI.o ?_;constructor)|intro _
theorem mU:aH Pg 60 Ew:=zu v9 dD qO Dq (ac MD an) b9
theorem zK x:lP (cu x) (nz x):=by
 unfold cu nz kJ dZ ky bx iR bC bD aX cR aD cL;with_reducible repeat' first|(refine OI.o ?_;constructor)|intro _
theorem kH:aH Pg 62 Au:=zu tw cu nz zK an b9
theorem vh:aH Pg 136 Lp:=mk Am fm an b9
theorem HY:aH Pg 137 Ia:=mk yZ my (ac vh an) b9
theorem Po x:lP (kD x) (xX x):=by
 unfold kD xX uo aY bi bu dG bx jw bD aX cR aD cL;with_reducible repeat' first|(refine OI.o ?_;constructor)|intro _
theorem DK:aH Pg 135 Qz:=zu Ek kD xX Po (ac vh an) b9
theorem MB:aH Pg 138 M3:=mk BV pd (ac ML an) b9
theorem tL:aH Pg 96 Ib:=mk y_ jr (ac DK (ac vh (ac HY (ac MB an)))) b9
theorem Fs:aH Pg 95 FP:=mk xr lw (ac DK an) b9
theorem CD:aH Pg 97 CM:=mk vq jQ an b9
theorem xW x:lP (fe x) (md x):=by
 unfold fe md jG aY bi bu cF bO dG fH be bx iR bC bD aX cR aD cL;with_reducible repeat' first|(refine OI.o ?_;constructor)|intro _
theorem ya:aH Pg 98 yB:=zu rq fe md xW an b9
theorem Ck x:lP (gI x) (pK x):=by
 unfold gI pK mi aY bi bu cF bO be bx bD aX cR aD cL;with_reducible repeat' first|(refine OI.o ?_;constructor)|intro _
theorem CC:aH Pg 99 CL:=zu vp gI pK Ck an b9
theorem BB:aH Pg 173 M2:=mk BU mM an b9
theorem adz:aH Pg 168 Az:=mk Tp JE an b9
theorem ahm:aH Pg 168 aii:= @aH.sub Pg 168 Az.pre Az.post JE Px adz rfl (λx y h=>sx (b:=1) x y h)
theorem ZM:aH Pg 168 xD:=mk OG Fm an b9
theorem ady:aH Pg 168 aet:= @aH.sub Pg 168 xD.pre xD.post Fm JD ZM rfl (λx y h=>sx (b:=1) x y h)
theorem adu:aH Pg 169 Ax:=mk Tn JA an b9
theorem ahl:aH Pg 169 aif:= @aH.sub Pg 169 Ax.pre Ax.post JA Pw adu rfl (λx y h=>sx (b:=24) x y h)
theorem ZK:aH Pg 169 xB:=mk OE Fk an b9
theorem adt:aH Pg 169 aeq:= @aH.sub Pg 169 xB.pre xB.post Fk Jz ZK rfl (λx y h=>sx (b:=24) x y h)
theorem ZL:aH Pg 101 xC:=mk OF Fl an b9
theorem adx:aH Pg 101 aes:= @aH.sub Pg 101 xC.pre xC.post Fl zS ZL rfl (λx y h=>sx (b:=8) x y h)
theorem Mi x:lP (kR x) (ww x):=by
 unfold kR ww sQ aY bO ck bx bC bD aX cR cL;with_reducible repeat' first|(refine OI.o ?_;constructor)|intro _
theorem MC:aH Pg 139 M4:=zu BW kR ww Mi (ac ae0 (ac ady (ac adt an))) b9
theorem Jq x:lP (jV x) (uJ x):=by
 unfold jV uJ rk aY bi bO ck bx iR kO aX cR aD cL;with_reducible repeat' first|(refine OI.o ?_;constructor)|intro _
theorem J1:aH Pg 144 Lq:=zu An jV uJ Jq (ac BB an) b9
theorem Dr x:lP (h_ x) (qP x):=by
 unfold h_ qP mW aY bi bO dG ck bx kO aX cR aD cL;with_reducible repeat' first|(refine OI.o ?_;constructor)|intro _
theorem DJ:aH Pg 145 EB:=zu v_ h_ qP Dr (ac BB an) b9
theorem J8:aH Pg 226 Lz:=mk As qZ an b9
theorem MJ:aH Pg 205 M':=mk B3 wA (ac J8 an) b9
theorem FA:aH Pg 209 F1:=mk xy r7 an b9
theorem J5:aH Pg 171 Lu:=mk Aq uV (ac FA an) b9
theorem vD x:lP (gf x) (kn x):=by
 unfold gf kn ko ck bx kO cR aD cL;with_reducible repeat' first|(refine OI.o ?_;constructor)|intro _
theorem vE:aH Pg 199 vG:=zu oN gf kn vD (ac MJ an) b9
theorem Bg x:lP (jy x) (oO x):=by
 unfold jy oO oV aY bi be iR bC aD;with_reducible repeat' first|(refine OI.o ?_;constructor)|intro _
theorem Bm:aH Pg 170 Br:=zu tX jy oO Bg (ac vE an) b9
theorem ZJ:aH Pg 140 aae:=mk OD xg (ac Bm (ac J5 an)) b9
theorem Pr x:lP (mh x) (xY x):=by
 unfold mh xY ym be bx bC kO aX cR aD cL;with_reducible repeat' first|(refine OI.o ?_;constructor)|intro _
theorem P4:aH Pg 141 QP:=zu Ev mh xY Pr an b9
theorem yO:aH Pg 143 Ic:=mk za py an b9
theorem Jt x:lP (nW x) (uK x):=by
 unfold nW uK vn bx kO aX cR aD cL;with_reducible repeat' first|(refine OI.o ?_;constructor)|intro _
theorem J9:aH Pg 172 LA:=zu At nW uK Jt (ac yO an) b9
theorem HN x:lP (js x) (tI x):=by
 unfold js tI tN ck be bx bC kO aX cR aD cL;with_reducible repeat' first|(refine OI.o ?_;constructor)|intro _
theorem H3:aH Pg 142 Ih:=zu zg js tI HN (ac yO (ac J9 an)) b9
theorem J4:aH Pg 100 Lt:=mk oc ia (ac tL (ac MC (ac J1 (ac DJ an)))) b9
def tv2 (t:TypeId):I Ty:=if aB t 176 then M (.pr .un (.pr .un (.pr .un (.pr .un eC)))) else b9 t
theorem J2:aH Pg 139 Lr:=mk Ao nS (ac P5 (ac ahm (ac ahl an))) tv2
theorem J3:aH Pg 100 Ls:=mk Ap lA (ac tL (ac J2 (ac ZJ (ac P4 (ac H3 an))))) tv2
theorem MF:aH Pg 100 M6:=(aH.orE (pre:=oc.pre) (post:=oc.post) (m:=ia) (m':=lA) rfl J4 J3)
theorem oB:aH Pg 61 FR:=mk xt f_ (ac Fs (ac tL (ac CD (ac ya (ac CC (ac MF (ac adx (ac P5 an)))))))) b9
def tv3 (t:TypeId):I Ty:=if aB t 93 then M (.pr .un (.pr .un qI)) else b9 t
theorem Co x:lP (eJ x) (pP x):=by
 unfold eJ pP mj aY bi bu bO cY be bx bC bD aX cR aD cL;with_reducible repeat' first|(refine OI.o ?_;constructor)|intro _
theorem CH:aH Pg 29 CR:=zu vx eJ pP Co (ac lh (ac mU (ac oB (ac kH an)))) tv3
def tv4 (t:TypeId):I Ty:=if aB t 93 then M (.pr .un (.pr .un (.pr .un qI))) else b9 t
theorem Cn x:lP (dE x) (pO x):=by
 unfold dE pO j6 aY bi bu cF bO dG fH be bx bC bD aX cR aD cL;with_reducible repeat' first|(refine OI.o ?_;constructor)|intro _
theorem CG:aH Pg 29 CQ:=zu vw dE pO Cn (ac lh (ac mU (ac oB (ac kH an)))) tv4
def tv5 (t:TypeId):I Ty:=if aB t 93 then M (.pr .un (.pr .un (.pr .un (.pr .un qI)))) else b9 t
theorem Cm x:lP (dU x) (pN x):=by
 unfold dU pN jZ aY bi bu cF dZ bO cY fH ky be bx bC bD aX cR aD cL;with_reducible repeat' first|(refine OI.o ?_;constructor)|intro _
theorem CF:aH Pg 29 CP:=zu vu dU pN Cm (ac lh (ac mU (ac oB (ac kH an)))) tv5
def tv6 (t:TypeId):I Ty:=if aB t 93 then M (.pr .un (.pr .un (.pr .un (.pr .un (.pr .un qI))))) else b9 t
theorem Cl x:lP (eH x) (pM x):=by
 unfold eH pM jY aY bi bu cF dZ kY bO fH ky qJ be bx bC bD aX cR aD cL;with_reducible repeat' first|(refine OI.o ?_;constructor)|intro _
theorem CE:aH Pg 29 CO:=zu fh eH pM Cl (ac lh (ac mU (ac oB (ac kH an)))) tv6
theorem DF:aH Pg 29 Ey:=(aH.orE (pre:=fh.pre) (post:=fh.post) (m:=eH) (m':=(λx=>orE (dU x) ((λx=>orE (dE x) (eJ x)) x))) rfl CE (aH.orE (pre:=fh.pre) (post:=fh.post) (m:=dU) (m':=(λx=>orE (dE x) (eJ x))) rfl CF (aH.orE (pre:=fh.pre) (post:=fh.post) (m:=dE) (m':=eJ) rfl CG CH)))
theorem Vu x:lP (qa x) (Ct x):=by
 unfold qa Ct yf aY bO ck bx jw bC bD aX cR aD cL;with_reducible repeat' first|(refine OI.o ?_;constructor)|intro _
theorem Wk:aH Pg 15 Xf:=zu Lb qa Ct Vu (ac DF (ac ZH (ac adr an))) b9
abbrev Le0:Y PB:=[.cells 31 [.d mP],.rows 3 J aL,.cells 57 [.d gX],.cells 57 [.d gX]]
abbrev Le1:Y PB:=[.cells 34 [.d m8],.rows 36 J (.sl aL)]
abbrev Le2:Y PB:=[.cells 31 [.d mP],.rows 3 J aL,.cells 57 [.d gX]]
abbrev Le3:Y PV:=[.ptr 0 0,.row 1,.ptr 2 0,.ptr 3 0,.d .bool]
abbrev Le4:Y PB:=[.cells 31 [.d mP],.rows 3 J aL]
abbrev Le5:Y PV:=[.d (.sl gX),.d aL]
def G1:FT:=⟨⟨[.d gX],[]⟩,⟨[.d .bool],[]⟩,dL [(2,(.j ⟨[],[2],⟨[.d .bool],[]⟩,[]⟩))]⟩
def Tv:co:=cn G1 nB
def BJ:FT:=⟨⟨[.d mP,.d gX],[]⟩,⟨[.d .bool],[]⟩,dL [(2,(.j ⟨[],[4],⟨[.d .bool],[]⟩,[]⟩))]⟩
def MQ:co:=cn BJ mF
def BL:FT:=⟨⟨Le5,[]⟩,⟨[.d aL],[]⟩,dL [(6,(.j ⟨[0,1],[5],⟨[.d aL],[]⟩,[]⟩))]⟩
def MS:co:=cn BL mG
def KA:FT:=⟨⟨Le5,[]⟩,⟨[.d aL],[]⟩,dL [(5,(.j ⟨[0,1,5],[19],⟨[.d .bool],[]⟩,[]⟩)),(16,(.j ⟨[0,1,5],[6],⟨[.d aL],[]⟩,[]⟩)),(25,(.j ⟨[0,1,5,6],[66],⟨[.d .bool],[]⟩,[]⟩))]⟩
def Wu:co:=cn KA uN
def Og:FT:=⟨⟨[.d mP,.d (.sl gX),.d aL],[]⟩,⟨l7,[]⟩,dL [(10,(.j ⟨[1,2],[3,7,8,9],⟨[.ptr 0 0,.row 1,.ptr 2 0,.d aL],Le2⟩,[.nil 7 3 aL]⟩)),(21,(.j ⟨[1,2,9],[3,7,8],⟨[.ptr 0 0,.row 1,.ptr 2 0],Le2⟩,[]⟩)),(22,(.j ⟨[1,2,9],[3,7,8,10,25],⟨Le3,Le0⟩,[]⟩)),(26,(.j ⟨[1,2,9],[3,7,8,10,45],⟨Le3,Le0⟩,[]⟩)),(30,(.j ⟨[1,2,9],[3,7,8,10,60],⟨Le3,Le0⟩,[]⟩)),(34,(.j ⟨[1,2,9],[3,7,8,85],⟨[.ptr 0 0,.row 1,.ptr 2 0,.d .bool],Le2⟩,[]⟩)),(40,(.j ⟨[],[7],⟨[.row 0],OR⟩,[]⟩))]⟩
def Z2:co:=cn Og wY
def Oc:FT:=⟨⟨[.d mP,.d (.sl gX),.d aL],[]⟩,⟨l7,[]⟩,dL [(10,(.j ⟨[1,2,8,9],[3,7,10],⟨Ni,Le4⟩,[.nil 7 3 aL]⟩)),(18,(.j ⟨[1,2,8,9,10],[3,7],⟨[.ptr 0 0,.row 1],Le4⟩,[]⟩)),(21,(.j ⟨[1,2,8,9,10],[3,7,65],⟨[.ptr 0 0,.row 1,.d .bool],Le4⟩,[]⟩))]⟩
def ZY:co:=cn Oc wW
def G0:FT:=⟨⟨[.d m8],[]⟩,⟨[.d vK],[]⟩,dL [(6,(.a [.nil 3 36 (.sl aL)])),(8,(.j ⟨[13],[1,3,14],⟨Ni,Le1⟩,[]⟩)),(21,(.j ⟨[4,13,14],[1,3,5],⟨[.ptr 0 0,.row 1,.d (.sl aL)],Le1⟩,[]⟩)),(33,(.j ⟨[4,13,14,32,33],[1,3,5,34],⟨[.ptr 0 0,.row 1,.d (.sl aL),.d aL],Le1⟩,[]⟩)),(50,(.j ⟨[4,13,14,50,51],[1,3,5,52],⟨[.ptr 0 0,.row 1,.d (.sl aL),.d aL],Le1⟩,[]⟩))]⟩
def Tu:co:=cn G0 sY
def GZ:FT:=⟨⟨[.d (.sl aL),.d jB],[]⟩,⟨[.d .bool],[]⟩,.leaf⟩
def Tt:co:=cn GZ nA
theorem Gx:aH Pg 16 Tv:=mk G1 nB an b9
theorem Bz:aH Pg 26 MQ:=mk BJ mF (ac Gx an) b9
theorem BA:aH Pg 50 MS:=mk BL mG an b9
theorem VU:aH Pg 87 Wu:=mk KA uN (ac BA an) b9
theorem Zv:aH Pg 51 Z2:=mk Og wY (ac Bz (ac VU an)) b9
theorem Zs:aH Pg 53 ZY:=mk Oc wW (ac Mt (ac Ms an)) b9
theorem R7:aH Pg 24 Tu:=mk G0 sY (ac BA (ac Zv (ac Zu (ac Zs (ac Zr an))))) b9
theorem Gw:aH Pg 48 Tt:=mk GZ nA (ac DG an) b9
abbrev Lg9:Y PV:=[.d (.sl aL),.d (.sl aL),.d (.sl aL),.d (.sl aL),.d (.sl aL)]
abbrev Lg0:Y PB:=[.cells 34 [.d m8],.cells D Lg9,.rows 3 af aL,.rows 52 af In]
abbrev Lg1:Y PV:=[.d aL,.d aL,.d aL,.d aL,.nil]
abbrev Lg2:Y PB:=[.cells 34 [.d m8],.cells D [.row 2,.row 3,.row 4,.row 5,.row 6],.rows 3 J aL,.rows 3 J aL,.rows 3 J aL,.rows 3 J aL,.rows 3 J aL]
abbrev Lg3:Y PB:=[.cells 34 [.d m8],.rows 52 af In,.cells 57 [.d gX]]
abbrev Lg4:Y PB:=[.cells 34 [.d m8],.rows 52 af In]
abbrev Lg5:Y PV:=[.d In,.d (.sl aL),.d aL]
abbrev Lg8:Y PV:=[.ptr 0 0,.row 1,.ptr 2 0,.d .bool]
def Lc:FT:=⟨⟨afl,[]⟩,⟨[.d .bool],[]⟩,dL [(6,(.j ⟨[0,1,10],[11],⟨[.d aL],[]⟩,[]⟩))]⟩
def Xj:co:=cn Lc nV
def B1:FT:=⟨⟨[.d aL],[]⟩,⟨[.d .bool],[]⟩,dL [(2,(.j ⟨[],[2],⟨[.d .bool],[]⟩,[]⟩))]⟩
def M9:co:=cn B1 hY
def Hx:FT:=⟨⟨Lg5,[]⟩,⟨[.d In,.d .bool],[]⟩,dL [(3,(.j ⟨[1,2],[3,6,26],⟨qH,[.cells 52 [.d In],.cells 52 Lg1]⟩,[]⟩)),(24,(.j ⟨[1,2,8],[3,6,9,83],⟨CZ,[.cells 52 [.d In],.cells 52 Lg1,.cells 52 Lg1]⟩,[]⟩))]⟩
def Uj:co:=cn Hx lX
def Es:FT:=⟨⟨Lg5,[]⟩,⟨[.d In,.d .bool],[]⟩,dL [(3,(.j ⟨[1,2],[3,6,25],⟨qH,[.cells 52 [.d In],.cells 52 Lg1]⟩,[]⟩)),(10,(.j ⟨[1,2],[6,8],⟨hP,[.cells 52 Lg1]⟩,[]⟩))]⟩
def QM:co:=cn Es kE
def B2:FT:=⟨⟨[.d m8],[]⟩,⟨[.d (.sl aL),.d (.sl In),.d aL],[]⟩,dL [(14,(.j ⟨[5],[1,7],⟨[.ptr 0 0,.mp 1],[.cells 34 [.d m8],.cells D Lg9]⟩,[.mz 7 5]⟩)),(18,(.j ⟨[5,28,29],[1,7,30],⟨[.ptr 0 0,.mp 1,.d aL],Lg2⟩,[.mz 7 5,.cel 7 0 3 aL,.cel 7 1 3 aL,.cel 7 2 3 aL,.cel 7 3 3 aL,.cel 7 4 3 aL]⟩)),(26,(.j ⟨[5,28,29,30],[1,7],⟨[.ptr 0 0,.mp 1],Lg2⟩,[.mz 7 5]⟩)),(29,(.j ⟨[5,8,28,29,30],[1,7,9,42],⟨[.ptr 0 0,.mp 1,.ptr 2 0,.d .bool],[.cells 34 [.d m8],.cells D [.row 3,.row 4,.row 5,.row 6,.row 7],.cells 57 [.d gX],.rows 3 J aL,.rows 3 J aL,.rows 3 J aL,.rows 3 J aL,.rows 3 J aL]⟩,[.mz 7 5]⟩)),(32,(.s 9 2 0 5)),(43,(.j ⟨[5,66,67],[1,7,10,11,68],⟨[.ptr 0 0,.mp 1,.row 2,.row 3,.d aL],Lg0⟩,[.mz 7 5]⟩)),(51,(.j ⟨[5,66,67,68],[1,7,10,11],⟨[.ptr 0 0,.mp 1,.row 2,.row 3],Lg0⟩,[.mz 7 5]⟩)),(62,(.j ⟨[5,12,66,67,68],[1,7,10,11,80,81,82],⟨[.ptr 0 0,.mp 1,.row 2,.row 3,.d (.sl aL),.d aL,.d aL],Lg0⟩,[.mz 7 5]⟩)),(63,(.s 12 0 0 5)),(65,(.j ⟨[5,12,66,67,68,80,81],[1,7,10,11,82],⟨[.ptr 0 0,.mp 1,.row 2,.row 3,.d aL],Lg0⟩,[.mz 7 5]⟩)),(73,(.j ⟨[5,12,66,67,68,80,81,82],[1,7,10,11],⟨[.ptr 0 0,.mp 1,.row 2,.row 3],Lg0⟩,[.mz 7 5]⟩)),(78,(.j ⟨[5,12,15,66,67,68,80,81,82],[1,7,10,11,16],⟨[.ptr 0 0,.mp 1,.row 2,.row 3,.d .bool],Lg0⟩,[.mz 7 5]⟩)),(86,(.j ⟨[5,12,15,66,67,68,80,81,82],[1,7,10,11,135],⟨[.ptr 0 0,.mp 1,.row 2,.row 3,.d .bool],Lg0⟩,[.mz 7 5]⟩))]⟩
def M_:co:=cn B2 ph
def Ar:FT:=⟨⟨[.d m8],[]⟩,⟨[.d (.sl In),.d aL],[]⟩,.leaf⟩
def Lx:co:=cn Ar nU
def Tc:FT:=⟨⟨[.d (.sl aL),.d aL,.d aL],[]⟩,⟨l7,[]⟩,dL [(6,(.j ⟨[1,2],[0],⟨[.row 0],OR⟩,[]⟩))]⟩
def aec:co:=cn Tc uL
def Oe:FT:=⟨⟨Lg5,[]⟩,⟨[.d In,.d .bool],[]⟩,dL [(9,(.j ⟨[8],[6,10],⟨[.ptr 0 0,.ptr 1 0],[.cells 52 Lg1,.cells 52 [.d In]]⟩,[]⟩)),(14,(.j ⟨[2,8,9],[3,6,10,51],⟨CZ,[.cells 52 [.d In],.cells 52 Lg1,.cells 52 [.d In]]⟩,[]⟩))]⟩
def Z0:co:=cn Oe wX
def Kz:FT:=⟨⟨Lg5,[]⟩,⟨[.d In,.d .bool],[]⟩,dL [(2,(.j ⟨[1,2],[6,8],⟨hP,[.cells 52 Lg1]⟩,[]⟩))]⟩
def Wt:co:=cn Kz uM
def D_:FT:=⟨⟨[.d m8],[]⟩,⟨[.d (.sl In)],[]⟩,dL [(10,(.j ⟨[4,15,16],[1,3,17],⟨Ni,Lg4⟩,[]⟩)),(18,(.j ⟨[4,15,16,17],[1,3],⟨[.ptr 0 0,.row 1],Lg4⟩,[]⟩)),(22,(.j ⟨[4,5,15,16,17],[1,3,6,30],⟨Lg8,Lg3⟩,[]⟩))]⟩
def Qn:co:=cn D_ qT
def yV:FT:=⟨⟨[.d In,.d In],[]⟩,⟨[.d .bool],[]⟩,dL [(2,(.j ⟨[],[4],⟨[.d .bool],[]⟩,[]⟩))]⟩
def H6:co:=cn yV mr
def Eo:FT:=⟨⟨[],[]⟩,⟨[.d .bool],[]⟩,dL [(10,(.j ⟨[],[0],⟨[.d .bool],[]⟩,[]⟩))]⟩
def QJ:co:=cn Eo uj
def tY:FT:=⟨⟨[.d Kg1],[]⟩,⟨[.d .bool],[]⟩,dL [(9,(.j ⟨[4,6],[25],⟨[.d .bool],[]⟩,[]⟩)),(20,(.j ⟨[4,6,27],[28],⟨[.d aL],[]⟩,[]⟩))]⟩
def Bs:co:=cn tY jz
theorem Vv x:lP (nV x) (Cu x):=by
 unfold nV Cu yi bx aX cR aD cL;with_reducible repeat' first|(refine OI.o ?_;constructor)|intro _
theorem Wl:aH Pg 35 Xj:=zu Lc nV Cu Vv (ac uC an) b9
theorem BD:aH Pg 32 M9:=mk B1 hY an b9
theorem GP:aH Pg 17 Uj:=mk Hx lX (ac BD (ac uC (ac BE an))) b9
theorem DP:aH Pg 18 QM:=mk Es kE (ac BD (ac uC (ac BE (ac Wl an)))) b9
theorem MI:aH Pg 22 M_:=mk B2 ph (ac Wk (ac GP (ac DP an))) b9
theorem J7:aH Pg 12 Lx:=mk Ar nU (ac MI an) b9
theorem adn:aH Pg 58 aec:=mk Tc uL (ac JR an) b9
theorem Zt:aH Pg 27 Z0:=mk Oe wX (ac Gw (ac DG (ac Zw (ac adn an)))) b9
theorem VS:aH Pg 28 Wt:=mk Kz uM (ac Gw (ac R6 (ac DG an))) b9
theorem PP:aH Pg 13 Qn:=mk D_ qT (ac Gx (ac R7 (ac Bz (ac Zt (ac VS an))))) b9
theorem HV:aH Pg 14 H6:=mk yV mr (ac N2 an) b9
theorem P3:aH Pg 11 QJ:=mk Eo uj (ac GP (ac DP (ac N2 an))) b9
theorem hlaw24_EpochShadows:aH Pg 4 Bs:=mk tY jz (ac Fu (ac P3 (ac J7 (ac PP (ac HV an))))) b9
theorem run_law {P:Program} {f:FuncId} {pre:Tm} {m:pre.ty.den->I (Tm.ty ⟨[.d .bool],[]⟩).den} (sp:qC P f ⟨pre,⟨[.d .bool],[]⟩,m⟩) (h0:pre.bs.length=0) {x:pre.ty.den} (a:m x=M J) {vs:Y TV} {hp:bk} (hi:DE pre x=M (vs,hp)) {la:Y AV} (hla:cO hp vs=M la)
 {W:World} {us:ξ} (hg:∀g cells,G g=M cells->oe (λ_=>False) W (.ptr cells 0) (.pointer (M ⟨g,0,D⟩))) (hrel:kq (λ_=>D) (λ_=>False) W la us):
 Calls P f us.toArray W λe w'=>e= .returned (.bool J)/\Below W.heap.size W w':=by
 obtain⟨l1,y⟩:=xl hi;obtain⟨l2,z⟩:=xl (t:=⟨[.d .bool],[]⟩) (x:=J) (vs:=[.f .bool J]) (h1:=PT.leaf) rfl;have hn:bz hp=λ_=>D:=by
  funext n;cases hb:bz hp n with
  |none=>rfl
  |some b=>
   obtain⟨i,c,rfl,h1,_⟩:=jL hb;have:=y.lt_len h1;omega
 have own0:∀(φ:PM) k,¬own φ (bz hp) k:=by rintro φ k ⟨i,b,h1,_⟩;rw[hn]at h1;cases h1
 have htot:tot (λ_=>False) (λ_=>D) (bz hp)=λ_=>False:=by
  funext k;exact propext ⟨λh=>h.elim id λh=>ca h (own0 _ k),λh=>h.elim⟩
 refine Calls.mono (sp.calls x J a vs hp l1 _ PT.leaf l2 la _ y z hla rfl (λ_=>D) (λ_=>False) W us ⟨(λi j b b' k h1=>by rw[hn]at h1;cases h1),(λi b h1=>by rw[hn]at h1;cases h1),(λk h=>h.elim),(λg cells h=>by rw[htot];exact hg g cells h)⟩ (by rw[htot];exact hrel) (λn k h=>by cases h)) ?_;rintro en w' ⟨v,φ',rfl,he,_,_,_,hv⟩;refine ⟨?_,⟨he.os,he.tape,he.output,he.size,λk hk=>he.blk k hk (own0 _ k)⟩⟩;have hv:cS φ' _ w' (.f (.raw (.bool J))) v:=hv;cases hv with
 |f h=>cases h;rfl
theorem gKw:Tryz.prog.globalNamed "interleave/token.keywords" =M 0:=by kernel_rfl
theorem tKw:(Tryz.prog.globals[0]?).map (·.type)=M 278:=by kernel_rfl
theorem kw_of_laid {W:World} (h:laidMetH Tryz.prog [("interleave/token.keywords",Rows.laid_interleave_token_keywords)] W):∀g cells,G g=M cells→oe (λ_=>False) W (.ptr cells 0) (.pointer (M ⟨g,0,D⟩)):=by
 intro g cells L;unfold G at L;split at L
 .rename_i hg;have hg:=eq_of_beq hg;subst hg;cases L;rw[MakeChecks.laidMetH_plain _ _ _ (by kernel_rfl)]at h;obtain⟨ps,⟨g0,t0,cs0,f0,p0,q0,A,Z,U,hd0,_,_⟩,_,_⟩:=h;obtain rfl:=kh (gKw.symm.trans A);obtain rfl:=kh (tKw.symm.trans Z);obtain⟨xs,m1,rfl,z,hlen,hn,hel⟩:=DataW.trod_array Tryz.underlying278 hd0;have c1:Tryz.prog.cellsOf 9=1:=by kernel_rfl
  have c22:Tryz.prog.cellsOf 278=22:=by kernel_rfl
  rw[c22]at hlen;simp only[aE,Rows.laid_interleave_token_keywords,DataW.agg.injEq]at z;have hxs:=z.1;have hcell:∀j,j<22→∃l,(xs.map (·.1))[j]? =M (.lit (.string l))∧W.cell? ⟨0,j,D⟩=M (.string ⟨l.toArray⟩):=λj hj=>by
   have h1:=hel j hj;rw[c1,Nat.mul_one]at h1;rw[ay (by omega)]at h1;obtain⟨s,e1,e2,_⟩:=DataW.trod_string Tryz.underlying9 h1;refine ⟨s.data.toList,?_,?_⟩
   .rw[bc,ay (by omega),ct,e2]
   .have:=World.var?_cell A U j;rw[this];have h2:cs0.toList[j]? =M (.string s):=by
     have:((cs0.toList.drop j).take 1)[0]? =M (.string s):=by rw[e1];rfl
     rw[cX,aC (by omega),ic]at this;simpa using this
    rw[← cD,h2]
  have hb:0<W.heap.size:=by
   obtain⟨l,_,h2⟩:=hcell 0 (by omega);exact World.block_lt_of_cell? W _ h2
  refine .ptr Dw 0 0 0 (λj=>(W.cell? ⟨0,j,D⟩).getD undef) (λh=>h) hb (λx a=>?_) (λj hj=>?_) (λj x a=>?_)
  .simp only[Dw,bl,cG,gq]at a;rcases a with rfl|rfl|rfl|rfl|rfl|rfl|rfl|rfl|rfl|rfl|rfl|rfl|rfl|rfl|rfl|rfl|rfl|rfl|rfl|rfl|rfl|rfl<;>rfl
  .obtain⟨l,_,h2⟩:=hcell j hj;rw[bJ,h2];rfl
  .have hj:j<22:=(bn.1 a).1;obtain⟨l,h1,h2⟩:=hcell j hj;rw[← hxs]at h1;have:x= .raw (.string ⟨l.toArray⟩):=by
    rcases j with _|_|_|_|_|_|_|_|_|_|_|_|_|_|_|_|_|_|_|_|_|_|j;all_goals first|(simp only[l8,List.getElem?_cons_succ,ah,DataW.lit.injEq,Lit.string.injEq,Dw]at h1 a;subst h1;subst a;rfl)|omega
   rw[this,h2];exact .raw _
 .cases L
end
end Go.Proofs.YtloaobgmjdjhhaaGreatDoor.AI
