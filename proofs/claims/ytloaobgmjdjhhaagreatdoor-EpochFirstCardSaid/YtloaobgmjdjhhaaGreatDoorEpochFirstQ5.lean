/-
  Texts of the proof, part 6 of 6: what is used to prove the statement. No condition.
-/
import Derived.Test.YtloaobgmjdjhhaaGreatDoorEpochFirstQ4
import Derived.Test.YtloaobgmjdjhhaaGreatDoorRows
import Derived.LaidMore
namespace Go.Proofs.YtloaobgmjdjhhaaGreatDoor.AI
open Go.RowKit
set_option maxRecDepth 100000
set_option maxHeartbeats 4000000
set_option linter.unusedVariables false
set_option linter.unusedSimpArgs false
open _root_.Bool renaming true→J,false→af
open _root_.List renaming getElem?_cons_zero→mb
open _root_.Nat renaming beq→aB
open _root_.Option renaming some→M,none→D,map_some→ct
open _root_.Prod renaming p2→aY,p3→bi,p4→bx,q3→bP,p5→cI,q5→cY,q4→dG,p6→dY,q6→fG,q7→kA,p7→lh,q8→qH,p8→AM,p9→Db,p10→E6
noncomputable section
abbrev vJ:Y PV:=[.d aL,.d aL,.d aL,.d aL,.d aL,.nil,.nil]
abbrev wI:Y PV:=[.nil,.d aL,.nil,.nil,.nil,.nil,.nil]
abbrev ali:Y PV:=[.ptr 1 0,.d aL,.d aL,.d .bool,.d .bool,.d .bool,.d .bool,.row 4]
abbrev aln:Y PV:=[.d aL,.d aL,.d .str,.d .str,.nil,.d aL,.d aL,.d .str,.nil,.nil,.nil]
abbrev La2:Y PB:=[.cells 214 ali,.cells 90 [.d zE],.gone,.cells 220 aln,.rowsP 9 .str]
abbrev OZ:Y PV:=[.ptr 0 0,.ptr 1 0,.ptr 2 0,.ptr 3 0,.ptr 4 0,.ptr 5 0,.ptr 6 0,.ptr 7 0,.d .bool]
abbrev La4:Y PB:=[.cells 206 [.d (.sl k_),.d (.sl sC),.d (.sl mw),.d (.sl .str),.d (.sl .str),.d (.sl qe),.d (.sl .str),.row 2,.d aL,.d aL],.gone,.rows 210 J rF]
abbrev La5:Y PB:=[.cells 206 [.d (.sl k_),.d (.sl sC),.d (.sl mw),.d (.sl .str),.d (.sl .str),.d (.sl qe),.d (.sl .str),.row 1,.d aL,.d aL],.rows 210 J rF]
abbrev La6:Y PV:=[.d aL,.row 11,.row 12,.d aL]
abbrev zZ9:PB:=.rows 9 af .str
abbrev La7:Y PB:=[.cells 159 [.nil,.nil],.cells 214 [.ptr 5 0,.d aL,.d aL,.d .bool,.d .bool,.d .bool,.d .bool,.row 6],.cells 159 [.d (.sl HW),.row 7],zZ9,.cells 204 [.d .str,.d aL,.row 8,.row 9],.cells 90 [.d zE],.rowsP 9 .str,.rows 204 J tS,zZ9,.rows 220 J .sm]
abbrev zZ5:PB:=.rows 9 J .str
abbrev La8:Y PB:=[.cells 245 [.d (.sl HW),.d (.sl tS),.d aL,.row 1,.row 6,.row 7],.rowsP 220 .sm,.gone,.gone,.cells 220 [.d .sm],.cells 159 [.d O0],zZ5,zZ5]
abbrev La9:Y PV:=[.d (.sl eB),.d aL,.d qG,.d (.sl iu),.row 8,.row 9,.csl 10 4 4]
abbrev zZ0:PB:=.rows 2 J aL
abbrev ajy:Y PB:=[.cells 107 [.d (.sl eB),.d aL,.d qG,.d (.sl iu),.row 6,.row 7,.csl 8 4 4],.cells 162 [.d iJ],.cells 107 wI,.cells 57 vJ,.cells 57 [.d gH],.cells 197 [.d e_],zZ0,zZ0,.cells 197 [.d e_,.d e_,.d e_,.d e_]]
abbrev alj:Y PV:=[.ptr 1 0,.d aL,.d aL,.d .bool,.d .bool,.d .bool,.d .bool,.row 2]
abbrev Rd:Y PV:=[.d E0,.d aL]
abbrev X0:Y PB:=[.cells 214 alj,.cells 90 Rd,.rowsP 9 .str]
abbrev NA:Y PV:=[.ptr 0 0,.ptr 1 0,.ptr 2 0,.ptr 3 0,.ptr 4 0,.ptr 5 0,.ptr 6 0,.ptr 7 0,.d aL]
abbrev anx:Y PV:=[.d (.sl eB),.d aL,.d qG,.d (.sl iu),.row 8,.row 9,.csl 10 4 3]
abbrev zZ4:PB:=.rows 36 J (.sl aL)
abbrev aoi:Y PB:=[.cells 112 [.d vw],.cells 107 anx,.cells 162 [.d iJ],.cells 107 wI,.cells 57 vJ,.cells 57 [.d gH],.cells 197 La6,.cells 210 [.d rF],zZ0,zZ0,.cells 197 [.d aL,.row 11,.row 12,.d aL,.d e_,.d e_],zZ0,zZ4]
abbrev aoh:Y PB:=[.cells 112 [.d vw],.cells 107 anx,.cells 162 [.d iJ],.cells 107 wI,.cells 57 vJ,.cells 57 [.d gH],.cells 197 La6,.cells 210 [.d rF],zZ0,zZ0,.cells 197 [.d e_,.d aL,.row 11,.row 12,.d aL,.d e_],zZ0,zZ4]
abbrev aog:Y PB:=[.cells 112 [.d vw],.cells 107 anx,.cells 162 [.d iJ],.cells 107 wI,.cells 57 vJ,.cells 57 [.d gH],.cells 197 La6,.cells 210 [.d rF],zZ0,zZ0,.cells 197 [.d e_,.d e_,.d aL,.row 11,.row 12,.d aL],zZ0,zZ4]
abbrev alm:Y PV:=[.d (.sl eB),.d aL,.d qG,.d (.sl iu),.row 8,.row 9,.csl 10 4 2]
abbrev aof:Y PB:=[.cells 112 [.d vw],.cells 107 alm,.cells 162 [.d iJ],.cells 107 wI,.cells 57 vJ,.cells 57 [.d gH],.cells 197 La6,.cells 210 [.d rF],zZ0,zZ0,.cells 197 [.d aL,.row 11,.row 12,.d aL,.d e_],zZ0,zZ4]
abbrev aoe:Y PB:=[.cells 112 [.d vw],.cells 107 alm,.cells 162 [.d iJ],.cells 107 wI,.cells 57 vJ,.cells 57 [.d gH],.cells 197 La6,.cells 210 [.d rF],zZ0,zZ0,.cells 197 [.d e_,.d aL,.row 11,.row 12,.d aL],zZ0,zZ4]
abbrev abr:Y PB:=[.cells 245 [.d (.sl HW),.d (.sl tS),.d aL,.row 1,.row 4,.row 5],.rowsP 220 .sm,.gone,.gone,zZ5,zZ5]
abbrev Nz:Y PV:=[.ptr 0 0,.ptr 1 0,.ptr 2 0,.ptr 3 0,.ptr 4 0,.ptr 5 0,.ptr 6 0,.d .bool]
abbrev ic:Y PV:=[.ptr 0 0,.d .bool]
abbrev abq:Y PB:=[.cells 245 [.d (.sl HW),.d (.sl tS),.d aL,.row 1,.row 2,.row 3],.rowsP 220 .sm,zZ5,zZ5]
abbrev aod:Y PB:=[.cells 112 [.d vw],.cells 107 [.d (.sl eB),.d aL,.d qG,.d (.sl iu),.row 8,.row 9,.csl 10 4 1],.cells 162 [.d iJ],.cells 107 wI,.cells 57 vJ,.cells 57 [.d gH],.cells 197 La6,.cells 210 [.d rF],zZ0,zZ0,.cells 197 La6,zZ0,zZ4]
abbrev Ny:Y PV:=[.ptr 0 0,.ptr 1 0,.ptr 2 0,.ptr 3 0,.ptr 4 0,.ptr 5 0,.ptr 6 0]
abbrev aoc:Y PB:=[.cells 112 [.d vw],.cells 107 La9,.cells 162 [.d iJ],.cells 107 wI,.cells 57 vJ,.cells 57 [.d gH],.cells 197 La6,.cells 210 [.d rF],zZ0,zZ0,.cells 197 [.d aL,.row 11,.row 12,.d aL,.d e_,.d e_,.d e_],zZ0,zZ4]
abbrev aob:Y PB:=[.cells 112 [.d vw],.cells 107 La9,.cells 162 [.d iJ],.cells 107 wI,.cells 57 vJ,.cells 57 [.d gH],.cells 197 La6,.cells 210 [.d rF],zZ0,zZ0,.cells 197 [.d e_,.d aL,.row 11,.row 12,.d aL,.d e_,.d e_],zZ0,zZ4]
abbrev aoa:Y PB:=[.cells 112 [.d vw],.cells 107 La9,.cells 162 [.d iJ],.cells 107 wI,.cells 57 vJ,.cells 57 [.d gH],.cells 197 La6,.cells 210 [.d rF],zZ0,zZ0,.cells 197 [.d e_,.d e_,.d aL,.row 11,.row 12,.d aL,.d e_],zZ0,zZ4]
abbrev ao9:Y PB:=[.cells 112 [.d vw],.cells 107 La9,.cells 162 [.d iJ],.cells 107 wI,.cells 57 vJ,.cells 57 [.d gH],.cells 197 La6,.cells 210 [.d rF],zZ0,zZ0,.cells 197 [.d e_,.d e_,.d e_,.d aL,.row 11,.row 12,.d aL],zZ0,zZ4]
abbrev L8:Y PB:=[.cells 31 [.d mS],.cells 99 [.d je],.cells 57 [.d gH],.cells 99 wI]
abbrev Nx:Y PV:=[.ptr 0 0,.ptr 1 0,.ptr 2 0,.ptr 3 0,.ptr 4 0,.ptr 5 0]
abbrev ao8:Y PB:=[.cells 107 [.d (.sl eB),.d aL,.d qG,.d (.sl iu),.row 6,.row 7,.csl 8 4 3],.cells 162 [.d iJ],.cells 107 wI,.cells 57 vJ,.cells 57 [.d gH],.cells 197 [.d e_],zZ0,zZ0,.cells 197 [.d e_,.d e_,.d e_]]
abbrev UR:Y PV:=[.d (.sl eB),.d aL,.d qG,.d (.sl iu),.row 7,.row 8,.csl 9 4 4]
abbrev qF:Y PV:=[.ptr 0 0,.ptr 1 0,.d .bool]
abbrev AH:Y PV:=[.ptr 0 0,.ptr 1 0,.ptr 2 0,.ptr 3 0,.d .bool]
abbrev ajr:Y PV:=[.nil,.nil,.nil,.nil,.nil,.nil]
abbrev ao7:Y PB:=[.cells 159 [.d O0],.cells 31 ajr,.cells 31 [.row 4,.row 5,.row 6,.row 7,.nil,.nil],.cells 248 [.d HW],.rows 60 J k_,.rows 137 J sC,.rows 130 J mw,zZ5]
abbrev ag7:Y PV:=[.nil,.nil,.nil,.nil,.nil,.nil,.nil]
abbrev are:Y PV:=[.d (.sl k_),.d (.sl sC),.d (.sl mw),.d (.sl .str),.d (.sl .str),.d (.sl qe),.row 5]
abbrev art:Y PB:=[.cells 159 [.d O0],.cells 112 ag7,.cells 112 are,.cells 206 [.d (.sl k_),.d (.sl sC),.d (.sl mw),.d (.sl .str),.d (.sl .str),.d (.sl qe),.d (.sl .str),.row 6,.d aL,.d aL],.cells 193 [.d aL,.row 6],.rows 193 J xL,.rows 210 J rF]
abbrev Iu:Y PV:=[.row 0,.d aL,.row 1,.row 2]
abbrev zZ1:PB:=.rows 3 J aL
abbrev ao6:Y PB:=[.cells 90 [.d zE],.cells 99 [.d je],.cells 31 [.d mS],.rows 57 J gH,.cells 36 [.row 5,.row 6,.row 7,.row 8],zZ1,zZ1,zZ1,zZ1]
abbrev Gr:Y PV:=[.ptr 0 0,.ptr 1 0,.ptr 2 0,.d aL]
abbrev L7:Y PV:=[.d aL,.d (.sl aL),.d vx,.d aL]
abbrev abp:Y PV:=[.d (.sl eB),.d aL,.d qG,.d (.sl iu),.row 7,.row 8,.csl 9 4 3]
abbrev ao5:Y PB:=[.cells 90 [.d zE],.cells 99 [.d je],.cells 31 [.d mS],.cells 36 [.row 4,.row 5,.row 6,.row 7],zZ1,zZ1,zZ1,zZ1]
abbrev EZ:Y PV:=[.ptr 0 0,.ptr 1 0,.ptr 2 0,.d .bool]
abbrev yL:Y PV:=[.ptr 0 0,.ptr 1 0,.d aL]
abbrev L6:Y PV:=[.d aL,.row 10,.row 11,.d aL]
abbrev ajq:Y PV:=[.d aL,.row 0,.row 1,.d aL]
abbrev Zp:Y PV:=[.d aL,.nil,.nil,.d aL]
abbrev ao4:Y PB:=[zZ0,zZ4,.cells 210 [.d rF],.cells 197 ajq,.cells 197 Zp]
abbrev ao3:Y PB:=[.cells 245 [.d (.sl HW),.d (.sl tS),.d aL,.row 4,.row 5,.row 6],.gone,.gone,.gone,.rowsP 220 .sm,zZ5,zZ5]
abbrev C6:Y PV:=[.nil,.d aL,.nil,.nil]
abbrev zZ2:PB:=.rows 4 J .bool
abbrev zZ6:PB:=.rows 178 J iu
abbrev zZ7:PB:=.rows 176 J eB
abbrev ao2:Y PB:=[.cells 96 [.row 2,.d aL,.row 3,.row 4],.cells 96 C6,zZ7,zZ2,zZ6]
abbrev L5:Y PV:=[.ptr 0 0,.ptr 3 0,.d .bool]
abbrev ars:Y PB:=[.cells 107 [.d (.sl eB),.d aL,.d qG,.d (.sl iu),.row 6,.row 7,.csl 8 4 2],.cells 162 [.d iJ],.cells 107 wI,.cells 57 vJ,.cells 57 [.d gH],.cells 197 [.d e_],zZ0,zZ0,.cells 197 [.d e_,.d e_]]
abbrev arq:Y PB:=[.cells 34 ag7,.cells 90 [.d zE],.cells 34 are,.cells 99 [.d je],.rows 57 af gH,.rows 57 J gH]
abbrev qE:Y PB:=[.cells 31 [.d mS]]
abbrev arp:Y PB:=[.cells 90 [.d zE],.cells 99 [.d je],.cells 31 [.d mS],.rows 57 J gH,.cells 36 [.row 7,.row 8,.row 9,.row 10],.cells 57 [.d gH],.cells 99 [.d je],zZ1,zZ1,zZ1,zZ1]
abbrev aro:Y PB:=[.cells 31 ajr,.cells 31 [.row 2,.row 3,.row 4,.row 5,.row 6,.row 7],.rows 60 af k_,.rows 137 af sC,.rows 130 af mw,zZ9,zZ9,.rows 139 J qe]
abbrev xK:Y PV:=[.ptr 0 0,.d aL]
abbrev ag6:Y PV:=[.row 2,.row 3,.row 4,.row 5]
abbrev arn:Y PB:=[.cells 90 [.d zE],.cells 36 ag6,zZ1,zZ1,zZ1,zZ1,.cells 57 vJ,.cells 57 [.d aL,.d aL,.d aL,.d aL,.d aL,.d (.sl aL),.nil]]
abbrev ajx:Y PV:=[.d (.sl eB),.d aL,.d qG,.d (.sl iu),.row 7,.row 8,.csl 9 4 2]
abbrev Nw:Y PV:=[.d wJ,.d gH,.d .bool]
abbrev arm:Y PB:=[.cells 90 [.d zE],.cells 36 ag6,zZ1,zZ1,zZ1,zZ1,.cells 99 [.d je],.cells 31 [.d mS],.cells 57 vJ,.cells 57 vJ]
abbrev arl:Y PB:=[.cells 159 [.d O0],.cells 31 ajr,.cells 31 [.row 3,.row 4,.row 5,.row 6,.nil,.nil],.rows 60 J k_,.rows 137 J sC,.rows 130 J mw,zZ5]
abbrev ao1:Y PV:=[.d (.sl eB),.d aL,.d qG,.d (.sl iu),.row 3,.row 4,.row 5]
abbrev Nv:Y PV:=[.d vw,.d wJ,.d iJ]
abbrev ao0:Y PB:=[zZ7,zZ2,zZ6,.cells 96 Iu,zZ1]
abbrev aga:Y PV:=[.row 3,.d aL,.row 4,.row 5]
abbrev ark:Y PB:=[.cells 31 [.d mS],.cells 96 aga,.cells 96 C6,zZ7,zZ2,zZ6]
abbrev vI:Y PV:=[.d aL,.d aL]
abbrev anz:Y PB:=[.rows 57 J gH,.cells 112 [.d vw],.cells 107 [.d wJ],.cells 107 wI]
abbrev arj:Y PB:=[.cells 193 [.d xL],.cells 197 [.d aL,.row 3,.row 4,.d aL],.cells 197 Zp,zZ0,zZ4]
abbrev ari:Y PB:=[.cells 214 ali,.cells 90 [.d zE],.gone,.rows 220 J .sm,.rowsP 9 .str]
abbrev anw:Y PV:=[.ptr 1 0,.d aL,.d aL,.d .bool,.d .bool,.d .bool,.d .bool,.row 3]
abbrev arh:Y PB:=[.cells 57 vJ,.cells 197 [.d e_],.cells 210 [.d rF],.cells 57 [.d aL,.d aL,.d aL,.d aL,.d aL,.row 4,.nil],zZ1]
abbrev Rc:Y PB:=[.cells 220 [.d .sm]]
abbrev ajw:Y PV:=[.agg [.agg Iu,.row 3,.row 4,.csl 5 4 4]]
abbrev UQ:Y PB:=[.cells 159 [.d O0]]
abbrev anv:Y PB:=[.cells 31 [.d mS],.cells 193 [.d xL],.cells 210 [.d rF]]
abbrev ajv:Y PB:=[.cells 159 [.d O0],.cells 204 [.d tS]]
abbrev aju:Y PB:=[.cells 159 [.d O0],.cells 218 [.d .ex]]
abbrev anu:Y PB:=[zZ7,zZ2,zZ6]
abbrev ant:Y PB:=[.cells 31 [.d mS],zZ5,.cells 60 [.d k_]]
abbrev ajt:Y PB:=[.cells 31 [.d mS],.cells 210 [.d rF]]
abbrev ajs:Y PV:=[.ptr 0 0,.ptr 4 0,.ptr 5 0,.d .bool]
abbrev ans:Y PV:=[.ptr 0 0,.ptr 1 0,.ptr 2 0,.ptr 3 0,.ptr 4 0,.d aL]
abbrev XZ:Y PB:=[.cells 31 [.d mS],.cells 96 [.d Iv]]
abbrev anr:Y PB:=[.cells 90 [.d zE],zZ1,zZ1]
abbrev abo:Y PB:=[.cells 31 [.d mS],zZ5]
abbrev anq:Y PB:=[.cells 57 [.d gH],.cells 99 wI,.cells 99 ao1,zZ0,zZ0,zZ1]
abbrev arf:Y PB:=[.cells 90 Rd,.cells 36 ag6,zZ1,zZ1,zZ1,zZ1]
abbrev Gq:Y PV:=[.d (.sl aL),.d aL]
abbrev Gp:Y PV:=[.ptr 0 0,.row 1,.d aL]
abbrev abn:Y PB:=[.cells 248 [.d HW]]
abbrev abm:Y PB:=[.cells 90 [.d zE]]
abbrev anp:Y PV:=[.agg [.agg Iu,.row 3,.row 4,.csl 5 4 3]]
abbrev UP:Y PB:=[.cells 90 Rd]
abbrev agf:Y PB:=[zZ0,zZ4]
abbrev age:Y PB:=[.cells 112 [.d vw],.cells 107 [.d wJ]]
abbrev agd:Y PB:=[.cells 31 [.d mS],.cells 193 [.d xL]]
abbrev ne:Y PV:=[.d (.sl aL)]
abbrev agc:Y PV:=[.ptr 0 0,.ptr 1 0,.ptr 2 0,.ptr 3 0]
abbrev alk:Y PV:=[.d (.sl eB),.d aL,.d qG,.d (.sl iu),.row 7,.row 8,.csl 9 4 1]
abbrev agb:Y PB:=[.cells 96 [.d Iv],zZ1]
abbrev US:Y PV:=[.ptr 0 0,.d aL,.d aL]
def tyT:PT Ty:=dL [(2,aL),(3,aL),(4,.bool),(9,.str),(36,(.sl aL)),(50,iJ),(52,(.st (.pr iJ (.pr iJ (.sl aL))))),(57,gH),(60,k_),(67,iJ),(93,qG),(130,mw),(137,sC),(139,qe),(162,iJ),(176,eB),(178,iu),(193,xL),(197,e_),(204,tS),(210,rF),(218,.ex),(220,.sm),(248,HW)]
def b_ (t:TypeId):I Ty:=tyT.get t
def BZ:FT:=⟨⟨[],[]⟩,⟨[.d (.sl .str)],[]⟩,.leaf⟩
def Nf:co:=cn BZ kS
def Ar:FT:=⟨⟨[.d .str],[]⟩,⟨[.d .bool],[]⟩,dL [(8,(.j ⟨[0,3],[4],⟨[.d aL],[]⟩,[]⟩))]⟩
def Lz:co:=cn Ar jU
def HG:FT:=⟨⟨[.d (.int .u8)],[]⟩,⟨[.d .bool],[]⟩,dL [(2,(.j ⟨[],[2],⟨[.d .bool],[]⟩,[]⟩))]⟩
def Um:co:=cn HG l9
def Lf:FT:=⟨⟨[.d (.int .u8)],[]⟩,⟨[.d .bool],[]⟩,dL [(2,(.j ⟨[],[2],⟨[.d .bool],[]⟩,[]⟩))]⟩
def Xn:co:=cn Lf r8
def Ld:FT:=⟨⟨[.d (.int .u8)],[]⟩,⟨[.d .bool],[]⟩,dL [(2,(.j ⟨[],[2],⟨[.d .bool],[]⟩,[]⟩))]⟩
def Xm:co:=cn Ld pW
def HH:FT:=⟨⟨[.d .str],[]⟩,⟨[.d .bool],[]⟩,dL [(3,(.j ⟨[0],[21],⟨[.d .bool],[]⟩,[]⟩)),(14,(.j ⟨[0],[3],⟨[.d aL],[]⟩,[]⟩))]⟩
def Un:co:=cn HH fA
def K9:FT:=⟨⟨[.d .bool],[]⟩,⟨[.d aL],[]⟩,.leaf⟩
def Xe:co:=cn K9 gi
def K_:FT:=⟨⟨vI,[]⟩,⟨[.d aL,.d .bool],[]⟩,.leaf⟩
def Xf:co:=cn K_ uU
def HA:FT:=⟨⟨[.d aL,.d aL,.d aL],[]⟩,⟨[.d aL,.d .bool],[]⟩,dL [(91,(.j ⟨[],[6,7],⟨[.d aL,.d .bool],[]⟩,[]⟩)),(97,(.j ⟨[],[6,7],⟨[.d aL,.d .bool],[]⟩,[]⟩))]⟩
def Ui:co:=cn HA s6
def La:FT:=⟨⟨vI,[]⟩,⟨[.d aL],[]⟩,dL [(12,(.j ⟨[],[5],⟨[.d aL],[]⟩,[]⟩))]⟩
def Xg:co:=cn La rZ
def BY:FT:=⟨⟨[.d aL],[]⟩,⟨[.d aL],[]⟩,dL [(4,(.j ⟨[0],[3],⟨[.d .bool],[]⟩,[]⟩)),(10,(.j ⟨[0],[10],⟨[.d .bool],[]⟩,[]⟩)),(16,(.j ⟨[],[17],⟨[.d .bool],[]⟩,[]⟩))]⟩
def Nd:co:=cn BY mO
def pG:FT:=⟨⟨[.d .ex],[]⟩,⟨[.d .bool],[]⟩,dL [(2,(.j ⟨[],[1,3],⟨ic,[.cells 218 [.d .ex]]⟩,[]⟩)),(5,(.j ⟨[],[1,50],⟨ic,[.cells 218 [.d .ex]]⟩,[]⟩)),(16,(.j ⟨[],[1,4],⟨xK,[.cells 218 [.d .ex]]⟩,[]⟩))]⟩
def Ik:co:=cn pG ju
def H6 (n:Nat):co:=cn pG (ir n)
def Lc:FT:=⟨⟨[.d .ex],[]⟩,⟨[.d .bool],[]⟩,dL [(2,(.j ⟨[],[2],⟨[.d .bool],[]⟩,[]⟩))]⟩
def Xl:co:=cn Lc pV
def tR:FT:=⟨⟨[.d .sm],[]⟩,⟨[.d .bool],[]⟩,dL [(3,(.j ⟨[],[1,13],⟨ic,Rc⟩,[]⟩)),(10,(.j ⟨[],[1,3],⟨ic,Rc⟩,[]⟩)),(13,(.j ⟨[],[1,47],⟨ic,Rc⟩,[]⟩)),(21,(.j ⟨[],[1,66],⟨ic,Rc⟩,[]⟩)),(29,(.j ⟨[],[1,95],⟨ic,Rc⟩,[]⟩)),(36,(.j ⟨[],[1,4],⟨ic,Rc⟩,[]⟩)),(39,(.j ⟨[],[1,130],⟨ic,Rc⟩,[]⟩)),(46,(.j ⟨[],[1,5],⟨ic,Rc⟩,[]⟩)),(49,(.j ⟨[],[1,157],⟨ic,Rc⟩,[]⟩)),(56,(.j ⟨[],[2],⟨[.d .bool],[]⟩,[]⟩))]⟩
def H5 (n:Nat):co:=cn tR (eL n)
def oI:FT:=⟨⟨[.d (.sl .sm)],[]⟩,⟨[.d .bool],[]⟩,dL [(6,(.j ⟨[0],[3],⟨[.d aL],[]⟩,[]⟩))]⟩
def F8:co:=cn oI ox
def Fv (n:Nat):co:=cn oI (dN n)
def ze:FT:=⟨⟨[.d HW],[]⟩,⟨[.d .bool],[]⟩,dL [(3,(.j ⟨[],[1,31],⟨ic,abn⟩,[]⟩)),(11,(.j ⟨[],[1,50],⟨ic,abn⟩,[]⟩)),(18,(.j ⟨[],[2],⟨[.d .bool],[]⟩,[]⟩))]⟩
def Ij:co:=cn ze kw
def HE:FT:=⟨⟨[.d O0],[]⟩,⟨[.d .bool],[]⟩,dL [(6,(.j ⟨[],[1,3],⟨xK,UQ⟩,[]⟩)),(27,(.j ⟨[],[1,4],⟨xK,UQ⟩,[]⟩)),(42,(.j ⟨[4],[1,5,6],⟨yL,ajv⟩,[]⟩)),(59,(.j ⟨[4],[1,56],⟨ic,UQ⟩,[]⟩))]⟩
def Ul:co:=cn HE qr
def Y4:FT:=⟨⟨[.d (.sl .str),.d .str],[]⟩,⟨[.d aL],[]⟩,dL [(6,(.j ⟨[0,1],[5],⟨[.d aL],[]⟩,[]⟩))]⟩
def aiv:co:=cn Y4 jq
def HC:FT:=⟨⟨[.d (.sl HW),.d .str],[]⟩,⟨[.d aL],[]⟩,dL [(6,(.j ⟨[0,1],[5],⟨[.d aL],[]⟩,[]⟩))]⟩
def Uk:co:=cn HC ip
def BX:FT:=⟨⟨[.d (.sl tS),.d .str],[]⟩,⟨[.d aL],[]⟩,dL [(6,(.j ⟨[0,1],[5],⟨[.d aL],[]⟩,[]⟩))]⟩
def Nc:co:=cn BX hX
def HB:FT:=⟨⟨[.d O0,.d aL,.d .str],[]⟩,⟨[.d aL],[]⟩,dL [(3,(.j ⟨[2],[3,27],⟨ic,UQ⟩,[]⟩)),(52,(.j ⟨[7],[3,56],⟨ic,UQ⟩,[]⟩))]⟩
def Uj:co:=cn HB qp
def OE:FT:=⟨⟨[.d O0,.d aL,.d .str,.d aL,.d aL],[]⟩,⟨[.d aL],[]⟩,dL [(13,(.j ⟨[],[25],⟨[.d .bool],[]⟩,[]⟩))]⟩
def aam:co:=cn OE gQ
def yC:FT:=⟨⟨[.d .ex],[]⟩,⟨vI,[]⟩,dL [(8,(.j ⟨[],[1,4,5,6],⟨[.ptr 0 0,.d aL,.d aL,.d aL],[.cells 218 [.d .ex]]⟩,[]⟩))]⟩
def Xj:co:=cn yC CE
def V3 (n:Nat):co:=cn yC (nZ n)
def yB:FT:=⟨⟨[.d O0,.d aL,.d .ex],[]⟩,⟨[.d aL],[]⟩,dL [(7,(.j ⟨[1],[3,5,7],⟨yL,aju⟩,[]⟩)),(21,(.j ⟨[1],[3,5,7,8],⟨[.ptr 0 0,.ptr 1 0,.d aL,.d aL],aju⟩,[]⟩)),(23,(.j ⟨[1,7,8],[3,5,33],⟨qF,aju⟩,[]⟩))]⟩
def Xh:co:=cn yB CD
def V2 (n:Nat):co:=cn yB (nY n)
def OF:FT:=⟨⟨[.d O0,.d aL,.d .ex],[]⟩,⟨[.d aL],[]⟩,dL [(13,(.j ⟨[1],[3,5,22],⟨qF,aju⟩,[]⟩))]⟩
def aan:co:=cn OF mN
def Ep:FT:=⟨⟨[.d .bool],[]⟩,⟨[.d aL],[]⟩,.leaf⟩
def QH:co:=cn Ep dj
def Y3:FT:=⟨⟨vI,[]⟩,⟨[.d aL],[]⟩,.leaf⟩
def aiu:co:=cn Y3 jp
def xA:FT:=⟨⟨[.ptr 0 0,.d aL,.d aL,.d .str],abq⟩,⟨[.d .bool],abq⟩,dL [(6,(.j ⟨[1,2,3],[0,9],⟨xK,abq⟩,[]⟩)),(17,(.j ⟨[1,2,3,9],[0,46],⟨ic,abq⟩,[]⟩))]⟩
def F7:co:=cn xA ef
def BW:FT:=⟨⟨[.ptr 0 0,.d .sm],abq⟩,⟨[.d aL],abr⟩,dL [(1,(.a [.ren 0 4,.ren 0 5])),(28,(.j ⟨[6,7,8,9,30],[0,3,5,67],⟨ajs,La8⟩,[]⟩)),(41,(.j ⟨[],[4],⟨[.d aL],abr⟩,[]⟩)),(44,(.j ⟨[6,7,8,9,30],[0,3,5,91],⟨ajs,La8⟩,[]⟩)),(51,(.j ⟨[],[4],⟨[.d aL],abr⟩,[]⟩)),(63,(.j ⟨[],[4],⟨[.d aL],abr⟩,[]⟩)),(66,(.j ⟨[6,7,8,9,30],[0,3,5,119],⟨ajs,La8⟩,[]⟩)),(89,(.j ⟨[],[4],⟨[.d aL],abr⟩,[]⟩)),(108,(.j ⟨[],[0,3,187],⟨[.ptr 0 0,.ptr 4 0,.d .bool],[.cells 245 [.d (.sl HW),.d (.sl tS),.d aL,.row 1,.row 5,.row 6],.rowsP 220 .sm,.gone,.gone,.cells 220 [.d .sm],zZ5,zZ5]⟩,[]⟩)),(131,(.j ⟨[],[4],⟨[.d aL],abr⟩,[]⟩)),(137,(.j ⟨[6],[0,3,5,14],⟨[.ptr 0 0,.ptr 4 0,.ptr 5 0,.d aL],La8⟩,[]⟩)),(139,(.j ⟨[6],[0,3,5,14],⟨[.ptr 0 0,.ptr 4 0,.ptr 5 0,.d aL],La8⟩,[]⟩)),(140,(.j ⟨[6,14],[0,3,5,253],⟨ajs,La8⟩,[]⟩))]⟩
def Na:co:=cn BW mM
def sR:FT:=⟨⟨[.ptr 0 0,.d (.sl .sm)],abq⟩,⟨vI,ao3⟩,dL [(1,(.a [.ren 0 3,.ren 0 4,.ren 0 5])),(6,(.j ⟨[1],[0,6],⟨xK,ao3⟩,[]⟩)),(19,(.j ⟨[1,6],[0,7,8],⟨[.ptr 0 0,.ptr 4 0,.d aL],[.cells 245 [.d (.sl HW),.d (.sl tS),.d aL,.row 5,.row 6,.row 7],.gone,.gone,.gone,.cells 220 [.d .sm],.rowsP 220 .sm,zZ5,zZ5]⟩,[]⟩)),(37,(.j ⟨[1,6],[0,8,9],⟨US,ao3⟩,[]⟩))]⟩
def Nb:co:=cn sR wA
def MC (n:Nat):co:=cn sR (iQ n)
def yD:FT:=⟨⟨[.d (.sl .sm)],[]⟩,⟨[.d aL],[]⟩,dL [(8,(.j ⟨[0],[3,4],⟨vI,[]⟩,[]⟩))]⟩
def Xk:co:=cn yD CF
def V4 (n:Nat):co:=cn yD (n_ n)
def Lb:FT:=⟨⟨[.d (.sl HW)],[]⟩,⟨vI,[]⟩,dL [(8,(.j ⟨[0],[4,5,6,7,8],⟨[.d aL,.d aL,.d aL,.d aL,.d aL],[]⟩,[]⟩)),(16,(.j ⟨[0,8],[4,5,6,7],⟨[.d aL,.d aL,.d aL,.d aL],[]⟩,[]⟩)),(38,(.j ⟨[0,8],[4,5,6,7,9],⟨[.d aL,.d aL,.d aL,.d aL,.ptr 0 0],abn⟩,[]⟩)),(39,(.j ⟨[0,4,5,6,7,8,36],[9,39],⟨ic,abn⟩,[]⟩)),(47,(.j ⟨[0,4,5,6,7,8,36],[9,47],⟨ic,abn⟩,[]⟩)),(61,(.j ⟨[0,4,5,6,7,8],[9,69],⟨ic,abn⟩,[]⟩))]⟩
def Xi:co:=cn Lb r7
def Eo:FT:=⟨⟨[.d O0],[]⟩,⟨vI,[]⟩,dL [(6,(.j ⟨[],[1,4],⟨xK,UQ⟩,[]⟩)),(17,(.j ⟨[4],[1,5,37],⟨qF,ajv⟩,[]⟩)),(29,(.j ⟨[],[1,6],⟨xK,UQ⟩,[]⟩)),(51,(.j ⟨[6],[1,7,8],⟨yL,ajv⟩,[]⟩)),(62,(.j ⟨[6,8],[1,7,90],⟨qF,ajv⟩,[]⟩))]⟩
def QF:co:=cn Eo ov
def Es:FT:=⟨⟨[.d O0],[]⟩,⟨vI,[]⟩,dL [(44,(.j ⟨[],[1,8,9],⟨US,UQ⟩,[]⟩)),(67,(.a [.cel 10 3 220 .sm,.cel 10 4 9 .str,.cel 10 5 9 .str])),(69,(.j ⟨[],[1,10,11],⟨yL,[.cells 159 [.d O0],.cells 245 [.d (.sl HW),.d (.sl tS),.d aL,.row 2,.row 3,.row 4],.rowsP 220 .sm,zZ5,zZ5]⟩,[]⟩))]⟩
def QI:co:=cn Es fH
def yA:FT:=⟨⟨[.row 0,.d aL,.d aL,.d (.sl .sm)],[.rows 139 J qe]⟩,⟨[.row 1,.d aL],[.gone,.rows 139 J qe]⟩,dL [(1,(.a [.ren 0 0])),(6,(.j ⟨[1,3],[0,2,10],⟨[.row 1,.d aL,.d aL],[.gone,.rows 139 J qe]⟩,[]⟩)),(25,(.a [.nil 8 139 qe]))]⟩
def W9:co:=cn yA JI
def V0 (n:Nat):co:=cn yA (qc n)
def Hx:FT:=⟨⟨[.d (.sl sC),.d .str],[]⟩,⟨[.d aL],[]⟩,dL [(6,(.j ⟨[0,1],[5],⟨[.d aL],[]⟩,[]⟩))]⟩
def Uf:co:=cn Hx kE
def Hz:FT:=⟨⟨[.d mS,.d .str],[]⟩,⟨[.d aL],[]⟩,dL [(6,(.j ⟨[1],[2,5],⟨xK,qE⟩,[]⟩))]⟩
def Uh:co:=cn Hz l8
def K6:FT:=⟨⟨[.d O0],[]⟩,⟨[.d mS],[]⟩,dL [(18,(.j ⟨[],[1,2,3,6],⟨Gr,arl⟩,[.cel 3 0 60 k_,.cel 3 1 137 sC,.cel 3 2 130 mw,.cel 3 3 9 .str]⟩)),(31,(.j ⟨[6],[1,2,3],⟨[.ptr 0 0,.ptr 1 0,.ptr 2 0],arl⟩,[]⟩)),(32,(.j ⟨[6,31],[1,2,3,7,39],⟨AH,ao7⟩,[]⟩)),(42,(.j ⟨[6],[1,2,3,7,8],⟨[.ptr 0 0,.ptr 1 0,.ptr 2 0,.ptr 3 0,.d aL],ao7⟩,[]⟩)),(53,(.j ⟨[6,31],[1,2,3,7,65],⟨AH,ao7⟩,[]⟩)),(69,(.a [.cel 3 5 139 qe])),(71,(.j ⟨[],[1,2,3,9],⟨Gr,[.cells 159 [.d O0],.cells 31 ajr,.cells 31 [.row 3,.row 4,.row 5,.row 6,.row 7,.row 8],.rows 60 J k_,.rows 137 J sC,.rows 130 J mw,zZ5,zZ5,.rows 139 J qe]⟩,[.cel 3 4 9 .str]⟩))]⟩
def Xc:co:=cn K6 uT
def K3:FT:=⟨⟨[.d mS],[]⟩,⟨[.d (.sl .str),.d .bool],[]⟩,dL [(8,(.j ⟨[],[1,4,5],⟨Gp,abo⟩,[.nil 4 9 .str]⟩)),(15,(.j ⟨[],[1,4,5],⟨Gp,abo⟩,[]⟩)),(37,(.j ⟨[5],[1,4,6,51],⟨[.ptr 0 0,.row 1,.ptr 2 0,.d .bool],ant⟩,[]⟩)),(48,(.j ⟨[5],[1,4,6,7],⟨[.ptr 0 0,.row 1,.ptr 2 0,.d aL],ant⟩,[]⟩)),(59,(.j ⟨[5,7],[1,4,6,93],⟨[.ptr 0 0,.row 1,.ptr 2 0,.d .bool],ant⟩,[]⟩)),(72,(.j ⟨[],[1,4,9],⟨Gp,abo⟩,[]⟩)),(87,(.j ⟨[],[1,4,10],⟨Gp,abo⟩,[]⟩))]⟩
def W_:co:=cn K3 pR
def zd:FT:=⟨⟨[.d mS],[]⟩,⟨[.d .bool],[]⟩,dL [(3,(.j ⟨[],[1,49],⟨ic,qE⟩,[]⟩)),(24,(.j ⟨[3],[1,5],⟨xK,qE⟩,[]⟩)),(33,(.j ⟨[3,5],[1,79],⟨ic,qE⟩,[]⟩)),(45,(.j ⟨[],[1,6],⟨xK,qE⟩,[]⟩)),(56,(.j ⟨[6],[1,109],⟨ic,qE⟩,[]⟩)),(68,(.j ⟨[],[1,8],⟨xK,qE⟩,[]⟩)),(76,(.j ⟨[8],[1],⟨[.ptr 0 0],qE⟩,[]⟩)),(80,(.j ⟨[8],[1,9,132],⟨qF,[.cells 31 [.d mS],.cells 139 [.d qe]]⟩,[]⟩)),(87,(.j ⟨[8],[1,9,146],⟨qF,[.cells 31 [.d mS],.cells 139 [.d qe]]⟩,[]⟩)),(90,(.j ⟨[8],[1,165],⟨ic,qE⟩,[]⟩))]⟩
def Ii:co:=cn zd io
def Aq:FT:=⟨⟨[.d rF],[]⟩,⟨ne,[]⟩,dL [(6,(.j ⟨[4],[1,5],⟨ic,[.cells 210 [.d rF]]⟩,[]⟩)),(24,(.j ⟨[4],[1,13],⟨ic,[.cells 210 [.d rF]]⟩,[]⟩)),(46,(.j ⟨[4],[1,37],⟨ic,[.cells 210 [.d rF]]⟩,[]⟩))]⟩
def Ly:co:=cn Aq jT
def Hy:FT:=⟨⟨[.d aL],[]⟩,⟨[.d .bool],[]⟩,dL [(2,(.j ⟨[],[2],⟨[.d .bool],[]⟩,[]⟩))]⟩
def Ug:co:=cn Hy qn
def K4:FT:=⟨⟨[.d (.sl rF),.d aL],[]⟩,⟨[.d .bool],[]⟩,dL [(6,(.j ⟨[0],[1,5],⟨vI,[]⟩,[]⟩)),(14,(.j ⟨[0,5],[1],⟨[.d aL],[]⟩,[]⟩)),(16,(.j ⟨[0,1,5],[19],⟨[.d .bool],[]⟩,[]⟩))]⟩
def Xa:co:=cn K4 pU
def Y2:FT:=⟨⟨vI,[]⟩,⟨[.d .bool],[]⟩,dL [(2,(.j ⟨[],[4],⟨[.d .bool],[]⟩,[]⟩))]⟩
def ait:co:=cn Y2 jF
def K5:FT:=⟨⟨[.d mS,.d aL,.d aL],[]⟩,⟨[.d .bool],[]⟩,dL [(2,(.j ⟨[],[6],⟨[.d .bool],[]⟩,[]⟩))]⟩
def Xb:co:=cn K5 nV
def Ek:FT:=⟨⟨[.d mS,.d rF],[]⟩,⟨[.d .bool],[]⟩,dL [(9,(.j ⟨[],[4],⟨[.d .bool],[]⟩,[]⟩)),(15,(.j ⟨[],[4],⟨[.d .bool],[]⟩,[]⟩)),(30,(.j ⟨[6],[2,3,59],⟨qF,ajt⟩,[]⟩)),(37,(.j ⟨[],[4],⟨[.d .bool],[]⟩,[]⟩)),(40,(.j ⟨[6],[2,3,78],⟨qF,ajt⟩,[]⟩)),(55,(.j ⟨[],[4],⟨[.d .bool],[]⟩,[]⟩)),(58,(.j ⟨[6],[2,3,98],⟨qF,ajt⟩,[]⟩)),(72,(.j ⟨[6],[2,3,108],⟨qF,ajt⟩,[]⟩)),(97,(.j ⟨[],[4],⟨[.d .bool],[]⟩,[]⟩)),(103,(.j ⟨[],[4],⟨[.d .bool],[]⟩,[]⟩))]⟩
def Qz:co:=cn Ek mj
def xz:FT:=⟨⟨[.d mS,.d aL,.d xL],[]⟩,⟨[.d .bool],[]⟩,dL [(5,(.j ⟨[1,7],[3,5,26],⟨qF,agd⟩,[]⟩)),(16,(.j ⟨[1,7],[3,5,8],⟨yL,agd⟩,[]⟩)),(28,(.j ⟨[1,7,8],[3,5,9,67],⟨EZ,anv⟩,[]⟩)),(36,(.j ⟨[1,7,8],[3,5,9,100],⟨EZ,anv⟩,[]⟩)),(44,(.j ⟨[1,7,8],[3,5,9,122],⟨EZ,anv⟩,[]⟩)),(56,(.j ⟨[1,7,8,10],[3,5,11],⟨yL,agd⟩,[]⟩))]⟩
def F6:co:=cn xz iF
def K7:FT:=⟨⟨[.d vw],[]⟩,⟨[.d .bool],[]⟩,dL [(3,(.j ⟨[],[1,17],⟨ic,[.cells 112 [.d vw]]⟩,[]⟩)),(14,(.j ⟨[],[1,3],⟨xK,[.cells 112 [.d vw]]⟩,[]⟩))]⟩
def Xd:co:=cn K7 jS
def El:FT:=⟨⟨[.ptr 0 0,.d rF],La5⟩,⟨[],La4⟩,.leaf⟩
def QD:co:=cn El cN
def ru:FT:=⟨⟨[.ptr 0 0,.d .ex,.d aL],La5⟩,⟨[],La4⟩,dL [(2,(.j ⟨[],[],⟨[],La4⟩,[]⟩))]⟩
def Lw:co:=cn ru iU
def JR (n:Nat):co:=cn ru (iV n)
def za:FT:=⟨⟨[.ptr 0 0,.d .sm],La5⟩,⟨[],La4⟩,.leaf⟩
def Ih:co:=cn za mB
def BV:FT:=⟨⟨[.ptr 0 0,.d .str],La5⟩,⟨[.d aL],La5⟩,dL [(6,(.j ⟨[1],[0,5],⟨xK,La5⟩,[]⟩))]⟩
def M':co:=cn BV jJ
def rx:FT:=⟨⟨[.ptr 0 0,.d (.sl .sm)],La5⟩,⟨[],La4⟩,dL [(1,(.a [.ren 0 7])),(3,(.j ⟨[1],[0,4],⟨xK,La4⟩,[]⟩))]⟩
def Lx:co:=cn rx uS
def JS (n:Nat):co:=cn rx (dU n)
def wG:FT:=⟨⟨[.ptr 0 0,.d .sm],La5⟩,⟨[],La4⟩,dL [(1,(.a [.ren 0 7])),(10,(.j ⟨[],[],⟨[],La4⟩,[]⟩)),(15,(.j ⟨[4,25],[0,3,31],⟨[.ptr 0 0,.ptr 2 0,.d .bool],[.cells 206 [.d (.sl k_),.d (.sl sC),.d (.sl mw),.d (.sl .str),.d (.sl .str),.d (.sl qe),.d (.sl .str),.row 3,.d aL,.d aL],.gone,.cells 220 [.d .sm],.rows 210 J rF]⟩,[]⟩))]⟩
def MB (n:Nat):co:=cn wG (eU n)
def ry:FT:=⟨⟨[.ptr 0 0,.d .sm],La5⟩,⟨[],La4⟩,.leaf⟩
def DF (n:Nat):co:=cn ry (dv n)
def tQ:FT:=⟨⟨[.ptr 0 0,.d .sm,.d aL,.d aL,.d aL],La5⟩,⟨[],La4⟩,.leaf⟩
def H4 (n:Nat):co:=cn tQ (dO n)
def Em:FT:=⟨⟨[.d O0],[]⟩,⟨[.d vw,.d aL,.d aL],[]⟩,dL [(20,(.j ⟨[],[1,2,7,8,9],⟨[.ptr 0 0,.ptr 1 0,.ptr 2 0,.d aL,.d aL],[.cells 159 [.d O0],.cells 112 ag7,.cells 112 [.d (.sl k_),.d (.sl sC),.d (.sl mw),.d (.sl .str),.d (.sl .str),.d (.sl qe),.row 3],.rows 193 J xL]⟩,[.cel 7 6 193 xL]⟩)),(32,(.a [.cel 10 7 210 rF])),(45,(.j ⟨[8,9],[1,2,7,10,11,12],⟨ans,art⟩,[]⟩)),(59,(.j ⟨[8,9,12,13],[1,2,7,10,11,14],⟨ans,art⟩,[]⟩))]⟩
def QE:co:=cn Em qV
def Tq:FT:=⟨⟨Gq,[]⟩,⟨[.d .bool],[]⟩,dL [(6,(.j ⟨[0,1],[5],⟨[.d aL],[]⟩,[]⟩))]⟩
def af2:co:=cn Tq qU
def Tp:FT:=⟨⟨Gq,[]⟩,⟨ne,[]⟩,dL [(6,(.j ⟨[0,1],[5],⟨[.d aL],[]⟩,[]⟩)),(8,(.j ⟨[0,1,5],[18],⟨[.d .bool],[]⟩,[]⟩)),(16,(.j ⟨[0,1,5],[32],⟨[.d .bool],[]⟩,[]⟩))]⟩
def af1:co:=cn Tp xd
def K2:FT:=⟨⟨[.d (.sl aL),.d (.sl aL)],[]⟩,⟨ne,[]⟩,dL [(8,(.j ⟨[0,1],[5,6],⟨Gq,[]⟩,[]⟩)),(23,(.j ⟨[1],[5,7],⟨Gq,[]⟩,[]⟩))]⟩
def W7:co:=cn K2 rY
def BU:FT:=⟨⟨[.d aL],[]⟩,⟨[.d aL],[]⟩,dL [(3,(.j ⟨[0],[8],⟨[.d .bool],[]⟩,[]⟩))]⟩
def M_:co:=cn BU mL
def OD:FT:=⟨⟨[.d e_],[]⟩,⟨[.agg ajq],agf⟩,dL [(8,(.j ⟨[],[1,2,3,4],⟨Gr,[.cells 197 [.d e_],.cells 197 Zp,.cells 197 [.d aL,.row 3,.row 4,.d aL],zZ0,zZ4]⟩,[.cel 3 2 36 (.sl aL)]⟩))]⟩
def aal:co:=cn OD cz
def OC:FT:=⟨⟨[.d rF,.agg ajq],agf⟩,⟨[.agg ajq,.d .bool],agf⟩,dL [(8,(.j ⟨[6],[2,3,4,7],⟨[.ptr 2 0,.ptr 3 0,.ptr 4 0,.d aL],ao4⟩,[]⟩)),(17,(.j ⟨[6,7],[2,3,4,33],⟨[.ptr 2 0,.ptr 3 0,.ptr 4 0,.d .bool],ao4⟩,[]⟩)),(32,(.j ⟨[],[2,3,4,8,9,10],⟨[.ptr 2 0,.ptr 3 0,.ptr 4 0,.d aL,.d .bool,.d (.sl aL)],ao4⟩,[]⟩))]⟩
def aak:co:=cn OC xc
def Hw:FT:=⟨⟨[.d xL,.d e_],[]⟩,⟨[.d e_,.d .bool],[]⟩,dL [(3,(.j ⟨[],[2,3,4,23],⟨EZ,[.cells 193 [.d xL],.cells 197 [.d e_],.cells 197 Zp]⟩,[]⟩)),(16,(.j ⟨[],[2,3,4,6],⟨Gr,arj⟩,[]⟩)),(26,(.j ⟨[6],[2,3,4,44],⟨EZ,arj⟩,[]⟩))]⟩
def Ue:co:=cn Hw nU
def KZ:FT:=⟨⟨[.d mS],[]⟩,⟨[.d Iv],[]⟩,dL [(8,(.j ⟨[],[1,2,3,4],⟨Gr,[.cells 31 [.d mS],.cells 96 C6,.cells 96 [.row 3,.d aL,.nil,.nil],zZ7]⟩,[.cel 3 0 176 eB]⟩)),(23,(.j ⟨[],[1,2,3,5],⟨Gr,[.cells 31 [.d mS],.cells 96 C6,.cells 96 [.row 3,.d aL,.row 4,.nil],zZ7,zZ2]⟩,[.cel 3 2 4 .bool]⟩)),(38,(.j ⟨[],[1,2,3,6],⟨Gr,[.cells 31 [.d mS],.cells 96 C6,.cells 96 aga,zZ7,zZ2,zZ6]⟩,[.cel 3 3 178 iu]⟩)),(49,(.j ⟨[6],[1,2,3,7],⟨agc,[.cells 31 [.d mS],.cells 96 C6,.cells 96 [.row 4,.d aL,.row 5,.row 6],.cells 178 [.d iu],zZ7,zZ2,zZ6]⟩,[]⟩))]⟩
def W5:co:=cn KZ rW
def Oz:FT:=⟨⟨[.d mS,.d Iv],[]⟩,⟨[.d .bool],[]⟩,dL [(6,(.j ⟨[],[2,3,5],⟨yL,XZ⟩,[]⟩)),(15,(.j ⟨[5],[2,3,31],⟨qF,XZ⟩,[]⟩)),(23,(.j ⟨[],[4],⟨[.d .bool],[]⟩,[]⟩))]⟩
def aai:co:=cn Oz rX
def Y1:FT:=⟨⟨vI,[]⟩,⟨[.d .bool],[]⟩,dL [(2,(.j ⟨[],[4],⟨[.d .bool],[]⟩,[]⟩))]⟩
def ais:co:=cn Y1 qT
def KY:FT:=⟨⟨[.d mS,.d aL,.d aL],[]⟩,⟨[.d .bool],[]⟩,dL [(6,(.j ⟨[2,7],[3,8],⟨ic,qE⟩,[]⟩)),(36,(.j ⟨[2,7],[3,18],⟨ic,qE⟩,[]⟩)),(46,(.j ⟨[2,7],[3,26],⟨ic,qE⟩,[]⟩)),(53,(.j ⟨[],[6],⟨[.d .bool],[]⟩,[]⟩)),(56,(.j ⟨[2,7],[3,43],⟨ic,qE⟩,[]⟩)),(71,(.j ⟨[],[6],⟨[.d .bool],[]⟩,[]⟩)),(74,(.j ⟨[2,7],[3,61],⟨ic,qE⟩,[]⟩)),(92,(.j ⟨[2,7],[3,71],⟨ic,qE⟩,[]⟩)),(102,(.j ⟨[2],[3,79],⟨ic,qE⟩,[]⟩))]⟩
def W3:co:=cn KY uR
def Ej:FT:=⟨⟨[.d mS,.d Iv,.d aL,.d aL,.d aL],[]⟩,⟨[.d .bool],[]⟩,dL [(3,(.j ⟨[2,3,4],[5,6,30],⟨qF,XZ⟩,[]⟩)),(25,(.j ⟨[],[10],⟨[.d .bool],[]⟩,[]⟩)),(50,(.j ⟨[],[10],⟨[.d .bool],[]⟩,[]⟩)),(56,(.j ⟨[],[10],⟨[.d .bool],[]⟩,[]⟩)),(59,(.j ⟨[2,4,70],[5,6,11,119],⟨EZ,[.cells 31 [.d mS],.cells 96 [.d Iv],.cells 178 [.d iu]]⟩,[]⟩)),(99,(.j ⟨[2,4,70],[5,6,160],⟨qF,XZ⟩,[]⟩)),(116,(.j ⟨[],[10],⟨[.d .bool],[]⟩,[]⟩)),(122,(.j ⟨[],[10],⟨[.d .bool],[]⟩,[]⟩))]⟩
def Qy:co:=cn Ej kD
def Ei:FT:=⟨⟨[.d Iv,.d aL],[]⟩,⟨ne,[]⟩,dL [(8,(.j ⟨[1],[2,5,6],⟨Gp,agb⟩,[.nil 5 3 aL]⟩)),(16,(.j ⟨[1,6],[2,5],⟨[.ptr 0 0,.row 1],agb⟩,[]⟩)),(17,(.j ⟨[1,6],[2,5,30],⟨[.ptr 0 0,.row 1,.d .bool],agb⟩,[]⟩))]⟩
def Qx:co:=cn Ei ou
def Eh:FT:=⟨⟨Gq,[]⟩,⟨ne,[]⟩,dL [(8,(.j ⟨[0,1],[5,6],⟨[.row 0,.d aL],[zZ1]⟩,[.nil 5 3 aL]⟩)),(16,(.j ⟨[0,1,6],[5],⟨[.row 0],[zZ1]⟩,[]⟩))]⟩
def Qw:co:=cn Eh qS
def OA:FT:=⟨⟨[.d Iv],[]⟩,⟨[.agg Iu],anu⟩,dL [(8,(.j ⟨[],[1,2,3,4],⟨Gr,[.cells 96 [.d Iv],.cells 96 C6,.cells 96 aga,zZ7,zZ2,zZ6]⟩,[.cel 3 0 176 eB]⟩))]⟩
def aaj:co:=cn OA iE
def mR:FT:=⟨⟨[.agg Iu,.d aL],anu⟩,⟨ne,anu⟩,dL [(8,(.j ⟨[1],[2,5,6],⟨[.ptr 3 0,.row 4,.d aL],ao0⟩,[.nil 5 3 aL]⟩)),(16,(.j ⟨[1,6],[2,5],⟨[.ptr 3 0,.row 4],ao0⟩,[]⟩)),(17,(.j ⟨[1,6],[2,5,30],⟨[.ptr 3 0,.row 4,.d .bool],ao0⟩,[]⟩))]⟩
def M9:co:=cn mR mK
def Lv:co:=⟨mR.pre,⟨mR.post.vs,[]⟩,jR⟩
def K0:FT:=⟨⟨[.d mS,.d Iv,.d aL,.d aL,.d aL,.d aL],[]⟩,⟨[.d Iv,.d aL,.d .bool],[]⟩,dL [(17,(.j ⟨[],[7,12,15],⟨yL,ao2⟩,[]⟩)),(26,(.j ⟨[2,4,5,15,30],[6,7,12,45],⟨EZ,ark⟩,[]⟩)),(34,(.j ⟨[2,4,5,15,30],[6,7,12,54],⟨EZ,ark⟩,[]⟩)),(90,(.j ⟨[],[7,12,17],⟨yL,ao2⟩,[]⟩)),(109,(.j ⟨[18],[7,12,19],⟨yL,ao2⟩,[]⟩))]⟩
def W6:co:=cn K0 pQ
def KX:FT:=⟨⟨[.d vw],[]⟩,⟨[.d wJ],[]⟩,dL [(16,(.j ⟨[],[1,2,3,4],⟨Gr,[.cells 112 [.d vw],.cells 107 wI,.cells 107 [.d (.sl eB),.d aL,.d qG,.d (.sl iu),.row 3,.nil,.nil],zZ0]⟩,[.cel 3 4 2 aL]⟩)),(31,(.j ⟨[],[1,2,3,5],⟨Gr,[.cells 112 [.d vw],.cells 107 wI,.cells 107 [.d (.sl eB),.d aL,.d qG,.d (.sl iu),.row 3,.row 4,.nil],zZ0,zZ0]⟩,[.cel 3 5 2 aL]⟩)),(46,(.j ⟨[],[1,2,3,6],⟨Gr,[.cells 112 [.d vw],.cells 107 wI,.cells 107 ao1,zZ0,zZ0,.rows 197 J e_]⟩,[.cel 3 6 197 e_]⟩))]⟩
def W2:co:=cn KX uQ
def Oy:FT:=⟨⟨[.d vw,.d wJ],[]⟩,⟨[.d .bool],[]⟩,dL [(3,(.j ⟨[],[2,3,46],⟨qF,age⟩,[]⟩)),(14,(.j ⟨[],[2,3,5],⟨yL,age⟩,[]⟩)),(25,(.j ⟨[5],[2,3,97],⟨qF,age⟩,[]⟩))]⟩
def aag:co:=cn Oy xa
abbrev zZ8:PB:=.rows 3 af aL
def Ow:FT:=⟨⟨[.d aL],[]⟩,⟨[.d aL],[]⟩,dL [(5,(.j ⟨[0],[3,10],⟨[.row 0,.d .bool],[zZ8]⟩,[]⟩))]⟩
def aae:co:=cn Ow w9
def Hb:FT:=⟨⟨[.d rF,.d e_],[]⟩,⟨[.d aL],[]⟩,dL [(6,(.j ⟨[6],[2,3,7],⟨qF,[.cells 210 [.d rF],.cells 197 [.d e_]]⟩,[]⟩)),(28,(.j ⟨[],[2,40],⟨ic,[.cells 210 [.d rF]]⟩,[]⟩))]⟩
def TN:co:=cn Hb s5
def Eg:FT:=⟨⟨[.d vw,.d wJ,.d aL],[]⟩,⟨[.d gH,.d .bool],[]⟩,dL [(3,(.j ⟨[2],[3,4,6,25],⟨EZ,[.cells 112 [.d vw],.cells 107 [.d wJ],.cells 57 vJ]⟩,[]⟩)),(54,(.j ⟨[],[6,8,9,10],⟨agc,arh⟩,[.cel 10 5 3 aL]⟩)),(59,(.j ⟨[],[6,8,9,10,98],⟨AH,[.cells 57 vJ,.cells 197 [.d e_],.cells 210 [.d rF],.cells 57 vJ]⟩,[]⟩)),(68,(.j ⟨[],[6,10],⟨[.ptr 0 0,.ptr 1 0],[.cells 57 vJ,.cells 57 [.d aL,.d aL,.d aL,.d aL,.d aL,.row 2,.row 3],zZ1,zZ1]⟩,[.cel 10 6 3 aL]⟩)),(69,(.j ⟨[],[6,8,9,10,123],⟨AH,arh⟩,[]⟩))]⟩
def Qv:co:=cn Eg oq
def KV:FT:=⟨⟨[.d mS],[]⟩,⟨[.d je],[]⟩,dL [(8,(.j ⟨[],[1,2,3,4],⟨Gr,[.cells 31 [.d mS],.cells 99 wI,.cells 99 ao1,zZ0,.rows 2 af aL,zZ8]⟩,[.cel 3 4 2 aL]⟩))]⟩
def WZ:co:=cn KV nF
def Ov:FT:=⟨⟨[.d mS,.d je],[]⟩,⟨[.d .bool],[]⟩,dL [(2,(.j ⟨[],[4],⟨[.d .bool],[]⟩,[]⟩))]⟩
def aad:co:=cn Ov w7
def Y0:FT:=⟨⟨vI,[]⟩,⟨[.d .bool],[]⟩,dL [(2,(.j ⟨[],[4],⟨[.d .bool],[]⟩,[]⟩))]⟩
def air:co:=cn Y0 DA
def Ef:FT:=⟨⟨Gq,[]⟩,⟨[.d .bool],[]⟩,dL [(6,(.j ⟨[0,1],[5],⟨[.d aL],[]⟩,[]⟩)),(15,(.j ⟨[0,1,5],[40],⟨[.d .bool],[]⟩,[]⟩))]⟩
def Qu:co:=cn Ef oo
def KQ:FT:=⟨⟨[.d je,.d gH],[]⟩,⟨[.d .bool],[]⟩,dL [(21,(.j ⟨[],[4],⟨[.d .bool],[]⟩,[]⟩)),(24,(.j ⟨[7],[2,3,40],⟨qF,[.cells 99 [.d je],.cells 57 [.d gH]]⟩,[]⟩)),(47,(.j ⟨[],[4],⟨[.d .bool],[]⟩,[]⟩))]⟩
def WV:co:=cn KQ uO
def Ou:FT:=⟨⟨[.d mS,.d je,.d gH],[]⟩,⟨[.d je,.d .bool],[]⟩,dL [(3,(.j ⟨[],[3,4,5,6,46],⟨AH,L8⟩,[]⟩)),(10,(.j ⟨[],[3,4,5,6],⟨agc,L8⟩,[]⟩)),(11,(.j ⟨[],[3,4,5,6,55],⟨AH,L8⟩,[]⟩)),(21,(.j ⟨[],[3,4,5,6,78],⟨AH,L8⟩,[]⟩)),(28,(.j ⟨[],[3,4,5,6,8],⟨AH,L8⟩,[]⟩)),(31,(.j ⟨[],[3,4,5,6,110],⟨AH,L8⟩,[]⟩)),(39,(.j ⟨[],[3,4,5,6,125],⟨AH,L8⟩,[]⟩)),(47,(.j ⟨[],[3,4,5,6,154],⟨AH,L8⟩,[]⟩)),(58,(.j ⟨[],[3,4,5,6,9,10],⟨ans,[.cells 31 [.d mS],.cells 99 [.d je],.cells 57 [.d gH],.cells 99 wI,.cells 99 [.nil,.d aL,.nil,.nil,.row 5,.row 6,.row 7],zZ0,zZ0,zZ1]⟩,[]⟩)),(66,(.j ⟨[],[5,6,9],⟨[.ptr 0 0,.ptr 1 0,.ptr 2 0],anq⟩,[]⟩)),(72,(.j ⟨[],[5,6,9],⟨[.ptr 0 0,.ptr 1 0,.ptr 2 0],anq⟩,[]⟩))]⟩
def aac:co:=cn Ou rV
def KU:FT:=⟨⟨[.d (.sl gH),.d aL,.d aL,.d (.sl aL)],[]⟩,⟨[.d .bool],[]⟩,dL [(6,(.j ⟨[0,1,2,3],[9],⟨[.d aL],[]⟩,[]⟩)),(23,(.j ⟨[0,1,2,3,9],[10,11,12],⟨[.d aL,.d .bool,.d aL],[]⟩,[]⟩)),(31,(.j ⟨[0,1,2,3,9,12],[10,11],⟨[.d aL,.d .bool],[]⟩,[]⟩)),(38,(.j ⟨[0,1,2,3,9,10,12],[11],⟨[.d .bool],[]⟩,[]⟩))]⟩
def WY:co:=cn KU rU
def KW:FT:=⟨⟨[.d mV],[]⟩,⟨vI,[]⟩,dL [(24,(.j ⟨[],[1,4,5],⟨yL,[.cells 34 [.d mV],.cells 99 [.d je]]⟩,[]⟩)),(38,(.j ⟨[5],[1,4,7,63],⟨EZ,[.cells 34 [.d mV],.cells 99 [.d je],.cells 99 [.d je]]⟩,[]⟩))]⟩
def W1:co:=cn KW uP
def Hu:FT:=⟨⟨[.d wJ],[]⟩,⟨[.agg [.agg Iu,.row 3,.row 4,.csl 5 4 1]],[zZ7,zZ2,zZ6,zZ0,zZ0,.cells 197 [.d aL,.row 6,.row 7,.d aL],zZ0,zZ4]⟩,dL [(8,(.u 2))]⟩
def Ud:co:=cn Hu nS
def Hk:FT:=⟨⟨Nv,[]⟩,⟨Nw,[]⟩,dL [(27,(.s 5 0 0 1)),(37,(.j ⟨[],[3,4,5,6,7,9,14,15,16],⟨NA,aod⟩,[]⟩)),(38,(.j ⟨[16,77],[3,4,5,6,7,9,14,15,78],⟨OZ,aod⟩,[]⟩)),(83,(.j ⟨[16],[3,4,5,6,7,9,14],⟨Ny,[.cells 112 [.d vw],.cells 107 alk,.cells 162 [.d iJ],.cells 107 wI,.cells 57 vJ,.cells 57 [.d gH],.cells 197 L6,zZ0,zZ0,.cells 197 L6,zZ0,zZ4]⟩,[]⟩)),(84,(.j ⟨[16],[3,4,5,6,7,9,14,15,154],⟨OZ,aod⟩,[]⟩)),(95,(.j ⟨[],[4,5,6,7,9,14],⟨Nx,[.cells 107 [.d (.sl eB),.d aL,.d qG,.d (.sl iu),.row 6,.row 7,.csl 8 4 1],.cells 162 [.d iJ],.cells 107 wI,.cells 57 vJ,.cells 57 [.d gH],.cells 197 [.d e_],zZ0,zZ0,.cells 197 [.d e_]]⟩,[]⟩)),(96,(.j ⟨[],[3,4,5,6,7,9,14,183],⟨Nz,[.cells 112 [.d vw],.cells 107 alk,.cells 162 [.d iJ],.cells 107 wI,.cells 57 vJ,.cells 57 [.d gH],.cells 197 L7,zZ0,zZ0,.cells 197 L7]⟩,[]⟩)),(102,(.s 5 0 0 1)),(104,(.a [.pk 4 6 e_]))]⟩
def T4:co:=cn Hk gq
def Ht:FT:=⟨⟨[.d wJ],[]⟩,⟨[.agg [.agg Iu,.row 3,.row 4,.csl 5 4 2]],[zZ7,zZ2,zZ6,zZ0,zZ0,.cells 197 [.d aL,.row 6,.row 7,.d aL,.d e_],zZ0,zZ4]⟩,dL [(8,(.u 3))]⟩
def Uc:co:=cn Ht nR
def Hj:FT:=⟨⟨Nv,[]⟩,⟨Nw,[]⟩,dL [(27,(.s 5 0 0 1)),(37,(.j ⟨[],[3,4,5,6,7,9,14,15,16],⟨NA,aof⟩,[]⟩)),(38,(.j ⟨[16,77],[3,4,5,6,7,9,14,15,78],⟨OZ,aof⟩,[]⟩)),(83,(.j ⟨[16],[3,4,5,6,7,9,14],⟨Ny,[.cells 112 [.d vw],.cells 107 ajx,.cells 162 [.d iJ],.cells 107 wI,.cells 57 vJ,.cells 57 [.d gH],.cells 197 L6,zZ0,zZ0,.cells 197 [.d aL,.row 10,.row 11,.d aL,.d e_],zZ0,zZ4]⟩,[]⟩)),(84,(.j ⟨[16],[3,4,5,6,7,9,14,15,154],⟨OZ,aof⟩,[]⟩)),(95,(.j ⟨[],[4,5,6,7,9,14],⟨Nx,ars⟩,[]⟩)),(96,(.j ⟨[],[3,4,5,6,7,9,14,183],⟨Nz,[.cells 112 [.d vw],.cells 107 ajx,.cells 162 [.d iJ],.cells 107 wI,.cells 57 vJ,.cells 57 [.d gH],.cells 197 L7,zZ0,zZ0,.cells 197 [.d aL,.d (.sl aL),.d vx,.d aL,.d e_]]⟩,[]⟩)),(102,(.s 5 0 0 1)),(104,(.a [.pk 4 6 e_]))]⟩
def T3:co:=cn Hj gP
def Hs:FT:=⟨⟨[.d wJ],[]⟩,⟨[.agg [.agg Iu,.row 3,.row 4,.csl 5 4 2]],[zZ7,zZ2,zZ6,zZ0,zZ0,.cells 197 [.d e_,.d aL,.row 6,.row 7,.d aL],zZ0,zZ4]⟩,dL [(8,(.u 3))]⟩
def Ub:co:=cn Hs nQ
def Hi:FT:=⟨⟨Nv,[]⟩,⟨Nw,[]⟩,dL [(27,(.s 5 0 1 1)),(37,(.j ⟨[],[3,4,5,6,7,9,14,15,16],⟨NA,aoe⟩,[]⟩)),(38,(.j ⟨[16,77],[3,4,5,6,7,9,14,15,78],⟨OZ,aoe⟩,[]⟩)),(83,(.j ⟨[16],[3,4,5,6,7,9,14],⟨Ny,[.cells 112 [.d vw],.cells 107 ajx,.cells 162 [.d iJ],.cells 107 wI,.cells 57 vJ,.cells 57 [.d gH],.cells 197 L6,zZ0,zZ0,.cells 197 [.d e_,.d aL,.row 10,.row 11,.d aL],zZ0,zZ4]⟩,[]⟩)),(84,(.j ⟨[16],[3,4,5,6,7,9,14,15,154],⟨OZ,aoe⟩,[]⟩)),(95,(.j ⟨[],[4,5,6,7,9,14],⟨Nx,ars⟩,[]⟩)),(96,(.j ⟨[],[3,4,5,6,7,9,14,183],⟨Nz,[.cells 112 [.d vw],.cells 107 ajx,.cells 162 [.d iJ],.cells 107 wI,.cells 57 vJ,.cells 57 [.d gH],.cells 197 L7,zZ0,zZ0,.cells 197 [.d e_,.d aL,.d (.sl aL),.d vx,.d aL]]⟩,[]⟩)),(102,(.s 5 0 1 1)),(104,(.a [.pk 4 6 e_]))]⟩
def T2:co:=cn Hi gm
def Hr:FT:=⟨⟨[.d wJ],[]⟩,⟨anp,[zZ7,zZ2,zZ6,zZ0,zZ0,.cells 197 [.d aL,.row 6,.row 7,.d aL,.d e_,.d e_],zZ0,zZ4]⟩,dL [(8,(.u 4))]⟩
def Ua:co:=cn Hr nP
def Hh:FT:=⟨⟨Nv,[]⟩,⟨Nw,[]⟩,dL [(27,(.s 5 0 0 1)),(37,(.j ⟨[],[3,4,5,6,7,9,14,15,16],⟨NA,aoi⟩,[]⟩)),(38,(.j ⟨[16,77],[3,4,5,6,7,9,14,15,78],⟨OZ,aoi⟩,[]⟩)),(83,(.j ⟨[16],[3,4,5,6,7,9,14],⟨Ny,[.cells 112 [.d vw],.cells 107 abp,.cells 162 [.d iJ],.cells 107 wI,.cells 57 vJ,.cells 57 [.d gH],.cells 197 L6,zZ0,zZ0,.cells 197 [.d aL,.row 10,.row 11,.d aL,.d e_,.d e_],zZ0,zZ4]⟩,[]⟩)),(84,(.j ⟨[16],[3,4,5,6,7,9,14,15,154],⟨OZ,aoi⟩,[]⟩)),(95,(.j ⟨[],[4,5,6,7,9,14],⟨Nx,ao8⟩,[]⟩)),(96,(.j ⟨[],[3,4,5,6,7,9,14,183],⟨Nz,[.cells 112 [.d vw],.cells 107 abp,.cells 162 [.d iJ],.cells 107 wI,.cells 57 vJ,.cells 57 [.d gH],.cells 197 L7,zZ0,zZ0,.cells 197 [.d aL,.d (.sl aL),.d vx,.d aL,.d e_,.d e_]]⟩,[]⟩)),(102,(.s 5 0 0 1)),(104,(.a [.pk 4 6 e_]))]⟩
def TZ:co:=cn Hh jI
def Hq:FT:=⟨⟨[.d wJ],[]⟩,⟨anp,[zZ7,zZ2,zZ6,zZ0,zZ0,.cells 197 [.d e_,.d aL,.row 6,.row 7,.d aL,.d e_],zZ0,zZ4]⟩,dL [(8,(.u 4))]⟩
def T_:co:=cn Hq nO
def Hg:FT:=⟨⟨Nv,[]⟩,⟨Nw,[]⟩,dL [(27,(.s 5 0 1 1)),(37,(.j ⟨[],[3,4,5,6,7,9,14,15,16],⟨NA,aoh⟩,[]⟩)),(38,(.j ⟨[16,77],[3,4,5,6,7,9,14,15,78],⟨OZ,aoh⟩,[]⟩)),(83,(.j ⟨[16],[3,4,5,6,7,9,14],⟨Ny,[.cells 112 [.d vw],.cells 107 abp,.cells 162 [.d iJ],.cells 107 wI,.cells 57 vJ,.cells 57 [.d gH],.cells 197 L6,zZ0,zZ0,.cells 197 [.d e_,.d aL,.row 10,.row 11,.d aL,.d e_],zZ0,zZ4]⟩,[]⟩)),(84,(.j ⟨[16],[3,4,5,6,7,9,14,15,154],⟨OZ,aoh⟩,[]⟩)),(95,(.j ⟨[],[4,5,6,7,9,14],⟨Nx,ao8⟩,[]⟩)),(96,(.j ⟨[],[3,4,5,6,7,9,14,183],⟨Nz,[.cells 112 [.d vw],.cells 107 abp,.cells 162 [.d iJ],.cells 107 wI,.cells 57 vJ,.cells 57 [.d gH],.cells 197 L7,zZ0,zZ0,.cells 197 [.d e_,.d aL,.d (.sl aL),.d vx,.d aL,.d e_]]⟩,[]⟩)),(102,(.s 5 0 1 1)),(104,(.a [.pk 4 6 e_]))]⟩
def TY:co:=cn Hg iT
def Hp:FT:=⟨⟨[.d wJ],[]⟩,⟨anp,[zZ7,zZ2,zZ6,zZ0,zZ0,.cells 197 [.d e_,.d e_,.d aL,.row 6,.row 7,.d aL],zZ0,zZ4]⟩,dL [(8,(.u 4))]⟩
def T9:co:=cn Hp nN
def Hf:FT:=⟨⟨Nv,[]⟩,⟨Nw,[]⟩,dL [(27,(.s 5 0 2 1)),(37,(.j ⟨[],[3,4,5,6,7,9,14,15,16],⟨NA,aog⟩,[]⟩)),(38,(.j ⟨[16,77],[3,4,5,6,7,9,14,15,78],⟨OZ,aog⟩,[]⟩)),(83,(.j ⟨[16],[3,4,5,6,7,9,14],⟨Ny,[.cells 112 [.d vw],.cells 107 abp,.cells 162 [.d iJ],.cells 107 wI,.cells 57 vJ,.cells 57 [.d gH],.cells 197 L6,zZ0,zZ0,.cells 197 [.d e_,.d e_,.d aL,.row 10,.row 11,.d aL],zZ0,zZ4]⟩,[]⟩)),(84,(.j ⟨[16],[3,4,5,6,7,9,14,15,154],⟨OZ,aog⟩,[]⟩)),(95,(.j ⟨[],[4,5,6,7,9,14],⟨Nx,ao8⟩,[]⟩)),(96,(.j ⟨[],[3,4,5,6,7,9,14,183],⟨Nz,[.cells 112 [.d vw],.cells 107 abp,.cells 162 [.d iJ],.cells 107 wI,.cells 57 vJ,.cells 57 [.d gH],.cells 197 L7,zZ0,zZ0,.cells 197 [.d e_,.d e_,.d aL,.d (.sl aL),.d vx,.d aL]]⟩,[]⟩)),(102,(.s 5 0 2 1)),(104,(.a [.pk 4 6 e_]))]⟩
def TX:co:=cn Hf im
def Ho:FT:=⟨⟨[.d wJ],[]⟩,⟨ajw,[zZ7,zZ2,zZ6,zZ0,zZ0,.cells 197 [.d aL,.row 6,.row 7,.d aL,.d e_,.d e_,.d e_],zZ0,zZ4]⟩,dL [(8,(.u 5))]⟩
def T8:co:=cn Ho nM
def dM:FT:=⟨⟨Nv,[]⟩,⟨Nw,[]⟩,dL [(27,(.s 5 0 0 1)),(37,(.j ⟨[],[3,4,5,6,7,9,14,15,16],⟨NA,aoc⟩,[]⟩)),(38,(.j ⟨[16,77],[3,4,5,6,7,9,14,15,78],⟨OZ,aoc⟩,[]⟩)),(83,(.j ⟨[16],[3,4,5,6,7,9,14],⟨Ny,[.cells 112 [.d vw],.cells 107 UR,.cells 162 [.d iJ],.cells 107 wI,.cells 57 vJ,.cells 57 [.d gH],.cells 197 L6,zZ0,zZ0,.cells 197 [.d aL,.row 10,.row 11,.d aL,.d e_,.d e_,.d e_],zZ0,zZ4]⟩,[]⟩)),(84,(.j ⟨[16],[3,4,5,6,7,9,14,15,154],⟨OZ,aoc⟩,[]⟩)),(95,(.j ⟨[],[4,5,6,7,9,14],⟨Nx,ajy⟩,[]⟩)),(96,(.j ⟨[],[3,4,5,6,7,9,14,183],⟨Nz,[.cells 112 [.d vw],.cells 107 UR,.cells 162 [.d iJ],.cells 107 wI,.cells 57 vJ,.cells 57 [.d gH],.cells 197 L7,zZ0,zZ0,.cells 197 [.d aL,.d (.sl aL),.d vx,.d aL,.d e_,.d e_,.d e_]]⟩,[]⟩)),(102,(.s 5 0 0 1)),(104,(.a [.pk 4 6 e_]))]⟩
def TW:co:=cn dM nI
def Hn:FT:=⟨⟨[.d wJ],[]⟩,⟨ajw,[zZ7,zZ2,zZ6,zZ0,zZ0,.cells 197 [.d e_,.d aL,.row 6,.row 7,.d aL,.d e_,.d e_],zZ0,zZ4]⟩,dL [(8,(.u 5))]⟩
def T7:co:=cn Hn nL
def He:FT:=⟨⟨Nv,[]⟩,⟨Nw,[]⟩,dL [(27,(.s 5 0 1 1)),(37,(.j ⟨[],[3,4,5,6,7,9,14,15,16],⟨NA,aob⟩,[]⟩)),(38,(.j ⟨[16,77],[3,4,5,6,7,9,14,15,78],⟨OZ,aob⟩,[]⟩)),(83,(.j ⟨[16],[3,4,5,6,7,9,14],⟨Ny,[.cells 112 [.d vw],.cells 107 UR,.cells 162 [.d iJ],.cells 107 wI,.cells 57 vJ,.cells 57 [.d gH],.cells 197 L6,zZ0,zZ0,.cells 197 [.d e_,.d aL,.row 10,.row 11,.d aL,.d e_,.d e_],zZ0,zZ4]⟩,[]⟩)),(84,(.j ⟨[16],[3,4,5,6,7,9,14,15,154],⟨OZ,aob⟩,[]⟩)),(95,(.j ⟨[],[4,5,6,7,9,14],⟨Nx,ajy⟩,[]⟩)),(96,(.j ⟨[],[3,4,5,6,7,9,14,183],⟨Nz,[.cells 112 [.d vw],.cells 107 UR,.cells 162 [.d iJ],.cells 107 wI,.cells 57 vJ,.cells 57 [.d gH],.cells 197 L7,zZ0,zZ0,.cells 197 [.d e_,.d aL,.d (.sl aL),.d vx,.d aL,.d e_,.d e_]]⟩,[]⟩)),(102,(.s 5 0 1 1)),(104,(.a [.pk 4 6 e_]))]⟩
def TU:co:=cn He nG
def Hm:FT:=⟨⟨[.d wJ],[]⟩,⟨ajw,[zZ7,zZ2,zZ6,zZ0,zZ0,.cells 197 [.d e_,.d e_,.d aL,.row 6,.row 7,.d aL,.d e_],zZ0,zZ4]⟩,dL [(8,(.u 5))]⟩
def T6:co:=cn Hm nK
def Hd:FT:=⟨⟨Nv,[]⟩,⟨Nw,[]⟩,dL [(27,(.s 5 0 2 1)),(37,(.j ⟨[],[3,4,5,6,7,9,14,15,16],⟨NA,aoa⟩,[]⟩)),(38,(.j ⟨[16,77],[3,4,5,6,7,9,14,15,78],⟨OZ,aoa⟩,[]⟩)),(83,(.j ⟨[16],[3,4,5,6,7,9,14],⟨Ny,[.cells 112 [.d vw],.cells 107 UR,.cells 162 [.d iJ],.cells 107 wI,.cells 57 vJ,.cells 57 [.d gH],.cells 197 L6,zZ0,zZ0,.cells 197 [.d e_,.d e_,.d aL,.row 10,.row 11,.d aL,.d e_],zZ0,zZ4]⟩,[]⟩)),(84,(.j ⟨[16],[3,4,5,6,7,9,14,15,154],⟨OZ,aoa⟩,[]⟩)),(95,(.j ⟨[],[4,5,6,7,9,14],⟨Nx,ajy⟩,[]⟩)),(96,(.j ⟨[],[3,4,5,6,7,9,14,183],⟨Nz,[.cells 112 [.d vw],.cells 107 UR,.cells 162 [.d iJ],.cells 107 wI,.cells 57 vJ,.cells 57 [.d gH],.cells 197 L7,zZ0,zZ0,.cells 197 [.d e_,.d e_,.d aL,.d (.sl aL),.d vx,.d aL,.d e_]]⟩,[]⟩)),(102,(.s 5 0 2 1)),(104,(.a [.pk 4 6 e_]))]⟩
def TQ:co:=cn Hd l7
def Hl:FT:=⟨⟨[.d wJ],[]⟩,⟨ajw,[zZ7,zZ2,zZ6,zZ0,zZ0,.cells 197 [.d e_,.d e_,.d e_,.d aL,.row 6,.row 7,.d aL],zZ0,zZ4]⟩,dL [(8,(.u 5))]⟩
def T5:co:=cn Hl nJ
def Hc:FT:=⟨⟨Nv,[]⟩,⟨Nw,[]⟩,dL [(27,(.s 5 0 3 1)),(37,(.j ⟨[],[3,4,5,6,7,9,14,15,16],⟨NA,ao9⟩,[]⟩)),(38,(.j ⟨[16,77],[3,4,5,6,7,9,14,15,78],⟨OZ,ao9⟩,[]⟩)),(83,(.j ⟨[16],[3,4,5,6,7,9,14],⟨Ny,[.cells 112 [.d vw],.cells 107 UR,.cells 162 [.d iJ],.cells 107 wI,.cells 57 vJ,.cells 57 [.d gH],.cells 197 L6,zZ0,zZ0,.cells 197 [.d e_,.d e_,.d e_,.d aL,.row 10,.row 11,.d aL],zZ0,zZ4]⟩,[]⟩)),(84,(.j ⟨[16],[3,4,5,6,7,9,14,15,154],⟨OZ,ao9⟩,[]⟩)),(95,(.j ⟨[],[4,5,6,7,9,14],⟨Nx,ajy⟩,[]⟩)),(96,(.j ⟨[],[3,4,5,6,7,9,14,183],⟨Nz,[.cells 112 [.d vw],.cells 107 UR,.cells 162 [.d iJ],.cells 107 wI,.cells 57 vJ,.cells 57 [.d gH],.cells 197 L7,zZ0,zZ0,.cells 197 [.d e_,.d e_,.d e_,.d aL,.d (.sl aL),.d vx,.d aL]]⟩,[]⟩)),(102,(.s 5 0 3 1)),(104,(.a [.pk 4 6 e_]))]⟩
def TO:co:=cn Hc kC
def aah:co:=cn dM AY
def Ox:FT:=⟨⟨[.d vw,.d wJ,.nil,.d (.sl iJ)],[]⟩,⟨[.d (.sl gH),.d wJ],[]⟩,dL [(1,(.a [.nil 2 57 gH])),(6,(.j ⟨[3],[2,4,5,9,10],⟨[.row 0,.ptr 1 0,.ptr 2 0,.ptr 3 0,.d aL],anz⟩,[]⟩)),(8,(.j ⟨[3,10],[2,4,5,9,22],⟨[.row 0,.ptr 1 0,.ptr 2 0,.ptr 3 0,.d .bool],anz⟩,[]⟩)),(14,(.j ⟨[3,10],[2,4,5,9],⟨[.row 0,.ptr 1 0,.ptr 2 0,.ptr 3 0],anz⟩,[]⟩))]⟩
def aaf:co:=cn Ox w_
def To:FT:=⟨⟨[.d vw,.d (.sl iJ)],[]⟩,⟨[.d mV,.d wJ],[]⟩,.leaf⟩
def af0:co:=cn To zV
def zj:FT:=⟨⟨xK,UP⟩,⟨[.d aL],UP⟩,dL [(3,(.j ⟨[1],[0,18],⟨ic,abm⟩,[]⟩))]⟩
def Io:co:=cn zj bA
def OG:FT:=⟨⟨[.d aL],[]⟩,⟨[.d .ex],[]⟩,.leaf⟩
def aar:co:=cn OG r_
def Lg:FT:=⟨⟨[.d .str],[]⟩,⟨[.d .ex],[]⟩,.leaf⟩
def Xt:co:=cn Lg pY
def Eu:FT:=⟨⟨[.d aL,.d .ex,.d .ex],[]⟩,⟨[.d .ex],[]⟩,.leaf⟩
def QM:co:=cn Eu oy
def Ev:FT:=⟨⟨[.d .str,.d .ex],[]⟩,⟨[.d .sm],[]⟩,.leaf⟩
def QN:co:=cn Ev jG
def HI:FT:=⟨⟨[],[]⟩,⟨[.d (.sl HW)],[]⟩,.leaf⟩
def Ur:co:=cn HI s7
def B6:FT:=⟨⟨[.d E0],[]⟩,⟨[.d (.sl iJ)],[]⟩,dL [(8,(.j ⟨[0],[3,4],⟨[.row 0,.d aL],[.rows 162 J iJ]⟩,[.nil 3 162 iJ]⟩))]⟩
def Nm:co:=cn B6 ph
def oJ:FT:=⟨⟨xK,X0⟩,⟨[.d .ex],X0⟩,dL [(8,(.j ⟨[1,6],[0,4,5,14],⟨[.ptr 0 0,.ptr 3 0,.row 4,.d .bool],[.cells 214 alj,.cells 90 [.d zE],.rowsP 9 .str,.cells 218 [.d aL,.d aL,.d .str,.nil],zZ9]⟩,[]⟩))]⟩
def F':co:=cn oJ fy
def Fx (n:Nat):co:=cn oJ (iH n)
def wa:FT:=⟨⟨[.ptr 0 0,.d .str],X0⟩,⟨[.d .bool],X0⟩,.leaf⟩
def EL:co:=cn wa eS
def m8:FT:=⟨⟨US,X0⟩,⟨[.row 4],[.cells 214 anw,.cells 90 Rd,.gone,.rowsP 9 .str,.rows 220 J .sm]⟩,dL [(1,(.a [.ren 0 7])),(8,(.j ⟨[1,2],[0,7,8],⟨[.ptr 0 0,.row 3,.d aL],ari⟩,[.nil 7 220 .sm]⟩)),(10,(.j ⟨[1,2,8],[0,7,22],⟨[.ptr 0 0,.row 3,.d .bool],ari⟩,[]⟩)),(21,(.a [.nil 6 220 .sm]))]⟩
def EK:co:=cn m8 qW
def DG (n:Nat):co:=cn m8 (dP n)
def sx:FT:=⟨⟨xK,X0⟩,⟨[.d .sm],[.cells 214 anw,.cells 90 Rd,.gone,.rowsP 9 .str]⟩,dL [(1,(.a [.ren 0 7])),(6,(.j ⟨[1,5],[0,4,6],⟨L5,La2⟩,[]⟩)),(28,(.j ⟨[1,5,6],[0,4,74],⟨L5,La2⟩,[]⟩)),(33,(.j ⟨[],[4,7],⟨[.ptr 3 0,.ptr 4 0],[.cells 214 [.ptr 1 0,.d aL,.d aL,.d .bool,.d .bool,.d .bool,.d .bool,.row 5],.cells 90 [.d zE],.gone,.cells 220 aln,.cells 220 [.d aL,.d aL,.d .str,.d .str,.nil,.d aL,.d aL,.d .str,.d (.sl .ex),.row 6,.row 7],.rowsP 9 .str,.rows 220 J .sm,.rows 220 J .sm]⟩,[.cel 7 10 220 .sm]⟩)),(42,(.j ⟨[1,5,6],[0,4,100],⟨L5,La2⟩,[]⟩)),(56,(.j ⟨[1,5,6],[0,4,133],⟨L5,La2⟩,[]⟩)),(64,(.j ⟨[1,5,6],[0,4,165],⟨L5,La2⟩,[]⟩)),(70,(.j ⟨[1,5,6],[0,4,188],⟨L5,La2⟩,[]⟩)),(82,(.j ⟨[1,5,6],[0,4,210],⟨L5,La2⟩,[]⟩)),(94,(.j ⟨[5,6],[0,4,235],⟨L5,La2⟩,[]⟩)),(100,(.j ⟨[5],[0,4,258],⟨L5,La2⟩,[]⟩)),(106,(.j ⟨[5],[0,4,278],⟨L5,La2⟩,[]⟩)),(114,(.j ⟨[],[0,4,308],⟨L5,La2⟩,[]⟩))]⟩
def Fw (n:Nat):co:=cn sx (eO n)
def rz:FT:=⟨⟨[.ptr 0 0,.d .str,.d aL],X0⟩,⟨[.d (.sl .sm)],[.cells 214 anw,.cells 90 Rd,.gone,.rowsP 9 .str]⟩,.leaf⟩
def DH (n:Nat):co:=cn rz (eo n)
def B5:FT:=⟨⟨[.d E0],[]⟩,⟨[.d O0],[]⟩,dL [(5,(.a [.cel 3 7 9 .str])),(14,(.j ⟨[5],[2,3,4,6,7],⟨[.ptr 0 0,.ptr 1 0,.ptr 2 0,.row 3,.d aL],[.cells 159 [.nil,.nil],.cells 214 [.ptr 4 0,.d aL,.d aL,.d .bool,.d .bool,.d .bool,.d .bool,.row 5],.cells 159 [.d (.sl HW),.row 6],zZ9,.cells 90 [.d zE],.rowsP 9 .str,.rows 204 J tS]⟩,[.cel 4 1 204 tS]⟩)),(27,(.j ⟨[5,7],[2,3,4,6,8],⟨[.ptr 0 0,.ptr 1 0,.ptr 2 0,.row 3,.ptr 4 0],La7⟩,[.cel 8 3 220 .sm]⟩)),(34,(.j ⟨[5,7],[2,3,4,6,8,9],⟨[.ptr 0 0,.ptr 1 0,.ptr 2 0,.row 3,.ptr 4 0,.d aL],La7⟩,[.cel 8 3 220 .sm]⟩)),(48,(.j ⟨[5,7],[2,3,4,6,8],⟨[.ptr 0 0,.ptr 1 0,.ptr 2 0,.row 3,.ptr 4 0],La7⟩,[]⟩)),(49,(.j ⟨[5,7],[2,3,4,6,8,79],⟨[.ptr 0 0,.ptr 1 0,.ptr 2 0,.row 3,.ptr 4 0,.d .bool],La7⟩,[]⟩))]⟩
def Nl:co:=cn B5 pg
def Lh:FT:=⟨⟨[.d E0],[]⟩,⟨[.d vw],[]⟩,.leaf⟩
def Xu:co:=cn Lh ye
def HJ:FT:=⟨⟨[.d E0,.d E0],[]⟩,⟨[.d mV],[]⟩,.leaf⟩
def Us:co:=cn HJ s8
def Ec:FT:=⟨⟨[],[]⟩,⟨[.d mS],[]⟩,dL [(8,(.j ⟨[21],[0,1,22],⟨yL,aro⟩,[.cel 1 5 139 qe]⟩)),(22,(.j ⟨[2,21,22],[0,1,3],⟨yL,aro⟩,[]⟩))]⟩
def Qr:co:=cn Ec om
def Ao:FT:=⟨⟨[.d je],[]⟩,⟨ne,[]⟩,dL [(8,(.j ⟨[8,9],[3,10],⟨[.row 0,.d aL],[zZ1]⟩,[.nil 3 3 aL]⟩)),(16,(.j ⟨[8,9,10],[3],⟨[.row 0],[zZ1]⟩,[]⟩))]⟩
def Lr:co:=cn Ao lE
def Ea:FT:=⟨⟨[],[]⟩,⟨ne,[]⟩,.leaf⟩
def Qp:co:=cn Ea ug
def BO:FT:=⟨⟨US,UP⟩,⟨[.d aL],UP⟩,dL [(6,(.j ⟨[2,7],[0,8],⟨ic,abm⟩,[]⟩)),(16,(.j ⟨[2,7],[0,16],⟨ic,abm⟩,[]⟩)),(26,(.j ⟨[2,7],[0,21],⟨ic,abm⟩,[]⟩)),(44,(.j ⟨[2,7],[0,26],⟨ic,abm⟩,[]⟩)),(70,(.j ⟨[2],[0,33],⟨ic,abm⟩,[]⟩))]⟩
def M3:co:=cn BO o9
def D':FT:=⟨⟨[.ptr 0 0,.d je,.d aL,.d aL],UP⟩,⟨[.d aL],UP⟩,dL [(18,(.j ⟨[10],[0,5,24],⟨qF,[.cells 90 [.d zE],.cells 99 [.d je]]⟩,[]⟩))]⟩
def Qo:co:=cn D' qO
def G7:FT:=⟨⟨[.ptr 0 0,.row 1],[.cells 90 Rd,zZ1]⟩,⟨ne,[.cells 90 Rd,zZ1]⟩,dL [(8,(.j ⟨[9],[0,1,5,8,10],⟨[.ptr 0 0,.row 1,.row 2,.row 1,.d aL],anr⟩,[.nil 5 3 aL]⟩)),(16,(.j ⟨[9,10],[0,1,5,8],⟨[.ptr 0 0,.row 1,.row 2,.row 1],anr⟩,[]⟩)),(19,(.j ⟨[7,9,10],[0,1,5,8,24],⟨[.ptr 0 0,.row 1,.row 2,.row 1,.d .bool],anr⟩,[]⟩))]⟩
def TA:co:=cn G7 gO
def Eb:FT:=⟨⟨[.ptr 0 0,.d je,.d mS,.csl 1 1 4],arf⟩,⟨[.d gH],arf⟩,dL [(8,(.j ⟨[9],[0,3,5,6,8,11],⟨[.ptr 0 0,.csl 1 1 4,.ptr 6 0,.ptr 7 0,.ptr 8 0,.ptr 9 0],arm⟩,[]⟩)),(9,(.j ⟨[9],[0,3,5,6,8,11,36],⟨[.ptr 0 0,.csl 1 1 4,.ptr 6 0,.ptr 7 0,.ptr 8 0,.ptr 9 0,.d .bool],arm⟩,[]⟩)),(18,(.j ⟨[9],[0,3,8,11],⟨[.ptr 0 0,.csl 1 1 4,.ptr 6 0,.ptr 7 0],arn⟩,[]⟩)),(19,(.j ⟨[9],[0,3,8,11,74],⟨[.ptr 0 0,.csl 1 1 4,.ptr 6 0,.ptr 7 0,.d .bool],[.cells 90 [.d zE],.cells 36 ag6,zZ1,zZ1,zZ1,zZ1,.cells 57 vJ,.cells 57 vJ]⟩,[]⟩)),(22,(.s 9 0 0 4)),(24,(.j ⟨[],[8,11],⟨[.ptr 6 0,.ptr 7 0],[.cells 90 [.d zE],.cells 36 ag6,zZ1,zZ1,zZ1,zZ1,.cells 57 vJ,.cells 57 [.d aL,.d aL,.d aL,.d aL,.d aL,.d (.sl aL),.d (.sl aL)]]⟩,[]⟩)),(25,(.j ⟨[9],[0,3,8,11,89],⟨[.ptr 0 0,.csl 1 1 4,.ptr 6 0,.ptr 7 0,.d .bool],arn⟩,[]⟩)),(28,(.s 9 0 0 4))]⟩
def Qq:co:=cn Eb qP
def G8:FT:=⟨⟨[.ptr 0 0,.d je,.d mS,.d aL,.d .bool],UP⟩,⟨[.d (.sl gH)],UP⟩,dL [(8,(.a [.cel 12 0 3 aL,.cel 12 1 3 aL,.cel 12 2 3 aL,.cel 12 3 3 aL])),(9,(.j ⟨[3,11],[0,6,7,12],⟨[.ptr 0 0,.ptr 1 0,.ptr 2 0,.csl 3 1 4],ao5⟩,[]⟩)),(10,(.u 5)),(18,(.j ⟨[3,4,11,22,23],[0,6,7,12],⟨[.ptr 0 0,.ptr 1 0,.ptr 2 0,.csl 3 1 4],ao5⟩,[]⟩)),(21,(.j ⟨[3,4,11,13,22,23],[0,6,7,12,39],⟨[.ptr 0 0,.ptr 1 0,.ptr 2 0,.csl 3 1 4,.d .bool],ao5⟩,[]⟩)),(29,(.j ⟨[3],[0,6,7,11,12],⟨[.ptr 0 0,.ptr 1 0,.ptr 2 0,.row 3,.csl 4 1 4],ao6⟩,[.nil 11 57 gH]⟩)),(31,(.j ⟨[3],[0,6,7,11,12,65],⟨[.ptr 0 0,.ptr 1 0,.ptr 2 0,.row 3,.csl 4 1 4,.d .bool],ao6⟩,[]⟩)),(36,(.j ⟨[3],[0,6,7,11,12],⟨[.ptr 0 0,.ptr 1 0,.ptr 2 0,.row 3,.csl 4 1 4],ao6⟩,[]⟩)),(47,(.j ⟨[3],[0,6,7,11,12,14,15],⟨[.ptr 0 0,.ptr 1 0,.ptr 2 0,.row 3,.csl 4 1 4,.ptr 5 0,.ptr 6 0],arp⟩,[]⟩)),(48,(.j ⟨[3],[0,6,7,11,12,14,15,87],⟨[.ptr 0 0,.ptr 1 0,.ptr 2 0,.row 3,.csl 4 1 4,.ptr 5 0,.ptr 6 0,.d .bool],arp⟩,[]⟩)),(51,(.s 14 0 0 4))]⟩
def TB:co:=cn G8 sX
def Ed:FT:=⟨⟨Rd,[]⟩,⟨[.d mV],[]⟩,dL [(2,(.j ⟨[1],[0,4],⟨[.d E0,.ptr 0 0],[.cells 34 ag7]⟩,[]⟩)),(22,(.j ⟨[1,9],[4,5,6,7,8,10],⟨[.ptr 0 0,.ptr 1 0,.ptr 2 0,.ptr 3 0,.row 4,.d aL],[.cells 34 ag7,.cells 90 [.d zE],.cells 34 [.d (.sl k_),.d (.sl sC),.d (.sl mw),.d (.sl .str),.d (.sl .str),.d (.sl qe),.nil],.cells 99 [.d je],.rows 57 af gH]⟩,[]⟩)),(37,(.j ⟨[1,48],[4,5,6,7,47,49],⟨[.ptr 0 0,.ptr 1 0,.ptr 2 0,.ptr 3 0,.row 4,.d aL],arq⟩,[.cel 6 6 57 gH]⟩)),(45,(.j ⟨[1,48,49],[4,5,6,7,47],⟨[.ptr 0 0,.ptr 1 0,.ptr 2 0,.ptr 3 0,.row 4],arq⟩,[]⟩))]⟩
def Qs:co:=cn Ed qQ
def xy:FT:=⟨⟨[.d (.st (.pr E0 (.pr E0 E0))),.d aL],[]⟩,⟨[.d mV],[]⟩,.leaf⟩
def F5:co:=cn xy lG
theorem MQ:aH Pg 174 Nf:=mk BZ kS an b_
theorem J_:aH Pg 149 Lz:=mk Ar jU (ac MQ an) b_
theorem GY:aH Pg 148 Um:=mk HG l9 an b_
theorem Wu:aH Pg 175 Xn:=mk Lf r8 an b_
theorem Wt:aH Pg 150 Xm:=mk Ld pW (ac GY (ac Wu an)) b_
theorem tf:aH Pg 119 Un:=mk HH fA (ac GY (ac J_ (ac Wt an))) b_
theorem J9:aH Pg 227 Xe:=mk K9 gi an b_
theorem Wm:aH Pg 211 Xf:=mk K_ uU (ac J9 an) b_
theorem SJ:aH Pg 213 Ui:=mk HA s6 (ac J9 an) b_
theorem Wn:aH Pg 210 Xg:=mk La rZ an b_
theorem MP:aH Pg 234 Nd:=mk BY mO an b_
theorem xp:∀n:Nat,aH Pg 228 (H6 n)
 |0=>N0 pG
 |n+1=>mk pG (mF (ir n)) (ac tf (ac (xp n) (ac MP an))) b_
theorem yT:aH Pg 228 Ik:=(xp fuel)
theorem Ws:aH Pg 229 Xl:=mk Lc pV an b_
theorem sk:∀n:Nat,aH Pg 214 (H5 n)/\aH Pg 184 (Fv n)
 |0=>⟨N0 tR,N0 oI⟩
 |n+1=>⟨mk tR (ky (eL n) (dN n)) (ac tf (ac (sk n).2 (ac yT (ac Ws an)))) b_,mk oI (jL (eL n) (dN n)) (ac (sk n).1 an) b_⟩
theorem FH:aH Pg 184 F8:=(sk fuel).2
theorem H9:aH Pg 183 Ij:=mk ze kw (ac tf an) b_
theorem SM:aH Pg 157 Ul:=mk HE qr (ac tf (ac H9 (ac FH an))) b_
theorem vY:aH Pg 120 aiv:=mk Y4 jq an b_
theorem vX:aH Pg 185 Uk:=mk HC ip an b_
theorem wD:aH Pg 186 Nc:=mk BX hX an b_
theorem SK:aH Pg 230 Uj:=mk HB qp (ac vY (ac vX (ac wD an))) b_
theorem Oc:aH Pg 217 aam:=mk OE gQ (ac SK an) b_
theorem G1:∀n:Nat,aH Pg 231 (V3 n)
 |0=>N0 yC
 |n+1=>mk yC (vg (nZ n)) (ac (G1 n) an) b_
theorem Wq:aH Pg 231 Xj:=(G1 fuel)
theorem G0:∀n:Nat,aH Pg 232 (V2 n)
 |0=>N0 yB
 |n+1=>mk yB (ve (nY n)) (ac Oc (ac (G0 n) an)) b_
theorem Wo:aH Pg 232 Xh:=(G0 fuel)
theorem ZZ:aH Pg 218 aan:=mk OF mN (ac yT (ac Wq (ac Wo an))) b_
theorem P9:aH Pg 219 QH:=mk Ep dj an b_
theorem ai5:aH Pg 216 aiu:=mk Y3 jp an b_
theorem FG:aH Pg 215 F7:=mk xA ef an b_
theorem MN:aH Pg 187 Na:=mk BW mM (ac vY (ac vX (ac wD (ac FG (ac ai5 (ac Oc (ac ZZ (ac P9 an)))))))) b_
theorem Ae:∀n:Nat,aH Pg 161 (MC n)
 |0=>N0 sR
 |n+1=>mk sR (mQ (iQ n)) (ac (Ae n) (ac MN an)) b_
theorem MO:aH Pg 161 Nb:=(Ae fuel)
theorem G2:∀n:Nat,aH Pg 160 (V4 n)
 |0=>N0 yD
 |n+1=>mk yD (vh (n_ n)) (ac (G2 n) an) b_
theorem Wr:aH Pg 160 Xk:=(G2 fuel)
theorem Wp:aH Pg 158 Xi:=mk Lb r7 (ac vX an) b_
theorem P5:aH Pg 159 QF:=mk Eo ov (ac vY (ac vX (ac wD an))) b_
theorem yh:aH Pg 123 QI:=mk Es fH (ac SM (ac Wp (ac P5 (ac Wr (ac MO an))))) b_
theorem GZ:∀n:Nat,aH Pg 163 (V0 n)
 |0=>N0 yA
 |n+1=>mk yA (yi (qc n)) (ac (GZ n) an) b_
theorem Wh:aH Pg 163 W9:=(GZ fuel)
theorem GU:aH Pg 162 Uf:=mk Hx kE an b_
theorem GW:aH Pg 220 Uh:=mk Hz l8 an b_
theorem Wl:aH Pg 124 Xc:=mk K6 uT (ac yh (ac GU (ac Wh an))) b_
theorem Wi:aH Pg 118 W_:=mk K3 pR an b_
theorem yS:aH Pg 79 Ii:=mk zd io (ac Wi (ac tf (ac vY an))) b_
theorem u_:aH Pg 127 Ly:=mk Aq jT an b_
theorem GV:aH Pg 177 Ug:=mk Hy qn an b_
theorem Wj:aH Pg 152 Xa:=mk K4 pU (ac GV an) b_
theorem P3:aH Pg 153 ait:=mk Y2 jF an b_
theorem Wk:aH Pg 176 Xb:=mk K5 nV (ac P3 an) b_
theorem P1:aH Pg 151 Qz:=mk Ek mj (ac P3 (ac Wk an)) b_
theorem FF:aH Pg 121 F6:=mk xz iF (ac u_ (ac P1 (ac Wj (ac P3 an)))) b_
theorem CP:aH Pg 81 Xd:=mk K7 jS (ac yS (ac FF an)) b_
theorem oD:aH Pg 126 QD:=mk El cN an b_
theorem yV:∀n:Nat,aH Pg 192 (JR n)
 |0=>N0 ru
 |n+1=>mk ru (ri (iV n)) (ac vY (ac oD (ac (yV n) (ac GW an)))) b_
theorem uZ:aH Pg 192 Lw:=(yV fuel)
theorem H8:aH Pg 188 Ih:=mk za mB (ac vY (ac oD (ac uZ (ac GW an)))) b_
theorem MM:aH Pg 191 M':=mk BV jJ an b_
theorem kx:∀n:Nat,aH Pg 125 (JS n)/\aH Pg 164 (MB n)/\aH Pg 189 (DF n)/\aH Pg 190 (H4 n)
 |0=>⟨N0 rx,N0 wG,N0 ry,N0 tQ⟩
 |n+1=>⟨mk rx (rj (dU n) (eU n) (dv n) (dO n)) (ac (kx n).2.1 an) b_,mk wG (sP (dU n) (eU n) (dv n) (dO n)) (ac vY (ac oD (ac GU (ac H8 (ac (kx n).2.2.1 (ac (kx n).2.2.2 (ac MM (ac uZ an)))))))) b_,mk ry (mY (dU n) (eU n) (dv n) (dO n)) (ac (kx n).1 (ac oD (ac uZ an))) b_,mk tQ (pA (dU n) (eU n) (dv n) (dO n)) (ac (kx n).1 (ac oD an)) b_⟩
theorem J8:aH Pg 125 Lx:=(kx fuel).1
theorem P4:aH Pg 84 QE:=mk Em qV (ac yh (ac Wl (ac J8 (ac oD (ac u_ an))))) b_
theorem J7:aH Pg 109 af2:=mk Tq qU an b_
theorem aeb:aH Pg 146 af1:=mk Tp xd an b_
theorem J6:aH Pg 112 W7:=mk K2 rY (ac aeb an) b_
theorem ML:aH Pg 212 M_:=mk BU mL an b_
theorem lJ:aH Pg 181 aal:=mk OD cz an b_
theorem ZY:aH Pg 182 aak:=mk OC xc (ac J6 (ac u_ (ac Wm (ac ML (ac SJ an))))) b_
theorem jK:aH Pg 156 Ue:=mk Hw nU (ac GV (ac lJ (ac ZY an))) b_
theorem J5:aH Pg 71 W5:=mk KZ rW an b_
theorem FE:aH Pg 106 aai:=mk Oz rX an b_
theorem YM:aH Pg 107 ais:=mk Y1 qT an b_
theorem Wg:aH Pg 108 W3:=mk KY uR (ac YM an) b_
theorem DN:aH Pg 74 Qy:=mk Ej kD (ac FE (ac YM (ac Wg (ac J7 an)))) b_
theorem P0:aH Pg 110 Qx:=mk Ei ou an b_
theorem PZ:aH Pg 113 Qw:=mk Eh qS an b_
theorem lI:aH Pg 111 aaj:=mk OA iE an b_
theorem MJ:aH Pg 110 M9:=mk mR mK an b_
theorem J4:aH Pg 110 Lv:= @aH.ro Pg 110 mR.pre mR.post.vs mK jR (MJ.holds rfl) rfl (λx _ h=>by rw[show jR x=au (mK x) λy=>same y.2 x.2 (M y.1) from rfl]at h;exact h)
theorem jW:aH Pg 77 W6:=mk K0 pQ (ac DN (ac J7 (ac J4 (ac lI (ac J6 (ac PZ an)))))) b_
theorem Wf:aH Pg 83 W2:=mk KX uQ (ac J5 (ac CP an)) b_
theorem ZW:aH Pg 178 aag:=mk Oy xa (ac CP (ac FE an)) b_
theorem ZU:aH Pg 179 aae:=mk Ow w9 an b_
theorem Si:aH Pg 180 TN:=mk Hb s5 (ac Wn an) b_
theorem iP:aH Pg 154 Qv:=mk Eg oq (ac ZW (ac ZU (ac Si an))) b_
theorem J3:aH Pg 39 WZ:=mk KV nF (ac J5 an) b_
theorem ZT:aH Pg 72 aad:=mk Ov w7 (ac FE an) b_
theorem ai4:aH Pg 73 air:=mk Y0 DA an b_
theorem PY:aH Pg 75 Qu:=mk Ef oo an b_
theorem Wc:aH Pg 76 WV:=mk KQ uO (ac J7 (ac P0 an)) b_
theorem FD:aH Pg 41 aac:=mk Ou rV (ac ZT (ac ai4 (ac DN (ac PY (ac Wc (ac jW an)))))) b_
theorem Wd:aH Pg 80 WY:=mk KU rU an b_
theorem We:aH Pg 43 W1:=mk KW uP (ac J3 (ac FD (ac yS (ac Wd an)))) b_
def NG (t:TypeId):I Ty:=if aB t 197 then M (.pr .un e_) else b_ t
theorem SH:aH Pg 155 Ud:=mk Hu nS (ac lI (ac lJ an)) NG
theorem Ss:aH Pg 122 T4:=mk Hk gq (ac jW (ac iP (ac SH (ac jK an)))) NG
theorem SE:aH Pg 155 Uc:=mk Ht nR (ac lI (ac lJ an)) NG
theorem Sr:aH Pg 122 T3:=mk Hj gP (ac jW (ac iP (ac SE (ac jK an)))) NG
theorem SD:aH Pg 155 Ub:=mk Hs nQ (ac lI (ac lJ an)) NG
theorem Sq:aH Pg 122 T2:=mk Hi gm (ac jW (ac iP (ac SD (ac jK an)))) NG
theorem SA:aH Pg 155 Ua:=mk Hr nP (ac lI (ac lJ an)) NG
theorem Sp:aH Pg 122 TZ:=mk Hh jI (ac jW (ac iP (ac SA (ac jK an)))) NG
theorem Sz:aH Pg 155 T_:=mk Hq nO (ac lI (ac lJ an)) NG
theorem So:aH Pg 122 TY:=mk Hg iT (ac jW (ac iP (ac Sz (ac jK an)))) NG
theorem Sy:aH Pg 155 T9:=mk Hp nN (ac lI (ac lJ an)) NG
theorem Sn:aH Pg 122 TX:=mk Hf im (ac jW (ac iP (ac Sy (ac jK an)))) NG
theorem Sw:aH Pg 155 T8:=mk Ho nM (ac lI (ac lJ an)) NG
theorem Sm:aH Pg 122 TW:=mk dM nI (ac jW (ac iP (ac Sw (ac jK an)))) NG
theorem Sv:aH Pg 155 T7:=mk Hn nL (ac lI (ac lJ an)) NG
theorem Sl:aH Pg 122 TU:=mk He nG (ac jW (ac iP (ac Sv (ac jK an)))) NG
theorem Su:aH Pg 155 T6:=mk Hm nK (ac lI (ac lJ an)) NG
theorem Sk:aH Pg 122 TQ:=mk Hd l7 (ac jW (ac iP (ac Su (ac jK an)))) NG
theorem St:aH Pg 155 T5:=mk Hl nJ (ac lI (ac lJ an)) NG
theorem Sj:aH Pg 122 TO:=mk Hc kC (ac jW (ac iP (ac St (ac jK an)))) NG
theorem ZX:aH Pg 122 aah:=(aH.orE (pre:=dM.pre) (post:=dM.post) (m:=nI) (m':=(λx=>orE (nG x) ((λx=>orE (l7 x) ((λx=>orE (kC x) ((λx=>orE (jI x) ((λx=>orE (iT x) ((λx=>orE (im x) ((λx=>orE (gP x) ((λx=>orE (gm x) (gq x)) x)) x)) x)) x)) x)) x)) x))) rfl Sm (aH.orE (pre:=dM.pre) (post:=dM.post) (m:=nG) (m':=(λx=>orE (l7 x) ((λx=>orE (kC x) ((λx=>orE (jI x) ((λx=>orE (iT x) ((λx=>orE (im x) ((λx=>orE (gP x) ((λx=>orE (gm x) (gq x)) x)) x)) x)) x)) x)) x))) rfl Sl (aH.orE (pre:=dM.pre) (post:=dM.post) (m:=l7) (m':=(λx=>orE (kC x) ((λx=>orE (jI x) ((λx=>orE (iT x) ((λx=>orE (im x) ((λx=>orE (gP x) ((λx=>orE (gm x) (gq x)) x)) x)) x)) x)) x))) rfl Sk (aH.orE (pre:=dM.pre) (post:=dM.post) (m:=kC) (m':=(λx=>orE (jI x) ((λx=>orE (iT x) ((λx=>orE (im x) ((λx=>orE (gP x) ((λx=>orE (gm x) (gq x)) x)) x)) x)) x))) rfl Sj (aH.orE (pre:=dM.pre) (post:=dM.post) (m:=jI) (m':=(λx=>orE (iT x) ((λx=>orE (im x) ((λx=>orE (gP x) ((λx=>orE (gm x) (gq x)) x)) x)) x))) rfl Sp (aH.orE (pre:=dM.pre) (post:=dM.post) (m:=iT) (m':=(λx=>orE (im x) ((λx=>orE (gP x) ((λx=>orE (gm x) (gq x)) x)) x))) rfl So (aH.orE (pre:=dM.pre) (post:=dM.post) (m:=im) (m':=(λx=>orE (gP x) ((λx=>orE (gm x) (gq x)) x))) rfl Sn (aH.orE (pre:=dM.pre) (post:=dM.post) (m:=gP) (m':=(λx=>orE (gm x) (gq x))) rfl Sr (aH.orE (pre:=dM.pre) (post:=dM.post) (m:=gm) (m':=gq) rfl Sq Ss)))))))))
theorem ZV:aH Pg 82 aaf:=mk Ox w_ (ac ZX an) b_
theorem aea:aH Pg 44 af0:=mk To zV (ac CP (ac ZV (ac Wf an))) b_
theorem fU:aH Pg 40 Io:=mk zj bA an b_
theorem FJ:aH Pg 131 aar:=mk OG r_ an b_
theorem Kf:aH Pg 195 Xt:=mk Lg pY an b_
theorem DU:aH Pg 194 QM:=mk Eu oy an b_
theorem DV:aH Pg 130 QN:=mk Ev jG an b_
theorem SU:aH Pg 128 Ur:=mk HI s7 an b_
theorem MW:aH Pg 46 Nm:=mk B6 ph an b_
theorem vZ:∀n:Nat,aH Pg 193 (Fx n)
 |0=>N0 oJ
 |n+1=>mk oJ (oF (iH n)) (ac fU (ac FJ (ac (vZ n) (ac DU (ac Kf an))))) b_
theorem FK:aH Pg 193 F':=(vZ fuel)
theorem DS:aH Pg 196 EL:=mk wa eS (ac vY an) b_
theorem jX:∀n:Nat,aH Pg 129 (DG n)/\aH Pg 165 (Fw n)/\aH Pg 197 (DH n)
 |0=>⟨N0 m8,N0 sx,N0 rz⟩
 |n+1=>⟨mk m8 (m6 (dP n) (eO n) (eo n)) (ac (jX n).2.1 an) b_,mk sx (oE (dP n) (eO n) (eo n)) (ac fU (ac (jX n).1 (ac DV (ac FJ (ac FK (ac DU (ac Kf (ac DS (ac (jX n).2.2 an))))))))) b_,mk rz (m7 (dP n) (eO n) (eo n)) (ac fU (ac (jX n).1 an)) b_⟩
theorem DR:aH Pg 129 EK:=(jX fuel).1
theorem MV:aH Pg 85 Nl:=mk B5 pg (ac fU (ac yh (ac SU (ac DR (ac DV (ac FJ an)))))) b_
theorem Ww:aH Pg 45 Xu:=mk Lh ye (ac P4 (ac MV an)) b_
theorem SX:aH Pg 21 Us:=mk HJ s8 (ac aea (ac Ww (ac MW an))) b_
theorem PQ:aH Pg 38 Qr:=mk Ec om an b_
theorem JZ:aH Pg 147 Lr:=mk Ao lE an b_
theorem PO:aH Pg 114 Qp:=mk Ea ug an b_
theorem MF:aH Pg 115 M3:=mk BO o9 (ac fU an) b_
theorem PN:aH Pg 116 Qo:=mk D' qO (ac fU (ac JZ an)) b_
theorem Sc:aH Pg 117 TA:=mk G7 gO (ac fU an) b_
theorem PP:aH Pg 78 Qq:=mk Eb qP (ac fU (ac PO (ac MF (ac PN (ac Sc an))))) b_
def tv1 (t:TypeId):I Ty:=if aB t 36 then M (.pr .un (.pr .un (.pr .un (.pr .un (.pr .un (.sl aL)))))) else b_ t
theorem Sd:aH Pg 42 TB:=mk G8 sX (ac fU (ac FD (ac PP an))) tv1
theorem PR:aH Pg 20 Qs:=mk Ed qQ (ac PQ (ac J3 (ac fU (ac FD (ac Sd (ac We an)))))) b_
theorem FC:aH Pg 7 F5:=mk xy lG (ac PR (ac SX an)) b_
abbrev ano:Y PV:=[.row 1,.row 2,.row 3,.row 4,.row 5,.row 6,.d (.sl aL),.row 7,.row 8]
abbrev zZ3:PB:=.rows 36 af (.sl aL)
abbrev Ld0:Y PB:=[.cells 78 ano,zZ3,zZ3,zZ3,zZ3,zZ3,zZ3,zZ3,zZ1,zZ8]
abbrev Ld4:Y PV:=[.d aL,.d aL,.d aL,.d aL,.d aL,.d (.sl aL),.d (.sl aL)]
abbrev Ld3:Y PV:=[.d (.sl k_),.d (.sl sC),.d (.sl mw),.d (.sl .str),.d (.sl .str),.d (.sl qe)]
abbrev Ld1:Y PB:=[.cells 57 Ld4,.cells 78 [.row 3,.row 4,.row 5,.row 6,.row 7,.row 8,.d (.sl aL),.row 9,.row 10],.cells 31 Ld3,zZ3,zZ3,zZ3,zZ3,zZ3,zZ3,zZ3,zZ1]
abbrev Ld2:Y PB:=[.cells 78 ano,zZ3,zZ3,zZ3,zZ3,zZ3,zZ3,zZ3,zZ1,zZ8,.cells 57 Ld4]
abbrev Ld5:Y PB:=[.rows 176 af eB,zZ2,zZ6,.cells 96 Iu]
abbrev Ld6:Y PB:=[.rows 176 af eB,zZ2,zZ6]
abbrev Ra:Y PB:=[zZ1]
abbrev Ld8:Y PB:=[.cells 99 [.d je],.cells 57 [.d gH],.cells 226 [.d Kd1]]
abbrev Ld9:Y PB:=[zZ1,.cells 3 [.d aL]]
abbrev arc:Y PB:=[.cells 31 [.d mS],.cells 96 [.row 4,.d aL,.row 5,.row 6],.cells 3 [.d aL],.cells 96 C6,.rows 176 af eB,zZ2,zZ6]
abbrev Nu:Y PB:=[zZ8]
abbrev arb:Y PB:=[.cells 96 C6,.cells 96 [.row 2,.d aL,.row 3,.row 4],.rows 176 af eB,.rows 4 af .bool,.rows 178 af iu]
abbrev ajp:Y PB:=[.cells 34 [.d mV],.rows 67 J iJ]
abbrev Rb:Y PV:=[.row 0,.d aL]
abbrev ag5:Y PB:=[zZ3]
abbrev ann:Y PB:=[zZ3,zZ8]
abbrev abl:Y PB:=[.cells 57 [.d gH]]
abbrev abk:Y PV:=[.d (.sl aL),.d (.sl aL)]
abbrev anm:Y PV:=[.ptr 0 0,.ptr 1 0,.ptr 2 0]
def OL:FT:=⟨⟨Gq,[]⟩,⟨[.d aL],[]⟩,dL [(3,(.j ⟨[0,1],[12],⟨[.d .bool],[]⟩,[]⟩))]⟩
def aax:co:=cn OL gR
def HM:FT:=⟨⟨abk,[]⟩,⟨ne,[]⟩,dL [(8,(.j ⟨[0,1,14],[5,15],⟨Rb,Nu⟩,[]⟩))]⟩
def Ux:co:=cn HM kJ
def YZ:FT:=⟨⟨Gq,[]⟩,⟨[.d aL],[]⟩,dL [(3,(.j ⟨[0,1],[12],⟨[.d .bool],[]⟩,[]⟩))]⟩
def aiq:co:=cn YZ yd
def Oq:FT:=⟨⟨abk,[]⟩,⟨ne,[]⟩,dL [(8,(.j ⟨[0,1,14],[5,15],⟨Rb,Nu⟩,[]⟩))]⟩
def aaa:co:=cn Oq qm
def Y5:FT:=⟨⟨ne,[]⟩,⟨ne,[]⟩,.leaf⟩
def EP:co:=cn Y5 PD
def amr:co:=⟨EP.pre,EP.post,CH⟩
def Lj:FT:=⟨⟨[.d vx],[]⟩,⟨[.row 0],ag5⟩,dL [(8,(.j ⟨[9,10],[3,11],⟨Rb,ag5⟩,[]⟩))]⟩
def Xw:co:=cn Lj iG
def Tx:FT:=⟨⟨ne,[]⟩,⟨[.row 0],Ra⟩,dL [(8,(.a [.nil 2 3 aL])),(12,(.a [.nil 2 3 aL]))]⟩
def AD:co:=cn Tx JM
def aj4:co:=⟨AD.pre,AD.post,py⟩
def Lk:FT:=⟨⟨[.d Kd0],[]⟩,⟨[.agg [.row 0,.row 1,.row 2,.row 3,.row 4,.row 5,.d (.sl aL),.row 6,.row 7]],[zZ3,zZ3,zZ3,zZ3,zZ3,zZ3,zZ3,zZ1]⟩,.leaf⟩
def Xx:co:=cn Lk uW
def OH:FT:=⟨⟨Rb,ag5⟩,⟨ne,ag5⟩,dL [(3,(.j ⟨[1],[0,12],⟨[.row 0,.d .bool],ag5⟩,[]⟩))]⟩
def aas:co:=cn OH ux
def Ll:FT:=⟨⟨anm,Ld1⟩,⟨[.d vx],Ld1⟩,dL [(18,(.j ⟨[6],[0,1,2,25],⟨EZ,Ld1⟩,[]⟩))]⟩
def Xy:co:=cn Ll uX
def OK:FT:=⟨⟨[.d mS],[]⟩,⟨[.d Kd0],[]⟩,dL [(8,(.j ⟨[40],[2,3,41],⟨yL,[.cells 78 [.nil,.nil,.nil,.nil,.nil,.nil,.nil,.nil,.nil],.cells 78 [.row 2,.row 3,.row 4,.row 5,.row 6,.row 7,.nil,.row 8,.row 9],zZ3,zZ3,zZ3,zZ3,zZ3,zZ3,zZ3,zZ8]⟩,[]⟩))]⟩
def aau:co:=cn OK qu
def HL:FT:=⟨⟨Gq,[]⟩,⟨[.row 0],Nu⟩,dL [(4,(.j ⟨[0,1,5],[6],⟨[.d .bool],[]⟩,[]⟩)),(6,(.j ⟨[0,1,6],[5],⟨[.d aL],[]⟩,[]⟩)),(16,(.j ⟨[],[7],⟨[.row 0],Nu⟩,[]⟩)),(17,(.j ⟨[1],[7,33],⟨[.row 0,.d .bool],Nu⟩,[]⟩))]⟩
def Uw:co:=cn HL s_
def xC:FT:=⟨⟨[.row 0],Nu⟩,⟨ne,Nu⟩,.leaf⟩
def afd:co:=cn xC xi
def aj3:co:=⟨xC.pre,⟨xC.post.vs,[]⟩,vS⟩
def Bf:FT:=⟨⟨[.d (.sl aL),.row 0],Nu⟩,⟨ne,Nu⟩,dL [(8,(.j ⟨[0,14],[1,5,15],⟨[.row 0,.row 1,.d aL],[zZ8,zZ8]⟩,[]⟩))]⟩
def aj1:co:=cn Bf uj
def amq:co:=⟨Bf.pre,⟨Bf.post.vs,[]⟩,CG⟩
def Li:FT:=⟨⟨[.row 0,.d aL,.row 1],ann⟩,⟨[],ann⟩,dL [(0,(.j ⟨[1],[0,2,13],⟨[.row 0,.row 1,.d .bool],ann⟩,[]⟩))]⟩
def Xv:co:=cn Li ml
def Tr:FT:=⟨⟨[.ptr 0 0,.d aL,.row 9],Ld0⟩,⟨[],Ld0⟩,.leaf⟩
def af8:co:=cn Tr xf
def OJ:FT:=⟨⟨[.d mS,.ptr 0 0,.d gH,.row 9],Ld0⟩,⟨[],Ld0⟩,dL [(6,(.j ⟨[],[],⟨[],Ld0⟩,[]⟩)),(11,(.j ⟨[20],[1,3,4,6,32],⟨[.ptr 0 0,.row 9,.ptr 10 0,.ptr 11 0,.d .bool],[.cells 78 ano,zZ3,zZ3,zZ3,zZ3,zZ3,zZ3,zZ3,zZ1,zZ8,.cells 31 Ld3,.cells 57 Ld4]⟩,[]⟩)),(48,(.j ⟨[],[1,3,6,129],⟨[.ptr 0 0,.row 9,.ptr 10 0,.d .bool],Ld2⟩,[]⟩)),(59,(.j ⟨[141],[1,3,6,140,142],⟨[.ptr 0 0,.row 9,.ptr 10 0,.row 8,.d aL],Ld2⟩,[]⟩)),(67,(.j ⟨[141,142],[1,3,6,140],⟨[.ptr 0 0,.row 9,.ptr 10 0,.row 8],Ld2⟩,[]⟩))]⟩
def aat:co:=cn OJ sa
def Ts:FT:=⟨⟨[.d mS,.d Kd0,.d gH],[]⟩,⟨[.d Kd0,.row 0],Nu⟩,dL [(14,(.j ⟨[22,23],[3,5,6,7,24],⟨[.ptr 0 0,.ptr 1 0,.ptr 2 0,.ptr 3 0,.d aL],[.cells 31 Ld3,.cells 57 Ld4,.cells 78 [.row 4,.row 5,.row 6,.row 7,.row 8,.row 9,.d (.sl aL),.row 10,.row 11],.cells 36 ne,zZ3,zZ3,zZ3,zZ3,zZ3,zZ3,zZ3,zZ1]⟩,[]⟩))]⟩
def af9:co:=cn Ts s9
def KP:FT:=⟨⟨ne,[]⟩,⟨[.row 0],Ra⟩,dL [(4,(.a [.nil 2 3 aL]))]⟩
def WU:co:=cn KP uN
def Om:FT:=⟨⟨Gq,[]⟩,⟨ne,[]⟩,dL [(5,(.j ⟨[1],[0,12],⟨[.row 0,.d .bool],Ra⟩,[]⟩)),(14,(.j ⟨[1],[0],⟨[.row 0],Ra⟩,[]⟩)),(23,(.j ⟨[],[0],⟨[.row 0],Ra⟩,[]⟩))]⟩
def aa7:co:=cn Om ql
def Tn:FT:=⟨⟨abk,[]⟩,⟨[.d .bool],[]⟩,dL [(6,(.j ⟨[0,1],[5],⟨[.d aL],[]⟩,[]⟩))]⟩
def aez:co:=cn Tn wY
def Oo:FT:=⟨⟨abk,[]⟩,⟨[.d .bool],[]⟩,dL [(2,(.j ⟨[],[4],⟨[.d .bool],[]⟩,[]⟩))]⟩
def aa9:co:=cn Oo Fq
def KL:FT:=⟨⟨[.d mS,.d aL],[]⟩,⟨[.d aL],[]⟩,dL [(3,(.j ⟨[1],[2,13],⟨ic,[.cells 31 Ld3]⟩,[]⟩))]⟩
def WP:co:=cn KL rT
def BT:FT:=⟨⟨[.d mS,.d gH],[]⟩,⟨[.d aL,.d .bool],[]⟩,dL [(6,(.j ⟨[7],[2,3,8],⟨qF,[.cells 31 Ld3,.cells 57 Ld4]⟩,[]⟩))]⟩
def M8:co:=cn BT pd
def BQ:FT:=⟨⟨[.d mS,.d gH],[]⟩,⟨[.d aL,.d .bool],[]⟩,dL [(6,(.j ⟨[7],[2,3,8],⟨qF,[.cells 31 Ld3,.cells 57 Ld4]⟩,[]⟩))]⟩
def M5:co:=cn BQ o_
def xx:FT:=⟨⟨[.d .str],[]⟩,⟨[.d .bool],[]⟩,dL [(6,(.j ⟨[0,5],[6],⟨[.d aL],[]⟩,[]⟩))]⟩
def F4:co:=cn xx lD
def BN:FT:=⟨⟨[.d .str],[]⟩,⟨[.d .bool],[]⟩,dL [(3,(.j ⟨[0],[16],⟨[.d .bool],[]⟩,[]⟩)),(14,(.j ⟨[],[18],⟨[.ptr 0 0],[.mp mw .un]⟩,[]⟩)),(24,(.j ⟨[],[18],⟨[.ptr 0 0],[.mp mw .un]⟩,[]⟩)),(25,(.j ⟨[3,4],[18,23],⟨ic,[.mp mw .un]⟩,[]⟩)),(29,(.j ⟨[],[18,38],⟨ic,[.mp mw .un]⟩,[]⟩))]⟩
def M2:co:=cn BN o8
def Lo:FT:=⟨⟨Gq,[]⟩,⟨[.d aL],[]⟩,dL [(6,(.j ⟨[0,1,7],[8],⟨[.d aL],[]⟩,[]⟩))]⟩
def XE:co:=cn Lo sd
def B':FT:=⟨⟨Gq,[]⟩,⟨[.d .bool],[]⟩,.leaf⟩
def Nr:co:=cn B' kU
def B_:FT:=⟨⟨[.d (.sl aL),.d iJ],[]⟩,⟨[.d .bool],[]⟩,.leaf⟩
def Nq:co:=cn B_ eT
def zk:FT:=⟨⟨vI,[]⟩,⟨[.d .bool],[]⟩,dL [(2,(.j ⟨[],[4],⟨[.d .bool],[]⟩,[]⟩))]⟩
def Ip:co:=cn zk tK
def zl:FT:=⟨⟨[.d mS,.d aL,.d .bool],[]⟩,⟨[.d .bool],[]⟩,dL [(2,(.j ⟨[],[6],⟨[.d .bool],[]⟩,[]⟩))]⟩
def Iq:co:=cn zl tL
def t8:FT:=⟨⟨[.d (.sl k_)],[]⟩,⟨[.d (.sl .str),.d .bool],[]⟩,dL [(8,(.j ⟨[0],[4,5],⟨Rb,[zZ5]⟩,[.nil 4 9 .str]⟩)),(15,(.j ⟨[0],[4,5],⟨Rb,[zZ5]⟩,[]⟩)),(37,(.j ⟨[0,5],[4,6,49],⟨[.row 0,.ptr 1 0,.d .bool],[zZ5,.cells 60 [.d k_]]⟩,[]⟩)),(48,(.j ⟨[0,5,51],[4,6,52],⟨[.row 0,.ptr 1 0,.d aL],[zZ5,.cells 60 [.d k_]]⟩,[]⟩))]⟩
def BA:co:=cn t8 ii
def t7:FT:=⟨⟨[.d mS,.d (.sl .str)],[]⟩,⟨[.d .bool],[]⟩,dL [(10,(.j ⟨[17,18],[2,5,19],⟨Gp,abo⟩,[]⟩)),(27,(.j ⟨[30,31],[2,5,32],⟨Gp,abo⟩,[]⟩)),(50,(.j ⟨[52],[10,51,53],⟨[.mp 0,.row 1,.d aL],[.mp .str .bool,zZ5]⟩,[.mpt 10 .str .bool]⟩)),(62,(.j ⟨[12,52,53],[10,51,64],⟨[.mp 0,.row 1,.d .bool],[.mp .str .bool,zZ5]⟩,[.mpt 10 .str .bool]⟩))]⟩
def Bz:co:=cn t7 dV
def tZ:FT:=⟨⟨[.d mS],[]⟩,⟨[.d .bool],[]⟩,dL [(8,(.j ⟨[8,9],[1,3,4,10],⟨[.ptr 0 0,.d aL,.d aL,.d aL],qE⟩,[]⟩)),(20,(.j ⟨[3,4,8,9,10],[1,6,25],⟨qF,[.cells 31 [.d mS],.cells 139 [.d qe]]⟩,[]⟩)),(27,(.j ⟨[8,9,10],[1,3,4,6],⟨[.ptr 0 0,.d aL,.d aL,.ptr 1 0],[.cells 31 [.d mS],.cells 139 [.d qe]]⟩,[]⟩))]⟩
def By:co:=cn tZ gj
def t_:FT:=⟨⟨[.d mS],[]⟩,⟨[.d .bool],[]⟩,dL [(3,(.j ⟨[],[1,34],⟨ic,qE⟩,[]⟩)),(11,(.j ⟨[],[1,44],⟨ic,qE⟩,[]⟩)),(21,(.j ⟨[],[1,58],⟨ic,qE⟩,[]⟩)),(32,(.j ⟨[60,61],[1,62],⟨xK,qE⟩,[]⟩))]⟩
def BB:co:=cn t_ dW
def B4:FT:=⟨⟨[.d mS],[]⟩,⟨[.d Iv],[]⟩,dL [(8,(.j ⟨[20],[2,3,21],⟨yL,arb⟩,[]⟩)),(21,(.j ⟨[],[2,3],⟨[.ptr 0 0,.ptr 1 0],arb⟩,[]⟩))]⟩
def Nj:co:=cn B4 pf
def v9:FT:=⟨⟨[.d mS],[]⟩,⟨[.d je],[]⟩,dL [(8,(.j ⟨[22,23],[2,3,24],⟨yL,[.cells 99 wI,.cells 99 [.d (.sl eB),.d aL,.d qG,.d (.sl iu),.row 2,.row 3,.row 4],.rows 2 af aL,.rows 2 af aL,zZ8]⟩,[]⟩))]⟩
def EE:co:=cn v9 dC
def tB:FT:=⟨⟨[.d qG,.d gH],[]⟩,⟨[.d .bool],[]⟩,dL [(6,(.j ⟨[0,13],[14],⟨[.d aL],[]⟩,[]⟩)),(20,(.j ⟨[0,13,14,17,18],[19],⟨[.d aL],[]⟩,[]⟩)),(31,(.j ⟨[0,13,14,17,18,19],[37],⟨[.d .bool],[]⟩,[]⟩))]⟩
def Az:co:=cn tB cu
def As:FT:=⟨⟨vI,[]⟩,⟨[.d .bool],[]⟩,dL [(2,(.j ⟨[],[4],⟨[.d .bool],[]⟩,[]⟩))]⟩
def LB:co:=cn As fm
def zf:FT:=⟨⟨[.d mS,.d aL,.d aL],[]⟩,⟨[.d .bool],[]⟩,dL [(6,(.j ⟨[2,7],[3,8],⟨ic,qE⟩,[]⟩)),(36,(.j ⟨[2,7],[3,18],⟨ic,qE⟩,[]⟩)),(46,(.j ⟨[2,7],[3,26],⟨ic,qE⟩,[]⟩)),(53,(.j ⟨[],[6],⟨[.d .bool],[]⟩,[]⟩)),(56,(.j ⟨[2,7],[3,43],⟨ic,qE⟩,[]⟩)),(71,(.j ⟨[],[6],⟨[.d .bool],[]⟩,[]⟩)),(74,(.j ⟨[2,7],[3,61],⟨ic,qE⟩,[]⟩)),(92,(.j ⟨[2,7],[3,71],⟨ic,qE⟩,[]⟩)),(102,(.j ⟨[2],[3,79],⟨ic,qE⟩,[]⟩))]⟩
def Il:co:=cn zf mC
def Et:FT:=⟨⟨[.d mS,.d Iv],[]⟩,⟨[.d .bool],[]⟩,dL [(3,(.j ⟨[],[2,31],⟨ic,qE⟩,[]⟩)),(14,(.j ⟨[33,34],[2,35],⟨xK,qE⟩,[]⟩))]⟩
def QJ:co:=cn Et kF
def B2:FT:=⟨⟨[.d mS,.d Iv,.d aL,.d aL,.d aL],[]⟩,⟨[.d .bool],[]⟩,dL [(15,(.j ⟨[],[10],⟨[.d .bool],[]⟩,[]⟩)),(21,(.j ⟨[],[10],⟨[.d .bool],[]⟩,[]⟩)),(24,(.j ⟨[2,4,11],[5,6,60],⟨qF,XZ⟩,[]⟩)),(64,(.j ⟨[2,4,11],[5,6,109],⟨qF,XZ⟩,[]⟩)),(81,(.j ⟨[],[10],⟨[.d .bool],[]⟩,[]⟩)),(87,(.j ⟨[],[10],⟨[.d .bool],[]⟩,[]⟩))]⟩
def Nh:co:=cn B2 pe
def zg:FT:=⟨⟨[.d mS,.d Iv,.d aL,.d aL,.d aL],[]⟩,⟨[.d .bool],[]⟩,dL [(3,(.j ⟨[2,3,4],[5,6,30],⟨qF,XZ⟩,[]⟩)),(25,(.j ⟨[],[10],⟨[.d .bool],[]⟩,[]⟩)),(29,(.j ⟨[],[10],⟨[.d .bool],[]⟩,[]⟩))]⟩
def Im:co:=cn zg jv
def xv:FT:=⟨⟨[.d mS,.d je],[]⟩,⟨[.d .bool],[]⟩,dL [(2,(.j ⟨[],[4],⟨[.d .bool],[]⟩,[]⟩))]⟩
def F1:co:=cn xv lB
def vn:FT:=⟨⟨[.d mS,.d gH],[]⟩,⟨[.d .bool],[]⟩,dL [(3,(.j ⟨[],[2,3,12],⟨qF,[.cells 31 [.d mS],.cells 57 [.d gH]]⟩,[]⟩)),(10,(.j ⟨[],[4],⟨[.d .bool],[]⟩,[]⟩))]⟩
def CU:co:=cn vn jQ
def rq:FT:=⟨⟨[.d mS,.d je,.d gH],[]⟩,⟨[.d .bool],[]⟩,dL [(2,(.j ⟨[],[4,5,7],⟨qF,[.cells 99 [.d je],.cells 57 [.d gH]]⟩,[]⟩)),(4,(.j ⟨[],[4,5,8],⟨anm,Ld8⟩,[]⟩)),(10,(.j ⟨[51],[4,5,8,52],⟨Gr,Ld8⟩,[]⟩)),(22,(.j ⟨[10,51,52],[4,5,8,64],⟨EZ,Ld8⟩,[]⟩)),(34,(.j ⟨[51,52,65,66],[4,5,8,11,67],⟨[.ptr 0 0,.ptr 1 0,.ptr 2 0,.d aL,.d aL],Ld8⟩,[]⟩)),(46,(.j ⟨[13,51,52,65,66,67],[4,5,8,83],⟨EZ,Ld8⟩,[]⟩))]⟩
def yG:co:=cn rq fd
def vm:FT:=⟨⟨[.d je,.d gH],[]⟩,⟨[.d .bool],[]⟩,dL [(21,(.j ⟨[],[4],⟨[.d .bool],[]⟩,[]⟩)),(24,(.j ⟨[13],[2,3,46],⟨qF,[.cells 99 [.d je],.cells 57 [.d gH]]⟩,[]⟩)),(43,(.j ⟨[53,54],[3,5,6,55],⟨[.ptr 0 0,.d aL,.d .bool,.d aL],abl⟩,[]⟩)),(51,(.j ⟨[53,54,55],[3,5,6],⟨[.ptr 0 0,.d aL,.d .bool],abl⟩,[]⟩)),(54,(.j ⟨[5,6,7,53,54,55],[3,69],⟨ic,abl⟩,[]⟩)),(62,(.j ⟨[],[4],⟨[.d .bool],[]⟩,[]⟩)),(74,(.j ⟨[94,95],[3,9,96],⟨US,abl⟩,[]⟩)),(82,(.j ⟨[94,95,96],[3,9],⟨xK,abl⟩,[]⟩)),(85,(.j ⟨[9,94,95,96],[3,109],⟨ic,abl⟩,[]⟩))]⟩
def CS:co:=cn vm gK
def B1:FT:=⟨⟨[.d iu,.d aL],[]⟩,⟨[.d .bool],[]⟩,dL [(2,(.j ⟨[],[4],⟨[.d .bool],[]⟩,[]⟩))]⟩
def Ng:co:=cn B1 mP
def Tz:FT:=⟨⟨[.d qG],[]⟩,⟨[.d qG],[]⟩,.leaf⟩
def AE:co:=cn Tz JO
def aj5:co:=⟨AE.pre,AE.post,PC⟩
def OP:FT:=⟨⟨[.d qG],[]⟩,⟨[.row 0],[zZ2]⟩,dL [(8,(.a [.nil 2 4 .bool])),(12,(.a [.nil 2 4 .bool]))]⟩
def xG:co:=cn OP Fu
def aff:co:=⟨xG.pre,xG.post,JN⟩
def Tw:FT:=⟨⟨[.d (.sl iu)],[]⟩,⟨[.d (.sl iu)],[]⟩,.leaf⟩
def AC:co:=cn Tw JL
def aj2:co:=⟨AC.pre,AC.post,PA⟩
def ON:FT:=⟨⟨[.d (.sl iu)],[]⟩,⟨[.row 0],[zZ6]⟩,dL [(8,(.a [.nil 2 178 iu])),(12,(.a [.nil 2 178 iu]))]⟩
def xE:co:=cn ON Fs
def afc:co:=⟨xE.pre,xE.post,JK⟩
def OO:FT:=⟨⟨ne,[]⟩,⟨[.row 0],[zZ0]⟩,dL [(8,(.a [.nil 2 2 aL])),(12,(.a [.nil 2 2 aL]))]⟩
def xF:co:=cn OO Ft
def afe:co:=⟨xF.pre,xF.post,zY⟩
def B3:FT:=⟨⟨[.d Iv],[]⟩,⟨[.agg Iu],Ld6⟩,dL [(8,(.j ⟨[11,12],[1,2,3,13],⟨[.ptr 0 0,.ptr 1 0,.row 2,.d aL],[.cells 96 [.d Iv],.cells 96 C6,.rows 176 af eB]⟩,[]⟩))]⟩
def Ni:co:=cn B3 kT
def At:FT:=⟨⟨[.agg Iu,.d aL,.d aL],Ld6⟩,⟨[.d aL],Ld6⟩,dL [(8,(.j ⟨[1,2,12],[3,7,11,13],⟨[.ptr 3 0,.d aL,.row 2,.d aL],Ld5⟩,[]⟩)),(16,(.j ⟨[1,2,12,13],[3,7,11],⟨[.ptr 3 0,.d aL,.row 2],Ld5⟩,[]⟩)),(19,(.j ⟨[1,2,7,8,12,13],[3,11,29],⟨[.ptr 3 0,.row 2,.d .bool],Ld5⟩,[]⟩)),(25,(.j ⟨[7],[],⟨[],Ld6⟩,[]⟩))]⟩
def LC:co:=cn At jV
def v_:FT:=⟨⟨[.agg Iu,.d aL],Ld6⟩,⟨[.d aL],Ld6⟩,dL [(8,(.j ⟨[1,10],[2,5,9,11],⟨[.ptr 3 0,.d aL,.row 2,.d aL],Ld5⟩,[]⟩)),(16,(.j ⟨[1,10,11],[2,5,9],⟨[.ptr 3 0,.d aL,.row 2],Ld5⟩,[]⟩))]⟩
def EJ:co:=cn v_ h_
def Ax:FT:=⟨⟨[.d aL],[]⟩,⟨[.d .bool],[]⟩,.leaf⟩
def LM:co:=cn Ax qY
def B9:FT:=⟨⟨vI,[]⟩,⟨[.d .bool],[]⟩,dL [(2,(.j ⟨[],[4],⟨[.d .bool],[]⟩,[]⟩))]⟩
def Np:co:=cn B9 wB
def xB:FT:=⟨⟨[.d (.int .u64)],[]⟩,⟨[.d aL],[]⟩,.leaf⟩
def F_:co:=cn xB r9
def Aw:FT:=⟨⟨[.d (.int .u64)],[]⟩,⟨[.d aL],[]⟩,.leaf⟩
def LI:co:=cn Aw uV
def oO:FT:=⟨⟨[.row 0,.d aL,.d aL],Ra⟩,⟨[],Ra⟩,dL [(3,(.j ⟨[1,2],[0,6],⟨Rb,Ra⟩,[]⟩)),(15,(.j ⟨[1,2,6],[0,7],⟨Rb,Ra⟩,[]⟩)),(17,(.j ⟨[1,2,6,7],[0,30],⟨[.row 0,.d .bool],Ra⟩,[]⟩))]⟩
def vF:co:=cn oO gg
def tY:FT:=⟨⟨[.row 0,.d aL,.d aL,.d aL],Ra⟩,⟨[],Ra⟩,dL [(5,(.j ⟨[],[0,1,2,3,8,9],⟨[.row 0,.d aL,.d aL,.d aL,.d .bool,.d .bool],Ra⟩,[]⟩))]⟩
def Bx:co:=cn tY jA
def OM:FT:=⟨⟨[.row 0],Ra⟩,⟨[],Ra⟩,.leaf⟩
def aay:co:=cn OM xh
def ED:FT:=⟨⟨[.row 0],Ra⟩,⟨[.row 0],Ra⟩,dL [(14,(.j ⟨[],[0,3],⟨Rb,Ra⟩,[]⟩))]⟩
def QY:co:=cn ED mm
def zh:FT:=⟨⟨[.d aL,.ptr 0 0],[.cells 3 [.d aL]]⟩,⟨[.d .bool],[.cells 3 [.d aL]]⟩,.leaf⟩
def In:co:=cn zh px
def Ay:FT:=⟨⟨[.row 0,.clo 143 1 0],Ld9⟩,⟨[.d aL],Ld9⟩,dL [(6,(.j ⟨[7],[0,1,8],⟨[.row 0,.clo 143 1 0,.d aL],Ld9⟩,[]⟩))]⟩
def LN:co:=cn Ay nX
def zm:FT:=⟨⟨[.row 0,.clo 143 1 0],Ld9⟩,⟨[.row 2],[.gone,.cells 3 [.d aL],zZ8]⟩,dL [(16,(.j ⟨[],[0,1,5,6],⟨[.row 0,.clo 143 1 0,.d aL,.d aL],Ld9⟩,[]⟩)),(24,(.j ⟨[6],[0,1,5],⟨[.row 0,.clo 143 1 0,.d aL],Ld9⟩,[]⟩))]⟩
def Ir:co:=cn zm jw
def oc:FT:=⟨⟨[.d mS,.d Iv,.d aL,.d aL,.d aL,.d aL],[]⟩,⟨[.d Iv,.d aL,.d .bool],[]⟩,dL [(17,(.j ⟨[],[7,12,15],⟨yL,[.cells 96 [.row 2,.d aL,.row 3,.row 4],.cells 96 C6,.rows 176 af eB,zZ2,zZ6]⟩,[]⟩)),(26,(.j ⟨[4,5,15,27],[6,7,8,12,42],⟨AH,arc⟩,[]⟩)),(34,(.j ⟨[4,5,15,27],[6,7,8,12,51],⟨AH,arc⟩,[]⟩))]⟩
def LG:co:=cn oc ia
def Au:FT:=⟨⟨[.d Iv],[]⟩,⟨[.agg [.csl 0 2 3,.d aL,.d qG,.d (.sl iu)]],[.cells 176 [.d aL,.row 1,.d aL,.row 2,.d aL,.row 3],zZ1,zZ1,zZ1]⟩,dL [(7,(.j ⟨[],[1,2,3],⟨[.ptr 0 0,.ptr 1 0,.csl 2 2 3],[.cells 96 [.d Iv],.cells 96 C6,.cells 176 [.d aL,.row 3,.d aL,.row 4,.d aL,.row 5],zZ1,zZ1,zZ1]⟩,[.cel 3 1 3 aL,.cel 3 3 3 aL,.cel 3 5 3 aL]⟩)),(8,(.u 4))]⟩
def LD:co:=cn Au nW
def Av:FT:=⟨⟨[.d mS,.d Iv,.d aL,.d aL,.d aL,.d aL],[]⟩,⟨[.d Iv,.d aL,.d .bool],[]⟩,dL [(17,(.j ⟨[],[7,12,15],⟨yL,[.cells 96 [.csl 2 2 3,.d aL,.d qG,.d (.sl iu)],.cells 96 C6,.cells 176 [.d eB,.d eB,.d aL,.row 3],.rowsP 3 aL]⟩,[]⟩)),(26,(.j ⟨[4,5,15,27],[6,7,8,12,42],⟨AH,[.cells 31 [.d mS],.cells 96 [.csl 4 2 3,.d aL,.d qG,.d (.sl iu)],.cells 3 [.d aL],.cells 96 C6,.cells 176 [.d aL,.row 5,.d aL,.row 6,.d aL,.row 7],zZ1,zZ1,zZ1]⟩,[]⟩)),(33,(.s 4 0 0 0)),(34,(.j ⟨[4,5,15,27],[6,7,8,12,51],⟨AH,[.cells 31 [.d mS],.cells 96 [.csl 4 2 3,.d aL,.d qG,.d (.sl iu)],.cells 3 [.d aL],.cells 96 C6,.cells 176 [.d aL,.d (.sl aL),.d aL,.d (.sl aL),.d aL,.row 5],zZ1]⟩,[]⟩)),(41,(.s 4 0 0 0)),(46,(.s 4 0 0 3)),(53,(.s 4 0 0 3)),(74,(.s 4 0 0 0)),(80,(.s 4 0 0 0)),(100,(.a [.pk 7 0 eB]))]⟩
def LF:co:=cn Av lH
def Nk:co:=cn oc sJ
def xw:FT:=⟨⟨[.d mS,.d je,.d gH],[]⟩,⟨[.d je,.d .bool],[]⟩,dL [(3,(.j ⟨[],[3,4,5,6,39],⟨AH,L8⟩,[]⟩)),(11,(.j ⟨[],[3,4,5,6,70],⟨AH,L8⟩,[]⟩)),(20,(.j ⟨[],[3,4,5,6,8],⟨[.ptr 0 0,.ptr 1 0,.ptr 2 0,.ptr 3 0,.d aL],L8⟩,[]⟩)),(41,(.j ⟨[],[5,6,12],⟨anm,anq⟩,[]⟩))]⟩
def F3:co:=cn xw gd
def vq:FT:=⟨⟨[.d mV],[]⟩,⟨vI,[]⟩,dL [(26,(.j ⟨[27,28],[1,4,5,29],⟨[.ptr 0 0,.ptr 1 0,.csl 2 1 1,.d aL],[.cells 34 [.d mV],.cells 99 [.d je],.cells 93 [.row 3],zZ2]⟩,[.cel 5 0 4 .bool]⟩)),(40,(.j ⟨[6,27,28,29],[1,4,5,7,8,53],⟨[.ptr 0 0,.ptr 1 0,.csl 2 1 1,.ptr 3 0,.ptr 4 0,.d .bool],[.cells 34 [.d mV],.cells 99 [.d je],.cells 93 [.row 5],.cells 57 [.d gH],.cells 99 [.d je],zZ2]⟩,[]⟩)),(41,(.s 7 0 0 1)),(47,(.j ⟨[27,28,29],[1,4,5,8],⟨[.ptr 0 0,.ptr 1 0,.csl 2 1 1,.ptr 3 0],[.cells 34 [.d mV],.cells 99 [.d je],.cells 93 [.row 4],.cells 99 [.d je],zZ2]⟩,[]⟩)),(48,(.s 7 0 0 1))]⟩
def CY:co:=cn vq eH
def vp:FT:=⟨⟨[.d mV],[]⟩,⟨vI,[]⟩,dL [(26,(.j ⟨[27,28],[1,4,5,29],⟨[.ptr 0 0,.ptr 1 0,.csl 2 1 2,.d aL],[.cells 34 [.d mV],.cells 99 [.d je],.cells 93 [.row 3,.row 4],zZ2,zZ2]⟩,[.cel 5 0 4 .bool,.cel 5 1 4 .bool]⟩)),(40,(.j ⟨[6,27,28,29],[1,4,5,7,8,53],⟨[.ptr 0 0,.ptr 1 0,.csl 2 1 2,.ptr 3 0,.ptr 4 0,.d .bool],[.cells 34 [.d mV],.cells 99 [.d je],.cells 93 [.row 5,.row 6],.cells 57 [.d gH],.cells 99 [.d je],zZ2,zZ2]⟩,[]⟩)),(41,(.s 7 0 0 2)),(47,(.j ⟨[27,28,29],[1,4,5,8],⟨[.ptr 0 0,.ptr 1 0,.csl 2 1 2,.ptr 3 0],[.cells 34 [.d mV],.cells 99 [.d je],.cells 93 [.row 4,.row 5],.cells 99 [.d je],zZ2,zZ2]⟩,[]⟩)),(48,(.s 7 0 0 2))]⟩
def CX:co:=cn vp dD
def vo:FT:=⟨⟨[.d mV],[]⟩,⟨vI,[]⟩,dL [(26,(.j ⟨[27,28],[1,4,5,29],⟨[.ptr 0 0,.ptr 1 0,.csl 2 1 3,.d aL],[.cells 34 [.d mV],.cells 99 [.d je],.cells 93 [.row 3,.row 4,.row 5],zZ2,zZ2,zZ2]⟩,[.cel 5 0 4 .bool,.cel 5 1 4 .bool,.cel 5 2 4 .bool]⟩)),(40,(.j ⟨[6,27,28,29],[1,4,5,7,8,53],⟨[.ptr 0 0,.ptr 1 0,.csl 2 1 3,.ptr 3 0,.ptr 4 0,.d .bool],[.cells 34 [.d mV],.cells 99 [.d je],.cells 93 [.row 5,.row 6,.row 7],.cells 57 [.d gH],.cells 99 [.d je],zZ2,zZ2,zZ2]⟩,[]⟩)),(41,(.s 7 0 0 3)),(47,(.j ⟨[27,28,29],[1,4,5,8],⟨[.ptr 0 0,.ptr 1 0,.csl 2 1 3,.ptr 3 0],[.cells 34 [.d mV],.cells 99 [.d je],.cells 93 [.row 4,.row 5,.row 6],.cells 99 [.d je],zZ2,zZ2,zZ2]⟩,[]⟩)),(48,(.s 7 0 0 3))]⟩
def CW:co:=cn vo dT
def fe:FT:=⟨⟨[.d mV],[]⟩,⟨vI,[]⟩,dL [(26,(.j ⟨[27,28],[1,4,5,29],⟨[.ptr 0 0,.ptr 1 0,.csl 2 1 4,.d aL],[.cells 34 [.d mV],.cells 99 [.d je],.cells 93 [.row 3,.row 4,.row 5,.row 6],zZ2,zZ2,zZ2,zZ2]⟩,[.cel 5 0 4 .bool,.cel 5 1 4 .bool,.cel 5 2 4 .bool,.cel 5 3 4 .bool]⟩)),(40,(.j ⟨[6,27,28,29],[1,4,5,7,8,53],⟨[.ptr 0 0,.ptr 1 0,.csl 2 1 4,.ptr 3 0,.ptr 4 0,.d .bool],[.cells 34 [.d mV],.cells 99 [.d je],.cells 93 [.row 5,.row 6,.row 7,.row 8],.cells 57 [.d gH],.cells 99 [.d je],zZ2,zZ2,zZ2,zZ2]⟩,[]⟩)),(41,(.s 7 0 0 4)),(47,(.j ⟨[27,28,29],[1,4,5,8],⟨[.ptr 0 0,.ptr 1 0,.csl 2 1 4,.ptr 3 0],[.cells 34 [.d mV],.cells 99 [.d je],.cells 93 [.row 4,.row 5,.row 6,.row 7],.cells 99 [.d je],zZ2,zZ2,zZ2,zZ2]⟩,[]⟩)),(48,(.s 7 0 0 4))]⟩
def CV:co:=cn fe eE
def EG:co:=cn fe mW
def Lm:FT:=⟨⟨[.d mV],[]⟩,⟨[.d vx,.d aL],[]⟩,dL [(20,(.j ⟨[25,26],[1,6,7,27],⟨[.ptr 0 0,.ptr 1 0,.row 2,.d aL],[.cells 34 [.d mV],.cells 78 [.d Kd0],zZ3]⟩,[]⟩))]⟩
def Xz:co:=cn Lm p_
theorem uA:aH Pg 33 aax:=mk OL gR an b_
theorem R2 x:lY (kJ x) (zU x):=by
 unfold kJ zU v7 ck bw bB aX cQ aD cJ;with_reducible repeat' first|(refine OI.o ?_;constructor)|intro _
theorem S1:aH Pg 67 Ux:=zF HM kJ zU R2 (ac uA an) b_
theorem PW:aH Pg 56 aiq:=mk YZ yd an b_
theorem ZF x:lY (qm x) (Fm x):=by
 unfold qm Fm FL ck bw bB aX cQ aD cJ;with_reducible repeat' first|(refine OI.o ?_;constructor)|intro _
theorem ZR:aH Pg 52 aaa:=zF Oq qm Fm ZF (ac PW an) b_
theorem ai9:aH Pg 102 EP:=mk Y5 PD an b_
theorem aem:aH Pg 102 amr:= @aH.sub Pg 102 EP.pre EP.post PD CH ai9 rfl (λx y h=>sB (b:=8) x y h)
theorem VO x:lY (iG x) (Cy x):=by
 unfold iG Cy yk ck bw wQ bB aX cQ aD cJ;with_reducible repeat' first|(refine OI.o ?_;constructor)|intro _
theorem Wy:aH Pg 103 Xw:=zF Lj iG Cy VO (ac aem an) b_
theorem aei:aH Pg 102 AD:=mk Tx JM an b_
theorem Qb:aH Pg 102 aj4:= @aH.sub Pg 102 AD.pre AD.post JM py aei rfl (λx y h=>sB (b:=8) x y h)
theorem Wz:aH Pg 64 Xx:=mk Lk uW (ac Qb (ac Wy an)) b_
theorem Z0:aH Pg 66 aas:=mk OH ux an b_
theorem WA:aH Pg 65 Xy:=mk Ll uX (ac Z0 an) b_
theorem ZH x:lY (qu x) (Fp x):=by
 unfold qu Fp Bb aY bi bx cI dY lh qH ck bw bB aX cQ aD cJ;with_reducible repeat' first|(refine OI.o ?_;constructor)|intro _
theorem Z2:aH Pg 30 aau:=zF OK qu Fp ZH an b_
theorem S0:aH Pg 68 Uw:=mk HL s_ an b_
theorem aeh:aH Pg 102 afd:=mk xC xi an b_
theorem YN:aH Pg 102 aj3:= @aH.ro Pg 102 xC.pre xC.post.vs xi vS (aeh.holds rfl) rfl (λx _ h=>by rw[show vS x=au (xi x) λy=>same y.2 x (M y.1) from hP (au _) (funext λ_=>RG ..)]at h;exact h)
theorem ahr x:lY (uj x) (Px x):=by
 unfold uj Px I0 ck bw bB aX cQ aD cJ;with_reducible repeat' first|(refine OI.o ?_;constructor)|intro _
theorem ai6:aH Pg 67 aj1:=zF Bf uj Px ahr (ac uA an) b_
theorem aee:aH Pg 67 amq:= @aH.ro Pg 67 Bf.pre Bf.post.vs uj CG (ai6.holds rfl) rfl (λx _ h=>by rw[show CG x=au (uj x) λy=>same y.2 x.2 (M y.1) from hP (au _) (funext λ_=>RG ..)]at h;exact h)
theorem Wx:aH Pg 104 Xv:=mk Li ml (ac aee an) b_
theorem aec:aH Pg 105 af8:=mk Tr xf (ac YN an) b_
theorem ZG x:lY (sa x) (Fo x):=by
 unfold sa Fo Ba E6 Prod.p11 Prod.p12 Prod.p13 Prod.p14 Prod.p15 Prod.p16 Prod.p17 aY bi bx cI dY lh AM Db Prod.q10 Prod.q16 Prod.q17 Prod.q18 cY kA Prod.q9 ck bg bw iZ wQ bB aX cQ aD cJ;with_reducible repeat' first|(refine OI.o ?_;constructor)|intro _
theorem Z1:aH Pg 69 aat:=zF OJ sa Fo ZG (ac aee (ac YN (ac Wx (ac aec an)))) b_
theorem adk x:lY (s9 x) (JH x):=by
 unfold s9 JH DX E6 Prod.p11 aY bi bx cI dY lh AM Db Prod.q11 Prod.q12 cY fG qH Prod.q9 ck bw wQ bB aX cQ cJ;with_reducible repeat' first|(refine OI.o ?_;constructor)|intro _
theorem aed:aH Pg 31 af9:=zF Ts s9 JH adk (ac Wz (ac WA (ac S1 (ac S0 (ac Z1 an))))) b_
theorem Wb:aH Pg 57 WU:=mk KP uN an b_
theorem ZD x:lY (ql x) (Fl x):=by
 unfold ql Fl A_ ck bw iZ bB aX cQ aD;with_reducible repeat' first|(refine OI.o ?_;constructor)|intro _
theorem ZO:aH Pg 54 aa7:=zF Om ql Fl ZD (ac Wb an) b_
theorem ade x:lY (wY x) (JG x):=by
 unfold wY JG Ki bw aX cQ aD cJ;with_reducible repeat' first|(refine OI.o ?_;constructor)|intro _
theorem ae9:aH Pg 55 aez:=zF Tn wY JG ade (ac PW an) b_
theorem ZQ:aH Pg 25 aa9:=mk Oo Fq (ac ae9 an) b_
theorem J2:aH Pg 132 WP:=mk KL rT an b_
theorem MI:aH Pg 88 M8:=mk BT pd (ac J2 an) b_
theorem MG:aH Pg 89 M5:=mk BQ o_ (ac J2 an) b_
theorem Fk x:lY (lD x) (rS x):=by
 unfold lD rS sq E6 Prod.p11 Prod.p12 Prod.p13 Prod.p14 Prod.p15 Prod.p16 Prod.p17 Prod.p18 Prod.p19 aY Prod.p20 bi bx cI dY lh AM Db Prod.q21 bw bB cQ aD cJ;with_reducible repeat' first|(refine OI.o ?_;constructor)|intro _
theorem FB:aH Pg 166 F4:=zF xx lD rS Fk an b_
theorem Mt x:lY (o8 x) (ww x):=by
 unfold o8 ww wE bg bw iZ bB aX cQ aD;with_reducible repeat' first|(refine OI.o ?_;constructor)|intro _
theorem MD:aH Pg 133 M2:=zF BN o8 ww Mt (ac FB an) b_
theorem VS x:lY (sd x) (CC x):=by
 unfold sd CC yq bg bw bC aX cQ aD cJ;with_reducible repeat' first|(refine OI.o ?_;constructor)|intro _
theorem WE:aH Pg 198 XE:=zF Lo sd CC VS an b_
theorem MZ:aH Pg 167 Nr:=mk B' kU (ac WE an) b_
theorem BJ:aH Pg 34 Nq:=mk B_ eT (ac uA an) b_
theorem Ia:aH Pg 134 Ip:=mk zk tK an b_
theorem Ib:aH Pg 92 Iq:=mk zl tL (ac Ia an) b_
theorem Bp x:lY (ii x) (oU x):=by
 unfold ii oU oY aY bi bx cI dG fG bg bw jk bB bC aX cQ aD cJ;with_reducible repeat' first|(refine OI.o ?_;constructor)|intro _
theorem Bv:aH Pg 90 BA:=zF t8 ii oU Bp an b_
theorem Bo x:lY (dV x) (oS x):=by
 unfold dV oS oX aY bi bx bw bB bC kZ aX cQ aD cJ;with_reducible repeat' first|(refine OI.o ?_;constructor)|intro _
theorem Bu:aH Pg 91 Bz:=zF t7 dV oS Bo (ac MD an) b_
theorem Bn x:lY (gj x) (oR x):=by
 unfold gj oR lw aY bi cI cY bw jk bC aX cQ aD cJ;with_reducible repeat' first|(refine OI.o ?_;constructor)|intro _
theorem Bt:aH Pg 93 By:=zF tZ gj oR Bn an b_
theorem Bq x:lY (dW x) (oV x):=by
 unfold dW oV lx aY bi cI cY bw bC aX cQ aD cJ;with_reducible repeat' first|(refine OI.o ?_;constructor)|intro _
theorem lm:aH Pg 59 BB:=zF t_ dW oV Bq (ac Bv (ac Bu (ac Ib (ac Bt an)))) b_
theorem Mw x:lY (pf x) (wz x):=by
 unfold pf wz wF aY bi bx bP dG cY ck bw bB aX cQ aD cJ;with_reducible repeat' first|(refine OI.o ?_;constructor)|intro _
theorem MT:aH Pg 94 Nj:=zF B4 pf wz Mw an b_
theorem Dx x:lY (dC x) (qM x):=by
 unfold dC qM rh aY bi bx dG bw bB bC aX cQ aD cJ;with_reducible repeat' first|(refine OI.o ?_;constructor)|intro _
theorem mX:aH Pg 60 EE:=zF v9 dC qM Dx (ac MT an) b_
theorem zP x:lY (cu x) (nD x):=by
 unfold cu nD kM dY kA bw iZ bB bC aX cQ aD cJ;with_reducible repeat' first|(refine OI.o ?_;constructor)|intro _
theorem kL:aH Pg 62 Az:=zF tB cu nD zP an b_
theorem vb:aH Pg 136 LB:=mk As fm an b_
theorem H_:aH Pg 137 Il:=mk zf mC (ac vb an) b_
theorem Ps x:lY (kF x) (ya x):=by
 unfold kF ya ul aY bi bx dG bw jk bC aX cQ aD cJ;with_reducible repeat' first|(refine OI.o ?_;constructor)|intro _
theorem DQ:aH Pg 135 QJ:=zF Et kF ya Ps (ac vb an) b_
theorem MR:aH Pg 138 Nh:=mk B2 pe (ac MZ an) b_
theorem tM:aH Pg 96 Im:=mk zg jv (ac DQ (ac vb (ac H_ (ac MR an)))) b_
theorem FA:aH Pg 95 F1:=mk xv lB (ac DQ an) b_
theorem CJ:aH Pg 97 CU:=mk vn jQ an b_
theorem x_ x:lY (fd x) (mh x):=by
 unfold fd mh jH aY bi bx cI bP dG fG bg bw iZ bB bC aX cQ aD cJ;with_reducible repeat' first|(refine OI.o ?_;constructor)|intro _
theorem yg:aH Pg 98 yG:=zF rq fd mh x_ an b_
theorem Cq x:lY (gK x) (pJ x):=by
 unfold gK pJ mn aY bi bx cI bP bg bw bC aX cQ aD cJ;with_reducible repeat' first|(refine OI.o ?_;constructor)|intro _
theorem CI:aH Pg 99 CS:=zF vm gK pJ Cq an b_
theorem BH:aH Pg 173 Ng:=mk B1 mP an b_
theorem ael:aH Pg 168 AE:=mk Tz JO an b_
theorem ai8:aH Pg 168 aj5:= @aH.sub Pg 168 AE.pre AE.post JO PC ael rfl (λx y h=>sB (b:=1) x y h)
theorem Z7:aH Pg 168 xG:=mk OP Fu an b_
theorem aek:aH Pg 168 aff:= @aH.sub Pg 168 xG.pre xG.post Fu JN Z7 rfl (λx y h=>sB (b:=1) x y h)
theorem aeg:aH Pg 169 AC:=mk Tw JL an b_
theorem ai7:aH Pg 169 aj2:= @aH.sub Pg 169 AC.pre AC.post JL PA aeg rfl (λx y h=>sB (b:=24) x y h)
theorem Z5:aH Pg 169 xE:=mk ON Fs an b_
theorem aef:aH Pg 169 afc:= @aH.sub Pg 169 xE.pre xE.post Fs JK Z5 rfl (λx y h=>sB (b:=24) x y h)
theorem Z6:aH Pg 101 xF:=mk OO Ft an b_
theorem aej:aH Pg 101 afe:= @aH.sub Pg 101 xF.pre xF.post Ft zY Z6 rfl (λx y h=>sB (b:=8) x y h)
theorem Mv x:lY (kT x) (wy x):=by
 unfold kT wy sQ aY bP ck bw bB bC aX cQ cJ;with_reducible repeat' first|(refine OI.o ?_;constructor)|intro _
theorem MS:aH Pg 139 Ni:=zF B3 kT wy Mv (ac aem (ac aek (ac aef an))) b_
theorem JA x:lY (jV x) (uI x):=by
 unfold jV uI rk aY bi bP ck bw iZ kZ aX cQ aD cJ;with_reducible repeat' first|(refine OI.o ?_;constructor)|intro _
theorem Ka:aH Pg 144 LC:=zF At jV uI JA (ac BH an) b_
theorem Dy x:lY (h_ x) (qN x):=by
 unfold h_ qN mZ aY bi bP dG ck bw kZ aX cQ aD cJ;with_reducible repeat' first|(refine OI.o ?_;constructor)|intro _
theorem DP:aH Pg 145 EJ:=zF v_ h_ qN Dy (ac BH an) b_
theorem Kg:aH Pg 226 LM:=mk Ax qY an b_
theorem MY:aH Pg 205 Np:=mk B9 wB (ac Kg an) b_
theorem FI:aH Pg 209 F_:=mk xB r9 an b_
theorem Ke:aH Pg 171 LI:=mk Aw uV (ac FI an) b_
theorem vC x:lY (gg x) (ko x):=by
 unfold gg ko kq ck bw kZ cQ aD cJ;with_reducible repeat' first|(refine OI.o ?_;constructor)|intro _
theorem vD:aH Pg 199 vF:=zF oO gg ko vC (ac MY an) b_
theorem Bm x:lY (jA x) (oP x):=by
 unfold jA oP oW aY bi bg iZ bB aD;with_reducible repeat' first|(refine OI.o ?_;constructor)|intro _
theorem Bs:aH Pg 170 Bx:=zF tY jA oP Bm (ac vD an) b_
theorem Z4:aH Pg 140 aay:=mk OM xh (ac Bs (ac Ke an)) b_
theorem Pv x:lY (mm x) (yc x):=by
 unfold mm yc yr bg bw bB kZ aX cQ aD cJ;with_reducible repeat' first|(refine OI.o ?_;constructor)|intro _
theorem Qa:aH Pg 141 QY:=zF ED mm yc Pv an b_
theorem yU:aH Pg 143 In:=mk zh px an b_
theorem JE x:lY (nX x) (uJ x):=by
 unfold nX uJ vj bw kZ aX cQ aD cJ;with_reducible repeat' first|(refine OI.o ?_;constructor)|intro _
theorem Kh:aH Pg 172 LN:=zF Ay nX uJ JE (ac yU an) b_
theorem H0 x:lY (jw x) (tJ x):=by
 unfold jw tJ tO ck bg bw bB kZ aX cQ aD cJ;with_reducible repeat' first|(refine OI.o ?_;constructor)|intro _
theorem Ic:aH Pg 142 Ir:=zF zm jw tJ H0 (ac yU (ac Kh an)) b_
theorem Kd:aH Pg 100 LG:=mk oc ia (ac tM (ac MS (ac Ka (ac DP an)))) b_
def tv2 (t:TypeId):I Ty:=if aB t 176 then M (.pr .un (.pr .un (.pr .un (.pr .un eB)))) else b_ t
theorem Kb:aH Pg 139 LD:=mk Au nW (ac Qb (ac ai8 (ac ai7 an))) tv2
theorem Kc:aH Pg 100 LF:=mk Av lH (ac tM (ac Kb (ac Z4 (ac Qa (ac Ic an))))) tv2
theorem MU:aH Pg 100 Nk:=(aH.orE (pre:=oc.pre) (post:=oc.post) (m:=ia) (m':=lH) rfl Kd Kc)
theorem oC:aH Pg 61 F3:=mk xw gd (ac FA (ac tM (ac CJ (ac yg (ac CI (ac MU (ac aej (ac Qb an)))))))) b_
def tv3 (t:TypeId):I Ty:=if aB t 93 then M (.pr .un (.pr .un qG)) else b_ t
theorem Cv x:lY (eH x) (pO x):=by
 unfold eH pO mo aY bi bx bP cY bg bw bB bC aX cQ aD cJ;with_reducible repeat' first|(refine OI.o ?_;constructor)|intro _
theorem CO:aH Pg 29 CY:=zF vq eH pO Cv (ac lm (ac mX (ac oC (ac kL an)))) tv3
def tv4 (t:TypeId):I Ty:=if aB t 93 then M (.pr .un (.pr .un (.pr .un qG))) else b_ t
theorem Cu x:lY (dD x) (pN x):=by
 unfold dD pN j6 aY bi bx cI bP dG fG bg bw bB bC aX cQ aD cJ;with_reducible repeat' first|(refine OI.o ?_;constructor)|intro _
theorem CM:aH Pg 29 CX:=zF vp dD pN Cu (ac lm (ac mX (ac oC (ac kL an)))) tv4
def tv5 (t:TypeId):I Ty:=if aB t 93 then M (.pr .un (.pr .un (.pr .un (.pr .un qG)))) else b_ t
theorem Ct x:lY (dT x) (pM x):=by
 unfold dT pM jZ aY bi bx cI dY bP cY fG kA bg bw bB bC aX cQ aD cJ;with_reducible repeat' first|(refine OI.o ?_;constructor)|intro _
theorem CL:aH Pg 29 CW:=zF vo dT pM Ct (ac lm (ac mX (ac oC (ac kL an)))) tv5
def tv6 (t:TypeId):I Ty:=if aB t 93 then M (.pr .un (.pr .un (.pr .un (.pr .un (.pr .un qG))))) else b_ t
theorem Cr x:lY (eE x) (pK x):=by
 unfold eE pK jY aY bi bx cI dY lh bP fG kA qH bg bw bB bC aX cQ aD cJ;with_reducible repeat' first|(refine OI.o ?_;constructor)|intro _
theorem CK:aH Pg 29 CV:=zF fe eE pK Cr (ac lm (ac mX (ac oC (ac kL an)))) tv6
theorem DM:aH Pg 29 EG:=(aH.orE (pre:=fe.pre) (post:=fe.post) (m:=eE) (m':=(λx=>orE (dT x) ((λx=>orE (dD x) (eH x)) x))) rfl CK (aH.orE (pre:=fe.pre) (post:=fe.post) (m:=dT) (m':=(λx=>orE (dD x) (eH x))) rfl CL (aH.orE (pre:=fe.pre) (post:=fe.post) (m:=dD) (m':=eH) rfl CM CO)))
theorem VP x:lY (p_ x) (Cz x):=by
 unfold p_ Cz yl aY bP ck bw jk bB bC aX cQ aD cJ;with_reducible repeat' first|(refine OI.o ?_;constructor)|intro _
theorem WC:aH Pg 15 Xz:=zF Lm p_ Cz VP (ac DM (ac Z2 (ac aed an))) b_
abbrev Le0:Y PB:=[.cells 31 [.d mS],zZ1,.cells 57 [.d gH],.cells 57 [.d gH]]
abbrev Le1:Y PB:=[.cells 34 [.d mV],zZ4]
abbrev Le2:Y PB:=[.cells 31 [.d mS],zZ1,.cells 57 [.d gH]]
abbrev Le3:Y PV:=[.ptr 0 0,.row 1,.ptr 2 0,.ptr 3 0,.d .bool]
abbrev Le4:Y PB:=[.cells 31 [.d mS],zZ1]
abbrev Le5:Y PV:=[.d (.sl gH),.d aL]
def Ha:FT:=⟨⟨[.d gH],[]⟩,⟨[.d .bool],[]⟩,dL [(2,(.j ⟨[],[2],⟨[.d .bool],[]⟩,[]⟩))]⟩
def TK:co:=cn Ha lZ
def BP:FT:=⟨⟨[.d mS,.d gH],[]⟩,⟨[.d .bool],[]⟩,dL [(2,(.j ⟨[],[4],⟨[.d .bool],[]⟩,[]⟩))]⟩
def M4:co:=cn BP mI
def BS:FT:=⟨⟨[.d gH,.d gH],[]⟩,⟨[.d .bool],[]⟩,dL [(2,(.j ⟨[],[4],⟨[.d .bool],[]⟩,[]⟩))]⟩
def M7:co:=cn BS pa
def BR:FT:=⟨⟨Le5,[]⟩,⟨[.d aL],[]⟩,dL [(6,(.j ⟨[0,1],[5],⟨[.d aL],[]⟩,[]⟩))]⟩
def M6:co:=cn BR mJ
def G9:FT:=⟨⟨Le5,[]⟩,⟨[.d aL],[]⟩,dL [(8,(.j ⟨[0,1],[5,6],⟨vI,[]⟩,[]⟩)),(16,(.j ⟨[0,1,6],[5],⟨[.d aL],[]⟩,[]⟩))]⟩
def TE:co:=cn G9 sY
def KK:FT:=⟨⟨Le5,[]⟩,⟨[.d aL],[]⟩,dL [(5,(.j ⟨[0,1,5],[19],⟨[.d .bool],[]⟩,[]⟩)),(16,(.j ⟨[0,1,5],[6],⟨[.d aL],[]⟩,[]⟩)),(25,(.j ⟨[0,1,5,6],[66],⟨[.d .bool],[]⟩,[]⟩))]⟩
def WO:co:=cn KK uK
def Ot:FT:=⟨⟨[.d mS,.d (.sl gH),.d aL],[]⟩,⟨ne,[]⟩,dL [(10,(.j ⟨[1,2],[3,7,8,9],⟨[.ptr 0 0,.row 1,.ptr 2 0,.d aL],Le2⟩,[.nil 7 3 aL]⟩)),(21,(.j ⟨[1,2,9],[3,7,8],⟨[.ptr 0 0,.row 1,.ptr 2 0],Le2⟩,[]⟩)),(22,(.j ⟨[1,2,9],[3,7,8,10,25],⟨Le3,Le0⟩,[]⟩)),(26,(.j ⟨[1,2,9],[3,7,8,10,45],⟨Le3,Le0⟩,[]⟩)),(30,(.j ⟨[1,2,9],[3,7,8,10,60],⟨Le3,Le0⟩,[]⟩)),(34,(.j ⟨[1,2,9],[3,7,8,85],⟨[.ptr 0 0,.row 1,.ptr 2 0,.d .bool],Le2⟩,[]⟩)),(40,(.j ⟨[],[7],⟨[.row 0],Ra⟩,[]⟩))]⟩
def aab:co:=cn Ot wZ
def On:FT:=⟨⟨[.d mS,.d (.sl gH),.d aL],[]⟩,⟨ne,[]⟩,dL [(10,(.j ⟨[1,2,8,9],[3,7,10],⟨Gp,Le4⟩,[.nil 7 3 aL]⟩)),(18,(.j ⟨[1,2,8,9,10],[3,7],⟨[.ptr 0 0,.row 1],Le4⟩,[]⟩)),(21,(.j ⟨[1,2,8,9,10],[3,7,65],⟨[.ptr 0 0,.row 1,.d .bool],Le4⟩,[]⟩))]⟩
def aa8:co:=cn On wX
def G':FT:=⟨⟨[.d mV],[]⟩,⟨[.d vx],[]⟩,dL [(6,(.a [.nil 3 36 (.sl aL)])),(8,(.j ⟨[13],[1,3,14],⟨Gp,Le1⟩,[]⟩)),(21,(.j ⟨[4,13,14],[1,3,5],⟨[.ptr 0 0,.row 1,.d (.sl aL)],Le1⟩,[]⟩)),(33,(.j ⟨[4,13,14,32,33],[1,3,5,34],⟨[.ptr 0 0,.row 1,.d (.sl aL),.d aL],Le1⟩,[]⟩)),(50,(.j ⟨[4,13,14,50,51],[1,3,5,52],⟨[.ptr 0 0,.row 1,.d (.sl aL),.d aL],Le1⟩,[]⟩))]⟩
def TJ:co:=cn G' sZ
def G_:FT:=⟨⟨[.d (.sl aL),.d iJ],[]⟩,⟨[.d .bool],[]⟩,.leaf⟩
def TI:co:=cn G_ vR
def Ee:FT:=⟨⟨Le5,[]⟩,⟨[.d iJ],[]⟩,.leaf⟩
def Qt:co:=cn Ee qR
def Ap:FT:=⟨⟨[.d mV,.d vx],[]⟩,⟨[.d (.sl iJ)],[]⟩,dL [(8,(.j ⟨[1,10],[2,5,11],⟨Gp,ajp⟩,[.nil 5 67 iJ]⟩)),(22,(.j ⟨[1,6,10,11],[2,5,7],⟨Gp,ajp⟩,[]⟩)),(30,(.j ⟨[1,6,7,10,11],[2,5],⟨[.ptr 0 0,.row 1],ajp⟩,[]⟩)),(31,(.j ⟨[1,6,7,10,11],[2,5,52],⟨[.ptr 0 0,.row 1,.d .bool],ajp⟩,[]⟩))]⟩
def Lu:co:=cn Ap nE
theorem GR:aH Pg 16 TK:=mk Ha lZ an b_
theorem BF:aH Pg 26 M4:=mk BP mI (ac GR an) b_
theorem MH:aH Pg 47 M7:=mk BS pa (ac GR an) b_
theorem BG:aH Pg 50 M6:=mk BR mJ an b_
theorem Se:aH Pg 86 TE:=mk G9 sY an b_
theorem V9:aH Pg 87 WO:=mk KK uK (ac BG an) b_
theorem ZS:aH Pg 51 aab:=mk Ot wZ (ac BF (ac V9 an)) b_
theorem ZP:aH Pg 53 aa8:=mk On wX (ac MI (ac MG an)) b_
theorem Sg:aH Pg 24 TJ:=mk G' sZ (ac BG (ac ZS (ac ZR (ac ZP (ac ZO an))))) b_
theorem Sf:aH Pg 48 TI:=mk G_ vR (ac PW an) b_
theorem PU:aH Pg 49 Qt:=mk Ee qR (ac Se an) b_
theorem J1:aH Pg 23 Lu:=mk Ap nE (ac BF (ac MH (ac Sf (ac PU an)))) b_
abbrev Lg9:Y PV:=[.d (.sl aL),.d (.sl aL),.d (.sl aL),.d (.sl aL),.d (.sl aL)]
abbrev Lg0:Y PB:=[.cells 34 [.d mV],.cells D Lg9,zZ8,.rows 52 af Kg0]
abbrev Lg1:Y PV:=[.d aL,.d aL,.d aL,.d aL,.nil]
abbrev Lg2:Y PB:=[.cells 34 [.d mV],.cells D [.row 2,.row 3,.row 4,.row 5,.row 6],zZ1,zZ1,zZ1,zZ1,zZ1]
abbrev Lg5:Y PV:=[.d Kg0,.d (.sl aL),.d aL]
abbrev Lg6:Y PB:=[.cells 34 [.d mV],zZ8]
def Ln:FT:=⟨⟨abk,[]⟩,⟨[.d .bool],[]⟩,dL [(6,(.j ⟨[0,1,10],[11],⟨[.d aL],[]⟩,[]⟩))]⟩
def XD:co:=cn Ln qa
def B7:FT:=⟨⟨[.d aL],[]⟩,⟨[.d .bool],[]⟩,dL [(2,(.j ⟨[],[2],⟨[.d .bool],[]⟩,[]⟩))]⟩
def Nn:co:=cn B7 hY
def HK:FT:=⟨⟨Lg5,[]⟩,⟨[.d Kg0,.d .bool],[]⟩,dL [(3,(.j ⟨[1,2],[3,6,26],⟨qF,[.cells 52 [.d Kg0],.cells 52 Lg1]⟩,[]⟩)),(24,(.j ⟨[1,2,8],[3,6,9,83],⟨EZ,[.cells 52 [.d Kg0],.cells 52 Lg1,.cells 52 Lg1]⟩,[]⟩))]⟩
def Ut:co:=cn HK l_
def Ez:FT:=⟨⟨Lg5,[]⟩,⟨[.d Kg0,.d .bool],[]⟩,dL [(3,(.j ⟨[1,2],[3,6,25],⟨qF,[.cells 52 [.d Kg0],.cells 52 Lg1]⟩,[]⟩)),(10,(.j ⟨[1,2],[6,8],⟨ic,[.cells 52 Lg1]⟩,[]⟩))]⟩
def QU:co:=cn Ez kH
def B8:FT:=⟨⟨[.d mV],[]⟩,⟨[.d (.sl aL),.d (.sl Kg0),.d aL],[]⟩,dL [(14,(.j ⟨[5],[1,7],⟨[.ptr 0 0,.mp 1],[.cells 34 [.d mV],.cells D Lg9]⟩,[.mz 7 5]⟩)),(18,(.j ⟨[5,28,29],[1,7,30],⟨[.ptr 0 0,.mp 1,.d aL],Lg2⟩,[.mz 7 5,.cel 7 0 3 aL,.cel 7 1 3 aL,.cel 7 2 3 aL,.cel 7 3 3 aL,.cel 7 4 3 aL]⟩)),(26,(.j ⟨[5,28,29,30],[1,7],⟨[.ptr 0 0,.mp 1],Lg2⟩,[.mz 7 5]⟩)),(29,(.j ⟨[5,8,28,29,30],[1,7,9,42],⟨[.ptr 0 0,.mp 1,.ptr 2 0,.d .bool],[.cells 34 [.d mV],.cells D [.row 3,.row 4,.row 5,.row 6,.row 7],.cells 57 [.d gH],zZ1,zZ1,zZ1,zZ1,zZ1]⟩,[.mz 7 5]⟩)),(32,(.s 9 2 0 5)),(43,(.j ⟨[5,66,67],[1,7,10,11,68],⟨[.ptr 0 0,.mp 1,.row 2,.row 3,.d aL],Lg0⟩,[.mz 7 5]⟩)),(51,(.j ⟨[5,66,67,68],[1,7,10,11],⟨[.ptr 0 0,.mp 1,.row 2,.row 3],Lg0⟩,[.mz 7 5]⟩)),(62,(.j ⟨[5,12,66,67,68],[1,7,10,11,80,81,82],⟨[.ptr 0 0,.mp 1,.row 2,.row 3,.d (.sl aL),.d aL,.d aL],Lg0⟩,[.mz 7 5]⟩)),(63,(.s 12 0 0 5)),(65,(.j ⟨[5,12,66,67,68,80,81],[1,7,10,11,82],⟨[.ptr 0 0,.mp 1,.row 2,.row 3,.d aL],Lg0⟩,[.mz 7 5]⟩)),(73,(.j ⟨[5,12,66,67,68,80,81,82],[1,7,10,11],⟨[.ptr 0 0,.mp 1,.row 2,.row 3],Lg0⟩,[.mz 7 5]⟩)),(78,(.j ⟨[5,12,15,66,67,68,80,81,82],[1,7,10,11,16],⟨[.ptr 0 0,.mp 1,.row 2,.row 3,.d .bool],Lg0⟩,[.mz 7 5]⟩)),(86,(.j ⟨[5,12,15,66,67,68,80,81,82],[1,7,10,11,135],⟨[.ptr 0 0,.mp 1,.row 2,.row 3,.d .bool],Lg0⟩,[.mz 7 5]⟩))]⟩
def No:co:=cn B8 pi
def EA:FT:=⟨⟨[.d mV],[]⟩,⟨Gq,[]⟩,.leaf⟩
def QV:co:=cn EA qX
def KM:FT:=⟨⟨[.d mV],[]⟩,⟨ne,[]⟩,dL [(8,(.j ⟨[14],[1,3,15],⟨Gp,Lg6⟩,[]⟩)),(25,(.j ⟨[25,26],[1,3,27],⟨Gp,Lg6⟩,[]⟩)),(33,(.j ⟨[25,26,27],[1,3],⟨[.ptr 0 0,.row 1],Lg6⟩,[]⟩))]⟩
def WR:co:=cn KM uL
def KN:FT:=⟨⟨abk,[]⟩,⟨[.d .bool],[]⟩,dL [(14,(.j ⟨[0,1,12],[13],⟨[.d aL],[]⟩,[]⟩))]⟩
def WS:co:=cn KN uM
def Ew:FT:=⟨⟨[],[]⟩,⟨[.d .bool],[]⟩,dL [(10,(.j ⟨[],[0],⟨[.d .bool],[]⟩,[]⟩))]⟩
def QP:co:=cn Ew uh
def wg:FT:=⟨⟨[.d Kg1],[]⟩,⟨[.d .bool],[]⟩,dL [(6,(.j ⟨[],[2],⟨[.d .bool],[]⟩,[]⟩))]⟩
def EM:co:=cn wg kG
theorem VQ x:lY (qa x) (CA x):=by
 unfold qa CA yo bw aX cQ aD cJ;with_reducible repeat' first|(refine OI.o ?_;constructor)|intro _
theorem WD:aH Pg 35 XD:=zF Ln qa CA VQ (ac uA an) b_
theorem BI:aH Pg 32 Nn:=mk B7 hY an b_
theorem G3:aH Pg 17 Ut:=mk HK l_ (ac BI (ac uA (ac BJ an))) b_
theorem DW:aH Pg 18 QU:=mk Ez kH (ac BI (ac uA (ac BJ (ac WD an)))) b_
theorem MX:aH Pg 22 No:=mk B8 pi (ac WC (ac G3 (ac DW an))) b_
theorem P':aH Pg 8 QV:=mk EA qX (ac MX an) b_
theorem V_:aH Pg 10 WR:=mk KM uL (ac J1 (ac Sg an)) b_
theorem Wa:aH Pg 9 WS:=mk KN uM an b_
theorem P_:aH Pg 11 QP:=mk Ew uh (ac G3 (ac DW (ac ZQ an))) b_
theorem hlaw24_EpochFirst:aH Pg 3 EM:=mk wg kG (ac FC (ac P' (ac Wa (ac V_ (ac P_ an))))) b_
theorem run_law {P:Program} {f:FuncId} {pre:Tm} {m:pre.ty.den->I (Tm.ty ⟨[.d .bool],[]⟩).den} (sp:qB P f ⟨pre,⟨[.d .bool],[]⟩,m⟩) (h0:pre.bs.length=0) {x:pre.ty.den} (a:m x=M J) {vs:Y TV} {hp:bk} (hi:DL pre x=M (vs,hp)) {la:Y AV} (hla:cP hp vs=M la)
 {W:World} {us:ξ} (hg:∀g cells,G g=M cells->oe (λ_=>False) W (.ptr cells 0) (.pointer (M ⟨g,0,D⟩))) (hrel:ku (λ_=>D) (λ_=>False) W la us):
 Calls P f us.toArray W λe w'=>e= .returned (.bool J)/\Below W.heap.size W w':=by
 obtain⟨l1,y⟩:=xn hi;obtain⟨l2,z⟩:=xn (t:=⟨[.d .bool],[]⟩) (x:=J) (vs:=[.f .bool J]) (h1:=PT.leaf) rfl;have hn:bz hp=λ_=>D:=by
  funext n;cases hb:bz hp n with
  |none=>rfl
  |some b=>
   obtain⟨i,c,rfl,h1,_⟩:=jM hb;have:=y.lt_len h1;omega
 have own0:∀(φ:PM) k,¬own φ (bz hp) k:=by rintro φ k ⟨i,b,h1,_⟩;rw[hn]at h1;cases h1
 have htot:tot (λ_=>False) (λ_=>D) (bz hp)=λ_=>False:=by
  funext k;exact propext ⟨λh=>h.elim id λh=>b8 h (own0 _ k),λh=>h.elim⟩
 refine Calls.mono (sp.calls x J a vs hp l1 _ PT.leaf l2 la _ y z hla rfl (λ_=>D) (λ_=>False) W us ⟨(λi j b b' k h1=>by rw[hn]at h1;cases h1),(λi b h1=>by rw[hn]at h1;cases h1),(λk h=>h.elim),(λg cells h=>by rw[htot];exact hg g cells h)⟩ (by rw[htot];exact hrel) (λn k h=>by cases h)) ?_;rintro en w' ⟨v,φ',rfl,he,_,_,_,hv⟩;refine ⟨?_,⟨he.os,he.tape,he.output,he.size,λk hk=>he.blk k hk (own0 _ k)⟩⟩;have hv:cS φ' _ w' (.f (.raw (.bool J))) v:=hv;cases hv with
 |f h=>cases h;rfl
theorem gKw:Tryz.prog.globalNamed "interleave/token.keywords" =M 0:=by kernel_rfl
theorem tKw:(Tryz.prog.globals[0]?).map (·.type)=M 278:=by kernel_rfl
theorem kw_of_laid {W:World} (h:laidMetH Tryz.prog [("interleave/token.keywords",Rows.laid_interleave_token_keywords)] W):∀g cells,G g=M cells→oe (λ_=>False) W (.ptr cells 0) (.pointer (M ⟨g,0,D⟩)):=by
 intro g cells L;unfold G at L;split at L
 .rename_i hg;have hg:=eq_of_beq hg;subst hg;cases L;rw[MakeChecks.laidMetH_plain _ _ _ (by kernel_rfl)]at h;obtain⟨ps,⟨g0,t0,cs0,f0,p0,q0,A,Z,U,hd0,_,_⟩,_,_⟩:=h;obtain rfl:=km (gKw.symm.trans A);obtain rfl:=km (tKw.symm.trans Z);obtain⟨xs,m1,rfl,z,hlen,hn,hel⟩:=DataW.trod_array Tryz.underlying278 hd0;have c1:Tryz.prog.cellsOf 9=1:=by kernel_rfl
  have c22:Tryz.prog.cellsOf 278=22:=by kernel_rfl
  rw[c22]at hlen;simp only[aE,Rows.laid_interleave_token_keywords,DataW.agg.injEq]at z;have hxs:=z.1;have hcell:∀j,j<22→∃l,(xs.map (·.1))[j]? =M (.lit (.string l))∧W.cell? ⟨0,j,D⟩=M (.string ⟨l.toArray⟩):=λj hj=>by
   have h1:=hel j hj;rw[c1,Nat.mul_one]at h1;rw[ay (by omega)]at h1;obtain⟨s,e1,e2,_⟩:=DataW.trod_string Tryz.underlying9 h1;refine ⟨s.data.toList,?_,?_⟩
   .rw[bd,ay (by omega),ct,e2]
   .have:=World.var?_cell A U j;rw[this];have h2:cs0.toList[j]? =M (.string s):=by
     have:((cs0.toList.drop j).take 1)[0]? =M (.string s):=by rw[e1];rfl
     rw[cW,aC (by omega),ig]at this;simpa using this
    rw[← cD,h2]
  have hb:0<W.heap.size:=by
   obtain⟨l,_,h2⟩:=hcell 0 (by omega);exact World.block_lt_of_cell? W _ h2
  refine .ptr DE 0 0 0 (λj=>(W.cell? ⟨0,j,D⟩).getD undef) (λh=>h) hb (λx a=>?_) (λj hj=>?_) (λj x a=>?_)
  .simp only[DE,bm,cF,gu]at a;rcases a with rfl|rfl|rfl|rfl|rfl|rfl|rfl|rfl|rfl|rfl|rfl|rfl|rfl|rfl|rfl|rfl|rfl|rfl|rfl|rfl|rfl|rfl<;>rfl
  .obtain⟨l,_,h2⟩:=hcell j hj;rw[bK,h2];rfl
  .have hj:j<22:=(bn.1 a).1;obtain⟨l,h1,h2⟩:=hcell j hj;rw[← hxs]at h1;have:x= .raw (.string ⟨l.toArray⟩):=by
    rcases j with _|_|_|_|_|_|_|_|_|_|_|_|_|_|_|_|_|_|_|_|_|_|j;all_goals first|(simp only[mb,List.getElem?_cons_succ,ah,DataW.lit.injEq,Lit.string.injEq,DE]at h1 a;subst h1;subst a;rfl)|omega
   rw[this,h2];exact .raw _
 .cases L
end
end Go.Proofs.YtloaobgmjdjhhaaGreatDoor.AI
