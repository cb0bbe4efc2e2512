/-
  Texts of the proof, part 6 of 6: what is used to prove the statement. No condition.
-/
import Derived.Test.YtkagidinekdnoaaGreatDoorHBClocksQ4
import Derived.Test.YtkagidinekdnoaaGreatDoorRows
import Derived.LaidMore
namespace Go.Proofs.YtkagidinekdnoaaGreatDoor.AI
open Go.RowKit
set_option maxRecDepth 100000
set_option maxHeartbeats 4000000
set_option linter.unusedVariables false
set_option linter.unusedSimpArgs false
open _root_.Bool renaming true→ai,false→aj
open _root_.List renaming getElem?_cons_zero→qQ
open _root_.Nat renaming beq→aC
open _root_.Option renaming some→af,none→ah,map_some→cg
open _root_.Prod renaming p2→aY,p3→bi,p4→bw,q3→bK,p5→cu,q5→cY,q4→dx,p6→dU,q6→fh,q7→kB,p7→kC,q8→pU,p8→zV,p9→Ci,p10→D3
noncomputable section
abbrev uV:List PV:=[.d aM,.d aM,.d aM,.d aM,.d aM,.nil,.nil]
abbrev vV:List PV:=[.nil,.d aM,.nil,.nil,.nil,.nil,.nil]
abbrev aho:List PV:=[.ptr 1 0,.d aM,.d aM,.d .bool,.d .bool,.d .bool,.d .bool,.row 4]
abbrev ahs:List PV:=[.d aM,.d aM,.d .str,.d .str,.nil,.d aM,.d aM,.d .str,.nil,.nil,.nil]
abbrev La2:List PB:=[.cells 210 aho,.cells 101 [.d yI],.gone,.cells 216 ahs,.rowsP 9 .str]
abbrev Nn:List PV:=[.ptr 0 0,.ptr 1 0,.ptr 2 0,.ptr 3 0,.ptr 4 0,.ptr 5 0,.ptr 6 0,.ptr 7 0,.d .bool]
abbrev La4:List PB:=[.cells 202 [.d (.sl kw),.d (.sl qT),.d (.sl lh),.d (.sl .str),.d (.sl .str),.d (.sl om),.d (.sl .str),.row 2,.d aM,.d aM],.gone,.rows 206 ai qR]
abbrev La5:List PB:=[.cells 202 [.d (.sl kw),.d (.sl qT),.d (.sl lh),.d (.sl .str),.d (.sl .str),.d (.sl om),.d (.sl .str),.row 1,.d aM,.d aM],.rows 206 ai qR]
abbrev La6:List PV:=[.d aM,.row 11,.row 12,.d aM]
abbrev La7:List PB:=[.cells 160 [.nil,.nil],.cells 210 [.ptr 5 0,.d aM,.d aM,.d .bool,.d .bool,.d .bool,.d .bool,.row 6],.cells 160 [.d (.sl GD),.row 7],.rows 9 aj .str,.cells 200 [.d .str,.d aM,.row 8,.row 9],.cells 101 [.d yI],.rowsP 9 .str,.rows 200 ai sQ,.rows 9 aj .str,.rows 216 ai .sm]
abbrev La8:List PB:=[.cells 241 [.d (.sl GD),.d (.sl sQ),.d aM,.row 1,.row 6,.row 7],.rowsP 216 .sm,.gone,.gone,.cells 216 [.d .sm],.cells 160 [.d No],.rows 9 ai .str,.rows 9 ai .str]
abbrev La9:List PV:=[.d (.sl dY),.d aM,.d pR,.d (.sl hY),.row 8,.row 9,.csl 10 4 4]
abbrev ag8:List PB:=[.cells 118 [.d (.sl dY),.d aM,.d pR,.d (.sl hY),.row 6,.row 7,.csl 8 4 4],.cells 163 [.d iK],.cells 118 vV,.cells 54 uV,.cells 54 [.d gd],.cells 193 [.d eT],.rows 2 ai aM,.rows 2 ai aM,.cells 193 [.d eT,.d eT,.d eT,.d eT]]
abbrev ahp:List PV:=[.ptr 1 0,.d aM,.d aM,.d .bool,.d .bool,.d .bool,.d .bool,.row 2]
abbrev Pu:List PV:=[.d DX,.d aM]
abbrev V5:List PB:=[.cells 210 ahp,.cells 101 Pu,.rowsP 9 .str]
abbrev Me:List PV:=[.ptr 0 0,.ptr 1 0,.ptr 2 0,.ptr 3 0,.ptr 4 0,.ptr 5 0,.ptr 6 0,.ptr 7 0,.d aM]
abbrev ajy:List PV:=[.d (.sl dY),.d aM,.d pR,.d (.sl hY),.row 8,.row 9,.csl 10 4 3]
abbrev aki:List PB:=[.cells 123 [.d uJ],.cells 118 ajy,.cells 163 [.d iK],.cells 118 vV,.cells 54 uV,.cells 54 [.d gd],.cells 193 La6,.cells 206 [.d qR],.rows 2 ai aM,.rows 2 ai aM,.cells 193 [.d aM,.row 11,.row 12,.d aM,.d eT,.d eT],.rows 2 ai aM,.rows 49 ai (.sl aM)]
abbrev akh:List PB:=[.cells 123 [.d uJ],.cells 118 ajy,.cells 163 [.d iK],.cells 118 vV,.cells 54 uV,.cells 54 [.d gd],.cells 193 La6,.cells 206 [.d qR],.rows 2 ai aM,.rows 2 ai aM,.cells 193 [.d eT,.d aM,.row 11,.row 12,.d aM,.d eT],.rows 2 ai aM,.rows 49 ai (.sl aM)]
abbrev akg:List PB:=[.cells 123 [.d uJ],.cells 118 ajy,.cells 163 [.d iK],.cells 118 vV,.cells 54 uV,.cells 54 [.d gd],.cells 193 La6,.cells 206 [.d qR],.rows 2 ai aM,.rows 2 ai aM,.cells 193 [.d eT,.d eT,.d aM,.row 11,.row 12,.d aM],.rows 2 ai aM,.rows 49 ai (.sl aM)]
abbrev ahr:List PV:=[.d (.sl dY),.d aM,.d pR,.d (.sl hY),.row 8,.row 9,.csl 10 4 2]
abbrev akf:List PB:=[.cells 123 [.d uJ],.cells 118 ahr,.cells 163 [.d iK],.cells 118 vV,.cells 54 uV,.cells 54 [.d gd],.cells 193 La6,.cells 206 [.d qR],.rows 2 ai aM,.rows 2 ai aM,.cells 193 [.d aM,.row 11,.row 12,.d aM,.d eT],.rows 2 ai aM,.rows 49 ai (.sl aM)]
abbrev ake:List PB:=[.cells 123 [.d uJ],.cells 118 ahr,.cells 163 [.d iK],.cells 118 vV,.cells 54 uV,.cells 54 [.d gd],.cells 193 La6,.cells 206 [.d qR],.rows 2 ai aM,.rows 2 ai aM,.cells 193 [.d eT,.d aM,.row 11,.row 12,.d aM],.rows 2 ai aM,.rows 49 ai (.sl aM)]
abbrev Zm:List PB:=[.cells 241 [.d (.sl GD),.d (.sl sQ),.d aM,.row 1,.row 4,.row 5],.rowsP 216 .sm,.gone,.gone,.rows 9 ai .str,.rows 9 ai .str]
abbrev Md:List PV:=[.ptr 0 0,.ptr 1 0,.ptr 2 0,.ptr 3 0,.ptr 4 0,.ptr 5 0,.ptr 6 0,.d .bool]
abbrev gY:List PV:=[.ptr 0 0,.d .bool]
abbrev Zl:List PB:=[.cells 241 [.d (.sl GD),.d (.sl sQ),.d aM,.row 1,.row 2,.row 3],.rowsP 216 .sm,.rows 9 ai .str,.rows 9 ai .str]
abbrev akd:List PB:=[.cells 123 [.d uJ],.cells 118 [.d (.sl dY),.d aM,.d pR,.d (.sl hY),.row 8,.row 9,.csl 10 4 1],.cells 163 [.d iK],.cells 118 vV,.cells 54 uV,.cells 54 [.d gd],.cells 193 La6,.cells 206 [.d qR],.rows 2 ai aM,.rows 2 ai aM,.cells 193 La6,.rows 2 ai aM,.rows 49 ai (.sl aM)]
abbrev Mc:List PV:=[.ptr 0 0,.ptr 1 0,.ptr 2 0,.ptr 3 0,.ptr 4 0,.ptr 5 0,.ptr 6 0]
abbrev akc:List PB:=[.cells 123 [.d uJ],.cells 118 La9,.cells 163 [.d iK],.cells 118 vV,.cells 54 uV,.cells 54 [.d gd],.cells 193 La6,.cells 206 [.d qR],.rows 2 ai aM,.rows 2 ai aM,.cells 193 [.d aM,.row 11,.row 12,.d aM,.d eT,.d eT,.d eT],.rows 2 ai aM,.rows 49 ai (.sl aM)]
abbrev akb:List PB:=[.cells 123 [.d uJ],.cells 118 La9,.cells 163 [.d iK],.cells 118 vV,.cells 54 uV,.cells 54 [.d gd],.cells 193 La6,.cells 206 [.d qR],.rows 2 ai aM,.rows 2 ai aM,.cells 193 [.d eT,.d aM,.row 11,.row 12,.d aM,.d eT,.d eT],.rows 2 ai aM,.rows 49 ai (.sl aM)]
abbrev aka:List PB:=[.cells 123 [.d uJ],.cells 118 La9,.cells 163 [.d iK],.cells 118 vV,.cells 54 uV,.cells 54 [.d gd],.cells 193 La6,.cells 206 [.d qR],.rows 2 ai aM,.rows 2 ai aM,.cells 193 [.d eT,.d eT,.d aM,.row 11,.row 12,.d aM,.d eT],.rows 2 ai aM,.rows 49 ai (.sl aM)]
abbrev ak9:List PB:=[.cells 123 [.d uJ],.cells 118 La9,.cells 163 [.d iK],.cells 118 vV,.cells 54 uV,.cells 54 [.d gd],.cells 193 La6,.cells 206 [.d qR],.rows 2 ai aM,.rows 2 ai aM,.cells 193 [.d eT,.d eT,.d eT,.d aM,.row 11,.row 12,.d aM],.rows 2 ai aM,.rows 49 ai (.sl aM)]
abbrev KK:List PB:=[.cells 31 [.d l_],.cells 110 [.d iL],.cells 54 [.d gd],.cells 110 vV]
abbrev Mb:List PV:=[.ptr 0 0,.ptr 1 0,.ptr 2 0,.ptr 3 0,.ptr 4 0,.ptr 5 0]
abbrev ak8:List PB:=[.cells 118 [.d (.sl dY),.d aM,.d pR,.d (.sl hY),.row 6,.row 7,.csl 8 4 3],.cells 163 [.d iK],.cells 118 vV,.cells 54 uV,.cells 54 [.d gd],.cells 193 [.d eT],.rows 2 ai aM,.rows 2 ai aM,.cells 193 [.d eT,.d eT,.d eT]]
abbrev S4:List PV:=[.d (.sl dY),.d aM,.d pR,.d (.sl hY),.row 7,.row 8,.csl 9 4 4]
abbrev qL:List PV:=[.ptr 0 0,.ptr 1 0,.d .bool]
abbrev zQ:List PV:=[.ptr 0 0,.ptr 1 0,.ptr 2 0,.ptr 3 0,.d .bool]
abbrev ag0:List PV:=[.nil,.nil,.nil,.nil,.nil,.nil]
abbrev ak7:List PB:=[.cells 160 [.d No],.cells 31 ag0,.cells 31 [.row 4,.row 5,.row 6,.row 7,.nil,.nil],.cells 244 [.d GD],.rows 134 ai kw,.rows 61 ai qT,.rows 90 ai lh,.rows 9 ai .str]
abbrev Zj:List PV:=[.nil,.nil,.nil,.nil,.nil,.nil,.nil]
abbrev an7:List PV:=[.d (.sl kw),.d (.sl qT),.d (.sl lh),.d (.sl .str),.d (.sl .str),.d (.sl om),.row 5]
abbrev anj:List PB:=[.cells 160 [.d No],.cells 123 Zj,.cells 123 an7,.cells 202 [.d (.sl kw),.d (.sl qT),.d (.sl lh),.d (.sl .str),.d (.sl .str),.d (.sl om),.d (.sl .str),.row 6,.d aM,.d aM],.cells 189 [.d aM,.row 6],.rows 189 ai wZ,.rows 206 ai qR]
abbrev Hj:List PV:=[.row 0,.d aM,.row 1,.row 2]
abbrev ak6:List PB:=[.cells 101 [.d yI],.cells 110 [.d iL],.cells 31 [.d l_],.rows 54 ai gd,.cells 49 [.row 5,.row 6,.row 7,.row 8],.rows 3 ai aM,.rows 3 ai aM,.rows 3 ai aM,.rows 3 ai aM]
abbrev Fn:List PV:=[.ptr 0 0,.ptr 1 0,.ptr 2 0,.d aM]
abbrev ak5:List PB:=[.cells 101 [.d yI],.cells 110 [.d iL],.cells 31 [.d l_],.cells 49 [.row 4,.row 5,.row 6,.row 7],.rows 3 ai aM,.rows 3 ai aM,.rows 3 ai aM,.rows 3 ai aM]
abbrev KJ:List PV:=[.d aM,.d (.sl aM),.d tL,.d aM]
abbrev Zk:List PV:=[.d (.sl dY),.d aM,.d pR,.d (.sl hY),.row 7,.row 8,.csl 9 4 3]
abbrev DW:List PV:=[.ptr 0 0,.ptr 1 0,.ptr 2 0,.d .bool]
abbrev vU:List PV:=[.ptr 0 0,.ptr 1 0,.d aM]
abbrev KI:List PV:=[.d aM,.row 10,.row 11,.d aM]
abbrev afz:List PV:=[.d aM,.row 0,.row 1,.d aM]
abbrev XA:List PV:=[.d aM,.nil,.nil,.d aM]
abbrev ak4:List PB:=[.rows 2 ai aM,.rows 49 ai (.sl aM),.cells 206 [.d qR],.cells 193 afz,.cells 193 XA]
abbrev ak3:List PB:=[.cells 241 [.d (.sl GD),.d (.sl sQ),.d aM,.row 4,.row 5,.row 6],.gone,.gone,.gone,.rowsP 216 .sm,.rows 9 ai .str,.rows 9 ai .str]
abbrev Cc:List PV:=[.nil,.d aM,.nil,.nil]
abbrev ak2:List PB:=[.cells 107 [.row 2,.d aM,.row 3,.row 4],.cells 107 Cc,.rows 175 ai dY,.rows 4 ai .bool,.rows 177 ai hY]
abbrev KH:List PV:=[.ptr 0 0,.ptr 3 0,.d .bool]
abbrev ani:List PB:=[.cells 34 Zj,.cells 101 [.d yI],.cells 34 an7,.cells 110 [.d iL],.rows 54 aj gd,.rows 54 ai gd]
abbrev anh:List PB:=[.cells 118 [.d (.sl dY),.d aM,.d pR,.d (.sl hY),.row 6,.row 7,.csl 8 4 2],.cells 163 [.d iK],.cells 118 vV,.cells 54 uV,.cells 54 [.d gd],.cells 193 [.d eT],.rows 2 ai aM,.rows 2 ai aM,.cells 193 [.d eT,.d eT]]
abbrev pQ:List PB:=[.cells 31 [.d l_]]
abbrev ang:List PB:=[.cells 101 [.d yI],.cells 110 [.d iL],.cells 31 [.d l_],.rows 54 ai gd,.cells 49 [.row 7,.row 8,.row 9,.row 10],.cells 54 [.d gd],.cells 110 [.d iL],.rows 3 ai aM,.rows 3 ai aM,.rows 3 ai aM,.rows 3 ai aM]
abbrev ag7:List PB:=[.cells 31 ag0,.cells 31 [.row 2,.row 3,.row 4,.row 5,.row 6,.row 7],.rows 134 aj kw,.rows 61 aj qT,.rows 90 aj lh,.rows 9 aj .str,.rows 9 aj .str,.rows 141 ai om]
abbrev wY:List PV:=[.ptr 0 0,.d aM]
abbrev acq:List PV:=[.row 2,.row 3,.row 4,.row 5]
abbrev anf:List PB:=[.cells 101 [.d yI],.cells 49 acq,.rows 3 ai aM,.rows 3 ai aM,.rows 3 ai aM,.rows 3 ai aM,.cells 54 uV,.cells 54 [.d aM,.d aM,.d aM,.d aM,.d aM,.d (.sl aM),.nil]]
abbrev ag6:List PV:=[.d (.sl dY),.d aM,.d pR,.d (.sl hY),.row 7,.row 8,.csl 9 4 2]
abbrev Ma:List PV:=[.d vW,.d gd,.d .bool]
abbrev ane:List PB:=[.cells 101 [.d yI],.cells 49 acq,.rows 3 ai aM,.rows 3 ai aM,.rows 3 ai aM,.rows 3 ai aM,.cells 110 [.d iL],.cells 31 [.d l_],.cells 54 uV,.cells 54 uV]
abbrev and:List PB:=[.cells 160 [.d No],.cells 31 ag0,.cells 31 [.row 3,.row 4,.row 5,.row 6,.nil,.nil],.rows 134 ai kw,.rows 61 ai qT,.rows 90 ai lh,.rows 9 ai .str]
abbrev ak1:List PV:=[.d (.sl dY),.d aM,.d pR,.d (.sl hY),.row 3,.row 4,.row 5]
abbrev L_:List PV:=[.d uJ,.d vW,.d iK]
abbrev ak0:List PB:=[.rows 175 ai dY,.rows 4 ai .bool,.rows 177 ai hY,.cells 107 Hj,.rows 3 ai aM]
abbrev act:List PV:=[.row 3,.d aM,.row 4,.row 5]
abbrev anc:List PB:=[.cells 31 [.d l_],.cells 107 act,.cells 107 Cc,.rows 175 ai dY,.rows 4 ai .bool,.rows 177 ai hY]
abbrev vT:List PV:=[.d aM,.d aM]
abbrev ajz:List PB:=[.rows 54 ai gd,.cells 123 [.d uJ],.cells 118 [.d vW],.cells 118 vV]
abbrev anb:List PB:=[.cells 189 [.d wZ],.cells 193 [.d aM,.row 3,.row 4,.d aM],.cells 193 XA,.rows 2 ai aM,.rows 49 ai (.sl aM)]
abbrev ana:List PB:=[.cells 210 aho,.cells 101 [.d yI],.gone,.rows 216 ai .sm,.rowsP 9 .str]
abbrev ajx:List PV:=[.ptr 1 0,.d aM,.d aM,.d .bool,.d .bool,.d .bool,.d .bool,.row 3]
abbrev an9:List PB:=[.cells 54 uV,.cells 193 [.d eT],.cells 206 [.d qR],.cells 54 [.d aM,.d aM,.d aM,.d aM,.d aM,.row 4,.nil],.rows 3 ai aM]
abbrev Pt:List PB:=[.cells 216 [.d .sm]]
abbrev ag5:List PV:=[.agg [.agg Hj,.row 3,.row 4,.csl 5 4 4]]
abbrev S1:List PB:=[.cells 160 [.d No]]
abbrev ajw:List PB:=[.cells 31 [.d l_],.cells 189 [.d wZ],.cells 206 [.d qR]]
abbrev ag4:List PB:=[.cells 160 [.d No],.cells 200 [.d sQ]]
abbrev ag3:List PB:=[.cells 160 [.d No],.cells 214 [.d .ex]]
abbrev ajv:List PB:=[.cells 31 [.d l_],.rows 9 ai .str,.cells 134 [.d kw]]
abbrev aju:List PB:=[.rows 175 ai dY,.rows 4 ai .bool,.rows 177 ai hY]
abbrev ag2:List PB:=[.cells 31 [.d l_],.cells 206 [.d qR]]
abbrev V4:List PB:=[.cells 31 [.d l_],.cells 107 [.d Hk]]
abbrev ag1:List PV:=[.ptr 0 0,.ptr 4 0,.ptr 5 0,.d .bool]
abbrev ajt:List PV:=[.ptr 0 0,.ptr 1 0,.ptr 2 0,.ptr 3 0,.ptr 4 0,.d aM]
abbrev ajs:List PB:=[.cells 101 [.d yI],.rows 3 ai aM,.rows 3 ai aM]
abbrev Zi:List PB:=[.cells 31 [.d l_],.rows 9 ai .str]
abbrev ajr:List PB:=[.cells 54 [.d gd],.cells 110 vV,.cells 110 ak1,.rows 2 ai aM,.rows 2 ai aM,.rows 3 ai aM]
abbrev an8:List PB:=[.cells 101 Pu,.cells 49 acq,.rows 3 ai aM,.rows 3 ai aM,.rows 3 ai aM,.rows 3 ai aM]
abbrev S0:List PB:=[.cells 101 Pu]
abbrev Hi:List PV:=[.d (.sl aM),.d aM]
abbrev Zh:List PB:=[.cells 101 [.d yI]]
abbrev KF:List PV:=[.ptr 0 0,.row 1,.d aM]
abbrev Zg:List PB:=[.cells 244 [.d GD]]
abbrev ajq:List PV:=[.agg [.agg Hj,.row 3,.row 4,.csl 5 4 3]]
abbrev acy:List PB:=[.rows 2 ai aM,.rows 49 ai (.sl aM)]
abbrev acx:List PB:=[.cells 123 [.d uJ],.cells 118 [.d vW]]
abbrev acw:List PB:=[.cells 31 [.d l_],.cells 189 [.d wZ]]
abbrev nj:List PV:=[.d (.sl aM)]
abbrev acv:List PV:=[.ptr 0 0,.ptr 1 0,.ptr 2 0,.ptr 3 0]
abbrev ahq:List PV:=[.d (.sl dY),.d aM,.d pR,.d (.sl hY),.row 7,.row 8,.csl 9 4 1]
abbrev acu:List PB:=[.cells 107 [.d Hk],.rows 3 ai aM]
abbrev S5:List PV:=[.ptr 0 0,.d aM,.d aM]
def tyT:PT Ty:=dE [(2,aM),(3,aM),(4,.bool),(9,.str),(49,(.sl aM)),(54,gd),(59,iK),(61,qT),(66,iK),(90,lh),(104,pR),(134,kw),(141,om),(163,iK),(175,dY),(177,hY),(189,wZ),(193,eT),(200,sQ),(206,qR),(214,.ex),(216,.sm),(244,GD)]
def bV (t:TypeId):Option Ty:=tyT.get t
def Bc:FT:=⟨⟨[],[]⟩,⟨[.d (.sl .str)],[]⟩,.leaf⟩
def LW:cf:=cn Bc ko
def zw:FT:=⟨⟨[.d .str],[]⟩,⟨[.d .bool],[]⟩,dE [(8,(.j ⟨[0,3],[4],⟨[.d aM],[]⟩,[]⟩))]⟩
def Kd:cf:=cn zw jC
def Gp:FT:=⟨⟨[.d (.int .u8)],[]⟩,⟨[.d .bool],[]⟩,dE [(2,(.j ⟨[],[2],⟨[.d .bool],[]⟩,[]⟩))]⟩
def Sh:cf:=cn Gp ll
def JV:FT:=⟨⟨[.d (.int .u8)],[]⟩,⟨[.d .bool],[]⟩,dE [(2,(.j ⟨[],[2],⟨[.d .bool],[]⟩,[]⟩))]⟩
def Vl:cf:=cn JV ru
def JU:FT:=⟨⟨[.d (.int .u8)],[]⟩,⟨[.d .bool],[]⟩,dE [(2,(.j ⟨[],[2],⟨[.d .bool],[]⟩,[]⟩))]⟩
def Vk:cf:=cn JU pi
def Gq:FT:=⟨⟨[.d .str],[]⟩,⟨[.d .bool],[]⟩,dE [(3,(.j ⟨[0],[21],⟨[.d .bool],[]⟩,[]⟩)),(14,(.j ⟨[0],[3],⟨[.d aM],[]⟩,[]⟩))]⟩
def Si:cf:=cn Gq fd
def JO:FT:=⟨⟨[.d .bool],[]⟩,⟨[.d aM],[]⟩,.leaf⟩
def Vc:cf:=cn JO fU
def JP:FT:=⟨⟨vT,[]⟩,⟨[.d aM,.d .bool],[]⟩,.leaf⟩
def Vd:cf:=cn JP uk
def Gk:FT:=⟨⟨[.d aM,.d aM,.d aM],[]⟩,⟨[.d aM,.d .bool],[]⟩,dE [(91,(.j ⟨[],[6,7],⟨[.d aM,.d .bool],[]⟩,[]⟩)),(97,(.j ⟨[],[6,7],⟨[.d aM,.d .bool],[]⟩,[]⟩))]⟩
def Sd:cf:=cn Gk sa
def JQ:FT:=⟨⟨vT,[]⟩,⟨[.d aM],[]⟩,dE [(12,(.j ⟨[],[5],⟨[.d aM],[]⟩,[]⟩))]⟩
def Ve:cf:=cn JQ rn
def Bb:FT:=⟨⟨[.d aM],[]⟩,⟨[.d aM],[]⟩,dE [(4,(.j ⟨[0],[3],⟨[.d .bool],[]⟩,[]⟩)),(10,(.j ⟨[0],[10],⟨[.d .bool],[]⟩,[]⟩)),(16,(.j ⟨[],[17],⟨[.d .bool],[]⟩,[]⟩))]⟩
def LV:cf:=cn Bb mg
def oY:FT:=⟨⟨[.d .ex],[]⟩,⟨[.d .bool],[]⟩,dE [(2,(.j ⟨[],[1,3],⟨gY,[.cells 214 [.d .ex]]⟩,[]⟩)),(5,(.j ⟨[],[1,50],⟨gY,[.cells 214 [.d .ex]]⟩,[]⟩)),(16,(.j ⟨[],[1,4],⟨wY,[.cells 214 [.d .ex]]⟩,[]⟩))]⟩
def G9:cf:=cn oY iZ
def GV (n:Nat):cf:=cn oY (hX n)
def JS:FT:=⟨⟨[.d .ex],[]⟩,⟨[.d .bool],[]⟩,dE [(2,(.j ⟨[],[2],⟨[.d .bool],[]⟩,[]⟩))]⟩
def Vj:cf:=cn JS ph
def sP:FT:=⟨⟨[.d .sm],[]⟩,⟨[.d .bool],[]⟩,dE [(3,(.j ⟨[],[1,13],⟨gY,Pt⟩,[]⟩)),(10,(.j ⟨[],[1,3],⟨gY,Pt⟩,[]⟩)),(13,(.j ⟨[],[1,47],⟨gY,Pt⟩,[]⟩)),(21,(.j ⟨[],[1,66],⟨gY,Pt⟩,[]⟩)),(29,(.j ⟨[],[1,95],⟨gY,Pt⟩,[]⟩)),(36,(.j ⟨[],[1,4],⟨gY,Pt⟩,[]⟩)),(39,(.j ⟨[],[1,130],⟨gY,Pt⟩,[]⟩)),(46,(.j ⟨[],[1,5],⟨gY,Pt⟩,[]⟩)),(49,(.j ⟨[],[1,157],⟨gY,Pt⟩,[]⟩)),(56,(.j ⟨[],[2],⟨[.d .bool],[]⟩,[]⟩))]⟩
def GU (n:Nat):cf:=cn sP (eB n)
def nS:FT:=⟨⟨[.d (.sl .sm)],[]⟩,⟨[.d .bool],[]⟩,dE [(6,(.j ⟨[0],[3],⟨[.d aM],[]⟩,[]⟩))]⟩
def E_:cf:=cn nS nG
def Ew (n:Nat):cf:=cn nS (dF n)
def ym:FT:=⟨⟨[.d GD],[]⟩,⟨[.d .bool],[]⟩,dE [(3,(.j ⟨[],[1,31],⟨gY,Zg⟩,[]⟩)),(11,(.j ⟨[],[1,50],⟨gY,Zg⟩,[]⟩)),(18,(.j ⟨[],[2],⟨[.d .bool],[]⟩,[]⟩))]⟩
def G8:cf:=cn ym jX
def Gn:FT:=⟨⟨[.d No],[]⟩,⟨[.d .bool],[]⟩,dE [(6,(.j ⟨[],[1,3],⟨wY,S1⟩,[]⟩)),(27,(.j ⟨[],[1,4],⟨wY,S1⟩,[]⟩)),(42,(.j ⟨[4],[1,5,6],⟨vU,ag4⟩,[]⟩)),(59,(.j ⟨[4],[1,56],⟨gY,S1⟩,[]⟩))]⟩
def Sg:cf:=cn Gn pG
def Xd:FT:=⟨⟨[.d (.sl .str),.d .str],[]⟩,⟨[.d aM],[]⟩,dE [(6,(.j ⟨[0,1],[5],⟨[.d aM],[]⟩,[]⟩))]⟩
def af7:cf:=cn Xd iU
def Gm:FT:=⟨⟨[.d (.sl GD),.d .str],[]⟩,⟨[.d aM],[]⟩,dE [(6,(.j ⟨[0,1],[5],⟨[.d aM],[]⟩,[]⟩))]⟩
def Sf:cf:=cn Gm hP
def Ba:FT:=⟨⟨[.d (.sl sQ),.d .str],[]⟩,⟨[.d aM],[]⟩,dE [(6,(.j ⟨[0,1],[5],⟨[.d aM],[]⟩,[]⟩))]⟩
def LU:cf:=cn Ba gO
def Gl:FT:=⟨⟨[.d No,.d aM,.d .str],[]⟩,⟨[.d aM],[]⟩,dE [(3,(.j ⟨[2],[3,27],⟨gY,S1⟩,[]⟩)),(52,(.j ⟨[7],[3,56],⟨gY,S1⟩,[]⟩))]⟩
def Se:cf:=cn Gl pE
def M4:FT:=⟨⟨[.d No,.d aM,.d .str,.d aM,.d aM],[]⟩,⟨[.d aM],[]⟩,dE [(13,(.j ⟨[],[25],⟨[.d .bool],[]⟩,[]⟩))]⟩
def YI:cf:=cn M4 gC
def xM:FT:=⟨⟨[.d .ex],[]⟩,⟨vT,[]⟩,dE [(8,(.j ⟨[],[1,4,5,6],⟨[.ptr 0 0,.d aM,.d aM,.d aM],[.cells 214 [.d .ex]]⟩,[]⟩))]⟩
def Vh:cf:=cn xM BO
def Uf (n:Nat):cf:=cn xM (m7 n)
def xL:FT:=⟨⟨[.d No,.d aM,.d .ex],[]⟩,⟨[.d aM],[]⟩,dE [(7,(.j ⟨[1],[3,5,7],⟨vU,ag3⟩,[]⟩)),(21,(.j ⟨[1],[3,5,7,8],⟨[.ptr 0 0,.ptr 1 0,.d aM,.d aM],ag3⟩,[]⟩)),(23,(.j ⟨[1,7,8],[3,5,33],⟨qL,ag3⟩,[]⟩))]⟩
def Vf:cf:=cn xL BN
def Ue (n:Nat):cf:=cn xL (m6 n)
def M5:FT:=⟨⟨[.d No,.d aM,.d .ex],[]⟩,⟨[.d aM],[]⟩,dE [(13,(.j ⟨[1],[3,5,22],⟨qL,ag3⟩,[]⟩))]⟩
def YJ:cf:=cn M5 mf
def Dv:FT:=⟨⟨[.d .bool],[]⟩,⟨[.d aM],[]⟩,.leaf⟩
def OY:cf:=cn Dv c8
def Xc:FT:=⟨⟨vT,[]⟩,⟨[.d aM],[]⟩,.leaf⟩
def af6:cf:=cn Xc iT
def wP:FT:=⟨⟨[.ptr 0 0,.d aM,.d aM,.d .str],Zl⟩,⟨[.d .bool],Zl⟩,dE [(6,(.j ⟨[1,2,3],[0,9],⟨wY,Zl⟩,[]⟩)),(17,(.j ⟨[1,2,3,9],[0,46],⟨gY,Zl⟩,[]⟩))]⟩
def E9:cf:=cn wP dT
def A_:FT:=⟨⟨[.ptr 0 0,.d .sm],Zl⟩,⟨[.d aM],Zm⟩,dE [(1,(.a [.ren 0 4,.ren 0 5])),(28,(.j ⟨[6,7,8,9,30],[0,3,5,67],⟨ag1,La8⟩,[]⟩)),(41,(.j ⟨[],[4],⟨[.d aM],Zm⟩,[]⟩)),(44,(.j ⟨[6,7,8,9,30],[0,3,5,91],⟨ag1,La8⟩,[]⟩)),(51,(.j ⟨[],[4],⟨[.d aM],Zm⟩,[]⟩)),(63,(.j ⟨[],[4],⟨[.d aM],Zm⟩,[]⟩)),(66,(.j ⟨[6,7,8,9,30],[0,3,5,119],⟨ag1,La8⟩,[]⟩)),(89,(.j ⟨[],[4],⟨[.d aM],Zm⟩,[]⟩)),(108,(.j ⟨[],[0,3,187],⟨[.ptr 0 0,.ptr 4 0,.d .bool],[.cells 241 [.d (.sl GD),.d (.sl sQ),.d aM,.row 1,.row 5,.row 6],.rowsP 216 .sm,.gone,.gone,.cells 216 [.d .sm],.rows 9 ai .str,.rows 9 ai .str]⟩,[]⟩)),(131,(.j ⟨[],[4],⟨[.d aM],Zm⟩,[]⟩)),(137,(.j ⟨[6],[0,3,5,14],⟨[.ptr 0 0,.ptr 4 0,.ptr 5 0,.d aM],La8⟩,[]⟩)),(139,(.j ⟨[6],[0,3,5,14],⟨[.ptr 0 0,.ptr 4 0,.ptr 5 0,.d aM],La8⟩,[]⟩)),(140,(.j ⟨[6,14],[0,3,5,253],⟨ag1,La8⟩,[]⟩))]⟩
def LR:cf:=cn A_ me
def rU:FT:=⟨⟨[.ptr 0 0,.d (.sl .sm)],Zl⟩,⟨vT,ak3⟩,dE [(1,(.a [.ren 0 3,.ren 0 4,.ren 0 5])),(6,(.j ⟨[1],[0,6],⟨wY,ak3⟩,[]⟩)),(19,(.j ⟨[1,6],[0,7,8],⟨[.ptr 0 0,.ptr 4 0,.d aM],[.cells 241 [.d (.sl GD),.d (.sl sQ),.d aM,.row 5,.row 6,.row 7],.gone,.gone,.gone,.cells 216 [.d .sm],.rowsP 216 .sm,.rows 9 ai .str,.rows 9 ai .str]⟩,[]⟩)),(37,(.j ⟨[1,6],[0,8,9],⟨S5,ak3⟩,[]⟩))]⟩
def LS:cf:=cn rU vJ
def Lj (n:Nat):cf:=cn rU (iz n)
def xN:FT:=⟨⟨[.d (.sl .sm)],[]⟩,⟨[.d aM],[]⟩,dE [(8,(.j ⟨[0],[3,4],⟨vT,[]⟩,[]⟩))]⟩
def Vi:cf:=cn xN BP
def Ug (n:Nat):cf:=cn xN (m8 n)
def JR:FT:=⟨⟨[.d (.sl GD)],[]⟩,⟨vT,[]⟩,dE [(8,(.j ⟨[0],[4,5,6,7,8],⟨[.d aM,.d aM,.d aM,.d aM,.d aM],[]⟩,[]⟩)),(16,(.j ⟨[0,8],[4,5,6,7],⟨[.d aM,.d aM,.d aM,.d aM],[]⟩,[]⟩)),(38,(.j ⟨[0,8],[4,5,6,7,9],⟨[.d aM,.d aM,.d aM,.d aM,.ptr 0 0],Zg⟩,[]⟩)),(39,(.j ⟨[0,4,5,6,7,8,36],[9,39],⟨gY,Zg⟩,[]⟩)),(47,(.j ⟨[0,4,5,6,7,8,36],[9,47],⟨gY,Zg⟩,[]⟩)),(61,(.j ⟨[0,4,5,6,7,8],[9,69],⟨gY,Zg⟩,[]⟩))]⟩
def Vg:cf:=cn JR rq
def Du:FT:=⟨⟨[.d No],[]⟩,⟨vT,[]⟩,dE [(6,(.j ⟨[],[1,4],⟨wY,S1⟩,[]⟩)),(17,(.j ⟨[4],[1,5,37],⟨qL,ag4⟩,[]⟩)),(29,(.j ⟨[],[1,6],⟨wY,S1⟩,[]⟩)),(51,(.j ⟨[6],[1,7,8],⟨vU,ag4⟩,[]⟩)),(62,(.j ⟨[6,8],[1,7,90],⟨qL,ag4⟩,[]⟩))]⟩
def OX:cf:=cn Du nF
def Dw:FT:=⟨⟨[.d No],[]⟩,⟨vT,[]⟩,dE [(44,(.j ⟨[],[1,8,9],⟨S5,S1⟩,[]⟩)),(67,(.a [.cel 10 3 216 .sm,.cel 10 4 9 .str,.cel 10 5 9 .str])),(69,(.j ⟨[],[1,10,11],⟨vU,[.cells 160 [.d No],.cells 241 [.d (.sl GD),.d (.sl sQ),.d aM,.row 2,.row 3,.row 4],.rowsP 216 .sm,.rows 9 ai .str,.rows 9 ai .str]⟩,[]⟩))]⟩
def OZ:cf:=cn Dw fk
def xK:FT:=⟨⟨[.row 0,.d aM,.d aM,.d (.sl .sm)],[.rows 141 ai om]⟩,⟨[.row 1,.d aM],[.gone,.rows 141 ai om]⟩,dE [(1,(.a [.ren 0 0])),(6,(.j ⟨[1,3],[0,2,10],⟨[.row 1,.d aM,.d aM],[.gone,.rows 141 ai om]⟩,[]⟩)),(25,(.a [.nil 8 141 om]))]⟩
def U8:cf:=cn xK Is
def Ud (n:Nat):cf:=cn xK (pn n)
def Gh:FT:=⟨⟨[.d (.sl qT),.d .str],[]⟩,⟨[.d aM],[]⟩,dE [(6,(.j ⟨[0,1],[5],⟨[.d aM],[]⟩,[]⟩))]⟩
def Sa:cf:=cn Gh j_
def Gj:FT:=⟨⟨[.d l_,.d .str],[]⟩,⟨[.d aM],[]⟩,dE [(6,(.j ⟨[1],[2,5],⟨wY,pQ⟩,[]⟩))]⟩
def Sc:cf:=cn Gj lj
def JM:FT:=⟨⟨[.d No],[]⟩,⟨[.d l_],[]⟩,dE [(18,(.j ⟨[],[1,2,3,6],⟨Fn,and⟩,[.cel 3 0 134 kw,.cel 3 1 61 qT,.cel 3 2 90 lh,.cel 3 3 9 .str]⟩)),(31,(.j ⟨[6],[1,2,3],⟨[.ptr 0 0,.ptr 1 0,.ptr 2 0],and⟩,[]⟩)),(32,(.j ⟨[6,31],[1,2,3,7,39],⟨zQ,ak7⟩,[]⟩)),(42,(.j ⟨[6],[1,2,3,7,8],⟨[.ptr 0 0,.ptr 1 0,.ptr 2 0,.ptr 3 0,.d aM],ak7⟩,[]⟩)),(53,(.j ⟨[6,31],[1,2,3,7,65],⟨zQ,ak7⟩,[]⟩)),(69,(.a [.cel 3 5 141 om])),(71,(.j ⟨[],[1,2,3,9],⟨Fn,[.cells 160 [.d No],.cells 31 ag0,.cells 31 [.row 3,.row 4,.row 5,.row 6,.row 7,.row 8],.rows 134 ai kw,.rows 61 ai qT,.rows 90 ai lh,.rows 9 ai .str,.rows 9 ai .str,.rows 141 ai om]⟩,[.cel 3 4 9 .str]⟩))]⟩
def Va:cf:=cn JM uj
def JJ:FT:=⟨⟨[.d l_],[]⟩,⟨[.d (.sl .str),.d .bool],[]⟩,dE [(8,(.j ⟨[],[1,4,5],⟨KF,Zi⟩,[.nil 4 9 .str]⟩)),(15,(.j ⟨[],[1,4,5],⟨KF,Zi⟩,[]⟩)),(37,(.j ⟨[5],[1,4,6,51],⟨[.ptr 0 0,.row 1,.ptr 2 0,.d .bool],ajv⟩,[]⟩)),(48,(.j ⟨[5],[1,4,6,7],⟨[.ptr 0 0,.row 1,.ptr 2 0,.d aM],ajv⟩,[]⟩)),(59,(.j ⟨[5,7],[1,4,6,93],⟨[.ptr 0 0,.row 1,.ptr 2 0,.d .bool],ajv⟩,[]⟩)),(72,(.j ⟨[],[1,4,9],⟨KF,Zi⟩,[]⟩)),(87,(.j ⟨[],[1,4,10],⟨KF,Zi⟩,[]⟩))]⟩
def U9:cf:=cn JJ pf
def yl:FT:=⟨⟨[.d l_],[]⟩,⟨[.d .bool],[]⟩,dE [(3,(.j ⟨[],[1,49],⟨gY,pQ⟩,[]⟩)),(24,(.j ⟨[3],[1,5],⟨wY,pQ⟩,[]⟩)),(33,(.j ⟨[3,5],[1,79],⟨gY,pQ⟩,[]⟩)),(45,(.j ⟨[],[1,6],⟨wY,pQ⟩,[]⟩)),(56,(.j ⟨[6],[1,109],⟨gY,pQ⟩,[]⟩)),(68,(.j ⟨[],[1,8],⟨wY,pQ⟩,[]⟩)),(76,(.j ⟨[8],[1],⟨[.ptr 0 0],pQ⟩,[]⟩)),(80,(.j ⟨[8],[1,9,132],⟨qL,[.cells 31 [.d l_],.cells 141 [.d om]]⟩,[]⟩)),(87,(.j ⟨[8],[1,9,146],⟨qL,[.cells 31 [.d l_],.cells 141 [.d om]]⟩,[]⟩)),(90,(.j ⟨[8],[1,165],⟨gY,pQ⟩,[]⟩))]⟩
def G7:cf:=cn yl g_
def zu:FT:=⟨⟨[.d qR],[]⟩,⟨nj,[]⟩,dE [(6,(.j ⟨[4],[1,5],⟨gY,[.cells 206 [.d qR]]⟩,[]⟩)),(24,(.j ⟨[4],[1,13],⟨gY,[.cells 206 [.d qR]]⟩,[]⟩)),(46,(.j ⟨[4],[1,37],⟨gY,[.cells 206 [.d qR]]⟩,[]⟩))]⟩
def Kc:cf:=cn zu jB
def Gi:FT:=⟨⟨[.d aM],[]⟩,⟨[.d .bool],[]⟩,dE [(2,(.j ⟨[],[2],⟨[.d .bool],[]⟩,[]⟩))]⟩
def Sb:cf:=cn Gi pD
def JK:FT:=⟨⟨[.d (.sl qR),.d aM],[]⟩,⟨[.d .bool],[]⟩,dE [(6,(.j ⟨[0],[1,5],⟨vT,[]⟩,[]⟩)),(14,(.j ⟨[0,5],[1],⟨[.d aM],[]⟩,[]⟩)),(16,(.j ⟨[0,1,5],[19],⟨[.d .bool],[]⟩,[]⟩))]⟩
def U_:cf:=cn JK pg
def Xb:FT:=⟨⟨vT,[]⟩,⟨[.d .bool],[]⟩,dE [(2,(.j ⟨[],[4],⟨[.d .bool],[]⟩,[]⟩))]⟩
def af5:cf:=cn Xb jh
def JL:FT:=⟨⟨[.d l_,.d aM,.d aM],[]⟩,⟨[.d .bool],[]⟩,dE [(2,(.j ⟨[],[6],⟨[.d .bool],[]⟩,[]⟩))]⟩
def U':cf:=cn JL mW
def Dr:FT:=⟨⟨[.d l_,.d qR],[]⟩,⟨[.d .bool],[]⟩,dE [(9,(.j ⟨[],[4],⟨[.d .bool],[]⟩,[]⟩)),(15,(.j ⟨[],[4],⟨[.d .bool],[]⟩,[]⟩)),(30,(.j ⟨[6],[2,3,59],⟨qL,ag2⟩,[]⟩)),(37,(.j ⟨[],[4],⟨[.d .bool],[]⟩,[]⟩)),(40,(.j ⟨[6],[2,3,78],⟨qL,ag2⟩,[]⟩)),(55,(.j ⟨[],[4],⟨[.d .bool],[]⟩,[]⟩)),(58,(.j ⟨[6],[2,3,98],⟨qL,ag2⟩,[]⟩)),(72,(.j ⟨[6],[2,3,108],⟨qL,ag2⟩,[]⟩)),(97,(.j ⟨[],[4],⟨[.d .bool],[]⟩,[]⟩)),(103,(.j ⟨[],[4],⟨[.d .bool],[]⟩,[]⟩))]⟩
def OU:cf:=cn Dr lz
def wO:FT:=⟨⟨[.d l_,.d aM,.d wZ],[]⟩,⟨[.d .bool],[]⟩,dE [(5,(.j ⟨[1,7],[3,5,26],⟨qL,acw⟩,[]⟩)),(16,(.j ⟨[1,7],[3,5,8],⟨vU,acw⟩,[]⟩)),(28,(.j ⟨[1,7,8],[3,5,9,67],⟨DW,ajw⟩,[]⟩)),(36,(.j ⟨[1,7,8],[3,5,9,100],⟨DW,ajw⟩,[]⟩)),(44,(.j ⟨[1,7,8],[3,5,9,122],⟨DW,ajw⟩,[]⟩)),(56,(.j ⟨[1,7,8,10],[3,5,11],⟨vU,acw⟩,[]⟩))]⟩
def E8:cf:=cn wO ii
def JN:FT:=⟨⟨[.d uJ],[]⟩,⟨[.d .bool],[]⟩,dE [(3,(.j ⟨[],[1,17],⟨gY,[.cells 123 [.d uJ]]⟩,[]⟩)),(14,(.j ⟨[],[1,3],⟨wY,[.cells 123 [.d uJ]]⟩,[]⟩))]⟩
def Vb:cf:=cn JN jA
def Ds:FT:=⟨⟨[.ptr 0 0,.d qR],La5⟩,⟨[],La4⟩,.leaf⟩
def OV:cf:=cn Ds cB
def qG:FT:=⟨⟨[.ptr 0 0,.d .ex,.d aM],La5⟩,⟨[],La4⟩,dE [(2,(.j ⟨[],[],⟨[],La4⟩,[]⟩))]⟩
def Ka:cf:=cn qG iD
def IC (n:Nat):cf:=cn qG (iE n)
def yk:FT:=⟨⟨[.ptr 0 0,.d .sm],La5⟩,⟨[],La4⟩,.leaf⟩
def G6:cf:=cn yk lQ
def AZ:FT:=⟨⟨[.ptr 0 0,.d .str],La5⟩,⟨[.d aM],La5⟩,dE [(6,(.j ⟨[1],[0,5],⟨wY,La5⟩,[]⟩))]⟩
def LQ:cf:=cn AZ jq
def qH:FT:=⟨⟨[.ptr 0 0,.d (.sl .sm)],La5⟩,⟨[],La4⟩,dE [(1,(.a [.ren 0 7])),(3,(.j ⟨[1],[0,4],⟨wY,La4⟩,[]⟩))]⟩
def Kb:cf:=cn qH ui
def ID (n:Nat):cf:=cn qH (dL n)
def vQ:FT:=⟨⟨[.ptr 0 0,.d .sm],La5⟩,⟨[],La4⟩,dE [(1,(.a [.ren 0 7])),(10,(.j ⟨[],[],⟨[],La4⟩,[]⟩)),(15,(.j ⟨[4,25],[0,3,31],⟨[.ptr 0 0,.ptr 2 0,.d .bool],[.cells 202 [.d (.sl kw),.d (.sl qT),.d (.sl lh),.d (.sl .str),.d (.sl .str),.d (.sl om),.d (.sl .str),.row 3,.d aM,.d aM],.gone,.cells 216 [.d .sm],.rows 206 ai qR]⟩,[]⟩))]⟩
def Li (n:Nat):cf:=cn vQ (eO n)
def qI:FT:=⟨⟨[.ptr 0 0,.d .sm],La5⟩,⟨[],La4⟩,.leaf⟩
def CQ (n:Nat):cf:=cn qI (db n)
def sO:FT:=⟨⟨[.ptr 0 0,.d .sm,.d aM,.d aM,.d aM],La5⟩,⟨[],La4⟩,.leaf⟩
def GR (n:Nat):cf:=cn sO (dH n)
def Dt:FT:=⟨⟨[.d No],[]⟩,⟨[.d uJ,.d aM,.d aM],[]⟩,dE [(20,(.j ⟨[],[1,2,7,8,9],⟨[.ptr 0 0,.ptr 1 0,.ptr 2 0,.d aM,.d aM],[.cells 160 [.d No],.cells 123 Zj,.cells 123 [.d (.sl kw),.d (.sl qT),.d (.sl lh),.d (.sl .str),.d (.sl .str),.d (.sl om),.row 3],.rows 189 ai wZ]⟩,[.cel 7 6 189 wZ]⟩)),(32,(.a [.cel 10 7 206 qR])),(45,(.j ⟨[8,9],[1,2,7,10,11,12],⟨ajt,anj⟩,[]⟩)),(59,(.j ⟨[8,9,12,13],[1,2,7,10,11,14],⟨ajt,anj⟩,[]⟩))]⟩
def OW:cf:=cn Dt qj
def Rw:FT:=⟨⟨Hi,[]⟩,⟨[.d .bool],[]⟩,dE [(6,(.j ⟨[0,1],[5],⟨[.d aM],[]⟩,[]⟩))]⟩
def abl:cf:=cn Rw qi
def Rv:FT:=⟨⟨Hi,[]⟩,⟨nj,[]⟩,dE [(6,(.j ⟨[0,1],[5],⟨[.d aM],[]⟩,[]⟩)),(8,(.j ⟨[0,1,5],[18],⟨[.d .bool],[]⟩,[]⟩)),(16,(.j ⟨[0,1,5],[32],⟨[.d .bool],[]⟩,[]⟩))]⟩
def abk:cf:=cn Rv ww
def JI:FT:=⟨⟨[.d (.sl aM),.d (.sl aM)],[]⟩,⟨nj,[]⟩,dE [(8,(.j ⟨[0,1],[5,6],⟨Hi,[]⟩,[]⟩)),(23,(.j ⟨[1],[5,7],⟨Hi,[]⟩,[]⟩))]⟩
def U7:cf:=cn JI rm
def AY:FT:=⟨⟨[.d aM],[]⟩,⟨[.d aM],[]⟩,dE [(3,(.j ⟨[0],[8],⟨[.d .bool],[]⟩,[]⟩))]⟩
def LP:cf:=cn AY md
def M3:FT:=⟨⟨[.d eT],[]⟩,⟨[.agg afz],acy⟩,dE [(8,(.j ⟨[],[1,2,3,4],⟨Fn,[.cells 193 [.d eT],.cells 193 XA,.cells 193 [.d aM,.row 3,.row 4,.d aM],.rows 2 ai aM,.rows 49 ai (.sl aM)]⟩,[.cel 3 2 49 (.sl aM)]⟩))]⟩
def YH:cf:=cn M3 co
def M2:FT:=⟨⟨[.d qR,.agg afz],acy⟩,⟨[.agg afz,.d .bool],acy⟩,dE [(8,(.j ⟨[6],[2,3,4,7],⟨[.ptr 2 0,.ptr 3 0,.ptr 4 0,.d aM],ak4⟩,[]⟩)),(17,(.j ⟨[6,7],[2,3,4,33],⟨[.ptr 2 0,.ptr 3 0,.ptr 4 0,.d .bool],ak4⟩,[]⟩)),(32,(.j ⟨[],[2,3,4,8,9,10],⟨[.ptr 2 0,.ptr 3 0,.ptr 4 0,.d aM,.d .bool,.d (.sl aM)],ak4⟩,[]⟩))]⟩
def YG:cf:=cn M2 wv
def Gg:FT:=⟨⟨[.d wZ,.d eT],[]⟩,⟨[.d eT,.d .bool],[]⟩,dE [(3,(.j ⟨[],[2,3,4,23],⟨DW,[.cells 189 [.d wZ],.cells 193 [.d eT],.cells 193 XA]⟩,[]⟩)),(16,(.j ⟨[],[2,3,4,6],⟨Fn,anb⟩,[]⟩)),(26,(.j ⟨[6],[2,3,4,44],⟨DW,anb⟩,[]⟩))]⟩
def R_:cf:=cn Gg mV
def JG:FT:=⟨⟨[.d l_],[]⟩,⟨[.d Hk],[]⟩,dE [(8,(.j ⟨[],[1,2,3,4],⟨Fn,[.cells 31 [.d l_],.cells 107 Cc,.cells 107 [.row 3,.d aM,.nil,.nil],.rows 175 ai dY]⟩,[.cel 3 0 175 dY]⟩)),(23,(.j ⟨[],[1,2,3,5],⟨Fn,[.cells 31 [.d l_],.cells 107 Cc,.cells 107 [.row 3,.d aM,.row 4,.nil],.rows 175 ai dY,.rows 4 ai .bool]⟩,[.cel 3 2 4 .bool]⟩)),(38,(.j ⟨[],[1,2,3,6],⟨Fn,[.cells 31 [.d l_],.cells 107 Cc,.cells 107 act,.rows 175 ai dY,.rows 4 ai .bool,.rows 177 ai hY]⟩,[.cel 3 3 177 hY]⟩)),(49,(.j ⟨[6],[1,2,3,7],⟨acv,[.cells 31 [.d l_],.cells 107 Cc,.cells 107 [.row 4,.d aM,.row 5,.row 6],.cells 177 [.d hY],.rows 175 ai dY,.rows 4 ai .bool,.rows 177 ai hY]⟩,[]⟩))]⟩
def U5:cf:=cn JG rj
def M0:FT:=⟨⟨[.d l_,.d Hk],[]⟩,⟨[.d .bool],[]⟩,dE [(6,(.j ⟨[],[2,3,5],⟨vU,V4⟩,[]⟩)),(15,(.j ⟨[5],[2,3,31],⟨qL,V4⟩,[]⟩)),(23,(.j ⟨[],[4],⟨[.d .bool],[]⟩,[]⟩))]⟩
def YE:cf:=cn M0 rk
def Xa:FT:=⟨⟨vT,[]⟩,⟨[.d .bool],[]⟩,dE [(2,(.j ⟨[],[4],⟨[.d .bool],[]⟩,[]⟩))]⟩
def af4:cf:=cn Xa qh
def JF:FT:=⟨⟨[.d l_,.d aM,.d aM],[]⟩,⟨[.d .bool],[]⟩,dE [(6,(.j ⟨[2,7],[3,8],⟨gY,pQ⟩,[]⟩)),(36,(.j ⟨[2,7],[3,18],⟨gY,pQ⟩,[]⟩)),(46,(.j ⟨[2,7],[3,26],⟨gY,pQ⟩,[]⟩)),(53,(.j ⟨[],[6],⟨[.d .bool],[]⟩,[]⟩)),(56,(.j ⟨[2,7],[3,43],⟨gY,pQ⟩,[]⟩)),(71,(.j ⟨[],[6],⟨[.d .bool],[]⟩,[]⟩)),(74,(.j ⟨[2,7],[3,61],⟨gY,pQ⟩,[]⟩)),(92,(.j ⟨[2,7],[3,71],⟨gY,pQ⟩,[]⟩)),(102,(.j ⟨[2],[3,79],⟨gY,pQ⟩,[]⟩))]⟩
def U4:cf:=cn JF uh
def Dq:FT:=⟨⟨[.d l_,.d Hk,.d aM,.d aM,.d aM],[]⟩,⟨[.d .bool],[]⟩,dE [(3,(.j ⟨[2,3,4],[5,6,30],⟨qL,V4⟩,[]⟩)),(25,(.j ⟨[],[10],⟨[.d .bool],[]⟩,[]⟩)),(50,(.j ⟨[],[10],⟨[.d .bool],[]⟩,[]⟩)),(56,(.j ⟨[],[10],⟨[.d .bool],[]⟩,[]⟩)),(59,(.j ⟨[2,4,70],[5,6,11,119],⟨DW,[.cells 31 [.d l_],.cells 107 [.d Hk],.cells 177 [.d hY]]⟩,[]⟩)),(99,(.j ⟨[2,4,70],[5,6,160],⟨qL,V4⟩,[]⟩)),(116,(.j ⟨[],[10],⟨[.d .bool],[]⟩,[]⟩)),(122,(.j ⟨[],[10],⟨[.d .bool],[]⟩,[]⟩))]⟩
def OT:cf:=cn Dq j9
def Dp:FT:=⟨⟨[.d Hk,.d aM],[]⟩,⟨nj,[]⟩,dE [(8,(.j ⟨[1],[2,5,6],⟨KF,acu⟩,[.nil 5 3 aM]⟩)),(16,(.j ⟨[1,6],[2,5],⟨[.ptr 0 0,.row 1],acu⟩,[]⟩)),(17,(.j ⟨[1,6],[2,5,30],⟨[.ptr 0 0,.row 1,.d .bool],acu⟩,[]⟩))]⟩
def OR:cf:=cn Dp nE
def Do:FT:=⟨⟨Hi,[]⟩,⟨nj,[]⟩,dE [(8,(.j ⟨[0,1],[5,6],⟨[.row 0,.d aM],[.rows 3 ai aM]⟩,[.nil 5 3 aM]⟩)),(16,(.j ⟨[0,1,6],[5],⟨[.row 0],[.rows 3 ai aM]⟩,[]⟩))]⟩
def OQ:cf:=cn Do qg
def M1:FT:=⟨⟨[.d Hk],[]⟩,⟨[.agg Hj],aju⟩,dE [(8,(.j ⟨[],[1,2,3,4],⟨Fn,[.cells 107 [.d Hk],.cells 107 Cc,.cells 107 act,.rows 175 ai dY,.rows 4 ai .bool,.rows 177 ai hY]⟩,[.cel 3 0 175 dY]⟩))]⟩
def YF:cf:=cn M1 ig
def mj:FT:=⟨⟨[.agg Hj,.d aM],aju⟩,⟨nj,aju⟩,dE [(8,(.j ⟨[1],[2,5,6],⟨[.ptr 3 0,.row 4,.d aM],ak0⟩,[.nil 5 3 aM]⟩)),(16,(.j ⟨[1,6],[2,5],⟨[.ptr 3 0,.row 4],ak0⟩,[]⟩)),(17,(.j ⟨[1,6],[2,5,30],⟨[.ptr 3 0,.row 4,.d .bool],ak0⟩,[]⟩))]⟩
def LO:cf:=cn mj mc
def J_:cf:=⟨mj.pre,⟨mj.post.vs,[]⟩,jz⟩
def JH:FT:=⟨⟨[.d l_,.d Hk,.d aM,.d aM,.d aM,.d aM],[]⟩,⟨[.d Hk,.d aM,.d .bool],[]⟩,dE [(17,(.j ⟨[],[7,12,15],⟨vU,ak2⟩,[]⟩)),(26,(.j ⟨[2,4,5,15,30],[6,7,12,45],⟨DW,anc⟩,[]⟩)),(34,(.j ⟨[2,4,5,15,30],[6,7,12,54],⟨DW,anc⟩,[]⟩)),(90,(.j ⟨[],[7,12,17],⟨vU,ak2⟩,[]⟩)),(109,(.j ⟨[18],[7,12,19],⟨vU,ak2⟩,[]⟩))]⟩
def U6:cf:=cn JH pe
def JE:FT:=⟨⟨[.d uJ],[]⟩,⟨[.d vW],[]⟩,dE [(16,(.j ⟨[],[1,2,3,4],⟨Fn,[.cells 123 [.d uJ],.cells 118 vV,.cells 118 [.d (.sl dY),.d aM,.d pR,.d (.sl hY),.row 3,.nil,.nil],.rows 2 ai aM]⟩,[.cel 3 4 2 aM]⟩)),(31,(.j ⟨[],[1,2,3,5],⟨Fn,[.cells 123 [.d uJ],.cells 118 vV,.cells 118 [.d (.sl dY),.d aM,.d pR,.d (.sl hY),.row 3,.row 4,.nil],.rows 2 ai aM,.rows 2 ai aM]⟩,[.cel 3 5 2 aM]⟩)),(46,(.j ⟨[],[1,2,3,6],⟨Fn,[.cells 123 [.d uJ],.cells 118 vV,.cells 118 ak1,.rows 2 ai aM,.rows 2 ai aM,.rows 193 ai eT]⟩,[.cel 3 6 193 eT]⟩))]⟩
def U3:cf:=cn JE ug
def MZ:FT:=⟨⟨[.d uJ,.d vW],[]⟩,⟨[.d .bool],[]⟩,dE [(3,(.j ⟨[],[2,3,46],⟨qL,acx⟩,[]⟩)),(14,(.j ⟨[],[2,3,5],⟨vU,acx⟩,[]⟩)),(25,(.j ⟨[5],[2,3,97],⟨qL,acx⟩,[]⟩))]⟩
def YC:cf:=cn MZ wu
def MX:FT:=⟨⟨[.d aM],[]⟩,⟨[.d aM],[]⟩,dE [(5,(.j ⟨[0],[3,10],⟨[.row 0,.d .bool],[.rows 3 aj aM]⟩,[]⟩))]⟩
def YA:cf:=cn MX wn
def FU:FT:=⟨⟨[.d qR,.d eT],[]⟩,⟨[.d aM],[]⟩,dE [(6,(.j ⟨[6],[2,3,7],⟨qL,[.cells 206 [.d qR],.cells 193 [.d eT]]⟩,[]⟩)),(28,(.j ⟨[],[2,40],⟨gY,[.cells 206 [.d qR]]⟩,[]⟩))]⟩
def RK:cf:=cn FU r_
def Dn:FT:=⟨⟨[.d uJ,.d vW,.d aM],[]⟩,⟨[.d gd,.d .bool],[]⟩,dE [(3,(.j ⟨[2],[3,4,6,25],⟨DW,[.cells 123 [.d uJ],.cells 118 [.d vW],.cells 54 uV]⟩,[]⟩)),(54,(.j ⟨[],[6,8,9,10],⟨acv,an9⟩,[.cel 10 5 3 aM]⟩)),(59,(.j ⟨[],[6,8,9,10,98],⟨zQ,[.cells 54 uV,.cells 193 [.d eT],.cells 206 [.d qR],.cells 54 uV]⟩,[]⟩)),(68,(.j ⟨[],[6,10],⟨[.ptr 0 0,.ptr 1 0],[.cells 54 uV,.cells 54 [.d aM,.d aM,.d aM,.d aM,.d aM,.row 2,.row 3],.rows 3 ai aM,.rows 3 ai aM]⟩,[.cel 10 6 3 aM]⟩)),(69,(.j ⟨[],[6,8,9,10,123],⟨zQ,an9⟩,[]⟩))]⟩
def OP:cf:=cn Dn nD
def JB:FT:=⟨⟨[.d l_],[]⟩,⟨[.d iL],[]⟩,dE [(8,(.j ⟨[],[1,2,3,4],⟨Fn,[.cells 31 [.d l_],.cells 110 vV,.cells 110 ak1,.rows 2 ai aM,.rows 2 aj aM,.rows 3 aj aM]⟩,[.cel 3 4 2 aM]⟩))]⟩
def U1:cf:=cn JB mI
def MW:FT:=⟨⟨[.d l_,.d iL],[]⟩,⟨[.d .bool],[]⟩,dE [(2,(.j ⟨[],[4],⟨[.d .bool],[]⟩,[]⟩))]⟩
def Yz:cf:=cn MW wj
def W_:FT:=⟨⟨vT,[]⟩,⟨[.d .bool],[]⟩,dE [(2,(.j ⟨[],[4],⟨[.d .bool],[]⟩,[]⟩))]⟩
def af3:cf:=cn W_ CK
def Dm:FT:=⟨⟨Hi,[]⟩,⟨[.d .bool],[]⟩,dE [(6,(.j ⟨[0,1],[5],⟨[.d aM],[]⟩,[]⟩)),(15,(.j ⟨[0,1,5],[40],⟨[.d .bool],[]⟩,[]⟩))]⟩
def OO:cf:=cn Dm nC
def Jz:FT:=⟨⟨[.d iL,.d gd],[]⟩,⟨[.d .bool],[]⟩,dE [(21,(.j ⟨[],[4],⟨[.d .bool],[]⟩,[]⟩)),(24,(.j ⟨[7],[2,3,40],⟨qL,[.cells 110 [.d iL],.cells 54 [.d gd]]⟩,[]⟩)),(47,(.j ⟨[],[4],⟨[.d .bool],[]⟩,[]⟩))]⟩
def UZ:cf:=cn Jz ue
def MV:FT:=⟨⟨[.d l_,.d iL,.d gd],[]⟩,⟨[.d iL,.d .bool],[]⟩,dE [(3,(.j ⟨[],[3,4,5,6,46],⟨zQ,KK⟩,[]⟩)),(10,(.j ⟨[],[3,4,5,6],⟨acv,KK⟩,[]⟩)),(11,(.j ⟨[],[3,4,5,6,55],⟨zQ,KK⟩,[]⟩)),(21,(.j ⟨[],[3,4,5,6,78],⟨zQ,KK⟩,[]⟩)),(28,(.j ⟨[],[3,4,5,6,8],⟨zQ,KK⟩,[]⟩)),(31,(.j ⟨[],[3,4,5,6,110],⟨zQ,KK⟩,[]⟩)),(39,(.j ⟨[],[3,4,5,6,125],⟨zQ,KK⟩,[]⟩)),(47,(.j ⟨[],[3,4,5,6,154],⟨zQ,KK⟩,[]⟩)),(58,(.j ⟨[],[3,4,5,6,9,10],⟨ajt,[.cells 31 [.d l_],.cells 110 [.d iL],.cells 54 [.d gd],.cells 110 vV,.cells 110 [.nil,.d aM,.nil,.nil,.row 5,.row 6,.row 7],.rows 2 ai aM,.rows 2 ai aM,.rows 3 ai aM]⟩,[]⟩)),(66,(.j ⟨[],[5,6,9],⟨[.ptr 0 0,.ptr 1 0,.ptr 2 0],ajr⟩,[]⟩)),(72,(.j ⟨[],[5,6,9],⟨[.ptr 0 0,.ptr 1 0,.ptr 2 0],ajr⟩,[]⟩))]⟩
def Yy:cf:=cn MV ri
def JA:FT:=⟨⟨[.d (.sl gd),.d aM,.d aM,.d (.sl aM)],[]⟩,⟨[.d .bool],[]⟩,dE [(6,(.j ⟨[0,1,2,3],[9],⟨[.d aM],[]⟩,[]⟩)),(23,(.j ⟨[0,1,2,3,9],[10,11,12],⟨[.d aM,.d .bool,.d aM],[]⟩,[]⟩)),(31,(.j ⟨[0,1,2,3,9,12],[10,11],⟨[.d aM,.d .bool],[]⟩,[]⟩)),(38,(.j ⟨[0,1,2,3,9,10,12],[11],⟨[.d .bool],[]⟩,[]⟩))]⟩
def U0:cf:=cn JA rh
def JD:FT:=⟨⟨[.d oK],[]⟩,⟨vT,[]⟩,dE [(24,(.j ⟨[],[1,4,5],⟨vU,[.cells 34 [.d oK],.cells 110 [.d iL]]⟩,[]⟩)),(38,(.j ⟨[5],[1,4,7,63],⟨DW,[.cells 34 [.d oK],.cells 110 [.d iL],.cells 110 [.d iL]]⟩,[]⟩))]⟩
def U2:cf:=cn JD uf
def Gf:FT:=⟨⟨[.d vW],[]⟩,⟨[.agg [.agg Hj,.row 3,.row 4,.csl 5 4 1]],[.rows 175 ai dY,.rows 4 ai .bool,.rows 177 ai hY,.rows 2 ai aM,.rows 2 ai aM,.cells 193 [.d aM,.row 6,.row 7,.d aM],.rows 2 ai aM,.rows 49 ai (.sl aM)]⟩,dE [(8,(.u 2))]⟩
def R9:cf:=cn Gf mU
def F5:FT:=⟨⟨L_,[]⟩,⟨Ma,[]⟩,dE [(27,(.s 5 0 0 1)),(37,(.j ⟨[],[3,4,5,6,7,9,14,15,16],⟨Me,akd⟩,[]⟩)),(38,(.j ⟨[16,77],[3,4,5,6,7,9,14,15,78],⟨Nn,akd⟩,[]⟩)),(83,(.j ⟨[16],[3,4,5,6,7,9,14],⟨Mc,[.cells 123 [.d uJ],.cells 118 ahq,.cells 163 [.d iK],.cells 118 vV,.cells 54 uV,.cells 54 [.d gd],.cells 193 KI,.rows 2 ai aM,.rows 2 ai aM,.cells 193 KI,.rows 2 ai aM,.rows 49 ai (.sl aM)]⟩,[]⟩)),(84,(.j ⟨[16],[3,4,5,6,7,9,14,15,154],⟨Nn,akd⟩,[]⟩)),(95,(.j ⟨[],[4,5,6,7,9,14],⟨Mb,[.cells 118 [.d (.sl dY),.d aM,.d pR,.d (.sl hY),.row 6,.row 7,.csl 8 4 1],.cells 163 [.d iK],.cells 118 vV,.cells 54 uV,.cells 54 [.d gd],.cells 193 [.d eT],.rows 2 ai aM,.rows 2 ai aM,.cells 193 [.d eT]]⟩,[]⟩)),(96,(.j ⟨[],[3,4,5,6,7,9,14,183],⟨Md,[.cells 123 [.d uJ],.cells 118 ahq,.cells 163 [.d iK],.cells 118 vV,.cells 54 uV,.cells 54 [.d gd],.cells 193 KJ,.rows 2 ai aM,.rows 2 ai aM,.cells 193 KJ]⟩,[]⟩)),(102,(.s 5 0 0 1)),(104,(.a [.pk 4 6 eT]))]⟩
def RY:cf:=cn F5 fZ
def Ge:FT:=⟨⟨[.d vW],[]⟩,⟨[.agg [.agg Hj,.row 3,.row 4,.csl 5 4 2]],[.rows 175 ai dY,.rows 4 ai .bool,.rows 177 ai hY,.rows 2 ai aM,.rows 2 ai aM,.cells 193 [.d aM,.row 6,.row 7,.d aM,.d eT],.rows 2 ai aM,.rows 49 ai (.sl aM)]⟩,dE [(8,(.u 3))]⟩
def R8:cf:=cn Ge mT
def F4:FT:=⟨⟨L_,[]⟩,⟨Ma,[]⟩,dE [(27,(.s 5 0 0 1)),(37,(.j ⟨[],[3,4,5,6,7,9,14,15,16],⟨Me,akf⟩,[]⟩)),(38,(.j ⟨[16,77],[3,4,5,6,7,9,14,15,78],⟨Nn,akf⟩,[]⟩)),(83,(.j ⟨[16],[3,4,5,6,7,9,14],⟨Mc,[.cells 123 [.d uJ],.cells 118 ag6,.cells 163 [.d iK],.cells 118 vV,.cells 54 uV,.cells 54 [.d gd],.cells 193 KI,.rows 2 ai aM,.rows 2 ai aM,.cells 193 [.d aM,.row 10,.row 11,.d aM,.d eT],.rows 2 ai aM,.rows 49 ai (.sl aM)]⟩,[]⟩)),(84,(.j ⟨[16],[3,4,5,6,7,9,14,15,154],⟨Nn,akf⟩,[]⟩)),(95,(.j ⟨[],[4,5,6,7,9,14],⟨Mb,anh⟩,[]⟩)),(96,(.j ⟨[],[3,4,5,6,7,9,14,183],⟨Md,[.cells 123 [.d uJ],.cells 118 ag6,.cells 163 [.d iK],.cells 118 vV,.cells 54 uV,.cells 54 [.d gd],.cells 193 KJ,.rows 2 ai aM,.rows 2 ai aM,.cells 193 [.d aM,.d (.sl aM),.d tL,.d aM,.d eT]]⟩,[]⟩)),(102,(.s 5 0 0 1)),(104,(.a [.pk 4 6 eT]))]⟩
def RX:cf:=cn F4 gB
def Gb:FT:=⟨⟨[.d vW],[]⟩,⟨[.agg [.agg Hj,.row 3,.row 4,.csl 5 4 2]],[.rows 175 ai dY,.rows 4 ai .bool,.rows 177 ai hY,.rows 2 ai aM,.rows 2 ai aM,.cells 193 [.d eT,.d aM,.row 6,.row 7,.d aM],.rows 2 ai aM,.rows 49 ai (.sl aM)]⟩,dE [(8,(.u 3))]⟩
def R7:cf:=cn Gb mS
def F3:FT:=⟨⟨L_,[]⟩,⟨Ma,[]⟩,dE [(27,(.s 5 0 1 1)),(37,(.j ⟨[],[3,4,5,6,7,9,14,15,16],⟨Me,ake⟩,[]⟩)),(38,(.j ⟨[16,77],[3,4,5,6,7,9,14,15,78],⟨Nn,ake⟩,[]⟩)),(83,(.j ⟨[16],[3,4,5,6,7,9,14],⟨Mc,[.cells 123 [.d uJ],.cells 118 ag6,.cells 163 [.d iK],.cells 118 vV,.cells 54 uV,.cells 54 [.d gd],.cells 193 KI,.rows 2 ai aM,.rows 2 ai aM,.cells 193 [.d eT,.d aM,.row 10,.row 11,.d aM],.rows 2 ai aM,.rows 49 ai (.sl aM)]⟩,[]⟩)),(84,(.j ⟨[16],[3,4,5,6,7,9,14,15,154],⟨Nn,ake⟩,[]⟩)),(95,(.j ⟨[],[4,5,6,7,9,14],⟨Mb,anh⟩,[]⟩)),(96,(.j ⟨[],[3,4,5,6,7,9,14,183],⟨Md,[.cells 123 [.d uJ],.cells 118 ag6,.cells 163 [.d iK],.cells 118 vV,.cells 54 uV,.cells 54 [.d gd],.cells 193 KJ,.rows 2 ai aM,.rows 2 ai aM,.cells 193 [.d eT,.d aM,.d (.sl aM),.d tL,.d aM]]⟩,[]⟩)),(102,(.s 5 0 1 1)),(104,(.a [.pk 4 6 eT]))]⟩
def RW:cf:=cn F3 fY
def Ga:FT:=⟨⟨[.d vW],[]⟩,⟨ajq,[.rows 175 ai dY,.rows 4 ai .bool,.rows 177 ai hY,.rows 2 ai aM,.rows 2 ai aM,.cells 193 [.d aM,.row 6,.row 7,.d aM,.d eT,.d eT],.rows 2 ai aM,.rows 49 ai (.sl aM)]⟩,dE [(8,(.u 4))]⟩
def R6:cf:=cn Ga mR
def F1:FT:=⟨⟨L_,[]⟩,⟨Ma,[]⟩,dE [(27,(.s 5 0 0 1)),(37,(.j ⟨[],[3,4,5,6,7,9,14,15,16],⟨Me,aki⟩,[]⟩)),(38,(.j ⟨[16,77],[3,4,5,6,7,9,14,15,78],⟨Nn,aki⟩,[]⟩)),(83,(.j ⟨[16],[3,4,5,6,7,9,14],⟨Mc,[.cells 123 [.d uJ],.cells 118 Zk,.cells 163 [.d iK],.cells 118 vV,.cells 54 uV,.cells 54 [.d gd],.cells 193 KI,.rows 2 ai aM,.rows 2 ai aM,.cells 193 [.d aM,.row 10,.row 11,.d aM,.d eT,.d eT],.rows 2 ai aM,.rows 49 ai (.sl aM)]⟩,[]⟩)),(84,(.j ⟨[16],[3,4,5,6,7,9,14,15,154],⟨Nn,aki⟩,[]⟩)),(95,(.j ⟨[],[4,5,6,7,9,14],⟨Mb,ak8⟩,[]⟩)),(96,(.j ⟨[],[3,4,5,6,7,9,14,183],⟨Md,[.cells 123 [.d uJ],.cells 118 Zk,.cells 163 [.d iK],.cells 118 vV,.cells 54 uV,.cells 54 [.d gd],.cells 193 KJ,.rows 2 ai aM,.rows 2 ai aM,.cells 193 [.d aM,.d (.sl aM),.d tL,.d aM,.d eT,.d eT]]⟩,[]⟩)),(102,(.s 5 0 0 1)),(104,(.a [.pk 4 6 eT]))]⟩
def RU:cf:=cn F1 jp
def F':FT:=⟨⟨[.d vW],[]⟩,⟨ajq,[.rows 175 ai dY,.rows 4 ai .bool,.rows 177 ai hY,.rows 2 ai aM,.rows 2 ai aM,.cells 193 [.d eT,.d aM,.row 6,.row 7,.d aM,.d eT],.rows 2 ai aM,.rows 49 ai (.sl aM)]⟩,dE [(8,(.u 4))]⟩
def R5:cf:=cn F' mQ
def F0:FT:=⟨⟨L_,[]⟩,⟨Ma,[]⟩,dE [(27,(.s 5 0 1 1)),(37,(.j ⟨[],[3,4,5,6,7,9,14,15,16],⟨Me,akh⟩,[]⟩)),(38,(.j ⟨[16,77],[3,4,5,6,7,9,14,15,78],⟨Nn,akh⟩,[]⟩)),(83,(.j ⟨[16],[3,4,5,6,7,9,14],⟨Mc,[.cells 123 [.d uJ],.cells 118 Zk,.cells 163 [.d iK],.cells 118 vV,.cells 54 uV,.cells 54 [.d gd],.cells 193 KI,.rows 2 ai aM,.rows 2 ai aM,.cells 193 [.d eT,.d aM,.row 10,.row 11,.d aM,.d eT],.rows 2 ai aM,.rows 49 ai (.sl aM)]⟩,[]⟩)),(84,(.j ⟨[16],[3,4,5,6,7,9,14,15,154],⟨Nn,akh⟩,[]⟩)),(95,(.j ⟨[],[4,5,6,7,9,14],⟨Mb,ak8⟩,[]⟩)),(96,(.j ⟨[],[3,4,5,6,7,9,14,183],⟨Md,[.cells 123 [.d uJ],.cells 118 Zk,.cells 163 [.d iK],.cells 118 vV,.cells 54 uV,.cells 54 [.d gd],.cells 193 KJ,.rows 2 ai aM,.rows 2 ai aM,.cells 193 [.d eT,.d aM,.d (.sl aM),.d tL,.d aM,.d eT]]⟩,[]⟩)),(102,(.s 5 0 1 1)),(104,(.a [.pk 4 6 eT]))]⟩
def RQ:cf:=cn F0 iC
def F_:FT:=⟨⟨[.d vW],[]⟩,⟨ajq,[.rows 175 ai dY,.rows 4 ai .bool,.rows 177 ai hY,.rows 2 ai aM,.rows 2 ai aM,.cells 193 [.d eT,.d eT,.d aM,.row 6,.row 7,.d aM],.rows 2 ai aM,.rows 49 ai (.sl aM)]⟩,dE [(8,(.u 4))]⟩
def R4:cf:=cn F_ mP
def FZ:FT:=⟨⟨L_,[]⟩,⟨Ma,[]⟩,dE [(27,(.s 5 0 2 1)),(37,(.j ⟨[],[3,4,5,6,7,9,14,15,16],⟨Me,akg⟩,[]⟩)),(38,(.j ⟨[16,77],[3,4,5,6,7,9,14,15,78],⟨Nn,akg⟩,[]⟩)),(83,(.j ⟨[16],[3,4,5,6,7,9,14],⟨Mc,[.cells 123 [.d uJ],.cells 118 Zk,.cells 163 [.d iK],.cells 118 vV,.cells 54 uV,.cells 54 [.d gd],.cells 193 KI,.rows 2 ai aM,.rows 2 ai aM,.cells 193 [.d eT,.d eT,.d aM,.row 10,.row 11,.d aM],.rows 2 ai aM,.rows 49 ai (.sl aM)]⟩,[]⟩)),(84,(.j ⟨[16],[3,4,5,6,7,9,14,15,154],⟨Nn,akg⟩,[]⟩)),(95,(.j ⟨[],[4,5,6,7,9,14],⟨Mb,ak8⟩,[]⟩)),(96,(.j ⟨[],[3,4,5,6,7,9,14,183],⟨Md,[.cells 123 [.d uJ],.cells 118 Zk,.cells 163 [.d iK],.cells 118 vV,.cells 54 uV,.cells 54 [.d gd],.cells 193 KJ,.rows 2 ai aM,.rows 2 ai aM,.cells 193 [.d eT,.d eT,.d aM,.d (.sl aM),.d tL,.d aM]]⟩,[]⟩)),(102,(.s 5 0 2 1)),(104,(.a [.pk 4 6 eT]))]⟩
def RP:cf:=cn FZ gZ
def F9:FT:=⟨⟨[.d vW],[]⟩,⟨ag5,[.rows 175 ai dY,.rows 4 ai .bool,.rows 177 ai hY,.rows 2 ai aM,.rows 2 ai aM,.cells 193 [.d aM,.row 6,.row 7,.d aM,.d eT,.d eT,.d eT],.rows 2 ai aM,.rows 49 ai (.sl aM)]⟩,dE [(8,(.u 5))]⟩
def R3:cf:=cn F9 mO
def dC:FT:=⟨⟨L_,[]⟩,⟨Ma,[]⟩,dE [(27,(.s 5 0 0 1)),(37,(.j ⟨[],[3,4,5,6,7,9,14,15,16],⟨Me,akc⟩,[]⟩)),(38,(.j ⟨[16,77],[3,4,5,6,7,9,14,15,78],⟨Nn,akc⟩,[]⟩)),(83,(.j ⟨[16],[3,4,5,6,7,9,14],⟨Mc,[.cells 123 [.d uJ],.cells 118 S4,.cells 163 [.d iK],.cells 118 vV,.cells 54 uV,.cells 54 [.d gd],.cells 193 KI,.rows 2 ai aM,.rows 2 ai aM,.cells 193 [.d aM,.row 10,.row 11,.d aM,.d eT,.d eT,.d eT],.rows 2 ai aM,.rows 49 ai (.sl aM)]⟩,[]⟩)),(84,(.j ⟨[16],[3,4,5,6,7,9,14,15,154],⟨Nn,akc⟩,[]⟩)),(95,(.j ⟨[],[4,5,6,7,9,14],⟨Mb,ag8⟩,[]⟩)),(96,(.j ⟨[],[3,4,5,6,7,9,14,183],⟨Md,[.cells 123 [.d uJ],.cells 118 S4,.cells 163 [.d iK],.cells 118 vV,.cells 54 uV,.cells 54 [.d gd],.cells 193 KJ,.rows 2 ai aM,.rows 2 ai aM,.cells 193 [.d aM,.d (.sl aM),.d tL,.d aM,.d eT,.d eT,.d eT]]⟩,[]⟩)),(102,(.s 5 0 0 1)),(104,(.a [.pk 4 6 eT]))]⟩
def RO:cf:=cn dC mK
def F8:FT:=⟨⟨[.d vW],[]⟩,⟨ag5,[.rows 175 ai dY,.rows 4 ai .bool,.rows 177 ai hY,.rows 2 ai aM,.rows 2 ai aM,.cells 193 [.d eT,.d aM,.row 6,.row 7,.d aM,.d eT,.d eT],.rows 2 ai aM,.rows 49 ai (.sl aM)]⟩,dE [(8,(.u 5))]⟩
def R2:cf:=cn F8 mN
def FY:FT:=⟨⟨L_,[]⟩,⟨Ma,[]⟩,dE [(27,(.s 5 0 1 1)),(37,(.j ⟨[],[3,4,5,6,7,9,14,15,16],⟨Me,akb⟩,[]⟩)),(38,(.j ⟨[16,77],[3,4,5,6,7,9,14,15,78],⟨Nn,akb⟩,[]⟩)),(83,(.j ⟨[16],[3,4,5,6,7,9,14],⟨Mc,[.cells 123 [.d uJ],.cells 118 S4,.cells 163 [.d iK],.cells 118 vV,.cells 54 uV,.cells 54 [.d gd],.cells 193 KI,.rows 2 ai aM,.rows 2 ai aM,.cells 193 [.d eT,.d aM,.row 10,.row 11,.d aM,.d eT,.d eT],.rows 2 ai aM,.rows 49 ai (.sl aM)]⟩,[]⟩)),(84,(.j ⟨[16],[3,4,5,6,7,9,14,15,154],⟨Nn,akb⟩,[]⟩)),(95,(.j ⟨[],[4,5,6,7,9,14],⟨Mb,ag8⟩,[]⟩)),(96,(.j ⟨[],[3,4,5,6,7,9,14,183],⟨Md,[.cells 123 [.d uJ],.cells 118 S4,.cells 163 [.d iK],.cells 118 vV,.cells 54 uV,.cells 54 [.d gd],.cells 193 KJ,.rows 2 ai aM,.rows 2 ai aM,.cells 193 [.d eT,.d aM,.d (.sl aM),.d tL,.d aM,.d eT,.d eT]]⟩,[]⟩)),(102,(.s 5 0 1 1)),(104,(.a [.pk 4 6 eT]))]⟩
def RN:cf:=cn FY mJ
def F7:FT:=⟨⟨[.d vW],[]⟩,⟨ag5,[.rows 175 ai dY,.rows 4 ai .bool,.rows 177 ai hY,.rows 2 ai aM,.rows 2 ai aM,.cells 193 [.d eT,.d eT,.d aM,.row 6,.row 7,.d aM,.d eT],.rows 2 ai aM,.rows 49 ai (.sl aM)]⟩,dE [(8,(.u 5))]⟩
def R1:cf:=cn F7 mM
def FX:FT:=⟨⟨L_,[]⟩,⟨Ma,[]⟩,dE [(27,(.s 5 0 2 1)),(37,(.j ⟨[],[3,4,5,6,7,9,14,15,16],⟨Me,aka⟩,[]⟩)),(38,(.j ⟨[16,77],[3,4,5,6,7,9,14,15,78],⟨Nn,aka⟩,[]⟩)),(83,(.j ⟨[16],[3,4,5,6,7,9,14],⟨Mc,[.cells 123 [.d uJ],.cells 118 S4,.cells 163 [.d iK],.cells 118 vV,.cells 54 uV,.cells 54 [.d gd],.cells 193 KI,.rows 2 ai aM,.rows 2 ai aM,.cells 193 [.d eT,.d eT,.d aM,.row 10,.row 11,.d aM,.d eT],.rows 2 ai aM,.rows 49 ai (.sl aM)]⟩,[]⟩)),(84,(.j ⟨[16],[3,4,5,6,7,9,14,15,154],⟨Nn,aka⟩,[]⟩)),(95,(.j ⟨[],[4,5,6,7,9,14],⟨Mb,ag8⟩,[]⟩)),(96,(.j ⟨[],[3,4,5,6,7,9,14,183],⟨Md,[.cells 123 [.d uJ],.cells 118 S4,.cells 163 [.d iK],.cells 118 vV,.cells 54 uV,.cells 54 [.d gd],.cells 193 KJ,.rows 2 ai aM,.rows 2 ai aM,.cells 193 [.d eT,.d eT,.d aM,.d (.sl aM),.d tL,.d aM,.d eT]]⟩,[]⟩)),(102,(.s 5 0 2 1)),(104,(.a [.pk 4 6 eT]))]⟩
def RM:cf:=cn FX li
def F6:FT:=⟨⟨[.d vW],[]⟩,⟨ag5,[.rows 175 ai dY,.rows 4 ai .bool,.rows 177 ai hY,.rows 2 ai aM,.rows 2 ai aM,.cells 193 [.d eT,.d eT,.d eT,.d aM,.row 6,.row 7,.d aM],.rows 2 ai aM,.rows 49 ai (.sl aM)]⟩,dE [(8,(.u 5))]⟩
def RZ:cf:=cn F6 mL
def FW:FT:=⟨⟨L_,[]⟩,⟨Ma,[]⟩,dE [(27,(.s 5 0 3 1)),(37,(.j ⟨[],[3,4,5,6,7,9,14,15,16],⟨Me,ak9⟩,[]⟩)),(38,(.j ⟨[16,77],[3,4,5,6,7,9,14,15,78],⟨Nn,ak9⟩,[]⟩)),(83,(.j ⟨[16],[3,4,5,6,7,9,14],⟨Mc,[.cells 123 [.d uJ],.cells 118 S4,.cells 163 [.d iK],.cells 118 vV,.cells 54 uV,.cells 54 [.d gd],.cells 193 KI,.rows 2 ai aM,.rows 2 ai aM,.cells 193 [.d eT,.d eT,.d eT,.d aM,.row 10,.row 11,.d aM],.rows 2 ai aM,.rows 49 ai (.sl aM)]⟩,[]⟩)),(84,(.j ⟨[16],[3,4,5,6,7,9,14,15,154],⟨Nn,ak9⟩,[]⟩)),(95,(.j ⟨[],[4,5,6,7,9,14],⟨Mb,ag8⟩,[]⟩)),(96,(.j ⟨[],[3,4,5,6,7,9,14,183],⟨Md,[.cells 123 [.d uJ],.cells 118 S4,.cells 163 [.d iK],.cells 118 vV,.cells 54 uV,.cells 54 [.d gd],.cells 193 KJ,.rows 2 ai aM,.rows 2 ai aM,.cells 193 [.d eT,.d eT,.d eT,.d aM,.d (.sl aM),.d tL,.d aM]]⟩,[]⟩)),(102,(.s 5 0 3 1)),(104,(.a [.pk 4 6 eT]))]⟩
def RL:cf:=cn FW j8
def YD:cf:=cn dC Ac
def MY:FT:=⟨⟨[.d uJ,.d vW,.nil,.d (.sl iK)],[]⟩,⟨[.d (.sl gd),.d vW],[]⟩,dE [(1,(.a [.nil 2 54 gd])),(6,(.j ⟨[3],[2,4,5,9,10],⟨[.row 0,.ptr 1 0,.ptr 2 0,.ptr 3 0,.d aM],ajz⟩,[]⟩)),(8,(.j ⟨[3,10],[2,4,5,9,22],⟨[.row 0,.ptr 1 0,.ptr 2 0,.ptr 3 0,.d .bool],ajz⟩,[]⟩)),(14,(.j ⟨[3,10],[2,4,5,9],⟨[.row 0,.ptr 1 0,.ptr 2 0,.ptr 3 0],ajz⟩,[]⟩))]⟩
def YB:cf:=cn MY wq
def Ru:FT:=⟨⟨[.d uJ,.d (.sl iK)],[]⟩,⟨[.d oK,.d vW],[]⟩,.leaf⟩
def abj:cf:=cn Ru yU
def yq:FT:=⟨⟨wY,S0⟩,⟨[.d aM],S0⟩,dE [(3,(.j ⟨[1],[0,18],⟨gY,Zh⟩,[]⟩))]⟩
def Hb:cf:=cn yq bz
def M6:FT:=⟨⟨[.d aM],[]⟩,⟨[.d .ex],[]⟩,.leaf⟩
def YN:cf:=cn M6 ry
def JW:FT:=⟨⟨[.d .str],[]⟩,⟨[.d .ex],[]⟩,.leaf⟩
def Vq:cf:=cn JW pj
def Dy:FT:=⟨⟨[.d aM,.d .ex,.d .ex],[]⟩,⟨[.d .ex],[]⟩,.leaf⟩
def O3:cf:=cn Dy nI
def Dz:FT:=⟨⟨[.d .str,.d .ex],[]⟩,⟨[.d .sm],[]⟩,.leaf⟩
def O4:cf:=cn Dz ji
def Gr:FT:=⟨⟨[],[]⟩,⟨[.d (.sl GD)],[]⟩,.leaf⟩
def Sm:cf:=cn Gr sd
def Bi:FT:=⟨⟨[.d DX],[]⟩,⟨[.d (.sl iK)],[]⟩,dE [(8,(.j ⟨[0],[3,4],⟨[.row 0,.d aM],[.rows 163 ai iK]⟩,[.nil 3 163 iK]⟩))]⟩
def L4:cf:=cn Bi oG
def nU:FT:=⟨⟨wY,V5⟩,⟨[.d .ex],V5⟩,dE [(8,(.j ⟨[1,6],[0,4,5,14],⟨[.ptr 0 0,.ptr 3 0,.row 4,.d .bool],[.cells 210 ahp,.cells 101 [.d yI],.rowsP 9 .str,.cells 214 [.d aM,.d aM,.d .str,.nil],.rows 9 aj .str]⟩,[]⟩))]⟩
def Fc:cf:=cn nU fc
def Ez (n:Nat):cf:=cn nU (il n)
def vy:FT:=⟨⟨[.ptr 0 0,.d .str],V5⟩,⟨[.d .bool],V5⟩,.leaf⟩
def DM:cf:=cn vy eL
def mz:FT:=⟨⟨S5,V5⟩,⟨[.row 4],[.cells 210 ajx,.cells 101 Pu,.gone,.rowsP 9 .str,.rows 216 ai .sm]⟩,dE [(1,(.a [.ren 0 7])),(8,(.j ⟨[1,2],[0,7,8],⟨[.ptr 0 0,.row 3,.d aM],ana⟩,[.nil 7 216 .sm]⟩)),(10,(.j ⟨[1,2,8],[0,7,22],⟨[.ptr 0 0,.row 3,.d .bool],ana⟩,[]⟩)),(21,(.a [.nil 6 216 .sm]))]⟩
def DL:cf:=cn mz ql
def CR (n:Nat):cf:=cn mz (dI n)
def rH:FT:=⟨⟨wY,V5⟩,⟨[.d .sm],[.cells 210 ajx,.cells 101 Pu,.gone,.rowsP 9 .str]⟩,dE [(1,(.a [.ren 0 7])),(6,(.j ⟨[1,5],[0,4,6],⟨KH,La2⟩,[]⟩)),(28,(.j ⟨[1,5,6],[0,4,74],⟨KH,La2⟩,[]⟩)),(33,(.j ⟨[],[4,7],⟨[.ptr 3 0,.ptr 4 0],[.cells 210 [.ptr 1 0,.d aM,.d aM,.d .bool,.d .bool,.d .bool,.d .bool,.row 5],.cells 101 [.d yI],.gone,.cells 216 ahs,.cells 216 [.d aM,.d aM,.d .str,.d .str,.nil,.d aM,.d aM,.d .str,.d (.sl .ex),.row 6,.row 7],.rowsP 9 .str,.rows 216 ai .sm,.rows 216 ai .sm]⟩,[.cel 7 10 216 .sm]⟩)),(42,(.j ⟨[1,5,6],[0,4,100],⟨KH,La2⟩,[]⟩)),(56,(.j ⟨[1,5,6],[0,4,133],⟨KH,La2⟩,[]⟩)),(64,(.j ⟨[1,5,6],[0,4,165],⟨KH,La2⟩,[]⟩)),(70,(.j ⟨[1,5,6],[0,4,188],⟨KH,La2⟩,[]⟩)),(82,(.j ⟨[1,5,6],[0,4,210],⟨KH,La2⟩,[]⟩)),(94,(.j ⟨[5,6],[0,4,235],⟨KH,La2⟩,[]⟩)),(100,(.j ⟨[5],[0,4,258],⟨KH,La2⟩,[]⟩)),(106,(.j ⟨[5],[0,4,278],⟨KH,La2⟩,[]⟩)),(114,(.j ⟨[],[0,4,308],⟨KH,La2⟩,[]⟩))]⟩
def Ey (n:Nat):cf:=cn rH (eD n)
def qJ:FT:=⟨⟨[.ptr 0 0,.d .str,.d aM],V5⟩,⟨[.d (.sl .sm)],[.cells 210 ajx,.cells 101 Pu,.gone,.rowsP 9 .str]⟩,.leaf⟩
def CS (n:Nat):cf:=cn qJ (dW n)
def Bh:FT:=⟨⟨[.d DX],[]⟩,⟨[.d No],[]⟩,dE [(5,(.a [.cel 3 7 9 .str])),(14,(.j ⟨[5],[2,3,4,6,7],⟨[.ptr 0 0,.ptr 1 0,.ptr 2 0,.row 3,.d aM],[.cells 160 [.nil,.nil],.cells 210 [.ptr 4 0,.d aM,.d aM,.d .bool,.d .bool,.d .bool,.d .bool,.row 5],.cells 160 [.d (.sl GD),.row 6],.rows 9 aj .str,.cells 101 [.d yI],.rowsP 9 .str,.rows 200 ai sQ]⟩,[.cel 4 1 200 sQ]⟩)),(27,(.j ⟨[5,7],[2,3,4,6,8],⟨[.ptr 0 0,.ptr 1 0,.ptr 2 0,.row 3,.ptr 4 0],La7⟩,[.cel 8 3 216 .sm]⟩)),(34,(.j ⟨[5,7],[2,3,4,6,8,9],⟨[.ptr 0 0,.ptr 1 0,.ptr 2 0,.row 3,.ptr 4 0,.d aM],La7⟩,[.cel 8 3 216 .sm]⟩)),(48,(.j ⟨[5,7],[2,3,4,6,8],⟨[.ptr 0 0,.ptr 1 0,.ptr 2 0,.row 3,.ptr 4 0],La7⟩,[]⟩)),(49,(.j ⟨[5,7],[2,3,4,6,8,79],⟨[.ptr 0 0,.ptr 1 0,.ptr 2 0,.row 3,.ptr 4 0,.d .bool],La7⟩,[]⟩))]⟩
def L3:cf:=cn Bh oF
def JX:FT:=⟨⟨[.d DX],[]⟩,⟨[.d uJ],[]⟩,.leaf⟩
def Vr:cf:=cn JX xr
def Gs:FT:=⟨⟨[.d DX,.d DX],[]⟩,⟨[.d oK],[]⟩,.leaf⟩
def Sn:cf:=cn Gs sg
def Dj:FT:=⟨⟨[],[]⟩,⟨[.d l_],[]⟩,dE [(8,(.j ⟨[21],[0,1,22],⟨vU,ag7⟩,[.cel 1 5 141 om]⟩)),(22,(.j ⟨[2,21,22],[0,1,3],⟨vU,ag7⟩,[]⟩))]⟩
def OL:cf:=cn Dj nB
def zq:FT:=⟨⟨[.d iL],[]⟩,⟨nj,[]⟩,dE [(8,(.j ⟨[8,9],[3,10],⟨[.row 0,.d aM],[.rows 3 ai aM]⟩,[.nil 3 3 aM]⟩)),(16,(.j ⟨[8,9,10],[3],⟨[.row 0],[.rows 3 ai aM]⟩,[]⟩))]⟩
def J9:cf:=cn zq kS
def Dh:FT:=⟨⟨[],[]⟩,⟨nj,[]⟩,.leaf⟩
def OJ:cf:=cn Dh tm
def AS:FT:=⟨⟨S5,S0⟩,⟨[.d aM],S0⟩,dE [(6,(.j ⟨[2,7],[0,8],⟨gY,Zh⟩,[]⟩)),(16,(.j ⟨[2,7],[0,16],⟨gY,Zh⟩,[]⟩)),(26,(.j ⟨[2,7],[0,21],⟨gY,Zh⟩,[]⟩)),(44,(.j ⟨[2,7],[0,26],⟨gY,Zh⟩,[]⟩)),(70,(.j ⟨[2],[0,33],⟨gY,Zh⟩,[]⟩))]⟩
def LJ:cf:=cn AS oz
def Dg:FT:=⟨⟨[.ptr 0 0,.d iL,.d aM,.d aM],S0⟩,⟨[.d aM],S0⟩,dE [(18,(.j ⟨[10],[0,5,24],⟨qL,[.cells 101 [.d yI],.cells 110 [.d iL]]⟩,[]⟩))]⟩
def OH:cf:=cn Dg qd
def FN:FT:=⟨⟨[.ptr 0 0,.row 1],[.cells 101 Pu,.rows 3 ai aM]⟩,⟨nj,[.cells 101 Pu,.rows 3 ai aM]⟩,dE [(8,(.j ⟨[9],[0,1,5,8,10],⟨[.ptr 0 0,.row 1,.row 2,.row 1,.d aM],ajs⟩,[.nil 5 3 aM]⟩)),(16,(.j ⟨[9,10],[0,1,5,8],⟨[.ptr 0 0,.row 1,.row 2,.row 1],ajs⟩,[]⟩)),(19,(.j ⟨[7,9,10],[0,1,5,8,24],⟨[.ptr 0 0,.row 1,.row 2,.row 1,.d .bool],ajs⟩,[]⟩))]⟩
def RF:cf:=cn FN gA
def Di:FT:=⟨⟨[.ptr 0 0,.d iL,.d l_,.csl 1 1 4],an8⟩,⟨[.d gd],an8⟩,dE [(8,(.j ⟨[9],[0,3,5,6,8,11],⟨[.ptr 0 0,.csl 1 1 4,.ptr 6 0,.ptr 7 0,.ptr 8 0,.ptr 9 0],ane⟩,[]⟩)),(9,(.j ⟨[9],[0,3,5,6,8,11,36],⟨[.ptr 0 0,.csl 1 1 4,.ptr 6 0,.ptr 7 0,.ptr 8 0,.ptr 9 0,.d .bool],ane⟩,[]⟩)),(18,(.j ⟨[9],[0,3,8,11],⟨[.ptr 0 0,.csl 1 1 4,.ptr 6 0,.ptr 7 0],anf⟩,[]⟩)),(19,(.j ⟨[9],[0,3,8,11,74],⟨[.ptr 0 0,.csl 1 1 4,.ptr 6 0,.ptr 7 0,.d .bool],[.cells 101 [.d yI],.cells 49 acq,.rows 3 ai aM,.rows 3 ai aM,.rows 3 ai aM,.rows 3 ai aM,.cells 54 uV,.cells 54 uV]⟩,[]⟩)),(22,(.s 9 0 0 4)),(24,(.j ⟨[],[8,11],⟨[.ptr 6 0,.ptr 7 0],[.cells 101 [.d yI],.cells 49 acq,.rows 3 ai aM,.rows 3 ai aM,.rows 3 ai aM,.rows 3 ai aM,.cells 54 uV,.cells 54 [.d aM,.d aM,.d aM,.d aM,.d aM,.d (.sl aM),.d (.sl aM)]]⟩,[]⟩)),(25,(.j ⟨[9],[0,3,8,11,89],⟨[.ptr 0 0,.csl 1 1 4,.ptr 6 0,.ptr 7 0,.d .bool],anf⟩,[]⟩)),(28,(.s 9 0 0 4))]⟩
def OK:cf:=cn Di qe
def FO:FT:=⟨⟨[.ptr 0 0,.d iL,.d l_,.d aM,.d .bool],S0⟩,⟨[.d (.sl gd)],S0⟩,dE [(8,(.a [.cel 12 0 3 aM,.cel 12 1 3 aM,.cel 12 2 3 aM,.cel 12 3 3 aM])),(9,(.j ⟨[3,11],[0,6,7,12],⟨[.ptr 0 0,.ptr 1 0,.ptr 2 0,.csl 3 1 4],ak5⟩,[]⟩)),(10,(.u 5)),(18,(.j ⟨[3,4,11,22,23],[0,6,7,12],⟨[.ptr 0 0,.ptr 1 0,.ptr 2 0,.csl 3 1 4],ak5⟩,[]⟩)),(21,(.j ⟨[3,4,11,13,22,23],[0,6,7,12,39],⟨[.ptr 0 0,.ptr 1 0,.ptr 2 0,.csl 3 1 4,.d .bool],ak5⟩,[]⟩)),(29,(.j ⟨[3],[0,6,7,11,12],⟨[.ptr 0 0,.ptr 1 0,.ptr 2 0,.row 3,.csl 4 1 4],ak6⟩,[.nil 11 54 gd]⟩)),(31,(.j ⟨[3],[0,6,7,11,12,65],⟨[.ptr 0 0,.ptr 1 0,.ptr 2 0,.row 3,.csl 4 1 4,.d .bool],ak6⟩,[]⟩)),(36,(.j ⟨[3],[0,6,7,11,12],⟨[.ptr 0 0,.ptr 1 0,.ptr 2 0,.row 3,.csl 4 1 4],ak6⟩,[]⟩)),(47,(.j ⟨[3],[0,6,7,11,12,14,15],⟨[.ptr 0 0,.ptr 1 0,.ptr 2 0,.row 3,.csl 4 1 4,.ptr 5 0,.ptr 6 0],ang⟩,[]⟩)),(48,(.j ⟨[3],[0,6,7,11,12,14,15,87],⟨[.ptr 0 0,.ptr 1 0,.ptr 2 0,.row 3,.csl 4 1 4,.ptr 5 0,.ptr 6 0,.d .bool],ang⟩,[]⟩)),(51,(.s 14 0 0 4))]⟩
def RG:cf:=cn FO r7
def Dk:FT:=⟨⟨Pu,[]⟩,⟨[.d oK],[]⟩,dE [(2,(.j ⟨[1],[0,4],⟨[.d DX,.ptr 0 0],[.cells 34 Zj]⟩,[]⟩)),(22,(.j ⟨[1,9],[4,5,6,7,8,10],⟨[.ptr 0 0,.ptr 1 0,.ptr 2 0,.ptr 3 0,.row 4,.d aM],[.cells 34 Zj,.cells 101 [.d yI],.cells 34 [.d (.sl kw),.d (.sl qT),.d (.sl lh),.d (.sl .str),.d (.sl .str),.d (.sl om),.nil],.cells 110 [.d iL],.rows 54 aj gd]⟩,[]⟩)),(37,(.j ⟨[1,48],[4,5,6,7,47,49],⟨[.ptr 0 0,.ptr 1 0,.ptr 2 0,.ptr 3 0,.row 4,.d aM],ani⟩,[.cel 6 6 54 gd]⟩)),(45,(.j ⟨[1,48,49],[4,5,6,7,47],⟨[.ptr 0 0,.ptr 1 0,.ptr 2 0,.ptr 3 0,.row 4],ani⟩,[]⟩))]⟩
def OM:cf:=cn Dk qf
def wN:FT:=⟨⟨[.d (.st (.pr DX (.pr DX DX))),.d aM],[]⟩,⟨[.d oK],[]⟩,.leaf⟩
def E7:cf:=cn wN kT
theorem Lv:aH Pg 171 LW:=mk Bc ko an bV
theorem IZ:aH Pg 144 Kd:=mk zw jC (ac Lv an) bV
theorem FF:aH Pg 143 Sh:=mk Gp ll an bV
theorem UF:aH Pg 172 Vl:=mk JV ru an bV
theorem UE:aH Pg 145 Vk:=mk JU pi (ac FF (ac UF an)) bV
theorem sq:aH Pg 105 Si:=mk Gq fd (ac FF (ac IZ (ac UE an))) bV
theorem IY:aH Pg 224 Vc:=mk JO fU an bV
theorem Ux:aH Pg 208 Vd:=mk JP uk (ac IY an) bV
theorem Q3:aH Pg 210 Sd:=mk Gk sa (ac IY an) bV
theorem Uy:aH Pg 207 Ve:=mk JQ rn an bV
theorem Lu:aH Pg 231 LV:=mk Bb mg an bV
theorem wF:∀ n:Nat,aH Pg 225 (GV n)
 |0=>Qr oY
 |n+1=>mk oY (lZ (hX n)) (ac sq (ac (wF n) (ac Lu an))) bV
theorem ya:aH Pg 225 G9:=(wF fuel)
theorem UD:aH Pg 226 Vj:=mk JS ph an bV
theorem rD:∀ n:Nat,aH Pg 211 (GU n)/\aH Pg 181 (Ew n)
 |0=>⟨Qr sP,Qr nS⟩
 |n+1=>⟨mk sP (jZ (eB n) (dF n)) (ac sq (ac (rD n).2 (ac ya (ac UD an)))) bV,mk nS (ju (eB n) (dF n)) (ac (rD n).1 an) bV⟩
theorem EI:aH Pg 181 E_:=(rD fuel).2
theorem GZ:aH Pg 180 G8:=mk ym jX (ac sq an) bV
theorem Q5:aH Pg 154 Sg:=mk Gn pG (ac sq (ac GZ (ac EI an))) bV
theorem vn:aH Pg 106 af7:=mk Xd iU an bV
theorem vm:aH Pg 182 Sf:=mk Gm hP an bV
theorem vN:aH Pg 183 LU:=mk Ba gO an bV
theorem Q4:aH Pg 227 Se:=mk Gl pE (ac vn (ac vm (ac vN an))) bV
theorem MG:aH Pg 214 YI:=mk M4 gC (ac Q4 an) bV
theorem FI:∀ n:Nat,aH Pg 228 (Uf n)
 |0=>Qr xM
 |n+1=>mk xM (uy (m7 n)) (ac (FI n) an) bV
theorem UB:aH Pg 228 Vh:=(FI fuel)
theorem FH:∀ n:Nat,aH Pg 229 (Ue n)
 |0=>Qr xL
 |n+1=>mk xL (ux (m6 n)) (ac MG (ac (FH n) an)) bV
theorem Uz:aH Pg 229 Vf:=(FH fuel)
theorem Ya:aH Pg 215 YJ:=mk M5 mf (ac ya (ac UB (ac Uz an))) bV
theorem On:aH Pg 216 OY:=mk Dv c8 an bV
theorem aei:aH Pg 213 af6:=mk Xc iT an bV
theorem EH:aH Pg 212 E9:=mk wP dT an bV
theorem Ls:aH Pg 184 LR:=mk A_ me (ac vn (ac vm (ac vN (ac EH (ac aei (ac MG (ac Ya (ac On an)))))))) bV
theorem ze:∀ n:Nat,aH Pg 158 (Lj n)
 |0=>Qr rU
 |n+1=>mk rU (mi (iz n)) (ac (ze n) (ac Ls an)) bV
theorem Lt:aH Pg 158 LS:=(ze fuel)
theorem FJ:∀ n:Nat,aH Pg 157 (Ug n)
 |0=>Qr xN
 |n+1=>mk xN (uz (m8 n)) (ac (FJ n) an) bV
theorem UC:aH Pg 157 Vi:=(FJ fuel)
theorem UA:aH Pg 155 Vg:=mk JR rq (ac vm an) bV
theorem Om:aH Pg 156 OX:=mk Du nF (ac vn (ac vm (ac vN an))) bV
theorem xz:aH Pg 121 OZ:=mk Dw fk (ac Q5 (ac UA (ac Om (ac UC (ac Lt an))))) bV
theorem FG:∀ n:Nat,aH Pg 160 (Ud n)
 |0=>Qr xK
 |n+1=>mk xK (xA (pn n)) (ac (FG n) an) bV
theorem Us:aH Pg 160 U8:=(FG fuel)
theorem FC:aH Pg 159 Sa:=mk Gh j_ an bV
theorem FE:aH Pg 217 Sc:=mk Gj lj an bV
theorem Uw:aH Pg 122 Va:=mk JM uj (ac xz (ac FC (ac Us an))) bV
theorem Ut:aH Pg 104 U9:=mk JJ pf an bV
theorem x_:aH Pg 77 G7:=mk yl g_ (ac Ut (ac sq (ac vn an))) bV
theorem uv:aH Pg 125 Kc:=mk zu jB an bV
theorem FD:aH Pg 174 Sb:=mk Gi pD an bV
theorem Uu:aH Pg 149 U_:=mk JK pg (ac FD an) bV
theorem Oj:aH Pg 150 af5:=mk Xb jh an bV
theorem Uv:aH Pg 173 U':=mk JL mW (ac Oj an) bV
theorem Oi:aH Pg 148 OU:=mk Dr lz (ac Oj (ac Uv an)) bV
theorem EG:aH Pg 119 E8:=mk wO ii (ac uv (ac Oi (ac Uu (ac Oj an)))) bV
theorem BZ:aH Pg 87 Vb:=mk JN jA (ac x_ (ac EG an)) bV
theorem nN:aH Pg 124 OV:=mk Ds cB an bV
theorem yd:∀ n:Nat,aH Pg 189 (IC n)
 |0=>Qr qG
 |n+1=>mk qG (qx (iE n)) (ac vn (ac nN (ac (yd n) (ac FE an)))) bV
theorem uu:aH Pg 189 Ka:=(yd fuel)
theorem GY:aH Pg 185 G6:=mk yk lQ (ac vn (ac nN (ac uu (ac FE an)))) bV
theorem Lr:aH Pg 188 LQ:=mk AZ jq an bV
theorem jY:∀ n:Nat,aH Pg 123 (ID n)/\aH Pg 161 (Li n)/\aH Pg 186 (CQ n)/\aH Pg 187 (GR n)
 |0=>⟨Qr qH,Qr vQ,Qr qI,Qr sO⟩
 |n+1=>⟨mk qH (qy (dL n) (eO n) (db n) (dH n)) (ac (jY n).2.1 an) bV,mk vQ (rS (dL n) (eO n) (db n) (dH n)) (ac vn (ac nN (ac FC (ac GY (ac (jY n).2.2.1 (ac (jY n).2.2.2 (ac Lr (ac uu an)))))))) bV,mk qI (mq (dL n) (eO n) (db n) (dH n)) (ac (jY n).1 (ac nN (ac uu an))) bV,mk sO (oV (dL n) (eO n) (db n) (dH n)) (ac (jY n).1 (ac nN an)) bV⟩
theorem IX:aH Pg 123 Kb:=(jY fuel).1
theorem Ol:aH Pg 90 OW:=mk Dt qj (ac xz (ac Uw (ac IX (ac nN (ac uv an))))) bV
theorem IW:aH Pg 110 abl:=mk Rw qi an bV
theorem aax:aH Pg 146 abk:=mk Rv ww an bV
theorem IV:aH Pg 113 U7:=mk JI rm (ac aax an) bV
theorem Lq:aH Pg 209 LP:=mk AY md an bV
theorem kW:aH Pg 178 YH:=mk M3 co an bV
theorem X':aH Pg 179 YG:=mk M2 wv (ac IV (ac uv (ac Ux (ac Lq (ac Q3 an))))) bV
theorem jr:aH Pg 153 R_:=mk Gg mV (ac FD (ac kW (ac X' an))) bV
theorem IU:aH Pg 79 U5:=mk JG rj an bV
theorem EE:aH Pg 107 YE:=mk M0 rk an bV
theorem WP:aH Pg 108 af4:=mk Xa qh an bV
theorem Ur:aH Pg 109 U4:=mk JF uh (ac WP an) bV
theorem CY:aH Pg 82 OT:=mk Dq j9 (ac EE (ac WP (ac Ur (ac IW an)))) bV
theorem Oh:aH Pg 111 OR:=mk Dp nE an bV
theorem Og:aH Pg 114 OQ:=mk Do qg an bV
theorem kV:aH Pg 112 YF:=mk M1 ig an bV
theorem Lp:aH Pg 111 LO:=mk mj mc an bV
theorem IR:aH Pg 111 J_:= @aH.ro Pg 111 mj.pre mj.post.vs mc jz (Lp.holds rfl) rfl (λx _ h=>by rw[show jz x=obind (mc x) λy=>same y.2 x.2 (af y.1) from rfl] at h;exact h)
theorem jE:aH Pg 85 U6:=mk JH pe (ac CY (ac IW (ac IR (ac kV (ac IV (ac Og an)))))) bV
theorem Uq:aH Pg 89 U3:=mk JE ug (ac IU (ac BZ an)) bV
theorem X9:aH Pg 175 YC:=mk MZ wu (ac BZ (ac EE an)) bV
theorem X7:aH Pg 176 YA:=mk MX wn an bV
theorem QF:aH Pg 177 RK:=mk FU r_ (ac Uy an) bV
theorem iy:aH Pg 151 OP:=mk Dn nD (ac X9 (ac X7 (ac QF an))) bV
theorem IQ:aH Pg 56 U1:=mk JB mI (ac IU an) bV
theorem X6:aH Pg 80 Yz:=mk MW wj (ac EE an) bV
theorem aeh:aH Pg 81 af3:=mk W_ CK an bV
theorem Of:aH Pg 83 OO:=mk Dm nC an bV
theorem Un:aH Pg 84 UZ:=mk Jz ue (ac IW (ac Oh an)) bV
theorem ED:aH Pg 58 Yy:=mk MV ri (ac X6 (ac aeh (ac CY (ac Of (ac Un (ac jE an)))))) bV
theorem Uo:aH Pg 78 U0:=mk JA rh an bV
theorem Up:aH Pg 54 U2:=mk JD uf (ac IQ (ac ED (ac x_ (ac Uo an)))) bV
def Mi (t:TypeId):Option Ty:=if aC t 193 then af (.pr .un eT) else bV t
theorem Q2:aH Pg 152 R9:=mk Gf mU (ac kV (ac kW an)) Mi
theorem QQ:aH Pg 120 RY:=mk F5 fZ (ac jE (ac iy (ac Q2 (ac jr an)))) Mi
theorem Q1:aH Pg 152 R8:=mk Ge mT (ac kV (ac kW an)) Mi
theorem QP:aH Pg 120 RX:=mk F4 gB (ac jE (ac iy (ac Q1 (ac jr an)))) Mi
theorem Q0:aH Pg 152 R7:=mk Gb mS (ac kV (ac kW an)) Mi
theorem QO:aH Pg 120 RW:=mk F3 fY (ac jE (ac iy (ac Q0 (ac jr an)))) Mi
theorem QZ:aH Pg 152 R6:=mk Ga mR (ac kV (ac kW an)) Mi
theorem QN:aH Pg 120 RU:=mk F1 jp (ac jE (ac iy (ac QZ (ac jr an)))) Mi
theorem QY:aH Pg 152 R5:=mk F' mQ (ac kV (ac kW an)) Mi
theorem QM:aH Pg 120 RQ:=mk F0 iC (ac jE (ac iy (ac QY (ac jr an)))) Mi
theorem QX:aH Pg 152 R4:=mk F_ mP (ac kV (ac kW an)) Mi
theorem QL:aH Pg 120 RP:=mk FZ gZ (ac jE (ac iy (ac QX (ac jr an)))) Mi
theorem QW:aH Pg 152 R3:=mk F9 mO (ac kV (ac kW an)) Mi
theorem QK:aH Pg 120 RO:=mk dC mK (ac jE (ac iy (ac QW (ac jr an)))) Mi
theorem QV:aH Pg 152 R2:=mk F8 mN (ac kV (ac kW an)) Mi
theorem QJ:aH Pg 120 RN:=mk FY mJ (ac jE (ac iy (ac QV (ac jr an)))) Mi
theorem QU:aH Pg 152 R1:=mk F7 mM (ac kV (ac kW an)) Mi
theorem QI:aH Pg 120 RM:=mk FX li (ac jE (ac iy (ac QU (ac jr an)))) Mi
theorem QR:aH Pg 152 RZ:=mk F6 mL (ac kV (ac kW an)) Mi
theorem QH:aH Pg 120 RL:=mk FW j8 (ac jE (ac iy (ac QR (ac jr an)))) Mi
theorem X_:aH Pg 120 YD:=(aH.orE (pre:=dC.pre) (post:=dC.post) (m:=mK) (m':=(λx=>orE (mJ x) ((λx=>orE (li x) ((λx=>orE (j8 x) ((λx=>orE (jp x) ((λx=>orE (iC x) ((λx=>orE (gZ x) ((λx=>orE (gB x) ((λx=>orE (fY x) (fZ x)) x)) x)) x)) x)) x)) x)) x))) rfl QK (aH.orE (pre:=dC.pre) (post:=dC.post) (m:=mJ) (m':=(λx=>orE (li x) ((λx=>orE (j8 x) ((λx=>orE (jp x) ((λx=>orE (iC x) ((λx=>orE (gZ x) ((λx=>orE (gB x) ((λx=>orE (fY x) (fZ x)) x)) x)) x)) x)) x)) x))) rfl QJ (aH.orE (pre:=dC.pre) (post:=dC.post) (m:=li) (m':=(λx=>orE (j8 x) ((λx=>orE (jp x) ((λx=>orE (iC x) ((λx=>orE (gZ x) ((λx=>orE (gB x) ((λx=>orE (fY x) (fZ x)) x)) x)) x)) x)) x))) rfl QI (aH.orE (pre:=dC.pre) (post:=dC.post) (m:=j8) (m':=(λx=>orE (jp x) ((λx=>orE (iC x) ((λx=>orE (gZ x) ((λx=>orE (gB x) ((λx=>orE (fY x) (fZ x)) x)) x)) x)) x))) rfl QH (aH.orE (pre:=dC.pre) (post:=dC.post) (m:=jp) (m':=(λx=>orE (iC x) ((λx=>orE (gZ x) ((λx=>orE (gB x) ((λx=>orE (fY x) (fZ x)) x)) x)) x))) rfl QN (aH.orE (pre:=dC.pre) (post:=dC.post) (m:=iC) (m':=(λx=>orE (gZ x) ((λx=>orE (gB x) ((λx=>orE (fY x) (fZ x)) x)) x))) rfl QM (aH.orE (pre:=dC.pre) (post:=dC.post) (m:=gZ) (m':=(λx=>orE (gB x) ((λx=>orE (fY x) (fZ x)) x))) rfl QL (aH.orE (pre:=dC.pre) (post:=dC.post) (m:=gB) (m':=(λx=>orE (fY x) (fZ x))) rfl QP (aH.orE (pre:=dC.pre) (post:=dC.post) (m:=fY) (m':=fZ) rfl QO QQ)))))))))
theorem X8:aH Pg 88 YB:=mk MY wq (ac X_ an) bV
theorem aaw:aH Pg 60 abj:=mk Ru yU (ac BZ (ac X8 (ac Uq an))) bV
theorem fE:aH Pg 57 Hb:=mk yq bz an bV
theorem EK:aH Pg 129 YN:=mk M6 ry an bV
theorem I5:aH Pg 192 Vq:=mk JW pj an bV
theorem C5:aH Pg 191 O3:=mk Dy nI an bV
theorem C6:aH Pg 128 O4:=mk Dz ji an bV
theorem Q7:aH Pg 126 Sm:=mk Gr sd an bV
theorem LB:aH Pg 62 L4:=mk Bi oG an bV
theorem vo:∀ n:Nat,aH Pg 190 (Ez n)
 |0=>Qr nU
 |n+1=>mk nU (nP (il n)) (ac fE (ac EK (ac (vo n) (ac C5 (ac I5 an))))) bV
theorem EL:aH Pg 190 Fc:=(vo fuel)
theorem C4:aH Pg 193 DM:=mk vy eL (ac vn an) bV
theorem jF:∀ n:Nat,aH Pg 127 (CR n)/\aH Pg 162 (Ey n)/\aH Pg 194 (CS n)
 |0=>⟨Qr mz,Qr rH,Qr qJ⟩
 |n+1=>⟨mk mz (mw (dI n) (eD n) (dW n)) (ac (jF n).2.1 an) bV,mk rH (nO (dI n) (eD n) (dW n)) (ac fE (ac (jF n).1 (ac C6 (ac EK (ac EL (ac C5 (ac I5 (ac C4 (ac (jF n).2.2 an))))))))) bV,mk qJ (my (dI n) (eD n) (dW n)) (ac fE (ac (jF n).1 an)) bV⟩
theorem C3:aH Pg 127 DL:=(jF fuel).1
theorem LA:aH Pg 91 L3:=mk Bh oF (ac fE (ac xz (ac Q7 (ac C3 (ac C6 (ac EK an)))))) bV
theorem UH:aH Pg 61 Vr:=mk JX xr (ac Ol (ac LA an)) bV
theorem Q9:aH Pg 29 Sn:=mk Gs sg (ac aaw (ac UH (ac LB an))) bV
theorem Oc:aH Pg 55 OL:=mk Dj nB an bV
theorem IK:aH Pg 147 J9:=mk zq kS an bV
theorem Oa:aH Pg 115 OJ:=mk Dh tm an bV
theorem Ll:aH Pg 116 LJ:=mk AS oz (ac fE an) bV
theorem N':aH Pg 117 OH:=mk Dg qd (ac fE (ac IK an)) bV
theorem Qy:aH Pg 118 RF:=mk FN gA (ac fE an) bV
theorem Ob:aH Pg 86 OK:=mk Di qe (ac fE (ac Oa (ac Ll (ac N' (ac Qy an))))) bV
def tv1 (t:TypeId):Option Ty:=if aC t 49 then af (.pr .un (.pr .un (.pr .un (.pr .un (.pr .un (.sl aM)))))) else bV t
theorem Qz:aH Pg 59 RG:=mk FO r7 (ac fE (ac ED (ac Ob an))) tv1
theorem Od:aH Pg 28 OM:=mk Dk qf (ac Up (ac Oc (ac IQ (ac fE (ac ED (ac Qz an)))))) bV
theorem EC:aH Pg 11 E7:=mk wN kT (ac Od (ac Q9 an)) bV
abbrev ajp:List PV:=[.row 1,.row 2,.row 3,.row 4,.row 5,.row 6,.d (.sl aM),.row 7,.row 8]
abbrev Ld0:List PB:=[.cells 51 ajp,.rows 49 aj (.sl aM),.rows 49 aj (.sl aM),.rows 49 aj (.sl aM),.rows 49 aj (.sl aM),.rows 49 aj (.sl aM),.rows 49 aj (.sl aM),.rows 49 aj (.sl aM),.rows 3 ai aM,.rows 3 aj aM]
abbrev Ld4:List PV:=[.d aM,.d aM,.d aM,.d aM,.d aM,.d (.sl aM),.d (.sl aM)]
abbrev Ld3:List PV:=[.d (.sl kw),.d (.sl qT),.d (.sl lh),.d (.sl .str),.d (.sl .str),.d (.sl om)]
abbrev Ld1:List PB:=[.cells 54 Ld4,.cells 51 [.row 3,.row 4,.row 5,.row 6,.row 7,.row 8,.d (.sl aM),.row 9,.row 10],.cells 31 Ld3,.rows 49 aj (.sl aM),.rows 49 aj (.sl aM),.rows 49 aj (.sl aM),.rows 49 aj (.sl aM),.rows 49 aj (.sl aM),.rows 49 aj (.sl aM),.rows 49 aj (.sl aM),.rows 3 ai aM]
abbrev Ld2:List PB:=[.cells 51 ajp,.rows 49 aj (.sl aM),.rows 49 aj (.sl aM),.rows 49 aj (.sl aM),.rows 49 aj (.sl aM),.rows 49 aj (.sl aM),.rows 49 aj (.sl aM),.rows 49 aj (.sl aM),.rows 3 ai aM,.rows 3 aj aM,.cells 54 Ld4]
abbrev Ld5:List PB:=[.rows 175 aj dY,.rows 4 ai .bool,.rows 177 ai hY,.cells 107 Hj]
abbrev Ld6:List PB:=[.rows 175 aj dY,.rows 4 ai .bool,.rows 177 ai hY]
abbrev Pr:List PB:=[.rows 3 ai aM]
abbrev Ld8:List PB:=[.cells 110 [.d iL],.cells 54 [.d gd],.cells 221 [.d Kd1]]
abbrev Ld9:List PB:=[.rows 3 ai aM,.cells 3 [.d aM]]
abbrev an5:List PB:=[.cells 31 [.d l_],.cells 107 [.row 4,.d aM,.row 5,.row 6],.cells 3 [.d aM],.cells 107 Cc,.rows 175 aj dY,.rows 4 ai .bool,.rows 177 ai hY]
abbrev L9:List PB:=[.rows 3 aj aM]
abbrev an4:List PB:=[.cells 107 Cc,.cells 107 [.row 2,.d aM,.row 3,.row 4],.rows 175 aj dY,.rows 4 aj .bool,.rows 177 aj hY]
abbrev afy:List PB:=[.cells 34 [.d oK],.rows 59 ai iK]
abbrev Ps:List PV:=[.row 0,.d aM]
abbrev acp:List PB:=[.rows 49 aj (.sl aM)]
abbrev ajo:List PB:=[.rows 49 aj (.sl aM),.rows 3 aj aM]
abbrev Zf:List PB:=[.cells 54 [.d gd]]
abbrev afx:List PV:=[.d (.sl aM),.d (.sl aM)]
abbrev ajn:List PV:=[.ptr 0 0,.ptr 1 0,.ptr 2 0]
def M':FT:=⟨⟨Hi,[]⟩,⟨[.d aM],[]⟩,dE [(3,(.j ⟨[0,1],[12],⟨[.d .bool],[]⟩,[]⟩))]⟩
def YU:cf:=cn M' iV
def Gu:FT:=⟨⟨afx,[]⟩,⟨nj,[]⟩,dE [(8,(.j ⟨[0,1,14],[5,15],⟨Ps,L9⟩,[]⟩))]⟩
def Sr:cf:=cn Gu kc
def W9:FT:=⟨⟨Hi,[]⟩,⟨[.d aM],[]⟩,dE [(3,(.j ⟨[0,1],[12],⟨[.d .bool],[]⟩,[]⟩))]⟩
def af2:cf:=cn W9 xq
def MT:FT:=⟨⟨afx,[]⟩,⟨nj,[]⟩,dE [(8,(.j ⟨[0,1,14],[5,15],⟨Ps,L9⟩,[]⟩))]⟩
def Yw:cf:=cn MT pA
def Xf:FT:=⟨⟨nj,[]⟩,⟨nj,[]⟩,.leaf⟩
def DO:cf:=cn Xf N5
def aiv:cf:=⟨DO.pre,DO.post,BS⟩
def J1:FT:=⟨⟨[.d tL],[]⟩,⟨[.row 0],acp⟩,dE [(8,(.j ⟨[9,10],[3,11],⟨Ps,acp⟩,[]⟩))]⟩
def Vv:cf:=cn J1 ij
def RD:FT:=⟨⟨nj,[]⟩,⟨[.row 0],Pr⟩,dE [(8,(.a [.nil 2 3 aM])),(12,(.a [.nil 2 3 aM]))]⟩
def zL:cf:=cn RD Ix
def aff:cf:=⟨zL.pre,zL.post,oU⟩
def J2:FT:=⟨⟨[.d Kd0],[]⟩,⟨[.agg [.row 0,.row 1,.row 2,.row 3,.row 4,.row 5,.d (.sl aM),.row 6,.row 7]],[.rows 49 aj (.sl aM),.rows 49 aj (.sl aM),.rows 49 aj (.sl aM),.rows 49 aj (.sl aM),.rows 49 aj (.sl aM),.rows 49 aj (.sl aM),.rows 49 aj (.sl aM),.rows 3 ai aM]⟩,.leaf⟩
def Vw:cf:=cn J2 uo
def M7:FT:=⟨⟨Ps,acp⟩,⟨nj,acp⟩,dE [(3,(.j ⟨[1],[0,12],⟨[.row 0,.d .bool],acp⟩,[]⟩))]⟩
def YO:cf:=cn M7 tR
def J4:FT:=⟨⟨ajn,Ld1⟩,⟨[.d tL],Ld1⟩,dE [(18,(.j ⟨[6],[0,1,2,25],⟨DW,Ld1⟩,[]⟩))]⟩
def Vy:cf:=cn J4 uq
def M9:FT:=⟨⟨[.d l_],[]⟩,⟨[.d Kd0],[]⟩,dE [(8,(.j ⟨[40],[2,3,41],⟨vU,[.cells 51 [.nil,.nil,.nil,.nil,.nil,.nil,.nil,.nil,.nil],.cells 51 [.row 2,.row 3,.row 4,.row 5,.row 6,.row 7,.nil,.row 8,.row 9],.rows 49 aj (.sl aM),.rows 49 aj (.sl aM),.rows 49 aj (.sl aM),.rows 49 aj (.sl aM),.rows 49 aj (.sl aM),.rows 49 aj (.sl aM),.rows 49 aj (.sl aM),.rows 3 aj aM]⟩,[]⟩))]⟩
def YQ:cf:=cn M9 pH
def Gt:FT:=⟨⟨Hi,[]⟩,⟨[.row 0],L9⟩,dE [(4,(.j ⟨[0,1,5],[6],⟨[.d .bool],[]⟩,[]⟩)),(6,(.j ⟨[0,1,6],[5],⟨[.d aM],[]⟩,[]⟩)),(16,(.j ⟨[],[7],⟨[.row 0],L9⟩,[]⟩)),(17,(.j ⟨[1],[7,33],⟨[.row 0,.d .bool],L9⟩,[]⟩))]⟩
def Sq:cf:=cn Gt sj
def wR:FT:=⟨⟨[.row 0],L9⟩,⟨nj,L9⟩,.leaf⟩
def abx:cf:=cn wR wB
def afe:cf:=⟨wR.pre,⟨wR.post.vs,[]⟩,vh⟩
def Al:FT:=⟨⟨[.d (.sl aM),.row 0],L9⟩,⟨nj,L9⟩,dE [(8,(.j ⟨[0,14],[1,5,15],⟨[.row 0,.row 1,.d aM],[.rows 3 aj aM,.rows 3 aj aM]⟩,[]⟩))]⟩
def afc:cf:=cn Al tB
def aiu:cf:=⟨Al.pre,⟨Al.post.vs,[]⟩,BR⟩
def JZ:FT:=⟨⟨[.row 0,.d aM,.row 1],ajo⟩,⟨[],ajo⟩,dE [(0,(.j ⟨[1],[0,2,13],⟨[.row 0,.row 1,.d .bool],ajo⟩,[]⟩))]⟩
def Vt:cf:=cn JZ lA
def Rx:FT:=⟨⟨[.ptr 0 0,.d aM,.row 9],Ld0⟩,⟨[],Ld0⟩,.leaf⟩
def abs:cf:=cn Rx wy
def M8:FT:=⟨⟨[.d l_,.ptr 0 0,.d gd,.row 9],Ld0⟩,⟨[],Ld0⟩,dE [(6,(.j ⟨[],[],⟨[],Ld0⟩,[]⟩)),(11,(.j ⟨[20],[1,3,4,6,32],⟨[.ptr 0 0,.row 9,.ptr 10 0,.ptr 11 0,.d .bool],[.cells 51 ajp,.rows 49 aj (.sl aM),.rows 49 aj (.sl aM),.rows 49 aj (.sl aM),.rows 49 aj (.sl aM),.rows 49 aj (.sl aM),.rows 49 aj (.sl aM),.rows 49 aj (.sl aM),.rows 3 ai aM,.rows 3 aj aM,.cells 31 Ld3,.cells 54 Ld4]⟩,[]⟩)),(48,(.j ⟨[],[1,3,6,129],⟨[.ptr 0 0,.row 9,.ptr 10 0,.d .bool],Ld2⟩,[]⟩)),(59,(.j ⟨[141],[1,3,6,140,142],⟨[.ptr 0 0,.row 9,.ptr 10 0,.row 8,.d aM],Ld2⟩,[]⟩)),(67,(.j ⟨[141,142],[1,3,6,140],⟨[.ptr 0 0,.row 9,.ptr 10 0,.row 8],Ld2⟩,[]⟩))]⟩
def YP:cf:=cn M8 rz
def Ry:FT:=⟨⟨[.d l_,.d Kd0,.d gd],[]⟩,⟨[.d Kd0,.row 0],L9⟩,dE [(14,(.j ⟨[22,23],[3,5,6,7,24],⟨[.ptr 0 0,.ptr 1 0,.ptr 2 0,.ptr 3 0,.d aM],[.cells 31 Ld3,.cells 54 Ld4,.cells 51 [.row 4,.row 5,.row 6,.row 7,.row 8,.row 9,.d (.sl aM),.row 10,.row 11],.cells 49 nj,.rows 49 aj (.sl aM),.rows 49 aj (.sl aM),.rows 49 aj (.sl aM),.rows 49 aj (.sl aM),.rows 49 aj (.sl aM),.rows 49 aj (.sl aM),.rows 49 aj (.sl aM),.rows 3 ai aM]⟩,[]⟩))]⟩
def abt:cf:=cn Ry sh
def Jy:FT:=⟨⟨nj,[]⟩,⟨[.row 0],Pr⟩,dE [(4,(.a [.nil 2 3 aM]))]⟩
def UY:cf:=cn Jy ud
def MQ:FT:=⟨⟨Hi,[]⟩,⟨nj,[]⟩,dE [(5,(.j ⟨[1],[0,12],⟨[.row 0,.d .bool],Pr⟩,[]⟩)),(14,(.j ⟨[1],[0],⟨[.row 0],Pr⟩,[]⟩)),(23,(.j ⟨[],[0],⟨[.row 0],Pr⟩,[]⟩))]⟩
def Yt:cf:=cn MQ py
def Rt:FT:=⟨⟨afx,[]⟩,⟨[.d .bool],[]⟩,dE [(6,(.j ⟨[0,1],[5],⟨[.d aM],[]⟩,[]⟩))]⟩
def abi:cf:=cn Rt r8
def MS:FT:=⟨⟨afx,[]⟩,⟨[.d .bool],[]⟩,dE [(2,(.j ⟨[],[4],⟨[.d .bool],[]⟩,[]⟩))]⟩
def Yv:cf:=cn MS tQ
def Dl:FT:=⟨⟨[.d tL,.d tL],[]⟩,⟨[.d .bool],[]⟩,dE [(14,(.j ⟨[0,1,12],[13],⟨[.d aM],[]⟩,[]⟩))]⟩
def ON:cf:=cn Dl j7
def Jx:FT:=⟨⟨[.d l_,.d aM],[]⟩,⟨[.d aM],[]⟩,dE [(3,(.j ⟨[1],[2,13],⟨gY,[.cells 31 Ld3]⟩,[]⟩))]⟩
def UX:cf:=cn Jx rf
def AX:FT:=⟨⟨[.d l_,.d gd],[]⟩,⟨[.d aM,.d .bool],[]⟩,dE [(6,(.j ⟨[7],[2,3,8],⟨qL,[.cells 31 Ld3,.cells 54 Ld4]⟩,[]⟩))]⟩
def LN:cf:=cn AX oC
def AU:FT:=⟨⟨[.d l_,.d gd],[]⟩,⟨[.d aM,.d .bool],[]⟩,dE [(6,(.j ⟨[7],[2,3,8],⟨qL,[.cells 31 Ld3,.cells 54 Ld4]⟩,[]⟩))]⟩
def LL:cf:=cn AU oB
def wM:FT:=⟨⟨[.d .str],[]⟩,⟨[.d .bool],[]⟩,dE [(6,(.j ⟨[0,5],[6],⟨[.d aM],[]⟩,[]⟩))]⟩
def E6:cf:=cn wM kR
def AQ:FT:=⟨⟨[.d .str],[]⟩,⟨[.d .bool],[]⟩,dE [(3,(.j ⟨[0],[16],⟨[.d .bool],[]⟩,[]⟩)),(14,(.j ⟨[],[18],⟨[.ptr 0 0],[.mp lh .un]⟩,[]⟩)),(24,(.j ⟨[],[18],⟨[.ptr 0 0],[.mp lh .un]⟩,[]⟩)),(25,(.j ⟨[3,4],[18,23],⟨gY,[.mp lh .un]⟩,[]⟩)),(29,(.j ⟨[],[18,38],⟨gY,[.mp lh .un]⟩,[]⟩))]⟩
def LI:cf:=cn AQ oy
def J6:FT:=⟨⟨Hi,[]⟩,⟨[.d aM],[]⟩,dE [(6,(.j ⟨[0,1,7],[8],⟨[.d aM],[]⟩,[]⟩))]⟩
def VG:cf:=cn J6 rA
def Bl:FT:=⟨⟨Hi,[]⟩,⟨[.d .bool],[]⟩,.leaf⟩
def L7:cf:=cn Bl kr
def Bk:FT:=⟨⟨[.d (.sl aM),.d iK],[]⟩,⟨[.d .bool],[]⟩,.leaf⟩
def L6:cf:=cn Bk vL
def J3:FT:=⟨⟨[.d gd],[]⟩,⟨[.d .bool],[]⟩,dE [(2,(.j ⟨[],[2],⟨[.d .bool],[]⟩,[]⟩))]⟩
def Vx:cf:=cn J3 xw
def DC:FT:=⟨⟨[.d oK,.d aM,.d aM],[]⟩,⟨[.d .bool],[]⟩,dE [(5,(.j ⟨[],[3,7,8,30],⟨DW,[.cells 34 [.d oK],.cells 54 [.d gd],.cells 54 [.d gd]]⟩,[]⟩)),(13,(.j ⟨[],[7,8,48],⟨qL,[.cells 54 [.d gd],.cells 54 [.d gd]]⟩,[]⟩)),(20,(.j ⟨[],[6],⟨[.d .bool],[]⟩,[]⟩))]⟩
def O9:cf:=cn DC xv
def J0:FT:=⟨⟨[.d (.sl gd)],[]⟩,⟨[.d (.sl iK)],[]⟩,dE [(10,(.j ⟨[11,12],[3,4,13],⟨[.mp 0,.row 1,.d aM],[.mp aM aM,.rows 66 aj iK]⟩,[.mpt 3 aM aM]⟩))]⟩
def Vu:cf:=cn J0 um
def yw:FT:=⟨⟨vT,[]⟩,⟨[.d .bool],[]⟩,dE [(2,(.j ⟨[],[4],⟨[.d .bool],[]⟩,[]⟩))]⟩
def Hd:cf:=cn yw sH
def yz:FT:=⟨⟨[.d l_,.d aM,.d .bool],[]⟩,⟨[.d .bool],[]⟩,dE [(2,(.j ⟨[],[6],⟨[.d .bool],[]⟩,[]⟩))]⟩
def He:cf:=cn yz sI
def s5:FT:=⟨⟨[.d (.sl kw)],[]⟩,⟨[.d (.sl .str),.d .bool],[]⟩,dE [(8,(.j ⟨[0],[4,5],⟨Ps,[.rows 9 ai .str]⟩,[.nil 4 9 .str]⟩)),(15,(.j ⟨[0],[4,5],⟨Ps,[.rows 9 ai .str]⟩,[]⟩)),(37,(.j ⟨[0,5],[4,6,49],⟨[.row 0,.ptr 1 0,.d .bool],[.rows 9 ai .str,.cells 134 [.d kw]]⟩,[]⟩)),(48,(.j ⟨[0,5,51],[4,6,52],⟨[.row 0,.ptr 1 0,.d aM],[.rows 9 ai .str,.cells 134 [.d kw]]⟩,[]⟩))]⟩
def AF:cf:=cn s5 gX
def sZ:FT:=⟨⟨[.d l_,.d (.sl .str)],[]⟩,⟨[.d .bool],[]⟩,dE [(10,(.j ⟨[17,18],[2,5,19],⟨KF,Zi⟩,[]⟩)),(27,(.j ⟨[30,31],[2,5,32],⟨KF,Zi⟩,[]⟩)),(50,(.j ⟨[52],[10,51,53],⟨[.mp 0,.row 1,.d aM],[.mp .str .bool,.rows 9 ai .str]⟩,[.mpt 10 .str .bool]⟩)),(62,(.j ⟨[12,52,53],[10,51,64],⟨[.mp 0,.row 1,.d .bool],[.mp .str .bool,.rows 9 ai .str]⟩,[.mpt 10 .str .bool]⟩))]⟩
def AE:cf:=cn sZ dM
def sY:FT:=⟨⟨[.d l_],[]⟩,⟨[.d .bool],[]⟩,dE [(8,(.j ⟨[8,9],[1,3,4,10],⟨[.ptr 0 0,.d aM,.d aM,.d aM],pQ⟩,[]⟩)),(20,(.j ⟨[3,4,8,9,10],[1,6,25],⟨qL,[.cells 31 [.d l_],.cells 141 [.d om]]⟩,[]⟩)),(27,(.j ⟨[8,9,10],[1,3,4,6],⟨[.ptr 0 0,.d aM,.d aM,.ptr 1 0],[.cells 31 [.d l_],.cells 141 [.d om]]⟩,[]⟩))]⟩
def AD:cf:=cn sY fV
def s6:FT:=⟨⟨[.d l_],[]⟩,⟨[.d .bool],[]⟩,dE [(3,(.j ⟨[],[1,34],⟨gY,pQ⟩,[]⟩)),(11,(.j ⟨[],[1,44],⟨gY,pQ⟩,[]⟩)),(21,(.j ⟨[],[1,58],⟨gY,pQ⟩,[]⟩)),(32,(.j ⟨[60,61],[1,62],⟨wY,pQ⟩,[]⟩))]⟩
def AG:cf:=cn s6 dN
def Bg:FT:=⟨⟨[.d l_],[]⟩,⟨[.d Hk],[]⟩,dE [(8,(.j ⟨[20],[2,3,21],⟨vU,an4⟩,[]⟩)),(21,(.j ⟨[],[2,3],⟨[.ptr 0 0,.ptr 1 0],an4⟩,[]⟩))]⟩
def L1:cf:=cn Bg oE
def vw:FT:=⟨⟨[.d l_],[]⟩,⟨[.d iL],[]⟩,dE [(8,(.j ⟨[22,23],[2,3,24],⟨vU,[.cells 110 vV,.cells 110 [.d (.sl dY),.d aM,.d pR,.d (.sl hY),.row 2,.row 3,.row 4],.rows 2 aj aM,.rows 2 aj aM,.rows 3 aj aM]⟩,[]⟩))]⟩
def DH:cf:=cn vw di
def sA:FT:=⟨⟨[.d pR,.d gd],[]⟩,⟨[.d .bool],[]⟩,dE [(6,(.j ⟨[0,13],[14],⟨[.d aM],[]⟩,[]⟩)),(20,(.j ⟨[0,13,14,17,18],[19],⟨[.d aM],[]⟩,[]⟩)),(31,(.j ⟨[0,13,14,17,18,19],[37],⟨[.d .bool],[]⟩,[]⟩))]⟩
def zH:cf:=cn sA ci
def zA:FT:=⟨⟨vT,[]⟩,⟨[.d .bool],[]⟩,dE [(2,(.j ⟨[],[4],⟨[.d .bool],[]⟩,[]⟩))]⟩
def Ke:cf:=cn zA eZ
def yn:FT:=⟨⟨[.d l_,.d aM,.d aM],[]⟩,⟨[.d .bool],[]⟩,dE [(6,(.j ⟨[2,7],[3,8],⟨gY,pQ⟩,[]⟩)),(36,(.j ⟨[2,7],[3,18],⟨gY,pQ⟩,[]⟩)),(46,(.j ⟨[2,7],[3,26],⟨gY,pQ⟩,[]⟩)),(53,(.j ⟨[],[6],⟨[.d .bool],[]⟩,[]⟩)),(56,(.j ⟨[2,7],[3,43],⟨gY,pQ⟩,[]⟩)),(71,(.j ⟨[],[6],⟨[.d .bool],[]⟩,[]⟩)),(74,(.j ⟨[2,7],[3,61],⟨gY,pQ⟩,[]⟩)),(92,(.j ⟨[2,7],[3,71],⟨gY,pQ⟩,[]⟩)),(102,(.j ⟨[2],[3,79],⟨gY,pQ⟩,[]⟩))]⟩
def G_:cf:=cn yn lU
def Dx:FT:=⟨⟨[.d l_,.d Hk],[]⟩,⟨[.d .bool],[]⟩,dE [(3,(.j ⟨[],[2,31],⟨gY,pQ⟩,[]⟩)),(14,(.j ⟨[33,34],[2,35],⟨wY,pQ⟩,[]⟩))]⟩
def O0:cf:=cn Dx ka
def Be:FT:=⟨⟨[.d l_,.d Hk,.d aM,.d aM,.d aM],[]⟩,⟨[.d .bool],[]⟩,dE [(15,(.j ⟨[],[10],⟨[.d .bool],[]⟩,[]⟩)),(21,(.j ⟨[],[10],⟨[.d .bool],[]⟩,[]⟩)),(24,(.j ⟨[2,4,11],[5,6,60],⟨qL,V4⟩,[]⟩)),(64,(.j ⟨[2,4,11],[5,6,109],⟨qL,V4⟩,[]⟩)),(81,(.j ⟨[],[10],⟨[.d .bool],[]⟩,[]⟩)),(87,(.j ⟨[],[10],⟨[.d .bool],[]⟩,[]⟩))]⟩
def LY:cf:=cn Be oD
def yo:FT:=⟨⟨[.d l_,.d Hk,.d aM,.d aM,.d aM],[]⟩,⟨[.d .bool],[]⟩,dE [(3,(.j ⟨[2,3,4],[5,6,30],⟨qL,V4⟩,[]⟩)),(25,(.j ⟨[],[10],⟨[.d .bool],[]⟩,[]⟩)),(29,(.j ⟨[],[10],⟨[.d .bool],[]⟩,[]⟩))]⟩
def G':cf:=cn yo i_
def wK:FT:=⟨⟨[.d l_,.d iL],[]⟩,⟨[.d .bool],[]⟩,dE [(2,(.j ⟨[],[4],⟨[.d .bool],[]⟩,[]⟩))]⟩
def E4:cf:=cn wK kQ
def uF:FT:=⟨⟨[.d l_,.d gd],[]⟩,⟨[.d .bool],[]⟩,dE [(3,(.j ⟨[],[2,3,12],⟨qL,[.cells 31 [.d l_],.cells 54 [.d gd]]⟩,[]⟩)),(10,(.j ⟨[],[4],⟨[.d .bool],[]⟩,[]⟩))]⟩
def B5:cf:=cn uF jy
def qF:FT:=⟨⟨[.d l_,.d iL,.d gd],[]⟩,⟨[.d .bool],[]⟩,dE [(2,(.j ⟨[],[4,5,7],⟨qL,[.cells 110 [.d iL],.cells 54 [.d gd]]⟩,[]⟩)),(4,(.j ⟨[],[4,5,8],⟨ajn,Ld8⟩,[]⟩)),(10,(.j ⟨[51],[4,5,8,52],⟨Fn,Ld8⟩,[]⟩)),(22,(.j ⟨[10,51,52],[4,5,8,64],⟨DW,Ld8⟩,[]⟩)),(34,(.j ⟨[51,52,65,66],[4,5,8,11,67],⟨[.ptr 0 0,.ptr 1 0,.ptr 2 0,.d aM,.d aM],Ld8⟩,[]⟩)),(46,(.j ⟨[13,51,52,65,66,67],[4,5,8,83],⟨DW,Ld8⟩,[]⟩))]⟩
def xQ:cf:=cn qF eU
def uE:FT:=⟨⟨[.d iL,.d gd],[]⟩,⟨[.d .bool],[]⟩,dE [(21,(.j ⟨[],[4],⟨[.d .bool],[]⟩,[]⟩)),(24,(.j ⟨[13],[2,3,46],⟨qL,[.cells 110 [.d iL],.cells 54 [.d gd]]⟩,[]⟩)),(43,(.j ⟨[53,54],[3,5,6,55],⟨[.ptr 0 0,.d aM,.d .bool,.d aM],Zf⟩,[]⟩)),(51,(.j ⟨[53,54,55],[3,5,6],⟨[.ptr 0 0,.d aM,.d .bool],Zf⟩,[]⟩)),(54,(.j ⟨[5,6,7,53,54,55],[3,69],⟨gY,Zf⟩,[]⟩)),(62,(.j ⟨[],[4],⟨[.d .bool],[]⟩,[]⟩)),(74,(.j ⟨[94,95],[3,9,96],⟨S5,Zf⟩,[]⟩)),(82,(.j ⟨[94,95,96],[3,9],⟨wY,Zf⟩,[]⟩)),(85,(.j ⟨[9,94,95,96],[3,109],⟨gY,Zf⟩,[]⟩))]⟩
def B4:cf:=cn uE gr
def Bd:FT:=⟨⟨[.d hY,.d aM],[]⟩,⟨[.d .bool],[]⟩,dE [(2,(.j ⟨[],[4],⟨[.d .bool],[]⟩,[]⟩))]⟩
def LX:cf:=cn Bd mh
def RE:FT:=⟨⟨[.d pR],[]⟩,⟨[.d pR],[]⟩,.leaf⟩
def zM:cf:=cn RE Iz
def afg:cf:=⟨zM.pre,zM.post,N3⟩
def Nd:FT:=⟨⟨[.d pR],[]⟩,⟨[.row 0],[.rows 4 ai .bool]⟩,dE [(8,(.a [.nil 2 4 .bool])),(12,(.a [.nil 2 4 .bool]))]⟩
def wW:cf:=cn Nd Ev
def abz:cf:=⟨wW.pre,wW.post,Iy⟩
def RC:FT:=⟨⟨[.d (.sl hY)],[]⟩,⟨[.d (.sl hY)],[]⟩,.leaf⟩
def zK:cf:=cn RC Iw
def afd:cf:=⟨zK.pre,zK.post,N2⟩
def Nb:FT:=⟨⟨[.d (.sl hY)],[]⟩,⟨[.row 0],[.rows 177 ai hY]⟩,dE [(8,(.a [.nil 2 177 hY])),(12,(.a [.nil 2 177 hY]))]⟩
def wU:cf:=cn Nb Et
def abw:cf:=⟨wU.pre,wU.post,Iv⟩
def Nc:FT:=⟨⟨nj,[]⟩,⟨[.row 0],[.rows 2 ai aM]⟩,dE [(8,(.a [.nil 2 2 aM])),(12,(.a [.nil 2 2 aM]))]⟩
def wV:cf:=cn Nc Eu
def aby:cf:=⟨wV.pre,wV.post,yW⟩
def Bf:FT:=⟨⟨[.d Hk],[]⟩,⟨[.agg Hj],Ld6⟩,dE [(8,(.j ⟨[11,12],[1,2,3,13],⟨[.ptr 0 0,.ptr 1 0,.row 2,.d aM],[.cells 107 [.d Hk],.cells 107 Cc,.rows 175 aj dY]⟩,[]⟩))]⟩
def LZ:cf:=cn Bf kq
def zB:FT:=⟨⟨[.agg Hj,.d aM,.d aM],Ld6⟩,⟨[.d aM],Ld6⟩,dE [(8,(.j ⟨[1,2,12],[3,7,11,13],⟨[.ptr 3 0,.d aM,.row 2,.d aM],Ld5⟩,[]⟩)),(16,(.j ⟨[1,2,12,13],[3,7,11],⟨[.ptr 3 0,.d aM,.row 2],Ld5⟩,[]⟩)),(19,(.j ⟨[1,2,7,8,12,13],[3,11,29],⟨[.ptr 3 0,.row 2,.d .bool],Ld5⟩,[]⟩)),(25,(.j ⟨[7],[],⟨[],Ld6⟩,[]⟩))]⟩
def Kf:cf:=cn zB jD
def vx:FT:=⟨⟨[.agg Hj,.d aM],Ld6⟩,⟨[.d aM],Ld6⟩,dE [(8,(.j ⟨[1,10],[2,5,9,11],⟨[.ptr 3 0,.d aM,.row 2,.d aM],Ld5⟩,[]⟩)),(16,(.j ⟨[1,10,11],[2,5,9],⟨[.ptr 3 0,.d aM,.row 2],Ld5⟩,[]⟩))]⟩
def DK:cf:=cn vx gQ
def zF:FT:=⟨⟨[.d aM],[]⟩,⟨[.d .bool],[]⟩,.leaf⟩
def Kn:cf:=cn zF qm
def Bj:FT:=⟨⟨vT,[]⟩,⟨[.d .bool],[]⟩,dE [(2,(.j ⟨[],[4],⟨[.d .bool],[]⟩,[]⟩))]⟩
def L5:cf:=cn Bj vK
def wQ:FT:=⟨⟨[.d (.int .u64)],[]⟩,⟨[.d aM],[]⟩,.leaf⟩
def Fb:cf:=cn wQ rx
def zE:FT:=⟨⟨[.d (.int .u64)],[]⟩,⟨[.d aM],[]⟩,.leaf⟩
def Kj:cf:=cn zE ul
def nY:FT:=⟨⟨[.row 0,.d aM,.d aM],Pr⟩,⟨[],Pr⟩,dE [(3,(.j ⟨[1,2],[0,6],⟨Ps,Pr⟩,[]⟩)),(15,(.j ⟨[1,2,6],[0,7],⟨Ps,Pr⟩,[]⟩)),(17,(.j ⟨[1,2,6,7],[0,30],⟨[.row 0,.d .bool],Pr⟩,[]⟩))]⟩
def uS:cf:=cn nY fQ
def sX:FT:=⟨⟨[.row 0,.d aM,.d aM,.d aM],Pr⟩,⟨[],Pr⟩,dE [(5,(.j ⟨[],[0,1,2,3,8,9],⟨[.row 0,.d aM,.d aM,.d aM,.d .bool,.d .bool],Pr⟩,[]⟩))]⟩
def AB:cf:=cn sX jf
def Na:FT:=⟨⟨[.row 0],Pr⟩,⟨[],Pr⟩,.leaf⟩
def YV:cf:=cn Na wA
def DG:FT:=⟨⟨[.row 0],Pr⟩,⟨[.row 0],Pr⟩,dE [(14,(.j ⟨[],[0,3],⟨Ps,Pr⟩,[]⟩))]⟩
def Pc:cf:=cn DG lB
def yp:FT:=⟨⟨[.d aM,.ptr 0 0],[.cells 3 [.d aM]]⟩,⟨[.d .bool],[.cells 3 [.d aM]]⟩,.leaf⟩
def Ha:cf:=cn yp oS
def zG:FT:=⟨⟨[.row 0,.clo 140 1 0],Ld9⟩,⟨[.d aM],Ld9⟩,dE [(6,(.j ⟨[7],[0,1,8],⟨[.row 0,.clo 140 1 0,.d aM],Ld9⟩,[]⟩))]⟩
def Ko:cf:=cn zG mZ
def yA:FT:=⟨⟨[.row 0,.clo 140 1 0],Ld9⟩,⟨[.row 2],[.gone,.cells 3 [.d aM],.rows 3 aj aM]⟩,dE [(16,(.j ⟨[],[0,1,5,6],⟨[.row 0,.clo 140 1 0,.d aM,.d aM],Ld9⟩,[]⟩)),(24,(.j ⟨[6],[0,1,5],⟨[.row 0,.clo 140 1 0,.d aM],Ld9⟩,[]⟩))]⟩
def Hf:cf:=cn yA ja
def ne:FT:=⟨⟨[.d l_,.d Hk,.d aM,.d aM,.d aM,.d aM],[]⟩,⟨[.d Hk,.d aM,.d .bool],[]⟩,dE [(17,(.j ⟨[],[7,12,15],⟨vU,[.cells 107 [.row 2,.d aM,.row 3,.row 4],.cells 107 Cc,.rows 175 aj dY,.rows 4 ai .bool,.rows 177 ai hY]⟩,[]⟩)),(26,(.j ⟨[4,5,15,27],[6,7,8,12,42],⟨zQ,an5⟩,[]⟩)),(34,(.j ⟨[4,5,15,27],[6,7,8,12,51],⟨zQ,an5⟩,[]⟩))]⟩
def Ki:cf:=cn ne gR
def zC:FT:=⟨⟨[.d Hk],[]⟩,⟨[.agg [.csl 0 2 3,.d aM,.d pR,.d (.sl hY)]],[.cells 175 [.d aM,.row 1,.d aM,.row 2,.d aM,.row 3],.rows 3 ai aM,.rows 3 ai aM,.rows 3 ai aM]⟩,dE [(7,(.j ⟨[],[1,2,3],⟨[.ptr 0 0,.ptr 1 0,.csl 2 2 3],[.cells 107 [.d Hk],.cells 107 Cc,.cells 175 [.d aM,.row 3,.d aM,.row 4,.d aM,.row 5],.rows 3 ai aM,.rows 3 ai aM,.rows 3 ai aM]⟩,[.cel 3 1 3 aM,.cel 3 3 3 aM,.cel 3 5 3 aM]⟩)),(8,(.u 4))]⟩
def Kg:cf:=cn zC mX
def zD:FT:=⟨⟨[.d l_,.d Hk,.d aM,.d aM,.d aM,.d aM],[]⟩,⟨[.d Hk,.d aM,.d .bool],[]⟩,dE [(17,(.j ⟨[],[7,12,15],⟨vU,[.cells 107 [.csl 2 2 3,.d aM,.d pR,.d (.sl hY)],.cells 107 Cc,.cells 175 [.d dY,.d dY,.d aM,.row 3],.rowsP 3 aM]⟩,[]⟩)),(26,(.j ⟨[4,5,15,27],[6,7,8,12,42],⟨zQ,[.cells 31 [.d l_],.cells 107 [.csl 4 2 3,.d aM,.d pR,.d (.sl hY)],.cells 3 [.d aM],.cells 107 Cc,.cells 175 [.d aM,.row 5,.d aM,.row 6,.d aM,.row 7],.rows 3 ai aM,.rows 3 ai aM,.rows 3 ai aM]⟩,[]⟩)),(33,(.s 4 0 0 0)),(34,(.j ⟨[4,5,15,27],[6,7,8,12,51],⟨zQ,[.cells 31 [.d l_],.cells 107 [.csl 4 2 3,.d aM,.d pR,.d (.sl hY)],.cells 3 [.d aM],.cells 107 Cc,.cells 175 [.d aM,.d (.sl aM),.d aM,.d (.sl aM),.d aM,.row 5],.rows 3 ai aM]⟩,[]⟩)),(41,(.s 4 0 0 0)),(46,(.s 4 0 0 3)),(53,(.s 4 0 0 3)),(74,(.s 4 0 0 0)),(80,(.s 4 0 0 0)),(100,(.a [.pk 7 0 dY]))]⟩
def Kh:cf:=cn zD kU
def L2:cf:=cn ne rP
def wL:FT:=⟨⟨[.d l_,.d iL,.d gd],[]⟩,⟨[.d iL,.d .bool],[]⟩,dE [(3,(.j ⟨[],[3,4,5,6,39],⟨zQ,KK⟩,[]⟩)),(11,(.j ⟨[],[3,4,5,6,70],⟨zQ,KK⟩,[]⟩)),(20,(.j ⟨[],[3,4,5,6,8],⟨[.ptr 0 0,.ptr 1 0,.ptr 2 0,.ptr 3 0,.d aM],KK⟩,[]⟩)),(41,(.j ⟨[],[5,6,12],⟨ajn,ajr⟩,[]⟩))]⟩
def E5:cf:=cn wL fM
def uI:FT:=⟨⟨[.d oK],[]⟩,⟨vT,[]⟩,dE [(26,(.j ⟨[27,28],[1,4,5,29],⟨[.ptr 0 0,.ptr 1 0,.csl 2 1 1,.d aM],[.cells 34 [.d oK],.cells 110 [.d iL],.cells 104 [.row 3],.rows 4 ai .bool]⟩,[.cel 5 0 4 .bool]⟩)),(40,(.j ⟨[6,27,28,29],[1,4,5,7,8,53],⟨[.ptr 0 0,.ptr 1 0,.csl 2 1 1,.ptr 3 0,.ptr 4 0,.d .bool],[.cells 34 [.d oK],.cells 110 [.d iL],.cells 104 [.row 5],.cells 54 [.d gd],.cells 110 [.d iL],.rows 4 ai .bool]⟩,[]⟩)),(41,(.s 7 0 0 1)),(47,(.j ⟨[27,28,29],[1,4,5,8],⟨[.ptr 0 0,.ptr 1 0,.csl 2 1 1,.ptr 3 0],[.cells 34 [.d oK],.cells 110 [.d iL],.cells 104 [.row 4],.cells 110 [.d iL],.rows 4 ai .bool]⟩,[]⟩)),(48,(.s 7 0 0 1))]⟩
def B9:cf:=cn uI eh
def uH:FT:=⟨⟨[.d oK],[]⟩,⟨vT,[]⟩,dE [(26,(.j ⟨[27,28],[1,4,5,29],⟨[.ptr 0 0,.ptr 1 0,.csl 2 1 2,.d aM],[.cells 34 [.d oK],.cells 110 [.d iL],.cells 104 [.row 3,.row 4],.rows 4 ai .bool,.rows 4 ai .bool]⟩,[.cel 5 0 4 .bool,.cel 5 1 4 .bool]⟩)),(40,(.j ⟨[6,27,28,29],[1,4,5,7,8,53],⟨[.ptr 0 0,.ptr 1 0,.csl 2 1 2,.ptr 3 0,.ptr 4 0,.d .bool],[.cells 34 [.d oK],.cells 110 [.d iL],.cells 104 [.row 5,.row 6],.cells 54 [.d gd],.cells 110 [.d iL],.rows 4 ai .bool,.rows 4 ai .bool]⟩,[]⟩)),(41,(.s 7 0 0 2)),(47,(.j ⟨[27,28,29],[1,4,5,8],⟨[.ptr 0 0,.ptr 1 0,.csl 2 1 2,.ptr 3 0],[.cells 34 [.d oK],.cells 110 [.d iL],.cells 104 [.row 4,.row 5],.cells 110 [.d iL],.rows 4 ai .bool,.rows 4 ai .bool]⟩,[]⟩)),(48,(.s 7 0 0 2))]⟩
def B8:cf:=cn uH dj
def uG:FT:=⟨⟨[.d oK],[]⟩,⟨vT,[]⟩,dE [(26,(.j ⟨[27,28],[1,4,5,29],⟨[.ptr 0 0,.ptr 1 0,.csl 2 1 3,.d aM],[.cells 34 [.d oK],.cells 110 [.d iL],.cells 104 [.row 3,.row 4,.row 5],.rows 4 ai .bool,.rows 4 ai .bool,.rows 4 ai .bool]⟩,[.cel 5 0 4 .bool,.cel 5 1 4 .bool,.cel 5 2 4 .bool]⟩)),(40,(.j ⟨[6,27,28,29],[1,4,5,7,8,53],⟨[.ptr 0 0,.ptr 1 0,.csl 2 1 3,.ptr 3 0,.ptr 4 0,.d .bool],[.cells 34 [.d oK],.cells 110 [.d iL],.cells 104 [.row 5,.row 6,.row 7],.cells 54 [.d gd],.cells 110 [.d iL],.rows 4 ai .bool,.rows 4 ai .bool,.rows 4 ai .bool]⟩,[]⟩)),(41,(.s 7 0 0 3)),(47,(.j ⟨[27,28,29],[1,4,5,8],⟨[.ptr 0 0,.ptr 1 0,.csl 2 1 3,.ptr 3 0],[.cells 34 [.d oK],.cells 110 [.d iL],.cells 104 [.row 4,.row 5,.row 6],.cells 110 [.d iL],.rows 4 ai .bool,.rows 4 ai .bool,.rows 4 ai .bool]⟩,[]⟩)),(48,(.s 7 0 0 3))]⟩
def B7:cf:=cn uG dK
def eV:FT:=⟨⟨[.d oK],[]⟩,⟨vT,[]⟩,dE [(26,(.j ⟨[27,28],[1,4,5,29],⟨[.ptr 0 0,.ptr 1 0,.csl 2 1 4,.d aM],[.cells 34 [.d oK],.cells 110 [.d iL],.cells 104 [.row 3,.row 4,.row 5,.row 6],.rows 4 ai .bool,.rows 4 ai .bool,.rows 4 ai .bool,.rows 4 ai .bool]⟩,[.cel 5 0 4 .bool,.cel 5 1 4 .bool,.cel 5 2 4 .bool,.cel 5 3 4 .bool]⟩)),(40,(.j ⟨[6,27,28,29],[1,4,5,7,8,53],⟨[.ptr 0 0,.ptr 1 0,.csl 2 1 4,.ptr 3 0,.ptr 4 0,.d .bool],[.cells 34 [.d oK],.cells 110 [.d iL],.cells 104 [.row 5,.row 6,.row 7,.row 8],.cells 54 [.d gd],.cells 110 [.d iL],.rows 4 ai .bool,.rows 4 ai .bool,.rows 4 ai .bool,.rows 4 ai .bool]⟩,[]⟩)),(41,(.s 7 0 0 4)),(47,(.j ⟨[27,28,29],[1,4,5,8],⟨[.ptr 0 0,.ptr 1 0,.csl 2 1 4,.ptr 3 0],[.cells 34 [.d oK],.cells 110 [.d iL],.cells 104 [.row 4,.row 5,.row 6,.row 7],.cells 110 [.d iL],.rows 4 ai .bool,.rows 4 ai .bool,.rows 4 ai .bool,.rows 4 ai .bool]⟩,[]⟩)),(48,(.s 7 0 0 4))]⟩
def B6:cf:=cn eV ef
def DI:cf:=cn eV mn
def J5:FT:=⟨⟨[.d oK],[]⟩,⟨[.d tL,.d aM],[]⟩,dE [(20,(.j ⟨[25,26],[1,6,7,27],⟨[.ptr 0 0,.ptr 1 0,.row 2,.d aM],[.cells 34 [.d oK],.cells 51 [.d Kd0],.rows 49 aj (.sl aM)]⟩,[]⟩))]⟩
def Vz:cf:=cn J5 mY
def M_:FT:=⟨⟨[.d oK],[]⟩,⟨[.d (.sl iK),.d aM],[]⟩,dE [(20,(.j ⟨[4,6,23],[1,7,24],⟨KF,afy⟩,[.nil 7 59 iK]⟩)),(34,(.j ⟨[4,6,8,23,24,27],[1,7,28],⟨KF,afy⟩,[]⟩)),(42,(.j ⟨[4,6,8,23,24,27,28],[1,7],⟨[.ptr 0 0,.row 1],afy⟩,[]⟩)),(45,(.j ⟨[4,6,8,9,23,24,27,28],[1,7,46],⟨[.ptr 0 0,.row 1,.d .bool],afy⟩,[]⟩))]⟩
def YR:cf:=cn M_ tS
def Xe:FT:=⟨⟨[],[]⟩,⟨[.d l_],[]⟩,dE [(8,(.j ⟨[21],[0,1,22],⟨vU,ag7⟩,[.cel 1 5 141 om]⟩)),(22,(.j ⟨[2,21,22],[0,1,3],⟨vU,ag7⟩,[]⟩))]⟩
def afb:cf:=cn Xe CM
def JY:FT:=⟨⟨[.d .bool],[]⟩,⟨[.d oK],[]⟩,dE [(6,(.j ⟨[],[2,3],⟨[.ptr 0 0,.ptr 1 0],[.cells 34 Zj,.cells 34 [.d (.sl kw),.d (.sl qT),.d (.sl lh),.d (.sl .str),.d (.sl .str),.d (.sl om),.row 2],.rows 54 aj gd]⟩,[]⟩))]⟩
def Vs:cf:=cn JY xt
def DA:FT:=⟨⟨[],[]⟩,⟨[.d .bool],[]⟩,dE [(6,(.j ⟨[],[0],⟨[.d .bool],[]⟩,[]⟩))]⟩
def O6:cf:=cn DA tu
theorem EM:aH Pg 70 YU:=mk M' iV an bV
theorem Qo x:kA (kc x) (yT x):=by
 unfold kc yT vp ck bx bB aX cL aE cC;with_reducible repeat' first|(refine OI.o ?_;constructor)|intro _
theorem Ra:aH Pg 46 Sr:=xu Gu kc yT Qo (ac EM an) bV
theorem WO:aH Pg 52 af2:=mk W9 xq an bV
theorem XQ x:kA (pA x) (Ek x):=by
 unfold pA Ek EO ck bx bB aX cL aE cC;with_reducible repeat' first|(refine OI.o ?_;constructor)|intro _
theorem X4:aH Pg 33 Yw:=xu MT pA Ek XQ (ac WO an) bV
theorem aen:aH Pg 73 DO:=mk Xf N5 an bV
theorem ab8:aH Pg 73 aiv:= @aH.sub Pg 73 DO.pre DO.post N5 BS aen rfl (λx y h=>rJ (b:=8) x y h)
theorem T5 x:kA (ij x) (BJ x):=by
 unfold ij BJ xB ck bx uO bB aX cL aE cC;with_reducible repeat' first|(refine OI.o ?_;constructor)|intro _
theorem UL:aH Pg 72 Vv:=xu J1 ij BJ T5 (ac ab8 an) bV
theorem ab4:aH Pg 73 zL:=mk RD Ix an bV
theorem Ou:aH Pg 73 aff:= @aH.sub Pg 73 zL.pre zL.post Ix oU ab4 rfl (λx y h=>rJ (b:=8) x y h)
theorem UM:aH Pg 43 Vw:=mk J2 uo (ac UL (ac Ou an)) bV
theorem Yb:aH Pg 45 YO:=mk M7 tR an bV
theorem UO:aH Pg 44 Vy:=mk J4 uq (ac Yb an) bV
theorem XS x:kA (pH x) (Eo x):=by
 unfold pH Eo Ah aY bi bw cu dU kC pU ck bx bB aX cL aE cC;with_reducible repeat' first|(refine OI.o ?_;constructor)|intro _
theorem Yd:aH Pg 19 YQ:=xu M9 pH Eo XS an bV
theorem Q_:aH Pg 47 Sq:=mk Gt sj an bV
theorem ab3:aH Pg 73 abx:=mk wR wB an bV
theorem WR:aH Pg 73 afe:= @aH.ro Pg 73 wR.pre wR.post.vs wB vh (ab3.holds rfl) rfl (λx _ h=>by rw[show vh x=obind (wB x) λy=>same y.2 x (af y.1) from gI (obind _) (funext λ_=>P5 ..)] at h;exact h)
theorem ae4 x:kA (tB x) (NY x):=by
 unfold tB NY HK ck bx bB aX cL aE cC;with_reducible repeat' first|(refine OI.o ?_;constructor)|intro _
theorem aek:aH Pg 46 afc:=xu Al tB NY ae4 (ac EM an) bV
theorem ab0:aH Pg 46 aiu:= @aH.ro Pg 46 Al.pre Al.post.vs tB BR (aek.holds rfl) rfl (λx _ h=>by rw[show BR x=obind (tB x) λy=>same y.2 x.2 (af y.1) from gI (obind _) (funext λ_=>P5 ..)] at h;exact h)
theorem UJ:aH Pg 74 Vt:=mk JZ lA (ac ab0 an) bV
theorem aay:aH Pg 75 abs:=mk Rx wy (ac WR an) bV
theorem XR x:kA (rz x) (Em x):=by
 unfold rz Em Ag D3 Prod.p11 Prod.p12 Prod.p13 Prod.p14 Prod.p15 Prod.p16 Prod.p17 aY bi bw cu dU kC zV Ci Prod.q10 Prod.q16 Prod.q17 Prod.q18 cY kB Prod.q9 ck bd bx iR uO bB aX cL aE cC;with_reducible repeat' first|(refine OI.o ?_;constructor)|intro _
theorem Yc:aH Pg 48 YP:=xu M8 rz Em XR (ac ab0 (ac WR (ac UJ (ac aay an)))) bV
theorem aa9 x:kA (sh x) (Ir x):=by
 unfold sh Ir C8 D3 Prod.p11 aY bi bw cu dU kC zV Ci Prod.q11 Prod.q12 cY fh pU Prod.q9 ck bx uO bB aX cL cC;with_reducible repeat' first|(refine OI.o ?_;constructor)|intro _
theorem aaz:aH Pg 20 abt:=xu Ry sh Ir aa9 (ac UM (ac UO (ac Ra (ac Q_ (ac Yc an))))) bV
theorem Um:aH Pg 68 UY:=mk Jy ud an bV
theorem XP x:kA (py x) (Ej x):=by
 unfold py Ej Af ck bx iR bB aX cL aE;with_reducible repeat' first|(refine OI.o ?_;constructor)|intro _
theorem X1:aH Pg 35 Yt:=xu MQ py Ej XP (ac Um an) bV
theorem aa4 x:kA (r8 x) (Iq x):=by
 unfold r8 Iq C7 bx aX cL aE cC;with_reducible repeat' first|(refine OI.o ?_;constructor)|intro _
theorem aav:aH Pg 49 abi:=xu Rt r8 Iq aa4 (ac WO an) bV
theorem X3:aH Pg 21 Yv:=mk MS tQ (ac aav an) bV
theorem NP x:kA (j7 x) (xn x):=by
 unfold j7 xn tF bx jd uO aX cL aE cC;with_reducible repeat' first|(refine OI.o ?_;constructor)|intro _
theorem Oe:aH Pg 13 ON:=xu Dl j7 xn NP (ac X3 an) bV
theorem IP:aH Pg 76 UX:=mk Jx rf an bV
theorem Lo:aH Pg 50 LN:=mk AX oC (ac IP an) bV
theorem Ln:aH Pg 51 LL:=mk AU oB (ac IP an) bV
theorem Ei x:kA (kR x) (re x):=by
 unfold kR re rE D3 Prod.p11 Prod.p12 Prod.p13 Prod.p14 Prod.p15 Prod.p16 Prod.p17 Prod.p18 Prod.p19 aY Prod.p20 bi bw cu dU kC zV Ci Prod.q21 bx bB cL aE cC;with_reducible repeat' first|(refine OI.o ?_;constructor)|intro _
theorem EB:aH Pg 163 E6:=xu wM kR re Ei an bV
theorem K_ x:kA (oy x) (vG x):=by
 unfold oy vG vO bd bx iR bB aX cL aE;with_reducible repeat' first|(refine OI.o ?_;constructor)|intro _
theorem Lk:aH Pg 130 LI:=xu AQ oy vG K_ (ac EB an) bV
theorem T8 x:kA (rA x) (BL x):=by
 unfold rA BL xG bd bx bD aX cL aE cC;with_reducible repeat' first|(refine OI.o ?_;constructor)|intro _
theorem UP:aH Pg 195 VG:=xu J6 rA BL T8 an bV
theorem LF:aH Pg 164 L7:=mk Bl kr (ac UP an) bV
theorem LD:aH Pg 39 L6:=mk Bk vL (ac EM an) bV
theorem UN:aH Pg 69 Vx:=mk J3 xw an bV
theorem Oq:aH Pg 38 O9:=mk DC xv (ac UN an) bV
theorem T4 x:kA (um x) (BI x):=by
 unfold um BI B1 ck bx bB bD aX cL aE cC;with_reducible repeat' first|(refine OI.o ?_;constructor)|intro _
theorem UK:aH Pg 37 Vu:=xu J0 um BI T4 an bV
theorem G1:aH Pg 131 Hd:=mk yw sH an bV
theorem G2:aH Pg 94 He:=mk yz sI (ac G1 an) bV
theorem At x:kA (gX x) (oc x):=by
 unfold gX oc oh aY bi bw cu dx fh bd bx jd bB bD aX cL aE cC;with_reducible repeat' first|(refine OI.o ?_;constructor)|intro _
theorem Az:aH Pg 92 AF:=xu s5 gX oc At an bV
theorem As x:kA (dM x) (oa x):=by
 unfold dM oa og aY bi bw bx bB bD kz aX cL aE cC;with_reducible repeat' first|(refine OI.o ?_;constructor)|intro _
theorem Ay:aH Pg 93 AE:=xu sZ dM oa As (ac Lk an) bV
theorem Ar x:kA (fV x) (n_ x):=by
 unfold fV n_ kJ aY bi cu cY bx jd bD aX cL aE cC;with_reducible repeat' first|(refine OI.o ?_;constructor)|intro _
theorem Ax:aH Pg 95 AD:=xu sY fV n_ Ar an bV
theorem Au x:kA (dN x) (od x):=by
 unfold dN od kK aY bi cu cY bx bD aX cL aE cC;with_reducible repeat' first|(refine OI.o ?_;constructor)|intro _
theorem kH:aH Pg 63 AG:=xu s6 dN od Au (ac Az (ac Ay (ac G2 (ac Ax an)))) bV
theorem Lc x:kA (oE x) (vI x):=by
 unfold oE vI vP aY bi bw bK dx cY ck bx bB aX cL aE cC;with_reducible repeat' first|(refine OI.o ?_;constructor)|intro _
theorem Ly:aH Pg 96 L1:=xu Bg oE vI Lc an bV
theorem CH x:kA (di x) (qb x):=by
 unfold di qb qw aY bi bw dx bx bB bD aX cL aE cC;with_reducible repeat' first|(refine OI.o ?_;constructor)|intro _
theorem mo:aH Pg 64 DH:=xu vw di qb CH (ac Ly an) bV
theorem yP x:kA (ci x) (mH x):=by
 unfold ci mH kg dU kB bx iR bB bD aX cL aE cC;with_reducible repeat' first|(refine OI.o ?_;constructor)|intro _
theorem kf:aH Pg 66 zH:=xu sA ci mH yP an bV
theorem uw:aH Pg 133 Ke:=mk zA eZ an bV
theorem G0:aH Pg 134 G_:=mk yn lU (ac uw an) bV
theorem NQ x:kA (ka x) (xo x):=by
 unfold ka xo tG aY bi bw dx bx jd bD aX cL aE cC;with_reducible repeat' first|(refine OI.o ?_;constructor)|intro _
theorem C2:aH Pg 132 O0:=xu Dx ka xo NQ (ac uw an) bV
theorem Lw:aH Pg 135 LY:=mk Be oD (ac LF an) bV
theorem sJ:aH Pg 98 G':=mk yo i_ (ac C2 (ac uw (ac G0 (ac Lw an)))) bV
theorem EA:aH Pg 97 E4:=mk wK kQ (ac C2 an) bV
theorem BU:aH Pg 99 B5:=mk uF jy an bV
theorem xm x:kA (eU x) (lx x):=by
 unfold eU lx jk aY bi bw cu bK dx fh bd bx iR bB bD aX cL aE cC;with_reducible repeat' first|(refine OI.o ?_;constructor)|intro _
theorem xy:aH Pg 100 xQ:=xu qF eU lx xm an bV
theorem BA x:kA (gr x) (o7 x):=by
 unfold gr o7 lD aY bi bw cu bK bd bx bD aX cL aE cC;with_reducible repeat' first|(refine OI.o ?_;constructor)|intro _
theorem BT:aH Pg 101 B4:=xu uE gr o7 BA an bV
theorem AL:aH Pg 170 LX:=mk Bd mh an bV
theorem ab7:aH Pg 165 zM:=mk RE Iz an bV
theorem aem:aH Pg 165 afg:= @aH.sub Pg 165 zM.pre zM.post Iz N3 ab7 rfl (λx y h=>rJ (b:=1) x y h)
theorem Yj:aH Pg 165 wW:=mk Nd Ev an bV
theorem ab6:aH Pg 165 abz:= @aH.sub Pg 165 wW.pre wW.post Ev Iy Yj rfl (λx y h=>rJ (b:=1) x y h)
theorem ab2:aH Pg 166 zK:=mk RC Iw an bV
theorem ael:aH Pg 166 afd:= @aH.sub Pg 166 zK.pre zK.post Iw N2 ab2 rfl (λx y h=>rJ (b:=24) x y h)
theorem Yh:aH Pg 166 wU:=mk Nb Et an bV
theorem ab1:aH Pg 166 abw:= @aH.sub Pg 166 wU.pre wU.post Et Iv Yh rfl (λx y h=>rJ (b:=24) x y h)
theorem Yi:aH Pg 103 wV:=mk Nc Eu an bV
theorem ab5:aH Pg 103 aby:= @aH.sub Pg 103 wV.pre wV.post Eu yW Yi rfl (λx y h=>rJ (b:=8) x y h)
theorem Lb x:kA (kq x) (vH x):=by
 unfold kq vH rT aY bK ck bx bB bD aX cL cC;with_reducible repeat' first|(refine OI.o ?_;constructor)|intro _
theorem Lx:aH Pg 136 LZ:=xu Bf kq vH Lb (ac ab8 (ac ab6 (ac ab1 an))) bV
theorem Il x:kA (jD x) (ua x):=by
 unfold jD ua qz aY bi bK ck bx iR kz aX cL aE cC;with_reducible repeat' first|(refine OI.o ?_;constructor)|intro _
theorem I0:aH Pg 141 Kf:=xu zB jD ua Il (ac AL an) bV
theorem CI x:kA (gQ x) (qc x):=by
 unfold gQ qc mr aY bi bK dx ck bx kz aX cL aE cC;with_reducible repeat' first|(refine OI.o ?_;constructor)|intro _
theorem C1:aH Pg 142 DK:=xu vx gQ qc CI (ac AL an) bV
theorem I7:aH Pg 223 Kn:=mk zF qm an bV
theorem LC:aH Pg 202 L5:=mk Bj vK (ac I7 an) bV
theorem EJ:aH Pg 206 Fb:=mk wQ rx an bV
theorem I4:aH Pg 168 Kj:=mk zE ul (ac EJ an) bV
theorem uP x:kA (fQ x) (jT x):=by
 unfold fQ jT jU ck bx kz cL aE cC;with_reducible repeat' first|(refine OI.o ?_;constructor)|intro _
theorem uQ:aH Pg 196 uS:=xu nY fQ jT uP (ac LC an) bV
theorem Aq x:kA (jf x) (nZ x):=by
 unfold jf nZ oe aY bi bd iR bB aE;with_reducible repeat' first|(refine OI.o ?_;constructor)|intro _
theorem Aw:aH Pg 167 AB:=xu sX jf nZ Aq (ac uQ an) bV
theorem Yg:aH Pg 137 YV:=mk Na wA (ac Aw (ac I4 an)) bV
theorem NT x:kA (lB x) (xp x):=by
 unfold lB xp xH bd bx bB kz aX cL aE cC;with_reducible repeat' first|(refine OI.o ?_;constructor)|intro _
theorem Ot:aH Pg 138 Pc:=xu DG lB xp NT an bV
theorem yc:aH Pg 140 Ha:=mk yp oS an bV
theorem Io x:kA (mZ x) (ub x):=by
 unfold mZ ub uB bx kz aX cL aE cC;with_reducible repeat' first|(refine OI.o ?_;constructor)|intro _
theorem I8:aH Pg 169 Ko:=xu zG mZ ub Io (ac yc an) bV
theorem GM x:kA (ja x) (sG x):=by
 unfold ja sG sL ck bd bx bB kz aX cL aE cC;with_reducible repeat' first|(refine OI.o ?_;constructor)|intro _
theorem G3:aH Pg 139 Hf:=xu yA ja sG GM (ac yc (ac I8 an)) bV
theorem I3:aH Pg 102 Ki:=mk ne gR (ac sJ (ac Lx (ac I0 (ac C1 an)))) bV
def tv2 (t:TypeId):Option Ty:=if aC t 175 then af (.pr .un (.pr .un (.pr .un (.pr .un dY)))) else bV t
theorem I1:aH Pg 136 Kg:=mk zC mX (ac Ou (ac aem (ac ael an))) tv2
theorem I2:aH Pg 102 Kh:=mk zD kU (ac sJ (ac I1 (ac Yg (ac Ot (ac G3 an))))) tv2
theorem Lz:aH Pg 102 L2:=(aH.orE (pre:=ne.pre) (post:=ne.post) (m:=gR) (m':=kU) rfl I3 I2)
theorem nM:aH Pg 65 E5:=mk wL fM (ac Ou (ac EA (ac sJ (ac BU (ac xy (ac BT (ac Lz (ac ab5 an)))))))) bV
def tv3 (t:TypeId):Option Ty:=if aC t 104 then af (.pr .un (.pr .un pR)) else bV t
theorem BF x:kA (eh x) (pa x):=by
 unfold eh pa lE aY bi bw bK cY bd bx bB bD aX cL aE cC;with_reducible repeat' first|(refine OI.o ?_;constructor)|intro _
theorem BY:aH Pg 30 B9:=xu uI eh pa BF (ac kH (ac mo (ac nM (ac kf an)))) tv3
def tv4 (t:TypeId):Option Ty:=if aC t 104 then af (.pr .un (.pr .un (.pr .un pR))) else bV t
theorem BE x:kA (dj x) (o_ x):=by
 unfold dj o_ jI aY bi bw cu bK dx fh bd bx bB bD aX cL aE cC;with_reducible repeat' first|(refine OI.o ?_;constructor)|intro _
theorem BX:aH Pg 30 B8:=xu uH dj o_ BE (ac kH (ac mo (ac nM (ac kf an)))) tv4
def tv5 (t:TypeId):Option Ty:=if aC t 104 then af (.pr .un (.pr .un (.pr .un (.pr .un pR)))) else bV t
theorem BD x:kA (dK x) (o9 x):=by
 unfold dK o9 jH aY bi bw cu dU bK cY fh kB bd bx bB bD aX cL aE cC;with_reducible repeat' first|(refine OI.o ?_;constructor)|intro _
theorem BW:aH Pg 30 B7:=xu uG dK o9 BD (ac kH (ac mo (ac nM (ac kf an)))) tv5
def tv6 (t:TypeId):Option Ty:=if aC t 104 then af (.pr .un (.pr .un (.pr .un (.pr .un (.pr .un pR))))) else bV t
theorem BB x:kA (ef x) (o8 x):=by
 unfold ef o8 jG aY bi bw cu dU kC bK fh kB pU bd bx bB bD aX cL aE cC;with_reducible repeat' first|(refine OI.o ?_;constructor)|intro _
theorem BV:aH Pg 30 B6:=xu eV ef o8 BB (ac kH (ac mo (ac nM (ac kf an)))) tv6
theorem CX:aH Pg 30 DI:=(aH.orE (pre:=eV.pre) (post:=eV.post) (m:=ef) (m':=(λx=>orE (dK x) ((λx=>orE (dj x) (eh x)) x))) rfl BV (aH.orE (pre:=eV.pre) (post:=eV.post) (m:=dK) (m':=(λx=>orE (dj x) (eh x))) rfl BW (aH.orE (pre:=eV.pre) (post:=eV.post) (m:=dj) (m':=eh) rfl BX BY)))
theorem T6 x:kA (mY x) (BK x):=by
 unfold mY BK xC aY bK ck bx jd bB bD aX cL aE cC;with_reducible repeat' first|(refine OI.o ?_;constructor)|intro _
theorem I6:aH Pg 12 Vz:=xu J5 mY BK T6 (ac Yd (ac aaz (ac CX an))) bV
theorem XT x:kA (tS x) (Ep x):=by
 unfold tS Ep EP bx jd bB bD aX cL aE cC;with_reducible repeat' first|(refine OI.o ?_;constructor)|intro _
theorem Ye:aH Pg 16 YR:=xu M_ tS Ep XT (ac I6 (ac UK (ac Oq (ac LD an)))) bV
theorem ae3 x:kA (CM x) (NX x):=by
 unfold CM NX Oy aY bi bw cu fh bx bB cL aE cC;with_reducible repeat' first|(refine OI.o ?_;constructor)|intro _
theorem aej:aH Pg 55 afb:=xu Xe CM NX ae3 an bV
theorem UI:aH Pg 36 Vs:=mk JY xt (ac aej an) bV
theorem Oo:aH Pg 15 O6:=mk DA tu (ac Ye (ac UI an)) bV
abbrev Le1:List PB:=[.cells 31 [.d l_],.rows 3 ai aM,.cells 54 [.d gd],.cells 54 [.d gd]]
abbrev Le2:List PB:=[.cells 34 [.d oK],.rows 49 ai (.sl aM)]
abbrev Le3:List PB:=[.cells 31 [.d l_],.rows 3 ai aM,.cells 54 [.d gd]]
abbrev Le4:List PV:=[.ptr 0 0,.row 1,.ptr 2 0,.ptr 3 0,.d .bool]
abbrev Le7:List PB:=[.cells 31 [.d l_],.rows 3 ai aM]
abbrev Le8:List PV:=[.d (.sl gd),.d aM]
abbrev Le9:List PV:=[.ptr 0 0,.row 1,.d .bool]
def FR:FT:=⟨⟨[.d gd],[]⟩,⟨[.d .bool],[]⟩,dE [(2,(.j ⟨[],[2],⟨[.d .bool],[]⟩,[]⟩))]⟩
def RJ:cf:=cn FR pB
def AT:FT:=⟨⟨[.d l_,.d gd],[]⟩,⟨[.d .bool],[]⟩,dE [(2,(.j ⟨[],[4],⟨[.d .bool],[]⟩,[]⟩))]⟩
def LK:cf:=cn AT oA
def AW:FT:=⟨⟨Le8,[]⟩,⟨[.d aM],[]⟩,dE [(6,(.j ⟨[0,1],[5],⟨[.d aM],[]⟩,[]⟩))]⟩
def LM:cf:=cn AW mb
def Jw:FT:=⟨⟨Le8,[]⟩,⟨[.d aM],[]⟩,dE [(5,(.j ⟨[0,1,5],[19],⟨[.d .bool],[]⟩,[]⟩)),(16,(.j ⟨[0,1,5],[6],⟨[.d aM],[]⟩,[]⟩)),(25,(.j ⟨[0,1,5,6],[66],⟨[.d .bool],[]⟩,[]⟩))]⟩
def UW:cf:=cn Jw uc
def MU:FT:=⟨⟨[.d l_,.d (.sl gd),.d aM],[]⟩,⟨nj,[]⟩,dE [(10,(.j ⟨[1,2],[3,7,8,9],⟨[.ptr 0 0,.row 1,.ptr 2 0,.d aM],Le3⟩,[.nil 7 3 aM]⟩)),(21,(.j ⟨[1,2,9],[3,7,8],⟨[.ptr 0 0,.row 1,.ptr 2 0],Le3⟩,[]⟩)),(22,(.j ⟨[1,2,9],[3,7,8,10,25],⟨Le4,Le1⟩,[]⟩)),(26,(.j ⟨[1,2,9],[3,7,8,10,45],⟨Le4,Le1⟩,[]⟩)),(30,(.j ⟨[1,2,9],[3,7,8,10,60],⟨Le4,Le1⟩,[]⟩)),(34,(.j ⟨[1,2,9],[3,7,8,85],⟨[.ptr 0 0,.row 1,.ptr 2 0,.d .bool],Le3⟩,[]⟩)),(40,(.j ⟨[],[7],⟨[.row 0],Pr⟩,[]⟩))]⟩
def Yx:cf:=cn MU wh
def MR:FT:=⟨⟨[.d l_,.d (.sl gd),.d aM],[]⟩,⟨nj,[]⟩,dE [(10,(.j ⟨[1,2,8,9],[3,7,10],⟨KF,Le7⟩,[.nil 7 3 aM]⟩)),(18,(.j ⟨[1,2,8,9,10],[3,7],⟨[.ptr 0 0,.row 1],Le7⟩,[]⟩)),(21,(.j ⟨[1,2,8,9,10],[3,7,65],⟨Le9,Le7⟩,[]⟩))]⟩
def Yu:cf:=cn MR wg
def FP:FT:=⟨⟨[.d oK],[]⟩,⟨[.d tL],[]⟩,dE [(6,(.a [.nil 3 49 (.sl aM)])),(8,(.j ⟨[13],[1,3,14],⟨KF,Le2⟩,[]⟩)),(21,(.j ⟨[4,13,14],[1,3,5],⟨[.ptr 0 0,.row 1,.d (.sl aM)],Le2⟩,[]⟩)),(33,(.j ⟨[4,13,14,32,33],[1,3,5,34],⟨[.ptr 0 0,.row 1,.d (.sl aM),.d aM],Le2⟩,[]⟩)),(50,(.j ⟨[4,13,14,50,51],[1,3,5,52],⟨[.ptr 0 0,.row 1,.d (.sl aM),.d aM],Le2⟩,[]⟩))]⟩
def RI:cf:=cn FP r9
def yr:FT:=⟨⟨[.d Ke0],[]⟩,⟨[.d .bool],[]⟩,dE [(6,(.j ⟨[],[2],⟨[.d .bool],[]⟩,[]⟩))]⟩
def Hc:cf:=cn yr lV
theorem QE:aH Pg 71 RJ:=mk FR pB an bV
theorem Lm:aH Pg 41 LK:=mk AT oA (ac QE an) bV
theorem AK:aH Pg 31 LM:=mk AW mb an bV
theorem Ul:aH Pg 67 UW:=mk Jw uc (ac AK an) bV
theorem X5:aH Pg 32 Yx:=mk MU wh (ac Lm (ac Ul an)) bV
theorem X2:aH Pg 34 Yu:=mk MR wg (ac Lo (ac Ln an)) bV
theorem QD:aH Pg 14 RI:=mk FP r9 (ac AK (ac X5 (ac X4 (ac X2 (ac X1 an))))) bV
theorem hlaw23_HBClocks:aH Pg 3 Hc:=mk yr lV (ac EC (ac I6 (ac Oe (ac QD (ac Oo an))))) bV
theorem run_law {P:Program} {f:FuncId} {pre:Tm} {m:pre.ty.den->Option (Tm.ty ⟨[.d .bool],[]⟩).den} (sp:pN P f ⟨pre,⟨[.d .bool],[]⟩,m⟩) (h0:pre.bs.length=0) {x:pre.ty.den} (M:m x=af ai) {vs:List TV} {hp:bh} (hi:CW pre x=af (vs,hp)) {la:List AV} (hla:cR hp vs=af la)
 {W:World} {us:List Value} (hg:∀ g cells,G g=af cells->nh (λ_=>False) W (.ptr cells 0) (.pointer (af ⟨g,0,ah⟩))) (hrel:jW (λ_=>ah) (λ_=>False) W la us):
 Calls P f us.toArray W λe w'=>e= .returned (.bool ai)/\Below W.heap.size W w':=by
 obtain⟨l1,I⟩:=wE hi;obtain⟨l2,J⟩:=wE (t:=⟨[.d .bool],[]⟩) (x:=ai) (vs:=[.f .bool ai]) (h1:=PT.leaf) rfl;have hn:bA hp=λ_=>ah:=by
  funext n;cases hb:bA hp n with
  |none=>rfl
  |some b=>
   obtain⟨i,c,rfl,h1,_⟩:=jv hb;have:=I.lt_len h1;omega
 have own0:∀ (φ:PM) k,¬own φ (bA hp) k:=by rintro φ k ⟨i,b,h1,_⟩;rw[hn] at h1;cases h1
 have htot:tot (λ_=>False) (λ_=>ah) (bA hp)=λ_=>False:=by
  funext k;exact propext ⟨λh=>h.elim id λh=>cV h (own0 _ k),λh=>h.elim⟩
 refine Calls.mono (sp.calls x ai M vs hp l1 _ PT.leaf l2 la _ I J hla rfl (λ_=>ah) (λ_=>False) W us ⟨(λi j b b' k h1=>by rw[hn] at h1;cases h1),(λi b h1=>by rw[hn] at h1;cases h1),(λk h=>h.elim),(λg cells h=>by rw[htot];exact hg g cells h)⟩ (by rw[htot];exact hrel) (λn k h=>by cases h)) ?_;rintro en w' ⟨v,φ',rfl,he,_,_,_,hv⟩;refine ⟨?_,⟨he.os,he.tape,he.output,he.size,λk hk=>he.blk k hk (own0 _ k)⟩⟩;have hv:cW φ' _ w' (.f (.raw (.bool ai))) v:=hv;cases hv with
 |f h=>cases h;rfl
theorem gKw:Tryz.prog.globalNamed "interleave/token.keywords" =af 0:=by kernel_rfl
theorem tKw:(Tryz.prog.globals[0]?).map (·.type)=af 273:=by kernel_rfl
theorem kw_of_laid {W:World} (h:laidMetH Tryz.prog [("interleave/token.keywords",Rows.laid_interleave_token_keywords)] W):∀ g cells,G g=af cells→nh (λ_=>False) W (.ptr cells 0) (.pointer (af ⟨g,0,ah⟩)):=by
 intro g cells U;unfold G at U;split at U
 .rename_i hg;have hg:=eq_of_beq hg;subst hg;cases U;rw[MakeChecks.laidMetH_plain _ _ _ (by kernel_rfl)] at h;obtain⟨ps,⟨g0,t0,cs0,f0,p0,q0,M,Z,Y,hd0,_,_⟩,_,_⟩:=h;obtain rfl:=jR (gKw.symm.trans M);obtain rfl:=jR (tKw.symm.trans Z);obtain⟨xs,m1,rfl,J,hlen,hn,hel⟩:=DataW.trod_array Tryz.underlying273 hd0;have c1:Tryz.prog.cellsOf 9=1:=by kernel_rfl
  have c22:Tryz.prog.cellsOf 273=22:=by kernel_rfl
  rw[c22] at hlen;simp only[aD,Rows.laid_interleave_token_keywords,DataW.agg.injEq] at J;have hxs:=J.1;have hcell:∀ j,j<22→∃ l,(xs.map (·.1))[j]? =af (.lit (.string l))∧W.cell? ⟨0,j,ah⟩=af (.string ⟨l.toArray⟩):=λj hj=>by
   have h1:=hel j hj;rw[c1,Nat.mul_one] at h1;rw[aB (by omega)] at h1;obtain⟨s,e1,e2,_⟩:=DataW.trod_string Tryz.underlying9 h1;refine ⟨s.data.toList,?_,?_⟩
   .rw[bc,aB (by omega),cg,e2]
   .have:=World.var?_cell M Y j;rw[this];have h2:cs0.toList[j]? =af (.string s):=by
     have:((cs0.toList.drop j).take 1)[0]? =af (.string s):=by rw[e1];rfl
     rw[cX,aF (by omega),gW] at this;simpa using this
    rw[← cK,h2]
  have hb:0<W.heap.size:=by
   obtain⟨l,_,h2⟩:=hcell 0 (by omega);exact World.block_lt_of_cell? W _ h2
  refine .ptr CP 0 0 0 (λj=>(W.cell? ⟨0,j,ah⟩).getD undef) (λh=>h) hb (λx I=>?_) (λj hj=>?_) (λj x I=>?_)
  .simp only[CP,bm,ct,f_] at I;rcases I with rfl|rfl|rfl|rfl|rfl|rfl|rfl|rfl|rfl|rfl|rfl|rfl|rfl|rfl|rfl|rfl|rfl|rfl|rfl|rfl|rfl|rfl<;>rfl
  .obtain⟨l,_,h2⟩:=hcell j hj;rw[bN,h2];rfl
  .have hj:j<22:=(bl.1 I).1;obtain⟨l,h1,h2⟩:=hcell j hj;rw[← hxs] at h1;have:x= .raw (.string ⟨l.toArray⟩):=by
    rcases j with _|_|_|_|_|_|_|_|_|_|_|_|_|_|_|_|_|_|_|_|_|_|j;all_goals first|(simp only[qQ,List.getElem?_cons_succ,ak,DataW.lit.injEq,Lit.string.injEq,CP] at h1 I;subst h1;subst I;rfl)|omega
   rw[this,h2];exact .raw _
 .cases U
end
end Go.Proofs.YtkagidinekdnoaaGreatDoor.AI
