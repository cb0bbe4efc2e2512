/-
  Texts of the proof, part 6 of 6: what is used to prove the statement. No condition.
-/
import Derived.Test.YtkagidinekdnoaaGreatDoorHBAgreesQ4
import Derived.Test.YtkagidinekdnoaaGreatDoorRows
import Derived.LaidMore
namespace Go.Proofs.YtkagidinekdnoaaGreatDoor.AI
open Go.RowKit
set_option maxRecDepth 100000
set_option maxHeartbeats 4000000
set_option linter.unusedVariables false
set_option linter.unusedSimpArgs false
open _root_.Array renaming getElem?_toList→ch
open _root_.Bool renaming true→ajp,false→ajq
open _root_.List renaming getElem?_eq_getElem→ar,getElem?_map→aU,getElem?_eq_some_iff→a8,mem_cons→bc,not_mem_nil→bY,getElem?_take→cr,getElem?_drop→fZ,getElem?_cons_zero→pF
open _root_.Nat renaming beq→av,zero_add→bz
open _root_.Option renaming some→ajn,none→ajo,map_some→bO
open _root_.Option.some renaming injEq→aa,inj→jd
open _root_.Prod.mk renaming injEq→aw
noncomputable section
abbrev af9:List PV:=[.row 1,.row 2,.row 3,.row 4,.row 5,.row 6,.d (.sl aH),.row 7,.row 8]
abbrev Ld0:List PB:=[.cells 51 af9,.rows 49 ajq (.sl aH),.rows 49 ajq (.sl aH),.rows 49 ajq (.sl aH),.rows 49 ajq (.sl aH),.rows 49 ajq (.sl aH),.rows 49 ajq (.sl aH),.rows 49 ajq (.sl aH),.rows 3 ajp aH,.rows 3 ajq aH]
abbrev Ld4:List PV:=[.d aH,.d aH,.d aH,.d aH,.d aH,.d (.sl aH),.d (.sl aH)]
abbrev Ld3:List PV:=[.d (.sl jI),.d (.sl pI),.d (.sl kC),.d (.sl .str),.d (.sl .str),.d (.sl ne)]
abbrev Ld1:List PB:=[.cells 54 Ld4,.cells 51 [.row 3,.row 4,.row 5,.row 6,.row 7,.row 8,.d (.sl aH),.row 9,.row 10],.cells 31 Ld3,.rows 49 ajq (.sl aH),.rows 49 ajq (.sl aH),.rows 49 ajq (.sl aH),.rows 49 ajq (.sl aH),.rows 49 ajq (.sl aH),.rows 49 ajq (.sl aH),.rows 49 ajq (.sl aH),.rows 3 ajp aH]
abbrev Ld2:List PB:=[.cells 51 af9,.rows 49 ajq (.sl aH),.rows 49 ajq (.sl aH),.rows 49 ajq (.sl aH),.rows 49 ajq (.sl aH),.rows 49 ajq (.sl aH),.rows 49 ajq (.sl aH),.rows 49 ajq (.sl aH),.rows 3 ajp aH,.rows 3 ajq aH,.cells 54 Ld4]
abbrev Ld5:List PB:=[.rows 175 ajq dt,.rows 4 ajp .bool,.rows 177 ajp gm,.cells 107 FF]
abbrev Ld6:List PB:=[.rows 175 ajq dt,.rows 4 ajp .bool,.rows 177 ajp gm]
abbrev Vc:List PB:=[.rows 3 ajp aH]
abbrev Ld8:List PB:=[.cells 110 [.d gW],.cells 54 [.d ip],.cells 221 [.d Kd1]]
abbrev Ld9:List PB:=[.rows 3 ajp aH,.cells 3 [.d aH]]
abbrev aic:List PB:=[.cells 31 [.d mT],.cells 107 [.row 4,.d aH,.row 5,.row 6],.cells 3 [.d aH],.cells 107 AE,.rows 175 ajq dt,.rows 4 ajp .bool,.rows 177 ajp gm]
abbrev Np:List PB:=[.rows 3 ajq aH]
abbrev aib:List PB:=[.cells 107 AE,.cells 107 [.row 2,.d aH,.row 3,.row 4],.rows 175 ajq dt,.rows 4 ajq .bool,.rows 177 ajq gm]
abbrev abt:List PB:=[.cells 34 [.d nE],.rows 59 ajp gV]
abbrev QL:List PV:=[.row 0,.d aH]
abbrev Zq:List PB:=[.rows 49 ajq (.sl aH)]
abbrev af8:List PB:=[.rows 49 ajq (.sl aH),.rows 3 ajq aH]
abbrev WU:List PB:=[.cells 54 [.d ip]]
abbrev af7:List PV:=[.d (.sl aH),.d (.sl aH)]
abbrev af6:List PV:=[.ptr 0 0,.ptr 1 0,.ptr 2 0]
def Lt:FT:=⟨⟨Jb,[]⟩,⟨[.d aH],[]⟩,dh [(3,(.j ⟨[0,1],[12],⟨[.d .bool],[]⟩,[]⟩))]⟩
def Wt:bW:=cn Lt ia
def EZ:FT:=⟨⟨af7,[]⟩,⟨pN,[]⟩,dh [(8,(.j ⟨[0,1,14],[5,15],⟨QL,Np⟩,[]⟩))]⟩
def Qs:bW:=cn EZ kl
def UL:FT:=⟨⟨Jb,[]⟩,⟨[.d aH],[]⟩,dh [(3,(.j ⟨[0,1],[12],⟨[.d .bool],[]⟩,[]⟩))]⟩
def aay:bW:=cn UL Bm
def US:FT:=⟨⟨pN,[]⟩,⟨pN,[]⟩,.leaf⟩
def Cr:bW:=cn US Md
def aeh:bW:=⟨Cr.pre,Cr.post,Aj⟩
def Ir:FT:=⟨⟨[.d uu],[]⟩,⟨[.row 0],Zq⟩,dh [(8,(.j ⟨[9,10],[3,11],⟨QL,Zq⟩,[]⟩))]⟩
def Tk:bW:=cn Ir gz
def Py:FT:=⟨⟨pN,[]⟩,⟨[.row 0],Vc⟩,dh [(8,(.a [.nil 2 3 aH])),(12,(.a [.nil 2 3 aH]))]⟩
def xY:bW:=cn Py G1
def abb:bW:=⟨xY.pre,xY.post,nO⟩
def Is:FT:=⟨⟨[.d Kd0],[]⟩,⟨[.agg [.row 0,.row 1,.row 2,.row 3,.row 4,.row 5,.d (.sl aH),.row 6,.row 7]],[.rows 49 ajq (.sl aH),.rows 49 ajq (.sl aH),.rows 49 ajq (.sl aH),.rows 49 ajq (.sl aH),.rows 49 ajq (.sl aH),.rows 49 ajq (.sl aH),.rows 49 ajq (.sl aH),.rows 3 ajp aH]⟩,.leaf⟩
def Tl:bW:=cn Is sG
def Lp:FT:=⟨⟨QL,Zq⟩,⟨pN,Zq⟩,dh [(3,(.j ⟨[1],[0,12],⟨[.row 0,.d .bool],Zq⟩,[]⟩))]⟩
def Wn:bW:=cn Lp rX
def Iu:FT:=⟨⟨af6,Ld1⟩,⟨[.d uu],Ld1⟩,dh [(18,(.j ⟨[6],[0,1,2,25],⟨Cz,Ld1⟩,[]⟩))]⟩
def To:bW:=cn Iu sH
def Lr:FT:=⟨⟨[.d mT],[]⟩,⟨[.d Kd0],[]⟩,dh [(8,(.j ⟨[40],[2,3,41],⟨tf,[.cells 51 [.nil,.nil,.nil,.nil,.nil,.nil,.nil,.nil,.nil],.cells 51 [.row 2,.row 3,.row 4,.row 5,.row 6,.row 7,.nil,.row 8,.row 9],.rows 49 ajq (.sl aH),.rows 49 ajq (.sl aH),.rows 49 ajq (.sl aH),.rows 49 ajq (.sl aH),.rows 49 ajq (.sl aH),.rows 49 ajq (.sl aH),.rows 49 ajq (.sl aH),.rows 3 ajq aH]⟩,[]⟩))]⟩
def Wp:bW:=cn Lr mF
def EY:FT:=⟨⟨Jb,[]⟩,⟨[.row 0],Np⟩,dh [(4,(.j ⟨[0,1,5],[6],⟨[.d .bool],[]⟩,[]⟩)),(6,(.j ⟨[0,1,6],[5],⟨[.d aH],[]⟩,[]⟩)),(16,(.j ⟨[],[7],⟨[.row 0],Np⟩,[]⟩)),(17,(.j ⟨[1],[7,33],⟨[.row 0,.d .bool],Np⟩,[]⟩))]⟩
def Qr:bW:=cn EY qN
def vi:FT:=⟨⟨[.row 0],Np⟩,⟨pN,Np⟩,.leaf⟩
def Y0:bW:=cn vi uN
def aba:bW:=⟨vi.pre,⟨vi.post.vs,[]⟩,tH⟩
def yF:FT:=⟨⟨[.d (.sl aH),.row 0],Np⟩,⟨pN,Np⟩,dh [(8,(.j ⟨[0,14],[1,5,15],⟨[.row 0,.row 1,.d aH],[.rows 3 ajq aH,.rows 3 ajq aH]⟩,[]⟩))]⟩
def ab8:bW:=cn yF rL
def aeg:bW:=⟨yF.pre,⟨yF.post.vs,[]⟩,Ai⟩
def Ip:FT:=⟨⟨[.row 0,.d aH,.row 1],af8⟩,⟨[],af8⟩,dh [(0,(.j ⟨[1],[0,2,13],⟨[.row 0,.row 1,.d .bool],af8⟩,[]⟩))]⟩
def Ti:bW:=cn Ip ku
def Ps:FT:=⟨⟨[.ptr 0 0,.d aH,.row 9],Ld0⟩,⟨[],Ld0⟩,.leaf⟩
def YV:bW:=cn Ps uK
def Lq:FT:=⟨⟨[.d mT,.ptr 0 0,.d ip,.row 9],Ld0⟩,⟨[],Ld0⟩,dh [(6,(.j ⟨[],[],⟨[],Ld0⟩,[]⟩)),(11,(.j ⟨[20],[1,3,4,6,32],⟨[.ptr 0 0,.row 9,.ptr 10 0,.ptr 11 0,.d .bool],[.cells 51 af9,.rows 49 ajq (.sl aH),.rows 49 ajq (.sl aH),.rows 49 ajq (.sl aH),.rows 49 ajq (.sl aH),.rows 49 ajq (.sl aH),.rows 49 ajq (.sl aH),.rows 49 ajq (.sl aH),.rows 3 ajp aH,.rows 3 ajq aH,.cells 31 Ld3,.cells 54 Ld4]⟩,[]⟩)),(48,(.j ⟨[],[1,3,6,129],⟨[.ptr 0 0,.row 9,.ptr 10 0,.d .bool],Ld2⟩,[]⟩)),(59,(.j ⟨[141],[1,3,6,140,142],⟨[.ptr 0 0,.row 9,.ptr 10 0,.row 8,.d aH],Ld2⟩,[]⟩)),(67,(.j ⟨[141,142],[1,3,6,140],⟨[.ptr 0 0,.row 9,.ptr 10 0,.row 8],Ld2⟩,[]⟩))]⟩
def Wo:bW:=cn Lq qc
def Pt:FT:=⟨⟨[.d mT,.d Kd0,.d ip],[]⟩,⟨[.d Kd0,.row 0],Np⟩,dh [(14,(.j ⟨[22,23],[3,5,6,7,24],⟨[.ptr 0 0,.ptr 1 0,.ptr 2 0,.ptr 3 0,.d aH],[.cells 31 Ld3,.cells 54 Ld4,.cells 51 [.row 4,.row 5,.row 6,.row 7,.row 8,.row 9,.d (.sl aH),.row 10,.row 11],.cells 49 pN,.rows 49 ajq (.sl aH),.rows 49 ajq (.sl aH),.rows 49 ajq (.sl aH),.rows 49 ajq (.sl aH),.rows 49 ajq (.sl aH),.rows 49 ajq (.sl aH),.rows 49 ajq (.sl aH),.rows 3 ajp aH]⟩,[]⟩))]⟩
def YW:bW:=cn Pt pf
def Po:FT:=⟨⟨af7,[]⟩,⟨[.d .bool],[]⟩,dh [(6,(.j ⟨[0,1],[5],⟨[.d aH],[]⟩,[]⟩))]⟩
def YL:bW:=cn Po qI
def Lb:FT:=⟨⟨af7,[]⟩,⟨[.d .bool],[]⟩,dh [(2,(.j ⟨[],[4],⟨[.d .bool],[]⟩,[]⟩))]⟩
def V6:bW:=cn Lb pR
def u0:FT:=⟨⟨[.d .str],[]⟩,⟨[.d .bool],[]⟩,dh [(6,(.j ⟨[0,5],[6],⟨[.d aH],[]⟩,[]⟩))]⟩
def Dw:bW:=cn u0 jW
def zg:FT:=⟨⟨[.d .str],[]⟩,⟨[.d .bool],[]⟩,dh [(3,(.j ⟨[0],[16],⟨[.d .bool],[]⟩,[]⟩)),(14,(.j ⟨[],[18],⟨[.ptr 0 0],[.mp kC .un]⟩,[]⟩)),(24,(.j ⟨[],[18],⟨[.ptr 0 0],[.mp kC .un]⟩,[]⟩)),(25,(.j ⟨[3,4],[18,23],⟨gf,[.mp kC .un]⟩,[]⟩)),(29,(.j ⟨[],[18,38],⟨gf,[.mp kC .un]⟩,[]⟩))]⟩
def J5:bW:=cn zg nu
def Iw:FT:=⟨⟨Jb,[]⟩,⟨[.d aH],[]⟩,dh [(6,(.j ⟨[0,1,7],[8],⟨[.d aH],[]⟩,[]⟩))]⟩
def Tt:bW:=cn Iw qd
def zF:FT:=⟨⟨Jb,[]⟩,⟨[.d .bool],[]⟩,.leaf⟩
def Ko:bW:=cn zF jE
def zE:FT:=⟨⟨[.d (.sl aH),.d gV],[]⟩,⟨[.d .bool],[]⟩,.leaf⟩
def Kn:bW:=cn zE uh
def It:FT:=⟨⟨[.d ip],[]⟩,⟨[.d .bool],[]⟩,dh [(2,(.j ⟨[],[2],⟨[.d .bool],[]⟩,[]⟩))]⟩
def Tn:bW:=cn It vQ
def Cf:FT:=⟨⟨[.d nE,.d aH,.d aH],[]⟩,⟨[.d .bool],[]⟩,dh [(5,(.j ⟨[],[3,7,8,30],⟨Cz,[.cells 34 [.d nE],.cells 54 [.d ip],.cells 54 [.d ip]]⟩,[]⟩)),(13,(.j ⟨[],[7,8,48],⟨qo,[.cells 54 [.d ip],.cells 54 [.d ip]]⟩,[]⟩)),(20,(.j ⟨[],[6],⟨[.d .bool],[]⟩,[]⟩))]⟩
def Na:bW:=cn Cf vP
def Iq:FT:=⟨⟨[.d (.sl ip)],[]⟩,⟨[.d (.sl gV)],[]⟩,dh [(10,(.j ⟨[11,12],[3,4,13],⟨[.mp 0,.row 1,.d aH],[.mp aH aH,.rows 66 ajq gV]⟩,[.mpt 3 aH aH]⟩))]⟩
def Tj:bW:=cn Iq sF
def wU:FT:=⟨⟨ur,[]⟩,⟨[.d .bool],[]⟩,dh [(2,(.j ⟨[],[4],⟨[.d .bool],[]⟩,[]⟩))]⟩
def FA:bW:=cn wU qZ
def wV:FT:=⟨⟨[.d mT,.d aH,.d .bool],[]⟩,⟨[.d .bool],[]⟩,dh [(2,(.j ⟨[],[6],⟨[.d .bool],[]⟩,[]⟩))]⟩
def FB:bW:=cn wV rc
def rD:FT:=⟨⟨[.d (.sl jI)],[]⟩,⟨[.d (.sl .str),.d .bool],[]⟩,dh [(8,(.j ⟨[0],[4,5],⟨QL,[.rows 9 ajp .str]⟩,[.nil 4 9 .str]⟩)),(15,(.j ⟨[0],[4,5],⟨QL,[.rows 9 ajp .str]⟩,[]⟩)),(37,(.j ⟨[0,5],[4,6,49],⟨[.row 0,.ptr 1 0,.d .bool],[.rows 9 ajp .str,.cells 134 [.d jI]]⟩,[]⟩)),(48,(.j ⟨[0,5,51],[4,6,52],⟨[.row 0,.ptr 1 0,.d aH],[.rows 9 ajp .str,.cells 134 [.d jI]]⟩,[]⟩))]⟩
def yX:bW:=cn rD gd
def rC:FT:=⟨⟨[.d mT,.d (.sl .str)],[]⟩,⟨[.d .bool],[]⟩,dh [(10,(.j ⟨[17,18],[2,5,19],⟨Nq,WZ⟩,[]⟩)),(27,(.j ⟨[30,31],[2,5,32],⟨Nq,WZ⟩,[]⟩)),(50,(.j ⟨[52],[10,51,53],⟨[.mp 0,.row 1,.d aH],[.mp .str .bool,.rows 9 ajp .str]⟩,[.mpt 10 .str .bool]⟩)),(62,(.j ⟨[12,52,53],[10,51,64],⟨[.mp 0,.row 1,.d .bool],[.mp .str .bool,.rows 9 ajp .str]⟩,[.mpt 10 .str .bool]⟩))]⟩
def yW:bW:=cn rC c8
def rB:FT:=⟨⟨[.d mT],[]⟩,⟨[.d .bool],[]⟩,dh [(8,(.j ⟨[8,9],[1,3,4,10],⟨[.ptr 0 0,.d aH,.d aH,.d aH],oL⟩,[]⟩)),(20,(.j ⟨[3,4,8,9,10],[1,6,25],⟨qo,[.cells 31 [.d mT],.cells 141 [.d ne]]⟩,[]⟩)),(27,(.j ⟨[8,9,10],[1,3,4,6],⟨[.ptr 0 0,.d aH,.d aH,.ptr 1 0],[.cells 31 [.d mT],.cells 141 [.d ne]]⟩,[]⟩))]⟩
def yV:bW:=cn rB eR
def rE:FT:=⟨⟨[.d mT],[]⟩,⟨[.d .bool],[]⟩,dh [(3,(.j ⟨[],[1,34],⟨gf,oL⟩,[]⟩)),(11,(.j ⟨[],[1,44],⟨gf,oL⟩,[]⟩)),(21,(.j ⟨[],[1,58],⟨gf,oL⟩,[]⟩)),(32,(.j ⟨[60,61],[1,62],⟨vq,oL⟩,[]⟩))]⟩
def yY:bW:=cn rE c9
def zA:FT:=⟨⟨[.d mT],[]⟩,⟨[.d FG],[]⟩,dh [(8,(.j ⟨[20],[2,3,21],⟨tf,aib⟩,[]⟩)),(21,(.j ⟨[],[2,3],⟨[.ptr 0 0,.ptr 1 0],aib⟩,[]⟩))]⟩
def Ki:bW:=cn zA nz
def tS:FT:=⟨⟨[.d mT],[]⟩,⟨[.d gW],[]⟩,dh [(8,(.j ⟨[22,23],[2,3,24],⟨tf,[.cells 110 ut,.cells 110 [.d (.sl dt),.d aH,.d oM,.d (.sl gm),.row 2,.row 3,.row 4],.rows 2 ajq aH,.rows 2 ajq aH,.rows 3 ajq aH]⟩,[]⟩))]⟩
def Cj:bW:=cn tS cJ
def qS:FT:=⟨⟨[.d oM,.d ip],[]⟩,⟨[.d .bool],[]⟩,dh [(6,(.j ⟨[0,13],[14],⟨[.d aH],[]⟩,[]⟩)),(20,(.j ⟨[0,13,14,17,18],[19],⟨[.d aH],[]⟩,[]⟩)),(31,(.j ⟨[0,13,14,17,18,19],[37],⟨[.d .bool],[]⟩,[]⟩))]⟩
def xU:bW:=cn qS bQ
def xN:FT:=⟨⟨ur,[]⟩,⟨[.d .bool],[]⟩,dh [(2,(.j ⟨[],[4],⟨[.d .bool],[]⟩,[]⟩))]⟩
def IF:bW:=cn xN dV
def wP:FT:=⟨⟨[.d mT,.d aH,.d aH],[]⟩,⟨[.d .bool],[]⟩,dh [(6,(.j ⟨[2,7],[3,8],⟨gf,oL⟩,[]⟩)),(36,(.j ⟨[2,7],[3,18],⟨gf,oL⟩,[]⟩)),(46,(.j ⟨[2,7],[3,26],⟨gf,oL⟩,[]⟩)),(53,(.j ⟨[],[6],⟨[.d .bool],[]⟩,[]⟩)),(56,(.j ⟨[2,7],[3,43],⟨gf,oL⟩,[]⟩)),(71,(.j ⟨[],[6],⟨[.d .bool],[]⟩,[]⟩)),(74,(.j ⟨[2,7],[3,61],⟨gf,oL⟩,[]⟩)),(92,(.j ⟨[2,7],[3,71],⟨gf,oL⟩,[]⟩)),(102,(.j ⟨[2],[3,79],⟨gf,oL⟩,[]⟩))]⟩
def Fv:bW:=cn wP kL
def Ca:FT:=⟨⟨[.d mT,.d FG],[]⟩,⟨[.d .bool],[]⟩,dh [(3,(.j ⟨[],[2,31],⟨gf,oL⟩,[]⟩)),(14,(.j ⟨[33,34],[2,35],⟨vq,oL⟩,[]⟩))]⟩
def M3:bW:=cn Ca ju
def zu:FT:=⟨⟨[.d mT,.d FG,.d aH,.d aH,.d aH],[]⟩,⟨[.d .bool],[]⟩,dh [(15,(.j ⟨[],[10],⟨[.d .bool],[]⟩,[]⟩)),(21,(.j ⟨[],[10],⟨[.d .bool],[]⟩,[]⟩)),(24,(.j ⟨[2,4,11],[5,6,60],⟨qo,TW⟩,[]⟩)),(64,(.j ⟨[2,4,11],[5,6,109],⟨qo,TW⟩,[]⟩)),(81,(.j ⟨[],[10],⟨[.d .bool],[]⟩,[]⟩)),(87,(.j ⟨[],[10],⟨[.d .bool],[]⟩,[]⟩))]⟩
def Kg:bW:=cn zu ny
def wQ:FT:=⟨⟨[.d mT,.d FG,.d aH,.d aH,.d aH],[]⟩,⟨[.d .bool],[]⟩,dh [(3,(.j ⟨[2,3,4],[5,6,30],⟨qo,TW⟩,[]⟩)),(25,(.j ⟨[],[10],⟨[.d .bool],[]⟩,[]⟩)),(29,(.j ⟨[],[10],⟨[.d .bool],[]⟩,[]⟩))]⟩
def Fw:bW:=cn wQ ii
def uY:FT:=⟨⟨[.d mT,.d gW],[]⟩,⟨[.d .bool],[]⟩,dh [(2,(.j ⟨[],[4],⟨[.d .bool],[]⟩,[]⟩))]⟩
def Du:bW:=cn uY jV
def sV:FT:=⟨⟨[.d mT,.d ip],[]⟩,⟨[.d .bool],[]⟩,dh [(3,(.j ⟨[],[2,3,12],⟨qo,[.cells 31 [.d mT],.cells 54 [.d ip]]⟩,[]⟩)),(10,(.j ⟨[],[4],⟨[.d .bool],[]⟩,[]⟩))]⟩
def Av:bW:=cn sV iI
def pq:FT:=⟨⟨[.d mT,.d gW,.d ip],[]⟩,⟨[.d .bool],[]⟩,dh [(2,(.j ⟨[],[4,5,7],⟨qo,[.cells 110 [.d gW],.cells 54 [.d ip]]⟩,[]⟩)),(4,(.j ⟨[],[4,5,8],⟨af6,Ld8⟩,[]⟩)),(10,(.j ⟨[51],[4,5,8,52],⟨DO,Ld8⟩,[]⟩)),(22,(.j ⟨[10,51,52],[4,5,8,64],⟨Cz,Ld8⟩,[]⟩)),(34,(.j ⟨[51,52,65,66],[4,5,8,11,67],⟨[.ptr 0 0,.ptr 1 0,.ptr 2 0,.d aH,.d aH],Ld8⟩,[]⟩)),(46,(.j ⟨[13,51,52,65,66,67],[4,5,8,83],⟨Cz,Ld8⟩,[]⟩))]⟩
def wv:bW:=cn pq dS
def sU:FT:=⟨⟨[.d gW,.d ip],[]⟩,⟨[.d .bool],[]⟩,dh [(21,(.j ⟨[],[4],⟨[.d .bool],[]⟩,[]⟩)),(24,(.j ⟨[13],[2,3,46],⟨qo,[.cells 110 [.d gW],.cells 54 [.d ip]]⟩,[]⟩)),(43,(.j ⟨[53,54],[3,5,6,55],⟨[.ptr 0 0,.d aH,.d .bool,.d aH],WU⟩,[]⟩)),(51,(.j ⟨[53,54,55],[3,5,6],⟨[.ptr 0 0,.d aH,.d .bool],WU⟩,[]⟩)),(54,(.j ⟨[5,6,7,53,54,55],[3,69],⟨gf,WU⟩,[]⟩)),(62,(.j ⟨[],[4],⟨[.d .bool],[]⟩,[]⟩)),(74,(.j ⟨[94,95],[3,9,96],⟨QP,WU⟩,[]⟩)),(82,(.j ⟨[94,95,96],[3,9],⟨vq,WU⟩,[]⟩)),(85,(.j ⟨[9,94,95,96],[3,109],⟨gf,WU⟩,[]⟩))]⟩
def Au:bW:=cn sU fo
def zq:FT:=⟨⟨[.d gm,.d aH],[]⟩,⟨[.d .bool],[]⟩,dh [(2,(.j ⟨[],[4],⟨[.d .bool],[]⟩,[]⟩))]⟩
def Kf:bW:=cn zq k9
def Pz:FT:=⟨⟨[.d oM],[]⟩,⟨[.d oM],[]⟩,.leaf⟩
def xZ:bW:=cn Pz G3
def abc:bW:=⟨xZ.pre,xZ.post,Mc⟩
def Lx:FT:=⟨⟨[.d oM],[]⟩,⟨[.row 0],[.rows 4 ajp .bool]⟩,dh [(8,(.a [.nil 2 4 .bool])),(12,(.a [.nil 2 4 .bool]))]⟩
def vo:bW:=cn Lx C3
def Y2:bW:=⟨vo.pre,vo.post,G2⟩
def Px:FT:=⟨⟨[.d (.sl gm)],[]⟩,⟨[.d (.sl gm)],[]⟩,.leaf⟩
def xX:bW:=cn Px G0
def ab9:bW:=⟨xX.pre,xX.post,Mb⟩
def Lv:FT:=⟨⟨[.d (.sl gm)],[]⟩,⟨[.row 0],[.rows 177 ajp gm]⟩,dh [(8,(.a [.nil 2 177 gm])),(12,(.a [.nil 2 177 gm]))]⟩
def vm:bW:=cn Lv C1
def YZ:bW:=⟨vm.pre,vm.post,GZ⟩
def Lw:FT:=⟨⟨pN,[]⟩,⟨[.row 0],[.rows 2 ajp aH]⟩,dh [(8,(.a [.nil 2 2 aH])),(12,(.a [.nil 2 2 aH]))]⟩
def vn:bW:=cn Lw C2
def Y1:bW:=⟨vn.pre,vn.post,xu⟩
def zw:FT:=⟨⟨[.d FG],[]⟩,⟨[.agg FF],Ld6⟩,dh [(8,(.j ⟨[11,12],[1,2,3,13],⟨[.ptr 0 0,.ptr 1 0,.row 2,.d aH],[.cells 107 [.d FG],.cells 107 AE,.rows 175 ajq dt]⟩,[]⟩))]⟩
def Kh:bW:=cn zw jD
def xO:FT:=⟨⟨[.agg FF,.d aH,.d aH],Ld6⟩,⟨[.d aH],Ld6⟩,dh [(8,(.j ⟨[1,2,12],[3,7,11,13],⟨[.ptr 3 0,.d aH,.row 2,.d aH],Ld5⟩,[]⟩)),(16,(.j ⟨[1,2,12,13],[3,7,11],⟨[.ptr 3 0,.d aH,.row 2],Ld5⟩,[]⟩)),(19,(.j ⟨[1,2,7,8,12,13],[3,11,29],⟨[.ptr 3 0,.row 2,.d .bool],Ld5⟩,[]⟩)),(25,(.j ⟨[7],[],⟨[],Ld6⟩,[]⟩))]⟩
def IG:bW:=cn xO iN
def tU:FT:=⟨⟨[.agg FF,.d aH],Ld6⟩,⟨[.d aH],Ld6⟩,dh [(8,(.j ⟨[1,10],[2,5,9,11],⟨[.ptr 3 0,.d aH,.row 2,.d aH],Ld5⟩,[]⟩)),(16,(.j ⟨[1,10,11],[2,5,9],⟨[.ptr 3 0,.d aH,.row 2],Ld5⟩,[]⟩))]⟩
def Cm:bW:=cn tU fU
def xS:FT:=⟨⟨[.d aH],[]⟩,⟨[.d .bool],[]⟩,.leaf⟩
def IR:bW:=cn xS pg
def zD:FT:=⟨⟨ur,[]⟩,⟨[.d .bool],[]⟩,dh [(2,(.j ⟨[],[4],⟨[.d .bool],[]⟩,[]⟩))]⟩
def Km:bW:=cn zD ug
def vh:FT:=⟨⟨[.d (.int .u64)],[]⟩,⟨[.d aH],[]⟩,.leaf⟩
def DC:bW:=cn vh qa
def xR:FT:=⟨⟨[.d (.int .u64)],[]⟩,⟨[.d aH],[]⟩,.leaf⟩
def IK:bW:=cn xR sD
def mS:FT:=⟨⟨[.row 0,.d aH,.d aH],Vc⟩,⟨[],Vc⟩,dh [(3,(.j ⟨[1,2],[0,6],⟨QL,Vc⟩,[]⟩)),(15,(.j ⟨[1,2,6],[0,7],⟨QL,Vc⟩,[]⟩)),(17,(.j ⟨[1,2,6,7],[0,30],⟨[.row 0,.d .bool],Vc⟩,[]⟩))]⟩
def tb:bW:=cn mS eO
def rA:FT:=⟨⟨[.row 0,.d aH,.d aH,.d aH],Vc⟩,⟨[],Vc⟩,dh [(5,(.j ⟨[],[0,1,2,3,8,9],⟨[.row 0,.d aH,.d aH,.d aH,.d .bool,.d .bool],Vc⟩,[]⟩))]⟩
def yU:bW:=cn rA im
def Lu:FT:=⟨⟨[.row 0],Vc⟩,⟨[],Vc⟩,.leaf⟩
def Wu:bW:=cn Lu uM
def Ci:FT:=⟨⟨[.row 0],Vc⟩,⟨[.row 0],Vc⟩,dh [(14,(.j ⟨[],[0,3],⟨QL,Vc⟩,[]⟩))]⟩
def Ne:bW:=cn Ci kw
def wR:FT:=⟨⟨[.d aH,.ptr 0 0],[.cells 3 [.d aH]]⟩,⟨[.d .bool],[.cells 3 [.d aH]]⟩,.leaf⟩
def Fx:bW:=cn wR nN
def xT:FT:=⟨⟨[.row 0,.clo 140 1 0],Ld9⟩,⟨[.d aH],Ld9⟩,dh [(6,(.j ⟨[7],[0,1,8],⟨[.row 0,.clo 140 1 0,.d aH],Ld9⟩,[]⟩))]⟩
def IU:bW:=cn xT mc
def wW:FT:=⟨⟨[.row 0,.clo 140 1 0],Ld9⟩,⟨[.row 2],[.gone,.cells 3 [.d aH],.rows 3 ajq aH]⟩,dh [(16,(.j ⟨[],[0,1,5,6],⟨[.row 0,.clo 140 1 0,.d aH,.d aH],Ld9⟩,[]⟩)),(24,(.j ⟨[6],[0,1,5],⟨[.row 0,.clo 140 1 0,.d aH],Ld9⟩,[]⟩))]⟩
def FC:bW:=cn wW ij
def mh:FT:=⟨⟨[.d mT,.d FG,.d aH,.d aH,.d aH,.d aH],[]⟩,⟨[.d FG,.d aH,.d .bool],[]⟩,dh [(17,(.j ⟨[],[7,12,15],⟨tf,[.cells 107 [.row 2,.d aH,.row 3,.row 4],.cells 107 AE,.rows 175 ajq dt,.rows 4 ajp .bool,.rows 177 ajp gm]⟩,[]⟩)),(26,(.j ⟨[4,5,15,27],[6,7,8,12,42],⟨ye,aic⟩,[]⟩)),(34,(.j ⟨[4,5,15,27],[6,7,8,12,51],⟨ye,aic⟩,[]⟩))]⟩
def IJ:bW:=cn mh fV
def xP:FT:=⟨⟨[.d FG],[]⟩,⟨[.agg [.csl 0 2 3,.d aH,.d oM,.d (.sl gm)]],[.cells 175 [.d aH,.row 1,.d aH,.row 2,.d aH,.row 3],.rows 3 ajp aH,.rows 3 ajp aH,.rows 3 ajp aH]⟩,dh [(7,(.j ⟨[],[1,2,3],⟨[.ptr 0 0,.ptr 1 0,.csl 2 2 3],[.cells 107 [.d FG],.cells 107 AE,.cells 175 [.d aH,.row 3,.d aH,.row 4,.d aH,.row 5],.rows 3 ajp aH,.rows 3 ajp aH,.rows 3 ajp aH]⟩,[.cel 3 1 3 aH,.cel 3 3 3 aH,.cel 3 5 3 aH]⟩)),(8,(.u 4))]⟩
def IH:bW:=cn xP ma
def xQ:FT:=⟨⟨[.d mT,.d FG,.d aH,.d aH,.d aH,.d aH],[]⟩,⟨[.d FG,.d aH,.d .bool],[]⟩,dh [(17,(.j ⟨[],[7,12,15],⟨tf,[.cells 107 [.csl 2 2 3,.d aH,.d oM,.d (.sl gm)],.cells 107 AE,.cells 175 [.d dt,.d dt,.d aH,.row 3],.rowsP 3 aH]⟩,[]⟩)),(26,(.j ⟨[4,5,15,27],[6,7,8,12,42],⟨ye,[.cells 31 [.d mT],.cells 107 [.csl 4 2 3,.d aH,.d oM,.d (.sl gm)],.cells 3 [.d aH],.cells 107 AE,.cells 175 [.d aH,.row 5,.d aH,.row 6,.d aH,.row 7],.rows 3 ajp aH,.rows 3 ajp aH,.rows 3 ajp aH]⟩,[]⟩)),(33,(.s 4 0 0 0)),(34,(.j ⟨[4,5,15,27],[6,7,8,12,51],⟨ye,[.cells 31 [.d mT],.cells 107 [.csl 4 2 3,.d aH,.d oM,.d (.sl gm)],.cells 3 [.d aH],.cells 107 AE,.cells 175 [.d aH,.d (.sl aH),.d aH,.d (.sl aH),.d aH,.row 5],.rows 3 ajp aH]⟩,[]⟩)),(41,(.s 4 0 0 0)),(46,(.s 4 0 0 3)),(53,(.s 4 0 0 3)),(74,(.s 4 0 0 0)),(80,(.s 4 0 0 0)),(100,(.a [.pk 7 0 dt]))]⟩
def II:bW:=cn xQ jZ
def Kj:bW:=cn mh qw
def uZ:FT:=⟨⟨[.d mT,.d gW,.d ip],[]⟩,⟨[.d gW,.d .bool],[]⟩,dh [(3,(.j ⟨[],[3,4,5,6,39],⟨ye,Jf⟩,[]⟩)),(11,(.j ⟨[],[3,4,5,6,70],⟨ye,Jf⟩,[]⟩)),(20,(.j ⟨[],[3,4,5,6,8],⟨[.ptr 0 0,.ptr 1 0,.ptr 2 0,.ptr 3 0,.d aH],Jf⟩,[]⟩)),(41,(.j ⟨[],[5,6,12],⟨af6,afb⟩,[]⟩))]⟩
def Dv:bW:=cn uZ eK
def sY:FT:=⟨⟨[.d nE],[]⟩,⟨ur,[]⟩,dh [(26,(.j ⟨[27,28],[1,4,5,29],⟨[.ptr 0 0,.ptr 1 0,.csl 2 1 1,.d aH],[.cells 34 [.d nE],.cells 110 [.d gW],.cells 104 [.row 3],.rows 4 ajp .bool]⟩,[.cel 5 0 4 .bool]⟩)),(40,(.j ⟨[6,27,28,29],[1,4,5,7,8,53],⟨[.ptr 0 0,.ptr 1 0,.csl 2 1 1,.ptr 3 0,.ptr 4 0,.d .bool],[.cells 34 [.d nE],.cells 110 [.d gW],.cells 104 [.row 5],.cells 54 [.d ip],.cells 110 [.d gW],.rows 4 ajp .bool]⟩,[]⟩)),(41,(.s 7 0 0 1)),(47,(.j ⟨[27,28,29],[1,4,5,8],⟨[.ptr 0 0,.ptr 1 0,.csl 2 1 1,.ptr 3 0],[.cells 34 [.d nE],.cells 110 [.d gW],.cells 104 [.row 4],.cells 110 [.d gW],.rows 4 ajp .bool]⟩,[]⟩)),(48,(.s 7 0 0 1))]⟩
def Az:bW:=cn sY dy
def sX:FT:=⟨⟨[.d nE],[]⟩,⟨ur,[]⟩,dh [(26,(.j ⟨[27,28],[1,4,5,29],⟨[.ptr 0 0,.ptr 1 0,.csl 2 1 2,.d aH],[.cells 34 [.d nE],.cells 110 [.d gW],.cells 104 [.row 3,.row 4],.rows 4 ajp .bool,.rows 4 ajp .bool]⟩,[.cel 5 0 4 .bool,.cel 5 1 4 .bool]⟩)),(40,(.j ⟨[6,27,28,29],[1,4,5,7,8,53],⟨[.ptr 0 0,.ptr 1 0,.csl 2 1 2,.ptr 3 0,.ptr 4 0,.d .bool],[.cells 34 [.d nE],.cells 110 [.d gW],.cells 104 [.row 5,.row 6],.cells 54 [.d ip],.cells 110 [.d gW],.rows 4 ajp .bool,.rows 4 ajp .bool]⟩,[]⟩)),(41,(.s 7 0 0 2)),(47,(.j ⟨[27,28,29],[1,4,5,8],⟨[.ptr 0 0,.ptr 1 0,.csl 2 1 2,.ptr 3 0],[.cells 34 [.d nE],.cells 110 [.d gW],.cells 104 [.row 4,.row 5],.cells 110 [.d gW],.rows 4 ajp .bool,.rows 4 ajp .bool]⟩,[]⟩)),(48,(.s 7 0 0 2))]⟩
def Ay:bW:=cn sX cK
def sW:FT:=⟨⟨[.d nE],[]⟩,⟨ur,[]⟩,dh [(26,(.j ⟨[27,28],[1,4,5,29],⟨[.ptr 0 0,.ptr 1 0,.csl 2 1 3,.d aH],[.cells 34 [.d nE],.cells 110 [.d gW],.cells 104 [.row 3,.row 4,.row 5],.rows 4 ajp .bool,.rows 4 ajp .bool,.rows 4 ajp .bool]⟩,[.cel 5 0 4 .bool,.cel 5 1 4 .bool,.cel 5 2 4 .bool]⟩)),(40,(.j ⟨[6,27,28,29],[1,4,5,7,8,53],⟨[.ptr 0 0,.ptr 1 0,.csl 2 1 3,.ptr 3 0,.ptr 4 0,.d .bool],[.cells 34 [.d nE],.cells 110 [.d gW],.cells 104 [.row 5,.row 6,.row 7],.cells 54 [.d ip],.cells 110 [.d gW],.rows 4 ajp .bool,.rows 4 ajp .bool,.rows 4 ajp .bool]⟩,[]⟩)),(41,(.s 7 0 0 3)),(47,(.j ⟨[27,28,29],[1,4,5,8],⟨[.ptr 0 0,.ptr 1 0,.csl 2 1 3,.ptr 3 0],[.cells 34 [.d nE],.cells 110 [.d gW],.cells 104 [.row 4,.row 5,.row 6],.cells 110 [.d gW],.rows 4 ajp .bool,.rows 4 ajp .bool,.rows 4 ajp .bool]⟩,[]⟩)),(48,(.s 7 0 0 3))]⟩
def Ax:bW:=cn sW c6
def dT:FT:=⟨⟨[.d nE],[]⟩,⟨ur,[]⟩,dh [(26,(.j ⟨[27,28],[1,4,5,29],⟨[.ptr 0 0,.ptr 1 0,.csl 2 1 4,.d aH],[.cells 34 [.d nE],.cells 110 [.d gW],.cells 104 [.row 3,.row 4,.row 5,.row 6],.rows 4 ajp .bool,.rows 4 ajp .bool,.rows 4 ajp .bool,.rows 4 ajp .bool]⟩,[.cel 5 0 4 .bool,.cel 5 1 4 .bool,.cel 5 2 4 .bool,.cel 5 3 4 .bool]⟩)),(40,(.j ⟨[6,27,28,29],[1,4,5,7,8,53],⟨[.ptr 0 0,.ptr 1 0,.csl 2 1 4,.ptr 3 0,.ptr 4 0,.d .bool],[.cells 34 [.d nE],.cells 110 [.d gW],.cells 104 [.row 5,.row 6,.row 7,.row 8],.cells 54 [.d ip],.cells 110 [.d gW],.rows 4 ajp .bool,.rows 4 ajp .bool,.rows 4 ajp .bool,.rows 4 ajp .bool]⟩,[]⟩)),(41,(.s 7 0 0 4)),(47,(.j ⟨[27,28,29],[1,4,5,8],⟨[.ptr 0 0,.ptr 1 0,.csl 2 1 4,.ptr 3 0],[.cells 34 [.d nE],.cells 110 [.d gW],.cells 104 [.row 4,.row 5,.row 6,.row 7],.cells 110 [.d gW],.rows 4 ajp .bool,.rows 4 ajp .bool,.rows 4 ajp .bool,.rows 4 ajp .bool]⟩,[]⟩)),(48,(.s 7 0 0 4))]⟩
def Aw:bW:=cn dT dx
def Ck:bW:=cn dT lj
def Iv:FT:=⟨⟨[.d nE],[]⟩,⟨[.d uu,.d aH],[]⟩,dh [(20,(.j ⟨[25,26],[1,6,7,27],⟨[.ptr 0 0,.ptr 1 0,.row 2,.d aH],[.cells 34 [.d nE],.cells 51 [.d Kd0],.rows 49 ajq (.sl aH)]⟩,[]⟩))]⟩
def Tp:bW:=cn Iv mb
def Ls:FT:=⟨⟨[.d nE],[]⟩,⟨[.d (.sl gV),.d aH],[]⟩,dh [(20,(.j ⟨[4,6,23],[1,7,24],⟨Nq,abt⟩,[.nil 7 59 gV]⟩)),(34,(.j ⟨[4,6,8,23,24,27],[1,7,28],⟨Nq,abt⟩,[]⟩)),(42,(.j ⟨[4,6,8,23,24,27,28],[1,7],⟨[.ptr 0 0,.row 1],abt⟩,[]⟩)),(45,(.j ⟨[4,6,8,9,23,24,27,28],[1,7,46],⟨[.ptr 0 0,.row 1,.d .bool],abt⟩,[]⟩))]⟩
def Wq:bW:=cn Ls rY
def UR:FT:=⟨⟨[],[]⟩,⟨[.d mT],[]⟩,dh [(8,(.j ⟨[21],[0,1,22],⟨tf,ac2⟩,[.cel 1 5 141 ne]⟩)),(22,(.j ⟨[2,21,22],[0,1,3],⟨tf,ac2⟩,[]⟩))]⟩
def ab7:bW:=cn UR Bp
def Io:FT:=⟨⟨[.d .bool],[]⟩,⟨[.d nE],[]⟩,dh [(6,(.j ⟨[],[2,3],⟨[.ptr 0 0,.ptr 1 0],[.cells 34 W1,.cells 34 [.d (.sl jI),.d (.sl pI),.d (.sl kC),.d (.sl .str),.d (.sl .str),.d (.sl ne),.row 2],.rows 54 ajq ip]⟩,[]⟩))]⟩
def Th:bW:=cn Io vO
def Cd:FT:=⟨⟨[],[]⟩,⟨[.d .bool],[]⟩,dh [(6,(.j ⟨[],[0],⟨[.d .bool],[]⟩,[]⟩))]⟩
def M8:bW:=cn Cd pe
def wT:FT:=⟨⟨[.d (.st (.pr CA (.pr CA CA)))],[]⟩,⟨[.d .bool],[]⟩,dh [(7,(.j ⟨[4],[3,26],⟨gf,[.cells 34 [.d nE]]⟩,[]⟩)),(20,(.j ⟨[4,31,32],[3,6,33],⟨tf,[.cells 34 [.d nE],.cells 51 [.d Kd0]]⟩,[]⟩))]⟩
def Fz:bW:=cn wT kM
theorem Dj:aC Pg 70 Wt:=mk Lt ia an bL
theorem Oh x:bT (kl x) (xq x):=by
 unfold kl xq tP ck bk bn aP cu ax ca;with_reducible repeat' (first|exact bT.rfl|refine bT.chk ?_|refine bT.bcase ?_ ?_|refine bT.lt λ_=>?_|refine bT.jn ?_ λ_=>?_|refine bT.obind ?_ λ_=>?_|refine bT.iter λ_=>?_)
theorem O2:aC Pg 46 Qs:=xd EZ kl xq Oh (ac Dj an) bL
theorem aad:aC Pg 52 aay:=mk UL Bm an bL
theorem aak:aC Pg 73 Cr:=mk US Md an bL
theorem YB:aC Pg 73 aeh:= @aC.sub Pg 73 Cr.pre Cr.post Md Aj aak rfl (λx y h=>qm (b:=8) x y h)
theorem Ry x:bT (gz x) (Ab x):=by
 unfold gz Ab vV ck bk vA bn aP cu ax ca;with_reducible repeat' (first|exact bT.rfl|refine bT.chk ?_|refine bT.bcase ?_ ?_|refine bT.lt λ_=>?_|refine bT.jn ?_ λ_=>?_|refine bT.obind ?_ λ_=>?_|refine bT.iter λ_=>?_)
theorem Sg:aC Pg 72 Tk:=xd Ir gz Ab Ry (ac YB an) bL
theorem Yx:aC Pg 73 xY:=mk Py G1 an bL
theorem MA:aC Pg 73 abb:= @aC.sub Pg 73 xY.pre xY.post G1 nO Yx rfl (λx y h=>qm (b:=8) x y h)
theorem Sh:aC Pg 43 Tl:=mk Is sG (ac Sg (ac MA an)) bL
theorem VO:aC Pg 45 Wn:=mk Lp rX an bL
theorem Sj:aC Pg 44 To:=mk Iu sH (ac VO an) bL
theorem Vq x:bT (mF x) (CX x):=by
 unfold mF CX yB Prod.p2 Prod.p3 Prod.p4 Prod.p5 Prod.p6 Prod.p7 Prod.q8 ck bk bn aP cu ax ca;with_reducible repeat' (first|exact bT.rfl|refine bT.chk ?_|refine bT.bcase ?_ ?_|refine bT.lt λ_=>?_|refine bT.jn ?_ λ_=>?_|refine bT.obind ?_ λ_=>?_|refine bT.iter λ_=>?_)
theorem K2:aC Pg 19 Wp:=xd Lr mF CX Vq an bL
theorem O1:aC Pg 47 Qr:=mk EY qN an bL
theorem Yw:aC Pg 73 Y0:=mk vi uN an bL
theorem UA:aC Pg 73 aba:= @aC.ro Pg 73 vi.pre vi.post.vs uN tH (Yw.holds rfl) rfl (λx _ h=>by rw[show tH x=obind (uN x) λy=>same y.2 x (ajn y.1) from congrArg (obind _) (funext λ_=>NZ ..)] at h;exact h)
theorem aa0 x:bT (rL x) (L9 x):=by
 unfold rL L9 F4 ck bk bn aP cu ax ca;with_reducible repeat' (first|exact bT.rfl|refine bT.chk ?_|refine bT.bcase ?_ ?_|refine bT.lt λ_=>?_|refine bT.jn ?_ λ_=>?_|refine bT.obind ?_ λ_=>?_|refine bT.iter λ_=>?_)
theorem aah:aC Pg 46 ab8:=xd yF rL L9 aa0 (ac Dj an) bL
theorem Yt:aC Pg 46 aeg:= @aC.ro Pg 46 yF.pre yF.post.vs rL Ai (aah.holds rfl) rfl (λx _ h=>by rw[show Ai x=obind (rL x) λy=>same y.2 x.2 (ajn y.1) from congrArg (obind _) (funext λ_=>NZ ..)] at h;exact h)
theorem Se:aC Pg 74 Ti:=mk Ip ku (ac Yt an) bL
theorem Ys:aC Pg 75 YV:=mk Ps uK (ac UA an) bL
theorem Vp x:bT (qc x) (CW x):=by
 unfold qc CW yA Prod.p10 Prod.p11 Prod.p12 Prod.p13 Prod.p14 Prod.p15 Prod.p16 Prod.p17 Prod.p2 Prod.p3 Prod.p4 Prod.p5 Prod.p6 Prod.p7 Prod.p8 Prod.p9 Prod.q10 Prod.q16 Prod.q17 Prod.q18 Prod.q5 Prod.q7 Prod.q9 ck aX bk jf vA bn aP cu ax ca;with_reducible repeat' (first|exact bT.rfl|refine bT.chk ?_|refine bT.bcase ?_ ?_|refine bT.lt λ_=>?_|refine bT.jn ?_ λ_=>?_|refine bT.obind ?_ λ_=>?_|refine bT.iter λ_=>?_)
theorem VP:aC Pg 48 Wo:=xd Lq qc CW Vp (ac Yt (ac UA (ac Se (ac Ys an)))) bL
theorem X2 x:bT (pf x) (GU x):=by
 unfold pf GU BI Prod.p10 Prod.p11 Prod.p2 Prod.p3 Prod.p4 Prod.p5 Prod.p6 Prod.p7 Prod.p8 Prod.p9 Prod.q11 Prod.q12 Prod.q5 Prod.q6 Prod.q8 Prod.q9 ck bk vA bn aP cu ca;with_reducible repeat' (first|exact bT.rfl|refine bT.chk ?_|refine bT.bcase ?_ ?_|refine bT.lt λ_=>?_|refine bT.jn ?_ λ_=>?_|refine bT.obind ?_ λ_=>?_|refine bT.iter λ_=>?_)
theorem O0:aC Pg 20 YW:=xd Pt pf GU X2 (ac Sh (ac Sj (ac O2 (ac O1 (ac VP an))))) bL
theorem XW x:bT (qI x) (GR x):=by
 unfold qI GR BH bk aP cu ax ca;with_reducible repeat' (first|exact bT.rfl|refine bT.chk ?_|refine bT.bcase ?_ ?_|refine bT.lt λ_=>?_|refine bT.jn ?_ λ_=>?_|refine bT.obind ?_ λ_=>?_|refine bT.iter λ_=>?_)
theorem Yp:aC Pg 49 YL:=xd Po qI GR XW (ac aad an) bL
theorem VB:aC Pg 21 V6:=mk Lb pR (ac Yp an) bL
theorem CU x:bT (jW x) (pQ x):=by
 unfold jW pQ qh Prod.p10 Prod.p11 Prod.p12 Prod.p13 Prod.p14 Prod.p15 Prod.p16 Prod.p17 Prod.p18 Prod.p19 Prod.p2 Prod.p20 Prod.p3 Prod.p4 Prod.p5 Prod.p6 Prod.p7 Prod.p8 Prod.p9 Prod.q21 bk bn cu ax ca;with_reducible repeat' (first|exact bT.rfl|refine bT.chk ?_|refine bT.bcase ?_ ?_|refine bT.lt λ_=>?_|refine bT.jn ?_ λ_=>?_|refine bT.obind ?_ λ_=>?_|refine bT.iter λ_=>?_)
theorem C9:aC Pg 163 Dw:=xd u0 jW pQ CU an bL
theorem JA x:bT (nu x) (uc x):=by
 unfold nu uc uj aX bk jf bn aP cu ax;with_reducible repeat' (first|exact bT.rfl|refine bT.chk ?_|refine bT.bcase ?_ ?_|refine bT.lt λ_=>?_|refine bT.jn ?_ λ_=>?_|refine bT.obind ?_ λ_=>?_|refine bT.iter λ_=>?_)
theorem JK:aC Pg 130 J5:=xd zg nu uc JA (ac C9 an) bL
theorem RB x:bT (qd x) (Ad x):=by
 unfold qd Ad v7 aX bk bw aP cu ax ca;with_reducible repeat' (first|exact bT.rfl|refine bT.chk ?_|refine bT.bcase ?_ ?_|refine bT.lt λ_=>?_|refine bT.jn ?_ λ_=>?_|refine bT.obind ?_ λ_=>?_|refine bT.iter λ_=>?_)
theorem Sk:aC Pg 195 Tt:=xd Iw qd Ad RB an bL
theorem J2:aC Pg 164 Ko:=mk zF jE (ac Sk an) bL
theorem J1:aC Pg 39 Kn:=mk zE uh (ac Dj an) bL
theorem Si:aC Pg 69 Tn:=mk It vQ an bL
theorem My:aC Pg 38 Na:=mk Cf vP (ac Si an) bL
theorem Rx x:bT (sF x) (Aa x):=by
 unfold sF Aa Ar ck bk bn bw aP cu ax ca;with_reducible repeat' (first|exact bT.rfl|refine bT.chk ?_|refine bT.bcase ?_ ?_|refine bT.lt λ_=>?_|refine bT.jn ?_ λ_=>?_|refine bT.obind ?_ λ_=>?_|refine bT.iter λ_=>?_)
theorem Sf:aC Pg 37 Tj:=xd Iq sF Aa Rx an bL
theorem Fm:aC Pg 131 FA:=mk wU qZ an bL
theorem Fn:aC Pg 94 FB:=mk wV rc (ac Fm an) bL
theorem yM x:bT (gd x) (mX x):=by
 unfold gd mX m7 Prod.p2 Prod.p3 Prod.p4 Prod.p5 Prod.q4 Prod.q6 aX bk ik bn bw aP cu ax ca;with_reducible repeat' (first|exact bT.rfl|refine bT.chk ?_|refine bT.bcase ?_ ?_|refine bT.lt λ_=>?_|refine bT.jn ?_ λ_=>?_|refine bT.obind ?_ λ_=>?_|refine bT.iter λ_=>?_)
theorem yS:aC Pg 92 yX:=xd rD gd mX yM an bL
theorem yL x:bT (c8 x) (mW x):=by
 unfold c8 mW m6 Prod.p2 Prod.p3 Prod.p4 bk bn bw kf aP cu ax ca;with_reducible repeat' (first|exact bT.rfl|refine bT.chk ?_|refine bT.bcase ?_ ?_|refine bT.lt λ_=>?_|refine bT.jn ?_ λ_=>?_|refine bT.obind ?_ λ_=>?_|refine bT.iter λ_=>?_)
theorem yR:aC Pg 93 yW:=xd rC c8 mW yL (ac JK an) bL
theorem yK x:bT (eR x) (mV x):=by
 unfold eR mV jO Prod.p2 Prod.p3 Prod.p5 Prod.q5 bk ik bw aP cu ax ca;with_reducible repeat' (first|exact bT.rfl|refine bT.chk ?_|refine bT.bcase ?_ ?_|refine bT.lt λ_=>?_|refine bT.jn ?_ λ_=>?_|refine bT.obind ?_ λ_=>?_|refine bT.iter λ_=>?_)
theorem yQ:aC Pg 95 yV:=xd rB eR mV yK an bL
theorem yN x:bT (c9 x) (mY x):=by
 unfold c9 mY jP Prod.p2 Prod.p3 Prod.p5 Prod.q5 bk bw aP cu ax ca;with_reducible repeat' (first|exact bT.rfl|refine bT.chk ?_|refine bT.bcase ?_ ?_|refine bT.lt λ_=>?_|refine bT.jn ?_ λ_=>?_|refine bT.obind ?_ λ_=>?_|refine bT.iter λ_=>?_)
theorem jN:aC Pg 63 yY:=xd rE c9 mY yN (ac yS (ac yR (ac Fn (ac yQ an)))) bL
theorem JD x:bT (nz x) (ue x):=by
 unfold nz ue uk Prod.p2 Prod.p3 Prod.p4 Prod.q3 Prod.q4 Prod.q5 ck bk bn aP cu ax ca;with_reducible repeat' (first|exact bT.rfl|refine bT.chk ?_|refine bT.bcase ?_ ?_|refine bT.lt λ_=>?_|refine bT.jn ?_ λ_=>?_|refine bT.obind ?_ λ_=>?_|refine bT.iter λ_=>?_)
theorem JW:aC Pg 96 Ki:=xd zA nz ue JD an bL
theorem Bk x:bT (cJ x) (oW x):=by
 unfold cJ oW pi Prod.p2 Prod.p3 Prod.p4 Prod.q4 bk bn bw aP cu ax ca;with_reducible repeat' (first|exact bT.rfl|refine bT.chk ?_|refine bT.bcase ?_ ?_|refine bT.lt λ_=>?_|refine bT.jn ?_ λ_=>?_|refine bT.obind ?_ λ_=>?_|refine bT.iter λ_=>?_)
theorem ll:aC Pg 64 Cj:=xd tS cJ oW Bk (ac JW an) bL
theorem xm x:bT (bQ x) (lH x):=by
 unfold bQ lH jx Prod.p6 Prod.q7 bk jf bn bw aP cu ax ca;with_reducible repeat' (first|exact bT.rfl|refine bT.chk ?_|refine bT.bcase ?_ ?_|refine bT.lt λ_=>?_|refine bT.jn ?_ λ_=>?_|refine bT.obind ?_ λ_=>?_|refine bT.iter λ_=>?_)
theorem jw:aC Pg 66 xU:=xd qS bQ lH xm an bL
theorem sM:aC Pg 133 IF:=mk xN dV an bL
theorem Fl:aC Pg 134 Fv:=mk wP kL (ac sM an) bL
theorem L3 x:bT (ju x) (vL x):=by
 unfold ju vL rO Prod.p2 Prod.p3 Prod.p4 Prod.q4 bk ik bw aP cu ax ca;with_reducible repeat' (first|exact bT.rfl|refine bT.chk ?_|refine bT.bcase ?_ ?_|refine bT.lt λ_=>?_|refine bT.jn ?_ λ_=>?_|refine bT.obind ?_ λ_=>?_|refine bT.iter λ_=>?_)
theorem BB:aC Pg 132 M3:=xd Ca ju vL L3 (ac sM an) bL
theorem JU:aC Pg 135 Kg:=mk zu ny (ac J2 an) bL
theorem rf:aC Pg 98 Fw:=mk wQ ii (ac BB (ac sM (ac Fl (ac JU an)))) bL
theorem C8:aC Pg 97 Du:=mk uY jV (ac BB an) bL
theorem Al:aC Pg 99 Av:=mk sV iI an bL
theorem vK x:bT (dS x) (ko x):=by
 unfold dS ko iw Prod.p2 Prod.p3 Prod.p4 Prod.p5 Prod.q3 Prod.q4 Prod.q6 aX bk jf bn bw aP cu ax ca;with_reducible repeat' (first|exact bT.rfl|refine bT.chk ?_|refine bT.bcase ?_ ?_|refine bT.lt λ_=>?_|refine bT.jn ?_ λ_=>?_|refine bT.obind ?_ λ_=>?_|refine bT.iter λ_=>?_)
theorem vS:aC Pg 100 wv:=xd pq dS ko vK an bL
theorem zS x:bT (fo x) (nW x):=by
 unfold fo nW kx Prod.p2 Prod.p3 Prod.p4 Prod.p5 Prod.q3 aX bk bw aP cu ax ca;with_reducible repeat' (first|exact bT.rfl|refine bT.chk ?_|refine bT.bcase ?_ ?_|refine bT.lt λ_=>?_|refine bT.jn ?_ λ_=>?_|refine bT.obind ?_ λ_=>?_|refine bT.iter λ_=>?_)
theorem Ak:aC Pg 101 Au:=xd sU fo nW zS an bL
theorem zd:aC Pg 170 Kf:=mk zq k9 an bL
theorem YA:aC Pg 165 xZ:=mk Pz G3 an bL
theorem aaj:aC Pg 165 abc:= @aC.sub Pg 165 xZ.pre xZ.post G3 Mc YA rfl (λx y h=>qm (b:=1) x y h)
theorem VV:aC Pg 165 vo:=mk Lx C3 an bL
theorem Yz:aC Pg 165 Y2:= @aC.sub Pg 165 vo.pre vo.post C3 G2 VV rfl (λx y h=>qm (b:=1) x y h)
theorem Yv:aC Pg 166 xX:=mk Px G0 an bL
theorem aai:aC Pg 166 ab9:= @aC.sub Pg 166 xX.pre xX.post G0 Mb Yv rfl (λx y h=>qm (b:=24) x y h)
theorem VS:aC Pg 166 vm:=mk Lv C1 an bL
theorem Yu:aC Pg 166 YZ:= @aC.sub Pg 166 vm.pre vm.post C1 GZ VS rfl (λx y h=>qm (b:=24) x y h)
theorem VU:aC Pg 103 vn:=mk Lw C2 an bL
theorem Yy:aC Pg 103 Y1:= @aC.sub Pg 103 vn.pre vn.post C2 xu VU rfl (λx y h=>qm (b:=8) x y h)
theorem JC x:bT (jD x) (ud x):=by
 unfold jD ud qA Prod.p2 Prod.q3 ck bk bn bw aP cu ca;with_reducible repeat' (first|exact bT.rfl|refine bT.chk ?_|refine bT.bcase ?_ ?_|refine bT.lt λ_=>?_|refine bT.jn ?_ λ_=>?_|refine bT.obind ?_ λ_=>?_|refine bT.iter λ_=>?_)
theorem JV:aC Pg 136 Kh:=xd zw jD ud JC (ac YB (ac Yz (ac Yu an))) bL
theorem GF x:bT (iN x) (sk x):=by
 unfold iN sk pm Prod.p2 Prod.p3 Prod.q3 ck bk jf kf aP cu ax ca;with_reducible repeat' (first|exact bT.rfl|refine bT.chk ?_|refine bT.bcase ?_ ?_|refine bT.lt λ_=>?_|refine bT.jn ?_ λ_=>?_|refine bT.obind ?_ λ_=>?_|refine bT.iter λ_=>?_)
theorem Hp:aC Pg 141 IG:=xd xO iN sk GF (ac zd an) bL
theorem Bl x:bT (fU x) (oX x):=by
 unfold fU oX lq Prod.p2 Prod.p3 Prod.q3 Prod.q4 ck bk kf aP cu ax ca;with_reducible repeat' (first|exact bT.rfl|refine bT.chk ?_|refine bT.bcase ?_ ?_|refine bT.lt λ_=>?_|refine bT.jn ?_ λ_=>?_|refine bT.obind ?_ λ_=>?_|refine bT.iter λ_=>?_)
theorem BA:aC Pg 142 Cm:=xd tU fU oX Bl (ac zd an) bL
theorem Hx:aC Pg 223 IR:=mk xS pg an bL
theorem J0:aC Pg 202 Km:=mk zD ug (ac Hx an) bL
theorem Dg:aC Pg 206 DC:=mk vh qa an bL
theorem Ht:aC Pg 168 IK:=mk xR sD (ac Dg an) bL
theorem s8 x:bT (eO x) (jg x):=by
 unfold eO jg jh ck bk kf cu ax ca;with_reducible repeat' (first|exact bT.rfl|refine bT.chk ?_|refine bT.bcase ?_ ?_|refine bT.lt λ_=>?_|refine bT.jn ?_ λ_=>?_|refine bT.obind ?_ λ_=>?_|refine bT.iter λ_=>?_)
theorem s9:aC Pg 196 tb:=xd mS eO jg s8 (ac J0 an) bL
theorem yJ x:bT (im x) (mU x):=by
 unfold im mU mZ Prod.p2 Prod.p3 aX jf bn ax;with_reducible repeat' (first|exact bT.rfl|refine bT.chk ?_|refine bT.bcase ?_ ?_|refine bT.lt λ_=>?_|refine bT.jn ?_ λ_=>?_|refine bT.obind ?_ λ_=>?_|refine bT.iter λ_=>?_)
theorem yP:aC Pg 167 yU:=xd rA im mU yJ (ac s9 an) bL
theorem VR:aC Pg 137 Wu:=mk Lu uM (ac yP (ac Ht an)) bL
theorem L6 x:bT (kw x) (vM x):=by
 unfold kw vM v8 aX bk bn kf aP cu ax ca;with_reducible repeat' (first|exact bT.rfl|refine bT.chk ?_|refine bT.bcase ?_ ?_|refine bT.lt λ_=>?_|refine bT.jn ?_ λ_=>?_|refine bT.obind ?_ λ_=>?_|refine bT.iter λ_=>?_)
theorem Mz:aC Pg 138 Ne:=xd Ci kw vM L6 an bL
theorem wF:aC Pg 140 Fx:=mk wR nN an bL
theorem GM x:bT (mc x) (sq x):=by
 unfold mc sq sS bk kf aP cu ax ca;with_reducible repeat' (first|exact bT.rfl|refine bT.chk ?_|refine bT.bcase ?_ ?_|refine bT.lt λ_=>?_|refine bT.jn ?_ λ_=>?_|refine bT.obind ?_ λ_=>?_|refine bT.iter λ_=>?_)
theorem Hy:aC Pg 169 IU:=xd xT mc sq GM (ac wF an) bL
theorem Fc x:bT (ij x) (qY x):=by
 unfold ij qY ri ck aX bk bn kf aP cu ax ca;with_reducible repeat' (first|exact bT.rfl|refine bT.chk ?_|refine bT.bcase ?_ ?_|refine bT.lt λ_=>?_|refine bT.jn ?_ λ_=>?_|refine bT.obind ?_ λ_=>?_|refine bT.iter λ_=>?_)
theorem Fo:aC Pg 139 FC:=xd wW ij qY Fc (ac wF (ac Hy an)) bL
theorem Hs:aC Pg 102 IJ:=mk mh fV (ac rf (ac JV (ac Hp (ac BA an)))) bL
def tv2 (t:TypeId):Option Ty:=if av t 175 then ajn (.pr .un (.pr .un (.pr .un (.pr .un dt)))) else bL t
theorem Hq:aC Pg 136 IH:=mk xP ma (ac MA (ac aaj (ac aai an))) tv2
theorem Hr:aC Pg 102 II:=mk xQ jZ (ac rf (ac Hq (ac VR (ac Mz (ac Fo an))))) tv2
theorem JX:aC Pg 102 Kj:=(aC.orE (pre:=mh.pre) (post:=mh.post) (m:=fV) (m':=jZ) rfl Hs Hr)
theorem mH:aC Pg 65 Dv:=mk uZ eK (ac MA (ac C8 (ac rf (ac Al (ac vS (ac Ak (ac JX (ac Yy an)))))))) bL
def tv3 (t:TypeId):Option Ty:=if av t 104 then ajn (.pr .un (.pr .un oM)) else bL t
theorem zX x:bT (dy x) (oa x):=by
 unfold dy oa ky Prod.p2 Prod.p3 Prod.p4 Prod.q3 Prod.q5 aX bk bn bw aP cu ax ca;with_reducible repeat' (first|exact bT.rfl|refine bT.chk ?_|refine bT.bcase ?_ ?_|refine bT.lt λ_=>?_|refine bT.jn ?_ λ_=>?_|refine bT.obind ?_ λ_=>?_|refine bT.iter λ_=>?_)
theorem Ap:aC Pg 30 Az:=xd sY dy oa zX (ac jN (ac ll (ac mH (ac jw an)))) tv3
def tv4 (t:TypeId):Option Ty:=if av t 104 then ajn (.pr .un (.pr .un (.pr .un oM))) else bL t
theorem zW x:bT (cK x) (nZ x):=by
 unfold cK nZ iS Prod.p2 Prod.p3 Prod.p4 Prod.p5 Prod.q3 Prod.q4 Prod.q6 aX bk bn bw aP cu ax ca;with_reducible repeat' (first|exact bT.rfl|refine bT.chk ?_|refine bT.bcase ?_ ?_|refine bT.lt λ_=>?_|refine bT.jn ?_ λ_=>?_|refine bT.obind ?_ λ_=>?_|refine bT.iter λ_=>?_)
theorem Ao:aC Pg 30 Ay:=xd sX cK nZ zW (ac jN (ac ll (ac mH (ac jw an)))) tv4
def tv5 (t:TypeId):Option Ty:=if av t 104 then ajn (.pr .un (.pr .un (.pr .un (.pr .un oM)))) else bL t
theorem zV x:bT (c6 x) (nY x):=by
 unfold c6 nY iR Prod.p2 Prod.p3 Prod.p4 Prod.p5 Prod.p6 Prod.q3 Prod.q5 Prod.q6 Prod.q7 aX bk bn bw aP cu ax ca;with_reducible repeat' (first|exact bT.rfl|refine bT.chk ?_|refine bT.bcase ?_ ?_|refine bT.lt λ_=>?_|refine bT.jn ?_ λ_=>?_|refine bT.obind ?_ λ_=>?_|refine bT.iter λ_=>?_)
theorem An:aC Pg 30 Ax:=xd sW c6 nY zV (ac jN (ac ll (ac mH (ac jw an)))) tv5
def tv6 (t:TypeId):Option Ty:=if av t 104 then ajn (.pr .un (.pr .un (.pr .un (.pr .un (.pr .un oM))))) else bL t
theorem zU x:bT (dx x) (nX x):=by
 unfold dx nX iQ Prod.p2 Prod.p3 Prod.p4 Prod.p5 Prod.p6 Prod.p7 Prod.q3 Prod.q6 Prod.q7 Prod.q8 aX bk bn bw aP cu ax ca;with_reducible repeat' (first|exact bT.rfl|refine bT.chk ?_|refine bT.bcase ?_ ?_|refine bT.lt λ_=>?_|refine bT.jn ?_ λ_=>?_|refine bT.obind ?_ λ_=>?_|refine bT.iter λ_=>?_)
theorem Am:aC Pg 30 Aw:=xd dT dx nX zU (ac jN (ac ll (ac mH (ac jw an)))) tv6
theorem Bx:aC Pg 30 Ck:=(aC.orE (pre:=dT.pre) (post:=dT.post) (m:=dx) (m':=(λx=>orE (c6 x) ((λx=>orE (cK x) (dy x)) x))) rfl Am (aC.orE (pre:=dT.pre) (post:=dT.post) (m:=c6) (m':=(λx=>orE (cK x) (dy x))) rfl An (aC.orE (pre:=dT.pre) (post:=dT.post) (m:=cK) (m':=dy) rfl Ao Ap)))
theorem Rz x:bT (mb x) (Ac x):=by
 unfold mb Ac vW Prod.p2 Prod.q3 ck bk ik bn bw aP cu ax ca;with_reducible repeat' (first|exact bT.rfl|refine bT.chk ?_|refine bT.bcase ?_ ?_|refine bT.lt λ_=>?_|refine bT.jn ?_ λ_=>?_|refine bT.obind ?_ λ_=>?_|refine bT.iter λ_=>?_)
theorem Hw:aC Pg 12 Tp:=xd Iv mb Ac Rz (ac K2 (ac O0 (ac Bx an))) bL
theorem Vr x:bT (rY x) (CY x):=by
 unfold rY CY Dk bk ik bn bw aP cu ax ca;with_reducible repeat' (first|exact bT.rfl|refine bT.chk ?_|refine bT.bcase ?_ ?_|refine bT.lt λ_=>?_|refine bT.jn ?_ λ_=>?_|refine bT.obind ?_ λ_=>?_|refine bT.iter λ_=>?_)
theorem VQ:aC Pg 16 Wq:=xd Ls rY CY Vr (ac Hw (ac Sf (ac My (ac J1 an)))) bL
theorem Z9 x:bT (Bp x) (L8 x):=by
 unfold Bp L8 MD Prod.p2 Prod.p3 Prod.p4 Prod.p5 Prod.q6 bk bn cu ax ca;with_reducible repeat' (first|exact bT.rfl|refine bT.chk ?_|refine bT.bcase ?_ ?_|refine bT.lt λ_=>?_|refine bT.jn ?_ λ_=>?_|refine bT.obind ?_ λ_=>?_|refine bT.iter λ_=>?_)
theorem aag:aC Pg 55 ab7:=xd UR Bp L8 Z9 an bL
theorem Sd:aC Pg 36 Th:=mk Io vO (ac aag an) bL
theorem Mx:aC Pg 15 M8:=mk Cd pe (ac VQ (ac Sd an)) bL
theorem hlaw23_HBAgrees:aC Pg 5 Fz:=mk wT kM (ac Da (ac Hw (ac Mx (ac K2 (ac O0 (ac VB an)))))) bL
theorem run_law {P:Program} {f:FuncId} {pre:Tm} {m:pre.ty.den->Option (Tm.ty ⟨[.d .bool],[]⟩).den} (sp:oH P f ⟨pre,⟨[.d .bool],[]⟩,m⟩) (h0:pre.bs.length=0) {x:pre.ty.den} (M:m x=ajn ajp) {vs:List TV} {hp:aZ} (hi:Bw pre x=ajn (vs,hp)) {la:List AV} (hla:cj hp vs=ajn la)
 {W:World} {us:List Value} (hg:∀ g cells,G g=ajn cells->mj (λ_=>False) W (.ptr cells 0) (.pointer (ajn ⟨g,0,ajo⟩))) (hrel:ji (λ_=>ajo) (λ_=>False) W la us):
 Calls P f us.toArray W λe w'=>e= .returned (.bool ajp)/\Below W.heap.size W w':=by
 obtain⟨l1,I⟩:=uQ hi;obtain⟨l2,J⟩:=uQ (t:=⟨[.d .bool],[]⟩) (x:=ajp) (vs:=[.f .bool ajp]) (h1:=PT.leaf) rfl;have hn:bi hp=λ_=>ajo:=by
  funext n;cases hb:bi hp n with
  |none=>rfl
  |some b=>
   obtain⟨i,c,rfl,h1,_⟩:=iG hb;have:=I.lt_len h1;omega
 have own0:∀ (φ:PM) k,¬own φ (bi hp) k:=by rintro φ k ⟨i,b,h1,_⟩;rw[hn] at h1;cases h1
 have htot:tot (λ_=>False) (λ_=>ajo) (bi hp)=λ_=>False:=by
  funext k;exact propext ⟨λh=>h.elim id λh=>absurd h (own0 _ k),λh=>h.elim⟩
 refine Calls.mono (sp.calls x ajp M vs hp l1 _ PT.leaf l2 la _ I J hla rfl (λ_=>ajo) (λ_=>False) W us ⟨(λi j b b' k h1=>by rw[hn] at h1;cases h1),(λi b h1=>by rw[hn] at h1;cases h1),(λk h=>h.elim),(λg cells h=>by rw[htot];exact hg g cells h)⟩ (by rw[htot];exact hrel) (λn k h=>by cases h)) ?_;rintro en w' ⟨v,φ',rfl,he,_,_,_,hv⟩;refine ⟨?_,⟨he.os,he.tape,he.output,he.size,λk hk=>he.blk k hk (own0 _ k)⟩⟩;have hv:cq φ' _ w' (.f (.raw (.bool ajp))) v:=hv;cases hv with
 |f h=>cases h;rfl
theorem gKw:Tryz.prog.globalNamed "interleave/token.keywords" =ajn 0:=by kernel_rfl
theorem tKw:(Tryz.prog.globals[0]?).map (·.type)=ajn 273:=by kernel_rfl
theorem kw_of_laid {W:World} (h:laidMetH Tryz.prog [("interleave/token.keywords",Rows.laid_interleave_token_keywords)] W):∀ g cells,G g=ajn cells→mj (λ_=>False) W (.ptr cells 0) (.pointer (ajn ⟨g,0,ajo⟩)):=by
 intro g cells Y;unfold G at Y;split at Y
 ·rename_i hg;have hg:=eq_of_beq hg;subst hg;cases Y;rw[MakeChecks.laidMetH_plain _ _ _ (by kernel_rfl)] at h;obtain⟨ps,⟨g0,t0,cs0,f0,p0,q0,U,ht0,Z,hd0,_,_⟩,_,_⟩:=h;obtain rfl:=jd (gKw.symm.trans U);obtain rfl:=jd (tKw.symm.trans ht0);obtain⟨xs,m1,rfl,M,hlen,hn,hel⟩:=DataW.trod_array Tryz.underlying273 hd0;have c1:Tryz.prog.cellsOf 9=1:=by kernel_rfl
  have c22:Tryz.prog.cellsOf 273=22:=by kernel_rfl
  rw[c22] at hlen;simp only[aw,Rows.laid_interleave_token_keywords,DataW.agg.injEq] at M;have hxs:=M.1;have hcell:∀ j,j<22→∃ l,(xs.map (·.1))[j]? =ajn (.lit (.string l))∧W.cell? ⟨0,j,ajo⟩=ajn (.string ⟨l.toArray⟩):=λj hj=>by
   have h1:=hel j hj;rw[c1,Nat.mul_one] at h1;rw[ar (by omega)] at h1;obtain⟨s,e1,e2,_⟩:=DataW.trod_string Tryz.underlying9 h1;refine ⟨s.data.toList,?_,?_⟩
   ·rw[aU,ar (by omega),bO,e2]
   ·have:=World.var?_cell U Z j;rw[this];have I:cs0.toList[j]? =ajn (.string s):=by
     have:((cs0.toList.drop j).take 1)[0]? =ajn (.string s):=by rw[e1];rfl
     rw[cr,if_pos (by omega),fZ] at this;simpa using this
    rw[← ch,I]
  have hb:0<W.heap.size:=by
   obtain⟨l,_,I⟩:=hcell 0 (by omega);exact World.block_lt_of_cell? W _ I
  refine .ptr Br 0 0 0 (λj=>(W.cell? ⟨0,j,ajo⟩).getD undef) (λh=>h) hb (λx J=>?_) (λj hj=>?_) (λj x J=>?_)
  ·simp only[Br,bc,bY,or_false] at J;rcases J with rfl|rfl|rfl|rfl|rfl|rfl|rfl|rfl|rfl|rfl|rfl|rfl|rfl|rfl|rfl|rfl|rfl|rfl|rfl|rfl|rfl|rfl<;>rfl
  ·obtain⟨l,_,I⟩:=hcell j hj;rw[bz,I];rfl
  ·have hj:j<22:=(a8.1 J).1;obtain⟨l,h1,I⟩:=hcell j hj;rw[← hxs] at h1;have:x= .raw (.string ⟨l.toArray⟩):=by
    rcases j with _|_|_|_|_|_|_|_|_|_|_|_|_|_|_|_|_|_|_|_|_|_|j;all_goals first|(simp only[pF,List.getElem?_cons_succ,aa,DataW.lit.injEq,Lit.string.injEq,Br] at h1 J;subst h1;subst J;rfl)|omega
   rw[this,I];exact .raw _
 ·cases Y
end
end Go.Proofs.YtkagidinekdnoaaGreatDoor.AI
