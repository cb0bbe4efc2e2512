/-
  Texts of the proof, part 6 of 6: what is used to prove the statement. No condition.
-/
import Derived.Test.YtmmgdigihgnnnaaGreatDoorSearchWiderQ4
import Derived.Shelf.Strings.Search1
import Derived.Test.YtmmgdigihgnnnaaGreatDoorRows
import Derived.LaidMore
namespace Go.Proofs.YtmmgdigihgnnnaaGreatDoor.AI
open Go.RowKit
set_option maxRecDepth 100000
set_option maxHeartbeats 4000000
set_option linter.unusedVariables false
set_option linter.unusedSimpArgs false
set_option linter.defProp false
open _root_.Bool renaming true→J,false→aa
open _root_.List renaming length→l!
open _root_.Nat renaming beq→aB,mul_one→He
open _root_.Option renaming some→Z,none→U,map_some→bS
open _root_.Prod renaming a→bg,b→bA,c→bQ,d→bY,f→cS,e→dt,g→dv,i→gz,h→ji,j→tb,k→RA
noncomputable section
abbrev Ld0:Y PB:=[.C 91 [ä,Ĵ,Ĵ,Y!,ß,Y!]]
abbrev Ld1:Y PB:=[ŧ,Ĝ,.qk (.rr 41 1) 4,Ţ,.qk (.ir 3 aP) 0]
abbrev Ld2:Y PB:=[ē,Ç,Ï,.C 50 KV]
abbrev Ld3:Y PB:=[ē,Ç,Ï]
abbrev Ld4:Y PB:=[ū,.C 22 [Ý],ų,Û]
abbrev Ld5:Y PB:=[ũ,Ţ,.C 223 [.d Kd7]]
abbrev Ld6:Y PB:=[ū,.C 22 [ç],ų,.F 4 aa .bool,Û]
abbrev Ld7:Y PB:=[Ñ]
abbrev Ld8:Y PV:=(Ä::Ä::Ä::Ä::Ä::Ä::V!::Ä::V!::Ä::Ŕ)
def š:Y PB:=[ŧ,.C 108 Ld8]
abbrev Ld9:Y PB:=[Ŷ,Ţ,Ţ]
abbrev aep:Y PB:=[Ñ,Ů]
abbrev aw5:Y PB:=[ţ,.C 50 [ç,V!,Ċ,í],Ů,î,ē,Ç,Ï]
abbrev anu:Y PV:=(Ä::V!::Ä::Ŕ)
def Ł:PB:=.C 91 anu
abbrev ant:Y PV:=(Ŏ++[ķ,V!])
abbrev as9:Y PB:=(Ř++[.F 99 J iK,Ţ])
abbrev EO:Y PV:=[Y!]
def Ģ:PB:=.C 41 EO
abbrev ajt:Y PB:=[ū,Ñ]
abbrev T5:Y PB:=[Ŷ]
abbrev aw4:Y PB:=[î,ű,ē,.F 4 aa .bool,.F 145 aa gU]
abbrev ajs:Y PB:=[ÿ,Û]
abbrev ans:Y PB:=Ř
abbrev as8:Y PB:=[Û,.F 366 aa (.int .u8)]
abbrev aw2:Y PV:=(ŋ++[í,ñ,Y!,Ğ,.G 9])
abbrev ajr:Y PB:=[Û]
abbrev aeo:Y PB:=[Ţ]
abbrev ajq:Y PV:=(Ĥ::Ő)
abbrev aw1:Y PB:=[ŧ,Ĝ,.qk (.rr 41 1) 3,.qk (.ir 3 aP) 0]
abbrev ZM:Y PV:=[Ú,V!]
abbrev aw0:Y PB:=[.C 22 [Þ],.C 176 [.qv 72 [(0,0)]],Û]
abbrev ZL:Y PV:=[ė]
def İ:PB:=.C 56 ZL
def Ŝ:Y PB:=[.C 55 [Ë,V!,ã,ă],.C 43 (Ŗ++[Y!]),İ,Ģ,ħ]
abbrev as7:Y PV:=[X!,À,Þ,V!]
abbrev anr:Y PV:=[Ô,ò,V!]
abbrev avz:Y PV:=(Ŏ++[ķ,Ý,V!])
abbrev avy:Y PB:=(Ř++[.F 99 J iK])
abbrev avx:Y PB:=[ŧ,Į,ũ]
def Wr:=ź [Ô,V!] [] [ã] [] (dF [ŷ 8 [1] [2,4,5,6] EP avx,ŷ 10 [1,6] [2,4,5,18] Bl avx]) og
def G6:=ź EO [] EO [] .leaf Sg
def arh:cr:=⟨G6.pre,G6.post,xu⟩
def Cr:=ź EO [] [Ú] Ld7 (dF [(8,(.a [.nil 2 3 aP])),(12,(.a [.nil 2 3 aP]))]) L6
def an4:cr:=⟨Cr.pre,Cr.post,p_⟩
def yn:=Ź [Ö] [] [V?] [] (dF [ŷ 6 [0,5] [6] [V!] []])
def Ik:cr:=cn yn lQ
def DH:=Ź [Ö] [] [V?] [] (dF [ŷ 3 [0] [16] [V?] [],ŷ 14 [] [18] [X!] [ĵ],ŷ 24 [] [18] [X!] [ĵ],ŷ 25 [3,4] [18,23] ib [ĵ],ŷ 29 [] [18,38] ib [ĵ]])
def Pm:cr:=cn DH pI
def Nu:=Ź XD [] [V!] [] (dF [ŷ 6 [0,1,7] [8] [V!] []])
def Zu:cr:=cn Nu j7
def PP:=ź XD [] [V?] [] .leaf e_
def KL:=ź Bk [] [V?] [] (dF [ŷ 2 [] [4] [V?] []]) uz
def KM:=ź [Ë,V!,V?] [] [V?] [] (dF [ŷ 2 [] [6] [V?] []]) uA
def uW:=Ź [è] [] [Á,V?] [] (dF [Ÿ 8 [0] [4,5] ZM [Ê] [.nil 4 9 .str],ŷ 15 [0] [4,5] ZM [Ê],ŷ 37 [0,5] [4,6,49] [Ú,À,V?] [Ê,Ķ],ŷ 48 [0,5,51] [4,6,52] [Ú,À,V!] [Ê,Ķ]])
def Dt:cr:=cn uW iD
def uV:=Ź [Ë,Á] [] [V?] [] (dF [ŷ 10 [17,18] [2,5,19] Ao aer,ŷ 27 [30,31] [2,5,32] Ao aer,Ÿ 50 [52] [10,51,53] [.mp 0,Ù,V!] [ô,Ê] [.mpt 10 .str .bool],Ÿ 62 [12,52,53] [10,51,64] [.mp 0,Ù,V?] [ô,Ê] [.mpt 10 .str .bool]])
def Ds:cr:=cn uV d6
def uU:=Ź [Ë] [] [V?] [] (dF [ŷ 8 [8,9] [1,3,4,10] (X!::V!::Ő) rz,ŷ 20 [3,4,8,9,10] [1,6,25] pR Ş,ŷ 27 [8,9,10] [1,3,4,6] [X!,V!,V!,À] Ş])
def Dr:cr:=cn uU gy
def uX:=Ź [Ë] [] [V?] [] (dF [ŷ 3 [] [1,34] ib rz,ŷ 11 [] [1,44] ib rz,ŷ 21 [] [1,58] ib rz,ŷ 32 [60,61] [1,62] vi rz])
def Du:cr:=cn uX iE
def DW:=Ź [Ë] [] [ä] [] (dF [ŷ 8 [20] [2,3,21] wB aw4,ŷ 21 [] [2,3] [X!,À] aw4])
def PD:cr:=cn DW pK
def w7:=Ź [Ë] [] [ã] [] (dF [ŷ 8 [22,23] [2,3,24] wB [Į,.C 53 (ŋ++[Þ,Ý,ç]),.F 2 aa aP,.F 2 aa aP,Ĝ]])
def GR:cr:=cn w7 eD
def NJ:=ź Bk [] [V?] [] (dF [ŷ 2 [] [4] [V?] []]) fA
def KF:=ź (Ë::Ő) [] [V?] [] (dF [ŷ 6 [2,7] [3,8] ib rz,ŷ 36 [2,7] [3,18] ib rz,ŷ 46 [2,7] [3,26] ib rz,ŷ 53 [] [6] [V?] [],ŷ 56 [2,7] [3,43] ib rz,ŷ 71 [] [6] [V?] [],ŷ 74 [2,7] [3,61] ib rz,ŷ 92 [2,7] [3,71] ib rz,ŷ 102 [2] [3,79] ib rz]) j6
def GA:=Ź [Ë,ä] [] [V?] [] (dF [ŷ 3 [] [2,31] ib rz,ŷ 14 [33,34] [2,35] vi rz])
def Tv:cr:=cn GA jB
def PA:=ź (Ë::ä::V!::Ő) [] [V?] [] (dF [ŷ 15 [] [10] [V?] [],ŷ 21 [] [10] [V?] [],ŷ 24 [2,4,11] [5,6,60] pR ZN,ŷ 64 [2,4,11] [5,6,109] pR ZN,ŷ 81 [] [10] [V?] [],ŷ 87 [] [10] [V?] []]) lz
def KH:=ź (Ë::ä::V!::Ő) [] [V?] [] (dF [ŷ 3 [2,3,4] [5,6,30] pR ZN,ŷ 25 [] [10] [V?] [],ŷ 29 [] [10] [V?] []]) eT
def Ii:=ź [Ë,ã] [] [V?] [] (dF [ŷ 2 [] [4] [V?] []]) lP
def ED:=ź [Ë,Â] [] [V?] [] (dF [ŷ 3 [] [2,3,12] pR [ţ,Ţ],ŷ 10 [] [4] [V?] []]) mr
def r7:=Ź [Ë,ã,Â] [] [V?] [] (dF [ŷ 2 [] [4,5,7] pR ŕ,ŷ 4 [] [4,5,8] aju Ld5,ŷ 10 [51] [4,5,8,52] EP Ld5,ŷ 22 [10,51,52] [4,5,8,64] Bl Ld5,ŷ 34 [51,52,65,66] [4,5,8,11,67] (Ŏ++Ő) Ld5,ŷ 46 [13,51,52,65,66,67] [4,5,8,83] Bl Ld5])
def Ai:cr:=cn r7 gf
def v8:=Ź [ã,Â] [] [V?] [] (dF [ŷ 21 [] [4] [V?] [],ŷ 24 [13] [2,3,46] pR ŕ,ŷ 43 [53,54] [3,5,6,55] [X!,V!,V?,V!] aeo,ŷ 51 [53,54,55] [3,5,6] [X!,V!,V?] aeo,ŷ 54 [5,6,7,53,54,55] [3,69] ib aeo,ŷ 62 [] [4] [V?] [],ŷ 74 [94,95] [3,9,96] (X!::Ő) aeo,ŷ 82 [94,95,96] [3,9] vi aeo,ŷ 85 [9,94,95,96] [3,109] ib aeo])
def EC:cr:=cn v8 gX
def Pz:=ź [.d gU,V!] [] [V?] [] (dF [ŷ 2 [] [4] [V?] []]) ne
def Cu:=ź [ß] [] [ß] [] .leaf L8
def an6:cr:=⟨Cu.pre,Cu.post,zI⟩
def yH:=ź [ß] [] [Ú] [Ç] (dF [(8,(.a [.nil 2 4 .bool])),(12,(.a [.nil 2 4 .bool]))]) HM
def ait:cr:=⟨yH.pre,yH.post,xZ⟩
def Cp:=ź [Ã] [] [Ã] [] .leaf L4
def an2:cr:=⟨Cp.pre,Cp.post,zH⟩
def yA:=ź [Ã] [] [Ú] [Ï] (dF [(8,(.a [.nil 2 145 gU])),(12,(.a [.nil 2 145 gU]))]) HE
def aim:cr:=⟨yA.pre,yA.post,L2⟩
def Ct:=ź EO [] EO [] .leaf L7
def an5:cr:=⟨Ct.pre,Ct.post,FG⟩
def yD:=ź EO [] [Ú] [W!] (dF [(8,(.a [.nil 2 2 aP])),(12,(.a [.nil 2 2 aP]))]) HI
def aip:cr:=⟨yD.pre,yD.post,BA⟩
def yG:=ź [Ĵ] [] [Ú] [č] (dF [(8,(.a [.nil 2 169 Bn])),(12,(.a [.nil 2 169 Bn]))]) HL
def ais:cr:=⟨yG.pre,yG.post,BB⟩
def DV:=Ź [ä] [] [Ĕ] Ld3 (dF [ŷ 8 [11,12] [1,2,3,13] as7 [Ū,î,ē]])
def PC:cr:=cn DV lA
def Cb:=Ź (Ĕ::Ő) Ld3 [V!] Ld3 (dF [ŷ 8 [1,2,12] [3,7,11,13] [Î,V!,Þ,V!] Ld2,ŷ 16 [1,2,12,13] [3,7,11] [Î,V!,Þ] Ld2,ŷ 19 [1,2,7,8,12,13] [3,11,29] [Î,Þ,V?] Ld2,ŷ 25 [7] [] [] Ld3])
def NK:cr:=cn Cb kH
def xc:=Ź [Ĕ,V!] Ld3 [V!] Ld3 (dF [ŷ 8 [1,10] [2,5,9,11] [Î,V!,Þ,V!] Ld2,ŷ 16 [1,10,11] [2,5,9] [Î,V!,Þ] Ld2])
def GZ:cr:=cn xc im
def NY:=ź [V!] [] [V?] [] .leaf rM
def PO:=ź Bk [] [V?] [] (dF [ŷ 2 [] [4] [V?] []]) xt
def Iq:=ź [ĸ] [] [V!] [] .leaf sV
def NS:=ź [ĸ] [] [V!] [] .leaf vO
def ph:=Ź (Ú::Ő) Ld7 [] Ld7 (dF [ŷ 3 [1,2] [0,6] ZM Ld7,ŷ 15 [1,2,6] [0,7] ZM Ld7,ŷ 17 [1,2,6,7] [0,30] [Ú,V?] Ld7])
def wz:cr:=cn ph gp
def uP:=Ź (Ú::V!::Ő) Ld7 [] Ld7 (dF [ŷ 5 [] [0,1,2,3,8,9] [Ú,V!,V!,V!,V?,V?] Ld7])
def Dl:cr:=cn uP j_
def aec:=ź [Ú] Ld7 [] Ld7 .leaf xY
def GM:=Ź [Ú] Ld7 [Ú] Ld7 (dF [ŷ 14 [] [0,3] ZM Ld7])
def TO:cr:=cn GM my
def KI:=ź [V!,X!] [Ů] [V?] [Ů] .leaf pZ
def Ci:=Ź [Ú,Đ] aep [V!] aep (dF [ŷ 6 [7] [0,1,8] [Ú,Đ,V!] aep])
def NZ:cr:=cn Ci ou
def AO:=Ź [Ú,Đ] aep [Þ] [ÿ,Ů,Ĝ] (dF [ŷ 16 [] [0,1,5,6] (Ú::Đ::Ő) aep,ŷ 24 [6] [0,1,5] [Ú,Đ,V!] aep])
def KN:cr:=cn AO j8
def oE:=Ź (Ë::ä::V!::V!::Ő) [] [ä,V!,V?] [] (dF [ŷ 17 [] [7,12,15] wB [ű,î,ē,Ç,Ï],ŷ 26 [4,5,15,27] [6,7,8,12,42] yO aw5,ŷ 34 [4,5,15,27] [6,7,8,12,51] yO aw5])
def NQ:cr:=cn oE io
def NL:=ź [ä] [] [.agg [.qf 0 2 3,V!,ß,Ã]] [.C 147 [V!,Ù,V!,Þ,V!,Ý],Ñ,Ñ,Ñ] (dF [Ÿ 7 [] [1,2,3] [X!,À,.qf 2 2 3] [Ū,î,.C 147 [V!,Ý,V!,ç,V!,Ċ],Ñ,Ñ,Ñ] [.ql 3 1 3 aP,.ql 3 3 3 aP,.ql 3 5 3 aP],(8,(.u 4))]) rJ
def NP:=ź (Ë::ä::V!::V!::Ő) [] [ä,V!,V?] [] (dF [ŷ 17 [] [7,12,15] wB [.C 50 [.qf 2 2 3,V!,ß,Ã],î,.C 147 [.d dy,.d dy,V!,Ý],.qy 3 aP],ŷ 26 [4,5,15,27] [6,7,8,12,42] yO (Ś++[.C 147 [V!,Ċ,V!,í,V!,ñ],Ñ,Ñ,Ñ]),(33,(.s 4 0 0 0)),ŷ 34 [4,5,15,27] [6,7,8,12,51] yO (Ś++[.C 147 [V!,Y!,V!,Y!,V!,Ċ],Ñ]),(41,(.s 4 0 0 0)),(46,(.s 4 0 0 3)),(53,(.s 4 0 0 3)),(74,(.s 4 0 0 0)),(80,(.s 4 0 0 0)),(100,(.a [.pk 7 0 dy]))]) lU
def PH:cr:=cn oE lB
def Ij:=ź [Ë,ã,Â] [] [ã,V?] [] (dF [ŷ 3 [] [3,4,5,6,39] yO Ol,ŷ 11 [] [3,4,5,6,70] yO Ol,ŷ 20 [] [3,4,5,6,8] (Ŏ++[Î,V!]) Ol,ŷ 41 [] [5,6,12] aju aso]) kw
def sI:=Ź [.nr 0 1,.d gm] [à] [V?] [à] (dF [ŷ 6 [13] [0,14] [.nr 0 1,.d aP] [à],ŷ 20 [13,14,17,18] [0,19] [.nr 0 1,.d aP] [à],ŷ 31 [13,14,17,18,19] [0,37] [.nr 0 1,.d .bool] [à]])
def Bg:cr:=cn sI eQ
def w9:=Ź [į] [] Bk [] (dF [ŷ 26 [27,28] [1,4,5,29] as7 (Š++[.qk (.rr 47 1) 3,à]),ŷ 40 [6,27,28,29] [1,4,5,7,8,53] [X!,À,Þ,Î,á,V?] (Š++[.qk (.rr 47 1) 5,Ţ,ũ,à]),Ÿ 47 [27,28,29] [1,4,5,8] [X!,À,Þ,Î] (Š++[.qk (.rr 47 1) 4,ũ,à]) [.tak 5 0]])
def GU:cr:=cn w9 il
def yE:=ź [è] [] [è] [] .leaf HJ
def aiq:cr:=⟨yE.pre,yE.post,FH⟩
def yC:=ź [é] [] [é] [] .leaf HH
def aio:cr:=⟨yC.pre,yC.post,FF⟩
def yF:=ź [ê] [] [ê] [] .leaf HK
def air:cr:=⟨yF.pre,yF.post,FI⟩
def Cq:=ź [Á] [] [Á] [] .leaf L5
def an3:cr:=⟨Cq.pre,Cq.post,CS⟩
def yB:=ź [ð] [] [ð] [] .leaf HG
def ain:cr:=⟨yB.pre,yB.post,FE⟩
def GP:=ź [Ë] [] [Ë] [] .leaf lh
def Ck:=ź [ã] [] [ã] [] (dF [Ÿ 10 [31,32] [2,3,33] wB [Į,.C 53 [Þ,V!,ß,Ã,Y!,Y!,Y!],Ó] [.ql 3 0 147 dy]]) jH
def EB:=ź [ă] [] [ă] [] (dF [ŷ 8 [9,10] [3,11] ZM [.F 75 aa gm]]) kD
def Pk:=ź [į,V!] [] [.d (.sl sj),V!] [] (dF [ŷ 13 [1] [2,25] ib [ŵ],Ÿ 28 [1,30,31] [2,8,9,32] [X!,Ù,Í,V!] [ŵ,.F 55 J sj,ũ] [.nil 8 55 sj],ŷ 39 [1,30,31,32] [2,8,9,11] [X!,Ù,Í,Î] (ŵ::.F 55 J sj::ŕ)]) mZ
def KJ:=ź [ä] [] [ä] [] (dF [Ÿ 8 [16,17] [2,3,18] wB [î,.C 50 [Þ,V!,ß,Ã],Ó] [.ql 3 0 147 dy]]) mP
def Tz:=ź EO [] [Ĵ] [] (dF [ŷ 8 [9,10] [3,11] ZM [.F 169 aa Bn]]) oW
def TA:=ź [Ô] [] [ò] [] .leaf rK
def W_:=ź anr [] [V!] [] (dF [ŷ 3 [2] [3,4,18] pR ans,ŷ 14 [2,20,21] [4,22] vi [ū],ŷ 25 [2,7,20,21,22] [4,37] ib [ū]]) mh
def TB:=ź [Ô,ò,V!,Y!] [] [V?] [] (dF [ŷ 11 [2,3] [4,5,35] pR ans,Ÿ 26 [2,3,9,43,44] [5,10,45] Ao ajt [.nil 10 3 aP],ŷ 34 [2,3,9,43,44,45] [5,10] [X!,Ù] ajt,ŷ 47 [9,59,60] [5,10,61] Ao ajt,ŷ 55 [9,59,60,61] [5,10] [X!,Ù] ajt,ŷ 66 [9,59,60,61] [5,10,99] [X!,Ù,V?] ajt]) oX
def NR:=ź anr [] [V?] [] (dF [ŷ 14 [] [6] [V?] []]) fT
def W7:=ź [Ô,ò] [] [V?] [] (dF [ŷ 2 [] [4] [V?] []]) uc
def W9:=ź [Ô,ò,Õ] [] [ò,V?] [] (dF [ŷ 3 [] [3,4,5,6,27] yO (Ř++[Ũ,Ł]),ŷ 24 [8,11] [3,4,5,6,9,13] KW (Ř++[Ũ,Ł,Ţ,.C 91 aw2,č,č,Ç,Ñ]),ŷ 30 [8,11] [4,6,9,13,14,15] KW [ū,Ł,Ţ,.C 91 aw2,.C 169 [.d Bn],.C 169 [.d Bn],č,č,Ç,Ñ],ŷ 39 [] [6,13] [X!,À] [Ł,.C 91 (ŋ++[Þ,Ý,Y!,ç,Ċ]),č,č,Ç,Ñ]]) ud
def TJ:=ź [Â] [] [V?] [] (dF [ŷ 2 [] [2] [V?] []]) o7
def Xe:=ź [V!] [] [V?] [] (dF [ŷ 6 [] [4] [V?] []]) uf
def PN:=ź [Ô] [] [Ĥ,V?] [] (dF [ŷ 5 [] [1,2,4,24] Bl (š++[.C 108 (Ō++[V!,Ò,V!,ß,Ã,Y!,Y!,Y!,ă,Ä])]),Ÿ 18 [30,31] [1,2,4,5,32] (Ŏ++[Î,V!]) (š++[.C 108 (Ō++[V!,Ò,V!,ß,Ã,Y!,Y!,Y!,ă,ç]),Ū,.F 50 J pE]) [.ql 4 15 50 pE],ŷ 33 [30,31,32] [1,2,4,5,7,8] anx (š++[.C 108 (Ō++[V!,Ò,V!,ß,Ã,Y!,Y!,Y!,ă,Ċ]),Ū,Ţ,.F 50 J pE])]) pN
def Bh:=ź [Ĥ,Y!] [] [V?] [] (dF [ŷ 6 [7,8] [2,9] vi T5,ŷ 17 [7,8,9] [2,22] ib T5]) eR
def yz:=ź ajq [] [V?] [] (dF [ŷ 4 [] [6] [V?] []]) eV
def Dp:=ź ajq [] [V?] [] (dF [ŷ 3 [1,2] [3,26] ib T5,ŷ 12 [] [6] [V?] []]) kf
def Bj:=ź ajq [] [V?] [] (dF [ŷ 5 [1] [3,7,8,34] Bl Ld9,ŷ 17 [1] [3,8,9,10] [X!,À,V!,V?] [Ŷ,Ţ],ŷ 18 [1,9,10,38] [3,7,8,39] Bl Ld9,ŷ 45 [] [6] [V?] []]) iS
def Cm:=ź [Ĥ,Y!] [] [V?] [] (dF [ŷ 3 [1] [2,22] ib T5,ŷ 14 [1,23,24] [2,25] vi T5,ŷ 26 [1,5,6,23,24,25] [2,48] ib T5,ŷ 36 [1,6,23,24,25,51,52] [2,53] vi T5]) jM
def Dq:=ź ajq [] [V?] [] (dF [ŷ 3 [1,2] [3,21] ib T5,ŷ 13 [1,2] [3,7,8,60] Bl Ld9,ŷ 24 [1,67,68] [3,7,8,69] EP Ld9,ŷ 51 [] [6] [V?] []]) kg
def Cn:=ź ajq [] [V?] [] (dF [ŷ 5 [1,2,7] [3,43] ib T5,ŷ 16 [7,50,51] [52] [V!] [],ŷ 27 [7,50,51,52] [64] [V?] []]) jN
def Bi:=ź [Ĥ,û] [] [V?] [] (dF [ŷ 4 [] [4] [V?] []]) iR
def Cl:=ź [Ĥ,û] [] [V?] [] (dF [ŷ 9 [] [4] [V?] [],ŷ 15 [] [4] [V?] [],ŷ 21 [] [4] [V?] [],ŷ 27 [] [4] [V?] []]) jL
def Xg:=ź [Ô,û] [] [V?] [] (dF [ŷ 4 [] [4] [V?] []]) ot
def Zp:=ź anr [] [V?] [] (dF [ŷ 2 [] [6] [V?] []]) sY
def Xf:=ź anr [] [V?] [] (dF [ŷ 2 [] [6] [V?] []]) oq
def PL:=ź [Ô,ò,û] [] [V?] [] (dF [ŷ 9 [] [6] [V?] [],ŷ 19 [31,32] [3,4,33] wB ans,ŷ 40 [31,32,33] [3,4,69] pR ans,ŷ 56 [] [6] [V?] [],ŷ 64 [] [6] [V?] []]) pM
def Xh:=ź [Ô,ò,û] [] [V?] [] (dF [ŷ 2 [] [6] [V?] []]) ri
def s_:=ź [V!] [] [V?] [] .leaf gh
def uJ:=ź [Ú,ĸ,V!,V?,V?] ajr [Ù,Ö] ajs (dF [ŷ 3 [1,2,3,4,10,11] [0,28] [Ú,V?] ajr,ŷ 12 [2,3,4,10,11,13] [0,1,12] [Ú,ĸ,À] as8,ŷ 50 [3,4,10,11,17] [0,1,12,13] [Ú,ĸ,À,V!] as8,ŷ 68 [4,10,11] [0,12,13] [Ú,À,V!] as8,(82,(.a [.nil 10 5 (.int .u8)]))]) fB
def uK:=ź [Ú,ĸ,V!] ajr [Ù] ajs (dF [(28,(.a [.nil 6 5 (.int .u8)]))]) gT
def ve:=ź (Ú::Ő) ajr [Ù] ajs (dF [(1,(.a [.qz 0 0])),ŷ 4 [2] [0,7] [Ù,ĸ] ajs,(14,(.a [.nil 6 5 (.int .u8)]))]) hZ
def EE:=ź (Ú::Ő) ajr [Ù] ajs (dF [(4,(.a [.nil 6 5 (.int .u8)]))]) kE
def Po:=ź [V!,X!] [.C 22 [Ù],Û] [] [.C 22 [Þ],ÿ,Û] .leaf d5
def Pn:=ź [V?,X!] [ų,.C 22 [Þ],Û] [] [ų,.C 22 [Ý],ÿ,Û] .leaf gL
def Wm:=ź [ò,Y!] [] [Ö] [] (dF [(5,(.a [.ql 5 0 5 (.int .u8)])),ŷ 14 [1,31,32] [2,5,6,7,8,33] avz Ld6,ŷ 31 [41,42] [2,5,6,7,8,43] avz Ld6,ŷ 39 [41,42,43] [2,5,6,7,8] (Ŏ++[ķ,Ý]) Ld6,ŷ 50 [75,76] [2,5,6,7,77] ant Ld4,ŷ 68 [75,76,77,91,92] [2,5,6,7,93] ant Ld4,ŷ 88 [109,110] [2,5,6,7,111] ant Ld4,ŷ 105 [121,122] [2,5,6,7,123] ant Ld4,ŷ 126 [144] [5,6,7,145] [X!,À,.qv 74 [(1,0)],V!] aw0,ŷ 140 [144,145,148,149] [5,6,7,150] [X!,À,.qv 74 [(1,0)],V!] aw0]) tQ
def Il:=ź [V!,X!] Ld0 [V?] Ld0 .leaf oM
def Xk:=ź [Y!,Ĺ] Ld0 [V!] Ld0 (dF [ŷ 6 [0,7] [1,8] [Ĺ,V!] [ū]]) wQ
def N0:=ź [Y!,Ĺ] Ld0 [V?] Ld0 .leaf ov
def Nx:=ź [ò,û] [] [V?] [] (dF [ŷ 13 [] [4] [V?] [],ŷ 25 [] [4] [V?] [],ŷ 31 [] [4] [V?] []]) oc
def Kz:=ź [Ô,ò] [] ZL [] (dF [Ÿ 8 [14] [2,3,5,15] as7 avy [.nil 5 99 iK],ŷ 16 [14,15] [2,3,5] [X!,À,Þ] avy,ŷ 33 [6,14,15,33,34] [2,3,5,7,8,35] [X!,À,Þ,Î,V?,V!] as9,ŷ 41 [6,14,15,33,34,35] [2,3,5,7,8] [X!,À,Þ,Î,V?] as9,ŷ 44 [6,8,9,14,15,33,34,35] [2,3,5,7,54] [X!,À,Þ,Î,V?] as9]) mM
def GW:=ź [Ô] [] EO [] (dF [ŷ 8 [17] [1,3,18] Ao [ŧ,Ĝ],ŷ 27 [31,32] [1,3,5,33] [X!,Ù,Þ,V!] aw1,Ÿ 35 [31,32,33] [1,3,5] [X!,Ù,Þ] aw1 [.tak 5 0],ŷ 39 [6,31,32,33] [1,3,5,7,56] [X!,Ù,Þ,Î,V?] Ld1,ŷ 48 [6,31,32,33,61] [1,3,5,7,62] [X!,Ù,Þ,Î,V!] Ld1,ŷ 62 [6,31,32,33,61,62,65,66] [1,3,5,7,67] [X!,Ù,Þ,Î,V!] Ld1,ŷ 70 [6,31,32,33,61,62,65,66,67] [1,3,5,7] [X!,Ù,Þ,Î] Ld1,ŷ 75 [6,11,31,32,33,61,62,65,66,67] [1,3,5,7,91] [X!,Ù,Þ,Î,V?] Ld1]) li
def Ny:=ź [.d XO,Õ,X!,À,Í,Î,á,Ė] (Ŝ++[.C 96 [ñ],ô,ĝ]) [V?] (Ŝ++[.C 96 [Ğ],ô,ÿ,ĝ]) (dF [(1,(.a [.qz 7 0])),ŷ 12 [] [2,3,4,5,6,7,11,13] (Ŏ++[Î,á,Ė,.H 8 0,ė]) (ō++[İ,Ģ,ħ,.C 96 [.G 9],ô,ÿ,ū,ĝ]),ŷ 32 [] [] [] (ō++[İ,Ģ,ħ,.C 96 [Ğ],ô,ÿ,ĝ])]) oe
def Th:=ź [Ô,û] [] [ė,V?] [] (dF [ŷ 26 [] [2,3,6,8] (Ŏ++[Ý]) (ō++[Ģ,.qy 95 XO]),(37,(.a [.ql 9 0 95 XO])),(41,(.a [.mpt 35 .str .bool])),ŷ 46 [38] [2,3,6,9,10,12,37,39] (Ŏ++[Î,á,Ą,í,V!]) (ō++[Ģ,.C 96 [ñ],İ,.C 97 [.mp 8],.qy 95 XO,ĝ,ô]),ŷ 60 [38,39,46,47] [2,3,6,9,10,12,14,37,48] (Ŏ++[Î,á,Ą,.H 6 0,ñ,V!]) (ō++[Ģ,.C 96 [Ğ],İ,.C 97 [.mp 9],.C 95 [.d XO],.qy 95 XO,ĝ,ô])]) oN
def BJ:aM Pg 173 Wr:=mk _ _ (ac acv an) cf
def am1:aM Pg 46 G6:=mk _ _ an cf
def SX:aM Pg 46 arh:= @aM.sub Pg 46 G6.pre G6.post Sg xu am1 rfl (λx y h=>jY (b:=8) x y h)
def ahh:aM Pg 46 Cr:=mk _ _ an cf
def SS:aM Pg 46 an4:= @aM.sub Pg 46 Cr.pre Cr.post L6 p_ ahh rfl (λx y h=>jY (b:=8) x y h)
def HA x:pi (lQ x) (sR x):=by
 unfold lQ sR s7 Prod.n Prod.q Prod.p Prod.t Prod.v Prod.w Prod.y Prod.B Prod.C Prod.D bg Prod.E bA bQ cS ji RA Prod.p8 Prod.m Prod.F bV bX c7 aI cL;with_reducible repeat' first|apply OI.o;constructor|intro _
def HX:aM Pg 207 Ik:=OD yn lQ sR HA an cf
def ON x:pi (pI x) (xn x):=by
 unfold pI xn xz bq bV jr be c7 aI;with_reducible repeat' first|apply OI.o;constructor|intro _
def OY:aM Pg 146 Pm:=OD DH pI xn ON (ac HX an) cf
def Ya x:pi (j7 x) (Ef x):=by
 unfold j7 Ef vY bq bV bI be c7 aI cL;with_reducible repeat' first|apply OI.o;constructor|intro _
def Es:aM Pg 68 Zu:=OD Nu j7 Ef Ya an cf
def ng:aM Pg 71 PP:=mk _ _ (ac Es an) cf
def Kr:aM Pg 147 KL:=mk _ _ an cf
def Ks:aM Pg 97 KM:=mk _ _ (ac Kr an) cf
def C_ x:pi (iD x) (pn x):=by
 unfold iD pn pw bg bA bQ cS dt gz bq bV gV bX bI be c7 aI cL;with_reducible repeat' first|apply OI.o;constructor|intro _
def Di:aM Pg 95 Dt:=OD uW iD pn C_ an cf
def C9 x:pi (d6 x) (pm x):=by
 unfold d6 pm pu bg bA bQ bV bX bI mn be c7 aI cL;with_reducible repeat' first|apply OI.o;constructor|intro _
def Dh:aM Pg 96 Ds:=OD uV d6 pm C9 (ac OY an) cf
def C8 x:pi (gy x) (pl x):=by
 unfold gy pl lM bg bA cS dv bV gV bI be c7 aI cL;with_reducible repeat' first|apply OI.o;constructor|intro _
def Dg:aM Pg 98 Dr:=OD uU gy pl C8 an cf
def C' x:pi (iE x) (po x):=by
 unfold iE po pA bg bA cS dv bV bI be c7 aI cL;with_reducible repeat' first|apply OI.o;constructor|intro _
def Dj:aM Pg 37 Du:=OD uX iE po C' (ac Di (ac Dh (ac Ks (ac Dg an)))) cf
def OQ x:pi (pK x) (xp x):=by
 unfold pK xp xA bg bA bQ bY dt dv ck bV bX be c7 aI cL;with_reducible repeat' first|apply OI.o;constructor|intro _
def O_:aM Pg 39 PD:=OD DW pK xp OQ an cf
def Fv x:pi (eD x) (rC x):=by
 unfold eD rC rT bg bA bQ dt bV bX bI be c7 aI cL;with_reducible repeat' first|apply OI.o;constructor|intro _
def wT:aM Pg 15 GR:=OD w7 eD rC Fv (ac O_ an) cf
def vT:aM Pg 100 NJ:=mk _ _ an cf
def Kp:aM Pg 101 KF:=mk _ _ (ac vT an) cf
def R7 x:pi (jB x) (zD x):=by
 unfold jB zD rW bg bA bQ dt bV gV bI be c7 aI cL;with_reducible repeat' first|apply OI.o;constructor|intro _
def F5:aM Pg 99 Tv:=OD GA jB zD R7 (ac vT an) cf
def O8:aM Pg 102 PA:=mk _ _ (ac ng an) cf
def qe:aM Pg 50 KH:=mk _ _ (ac F5 (ac vT (ac Kp (ac O8 an)))) cf
def HW:aM Pg 49 Ii:=mk _ _ (ac F5 an) cf
def Em:aM Pg 51 ED:=mk _ _ an cf
def zC x:pi (gf x) (mo x):=by
 unfold gf mo mA bg bA bQ cS bY dt gz bq bV jr bX bI be c7 aI cL;with_reducible repeat' first|apply OI.o;constructor|intro _
def zQ:aM Pg 52 Ai:=OD r7 gf mo zC an cf
def Ec x:pi (gX x) (qG x):=by
 unfold gX qG mz bg bA bQ cS bY bq bV bI be c7 aI cL;with_reducible repeat' first|apply OI.o;constructor|intro _
def El:aM Pg 53 EC:=OD v8 gX qG Ec an cf
def DF:aM Pg 150 Pz:=mk _ _ an cf
def aho:aM Pg 47 Cu:=mk _ _ an cf
def SU:aM Pg 47 an6:= @aM.sub Pg 47 Cu.pre Cu.post L8 zI aho rfl (λx y h=>jY (b:=1) x y h)
def adb:aM Pg 47 yH:=mk _ _ an cf
def VD:aM Pg 47 ait:= @aM.sub Pg 47 yH.pre yH.post HM xZ adb rfl (λx y h=>jY (b:=1) x y h)
def ahe:aM Pg 48 Cp:=mk _ _ an cf
def SM:aM Pg 48 an2:= @aM.sub Pg 48 Cp.pre Cp.post L4 zH ahe rfl (λx y h=>jY (b:=24) x y h)
def ad4:aM Pg 48 yA:=mk _ _ an cf
def ahd:aM Pg 48 aim:= @aM.sub Pg 48 yA.pre yA.post HE L2 ad4 rfl (λx y h=>jY (b:=24) x y h)
def ahk:aM Pg 45 Ct:=mk _ _ an cf
def am0:aM Pg 45 an5:= @aM.sub Pg 45 Ct.pre Ct.post L7 FG ahk rfl (λx y h=>jY (b:=8) x y h)
def ad7:aM Pg 45 yD:=mk _ _ an cf
def ahj:aM Pg 45 aip:= @aM.sub Pg 45 yD.pre yD.post HI BA ad7 rfl (λx y h=>jY (b:=8) x y h)
def ada:aM Pg 66 yG:=mk _ _ an cf
def ahn:aM Pg 66 ais:= @aM.sub Pg 66 yG.pre yG.post HL BB ada rfl (λx y h=>jY (b:=16) x y h)
def OP x:pi (lA x) (xo x):=by
 unfold lA xo tD bg bY ck bV bX bI be c7 cL;with_reducible repeat' first|apply OI.o;constructor|intro _
def O9:aM Pg 103 PC:=OD DV lA xo OP (ac SX (ac VD (ac ahd an))) cf
def LS x:pi (kH x) (vD x):=by
 unfold kH vD rV bg bA bY ck bV jr mn be c7 aI cL;with_reducible repeat' first|apply OI.o;constructor|intro _
def Mt:aM Pg 108 NK:=OD Cb kH vD LS (ac DF an) cf
def Fz x:pi (im x) (rE x):=by
 unfold im rE nG bg bA bY dt ck bV mn be c7 aI cL;with_reducible repeat' first|apply OI.o;constructor|intro _
def F4:aM Pg 109 GZ:=OD xc im rE Fz (ac DF an) cf
def MA:aM Pg 273 NY:=mk _ _ an cf
def Pe:aM Pg 214 PO:=mk _ _ (ac MA an) cf
def H5:aM Pg 218 Iq:=mk _ _ an cf
def Mx:aM Pg 149 NS:=mk _ _ (ac H5 an) cf
def wv x:pi (gp x) (kU x):=by
 unfold gp kU kV ck bV mn c7 aI cL;with_reducible repeat' first|apply OI.o;constructor|intro _
def ww:aM Pg 208 wz:=OD ph gp kU wv (ac Pe an) cf
def C7 x:pi (j_ x) (pj x):=by
 unfold j_ pj pt bg bA bq jr bX aI;with_reducible repeat' first|apply OI.o;constructor|intro _
def Db:aM Pg 148 Dl:=OD uP j_ pj C7 (ac ww an) cf
def ad3:aM Pg 104 aec:=mk _ _ (ac Db (ac Mx an)) cf
def Sc x:pi (my x) (zE x):=by
 unfold my zE zY bq bV bX mn be c7 aI cL;with_reducible repeat' first|apply OI.o;constructor|intro _
def SK:aM Pg 105 TO:=OD GM my zE Sc an cf
def Aw:aM Pg 107 KI:=mk _ _ an cf
def LX x:pi (ou x) (vE x):=by
 unfold ou vE vZ bV mn be c7 aI cL;with_reducible repeat' first|apply OI.o;constructor|intro _
def MB:aM Pg 123 NZ:=OD Ci ou vE LX (ac Aw an) cf
def Kd x:pi (j8 x) (uy x):=by
 unfold j8 uy uF ck bq bV bX mn be c7 aI cL;with_reducible repeat' first|apply OI.o;constructor|intro _
def Kt:aM Pg 106 KN:=OD AO j8 uy Kd (ac Aw (ac MB an)) cf
def Mw:aM Pg 54 NQ:=mk oE io (ac qe (ac O9 (ac Mt (ac F4 an)))) cf
def tv1 (t:TypeId):M Ty:=if aB t 147 then Z (.pr .un (.pr .un (.pr .un (.pr .un dy)))) else cf t
def Mu:aM Pg 103 NL:=mk _ _ (ac SS (ac SU (ac SM an))) tv1
def Mv:aM Pg 54 NP:=mk _ _ (ac qe (ac Mu (ac ad3 (ac SK (ac Kt an))))) tv1
def xy:aM Pg 54 PH:=(aM.orE (pre:=oE.pre) (post:=oE.post) (m:=io) (m':=lU) rfl Mw Mv)
def yc:aM Pg 19 Ij:=mk _ _ (ac ahj (ac SS (ac HW (ac qe (ac Em (ac zQ (ac El (ac xy an)))))))) cf
def AZ x:pi (eQ x) (nv x):=by
 unfold eQ nv kO ji tb bV jr AY bX bI be c7 aI cL;with_reducible repeat' first|apply OI.o;constructor|intro _
def Ba:aM Pg 38 Bg:=OD sI eQ nv AZ an cf
def tv2 (t:TypeId):M Ty:=if aB t 47 then Z (.pr .bool (.pr (.st (.st (.st (.st .un)))) nX)) else cf t
def Fw x:pi (il x) (rD x):=by
 unfold il rD nE bg bA bQ cS dt gz ck bq bV AY bX bI be c7 aI cL;with_reducible repeat' first|apply OI.o;constructor|intro _
def FY:aM Pg 14 GU:=OD w9 il rD Fw (ac wT (ac yc (ac Dj (ac2 3932225574 rfl Ba an)))) tv2
def ad8:aM Pg 40 yE:=mk _ _ an cf
def ahl:aM Pg 40 aiq:= @aM.sub Pg 40 yE.pre yE.post HJ FH ad8 rfl (λx y h=>jY (b:=48) x y h)
def ad6:aM Pg 41 yC:=mk _ _ an cf
def ahi:aM Pg 41 aio:= @aM.sub Pg 41 yC.pre yC.post HH FF ad6 rfl (λx y h=>jY (b:=24) x y h)
def ad9:aM Pg 42 yF:=mk _ _ an cf
def ahm:aM Pg 42 air:= @aM.sub Pg 42 yF.pre yF.post HK FI ad9 rfl (λx y h=>jY (b:=24) x y h)
def ahg:aM Pg 43 Cq:=mk _ _ an cf
def alz:aM Pg 43 an3:= @aM.sub Pg 43 Cq.pre Cq.post L5 CS ahg rfl (λx y h=>jY (b:=16) x y h)
def ad5:aM Pg 44 yB:=mk _ _ an cf
def ahf:aM Pg 44 ain:= @aM.sub Pg 44 yB.pre yB.post HG FE ad5 rfl (λx y h=>jY (b:=24) x y h)
def FX:aM Pg 16 GP:=mk _ _ (ac ahl (ac ahi (ac ahm (ac alz (ac ahf an))))) cf
def BH:aM Pg 17 Ck:=mk _ _ (ac am0 (ac SX (ac SU (ac SM an)))) cf
def Ek:aM Pg 18 EB:=mk _ _ (ac SX an) cf
def OX:aM Pg 6 Pk:=mk _ _ (ac FY (ac wT (ac FX (ac BH (ac Ek (ac yc an)))))) cf
def Kq:aM Pg 60 KJ:=mk _ _ (ac SX (ac SU (ac SM an))) cf
def SE:aM Pg 61 Tz:=mk _ _ an cf
def SH:aM Pg 23 TA:=mk _ _ (ac Kq (ac SE an)) cf
def wW:aM Pg 65 W_:=mk _ _ (ac ng an) cf
def F6:aM Pg 67 TB:=mk _ _ an cf
def vU:aM Pg 64 NR:=mk _ _ (ac qe (ac wW (ac F6 an))) cf
def Vu:aM Pg 63 W7:=mk _ _ an cf
def Vv:aM Pg 26 W9:=mk _ _ (ac SS (ac VD (ac xy (ac Vu (ac vU (ac wW (ac ahn (ac F6 an)))))))) cf
def SJ:aM Pg 175 TJ:=mk _ _ an cf
def Vy:aM Pg 176 Xe:=mk _ _ an cf
def Pd:aM Pg 30 PN:=mk _ _ (ac xy an) cf
def kN:aM Pg 78 Bh:=mk _ _ an cf
def rj:aM Pg 125 yz:=mk _ _ (ac SJ an) cf
def De:aM Pg 75 Dp:=mk _ _ (ac kN (ac rj an)) cf
def Bc:aM Pg 126 Bj:=mk _ _ (ac ng (ac Vy an)) cf
def BN:aM Pg 76 Cm:=mk _ _ (ac kN (ac Bc an)) cf
def Df:aM Pg 77 Dq:=mk _ _ (ac kN an) cf
def BO:aM Pg 79 Cn:=mk _ _ an cf
def Bb:aM Pg 80 Bi:=mk _ _ (ac rj an) cf
def BL:aM Pg 31 Cl:=mk _ _ (ac De (ac BN (ac Df (ac kN (ac BO (ac Bb an)))))) cf
def BP:aM Pg 10 Xg:=mk _ _ (ac Pd (ac BL an)) cf
def Mz:aM Pg 122 Zp:=mk _ _ (ac wW an) cf
def Vz:aM Pg 121 Xf:=mk _ _ (ac vU (ac Mz an)) cf
def Pc:aM Pg 62 PL:=mk _ _ (ac Es (ac ng (ac Vz (ac Mz an)))) cf
def Ja:aM Pg 24 Xh:=mk _ _ (ac BP (ac Pc an)) cf
def s5:aM Pg 292 s_:=mk _ _ an cf
def uC:aM Pg 250 uJ:=mk _ _ (ac s5 an) cf
def uD:aM Pg 174 uK:=mk _ _ (ac uC an) cf
def u9:aM Pg 124 ve:=mk _ _ (ac uD an) cf
def En:aM Pg 73 EE:=mk _ _ (ac u9 an) cf
def DC:aM Pg 72 Po:=mk _ _ (ac En an) cf
def OZ:aM Pg 74 Pn:=mk _ _ (ac DC an) cf
def U4:aM Pg 28 Wm:=mk _ _ (ac DC (ac OZ an)) cf
def HY:aM Pg 70 Il:=mk _ _ (ac ng an) cf
def VB:aM Pg 123 Xk:=mk _ _ (ac HY an) cf
def MC:aM Pg 69 N0:=mk _ _ (ac2 4653179 rfl VB an) cf
def Mm:aM Pg 27 Nx:=mk _ _ (ac Es (ac MC (ac ng an))) cf
def Kl:aM Pg 29 Kz:=mk _ _ (ac vU (ac wW an)) cf
def tv3 (t:TypeId):M Ty:=if aB t 41 then Z (.pr .bool (.pr (.st (.st (.st .un))) (.sl aP))) else cf t
def FZ:aM Pg 22 GW:=mk _ _ an tv3
def Mn:aM Pg 25 Ny:=mk _ _ (ac Ja (ac Vv (ac Mm (ac U4 an)))) cf
def Sq:aM Pg 9 Th:=mk _ _ (ac BP (ac FZ (ac SH (ac Ja (ac Mn (ac Kl an)))))) cf
abbrev Le0:Y PB:=[ŧ,Ļ]
abbrev Le1:Y PB:=ō
abbrev Le2:Y PB:=[ÿ,X?,ŧ]
abbrev Le3:Y PB:=[X?,ŧ]
abbrev Le4:Y PB:=(ō++[Ţ])
abbrev Le5:Y PB:=(ō++[Ţ,Ţ])
abbrev Le6:Y PV:=[Ô,û]
def Wq:=ź [Â] [] [V?] [] (dF [ŷ 2 [] [2] [V?] []]) md
def Pq:=ź [Â,Â] [] [V?] [] (dF [ŷ 2 [] [4] [V?] []]) kn
def Wp:=ź (Ô::Ő) [] [V?] [] (dF [ŷ 18 [30] [3,7,8,9,31] yO [ŧ,Ţ,Ţ,Ū],ŷ 25 [] [6] [V?] []]) lj
def amq:=ź Bk [] [V?] [] (dF [ŷ 2 [] [4] [V?] []]) wM
def adt:=ź Le6 [] [V?] [] (dF [ŷ 4 [] [4] [V?] []]) xQ
def Pp:=ź Le6 [] [V?] [] (dF [ŷ 5 [5] [2,3,37] pR Le1,ŷ 16 [5] [2,3,6] wB Le1,ŷ 37 [5] [2,3,7] wB Le1,ŷ 47 [5,7] [2,3,85] pR Le1,ŷ 57 [5,7] [2,3,8] wB Le1]) pJ
def adu:=ź Le6 [] [V?] [] (dF [ŷ 5 [] [2,3,5,6,70] yO Le5,ŷ 16 [] [2,3,5,6,7] (Ŏ++[Î,V!]) Le5,ŷ 35 [] [4] [V?] []]) xR
def Wo:=ź Le6 [] [V?] [] (dF [ŷ 3 [] [2,3,27] pR Le1,ŷ 13 [] [2,3,5,82] Bl Le4,ŷ 24 [] [2,3,5,9] EP Le4,ŷ 33 [9] [2,3,5,108] Bl Le4]) tR
def YX:=ź Le6 [] [V?] [] (dF [ŷ 13 [] [2,3,40] pR Le1]) qJ
def xa:=Ź [Ô,Y!,Ú] [X?] [Ù] [ÿ,X?] (dF [(1,(.a [.qz 2 0])),ŷ 2 [1] [2,3] [Ù,Í] Le2,(14,(.a [.nil 6 41 (.sl aP)])),ŷ 20 [1] [2,3,7] [Ù,Í,V!] Le2,ŷ 28 [1,7] [2,3] [Ù,Í] Le2,ŷ 29 [1,7] [2,3,47] [Ù,Í,V?] Le2,(37,(.a [.nil 6 41 (.sl aP)]))])
def Wn:cr:=cn xa Bx
def U1 (n:Nat):cr:=cn xa (oz n)
def Ti:=ź [Ô,Y!,Ä] [] [Ú] [X?] (dF [(1,(.a [.nil 2 41 (.sl aP)])),ŷ 2 [1] [2,3] [Ú,À] Le3,(14,(.a [.nil 6 41 (.sl aP)])),ŷ 20 [1] [2,3,7] [Ú,À,V!] Le3,ŷ 28 [1,7] [2,3] [Ú,À] Le3,ŷ 29 [1,7] [2,3,47] [Ú,À,V?] Le3,(37,(.a [.nil 6 41 (.sl aP)]))]) rF
def ai6:=ź [Ô,Ú,û] [Ļ] [Ù] [ÿ,Ļ] (dF [(1,(.a [.qz 1 0])),(8,(.a [.nil 6 43 Hb])),(12,(.a [.nil 6 43 Hb]))]) vF
def adv:=ź [Ô] [] [.d (.sl Hb)] [] (dF [(5,(.a [.nil 3 43 Hb])),ŷ 10 [4] [1,3,5] Ao Le0,ŷ 22 [4,5] [1,3,6] Ao Le0,ŷ 38 [4] [1,3,7] Ao Le0,ŷ 52 [4,7] [1,3,8,9] [X!,Ù,Þ,V!] [ŧ,Ļ,X?],ŷ 68 [4] [1,3,10] Ao Le0,ŷ 80 [4,10] [1,3,11] Ao Le0,ŷ 96 [4] [1,3,12] Ao Le0,ŷ 108 [4,12] [1,3,13] Ao Le0,ŷ 116 [4,12,13] [1,3] [X!,Ù] Le0,ŷ 118 [4,12,13] [1,3,116] [X!,Ù,V?] Le0,ŷ 126 [4,12,13] [1,3,14] Ao Le0,ŷ 138 [4,12,13,14] [1,3,15] Ao Le0]) xS
def Dm:=ź [Ô,.d (.int .u16)] [] [û,V?] [] .leaf ka
def YV:cr:=⟨⟨[],[]⟩,⟨[V?],[]⟩,sS⟩
def Dn:=ź [ĩ,ĩ] [] [V?] [] (dF [ŷ 2 [] [4] [V?] []]) kc
def wa:=ź [ĩ,ĩ,Ę,Ę,.d (.int .u16)] [] [V?] [] (dF [ŷ 19 [3,4,12,13,15] [64] [V?] [],ŷ 41 [12,15,17,20] [18,97] ib [.C 43 [û]],ŷ 52 [15,17,20,22] [23] [X!] [.C 43 (Ŗ++[Y!])],Ÿ 59 [15,17,20,22] [18,23,24] wB [.C 43 [û],.C 43 (Ŗ++[Þ]),Ñ] [.ql 23 5 3 aP],ŷ 79 [] [10] [V?] []]) fU
open Go.Shelf
def rnI:Ren:=⟨λk=>if aB k 217 then 274 else 301,λt=>t,λg=>g⟩
def aai:Lays.n217 Pg rnI:=⟨by kernel_rfl,by kernel_rfl,by kernel_rfl,by kernel_rfl,Tryz.isAgg3,Tryz.sizeOf3,Tryz.zeroValue3,by kernel_rfl,Tryz.isAgg5,Tryz.sizeOf5,Tryz.zeroValue5,by kernel_rfl,Tryz.isAgg9,Tryz.sizeOf9,Tryz.zeroValue9⟩
def IX:wg:=λf args h nx=>match aB f 274 with
 |true=>(match args with
  |[.f (.raw (.string s)),.f (.raw (.int .u8 c))]=>Z ⟨raw (.int .i64 (Lib.indexByte s.data.toList c.toNat.toUInt8)),h,nx,0⟩
  |_=>U)
 |false=>U
def axd:Ar Pg IX:=λf args h nx r q=>by
 unfold IX at q;split at q
 .rename_i hf;have hf:=ar hf;subst hf;split at q
  .rename_i s c;cases q;refine ⟨⟨_,aai.f217,rfl,by kernel_rfl⟩,λ_ _=>rfl,λi hi=>by simp at hi,bi _,λφ E w vs hrep hrel _=>?_⟩
   match vs,hrel with
   |[u,v],⟨h1,h2,_⟩=>
    rw[dJ h1,dJ h2];refine (Any.stringslite_IndexByte aai s c w).mono ?_;rintro e w' ⟨rfl,rfl⟩;exact⟨_,φ,rfl,iv.refl _ _ _,hrep,.f (.raw _),λ_ _ h=>.inl h⟩
  .cases q
 .cases q
def awk:afx (AQ Pg) IX inert 1000 50 7 [] PT.leaf 0=Z ⟨raw (.bool J),.leaf,0,0⟩:=by kernel_rfl
def Yq:aM Pg 7 YV:=(SD (T:=.bool) (v:=J) (Ea aqx (λ_ _ h=>NI h) axd Mj _ _ _ _ _ _ awk) sS (λ_ y h=>by cases h;rfl)).toC rfl
def I2:aM Pg 59 Wq:=mk _ _ an cf
def DE:aM Pg 245 Pq:=mk _ _ (ac I2 an) cf
def BI:aM Pg 120 Wp:=mk _ _ (ac yd (ac BJ an)) cf
def aat:aM Pg 169 amq:=mk _ _ an cf
def acs:aM Pg 170 adt:=mk _ _ (ac DE an) cf
def O0:aM Pg 168 Pp:=mk _ _ (ac BI (ac aat an)) cf
def act:aM Pg 171 adu:=mk _ _ (ac BJ an) cf
def U6:aM Pg 172 Wo:=mk _ _ (ac BJ (ac DE an)) cf
def Eo:aM Pg 118 YX:=mk _ _ (ac O0 (ac aat (ac acs (ac act (ac U6 an))))) cf
def Ga:∀n:Nat,aM Pg 58 (U1 n)
 |0=>OR xa
 |n+1=>mk xa (uh (oz n)) (ac (Ga n) (ac Eo (ac yd (ac BI an)))) cf
def U5:aM Pg 58 Wn:=(Ga fZ)
def Sr:aM Pg 58 Ti:=mk _ _ (ac U5 (ac Eo (ac yd (ac BI an)))) cf
def aha:aM Pg 57 ai6:=mk _ _ (ac Eo an) cf
def acu:aM Pg 21 adv:=mk _ _ (ac aha (ac I2 (ac2 3997696058 rfl Sr an))) cf
def Dc:aM Pg 8 Dm:=mk _ _ (ac acu an) cf
def Dd:aM Pg 4 Dn:=mk _ _ an cf
def hinterleavetop_SearchWider:aM Pg 3 wa:=mk _ _ (ac Dd (ac Vx (ac OX (ac Yq (ac Dc (ac Sq (ac BP an))))))) cf
variable {f:FuncId} {K:Y AV} {w:World} {E:ξ}
def run_law {P:Program} {pre:Tm} {m:pre.ty.den->M (Tm.ty ⟨[.d .bool],[]⟩).den} (sp:pT P f ⟨pre,⟨[.d .bool],[]⟩,m⟩) (h0:l! pre.bs=0) {x:pre.ty.den} (hx:m x=Z J) {vs:Y TV} {hp:bf} (hi:DB pre x=Z (vs,hp)) (hla:cO hp vs=Z K)
 (hg:∀g cells,G g=Z cells->nA (λ_=>False) w (.H cells 0) (.pointer (Z ⟨g,0,U⟩))) (hrel:jR (λ_=>U) (λ_=>False) w K E):
 Calls P f E.toArray w λe w'=>e= .returned (.bool J)/\Below w.heap.size w w':=by
 let⟨l1,I⟩:=ya hi;let⟨l2,y⟩:=ya (t:=⟨[.d .bool],[]⟩) (x:=J) (vs:=[.f .bool J]) (h1:=PT.leaf) rfl;have N:erHF hp=λ_=>U:=by
  funext n;cases hb:erHF hp n with
  |none=>rfl
  |some b=>
   let⟨c,h1,_⟩:=iH hb;have:=I.lt_len h1;omega
 have own0:∀(φ:PM) k,¬own φ (erHF hp) k:=by rintro φ k ⟨i,b,h1,_⟩;rw[N]at h1;cases h1
 have htot:tot (λ_=>False) (λ_=>U) (erHF hp)=λ_=>False:=by
  funext k;exact propext ⟨λh=>h.elim id λh=>bc h (own0 _ k),λh=>h.elim⟩
 refine Calls.mono (sp.calls x J hx vs hp l1 _ PT.leaf l2 K _ I y hla rfl (λ_=>U) (λ_=>False) w E ⟨(λi j b b' k h1=>by rw[N]at h1;cases h1),(λi b h1=>by rw[N]at h1;cases h1),(λk h=>h.elim),(λg cells h=>by rw[htot];exact hg g cells h)⟩ (by rw[htot];exact hrel) (λn k h=>by cases h)) ?_;rintro en w' ⟨v,φ',rfl,he,_,_,_,D⟩;refine ⟨?_,⟨he.os,he.tape,he.output,he.size,λk hk=>he.jv k hk (own0 _ k)⟩⟩;have D:cG φ' _ w' (.f (.raw (.bool J))) v:=D;cases D with
 |f h=>cases h;rfl
def gKw:Tryz.prog.globalNamed "interleave/token.keywords" =Z 0:=by kernel_rfl
def tKw:(Tryz.prog.globals[0]?).map (·.type)=Z 347:=by kernel_rfl
def kw_of_laid (h:laidMetH Tryz.prog [("interleave/token.keywords",Rows.laid_interleave_token_keywords)] w):∀g cells,G g=Z cells→nA (λ_=>False) w (.H cells 0) (.pointer (Z ⟨g,0,U⟩)):=by
 intro g cells N;unfold G at N;split at N
 .rename_i hg;have hg:=eq_of_beq hg;subst hg;cases N;rw[MakeChecks.laidMetH_plain _ _ _ (by kernel_rfl)]at h;let⟨ps,⟨g0,t0,cs0,f0,p0,q0,I,ht0,hv0,hd0,_,_⟩,_,_⟩:=h;obtain rfl:=fP (gKw.symm.trans I);obtain rfl:=fP (tKw.symm.trans ht0);obtain⟨xs,m1,rfl,A,hlen,hn,hel⟩:=DataW.trod_array Tryz.underlying347 hd0;have c1:Tryz.prog.cellsOf 9=1:=by kernel_rfl
  have c22:Tryz.prog.cellsOf 347=22:=by kernel_rfl
  rw[c22]at hlen;simp only[aV,Rows.laid_interleave_token_keywords,DataW.agg.injEq]at A;have hxs:=A.1;have hcell:∀j,j<22→∃l,(xs.map (·.1))[j]? =Z (.lit (.string l))∧w.cell? ⟨0,j,U⟩=Z (.string ⟨l.toArray⟩):=λj D=>by
   have h1:=hel j D;rw[c1,He]at h1;rw[aL (by omega)]at h1;let⟨s,e1,e2,_⟩:=DataW.trod_string Tryz.underlying9 h1;refine ⟨s.data.toList,?_,?_⟩
   .rw[bL,aL (by omega),bS,e2]
   .have:=World.var?_cell I hv0 j;rw[this];have h2:cs0.toList[j]? =Z (.string s):=by
     have:((cs0.toList.drop j).take 1)[0]? =Z (.string s):=by rw[e1];rfl
     rw[dG,aK (by omega),iz]at this;simpa using this
    rw[← ep,h2]
  have hb:0<w.heap.size:=by
   let⟨l,_,h2⟩:=hcell 0 (by omega);exact World.block_lt_of_cell? w _ h2
  refine .H FJ 0 0 0 (λj=>(w.cell? ⟨0,j,U⟩).getD undef) (λh=>h) hb (λx q=>?_) (λj D=>?_) (λj x q=>?_)
  .simp only[FJ,bk,cI,gH]at q;rcases q with rfl|rfl|rfl|rfl|rfl|rfl|rfl|rfl|rfl|rfl|rfl|rfl|rfl|rfl|rfl|rfl|rfl|rfl|rfl|rfl|rfl|rfl<;>rfl
  .obtain⟨l,_,h2⟩:=hcell j D;rw[b9,h2];rfl
  .have D:j<22:=(bH.1 q).1;let⟨l,h1,h2⟩:=hcell j D;rw[← hxs]at h1;have:x= .raw (.string ⟨l.toArray⟩):=by
    rcases j with _|_|_|_|_|_|_|_|_|_|_|_|_|_|_|_|_|_|_|_|_|_|j;all_goals first|(simp only[List.getElem?_cons_zero,List.getElem?_cons_succ,af,DataW.lit.injEq,Lit.string.injEq,FJ]at h1 q;subst h1 q;rfl)|omega
   rw[this,h2];exact .raw _
 .cases N
end
end Go.Proofs.YtmmgdigihgnnnaaGreatDoor.AI
