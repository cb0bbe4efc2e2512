/-
  Texts of the proof, part 6 of 6: what is used to prove the statement. No condition.
-/
import Derived.Test.YtocjfbiifiaagaaGreatDoorShbSchedulesQ4
import Derived.Test.YtocjfbiifiaagaaGreatDoorRows
import Derived.LaidMore
namespace Go.Proofs.YtocjfbiifiaagaaGreatDoor.AI
open Go.RowKit
set_option maxRecDepth 100000
set_option maxHeartbeats 4000000
set_option linter.unusedVariables false
set_option linter.unusedSimpArgs false
set_option linter.defProp false
open _root_.Bool renaming true→J,false→af
open _root_.List renaming length→l!,getElem?_cons_zero→h_,getElem?_cons_succ→BE
open _root_.Nat renaming beq→aA,mul_one→HO
open _root_.Option renaming some→Z,none→U,map_some→bw
open _root_.Prod renaming a→be,b→bA,c→bM,d→ct,e→cE,h→c_,g→dF,f→fe,j→gy,i→kZ,o→rY,n→vq,k→vu,m→zW,l→Ac,s→HN,v→Lu,q→Pk
noncomputable section
abbrev avy:Y PV:=[ñ,í,Þ,ä,ô,ç,Ê,é,ċ]
def Ř:Y PB:=(.G 87 avy::ř)
abbrev Ld0:Y PB:=(Ř++[ì])
abbrev Ld7:Y PV:=(ŝ++[Ê,Ê])
def ĵ:PB:=.G 69 Ld7
abbrev Ld8:Y PV:=ő
def ł:PB:=.G 31 Ld8
def Ő:Y PB:=(ł::ĵ::.G 87 [ä,ô,ç,é,ċ,ğ,Ê,Ĝ,ü]::.G 54 sW::ř)
abbrev Ld1:Y PB:=(ĵ::.G 87 [Þ,ä,ô,ç,é,ċ,Ê,ğ,Ĝ]::ł::ř)
abbrev Ld2:Y PB:=(Ř++[ì,ĵ])
abbrev Ld3:Y PB:=[ě,Ñ,Ú,.G 52 Lq]
abbrev Ld4:Y PB:=[ě,Ñ,Ú]
abbrev Ld5:Y PB:=[Ū,ŧ,.G 253 [.d Kd1]]
abbrev Ld6:Y PB:=[Å]
abbrev Ld9:Y PB:=[Å,ų]
abbrev aAa:Y PB:=[Ũ,.G 52 [ä,Z?,ô,ç],ų,ú,ě,Ñ,Ú]
abbrev UM:Y PB:=[ì]
abbrev aA9:Y PB:=[ú,Ŷ,ě,Ŀ,.H 111 af hP]
abbrev amy:Y PB:=[Â]
abbrev Yv:Y PV:=[å,Z?]
abbrev avx:Y PB:=[Â,ì]
abbrev ahw:Y PB:=[ŧ]
abbrev avw:Y PV:=[Ã,Ë,í,Z?]
abbrev avv:Y PV:=Ŏ
def ahk:=ſ O9 [] [Z?] [] (dL [ż 3 [0,1] [12] [À] []]) kl
def Kr:=ž [Ê,Ê] [] sW [] (dL [ż 8 [0,1,14] [5,15] Yv UM])
def X':ci:=cn Kr j_
def aq7:=ſ O9 [] [Z?] [] (dL [ż 3 [0,1] [12] [À] []]) Tb
def Hr:=ſ sW [] sW [] .leaf Th
def aux:ci:=⟨Hr.pre,Hr.post,At⟩
def On:=ž [è] [] [å] amy (dL [ż 8 [9,10] [3,11] Yv amy])
def abc:ci:=cn On iK
def CS:=ſ sW [] [å] Ld6 (dL [(8,(.a [.nil 2 3 aN])),(12,(.a [.nil 2 3 aN]))]) MJ
def aqn:ci:=⟨CS.pre,CS.post,qQ⟩
def abd:=ſ [Ń] [] [.agg [å,ñ,í,Þ,ä,ô,Ê,ç,é]] ř .leaf tH
def ahf:=ſ Yv amy sW amy (dL [ż 3 [1] [0,12] [å,À] amy]) vN
def abe:=ſ avv Ld1 [è] Ld1 (dL [ż 18 [6] [0,1,2,25] C1 Ld1]) tI
def RX:=ž [Ð] [] [Ń] [] (dL [ż 8 [40] [2,3,41] uK [.G 87 (Ô::Ô::Ô::Ô::Ŝ),.G 87 [í,Þ,ä,ô,ç,é,Ô,ċ,ğ],Â,Â,Â,Â,Â,Â,Â,ì]])
def ahi:ci:=cn RX pq
def X_:=ſ O9 [] [å] UM (dL [ż 4 [0,1,5] [6] [À] [],ż 6 [0,1,6] [5] [Z?] [],ż 16 [] [7] [å] UM,ż 17 [1] [7,33] [å,À] UM]) rJ
def zF:=ž [å] UM sW UM .leaf
def am6:ci:=cn zF yO
def aqm:ci:=⟨zF.pre,⟨zF.post.vs,[]⟩,xt⟩
def Dv:=ž [Ê,å] UM sW UM (dL [ż 8 [0,14] [1,5,15] [å,ñ,Z?] [ì,ì]])
def aqk:ci:=cn Dv vB
def auw:ci:=⟨Dv.pre,⟨Dv.post.vs,[]⟩,Fe⟩
def abb:=ſ [å,Z?,ñ] avx [] avx (dL [ż 0 [1] [0,2,13] [å,ñ,À] avx]) mK
def aly:=ſ [Ã,Z?,ğ] Ld0 [] Ld0 .leaf yL
def RU:=ž [Ð,Ã,Ï,ğ] Ld0 [] Ld0 (dL [ż 6 [] [] [] Ld0,ż 11 [20] [1,3,4,6,32] [Ã,ğ,.K 10 0,.K 11 0,À] (Ř++[ì,ł,ĵ]),ż 48 [] [1,3,6,129] [Ã,ğ,.K 10 0,À] Ld2,ż 59 [141] [1,3,6,140,142] [Ã,ğ,.K 10 0,ċ,Z?] Ld2,ż 67 [141,142] [1,3,6,140] [Ã,ğ,.K 10 0,ċ] Ld2])
def ahg:ci:=cn RU rG
def Xi:=ž [Ð,Ń,Ï] [] [Ń,å] UM (dL [ż 14 [22,23] [3,5,6,7,24] (Ŏ++[ß,Z?]) Ő])
def alz:ci:=cn Xi uA
def zu:=ž [æ] [] [À] [] (dL [ż 6 [0,5] [6] [Z?] []])
def IX:ci:=cn zu l_
def Ee:=ž [æ] [] [À] [] (dL [ż 3 [0] [16] [À] [],ż 14 [] [18] [Ã] [ĸ],ż 24 [] [18] [Ã] [ĸ],ż 25 [3,4] [18,23] ij [ĸ],ż 29 [] [18,38] ij [ĸ]])
def Qg:ci:=cn Ee qB
def Ou:=ž O9 [] [Z?] [] (dL [ż 6 [0,1,7] [8] [Z?] []])
def abk:ci:=cn Ou tJ
def QF:=ſ O9 [] [À] [] .leaf lD
def QE:=ſ [Ê,á] [] [À] [] .leaf nL
def Lm:=ſ zQ [] [À] [] (dL [ż 2 [] [4] [À] []]) uS
def Ln:=ſ [Ð,Z?,À] [] [À] [] (dL [ż 2 [] [6] [À] []]) uT
def vo:=ž [Ă] [] [Ò,À] [] (dL [Ž 8 [0] [4,5] Yv [Õ] [.nil 4 9 .str],ż 15 [0] [4,5] Yv [Õ],ż 37 [0,5] [4,6,49] [å,Ë,À] [Õ,ĺ],ż 48 [0,5,51] [4,6,52] [å,Ë,Z?] [Õ,ĺ]])
def DZ:ci:=cn vo ip
def vn:=ž [Ð,Ò] [] [À] [] (dL [ż 10 [17,18] [2,5,19] Yw ahz,ż 27 [30,31] [2,5,32] Yw ahz,Ž 50 [52] [10,51,53] [.mp 0,ñ,Z?] [.mp .str .bool,Õ] [.mpt 10 .str .bool],Ž 62 [12,52,53] [10,51,64] [.mp 0,ñ,À] [.mp .str .bool,Õ] [.mpt 10 .str .bool]])
def DY:ci:=cn vn ec
def vm:=ž [Ð] [] [À] [] (dL [ż 8 [8,9] [1,3,4,10] (Ã::Z?::Œ) rU,ż 20 [3,4,8,9,10] [1,6,25] pD ť,ż 27 [8,9,10] [1,3,4,6] [Ã,Z?,Z?,Ë] ť])
def DX:ci:=cn vm gw
def vp:=ž [Ð] [] [À] [] (dL [ż 3 [] [1,34] ij rU,ż 11 [] [1,44] ij rU,ż 21 [] [1,58] ij rU,ż 32 [60,61] [1,62] xc rU])
def D2:ci:=cn vp iu
def Ev:=ž [Ð] [] [û] [] (dL [ż 8 [20] [2,3,21] uK aA9,ż 21 [] [2,3] [Ã,Ë] aA9])
def Qw:ci:=cn Ev qE
def xG:=ž [Ð] [] [â] [] (dL [ż 8 [22,23] [2,3,24] uK [ħ,.G 56 (ō++[í,Þ,ä]),.H 2 af aN,.H 2 af aN,ì]])
def Hj:ci:=cn xG fg
def OE:=ſ zQ [] [À] [] (dL [ż 2 [] [4] [À] []]) fA
def Li:=ſ (Ð::Œ) [] [À] [] (dL [ż 6 [2,7] [3,8] ij rU,ż 36 [2,7] [3,18] ij rU,ż 46 [2,7] [3,26] ij rU,ż 53 [] [6] [À] [],ż 56 [2,7] [3,43] ij rU,ż 71 [] [6] [À] [],ż 74 [2,7] [3,61] ij rU,ż 92 [2,7] [3,71] ij rU,ż 102 [2] [3,79] ij rU]) ng
def Hd:=ž [Ð,û] [] [À] [] (dL [ż 3 [] [2,31] ij rU,ż 14 [33,34] [2,35] xc rU])
def Un:ci:=cn Hd lq
def Qu:=ſ (Ð::û::Z?::Œ) [] [À] [] (dL [ż 15 [] [10] [À] [],ż 21 [] [10] [À] [],ż 24 [2,4,11] [5,6,60] pD ac3,ż 64 [2,4,11] [5,6,109] pD ac3,ż 81 [] [10] [À] [],ż 87 [] [10] [À] []]) qD
def Lj:=ſ (Ð::û::Z?::Œ) [] [À] [] (dL [ż 3 [2,3,4] [5,6,30] pD ac3,ż 25 [] [10] [À] [],ż 29 [] [10] [À] []]) kV
def IV:=ſ [Ð,â] [] [À] [] (dL [ż 2 [] [4] [À] []]) l8
def Fr:=ſ [Ð,Ï] [] [À] [] (dL [ż 3 [] [2,3,12] pD [Ũ,ŧ],ż 10 [] [4] [À] []]) mH
def sP:=ž [Ð,â,Ï] [] [À] [] (dL [ż 2 [] [4,5,7] pD Ţ,ż 4 [] [4,5,8] avv Ld5,ż 10 [51] [4,5,8,52] Bb Ld5,ż 22 [10,51,52] [4,5,8,64] C1 Ld5,ż 34 [51,52,65,66] [4,5,8,11,67] (Ŏ++Œ) Ld5,ż 46 [13,51,52,65,66,67] [4,5,8,83] C1 Ld5])
def AU:ci:=cn sP gh
def wM:=ž [â,Ï] [] [À] [] (dL [ż 21 [] [4] [À] [],ż 24 [13] [2,3,46] pD Ţ,ż 43 [53,54] [3,5,6,55] [Ã,Z?,À,Z?] ahw,ż 51 [53,54,55] [3,5,6] [Ã,Z?,À] ahw,ż 54 [5,6,7,53,54,55] [3,69] ij ahw,ż 62 [] [4] [À] [],ż 74 [94,95] [3,9,96] YA ahw,ż 82 [94,95,96] [3,9] xc ahw,ż 85 [9,94,95,96] [3,109] ij ahw])
def Fq:ci:=cn wM gJ
def Qt:=ſ [.d hP,Z?] [] [À] [] (dL [ż 2 [] [4] [À] []]) nJ
def CU:=ſ [õ] [] [õ] [] .leaf MM
def aqo:ci:=⟨CU.pre,CU.post,Tg⟩
def zJ:=ſ [õ] [] [å] [Ñ] (dL [(8,(.a [.nil 2 4 .bool])),(12,(.a [.nil 2 4 .bool]))]) Im
def am8:ci:=⟨zJ.pre,zJ.post,ML⟩
def CR:=ſ [Ö] [] [Ö] [] .leaf MI
def aql:ci:=⟨CR.pre,CR.post,Tf⟩
def zH:=ſ [Ö] [] [å] [Ú] (dL [(8,(.a [.nil 2 111 hP])),(12,(.a [.nil 2 111 hP]))]) Ik
def am5:ci:=⟨zH.pre,zH.post,MH⟩
def zI:=ſ sW [] [å] [Á] (dL [(8,(.a [.nil 2 2 aN])),(12,(.a [.nil 2 2 aN]))]) Il
def am7:ci:=⟨zI.pre,zI.post,Cd⟩
def Eu:=ž [û] [] [ĝ] Ld4 (dL [ż 8 [11,12] [1,2,3,13] avw [Ų,ú,ě]])
def Qv:ci:=cn Eu lB
def CG:=ž (ĝ::Œ) Ld4 [Z?] Ld4 (dL [ż 8 [1,2,12] [3,7,11,13] [ß,Z?,í,Z?] Ld3,ż 16 [1,2,12,13] [3,7,11] [ß,Z?,í] Ld3,ż 19 [1,2,7,8,12,13] [3,11,29] [ß,í,À] Ld3,ż 25 [7] [] [] Ld4])
def OF:ci:=cn CG kz
def xI:=ž [ĝ,Z?] Ld4 [Z?] Ld4 (dL [ż 8 [1,10] [2,5,9,11] [ß,Z?,í,Z?] Ld3,ż 16 [1,10,11] [2,5,9] [ß,Z?,í] Ld3])
def Hm:ci:=cn xI ie
def OQ:=ſ [Z?] [] [À] [] .leaf sD
def QD:=ſ zQ [] [À] [] (dL [ż 2 [] [4] [À] []]) x_
def I4:=ſ [.d (.int .u64)] [] [Z?] [] .leaf tF
def OK:=ſ [.d (.int .u64)] [] [Z?] [] .leaf ww
def pE:=ž (å::Œ) Ld6 [] Ld6 (dL [ż 3 [1,2] [0,6] Yv Ld6,ż 15 [1,2,6] [0,7] Yv Ld6,ż 17 [1,2,6,7] [0,30] [å,À] Ld6])
def w9:ci:=cn pE gp
def vj:=ž (å::Z?::Œ) Ld6 [] Ld6 (dL [ż 5 [] [0,1,2,3,8,9] [å,Z?,Z?,Z?,À,À] Ld6])
def DV:ci:=cn vj jQ
def ahl:=ſ [å] Ld6 [] Ld6 .leaf yN
def Hi:=ž [å] Ld6 [å] Ld6 (dL [ż 14 [] [0,3] Yv Ld6])
def Uy:ci:=cn Hi mL
def Lk:=ſ [Z?,Ã] [ų] [À] [ų] .leaf qP
def CM:=ž [å,ĕ] Ld9 [Z?] Ld9 (dL [ż 6 [7] [0,1,8] [å,ĕ,Z?] Ld9])
def OT:ci:=cn CM oP
def BA:=ž [å,ĕ] Ld9 [í] [Ğ,ų,ì] (dL [ż 16 [] [0,1,5,6] (å::ĕ::Œ) Ld9,ż 24 [6] [0,1,5] [å,ĕ,Z?] Ld9])
def Lo:ci:=cn BA jN
def oW:=ž (Ð::û::Z?::Z?::Œ) [] [û,Z?,À] [] (dL [ż 17 [] [7,12,15] uK [Ŷ,ú,ě,Ñ,Ú],ż 26 [4,5,15,27] [6,7,8,12,42] yl aAa,ż 34 [4,5,15,27] [6,7,8,12,51] yl aAa])
def OJ:ci:=cn oW ig
def OG:=ſ [û] [] [.agg [.qg 0 2 3,Z?,õ,Ö]] (.G 146 [Z?,ñ,Z?,í,Z?,Þ]::Ť) (dL [Ž 7 [] [1,2,3] [Ã,Ë,.qg 2 2 3] (Ų::ú::.G 146 [Z?,Þ,Z?,ä,Z?,ô]::Ť) [.qn 3 1 3 aN,.qn 3 3 3 aN,.qn 3 5 3 aN],(8,(.u 4))]) sB
def OH:=ſ (Ð::û::Z?::Z?::Œ) [] [û,Z?,À] [] (dL [ż 17 [] [7,12,15] uK [.G 52 [.qg 2 2 3,Z?,õ,Ö],ú,.G 146 [.d dO,.d dO,Z?,Þ],.qm 3 aN],ż 26 [4,5,15,27] [6,7,8,12,42] yl (Š++.G 146 [Z?,ô,Z?,ç,Z?,é]::Ť),(33,(.s 4 0 0 0)),ż 34 [4,5,15,27] [6,7,8,12,51] yl (Š++[.G 146 [Z?,Ê,Z?,Ê,Z?,ô],Å]),(41,(.s 4 0 0 0)),(46,(.s 4 0 0 3)),(53,(.s 4 0 0 3)),(74,(.s 4 0 0 0)),(80,(.s 4 0 0 0)),(100,(.a [.pk 7 0 dO]))]) md
def Qx:ci:=cn oW tY
def IW:=ſ [Ð,â,Ï] [] [â,À] [] (dL [ż 3 [] [3,4,5,6,39] yl Pc,ż 11 [] [3,4,5,6,70] yl Pc,ż 20 [] [3,4,5,6,8] (Ŏ++[ß,Z?]) Pc,ż 41 [] [5,6,12] avv aw0]) l9
def tf:=ž [.nr 0 1,.d gm] [ë] [À] [ë] (dL [ż 6 [13] [0,14] [.nr 0 1,.d aN] [ë],ż 20 [13,14,17,18] [0,19] [.nr 0 1,.d aN] [ë],ż 31 [13,14,17,18,19] [0,37] [.nr 0 1,.d .bool] [ë]])
def BL:ci:=cn tf eU
def xH:=ž [ö] [] zQ [] (dL [ż 26 [27,28] [1,4,5,29] avw (ś++[.qx (.rr 49 1) 3,ë]),ż 40 [6,27,28,29] [1,4,5,7,8,53] [Ã,Ë,í,ß,î,À] (ś++[.qx (.rr 49 1) 5,ŧ,Ū,ë]),Ž 47 [27,28,29] [1,4,5,8] [Ã,Ë,í,ß] (ś++[.qx (.rr 49 1) 4,Ū,ë]) [.tak 5 0]])
def Hk:ci:=cn xH ib
def Ot:=ž [ö] [] [è,Z?] [] (dL [ż 20 [25,26] [1,6,7,27] avw [Ű,.G 87 [Ń],Â]])
def abf:ci:=cn Ot rm
def ID:aL Pg 45 ahk:=mk _ _ an bY
def VP x:mW (j_ x) (B9 x):=by
 unfold j_ B9 xD ck bQ bV aZ cP aH cL;with_reducible repeat' first|apply OI.o;constructor|intro _
def Cp:aL Pg 23 X':=DK Kr j_ B9 VP (ac ID an) bY
def ape:aL Pg 28 aq7:=mk _ _ an bY
def apm:aL Pg 22 Hr:=mk _ _ an bY
def Z7:aL Pg 22 aux:= @aL.sub Pg 22 Hr.pre Hr.post Th At apm rfl (λx y h=>tR (b:=8) x y h)
def Zi x:mW (iK x) (E7 x):=by
 unfold iK E7 AD ck bQ wT bV aZ cP aH cL;with_reducible repeat' first|apply OI.o;constructor|intro _
def Z4:aL Pg 80 abc:=DK On iK E7 Zi (ac Z7 an) bY
def al4:aL Pg 22 CS:=mk _ _ an bY
def TN:aL Pg 22 aqn:= @aL.sub Pg 22 CS.pre CS.post MJ qQ al4 rfl (λx y h=>tR (b:=8) x y h)
def Nd:aL Pg 48 abd:=mk _ _ (ac TN (ac Z4 an)) bY
def aga:aL Pg 50 ahf:=mk _ _ an bY
def Nf:aL Pg 49 abe:=mk _ _ (ac aga an) bY
def afl x:mW (pq x) (Ig x):=by
 unfold pq Ig Dn be bA bM cE fe kZ rY ck bQ bV aZ cP aH cL;with_reducible repeat' first|apply OI.o;constructor|intro _
def Ro:aL Pg 20 ahi:=DK RX pq Ig afl an bY
def JI:aL Pg 51 X_:=mk _ _ an bY
def al3:aL Pg 22 am6:=mk zF yO an bY
def ads:aL Pg 22 aqm:= @aL.ro Pg 22 zF.pre zF.post.vs yO xt (al3.holds rfl) rfl (λx _ h=>by rw[show xt x=ax (yO x) λy=>same y.2 x (Z y.1) from d_ (ax _) (funext λ_=>Vh ..)]at h;exact h)
def aov x:mW (vB x) (S_ x):=by
 unfold vB S_ LS ck bQ bV aZ cP aH cL;with_reducible repeat' first|apply OI.o;constructor|intro _
def apj:aL Pg 23 aqk:=DK Dv vB S_ aov (ac ID an) bY
def al0:aL Pg 23 auw:= @aL.ro Pg 23 Dv.pre Dv.post.vs vB Fe (apj.holds rfl) rfl (λx _ h=>by rw[show Fe x=ax (vB x) λy=>same y.2 x.2 (Z y.1) from d_ (ax _) (funext λ_=>Vh ..)]at h;exact h)
def Z3:aL Pg 81 abb:=mk _ _ (ac al0 an) bY
def aky:aL Pg 82 aly:=mk _ _ (ac ads an) bY
def afj x:mW (rG x) (Ie x):=by
 unfold rG Ie Dl zW HN Prod.r Prod.y Prod.u Prod.w Prod.z Prod.B be bA bM cE fe kZ vu Ac Prod.p Prod.F Prod.E Prod.C c_ vq Lu ck bj bQ kw wT bV aZ cP aH cL;with_reducible repeat' first|apply OI.o;constructor|intro _
def Rn:aL Pg 52 ahg:=DK RU rG Ie afj (ac ads (ac al0 (ac Z3 (ac aky an)))) bY
def ajx x:mW (uA x) (MC x):=by
 unfold uA MC Gz zW HN be bA bM cE fe kZ vu Ac Pk Prod.t c_ gy rY Lu ck bQ wT bV aZ cP cL;with_reducible repeat' first|apply OI.o;constructor|intro _
def akz:aL Pg 21 alz:=DK Xi uA MC ajx (ac Cp (ac Nd (ac Nf (ac JI (ac Rn an))))) bY
def Ib x:mW (l_ x) (tw x):=by
 unfold l_ tw tN zW HN Prod.r Prod.y Prod.u Prod.w Prod.z Prod.B Prod.G Prod.H be Prod.I bA bM cE fe kZ vu Ac Prod.K bQ bV cP aH cL;with_reducible repeat' first|apply OI.o;constructor|intro _
def It:aL Pg 177 IX:=DK zu l_ tw Ib an bY
def PC x:mW (qB x) (xV x):=by
 unfold qB xV yc bj bQ kw aZ cP aH;with_reducible repeat' first|apply OI.o;constructor|intro _
def PP:aL Pg 140 Qg:=DK Ee qB xV PC (ac It an) bY
def Zm x:mW (tJ x) (E9 x):=by
 unfold tJ E9 AG bj bQ bJ aZ cP aH cL;with_reducible repeat' first|apply OI.o;constructor|intro _
def Z6:aL Pg 196 abk:=DK Ou tJ E9 Zm an bY
def Qd:aL Pg 178 QF:=mk _ _ (ac Z6 an) bY
def Qc:aL Pg 18 QE:=mk _ _ (ac ID an) bY
def K4:aL Pg 141 Lm:=mk _ _ an bY
def K5:aL Pg 110 Ln:=mk _ _ (ac K4 an) bY
def DH x:mW (ip x) (pM x):=by
 unfold ip pM pU be bA bM cE dF gy bj bQ gO bV bJ aZ cP aH cL;with_reducible repeat' first|apply OI.o;constructor|intro _
def DP:aL Pg 108 DZ:=DK vo ip pM DH an bY
def DG x:mW (ec x) (pK x):=by
 unfold ec pK pR be bA bM bQ bV bJ lx aZ cP aH cL;with_reducible repeat' first|apply OI.o;constructor|intro _
def DO:aL Pg 109 DY:=DK vn ec pK DG (ac PP an) bY
def DF x:mW (gw x) (pJ x):=by
 unfold gw pJ lX be bA cE c_ bQ gO bJ aZ cP aH cL;with_reducible repeat' first|apply OI.o;constructor|intro _
def DN:aL Pg 111 DX:=DK vm gw pJ DF an bY
def DI x:mW (iu x) (pN x):=by
 unfold iu pN pV be bA cE c_ bQ bJ aZ cP aH cL;with_reducible repeat' first|apply OI.o;constructor|intro _
def DQ:aL Pg 76 D2:=DK vp iu pN DI (ac DP (ac DO (ac K5 (ac DN an)))) bY
def PH x:mW (qE x) (xX x):=by
 unfold qE xX yd be bA bM ct dF c_ ck bQ bV aZ cP aH cL;with_reducible repeat' first|apply OI.o;constructor|intro _
def P9:aL Pg 112 Qw:=DK Ev qE xX PH an bY
def F4 x:mW (fg x) (sd x):=by
 unfold fg sd sH be bA bM dF bQ bV bJ aZ cP aH cL;with_reducible repeat' first|apply OI.o;constructor|intro _
def Gn:aL Pg 77 Hj:=DK xG fg sd F4 (ac P9 an) bY
def wD:aL Pg 143 OE:=mk _ _ an bY
def K3:aL Pg 144 Li:=mk _ _ (ac wD an) bY
def S4 x:mW (lq x) (An x):=by
 unfold lq An vD be bA bM dF bQ gO bJ aZ cP aH cL;with_reducible repeat' first|apply OI.o;constructor|intro _
def Gu:aL Pg 142 Un:=DK Hd lq An S4 (ac wD an) bY
def P4:aL Pg 145 Qu:=mk _ _ (ac Qd an) bY
def uU:aL Pg 114 Lj:=mk _ _ (ac Gu (ac wD (ac K3 (ac P4 an)))) bY
def Ir:aL Pg 113 IV:=mk _ _ (ac Gu an) bY
def Fh:aL Pg 115 Fr:=mk _ _ an bY
def Am x:mW (gh x) (mF x):=by
 unfold gh mF mO be bA bM cE ct dF gy bj bQ kw bV bJ aZ cP aH cL;with_reducible repeat' first|apply OI.o;constructor|intro _
def Aw:aL Pg 116 AU:=DK sP gh mF Am an bY
def E3 x:mW (gJ x) (qW x):=by
 unfold gJ qW mN be bA bM cE ct bj bQ bJ aZ cP aH cL;with_reducible repeat' first|apply OI.o;constructor|intro _
def Fg:aL Pg 117 Fq:=DK wM gJ qW E3 an bY
def Ec:aL Pg 184 Qt:=mk _ _ an bY
def al7:aL Pg 179 CU:=mk _ _ an bY
def apl:aL Pg 179 aqo:= @aL.sub Pg 179 CU.pre CU.post MM Tg al7 rfl (λx y h=>tR (b:=1) x y h)
def agf:aL Pg 179 zJ:=mk _ _ an bY
def al6:aL Pg 179 am8:= @aL.sub Pg 179 zJ.pre zJ.post Im ML agf rfl (λx y h=>tR (b:=1) x y h)
def al2:aL Pg 180 CR:=mk _ _ an bY
def apk:aL Pg 180 aql:= @aL.sub Pg 180 CR.pre CR.post MI Tf al2 rfl (λx y h=>tR (b:=24) x y h)
def agd:aL Pg 180 zH:=mk _ _ an bY
def al1:aL Pg 180 am5:= @aL.sub Pg 180 zH.pre zH.post Ik MH agd rfl (λx y h=>tR (b:=24) x y h)
def age:aL Pg 119 zI:=mk _ _ an bY
def al5:aL Pg 119 am7:= @aL.sub Pg 119 zI.pre zI.post Il Cd age rfl (λx y h=>tR (b:=8) x y h)
def PF x:mW (lB x) (xW x):=by
 unfold lB xW ub be ct ck bQ bV bJ aZ cP cL;with_reducible repeat' first|apply OI.o;constructor|intro _
def P5:aL Pg 146 Qv:=DK Eu lB xW PF (ac Z7 (ac al6 (ac al1 an))) bY
def Mv x:mW (kz x) (vX x):=by
 unfold kz vX sJ be bA ct ck bQ kw lx aZ cP aH cL;with_reducible repeat' first|apply OI.o;constructor|intro _
def M9:aL Pg 151 OF:=DK CG kz vX Mv (ac Ec an) bY
def F7 x:mW (ie x) (sh x):=by
 unfold ie sh nZ be bA ct dF ck bQ lx aZ cP aH cL;with_reducible repeat' first|apply OI.o;constructor|intro _
def Gt:aL Pg 152 Hm:=DK xI ie sh F7 (ac Ec an) bY
def Ng:aL Pg 219 OQ:=mk _ _ an bY
def Qb:aL Pg 203 QD:=mk _ _ (ac Ng an) bY
def IA:aL Pg 207 I4:=mk _ _ an bY
def Nb:aL Pg 182 OK:=mk _ _ (ac IA an) bY
def wW x:mW (gp x) (kR x):=by
 unfold gp kR kS ck bQ lx cP aH cL;with_reducible repeat' first|apply OI.o;constructor|intro _
def wY:aL Pg 197 w9:=DK pE gp kR wW (ac Qb an) bY
def DE x:mW (jQ x) (pH x):=by
 unfold jQ pH pP be bA bj kw bV aH;with_reducible repeat' first|apply OI.o;constructor|intro _
def DM:aL Pg 181 DV:=DK vj jQ pH DE (ac wY an) bY
def agc:aL Pg 147 ahl:=mk _ _ (ac DM (ac Nb an)) bY
def S7 x:mW (mL x) (Ao x):=by
 unfold mL Ao AH bj bQ bV lx aZ cP aH cL;with_reducible repeat' first|apply OI.o;constructor|intro _
def TK:aL Pg 148 Uy:=DK Hi mL Ao S7 an bY
def Bl:aL Pg 150 Lk:=mk _ _ an bY
def MA x:mW (oP x) (vY x):=by
 unfold oP vY wJ bQ lx aZ cP aH cL;with_reducible repeat' first|apply OI.o;constructor|intro _
def Nh:aL Pg 183 OT:=DK CM oP vY MA (ac Bl an) bY
def KP x:mW (jN x) (uR x):=by
 unfold jN uR uW ck bj bQ bV lx aZ cP aH cL;with_reducible repeat' first|apply OI.o;constructor|intro _
def K6:aL Pg 149 Lo:=DK BA jN uR KP (ac Bl (ac Nh an)) bY
def Na:aL Pg 118 OJ:=mk oW ig (ac uU (ac P5 (ac M9 (ac Gt an)))) bY
def tv2 (t:TypeId):M Ty:=if aA t 146 then Z (.pr .un (.pr .un (.pr .un (.pr .un dO)))) else bY t
def M_:aL Pg 146 OG:=mk _ _ (ac TN (ac apl (ac apk an))) tv2
def M':aL Pg 118 OH:=mk _ _ (ac uU (ac M_ (ac agc (ac TK (ac K6 an))))) tv2
def P_:aL Pg 118 Qx:=(aL.orE (pre:=oW.pre) (post:=oW.post) (m:=ig) (m':=md) rfl Na M')
def Is:aL Pg 78 IW:=mk _ _ (ac TN (ac Ir (ac uU (ac Fh (ac Aw (ac Fg (ac P_ (ac al5 an)))))))) bY
def BH x:mW (eU x) (nQ x):=by
 unfold eU nQ kL fe vq bQ kw wT bV bJ aZ cP aH cL;with_reducible repeat' first|apply OI.o;constructor|intro _
def BJ:aL Pg 79 BL:=DK tf eU nQ BH an bY
def tv3 (t:TypeId):M Ty:=if aA t 49 then Z (.pr .bool (.pr (.st (.st (.st (.st .un)))) rV)) else bY t
def F5 x:mW (ib x) (sg x):=by
 unfold ib sg nW be bA bM cE dF gy ck bj bQ wT bV bJ aZ cP aH cL;with_reducible repeat' first|apply OI.o;constructor|intro _
def Gp:aL Pg 46 Hk:=DK xH ib sg F5 (ac DQ (ac Gn (ac Is (ac2 3932225615 rfl BJ an)))) tv3
def Zj x:mW (rm x) (E8 x):=by
 unfold rm E8 AE be ct ck bQ gO bV bJ aZ cP aH cL;with_reducible repeat' first|apply OI.o;constructor|intro _
def Z5:aL Pg 19 abf:=DK Ot rm E8 Zj (ac Ro (ac akz (ac Gp an))) bY
abbrev Le0:Y PB:=(Ŧ++[.H 47 J hY,ŧ])
abbrev Le1:Y PB:=[Ű,.G 47 [á],ŭ,Ź]
abbrev Le2:Y PB:=[ŭ,ź]
abbrev Le3:Y PB:=[ŭ,Ź]
abbrev Le4:Y PV:=(Ô::Z?::Ô::Ô::Ŝ)
def ń:PB:=.G 61 Le4
abbrev Le5:Y PV:=(Ŏ++[ß,Z?])
abbrev Le6:Y PB:=[ŭ,ź,ŧ]
abbrev Le7:Y PV:=[Ã,Ë,í,Þ,î]
abbrev Le8:Y PB:=(Ŧ++[.H 47 J hY])
abbrev Le9:Y PB:=[ŭ,ź,ŧ,ŧ]
abbrev aA4:Y PB:=[ŭ,Ź,ź]
abbrev aA3:Y PV:=[Ã,Ë,í,Þ,î,À]
abbrev aA2:Y PB:=[ŭ,ħ,Ū]
abbrev are:Y PB:=[Ű]
def RW:=ž [Ð,Ń,Ï] [] [.agg (ñ::š),å] [ì,Â] (dL [ż 14 [22,23] [3,5,6,7,24] Le5 Ő])
def ahh:ci:=cn RW rH
def IY:=ſ [Ð,Ï] [] [À] [] (dL [ż 2 [] [4] [À] []]) ma
def JK:=ž [ö] [] [è,è,Z?] [] (dL [Ž 24 [34,35] [1,2,3,7,8,36] [Ã,ñ,í,ß,.mp 4,Z?] [Ű,Â,Â,.G 87 (è::š),.mp aN aN] [.mpt 8 aN aN],Ž 41 [34,35,36] [1,2,3,7,8] [Ã,ñ,í,ß,.mp 4] [Ű,Â,Â,.G 87 (ô::š),.mp aN aN,Â] [.mpt 8 aN aN]])
def Xo:ci:=cn JK my
def NP:=ž [ö] [] [ķ,Z?] [] (dL [Ž 22 [4,29,30] [1,7,8,9,31] [Ã,Ë,í,Þ,Z?] Le8 [.nil 9 47 hY],ż 30 [4,29,30,31] [1,7,8,9] [Ã,Ë,í,Þ] Le8,ż 33 [4,10,29,30,31] [1,7,8,9,11] Le7 Le0,(34,(.s 11 0 0 4)),ż 35 [4,10,29,30,31] [1,7,8,9,11] Le7 Le0,(36,(.s 11 0 0 4)),ż 46 [4,10,29,30,31,60,61] [1,7,8,9,11,62] [Ã,Ë,í,Þ,î,Z?] Le0,ż 54 [4,10,29,30,31,60,61,62] [1,7,8,9,11] Le7 Le0,ż 57 [4,10,12,29,30,31,60,61,62] [1,7,8,9,11,14] aA3 Le0,ż 59 [4,10,12,29,30,31,60,61,62] [1,7,8,9,11,107] aA3 Le0])
def aa7:ci:=cn NP oF
def aee:=ž [] [] [Ð] [] (dL [Ž 8 [21] [0,1,22] uK aro [.qn 1 5 154 qG],ż 22 [2,21,22] [0,1,3] uK aro])
def aqj:ci:=cn aee Ge
def Ut:=ſ [] [] [À] [] (dL [ż 6 [] [0] [À] []]) vA
def Xt:=ſ [Ê,á] [] [À] [] .leaf rA
def Xs:=ſ [Į,Z?] [] [Z?] [] (dL [ż 8 [0,1] [5,6] zQ [],ż 16 [0,1,6] [5] [Z?] []]) uj
def T9:=ſ [Į,Z?] [] [á] [] .leaf vy
def aad:=ſ [ö,Z?] [] [â] [] (dL [ż 8 [1] [2,4,5,6] Bb [Ű,ħ,Ū]]) v8
def aae:=ſ [ö,Z?] [] [.d (.sl D5),Z?] [] (dL [ż 13 [1] [2,22] ij are,Ž 26 [1] [2,8,9] Yw [Ű,.H 58 J D5] [.nil 8 58 D5]]) v9
def alk:=ſ (ò::Œ) [] [Z?] [] (dL [ż 6 [1] [2,3,7] [Z?,Ã,Z?] [ŭ],ż 14 [1,7] [2,3] [Z?,Ã] [ŭ]]) Cb
def Xx:=ſ [ò,Z?] [] [â] [] (dL [ż 8 [1] [2,4,5,6] Bb aA2,ż 10 [1,6] [2,4,5,18] C1 aA2]) uk
def aac:=ſ [ò] [] [ď] [] (dL [Ž 8 [] [1,2,3,4] Bb [ŭ,ń,.G 61 [Þ,Z?,ä,ô,ç,Ô,Ô,é,ċ],Ý,Ñ,Ú,Ć,Ŀ,ì] [.qn 3 4 100 Pw],Ž 23 [] [1,2,3,5] Bb [ŭ,ń,.G 61 [Þ,Z?,ä,ô,ç,é,Ô,ċ,ğ],Ý,Ñ,Ú,Ć,Ć,Ŀ,ì] [.qn 3 5 100 Pw]]) v7
def agz:=ſ [ò,ď,Z?] [] [Z?] [] (dL [ż 6 [2] [3,4,7] uK Le3,ż 15 [2,7] [3,4,29] pD Le3]) ki
def Qk:=ſ [ò,ď,Z?,Ê] [] [À] [] (dL [ż 3 [2,3] [4,5,20] pD Le3,ż 14 [2,3] [4,5,9] uK Le3,ż 22 [2,3,9] [4,5] [Ã,Ë] Le3,ż 31 [2,3,9] [4,5,71] pD Le3]) lz
def T_:=ſ [ò,ď,Z?] [] [À] [] (dL [ż 14 [] [6] [À] []]) lj
def ah0:=ſ [ď] [] [.agg (ō++[å,ñ,í,Þ,ä])] [Ć,Ć,Å,Ñ,Å] .leaf Dg
def agy:=ſ [ò,ď,á] [] [ď,À] [] (dL [ż 26 [8,12] [4,6,9,14] YB [.G 61 (ō++[ä,ô,ç,é,ċ]),ń,ŧ,.G 100 [.d Pw],Ć,Ć,Å,Ñ,Å],ż 35 [] [4,6] [Ã,Ë] [.G 61 (ō++[í,Þ,ä,ô,ç]),ń,Ć,Ć,Å,Ñ,Å]]) yF
def Xw:=ſ [Ï] [] [À] [] (dL [ż 2 [] [2] [À] []]) rB
def Qj:=ſ [Ï,Ï] [] [À] [] (dL [ż 2 [] [4] [À] []]) ly
def Xv:=ſ (ò::Œ) [] [À] [] (dL [ż 18 [30] [3,7,8,9,31] yl [ŭ,ŧ,ŧ,Ų],ż 25 [] [6] [À] []]) Ca
def aq8:=ſ zQ [] [À] [] (dL [ż 2 [] [4] [À] []]) vz
def agw:=ſ [ò,ĥ] [] [À] [] (dL [ż 4 [] [4] [À] []]) yE
def Qi:=ſ [ò,ĥ] [] [À] [] (dL [ż 5 [5] [2,3,37] pD Le2,ż 16 [5] [2,3,6] uK Le2,ż 37 [5] [2,3,7] uK Le2,ż 47 [5,7] [2,3,85] pD Le2,ż 57 [5,7] [2,3,8] uK Le2]) xY
def agx:=ſ [ò,ĥ] [] [À] [] (dL [ż 5 [] [2,3,5,6,70] yl Le9,ż 16 [] [2,3,5,6,7] Le5 Le9,ż 35 [] [4] [À] []]) Ih
def Xu:=ſ [ò,ĥ] [] [À] [] (dL [ż 3 [] [2,3,27] pD Le2,ż 13 [] [2,3,5,82] C1 Le6,ż 24 [] [2,3,5,9] Bb Le6,ż 33 [9] [2,3,5,108] C1 Le6]) B_
def aaa:=ſ [ò,ĥ] [] [À] [] (dL [ż 13 [] [2,3,40] pD Le2]) vZ
def aa9:=ſ [ò,ď,Z?] [] [À] [] (dL [ż 4 [] [6] [À] []]) qY
def aq9:=ſ [ď,Z?] [] [Z?] [] (dL [ż 6 [1] [2,5] xc [Ź]]) Ap
def aab:=ſ [ò,ď,ĥ] [] [À] [] (dL [ż 17 [] [6] [À] [],ż 27 [] [3,4,5,7] Bb aA4,ż 38 [7] [3,4,5,73] C1 aA4,ż 52 [] [6] [À] [],ż 56 [] [6] [À] []]) Aq
def DW:=ſ [Ħ,İ] [] [À] [] (dL [ż 13 [6,7,9,12] [5,63] ij are,ż 24 [6,9,12,64,65] [5,66] xc are,ż 32 [6,9,12,64,65,66] [5] [Ã] are,ż 36 [6,9,12,64,65,66] [5,15,87] pD [Ű,.G 47 [á]],ż 57 [6,9,12,64,65,66] [5,15,16,17,18] Le5 Le1,ż 65 [6,9,12,18,64,65,66] [5,15,16,17] YB Le1,ż 69 [6,9,12,18,64,65,66] [5,15,16,17,151] yl Le1,ż 84 [6,9,12,18,64,65,66] [5,15,16,17,20] Le5 Le1,ż 102 [6,9,12,18,64,65,66] [5,15,16,17,222] yl Le1]) jR
def afk x:mW (rH x) (If x):=by
 unfold rH If Dm zW HN be bA bM cE fe kZ vu Ac Pk Prod.t c_ gy rY Lu ck bQ wT bV aZ cP cL;with_reducible repeat' first|apply OI.o;constructor|intro _
def agb:aL Pg 21 ahh:=DK RW rH If afk (ac Cp (ac Nd (ac Nf (ac JI (ac Rn an))))) bY
def Iu:aL Pg 17 IY:=mk _ _ an bY
def VH x:mW (my x) (B8 x):=by
 unfold my B8 xC be bA bM c_ ck bj bQ gO bJ lx aZ cP aH cL;with_reducible repeat' first|apply OI.o;constructor|intro _
def Jy:aL Pg 6 Xo:=DK JK my B8 VH (ac Z5 (ac Ro (ac agb (ac Z7 (ac Cp an))))) bY
def Zg x:mW (oF x) (E5 x):=by
 unfold oF E5 Az be bA bM cE fe kZ ct dF c_ ck bj bQ gO bV bJ lx aZ cP aH cL;with_reducible repeat' first|apply OI.o;constructor|intro _
def MZ:aL Pg 5 aa7:=DK NP oF E5 Zg (ac Jy (ac Iu (ac Qc an))) bY
def aou x:mW (Ge x) (S9 x):=by
 unfold Ge S9 TW be bA bM cE gy bQ bV cP aH cL;with_reducible repeat' first|apply OI.o;constructor|intro _
def api:aL Pg 37 aqj:=DK aee Ge S9 aou an bY
def TJ:aL Pg 14 Ut:=mk _ _ (ac MZ (ac api an)) bY
def V6:aL Pg 10 Xt:=mk _ _ (ac ape an) bY
def V5:aL Pg 27 Xs:=mk _ _ an bY
def Tv:aL Pg 9 T9:=mk _ _ (ac V5 an) bY
def ZH:aL Pg 25 aad:=mk _ _ (ac Fi (ac yU an)) bY
def ZI:aL Pg 7 aae:=mk _ _ (ac M2 (ac ZH an)) bY
def akv:aL Pg 56 alk:=mk _ _ an bY
def Cl:aL Pg 92 Xx:=mk _ _ (ac yU an) bY
def ZG:aL Pg 8 aac:=mk _ _ (ac kn an) bY
def yT:aL Pg 11 agz:=mk _ _ (ac Cm an) bY
def Eb:aL Pg 31 Qk:=mk _ _ (ac akv an) bY
def Gr:aL Pg 30 T_:=mk _ _ (ac yT (ac Eb (ac Ax an))) bY
def ag2:aL Pg 32 ah0:=mk _ _ (ac kn an) bY
def ag1:aL Pg 12 agy:=mk _ _ (ac yT (ac Gr (ac Eb (ac ag2 (ac jO an))))) bY
def V9:aL Pg 123 Xw:=mk _ _ an bY
def Ea:aL Pg 91 Qj:=mk _ _ (ac V9 an) bY
def V8:aL Pg 90 Xv:=mk _ _ (ac Cm (ac Cl an)) bY
def adq:aL Pg 61 aq8:=mk _ _ an bY
def afz:aL Pg 62 agw:=mk _ _ (ac Ea an) bY
def PR:aL Pg 60 Qi:=mk _ _ (ac adq (ac V8 an)) bY
def ag0:aL Pg 63 agx:=mk _ _ (ac Cl an) bY
def V7:aL Pg 64 Xu:=mk _ _ (ac Ea (ac Cl an)) bY
def ZD:aL Pg 34 aaa:=mk _ _ (ac PR (ac adq (ac afz (ac ag0 (ac V7 an))))) bY
def ZC:aL Pg 35 aa9:=mk _ _ (ac yT (ac Gr an)) bY
def apf:aL Pg 36 aq9:=mk _ _ an bY
def ZF:aL Pg 13 aab:=mk _ _ (ac yT (ac ZD (ac ZC (ac apf an)))) bY
def hlaw25_ShbSchedules:aL Pg 3 DW:=mk _ _ (ac Iv (ac MZ (ac Jy (ac ZI (ac ZG (ac Tv (ac V6 (ac yT (ac ag1 (ac ZF (ac TJ an))))))))))) bY
variable {P:Program} {f:FuncId} {W:World} {r:Y AV} {E:ξ}
def run_law {pre:Tm} {m:pre.ty.den->M (Tm.ty ⟨[.d .bool],[]⟩).den} (sp:rR P f ⟨pre,⟨[.d .bool],[]⟩,m⟩) (h0:l! pre.bs=0) {x:pre.ty.den} (hx:m x=Z J) {vs:Y TV} {hp:a8} (hi:D' pre x=Z (vs,hp)) (hla:cI hp vs=Z r)
 (hg:∀g cells,G g=Z cells->nS (λ_=>False) W (.K cells 0) (.pointer (Z ⟨g,0,U⟩))) (hrel:lG (λ_=>U) (λ_=>False) W r E):
 Calls P f E.toArray W λe w'=>e= .returned (.bool J)/\Below W.heap.size W w':=by
 let⟨l1,I⟩:=yS hi;let⟨l2,y⟩:=yS (t:=⟨[.d .bool],[]⟩) (x:=J) (vs:=[.f .bool J]) (h1:=PT.leaf) rfl;have hn:erHF hp=λ_=>U:=by
  funext n;cases hb:erHF hp n with
  |none=>rfl
  |some b=>
   let⟨c,h1,_⟩:=iM hb;have:=I.lt_len h1;omega
 have own0:∀(φ:PM) k,¬own φ (erHF hp) k:=by rintro φ k ⟨i,b,h1,_⟩;rw[hn]at h1;cases h1
 have htot:tot (λ_=>False) (λ_=>U) (erHF hp)=λ_=>False:=by
  funext k;exact propext ⟨λh=>h.elim id λh=>bT h (own0 _ k),λh=>h.elim⟩
 refine Calls.mono (sp.calls x J hx vs hp l1 _ PT.leaf l2 r _ I y hla rfl (λ_=>U) (λ_=>False) W E ⟨(λi j b b' k h1=>by rw[hn]at h1;cases h1),(λi b h1=>by rw[hn]at h1;cases h1),(λk h=>h.elim),(λg cells h=>by rw[htot];exact hg g cells h)⟩ (by rw[htot];exact hrel) (λn k h=>by cases h)) ?_;rintro en w' ⟨v,φ',rfl,he,_,_,_,L⟩;refine ⟨?_,⟨he.os,he.tape,he.output,he.size,λk hk=>he.jm k hk (own0 _ k)⟩⟩;have L:ch φ' _ w' (.f (.raw (.bool J))) v:=L;cases L with
 |f h=>cases h;rfl
def gKw:Tryz.prog.globalNamed "interleave/token.keywords" =Z 0:=by kernel_rfl
def tKw:(Tryz.prog.globals[0]?).map (·.type)=Z 295:=by kernel_rfl
def kw_of_laid (h:laidMetH Tryz.prog [("interleave/token.keywords",Rows.laid_interleave_token_keywords)] W):∀g cells,G g=Z cells→nS (λ_=>False) W (.K cells 0) (.pointer (Z ⟨g,0,U⟩)):=by
 intro g cells hG;unfold G at hG;split at hG
 .rename_i hg;have hg:=eq_of_beq hg;subst hg;cases hG;rw[MakeChecks.laidMetH_plain _ _ _ (by kernel_rfl)]at h;let⟨ps,⟨g0,t0,cs0,f0,p0,q0,hg0,ht0,hv0,hd0,_,_⟩,_,_⟩:=h;obtain rfl:=fU (gKw.symm.trans hg0);obtain rfl:=fU (tKw.symm.trans ht0);obtain⟨xs,m1,rfl,I,hlen,hn,hel⟩:=DataW.trod_array Tryz.underlying295 hd0;have c1:Tryz.prog.cellsOf 9=1:=by kernel_rfl
  have c22:Tryz.prog.cellsOf 295=22:=by kernel_rfl
  rw[c22]at hlen;simp only[aQ,Rows.laid_interleave_token_keywords,DataW.agg.injEq]at I;have hxs:=I.1;have hcell:∀j,j<22→∃l,(xs.map (·.1))[j]? =Z (.lit (.string l))∧W.cell? ⟨0,j,U⟩=Z (.string ⟨l.toArray⟩):=λj L=>by
   have h1:=hel j L;rw[c1,HO]at h1;rw[aF (by omega)]at h1;let⟨s,e1,e2,_⟩:=DataW.trod_string Tryz.underlying9 h1;refine ⟨s.data.toList,?_,?_⟩
   .rw[bE,aF (by omega),bw,e2]
   .have:=World.var?_cell hg0 hv0 j;rw[this];have z:cs0.toList[j]? =Z (.string s):=by
     have:((cs0.toList.drop j).take 1)[0]? =Z (.string s):=by rw[e1];rfl
     rw[fd,aC (by omega),lJ]at this;simpa using this
    rw[← c6,z]
  have hb:0<W.heap.size:=by
   let⟨l,_,z⟩:=hcell 0 (by omega);exact World.block_lt_of_cell? W _ z
  refine .K Gg 0 0 0 (λj=>(W.cell? ⟨0,j,U⟩).getD undef) (λh=>h) hb (λx A=>?_) (λj L=>?_) (λj x A=>?_)
  .simp only[Gg,bh,b7,eE]at A;rcases A with rfl|rfl|rfl|rfl|rfl|rfl|rfl|rfl|rfl|rfl|rfl|rfl|rfl|rfl|rfl|rfl|rfl|rfl|rfl|rfl|rfl|rfl<;>rfl
  .obtain⟨l,_,z⟩:=hcell j L;rw[bZ,z];rfl
  .have L:j<22:=(bz.1 A).1;let⟨l,h1,z⟩:=hcell j L;rw[← hxs]at h1;have:x= .raw (.string ⟨l.toArray⟩):=by
    rcases j with _|_|_|_|_|_|_|_|_|_|_|_|_|_|_|_|_|_|_|_|_|_|j;all_goals first|(simp only[h_,BE,ah,DataW.lit.injEq,Lit.string.injEq,Gg]at h1 A;subst h1 A;rfl)|omega
   rw[this,z];exact .raw _
 .cases hG
end
end Go.Proofs.YtocjfbiifiaagaaGreatDoor.AI
