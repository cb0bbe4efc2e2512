/-
  Texts of the proof, part 6 of 6: what is used to prove the statement. No condition.
-/
import Derived.Test.YtcmnmakaoonfgaaGreatDoorWeakClocksQ4
import Derived.Test.YtcmnmakaoonfgaaGreatDoorRows
import Derived.LaidMore
namespace Go.Proofs.YtcmnmakaoonfgaaGreatDoor.AI
open Go.RowKit
set_option maxRecDepth 100000
set_option maxHeartbeats 4000000
set_option linter.unusedVariables false
set_option linter.unusedSimpArgs false
set_option linter.defProp false
open _root_.Bool renaming true→J
open _root_.List renaming length→l!,getElem?_cons_zero→hY,getElem?_cons_succ→Bu
open _root_.Nat renaming beq→aB,mul_one→Hy
open _root_.Option renaming some→Z,none→U,map_some→bx
open _root_.Prod renaming a→bk,b→bD,c→bQ,e→cS,f→dZ,h→eh,g→eV,k→iS,j→kZ,l→ly,i→md,n→me,m→mw,o→nM,q→CY,s→Li
noncomputable section
abbrev ayj:Y PV:=[õ,æ,ì,ñ,ă,ò,ö,ġ,ŋ,.mp 10,ø]
def Ţ:Y PB:=[.C 72 [Õ],.C 81 ayj,É,ü,Ì,Ì,Ì,Ì,ù,ĝ,.I .zq 12,.I (.qh 166) 12,â,Ë,Ë]
abbrev Le0:Y PB:=(Ţ++[Ř,.C 4 [Æ]])
abbrev Le1:Y PB:=(Ţ++[ź,Ř])
abbrev Le5:Y PV:=[õ,é,æ,ì,ñ,ă,ò,ö,ġ,.mp 9,ģ]
def Ĳ:PB:=.C 81 Le5
def Ÿ:Y PB:=[Ĳ,É,ü,Ì,Ì,Ì,Ì]
def ŝ:Y PB:=(Ÿ++[ą,ù,ŀ,ė,â,Ë])
abbrev Le2:Y PB:=(ŝ++[Ë,.C 72 [È],ź,Ř])
abbrev Le3:Y PB:=(ŝ++[Ë])
abbrev Le4:Y PB:=[aau,.C 81 [õ,ñ,ă,ò,ö,ġ,ŋ,ģ,ø,.mp 12,.G 13],.F 83 J gf,ź,É,ü,Ì,Ì,Ì,Ì,ĝ,ł,.I .zq 16,.I (.qh 166) 16,Ë,Ë,â]
abbrev Le6:Y PB:=[aau,.I (.rr 58 1) 4,Ń,adg,Í]
abbrev Le8:Y PB:=[aau,.C 81 [õ,ì,ñ,ă,ò,ö,ġ,ŋ,ģ,.mp 11,Ĵ],.F 83 J gf,É,ü,Ì,Ì,Ì,Ì,ù,ĝ,.I .zq 15,.I (.qh 166) 15,Ë,Ë,â]
abbrev Le9:Y PB:=[aau,.I (.rr 58 1) 5,Ń,adg,adg,Í]
abbrev alm:Y PB:=[aau,.I (.rr 58 1) 3,Ń,Í]
abbrev ayl:Y PB:=(ŝ++[Ë,ź])
abbrev ayk:Y PB:=(Ÿ++[ĝ,ł,ŀ,ė,â,Ď,Ď,Ë,Ë])
abbrev age:Y PB:=[Ż,abn,Ő]
abbrev agd:Y PB:=[Ż,Ő,ź]
abbrev apo:Y PB:=[aau,.I (.rr 58 1) 2,Í]
abbrev aul:Y PB:=[Ż,Î,ź,ź]
abbrev auk:Y PB:=[Ż,Î,ź]
abbrev alk:Y PV:=[È,Õ,æ]
abbrev auj:Y PV:=[È,Õ,æ,Ý,Æ]
abbrev aui:Y PV:=[È,é,Ù,Ý,Æ]
abbrev Le24:Y PB:=[ÿ,.C 61 [æ,Å,è,è],ë]
abbrev auh:Y PV:=[È,Õ,æ,Å]
abbrev aug:Y PV:=[È,é,Ù,Å]
abbrev ayi:Y PV:=[đ,Å]
def NF:=af4 [Å] [] [ê] [Ì] (dN [ads 8 [8] [3,9] O4 [Ì]])
def ZC:cA:=cn NF lz
def TX:=afd [Ó] [] [Æ] [] (dN [ads 2 [] [2] [Æ] []]) oJ
def Oi:=afd [Ô,Ó] [] [Å] [] (dN [ads 6 [6] [2,3,7] rm ų]) lR
def Of:=afd [Ô,Ó] [] [Å] [] (dN [ads 6 [6] [2,3,7] rm ų]) lQ
def CJ:=afd [È,Ó] Le3 pQ Le3 (dN [ads 7 [] [5] [.G 14] (ŝ++[Ë,Ì])]) iX
def DN:=afd [.ob 0 0,Ó] [â] [] [â] .leaf jR
def wH:=af4 [È,Å,Ó] Le3 [] ayk (dN [adx 6 [] [] [] ayk [.jg 0 13,.jg 0 14],ads 39 [1,105] [0,5,104,106] [È,ĳ,ò,Å] ayl,ads 47 [1,105,106] [0,5,104] [È,ĳ,ò] ayl])
def Fh:cA:=cn wH gL
def BF:=afd [È,Å,Ó] Le3 [] [.C 81 [õ,é,æ,ì,ñ,ă,ò,ö,ġ,.mp 9,.G 14],É,ü,Ì,Ì,Ì,Ì,ą,ù,.I .zq 15,Ď,Ď,Ë,Ë,.I (.qh 166) 15,â] (dN [(60000,(.a [.qx 0 16,.jg 0 15]))]) iG
def DP:=afd [Ć,Į,Ġ,È] Le1 [] Le1 (dN [ads 0 [] [0,2,3,25] [Ć,Ġ,È,Æ] Le1]) jT
def DO:=afd [Ć,Į,È,Ġ] Le0 [] Le0 (dN [ads 0 [] [0,1,2,3,31] [Ć,Į,È,Ġ,Æ] Le0]) jS
def Ct:=af4 [Ć,ć,È] Le1 [] Le1 (dN [ads 3 [11] [0,1,10,12] [Ć,ć,ø,Å] Le1,ads 11 [11,12] [0,1,10] [Ć,ć,ø] Le1,ads 14 [11,12] [0,1,6,10,59] [Ć,ć,Ć,ø,Æ] Le1])
def Oh:cA:=cn Ct kA
def Cr:=af4 [Ć,Ĉ,È] Le0 [] Le0 (dN [ads 3 [11] [0,1,10,12] [Ć,Ĉ,ø,Å] Le0,ads 11 [11,12] [0,1,10] [Ć,Ĉ,ø] Le0,ads 14 [11,12] [0,1,6,10,59] [Ć,Ĉ,Ć,ø,Æ] Le0])
def Og:cA:=cn Cr kz
def xC:=af4 [È,Å,Ó] Le3 [] [.C 81 [õ,.G 14,.G 15,ì,ñ,ă,ò,ö,ġ,.mp 9,.G 16],Ď,Ď,Ì,Ì,Ì,Ì,.I (.rr 50 1) 18,.I (.rr 50 1) 19,.I .zq 17,Ď,Ď,Ď,Ď,É,ü,.I (.qh 166) 17,â,Ë,Ë] (dN [ads 8 [1,24,25] [3,5,6,26] [ĳ,Į,Ġ,Å] Le2,ads 16 [1,24,25,26] [3,5,6] [ĳ,Į,Ġ] Le2,ads 27 [1] [3,5,6,9] [ĳ,Į,Ġ,Ĺ] Le2,ads 34 [1,52] [3,5,6,9,53] [ĳ,Į,Ġ,Ĺ,Å] Le2,ads 42 [1,52,53] [3,5,6,9] [ĳ,Į,Ġ,Ĺ] Le2,ads 58 [1] [3,5,6] [ĳ,Į,Ġ] Le2,ads 67 [1] [3,5,6,9,12,13] [ĳ,Į,Ġ,Ĺ,.ob 11 0,.H 17 0] (ŝ++[Ë,.C 72 [È],ź,Ř,.C 4 [Æ]])])
def Ha:cA:=cn xC gx
def Gz:=af4 [õ] [] [È] Le3 (dN [adx 10 [34,35] [4,36] wY (Ÿ++[.I (.rr 50 1) 11,ą,.I .zq 13,.I (.qh 166) 13,Ë,Ë,â]) [.fmp 4 15 170 lI,.frw 4 16 15 166,.qc 4 7 50 (.sl aP),.qc 4 8 52 gf]])
def TW:cA:=cn Gz lj
def TY:=afd [õ] [] [Ķ,Å] [] .leaf rL
def Jx:=af4 [õ] [] [ň,Å] [] (dN [adx 20 [23,24] [1,6,7,25] auh Le8 [.nil 7 83 gf],ads 28 [23,24,25] [1,6,7] alk Le8,ads 32 [8,23,24,25] [1,6,7,9,42] auj Le4,ads 40 [8,23,24,25,46,47] [1,6,7,9,48] [È,Õ,æ,Ý,Å] Le4,ads 48 [8,23,24,25,46,47,48] [1,6,7,9] [È,Õ,æ,Ý] Le4,ads 52 [8,10,23,24,25,46,47,48] [1,6,7,9,11,69] [È,Õ,æ,Ý,ó,Æ] [aau,.C 81 [õ,ă,ò,ö,ġ,ŋ,ģ,ø,Ĵ,.mp 13,.G 14],.F 83 J gf,ź,ź,É,ü,Ì,Ì,Ì,Ì,ł,.I (.rr 50 1) 16,.I .zq 17,.I (.qh 166) 17,Ë,Ë,â],ads 57 [8,10,23,24,25,46,47,48] [1,6,7,9,12] auj Le4,ads 59 [8,10,23,24,25,46,47,48] [1,6,7,9,96] auj Le4])
def Xb:cA:=cn Jx qS
def acr:=af4 [] [] [Ô] [] (dN [adx 8 [21] [0,1,22] yf apy [.qc 1 5 134 pR],ads 22 [2,21,22] [0,1,3] yf apy])
def aot:cA:=cn acr F3
def K4:=afd [Æ] [] [õ] [] (dN [ads 4 [] [2,3] wY [ŕ]]) pZ
def Um:=afd [] [] [Æ] [] (dN [ads 6 [] [0] [Æ] []]) vu
def Xg:=afd [Ó] [] [Æ] [] (dN [ads 2 [] [2] [Æ] []]) qT
def Qr:=afd [Ó,Ó] [] [Æ] [] (dN [ads 2 [] [4] [Æ] []]) tJ
def Qq:=afd ayi [] [Å] [] (dN [ads 6 [0,1] [5] [Å] []]) nu
def Qn:=afd [Ô,þ,đ,Å] [] [.d (.sl uC)] [] (dN [adx 8 [2,3,22] [4,5,9,23] auh age [.nil 9 64 uC],ads 16 [2,3,22,23] [4,5,9] alk age,ads 23 [2,3,22,23] [4,5,9] alk age,ads 31 [2,3,10,22,23] [4,5,9] alk age,ads 40 [2,3,10,22,23,58,59] [4,5,9,60] auh age,ads 48 [2,3,10,22,23,58,59,60] [4,5,9] alk age,ads 62 [3,74,75] [4,9,76] O5 [Ż,Ő],ads 70 [3,74,75,76] [4,9] [È,é] [Ż,Ő],ads 77 [3,13,16,74,75,76] [4,9,14,15,17] (È::é::Ù::Ť) agd,ads 83 [3,13,16,17,74,75,76] [4,9,14,15] aug agd,ads 95 [3,13,15,16,74,75,76] [4,9,14] [È,é,Ù] agd,ads 102 [3,13,15,16,74,75,76,110] [4,9,14,111] aug agd,ads 110 [3,13,15,16,74,75,76,110,111] [4,9,14] [È,é,Ù] agd,ads 113 [3,13,15,16,19,74,75,76,110,111] [4,9,14,129] [È,é,Ù,Æ] agd]) nk
def Qm:=afd [Ô,Ó] [] [Æ] [] (dN [ads 2 [] [4] [Æ] []]) tI
def ZF:=afd ayi [] [Å] [] (dN [ads 5 [0,1,5] [19] [Æ] [],ads 16 [0,1,5] [6] [Å] [],ads 25 [0,1,5,6] [66] [Æ] []]) sU
def afk:=afd [Ô,đ,Å] [] pQ [] (dN [adx 10 [1,2] [3,7,8,9] aug auk [.nil 7 3 aP],ads 21 [1,2,9] [3,7,8] [È,é,Ù] auk,ads 22 [1,2,9] [3,7,8,10,25] aui aul,ads 26 [1,2,9] [3,7,8,10,45] aui aul,ads 30 [1,2,9] [3,7,8,10,60] aui aul,ads 34 [1,2,9] [3,7,8,85] [È,é,Ù,Æ] auk,ads 40 [] [7] [ê] Ld3]) oM
def Ot:=afd [Ô] [] [þ] [] (dN [adx 8 [7] [2,3,8] yf Le24 [.qc 3 0 98 ec]]) oh
def T6:=afd [ĭ,ĭ] [] [Æ] [] (dN [ads 2 [] [4] [Æ] []]) rQ
def KQ:=afd [ĭ,đ,Å] [] [Æ] [] (dN [ads 2 [] [6] [Æ] []]) iv
def Oq:=afd (ê::Ť) [Ü,Í] [Æ] [Ü,Í] .leaf rP
def II:=afd [ê] [Ü,Í] [] [Ü,Í] (dN [ads 3 [6] [0,7] O4 [Ü,Í],ads 17 [2,6,7,11] [0,12] O4 [Ü,Í],ads 25 [2,6,7,11,12] [0] [ê] [Ü,Í],ads 37 [2,3,6,7,11,12,24] [0,25] O4 [Ü,Í],ads 45 [2,3,6,7,11,12,24,25] [0] [ê] [Ü,Í]]) kr
def Xe:=afd [ê,đ,ĭ,ĭ] [Ü,Í] [Æ] [Ü,Í] (dN [ads 6 [1,12] [0,6,7,13] [ê,Ù,Ý,Å] Ŭ,ads 20 [1,9,12,13,17] [0,6,7,18] [ê,Ù,Ý,Å] Ŭ,ads 31 [1,9,12,13,17,18] [0,6,7,39] [ê,Ù,Ý,Æ] Ŭ]) ub
def Xf:=afd [đ,ê,Å] [Ü,Í] [æ] Ŷ (dN [ads 8 [0,2,14] [1,7,15] [ê,æ,Å] Ŷ,adx 24 [0,2,8,14,15,24] [1,7,25] [ê,æ,Å] Ŷ [.jg 7 0],ads 32 [0,2,8,14,15,24,25] [1,7] [ê,æ] Ŷ,ads 35 [0,2,8,9,14,15,24,25] [1,7,39] [ê,æ,Æ] Ŷ]) uc
def afh:=afd [õ] [] [ê] [ĺ,Ë] (dN [adx 10 [3,32] [1,4,33] O5 apo [.jg 4 0],ads 27 [3,44] [1,4,45] O5 apo,ads 38 [3,6,44,45] [1,4] [È,é] apo,ads 49 [3,6,44,45,63,64] [1,4,65] O5 apo,adx 69 [3] [1,4,10,11] (ŭ++[Å]) alm [.nil 10 55 (.sl uC)],ads 85 [3,11,12,97,98] [1,4,10,99] (ŭ++[Å]) alm,ads 99 [3,11,12,97,98,99,103,104] [1,4,10,14,105] (ŭ++[Ý,Å]) Le6,ads 107 [3,11,12,97,98,99,103,104,105] [1,4,10,14] (ŭ++[Ý]) Le6,ads 119 [3,11,12,97,98,99,103,104,105,114] [1,4,10,14,16,115] (ŭ++[Ý,ó,Å]) Le9,ads 133 [3,11,12,17,97,98,99,103,104,105,114,115,119] [1,4,10,14,16,120] (ŭ++[Ý,ó,Å]) Le9,ads 141 [3,11,12,17,97,98,99,103,104,105,114,115,119,120] [1,4,10,14,16] (ŭ++[Ý,ó]) Le9,ads 144 [3,11,12,17,18,97,98,99,103,104,105,114,115,119,120] [1,4,10,14,16,143] (ŭ++[Ý,ó,Æ]) Le9,ads 160 [3] [1,4,10,19] (ŭ++[Æ]) alm,ads 174 [3,159] [1,4,10,19,158,160] (ŭ++[Æ,æ,Å]) alm,ads 188 [3,21,159,160,164,165] [1,4,10,19,158,166] (ŭ++[Æ,æ,Å]) alm,ads 202 [3,21,159,160,164,165,166,170,171] [1,4,10,19,23,158,172] (ŭ++[Æ,Ý,æ,Å]) Le6,ads 210 [3,21,159,160,164,165,166,170,171,172] [1,4,10,19,23,158] (ŭ++[Æ,Ý,æ]) Le6,ads 213 [3,19,21,159,160,164,165,166,170,171,172] [1,4,10,23,158,198] (ŭ++[Ý,æ,Æ]) Le6]) sT
def ak9:=afd [.nr 0 1,.d aP] [Ë] [Å] [Ë] (dN [ads 3 [1] [0,12] [.nr 0 1,.d .bool] [Ë]]) BY
def RM:=af4 [.d (.sl aP),.nr 0 1] [Ë] [Æ] [Ë] (dN [ads 6 [0] [1,5] [.nr 0 1,.d aP] [Ë]])
def afj:cA:=cn RM sW
def RL:=af4 [.nr 0 1,.d (.sl aP)] [Ë] [Æ] [Ë] (dN [ads 6 [1] [0,5] [.nr 0 1,.d aP] [Ë]])
def afi:cA:=cn RL sV
def ZG:=afd [.d (.sl aP),.nr 0 1] [Ë] [Æ] [Ë] (dN [ads 2 [] [4] [Æ] [Ë]]) Al
def Ea:=af4 [Ķ,ê] [ĺ,Ë] [Æ] [ĺ,Ë] (dN [ads 14 [0,12] [1,13] O4 [ĺ,Ë]])
def Qo:cA:=cn Ea kc
def Hh:=afd [.d Ke2] [] [Æ] [] (dN [ads 6 [] [2] [Æ] []]) nO
def YN x:ms (lz x) (EY x):=by
 unfold lz EY Au ck bS bU c7 aI cQ;with_reducible repeat' first|apply OI.o;constructor|intro _
def Y7:aN Pg 57 ZC:=Dd NF lz EY YN an ca
def Gh:aN Pg 25 TX:=mk _ _ an ca
def MR:aN Pg 139 Oi:=mk _ _ an ca
def B_:aN Pg 95 Of:=mk _ _ an ca
def Ca:aN Pg 90 CJ:=mk _ _ an ca
def DC:aN Pg 94 DN:=mk _ _ an ca
def EW x:ms (gL x) (qA x):=by
 unfold gL qA mK ly me md CY Prod.t Prod.D bk bD bQ cS eV kZ mw nM Prod.r eh iS Li ck bm bS jY ky bU kq be c7 aI cQ;with_reducible repeat' first|apply OI.o;constructor|intro _
def Fa:aN Pg 99 Fh:=Dd wH gL qA EW an ca
def tv4 (t:TypeId):M Ty:=if aB t 166 then Z (.pr .un .un) else ca t
def BB:aN Pg 98 BF:=mk _ _ (ac B_ (ac MR an)) tv4
def DF:aN Pg 93 DP:=mk _ _ (ac Cc an) ca
def DE:aN Pg 96 DO:=mk _ _ (ac D6 (ac Cc an)) ca
def Mg x:ms (kA x) (vX x):=by
 unfold kA vX r_ ly me md bk bD bQ cS eV kZ mw nM ck bm bS jK ky bU be c7 aI cQ;with_reducible repeat' first|apply OI.o;constructor|intro _
def MQ:aN Pg 92 Oh:=Dd Ct kA vX Mg (ac DF an) ca
def Mf x:ms (kz x) (vW x):=by
 unfold kz vW r9 ly me md bk bD bQ cS eV kZ mw nM ck bm bS jK ky bU be c7 aI cQ;with_reducible repeat' first|apply OI.o;constructor|intro _
def MP:aN Pg 92 Og:=Dd Cr kz vW Mf (ac DE an) ca
def FM x:ms (gx x) (rJ x):=by
 unfold gx rJ nQ ly me md CY Prod.t Prod.u Prod.C bk bD bQ cS eV kZ mw nM Prod.w Prod.y Prod.z Prod.r Prod.F Prod.E Prod.G bS jY bU bX kq be c7 aI cQ;with_reducible repeat' first|apply OI.o;constructor|intro _
def Gg:aN Pg 58 Ha:=Dd xC gx rJ FM (ac Gh (ac Ca (ac Cc (ac DC (ac B_ (ac Wn (ac BB (ac Fa (ac2 6160476 rfl MQ (ac2 6357084 rfl MP an)))))))))) ca
def tv5 (t:TypeId):M Ty:=if aB t 50 then Z (.pr .bool (.pr (.st (.st (.st .un))) (.sl aP))) else ca t
def SK x:ms (lj x) (Ai x):=by
 unfold lj Ai vz ly me md CY bk bD bQ cS eV kZ mw nM Prod.z Prod.r bS bU bX be c7 aI cQ;with_reducible repeat' first|apply OI.o;constructor|intro _
def Gf:aN Pg 24 TW:=Dd Gz lj Ai SK (ac Y7 (ac Gg an)) tv5
def Tl:aN Pg 13 TY:=mk _ _ (ac xo (ac Gf an)) ca
def Vo x:ms (qS x) (BW x):=by
 unfold qS BW Cd ly me md bk bD bQ cS eV kZ mw nM Prod.z dZ eh iS bm bS jK bU bX kq be c7 aI cQ;with_reducible repeat' first|apply OI.o;constructor|intro _
def VO:aN Pg 8 Xb:=Dd Jx qS BW Vo (ac xo (ac Gf (ac Gh (ac D6 an)))) ca
def an6 x:ms (F3 x) (S8 x):=by
 unfold F3 S8 TN bk bD bQ cS iS bS bU c7 aI cQ;with_reducible repeat' first|apply OI.o;constructor|intro _
def anv:aN Pg 44 aot:=Dd acr F3 S8 an6 an ca
def KE:aN Pg 37 K4:=mk _ _ (ac anv an) ca
def TD:aN Pg 12 Um:=mk _ _ (ac VO (ac KE an)) ca
def Jn:aN Pg 43 Xg:=mk _ _ an ca
def PW:aN Pg 20 Qr:=mk _ _ (ac Jn an) ca
def D3:aN Pg 28 Qq:=mk _ _ an ca
def PQ:aN Pg 18 Qn:=mk _ _ (ac PY (ac PU an)) ca
def PP:aN Pg 27 Qm:=mk _ _ (ac Jn an) ca
def Y8:aN Pg 60 ZF:=mk _ _ (ac D3 an) ca
def aeq:aN Pg 29 afk:=mk _ _ (ac PP (ac Y8 an)) ca
def MU:aN Pg 30 Ot:=mk _ _ an ca
def Ts:aN Pg 31 T6:=mk _ _ an ca
def A_:aN Pg 32 KQ:=mk _ _ an ca
def MT:aN Pg 35 Oq:=mk _ _ an ca
def Ii:aN Pg 33 II:=mk _ _ an ca
def VR:aN Pg 34 Xe:=mk _ _ (ac A_ an) ca
def VS:aN Pg 36 Xf:=mk _ _ an tv5
def aen:aN Pg 11 afh:=mk _ _ (ac PQ (ac PW (ac D3 (ac aeq (ac MU (ac Ts (ac A_ (ac Ii (ac VR (ac MT (ac VS an))))))))))) tv3
def VU:aN Pg 39 ak9:=mk _ _ an ca
def aeb x:ms (sW x) (H0 x):=by
 unfold sW H0 Di bS be c7 aI cQ;with_reducible repeat' first|apply OI.o;constructor|intro _
def aep:aN Pg 17 afj:=Dd RM sW H0 aeb (ac ac7 (ac2 3932225575 rfl VU an)) ca
def aea x:ms (sV x) (HZ x):=by
 unfold sV HZ Dh bS be c7 aI cQ;with_reducible repeat' first|apply OI.o;constructor|intro _
def aeo:aN Pg 17 afi:=Dd RL sV HZ aea (ac ac7 (ac2 3932225575 rfl VU an)) ca
def Y9:aN Pg 38 ZG:=mk _ _ (ac2 3932160017 rfl aep (ac2 3932225553 rfl aeo an)) ca
def Py x:ms (kc x) (xS x):=by
 unfold kc xS tO ck bS jK bX be c7 aI cQ;with_reducible repeat' first|apply OI.o;constructor|intro _
def PR:aN Pg 14 Qo:=Dd Ea kc xS Py (ac2 3932160038 rfl Y9 an) ca
def hlaw26_WeakClocks:aN Pg 4 Hh:=mk _ _ (ac Ih (ac aen (ac TD (ac Tl (ac PR an))))) ca
variable {P:Program} {f:FuncId} {L:ξ}
def run_law {pre:Tm} {m:pre.ty.den->M (Tm.ty ⟨[.d .bool],[]⟩).den} (sp:rh P f ⟨pre,⟨[.d .bool],[]⟩,m⟩) (h0:l! pre.bs=0) {x:pre.ty.den} (hx:m x=Z J) {vs:Y TV} {hp:aY} (hi:D2 pre x=Z (vs,hp)) {la:Y AV} (hla:cM hp vs=Z la)
 {W:World} (hg:∀g cells,G g=Z cells->nK (λ_=>False) W (.H cells 0) (.pointer (Z ⟨g,0,U⟩))) (hrel:lE (λ_=>U) (λ_=>False) W la L):
 Calls P f L.toArray W λe w'=>e= .returned (.bool J)/\Below W.heap.size W w':=by
 let⟨N,I⟩:=yR hi;let⟨z,y⟩:=yR (t:=⟨[.d .bool],[]⟩) (x:=J) (vs:=[.f .bool J]) (h1:=PT.leaf) rfl;have D:erHF hp=λ_=>U:=by
  funext n;cases hb:erHF hp n with
  |none=>rfl
  |some b=>
   let⟨c,h1,_⟩:=iO hb;have:=I.lt_len h1;omega
 have own0:∀(φ:PM) k,¬own φ (erHF hp) k:=by rintro φ k ⟨i,b,h1,_⟩;rw[D]at h1;cases h1
 have htot:tot (λ_=>False) (λ_=>U) (erHF hp)=λ_=>False:=by
  funext k;exact propext ⟨λh=>h.elim id λh=>bA h (own0 _ k),λh=>h.elim⟩
 refine Calls.mono (sp.calls x J hx vs hp N _ PT.leaf z la _ I y hla rfl (λ_=>U) (λ_=>False) W L ⟨(λi j b b' k h1=>by rw[D]at h1;cases h1),(λi b h1=>by rw[D]at h1;cases h1),(λk h=>h.elim),(λg cells h=>by rw[htot];exact hg g cells h)⟩ (by rw[htot];exact hrel) (λn k h=>by cases h)) ?_;rintro en w' ⟨v,φ',rfl,he,_,_,_,A⟩;refine ⟨?_,⟨he.os,he.tape,he.output,he.size,λk hk=>he.jd k hk (own0 _ k)⟩⟩;have A:cz φ' _ w' (.f (.raw (.bool J))) v:=A;cases A with
 |f h=>cases h;rfl
def gKw:Tryz.prog.globalNamed "interleave/token.keywords" =Z 0:=by kernel_rfl
def tKw:(Tryz.prog.globals[0]?).map (·.type)=Z 278:=by kernel_rfl
def kw_of_laid {W:World} (h:laidMetH Tryz.prog [("interleave/token.keywords",Rows.laid_interleave_token_keywords)] W):∀g cells,G g=Z cells→nK (λ_=>False) W (.H cells 0) (.pointer (Z ⟨g,0,U⟩)):=by
 intro g cells hG;unfold G at hG;split at hG
 .rename_i hg;have hg:=eq_of_beq hg;subst hg;cases hG;rw[MakeChecks.laidMetH_plain _ _ _ (by kernel_rfl)]at h;let⟨ps,⟨g0,t0,cs0,f0,p0,q0,N,ht0,hv0,hd0,_,_⟩,_,_⟩:=h;obtain rfl:=fL (gKw.symm.trans N);obtain rfl:=fL (tKw.symm.trans ht0);obtain⟨xs,m1,rfl,D,hlen,hn,hel⟩:=DataW.trod_array Tryz.underlying278 hd0;have c1:Tryz.prog.cellsOf 9=1:=by kernel_rfl
  have c22:Tryz.prog.cellsOf 278=22:=by kernel_rfl
  rw[c22]at hlen;simp only[aT,Rows.laid_interleave_token_keywords,DataW.agg.injEq]at D;have hxs:=D.1;have hcell:∀j,j<22→∃l,(xs.map (·.1))[j]? =Z (.lit (.string l))∧W.cell? ⟨0,j,U⟩=Z (.string ⟨l.toArray⟩):=λj L=>by
   have h1:=hel j L;rw[c1,Hy]at h1;rw[aH (by omega)]at h1;let⟨s,e1,e2,_⟩:=DataW.trod_string Tryz.underlying9 h1;refine ⟨s.data.toList,?_,?_⟩
   .rw[bE,aH (by omega),bx,e2]
   .have:=World.var?_cell N hv0 j;rw[this];have z:cs0.toList[j]? =Z (.string s):=by
     have:((cs0.toList.drop j).take 1)[0]? =Z (.string s):=by rw[e1];rfl
     rw[gu,aE (by omega),tF]at this;simpa using this
    rw[← di,z]
  have hb:0<W.heap.size:=by
   let⟨l,_,z⟩:=hcell 0 (by omega);exact World.block_lt_of_cell? W _ z
  refine .H F5 0 0 0 (λj=>(W.cell? ⟨0,j,U⟩).getD undef) (λh=>h) hb (λx A=>?_) (λj L=>?_) (λj x A=>?_)
  .simp only[F5,a_,cD,fG]at A;rcases A with rfl|rfl|rfl|rfl|rfl|rfl|rfl|rfl|rfl|rfl|rfl|rfl|rfl|rfl|rfl|rfl|rfl|rfl|rfl|rfl|rfl|rfl<;>rfl
  .obtain⟨l,_,z⟩:=hcell j L;rw[b9,z];rfl
  .have L:j<22:=(bz.1 A).1;let⟨l,h1,z⟩:=hcell j L;rw[← hxs]at h1;have:x= .raw (.string ⟨l.toArray⟩):=by
    rcases j with _|_|_|_|_|_|_|_|_|_|_|_|_|_|_|_|_|_|_|_|_|_|j;all_goals first|(simp only[hY,Bu,ah,DataW.lit.injEq,Lit.string.injEq,F5]at h1 A;subst h1 A;rfl)|omega
   rw[this,z];exact .raw _
 .cases hG
end
end Go.Proofs.YtcmnmakaoonfgaaGreatDoor.AI
