/-
  Texts of the proof, part 6 of 6: what is used to prove the statement. No condition.
-/
import Derived.Test.YtpjhicegjenpeaaGreatDoorWeakMoreQ4
import Derived.Test.YtpjhicegjenpeaaGreatDoorRows
import Derived.LaidMore
namespace Go.Proofs.YtpjhicegjenpeaaGreatDoor.AI
open Go.RowKit
set_option maxRecDepth 100000
set_option maxHeartbeats 4000000
set_option linter.unusedVariables false
set_option linter.unusedSimpArgs false
set_option linter.defProp false
open _root_.Bool renaming true→J
open _root_.List renaming length→l!,getElem?_cons_zero→ie,getElem?_cons_succ→BT
open _root_.Nat renaming beq→ax,mul_one→HY
open _root_.Option renaming some→Z,none→U,map_some→bi
open _root_.Prod renaming a→bf,b→bw,c→bH,d→cE,e→c8,f→dJ,h→dQ,g→eD,i→gf,n→hY,k→hZ,j→iK,o→iR,m→ji,l→kl,r→vu,q→wW,p→xm,y→HX,s→Pu
noncomputable section
def DL x:l9 (iw x) (pw x):=by
 unfold iw pw pB bf bw bH cE eD hY bn bU jQ bR bY aZ c7 aH cV;with_reducible repeat' first|apply OI.o;constructor|intro _
def DX:aJ Pg 64 D_:=AF vo iw pw DL an bZ
def DK x:l9 (eh x) (pu x):=by
 unfold eh pu pA bf bw bH bU bR bY kK aZ c7 aH cV;with_reducible repeat' first|apply OI.o;constructor|intro _
def DW:aJ Pg 65 D9:=AF vn eh pu DK (ac P_ an) bZ
def DJ x:l9 (gx x) (pt x):=by
 unfold gx pt md bf bw cE dQ bU jQ bY aZ c7 aH cV;with_reducible repeat' first|apply OI.o;constructor|intro _
def DV:aJ Pg 67 D8:=AF vm gx pt DJ an bZ
def DM x:l9 (iy x) (px x):=by
 unfold iy px pD bf bw cE dQ bU bY aZ c7 aH cV;with_reducible repeat' first|apply OI.o;constructor|intro _
def DY:aJ Pg 34 D':=AF vp iy px DM (ac DX (ac DW (ac K6 (ac DV an)))) bZ
def PZ x:l9 (pQ x) (yg x):=by
 unfold pQ yg yo bf bw bH c8 eD dQ ck bU bR aZ c7 aH cV;with_reducible repeat' first|apply OI.o;constructor|intro _
def Qj:aJ Pg 68 QJ:=AF Ev pQ yg PZ an bZ
def Gb x:l9 (fg x) (rK x):=by
 unfold fg rK r_ bf bw bH eD bU bR bY aZ c7 aH cV;with_reducible repeat' first|apply OI.o;constructor|intro _
def Gw:aJ Pg 35 Ht:=AF xP fg rK Gb (ac Qj an) bZ
def wJ:aJ Pg 117 ON:=mk _ _ an bZ
def K3:aJ Pg 118 Lk:=mk _ _ (ac wJ an) bZ
def S0 x:l9 (lM x) (AB x):=by
 unfold lM AB vE bf bw bH eD bU jQ bY aZ c7 aH cV;with_reducible repeat' first|apply OI.o;constructor|intro _
def GJ:aJ Pg 116 Um:=AF Hl lM AB S0 (ac wJ an) bZ
def Qh:aJ Pg 119 QH:=mk _ _ (ac Qo an) bZ
def uS:aJ Pg 70 Ll:=mk _ _ (ac GJ (ac wJ (ac K3 (ac Qh an)))) bZ
def Iw:aJ Pg 69 I1:=mk _ _ (ac GJ an) bZ
def Fj:aJ Pg 71 Fr:=mk _ _ an bZ
def Az x:l9 (gk x) (mR x):=by
 unfold gk mR m7 bf bw bH cE c8 eD hY bn bU kY bR bY aZ c7 aH cV;with_reducible repeat' first|apply OI.o;constructor|intro _
def AO:aJ Pg 72 Bj:=AF sr gk mR Az an bZ
def EZ x:l9 (gU x) (qH x):=by
 unfold gU qH m6 bf bw bH cE c8 bn bU bY aZ c7 aH cV;with_reducible repeat' first|apply OI.o;constructor|intro _
def Fi:aJ Pg 73 Fq:=AF wR gU qH EZ an bZ
def Ef:aJ Pg 155 QF:=mk _ _ an bZ
def akf:aJ Pg 150 C7:=mk _ _ an bZ
def aow:aJ Pg 150 apw:= @aJ.sub Pg 150 C7.pre C7.post MS Tf akf rfl (λx y h=>tL (b:=1) x y h)
def afm:aJ Pg 150 zY:=mk _ _ an bZ
def ake:aJ Pg 150 alp:= @aJ.sub Pg 150 zY.pre zY.post Is MR afm rfl (λx y h=>tL (b:=1) x y h)
def aka:aJ Pg 151 C5:=mk _ _ an bZ
def aov:aJ Pg 151 apt:= @aJ.sub Pg 151 C5.pre C5.post MP Te aka rfl (λx y h=>tL (b:=24) x y h)
def afk:aJ Pg 151 zW:=mk _ _ an bZ
def ak9:aJ Pg 151 alm:= @aJ.sub Pg 151 zW.pre zW.post Iq MO afk rfl (λx y h=>tL (b:=24) x y h)
def afl:aJ Pg 75 zX:=mk _ _ an bZ
def akd:aJ Pg 75 alo:= @aJ.sub Pg 75 zX.pre zX.post Ir Cl afl rfl (λx y h=>tL (b:=8) x y h)
def PY x:l9 (lQ x) (yf x):=by
 unfold lQ yf tX bf c8 ck bU bR bY aZ c7 cV;with_reducible repeat' first|apply OI.o;constructor|intro _
def Qi:aJ Pg 120 QI:=AF Eu lQ yf PY (ac akg (ac ake (ac ak9 an))) bZ
def MB x:l9 (kP x) (v_ x):=by
 unfold kP v_ sj bf bw c8 ck bU kY kK aZ c7 aH cV;with_reducible repeat' first|apply OI.o;constructor|intro _
def Nh:aJ Pg 125 OO:=AF CV kP v_ MB (ac Ef an) bZ
def Gh x:l9 (ik x) (rO x):=by
 unfold ik rO oe bf bw c8 eD ck bU kK aZ c7 aH cV;with_reducible repeat' first|apply OI.o;constructor|intro _
def GG:aJ Pg 126 Hy:=AF xS ik rO Gh (ac Ef an) bZ
def Nn:aJ Pg 208 OY:=mk _ _ an bZ
def Qn:aJ Pg 187 QN:=mk _ _ (ac Nn an) bZ
def IF:aJ Pg 191 I9:=mk _ _ an bZ
def Nl:aJ Pg 153 OT:=mk _ _ (ac IF an) bZ
def w9 x:l9 (gq x) (lw x):=by
 unfold gq lw lz ck bU kK c7 aH cV;with_reducible repeat' first|apply OI.o;constructor|intro _
def xa:aJ Pg 181 xf:=AF pm gq lw w9 (ac Qn an) bZ
def DI x:l9 (kf x) (po x):=by
 unfold kf po py bf bw bn kY bR aH;with_reducible repeat' first|apply OI.o;constructor|intro _
def DU:aJ Pg 152 D7:=AF vk kf po DI (ac xa an) bZ
def afj:aJ Pg 121 agq:=mk _ _ (ac DU (ac Nl an)) bZ
def S6 x:l9 (mY x) (AC x):=by
 unfold mY AC Bb bn bU bR kK aZ c7 aH cV;with_reducible repeat' first|apply OI.o;constructor|intro _
def TN:aJ Pg 122 Ux:=AF Hs mY AC S6 an bZ
def Bz:aJ Pg 124 Lm:=mk _ _ an bZ
def MH x:l9 (oK x) (wg x):=by
 unfold oK wg wN bU kK aZ c7 aH cV;with_reducible repeat' first|apply OI.o;constructor|intro _
def No:aJ Pg 154 O0:=AF C1 oK wg MH (ac Bz an) bZ
def KQ x:l9 (jZ x) (uO x):=by
 unfold jZ uO uU ck bn bU bR kK aZ c7 aH cV;with_reducible repeat' first|apply OI.o;constructor|intro _
def K7:aJ Pg 123 Ls:=AF BR jZ uO KQ (ac Bz (ac No an)) bZ
def Nk:aJ Pg 74 OR:=mk oP il (ac uS (ac Qi (ac Nh (ac GG an)))) bZ
def tv2 (t:TypeId):M Ty:=if ax t 172 then Z (.pr .un (.pr .un (.pr .un (.pr .un eM)))) else bZ t
def Ni:aJ Pg 120 OP:=mk _ _ (ac TO (ac aow (ac aov an))) tv2
def Nj:aJ Pg 74 OQ:=mk _ _ (ac uS (ac Ni (ac afj (ac TN (ac K7 an))))) tv2
def Qk:aJ Pg 74 QK:=(aJ.orE (pre:=oP.pre) (post:=oP.post) (m:=il) (m':=mr) rfl Nk Nj)
def Ix:aJ Pg 36 I2:=mk _ _ (ac Iw (ac uS (ac Fj (ac AO (ac Fi (ac Qk (ac akd (ac TO an)))))))) bZ
def BW x:l9 (eV x) (nW x):=by
 unfold eV nW k_ dJ xm bU kY mK bR bY aZ c7 aH cV;with_reducible repeat' first|apply OI.o;constructor|intro _
def BX:aJ Pg 37 B6:=AF sQ eV nW BW an bZ
def tv3 (t:TypeId):M Ty:=if ax t 83 then Z (.pr .bool (.pr (.st (.st (.st (.st .un)))) uE)) else bZ t
def Ge x:l9 (gA x) (rM x):=by
 unfold gA rM oa bf bw bH cE eD hY ck bn bU mK bR bY aZ c7 aH cV;with_reducible repeat' first|apply OI.o;constructor|intro _
def xI:aJ Pg 16 Hu:=AF xQ gA rM Ge (ac DY (ac Gw (ac Ix (ac2 3932225573 rfl BX an)))) tv3
def Y3 x:l9 (qS x) (E8 x):=by
 unfold qS E8 AZ bf c8 ck bU jQ bR bY aZ c7 aH cV;with_reducible repeat' first|apply OI.o;constructor|intro _
def ZK:aJ Pg 7 aaq:=AF Ow qS E8 Y3 (ac xI (ac afh (ac ak7 an))) bZ
def aev x:l9 (tB x) (In x):=by
 unfold tB In Dt bU jQ bR bY aZ c7 aH cV;with_reducible repeat' first|apply OI.o;constructor|intro _
def afi:aJ Pg 13 agm:=AF R2 tB In aev (ac ZK (ac ym (ac ZF (ac TJ an)))) bZ
abbrev ayt:Y PV:=[ë,ì,á,â,ô,ä,é,Ą,ę,.mp 10,ê]
def ŗ:Y PB:=[.G 62 [Í],.G 61 ayt,Ã,ó,Å,Å,Å,Å,î,Ĕ,.Q .qr 12,.Q (.qn 158) 12,Ø,Ê,Ê]
abbrev Le0:Y PB:=(ŗ++[ł,.G 4 [Z?]])
abbrev Le1:Y PB:=(ŗ++[Ů,ł])
abbrev Le5:Y PV:=[ë,ð,ì,á,â,ô,ä,é,Ą,.mp 9,Đ]
def ĩ:PB:=.G 61 Le5
def ŭ:Y PB:=[ĩ,Ã,ó,Å,Å,Å,Å]
def Œ:Y PB:=(ŭ++[ü,î,Ķ,č,Ø,Ê])
abbrev Le2:Y PB:=(Œ++[Ê,.G 62 [Â],Ů,ł])
abbrev Le3:Y PB:=(Œ++[Ê])
abbrev Le4:Y PB:=[ŷ,.G 61 [ë,â,ô,ä,é,Ą,ę,Đ,ê,.mp 12,.I 13],Ł,Ů,Ã,ó,Å,Å,Å,Å,Ĕ,ĸ,.Q .qr 16,.Q (.qn 158) 16,Ê,Ê,Ø]
abbrev Le6:Y PB:=[ŷ,.G 61 [ë,á,â,ô,ä,é,Ą,ę,Đ,.mp 11,ī],Ł,Ã,ó,Å,Å,Å,Å,î,Ĕ,.Q .qr 15,.Q (.qn 158) 15,Ê,Ê,Ø]
abbrev Le7:Y PB:=(Œ++[Ê,Ů])
abbrev Le8:Y PB:=(ŭ++[Ĕ,ĸ,Ķ,č,Ø,Ć,Ć,Ê,Ê])
abbrev Le9:Y PV:=[Â,Í,ì,ß,Z?]
def Uw:=acg Pm [] ox [] (ef [ſ 4 [0,1,5] [6] [Z?] [],ſ 6 [0,1,6] [5] [Z!] [],ſ 16 [] [7] [æ] Ji,ſ 17 [1] [7,33] [æ,Z?] Ji]) AG
def NY:=abg [Z!] [] [æ] Ji (ef [ſ 8 [8] [3,9] UL Ji])
def ZW:cw:=cn NY lO
def T5:=acg [Ë] [] [Z?] [] (ef [ſ 2 [] [2] [Z?] []]) mV
def OC:=acg [Ï,Ë] [] [Z!] [] (ef [ſ 6 [6] [2,3,7] sD Ũ]) ml
def Oy:=acg [Ï,Ë] [] [Z!] [] (ef [ſ 6 [6] [2,3,7] sD Ũ]) mj
def C2:=acg [Â,Ë] Le3 ox Le3 (ef [ſ 7 [] [5] [.I 14] (Œ++[Ê,Å])]) jF
def D3:=acg [.ob 0 0,Ë] [Ø] [] [Ø] .leaf j9
def wT:=abg [Â,Z!,Ë] Le3 [] Le8 (ef [FS 6 [] [] [] Le8 [.jm 0 13,.jm 0 14],ſ 39 [1,105] [0,5,104,106] [Â,Ī,ä,Z!] Le7,ſ 47 [1,105,106] [0,5,104] [Â,Ī,ä] Le7])
def Fs:cw:=cn wT gV
def B7:=acg [Â,Z!,Ë] Le3 [] [.G 61 [ë,ð,ì,á,â,ô,ä,é,Ą,.mp 9,.I 14],Ã,ó,Å,Å,Å,Å,ü,î,.Q .qr 15,Ć,Ć,Ê,Ê,.Q (.qn 158) 15,Ø] (ef [(60000,(.a [.qx 0 16,.jm 0 15]))]) iO
def D6:=acg [ý,Ģ,Ę,Â] Le1 [] Le1 (ef [ſ 0 [] [0,2,3,25] [ý,Ę,Â,Z?] Le1]) kc
def D5:=acg [ý,Ģ,Â,Ę] Le0 [] Le0 (ef [ſ 0 [] [0,1,2,3,31] [ý,Ģ,Â,Ę,Z?] Le0]) j_
def CO:=abg [ý,þ,Â] Le1 [] Le1 (ef [ſ 3 [11] [0,1,10,12] [ý,þ,ê,Z!] Le1,ſ 11 [11,12] [0,1,10] [ý,þ,ê] Le1,ſ 14 [11,12] [0,1,6,10,59] [ý,þ,ý,ê,Z?] Le1])
def OA:cw:=cn CO kM
def CM:=abg [ý,ÿ,Â] Le0 [] Le0 (ef [ſ 3 [11] [0,1,10,12] [ý,ÿ,ê,Z!] Le0,ſ 11 [11,12] [0,1,10] [ý,ÿ,ê] Le0,ſ 14 [11,12] [0,1,6,10,59] [ý,ÿ,ý,ê,Z?] Le0])
def Oz:cw:=cn CM kL
def xR:=abg [Â,Z!,Ë] Le3 [] [.G 61 [ë,.I 14,.I 15,á,â,ô,ä,é,Ą,.mp 9,.I 16],Ć,Ć,Å,Å,Å,Å,.Q (.rr 40 1) 18,.Q (.rr 40 1) 19,.Q .qr 17,Ć,Ć,Ć,Ć,Ã,ó,.Q (.qn 158) 17,Ø,Ê,Ê] (ef [ſ 8 [1,24,25] [3,5,6,26] [Ī,Ģ,Ę,Z!] Le2,ſ 16 [1,24,25,26] [3,5,6] [Ī,Ģ,Ę] Le2,ſ 27 [1] [3,5,6,9] [Ī,Ģ,Ę,Į] Le2,ſ 34 [1,52] [3,5,6,9,53] [Ī,Ģ,Ę,Į,Z!] Le2,ſ 42 [1,52,53] [3,5,6,9] [Ī,Ģ,Ę,Į] Le2,ſ 58 [1] [3,5,6] [Ī,Ģ,Ę] Le2,ſ 67 [1] [3,5,6,9,12,13] [Ī,Ģ,Ę,Į,.ob 11 0,.P 17 0] (Œ++[Ê,.G 62 [Â],Ů,ł,.G 4 [Z?]])])
def Hw:cw:=cn xR gB
def G5:=abg [ë] [] [Â] Le3 (ef [FS 10 [34,35] [4,36] xi (ŭ++[.Q (.rr 40 1) 11,ü,.Q .qr 13,.Q (.qn 158) 13,Ê,Ê,Ø]) [.fmp 4 15 162 l_,.frw 4 16 15 158,.qh 4 7 40 (.sl aM),.qh 4 8 75 eU]])
def T4:cw:=cn G5 mU
def JX:=abg [ë] [] [ĥ,Z!] [] (ef [FS 20 [23,24] [1,6,7,25] aqi Le6 [.nil 7 52 eU],ſ 28 [23,24,25] [1,6,7] [Â,Í,ì] Le6,ſ 32 [8,23,24,25] [1,6,7,9,42] Le9 Le4,ſ 40 [8,23,24,25,46,47] [1,6,7,9,48] [Â,Í,ì,ß,Z!] Le4,ſ 48 [8,23,24,25,46,47,48] [1,6,7,9] [Â,Í,ì,ß] Le4,ſ 52 [8,10,23,24,25,46,47,48] [1,6,7,9,11,69] [Â,Í,ì,ß,õ,Z?] [ŷ,.G 61 [ë,ô,ä,é,Ą,ę,Đ,ê,ī,.mp 13,.I 14],Ł,Ů,Ů,Ã,ó,Å,Å,Å,Å,ĸ,.Q (.rr 40 1) 16,.Q .qr 17,.Q (.qn 158) 17,Ê,Ê,Ø],ſ 57 [8,10,23,24,25,46,47,48] [1,6,7,9,12] Le9 Le4,ſ 59 [8,10,23,24,25,46,47,48] [1,6,7,9,96] Le9 Le4])
def Xk:cw:=cn JX lI
def adh:=abg [] [] [Ï] [] (ef [FS 8 [21] [0,1,22] yz aqs [.qh 1 5 124 pW],ſ 22 [2,21,22] [0,1,3] yz aqs])
def apr:cw:=cn adh Gm
def Lo:=acg [Z?] [] [ë] [] (ef [ſ 4 [] [2,3] xi [ŉ]]) qi
def Us:=acg [] [] [Z?] [] (ef [ſ 6 [] [0] [Z?] []]) vA
def Lp:=acg [į] [] [Z?] [] (ef [ſ 9 [4,6] [28] [Z?] [],ſ 22 [4,29,30] [8,31] Bp [],ſ 35 [4,29,30,31] [8,10] [Z!,Â] [.G 52 [ã]],ſ 37 [4,8,29,30,31] [10,46] iC [.G 52 [ã]]]) nG
def TK:aJ Pg 45 Uw:=mk _ _ an bZ
def YZ x:l9 (lO x) (E4 x):=by
 unfold lO E4 AS ck bU bR c7 aH cV;with_reducible repeat' first|apply OI.o;constructor|intro _
def Zh:aJ Pg 38 ZW:=AF NY lO E4 YZ an bZ
def Gy:aJ Pg 21 T5:=mk _ _ an bZ
def M7:aJ Pg 127 OC:=mk _ _ an bZ
def Cv:aJ Pg 81 Oy:=mk _ _ an bZ
def Cw:aJ Pg 77 C2:=mk _ _ an bZ
def DQ:aJ Pg 80 D3:=mk _ _ an bZ
def E0 x:l9 (gV x) (qI x):=by
 unfold gV qI m8 hZ iR kl wW Pu Prod.D bf bw bH cE dJ gf iK ji Prod.t dQ hY vu ck bn bU kY mK bR kK aZ c7 aH cV;with_reducible repeat' first|apply OI.o;constructor|intro _
def Fk:aJ Pg 84 Fs:=AF wT gV qI E0 an bZ
def tv4 (t:TypeId):M Ty:=if ax t 158 then Z (.pr .un .un) else bZ t
def BY:aJ Pg 83 B7:=mk _ _ (ac Cv (ac M7 an)) tv4
def DS:aJ Pg 79 D6:=mk _ _ (ac xM an) bZ
def DR:aJ Pg 82 D5:=mk _ _ (ac ym (ac xM an)) bZ
def Mx x:l9 (kM x) (v9 x):=by
 unfold kM v9 sg hZ iR kl bf bw bH cE dJ gf iK ji ck bn bU jQ mK bR aZ c7 aH cV;with_reducible repeat' first|apply OI.o;constructor|intro _
def M6:aJ Pg 78 OA:=AF CO kM v9 Mx (ac DS an) bZ
def Mw x:l9 (kL x) (v8 x):=by
 unfold kL v8 sd hZ iR kl bf bw bH cE dJ gf iK ji ck bn bU jQ mK bR aZ c7 aH cV;with_reducible repeat' first|apply OI.o;constructor|intro _
def M5:aJ Pg 78 Oz:=AF CM kL v8 Mw (ac DR an) bZ
def Gf x:l9 (gB x) (rN x):=by
 unfold gB rN oc hZ iR kl wW Pu Prod.u Prod.C bf bw bH cE dJ gf iK ji HX Prod.z Prod.B Prod.t Prod.H Prod.E Prod.F bU kY bR bY kK aZ c7 aH cV;with_reducible repeat' first|apply OI.o;constructor|intro _
def Gx:aJ Pg 39 Hw:=AF xR gB rN Gf (ac Gy (ac xM (ac TK (ac Cw (ac DQ (ac Cv (ac BY (ac Fk (ac2 5242958 rfl M6 (ac2 5439566 rfl M5 an)))))))))) bZ
def tv5 (t:TypeId):M Ty:=if ax t 40 then Z (.pr .bool (.pr (.st (.st (.st .un))) (.sl aM))) else bZ t
def SX x:l9 (mU x) (AA x):=by
 unfold mU AA vD hZ iR kl wW bf bw bH cE dJ gf iK ji Prod.B Prod.t bU bR bY aZ c7 aH cV;with_reducible repeat' first|apply OI.o;constructor|intro _
def Tp:aJ Pg 17 T4:=AF G5 mU AA SX (ac Zh (ac Gx an)) tv5
def VD x:l9 (lI x) (Ci x):=by
 unfold lI Ci xN hZ iR kl bf bw bH cE dJ gf iK ji Prod.B eD dQ hY bn bU jQ bR bY kK aZ c7 aH cV;with_reducible repeat' first|apply OI.o;constructor|intro _
def JH:aJ Pg 12 Xk:=AF JX lI Ci VD (ac xI (ac Tp (ac Gy (ac ym an)))) bZ
def ao4 x:l9 (Gm x) (S_ x):=by
 unfold Gm S_ TX bf bw bH cE hY bU bR c7 aH cV;with_reducible repeat' first|apply OI.o;constructor|intro _
def aot:aJ Pg 25 apr:=AF adh Gm S_ ao4 an bZ
def K4:aJ Pg 20 Lo:=mk _ _ (ac aot an) bZ
def TI:aJ Pg 11 Us:=mk _ _ (ac JH (ac K4 an)) bZ
def hlaw26_WeakMore:aJ Pg 4 Lp:=mk _ _ (ac Iz (ac TI (ac JH (ac afi an)))) bZ
variable {f:FuncId} {T:Program} {L:ξ}
def run_law {pre:Tm} {m:pre.ty.den->M (Tm.ty ⟨[.d .bool],[]⟩).den} (sp:rx T f ⟨pre,⟨[.d .bool],[]⟩,m⟩) (h0:l! pre.bs=0) {x:pre.ty.den} (hx:m x=Z J) {vs:Y TV} {hp:aY} (hi:Ee pre x=Z (vs,hp)) {la:Y AV} (hla:cN hp vs=Z la)
 {W:World} (hg:∀g cells,G g=Z cells->ny (λ_=>False) W (.P cells 0) (.pointer (Z ⟨g,0,U⟩))) (hrel:lY (λ_=>U) (λ_=>False) W la L):
 Calls T f L.toArray W λe w'=>e= .returned (.bool J)/\Below W.heap.size W w':=by
 let⟨l1,I⟩:=zD hi;let⟨z,y⟩:=zD (t:=⟨[.d .bool],[]⟩) (x:=J) (vs:=[.f .bool J]) (h1:=PT.leaf) rfl;have D:erHF hp=λ_=>U:=by
  funext n;cases hb:erHF hp n with
  |none=>rfl
  |some b=>
   let⟨c,h1,_⟩:=iX hb;have:=I.lt_len h1;omega
 have own0:∀(φ:PM) k,¬own φ (erHF hp) k:=by rintro φ k ⟨i,b,h1,_⟩;rw[D]at h1;cases h1
 have htot:tot (λ_=>False) (λ_=>U) (erHF hp)=λ_=>False:=by
  funext k;exact propext ⟨λh=>h.elim id λh=>cu h (own0 _ k),λh=>h.elim⟩
 refine Calls.mono (sp.calls x J hx vs hp l1 _ PT.leaf z la _ I y hla rfl (λ_=>U) (λ_=>False) W L ⟨(λi j b b' k h1=>by rw[D]at h1;cases h1),(λi b h1=>by rw[D]at h1;cases h1),(λk h=>h.elim),(λg cells h=>by rw[htot];exact hg g cells h)⟩ (by rw[htot];exact hrel) (λn k h=>by cases h)) ?_;rintro en w' ⟨v,φ',rfl,he,_,_,_,A⟩;refine ⟨?_,⟨he.os,he.tape,he.output,he.size,λk hk=>he.jp k hk (own0 _ k)⟩⟩;have A:co φ' _ w' (.f (.raw (.bool J))) v:=A;cases A with
 |f h=>cases h;rfl
def gKw:Tryz.prog.globalNamed "interleave/token.keywords" =Z 0:=by kernel_rfl
def tKw:(Tryz.prog.globals[0]?).map (·.type)=Z 274:=by kernel_rfl
def kw_of_laid {W:World} (h:laidMetH Tryz.prog [("interleave/token.keywords",Rows.laid_interleave_token_keywords)] W):∀g cells,G g=Z cells→ny (λ_=>False) W (.P cells 0) (.pointer (Z ⟨g,0,U⟩)):=by
 intro g cells hG;unfold G at hG;split at hG
 .rename_i hg;have hg:=eq_of_beq hg;subst hg;cases hG;rw[MakeChecks.laidMetH_plain _ _ _ (by kernel_rfl)]at h;let⟨ps,⟨g0,t0,cs0,f0,p0,q0,hg0,ht0,hv0,hd0,_,_⟩,_,_⟩:=h;obtain rfl:=fV (gKw.symm.trans hg0);obtain rfl:=fV (tKw.symm.trans ht0);obtain⟨xs,m1,rfl,D,hlen,hn,hel⟩:=DataW.trod_array Tryz.underlying274 hd0;have c1:Tryz.prog.cellsOf 9=1:=by kernel_rfl
  have c22:Tryz.prog.cellsOf 274=22:=by kernel_rfl
  rw[c22]at hlen;simp only[aR,Rows.laid_interleave_token_keywords,DataW.agg.injEq]at D;have hxs:=D.1;have hcell:∀j,j<22→∃l,(xs.map (·.1))[j]? =Z (.lit (.string l))∧W.cell? ⟨0,j,U⟩=Z (.string ⟨l.toArray⟩):=λj L=>by
   have h1:=hel j L;rw[c1,HY]at h1;rw[aG (by omega)]at h1;let⟨s,e1,e2,_⟩:=DataW.trod_string Tryz.underlying9 h1;refine ⟨s.data.toList,?_,?_⟩
   .rw[bB,aG (by omega),bi,e2]
   .have:=World.var?_cell hg0 hv0 j;rw[this];have z:cs0.toList[j]? =Z (.string s):=by
     have:((cs0.toList.drop j).take 1)[0]? =Z (.string s):=by rw[e1];rfl
     rw[fc,aD (by omega),tP]at this;simpa using this
    rw[← dc,z]
  have hb:0<W.heap.size:=by
   let⟨l,_,z⟩:=hcell 0 (by omega);exact World.block_lt_of_cell? W _ z
  refine .P Gp 0 0 0 (λj=>(W.cell? ⟨0,j,U⟩).getD undef) (λh=>h) hb (λx A=>?_) (λj L=>?_) (λj x A=>?_)
  .simp only[Gp,aV,b8,fo]at A;rcases A with rfl|rfl|rfl|rfl|rfl|rfl|rfl|rfl|rfl|rfl|rfl|rfl|rfl|rfl|rfl|rfl|rfl|rfl|rfl|rfl|rfl|rfl<;>rfl
  .obtain⟨l,_,z⟩:=hcell j L;rw[bX,z];rfl
  .have L:j<22:=(bC.1 A).1;let⟨l,h1,z⟩:=hcell j L;rw[← hxs]at h1;have:x= .raw (.string ⟨l.toArray⟩):=by
    rcases j with _|_|_|_|_|_|_|_|_|_|_|_|_|_|_|_|_|_|_|_|_|_|j;all_goals first|(simp only[ie,BT,ah,DataW.lit.injEq,Lit.string.injEq,Gp]at h1 A;subst h1 A;rfl)|omega
   rw[this,z];exact .raw _
 .cases hG
end
end Go.Proofs.YtpjhicegjenpeaaGreatDoor.AI
