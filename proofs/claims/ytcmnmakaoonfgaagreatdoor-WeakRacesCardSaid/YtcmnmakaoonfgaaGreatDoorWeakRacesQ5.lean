/-
  Texts of the proof, part 6 of 6: what is used to prove the statement. No condition.
-/
import Derived.Test.YtcmnmakaoonfgaaGreatDoorWeakRacesQ4
import Derived.Test.YtcmnmakaoonfgaaGreatDoorRows
import Derived.LaidMore
namespace Go.Proofs.YtcmnmakaoonfgaaGreatDoor.AI
open Go.RowKit
set_option maxRecDepth 100000
set_option maxHeartbeats 4000000
set_option linter.unusedVariables false
set_option linter.unusedSimpArgs false
set_option linter.defProp false
open _root_.Bool renaming true→J
open _root_.List renaming length→l!,getElem?_cons_zero→g_,getElem?_cons_succ→Bu
open _root_.Nat renaming beq→aB,mul_one→Hy
open _root_.Option renaming some→Z,none→U,map_some→bx
open _root_.Prod renaming a→bk,b→bB,c→bP,e→cP,d→c_,f→dQ,h→ef,g→eU,k→iF,j→kJ,l→kK,i→lD,n→lE,m→lP,o→mw,p→xa,q→CZ,s→Lj
noncomputable section
def Dw x:nj (ij x) (pA x):=by
 unfold ij pA pE bk bB bP cP dQ iF bm bV jY bT bW bc c8 aI cS;with_reducible repeat' first|apply OI.o;constructor|intro _
def DH:aM Pg 77 DR:=E7 vm ij pA Dw an ca
def Dv x:nj (ep x) (py x):=by
 unfold ep py pD bk bB bP bV bT bW kf bc c8 aI cS;with_reducible repeat' first|apply OI.o;constructor|intro _
def DG:aM Pg 78 DQ:=E7 vk ep py Dv (ac PU an) ca
def Du x:nj (gq x) (px x):=by
 unfold gq px lS bk bB cP ef bV jY bW bc c8 aI cS;with_reducible repeat' first|apply OI.o;constructor|intro _
def DF:aM Pg 80 DP:=E7 vj gq px Du an ca
def Dx x:nj (ik x) (pB x):=by
 unfold ik pB pF bk bB cP ef bV bW bc c8 aI cS;with_reducible repeat' first|apply OI.o;constructor|intro _
def DI:aM Pg 53 DS:=E7 vn ik pB Dx (ac DH (ac DG (ac KH (ac DF an)))) ca
def PK x:nj (pT x) (xU x):=by
 unfold pT xU xZ bk bB bP c_ dQ ef ck bV bT bc c8 aI cS;with_reducible repeat' first|apply OI.o;constructor|intro _
def Qd:aM Pg 81 QJ:=E7 Eo pT xU PK an ca
def FM x:nj (fm x) (rK x):=by
 unfold fm rK sg bk bB bP dQ bV bT bW bc c8 aI cS;with_reducible repeat' first|apply OI.o;constructor|intro _
def Gf:aM Pg 54 Ha:=E7 xC fm rK FM (ac Qd an) ca
def wy:aM Pg 129 OH:=mk _ _ an ca
def KC:aM Pg 130 KY:=mk _ _ (ac wy an) ca
def SU x:nj (lB x) (Aj x):=by
 unfold lB Aj vB bk bB bP dQ bV jY bW bc c8 aI cS;with_reducible repeat' first|apply OI.o;constructor|intro _
def Gm:aM Pg 128 Um:=E7 G6 lB Aj SU (ac wy an) ca
def Qb:aM Pg 131 QH:=mk _ _ (ac Qi an) ca
def uR:aM Pg 83 KZ:=mk _ _ (ac Gm (ac wy (ac KC (ac Qb an)))) ca
def Ib:aM Pg 82 IC:=mk _ _ (ac Gm an) ca
def Fa:aM Pg 84 Fh:=mk _ _ an ca
def Ag x:nj (gd x) (mC x):=by
 unfold gd mC mK bk bB bP cP c_ dQ iF bm bV jZ bT bW bc c8 aI cS;with_reducible repeat' first|apply OI.o;constructor|intro _
def Ar:aM Pg 85 AH:=E7 sw gd mC Ag an ca
def EV x:nj (gK x) (qE x):=by
 unfold gK qE mJ bk bB bP cP c_ bm bV bW bc c8 aI cS;with_reducible repeat' first|apply OI.o;constructor|intro _
def E_:aM Pg 86 Fg:=E7 wG gK qE EV an ca
def D5:aM Pg 167 QF:=mk _ _ an ca
def aju:aM Pg 162 CP:=mk _ _ an ca
def anx:aM Pg 162 aov:= @aM.sub Pg 162 CP.pre CP.post MC Tf aju rfl (λx y h=>tD (b:=1) x y h)
def af2:aM Pg 162 zE:=mk _ _ an ca
def ajt:aM Pg 162 akq:= @aM.sub Pg 162 zE.pre zE.post H6 MB af2 rfl (λx y h=>tD (b:=1) x y h)
def ajq:aM Pg 163 CM:=mk _ _ an ca
def anw:aM Pg 163 aot:= @aM.sub Pg 163 CM.pre CM.post Mz Te ajq rfl (λx y h=>tD (b:=24) x y h)
def af0:aM Pg 163 zC:=mk _ _ an ca
def ajp:aM Pg 163 ako:= @aM.sub Pg 163 zC.pre zC.post H4 My af0 rfl (λx y h=>tD (b:=24) x y h)
def af1:aM Pg 88 zD:=mk _ _ an ca
def ajs:aM Pg 88 akp:= @aM.sub Pg 88 zD.pre zD.post H5 BX af1 rfl (λx y h=>tD (b:=8) x y h)
def PI x:nj (lH x) (xT x):=by
 unfold lH xT tP bk c_ ck bV bT bW bc c8 cS;with_reducible repeat' first|apply OI.o;constructor|intro _
def Qc:aM Pg 132 QI:=E7 En lH xT PI (ac at2 (ac ajt (ac ajp an))) ca
def Mo x:nj (kD x) (vZ x):=by
 unfold kD vZ sr bk bB c_ ck bV jZ kf bc c8 aI cS;with_reducible repeat' first|apply OI.o;constructor|intro _
def M':aM Pg 137 OJ:=E7 CA kD vZ Mo (ac D5 an) ca
def FR x:nj (h_ x) (rN x):=by
 unfold h_ rN nU bk bB c_ dQ ck bV kf bc c8 aI cS;with_reducible repeat' first|apply OI.o;constructor|intro _
def Gl:aM Pg 138 Hg:=E7 xF h_ rN FR (ac D5 an) ca
def Ng:aM Pg 220 OR:=mk _ _ an ca
def Qh:aM Pg 199 QN:=mk _ _ (ac Ng an) ca
def Im:aM Pg 203 IL:=mk _ _ an ca
def Nd:aM Pg 165 ON:=mk _ _ (ac Im an) ca
def wR x:nj (gk x) (kY x):=by
 unfold gk kY kZ ck bV kf c8 aI cS;with_reducible repeat' first|apply OI.o;constructor|intro _
def wT:aM Pg 193 wW:=E7 pm gk kY wR (ac Qh an) ca
def Dt x:nj (jU x) (pu x):=by
 unfold jU pu pC bk bB bm jZ bT aI;with_reducible repeat' first|apply OI.o;constructor|intro _
def DE:aM Pg 164 DO:=E7 vi jU pu Dt (ac wT an) ca
def aez:aM Pg 133 ag1:=mk _ _ (ac DE (ac Nd an)) ca
def S6 x:nj (mH x) (Ak x):=by
 unfold mH Ak Az bm bV bT kf bc c8 aI cS;with_reducible repeat' first|apply OI.o;constructor|intro _
def TN:aM Pg 134 Uu:=E7 G' mH Ak S6 an ca
def Bc:aM Pg 136 K0:=mk _ _ an ca
def Mt x:nj (oA x) (v7 x):=by
 unfold oA v7 wC bV kf bc c8 aI cS;with_reducible repeat' first|apply OI.o;constructor|intro _
def Nh:aM Pg 166 OU:=E7 CG oA v7 Mt (ac Bc an) ca
def Ku x:nj (jP x) (uM x):=by
 unfold jP uM uU ck bm bV bT kf bc c8 aI cS;with_reducible repeat' first|apply OI.o;constructor|intro _
def KI:aM Pg 135 K7:=E7 Bs jP uM Ku (ac Bc (ac Nh an)) ca
def Nc:aM Pg 87 OM:=mk oG ia (ac uR (ac Qc (ac M' (ac Gl an)))) ca
def tv2 (t:TypeId):M Ty:=if aB t 98 then Z (.pr .un (.pr .un (.pr .un (.pr .un em)))) else ca t
def Na:aM Pg 132 OK:=mk _ _ (ac ace (ac anx (ac anw an))) tv2
def Nb:aM Pg 87 OL:=mk _ _ (ac uR (ac Na (ac aez (ac TN (ac KI an))))) tv2
def Qe:aM Pg 87 QK:=(aM.orE (pre:=oG.pre) (post:=oG.post) (m:=ia) (m':=l8) rfl Nc Nb)
def Ic:aM Pg 55 ID:=mk _ _ (ac Ib (ac uR (ac Fa (ac Ar (ac E_ (ac Qe (ac ajs (ac ace an)))))))) ca
def Bz x:nj (eY x) (nK x):=by
 unfold eY nK kQ eU xa bV jZ kO bT bW bc c8 aI cS;with_reducible repeat' first|apply OI.o;constructor|intro _
def BA:aM Pg 56 BE:=E7 sO eY nK Bz an ca
def tv3 (t:TypeId):M Ty:=if aB t 58 then Z (.pr .bool (.pr (.st (.st (.st (.st .un)))) uD)) else ca t
def FN x:nj (hZ x) (rL x):=by
 unfold hZ rL nQ bk bB bP cP dQ iF ck bm bV kO bT bW bc c8 aI cS;with_reducible repeat' first|apply OI.o;constructor|intro _
def Gg:aM Pg 23 Hb:=E7 xD hZ rL FN (ac DI (ac Gf (ac Ic (ac2 3932225592 rfl BA an)))) tv3
abbrev ayf:Y PV:=[ñ,ä,ê,ð,ā,ò,ô,ġ,Ŋ,.mp 10,õ]
def š:Y PB:=[.C 72 [Ó],.C 81 ayf,Ç,ú,Ê,Ê,Ê,Ê,ö,Ĝ,.I .zq 12,.I (.qh 166) 12,à,É,É]
abbrev Le0:Y PB:=(š++[ŗ,.C 4 [Ä]])
abbrev Le1:Y PB:=(š++[ź,ŗ])
abbrev Le5:Y PV:=[ñ,é,ä,ê,ð,ā,ò,ô,ġ,.mp 9,ģ]
def ĳ:PB:=.C 81 Le5
def Ÿ:Y PB:=[ĳ,Ç,ú,Ê,Ê,Ê,Ê]
def Ŝ:Y PB:=(Ÿ++[ă,ö,Ŀ,Ė,à,É])
abbrev Le2:Y PB:=(Ŝ++[É,.C 72 [Æ],ź,ŗ])
abbrev Le3:Y PB:=(Ŝ++[É])
abbrev Le4:Y PB:=[aar,.C 81 [ñ,ð,ā,ò,ô,ġ,Ŋ,ģ,õ,.mp 12,.G 13],ĭ,ź,Ç,ú,Ê,Ê,Ê,Ê,Ĝ,ł,.I .zq 16,.I (.qh 166) 16,É,É,à]
abbrev Le6:Y PB:=[aar,.I (.rr 58 1) 4,Ń,adl,Ë]
abbrev Le8:Y PB:=[aar,.C 81 [ñ,ê,ð,ā,ò,ô,ġ,Ŋ,ģ,.mp 11,ĵ],ĭ,Ç,ú,Ê,Ê,Ê,Ê,ö,Ĝ,.I .zq 15,.I (.qh 166) 15,É,É,à]
abbrev Le9:Y PB:=[aar,.I (.rr 58 1) 5,Ń,adl,adl,Ë]
abbrev aln:Y PB:=[aar,.I (.rr 58 1) 3,Ń,Ë]
abbrev ayh:Y PB:=(Ŝ++[É,ź])
abbrev ayg:Y PB:=(Ÿ++[Ĝ,ł,Ŀ,Ė,à,č,č,É,É])
abbrev agc:Y PB:=[Ż,abt,ŏ]
abbrev agb:Y PB:=[Ż,ŏ,ź]
abbrev apn:Y PB:=[aar,.I (.rr 58 1) 2,Ë]
abbrev aug:Y PB:=[Ż,Ì,ź,ź]
abbrev auf:Y PB:=[Ż,Ì,ź]
abbrev alm:Y PV:=[Æ,Ó,ä]
abbrev aue:Y PV:=[Æ,Ó,ä,Û,Ä]
abbrev aud:Y PV:=[Æ,é,Ô,Û,Ä]
abbrev Le24:Y PB:=[ý,.C 61 [ä,Ã,æ,æ],ë]
abbrev auc:Y PV:=[Æ,Ó,ä,Ã]
abbrev aub:Y PV:=[Æ,é,Ô,Ã]
abbrev apm:Y PV:=[Đ,Ã]
def NL:=af5 [Ã] [] [ç] [Ê] (dR [adw 8 [8] [3,9] QV [Ê]])
def ZK:cA:=cn NL lF
def T3:=afe [Ñ] [] [Ä] [] (dR [adw 2 [] [2] [Ä] []]) oL
def Oq:=afe [Ò,Ñ] [] [Ã] [] (dR [adw 6 [6] [2,3,7] ry ų]) lX
def Ol:=afe [Ò,Ñ] [] [Ã] [] (dR [adw 6 [6] [2,3,7] ry ų]) lW
def CH:=afe [Æ,Ñ] Le3 pV Le3 (dR [adw 7 [] [5] [.G 14] (Ŝ++[É,Ê])]) iZ
def DL:=afe [.ob 0 0,Ñ] [à] [] [à] .leaf jR
def wI:=af5 [Æ,Ã,Ñ] Le3 [] ayg (dR [ae2 6 [] [] [] ayg [.jg 0 13,.jg 0 14],adw 39 [1,105] [0,5,104,106] [Æ,Ĵ,ò,Ã] ayh,adw 47 [1,105,106] [0,5,104] [Æ,Ĵ,ò] ayh])
def Fi:cA:=cn wI gL
def BF:=afe [Æ,Ã,Ñ] Le3 [] [.C 81 [ñ,é,ä,ê,ð,ā,ò,ô,ġ,.mp 9,.G 14],Ç,ú,Ê,Ê,Ê,Ê,ă,ö,.I .zq 15,č,č,É,É,.I (.qh 166) 15,à] (dR [(60000,(.a [.qx 0 16,.jg 0 15]))]) iJ
def DN:=afe [Ą,į,Ġ,Æ] Le1 [] Le1 (dR [adw 0 [] [0,2,3,25] [Ą,Ġ,Æ,Ä] Le1]) jT
def DM:=afe [Ą,į,Æ,Ġ] Le0 [] Le0 (dR [adw 0 [] [0,1,2,3,31] [Ą,į,Æ,Ġ,Ä] Le0]) jS
def Cp:=af5 [Ą,ą,Æ] Le1 [] Le1 (dR [adw 3 [11] [0,1,10,12] [Ą,ą,õ,Ã] Le1,adw 11 [11,12] [0,1,10] [Ą,ą,õ] Le1,adw 14 [11,12] [0,1,6,10,59] [Ą,ą,Ą,õ,Ä] Le1])
def On:cA:=cn Cp kA
def Co:=af5 [Ą,Ć,Æ] Le0 [] Le0 (dR [adw 3 [11] [0,1,10,12] [Ą,Ć,õ,Ã] Le0,adw 11 [11,12] [0,1,10] [Ą,Ć,õ] Le0,adw 14 [11,12] [0,1,6,10,59] [Ą,Ć,Ą,õ,Ä] Le0])
def Om:cA:=cn Co kz
def xE:=af5 [Æ,Ã,Ñ] Le3 [] [.C 81 [ñ,.G 14,.G 15,ê,ð,ā,ò,ô,ġ,.mp 9,.G 16],č,č,Ê,Ê,Ê,Ê,.I (.rr 50 1) 18,.I (.rr 50 1) 19,.I .zq 17,č,č,č,č,Ç,ú,.I (.qh 166) 17,à,É,É] (dR [adw 8 [1,24,25] [3,5,6,26] [Ĵ,į,Ġ,Ã] Le2,adw 16 [1,24,25,26] [3,5,6] [Ĵ,į,Ġ] Le2,adw 27 [1] [3,5,6,9] [Ĵ,į,Ġ,Ĺ] Le2,adw 34 [1,52] [3,5,6,9,53] [Ĵ,į,Ġ,Ĺ,Ã] Le2,adw 42 [1,52,53] [3,5,6,9] [Ĵ,į,Ġ,Ĺ] Le2,adw 58 [1] [3,5,6] [Ĵ,į,Ġ] Le2,adw 67 [1] [3,5,6,9,12,13] [Ĵ,į,Ġ,Ĺ,.ob 11 0,.H 17 0] (Ŝ++[É,.C 72 [Æ],ź,ŗ,.C 4 [Ä]])])
def Hc:cA:=cn xE gy
def GA:=af5 [ñ] [] [Æ] Le3 (dR [ae2 10 [34,35] [4,36] w7 (Ÿ++[.I (.rr 50 1) 11,ă,.I .zq 13,.I (.qh 166) 13,É,É,à]) [.fmp 4 15 170 lO,.frw 4 16 15 166,.qc 4 7 50 (.sl aP),.qc 4 8 52 fd]])
def T2:cA:=cn GA mF
def Jw:=af5 [ñ] [] [ğ,Ã] [] (dR [ae2 20 [23,24] [1,6,7,25] auc Le8 [.nil 7 83 fd],adw 28 [23,24,25] [1,6,7] alm Le8,adw 32 [8,23,24,25] [1,6,7,9,42] aue Le4,adw 40 [8,23,24,25,46,47] [1,6,7,9,48] [Æ,Ó,ä,Û,Ã] Le4,adw 48 [8,23,24,25,46,47,48] [1,6,7,9] [Æ,Ó,ä,Û] Le4,adw 52 [8,10,23,24,25,46,47,48] [1,6,7,9,11,69] [Æ,Ó,ä,Û,ó,Ä] [aar,.C 81 [ñ,ā,ò,ô,ġ,Ŋ,ģ,õ,ĵ,.mp 13,.G 14],ĭ,ź,ź,Ç,ú,Ê,Ê,Ê,Ê,ł,.I (.rr 50 1) 16,.I .zq 17,.I (.qh 166) 17,É,É,à],adw 57 [8,10,23,24,25,46,47,48] [1,6,7,9,12] aue Le4,adw 59 [8,10,23,24,25,46,47,48] [1,6,7,9,96] aue Le4])
def Xg:cA:=cn Jw ly
def acu:=af5 [] [] [Ò] [] (dR [ae2 8 [21] [0,1,22] ye apx [.qc 1 5 134 pW],adw 22 [2,21,22] [0,1,3] ye apx])
def aos:cA:=cn acu F5
def K4:=afe [Ä] [] [ñ] [] (dR [adw 4 [] [2,3] w7 [Ŕ]]) qu
def Ur:=afe [] [] [Ä] [] (dR [adw 6 [] [0] [Ä] []]) vw
def Xm:=afe [Ñ] [] [Ä] [] (dR [adw 2 [] [2] [Ä] []]) qX
def Qs:=afe [Ñ,Ñ] [] [Ä] [] (dR [adw 2 [] [4] [Ä] []]) nz
def Qr:=afe apm [] [Ã] [] (dR [adw 6 [0,1] [5] [Ã] []]) ny
def Xk:=afe apm [] [Ã] [] (dR [adw 8 [0,1] [5,6] AQ [],adw 16 [0,1,6] [5] [Ã] []]) ub
def T_:=afe apm [] [ì] [] .leaf rU
def Qp:=afe [Ò,ü,Đ,Ã] [] [.d (.sl uC)] [] (dR [ae2 8 [2,3,22] [4,5,9,23] auc agc [.nil 9 64 uC],adw 16 [2,3,22,23] [4,5,9] alm agc,adw 23 [2,3,22,23] [4,5,9] alm agc,adw 31 [2,3,10,22,23] [4,5,9] alm agc,adw 40 [2,3,10,22,23,58,59] [4,5,9,60] auc agc,adw 48 [2,3,10,22,23,58,59,60] [4,5,9] alm agc,adw 62 [3,74,75] [4,9,76] Pc [Ż,ŏ],adw 70 [3,74,75,76] [4,9] [Æ,é] [Ż,ŏ],adw 77 [3,13,16,74,75,76] [4,9,14,15,17] (Æ::é::Ô::ţ) agb,adw 83 [3,13,16,17,74,75,76] [4,9,14,15] aub agb,adw 95 [3,13,15,16,74,75,76] [4,9,14] [Æ,é,Ô] agb,adw 102 [3,13,15,16,74,75,76,110] [4,9,14,111] aub agb,adw 110 [3,13,15,16,74,75,76,110,111] [4,9,14] [Æ,é,Ô] agb,adw 113 [3,13,15,16,19,74,75,76,110,111] [4,9,14,129] [Æ,é,Ô,Ä] agb]) nv
def Qo:=afe [Ò,Ñ] [] [Ä] [] (dR [adw 2 [] [4] [Ä] []]) pP
def ZM:=afe apm [] [Ã] [] (dR [adw 5 [0,1,5] [19] [Ä] [],adw 16 [0,1,5] [6] [Ã] [],adw 25 [0,1,5,6] [66] [Ä] []]) sY
def afj:=afe [Ò,Đ,Ã] [] pV [] (dR [ae2 10 [1,2] [3,7,8,9] aub auf [.nil 7 3 aP],adw 21 [1,2,9] [3,7,8] [Æ,é,Ô] auf,adw 22 [1,2,9] [3,7,8,10,25] aud aug,adw 26 [1,2,9] [3,7,8,10,45] aud aug,adw 30 [1,2,9] [3,7,8,10,60] aud aug,adw 34 [1,2,9] [3,7,8,85] [Æ,é,Ô,Ä] auf,adw 40 [] [7] [ç] Ld3]) oO
def Oy:=afe [Ò] [] [ü] [] (dR [ae2 8 [7] [2,3,8] ye Le24 [.qc 3 0 98 em]]) ol
def T9:=afe [Į,Į] [] [Ä] [] (dR [adw 2 [] [4] [Ä] []]) rS
def KQ:=afe [Į,Đ,Ã] [] [Ä] [] (dR [adw 2 [] [6] [Ä] []]) iw
def Ox:=afe (ç::ţ) [Ú,Ë] [Ä] [Ú,Ë] .leaf rR
def IG:=afe [ç] [Ú,Ë] [] [Ú,Ë] (dR [adw 3 [6] [0,7] QV [Ú,Ë],adw 17 [2,6,7,11] [0,12] QV [Ú,Ë],adw 25 [2,6,7,11,12] [0] [ç] [Ú,Ë],adw 37 [2,3,6,7,11,12,24] [0,25] QV [Ú,Ë],adw 45 [2,3,6,7,11,12,24,25] [0] [ç] [Ú,Ë]]) ku
def Xj:=afe [ç,Đ,Į,Į] [Ú,Ë] [Ä] [Ú,Ë] (dR [adw 6 [1,12] [0,6,7,13] [ç,Ô,Û,Ã] ū,adw 20 [1,9,12,13,17] [0,6,7,18] [ç,Ô,Û,Ã] ū,adw 31 [1,9,12,13,17,18] [0,6,7,39] [ç,Ô,Û,Ä] ū]) ua
def Xl:=afe [Đ,ç,Ã] [Ú,Ë] [ä] Ŷ (dR [adw 8 [0,2,14] [1,7,15] [ç,ä,Ã] Ŷ,ae2 24 [0,2,8,14,15,24] [1,7,25] [ç,ä,Ã] Ŷ [.jg 7 0],adw 32 [0,2,8,14,15,24,25] [1,7] [ç,ä] Ŷ,adw 35 [0,2,8,9,14,15,24,25] [1,7,39] [ç,ä,Ä] Ŷ]) uc
def afi:=afe [ñ] [] [ç] [Ċ,É] (dR [ae2 10 [3,32] [1,4,33] Pc apn [.jg 4 0],adw 27 [3,44] [1,4,45] Pc apn,adw 38 [3,6,44,45] [1,4] [Æ,é] apn,adw 49 [3,6,44,45,63,64] [1,4,65] Pc apn,ae2 69 [3] [1,4,10,11] (ŭ++[Ã]) aln [.nil 10 55 (.sl uC)],adw 85 [3,11,12,97,98] [1,4,10,99] (ŭ++[Ã]) aln,adw 99 [3,11,12,97,98,99,103,104] [1,4,10,14,105] (ŭ++[Û,Ã]) Le6,adw 107 [3,11,12,97,98,99,103,104,105] [1,4,10,14] (ŭ++[Û]) Le6,adw 119 [3,11,12,97,98,99,103,104,105,114] [1,4,10,14,16,115] (ŭ++[Û,ó,Ã]) Le9,adw 133 [3,11,12,17,97,98,99,103,104,105,114,115,119] [1,4,10,14,16,120] (ŭ++[Û,ó,Ã]) Le9,adw 141 [3,11,12,17,97,98,99,103,104,105,114,115,119,120] [1,4,10,14,16] (ŭ++[Û,ó]) Le9,adw 144 [3,11,12,17,18,97,98,99,103,104,105,114,115,119,120] [1,4,10,14,16,143] (ŭ++[Û,ó,Ä]) Le9,adw 160 [3] [1,4,10,19] (ŭ++[Ä]) aln,adw 174 [3,159] [1,4,10,19,158,160] (ŭ++[Ä,ä,Ã]) aln,adw 188 [3,21,159,160,164,165] [1,4,10,19,158,166] (ŭ++[Ä,ä,Ã]) aln,adw 202 [3,21,159,160,164,165,166,170,171] [1,4,10,19,23,158,172] (ŭ++[Ä,Û,ä,Ã]) Le6,adw 210 [3,21,159,160,164,165,166,170,171,172] [1,4,10,19,23,158] (ŭ++[Ä,Û,ä]) Le6,adw 213 [3,19,21,159,160,164,165,166,170,171,172] [1,4,10,23,158,198] (ŭ++[Û,ä,Ä]) Le6]) sX
def ak9:=afe [.nr 0 1,.d aP] [É] [Ã] [É] (dR [adw 3 [1] [0,12] [.nr 0 1,.d .bool] [É]]) F0
def Ua:=afe [.nr 0 1,.d fd] [É] [Ä] [É] .leaf vu
def OA:=afe [ğ,ğ] [] [Ä] [] (dR [adw 14 [0,1,12] [13] [Ã] []]) rT
def Oz:=afe [ñ,ç] [Ċ,É] [ğ] [Ċ,É] (dR [ae2 8 [10] [1,2,5,11] [ç,Ô,ê,Ã] Ŭ [.nil 5 83 fd],adw 22 [6,10,11] [1,2,5,7] [ç,Ô,ê,Ã] Ŭ,adw 30 [6,7,10,11] [1,2,5] [ç,Ô,ê] Ŭ,adw 31 [6,7,10,11] [1,2,5,52] [ç,Ô,ê,Ä] Ŭ]) oq
def IP:=afe [.d Ke2] [] [Ä] [] (dR [adw 6 [] [2] [Ä] []]) oX
def YV x:nj (lF x) (EY x):=by
 unfold lF EY At ck bV bT c8 aI cS;with_reducible repeat' first|apply OI.o;constructor|intro _
def Zd:aM Pg 57 ZK:=E7 NL lF EY YV an ca
def Gi:aM Pg 25 T3:=mk _ _ an ca
def MW:aM Pg 139 Oq:=mk _ _ an ca
def B8:aM Pg 95 Ol:=mk _ _ an ca
def B9:aM Pg 90 CH:=mk _ _ an ca
def DA:aM Pg 94 DL:=mk _ _ an ca
def EW x:nj (gL x) (qF x):=by
 unfold gL qF mL kK lE lD CZ Prod.t Prod.D bk bB bP cP eU kJ lP mw Prod.r ef iF Lj ck bm bV jZ kO bT kf bc c8 aI cS;with_reducible repeat' first|apply OI.o;constructor|intro _
def Fb:aM Pg 99 Fi:=E7 wI gL qF EW an ca
def tv4 (t:TypeId):M Ty:=if aB t 166 then Z (.pr .un .un) else ca t
def BB:aM Pg 98 BF:=mk _ _ (ac B8 (ac MW an)) tv4
def DC:aM Pg 93 DN:=mk _ _ (ac Ca an) ca
def DB:aM Pg 96 DM:=mk _ _ (ac D6 (ac Ca an)) ca
def Mk x:nj (kA x) (vY x):=by
 unfold kA vY sj kK lE lD bk bB bP cP eU kJ lP mw ck bm bV jY kO bT bc c8 aI cS;with_reducible repeat' first|apply OI.o;constructor|intro _
def MV:aM Pg 92 On:=E7 Cp kA vY Mk (ac DC an) ca
def Mj x:nj (kz x) (vX x):=by
 unfold kz vX sh kK lE lD bk bB bP cP eU kJ lP mw ck bm bV jY kO bT bc c8 aI cS;with_reducible repeat' first|apply OI.o;constructor|intro _
def MU:aM Pg 92 Om:=E7 Co kz vX Mj (ac DB an) ca
def FO x:nj (gy x) (rM x):=by
 unfold gy rM nR kK lE lD CZ Prod.t Prod.u Prod.C bk bB bP cP eU kJ lP mw Prod.w Prod.z Prod.y Prod.r Prod.F Prod.E Prod.G bV jZ bT bW kf bc c8 aI cS;with_reducible repeat' first|apply OI.o;constructor|intro _
def Gh:aM Pg 58 Hc:=E7 xE gy rM FO (ac Gi (ac B9 (ac Ca (ac DA (ac B8 (ac Ws (ac BB (ac Fb (ac2 6160476 rfl MV (ac2 6357084 rfl MU an)))))))))) ca
def tv5 (t:TypeId):M Ty:=if aB t 50 then Z (.pr .bool (.pr (.st (.st (.st .un))) (.sl aP))) else ca t
def SS x:nj (mF x) (Ai x):=by
 unfold mF Ai vA kK lE lD CZ bk bB bP cP eU kJ lP mw Prod.y Prod.r bV bT bW bc c8 aI cS;with_reducible repeat' first|apply OI.o;constructor|intro _
def To:aM Pg 24 T2:=E7 GA mF Ai SS (ac Zd (ac Gh an)) tv5
def Vu x:nj (ly x) (BV x):=by
 unfold ly BV xy kK lE lD bk bB bP cP eU kJ lP mw Prod.y dQ ef iF bm bV jY bT bW kf bc c8 aI cS;with_reducible repeat' first|apply OI.o;constructor|intro _
def Jl:aM Pg 8 Xg:=E7 Jw ly BV Vu (ac Gg (ac To (ac Gi (ac D6 an)))) ca
def an6 x:nj (F5 x) (S_ x):=by
 unfold F5 S_ TW bk bB bP cP iF bV bT c8 aI cS;with_reducible repeat' first|apply OI.o;constructor|intro _
def anv:aM Pg 44 aos:=E7 acu F5 S_ an6 an ca
def KE:aM Pg 37 K4:=mk _ _ (ac anv an) ca
def TK:aM Pg 12 Ur:=mk _ _ (ac Jl (ac KE an)) ca
def Jm:aM Pg 43 Xm:=mk _ _ an ca
def D3:aM Pg 20 Qs:=mk _ _ (ac Jm an) ca
def D2:aM Pg 28 Qr:=mk _ _ an ca
def VY:aM Pg 40 Xk:=mk _ _ an ca
def Tv:aM Pg 16 T_:=mk _ _ (ac VY an) ca
def PY:aM Pg 18 Qp:=mk _ _ (ac P0 (ac PZ an)) ca
def DZ:aM Pg 27 Qo:=mk _ _ (ac Jm an) ca
def Ze:aM Pg 60 ZM:=mk _ _ (ac D2 an) ca
def aer:aM Pg 29 afj:=mk _ _ (ac DZ (ac Ze an)) ca
def MZ:aM Pg 30 Oy:=mk _ _ an ca
def Tu:aM Pg 31 T9:=mk _ _ an ca
def A_:aM Pg 32 KQ:=mk _ _ an ca
def MY:aM Pg 35 Ox:=mk _ _ an ca
def Ig:aM Pg 33 IG:=mk _ _ an ca
def VX:aM Pg 34 Xj:=mk _ _ (ac A_ an) ca
def VZ:aM Pg 36 Xl:=mk _ _ an tv5
def aeq:aM Pg 11 afi:=mk _ _ (ac PY (ac D3 (ac D2 (ac aer (ac MZ (ac Tu (ac A_ (ac Ig (ac VX (ac MY (ac VZ an))))))))))) tv3
def ajm:aM Pg 39 ak9:=mk _ _ an ca
def Tw:aM Pg 15 Ua:=mk _ _ (ac2 3932225575 rfl ajm an) ca
def M1:aM Pg 9 OA:=mk _ _ an ca
def M0:aM Pg 10 Oz:=mk _ _ (ac Tv (ac D3 (ac DZ (ac2 3932225551 rfl Tw an)))) ca
def hlaw26_WeakRaces:aM Pg 3 IP:=mk _ _ (ac If (ac Jl (ac M1 (ac M0 (ac aeq (ac TK an)))))) ca
variable {P:Program} {f:FuncId} {L:ξ}
def run_law {pre:Tm} {m:pre.ty.den->M (Tm.ty ⟨[.d .bool],[]⟩).den} (sp:rn P f ⟨pre,⟨[.d .bool],[]⟩,m⟩) (h0:l! pre.bs=0) {x:pre.ty.den} (hx:m x=Z J) {vs:Y TV} {hp:aZ} (hi:DY pre x=Z (vs,hp)) {la:Y AV} (hla:cM hp vs=Z la)
 {W:World} (hg:∀g cells,G g=Z cells->nN (λ_=>False) W (.H cells 0) (.pointer (Z ⟨g,0,U⟩))) (hrel:lK (λ_=>U) (λ_=>False) W la L):
 Calls P f L.toArray W λe w'=>e= .returned (.bool J)/\Below W.heap.size W w':=by
 let⟨N,I⟩:=yQ hi;let⟨z,y⟩:=yQ (t:=⟨[.d .bool],[]⟩) (x:=J) (vs:=[.f .bool J]) (h1:=PT.leaf) rfl;have D:erHF hp=λ_=>U:=by
  funext n;cases hb:erHF hp n with
  |none=>rfl
  |some b=>
   let⟨c,h1,_⟩:=iR hb;have:=I.lt_len h1;omega
 have own0:∀(φ:PM) k,¬own φ (erHF hp) k:=by rintro φ k ⟨i,b,h1,_⟩;rw[D]at h1;cases h1
 have htot:tot (λ_=>False) (λ_=>U) (erHF hp)=λ_=>False:=by
  funext k;exact propext ⟨λh=>h.elim id λh=>bC h (own0 _ k),λh=>h.elim⟩
 refine Calls.mono (sp.calls x J hx vs hp N _ PT.leaf z la _ I y hla rfl (λ_=>U) (λ_=>False) W L ⟨(λi j b b' k h1=>by rw[D]at h1;cases h1),(λi b h1=>by rw[D]at h1;cases h1),(λk h=>h.elim),(λg cells h=>by rw[htot];exact hg g cells h)⟩ (by rw[htot];exact hrel) (λn k h=>by cases h)) ?_;rintro en w' ⟨v,φ',rfl,he,_,_,_,A⟩;refine ⟨?_,⟨he.os,he.tape,he.output,he.size,λk hk=>he.jd k hk (own0 _ k)⟩⟩;have A:cz φ' _ w' (.f (.raw (.bool J))) v:=A;cases A with
 |f h=>cases h;rfl
def gKw:Tryz.prog.globalNamed "interleave/token.keywords" =Z 0:=by kernel_rfl
def tKw:(Tryz.prog.globals[0]?).map (·.type)=Z 278:=by kernel_rfl
def kw_of_laid {W:World} (h:laidMetH Tryz.prog [("interleave/token.keywords",Rows.laid_interleave_token_keywords)] W):∀g cells,G g=Z cells→nN (λ_=>False) W (.H cells 0) (.pointer (Z ⟨g,0,U⟩)):=by
 intro g cells hG;unfold G at hG;split at hG
 .rename_i hg;have hg:=eq_of_beq hg;subst hg;cases hG;rw[MakeChecks.laidMetH_plain _ _ _ (by kernel_rfl)]at h;let⟨ps,⟨g0,t0,cs0,f0,p0,q0,N,ht0,hv0,hd0,_,_⟩,_,_⟩:=h;obtain rfl:=fO (gKw.symm.trans N);obtain rfl:=fO (tKw.symm.trans ht0);obtain⟨xs,m1,rfl,D,hlen,hn,hel⟩:=DataW.trod_array Tryz.underlying278 hd0;have c1:Tryz.prog.cellsOf 9=1:=by kernel_rfl
  have c22:Tryz.prog.cellsOf 278=22:=by kernel_rfl
  rw[c22]at hlen;simp only[aU,Rows.laid_interleave_token_keywords,DataW.agg.injEq]at D;have hxs:=D.1;have hcell:∀j,j<22→∃l,(xs.map (·.1))[j]? =Z (.lit (.string l))∧W.cell? ⟨0,j,U⟩=Z (.string ⟨l.toArray⟩):=λj L=>by
   have h1:=hel j L;rw[c1,Hy]at h1;rw[aH (by omega)]at h1;let⟨s,e1,e2,_⟩:=DataW.trod_string Tryz.underlying9 h1;refine ⟨s.data.toList,?_,?_⟩
   .rw[bE,aH (by omega),bx,e2]
   .have:=World.var?_cell N hv0 j;rw[this];have z:cs0.toList[j]? =Z (.string s):=by
     have:((cs0.toList.drop j).take 1)[0]? =Z (.string s):=by rw[e1];rfl
     rw[gx,aF (by omega),tH]at this;simpa using this
    rw[← dj,z]
  have hb:0<W.heap.size:=by
   let⟨l,_,z⟩:=hcell 0 (by omega);exact World.block_lt_of_cell? W _ z
  refine .H F7 0 0 0 (λj=>(W.cell? ⟨0,j,U⟩).getD undef) (λh=>h) hb (λx A=>?_) (λj L=>?_) (λj x A=>?_)
  .simp only[F7,a_,cD,fH]at A;rcases A with rfl|rfl|rfl|rfl|rfl|rfl|rfl|rfl|rfl|rfl|rfl|rfl|rfl|rfl|rfl|rfl|rfl|rfl|rfl|rfl|rfl|rfl<;>rfl
  .obtain⟨l,_,z⟩:=hcell j L;rw[b9,z];rfl
  .have L:j<22:=(bA.1 A).1;let⟨l,h1,z⟩:=hcell j L;rw[← hxs]at h1;have:x= .raw (.string ⟨l.toArray⟩):=by
    rcases j with _|_|_|_|_|_|_|_|_|_|_|_|_|_|_|_|_|_|_|_|_|_|j;all_goals first|(simp only[g_,Bu,ah,DataW.lit.injEq,Lit.string.injEq,F7]at h1 A;subst h1 A;rfl)|omega
   rw[this,z];exact .raw _
 .cases hG
end
end Go.Proofs.YtcmnmakaoonfgaaGreatDoor.AI
