/-
  Texts of the proof, part 6 of 6: what is used to prove the statement. No condition.
-/
import Derived.Test.YtiaemgcbndhkfaaGreatDoorEpochRefusesQ4
import Derived.Test.YtiaemgcbndhkfaaGreatDoorRows
import Derived.LaidMore
namespace Go.Proofs.YtiaemgcbndhkfaaGreatDoor.AI
open Go.RowKit
set_option maxRecDepth 100000
set_option maxHeartbeats 4000000
set_option linter.unusedVariables false
set_option linter.unusedSimpArgs false
open _root_.Bool renaming true→M,false→aa
open _root_.List renaming getElem?_cons_zero→lD
open _root_.Nat renaming beq→ax
open _root_.Option renaming some→Z,none→U,map_some→bW
open _root_.Prod renaming p2→aX,p3→bh,p4→bm,q3→bp,p5→bT,q5→cD,q4→cI,p6→cX,q6→dC,q7→gd,p7→gN,q8→lz,p8→rn,p10→ua,p9→um,p11→yZ,q9→GW,q11→Kj,p12→Kk
noncomputable section
theorem YI x:ly (rX x) (HV x):=by
 unfold rX HV Ck ua yZ aX bh bm bT cX gN rn um Kj Prod.q12 cD dC lz GW ck bA mq bt aY cM cw;with_reducible repeat' first|(refine OI.o ?_;constructor)|intro _
theorem Y':aG Pg 36 ZD:=zk Qx rX HV YI (ac P9 (ac Tj (ac Tk (ac P5 (ac Wp an))))) b8
theorem YC x:ly (vp x) (HR x):=by
 unfold vp HR IB bA aY cM aB cw;with_reducible repeat' first|(refine OI.o ?_;constructor)|intro _
theorem Y7:aG Pg 45 Zt:=zk Qs vp HR YC (ac aby an) b8
theorem Wg:aG Pg 24 WE:=mk Mm Dy (ac Y7 an) b8
theorem Du x:ly (im x) (qO x):=by
 unfold im qO nN ua yZ Kk Prod.p13 Prod.p14 Prod.p15 Prod.p16 Prod.p17 Prod.p18 Prod.p19 aX Prod.p20 bh bm bT cX gN rn um Prod.q21 bA bt cM aB cw;with_reducible repeat' first|(refine OI.o ?_;constructor)|intro _
theorem DM:aG Pg 137 Ec:=zk vP im qO Du an b8
theorem KB x:ly (kA x) (uQ x):=by
 unfold kA uQ rE bg bA ji aY cM aB;with_reducible repeat' first|(refine OI.o ?_;constructor)|intro _
theorem KN:aG Pg 109 Lb:=zk Ai kA uQ KB (ac DM an) b8
theorem SA x:ly (qY x) (Ba x):=by
 unfold qY Ba wN bg bA bJ aY cM aB cw;with_reducible repeat' first|(refine OI.o ?_;constructor)|intro _
theorem To:aG Pg 161 Un:=zk Jt qY Ba SA an b8
theorem K8:aG Pg 138 Lz:=mk AA jy (ac To an) b8
theorem Af:aG Pg 29 Ly:=mk Az gM (ac s_ an) b8
theorem Ge:aG Pg 110 GF:=mk xF mc an b8
theorem Gf:aG Pg 87 GG:=mk xG oP (ac Ge an) b8
theorem zK x:ly (fM x) (n_ x):=by
 unfold fM n_ kQ aX bh bm bT cI dC bg bA iT bt bJ aY cM aB cw;with_reducible repeat' first|(refine OI.o ?_;constructor)|intro _
theorem zQ:aG Pg 85 zX:=zk sG fM n_ zK an b8
theorem zJ x:ly (fK x) (n7 x):=by
 unfold fK n7 kP aX bh bm bA bt bJ kM aY cM aB cw;with_reducible repeat' first|(refine OI.o ?_;constructor)|intro _
theorem zP:aG Pg 86 zW:=zk sF fK n7 zJ (ac KN an) b8
theorem zI x:ly (fJ x) (nZ x):=by
 unfold fJ nZ kO aX bh bT cD bA iT bJ aY cM aB cw;with_reducible repeat' first|(refine OI.o ?_;constructor)|intro _
theorem zO:aG Pg 88 zV:=zk sD fJ nZ zI an b8
theorem zL x:ly (dw x) (oa x):=by
 unfold dw oa kR aX bh bT cD bA bJ aY cM aB cw;with_reducible repeat' first|(refine OI.o ?_;constructor)|intro _
theorem kN:aG Pg 58 zY:=zk sH dw oa zL (ac zQ (ac zP (ac Gf (ac zO an)))) b8
theorem KF x:ly (kD x) (uS x):=by
 unfold kD uS rI aX bh bm bp cI cD ck bA bt aY cM aB cw;with_reducible repeat' first|(refine OI.o ?_;constructor)|intro _
theorem K3:aG Pg 89 Lq:=zk At kD uS KF an b8
theorem BX x:ly (eC x) (pS x):=by
 unfold eC pS mD aX bh bm cI bA bt bJ aY cM aB cw;with_reducible repeat' first|(refine OI.o ?_;constructor)|intro _
theorem mC:aG Pg 59 CZ:=zk uI eC pS BX (ac K3 an) b8
theorem x_ x:ly (bU x) (mS x):=by
 unfold bU mS iI cX gd bA ji bt bJ aY cM aB cw;with_reducible repeat' first|(refine OI.o ?_;constructor)|intro _
theorem kq:aG Pg 61 yO:=zk r8 bU mS x_ an b8
theorem tO:aG Pg 112 JD:=mk yH eO an b8
theorem F9:aG Pg 113 Gv:=mk xx jf (ac tO an) b8
theorem M_ x:ly (iC x) (wz x):=by
 unfold iC wz qj aX bh bm cI bA iT bJ aY cM aB cw;with_reducible repeat' first|(refine OI.o ?_;constructor)|intro _
theorem Ce:aG Pg 111 N8:=zk CO iC wz M_ (ac tO an) b8
theorem K0:aG Pg 114 Lo:=mk Ar kB (ac K8 an) b8
theorem ka:aG Pg 91 Gw:=mk xy eh (ac Ce (ac tO (ac F9 (ac K0 an)))) b8
theorem DL:aG Pg 90 Ea:=mk vN il (ac Ce an) b8
theorem Be:aG Pg 92 Bm:=mk tU gu an b8
theorem wx x:ly (dy x) (lJ x):=by
 unfold dy lJ gS aX bh bm bT bp cI dC bg bA ji bt bJ aY cM aB cw;with_reducible repeat' first|(refine OI.o ?_;constructor)|intro _
theorem wC:aG Pg 93 wX:=zk qm dy lJ wx an b8
theorem AR x:ly (eK x) (o7 x):=by
 unfold eK o7 jN aX bh bm bT bp bg bA bJ aY cM aB cw;with_reducible repeat' first|(refine OI.o ?_;constructor)|intro _
theorem Bd:aG Pg 94 Bl:=zk tT eK o7 AR an b8
theorem Ac:aG Pg 144 Ln:=mk Aq mm an b8
theorem Zh:aG Pg 139 yT:=mk QF H8 an b8
theorem Ha:aG Pg 139 acw:= @aG.sub Pg 139 yT.pre yT.post H8 zm Zh rfl (λx y h=>rj (b:=1) x y h)
theorem Wt:aG Pg 139 vX:=mk MH DC an b8
theorem Zg:aG Pg 139 ZK:= @aG.sub Pg 139 vX.pre vX.post DC H7 Wt rfl (λx y h=>rj (b:=1) x y h)
theorem Zc:aG Pg 140 yR:=mk QD H5 an b8
theorem G':aG Pg 140 act:= @aG.sub Pg 140 yR.pre yR.post H5 zl Zc rfl (λx y h=>rj (b:=24) x y h)
theorem Wr:aG Pg 140 vV:=mk MF DA an b8
theorem Zb:aG Pg 140 ZH:= @aG.sub Pg 140 vV.pre vV.post DA H4 Wr rfl (λx y h=>rj (b:=24) x y h)
theorem Ws:aG Pg 96 vW:=mk MG DB an b8
theorem Zf:aG Pg 96 ZJ:= @aG.sub Pg 96 vW.pre vW.post DB yi Ws rfl (λx y h=>rj (b:=8) x y h)
theorem KE x:ly (kC x) (uR x):=by
 unfold kC uR rH aX bp ck bA bt bJ aY cM cw;with_reducible repeat' first|(refine OI.o ?_;constructor)|intro _
theorem K2:aG Pg 115 Lp:=zk As kC uR KE (ac Zi (ac Zg (ac Zb an))) b8
theorem HL x:ly (jK x) (tj x):=by
 unfold jK tj qi aX bh bp ck bA ji kM aY cM aB cw;with_reducible repeat' first|(refine OI.o ?_;constructor)|intro _
theorem It:aG Pg 120 JE:=zk yI jK tj HL (ac Ac an) b8
theorem BY x:ly (gQ x) (pT x):=by
 unfold gQ pT mF aX bh bp cI ck bA kM aY cM aB cw;with_reducible repeat' first|(refine OI.o ?_;constructor)|intro _
theorem Cd:aG Pg 121 C2:=zk uJ gQ pT BY (ac Ac an) b8
theorem Iz:aG Pg 200 JN:=mk yM qe an b8
theorem K7:aG Pg 168 Lx:=mk Ay uT (ac Iz an) b8
theorem DU:aG Pg 172 Ei:=mk vT qV an b8
theorem Iv:aG Pg 142 JG:=mk yJ tH (ac DU an) b8
theorem ud x:ly (fB x) (j7 x):=by
 unfold fB j7 j8 ck bA kM cM aB cw;with_reducible repeat' first|(refine OI.o ?_;constructor)|intro _
theorem ue:aG Pg 162 uh:=zk nX fB j7 ud (ac K7 an) b8
theorem zH x:ly (jk x) (nY x):=by
 unfold jk nY oc aX bh bg ji bt aB;with_reducible repeat' first|(refine OI.o ?_;constructor)|intro _
theorem zN:aG Pg 141 zS:=zk sB jk nY zH (ac ue an) b8
theorem zq:aG Pg 116 Xb:=mk MD iW (ac zN (ac Iv an)) b8
theorem Nb x:ly (ef x) (wA x):=by
 unfold ef wA wO bg bA bt kM aY cM aB cw;with_reducible repeat' first|(refine OI.o ?_;constructor)|intro _
theorem sT:aG Pg 117 Og:=zk CY ef wA Nb an b8
theorem xk:aG Pg 119 Gx:=mk xz oO an b8
theorem HP x:ly (nu x) (tm x):=by
 unfold nu tm tS bA kM aY cM aB cw;with_reducible repeat' first|(refine OI.o ?_;constructor)|intro _
theorem IA:aG Pg 143 JO:=zk yN nu tm HP (ac xk an) b8
theorem FU x:ly (c_ x) (sg x):=by
 unfold c_ sg sk ck bg bA bt kM aY cM aB cw;with_reducible repeat' first|(refine OI.o ?_;constructor)|intro _
theorem oR:aG Pg 118 GI:=zk xH c_ sg FU (ac xk (ac IA an)) b8
theorem Iu:aG Pg 95 JF:=mk fh gR (ac ka (ac K2 (ac It (ac Cd an)))) b8
def tv2 (t:TypeId):J Ty:=if ax t 157 then Z (.pr .un (.pr .un dt)) else b8 t
theorem F8:aG Pg 115 Gu:=mk xw je (ac zr (ac Ha (ac G' an))) tv2
theorem Gb:aG Pg 95 GC:=mk xD gg (ac ka (ac F8 (ac zq (ac sT (ac oR an))))) tv2
def tv3 (t:TypeId):J Ty:=if ax t 157 then Z (.pr .un (.pr .un (.pr .un dt))) else b8 t
theorem F7:aG Pg 115 Gt:=mk xv jd (ac zr (ac Ha (ac G' an))) tv3
theorem Ga:aG Pg 95 GA:=mk xC fk (ac ka (ac F7 (ac zq (ac sT (ac oR an))))) tv3
def tv4 (t:TypeId):J Ty:=if ax t 157 then Z (.pr .un (.pr .un (.pr .un (.pr .un dt)))) else b8 t
theorem F6:aG Pg 115 Gs:=mk xu ja (ac zr (ac Ha (ac G' an))) tv4
theorem F':aG Pg 95 Gz:=mk xB eP (ac ka (ac F6 (ac zq (ac sT (ac oR an))))) tv4
def tv5 (t:TypeId):J Ty:=if ax t 157 then Z (.pr .un (.pr .un (.pr .un (.pr .un (.pr .un dt))))) else b8 t
theorem F5:aG Pg 115 Gr:=mk xt mb (ac zr (ac Ha (ac G' an))) tv5
theorem F_:aG Pg 95 Gy:=mk xA gf (ac ka (ac F5 (ac zq (ac sT (ac oR an))))) tv5
theorem K4:aG Pg 95 Lr:=(aG.orE (pre:=fh.pre) (post:=fh.post) (m:=gR) (m':=(λx=>orE (gg x) ((λx=>orE (fk x) ((λx=>orE (eP x) (gf x)) x)) x))) rfl Iu (aG.orE (pre:=fh.pre) (post:=fh.post) (m:=gg) (m':=(λx=>orE (fk x) ((λx=>orE (eP x) (gf x)) x))) rfl Gb (aG.orE (pre:=fh.pre) (post:=fh.post) (m:=fk) (m':=(λx=>orE (eP x) (gf x))) rfl Ga (aG.orE (pre:=fh.pre) (post:=fh.post) (m:=eP) (m':=gf) rfl F' F_))))
theorem nL:aG Pg 60 Eb:=mk vO dT (ac zr (ac DL (ac ka (ac Be (ac wC (ac Bd (ac K4 (ac Zf an)))))))) b8
def tv6 (t:TypeId):J Ty:=if ax t 81 then Z (.pr .un (.pr .un mf)) else b8 t
theorem AW x:ly (dZ x) (pd x):=by
 unfold dZ pd lU aX bh bm bp cD bg bA bt bJ aY cM aB cw;with_reducible repeat' first|(refine OI.o ?_;constructor)|intro _
theorem Bi:aG Pg 34 Bq:=zk tX dZ pd AW (ac kN (ac mC (ac nL (ac kq an)))) tv6
def tv7 (t:TypeId):J Ty:=if ax t 81 then Z (.pr .un (.pr .un (.pr .un mf))) else b8 t
theorem AU x:ly (dl x) (o_ x):=by
 unfold dl o_ jP aX bh bm bT bp cI dC bg bA bt bJ aY cM aB cw;with_reducible repeat' first|(refine OI.o ?_;constructor)|intro _
theorem Bh:aG Pg 34 Bp:=zk tW dl o_ AU (ac kN (ac mC (ac nL (ac kq an)))) tv7
def tv8 (t:TypeId):J Ty:=if ax t 81 then Z (.pr .un (.pr .un (.pr .un (.pr .un mf)))) else b8 t
theorem AT x:ly (dH x) (o9 x):=by
 unfold dH o9 jO aX bh bm bT cX bp cD dC gd bg bA bt bJ aY cM aB cw;with_reducible repeat' first|(refine OI.o ?_;constructor)|intro _
theorem Bg:aG Pg 34 Bo:=zk tV dH o9 AT (ac kN (ac mC (ac nL (ac kq an)))) tv8
def tv9 (t:TypeId):J Ty:=if ax t 81 then Z (.pr .un (.pr .un (.pr .un (.pr .un (.pr .un mf))))) else b8 t
theorem AS x:ly (cS x) (o8 x):=by
 unfold cS o8 gw aX bh bm bT cX gN bp dC gd lz bg bA bt bJ aY cM aB cw;with_reducible repeat' first|(refine OI.o ?_;constructor)|intro _
theorem Bf:aG Pg 34 Bn:=zk eL cS o8 AS (ac kN (ac mC (ac nL (ac kq an)))) tv9
theorem Ca:aG Pg 34 C0:=(aG.orE (pre:=eL.pre) (post:=eL.post) (m:=cS) (m':=(λx=>orE (dH x) ((λx=>orE (dl x) (dZ x)) x))) rfl Bf (aG.orE (pre:=eL.pre) (post:=eL.post) (m:=dH) (m':=(λx=>orE (dl x) (dZ x))) rfl Bg (aG.orE (pre:=eL.pre) (post:=eL.post) (m:=dl) (m':=dZ) rfl Bh Bi)))
theorem Sw x:ly (lO x) (AZ x):=by
 unfold lO AZ tP aX bp ck bA iT bt bJ aY cM aB cw;with_reducible repeat' first|(refine OI.o ?_;constructor)|intro _
theorem Tl:aG Pg 16 Ui:=zk Jq lO AZ Sw (ac Ca (ac Wq (ac Y' an))) b8
abbrev Le0:Y PB:=[.cells 31 XD,.cells 31 [.d (.sl kJ),.d (.sl qE),.d (.sl lZ),.d (.sl .str),.d (.sl .str),.d (.sl oF),.d (.sl gV)]]
def xo:FT:=⟨⟨[.d Ke1,.d aL,.d Ke0],[]⟩,⟨[.d Ka24],[]⟩,dM [(23,(.j ⟨[],[6,7],⟨[.ptr 0 0,.ptr 1 0],Le0⟩,[]⟩)),(52,(.j ⟨[8],[6,7,102],⟨qv,Le0⟩,[]⟩))]⟩
def Gl:cj:=cn xo l9
theorem F2:aG Pg 8 Gl:=mk xo l9 (ac DN an) b8
abbrev Lg2:Y PV:=[.d (.sl aL),.d (.sl aL),.d (.sl aL),.d (.sl aL),.d (.sl aL),.d (.sl aL),.d (.sl aL),.d (.sl aL),.d (.sl aL),.d (.sl aL),.d (.sl aL),.d (.sl aL)]
abbrev Lg0:Y PB:=[.cells 31 [.d Ka24],.cells U Lg2,.rows 3 aa aL,.rows 67 aa VR]
abbrev Lg1:Y PB:=[.cells 31 [.d Ka24],.cells U [.row 2,.row 3,.row 4,.row 5,.row 6,.row 7,.row 8,.row 9,.row 10,.row 11,.row 12,.row 13],.rows 3 M aL,.rows 3 M aL,.rows 3 M aL,.rows 3 M aL,.rows 3 M aL,.rows 3 M aL,.rows 3 M aL,.rows 3 M aL,.rows 3 M aL,.rows 3 M aL,.rows 3 M aL,.rows 3 M aL]
abbrev Lg3:Y PV:=[.d aL,.d aL,.d aL,.d aL,.nil]
def Js:FT:=⟨⟨[.d (.sl aL),.d (.sl aL)],[]⟩,⟨[.d .bool],[]⟩,dM [(6,(.j ⟨[0,1,10],[11],⟨[.d aL],[]⟩,[]⟩))]⟩
def Um:cj:=cn Js po
def Aw:FT:=⟨⟨[.d aL],[]⟩,⟨[.d .bool],[]⟩,dM [(2,(.j ⟨[],[2],⟨[.d .bool],[]⟩,[]⟩))]⟩
def Lv:cj:=cn Aw gL
def FE:FT:=⟨⟨[.d VR,.d (.sl aL),.d aL],[]⟩,⟨[.d VR,.d .bool],[]⟩,dM [(3,(.j ⟨[1,2],[3,6,26],⟨qv,[.cells 67 [.d VR],.cells 67 Lg3]⟩,[]⟩)),(24,(.j ⟨[1,2,8],[3,6,9,83],⟨Bu,[.cells 67 [.d VR],.cells 67 Lg3,.cells 67 Lg3]⟩,[]⟩))]⟩
def Rl:cj:=cn FE nl
def CU:FT:=⟨⟨[.d VR,.d (.sl aL),.d aL],[]⟩,⟨[.d VR,.d .bool],[]⟩,dM [(3,(.j ⟨[1,2],[3,6,25],⟨qv,[.cells 67 [.d VR],.cells 67 Lg3]⟩,[]⟩)),(10,(.j ⟨[1,2],[6,8],⟨gZ,[.cells 67 Lg3]⟩,[]⟩))]⟩
def Oc:cj:=cn CU lP
def Ax:FT:=⟨⟨[.d Ka24],[]⟩,⟨[.d (.sl aL),.d (.sl VR),.d aL],[]⟩,dM [(14,(.j ⟨[5],[1,7],⟨[.ptr 0 0,.mp 1],[.cells 31 [.d Ka24],.cells U Lg2]⟩,[.mz 7 12]⟩)),(18,(.j ⟨[5,28,29],[1,7,30],⟨[.ptr 0 0,.mp 1,.d aL],Lg1⟩,[.mz 7 12,.cel 7 0 3 aL,.cel 7 1 3 aL,.cel 7 2 3 aL,.cel 7 3 3 aL,.cel 7 4 3 aL,.cel 7 5 3 aL,.cel 7 6 3 aL,.cel 7 7 3 aL,.cel 7 8 3 aL,.cel 7 9 3 aL,.cel 7 10 3 aL,.cel 7 11 3 aL]⟩)),(26,(.j ⟨[5,28,29,30],[1,7],⟨[.ptr 0 0,.mp 1],Lg1⟩,[.mz 7 12]⟩)),(29,(.j ⟨[5,8,28,29,30],[1,7,9,42],⟨[.ptr 0 0,.mp 1,.ptr 2 0,.d .bool],[.cells 31 [.d Ka24],.cells U [.row 3,.row 4,.row 5,.row 6,.row 7,.row 8,.row 9,.row 10,.row 11,.row 12,.row 13,.row 14],.cells 60 [.d gV],.rows 3 M aL,.rows 3 M aL,.rows 3 M aL,.rows 3 M aL,.rows 3 M aL,.rows 3 M aL,.rows 3 M aL,.rows 3 M aL,.rows 3 M aL,.rows 3 M aL,.rows 3 M aL,.rows 3 M aL]⟩,[.mz 7 12]⟩)),(32,(.s 9 2 0 12)),(43,(.j ⟨[5,66,67],[1,7,10,11,68],⟨[.ptr 0 0,.mp 1,.row 2,.row 3,.d aL],Lg0⟩,[.mz 7 12]⟩)),(51,(.j ⟨[5,66,67,68],[1,7,10,11],⟨[.ptr 0 0,.mp 1,.row 2,.row 3],Lg0⟩,[.mz 7 12]⟩)),(62,(.j ⟨[5,12,66,67,68],[1,7,10,11,80,81,82],⟨[.ptr 0 0,.mp 1,.row 2,.row 3,.d (.sl aL),.d aL,.d aL],Lg0⟩,[.mz 7 12]⟩)),(63,(.s 12 0 0 12)),(65,(.j ⟨[5,12,66,67,68,80,81],[1,7,10,11,82],⟨[.ptr 0 0,.mp 1,.row 2,.row 3,.d aL],Lg0⟩,[.mz 7 12]⟩)),(73,(.j ⟨[5,12,66,67,68,80,81,82],[1,7,10,11],⟨[.ptr 0 0,.mp 1,.row 2,.row 3],Lg0⟩,[.mz 7 12]⟩)),(78,(.j ⟨[5,12,15,66,67,68,80,81,82],[1,7,10,11,16],⟨[.ptr 0 0,.mp 1,.row 2,.row 3,.d .bool],Lg0⟩,[.mz 7 12]⟩)),(86,(.j ⟨[5,12,15,66,67,68,80,81,82],[1,7,10,11,135],⟨[.ptr 0 0,.mp 1,.row 2,.row 3,.d .bool],Lg0⟩,[.mz 7 12]⟩))]⟩
def Lw:cj:=cn Ax jx
def CV:FT:=⟨⟨[.d Ka24],[]⟩,⟨GM,[]⟩,.leaf⟩
def Od:cj:=cn CV sP
def yL:FT:=⟨⟨[.d Ka24],[]⟩,⟨[.d (.sl VR),.d aL],[]⟩,.leaf⟩
def JL:cj:=cn yL qd
def CR:FT:=⟨⟨[],[]⟩,⟨[.d .bool],[]⟩,dM [(10,(.j ⟨[],[0],⟨[.d .bool],[]⟩,[]⟩))]⟩
def N':cj:=cn CR qc
def yK:FT:=⟨⟨[.d Ka24],[]⟩,⟨[.d .bool],[]⟩,dM [(12,(.j ⟨[],[2],⟨[.d .bool],[]⟩,[]⟩)),(16,(.j ⟨[],[2],⟨[.d .bool],[]⟩,[]⟩))]⟩
def JI:cj:=cn yK kX
def sC:FT:=⟨⟨[.d Ka24,.d Ke1,.d Ke0],[]⟩,⟨[.d .bool],[]⟩,dM [(3,(.j ⟨[],[3,4,5,44],⟨Bu,[.cells 31 [.d Ka24],.cells 34 [.d Ke1],.cells 37 [.d Ke0]]⟩,[]⟩)),(10,(.j ⟨[],[6],⟨[.d .bool],[]⟩,[]⟩))]⟩
def zU:cj:=cn sC jm
theorem Sy x:ly (po x) (A_ x):=by
 unfold po A_ wL bA aY cM aB cw;with_reducible repeat' first|(refine OI.o ?_;constructor)|intro _
theorem Tn:aG Pg 44 Um:=zk Js po A_ Sy (ac s_ an) b8
theorem Ad:aG Pg 42 Lv:=mk Aw gL an b8
theorem E4:aG Pg 22 Rl:=mk FE nl (ac Af (ac Ad (ac s_ an))) b8
theorem Cj:aG Pg 23 Oc:=mk CU lP (ac Af (ac Ad (ac s_ (ac Tn an)))) b8
theorem Ae:aG Pg 46 Lw:=mk Ax jx (ac Tl (ac E4 (ac Cj an))) b8
theorem NA:aG Pg 25 Od:=mk CV sP (ac Ae an) b8
theorem Iy:aG Pg 26 JL:=mk yL qd (ac Ae an) b8
theorem Nz:aG Pg 11 N':=mk CR qc (ac E4 (ac Cj (ac Wg an))) b8
theorem Ix:aG Pg 12 JI:=mk yK kX (ac Il (ac NA (ac Iy an))) b8
theorem hlaw24_EpochRefuses:aG Pg 5 zU:=mk sC jm (ac F2 (ac Nz (ac Ix an))) b8
theorem run_law {P:Program} {f:FuncId} {pre:Tm} {m:pre.ty.den->J (Tm.ty ⟨[.d .bool],[]⟩).den} (sp:pG P f ⟨pre,⟨[.d .bool],[]⟩,m⟩) (h0:pre.bs.length=0) {x:pre.ty.den} (q:m x=Z M) {vs:Y TV} {hp:bn} (hi:B_ pre x=Z (vs,hp)) {la:Y AV} (hla:cF hp vs=Z la)
 {W:World} {us:ξ} (hg:∀g cells,G g=Z cells->mA (λ_=>False) W (.ptr cells 0) (.pointer (Z ⟨g,0,U⟩))) (hrel:j9 (λ_=>U) (λ_=>False) W la us):
 Calls P f us.toArray W λe w'=>e= .returned (.bool M)/\Below W.heap.size W w':=by
 obtain⟨l1,I⟩:=vF hi;obtain⟨l2,o⟩:=vF (t:=⟨[.d .bool],[]⟩) (x:=M) (vs:=[.f .bool M]) (h1:=PT.leaf) rfl;have hn:bD hp=λ_=>U:=by
  funext n;cases hb:bD hp n with
  |none=>rfl
  |some b=>
   obtain⟨i,c,rfl,h1,_⟩:=jB hb;have:=I.lt_len h1;omega
 have own0:∀(φ:PM) k,¬own φ (bD hp) k:=by rintro φ k ⟨i,b,h1,_⟩;rw[hn]at h1;cases h1
 have htot:tot (λ_=>False) (λ_=>U) (bD hp)=λ_=>False:=by
  funext k;exact propext ⟨λh=>h.elim id λh=>dR h (own0 _ k),λh=>h.elim⟩
 refine Calls.mono (sp.calls x M q vs hp l1 _ PT.leaf l2 la _ I o hla rfl (λ_=>U) (λ_=>False) W us ⟨(λi j b b' k h1=>by rw[hn]at h1;cases h1),(λi b h1=>by rw[hn]at h1;cases h1),(λk h=>h.elim),(λg cells h=>by rw[htot];exact hg g cells h)⟩ (by rw[htot];exact hrel) (λn k h=>by cases h)) ?_;rintro en w' ⟨v,φ',rfl,he,_,_,_,hv⟩;refine ⟨?_,⟨he.os,he.tape,he.output,he.size,λk hk=>he.blk k hk (own0 _ k)⟩⟩;have hv:cK φ' _ w' (.f (.raw (.bool M))) v:=hv;cases hv with
 |f h=>cases h;rfl
theorem gKw:Tryz.prog.globalNamed "interleave/token.keywords" =Z 0:=by kernel_rfl
theorem tKw:(Tryz.prog.globals[0]?).map (·.type)=Z 261:=by kernel_rfl
theorem kw_of_laid {W:World} (h:laidMetH Tryz.prog [("interleave/token.keywords",Rows.laid_interleave_token_keywords)] W):∀g cells,G g=Z cells→mA (λ_=>False) W (.ptr cells 0) (.pointer (Z ⟨g,0,U⟩)):=by
 intro g cells A;unfold G at A;split at A
 .rename_i hg;have hg:=eq_of_beq hg;subst hg;cases A;rw[MakeChecks.laidMetH_plain _ _ _ (by kernel_rfl)]at h;obtain⟨ps,⟨g0,t0,cs0,f0,p0,q0,z,F,D,I,_,_⟩,_,_⟩:=h;obtain rfl:=jZ (gKw.symm.trans z);obtain rfl:=jZ (tKw.symm.trans F);obtain⟨xs,m1,rfl,q,hlen,hn,hel⟩:=DataW.trod_array Tryz.underlying261 I;have c1:Tryz.prog.cellsOf 9=1:=by kernel_rfl
  have L:Tryz.prog.cellsOf 261=22:=by kernel_rfl
  rw[L]at hlen;simp only[aC,Rows.laid_interleave_token_keywords,DataW.agg.injEq]at q;have hxs:=q.1;have hcell:∀j,j<22→∃l,(xs.map (·.1))[j]? =Z (.lit (.string l))∧W.cell? ⟨0,j,U⟩=Z (.string ⟨l.toArray⟩):=λj hj=>by
   have h1:=hel j hj;rw[c1,Nat.mul_one]at h1;rw[aw (by omega)]at h1;obtain⟨s,e1,e2,_⟩:=DataW.trod_string Tryz.underlying9 h1;refine ⟨s.data.toList,?_,?_⟩
   .rw[bk,aw (by omega),bW,e2]
   .have:=World.var?_cell z D j;rw[this];have h2:cs0.toList[j]? =Z (.string s):=by
     have:((cs0.toList.drop j).take 1)[0]? =Z (.string s):=by rw[e1];rfl
     rw[cC,aW (by omega),gW]at this;simpa using this
    rw[← cq,h2]
  have hb:0<W.heap.size:=by
   obtain⟨l,_,h2⟩:=hcell 0 (by omega);exact World.block_lt_of_cell? W _ h2
  refine .ptr B4 0 0 0 (λj=>(W.cell? ⟨0,j,U⟩).getD undef) (λh=>h) hb (λx d=>?_) (λj hj=>?_) (λj x d=>?_)
  .simp only[B4,bx,cH,gK]at d;rcases d with rfl|rfl|rfl|rfl|rfl|rfl|rfl|rfl|rfl|rfl|rfl|rfl|rfl|rfl|rfl|rfl|rfl|rfl|rfl|rfl|rfl|rfl<;>rfl
  .obtain⟨l,_,h2⟩:=hcell j hj;rw[bM,h2];rfl
  .have hj:j<22:=(bo.1 d).1;obtain⟨l,h1,h2⟩:=hcell j hj;rw[← hxs]at h1;have:x= .raw (.string ⟨l.toArray⟩):=by
    rcases j with _|_|_|_|_|_|_|_|_|_|_|_|_|_|_|_|_|_|_|_|_|_|j;all_goals first|(simp only[lD,List.getElem?_cons_succ,af,DataW.lit.injEq,Lit.string.injEq,B4]at h1 d;subst h1;subst d;rfl)|omega
   rw[this,h2];exact .raw _
 .cases A
end
end Go.Proofs.YtiaemgcbndhkfaaGreatDoor.AI
