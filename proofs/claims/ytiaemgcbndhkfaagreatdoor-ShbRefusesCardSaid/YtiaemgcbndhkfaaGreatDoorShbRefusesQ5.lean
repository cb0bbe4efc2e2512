/-
  Texts of the proof, part 6 of 6: what is used to prove the statement. No condition.
-/
import Derived.Test.YtiaemgcbndhkfaaGreatDoorShbRefusesQ4
import Derived.Test.YtiaemgcbndhkfaaGreatDoorRows
import Derived.LaidMore
namespace Go.Proofs.YtiaemgcbndhkfaaGreatDoor.AI
open Go.RowKit
set_option maxRecDepth 100000
set_option maxHeartbeats 4000000
set_option linter.unusedVariables false
set_option linter.unusedSimpArgs false
open _root_.Bool renaming true→M,false→aa
open _root_.List renaming getElem?_cons_zero→lG
open _root_.Nat renaming beq→aw
open _root_.Option renaming some→Z,none→U,map_some→bU
open _root_.Prod renaming p2→aV,p3→ba,p4→bk,q3→bn,p5→bO,q5→ci,q4→cC,p6→cU,q6→dx,p7→fM,q7→gI,q8→lB,p8→ry,p10→ub,p9→um,p11→ze,q9→GZ,q11→Kj
noncomputable section
theorem E8:aI Pg 66 RB:=mk FI pJ an b9
theorem Zs:aI Pg 40 ZW:=mk vS vz an b9
theorem Vn:aI Pg 40 ad3:= @aI.ro Pg 40 vS.pre vS.post.vs vz ux (Zs.holds rfl) rfl (λx _ h=>by rw[show ux x=av (vz x) λy=>same y.2 x (Z y.1) from iX (av _) (funext λ_=>Pf ..)]at h;exact h)
theorem abv x:lm (sU x) (Nr x):=by
 unfold sU Nr Hi ck bx bo aY cI aB cu;with_reducible repeat' first|(refine OI.o ?_;constructor)|intro _
theorem ace:aI Pg 41 ad1:=xS zF sU Nr abv (ac DU an) b9
theorem Zp:aI Pg 41 afu:= @aI.ro Pg 41 zF.pre zF.post.vs sU AW (ace.holds rfl) rfl (λx _ h=>by rw[show AW x=av (sU x) λy=>same y.2 x.2 (Z y.1) from iX (av _) (funext λ_=>Pf ..)]at h;exact h)
theorem TA:aI Pg 98 Uq:=mk Jp lP (ac Zp an) b9
theorem Zn:aI Pg 99 ZR:=mk QM vx (ac Vn an) b9
theorem Wo x:lm (pH x) (Ds x):=by
 unfold pH Ds zA ub ze Prod.p12 Prod.p13 Prod.p14 Prod.p15 Prod.p16 Prod.p17 aV ba bk bO cU fM ry um Prod.q10 Prod.q16 Prod.q17 Prod.q18 ci gI GZ ck bf bx jk l8 bo aY cI aB cu;with_reducible repeat' first|(refine OI.o ?_;constructor)|intro _
theorem Me:aI Pg 67 Xl:=xS MC pH Ds Wo (ac Vn (ac Zp (ac TA (ac Zn an)))) b9
theorem YW x:lm (r8 x) (HX x):=by
 unfold r8 HX Cf ub ze aV ba bk bO cU fM ry um Kj Prod.q12 ci dx lB GZ ck bx l8 bo aY cI cu;with_reducible repeat' first|(refine OI.o ?_;constructor)|intro _
theorem Zo:aI Pg 36 ZS:=xS QN r8 HX YW (ac yz (ac IA (ac IB (ac E8 (ac Me an))))) b9
theorem Dq x:lm (ig x) (qR x):=by
 unfold ig qR nP ub ze Prod.p12 Prod.p13 Prod.p14 Prod.p15 Prod.p16 Prod.p17 Prod.p18 Prod.p19 aV Prod.p20 ba bk bO cU fM ry um Prod.q21 bx bo cI aB cu;with_reducible repeat' first|(refine OI.o ?_;constructor)|intro _
theorem DI:aI Pg 137 Ea:=xS vM ig qR Dq an b9
theorem KB x:lm (kA x) (uR x):=by
 unfold kA uR rI bf bx jk aY cI aB;with_reducible repeat' first|(refine OI.o ?_;constructor)|intro _
theorem KN:aI Pg 109 Ld:=xS Af kA uR KB (ac DI an) b9
theorem S2 x:lm (re x) (AT x):=by
 unfold re AT wJ bf bx bG aY cI aB cu;with_reducible repeat' first|(refine OI.o ?_;constructor)|intro _
theorem TE:aI Pg 161 Uy:=xS Jv re AT S2 an b9
theorem K9:aI Pg 138 Lx:=mk Av jw (ac TE an) b9
theorem K8:aI Pg 29 Lw:=mk Au oF (ac DU an) b9
theorem Gh:aI Pg 110 GJ:=mk xF md an b9
theorem Gi:aI Pg 87 GM:=mk xG oV (ac Gh an) b9
theorem zL x:lm (fJ x) (oc x):=by
 unfold fJ oc kS aV ba bk bO cC dx bf bx ir bo bG aY cI aB cu;with_reducible repeat' first|(refine OI.o ?_;constructor)|intro _
theorem zR:aI Pg 85 zX:=xS sJ fJ oc zL an b9
theorem zK x:lm (fI x) (oa x):=by
 unfold fI oa kR aV ba bk bx bo bG j7 aY cI aB cu;with_reducible repeat' first|(refine OI.o ?_;constructor)|intro _
theorem zQ:aI Pg 86 zW:=xS sI fI oa zK (ac KN an) b9
theorem zJ x:lm (fH x) (n_ x):=by
 unfold fH n_ kQ aV ba bO ci bx ir bG aY cI aB cu;with_reducible repeat' first|(refine OI.o ?_;constructor)|intro _
theorem zP:aI Pg 88 zV:=xS sH fH n_ zJ an b9
theorem zM x:lm (dw x) (od x):=by
 unfold dw od kT aV ba bO ci bx bG aY cI aB cu;with_reducible repeat' first|(refine OI.o ?_;constructor)|intro _
theorem kP:aI Pg 58 zY:=xS sL dw od zM (ac zR (ac zQ (ac Gi (ac zP an)))) b9
theorem KF x:lm (kE x) (uT x):=by
 unfold kE uT rM aV ba bk bn cC ci ck bx bo aY cI aB cu;with_reducible repeat' first|(refine OI.o ?_;constructor)|intro _
theorem K3:aI Pg 89 Lr:=xS Aq kE uT KF an b9
theorem BS x:lm (eB x) (p_ x):=by
 unfold eB p_ mD aV ba bk cC bx bo bG aY cI aB cu;with_reducible repeat' first|(refine OI.o ?_;constructor)|intro _
theorem mC:aI Pg 59 CU:=xS uI eB p_ BS (ac K3 an) b9
theorem yc x:lm (bT x) (mT x):=by
 unfold bT mT iG cU gI bx jk bo bG aY cI aB cu;with_reducible repeat' first|(refine OI.o ?_;constructor)|intro _
theorem kq:aI Pg 61 yS:=xS sg bT mT yc an b9
theorem tN:aI Pg 112 JF:=mk yM eQ an b9
theorem Ga:aI Pg 113 Gy:=mk xx ja (ac tN an) b9
theorem Nl x:lm (iz x) (wv x):=by
 unfold iz wv qr aV ba bk cC bx ir bG aY cI aB cu;with_reducible repeat' first|(refine OI.o ?_;constructor)|intro _
theorem Ca:aI Pg 111 Ol:=xS CJ iz wv Nl (ac tN an) b9
theorem K0:aI Pg 114 Lp:=mk Ao kC (ac K9 an) b9
theorem j9:aI Pg 91 Gz:=mk xy eg (ac Ca (ac tN (ac Ga (ac K0 an)))) b9
theorem DH:aI Pg 90 D_:=mk vK ie (ac Ca an) b9
theorem AZ:aI Pg 92 Bh:=mk tV gr an b9
theorem wq x:lm (dy x) (lM x):=by
 unfold dy lM gN aV ba bk bO bn cC dx bf bx jk bo bG aY cI aB cu;with_reducible repeat' first|(refine OI.o ?_;constructor)|intro _
theorem wz:aI Pg 93 wU:=xS qw dy lM wq an b9
theorem AH x:lm (eK x) (pe x):=by
 unfold eK pe jL aV ba bk bO bn bf bx bG aY cI aB cu;with_reducible repeat' first|(refine OI.o ?_;constructor)|intro _
theorem AY:aI Pg 94 Bg:=xS tU eK pe AH an b9
theorem Ac:aI Pg 144 Lo:=mk An ml an b9
theorem Zw:aI Pg 139 yX:=mk QV H9 an b9
theorem Hd:aI Pg 139 ad5:= @aI.sub Pg 139 yX.pre yX.post H9 zo Zw rfl (λx y h=>rq (b:=1) x y h)
theorem WM:aI Pg 139 vV:=mk ML Dy an b9
theorem Zv:aI Pg 139 ZY:= @aI.sub Pg 139 vV.pre vV.post Dy H8 WM rfl (λx y h=>rq (b:=1) x y h)
theorem Zr:aI Pg 140 yV:=mk QR H6 an b9
theorem Hc:aI Pg 140 ad2:= @aI.sub Pg 140 yV.pre yV.post H6 zn Zr rfl (λx y h=>rq (b:=24) x y h)
theorem WJ:aI Pg 140 vT:=mk MI Dw an b9
theorem Zq:aI Pg 140 ZV:= @aI.sub Pg 140 vT.pre vT.post Dw H5 WJ rfl (λx y h=>rq (b:=24) x y h)
theorem WL:aI Pg 96 vU:=mk MJ Dx an b9
theorem Zu:aI Pg 96 ZX:= @aI.sub Pg 96 vU.pre vU.post Dx yn WL rfl (λx y h=>rq (b:=8) x y h)
theorem KE x:lm (kD x) (uS x):=by
 unfold kD uS rL aV bn ck bx bo bG aY cI cu;with_reducible repeat' first|(refine OI.o ?_;constructor)|intro _
theorem K2:aI Pg 115 Lq:=xS Ap kD uS KE (ac TG (ac Zv (ac Zq an))) b9
theorem HO x:lm (jI x) (tu x):=by
 unfold jI tu qp aV ba bn ck bx jk j7 aY cI aB cu;with_reducible repeat' first|(refine OI.o ?_;constructor)|intro _
theorem Iv:aI Pg 120 JG:=xS yN jI tu HO (ac Ac an) b9
theorem BT x:lm (gL x) (qa x):=by
 unfold gL qa mF aV ba bn cC ck bx j7 aY cI aB cu;with_reducible repeat' first|(refine OI.o ?_;constructor)|intro _
theorem B':aI Pg 121 CX:=xS uJ gL qa BT (ac Ac an) b9
theorem IC:aI Pg 200 JP:=mk yQ ql an b9
theorem K7:aI Pg 168 Lv:=mk At uU (ac IC an) b9
theorem DQ:aI Pg 172 Eh:=mk vR qY an b9
theorem Ix:aI Pg 142 JJ:=mk yO tJ (ac DQ an) b9
theorem uf x:lm (fB x) (jY x):=by
 unfold fB jY jZ ck bx j7 cI aB cu;with_reducible repeat' first|(refine OI.o ?_;constructor)|intro _
theorem ug:aI Pg 162 ui:=xS nZ fB jY uf (ac K7 an) b9
theorem zI x:lm (jg x) (n7 x):=by
 unfold jg n7 oe aV ba bf jk bo aB;with_reducible repeat' first|(refine OI.o ?_;constructor)|intro _
theorem zO:aI Pg 141 zU:=xS sG jg n7 zI (ac ug an) b9
theorem zu:aI Pg 116 Xr:=mk MH iT (ac zO (ac Ix an)) b9
theorem No x:lm (ec x) (ww x):=by
 unfold ec ww wK bf bx bo j7 aY cI aB cu;with_reducible repeat' first|(refine OI.o ?_;constructor)|intro _
theorem sW:aI Pg 117 Ox:=xS CS ec ww No an b9
theorem xk:aI Pg 119 GA:=mk xz oU an b9
theorem HU x:lm (nu x) (tw x):=by
 unfold nu tw tT bx j7 aY cI aB cu;with_reducible repeat' first|(refine OI.o ?_;constructor)|intro _
theorem ID:aI Pg 143 JQ:=xS yR nu tw HU (ac xk an) b9
theorem FY x:lm (db x) (sq x):=by
 unfold db sq su ck bf bx bo j7 aY cI aB cu;with_reducible repeat' first|(refine OI.o ?_;constructor)|intro _
theorem oX:aI Pg 118 GO:=xS xH db sq FY (ac xk (ac ID an)) b9
theorem Iw:aI Pg 95 JH:=mk fk gM (ac j9 (ac K2 (ac Iv (ac B' an)))) b9
def tv2 (t:TypeId):J Ty:=if aw t 157 then Z (.pr .un (.pr .un dt)) else b9 t
theorem F':aI Pg 115 Gx:=mk xw i_ (ac zw (ac Hd (ac Hc an))) tv2
theorem Gg:aI Pg 95 GG:=mk xD gf (ac j9 (ac F' (ac zu (ac sW (ac oX an))))) tv2
def tv3 (t:TypeId):J Ty:=if aw t 157 then Z (.pr .un (.pr .un (.pr .un dt))) else b9 t
theorem F_:aI Pg 115 Gw:=mk xv iZ (ac zw (ac Hd (ac Hc an))) tv3
theorem Gf:aI Pg 95 GF:=mk xC fo (ac j9 (ac F_ (ac zu (ac sW (ac oX an))))) tv3
def tv4 (t:TypeId):J Ty:=if aw t 157 then Z (.pr .un (.pr .un (.pr .un (.pr .un dt)))) else b9 t
theorem F9:aI Pg 115 Gv:=mk xu iY (ac zw (ac Hd (ac Hc an))) tv4
theorem Ge:aI Pg 95 GD:=mk xB eR (ac j9 (ac F9 (ac zu (ac sW (ac oX an))))) tv4
def tv5 (t:TypeId):J Ty:=if aw t 157 then Z (.pr .un (.pr .un (.pr .un (.pr .un (.pr .un dt))))) else b9 t
theorem F8:aI Pg 115 Gu:=mk xt mc (ac zw (ac Hd (ac Hc an))) tv5
theorem Gb:aI Pg 95 GC:=mk xA gd (ac j9 (ac F8 (ac zu (ac sW (ac oX an))))) tv5
theorem K4:aI Pg 95 Ls:=(aI.orE (pre:=fk.pre) (post:=fk.post) (m:=gM) (m':=(λx=>orE (gf x) ((λx=>orE (fo x) ((λx=>orE (eR x) (gd x)) x)) x))) rfl Iw (aI.orE (pre:=fk.pre) (post:=fk.post) (m:=gf) (m':=(λx=>orE (fo x) ((λx=>orE (eR x) (gd x)) x))) rfl Gg (aI.orE (pre:=fk.pre) (post:=fk.post) (m:=fo) (m':=(λx=>orE (eR x) (gd x))) rfl Gf (aI.orE (pre:=fk.pre) (post:=fk.post) (m:=eR) (m':=gd) rfl Ge Gb))))
theorem nN:aI Pg 60 D':=mk vL dR (ac zw (ac DH (ac j9 (ac AZ (ac wz (ac AY (ac K4 (ac Zu an)))))))) b9
def tv6 (t:TypeId):J Ty:=if aw t 81 then Z (.pr .un (.pr .un mg)) else b9 t
theorem AM x:lm (dY x) (pi x):=by
 unfold dY pi lU aV ba bk bn ci bf bx bo bG aY cI aB cu;with_reducible repeat' first|(refine OI.o ?_;constructor)|intro _
theorem Bc:aI Pg 34 Bl:=xS tY dY pi AM (ac kP (ac mC (ac nN (ac kq an)))) tv6
def tv7 (t:TypeId):J Ty:=if aw t 81 then Z (.pr .un (.pr .un (.pr .un mg))) else b9 t
theorem AL x:lm (dl x) (ph x):=by
 unfold dl ph jN aV ba bk bO bn cC dx bf bx bo bG aY cI aB cu;with_reducible repeat' first|(refine OI.o ?_;constructor)|intro _
theorem Bb:aI Pg 34 Bk:=xS tX dl ph AL (ac kP (ac mC (ac nN (ac kq an)))) tv7
def tv8 (t:TypeId):J Ty:=if aw t 81 then Z (.pr .un (.pr .un (.pr .un (.pr .un mg)))) else b9 t
theorem AK x:lm (dG x) (pg x):=by
 unfold dG pg jM aV ba bk bO cU bn ci dx gI bf bx bo bG aY cI aB cu;with_reducible repeat' first|(refine OI.o ?_;constructor)|intro _
theorem Ba:aI Pg 34 Bj:=xS tW dG pg AK (ac kP (ac mC (ac nN (ac kq an)))) tv8
def tv9 (t:TypeId):J Ty:=if aw t 81 then Z (.pr .un (.pr .un (.pr .un (.pr .un (.pr .un mg))))) else b9 t
theorem AJ x:lm (cV x) (pf x):=by
 unfold cV pf gu aV ba bk bO cU fM bn dx gI lB bf bx bo bG aY cI aB cu;with_reducible repeat' first|(refine OI.o ?_;constructor)|intro _
theorem A_:aI Pg 34 Bi:=xS eL cV pf AJ (ac kP (ac mC (ac nN (ac kq an)))) tv9
theorem B8:aI Pg 34 CV:=(aI.orE (pre:=eL.pre) (post:=eL.post) (m:=cV) (m':=(λx=>orE (dG x) ((λx=>orE (dl x) (dY x)) x))) rfl A_ (aI.orE (pre:=eL.pre) (post:=eL.post) (m:=dG) (m':=(λx=>orE (dl x) (dY x))) rfl Ba (aI.orE (pre:=eL.pre) (post:=eL.post) (m:=dl) (m':=dY) rfl Bb Bc)))
theorem S0 x:lm (lQ x) (AS x):=by
 unfold lQ AS tP aV bn ck bx ir bo bG aY cI aB cu;with_reducible repeat' first|(refine OI.o ?_;constructor)|intro _
theorem TD:aI Pg 16 Uu:=xS Jt lQ AS S0 (ac B8 (ac Mf (ac Zo an))) b9
theorem abu x:lm (BX x) (Nq x):=by
 unfold BX Nq NS aV ba bk bO dx bx bo cI aB cu;with_reducible repeat' first|(refine OI.o ?_;constructor)|intro _
theorem acd:aI Pg 19 ad0:=xS VG BX Nq abu an b9
abbrev Le0:Y PB:=[.cells 31 XR,.cells 31 [.d (.sl kG),.d (.sl qK),.d (.sl lZ),.d (.sl .str),.d (.sl .str),.d (.sl og),.d (.sl gG)]]
def xo:FT:=⟨⟨[.d Ke1,.d aM,.d Ke0],[]⟩,⟨[.d Ka24],[]⟩,dL [(23,(.j ⟨[],[6,7],⟨[.ptr 0 0,.ptr 1 0],Le0⟩,[]⟩)),(52,(.j ⟨[8],[6,7,102],⟨ru,Le0⟩,[]⟩))]⟩
def Gp:cr:=cn xo l_
theorem F5:aI Pg 8 Gp:=mk xo l_ (ac DK an) b9
abbrev Lf0:Y PB:=[.cells 31 [.d Ka24],.cells 107 [.d Kf0],.rows 65 aa im,.rows 50 M im,.cells 60 [.d gG]]
abbrev Lf1:Y PV:=[.ptr 0 0,.ptr 1 0,.row 2,.row 3,.ptr 4 0]
abbrev Lf2:Y PB:=[.cells 31 [.d Ka24],.cells 107 [.d Kf0],.rows 65 aa im,.rows 50 M im]
abbrev Lf3:Y PV:=[.ptr 0 0,.ptr 1 0,.row 2,.row 3,.ptr 4 0,.d .bool]
def MD:FT:=⟨⟨[.d mO,.d Kd0,.d gG],[]⟩,⟨[.agg [.row 1,.d kM,.d kM,.d kM,.d kM,.d kM,.d (.sl aM),.d kM,.d (.sl aM)],.row 0],[.rows 3 aa aM,.rows 58 aa (.sl aM)]⟩,dL [(14,(.j ⟨[22,23],[3,5,6,7,24],⟨[.ptr 0 0,.ptr 1 0,.ptr 2 0,.ptr 3 0,.d aM],[.cells 28 adk,.cells 60 Ld9,.cells 93 [.row 4,.row 5,.row 6,.row 7,.row 8,.row 9,.d (.sl aM),.row 10,.row 11],.cells 58 qC,.rows 58 aa (.sl aM),.rows 58 aa (.sl aM),.rows 58 aa (.sl aM),.rows 58 aa (.sl aM),.rows 58 aa (.sl aM),.rows 58 aa (.sl aM),.rows 58 aa (.sl aM),.rows 3 M aM]⟩,[]⟩))]⟩
def Xm:cr:=cn MD pI
def vN:FT:=⟨⟨[.d mO,.d gG],[]⟩,⟨[.d .bool],[]⟩,dL [(2,(.j ⟨[],[4],⟨[.d .bool],[]⟩,[]⟩))]⟩
def Eb:cr:=cn vN jz
def E_:FT:=⟨⟨[.d Ka24],[]⟩,⟨[.d kM,.d kM,.d aM],[]⟩,dL [(24,(.j ⟨[34,35],[1,2,3,7,8,36],⟨[.ptr 0 0,.row 1,.row 2,.ptr 3 0,.mp 4,.d aM],[.cells 31 [.d Ka24],.rows 58 aa (.sl aM),.rows 58 aa (.sl aM),.cells 93 [.d kM,.d kM,.d kM,.d kM,.d kM,.d kM,.d (.sl aM),.d kM,.d (.sl aM)],.mp aM aM]⟩,[.mpt 8 aM aM]⟩)),(41,(.j ⟨[34,35,36],[1,2,3,7,8],⟨[.ptr 0 0,.row 1,.row 2,.ptr 3 0,.mp 4],[.cells 31 [.d Ka24],.rows 58 aa (.sl aM),.rows 58 aa (.sl aM),.cells 93 [.row 5,.d kM,.d kM,.d kM,.d kM,.d kM,.d (.sl aM),.d kM,.d (.sl aM)],.mp aM aM,.rows 58 aa (.sl aM)]⟩,[.mpt 8 aM aM]⟩))]⟩
def QW:cr:=cn E_ js
def I2:FT:=⟨⟨[.d Ka24],[]⟩,⟨[.d (.sl im),.d aM],[]⟩,dL [(22,(.j ⟨[4,29,30],[1,7,8,9,31],⟨[.ptr 0 0,.ptr 1 0,.row 2,.row 3,.d aM],Lf2⟩,[.nil 9 50 im]⟩)),(30,(.j ⟨[4,29,30,31],[1,7,8,9],⟨[.ptr 0 0,.ptr 1 0,.row 2,.row 3],Lf2⟩,[]⟩)),(33,(.j ⟨[4,10,29,30,31],[1,7,8,9,11],⟨Lf1,Lf0⟩,[]⟩)),(34,(.s 11 0 0 4)),(35,(.j ⟨[4,10,29,30,31],[1,7,8,9,11],⟨Lf1,Lf0⟩,[]⟩)),(36,(.s 11 0 0 4)),(46,(.j ⟨[4,10,29,30,31,60,61],[1,7,8,9,11,62],⟨[.ptr 0 0,.ptr 1 0,.row 2,.row 3,.ptr 4 0,.d aM],Lf0⟩,[]⟩)),(54,(.j ⟨[4,10,29,30,31,60,61,62],[1,7,8,9,11],⟨Lf1,Lf0⟩,[]⟩)),(57,(.j ⟨[4,10,12,29,30,31,60,61,62],[1,7,8,9,11,14],⟨Lf3,Lf0⟩,[]⟩)),(59,(.j ⟨[4,10,12,29,30,31,60,61,62],[1,7,8,9,11,107],⟨Lf3,Lf0⟩,[]⟩))]⟩
def TQ:cr:=cn I2 kB
def CO:FT:=⟨⟨[],[]⟩,⟨[.d .bool],[]⟩,dL [(6,(.j ⟨[],[0],⟨[.d .bool],[]⟩,[]⟩))]⟩
def Oq:cr:=cn CO qk
def yP:FT:=⟨⟨[.d Ka24],[]⟩,⟨[.d .bool],[]⟩,dL [(12,(.j ⟨[],[2],⟨[.d .bool],[]⟩,[]⟩)),(16,(.j ⟨[],[2],⟨[.d .bool],[]⟩,[]⟩))]⟩
def JL:cr:=cn yP kZ
def uL:FT:=⟨⟨[.d Ka24,.d Ke1,.d Ke0],[]⟩,⟨[.d .bool],[]⟩,dL [(3,(.j ⟨[],[3,4,5,44],⟨C9,[.cells 31 [.d Ka24],.cells 34 [.d Ke1],.cells 37 [.d Ke0]]⟩,[]⟩)),(10,(.j ⟨[],[6],⟨[.d .bool],[]⟩,[]⟩))]⟩
def C0:cr:=cn uL km
theorem Wp x:lm (pI x) (Dt x):=by
 unfold pI Dt zB ub ze aV ba bk bO cU fM ry um Kj Prod.q12 ci dx lB GZ ck bx l8 bo aY cI cu;with_reducible repeat' first|(refine OI.o ?_;constructor)|intro _
theorem WI:aI Pg 36 Xm:=xS MD pI Dt Wp (ac yz (ac IA (ac IB (ac E8 (ac Me an))))) b9
theorem DJ:aI Pg 39 Eb:=mk vN jz an b9
theorem Pu x:lm (js x) (yf x):=by
 unfold js yf r_ aV ba bk ci ck bf bx ir bG j7 aY cI aB cu;with_reducible repeat' first|(refine OI.o ?_;constructor)|intro _
theorem EY:aI Pg 21 QW:=xS E_ js yf Pu (ac TD (ac Mf (ac WI (ac TG (ac yz an))))) b9
theorem SU x:lm (kB x) (AO x):=by
 unfold kB AO tO aV ba bk bO cU fM bn cC ci ck bf bx ir bo bG j7 aY cI aB cu;with_reducible repeat' first|(refine OI.o ?_;constructor)|intro _
theorem Ii:aI Pg 20 TQ:=xS I2 kB AO SU (ac EY (ac K8 (ac DJ an))) b9
theorem NQ:aI Pg 9 Oq:=mk CO qk (ac acd (ac Ii an)) b9
theorem Iz:aI Pg 10 JL:=mk yP kZ (ac In (ac Ii (ac EY an))) b9
theorem hlaw25_ShbRefuses:aI Pg 4 C0:=mk uL km (ac F5 (ac NQ (ac Iz an))) b9
theorem run_law {P:Program} {f:FuncId} {pre:Tm} {m:pre.ty.den->J (Tm.ty ⟨[.d .bool],[]⟩).den} (sp:pO P f ⟨pre,⟨[.d .bool],[]⟩,m⟩) (h0:pre.bs.length=0) {x:pre.ty.den} (q:m x=Z M) {vs:Y TV} {hp:bl} (hi:B6 pre x=Z (vs,hp)) {la:Y AV} (hla:cD hp vs=Z la)
 {W:World} {us:ξ} (hg:∀g cells,G g=Z cells->mw (λ_=>False) W (.ptr cells 0) (.pointer (Z ⟨g,0,U⟩))) (hrel:j6 (λ_=>U) (λ_=>False) W la us):
 Calls P f us.toArray W λe w'=>e= .returned (.bool M)/\Below W.heap.size W w':=by
 obtain⟨l1,I⟩:=vD hi;obtain⟨l2,o⟩:=vD (t:=⟨[.d .bool],[]⟩) (x:=M) (vs:=[.f .bool M]) (h1:=PT.leaf) rfl;have hn:bB hp=λ_=>U:=by
  funext n;cases hb:bB hp n with
  |none=>rfl
  |some b=>
   obtain⟨i,c,rfl,h1,_⟩:=jA hb;have:=I.lt_len h1;omega
 have own0:∀(φ:PM) k,¬own φ (bB hp) k:=by rintro φ k ⟨i,b,h1,_⟩;rw[hn]at h1;cases h1
 have htot:tot (λ_=>False) (λ_=>U) (bB hp)=λ_=>False:=by
  funext k;exact propext ⟨λh=>h.elim id λh=>dP h (own0 _ k),λh=>h.elim⟩
 refine Calls.mono (sp.calls x M q vs hp l1 _ PT.leaf l2 la _ I o hla rfl (λ_=>U) (λ_=>False) W us ⟨(λi j b b' k h1=>by rw[hn]at h1;cases h1),(λi b h1=>by rw[hn]at h1;cases h1),(λk h=>h.elim),(λg cells h=>by rw[htot];exact hg g cells h)⟩ (by rw[htot];exact hrel) (λn k h=>by cases h)) ?_;rintro en w' ⟨v,φ',rfl,he,_,_,_,hv⟩;refine ⟨?_,⟨he.os,he.tape,he.output,he.size,λk hk=>he.blk k hk (own0 _ k)⟩⟩;have hv:cH φ' _ w' (.f (.raw (.bool M))) v:=hv;cases hv with
 |f h=>cases h;rfl
theorem gKw:Tryz.prog.globalNamed "interleave/token.keywords" =Z 0:=by kernel_rfl
theorem tKw:(Tryz.prog.globals[0]?).map (·.type)=Z 261:=by kernel_rfl
theorem kw_of_laid {W:World} (h:laidMetH Tryz.prog [("interleave/token.keywords",Rows.laid_interleave_token_keywords)] W):∀g cells,G g=Z cells→mw (λ_=>False) W (.ptr cells 0) (.pointer (Z ⟨g,0,U⟩)):=by
 intro g cells A;unfold G at A;split at A
 .rename_i hg;have hg:=eq_of_beq hg;subst hg;cases A;rw[MakeChecks.laidMetH_plain _ _ _ (by kernel_rfl)]at h;obtain⟨ps,⟨g0,t0,cs0,f0,p0,q0,z,F,D,I,_,_⟩,_,_⟩:=h;obtain rfl:=jW (gKw.symm.trans z);obtain rfl:=jW (tKw.symm.trans F);obtain⟨xs,m1,rfl,q,hlen,hn,hel⟩:=DataW.trod_array Tryz.underlying261 I;have c1:Tryz.prog.cellsOf 9=1:=by kernel_rfl
  have L:Tryz.prog.cellsOf 261=22:=by kernel_rfl
  rw[L]at hlen;simp only[aC,Rows.laid_interleave_token_keywords,DataW.agg.injEq]at q;have hxs:=q.1;have hcell:∀j,j<22→∃l,(xs.map (·.1))[j]? =Z (.lit (.string l))∧W.cell? ⟨0,j,U⟩=Z (.string ⟨l.toArray⟩):=λj hj=>by
   have h1:=hel j hj;rw[c1,Nat.mul_one]at h1;rw[ax (by omega)]at h1;obtain⟨s,e1,e2,_⟩:=DataW.trod_string Tryz.underlying9 h1;refine ⟨s.data.toList,?_,?_⟩
   .rw[bi,ax (by omega),bU,e2]
   .have:=World.var?_cell z D j;rw[this];have h2:cs0.toList[j]? =Z (.string s):=by
     have:((cs0.toList.drop j).take 1)[0]? =Z (.string s):=by rw[e1];rfl
     rw[cA,aT (by omega),gP]at this;simpa using this
    rw[← cq,h2]
  have hb:0<W.heap.size:=by
   obtain⟨l,_,h2⟩:=hcell 0 (by omega);exact World.block_lt_of_cell? W _ h2
  refine .ptr BZ 0 0 0 (λj=>(W.cell? ⟨0,j,U⟩).getD undef) (λh=>h) hb (λx d=>?_) (λj hj=>?_) (λj x d=>?_)
  .simp only[BZ,bu,cE,gH]at d;rcases d with rfl|rfl|rfl|rfl|rfl|rfl|rfl|rfl|rfl|rfl|rfl|rfl|rfl|rfl|rfl|rfl|rfl|rfl|rfl|rfl|rfl|rfl<;>rfl
  .obtain⟨l,_,h2⟩:=hcell j hj;rw[bL,h2];rfl
  .have hj:j<22:=(bm.1 d).1;obtain⟨l,h1,h2⟩:=hcell j hj;rw[← hxs]at h1;have:x= .raw (.string ⟨l.toArray⟩):=by
    rcases j with _|_|_|_|_|_|_|_|_|_|_|_|_|_|_|_|_|_|_|_|_|_|j;all_goals first|(simp only[lG,List.getElem?_cons_succ,af,DataW.lit.injEq,Lit.string.injEq,BZ]at h1 d;subst h1;subst d;rfl)|omega
   rw[this,h2];exact .raw _
 .cases A
end
end Go.Proofs.YtiaemgcbndhkfaaGreatDoor.AI
