/-
  Texts of the proof, part 5 of 5: what is used to prove the statement. No condition.
-/
import Derived.Test.YtcmnmakaoonfgaaGreatDoorWeakClosesQ3
import Derived.Deep.Slices
import Derived.OpenShut
import Derived.Below
import Derived.Test.YtcmnmakaoonfgaaGreatDoorProg
import Derived.KernelRfl
import Derived.Test.YtcmnmakaoonfgaaGreatDoorRows
import Derived.LaidMore
namespace Go.Proofs.YtcmnmakaoonfgaaGreatDoor.AI
open Go.RowKit
set_option maxRecDepth 100000
set_option maxHeartbeats 4000000
set_option linter.unusedVariables false
set_option linter.unusedSimpArgs false
set_option linter.defProp false
open _root_.Array renaming replicate→ua
open _root_.Bool renaming true→J,false→aa,not_true→yS,false_or→EC
open Call renaming operands→dI
open _root_.Int renaming ofNat_eq_natCast→al,ofNat→aP,toNat→aQ
open _root_.List renaming length→l!,length→ah,replicate→aF,length_cons→bK,length_singleton→cj,getElem?_cons_zero→dH,map→fP,cons_append→gG,replicate_succ→kR,nil_append→kV,length_nil→kW,getElem?_cons_succ→mG,append→sE,map_drop→uc,getElem?_concat_length→uK,set→wj,map_nil→wJ,take_succ_cons→xF,flatMap_append→xG
open _root_.Nat renaming beq→aA,testBit→aK,add_zero→cX,ble→dK,blt→ef,mod_eq_of_lt→Es,mul_one→Gx,blt_eq→NA,le_succ→Qo
open _root_.Option renaming some→Z,none→U,bind_some→aB,map_some→bm,map→ii,getD_some→nY,bind_none→wH
open _root_.Prod renaming a→a8,b→bt,c→bI,d→b_,e→cA,h→dj,g→dJ,f→dO,k→fD,j→iC,l→lG,i→mo,n→mq,m→mF,o→nJ,p→pV,s→wG,q→B_
open Result renaming andThen_ok→cM
open Sem renaming run_bind→ec,run_pure→pU
open _root_.Sum renaming inr→cv,inl→wF
open Value renaming okWide→J0
open World renaming cell?→Qm
noncomputable section
variable {i j:Nat} {T:Ty}
def PC {ty:TypeId} {xs:Y (BZ T)} {n:Nat} {A:BZ T} (hf:∀o,xs[n]? =Z o->j/3=n->vX i j ty T A=vX i j ty T o):oN i j ty T (xs.set n A)=oN i j ty T xs:=by
 unfold oN;rw[c6];by_cases e:n=j/3
 .rw[aC e];by_cases D:n<l! xs
  .rw[aC (by omega)];have h1:xs[n]? =Z xs[n]:=aD D;rw[<- e,h1];exact dT Z (hf _ h1 e.symm)
  .rw[av (by omega),bJ (by omega)]
 .rw[av e]
def UI {ty:TypeId} {xs:Y (BZ T)} {n:Nat} {A:BZ T} (D:j/3=n) (L:n<l! xs):oN i j ty T (xs.set n A)=Z (vX i j ty T A):=by
 unfold oN;rw[c6,aC D.symm,aC (by omega)];rfl
def Ho {ty:TypeId} {xss:Y (Y T.den)} {xs:Y T.den} (A:i≠j):pq i ty T (xss.set j xs)=pq i ty T xss:=by
 unfold pq;rw[c6,av (λe=>A e.symm)]
def L_ {ty:TypeId} {xss:Y (Y T.den)} {xs:Y T.den} (z:i<l! xss):pq i ty T (xss.set i xs)=XR ty T xs:=by
 unfold pq;rw[c6,aC rfl,aC (by omega)];rfl
def R_ (h:ef i j=J):i<j:=aU h
def af7 {c:Nat} (h:i=j) (z:c<j):c<i:=by omega
def lh (a sz:Nat):∀(z:η) (k:Nat),l! (lQ a sz k z)=l! z
 |[],_=>rfl
 |l::r,k=>by simp only[lQ,bK,lh a sz r]
variable {A:HF}
def Ti {z:HF} (d:rh A z):∀n,gL A z ((repl [.slice U 0 0] n).map .f) (aF n .emp)
 |0=>trivial
 |n+1=>⟨Le.nilEmp.toH d,Ti d n⟩
section ops
variable {R:Type} {P:Program} {cg:TypeId->M Ty} {o:Oper} {e:hX} {h:a_} {nx:Nat} {K:KO R} {r:R} (hinv:gW h nx) (hi:su e h)
include hinv hi
variable {b:Bool} {s:Operand}
def atj {k v:Operand} (hc:cZ P o.op=Z (.jy b s k v)) (z:pG cg e h nx K (.jy b s k v)=Z r):iT P o aa e h nx K r:=by
 obtain⟨H,hH⟩:=gC h;simp only[pG]at z;split at z
 .rename_i id j str L D hv hv2 hv3;split at z
  .rename_i ty S a xs hb;split at z
   .rename_i hq;simp only[ak,cV]at hq;obtain⟨q1,q2⟩:=hq;subst q1;have q2:=R_ q2;have hk0:=cL z;clear z;obtain⟨hj,z⟩:=hk0;obtain⟨y,h1,h2⟩:=ba hi hv;obtain⟨y2,h3,h4⟩:=ba hi hv2;obtain⟨y3,h5,h6⟩:=ba hi hv3;simp only[b9,JB,af]at h2 h4 h6;subst h2 h4 h6;have e1:3*j.toNat+2+str=3*j.toNat+1+str+1:=by omega
    obtain⟨_,_,hjl⟩:=mQ hj;have hg:H.get (jE id (3*j.toNat+2+str))=Z ⟨0,.mp (G1 (sA str (dU S xs j)))⟩:=by rw[hH];exact am2 hb hj q2
    rw[e1]at h1 hg;have hf:zE (.int .i64 L) (.f (.raw (.bool D))) (G1 (sA str (dU S xs j)))=Z (G1 (zB (K:=.int .i64) (V:=.bool) L D (sA str (dU S xs j)))):=QY (str:=aa) (K:=.int .i64) (V:=.bool) rfl L D _;have henc:fS (.int .i64) L= .raw (.int .i64 L):=rfl;have henc2:fS .bool D= .raw (.bool D):=rfl;rw[henc]at h3;rw[henc2]at h5;refine ⟨_,_,_,_,_,z,eT.wrtM (km:=3*j.toNat+1+str) (v:=.undef) (rd:=gf id) (k:=0) (y0:=raw undef) (rdl:=[jE id (3*j.toNat+1+str+1)]) (b0:=⟨0,.mp (G1 (zB (K:=.int .i64) (V:=.bool) L D (sA str (dU S xs j))))⟩) hinv hc hH (by simp only[dx,h1,h3,h5,hg,yf,bk,hf]) hb rfl (λ_ _ he=>by cases he) (λ_ _ he=>by cases he) (λ_=>rfl) (λk' hk'=>?_) (λH1 H2 d b' A=>?_) (λH1 H2 y d hy=>?_) (λn hn=>?_)⟩
    .refine PC λo' N hn=>?_
     rw[Ci (S:=S) hj,af]at N;subst N;unfold vX;by_cases m0:k'%3=0
     .rw[aC m0,aC m0];cases str<;>rfl
     .rw[av m0,av m0];by_cases m1:k'%3=1
      .rw[aC m1,aC m1];cases str with
       |zero=>exact co (by omega) hk'
       |succ str=>rfl
      .rw[av m1,av m1];cases str with
       |zero=>rfl
       |succ str=>exact co (by omega) hk'
    .have A:oN id (3*j.toNat+1+str) ty S (wj xs j.toNat (vy str (dU S xs j) (zB (K:=.int .i64) (V:=.bool) L D (sA str (dU S xs j)))))=Z b':=A;rw[UI (by omega) hjl]at A;have:vX id (3*j.toNat+1+str) ty S (vy str (dU S xs j) (zB (K:=.int .i64) (V:=.bool) L D (sA str (dU S xs j))))=⟨0,.mp (G1 (zB (K:=.int .i64) (V:=.bool) L D (sA str (dU S xs j))))⟩:=by
      unfold vX;rw[av (by omega)];cases str with
      |zero=>rw[aC (by omega)];rfl
      |succ str=>rw[av (by omega)];rfl
     rw[this,af]at A;subst A;exact fH.refl d _
    .simp only[b9,af]at hy;subst hy;exact kl.refl d _
    .simp only[aE]at hn;subst hn;rw[iJ];exact bu.2 rfl
   .cases z
  .cases z
 .cases z
def alh {v:Operand} (hc:cZ P o.op=Z (.store i s v)) (A:pG cg e h nx K (.store i s v)=Z r):iT P o aa e h nx K r:=by
 obtain⟨H,hH⟩:=gC h;simp only[pG]at A;split at A
 .rename_i id j off y hv hv2;obtain⟨yb,h1,h2⟩:=ba hi hv;obtain⟨L,h3,h4⟩:=ba hi hv2;simp only[b9,JB,af]at h2;subst h2;split at A
  .rename_i ty S a xs hb;have hk0:=cL A;clear A;obtain⟨hj,A⟩:=hk0;obtain⟨_,_,hjl⟩:=mQ hj;split at A
   .rename_i z m hset;split at A
    .rename_i N;have N:=au N;subst N;have hg:H.get (pL id j)=Z ⟨ty,.mx (CG id S j (dU S xs j))⟩:=by rw[hH];exact am3 hb hj
     have hso:∀H1 H2,rh H1 H2->Qf H1 H2 L S (dU S xs j).1 z off i:=λH1 H2 d=>tF d h4 40 S _ off i z 0 hset Eo.zero
     have hcell:=oa h4 40 S _ off i z 0 hset;obtain⟨fs0,q1,q2,q3,_,_⟩:=hso _ _ (rh.refl (erHF h));have hlen:L.cs.length=i:=by rw[<- q2,<-bH (f:=AV.f),q1.length]
     have hput:(BC.mx (CG id S j (dU S xs j))).put off L.cs=Z (.mx (AI.splice (CG id S j (dU S xs j)) off L.cs)):=by
      unfold BC.put;rw[aC]
      .rfl
      .simp only[ak];refine ⟨⟨rfl,aW ?_⟩,hcell⟩;simp only[BC.len,CG,bc,bH,bw];omega
     have ha0:dx (.store i s v) (CU e h) H 0=Z ⟨raw undef,[pL id j],[pL id j],[(pL id j,⟨ty,.mx (AI.splice (CG id S j (dU S xs j)) off L.cs)⟩)],[]⟩:=by
      simp only[dx,h1,h3,BX,hg,hlen,cm,bk,hput]
     refine ⟨_,_,_,_,_,A,eT.wrtM (km:=3*j.toNat) (v:=.undef) (rd:=gf id) hinv hc hH ha0 hb rfl (λ_ _ he=>by cases he) (λ_ _ he=>by cases he) (λ_=>rfl) (λk' hk'=>?_) (λH1 H2 d b' D=>?_) (λH1 H2 y d hy=>?_) (λn hn=>?_)⟩
     .refine PC λo' ho' hn=>?_
      rw[Ci (S:=S) hj,af]at ho';subst ho';have k0:k'%3≠0:=by omega
      unfold vX;rw[av k0,av k0]
     .have D:oN id (3*j.toNat) ty S (wj xs j.toNat (z,(dU S xs j).2))=Z b':=D;rw[UI (by omega) hjl]at D;have:vX id (3*j.toNat) ty S (z,(dU S xs j).2)=⟨ty,.mx (CG id S j (z,(dU S xs j).2))⟩:=by
       unfold vX;rw[aC (by omega)];rfl
      rw[this,af]at D;subst D;obtain⟨fs,p1,p2,p3,p4,p5⟩:=hso H1 H2 d;refine fH.C rfl rfl ?_ λs hx=>?_
      .simp only[BC.toMx];have e2:CG id S j (z,(dU S xs j).2)=AI.splice (CG id S j (dU S xs j)) off (fs.map .f):=by
        unfold CG;rw[p4];unfold AI.splice;rw[iU (by rw[bH,bw];omega),sD (by rw[bH,bH,bw];omega)];simp[fV,uc]
       rw[e2];exact (gL.refl d _).splice _ p1
      .simp only[BC.toMx,CG,bG]at hx;rcases hx with hx|hx
       .obtain⟨q,hq,rfl⟩:=ch.1 hx;have:∀q∈([z]:Y S.den).flatMap (bN S),q.isCell=J:=ml S [z];exact this q (by simpa using hq)
       .simp only[aZ,cu,fJ]at hx;rcases hx with rfl|rfl<;>rfl
     .simp only[b9,af]at hy;subst hy;exact kl.refl d _
     .simp only[aE]at hn;subst hn;unfold pL;rw[iJ];exact bu.2 rfl
    .cases A
   .cases A
  .cases A
 .rename_i id j x sz off y hv hv2;obtain⟨yb,h1,h2⟩:=ba hi hv;obtain⟨L,h3,h4⟩:=ba hi hv2;simp only[b9,JB,af]at h2;subst h2;split at A
  .rename_i ty T a xss hb;split at A
   .rename_i hs;have hs:=au hs;subst hs;obtain⟨hj,A⟩:=cL A;obtain⟨hji,A⟩:=cL A;obtain⟨_,_,hjl⟩:=mQ hj;split at A
    .rename_i z m hset;split at A
     .rename_i N;have N:=au N;subst N;generalize hxs:xK (T:=T) xss j=xs at*
      obtain⟨i0,i1,i2⟩:=mQ hji;have hne:xs.length≠0:=by omega
      have hg:H.get (jE id (j.toNat+1))=Z ⟨ty,.fz (xs.flatMap (bN T))⟩:=by rw[hH,<-hxs];exact Zq hb hj (by rw[hxs];exact hne)
      have fl:=dY (bw T) xs;have hx:xs[sz.toNat]? =Z (geti _ xs sz):=by
       unfold geti;rw[ax,aD i2];rfl
      have hle:(sz.toNat+1)*T.size<=xs.length*T.size:=cQ _ i2;rw[iD]at hle;have hso:∀H1 H2,rh H1 H2->Qf H1 H2 L T (geti _ xs sz) z off i:=λH1 H2 d=>tF d h4 40 T _ off i z 0 hset Eo.zero
      have hcell:=oa h4 40 T _ off i z 0 hset;obtain⟨fs0,q1,q2,q3,_,_⟩:=hso _ _ (rh.refl (erHF h));have hlen:L.cs.length=i:=by rw[<- q2,<-bH (f:=AV.f),q1.length]
      obtain⟨c',hput,hc1,hc2⟩:∃c',(BC.fz (xs.flatMap (bN T))).put (sz.toNat*T.size+off) L.cs=Z c'/\c'.toMx=AI.splice ((xs.flatMap (bN T)).map .f) (sz.toNat*T.size+off) L.cs/\c'.isCells=J:=by
       unfold BC.put;rw[aC]
       .split
        .rename_i l ys hl hys;simp only[BC.fz.injEq]at hl;subst hl;refine ⟨_,rfl,?_,rfl⟩;rw[nI hys];simp only[BC.toMx];unfold AI.splice;simp[fV,uc]
        .exact⟨_,rfl,rfl,rfl⟩
       .simp only[ak];exact⟨⟨rfl,aW (by simp only[BC.len];omega)⟩,hcell⟩
      have ha0:dx (.store i s v) (CU e h) H 0=Z ⟨raw undef,[jE id (j.toNat+1)],[jE id (j.toNat+1)],[(jE id (j.toNat+1),⟨ty,c'⟩)],[]⟩:=by
       simp only[dx,h1,h3,BX,hg,hlen,cm,bk,hput]
      refine ⟨_,_,_,_,_,A,eT.wrtM (km:=j.toNat) (v:=.undef) (rd:=gf id) hinv hc hH ha0 hb rfl (λ_ _ he=>by cases he) (λ_ _ he=>by cases he) (λ_=>rfl) (λk' hk'=>Ho hk') (λH1 H2 d b' D=>?_) (λH1 H2 y d hy=>?_) (λn hn=>?_)⟩
      .have D:pq j.toNat ty T (wj xss j.toNat (cN xs sz z))=Z b':=D;rw[L_ hjl]at D;unfold XR at D;have hl2:(cN xs sz z).length=xs.length:=by unfold cN;rw[fL]
       rw[av (by simp only[cG];omega),af]at D;subst D;obtain⟨fs,p1,p2,p3,p4,p5⟩:=hso H1 H2 d;have hfl:(cN xs sz z).flatMap (bN T)=AI.splice (xs.flatMap (bN T)) (sz.toNat*T.size+off) fs:=L5 (bw T) xs sz.toNat _ z hx off fs (by omega) p4;refine fH.C hc2 rfl ?_ λs hx=>?_
       .rw[hc1];simp only[BC.toMx];rw[hfl];have:(AI.splice (xs.flatMap (bN T)) (sz.toNat*T.size+off) fs).map AV.f=AI.splice ((xs.flatMap (bN T)).map .f) (sz.toNat*T.size+off) (fs.map .f):=by unfold AI.splice;simp[fV,uc]
        rw[this];exact (gL.refl d _).splice _ p1
       .simp only[BC.toMx]at hx;obtain⟨q,hq,rfl⟩:=ch.1 hx;exact ml T _ q hq
      .simp only[b9,af]at hy;subst hy;exact kl.refl d _
      .simp only[aE]at hn;subst hn;rw[iJ];exact bu.2 rfl
     .cases A
    .cases A
   .cases A
  .cases A
 .rename_i id x j off rr hv hv2;obtain⟨yb,h1,h2⟩:=ba hi hv;obtain⟨L,h3,h4⟩:=ba hi hv2;simp only[b9,af]at h2;subst h2;split at A
  .rename_i hq;simp only[ak]at hq;obtain⟨q1,q2,q3⟩:=hq;have q1:=au q1;have q2:=au q2;have q3:=au q3;subst q1 q2 q3;split at A
   .rename_i ty z a ls ty2 p T xs hb hb2;split at A
    .rename_i hz;have hz:=au hz;subst hz;have hk0:=cL A;clear A;obtain⟨hj,A⟩:=hk0;have hk0:=cL A;clear A;obtain⟨hp,A⟩:=hk0;obtain⟨_,_,hjl⟩:=mQ hj;have hyy:L=dm J rr T.size xs.length:=by
      simp only[b9,bC,hb2,aB,iG,af]at h4;rw[<- h4];cases p with
      |true=>rfl
      |false=>
       have hp:(!(aA (ah xs) 0))=J:=hp;have hp:ah xs≠0:=λe=>by rw[e]at hp;cases hp
       unfold dm;rw[av (by simp),av (by simpa using hp)]
     have hg:H.get (nm id)=Z ⟨ty,.mx (lQ a T.size 0 ls)⟩:=by rw[hH,bL,hb];rfl
     have hcs:L.cs=[L]:=by rw[hyy];unfold dm;split<;>rfl
     have hcell:L.isCell=J:=by rw[hyy];unfold dm;split<;>rfl
     have hput:(BC.mx (lQ a T.size 0 ls)).put (j.toNat*1+0) L.cs=Z (.mx (AI.splice (lQ a T.size 0 ls) j.toNat [L])):=by
      rw[hcs,Gx,cX];unfold BC.put;rw[aC]
      .rfl
      .simp only[ak,gw,hcell,and_true];refine ⟨rfl,aW ?_⟩;have hl:(lQ a T.size 0 ls).length=ah (α:=Int) ls:=lh a T.size ls 0;show j.toNat+1<=(lQ a T.size 0 ls).length;rw[hl];exact hjl
     have hlen:L.cs.length=1:=by rw[hcs];rfl
     have ha0:dx (.store 1 s v) (CU e h) H 0=Z ⟨raw undef,[nm id],[nm id],[(nm id,⟨ty,.mx (AI.splice (lQ a T.size 0 ls) j.toNat [L])⟩)],[]⟩:=by
      simp only[dx,h1,h3,BX,hg,hlen,cm,bk,hput]
     refine ⟨_,_,_,_,_,A,eT.wrt (m:=0) (v:=.undef) (rd:=gf id) hinv hc hH ha0 hb (dE.zero h) (by simp) rfl (λ_ _ he=>by cases he) (λH1 H2 d g b' D=>?_) (λH1 H2 y d g hy=>?_) (λn hn=>?_)⟩
     .cases D;have hl:(lQ a T.size 0 ls).length=ah (α:=Int) ls:=lh a T.size ls 0;rw[KI (af7 hl hjl),hyy];exact fH.refl d _
     .simp only[b9,af]at hy;subst hy;exact kl.refl d _
     .simp only[aE]at hn;subst hn;rw[dc];exact bu.2 rfl
    .cases A
   .cases A
  .cases A
 .cases A
variable {S:kc} {u:TV}
def eT.app1 {s:OT} (hc:cZ P o.op=Z s) {H:mY} (hH:H.get=erHF h) {k n0:Nat} {y0:AV} {rdl:ι} {b0:kc} (ha:dx s (CU e h) H k=Z ⟨y0,rdl,[nm nx,n0],[(nm nx,b0)],[nm nx]⟩) {h':a_} 
 (hsame:∀n,n≠nm nx->n≠n0->erHF h' n=erHF h n) (hne:nm nx≠n0) (hdead:erHF h' n0=U) (hnew:erHF h' (nm nx)=Z S) (hblk:∀L D,rh L D->fH L D b0 S) (hval:∀L D y,rh L D->b9 h' u=Z y->kl L D y0 y)
 (hrd:∀n∈rdl,aK i (ow n)=J) (hwr:aK j (ow n0)=J) (hwn:aK j nx=J) (hrows:b7 h h') (hinv':gW h' (nx+1)):eT P o aa e h nx u i j h' (nx+1):=by
 have _:=hinv;have _:=hi;refine eT.mk' hc hH ha [nm nx,n0] (λrd hi=>hi) (λn A=>?_) (λrd hi b' hb'=>?_) (λL D d hw1 _ hw2=>⟨λrd hi b b' N z=>?_,λy hy=>hval L D y d hy⟩) hrd (λn A=>?_) (λn A=>by simp only[aE]at A;subst A;rw[dc];omega) hrows hinv' (by omega)
 .simp only[aZ,cu,fJ,not_or]at A;exact hsame n A.1 A.2
 .simp only[aZ,cu,fJ]at hi;rcases hi with rfl|rfl
  .exact⟨_,by rw[aC (by simp)];exact eR _ _⟩
  .rw[hdead]at hb';cases hb'
 .simp only[aZ,cu,fJ]at hi;rcases hi with rfl|rfl
  .rw[hw1 _ (by simp),eR]at N;rw[hw2 _ (by simp),hnew]at z;simp only[af]at N z;subst N z;exact hblk L D d
  .rw[hw2 _ (by simp),hdead]at z;cases z
 .simp only[aZ,cu,fJ]at A;rcases A with rfl|rfl
  .rw[dc];exact hwn
  .exact hwr
def eT.app0 {s:OT} (hc:cZ P o.op=Z s) {H:mY} (hH:H.get=erHF h) {k:Nat} {y0:AV} {rdl:ι} {b0:kc} (ha:dx s (CU e h) H k=Z ⟨y0,rdl,[nm nx],[(nm nx,b0)],[nm nx]⟩) {h':a_} 
 (hsame:∀n,n≠nm nx->erHF h' n=erHF h n) (hnew:erHF h' (nm nx)=Z S) (hblk:∀A z,rh A z->fH A z b0 S) (hval:∀A z y,rh A z->b9 h' u=Z y->kl A z y0 y)
 (hrd:∀n∈rdl,aK i (ow n)=J) (hwn:aK j nx=J) (hrows:b7 h h') (hinv':gW h' (nx+1)):eT P o aa e h nx u i j h' (nx+1):=by
 have _:=hinv;have _:=hi;refine eT.mk' hc hH ha [nm nx] (λrd hi=>hi) (λn D=>?_) (λrd hi b' hb'=>?_) (λA z d hw1 _ hw2=>⟨λrd hi b b' N L=>?_,λy hy=>hval A z y d hy⟩) hrd (λn D=>?_) (λn D=>by simp only[aE]at D;subst D;rw[dc];omega) hrows hinv' (by omega)
 .exact hsame n (by simpa using D)
 .simp only[aE]at hi;subst hi;exact⟨_,by rw[aC (by simp)];exact eR _ _⟩
 .simp only[aE]at hi;subst hi;rw[hw1 _ (by simp),eR]at N;rw[hw2 _ (by simp),hnew]at L;simp only[af]at N L;subst N L;exact hblk A z d
 .simp only[aE]at D;subst D;rw[dc];exact hwn
variable {z:TypeId}
def atq {x:Operand} (hc:cZ P o.op=Z (.app z i j s x)) (ty:pG cg e h nx K (.app z i j s x)=Z r):iT P o aa e h nx K r:=by
 obtain⟨H,hH⟩:=gC h;have hfr:=hinv.fresh;simp only[pG]at ty;split at ty
 .rename_i id id2 hv hv2;obtain⟨yb,h1,h2⟩:=ba hi hv;obtain⟨yy,h3,h4⟩:=ba hi hv2;simp only[b9,af]at h4;subst h4;split at ty
  .rename_i ty' a D tyc a' bytes hb hb2;split at ty
   .rename_i hq;simp only[ak,cV]at hq;obtain⟨⟨q1,q2⟩,q3,q4⟩:=hq;have q1:=au q1;have q2:=eq_of_beq q2;have q3:=au q3;have q4:id≠id2:=λe=>by rw[e,eW]at q4;cases q4
    subst q1 q2 q3;have N:=cL ty;clear ty;obtain⟨hroom,ty⟩:=N;have hrow:=ZR hH hb2 (l':=[.H (pL a bytes) 0]) rfl (n:=1) (sz:=1) rfl;have hidlt:=hinv.low id _ hb;have hne:nx≠id:=by omega
    have hroom:be (ah (α:=Int) D+1) j=J:=hroom;simp only[b9,bC,hb,aB,iG,rV,af]at h2;generalize hh':(h.set id (Z (.qj J 1 (ah (α:=Int) D)))).set nx (Z (.I (.qc z) a (sE (α:=Int) D [bytes])))=h' at ty;have A:∀sz,h'.get sz=if sz=nx then Z (.I (.qc z) a (sE (α:=Int) D [bytes])) else if sz=id then Z (.qj J 1 (ah (α:=Int) D)) else h.get sz:=λsz=>by rw[<- hh',PT.get_set,PT.get_set]
    have hr:b7 h h':=λsz r hi=>by
     rw[bC]at hi ⊢;rw[A];by_cases e1:sz=nx
     .rw[e1,hfr]at hi;cases hi
     .rw[av e1];by_cases e2:sz=id
      .rw[aC e2];rw[e2,hb]at hi;exact hi
      .rw[av e2];exact hi
    have hinv':gW h' (nx+1):=by
     refine ⟨λsz z l hil=>?_,λsz c hic=>?_⟩
     .rw[A]at hil;split at hil
      .cases hil
      .split at hil
       .cases hil
       .exact fd hr l (hinv.C sz _ l hil)
     .rw[A]at hic;split at hic
      .omega
      .split at hic
       .omega
       .have:=hinv.low sz c hic;omega
    have hsame:∀n,n≠nm nx->n≠nm id->erHF h' n=erHF h n:=λn e1 e2=>by
     unfold erHF;rw[A (ow n)];by_cases f1:ow n=nx
     .rw[aC f1,f1,hfr];simp only[aB,wH];cases hx:ix n with
      |zero=>exact co (by rw[px hx,f1]) e1
      |succ k=>rfl
     .rw[av f1];by_cases f2:ow n=id
      .rw[aC f2,f2,hb];simp only[aB];cases hx:ix n with
       |zero=>exact co (by rw[px hx,f2]) e2
       |succ k=>rfl
      .rw[av f2];cases hx:h.get (ow n) with
       |none=>rfl
       |some b=>exact mm hr (λz l e=>hinv.C _ _ l (by rw[hx,e])) _ _
    have hdead:erHF h' (nm id)=U:=by rw[bL,A,av (by omega),aC rfl];rfl
    have hl2:ah (α:=Int) (sE (α:=Int) D [bytes])=ah (α:=Int) D+1:=by
     exact (λ(a b:η)=>(bc:(a++b).length=a.length+b.length)) D [bytes]
    have hnew:erHF h' (nm nx)=Z ⟨z,.mx (fP (λbytes=>.H (pL a bytes) 0) D++[.H (pL a bytes) 0])⟩:=by
     rw[bL,A,aC rfl];simp only[aB,jR,sq];rw[av (by simp only[cG];omega)];have:fP (λbytes=>AV.H (pL a bytes) 0) (sE (α:=Int) D [bytes])=fP (λbytes=>AV.H (pL a bytes) 0) D++[.H (pL a bytes) 0]:=by
      exact cJ (f:=λbytes:Int=>AV.H (pL a bytes) 0) (l₁:=(D:η)) (l₂:=[bytes])
     rw[this]
    have hval:b9 h' (.G nx)=Z (.G (nm nx) 1 (ah (α:=Int) D+1)):=by
     simp only[b9,bC,A,bk,aB,iG,rV,dm,hl2];rw[av (by simp)]
    have hblk:∀H1 H2,rh H1 H2->fH H1 H2 ⟨z,nV (fP (λbytes=>.H (pL a bytes) 0) D++[.H (pL a bytes) 0])⟩ ⟨z,.mx (fP (λbytes=>.H (pL a bytes) 0) D++[.H (pL a bytes) 0])⟩:=λH1 H2 d=>by
     obtain⟨p1,p2⟩:=nE (fP (λbytes=>AV.H (pL a bytes) 0) D++[.H (pL a bytes) 0]);exact fH.eq d p2 rfl p1
    have w1:aK (gf id|||gf nx) nx=J:=by rw[bn,bu.2 (rfl:nx=nx)];simp
    have hrd:∀n∈[nm id2],aK (gf id|||gf id2) (ow n)=J:=λn L=>by
     simp only[aE]at L;subst L;rw[dc,bn,bu.2 (rfl:id2=id2)];simp
    refine ⟨_,_,_,_,_,ty,?_⟩;by_cases hz:ah (α:=Int) D=0
    .have hyb:yb= .emp:=by rw[<- h2];unfold dm;rw[hz];rfl
     subst hyb;have hnil:D=[]:=dG.1 hz;subst hnil;have hroom:be 1 j=J:=hroom;refine eT.app0 hinv hi hc hH (k:=nm nx) (y0:=.G (nm nx) 1 1) (rdl:=[nm id2]) (b0:=⟨z,nV [.H (pL a bytes) 0]⟩) (by simp only[dx,h1,h3,hrow];simp[D2,hroom]) (λn L=>?_) hnew (hblk) (λH1 H2 y d hy=>by rw[hval]at hy;cases hy;exact kl.refl d _) hrd w1 hr hinv';by_cases e2:n=nm id
     .subst e2;rw[hdead,bL,hb];rfl
     .exact hsame n L e2
    .have hyb:yb= .G (nm id) 1 (ah (α:=Int) D):=by
      rw[<- h2];unfold dm;rw[av (by simpa using hz)]
     subst hyb;have hg:H.get (nm id)=Z ⟨z,.mx (fP (λbytes=>.H (pL a bytes) 0) D)⟩:=by
      rw[hH,bL,hb];simp only[aB,jR,sq];rw[av (by simpa using hz)]
     have hmm:mem (nm id) [nm id2]=aa:=by
      cases hx:mem (nm id) [nm id2] with
      |false=>rfl
      |true=>
       have:=af5.1 hx;simp only[aE]at this;exact co (ug this) q4
     refine eT.app1 hinv hi hc hH (k:=nm nx) (n0:=nm id) (y0:=.G (nm nx) 1 (ah (α:=Int) D+1)) (rdl:=[nm id,nm id2]) (b0:=⟨z,nV (fP (λbytes=>.H (pL a bytes) 0) D++[.H (pL a bytes) 0])⟩) ?_ hsame (λe=>hne (ug e)) hdead hnew hblk (λH1 H2 y d hy=>by rw[hval]at hy;cases hy;exact kl.refl d _) (λn L=>?_) (by rw[dc,bn,bu.2 (rfl:id=id)];rfl) w1 hr hinv'
     .have hlen:(fP (λbytes=>AV.H (pL a bytes) 0) D).length=ah (α:=Int) D:=bH ..;simp only[dx,h1,h3,hrow,hg];rw[aC (by
       simp only[cm,eh,Bool.and_true,BC.isCells,BC.len,hroom,ak,cV];exact⟨hmm,aW (by omega)⟩)]
      simp only[BC.toMx,gp (show (fP (λbytes=>AV.H (pL a bytes) 0) D).length<=ah (α:=Int) D*1 by omega)]
     .rcases aZ.1 L with rfl|L
      .rw[dc,bn,bu.2 (rfl:id=id)];rfl
      .exact hrd n L
   .cases ty
  .cases ty
 .rename_i id bytes sb n y hv hv2;obtain⟨yb,h1,h2⟩:=ba hi hv;obtain⟨yy,h3,h4⟩:=ba hi hv2;simp only[b9,JB,af]at h2;split at ty
  .rename_i ty' T a xss hb;split at ty
   .rename_i hq;simp only[ak]at hq;obtain⟨q1,q2,q3⟩:=hq;have q1:=au q1;have q2:=au q2;have q3:=eq_of_beq q3;subst q1 q2 q3;have N:=cL ty;clear ty;obtain⟨hj,ty⟩:=N;split at ty
    .rename_i ys m hys;split at ty
     .cases ty
     .rename_i hmid;have hmid:aK m id=aa:=by simpa using hmid
      have N:=cL ty;clear ty;obtain⟨hqq,ty⟩:=N;simp only[ak]at hqq;obtain⟨L,hroom⟩:=hqq;have L:=au L;obtain⟨rdl,h5,h6⟩:=QI hH hys h4;generalize hxs:xK (T:=T) xss bytes=xs at*
      have hidlt:=hinv.low id _ hb;have hne:nx≠id:=by omega
      obtain⟨_,_,hjl⟩:=mQ hj;generalize hh':(h.set id (Z (.I (.ir z T) a (DG (T:=T) xss bytes [])))).set nx (Z (.F z J T (xs++ys)))=h' at ty;have A:∀sz,h'.get sz=if sz=nx then Z (.F z J T (xs++ys)) else if sz=id then Z (.I (.ir z T) a (DG (T:=T) xss bytes [])) else h.get sz:=λsz=>by rw[<- hh',PT.get_set,PT.get_set]
      have hr:b7 h h':=λsz r hi=>by
       rw[bC]at hi ⊢;rw[A];by_cases e1:sz=nx
       .rw[e1,hfr]at hi;cases hi
       .rw[av e1];by_cases e2:sz=id
        .rw[aC e2];rw[e2,hb]at hi;exact hi
        .rw[av e2];exact hi
      have hinv':gW h' (nx+1):=by
       refine ⟨λsz z l hil=>?_,λsz c hic=>?_⟩
       .rw[A]at hil;split at hil
        .cases hil
        .split at hil
         .cases hil
         .exact fd hr l (hinv.C sz _ l hil)
       .rw[A]at hic;split at hic
        .omega
        .split at hic
         .omega
         .have:=hinv.low sz c hic;omega
      have hsame:∀n,n≠nm nx->n≠jE id (bytes.toNat+1)->erHF h' n=erHF h n:=λn e1 e2=>by
       unfold erHF;rw[A (ow n)];by_cases f1:ow n=nx
       .rw[aC f1,f1,hfr];simp only[aB,wH];cases hx:ix n with
        |zero=>exact co (by rw[px hx,f1]) e1
        |succ k=>rfl
       .rw[av f1];by_cases f2:ow n=id
        .rw[aC f2,f2,hb];simp only[aB];cases hx:ix n with
         |zero=>rfl
         |succ k=>
          refine Ho (T:=T) λe3=>?_
          exact e2 (by rw[<- kO n,hx,f2,e3])
        .rw[av f2];cases hx:h.get (ow n) with
         |none=>rfl
         |some b=>exact mm hr (λz l e=>hinv.C _ _ l (by rw[hx,e])) _ _
      have hdead:erHF h' (jE id (bytes.toNat+1))=U:=by
       rw[kH,A,av (by omega),aC rfl];exact L_ (T:=T) hjl
      have hnew:erHF h' (nm nx)=if (xs++ys).length==0 then U else Z ⟨z,.fz ((xs++ys).flatMap (bN T))⟩:=by
       rw[bL,A,aC rfl];rfl
      have hval:b9 h' (.G nx)=Z (dm J nx T.size (xs++ys).length):=by
       simp only[b9,bC,A,bk,aB,iG]
      have w1:aK (gf id|||gf nx) nx=J:=by rw[bn,bu.2 (rfl:nx=nx)];simp
      have hrd:∀n∈rdl,aK (gf id|||m) (ow n)=J:=λn L=>by
       obtain⟨sz,rfl,hm⟩:=h6 n L;rw[dc,bn,hm];simp
      refine ⟨_,_,_,_,_,ty,?_⟩;by_cases hz:n=0
      .subst hz;have hyb:yb= .emp:=by rw[<- h2];rfl
       subst hyb;have hnil:xs=[]:=dG.1 L.symm;have hold:erHF h (jE id (bytes.toNat+1))=U:=by
        rw[kH,hb];show pq bytes.toNat z T xss=U;unfold pq;rw[Tn hj,hxs,hnil];rfl
       have hsame0:∀n,n≠nm nx->erHF h' n=erHF h n:=λn L=>by
        by_cases e2:n=jE id (bytes.toNat+1)
        .subst e2;rw[hdead,hold]
        .exact hsame n L e2
       rw[bF]at hroom;rw[hnil,kV]at hnew hval;have ha0:dx (.app z T.size j s x) (CU e h) H (nm nx)=if ah ys==0 then Z ⟨.emp,rdl,[],[],[]⟩ else Z ⟨.G (nm nx) T.size (ah ys),rdl,[nm nx],[(nm nx,⟨z,nV ((ys.flatMap (bN T)).map .f)⟩)],[nm nx]⟩:=by
        simp only[dx,h1,h3,h5,D2,hroom,fC,bk]
       by_cases hl:ah ys=0
       .rw[hl]at ha0;simp only[cm,bk]at ha0;have hnil2:ys=[]:=dG.1 hl;refine eT.mk' hc hH ha0 [] (by simp) (λn _=>?_) (by simp) (λH1 H2 d _ _ _=>⟨by simp,λy hy=>?_⟩) hrd (by simp) (by simp) hr hinv' (by omega)
        .by_cases e1:n=nm nx
         .subst e1;rw[hnew,hnil2,bL,hfr];rfl
         .exact hsame0 n e1
        .rw[hval,hnil2]at hy;cases hy;exact kl.refl d _
       .rw[av (by simpa using hl),vM]at ha0;rw[av (by simpa using hl)]at hnew;refine eT.app0 hinv hi hc hH ha0 hsame0 hnew (λH1 H2 d=>fH.refl d _) (λH1 H2 y d hy=>?_) hrd w1 hr hinv';rw[hval]at hy;unfold dm at hy;rw[av (by simpa using hl)]at hy;cases hy;exact kl.refl d _
      .have hyb:yb= .G (jE id (bytes.toNat+1)) T.size n:=by rw[<- h2];unfold ue;rw[av (by simpa using hz)]
       subst hyb;have hg:H.get (jE id (bytes.toNat+1))=Z ⟨z,.fz (xs.flatMap (bN T))⟩:=by rw[hH,<-hxs];exact Zq hb hj (by rw[hxs];omega)
       have fl:=dY (bw T) xs;have tk:(xs.flatMap (bN T)).take (n*T.size)=xs.flatMap (bN T):=by rw[L,<-fl,cr]
       have hmem:mem (jE id (bytes.toNat+1)) rdl=aa:=by
        cases hx:mem (jE id (bytes.toNat+1)) rdl with
        |false=>rfl
        |true=>
         obtain⟨sz,e,hm⟩:=h6 _ (af5.1 hx);have:=(uN e).2;omega
       have ha0:dx (.app z T.size j s x) (CU e h) H (nm nx)=Z ⟨.G (nm nx) T.size (n+ys.length),jE id (bytes.toNat+1)::rdl,[nm nx,jE id (bytes.toNat+1)],[(nm nx,⟨z,.fz ((xs++ys).flatMap (bN T))⟩)],[nm nx]⟩:=by
        have hcnd:(T.size==T.size&& !(mem (jE id (bytes.toNat+1)) rdl)&&(BC.fz (xs.flatMap (bN T))).isCells&&dK (n*T.size) (BC.fz (xs.flatMap (bN T))).len&&z==z&&be (n+ys.length) j)=J:=by
         have:dK (n*T.size) (BC.fz (xs.flatMap (bN T))).len=J:=aW (by simp only[BC.len];rw[L];omega);rw[this,hmem,hroom];simp[BC.isCells]
        simp only[dx,h1,h3,h5,hg,hcnd,bk,BC.toMx,<-fV,tk,<-cJ,vM,xG]
       have hl3:(xs++ys).length=n+ys.length:=by rw[bc,L]
       rw[av (by simp only[cG];omega)]at hnew;refine eT.app1 hinv hi hc hH ha0 hsame (λe=>by have:=(uN e).2;omega) hdead hnew (λH1 H2 d=>fH.refl d _) (λH1 H2 y d hy=>?_) (λn' hn'=>?_) (by rw[iJ,bn,bu.2 (rfl:id=id)];rfl) w1 hr hinv'
       .rw[hval,hl3]at hy;unfold dm at hy;rw[av (by simp only[eh,cG];omega)]at hy;cases hy;exact kl.refl d _
       .rcases aZ.1 hn' with rfl|hn'
        .rw[iJ,bn,bu.2 (rfl:id=id)];rfl
        .exact hrd _ hn'
    .cases ty
   .cases ty
  .cases ty
 .rename_i b id bytes sb n _ hv hv2;obtain⟨yb,h1,h2⟩:=ba hi hv;obtain⟨yy,h3,h4⟩:=ba hi hv2;simp only[b9,JB,af]at h4;split at ty
  .rename_i tyi T a xss hb;split at ty
   .rename_i hq;simp only[ak]at hq;obtain⟨q1,q2⟩:=hq;have q1:=au q1;have q2:=au q2;subst q1 q2;have N:=cL ty;clear ty;obtain⟨hj,ty⟩:=N;have N:=cL ty;clear ty;obtain⟨L,ty⟩:=N;have L:=au L;generalize hxs:xK (T:=T) xss bytes=xs at*
    by_cases hz:n=0
    .have hyy:yy= .emp:=by rw[<- h4];unfold ue;rw[aC (by simpa using hz)]
     have hnil:xs=[]:=dG.1 (by omega);subst hyy hnil;exact Sd hinv hi hH (rdl:=[]) hc h1 h2 h3 rfl (by simp) ty
    .have hyy:yy= .G (jE id (bytes.toNat+1)) T.size n:=by rw[<- h4];unfold ue;rw[av (by simpa using hz)]
     subst hyy;have hg:H.get (jE id (bytes.toNat+1))=Z ⟨tyi,.fz (xs.flatMap (bN T))⟩:=by rw[hH,<-hxs];exact Zq hb hj (by rw[hxs];omega)
     have fl:=dY (bw T) xs;have tk:(xs.flatMap (bN T)).take (n*T.size)=xs.flatMap (bN T):=by rw[L,<-fl,cr]
     have hb2:dK (n*T.size) (xs.flatMap (bN T)).length=J:=aW (by rw[L];omega);refine Sd hinv hi hH (rdl:=[jE id (bytes.toNat+1)]) hc h1 h2 h3 ?_ (λq hq=>by simp only[aE]at hq;subst hq;rw[iJ];exact bu.2 rfl) ty;simp only[AV.row?,cm,bk,hg,BC.isCells,eh,BC.len,hb2,BC.toMx];rw[<- fV,tk,L]
   .cases ty
  .cases ty
 .cases ty
def aq1 {ty:ξ} {l c:Operand} (hc:cZ P o.op=Z (.zg z i j ty l c)) (A:pG cg e h nx K (.zg z i j ty l c)=Z r):iT P o aa e h nx K r:=by
 obtain⟨H,hH⟩:=gC h;have hfr:=hinv.fresh;simp only[pG]at A;split at A
 .rename_i q T k a k' b hty hv hv2;split at A
  .rename_i hq;simp only[ak]at hq;obtain⟨q1,q2⟩:=hq;have q1:=au q1;subst q1;have hz:ty=[.slice U 0 0]:=by
    unfold aff at q2;split at q2
    .rfl
    .cases q2
   subst hz;obtain⟨hcond,A⟩:=cL A;obtain⟨y,h1,h2⟩:=ba hi hv;obtain⟨y2,h3,h4⟩:=ba hi hv2;simp only[b9,af]at h2 h4;subst h2 h4;generalize hn:aQ a=n at A;have ha0:dx (.zg z 1 j [.slice U 0 0] l c) (CU e h) H (nm nx)=Z ⟨.G (nm nx) 1 n,[],[nm nx],[(nm nx,⟨z,.fz (repl [.slice U 0 0] n)⟩)],[nm nx]⟩:=by
    simp only[dx,h1,h3,fS,hcond,bk,hn]
   generalize hh':(h.set nx (Z (.I (.rr z T.size) (nx+1) (aF n (0:Int))))).set (nx+1) (Z (.I (.ir (stN q) T) 0 (aF n ([]:Y T.den))))=h' at A;have hg:∀sz,h'.get sz=if sz=nx+1 then Z (.I (.ir (stN q) T) 0 (aF n ([]:Y T.den))) else if sz=nx then Z (.I (.rr z T.size) (nx+1) (aF n (0:Int))) else h.get sz:=λsz=>by
    rw[<- hh',PT.get_set,PT.get_set]
   have hfr2:h.get (nx+1)=U:=by
    cases D:h.get (nx+1) with
    |none=>rfl
    |some b=>have:=hinv.low _ b D;omega
   have hr:b7 h h':=λsz r hi=>by
    rw[bC]at hi ⊢;rw[hg];by_cases f0:sz=nx+1
    .rw[f0,hfr2]at hi;cases hi
    .rw[av f0];by_cases f1:sz=nx
     .rw[f1,hfr]at hi;cases hi
     .rw[av f1];exact hi
   have hl:ah (α:=Int) (aF n (0:Int))=n:=c4 ..;have hall:∀(m k:Nat),lQ (nx+1) T.size k (aF m (0:Int))=aF m .emp:=λm=>by
    induction m with
    |zero=>intro k;rfl
    |succ m ih=>intro k;rw[kR,kR];simp only[lQ,ih];rfl
   have hnew:erHF h' (nm nx)=Z ⟨z,.mx (aF n .emp)⟩:=by
    rw[bL,hg,av (by omega),aC rfl];show Z (kc.mk z (.mx (lQ (nx+1) T.size 0 (aF n (0:Int)))))=_;rw[hall]
   refine ⟨_,_,_,_,_,A,eT.mk' hc hH ha0 [nm nx] (λsz hi=>hi) (λm hm=>?_) (λsz hi b' hb'=>?_) (λH1 H2 d hw1 _ hw2=>⟨λsz hi b b' N L=>?_,λy hy=>?_⟩) (by simp) (λm hm=>?_) (λm hm=>?_) hr ⟨λsz z l hil=>?_,λsz c' hic=>?_⟩ (by omega)⟩
   .have hm:m≠nm nx:=by simpa using hm
    unfold erHF;rw[hg];by_cases f0:ow m=nx+1
    .rw[aC f0,f0,hfr2];simp only[aB,wH];cases ix m with
     |zero=>rfl
     |succ k=>
      show pq k (stN q) T (aF n ([]:Y T.den))=U;unfold pq;rw[hP];split<;>rfl
    .rw[av f0];by_cases f1:ow m=nx
     .rw[aC f1,f1,hfr];simp only[aB,wH];cases D:ix m with
      |zero=>exact co (by rw[px D,f1]) hm
      |succ k=>rfl
     .rw[av f1];cases D:h.get (ow m) with
      |none=>rfl
      |some b=>exact mm hr (λz l e=>hinv.C _ _ l (by rw[D,e])) _ _
   .simp only[aE]at hi;subst hi;exact⟨_,by rw[aC (by simp)];exact eR _ _⟩
   .simp only[aE]at hi;subst hi;rw[hw1 _ (by simp),eR]at N;rw[hw2 _ (by simp),hnew]at L;simp only[af]at N L;subst N L;refine fH.C rfl rfl ?_ λx D=>?_
    .simp only[BC.toMx];exact Ti d n
    .simp only[BC.toMx]at D;rw[List.mem_replicate]at D;rw[D.2];rfl
   .simp only[b9,bC,hg,bk]at hy;rw[av (by omega)]at hy;simp only[aB,iG,rV,dm,eV,bY,c7,af]at hy;subst hy;rw[hl];exact kl.refl d _
   .simp only[aE]at hm;subst hm;rw[dc];exact bu.2 rfl
   .simp only[aE]at hm;subst hm;rw[dc];omega
   .rw[hg]at hil;split at hil
    .cases hil
    .split at hil
     .cases hil
     .exact fd hr l (hinv.C sz _ l hil)
   .rw[hg]at hic;split at hic
    .omega
    .split at hic
     .omega
     .have:=hinv.low sz c' hic;omega
  .cases A
 .cases A
end ops
mutual
def FV.fl:FV->Bool
 |.raw _=>J
 |.agg l=>FV.flL l
 |.sl _ _=>aa
 |.H _ _=>aa
def FV.flL:Y FV->Bool
 |[]=>J
 |x::r=>x.fl&&FV.flL r
end
def ZA:∀{l:Y FV},FV.flL l=J->∀x∈l,x.fl=J
 |[],_,x,z=>by cases z
 |y::l,h,x,z=>by
  simp only[FV.flL,ak]at h;rcases aZ.1 z with rfl|z
  .exact h.1
  .exact ZA h.2 x z
def ag0:∀{l:Y FV},(∀x∈l,x.fl=J)->FV.flL l=J
 |[],_=>rfl
 |y::l,h=>by simp only[FV.flL,ak];exact⟨h y (by simp),ag0 λx z=>h x (by simp[z])⟩
variable {O:Nat->Prop} {v:Value}
def mX.flat {O':Nat->Prop} {w w':World} {x:FV} (h:mX O w x v):x.fl=J->mX O' w' x v:=by
 induction h with
 |raw v=>intro _;exact .raw v
 |agg cells vs hl hcl D z=>intro h;exact .agg cells vs hl hcl λj x v A N=>z j x v A N (ZA h x (aX A))
 |_=>intro h;cases h
mutual
def AV.fl:AV->Bool
 |.f x=>x.fl
 |.emp=>J
 |.qw=>J
 |.agg l|.qg l=>AV.flL l
 |.H _ _=>aa
 |.sl _ _ _=>aa
 |.G _ _ _=>aa
 |.mp _=>aa
 |.qy _ l=>AV.flL l
 |.qd _ _=>aa
def AV.flL:Y AV->Bool
 |[]=>J
 |x::r=>x.fl&&AV.flL r
end
def Gm:∀{l:Y AV},AV.flL l=J->∀x∈l,x.fl=J
 |[],_,x,z=>by cases z
 |y::l,h,x,z=>by
  simp only[AV.flL,ak]at h;rcases aZ.1 z with rfl|z
  .exact h.1
  .exact Gm h.2 x z
def Z4:∀{l:Y AV},(∀x∈l,x.fl=J)->AV.flL l=J
 |[],_=>rfl
 |y::l,h=>by simp only[AV.flL,ak];exact⟨h y (by simp),Z4 λx z=>h x (by simp[z])⟩
variable {V:PM} {y:AV}
def cq.flat {φ':PM} {O':Nat->Prop} {w w':World} (h:cq V O w y v):y.fl=J->cq φ' O' w' y v:=by
 induction h with
 |f h=>intro hf;exact .f (h.flat hf)
 |emp=>intro _;exact .emp
 |qw=>intro _;exact .qw
 |agg L hcl N A=>intro hf;exact .agg L hcl λj y v z D=>A j y v z D (Gm hf y (aX z))
 |qg L N A=>intro hf;exact .qg L λj y v z D=>A j y v z D (Gm hf y (aX z))
 |qy L N A=>intro hf;exact .qy L λj y v z D=>A j y v z D (Gm hf y (aX z))
 |_=>intro hf;cases hf
mutual
def ans (γ:Nat->Nat):∀x:AV,x.fl=J->x.qx γ=x
 |.f x,_|.emp,_|.qw,_=>rfl
 |.agg l,h|.qg l,h=>by simp only[AV.qx];rw[Fw γ l h]
 |.H _ _,h|.sl _ _ _,h|.qd _ _,h|.G _ _ _,h|.mp _,h=>by cases h
 |.qy _ l,h=>by simp only[AV.qx];rw[Fw γ l h]
def Fw (γ:Nat->Nat):∀l:Y AV,AV.flL l=J->AV.renL γ l=l
 |[],_=>rfl
 |x::r,h=>by
  simp only[AV.flL,ak]at h;rw[AV.renL,ans γ x h.1,Fw γ r h.2]
end
def Cp:∀(T:Ty),T.flat=J->∀x:T.den,∀y∈bN T x,y.fl=J
 |.int _,_,x,y,z|.bool,_,x,y,z|.str,_,x,y,z=>by simp only[bN,aE]at z;subst z;rfl
 |.sl _,h,x,y,z=>by cases h
 |.st t,h,x,y,z=>Cp t h x y z
 |.pr a b,h,x,y,z=>by
  simp only[Ty.flat,ak]at h;simp only[bN,bG]at z;exact z.elim (Cp a h.1 x.1 y) (Cp b h.2 x.2 y)
 |.un,_,x,y,z=>by simp[bN]at z
 |.ex,h,_,_,_|.sm,h,_,_,_=>by cases h
def ajw (T:Ty) (h:T.flat=J) (x:T.den):(fS T x).fl=J:=by
 cases z:T.one with
 |true=>
  have:=Cp T h x (fS T x) (by rw[(FB T x z).1];simp);exact this
 |false=>rw[rW T x z];exact ag0 (Cp T h x)
def SS (a b:Ty):(spr a b).flat=(a.flat&&b.flat):=by
 cases a<;>cases b<;>simp[spr,Jg,Ty.flat]
def Lm :∀{a b:Y TV},rN i (a++b)=J->rN i a=J/\rN i b=J
 |[],b,h=>⟨rfl,h⟩
 |x::r,b,h=>by
  simp only[gG,rN,ak]at h ⊢;obtain⟨h1,z⟩:=Lm h.2;exact⟨⟨h.1,h1⟩,z⟩
variable {g:Nat->Nat}
def Y8 {z:Y o?} (h:rN 0 (z.map λp=>.H (g p.1) p.2)=J):z=[]:=by
 cases z with
 |nil=>rfl
 |cons p r=>simp[rN,Kf]at h
mutual
def aim {g:Nat->Nat} {h:a_}:∀(p:PV) (x:p.ty.den) (cs:Y TV) (l:Y AV),p.ty.flat=J->oX g p x=Z cs->rN 0 cs=J->cP h cs=Z l->∀y∈l,y.fl=J
 |.d T,x,cs,l,hf,hp,_,hl,y,hy=>by
  have:=(mV h 40 T x cs hp).1;rw[hl]at this;cases this;obtain⟨q,hq,rfl⟩:=ch.1 hy;exact Cp T hf x q hq
 |.H i q,x,cs,l,hf,hp,hlt,hl,y,hy|.qv i q z,x,cs,l,hf,hp,hlt,hl,y,hy=>by
  simp only[oX,af]at hp;subst hp;simp[rN,Kf]at hlt
 |.qy q ps,x,cs,l,hf,hp,hlt,hl,y,hy=>by
  simp only[oX,af]at hp;subst hp;simp only[rN,Kf,ak]at hlt;have:=Y8 hlt.1;subst this;simp only[cP,b9,wJ,af]at hl;subst hl;rw[aE]at hy;subst hy;rfl
 |.ob i q,x,cs,l,hf,hp,hlt,hl,y,hy|.G i,x,cs,l,hf,hp,hlt,hl,y,hy|.mp i,x,cs,l,hf,hp,hlt,hl,y,hy=>by
  simp only[oX,af]at hp;subst hp;simp[rN,Kf]at hlt
 |.nil,x,cs,l,hf,hp,hlt,hl,y,hy|.emp,x,cs,l,hf,hp,hlt,hl,y,hy=>by
  simp only[oX,af]at hp;subst hp;simp only[cP,b9,af]at hl;subst hl;simp only[aE]at hy;subst hy;rfl
 |.agg ps,x,cs,l,hf,hp,hlt,hl,y,hy=>KQ ps x cs l hf hp hlt hl y hy
def KQ {g:Nat->Nat} {h:a_}:∀(ps:Y PV) (x:(PV.tyL ps).den) (cs:Y TV) (l:Y AV),(PV.tyL ps).flat=J->sx g ps x=Z cs->rN 0 cs=J->cP h cs=Z l->∀y∈l,y.fl=J
 |[],x,cs,l,hf,hp,hlt,hl,y,hy=>by
  simp only[sx,af]at hp;subst hp;simp only[cP,af]at hl;subst hl;cases hy
 |p::ps,x,cs,l,hf,hp,hlt,hl,y,hy=>by
  simp only[PV.tyL]at hf;rw[SS,ak]at hf;simp only[sx]at hp;split at hp
  .rename_i a ha;split at hp
   .rename_i b hb;cases hp;obtain⟨a',b',rfl,e1,e2⟩:=Ec hl;have hsp:=Lm hlt;rcases bG.1 hy with hy|hy
    .exact aim p _ a a' hf.1 ha hsp.1 e1 y hy
    .exact KQ ps _ b b' hf.2 hb hsp.2 e2 y hy
   .cases hp
  .cases hp
end
variable {h:a_} {u:TV}
def aik {p:PV} {x:p.ty.den} (hf:p.ty.flat=J) (hp:sG g p x=Z u) (hlt:Kf 0 u=J) (A:b9 h u=Z y):y.fl=J:=by
 cases p with
 |d T=>
  simp only[sG,af]at hp;subst hp;simp only[b9,af]at A;subst A;exact ajw T hf x
 |agg L=>
  simp only[sG]at hp;split at hp
  .rename_i l N;cases hp;simp only[b9]at A;split at A
   .rename_i l' D;cases A;exact Z4 (KQ L _ l l' hf N hlt D)
   .cases A
  .cases hp
 |qy q L=>
  simp only[sG,af]at hp;subst hp;have:=Y8 hlt;subst this;simp only[b9,cP,wJ,af]at A;subst A;rfl
 |nil|emp=>simp only[sG,af]at hp;subst hp;simp only[b9,af]at A;subst A;rfl
 |_=>simp only[sG,af]at hp;subst hp;simp[Kf]at hlt
def To :∀(A:Y PV) (x:(PV.tyL A).den) (z:Y TV) (l:Y AV),(PV.tyL A).flat=J->rm g A x=Z z->rN 0 z=J->cP h z=Z l->AV.flL l=J
 |[],x,z,l,hf,hp,hlt,D=>by
  simp only[rm,af]at hp;subst hp;simp only[cP,af]at D;subst D;rfl
 |p::A,x,z,l,hf,hp,hlt,D=>by
  simp only[PV.tyL]at hf;rw[SS,ak]at hf;simp only[rm]at hp;split at hp
  .rename_i a ha;split at hp
   .rename_i b N;cases hp;obtain⟨y,L,rfl,e1,e2⟩:=c9 D;simp only[rN,ak]at hlt;simp only[AV.flL,ak];exact⟨aik hf.1 ha hlt.1 e1,To A _ b L hf.2 N hlt.2 e2⟩
   .cases hp
  .cases hp
def ai6:∀{l:Y AV},AV.flL l=J->(EH l).fl=J
 |[],_=>rfl
 |[x],h=>by simp only[AV.flL,ak]at h;exact h.1
 |x::y::r,h=>h
variable {P:Program} {f:FuncId} {d:Oper}
def aka {e:hX} {c:cF} {l:Y TV} (hinv:gW h i) (sp:qZ P f c) {x:c.pre.ty.den} {σ:PT Nat} {sm:Nat} (A:Kv 0 c.pre l h x j σ sm) {vs:Y TV} {hp:a_} {l1:Y (M eP)} (I:pH c.pre x vs hp l1) {y:c.post.ty.den} (hm:c.m x=Z y) {rs:Y TV} {hq:a_} {l2:Y (M eP)} (B:pH c.post y rs hq l2) (hp0:l! c.pre.bs=0) (hq0:l! c.post.bs=0) (hfl:(PV.tyL c.post.vs).flat=J)
 (g:Nat->Nat) {la:Y AV} (hla:cP h l=Z la)
 (hexec:∀(φ:PM) (E:Nat->Prop) (h':HF) (w:World) (a:Act),(∀t,.tmp t∈d.op.operands->∀y,fG e h t=Z y->cq φ (tot E φ h') w y (a.tmps.getD t undef))->r_ φ E h' w->∃us:ξ,(execOp a.eval d).run P w= .ok (.enter f us.toArray) w/\lP φ (tot E φ h') w la us):
 eT P d aa e h i (Tg (ll g rs)) j 0 h i:=by
 obtain⟨x1,m1,x2,m2,hx,hmm,gv,gb⟩:=A.ex;have hmr:dE h j:=by rw[hmm];exact (Kl _ _ _ _ gv).or (Kn _ _ _ _ gb)
 have pvg:rm (io σ) c.pre.vs x1=Z (ll (io σ) vs):=by
  have h3:=vh (io σ) c.pre.vs x1;have h4:=I.pv;rw[hx,uV]at h4;rw[h3,h4];rfl
 obtain⟨lr,hlr⟩:=eX hq rs B.ok;obtain⟨lp,hlp⟩:=eX hp vs I.ok;have hfl':AV.flL lr=J:=To c.post.vs _ rs lr hfl B.pv (by rw[<- hq0];exact B.lt) hlr;have hpe:∀nx,hp.get nx=U:=λnx=>by
  cases N:hp.get nx with
  |none=>rfl
  |some b=>have:=I.lt_len N;omega
 have hqe:∀nx,hq.get nx=U:=λnx=>by
  cases N:hq.get nx with
  |none=>rfl
  |some b=>have:=B.lt_len N;omega
 have rows_hp:∀nx r,eE hp nx=Z r->eE (dL j h) (io σ nx)=Z r:=λnx r L=>by rw[bC,hpe]at L;cases L
 have rows_hq:∀nx r,eE hq nx=Z r->eE h (g nx)=Z r:=λnx r L=>by rw[bC,hqe]at L;cases L
 have rows_in:Ac (dL j h) h:=λm r L=>by
  rw[bC]at L ⊢;rw[iM]at L;split at L
  .rename_i ht;obtain⟨ty,p,T,xs,N⟩:=hmr m ht;rw[N]at L ⊢;exact L
  .exact L
 have hOpT:gh P d (fG e h) (erHF h) ⟨EH lr,GZ j,[],λ_=>U,[]⟩:=by
  intro φ E h' w a hrd hwr hops hrep hN;obtain⟨us,hrun,hrel⟩:=hexec φ E h' w a hops hrep
  let Hv:HF:=λn=>if n∈GZ j then U else h' n
  have Hv_in:∀n,n∈GZ j->Hv n=U:=λn D=>by simp only[Hv,D,bk]
  have Hv_out:∀n,n∉GZ j->Hv n=h' n:=λn D=>by simp only[Hv,D,c7]
  have hd:rh h' Hv:=λn b N=>by
   by_cases D:n∈GZ j
   .rw[Hv_in n D]at N;cases N
   .rw[Hv_out n D]at N;exact⟨b,N⟩
  have gvv:Eo h h' Hv j:=λnx hi=>⟨hrd _ (mM.2 hi),Hv_in _ (mM.2 hi)⟩
  have V:JQ h' Hv:=⟨hd,λn b b' N hb'=>by
   by_cases D:n∈GZ j
   .rw[Hv_in n D]at hb';cases hb'
   .rw[Hv_out n D,N]at hb';cases hb';exact fH.refl hd b⟩
  have hrepv:=V.qn hrep;have hlpg:cP (dL j h) (ll (io σ) vs)=Z (AV.renL (pI (io σ)) lp):=qi rows_hp vs lp hlp;have hrel1:lP φ (tot E φ Hv) w (AV.renL (pI (io σ)) lp) us:=
   lP.le hrep (Fu hd rows_in c.pre.vs l x1 m1 _ la _ gv pvg hla hlpg (λnx hi=>gvv nx (by rw[hmm,bn,hi];rfl))) hrel
  let E':Nat->Prop:=λk=>E k\/∃n b,Hv n=Z b/\φ n=Z k
  have T:akt c.pre x vs hp (io σ) φ E E' Hv w:=by
   refine r_.toId I (λa b ha=>by omega) hrepv (λn yb D=>by have:=(I.erHF D).1;omega) ?_ (λn k y D=>by have:=(I.erHF D).1;omega) ?_
   .rintro k (hE|⟨n,b,h1,h3⟩)
    .exact .inl hE
    .exact .inr ⟨n,b,h1,h3⟩
   .rintro k (hE|⟨n,b,h1,h3⟩)
    .exact hrepv.el k hE
    .obtain⟨k',q1,_,ob,q3,_⟩:=hrepv.at_ n b h1;rw[h3]at q1;cases q1;exact (cw.1 q3).1
  have hcalls:=sp.calls x y hm vs hp l1 rs hq l2 lp lr I B hlp hlr (φ1 (l! c.pre.bs) (io σ) φ) E' w us T.qn (lP.toId T.val (ta vs lp I.lt hlp) hrel1) (λn k hk=>(yV hk).1);unfold Oper.wp;rw[hrun];refine Calls.mono hcalls ?_;rintro en w' ⟨v,φc',rfl,hext,hown,hnm,rp,rv'⟩;have hno:∀k,¬own (φ1 (l! c.pre.bs) (io σ) φ) (erHF hp) k:=by
   rintro k ⟨n,b,h1,_⟩;obtain⟨bb,h3,_⟩:=iO h1;rw[hpe]at h3;cases h3
  have mv:jZ φ φ h' h' w w':=⟨λ_ _ h=>h,hext.mono λk hk=>co hk (hno k),λ_ _ h=>h⟩
  refine ⟨v,φ,rfl,?_,λ_ _ h=>.inl h,?_,?_⟩
  .rw[vp];exact mv
  .rw[vp];refine hrep.moved mv λk hk=>?_
   obtain⟨n,b,h1,h3⟩:=hk;obtain⟨k',q1,_,ob,q3,_⟩:=hrep.at_ n b h1;rw[h3]at q1;cases q1;exact hext.jb k (cw.1 q3).1 (hno k)
  .exact rv'.flat (ai6 hfl')
 have hrsg:cP h (ll g rs)=Z (AV.renL (pI g) lr):=qi rows_hq rs lr hlr;refine ⟨⟨_,hOpT,λz hz=>?_,?_,λn D=>?_,by simp,by simp⟩,λ_ _ h=>h,hinv,bV _,nofun⟩
 .rw[Y5 hrsg,Fw _ lr hfl']at hz;cases hz;rfl
 .exact vp _ _
 .obtain⟨nx,rfl,hi⟩:=pd.1 D;rw[dc];exact hi
def cF.full (c:cF):cF:=⟨c.pre,⟨c.post.vs,c.pre.bs⟩,λx=>ay (c.m x) λy=>Z (Xg (PV.tyL c.post.vs) (PB.tyL c.pre.bs) (Ru _ _ y) (NQ _ _ x))⟩
def aL (P:Program) (f:FuncId) (c:cF):Prop:=if dK (l! c.pre.bs) (l! c.post.bs)=J then qZ P f c else qZ P f c.full
def qZ.toC {c:cF} (h:qZ P f c) (z:dK (l! c.pre.bs) (l! c.post.bs)=J):aL P f c:=by
 unfold aL;rw[aC z];exact h
def aL.holds {c:cF} (h:aL P f c) (z:dK (l! c.pre.bs) (l! c.post.bs)=J):qZ P f c:=by
 unfold aL at h;rw[aC z]at h;exact h
def aj8 (a b:Ty) (z:(spr a b).den):Xg a b (Ru a b z) (NQ a b z)=z:=by cases a<;>cases b<;>rfl
open Classical in
def roM {pre:Tm} {vs:Y PV} (m:pre.ty.den->M (Tm.ty ⟨vs,pre.bs⟩).den) (x:pre.ty.den):M (Tm.ty ⟨vs,[]⟩).den:=
 ay (m x) λy=>if NQ (PV.tyL vs) (PB.tyL pre.bs) y=NQ _ _ x then Z (Xg (PV.tyL vs) (PB.tyL []) (Ru (PV.tyL vs) (PB.tyL pre.bs) y) ()) else U
def aL.ro {P:Program} {f:FuncId} {pre:Tm} {vs:Y PV} {m:pre.ty.den->M (Tm.ty ⟨vs,pre.bs⟩).den} {m':pre.ty.den->M (Tm.ty ⟨vs,[]⟩).den} (h:qZ P f ⟨pre,⟨vs,pre.bs⟩,m⟩) (hb:dK (l! pre.bs) 0=aa) (hs:∀x y,m' x=Z y->roM m x=Z y):aL P f ⟨pre,⟨vs,[]⟩,m'⟩:=by
 unfold aL;rw[av (by show ¬dK (l! pre.bs) 0=J;rw[hb];exact Bool.false_ne_true)];refine ⟨h.zw,λx y hxy=>?_⟩;refine h.calls x y ?_;have hxy:ay (m' x) (λy=>Z (Xg (PV.tyL vs) (PB.tyL pre.bs) (Ru (PV.tyL vs) (PB.tyL []) y) (NQ _ _ x)))=Z y:=hxy;obtain⟨z,N,hzy⟩:=dV hxy;have h1:=hs x z N;unfold roM at h1;obtain⟨y0,L,D⟩:=dV h1;split at D
 .rename_i heq;have D:=fK D;have hzy:=fK hzy;subst D;have A:Xg (PV.tyL vs) (PB.tyL pre.bs) (Ru (PV.tyL vs) (PB.tyL pre.bs) y0) (NQ (PV.tyL pre.vs) (PB.tyL pre.bs) x)=y:=(dT (λq=>Xg (PV.tyL vs) (PB.tyL pre.bs) q (NQ (PV.tyL pre.vs) (PB.tyL pre.bs) x)) (uV (PV.tyL vs) (PB.tyL []) _ ()).symm).trans hzy;rw[<- heq]at A;have:=(aj8 (PV.tyL vs) (PB.tyL pre.bs) y0).symm.trans A;exact L.trans (dT Z this)
 .cases D
def eT.drop {e:hX} {h':a_} {rd wr W wr':Nat} (t:eT P d aa e h i u rd wr h' j) (hW:∀nx,aK W nx=J->(∀n,ow n=nx->erHF h' n=erHF h n)/\aK rd nx=J) (hw:∀nx,aK wr nx=J->aK W nx=J\/aK wr' nx=J):eT P d aa e h i u rd wr' h' j:=by
 obtain⟨⟨f,h1,h2,L,h4,h5,h6⟩,r,nx,g,st⟩:=t;have D:∀n,aK W (ow n)=J->erHF h' n=erHF h n:=λn z=>(hW _ z).1 n rfl
 have hup:∀H:HF,(∀n∈f.wr,H n=erHF h n)->e_ H (f.wr.filter λn=> !(aK W (ow n))) f.nw=e_ H f.wr f.nw:=λH hH=>by
  funext n;unfold e_;by_cases z:n∈f.wr
  .by_cases A:aK W (ow n)=J
   .rw[av (by simp[A]),aC z];have:=congrFun L n;unfold e_ at this;rw[aC z,D n A]at this;rw[this,hH n z]
   .rw[aC (by simp[z,A]),aC z]
  .rw[av (by simp[z]),av z]
 refine ⟨⟨⟨f.val,f.rd++(f.wr.filter λn=>aK W (ow n)),f.wr.filter λn=> !(aK W (ow n)),f.nw,f.N⟩,?_,h2,?_,λn z=>?_,λn z=>?_,h6⟩,r,nx,g,nofun⟩
 .intro φ E H w a hrd hwr hops hrep hN;have k1:∀nx∈f.rd,H nx=erHF h nx:=λnx hi=>hrd nx (ik _ hi)
  have k2:∀nx∈f.wr,H nx=erHF h nx:=λnx hi=>by
   cases A:aK W (ow nx) with
   |true=>exact hrd nx (oV _ (by simp[hi,A]))
   |false=>exact hwr nx (by simp[hi,A])
  have:=h1 φ E H w a k1 k2 hops hrep hN;simp only[hup H k2];exact this
 .simp only[hup (erHF h) (λ_ _=>rfl)];exact L
 .rcases bG.1 z with z|z
  .exact h4 n z
  .simp only[H0]at z;exact (hW _ z.2).2
 .simp only[H0,cV]at z;rcases hw _ (h5 n z.1) with hh|hh
  .rw[z.2]at hh;cases hh
  .exact hh
mutual
def af8 {n n':Nat} (hle:n<=n'):∀(v:TV),Kf n v=J->Kf n' v=J
 |.G id,h|.zm id _,h|.ql id _ _ _,h|.H id _,h|.qv id _ _,h|.mp id,h=>by simp only[Kf,NA]at h ⊢;omega
 |.agg l,h|.qg l,h|.qy _ l,h=>ye hle l h
 |.f _ _,_|.zk _ _ _ _ _,_|.emp,_|.nil,_|.undef,_|.np,_|.qw,_|.qd _ _,_=>rfl
 |.sb s,h=>by simp only[Kf,NA]at h ⊢;omega
def ye {n n':Nat} (hle:n<=n'):∀(l:Y TV),rN n l=J->rN n' l=J
 |[],_=>rfl
 |x::r,h=>by
  simp only[rN,ak]at h ⊢;exact⟨af8 hle x h.1,ye hle r h.2⟩
end
def Px {g g':Nat->Nat} {h:a_}:∀(bs:Y PB) (i:Nat) (x:(PB.tyL bs).den) (m:Nat),Ku bs=J->C_ g h i bs=Z (x,m)->∃l,pK g' bs x=Z l/\l! l=l! bs/\∀j,j<l! bs->∃ty p T xs,l[j]? =Z (Z (.F ty p T xs))/\h.get (g (i+j))=Z (.F ty p T xs)
 |[],i,x,m,_,A=>⟨[],rfl,rfl,λj L=>by simp at L⟩
 |.F ty p T::r,i,x,m,D,A=>by
  simp only[C_]at A;split at A
  .rename_i x1 m1 h1;split at A
   .rename_i x2 m2 h2;cases A;obtain⟨l,q1,q2,q3⟩:=Px (g:=g) (g':=g') (h:=h) r (i+1) x2 m2 D h2;simp only[Ea]at h1;split at h1
    .rename_i ty' p' S xs hb;split at h1
     .rename_i N;simp only[ak,cG]at N;obtain⟨rfl,rfl⟩:=N;split at h1
      .rename_i z hz;simp only[af]at h1;obtain⟨rfl,_⟩:=h1;obtain⟨es,ez⟩:=gV hz;cases es;subst ez;refine ⟨Z (.F ty p T x1)::l,?_,by simp[q2],λj L=>?_⟩
       .simp only[pK];rw[uV,wL,q1];rfl
       .cases j with
        |zero=>exact⟨ty,p,T,_,rfl,hb⟩
        |succ j=>
         obtain⟨a,b,c,d,w1,w2⟩:=q3 j (by simpa using L);exact⟨a,b,c,d,by simpa using w1,by rw[show i+(j+1)=i+1+j from by omega];exact w2⟩
      .cases h1
     .cases h1
    .cases h1
   .cases A
  .cases A
 |.qf _ _::r,i,x,m,D,A|.C _ _::r,i,x,m,D,A|.mp _ _::r,i,x,m,D,A|.qk::r,i,x,m,D,A=>by cases D
def Ic:∀{bs:Y PB},Ku bs=J->DS bs=J
 |[],_=>rfl
 |.F _ _ _::r,h=>Ic (bs:=r) h
 |.qf _ _::r,h|.C _ _::r,h|.mp _ _::r,h|.qk::r,h=>by cases h
def H6 {z:a_} :∀(n:Nat),(∀i,i<n->z.get (g i)=h.get (g i))->vw h z g n=J
 |0,_=>rfl
 |n+1,A=>by
  simp only[vw,ak];refine ⟨?_,H6 n λi hi=>A i (by omega)⟩;have:eE z (g n)=eE h (g n):=by rw[bC,bC,A n (by omega)]
  rw[this];cases eE h (g n) with
  |none=>rfl
  |some q=>obtain⟨p,s,k⟩:=q;simp
def Gv (P:Program) (con:FuncId->M cF):Prop:=∀f c,con f=Z c->aL P (f%65536) c
def S4 (hf:f<65536):∀l:Y TV,aif f l%65536=f
 |[]=>Es hf
 |x::r=>by
  have z:=S4 hf r;unfold aif;split
  .rename_i he;cases he
  .rw[Nat.add_mul_mod_self_left];exact Es hf
  .rename_i he;cases he;exact z
variable {X:FuncId->M cF}
def ak7 (hcon:Gv P X) {l:Y TV} {c:cF} (h:anx X f l=Z c):aL P f c:=by
 unfold anx at h;split at h
 .rename_i hf;have hf:=R_ hf;split at h
  .rename_i A z;cases h;have:=hcon _ _ z
   rwa [S4 hf]at this
  .have:=hcon _ _ h
   rwa [Es hf]at this
 .cases h
variable {R:Type}
def ZW (hcon:Gv P X) {e:hX} {l:Y TV} {K:KO R} {r:R} (hinv:gW h i) (z:ZX X f l h i K=Z r) {la:Y AV} (hla:cP h l=Z la)
 (hexec:∀(φ:PM) (E:Nat->Prop) (h':HF) (w:World) (a:Act),Gw P f->(∀t,.tmp t∈d.op.operands->∀y,fG e h t=Z y->cq φ (tot E φ h') w y (a.tmps.getD t undef))->r_ φ E h' w->∃us:ξ,(execOp a.eval d).run P w= .ok (.enter f us.toArray) w/\lP φ (tot E φ h') w la us):iT P d aa e h i K r:=by
 unfold ZX at z;split at z
 .rename_i c hc;have spc:=ak7 hcon hc;split at z
  .rename_i x m σ sm hM;split at z
   .rename_i q hq;obtain⟨vs,hp⟩:=q;obtain⟨l1,I⟩:=yi hq;obtain⟨y,hy,z⟩:=dV z;split at z
    .rename_i q2 hq2;obtain⟨rs1,hq1⟩:=q2;obtain⟨l2,A⟩:=yi hq2;split at z
     .rename_i hcond;simp only[ak]at hcond;have hle:=aU hcond.1;have sp:=spc.holds hcond.1;simp only at z;split at z
      .rename_i rs hrs;have hrs':=hrs;rw[vh,A.pv]at hrs';simp only[bm,af]at hrs';split at z
       .rename_i L;simp only[ak]at L;have hq0:=au L.1.2;refine ⟨_,_,_,_,_,z,?_⟩;rw[<- hrs'];exact aka hinv sp (yc hM) I hy A (by omega) hq0 L.2 _ hla λφ E h' w a=>hexec φ E h' w a sp.zw
       .split at z
        .rename_i h2 D;obtain⟨hsr,z⟩:=cL z;refine ⟨_,_,_,_,_,z,?_⟩;rw[<- hrs'];unfold Pc at D;rw[xT,A.pb]at D;simp only[bm,af]at D;exact agn hinv sp (yc hM) I hcond.2 hy A hle (λnx hi=>by
          have:ef nx (l! c.pre.bs)=J:=aW hi;simp only[this,bk]) (λnx hi=>by
          have:ef nx (l! c.pre.bs)=aa:=by
           cases L:ef nx (l! c.pre.bs) with
           |false=>rfl
           |true=>have:=aU L;omega
          simp only[this];rfl) D.symm hsr hla λφ E h' w a=>hexec φ E h' w a sp.zw
        .cases z
      .cases z
     .rename_i hcond;split at z
      .rename_i hro;simp only[ak]at hro;have hq0:=au hro.1;have hng:=Ic hro.2;have sp:qZ P f c.full:=by
        unfold aL at spc
        rwa [av (λL=>hcond (by rw[L,hng];rfl))]at spc
       simp only at z;split at z
       .rename_i rs hrs;split at z
        .rename_i h2 D;have hrs':=hrs;rw[vh,A.pv]at hrs';simp only[bm,af]at hrs';refine ⟨_,_,_,_,_,z,?_⟩;rw[<- hrs'];have B:=yc hM;unfold Pc at D;rw[xT,I.pb]at D;simp only[bm,af]at D;have hqe:∀nx,hq1.get nx=U:=λnx=>by
          cases L:hq1.get nx with
          |none=>rfl
          |some b=>have:=A.lt_len L;omega
         have J':pH c.full.post (Xg (PV.tyL c.post.vs) (PB.tyL c.pre.bs) (Ru _ _ y) (NQ _ _ x)) rs1 hp l1:=
          ⟨by show rm Ki c.post.vs (Ru (PV.tyL c.post.vs) (PB.tyL c.pre.bs) _)=_;rw[uV];exact A.pv,by show pK Ki c.pre.bs (NQ (PV.tyL c.post.vs) (PB.tyL c.pre.bs) _)=_;rw[wL];exact I.pb,I.len,I.at_,fd (λnx r hr=>by rw[bC,hqe]at hr;cases hr) _ A.ok,ye (by omega) _ A.lt,I.C,I.I,I.nox⟩
         obtain⟨x1,m1,x2,m2,hx,hmm,gv,gb⟩:=B.ex;obtain⟨l,q1,q2,q3⟩:=Px (g':=Ki) c.pre.bs 0 x2 m2 hro.2 gb;have hl1:l1=l:=by
          have:=I.pb;rw[hx,wL,q1]at this;cases this;rfl
         subst hl1;have hgi:∀nx,nx<l! c.pre.bs->(if ef nx (l! c.pre.bs) then io σ nx else i+(nx-l! c.pre.bs))=io σ nx:=λnx hi=>by
          have:ef nx (l! c.pre.bs)=J:=aW hi;simp only[this,bk]
         have hsame:∀nx,nx<l! c.pre.bs->h2.get (io σ nx)=h.get (io σ nx):=λnx hi=>by
          obtain⟨ty,p,T,xs,w1,N⟩:=q3 nx hi;rw[bF]at N;have:=wO (λnx=>if ef nx (l! c.pre.bs) then io σ nx else i+(nx-l! c.pre.bs)) (l1.map (ii (kT (λnx=>if ef nx (l! c.pre.bs) then io σ nx else i+(nx-l! c.pre.bs))))) 0 (dL m h) (λa b ha L e=>by
           simp only[bH,q2]at ha L;rw[bF,bF,hgi a ha,hgi b L]at e;exact B.inj a b ha L e) nx (Z (.F ty p T xs)) (by rw[aT,w1];rfl)
          rw[bF,hgi nx hi]at this;rw[<- D,this,N]
         have t:=agn (o:=d) (e:=e) hinv sp B I hng (y:=Xg (PV.tyL c.post.vs) (PB.tyL c.pre.bs) (Ru _ _ y) (NQ _ _ x)) (by show ay (c.m x) _=_;rw[hy];rfl) J' (bV _) (g:=λnx=>if ef nx (l! c.pre.bs) then io σ nx else i+(nx-l! c.pre.bs)) hgi (λnx hi=>by
          have:ef nx (l! c.pre.bs)=aa:=by
           cases L:ef nx (l! c.pre.bs) with
           |false=>rfl
           |true=>have:=aU L;have hi:l! c.pre.bs<=nx:=hi;omega
          simp only[this];rfl) D.symm (H6 _ λnx hi=>by rw[hgi nx hi];exact hsame nx hi) hla λφ E h' w a=>hexec φ E h' w a sp.zw
         have t':eT P d aa e h i (Tg (ll (λnx=>if ef nx (l! c.pre.bs) then io σ nx else i+(nx-l! c.pre.bs)) rs1)) (sm|||m) (sm|||m|||(((1<<<(l! c.pre.bs-l! c.pre.bs))-1)<<<i)) h2 (i+(l! c.pre.bs-l! c.pre.bs)):=t;rw[Ca,cX]at t';refine t'.drop (W:=sm) (λnx hi=>?_) (λnx hi=>?_)
         .refine ⟨?_,by rw[bn,hi];rfl⟩;obtain⟨k,z,rfl⟩:=(B.sig nx).1 hi;obtain⟨ty,p,T,xs,_,N⟩:=q3 k z;rw[bF]at N;intro n hn;unfold erHF;rw[hn,hsame k z,N];cases ix n<;>rfl
         .simp only[Nat.shiftLeft_zero,Ca,Nat.zero_shiftLeft,Nat.or_zero,bn,jJ]at hi;exact hi
        .cases z
       .cases z
      .cases z
    .cases z
   .cases z
  .cases z
 .cases z
variable {W:TypeId->M Ty}
def an3 (hcon:Gv P X) {e:hX} {nx:SI} {K:KO R} {r:R} (hinv:gW h i) (hi:su e h) (A:w9 P d.op=nx) (N:eC X W nx e h i K=Z r):iT P d nx.still e h i K r:=by
 have callOps:∀(c:Call),d.op= .call c->∀x,x∈c.operands->x∈d.op.operands:=λc D x L=>by rw[D];exact L
 cases nx with
 |call f args=>
  simp only[eC]at N;split at N
  .rename_i l hl;have D:∃c:Call,d.op= .call c/\c.callee= .value (.func f)/\c.args.toList=args:=by
    unfold w9 at A;split at A
    .rename_i nx hi;subst A;unfold Nb at hi;split at hi
     .rename_i c D;split at hi
      .rename_i g hg;simp only[af,SI.call.injEq]at hi;exact⟨c,D,by rw[hg,hi.1],hi.2⟩
      .simp at hi
      .cases hi
     .cases hi
    .split at A<;>cases A
   obtain⟨c,D,h1,h2⟩:=D;obtain⟨la,g1,g2⟩:=E5 hi hl;refine ZW hcon hinv N g2 λφ E h' w a hcb hops hrep=>?_
   have hp:WA φ E h' w a (CU e h) d:=λx y L hy=>uW hrep (by rw[Co];exact hops) L hy
   refine ⟨args.map a.eval,?_,XT hp args la (λx L=>callOps c D x (by simp[dI,h1,<-h2]at L ⊢;exact .inr L)) g1⟩;unfold execOp;rw[D];have hm:c.args.map a.eval=(args.map a.eval).toArray:=by rw[<- h2];apply Array.ext';simp
   simp[resolve,h1,Act.eval,Deferred.ofValue,invoke,hm,ER hcb]
  .cases N
 |jv x args=>
  simp only[eC]at N;split at N
  .rename_i f cap l L hl;have D:∃c:Call,d.op= .call c/\c.callee= .value x/\c.args.toList=args:=by
    unfold w9 at A;split at A
    .rename_i nx hi;subst A;unfold Nb at hi;split at hi
     .rename_i c D;split at hi
      .simp at hi
      .rename_i g hg;simp only[af,SI.jv.injEq]at hi;exact⟨c,D,by rw[hg,hi.1],hi.2⟩
      .cases hi
     .cases hi
    .split at A<;>cases A
   obtain⟨c,D,h1,h2⟩:=D;obtain⟨la,g1,g2⟩:=E5 hi hl;obtain⟨yx,g3,g4⟩:=ba hi L;simp only[b9]at g4;split at g4
   .rename_i lc hlc;cases g4;refine ZW hcon hinv N (oP g2 hlc) λφ E h' w a hcb hops hrep=>?_
    have hp:WA φ E h' w a (CU e h) d:=λx y L hy=>uW hrep (by rw[Co];exact hops) L hy
    have hxv:=hp x _ (callOps c D x (by simp[dI,h1])) g3;have hlv:=XT hp args la (λx L=>callOps c D x (by simp[dI,h1,<-h2]at L ⊢;exact .inr L)) g1;generalize hz:a.eval x=z at hxv;cases hxv with
    |@qy _ _ vs hvl hvr=>
     refine ⟨args.map a.eval++vs,?_,hlv.append (lP.of hvl hvr)⟩;unfold execOp;rw[D];have hm:c.args.map a.eval=(args.map a.eval).toArray:=by rw[<- h2];apply Array.ext';simp
     simp[resolve,h1,hz,Deferred.ofValue,invoke,hm,ER hcb]
   .cases g4
  .cases N
 |op s=>
  have A:s= .zd\/cZ P d.op=Z s:=by
   unfold w9 at A;split at A
   .rename_i nx hi;subst A;unfold Nb at hi;split at hi
    .split at hi<;>simp at hi
    .cases hi
   .split at A
    .rename_i q hq;simp only[SI.op.injEq]at A;subst A;exact .inr hq
    .simp only[SI.op.injEq]at A;exact .inl A.symm
  rcases A with rfl|A
  .simp[eC]at N
  .exact K_op hinv hi A N
def F_op {e:hX} {s:OT} {K:KO R} {r:R} (hinv:gW h i) (hi:su e h) (D:cZ P d.op=Z s) (A:pG W e h i K s=Z r):iT P d s.still e h i K r:=by
 cases s with
 |load sz N x=>exact aq2 hinv hi D A
 |store sz x v=>exact alh hinv hi D A
 |zh x=>exact aq0 hinv hi D A
 |jf off x=>exact ato hinv hi D A
 |jg sz x nx=>exact atn hinv hi D A
 |jk str ok z x k=>exact atl hinv hi D A
 |jy str x k v=>exact atj hinv hi D A
 |app ty sz bytes s x=>exact atq hinv hi D A
 |zg ty sz bytes z l c=>exact aq1 hinv hi D A
 |zl neg x=>exact aq3 hinv hi D A
 |xz ds z x k=>
  have hd:ds=i2:=by
   clear D;generalize L:OT.xz ds z x k=q at A;unfold pG at A;split at A<;>first|(cases L;done)|(cases L;rfl)|cases A
  subst hd;exact atm hinv hi D A
 |xq ds x k v=>
  have hd:ds=i2:=by
   clear D;generalize L:OT.xq ds x k v=q at A;unfold pG at A;split at A<;>first|(cases L;done)|(cases L;rfl)|cases A
  subst hd;exact atk hinv hi D A
 |xx ds x k=>
  have hd:ds=i2:=by
   clear D;generalize L:OT.xx ds x k=q at A;unfold pG at A;split at A<;>first|(cases L;done)|(cases L;rfl)|cases A
  subst hd;exact atp hinv hi D A
 |_=>exact co A (by simp[pG])
def aqv (hcon:Gv P X) {e:hX} {nx:SI} {K:KO R} {r:R} (hinv:gW h i) (hi:su e h) (z:w9 P d.op=nx) (A:opK X W nx e h i K=Z r):iT P d nx.still e h i K r:=by
 unfold opK at A;split at A
 .split at A
  .rename_i s _;have z:s= .zd\/cZ P d.op=Z s:=by
    unfold w9 at z;split at z
    .rename_i nx hi;subst z;unfold Nb at hi;split at hi
     .split at hi<;>simp at hi
     .cases hi
    .split at z
     .rename_i q D;simp only[SI.op.injEq]at z;subst z;exact .inr D
     .simp only[SI.op.injEq]at z;exact .inl z.symm
   rcases z with rfl|z
   .simp[pG]at A
   .exact F_op hinv hi z A
  .cases A
 .exact an3 hcon hinv hi z A
def fy (am:Nat) (e e':hX):Prop:=∀k,aK am k=aa->∀z,e'.get k=Z z->∃v,e.get k=Z v/\(vO v=J->z=v)
def fy.refl (am:Nat) (e:hX):fy am e e:=λ_ _ z h=>⟨z,h,λ_=>rfl⟩
def fy.trans {a b c:hX} (h1:fy i a b) (N:fy i b c):fy i a c:=λk z D L=>by
 obtain⟨A,g1,g2⟩:=N k z D L;obtain⟨v,g3,g4⟩:=h1 k z A g1;refine ⟨v,g3,λhf=>?_⟩;have:=g4 hf;subst this;exact g2 hf
def fy.mono {a b:hX} (h:fy i a b) (hm:∀k,aK i k=J->aK j k=J):fy j a b:=λk z=>h k (by
 cases A:aK i k with
 |false=>rfl
 |true=>rw[hm k A]at z;cases z)
structure ah7 (P:Program) (ops:Array Oper) (rest:List Oper) (sl:List tX) (am:Nat) (s s':TS) (fs:List FPm) (l:List (Oper×Dy)):Prop where
 ops_:l.map (·.1)=rest
 chain:B8 P ops l (fG s.e s.h) (erHF s.h) (fG s'.e s'.h) (erHF s'.h)
 fsl:l! fs=l! l
 sll:l! sl=l! l
 fp:∀(j:Nat) o f q,l[j]? =Z (o,f)->fs[j]? =Z q->(∀n∈f.rd,aK q.rd (ow n)=J)/\∀n∈f.wr,aK q.wr (ow n)=J
 still:∀(j:Nat) o f so,l[j]? =Z (o,f)->sl[j]? =Z so->so.op.still=J->f.rd=[]/\f.wr=[]
 names:∀(j:Nat) o f,l[j]? =Z (o,f)->∀n∈f.N,s.nx<=ow n/\ow n<s'.nx
 xv:∀(i j:Nat) oi fi oj fj,i<j->l[i]? =Z (oi,fi)->l[j]? =Z (oj,fj)->∀n∈fi.N,n∉fj.N
 jp:s.nx<=s'.nx
 qz:gW s'.h s'.nx
 qb:su s'.e s'.h
 keeps:fy am s.e s'.e
def ail {e:hX} {h':a_} (hi:su e h) (L:b7 h h') (d:M Nat) (D:b9 h' u=Z y):NT (fG e h) d y=fG (GP e d u) h':=by
 funext t;have old:(e.get t).bind (b9 h)=(e.get t).bind (b9 h'):=by
  cases ht:e.get t with
  |none=>rfl
  |some x=>
   obtain⟨z,A⟩:=oe h x (hi t x ht);simp only[aB,A,ft L x z A]
 cases d with
 |none=>simp only[NT,GP,fG];rw[av (by simp)];exact old
 |some d=>
  simp only[NT,GP,fG,PT.get_set,af];by_cases hd:d=t
  .subst hd;simp[D]
  .rw[av hd,av (λe=>hd e.symm)];exact old
def su.put {e:hX} {h':a_} (hi:su e h) (A:b7 h h') (d:M Nat) (D:N0 h' u=J):su (GP e d u) h':=λt x z=>by
 cases d with
 |none=>exact l_ A x (hi t x z)
 |some d=>
  simp only[GP,PT.get_set]at z;split at z
  .cases z;exact D
  .exact l_ A x (hi t x z)
def UM {e:hX} {t:Nat} (ht:e.get t=Z u):fG (e.set t (Z u)) h=fG e h:=by
 funext k;simp only[fG,PT.get_set];by_cases z:k=t
 .subst z;simp[ht]
 .rw[av z]
def su.set {e:hX} {t:Nat} (hi:su e h) (ht:e.get t=Z u):su (e.set t (Z u)) h:=λk x z=>by
 rw[PT.get_set]at z;split at z
 .rename_i A;subst A;cases z;exact hi _ _ ht
 .exact hi k x z
def WF {e:hX} {g:M (Nat×Bool)} {K:Bool->hX->M R} {r:R} (h:adm e g K=Z r):
 (g=U/\K J e=Z r)\/(∃t want b,g=Z (t,want)/\e.get t=Z (.f .bool b)/\K (b==want) (e.set t (Z (.f .bool b)))=Z r)\/∃t want,g=Z (t,want)/\e.get t=Z .undef/\K aa e=Z r:=by
 unfold adm at h;split at h
 .exact .inl ⟨rfl,h⟩
 .rename_i t want;split at h
  .rename_i b z;refine .inr (.inl ⟨t,want,b,rfl,z,?_⟩);cases want with
   |_=>rcases lN h with ⟨rfl,h⟩|⟨rfl,h⟩<;>exact h
  .rename_i z;exact .inr (.inr ⟨t,want,rfl,z,h⟩)
  .cases h
variable {B:Array Oper}
def K0 (hcon:Gv P X) (ham:∀(j:Nat) (o:Oper) (d:Nat),B[j]? =Z o->o.dst=Z d->aK i d=J):
 ∀(rest:Y Oper) (sl:Y tX) (s:TS) (fs:Y FPm) (K:TS->Y FPm->M R) (r:R),(∀o∈rest,∃j:Nat,B[j]? =Z o)->tA P B rest=Z sl->NX X W sl s fs K=Z r->gW s.h s.nx->su s.e s.h->∃s' fs' l,K s' (fs.reverse++fs')=Z r/\ah7 P B rest sl i s s' fs' l
 |[],sl,s,fs,K,r,hin,D,z,hH,hE=>by
  simp only[tA,af]at D;subst D;simp only[NX]at z;exact⟨s,[],[],by simpa using z,rfl,.nil _ _,rfl,rfl,by simp,by simp,by simp,by simp,bV _,hH,hE,fy.refl _ _⟩
 |o::rest,sl,s,fs,K,r,hin,D,z,hH,hE=>by
  simp only[tA]at D;split at D
  .rename_i sl' hsl';have hso:∃g,sl=⟨o.dst,w9 P o.op,g⟩::sl'/\((g=U/\o.guard=U)\/∃j want t,g=Z (t,want)/\o.guard=Z (j,want)/\(B[j]?).bind (·.dst)=Z t):=by
    split at D
    .rename_i hg;simp only[af]at D;exact⟨U,D.symm,.inl ⟨rfl,hg⟩⟩
    .rename_i j want hg;split at D
     .rename_i t ht;simp only[af]at D;exact⟨Z (t,want),D.symm,.inr ⟨j,want,t,rfl,hg,ht⟩⟩
     .cases D
   obtain⟨g,rfl,hg⟩:=hso;simp only[NX]at z;have hdst:∀d,o.dst=Z d->aK i d=J:=λd hd=>by
    obtain⟨j,hj⟩:=hin o (cR ..);exact ham j o d hj hd
   have hgs:∀t want,g=Z (t,want)->aK i t=J:=λt want hgt=>by
    rcases hg with ⟨h1,_⟩|⟨j,want',t',h1,_,h3⟩
    .rw[h1]at hgt;cases hgt
    .rw[h1]at hgt;cases hgt;cases hj:B[j]? with
     |none=>rw[hj]at h3;cases h3
     |some oj=>rw[hj]at h3;exact ham j oj t hj h3
   have kput:∀(e:hX) (v:TV),fy i s.e e->fy i s.e (GP e o.dst v):=λe v hke k z v' hv=>by
    cases hd:o.dst with
    |none=>rw[hd]at hv;exact hke k z v' hv
    |some d=>
     rw[hd]at hv;simp only[GP,PT.get_set]at hv;split at hv
     .rename_i e2;rw[e2,hdst d hd]at z;cases z
     .exact hke k z v' hv
   have done:∀(f:Dy) (v:TV) (h':a_) (nx' rd wr:Nat) (e:hX),fG e s.h=fG s.e s.h->su e s.h->fy i s.e e->No P B o f (fG s.e s.h) (erHF s.h)->(∃y,b9 h' v=Z y/\f.val=y)->e_ (erHF s.h) f.wr f.nw=erHF h'->(∀n∈f.rd,aK rd (ow n)=J)->(∀n∈f.wr,aK wr (ow n)=J)->(∀n∈f.N,s.nx<=ow n/\ow n<nx')->b7 s.h h'->gW h' nx'->s.nx<=nx'->((w9 P o.op).still=J->f.rd=[]/\f.wr=[])->
    NX X W sl' ⟨GP e o.dst v,h',nx'⟩ (⟨rd,wr⟩::fs) K=Z r->∃s' fs' l,K s' (fs.reverse++fs')=Z r/\ah7 P B (o::rest) (⟨o.dst,w9 P o.op,g⟩::sl') i s s' fs' l:=by
    intro f v h' nx' rd wr e hee hiE hke hst hval hheap hrd hwr hN hrows hinv' hgr hstill hrun;obtain⟨y,hy1,hy2⟩:=hval;obtain⟨s',fs',l,hK,L⟩:=K0 hcon ham rest sl' _ _ K r (λo' ho'=>hin o' (bM _ ho')) hsl' hrun hinv' (hiE.put hrows o.dst (Hr _ _ _ hy1));have hg2:nx'<=s'.nx:=L.jp;refine ⟨s',⟨rd,wr⟩::fs',(o,f)::l,by simpa using hK,by simp[L.ops_],.cons hst ?_,by simp[L.fsl],by simp[L.sll],?_,?_,?_,?_,c8 hgr hg2,L.qz,L.qb,(kput e v hke).trans L.keeps⟩
    .have e1:NT (fG s.e s.h) o.dst f.val=fG (GP e o.dst v) h':=by rw[<- hee,hy2];exact ail hiE hrows o.dst hy1
     rw[e1,hheap];exact L.chain
    .intro j o' f' q' h1 A;cases j with
     |zero=>simp at h1 A;obtain⟨rfl,rfl⟩:=h1;subst A;exact⟨hrd,hwr⟩
     |succ j=>exact L.fp j o' f' q' (by simpa using h1) (by simpa using A)
    .intro j o' f' so h1 A h3;cases j with
     |zero=>simp at h1 A;obtain⟨rfl,rfl⟩:=h1;subst A;exact hstill h3
     |succ j=>exact L.still j o' f' so (by simpa using h1) (by simpa using A) h3
    .intro j o' f' h1 n hn;cases j with
     |zero=>
      simp at h1;obtain⟨rfl,rfl⟩:=h1;have:=hN n hn;exact⟨this.1,by omega⟩
     |succ j=>
      have:=L.names j o' f' (by simpa using h1) n hn;exact⟨c8 hgr this.1,this.2⟩
    .intro am j oi fi oj fj hij h1 A n hn hn';cases j with
     |zero=>omega
     |succ j=>
      have hj:=L.names j oj fj (by simpa using A) n hn';cases am with
      |zero=>
       simp at h1;obtain⟨rfl,rfl⟩:=h1;have h3:=(hN n hn).2;have h4:nx'<=ow n:=hj.1;omega
      |succ am=>exact L.xv am j oi fi oj fj (by omega) (by simpa using h1) (by simpa using A) n hn hn'
   have runs:∀(e:hX),fG e s.h=fG s.e s.h->su e s.h->fy i s.e e->(∀f,gh P o (fG s.e s.h) (erHF s.h) f->No P B o f (fG s.e s.h) (erHF s.h))->opK X W (w9 P o.op) e s.h s.nx (λv rd wr h nx=>if N0 h v then NX X W sl' ⟨GP e o.dst v,h,nx⟩ (⟨rd,wr⟩::fs) K else U)=Z r->∃s' fs' l,K s' (fs.reverse++fs')=Z r/\ah7 P B (o::rest) (⟨o.dst,w9 P o.op,g⟩::sl') i s s' fs' l:=by
    intro e hee hiE hke hstep z;obtain⟨v,rd,wr,h',nx',hK,T⟩:=aqv hcon hH hiE rfl z;simp only[]at hK;split at hK
    .rename_i hok;obtain⟨f,t1,t2,t3,t4,t5,t6⟩:=T.ex;rw[hee]at t1;obtain⟨y,hy⟩:=oe h' v hok;refine done f v h' nx' rd wr e hee hiE hke (hstep f t1) ⟨y,hy,t2 y hy⟩ t3 t4 t5 t6 T.F T.inv T.jp (λhs=>?_) hK;obtain⟨r0,w0⟩:=T.st hs;subst r0 w0;constructor
     .cases hl:f.rd with
      |nil=>rfl
      |cons n q=>have:=t4 n (by rw[hl];simp);simp at this
     .cases hl:f.wr with
      |nil=>rfl
      |cons n q=>have:=t5 n (by rw[hl];simp);simp at this
    .cases hK
   have skips:∀(e:hX),fG e s.h=fG s.e s.h->su e s.h->fy i s.e e->No P B o s8 (fG s.e s.h) (erHF s.h)->NX X W sl' ⟨GP e o.dst .undef,s.h,s.nx⟩ (⟨0,0⟩::fs) K=Z r->∃s' fs' l,K s' (fs.reverse++fs')=Z r/\ah7 P B (o::rest) (⟨o.dst,w9 P o.op,g⟩::sl') i s s' fs' l:=by
    intro e hee hiE hke hstep z;exact done s8 .undef s.h s.nx 0 0 e hee hiE hke hstep ⟨_,rfl,rfl⟩ (by funext am;simp[e_,s8]) (by simp[s8]) (by simp[s8]) (by simp[s8]) (b7.refl _) hH (bV _) (λ_=>⟨rfl,rfl⟩) z
   rcases WF z with ⟨h1,z⟩|⟨t,want,b,h1,hb,z⟩|⟨t,want,h1,hb,z⟩
   .refine runs s.e rfl hE (fy.refl _ _) (λf hf=>?_) z;rcases hg with ⟨_,hg⟩|⟨j,want,t,A,_,_⟩
    .exact .run hg hf
    .rw[h1]at A;cases A
   .rcases hg with ⟨A,_⟩|⟨j,want',t',A,h3,h4⟩
    .rw[h1]at A;cases A
    .rw[h1]at A;cases A;have hgt:=hgs t want h1;have heb:fG s.e s.h t=Z (.f (.raw (.bool b))):=by simp only[fG,hb,aB,b9];rfl
     have hke:fy i s.e (s.e.set t (Z (.f .bool b))):=λk z v' hv=>by
      rw[PT.get_set]at hv;split at hv
      .rename_i ek;rw[ek,hgt]at z;cases z
      .exact⟨v',hv,λ_=>rfl⟩
     cases hbw:(b==want) with
     |true=>
      rw[hbw]at z;have:b=want:=by simpa using hbw
      subst this;exact runs _ (UM hb) (hE.set hb) hke (λf hf=>.runG j t b h3 h4 heb hf) z
     |false=>
      rw[hbw]at z;refine skips _ (UM hb) (hE.set hb) hke (.skip j t want h3 h4 (.bool b) heb ?_ rfl) z;intro hv;cases hv;simp at hbw
   .rcases hg with ⟨A,_⟩|⟨j,want',t',A,h3,h4⟩
    .rw[h1]at A;cases A
    .rw[h1]at A;cases A;exact skips _ rfl hE (fy.refl _ _) (.skip j t want h3 h4 undef (by simp only[fG,hb,aB,b9]) (by unfold undef;simp) rfl) z
  .cases D
def aj0 {sl:Y tX} {s s':TS} {fs:Y FPm} {l:Y v!} {prs:Y o?} (D:ah7 P B B.toList sl i s s' fs l) (hp:Pd B sl=Z prs) (hok:Ia fs prs=J):NIP B l:=by
 unfold Pd at hp;simp only[]at hp;split at hp
 .rename_i hall;simp only[gH,oT,ak]at hall;simp only[af]at hp;have hop:∀(j:Nat) o f,l[j]? =Z (o,f)->B[j]? =Z o:=λj o f L=>by
   have h1:(l.map (·.1))[j]? =Z o:=by rw[aT,L];rfl
   rw[D.ops_]at h1;simpa using h1
  have hsize:∀(j:Nat) o,B[j]? =Z o->j<B.size:=λj o h=>(cw.1 h).1
  have hprs:∀am j,(am,j)∈prs->∃a b,fs[am]? =Z a/\fs[j]? =Z b/\F6 a.wr b.rd=J/\F6 a.wr b.wr=J/\F6 b.wr a.rd=J:=by
   clear hp hall;induction prs with
   |nil=>intro am j h;cases h
   |cons p prs ih=>
    obtain⟨i0,j0⟩:=p;simp only[Ia,ak,Zz]at hok;intro am j hm;rcases aZ.1 hm with h|h
    .cases h;have h1:=hok.1;split at h1
     .rename_i a b ha hb;simp only[ak]at h1;exact⟨a,b,ha,hb,h1.1.1,h1.1.2,h1.2⟩
     .cases h1
    .exact ih hok.2 am j h
  refine ⟨λj o ho e he hb=>?_,λam j oi fi oj fj hij hi L=>?_,D.xv⟩
  .have:=(hall j (hsize j o ho)).1;rw[ho]at this;simp only[Option.all_some,gH]at this;have:=this e (by simpa using he);simp[hb]at this;exact this
  .have h1:=hop am oi fi hi;have h2:=hop j oj fj L;have hcase:=(hall j (hsize j oj h2)).2 am hij;rw[h1,h2]at hcase;simp only[jJ]at hcase;by_cases N:aK ((Nf B.toList []).getD j 0) am=J
   .left;rw[ax]at N;cases z:(Nf B.toList [])[j]? with
    |none=>rw[z]at N;simp at N
    |some ops=>
     rw[z]at N;exact Qb (ops:=B) B.toList [] (λj o L=>by simpa using L) (λj ops L=>by simp at L) j ops z am (by simpa using N)
   .right;have hap:=hcase.resolve_left N;refine ⟨hap,?_⟩;have hil:am<l! l:=(bi.1 hi).1;have hjl:j<l! l:=(bi.1 L).1;have hsi:=aD (show am<l! sl by rw[D.sll];exact hil);have hsj:=aD (show j<l! sl by rw[D.sll];exact hjl);by_cases hst:(sl[am]'(by rw[D.sll];exact hil)).op.still=J
    .obtain⟨q1,q2⟩:=D.still am oi fi _ hi hsi hst;rw[q1,q2];exact⟨(λx z=>by cases z),(λx _ z=>by cases z)⟩
    .by_cases hst2:(sl[j]'(by rw[D.sll];exact hjl)).op.still=J
     .obtain⟨q1,q2⟩:=D.still j oj fj _ L hsj hst2;rw[q1,q2];exact⟨(λx z=>⟨(by simp),(by simp)⟩),(λx z=>by cases z)⟩
     .have hmem:(am,j)∈prs:=by
       rw[<- hp,sh];refine ⟨j,oT.2 (hsize j oj h2),?_⟩;rw[List.mem_filterMap];refine ⟨am,oT.2 hij,?_⟩;rw[av];rw[hsi,hsj];simp only[jJ,not_or];exact⟨N,hst,hst2⟩
      obtain⟨a,b,ha,hb,d1,d2,d3⟩:=hprs am j hmem;obtain⟨f1,f2⟩:=D.fp am oi fi a hi ha;obtain⟨g1,g2⟩:=D.fp j oj fj b L hb;refine ⟨λx z=>⟨λA=>?_,λA=>?_⟩,λx z A=>?_⟩
      .have:=zX d1 (ow x) (f2 x z);rw[g1 x A]at this;cases this
      .have:=zX d2 (ow x) (f2 x z);rw[g2 x A]at this;cases this
      .have:=zX d3 (ow x) (g2 x z);rw[f1 x A]at this;cases this
 .cases hp
structure jA (P:Program) (E:Nat->Prop) (nt np:Nat) (φ:PM) (s:TS) (a:Act) (w:World):Prop where
 qn:r_ φ E (erHF s.h) w
 env:Qk φ (tot E φ (erHF s.h)) w (fG s.e s.h) a
 dom:∀n k,φ n=Z k->ow n<s.nx
 low:np<=s.nx
 qz:gW s.h s.nx
 qb:su s.e s.h
 inert:∀d∈a.defers,ahl P d
 size:a.tmps.size=nt
structure xc (np:Nat) (φ φ':PM) (H H':HF) (w w':World):Prop where
 ext:Gt (own φ H) w w'
 qr:∀k,k<w.heap.size->own φ' H' k->own φ H k
 par:∀n,ow n<np->φ' n=φ n
def xc.refl (np:Nat) (φ:PM) (H:HF) (w:World):xc np φ φ H H w w:=⟨Gt.refl _ _,λ_ _ h=>h,λ_ _=>rfl⟩
def xc.trans {φ' φ'':PM} {H' H'':HF} {w w' w'':World} (a:xc i V φ' A H' w w') (b:xc i φ' φ'' H' H'' w' w''):xc i V φ'' A H'' w w'' where
 ext:=⟨b.ext.os.trans a.ext.os,b.ext.tape.trans a.ext.tape,b.ext.output.trans a.ext.output,c8 a.ext.size b.ext.size,
  λk z H=>(b.ext.jb k (dw z a.ext.size) (λh=>H (a.qr k z h))).trans (a.ext.jb k z H),
  λk z=>(b.ext.jh k (dw z a.ext.size)).trans (a.ext.jh k z)⟩
 qr:=λk z h=>a.qr k z (b.qr k (dw z a.ext.size) h)
 par:=λnp hi=>(b.par np hi).trans (a.par np hi)
variable {Q:Act} {b:Bool}
def aee {s:TS} {w:World} (hm:P.follows .mixedOrders=J) (hcon:Gv P X) (c:jA P O i j V s Q w) {id:Nat} {sl:Y tX} {prs:Y o?} {am:Nat} (ham:∀(np:Nat) (o:Oper) (d:Nat),B[np]? =Z o->o.dst=Z d->aK am d=J)
 (hd:(B.toList.all λo=>match o.dst with|some d=>decide (d<i)|none=>J)=J) (hc:tA P B B.toList=Z sl) (hp:Pd B sl=Z prs) {K:TS->M R} {r:R} (hr:NX X W sl s [] (λs' fs=>if Ia fs prs then K s' else U)=Z r) {a:Exit->Act->World->Prop}
 (hQ:∀a' w' s' φ',K s'=Z r->jA P O i j φ' s' a' w'->xc j V φ' (erHF s.h) (erHF s'.h) w w'->fy am s.e s'.e->a .normal a' w'):(Code.region id B b).wp P a Q w:=by
 obtain⟨s',fs',l,A,L⟩:=K0 hcon ham B.toList sl s [] _ r (λo ho=>by
  obtain⟨np,N⟩:=gg ho;exact⟨np,by simpa using N⟩) hc hr c.qz c.qb
 have A:(if Ia fs' prs then K s' else U)=Z r:=A;by_cases hok:Ia fs' prs=J
 .rw[aC hok]at A;refine Tk (φ0:=V) (E:=O) hm L.ops_ L.chain (aj0 L hp hok) ?_ ?_ c.qn c.env ?_
  .intro n D;obtain⟨p,z,D⟩:=sh.1 D;obtain⟨np,N⟩:=gg z;have:=L.names np p.1 p.2 N n D;cases hx:V n with
   |none=>rfl
   |some k=>have:=c.dom n k hx;omega
  .intro np o ho d hd';have:=gH.1 hd o (by have:=Array.mem_of_getElem? ho;simpa using this);rw[hd']at this;rw[c.size];simpa using this
  .rintro a' w' ⟨φ',m',d',r',en',df',sz'⟩;have hnm:∀n k,φ' n=Z k->V n=Z k\/(s.nx<=ow n/\ow n<s'.nx):=λn k hik=>by
    rcases d' n k hik with h|h
    .exact .inl h
    .obtain⟨p,z,D⟩:=sh.1 h;obtain⟨np,N⟩:=gg z;exact .inr (L.names np p.1 p.2 N n D)
   have hg:=L.jp;have hlow:=c.low;refine hQ a' w' s' φ' A ⟨r',en',λn k hik=>?_,by omega,L.qz,L.qb,by rw[df'];exact c.inert,by rw[sz'];exact c.size⟩ ⟨m'.ext,m'.qr,λnt hi=>?_⟩ L.keeps
   .rcases hnm n k hik with h|h
    .have:=c.dom n k h;omega
    .exact h.2
   .cases hx:V nt with
    |some k=>exact m'.sub _ _ hx
    |none=>
     cases hy:φ' nt with
     |none=>rfl
     |some k=>
      rcases hnm nt k hy with h|h
      .rw[hx]at h;cases h
      .omega
 .rw[av hok]at A;cases A
section ren
variable {P:Program} {E:Nat->Prop} {nt np:Nat}
def J8 {s:TS} {w:World} (c:jA P E nt np V s Q w) (src:Nat->Nat) (hsrc:∀n,ow n≠s.nx->src n=n) (hr:b7 s.h h) (hinv:gW h (s.nx+1))
 (L:∀n b',erHF h n=Z b'->∃b,erHF s.h (src n)=Z b/\∀(φ':PM) (O':Nat->Prop),(∀n,φ' n=V (src n))->(∀x v,cq V (tot E V (erHF s.h)) w x v->cq φ' O' w x v)->∀o,gy V (tot E V (erHF s.h)) w b o->gy φ' O' w b' o)
 (inj:∀n m b b',erHF h n=Z b->erHF h m=Z b'->src n=src m->n=m):∃φ',jA P E nt np φ' ⟨s.e,h,s.nx+1⟩ Q w/\xc np V φ' (erHF s.h) (erHF h) w w:=by
 have sub:∀n k,V n=Z k->V (src n)=Z k:=λn k A=>by
  have:=c.dom n k A;rw[hsrc n (by omega)];exact A
 have own_:∀k,own (λn=>V (src n)) (erHF h) k->own V (erHF s.h) k:=by
  rintro k ⟨i,b,h1,N⟩;obtain⟨b0,h3,_⟩:=L i b h1;exact⟨src i,b0,h3,N⟩
 have tot_:∀k,tot E (λn=>V (src n)) (erHF h) k->tot E V (erHF s.h) k:=λk A=>A.imp id (own_ k)
 have keep:∀x v,cq V (tot E V (erHF s.h)) w x v->cq (λn=>V (src n)) (tot E (λn=>V (src n)) (erHF h)) w x v:=λx v h'=>h'.ext sub (Gt.refl _ w) λk _ A=>tot_ k A
 refine ⟨λn=>V (src n),⟨⟨λi j b b' k h1 N h3 h4=>?_,λn b' hb=>?_,c.qn.el,λg cells hg=>(c.qn.gl g cells hg).ext (Gt.refl _ w) λk _ A=>tot_ k A⟩,λt x D=>?_,λn k A=>?_,fU c.low,hinv,λt x D=>l_ hr x (c.qb t x D),c.inert,c.size⟩,⟨Gt.refl _ _,λk _ A=>own_ k A,λn hn=>?_⟩⟩
 .obtain⟨b0,q1,_⟩:=L i b h1;obtain⟨b1,q2,_⟩:=L j b' N;exact inj i j b b' h1 N (c.qn.inj _ _ b0 b1 k q1 q2 h3 h4)
 .obtain⟨b,q1,q2⟩:=L n b' hb;obtain⟨k,p1,p2,o,p3,p4⟩:=c.qn.at_ _ b q1;exact⟨k,p1,p2,o,p3,q2 _ _ (λ_=>rfl) keep o p4⟩
 .simp only[fG]at D;cases he:s.e.get t with
  |none=>rw[he]at D;cases D
  |some q=>
   rw[he]at D;obtain⟨z,hz⟩:=oe s.h q (c.qb t q he);simp only[aB,ft hr q z hz,af]at D;subst D;exact keep _ _ (c.env t _ (by simp only[fG,he,aB,hz]))
 .have A:V (src n)=Z k:=A;by_cases e:ow n=s.nx
  .show ow n<s.nx+1;omega
  .rw[hsrc n e]at A;have:=c.dom n k A;show ow n<s.nx+1;omega
 .have:=c.low;show V (src n)=V n;rw[hsrc n (by omega)]
variable {z:TypeId}
def xU {φ':PM} {O':Nat->Prop} {w:World} {l l':Y AV} {o:Obj} (hlen:l! l'=l! l) (L:∀(j:Nat) ty,l'[j]? =Z ty->ty.isCell=J/\∃x,l[j]? =Z x/\∀v,cq V O w x v->cq φ' O' w ty v) (h:gy V O w ⟨z,.mx l⟩ o):gy φ' O' w ⟨z,.mx l'⟩ o:=by
 rw[mB rfl]at h ⊢;obtain⟨arr,h1,h2,N⟩:=h;refine ⟨arr,h1,by simp only[BC.len]at h2 ⊢;omega,λj ty D=>?_⟩;obtain⟨A,x,p2,p3⟩:=L j ty D;obtain⟨_,v,p4,p5⟩:=N j x p2;exact⟨A,v,p4,p3 v p5⟩
def K7 {φ':PM} {O':Nat->Prop} {w:World} {l l':Y j!} {o:Obj} (hk:l'.map (·.1)=l.map (·.1)) (N:∀(j:Nat) z,l'[j]? =Z z->∃x,l[j]? =Z x/\x.1=z.1/\∀v,cq V O w x.2 v->cq φ' O' w z.2 v) (h:gy V O w ⟨0,.mp l⟩ o):gy φ' O' w ⟨0,.mp l'⟩ o:=by
 obtain⟨ents,clock,h1,A,h3⟩:=h;refine ⟨ents,clock,h1,?_,λj z L=>?_⟩
 .unfold Qg at A ⊢;rw[hk];exact A
 .obtain⟨x,D,p2,p3⟩:=N j z L;obtain⟨v,p4,p5⟩:=h3 j x D;exact⟨v,by rw[<- p2];exact p4,p3 v p5⟩
def aac (n:Nat) (j:Int):(shf n j).toNat=if j.toNat<n then j.toNat else j.toNat+1:=by
 unfold shf;by_cases h:j.toNat<n
 .rw[aC h,aC (by exact aW h)]
 .rw[av h,av (λe=>h (R_ e))];rfl
def ud (nx a p m1 m2 len n:Nat):Nat:=if ow n=nx then (match ix n with
 |0=>n
 |k+1=>if k/3<len then jE a (k+1) else if k/3=len then (if k%3=0 then nm p else if k%3=1 then nm m1 else nm m2) else jE a (k+1-3)) else n
def xQ (nx a p m1 m2 len k:Nat):ud nx a p m1 m2 len (jE nx (k+1))=if k/3<len then jE a (k+1) else if k/3=len then (if k%3=0 then nm p else if k%3=1 then nm m1 else nm m2) else jE a (k+1-3):=by
 unfold ud;rw[iJ,vN,aC rfl]
def YW {p m1 m2 len k:Nat} (h:k/3<len):ud i j p m1 m2 len (jE i (k+1))=jE j (k+1):=by rw[xQ,aC h]
def KH (nx a p m1 m2 len:Nat) (j:Int):ud nx a p m1 m2 len (pL nx (shf len j))=pL a j:=by
 unfold pL;rw[xQ,aac];by_cases h:j.toNat<len
 .rw[aC h,aC (by omega)]
 .rw[av h,av (by omega),av (by omega)];rw[show 3*(j.toNat+1)+1-3=3*j.toNat+1 from by omega]
def Zm {e:Y u?} (hm:aj9 (h.get i)=Z e):erHF h (nm i)=Z ⟨0,.mp (G1 e)⟩/\∃K V es,h.get i=Z (.mp K V es):=by
 unfold aj9 at hm;split at hm
 .rename_i es z;cases hm;exact⟨by rw[bL,z];rfl,_,_,_,z⟩
 .rename_i z;cases hm;exact⟨by rw[bL,z];rfl,_,_,_,z⟩
 .cases hm
def EnR (R:AV->AV->Prop):Y j!->Y j!->Prop
 |[],[]=>True
 |x::l,y::l'=>x.1=y.1/\R x.2 y.2/\EnR R l l'
 |_,_=>False
def EnR.get {R:AV->AV->Prop}:∀{l l':Y j!},EnR R l l'->l'.map (·.1)=l.map (·.1)/\∀(j:Nat) z,l'[j]? =Z z->∃x,l[j]? =Z x/\x.1=z.1/\R x.2 z.2
 |[],[],_=>⟨rfl,λj z A=>by simp at A⟩
 |[],_::_,h|_::_,[],h=>h.elim
 |x::l,y::l',h=>by
  obtain⟨L,D⟩:=EnR.get h.2.2;refine ⟨by simp only[bZ,L,h.1],λj z A=>?_⟩;cases j with
  |zero=>simp only[dH,af]at A;subst A;exact⟨x,rfl,h.1,h.2.1⟩
  |succ j=>exact D j z A
def Mh {R:AV->AV->Prop} {a nx len:Nat} (z:∀j,R (.H (pL a j) 0) (.H (pL nx (shf len j)) 0)):∀es:Y e!,EnR R (wA a es) (wA nx (KK len es))
 |[]=>trivial
 |e::r=>⟨rfl,z e.2,Mh z r⟩
def UQ {R:AV->AV->Prop} {a nx len:Nat} (D:∀j,R (.H (pL a j) 0) (.H (pL nx (shf len j)) 0)) {v:AV} (A:R v (.H (pL nx (aP len)) 0)) (k:ν):∀es:Y e!,EnR R (Mg a k v es) (wA nx (xV k (aP len) (KK len es)))
 |[]=>⟨rfl,A,trivial⟩
 |e::r=>by
  have L:=UQ D A k r;show EnR R (Mg a k v (e::r)) (wA nx (xV k (aP len) ((e.1,shf len e.2)::KK len r)));simp only[Mg,xV];by_cases z:k=e.1
  .rw[aC z,Kg.2 z];exact⟨rfl,A,Mh D r⟩
  .rw[av z];cases N:N7 k e.1 with
   |true=>exact co (Kg.1 N) z
   |false=>exact⟨rfl,D e.2,L⟩
def Cf {φ':PM} {O':Nat->Prop} {w:World} {off:Nat} (h:φ' j=V i) (A:cq V O w (.H i off) v):cq φ' O' w (.H j off) v:=by
 cases A with
 |H D=>exact .H (h.trans D)
def QZ {φ':PM} {O':Nat->Prop} {w:World} (h:φ' j=V i) (A:cq V O w (.mp i) v):cq φ' O' w (.mp j) v:=by
 cases A with
 |mp D=>exact .mp (h.trans D)
def J6 {φ':PM} {O':Nat->Prop} {w:World} {sz m:Nat} (h:φ' j=V i) (A:cq V O w (.G i sz m) v):cq φ' O' w (.G j sz m) v:=by
 cases A with
 |G D h1 N L=>exact .G (h.trans D) h1 N L
def aea (a n len:Nat) (B:eP):iG (rnF a n len B)=iG B:=by
 cases B with
 |I F b x=>
  simp only[rnF];split
  .cases F with
   |qc ty=>
    show Z (J,1,ah (fP (shf len) (x:η)))=Z (J,1,ah (α:=Int) x);exact dT (λn=>Z (J,1,n)) ((λ(a:η)=>(bH (shf len):l! (fP (shf len) a)=l! a)) x)
   |_=>rfl
  .rfl
 |_=>rfl
def xC (φ:PM) (O:Nat->Prop) (w:World) (src:Nat->Nat) (b b':kc):Prop:=∀(φ':PM) (O':Nat->Prop),(∀n,φ' n=φ (src n))->(∀x v,cq φ O w x v->cq φ' O' w x v)->∀o,gy φ O w b o->gy φ' O' w b' o
def xC.refl {w:World} (b:kc):xC V O w g b b:=λ_ _ _ keep _ h=>h.mono keep
def UH {w:World} {k:Nat} {ob:BZ T} (h1:k%3=0->g (jE i (k+2))=jE j (k+2)) (h2:k%3=0->g (jE i (k+3))=jE j (k+3)):xC V O w g (vX j k z T ob) (vX i k z T ob):=by
 intro φ' O' hφ keep oo hoo;unfold vX at hoo ⊢;by_cases D:k%3=0
 .rw[aC D]at hoo ⊢;refine xU (by simp) (λai L ty=>?_) hoo;by_cases hj:ai<l! (bN T ob.1)
  .rw[bj (by rw[bH];exact hj)]at ty ⊢;refine ⟨?_,L,ty,λv A=>keep _ _ A⟩;obtain⟨y,N,rfl⟩:=ch.1 (aX ty);exact ml T [ob.1] y (by simpa using N)
  .rw[bO (by rw[bH];omega)]at ty ⊢;generalize ai-l! (fP AV.f (bN T ob.1))=q at ty ⊢
   match q with
   |0=>
    simp only[dH,af]at ty ⊢;subst ty;exact⟨rfl,_,rfl,λv A=>QZ (by rw[hφ,h1 D]) A⟩
   |1=>
    simp only[mG,dH,af]at ty ⊢;subst ty;exact⟨rfl,_,rfl,λv A=>QZ (by rw[hφ,h2 D]) A⟩
   |q+2=>simp at ty
 .rw[av D]at hoo ⊢;exact hoo.mono keep
def ag1 {E:Nat->Prop} {w:World} (rep:r_ V E A w) {m1 m2:Nat} {ob:BZ T} {la:Y AV} (k0:j%3=0) (hle:gL A A la ((bN T ob.1).map .f)) (h1:g (jE i (j+2))=nm m1) (h2:g (jE i (j+3))=nm m2):xC V (tot E V A) w g ⟨z,.mx (la++[.mp (nm m1),.mp (nm m2)])⟩ (vX i j z T ob):=by
 intro φ' O' hφ keep oo hoo;unfold vX;rw[aC k0];have hll:=hle.length;refine xU (by simp only[bc];rw[hll];rfl) (λk x' ty=>?_) hoo;by_cases N:k<(bN T ob.1).length
 .rw[bj (by rw[bH];exact N)]at ty;rw[bj (by rw[<- hll,bH];exact N)];obtain⟨x,L,D⟩:=hle.get k x' ty;refine ⟨?_,x,L,λv H=>keep _ _ (D V E w v rep H)⟩;obtain⟨y,hy,rfl⟩:=ch.1 (aX ty);exact ml T [ob.1] y (by simpa using hy)
 .rw[bO (by rw[bH];omega)]at ty;rw[bO (by rw[<- hll,bH];omega),<-hll];generalize k-(fP AV.f (bN T ob.1)).length=q at ty ⊢
  match q with
  |0=>
   simp only[dH,af]at ty ⊢;subst ty;exact⟨rfl,_,rfl,λv H=>QZ (by rw[hφ,h1]) H⟩
  |1=>
   simp only[mG,dH,af]at ty ⊢;subst ty;exact⟨rfl,_,rfl,λv H=>QZ (by rw[hφ,h2]) H⟩
  |q+2=>simp at ty
variable {S:kc}
def aiq {w:World} {p m1 m2 len:Nat} {A:η} (D:sq i (.qc z) (rnX len (.qc z) A)=Z S):∃b,sq j (.qc z) A=Z b/\xC V O w (ud i j p m1 m2 len) b S:=by
 have D:(if ah (fP (shf len) A)==0 then U else Z (kc.mk z (.mx (fP (λa=>AV.H (pL i a) 0) (fP (shf len) A)))))=Z S:=D;rw[bH]at D;show ∃b,(if ah A==0 then U else Z (kc.mk z (.mx (fP (λa=>AV.H (pL j a) 0) A))))=Z b/\_;split at D
 .cases D
 .rename_i L;rw[av L];cases D;refine ⟨_,rfl,λφ' O' hφ keep oo hoo=>xU (by simp) (λa x' ty=>?_) hoo⟩;rw[kN,aT]at ty;rw[aT];cases hjx:A[a]? with
  |none=>rw[hjx]at ty;cases ty
  |some nx=>
   rw[hjx]at ty;simp only[bm,Function.comp,af]at ty;subst ty;exact⟨rfl,_,rfl,λv N=>Cf (by rw[hφ,KH]) N⟩
def air {w:World} {p m1 m2 len:Nat} {es:Y e!} (L:sq i .qh (rnX len .qh es)=Z S):∃b,sq j .qh es=Z b/\xC V O w (ud i j p m1 m2 len) b S:=by
 cases L;refine ⟨_,rfl,λφ' O' hφ keep oo hoo=>?_⟩;obtain⟨A,z⟩:=EnR.get (Mh (R:=λx y=>∀v,cq V O w x v->cq φ' O' w y v) (a:=j) (nx:=i) (len:=len) (λa v D=>Cf (by rw[hφ,KH]) D) es);exact K7 A z hoo
def yX {nx a p m1 m2:Nat} (N:j/3<=i):(j/3<i/\ud nx a p m1 m2 i (jE nx (j+1))=jE a (j+1))\/(j/3=i/\j%3=0/\ud nx a p m1 m2 i (jE nx (j+1))=nm p)\/(j/3=i/\j%3=1/\ud nx a p m1 m2 i (jE nx (j+1))=nm m1)\/(j/3=i/\j%3=2/\ud nx a p m1 m2 i (jE nx (j+1))=nm m2):=by
 rw[xQ];by_cases L:j/3<i
 .exact .inl ⟨L,by rw[aC L]⟩
 .have A:j/3=i:=by omega
  rw[av L,aC A];by_cases z:j%3=0
  .exact .inr (.inl ⟨A,z,by rw[aC z]⟩)
  .by_cases D:j%3=1
   .exact .inr (.inr (.inl ⟨A,D,by rw[av z,aC D]⟩))
   .exact .inr (.inr (.inr ⟨A,by omega,by rw[av z,av D]⟩))
structure yM (s:TS) (h':a_) (o ai p m1 m2 len:Nat) (ty:TypeId) (S:Ty) (xs:List (BZ S)) (new:BZ S) (kk:ν) (es:List (ν×Int)):Prop where
 ho:s.h.get o=Z (.qm .qh ai es kk (Z (p,aa,0)))
 ha:∃a0,s.h.get ai=Z (.I (.ar ty S) a0 xs)
 hp:∃l,s.h.get p=Z (.C (Z ty) l)
 g1:∃K V es,s.h.get m1=Z (.mp K V es)
 g2:∃K V es,s.h.get m2=Z (.mp K V es)
 hmm:m1≠m2
 hlen:l! xs=len
 hg:∀i,h'.get i=if i=s.nx then Z (.I (.ar ty S) 0 (xs++[new]:List (BZ S))) else if i=m2\/i=m1\/i=p\/i=ai then Z (.qj J 0 0) else if i=o then Z (.I .qh s.nx (xV kk (aP len) (KK len es))) else (s.h.get i).map (rnF ai s.nx len)
section ady
variable {s:TS} {h':a_} {o ai p m1 m2 len:Nat} {ty:TypeId} {S:Ty} {xs:Y (BZ S)} {new:BZ S} {kk:ν} {es:Y e!} (t:yM s h' o ai p m1 m2 len ty S xs new kk es)
include t
def yM.ne:o≠ai/\o≠p/\o≠m1/\o≠m2/\p≠m1/\p≠m2:=by
 obtain⟨z,ha⟩:=t.ha;obtain⟨l,hp⟩:=t.hp;obtain⟨_,_,_,g1⟩:=t.g1;obtain⟨_,_,_,g2⟩:=t.g2;have ho:=t.ho;refine ⟨λe=>?_,λe=>?_,λe=>?_,λe=>?_,λe=>?_,λe=>?_⟩
 .rw[e,ha]at ho;cases ho
 .rw[e,hp]at ho;cases ho
 .rw[e,g1]at ho;cases ho
 .rw[e,g2]at ho;cases ho
 .rw[e,g1]at hp;cases hp
 .rw[e,g2]at hp;cases hp
def yM.F (hi:gW s.h s.nx):b7 s.h h':=λi r z=>by
 obtain⟨a0,ha⟩:=t.ha;obtain⟨l,hp⟩:=t.hp;obtain⟨_,_,_,g1⟩:=t.g1;obtain⟨_,_,_,g2⟩:=t.g2;have hfr:=hi.fresh;rw[bC]at z ⊢;rw[t.hg];by_cases N:i=s.nx
 .rw[N,hfr]at z;cases z
 .rw[av N];by_cases L:i=m2\/i=m1\/i=p\/i=ai
  .rcases L with rfl|rfl|rfl|rfl
   .rw[g2]at z;cases z
   .rw[g1]at z;cases z
   .rw[hp]at z;cases z
   .rw[ha]at z;cases z
  .rw[av L];by_cases D:i=o
   .rw[D,t.ho]at z;cases z
   .rw[av D];cases A:s.h.get i with
    |none=>rw[A]at z;cases z
    |some B=>rw[A]at z;simp only[bm,aB]at z ⊢;rw[aea];exact z
def yM.lows (hi:gW s.h s.nx):o<s.nx/\ai<s.nx/\p<s.nx/\m1<s.nx/\m2<s.nx:=by
 obtain⟨z,ha⟩:=t.ha;obtain⟨l,hp⟩:=t.hp;obtain⟨_,_,_,g1⟩:=t.g1;obtain⟨_,_,_,g2⟩:=t.g2;exact⟨hi.low o _ t.ho,hi.low ai _ ha,hi.low p _ hp,hi.low m1 _ g1,hi.low m2 _ g2⟩
def yM.inv (hi:gW s.h s.nx):gW h' (s.nx+1):=by
 have D:=t.F hi;obtain⟨N,la,L,l1,l2⟩:=t.lows hi;refine ⟨λi ty l hil=>?_,λi c' hic=>?_⟩
 .rw[t.hg]at hil;split at hil
  .cases hil
  .split at hil
   .cases hil
   .split at hil
    .cases hil
    .cases z:s.h.get i with
     |none=>rw[z]at hil;cases hil
     |some B=>
      rw[z]at hil;simp only[bm,af]at hil;cases B with
      |C ty2 A=>
       simp only[rnF,eP.C.injEq]at hil;obtain⟨_,rfl⟩:=hil;exact fd D A (hi.C i _ A z)
      |I F b x=>simp only[rnF]at hil;split at hil<;>cases hil
      |_=>cases hil
 .rw[t.hg]at hic;split at hic
  .omega
  .split at hic
   .omega
   .split at hic
    .omega
    .cases z:s.h.get i with
     |none=>rw[z]at hic;cases hic
     |some B=>have:=hi.low i B z;omega
def yM.qj (hi:gW s.h s.nx) (z:ow i=m2\/ow i=m1\/ow i=p\/ow i=ai):erHF h' i=U:=by
 obtain⟨D,la,A,N,L⟩:=t.lows hi;unfold erHF;rw[t.hg,av (by omega),aC z];simp only[aB];cases ix i<;>rfl
def yM.new0:erHF h' (nm s.nx)=U:=by rw[bL,t.hg,aC rfl];rfl
def yM.newN (k:Nat):erHF h' (jE s.nx (k+1))=oN s.nx k ty S (xs++[new]):=by rw[kH,t.hg,aC rfl];rfl
def yM.oldN (k:Nat):erHF s.h (jE ai (k+1))=oN ai k ty S xs:=by
 obtain⟨z,ha⟩:=t.ha;rw[kH,ha];rfl
def yM.gt (z:len<i/3):erHF h' (jE s.nx (i+1))=U:=by
 rw[t.newN];unfold oN;rw[bJ (by rw[bc,t.hlen];exact z)];rfl
def yM.lt {w:World} (L:i/3<len) {b':kc} (z:erHF h' (jE s.nx (i+1))=Z b'):∃b,erHF s.h (jE ai (i+1))=Z b/\xC V O w (ud s.nx ai p m1 m2 len) b b':=by
 rw[t.newN]at z;rw[t.oldN];unfold oN at z ⊢;rw[bj (by rw[t.hlen];exact L)]at z;cases A:xs[i/3]? with
 |none=>rw[A]at z;cases z
 |some ob=>
  rw[A]at z;simp only[bm,af]at z;subst z;exact⟨_,rfl,UH (λD=>YW (k:=i+1) (by omega)) (λD=>YW (k:=i+2) (by omega))⟩
def yM.eqB (z:i/3=len):erHF h' (jE s.nx (i+1))=Z (vX s.nx i ty S new):=by
 rw[t.newN];unfold oN;rw[z,<-t.hlen,uK];rfl
def yM.mapB {w:World} (hi:gW s.h s.nx) {b':kc} (z:erHF h' (nm o)=Z b'):∃b,erHF s.h (nm o)=Z b/\xC V O w (ud s.nx ai p m1 m2 len) b b':=by
 obtain⟨lo,_⟩:=t.lows hi;obtain⟨n1,n2,n3,N,_⟩:=t.ne;rw[bL,t.hg,av (by omega),av (by rintro (e|e|e|e)<;>omega),aC rfl]at z;cases z;rw[bL,t.ho];refine ⟨_,rfl,λφ' O' hφ keep oo hoo=>?_⟩;obtain⟨L,D⟩:=EnR.get (UQ (R:=λx y=>∀v,cq V O w x v->cq φ' O' w y v) (a:=ai) (nx:=s.nx) (len:=len) (λj v A=>Cf (by rw[hφ,KH]) A) (v:=.H (nm p) 0) (λv A=>Cf (by
  rw[hφ];show V (ud s.nx ai p m1 m2 len (jE s.nx (3*len+1)))=_;rw[xQ,av (by omega),aC (by omega),aC (by omega)]) A) kk es)
 exact K7 L D hoo
def yM.oth {w:World} (hi:gW s.h s.nx) (f0:ow i≠s.nx) (f1:¬(ow i=m2\/ow i=m1\/ow i=p\/ow i=ai)) (N:ow i≠o) {b':kc} (A:erHF h' i=Z b'):∃b,erHF s.h i=Z b/\xC V O w (ud s.nx ai p m1 m2 len) b b':=by
 have hr:=t.F hi;cases L:s.h.get (ow i) with
 |none=>
  unfold erHF at A;rw[t.hg,av f0,av f1,av N,L]at A;cases A
 |some B=>
  have z:NH h' (ow i) (ix i) (rnF ai s.nx len B)=Z b':=by
   unfold erHF at A;rw[t.hg,av f0,av f1,av N,L]at A;exact A
  have same:rnF ai s.nx len B=B->∃b,erHF s.h i=Z b/\xC V O w (ud s.nx ai p m1 m2 len) b b':=λe=>by
   rw[e,mm hr (λty l e=>hi.C _ _ l (by rw[L,e]))]at z;exact⟨b',by unfold erHF;rw[L];exact z,xC.refl b'⟩
  cases B with
  |I F b x=>
   by_cases D:(ar2 F&&aA b ai)=J
   .have e0:rnF ai s.nx len (.I F b x)= .I F s.nx (rnX len F x):=by simp only[rnF];rw[aC D]
    rw[e0]at z;simp only[ak]at D;have hba:=au D.2;subst hba;cases hix:ix i with
    |succ k=>rw[hix]at z;cases F<;>first|cases z|cases D.1
    |zero=>
     rw[hix]at z;have z:sq s.nx F (rnX len F x)=Z b':=z;have hsrc:erHF s.h i=sq b F x:=by unfold erHF;rw[L,hix];rfl
     rw[hsrc];cases F with
     |qc tyo=>exact aiq z
     |qh=>exact air z
     |_=>cases D.1
   .exact same (by simp only[rnF];rw[av D])
  |_=>exact same rfl
def yM.key {b:kc} (z:erHF h' i=Z b) (D:ow i=s.nx):∃k,i=jE s.nx (k+1)/\k/3<=len:=by
 cases hix:ix i with
 |zero=>rw[px hix,D,t.new0]at z;cases z
 |succ k=>
  have en:i=jE s.nx (k+1):=by rw[<- D,<-hix,kO]
  refine ⟨k,en,?_⟩;subst en;rcases bx len (k/3) with A|A
  .rw[t.gt A]at z;cases z
  .exact A
def yM.dS (hi:gW s.h s.nx) (z:i/3<=len):erHF h' (ud s.nx ai p m1 m2 len (jE s.nx (i+1)))=U:=by
 refine t.qj hi ?_;rcases yX (nx:=s.nx) (a:=ai) (p:=p) (m1:=m1) (m2:=m2) z with ⟨_,e⟩|⟨_,_,e⟩|⟨_,_,e⟩|⟨_,_,e⟩<;>rw[e]
 .rw[iJ];exact .inr (.inr (.inr rfl))
 .rw[dc];exact .inr (.inr (.inl rfl))
 .rw[dc];exact .inr (.inl rfl)
 .rw[dc];exact .inl rfl
def yM.inj1 (A:i/3<=len) (z:j/3<=len) (he:ud s.nx ai p m1 m2 len (jE s.nx (i+1))=ud s.nx ai p m1 m2 len (jE s.nx (j+1))):i=j:=by
 obtain⟨_,_,_,_,N,L⟩:=t.ne;have D:=t.hmm;rcases yX (nx:=s.nx) (a:=ai) (p:=p) (m1:=m1) (m2:=m2) A with ⟨_,e⟩|⟨_,_,e⟩|⟨_,_,e⟩|⟨_,_,e⟩<;>rcases yX (nx:=s.nx) (a:=ai) (p:=p) (m1:=m1) (m2:=m2) z with ⟨_,e'⟩|⟨_,_,e'⟩|⟨_,_,e'⟩|⟨_,_,e'⟩<;>rw[e,e']at he<;>clear e e'<;>first|omega|(have:=(uN he).2;omega)|(have:=ug he;omega)
def yM.inj (hi:gW s.h s.nx) {b b':kc} (z:erHF h' i=Z b) (hm:erHF h' j=Z b') (he:ud s.nx ai p m1 m2 len i=ud s.nx ai p m1 m2 len j):i=j:=by
 have D:∀i,ow i≠s.nx->ud s.nx ai p m1 m2 len i=i:=λi z=>by unfold ud;rw[av z]
 by_cases f0:ow i=s.nx
 .obtain⟨k,rfl,N⟩:=t.key z f0;by_cases A:ow j=s.nx
  .obtain⟨q,rfl,L⟩:=t.key hm A;rw[t.inj1 N L he]
  .rw[D j A]at he;rw[<- he,t.dS hi N]at hm;cases hm
 .rw[D i f0]at he;by_cases A:ow j=s.nx
  .obtain⟨q,rfl,L⟩:=t.key hm A;rw[he,t.dS hi L]at z;cases z
  .rw[D j A]at he;exact he
def yM.cfg {w:World} (c:jA P E nt np V s Q w) {la:Y AV} (bp:erHF s.h (nm p)=Z ⟨ty,.mx (la++[.mp (nm m1),.mp (nm m2)])⟩) (hle:gL (erHF s.h) (erHF s.h) la ((bN S new.1).map .f)) (b1:erHF s.h (nm m1)=Z ⟨0,.mp (G1 new.2.1)⟩) (b2:erHF s.h (nm m2)=Z ⟨0,.mp (G1 new.2.2)⟩):∃φ',jA P E nt np φ' ⟨s.e,h',s.nx+1⟩ Q w/\xc np V φ' (erHF s.h) (erHF h') w w:=by
 have hi:=c.qz;have hs:∀n,ow n≠s.nx->ud s.nx ai p m1 m2 len n=n:=λn L=>by unfold ud;rw[av L]
 refine J8 c (ud s.nx ai p m1 m2 len) hs (t.F hi) (t.inv hi) (λn b' z=>?_) λn m b b' L hm he=>t.inj hi L hm he
 by_cases D:ow n=s.nx
 .obtain⟨k,rfl,hk⟩:=t.key z D;rcases yX (nx:=s.nx) (a:=ai) (p:=p) (m1:=m1) (m2:=m2) hk with ⟨g,e⟩|⟨g,A,e⟩|⟨g,A,e⟩|⟨g,A,e⟩<;>rw[e]
  .exact t.lt g z
  .rw[t.eqB g,af]at z;subst z;refine ⟨_,bp,ag1 c.qn A hle ?_ ?_⟩
   .rw[xQ,av (by omega),aC (by omega),av (by omega),aC (by omega)]
   .rw[xQ,av (by omega),aC (by omega),av (by omega),av (by omega)]
  .rw[t.eqB g,af]at z;subst z;refine ⟨_,b1,?_⟩;unfold vX;rw[av (by omega),aC A];exact xC.refl _
  .rw[t.eqB g,af]at z;subst z;refine ⟨_,b2,?_⟩;unfold vX;rw[av (by omega),av (by omega)];exact xC.refl _
 .rw[hs n D];by_cases f1:ow n=m2\/ow n=m1\/ow n=p\/ow n=ai
  .rw[t.qj hi f1]at z;cases z
  .by_cases N:ow n=o
   .cases hix:ix n with
    |succ k=>
     unfold erHF at z;rw[t.hg,av D,av f1,aC N,hix]at z;cases z
    |zero=>
     have en:n=nm o:=by rw[<- N];exact px hix
     subst en;exact t.mapB hi z
   .exact t.oth hi D f1 N z
end ady
def an9 {s:TS} {w:World} (c:jA P E nt np V s Q w) {p:Nat} {kk:ν} {es:Y e!} (ho:s.h.get i=Z (.qm .qh j es kk (Z (p,aa,0)))) {s':TS} (h:ady s i j p kk es=Z s'):s'.e=s.e/\∃φ',jA P E nt np φ' s' Q w/\xc np V φ' (erHF s.h) (erHF s'.h) w w:=by
 unfold ady at h;split at h
 .rename_i ty S a0 xs ty' l ha hp;split at h
  .rename_i hty;have hty:=eq_of_beq hty;subst hty;split at h
   .rename_i z m m1 m2 hpk;split at h
    .rename_i e1 e2 hm1 hm2;split at h
     .rename_i hq;simp only[ak,cV]at hq;obtain⟨q1,q2⟩:=hq;have q1:=au q1;subst q1;have hmm:m1≠m2:=λe=>by rw[e,eW]at q2;cases q2
      obtain⟨b1,K1,V1,es1,g1⟩:=Zm hm1;obtain⟨b2,K2,V2,es2,g2⟩:=Zm hm2;cases h;refine ⟨rfl,?_⟩;obtain⟨l',A⟩:=eX s.h l (c.qz.C p _ l hp);obtain⟨la1,la2,hlap,hla2,hle⟩:=rq (rh.refl (erHF s.h)) 40 S l z 0 _ l' hpk A Eo.zero;have hla2:la2=[.mp (nm m1),.mp (nm m2)]:=by simp only[cP,b9,af]at hla2;exact hla2.symm
      have bp:erHF s.h (nm p)=Z ⟨ty',.mx (la1++[.mp (nm m1),.mp (nm m2)])⟩:=by rw[bL,hp];simp only[aB,jR,A];rw[hlap,hla2]
      refine yM.cfg (o:=i) (ai:=j) (p:=p) (m1:=m1) (m2:=m2) (len:=ah (α:=BZ S) xs) (ty:=ty') (S:=S) (xs:=xs) (new:=(z,e1,e2)) (kk:=kk) (es:=es) ⟨ho,⟨a0,ha⟩,⟨l,hp⟩,⟨_,_,_,g1⟩,⟨_,_,_,g2⟩,hmm,rfl,λo=>?_⟩ c bp hle b1 b2;rw[PT.get_set,PT.get_set,PT.get_set,PT.get_set,PT.get_set,PT.get_set,PT.get_updI];by_cases f0:o=s.nx
      .rw[aC f0,aC f0];rfl
      .rw[av f0,av f0];by_cases f1:o=m2
       .rw[aC f1,aC (.inl f1)]
       .rw[av f1];by_cases N:o=m1
        .rw[aC N,aC (.inr (.inl N))]
        .rw[av N];by_cases L:o=p
         .rw[aC L,aC (.inr (.inr (.inl L)))]
         .rw[av L];by_cases D:o=j
          .rw[aC D,aC (.inr (.inr (.inr D)))]
          .rw[av D,av (λe:o=m2\/o=m1\/o=p\/o=j=>e.elim f1 λe=>e.elim N λe=>e.elim L D)]
     .cases h
    .cases h
   .cases h
  .cases h
 .cases h
def XS {n:Nat} {ty:TypeId} {xss:Y (Y T.den)} {xs:Y T.den} (h:l! xss<=i):pq i ty T (xss.set n xs)=U:=by
 unfold pq;rw[bJ (by rw[fL];exact h)];rfl
def GG (nx a r j n:Nat):Nat:=if ow n=nx then (match ix n with
 |0=>n
 |k+1=>if k=j then nm r else jE a (k+1)) else n
def xP (nx a r j k:Nat):GG nx a r j (jE nx (k+1))=if k=j then nm r else jE a (k+1):=by
 unfold GG;rw[iJ,vN,aC rfl]
def an7 {s:TS} {w:World} (c:jA P E nt np V s Q w) {r n:Nat} {kk:ν} {ty:Nat} {N:η} (ho:s.h.get i=Z (.qm (.rr z ty) j N kk (Z (r,J,n)))) {s':TS} (h:an8 s i j r n kk.1 z ty N=Z s'):s'.e=s.e/\∃φ',jA P E nt np φ' s' Q w/\xc np V φ' (erHF s.h) (erHF s'.h) w w:=by
 unfold an8 at h;split at h
 .rename_i ty2 T a0 xss ty3 p S xs ha hrr;split at h
  .rename_i xs' hxs;split at h
   .rename_i hty;have hty:=eq_of_beq hty;subst hty;cases h;refine ⟨rfl,?_⟩;obtain⟨ee,exs⟩:=gV hxs;cases ee;have exs:xs'=xs:=exs;subst exs;have hfr:=c.qz.fresh;have lo:=c.qz.low i _ ho;have la:=c.qz.low j _ ha;have lr:=c.qz.low r _ hrr;have n1:i≠j:=λe=>by rw[e,ha]at ho;cases ho
    have n2:i≠r:=λe=>by rw[e,hrr]at ho;cases ho
    have n3:j≠r:=λe=>by rw[e,hrr]at ha;cases ha
    generalize hjj:kk.1.toNat=ai;generalize hh':(((s.h.set i (Z (.I (.rr z ty) s.nx (wj (α:=Int) N ai (aP n))))).set j (Z (.qj J 0 0))).set r (Z (.qj p T.size (ah xs')))).set s.nx (Z (.I (.ir ty3 T) 0 (DG (T:=T) xss kk.1 xs')))=h';have hg:∀o,h'.get o=if o=s.nx then Z (.I (.ir ty3 T) 0 (DG (T:=T) xss kk.1 xs')) else if o=r then Z (.qj p T.size (ah xs')) else if o=j then Z (.qj J 0 0) else if o=i then Z (.I (.rr z ty) s.nx (wj (α:=Int) N ai (aP n))) else s.h.get o:=λo=>by
     rw[<- hh',PT.get_set,PT.get_set,PT.get_set,PT.get_set]
    have hdead:∀n,ow n=r\/ow n=j->erHF h' n=U:=λn hn=>by
     unfold erHF;rcases hn with e|e
     .rw[hg,av (by omega),aC e];simp only[aB];cases ix n<;>rfl
     .rw[hg,av (by omega),av (by omega),aC e];simp only[aB];cases ix n<;>rfl
    have hr:b7 s.h h':=λo q hi=>by
     rw[bC]at hi ⊢;rw[hg];by_cases L:o=s.nx
     .rw[L,hfr]at hi;cases hi
     .rw[av L];by_cases f1:o=r
      .rw[aC f1];rw[f1,hrr]at hi;exact hi
      .rw[av f1];by_cases f2:o=j
       .rw[f2,ha]at hi;cases hi
       .rw[av f2];by_cases f3:o=i
        .rw[aC f3];rw[f3,ho]at hi;simp only[aB,iG,rV,fL]at hi ⊢;exact hi
        .rw[av f3];exact hi
    have hinv:gW h' (s.nx+1):=by
     refine ⟨λo z l hil=>?_,λo c' hic=>?_⟩
     .rw[hg]at hil;split at hil
      .cases hil
      .split at hil
       .cases hil
       .split at hil
        .cases hil
        .split at hil
         .cases hil
         .exact fd hr l (c.qz.C o _ l hil)
     .rw[hg]at hic;split at hic
      .omega
      .split at hic
       .omega
       .split at hic
        .omega
        .split at hic
         .omega
         .have:=c.qz.low o c' hic;omega
    have hmN:∀k,erHF h' (jE s.nx (k+1))=pq k ty3 T (wj xss ai xs'):=λk=>by
     rw[kH,hg,aC rfl,<-hjj];rfl
    have hmO:∀k,erHF s.h (jE j (k+1))=pq k ty3 T xss:=λk=>by rw[kH,ha];rfl
    have hn0:erHF h' (nm s.nx)=U:=by rw[bL,hg,aC rfl];rfl
    refine J8 c (GG s.nx j r ai) (λn hn=>by unfold GG;rw[av hn]) hr hinv ?_ ?_
    .intro q b' A;by_cases L:ow q=s.nx
     .cases hix:ix q with
      |zero=>rw[px hix,L,hn0]at A;cases A
      |succ k=>
       have en:q=jE s.nx (k+1):=by rw[<- L,<-hix,kO]
       subst en;rw[hmN]at A;rw[xP];by_cases hk:k=ai
       .rw[aC hk];subst hk;refine ⟨b',?_,λφ' O' hφ keep oo hoo=>hoo.mono keep⟩;rw[bL,hrr];have hl:k<ah (α:=Y T.den) xss:=by
         rcases bx k (ah (α:=Y T.den) xss) with h1|h1
         .exact h1
         .have A:=(XS (ty:=ty3) (T:=T) (xss:=xss) (xs:=xs') (n:=k) h1).symm.trans A;cases A
        have A:=(L_ (ty:=ty3) (T:=T) (xss:=xss) (xs:=xs') hl).symm.trans A;unfold XR at A;split at A
        .cases A
        .rename_i hz;simp only[aB,jR];rw[av (by rw[ak];exact λe=>hz e.2)];exact A
       .rw[av hk,hmO];exact⟨b',(Ho (ty:=ty3) (T:=T) (xss:=xss) (xs:=xs') hk).symm.trans A,λφ' O' hφ keep oo hoo=>hoo.mono keep⟩
     .have hs:GG s.nx j r ai q=q:=by unfold GG;rw[av L]
      rw[hs];by_cases f1:ow q=r\/ow q=j
      .rw[hdead q f1]at A;cases A
      .have f1a:ow q≠r:=λe=>f1 (.inl e)
       have f1b:ow q≠j:=λe=>f1 (.inr e)
       by_cases f2:ow q=i
       .cases hix:ix q with
        |succ k=>
         unfold erHF at A;rw[hg,av L,av f1a,av f1b,aC f2,hix]at A;cases A
        |zero=>
         have en:q=nm i:=by rw[<- f2];exact px hix
         subst en;rw[dc]at f1a f1b;rw[bL,hg,av (by omega),av f1a,av f1b,aC rfl]at A;have A:Z (kc.mk z (.mx (lQ s.nx ty 0 (wj (α:=Int) N ai (aP n)))))=Z b':=A;cases A;rw[bL,ho];refine ⟨⟨z,.mx ((lQ j ty 0 N).set kk.1.toNat (dm J r ty n))⟩,rfl,λφ' O' hφ keep oo hoo=>?_⟩;rw[hjj]at hoo;have cl:∀(Q k l:Nat),(ue Q k ty l).isCell=J:=λQ k l=>by unfold ue;split<;>rfl
         refine xU (by rw[fL,lh,lh,fL]) (λo x' D=>?_) hoo;have D:=D.symm.trans (xS s.nx ty (wj (α:=Int) N ai (aP n)) 0 o);rw[bF,c6]at D;by_cases hij:ai=o
         .subst hij;rw[aC rfl]at D;by_cases hl:ai<ah (α:=Int) N
          .rw[aC hl]at D;simp only[bm,af]at D;subst D;refine ⟨cl _ _ _,_,by rw[c6,aC rfl,aC (by rw[lh];exact hl)],λv hv=>?_⟩;have hn2:(aP n).toNat=n:=rfl;rw[hn2];unfold dm at hv;unfold ue;by_cases hz:n=0
           .rw[aC (by simpa using hz)]at hv ⊢;exact keep _ _ hv
           .rw[av (by simpa using hz)]at hv ⊢;exact J6 (by rw[hφ,xP,aC rfl]) hv
          .rw[av hl]at D;cases D
         .rw[av hij]at D;cases hli:(N:η)[o]? with
          |none=>
           have D:Z x'=ii _ ((N:η)[o]?):=D;rw[hli]at D;cases D
          |some l=>
           have D:Z x'=ii _ ((N:η)[o]?):=D;rw[hli]at D;simp only[bm,af]at D;subst D;refine ⟨cl _ _ _,ue j o ty l.toNat,?_,λv hv=>?_⟩
           .rw[c6,av hij];have:=xS j ty N 0 o;rw[bF]at this;refine this.trans ?_;show ii _ ((N:η)[o]?)=_;rw[hli];rfl
           .unfold ue at hv ⊢;by_cases hz:l.toNat=0
            .rw[aC (by simpa using hz)]at hv ⊢;exact keep _ _ hv
            .rw[av (by simpa using hz)]at hv ⊢;exact J6 (by rw[hφ,xP,av (λe=>hij e.symm)]) hv
       .have hb2:(s.h.get (ow q)).bind (NH h' (ow q) (ix q))=Z b':=by
         unfold erHF at A;rw[hg,av L,av f1a,av f1b,av f2]at A;exact A
        cases hx:s.h.get (ow q) with
        |none=>rw[hx]at hb2;cases hb2
        |some B=>
         rw[hx]at hb2;simp only[aB]at hb2;rw[mm hr (λz l e=>c.qz.C _ _ l (by rw[hx,e]))]at hb2;exact⟨b',by unfold erHF;rw[hx];exact hb2,λφ' O' hφ keep oo hoo=>hoo.mono keep⟩
    .intro q m b b' hn hm he;have key:∀n b,erHF h' n=Z b->ow n=s.nx->∃k,n=jE s.nx (k+1):=λn b hn L=>by
      cases hix:ix n with
      |zero=>rw[px hix,L,hn0]at hn;cases hn
      |succ k=>exact⟨k,by rw[<- L,<-hix,kO]⟩
     have dS:∀k,erHF h' (GG s.nx j r ai (jE s.nx (k+1)))=U:=λk=>by
      refine hdead _ ?_;rw[xP];split
      .rw[dc];exact .inl rfl
      .rw[iJ];exact .inr rfl
     by_cases L:ow q=s.nx
     .obtain⟨k,rfl⟩:=key q b hn L;by_cases f1:ow m=s.nx
      .obtain⟨k2,rfl⟩:=key m b' hm f1;rw[xP,xP]at he;have:k=k2:=by
        split at he<;>split at he
        .omega
        .have:=(uN he).2;omega
        .have:=(uN he).2;omega
        .have:=(uN he).2;omega
       rw[this]
      .rw[show GG s.nx j r ai m=m from by unfold GG;rw[av f1]]at he;rw[<- he,dS k]at hm;cases hm
     .rw[show GG s.nx j r ai q=q from by unfold GG;rw[av L]]at he;by_cases f1:ow m=s.nx
      .obtain⟨k2,rfl⟩:=key m b' hm f1;rw[he,dS k2]at hn;cases hn
      .rw[show GG s.nx j r ai m=m from by unfold GG;rw[av f1]]at he;exact he
   .cases h
  .cases h
 .cases h
def AG (nx a n:Nat):Nat:=if ow n=nx then jE a (ix n) else n
def xR (nx a k:Nat):AG nx a (jE nx k)=jE a k:=by
 unfold AG;rw[iJ,vN,aC rfl]
def ae9 (a n:Nat) (B:eP):iG (rnG a n B)=iG B:=by
 cases B with
 |I F b x=>
  simp only[rnG];split<;>rfl
 |_=>rfl
def Lx {F:tZ} (h:afg F=J):(∃ty S,F= .ar ty S)\/∃ty T,F= .ir ty T:=by
 cases F with
 |ar ty S=>exact .inl ⟨ty,S,rfl⟩
 |ir ty T=>exact .inr ⟨ty,T,rfl⟩
 |_=>cases h
def aba {w:World} {k:Nat} {F:tZ} {x:F.ty.den} (z:By i k F x=Z S):∃b,By j k F x=Z b/\xC V O w (AG i j) b S:=by
 cases F with
 |ar ty b'=>
  simp only[By,oN]at z ⊢;obtain⟨ob,h1,A⟩:=dv.1 z;subst A;exact⟨_,dv.2 ⟨ob,h1,rfl⟩,UH (λ_=>xR i j _) (λ_=>xR i j _)⟩
 |ir ty T=>exact⟨S,z,xC.refl _⟩
 |_=>cases z
def PK {R:AV->AV->Prop} {a nx:Nat} (z:∀j,R (.H (pL a j) 0) (.H (pL nx j) 0)):∀es:Y e!,EnR R (wA a es) (wA nx es)
 |[]=>trivial
 |e::r=>⟨rfl,z e.2,PK z r⟩
def aeo {w:World} {A:η} (D:sq i (.qc z) A=Z S):∃b,sq j (.qc z) A=Z b/\xC V O w (AG i j) b S:=by
 have hob:∀a,AG i j (pL i a)=pL j a:=λa=>xR i j _
 have D:(if ah A==0 then U else Z (kc.mk z (.mx (fP (λa=>AV.H (pL i a) 0) A))))=Z S:=D;show ∃b,(if ah A==0 then U else Z (kc.mk z (.mx (fP (λa=>AV.H (pL j a) 0) A))))=Z b/\_;split at D
 .cases D
 .rename_i L;rw[av L];cases D;refine ⟨_,rfl,λφ' O' hφ keep oo hoo=>xU (by simp) (λa x' ty=>?_) hoo⟩;rw[aT]at ty ⊢;cases hjx:A[a]? with
  |none=>rw[hjx]at ty;cases ty
  |some nx=>
   rw[hjx]at ty;simp only[bm,af]at ty;subst ty;exact⟨rfl,_,rfl,λv N=>Cf (by rw[hφ,hob]) N⟩
def aer {w:World} {es:Y e!} (L:sq i .qh es=Z S):∃b,sq j .qh es=Z b/\xC V O w (AG i j) b S:=by
 have hob:∀a,AG i j (pL i a)=pL j a:=λa=>xR i j _
 cases L;refine ⟨_,rfl,λφ' O' hφ keep oo hoo=>?_⟩;obtain⟨A,z⟩:=EnR.get (PK (R:=λx y=>∀v,cq V O w x v->cq φ' O' w y v) (a:=j) (nx:=i) (λa v D=>Cf (by rw[hφ,hob]) D) es);exact K7 A z hoo
def aii {w:World} {ty:Nat} {L:η} (N:sq i (.rr z ty) L=Z S):∃b,sq j (.rr z ty) L=Z b/\xC V O w (AG i j) b S:=by
 have N:Z (kc.mk z (.mx (lQ i ty 0 L)))=Z S:=N;cases N;refine ⟨_,rfl,λφ' O' hφ keep oo hoo=>xU (by rw[lh,lh]) (λa x' A=>?_) hoo⟩;rw[xS]at A ⊢;cases hjx:L[a]? with
 |none=>rw[hjx]at A;cases A
 |some l=>
  rw[hjx]at A;simp only[bm,af]at A;subst A;refine ⟨by unfold ue;split<;>rfl,ue j (0+a) ty l.toNat,rfl,λv D=>?_⟩;unfold ue at D ⊢;by_cases hz:(l.toNat==0)=J
  .rw[aC hz]at D ⊢;exact keep _ _ D
  .rw[av hz]at D ⊢;exact J6 (by rw[hφ,xR]) D
def abd {w:World} {F:tZ} {x:F.ty.den} (A:sq i F x=Z S):∃b,sq j F x=Z b/\xC V O w (AG i j) b S:=by
 cases F with
 |qc ty=>exact aeo A
 |qh=>exact aer A
 |rr ty z=>exact aii A
 |_=>cases A
def ana {s:TS} {w:World} (c:jA P E nt np V s Q w) {s':TS} (h:anb s i=Z s'):s'.e=s.e/\∃φ',jA P E nt np φ' s' Q w/\xc np V φ' (erHF s.h) (erHF s'.h) w w:=by
 unfold anb at h;split at h
 .rename_i F a0 x ha;split at h
  .rename_i hF;cases h;refine ⟨rfl,?_⟩;have hfr:=c.qz.fresh;have la:=c.qz.low i _ ha;have hi:=c.qz;generalize hh':((PT.updI (λ_ b=>rnG i s.nx b) 1 0 s.h).set i (Z (.qj J 0 0))).set s.nx (Z (.I F 0 x))=h';have hg:∀ai,h'.get ai=if ai=s.nx then Z (.I F 0 x) else if ai=i then Z (.qj J 0 0) else (s.h.get ai).map (rnG i s.nx):=λai=>by
    rw[<- hh',PT.get_set,PT.get_set,PT.get_updI]
   have hF0:rV F x=U:=by rcases Lx hF with ⟨_,_,rfl⟩|⟨_,_,rfl⟩<;>rfl
   have hFB:∀q,sq q F x=U:=λq=>by rcases Lx hF with ⟨_,_,rfl⟩|⟨_,_,rfl⟩<;>rfl
   have hr:b7 s.h h':=λai q hq=>by
    rw[bC]at hq ⊢;rw[hg];by_cases L:ai=s.nx
    .rw[L,hfr]at hq;cases hq
    .rw[av L];by_cases N:ai=i
     .rw[N,ha]at hq;simp only[aB,iG,hF0]at hq;cases hq
     .rw[av N];cases D:s.h.get ai with
      |none=>rw[D]at hq;cases hq
      |some B=>rw[D]at hq;simp only[bm,aB]at hq ⊢;rw[ae9];exact hq
   have hinv:gW h' (s.nx+1):=by
    refine ⟨λai ty l hil=>?_,λai c' hic=>?_⟩
    .rw[hg]at hil;split at hil
     .cases hil
     .split at hil
      .cases hil
      .cases D:s.h.get ai with
       |none=>rw[D]at hil;cases hil
       |some B=>
        rw[D]at hil;simp only[bm,af]at hil;cases B with
        |C ty2 l3=>
         simp only[rnG,eP.C.injEq]at hil;obtain⟨_,rfl⟩:=hil;exact fd hr l3 (hi.C ai _ l3 D)
        |I F b x=>simp only[rnG]at hil;split at hil<;>cases hil
        |_=>cases hil
    .rw[hg]at hic;split at hic
     .omega
     .split at hic
      .omega
      .cases D:s.h.get ai with
       |none=>rw[D]at hic;cases hic
       |some B=>have:=hi.low ai B D;omega
   have hdead:∀n,ow n=i->erHF h' n=U:=λn hn=>by
    unfold erHF;rw[hg,av (by omega),aC hn];simp only[aB];cases ix n<;>rfl
   have hn0:erHF h' (nm s.nx)=U:=by
    rw[bL,hg,aC rfl];exact hFB _
   have hmN:∀k,erHF h' (jE s.nx (k+1))=By s.nx k F x:=λk=>by rw[kH,hg,aC rfl];rfl
   have hmO:∀k,erHF s.h (jE i (k+1))=By i k F x:=λk=>by rw[kH,ha];rfl
   refine J8 c (AG s.nx i) (λn hn=>by unfold AG;rw[av hn]) hr hinv (λn b' z=>?_) λn m b b' hn hm he=>?_
   .by_cases L:ow n=s.nx
    .cases hix:ix n with
     |zero=>rw[px hix,L,hn0]at z;cases z
     |succ k=>
      have en:n=jE s.nx (k+1):=by rw[<- L,<-hix,kO]
      subst en;rw[hmN]at z;rw[xR,hmO];exact aba z
    .have hs:AG s.nx i n=n:=by unfold AG;rw[av L]
     rw[hs];by_cases N:ow n=i
     .rw[hdead n N]at z;cases z
     .cases D:s.h.get (ow n) with
      |none=>
       unfold erHF at z;rw[hg,av L,av N,D]at z;cases z
      |some B=>
       have A:NH h' (ow n) (ix n) (rnG i s.nx B)=Z b':=by
        unfold erHF at z;rw[hg,av L,av N,D]at z;exact z
       have same:rnG i s.nx B=B->∃b,erHF s.h n=Z b/\xC V (tot E V (erHF s.h)) w (AG s.nx i) b b':=λe=>by
        rw[e,mm hr (λty l e=>hi.C _ _ l (by rw[D,e]))]at A;exact⟨b',by unfold erHF;rw[D];exact A,xC.refl b'⟩
       cases B with
       |I G b y=>
        by_cases hc:(!(afg G)&&aA b i)=J
        .have e0:rnG i s.nx (.I G b y)= .I G s.nx y:=by simp only[rnG];rw[aC hc]
         rw[e0]at A;simp only[ak,cV]at hc;have hba:=au hc.2;subst hba;cases hix:ix n with
         |succ k=>
          rw[hix]at A;cases G with
          |ar ty S|ir ty T=>cases hc.1
          |_=>cases A
         |zero=>
          rw[hix]at A;have A:sq s.nx G y=Z b':=A;have hsrc:erHF s.h n=sq b G y:=by unfold erHF;rw[D,hix];rfl
          rw[hsrc];exact abd A
        .exact same (by simp only[rnG];rw[av hc])
       |_=>exact same rfl
   .have hs:∀n,ow n≠s.nx->AG s.nx i n=n:=λn hn=>by unfold AG;rw[av hn]
    have key:∀n b,erHF h' n=Z b->ow n=s.nx->AG s.nx i n=jE i (ix n):=λn b hn L=>by unfold AG;rw[aC L]
    by_cases L:ow n=s.nx
    .rw[key n b hn L]at he;by_cases N:ow m=s.nx
     .rw[key m b' hm N]at he;rw[<- kO n,<-kO m,L,N,(uN he).2]
     .rw[hs m N]at he;rw[<- he,hdead _ (iJ ..)]at hm;cases hm
    .rw[hs n L]at he;by_cases N:ow m=s.nx
     .rw[key m b' hm N]at he;rw[he,hdead _ (iJ ..)]at hn;cases hn
     .rw[hs m N]at he;exact he
  .cases h
 .cases h
def and {s:TS} {w:World} (c:jA P E nt np V s Q w) {id:Nat} {l:Y TV} (hb:s.h.get i=Z (.C (Z z) l)) (hv:l[j]? =Z (.G id)) {ty:TypeId} {ai:Nat} {A:η} (L:s.h.get id=Z (.I (.qc ty) ai A)):∃φ',jA P E nt np φ' ⟨s.e,((s.h.set id (Z (.qj J 1 (ah A)))).set s.nx (Z (.I (.qc ty) ai A))).set i (Z (.C (Z z) (splice l j [.G s.nx]))),s.nx+1⟩ Q w/\xc np V φ' (erHF s.h) (erHF (((s.h.set id (Z (.qj J 1 (ah A)))).set s.nx (Z (.I (.qc ty) ai A))).set i (Z (.C (Z z) (splice l j [.G s.nx]))))) w w:=by
 have hfr:=c.qz.fresh;have hidlt:=c.qz.low id _ L;have hblt:=c.qz.low i _ hb;have hbid:i≠id:=λe=>by rw[e,L]at hb;cases hb
 have hbn:i≠s.nx:=by omega
 have hin:id≠s.nx:=by omega
 generalize hh2:(((s.h.set id (Z (.qj J 1 (ah A)))).set s.nx (Z (.I (.qc ty) ai A))).set i (Z (.C (Z z) (splice l j [.G s.nx]))))=h2;have j9:∀b,h2.get b=if b=i then Z (.C (Z z) (splice l j [.G s.nx])) else if b=s.nx then Z (.I (.qc ty) ai A) else if b=id then Z (.qj J 1 (ah A)) else s.h.get b:=λb=>by
  rw[<- hh2,PT.get_set,PT.get_set,PT.get_set]
 have hr:b7 s.h h2:=λb r hi=>by
  rw[bC]at hi ⊢;rw[j9];by_cases e1:b=i
  .subst e1;rw[hb]at hi;cases hi
  .rw[av e1];by_cases e2:b=s.nx
   .subst e2;rw[hfr]at hi;cases hi
   .rw[av e2];by_cases e3:b=id
    .subst e3;rw[aC rfl];rw[L]at hi;exact hi
    .rw[av e3];exact hi
 have hlo:=c.qz.C i _ l hb;obtain⟨l',hl'⟩:=eX s.h l hlo;have hrow:b9 h2 (.G s.nx)=Z (dm J s.nx 1 (l! A)):=by
  simp only[b9,bC,j9];rw[av hbn.symm];simp only[bk,aB,iG,rV]
 have hsp:cP h2 (splice l j [.G s.nx])=Z (splice l' j [dm J s.nx 1 (l! A)]):=oO _ (fY hr _ _ hl') (by simp only[cP,hrow]);obtain⟨y,hy,hey⟩:=lF hl' _ _ hv;have hy0:y=dm J id 1 (l! A):=by
  simp only[b9,bC,L,aB,iG,rV,af]at hey;exact hey.symm
 subst hy0;have hinv:gW h2 (s.nx+1):=by
  refine ⟨λb ty2 l2 hil=>?_,λb q hiq=>?_⟩
  .rw[j9]at hil;split at hil
   .simp only[af,eP.C.injEq]at hil;obtain⟨_,rfl⟩:=hil;exact kQ _ _ _ hsp
   .split at hil
    .cases hil
    .split at hil
     .cases hil
     .exact fd hr l2 (c.qz.C b _ l2 hil)
  .rw[j9]at hiq;split at hiq
   .omega
   .split at hiq
    .omega
    .split at hiq
     .omega
     .have:=c.qz.low b q hiq;omega
 have hdead:∀n,ow n=id->erHF h2 n=U:=λn hn=>by
  unfold erHF;rw[j9,av (by omega),av (by omega),aC hn];simp only[aB];cases ix n<;>rfl
 have hm0:∀n k,ow n=s.nx->ix n=k+1->erHF h2 n=U:=λn k hn hk=>by
  unfold erHF;rw[j9,av (by omega),aC hn,hk];rfl
 refine J8 c (λn=>if n=nm s.nx then nm id else n) (λn hn=>by rw[av (λe=>hn (by rw[e,dc]))]) hr hinv (λn b' cty=>?_) λn m p q hn hm he=>?_
 .show ∃i,erHF s.h (if n=nm s.nx then nm id else n)=Z i/\_;by_cases f0:ow n=s.nx
  .cases hix:ix n with
   |succ k=>rw[hm0 n k f0 hix]at cty;cases cty
   |zero=>
    have en:n=nm s.nx:=by rw[<- f0];exact px hix
    rw[aC en];subst en;rw[bL,j9,av hbn.symm,aC rfl]at cty;rw[bL,L];exact⟨b',cty,λφ' O' hφ keep oo hoo=>hoo.mono keep⟩
  .have en:n≠nm s.nx:=λe=>f0 (by rw[e,dc])
   rw[av en];by_cases N:ow n=id
   .rw[hdead n N]at cty;cases cty
   .by_cases f2:ow n=i
    .cases hix:ix n with
     |succ k=>
      unfold erHF at cty;rw[j9,aC f2,hix]at cty;cases cty
     |zero=>
      have eb:n=nm i:=by rw[<- f2];exact px hix
      subst eb;rw[bL,j9,aC rfl]at cty;simp only[aB,jR,hsp,af]at cty;subst cty;refine ⟨⟨z,.mx l'⟩,by rw[bL,hb];simp only[aB,jR,hl'],λφ' O' hφ keep oo hoo=>?_⟩;have hlt:j<l! l':=(bi.1 hy).1;have hφ0:φ' (nm s.nx)=V (nm id):=by rw[hφ];simp
      rw[mB rfl]at hoo ⊢;obtain⟨arr,a1,a2⟩:=hoo;refine ⟨arr,a1,?_⟩;unfold vb at a2 ⊢;refine ⟨by simp only[BC.len]at a2 ⊢;rw[nv (by simp;omega)];exact a2.1,λo x D=>?_⟩;simp only[BC.get]at D a2;rw[mJ (by simp;omega)]at D;split at D
      .obtain⟨q1,v,q2,q3⟩:=a2.2 o x D;exact⟨q1,v,q2,keep _ _ q3⟩
      .split at D
       .rename_i h3 h4;simp only[cj]at h4;have hj:o=j:=by omega
        subst hj;simp only[Ca,dH,af]at D;subst D;obtain⟨_,v,a3,a4⟩:=a2.2 _ _ hy;refine ⟨by unfold dm;split<;>rfl,v,a3,?_⟩;unfold dm at a4 ⊢;by_cases hz:l! A=0
        .rw[aC (by simpa using hz)]at a4 ⊢;exact keep _ _ a4
        .rw[av (by simpa using hz)]at a4 ⊢;exact J6 hφ0 a4
       .obtain⟨q1,v,q2,q3⟩:=a2.2 o x D;exact⟨q1,v,q2,keep _ _ q3⟩
    .cases D:s.h.get (ow n) with
     |none=>
      unfold erHF at cty;rw[j9,av f2,av f0,av N,D]at cty;cases cty
     |some B=>
      unfold erHF at cty;rw[j9,av f2,av f0,av N,D]at cty;simp only[aB]at cty;rw[mm hr (λty l e=>c.qz.C _ _ l (by rw[D,e]))]at cty;exact⟨b',by unfold erHF;rw[D];exact cty,λφ' O' hφ keep oo hoo=>hoo.mono keep⟩
 .have he:(if n=nm s.nx then nm id else n)=(if m=nm s.nx then nm id else m):=he;by_cases f0:n=nm s.nx
  .rw[aC f0]at he;by_cases N:m=nm s.nx
   .rw[f0,N]
   .rw[av N]at he;rw[<- he,hdead _ (dc id)]at hm;cases hm
  .rw[av f0]at he;by_cases N:m=nm s.nx
   .rw[aC N]at he;rw[he,hdead _ (dc id)]at hn;cases hn
   .rw[av N]at he;exact he
def an5 {s:TS} {w:World} (c:jA P E nt np V s Q w) {s':TS} (h:an6 s i=Z s'):s'.e=s.e/\∃φ',jA P E nt np φ' s' Q w/\xc np V φ' (erHF s.h) (erHF s'.h) w w:=by
 unfold an6 at h;split at h
 .rename_i z;exact an9 c z h
 .rename_i z;exact an7 c z h
 .split at h
  .cases h
  .exact ana c h
 .cases h
def V4 {s:TS} {w:World} (c:jA P E nt np V s Q w) (N:b7 s.h h) (D:erHF h=erHF s.h) (hinv:gW h (s.nx+1)):jA P E nt np V ⟨s.e,h,s.nx+1⟩ Q w/\xc np V V (erHF s.h) (erHF h) w w:=by
 refine ⟨⟨by rw[D];exact c.qn,λt x A=>?_,λn k hk=>uJ (c.dom n k hk),fU c.low,hinv,λt x A=>l_ N x (c.qb t x A),c.inert,c.size⟩,by rw[D];exact xc.refl _ _ _ _⟩;rw[D];simp only[fG]at A;cases he:s.e.get t with
 |none=>rw[he]at A;cases A
 |some q=>
  rw[he]at A;obtain⟨z,L⟩:=oe s.h q (c.qb t q he);simp only[aB,ft N q z L,af]at A;subst A;exact c.env t _ (by simp only[fG,he,aB,L])
def ard {s:TS} {w:World} (c:jA P E nt np V s Q w) {φ:Ty} {es:Y (T.den×φ.den)} (hb:s.h.get i=Z (.mp T φ es)) (hE:mpE T φ es=J) (ty:TypeId) (S:Ty):jA P E nt np V ⟨s.e,(s.h.set i (Z (.I .qh s.nx []))).set s.nx (Z (.I (.ar ty S) 0 [])),s.nx+1⟩ Q w/\xc np V V (erHF s.h) (erHF ((s.h.set i (Z (.I .qh s.nx []))).set s.nx (Z (.I (.ar ty S) 0 [])))) w w:=by
 have hfr:=c.qz.fresh;have hlt:=c.qz.low i _ hb;generalize N:(s.h.set i (Z (.I .qh s.nx []))).set s.nx (Z (.I (.ar ty S) 0 []))=h';have D:∀id,h'.get id=if id=s.nx then Z (.I (.ar ty S) 0 []) else if id=i then Z (.I .qh s.nx []) else s.h.get id:=λid=>by
  rw[<- N,PT.get_set,PT.get_set]
 have L:b7 s.h h':=λid q hi=>by
  rw[bC]at hi ⊢;rw[D];by_cases A:id=s.nx
  .rw[A,hfr]at hi;cases hi
  .rw[av A];by_cases z:id=i
   .rw[z,hb]at hi;cases hi
   .rw[av z];exact hi
 refine V4 c L ?_ ⟨λid ty l hil=>?_,λid c' hic=>?_⟩
 .funext n;unfold erHF;rw[D];by_cases A:ow n=s.nx
  .rw[aC A,A,hfr];simp only[aB,wH];cases ix n<;>rfl
  .rw[av A];by_cases z:ow n=i
   .rw[aC z,z,hb];simp only[aB];cases ix n with
    |succ k=>rfl
    |zero=>
     simp only[NH,jR,zC (Xf hE),Ld hE,wJ];rfl
   .rw[av z];cases hx:s.h.get (ow n) with
    |none=>rfl
    |some B=>exact mm L (λty l e=>c.qz.C _ _ l (by rw[hx,e])) _ _
 .rw[D]at hil;split at hil
  .cases hil
  .split at hil
   .cases hil
   .exact fd L l (c.qz.C id _ l hil)
 .rw[D]at hic;split at hic
  .omega
  .split at hic
   .omega
   .have:=c.qz.low id c' hic;omega
def ar9 {s:TS} {w:World} (c:jA P E nt np V s Q w) (ai:Nat) (ty:TypeId):jA P E nt np V ⟨s.e,s.h.set s.nx (Z (.I (.qc ty) ai [])),s.nx+1⟩ Q w/\erHF (s.h.set s.nx (Z (.I (.qc ty) ai [])))=erHF s.h:=by
 have hfr:=c.qz.fresh;have z:b7 s.h (s.h.set s.nx (Z (.I (.qc ty) ai []))):=b7.set λr z=>by rw[bC,hfr]at z;cases z
 have D:erHF (s.h.set s.nx (Z (.I (.qc ty) ai [])))=erHF s.h:=by
  funext n;unfold erHF;rw[PT.get_set];by_cases A:ow n=s.nx
  .rw[aC A,A,hfr];simp only[aB,wH];cases ix n<;>rfl
  .rw[av A];cases L:s.h.get (ow n) with
   |none=>rfl
   |some B=>exact mm z (λty l e=>c.qz.C _ _ l (by rw[L,e])) _ _
 exact⟨(V4 c z D (c.qz.set z (nZ _) (Qo _) (λ_ _ he=>by cases he))).1,D⟩
end ren
def BY:∀(l:Y tX) (acc:Nat),Sa l acc=acc|||Sa l 0
 |[],acc=>by simp[Sa]
 |o::r,acc=>by
  simp only[Sa];cases o.dst with
  |none=>exact BY r acc
  |some d=>simp only[];rw[BY r (acc|||gf d),BY r (0|||gf d),wh,kL]
def Cl:∀(l:ι) (acc:Nat),N3 l acc=acc|||N3 l 0
 |[],acc=>by simp[N3]
 |k::r,acc=>by simp only[N3];rw[Cl r (acc|||gf k),Cl r (0|||gf k),wh,kL]
def jX:∀(l:Y Adj) (acc:Nat),j_ l acc=acc|||j_ l 0
 |[],acc=>by simp[j_]
 |.nil k _ _::r,acc=>by simp only[j_];rw[jX r (acc|||gf k),jX r (0|||gf k),wh,kL]
 |.qp _ _ _ _::r,acc|.mpt _ _ _::r,acc|.mz _ _::r,acc=>by simp only[j_];exact jX r acc
 |.qx k _::r,acc=>by simp only[j_];rw[jX r (acc|||gf k),jX r (0|||gf k),wh,kL]
 |.pk _ _ _::r,acc|.fmp _ _ _ _::r,acc|.frw _ _ _ _::r,acc|.jd _ _::r,acc=>by simp only[j_];exact jX r acc
def g_:∀(c:TC) (acc:Nat),c.asg acc=acc|||c.asg 0
 |.jz ops _,acc=>BY ops acc
 |.seq a b,acc=>by simp only[TC.asg];rw[g_ b (a.asg acc),g_ b (a.asg 0),g_ a acc,kL]
 |.zn A a b,acc=>by simp only[TC.asg];rw[g_ b (a.asg _),g_ b (a.asg (N3 A.ks 0)),g_ a (N3 A.ks acc),g_ a (N3 A.ks 0),Cl A.ks acc,kL,kL,kL]
 |.cond _ a b,acc=>by simp only[TC.asg];rw[g_ b (a.asg acc),g_ b (a.asg 0),g_ a acc,kL]
 |.block _ b,acc=>g_ b acc
 |.zj A _ b,acc|.loop A b,acc=>by simp only[TC.asg];rw[g_ b (N3 A.ks acc),g_ b (N3 A.ks 0),Cl A.ks acc,kL]
 |.defer _ _ t,acc=>by simp[TC.asg]
 |.adj l c,acc=>by simp only[TC.asg];rw[g_ c (j_ l acc),g_ c (j_ l 0),jX l acc,kL]
 |.split _ _ _ _ c,acc=>g_ c acc
 |.bsp _ a b,acc=>by simp only[TC.asg];rw[g_ b (a.asg acc),g_ b (a.asg 0),g_ a acc,kL]
 |.unl _ b,acc=>g_ b acc
 |.skip,acc|.exit _,acc|.ret,acc|.zd,acc=>by simp[TC.asg]
def uY {c:TC} (h:aK (c.asg 0) j=J):aK (c.asg i) j=J:=by rw[g_,bn,h];simp
def kj {c:TC} (h:aK i j=J):aK (c.asg i) j=J:=by rw[g_,bn,h];rfl
def Zn:∀{l:ι} {acc k:Nat},k∈l->aK (N3 l acc) k=J
 |[],_,_,h=>by cases h
 |x::r,acc,k,h=>by
  simp only[N3];rcases aZ.1 h with rfl|h
  .rw[Cl,bn,bn,bu.2 rfl];simp
  .exact Zn h
def VW:∀{l:Y tX} {acc:Nat} {o:tX} {d:Nat},o∈l->o.dst=Z d->aK (Sa l acc) d=J
 |[],_,_,_,h,_=>by cases h
 |x::r,acc,o,d,h,hd=>by
  simp only[Sa];rcases aZ.1 h with rfl|h
  .rw[hd];simp only[];rw[BY,bn,bn,bu.2 rfl];simp
  .exact VW h hd
def Zx:∀{e:hX} {z:ι} {vs:Y TV},j9 e z=Z vs->l! vs=l! z/\∀(j k:Nat),z[j]? =Z k->∃v,vs[j]? =Z v/\e.get k=Z v
 |e,[],vs,h=>by simp only[j9,af]at h;subst h;exact⟨rfl,by simp⟩
 |e,k::r,vs,h=>by
  simp only[j9]at h;split at h
  .rename_i v L;split at h
   .rename_i l N;cases h;obtain⟨h1,h2⟩:=Zx N;refine ⟨by simp[h1],λj D A=>?_⟩;cases j with
    |zero=>simp at A;subst A;exact⟨v,rfl,L⟩
    |succ j=>simpa using h2 j D (by simpa using A)
   .cases h
  .cases h
def K6 {e:hX} (hi:su e h):∀{A:ι} {vs:Y TV},j9 e A=Z vs->lR h vs=J
 |[],vs,z=>by simp only[j9,af]at z;subst z;rfl
 |k::r,vs,z=>by
  simp only[j9]at z;split at z
  .rename_i v D;split at z
   .rename_i l L;cases z;simp only[lR,ak];exact⟨hi k v D,K6 hi L⟩
   .cases z
  .cases z
def EM:∀{e:hX} {A:ι} {vs:Y TV},l! vs=l! A->∀t v,(aad e A vs).get t=Z v->(∃j:Nat,A[j]? =Z t/\vs[j]? =Z v)\/(t∉A/\e.get t=Z v)
 |e,[],[],_,t,v,h=>.inr ⟨by simp,h⟩
 |e,[],_::_,z,t,v,h|e,_::_,[],z,t,v,h=>by simp at z
 |e,k::r,u::l,z,t,v,h=>by
  simp only[aad,PT.get_set]at h;split at h
  .rename_i L;subst L;cases h;exact .inl ⟨0,rfl,rfl⟩
  .rename_i L;rcases EM (by simpa using z) t v h with ⟨j,h1,D⟩|⟨h1,D⟩
   .exact .inl ⟨j+1,by simpa using h1,by simpa using D⟩
   .exact .inr ⟨by simp[L,h1],D⟩
def vj {e:hX}:∀{D:ι} {k:Nat} {v:TV},(Ff i e D).get k=Z v->k∈D/\e.get k=Z v/\vO v=J/\aK i k=aa
 |[],k,v,h=>by simp[Ff,PT.get]at h
 |x::r,k,v,h=>by
  simp only[Ff]at h;split at h
  .rename_i u L;split at h
   .rename_i A;simp only[ak,cV]at A;rw[PT.get_set]at h;split at h
    .rename_i N;subst N;cases h;exact⟨by simp,L,A.1,A.2⟩
    .obtain⟨h1,z⟩:=vj h;exact⟨by simp[h1],z⟩
   .obtain⟨h1,z⟩:=vj h;exact⟨by simp[h1],z⟩
  .obtain⟨h1,z⟩:=vj h;exact⟨by simp[h1],z⟩
def Lt {e0 e:hX}:∀{A:ι},Kh i e0 e A=J->∀k v,k∈A->e0.get k=Z v->vO v=J->aK i k=aa->∃N,e.get k=Z N
 |[],_,k,v,h,_,_,_=>by cases h
 |x::r,z,k,v,h,D,hf,L=>by
  simp only[Kh,ak]at z;rcases aZ.1 h with rfl|h
  .have h1:=z.1;rw[D]at h1;simp only[hf,L,yS,EC]at h1;cases hx:e.get k with
   |none=>rw[hx]at h1;cases h1
   |some u=>exact⟨u,rfl⟩
  .exact Lt z.2 k v h D hf L
section walk
variable {P:Program} {E:Nat->Prop} {nt np:Nat}
def UK (A:afe u=J) (z:b9 h u=Z y):Le y .emp:=by
 cases u with
 |nil=>simp only[b9,af]at z;subst z;exact Le.nilEmp
 |emp=>simp only[b9,af]at z;subst z;exact Le.refl _
 |_=>cases A
def Z5 {s:TS} {w:World} (c:jA P E nt np V s Q w) (ty:TypeId) (T:Ty):jA P E nt np V ⟨s.e,s.h.set s.nx (Z (.F ty J T [])),s.nx+1⟩ Q w/\erHF (s.h.set s.nx (Z (.F ty J T [])))=erHF s.h/\b7 s.h (s.h.set s.nx (Z (.F ty J T []))):=by
 have hfr:=c.qz.fresh;have D:b7 s.h (s.h.set s.nx (Z (.F ty J T []))):=b7.set λr D=>by rw[bC,hfr]at D;cases D
 have L:erHF (s.h.set s.nx (Z (.F ty J T [])))=erHF s.h:=by
  funext n;by_cases hn:n=nm s.nx
  .subst hn;rw[bL,bL,PT.get_set,aC rfl,hfr];rfl
  .refine l7 c.qz D (iz.set (by rw[hfr];rfl) rfl) λi e=>?_
   subst e;rw[PT.get_set,av (λe=>hn (by rw[e]))]
 refine ⟨⟨by rw[L];exact c.qn,?_,λn k hk=>uJ (c.dom n k hk),fU c.low,c.qz.set D (nZ _) (Qo _) (λ_ _ he=>by cases he),?_,c.inert,c.size⟩,L,D⟩
 .intro t x A;rw[L];simp only[fG]at A;cases he:s.e.get t with
  |none=>rw[he]at A;cases A
  |some q=>
   rw[he]at A;obtain⟨z,N⟩:=oe s.h q (c.qb t q he);simp only[aB,ft D q z N,af]at A;subst A;exact c.env t _ (by simp only[fG,he,aB,N])
 .intro t x A;exact l_ D x (c.qb t x A)
def Ba :∀{a b:Y TV},lR h a=J->lR h b=J->lR h (a++b)=J
 |[],_,_,z=>z
 |x::r,b,A,z=>by
  simp only[lR,ak]at A;simp only[gG,lR,ak];exact⟨A.1,Ba A.2 z⟩
def Pf :∀{a:Y TV} (n:Nat),lR h a=J->lR h (a.take n)=J
 |[],n,_=>by simp[lR]
 |x::r,0,_=>rfl
 |x::r,n+1,z=>by
  simp only[lR,ak]at z;simp only[xF,lR,ak];exact⟨z.1,Pf n z.2⟩
def Ph :∀{a:Y TV} (n:Nat),lR h a=J->lR h (a.drop n)=J
 |[],n,_=>by simp[lR]
 |x::r,0,z=>z
 |x::r,n+1,z=>by
  simp only[lR,ak]at z;simp only[xH];exact Ph n z.2
def AT {l:Y R} {x:R} (h:l[j]? =Z x):splice l j [x]=l:=by
 have z:j<l! l:=by
  rcases bx j (l! l) with h'|h'
  .exact h'
  .rw[bJ h']at h;cases h
 rw[aD z,af]at h;unfold splice;subst h;simp
def V5 {s:TS} {w:World} (c:jA P E nt np V s Q w) {id:Nat} {cty:M TypeId} {l:Y TV} {v:TV} (hb:s.h.get id=Z (.C cty l)) (hv:l[j]? =Z v) (hn:afe v=J) (hu:b9 s.h u=Z .emp) (huo:N0 s.h u=J):
 jA P E nt np V ⟨s.e,s.h.set id (Z (.C cty (splice l j [u]))),s.nx⟩ Q w/\xc np V V (erHF s.h) (erHF (s.h.set id (Z (.C cty (splice l j [u]))))) w w:=by
 have D:b7 s.h (s.h.set id (Z (.C cty (splice l j [u])))):=b7.set λr D=>by rw[bC,hb]at D;cases D
 have hlo:=c.qz.C id _ l hb;obtain⟨l',L⟩:=eX s.h l hlo;have hsp:cP s.h (splice l j [u])=Z (splice l' j [.emp]):=oO j L (by simp only[cP,hu]);have hsp':cP (s.h.set id (Z (.C cty (splice l j [u])))) (splice l j [u])=Z (splice l' j [.emp]):=fY D _ _ hsp;obtain⟨y,hy,hey⟩:=lF L j v hv;have hold:erHF s.h (nm id)=Z (ZV cty l'):=by rw[bL,hb];cases cty<;>(simp only[aB,jR,L];rfl)
 have hnew:erHF (s.h.set id (Z (.C cty (splice l j [u])))) (nm id)=Z (ZV cty (splice l' j [.emp])):=by
  rw[bL,PT.get_set,aC rfl];cases cty<;>(simp only[aB,jR,hsp'];rfl)
 have hoth:∀n,n≠nm id->erHF (s.h.set id (Z (.C cty (splice l j [u])))) n=erHF s.h n:=λn hn'=>by
  refine l7 c.qz D (iz.set (by rw[hb];rfl) rfl) λi e=>?_
  subst e;rw[PT.get_set,av (λe=>hn' (by rw[e]))]
 have hdom:rh (erHF s.h) (erHF (s.h.set id (Z (.C cty (splice l j [u]))))):=λn b N=>by
  by_cases e:n=nm id
  .subst e;exact⟨_,hold⟩
  .rw[hoth n e]at N;exact⟨b,N⟩
 have hcell:∀ty,cty=Z ty->∀x∈l',x.isCell=J:=λty hty x A=>by
  subst hty;obtain⟨k,hk⟩:=gg A;obtain⟨q,_,_,hat⟩:=c.qn.at_ _ _ hold;unfold aa5 at hat;obtain⟨ob,_,hob⟩:=hat;rw[show ZV (Z ty) l'=⟨ty,.mx l'⟩ from rfl,mB rfl]at hob;obtain⟨arr,_,hca⟩:=hob;exact (hca.2 k x hk).1
 have hV:JQ (erHF s.h) (erHF (s.h.set id (Z (.C cty (splice l j [u]))))):=⟨hdom,λn b b' h1 h2=>by
  by_cases e:n=nm id
  .subst e;rw[hold]at h1;cases h1;rw[hnew]at h2;cases h2;have hle:gL (erHF s.h) (erHF (s.h.set id (Z (.C cty (splice l j [u]))))) l' (splice l' j [.emp]):=by
    have:=gL.splice j (gL.refl hdom l') (b:=[y]) (b':=[.emp]) ⟨(UK hn hey).toH hdom,trivial⟩;rw[AT hy]at this;exact this
   cases cty with
   |none=>exact fH.told hle
   |some ty=>
    refine fH.C rfl rfl hle λx A=>?_
    have A:x∈splice l' j [.emp]:=A;unfold splice at A;rw[bG,bG,aE]at A;rcases A with (A|A)|A
    .exact hcell ty rfl x (ij A)
    .subst A;rfl
    .exact hcell ty rfl x (List.mem_of_mem_drop A)
  .rw[hoth n e,h1]at h2;cases h2;exact fH.refl hdom b⟩
 refine ⟨⟨hV.qn c.qn,?_,c.dom,c.low,c.qz.set D (c.qz.low id _ hb) (bV _) (λty l2 he=>?_),?_,c.inert,c.size⟩,⟨Gt.refl _ _,λk _ ho=>hdom.own ho,λ_ _=>rfl⟩⟩
 .intro t x A;simp only[fG]at A;cases he:s.e.get t with
  |none=>rw[he]at A;cases A
  |some q=>
   rw[he]at A;obtain⟨z,hz⟩:=oe s.h q (c.qb t q he);simp only[aB,ft D q z hz,af]at A;subst A;exact (c.env t _ (by simp only[fG,he,aB,hz])).dom hdom
 .simp only[eP.C.injEq]at he;obtain⟨_,rfl⟩:=he;refine fd D _ ?_;unfold splice;exact Ba (Ba (Pf _ hlo) (by simp only[lR,huo,fC])) (Ph _ hlo)
 .intro t x A;exact l_ D x (c.qb t x A)
def jA.congr {s s':TS} {w:World} (c:jA P E nt np V s Q w) (he:∀t,s'.e.get t=s.e.get t) (hh:∀i,s'.h.get i=s.h.get i) (N:s'.nx=s.nx):jA P E nt np V s' Q w/\erHF s'.h=erHF s.h:=by
 have L:b7 s.h s'.h:=λi r hi=>by rw[bC]at hi ⊢;rw[hh];exact hi
 have hH:erHF s'.h=erHF s.h:=by funext n;exact l7 c.qz L (λi k=>by rw[hh]) λi _=>hh i
 refine ⟨⟨by rw[hH];exact c.qn,?_,by rw[N];exact c.dom,by rw[N];exact c.low,⟨λi ty l A=>?_,λi b A=>?_⟩,λt v hv=>?_,c.inert,c.size⟩,hH⟩
 .intro t x D;rw[hH];simp only[fG,he]at D;cases A:s.e.get t with
  |none=>rw[A]at D;cases D
  |some v=>
   rw[A]at D;obtain⟨z,hz⟩:=oe s.h v (c.qb t v A);simp only[aB,ft L v z hz,af]at D;subst D;exact c.env t _ (by simp only[fG,A,aB,hz])
 .rw[hh]at A;exact fd L l (c.qz.C i _ l A)
 .rw[hh]at A;rw[N];exact c.qz.low i b A
 .rw[he]at hv;exact l_ L v (c.qb t v hv)
variable {a:Int}
def SX {f:Nat->M R} {r:R}:∀{m i:Nat},spl a f i m=Z r->∃j,a=aP j/\f j=Z r
 |0,i,h=>by cases h
 |m+1,i,h=>by
  simp only[spl]at h;rcases lN h with ⟨h1,z⟩|⟨_,z⟩
  .exact⟨i,bD h1,z⟩
  .exact SX z
def ae4 {s s':TS} {w:World} (c:jA P E nt np V s Q w) {kd:IntKind} {v:Int} (h1:afk s i j=Z (kd,v)) (z:WY s i j kd v=Z s'):jA P E nt np V s' Q w/\erHF s'.h=erHF s.h/\∀t,s'.e.get t=s.e.get t:=by
 unfold afk at h1;unfold WY at z;cases L:s.e.get i with
 |none=>rw[L]at h1;cases h1
 |some x=>
  rw[L]at h1 z;cases x with
  |f T q=>
   cases T with
   |int kd'=>
    simp only[af,aG]at h1;obtain⟨rfl,rfl⟩:=h1;simp only[af]at z;subst z;have he:∀t,(s.e.set i (Z (.f (.int kd') q))).get t=s.e.get t:=λt=>by
     rw[PT.get_set];split
     .rename_i e;subst e;exact L.symm
     .rfl
    obtain⟨g1,g2⟩:=c.congr (s':=⟨s.e.set i (Z (.f (.int kd') q)),s.h,s.nx⟩) he (λ_=>rfl) rfl;exact⟨g1,g2,he⟩
   |_=>cases h1
  |H a0 A=>
   simp only[]at h1 z;cases N:s.h.get a0 with
   |none=>rw[N]at h1;cases h1
   |some b=>
    rw[N]at h1 z;cases b with
    |C ty l=>
     cases ty with
     |none=>cases h1
     |some ty=>
     simp only[]at h1 z;cases D:l[A+j]? with
     |none=>rw[D]at h1;cases h1
     |some y=>
      rw[D]at h1;cases y with
      |f T q=>
       cases T with
       |int kd'=>
        simp only[af,aG]at h1;obtain⟨rfl,rfl⟩:=h1;simp only[af]at z;subst z;have hh:∀k,(s.h.set a0 (Z (.C (Z ty) (splice l (A+j) [.f (.int kd') q])))).get k=s.h.get k:=λk=>by
         rw[PT.get_set];split
         .rename_i e;subst e;rw[N,AT D]
         .rfl
        obtain⟨g1,g2⟩:=c.congr (s':=⟨s.e,s.h.set a0 (Z (.C (Z ty) (splice l (A+j) [.f (.int kd') q]))),s.nx⟩) (λ_=>rfl) hh rfl;exact⟨g1,g2,λ_=>rfl⟩
       |_=>cases h1
      |_=>cases h1
    |_=>cases h1
  |_=>cases h1
mutual
def O7 (id sz n:Nat):∀v:TV,vO v=J->NP id sz n v=v
 |.f _ _,_|.zk _ _ _ _ _,_|.emp,_|.nil,_|.undef,_|.np,_|.qw,_=>rfl
 |.agg l,h|.qg l,h=>by simp only[NP];rw[DE id sz n l h]
 |.ql _ _ _ _,h|.H _ _,h|.qv _ _ _,h|.G _,h|.zm _ _,h|.mp _,h|.qd _ _,h|.qy _ _,h|.sb _,h=>by cases h
def DE (id sz n:Nat):∀l:Y TV,rO l=J->EJ id sz n l=l
 |[],_=>rfl
 |x::r,h=>by
  simp only[rO,ak]at h;simp only[EJ];rw[O7 id sz n x h.1,DE id sz n r h.2]
end
section subs
variable {id sz n:Nat} {h h':a_}
mutual
def Qy (hr:b7 h h') (hid:eE h' id=Z (aa,sz,n)):∀(v:TV) (y:AV),b9 h v=Z y->b9 h' (NP id sz n v)=Z y
 |.qv i s m,y,he=>by
  simp only[b9,af]at he;subst he;simp only[NP];split
  .rename_i hq;simp only[ak]at hq;have e1:=au hq.1.1;have e2:=au hq.1.2;have e3:=au hq.2;subst e1 e2 e3;simp only[b9,hid,dm,eV,bY,c7]
  .rfl
 |.agg l,y,he|.qg l,y,he|.qy g l,y,he=>by
  simp only[b9]at he;cases hl:cP h l with
  |none=>rw[hl]at he;cases he
  |some l'=>rw[hl]at he;simp only[NP,b9,xO hr hid l l' hl];exact he
 |.f T v,y,he|.zk T xs j hj off,y,he|.ql _ _ _ _,y,he|.H _ _,y,he|.G _,y,he|.zm _ _,y,he|.emp,y,he|.nil,y,he|.mp _,y,he|.undef,y,he|.np,y,he|.qw,y,he|.qd _ _,y,he|.sb _,y,he=>ft hr _ _ he
def xO (hr:b7 h h') (hid:eE h' id=Z (aa,sz,n)):∀(l:Y TV) (l':Y AV),cP h l=Z l'->cP h' (EJ id sz n l)=Z l'
 |[],l',he=>by simp only[cP,af]at he;subst he;rfl
 |x::r,l',he=>by
  obtain⟨y,l2,rfl,h1,h2⟩:=c9 he;simp only[EJ];exact qo (Qy hr hid x y h1) (xO hr hid r l2 h2)
end
end subs
def aqs {s:TS} {w:World} (c:jA P E nt np V s Q w) {n:Nat} {s':TS} (hp:pkS s T i j n=Z s'):jA P E nt np V s' Q w/\xc np V V (erHF s.h) (erHF s'.h) w w/\fy 0 s.e s'.e:=by
 unfold pkS at hp;split at hp
 .rename_i ty l hb;split at hp
  .rename_i hs;have hs:=au hs;subst hs;split at hp
   .rename_i xs m hpk;split at hp
    .cases hp
    .rename_i hmid;cases hp;have hm:dE s.h m:=QJ n l xs m hpk;obtain⟨l',hl⟩:=eX s.h l (c.qz.C i _ l hb);have hidlt:=c.qz.low i _ hb;have j9:∀id,((PT.updI (λ_ b=>WP i T.size n b) 1 0 (dL m s.h)).set i (Z (.F ty aa T xs))).get id=if id=i then Z (.F ty aa T xs) else if aK m id then (s.h.get id).map uA else (s.h.get id).map (WP i T.size n):=λid=>by
      rw[PT.get_set];by_cases e:id=i
      .rw[aC e,aC e]
      .rw[av e,av e,PT.get_updI,iM];split
       .cases A:s.h.get id with
        |none=>rfl
        |some b=>
         obtain⟨p1,s1,n1,e1⟩:=Lr b;simp only[bm,e1,WP]
       .rfl
     generalize hH2:((PT.updI (λ_ b=>WP i T.size n b) 1 0 (dL m s.h)).set i (Z (.F ty aa T xs)))=h2 at j9 ⊢;have hr:b7 s.h h2:=λid r hi=>by
      rw[bC]at hi ⊢;rw[j9];by_cases e:id=i
      .subst e;rw[hb]at hi;cases hi
      .rw[av e];cases A:s.h.get id with
       |none=>rw[A]at hi;cases hi
       |some b=>
        rw[A]at hi;split
        .exact Pa hi
        .cases b<;>first|exact hi|cases hi
     have hnone:∀id,aK m id=J->erHF h2 (nm id)=U:=λid hi=>by
      have e:id≠i:=λe=>by subst e;exact hmid hi
      obtain⟨ty',p',T',xs',L⟩:=hm id hi;rw[bL,j9,av e,aC hi,L];rfl
     have hme:iz s.h h2:=λid k=>by
      rw[j9];by_cases e:id=i
      .rw[aC e,e,hb];rfl
      .rw[av e];split
       .rename_i hmi;obtain⟨ty',p',T',xs',L⟩:=hm id hmi;rw[L];rfl
       .cases A:s.h.get id with
        |none=>rfl
        |some b=>cases b<;>rfl
     have hdom:rh (erHF s.h) (erHF h2):=λq b hq=>by
      rcases Md hme hq with h0|⟨id,cc,rfl,D,h4⟩
      .exact⟨b,h0⟩
      rw[bL];rw[j9]at D;by_cases e:id=i
      .subst e;rw[hb];simp only[aB,jR,hl];exact⟨_,rfl⟩
      .rw[av e]at D;cases A:s.h.get id with
       |none=>rw[A]at D;split at D<;>cases D
       |some b0=>
        rw[A]at D;split at D
        .simp only[bm,af]at D;subst D;exact (Mc (i:=0) (k:=0) h4).elim
        .simp only[bm,af]at D;subst D;simp only[aB];cases b0 with
         |C ty0 l0=>
          obtain⟨l0',hl0⟩:=eX s.h l0 (c.qz.C id _ l0 A);exact⟨ZV ty0 l0',by cases ty0<;>(simp only[jR,hl0];rfl)⟩
         |_=>exact⟨_,h4⟩
     have giv:Eo s.h (erHF s.h) (erHF h2) m:=λid hi=>⟨rfl,hnone id hi⟩
     obtain⟨hle,hlen⟩:=E0 hdom n l xs m l' hpk hl giv;have hrow:eE h2 i=Z (aa,T.size,n):=by rw[bC,j9,aC rfl,<-hlen];rfl
     have hV:JQ (erHF s.h) (erHF h2):=⟨hdom,λq b b' D h4=>by
      rcases Md hme h4 with h0|⟨id,cc,rfl,h5,h6⟩
      .rw[D]at h0;cases h0;exact fH.refl hdom _
      rw[bL]at D;rw[j9]at h5;by_cases e:id=i
      .subst e;rw[aC rfl]at h5;cases h5;rw[hb]at D;simp only[aB,jR,hl,af]at D;subst D;simp only[jR,eV,bY,c7,af]at h6;subst h6;refine fH.C rfl rfl hle λx L=>?_
       simp only[BC.toMx]at L;obtain⟨q,hq,rfl⟩:=ch.1 L;exact ml T _ q hq
      .rw[av e]at h5;cases A:s.h.get id with
       |none=>rw[A]at h5;split at h5<;>cases h5
       |some b0=>
        rw[A]at h5 D;split at h5
        .simp only[bm,af]at h5;subst h5;exact (Mc (i:=0) (k:=0) h6).elim
        .simp only[bm,af]at h5;subst h5;have:b=b':=by
          simp only[aB]at D;cases b0 with
          |C ty0 l0=>
           obtain⟨l0',hl0⟩:=eX s.h l0 (c.qz.C id _ l0 A);cases ty0<;>
            (simp only[jR,hl0,af]at D
             simp only[WP,jR,xO hr hrow l0 l0' hl0,af]at h6;rw[<- D,<-h6])
          |F ty1 p1 T1 xs1=>
           have N:jR h2 (.F ty1 p1 T1 xs1)=Z b:=D;exact fK (N.symm.trans h6)
          |qj p1 s1 n1=>
           have N:jR h2 (.qj p1 s1 n1)=Z b:=D;exact fK (N.symm.trans h6)
          |mp K1 V1 es1=>
           have N:jR h2 (.mp K1 V1 es1)=Z b:=D;exact fK (N.symm.trans h6)
          |I F1 a1 x1=>
           have N:jR h2 (.I F1 a1 x1)=Z b:=D;exact fK (N.symm.trans h6)
          |qm F1 a1 x1 k1 p1=>
           have N:jR h2 (.qm F1 a1 x1 k1 p1)=Z b:=D;exact fK (N.symm.trans h6)
         subst this;exact fH.refl hdom b⟩
     refine ⟨⟨hV.qn c.qn,?_,c.dom,c.low,⟨λid ty' l2 A=>?_,λid b A=>?_⟩,?_,c.inert,c.size⟩,⟨Gt.refl _ _,λk _ hk=>hdom.own hk,λ_ _=>rfl⟩,?_⟩
     .intro t x L;simp only[fG,PT.get_updI]at L;cases he:s.e.get t with
      |none=>rw[he]at L;cases L
      |some v=>
       rw[he]at L;obtain⟨z,hz⟩:=oe s.h v (c.qb t v he);simp only[bm,aB,Qy hr hrow v z hz,af]at L;subst L;exact (c.env t _ (by simp only[fG,he,aB,hz])).dom hdom
     .rw[j9]at A;by_cases e:id=i
      .rw[aC e]at A;cases A
      .rw[av e]at A;cases hg0:s.h.get id with
       |none=>rw[hg0]at A;split at A<;>cases A
       |some b0=>
        rw[hg0]at A;split at A
        .simp only[bm,af]at A;exact (Bh A).elim
        .simp only[bm,af]at A;cases b0 with
         |C ty0 l0=>
          simp only[WP,eP.C.injEq]at A;obtain⟨_,rfl⟩:=A;obtain⟨l0',hl0⟩:=eX s.h l0 (c.qz.C id _ l0 hg0);exact kQ _ _ _ (xO hr hrow l0 l0' hl0)
         |_=>cases A
     .rw[j9]at A;by_cases e:id=i
      .subst e;exact hidlt
      .rw[av e]at A;cases hg0:s.h.get id with
       |none=>rw[hg0]at A;split at A<;>cases A
       |some b0=>exact c.qz.low id b0 hg0
     .intro t x L;simp only[PT.get_updI]at L;cases he:s.e.get t with
      |none=>rw[he]at L;cases L
      |some v=>
       rw[he]at L;simp only[bm,af]at L;subst L;obtain⟨z,hz⟩:=oe s.h v (c.qb t v he);exact Hr _ _ _ (Qy hr hrow v z hz)
     .intro k _ v' hv';simp only[PT.get_updI]at hv';cases he:s.e.get k with
      |none=>rw[he]at hv';cases hv'
      |some v=>
       rw[he]at hv';simp only[bm,af]at hv';subst hv';exact⟨v,rfl,λhf=>O7 _ _ _ v hf⟩
   .cases hp
  .cases hp
 .cases hp
def aqo {s:TS} {w:World} (c:jA P E nt np V s Q w) {s':TS} (h:HP s (.qx i j)=Z s'):∃φ',jA P E nt np φ' s' Q w/\xc np V φ' (erHF s.h) (erHF s'.h) w w/\fy (j_ [.qx i j] 0) s.e s'.e:=by
 simp only[HP]at h;split at h
 .rename_i b o hk;split at h
  .rename_i cty l hb;split at h
   .rename_i id hv;split at h
    .rename_i ty p T xs D;cases h;have hfr:=c.qz.fresh;have hidlt:=c.qz.low id _ D;have hblt:=c.qz.low b _ hb;have hbid:b≠id:=λe=>by rw[e,D]at hb;cases hb
     have hbn:b≠s.nx:=by omega
     have hin:id≠s.nx:=by omega
     generalize hh2:(((s.h.set id (Z (.qj p T.size (l! xs)))).set s.nx (Z (.F ty p T xs))).set b (Z (.C (Z cty) (splice l (o+j) [.G s.nx]))))=L;have j9:∀k,L.get k=if k=b then Z (.C (Z cty) (splice l (o+j) [.G s.nx])) else if k=s.nx then Z (.F ty p T xs) else if k=id then Z (.qj p T.size (l! xs)) else s.h.get k:=λk=>by
      rw[<- hh2,PT.get_set,PT.get_set,PT.get_set]
     have hr:b7 s.h L:=λk r hi=>by
      rw[bC]at hi ⊢;rw[j9];by_cases e1:k=b
      .subst e1;rw[hb]at hi;cases hi
      .rw[av e1];by_cases e2:k=s.nx
       .subst e2;rw[hfr]at hi;cases hi
       .rw[av e2];by_cases N:k=id
        .subst N;rw[aC rfl];rw[D]at hi;exact hi
        .rw[av N];exact hi
     have hlo:=c.qz.C b _ l hb;obtain⟨l',hl'⟩:=eX s.h l hlo;have hrow:b9 L (.G s.nx)=Z (dm p s.nx T.size (l! xs)):=by
      simp only[b9,bC,j9];rw[av hbn.symm];simp only[bk,aB,iG]
     have hsp:cP L (splice l (o+j) [.G s.nx])=Z (splice l' (o+j) [dm p s.nx T.size (l! xs)]):=oO _ (fY hr _ _ hl') (by simp only[cP,hrow]);obtain⟨y,hy,hey⟩:=lF hl' _ _ hv;have hy0:y=dm p id T.size (l! xs):=by
      simp only[b9,bC,D,aB,iG,af]at hey;exact hey.symm
     subst hy0;have hold:erHF s.h (nm b)=Z ⟨cty,.mx l'⟩:=by rw[bL,hb];simp only[aB,jR,hl']
     have hnew:erHF L (nm b)=Z ⟨cty,.mx (splice l' (o+j) [dm p s.nx T.size (l! xs)])⟩:=by
      rw[bL,j9,aC rfl];simp only[aB,jR,hsp]
     have hdead:erHF L (nm id)=U:=by rw[bL,j9,av hbid.symm,av hin,aC rfl];rfl
     have hnx2:erHF L (nm s.nx)=if p&&l! xs==0 then U else Z ⟨ty,.fz (xs.flatMap (bN T))⟩:=by rw[bL,j9,av hbn.symm,aC rfl];rfl
     have hid0:erHF s.h (nm id)=if p&&l! xs==0 then U else Z ⟨ty,.fz (xs.flatMap (bN T))⟩:=by rw[bL,D];rfl
     have hoth:∀n,n≠nm b->n≠nm s.nx->n≠nm id->erHF L n=erHF s.h n:=λn e1 e2 N=>l7 c.qz hr (iz.of λk=>by
      rw[j9];by_cases f1:k=b
      .rw[aC f1,f1,hb];exact .inr ⟨rfl,rfl⟩
      .rw[av f1];by_cases f2:k=s.nx
       .rw[aC f2,f2,hfr];exact .inr ⟨rfl,rfl⟩
       .rw[av f2];by_cases f3:k=id
        .rw[aC f3,f3,D];exact .inr ⟨rfl,rfl⟩
        .rw[av f3];exact .inl rfl) λk e=>by
      subst e;rw[j9,av (λe=>e1 (by rw[e])),av (λe=>e2 (by rw[e])),av (λe=>N (by rw[e]))]
     have hnb:nm b≠nm s.nx:=λe=>hbn (ug e)
     have hbi:nm b≠nm id:=λe=>hbid (ug e)
     have hni:nm s.nx≠nm id:=λe=>hin (ug e).symm
     have hinv:gW L (s.nx+1):=by
      refine ⟨λk ty2 l2 hil=>?_,λk q hiq=>?_⟩
      .rw[j9]at hil;split at hil
       .simp only[af,eP.C.injEq]at hil;obtain⟨_,rfl⟩:=hil;exact kQ _ _ _ hsp
       .split at hil
        .cases hil
        .split at hil
         .cases hil
         .exact fd hr l2 (c.qz.C k _ l2 hil)
      .rw[j9]at hiq;split at hiq
       .omega
       .split at hiq
        .omega
        .split at hiq
         .omega
         .have:=c.qz.low k q hiq;omega
     have hE:∀t x,fG s.e L t=Z x->fG s.e s.h t=Z x:=λt x A=>by
      simp only[fG]at A ⊢;cases he:s.e.get t with
      |none=>rw[he]at A;cases A
      |some q=>
       rw[he]at A;obtain⟨z,hz⟩:=oe s.h q (c.qb t q he);simp only[aB,ft hr q z hz,af]at A;subst A;simp only[aB,hz]
     by_cases hp:(p&&l! xs==0)=J
     ·
      have hH:erHF L=erHF s.h:=by
       funext n;by_cases e1:n=nm b
       .subst e1;rw[hold,hnew];have:dm p s.nx T.size (l! xs)=dm p id T.size (l! xs):=by unfold dm;rw[aC hp,aC hp]
        rw[this,AT hy]
       .by_cases e2:n=nm s.nx
        .subst e2;rw[hnx2,aC hp,bL,hfr];rfl
        .by_cases N:n=nm id
         .subst N;rw[hdead,hid0,aC hp]
         .exact hoth n e1 e2 N
      refine ⟨V,⟨by rw[hH];exact c.qn,λt x A=>by rw[hH];exact c.env t x (hE t x A),λn q hq=>uJ (c.dom n q hq),fU c.low,hinv,λt x A=>l_ hr x (c.qb t x A),c.inert,c.size⟩,by rw[hH];exact xc.refl _ _ _ _,fy.refl _ _⟩
     .have hid1:erHF s.h (nm id)=Z ⟨ty,.fz (xs.flatMap (bN T))⟩:=by rw[hid0,av hp]
      obtain⟨kk,k1,k2,ob,k3,k4⟩:=c.qn.at_ _ _ hid1;have hφn:V (nm s.nx)=U:=by
       cases hq:V (nm s.nx) with
       |none=>rfl
       |some q=>have:=c.dom _ q hq;rw[dc]at this;omega
      let nw:HF:=λn=>if n=nm s.nx then Z ⟨ty,.fz (xs.flatMap (bN T))⟩ else U
      have hsh:HR w w kk ob:=⟨rfl,rfl,rfl,rfl,k3,λ_ _=>rfl,λ_=>rfl⟩
      obtain⟨φ',p1,p2,p3,p4⟩:=c.qn.wren hid1 k1 hφn hsh k4 nw (by simp[nw]) (by simp only[nw];rw[av hni.symm]);have hb1:e_ (erHF s.h) [nm s.nx,nm id] nw (nm b)=Z ⟨cty,.mx l'⟩:=by
       unfold e_;rw[av (by simp[hnb,hbi]),hold]
      obtain⟨kb,b1,b2,ob2,b3,b4⟩:=p4.at_ _ _ hb1;have hlt:o+j<l! l':=by
       rcases bx (o+j) (l! l') with h'|h'
       .exact h'
       .rw[bJ h']at hy;cases hy
      have hob:gy φ' (tot E φ' (e_ (erHF s.h) [nm s.nx,nm id] nw)) w ⟨cty,.mx (splice l' (o+j) [dm p s.nx T.size (l! xs)])⟩ ob2:=by
       rw[mB rfl]at b4 ⊢;obtain⟨arr,a1,a2⟩:=b4;refine ⟨arr,a1,?_⟩;unfold vb at a2 ⊢;refine ⟨by simp only[BC.len]at a2 ⊢;rw[nv (by simp;omega)];exact a2.1,λoff x A=>?_⟩;simp only[BC.get]at A a2;rw[mJ (by simp;omega)]at A;split at A
       .exact a2.2 off x A
       .split at A
        .rename_i h3 h4;simp only[cj]at h4;have hj:off=o+j:=by omega
         subst hj;simp only[Ca,dH,af]at A;subst A;obtain⟨_,v,a3,a4⟩:=a2.2 _ _ hy;unfold dm at a4 ⊢;rw[av hp]at a4 ⊢;refine ⟨rfl,v,a3,?_⟩;cases a4 with
         |@G _ _ _ cc q hφq hn hc hs2=>
          have:=p2.sub _ _ k1;rw[this,af]at hφq;subst hφq;exact .G p1 hn hc hs2
        .exact a2.2 off x A
      obtain⟨q1,q2⟩:=p4.wset hb1 b1 (⟨rfl,rfl,rfl,rfl,b3,λ_ _=>rfl,λ_=>rfl⟩:HR w w kb ob2) hob (λn=>if n=nm b then Z ⟨cty,.mx (splice l' (o+j) [dm p s.nx T.size (l! xs)])⟩ else U) (by simp);have hH:e_ (e_ (erHF s.h) [nm s.nx,nm id] nw) [nm b] (λn=>if n=nm b then Z ⟨cty,.mx (splice l' (o+j) [dm p s.nx T.size (l! xs)])⟩ else U)=erHF L:=by
       funext n;by_cases e1:n=nm b
       .subst e1;rw[hnew];simp[e_]
       .by_cases e2:n=nm s.nx
        .subst e2;rw[hnx2,av hp];simp[e_,nw,hnb.symm]
        .by_cases N:n=nm id
         .subst N;rw[hdead];simp[e_,nw,hbi.symm,hni.symm]
         .rw[hoth n e1 e2 N];simp[e_,e1,e2,N]
      rw[hH]at q1 q2;have m:=p2.trans q1;refine ⟨φ',⟨q2,λt x A=>m.zq (c.env t x (hE t x A)),λn q hq=>?_,fU c.low,hinv,λt x A=>l_ hr x (c.qb t x A),c.inert,c.size⟩,⟨Gt.refl _ _,m.qr,λk hi=>?_⟩,fy.refl _ _⟩
      .rcases p3 n q hq with h4|h4
       .exact uJ (c.dom n q h4)
       .simp only[aE]at h4;subst h4;rw[dc];exact nZ _
      .cases hq:φ' k with
       |none=>
        cases hq2:V k with
        |none=>rfl
        |some z=>rw[p2.sub _ _ hq2]at hq;cases hq
       |some z=>
        rcases p3 _ _ hq with h4|h4
        .exact h4.symm
        .simp only[aE]at h4;subst h4;rw[dc]at hi;have:=c.low;omega
    .rename_i ty ai js D;cases h;obtain⟨φ',p1,p2⟩:=and c hb hv D;exact⟨φ',p1,p2,fy.refl _ _⟩
    .cases h
   .cases h
  .cases h
 .rename_i id hk;split at h
  .rename_i ty p T xs D;cases h;have hfr:=c.qz.fresh;have hidlt:=c.qz.low id _ D;have hin:id≠s.nx:=by omega
   generalize hh2:((s.h.set id (Z (.qj p T.size (l! xs)))).set s.nx (Z (.F ty p T xs)))=L;have j9:∀k,L.get k=if k=s.nx then Z (.F ty p T xs) else if k=id then Z (.qj p T.size (l! xs)) else s.h.get k:=λk=>by
    rw[<- hh2,PT.get_set,PT.get_set]
   have hr:b7 s.h L:=λk r hi=>by
    rw[bC]at hi ⊢;rw[j9];by_cases e2:k=s.nx
    .subst e2;rw[hfr]at hi;cases hi
    .rw[av e2];by_cases N:k=id
     .subst N;rw[aC rfl];rw[D]at hi;exact hi
     .rw[av N];exact hi
   have hrow:b9 L (.G s.nx)=Z (dm p s.nx T.size (l! xs)):=by
    simp only[b9,bC,j9,bk,aB,iG]
   have hrow0:b9 s.h (.G id)=Z (dm p id T.size (l! xs)):=by
    simp only[b9,bC,D,aB,iG]
   have hdead:erHF L (nm id)=U:=by rw[bL,j9,av hin,aC rfl];rfl
   have hnx2:erHF L (nm s.nx)=if p&&l! xs==0 then U else Z ⟨ty,.fz (xs.flatMap (bN T))⟩:=by rw[bL,j9,aC rfl];rfl
   have hid0:erHF s.h (nm id)=if p&&l! xs==0 then U else Z ⟨ty,.fz (xs.flatMap (bN T))⟩:=by rw[bL,D];rfl
   have hoth:∀n,n≠nm s.nx->n≠nm id->erHF L n=erHF s.h n:=λn e2 N=>l7 c.qz hr (iz.of λk=>by
    rw[j9];by_cases f2:k=s.nx
    .rw[aC f2,f2,hfr];exact .inr ⟨rfl,rfl⟩
    .rw[av f2];by_cases f3:k=id
     .rw[aC f3,f3,D];exact .inr ⟨rfl,rfl⟩
     .rw[av f3];exact .inl rfl) λk e=>by
    subst e;rw[j9,av (λe=>e2 (by rw[e])),av (λe=>N (by rw[e]))]
   have hni:nm s.nx≠nm id:=λe=>hin (ug e).symm
   have hinv:gW L (s.nx+1):=by
    refine ⟨λk ty2 l2 hil=>?_,λk q hiq=>?_⟩
    .rw[j9]at hil;split at hil
     .cases hil
     .split at hil
      .cases hil
      .exact fd hr l2 (c.qz.C k _ l2 hil)
    .rw[j9]at hiq;split at hiq
     .omega
     .split at hiq
      .omega
      .have:=c.qz.low k q hiq;omega
   have hE:∀t x,t≠i->fG (s.e.set i (Z (.G s.nx))) L t=Z x->fG s.e s.h t=Z x:=λt x ht A=>by
    simp only[fG,PT.get_set]at A ⊢;rw[av ht]at A;cases he:s.e.get t with
    |none=>rw[he]at A;cases A
    |some q=>
     rw[he]at A;obtain⟨z,hz⟩:=oe s.h q (c.qb t q he);simp only[aB,ft hr q z hz,af]at A;subst A;simp only[aB,hz]
   have hIE:su (s.e.set i (Z (.G s.nx))) L:=λt x A=>by
    simp only[PT.get_set]at A;split at A
    .cases A;exact Hr _ _ _ hrow
    .exact l_ hr x (c.qb t x A)
   have hKp:fy (j_ [.qx i j] 0) s.e (s.e.set i (Z (.G s.nx))):=λt ht v' hv'=>by
    simp only[PT.get_set]at hv';split at hv'
    .rename_i et;subst et;simp only[j_]at ht;rw[bn,bu.2 rfl]at ht;simp at ht
    .exact⟨v',hv',λ_=>rfl⟩
   have hk0:=c.env i (dm p id T.size (l! xs)) (by simp only[fG,hk,aB,hrow0]);by_cases hp:(p&&l! xs==0)=J
   .have hH:erHF L=erHF s.h:=by
     funext n;by_cases e2:n=nm s.nx
     .subst e2;rw[hnx2,aC hp,bL,hfr];rfl
     .by_cases N:n=nm id
      .subst N;rw[hdead,hid0,aC hp]
      .exact hoth n e2 N
    have hsame:dm p s.nx T.size (l! xs)=dm p id T.size (l! xs):=by unfold dm;rw[aC hp,aC hp]
    refine ⟨V,⟨by rw[hH];exact c.qn,λt x A=>?_,λn q hq=>uJ (c.dom n q hq),fU c.low,hinv,hIE,c.inert,c.size⟩,by rw[hH];exact xc.refl _ _ _ _,hKp⟩;rw[hH];by_cases ht:t=i
    .subst ht;simp only[fG,PT.get_set,bk,aB,hrow,af]at A;subst A;rw[hsame];exact hk0
    .exact c.env t x (hE t x ht A)
   .have hid1:erHF s.h (nm id)=Z ⟨ty,.fz (xs.flatMap (bN T))⟩:=by rw[hid0,av hp]
    obtain⟨kk,k1,k2,ob,k3,k4⟩:=c.qn.at_ _ _ hid1;have hφn:V (nm s.nx)=U:=by
     cases hq:V (nm s.nx) with
     |none=>rfl
     |some q=>have:=c.dom _ q hq;rw[dc]at this;omega
    let nw:HF:=λn=>if n=nm s.nx then Z ⟨ty,.fz (xs.flatMap (bN T))⟩ else U
    have hsh:HR w w kk ob:=⟨rfl,rfl,rfl,rfl,k3,λ_ _=>rfl,λ_=>rfl⟩
    obtain⟨φ',p1,p2,p3,p4⟩:=c.qn.wren hid1 k1 hφn hsh k4 nw (by simp[nw]) (by simp only[nw];rw[av hni.symm]);have hH:e_ (erHF s.h) [nm s.nx,nm id] nw=erHF L:=by
     funext n;by_cases e2:n=nm s.nx
     .subst e2;rw[hnx2,av hp];simp[e_,nw]
     .by_cases N:n=nm id
      .subst N;rw[hdead];simp[e_,nw,hni.symm]
      .rw[hoth n e2 N];simp[e_,e2,N]
    rw[hH]at p2 p4;refine ⟨φ',⟨p4,λt x A=>?_,λn q hq=>?_,fU c.low,hinv,hIE,c.inert,c.size⟩,⟨Gt.refl _ _,p2.qr,λk hi=>?_⟩,hKp⟩
    .by_cases ht:t=i
     .subst ht;simp only[fG,PT.get_set,bk,aB,hrow,af]at A;subst A;unfold dm at hk0 ⊢;rw[av hp]at hk0 ⊢;generalize Q.tmps.getD t undef=z at hk0;cases hk0 with
      |@G _ _ _ cc q hφq hn hc hs2=>
       rw[k1,af]at hφq;subst hφq;exact .G p1 hn hc hs2
     .exact p2.zq (c.env t x (hE t x ht A))
    .rcases p3 n q hq with h4|h4
     .exact uJ (c.dom n q h4)
     .simp only[aE]at h4;subst h4;rw[dc];exact nZ _
    .cases hq:φ' k with
     |none=>
      cases hq2:V k with
      |none=>rfl
      |some z=>rw[p2.sub _ _ hq2]at hq;cases hq
     |some z=>
      rcases p3 _ _ hq with h4|h4
      .exact h4.symm
      .simp only[aE]at h4;subst h4;rw[dc]at hi;have:=c.low;omega
  .cases h
 .cases h
def ao7 {s:TS} {w:World} (c:jA P E nt np V s Q w) {ad:Adj} {s':TS} (h:HP s ad=Z s') (hnr:∀k off,ad≠ .qx k off) (hnt:∀k off,ad≠ .jd k off):jA P E nt np V s' Q w/\xc np V V (erHF s.h) (erHF s'.h) w w/\fy (j_ [ad] 0) s.e s'.e:=by
 cases ad with
 |qx k off=>exact co rfl (hnr k off)
 |jd k off=>exact co rfl (hnt k off)
 |fmp k off ty S=>
  simp only[HP]at h;split at h
  .split at h
   .rename_i K' V' es L;split at h
    .rename_i hE;cases h;obtain⟨h1,h2⟩:=ard c L hE ty S;exact⟨h1,h2,fy.refl _ _⟩
    .cases h
   .cases h;exact⟨c,xc.refl _ _ _ _,fy.refl _ _⟩
   .cases h
  .cases h
 |frw k off off2 ty=>
  simp only[HP]at h;split at h
  .rename_i o id q _ _;split at h
   .rename_i ai es cty l ho L;split at h
    .rename_i v hv;split at h
     .rename_i hn;cases h;obtain⟨N,hH⟩:=ar9 c ai ty;have hid:id≠s.nx:=λe=>by have:=c.qz.low id _ L;omega
      obtain⟨c2,t2⟩:=V5 N (id:=id) (cty:=cty) (l:=l) (v:=v) (u:=.G s.nx) (by show (s.h.set s.nx _).get id=_;rw[PT.get_set,av hid];exact L) hv hn (by simp only[b9,bC,PT.get_set,bk,aB,iG,rV,dm];rfl) (by simp only[N0,bC,PT.get_set,bk];rfl);exact⟨c2,by rw[<- hH];exact t2,fy.refl _ _⟩
     .cases h;exact⟨c,xc.refl _ _ _ _,fy.refl _ _⟩
    .cases h
   .cases h
  .cases h
 |nil k ty T=>
  simp only[HP]at h;split at h
  .rename_i v hv;split at h
   .rename_i hn;cases h;obtain⟨N,hH,D⟩:=Z5 c ty T;refine ⟨⟨N.qn,?_,N.dom,N.low,N.qz,?_,N.inert,N.size⟩,by rw[hH];exact xc.refl _ _ _ _,?_⟩
    .intro t x A;simp only[fG,PT.get_set]at A;split at A
     .rename_i et;subst et;simp only[aB,b9,bC,PT.get_set,bk,iG,dm,kW,cm,fC,af]at A;subst A;obtain⟨z,hz⟩:=oe s.h v (c.qb _ v hv);rw[hH];exact UK hn hz _ _ _ _ (c.env _ _ (by simp only[fG,hv,aB,hz]))
     .exact N.env t x A
    .intro t x A;simp only[PT.get_set]at A;split at A
     .cases A;simp only[N0,bC,PT.get_set,bk];rfl
     .exact N.qb t x A
    .intro t ht v' hv';simp only[PT.get_set]at hv';split at hv'
     .rename_i et;subst et;simp only[j_]at ht;rw[bn,bu.2 rfl]at ht;simp at ht
     .exact⟨v',hv',λ_=>rfl⟩
   .cases h;exact⟨c,xc.refl _ _ _ _,fy.refl _ _⟩
  .cases h
 |qp k off ty T=>
  simp only[HP]at h;split at h
  .rename_i id o hk;split at h
   .rename_i cty l L;split at h
    .rename_i v hv;split at h
     .rename_i hn;cases h;obtain⟨N,hH,D⟩:=Z5 c ty T;have hid:id≠s.nx:=λe=>by have:=c.qz.low id _ L;omega
      obtain⟨c2,t2⟩:=V5 N (id:=id) (cty:=cty) (l:=l) (v:=v) (u:=.G s.nx) (by show (s.h.set s.nx _).get id=_;rw[PT.get_set,av hid];exact L) hv hn (by simp only[b9,bC,PT.get_set,bk,aB,iG,dm,kW,cm,fC]) (by simp only[N0,bC,PT.get_set,bk];rfl);exact⟨c2,by rw[<- hH];exact t2,fy.refl _ _⟩
     .cases h;exact⟨c,xc.refl _ _ _ _,fy.refl _ _⟩
    .cases h
   .cases h
  .cases h
 |mpt k K φ=>
  simp only[HP]at h;split at h
  .rename_i id hk;split at h
   .rename_i K' V' es L;split at h
    .rename_i hE;cases h;have D:b7 s.h (s.h.set id (Z (.mp K φ []))):=b7.set λr D=>by rw[bC,L]at D;cases D
     have hH:erHF (s.h.set id (Z (.mp K φ [])))=erHF s.h:=by
      funext n;by_cases hn:n=nm id
      .subst hn;rw[bL,bL,PT.get_set,aC rfl,L];simp only[aB,jR,zC (Xf (wq.1 hE).1),zC (wq.1 hE).2,Ld (wq.1 hE).1,wJ]
      .refine l7 c.qz D (iz.set (by rw[L];rfl) rfl) λi e=>?_
       subst e;rw[PT.get_set,av (λe=>hn (by rw[e]))]
     refine ⟨⟨by rw[hH];exact c.qn,?_,c.dom,c.low,c.qz.set D (c.qz.low id _ L) (bV _) (λ_ _ he=>by cases he),λt x A=>l_ D x (c.qb t x A),c.inert,c.size⟩,by rw[hH];exact xc.refl _ _ _ _,fy.refl _ _⟩;intro t x A;rw[hH];simp only[fG]at A;cases he:s.e.get t with
     |none=>rw[he]at A;cases A
     |some q=>
      rw[he]at A;obtain⟨z,hz⟩:=oe s.h q (c.qb t q he);simp only[aB,ft D q z hz,af]at A;subst A;exact c.env t _ (by simp only[fG,he,aB,hz])
    .cases h;exact⟨c,xc.refl _ _ _ _,fy.refl _ _⟩
   .cases h
  .cases h
 |mz k n=>
  simp only[HP]at h;split at h
  .rename_i id hk;split at h
   .rename_i K' V' es L;split at h
    .rename_i hE;cases h;have D:b7 s.h (s.h.set id (Z (.C U (aF n .nil)))):=b7.set λr D=>by rw[bC,L]at D;cases D
     have hold:erHF s.h (nm id)=Z ⟨0,.mp []⟩:=by rw[bL,L];simp only[aB,jR,zC (Xf hE),Ld hE,wJ]
     have hvs:∀(h:a_) m,cP h (aF m .nil)=Z (aF m (.f (.raw (.slice U 0 0)))):=λh m=>by
      induction m with
      |zero=>rfl
      |succ m ih=>rw[kR,kR];simp only[cP,b9,ih]
     have hnew:erHF (s.h.set id (Z (.C U (aF n .nil)))) (nm id)=Z ⟨1,.mp (pS 0 (aF n (.f (.raw (.slice U 0 0)))))⟩:=by
      rw[bL,PT.get_set,aC rfl];simp only[aB,jR,hvs]
     have hoth:∀q,q≠nm id->erHF (s.h.set id (Z (.C U (aF n .nil)))) q=erHF s.h q:=λq hn'=>l7 c.qz D (iz.set (by rw[L];rfl) rfl) λi e=>by
      subst e;rw[PT.get_set,av (λe=>hn' (by rw[e]))]
     have hdom:rh (erHF s.h) (erHF (s.h.set id (Z (.C U (aF n .nil))))):=λq b hb'=>by
      by_cases e:q=nm id
      .subst e;exact⟨_,hold⟩
      .rw[hoth q e]at hb';exact⟨b,hb'⟩
     have hV:JQ (erHF s.h) (erHF (s.h.set id (Z (.C U (aF n .nil))))):=⟨hdom,λq b b' h1 h2=>by
      by_cases e:q=nm id
      .subst e;rw[hold]at h1;cases h1;rw[hnew]at h2;cases h2;exact fH.lay n
      .rw[hoth q e,h1]at h2;cases h2;exact fH.refl hdom b⟩
     refine ⟨⟨hV.qn c.qn,?_,c.dom,c.low,c.qz.set D (c.qz.low id _ L) (bV _) (λty l2 he=>?_),λt x A=>l_ D x (c.qb t x A),c.inert,c.size⟩,⟨Gt.refl _ _,λk _ ho=>hdom.own ho,λ_ _=>rfl⟩,fy.refl _ _⟩
     .intro t x A;simp only[fG]at A;cases he:s.e.get t with
      |none=>rw[he]at A;cases A
      |some q=>
       rw[he]at A;obtain⟨z,hz⟩:=oe s.h q (c.qb t q he);simp only[aB,ft D q z hz,af]at A;subst A;exact (c.env t _ (by simp only[fG,he,aB,hz])).dom hdom
     .simp only[eP.C.injEq]at he;obtain⟨_,rfl⟩:=he;exact kQ _ _ _ (hvs _ n)
    .cases h
   .cases h;exact⟨c,xc.refl _ _ _ _,fy.refl _ _⟩
  .cases h
 |pk k off T=>
  simp only[HP]at h;split at h
  .obtain⟨h1,h2,h3⟩:=aqs c h;exact⟨h1,h2,h3.mono λk hk=>by simp at hk⟩
  .cases h
def ao6 {s:TS} {w:World} (c:jA P E nt np V s Q w) {ad:Adj} {s':TS} (h:HP s ad=Z s'):∃φ',jA P E nt np φ' s' Q w/\xc np V φ' (erHF s.h) (erHF s'.h) w w/\fy (j_ [ad] 0) s.e s'.e:=by
 by_cases A:∃k off,ad= .qx k off
 .obtain⟨k,off,rfl⟩:=A;exact aqo c h
 .by_cases z:∃k off,ad= .jd k off
  .obtain⟨k,off,rfl⟩:=z;simp only[HP]at h;split at h
   .obtain⟨he,φ',h1,D⟩:=an5 c h;exact⟨φ',h1,D,by rw[he];exact fy.refl _ _⟩
   .cases h
  .exact⟨V,ao7 c h (λk off e=>A ⟨k,off,e⟩) λk off e=>z ⟨k,off,e⟩⟩
def Sf {φ:PM} {a:Act} {w:World}:∀{l:Y Adj} {s s':TS},jA P E nt np φ s a w->V3 s l=Z s'->∃φ',jA P E nt np φ' s' a w/\xc np φ φ' (erHF s.h) (erHF s'.h) w w/\fy (j_ l 0) s.e s'.e
 |[],s,s',c,h=>by simp only[V3,af]at h;subst h;exact⟨φ,c,xc.refl _ _ _ _,fy.refl _ _⟩
 |ad::r,s,s',c,h=>by
  simp only[V3]at h;split at h
  .rename_i s1 h1;obtain⟨φ1,c1,D,k1⟩:=ao6 c h1;obtain⟨φ2,N,A,k2⟩:=Sf c1 h;refine ⟨φ2,N,D.trans A,(k1.mono ?_).trans (k2.mono ?_)⟩
   .intro k z;cases ad with
    |nil q ty T|qx q off=>simp only[j_]at z ⊢;rw[jX,bn,z];rfl
    |_=>simp[j_]at z
   .intro k z;cases ad with
    |nil q ty T|qx q off=>simp only[j_];rw[jX,bn,z];simp
    |_=>simp only[j_];exact z
  .cases h
mutual
def Uy {h:a_}:∀(v:TV) (y:AV),vO v=J->b9 h v=Z y->y.all (λ_=>aa)=J
 |.f _ _,y,_,he|.zk _ _ _ _ _,y,_,he|.emp,y,_,he|.nil,y,_,he|.undef,y,_,he|.np,y,_,he|.qw,y,_,he=>by simp only[b9,af]at he;subst he;rfl
 |.agg l,y,hl,he|.qg l,y,hl,he=>by
  simp only[b9]at he;split at he
  .rename_i l' hl';cases he;exact Hl l l' hl hl'
  .cases he
 |.ql _ _ _ _,_,h,_|.H _ _,_,h,_|.qv _ _ _,_,h,_|.G _,_,h,_|.zm _ _,_,h,_|.mp _,_,h,_|.qd _ _,_,h,_|.qy _ _,_,h,_=>by cases h
def Hl {h:a_}:∀(l:Y TV) (l':Y AV),rO l=J->cP h l=Z l'->AV.allL (λ_=>aa) l'=J
 |[],l',_,he=>by simp only[cP,af]at he;subst he;rfl
 |x::r,l',hl,he=>by
  obtain⟨y,l2,rfl,e1,e2⟩:=c9 he;simp only[rO,ak]at hl;simp only[AV.allL,ak];exact⟨Uy x y hl.1 e1,Hl r l2 hl.2 e2⟩
end
mutual
def Zy (h:a_):∀(v:TV),vO v=J->N0 h v=J
 |.f _ _,_|.zk _ _ _ _ _,_|.emp,_|.nil,_|.undef,_|.np,_|.qw,_=>rfl
 |.agg l,hl|.qg l,hl=>L2 h l hl
 |.ql _ _ _ _,h|.H _ _,h|.qv _ _ _,h|.G _,h|.zm _ _,h|.mp _,h|.qd _ _,h|.qy _ _,h=>by cases h
def L2 (h:a_):∀(l:Y TV),rO l=J->lR h l=J
 |[],_=>rfl
 |x::r,hl=>by
  simp only[rO,ak]at hl;simp only[lR,ak];exact⟨Zy h x hl.1,L2 h r hl.2⟩
end
structure Seen (np:Nat) (t:Tm) (x:t.ty.den) (us:List TV) (h1:a_) (φ φ':PM) (H:HF) (E:Nat->Prop) (w:World) (la lu:List AV):Prop where
 qn:r_ φ' E (erHF h1) w
 val:∀(j:Nat) y v,lu[j]? =Z y->∃z,la[j]? =Z z/\(cq φ (tot E φ H) w z v->cq φ' (tot E φ' (erHF h1)) w y v)
 len:l! lu=l! la
 tot_:∀k,tot E φ' (erHF h1) k->tot E φ H k
 qr:∀k,own φ' (erHF h1) k->own φ H k
 dom:∀n k,φ' n=Z k->ow n<l! t.bs
 par:∀n,ow n<np->ow n<l! t.bs->φ' n=φ n
def NS {t:Tm} {x:t.ty.den} {us:Y TV} {h1:a_} {l1:Y (M eP)} (I:pH t x us h1 l1) (hinv:gW h i) {vs:Y TV} {σ:PT Nat} {sm:Nat} (A:Kv np t vs h x j σ sm) {la:Y AV} (hla:cP h vs=Z la) {w:World} (r:r_ V E (erHF h) w):∃φ' lu,cP h1 us=Z lu/\Seen np t x us h1 V φ' (erHF h) E w la lu:=by
 obtain⟨x1,m1,x2,m2,hx,hmm,gv,gb⟩:=A.ex;have hmr:dE h j:=by rw[hmm];exact (Kl _ _ _ _ gv).or (Kn _ _ _ _ gb)
 have pvg:rm (io σ) t.vs x1=Z (ll (io σ) us):=by
  have h3:=vh (io σ) t.vs x1;have L:=I.pv;rw[hx,uV]at L;rw[h3,L];rfl
 have pbg:pK (io σ) t.bs x2=Z (l1.map (ii (kT (io σ)))):=by
  have h3:=xT (io σ) t.bs x2;have L:=I.pb;rw[hx,wL]at L;rw[h3,L];rfl
 have hbm:∀nx b,l1[nx]? =Z (Z b)->∃b0,h.get (io σ nx)=Z b0/\BM (io σ) h j b0 (kT (io σ) b):=λnx b D=>by
  obtain⟨b0,q1,q2⟩:=LZ t.bs 0 x2 m2 _ gb pbg nx (kT (io σ) b) (by rw[aT,D];rfl);rw[bF]at q1;exact⟨b0,q1,q2.mono λm hj=>by rw[hmm,bn,hj];simp⟩
 let hv:a_:=CH (io σ) 0 (l1.map (ii (kT (io σ)))) PT.leaf
 have hv_at:∀nx b,l1[nx]? =Z (Z b)->hv.get (io σ nx)=Z (kT (io σ) b):=λnx b D=>by
  have:=wO (io σ) (l1.map (ii (kT (io σ)))) 0 PT.leaf (λa b ha D=>by
   simp only[bH,I.len]at ha D;simp only[bF];exact A.inj a b ha D) nx (Z (kT (io σ) b)) (by rw[aT,D];rfl)
  rw[bF]at this;exact this
 have hv_ex:∀m c,hv.get m=Z c->∃nx b,l1[nx]? =Z (Z b)/\m=io σ nx/\c=kT (io σ) b:=λm c hj=>by
  by_cases hex:∃nx,nx<l1.length/\m=io σ nx
  .obtain⟨nx,hi,rfl⟩:=hex;have hcc:=aD hi;cases hcv:l1[nx] with
   |some b=>rw[hcv]at hcc;rw[hv_at nx b hcc]at hj;cases hj;exact⟨nx,b,hcc,rfl,rfl⟩
   |none=>
    rw[hcv]at hcc;have:=wO (io σ) (l1.map (ii (kT (io σ)))) 0 PT.leaf (λa b ha D=>by
     simp only[bH,I.len]at ha D;simp only[bF];exact A.inj a b ha D) nx U (by rw[aT,hcc];rfl)
    rw[bF]at this;have hj':(CH (io σ) 0 (l1.map (ii (kT (io σ)))) PT.leaf).get (io σ nx)=Z c:=hj;rw[this]at hj';simp[PT.get]at hj'
  .have:hv.get m=(PT.leaf:a_).get m:=wN (io σ) _ 0 _ m λk N=>by
    simp only[bH]at N;rw[bF];exact λe=>hex ⟨k,N,e⟩
   rw[this]at hj;simp[PT.get]at hj
 have rows_in:Ac hv h:=λm q hq=>by
  rw[bC]at hq ⊢;cases hc:hv.get m with
  |none=>rw[hc]at hq;cases hq
  |some c=>
   rw[hc]at hq;obtain⟨nx,b,q1,rfl,rfl⟩:=hv_ex m c hc;obtain⟨b0,q2,q3⟩:=hbm nx b q1;rw[q2];simp only[aB]at hq ⊢;rw[<- q3.G];exact hq
 have rows_h1:∀nx q,eE h1 nx=Z q->eE hv (io σ nx)=Z q:=λnx q hq=>by
  rw[bC]at hq ⊢;cases D:h1.get nx with
  |none=>rw[D]at hq;cases hq
  |some b=>
   rw[D]at hq;rw[hv_at nx b ((I.at_ nx b).1 D)];simp only[aB,KM]at hq ⊢;exact hq
 have hd:rh (erHF h) (erHF hv):=λn y hy=>by
  obtain⟨c,h3,L⟩:=iO hy;obtain⟨nx,b,q1,e,rfl⟩:=hv_ex _ c h3;obtain⟨b0,q2,q3⟩:=hbm nx b q1;unfold erHF;rw[e,q2];rw[e]at L;cases N:ix n with
  |zero=>
   rw[N]at L;exact BM.erB_some hinv q2 q3 L
  |succ k=>
   rw[N]at L;exact⟨y,(q3.mem _ _).trans L⟩
 have gvv:Eo h (erHF h) (erHF hv) j:=λnx hi=>⟨rfl,by
  cases hc:erHF hv (nm nx) with
  |none=>rfl
  |some y=>
   obtain⟨c,h3,L⟩:=iO hc;rw[dc]at h3;obtain⟨k,b,q1,rfl,rfl⟩:=hv_ex nx c h3;have N:k<t.bs.length:=by rw[<- I.len];exact (bi.1 q1).1
   have h5:=A.disj _ hi;rw[(A.sig _).2 ⟨k,N,rfl⟩]at h5;cases h5⟩
 have φ:JQ (erHF h) (erHF hv):=⟨hd,λn b b' D hb'=>by
  obtain⟨c,h3,L⟩:=iO hb';obtain⟨nx,bb,q1,e,rfl⟩:=hv_ex _ c h3;obtain⟨b0,q2,q3⟩:=hbm nx bb q1;unfold erHF at D;rw[e,q2]at D;rw[e]at L;have D:NH h (io σ nx) (ix n) b0=Z b:=D;cases N:ix n with
  |zero=>
   rw[N]at L D;exact BM.view hd gvv rows_in q3 D L
  |succ k=>
   rw[N]at L D;have:=(q3.mem _ _).symm.trans D;have L:ww (io σ nx) k (kT (io σ) bb)=Z b':=L;rw[L]at this;cases this;exact fH.refl hd _⟩
 have rv:=φ.qn r;have T:akt t x us h1 (io σ) V E E (erHF hv) w:=by
  have hat:∀n y,erHF h1 n=Z y->erHF hv (pI (io σ) n)=Z (y.qx (pI (io σ))):=λn y hn=>by
   obtain⟨b,D,hyb⟩:=iO hn;unfold erHF;rw[xh,zG,hv_at _ b ((I.at_ _ b).1 D)];exact Cn rows_h1 hyb
  refine r_.toId I A.inj rv hat (λk N=>.inl N) (λn k y hn L hE=>?_) rv.el;obtain⟨k',p1,p2,_⟩:=rv.at_ _ _ (hat n y hn);rw[L]at p1;cases p1;exact p2 hE
 obtain⟨lu,hlu⟩:=eX h1 us I.ok;have hlug:cP hv (ll (io σ) us)=Z (AV.renL (pI (io σ)) lu):=qi rows_h1 us lu hlu;have hle:=Fu hd rows_in t.vs vs x1 m1 _ la _ gv pvg hla hlug (λnx hi=>gvv nx (by rw[hmm,bn,hi];rfl));have hall:=ta us lu I.lt hlu;refine ⟨_,lu,hlu,T.qn,λm y v hy=>?_,?_,λk N=>hd.tot (T.tot_ k N),λk N=>hd.own (T.qr k N),λn k N=>?_,λnx hi D=>?_⟩
 .rw[od]at hle;obtain⟨z,hz,hlz⟩:=hle.get m (y.qx (pI (io σ))) (by rw[aT,hy];rfl);exact⟨z,hz,λhr=>T.val y v (nj hall y (aX hy)) (hlz _ _ _ _ r hr)⟩
 .have:=hle.length;rw[od,bH]at this;exact this
 .exact (yV N).1
 .rw[adk D];unfold pI;rw[A.fix _ hi,kO]
def Q6 {s':TS} {w:World} (c:jA P E nt np V s' Q w) {A:Ann} {s0 s1:TS} {x:A.D} (L:Oq np A i s0 s'=Z x) (hs:Jj A i s0 x=Z s1)
 (hk:∀k,k∈A.zq->k∉A.ks->∀v,s0.e.get k=Z v->vO v=J->aK i k=aa->∀v',s'.e.get k=Z v'->v'=v):∃φ',jA P E nt np φ' s1 Q w/\xc np V φ' (erHF s'.h) (erHF s1.h) w w:=by
 unfold Oq at L;split at L
 .rename_i hc;simp only[ak]at hc;have hnp:=aU hc.1;split at L
  .rename_i s2 h2;obtain⟨φ2,c2,t2,_⟩:=Sf c h2;split at L
   .rename_i vs hvs;split at L
    .rename_i z m σ sm hM;cases L;have B:=yc hM;unfold Jj at hs;split at hs
     .rename_i us h1 hi;obtain⟨l1,I⟩:=yi hi;split at hs
      .rename_i hlen;have hlen:=au hlen;cases hs;obtain⟨g1,g2⟩:=Zx hvs;have hvok:lR s2.h vs=J:=K6 c2.qb hvs;obtain⟨la,hla⟩:=eX s2.h vs hvok;obtain⟨φ',lu,hlu,S⟩:=NS (E:=E) I c2.qz B hla c2.qn;refine ⟨φ',⟨S.qn,?_,S.dom,hnp,⟨λam ty l hl=>(I.C am _ l hl).1,λam b hb=>I.lt_len hb⟩,?_,c.inert,c.size⟩,t2.trans ⟨Gt.refl _ _,λk _ h=>S.qr k h,λam hi=>S.par am hi (by omega)⟩⟩
       .intro t y N;simp only[fG]at N;cases ht:(aad (Ff i s0.e A.zq) A.ks us).get t with
        |none=>rw[ht]at N;cases N
        |some v=>
         rw[ht]at N;simp only[aB]at N;rcases EM hlen t v ht with ⟨j,q1,q2⟩|⟨q1,q2⟩
         .obtain⟨y',p1,p2⟩:=lF hlu j v q2;rw[N]at p2;cases p2;obtain⟨z,p3,p4⟩:=S.val j y (Q.tmps.getD t undef) p1;refine p4 ?_;obtain⟨v0,p5,p6⟩:=g2 j t q1;obtain⟨z',p7,p8⟩:=lF hla j v0 p5;rw[p3]at p7;cases p7;exact c2.env t _ (by simp only[fG,p6,aB,p8])
         .obtain⟨k1,k2,k3,k4⟩:=vj q2;obtain⟨v',k5⟩:=Lt hc.2 t v k1 k2 k3 k4;have:=hk t k1 q1 v k2 k3 k4 v' k5;subst this;have h3:=c.env t y (by simp only[fG,k5,aB];rw[UL s'.h h1 v' k3];exact N);exact h3.restrict (p:=λ_=>aa) (λam k hi _=>by cases hi) (λk hk=>by
           have h4:=S.tot_ k hk;rcases h4 with h4|h4
           .exact .inl h4
           .exact .inr (by
             have hkl:k<w.heap.size:=by
              obtain⟨n,b,e1,e2⟩:=h4;obtain⟨k',p1,_,ob,p3,_⟩:=c2.qn.at_ n b e1;rw[e2]at p1;cases p1;exact (cw.1 p3).1
             exact t2.qr k hkl h4)) (Uy v' y k3 N)
       .intro t v hv;rcases EM hlen t v hv with ⟨j,q1,q2⟩|⟨q1,q2⟩
        .obtain⟨y',_,p2⟩:=lF hlu j v q2;exact Hr _ _ _ p2
        .exact Zy _ v (vj q2).2.2.1
      .cases hs
     .cases hs
    .cases L
   .cases L
  .cases L
 .cases L
def GH {A:Ann} {L s1:TS} {x:A.D} (z:Jj A i L x=Z s1):fy (N3 A.ks 0) L.e s1.e/\∀k,k∉A.ks->∀v,s1.e.get k=Z v->L.e.get k=Z v:=by
 unfold Jj at z;split at z
 .rename_i us h1 hi;split at z
  .rename_i hlen;have hlen:=au hlen;cases z;have key:∀k,k∉A.ks->∀v,(aad (Ff i L.e A.zq) A.ks us).get k=Z v->L.e.get k=Z v:=λk N v hv=>by
    rcases EM hlen k v hv with ⟨j,q1,_⟩|⟨_,q2⟩
    .exact co (aX q1) N
    .exact (vj q2).2.1
   refine ⟨λk N v' hv=>?_,key⟩;have hnk:k∉A.ks:=λhm=>by rw[Zn hm]at N;cases N
   exact⟨v',key k hnk v' hv,λ_=>rfl⟩
  .cases z
 .cases z
end walk
inductive Er:TC->SC->Prop
 |skip:Er .skip .skip
 |jz (ops:List tX) (prs:List (Nat×Nat)):Er (.jz ops prs) (.jz ops prs)
 |seq {a b:TC} {a' b':SC}:Er a a'->Er b b'->Er (.seq a b) (.seq a' b')
 |zn (A:Ann) {a b:TC} {a' b':SC}:Er a a'->Er b b'->Er (.zn A a b) (.seq a' b')
 |cond (c:Nat) {a b:TC} {a' b':SC}:Er a a'->Er b b'->Er (.cond c a b) (.cond c a' b')
 |block (id:Nat) {b:TC} {b':SC}:Er b b'->Er (.block id b) (.block id b')
 |zj (A:Ann) (id:Nat) {b:TC} {b':SC}:Er b b'->Er (.zj A id b) (.block id b')
 |loop (A:Ann) {b:TC} {b':SC}:Er b b'->Er (.loop A b) (.loop b')
 |exit (id:Nat):Er (.exit id) (.exit id)
 |ret:Er .ret .ret
 |defer (f:FuncId) (c:List Operand) (t:Nat):Er (.defer f c t) (.defer f c t)
 |adj (l:List Adj) {c:TC} {c':SC}:Er c c'->Er (.adj l c) c'
 |split (k off lo n:Nat) {c:TC} {c':SC}:Er c c'->Er (.split k off lo n c) c'
 |bsp (t:Nat) {a b:TC} {c':SC}:Er a c'->Er b c'->Er (.bsp t a b) c'
 |unl (n:Nat) {b:TC} {b':SC}:Er b b'->Er (.unl n b) (.loop b')
 |zd (c:SC):Er .zd c
def ED {H:PT ahm} {c:TC} {z:SC} (h:Er c z):Er (Kx H i c) z:=by
 unfold Kx;split
 .exact .adj _ h
 .exact .split _ _ _ _ h
 .exact .bsp _ (.split _ _ _ _ h) h
 .exact h
def zY (H:PT ahm):∀(c:SC) (n:Nat),Er (F7 H c n).1 c
 |.skip,n=>ED .skip
 |.jz o p,n=>ED (.jz o p)
 |.seq a b,n=>by
  have h1:=zY H a (n+1);have z:=zY H b (F7 H a (n+1)).2;simp only[F7];split
  .exact .zn _ h1 z
  .exact .seq h1 z
 |.cond c a b,n=>by
  have h1:=zY H a (n+1);have z:=zY H b (F7 H a (n+1)).2;simp only[F7];exact ED (.cond c h1 z)
 |.block id b,n=>by
  have h1:=zY H b (n+1);simp only[F7];split
  .exact .zj _ id h1
  .exact .block id h1
 |.loop b,n=>by
  have h1:=zY H b (n+1);simp only[F7];split
  .exact .loop _ h1
  .exact .unl _ h1
  .exact .zd _
 |.exit id,n=>ED (.exit id)
 |.ret,n=>ED .ret
 |.defer f c t,n=>.defer f c t
 |.zd,n=>.zd _
def aaq {σ:Type} {step:σ->M (σ⊕R)} {x:σ} {r:R} (h:iter step x=Z r):∃n,iterN step n x=Z r:=by
 unfold iter at h;split at h
 .exact⟨_,h⟩
 .cases h
def Zp {α:Type} {o:M (R⊕α)} {k:α->M R} {r:R} (h:jn o k=Z r):(∃x,o=Z (.inr x)/\k x=Z r)\/o=Z (.inl r):=by
 unfold jn at h;split at h
 .exact .inl ⟨_,rfl,h⟩
 .cases h;exact .inr rfl
 .cases h
section inv
variable {P:Program} {nt:Nat}
def I7 (id:Nat) (ops:Array Oper) (z:Bool):cK P nt (.region id ops z)= .zd\/
 ((ops.toList.all λo=>match o.dst with|some d=>decide (d<nt)|none=>J)=J/\
   ((∃f caps t,ZN ops z=Z (f,caps,t)/\cK P nt (.region id ops z)= .defer f caps t)\/
    ∃l prs,tA P ops ops.toList=Z l/\Pd ops l=Z prs/\cK P nt (.region id ops z)= .jz l prs)):=by
 simp only[cK];split
 .rename_i hd;split
  .rename_i f caps t h;exact .inr ⟨hd,.inl ⟨f,caps,t,h,rfl⟩⟩
  .split
   .rename_i l A;split
    .rename_i prs hp;exact .inr ⟨hd,.inr ⟨l,prs,A,hp,rfl⟩⟩
    .exact .inl rfl
   .exact .inl rfl
 .exact .inl rfl
def Jl:Code->Bool
 |.cond (.const (.bool _)) _ _=>aa
 |_=>J
def l9 (P:Program) (nt:Nat) (c:Code):∃z,Jl z=J/\cK P nt z=cK P nt c/\∀Q a w,z.wp P Q a w->c.wp P Q a w:=by
 have self:∀c:Code,Jl c=J->∃z,Jl z=J/\cK P nt z=cK P nt c/\∀Q a w,z.wp P Q a w->c.wp P Q a w:=λc h=>⟨c,h,rfl,λ_ _ _ h=>h⟩
 induction c with
 |cond o x y ihx ihy=>
  cases o with
  |const v=>
   cases v with
   |bool b=>
    cases b with
    |true=>
     obtain⟨z,h1,D,A⟩:=ihx;exact⟨z,h1,D,λQ a w h=>wp_cond_true rfl (A Q a w h)⟩
    |false=>
     obtain⟨z,h1,D,A⟩:=ihy;exact⟨z,h1,D,λQ a w h=>wp_cond_false rfl (A Q a w h)⟩
   |_=>exact self _ rfl
  |_=>exact self _ rfl
 |_=>exact self _ rfl
variable {s:Operand}
def Lu {α:Prop} {x y:Code} {sc:SC} (z:Jl (.cond s x y)=J) (h:cK P nt (.cond s x y)=sc) (h1:sc≠ .zd) (A:∀t a b,sc≠ .cond t a b):α:=by
 cases s with
 |tmp q=>exact (A _ _ _ h.symm).elim
 |const v=>cases v<;>first|exact (h1 h.symm).elim|cases z
 |_=>exact (h1 h.symm).elim
def ajd {c:Code} {sl:Y tX} {prs:Y o?} (A:Jl c=J) (h:cK P nt c= .jz sl prs):∃id ops z,c= .region id ops z/\(ops.toList.all λo=>match o.dst with|some d=>decide (d<nt)|none=>J)=J/\tA P ops ops.toList=Z sl/\Pd ops sl=Z prs:=by
 cases c with
 |region id ops z=>
  rcases I7 (P:=P) (nt:=nt) id ops z with h1|⟨hd,⟨f,caps,t,_,h1⟩|⟨l,p,L,D,h1⟩⟩
  .rw[h1]at h;cases h
  .rw[h1]at h;cases h
  .rw[h1]at h;cases h;exact⟨id,ops,z,rfl,hd,L,D⟩
 |cond o x y=>exact Lu A h (by simp) (by simp)
 |_=>simp[cK]at h
def qG {c:Code} {sc:SC} (h:cK P nt c=sc) (h1:sc≠ .zd) (L:∀a b,sc≠ .jz a b) (D:∀a b t,sc≠ .defer a b t):∀id ops A,c≠ .region id ops A:=by
 rintro id ops A rfl;rcases I7 (P:=P) (nt:=nt) id ops A with z|⟨_,⟨f,caps,t,_,z⟩|⟨l,p,_,_,z⟩⟩<;>rw[z]at h
 .exact h1 h.symm
 .exact D _ _ _ h.symm
 .exact L _ _ h.symm
def afh {c:Code} (z:Jl c=J) (h:cK P nt c= .skip):c= .skip:=by
 have nr:=qG h (by simp) (by simp) (by simp);cases c with
 |skip=>rfl
 |region id ops A=>exact co rfl (nr id ops A)
 |cond o x y=>exact Lu z h (by simp) (by simp)
 |_=>simp[cK]at h
def ajc {c:Code} (z:Jl c=J) (h:cK P nt c= .ret):c= .ret:=by
 have nr:=qG h (by simp) (by simp) (by simp);cases c with
 |ret=>rfl
 |region id ops A=>exact co rfl (nr id ops A)
 |cond o x y=>exact Lu z h (by simp) (by simp)
 |_=>simp[cK]at h
def afi {c:Code} (z:Jl c=J) (h:cK P nt c= .exit i):c= .exit i:=by
 have nr:=qG h (by simp) (by simp) (by simp);cases c with
 |exit id=>simp[cK]at h;rw[h]
 |region id ops A=>exact co rfl (nr id ops A)
 |cond o x y=>exact Lu z h (by simp) (by simp)
 |_=>simp[cK]at h
def Zr {c:Code} {a b:SC} (z:Jl c=J) (h:cK P nt c= .seq a b):∃x y,c= .seq x y/\cK P nt x=a/\cK P nt y=b:=by
 have nr:=qG h (by simp) (by simp) (by simp);cases c with
 |seq x y=>simp[cK]at h;exact⟨x,y,rfl,h.1,h.2⟩
 |region id ops A=>exact co rfl (nr id ops A)
 |cond o x y=>exact Lu z h (by simp) (by simp)
 |_=>simp[cK]at h
def afj {c:Code} {t:Nat} {a b:SC} (z:Jl c=J) (h:cK P nt c= .cond t a b):∃x y,c= .cond (.tmp t) x y/\cK P nt x=a/\cK P nt y=b:=by
 have nr:=qG h (by simp) (by simp) (by simp);cases c with
 |cond o x y=>
  cases o with
  |tmp q=>simp[cK]at h;obtain⟨rfl,h1,A⟩:=h;exact⟨x,y,rfl,h1,A⟩
  |const v=>cases v<;>first|(simp [cK]at h;done)|cases z
  |_=>simp[cK]at h
 |region id ops D=>exact co rfl (nr id ops D)
 |_=>simp[cK]at h
def Pt {c:Code} {b:SC} (z:Jl c=J) (h:cK P nt c= .block i b):∃y,c= .block i y/\cK P nt y=b:=by
 have nr:=qG h (by simp) (by simp) (by simp);cases c with
 |block id y=>simp[cK]at h;obtain⟨rfl,h1⟩:=h;exact⟨y,rfl,h1⟩
 |region i ops A=>exact co rfl (nr i ops A)
 |cond o x y=>exact Lu z h (by simp) (by simp)
 |_=>simp[cK]at h
def TO {c:Code} {b:SC} (z:Jl c=J) (h:cK P nt c= .loop b):∃y,c= .loop y/\cK P nt y=b:=by
 have nr:=qG h (by simp) (by simp) (by simp);cases c with
 |loop y=>simp[cK]at h;exact⟨y,rfl,h⟩
 |region id ops A=>exact co rfl (nr id ops A)
 |cond o x y=>exact Lu z h (by simp) (by simp)
 |_=>simp[cK]at h
end inv
def amo (P:Program) (E:Nat->Prop) (nt np:Nat) (φ:PM) (s:TS) (w:World) (am:Nat) (K:Ex->TS->M R) (r:R):Exit->Act->World->Prop:=
 λe z w'=>∃ex s' φ',e=ex.to/\K ex s'=Z r/\jA P E nt np φ' s' z w'/\xc np φ φ' (erHF s.h) (erHF s'.h) w w'/\fy am s.e s'.e
def jA.bool {s:TS} {w:World} (c:jA P O i j V s Q w) {t:Nat} (ht:s.e.get t=Z (.f .bool b)):Q.eval (.tmp t)= .bool b:=
 e9 (c.env t _ (by simp only[fG,ht,aB,b9];rfl))
def jA.qw {s:TS} {w:World} (c:jA P O i j V s Q w) {t:Nat} (ht:s.e.get t=Z .qw):∃b,Q.eval (.tmp t)= .bool b:=by
 have:=c.env t .qw (by simp only[fG,ht,aB,b9]);show ∃b,Q.tmps.getD t undef= .bool b;generalize Q.tmps.getD t undef=z at this;cases this with
 |qw=>exact⟨_,rfl⟩
def ac0 {a b:M R} {r:R} (h:HJ a b=Z r):a=Z r/\b=Z r:=by
 unfold HJ at h;split at h
 .rename_i e;exact⟨h,by rw[<- e];exact h⟩
 .cases h
def an2 {E:Nat->Prop} {inert:FuncId->Bool} (hm:P.follows .mixedOrders=J) (hcon:Gv P X) (hin:Sn P inert):
 ∀{tc:TC} {sc:SC},Er tc sc->∀(c:Code),cK P i c=sc->∀(R:Type) (s:TS) (K:Ex->TS->M R) (r:R),oW j X W inert tc s K=Z r->∀(φ:PM) (a:Act) (w:World),jA P E i j φ s a w->c.wp P (amo P E i j φ s w (tc.asg 0) K r) a w:=by
 intro tc sc hE;induction hE with
 |skip=>
  intro c hc R s K r h φ a w g;obtain⟨c',hn,N,hsim⟩:=l9 P i c;refine hsim _ _ _ ?_;rw[<- N]at hc;rw[afh hn hc];exact wp_skip ⟨.normal,s,φ,rfl,h,g,xc.refl _ _ _ _,fy.refl _ _⟩
 |jz ops prs=>
  intro c hc R s K r h φ a w g;obtain⟨c',hn,N,hsim⟩:=l9 P i c;refine hsim _ _ _ ?_;rw[<- N]at hc;obtain⟨id,os,dr,rfl,h1,h2,h3⟩:=ajd hn hc;simp only[oW]at h;refine aee (K:=λs'=>K .normal s') hm hcon g (am:=Sa ops 0) (λnp o d ho hd=>?_) h1 h2 h3 h λa' w' s' φ' q1 L q3 q4=>⟨.normal,s',φ',rfl,q1,L,q3,q4⟩
  have hmem:o∈os.toList:=by have:=Array.mem_of_getElem? ho;simpa using this
  have key:∀(rest:Y Oper) (sl:Y tX),tA P os rest=Z sl->∀o∈rest,∃so∈sl,so.dst=o.dst:=by
   intro rest;induction rest with
   |nil=>intro sl _ o ho;cases ho
   |cons x rest ih=>
    intro sl hsl o ho;simp only[tA]at hsl;split at hsl
    .rename_i l hl;have:∃so,sl=so::l/\so.dst=x.dst:=by
      split at hsl
      .simp only[af]at hsl;exact⟨_,hsl.symm,rfl⟩
      .split at hsl
       .simp only[af]at hsl;exact⟨_,hsl.symm,rfl⟩
       .cases hsl
     obtain⟨so,rfl,hso⟩:=this;rcases aZ.1 ho with rfl|ho
     .exact⟨so,by simp,hso⟩
     .obtain⟨q,hq,hq2⟩:=ih l hl o ho;exact⟨q,by simp[hq],hq2⟩
    .cases hsl
  obtain⟨so,hso,hd2⟩:=key os.toList ops h2 o hmem;exact VW hso (by rw[hd2];exact hd)
 |@seq x y x' y' _ _ ihx ihy=>
  intro c hc R s K r h φ a w g;obtain⟨c',hn,N,hsim⟩:=l9 P i c;refine hsim _ _ _ ?_;rw[<- N]at hc;obtain⟨cx,cy,rfl,h1,h2⟩:=Zr hn hc;simp only[oW]at h;refine wp_seq (wp_mono (ihx cx h1 R s _ r h φ a w g) ?_);rintro e a' w' ⟨ex,s',φ',rfl,z,g',st,kp⟩;have kp':fy ((TC.seq x y).asg 0) s.e s'.e:=kp.mono λk z=>by simp only[TC.asg];exact kj z
  cases ex with
  |normal=>
   refine wp_mono (ihy cy h2 R s' K r z φ' a' w' g') ?_;rintro e2 a2 w2 ⟨ex2,s2,φ2,rfl,hk2,g2,st2,kp2⟩;exact⟨ex2,s2,φ2,rfl,hk2,g2,st.trans st2,kp'.trans (kp2.mono λk z=>by simp only[TC.asg];exact uY z)⟩
  |exit id=>exact⟨.exit id,s',φ',rfl,z,g',st,kp'⟩
  |ret=>exact⟨.ret,s',φ',rfl,z,g',st,kp'⟩
 |@zn A x y x' y' _ _ ihx ihy=>
  intro c hc R s K r h φ a w g;obtain⟨c',hn,N,hsim⟩:=l9 P i c;refine hsim _ _ _ ?_;rw[<- N]at hc;obtain⟨cx,cy,rfl,h1,h2⟩:=Zr hn hc;simp only[oW]at h;have sub1:∀k,aK (x.asg 0) k=J->aK ((TC.zn A x y).asg 0) k=J:=λk z=>by simp only[TC.asg];exact kj (uY z)
  have sub2:∀k,aK (y.asg 0) k=J->aK ((TC.zn A x y).asg 0) k=J:=λk z=>by simp only[TC.asg];exact uY z
  have sub3:∀k,aK (N3 A.ks 0) k=J->aK ((TC.zn A x y).asg 0) k=J:=λk z=>by simp only[TC.asg];exact kj (kj z)
  rcases Zp h with ⟨d,h3,h4⟩|h3
  .refine wp_seq (wp_mono (ihx cx h1 _ s _ _ h3 φ a w g) ?_);rintro e a' w' ⟨ex,s',φ',rfl,z,g',st,kp⟩;cases ex with
   |normal=>
    simp only[]at z;obtain⟨d',q1,L⟩:=dV z;simp only[af,Sum.inr.injEq]at L;subst L;split at h4
    .rename_i s1 hs1;obtain⟨φ1,g1,KF⟩:=Q6 g' q1 hs1 λk _ _ v hv hf ha v' hv'=>by
      obtain⟨v0,e1,e2⟩:=kp k ha v' hv';rw[hv]at e1;cases e1;exact e2 hf
     refine wp_mono (ihy cy h2 R s1 K r h4 φ1 a' w' g1) ?_;rintro e2 a2 w2 ⟨ex2,s2,φ2,rfl,hk2,g2,st2,kp2⟩;exact⟨ex2,s2,φ2,rfl,hk2,g2,(st.trans KF).trans st2,((GH hs1).1.mono sub3).trans (kp2.mono sub2)⟩
    .cases h4
   |_=>simp only[]at z;obtain⟨_,_,L⟩:=dV z;simp at L
  .refine wp_seq (wp_mono (ihx cx h1 _ s _ _ h3 φ a w g) ?_);rintro e a' w' ⟨ex,s',φ',rfl,z,g',st,kp⟩;cases ex with
   |normal=>simp only[]at z;obtain⟨_,_,L⟩:=dV z;simp at L
   |exit id=>
    simp only[]at z;obtain⟨r',q1,L⟩:=dV z;simp only[af,Sum.inl.injEq]at L;subst L;exact⟨.exit id,s',φ',rfl,q1,g',st,kp.mono sub1⟩
   |ret=>
    simp only[]at z;obtain⟨r',q1,L⟩:=dV z;simp only[af,Sum.inl.injEq]at L;subst L;exact⟨.ret,s',φ',rfl,q1,g',st,kp.mono sub1⟩
 |@cond t x y x' y' _ _ ihx ihy=>
  intro c hc R s K r h φ a w g;obtain⟨c',hn,N,hsim⟩:=l9 P i c;refine hsim _ _ _ ?_;rw[<- N]at hc;obtain⟨cx,cy,rfl,h1,h2⟩:=afj hn hc;simp only[oW]at h;split at h
  .rename_i b hb;rcases lN h with ⟨rfl,h⟩|⟨rfl,h⟩
   .refine wp_cond_true (g.bool hb) (wp_mono (ihx cx h1 R s K r h φ a w g) ?_);rintro e a' w' ⟨ex,s',φ',rfl,z,g',st,kp⟩;exact⟨ex,s',φ',rfl,z,g',st,kp.mono λk z=>by simp only[TC.asg];exact kj z⟩
   .refine wp_cond_false (g.bool hb) (wp_mono (ihy cy h2 R s K r h φ a w g) ?_);rintro e a' w' ⟨ex,s',φ',rfl,z,g',st,kp⟩;exact⟨ex,s',φ',rfl,z,g',st,kp.mono λk z=>by simp only[TC.asg];exact uY z⟩
  .rename_i hb;obtain⟨ha,hbb⟩:=ac0 h;obtain⟨bv,hbv⟩:=g.qw hb;cases bv with
   |true=>
    refine wp_cond_true hbv (wp_mono (ihx cx h1 R s K r ha φ a w g) ?_);rintro e a' w' ⟨ex,s',φ',rfl,z,g',st,kp⟩;exact⟨ex,s',φ',rfl,z,g',st,kp.mono λk z=>by simp only[TC.asg];exact kj z⟩
   |false=>
    refine wp_cond_false hbv (wp_mono (ihy cy h2 R s K r hbb φ a w g) ?_);rintro e a' w' ⟨ex,s',φ',rfl,z,g',st,kp⟩;exact⟨ex,s',φ',rfl,z,g',st,kp.mono λk z=>by simp only[TC.asg];exact uY z⟩
  .cases h
 |@block id b b' _ ih=>
  intro c hc R s K r h φ a w g;obtain⟨c',hn,N,hsim⟩:=l9 P i c;refine hsim _ _ _ ?_;rw[<- N]at hc;obtain⟨cb,rfl,h1⟩:=Pt hn hc;simp only[oW]at h;refine wp_block (wp_mono (ih cb h1 R s _ r h φ a w g) ?_);rintro e a' w' ⟨ex,s',φ',rfl,z,g',st,kp⟩;cases ex with
  |normal=>exact⟨.normal,s',φ',rfl,z,g',st,kp⟩
  |ret=>exact⟨.ret,s',φ',rfl,z,g',st,kp⟩
  |exit nt=>
   simp only[Ex.to,Exit.inBlock];simp only[]at z;split at z
   .rename_i hb;rw[aC (au hb)];exact⟨.normal,s',φ',rfl,z,g',st,kp⟩
   .rename_i hb;rw[av (λe=>hb (by rw[e];exact eW id))];exact⟨.exit nt,s',φ',rfl,z,g',st,kp⟩
 |@zj A id b b' _ ih=>
  intro c hc R s K r h φ a w g;obtain⟨c',hn,N,hsim⟩:=l9 P i c;refine hsim _ _ _ ?_;rw[<- N]at hc;obtain⟨cb,rfl,h1⟩:=Pt hn hc;simp only[oW]at h;have sub1:∀k,aK (b.asg 0) k=J->aK ((TC.zj A id b).asg 0) k=J:=λk z=>by simp only[TC.asg];exact uY z
  have sub3:∀k,aK (N3 A.ks 0) k=J->aK ((TC.zj A id b).asg 0) k=J:=λk z=>by simp only[TC.asg];exact kj z
  rcases Zp h with ⟨d,h3,h4⟩|h3
  .refine wp_block (wp_mono (ih cb h1 _ s _ _ h3 φ a w g) ?_);rintro e a' w' ⟨ex,s',φ',rfl,z,g',st,kp⟩;have fin:ay (Oq j A (b.asg 0) s s') (λx=>Z (cv (α:=R) x))=Z (cv d)->amo P E i j φ s w ((TC.zj A id b).asg 0) K r .normal a' w':=by
    intro z;obtain⟨d',q1,L⟩:=dV z;simp only[af,Sum.inr.injEq]at L;subst L;split at h4
    .rename_i s1 hs1;obtain⟨φ1,g1,KF⟩:=Q6 g' q1 hs1 λk _ _ v hv hf ha v' hv'=>by
      obtain⟨v0,e1,e2⟩:=kp k ha v' hv';rw[hv]at e1;cases e1;exact e2 hf
     exact⟨.normal,s1,φ1,rfl,h4,g1,st.trans KF,(GH hs1).1.mono sub3⟩
    .cases h4
   cases ex with
   |normal=>exact fin z
   |ret=>simp only[]at z;obtain⟨_,_,L⟩:=dV z;simp at L
   |exit nt=>
    simp only[Ex.to,Exit.inBlock];simp only[]at z;split at z
    .rename_i hb;rw[aC (au hb)];exact fin z
    .obtain⟨_,_,L⟩:=dV z;simp at L
  .refine wp_block (wp_mono (ih cb h1 _ s _ _ h3 φ a w g) ?_);rintro e a' w' ⟨ex,s',φ',rfl,z,g',st,kp⟩;cases ex with
   |normal=>simp only[]at z;obtain⟨_,_,L⟩:=dV z;simp at L
   |ret=>
    simp only[]at z;obtain⟨r',q1,L⟩:=dV z;simp only[af,Sum.inl.injEq]at L;subst L;exact⟨.ret,s',φ',rfl,q1,g',st,kp.mono sub1⟩
   |exit nt=>
    simp only[Ex.to,Exit.inBlock];simp only[]at z;split at z
    .obtain⟨_,_,L⟩:=dV z;simp at L
    .rename_i hb;rw[av (λe=>hb (by rw[e];exact eW id))];obtain⟨r',q1,L⟩:=dV z;simp only[af,Sum.inl.injEq]at L;subst L;exact⟨.exit nt,s',φ',rfl,q1,g',st,kp.mono sub1⟩
 |@loop A b b' _ ih=>
  intro c hc R s K r h φ a w g;obtain⟨c',hn,N,hsim⟩:=l9 P i c;refine hsim _ _ _ ?_;rw[<- N]at hc;obtain⟨cb,rfl,h1⟩:=TO hn hc;simp only[oW]at h;obtain⟨x0,hx0,h⟩:=dV h;obtain⟨n,hn⟩:=aaq h;have sub1:∀k,aK (b.asg 0) k=J->aK ((TC.loop A b).asg 0) k=J:=λk z=>by simp only[TC.asg];exact uY z
  have sub3:∀k,aK (N3 A.ks 0) k=J->aK ((TC.loop A b).asg 0) k=J:=λk z=>by simp only[TC.asg];exact kj z
  obtain⟨step,hstep⟩:∃step:A.D->M (A.D⊕R),step=λx=>(match Jj A (b.asg 0) s x with
   |some s'=>oW j X W inert b s' λex s'=>(match ex with
    |.normal=>ay (Oq j A (b.asg 0) s s') λy=>Z (wF y)
    |ex=>ay (K ex s') λr=>Z (cv r))
   |none=>U):=⟨_,rfl⟩
  have hn:iterN step n x0=Z r:=by rw[hstep];exact hn
  have stepEq:∀x,step x=(match Jj A (b.asg 0) s x with
   |some s'=>oW j X W inert b s' λex s'=>(match ex with
    |.normal=>ay (Oq j A (b.asg 0) s s') λy=>Z (wF y)
    |ex=>ay (K ex s') λr=>Z (cv r))
   |none=>U):=λx=>by rw[hstep]
  let Inv:Nat->Act->World->Prop:=λn a w'=>∃x s1 φ1,iterN step n x=Z r/\Jj A (b.asg 0) s x=Z s1/\jA P E i j φ1 s1 a w'/\xc j φ φ1 (erHF s.h) (erHF s1.h) w w'
  have head:∀(n:Nat) (x:A.D),iterN step n x=Z r->∃s1,Jj A (b.asg 0) s x=Z s1:=by
   intro n x hn;cases n with
   |zero=>cases hn
   |succ n=>
    simp only[iterN]at hn;cases hr:Jj A (b.asg 0) s x with
    |some s1=>exact⟨s1,rfl⟩
    |none=>rw[stepEq,hr]at hn;cases hn
  refine EE Inv ?_ (n:=n) ?_
  .rintro n a1 w1 ⟨x,s1,φ1,hi,hr,g1,KF⟩;cases n with
   |zero=>cases hi
   |succ n=>
    simp only[iterN]at hi;have hse:=stepEq x;rw[hr]at hse;simp only[]at hse;obtain⟨kp1,kp1'⟩:=GH hr;split at hi
    .rename_i y hy;rw[hy]at hse;refine wp_mono (ih cb h1 _ s1 _ _ hse.symm φ1 a1 w1 g1) ?_;rintro e a' w' ⟨ex,s',φ',rfl,z,g',st,kp⟩;cases ex with
     |normal=>
      simp only[]at z;obtain⟨d',q1,L⟩:=dV z;simp only[af,Sum.inl.injEq]at L;subst L;obtain⟨s2,hs2⟩:=head n d' hi;obtain⟨φ2,g2,st2⟩:=Q6 g' q1 hs2 λk hkk hks v hv hf ha v' hv'=>by
       obtain⟨v0,e1,e2⟩:=kp k ha v' hv';have:=kp1' k hks v0 e1;rw[hv]at this;cases this;exact e2 hf
      exact⟨n,by omega,d',s2,φ2,hi,hs2,g2,(KF.trans st).trans st2⟩
     |_=>simp only[]at z;obtain⟨_,_,L⟩:=dV z;simp at L
    .rename_i r' hy;cases hi;rw[hy]at hse;refine wp_mono (ih cb h1 _ s1 _ _ hse.symm φ1 a1 w1 g1) ?_;rintro e a' w' ⟨ex,s',φ',rfl,z,g',st,kp⟩;cases ex with
     |normal=>simp only[]at z;obtain⟨_,_,L⟩:=dV z;simp at L
     |exit id=>
      simp only[]at z;obtain⟨r',q1,L⟩:=dV z;simp only[af,Sum.inr.injEq]at L;subst L;exact⟨.exit id,s',φ',rfl,q1,g',KF.trans st,(kp1.mono sub3).trans (kp.mono sub1)⟩
     |ret=>
      simp only[]at z;obtain⟨r',q1,L⟩:=dV z;simp only[af,Sum.inr.injEq]at L;subst L;exact⟨.ret,s',φ',rfl,q1,g',KF.trans st,(kp1.mono sub3).trans (kp.mono sub1)⟩
    .cases hi
  .obtain⟨s1,hs1⟩:=head n x0 hn;obtain⟨φ1,g1,KF⟩:=Q6 g hx0 hs1 λk _ _ v hv _ _ v' hv'=>by rw[hv]at hv';cases hv';rfl
   exact⟨x0,s1,φ1,hn,hs1,g1,KF⟩
 |exit id=>
  intro c hc R s K r h φ a w g;obtain⟨c',hn,N,hsim⟩:=l9 P i c;refine hsim _ _ _ ?_;rw[<- N]at hc;rw[afi hn hc];exact wp_exit ⟨.exit id,s,φ,rfl,h,g,xc.refl _ _ _ _,fy.refl _ _⟩
 |ret=>
  intro c hc R s K r h φ a w g;obtain⟨c',hn,N,hsim⟩:=l9 P i c;refine hsim _ _ _ ?_;rw[<- N]at hc;rw[ajc hn hc];exact wp_ret ⟨.ret,s,φ,rfl,h,g,xc.refl _ _ _ _,fy.refl _ _⟩
 |defer f caps t=>
  intro c hc R s K r h φ a w g;simp only[oW]at h;cases h
 |@adj l tc' sc' _ ih=>
  intro c hc R s K r h φ a w g;obtain⟨c',hn,N,hsim⟩:=l9 P i c;refine hsim _ _ _ ?_;rw[<- N]at hc;simp only[oW]at h;split at h
  .rename_i s1 hs1;obtain⟨φ1,g1,KF,kp1⟩:=Sf g hs1;refine wp_mono (ih c' hc R s1 K r h φ1 a w g1) ?_;rintro e a' w' ⟨ex,s',φ',rfl,z,g',st,kp⟩;exact⟨ex,s',φ',rfl,z,g',KF.trans st,(kp1.mono λk z=>by simp only[TC.asg];exact kj z).trans (kp.mono λk z=>by simp only[TC.asg];exact uY z)⟩
  .cases h
 |@split k off lo n tc' sc' _ ih=>
  intro c hc R s K r h φ a w g;obtain⟨c',hn,N,hsim⟩:=l9 P i c;refine hsim _ _ _ ?_;rw[<- N]at hc;simp only[oW]at h;split at h
  .rename_i kd v hv;obtain⟨np,hj,h2⟩:=SX h;subst hj;split at h2
   .rename_i s1 hs1;obtain⟨g1,hH,he⟩:=ae4 g hv hs1;refine wp_mono (ih c' hc R s1 K r h2 φ a w g1) ?_;rintro e a' w' ⟨ex,s',φ',rfl,z,g',st,kp⟩;exact⟨ex,s',φ',rfl,z,g',by rw[<- hH];exact st,λk z v' hv'=>by
     obtain⟨v,q1,L⟩:=kp k z v' hv';exact⟨v,by rw[<- he];exact q1,L⟩⟩
   .cases h2
  .cases h
 |@bsp t x y sc' _ _ ihx ihy=>
  intro c hc R s K r h φ a w g;simp only[oW]at h;split at h
  .rename_i v hv;rcases lN h with ⟨rfl,h⟩|⟨rfl,h⟩
   .have he:∀q,(s.e.set t (Z (.f .bool J))).get q=s.e.get q:=λq=>by
     rw[PT.get_set];split
     .rename_i e;subst e;exact hv.symm
     .rfl
    obtain⟨g1,hH⟩:=g.congr (s':=⟨s.e.set t (Z (.f .bool J)),s.h,s.nx⟩) he (λ_=>rfl) rfl;refine wp_mono (ihx c hc R _ K r h φ a w g1) ?_;rintro e a' w' ⟨ex,s',φ',rfl,z,g',st,kp⟩;exact⟨ex,s',φ',rfl,z,g',by rw[<- hH];exact st,λk z v' hv'=>by
     obtain⟨v,q1,L⟩:=(kp.mono λk z=>by simp only[TC.asg];exact kj z) k z v' hv';exact⟨v,by rw[<- he];exact q1,L⟩⟩
   .have he:∀q,(s.e.set t (Z (.f .bool aa))).get q=s.e.get q:=λq=>by
     rw[PT.get_set];split
     .rename_i e;subst e;exact hv.symm
     .rfl
    obtain⟨g1,hH⟩:=g.congr (s':=⟨s.e.set t (Z (.f .bool aa)),s.h,s.nx⟩) he (λ_=>rfl) rfl;refine wp_mono (ihy c hc R _ K r h φ a w g1) ?_;rintro e a' w' ⟨ex,s',φ',rfl,z,g',st,kp⟩;exact⟨ex,s',φ',rfl,z,g',by rw[<- hH];exact st,λk z v' hv'=>by
     obtain⟨v,q1,L⟩:=(kp.mono λk z=>by simp only[TC.asg];exact uY z) k z v' hv';exact⟨v,by rw[<- he];exact q1,L⟩⟩
  .cases h
 |@unl n b b' _ ih=>
  intro c hc R s K r h φ a w g;obtain⟨c',hn,N,hsim⟩:=l9 P i c;refine hsim _ _ _ ?_;rw[<- N]at hc;obtain⟨cb,rfl,h1⟩:=TO hn hc;simp only[oW]at h
  let Inv:Nat->Act->World->Prop:=λm a w'=>∃s1 φ1,ai5 (λs K=>oW j X W inert b s K) m s1 K=Z r/\jA P E i j φ1 s1 a w'/\xc j φ φ1 (erHF s.h) (erHF s1.h) w w'/\fy (b.asg 0) s.e s1.e
  refine EE Inv ?_ (n:=n) ⟨s,φ,h,g,xc.refl _ _ _ _,fy.refl _ _⟩;rintro m a1 w1 ⟨s1,φ1,hi,g1,KF,kp1⟩;cases m with
  |zero=>cases hi
  |succ m=>
   simp only[ai5]at hi;refine wp_mono (ih cb h1 R s1 _ r hi φ1 a1 w1 g1) ?_;rintro e a' w' ⟨ex,s',φ',rfl,z,g',st,kp⟩;cases ex with
   |normal=>exact⟨m,nZ m,s',φ',z,g',KF.trans st,kp1.trans kp⟩
   |exit id=>exact⟨.exit id,s',φ',rfl,z,g',KF.trans st,kp1.trans kp⟩
   |ret=>exact⟨.ret,s',φ',rfl,z,g',KF.trans st,kp1.trans kp⟩
 |zd sc'=>
  intro c hc R s K r h;simp[oW]at h
def QF {s:TS} {w:World} (hinv:gW s.h s.nx) (hiE:su s.e s.h) (r:r_ V O (erHF s.h) w) (en:Qk V (tot O V (erHF s.h)) w (fG s.e s.h) Q):∀(L:Y ResultVar) (rvs:Y RV) (l:Y TV),w7 P L=Z rvs->Ta s rvs=Z l->
 ∃la vs,cP s.h l=Z la/\(L.mapM (aah Q.tmps)).run P w= .ok vs w/\lP V (tot O V (erHF s.h)) w la vs
 |[],rvs,l,A,z=>by
  simp only[w7,af]at A;subst A;simp only[Ta,af]at z;subst z;exact⟨[],[],rfl,by simp,trivial⟩
 |.tmp t::L,rvs,l,A,z=>by
  simp only[w7]at A;split at A
  .rename_i rvs' hrs;cases A;simp only[Ta]at z;split at z
   .rename_i v D;split at z
    .rename_i l' N;cases z;obtain⟨la,vs,h0,h1,h2⟩:=QF hinv hiE r en L rvs' l' hrs N;simp only[rvT]at D;obtain⟨y,hy⟩:=oe s.h v (hiE t v D);refine ⟨y::la,Q.tmps.getD t undef::vs,qo hy h0,?_,en t y (by simp only[fG,D,aB,hy]),h2⟩;simp only[List.mapM_cons,ec,aah,pU,cM];show ((L.mapM (aah Q.tmps)).run P w).andThen _=_;rw[h1];rfl
    .cases z
   .cases z
  .cases A
 |.cell ad t::L,rvs,l,A,z=>by
  simp only[w7]at A;split at A
  .rename_i rvs' sz ag hrs hsz hag;cases A;simp only[Ta]at z;split at z
   .rename_i v D;split at z
    .rename_i l' N;cases z;obtain⟨la,vs,h0,h1,h2⟩:=QF hinv hiE r en L rvs' l' hrs N;simp only[rvT]at D;split at D
     .rename_i id off hp;split at D
      .rename_i ty q hb;obtain⟨q',hq'⟩:=eX s.h q (hinv.C id _ q hb);obtain⟨y,e1,e2⟩:=YV hq' D;obtain⟨H,hH⟩:=gC s.h;have hR:xa H sz ag (.H (nm id) off)=Z ⟨y,[nm id],[],[],[]⟩:=by
        have hg:H.get (nm id)=Z ⟨ty,.mx q'⟩:=by rw[hH,bL,hb];simp only[aB,jR,hq']
        simp only[xa,hg,e2]
       obtain⟨_,_,_,h3⟩:=VZ (P:=P) hsz hag hR;obtain⟨qq,v',h4,h5,h6⟩:=h3 V O (erHF s.h) w _ (λi _=>by rw[hH]) r (en ad _ (by simp only[fG,hp,aB,b9]));refine ⟨y::la,v'::vs,qo e1 h0,?_,h6,h2⟩;have hone:(aah Q.tmps (.cell ad t)).run P w= .ok v' w:=by
        simp only[aah,ec,h4,asAddr,pU,cM,h5]
       rw[List.mapM_cons];simp only[ec,hone,cM,h1,pU]
      .cases D
     .cases D
    .cases z
   .cases z
  .cases A
def HM:∀(args:Y TV) (k t:Nat) (x:TV),(Nj k args).get t=Z x->k<=t/\args[t-k]? =Z x
 |[],k,t,x,h=>by simp[Nj,PT.get]at h
 |y::args,k,t,x,h=>by
  rw[Nj,PT.get_set]at h;split at h
  .rename_i z;subst z;cases h;exact⟨bV _,by simp⟩
  .obtain⟨h1,A⟩:=HM args (k+1) t x h;refine ⟨by omega,?_⟩;rw[show t-k=t-(k+1)+1 from by omega];simpa using A
def aeu {l:Y TV} (A:lR h l=J) (L:l[j]? =Z u):N0 h u=J:=by
 obtain⟨l',D⟩:=eX h l A;obtain⟨y,_,z⟩:=lF D j u L;exact Hr _ _ _ z
def WL {inert:FuncId->Bool} (hm:P.follows .mixedOrders=J) (hcon:Gv P X) (hin:Sn P inert) {sf:SF} (hf:BT P f=Z sf) (D:FT) (m:D.pre.ty.den->M D.post.ty.den) (hmod:∀x y,m x=Z y->adx X W inert (Z sf) D x=Z y):qZ P f ⟨D.pre,D.post,m⟩:=by
 obtain⟨fn,c,hfn,hb,hnm,hcode,hres,hnt⟩:=VM hf;refine ⟨⟨fn,hfn,by rw[hb];rfl,hnm⟩,λx y hxy vs hp l1 rs hq l2 la lr I B hla hlr φ E w us hrep hrel hdom=>?_⟩;have ht:=hmod x y hxy;unfold adx at ht;simp only[]at ht;split at ht
 .rename_i args h hins;obtain⟨l1',I'⟩:=yi hins;have e1:args=vs:=by have h1:=I.pv;have N:=I'.pv;rw[h1]at N;cases N;rfl
  have e2:l1'=l1:=by have h1:=I.pb;have N:=I'.pb;rw[h1]at N;cases N;rfl
  subst e1 e2;have hget:∀i,h.get i=hp.get i:=λi=>by
   cases h3:hp.get i with
   |some b=>exact (I'.at_ i b).2 ((I.at_ i b).1 h3)
   |none=>
    cases h4:h.get i with
    |none=>rfl
    |some b=>have:=(I.at_ i b).2 ((I'.at_ i b).1 h4);rw[h3]at this;cases this
  have hrow:∀i,eE h i=eE hp i:=λi=>by rw[bC,bC,hget]
  have herH:erHF h=erHF hp:=by
   funext n;unfold erHF;rw[hget];cases h3:hp.get (ow n) with
   |none=>rfl
   |some b=>
    simp only[aB];refine mm (λi r hr=>by rw[hrow];exact hr) (λty l e=>?_) _ _;exact (I.C _ _ l (by rw[h3,e])).1
  have hla':cP h args=Z la:=fY (λi r hr=>by rw[hrow];exact hr) args la hla;split at ht
  .rename_i hle;simp only[ak]at hle;have hle2:=aU hle.2;have hle:=aU hle.1;have hlen:=hrel.length;have hargl:args.length=la.length:=(gU hla).symm;refine calls_of_wp_defers hfn hb ?_;have hcfg:jA P E fn.ntmps D.pre.bs.length φ ⟨Nj 0 args,h,D.pre.bs.length⟩ {tmps:=us.toArray++ua (fn.ntmps-us.toArray.size) undef,defers:=[]} w:=by
    refine ⟨by rw[herH];exact hrep,?_,hdom,bV _,⟨λi ty l hl=>(I'.C i _ l hl).1,λi b hbb=>I'.lt_len hbb⟩,?_,by simp,by simp;omega⟩
    .intro t z hz;simp only[fG]at hz;cases hx:(Nj 0 args).get t with
     |none=>rw[hx]at hz;cases hz
     |some v0=>
      rw[hx]at hz;obtain⟨_,N⟩:=HM args 0 t v0 hx;rw[Nat.sub_zero]at N;obtain⟨y0,q1,q2⟩:=lF hla' t v0 N;simp only[aB]at hz;rw[hz]at q2;cases q2;obtain⟨v,h3,h4⟩:=hrel.get t z q1;have hlt:t<us.length:=(bi.1 h3).1;have:(us.toArray++ua (fn.ntmps-us.toArray.size) undef).getD t undef=v:=by
       rw[gZ,Array.getElem?_append];simp only[kM,hlt,bk,lH,h3,nY]
      show cq φ _ w z ((us.toArray++ua (fn.ntmps-us.toArray.size) undef).getD t undef);rw[this,herH];exact h4
    .intro t v0 hv0;obtain⟨_,N⟩:=HM args 0 t v0 hv0;exact aeu I'.ok N
   refine wp_mono (an2 (E:=E) hm hcon hin (zY D.hints sf.code 0) c hcode.symm _ _ _ _ ht φ _ w hcfg) ?_;rintro e a' w' ⟨ex,s',φ',rfl,L,g',st,_⟩;have fin:∀(s':TS) (φ':PM),jA P E fn.ntmps D.pre.bs.length φ' s' a' w'->xc D.pre.bs.length φ φ' (erHF h) (erHF s'.h) w w'->(match Ta s' sf.res with
    |some l=>(match DY D.pre.bs.length D.post l s'.h with
     |some ⟨y,_,_,_⟩=>(match C7 D.post y with|some _=>Z y|none=>U)
     |none=>U)
    |none=>U)=Z y->Leaves P fn a'.tmps (λen w'=>∃v φ',en= .returned v/\Gt (own φ (erHF hp)) w w'/\(∀k,k<w.heap.size->own φ' (erHF hq) k->own φ (erHF hp) k)/\(∀n,ow n<D.pre.bs.length->φ' n=φ n)/\r_ φ' E (erHF hq) w'/\cq φ' (tot E φ' (erHF hq)) w' (EH lr) v) a'.defers .returning w':=by
    intro s' φ' g' st L;split at L
    .rename_i l hl;split at L
     .rename_i y' m' σ sm hM;split at L
      .cases L;obtain⟨lo,rvs,q0,q1,q2⟩:=QF g'.qz g'.qb g'.qn g'.env fn.results.toList sf.res l hres hl;have A:=yc hM;obtain⟨φ2,lu,hlu,S⟩:=NS (np:=D.pre.bs.length) (E:=E) B g'.qz A q0 g'.qn;rw[hlr]at hlu;cases hlu;have hresults:(results fn a'.tmps).run P w'= .ok (if h:rvs.toArray.size=1 then rvs.toArray[0] else .tuple rvs.toArray) w':=by
        rw[W5,Array.mapM_eq_mapM_toList];simp only[ec,Sem.run_map,q1,cM,pU]
       have hrl:lP φ2 (tot E φ2 (erHF hq)) w' lr rvs:=by
        refine lP.of (by rw[q2.length,S.len]) λj z v hz hv=>?_
        obtain⟨z0,p1,p2⟩:=S.val j z v hz;obtain⟨v',p3,p4⟩:=q2.get j z0 p1;rw[hv]at p3;cases p3;exact p2 p4
       have hval:cq φ2 (tot E φ2 (erHF hq)) w' (EH lr) (if h:rvs.toArray.size=1 then rvs.toArray[0] else .tuple rvs.toArray):=by
        have hll:=hrl.length;clear hlr S;cases lr with
        |nil=>
         cases rvs with
         |nil=>exact cq.qg (vs:=[]) rfl (by intro j x v hx;simp at hx)
         |cons _ _=>exact hrl.elim
        |cons z lr=>
         cases rvs with
         |nil=>exact hrl.elim
         |cons v rvs=>
          cases lr with
          |nil=>
           cases rvs with
           |nil=>exact hrl.1
           |cons _ _=>exact hrl.2.elim
          |cons y l=>
           cases rvs with
           |nil=>exact hrl.2.elim
           |cons u rvs=>
            rw[dif_neg (by simp)];refine cq.qg (vs:=v::u::rvs) (by simpa using hll) λj x' v' hx hv=>?_
            obtain⟨v'',q1,q2⟩:=hrl.get j x' hx;rw[hv]at q1;cases q1;exact q2
       have st':xc D.pre.bs.length φ φ' (erHF hp) (erHF s'.h) w w':=by rw[<- herH];exact st
       refine E_ hresults ⟨_,φ2,rfl,st'.ext,λk L ho=>st'.qr k L (S.qr k ho),λi hi=>?_,S.qn,hval⟩ a'.defers g'.inert;rw[S.par i hi (dw hi hle2),st'.par i hi]
      .cases L
     .cases L
    .cases L
   have fin2:(match V3 s' (arf D) with
    |some s=>(match Ta s sf.res with
     |some l=>(match DY D.pre.bs.length D.post l s.h with
      |some ⟨y,_,_,_⟩=>(match C7 D.post y with|some _=>Z y|none=>U)
      |none=>U)
     |none=>U)
    |none=>U)=Z y->Leaves P fn a'.tmps (λen w'=>∃v φ',en= .returned v/\Gt (own φ (erHF hp)) w w'/\(∀k,k<w.heap.size->own φ' (erHF hq) k->own φ (erHF hp) k)/\(∀n,ow n<D.pre.bs.length->φ' n=φ n)/\r_ φ' E (erHF hq) w'/\cq φ' (tot E φ' (erHF hq)) w' (EH lr) v) a'.defers .returning w':=by
    intro L;split at L
    .rename_i s2 ha;obtain⟨φ3,c3,t3,_⟩:=Sf g' ha;exact fin s2 φ3 c3 (st.trans t3) L
    .cases L
   cases ex with
   |exit id=>cases L
   |_=>exact fin2 L
  .cases ht
 .cases ht
abbrev z?:=FuncId×cF
def Yo:Y z?->FuncId->M cF
 |[],_=>U
 |(g,c)::r,f=>if aA g f then Z c else Yo r f
def O1 (P:Program):Y z?->Prop
 |[]=>True
 |p::r=>aL P (p.1%65536) p.2/\O1 P r
def ZS :∀{l:Y z?},O1 P l->Gv P (Yo l)
 |[],_,f,c,h=>by simp[Yo]at h
 |(g,d)::r,z,f,c,h=>by
  simp only[Yo]at h;split at h
  .rename_i A;have:=au A;subst this;cases h;exact z.1
  .exact ZS z.2 f c h
def Ur {inert:FuncId->Bool} (hm:P.follows .mixedOrders=J) (hin:Sn P inert) {l:Y z?} (A:O1 P l) {D:FT} {m:D.pre.ty.den->M D.post.ty.den} (z:(BT P f).isSome=J) (he:∀x,adx (Yo l) W inert (BT P f) D x=m x):qZ P f ⟨D.pre,D.post,m⟩:=by
 obtain⟨L,hf⟩:=jB.1 z;exact WL hm (ZS A) hin hf D m λx y hxy=>by rw[<- hf,he];exact hxy
def qZ.sub {pre post:Tm} {m m':pre.ty.den->M post.ty.den} (h:qZ P f ⟨pre,post,m⟩) (z:∀x y,m' x=Z y->m x=Z y):qZ P f ⟨pre,post,m'⟩:=
 ⟨h.zw,λx y hxy=>h.calls x y (z x y hxy)⟩
def aL.sub {P:Program} {f:FuncId} {pre post:Tm} {m m':pre.ty.den->M post.ty.den} (h:aL P f ⟨pre,post,m⟩) (z:dK (l! pre.bs) (l! post.bs)=J) (A:∀x y,m' x=Z y->m x=Z y):aL P f ⟨pre,post,m'⟩:=
 ((h.holds z).sub A).toC z
def sX {b:Nat}:∀(x y:Y R),chk (be (ah x) b) (λ_=>Z x)=Z y->aI (aA (ah x) 0) (HJ (Z ([]:Y R)) (chk (be (ah ([]:Y R)+ah x) b) λ_=>(Z (([]:Y R)++x)))) (chk (be (ah ([]:Y R)+ah x) b) λ_=>(Z (([]:Y R)++x)))=Z y:=by
 intro x y h;rw[kV,kW,bF,h];cases x with
 |nil=>
  obtain⟨_,h⟩:=cL h;cases h;show HJ (Z []) (Z [])=_;unfold HJ;rw[aC rfl]
 |cons a r=>rfl
def XN {pre post:Tm} (z:(BT P f).isSome=J):qZ P f ⟨pre,post,λ_=>U⟩:=by
 obtain⟨D,hf⟩:=jB.1 z;obtain⟨fn,c,hfn,A,hnm,_⟩:=VM hf;exact⟨⟨fn,hfn,by rw[A];rfl,hnm⟩,λx y h=>by cases h⟩
def qZ.orElse {pre post:Tm} {m m':pre.ty.den->M post.ty.den} (h:qZ P f ⟨pre,post,m⟩) (h':qZ P f ⟨pre,post,m'⟩):qZ P f ⟨pre,post,λx=>match m x with|some y=>Z y|none=>m' x⟩:=
 ⟨h.zw,λx y hxy=>by
   cases hm:m x with
   |some z=>rw[show (cF.m ⟨pre,post,λx=>match m x with|some y=>Z y|none=>m' x⟩ x)=Z z by show (match m x with|some y=>Z y|none=>m' x)=Z z;rw[hm]]at hxy;cases hxy;exact h.calls x _ hm
   |none=>rw[show (cF.m ⟨pre,post,λx=>match m x with|some y=>Z y|none=>m' x⟩ x)=m' x by show (match m x with|some y=>Z y|none=>m' x)=m' x;rw[hm]]at hxy;exact h'.calls x y hxy⟩
def aL.orE {pre post:Tm} {m m':pre.ty.den->M post.ty.den} (z:dK (l! pre.bs) (l! post.bs)=J) (h:aL P f ⟨pre,post,m⟩) (h':aL P f ⟨pre,post,m'⟩):aL P f ⟨pre,post,λx=>AI.orE (m x) (m' x)⟩:=by
 have e:(λx=>AI.orE (m x) (m' x))=λx=>match m x with|some y=>Z y|none=>m' x:=by funext x;cases m x<;>rfl
 rw[e];exact ((h.holds z).orElse (h'.holds z)).toC z
def ads (P:Program) (f:Ty->TypeId->Bool):Y Field->Nat->Ty->Bool
 |[],_,.un=>J
 |[x],off,T=>aA x.offset off&&f T x.type&&aA (P.cellsOf x.type) T.size
 |x::y::r,off,.pr a b=>aA x.offset off&&f a x.type&&aA (P.cellsOf x.type) a.size&&ads P f (y::r) (off+a.size) b
 |_,_,_=>aa
def WJ (P:Program) (f:Ty->TypeId->Bool) (e:TypeId):Nat->Ty->Bool
 |1,T=>f T e&&aA (P.cellsOf e) T.size
 |m+2,.pr a b=>f a e&&aA (P.cellsOf e) a.size&&WJ P f e (m+1) b
 |_,_=>aa
def DB (P:Program):Nat->Ty->TypeId->Bool
 |0,_,_=>aa
 |n+1,T,t=>match T,P.underlying t with
  |.int k,Z (.int z)=>k==z
  |.bool,Z .bool=>J
  |.str,Z .string=>J
  |.sl y,Z (.slice e)=>DB P n y e&&aA (P.cellsOf e) y.size&&ef 0 y.size
  |.st y,Z (.struct A)=>ads P (DB P n) A.toList 0 y&&aA (P.cellsOf t) y.size
  |.st y,Z (.array m e)=>WJ P (DB P n) e m y&&aA (P.cellsOf t) y.size
  |_,_=>aa
def YS:(T:Ty)->T.den->Prop
 |.int k,n=>(Lit.int k n).wf=J
 |.str,s=>ah s<=maxLen
 |.sl y,xs=>ah xs<=maxLen/\∀x∈(xs:Y y.den),YS y x
 |.st t,v=>YS t v
 |.pr a b,v=>YS a v.1/\YS b v.2
 |_,_=>True
def Ns (W:World) (T:Ty) (x:T.den) (cs:ξ):Prop:=l! cs=T.size/\∀(j:Nat) y v,(bN T x)[j]? =Z y->cs[j]? =Z v->mX (λ_=>False) W y v
def M9 (z:R) (P:Nat->R->Prop):∀n:Nat,(∀i,i<n->∃a,P i a)->∃l:Y R,l! l=n/\∀i x,l[i]? =Z x->P i x
 |0,_=>⟨[],rfl,λi x h=>by simp at h⟩
 |n+1,h=>by
  obtain⟨l,D,hp⟩:=M9 z P n (λi hi=>h i (by omega));obtain⟨a,L⟩:=h n (by omega);refine ⟨l++[a],by simp[D],λi x A=>?_⟩;by_cases hi:i<l! l
  .rw[bj hi]at A;exact hp i x A
  .rw[bO (by omega)]at A;by_cases h0:i-l! l=0
   .rw[h0]at A;simp at A;subst A;rw[show i=n from by omega];exact L
   .rw[bJ (by simp;omega)]at A;cases A
def Addr.add_plain {a:Addr} (h:a.spot=U) (n:Nat):a.add n=⟨a.block,a.off+n,U⟩:=by
 unfold Addr.add;split
 .rename_i h0;subst h0;cases a;simp at h;subst h;rfl
 .rfl
def abw {w:World} {a:Addr} (h:w.cell? a=Z v):a.spot=U:=by
 unfold Qm at h;split at h
 .split at h
  .cases h
  .rename_i z;cases hh:a.spot with
   |none=>rfl
   |some _=>simp[hh]at z
 .cases h
variable {N:ξ}
def Ns.sub {W:World} {x:T.den} {n:Nat} (h:Ns W T x ((N.drop i).take n)) (D:n=T.size) (L:i+n<=l! N):∀(j:Nat) y v,(bN T x)[j]? =Z y->N[i+j]? =Z v->mX (λ_=>False) W y v:=λj y v z A=>by
 refine h.2 j y v z ?_;have cs:j<T.size:=by have:=(bi.1 z).1;rwa [bw]at this
 rw[cS,aC (by omega),il];exact A
section
variable {H:Type} {enc:TypeId×Value->H} {P:Program} {W:World} {base:Nat} {sp:Nat->Bool} {hd:Bool}
def Za {f:Ty->TypeId->Bool} {m:Nat} (ih:∀(T:Ty) (t:TypeId) (cs:ξ) x,f T t=J->DataW.trod enc P W base sp hd m t cs=Z x->∃v,Ns W T v cs/\YS T v) (cs:ξ) (ts:Y (DataW H×Y MemPlace)):
 ∀(fs:Y Field) (off k:Nat) (T:Ty),ads P f fs off T=J->off+T.size<=l! cs->(∀(i:Nat) (fl:Field),fs[i]? =Z fl->∃z,DataW.trod enc P W base sp hd m fl.type ((cs.drop fl.offset).take (P.cellsOf fl.type))=Z z)->
 ∃v,(∀(j:Nat) y u,(bN T v)[j]? =Z y->cs[off+j]? =Z u->mX (λ_=>False) W y u)/\YS T v
 |[],off,k,.un,_,_,_=>⟨(),λj y u A=>by simp[bN]at A,trivial⟩
 |[x],off,k,T,h,hl,N=>by
  simp only[ads,ak]at h;obtain⟨⟨h1,h2⟩,L⟩:=h;have h1:=au h1;have L:=au L;obtain⟨z,hz⟩:=N 0 x rfl;obtain⟨v,D,hw⟩:=ih T _ _ _ h2 hz;rw[h1]at D;exact⟨v,D.sub L (by omega),hw⟩
 |x::x'::r,off,k,.pr a b,h,hl,N=>by
  simp only[ads,ak]at h;obtain⟨⟨⟨h1,h2⟩,L⟩,h4⟩:=h;have h1:=au h1;have L:=au L;simp only[Ty.size]at hl;obtain⟨z,hz⟩:=N 0 x rfl;obtain⟨v,D,hw⟩:=ih a _ _ _ h2 hz;rw[h1]at D;have D:=D.sub L (by omega);obtain⟨v',hv',hw'⟩:=Za ih cs ts (x'::r) (off+a.size) (k+1) b h4 (by omega) (λi fl hi=>N (i+1) fl (by simpa using hi));refine ⟨(v,v'),λj y u A hu=>?_,hw,hw'⟩;simp only[bN]at A;by_cases hj:j<a.size
  .rw[bj (by rw[bw];exact hj)]at A;exact D j y u A hu
  .rw[bO (by rw[bw];omega),bw]at A;exact hv' _ y u A (by rw[show off+a.size+(j-a.size)=off+j from by omega];exact hu)
variable {z:TypeId}
def Zb {f:Ty->TypeId->Bool} {m:Nat} (N:∀(T:Ty) (t:TypeId) (cs:ξ) x,f T t=J->DataW.trod enc P W base sp hd m t cs=Z x->∃v,Ns W T v cs/\YS T v) (cs:ξ):
 ∀(n i:Nat) (T:Ty),WJ P f z n T=J->i*P.cellsOf z+T.size<=l! cs->(∀j,j<n->∃e,DataW.trod enc P W base sp hd m z ((cs.drop ((i+j)*P.cellsOf z)).take (P.cellsOf z))=Z e)->
 ∃v,(∀(j:Nat) y u,(bN T v)[j]? =Z y->cs[i*P.cellsOf z+j]? =Z u->mX (λ_=>False) W y u)/\YS T v
 |0,i,T,h,_,_=>by unfold WJ at h;cases h
 |1,i,T,h,hl,L=>by
  simp only[WJ,ak]at h;have h3:=au h.2;obtain⟨e,hz⟩:=L 0 (by omega);obtain⟨v,A,hw⟩:=N T _ _ _ h.1 hz;rw[cX]at A;exact⟨v,A.sub h3 (by omega),hw⟩
 |n+2,i,T,h,hl,L=>by
  cases T with
  |pr a b=>
   simp only[WJ,ak]at h;obtain⟨⟨h1,h2⟩,h4⟩:=h;have h3:=au h2;simp only[Ty.size]at hl;obtain⟨e,hz⟩:=L 0 (by omega);obtain⟨v,A,hw⟩:=N a _ _ _ h1 hz;rw[cX]at A;have A:=A.sub h3 (by omega);obtain⟨v',hv',hw'⟩:=Zb N cs (n+1) (i+1) b h4 (by rw[Qp,Nat.one_mul];omega) (λj hj=>by have:=L (j+1) (by omega);rwa [show i+(j+1)=i+1+j from by omega]at this);refine ⟨(v,v'),λj y u D hu=>?_,hw,hw'⟩;simp only[bN]at D;by_cases hj:j<a.size
   .rw[bj (by rw[bw];exact hj)]at D;exact A j y u D hu
   .rw[bO (by rw[bw];omega),bw]at D;exact hv' _ y u D (by rw[Qp,Nat.one_mul,show i*P.cellsOf z+P.cellsOf z+(j-a.size)=i*P.cellsOf z+j from by omega];exact hu)
  |_=>unfold WJ at h;cases h
def Ka:∀(n:Nat) (T:Ty) (t:TypeId) (fuel:Nat) (cs:ξ) x,DB P n T t=J->(∀b,sp b=J)->DataW.trod enc P W base sp hd fuel t cs=Z x->∃v,Ns W T v cs/\YS T v
 |0,_,_,_,_,_,h,_,_=>by unfold DB at h;cases h
 |n+1,T,t,fuel,cs,x,h,hsp,ht=>by
  unfold DB at h;split at h
  .rename_i k k' N;have hk:=eq_of_beq h;subst hk;obtain⟨m,rfl,_,hw⟩:=DataW.trod_int N ht;refine ⟨m,⟨rfl,λj y v z L=>?_⟩,hw⟩;cases j with
   |zero=>simp[bN]at z L;subst z L;exact .raw _
   |succ j=>simp[bN]at z
  .rename_i N;obtain⟨b,rfl,_⟩:=DataW.trod_bool N ht;refine ⟨b,⟨rfl,λj y v z L=>?_⟩,trivial⟩;cases j with
   |zero=>simp[bN]at z L;subst z L;exact .raw _
   |succ j=>simp[bN]at z
  .rename_i N;obtain⟨s,rfl,_,hs⟩:=DataW.trod_string N ht;refine ⟨s.data.toList,⟨rfl,λj y v z L=>?_⟩,by simpa[YS] using hs⟩;cases j with
   |zero=>simp[bN]at z L;subst z L;exact .raw _
   |succ j=>simp[bN]at z
  .rename_i A e N;simp only[ak]at h;obtain⟨⟨h1,h2⟩,h3⟩:=h;have h2:=au h2;have h3:0<A.size:=aU h3;rcases Go.Deep.open_slice N ht with ⟨rfl,_⟩|⟨a,len,cap,m,k,D,Pl,rfl,hb,hl,hm,hmm,_,hi⟩
   .refine ⟨[],⟨rfl,λj y v z L=>?_⟩,by simp[YS]⟩;cases j with
    |zero=>simp[bN]at z L;subst z L;exact .nil _ _ (by unfold maxLen;omega)
    |succ j=>simp[bN]at z
   .rw[hsp,aC rfl]at hmm;rw[h2]at hi;obtain⟨xs,hx1,hx2⟩:=M9 A.zero (λi (v:A.den)=>∃cs',W.cells? base (a.add (i*A.size)) A.size=Z cs'/\Ns W A v cs'/\YS A v) len (λi hil=>by
     obtain⟨cs',hc,htt⟩:=hi i (by omega);obtain⟨v,L,hw⟩:=Ka n A e k cs' _ h1 hsp htt;exact⟨v,cs',hc,L,hw⟩)
    refine ⟨xs,⟨rfl,λj y v z L=>?_⟩,by show ah xs<=maxLen;omega,λy z=>?_⟩
    .cases j with
     |succ j=>simp[bN]at z
     |zero=>
      simp[bN]at z L;subst z L;by_cases h0:len=0
      .have:xs=[]:=dG.1 (by omega);subst this h0;exact .nil _ _ hm
      .obtain⟨x0,hx0⟩:∃x0,xs[0]? =Z x0:=⟨xs[0]'(by omega),aD (by omega)⟩
       obtain⟨cs0,hc0,_⟩:=hx2 0 x0 hx0;obtain⟨_,hcl0,hat0⟩:=World.cells?_some hc0;have hca:=hat0 0 h3;rw[aD (by omega)]at hca;have hspot:a.spot=U:=by
        have:=abw hca;simpa[Addr.add] using this
       have hblk:=World.block_lt_of_cell? W _ hca;rw[Nat.zero_mul,Addr.add_plain hspot,Addr.add_plain rfl]at hca hblk;have hcell:∀(i j:Nat) x,xs[i]? =Z x->j<A.size->∃cs',W.cell? ⟨a.block,a.off+(i*A.size+j),U⟩=cs'[j]? /\j<l! cs'/\Ns W A x cs':=λi j x hx hj=>by
        obtain⟨cs',hc,hr,_⟩:=hx2 i x hx;obtain⟨_,hcl,hat⟩:=World.cells?_some hc;have:=hat j hj;rw[Addr.add_plain hspot,Addr.add_plain rfl,qP]at this;exact⟨cs',this,by omega,hr⟩
       have hflat:∀j,j<l! xs*A.size->∃x,xs[j/A.size]? =Z x/\j%A.size<A.size/\j=j/A.size*A.size+j%A.size:=λj hj=>by
        have h5:j/A.size<l! xs:=Nat.div_lt_of_lt_mul (by rw[wI];exact hj);exact⟨xs[j/A.size],aD h5,Nat.mod_lt _ h3,by rw[wI];exact (Nat.div_add_mod j A.size).symm⟩
       have hlen:l! (List.flatMap (bN A) xs)=l! xs*A.size:=dY (bw A) xs;obtain⟨ab,ao,az⟩:=a;cases hspot;rw[<- hx1];refine .sl (List.flatMap (bN A) xs) (l! xs) cap ab ao (λj=>(W.cell? ⟨ab,ao+j,U⟩).getD undef) (by omega) hm (λh=>h) hblk (ml A xs) (λj hj=>?_) (λj y z=>?_)
       .obtain⟨x,hx,hjs,hje⟩:=hflat j (by omega);obtain⟨cs',g1,g2,_⟩:=hcell _ _ x hx hjs;rw[<- hje]at g1;simp only[g1,aD g2,nY]
       .have hj:j<l! xs*A.size:=by rw[<- hlen];exact (bi.1 z).1
        obtain⟨x,hx,hjs,hje⟩:=hflat j hj;obtain⟨cs',g1,g2,g3⟩:=hcell _ _ x hx hjs;rw[<- hje]at g1;simp only[g1];rw[aD g2];refine g3.2 (j%A.size) y _ ?_ (aD g2);obtain⟨r,hr⟩:=Hm (bw A) xs (j/A.size) x hx;have:((List.flatMap (bN A) xs).drop (j/A.size*A.size))[j%A.size]? =Z y:=by rw[il,<-hje];exact z
        rw[hr,bj (by rw[bw];exact hjs)]at this;exact this
    .obtain⟨i,hi'⟩:=gg z;obtain⟨_,_,_,hw⟩:=hx2 i y hi';exact hw
  .rename_i A fs N;simp only[ak]at h;have h2:=au h.2;obtain⟨xs,m,rfl,_,hl,hxl,hg⟩:=DataW.trod_struct N ht;obtain⟨v,L,hw⟩:=Za (f:=DB P n) (m:=m) (λT t cs x h1 h2=>Ka n T t m cs x h1 hsp h2) cs xs fs.toList 0 0 A h.1 (by omega) (λi fl hi=>by
    have hi':fs[i]? =Z fl:=by simpa using hi
    have:=hg i fl hi';have hlt:i<l! xs:=by rw[hxl];exact (cw.1 hi').1
    rw[aD hlt]at this;exact⟨_,this⟩)
   exact⟨v,⟨by rw[hl,h2];rfl,λj y u z N=>L j y u z (by rw[bF];exact N)⟩,hw⟩
  .rename_i A m e N;simp only[ak]at h;have h2:=au h.2;obtain⟨xs,q,rfl,_,hl,hxl,hg⟩:=DataW.trod_array N ht;obtain⟨v,L,hw⟩:=Zb (f:=DB P n) (m:=q) (λT t cs x h1 h2=>Ka n T t q cs x h1 hsp h2) cs m 0 A h.1 (by omega) (λj hj=>by
    have:=hg j hj;rw[aD (by omega)]at this;rw[bF];exact⟨_,this⟩)
   exact⟨v,⟨by rw[hl,h2];rfl,λj y u z N=>L j y u z (by rw[Nat.zero_mul,bF];exact N)⟩,hw⟩
  .cases h
def Tu {t:TypeId} {r:Reach} (z:DB P i T t=J) (h1:T.one=J) (h:J0 P W r j t v):v.cells.toList=[v]:=by
 cases i with
 |zero=>unfold DB at z;cases z
 |succ i=>
  unfold DB at z;unfold J0 at h;cases v with
  |agg cs=>
   exfalso;split at z<;>rename_i A<;>first|(rw [A]at h;simp only[]at h;unfold Cell.okWide at h;rw[A]at h;unfold Cell.ok at h;rw[A]at h;simp at h)|cases h1|cases z
  |_=>rfl
def W_ {t:TypeId} {r:Reach} (z:DB P i T t=J) (h1:T.one=aa) (h:J0 P W r j t v):∃cs,v= .agg cs:=by
 cases i with
 |zero=>unfold DB at z;cases z
 |succ i=>
  unfold DB at z;unfold J0 at h;split at z<;>rename_i A<;>first|(rw [A]at h;obtain⟨cs,h,_⟩:=h;exact⟨cs,h⟩)|cases h1|cases z
def open_arg {n:Nat} {t:TypeId} {d:DataW H} {D:Y MemPlace} {r:Reach} (A:DB P n T t=J) (hsp:∀b,sp b=J) (hok:J0 P W r i t v) (h:DataW.Trod enc P W base sp hd t v d D):∃x,mX (λ_=>False) W (fS T x) v/\YS T x:=by
 obtain⟨fuel,hf⟩:=h;obtain⟨x,z,N⟩:=Ka n T t fuel _ _ A hsp hf;refine ⟨x,?_,N⟩;by_cases h1:T.one=J
 .obtain⟨e1,e2⟩:=FB T x h1;exact z.2 0 _ v (by rw[e1];rfl) (by rw[Tu A h1 hok];rfl)
 .obtain⟨cs,rfl⟩:=W_ A (by simpa using h1) hok;rw[rW T x (by simpa using h1)];have hl:l! cs.toList=l! (bN T x):=by rw[bw];exact z.1
  have:=mX.agg (O:=λ_=>False) (w:=W) (bN T x) cs.toList hl (pj T x) (λj y u L hu=>z.2 j y u L hu);simpa using this
end
def Sz {w:WT} {l:Y ET} (z:TR (w,l)) {H:WkH} (A:HK w l H):Ok (rC (w,l)) λy=>y.2=0/\∃tm la sp wa wt st se op re ar si ei,WkG w l (l! l) y.1 tm la sp wa wt st se op re ar si ei/\H (l! l) y.1 tm la sp wa wt st se op re ar si ei:=by
 unfold rC i_;refine aV (aq4 z) (gB (aw (ab8 z A) ?_));rintro y ⟨c,tm,la,sp,wa,wt,st,se,op,re,ar,si,ei,rfl,g,h⟩;exact aj ⟨rfl,tm,la,sp,wa,wt,st,se,op,re,ar,si,ei,g,h⟩
def noH (w:WT) (l:Y ET):HK w l λ_ _ _ _ _ _ _ _ _ _ _ _ _ _=>True:=⟨trivial,λ_ _ _ _ _ _ _ _ _ _ _ _ _ _ _ _ _ _ _=>trivial⟩
variable {a:Int}
def ZY (h:(Lit.int .u8 a).wf=J):0<=a/\a<=255:=⟨bD (wq.1 h).1,bD (wq.1 h).2⟩
def aky {a b:η} (A:l! a<=1000) (z:l! b<=1000) (h:zF a b):vD (a,b)=Z J:=by
 unfold vD Ft bS bf c5 aH cW;refine TN (σ:=Int) (max (l! a) (l! b)) (by omega) (λi=>(i:Int)) (λi hi=>?_) ?_
 .simp only[Bk];rw[Pu (by omega),Ct,alz,HY,HY,Kb,Kb,TU (h i),Gk,Gy hi (by omega)]
 .simp only[Bk];rw[TU (by omega),Gk]
def aga {w:WT} {l:Y ET} (z:TR (w,l)) (h:i<l! l):(eN l i).1=(l8 l i:Int):=by
 have:0<=(eN l i).1:=(z.ev _ (Mn h)).t0;unfold l8;omega
def ack {w:WT} {l:Y ET} (z:TR (w,l)) (A:j<l! l):tH (l,(j:Int))=Z (ct l (l8 l j) j:Int):=by
 have D:l! l<=400:=z.len;refine cI ?_;unfold tH bq bS bX c5 aH cW;refine cH j (λi x=>x=((ct l (l8 l j) i:Int),(i:Int))) ?_ ?_ rfl
 .rintro i x hi rfl;have L:=ajz l (l8 l j) i;have N:=aga z (show i<l! l by omega);have e2:=aga z A;refine dy ?_;refine aY (λx=>x=(ct l (l8 l j) (i+1):Int)) ?_ ?_
  .rw[ct];refine cY (aS (cY (aS (aJ (λh=>aj ?_) λh=>aj ?_))))
   .have h:(eN l i).1=(eN l j).1:=h;rw[aC (by omega)];exact gM
   .have h:¬(eN l i).1=(eN l j).1:=h;rw[av (by omega)];rfl
  rintro x rfl;refine aj ?_;dsimp only;rw[gM]
 .rintro x rfl;exact du (aj rfl)
def YQ {w:WT} {l:Y ET} (z:TR (w,l)) (A:j<l! l):rG (l,(j:Int))=Z ((ct l (l8 l j) (j+1):Int),(l8 l j:Int)):=by
 have D:l! l<=400:=z.len;have L:=ajz l (l8 l j) j;refine cI ?_;unfold rG bX;refine aV (ack z A) (cY (aS (aj ?_)));show (bA .i64 (1+(ct l (l8 l j) j:Int)),(eN l j).1)=_;rw[aga z A,RE,iW,Int.add_comm];rfl
def acw (c:η) (l:Y ET) (i n:Nat):tI (c,(ct l (l8 l i) n:Int),(l8 l i:Int))=Z (decide ((ct l (l8 l i) n:Int)<=c.getD (l8 l i) 0)):=by
 unfold tI;dsimp only;rw[alz,HY];rfl
def HQ (a b c:η) (ha:l! a<=9223372036854775807) (hx:∀z∈a,0<=z/\z<=255) (hc:l! c<=9223372036854775807) (hy:∀z∈c,0<=z/\z<=255):Ok (lA (a,b,c)) λy=>y=J:=by
 unfold lA bS i_ bX bf c5 aH cW;refine aw (P:=TR) (Sh a b c 30 (by omega) (by omega) ha hx hc hy) ?_;rintro⟨w,l⟩ A;have hl:l! l<=400:=A.len;have hT:l! w.2.2.2.2.1<=4:=A.wb.t;refine aw (Sz A (noH w l)) ?_;rintro⟨cs,e⟩ ⟨he,tm,la,sp,wa,wt,st,se,op,re,ar,si,ei,g,_⟩;dsimp only at he g;subst he;have hcl:=g.ci.k.cl;refine aY (λx=>x=(aa,w,l)) (gB (aj ?_)) ?_
 .dsimp only;rw[hcl];simp
 rintro x rfl;refine gB (cH (l! l) (λj x=>x=((j:Int),w,l)) ?_ ?_ rfl)
 .rintro j x N rfl;refine dy (cH j (λi x=>x=((i:Int),w,l)) ?_ ?_ rfl)
  .rintro i x hi rfl;have hil:i<l! l:=by omega
   have gi:geti (.sl aM) cs (i:Int)=cs.getD i []:=zM (T:=.sl aM) cs i;have gj:geti (.sl aM) cs (j:Int)=cs.getD j []:=zM (T:=.sl aM) cs j;refine dy (aY (λx=>x=(aa,w,l)) ?_ ?_)
   .refine cY (aS (aV (YQ A hil) (aV (acw _ l i (i+1)) (aJ (λh=>?_) λ_=>aj rfl))));have h:(ct l (l8 l i) (i+1):Int)<=(geti (.sl aM) cs (j:Int)).getD (l8 l i) 0:=h;rw[gj]at h;have hle:=g.ci.cls i j hil N (by rw[g.ci.own i hil];exact h);have L:=g.ci.k.ln i hil;have D:=g.ci.k.ln j N;rw[<- gi]at hle L;rw[<- gj]at hle D;exact cY (aS (cY (aS (aV (aky (by dsimp only at L ⊢;omega) (by dsimp only at D ⊢;omega) hle) (aj rfl)))))
   rintro x rfl;refine gB (aj ?_);dsimp only;rw[gM]
  .rintro x rfl;refine du (aj ?_);dsimp only;rw[gM]
 .rintro x rfl;exact du (aV (x:=J) (by rw[aki];rfl) (aj rfl))
def WeakCloses_law (x:η×B!) (w:YS (.st (.pr (.sl (.int .u8)) (.pr (.sl (.int .u8)) (.sl (.int .u8))))) x):lA x=Z J:=by
 obtain⟨a,b,c⟩:=x;obtain⟨⟨N,w0⟩,_,⟨L,D⟩⟩:=w;obtain⟨y,h,rfl⟩:=HQ a b c N (λz A=>ZY (w0 z A)) L (λz A=>ZY (D z A));exact h
def inert (_:FuncId):Bool:=aa
def TQ:Sn Tryz.prog inert:=λ_ h=>by cases h
def em :Y (Nat×R)->PT R
 |[]=>.leaf
 |p::r=>(em r).set p.1 (Z p.2)
noncomputable abbrev Pg:Program:=Tryz.prog
def cn (D:FT) (m:D.pre.ty.den->M D.post.ty.den):cF:=⟨D.pre,D.post,m⟩
def ar8:Pg.follows .mixedOrders=J:=by kernel_rfl
def ac {c:cF} {l:Y z?} (h:aL Pg f c) (t:O1 Pg l) (hf:ef f 65536=J:=by rfl):O1 Pg ((f,c)::l):=⟨by rw[Es (R_ hf)];exact h,t⟩
def ac2 {c:cF} {l:Y z?} (q:FuncId) (z:q%65536=f) (h:aL Pg f c) (t:O1 Pg l):O1 Pg ((q,c)::l):=⟨by rw[z];exact h,t⟩
def an:O1 Pg []:=trivial
inductive OI {R:Type}:Option R->Option R->Prop where
 |rfl {a:Option R}:OI a a
 |chk {b:Bool} {k k':Option R} (h:my k k'):OI (chk b λ_=>k) (chk b λ_=>k')
 |aI {b:Bool} {t f t' f':Option R} (h1:my t t') (h2:my f f'):OI (aI b t f) (aI b t' f')
 |lt {α:Type} {x:α} {k k':α->Option R} (h:∀y,my (k y) (k' y)):OI (lt x k) (lt x k')
 |jn {α:Type} {o o':Option (R⊕α)} {k k':α->Option R} (h:my o o') (hk:∀x,my (k x) (k' x)):OI (jn o k) (jn o' k')
 |ay {α:Type} {o o':Option α} {k k':α->Option R} (h:my o o') (hk:∀x,my (k x) (k' x)):OI (ay o k) (ay o' k')
 |iter {σ:Type} {f g:σ->Option (σ⊕R)} {x:σ} (h:∀x,my (f x) (g x)):OI (gT f x) (iter g x)
def OI.o {a b:M R} (h:OI a b):my a b:=by
 cases h with
 |rfl=>exact my.rfl
 |chk h=>exact my.chk h
 |aI h g=>exact my.bcase h g
 |lt h=>exact my.lt h
 |jn h g=>exact my.jn h g
 |ay h g=>exact my.obind h g
 |iter h=>exact my.iter h
def mk (D:FT) (m:D.pre.ty.den->M D.post.ty.den) {l:Y z?} (N:O1 Pg l) (z:TypeId->M Ty) (he:∀x,adx (Yo l) z inert (BT Pg f) D x=m x:=by intro x;kernel_rfl) (A:(BT Pg f).isSome=J:=by kernel_rfl) (L:dK (l! D.pre.bs) (l! D.post.bs)=J:=by kernel_rfl):aL Pg f (cn D m):=(Ur ar8 TQ N A he).toC L
def Bf (D:FT) (m n:D.pre.ty.den->M D.post.ty.den) (L:∀x,my (m x) (n x)) {l:Y z?} (ha:O1 Pg l) (z:TypeId->M Ty) (he:∀x,adx (Yo l) z inert (BT Pg f) D x=n x:=by intro x;kernel_rfl) (A:(BT Pg f).isSome=J:=by kernel_rfl) (N:dK (l! D.pre.bs) (l! D.post.bs)=J:=by kernel_rfl):aL Pg f (cn D m):=((Ur ar8 TQ ha A he).sub L).toC N
def Ie (D:FT) (z:(BT Pg f).isSome=J:=by kernel_rfl) (A:dK (l! D.pre.bs) (l! D.post.bs)=J:=by kernel_rfl):aL Pg f (cn D λ_=>U):=(XN z).toC A
def Ŵ (n:Nat)(k l:Y Nat)(a:Y PV)(b:Y PB):Nat×ahm:=(n,.j ⟨k,l,⟨a,b⟩,[]⟩)
def ŵ (n:Nat)(k l:Y Nat)(a:Y PV)(b:Y PB)(z:Y Adj):Nat×ahm:=(n,.j ⟨k,l,⟨a,b⟩,z⟩)
abbrev Ŷ (a:Y PV)(b:Y PB)(c:Y PV)(d:Y PB)(h:PT ahm):FT:=⟨⟨a,b⟩,⟨c,d⟩,h⟩
def ŷ (a:Y PV)(b:Y PB)(c:Y PV)(d:Y PB)(h:PT ahm)(m:(Ŷ a b c d h).pre.ty.den->M (Ŷ a b c d h).post.ty.den):cF:=cn (Ŷ a b c d h) m
def W?:PV:=.d aM
def X!:PV:=.d .bool
def X?:PB:=.F 2 J aM
def Y!:PV:=.H 0 0
def Y?:PB:=.F 50 J (.sl aM)
def Z!:PB:=.C 66 [.d jF]
def Z?:PB:=.F 3 aa aM
def À:PB:=.F 4 J .bool
def Á:PB:=.C 120 [.d wg]
def Â:PB:=.F 3 J aM
def Ã:PB:=.C 107 [.d jG]
def Ä:PV:=.d fe
def Å:PB:=.C 155 [.d fO]
def Æ:PV:=.H 1 0
def Ç:PB:=.I (.ir 3 aM) 0
def È:PB:=.C 31 [.d po]
def É:PV:=.d jF
def Ì:PV:=.d po
def Í:PV:=.d (.sl .str)
def Î:PV:=.d (.sl aM)
def Ï:PB:=.F 9 J .str
def Ð:PB:=.C 210 [.d sk]
def Ñ:PB:=.I (.ar 170 lS) 0
def Ò:PV:=.H 2 0
def Ó:PV:=.d jG
def Ô:PV:=.d (.sl iB)
def Õ:PB:=.C 103 [.d AM]
def Ö:PV:=.H 3 0
def Ø:PB:=.F 178 J iB
def Ù:PV:=.d wg
def Ú:PB:=.C 34 [.d nk]
def Û:PV:=.nil
def Ü:PV:=.G 3
def Ý:PV:=.G 4
def Þ:PV:=.G 6
def ß:PV:=.d fO
def à:PB:=.F 98 J eA
def á:PV:=.d nk
def â:PV:=.d (.sl eA)
def ã:PV:=.d .str
def ä:PV:=.G 7
def å:PV:=.G 5
def æ:PV:=.H 4 0
def ç:PV:=.G 11
def è:PB:=.I (.rr 50 1) 13
def é:PB:=.C 152 [.d Qj]
def ê:PB:=.C 197 [.d fe]
def ë:PB:=.F 52 J fO
def ì:PV:=.G 0
def í:PV:=.d (.sl Jd)
def î:PV:=.G 2
def ï:PV:=.d sk
def ð:PV:=.d rf
def ò:PV:=.d JW
def ó:PB:=.I (.rr 50 1) 12
def ô:PV:=.ob 12 0
def õ:PV:=.qy 93 [(15,0),(16,0),(0,0)]
def ö:PV:=.qy 96 [(15,0),(0,0),(16,0)]
def ù:PV:=.G 1
def ú:PV:=.d .ex
def û:PV:=.d xE
def ü:PB:=.qf 9 .str
def ý:PV:=.d Qj
def þ:PB:=.qk
def ā:PV:=.d AM
def Ă:PB:=.I (.qc 166) 11
def ă:PV:=.d (.sl mA)
def Ą:PV:=.d (.sl tY)
def ą:PV:=.d (.sl uu)
def Ć:PB:=.C 61 [.G 2,.d aM,.G 3,.G 4]
def ć:PB:=.C 3 [.d aM]
def Ĉ:PB:=.C 61 [.qv 4 2 3,.d aM,.d rf,.d (.sl iB)]
def ĉ:PV:=.G 8
def Ċ:PB:=.I (.rr 50 1) 14
def ċ:PV:=.d .sm
def Č:PB:=.C 61 [.d JW]
def č:PV:=.d (.sl nX)
def Ď:PV:=.d (.sl qO)
def ď:PB:=.qf 220 .sm
def Đ:PV:=.H 16 0
def đ:PB:=.C 220 [.d .sm]
def Ē:PV:=.G 10
def ē:PB:=.C 218 [.d .ex]
def Ĕ:PV:=.qy 136 [(1,0)]
def ĕ:PV:=.H 6 0
def Ė:PB:=.F 9 aa .str
def Ę:PV:=.d (.sl .sm)
def ě:PV:=.H 15 0
def ĝ:PV:=.H 5 0
def Ğ:PB:=.F 98 aa eA
def Ġ:PV:=.H 14 0
def ġ:PV:=.G 12
def Ģ:PB:=.F 220 J .sm
def ģ:PB:=.C 197 [.d aM,.G 3,.G 4,.d aM]
def ĥ:PV:=.qy 92 [(14,0)]
def Ħ:PB:=.C 193 [.d yO]
def ħ:PB:=.C 134 [.d qO]
def Ĩ:PB:=.C 61 [.G 4,.d aM,.G 5,.G 6]
def ĩ:PV:=.d JX
def Ī:PB:=.F 134 J qO
def ī:PV:=.qv 1 1 4
def Ĭ:PB:=.I .qh 11
def ĭ:PV:=.H 7 0
def Į:PB:=.I (.rr 50 1) 15
def ı:PV:=.qv 4 1 4
def Ĳ:PB:=.F 210 J sk
def ĳ:PV:=.d (.sl jF)
def Ĵ:PV:=.d (.sl fO)
def ĵ:PB:=.C 115 [.d xE]
def Ķ:PV:=.G 9
def ĸ:PB:=.F 66 J jF
def Ļ:PB:=.mp nX .un
def ļ:PB:=.C 76 [.d mA]
def Ľ:PV:=.d (.int .u8)
def ŀ:PV:=.d Gs
def Ł:PB:=.F 130 J tY
def ł:PB:=.F 132 J nX
def ť:PB:=.C 120 [Ù]
def Ū:PB:=.C 155 [ß]
def Ţ:PB:=.C 66 [É]
def Ű:PB:=.C 34 [á]
def ţ:PB:=.C 107 [Ó]
def Ņ:Y PB:=[Ű,ţ]
def ŧ:PB:=.C 210 [ï]
def ŋ:Y PV:=[â,W?,ð,Ô]
def Ō:Y PV:=[Y!,Æ,Ò]
def ō:Y PB:=[à,À,Ø,X?,X?]
def ŏ:Y PV:=[ă,Ą,č,Í,Í,Ď]
def Œ:Y PB:=[X?,Y?]
def œ:Y PV:=[W?,W?]
def Ŧ:PB:=.C 103 [ā]
def ŝ:Y PB:=[Â,Â,Â]
def Ť:PB:=.C 31 [Ì]
def ŕ:Y PB:=[Ŧ,ţ,Ť]
def Ř:Y PV:=[Æ,W?,W?,X!,X!,X!,X!]
def Ŭ:PB:=.C 3 [W?]
def Ś:Y PB:=[ţ,Ţ]
def ś:Y PB:=[Ť,Ţ]
def Ŝ:Y PV:=[W?,Ä,Ä]
def Ş:Y PV:=[W?,W?,W?,W?,W?]
def ş:Y PB:=[Ť,ħ]
def š:Y PB:=[Ť,ţ,Ţ]
def Ũ:PB:=.C 152 [ý]
def ũ:PB:=.C 197 [Ä]
def ū:PB:=.C 61 [ò]
def ŭ:PB:=.C 220 [ċ]
def Ů:PB:=.C 218 [ú]
def ů:PB:=.C 61 [î,W?,Ü,Ý]
def Ų:PB:=.C 197 [W?,Ü,Ý,W?]
def ų:PB:=.C 115 [û]
abbrev wE:Y PV:=(Ş++[Û,Û])
def Ê:PB:=.C 66 wE
abbrev xD:Y PV:=[Û,W?,Û,Û,Û,Û,Û]
def Ë:PB:=.C 115 xD
def į:PB:=.C 107 xD
def Ŗ:Y PB:=[Ū,Ë,Ê,Ţ]
abbrev amu:Y PV:=(Ř++[Ý])
abbrev amy:Y PV:=[W?,W?,ã,ã,Û,W?,W?,ã,Û,Û,Û]
abbrev La2:Y PB:=[.C 214 amu,Ŧ,þ,.C 220 amy,ü]
abbrev Qi:Y PV:=(Ō++[Ö,æ,ĝ,ĕ,ĭ,X!])
abbrev La4:Y PB:=[.C 206 (ŏ++Í::î::œ),þ,Ĳ]
abbrev La5:Y PB:=[.C 206 (ŏ++Í::ù::œ),Ĳ]
abbrev La6:Y PV:=[W?,ç,ġ,W?]
def ø:PB:=.C 197 La6
def ő:Y PB:=[Ū,Ë,Ê,Ţ,ø,ŧ,X?,X?]
abbrev La7:Y PB:=[.C 152 [Û,Û],.C 214 [ĝ,W?,W?,X!,X!,X!,X!,Þ],.C 152 [í,ä],Ė,.C 204 [ã,W?,ĉ,Ķ],Ŧ,ü,.F 204 J uu,Ė,Ģ]
abbrev La8:Y PB:=[.C 245 [í,ą,W?,ù,Þ,ä],ď,þ,þ,ŭ,Ũ,Ï,Ï]
abbrev La9:Y PV:=(ŋ++[ĉ,Ķ,.qv 10 4 4])
def ķ:PB:=.C 115 La9
def Ň:Y PB:=(ť::ķ::ő)
abbrev al9:Y PB:=[.C 115 (ŋ++[Þ,ä,.qv 8 4 4]),Ū,Ë,Ê,Ţ,ũ,X?,X?,.C 197 [Ä,Ä,Ä,Ä]]
abbrev amv:Y PV:=(Ř++[î])
abbrev Sk:Y PV:=[ŀ,W?]
def ė:PB:=.C 103 Sk
abbrev YO:Y PB:=[.C 214 amv,ė,ü]
abbrev OZ:Y PV:=(Ō++[Ö,æ,ĝ,ĕ,ĭ,W?])
abbrev ap2:Y PV:=(ŋ++[ĉ,Ķ,.qv 10 4 3])
def ň:Y PB:=(ť::.C 115 ap2::ő)
abbrev apm:Y PB:=(ň++.C 197 (W?::ç::ġ::Ŝ)::Œ)
abbrev apl:Y PB:=(ň++.C 197 [Ä,W?,ç,ġ,W?,Ä]::Œ)
abbrev apk:Y PB:=(ň++.C 197 [Ä,Ä,W?,ç,ġ,W?]::Œ)
abbrev amx:Y PV:=(ŋ++[ĉ,Ķ,.qv 10 4 2])
def Ő:Y PB:=(ť::.C 115 amx::ő)
abbrev apj:Y PB:=(Ő++.C 197 [W?,ç,ġ,W?,Ä]::Œ)
abbrev api:Y PB:=(Ő++.C 197 [Ä,W?,ç,ġ,W?]::Œ)
abbrev acs:Y PB:=[.C 245 [í,ą,W?,ù,Ý,å],ď,þ,þ,Ï,Ï]
abbrev OY:Y PV:=(Ō++[Ö,æ,ĝ,ĕ,X!])
abbrev ig:Y PV:=[Y!,X!]
abbrev acr:Y PB:=[.C 245 [í,ą,W?,ù,î,Ü],ď,Ï,Ï]
abbrev aph:Y PB:=(ť::.C 115 (ŋ++[ĉ,Ķ,.qv 10 4 1])::Ū::Ë::Ê::Ţ::ø::ŧ::X?::X?::ø::Œ)
abbrev OX:Y PV:=(Ō++[Ö,æ,ĝ,ĕ])
abbrev apg:Y PB:=(Ň++.C 197 [W?,ç,ġ,W?,Ä,Ä,Ä]::Œ)
abbrev apf:Y PB:=(Ň++.C 197 (Ä::W?::ç::ġ::Ŝ)::Œ)
abbrev ape:Y PB:=(Ň++.C 197 [Ä,Ä,W?,ç,ġ,W?,Ä]::Œ)
abbrev apd:Y PB:=(Ň++.C 197 [Ä,Ä,Ä,W?,ç,ġ,W?]::Œ)
abbrev Nx:Y PB:=(š++[į])
abbrev OW:Y PV:=(Ō++[Ö,æ,ĝ])
abbrev apc:Y PB:=[.C 115 (ŋ++[Þ,ä,.qv 8 4 3]),Ū,Ë,Ê,Ţ,ũ,X?,X?,.C 197 [Ä,Ä,Ä]]
abbrev Wf:Y PV:=(ŋ++[ä,ĉ,.qv 9 4 4])
def ę:PB:=.C 115 Wf
def ń:Y PB:=(ť::ę::Ŗ)
abbrev sr:Y PV:=[Y!,Æ,X!]
abbrev B6:Y PV:=(Ō++[Ö,X!])
abbrev al1:Y PV:=[Û,Û,Û,Û,Û,Û]
def ľ:PB:=.C 31 al1
abbrev apb:Y PB:=[Ũ,ľ,.C 31 [Ý,å,Þ,ä,Û,Û],.C 248 [.d Jd],.F 76 J mA,Ł,ł,Ï]
abbrev acp:Y PV:=[Û,Û,Û,Û,Û,Û,Û]
def Ŀ:PB:=.C 34 acp
abbrev asj:Y PV:=(ŏ++[å])
abbrev asv:Y PB:=[Ũ,.C 120 acp,.C 120 asj,.C 206 (ŏ++Í::Þ::œ),.C 193 [W?,Þ],.F 193 J yO,Ĳ]
abbrev JV:Y PV:=[ì,W?,ù,î]
def Ě:PV:=.agg JV
def Ĝ:PV:=.agg [.agg JV,.G 3,.G 4,.qv 5 4 2]
def ű:PV:=.agg [Ě,Ü,Ý,.qv 5 4 2]
abbrev apa:Y PB:=(ŕ++ĸ::.C 50 [å,Þ,ä,ĉ]::Â::ŝ)
abbrev HV:Y PV:=(Ō++[W?])
abbrev ap9:Y PB:=(ŕ++.C 50 [Ý,å,Þ,ä]::Â::ŝ)
abbrev Nw:Y PV:=[W?,Î,ĩ,W?]
def Ā:PB:=.C 197 Nw
abbrev acq:Y PV:=(ŋ++[ä,ĉ,.qv 9 4 3])
def Ĥ:PB:=.C 115 acq
def ņ:Y PB:=(ť::Ĥ::Ŗ)
abbrev JU:Y PV:=(Ō++[X!])
abbrev yN:Y PV:=[Y!,Æ,W?]
abbrev Nv:Y PV:=[W?,Ē,ç,W?]
def ÿ:PB:=.C 197 Nv
abbrev al0:Y PV:=[W?,ì,ù,W?]
abbrev aa3:Y PV:=[W?,Û,Û,W?]
def Ĺ:PB:=.C 197 aa3
abbrev ap8:Y PB:=[X?,Y?,ŧ,.C 197 al0,Ĺ]
abbrev ap7:Y PB:=[.C 245 [í,ą,W?,Ý,å,Þ],þ,þ,þ,ď,Ï,Ï]
abbrev En:Y PV:=[Û,W?,Û,Û]
def ñ:PB:=.C 61 En
def ř:Y PB:=[Ť,.C 61 [.qv 4 2 3,W?,ð,Ô],Ŭ,ñ]
abbrev ap6:Y PB:=[ů,ñ,à,À,Ø]
abbrev Nu:Y PV:=[Y!,Ö,X!]
abbrev asu:Y PB:=[Ŀ,Ŧ,.C 34 asj,ţ,.F 66 aa jF,ĸ]
abbrev ast:Y PB:=[.C 115 (ŋ++[Þ,ä,.qv 8 4 2]),Ū,Ë,Ê,Ţ,ũ,X?,X?,.C 197 [Ä,Ä]]
abbrev rc:Y PB:=[Ť]
abbrev ass:Y PB:=(ŕ++ĸ::.C 50 [ä,ĉ,Ķ,Ē]::Ţ::ţ::Â::ŝ)
abbrev al8:Y PB:=[ľ,.C 31 [î,Ü,Ý,å,Þ,ä],.F 76 aa mA,.F 130 aa tY,.F 132 aa nX,Ė,Ė,Ī]
abbrev u_:Y PV:=[Y!,W?]
abbrev ahc:Y PV:=[î,Ü,Ý,å]
def İ:PB:=.C 50 ahc
def Ŕ:Y PB:=(Ŧ::İ::Â::ŝ)
abbrev asr:Y PB:=(Ŕ++[Ê,.C 66 (Ş++[Î,Û])])
abbrev al7:Y PV:=(ŋ++[ä,ĉ,.qv 9 4 2])
def ĺ:PB:=.C 115 al7
def Ŋ:Y PB:=(ť::ĺ::Ŗ)
abbrev OV:Y PV:=[û,É,X!]
abbrev asq:Y PB:=(Ŕ++[ţ,Ť,Ê,Ê])
abbrev asp:Y PB:=[Ũ,ľ,.C 31 [Ü,Ý,å,Þ,Û,Û],.F 76 J mA,Ł,ł,Ï]
abbrev ap5:Y PV:=(ŋ++[Ü,Ý,å])
abbrev OU:Y PV:=[Ù,û,ß]
abbrev ap4:Y PB:=[à,À,Ø,.C 61 JV,Â]
abbrev ahf:Y PV:=[Ü,W?,Ý,å]
abbrev aso:Y PB:=[Ť,.C 61 ahf,ñ,à,À,Ø]
abbrev wD:Y PV:=œ
abbrev ap3:Y PB:=[ĸ,ť,ų,Ë]
abbrev asn:Y PB:=(Ħ::Ų::Ĺ::Œ)
abbrev asm:Y PB:=[.C 214 amu,Ŧ,þ,Ģ,ü]
abbrev ap1:Y PV:=(Ř++[Ü])
abbrev asl:Y PB:=[Ê,ũ,ŧ,.C 66 (Ş++[Ý,Û]),Â]
abbrev Sj:Y PB:=[ŭ]
abbrev al6:Y PV:=[.agg [Ě,Ü,Ý,.qv 5 4 4]]
abbrev We:Y PB:=[Ũ]
abbrev ap0:Y PB:=[Ť,Ħ,ŧ]
abbrev al5:Y PB:=[Ũ,.C 204 [.d uu]]
abbrev al4:Y PB:=[Ũ,Ů]
abbrev aoz:Y PB:=[Ť,Ï,ļ]
abbrev aoy:Y PB:=[à,À,Ø]
abbrev al3:Y PB:=[Ť,ŧ]
abbrev al2:Y PV:=[Y!,æ,ĝ,X!]
abbrev aox:Y PV:=(Ō++[Ö,æ,W?])
abbrev YN:Y PB:=[Ť,ū]
abbrev aow:Y PB:=[Ŧ,Â,Â]
abbrev aco:Y PB:=[Ť,Ï]
abbrev aov:Y PB:=[Ţ,į,.C 107 ap5,X?,X?,Â]
abbrev ask:Y PB:=(ė::İ::Â::ŝ)
abbrev Wd:Y PB:=[ė]
abbrev Nt:Y PV:=[Î,W?]
abbrev acn:Y PB:=[Ŧ]
abbrev YM:Y PV:=[Y!,ù,W?]
abbrev acm:Y PB:=[.C 248 [.d Jd]]
abbrev aou:Y PV:=[.agg [Ě,Ü,Ý,.qv 5 4 3]]
abbrev ahk:Y PB:=Œ
abbrev ahj:Y PB:=[ť,ų]
abbrev ahi:Y PB:=[Ť,Ħ]
abbrev qY:Y PV:=[Î]
def Ń:PB:=.C 50 qY
abbrev ahh:Y PV:=(Ō++[Ö])
abbrev amw:Y PV:=(ŋ++[ä,ĉ,.qv 9 4 1])
def ŗ:Y PB:=[ť,.C 115 amw,Ū,Ë,Ê,Ţ]
abbrev ahg:Y PB:=[ū,Â]
abbrev Wg:Y PV:=(Y!::œ)
def tyT:PT Ty:=em [(2,aM),(3,aM),(4,.bool),(9,.str),(50,(.sl aM)),(52,fO),(55,(.sl (.st (.pr aM ala)))),(58,rf),(64,(.st (.pr aM ala))),(66,jF),(76,mA),(83,fO),(98,eA),(130,tY),(132,nX),(134,qO),(155,fO),(178,iB),(193,yO),(197,fe),(204,uu),(210,sk),(218,.ex),(220,.sm),(248,Jd)]
def cg (t:TypeId):M Ty:=tyT.get t
def OD:=ŷ [] [] [Í] [] .leaf lK
def M1:=ŷ [ã] [] [X!] [] (em [Ŵ 8 [0,3] [4] [W?] []]) kA
def VH:=ŷ [Ľ] [] [X!] [] (em [Ŵ 2 [] [2] [X!] []]) mE
def Ym:=ŷ [Ľ] [] [X!] [] (em [Ŵ 2 [] [2] [X!] []]) sP
def Yl:=ŷ [Ľ] [] [X!] [] (em [Ŵ 2 [] [2] [X!] []]) qL
def VK:=ŷ [ã] [] [X!] [] (em [Ŵ 3 [0] [21] [X!] [],Ŵ 14 [0] [3] [W?] []]) fx
def Yd:=ŷ [X!] [] [W?] [] .leaf gk
def Ye:=ŷ wD [] [W?,X!] [] .leaf vK
def VB:=ŷ (W?::œ) [] [W?,X!] [] (em [Ŵ 91 [] [6,7] [W?,X!] [],Ŵ 97 [] [6,7] [W?,X!] []]) tK
def Yf:=ŷ wD [] [W?] [] (em [Ŵ 12 [] [5] [W?] []]) sN
def OC:=ŷ [W?] [] [W?] [] (em [Ŵ 4 [0] [3] [X!] [],Ŵ 10 [0] [10] [X!] [],Ŵ 16 [] [17] [X!] []]) nC
def qu:=Ŷ [ú] [] [X!] [] (em [Ŵ 2 [] [1,3] ig [Ů],Ŵ 5 [] [1,50] ig [Ů],Ŵ 16 [] [1,4] u_ [Ů]])
def JF:cF:=cn qu jN
def Jq (n:Nat):cF:=cn qu (iy n)
def Yk:=ŷ [ú] [] [X!] [] (em [Ŵ 2 [] [2] [X!] []]) qK
def ut:=Ŷ [ċ] [] [X!] [] (em [Ŵ 3 [] [1,13] ig Sj,Ŵ 10 [] [1,3] ig Sj,Ŵ 13 [] [1,47] ig Sj,Ŵ 21 [] [1,66] ig Sj,Ŵ 29 [] [1,95] ig Sj,Ŵ 36 [] [1,4] ig Sj,Ŵ 39 [] [1,130] ig Sj,Ŵ 46 [] [1,5] ig Sj,Ŵ 49 [] [1,157] ig Sj,Ŵ 56 [] [2] [X!] []])
def Jp (n:Nat):cF:=cn ut (eQ n)
def pl:=Ŷ [Ę] [] [X!] [] (em [Ŵ 6 [0] [3] [W?] []])
def HC:cF:=cn pl o9
def G5 (n:Nat):cF:=cn pl (dN n)
def JE:=ŷ [.d Jd] [] [X!] [] (em [Ŵ 3 [] [1,31] ig acm,Ŵ 11 [] [1,50] ig acm,Ŵ 18 [] [2] [X!] []]) kZ
def VG:=ŷ [ý] [] [X!] [] (em [Ŵ 6 [] [1,3] u_ We,Ŵ 27 [] [1,4] u_ We,Ŵ 42 [4] [1,5,6] yN al5,Ŵ 59 [4] [1,56] ig We]) qU
def ak5:=ŷ [Í,ã] [] [W?] [] (em [Ŵ 6 [0,1] [5] [W?] []]) jL
def VF:=ŷ [í,ã] [] [W?] [] (em [Ŵ 6 [0,1] [5] [W?] []]) iw
def OA:=ŷ [ą,ã] [] [W?] [] (em [Ŵ 6 [0,1] [5] [W?] []]) hY
def VD:=ŷ [ý,W?,ã] [] [W?] [] (em [Ŵ 3 [2] [3,27] ig We,Ŵ 52 [7] [3,56] ig We]) qT
def abs:=ŷ (ý::W?::ã::œ) [] [W?] [] (em [Ŵ 13 [] [25] [X!] []]) gR
def zV:=Ŷ [ú] [] wD [] (em [Ŵ 8 [] [1,4,5,6] (Y!::W?::œ) [Ů]])
def Yi:cF:=cn zV DW
def Xl (n:Nat):cF:=cn zV (oL n)
def zU:=Ŷ [ý,W?,ú] [] [W?] [] (em [Ŵ 7 [1] [3,5,7] yN al4,Ŵ 21 [1] [3,5,7,8] (Y!::Æ::œ) al4,Ŵ 23 [1,7,8] [3,5,33] sr al4])
def Yg:cF:=cn zU DV
def Xk (n:Nat):cF:=cn zU (oK n)
def abt:=ŷ [ý,W?,ú] [] [W?] [] (em [Ŵ 13 [1] [3,5,22] sr al4]) nB
def RY:=ŷ [X!] [] [W?] [] .leaf dh
def ak4:=ŷ wD [] [W?] [] .leaf jK
def HB:=ŷ [Y!,W?,W?,ã] acr [X!] acr (em [Ŵ 6 [1,2,3] [0,9] u_ acr,Ŵ 17 [1,2,3,9] [0,46] ig acr]) ep
def Oy:=ŷ [Y!,ċ] acr [W?] acs (em [(1,(.a [.qx 0 4,.qx 0 5])),Ŵ 28 [6,7,8,9,30] [0,3,5,67] al2 La8,Ŵ 41 [] [4] [W?] acs,Ŵ 44 [6,7,8,9,30] [0,3,5,91] al2 La8,Ŵ 51 [] [4] [W?] acs,Ŵ 63 [] [4] [W?] acs,Ŵ 66 [6,7,8,9,30] [0,3,5,119] al2 La8,Ŵ 89 [] [4] [W?] acs,Ŵ 108 [] [0,3,187] [Y!,æ,X!] [.C 245 [í,ą,W?,ù,å,Þ],ď,þ,þ,ŭ,Ï,Ï],Ŵ 131 [] [4] [W?] acs,Ŵ 137 [6] [0,3,5,14] [Y!,æ,ĝ,W?] La8,Ŵ 139 [6] [0,3,5,14] [Y!,æ,ĝ,W?] La8,Ŵ 140 [6,14] [0,3,5,253] al2 La8]) nA
def tw:=Ŷ [Y!,Ę] acr wD ap7 (em [(1,(.a [.qx 0 3,.qx 0 4,.qx 0 5])),Ŵ 6 [1] [0,6] u_ ap7,Ŵ 19 [1,6] [0,7,8] [Y!,æ,W?] [.C 245 [í,ą,W?,å,Þ,ä],þ,þ,þ,ŭ,ď,Ï,Ï],Ŵ 37 [1,6] [0,8,9] Wg ap7])
def Oz:cF:=cn tw xm
def N6 (n:Nat):cF:=cn tw (iZ n)
def zW:=Ŷ [Ę] [] [W?] [] (em [Ŵ 8 [0] [3,4] wD []])
def Yj:cF:=cn zW DX
def Xm (n:Nat):cF:=cn zW (oM n)
def Yh:=ŷ [í] [] wD [] (em [Ŵ 8 [0] [4,5,6,7,8] (W?::W?::W?::œ) [],Ŵ 16 [0,8] [4,5,6,7] (W?::W?::œ) [],Ŵ 38 [0,8] [4,5,6,7,9] [W?,W?,W?,W?,Y!] acm,Ŵ 39 [0,4,5,6,7,8,36] [9,39] ig acm,Ŵ 47 [0,4,5,6,7,8,36] [9,47] ig acm,Ŵ 61 [0,4,5,6,7,8] [9,69] ig acm]) sO
def RX:=ŷ [ý] [] wD [] (em [Ŵ 6 [] [1,4] u_ We,Ŵ 17 [4] [1,5,37] sr al5,Ŵ 29 [] [1,6] u_ We,Ŵ 51 [6] [1,7,8] yN al5,Ŵ 62 [6,8] [1,7,90] sr al5]) o8
def RZ:=ŷ [ý] [] wD [] (em [Ŵ 44 [] [1,8,9] Wg We,(67,(.a [.qp 10 3 220 .sm,.qp 10 4 9 .str,.qp 10 5 9 .str])),Ŵ 69 [] [1,10,11] yN [Ũ,.C 245 [í,ą,W?,î,Ü,Ý],ď,Ï,Ï]]) fE
def zS:=Ŷ [ì,W?,W?,Ę] [Ī] [ù,W?] [þ,Ī] (em [(1,(.a [.qx 0 0])),Ŵ 6 [1,3] [0,2,10] (ù::œ) [þ,Ī],(25,(.a [.nil 8 134 qO]))])
def X9:cF:=cn zS Lc
def Xj (n:Nat):cF:=cn zS (qN n)
def Vx:=ŷ [Ą,ã] [] [W?] [] (em [Ŵ 6 [0,1] [5] [W?] []]) ly
def Vz:=ŷ [Ì,ã] [] [W?] [] (em [Ŵ 6 [1] [2,5] u_ rc]) mD
def Yb:=ŷ [ý] [] [Ì] [] (em [ŵ 18 [] [1,2,3,6] HV asp [.qp 3 0 76 mA,.qp 3 1 130 tY,.qp 3 2 132 nX,.qp 3 3 9 .str],Ŵ 31 [6] [1,2,3] Ō asp,Ŵ 32 [6,31] [1,2,3,7,39] B6 apb,Ŵ 42 [6] [1,2,3,7,8] (Ō++[Ö,W?]) apb,Ŵ 53 [6,31] [1,2,3,7,65] B6 apb,(69,(.a [.qp 3 5 134 qO])),ŵ 71 [] [1,2,3,9] HV [Ũ,ľ,.C 31 [Ü,Ý,å,Þ,ä,ĉ],.F 76 J mA,Ł,ł,Ï,Ï,Ī] [.qp 3 4 9 .str]]) vJ
def X_:=ŷ [Ì] [] [Í,X!] [] (em [ŵ 8 [] [1,4,5] YM aco [.nil 4 9 .str],Ŵ 15 [] [1,4,5] YM aco,Ŵ 37 [5] [1,4,6,51] [Y!,ù,Ò,X!] aoz,Ŵ 48 [5] [1,4,6,7] [Y!,ù,Ò,W?] aoz,Ŵ 59 [5,7] [1,4,6,93] [Y!,ù,Ò,X!] aoz,Ŵ 72 [] [1,4,9] YM aco,Ŵ 87 [] [1,4,10] YM aco]) qI
def JD:=ŷ [Ì] [] [X!] [] (em [Ŵ 3 [] [1,49] ig rc,Ŵ 24 [3] [1,5] u_ rc,Ŵ 33 [3,5] [1,79] ig rc,Ŵ 45 [] [1,6] u_ rc,Ŵ 56 [6] [1,109] ig rc,Ŵ 68 [] [1,8] u_ rc,Ŵ 76 [8] [1] [Y!] rc,Ŵ 80 [8] [1,9,132] sr ş,Ŵ 87 [8] [1,9,146] sr ş,Ŵ 90 [8] [1,165] ig rc]) iv
def M0:=ŷ [ï] [] qY [] (em [Ŵ 6 [4] [1,5] ig [ŧ],Ŵ 24 [4] [1,13] ig [ŧ],Ŵ 46 [4] [1,37] ig [ŧ]]) kz
def Vy:=ŷ [W?] [] [X!] [] (em [Ŵ 2 [] [2] [X!] []]) qS
def X':=ŷ [.d (.sl sk),W?] [] [X!] [] (em [Ŵ 6 [0] [1,5] wD [],Ŵ 14 [0,5] [1] [W?] [],Ŵ 16 [0,1,5] [19] [X!] []]) qJ
def ak3:=ŷ wD [] [X!] [] (em [Ŵ 2 [] [4] [X!] []]) j6
def Ya:=ŷ (Ì::œ) [] [X!] [] (em [Ŵ 2 [] [6] [X!] []]) oG
def RQ:=ŷ [Ì,ï] [] [X!] [] (em [Ŵ 9 [] [4] [X!] [],Ŵ 15 [] [4] [X!] [],Ŵ 30 [6] [2,3,59] sr al3,Ŵ 37 [] [4] [X!] [],Ŵ 40 [6] [2,3,78] sr al3,Ŵ 55 [] [4] [X!] [],Ŵ 58 [6] [2,3,98] sr al3,Ŵ 72 [6] [2,3,108] sr al3,Ŵ 97 [] [4] [X!] [],Ŵ 103 [] [4] [X!] []]) mO
def HA:=ŷ [Ì,W?,.d yO] [] [X!] [] (em [Ŵ 5 [1,7] [3,5,26] sr ahi,Ŵ 16 [1,7] [3,5,8] yN ahi,Ŵ 28 [1,7,8] [3,5,9,67] JU ap0,Ŵ 36 [1,7,8] [3,5,9,100] JU ap0,Ŵ 44 [1,7,8] [3,5,9,122] JU ap0,Ŵ 56 [1,7,8,10] [3,5,11] yN ahi]) iL
def Yc:=ŷ [Ù] [] [X!] [] (em [Ŵ 3 [] [1,17] ig [ť],Ŵ 14 [] [1,3] u_ [ť]]) ky
def RU:=ŷ [Y!,ï] La5 [] La4 .leaf cO
def rY:=Ŷ [Y!,ú,W?] La5 [] La4 (em [Ŵ 2 [] [] [] La4])
def MY:cF:=cn rY ji
def Lp (n:Nat):cF:=cn rY (ju n)
def JC:=ŷ [Y!,ċ] La5 [] La4 .leaf m7
def Ox:=ŷ [Y!,ã] La5 [W?] La5 (em [Ŵ 6 [1] [0,5] u_ La5]) kg
def rZ:=Ŷ [Y!,Ę] La5 [] La4 (em [(1,(.a [.qx 0 7])),Ŵ 3 [1] [0,4] u_ La4])
def MZ:cF:=cn rZ vI
def Lq (n:Nat):cF:=cn rZ (dX n)
def xu:=Ŷ [Y!,ċ] La5 [] La4 (em [(1,(.a [.qx 0 7])),Ŵ 10 [] [] [] La4,Ŵ 15 [4,25] [0,3,31] [Y!,Ò,X!] [.C 206 (ŏ++Í::Ü::œ),þ,ŭ,Ĳ]])
def N5 (n:Nat):cF:=cn xu (eZ n)
def r7:=Ŷ [Y!,ċ] La5 [] La4 .leaf
def Fb (n:Nat):cF:=cn r7 (dk n)
def ur:=Ŷ (Y!::ċ::W?::œ) La5 [] La4 .leaf
def Jo (n:Nat):cF:=cn ur (dQ n)
def RW:=ŷ [ý] [] (Ù::œ) [] (em [ŵ 20 [] [1,2,7,8,9] (Ō++œ) [Ũ,.C 120 acp,.C 120 (ŏ++[Ü]),.F 193 J yO] [.qp 7 6 193 yO],(32,(.a [.qp 10 7 210 sk])),Ŵ 45 [8,9] [1,2,7,10,11,12] aox asv,Ŵ 59 [8,9,12,13] [1,2,7,10,11,14] aox asv]) rK
def age:=ŷ Nt [] [X!] [] (em [Ŵ 6 [0,1] [5] [W?] []]) rJ
def agd:=ŷ Nt [] qY [] (em [Ŵ 6 [0,1] [5] [W?] [],Ŵ 8 [0,1,5] [18] [X!] [],Ŵ 16 [0,1,5] [32] [X!] []]) ya
def X8:=ŷ [Î,Î] [] qY [] (em [Ŵ 8 [0,1] [5,6] Nt [],Ŵ 23 [1] [5,7] Nt []]) sM
def Ow:=ŷ [W?] [] [W?] [] (em [Ŵ 3 [0] [8] [X!] []]) nz
def abr:=ŷ [Ä] [] [.agg al0] ahk (em [ŵ 8 [] [1,2,3,4] HV (ũ::Ĺ::Ų::Œ) [.qp 3 2 50 (.sl aM)]]) cE
def abq:=ŷ [ï,.agg al0] ahk [.agg al0,X!] ahk (em [Ŵ 8 [6] [2,3,4,7] [Ò,Ö,æ,W?] ap8,Ŵ 17 [6,7] [2,3,4,33] [Ò,Ö,æ,X!] ap8,Ŵ 32 [] [2,3,4,8,9,10] [Ò,Ö,æ,W?,X!,Î] ap8]) x_
def Vw:=ŷ [.d yO,Ä] [] [Ä,X!] [] (em [Ŵ 3 [] [2,3,4,23] JU [Ħ,ũ,Ĺ],Ŵ 16 [] [2,3,4,6] HV asn,Ŵ 26 [6] [2,3,4,44] JU asn]) oF
def X6:=ŷ [Ì] [] [ò] [] (em [ŵ 8 [] [1,2,3,4] HV [Ť,ñ,.C 61 [Ü,W?,Û,Û],à] [.qp 3 0 98 eA],ŵ 23 [] [1,2,3,5] HV [Ť,ñ,.C 61 [Ü,W?,Ý,Û],à,À] [.qp 3 2 4 .bool],ŵ 38 [] [1,2,3,6] HV [Ť,ñ,.C 61 ahf,à,À,Ø] [.qp 3 3 178 iB],Ŵ 49 [6] [1,2,3,7] ahh [Ť,ñ,.C 61 [Ý,W?,å,Þ],.C 178 [.d iB],à,À,Ø]]) sK
def abo:=ŷ [Ì,ò] [] [X!] [] (em [Ŵ 6 [] [2,3,5] yN YN,Ŵ 15 [5] [2,3,31] sr YN,Ŵ 23 [] [4] [X!] []]) sL
def ak2:=ŷ wD [] [X!] [] (em [Ŵ 2 [] [4] [X!] []]) rI
def X5:=ŷ (Ì::œ) [] [X!] [] (em [Ŵ 6 [2,7] [3,8] ig rc,Ŵ 36 [2,7] [3,18] ig rc,Ŵ 46 [2,7] [3,26] ig rc,Ŵ 53 [] [6] [X!] [],Ŵ 56 [2,7] [3,43] ig rc,Ŵ 71 [] [6] [X!] [],Ŵ 74 [2,7] [3,61] ig rc,Ŵ 92 [2,7] [3,71] ig rc,Ŵ 102 [2] [3,79] ig rc]) vH
def RP:=ŷ (Ì::ò::W?::œ) [] [X!] [] (em [Ŵ 3 [2,3,4] [5,6,30] sr YN,Ŵ 25 [] [10] [X!] [],Ŵ 50 [] [10] [X!] [],Ŵ 56 [] [10] [X!] [],Ŵ 59 [2,4,70] [5,6,11,119] JU [Ť,ū,.C 178 [.d iB]],Ŵ 99 [2,4,70] [5,6,160] sr YN,Ŵ 116 [] [10] [X!] [],Ŵ 122 [] [10] [X!] []]) lx
def RO:=ŷ [ò,W?] [] qY [] (em [ŵ 8 [1] [2,5,6] YM ahg [.nil 5 3 aM],Ŵ 16 [1,6] [2,5] [Y!,ù] ahg,Ŵ 17 [1,6] [2,5,30] [Y!,ù,X!] ahg]) o7
def RN:=ŷ Nt [] qY [] (em [ŵ 8 [0,1] [5,6] [ì,W?] [Â] [.nil 5 3 aM],Ŵ 16 [0,1,6] [5] [ì] [Â]]) rH
def abp:=ŷ [ò] [] [Ě] aoy (em [ŵ 8 [] [1,2,3,4] HV [ū,ñ,.C 61 ahf,à,À,Ø] [.qp 3 0 98 eA]]) iK
def nH:=Ŷ [Ě,W?] aoy qY aoy (em [ŵ 8 [1] [2,5,6] [Ö,Ý,W?] ap4 [.nil 5 3 aM],Ŵ 16 [1,6] [2,5] [Ö,Ý] ap4,Ŵ 17 [1,6] [2,5,30] [Ö,Ý,X!] ap4])
def Ov:cF:=cn nH ny
def MX:cF:=⟨nH.pre,⟨nH.post.vs,[]⟩,kx⟩
def X7:=ŷ (Ì::ò::W?::W?::œ) [] [ò,W?,X!] [] (em [Ŵ 17 [] [7,12,15] yN ap6,Ŵ 26 [2,4,5,15,30] [6,7,12,45] JU aso,Ŵ 34 [2,4,5,15,30] [6,7,12,54] JU aso,Ŵ 90 [] [7,12,17] yN ap6,Ŵ 109 [18] [7,12,19] yN ap6]) qH
def X4:=ŷ [Ù] [] [û] [] (em [ŵ 16 [] [1,2,3,4] HV [ť,Ë,.C 115 (ŋ++[Ü,Û,Û]),X?] [.qp 3 4 2 aM],ŵ 31 [] [1,2,3,5] HV [ť,Ë,.C 115 (ŋ++[Ü,Ý,Û]),X?,X?] [.qp 3 5 2 aM],ŵ 46 [] [1,2,3,6] HV [ť,Ë,.C 115 ap5,X?,X?,.F 197 J fe] [.qp 3 6 197 fe]]) vG
def abm:=ŷ [Ù,û] [] [X!] [] (em [Ŵ 3 [] [2,3,46] sr ahj,Ŵ 14 [] [2,3,5] yN ahj,Ŵ 25 [5] [2,3,97] sr ahj]) xZ
def abk:=ŷ [W?] [] [W?] [] (em [Ŵ 5 [0] [3,10] [ì,X!] [Z?]]) xX
def Vb:=ŷ [ï,Ä] [] [W?] [] (em [Ŵ 6 [6] [2,3,7] sr [ŧ,ũ],Ŵ 28 [] [2,40] ig [ŧ]]) tJ
def RM:=ŷ [Ù,û,W?] [] [É,X!] [] (em [Ŵ 3 [2] [3,4,6,25] JU [ť,ų,Ê],ŵ 54 [] [6,8,9,10] ahh asl [.qp 10 5 3 aM],Ŵ 59 [] [6,8,9,10,98] B6 [Ê,ũ,ŧ,Ê],ŵ 68 [] [6,10] [Y!,Æ] [Ê,.C 66 (Ş++[î,Ü]),Â,Â] [.qp 10 6 3 aM],Ŵ 69 [] [6,8,9,10,123] B6 asl]) o6
def X2:=ŷ [Ì] [] [Ó] [] (em [ŵ 8 [] [1,2,3,4] HV [Ť,į,.C 107 ap5,X?,.F 2 aa aM,Z?] [.qp 3 4 2 aM]]) oh
def abj:=ŷ [Ì,Ó] [] [X!] [] (em [Ŵ 2 [] [4] [X!] []]) xW
def ak1:=ŷ wD [] [X!] [] (em [Ŵ 2 [] [4] [X!] []]) E8
def RL:=ŷ Nt [] [X!] [] (em [Ŵ 6 [0,1] [5] [W?] [],Ŵ 15 [0,1,5] [40] [X!] []]) oZ
def X0:=ŷ [Ó,É] [] [X!] [] (em [Ŵ 21 [] [4] [X!] [],Ŵ 24 [7] [2,3,40] sr Ś,Ŵ 47 [] [4] [X!] []]) vE
def abi:=ŷ [Ì,Ó,É] [] [Ó,X!] [] (em [Ŵ 3 [] [3,4,5,6,46] B6 Nx,Ŵ 10 [] [3,4,5,6] ahh Nx,Ŵ 11 [] [3,4,5,6,55] B6 Nx,Ŵ 21 [] [3,4,5,6,78] B6 Nx,Ŵ 28 [] [3,4,5,6,8] B6 Nx,Ŵ 31 [] [3,4,5,6,110] B6 Nx,Ŵ 39 [] [3,4,5,6,125] B6 Nx,Ŵ 47 [] [3,4,5,6,154] B6 Nx,Ŵ 58 [] [3,4,5,6,9,10] aox (š++[į,.C 107 [Û,W?,Û,Û,å,Þ,ä],X?,X?,Â]),Ŵ 66 [] [5,6,9] Ō aov,Ŵ 72 [] [5,6,9] Ō aov]) sJ
def X1:=ŷ [ĳ,W?,W?,Î] [] [X!] [] (em [Ŵ 6 [0,1,2,3] [9] [W?] [],Ŵ 23 [0,1,2,3,9] [10,11,12] [W?,X!,W?] [],Ŵ 31 [0,1,2,3,9,12] [10,11] [W?,X!] [],Ŵ 38 [0,1,2,3,9,10,12] [11] [X!] []]) sI
def X3:=ŷ [á] [] wD [] (em [Ŵ 24 [] [1,4,5] yN Ņ,Ŵ 38 [5] [1,4,7,63] JU (Ņ++[ţ])]) vF
def Vv:=ŷ [û] [] [.agg [Ě,Ü,Ý,.qv 5 4 1]] (ō++.C 197 [W?,Þ,ä,W?]::Œ) (em [(8,(.u 2))]) oE
def Vl:=ŷ OU [] OV [] (em [(27,(.s 5 0 0 1)),Ŵ 37 [] [3,4,5,6,7,9,14,15,16] OZ aph,Ŵ 38 [16,77] [3,4,5,6,7,9,14,15,78] Qi aph,Ŵ 83 [16] [3,4,5,6,7,9,14] OX (ŗ++ÿ::X?::X?::ÿ::Œ),Ŵ 84 [16] [3,4,5,6,7,9,14,15,154] Qi aph,Ŵ 95 [] [4,5,6,7,9,14] OW [.C 115 (ŋ++[Þ,ä,.qv 8 4 1]),Ū,Ë,Ê,Ţ,ũ,X?,X?,ũ],Ŵ 96 [] [3,4,5,6,7,9,14,183] OY (ŗ++[Ā,X?,X?,Ā]),(102,(.s 5 0 0 1)),(104,(.a [.pk 4 6 fe]))]) gu
def Vu:=ŷ [û] [] [ű] (ō++.C 197 [W?,Þ,ä,W?,Ä]::Œ) (em [(8,(.u 3))]) oD
def Vk:=ŷ OU [] OV [] (em [(27,(.s 5 0 0 1)),Ŵ 37 [] [3,4,5,6,7,9,14,15,16] OZ apj,Ŵ 38 [16,77] [3,4,5,6,7,9,14,15,78] Qi apj,Ŵ 83 [16] [3,4,5,6,7,9,14] OX (Ŋ++ÿ::X?::X?::.C 197 [W?,Ē,ç,W?,Ä]::Œ),Ŵ 84 [16] [3,4,5,6,7,9,14,15,154] Qi apj,Ŵ 95 [] [4,5,6,7,9,14] OW ast,Ŵ 96 [] [3,4,5,6,7,9,14,183] OY (Ŋ++[Ā,X?,X?,.C 197 [W?,Î,ĩ,W?,Ä]]),(102,(.s 5 0 0 1)),(104,(.a [.pk 4 6 fe]))]) gQ
def Vt:=ŷ [û] [] [ű] (ō++.C 197 [Ä,W?,Þ,ä,W?]::Œ) (em [(8,(.u 3))]) oC
def Vj:=ŷ OU [] OV [] (em [(27,(.s 5 0 1 1)),Ŵ 37 [] [3,4,5,6,7,9,14,15,16] OZ api,Ŵ 38 [16,77] [3,4,5,6,7,9,14,15,78] Qi api,Ŵ 83 [16] [3,4,5,6,7,9,14] OX (Ŋ++ÿ::X?::X?::.C 197 [Ä,W?,Ē,ç,W?]::Œ),Ŵ 84 [16] [3,4,5,6,7,9,14,15,154] Qi api,Ŵ 95 [] [4,5,6,7,9,14] OW ast,Ŵ 96 [] [3,4,5,6,7,9,14,183] OY (Ŋ++[Ā,X?,X?,.C 197 [Ä,W?,Î,ĩ,W?]]),(102,(.s 5 0 1 1)),(104,(.a [.pk 4 6 fe]))]) gr
def Vs:=ŷ [û] [] aou (ō++.C 197 (W?::Þ::ä::Ŝ)::Œ) (em [(8,(.u 4))]) oB
def Vi:=ŷ OU [] OV [] (em [(27,(.s 5 0 0 1)),Ŵ 37 [] [3,4,5,6,7,9,14,15,16] OZ apm,Ŵ 38 [16,77] [3,4,5,6,7,9,14,15,78] Qi apm,Ŵ 83 [16] [3,4,5,6,7,9,14] OX (ņ++ÿ::X?::X?::.C 197 (W?::Ē::ç::Ŝ)::Œ),Ŵ 84 [16] [3,4,5,6,7,9,14,15,154] Qi apm,Ŵ 95 [] [4,5,6,7,9,14] OW apc,Ŵ 96 [] [3,4,5,6,7,9,14,183] OY (ņ++[Ā,X?,X?,.C 197 (W?::Î::ĩ::Ŝ)]),(102,(.s 5 0 0 1)),(104,(.a [.pk 4 6 fe]))]) kf
def Vr:=ŷ [û] [] aou (ō++.C 197 [Ä,W?,Þ,ä,W?,Ä]::Œ) (em [(8,(.u 4))]) oA
def Vh:=ŷ OU [] OV [] (em [(27,(.s 5 0 1 1)),Ŵ 37 [] [3,4,5,6,7,9,14,15,16] OZ apl,Ŵ 38 [16,77] [3,4,5,6,7,9,14,15,78] Qi apl,Ŵ 83 [16] [3,4,5,6,7,9,14] OX (ņ++ÿ::X?::X?::.C 197 [Ä,W?,Ē,ç,W?,Ä]::Œ),Ŵ 84 [16] [3,4,5,6,7,9,14,15,154] Qi apl,Ŵ 95 [] [4,5,6,7,9,14] OW apc,Ŵ 96 [] [3,4,5,6,7,9,14,183] OY (ņ++[Ā,X?,X?,.C 197 [Ä,W?,Î,ĩ,W?,Ä]]),(102,(.s 5 0 1 1)),(104,(.a [.pk 4 6 fe]))]) je
def Vq:=ŷ [û] [] aou (ō++.C 197 [Ä,Ä,W?,Þ,ä,W?]::Œ) (em [(8,(.u 4))]) oz
def Vg:=ŷ OU [] OV [] (em [(27,(.s 5 0 2 1)),Ŵ 37 [] [3,4,5,6,7,9,14,15,16] OZ apk,Ŵ 38 [16,77] [3,4,5,6,7,9,14,15,78] Qi apk,Ŵ 83 [16] [3,4,5,6,7,9,14] OX (ņ++ÿ::X?::X?::.C 197 [Ä,Ä,W?,Ē,ç,W?]::Œ),Ŵ 84 [16] [3,4,5,6,7,9,14,15,154] Qi apk,Ŵ 95 [] [4,5,6,7,9,14] OW apc,Ŵ 96 [] [3,4,5,6,7,9,14,183] OY (ņ++[Ā,X?,X?,.C 197 [Ä,Ä,W?,Î,ĩ,W?]]),(102,(.s 5 0 2 1)),(104,(.a [.pk 4 6 fe]))]) iu
def Vp:=ŷ [û] [] al6 (ō++.C 197 [W?,Þ,ä,W?,Ä,Ä,Ä]::Œ) (em [(8,(.u 5))]) oy
def dM:=Ŷ OU [] OV [] (em [(27,(.s 5 0 0 1)),Ŵ 37 [] [3,4,5,6,7,9,14,15,16] OZ apg,Ŵ 38 [16,77] [3,4,5,6,7,9,14,15,78] Qi apg,Ŵ 83 [16] [3,4,5,6,7,9,14] OX (ń++ÿ::X?::X?::.C 197 [W?,Ē,ç,W?,Ä,Ä,Ä]::Œ),Ŵ 84 [16] [3,4,5,6,7,9,14,15,154] Qi apg,Ŵ 95 [] [4,5,6,7,9,14] OW al9,Ŵ 96 [] [3,4,5,6,7,9,14,183] OY (ń++[Ā,X?,X?,.C 197 [W?,Î,ĩ,W?,Ä,Ä,Ä]]),(102,(.s 5 0 0 1)),(104,(.a [.pk 4 6 fe]))])
def Vf:cF:=cn dM oq
def Vo:=ŷ [û] [] al6 (ō++.C 197 (Ä::W?::Þ::ä::Ŝ)::Œ) (em [(8,(.u 5))]) ox
def Ve:=ŷ OU [] OV [] (em [(27,(.s 5 0 1 1)),Ŵ 37 [] [3,4,5,6,7,9,14,15,16] OZ apf,Ŵ 38 [16,77] [3,4,5,6,7,9,14,15,78] Qi apf,Ŵ 83 [16] [3,4,5,6,7,9,14] OX (ń++ÿ::X?::X?::.C 197 (Ä::W?::Ē::ç::Ŝ)::Œ),Ŵ 84 [16] [3,4,5,6,7,9,14,15,154] Qi apf,Ŵ 95 [] [4,5,6,7,9,14] OW al9,Ŵ 96 [] [3,4,5,6,7,9,14,183] OY (ń++[Ā,X?,X?,.C 197 (Ä::W?::Î::ĩ::Ŝ)]),(102,(.s 5 0 1 1)),(104,(.a [.pk 4 6 fe]))]) ol
def Vn:=ŷ [û] [] al6 (ō++.C 197 [Ä,Ä,W?,Þ,ä,W?,Ä]::Œ) (em [(8,(.u 5))]) ov
def Vd:=ŷ OU [] OV [] (em [(27,(.s 5 0 2 1)),Ŵ 37 [] [3,4,5,6,7,9,14,15,16] OZ ape,Ŵ 38 [16,77] [3,4,5,6,7,9,14,15,78] Qi ape,Ŵ 83 [16] [3,4,5,6,7,9,14] OX (ń++ÿ::X?::X?::.C 197 [Ä,Ä,W?,Ē,ç,W?,Ä]::Œ),Ŵ 84 [16] [3,4,5,6,7,9,14,15,154] Qi ape,Ŵ 95 [] [4,5,6,7,9,14] OW al9,Ŵ 96 [] [3,4,5,6,7,9,14,183] OY (ń++[Ā,X?,X?,.C 197 [Ä,Ä,W?,Î,ĩ,W?,Ä]]),(102,(.s 5 0 2 1)),(104,(.a [.pk 4 6 fe]))]) mC
def Vm:=ŷ [û] [] al6 (ō++.C 197 [Ä,Ä,Ä,W?,Þ,ä,W?]::Œ) (em [(8,(.u 5))]) ou
def Vc:=ŷ OU [] OV [] (em [(27,(.s 5 0 3 1)),Ŵ 37 [] [3,4,5,6,7,9,14,15,16] OZ apd,Ŵ 38 [16,77] [3,4,5,6,7,9,14,15,78] Qi apd,Ŵ 83 [16] [3,4,5,6,7,9,14] OX (ń++ÿ::X?::X?::.C 197 [Ä,Ä,Ä,W?,Ē,ç,W?]::Œ),Ŵ 84 [16] [3,4,5,6,7,9,14,15,154] Qi apd,Ŵ 95 [] [4,5,6,7,9,14] OW al9,Ŵ 96 [] [3,4,5,6,7,9,14,183] OY (ń++[Ā,X?,X?,.C 197 [Ä,Ä,Ä,W?,Î,ĩ,W?]]),(102,(.s 5 0 3 1)),(104,(.a [.pk 4 6 fe]))]) lw
def abn:cF:=cn dM Ck
def abl:=ŷ [Ù,û,Û,Ĵ] [] [ĳ,û] [] (em [(1,(.a [.nil 2 66 jF])),Ŵ 6 [3] [2,4,5,9,10] [ì,Æ,Ò,Ö,W?] ap3,Ŵ 8 [3,10] [2,4,5,9,22] [ì,Æ,Ò,Ö,X!] ap3,Ŵ 14 [3,10] [2,4,5,9] [ì,Æ,Ò,Ö] ap3]) xY
def agc:=ŷ [Ù,Ĵ] [] [á,û] [] .leaf Be
def JL:=ŷ u_ Wd [W?] Wd (em [Ŵ 3 [1] [0,18] ig acn]) bP
def abv:=ŷ [W?] [] [ú] [] .leaf sR
def Yq:=ŷ [ã] [] [ú] [] .leaf qM
def R4:=ŷ [W?,ú,ú] [] [ú] [] .leaf o_
def R5:=ŷ [ã,ú] [] [ċ] [] .leaf j7
def VO:=ŷ [] [] [í] [] .leaf tL
def OL:=ŷ [ŀ] [] [Ĵ] [] (em [ŵ 8 [0] [3,4] [ì,W?] [.F 155 J fO] [.nil 3 155 fO]]) pR
def pm:=Ŷ u_ YO [ú] YO (em [Ŵ 8 [1,6] [0,4,5,14] [Y!,Ö,Ý,X!] [.C 214 amv,Ŧ,ü,.C 218 [W?,W?,ã,Û],Ė]])
def HH:cF:=cn pm fw
def G7 (n:Nat):cF:=cn pm (iN n)
def Gf:=ŷ [Y!,ã] YO [X!] YO .leaf eY
def nR:=Ŷ Wg YO [Ý] [.C 214 ap1,ė,þ,ü,Ģ] (em [(1,(.a [.qx 0 7])),ŵ 8 [1,2] [0,7,8] [Y!,Ü,W?] asm [.nil 7 220 .sm],Ŵ 10 [1,2,8] [0,7,22] [Y!,Ü,X!] asm,(21,(.a [.nil 6 220 .sm]))])
def Ge:cF:=cn nR rL
def Fc (n:Nat):cF:=cn nR (dR n)
def sW:=Ŷ u_ YO [ċ] [.C 214 ap1,ė,þ,ü] (em [(1,(.a [.qx 0 7])),Ŵ 6 [1,5] [0,4,6] Nu La2,Ŵ 28 [1,5,6] [0,4,74] Nu La2,ŵ 33 [] [4,7] [Ö,æ] [.C 214 (Ř++[å]),Ŧ,þ,.C 220 amy,.C 220 [W?,W?,ã,ã,Û,W?,W?,ã,.d (.sl .ex),Þ,ä],ü,Ģ,Ģ] [.qp 7 10 220 .sm],Ŵ 42 [1,5,6] [0,4,100] Nu La2,Ŵ 56 [1,5,6] [0,4,133] Nu La2,Ŵ 64 [1,5,6] [0,4,165] Nu La2,Ŵ 70 [1,5,6] [0,4,188] Nu La2,Ŵ 82 [1,5,6] [0,4,210] Nu La2,Ŵ 94 [5,6] [0,4,235] Nu La2,Ŵ 100 [5] [0,4,258] Nu La2,Ŵ 106 [5] [0,4,278] Nu La2,Ŵ 114 [] [0,4,308] Nu La2])
def G6 (n:Nat):cF:=cn sW (eS n)
def r8:=Ŷ [Y!,ã,W?] YO [Ę] [.C 214 ap1,ė,þ,ü] .leaf
def Fd (n:Nat):cF:=cn r8 (eu n)
def OK:=ŷ [ŀ] [] [ý] [] (em [(5,(.a [.qp 3 7 9 .str])),ŵ 14 [5] [2,3,4,6,7] (Ō++[Ü,W?]) [.C 152 [Û,Û],.C 214 [æ,W?,W?,X!,X!,X!,X!,å],.C 152 [í,Þ],Ė,Ŧ,ü,.F 204 J uu] [.qp 4 1 204 uu],ŵ 27 [5,7] [2,3,4,6,8] (Ō++[Ü,æ]) La7 [.qp 8 3 220 .sm],ŵ 34 [5,7] [2,3,4,6,8,9] (Ō++[Ü,æ,W?]) La7 [.qp 8 3 220 .sm],Ŵ 48 [5,7] [2,3,4,6,8] (Ō++[Ü,æ]) La7,Ŵ 49 [5,7] [2,3,4,6,8,79] (Ō++[Ü,æ,X!]) La7]) pQ
def Yr:=ŷ [ŀ] [] [Ù] [] .leaf zD
def VP:=ŷ [ŀ,ŀ] [] [á] [] .leaf tM
def RI:=ŷ [] [] [Ì] [] (em [ŵ 8 [21] [0,1,22] yN al8 [.qp 1 5 134 qO],Ŵ 22 [2,21,22] [0,1,3] yN al8]) oY
def MW:=ŷ [Ó] [] qY [] (em [ŵ 8 [8,9] [3,10] [ì,W?] [Â] [.nil 3 3 aM],Ŵ 16 [8,9,10] [3] [ì] [Â]]) me
def RG:=ŷ [] [] qY [] .leaf uO
def Ou:=ŷ Wg Wd [W?] Wd (em [Ŵ 6 [2,7] [0,8] ig acn,Ŵ 16 [2,7] [0,16] ig acn,Ŵ 26 [2,7] [0,21] ig acn,Ŵ 44 [2,7] [0,26] ig acn,Ŵ 70 [2] [0,33] ig acn]) pN
def RF:=ŷ (Y!::Ó::œ) Wd [W?] Wd (em [Ŵ 18 [10] [0,5,24] sr [Ŧ,ţ]]) rD
def U9:=ŷ [Y!,ù] [ė,Â] qY [ė,Â] (em [ŵ 8 [9] [0,1,5,8,10] [Y!,ù,î,ù,W?] aow [.nil 5 3 aM],Ŵ 16 [9,10] [0,1,5,8] [Y!,ù,î,ù] aow,Ŵ 19 [7,9,10] [0,1,5,8,24] [Y!,ù,î,ù,X!] aow]) gP
def RH:=ŷ [Y!,Ó,Ì,ī] ask [É] ask (em [Ŵ 8 [9] [0,3,5,6,8,11] [Y!,ī,ĕ,ĭ,.H 8 0,.H 9 0] asq,Ŵ 9 [9] [0,3,5,6,8,11,36] [Y!,ī,ĕ,ĭ,.H 8 0,.H 9 0,X!] asq,Ŵ 18 [9] [0,3,8,11] [Y!,ī,ĕ,ĭ] asr,Ŵ 19 [9] [0,3,8,11,74] [Y!,ī,ĕ,ĭ,X!] (Ŕ++[Ê,Ê]),(22,(.s 9 0 0 4)),Ŵ 24 [] [8,11] [ĕ,ĭ] (Ŕ++[Ê,.C 66 (Ş++[Î,Î])]),Ŵ 25 [9] [0,3,8,11,89] [Y!,ī,ĕ,ĭ,X!] asr,(28,(.s 9 0 0 4))]) rE
def U_:=ŷ [Y!,Ó,Ì,W?,X!] Wd [ĳ] Wd (em [(8,(.a [.qp 12 0 3 aM,.qp 12 1 3 aM,.qp 12 2 3 aM,.qp 12 3 3 aM])),Ŵ 9 [3,11] [0,6,7,12] (Ō++[.qv 3 1 4]) ap9,(10,(.u 5)),Ŵ 18 [3,4,11,22,23] [0,6,7,12] (Ō++[.qv 3 1 4]) ap9,Ŵ 21 [3,4,11,13,22,23] [0,6,7,12,39] (Ō++[.qv 3 1 4,X!]) ap9,ŵ 29 [3] [0,6,7,11,12] (Ō++[Ü,ı]) apa [.nil 11 66 jF],Ŵ 31 [3] [0,6,7,11,12,65] (Ō++[Ü,ı,X!]) apa,Ŵ 36 [3] [0,6,7,11,12] (Ō++[Ü,ı]) apa,Ŵ 47 [3] [0,6,7,11,12,14,15] (Ō++[Ü,ı,ĝ,ĕ]) ass,Ŵ 48 [3] [0,6,7,11,12,14,15,87] (Ō++[Ü,ı,ĝ,ĕ,X!]) ass,(51,(.s 14 0 0 4))]) tG
def RJ:=ŷ Sk [] [á] [] (em [Ŵ 2 [1] [0,4] [ŀ,Y!] [Ŀ],Ŵ 22 [1,9] [4,5,6,7,8,10] (Ō++[Ö,Ý,W?]) [Ŀ,Ŧ,.C 34 (ŏ++[Û]),ţ,.F 66 aa jF],ŵ 37 [1,48] [4,5,6,7,47,49] (Ō++[Ö,Ý,W?]) asu [.qp 6 6 66 jF],Ŵ 45 [1,48,49] [4,5,6,7,47] (Ō++[Ö,Ý]) asu]) rF
def Hz:=ŷ [.d (.st (.pr Gs (.pr Gs Gs))),W?] [] [á] [] .leaf mf
def Oe:aL Pg 168 OD:=mk _ _ an cg
def LL:aL Pg 143 M1:=mk _ _ (ac Oe an) cg
def Ij:aL Pg 142 VH:=mk _ _ an cg
def XM:aL Pg 169 Ym:=mk _ _ an cg
def XL:aL Pg 144 Yl:=mk _ _ (ac Ij (ac XM an)) cg
def tN:aL Pg 113 VK:=mk _ _ (ac Ij (ac LL (ac XL an))) cg
def LK:aL Pg 221 Yd:=mk _ _ an cg
def XE:aL Pg 205 Ye:=mk _ _ (ac LK an) cg
def Uo:aL Pg 207 VB:=mk _ _ (ac LK an) cg
def XF:aL Pg 204 Yf:=mk _ _ an cg
def Od:aL Pg 228 OC:=mk _ _ an cg
def yl:∀n:Nat,aL Pg 222 (Jq n)
 |0=>Ie qu
 |n+1=>mk qu (ng (iy n)) (ac tN (ac (yl n) (ac Od an))) cg
def Ak:aL Pg 222 JF:=(yl fuel)
def XK:aL Pg 223 Yk:=mk _ _ an cg
def sU:∀n:Nat,aL Pg 208 (Jp n)/\aL Pg 178 (G5 n)
 |0=>⟨Ie ut,Ie pl⟩
 |n+1=>⟨mk ut (lb (eQ n) (dN n)) (ac tN (ac (sU n).2 (ac Ak (ac XK an)))) cg,mk pl (kn (eQ n) (dN n)) (ac (sU n).1 an) cg⟩
def Hf:aL Pg 178 HC:=(sU fuel).2
def Jt:aL Pg 177 JE:=mk _ _ (ac tN an) cg
def Uq:aL Pg 151 VG:=mk _ _ (ac tN (ac Jt (ac Hf an))) cg
def wR:aL Pg 114 ak5:=mk _ _ an cg
def wQ:aL Pg 179 VF:=mk _ _ an cg
def xo:aL Pg 180 OA:=mk _ _ an cg
def Up:aL Pg 224 VD:=mk _ _ (ac wR (ac wQ (ac xo an))) cg
def Pv:aL Pg 211 abs:=mk _ _ (ac Up an) cg
def Im:∀n:Nat,aL Pg 225 (Xl n)
 |0=>Ie zV
 |n+1=>mk zV (vT (oL n)) (ac (Im n) an) cg
def XI:aL Pg 225 Yi:=(Im fuel)
def Il:∀n:Nat,aL Pg 226 (Xk n)
 |0=>Ie zU
 |n+1=>mk zU (vS (oK n)) (ac Pv (ac (Il n) an)) cg
def XG:aL Pg 226 Yg:=(Il fuel)
def aay:aL Pg 212 abt:=mk _ _ (ac Ak (ac XI (ac XG an))) cg
def Rp:aL Pg 213 RY:=mk _ _ an cg
def ajf:aL Pg 210 ak4:=mk _ _ an cg
def He:aL Pg 209 HB:=mk _ _ an cg
def Ob:aL Pg 181 Oy:=mk _ _ (ac wR (ac wQ (ac xo (ac He (ac ajf (ac Pv (ac aay (ac Rp an)))))))) cg
def Bo:∀n:Nat,aL Pg 155 (N6 n)
 |0=>Ie tw
 |n+1=>mk tw (nG (iZ n)) (ac (Bo n) (ac Ob an)) cg
def Oc:aL Pg 155 Oz:=(Bo fuel)
def In:∀n:Nat,aL Pg 154 (Xm n)
 |0=>Ie zW
 |n+1=>mk zW (vU (oM n)) (ac (In n) an) cg
def XJ:aL Pg 154 Yj:=(In fuel)
def XH:aL Pg 152 Yh:=mk _ _ (ac wQ an) cg
def Ro:aL Pg 153 RX:=mk _ _ (ac wR (ac wQ (ac xo an))) cg
def zJ:aL Pg 117 RZ:=mk _ _ (ac Uq (ac XH (ac Ro (ac XJ (ac Oc an))))) cg
def Ik:∀n:Nat,aL Pg 157 (Xj n)
 |0=>Ie zS
 |n+1=>mk zS (zL (qN n)) (ac (Ik n) an) cg
def Xz:aL Pg 157 X9:=(Ik fuel)
def Ig:aL Pg 156 Vx:=mk _ _ an cg
def Ii:aL Pg 214 Vz:=mk _ _ an cg
def XD:aL Pg 118 Yb:=mk _ _ (ac zJ (ac Ig (ac Xz an))) cg
def XA:aL Pg 112 X_:=mk _ _ an cg
def Aj:aL Pg 70 JD:=mk _ _ (ac XA (ac tN (ac wR an))) cg
def vQ:aL Pg 121 M0:=mk _ _ an cg
def Ih:aL Pg 171 Vy:=mk _ _ an cg
def XB:aL Pg 146 X':=mk _ _ (ac Ih an) cg
def Rm:aL Pg 147 ak3:=mk _ _ an cg
def XC:aL Pg 170 Ya:=mk _ _ (ac Rm an) cg
def Rl:aL Pg 145 RQ:=mk _ _ (ac Rm (ac XC an)) cg
def Hd:aL Pg 115 HA:=mk _ _ (ac vQ (ac Rl (ac XB (ac Rm an)))) cg
def D':aL Pg 72 Yc:=mk _ _ (ac Aj (ac Hd an)) cg
def pg:aL Pg 120 RU:=mk _ _ an cg
def Am:∀n:Nat,aL Pg 186 (Lp n)
 |0=>Ie rY
 |n+1=>mk rY (rS (ju n)) (ac wR (ac pg (ac (Am n) (ac Ii an)))) cg
def vP:aL Pg 186 MY:=(Am fuel)
def Js:aL Pg 182 JC:=mk _ _ (ac wR (ac pg (ac vP (ac Ii an)))) cg
def Oa:aL Pg 185 Ox:=mk _ _ an cg
def k_:∀n:Nat,aL Pg 119 (Lq n)/\aL Pg 158 (N5 n)/\aL Pg 183 (Fb n)/\aL Pg 184 (Jo n)
 |0=>⟨Ie rZ,Ie xu,Ie r7,Ie ur⟩
 |n+1=>⟨mk rZ (rT (dX n) (eZ n) (dk n) (dQ n)) (ac (k_ n).2.1 an) cg,mk xu (tf (dX n) (eZ n) (dk n) (dQ n)) (ac wR (ac pg (ac Ig (ac Js (ac (k_ n).2.2.1 (ac (k_ n).2.2.2 (ac Oa (ac vP an)))))))) cg,mk r7 (nM (dX n) (eZ n) (dk n) (dQ n)) (ac (k_ n).1 (ac pg (ac vP an))) cg,mk ur (qe (dX n) (eZ n) (dk n) (dQ n)) (ac (k_ n).1 (ac pg an)) cg⟩
def LJ:aL Pg 119 MZ:=(k_ fuel).1
def Rn:aL Pg 75 RW:=mk _ _ (ac zJ (ac XD (ac LJ (ac pg (ac vQ an))))) cg
def LI:aL Pg 103 age:=mk _ _ an cg
def afr:aL Pg 140 agd:=mk _ _ an cg
def LH:aL Pg 106 X8:=mk _ _ (ac afr an) cg
def N':aL Pg 206 Ow:=mk _ _ an cg
def mj:aL Pg 175 abr:=mk _ _ an cg
def aax:aL Pg 176 abq:=mk _ _ (ac LH (ac vQ (ac XE (ac N' (ac Uo an))))) cg
def ki:aL Pg 150 Vw:=mk _ _ (ac Ih (ac mj (ac aax an))) cg
def LG:aL Pg 62 X6:=mk _ _ an cg
def Hc:aL Pg 100 abo:=mk _ _ an cg
def Zv:aL Pg 101 ak2:=mk _ _ an cg
def Xy:aL Pg 102 X5:=mk _ _ (ac Zv an) cg
def Fl:aL Pg 65 RP:=mk _ _ (ac Hc (ac Zv (ac Xy (ac LI an)))) cg
def Rk:aL Pg 104 RO:=mk _ _ an cg
def Rj:aL Pg 107 RN:=mk _ _ an cg
def mi:aL Pg 105 abp:=mk _ _ an cg
def N_:aL Pg 104 Ov:=mk nH ny an cg
def LF:aL Pg 104 MX:= @aL.ro Pg 104 nH.pre nH.post.vs ny kx (N_.holds rfl) rfl (λx _ h=>by rw[show kx x=ay (ny x) λy=>same y.2 x.2 (Z y.1) from rfl]at h;exact h)
def kC:aL Pg 68 X7:=mk _ _ (ac Fl (ac LI (ac LF (ac mi (ac LH (ac Rj an)))))) cg
def Xx:aL Pg 74 X4:=mk _ _ (ac LG (ac D' an)) cg
def aav:aL Pg 172 abm:=mk _ _ (ac D' (ac Hc an)) cg
def aat:aL Pg 173 abk:=mk _ _ an cg
def T4:aL Pg 174 Vb:=mk _ _ (ac XF an) cg
def iY:aL Pg 148 RM:=mk _ _ (ac aav (ac aat (ac T4 an))) cg
def LD:aL Pg 45 X2:=mk _ _ (ac LG an) cg
def aas:aL Pg 63 abj:=mk _ _ (ac Hc an) cg
def aje:aL Pg 64 ak1:=mk _ _ an cg
def Ri:aL Pg 66 RL:=mk _ _ an cg
def Xu:aL Pg 67 X0:=mk _ _ (ac LI (ac Rk an)) cg
def Hb:aL Pg 47 abi:=mk _ _ (ac aas (ac aje (ac Fl (ac Ri (ac Xu (ac kC an)))))) cg
def Xv:aL Pg 71 X1:=mk _ _ an cg
def Xw:aL Pg 49 X3:=mk _ _ (ac LD (ac Hb (ac Aj (ac Xv an)))) cg
def O4 (t:TypeId):M Ty:=if aA t 197 then Z (.pr .un fe) else cg t
def Un:aL Pg 149 Vv:=mk _ _ (ac mi (ac mj an)) O4
def Ud:aL Pg 116 Vl:=mk _ _ (ac kC (ac iY (ac Un (ac ki an)))) O4
def Um:aL Pg 149 Vu:=mk _ _ (ac mi (ac mj an)) O4
def Uc:aL Pg 116 Vk:=mk _ _ (ac kC (ac iY (ac Um (ac ki an)))) O4
def Ul:aL Pg 149 Vt:=mk _ _ (ac mi (ac mj an)) O4
def Ub:aL Pg 116 Vj:=mk _ _ (ac kC (ac iY (ac Ul (ac ki an)))) O4
def Uk:aL Pg 149 Vs:=mk _ _ (ac mi (ac mj an)) O4
def Ua:aL Pg 116 Vi:=mk _ _ (ac kC (ac iY (ac Uk (ac ki an)))) O4
def Uj:aL Pg 149 Vr:=mk _ _ (ac mi (ac mj an)) O4
def T_:aL Pg 116 Vh:=mk _ _ (ac kC (ac iY (ac Uj (ac ki an)))) O4
def Ui:aL Pg 149 Vq:=mk _ _ (ac mi (ac mj an)) O4
def T9:aL Pg 116 Vg:=mk _ _ (ac kC (ac iY (ac Ui (ac ki an)))) O4
def Uh:aL Pg 149 Vp:=mk _ _ (ac mi (ac mj an)) O4
def T8:aL Pg 116 Vf:=mk dM oq (ac kC (ac iY (ac Uh (ac ki an)))) O4
def Ug:aL Pg 149 Vo:=mk _ _ (ac mi (ac mj an)) O4
def T7:aL Pg 116 Ve:=mk _ _ (ac kC (ac iY (ac Ug (ac ki an)))) O4
def Uf:aL Pg 149 Vn:=mk _ _ (ac mi (ac mj an)) O4
def T6:aL Pg 116 Vd:=mk _ _ (ac kC (ac iY (ac Uf (ac ki an)))) O4
def Ue:aL Pg 149 Vm:=mk _ _ (ac mi (ac mj an)) O4
def T5:aL Pg 116 Vc:=mk _ _ (ac kC (ac iY (ac Ue (ac ki an)))) O4
def aaw:aL Pg 116 abn:=(aL.orE (pre:=dM.pre) (post:=dM.post) (m:=oq) (m':=(λx=>orE (ol x) ((λx=>orE (mC x) ((λx=>orE (lw x) ((λx=>orE (kf x) ((λx=>orE (je x) ((λx=>orE (iu x) ((λx=>orE (gQ x) ((λx=>orE (gr x) (gu x)) x)) x)) x)) x)) x)) x)) x))) rfl T8 (aL.orE (pre:=dM.pre) (post:=dM.post) (m:=ol) (m':=(λx=>orE (mC x) ((λx=>orE (lw x) ((λx=>orE (kf x) ((λx=>orE (je x) ((λx=>orE (iu x) ((λx=>orE (gQ x) ((λx=>orE (gr x) (gu x)) x)) x)) x)) x)) x)) x))) rfl T7 (aL.orE (pre:=dM.pre) (post:=dM.post) (m:=mC) (m':=(λx=>orE (lw x) ((λx=>orE (kf x) ((λx=>orE (je x) ((λx=>orE (iu x) ((λx=>orE (gQ x) ((λx=>orE (gr x) (gu x)) x)) x)) x)) x)) x))) rfl T6 (aL.orE (pre:=dM.pre) (post:=dM.post) (m:=lw) (m':=(λx=>orE (kf x) ((λx=>orE (je x) ((λx=>orE (iu x) ((λx=>orE (gQ x) ((λx=>orE (gr x) (gu x)) x)) x)) x)) x))) rfl T5 (aL.orE (pre:=dM.pre) (post:=dM.post) (m:=kf) (m':=(λx=>orE (je x) ((λx=>orE (iu x) ((λx=>orE (gQ x) ((λx=>orE (gr x) (gu x)) x)) x)) x))) rfl Ua (aL.orE (pre:=dM.pre) (post:=dM.post) (m:=je) (m':=(λx=>orE (iu x) ((λx=>orE (gQ x) ((λx=>orE (gr x) (gu x)) x)) x))) rfl T_ (aL.orE (pre:=dM.pre) (post:=dM.post) (m:=iu) (m':=(λx=>orE (gQ x) ((λx=>orE (gr x) (gu x)) x))) rfl T9 (aL.orE (pre:=dM.pre) (post:=dM.post) (m:=gQ) (m':=(λx=>orE (gr x) (gu x))) rfl Uc (aL.orE (pre:=dM.pre) (post:=dM.post) (m:=gr) (m':=gu) rfl Ub Ud)))))))))
def aau:aL Pg 73 abl:=mk _ _ (ac aaw an) cg
def afq:aL Pg 50 agc:=mk _ _ (ac D' (ac aau (ac Xx an))) cg
def fR:aL Pg 46 JL:=mk _ _ an cg
def Hh:aL Pg 125 abv:=mk _ _ an cg
def LR:aL Pg 189 Yq:=mk _ _ an cg
def Fr:aL Pg 188 R4:=mk _ _ an cg
def Fs:aL Pg 124 R5:=mk _ _ an cg
def Us:aL Pg 122 VO:=mk _ _ an cg
def Ol:aL Pg 52 OL:=mk _ _ an cg
def wS:∀n:Nat,aL Pg 187 (G7 n)
 |0=>Ie pm
 |n+1=>mk pm (pi (iN n)) (ac fR (ac Hh (ac (wS n) (ac Fr (ac LR an))))) cg
def Hi:aL Pg 187 HH:=(wS fuel)
def Fq:aL Pg 190 Gf:=mk _ _ (ac wR an) cg
def kD:∀n:Nat,aL Pg 123 (Fc n)/\aL Pg 159 (G6 n)/\aL Pg 191 (Fd n)
 |0=>⟨Ie nR,Ie sW,Ie r8⟩
 |n+1=>⟨mk nR (nO (dR n) (eS n) (eu n)) (ac (kD n).2.1 an) cg,mk sW (ph (dR n) (eS n) (eu n)) (ac fR (ac (kD n).1 (ac Fs (ac Hh (ac Hi (ac Fr (ac LR (ac Fq (ac (kD n).2.2 an))))))))) cg,mk r8 (nP (dR n) (eS n) (eu n)) (ac fR (ac (kD n).1 an)) cg⟩
def Fp:aL Pg 123 Ge:=(kD fuel).1
def Oj:aL Pg 76 OK:=mk _ _ (ac fR (ac zJ (ac Us (ac Fp (ac Fs (ac Hh an)))))) cg
def XO:aL Pg 51 Yr:=mk _ _ (ac Rn (ac Oj an)) cg
def Ut:aL Pg 22 VP:=mk _ _ (ac afq (ac XO (ac Ol an))) cg
def Rf:aL Pg 44 RI:=mk _ _ an cg
def LC:aL Pg 141 MW:=mk _ _ an cg
def Rd:aL Pg 108 RG:=mk _ _ an cg
def N9:aL Pg 109 Ou:=mk _ _ (ac fR an) cg
def Rc:aL Pg 110 RF:=mk _ _ (ac fR (ac LC an)) cg
def TY:aL Pg 111 U9:=mk _ _ (ac fR an) cg
def Re:aL Pg 69 RH:=mk _ _ (ac fR (ac Rd (ac N9 (ac Rc (ac TY an))))) cg
def tv1 (t:TypeId):M Ty:=if aA t 50 then Z (.pr .un (.pr .un (.pr .un (.pr .un (.pr .un (.sl aM)))))) else cg t
def TZ:aL Pg 48 U_:=mk _ _ (ac fR (ac Hb (ac Re an))) tv1
def Rg:aL Pg 21 RJ:=mk _ _ (ac Rf (ac LD (ac fR (ac Hb (ac TZ (ac Xw an)))))) cg
def Ha:aL Pg 7 Hz:=mk _ _ (ac Rg (ac Ut an)) cg
abbrev Ld0:Y PB:=[Ğ,À,Ø,.C 61 JV]
abbrev Ld1:Y PB:=[Ğ,À,Ø]
abbrev Ld2:Y PB:=[ţ,Ţ,.C 225 [.d Kd0]]
abbrev Ld3:Y PB:=[Â]
abbrev Ld5:Y PB:=[Â,Ŭ]
abbrev Ld6:Y PB:=[Ť,.C 61 [Ý,W?,å,Þ],Ŭ,ñ,Ğ,À,Ø]
abbrev Ld7:Y PB:=[ñ,ů,Ğ,.F 4 aa .bool,.F 178 aa iB]
abbrev Ld9:Y PB:=[Ţ]
abbrev YL:Y PV:=[ì,W?]
def aby:=ŷ Nt [] [W?] [] (em [Ŵ 3 [0,1] [12] [X!] []]) nF
def I5:=Ŷ [Î,Î] [] qY [] (em [Ŵ 8 [0,1,14] [5,15] YL [Z?]])
def VU:cF:=cn I5 lB
def ak0:=ŷ Nt [] [W?] [] (em [Ŵ 3 [0,1] [12] [X!] []]) Cj
def Gi:=ŷ qY [] qY [] .leaf Q2
def ao0:cF:=⟨Gi.pre,Gi.post,Xh⟩
def BV:=ŷ qY [] [ì] Ld3 (em [(8,(.a [.nil 2 3 aM])),(12,(.a [.nil 2 3 aM]))]) Lj
def akd:cF:=⟨BV.pre,BV.post,uQ⟩
def VS:=ŷ Nt [] qY [] (em [Ŵ 4 [0,1,5] [6] [X!] [],Ŵ 6 [0,1,6] [5] [W?] [],Ŵ 16 [] [7] [ì] [Z?],Ŵ 17 [1] [7,33] [ì,X!] [Z?]]) qV
def UZ:=Ŷ [Î,Î] [] [X!] [] (em [Ŵ 6 [0,1] [5] [W?] []])
def agb:cF:=cn UZ vD
def yw:=Ŷ [ã] [] [X!] [] (em [Ŵ 6 [0,5] [6] [W?] []])
def Hy:cF:=cn yw md
def Da:=Ŷ [ã] [] [X!] [] (em [Ŵ 3 [0] [16] [X!] [],Ŵ 14 [] [18] [Y!] [Ļ],Ŵ 24 [] [18] [Y!] [Ļ],Ŵ 25 [3,4] [18,23] ig [Ļ],Ŵ 29 [] [18,38] ig [Ļ]])
def Ot:cF:=cn Da pM
def MO:=Ŷ Nt [] [W?] [] (em [Ŵ 6 [0,1,7] [8] [W?] []])
def Yw:cF:=cn MO sT
def OO:=ŷ Nt [] [X!] [] .leaf lM
def ON:=ŷ [Î,ß] [] [X!] [] .leaf kh
def JN:=ŷ wD [] [X!] [] (em [Ŵ 2 [] [4] [X!] []]) ui
def JO:=ŷ [Ì,W?,X!] [] [X!] [] (em [Ŵ 2 [] [6] [X!] []]) uj
def uH:=Ŷ [ă] [] [Í,X!] [] (em [ŵ 8 [0] [4,5] YL [Ï] [.nil 4 9 .str],Ŵ 15 [0] [4,5] YL [Ï],Ŵ 37 [0,5] [4,6,49] [ì,Æ,X!] [Ï,ļ],Ŵ 48 [0,5,51] [4,6,52] [ì,Æ,W?] [Ï,ļ]])
def C2:cF:=cn uH im
def uG:=Ŷ [Ì,Í] [] [X!] [] (em [Ŵ 10 [17,18] [2,5,19] YM aco,Ŵ 27 [30,31] [2,5,32] YM aco,ŵ 50 [52] [10,51,53] [.mp 0,ù,W?] [.mp .str .bool,Ï] [.mpt 10 .str .bool],ŵ 62 [12,52,53] [10,51,64] [.mp 0,ù,X!] [.mp .str .bool,Ï] [.mpt 10 .str .bool]])
def C1:cF:=cn uG dZ
def uF:=Ŷ [Ì] [] [X!] [] (em [Ŵ 8 [8,9] [1,3,4,10] (Y!::W?::œ) rc,Ŵ 20 [3,4,8,9,10] [1,6,25] sr ş,Ŵ 27 [8,9,10] [1,3,4,6] [Y!,W?,W?,Æ] ş])
def CZ:cF:=cn uF gm
def uI:=Ŷ [Ì] [] [X!] [] (em [Ŵ 3 [] [1,34] ig rc,Ŵ 11 [] [1,44] ig rc,Ŵ 21 [] [1,58] ig rc,Ŵ 32 [60,61] [1,62] u_ rc])
def C3:cF:=cn uI d_
def Dl:=Ŷ [Ì] [] [ò] [] (em [Ŵ 8 [20] [2,3,21] yN Ld7,Ŵ 21 [] [2,3] [Y!,Æ] Ld7])
def OH:cF:=cn Dl pP
def wU:=Ŷ [Ì] [] [Ó] [] (em [Ŵ 8 [22,23] [2,3,24] yN [į,.C 107 (ŋ++[î,Ü,Ý]),.F 2 aa aM,.F 2 aa aM,Z?]])
def F9:cF:=cn wU dB
def tS:=Ŷ [ð,É] [] [X!] [] (em [Ŵ 6 [0,13] [14] [W?] [],Ŵ 20 [0,13,14,17,18] [19] [W?] [],Ŵ 31 [0,13,14,17,18,19] [37] [X!] []])
def BR:cF:=cn tS cC
def M2:=ŷ wD [] [X!] [] (em [Ŵ 2 [] [4] [X!] []]) fo
def JG:=ŷ (Ì::œ) [] [X!] [] (em [Ŵ 6 [2,7] [3,8] ig rc,Ŵ 36 [2,7] [3,18] ig rc,Ŵ 46 [2,7] [3,26] ig rc,Ŵ 53 [] [6] [X!] [],Ŵ 56 [2,7] [3,43] ig rc,Ŵ 71 [] [6] [X!] [],Ŵ 74 [2,7] [3,61] ig rc,Ŵ 92 [2,7] [3,71] ig rc,Ŵ 102 [2] [3,79] ig rc]) m8
def F0:=Ŷ [Ì,ò] [] [X!] [] (em [Ŵ 3 [] [2,31] ig rc,Ŵ 14 [33,34] [2,35] u_ rc])
def R1:cF:=cn F0 lz
def OF:=ŷ (Ì::ò::W?::œ) [] [X!] [] (em [Ŵ 15 [] [10] [X!] [],Ŵ 21 [] [10] [X!] [],Ŵ 24 [2,4,11] [5,6,60] sr YN,Ŵ 64 [2,4,11] [5,6,109] sr YN,Ŵ 81 [] [10] [X!] [],Ŵ 87 [] [10] [X!] []]) pO
def JH:=ŷ (Ì::ò::W?::œ) [] [X!] [] (em [Ŵ 3 [2,3,4] [5,6,30] sr YN,Ŵ 25 [] [10] [X!] [],Ŵ 29 [] [10] [X!] []]) jO
def Hw:=ŷ [Ì,Ó] [] [X!] [] (em [Ŵ 2 [] [4] [X!] []]) ma
def Ee:=ŷ [Ì,É] [] [X!] [] (em [Ŵ 3 [] [2,3,12] sr ś,Ŵ 10 [] [4] [X!] []]) kr
def rX:=Ŷ [Ì,Ó,É] [] [X!] [] (em [Ŵ 2 [] [4,5,7] sr Ś,Ŵ 4 [] [4,5,8] Ō Ld2,Ŵ 10 [51] [4,5,8,52] HV Ld2,Ŵ 22 [10,51,52] [4,5,8,64] JU Ld2,Ŵ 34 [51,52,65,66] [4,5,8,11,67] (Ō++œ) Ld2,Ŵ 46 [13,51,52,65,66,67] [4,5,8,83] JU Ld2])
def zZ:cF:=cn rX fg
def vZ:=Ŷ [Ó,É] [] [X!] [] (em [Ŵ 21 [] [4] [X!] [],Ŵ 24 [13] [2,3,46] sr Ś,Ŵ 43 [53,54] [3,5,6,55] [Y!,W?,X!,W?] Ld9,Ŵ 51 [53,54,55] [3,5,6] [Y!,W?,X!] Ld9,Ŵ 54 [5,6,7,53,54,55] [3,69] ig Ld9,Ŵ 62 [] [4] [X!] [],Ŵ 74 [94,95] [3,9,96] Wg Ld9,Ŵ 82 [94,95,96] [3,9] u_ Ld9,Ŵ 85 [9,94,95,96] [3,109] ig Ld9])
def Ed:cF:=cn vZ gJ
def OE:=ŷ [.d iB,W?] [] [X!] [] (em [Ŵ 2 [] [4] [X!] []]) nD
def BW:=ŷ [ð] [] [ð] [] .leaf Ll
def ake:cF:=⟨BW.pre,BW.post,Q1⟩
def yG:=ŷ [ð] [] [ì] [À] (em [(8,(.a [.nil 2 4 .bool])),(12,(.a [.nil 2 4 .bool]))]) G4
def agq:cF:=⟨yG.pre,yG.post,Lk⟩
def BU:=ŷ [Ô] [] [Ô] [] .leaf Li
def akc:cF:=⟨BU.pre,BU.post,Q0⟩
def yE:=ŷ [Ô] [] [ì] [Ø] (em [(8,(.a [.nil 2 178 iB])),(12,(.a [.nil 2 178 iB]))]) G2
def ago:cF:=⟨yE.pre,yE.post,Lh⟩
def yF:=ŷ qY [] [ì] [X?] (em [(8,(.a [.nil 2 2 aM])),(12,(.a [.nil 2 2 aM]))]) G3
def agp:cF:=⟨yF.pre,yF.post,Bg⟩
def Dk:=Ŷ [ò] [] [Ě] Ld1 (em [Ŵ 8 [11,12] [1,2,3,13] [Y!,Æ,î,W?] [ū,ñ,Ğ]])
def OG:cF:=cn Dk lL
def BK:=Ŷ (Ě::œ) Ld1 [W?] Ld1 (em [Ŵ 8 [1,2,12] [3,7,11,13] [Ö,W?,î,W?] Ld0,Ŵ 16 [1,2,12,13] [3,7,11] [Ö,W?,î] Ld0,Ŵ 19 [1,2,7,8,12,13] [3,11,29] [Ö,î,X!] Ld0,Ŵ 25 [7] [] [] Ld1])
def M3:cF:=cn BK kB
def wW:=Ŷ [Ě,W?] Ld1 [W?] Ld1 (em [Ŵ 8 [1,10] [2,5,9,11] [Ö,W?,î,W?] Ld0,Ŵ 16 [1,10,11] [2,5,9] [Ö,W?,î] Ld0])
def Gd:cF:=cn wW ia
def Na:=ŷ [W?] [] [X!] [] .leaf rM
def OM:=ŷ wD [] [X!] [] (em [Ŵ 2 [] [4] [X!] []]) xn
def HG:=ŷ [.d (.int .u64)] [] [W?] [] .leaf sQ
def M7:=ŷ [.d (.int .u64)] [] [W?] [] .leaf vL
def pt:=Ŷ (ì::œ) Ld3 [] Ld3 (em [Ŵ 3 [1,2] [0,6] YL Ld3,Ŵ 15 [1,2,6] [0,7] YL Ld3,Ŵ 17 [1,2,6,7] [0,30] [ì,X!] Ld3])
def wB:cF:=cn pt f_
def uE:=Ŷ (ì::W?::œ) Ld3 [] Ld3 (em [Ŵ 5 [] [0,1,2,3,8,9] [ì,W?,W?,W?,X!,X!] Ld3])
def CY:cF:=cn uE jW
def abz:=ŷ [ì] Ld3 [] Ld3 .leaf yd
def F8:=Ŷ [ì] Ld3 [ì] Ld3 (em [Ŵ 14 [] [0,3] YL Ld3])
def R8:cF:=cn F8 mP
def JJ:=ŷ [W?,Y!] [Ŭ] [X!] [Ŭ] .leaf p_
def BQ:=Ŷ [ì,Ĕ] Ld5 [W?] Ld5 (em [Ŵ 6 [7] [0,1,8] [ì,Ĕ,W?] Ld5])
def Nc:cF:=cn BQ oI
def AC:=Ŷ [ì,Ĕ] Ld5 [î] [þ,Ŭ,Z?] (em [Ŵ 16 [] [0,1,5,6] (ì::Ĕ::œ) Ld5,Ŵ 24 [6] [0,1,5] [ì,Ĕ,W?] Ld5])
def JP:cF:=cn AC jP
def oR:=Ŷ (Ì::ò::W?::W?::œ) [] [ò,W?,X!] [] (em [Ŵ 17 [] [7,12,15] yN [ů,ñ,Ğ,À,Ø],Ŵ 26 [4,5,15,27] [6,7,8,12,42] B6 Ld6,Ŵ 34 [4,5,15,27] [6,7,8,12,51] B6 Ld6])
def M6:cF:=cn oR ic
def M4:=ŷ [ò] [] [.agg [.qv 0 2 3,W?,ð,Ô]] (.C 98 [W?,ù,W?,î,W?,Ü]::ŝ) (em [ŵ 7 [] [1,2,3] [Y!,Æ,.qv 2 2 3] (ū::ñ::.C 98 [W?,Ü,W?,Ý,W?,å]::ŝ) [.qp 3 1 3 aM,.qp 3 3 3 aM,.qp 3 5 3 aM],(8,(.u 4))]) oH
def M5:=ŷ (Ì::ò::W?::W?::œ) [] [ò,W?,X!] [] (em [Ŵ 17 [] [7,12,15] yN [.C 61 [.qv 2 2 3,W?,ð,Ô],ñ,.C 98 [.d eA,.d eA,W?,Ü],.qf 3 aM],Ŵ 26 [4,5,15,27] [6,7,8,12,42] B6 (ř++.C 98 [W?,å,W?,Þ,W?,ä]::ŝ),(33,(.s 4 0 0 0)),Ŵ 34 [4,5,15,27] [6,7,8,12,51] B6 (ř++[.C 98 [W?,Î,W?,Î,W?,å],Â]),(41,(.s 4 0 0 0)),(46,(.s 4 0 0 3)),(53,(.s 4 0 0 3)),(74,(.s 4 0 0 0)),(80,(.s 4 0 0 0)),(100,(.a [.pk 7 0 eA]))]) mg
def OJ:cF:=cn oR s9
def Hx:=ŷ [Ì,Ó,É] [] [Ó,X!] [] (em [Ŵ 3 [] [3,4,5,6,39] B6 Nx,Ŵ 11 [] [3,4,5,6,70] B6 Nx,Ŵ 20 [] [3,4,5,6,8] (Ō++[Ö,W?]) Nx,Ŵ 41 [] [5,6,12] Ō aov]) fX
def v_:=Ŷ [á] [] wD [] (em [ŵ 26 [27,28] [1,4,5,29] [Y!,Æ,.qv 2 1 1,W?] (Ņ++[.C 58 [Ü],À]) [.qp 5 0 4 .bool],Ŵ 40 [6,27,28,29] [1,4,5,7,8,53] [Y!,Æ,.qv 2 1 1,Ö,æ,X!] (Ņ++[.C 58 [å],Ţ,ţ,À]),(41,(.s 7 0 0 1)),Ŵ 47 [27,28,29] [1,4,5,8] [Y!,Æ,.qv 2 1 1,Ö] (Ņ++[.C 58 [Ý],ţ,À]),(48,(.s 7 0 0 1))])
def Ei:cF:=cn v_ eL
def v9:=Ŷ [á] [] wD [] (em [ŵ 26 [27,28] [1,4,5,29] [Y!,Æ,.qv 2 1 2,W?] (Ņ++[.C 58 [Ü,Ý],À,À]) [.qp 5 0 4 .bool,.qp 5 1 4 .bool],Ŵ 40 [6,27,28,29] [1,4,5,7,8,53] [Y!,Æ,.qv 2 1 2,Ö,æ,X!] (Ņ++[.C 58 [å,Þ],Ţ,ţ,À,À]),(41,(.s 7 0 0 2)),Ŵ 47 [27,28,29] [1,4,5,8] [Y!,Æ,.qv 2 1 2,Ö] (Ņ++[.C 58 [Ý,å],ţ,À,À]),(48,(.s 7 0 0 2))])
def Eh:cF:=cn v9 dD
def v8:=Ŷ [á] [] wD [] (em [ŵ 26 [27,28] [1,4,5,29] [Y!,Æ,.qv 2 1 3,W?] (Ņ++[.C 58 [Ü,Ý,å],À,À,À]) [.qp 5 0 4 .bool,.qp 5 1 4 .bool,.qp 5 2 4 .bool],Ŵ 40 [6,27,28,29] [1,4,5,7,8,53] [Y!,Æ,.qv 2 1 3,Ö,æ,X!] (Ņ++[.C 58 [å,Þ,ä],Ţ,ţ,À,À,À]),(41,(.s 7 0 0 3)),Ŵ 47 [27,28,29] [1,4,5,8] [Y!,Æ,.qv 2 1 3,Ö] (Ņ++[.C 58 [Ý,å,Þ],ţ,À,À,À]),(48,(.s 7 0 0 3))])
def Eg:cF:=cn v8 dW
def fh:=Ŷ [á] [] wD [] (em [ŵ 26 [27,28] [1,4,5,29] [Y!,Æ,.qv 2 1 4,W?] (Ņ++[.C 58 [Ü,Ý,å,Þ],À,À,À,À]) [.qp 5 0 4 .bool,.qp 5 1 4 .bool,.qp 5 2 4 .bool,.qp 5 3 4 .bool],Ŵ 40 [6,27,28,29] [1,4,5,7,8,53] [Y!,Æ,.qv 2 1 4,Ö,æ,X!] (Ņ++[.C 58 [å,Þ,ä,ĉ],Ţ,ţ,À,À,À,À]),(41,(.s 7 0 0 4)),Ŵ 47 [27,28,29] [1,4,5,8] [Y!,Æ,.qv 2 1 4,Ö] (Ņ++[.C 58 [Ý,å,Þ,ä],ţ,À,À,À,À]),(48,(.s 7 0 0 4))])
def Ef:cF:=cn fh eK
def F_:cF:=cn fh lm
def Pw:aL Pg 59 aby:=mk _ _ an cg
def Tv x:my (lB x) (Bd x):=by
 unfold lB Bd wT ck bS bT bf c5 aH cW;with_reducible repeat' first|apply OI.o;constructor|intro _
def Bp:aL Pg 91 VU:=Bf I5 lB Bd Tv (ac Pw an) cg
def Zu:aL Pg 39 ak0:=mk _ _ an cg
def ajj:aL Pg 89 Gi:=mk _ _ an cg
def anp:aL Pg 89 ao0:= @aL.sub Pg 89 Gi.pre Gi.post Q2 Xh ajj rfl (λx y h=>sX (b:=8) x y h)
def afu:aL Pg 89 BV:=mk _ _ an cg
def Zw:aL Pg 89 akd:= @aL.sub Pg 89 BV.pre BV.post Lj uQ afu rfl (λx y h=>sX (b:=8) x y h)
def Uu:aL Pg 97 VS:=mk _ _ an cg
def aep x:my (vD x) (Lb x):=by
 unfold vD Lb Ft bS bf c5 aH cW;with_reducible repeat' first|apply OI.o;constructor|intro _
def afp:aL Pg 17 agb:=Bf UZ vD Lb aep (ac Zu an) cg
def GY x:my (md x) (sH x):=by
 unfold md sH sV lG mq mo B_ Prod.t Prod.u Prod.C Prod.D Prod.H Prod.I a8 Prod.K bt bI cA dO iC mF nJ Prod.L bS bT c5 aH cW;with_reducible repeat' first|apply OI.o;constructor|intro _
def G':aL Pg 160 Hy:=Bf yw md sH GY an cg
def NU x:my (pM x) (xi x):=by
 unfold pM xi xp bq bS kq bf c5 aH;with_reducible repeat' first|apply OI.o;constructor|intro _
def N8:aL Pg 126 Ot:=Bf Da pM xi NU (ac G' an) cg
def Xb x:my (sT x) (DU x):=by
 unfold sT DU zP bq bS bX bf c5 aH cW;with_reducible repeat' first|apply OI.o;constructor|intro _
def XP:aL Pg 192 Yw:=Bf MO sT DU Xb an cg
def On:aL Pg 161 OO:=mk _ _ (ac XP an) cg
def C9:aL Pg 26 ON:=mk _ _ (ac Pw an) cg
def Jw:aL Pg 127 JN:=mk _ _ an cg
def Jx:aL Pg 79 JO:=mk _ _ (ac Jw an) cg
def CE x:my (im x) (pB x):=by
 unfold im pB pF a8 bt bI cA dJ fD bq bS i_ bT bX bf c5 aH cW;with_reducible repeat' first|apply OI.o;constructor|intro _
def CQ:aL Pg 77 C2:=Bf uH im pB CE an cg
def CD x:my (dZ x) (pA x):=by
 unfold dZ pA pE a8 bt bI bS bT bX ko bf c5 aH cW;with_reducible repeat' first|apply OI.o;constructor|intro _
def CP:aL Pg 78 C1:=Bf uG dZ pA CD (ac N8 an) cg
def CC x:my (gm x) (py x):=by
 unfold gm py lX a8 bt cA dj bS i_ bX bf c5 aH cW;with_reducible repeat' first|apply OI.o;constructor|intro _
def CO:aL Pg 80 CZ:=Bf uF gm py CC an cg
def CF x:my (d_ x) (pC x):=by
 unfold d_ pC lY a8 bt cA dj bS bX bf c5 aH cW;with_reducible repeat' first|apply OI.o;constructor|intro _
def lW:aL Pg 53 C3:=Bf uI d_ pC CF (ac CQ (ac CP (ac Jx (ac CO an)))) cg
def NZ x:my (pP x) (xl x):=by
 unfold pP xl xr a8 bt bI b_ dJ dj ck bS bT bf c5 aH cW;with_reducible repeat' first|apply OI.o;constructor|intro _
def Oh:aL Pg 81 OH:=Bf Dl pP xl NZ an cg
def E3 x:my (dB x) (rz x):=by
 unfold dB rz rP a8 bt bI dJ bS bT bX bf c5 aH cW;with_reducible repeat' first|apply OI.o;constructor|intro _
def nK:aL Pg 54 F9:=Bf wU dB rz E3 (ac Oh an) cg
def AZ x:my (cC x) (og x):=by
 unfold cC og lE dO pV bS kq bT bX bf c5 aH cW;with_reducible repeat' first|apply OI.o;constructor|intro _
def lD:aL Pg 56 BR:=Bf tS cC og AZ an cg
def vR:aL Pg 129 M2:=mk _ _ an cg
def Ju:aL Pg 130 JG:=mk _ _ (ac vR an) cg
def QL x:my (lz x) (zu x):=by
 unfold lz zu uU a8 bt bI dJ bS i_ bX bf c5 aH cW;with_reducible repeat' first|apply OI.o;constructor|intro _
def Fo:aL Pg 128 R1:=Bf F0 lz zu QL (ac vR an) cg
def Of:aL Pg 131 OF:=mk _ _ (ac On an) cg
def ul:aL Pg 83 JH:=mk _ _ (ac Fo (ac vR (ac Ju (ac Of an)))) cg
def G_:aL Pg 82 Hw:=mk _ _ (ac Fo an) cg
def D5:aL Pg 84 Ee:=mk _ _ an cg
def ze x:my (fg x) (mL x):=by
 unfold fg mL j8 a8 bt bI cA b_ dJ fD bq bS kq bT bX bf c5 aH cW;with_reducible repeat' first|apply OI.o;constructor|intro _
def zI:aL Pg 85 zZ:=Bf rX fg mL ze an cg
def DK x:my (gJ x) (qA x):=by
 unfold gJ qA mS a8 bt bI cA b_ bq bS bX bf c5 aH cW;with_reducible repeat' first|apply OI.o;constructor|intro _
def D3:aL Pg 86 Ed:=Bf vZ gJ qA DK an cg
def C8:aL Pg 167 OE:=mk _ _ an cg
def afx:aL Pg 162 BW:=mk _ _ an cg
def aji:aL Pg 162 ake:= @aL.sub Pg 162 BW.pre BW.post Ll Q1 afx rfl (λx y h=>sX (b:=1) x y h)
def ab2:aL Pg 162 yG:=mk _ _ an cg
def afw:aL Pg 162 agq:= @aL.sub Pg 162 yG.pre yG.post G4 Lk ab2 rfl (λx y h=>sX (b:=1) x y h)
def aft:aL Pg 163 BU:=mk _ _ an cg
def ajh:aL Pg 163 akc:= @aL.sub Pg 163 BU.pre BU.post Li Q0 aft rfl (λx y h=>sX (b:=24) x y h)
def ab0:aL Pg 163 yE:=mk _ _ an cg
def afs:aL Pg 163 ago:= @aL.sub Pg 163 yE.pre yE.post G2 Lh ab0 rfl (λx y h=>sX (b:=24) x y h)
def ab1:aL Pg 88 yF:=mk _ _ an cg
def afv:aL Pg 88 agp:= @aL.sub Pg 88 yF.pre yF.post G3 Bg ab1 rfl (λx y h=>sX (b:=8) x y h)
def NY x:my (lL x) (xk x):=by
 unfold lL xk tu a8 b_ ck bS bT bX bf c5 cW;with_reducible repeat' first|apply OI.o;constructor|intro _
def Og:aL Pg 132 OG:=Bf Dk lL xk NY (ac anp (ac afw (ac afs an))) cg
def K5 x:my (kB x) (vB x):=by
 unfold kB vB rU a8 bt b_ ck bS kq ko bf c5 aH cW;with_reducible repeat' first|apply OI.o;constructor|intro _
def LM:aL Pg 137 M3:=Bf BK kB vB K5 (ac C8 an) cg
def E6 x:my (ia x) (rB x):=by
 unfold ia rB nN a8 bt b_ dJ ck bS ko bf c5 aH cW;with_reducible repeat' first|apply OI.o;constructor|intro _
def Fn:aL Pg 138 Gd:=Bf wW ia rB E6 (ac C8 an) cg
def LS:aL Pg 220 Na:=mk _ _ an cg
def Om:aL Pg 199 OM:=mk _ _ (ac LS an) cg
def Hg:aL Pg 203 HG:=mk _ _ an cg
def LQ:aL Pg 165 M7:=mk _ _ (ac Hg an) cg
def wv x:my (f_ x) (kX x):=by
 unfold f_ kX kY ck bS ko c5 aH cW;with_reducible repeat' first|apply OI.o;constructor|intro _
def wy:aL Pg 193 wB:=Bf pt f_ kX wv (ac Om an) cg
def CA x:my (jW x) (pw x):=by
 unfold jW pw pD a8 bt bq kq bT aH;with_reducible repeat' first|apply OI.o;constructor|intro _
def CM:aL Pg 164 CY:=Bf uE jW pw CA (ac wy an) cg
def aaz:aL Pg 133 abz:=mk _ _ (ac CM (ac LQ an)) cg
def QQ x:my (mP x) (zA x):=by
 unfold mP zA zQ bq bS bT ko bf c5 aH cW;with_reducible repeat' first|apply OI.o;constructor|intro _
def Rr:aL Pg 134 R8:=Bf F8 mP zA QQ an cg
def Al:aL Pg 136 JJ:=mk _ _ an cg
def K_ x:my (oI x) (vC x):=by
 unfold oI vC vV bS ko bf c5 aH cW;with_reducible repeat' first|apply OI.o;constructor|intro _
def LU:aL Pg 166 Nc:=Bf BQ oI vC K_ (ac Al an) cg
def Jk x:my (jP x) (uh x):=by
 unfold jP uh uo ck bq bS bT ko bf c5 aH cW;with_reducible repeat' first|apply OI.o;constructor|intro _
def Jy:aL Pg 135 JP:=Bf AC jP uh Jk (ac Al (ac LU an)) cg
def LP:aL Pg 87 M6:=mk oR ic (ac ul (ac Og (ac LM (ac Fn an)))) cg
def tv2 (t:TypeId):M Ty:=if aA t 98 then Z (.pr .un (.pr .un (.pr .un (.pr .un eA)))) else cg t
def LN:aL Pg 132 M4:=mk _ _ (ac Zw (ac aji (ac ajh an))) tv2
def LO:aL Pg 87 M5:=mk _ _ (ac ul (ac LN (ac aaz (ac Rr (ac Jy an))))) tv2
def Oi:aL Pg 87 OJ:=(aL.orE (pre:=oR.pre) (post:=oR.post) (m:=ic) (m':=mg) rfl LP LO)
def pf:aL Pg 55 Hx:=mk _ _ (ac G_ (ac ul (ac D5 (ac zI (ac D3 (ac Oi (ac afv (ac Zw an)))))))) cg
def tv3 (t:TypeId):M Ty:=if aA t 58 then Z (.pr .un (.pr .un rf)) else cg t
def DO x:my (eL x) (qE x):=by
 unfold eL qE mT a8 bt bI b_ dj bq bS bT bX bf c5 aH cW;with_reducible repeat' first|apply OI.o;constructor|intro _
def D9:aL Pg 23 Ei:=Bf v_ eL qE DO (ac lW (ac nK (ac pf (ac lD an)))) tv3
def tv4 (t:TypeId):M Ty:=if aA t 58 then Z (.pr .un (.pr .un (.pr .un rf))) else cg t
def DN x:my (dD x) (qD x):=by
 unfold dD qD kG a8 bt bI cA b_ dJ fD bq bS bT bX bf c5 aH cW;with_reducible repeat' first|apply OI.o;constructor|intro _
def D8:aL Pg 23 Eh:=Bf v9 dD qD DN (ac lW (ac nK (ac pf (ac lD an)))) tv4
def tv5 (t:TypeId):M Ty:=if aA t 58 then Z (.pr .un (.pr .un (.pr .un (.pr .un rf)))) else cg t
def DM x:my (dW x) (qC x):=by
 unfold dW qC kF a8 bt bI cA dO b_ dj fD pV bq bS bT bX bf c5 aH cW;with_reducible repeat' first|apply OI.o;constructor|intro _
def D7:aL Pg 23 Eg:=Bf v8 dW qC DM (ac lW (ac nK (ac pf (ac lD an)))) tv5
def tv6 (t:TypeId):M Ty:=if aA t 58 then Z (.pr .un (.pr .un (.pr .un (.pr .un (.pr .un rf))))) else cg t
def DL x:my (eK x) (qB x):=by
 unfold eK qB kE a8 bt bI cA dO iC b_ fD pV wG bq bS bT bX bf c5 aH cW;with_reducible repeat' first|apply OI.o;constructor|intro _
def D6:aL Pg 23 Ef:=Bf fh eK qB DL (ac lW (ac nK (ac pf (ac lD an)))) tv6
def wP:aL Pg 23 F_:=(aL.orE (pre:=fh.pre) (post:=fh.post) (m:=eK) (m':=(λx=>orE (dW x) ((λx=>orE (dD x) (eL x)) x))) rfl D6 (aL.orE (pre:=fh.pre) (post:=fh.post) (m:=dW) (m':=(λx=>orE (dD x) (eL x))) rfl D7 (aL.orE (pre:=fh.pre) (post:=fh.post) (m:=dD) (m':=eL) rfl D8 D9)))
abbrev asd:Y PV:=[á,î,Ü,Ý,å,Þ,ä,ĉ,Ķ,.mp 10,ç]
def Ŏ:Y PB:=[.C 72 [Æ],.C 81 asd,Y?,ë,Z?,Z?,Z?,Z?,è,Ċ,.I .qh 12,.I (.qc 166) 12,Ñ,Ç,Ç]
abbrev Le0:Y PB:=(Ŏ++[Ń,.C 4 [X!]])
abbrev Le1:Y PB:=(Ŏ++[Ţ,Ń])
abbrev Le5:Y PV:=[á,ù,î,Ü,Ý,å,Þ,ä,ĉ,.mp 9,Ē]
def ğ:PB:=.C 81 Le5
def Š:Y PB:=[ğ,Y?,ë,Z?,Z?,Z?,Z?]
def ŉ:Y PB:=(Š++[ó,è,Ĭ,Ă,Ñ,Ç])
abbrev Le2:Y PB:=(ŉ++[Ç,.C 72 [Y!],Ţ,Ń])
abbrev Le3:Y PB:=(ŉ++[Ç])
abbrev Le4:Y PB:=[Ű,.C 81 [á,Ý,å,Þ,ä,ĉ,Ķ,Ē,ç,.mp 12,.G 13],.F 83 J fO,Ţ,Y?,ë,Z?,Z?,Z?,Z?,Ċ,Į,.I .qh 16,.I (.qc 166) 16,Ç,Ç,Ñ]
abbrev Le8:Y PB:=[Ű,.C 81 [á,Ü,Ý,å,Þ,ä,ĉ,Ķ,Ē,.mp 11,ġ],.F 83 J fO,Y?,ë,Z?,Z?,Z?,Z?,è,Ċ,.I .qh 15,.I (.qc 166) 15,Ç,Ç,Ñ]
abbrev asf:Y PB:=(ŉ++[Ç,Ţ])
abbrev ase:Y PB:=(Š++[Ċ,Į,Ĭ,Ă,Ñ,þ,þ,Ç,Ç])
abbrev akz:Y PB:=[Ű]
abbrev Le19:Y PV:=[Y!,Æ,î]
abbrev aot:Y PV:=[Y!,Æ,î,Ö,X!]
abbrev Le25:Y PV:=[Y!,Æ,î,W?]
abbrev asc:Y PV:=[ĳ,W?]
def Mo:=Ŷ [W?] [] [ì] [Z?] (em [Ŵ 8 [8] [3,9] YL [Z?]])
def XY:cF:=cn Mo lJ
def RC:=ŷ [É] [] [X!] [] (em [Ŵ 2 [] [2] [X!] []]) mN
def MS:=ŷ [Ì,É] [] [W?] [] (em [Ŵ 6 [6] [2,3,7] sr ś]) mc
def MP:=ŷ [Ì,É] [] [W?] [] (em [Ŵ 6 [6] [2,3,7] sr ś]) mb
def BS:=ŷ [Y!,É] Le3 qY Le3 (em [Ŵ 7 [] [5] [.G 14] (ŉ++[Ç,Z?])]) ja
def CV:=ŷ [.ob 0 0,É] [Ñ] [] [Ñ] .leaf jT
def wc:=Ŷ [Y!,W?,É] Le3 [] ase (em [ŵ 6 [] [] [] ase [.jd 0 13,.jd 0 14],Ŵ 39 [1,105] [0,5,104,106] [Y!,Ġ,Þ,W?] asf,Ŵ 47 [1,105,106] [0,5,104] [Y!,Ġ,Þ] asf])
def Ej:cF:=cn wc gK
def AL:=ŷ [Y!,W?,É] Le3 [] [.C 81 [á,ù,î,Ü,Ý,å,Þ,ä,ĉ,.mp 9,.G 14],Y?,ë,Z?,Z?,Z?,Z?,ó,è,.I .qh 15,þ,þ,Ç,Ç,.I (.qc 166) 15,Ñ] (em [(60000,(.a [.qx 0 16,.jd 0 15]))]) iH
def CX:=ŷ [ô,ě,Đ,Y!] Le1 [] Le1 (em [Ŵ 0 [] [0,2,3,25] [ô,Đ,Y!,X!] Le1]) jV
def CW:=ŷ [ô,ě,Y!,Đ] Le0 [] Le0 (em [Ŵ 0 [] [0,1,2,3,31] [ô,ě,Y!,Đ,X!] Le0]) jU
def BE:=Ŷ [ô,õ,Y!] Le1 [] Le1 (em [Ŵ 3 [11] [0,1,10,12] [ô,õ,ç,W?] Le1,Ŵ 11 [11,12] [0,1,10] [ô,õ,ç] Le1,Ŵ 14 [11,12] [0,1,6,10,59] [ô,õ,ô,ç,X!] Le1])
def MR:cF:=cn BE kw
def BD:=Ŷ [ô,ö,Y!] Le0 [] Le0 (em [Ŵ 3 [11] [0,1,10,12] [ô,ö,ç,W?] Le0,Ŵ 11 [11,12] [0,1,10] [ô,ö,ç] Le0,Ŵ 14 [11,12] [0,1,6,10,59] [ô,ö,ô,ç,X!] Le0])
def MQ:cF:=cn BD ku
def wV:=Ŷ [Y!,W?,É] Le3 [] [.C 81 [á,.G 14,.G 15,Ü,Ý,å,Þ,ä,ĉ,.mp 9,.G 16],þ,þ,Z?,Z?,Z?,Z?,.I (.rr 50 1) 18,.I (.rr 50 1) 19,.I .qh 17,þ,þ,þ,þ,Y?,ë,.I (.qc 166) 17,Ñ,Ç,Ç] (em [Ŵ 8 [1,24,25] [3,5,6,26] [Ġ,ě,Đ,W?] Le2,Ŵ 16 [1,24,25,26] [3,5,6] [Ġ,ě,Đ] Le2,Ŵ 27 [1] [3,5,6,9] [Ġ,ě,Đ,ĥ] Le2,Ŵ 34 [1,52] [3,5,6,9,53] [Ġ,ě,Đ,ĥ,W?] Le2,Ŵ 42 [1,52,53] [3,5,6,9] [Ġ,ě,Đ,ĥ] Le2,Ŵ 58 [1] [3,5,6] [Ġ,ě,Đ] Le2,Ŵ 67 [1] [3,5,6,9,12,13] [Ġ,ě,Đ,ĥ,.ob 11 0,.H 17 0] (ŉ++[Ç,.C 72 [Y!],Ţ,Ń,.C 4 [X!]])])
def Ga:cF:=cn wV gq
def FC:=Ŷ [á] [] [Y!] Le3 (em [ŵ 10 [34,35] [4,36] u_ (Š++[.I (.rr 50 1) 11,ó,.I .qh 13,.I (.qc 166) 13,Ç,Ç,Ñ]) [.fmp 4 15 170 lS,.frw 4 16 15 166,.qp 4 7 50 (.sl aM),.qp 4 8 52 fO]])
def RB:cF:=cn FC lq
def RD:=ŷ [á] [] [ĩ,W?] [] .leaf rC
def Ip:=Ŷ [á] [] [Ĵ,W?] [] (em [ŵ 20 [23,24] [1,6,7,25] Le25 Le8 [.nil 7 83 fO],Ŵ 28 [23,24,25] [1,6,7] Le19 Le8,Ŵ 32 [8,23,24,25] [1,6,7,9,42] aot Le4,Ŵ 40 [8,23,24,25,46,47] [1,6,7,9,48] [Y!,Æ,î,Ö,W?] Le4,Ŵ 48 [8,23,24,25,46,47,48] [1,6,7,9] [Y!,Æ,î,Ö] Le4,Ŵ 52 [8,10,23,24,25,46,47,48] [1,6,7,9,11,69] [Y!,Æ,î,Ö,æ,X!] [Ű,.C 81 [á,å,Þ,ä,ĉ,Ķ,Ē,ç,ġ,.mp 13,.G 14],.F 83 J fO,Ţ,Ţ,Y?,ë,Z?,Z?,Z?,Z?,Į,.I (.rr 50 1) 16,.I .qh 17,.I (.qc 166) 17,Ç,Ç,Ñ],Ŵ 57 [8,10,23,24,25,46,47,48] [1,6,7,9,12] aot Le4,Ŵ 59 [8,10,23,24,25,46,47,48] [1,6,7,9,96] aot Le4])
def U8:cF:=cn Ip qR
def ZO:=Ŷ [] [] [Ì] [] (em [ŵ 8 [21] [0,1,22] yN al8 [.qp 1 5 134 qO],Ŵ 22 [2,21,22] [0,1,3] yN al8])
def akb:cF:=cn ZO E9
def JM:=ŷ [X!] [] [á] [] (em [Ŵ 4 [] [2,3] u_ [Ŀ]]) qa
def R6:=ŷ [] [] [X!] [] (em [Ŵ 6 [] [0] [X!] []]) uP
def U':=ŷ asc [] [W?] [] (em [Ŵ 8 [0,1] [5,6] wD [],Ŵ 16 [0,1,6] [5] [W?] []]) tH
def Va:=ŷ [Î,ß] [] [X!] [] .leaf tI
def RK:=ŷ asc [] [ß] [] .leaf rG
def Gg:=ŷ [.d Ke2] [] [X!] [] (em [Ŵ 7 [4] [3,24] ig akz,Ŵ 18 [4,27] [3,28] u_ akz,Ŵ 32 [4,6,27,28] [3,7] u_ akz,Ŵ 41 [4,6,7,27,28] [3,56] ig akz]) lA
def W9 x:my (lJ x) (DR x):=by
 unfold lJ DR zK ck bS bT c5 aH cW;with_reducible repeat' first|apply OI.o;constructor|intro _
def Xt:aL Pg 57 XY:=Bf Mo lJ DR W9 an cg
def Fk:aL Pg 25 RC:=mk _ _ an cg
def LB:aL Pg 139 MS:=mk _ _ an cg
def Bm:aL Pg 95 MP:=mk _ _ an cg
def Bn:aL Pg 90 BS:=mk _ _ an cg
def CJ:aL Pg 94 CV:=mk _ _ an cg
def DP x:my (gK x) (qF x):=by
 unfold gK qF mU lG mq mo B_ Prod.t Prod.D a8 bt bI cA dO iC mF nJ Prod.r dj fD wG ck bq bS kq pu bT ko bf c5 aH cW;with_reducible repeat' first|apply OI.o;constructor|intro _
def D_:aL Pg 99 Ej:=Bf wc gK qF DP an cg
def tv7 (t:TypeId):M Ty:=if aA t 166 then Z (.pr .un .un) else cg t
def AH:aL Pg 98 AL:=mk _ _ (ac Bm (ac LB an)) tv7
def CL:aL Pg 93 CX:=mk _ _ (ac Bp an) cg
def CK:aL Pg 96 CW:=mk _ _ (ac C9 (ac Bp an)) cg
def KZ x:my (kw x) (vA x):=by
 unfold kw vA rR lG mq mo a8 bt bI cA dO iC mF nJ ck bq bS i_ pu bT bf c5 aH cW;with_reducible repeat' first|apply OI.o;constructor|intro _
def LA:aL Pg 92 MR:=Bf BE kw vA KZ (ac CL an) cg
def KY x:my (ku x) (vz x):=by
 unfold ku vz rQ lG mq mo a8 bt bI cA dO iC mF nJ ck bq bS i_ pu bT bf c5 aH cW;with_reducible repeat' first|apply OI.o;constructor|intro _
def Lz:aL Pg 92 MQ:=Bf BD ku vz KY (ac CK an) cg
def E4 x:my (gq x) (rA x):=by
 unfold gq rA nL lG mq mo B_ Prod.t Prod.u Prod.C a8 bt bI cA dO iC mF nJ Prod.w Prod.y Prod.z Prod.r Prod.F Prod.E Prod.G bS kq bT bX ko bf c5 aH cW;with_reducible repeat' first|apply OI.o;constructor|intro _
def Fj:aL Pg 58 Ga:=Bf wV gq rA E4 (ac Fk (ac Bn (ac Bp (ac CJ (ac Bm (ac Uu (ac AH (ac D_ (ac2 6160476 rfl LA (ac2 6357084 rfl Lz an)))))))))) cg
def tv8 (t:TypeId):M Ty:=if aA t 50 then Z (.pr .bool (.pr (.st (.st (.st .un))) (.sl aM))) else cg t
def QK x:my (lq x) (zo x):=by
 unfold lq zo uT lG mq mo B_ a8 bt bI cA dO iC mF nJ Prod.z Prod.r bS bT bX bf c5 aH cW;with_reducible repeat' first|apply OI.o;constructor|intro _
def Fi:aL Pg 24 RB:=Bf FC lq zo QK (ac Xt (ac Fj an)) tv8
def Rb:aL Pg 13 RD:=mk _ _ (ac wP (ac Fi an)) cg
def Tr x:my (qR x) (Bc x):=by
 unfold qR Bc Bq lG mq mo a8 bt bI cA dO iC mF nJ Prod.z dJ dj fD bq bS i_ bT bX ko bf c5 aH cW;with_reducible repeat' first|apply OI.o;constructor|intro _
def TX:aL Pg 8 U8:=Bf Ip qR Bc Tr (ac wP (ac Fi (ac Fk (ac C9 an)))) cg
def aiv x:my (E9 x) (QX x):=by
 unfold E9 QX Rt a8 bt bI cA fD bS bT c5 aH cW;with_reducible repeat' first|apply OI.o;constructor|intro _
def ajg:aL Pg 44 akb:=Bf ZO E9 QX aiv an cg
def Jv:aL Pg 37 JM:=mk _ _ (ac ajg an) cg
def Rq:aL Pg 12 R6:=mk _ _ (ac TX (ac Jv an)) cg
def T2:aL Pg 40 U':=mk _ _ an cg
def T3:aL Pg 15 Va:=mk _ _ (ac Zu an) cg
def Rh:aL Pg 16 RK:=mk _ _ (ac T2 an) cg
def hlaw26_WeakCloses:aL Pg 5 Gg:=mk _ _ (ac Ha (ac Rq (ac Rb (ac T3 (ac Rh (ac afp an)))))) cg
def run_law {pre:Tm} {m:pre.ty.den->M (Tm.ty ⟨[.d .bool],[]⟩).den} (sp:qZ P f ⟨pre,⟨[.d .bool],[]⟩,m⟩) (h0:l! pre.bs=0) {x:pre.ty.den} (hx:m x=Z J) {vs:Y TV} {hp:a_} (hi:C7 pre x=Z (vs,hp)) {la:Y AV} (hla:cP hp vs=Z la)
 {W:World} (hg:∀g cells,G g=Z cells->mX (λ_=>False) W (.H cells 0) (.pointer (Z ⟨g,0,U⟩))) (hrel:lP (λ_=>U) (λ_=>False) W la N):
 Calls P f N.toArray W λe w'=>e= .returned (.bool J)/\Below W.heap.size W w':=by
 obtain⟨z,I⟩:=yi hi;obtain⟨L,y⟩:=yi (t:=⟨[.d .bool],[]⟩) (x:=J) (vs:=[.f .bool J]) (h1:=PT.leaf) rfl;have D:erHF hp=λ_=>U:=by
  funext n;cases hb:erHF hp n with
  |none=>rfl
  |some b=>
   obtain⟨c,h1,_⟩:=iO hb;have:=I.lt_len h1;omega
 have own0:∀(φ:PM) k,¬own φ (erHF hp) k:=by rintro φ k ⟨i,b,h1,_⟩;rw[D]at h1;cases h1
 have htot:tot (λ_=>False) (λ_=>U) (erHF hp)=λ_=>False:=by
  funext k;exact propext ⟨λh=>h.elim id λh=>co h (own0 _ k),λh=>h.elim⟩
 refine Calls.mono (sp.calls x J hx vs hp z _ PT.leaf L la _ I y hla rfl (λ_=>U) (λ_=>False) W N ⟨(λi j b b' k h1=>by rw[D]at h1;cases h1),(λi b h1=>by rw[D]at h1;cases h1),(λk h=>h.elim),(λg cells h=>by rw[htot];exact hg g cells h)⟩ (by rw[htot];exact hrel) (λn k h=>by cases h)) ?_;rintro en w' ⟨v,φ',rfl,he,_,_,_,A⟩;refine ⟨?_,⟨he.os,he.tape,he.output,he.size,λk hk=>he.jb k hk (own0 _ k)⟩⟩;have A:cq φ' _ w' (.f (.raw (.bool J))) v:=A;cases A with
 |f h=>cases h;rfl
def gKw:Tryz.prog.globalNamed "interleave/token.keywords" =Z 0:=by kernel_rfl
def tKw:(Tryz.prog.globals[0]?).map (·.type)=Z 278:=by kernel_rfl
def kw_of_laid {W:World} (h:laidMetH Tryz.prog [("interleave/token.keywords",Rows.laid_interleave_token_keywords)] W):∀g cells,G g=Z cells→mX (λ_=>False) W (.H cells 0) (.pointer (Z ⟨g,0,U⟩)):=by
 intro g cells hG;unfold G at hG;split at hG
 .rename_i hg;have hg:=eq_of_beq hg;subst hg;cases hG;rw[MakeChecks.laidMetH_plain _ _ _ (by kernel_rfl)]at h;obtain⟨ps,⟨g0,t0,cs0,f0,p0,q0,N,ht0,hv0,hd0,_,_⟩,_,_⟩:=h;obtain rfl:=fK (gKw.symm.trans N);obtain rfl:=fK (tKw.symm.trans ht0);obtain⟨xs,m1,rfl,D,hlen,hn,hel⟩:=DataW.trod_array Tryz.underlying278 hd0;have c1:Tryz.prog.cellsOf 9=1:=by kernel_rfl
  have c22:Tryz.prog.cellsOf 278=22:=by kernel_rfl
  rw[c22]at hlen;simp only[aG,Rows.laid_interleave_token_keywords,DataW.agg.injEq]at D;have hxs:=D.1;have hcell:∀j,j<22→∃l,(xs.map (·.1))[j]? =Z (.lit (.string l))∧W.cell? ⟨0,j,U⟩=Z (.string ⟨l.toArray⟩):=λj L=>by
   have h1:=hel j L;rw[c1,Gx]at h1;rw[aD (by omega)]at h1;obtain⟨s,e1,e2,_⟩:=DataW.trod_string Tryz.underlying9 h1;refine ⟨s.data.toList,?_,?_⟩
   .rw[aT,aD (by omega),bm,e2]
   .have:=World.var?_cell N hv0 j;rw[this];have z:cs0.toList[j]? =Z (.string s):=by
     have:((cs0.toList.drop j).take 1)[0]? =Z (.string s):=by rw[e1];rfl
     rw[cS,aC (by omega),il]at this;simpa using this
    rw[← bE,z]
  have hb:0<W.heap.size:=by
   obtain⟨l,_,z⟩:=hcell 0 (by omega);exact World.block_lt_of_cell? W _ z
  refine .H Fa 0 0 0 (λj=>(W.cell? ⟨0,j,U⟩).getD undef) (λh=>h) hb (λx A=>?_) (λj L=>?_) (λj x A=>?_)
  .simp only[Fa,aZ,cu,fJ]at A;rcases A with rfl|rfl|rfl|rfl|rfl|rfl|rfl|rfl|rfl|rfl|rfl|rfl|rfl|rfl|rfl|rfl|rfl|rfl|rfl|rfl|rfl|rfl<;>rfl
  .obtain⟨l,_,z⟩:=hcell j L;rw[bF,z];rfl
  .have L:j<22:=(bi.1 A).1;obtain⟨l,h1,z⟩:=hcell j L;rw[← hxs]at h1;have:x= .raw (.string ⟨l.toArray⟩):=by
    rcases j with _|_|_|_|_|_|_|_|_|_|_|_|_|_|_|_|_|_|_|_|_|_|j;all_goals first|(simp only[dH,mG,af,DataW.lit.injEq,Lit.string.injEq,Fa]at h1 A;subst h1 A;rfl)|omega
   rw[this,z];exact .raw _
 .cases hG
end
end Go.Proofs.YtcmnmakaoonfgaaGreatDoor.AI
