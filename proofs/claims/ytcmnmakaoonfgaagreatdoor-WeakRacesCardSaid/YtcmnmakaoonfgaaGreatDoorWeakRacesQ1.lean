/-
  Texts of the proof, part 2 of 6: what is used to prove the statement. No condition.
-/
import Derived.Test.YtcmnmakaoonfgaaGreatDoorWeakRacesQ0
namespace Go.Proofs.YtcmnmakaoonfgaaGreatDoor.AI
open Go.RowKit
set_option maxRecDepth 100000
set_option maxHeartbeats 4000000
set_option linter.unusedVariables false
set_option linter.unusedSimpArgs false
set_option linter.defProp false
open _root_.Bool renaming true→J,false→af
open Call renaming operands→eX
open _root_.Int renaming toNat→aN,ofNat→aS
open _root_.List renaming length→l!,length→aj,replicate→aG,take→dE,range→dG,map→gE,cons_append→gJ,toArray→jG,length_cons→jX,nil_append→kW,set→oI,length_nil→pK,append→sS,take_succ_cons→yh,replicate_succ→yi,map_drop→zU,getElem?_cons_succ→Bu,map_nil→C3,flatMap_append→Ko
open _root_.Nat renaming beq→aB,testBit→aO,add_zero→dI,blt→eJ,ble→eK,min→lQ,mod_eq_of_lt→xd,mul_one→Hy,blt_eq→Po
open Oper renaming wp→Lk
open _root_.Option renaming some→Z,none→U,bind_some→aD,map_some→bx,map→ie
open Value.bool renaming injEq→Fn
open World renaming cell?→Sl
noncomputable section
variable {R:Type}
def PT.mapO {β:Type} (g:R->M β):PT R->PT β
 |.leaf=>.leaf
 |.node v l r=>.node (v.bind g) (PT.mapO g l) (PT.mapO g r)
def PT.get_mapO {β:Type} (g:R->M β):∀(t:PT R) (i:Nat),(PT.mapO g t).get i=(t.get i).bind g
 |.leaf,i|.node v l r,0=>by simp[PT.mapO,PT.get]
 |.node v l r,j+1=>by
  simp[PT.mapO,PT.get];split
  .exact PT.get_mapO g l _
  .exact PT.get_mapO g r _
def PT.get_updI (f:Nat->R->R):∀(t:PT R) (a b i:Nat),(PT.updI f a b t).get i=(t.get i).map (f (a*i+b))
 |.leaf,_,_,i=>by simp[PT.updI,PT.get]
 |.node v l r,a,b,0=>by cases v<;>simp[PT.updI,PT.get]
 |.node v l r,a,b,j+1=>by
  simp only[PT.updI,PT.get];split
  .rename_i z;rw[PT.get_updI f l];have:2*a*(j/2)+(a+b)=a*(j+1)+b:=by
    have A:j=2*(j/2):=by have:=av z;omega
    grind
   rw[this]
  .rename_i z;rw[PT.get_updI f r];have:2*a*(j/2)+(2*a+b)=a*(j+1)+b:=by
    have h1:j%2≠0:=λh=>z (by rw[h];rfl)
    have A:j=2*(j/2)+1:=by omega
    grind
   rw[this]
def PT.bound :∀(t:PT R),∃B,∀i,B<=i->t.get i=U
 |.leaf=>⟨0,λi _=>rfl⟩
 |.node v l r=>by
  let⟨a,A⟩:=PT.bound l;let⟨b,z⟩:=PT.bound r;refine ⟨2*(a+b)+3,λi hi=>?_⟩;cases i with
  |zero=>omega
  |succ j=>
   simp[PT.get]
   grind
def PT.ofF (f:Nat->M R):Nat->PT R
 |0=>.leaf
 |n+1=>(PT.ofF f n).set n (f n)
def PT.get_ofF (f:Nat->M R):∀(n i:Nat),(PT.ofF f n).get i=if i<n then f i else U
 |0,i=>by simp[PT.ofF,PT.get]
 |n+1,i=>by
  rw[PT.ofF,PT.get_set,PT.get_ofF f n]
  grind
def jE (i k:Nat):Nat:=2^i*(2*k+1)-1
def nm (i:Nat):Nat:=jE i 0
def owA:Nat->Nat->Nat
 |0,_=>0
 |f+1,m=>if m%2=1 then 0 else owA f (m/2)+1
def ow (n:Nat):Nat:=owA (n+1) (n+1)
def ix (n:Nat):Nat:=(n+1)/2^ow n/2
def abj:∀(i f k:Nat),i<f->owA f (2^i*(2*k+1))=i
 |0,f+1,k,_=>by rw[owA,aF (by omega)]
 |i+1,f+1,k,h=>by
  have e:2^(i+1)*(2*k+1)=2*(2^i*(2*k+1)):=by grind
  rw[owA,ax (by omega),e,Nat.mul_div_cancel_left _ (by omega),abj i f k (by omega)]
def abk:∀(f m:Nat),0<m->m<=f->2^owA f m*(2*(m/2^owA f m/2)+1)=m
 |0,m,h0,h=>by omega
 |f+1,m,h0,h=>by
  rw[owA];split
  .omega
  .have z:=abk f (m/2) (by omega) (by omega);rw[Nat.pow_succ,Nat.mul_comm (2^owA f (m/2)) 2,<-Nat.div_div_eq_div_mul,Nat.mul_assoc,z];omega
def aby (i k:Nat):0<2^i*(2*k+1):=Nat.mul_pos (Nat.two_pow_pos i) (by omega)
def iN (i k:Nat):ow (jE i k)=i:=by
 have h:=aby i k;have z:i<2^i*(2*k+1):=dC Nat.lt_two_pow_self (Nat.le_mul_of_pos_right _ (by omega));unfold ow jE;rw[Nat.sub_add_cancel h,abj _ _ _ z]
def wq (i k:Nat):ix (jE i k)=k:=by
 have h:=aby i k;unfold ix;rw[iN];unfold jE;rw[Nat.sub_add_cancel h,Nat.mul_div_cancel_left _ (Nat.two_pow_pos i)];omega
def kP (n:Nat):jE (ow n) (ix n)=n:=by
 have:=abk (n+1) (n+1) (by omega) (bI _);unfold jE ix ow;rw[this];rfl
variable {i:Nat}
def pw (h:ix i=0):i=nm (ow i):=by
 have:=kP i;rw[h]at this;exact this.symm
def dw (i:Nat):ow (nm i)=i:=iN i 0
def awt (i:Nat):ix (nm i)=0:=wq i 0
variable {j:Nat}
def vp {k l:Nat} (h:jE i k=jE j l):i=j/\k=l:=by
 have h1:=e_ ow h;have z:=e_ ix h;rw[iN,iN]at h1;rw[wq,wq]at z;exact⟨h1,z⟩
def uL (h:nm i=nm j):i=j:=(vp h).1
def dA (p:Bool) (id sz n:Nat):AV:=if p&&n==0 then .emp else .G (nm id) sz n
def pM (id:Nat) (j:Int):Nat:=jE id (3*j.toNat+1)
def uK (id:Nat) (j sz n:Nat):AV:=if n==0 then .emp else .G (jE id (j+1)) sz n
def KP:Sb->AV
 |.ob id j off=>.H (pM id j) off
 |.om id j b=>.mp (jE id (3*j.toNat+2+b))
 |.nr id j sz n=>uK id j.toNat sz n
 |.np id j sz i off=>.H (jE id (j.toNat+1)) (i.toNat*sz+off)
 |.nl=>.f (.raw (.map U))
mutual
def b_ (h:aZ):TV->M AV
 |.f T v=>Z (.f (gz T v))
 |.zd T xs j _ off=>Z (.f (.H (xs.flatMap (bM T)) (j.toNat*T.size+off)))
 |.zg id sz j off=>Z (.H (nm id) (j.toNat*sz+off))
 |.H id off=>Z (.H (nm id) off)
 |.qy id sz n=>Z (.G (nm id) sz n)
 |.G id=>match eR h id with|some (p,sz,n)=>Z (dA p id sz n)|none=>U
 |.zl id j=>match eR h id with|some (_,sz,n)=>Z (.sl (nm id) (j.toNat*sz) (n-j.toNat))|none=>U
 |.emp=>Z .emp
 |.nil=>Z (.f (.raw (.slice U 0 0)))
 |.mp id=>Z (.mp (nm id))
 |.agg l=>match cM h l with|some l'=>Z (.agg l')|none=>U
 |.qg l=>match cM h l with|some l'=>Z (.qg l')|none=>U
 |.qv g l=>match cM h l with|some l'=>Z (.qv g l')|none=>U
 |.undef=>Z (.f (.raw undef))
 |.np=>Z (.f (.raw (.pointer U)))
 |.qw=>Z .qw
 |.sb s=>Z (KP s)
def cM (h:aZ):Y TV->M (Y AV)
 |[]=>Z []
 |x::r=>match b_ h x with
  |some y=>(match cM h r with|some l=>Z (y::l)|none=>U)
  |none=>U
end
def r9:(K:Ty)->K.den->Value
 |.int k,n=>.int k n
 |.str,s=>.string ⟨jG s⟩
 |_,_=>undef
def mpC:(K V:Ty)->Y (K.den×V.den)->BC
 |.st (.pr .str (.int .i64)),.un,es=>.it ⟨jG (Pt es)⟩ (MP es)
 |K,V,es=>.mp (es.map λp=>(r9 K p.1,.f (gz V p.2)))
variable {T:Ty}
def E6 {V:Ty} {es:Y (T.den×V.den)} (h:aeh T=J):mpC T V es= .mp (es.map λp=>(r9 T p.1,.f (gz V p.2))):=by
 unfold mpC;split
 .cases h
 .rfl
def asy {V:Ty} {es:Y (T.den×V.den)} {s:ζ} (h:itE T V es=Z (s,i)):mpC T V es= .it ⟨jG s⟩ i:=by
 unfold itE at h;split at h
 .cases h;rfl
 .cases h
variable {s:TypeId}
def adr {es:Y l?} {ents:Array MapEntry} (f:AV->AV):MpK s (es.map λp=>(p.1,f p.2)) ents=MpK s es ents:=by unfold MpK;rw[kM];rfl
def YJ {l:Y R} {x:R} (h:i<l! l):splice l i [x]=l.set i x:=by
 rw[List.set_eq_take_append_cons_drop,aF h];simp[splice]
def aem (k:ν):Value:=.agg #[.int .i64 k.1,.int .i64 k.2]
def wV (a:Nat) (es:Y d?):Y l?:=es.map λe=>(aem e.1,.H (pM a e.2) 0)
def NC (a:Nat) (k:ν) (v:AV):Y d?->Y l?
 |[]=>[(aem k,v)]
 |e::r=>if k=e.1 then (aem k,v)::wV a r else (aem e.1,.H (pM a e.2) 0)::NC a k v r
def lM (a sz:Nat):Nat->η->Y AV
 |_,[]=>[]
 |k,l::r=>uK a k sz l.toNat::lM a sz (k+1) r
def uv (a:Nat):(F:uE)->F.ty.den->M kx
 |.qh ty,z=>if aj z==0 then U else Z ⟨ty,.mx (gE (λj=>.H (pM a j) 0) z)⟩
 |.zq,es=>Z ⟨0,.mp (wV a es)⟩
 |.rr ty sz,A=>Z ⟨ty,.mx (lM a sz 0 A)⟩
 |_,_=>U
def acm (a:Nat) (k:ν):(F:uE)->F.ty.den->M (Nat×Bool×Nat)->M kx
 |.zq,es,Z (p,_,_)=>Z ⟨0,.mp (NC a k (.H (nm p) 0) es)⟩
 |.rr ty sz,z,Z (r,b,n)=>Z ⟨ty,.mx ((lM a sz 0 z).set k.1.toNat (dA b r sz n))⟩
 |_,_,_=>U
def H3 (es:Y q!):Y l?:=es.map λe=>(.int .i64 e.1,.f (.raw (.bool e.2)))
def wE (id k:Nat) (ty:TypeId) (S:Ty) (o:S.den×Y (Int×Bool)×Y (Int×Bool)):kx:=
 if k%3=0 then ⟨ty,.mx ((bM S o.1).map .f++[.mp (jE id (k+2)),.mp (jE id (k+3))])⟩ else ⟨0,.mp (H3 (if k%3=1 then o.2.1 else o.2.2))⟩
def ZC (ty:TypeId) (T:Ty) (xs:Y T.den):M kx:=if (l! xs)==0 then U else Z ⟨ty,.fz (xs.flatMap (bM T))⟩
def ri (id k:Nat) (ty:TypeId) (S:Ty) (xs:Y (CU S)):M kx:=(xs[k/3]?).map (wE id k ty S)
def rh (k:Nat) (ty:TypeId) (T:Ty) (xss:Y (Y T.den)):M kx:=(xss[k]?).bind (ZC ty T)
def KN (id:Nat) (k:Nat):(F:uE)->F.ty.den->M kx
 |.ar ty S,xs=>ri id k ty S xs
 |.ir ty T,xss=>rh k ty T xss
 |_,_=>U
def wS (id k:Nat):fk->M kx
 |.I F _ x=>KN id k F x
 |.qm F _ x j U=>if k=j.1.toNat then U else KN id k F x
 |.qm F _ x _ (Z _)=>KN id k F x
 |_=>U
def ky (h:aZ):fk->M kx
 |.F ty p T xs=>if p&&l! xs==0 then U else Z ⟨ty,.fz (xs.flatMap (bM T))⟩
 |.C (Z ty) l=>match cM h l with|some l'=>Z ⟨ty,.mx l'⟩|none=>U
 |.C U l=>match cM h l with|some l'=>Z ⟨0,.mp []⟩|none=>U
 |.qj _ _ _=>U
 |.mp K V es=>Z ⟨0,mpC K V es⟩
 |.I F a x=>uv a F x
 |.qm F a x k p=>acm a k F x p
def fM (e:hX) (h:aZ):EF:=λt=>(e.get t).bind (b_ h)
def Pu (h:aZ) (id:Nat):Nat->fk->M kx
 |0,b=>ky h b
 |k+1,b=>wS id k b
def erHF (h:aZ):HF:=λn=>(h.get (ow n)).bind (Pu h (ow n) (ix n))
def bL (h:aZ) (i:Nat):erHF h (nm i)=(h.get i).bind (ky h):=by
 unfold erHF;rw[dw,awt];rfl
def kG (h:aZ) (i k:Nat):erHF h (jE i (k+1))=(h.get i).bind (wS i k):=by
 unfold erHF;rw[iN,wq];rfl
variable {h:aZ} {Q:kx}
def iR (z:erHF h i=Z Q):∃c,h.get (ow i)=Z c/\Pu h (ow i) (ix i) c=Z Q:=by
 unfold erHF at z;cases A:h.get (ow i) with
 |none=>rw[A]at z;cases z
 |some c=>rw[A]at z;exact⟨c,rfl,z⟩
def H0:fk->Nat
 |.I (.ar _ _) _ x=>3*aj x
 |.I (.ir _ _) _ x=>aj x
 |.qm (.ar _ _) _ x _ _=>3*aj x
 |.qm (.ir _ _) _ x _ _=>aj x
 |_=>0
def acn {id:Nat} {F:uE} {x:F.ty.den} (A:KN id i F x=Z Q) (a:Nat):i<H0 (.I F a x):=by
 cases F with
 |ar ty S=>
  let⟨o,z,_⟩:=gu.1 A;have:=(bA.1 z).1;simp[H0];omega
 |ir ty T=>
  let⟨o,z,_⟩:=Option.bind_eq_some_iff.1 A;exact (bA.1 z).1
 |_=>cases A
def ac4 {c:fk} (z:wS i j c=Z Q):j<H0 c:=by
 cases c with
 |I F a x=>exact acn (id:=i) z a
 |qm F a x k p=>
  have:KN i j F x=Z Q:=by
   cases p with
   |none=>simp only[wS]at z;split at z;cases z;exact z
   |some q=>exact z
  have:=acn (id:=i) this a;cases F<;>exact this
 |_=>cases z
def DK (e:hX) (h:aZ):ED:=PT.mapO (b_ h) e
def Dl (e:hX) (h:aZ):(DK e h).get=fM e h:=by funext t;exact PT.get_mapO _ _ _
def aoa (L:∀y c,h.get y=Z c->H0 c<=i) (D:erHF h j=Z Q):ix j<=i:=by
 let⟨c,h1,z⟩:=iR D;have:=L _ c h1;cases A:ix j with
 |zero=>omega
 |succ k=>
  rw[A]at z;have:=ac4 z;omega
def ac3 (h:aZ):∃y,∀i c,h.get i=Z c->H0 c<=y:=by
 let⟨B,N⟩:=PT.bound h;have:∀B,∃y,∀i c,i<B->h.get i=Z c->H0 c<=y:=by
  intro B;induction B with
  |zero=>exact⟨0,λi c hi=>by omega⟩
  |succ B D=>
   let⟨y,A⟩:=D;cases L:h.get B with
   |none=>exact⟨y,λi c hi z=>by
     by_cases e:i=B
     .grind
     .exact A i c (by omega) z⟩
   |some b=>exact⟨max y (H0 b),λi c hi z=>by
     by_cases e:i=B
     .grind
     .have:=A i c (by omega) z;omega⟩
 let⟨y,A⟩:=this B;refine ⟨y,λi c z=>A i c ?_ z⟩
 grind
def gM (h:aZ):∃H:mU,H.get=erHF h:=by
 let⟨B,hB⟩:=PT.bound h;let⟨y,L⟩:=ac3 h;refine ⟨PT.ofF (erHF h) (2^B*(2*y+2)),?_⟩;funext n;rw[PT.get_ofF];split
 .rfl
 .rename_i hn;cases A:erHF h n with
  |none=>rfl
  |some b=>
   let⟨c,h1,z⟩:=iR A;have N:ow n<B:=by grind
   have hi:ix n<=y:=by
    have:=L _ c h1;cases D:ix n with
    |zero=>omega
    |succ k=>
     rw[D]at z;have:=ac4 z;omega
   have he:=kP n;unfold jE at he;have h3:2^ow n*(2*ix n+1)<=2^B*(2*y+2):=Nat.mul_le_mul (Nat.pow_le_pow_right (by omega) (by omega)) (by omega)
   grind
variable {r:Y TV} {u:TV} {B:Y AV}
def c9 (he:cM h (u::r)=Z B):∃y l',B=y::l'/\b_ h u=Z y/\cM h r=Z l':=by
 simp[cM]at he
 grind
variable {y:AV}
def qC (h1:b_ h u=Z y) (z:cM h r=Z B):cM h (u::r)=Z (y::B):=by
 simp[cM,h1,z]
def iC :∀{l:Y TV} {l':Y AV},cM h l=Z l'->l! l'=l! l
 |[],l',he=>by simp[cM,ah]at he;subst he;rfl
 |x::r,l',he=>by
  obtain⟨y,A,rfl,_,z⟩:=c9 he;simp[iC z]
def oF :∀{a b:Y TV} {A b':Y AV},cM h a=Z A->cM h b=Z b'->cM h (a++b)=Z (A++b')
 |[],b,A,b',z,D=>by simp[cM,ah]at z;subst z;exact D
 |x::r,b,A,b',z,D=>by
  obtain⟨y,N,rfl,h1,L⟩:=c9 z;exact qC h1 (oF L D)
def Ff :∀{a b:Y TV} {l:Y AV},cM h (a++b)=Z l->∃z b',l=z++b'/\cM h a=Z z/\cM h b=Z b'
 |[],b,l,he=>⟨[],l,rfl,rfl,he⟩
 |x::r,b,l,he=>by
  obtain⟨y,N,rfl,h1,L⟩:=c9 he;obtain⟨z,b',rfl,D,A⟩:=Ff L;exact⟨y::z,b',rfl,qC h1 D,A⟩
def Ix :∀{l:Y TV} {l':Y AV} (n:Nat),cM h l=Z l'->cM h (l.take n)=Z (l'.take n)
 |[],l',n,he=>by simp[cM,ah]at he;subst he;simp[cM]
 |x::r,l',n,he=>by
  obtain⟨y,A,rfl,h1,z⟩:=c9 he;cases n with
  |zero=>simp[cM]
  |succ n=>exact qC h1 (Ix n z)
def Iz :∀{l:Y TV} {l':Y AV} (n:Nat),cM h l=Z l'->cM h (l.drop n)=Z (l'.drop n)
 |[],l',n,he=>by simp[cM,ah]at he;subst he;simp[cM]
 |x::r,l',n,he=>by
  obtain⟨y,A,rfl,h1,z⟩:=c9 he;cases n with
  |zero=>exact he
  |succ n=>simpa using Iz n z
def rk {vs:Y TV} {vs':Y AV} (off:Nat) (h1:cM h r=Z B) (z:cM h vs=Z vs'):cM h (splice r off vs)=Z (splice B off vs'):=by
 unfold splice;rw[iC z];exact oF (oF (Ix _ h1) z) (Iz _ h1)
def me :∀{l:Y TV} {l':Y AV},cM h l=Z l'->∀(j:Nat) x,l[j]? =Z x->∃y,l'[j]? =Z y/\b_ h x=Z y
 |[],l',he,j,x,D=>by simp at D
 |x::r,l',he,j,z,A=>by
  obtain⟨y,N,rfl,h1,L⟩:=c9 he;cases j with
  |zero=>simp at A;subst A;exact⟨y,rfl,h1⟩
  |succ j=>simpa using me L j z (by grind)
mutual
def pq (h:aZ):∀(u:TV),PL h u=J->∃y,b_ h u=Z y
 |.f _ _,_|.zd _ _ _ _ _,_|.zg _ _ _ _,_|.H _ _,_|.qy _ _ _,_=>⟨_,rfl⟩
 |.G id,he|.zl id jj,he=>by
  simp[PL]at he;cases hr:eR h id with
  |none=>rw[hr]at he;cases he
  |some r=>obtain⟨p,sz,n⟩:=r;exact⟨_,by simp[b_,hr];rfl⟩
 |.emp,_|.nil,_|.mp _,_=>⟨_,rfl⟩
 |.agg l,he|.qg l,he|.qv g l,he=>by obtain⟨y,hy⟩:=fF h l he;exact⟨_,by simp[b_,hy];rfl⟩
 |.undef,_|.np,_|.qw,_|.sb _,_=>⟨_,rfl⟩
def fF (h:aZ):∀(l:Y TV),lN h l=J->∃l',cM h l=Z l'
 |[],_=>⟨[],rfl⟩
 |x::r,he=>by
  simp[lN,au]at he;obtain⟨y,hy⟩:=pq h x he.1;obtain⟨l',hl⟩:=fF h r he.2;exact⟨_,qC hy hl⟩
end
def bY (h h':aZ):Prop:=∀id r,eR h id=Z r->eR h' id=Z r
mutual
def fU {h h':aZ} (hk:bY h h'):∀(u:TV) (y:AV),b_ h u=Z y->b_ h' u=Z y
 |.f _ _,y,he=>he
 |.zd _ _ _ _ _,y,he=>he
 |.zg _ _ _ _,y,he=>he
 |.H _ _,y,he=>he
 |.qy _ _ _,y,he=>he
 |.G id,y,he|.zl id jj,y,he=>by
  simp[b_]at he ⊢;split at he
  .rename_i p sz n hr;rw[hk _ _ hr];exact he
  .cases he
 |.emp,y,he=>he
 |.nil,y,he=>he
 |.mp _,y,he=>he
 |.agg l,y,he|.qg l,y,he|.qv g l,y,he=>by
  simp[b_]at he ⊢;split at he
  .rename_i l' hl;rw[gV hk l l' hl];exact he
  .cases he
 |.undef,y,he=>he
 |.np,y,he=>he
 |.qw,y,he=>he
 |.sb _,y,he=>he
def gV {h h':aZ} (hk:bY h h'):∀(l:Y TV) (l':Y AV),cM h l=Z l'->cM h' l=Z l'
 |[],l',he=>he
 |x::r,l',he=>by
  obtain⟨y,l2,rfl,h1,h2⟩:=c9 he;exact qC (fU hk x y h1) (gV hk r l2 h2)
end
mutual
def mX {h h':aZ} (hk:bY h h'):∀(u:TV),PL h u=J->PL h' u=J
 |.f _ _,_|.zd _ _ _ _ _,_|.zg _ _ _ _,_|.H _ _,_|.qy _ _ _,_=>rfl
 |.G id,he|.zl id jj,he=>by
  simp[PL]at he ⊢;cases hr:eR h id with
  |none=>rw[hr]at he;cases he
  |some r=>rw[hk _ _ hr];rfl
 |.emp,_|.nil,_|.mp _,_=>rfl
 |.agg l,he|.qg l,he|.qv g l,he=>fy hk l he
 |.undef,_|.np,_|.qw,_|.sb _,_=>rfl
def fy {h h':aZ} (hk:bY h h'):∀(l:Y TV),lN h l=J->lN h' l=J
 |[],_=>rfl
 |x::r,he=>by
  simp[lN,au]at he ⊢;exact⟨mX hk x he.1,fy hk r he.2⟩
end
mutual
def Iw (h:aZ):∀(u:TV) (y:AV),b_ h u=Z y->PL h u=J
 |.f _ _,_,_|.zd _ _ _ _ _,_,_|.zg _ _ _ _,_,_|.H _ _,_,_|.qy _ _ _,_,_=>rfl
 |.G id,y,he|.zl id jj,y,he=>by
  simp[PL,b_]at he ⊢;cases hr:eR h id with
  |none=>rw[hr]at he;cases he
  |some r=>rfl
 |.emp,_,_|.nil,_,_|.mp _,_,_=>rfl
 |.agg l,y,he|.qg l,y,he|.qv g l,y,he=>by
  simp[b_]at he;split at he
  .rename_i l' hl;exact lT h l l' hl
  .cases he
 |.undef,_,_|.np,_,_|.qw,_,_|.sb _,_,_=>rfl
def lT (h:aZ):∀(l:Y TV) (l':Y AV),cM h l=Z l'->lN h l=J
 |[],_,_=>rfl
 |x::r,l',he=>by
  obtain⟨y,l2,rfl,h1,h2⟩:=c9 he;simp[lN,au];exact⟨Iw h x y h1,lT h r l2 h2⟩
end
mutual
def WJ (h h':aZ):∀(u:TV),wu u=J->b_ h u=b_ h' u
 |.f _ _,_|.zd _ _ _ _ _,_|.zg _ _ _ _,_|.H _ _,_|.qy _ _ _,_=>rfl
 |.G id,he=>by cases he
 |.emp,_|.nil,_|.mp _,_=>rfl
 |.agg l,he|.qg l,he=>by simp[b_];rw[Iy h h' l he]
 |.qv g l,he=>by cases he
 |.undef,_|.np,_|.qw,_=>rfl
 |.sb _,he=>by cases he
def Iy (h h':aZ):∀(l:Y TV),sd l=J->cM h l=cM h' l
 |[],_=>rfl
 |x::r,he=>by
  simp[sd,au]at he;simp[cM];rw[WJ h h' x he.1,Iy h h' r he.2]
end
def Tl (he:b_ h u=Z y) (A:u.isC=J):y.isCell=J:=by
 cases u with
 |f T v=>cases T<;>simp[b_,ah]at he<;>subst he<;>first|rfl|(simp [TV.isC,Ty.one]at A)
 |G id=>
  simp[b_]at he;split at he
  .simp[ah]at he;subst he;unfold dA;split<;>rfl
  .cases he
 |zl id D|agg l|qg l|undef|qw=>cases A
 |qv g l=>
  simp[b_]at he;split at he
  .simp[ah]at he;subst he;rfl
  .cases he
 |sb s=>simp[b_,ah]at he;subst he;cases s<;>first|rfl|(simp [KP,uK];split<;>rfl)
 |_=>simp[b_,ah]at he;subst he;rfl
def tV :∀{l:Y TV} {l':Y AV},cM h l=Z l'->lJ l=J->gG l'=J
 |[],l',he,_=>by simp[cM,ah]at he;subst he;rfl
 |x::r,l',he,z=>by
  obtain⟨y,D,rfl,h1,A⟩:=c9 he;simp[lJ,au]at z;simp[gG,au];exact⟨Tl h1 z.1,tV A z.2⟩
def Le (x y:AV):Prop:=∀(φ:PM) (O:Nat->Prop) (w:World) (v:Value),cz φ O w x v->cz φ O w y v
def Le.refl (x:AV):Le x x:=λ_ _ _ _ h=>h
def kr (H H':HF) (x y:AV):Prop:=∀(φ:PM) (E:Nat->Prop) (w:World) (v:Value),sE φ E H w->cz φ (tot E φ H) w x v->cz φ (tot E φ H') w y v
def rA (H H':HF):Prop:=∀i b,H' i=Z b->∃b0,H i=Z b0
def rA.refl (H:HF):rA H H:=λ_ b h=>⟨b,h⟩
variable {A:HF} {V:PM}
def rA.own {H':HF} (d:rA A H') (h:own V H' i):own V A i:=by
 let⟨k,b,h1,H⟩:=h;let⟨b0,z⟩:=d k b h1;exact⟨k,b0,z,H⟩
variable {O:Nat->Prop}
def rA.tot {H':HF} (d:rA A H') (h:tot O V H' i):tot O V A i:=h.imp id d.own
variable {w:World} {v:Value}
def cz.dom {H':HF} (d:rA A H') (h:cz V (tot O V A) w y v):cz V (tot O V H') w y v:=
 h.ext (λ_ _ h=>h) (I3.refl _ w) λ_ _ z=>d.tot z
def nN.dom {H':HF} (d:rA A H') {x:FV} (h:nN (tot O V A) w x v):nN (tot O V H') w x v:=
 h.ext (I3.refl _ w) λ_ _ z=>d.tot z
def Le.toH {H':HF} (d:rA A H') {x:AV} (h:Le x y):kr A H' x y:=λφ E w v _ z=>(h _ _ _ _ z).dom d
def kr.refl {H':HF} (d:rA A H') (x:AV):kr A H' x x:=(Le.refl x).toH d
def gX (H H':HF):Y AV->Y AV->Prop
 |[],[]=>True
 |x::xs,y::z=>kr H H' x y/\gX H H' xs z
 |_,_=>False
def gX.refl {H':HF} (d:rA A H'):∀l,gX A H' l l
 |[]=>trivial
 |x::r=>⟨kr.refl d x,gX.refl d r⟩
def gX.length {H':HF}:∀{l l':Y AV},gX A H' l l'->l! l'=l! l
 |[],[],_=>rfl
 |[],_::_,h|_::_,[],h=>h.elim
 |_::_,_::_,h=>by simp[gX.length h.2]
def gX.get {H':HF}:∀{l l':Y AV},gX A H' l l'->∀(j:Nat) y,l'[j]? =Z y->∃x,l[j]? =Z x/\kr A H' x y
 |[],[],_,j,y,H=>by simp at H
 |[],_::_,h,_,_,_|_::_,[],h,_,_,_=>h.elim
 |x::xs,z::ys,h,j,y,H=>by
  cases j with
  |zero=>simp at H;subst H;exact⟨x,rfl,h.1⟩
  |succ j=>simpa using gX.get h.2 j y (by grind)
def gX.append {H':HF}:∀{a z b b':Y AV},gX A H' a z->gX A H' b b'->gX A H' (a++b) (z++b')
 |[],[],_,_,_,h=>h
 |[],_::_,_,_,h,_|_::_,[],_,_,h,_=>h.elim
 |_::_,_::_,_,_,h,h'=>⟨h.1,gX.append h.2 h'⟩
def gX.take {H':HF}:∀{a z:Y AV} (n:Nat),gX A H' a z->gX A H' (a.take n) (z.take n)
 |[],[],n,_=>by simp[gX]
 |[],_::_,_,h|_::_,[],_,h=>h.elim
 |_::_,_::_,0,_=>trivial
 |_::_,_::_,n+1,h=>⟨h.1,gX.take n h.2⟩
def gX.drop {H':HF}:∀{a z:Y AV} (n:Nat),gX A H' a z->gX A H' (a.drop n) (z.drop n)
 |[],[],n,_=>by simp[gX]
 |[],_::_,_,h|_::_,[],_,h=>h.elim
 |_::_,_::_,0,h=>h
 |_::_,_::_,n+1,h=>gX.drop n h.2
def gX.splice {H':HF} {H b b':Y AV} (off:Nat) (h1:gX A H' B H) (z:gX A H' b b'):gX A H' (splice B off b) (splice H off b'):=by
 unfold AI.splice;rw[z.length];exact ((h1.take off).append z).append (h1.drop _)
def gr (H H':HF) (b b':kx):Prop:=∀(φ:PM) (E:Nat->Prop) (w:World) (o:Obj),sE φ E H w->ic φ (tot E φ H) w b o->ic φ (tot E φ H') w b' o
def gr.refl {H':HF} (d:rA A H') (b:kx):gr A H' b b:=λ_ _ _ _ _ h=>h.mono λ_ _ h=>h.dom d
def qV {c:BC} {o:Obj} (z:c.isCells=J):ic V O w ⟨s,c⟩ o↔∃arr,o= .cells arr s (0,0)/\vH V O w c arr:=by
 cases c<;>simp[BC.isCells]at z<;>rfl
def gr.C {H':HF} {c H:BC} (L:c.isCells=J) (z:H.isCells=J) (hl:gX A H' c.toMx H.toMx) (hcell:∀x∈H.toMx,x.isCell=J):gr A H' ⟨s,c⟩ ⟨s,H⟩:=by
 intro φ E w o hrep N;rw[qV L]at N;rw[qV z];let⟨arr,h1,h2,h3⟩:=N;refine ⟨arr,h1,by rw[BC.len_toMx z,hl.length,<-BC.len_toMx L];exact h2,λj x D=>?_⟩;rw[BC.get_toMx z]at D;refine ⟨hcell x (ba D),?_⟩;let⟨y,hy,hle⟩:=hl.get j x D;let⟨_,v,h5,h6⟩:=h3 j y (by rw[BC.get_toMx L];exact hy);exact⟨v,h5,hle _ _ _ _ hrep h6⟩
def akl (ty:M TypeId) (l:Y AV):kx:=match ty with
 |some ty=>⟨ty,.mx l⟩
 |none=>⟨0,.mp []⟩
def gr.none {H':HF}:gr A H' ⟨0,.mp []⟩ ⟨0,.mp []⟩:=by
 intro φ E w o hrep H;let⟨ents,clock,h1,D,L⟩:=H;exact⟨ents,clock,h1,D,λj x z=>by cases z⟩
def gr.eq {H':HF} (d:rA A H') {c D:BC} (H:c.isCells=J) (z:D.isCells=J) (hl:c.toMx=D.toMx):gr A H' ⟨s,c⟩ ⟨s,D⟩:=by
 intro φ E w o hrep N;rw[qV H]at N;rw[qV z];let⟨arr,h1,h2,h3⟩:=N;refine ⟨arr,h1,by rw[BC.len_toMx z,<-hl,<-BC.len_toMx H];exact h2,λj x L=>?_⟩;rw[BC.get_toMx z,<-hl,<-BC.get_toMx H]at L;let⟨h4,v,h5,h6⟩:=h3 j x L;exact⟨h4,v,h5,h6.dom d⟩
structure O5 (H H':HF):Prop where
 dom:rA H H'
 jd:∀i b b',H i=Z b->H' i=Z b'->gr H H' b b'
def O5.refl (H:HF):O5 H H:=⟨rA.refl H,λi b b' h h'=>by rw[h]at h';cases h';exact gr.refl (rA.refl H) b⟩
def O5.zk {H':HF} (φ:O5 A H') (r:sE V O A w):sE V O H' w:=by
 refine ⟨λi j b b' k H g2 g3 g4=>?_,λi b H=>?_,r.el,λg cells N=>(r.gl g cells N).dom φ.dom⟩
 .obtain⟨b0,z⟩:=φ.dom i b H;let⟨b1,D⟩:=φ.dom j b' g2;exact r.inj i j b0 b1 k z D g3 g4
 .obtain⟨b0,z⟩:=φ.dom i b H;let⟨k,L,p2,ob,p3,p4⟩:=r.at_ i b0 z;exact⟨k,L,p2,ob,p3,φ.jd i b0 b z H V O w ob r p4⟩
variable {P:Program}
def gO.view {o:Oper} {e:EF} {h:HF} {val':AV} {rd z wr' N:ι} {nw':HF} (ht:gO P o e h ⟨y,rd,z,A,N⟩) (hsub:∀i∈z,i∈wr'\/i∈rd)
 (hv:∀h':HF,(∀i∈rd,h' i=h i)->(∀i∈wr',h' i=h i)->O5 (fw h' z A) (fw h' wr' nw')/\kr (fw h' z A) (fw h' wr' nw') y val'):gO P o e h ⟨val',rd,wr',nw',N⟩:=by
 intro φ E h' w a h1 L h3 h4 h5;have hw:=ht φ E h' w a h1 (λi hi=>(hsub i hi).elim (L i) (h1 i)) h3 h4 h5;let⟨V,hle⟩:=hv h' h1 L;refine UR ?_ hw;rintro a' w' ⟨v,φ',rfl,mv,nm',D,rel⟩;exact⟨v,φ',rfl,⟨mv.sub,mv.ext,λk hk ho=>mv.zw k hk (V.dom.own ho)⟩,nm',V.zk D,hle _ _ _ _ D rel⟩
def Le.nil:Le (.f (.raw (.slice U 0 0))) (.f (.sl [] 0)):=by
 intro φ O w v z;cases z with
 |f z=>cases z;exact .f (.nil U 0 (by simp))
def Le.emp:Le .emp (.f (.sl [] 0)):=by
 intro φ O w v z;cases z with
 |emp=>exact .f (.nil _ 0 (by unfold maxLen;omega))
def Le.nilEmp:Le (.f (.raw (.slice U 0 0))) .emp:=by
 intro φ O w v z;cases z with
 |f z=>cases z;exact .emp
def Le.aggF {l:Y FV}:Le (.f (.agg l)) (.agg (l.map .f)):=by
 intro φ O w v A;cases A with
 |f A=>
  cases A with
  |agg _ vs hl hcl hrr=>
   refine .agg (by grind) (λx z=>?_) λj x u z N=>?_
   .obtain⟨y,L,rfl⟩:=cu.1 z;exact hcl y L
   .rw[bE]at z;cases D:l[j]? with
    |none=>rw[D]at z;cases z
    |some y=>rw[D]at z;simp at z;subst z;exact .f (hrr j y u D N)
def aiw (l:Y AV):Le (Rv l) (.agg l):=by
 unfold Rv;split
 next z h=>rw[nI h];exact Le.aggF
 .exact Le.refl _
def kr.aggL {H':HF} {l':Y FV} (h:gX A H' B (l'.map .f)) (N:∀x∈l',x.isCell=J):kr A H' (.agg B) (.f (.agg l')):=by
 intro φ E w v hrep D;cases D with
 |@agg _ vs L hcl hrr=>
  refine .f (.agg l' vs (by rw[L,<-h.length];simp) N λj y u hy H=>?_);let⟨x,z,hle⟩:=h.get j (.f y) (by grind);have:=hle φ E w u hrep (hrr j x u z H);cases this with
  |f h=>exact h
def kr.G {H':HF} (d:rA A H') {n:Nat} {cells:Y FV} (h1:A i=Z ⟨s,.fz cells⟩) (h2:H' i=U) (hl:l! cells=n*j):kr A H' (.G i j n) (.f (.sl cells n)):=by
 intro φ E w v r hr;cases hr with
 |@G _ _ _ c k hφ hn hcap hsh=>
  let⟨k',L,q2,_⟩:=r.at_ i _ h1;rw[hφ]at L;cases L;let⟨arr,N,p2,p3⟩:=r.cs h1 hφ rfl;have hk:k<w.heap.size:=(dD.1 N).1;have hlen:l! cells<=arr.size:=by simpa[BC.toMx] using p3
  have hnk:¬tot E φ H' k:=by
   rintro (hE|⟨sz,b,D,H⟩)
   .exact q2 hE
   .obtain⟨b0,g3⟩:=d sz b D;have:=r.inj sz i b0 _ k g3 h1 H hφ
    grind
  have hget:∀(sz:Nat) x,cells[sz]? =Z x->∃u,arr[sz]? =Z u/\nN (tot E φ A) w x u:=λsz x z=>by
   have hj:sz<l! cells:=(bA.1 z).1;have hja:sz<arr.size:=by omega
   refine ⟨arr[sz],by simp[hja],?_⟩;have:=p2.2.2 sz (.f x) arr[sz] (by simp[BC.toMx,z]) (by
    rw[gx,aF (by simpa[BC.toMx] using hj),dj];simp[hja])
   cases this with
   |f h=>exact h
  refine .f (.sl cells n c k 0 (λsz=>(arr[sz]?).getD undef) hn hcap hnk hk (λx z=>?_) (λsz hj=>?_) (λsz x z=>?_))
  .have:=p2.2.1 (.f x) (by simp only[BC.toMx];exact cu.2 ⟨x,z,rfl⟩);exact this
  .have:sz<arr.size:=by omega
   simp[Sl,N,this]
  .obtain⟨u,D,H⟩:=hget sz x z;rw[D];exact H.dom d
def uw:∀l:Y Xp,NI l=l.flatMap yW
 |[]=>rfl
 |x::r=>by rw[NI,uw r];rfl
def Cm:∀l:Y Sx,NH l=l.flatMap Bg
 |[]=>rfl
 |x::r=>by rw[NH,Cm r];rfl
def NG (e:Xp):bM RK (Sr e)=yW e:=by
 cases e with
 |mk op n name l=>simp only[RK,Sr,bM,yW,Xp.op,Xp.n,Xp.name,Xp.l,uw];rfl
def W2 (x:RK.den):yW (eO x)=bM RK x:=by
 simp only[RK,eO,bM,yW,uw];rfl
def NF (e:Sx):bM Rf (Sq e)=Bg e:=by
 cases e with
 |mk op line name arg index expr body els=>simp only[Rf,Sq,bM,Bg,Sx.op,Sx.line,Sx.name,Sx.arg,Sx.index,Sx.expr,Sx.body,Sx.els,uw,Cm];rfl
def W1 (x:Rf.den):Bg (oY x)=bM Rf x:=by
 simp only[Rf,oY,bM,Bg,uw,Cm];rfl
def AA (e:Xp):l! (yW e)=4:=by cases e;simp[yW]
def Gz (e:Sx):l! (Bg e)=11:=by cases e;simp[Bg,AA]
def bu:∀(T:Ty) (v:T.den),l! (bM T v)=T.size
 |.int _,_|.bool,_|.str,_|.sl _,_=>rfl
 |.st t,v=>bu t v
 |.pr a b,v=>by simp[bM,Ty.size,bu a,bu b]
 |.un,_=>rfl
 |.ex,v=>AA v
 |.sm,v=>Gz v
def NJ (e:Xp):∀x∈yW e,x.isCell=J:=by
 cases e with
 |mk op n name l=>
  intro x z;simp[yW,a_,cD,fH]at z;rcases z with rfl|rfl|rfl|rfl<;>rfl
def ZI (e:Sx):∀x∈Bg e,x.isCell=J:=by
 cases e with
 |mk op line name arg index expr body els=>
  intro x z;simp only[Bg,bO,a_,cD,fH]at z;rcases z with (z|z)|z
  .rcases z with rfl|rfl|rfl|rfl|rfl<;>rfl
  .exact NJ _ _ z
  .rcases z with rfl|rfl<;>rfl
def ph:∀(T:Ty) (v:T.den),∀x∈bM T v,x.isCell=J
 |.int _,_,x,z|.bool,_,x,z|.str,_,x,z|.sl _,_,x,z=>by simp[bM,aC]at z;subst z;rfl
 |.st t,v,x,z=>ph t v x z
 |.pr a b,v,x,z=>by
  simp[bM,bO]at z;exact z.elim (ph a v.1 x) (ph b v.2 x)
 |.un,_,x,z=>by simp[bM]at z
 |.ex,v,x,z=>NJ v x z
 |.sm,v,x,z=>ZI v x z
def NK:∀(T:Ty) (v:T.den),T.one=J->bM T v=[gz T v]/\T.size=1
 |.int _,_,_|.bool,_,_|.str,_,_|.sl _,_,_=>⟨rfl,rfl⟩
 |.st _,_,h|.pr _ _,_,h|.un,_,h|.ex,_,h|.sm,_,h=>by cases h
def ux:∀(T:Ty) (v:T.den),T.one=af->gz T v= .agg (bM T v)
 |.int _,_,h|.bool,_,h|.str,_,h|.sl _,_,h=>by cases h
 |.st _,_,_|.pr _ _,_,_|.un,_,_|.ex,_,_|.sm,_,_=>rfl
def Dn (T:Ty) (v:T.den):(AV.f (gz T v)).cs=(bM T v).map .f:=by
 cases h:T.one with
 |true=>
  cases T<;>simp[Ty.one]at h<;>first|rfl|cases h
 |false=>rw[ux T v h];rfl
def fx {f:R->Y FV} (hf:∀x,l! (f x)=i):∀(xs:Y R),l! (xs.flatMap f)=l! xs*i
 |[]=>by simp
 |x::r=>by rw[f_,bz,hf,fx hf r,jX,jF];omega
def Is {f:R->Y FV} (hf:∀x,l! (f x)=i):∀(xs:Y R) (j:Nat) (x:R),xs[j]? =Z x->∃r,(xs.flatMap f).drop (j*i)=f x++r
 |[],j,x,h=>by simp at h
 |y::r,j,x,h=>by
  cases j with
  |zero=>simp at h;subst h;exact⟨r.flatMap f,by simp⟩
  |succ j=>
   let⟨q,z⟩:=Is hf r j x (by grind);refine ⟨q,?_⟩;rw[f_,show (j+1)*i=l! (f y)+j*i from by rw[hf,jF];omega,xg];simp[z]
def Nr {f:R->Y FV} (hf:∀x,l! (f x)=i):∀(xs:Y R) (j:Nat) (x z:R),xs[j]? =Z x->∀(off:Nat) (vs:Y FV),off+l! vs<=i->f z=AI.splice (f x) off vs->(xs.set j z).flatMap f=AI.splice (xs.flatMap f) (j*i+off) vs
 |[],j,x,z,h,_,_,_,_=>by simp at h
 |y::r,j,x,z,h,off,vs,hle,D=>by
  cases j with
  |zero=>
   simp at h;subst h;simp only[List.set_cons_zero,f_,D,Nat.zero_mul,b9];unfold AI.splice;have N:=hf y;rw[List.take_append,xg];have A:off-l! (f y)=0:=by omega
   have e2:off+l! vs-l! (f y)=0:=by omega
   rw[A,e2];simp[iV]
  |succ j=>
   have L:=Nr hf r j x z (by simpa using h) off vs hle D;simp only[List.set_cons_succ,f_,L];unfold AI.splice;have N:=hf y;have e0:(j+1)*i=l! (f y)+j*i:=by rw[hf,jF];omega
   rw[e0,List.take_append,xg];have A:l! (f y)+j*i+off-l! (f y)=j*i+off:=by omega
   have e2:l! (f y)+j*i+off+l! vs-l! (f y)=j*i+off+l! vs:=by omega
   rw[A,e2,iG (by omega:l! (f y)<=l! (f y)+j*i+off),C4 (by omega:l! (f y)<=l! (f y)+j*i+off+l! vs)];simp[iV]
def md (T:Ty) (xs:Y T.den):∀x∈xs.flatMap (bM T),x.isCell=J:=λx z=>by
 let⟨y,_,h⟩:=xf.1 z;exact ph T y x h
def jA {S:Ty} {v:S.den} {x:T.den} (h:xK T v=Z x):∃e:S=T,x=e▸v:=by
 unfold xK at h
 grind
def mP (h:aZ):∀(n:Nat) (T:Ty) (v:T.den) (l:Y TV),cellsOf n T v=Z l->cM h l=Z ((bM T v).map .f)/\lJ l=J
 |0,_,_,_,he=>by simp[cellsOf]at he
 |n+1,.st t,v,l,he=>mP h n t v l he
 |n+1,.pr a b,v,l,he=>by
  simp[cellsOf]at he;split at he
  .rename_i x y L D;simp[ah]at he;subst he;let⟨h1,A⟩:=mP h n a v.1 x L;let⟨N,h4⟩:=mP h n b v.2 y D;refine ⟨by rw[bM,cr];exact oF h1 N,?_⟩;clear h1 N L D;induction x with
   |nil=>exact h4
   |cons z r ih=>simp[lJ,au,gJ]at A ⊢;exact⟨A.1,ih A.2⟩
  .cases he
 |n+1,.un,v,l,he=>by simp[cellsOf,ah]at he;subst he;exact⟨rfl,rfl⟩
 |n+1,.ex,v,l,he=>by rw[bM,<-NG];exact mP h n RK (Sr v) l he
 |n+1,.sm,v,l,he=>by rw[bM,<-NF];exact mP h n Rf (Sq v) l he
 |n+1,.int k,v,l,he|n+1,.bool,v,l,he|n+1,.str,v,l,he|n+1,.sl t,v,l,he=>by simp[cellsOf,ah]at he;subst he;exact⟨rfl,rfl⟩
def SX (h:y.isCell=J):y.cs=[y]:=by
 cases y with
 |f x=>cases x<;>first|rfl|cases h
 |agg l=>cases h
 |_=>rfl
def Kf (A:u.cs=Z r) (D:b_ h u=Z y):cM h r=Z y.cs/\lJ r=J:=by
 have one:(if u.isC then Z [u] else U)=Z r->cM h r=Z y.cs/\lJ r=J:=λA=>by
  split at A
  next L=>simp[ah]at A;subst A;exact⟨by rw[SX (Tl D L)];exact qC D rfl,by simp[lJ,L]⟩
  .cases A
 cases u with
 |agg q=>
  simp only[TV.cs]at A;split at A
  .rename_i L;simp[ah]at A;subst A;simp[b_]at D;split at D
   next l' N=>simp[ah]at D;subst D;exact⟨N,L⟩
   .cases D
  .cases A
 |f T x=>
  simp[b_,ah]at D;subst D;rw[Dn];exact mP h 40 T x r A
 |_=>exact one A
def Fm (h:aZ) (H H':HF) (m:Nat):Prop:=∀id,aO m id=J->H (nm id)=erHF h (nm id)/\H' (nm id)=U
def Fm.zero {H':HF}:Fm h A H' 0:=λid hid=>by simp at hid
def Fm.or {H':HF} (g:Fm h A H' (i|||j)):Fm h A H' i/\Fm h A H' j:=
 ⟨λid hid=>g id (by grind),λid hid=>g id (by grind)⟩
def bt :aO (gC i) j=J↔i=j:=by
 unfold gC;rw[Nat.one_shiftLeft,Nat.testBit_two_pow];simp
section pack
variable {h:aZ} {H H':HF}
def AJ (d:rA H H') {x:T.den} (A:iS h T u=Z (x,i)) (D:b_ h u=Z y) (g:Fm h H H' i):kr H H' y (.f (gz T x))/\l! y.cs=T.size/\(T.one=J->y.isCell=J)/\gX H H' y.cs ((bM T x).map .f):=by
 cases u with
 |f S u=>
  simp[iS]at A;split at A
  next z L=>obtain⟨rfl,_⟩:=A;obtain⟨e,rfl⟩:=jA L;subst e;simp[b_,ah]at D;subst D;refine ⟨kr.refl d _,by rw[Dn,cq,bu],λho=>?_,by rw[Dn];exact gX.refl d _⟩;cases S<;>simp[Ty.one]at ho<;>first|rfl|cases ho
  .cases A
 |emp=>
  simp[iS]at A;split at A
  .simp[ah,aU]at A;obtain⟨rfl,_⟩:=A;simp[b_,ah]at D;subst D;exact⟨Le.emp.toH d,rfl,λ_=>rfl,⟨Le.emp.toH d,trivial⟩⟩
  .cases A
 |nil=>
  simp[iS]at A;split at A
  .simp[ah,aU]at A;obtain⟨rfl,_⟩:=A;simp[b_,ah]at D;subst D;exact⟨Le.nil.toH d,rfl,λ_=>rfl,⟨Le.nil.toH d,trivial⟩⟩
  .cases A
 |G id=>
  simp[iS]at A;split at A
  .rename_i ty p S xs hb;split at A
   .rename_i z L;obtain⟨rfl,rfl⟩:=A;obtain⟨e,rfl⟩:=jA L;subst e;let⟨g1,g2⟩:=g id (bt.2 rfl);rw[bL,hb]at g1;simp[b_,eR,hb,ah]at D;subst D;have key:kr H H' (dA p id S.size (l! xs)) (.f (gz (.sl S) xs)):=by
     unfold dA;split
     next hp=>simp only[au,c5]at hp;have:xs=[]:=dH.1 hp.2;subst this;exact Le.emp.toH d
     next hp=>simp only[aD,ky,ax hp]at g1;exact kr.G d g1 g2 (fx (bu S) xs)
    have N:(dA p id S.size (l! xs)).isCell=J:=by unfold dA;split<;>rfl
    refine ⟨key,by rw[SX N];rfl,λ_=>N,?_⟩;rw[SX N];exact⟨key,trivial⟩
   .cases A
  .cases A
 |_=>simp[iS]at A
def rI (d:rA H H'):∀(n:Nat) (T:Ty) (l:Y TV) (x:T.den) (m:Nat) (r:Y TV) (l':Y AV),fI h n T l=Z (x,m,r)->cM h l=Z l'->Fm h H H' m->∃l1 A,l'=l1++A/\cM h r=Z A/\gX H H' l1 ((bM T x).map .f)
 |0,_,_,_,_,_,_,hp,_,_=>by simp[fI]at hp
 |n+1,.st t,l,x,m,r,l',hp,z,g=>rI d n t l x m r l' hp z g
 |n+1,.pr a b,l,x,m,r,l',hp,z,g=>by
  simp[fI]at hp;split at hp
  .rename_i D m1 r1 h1;split at hp
   next x2 m2 r2 h2=>simp[ah,aU]at hp;obtain⟨rfl,rfl,rfl⟩:=hp;let⟨ga,gb⟩:=g.or;obtain⟨l1,A,rfl,N,L⟩:=rI d n a l D m1 r1 l' h1 z ga;obtain⟨l3,l4,rfl,q3,q4⟩:=rI d n b r1 x2 m2 r2 A h2 N gb;refine ⟨l1++l3,l4,by simp,q3,?_⟩;rw[bM,cr];exact L.append q4
   .cases hp
  .cases hp
 |n+1,.un,l,x,m,r,l',hp,z,g=>by
  obtain⟨_,_,rfl⟩:=hp;exact⟨[],l',rfl,z,trivial⟩
 |n+1,.ex,l,x,m,r,l',hp,z,g=>by
  simp[fI]at hp;split at hp
  next D m1 r1 h1=>simp[ah,aU]at hp;obtain⟨rfl,rfl,rfl⟩:=hp;rw[bM,W2];exact rI d n RK l D m1 r1 l' h1 z g
  .cases hp
 |n+1,.sm,l,x,m,r,l',hp,z,g=>by
  simp[fI]at hp;split at hp
  next D m1 r1 h1=>simp[ah,aU]at hp;obtain⟨rfl,rfl,rfl⟩:=hp;rw[bM,W1];exact rI d n Rf l D m1 r1 l' h1 z g
  .cases hp
 |n+1,.int k,l,x,m,r,l',hp,z,g|n+1,.bool,l,x,m,r,l',hp,z,g|n+1,.str,l,x,m,r,l',hp,z,g|n+1,.sl t,l,x,m,r,l',hp,z,g=>by
  simp[fI]at hp;split at hp
  .rename_i c q;split at hp
   next D m1 h1=>obtain⟨rfl,rfl,rfl⟩:=hp;obtain⟨y,A,rfl,N,L⟩:=c9 z;exact⟨[y],A,rfl,L,⟨(AJ d h1 N g).1,trivial⟩⟩
   .cases hp
  .cases hp
def YU (d:rA H H') {x:T.den} (hp:fI h i T r=Z (x,j,[])) (D:cM h r=Z B) (g:Fm h H H' j):gX H H' B ((bM T x).map .f):=by
 obtain⟨N,L,rfl,z,A⟩:=rI d i T r x j [] B hp D g;simp[cM,ah]at z;subst z;simpa using A
def Uy (d:rA H H') {x:T.den} (A:Hm h T u=Z (x,i)) (D:b_ h u=Z y) (g:Fm h H H' i):kr H H' y (.f (gz T x))/\gX H H' y.cs ((bM T x).map .f):=by
 have other:iS h T u=Z (x,i)->kr H H' y (.f (gz T x))/\gX H H' y.cs ((bM T x).map .f):=λA=>by
  let⟨h1,_,_,h2⟩:=AJ d A D g;exact⟨h1,h2⟩
 cases u with
 |agg l=>
  simp only[Hm]at A;split at A
  .cases A
  .rename_i ho;split at A
   .rename_i L m1 h1;simp[ah,aU]at A;obtain⟨rfl,rfl⟩:=A;simp[b_]at D;split at D
    next l' N=>simp[ah]at D;subst D;have:=YU d h1 N g;refine ⟨?_,this⟩;rw[ux T L (by grind)];exact kr.aggL this (ph T L)
    .cases D
   .cases A
 |_=>exact other A
def FL (d:rA H H') :∀(n:Nat) (l:Y TV) (xs:Y T.den) (m:Nat) (l':Y AV),DX h T n l=Z (xs,m)->cM h l=Z l'->Fm h H H' m->gX H H' l' ((xs.flatMap (bM T)).map .f)/\l! xs=n
 |0,[],xs,m,l',hp,z,g=>by
  obtain⟨rfl,_⟩:=hp;simp[cM,ah]at z;subst z;exact⟨trivial,rfl⟩
 |0,_::_,xs,m,l',hp,z,g=>by simp[DX]at hp
 |n+1,l,xs,m,l',hp,z,g=>by
  simp[DX]at hp;split at hp
  .rename_i L m1 A h1;split at hp
   next D m2 h2=>obtain⟨rfl,rfl⟩:=hp;let⟨ga,gb⟩:=g.or;obtain⟨l1,l2,rfl,q1,N⟩:=rI d 40 T l L m1 A l' h1 z ga;let⟨q3,q4⟩:=FL d n A D m2 l2 h2 q1 gb;refine ⟨?_,by simp[q4]⟩;rw[f_,cr];exact N.append q3
   .cases hp
  .cases hp
def uu (h:aZ):∀(n:Nat) (T:Ty) (v:T.den) (off sz:Nat) (L:Bool) (u:TV),oB n T v off sz L=Z u->off+sz<=T.size/\∃y,b_ h u=Z (.f y)/\(L=af->sz=1/\(bM T v)[off]? =Z y)/\(L=J->y= .agg (((bM T v).drop off).take sz))
 |0,_,_,_,_,_,_,z=>by simp[oB]at z
 |n+1,.st t,v,off,sz,L,u,z=>by
  simp only[oB]at z;split at z
  next D=>simp only[au]at D;obtain⟨⟨h1,A⟩,rfl⟩:=D;have h1:=av h1;have A:=av A;subst h1 A;cases z;refine ⟨by simp[Ty.size],_,rfl,nofun,λ_=>?_⟩;simp only[gz,bM,List.drop_zero];rw[<- bu t v,cY]
  .exact uu h n t v off sz L u z
 |n+1,.pr a b,v,off,sz,L,u,z=>by
  simp only[oB]at z;have hla:=bu a v.1;have hlb:=bu b v.2;split at z
  .rename_i hlt;have hlt:off<a.size:=aY hlt;let⟨h1,y,A,h3,N⟩:=uu h n a v.1 off sz L u z;refine ⟨by simp only[Ty.size];omega,y,A,λe=>?_,λe=>?_⟩
   .obtain⟨h5,h6⟩:=h3 e;exact⟨h5,by rw[bM,bU (by omega)];exact h6⟩
   .rw[N e,bM]
    grind
  .rename_i hlt;have hlt:¬off<a.size:=λh=>hlt (bj h)
   let⟨h1,y,A,h3,N⟩:=uu h n b v.2 (off-a.size) sz L u z;refine ⟨by simp only[Ty.size];omega,y,A,λe=>?_,λe=>?_⟩
   .obtain⟨h5,h6⟩:=h3 e;exact⟨h5,by rw[bM,cm (by omega),hla];exact h6⟩
   .rw[N e,bM];have:(bM a v.1++bM b v.2).drop off=(bM b v.2).drop (off-a.size):=by
     rw[xg,hla,C4 (by omega)];simp
    rw[this]
 |n+1,.un,v,off,sz,L,u,z=>by simp[oB]at z
 |n+1,.ex,v,off,sz,L,u,z=>by
  simp only[oB]at z;split at z
  next D=>simp only[au]at D;obtain⟨⟨h1,A⟩,rfl⟩:=D;have h1:=av h1;have A:=av A;subst h1 A;cases z;refine ⟨by simp[Ty.size],_,rfl,nofun,λ_=>?_⟩;simp only[gz,bM,List.drop_zero];rw[<- AA v,cY]
  .obtain⟨h1,y,A,h3,N⟩:=uu h n RK (Sr v) off sz L u z;rw[NG]at h3 N;exact⟨h1,y,A,h3,N⟩
 |n+1,.sm,v,off,sz,L,u,z=>by
  simp only[oB]at z;split at z
  next D=>simp only[au]at D;obtain⟨⟨h1,A⟩,rfl⟩:=D;have h1:=av h1;have A:=av A;subst h1 A;cases z;refine ⟨by simp[Ty.size],_,rfl,nofun,λ_=>?_⟩;simp only[gz,bM,List.drop_zero];rw[<- Gz v,cY]
  .obtain⟨h1,y,A,h3,N⟩:=uu h n Rf (Sq v) off sz L u z;rw[NF]at h3 N;exact⟨h1,y,A,h3,N⟩
 |n+1,.int k,v,off,sz,L,u,z|n+1,.bool,v,off,sz,L,u,z|n+1,.str,v,off,sz,L,u,z|n+1,.sl t,v,off,sz,L,u,z=>by
  simp only[oB]at z;split at z
  next D=>simp only[au,cW]at D;obtain⟨⟨h1,A⟩,rfl⟩:=D;have h1:=av h1;have A:=av A;subst h1 A;cases z;exact⟨by simp[Ty.size],_,rfl,λ_=>⟨rfl,rfl⟩,nofun⟩
  .cases z
def YK (l vs:Y R) (h:l! vs=l! l):AI.splice l 0 vs=vs:=by
 unfold AI.splice
 grind
def U0 (a b vs:Y R) (off:Nat) (h:off+l! vs<=l! a):AI.splice (a++b) off vs=AI.splice a off vs++b:=by
 unfold AI.splice
 grind
def Sw (a b vs:Y R) (off:Nat) (h:l! a<=off):AI.splice (a++b) off vs=a++AI.splice b (off-l! a) vs:=by
 unfold AI.splice;rw[List.take_append,xg,iG h,C4 (by omega),show off+l! vs-l! a=off-l! a+l! vs from by omega];simp[iV]
def Sg (H H':HF) (y:AV) (T:Ty) (v z:T.den) (off sz:Nat):Prop:=∃A:Y FV,gX H H' y.cs (A.map .f)/\l! A=sz/\off+sz<=T.size/\bM T z=AI.splice (bM T v) off A/\∀x∈A,x.isCell=J
def Sg.whole {v z:T.den} (h0:i=0) (A:j=T.size) (D:gX H H' y.cs ((bM T z).map .f)):Sg H H' y T v z i j:=by
 subst h0 A;exact⟨bM T z,D,bu T z,by omega,(YK _ _ (by rw[bu,bu])).symm,ph T z⟩
def tZ (d:rA H H') (L:b_ h u=Z y):∀(n:Nat) (T:Ty) (v:T.den) (off sz:Nat) (z:T.den) (m:Nat),gP h u n T v off sz=Z (z,m)->Fm h H H' m->Sg H H' y T v z off sz
 |0,_,_,_,_,_,_,A,_=>by simp[gP]at A
 |n+1,.st t,v,off,sz,z,m,A,g=>by
  simp only[gP]at A;split at A
  .rename_i q N;split at N
   next D=>simp only[au]at D;simp only[ah]at A;subst A;exact .whole (av D.1) (av D.2) (Uy d N L g).2
   .cases N
  .exact tZ d L n t v off sz z m A g
 |n+1,.pr a b,v,off,sz,z,m,A,g=>by
  simp only[gP]at A;have hla:=bu a v.1;split at A
  .rename_i hlt;split at A
   next z1 m1 h1=>simp only[ah,aU]at A;obtain⟨rfl,rfl⟩:=A;let⟨fs,q1,q2,q3,q4,q5⟩:=tZ d L n a v.1 off sz z1 m1 h1 g;refine ⟨fs,q1,q2,by simp only[Ty.size];omega,?_,q5⟩;rw[bM,bM,U0 _ _ _ _ (by omega),q4]
   .cases A
  .rename_i hlt;have hlt:¬off<a.size:=λh=>hlt (bj h)
   split at A
   next z1 m1 h1=>simp only[ah,aU]at A;obtain⟨rfl,rfl⟩:=A;let⟨fs,q1,q2,q3,q4,q5⟩:=tZ d L n b v.2 (off-a.size) sz z1 m1 h1 g;refine ⟨fs,q1,q2,by simp only[Ty.size];omega,?_,q5⟩;rw[bM,bM,Sw _ _ _ _ (by omega),q4,hla]
   .cases A
 |n+1,.un,v,off,sz,z,m,A,g=>by simp[gP]at A
 |n+1,.ex,v,off,sz,z,m,A,g=>by
  simp only[gP]at A;split at A
  .rename_i q N;split at N
   next D=>simp only[au]at D;simp only[ah]at A;subst A;exact .whole (av D.1) (av D.2) (Uy d N L g).2
   .cases N
  .split at A
   next z1 m1 h1=>simp only[ah,aU]at A;obtain⟨rfl,rfl⟩:=A;let⟨fs,q1,q2,q3,q4,q5⟩:=tZ d L n RK (Sr v) off sz z1 m1 h1 g;exact⟨fs,q1,q2,q3,by rw[bM,bM,W2,q4,NG],q5⟩
   .cases A
 |n+1,.sm,v,off,sz,z,m,A,g=>by
  simp only[gP]at A;split at A
  .rename_i q N;split at N
   next D=>simp only[au]at D;simp only[ah]at A;subst A;exact .whole (av D.1) (av D.2) (Uy d N L g).2
   .cases N
  .split at A
   next z1 m1 h1=>simp only[ah,aU]at A;obtain⟨rfl,rfl⟩:=A;let⟨fs,q1,q2,q3,q4,q5⟩:=tZ d L n Rf (Sq v) off sz z1 m1 h1 g;exact⟨fs,q1,q2,q3,by rw[bM,bM,W1,q4,NF],q5⟩
   .cases A
 |n+1,.int k,v,off,sz,z,m,A,g|n+1,.bool,v,off,sz,z,m,A,g|n+1,.str,v,off,sz,z,m,A,g|n+1,.sl t,v,off,sz,z,m,A,g=>by
  simp only[gP]at A;split at A
  next D=>simp only[au]at D;exact .whole (av D.1) (av D.2) (AJ d A L g).2.2.2
  .cases A
def OV:∀{a b:ξ},X1 a b=J->a=b
 |[],[],_=>rfl
 |[],_::_,h|_::_,[],h=>by cases h
 |x::xs,y::ys,h=>by
  simp[X1,au]at h;rw[aoy h.1,OV h.2]
def Lm (d:rA H H'):∀T:Ty,gX H H' ((uZ T).map raw) ((bM T T.zero).map .f)
 |.int k|.bool|.str=>⟨kr.refl d _,trivial⟩
 |.sl t=>⟨Le.nil.toH d,trivial⟩
 |.st t=>Lm d t
 |.pr a b=>by
  simp[uZ,Ty.zero,bM,cr];exact (Lm d a).append (Lm d b)
 |.un=>trivial
 |.ex=>⟨kr.refl d _,kr.refl d _,kr.refl d _,Le.nil.toH d,trivial⟩
 |.sm=>⟨kr.refl d _,kr.refl d _,kr.refl d _,kr.refl d _,Le.nil.toH d,kr.refl d _,kr.refl d _,kr.refl d _,Le.nil.toH d,Le.nil.toH d,Le.nil.toH d,trivial⟩
def Lt (d:rA H H') (T:Ty):∀n,gX H H' ((repl (uZ T) n).map .f) (((aG n T.zero).flatMap (bM T)).map .f)
 |0=>trivial
 |n+1=>by
  rw[repl,yi,f_,cr,cr];have h1:=Lm (H:=H) (H':=H') d T;have:((uZ T).map .raw).map AV.f=(uZ T).map raw:=by rw[kM];rfl
  rw[this];exact h1.append (Lt d T n)
end pack
structure gZ (h:aZ) (nx:Nat):Prop where
 C:∀id ty l,h.get id=Z (.C ty l)->lN h l=J
 low:∀id b,h.get id=Z b->id<nx
def sL (e:hX) (h:aZ):Prop:=∀t v,e.get t=Z v->PL h v=J
structure fC (P:Program) (o:Oper) (still:Bool) (e:hX) (h:aZ) (nx:Nat) (v:TV) (rd wr:Nat) (h':aZ) (nx':Nat):Prop where
 ex:∃f:EE,gO P o (fM e h) (erHF h) f/\(∀y,b_ h' v=Z y->f.val=y)/\fw (erHF h) f.wr f.nw=erHF h'/\(∀n∈f.rd,aO rd (ow n)=J)/\(∀n∈f.wr,aO wr (ow n)=J)/\(∀n∈f.N,nx<=ow n/\ow n<nx')
 F:bY h h'
 inv:gZ h' nx'
 jh:nx<=nx'
 st:still=J->rd=0/\wr=0
def jM (P:Program) (o:Oper) (still:Bool) (e:hX) (h:aZ) (nx:Nat) (K:KO R) (r:R):Prop:=
 ∃v rd z h' nx',K v rd z h' nx'=Z r/\fC P o still e h nx v rd z h' nx'
variable {b:Bool}
def cN {k:b=J->M R} {r:R} (h:chk b k=Z r):∃z:b=J,k z=Z r:=by
 cases b with
 |true=>exact⟨rfl,h⟩
 |false=>cases h
def mQ {t f:M R} {r:R} (h:aJ b t f=Z r):(b=J/\t=Z r)\/(b=af/\f=Z r):=by
 cases b with
 |true=>exact .inl ⟨rfl,h⟩
 |false=>exact .inr ⟨rfl,h⟩
def d_ {α:Type} {o:M α} {k:α->M R} {r:R} (h:aA o k=Z r):∃x,o=Z x/\k x=Z r:=by
 cases o with
 |some x=>exact⟨x,rfl,h⟩
 |none=>cases h
variable {a:Int}
def mI (h:dN a i=J):0<=a/\a<i/\a.toNat<i:=by
 simp[dN,dz,gF,au,bS]at h;omega
def gO.envLe {o:Oper} {e e2:EF} {f:EE} (ht:gO P o e A f) (hle:∀t y,.tmp t∈o.op.operands->e t=Z y->∃h,e2 t=Z h/\Le h y):gO P o e2 A f:=by
 intro φ E h' w a h1 h2 h3 N L;refine ht φ E h' w a h1 h2 (λt z y D=>?_) N L;let⟨h,g1,g2⟩:=hle t y z D;exact g2 _ _ _ _ (h3 t z h g1)
def Ov (h:aZ) (z:cst v=Z u):b_ h u=Z (raw v)/\v.oneCell'=J/\u.isC=J:=by
 unfold cst at z;split at z<;>cases z<;>exact⟨rfl,rfl,rfl⟩
def xH (h:aZ):∀{z:ξ} {l:Y TV},Ou z=Z l->cM h l=Z (z.map raw)/\(∀x∈z,x.oneCell'=J)/\lJ l=J
 |[],l,A=>by simp[Ou,ah]at A;subst A;exact⟨rfl,by simp,rfl⟩
 |v::r,l,A=>by
  simp[Ou]at A;split at A
  .rename_i x l' D L;simp[ah]at A;subst A;let⟨h1,h2,h3⟩:=Ov h D;let⟨h4,h5,N⟩:=xH h L;refine ⟨qC h1 h4,λy hy=>?_,by simp[lJ,h3,N]⟩
   grind
  .cases A
variable {c:Operand}
def bi {e:hX} (hi:sL e h) (z:dM e c=Z u):∃y,mN (DK e h) c=Z y/\b_ h u=Z y:=by
 cases c with
 |tmp t=>
  simp[dM]at z;let⟨y,D⟩:=pq h u (hi t u z);refine ⟨y,?_,D⟩;simp[mN];rw[Dl];simp[fM,z,aD,D]
 |const x=>
  simp[dM]at z;unfold atb at z;split at z
  .rename_i vs;split at z
   .rename_i h1;split at z
    next l L=>simp[ah]at z;subst z;refine ⟨.agg (vs.toList.map raw),?_,by simp[b_,(xH h L).1]⟩;simp only[mN,IK,h1,bq];rfl
    .cases z
   .cases z
  .rename_i N;refine ⟨raw x,?_,(Ov h z).1⟩;simp[mN];unfold IK;split
   .grind
   .rfl
 |func g=>
  simp[dM,ah]at z;subst z;exact⟨_,rfl,rfl⟩
 |global g=>
  simp[dM]at z;cases A:G g with
  |none=>rw[A]at z;cases z
  |some cells=>
   rw[A]at z;simp[ah]at z;subst z;have hcells:cells=F7:=by
    unfold G at A
    grind
   subst hcells;exact⟨_,by simp[mN,A];rfl,rfl⟩
def FP {e:hX} (hi:sL e h):∀{xs:Y Operand} {l:Y TV},Mm e xs=Z l->∃l',evs (DK e h) xs=Z l'/\cM h l=Z l'
 |[],l,z=>by simp[Mm,ah]at z;subst z;exact⟨[],rfl,rfl⟩
 |x::xs,l,z=>by
  simp[Mm]at z;split at z
  .rename_i y D;split at z
   next ys hys=>simp[ah]at z;subst z;let⟨A,h1,h2⟩:=bi hi D;let⟨l',N,L⟩:=FP hi hys;exact⟨A::l',by simp[evs,h1,N],qC h2 L⟩
   .cases z
  .cases z
section ops
variable {R:Type} {P:Program} {o:Oper} {e:hX} {h:aZ} {nx:Nat} {K:KO R} {r:R}
def fC.pure {s:UP} (hinv:gZ h nx) (N:cV P o.op=Z s) {H:mU} (hH:H.get=erHF h) {k:Nat} {y0:AV} {rdl:ι} (ha:dO s (DK e h) H k=Z ⟨y0,rdl,[],[],[]⟩) (D:∀y,b_ h u=Z y->Le y0 y) (hrd:∀n∈rdl,aO i (ow n)=J) (hst:b=J->i=0):fC P o b e h nx u i 0 h nx:=by
 have ht:=Mn N ha;rw[Dl,hH]at ht;refine ⟨?_,λ_ _ h=>h,hinv,bI _,λL=>⟨hst L,rfl⟩⟩;have key:∀y,Le y0 y->gO P o (fM e h) (erHF h) ⟨y,rdl,[],jQ [],[]⟩:=λy hle=>
  gO.view ht (λrd hi=>by cases hi) λh' _ _=>⟨O5.refl _,hle.toH (rA.refl _)⟩
 cases A:b_ h u with
 |none=>exact⟨_,ht,λy z=>by simp at z,by simp[EB.eff,vR],hrd,by simp[EB.eff],by simp[EB.eff]⟩
 |some y=>exact⟨_,key y (D y A),λy' z=>by simpa using z,by simp[vR],hrd,by simp,by simp⟩
def jM.q {s:UP} (hinv:gZ h nx) (L:cV P o.op=Z s) {k:Nat} {y0:AV} (N:∀H:mU,H.get=erHF h->dO s (DK e h) H k=rv y0) (A:∀y,b_ h u=Z y->Le y0 y) (D:K u 0 0 h nx=Z r):jM P o b e h nx K r:=by
 let⟨H,z⟩:=gM h;exact⟨u,0,0,h,nx,D,fC.pure hinv L z (N H z) A (by simp) λ_=>rfl⟩
def cX (A:b_ h u=Z y):∀y0,b_ h u=Z y0->Le y y0:=λy0 z=>by rw[A]at z;cases z;exact Le.refl _
def ahj {xs:Y T.den} (L:dN a (l! xs)=J) {sz:Nat} (N:oB 40 T (geti _ xs a) i sz b=Z u):
 ∃y,b_ h u=Z (.f y)/\(BC.fz (xs.flatMap (bM T))).sub? (a.toNat*T.size+i) sz b=Z (.f y):=by
 let⟨h1,y,h2,h3,h4⟩:=uu h 40 T _ i sz b u N;refine ⟨y,h2,?_⟩;let⟨_,_,hlt⟩:=mI L;have D:xs[a.toNat]? =Z (geti _ xs a):=by
  unfold geti;rw[aE,aH hlt];rfl
 let⟨q,A⟩:=Is (bu T) xs a.toNat _ D;have hlen:=fx (bu T) xs;have hle:(a.toNat+1)*T.size<=l! xs*T.size:=cK _ hlt;rw[jF]at hle;have hl:=bu T (geti _ xs a);cases b with
 |false=>
  let⟨h5,h6⟩:=h3 rfl;subst h5;simp only[BC.sub?,BC.get];have:(xs.flatMap (bM T))[a.toNat*T.size+i]? =Z y:=by
   rw[<- tH,A,bU (by omega)];exact h6
  rw[this];rfl
 |true=>
  simp only[BC.sub?];rw[aF (bj (by omega)),h4 rfl,<-List.drop_drop,A,List.drop_append_of_le_length (by omega),sR (by grind)]
def awe {v:T.den} (A:oB 40 T v i j b=Z u):
 ∃y,b_ h u=Z (.f y)/\(BC.fz (bM T v)).sub? i j b=Z (.f y):=by
 let⟨h1,y,h2,N,h4⟩:=uu h 40 T _ i j b u A;refine ⟨y,h2,?_⟩;have hl:=bu T v;cases b with
 |false=>
  let⟨L,D⟩:=N rfl;subst L;simp only[BC.sub?,BC.get,D];rfl
 |true=>
  simp[BC.sub?];simp_all
def ahi {l:Y TV} (A:cM h l=Z B) (z:ae5 l i j b=Z u):∃y,b_ h u=Z y/\(BC.mx B).sub? i j b=Z y:=by
 cases b with
 |false=>
  simp only[ae5]at z;split at z
  next h1=>have h1:=av h1;subst h1;let⟨y,D,N⟩:=me A i u z;exact⟨y,N,by simp[BC.sub?,BC.get,D]⟩
  .cases z
 |true=>
  simp only[ae5]at z;split at z
  next h1=>simp[ah]at z;subst z;have D:=Ix j (Iz i A);exact⟨.agg ((B.drop i).take j),by simp[b_,D],by simp[BC.sub?,iC A,h1,bq]⟩
  .cases z
def aj4 (z:lenOf h u=Z i) (A:b_ h u=Z y):y.slen=Z i:=by
 unfold lenOf at z;split at z
 .simp[ah]at z;subst z;simp[b_,ah]at A;subst A;rfl
 .simp[ah]at z;subst z;simp[b_,ah]at A;subst A;rfl
 .simp[ah]at z;subst z;simp[b_,ah]at A;subst A;rfl
 .rename_i id;simp[b_]at A;cases D:eR h id with
  |none=>rw[D]at z;cases z
  |some q=>
   rw[D]at z A;simp[ah]at z A;subst z A;unfold dA;split
   next hp=>simp[au,c5]at hp;rw[hp.2];rfl
   .rfl
 .simp[ah]at z;subst z;simp[b_,ah]at A;subst A;rfl
 .simp[ah]at z;subst z;simp[b_,ah]at A;subst A;simp only[KP,uK];split
  next hp=>rw[c5]at hp;rw[hp];rfl
  .rfl
 .cases z
def Hl (a b:ζ):tU ⟨a.toArray⟩ ⟨b.toArray⟩=decide (a=b):=by
 unfold tU
 grind
def aox {op:BinOp} {v:TV} {q:TV->M R} (z:ath op u v q=Z r):∃a b c t,b_ h u=Z (raw a)/\b_ h v=Z (raw b)/\wX op a b=Z c/\b_ h t=Z (raw c)/\q t=Z r:=by
 unfold ath at z;split at z
 .rename_i k a D b;split at z
  .rename_i hkk;have hkk':k=D:=by grind
   subst hkk';refine ⟨.int k a,.int k b,?_⟩;cases op<;>simp[reduceCtorEq]at z<;>first
    |cases z
    |exact⟨_,_,rfl,rfl,(by simp[wX,cw,bq]<;>rfl),rfl,z⟩
    |(let⟨L,z⟩:=cN z
      have A:(b==(0:Int))=af:=by grind
      exact⟨_,_,rfl,rfl,by simp[wX,cw,bq,A,cZ,dZ],rfl,z⟩)
  .cases z
 .rename_i a b;refine ⟨.string ⟨jG a⟩,.string ⟨jG b⟩,?_⟩;split at z
  .exact⟨.bool (decide ((a:ζ)=b)),_,rfl,rfl,by simp[wX,Hl],rfl,z⟩
  .exact⟨.bool (!decide ((a:ζ)=b)),_,rfl,rfl,by simp[wX,Hl],rfl,z⟩
  .cases z
 .cases z
def adb :∀{l:Y TV} {xs:Y T.den},AK T l=Z xs->∀k,k<l! l->l[k]? =Z (.f T (xs.getD k T.zero))
 |[],xs,_,k,A=>by simp at A
 |.f S v::r,xs,z,k,A=>by
  simp[AK]at z;split at z
  .rename_i x D;split at z
   .rename_i l L;simp[ah]at z;subst z;let⟨es,ex⟩:=jA D;cases es;subst ex;cases k with
    |zero=>rfl
    |succ k=>simpa using adb L k (by grind)
   .cases z
  .cases z
 |.zd _ _ _ _ _::r,xs,z,k,A|.zg _ _ _ _::r,xs,z,k,A|.H _ _::r,xs,z,k,A|.qy _ _ _::r,xs,z,k,A|.G _::r,xs,z,k,A|.emp::r,xs,z,k,A|.nil::r,xs,z,k,A|.mp _::r,xs,z,k,A|.agg _::r,xs,z,k,A|.qg _::r,xs,z,k,A|.qv _ _::r,xs,z,k,A|.undef::r,xs,z,k,A|.np::r,xs,z,k,A|.qw::r,xs,z,k,A|.sb _::r,xs,z,k,A=>by simp[AK]at z
def ada {l:Y TV} {xs:Y T.den} (z:aku l=Z ⟨T,xs⟩):∀k,k<l! l->l[k]? =Z (.f T (xs.getD k T.zero)):=by
 unfold aku at z;split at z
 .split at z
  next D A=>cases z;exact adb A
  .cases z
 .cases z
variable (hinv:gZ h nx) (hi:sL e h)
include hinv hi
variable {X:FuncId->M cA} {W:TypeId->M Ty}
def K_mv (D:cV P o.op=Z (.mv c)) (z:fc X W (.op (.mv c)) e h nx K=Z r):jM P o b e h nx K r:=by
 simp[fc]at z;split at z
 next v A=>let⟨y,h1,L⟩:=bi hi A;exact jM.q (k:=0) hinv D (λH _=>by simp[dO,h1]) (cX L) z
 .cases z
def avb {a st:Operand} (hc:cV P o.op=Z (.pick c a st)) (D:fc X W (.op (.pick c a st)) e h nx K=Z r):jM P o b e h nx K r:=by
 simp[fc]at D;split at D
 .rename_i t hv;let⟨y,h1,h2⟩:=bi hi hv;simp[b_,ah]at h2;subst h2;rcases mQ D with ⟨rfl,z⟩|⟨rfl,z⟩
  .split at z
   next v A=>let⟨y2,N,L⟩:=bi hi A;exact jM.q (k:=0) hinv hc (λH _=>by simp[dO,h1,gz,bq,N]) (cX L) z
   .cases z
  .split at z
   next v A=>let⟨y2,N,L⟩:=bi hi A;exact jM.q (k:=0) hinv hc (λH _=>by simp[dO,h1,gz,N,cZ,dZ]) (cX L) z
   .cases z
 .cases D
def avc (N:cV P o.op=Z (.jz c)) (D:fc X W (.op (.jz c)) e h nx K=Z r):jM P o b e h nx K r:=by
 simp[fc]at D;split at D;all_goals first
  |(rename_i L
    let⟨y,h1,z⟩:=bi hi L;have A:=z;simp[b_,ah]at z;subst z;exact jM.q (k:=0) hinv N (λH _=>by simp[dO,h1]) (cX A) D)
  |skip
 .rename_i g cap L;let⟨y,h1,z⟩:=bi hi L;have A:=z;simp[b_]at z;split at z
  .simp[ah]at z;subst z;exact jM.q (k:=0) hinv N (λH _=>by simp[dO,h1]) (cX A) D
  .cases z
 .cases D
def az0 (L:cV P o.op=Z (.not c)) (z:fc X W (.op (.not c)) e h nx K=Z r):jM P o b e h nx K r:=by
 simp[fc]at z;split at z
 next st D=>let⟨y,h1,A⟩:=bi hi D;simp[b_,ah]at A;subst A;exact jM.q (k:=0) hinv L (λH _=>by simp[dO,h1,gz];rfl) (cX rfl) z
 .cases z
def avi {k:IntKind} (L:cV P o.op=Z (.conv k c)) (z:fc X W (.op (.conv k c)) e h nx K=Z r):jM P o b e h nx K r:=by
 simp[fc]at z;split at z
 next N n D=>let⟨y,h1,A⟩:=bi hi D;simp[b_,ah]at A;subst A;exact jM.q (k:=0) hinv L (λH _=>by simp[dO,h1,gz];rfl) (cX rfl) z
 .cases z
def azd {y:Operand} {st:Bool} (hc:cV P o.op=Z (.xx b c y)) (z:fc X W (.op (.xx b c y)) e h nx K=Z r):jM P o st e h nx K r:=by
 simp[fc]at z;split at z
 next a neg N A=>let⟨y,h1,L⟩:=bi hi N;let⟨y2,h3,D⟩:=bi hi A;simp[b_,ah]at L D;subst L D;exact jM.q (k:=0) hinv hc (λH _=>by simp[dO,h1,h3,gz];rfl) (cX rfl) z
 .cases z
def aq1 {st:Bool} (hc:cV P o.op=Z (.zn b c)) (A:fc X W (.op (.zn b c)) e h nx K=Z r):jM P o st e h nx K r:=by
 simp[fc]at A;split at A
 next D=>let⟨y,h1,z⟩:=bi hi D;simp[b_,ah]at z;subst z;exact jM.q (k:=0) hinv hc (λH _=>by simp[dO,h1,Dh,bq];rfl) (cX rfl) A
 next D=>let⟨y,h1,z⟩:=bi hi D;simp[b_,ah]at z;subst z;exact jM.q (k:=0) hinv hc (λH _=>by simp[dO,h1]) (cX rfl) A
 .rename_i T xs D;let⟨y,h1,z⟩:=bi hi D;simp[b_,ah]at z;subst z;rcases mQ A with ⟨N,L⟩|⟨N,L⟩
  .have N:=av N;exact jM.q (k:=0) (y0:=.qw) hinv hc (λH _=>by simp[dO,h1,gz,N]) (cX rfl) L
  .have N:=nP N;let⟨n,hn⟩:=Nat.exists_eq_succ_of_ne_zero N;exact jM.q (k:=0) (y0:=raw (.bool b)) hinv hc (λH _=>by simp[dO,h1,gz,hn]) (cX rfl) L
 .rename_i id D;split at A
  next ty T xs hb=>let⟨y,h1,z⟩:=bi hi D;simp[b_,eR,hb,dA,kN,cZ,dZ,ah]at z;subst z;exact jM.q (k:=0) (y0:=raw (.bool b)) hinv hc (λH _=>by simp[dO,h1]) (cX rfl) A
  .cases A
 .cases A
def az5 {y:Operand} (hc:cV P o.op=Z (.max c y)) (z:fc X W (.op (.max c y)) e h nx K=Z r):jM P o b e h nx K r:=by
 simp[fc]at z;split at z
 .rename_i k a k' st N A;let⟨y,h1,L⟩:=bi hi N;let⟨y2,h3,D⟩:=bi hi A;simp[b_,ah]at L D;subst L D;split at z
  .exact jM.q (k:=0) hinv hc (λH _=>by simp[dO,h1,h3,gz];rfl) (cX rfl) z
  .cases z
 .cases z
def az4 {y:Operand} (hc:cV P o.op=Z (.min c y)) (z:fc X W (.op (.min c y)) e h nx K=Z r):jM P o b e h nx K r:=by
 simp[fc]at z;split at z
 .rename_i k a k' st N A;let⟨y,h1,L⟩:=bi hi N;let⟨y2,h3,D⟩:=bi hi A;simp[b_,ah]at L D;subst L D;split at z
  .exact jM.q (k:=0) hinv hc (λH _=>by simp[dO,h1,h3,gz];rfl) (cX rfl) z
  .cases z
 .cases z
def aza (L:cV P o.op=Z (.jm i c)) (z:fc X W (.op (.jm i c)) e h nx K=Z r):jM P o b e h nx K r:=by
 simp[fc]at z;split at z;all_goals first
  |(rename_i D
    let⟨y,h1,A⟩:=bi hi D;simp[b_,ah]at A;subst A;exact jM.q (k:=0) hinv L (λH _=>by simp[dO,h1,uH]) (cX rfl) z)
  |cases z
def az8 {n:Operand} {st:Bool} (hc:cV P o.op=Z (.idx i j b c n)) (A:fc X W (.op (.idx i j b c n)) e h nx K=Z r):jM P o st e h nx K r:=by
 simp[fc]at A;split at A
 .rename_i v0 k sz hv hv2;split at A
  .rename_i T xs hA;let⟨hb,A⟩:=cN A;cases b with
   |true=>cases hA
   |false=>
   simp only[ax0]at hA;split at hA
   .rename_i hsz;simp only[au,cW]at hsz;have hsz1:=av hsz.1;subst hsz1;split at hA
    .rename_i l hl;split at hA
     .rename_i hn;have hn:=av hn;let⟨y,h1,D⟩:=bi hi hv;let⟨y2,h5,N⟩:=bi hi hv2;simp[b_,ah]at N;subst N;have hj:sz.toNat<l! l:=by
       simp[au,dz,gF,bS]at hb;omega
      have hg:=ada hA sz.toNat hj;let⟨he,_⟩:=Kf hl D;let⟨z,L,hz2⟩:=me he sz.toNat _ hg;refine jM.q (k:=0) hinv hc (λH _=>?_) (cX hz2) A;cases v0 with
      |agg q=>
       simp[b_]at D;split at D
       next l' _=>simp[ah]at D;subst D;have L:l'[sz.toNat]? =Z z:=L;simp[dO,h1,h5,gz,hb,bq,BC.sub?,BC.get,Hy,L]
       .cases D
      |f S u=>
       have ho:S.one=af:=by
        have:=hsz.2;simpa[TV.isC] using this
       simp[b_,ah]at D;rw[ux S u ho]at D;subst D;have L:((bM S u).map AV.f)[sz.toNat]? =Z z:=L;rw[bE]at L;simp[dO,h1,h5,gz,hb,bq,BC.sub?,BC.get,Hy,L]
      |_=>simp[TV.cs,TV.isC]at hl hsz
     .cases hA
    .cases hA
   .cases hA
  .split at A
   .rename_i l;let⟨hb,A⟩:=cN A;split at A
    .rename_i u hs;let⟨y,h1,D⟩:=bi hi hv;let⟨y2,h5,N⟩:=bi hi hv2;simp[b_,ah]at N;subst N;simp[b_]at D;split at D
     next l' hl=>simp[ah]at D;subst D;let⟨y,h3,h4⟩:=ahi hl hs;exact jM.q (k:=0) hinv hc (λH _=>by simp[dO,h1,h5,gz,hb,bq,h4]) (cX h3) A
     .cases D
    .cases A
   .rename_i T v _;split at A
    .cases A
    .rename_i ho;let⟨hb,A⟩:=cN A;split at A
     next u hs=>let⟨y,h1,D⟩:=bi hi hv;let⟨y2,h5,N⟩:=bi hi hv2;simp[b_,ah]at N D;subst N;rw[ux T v (by grind)]at D;subst D;let⟨y,h3,h4⟩:=awe (h:=h) hs;exact jM.q (k:=0) hinv hc (λH _=>by simp[dO,h1,h5,gz,hb,bq,h4]) (cX h3) A
     .cases A
   .cases A
 .cases A
def avg {n:Operand} (L:cV P o.op=Z (.jk i j c n)) (z:fc X W (.op (.jk i j c n)) e h nx K=Z r):jM P o b e h nx K r:=by
 simp[fc]at z;split at z
 .rename_i id off k sz hv A;let⟨y,h1,h2⟩:=bi hi hv;let⟨y2,h5,N⟩:=bi hi A;simp[b_,ah]at N h2;subst N h2;split at z
  .obtain⟨D,z⟩:=cN z;exact jM.q (k:=0) (y0:=.H (nm id) (off+sz.toNat*j)) hinv L (λH _=>by simp[dO,h1,h5,gz,D,bq]) (cX (by simp[b_];rw[Nat.add_comm])) z
  .obtain⟨D,z⟩:=cN z;exact jM.q (k:=0) hinv L (λH _=>by simp[dO,h1,h5,gz,D,bq]) (cX rfl) z
 .cases z
def azb (hc:cV P o.op=Z (.ext c i)) (z:fc X W (.op (.ext c i)) e h nx K=Z r):jM P o b e h nx K r:=by
 simp[fc]at z;split at z
 .rename_i l D;split at z
  .rename_i u L;let⟨y,h1,A⟩:=bi hi D;simp[b_]at A;split at A
   next l' N=>simp[ah]at A;subst A;let⟨y,h3,h4⟩:=me N i u L;exact jM.q (k:=0) hinv hc (λH _=>by simp[dO,h1,h3]) (cX h4) z
   .cases A
  .cases z
 .cases z
def az7 (L:cV P o.op=Z (.len c)) (z:fc X W (.op (.len c)) e h nx K=Z r):jM P o b e h nx K r:=by
 simp[fc]at z;split at z
 .rename_i v A;split at z
  next n D=>let⟨y,h1,h2⟩:=bi hi A;have N:=aj4 D h2;exact jM.q (k:=0) hinv L (λH _=>by simp[dO,h1,N];rfl) (cX rfl) z
  .cases z
 .cases z
def avf (L:cV P o.op=Z (.lens c)) (z:fc X W (.op (.lens c)) e h nx K=Z r):jM P o b e h nx K r:=by
 simp[fc]at z;split at z
 next s D=>let⟨y,h1,A⟩:=bi hi D;simp[b_,ah]at A;subst A;exact jM.q (k:=0) hinv L (λH _=>by simp[dO,h1,gz];rfl) (cX rfl) z
 .cases z
def ava {i:Operand} (hc:cV P o.op=Z (.jv c i)) (z:fc X W (.op (.jv c i)) e h nx K=Z r):jM P o b e h nx K r:=by
 simp[fc]at z;split at z
 .rename_i s k j hv A;let⟨hj,z⟩:=cN z;let⟨y,h1,L⟩:=bi hi hv;let⟨y2,h3,D⟩:=bi hi A;simp[b_,ah]at L D;subst L D;let⟨N,j1,j2⟩:=mI hj;have e1:dz 0 j=J:=by simp[dz,N]
  have e2:(⟨jG s⟩:ByteArray).data.toList[j.toNat]? =Z (List.getD s j.toNat 0):=by grind
  exact jM.q (k:=0) (y0:=raw (.int .u8 (aS (List.getD s j.toNat 0).toNat))) hinv hc (λH _=>by simp only[dO,h1,h3,gz,e1,bq,e2];rfl) (cX rfl) z
 .cases z
def az9 {sz:Operand} (hc:cV P o.op=Z (.jp i c sz)) (z:fc X W (.op (.jp i c sz)) e h nx K=Z r):jM P o b e h nx K r:=by
 simp only[fc]at z;split at z
 .rename_i id k j hv A;split at z
  .rename_i ty p T xs hb;split at z
   .rename_i D;have D:=av D;let⟨hj,z⟩:=cN z;let⟨y,h1,N⟩:=bi hi hv;let⟨y2,h3,L⟩:=bi hi A;simp[b_,ah]at L;subst L;let⟨j0,j1,j2⟩:=mI hj;have hne:¬((p&&l! xs==0)=J):=by grind
    simp only[b_,eR,hb,dA,ax hne,ah]at N;subst N;have hc1:(T.size==i&&dz 0 j&&gF j (l! xs))=J:=by
     simp[dN,au]at hj;simp[D,hj.1,hj.2]
    exact jM.q (k:=0) hinv hc (λH _=>by simp[dO,h1,h3,gz,hc1,bq,dI]) (cX rfl) z
   .cases z
  .cases z
 .rename_i T xs k j hv A;split at z
  next D=>have D:=av D;let⟨hj,z⟩:=cN z;let⟨y,h1,N⟩:=bi hi hv;let⟨y2,h3,L⟩:=bi hi A;simp[b_,ah]at L N;subst L N;have hj':(dz 0 j&&gF j (aj xs))=J:=hj;exact jM.q (k:=0) hinv hc (λH _=>by simp[dO,h1,h3,gz,hj',bq,dI,D]) (cX rfl) z
  .cases z
 .rename_i id sz' n k j hv A;split at z
  .rename_i D;have D:=av D;subst D;let⟨hj,z⟩:=cN z;let⟨y,h1,N⟩:=bi hi hv;let⟨y2,h3,L⟩:=bi hi A;simp[b_,ah]at L N;subst L N;have hj':(sz'==sz'&&dz 0 j&&gF j n)=J:=by grind
   exact jM.q (k:=0) hinv hc (λH _=>by simp only[dO,h1,h3,gz,hj',bq]) (cX rfl) z
  .cases z
 .cases z
variable {f:FuncId}
def az3 {caps:Y Operand} (D:cV P o.op=Z (.mkf f caps)) (z:fc X W (.op (.mkf f caps)) e h nx K=Z r):jM P o b e h nx K r:=by
 simp[fc]at z;split at z
 next l A=>let⟨l',h1,L⟩:=FP hi A;exact jM.q (k:=0) hinv D (y0:=.qv f l') (λH _=>by simp[dO,h1]) (cX (by simp[b_,L])) z
 .cases z
def azh {op:BinOp} {y:Operand} (hc:cV P o.op=Z (.bin op c y)) (z:fc X W (.op (.bin op c y)) e h nx K=Z r):jM P o b e h nx K r:=by
 simp[fc]at z;split at z
 next u v hv A=>let⟨a,st,x,t,h1,h2,h3,h4,h5⟩:=aox (h:=h) z;let⟨y,g1,N⟩:=bi hi hv;let⟨y2,L,D⟩:=bi hi A;rw[h1]at N;cases N;rw[h2]at D;cases D;simp[raw]at g1 L;exact jM.q (k:=0) hinv hc (λH _=>by simp[dO,g1,L,h3]) (cX h4) h5
 .cases z
end ops
def iM:fk->M (Bool×p?)
 |.F _ p T xs=>Z (p,T.size,l! xs)
 |.qj p sz n=>Z (p,sz,n)
 |.I F _ x|.qm F _ x _ _=>su F x
 |_=>U
def bD (h:aZ) (i:Nat):eR h i=(h.get i).bind iM:=by
 unfold eR;cases h.get i with
 |none=>rfl
 |some b=>cases b<;>rfl
def bY.refl (h:aZ):bY h h:=λ_ _ h=>h
def bY.trans {b c:aZ} (h1:bY h b) (z:bY b c):bY h c:=λi r a=>z i r (h1 i r a)
def bY.set {b:fk} (A:∀r,eR h i=Z r->iM b=Z r):bY h (h.set i (Z b)):=λj r z=>by
 rw[bD,PT.get_set];by_cases e:j=i
 .grind
 .rw[ax e,<-bD];exact z
def Rk {b:fk} {r:Bool×p?} (h:iM b=Z r):iM (vb b)=Z r:=by
 cases b with
 |I F a x|qm F a x k p=>simp[iM]at h;simp[vb,h,iM]
 |_=>first|exact h|cases h
def BY {b:fk} {ty:M TypeId} (h:vb b= .C ty r):False:=by
 cases b<;>simp[vb]at h<;>first|cases h|(split at h<;>cases h)
def MJ (b:fk):∃p s n,vb b= .qj p s n:=by
 cases b with
 |I F a x|qm F a x k p=>simp only[vb];split<;>exact⟨_,_,_,rfl⟩
 |_=>exact⟨_,_,_,rfl⟩
def ak6 {b:fk} (A:Pu h i j (vb b)=Z Q):False:=by
 let⟨p,s,n,e⟩:=MJ b;rw[e]at A;cases j<;>cases A
def iQ (m:Nat) (h:aZ) (i:Nat):(dU m h).get i=if aO m i then (h.get i).map vb else h.get i:=by
 unfold dU;split
 .simp_all
 .rw[PT.get_updI];simp[Nat.one_mul,dI];cases h.get i with
  |none=>simp
  |some b=>simp[bx];split<;>rfl
def bY.kill (m:Nat) (h:aZ):bY h (dU m h):=λi r z=>by
 rw[bD]at z ⊢;rw[iQ];split
 .cases A:h.get i with
  |none=>rw[A]at z;cases z
  |some b=>rw[A]at z;exact Rk z
 .exact z
def gZ.set {nx nx':Nat} {b:fk} (hi:gZ h nx) (A:bY h (h.set i (Z b))) (hlt:i<nx') (hle:nx<=nx') (D:∀ty l,b= .C ty l->lN (h.set i (Z b)) l=J):gZ (h.set i (Z b)) nx':=by
 refine ⟨λj ty l z=>?_,λj c z=>?_⟩
 .rw[PT.get_set]at z;split at z
  .grind
  .exact fy A l (hi.C j _ l z)
 .rw[PT.get_set]at z;split at z
  .omega
  .exact dC (hi.low j c z) hle
def gZ.kill (hi:gZ h i) (m:Nat):gZ (dU m h) i:=by
 refine ⟨λj ty l z=>?_,λj c z=>?_⟩
 .rw[iQ]at z;refine fy (bY.kill m h) l (hi.C j ty l ?_);split at z
  .cases A:h.get j with
   |none=>rw[A]at z;cases z
   |some b=>rw[A]at z;exact (BY (fO z)).elim
  .exact z
 .rw[iQ]at z;split at z
  .cases A:h.get j with
   |none=>rw[A]at z;cases z
   |some b=>exact hi.low j b A
  .exact hi.low j c z
def WM {h':aZ} (A:bY h h') {b:fk} (D:∀ty l,b= .C ty l->lN h l=J):ky h' b=ky h b:=by
 cases b with
 |C ty l=>
  let⟨l',z⟩:=fF h l (D ty l rfl);cases ty<;>simp[ky,z,gV A l l' z]
 |_=>rfl
def mf {h':aZ} (z:bY h h') {b:fk} (A:∀ty l,b= .C ty l->lN h l=J) (i:Nat):∀k,Pu h' i k b=Pu h i k b
 |0=>WM z A
 |_+1=>rfl
def aff {h':aZ} (hi:gZ h j) (z:bY h h') (A:h'.get i=h.get i):erHF h' (nm i)=erHF h (nm i):=by
 rw[bL,bL,A];cases D:h.get i with
 |none=>rfl
 |some b=>exact WM z λty l e=>hi.C i _ l (by rw[D,e])
def iL (h h':aZ):Prop:=∀i k,(h'.get i).bind (wS i k)=(h.get i).bind (wS i k)
def iL.refl (h:aZ):iL h h:=λ_ _=>rfl
def iL.trans {b c:aZ} (h1:iL h b) (z:iL b c):iL h c:=λi k=>(z i k).trans (h1 i k)
def noM:M fk->Bool
 |some (.I _ _ _)=>af
 |some (.qm _ _ _ _ _)=>af
 |_=>J
def LA {c:M fk} (z:noM c=J) (i k:Nat):c.bind (wS i k)=U:=by
 cases c with
 |none=>rfl
 |some b=>cases b<;>first|rfl|cases z
def iL.set {b:M fk} (h1:noM (h.get i)=J) (z:noM b=J):iL h (h.set i b):=λj k=>by
 rw[PT.get_set];by_cases e:j=i
 .subst e;rw[aF rfl,LA h1,LA z]
 .rw[ax e]
def iL.at_ {b:M fk} (h1:∀k,b.bind (wS i k)=(h.get i).bind (wS i k)):iL h (h.set i b):=λj k=>by
 rw[PT.get_set]
 grind
def iL.of {h':aZ} (z:∀i,h'.get i=h.get i\/(noM (h.get i)=J/\noM (h'.get i)=J)):iL h h':=λj k=>by
 rcases z j with e|⟨A,e2⟩
 .rw[e]
 .rw[LA A,LA e2]
def iL.kill (hm:∀m,aO i m=J->∃ty p T xs,h.get m=Z (.F ty p T xs)):iL h (dU i h):=λj k=>by
 rw[iQ];split
 next A=>let⟨ty,p,T,xs,z⟩:=hm j A;rw[z];rfl
 .rfl
def mO {h':aZ} (hi:gZ h i) (A:bY h h') (hm:iL h h') (D:∀nx,j=nm nx->h'.get nx=h.get nx):erHF h' j=erHF h j:=by
 cases z:ix j with
 |zero=>rw[pw z];exact aff hi A (D _ (pw z))
 |succ k=>
  have e:=kP j;rw[z]at e;rw[<- e,kG,kG];exact hm _ k
def Nz {h':aZ} (hme:iL h h') (A:erHF h' i=Z Q):erHF h i=Z Q\/∃q z,i=nm q/\h'.get q=Z z/\ky h' z=Z Q:=by
 cases D:ix i with
 |zero=>
  let⟨z,h1,L⟩:=iR A;rw[D]at L;exact .inr ⟨ow i,z,pw D,h1,L⟩
 |succ k=>
  have e:=kP i;rw[D]at e;rw[<- e,kG]at A ⊢;exact .inl ((hme _ _).symm.trans A)
def Jh (m:Nat):ι:=(akr m).map nm
def oZ :j∈Jh i↔∃m,j=nm m/\aO i m=J:=by
 unfold Jh;rw[cu];constructor
 .rintro⟨m,h1,rfl⟩;exact⟨m,rfl,Rx.1 h1⟩
 .rintro⟨m,rfl,h1⟩;exact⟨m,Rx.2 h1,rfl⟩
def mD :nm i∈Jh j↔aO j i=J:=by
 rw[oZ];constructor
 .rintro⟨m,h1,z⟩;rw[uL h1];exact z
 .grind
def dP (h:aZ) (m:Nat):Prop:=∀i,aO m i=J->∃ty p T xs,h.get i=Z (.F ty p T xs)
def dP.zero (h:aZ):dP h 0:=λi hi=>by simp at hi
def dP.or (A:dP h i) (z:dP h j):dP h (i|||j):=λa hi=>by
 rw[bw,mV]at hi;exact hi.elim (A a) (z a)
def nZ {v:TV} {x:T.den} (A:iS h T v=Z (x,i)):dP h i:=by
 cases v with
 |f S v|emp|nil=>
  simp[iS]at A;split at A
  .simp[ah,aU]at A;rw[<- A.2];exact dP.zero h
  .cases A
 |G id=>
  simp[iS]at A;split at A
  .rename_i ty p S xs N;split at A
   .simp[ah,aU]at A;rw[<- A.2];intro m hi;have:=bt.1 hi
    grind
   .cases A
  .cases A
 |_=>simp[iS]at A
def xi :∀(n:Nat) (T:Ty) (l:Y TV) (x:T.den) (m:Nat) (r:Y TV),fI h n T l=Z (x,m,r)->dP h m
 |0,_,_,_,_,_,hp=>by simp[fI]at hp
 |n+1,.st t,l,x,m,r,hp=>xi n t l x m r hp
 |n+1,.pr a b,l,x,m,r,hp=>by
  simp[fI]at hp;split at hp
  .rename_i z m1 A h1;split at hp
   next D m2 L N=>simp[ah,aU]at hp;obtain⟨_,rfl,_⟩:=hp;exact (xi n a l z m1 A h1).or (xi n b A D m2 L N)
   .cases hp
  .cases hp
 |n+1,.un,l,x,m,r,hp=>by
  obtain⟨_,rfl,_⟩:=hp;exact dP.zero h
 |n+1,.ex,l,x,m,r,hp=>by
  simp[fI]at hp;split at hp
  next z m1 A h1=>simp[ah,aU]at hp;obtain⟨_,rfl,_⟩:=hp;exact xi n RK l z m1 A h1
  .cases hp
 |n+1,.sm,l,x,m,r,hp=>by
  simp[fI]at hp;split at hp
  next z m1 A h1=>simp[ah,aU]at hp;obtain⟨_,rfl,_⟩:=hp;exact xi n Rf l z m1 A h1
  .cases hp
 |n+1,.int k,l,x,m,r,hp|n+1,.bool,l,x,m,r,hp|n+1,.str,l,x,m,r,hp|n+1,.sl t,l,x,m,r,hp=>by
  simp[fI]at hp;split at hp
  .split at hp
   next z m1 h1=>obtain⟨_,rfl,_⟩:=hp;exact nZ h1
   .cases hp
  .cases hp
def ad9 {x:T.den} (A:Hm h T u=Z (x,i)):dP h i:=by
 cases u with
 |agg l=>
  simp only[Hm]at A;split at A
  .cases A
  .split at A
   next D m1 h1=>simp[ah,aU]at A;obtain⟨_,rfl⟩:=A;exact xi 40 T l D m1 [] h1
   .cases A
 |f S u=>exact nZ (v:=.f S u) A
 |zd T xs j N off=>exact nZ (v:=.zd T xs j N off) A
 |zg id sz j off=>exact nZ (v:=.zg id sz j off) A
 |H id off=>exact nZ (v:=.H id off) A
 |qy id off z=>exact nZ (v:=.qy id off z) A
 |G id=>exact nZ (v:=.G id) A
 |emp=>exact nZ (v:=.emp) A
 |nil=>exact nZ (v:=.nil) A
 |mp id=>exact nZ (v:=.mp id) A
 |zl id L=>exact nZ (v:=.zl id L) A
 |qg q=>exact nZ (v:=.qg q) A
 |qv g q=>exact nZ (v:=.qv g q) A
 |undef=>exact nZ (v:=.undef) A
 |np=>exact nZ (v:=.np) A
 |qw=>exact nZ (v:=.qw) A
 |sb q=>exact nZ (v:=.sb q) A
def SM :∀(n:Nat) (l:Y TV) (xs:Y T.den) (m:Nat),DX h T n l=Z (xs,m)->dP h m
 |0,[],xs,m,hp=>by simp[DX,ah,aU]at hp;rw[<- hp.2];exact dP.zero h
 |0,_::_,xs,m,hp=>by simp[DX]at hp
 |n+1,l,xs,m,hp=>by
  simp[DX]at hp;split at hp
  .rename_i D m1 z h1;split at hp
   next A m2 L=>obtain⟨_,rfl⟩:=hp;exact (xi 40 T l D m1 z h1).or (SM n z A m2 L)
   .cases hp
  .cases hp
def C8 :∀(n:Nat) (T:Ty) (v:T.den) (off sz:Nat) (z:T.den) (m:Nat),gP h u n T v off sz=Z (z,m)->dP h m
 |0,_,_,_,_,_,_,A=>by simp[gP]at A
 |n+1,.st t,v,off,sz,z,m,A=>by
  simp[gP]at A;split at A
  .rename_i q D;split at D
   .simp[ah]at A;subst A;exact ad9 D
   .cases D
  .exact C8 n t v off sz z m A
 |n+1,.pr a b,v,off,sz,z,m,A=>by
  simp[gP]at A;split at A
  .split at A
   next L m1 h1=>simp[ah,aU]at A;obtain⟨_,rfl⟩:=A;exact C8 n a v.1 off sz L m1 h1
   .cases A
  .split at A
   next L m1 h1=>simp[ah,aU]at A;obtain⟨_,rfl⟩:=A;exact C8 n b v.2 _ sz L m1 h1
   .cases A
 |n+1,.un,v,off,sz,z,m,A=>by simp[gP]at A
 |n+1,.ex,v,off,sz,z,m,A=>by
  simp[gP]at A;split at A
  .rename_i q D;split at D
   .simp[ah]at A;subst A;exact ad9 D
   .cases D
  .split at A
   next L m1 h1=>simp[ah,aU]at A;obtain⟨_,rfl⟩:=A;exact C8 n RK _ off sz L m1 h1
   .cases A
 |n+1,.sm,v,off,sz,z,m,A=>by
  simp[gP]at A;split at A
  .rename_i q D;split at D
   .simp[ah]at A;subst A;exact ad9 D
   .cases D
  .split at A
   next L m1 h1=>simp[ah,aU]at A;obtain⟨_,rfl⟩:=A;exact C8 n Rf _ off sz L m1 h1
   .cases A
 |n+1,.int k,v,off,sz,z,m,A|n+1,.bool,v,off,sz,z,m,A|n+1,.str,v,off,sz,z,m,A|n+1,.sl t,v,off,sz,z,m,A=>by
  simp only[gP]at A;split at A
  .exact nZ A
  .cases A
def vN (hm:dP h j) (z:aO j i=J):∃p sz n,(dU j h).get i=Z (.qj p sz n):=by
 let⟨ty,p,T,xs,h1⟩:=hm i z;exact⟨p,T.size,l! xs,by rw[iQ,aF z,h1];rfl⟩
section ops
variable {R:Type} {P:Program} {o:Oper} {e:hX} {h:aZ} {nx:Nat} {K:KO R} {r:R}
def fg (n:Nat) (b:kx):jQ [(n,b)] n=Z b:=by simp[jQ]
def fC.mk' {s:UP} (hc:cV P o.op=Z s) {H:mU} (hH:H.get=erHF h) {k:Nat} {rdl wrl N:ι} {nw:NW} (ha:dO s (DK e h) H k=Z ⟨y,rdl,wrl,nw,N⟩) {h':aZ} {wr:Nat} (wr':ι)
 (hsub:∀nx'∈wrl,nx'∈wr') (hsame:∀n,n∉wr'->erHF h' n=erHF h n)
 (hdom:∀nx'∈wr',∀b',erHF h' nx'=Z b'->∃b,(if nx'∈wrl then jQ nw nx' else erHF h nx')=Z b)
 (hblk:∀(L H2:HF),rA L H2->(∀nx'∈wrl,L nx'=jQ nw nx')->(∀nx'∈wr',nx'∉wrl->L nx'=erHF h nx')->(∀nx'∈wr',H2 nx'=erHF h' nx')->(∀nx'∈wr',∀b b',L nx'=Z b->H2 nx'=Z b'->gr L H2 b b')/\∀y0,b_ h' u=Z y0->kr L H2 y y0)
 (hrd:∀n∈rdl,aO j (ow n)=J) (hwr:∀n∈wr',aO wr (ow n)=J) (hN:∀n∈N,nx<=ow n/\ow n<i) (hrows:bY h h') (hinv':gZ h' i) (hg:nx<=i):fC P o af e h nx u j wr h' i:=by
 have ht:=Mn hc ha;rw[Dl,hH]at ht;refine ⟨?_,hrows,hinv',hg,nofun⟩;have base:∀(val:AV),(∀y0,b_ h' u=Z y0->y0=val)->(b_ h' u=U->val=y)->gO P o (fM e h) (erHF h) ⟨val,rdl,wr',erHF h',N⟩:=by
  intro val hval hnone;refine gO.view ht (λnx' hi=>.inl (hsub nx' hi)) λh1 hr1 hw1=>?_
  have hd:rA (fw h1 wrl (jQ nw)) (fw h1 wr' (erHF h')):=by
   intro nx' b hb;unfold fw at hb ⊢
   grind
  let⟨q1,q2⟩:=hblk _ _ hd (λnx' hi=>by unfold fw;rw[aF hi]) (λnx' hi hw=>by unfold fw;rw[ax hw];exact hw1 nx' hi) (λnx' hi=>by unfold fw;rw[aF hi]);refine ⟨⟨hd,λnx' b b' hb D=>?_⟩,?_⟩
  .by_cases hi:nx'∈wr'
   .grind
   .unfold fw at hb D;rw[ax (λhw=>hi (hsub nx' hw))]at hb;rw[ax hi,hb]at D;cases D;exact gr.refl hd b
  .cases A:b_ h' u with
   |none=>rw[hnone A];exact kr.refl hd _
   |some y0=>rw[<- hval y0 A];exact q2 y0 A
 have hu:fw (erHF h) wr' (erHF h')=erHF h':=by
  unfold fw
  grind
 cases A:b_ h' u with
 |none=>exact⟨_,base y (λy0 z=>by rw[A]at z;cases z) (λ_=>rfl),λy0 z=>(by cases z),hu,hrd,hwr,hN⟩
 |some y0=>exact⟨_,base y0 (λy' z=>by rw[A]at z;cases z;rfl) (λhn=>by rw[A]at hn;cases hn),λy' z=>by cases z;rfl,hu,hrd,hwr,hN⟩
def Gw (hi:sL e h):∀(parts:Y m?) (cells cs:Y TV) (cells':Y AV),Nu cells e parts=Z cs->cM h cells=Z cells'->∃cs',Cj cells' (DK e h) parts=Z cs'/\cM h cs=Z cs'/\(lJ cells=J->lJ cs=J)
 |[],cells,cs,cells',hf,he=>by simp only[Nu,ah]at hf;subst hf;exact⟨cells',rfl,he,id⟩
 |(off,sz,x)::rest,cells,cs,cells',hf,he=>by
  simp only[Nu]at hf;split at hf
  .rename_i v hv;split at hf
   .rename_i q hq;split at hf
    .rename_i L;simp only[au,c5]at L;let⟨y,h1,h2⟩:=bi hi hv;let⟨N,h4⟩:=Kf hq h2;let⟨cs',h5,h6,h7⟩:=Gw hi rest (splice cells off q) cs (splice cells' off y.cs) hf (rk off he N);refine ⟨cs',?_,h6,λD=>h7 ?_⟩
     .simp only[Cj,h1];rw[aF,h5];simp only[au,c5];exact⟨⟨by rw[iC N];exact L.1,by rw[iC he];exact L.2⟩,tV N h4⟩
     .clear h5 h6 h7 hf;have app:∀a b:Y TV,lJ a=J->lJ b=J->lJ (a++b)=J:=by
       intro a b D hb;induction a with
       |nil=>exact hb
       |cons z r A=>simp only[lJ,au,gJ]at D ⊢;exact⟨D.1,A D.2⟩
      have tk:∀(a:Y TV) n,lJ a=J->lJ (a.take n)=J:=by
       intro a;induction a with
       |nil=>intro n h;simp[lJ]
       |cons z r A=>
        intro n h;cases n with
        |zero=>rfl
        |succ n=>simp only[lJ,au,yh]at h ⊢;exact⟨h.1,A n h.2⟩
      have dr:∀(a:Y TV) n,lJ a=J->lJ (a.drop n)=J:=by
       intro a;induction a with
       |nil=>intro n h;simp[lJ]
       |cons z r A=>
        intro n h;cases n with
        |zero=>exact h
        |succ n=>simp only[lJ,au,Kp]at h ⊢;exact A n h.2
      unfold splice
      grind
    .cases hf
   .cases hf
  .cases hf
variable (hinv:gZ h nx) (hi:sL e h)
include hinv hi
variable {X:FuncId->M cA} {W:TypeId->M Ty} {L:ξ}
def aq2 {parts:Y m?} (N:cV P o.op=Z (.build L parts)) (A:fc X W (.op (.build L parts)) e h nx K=Z r):jM P o b e h nx K r:=by
 simp[fc]at A;split at A
 .rename_i l z;split at A
  next cs hf=>let⟨h1,_,_⟩:=xH h z;let⟨cs',h2,h3,_⟩:=Gw hi parts l cs _ hf h1;refine jM.q (k:=0) (y0:=Rv cs') hinv N (λH _=>by simp[dO,h2]) (λy D=>?_) A;simp[b_,h3,ah]at D;subst D;exact aiw cs'
  .cases A
 .cases A
def ave (hc:cV P o.op=Z (.load i b c)) (A:fc X W (.op (.load i b c)) e h nx K=Z r):jM P o af e h nx K r:=by
 let⟨H,hH⟩:=gM h;simp only[fc]at A;split at A
 .rename_i id off hv;let⟨y,h1,L⟩:=bi hi hv;simp[b_,ah]at L;subst L;split at A
  .rename_i ty l N;split at A
   .rename_i v hs;let⟨l',hl⟩:=fF h l (hinv.C id _ l N);let⟨y,h3,h4⟩:=ahi hl hs;have hg:H.get (nm id)=Z ⟨ty,.mx l'⟩:=by rw[hH,bL,N];simp[aD,ky,hl]
    exact⟨v,gC id,0,h,nx,A,fC.pure (k:=0) hinv hc hH (y0:=y) (rdl:=[nm id]) (by simp[dO,h1,xM,hg,h4]) (cX h3) (λn D=>by simp[aC]at D;subst D;rw[dw];exact bt.2 rfl) nofun⟩
   .cases A
  .cases A
 .rename_i id sz' j off hv;let⟨y,h1,L⟩:=bi hi hv;simp[b_,ah]at L;subst L;split at A
  .rename_i ty p T xs N;split at A
   .rename_i hsz;have hsz:=av hsz;let⟨hj,A⟩:=cN A;split at A
    .rename_i v hs;let⟨y,h3,h4⟩:=ahj (h:=h) hj hs;have hne:¬((p&&l! xs==0)=J):=by
      have:=mI hj
      grind
     have hg:H.get (nm id)=Z ⟨ty,.fz (xs.flatMap (bM T))⟩:=by rw[hH,bL,N];simp only[aD,ky,ax hne]
     exact⟨v,gC id,0,h,nx,A,fC.pure (k:=0) hinv hc hH (y0:=.f y) (rdl:=[nm id]) (by simp[dO,h1,xM,hg,hsz,h4]) (cX h3) (λn D=>by simp[aC]at D;subst D;rw[dw];exact bt.2 rfl) nofun⟩
    .cases A
   .cases A
  .rename_i ty l N;split at A
   .cases A
   .split at A
    .rename_i hsz;simp only[au]at hsz;have e1:=av hsz.1.1;have e2:=av hsz.1.2;have e3:=av hsz.2;subst e1 e2 e3;split at A
     .rename_i T xs hA;let⟨hj,A⟩:=cN A;let⟨l',hl⟩:=fF h l (hinv.C id _ l N);have hg:H.get (nm id)=Z ⟨ty,.mx l'⟩:=by rw[hH,bL,N];simp[aD,ky,hl]
      have hlt:j.toNat<l! l:=by
       simp[dN,au,dz,gF,bS]at hj;omega
      let⟨z,hz1,hz2⟩:=me hl j.toNat _ (ada hA j.toNat hlt);exact⟨_,gC id,0,h,nx,A,fC.pure (k:=0) hinv hc hH (y0:=z) (rdl:=[nm id]) (by simp[dO,h1,xM,hg,BC.sub?,BC.get,Hy,dI,hz1]) (cX hz2) (λn D=>by simp[aC]at D;subst D;rw[dw];exact bt.2 rfl) nofun⟩
     .cases A
    .cases A
  .cases A
 .rename_i T xs j hj off hv;let⟨y,h1,L⟩:=bi hi hv;simp[b_,ah]at L;subst L;split at A
  next v hs=>let⟨y,h3,h4⟩:=ahj (h:=h) hj hs;exact jM.q (k:=0) (y0:=.f y) hinv hc (λH _=>by simp[dO,h1,xM,h4]) (cX h3) A
  .cases A
 .cases A
def aq3 (hc:cV P o.op=Z (.alloc s L)) (hk:fc X W (.op (.alloc s L)) e h nx K=Z r):jM P o af e h nx K r:=by
 have _:=hi;let⟨H,hH⟩:=gM h;simp[fc]at hk;split at hk
 .rename_i l hl;let⟨_,hz,_⟩:=xH h hl;have hnone:h.get nx=U:=by
   cases N:h.get nx with
   |none=>rfl
   |some b=>have:=hinv.low nx b N;omega
  have z:bY h (h.set nx (Z (.C (Z s) l))):=bY.set λr z=>by rw[bD,hnone]at z;cases z
  let⟨h1,_,_⟩:=xH (h.set nx (Z (.C (Z s) l))) hl;have hb':erHF (h.set nx (Z (.C (Z s) l))) (nm nx)=Z ⟨s,.mx (L.map raw)⟩:=by rw[bL,PT.get_set,aF rfl];simp[aD,ky,h1]
  refine ⟨_,_,_,_,_,hk,fC.mk' hc hH (k:=nm nx) (by rfl) [nm nx] (λi hi=>hi) (λn A=>?_) (λi hi b' _=>⟨⟨s,.fz (L.map .raw)⟩,?_⟩) (λH1 H2 d hw1 _ hw2=>⟨λi hi b b' N D=>?_,λy hy=>?_⟩) (by simp) ?_ ?_ z (hinv.set z (by omega) (by omega) λty' l' he=>?_) (by omega)⟩
  .refine mO hinv z (iL.set (by rw[hnone];rfl) rfl) λi e=>?_
   rw[PT.get_set,ax (λe=>A (by grind))]
  .simp[aC]at hi;subst hi;simp[jQ]
  .simp[aC]at hi;subst hi;rw[hw1 _ (by simp)]at N;rw[hw2 _ (by simp),hb']at D;rw[fg]at N;simp[ah]at N D;subst N D;refine gr.C rfl rfl ?_ λx hx=>?_
   .simp[BC.toMx,kM];exact gX.refl d _
   .simp only[BC.toMx]at hx;obtain⟨q,hq,rfl⟩:=cu.1 hx;exact hz q hq
  .simp[b_,ah]at hy;subst hy;exact kr.refl d _
  .intro n A;simp[aC]at A;subst A;rw[dw];exact bt.2 rfl
  .intro n A;simp[aC]at A;subst A;rw[dw];omega
  .cases he;exact lT _ _ _ h1
 .cases hk
def azg (hc:cV P o.op=Z (.box s c)) (L:fc X W (.op (.box s c)) e h nx K=Z r):jM P o af e h nx K r:=by
 let⟨H,hH⟩:=gM h;simp[fc]at L;split at L
 .rename_i v hv;split at L
  .rename_i l hl;let⟨y,h1,h2⟩:=bi hi hv;let⟨h3,h4⟩:=Kf hl h2;have hcell:=tV h3 h4;have hnone:h.get nx=U:=by
    cases N:h.get nx with
    |none=>rfl
    |some b=>have:=hinv.low nx b N;omega
   have z:bY h (h.set nx (Z (.C (Z s) l))):=bY.set λr z=>by rw[bD,hnone]at z;cases z
   have h5:=gV z l _ h3;have hb':erHF (h.set nx (Z (.C (Z s) l))) (nm nx)=Z ⟨s,.mx y.cs⟩:=by rw[bL,PT.get_set,aF rfl];simp[aD,ky,h5]
   refine ⟨_,_,_,_,_,L,fC.mk' hc hH (k:=nm nx) (by simp only[dO,h1,hcell,bq];rfl) [nm nx] (λi hi=>hi) (λn A=>?_) (λi hi b' _=>⟨⟨s,oz y.cs⟩,?_⟩) (λH1 H2 d hw1 _ hw2=>⟨λi hi b b' N D=>?_,λy hy=>?_⟩) (by simp) ?_ ?_ z (hinv.set z (by omega) (by omega) λty' l' he=>?_) (by omega)⟩
   .refine mO hinv z (iL.set (by rw[hnone];rfl) rfl) λi e=>?_
    rw[PT.get_set,ax (λe=>A (by grind))]
   .simp[aC]at hi;subst hi;simp[jQ]
   .simp[aC]at hi;subst hi;rw[hw1 _ (by simp)]at N;rw[hw2 _ (by simp),hb']at D;rw[fg]at N;simp[ah]at N D;subst N D;let⟨q1,q2⟩:=nF y.cs;refine gr.C q2 rfl ?_ λc hx=>?_
    .rw[q1];exact gX.refl d _
    .exact mR hcell c hx
   .simp[b_,ah]at hy;subst hy;exact kr.refl d _
   .intro n A;simp[aC]at A;subst A;rw[dw];exact bt.2 rfl
   .intro n A;simp[aC]at A;subst A;rw[dw];omega
   .cases he;exact lT _ _ _ h5
  .cases L
 .cases L
def aq0 {l:Operand} (hcm:Hf (W s)=U) (hc:cV P o.op=Z (.zh s i j L l c)) (A:fc X W (.op (.zh s i j L l c)) e h nx K=Z r):jM P o af e h nx K r:=by
 let⟨H,hH⟩:=gM h;simp only[fc,hcm]at A;split at A
 .rename_i T k a k' b hT hv hv2;split at A
  .rename_i hsz;simp only[au]at hsz;have hs:=av hsz.1;have hz:=OV hsz.2;subst hs hz;let⟨hck,A⟩:=cN A;let⟨y,h1,h2⟩:=bi hi hv;let⟨y2,h3,h4⟩:=bi hi hv2;simp[b_,ah]at h2 h4;subst h2 h4;have hnone:h.get nx=U:=by
    cases hb:h.get nx with
    |none=>rfl
    |some b=>have:=hinv.low nx b hb;omega
   generalize hB:fk.F s af T (aG (aN a) T.zero)=B at A;have N:bY h (h.set nx (Z B)):=bY.set λr N=>by rw[bD,hnone]at N;cases N
   have hb':erHF (h.set nx (Z B)) (nm nx)=Z ⟨s,.fz ((aG (aN a) T.zero).flatMap (bM T))⟩:=by rw[bL,PT.get_set,aF rfl,<-hB];simp[ky]
   refine ⟨_,_,_,_,_,A,fC.mk' hc hH (k:=nm nx) (by simp only[dO,h1,h3,gz,hck,bq];rfl) [nm nx] (λsz hi=>hi) (λn D=>?_) (λsz hi b' _=>⟨⟨s,.fz (repl (uZ T) (aN a))⟩,?_⟩) (λH1 H2 d hw1 _ hw2=>⟨λsz hi b b' hb z=>?_,λy hy=>?_⟩) (by simp) ?_ ?_ N (hinv.set N (by omega) (by omega) λty' l' he=>?_) (by omega)⟩
   .refine mO hinv N (iL.set (by rw[hnone];rfl) (by rw[<- hB];rfl)) λsz e=>?_
    rw[PT.get_set,ax (λe=>D (by grind))]
   .simp[aC]at hi;subst hi;simp[jQ]
   .simp[aC]at hi;subst hi;rw[hw1 _ (by simp)]at hb;rw[hw2 _ (by simp),hb']at z;rw[fg]at hb;simp[ah]at hb z;subst hb z;refine gr.C rfl rfl (Lt d T _) λx hx=>?_
    obtain⟨q,hq,rfl⟩:=cu.1 hx;exact md T _ q hq
   .simp[b_,bD,PT.get_set,bq,<-hB,aD,iM,dA,kN,cZ,dZ,ah,dy]at hy;subst hy;exact kr.refl d _
   .intro n D;simp[aC]at D;subst D;rw[dw];exact bt.2 rfl
   .intro n D;simp[aC]at D;subst D;rw[dw];omega
   .grind
  .cases A
 .cases A
end ops
def Dj {f:R->Y FV} (hf:∀x,l! (f x)=i):∀(xs:Y R) (j:Nat),(xs.take j).flatMap f=(xs.flatMap f).take (j*i)
 |[],j|x::r,0=>by simp
 |x::r,j+1=>by
  rw[yh,f_,f_,Dj hf r j,show (j+1)*i=l! (f x)+j*i from by rw[hf,jF];omega,List.take_length_add_append]
def Ns {f:R->Y FV} (hf:∀x,l! (f x)=i):∀(xs:Y R) (j:Nat),(xs.drop j).flatMap f=(xs.flatMap f).drop (j*i)
 |[],j|x::r,0=>by simp
 |x::r,j+1=>by
  rw[Kp,f_,Ns hf r j,show (j+1)*i=l! (f x)+j*i from by rw[hf,jF];omega,List.drop_length_add_append]
variable {L:ξ}
def Vi :∀(n:Nat) (x:FV),x∈repl L n->∃v∈L,x= .raw v
 |0,x,h=>by simp[repl]at h
 |n+1,x,h=>by
  rw[repl,bO]at h;rcases h with h|h
  .grind
  .exact Vi n x h
def Kh:∀l:Y FV,(∀x∈l,x.isCell=J)->gG (l.map .f)=J
 |[],_=>rfl
 |z::r,h=>by simp[ch,gG,au];exact⟨h z (by simp),Kh r λx A=>h x (by grind)⟩
section ops
variable {R:Type} {P:Program} {o:Oper} {e:hX} {h:aZ} {nx:Nat} {K:KO R} {r:R}
def gZ.fresh (hinv:gZ h nx):h.get nx=U:=by
 cases z:h.get nx with
 |none=>rfl
 |some b=>have:=hinv.low nx b z;omega
def rA.kill (hinv:gZ h nx) (hm:dP h i):rA (erHF h) (erHF (dU i h)):=λn b N=>by
 let⟨c,z,A⟩:=iR N;rw[iQ]at z;by_cases ht:aO i (ow n)=J
 .obtain⟨pp,ss,nn,L⟩:=vN hm ht;rw[iQ]at L;rw[L]at z;cases z;cases D:ix n with
  |_=>rw[D]at A;cases A
 .rw[ax ht]at z;refine ⟨b,?_⟩;unfold erHF;rw[z];simp[aD];rw[<- mf (bY.kill i h) (λty l e=>hinv.C (ow n) _ l (by rw[z,e]))];exact A
def dP.lt (hinv:gZ h nx) (hm:dP h j) (hi:aO j i=J):i<nx:=by
 let⟨_,_,_,_,z⟩:=hm i hi;exact hinv.low i _ z
def fC.new {s:UP} (hinv:gZ h nx) (hc:cV P o.op=Z s) {H:mU} (hH:H.get=erHF h) {y0:AV} {rdl:ι} {b0:kx} (ha:dO s (DK e h) H (nm nx)=Z ⟨y0,rdl,[nm nx],[(nm nx,b0)],[nm nx]⟩) {B:fk} {v:TV} {m rd:Nat} (hm:dP h m)
 (hB:∀ty l,B= .C ty l->lN ((dU m h).set nx (Z B)) l=J)
 (hblk:∀A z,rA A z->Fm h A z m->∀b',ky ((dU m h).set nx (Z B)) B=Z b'->gr A z b0 b')
 (hval:∀A z y,rA A z->Fm h A z m->b_ ((dU m h).set nx (Z B)) v=Z y->kr A z y0 y)
 (hrd:∀n∈rdl,aO rd (ow n)=J) (hMem:∀i k,wS i k B=U:=by exact λ_ _=>rfl):fC P o af e h nx v rd (m|||gC nx) ((dU m h).set nx (Z B)) (nx+1):=by
 have hk:=hinv.kill m;have hme:iL h ((dU m h).set nx (Z B)):=(iL.kill hm).trans (iL.at_ λk=>by rw[hk.fresh];exact hMem nx k);have hr0:=bY.kill m h;have N:bY (dU m h) ((dU m h).set nx (Z B)):=bY.set λr hr=>by rw[bD,hk.fresh]at hr;cases hr
 have hr:=hr0.trans N;have hgiv:∀i,aO m i=J->erHF ((dU m h).set nx (Z B)) (nm i)=U:=λi hi=>by
  have hlt:=hm.lt hinv hi;let⟨p,sz,n,hd⟩:=vN hm hi;rw[bL,PT.get_set,ax (by omega),hd];rfl
 refine fC.mk' hc hH ha (nm nx::Jh m) (λi hi=>by simp[aC]at hi;subst hi;simp) (λn D=>?_) (λi hi b' hb'=>?_) (λA z d hw1 hw0 L=>?_) hrd ?_ ?_ hr (hk.set N (by omega) (by omega) hB) (by omega)
 .refine mO hinv hr hme λi e=>?_
  subst e;rw[PT.get_set,ax (λe=>D (by grind)),iQ,ax];intro hb;exact D (cg _ (mD.2 hb))
 .rcases a_.1 hi with rfl|hi
  .exact⟨b0,by rw[aF (by simp),fg]⟩
  .obtain⟨j,rfl,hj⟩:=oZ.1 hi
   grind
 .have g:Fm h A z m:=λi hi=>by
   have hlt:=hm.lt hinv hi;have hmem:nm i∈nm nx::Jh m:=cg _ (mD.2 hi);exact⟨hw0 _ hmem (λhc=>by simp[aC]at hc;have:=uL hc;omega),by rw[L _ hmem,hgiv i hi]⟩
  refine ⟨λi hi b b' hb hb2=>?_,λy hy=>hval A z y d g hy⟩;rcases a_.1 hi with rfl|hi'
  .rw[hw1 _ (by simp),fg]at hb;rw[L _ hi,bL,PT.get_set,aF rfl]at hb2
   grind
  .obtain⟨j,rfl,hj⟩:=oZ.1 hi'
   grind
 .intro n D;rw[bw];rcases a_.1 D with rfl|D
  .rw[dw,bt.2 rfl];simp
  .obtain⟨j,rfl,hj⟩:=oZ.1 D;rw[dw,hj];rfl
 .intro n D;simp[aC]at D;subst D;rw[dw];omega
def fC.wrt {s:UP} (hinv:gZ h nx) (hc:cV P o.op=Z s) {H:mU} (hH:H.get=erHF h) {y0:AV} {rdl:ι} {b0:kx} {k:Nat} (ha:dO s (DK e h) H k=Z ⟨y0,rdl,[nm i],[(nm i,b0)],[]⟩) {B0 B:fk} (hb0:h.get i=Z B0) {v:TV} {m rd:Nat} (hm:dP h m) (hmid:aO m i=af)
 (hrow:iM B=iM B0) (hB:∀ty l,B= .C ty l->lN ((dU m h).set i (Z B)) l=J)
 (hblk:∀A z,rA A z->Fm h A z m->∀b',ky ((dU m h).set i (Z B)) B=Z b'->gr A z b0 b')
 (hval:∀A z y,rA A z->Fm h A z m->b_ ((dU m h).set i (Z B)) v=Z y->kr A z y0 y)
 (hrd:∀n∈rdl,aO rd (ow n)=J) (hMem:∀k,wS i k B=wS i k B0:=by exact λ_=>rfl):fC P o af e h nx v rd (m|||gC i) ((dU m h).set i (Z B)) nx:=by
 have hk:=hinv.kill m;have hr0:=bY.kill m h;have hkid:(dU m h).get i=Z B0:=by rw[iQ,hmid];simpa using hb0
 have N:bY (dU m h) ((dU m h).set i (Z B)):=bY.set λr hr=>by rw[bD,hkid]at hr;rw[hrow];exact hr
 have hme:iL h ((dU m h).set i (Z B)):=(iL.kill hm).trans (iL.at_ λk=>by rw[hkid];exact hMem k);have hr:=hr0.trans N;have hgiv:∀id,aO m id=J->erHF ((dU m h).set i (Z B)) (nm id)=U:=λid hi=>by
  have hne:id≠i:=λe=>by grind
  let⟨p,sz,n,hd⟩:=vN hm hi;rw[bL,PT.get_set,ax hne,hd];rfl
 refine fC.mk' hc hH ha (nm i::Jh m) (λid hi=>by simp[aC]at hi;subst hi;simp) (λn D=>?_) (λid hi b' hb'=>?_) (λA z d hw1 hw0 L=>?_) hrd ?_ (by simp) hr (hk.set N (hinv.low i B0 hb0) (by omega) hB) (by omega)
 .refine mO hinv hr hme λid e=>?_
  subst e;rw[PT.get_set,ax (λe=>D (by grind)),iQ,ax];intro hb;exact D (cg _ (mD.2 hb))
 .rcases a_.1 hi with rfl|hi
  .exact⟨b0,by rw[aF (by simp),fg]⟩
  .obtain⟨j,rfl,hj⟩:=oZ.1 hi
   grind
 .have g:Fm h A z m:=λid hi=>by
   have hne:id≠i:=λe=>by grind
   have hmem:nm id∈nm i::Jh m:=cg _ (mD.2 hi);exact⟨hw0 _ hmem (λhc=>by simp[aC]at hc;exact hne (uL hc)),by rw[L _ hmem,hgiv id hi]⟩
  refine ⟨λid hi b b' hb hb2=>?_,λy hy=>hval A z y d g hy⟩;rcases a_.1 hi with rfl|hi'
  .rw[hw1 _ (by simp),fg]at hb;rw[L _ hi,bL,PT.get_set,aF rfl]at hb2
   grind
  .obtain⟨j,rfl,hj⟩:=oZ.1 hi'
   grind
 .intro n D;rw[bw];rcases a_.1 D with rfl|D
  .rw[dw,bt.2 rfl];simp
  .obtain⟨j,rfl,hj⟩:=oZ.1 D;rw[dw,hj];rfl
def Rl (h:aZ) {A:Y TV} (D:Ou L=Z A):∀len,cM h (aG len A).flatten=Z ((repl L len).map .f)
 |0=>rfl
 |n+1=>by
  rw[yi,List.flatten_cons,repl,cr];refine oF ?_ (Rl h D n);rw[(xH h D).1];simp only[kM];rfl
def SJ {H:mU} (hH:H.get=erHF h) {L:Y T.den} (A:Hm h (.sl T) u=Z (L,i)) (D:b_ h u=Z y):∃rd,y.row? H T.size=Z ((L.flatMap (bM T)).map .f,l! L,rd)/\∀n∈rd,∃m,n=nm m/\aO i m=J:=by
 have fl:=λzs:Y T.den=>fx (bu T) zs
 have tk:∀zs:Y T.den,(zs.flatMap (bM T)).take (zs.length*T.size)=zs.flatMap (bM T):=λzs=>by grind
 cases u with
 |f S x=>
  simp[Hm,iS]at A;split at A
  next z N=>obtain⟨e,rfl⟩:=jA N;subst e;simp[b_,ah]at D;subst D;simp only[gz,AV.row?];simp_all
  .cases A
 |emp|nil=>
  obtain⟨rfl,_⟩:=A;simp[b_,ah]at D;subst D;exact⟨[],rfl,by simp⟩
 |G id=>
  simp[Hm,iS]at A;split at A
  .rename_i ty p S xs hb;split at A
   .rename_i z N;obtain⟨rfl,rfl⟩:=A;obtain⟨e,rfl⟩:=jA N;cases e;simp[b_,eR,hb,ah]at D;subst D;unfold dA;split
    next hp=>simp only[au,c5]at hp;have:xs=[]:=dH.1 hp.2;subst this;exact⟨[],rfl,by simp⟩
    .rename_i hp;have hg:H.get (nm id)=Z ⟨ty,.fz (xs.flatMap (bM T))⟩:=by rw[hH,bL,hb];simp only[aD,ky,ax hp]
     refine ⟨[nm id],?_,λn hn=>?_⟩
     .simp only[AV.row?,hg,cw,bq,BC.isCells,BC.len,du];rw[aF (bj (by grind))];simp[BC.toMx,<-gI,tk]
     .simp[aC]at hn;exact⟨id,hn,bt.2 rfl⟩
   .cases A
  .cases A
 |agg l=>simp[Hm,Ty.one]at A
 |_=>simp[Hm,iS]at A
def Zb (z:b_ h u=Z y) (A:u.isC=J):gG y.cs=J:=by
 rw[SX (Tl z A)];simp[gG,Bool.and_true];exact Tl z A
def afh (T:Ty) (x:T.den):gG ((bM T x).map .f)=J:=by
 have:∀l:Y FV,(∀x∈l,x.isCell=J)->gG (l.map .f)=J:=by
  intro l A;induction l with
  |nil=>rfl
  |cons z r D=>simp[ch,gG,au];exact⟨A z (by simp),D λx L=>A x (by grind)⟩
 exact this _ (ph T x)
def gW {v:TV} {x:T.den} (A:iS h T v=Z (x,i)) (D:b_ h v=Z y):gG y.cs=J:=by
 cases v with
 |f S v=>simp[b_,ah]at D;subst D;rw[Dn];exact afh S v
 |emp|nil|G id=>exact Zb D rfl
 |_=>simp[iS]at A
def LR (L:T.one=J) {x:T.den} (A:iS h T u=Z (x,i)):u.isC=J:=by
 cases u with
 |f S u=>
  simp[iS]at A;split at A
  next z D=>let⟨e,_⟩:=jA D;subst e;exact L
  .cases A
 |emp|nil|G id=>rfl
 |_=>simp[iS]at A
def X7 {a b:Y TV} (A:lJ a=J) (L:lJ b=J):lJ (a++b)=J:=by
 induction a with
 |nil=>exact L
 |cons z r D=>simp[lJ,au,gJ]at A ⊢;exact⟨A.1,D A.2⟩
def vL:∀(n:Nat) (T:Ty) (l:Y TV) (x:T.den) (m:Nat) (r:Y TV),fI h n T l=Z (x,m,r)->∃a,l=a++r/\lJ a=J
 |0,_,_,_,_,_,hp=>by simp[fI]at hp
 |n+1,.st t,l,x,m,r,hp=>vL n t l x m r hp
 |n+1,.pr a b,l,x,m,r,hp=>by
  simp[fI]at hp;split at hp
  .rename_i z m1 A h1;split at hp
   next D m2 L N=>simp[ah,aU]at hp;obtain⟨_,_,rfl⟩:=hp;obtain⟨a1,rfl,g1⟩:=vL n a l z m1 A h1;obtain⟨a2,rfl,g2⟩:=vL n b A D m2 L N;exact⟨a1++a2,by simp,X7 g1 g2⟩
   .cases hp
  .cases hp
 |n+1,.un,l,x,m,r,hp=>by
  obtain⟨_,_,rfl⟩:=hp;exact⟨[],rfl,rfl⟩
 |n+1,.ex,l,x,m,r,hp=>by
  simp[fI]at hp;split at hp
  next z m1 A h1=>simp[ah,aU]at hp;obtain⟨_,_,rfl⟩:=hp;exact vL n RK l z m1 A h1
  .cases hp
 |n+1,.sm,l,x,m,r,hp=>by
  simp[fI]at hp;split at hp
  next z m1 A h1=>simp[ah,aU]at hp;obtain⟨_,_,rfl⟩:=hp;exact vL n Rf l z m1 A h1
  .cases hp
 |n+1,.int k,l,x,m,r,hp|n+1,.bool,l,x,m,r,hp|n+1,.str,l,x,m,r,hp|n+1,.sl t,l,x,m,r,hp=>by
  simp[fI]at hp;split at hp
  .rename_i c q;split at hp
   next z m1 h1=>obtain⟨_,_,rfl⟩:=hp;exact⟨[c],rfl,by simp[lJ,LR rfl h1]⟩
   .cases hp
  .cases hp
def OY {x:T.den} (D:Hm h T u=Z (x,i)) (A:b_ h u=Z y):gG y.cs=J:=by
 cases u with
 |agg l=>
  simp only[Hm]at D;split at D
  .cases D
  .split at D
   .rename_i L m1 h1;let⟨a,e,ga⟩:=vL 40 T l L m1 [] h1;rw[io]at e;subst e;simp[b_]at A;split at A
    next l' hl=>simp[ah]at A;subst A;exact tV hl ga
    .cases A
   .cases D
 |f S u=>exact gW (v:=.f S u) D A
 |zd T xs j hj off=>exact gW (v:=.zd T xs j hj off) D A
 |zg id sz j off=>exact gW (v:=.zg id sz j off) D A
 |H id off=>exact gW (v:=.H id off) D A
 |qy id off z=>exact gW (v:=.qy id off z) D A
 |G id=>exact gW (v:=.G id) D A
 |emp=>exact gW (v:=.emp) D A
 |nil=>exact gW (v:=.nil) D A
 |mp id=>exact gW (v:=.mp id) D A
 |zl id N=>exact gW (v:=.zl id N) D A
 |qg q=>exact gW (v:=.qg q) D A
 |qv g q=>exact gW (v:=.qv g q) D A
 |undef=>exact gW (v:=.undef) D A
 |np=>exact gW (v:=.np) D A
 |qw=>exact gW (v:=.qw) D A
 |sb q=>exact gW (v:=.sb q) D A
def od (D:b_ h u=Z y):∀(n:Nat) (T:Ty) (v:T.den) (off sz:Nat) (z:T.den) (m:Nat),gP h u n T v off sz=Z (z,m)->gG y.cs=J
 |0,_,_,_,_,_,_,A=>by simp[gP]at A
 |n+1,.st t,v,off,sz,z,m,A=>by
  simp[gP]at A;split at A
  .rename_i q L;split at L
   .exact OY L D
   .cases L
  .exact od D n t v off sz z m A
 |n+1,.pr a b,v,off,sz,z,m,A=>by
  simp[gP]at A;split at A
  .split at A
   next N m1 h1=>exact od D n a v.1 off sz N m1 h1
   .cases A
  .split at A
   next N m1 h1=>exact od D n b v.2 _ sz N m1 h1
   .cases A
 |n+1,.un,v,off,sz,z,m,A=>by simp[gP]at A
 |n+1,.ex,v,off,sz,z,m,A=>by
  simp[gP]at A;split at A
  .rename_i q L;split at L
   .exact OY L D
   .cases L
  .split at A
   next N m1 h1=>exact od D n RK _ off sz N m1 h1
   .cases A
 |n+1,.sm,v,off,sz,z,m,A=>by
  simp[gP]at A;split at A
  .rename_i q L;split at L
   .exact OY L D
   .cases L
  .split at A
   next N m1 h1=>exact od D n Rf _ off sz N m1 h1
   .cases A
 |n+1,.int k,v,off,sz,z,m,A|n+1,.bool,v,off,sz,z,m,A|n+1,.str,v,off,sz,z,m,A|n+1,.sl t,v,off,sz,z,m,A=>by
  simp only[gP]at A;split at A
  .exact gW A D
  .cases A
def O1 (l:Y FV):zF (l.map .f)=Z l:=by
 induction l with
 |nil=>rfl
 |cons x r z=>simp[ch,zF,z]
def yK (l:Y FV):oz (l.map .f)= .fz l:=by unfold oz;rw[O1]
def Ki:∀{a b:Y TV},lJ a=J->lJ b=J->lJ (a++b)=J
 |[],_,_,z=>z
 |x::r,b,A,z=>by
  simp[lJ,au]at A;simp[gJ,lJ,au];exact⟨A.1,Ki A.2 z⟩
def IW {z:Y TV} (A:lJ z=J):∀n,lJ (aG n z).flatten=J
 |0=>rfl
 |n+1=>by exact Ki A (IW A n)
def acw {H:mU} (L:H.get=erHF h) {l:Y TV} {l':Y AV} (D:h.get i=Z (.C (Z j) l)) (z:cM h l=Z l') {n sz:Nat} (N:l! l=n*sz):AV.row? H sz (.G (nm i) sz n)=Z (l',n,[nm i]):=by
 have A:H.get (nm i)=Z ⟨j,.mx l'⟩:=by rw[L,bL,D];simp[aD,ky,z]
 have hln:=iC z;simp only[AV.row?,cw,bq,A,BC.isCells,du,BC.len,BC.toMx];rw[aF (bj (by omega)),iG (by omega)]
variable (hinv:gZ h nx) (hi:sL e h)
include hinv hi
variable {X:FuncId->M cA} {W:TypeId->M Ty}
def avj {parts:Y m?} (hcm:Hf (W s)=U) (hc:cV P o.op=Z (.xw s i j L parts)) (D:fc X W (.op (.xw s i j L parts)) e h nx K=Z r):jM P o af e h nx K r:=by
 let⟨H,hH⟩:=gM h;simp only[fc,hcm]at D;split at D
 .rename_i T zc hT hz;split at D
  .rename_i hs;have hs:=av hs;subst hs;split at D
   .rename_i cs hf;split at D
    .rename_i xs m hp;let⟨cs',h1,h2,_⟩:=Gw hi parts _ cs _ hf (Rl h hz j);have hm:=SM j cs xs m hp;refine ⟨_,_,_,_,_,D,fC.new hinv hc hH (y0:=if j=0 then .emp else .G (nm nx) T.size j) (rdl:=[]) (b0:=⟨s,oz cs'⟩) (by simp[dO,h1]) hm (λ_ _ he=>by cases he) (λH1 H2 d g b' A=>?_) (λH1 H2 y d g N=>?_) (by simp)⟩
     .simp only[ky]at A;split at A
      .cases A
      rw[ah]at A;subst A;let⟨q1,q2⟩:=nF cs';refine gr.C q2 rfl ?_ λx hx=>?_
      .rw[q1];exact (FL d j cs xs m cs' hp h2 g).1
      .simp only[BC.toMx]at hx;obtain⟨q,z,rfl⟩:=cu.1 hx;exact md T _ q z
     .simp only[b_,bD,PT.get_set,bq,aD,iM,dA,ah]at N;rw[(FL d j cs xs m cs' hp h2 g).2]at N;split at N
      next z=>simp only[au,c5]at z;subst N;rw[aF z.2];exact kr.refl d _
      next z=>subst N;rw[ax (λh0=>z (by simp_all))];exact kr.refl d _
    .cases D
   .cases D
  .cases D
 .cases D
def Uz {H:mU} (hH:H.get=erHF h) {ty:Operand} {D:Y T.den} {yy:AV} {rdl:ι} (hc:cV P o.op=Z (.app s T.size i ty c)) (h1:mN (DK e h) ty=Z y) (h2:b_ h u=Z y) (h3:mN (DK e h) c=Z yy) (h5:yy.row? H T.size=Z ((D.flatMap (bM T)).map .f,l! D,rdl)) (h6:∀n∈rdl,aO j (ow n)=J) (N:ap1 s T.size i T u D j h nx K=Z r):jM P o af e h nx K r:=by
 have hfr:=hinv.fresh;have _:=hi;unfold ap1 at N;have onEmp:∀(rd':Nat),(∀n∈rdl,aO rd' (ow n)=J)->E9 y=J->Le y .emp->bh (aj D) i=J->fC P o af e h nx (.G nx) rd' (gC nx) (h.set nx (Z (.F s J T D))) (nx+1):=by
  intro rd' hrd' he hle hroom;have hr1:bY h (h.set nx (Z (.F s J T D))):=bY.set λr hr=>by rw[bD,hfr]at hr;cases hr
  have hyb:∀id sz' n,y≠ .G id sz' n:=by rintro id sz' n rfl;cases he
  have A:dO (.app s T.size i ty c) (DK e h) H (nm nx)=if aj D==0 then Z ⟨y,rdl,[],[],[]⟩ else Z ⟨.G (nm nx) T.size (aj D),rdl,[nm nx],[(nm nx,⟨s,oz ((D.flatMap (bM T)).map .f)⟩)],[nm nx]⟩:=by
   simp only[dO,h1,h3,h5];cases y with
   |G id sz' n=>exact bC rfl (hyb id sz' n)
   |_=>simp only[he,hroom,ip,bq]
  by_cases hl:aj D=0
  .rw[hl]at A;simp only[cw,bq]at A;have hnil:D=[]:=dH.1 hl;subst hnil;refine fC.mk' hc hH A [] (by simp) (λn _=>?_) (by simp) (λH1 H2 d _ _ _=>⟨by simp,λyb L=>?_⟩) hrd' (by simp) (by simp) hr1 (hinv.set hr1 (by omega) (by omega) λ_ _ he=>by cases he) (by omega)
   .by_cases z:n=nm nx
    .subst z;rw[bL,bL,PT.get_set,aF rfl,hfr];rfl
    .refine mO hinv hr1 (iL.set (by rw[hfr];rfl) rfl) λbytes e=>?_
     subst e;rw[PT.get_set,ax (λe=>z (by rw[e]))]
   .simp only[b_,bD,PT.get_set,bq,aD,iM,dA,pK,cw,ip,ah]at L;subst L;exact hle.toH d
  .rw[ax (by simpa using hl)]at A;rw[yK]at A;have key:=fC.new (m:=0) (rd:=rd') hinv hc hH A (B:=.F s J T D) (v:=.G nx) (dP.zero h) (λ_ _ he=>by cases he) (λH1 H2 d g b' hb'=>by
    simp only[ky]at hb';rw[ax (by simpa using hl)]at hb';cases hb';exact gr.refl d _) (λH1 H2 yb d g L=>by
    simp only[b_,bD,PT.get_set,bq,aD,iM,dA]at L;rw[ax (by simpa using hl)]at L;cases L;exact kr.refl d _) hrd'
   rw[wL]at key;exact key
 split at N
 .rename_i id;split at N
  .rename_i ty' p S xs0 hb;split at N
   .rename_i xs hxs;obtain⟨ee,rfl⟩:=jA hxs;cases ee;split at N
    .rename_i hcond;simp only[au,c5,cW]at hcond;obtain⟨rfl,hmid⟩:=hcond;let⟨hroom,N⟩:=cN N;simp only[b_,eR,hb,ah]at h2;have hidlt:=hinv.low id _ hb;have hne:nx≠id:=by omega
     have hrd:∀n∈rdl,aO (gC id|||j) (ow n)=J:=λn z=>by
      rw[bw,h6 n z];simp
     generalize hh':(h.set id (Z (.qj p T.size (aj xs0)))).set nx (Z (.F ty' p T (xs0++D)))=h' at N;have hrA:bY h (h.set id (Z (.qj p T.size (aj xs0)))):=bY.set λr hr=>by rw[bD,hb]at hr;exact hr
     have hg2:∀bytes,h'.get bytes=if bytes=nx then Z (.F ty' p T (xs0++D)) else if bytes=id then Z (.qj p T.size (aj xs0)) else h.get bytes:=λbytes=>by rw[<- hh',PT.get_set,PT.get_set]
     have hr:bY h h':=by
      rw[<- hh'];refine hrA.trans (bY.set λr hr=>?_);rw[bD,PT.get_set,ax hne,hfr]at hr;cases hr
     have hinv':gZ h' (nx+1):=by
      refine ⟨λbytes s l hil=>?_,λbytes x hic=>?_⟩
      .rw[hg2]at hil;split at hil
       .cases hil
       .split at hil
        .cases hil
        .exact fy hr l (hinv.C bytes _ l hil)
      .rw[hg2]at hic;split at hic
       .omega
       .split at hic
        .omega
        .have:=hinv.low bytes x hic;omega
     have hme:iL h h':=(iL.of λbytes=>by
      rw[hg2];by_cases e1:bytes=nx
      .rw[aF e1,e1,hfr];exact .inr ⟨rfl,rfl⟩
      .rw[ax e1];by_cases e2:bytes=id
       .rw[aF e2,e2,hb];exact .inr ⟨rfl,rfl⟩
       .rw[ax e2];exact .inl rfl)
     have hsame:∀n,n≠nm nx->n≠nm id->erHF h' n=erHF h n:=λn h1 h2=>mO hinv hr hme λbytes e=>by
      subst e;rw[hg2,ax (λe=>h1 (by rw[e])),ax (λe=>h2 (by rw[e]))]
     have hdead:erHF h' (nm id)=U:=by rw[bL,hg2,ax (by omega),aF rfl];rfl
     have hnew:erHF h' (nm nx)=if p&&l! (xs0++D)==0 then U else Z ⟨ty',.fz ((xs0++D).flatMap (bM T))⟩:=by rw[bL,hg2,aF rfl];rfl
     have hval:b_ h' (.G nx)=Z (dA p nx T.size (l! (xs0++D))):=by simp only[b_,bD,hg2,bq,aD,iM]
     have hwm:∀n,n=nm nx\/n=nm id->aO (gC id|||gC nx) (ow n)=J:=λn z=>by
      rcases z with rfl|rfl<;>rw[dw,bw,bt.2 rfl]<;>simp
     refine ⟨_,_,_,_,_,N,?_⟩;by_cases hp:(p&&l! xs0==0)=J
     ·
      have hyb:y= .emp:=by rw[<- h2];unfold dA;rw[aF hp]
      subst hyb;simp only[au,c5]at hp;obtain⟨rfl,hl0⟩:=hp;have hnil:xs0=[]:=dH.1 hl0;subst hnil;have hroom':bh (aj D) i=J:=by simpa using hroom
      have A:dO (.app ty' T.size i ty c) (DK e h) H (nm nx)=if aj D==0 then Z ⟨.emp,rdl,[],[],[]⟩ else Z ⟨.G (nm nx) T.size (aj D),rdl,[nm nx],[(nm nx,⟨ty',oz ((D.flatMap (bM T)).map .f)⟩)],[nm nx]⟩:=by
       simp only[dO,h1,h3,h5,E9,hroom',ip,bq]
      have hdead0:erHF h (nm id)=U:=by rw[bL,hb];rfl
      by_cases hl:aj D=0
      .rw[hl]at A;simp only[cw,bq]at A;have hnil:D=[]:=dH.1 hl;subst hnil;refine fC.mk' hc hH A [] (by simp) (λn _=>?_) (by simp) (λH1 H2 d _ _ _=>⟨by simp,λyb L=>?_⟩) hrd (by simp) (by simp) hr hinv' (by omega)
       .by_cases z:n=nm nx
        .subst z;rw[hnew,bL,hfr];rfl
        .by_cases hn2:n=nm id
         .subst hn2;rw[hdead,hdead0]
         .exact hsame n z hn2
       .rw[hval]at L;simp only[dA,io,pK,cw,ip,bq,ah]at L;subst L;exact kr.refl d _
      .rw[ax (by simpa using hl),yK]at A;refine fC.mk' hc hH A [nm nx] (λbytes hi=>hi) (λn z=>?_) (λbytes hi b' _=>⟨_,by rw[aF hi];simp only[aC]at hi;subst hi;exact fg _ _⟩) (λH1 H2 d hw1 _ hw2=>⟨λbytes hi u b' hb1 hb2=>?_,λyb L=>?_⟩) hrd (λn z=>hwm n (.inl (by simpa using z))) (λn z=>by simp only[aC]at z;subst z;rw[dw];omega) hr hinv' (by omega)
       .have hn1:n≠nm nx:=by simpa using z
        by_cases hn2:n=nm id
        .subst hn2;rw[hdead,hdead0]
        .exact hsame n hn1 hn2
       .simp only[aC]at hi;subst hi;rw[hw1 _ (by simp),fg]at hb1;rw[hw2 _ (by simp),hnew,ax (by simpa using hl)]at hb2;simp only[ah,kW]at hb1 hb2;subst hb1 hb2;exact gr.refl d _
       .rw[hval]at L;simp only[dA,kW]at L;rw[ax (by simpa using hl)]at L;cases L;exact kr.refl d _
     .have hyb:y= .G (nm id) T.size (l! xs0):=by rw[<- h2];unfold dA;rw[ax hp]
      subst hyb;have hg:H.get (nm id)=Z ⟨ty',.fz (xs0.flatMap (bM T))⟩:=by rw[hH,bL,hb];simp only[aD,ky,ax hp]
      have fl:=fx (bu T) xs0;have tk:(xs0.flatMap (bM T)).take (l! xs0*T.size)=xs0.flatMap (bM T):=by rw[<- fl,cY]
      have hmem:mem (nm id) rdl=af:=by
       cases hx:mem (nm id) rdl with
       |false=>rfl
       |true=>
        have hm:=h6 _ (aiz.1 hx);rw[dw,hmid]at hm;cases hm
      have A:dO (.app ty' T.size i ty c) (DK e h) H (nm nx)=Z ⟨.G (nm nx) T.size (l! xs0+l! D),nm id::rdl,[nm nx,nm id],[(nm nx,⟨ty',.fz ((xs0++D).flatMap (bM T))⟩)],[nm nx]⟩:=by
       have hcnd:(T.size==T.size&& !(mem (nm id) rdl)&&(BC.fz (xs0.flatMap (bM T))).isCells&&eK (l! xs0*T.size) (BC.fz (xs0.flatMap (bM T))).len&&ty'==ty'&&bh (l! xs0+l! D) i)=J:=by
        have:eK (l! xs0*T.size) (BC.fz (xs0.flatMap (bM T))).len=J:=bj (by simp only[BC.len];omega);rw[this,hmem,hroom];simp[BC.isCells]
       simp only[dO,h1,h3,h5,hg,hcnd,bq,BC.toMx,<-gI,tk,<-cr,yK,Ko]
      have hne2:¬((p&&l! (xs0++D)==0)=J):=by
       simp only[au,c5,bz]at hp ⊢;intro hh;exact hp ⟨hh.1,by omega⟩
      refine fC.mk' hc hH A [nm nx,nm id] (λbytes hi=>hi) (λn z=>?_) (λbytes hi b' hb'=>?_) (λH1 H2 d hw1 _ hw2=>⟨λbytes hi u b' hb1 hb2=>?_,λyb L=>?_⟩) (λn z=>?_) (λn z=>hwm n (by simpa using z)) (λn z=>by simp only[aC]at z;subst z;rw[dw];omega) hr hinv' (by omega)
      .simp only[a_,cD,fH,not_or]at z;exact hsame n z.1 z.2
      .simp only[a_,cD,fH]at hi;rcases hi with rfl|rfl
       .exact⟨_,by rw[aF (by simp)];exact fg _ _⟩
       .rw[hdead]at hb';cases hb'
      .simp only[a_,cD,fH]at hi;rcases hi with rfl|rfl
       .rw[hw1 _ (by simp),fg]at hb1;rw[hw2 _ (by simp),hnew,ax hne2]at hb2;simp only[ah]at hb1 hb2;subst hb1 hb2;exact gr.refl d _
       .rw[hw2 _ (by simp),hdead]at hb2;cases hb2
      .rw[hval]at L;simp only[dA]at L;rw[ax hne2]at L;simp only[bz,ah]at L;subst L;exact kr.refl d _
      .rcases a_.1 z with rfl|z
       .rw[dw,bw,bt.2 rfl];rfl
       .exact hrd n z
    .cases N
   .cases N
  .cases N
 .obtain⟨hroom,N⟩:=cN N;simp only[b_,ah]at h2;subst h2;exact⟨_,_,_,_,_,N,onEmp j h6 rfl (Le.refl _) hroom⟩
 .obtain⟨hroom,N⟩:=cN N;simp only[b_,ah]at h2;subst h2;exact⟨_,_,_,_,_,N,onEmp j h6 rfl Le.nilEmp hroom⟩
 .cases N
def avk {ty:Operand} (hcm:Hf (W s)=U) (hc:cV P o.op=Z (.app s i j ty c)) (z:fc X W (.op (.app s i j ty c)) e h nx K=Z r):jM P o af e h nx K r:=by
 let⟨H,L⟩:=gM h;simp only[fc,hcm]at z;split at z
 .rename_i T b y hT N A;split at z
  .rename_i D;have D:=av D;subst D;split at z
   next ys m hys=>let⟨yb,h1,h2⟩:=bi hi N;let⟨yy,h3,h4⟩:=bi hi A;let⟨rdl,h5,h6⟩:=SJ L hys h4;exact Uz hinv hi L hc h1 h2 h3 h5 (λn hn=>by obtain⟨sz,rfl,hm⟩:=h6 n hn;rw[dw];exact hm) z
   .cases z
  .cases z
 .cases z
def ake (xs A:Y T.den):(Yy xs A).flatMap (bM T)=AI.splice (xs.flatMap (bM T)) 0 ((A.flatMap (bM T)).take (lQ (l! A) (l! xs)*T.size)):=by
 have _:=hinv;have _:=hi;have fl:=λzs:Y T.den=>fx (bu T) zs
 have tk:∀(zs:Y T.den) n,(zs.flatMap (bM T)).take (n*T.size)=(zs.take n).flatMap (bM T):=by
  intro zs;induction zs with
  |nil=>intro n;simp
  |cons z r D=>
   intro n;cases n with
   |zero=>simp
   |succ n=>rw[f_,yh,f_,jF,List.take_append,bu,iG (by rw[bu];omega),show n*T.size+T.size-T.size=n*T.size from by omega,D n]
 have L:∀(zs:Y T.den) n,(zs.flatMap (bM T)).drop (n*T.size)=(zs.drop n).flatMap (bM T):=by
  intro zs;induction zs with
  |nil=>intro n;simp
  |cons z r D=>
   intro n;cases n with
   |zero=>simp
   |succ n=>rw[f_,Kp,jF,xg,bu,C4 (by rw[bu];omega),show n*T.size+T.size-T.size=n*T.size from by omega,D n,kW]
 unfold Yy AI.splice;rw[tk,Ko,fl,cL];have N:A.take (lQ (l! A) (l! xs))=A.take (l! xs):=by grind
 have e2:min (lQ (l! A) (l! xs)) (l! A)=lQ (l! A) (l! xs):=I5 (Nat.min_le_left _ _);rw[e2];simp[List.take_zero,kW,b9];rw[L]
 grind
def avh {x:Operand} (hc:cV P o.op=Z (.copy i c x)) (A:fc X W (.op (.copy i c x)) e h nx K=Z r):jM P o af e h nx K r:=by
 let⟨H,hH⟩:=gM h;simp only[fc]at A;split at A
 .rename_i id y hv hv2;split at A
  .rename_i ty p T xs hb;split at A
   .rename_i hs;have hs:=av hs;subst hs;split at A
    .rename_i D m hys;split at A
     .rename_i hcond;simp[au,cW]at hcond;obtain⟨hmid,rfl⟩:=hcond;let⟨yb,h1,h2⟩:=bi hi hv;let⟨yy,h3,h4⟩:=bi hi hv2;let⟨rdl,h5,h6⟩:=SJ hH hys h4;simp[b_,eR,hb,dA,kN,cZ,dZ,ah]at h2;subst h2;have fl:=fx (bu T) xs;have hg:H.get (nm id)=Z ⟨ty,.fz (xs.flatMap (bM T))⟩:=by rw[hH,bL,hb];simp[ky]
      have hmem:mem (nm id) rdl=af:=by
       cases N:mem (nm id) rdl with
       |false=>rfl
       |true=>
        let⟨sz,e,hm⟩:=h6 _ (aiz.1 N);rw[<- uL e,hmid]at hm;cases hm
      have hle:lQ (l! D) (l! xs)*T.size<=l! xs*T.size:=cK _ (Nat.min_le_right _ _);have ha0:dO (.copy T.size c x) (DK e h) H (nm nx)=Z ⟨raw (.int .i64 (lQ (l! D) (l! xs))),nm id::rdl,[nm id],[(nm id,⟨ty,.fz ((Yy xs D).flatMap (bM T))⟩)],[]⟩:=by
       have hcnd:(T.size==T.size&& !(mem (nm id) rdl)&&eK (l! xs*T.size) (BC.fz (xs.flatMap (bM T))).len)=J:=by
        have:eK (l! xs*T.size) (BC.fz (xs.flatMap (bM T))).len=J:=bj (by simp only[BC.len];omega);rw[this,hmem];simp
       have hput:(BC.fz (xs.flatMap (bM T))).put 0 (((D.flatMap (bM T)).map .f).take (lQ (l! D) (l! xs)*T.size))=Z (.fz ((Yy xs D).flatMap (bM T))):=by
        rw[<- gI];unfold BC.put;rw[aF]
        .simp only[O1];rw[ake hinv hi]
        .simp only[au];refine ⟨⟨rfl,bj ?_⟩,?_⟩
         .simp only[BC.len,cq,cL];omega
         .have:∀l:Y FV,(∀x∈l,x.isCell=J)->gG (l.map .f)=J:=by
           intro l hl;induction l with
           |nil=>rfl
           |cons z r ih=>simp[ch,gG,au];exact⟨hl z (by simp),ih λx N=>hl x (by grind)⟩
          exact this _ λx N=>md T D x (pY N)
       simp only[dO,h1,h3,hg,h5,hcnd,bq,hput]
      have hrow:iM (.F ty af T (Yy xs D))=iM (.F ty af T xs):=by
       have:l! (Yy xs D)=l! xs:=by unfold Yy;rw[bz,cL,sH];omega
       simp[iM,this]
      have key:=fC.wrt (m:=0) (v:=.f (.int .i64) (aS (lQ (aj D) (aj xs)))) (rd:=gC id|||m) hinv hc hH ha0 (B:=.F ty af T (Yy xs D)) hb (dP.zero h) (by simp) hrow (λ_ _ he=>by cases he) (λH1 H2 c g b' L=>by
       simp[ky,kN,cZ,dZ,ah]at L;subst L;exact gr.refl c _) (λH1 H2 y c g hy=>by
       simp[b_,ah]at hy;subst hy;exact kr.refl c _) (λn hn=>by
       rcases a_.1 hn with rfl|hn
       .rw[dw,bw,bt.2 rfl];rfl
       .obtain⟨sz,rfl,hm⟩:=h6 n hn;rw[dw,bw,hm];simp)
      rw[wL]at key;exact⟨_,_,_,_,_,A,key⟩
     .cases A
    .cases A
   .cases A
  .cases A
 .cases A
def apz {v:Operand} (hc:cV P o.op=Z (.store i c v)) (A:fc X W (.op (.store i c v)) e h nx K=Z r):jM P o af e h nx K r:=by
 let⟨H,hH⟩:=gM h;simp only[fc]at A;split at A
 .rename_i id off y hv hv2;let⟨yb,h1,h2⟩:=bi hi hv;let⟨L,h3,h4⟩:=bi hi hv2;simp only[b_,ah]at h2;subst h2;split at A
  .rename_i ty l N;split at A
   .rename_i cs hcs;split at A
    .rename_i hcond;simp only[au,c5]at hcond;let⟨h5,h6⟩:=Kf hcs h4;let⟨l',hl⟩:=fF h l (hinv.C id _ l N);have hg:H.get (nm id)=Z ⟨ty,.mx l'⟩:=by rw[hH,bL,N];simp only[aD,ky,hl]
     have hcell:=tV h5 h6;have hlen:L.cs.length=i:=by rw[iC h5];exact hcond.1
     have hput:(BC.mx l').put off L.cs=Z (.mx (splice l' off L.cs)):=by
      unfold BC.put;rw[aF]
      .rfl
      .simp only[au];exact⟨⟨rfl,by simp only[BC.len];rw[hlen,iC hl];exact hcond.2⟩,hcell⟩
     have ha0:dO (.store i c v) (DK e h) H (nm nx)=Z ⟨raw undef,[nm id],[nm id],[(nm id,⟨ty,.mx (splice l' off L.cs)⟩)],[]⟩:=by
      simp only[dO,h1,h3,CQ,hg,hlen,cw,bq,hput]
     have hspl:∀h',bY h h'->cM h' (splice l off cs)=Z (splice l' off L.cs):=λh' hr=>rk off (gV hr l l' hl) (gV hr cs _ h5)
     have hr1:bY h (h.set id (Z (.C (Z ty) (splice l off cs)))):=bY.set λr hr=>by rw[bD,N]at hr;cases hr
     have key:=fC.wrt (m:=0) (v:=.undef) (rd:=gC id) hinv hc hH ha0 (B:=.C (Z ty) (splice l off cs)) N (dP.zero h) (by simp) rfl (λty' l2 he=>by cases he;exact lT _ _ _ (hspl _ hr1)) (λH1 H2 d g b' D=>by
      have:=hspl _ hr1;simp only[dU,gw,bq,ky,this,ah]at D;subst D;exact gr.refl d _) (λH1 H2 y d g hy=>by
      simp only[b_,ah]at hy;subst hy;exact kr.refl d _) (λn hn=>by simp only[aC]at hn;subst hn;rw[dw];exact bt.2 rfl)
     rw[wL]at key;exact⟨_,_,_,_,_,A,key⟩
    .cases A
   .cases A
  .cases A
 .rename_i id sz' j off y hv hv2;let⟨yb,h1,h2⟩:=bi hi hv;let⟨L,h3,h4⟩:=bi hi hv2;simp only[b_,ah]at h2;subst h2;split at A
  .rename_i ty p T xs N;split at A
   .rename_i hsz;have hsz:=av hsz;subst hsz;let⟨hj,A⟩:=cN A;split at A
    .rename_i z m hset;split at A
     .cases A
     .rename_i hmid;have hmid:aO m id=af:=by simpa using hmid
      have hm:=C8 40 T _ off i z m hset;let⟨j0,j1,j2⟩:=mI hj;have hne:¬((p&&xs.length==0)=J):=by grind
      have hne2:¬((p&&(cC xs j z).length==0)=J):=by unfold cC;rw[dF];exact hne
      have hg:H.get (nm id)=Z ⟨ty,.fz (xs.flatMap (bM T))⟩:=by rw[hH,bL,N];simp only[aD,ky,ax hne]
      have fl:=fx (bu T) xs;have hx:xs[j.toNat]? =Z (geti _ xs j):=by
       unfold geti;rw[aE,aH j2];rfl
      have hle:(j.toNat+1)*T.size<=xs.length*T.size:=cK _ j2;rw[jF]at hle;have hso:∀H1 H2,rA H1 H2->Fm h H1 H2 m->Sg H1 H2 L T (geti _ xs j) z off i:=λH1 H2 d g=>tZ d h4 40 T _ off i z m hset g
      have hshape:L.cs.length=i/\off+i<=T.size/\gG L.cs=J:=by
       have d0:rA (erHF h) (erHF (dU m h)):=rA.kill hinv hm;let⟨fs,q1,q2,q3,q4,q5⟩:=hso _ _ d0 (λsz hi=>⟨rfl,by
        let⟨pp,ss,nn,g3⟩:=vN hm hi;rw[bL,g3];rfl⟩)
       refine ⟨by rw[<- q2,<-cq (f:=AV.f),q1.length],q3,?_⟩;exact od h4 40 T _ off i z m hset
      let⟨hlen,hoff,hcell⟩:=hshape;obtain⟨c',hput,hc1,hc2⟩:∃c',(BC.fz (xs.flatMap (bM T))).put (j.toNat*T.size+off) L.cs=Z c'/\c'.toMx=splice ((xs.flatMap (bM T)).map .f) (j.toNat*T.size+off) L.cs/\c'.isCells=J:=by
       unfold BC.put;rw[aF]
       .split
        next l ys hl hys=>simp only[BC.fz.injEq]at hl;subst hl;refine ⟨_,rfl,?_,rfl⟩;rw[nI hys];simp only[BC.toMx];unfold splice;simp[gI,zU]
        .exact⟨_,rfl,rfl,rfl⟩
       .simp only[au];exact⟨⟨rfl,bj (by simp only[BC.len];omega)⟩,hcell⟩
      have ha0:dO (.store i c v) (DK e h) H (nm nx)=Z ⟨raw undef,[nm id],[nm id],[(nm id,⟨ty,c'⟩)],[]⟩:=by
       simp only[dO,h1,h3,CQ,hg,hlen,cw,bq,hput]
      have hrow:iM (.F ty p T (cC xs j z))=iM (.F ty p T xs):=by
       unfold cC;simp only[iM,dF]
      refine ⟨_,_,_,_,_,A,fC.wrt hinv hc hH ha0 (B:=.F ty p T (cC xs j z)) N hm hmid hrow (λ_ _ he=>by cases he) (λH1 H2 d g b' D=>?_) (λH1 H2 y d g hy=>?_) (λn hn=>?_)⟩
      .simp only[ky,ax hne2,ah]at D;subst D;let⟨fs,q1,q2,q3,q4,q5⟩:=hso H1 H2 d g;have hfl:(cC xs j z).flatMap (bM T)=AI.splice (xs.flatMap (bM T)) (j.toNat*T.size+off) fs:=Nr (bu T) xs j.toNat _ z hx off fs (by omega) q4;refine gr.C hc2 rfl ?_ λc hx=>?_
       .rw[hc1];simp only[BC.toMx];rw[hfl];have:(AI.splice (xs.flatMap (bM T)) (j.toNat*T.size+off) fs).map AV.f=AI.splice ((xs.flatMap (bM T)).map .f) (j.toNat*T.size+off) (fs.map .f):=by unfold AI.splice;simp[gI,zU]
        rw[this];exact (gX.refl d _).splice _ q1
       .simp only[BC.toMx]at hx;obtain⟨q,hq,rfl⟩:=cu.1 hx;exact md T _ q hq
      .simp only[b_,ah]at hy;subst hy;exact kr.refl d _
      .simp only[aC]at hn;subst hn;rw[dw,bw,bt.2 rfl];simp
    .cases A
   .cases A
  .rename_i ty l N;split at A
   .rename_i hsz;simp only[au]at hsz;let⟨s1,s2,s3⟩:=hsz;have s1:=av s1;have s2:=av s2;have s3:=av s3;subst s1 s2 s3;let⟨hj,A⟩:=cN A;let⟨j0,j1,j2⟩:=mI hj;split at A
    .rename_i cs hcs;split at A
     .rename_i hc1;have hc1:=av hc1;let⟨h5,h6⟩:=Kf hcs h4;let⟨l',hl⟩:=fF h l (hinv.C id _ l N);have hg:H.get (nm id)=Z ⟨ty,.mx l'⟩:=by rw[hH,bL,N];simp only[aD,ky,hl]
      have hcell:=tV h5 h6;have hlen:L.cs.length=1:=by rw[iC h5];exact hc1
      have e0:j.toNat*1+0=j.toNat:=by omega
      rw[e0]at h1;have hput:(BC.mx l').put j.toNat L.cs=Z (.mx (splice l' j.toNat L.cs)):=by
       unfold BC.put;rw[aF]
       .rfl
       .simp only[au];exact⟨⟨rfl,bj (by simp only[BC.len];rw[hlen,iC hl];omega)⟩,hcell⟩
      have ha0:dO (.store 1 c v) (DK e h) H (nm nx)=Z ⟨raw undef,[nm id],[nm id],[(nm id,⟨ty,.mx (splice l' j.toNat L.cs)⟩)],[]⟩:=by
       simp only[dO,h1,h3,CQ,hg,hlen,cw,bq,hput]
      have hspl:∀h',bY h h'->cM h' (splice l j.toNat cs)=Z (splice l' j.toNat L.cs):=λh' hr=>rk j.toNat (gV hr l l' hl) (gV hr cs _ h5)
      have hr1:bY h (h.set id (Z (.C (Z ty) (splice l j.toNat cs)))):=bY.set λr hr=>by rw[bD,N]at hr;cases hr
      have key:=fC.wrt (m:=0) (v:=.undef) (rd:=gC id) hinv hc hH ha0 (B:=.C (Z ty) (splice l j.toNat cs)) N (dP.zero h) (by simp) rfl (λty' l2 he=>by cases he;exact lT _ _ _ (hspl _ hr1)) (λH1 H2 d g b' D=>by
       have:=hspl _ hr1;simp only[dU,gw,bq,ky,this,ah]at D;subst D;exact gr.refl d _) (λH1 H2 y d g hy=>by
       simp only[b_,ah]at hy;subst hy;exact kr.refl d _) (λn hn=>by simp only[aC]at hn;subst hn;rw[dw];exact bt.2 rfl)
      rw[wL]at key;exact⟨_,_,_,_,_,A,key⟩
     .cases A
    .cases A
   .cases A
  .cases A
 .cases A
def avd {l:Operand} (hc:cV P o.op=Z (.zh s i j L l c)) (A:fc X W (.op (.zh s i j L l c)) e h nx K=Z r):jM P o af e h nx K r:=by
 cases hcm:Hf (W s) with
 |none=>exact aq0 hinv hi hcm hc A
 |some n=>
  let⟨H,hH⟩:=gM h;simp only[fc,hcm]at A;split at A
  .rename_i zc k a k' b z hv N;let⟨hck,A⟩:=cN A;rw[au]at hck;let⟨hcond,hn⟩:=hck;let⟨y,h1,h2⟩:=bi hi hv;let⟨y2,h3,h4⟩:=bi hi N;simp[b_,ah]at h2 h4;subst h2 h4;have han:aN a=n:=by grind
   let⟨_,_,hzc⟩:=xH h z;refine ⟨_,_,_,_,_,A,fC.new hinv hc hH (y0:=.G (nm nx) i n) (rdl:=[]) (b0:=⟨s,.fz (repl L n)⟩) (by simp[dO,h1,h3,gz,hcond,bq,han]) (dP.zero h) (λty' l' he=>?_) (λH1 H2 d g b' D=>?_) (λH1 H2 y d g hy=>?_) (by simp)⟩
   .cases he;exact lT _ _ _ (Rl _ z n)
   .simp[ky,Rl _ z n,ah]at D;subst D;refine gr.C rfl rfl (gX.refl d _) λx hx=>?_
    exact mR (tV (Rl h z n) (IW hzc n)) x hx
   .simp[b_,ah]at hy;subst hy;exact kr.refl d _
  .cases A
def azf {parts:Y m?} (hc:cV P o.op=Z (.xw s i j L parts)) (A:fc X W (.op (.xw s i j L parts)) e h nx K=Z r):jM P o af e h nx K r:=by
 cases hcm:Hf (W s) with
 |none=>exact avj hinv hi hcm hc A
 |some n=>
  let⟨H,hH⟩:=gM h;simp only[fc,hcm]at A;split at A
  .rename_i zc hz;split at A
   .rename_i cs hf;split at A
    .cases A
    .rename_i hl;have hl:j≠0:=λe=>hl (by rw[e];rfl)
     let⟨cs',h1,h2,h3⟩:=Gw hi parts _ cs _ hf (Rl h hz j);let⟨_,_,hzc⟩:=xH h hz;have hcs:=h3 (IW hzc j);have N:bY h ((dU 0 h).set nx (Z (.C (Z s) cs))):=(bY.kill 0 h).trans (bY.set λr N=>by rw[bD,(hinv.kill 0).fresh]at N;cases N);have z:=gV N _ _ h2;refine ⟨_,_,_,_,_,A,fC.new hinv hc hH (y0:=.G (nm nx) i j) (rdl:=[]) (b0:=⟨s,oz cs'⟩) (by simp[dO,h1,ax hl]) (dP.zero h) (λty' l' he=>?_) (λH1 H2 d g b' D=>?_) (λH1 H2 y d g hy=>?_) (by simp)⟩
     .cases he;exact lT _ _ _ z
     .simp[ky,z,ah]at D;subst D;let⟨q1,q2⟩:=nF cs';refine gr.C q2 rfl ?_ λx hx=>?_
      .rw[q1];exact gX.refl d _
      .exact mR (tV h2 hcs) x hx
     .simp[b_,ah]at hy;subst hy;exact kr.refl d _
   .cases A
  .cases A
def azi {ty:Operand} (hc:cV P o.op=Z (.app s i j ty c)) (z:fc X W (.op (.app s i j ty c)) e h nx K=Z r):jM P o af e h nx K r:=by
 cases hcm:Hf (W s) with
 |none=>exact avk hinv hi hcm hc z
 |some n0=>
  let⟨H,hH⟩:=gM h;have hfr:=hinv.fresh;simp only[fc,hcm]at z;split at z
  .rename_i b y hv hv2;let⟨yb,h1,h2⟩:=bi hi hv;let⟨yy,h3,h4⟩:=bi hi hv2;unfold ar4 at z;split at z
   .rename_i id2 sz2 m;simp only[b_,ah]at h4;subst h4;split at z
    .rename_i ty2 l2 hb2;split at z
     .rename_i A;simp only[au,cW]at A;let⟨⟨q1,q2⟩,q3⟩:=A;have q1:=av q1;have q2:=av q2;have q3:m≠0:=λe=>by grind
      subst q1;let⟨L,hl2⟩:=fF h l2 (hinv.C id2 _ l2 hb2);have hrow:=acw hH hb2 hl2 q2;split at z
      .rename_i id sz1 n;simp only[b_,ah]at h2;subst h2;split at z
       .rename_i ty1 l1 hb1;split at z
        .rename_i A;simp only[au,cW]at A;let⟨⟨⟨p1,p2⟩,p3⟩,p4⟩:=A;have p1:=av p1;have p2:=eq_of_beq p2;have p3:=av p3;have p4:id≠id2:=λe=>by simp_all
         subst p1 p2;let⟨hroom,z⟩:=cN z;let⟨N,hl1⟩:=fF h l1 (hinv.C id _ l1 hb1);have hln:=iC hl1;have hg:H.get (nm id)=Z ⟨ty1,.mx N⟩:=by rw[hH,bL,hb1];simp only[aD,ky,hl1]
         have hidlt:id<nx:=hinv.low id _ hb1;generalize hB:fk.C (Z ty1) (l1++l2)=B at z;have hd1:bY h (h.set id (Z (.qj J 0 0))):=bY.set λr D=>by rw[bD,hb1]at D;cases D
         have hd2:bY (h.set id (Z (.qj J 0 0))) ((h.set id (Z (.qj J 0 0))).set nx (Z B)):=bY.set λr D=>by
          rw[bD,PT.get_set,ax (by omega),hfr]at D;cases D
         have D:=hd1.trans hd2;have hsp:cM ((h.set id (Z (.qj J 0 0))).set nx (Z B)) (l1++l2)=Z (N++L):=gV D _ _ (oF hl1 hl2);have hb':erHF ((h.set id (Z (.qj J 0 0))).set nx (Z B)) (nm nx)=Z ⟨ty1,.mx (N++L)⟩:=by rw[bL,PT.get_set,aF rfl,<-hB]at *;simp only[aD,ky,hsp]
         have hbd:erHF ((h.set id (Z (.qj J 0 0))).set nx (Z B)) (nm id)=U:=by rw[bL,PT.get_set,ax (by omega),PT.get_set,aF rfl];rfl
         have hinv1:gZ (h.set id (Z (.qj J 0 0))) nx:=hinv.set hd1 hidlt (bI _) (λ_ _ he=>by cases he);have ha:dO (.app ty1 sz1 j ty c) (DK e h) H (nm nx)=Z ⟨.G (nm nx) sz1 (n+m),[nm id,nm id2],[nm nx,nm id],[(nm nx,⟨ty1,oz (N++L)⟩)],[nm nx]⟩:=by
          simp only[dO,h1,h3,hrow,hg];rw[aF (by
           simp only[cw,du,Bool.and_true,BC.isCells,BC.len,hroom,au,cW];refine ⟨?_,bj (by omega)⟩;simp only[mem,Bool.or_false];cases A:aB (nm id2) (nm id) with
           |false=>rfl
           |true=>exact bC (uL (av A)).symm p4)]
          simp only[BC.toMx,iG (show (l! N)<=n*sz1 by omega)]
         refine ⟨_,_,_,_,_,z,fC.mk' hc hH ha [nm nx,nm id] (λsz hi=>hi) (λq A=>?_) (λsz hi b' hbb=>?_) (λH1 H2 d hw1 _ hw2=>⟨λsz hi b b' hb hb2=>?_,λy hy=>?_⟩) (λq A=>?_) (λq A=>?_) (λq A=>?_) D (hinv1.set hd2 (by omega) (by omega) λty' l' he=>?_) (by omega)⟩
         .simp only[a_,cD,fH,not_or]at A;refine mO hinv D (iL.of λsz=>by
           by_cases e1:sz=nx
           .rw[e1,hfr,PT.get_set,aF rfl];exact .inr ⟨rfl,by rw[<- hB];rfl⟩
           .rw[PT.get_set,ax e1];by_cases e2:sz=id
            .rw[e2,hb1,PT.get_set,aF rfl];exact .inr ⟨rfl,rfl⟩
            .rw[PT.get_set,ax e2];exact .inl rfl) λsz ei=>?_
          subst ei;rw[PT.get_set,ax (λe=>A.1 (by rw[e])),PT.get_set,ax (λe=>A.2 (by rw[e]))]
         .simp only[a_,cD,fH]at hi;rcases hi with rfl|rfl
          .rw[aF (by simp)];exact⟨_,fg _ _⟩
          .grind
         .simp only[a_,cD,fH]at hi;rcases hi with rfl|rfl
          .rw[hw1 _ (by simp),fg]at hb;rw[hw2 _ (by simp),hb']at hb2;simp only[ah]at hb hb2;subst hb hb2;let⟨m1,m2⟩:=nF (N++L);exact gr.eq d m2 rfl m1
          .grind
         .simp only[b_,ah]at hy;subst hy;exact kr.refl d _
         .simp only[a_,cD,fH]at A;rw[bw,mV];rcases A with rfl|rfl
          .rw[dw];exact .inl (bt.2 rfl)
          .rw[dw];exact .inr (bt.2 rfl)
         .simp only[a_,cD,fH]at A;rw[bw,mV];rcases A with rfl|rfl
          .rw[dw];exact .inr (bt.2 rfl)
          .rw[dw];exact .inl (bt.2 rfl)
         .simp only[aC]at A;subst A;rw[dw];omega
         .rw[<- hB]at he;cases he;exact lT _ _ _ hsp
        .cases z
       .cases z
      .simp only[b_,ah]at h2;subst h2;let⟨hroom,z⟩:=cN z;have D:bY h ((dU 0 h).set nx (Z (.C (Z s) l2))):=(bY.kill 0 h).trans (bY.set λr D=>by rw[bD,(hinv.kill 0).fresh]at D;cases D);have h2':=gV D _ _ hl2;refine ⟨_,_,_,_,_,z,fC.new hinv hc hH (y0:=.G (nm nx) sz2 m) (rdl:=[nm id2]) (b0:=⟨s,oz L⟩) (by simp only[dO,h1,h3,hrow];simp[E9,Dh,hroom,q3]) (dP.zero h) (λty' l' he=>?_) (λH1 H2 d g b' hb'=>?_) (λH1 H2 y d g hy=>?_) (λn hn=>?_)⟩
       .cases he;exact lT _ _ _ h2'
       .simp only[ky,h2',ah]at hb';subst hb';let⟨p1,p2⟩:=nF L;exact gr.eq d p2 rfl p1
       .simp only[b_,ah]at hy;subst hy;exact kr.refl d _
       .simp only[aC]at hn;subst hn;rw[dw];exact bt.2 rfl
      .cases z
     .cases z
    .cases z
   .cases z
  .cases z
def ayx {lo hi' mx:M Operand} (hc:cV P o.op=Z (.slc i c lo hi' mx)) (z:fc X W (.op (.slc i c lo hi' mx)) e h nx K=Z r):jM P o af e h nx K r:=by
 have hfr:=hinv.fresh;simp only[fc]at z;split at z
 .rename_i v hv;let⟨y,h1,h2⟩:=bi hi hv;split at z
  .rename_i b;split at z
   .rename_i T xs k j hb;let⟨y2,h3,h4⟩:=bi hi hb;simp only[b_,ah]at h2 h4;subst h2 h4;split at z
    .rename_i D;have D:=av D;subst D;let⟨N,z⟩:=cN z;have hfl:=fx (bu T) xs;have hcond:(dz 0 j&&dz j (aj xs)&&eK (aj xs*T.size) (l! (xs.flatMap (bM T))))=J:=by
      rw[N,du];exact bj (by omega)
     simp only[dz,au,bS]at N;have hlen:l! (xs.take j.toNat)=j.toNat:=by rw[cL];omega
     exact jM.q (k:=0) (y0:=.f (.sl ((xs.flatMap (bM T)).take (j.toNat*T.size)) j.toNat)) hinv hc (λH _=>by simp only[dO,h1,h3,gz,hcond,bq]) (cX (by simp only[b_,gz];rw[Dj (bu T),hlen])) z
    .cases z
   .rename_i id k j hb;let⟨y2,h3,h4⟩:=bi hi hb;simp only[b_,ah]at h4;subst h4;split at z
    .rename_i ty p T xs A;split at z
     .rename_i D;have D:=av D;subst D;let⟨N,z⟩:=cN z;let⟨H,hH⟩:=gM h;have hj0:=N;simp only[dz,gF,au,bS]at N;have hp:¬((p&&l! xs==0)=J):=by
       simp only[au,c5];omega
      simp only[b_,bD,A,aD,iM,dA,ax hp,ah]at h2;subst h2;have hidlt:=hinv.low id _ A;have hne:nx≠id:=by omega
      have hg:H.get (nm id)=Z ⟨ty,.fz (xs.flatMap (bM T))⟩:=by rw[hH,bL,A];simp only[aD,ky,ax hp]
      have fl:=fx (bu T) xs;have hcond:(T.size==T.size&&dz 0 j&&dz j (aj xs))=J:=by
       simp only[dz,au,bS,cw,true_and];omega
      have hlen:l! (xs.take j.toNat)=j.toNat:=by rw[cL];omega
      have ha0:dO (.slc T.size c U (Z b) U) (DK e h) H (nm nx)=Z ⟨.G (nm nx) T.size j.toNat,[nm id],[nm nx,nm id],[(nm nx,⟨ty,.fz ((xs.take j.toNat).flatMap (bM T))⟩)],[nm nx]⟩:=by
       have hc2:((BC.fz (xs.flatMap (bM T))).isCells&&eK (aj xs*T.size) (BC.fz (xs.flatMap (bM T))).len)=J:=by
        simp only[BC.isCells,du,BC.len];exact bj (by omega)
       simp only[dO,h1,h3,gz,hcond,bq,hg,hc2,BC.toMx,<-gI,yK,Dj (bu T)]
      generalize hh':(h.set id (Z (.qj p T.size (aj xs)))).set nx (Z (.F ty af T (dE j.toNat xs)))=h' at z;have hrA:bY h (h.set id (Z (.qj p T.size (aj xs)))):=bY.set λr hr=>by rw[bD,A]at hr;exact hr
      have L:∀sz,h'.get sz=if sz=nx then Z (.F ty af T (dE j.toNat xs)) else if sz=id then Z (.qj p T.size (aj xs)) else h.get sz:=λsz=>by rw[<- hh',PT.get_set,PT.get_set]
      have hr:bY h h':=by
       rw[<- hh'];refine hrA.trans (bY.set λr hr=>?_);rw[bD,PT.get_set,ax hne,hfr]at hr;cases hr
      have hinv':gZ h' (nx+1):=by
       refine ⟨λsz ty l hil=>?_,λsz x hic=>?_⟩
       .rw[L]at hil;split at hil
        .cases hil
        .split at hil
         .cases hil
         .exact fy hr l (hinv.C sz _ l hil)
       .rw[L]at hic;split at hic
        .omega
        .split at hic
         .omega
         .have:=hinv.low sz x hic;omega
      have hme:iL h h':=(iL.of λsz=>by
       rw[L];by_cases e1:sz=nx
       .rw[aF e1,e1,hfr];exact .inr ⟨rfl,rfl⟩
       .rw[ax e1];by_cases e2:sz=id
        .rw[aF e2,e2,A];exact .inr ⟨rfl,rfl⟩
        .rw[ax e2];exact .inl rfl)
      have hsame:∀n,n≠nm nx->n≠nm id->erHF h' n=erHF h n:=λn h1 h2=>mO hinv hr hme λsz e=>by
       subst e;rw[L,ax (λe=>h1 (by rw[e])),ax (λe=>h2 (by rw[e]))]
      have hdead:erHF h' (nm id)=U:=by rw[bL,L,ax (by omega),aF rfl];rfl
      have hnew:erHF h' (nm nx)=Z ⟨ty,.fz ((xs.take j.toNat).flatMap (bM T))⟩:=by rw[bL,L,aF rfl];rfl
      have hval:b_ h' (.G nx)=Z (.G (nm nx) T.size j.toNat):=by simp only[b_,bD,L,bq,aD,iM,dA,kN,cZ,dZ,hlen]
      refine ⟨_,_,_,_,_,z,?_⟩;refine fC.mk' hc hH ha0 [nm nx,nm id] (λsz hi=>hi) (λn hn=>?_) (λsz hi b' hb'=>?_) (λH1 H2 d hw1 _ hw2=>⟨λsz hi b b' hb1 hb2=>?_,λy hy=>?_⟩) (λn hn=>?_) (λn hn=>?_) (λn hn=>by simp only[aC]at hn;subst hn;rw[dw];omega) hr hinv' (by omega)
      .simp only[a_,cD,fH,not_or]at hn;exact hsame n hn.1 hn.2
      .simp only[a_,cD,fH]at hi;rcases hi with rfl|rfl
       .exact⟨_,by rw[aF (by simp)];exact fg _ _⟩
       .rw[hdead]at hb';cases hb'
      .simp only[a_,cD,fH]at hi;rcases hi with rfl|rfl
       .rw[hw1 _ (by simp),fg]at hb1;rw[hw2 _ (by simp),hnew]at hb2;simp only[ah]at hb1 hb2;subst hb1 hb2;exact gr.refl d _
       .rw[hw2 _ (by simp),hdead]at hb2;cases hb2
      .rw[hval]at hy;cases hy;exact kr.refl d _
      .simp only[aC]at hn;subst hn;rw[dw];exact bt.2 rfl
      .simp only[a_,cD,fH]at hn;rcases hn with rfl|rfl<;>rw[dw,bw,bt.2 rfl]<;>simp
     .cases z
    .cases z
   .cases z
  .rename_i b;split at z
   .rename_i T xs k j hb;let⟨y2,h3,h4⟩:=bi hi hb;simp only[b_,ah]at h2 h4;subst h2 h4;split at z
    .rename_i D;have D:=av D;subst D;let⟨N,z⟩:=cN z;have hfl:=fx (bu T) xs;have hcond:(dz 0 j&&dz j (aj xs)&&eK (aj xs*T.size) (l! (xs.flatMap (bM T))))=J:=by
      rw[N,du];exact bj (by omega)
     simp only[dz,au,bS]at N;have hlen:l! (xs.drop j.toNat)=aj xs-j.toNat:=by rw[sH]
     have htk:((xs.flatMap (bM T)).drop (j.toNat*T.size)).take ((aj xs-j.toNat)*T.size)=(xs.flatMap (bM T)).drop (j.toNat*T.size):=by
      refine iG ?_;rw[sH,hfl,Nat.sub_mul];exact bI _
     exact jM.q (k:=0) (y0:=.f (.sl ((xs.flatMap (bM T)).drop (j.toNat*T.size)) (aj xs-j.toNat))) hinv hc (λH _=>by simp only[dO,h1,h3,gz,hcond,bq,htk]) (cX (by simp only[b_,gz];rw[Ns (bu T),hlen])) z
    .cases z
   .rename_i id k j hb;let⟨y2,h3,h4⟩:=bi hi hb;simp only[b_,ah]at h4;subst h4;split at z
    .rename_i ty p T xs A;split at z
     .rename_i D;have D:=av D;subst D;let⟨N,z⟩:=cN z;have hcond:(T.size==T.size&&dz 0 j&&gF j (aj xs))=J:=by
       simp only[au]at N;rw[N.1,N.2,cw];rfl
      simp only[dz,gF,au,bS]at N;have hp:¬((p&&l! xs==0)=J):=by
       simp only[au,c5];omega
      simp only[b_,bD,A,aD,iM,dA,ax hp,ah]at h2;subst h2;exact jM.q (k:=0) (y0:=.sl (nm id) (j.toNat*T.size) (aj xs-j.toNat)) hinv hc (λH _=>by simp only[dO,h1,h3,gz,hcond,bq]) (cX (by simp only[b_,bD,A,aD,iM])) z
     .cases z
    .cases z
   .cases z
  .cases z
 .cases z
def aze (hc:cV P o.op=Z (.clr i L c)) (A:fc X W (.op (.clr i L c)) e h nx K=Z r):jM P o af e h nx K r:=by
 let⟨H,hH⟩:=gM h;simp only[fc]at A;split at A
 .rename_i id j hv;split at A
  .rename_i ty p T xs N;split at A
   .rename_i D;simp only[au]at D;let⟨⟨D,hz⟩,hco⟩:=D;have D:=av D;have hz:=OV hz;subst D hz;let⟨hj,A⟩:=cN A;simp[dz,gF,au,bS]at hj;let⟨y,h1,h2⟩:=bi hi hv;simp[b_,bD,N,aD,iM,ah]at h2;subst h2;have hp:¬((p&&xs.length==0)=J):=by grind
    have fl:=fx (bu T) xs;have hg:H.get (nm id)=Z ⟨ty,.fz (xs.flatMap (bM T))⟩:=by rw[hH,bL,N];simp only[aD,ky,ax hp]
    have hrl:(repl (uZ T) (xs.length-j.toNat)).length=(xs.length-j.toNat)*T.size:=by
     have h9:=(Lt (H:=λ_=>U) (H':=λ_=>U) (λn b N=>by cases N) T (xs.length-j.toNat)).length;rw[cq,cq,fx (bu T),dy]at h9;exact h9.symm
    have hoff:j.toNat*T.size+(xs.length-j.toNat)*T.size=xs.length*T.size:=by rw[<- Nat.add_mul];congr 1;omega
    have hput:(BC.fz (xs.flatMap (bM T))).put (j.toNat*T.size) ((repl (uZ T) (xs.length-j.toNat)).map .f)=Z (.fz (splice (xs.flatMap (bM T)) (j.toNat*T.size) (repl (uZ T) (xs.length-j.toNat)))):=by
     unfold BC.put;rw[aF]
     .simp[O1]
     .simp only[au];refine ⟨⟨rfl,bj ?_⟩,Kh _ λq hq=>?_⟩
      .simp only[BC.len,cq];omega
      .obtain⟨v,hv,rfl⟩:=Vi _ q hq;exact iH.1 hco v hv
    have hblt:eJ 0 (xs.length-j.toNat)=J:=bj (by omega);have ha0:dO (.clr T.size (uZ T) c) (DK e h) H (nm nx)=Z ⟨.qg [],[nm id],[nm id],[(nm id,⟨ty,.fz (splice (xs.flatMap (bM T)) (j.toNat*T.size) (repl (uZ T) (xs.length-j.toNat)))⟩)],[]⟩:=by
     simp[dO,h1,hg,hblt,bq,hput]
    have hlen:(dE j.toNat xs++aG (aj xs-j.toNat) T.zero).length=xs.length:=by grind
    have hrow:iM (.F ty p T (dE j.toNat xs++aG (aj xs-j.toNat) T.zero))=iM (.F ty p T xs):=by simp[iM,hlen]
    refine ⟨_,_,_,_,_,A,fC.wrt (m:=0) (v:=.qg []) (rd:=gC id) hinv hc hH ha0 N (dP.zero h) (by simp) hrow (λ_ _ he=>by cases he) (λH1 H2 d g b' z=>?_) (λH1 H2 y d g hy=>?_) (λn hn=>?_)⟩
    .have hp2:¬((p&&(dE j.toNat xs++aG (aj xs-j.toNat) T.zero).length==0)=J):=by rw[hlen];exact hp
     simp only[ky,ax hp2,ah]at z;subst z;refine gr.C rfl rfl ?_ λq hq=>?_
     .simp only[BC.toMx];unfold splice;rw[hrl,hoff,<-fl,List.drop_length,io,Ko,Dj (bu T),cr,cr];exact (gX.refl d _).append (Lt d T _)
     .simp only[BC.toMx]at hq;obtain⟨q',hq',rfl⟩:=cu.1 hq;exact md T _ q' hq'
    .simp[b_,cM,ah]at hy;subst hy;exact kr.refl d _
    .simp[aC]at hn;subst hn;rw[dw];exact bt.2 rfl
   .cases A
  .cases A
 .cases A
end ops
def Td {V:Ty} {es:Y (T.den×V.den)} (z:mpE T V es=J):es.map (λp=>(r9 T p.1,AV.f (gz V p.2)))=[]:=by
 unfold mpE at z;split at z
 .rfl
 .cases z
def aiv {V:Ty} {es:Y (T.den×V.den)} (z:mpE T V es=J):aeh T=J:=by
 unfold mpE at z;split at z
 .rfl
 .cases z
def ac7 (z:aej b T=J):aeh T=J:=by
 cases T<;>cases b<;>first|rfl|cases z
def Ti (A:aej b T=J) (k z:T.den):wX .eql (r9 T k) (r9 T z)=Z (.bool (LL T k z))/\yO b (r9 T k)=J/\gz T k= .raw (r9 T k):=by
 cases T<;>cases b<;>first|cases A|skip
 .exact⟨by simp[wX,r9,LL,cw,bq,ah,Fn];exact Bool.beq_eq_decide_eq _ _,rfl,rfl⟩
 .exact⟨by simp[wX,r9,LL,Hl],rfl,rfl⟩
def Mw {str:Bool} {K V:Ty} (A:aej str K=J) (k:K.den):∀es:Y (K.den×V.den),tM (r9 K k) (es.map λp=>(r9 K p.1,AV.f (gz V p.2)))=Z ((AZ k es).map λv=>AV.f (gz V v))
 |[]=>rfl
 |(z,v)::r=>by
  simp[ch,tM,(Ti A k z).1,AZ];cases D:LL K k z with
  |true=>rfl
  |false=>simp[cZ,dZ];exact Mw A k r
def Ta {str:Bool} {K V:Ty} (A:aej str K=J) (k:K.den) (v:V.den):∀es:Y (K.den×V.den),An (r9 K k) (.f (gz V v)) (es.map λp=>(r9 K p.1,AV.f (gz V p.2)))=Z ((uN k v es).map λp=>(r9 K p.1,AV.f (gz V p.2)))
 |[]=>rfl
 |(z,D)::r=>by
  simp[ch,An,(Ti A k z).1,uN];cases L:LL K k z with
  |true=>rfl
  |false=>simp[Ta A k v r,cZ,dZ,ch]
def aif {ok:Bool} (z:b_ h u=Z y):b_ h (pkT ok u (.f .bool b))=Z (pkV ok y b):=by
 cases ok with
 |false=>exact z
 |true=>simp[pkT,pkV,b_,cM,z];rfl
section ops
variable {R:Type} {P:Program} {o:Oper} {e:hX} {h:aZ} {nx:Nat} {K:KO R} {r:R}
def Le.aggOf {l:Y FV} (D:∀x∈l,x.isCell=J):Le (.agg (l.map .f)) (.f (.agg l)):=by
 intro φ O w v A;cases A with
 |@agg _ vs N hcl hrr=>
  refine .f (.agg l vs (by grind) D λj y u L z=>?_);have:=hrr j (.f y) u (by grind) z;cases this with
  |f h=>exact h
def Vt (S:Ty) (l:Y TV):M (S.den×Nat×Y TV):=match l with
 |c::r=>(match iS PT.leaf S c with|some (x,m)=>Z (x,m,r)|none=>U)
 |[]=>U
def Ry:∀{l l':Y FV},l.map AV.f=l'.map AV.f->l=l'
 |[],[],_=>rfl
 |[],_::_,h|_::_,[],h=>by simp at h
 |x::r,y::r',h=>by
  simp[ch,e9,AV.f.injEq]at h;rw[h.1,Ry h.2]
def Mi (h:aZ):∀(ds:Y TypeDesc) (T:Ty),sQ ds=Z T->∀(n:Nat) (l:Y TV) (x:T.den) (m:Nat) (r:Y TV),fI PT.leaf n T l=Z (x,m,r)->∀l',cM h l=Z l'->∃L,cM h r=Z L/\l'=(bM T x).map .f++L
 |[],T,hd,n,l,x,m,r,hp,l',hl=>by
  simp[sQ,ah]at hd;subst hd;cases n with
  |zero=>simp[fI]at hp
  |succ n=>
   obtain⟨_,_,rfl⟩:=hp;exact⟨l',hl,rfl⟩
 |d::ds,T,hd,n,l,x,m,r,hp,l',hl=>by
  have plain:∀(S:Ty),S.one=J->(∀t,S≠ .sl t)->∀(v:TV) (a:S.den) (m:Nat) (y:AV),iS PT.leaf S v=Z (a,m)->b_ h v=Z y->y= .f (gz S a):=by
   intro S hS hns v a m y D hy;cases v with
   |f Q q=>
    simp[iS]at D;split at D
    next z hz=>obtain⟨rfl,_⟩:=D;obtain⟨e,rfl⟩:=jA hz;subst e;simp[b_,ah]at hy;exact hy.symm
    .cases D
   |emp|nil=>
    cases S with
    |sl t=>exact bC rfl (hns t)
    |_=>simp[iS]at D
   |G id=>simp[iS,PT.get]at D
   |_=>simp[iS]at D
  have one:∀(S:Ty),S.one=J->(∀t,S≠ .sl t)->∀(n:Nat) (l:Y TV) (a:S.den) (m:Nat) (r:Y TV),fI PT.leaf n S l=Z (a,m,r)->∀l',cM h l=Z l'->∃L,cM h r=Z L/\l'=(bM S a).map .f++L:=by
   intro S hS hns n l a m r hp l' hl;cases n with
   |zero=>simp[fI]at hp
   |succ n=>
    cases l with
    |nil=>
     cases S with
     |int k|bool|str=>cases hp
     |sl t=>exact bC rfl (hns t)
     |_=>cases hS
    |cons c q=>
     have hpp:Vt S (c::q)=Z (a,m,r):=by
      cases S with
      |int k=>simp[fI]at hp;simp[Vt];cases N:iS PT.leaf (.int k) c with
       |none=>rw[N]at hp;cases hp
       |some z=>rw[N]at hp;exact hp
      |bool=>simp[fI]at hp;simp[Vt];cases N:iS PT.leaf .bool c with
       |none=>rw[N]at hp;cases hp
       |some z=>rw[N]at hp;exact hp
      |str=>simp[fI]at hp;simp[Vt];cases N:iS PT.leaf .str c with
       |none=>rw[N]at hp;cases hp
       |some z=>rw[N]at hp;exact hp
      |sl t=>exact bC rfl (hns t)
      |_=>cases hS
     simp[Vt]at hpp;split at hpp
     next a1 m1 h1=>simp[ah,aU]at hpp;obtain⟨rfl,rfl,rfl⟩:=hpp;obtain⟨y,L,rfl,g1,g2⟩:=c9 hl;have:=plain S hS hns c a1 m1 y h1 g1;subst this;exact⟨L,g2,by rw[(NK S a1 hS).1];rfl⟩
     .cases hpp
  have two:∀(S A:Ty),S.one=J->(∀t,S≠ .sl t)->sQ ds=Z A->T= .pr S A->∃L,cM h r=Z L/\l'=(bM T x).map .f++L:=by
   intro S A hS hns hU e;subst e;cases n with
   |zero=>simp[fI]at hp
   |succ n=>
    simp[fI]at hp;split at hp
    .rename_i x1 m1 r1 h1;split at hp
     next x2 m2 r2 h2=>simp[ah,aU]at hp;obtain⟨rfl,rfl,rfl⟩:=hp;let⟨L,g1,g2⟩:=one S hS hns n l x1 m1 r1 h1 l' hl;let⟨l3,g3,g4⟩:=Mi h ds A hU n r1 x2 m2 r2 h2 L g1;exact⟨l3,g3,by rw[g2,g4,bM,cr,iV]⟩
     .cases hp
    .cases hp
  cases d with
  |int k=>
   simp[sQ]at hd;split at hd
   next A hU=>simp[ah]at hd;exact two (.int k) A rfl (λt h=>by cases h) hU hd.symm
   .cases hd
  |bool=>
   simp[sQ]at hd;split at hd
   next A hU=>simp[ah]at hd;exact two .bool A rfl (λt h=>by cases h) hU hd.symm
   .cases hd
  |string=>
   simp[sQ]at hd;split at hd
   next A hU=>simp[ah]at hd;exact two .str A rfl (λt h=>by cases h) hU hd.symm
   .cases hd
  |_=>simp[sQ]at hd
def Gy:∀(ds:Y TypeDesc) (T:Ty),sQ ds=Z T->∀a b:T.den,jL ds (bM T a) (bM T b)=Z (LL T a b)
 |[],T,hd,a,b=>by simp[sQ,ah]at hd;subst hd;rfl
 |d::ds,T,hd,a,b=>by
  cases d with
  |int k=>
   simp[sQ]at hd;split at hd
   .rename_i y z;simp[ah]at hd;subst hd;have A:=Gy ds y z a.2 b.2;simp[bM,gJ,kW,jL,wF,cw,bq,LL];cases he:((a.1:Int)==b.1) with
    |true=>have D:(a.1:Int)=b.1:=by simpa using he
           grind
    |false=>have D:¬(a.1:Int)=b.1:=by simpa using he
            grind
   .cases hd
  |bool=>
   simp[sQ]at hd;split at hd
   .rename_i y z;simp[ah]at hd;subst hd;have A:=Gy ds y z a.2 b.2;simp[bM,gJ,kW,jL,wF,LL]
    grind
   .cases hd
  |string=>
   simp[sQ]at hd;split at hd
   .rename_i y z;simp[ah]at hd;subst hd;have A:=Gy ds y z a.2 b.2;simp[bM,gJ,kW,jL,wF,LL,Hl];cases he:decide ((a.1:ζ)=b.1) with
    |true=>simp[A,du]
    |false=>simp[kN]
   .cases hd
  |_=>simp[sQ]at hd
def Sf (A:u.isC=af) {lu:Y TV} (L:u.cs=Z lu) {ds:Y TypeDesc} (hd:sQ ds=Z T) {a:T.den} (hp:fI PT.leaf 40 T lu=Z (a,i,[])) (D:b_ h u=Z y):Le y (.f (.agg (bM T a))):=by
 let⟨h1,_⟩:=Kf L D;let⟨l2,h2,N⟩:=Mi h ds T hd 40 lu a i [] hp _ h1;simp[cM,ah]at h2;subst h2;rw[io]at N;cases u with
 |agg l=>
  simp[b_]at D;split at D
  next l' _=>simp[ah]at D;subst D;have:l'=(bM T a).map .f:=N;rw[this];exact Le.aggOf (ph T a)
  .cases D
 |f S x=>
  simp[b_,ah]at D;subst D;have ho:S.one=af:=A;rw[Dn]at N;have:bM S x=bM T a:=Ry N;rw[ux S x ho,this];exact Le.refl _
 |qg l|undef|qw=>simp[TV.cs,TV.isC]at L
 |zl id jj=>cases L
 |_=>cases A
variable (hinv:gZ h nx) (hi:sL e h)
include hinv hi
variable {X:FuncId->M cA} {W:TypeId->M Ty}
def azc {ds:Y TypeDesc} {y:Operand} {st:Bool} (hc:cV P o.op=Z (.xq b ds c y)) (D:fc X W (.op (.xq b ds c y)) e h nx K=Z r):jM P o st e h nx K r:=by
 let⟨H,hH⟩:=gM h;simp[fc]at D;split at D
 .rename_i T u v hd hu hv;split at D
  .cases D
  .rename_i hcc;simp[mV,not_or,Bool.not_eq_true]at hcc;split at D
   .rename_i lu lv hlu hlv;split at D
    .rename_i a m1 neg m2 hpa hpb;let⟨yu,h1,h2⟩:=bi hi hu;let⟨yv,h3,h4⟩:=bi hi hv;let⟨⟨⟨hc1,N⟩,hc3⟩,hc4⟩:=hcc;have l1:=Sf hc1 hlu hd hpa h2;have l2:=Sf N hlv hd hpb h4;have tmp:∀(z:Operand) (q:TV),dM e z=Z q->q.isC=af->Zc z=af->∃t,z= .tmp t:=by
      intro z q A hq hg;cases z with
      |tmp t=>exact⟨t,rfl⟩
      |const x=>
       have A:cst x=Z q:=by
        simp[dM,atb]at A;split at A
        .cases hg
        .exact A
       have:=(Ov h A).2.2;rw[hq]at this;cases this
      |func g=>simp[dM,ah]at A;subst A;cases hq
      |global g=>
       simp[dM]at A;split at A
       .cases A;cases hq
       .cases A
     obtain⟨t,rfl⟩:=tmp c u hu hc1 hc3;obtain⟨t',rfl⟩:=tmp y v hv N hc4;have same:t=t'->bM T a=bM T neg:=by grind
     let L:ED:=((DK e h).set t (Z (.f (.agg (bM T a))))).set t' (Z (.f (.agg (bM T neg))))
     have e1:mN L (.tmp t)=Z (.f (.agg (bM T a))):=by
      simp[mN,L,PT.get_set]
      grind
     have e2:mN L (.tmp t')=Z (.f (.agg (bM T neg))):=by simp[mN,L,PT.get_set,bq]
     have ha:dO (.xq b ds (.tmp t) (.tmp t')) L H 0=Z ⟨raw (.bool (LL T a neg !=b)),[],[],[],[]⟩:=by
      simp[dO,e1,e2,Gy ds T hd a neg];rfl
     have ht:=Mn hc ha;rw[hH]at ht;have ht2:gO P o (fM e h) (erHF h) _:=ht.envLe (e2:=fM e h) λs z _ A=>by
      simp[L,PT.get_set]at A;rw[<- Dl];simp[mN]at h1 h3;split at A
      .grind
      .split at A
       .grind
       .exact⟨z,A,Le.refl _⟩
     refine ⟨_,0,0,h,nx,D,⟨⟨_,ht2,λy hy=>?_,by simp[EB.eff,vR],by simp[EB.eff],by simp[EB.eff],by simp[EB.eff]⟩,λ_ _ h=>h,hinv,bI _,λ_=>⟨rfl,rfl⟩⟩⟩;simp[b_,ah]at hy;exact hy
    .cases D
   .cases D
 .cases D
def az2 (L:cV P o.op=Z .mkm) (D:fc X W (.op .mkm) e h nx K=Z r):jM P o af e h nx K r:=by
 have _:=hi;let⟨H,N⟩:=gM h;refine ⟨_,_,_,_,_,D,fC.new hinv L N (y0:=.mp (nm nx)) (rdl:=[]) (b0:=⟨0,.mp []⟩) rfl (dP.zero h) (λ_ _ he=>by cases he) (λH1 H2 d g b' z=>?_) (λH1 H2 y d g A=>?_) (by simp)⟩
 .cases z;exact gr.refl d _
 .simp[b_,ah]at A;subst A;exact kr.refl d _
def az6 {ok:Bool} {k:Operand} (hc:cV P o.op=Z (.jb b ok v c k)) (D:fc X W (.op (.jb b ok v c k)) e h nx K=Z r):jM P o af e h nx K r:=by
 let⟨H,hH⟩:=gM h;simp only[fc]at D;split at D
 .rename_i id KT kv hv hv2;split at D
  .rename_i K' V es hb;split at D
   .rename_i N;let⟨y,h1,h2⟩:=bi hi hv;let⟨y2,h3,h4⟩:=bi hi hv2;simp[b_,ah]at h2 h4;subst h2 h4;simp[au]at N;have hg:H.get (nm id)=Z ⟨0,.mp (es.map λp=>(r9 K' p.1,.f (gz V p.2)))⟩:=by rw[hH,bL,hb];show Z (kx.mk 0 (mpC K' V es))=_;rw[E6 N.2]
    let⟨_,hok,henc⟩:=Ti N.1 kv kv;rw[henc]at h3;have hrd:∀n∈[nm id],aO (gC id) (ow n)=J:=λn hn=>by simp[aC]at hn;subst hn;rw[dw];exact bt.2 rfl
    split at D
    .rename_i hE;split at D
     next z hz=>have hzz:=(Ov h hz).1;exact⟨_,_,_,_,_,D,fC.pure (k:=0) hinv hc hH (y0:=pkV ok (raw v) af) (rdl:=[nm id]) (by simp[dO,h1,h3,hg,hok,bq,Td hE,tM]) (λy L=>by rw[aif hzz]at L;cases L;exact Le.refl _) hrd nofun⟩
     .cases D
    .split at D
     .rename_i kv' A zv hkv hz;split at D
      .rename_i zv' hzv;let⟨e1,e2⟩:=jA hkv;cases e1;subst e2;let⟨e3,e4⟩:=jA hzv;cases e3;subst e4;have hzz:=(Ov h hz).1;simp[b_,ah]at hzz;refine ⟨_,_,_,_,_,D,fC.pure (k:=0) hinv hc hH (y0:=pkV ok (.f (gz _ (xn kv' es zv'))) (aei kv' es)) (rdl:=[nm id]) ?_ (λy L=>by rw[aif (y:=.f (gz _ (xn kv' es zv'))) rfl]at L;cases L;exact Le.refl _) hrd nofun⟩;simp[dO,h1,h3,hg,hok,bq,Mw N.1];unfold xn aei;cases hf:AZ kv' es with
       |none=>simp[Option.map_none];rw[hzz]
       |some z=>rfl
      .cases D
     .cases D
   .cases D
  .cases D
 .cases D
def az1 {k v:Operand} (hc:cV P o.op=Z (.jf b c k v)) (z:fc X W (.op (.jf b c k v)) e h nx K=Z r):jM P o af e h nx K r:=by
 let⟨H,hH⟩:=gM h;simp only[fc]at z;split at z
 .rename_i id KT N VT vv hv hv2 hv3;split at z
  .rename_i K' V es hb;split at z
   .rename_i D;simp[au]at D;let⟨y,h1,h2⟩:=bi hi hv;let⟨y2,h3,h4⟩:=bi hi hv2;let⟨y3,h5,h6⟩:=bi hi hv3;simp[b_,ah]at h2 h4 h6;subst h2 h4 h6;have hg:H.get (nm id)=Z ⟨0,.mp (es.map λp=>(r9 K' p.1,.f (gz V p.2)))⟩:=by rw[hH,bL,hb];show Z (kx.mk 0 (mpC K' V es))=_;rw[E6 D.2]
    let⟨_,hok,henc⟩:=Ti D.1.1 N N;rw[henc]at h3;have hrd:∀n∈[nm id],aO (gC id) (ow n)=J:=λn hn=>by simp[aC]at hn;subst hn;rw[dw];exact bt.2 rfl
    split at z
    next hE=>exact⟨_,_,_,_,_,z,fC.wrt (k:=0) (m:=0) (v:=.undef) (rd:=gC id) hinv hc hH (y0:=raw undef) (b0:=⟨0,.mp [(r9 KT N,.f (gz VT vv))]⟩) (rdl:=[nm id]) (by simp[dO,h1,h3,h5,hg,hok,bq,Td hE,An]) (B:=.mp KT VT [(N,vv)]) hb (dP.zero h) (by simp) rfl (λty' l2 he=>by cases he) (λH1 H2 d g b' A=>by simp[ky,E6 (ac7 D.1.1),ah]at A;subst A;exact gr.refl d _) (λH1 H2 y d g L=>by simp[b_,ah]at L;subst L;exact kr.refl d _) hrd⟩
    .split at z
     next kv' vv' hkv hvv=>let⟨e1,e2⟩:=jA hkv;cases e1;subst e2;let⟨e3,e4⟩:=jA hvv;cases e3;subst e4;exact⟨_,_,_,_,_,z,fC.wrt (k:=0) (m:=0) (v:=.undef) (rd:=gC id) hinv hc hH (y0:=raw undef) (b0:=⟨0,.mp ((uN kv' vv' es).map λp=>(r9 _ p.1,.f (gz _ p.2)))⟩) (rdl:=[nm id]) (by simp[dO,h1,h3,h5,hg,hok,bq,Ta D.1.1]) (B:=.mp _ _ (uN kv' vv' es)) hb (dP.zero h) (by simp) rfl (λty' l2 he=>by cases he) (λH1 H2 d g b' A=>by simp[ky,E6 (ac7 D.1.1),ah]at A;subst A;exact gr.refl d _) (λH1 H2 y d g L=>by simp[b_,ah]at L;subst L;exact kr.refl d _) hrd⟩
     .cases z
   .cases z
  .cases z
 .cases z
def ayy (hc:cV P o.op=Z (.rng c)) (z:fc X W (.op (.rng c)) e h nx K=Z r):jM P o af e h nx K r:=by
 let⟨H,hH⟩:=gM h;simp only[fc]at z;split at z
 .rename_i s N;let⟨y,h1,L⟩:=bi hi N;simp[b_,ah]at L;subst L;refine ⟨_,_,_,_,_,z,fC.new hinv hc hH (y0:=.H (nm nx) 0) (rdl:=[]) (b0:=⟨0,.it ⟨jG s⟩ 0⟩) (by simp[dO,h1];rfl) (dP.zero h) (λ_ _ he=>by cases he) (λH1 H2 d g b' A=>?_) (λH1 H2 y d g D=>?_) (by simp)⟩
  .cases A;exact gr.refl d _
  .simp[b_,ah]at D;subst D;exact kr.refl d _
 .cases z
def ayz (hc:cV P o.op=Z (.nxt c)) (z:fc X W (.op (.nxt c)) e h nx K=Z r):jM P o af e h nx K r:=by
 let⟨H,N⟩:=gM h;simp only[fc]at z;split at z
 .rename_i id hv;split at z
  .rename_i K' V es L;split at z
   .rename_i s p hI;let⟨y,h1,h2⟩:=bi hi hv;simp[b_,ah]at h2;subst h2;have hg:H.get (nm id)=Z ⟨0,.it ⟨jG s⟩ p⟩:=by rw[N,bL,L];show Z (kx.mk 0 (mpC K' V es))=_;rw[asy hI]
    have hrd:∀n∈[nm id],aO (gC id) (ow n)=J:=λn hn=>by simp[aC]at hn;subst hn;rw[dw];exact bt.2 rfl
    rcases mQ z with ⟨hp,z⟩|⟨hp,z⟩
    .have hp:=aY hp;have e2:(⟨jG s⟩:ByteArray).data.toList[p]? =Z (List.getD s p 0):=by grind
     exact⟨_,_,_,_,_,z,fC.wrt (k:=0) (m:=0) (rd:=gC id) hinv hc N (y0:=.qg [raw (.bool J),raw (.int .i64 p),raw (.int .i32 (rnP s p))]) (b0:=⟨0,.it ⟨jG s⟩ (p+wdP s p)⟩) (rdl:=[nm id]) (by simp only[dO,h1,hg,e2];rfl) (B:=.mp itK .un [((s,aS (p+wdP s p)),())]) L (dP.zero h) (by simp) rfl (λty' l2 he=>by cases he) (λH1 H2 d g b' A=>by cases A;exact gr.refl d _) (λH1 H2 y d g D=>by cases D;exact kr.refl d _) hrd⟩
    .have hp:l! s<=p:=Nat.not_lt.1 λq=>by rw[show eJ p (l! s)=J from bj q]at hp;cases hp
     have e2:(⟨jG s⟩:ByteArray).data.toList[p]? =U:=by grind
     exact⟨_,_,_,_,_,z,fC.wrt (k:=0) (m:=0) (rd:=gC id) hinv hc N (y0:=.qg [raw (.bool af)]) (b0:=⟨0,.it ⟨jG s⟩ p⟩) (rdl:=[nm id]) (by simp[dO,h1,hg,e2]) (B:=.mp itK .un [((s,aS p),())]) L (dP.zero h) (by simp) rfl (λty' l2 he=>by cases he) (λH1 H2 d g b' A=>by cases A;exact gr.refl d _) (λH1 H2 y d g D=>by cases D;exact kr.refl d _) hrd⟩
   .cases z
  .cases z
 .cases z
def K_op {s:UP} (D:cV P o.op=Z s) (A:fc X W (.op s) e h nx K=Z r):jM P o s.still e h nx K r:=by
 cases s with
 |mv x=>exact K_mv hinv hi D A
 |pick c a b=>exact avb hinv hi D A
 |alloc ty z=>exact aq3 hinv hi D A
 |box ty x=>exact azg hinv hi D A
 |build z parts=>exact aq2 hinv hi D A
 |xw ty sz len z parts=>exact azf hinv hi D A
 |load sz N x=>exact ave hinv hi D A
 |store sz x v=>exact apz hinv hi D A
 |jz x=>exact avc hinv hi D A
 |bin op x y=>exact azh hinv hi D A
 |xq neg ds x y=>exact azc hinv hi D A
 |xx neg x y=>exact azd hinv hi D A
 |zn neg x=>exact aq1 hinv hi D A
 |not x=>exact az0 hinv hi D A
 |conv k x=>exact avi hinv hi D A
 |zh ty sz bytes z l c=>exact avd hinv hi D A
 |slc sz x lo L mx=>exact ayx hinv hi D A
 |jm off x=>exact aza hinv hi D A
 |jp sz x i=>exact az9 hinv hi D A
 |idx n sz N x i=>exact az8 hinv hi D A
 |jk n sz x i=>exact avg hinv hi D A
 |ext x i=>exact azb hinv hi D A
 |len x=>exact az7 hinv hi D A
 |lens x=>exact avf hinv hi D A
 |max x y=>exact az5 hinv hi D A
 |min x y=>exact az4 hinv hi D A
 |jv x i=>exact ava hinv hi D A
 |app ty sz bytes s x=>exact azi hinv hi D A
 |copy sz d x=>exact avh hinv hi D A
 |clr sz z x=>exact aze hinv hi D A
 |mkf f caps=>exact az3 hinv hi D A
 |mkm=>exact az2 hinv hi D A
 |rng x=>exact ayy hinv hi D A
 |nxt x=>exact ayz hinv hi D A
 |jb str ok z x k=>exact az6 hinv hi D A
 |jf str x k v=>exact az1 hinv hi D A
 |_=>simp[fc]at A
end ops
mutual
def AV.qx (g:Nat->Nat):AV->AV
 |.f x=>.f x
 |.H id off=>.H (g id) off
 |.sl id off n=>.sl (g id) off n
 |.G id sz n=>.G (g id) sz n
 |.mp id=>.mp (g id)
 |.emp=>.emp
 |.qw=>.qw
 |.agg l=>.agg (AV.renL g l)
 |.qg l=>.qg (AV.renL g l)
 |.qv q l=>.qv q (AV.renL g l)
def AV.renL (g:Nat->Nat):Y AV->Y AV
 |[]=>[]
 |x::r=>x.qx g::AV.renL g r
end
def og (g:Nat->Nat):∀l,AV.renL g l=l.map (AV.qx g)
 |[]=>rfl
 |x::r=>by rw[AV.renL,og g r];rfl
def FF (g:Nat->Nat) (x:AV):(x.qx g).isCell=x.isCell:=by cases x<;>rfl
variable {g:Nat->Nat}
def cz.renTo {φ':PM} (A:∀i k,V i=Z k->φ' (g i)=Z k) (h:cz V O w y v):cz φ' O w (y.qx g) v:=by
 induction h with
 |f h=>exact .f h
 |H h=>exact .H (A _ _ h)
 |sl h D L=>exact .sl (A _ _ h) D L
 |G h D L hsh=>exact .G (A _ _ h) D L hsh
 |emp=>exact .emp
 |qw=>exact .qw
 |mp h=>exact .mp (A _ _ h)
 |agg hl hcl hr N=>
  simp[AV.qx,og];refine .agg (by grind) (λy z=>?_) λj y v z hv=>?_
  .obtain⟨x,hy,rfl⟩:=cu.1 z;rw[FF];exact hcl x hy
  .grind
 |qg hl hr N=>
  simp[AV.qx,og];refine .qg (by grind) λj y v z hv=>?_
  grind
 |qv hl hr N=>
  simp[AV.qx,og];refine .qv (by grind) λj y v z hv=>?_
  grind
variable {p:Nat->Bool}
def cz.renFrom {φ':PM} (hk:∀i k,p i=J->V (g i)=Z k->φ' i=Z k) (h:cz V O w y v):∀x:AV,x.all p=J->y=x.qx g->cz φ' O w x v:=by
 induction h with
 |f h=>intro x hp e;cases x<;>simp[AV.qx,reduceCtorEq]at e;cases e;exact .f h
 |H h=>intro x hp e;cases x<;>simp only[AV.qx,reduceCtorEq]at e;cases e;exact .H (hk _ _ hp h)
 |sl h hn hc=>intro x hp e;cases x<;>simp only[AV.qx,reduceCtorEq]at e;cases e;exact .sl (hk _ _ hp h) hn hc
 |G h hn hc hsh=>intro x hp e;cases x<;>simp only[AV.qx,reduceCtorEq]at e;cases e;exact .G (hk _ _ hp h) hn hc hsh
 |emp=>intro x hp e;cases x<;>simp[AV.qx,reduceCtorEq]at e;exact .emp
 |qw=>intro x hp e;cases x<;>simp[AV.qx,reduceCtorEq]at e;exact .qw
 |mp h=>intro x hp e;cases x<;>simp[AV.qx,reduceCtorEq]at e;cases e;exact .mp (hk _ _ hp h)
 |agg hl hcl N A=>
  intro x hp e;cases x<;>simp[AV.qx,reduceCtorEq]at e;cases e;rw[og]at hl hcl N A;refine .agg (by grind) (λx D=>?_) λj x v D L=>?_
  .have:=hcl (x.qx g) (cu.2 ⟨x,D,rfl⟩);rwa [FF]at this
  .exact A j (x.qx g) v (by grind) L x (ng hp x (ba D)) rfl
 |qg hl N A=>
  intro x hp e;cases x<;>simp[AV.qx,reduceCtorEq]at e;cases e;rw[og]at hl N A;refine .qg (by grind) λj x v D L=>?_
  exact A j (x.qx g) v (by grind) L x (ng hp x (ba D)) rfl
 |qv hl N A=>
  intro x hp e;cases x<;>simp only[AV.qx,reduceCtorEq]at e;cases e;rw[og]at hl N A;refine .qv (by grind) λj x v D L=>?_
  exact A j (x.qx g) v (by grind) L x (ng hp x (ba D)) rfl
def BC.qx (g:Nat->Nat):BC->BC
 |.fz l=>.fz l
 |.mx l=>.mx (l.map (AV.qx g))
 |.mp es=>.mp (es.map λp=>(p.1,p.2.qx g))
 |.it s p=>.it s p
def kx.qx (g:Nat->Nat) (b:kx):kx:=⟨b.ty,b.c.qx g⟩
def ic.renTo {φ':PM} {O':Nat->Prop} (L:∀x v,cz V O w x v->cz φ' O' w (x.qx g) v) {o:Obj} (h:ic V O w Q o):ic φ' O' w (Q.qx g) o:=by
 let⟨ty,c⟩:=Q;simp[kx.qx];cases c with
 |fz l=>
  let⟨arr,h1,A,D⟩:=h;refine ⟨arr,h1,A,λj x z=>?_⟩;let⟨a,v,c,d⟩:=D j x z;obtain⟨q,_,rfl⟩:=gu.1 z;exact⟨a,v,c,L _ _ d⟩
 |mx l=>
  simp[BC.qx];let⟨arr,h1,A,D⟩:=h;refine ⟨arr,h1,by simpa[BC.len] using A,λj x z=>?_⟩;simp only[BC.get,bE]at z;obtain⟨q,N,rfl⟩:=gu.1 z;let⟨a,v,c,d⟩:=D j q N;exact⟨by rw[FF];exact a,v,c,L _ _ d⟩
 |mp es=>
  let⟨e,c,h1,A,D⟩:=h;refine ⟨e,c,h1,by rw[adr];exact A,λj x z=>?_⟩
  grind
 |it s p=>exact h
def ic.renFrom {φ':PM} {O':Nat->Prop} (L:∀x v,x.all p=J->cz V O w (x.qx g) v->cz φ' O' w x v) (N:Q.c.all p=J) {o:Obj} (h:ic V O w (Q.qx g) o):ic φ' O' w Q o:=by
 let⟨ty,c⟩:=Q;simp[kx.qx]at h;cases c with
 |fz l=>
  let⟨arr,h1,A,D⟩:=h;refine ⟨arr,h1,A,λj x z=>?_⟩;let⟨a,v,c,d⟩:=D j x z;obtain⟨q,_,rfl⟩:=gu.1 z;exact⟨a,v,c,L _ _ rfl d⟩
 |mx l=>
  simp[BC.qx]at h;let⟨arr,h1,A,D⟩:=h;refine ⟨arr,h1,by simpa[BC.len] using A,λj x z=>?_⟩;simp[BC.get]at z;let⟨a,v,c,d⟩:=D j (x.qx g) (by simp only[BC.get,bE,z];rfl);rw[FF]at a;exact⟨a,v,c,L _ _ (ng N x (ba z)) d⟩
 |mp es=>
  let⟨e,c,h1,A,D⟩:=h;refine ⟨e,c,h1,by rw[adr]at A;exact A,λj x z=>?_⟩;let⟨m,a,Q⟩:=D j (x.1,x.2.qx g) (by grind);exact⟨m,a,L _ _ (ng N x.2 (cu.2 ⟨x,ba z,rfl⟩)) Q⟩
 |it s p=>exact h
mutual
def BR (g:Nat->Nat):TV->TV
 |.G i=>.G (g i)
 |.zl i j=>.zl (g i) j
 |.agg l=>.agg (lx g l)
 |.qg l=>.qg (lx g l)
 |.qv q l=>.qv q (lx g l)
 |.f T v=>.f T v
 |.zd T xs j h off=>.zd T xs j h off
 |.zg a b c d=>.zg (g a) b c d
 |.H a b=>.H (g a) b
 |.qy a b c=>.qy (g a) b c
 |.emp=>.emp
 |.nil=>.nil
 |.mp i=>.mp (g i)
 |.undef=>.undef
 |.np=>.np
 |.qw=>.qw
 |.sb s=>.sb (s.to (g s.id))
def lx (g:Nat->Nat):Y TV->Y TV
 |[]=>[]
 |x::r=>BR g x::lx g r
end
def vJ (g:Nat->Nat):∀l,lx g l=l.map (BR g)
 |[]=>rfl
 |x::r=>by rw[lx,vJ g r];rfl
def kU (g:Nat->Nat):fk->fk
 |.C ty l=>.C ty (lx g l)
 |.F ty p T xs=>.F ty p T xs
 |.qj p sz n=>.qj p sz n
 |.mp K V es=>.mp K V es
 |.I F a x=>.I F (F.aid (g a)) x
 |.qm F a x k p=>.qm F (F.aid (g a)) x k (p.map λq=>(g q.1,q.2))
def L9 (g:Nat->Nat) (b:fk):iM (kU g b)=iM b:=by cases b<;>rfl
def pJ (g:Nat->Nat) (n:Nat):Nat:=jE (g (ow n)) (ix n)
def Di (g:Nat->Nat) (i k:Nat):pJ g (jE i k)=jE (g i) k:=by unfold pJ;rw[iN,wq]
def Ce (g:Nat->Nat) (i:Nat):pJ g (nm i)=nm (g i):=Di g i 0
def LK (g:Nat->Nat) (i:Nat) (j:Int):pJ g (pM i j)=pM (g i) j:=Di g i _
def xR (g:Nat->Nat) (n:Nat):ow (pJ g n)=g (ow n):=iN _ _
def Ao (g:Nat->Nat) (n:Nat):ix (pJ g n)=ix n:=wq _ _
def Ve (g:Nat->Nat) (id j sz n:Nat):(uK id j sz n).qx (pJ g)=uK (g id) j sz n:=by
 unfold uK;split
 .rfl
 .simp[AV.qx,Di]
def ao8 (g:Nat->Nat) (s:Sb):KP (s.to (g s.id))=(KP s).qx (pJ g):=by
 cases s with
 |nr id j sz n=>simp[Sb.to,Sb.id,KP,Ve]
 |_=>simp[Sb.to,Sb.id,KP,AV.qx,LK,Di]
mutual
def at8 {g:Nat->Nat} {h1 h2:aZ} (hrow:∀i r,eR h1 i=Z r->eR h2 (g i)=Z r):∀(v:TV) (y:AV),b_ h1 v=Z y->b_ h2 (BR g v)=Z (y.qx (pJ g))
 |.f _ _,y,he|.zd _ _ _ _ _,y,he=>by simp[b_,ah]at he;subst he;rfl
 |.zg _ _ _ _,y,he|.H _ _,y,he|.qy _ _ _,y,he=>by simp[b_,ah]at he;subst he;simp[BR,b_,AV.qx,Ce]
 |.G id,y,he=>by
  simp[b_]at he;split at he
  .rename_i p sz n hr;simp[ah]at he;subst he;simp[BR,b_,hrow id _ hr];unfold dA;split
   .rfl
   .simp[AV.qx,Ce]
  .cases he
 |.zl id jj,y,he=>by
  simp[b_]at he;split at he
  .rename_i p sz n hr;simp[ah]at he;subst he;simp[BR,b_,hrow id _ hr,AV.qx,Ce]
  .cases he
 |.emp,y,he|.nil,y,he=>by simp[b_,ah]at he;subst he;rfl
 |.mp _,y,he=>by simp[b_,ah]at he;subst he;simp[BR,b_,AV.qx,Ce]
 |.agg l,y,he|.qg l,y,he|.qv q l,y,he=>by
  simp[b_]at he;split at he
  .rename_i l' hl;simp[ah]at he;subst he;simp[BR,b_,qB hrow l l' hl,AV.qx]
  .cases he
 |.undef,y,he|.np,y,he|.qw,y,he=>by simp[b_,ah]at he;subst he;rfl
 |.sb s,y,he=>by simp[b_,ah]at he;subst he;simp[BR,b_,ao8]
def qB {g:Nat->Nat} {h1 h2:aZ} (hrow:∀i r,eR h1 i=Z r->eR h2 (g i)=Z r):∀(l:Y TV) (l':Y AV),cM h1 l=Z l'->cM h2 (lx g l)=Z (AV.renL (pJ g) l')
 |[],l',he=>by simp[cM,ah]at he;subst he;rfl
 |x::r,l',he=>by
  obtain⟨y,l2,rfl,e1,e2⟩:=c9 he;exact qC (at8 hrow x y e1) (qB hrow r l2 e2)
end
def WZ (g:Nat->Nat) (a:Nat) (es:Y d?):(wV a es).map (λp=>(p.1,p.2.qx (pJ g)))=wV (g a) es:=by
 unfold wV;rw[kM];refine kS λe _=>?_
 simp[Function.comp,AV.qx,LK]
def WU (g:Nat->Nat) (a:Nat) (k:ν) (v:AV):∀es:Y d?,(NC a k v es).map (λp=>(p.1,p.2.qx (pJ g)))=NC (g a) k (v.qx (pJ g)) es
 |[]=>rfl
 |e::r=>by
  simp[NC];split
  .rw[ch,WZ]
  .rw[ch,WU g a k v r];simp[AV.qx,LK]
def HP (g:Nat->Nat) (a sz:Nat):∀(z:η) (k:Nat),(lM a sz k z).map (AV.qx (pJ g))=lM (g a) sz k z
 |[],_=>rfl
 |l::r,k=>by simp[lM,ch,Ve,HP g a sz r (k+1)]
def aeb (g:Nat->Nat) (p:Bool) (id sz n:Nat):(dA p id sz n).qx (pJ g)=dA p (g id) sz n:=by
 unfold dA;split
 .rfl
 .simp[AV.qx,Ce]
def aic (g:Nat->Nat) (a:Nat) (z:η):(z.map λj=>AV.H (pM a j) 0).map (AV.qx (pJ g))=z.map λj=>.H (pM (g a) j) 0:=by
 rw[kM];refine kS λj _=>?_
 simp[Function.comp,AV.qx,LK]
def WH (g:Nat->Nat) (a:Nat) (F:uE) (x:F.ty.den):uv (F.aid (g a)) F x=(uv a F x).map (kx.qx (pJ g)):=by
 cases F with
 |qh ty=>
  simp[uv,uE.aid];split
  .rfl
  .exact (e_ (λz=>Z (kx.mk ty (.mx z))) (aic g a x)).symm
 |zq=>exact (e_ (λz=>Z (kx.mk 0 (.mp z))) (WZ g a x)).symm
 |rr ty sz=>exact (e_ (λz=>Z (kx.mk ty (.mx z))) (HP g a sz x 0)).symm
 |_=>rfl
def af9 (g:Nat->Nat) (a:Nat) (k:ν) (F:uE) (x:F.ty.den) (p:M (Nat×Bool×Nat)):acm (F.aid (g a)) k F x (p.map λq=>(g q.1,q.2))=(acm a k F x p).map (kx.qx (pJ g)):=by
 cases F with
 |zq=>
  cases p with
  |none=>rfl
  |some q=>
   have:=WU g a k (.H (nm q.1) 0) x;simp[AV.qx,Ce]at this;exact (e_ (λz=>Z (kx.mk 0 (.mp z))) this).symm
 |rr ty sz=>
  cases p with
  |none=>rfl
  |some q=>
   have:=HP g a sz x 0;simp[acm,uE.aid,bx,kx.qx,BC.qx,List.map_set,aeb]
   grind
 |_=>rfl
def afb (g:Nat->Nat) (k:Nat) (ty:TypeId) (T:Ty) (xss:Y (Y T.den)):rh k ty T xss=(rh k ty T xss).map (kx.qx (pJ g)):=by
 unfold rh;cases xss[k]? with
 |none=>rfl
 |some xs=>
  simp[aD,ZC];split<;>rfl
def afc (g:Nat->Nat) (i k:Nat) (ty:TypeId) (S:Ty) (xs:Y (CU S)):ri (g i) k ty S xs=(ri i k ty S xs).map (kx.qx (pJ g)):=by
 unfold ri;rw[Option.map_map];congr 1;funext o;simp[Function.comp,wE];split
 .simp only[kx.qx,BC.qx,cr,kM,ch,C3,AV.qx,Di];rfl
 .simp only[kx.qx,BC.qx,H3,kM];rfl
def Nv (g:Nat->Nat) (i k:Nat) (F:uE) (x:F.ty.den):KN (g i) k F x=(KN i k F x).map (kx.qx (pJ g)):=by
 cases F with
 |ar ty S=>
  exact afc g i k ty S x
 |ir ty T=>
  exact afb g k ty T x
 |_=>rfl
def VK (g:Nat->Nat) (i k:Nat) (b:fk):wS (g i) k (kU g b)=(wS i k b).map (kx.qx (pJ g)):=by
 cases b with
 |I F a x=>exact Nv g i k F x
 |qm F a x j p=>
  cases p with
  |none=>
   simp[kU,wS,Option.map_none];split
   .rfl
   .exact Nv g i k F x
  |some q=>exact Nv g i k F x
 |_=>rfl
def aob {A:aZ} (hrow:∀i r,eR h i=Z r->eR A (g i)=Z r) {b:fk} (he:ky h b=Z Q):ky A (kU g b)=Z (Q.qx (pJ g)):=by
 cases b with
 |F ty p T xs=>
  simp only[ky]at he;split at he
  .cases he
  next D=>simp[ah]at he;subst he;simp only[kU,ky,ax D];rfl
 |C ty l=>
  cases ty with
  |some ty=>
   simp[ky]at he;split at he
   next l' z=>simp[ah]at he;subst he;simp[kU,ky,qB hrow l l' z,og];rfl
   .cases he
  |none=>
   simp[ky]at he;split at he
   next l' z=>simp[ah]at he;subst he;simp[kU,ky,qB hrow l l' z,og,kx.qx,BC.qx]
   .cases he
 |qj p sz n=>cases he
 |mp K V es=>
  simp[ky,ah]at he;subst he;simp[kU,ky,kx.qx,ah,kx.mk.injEq,true_and];unfold mpC;split
  .rfl
  .simp only[BC.qx,kM];rfl
 |I F a x=>
  simp[ky]at he;simp[kU,ky,WH,he,bx]
 |qm F a x k p=>
  simp[ky]at he;simp[kU,ky,af9,he,bx]
def Dk {z:aZ} (hrow:∀i r,eR h i=Z r->eR z (g i)=Z r) {b:fk} :∀{k:Nat},Pu h i k b=Z Q->Pu z (g i) k (kU g b)=Z (Q.qx (pJ g))
 |0,he=>aob hrow he
 |k+1,he=>by
  simp[Pu]at he ⊢;rw[VK,he];rfl
def FG (g:Nat->Nat) (a b:Y TV):lx g (a++b)=lx g a++lx g b:=by
 rw[vJ,vJ,vJ,cr]
def rm (g:Nat->Nat):∀(n:Nat) (T:Ty) (v:T.den) (l:Y TV),cellsOf n T v=Z l->lx g l=l
 |0,_,_,_,he=>by simp[cellsOf]at he
 |n+1,.st t,v,l,he=>rm g n t v l he
 |n+1,.pr a b,v,l,he=>by
  simp[cellsOf]at he;split at he
  next x y A z=>simp[ah]at he;subst he;rw[FG,rm g n a v.1 x A,rm g n b v.2 y z]
  .cases he
 |n+1,.un,v,l,he=>by simp[cellsOf,ah]at he;subst he;rfl
 |n+1,.ex,v,l,he=>rm g n RK (Sr v) l he
 |n+1,.sm,v,l,he=>rm g n Rf (Sq v) l he
 |n+1,.int k,v,l,he|n+1,.bool,v,l,he|n+1,.str,v,l,he|n+1,.sl t,v,l,he=>by simp[cellsOf,ah]at he;subst he;rfl
abbrev MS:Nat->Nat:=λi=>i
mutual
def aia (g:Nat->Nat):∀(p:PV) (x:p.ty.den),nJ g p x=(nJ MS p x).map (lx g)
 |.d T,x=>by
  simp only[nJ];cases h:cellsOf 40 T x with
  |none=>rfl
  |some l=>simp only[bx,rm g 40 T x l h]
 |.H i o,x|.qy i o z,x=>rfl
 |.qv q ps,x=>by simp only[nJ,bx,lx,BR,vJ,kM];rfl
 |.ob i o,x|.nr i s,x|.G i,x|.mp i,x|.nil,x|.emp,x=>rfl
 |.agg ps,x=>C_ g ps x
def C_ (g:Nat->Nat):∀(ps:Y PV) (x:(PV.tyL ps).den),sM g ps x=(sM MS ps x).map (lx g)
 |[],x=>rfl
 |p::r,x=>by
  simp only[sM];rw[aia g p,C_ g r];cases nJ MS p (UN p.ty (PV.tyL r) x) with
  |none=>rfl
  |some a=>
   cases sM MS r (Sy p.ty (PV.tyL r) x) with
   |none=>rfl
   |some b=>simp only[bx,FG]
end
def atm (o:M (Y TV)):M TV:=match o with|some l=>Z (.agg l)|none=>U
def akx (g:Nat->Nat) (o:M (Y TV)):atm (o.map (lx g))=(atm o).map (BR g):=by cases o<;>rfl
def ai9 (g:Nat->Nat) (p:PV) (x:p.ty.den):rG g p x=(rG MS p x).map (BR g):=by
 cases p with
 |agg z=>exact (e_ atm (C_ g z x)).trans (akx g _)
 |qv q z=>simp only[rG,bx,BR,vJ,kM];rfl
 |_=>rfl
def vK (g:Nat->Nat):∀(z:Y PV) (x:(PV.tyL z).den),rF g z x=(rF MS z x).map (lx g)
 |[],x=>rfl
 |p::r,x=>by
  simp[rF];rw[ai9 g p,vK g r];cases rG MS p (UN p.ty (PV.tyL r) x) with
  |none=>rfl
  |some a=>
   cases rF MS r (Sy p.ty (PV.tyL r) x) with
   |_=>rfl
def aa9 (ty:M TypeId) (o:M (Y TV)):M (M fk):=match o with|some l=>Z (Z (.C ty l))|none=>U
def aa8 (g:Nat->Nat) (ty:M TypeId) (o:M (Y TV)):aa9 ty (o.map (lx g))=(aa9 ty o).map (ie (kU g)):=by cases o<;>rfl
def aib (g:Nat->Nat) (b:PB) (x:b.ty.den):Ds g b x=(Ds MS b x).map (ie (kU g)):=by
 cases b with
 |C ty z=>exact (e_ (aa9 ty) (C_ g z x)).trans (aa8 g ty _)
 |I F a=>cases F<;>rfl
 |_=>rfl
def yD (g:Nat->Nat):∀(bs:Y PB) (x:(PB.tyL bs).den),qT g bs x=(qT MS bs x).map (gE (ie (kU g)))
 |[],x=>rfl
 |b::r,x=>by
  simp[qT];rw[aib g b,yD g r];cases Ds MS b (UN b.ty (PB.tyL r) x) with
  |none=>rfl
  |some a=>grind
def FJ (g:Nat->Nat):∀(bs:Y PB) (x:(PB.tyL bs).den) (l:Y (M fk)),qT g bs x=Z l->l! l=l! bs
 |[],x,l,h=>by simp[qT,ah]at h;subst h;rfl
 |b::r,x,l,h=>by
  simp[qT]at h;split at h
  .split at h
   next q z=>simp[ah]at h;subst h;simp[FJ g r _ q z]
   .cases h
  .cases h
def Nl (h:aZ) (i j:Nat):(kill h i).get j=if j=i then (h.get i).map vb else h.get j:=by
 unfold kill;cases z:h.get i with
 |none=>grind
 |some b=>rw[PT.get_set];rfl
def xo (g:Nat->Nat):∀(l:Y (M fk)) (i:Nat) (h:aZ) (j:Nat),(∀k,k<l! l->j≠g (i+k))->(Dz g i l h).get j=h.get j
 |[],i,h,j,_=>rfl
 |some c::r,i,h,j,z=>by
  rw[Dz,xo g r (i+1) _ j (λk A=>by have:=z (k+1) (by grind);rwa [show i+1+k=i+(k+1) from by omega]),PT.get_set,ax];exact z 0 (by simp)
 |none::r,i,h,j,z=>by
  rw[Dz,xo g r (i+1) _ j (λk A=>by have:=z (k+1) (by grind);rwa [show i+1+k=i+(k+1) from by omega]),Nl,ax];exact z 0 (by simp)
def xp (g:Nat->Nat):∀(l:Y (M fk)) (i:Nat) (h:aZ),(∀a b,a<l! l->b<l! l->g (i+a)=g (i+b)->a=b)->∀(k:Nat) (c:M fk),l[k]? =Z c->(Dz g i l h).get (g (i+k))=(match c with|some b=>Z b|none=>(h.get (g (i+k))).map vb)
 |[],i,h,_,k,c,A=>by simp at A
 |o::r,i,h,hinj,k,c,A=>by
  have hinj':∀a b,a<l! r->b<l! r->g (i+1+a)=g (i+1+b)->a=b:=λa b L D e=>by
   have:=hinj (a+1) (b+1) (by grind) (by grind) (by grind);omega
  cases k with
  |zero=>
   simp at A;subst A;have hne:∀k,k<l! r->g (i+0)≠g (i+1+k):=λk A e=>by
    have:=hinj 0 (k+1) (by simp) (by grind) (by grind);omega
   cases o with
   |some b=>rw[Dz,xo g r (i+1) _ _ hne];simp[dI];rw[PT.get_set,aF rfl]
   |none=>rw[Dz,xo g r (i+1) _ _ hne];simp[dI];rw[Nl,aF rfl]
  |succ k=>
   have z:r[k]? =Z c:=by grind
   have hne:g (i+(k+1))≠g i:=λe=>by
    have:=hinj (k+1) 0 (by grind) (by simp) (by omega);omega
   rw[show i+(k+1)=i+1+k from by omega]at hne ⊢;cases o with
   |some b=>
    rw[Dz,xp g r (i+1) _ hinj' k c z];cases c with
    |some _=>rfl
    |none=>simp[PT.get_set,ax hne]
   |none=>
    rw[Dz,xp g r (i+1) _ hinj' k c z];cases c with
    |some _=>rfl
    |none=>simp[Nl,ax hne]
def AO (h' h:aZ):Prop:=∀i r,eR h' i=Z r->eR h i=Z r
section get
variable {h h':aZ} {H H':HF} {g:Nat->Nat}
def kr.agg {l':Y AV} (z:gX H H' B l') (hc:∀x∈l',x.isCell=J):kr H H' (.agg B) (.agg l'):=by
 intro φ E w v hrep N;cases N with
 |@agg _ vs hlen hcl hrr=>
  refine .agg (by rw[hlen,<-z.length]) hc λj y u A L=>?_
  let⟨x,D,hle⟩:=z.get j y A;exact hle φ E w u hrep (hrr j x u D L)
def Vd (L:AO h' h) {A:AV} (D:b_ h (.G i)=Z y) (z:b_ h' (.G i)=Z A):A=y:=by
 simp[b_]at D z;cases h1:eR h' i with
 |none=>rw[h1]at z;cases z
 |some r=>
  rw[L i r h1]at D
  grind
def Mf {g:Nat->Nat}:∀{z:Y p?} {vs:Y TV},Mg g z vs=J->vs=z.map λp=>.H (g p.1) p.2
 |[],[],_=>rfl
 |[],_::_,h|_::_,[],h=>by simp[Mg]at h
 |(i,o)::r,v::vs,h=>by
  cases v with
  |H D A=>
   simp only[Mg,au]at h;rw[ch,<-Mf h.2,av h.1.1,av h.1.2]
  |_=>simp[Mg]at h
def Lx (h:aZ) (g:Nat->Nat):∀z:Y p?,cM h (z.map λp=>.H (g p.1) p.2)=Z (z.map λp=>.H (nm (g p.1)) p.2)
 |[]=>rfl
 |p::r=>by simp[ch,cM,b_,Lx h g r]
mutual
def ao1 (d:rA H H') (hr:AO h' h):∀(p:PV) (l:Y TV) (x:p.ty.den) (m:Nat) (r:Y TV) (cs:Y TV) (l' cs':Y AV),mM g h p l=Z (x,m,r)->nJ g p x=Z cs->cM h l=Z l'->cM h' cs=Z cs'->Fm h H H' m->∃l1 l2,l'=l1++l2/\cM h r=Z l2/\gX H H' l1 cs'
 |.d T,l,x,m,r,cs,l',cs',hg,hp,hl,hc,gv=>by
  obtain⟨l1,l2,e1,e2,e3⟩:=rI d 40 T l x m r l' hg hl gv;have:=(mP h' 40 T x cs hp).1;rw[hc]at this;cases this;exact⟨l1,l2,e1,e2,e3⟩
 |.H i q,l,x,m,r,cs,l',cs',hg,hp,hl,hc,gv=>by
  simp only[mM]at hg;split at hg
  .rename_i i' o' r';split at hg
   .rename_i hb;simp only[au]at hb;have e1:=av hb.1;have e2:=av hb.2;subst e1 e2;simp only[ah,aU]at hg;obtain⟨_,_,rfl⟩:=hg;simp only[nJ,ah]at hp;subst hp;obtain⟨y,l2,rfl,g1,g2⟩:=c9 hl;simp only[b_,ah]at g1;subst g1;simp only[cM,b_,ah]at hc;subst hc;exact⟨[_],l2,rfl,g2,kr.refl d _,trivial⟩
   .cases hg
  .cases hg
 |.qy i q z,l,x,m,r,cs,l',cs',hg,hp,hl,hc,gv=>by
  simp only[mM]at hg;split at hg
  .rename_i i' o' z' r';split at hg
   .rename_i hb;simp only[au]at hb;have e1:=av hb.1.1;have e2:=av hb.1.2;have e3:=av hb.2;subst e1 e2 e3;simp only[ah,aU]at hg;obtain⟨_,_,rfl⟩:=hg;simp only[nJ,ah]at hp;subst hp;obtain⟨y,l2,rfl,g1,g2⟩:=c9 hl;simp only[b_,ah]at g1;subst g1;simp only[cM,b_,ah]at hc;subst hc;exact⟨[_],l2,rfl,g2,kr.refl d _,trivial⟩
   .cases hg
  .cases hg
 |.qv q ps,l,x,m,r,cs,l',cs',hg,hp,hl,hc,gv=>by
  simp only[mM]at hg;split at hg
  .rename_i q' vs r';split at hg
   .rename_i hb;simp only[au]at hb;have e1:=av hb.1;have e2:=Mf hb.2;subst e1 e2;simp only[ah,aU]at hg;obtain⟨_,_,rfl⟩:=hg;simp only[nJ,ah]at hp;subst hp;obtain⟨y,l2,rfl,g1,g2⟩:=c9 hl;simp only[b_,Lx,ah]at g1;subst g1;simp only[cM,b_,Lx,ah]at hc;subst hc;exact⟨[_],l2,rfl,g2,kr.refl d _,trivial⟩
   .cases hg
  .cases hg
 |.ob i q,l,x,m,r,cs,l',cs',hg,hp,hl,hc,gv=>by
  simp only[mM]at hg;split at hg
  .rename_i i' j' o' r';split at hg
   .rename_i hb;simp only[au]at hb;have e1:=av hb.1;have e2:=av hb.2;subst e1 e2;simp only[ah,aU]at hg;obtain⟨rfl,_,rfl⟩:=hg;simp only[nJ,ah]at hp;subst hp;obtain⟨y,l2,rfl,g1,g2⟩:=c9 hl;simp only[b_,ah]at g1;subst g1;simp only[cM,b_,ah]at hc;subst hc;exact⟨[_],l2,rfl,g2,kr.refl d _,trivial⟩
   .cases hg
  .cases hg
 |.nr i q,l,x,m,r,cs,l',cs',hg,hp,hl,hc,gv=>by
  simp only[mM]at hg;split at hg
  .rename_i i' j' o' n' r';split at hg
   .rename_i hb;simp only[au]at hb;have e1:=av hb.1;have e2:=av hb.2;subst e1 e2;simp only[ah,aU]at hg;obtain⟨rfl,_,rfl⟩:=hg;simp only[nJ,ah]at hp;subst hp;obtain⟨y,l2,rfl,g1,g2⟩:=c9 hl;simp only[b_,ah]at g1;subst g1;simp only[cM,b_,ah]at hc;subst hc;exact⟨[_],l2,rfl,g2,kr.refl d _,trivial⟩
   .cases hg
  .cases hg
 |.G i,l,x,m,r,cs,l',cs',hg,hp,hl,hc,gv=>by
  simp only[mM]at hg;split at hg
  .rename_i i' r';split at hg
   .rename_i hb;have e1:=av hb;subst e1;simp only[ah,aU]at hg;obtain⟨_,_,rfl⟩:=hg;simp only[nJ,ah]at hp;subst hp;obtain⟨y,l2,rfl,g1,g2⟩:=c9 hl;obtain⟨y',l3,rfl,g3,g4⟩:=c9 hc;simp only[cM,ah]at g4;subst g4;rw[Vd hr g1 g3];exact⟨[_],l2,rfl,g2,kr.refl d _,trivial⟩
   .cases hg
  .cases hg
 |.mp i,l,x,m,r,cs,l',cs',hg,hp,hl,hc,gv=>by
  simp only[mM]at hg;split at hg
  .rename_i i' r';split at hg
   .rename_i hb;have e1:=av hb;subst e1;simp only[ah,aU]at hg;obtain⟨_,_,rfl⟩:=hg;simp only[nJ,ah]at hp;subst hp;obtain⟨y,l2,rfl,g1,g2⟩:=c9 hl;simp only[b_,ah]at g1;subst g1;simp only[cM,b_,ah]at hc;subst hc;exact⟨[_],l2,rfl,g2,kr.refl d _,trivial⟩
   .cases hg
  .cases hg
 |.nil,l,x,m,r,cs,l',cs',hg,hp,hl,hc,gv=>by
  simp only[mM]at hg;split at hg
  .simp only[ah,aU]at hg;obtain⟨_,_,rfl⟩:=hg;simp only[nJ,ah]at hp;subst hp;obtain⟨y,l2,rfl,g1,g2⟩:=c9 hl;simp only[b_,ah]at g1;subst g1;simp only[cM,b_,ah]at hc;subst hc;exact⟨[_],l2,rfl,g2,kr.refl d _,trivial⟩
  .cases hg
 |.emp,l,x,m,r,cs,l',cs',hg,hp,hl,hc,gv=>by
  simp only[mM]at hg;split at hg
  .simp only[ah,aU]at hg;obtain⟨_,_,rfl⟩:=hg;simp only[nJ,ah]at hp;subst hp;obtain⟨y,l2,rfl,g1,g2⟩:=c9 hl;simp only[b_,ah]at g1;subst g1;simp only[cM,b_,ah]at hc;subst hc;exact⟨[_],l2,rfl,g2,Le.nilEmp.toH d,trivial⟩
  .simp only[ah,aU]at hg;obtain⟨_,_,rfl⟩:=hg;simp only[nJ,ah]at hp;subst hp;obtain⟨y,l2,rfl,g1,g2⟩:=c9 hl;simp only[b_,ah]at g1;subst g1;simp only[cM,b_,ah]at hc;subst hc;exact⟨[_],l2,rfl,g2,kr.refl d _,trivial⟩
  .cases hg
 |.agg ps,l,x,m,r,cs,l',cs',hg,hp,hl,hc,gv=>Gt d hr ps l x m r cs l' cs' hg hp hl hc gv
def Gt (d:rA H H') (hr:AO h' h):∀(ps:Y PV) (l:Y TV) (x:(PV.tyL ps).den) (m:Nat) (r:Y TV) (cs:Y TV) (l' cs':Y AV),Cd g h ps l=Z (x,m,r)->sM g ps x=Z cs->cM h l=Z l'->cM h' cs=Z cs'->Fm h H H' m->∃l1 l2,l'=l1++l2/\cM h r=Z l2/\gX H H' l1 cs'
 |[],l,x,m,r,cs,l',cs',hg,hp,hl,hc,gv=>by
  simp only[Cd,ah,aU]at hg;obtain⟨_,_,rfl⟩:=hg;simp only[sM,ah]at hp;subst hp;simp only[cM,ah]at hc;subst hc;exact⟨[],l',rfl,hl,trivial⟩
 |p::ps,l,x,m,r,cs,l',cs',hg,hp,hl,hc,gv=>by
  simp only[Cd]at hg;split at hg
  .rename_i x1 m1 r1 h1;split at hg
   .rename_i x2 m2 r2 h2;cases hg;simp only[sM,vD,xh]at hp;split at hp
    .rename_i a ha;split at hp
     .rename_i b hb;cases hp;obtain⟨a',b',rfl,ea,eb⟩:=Ff hc;obtain⟨ga,gb⟩:=gv.or;obtain⟨l1,l2,rfl,q1,q2⟩:=ao1 d hr p l _ _ _ a l' a' h1 ha hl ea ga;obtain⟨l3,l4,rfl,q3,q4⟩:=Gt d hr ps _ _ _ _ b l2 b' h2 hb q1 eb gb;exact⟨l1++l3,l4,by simp,q3,q2.append q4⟩
     .cases hp
    .cases hp
   .cases hg
  .cases hg
end
mutual
def aee:∀(p:PV) (x:p.ty.den) (cs:Y TV),nJ g p x=Z cs->lJ cs=J
 |.d T,x,cs,hp=>(mP PT.leaf 40 T x cs hp).2
 |.H i q,x,cs,hp|.qy i q z,x,cs,hp|.qv q ps,x,cs,hp|.ob i q,x,cs,hp|.nr i q,x,cs,hp|.G i,x,cs,hp|.mp i,x,cs,hp|.nil,x,cs,hp|.emp,x,cs,hp=>by simp only[nJ,ah]at hp;subst hp;rfl
 |.agg ps,x,cs,hp=>Ad ps x cs hp
def Ad:∀(ps:Y PV) (x:(PV.tyL ps).den) (cs:Y TV),sM g ps x=Z cs->lJ cs=J
 |[],x,cs,hp=>by simp only[sM,ah]at hp;subst hp;rfl
 |p::ps,x,cs,hp=>by
  simp only[sM]at hp;split at hp
  .rename_i a ha;split at hp
   .rename_i b hb;cases hp;exact X7 (aee p _ a ha) (Ad ps _ b hb)
   .cases hp
  .cases hp
end
def ao0 (d:rA H H') (hr:AO h' h) {p:PV} {v:TV} {x:p.ty.den} {y':AV} (D:wB g h p v=Z (x,i)) (hp:rG g p x=Z u) (L:b_ h v=Z y) (A:b_ h' u=Z y') (gv:Fm h H H' i):kr H H' y y':=by
 cases p with
 |d T=>
  simp only[rG,ah]at hp;subst hp;simp only[b_,ah]at A;subst A;exact (Uy d D L gv).1
 |agg ps=>
  simp only[wB]at D;split at D
  .cases D
  .rename_i hc;split at D
   .rename_i l hl;split at D
    .rename_i x1 m1 h1;cases D;simp only[rG]at hp;split at hp
     .rename_i cs hcs;cases hp;simp only[b_]at A;split at A
      .rename_i cs' hcs';cases A;let⟨e1,e2⟩:=Kf hl L;let⟨l1,l2,q1,q2,q3⟩:=Gt d hr ps l _ _ [] cs y.cs cs' h1 hcs e1 hcs' gv;simp only[cM,ah]at q2;subst q2;rw[io]at q1;subst q1;have hcell:∀x∈cs',x.isCell=J:=mR (tV hcs' (Ad ps _ cs hcs));cases v with
       |agg q=>
        simp only[b_]at L;split at L
        .cases L;exact kr.agg q3 hcell
        .cases L
       |f S z=>
        simp only[b_,ah]at L;subst L;have ho:S.one=af:=by simpa[TV.isC] using hc
        rw[Dn]at q3;rw[ux S z ho];intro φ E w v hrep hrel;exact kr.agg q3 hcell φ E w v hrep (Le.aggF _ _ _ _ hrel)
       |qg q|undef|qw=>simp[TV.cs,TV.isC]at hl
       |sb q=>exact bC rfl hc
       |zl id jj=>cases hl
       |_=>simp[TV.isC]at hc
      .cases A
     .cases hp
    .cases D
   .cases D
 |H m q=>
  simp only[rG,ah]at hp;subst hp;simp only[wB]at D;split at D
  .rename_i h1;simp only[mM]at h1;split at h1
   .rename_i e;simp only[e9]at e;obtain⟨rfl,_⟩:=e;split at h1
    next N=>simp only[au]at N;have e1:=av N.1;have e2:=av N.2;subst e1 e2;simp only[b_,ah]at L A;subst L A;exact kr.refl d _
    .cases h1
   .cases h1
  .cases D
 |qy m q z=>
  simp only[rG,ah]at hp;subst hp;simp only[wB]at D;split at D
  .rename_i h1;simp only[mM]at h1;split at h1
   .rename_i e;simp only[e9]at e;obtain⟨rfl,_⟩:=e;split at h1
    next N=>simp only[au]at N;have e1:=av N.1.1;have e2:=av N.1.2;have e3:=av N.2;subst e1 e2 e3;simp only[b_,ah]at L A;subst L A;exact kr.refl d _
    .cases h1
   .cases h1
  .cases D
 |qv q ps=>
  simp only[rG,ah]at hp;subst hp;simp only[wB]at D;split at D
  .rename_i h1;simp only[mM]at h1;split at h1
   .rename_i e;simp only[e9]at e;obtain⟨rfl,_⟩:=e;split at h1
    next N=>simp only[au]at N;have e1:=av N.1;have e2:=Mf N.2;subst e1 e2;simp only[b_,Lx,ah]at L A;subst L A;exact kr.refl d _
    .cases h1
   .cases h1
  .cases D
 |G m=>
  simp only[rG,ah]at hp;subst hp;simp only[wB]at D;split at D
  .rename_i h1;simp only[mM]at h1;split at h1
   .rename_i e;simp only[e9]at e;obtain⟨rfl,_⟩:=e;split at h1
    next N=>have e1:=av N;subst e1;rw[Vd hr L A];exact kr.refl d _
    .cases h1
   .cases h1
  .cases D
 |mp m=>
  simp only[rG,ah]at hp;subst hp;simp only[wB]at D;split at D
  .rename_i h1;simp only[mM]at h1;split at h1
   .rename_i e;simp only[e9]at e;obtain⟨rfl,_⟩:=e;split at h1
    next N=>have e1:=av N;subst e1;simp only[b_,ah]at L A;subst L A;exact kr.refl d _
    .cases h1
   .cases h1
  .cases D
 |nil=>
  simp only[rG,ah]at hp;subst hp;simp only[wB]at D;split at D
  .rename_i h1;simp only[mM]at h1;split at h1
   next e=>simp only[e9]at e;obtain⟨rfl,_⟩:=e;simp only[b_,ah]at L A;subst L A;exact kr.refl d _
   .cases h1
  .cases D
 |emp=>
  simp only[rG,ah]at hp;subst hp;simp only[wB]at D;split at D
  .rename_i h1;simp only[mM]at h1;split at h1
   next e=>simp only[e9]at e;obtain⟨rfl,_⟩:=e;simp only[b_,ah]at L A;subst L A;exact Le.nilEmp.toH d
   next e=>simp only[e9]at e;obtain⟨rfl,_⟩:=e;simp only[b_,ah]at L A;subst L A;exact kr.refl d _
   .cases h1
  .cases D
 |_=>
  simp only[rG,ah]at hp;subst hp;simp only[wB]at D;split at D
  .rename_i h1;simp only[mM]at h1;split at h1
   .rename_i e;simp only[e9]at e;obtain⟨rfl,_⟩:=e;split at h1
    next N=>simp only[au]at N;have e1:=av N.1;have e2:=av N.2;subst e1 e2;simp only[ah,aU]at h1 D;obtain⟨rfl,_⟩:=D;obtain⟨rfl,_⟩:=h1;simp only[b_,ah]at L A;subst L A;exact kr.refl d _
    .cases h1
   .cases h1
  .cases D
def Gs (d:rA H H') (hr:AO h' h):∀(L:Y PV) (vs:Y TV) (x:(PV.tyL L).den) (m:Nat) (D:Y TV) (l l':Y AV),Cc g h L vs=Z (x,m)->rF g L x=Z D->cM h vs=Z l->cM h' D=Z l'->Fm h H H' m->gX H H' l l'
 |[],[],x,m,D,l,l',z,hp,N,A,gv=>by
  simp[rF,ah]at hp;subst hp;simp[cM,ah]at N A;subst N A;trivial
 |[],_::_,x,m,D,l,l',z,_,_,_,_|_::_,[],x,m,D,l,l',z,_,_,_,_=>by simp[Cc]at z
 |p::L,v::vs,x,m,D,l,l',z,hp,N,A,gv=>by
  simp[Cc]at z;split at z
  .rename_i x1 m1 h1;split at z
   .rename_i x2 m2 h2;obtain⟨rfl,rfl⟩:=z;simp[rF,vD,xh]at hp;split at hp
    .rename_i a ha;split at hp
     next b hb=>simp[ah]at hp;subst hp;obtain⟨y,l2,rfl,e1,e2⟩:=c9 N;obtain⟨y',l3,rfl,e3,e4⟩:=c9 A;let⟨ga,gb⟩:=gv.or;exact⟨ao0 d hr h1 ha e1 e3 ga,Gs d hr L vs _ _ b l2 l3 h2 hb e2 e4 gb⟩
     .cases hp
    .cases hp
   .cases z
  .cases z
inductive BM (g:Nat->Nat) (h:aZ) (m:Nat):fk->fk->Prop
 |F (ty:TypeId) (p:Bool) (T:Ty) (xs:List T.den):BM g h m (.F ty p T xs) (.F ty p T xs)
 |mp (K V:Ty) (es:List (K.den×V.den)):BM g h m (.mp K V es) (.mp K V es)
 |I (F:uE) (a:Nat) (x:F.ty.den):BM g h m (.I F a x) (.I F a x)
 |C (ty:Option TypeId) (ps:List PV) (x:(PV.tyL ps).den) (l l2:List TV) (m':Nat) (hg:Cd g h ps l=Z (x,m',[])) (hp:sM g ps x=Z l2) (hm:∀i,aO m' i=J->aO m i=J):BM g h m (.C ty l) (.C ty l2)
def BM.mono (hm:∀m,aO i m=J->aO j m=J) {b c:fk} (h1:BM g h i b c):BM g h j b c:=by
 cases h1 with
 |F ty p T xs=>exact .F ty p T xs
 |mp K V es=>exact .mp K V es
 |I F a x=>exact .I F a x
 |C ty A x l D m' L hp z=>exact .C ty A x l D m' L hp λm hi=>hm m (z m hi)
def ao2 {b:PB} {x:b.ty.den} {c:fk} (A:Fd g h i b=Z (x,j)) (hp:Ds g b x=Z (Z c)):∃b0,h.get (g i)=Z b0/\BM g h j b0 c:=by
 cases b with
 |F ty p T=>
  simp only[Fd]at A;split at A
  .rename_i ty' p' S xs D;split at A
   .rename_i L;simp[au,c5]at L;obtain⟨rfl,rfl⟩:=L;split at A
    next z N=>obtain⟨rfl,rfl⟩:=A;obtain⟨e,rfl⟩:=jA N;cases e;simp[Ds,ah]at hp;subst hp;exact⟨_,D,.F _ _ _ _⟩
    .cases A
   .cases A
  .cases A
 |qf ty T=>
  simp[Fd]at A;split at A
  .rename_i ty' p' S xs D;split at A
   .rename_i L;have L:ty=ty':=by grind
    subst L;split at A
    next z N=>obtain⟨rfl,rfl⟩:=A;obtain⟨e,rfl⟩:=jA N;cases e;simp[Ds,ah]at hp;subst hp;exact⟨_,D,.F _ _ _ _⟩
    .cases A
   .cases A
  .cases A
 |C ty ps=>
  simp[Fd]at A;split at A
  .rename_i ty' l D;split at A
   .rename_i L;have L:ty=ty':=by grind
    subst L;split at A
    .rename_i z m1 N;obtain⟨rfl,rfl⟩:=A;simp[Ds]at hp;split at hp
     next l2 hl2=>simp[ah]at hp;subst hp;exact⟨_,D,.C ty ps _ l l2 _ N hl2 λ_ h=>h⟩
     .cases hp
    .cases A
   .cases A
  .cases A
 |mp K V=>
  simp[Fd]at A;split at A
  .rename_i K' V' es D;split at A
   next z N=>obtain⟨rfl,rfl⟩:=A;obtain⟨e,rfl⟩:=jA N;cases e;simp[Ds,ah]at hp;subst hp;exact⟨_,D,.mp _ _ _⟩
   .cases A
  .cases A
 |I F a=>
  simp only[Fd]at A;split at A
  .rename_i F' a' z D;split at A
   .rename_i hF;subst hF;split at A
    next ha=>obtain⟨rfl,rfl⟩:=A;simp[Ds,ah]at hp;subst hp;rw[av ha];exact⟨_,D,.I _ _ _⟩
    .cases A
   .cases A
  .cases A
 |qk=>simp[Ds]at hp
def Nm:∀(bs:Y PB) (i:Nat) (x:(PB.tyL bs).den) (m:Nat) (A:Y (M fk)),Gu g h i bs=Z (x,m)->qT g bs x=Z A->∀(k:Nat) c,A[k]? =Z (Z c)->∃b0,h.get (g (i+k))=Z b0/\BM g h m b0 c
 |[],i,x,m,A,z,hp,k,c,D=>by
  simp[qT,ah]at hp;subst hp;simp at D
 |b::r,i,x,m,A,z,hp,k,c,D=>by
  simp[Gu]at z;split at z
  .rename_i x1 m1 h1;split at z
   .rename_i x2 m2 h2;obtain⟨rfl,rfl⟩:=z;simp[qT,vD,xh]at hp;split at hp
    .rename_i a ha;split at hp
     .rename_i q N;simp[ah]at hp;subst hp;cases k with
      |zero=>
       simp at D;subst D;let⟨b0,L,e2⟩:=ao2 h1 ha;exact⟨b0,L,e2.mono λi hi=>by rw[bw,hi];rfl⟩
      |succ k=>
       let⟨b0,L,e2⟩:=Nm r (i+1) _ _ q h2 N k c (by grind);rw[show i+1+k=i+(k+1) from by omega]at L;exact⟨b0,L,e2.mono λi hi=>by rw[bw,hi];simp⟩
     .cases hp
    .cases hp
   .cases z
  .cases z
end get
def Wu {σ:PT Nat} (h:σ.get i=Z j):im σ i=j:=by unfold im;rw[h]
def ab6 {σ:PT Nat}:∀(n i acc sm:Nat),ahm σ n i acc=Z sm->
 (∀k,k<n->aO acc (im σ (i+k))=af)/\(∀a b,a<n->b<n->im σ (i+a)=im σ (i+b)->a=b)/\∀q,aO sm q=J↔aO acc q=J\/∃k,k<n/\im σ (i+k)=q
 |0,i,acc,sm,h=>by
  simp[ahm,ah]at h
  grind
 |n+1,i,acc,sm,h=>by
  simp[ahm]at h;split at h
  .rename_i a L;split at h
   .cases h
   .rename_i hna;have hna:aO acc a=af:=by grind
    have hga:=Wu L;let⟨h1,h2,N⟩:=ab6 n (i+1) (acc|||gC a) sm h;have hne:∀k,k<n->im σ (i+1+k)≠a/\aO acc (im σ (i+1+k))=af:=λk A=>by
     have:=h1 k A;rw[bw,Bool.or_eq_false_iff]at this;refine ⟨λe=>?_,this.1⟩;have D:=this.2;rw[e]at D;rw[bt.2 rfl]at D;cases D
    refine ⟨λk A=>?_,λx y hx hy hxy=>?_,λq=>?_⟩
    .cases k with
     |zero=>rw[dI,hga];exact hna
     |succ k=>rw[show i+(k+1)=i+1+k from by omega];exact (hne k (by omega)).2
    .cases x with
     |zero=>
      cases y with
      |zero=>rfl
      |succ y=>grind
     |succ x=>
      cases y with
      |_=>grind
    .rw[N,bw,mV];constructor
     .rintro ((z|z)|⟨k,A,z⟩)
      .exact .inl z
      .exact .inr ⟨0,by omega,by rw[dI,hga];exact bt.1 z⟩
      .exact .inr ⟨k+1,by omega,by rw[show i+(k+1)=i+1+k from by omega];exact z⟩
     .rintro (z|⟨k,A,z⟩)
      .exact .inl (.inl z)
      .cases k with
       |zero=>rw[dI,hga]at z;exact .inl (.inr (bt.2 z))
       |succ k=>exact .inr ⟨k,by omega,by rw[show i+1+k=i+(k+1) from by omega];exact z⟩
  .cases h
def WC {σ:PT Nat}:∀(n:Nat),ack σ n=J->∀i,i<n->im σ i=i
 |0,_,i,hi=>by omega
 |n+1,h,i,hi=>by
  simp[ack,au]at h;by_cases e:i=n
  .subst e;cases z:σ.get i with
   |none=>rw[z]at h;exact bC h.1 (by simp)
   |some a=>rw[z]at h;rw[Wu z];exact av h.1
  .exact WC n h.2 i (by omega)
structure LU (np:Nat) (t:Tm) (vs:List TV) (h:aZ) (z:t.ty.den) (m:Nat) (σ:PT Nat) (sm:Nat):Prop where
 ex:∃x m1 y m2,z=mkp _ _ x y/\m=m1|||m2/\Cc (im σ) h t.vs vs=Z (x,m1)/\Gu (im σ) h 0 t.bs=Z (y,m2)
 inj:∀a b,a<l! t.bs->b<l! t.bs->im σ a=im σ b->a=b
 sig:∀q,aO sm q=J↔∃k,k<l! t.bs/\im σ k=q
 disj:∀i,aO m i=J->aO sm i=af
 fix:∀i,i<np->im σ i=i
def yL {t:Tm} {z:t.ty.den} {σ:PT Nat} {sm:Nat} (hm:E8 i t r h=Z ⟨z,j,σ,sm⟩):LU i t r h z j σ sm:=by
 unfold E8 at hm;rw[TX]at hm;split at hm
 .rename_i sm' N;split at hm
  .rename_i x m1 h1;split at hm
   .rename_i y m2 h2;split at hm
    next A=>simp[au]at A;obtain⟨rfl,rfl,rfl,rfl⟩:=hm;let⟨g1,L,D⟩:=ab6 _ _ _ _ N;simp only[b9]at g1 L D;exact⟨⟨x,m1,y,m2,rfl,rfl,h1,h2⟩,L,λq=>by rw[D];simp,λnp hi=>AF A.1 np hi,WC i A.2⟩
    .cases hm
   .cases hm
  .cases hm
 .cases hm
mutual
def x_ {g:Nat->Nat} {h:aZ}:∀(p:PV) (l:Y TV) (x:p.ty.den) (m:Nat) (r:Y TV),mM g h p l=Z (x,m,r)->dP h m
 |.d T,l,x,m,r,hg=>xi 40 T l x m r hg
 |.H i q,l,x,m,r,hg|.qy i q z,l,x,m,r,hg|.ob i q,l,x,m,r,hg|.nr i q,l,x,m,r,hg|.qv q ps,l,x,m,r,hg|.G i,l,x,m,r,hg|.mp i,l,x,m,r,hg=>by
  simp only[mM]at hg;split at hg
  .split at hg
   .simp only[ah,aU]at hg;obtain⟨_,rfl,_⟩:=hg;exact dP.zero h
   .cases hg
  .cases hg
 |.nil,l,x,m,r,hg=>by
  simp only[mM]at hg;split at hg
  .simp only[ah,aU]at hg;obtain⟨_,rfl,_⟩:=hg;exact dP.zero h
  .cases hg
 |.emp,l,x,m,r,hg=>by
  simp only[mM]at hg;split at hg
  .simp only[ah,aU]at hg;obtain⟨_,rfl,_⟩:=hg;exact dP.zero h
  .simp only[ah,aU]at hg;obtain⟨_,rfl,_⟩:=hg;exact dP.zero h
  .cases hg
 |.agg ps,l,x,m,r,hg=>LJ ps l x m r hg
def LJ {g:Nat->Nat} {h:aZ}:∀(ps:Y PV) (l:Y TV) (x:(PV.tyL ps).den) (m:Nat) (r:Y TV),Cd g h ps l=Z (x,m,r)->dP h m
 |[],l,x,m,r,hg=>by
  simp only[Cd,ah,aU]at hg;obtain⟨_,rfl,_⟩:=hg;exact dP.zero h
 |p::ps,l,x,m,r,hg=>by
  simp only[Cd]at hg;split at hg
  .rename_i x1 m1 r1 h1;split at hg
   .rename_i x2 m2 r2 h2;simp only[ah,aU]at hg;obtain⟨_,rfl,_⟩:=hg;exact (x_ p l x1 m1 r1 h1).or (LJ ps r1 _ _ _ h2)
   .cases hg
  .cases hg
end
def at3 {p:PV} {x:p.ty.den} (A:wB g h p u=Z (x,i)):dP h i:=by
 cases p with
 |d T=>exact ad9 A
 |agg D=>
  simp only[wB]at A;split at A
  .cases A
  .split at A
   .split at A
    next L m1 h1=>simp only[ah,aU]at A;obtain⟨_,rfl⟩:=A;exact LJ D _ _ _ _ h1
    .cases A
   .cases A
 |_=>
  simp only[wB]at A;split at A
  next h1=>simp only[ah,aU]at A;obtain⟨_,rfl⟩:=A;exact x_ _ _ _ _ _ h1
  .cases A
def TO :∀(A:Y PV) (vs:Y TV) (x:(PV.tyL A).den) (m:Nat),Cc g h A vs=Z (x,m)->dP h m
 |[],[],x,m,z=>by obtain⟨_,rfl⟩:=z;exact dP.zero h
 |[],_::_,x,m,z|_::_,[],x,m,z=>by simp[Cc]at z
 |p::A,v::vs,x,m,z=>by
  simp[Cc]at z;split at z
  .rename_i N m1 h1;split at z
   next D m2 L=>obtain⟨_,rfl⟩:=z;exact (at3 h1).or (TO A vs D m2 L)
   .cases z
  .cases z
def at4 {b:PB} {x:b.ty.den} (z:Fd g h i b=Z (x,j)):dP h j:=by
 cases b with
 |C ty A=>
  simp[Fd]at z;split at z
  .split at z
   .split at z
    next h1=>obtain⟨_,rfl⟩:=z;exact LJ A _ _ _ _ h1
    .cases z
   .cases z
  .cases z
 |mp K V=>
  simp[Fd]at z;split at z
  .split at z
   .obtain⟨_,rfl⟩:=z;exact dP.zero h
   .cases z
  .cases z
 |qk=>simp[Fd,ah,aU]at z;obtain⟨_,rfl⟩:=z;exact dP.zero h
 |_=>
  simp[Fd]at z;split at z
  .split at z
   .split at z
    .obtain⟨_,rfl⟩:=z;exact dP.zero h
    .cases z
   .cases z
  .cases z
def TQ :∀(bs:Y PB) (i:Nat) (x:(PB.tyL bs).den) (m:Nat),Gu g h i bs=Z (x,m)->dP h m
 |[],i,x,m,z=>by obtain⟨_,rfl⟩:=z;exact dP.zero h
 |b::r,i,x,m,z=>by
  simp[Gu]at z;split at z
  .rename_i L m1 h1;split at z
   next A m2 D=>obtain⟨_,rfl⟩:=z;exact (at4 h1).or (TQ r (i+1) A m2 D)
   .cases z
  .cases z
structure pH (t:Tm) (x:t.ty.den) (vs:List TV) (h1:aZ) (l1:List (Option fk)):Prop where
 pv:rF MS t.vs (UN _ _ x)=Z vs
 pb:qT MS t.bs (Sy _ _ x)=Z l1
 len:l! l1=l! t.bs
 at_:∀i b,h1.get i=Z b↔l1[i]? =Z (Z b)
 ok:lN h1 vs=J
 lt:rq (l! t.bs) vs=J
 C:∀i ty l,h1.get i=Z (.C ty l)->lN h1 l=J/\rq (l! t.bs) l=J
 I:∀i F a x,h1.get i=Z (.I F a x)->a<l! t.bs
 nox:∀i F a x k p,h1.get i≠Z (.qm F a x k p)
def aj5 (l:Y (M fk)) (i:Nat) (b:fk):(Dz MS 0 l PT.leaf).get i=Z b↔l[i]? =Z (Z b):=by
 by_cases hi:i<l! l
 .obtain⟨c,z⟩:∃c,l[i]? =Z c:=⟨l[i],aH hi⟩
  have:=xp MS l 0 PT.leaf (λa b _ _ e=>by simp[MS]at e;omega) i c z;rw[show MS (0+i)=i from by simp only[MS];omega]at this;rw[this,z];cases c with
  |some b'=>simp
  |none=>simp[PT.get]
 .rw[xo MS l 0 PT.leaf i (λk A=>by simp[MS];omega),dL (by omega)];simp[PT.get]
def yQ {t:Tm} {x:t.ty.den} {vs:Y TV} {h1:aZ} (hi:DY t x=Z (vs,h1)):∃D,pH t x vs h1 D:=by
 unfold DY at hi;split at hi
 .rename_i L hus;split at hi
  .rename_i h hh;split at hi
   .rename_i z;simp[au]at z;simp[ah,aU]at hi;obtain⟨rfl,rfl⟩:=hi;unfold Rm at hh;split at hh
    .rename_i D A;simp[ah]at hh;refine ⟨D,hus,A,FJ _ _ _ _ A,λi b=>?_,z.1.1,z.1.2,λi ty l hil=>?_,λi F a x hil=>?_,λi F a x k p hil=>?_⟩
     .rw[<- hh];exact aj5 D i b
     .have:=PT.get_all _ h 1 0 i _ z.2 hil
      grind
     .have:=PT.get_all _ h 1 0 i _ z.2 hil;simp_all
     .have:=PT.get_all _ h 1 0 i _ z.2 hil;cases this
    .cases hh
   .cases hi
  .cases hi
 .cases hi
def Ro (z:Nat) (n:Nat):Bool:=eJ (ow n) z
def FK :Ro i j=J↔ow j<i:=⟨λh=>aY h,λh=>bj h⟩
def Da {k:Nat}:Ro j (jE i k)=J↔i<j:=by rw[FK,iN]
def HV :Ro j (nm i)=J↔i<j:=by
 rw[FK,dw]
def Vf (h:j<i) (id sz n:Nat):(uK j id sz n).all (Ro i)=J:=by
 unfold uK;split
 .rfl
 .exact Da.2 h
def ao9 {s:Sb} (h:s.id<i):(KP s).all (Ro i)=J:=by
 cases s with
 |nr id j sz n=>exact Vf h _ _ _
 |nl=>rfl
 |_=>exact Da.2 h
mutual
def asx {nb:Nat} {h:aZ}:∀(v:TV) (y:AV),Jj nb v=J->b_ h v=Z y->y.all (Ro nb)=J
 |.f _ _,y,_,he|.zd _ _ _ _ _,y,_,he=>by simp[b_,ah]at he;subst he;rfl
 |.zg id _ _ _,y,hl,he|.H id _,y,hl,he|.qy id _ _,y,hl,he=>by simp[b_,ah]at he;subst he;exact HV.2 (aY hl)
 |.G id,y,hl,he=>by
  simp[b_]at he;split at he
  .simp[ah]at he;subst he;unfold dA;split
   .rfl
   .exact HV.2 (aY hl)
  .cases he
 |.zl id jj,y,hl,he=>by
  simp[b_]at he;split at he
  .simp[ah]at he;subst he;exact HV.2 (aY hl)
  .cases he
 |.emp,y,_,he|.nil,y,_,he=>by simp[b_,ah]at he;subst he;rfl
 |.mp id,y,hl,he=>by simp[b_,ah]at he;subst he;exact HV.2 (aY hl)
 |.agg l,y,hl,he|.qg l,y,hl,he|.qv q l,y,hl,he=>by
  simp[b_]at he;split at he
  .rename_i l' hl';simp[ah]at he;subst he;exact vy l l' hl hl'
  .cases he
 |.undef,y,_,he|.np,y,_,he|.qw,y,_,he=>by simp[b_,ah]at he;subst he;rfl
 |.sb s,y,hl,he=>by simp[b_,ah]at he;subst he;exact ao9 (aY hl)
def vy {nb:Nat} {h:aZ}:∀(l:Y TV) (l':Y AV),rq nb l=J->cM h l=Z l'->AV.allL (Ro nb) l'=J
 |[],l',_,he=>by simp[cM,ah]at he;subst he;rfl
 |x::r,l',hl,he=>by
  obtain⟨y,l2,rfl,e1,e2⟩:=c9 he;simp[rq,au]at hl;simp[AV.allL,au];exact⟨asx x y hl.1 e1,vy r l2 hl.2 e2⟩
end
def Dp :∀{l:Y AV},(∀x∈l,x.all p=J)->AV.allL p l=J
 |[],_=>rfl
 |x::r,h=>by
  simp[AV.allL,au];exact⟨h x (dk ..),Dp λy z=>h y (cg _ z)⟩
def Rj (h:j<i) (sz:Nat):∀(D:η) (k:Nat),∀x∈lM j sz k D,x.all (Ro i)=J
 |[],_,x,z=>by cases z
 |l::r,k,x,z=>by
  rcases a_.1 z with rfl|z
  .exact Vf h _ _ _
  .exact Rj h sz r (k+1) x z
def ak2 (h:j<i) {F:uE} {x:F.ty.den} (A:uv j F x=Z Q):Q.c.all (Ro i)=J:=by
 cases F with
 |qh ty=>
  simp only[uv]at A;split at A
  .cases A
  .simp[ah]at A;subst A;refine Dp λz D=>?_
   obtain⟨a,_,rfl⟩:=cu.1 D;exact Da.2 h
 |zq=>
  simp[uv,ah]at A;subst A;refine Dp λz D=>?_
  obtain⟨q,N,rfl⟩:=cu.1 D;obtain⟨e,_,rfl⟩:=cu.1 N;exact Da.2 h
 |rr ty sz=>
  simp[uv,ah]at A;subst A;exact Dp (Rj h sz x 0)
 |_=>cases A
def ak0 (h:i<j) (k:Nat) (ty:TypeId) (S:Ty) (o:CU S):(wE i k ty S o).c.all (Ro j)=J:=by
 unfold wE;split
 .refine Dp λz A=>?_
  rcases bO.1 A with A|A
  .obtain⟨q,_,rfl⟩:=cu.1 A;rfl
  .rcases a_.1 A with rfl|A
   .exact Da.2 h
   .rw[aC.1 A];exact Da.2 h
 .refine Dp λz A=>?_
  obtain⟨q,L,rfl⟩:=cu.1 A;obtain⟨e,_,rfl⟩:=cu.1 L;rfl
def ak1 (h:i<j) {k:Nat} {F:uE} {x:F.ty.den} (A:KN i k F x=Z Q):Q.c.all (Ro j)=J:=by
 cases F with
 |ar ty S=>
  obtain⟨o,_,rfl⟩:=gu.1 A;exact ak0 h k ty S o
 |ir ty T=>
  let⟨o,_,z⟩:=Option.bind_eq_some_iff.1 A;unfold ZC at z;split at z
  .cases z
  .cases z;rfl
 |_=>cases A
def pH.blk_all {t:Tm} {x:t.ty.den} {N:Y (M fk)} (I:pH t x r h N) {b:fk} (D:h.get i=Z b) (A:ky h b=Z Q):Q.c.all (Ro (l! t.bs))=J:=by
 cases b with
 |F ty p T xs=>
  simp only[ky]at A;split at A
  .cases A
  .simp[ah]at A;subst A;rfl
 |C ty l=>
  cases ty with
  |some ty=>
   simp[ky]at A;split at A
   next l' L=>simp[ah]at A;subst A;exact vy l l' (I.C i _ l D).2 L
   .cases A
  |none=>
   simp[ky]at A;split at A
   next l' L=>simp[ah]at A;subst A;rfl
   .cases A
 |qj p sz n=>cases A
 |mp K V es=>
  simp[ky,ah]at A;subst A;unfold mpC;split
  .rfl
  .simp[BC.all,kM];have key:∀l:Y (K.den×V.den),AV.allL (Ro (l! t.bs)) (l.map ((λx=>x.2)∘λp=>(r9 K p.1,AV.f (gz V p.2))))=J:=λl=>by
    induction l with
    |nil=>rfl
    |cons e vs ih=>simp[ch,AV.allL,au];exact⟨rfl,ih⟩
   exact key es
 |I F a z=>exact ak2 (I.I i F a z D) A
 |qm F a z k p=>exact bC D (I.nox i F a z k p)
def pH.lt_len {t:Tm} {x:t.ty.den} {z:Y (M fk)} (a:pH t x r h z) {b:fk} (A:h.get i=Z b):i<l! t.bs:=by
 rw[<- a.len];exact (bA.1 ((a.at_ i b).1 A)).1
def φ1 (z:Nat) (g:Nat->Nat) (φ:PM):PM:=λn=>if Ro z n then φ (pJ g n) else U
def ah1 (hi:ow j<i):φ1 i g V j=V (pJ g j):=by
 unfold φ1;rw[aF (FK.2 hi)]
def zZ {k:Nat} (h:φ1 i g V j=Z k):ow j<i/\V (pJ g j)=Z k:=by
 unfold φ1 at h;split at h
 next hp=>exact⟨FK.1 hp,h⟩
 .cases h
def ao3 (inj:∀a b,a<i->b<i->g a=g b->a=b) {A:Nat} (h:ow j<i) (h':ow A<i) (e:pJ g j=pJ g A):j=A:=by
 let⟨D,e2⟩:=vp e;rw[<- kP j,<-kP A,inj _ _ h h' D,e2]
def pH.erHF {t:Tm} {x:t.ty.den} {N:Y (M fk)} (I:pH t x r h N) (hn:AI.erHF h i=Z Q):ow i<l! t.bs/\Q.c.all (Ro (l! t.bs))=J:=by
 let⟨c,D,A⟩:=iR hn;have hi:=I.lt_len D;refine ⟨hi,?_⟩;cases L:ix i with
 |zero=>rw[L]at A;exact I.blk_all D A
 |succ k=>
  rw[L]at A;cases c with
  |I F a z=>exact ak1 hi A
  |qm F a z k p=>exact bC D (I.nox _ F a z k p)
  |_=>cases A
structure apd (t:Tm) (x:t.ty.den) (vs:List TV) (h1:aZ) (g:Nat->Nat) (φ:PM) (E E':Nat->Prop) (Hv:HF) (w:World):Prop where
 zk:sE (φ1 (l! t.bs) g φ) E' (erHF h1) w
 val:∀x v,x.all (Ro (l! t.bs))=J->cz φ (tot E φ Hv) w (x.qx (pJ g)) v->cz (φ1 (l! t.bs) g φ) (tot E' (φ1 (l! t.bs) g φ) (erHF h1)) w x v
 zw:∀k,own (φ1 (l! t.bs) g φ) (erHF h1) k->own φ Hv k
 tot_:∀k,tot E' (φ1 (l! t.bs) g φ) (erHF h1) k->tot E φ Hv k
def sE.toId {t:Tm} {x:t.ty.den} {l1:Y (M fk)} (I:pH t x r h l1) (inj:∀a b,a<l! t.bs->b<l! t.bs->g a=g b->a=b) {E':Nat->Prop} (vs:sE V O A w)
 (hat:∀n y,AI.erHF h n=Z y->A (pJ g n)=Z (y.qx (pJ g)))
 (hE:∀k,E' k->tot O V A k) (hne:∀n k y,AI.erHF h n=Z y->V (pJ g n)=Z k->¬E' k) (hel:∀k,E' k->k<w.heap.size):apd t x r h g V O E' A w:=by
 have own1:∀k,own (φ1 (l! t.bs) g V) (erHF h) k->own V A k:=by
  rintro k ⟨n,y,L,h3⟩;let⟨hi,D⟩:=zZ h3;exact⟨pJ g n,_,hat n y L,D⟩
 have tot1:∀k,tot E' (φ1 (l! t.bs) g V) (erHF h) k->tot O V A k:=λk z=>z.elim (hE k) λh1=>.inr (own1 k h1)
 have val:∀x v,x.all (Ro (l! t.bs))=J->cz V (tot O V A) w (x.qx (pJ g)) v->cz (φ1 (l! t.bs) g V) (tot E' (φ1 (l! t.bs) g V) (erHF h)) w x v:=λx v hx hr=>by
  have L:cz (φ1 (l! t.bs) g V) (tot O V A) w x v:=cz.renFrom (λi k hp z=>by unfold φ1;rw[aF hp];exact z) hr x hx rfl;exact L.ext (λ_ _ h1=>h1) (I3.refl _ w) λk _ z=>tot1 k z
 refine ⟨⟨λn n' b b' k Hv g2 g3 g4=>?_,λn y Hv=>?_,hel,λg' cells hg=>(vs.gl g' cells hg).ext (I3.refl _ w) λk _ z=>tot1 k z⟩,val,own1,tot1⟩
 .obtain⟨hi,D⟩:=zZ g3;let⟨hj,h5⟩:=zZ g4;exact ao3 inj hi hj (vs.inj _ _ _ _ k (hat n _ Hv) (hat n' _ g2) D h5)
 .obtain⟨hi,hall⟩:=I.erHF Hv;let⟨k,N,p2,ob,p3,p4⟩:=vs.at_ _ _ (hat n y Hv);exact⟨k,by rw[ah1 hi];exact N,hne n k y Hv N,ob,p3,ic.renFrom val hall p4⟩
def BM.view {N:aZ} {Hz':HF} (d:rA A Hz') (gv:Fm h A Hz' i) (hr:AO N h) {b0 c:fk} (hb:BM g h i b0 c) {y':kx} (e0:ky h b0=Z Q) (z:ky N c=Z y'):gr A Hz' Q y':=by
 cases hb with
 |F ty p T xs=>
  simp only[ky]at e0 z;rw[e0]at z;cases z;exact gr.refl d Q
 |C ty ps x l L m' hg hp hm=>
  have key:∀l' cs',cM h l=Z l'->cM N L=Z cs'->gX A Hz' l' cs'/\∀x∈cs',x.isCell=J:=λl' cs' D Hz=>by
   let⟨l1,l3,q1,q2,q3⟩:=Gt d hr ps l x m' [] L l' cs' hg hp D Hz λm hi=>gv m (hm m hi)
   simp[cM,ah]at q2;subst q2;rw[io]at q1;subst q1;exact⟨q3,mR (tV Hz (Ad ps x L hp))⟩
  cases ty with
  |some ty=>
   simp[ky]at e0 z;split at e0
   .rename_i l' D;simp[ah]at e0;subst e0;split at z
    next cs' Hz=>simp[ah]at z;subst z;exact gr.C rfl rfl (key _ _ D Hz).1 (key _ _ D Hz).2
    .cases z
   .cases e0
  |none=>
   simp[ky]at e0 z;split at e0
   .rename_i l' D;simp[ah]at e0;subst e0;split at z
    next cs' Hz=>simp[ah]at z;subst z;exact gr.none
    .cases z
   .cases e0
 |_=>
  simp[ky]at e0 z;rw[e0]at z;cases z;exact gr.refl d Q
def BM.erB_some {D:aZ} {m:Nat} (hinv:gZ h j) {b0 c:fk} (h0:h.get i=Z b0) (N:BM g h m b0 c) (A:ky D c=Z Q):∃y,ky h b0=Z y:=by
 cases N with
 |C ty ps x l l2 m' hg hp hm=>
  let⟨l',L⟩:=fF h l (hinv.C i _ l h0);cases ty<;>exact⟨_,by simp[ky,L];rfl⟩
 |_=>exact⟨Q,A⟩
def BM.mem {b0 c:fk} (z:BM g h i b0 c) (m k:Nat):wS m k b0=wS m k c:=by cases z<;>rfl
def BM.G {b0 c:fk} (z:BM g h i b0 c):iM c=iM b0:=by
 cases z<;>rfl
structure rn (P:Program) (f:FuncId) (c:cA):Prop where
 zm:Hx P f
 calls:∀x y,c.m x=Z y->∀vs hp l1 rs hq l2 la lr,pH c.pre x vs hp l1->pH c.post y rs hq l2->cM hp vs=Z la->cM hq rs=Z lr->
  ∀(φ:PM) (E:Nat->Prop) (w:World) (us:ξ),sE φ E (erHF hp) w->lK φ (tot E φ (erHF hp)) w la us->(∀n k,φ n=Z k->ow n<l! c.pre.bs)->
  Calls P f us.toArray w λen w'=>∃v φ',en= .returned v/\I3 (own φ (erHF hp)) w w'/\(∀k,k<w.heap.size->own φ' (erHF hq) k->own φ (erHF hp) k)/\(∀n,ow n<l! c.pre.bs->φ' n=φ n)/\sE φ' E (erHF hq) w'/\cz φ' (tot E φ' (erHF hq)) w' (Fu lr) v
def Rt :∀(bs:Y PB) (x:(PB.tyL bs).den) (l:Y (M fk)),EZ bs=J->qT g bs x=Z l->∀(i:Nat) (c:M fk),l[i]? =Z c->∃b,c=Z b
 |[],x,l,_,hp,i,c,A=>by simp[qT,ah]at hp;subst hp;simp at A
 |b::r,x,l,D,hp,i,c,A=>by
  simp[qT]at hp;split at hp
  .rename_i a z;split at hp
   .rename_i q L;simp[ah]at hp;subst hp;cases i with
    |zero=>
     simp at A;subst A;cases b with
     |qk=>simp[EZ]at D
     |C ty N=>
      simp[Ds]at z
      grind
     |_=>simp[Ds,ah]at z;exact⟨_,z.symm⟩
    |succ i=>
     refine Rt r _ q ?_ L i c (by grind);cases b<;>first|exact D|simp[EZ]at D
   .cases hp
  .cases hp
def I9 {A:aZ} :∀n,vT h A g n=J->∀i,i<n->∀r,eR h (g i)=Z r->eR A (g i)=Z r
 |0,_,i,hi,_,_=>by omega
 |n+1,z,i,hi,r,D=>by
  simp[vT,au]at z;by_cases e:i=n
  .subst e;let⟨p,s,k⟩:=r;have h1:=z.1;rw[D]at h1;cases L:eR A (g i) with
   |none=>rw[L]at h1;cases h1
   |some q=>simp_all
  .exact I9 n z.2 i (by omega) r D
def lK.le {H':HF} (r:sE V O A w):∀{l l':Y AV} {z:ξ},gX A H' l l'->lK V (tot O V A) w l z->lK V (tot O V H') w l' z
 |[],[],[],_,_=>trivial
 |[],[],_::_,_,h|_::_,_::_,[],_,h|[],_::_,_,h,_|_::_,[],_,h,_=>h.elim
 |_::_,_::_,_::_,H,h=>⟨H.1 _ _ _ _ r h.1,lK.le r H.2 h.2⟩
def lK.toId {φ':PM} {O':Nat->Prop} (A:∀x v,x.all p=J->cz V O w (x.qx g) v->cz φ' O' w x v):∀{l:Y AV} {z:ξ},AV.allL p l=J->lK V O w (AV.renL g l) z->lK φ' O' w l z
 |[],[],_,_=>trivial
 |[],_::_,_,h|_::_,[],_,h=>h.elim
 |_::_,_::_,hp,h=>by
  simp[AV.allL,au]at hp;exact⟨A _ _ hp.1 h.1,lK.toId A hp.2 h.2⟩
def abe :∀{A:Y TV} {z:Y AV},cM h A=Z z->b_ h (Vh A)=Z (Fu z)
 |[],z,he=>by simp[cM,ah]at he;subst he;rfl
 |[x],z,he=>by
  obtain⟨y,L,rfl,D,e2⟩:=c9 he;simp[cM,ah]at e2;subst e2;exact D
 |x::y::r,z,he=>by
  obtain⟨y1,L,rfl,D,e2⟩:=c9 he;obtain⟨N,l3,rfl,e3,e4⟩:=c9 e2;simp[Vh,b_,he,Fu]
def ahe (γ:Nat->Nat):∀l:Y AV,Fu (AV.renL γ l)=(Fu l).qx γ
 |[]|[x]|x::y::r=>rfl
def UV :∀{l:Y AV},AV.allL p l=J->(Fu l).all p=J
 |[],_=>rfl
 |[x],h=>by simp only[AV.allL,au]at h;exact h.1
 |x::y::r,h=>h
def anc {q:Nat}:aO (((1<<<j)-1)<<<i) q=J↔i<=q/\q<i+j:=by
 rw[Nat.testBit_shiftLeft,Nat.one_shiftLeft,Nat.testBit_two_pow_sub_one]
 grind
def ana (l:ι) (B:Nat):ι:=l.flatMap λi=>(dG (B+1)).map λk=>jE i k
def VH {l:ι} :j∈ana l i↔ow j∈l/\ix j<=i:=by
 unfold ana;rw[xf];constructor
 .rintro⟨B,hi,z⟩;obtain⟨k,A,rfl⟩:=cu.1 z;rw[wN]at A;rw[iN,wq];exact⟨hi,by omega⟩
 .rintro⟨h1,D⟩;exact⟨ow j,h1,cu.2 ⟨ix j,wN.2 (by omega),kP j⟩⟩
mutual
def AV.all_and {p q:Nat->Bool}:∀x:AV,x.all p=J->x.all q=J->x.all (λn=>p n&&q n)=J
 |.f _,_,_=>rfl
 |.H _ _,h1,h2|.sl _ _ _,h1,h2|.G _ _ _,h1,h2|.mp _,h1,h2=>by simp only[AV.all]at h1 h2 ⊢;rw[h1,h2];rfl
 |.emp,_,_|.qw,_,_=>rfl
 |.agg l,h1,h2|.qg l,h1,h2|.qv _ l,h1,h2=>AV.allL_and l h1 h2
def AV.allL_and {p q:Nat->Bool}:∀l:Y AV,AV.allL p l=J->AV.allL q l=J->AV.allL (λn=>p n&&q n) l=J
 |[],_,_=>rfl
 |x::r,h1,h2=>by
  simp[AV.allL,au]at h1 h2 ⊢;exact⟨AV.all_and x h1.1 h2.1,AV.allL_and r h1.2 h2.2⟩
end
def BC.all_and {q:Nat->Bool} {c:BC} (h1:c.all p=J) (z:c.all q=J):c.all (λn=>p n&&q n)=J:=by
 cases c with
 |mx l=>exact AV.allL_and l h1 z
 |mp es=>exact AV.allL_and _ h1 z
 |_=>rfl
def Yx (B n:Nat):Bool:=eK (ix n) B
def Gb {n:Nat} (h:i<=j) (z:Yx i n=J):Yx j n=J:=bj (dc (aY z) h)
mutual
def AV.all_ix {B B':Nat} (h:B<=B'):∀x:AV,x.all (Yx B)=J->x.all (Yx B')=J
 |.f _,_=>rfl
 |.H _ _,h1|.sl _ _ _,h1|.G _ _ _,h1|.mp _,h1=>Gb h h1
 |.emp,_|.qw,_=>rfl
 |.agg l,h1|.qg l,h1|.qv _ l,h1=>AV.allL_ix h l h1
def AV.allL_ix {B B':Nat} (h:B<=B'):∀l:Y AV,AV.allL (Yx B) l=J->AV.allL (Yx B') l=J
 |[],_=>rfl
 |x::r,h1=>by
  simp[AV.allL,au]at h1 ⊢;exact⟨AV.all_ix h x h1.1,AV.allL_ix h r h1.2⟩
end
mutual
def AV.ix_ex:∀x:AV,∃B,x.all (Yx B)=J
 |.f _=>⟨0,rfl⟩
 |.H n _|.sl n _ _|.G n _ _|.mp n=>⟨ix n,bj (bI _)⟩
 |.emp|.qw=>⟨0,rfl⟩
 |.agg l|.qg l|.qv _ l=>AV.ixL_ex l
def AV.ixL_ex:∀l:Y AV,∃B,AV.allL (Yx B) l=J
 |[]=>⟨0,rfl⟩
 |x::r=>by
  obtain⟨a,ha⟩:=AV.ix_ex x;obtain⟨b,hb⟩:=AV.ixL_ex r;exact⟨a+b,by simp[AV.allL,au];exact⟨AV.all_ix (by omega) x ha,AV.allL_ix (by omega) r hb⟩⟩
end
def BC.ix_ex (c:BC):∃B,c.all (Yx B)=J:=by
 cases c with
 |mx l=>exact AV.ixL_ex l
 |mp es=>exact AV.ixL_ex _
 |_=>exact⟨0,rfl⟩
def BC.all_ix (h:i<=j) {c:BC} (h1:c.all (Yx i)=J):c.all (Yx j)=J:=by
 cases c with
 |mx l=>exact AV.allL_ix h l h1
 |mp es=>exact AV.allL_ix h _ h1
 |_=>rfl
def LI (h:aZ):∃B,∀n y,erHF h n=Z y->ix n<=B/\y.c.all (Yx B)=J:=by
 let⟨A,hM⟩:=ac3 h;have key:∀a:Nat,∃B,∀n y,n<a->erHF h n=Z y->y.c.all (Yx B)=J:=by
  intro a;induction a with
  |zero=>exact⟨0,λn y hn=>by omega⟩
  |succ a ih=>
   let⟨B,N⟩:=ih;cases hx:erHF h a with
   |none=>exact⟨B,λn y hn D=>by
     by_cases e:n=a
     .grind
     .exact N n y (by omega) D⟩
   |some z=>
    let⟨C,hC⟩:=BC.ix_ex z.c;exact⟨B+C,λn y hn D=>by
     by_cases e:n=a
     .subst e;rw[hx]at D;cases D;exact BC.all_ix (by omega) hC
     .exact BC.all_ix (by omega) (N n y (by omega) D)⟩
 let⟨H,hH⟩:=gM h;let⟨L,hL⟩:=PT.bound H;let⟨B,N⟩:=key L;refine ⟨A+B,λn y D=>⟨dc (aoa hM D) (by omega),BC.all_ix (by omega) (N n y ?_ D)⟩⟩;rcases cJ n L with h1|h1
 .exact h1
 .simp_all
variable {f:FuncId}
def akn {o:Oper} {e:hX} {c:cA} (hinv:gZ h i) (sp:rn P f c) {x:c.pre.ty.den} {σ:PT Nat} {sm:Nat} (A:LU 0 c.pre r h x j σ sm) {vs:Y TV} {hp:aZ} {l1:Y (M fk)} (I:pH c.pre x vs hp l1) (hng:EZ c.pre.bs=J) {y:c.post.ty.den} (hm:c.m x=Z y) {rs:Y TV} {hq:aZ} {l2:Y (M fk)} (D:pH c.post y rs hq l2) (hle:l! c.pre.bs<=l! c.post.bs)
 (glo:∀nx,nx<l! c.pre.bs->g nx=im σ nx) (ghi:∀nx,l! c.pre.bs<=nx->g nx=i+(nx-l! c.pre.bs)) {h2:aZ} (hh2:h2=Dz g 0 (l2.map (ie (kU g))) (dU j h)) (hsr:vT h h2 g (l! c.pre.bs)=J) (hla:cM h r=Z B)
 (hexec:∀(φ:PM) (E:Nat->Prop) (h':HF) (w:World) (a:Act),(∀t,.tmp t∈o.op.operands->∀y,fM e h t=Z y->cz φ (tot E φ h') w y (a.tmps.getD t undef))->sE φ E h' w->∃us:ξ,(execOp a.eval o).run P w= .ok (.enter f us.toArray) w/\lK φ (tot E φ h') w B us):
 fC P o af e h i (Vh (lx g rs)) (sm|||j) (sm|||j|||(((1<<<(l! c.post.bs-l! c.pre.bs))-1)<<<i)) h2 (i+(l! c.post.bs-l! c.pre.bs)):=by
 let⟨x1,m1,x2,m2,hx,hmm,gv,gb⟩:=A.ex;have hmr:dP h j:=by rw[hmm];exact (TO _ _ _ _ gv).or (TQ _ _ _ _ gb)
 generalize hnp:l! c.pre.bs=np at*
 generalize hnq:l! c.post.bs=nq at*
 have pvg:rF (im σ) c.pre.vs x1=Z (lx (im σ) vs):=by
  have h3:=vK (im σ) c.pre.vs x1;have h4:=I.pv;rw[hx,vD]at h4;rw[h3,h4];rfl
 have pbg:qT (im σ) c.pre.bs x2=Z (l1.map (ie (kU (im σ)))):=by
  have h3:=yD (im σ) c.pre.bs x2;have h4:=I.pb;rw[hx,xh]at h4;rw[h3,h4];rfl
 have hl1:∀nx,nx<np->∃b,l1[nx]? =Z (Z b):=λnx hi=>by
  have hi':nx<l! l1:=by rw[I.len,hnp];exact hi
  let⟨b,L⟩:=Rt c.pre.bs _ l1 hng I.pb nx l1[nx] (aH hi');exact⟨b,by rw[aH hi',L]⟩
 have hbm:∀nx b,l1[nx]? =Z (Z b)->∃b0,h.get (im σ nx)=Z b0/\BM (im σ) h j b0 (kU (im σ) b):=λnx b L=>by
  let⟨b0,q1,q2⟩:=Nm c.pre.bs 0 x2 m2 _ gb pbg nx (kU (im σ) b) (by rw[bE,L];rfl);rw[b9]at q1;exact⟨b0,q1,q2.mono λm hj=>by rw[hmm,bw,hj];simp⟩
 have inj1:∀a b,a<np->b<np->im σ a=im σ b->a=b:=λa b ha L=>A.inj a b (by rw[hnp];exact ha) (by rw[hnp];exact L)
 have sig:∀q,aO sm q=J↔∃k,k<np/\im σ k=q:=λq=>by rw[A.sig,hnp]
 have gnx:∀nx,nx<np->im σ nx<i:=λnx hi=>by
  let⟨b,L⟩:=hl1 nx hi;let⟨b0,q1,_⟩:=hbm nx b L;exact hinv.low _ _ q1
 have hmS:∀nx,nx<np->aO j (im σ nx)=af:=λnx hi=>by
  cases hx:aO j (im σ nx) with
  |false=>rfl
  |true=>have:=A.disj _ hx;rw[(sig _).2 ⟨nx,hi,rfl⟩]at this;cases this
 have injg:∀a b,a<nq->b<nq->g a=g b->a=b:=λa b ha L hab=>by
  by_cases h1:a<np
  .by_cases h2:b<np
   .rw[glo a h1,glo b h2]at hab;exact inj1 a b h1 h2 hab
   .rw[glo a h1,ghi b (by omega)]at hab;have:=gnx a h1;omega
  .by_cases h2:b<np
   .rw[ghi a (by omega),glo b h2]at hab;have:=gnx b h2;omega
   .rw[ghi a (by omega),ghi b (by omega)]at hab;omega
 let hv:aZ:=Dz (im σ) 0 (l1.map (ie (kU (im σ)))) (dU j h)
 have hv_at:∀nx b,l1[nx]? =Z (Z b)->hv.get (im σ nx)=Z (kU (im σ) b):=λnx b L=>by
  have:=xp (im σ) (l1.map (ie (kU (im σ)))) 0 (dU j h) (λa b ha L=>by
   simp only[cq,I.len,hnp]at ha L;simp only[b9];exact inj1 a b ha L) nx (Z (kU (im σ) b)) (by rw[bE,L];rfl)
  rw[b9]at this;exact this
 have hv_ne:∀m,(∀nx,nx<np->m≠im σ nx)->hv.get m=(dU j h).get m:=λm hj=>
  xo (im σ) _ 0 _ m λk N=>by
   simp only[cq,I.len,hnp]at N;rw[b9];exact hj k N
 have rows_in:AO hv h:=λm l hr=>by
  rw[bD]at hr ⊢;by_cases hj:∃nx,nx<np/\m=im σ nx
  .obtain⟨nx,hi,rfl⟩:=hj;let⟨b,L⟩:=hl1 nx hi;let⟨b0,q1,q2⟩:=hbm nx b L;rw[hv_at nx b L]at hr;rw[q1];simp only[aD]at hr ⊢;rw[<- q2.G];exact hr
  .rw[hv_ne m (λnx hi e=>hj ⟨nx,hi,e⟩),iQ]at hr;split at hr
   next ht=>let⟨ty,p,T,xs,L⟩:=hmr m ht;rw[L]at hr ⊢;exact hr
   .exact hr
 have rows_hp:∀nx l,eR hp nx=Z l->eR hv (im σ nx)=Z l:=λnx l hr=>by
  rw[bD]at hr ⊢;cases L:hp.get nx with
  |none=>rw[L]at hr;cases hr
  |some b=>
   rw[L]at hr;rw[hv_at nx b ((I.at_ nx b).1 L)];simp only[aD,L9]at hr ⊢;exact hr
 have dead_m:∀nx,aO j nx=J->erHF hv (nm nx)=U:=λnx hi=>by
  rw[bL,hv_ne nx (λk N e=>by rw[e,hmS k N]at hi;cases hi)];let⟨p,sz,n,hd⟩:=vN hmr hi;rw[hd];rfl
 have h2_at:∀nx cc,l2[nx]? =Z cc->h2.get (g nx)=(match cc with|some b=>Z (kU g b)|none=>((dU j h).get (g nx)).map vb):=λnx cc hc=>by
  have:=xp g (l2.map (ie (kU g))) 0 (dU j h) (λa b ha L=>by
   simp only[cq,D.len,hnq]at ha L;simp only[b9];exact injg a b ha L) nx (cc.map (kU g)) (by rw[bE,hc];rfl)
  rw[b9]at this;rw[hh2,this];cases cc<;>rfl
 have h2_ne:∀m,(∀nx,nx<nq->m≠g nx)->h2.get m=(dU j h).get m:=λm hj=>by
  rw[hh2];refine xo g _ 0 _ m λk N=>?_
  simp only[cq,D.len,hnq]at N;rw[b9];exact hj k N
 have rows_hq:∀nx l,eR hq nx=Z l->eR h2 (g nx)=Z l:=λnx l hr=>by
  rw[bD]at hr ⊢;cases L:hq.get nx with
  |none=>rw[L]at hr;cases hr
  |some b=>
   rw[L]at hr;rw[h2_at nx _ ((D.at_ nx b).1 L)];simp only[aD,L9]at hr ⊢;exact hr
 have rows2:bY h h2:=λm l hr=>by
  by_cases hj:∃nx,nx<np/\m=im σ nx
  .obtain⟨nx,hi,rfl⟩:=hj;rw[<- glo nx hi]at hr ⊢;exact I9 np hsr nx hi l hr
  .have hjn:m<i:=by
    rw[bD]at hr;cases L:h.get m with
    |none=>rw[L]at hr;cases hr
    |some b=>exact hinv.low m b L
   have:=bY.kill j h m l hr;rw[bD]at this ⊢;rw[h2_ne m (λnx hi e=>?_)]
   .exact this
   .by_cases hip:nx<np
    .exact hj ⟨nx,hip,by rw[e,glo nx hip]⟩
    .rw[ghi nx (by omega)]at e;omega
 let⟨lr,hlr⟩:=fF hq rs D.ok;let⟨lp,hlp⟩:=fF hp vs I.ok;have er2:∀n yb,erHF hq n=Z yb->erHF h2 (pJ g n)=Z (yb.qx (pJ g)):=λn yb hn=>by
  let⟨b,L,hyb⟩:=iR hn;unfold erHF;rw[xR,Ao,h2_at _ _ ((D.at_ _ b).1 L)];exact Dk rows_hq hyb
 have er2':∀n,ow n<nq->∀z,erHF h2 (pJ g n)=Z z->∃yb,erHF hq n=Z yb/\z=yb.qx (pJ g):=λn hi z hz=>by
  have hi':ow n<l! l2:=by rw[D.len,hnq];exact hi
  have hcc:=aH hi';unfold erHF at hz;rw[xR,Ao]at hz;cases hcv:l2[ow n] with
  |none=>
   rw[hcv]at hcc;rw[h2_at _ U hcc]at hz;simp only at hz;cases hkg:(dU j h).get (g (ow n)) with
   |none=>rw[hkg]at hz;cases hz
   |some b0=>rw[hkg]at hz;exact (ak6 hz).elim
  |some b=>
   rw[hcv]at hcc;have L:=(D.at_ _ b).2 hcc;rw[h2_at _ (Z b) hcc]at hz;have hz:Pu h2 (g (ow n)) (ix n) (kU g b)=Z z:=hz;have hyb:∃yb,Pu hq (ow n) (ix n) b=Z yb:=by
    cases N:ix n with
    |zero=>
     rw[N]at hz;cases b with
     |F ty p T xs=>exact⟨z,hz⟩
     |C ty q=>
      let⟨q',hq'⟩:=fF hq q (D.C _ _ q L).1;cases ty<;>exact⟨_,by simp only[Pu,ky,hq'];rfl⟩
     |qj p sz n=>cases hz
     |mp K V es=>exact⟨_,rfl⟩
     |I F a x=>
      simp only[Pu,kU,ky,WH]at hz;let⟨y,hy,_⟩:=gu.1 hz;exact⟨y,hy⟩
     |qm F a x k p=>exact bC L (D.nox _ F a x k p)
    |succ k=>
     rw[N]at hz;simp only[Pu,VK]at hz;let⟨y,hy,_⟩:=gu.1 hz;exact⟨y,hy⟩
   let⟨yb,hyb⟩:=hyb;rw[Dk rows_hq hyb]at hz;refine ⟨yb,?_,by cases hz;rfl⟩;unfold erHF;rw[L];exact hyb
 have dead2:∀nx,aO j nx=J->erHF h2 (nm nx)=U:=λnx hi=>by
  have hlt:=hmr.lt hinv hi;rw[bL,h2_ne nx (λk N e=>?_)]
  .obtain⟨p,sz,n,hd⟩:=vN hmr hi;rw[hd];rfl
  .by_cases hkp:k<np
   .rw[e,glo k hkp,hmS k hkp]at hi;cases hi
   .rw[ghi k (by omega)]at e;omega
 have inv2:gZ h2 (i+(nq-np)):=by
  refine ⟨λm ty q hj=>?_,λm b hj=>?_⟩
  .by_cases hjg:∃nx,nx<nq/\m=g nx
   .obtain⟨nx,hi,rfl⟩:=hjg;have hi':nx<l! l2:=by rw[D.len,hnq];exact hi
    have hcc:=aH hi';cases hcv:l2[nx] with
    |none=>
     rw[hcv]at hcc;rw[h2_at nx U hcc]at hj;simp only at hj;cases hkg:(dU j h).get (g nx) with
     |none=>rw[hkg]at hj;cases hj
     |some b0=>rw[hkg]at hj;exact (BY (fO hj)).elim
    |some b=>
     rw[hcv]at hcc;have L:=(D.at_ nx b).2 hcc;rw[h2_at nx (Z b) hcc]at hj;simp only[ah]at hj;cases b with
     |C ty' q'=>
      simp only[kU,fk.C.injEq]at hj;obtain⟨_,rfl⟩:=hj;let⟨z,hz⟩:=fF hq q' (D.C nx _ q' L).1;exact lT _ _ _ (qB rows_hq q' z hz)
     |_=>simp[kU]at hj
   .rw[h2_ne m (λnx hi e=>hjg ⟨nx,hi,e⟩)]at hj;refine fy rows2 q ?_;have hkk:=(hinv.kill j).C m _ q hj;rw[iQ]at hj;split at hj
    next ht=>let⟨_,_,_,_,L⟩:=hmr m ht;rw[L]at hj;cases hj
    .exact hinv.C m _ q hj
  .by_cases hjg:∃nx,nx<nq/\m=g nx
   .obtain⟨nx,hi,rfl⟩:=hjg;by_cases hip:nx<np
    .rw[glo nx hip];have:=gnx nx hip;omega
    .rw[ghi nx (by omega)];omega
   .rw[h2_ne m (λnx hi e=>hjg ⟨nx,hi,e⟩)]at hj;have:=(hinv.kill j).low m b hj;omega
 let⟨B1,hB1⟩:=LI hp;let⟨B2,hB2⟩:=LI hq;let⟨B3,hB3⟩:=LI h;let⟨B4,hB4⟩:=LI h2;let⟨B5,hB5⟩:=AV.ixL_ex lr;obtain⟨la,eB⟩:∃la,la=B1+B2+B3+B4+B5:=⟨_,rfl⟩
 let S:ι:=ana ((dG np).map (im σ)) la
 have memS:∀n,n∈S↔(∃nx,nx<np/\ow n=im σ nx)/\ix n<=la:=λn=>by
  simp only[S,VH,cu,wN];exact⟨λ⟨⟨nx,h1,h2⟩,h3⟩=>⟨⟨nx,h1,h2.symm⟩,h3⟩,λ⟨⟨nx,h1,h2⟩,h3⟩=>⟨⟨nx,h1,h2.symm⟩,h3⟩⟩
 let NN:ι:=ana ((dG (nq-np)).map λt=>i+t) la
 have H0:∀n,n∈NN↔(∃t,t<nq-np/\ow n=i+t)/\ix n<=la:=λn=>by
  simp only[NN,VH,cu,wN];exact⟨λ⟨⟨nx,h1,h2⟩,h3⟩=>⟨⟨nx,h1,h2.symm⟩,h3⟩,λ⟨⟨nx,h1,h2⟩,h3⟩=>⟨⟨nx,h1,h2.symm⟩,h3⟩⟩
 have memW:∀n,n∈S++Jh j++NN↔((∃nx,nx<nq/\ow n=g nx)/\ix n<=la)\/n∈Jh j:=λn=>by
  rw[bO,bO,memS,H0];constructor
  .rintro ((⟨⟨nx,hi,e⟩,N⟩|hn)|⟨⟨t,ht,e⟩,N⟩)
   .exact .inl ⟨⟨nx,by omega,by rw[glo nx hi];exact e⟩,N⟩
   .exact .inr hn
   .exact .inl ⟨⟨np+t,by omega,by rw[ghi _ (by omega),show np+t-np=t from by omega];exact e⟩,N⟩
  .rintro (⟨⟨nx,hi,e⟩,N⟩|hn)
   .by_cases hip:nx<np
    .exact .inl (.inl ⟨⟨nx,hip,by rw[<- glo nx hip];exact e⟩,N⟩)
    .exact .inr ⟨⟨nx-np,by omega,by rw[e,ghi nx (by omega)]⟩,N⟩
   .exact .inl (.inr hn)
 have gamS:∀n,ow n<np->ix n<=la->pJ (im σ) n∈S:=λn hi N=>(memS _).2 ⟨⟨ow n,hi,xR _ _⟩,by rw[Ao];exact N⟩
 have gamg:∀n,ow n<np->pJ g n=pJ (im σ) n:=λn hi=>by unfold pJ;rw[glo _ hi]
 have ungam:∀(g:Nat->Nat) (n nx:Nat),ow n=g nx->n=pJ g (jE nx (ix n)):=λg n nx e=>by rw[Di,<-e,kP]
 have hOpT:gO P o (fM e h) (erHF h) ⟨Fu (AV.renL (pJ g) lr),S++Jh j,S++Jh j++NN,erHF h2,NN⟩:=by
  intro φ E h' w a hrd hwr hops hrep hN;have hS':∀n,n∈S->h' n=erHF h n:=λn hn=>hrd _ (eV _ hn)
  have hM':∀nx,aO j nx=J->h' (nm nx)=erHF h (nm nx):=λnx hi=>hrd _ (fK _ (mD.2 hi))
  let⟨us,hrun,hrel⟩:=hexec φ E h' w a hops hrep
  let Hv:HF:=λn=>if n∈S++Jh j then erHF hv n else h' n
  have Hv_in:∀n,n∈S++Jh j->Hv n=erHF hv n:=λn hn=>by simp only[Hv,hn,bq]
  have Hv_out:∀n,n∉S++Jh j->Hv n=h' n:=λn hn=>by simp only[Hv,hn,dZ]
  have blkS:∀n,n∈S->∀z,erHF hv n=Z z->∃b0 c y0,h.get (ow n)=Z b0/\BM (im σ) h j b0 c/\Pu h (ow n) (ix n) b0=Z y0/\Pu hv (ow n) (ix n) c=Z z:=λn hn z hz=>by
   let⟨⟨nx,hi,e⟩,_⟩:=(memS n).1 hn;let⟨b,L⟩:=hl1 nx hi;let⟨b0,q1,q2⟩:=hbm nx b L;unfold erHF at hz;rw[e,hv_at nx b L]at hz;have hz:Pu hv (im σ nx) (ix n) (kU (im σ) b)=Z z:=hz;rw[e];cases N:ix n with
   |zero=>
    rw[N]at hz;let⟨y0,hy0⟩:=BM.erB_some hinv q1 q2 hz;exact⟨b0,_,y0,q1,q2,hy0,hz⟩
   |succ k=>
    rw[N]at hz;exact⟨b0,_,z,q1,q2,(q2.mem _ _).trans hz,hz⟩
  have hd:rA h' Hv:=λn b L=>by
   by_cases hn:n∈S++Jh j
   .rw[Hv_in n hn]at L;rcases bO.1 hn with hs|hs
    .obtain⟨b0,c,y0,q1,_,q4,_⟩:=blkS n hs b L;exact⟨y0,by rw[hS' n hs];unfold erHF;rw[q1];exact q4⟩
    .obtain⟨nx,rfl,hi⟩:=oZ.1 hs;rw[dead_m nx hi]at L;cases L
   .rw[Hv_out n hn]at L;exact⟨b,L⟩
  have gvv:Fm h h' Hv j:=λnx hi=>⟨hM' nx hi,by rw[Hv_in _ (fK _ (mD.2 hi)),dead_m nx hi]⟩
  have V:O5 h' Hv:=⟨hd,λn b b' L hb'=>by
   by_cases hn:n∈S++Jh j
   .rw[Hv_in n hn]at hb';rcases bO.1 hn with hs|hs
    .obtain⟨b0,c,y0,q1,q3,q4,q5⟩:=blkS n hs b' hb';rw[hS' n hs]at L;unfold erHF at L;rw[q1]at L;have L:Pu h (ow n) (ix n) b0=Z b:=L;cases N:ix n with
     |zero=>rw[N]at L q5;exact BM.view hd gvv rows_in q3 L q5
     |succ k=>
      rw[N]at L q5;have:=(q3.mem (ow n) k).symm.trans L;have q5:wS (ow n) k c=Z b':=q5;rw[q5]at this;cases this;exact gr.refl hd _
    .obtain⟨nx,rfl,hi⟩:=oZ.1 hs;rw[dead_m nx hi]at hb';cases hb'
   .rw[Hv_out n hn,L]at hb';cases hb';exact gr.refl hd b⟩
  have hrepv:=V.zk hrep;have hlpg:cM hv (lx (im σ) vs)=Z (AV.renL (pJ (im σ)) lp):=qB rows_hp vs lp hlp;have hrel1:lK φ (tot E φ Hv) w (AV.renL (pJ (im σ)) lp) us:=
   lK.le hrep (Gs hd rows_in c.pre.vs r x1 m1 _ B _ gv pvg hla hlpg (λnx hi=>gvv nx (by rw[hmm,bw,hi];rfl))) hrel
  let E':Nat->Prop:=λk=>E k\/∃n b,Hv n=Z b/\n∉S/\φ n=Z k
  have T:apd c.pre x vs hp (im σ) φ E E' Hv w:=by
   refine sE.toId I (λa b ha L=>inj1 a b (by rw[<- hnp];exact ha) (by rw[<- hnp];exact L)) hrepv (λn yb hn=>?_) ?_ ?_ ?_
   .obtain⟨hi,_⟩:=I.erHF hn;rw[hnp]at hi;have N:=(hB1 n yb hn).1;let⟨b,L,hyb⟩:=iR hn;rw[Hv_in _ (eV _ (gamS n hi (by omega)))];unfold erHF;rw[xR,Ao,hv_at _ b ((I.at_ _ b).1 L)];exact Dk rows_hp hyb
   .rintro k (hE|⟨n,b,h1,_,h3⟩)
    .exact .inl hE
    .exact .inr ⟨n,b,h1,h3⟩
   .intro n0 k y0 hn0 h3 hE0;let⟨hi,_⟩:=I.erHF hn0;rw[hnp]at hi;have N:=(hB1 n0 y0 hn0).1;have h1:Hv (pJ (im σ) n0)=Z (y0.qx (pJ (im σ))):=by
     let⟨b,L,hyb⟩:=iR hn0;rw[Hv_in _ (eV _ (gamS n0 hi (by omega)))];unfold erHF;rw[xR,Ao,hv_at _ b ((I.at_ _ b).1 L)];exact Dk rows_hp hyb
    rcases hE0 with hE|⟨n,b',h4,h5,h6⟩
    .obtain⟨k',p1,p2,_⟩:=hrepv.at_ _ _ h1;rw[h3]at p1;cases p1;exact p2 hE
    .have:=hrepv.inj _ _ _ _ k h1 h4 h3 h6;exact h5 (by rw[<- this];exact gamS n0 hi (by omega))
   .rintro k (hE|⟨n,b,h1,_,h3⟩)
    .exact hrepv.el k hE
    .obtain⟨k',q1,_,ob,q3,_⟩:=hrepv.at_ n b h1;rw[h3]at q1;cases q1;exact (dD.1 q3).1
  have hcalls:=sp.calls x y hm vs hp l1 rs hq l2 lp lr I D hlp hlr (φ1 (l! c.pre.bs) (im σ) φ) E' w us T.zk (lK.toId T.val (vy vs lp I.lt hlp) hrel1) (λn k N=>(zZ N).1);unfold Lk;rw[hrun];refine Calls.mono hcalls ?_;rintro en w' ⟨v,φc',rfl,hext,hown,hnm,rp,rv'⟩
  let isN:Nat->Prop:=λn=>n∈NN
  let φ':PM:=λn=>if n∈NN then φc' (jE (np+(ow n-i)) (ix n)) else φ n
  have φ'_old:∀n,n∉NN->φ' n=φ n:=λn hn=>by simp only[φ',hn,dZ]
  have loN:∀n,ow n<i->n∉NN:=λn hi hn=>by
   let⟨⟨t,_,e⟩,_⟩:=(H0 _).1 hn;omega
  have φ'_g:∀n,ow n<nq->ix n<=la->φ' (pJ g n)=φc' n:=λn hi N=>by
   by_cases hip:ow n<np
   .rw[gamg n hip,φ'_old _ (loN _ (by rw[xR];exact gnx _ hip)),hnm n (by rw[hnp];exact hip),ah1 (by rw[hnp];exact hip)]
   .have hg:=ghi (ow n) (by omega);have:pJ g n∈NN:=(H0 _).2 ⟨⟨ow n-np,by omega,by rw[xR,hg]⟩,by rw[Ao];exact N⟩;simp only[φ',this,bq,xR,Ao,hg];rw[show np+(i+(ow n-np)-i)=ow n from by omega,kP]
  have hsub:∀n k,φ n=Z k->φ' n=Z k:=λn k N=>by
   by_cases hn:n∈NN
   .rw[hN n hn]at N;cases N
   .rw[φ'_old n hn];exact N
  let F:HF:=fw h' (S++Jh j++NN) (erHF h2)
  have F_g:∀n,n∈S++Jh j++NN->F n=erHF h2 n:=λn hn=>by
   simp only[F,fw,hn,bq]
  have F_out:∀n,n∉S++Jh j++NN->F n=h' n:=λn hn=>by simp only[F,fw,hn,dZ]
  have from_:∀n b,F n=Z b->(∃nx yb,ow nx<nq/\ix nx<=la/\n=pJ g nx/\erHF hq nx=Z yb/\b=yb.qx (pJ g))\/(h' n=Z b/\Hv n=Z b/\n∉S/\n∉NN/\φ' n=φ n):=λn b L=>by
   by_cases hn:n∈S++Jh j++NN
   .rcases (memW n).1 hn with ⟨⟨nx,hi,e⟩,N⟩|hs
    .rw[F_g n hn]at L;have e2:=ungam g n nx e;have ho:ow (jE nx (ix n))<nq:=by rw[iN];exact hi
     let⟨yb,q1,q2⟩:=er2' (jE nx (ix n)) ho b (by rw[<- e2];exact L);exact .inl ⟨jE nx (ix n),yb,ho,by rw[wq];exact N,e2,q1,q2⟩
    .obtain⟨nx,rfl,hi⟩:=oZ.1 hs;have:F (nm nx)=erHF h2 (nm nx):=by simp only[F,fw,hn,bq]
     rw[this,dead2 nx hi]at L;cases L
   .rw[F_out n hn]at L;have h1:n∉S++Jh j:=λhh=>hn (eV _ hh)
    have h3:n∉NN:=λhh=>hn (fK _ hh)
    exact .inr ⟨L,by rw[Hv_out n h1];exact L,λhh=>h1 (eV _ hh),h3,φ'_old n h3⟩
  have own':∀k,own φ' F k->own φc' (erHF hq) k\/∃n b,Hv n=Z b/\n∉S/\φ n=Z k:=by
   rintro k ⟨n,b,h1,h3⟩;rcases from_ n b h1 with ⟨nx,yb,hi,N,rfl,q1,_⟩|⟨_,q2,q3,_,q5⟩
   .rw[φ'_g nx hi N]at h3;exact .inl ⟨nx,yb,q1,h3⟩
   .exact .inr ⟨n,b,q2,q3,by rw[<- q5];exact h3⟩
  have mv:jW φ φ' h' F w w':=by
   refine ⟨hsub,hext.mono λk N=>hd.own (T.zw k N),λk N ho=>?_⟩;rcases own' k ho with h1|⟨n,b,h1,_,h3⟩
   .exact hd.own (T.zw k (hown k N h1))
   .exact hd.own ⟨n,b,h1,h3⟩
  have tot':∀k,tot E φ' F k->tot E' φc' (erHF hq) k:=by
   rintro k (h1|h1)
   .exact .inl (.inl h1)
   .rcases own' k h1 with h3|h3
    .exact .inr h3
    .exact .inl (.inr h3)
  let φr:PM:=λn=>if Ro nq n&&Yx la n then φc' n else U
  have rel_r:∀x v,x.all (λn=>Ro nq n&&Yx la n)=J->cz φc' (tot E' φc' (erHF hq)) w' x v->cz φr (tot E φ' F) w' x v:=λx v hx hr=>
   hr.restrict (λnx k hi N=>by simp only[φr,hi,bq];exact N) tot' hx
  have rel_g:∀x v,cz φr (tot E φ' F) w' x v->cz φ' (tot E φ' F) w' (x.qx (pJ g)) v:=λx v hr=>
   hr.renTo λn k N=>by
    simp only[φr]at N;split at N
    next hpn=>simp only[au]at hpn;rw[φ'_g n (FK.1 hpn.1) (aY hpn.2)];exact N
    .cases N
  have hnqJ:=hnq;refine ⟨v,φ',rfl,mv,λn k N=>?_,?_,?_⟩
  .by_cases hn:n∈NN
   .exact .inr hn
   .rw[φ'_old n hn]at N;exact .inl N
  .refine ⟨λn n' b b' k h1 h3 h4 h5=>?_,λn b h1=>?_,λk N=>dC (hrep.el k N) mv.ext.size,λg' cells hg=>mv.keepF (hrep.gl g' cells hg)⟩
   .rcases from_ n b h1 with ⟨nx,yb,hi,hik,rfl,hqi,_⟩|⟨q1,q2,q3,_,q5⟩
    .rw[φ'_g nx hi hik]at h4;rcases from_ n' b' h3 with ⟨m,yj,hj,hjk,rfl,t1,_⟩|⟨t1,t2,t3,_,t5⟩
     .rw[φ'_g m hj hjk]at h5;rw[rp.inj _ _ _ _ k hqi t1 h4 h5]
     .exfalso;let⟨k',p1,p2,_⟩:=rp.at_ _ _ hqi;rw[h4]at p1;cases p1;exact p2 (.inr ⟨n',b',t2,t3,by rw[<- t5];exact h5⟩)
    .rcases from_ n' b' h3 with ⟨m,yj,hj,hjk,rfl,hqj,_⟩|⟨t1,t2,t3,_,t5⟩
     .exfalso;rw[φ'_g m hj hjk]at h5;let⟨k',p1,p2,_⟩:=rp.at_ _ _ hqj;rw[h5]at p1;cases p1;exact p2 (.inr ⟨n,b,q2,q3,by rw[<- q5];exact h4⟩)
     .exact hrep.inj n n' b b' k q1 t1 (by rw[<- q5];exact h4) (by rw[<- t5];exact h5)
   .rcases from_ n b h1 with ⟨nx,yb,hi,hik,rfl,hqi,rfl⟩|⟨q1,q2,q3,_,q5⟩
    .obtain⟨k,p1,p2,ob,p3,p4⟩:=rp.at_ _ _ hqi;have hall:=(D.erHF hqi).2;rw[hnq]at hall;have hall2:=BC.all_and hall (BC.all_ix (show B2<=la by omega) (hB2 nx yb hqi).2);exact⟨k,by rw[φ'_g nx hi hik];exact p1,λhE=>p2 (.inl hE),ob,p3,(p4.restrict rel_r hall2).renTo rel_g⟩
    .obtain⟨k,p1,p2,ob,p3,p4⟩:=hrep.at_ n b q1;have N:k<w.heap.size:=(dD.1 p3).1;refine ⟨k,hsub n k p1,p2,ob,?_,p4.mono λx v hr=>mv.zj hr⟩;rw[hext.jd k N ?_]
     .exact p3
     .rintro⟨n',y',t1,t2⟩;let⟨hi,t3⟩:=zZ t2;rw[hnp]at hi;have hik:=(hB1 n' y' t1).1;have hvi:Hv (pJ (im σ) n')=Z (y'.qx (pJ (im σ))):=by
       let⟨bb,t4,t5⟩:=iR t1;rw[Hv_in _ (eV _ (gamS n' hi (by omega)))];unfold erHF;rw[xR,Ao,hv_at _ bb ((I.at_ _ bb).1 t4)];exact Dk rows_hp t5
      have:=hrepv.inj _ _ _ _ k hvi q2 t3 p1;exact q3 (by rw[<- this];exact gamS n' hi (by omega))
  .have hall:(Fu lr).all (λn=>Ro nq n&&Yx la n)=J:=AV.all_and _ (UV (by have:=vy rs lr D.lt hlr;rwa [hnq]at this)) (UV (AV.allL_ix (by omega) lr hB5));show cz φ' (tot E φ' F) w' (Fu (AV.renL (pJ g) lr)) v;rw[ahe];exact rel_g _ _ (rel_r _ _ hall rv')
 have hrsg:cM h2 (lx g rs)=Z (AV.renL (pJ g) lr):=qB rows_hq rs lr hlr;refine ⟨⟨_,hOpT,λz hz=>?_,?_,λn hn=>?_,λn hn=>?_,λn hn=>?_⟩,rows2,inv2,by omega,nofun⟩
 .rw[abe hrsg]at hz;cases hz;rfl
 .funext n;unfold fw;split
  .rfl
  .rename_i hn;by_cases hg:∃nx,nx<nq/\ow n=g nx
   .have hB:¬ix n<=la:=λN=>hn ((memW _).2 (.inl ⟨hg,N⟩))
    have n1:∀H:aZ,(∀y,erHF H n=Z y->ix n<=la)->erHF H n=U:=λH hH=>by
     cases hx:erHF H n with
     |none=>rfl
     |some y=>exact bC (hH y hx) hB
    rw[n1 h λy hy=>dc (hB3 n y hy).1 (by omega),n1 h2 λy hy=>dc (hB4 n y hy).1 (by omega)]
   .have hg2:=h2_ne (ow n) λnx hi e=>hg ⟨nx,hi,e⟩
    unfold erHF;rw[hg2,iQ];split
    .rename_i L;let⟨ty,p,T,xs,hx⟩:=hmr _ L;rw[hx];cases N:ix n with
     |zero=>exact bC ((memW _).2 (.inr (by rw[pw N];exact mD.2 L))) hn
     |succ k=>rfl
    .cases hx:h.get (ow n) with
     |none=>rfl
     |some b=>exact (mf rows2 (λty r e=>hinv.C _ _ r (by rw[hx,e])) _ _).symm
 .rw[bw];rcases bO.1 hn with hs|hs
  .obtain⟨⟨nx,hi,e⟩,_⟩:=(memS n).1 hs;rw[(sig _).2 ⟨nx,hi,e.symm⟩];rfl
  .obtain⟨nx,rfl,hi⟩:=oZ.1 hs;rw[dw,hi];simp
 .rw[bw,bw];rcases bO.1 hn with hs|hs
  .rcases bO.1 hs with hs|hs
   .obtain⟨⟨nx,hi,e⟩,_⟩:=(memS n).1 hs;rw[(sig _).2 ⟨nx,hi,e.symm⟩];rfl
   .obtain⟨nx,rfl,hi⟩:=oZ.1 hs;rw[dw,hi];simp
  .obtain⟨⟨t,ht,e⟩,_⟩:=(H0 n).1 hs;rw[anc.2 ⟨by omega,by omega⟩];simp
 .obtain⟨⟨t,ht,e⟩,_⟩:=(H0 n).1 hn;omega
def Dc {S:Ty} {xs:Y (CU S)} (z:dN a (l! xs)=J):xs[a.toNat]? =Z (dT _ xs a):=by
 let⟨_,_,h⟩:=mI z;unfold dT
 grind
def Vo {xss:Y (Y T.den)} (z:dN a (l! xss)=J):xss[a.toNat]? =Z (kX xss a):=by
 let⟨_,_,h⟩:=mI z;unfold kX
 grind
variable {z:η}
def VU (A:dN a (l! z)=J):z[a.toNat]? =Z (m_ z a):=by
 let⟨_,_,h⟩:=mI A;unfold m_
 grind
def Dy (id:Nat) (S:Ty) (j:Int) (o:CU S):Y AV:=(bM S o.1).map .f++[.mp (jE id (3*j.toNat+2)),.mp (jE id (3*j.toNat+3))]
def aqq {xs:Y (CU T)} (A:h.get i=Z (.I (.ar s T) j xs)) {a:Int} (z:dN a (l! xs)=J):erHF h (pM i a)=Z ⟨s,.mx (Dy i T a (dT _ xs a))⟩:=by
 unfold pM;rw[kG,A];show ri i (3*a.toNat) s T xs=_;unfold ri;rw[show 3*a.toNat/3=a.toNat from by omega,Dc z];simp only[bx,wE];rw[aF (by omega)];rfl
def aqp {xs:Y (CU T)} (A:h.get i=Z (.I (.ar s T) j xs)) {a:Int} (z:dN a (l! xs)=J) {b:Nat} (L:b<2):erHF h (jE i (3*a.toNat+2+b))=Z ⟨0,.mp (H3 (sN b (dT _ xs a)))⟩:=by
 rw[show 3*a.toNat+2+b=3*a.toNat+1+b+1 from by omega,kG,A];show ri i (3*a.toNat+1+b) s T xs=_;unfold ri;rw[show (3*a.toNat+1+b)/3=a.toNat from by omega,Dc z];simp[bx,wE];rw[ax (by omega)];rcases cJ b 1 with D|D
 .have:b=0:=by omega
  subst this;rw[aF (by omega)];rfl
 .have:b=1:=by omega
  subst this;rw[ax (by omega)];rfl
def ac9 {xss:Y (Y T.den)} (A:h.get i=Z (.I (.ir s T) j xss)) {a:Int} (z:dN a (l! xss)=J) (D:l! (kX xss a)≠0):erHF h (jE i (a.toNat+1))=Z ⟨s,.fz ((kX xss a).flatMap (bM T))⟩:=by
 rw[kG,A];show rh a.toNat s T xss=_;unfold rh;rw[Vo z];simp[aD,ZC]
 grind
def yC (a sz:Nat):∀(z:η) (k j:Nat),(lM a sz k z)[j]? =(z[j]?).map λl=>uK a (k+j) sz l.toNat
 |[],_,_|l::r,k,0=>by simp[lM]
 |l::r,k,j+1=>by
  simp[lM,Bu,yC a sz r (k+1) j]
  grind
abbrev i2:Y TypeDesc:=[.int .i64,.int .i64]
def Tj {b:Int} (z:aj8 u=Z (a,b)) (D:b_ h u=Z y):aek i2 y=Z [.int .i64 a,.int .i64 b]:=by
 unfold aj8 at z;split at z
 .cases z
 .split at z
  .rename_i N b' L;simp[ah,aU]at z;obtain⟨rfl,rfl⟩:=z;have h1:=(Kf L D).1;simp[cM,b_,ah]at h1;have A:y.cs=[.f (.raw (.int .i64 N)),.f (.raw (.int .i64 b'))]:=h1.symm;cases y with
   |agg l=>
    subst A;rfl
   |f x=>
    cases x with
    |agg l=>
     cases l with
     |nil=>cases A
     |cons v l=>
      cases l with
      |nil=>cases A
      |cons w l=>
       cases l with
       |nil=>cases A;rfl
       |cons _ _=>cases A
    |_=>cases A
   |_=>cases A
  .cases z
def EQ (k z:ν):DW i2 [.int .i64 k.1,.int .i64 k.2] (aem z)=Z (H_ k z):=by
 unfold DW aem H_;simp[ch,C3,jL,wF,cw,bq]
 grind
def U_ (a:Nat) (k:ν):∀es:Y d?,Ja i2 [.int .i64 k.1,.int .i64 k.2] (wV a es)=Z (match jN k es with|true=>Z (.H (pM a (db k es)) 0)|false=>U)
 |[]=>rfl
 |e::r=>by
  have z:=U_ a k r;unfold wV at z ⊢;simp[ch,Ja,EQ,jN,db];cases A:H_ k e.1 with
  |true=>rfl
  |false=>simp[Bool.false_or];exact z
def abc (a:Nat) (k:ν):∀es:Y d?,YP i2 [.int .i64 k.1,.int .i64 k.2] (wV a es)=Z (wV a (Ah k es))
 |[]=>rfl
 |e::r=>by
  have z:=abc a k r;unfold wV at z ⊢;simp[ch,YP,EQ,Ah];cases A:H_ k e.1 with
  |true=>rfl
  |false=>simp only[z];rfl
def LD {k z:ν}:H_ k z=J↔k=z:=by
 unfold H_
 grind
def aba (a:Nat) (k:ν) (v:AV):∀es:Y d?,YO i2 [.int .i64 k.1,.int .i64 k.2] v (wV a es)=Z (NC a k v es)
 |[]=>rfl
 |e::r=>by
  have A:=aba a k v r;unfold wV at A ⊢;simp[ch,YO,EQ,NC];cases z:H_ k e.1 with
  |true=>rw[aF (LD.1 z)];rfl
  |false=>rw[ax (λh=>by rw[LD.2 h]at z;cases z)];simp[A]
section ops
variable {R:Type} {P:Program} {ca:TypeId->M Ty} {o:Oper} {e:hX} {h:aZ} {nx:Nat} {K:KO R} {r:R} (hinv:gZ h nx) (hi:sL e h)
include hinv hi
def avq {st:Bool} (L:cV P o.op=Z (.jw b c)) (A:pG ca e h nx K (.jw b c)=Z r):jM P o st e h nx K r:=by
 simp[pG]at A;split at A
 next D=>let⟨y,h1,z⟩:=bi hi D;simp[b_,KP,ah]at z;subst z;exact jM.q (k:=0) hinv L (λH _=>by simp[dO,h1];rfl) (cX rfl) A
 next D=>let⟨y,h1,z⟩:=bi hi D;simp[b_,ah]at z;subst z;exact jM.q (k:=0) hinv L (λH _=>by simp[dO,h1];rfl) (cX rfl) A
 next D=>let⟨y,h1,z⟩:=bi hi D;simp[b_,ah]at z;subst z;exact jM.q (k:=0) hinv L (λH _=>by simp[dO,h1];rfl) (cX rfl) A
 .cases A
def avn (N:cV P o.op=Z (.jz c)) (D:pG ca e h nx K (.jz c)=Z r):jM P o b e h nx K r:=by
 simp[pG]at D;split at D
 next L=>let⟨y,h1,A⟩:=bi hi L;have z:=A;simp[b_,KP,ah]at A;subst A;exact jM.q (k:=0) hinv N (λH _=>by simp[dO,h1]) (cX z) D
 next L=>let⟨y,h1,A⟩:=bi hi L;have z:=A;simp[b_,KP,ah]at A;subst A;exact jM.q (k:=0) hinv N (λH _=>by simp[dO,h1]) (cX z) D
 .cases D
def azp (L:cV P o.op=Z (.jm i c)) (z:pG ca e h nx K (.jm i c)=Z r):jM P o b e h nx K r:=by
 simp[pG]at z;split at z
 next D=>let⟨y,h1,A⟩:=bi hi D;simp[b_,KP,ah]at A;subst A;exact jM.q (k:=0) hinv L (λH _=>by simp[dO,h1,KP]) (cX rfl) z
 next D=>let⟨y,h1,A⟩:=bi hi D;simp[b_,KP,ah]at A;subst A;exact jM.q (k:=0) hinv L (λH _=>by simp[dO,h1,KP,uH]) (cX rfl) z
 .cases z
def avp (hc:cV P o.op=Z (.load i b c)) (A:pG ca e h nx K (.load i b c)=Z r):jM P o af e h nx K r:=by
 obtain⟨H,N⟩:=gM h;simp only[pG]at A;split at A
 .rename_i id j off hv;obtain⟨y,h1,h2⟩:=bi hi hv;simp only[b_,KP,ah]at h2;subst h2;split at A
  .rename_i ty S a xs hb;have L:=cN A;clear A;obtain⟨hj,A⟩:=L;have hg:H.get (pM id j)=Z ⟨ty,.mx (Dy id S j (dT S xs j))⟩:=by rw[N];exact aqq hb hj
   have hrd:∀n∈[pM id j],aO (gC id) (ow n)=J:=λn hn=>by
    simp only[aC]at hn;subst hn;unfold pM;rw[iN];exact bt.2 rfl
   split at A
   .cases A
   .rename_i hag;have hag:b=af:=by grind
    subst hag;have sub1:∀y,(Dy id S j (dT S xs j))[off]? =Z y->(BC.mx (Dy id S j (dT S xs j))).sub? off 1 af=Z y:=λy hy=>hy
    split at A
    .rename_i ho;split at A
     .rename_i v hv2;obtain⟨p1,z,p2,p3,_⟩:=uu h 40 S _ off i af v hv2;obtain⟨rfl,p5⟩:=p3 rfl;have D:=sub1 (.f z) (by
       unfold Dy;rw[bU (by grind),bE,p5];rfl)
      exact⟨_,_,_,_,_,A,fC.pure (k:=0) hinv hc N (y0:=.f z) (rdl:=[pM id j]) (by simp only[dO,h1,xM,hg,D]) (cX p2) hrd nofun⟩
     .cases A
    .rename_i ho;split at A
     .rename_i hq;simp only[au]at hq;have q1:=av hq.1;have q2:=aY hq.2;subst q1;have ho:S.size<=off:=by simp_all
      have D:=sub1 (.mp (jE id (3*j.toNat+2+(off-S.size)))) (by
       unfold Dy;rw[cm (by rw[cq,bu];exact ho),cq,bu];rcases cJ (off-S.size) 1 with h3|h3
       .grind
       .rw[show off-S.size=1 from by omega];rfl)
      exact⟨_,_,_,_,_,A,fC.pure (k:=0) hinv hc N (y0:=.mp (jE id (3*j.toNat+2+(off-S.size)))) (rdl:=[pM id j]) (by simp only[dO,h1,xM,hg,D]) (cX rfl) hrd nofun⟩
     .cases A
  .cases A
 .rename_i id j s sz off hv;obtain⟨y,h1,h2⟩:=bi hi hv;simp only[b_,KP,ah]at h2;subst h2;split at A
  .rename_i ty T a xss hb;split at A
   .rename_i D;have D:=av D;subst D;obtain⟨hj,A⟩:=cN A;obtain⟨hji,A⟩:=cN A;split at A
    .rename_i v hv2;obtain⟨z,p1,p2⟩:=ahj hji hv2;have hne:l! (kX (T:=T) xss j)≠0:=by have:=(mI hji).2.2;omega
     have hg:H.get (jE id (j.toNat+1))=Z ⟨ty,.fz ((kX (T:=T) xss j).flatMap (bM T))⟩:=by rw[N];exact ac9 hb hj hne
     exact⟨_,_,_,_,_,A,fC.pure (k:=0) hinv hc N (y0:=.f z) (rdl:=[jE id (j.toNat+1)]) (by simp only[dO,h1,xM,hg,p2]) (cX p1) (λn hn=>by
      simp only[aC]at hn;subst hn;rw[iN];exact bt.2 rfl) nofun⟩
    .cases A
   .cases A
  .cases A
 .rename_i id s j off hv;obtain⟨y,h1,h2⟩:=bi hi hv;simp only[b_,ah]at h2;subst h2;split at A
  .rename_i hq;simp only[au,cW]at hq;obtain⟨⟨q1,q2⟩,q3,q4⟩:=hq;have q1:=av q1;have q3:=av q3;have q4:=av q4;subst q1 q2 q3 q4;have hrd:∀n∈[nm id],aO (gC id) (ow n)=J:=λn hn=>by
    simp only[aC]at hn;subst hn;rw[dw];exact bt.2 rfl
   split at A
   .rename_i ty a js hb;have L:=cN A;clear A;obtain⟨hj,A⟩:=L;have hlen:aj (α:=Int) js≠0:=by have:=(mI hj).2.2;omega
    have hg:H.get (nm id)=Z ⟨ty,.mx (gE (λj=>.H (pM a j) 0) js)⟩:=by
     rw[N,bL,hb];simp only[aD,ky,uv]
     grind
    have D:(BC.mx (gE (λj=>AV.H (pM a j) 0) js)).sub? (j.toNat*1+0) 1 af=Z (.H (pM a (m_ js j)) 0):=by
     simp only[BC.sub?,BC.get,Hy,dI];exact (bE (f:=λj:Int=>AV.H (pM a j) 0) (l:=js) (i:=j.toNat)).trans (e_ (ie λj=>AV.H (pM a j) 0) (VU hj))
    exact⟨_,_,_,_,_,A,fC.pure (k:=0) hinv hc N (y0:=.H (pM a (m_ js j)) 0) (rdl:=[nm id]) (by simp only[dO,h1,xM,hg,D]) (cX rfl) hrd nofun⟩
   .rename_i ty z a ls hb;have L:=cN A;clear A;obtain⟨hj,A⟩:=L;have hg:H.get (nm id)=Z ⟨ty,.mx (lM a z 0 ls)⟩:=by
     rw[N,bL,hb];rfl
    have D:(BC.mx (lM a z 0 ls)).sub? (j.toNat*1+0) 1 af=Z (uK a j.toNat z (m_ ls j).toNat):=by
     simp only[BC.sub?,BC.get,Hy,dI];have:=yC a z ls 0 j.toNat;rw[b9]at this;refine this.trans ?_;exact e_ (ie λl:Int=>uK a j.toNat z l.toNat) (VU hj)
    exact⟨_,_,_,_,_,A,fC.pure (k:=0) hinv hc N (y0:=uK a j.toNat z (m_ ls j).toNat) (rdl:=[nm id]) (by simp only[dO,h1,xM,hg,D]) (cX rfl) hrd nofun⟩
   .cases A
  .cases A
 .cases A
def azo {sz:Operand} (hc:cV P o.op=Z (.jp i c sz)) (z:pG ca e h nx K (.jp i c sz)=Z r):jM P o b e h nx K r:=by
 simp only[pG]at z;split at z
 .rename_i id k j hv L;split at z
  .rename_i p s n hr;split at z
   .rename_i D;simp only[au]at D;have D:=av D.1;let⟨A,z⟩:=cN z;let⟨y,h1,h2⟩:=bi hi hv;let⟨y2,h3,h4⟩:=bi hi L;simp[b_,ah]at h4;subst h4;let⟨j0,j1,j2⟩:=mI A;have hne:¬((p&&n==0)=J):=by grind
    simp only[b_,hr,dA,ax hne,ah]at h2;subst h2;have N:(s==i&&dz 0 j&&gF j n)=J:=by
     simp[dN,au]at A;simp[D,A.1,A.2]
    exact jM.q (k:=0) hinv hc (λH _=>by simp[dO,h1,h3,gz,N,bq,dI]) (cX rfl) z
   .cases z
  .cases z
 .rename_i id j s n k i' hv L;split at z
  .rename_i D;have D:=av D;let⟨A,z⟩:=cN z;let⟨y,h1,h2⟩:=bi hi hv;let⟨y2,h3,h4⟩:=bi hi L;simp[b_,ah]at h4;subst h4;let⟨j0,j1,j2⟩:=mI A;have hne:¬((n==0)=J):=by grind
   simp only[b_,KP,uK,ax hne,ah]at h2;subst h2;have N:(s==i&&dz 0 i'&&gF i' n)=J:=by
    simp[dN,au]at A;simp[D,A.1,A.2]
   exact jM.q (k:=0) hinv hc (λH _=>by simp[dO,h1,h3,gz,N,bq,KP,dI]) (cX rfl) z
  .cases z
 .cases z
def azm {ok:Bool} {k:Operand} (hc:cV P o.op=Z (.jb b ok v c k)) (A:pG ca e h nx K (.jb b ok v c k)=Z r):jM P o af e h nx K r:=by
 let⟨H,hH⟩:=gM h;simp only[pG]at A;split at A
 .rename_i id j str D hv N;split at A
  .rename_i ty S a xs zb hb;split at A
   .rename_i hq;simp only[au,cW]at hq;let⟨q1,L⟩:=hq;subst q1;have L:=aY L;have hk0:=cN A;let⟨hj,A⟩:=hk0;let⟨y,h1,h2⟩:=bi hi hv;let⟨y2,h3,h4⟩:=bi hi N;simp[b_,KP,ah]at h2 h4;subst h2 h4;generalize hm:sN str (dT S xs j)=m at A;have hg:H.get (jE id (3*j.toNat+2+str))=Z ⟨0,.mp (H3 m)⟩:=by rw[hH,<-hm];exact aqp hb hj L
    have hf:tM (.int .i64 D) (H3 m)=Z ((AZ (K:=.int .i64) (V:=.bool) D m).map λz=>.f (.raw (.bool z))):=Mw (str:=af) (K:=.int .i64) (V:=.bool) rfl D m;have henc:gz (.int .i64) D= .raw (.int .i64 D):=rfl;rw[henc]at h3;refine ⟨_,_,_,_,_,A,fC.pure (k:=0) hinv hc hH (y0:=pkV ok (.f (.raw (.bool (xn (K:=.int .i64) (V:=.bool) D m zb)))) (aei (K:=.int .i64) (V:=.bool) D m)) (rdl:=[jE id (3*j.toNat+2+str)]) ?_ (λy hy=>by rw[aif (y:=.f (.raw (.bool (xn (K:=.int .i64) (V:=.bool) D m zb)))) rfl]at hy;cases hy;exact Le.refl _) (λn hn=>by
     simp[aC]at hn;subst hn;rw[iN];exact bt.2 rfl) nofun⟩
    simp[dO,h1,h3,hg,yO,bq,hf];unfold xn aei;cases hfm:AZ (K:=.int .i64) (V:=.bool) D m with
    |_=>rfl
   .cases A
  .cases A
 .cases A
def azn {k:Operand} (hc:cV P o.op=Z (.lkq i2 v c k)) (A:pG ca e h nx K (.lkq i2 v c k)=Z r):jM P o af e h nx K r:=by
 let⟨H,N⟩:=gM h;simp[pG]at A;split at A
 .rename_i id kv hv hkv;let⟨tk,D,hkk⟩:=bind_some hkv;let⟨ka,kb⟩:=kv;split at A
  .rename_i a es hb;let⟨y,h1,h2⟩:=bi hi hv;let⟨y2,h3,h4⟩:=bi hi D;simp[b_,ah]at h2;subst h2;have hq:=Tj hkk h4;have hg:H.get (nm id)=Z ⟨0,.mp (wV a es)⟩:=by rw[N,bL,hb];rfl
   have hf:=U_ a (ka,kb) es;have hrd:∀n∈[nm id],aO (gC id) (ow n)=J:=λn hn=>by
    simp[aC]at hn;subst hn;rw[dw];exact bt.2 rfl
   rcases mQ A with ⟨hh,A⟩|⟨hh,A⟩
   .rw[hh]at hf;exact⟨_,_,_,_,_,A,fC.pure (k:=0) hinv hc N (y0:=.H (pM a (db (ka,kb) es)) 0) (rdl:=[nm id]) (by simp[dO,h1,h3,aD,hq,hg,hf]) (cX rfl) hrd nofun⟩
   .rw[hh]at hf;exact⟨_,_,_,_,_,A,fC.pure (k:=0) hinv hc N (y0:=raw (.pointer U)) (rdl:=[nm id]) (by simp[dO,h1,h3,aD,hq,hg,hf]) (cX rfl) hrd nofun⟩
  .cases A
 .cases A
def azq {k:Operand} (hc:cV P o.op=Z (.dlq i2 c k)) (z:pG ca e h nx K (.dlq i2 c k)=Z r):jM P o af e h nx K r:=by
 let⟨H,hH⟩:=gM h;simp only[pG]at z;split at z
 .rename_i id kv hv hkv;let⟨tk,A,hkk⟩:=bind_some hkv;let⟨N,L⟩:=kv;split at z
  .rename_i a es hb;let⟨y,h1,h2⟩:=bi hi hv;let⟨y2,h3,h4⟩:=bi hi A;simp[b_,ah]at h2;subst h2;have hq:=Tj hkk h4;have hg:H.get (nm id)=Z ⟨0,.mp (wV a es)⟩:=by rw[hH,bL,hb];rfl
   have hf:=abc a (N,L) es;have hrd:∀n∈[nm id],aO (gC id) (ow n)=J:=λn hn=>by
    simp[aC]at hn;subst hn;rw[dw];exact bt.2 rfl
   refine ⟨_,_,_,_,_,z,fC.wrt (m:=0) (v:=.qg []) (rd:=gC id) (k:=0) (y0:=.qg []) (rdl:=[nm id]) (b0:=⟨0,.mp (wV a (Ah (N,L) es))⟩) hinv hc hH (by simp[dO,h1,h3,aD,hq,hg,hf]) hb (dP.zero h) (by simp) rfl (λ_ _ he=>by cases he) (λH1 H2 d g b' D=>?_) (λH1 H2 y d g hy=>?_) hrd⟩
   .cases D;exact gr.refl d _
   .simp[b_,cM,ah]at hy;subst hy;exact kr.refl d _
  .cases z
 .cases z
def azl {k v:Operand} (hc:cV P o.op=Z (.mpq i2 c k v)) (z:pG ca e h nx K (.mpq i2 c k v)=Z r):jM P o af e h nx K r:=by
 let⟨H,hH⟩:=gM h;simp only[pG]at z;split at z
 .rename_i id kv p hv hkv hvp;let⟨tk,A,hkk⟩:=bind_some hkv;let⟨N,L⟩:=kv;split at z
  .rename_i a es hb;let⟨y,h1,h2⟩:=bi hi hv;let⟨y2,h3,h4⟩:=bi hi A;let⟨y3,h5,h6⟩:=bi hi hvp;simp[b_,ah]at h2 h6;subst h2 h6;have hq:=Tj hkk h4;have hg:H.get (nm id)=Z ⟨0,.mp (wV a es)⟩:=by rw[hH,bL,hb];rfl
   have hf:=aba a (N,L) (.H (nm p) 0) es;have hrd:∀n∈[nm id],aO (gC id) (ow n)=J:=λn hn=>by
    simp[aC]at hn;subst hn;rw[dw];exact bt.2 rfl
   refine ⟨_,_,_,_,_,z,fC.wrt (m:=0) (v:=.undef) (rd:=gC id) (k:=0) (y0:=raw undef) (rdl:=[nm id]) (b0:=⟨0,.mp (NC a (N,L) (.H (nm p) 0) es)⟩) hinv hc hH (by simp[dO,h1,h3,h5,aD,hq,hg,hf]) hb (dP.zero h) (by simp) rfl (λ_ _ he=>by cases he) (λH1 H2 d g b' D=>?_) (λH1 H2 y d g hy=>?_) hrd⟩
   .cases D;exact gr.refl d _
   .simp[b_,ah]at hy;subst hy;exact kr.refl d _
  .cases z
 .cases z
end ops
def fC.wrtM {o:Oper} {e:hX} {s:UP} (hinv:gZ h i) (hc:cV P o.op=Z s) {H:mU} (hH:H.get=erHF h) {km:Nat} {y0:AV} {rdl:ι} {b0:kx} {k:Nat} (ha:dO s (DK e h) H k=Z ⟨y0,rdl,[jE j (km+1)],[(jE j (km+1),b0)],[]⟩) {N B:fk} (z:h.get j=Z N) {v:TV} {rd:Nat}
 (hrow:iM B=iM N) (hB:∀ty l,B≠ .C ty l) (hB0:∀ty l,N≠ .C ty l) (hanc:∀h2,ky h2 B=ky h N) (hoth:∀k',k'≠km->wS j k' B=wS j k' N)
 (hblk:∀D A,rA D A->∀b',wS j km B=Z b'->gr D A b0 b')
 (hval:∀D A y,rA D A->b_ (h.set j (Z B)) v=Z y->kr D A y0 y)
 (hrd:∀n∈rdl,aO rd (ow n)=J):fC P o af e h i v rd (0|||gC j) (h.set j (Z B)) i:=by
 have L:bY h (h.set j (Z B)):=bY.set λr L=>by rw[bD,z]at L;rw[hrow];exact L
 refine fC.mk' hc hH ha [jE j (km+1)] (λnx hi=>hi) (λn hn=>?_) (λnx hi b' hb'=>⟨b0,by rw[aF hi];simp[aC]at hi;subst hi;exact fg _ _⟩) (λD A d hw1 _ hw2=>⟨λnx hi b b' hb hb2=>?_,λy hy=>hval D A y d hy⟩) hrd (λn hn=>?_) (by simp) L (hinv.set L (hinv.low j N z) (bI _) λty l he=>bC he (hB ty l)) (bI _)
 .by_cases ho:ow n=j
  .unfold erHF;rw[ho,PT.get_set,aF rfl,z];cases hk:ix n with
   |zero=>exact hanc _
   |succ k'=>
    refine hoth k' λe=>hn ?_
    rw[<- kP n,ho,hk,e];simp
  .unfold erHF;rw[PT.get_set,ax ho];cases hx:h.get (ow n) with
   |none=>rfl
   |some b=>exact mf L (λty l e=>hinv.C _ _ l (by rw[hx,e])) _ _
 .simp[aC]at hi;subst hi;rw[hw1 _ (by simp),fg]at hb;rw[hw2 _ (by simp),kG,PT.get_set,aF rfl]at hb2
  grind
 .simp[aC]at hn;subst hn;rw[iN,wL];exact bt.2 rfl
def RI {xs:Y (CU T)} {n:Nat} {A:CU T} (hf:∀o,xs[n]? =Z o->j/3=n->wE i j s T A=wE i j s T o):ri i j s T (xs.set n A)=ri i j s T xs:=by
 unfold ri
 grind
def WG {xs:Y (CU T)} {n:Nat} {A:CU T} (D:j/3=n) (L:n<l! xs):ri i j s T (xs.set n A)=Z (wE i j s T A):=by
 unfold ri
 grind
def It {ty:TypeId} {xss:Y (Y T.den)} {xs:Y T.den} (A:i≠j):rh i ty T (xss.set j xs)=rh i ty T xss:=by
 unfold rh
 grind
def Nw {ty:TypeId} {xss:Y (Y T.den)} {xs:Y T.den} (z:i<l! xss):rh i ty T (xss.set i xs)=ZC ty T xs:=by
 unfold rh
 grind
def Uw (h:eJ i j=J):i<j:=aY h
def aj1 {c:Nat} (h:i=j) (z:c<j):c<i:=by omega
def lw (a sz:Nat):∀(z:η) (k:Nat),l! (lM a sz k z)=l! z
 |[],_=>rfl
 |l::r,k=>by simp[lM,jX,lw a sz r]
def Vj {z:HF} (d:rA A z):∀n,gX A z ((repl [.slice U 0 0] n).map .f) (aG n .emp)
 |0=>trivial
 |n+1=>⟨Le.nilEmp.toH d,Vj d n⟩
section ops
variable {R:Type} {P:Program} {ca:TypeId->M Ty} {o:Oper} {e:hX} {h:aZ} {nx:Nat} {K:KO R} {r:R} (hinv:gZ h nx) (hi:sL e h)
include hinv hi
def azk {k v:Operand} (hc:cV P o.op=Z (.jf b c k v)) (A:pG ca e h nx K (.jf b c k v)=Z r):jM P o af e h nx K r:=by
 let⟨H,hH⟩:=gM h;simp only[pG]at A;split at A
 .rename_i id j str L D hv hv2 hv3;split at A
  .rename_i ty S a xs hb;split at A
   .rename_i hq;simp only[au,cW]at hq;let⟨q1,q2⟩:=hq;subst q1;have q2:=Uw q2;have hk0:=cN A;let⟨hj,A⟩:=hk0;let⟨y,h1,h2⟩:=bi hi hv;let⟨y2,h3,h4⟩:=bi hi hv2;let⟨y3,h5,h6⟩:=bi hi hv3;simp[b_,KP,ah]at h2 h4 h6;subst h2 h4 h6;have e1:3*j.toNat+2+str=3*j.toNat+1+str+1:=by omega
    let⟨_,_,hjl⟩:=mI hj;have hg:H.get (jE id (3*j.toNat+2+str))=Z ⟨0,.mp (H3 (sN str (dT S xs j)))⟩:=by rw[hH];exact aqp hb hj q2
    rw[e1]at h1 hg;have hf:An (.int .i64 L) (.f (.raw (.bool D))) (H3 (sN str (dT S xs j)))=Z (H3 (uN (K:=.int .i64) (V:=.bool) L D (sN str (dT S xs j)))):=Ta (str:=af) (K:=.int .i64) (V:=.bool) rfl L D _;have henc:gz (.int .i64) L= .raw (.int .i64 L):=rfl;have henc2:gz .bool D= .raw (.bool D):=rfl;rw[henc]at h3;rw[henc2]at h5;refine ⟨_,_,_,_,_,A,fC.wrtM (km:=3*j.toNat+1+str) (v:=.undef) (rd:=gC id) (k:=0) (y0:=raw undef) (rdl:=[jE id (3*j.toNat+1+str+1)]) (b0:=⟨0,.mp (H3 (uN (K:=.int .i64) (V:=.bool) L D (sN str (dT S xs j))))⟩) hinv hc hH (by simp[dO,h1,h3,h5,hg,yO,bq,hf]) hb rfl (λ_ _ he=>by cases he) (λ_ _ he=>by cases he) (λ_=>rfl) (λk' hk'=>?_) (λH1 H2 d b' z=>?_) (λH1 H2 y d hy=>?_) (λn hn=>?_)⟩
    .refine RI λo' N hn=>?_
     rw[Dc (S:=S) hj,ah]at N;subst N;unfold wE;by_cases m0:k'%3=0
     .rw[aF m0,aF m0];cases str<;>rfl
     .rw[ax m0,ax m0];by_cases m1:k'%3=1
      .rw[aF m1,aF m1];cases str with
       |zero=>exact bC (by omega) hk'
       |succ str=>rfl
      .rw[ax m1,ax m1];cases str with
       |zero=>rfl
       |succ str=>exact bC (by omega) hk'
    .have z:ri id (3*j.toNat+1+str) ty S (oI xs j.toNat (vW str (dT S xs j) (uN (K:=.int .i64) (V:=.bool) L D (sN str (dT S xs j)))))=Z b':=z;rw[WG (by omega) hjl]at z;have:wE id (3*j.toNat+1+str) ty S (vW str (dT S xs j) (uN (K:=.int .i64) (V:=.bool) L D (sN str (dT S xs j))))=⟨0,.mp (H3 (uN (K:=.int .i64) (V:=.bool) L D (sN str (dT S xs j))))⟩:=by
      unfold wE;rw[ax (by omega)];cases str with
      |zero=>rw[aF (by omega)];rfl
      |succ str=>rw[ax (by omega)];rfl
     rw[this,ah]at z;subst z;exact gr.refl d _
    .simp[b_,ah]at hy;subst hy;exact kr.refl d _
    .simp[aC]at hn;subst hn;rw[iN];exact bt.2 rfl
   .cases A
  .cases A
 .cases A
def aq6 {v:Operand} (hc:cV P o.op=Z (.store i c v)) (A:pG ca e h nx K (.store i c v)=Z r):jM P o af e h nx K r:=by
 let⟨H,hH⟩:=gM h;simp only[pG]at A;split at A
 .rename_i id j off y hv hv2;let⟨yb,h1,h2⟩:=bi hi hv;let⟨L,h3,h4⟩:=bi hi hv2;simp only[b_,KP,ah]at h2;subst h2;split at A
  .rename_i ty S a xs hb;have hk0:=cN A;clear A;let⟨hj,A⟩:=hk0;let⟨_,_,hjl⟩:=mI hj;split at A
   .rename_i z m hset;split at A
    .rename_i N;have N:=av N;subst N;have hg:H.get (pM id j)=Z ⟨ty,.mx (Dy id S j (dT S xs j))⟩:=by rw[hH];exact aqq hb hj
     have hso:∀H1 H2,rA H1 H2->Sg H1 H2 L S (dT S xs j).1 z off i:=λH1 H2 d=>tZ d h4 40 S _ off i z 0 hset Fm.zero
     have hcell:=od h4 40 S _ off i z 0 hset;let⟨fs0,q1,q2,q3,_,_⟩:=hso _ _ (rA.refl (erHF h));have hlen:L.cs.length=i:=by rw[<- q2,<-cq (f:=AV.f),q1.length]
     have hput:(BC.mx (Dy id S j (dT S xs j))).put off L.cs=Z (.mx (AI.splice (Dy id S j (dT S xs j)) off L.cs)):=by
      unfold BC.put;rw[aF]
      .rfl
      .simp only[au];refine ⟨⟨rfl,bj ?_⟩,hcell⟩;simp only[BC.len,Dy,bz,cq,bu];omega
     have ha0:dO (.store i c v) (DK e h) H 0=Z ⟨raw undef,[pM id j],[pM id j],[(pM id j,⟨ty,.mx (AI.splice (Dy id S j (dT S xs j)) off L.cs)⟩)],[]⟩:=by
      simp only[dO,h1,h3,CQ,hg,hlen,cw,bq,hput]
     refine ⟨_,_,_,_,_,A,fC.wrtM (km:=3*j.toNat) (v:=.undef) (rd:=gC id) hinv hc hH ha0 hb rfl (λ_ _ he=>by cases he) (λ_ _ he=>by cases he) (λ_=>rfl) (λk' hk'=>?_) (λH1 H2 d b' D=>?_) (λH1 H2 y d hy=>?_) (λn hn=>?_)⟩
     .refine RI λo' ho' hn=>?_
      rw[Dc (S:=S) hj,ah]at ho';subst ho';have k0:k'%3≠0:=by omega
      unfold wE;rw[ax k0,ax k0]
     .have D:ri id (3*j.toNat) ty S (oI xs j.toNat (z,(dT S xs j).2))=Z b':=D;rw[WG (by omega) hjl]at D;have:wE id (3*j.toNat) ty S (z,(dT S xs j).2)=⟨ty,.mx (Dy id S j (z,(dT S xs j).2))⟩:=by
       unfold wE;rw[aF (by omega)];rfl
      rw[this,ah]at D;subst D;let⟨fs,p1,p2,p3,p4,p5⟩:=hso H1 H2 d;refine gr.C rfl rfl ?_ λc hx=>?_
      .simp only[BC.toMx];have e2:Dy id S j (z,(dT S xs j).2)=AI.splice (Dy id S j (dT S xs j)) off (fs.map .f):=by
        unfold Dy;rw[p4];unfold AI.splice;rw[sR (by rw[cq,bu];omega),List.drop_append_of_le_length (by rw[cq,cq,bu];omega)];simp[gI,zU]
       rw[e2];exact (gX.refl d _).splice _ p1
      .simp only[BC.toMx,Dy,bO]at hx;rcases hx with hx|hx
       .obtain⟨q,hq,rfl⟩:=cu.1 hx;have:∀q∈([z]:Y S.den).flatMap (bM S),q.isCell=J:=md S [z];exact this q (by simpa using hq)
       .simp only[a_,cD,fH]at hx;rcases hx with rfl|rfl<;>rfl
     .simp only[b_,ah]at hy;subst hy;exact kr.refl d _
     .simp only[aC]at hn;subst hn;unfold pM;rw[iN];exact bt.2 rfl
    .cases A
   .cases A
  .cases A
 .rename_i id j s sz off y hv hv2;let⟨yb,h1,h2⟩:=bi hi hv;let⟨L,h3,h4⟩:=bi hi hv2;simp only[b_,KP,ah]at h2;subst h2;split at A
  .rename_i ty T a xss hb;split at A
   .rename_i hs;have hs:=av hs;subst hs;let⟨hj,A⟩:=cN A;let⟨hji,A⟩:=cN A;let⟨_,_,hjl⟩:=mI hj;split at A
    .rename_i z m hset;split at A
     .rename_i N;have N:=av N;subst N;generalize hxs:kX (T:=T) xss j=xs at*
      let⟨i0,i1,i2⟩:=mI hji;have hne:xs.length≠0:=by omega
      have hg:H.get (jE id (j.toNat+1))=Z ⟨ty,.fz (xs.flatMap (bM T))⟩:=by rw[hH,<-hxs];exact ac9 hb hj (by rw[hxs];exact hne)
      have fl:=fx (bu T) xs;have hx:xs[sz.toNat]? =Z (geti _ xs sz):=by
       unfold geti;rw[aE,aH i2];rfl
      have hle:(sz.toNat+1)*T.size<=xs.length*T.size:=cK _ i2;rw[jF]at hle;have hso:∀H1 H2,rA H1 H2->Sg H1 H2 L T (geti _ xs sz) z off i:=λH1 H2 d=>tZ d h4 40 T _ off i z 0 hset Fm.zero
      have hcell:=od h4 40 T _ off i z 0 hset;let⟨fs0,q1,q2,q3,_,_⟩:=hso _ _ (rA.refl (erHF h));have hlen:L.cs.length=i:=by rw[<- q2,<-cq (f:=AV.f),q1.length]
      obtain⟨c',hput,hc1,hc2⟩:∃c',(BC.fz (xs.flatMap (bM T))).put (sz.toNat*T.size+off) L.cs=Z c'/\c'.toMx=AI.splice ((xs.flatMap (bM T)).map .f) (sz.toNat*T.size+off) L.cs/\c'.isCells=J:=by
       unfold BC.put;rw[aF]
       .split
        next l ys hl hys=>simp only[BC.fz.injEq]at hl;subst hl;refine ⟨_,rfl,?_,rfl⟩;rw[nI hys];simp only[BC.toMx];unfold AI.splice;simp[gI,zU]
        .exact⟨_,rfl,rfl,rfl⟩
       .simp only[au];exact⟨⟨rfl,bj (by simp only[BC.len];omega)⟩,hcell⟩
      have ha0:dO (.store i c v) (DK e h) H 0=Z ⟨raw undef,[jE id (j.toNat+1)],[jE id (j.toNat+1)],[(jE id (j.toNat+1),⟨ty,c'⟩)],[]⟩:=by
       simp only[dO,h1,h3,CQ,hg,hlen,cw,bq,hput]
      refine ⟨_,_,_,_,_,A,fC.wrtM (km:=j.toNat) (v:=.undef) (rd:=gC id) hinv hc hH ha0 hb rfl (λ_ _ he=>by cases he) (λ_ _ he=>by cases he) (λ_=>rfl) (λk' hk'=>It hk') (λH1 H2 d b' D=>?_) (λH1 H2 y d hy=>?_) (λn hn=>?_)⟩
      .have D:rh j.toNat ty T (oI xss j.toNat (cC xs sz z))=Z b':=D;rw[Nw hjl]at D;unfold ZC at D;have hl2:(cC xs sz z).length=xs.length:=by unfold cC;rw[dF]
       rw[ax (by simp only[c5];omega),ah]at D;subst D;let⟨fs,p1,p2,p3,p4,p5⟩:=hso H1 H2 d;have hfl:(cC xs sz z).flatMap (bM T)=AI.splice (xs.flatMap (bM T)) (sz.toNat*T.size+off) fs:=Nr (bu T) xs sz.toNat _ z hx off fs (by omega) p4;refine gr.C hc2 rfl ?_ λc hx=>?_
       .rw[hc1];simp only[BC.toMx];rw[hfl];have:(AI.splice (xs.flatMap (bM T)) (sz.toNat*T.size+off) fs).map AV.f=AI.splice ((xs.flatMap (bM T)).map .f) (sz.toNat*T.size+off) (fs.map .f):=by unfold AI.splice;simp[gI,zU]
        rw[this];exact (gX.refl d _).splice _ p1
       .simp only[BC.toMx]at hx;obtain⟨q,hq,rfl⟩:=cu.1 hx;exact md T _ q hq
      .simp only[b_,ah]at hy;subst hy;exact kr.refl d _
      .simp only[aC]at hn;subst hn;rw[iN];exact bt.2 rfl
     .cases A
    .cases A
   .cases A
  .cases A
 .rename_i id s j off rr hv hv2;let⟨yb,h1,h2⟩:=bi hi hv;let⟨L,h3,h4⟩:=bi hi hv2;simp only[b_,ah]at h2;subst h2;split at A
  .rename_i hq;simp only[au]at hq;let⟨q1,q2,q3⟩:=hq;have q1:=av q1;have q2:=av q2;have q3:=av q3;subst q1 q2 q3;split at A
   .rename_i ty z a ls ty2 p T xs hb hb2;split at A
    .rename_i hz;have hz:=av hz;subst hz;have hk0:=cN A;clear A;let⟨hj,A⟩:=hk0;have hk0:=cN A;clear A;let⟨hp,A⟩:=hk0;let⟨_,_,hjl⟩:=mI hj;have hyy:L=dA J rr T.size xs.length:=by
      simp only[b_,bD,hb2,aD,iM,ah]at h4;rw[<- h4];cases p with
      |true=>rfl
      |false=>
       have hp:(!(aB (aj xs) 0))=J:=hp;have hp:aj xs≠0:=λe=>by rw[e]at hp;cases hp
       unfold dA;rw[ax (by simp),ax (by simpa using hp)]
     have hg:H.get (nm id)=Z ⟨ty,.mx (lM a T.size 0 ls)⟩:=by rw[hH,bL,hb];rfl
     have hcs:L.cs=[L]:=by rw[hyy];unfold dA;split<;>rfl
     have hcell:L.isCell=J:=by rw[hyy];unfold dA;split<;>rfl
     have hput:(BC.mx (lM a T.size 0 ls)).put (j.toNat*1+0) L.cs=Z (.mx (AI.splice (lM a T.size 0 ls) j.toNat [L])):=by
      rw[hcs,Hy,dI];unfold BC.put;rw[aF]
      .rfl
      .simp only[au,gG,hcell,and_true];refine ⟨rfl,bj ?_⟩;have hl:(lM a T.size 0 ls).length=aj (α:=Int) ls:=lw a T.size ls 0;show j.toNat+1<=(lM a T.size 0 ls).length;rw[hl];exact hjl
     have hlen:L.cs.length=1:=by rw[hcs];rfl
     have ha0:dO (.store 1 c v) (DK e h) H 0=Z ⟨raw undef,[nm id],[nm id],[(nm id,⟨ty,.mx (AI.splice (lM a T.size 0 ls) j.toNat [L])⟩)],[]⟩:=by
      simp only[dO,h1,h3,CQ,hg,hlen,cw,bq,hput]
     refine ⟨_,_,_,_,_,A,fC.wrt (m:=0) (v:=.undef) (rd:=gC id) hinv hc hH ha0 hb (dP.zero h) (by simp) rfl (λ_ _ he=>by cases he) (λH1 H2 d g b' D=>?_) (λH1 H2 y d g hy=>?_) (λn hn=>?_)⟩
     .cases D;have hl:(lM a T.size 0 ls).length=aj (α:=Int) ls:=lw a T.size ls 0;rw[YJ (aj1 hl hjl),hyy];exact gr.refl d _
     .simp only[b_,ah]at hy;subst hy;exact kr.refl d _
     .simp only[aC]at hn;subst hn;rw[dw];exact bt.2 rfl
    .cases A
   .cases A
  .cases A
 .cases A
def fC.app1 {s:UP} (hc:cV P o.op=Z s) {H:mU} (hH:H.get=erHF h) {k n0:Nat} {y0:AV} {rdl:ι} {b0:kx} (ha:dO s (DK e h) H k=Z ⟨y0,rdl,[nm nx,n0],[(nm nx,b0)],[nm nx]⟩) {h':aZ} 
 (hsame:∀n,n≠nm nx->n≠n0->erHF h' n=erHF h n) (hne:nm nx≠n0) (hdead:erHF h' n0=U) (hnew:erHF h' (nm nx)=Z Q) (hblk:∀A z,rA A z->gr A z b0 Q) (hval:∀A z y,rA A z->b_ h' u=Z y->kr A z y0 y)
 (hrd:∀n∈rdl,aO i (ow n)=J) (hwr:aO j (ow n0)=J) (hwn:aO j nx=J) (hrows:bY h h') (hinv':gZ h' (nx+1)):fC P o af e h nx u i j h' (nx+1):=by
 have _:=hinv;have _:=hi;refine fC.mk' hc hH ha [nm nx,n0] (λrd hi=>hi) (λn D=>?_) (λrd hi b' hb'=>?_) (λA z d N _ hw2=>⟨λrd hi b b' hb1 hb2=>?_,λy hy=>hval A z y d hy⟩) hrd (λn D=>?_) (λn D=>by simp[aC]at D;subst D;rw[dw];omega) hrows hinv' (by omega)
 .grind
 .simp[a_,cD,fH]at hi;rcases hi with rfl|rfl
  .exact⟨_,by rw[aF (by simp)];exact fg _ _⟩
  .grind
 .simp[a_,cD,fH]at hi;rcases hi with rfl|rfl
  .rw[N _ (by simp),fg]at hb1
   grind
  .grind
 .simp[a_,cD,fH]at D;rcases D with rfl|rfl
  .rw[dw];exact hwn
  .exact hwr
def fC.app0 {s:UP} (hc:cV P o.op=Z s) {H:mU} (hH:H.get=erHF h) {k:Nat} {y0:AV} {rdl:ι} {b0:kx} (ha:dO s (DK e h) H k=Z ⟨y0,rdl,[nm nx],[(nm nx,b0)],[nm nx]⟩) {h':aZ} 
 (hsame:∀n,n≠nm nx->erHF h' n=erHF h n) (hnew:erHF h' (nm nx)=Z Q) (hblk:∀A z,rA A z->gr A z b0 Q) (hval:∀A z y,rA A z->b_ h' u=Z y->kr A z y0 y)
 (hrd:∀n∈rdl,aO i (ow n)=J) (hwn:aO j nx=J) (hrows:bY h h') (hinv':gZ h' (nx+1)):fC P o af e h nx u i j h' (nx+1):=by
 have _:=hinv;have _:=hi;refine fC.mk' hc hH ha [nm nx] (λrd hi=>hi) (λn D=>?_) (λrd hi b' hb'=>?_) (λA z d L _ hw2=>⟨λrd hi b b' N hb2=>?_,λy hy=>hval A z y d hy⟩) hrd (λn D=>?_) (λn D=>by simp[aC]at D;subst D;rw[dw];omega) hrows hinv' (by omega)
 .grind
 .simp[aC]at hi;subst hi;exact⟨_,by rw[aF (by simp)];exact fg _ _⟩
 .simp[aC]at hi;subst hi;rw[L _ (by simp),fg]at N
  grind
 .simp[aC]at D;subst D;rw[dw];exact hwn
def azr {ty:Operand} (hc:cV P o.op=Z (.app s i j ty c)) (z:pG ca e h nx K (.app s i j ty c)=Z r):jM P o af e h nx K r:=by
 let⟨H,hH⟩:=gM h;have hfr:=hinv.fresh;simp only[pG]at z;split at z
 .rename_i id id2 hv hv2;let⟨yb,h1,h2⟩:=bi hi hv;let⟨yy,h3,h4⟩:=bi hi hv2;simp only[b_,ah]at h4;subst h4;split at z
  .rename_i ty' a D tyc a' bytes hb hb2;split at z
   .rename_i hq;simp only[au,cW]at hq;let⟨⟨q1,q2⟩,q3,q4⟩:=hq;have q1:=av q1;have q2:=eq_of_beq q2;have q3:=av q3;have q4:id≠id2:=λe=>by rw[e,gw]at q4;cases q4
    subst q1 q2 q3;have N:=cN z;clear z;let⟨hroom,z⟩:=N;have hrow:=acw hH hb2 (l':=[.H (pM a bytes) 0]) rfl (n:=1) (sz:=1) rfl;have hidlt:=hinv.low id _ hb;have hne:nx≠id:=by omega
    have hroom:bh (aj (α:=Int) D+1) j=J:=hroom;simp only[b_,bD,hb,aD,iM,su,ah]at h2;generalize hh':(h.set id (Z (.qj J 1 (aj (α:=Int) D)))).set nx (Z (.I (.qh s) a (sS (α:=Int) D [bytes])))=h' at z;have A:∀sz,h'.get sz=if sz=nx then Z (.I (.qh s) a (sS (α:=Int) D [bytes])) else if sz=id then Z (.qj J 1 (aj (α:=Int) D)) else h.get sz:=λsz=>by rw[<- hh',PT.get_set,PT.get_set]
    have hr:bY h h':=λsz r hi=>by
     rw[bD]at hi ⊢;rw[A];by_cases e1:sz=nx
     .rw[e1,hfr]at hi;cases hi
     .rw[ax e1];by_cases e2:sz=id
      .rw[aF e2];rw[e2,hb]at hi;exact hi
      .rw[ax e2];exact hi
    have hinv':gZ h' (nx+1):=by
     refine ⟨λsz s l hil=>?_,λsz x hic=>?_⟩
     .rw[A]at hil;split at hil
      .cases hil
      .split at hil
       .cases hil
       .exact fy hr l (hinv.C sz _ l hil)
     .rw[A]at hic;split at hic
      .omega
      .split at hic
       .omega
       .have:=hinv.low sz x hic;omega
    have hsame:∀n,n≠nm nx->n≠nm id->erHF h' n=erHF h n:=λn e1 e2=>by
     unfold erHF;rw[A (ow n)];by_cases f1:ow n=nx
     .rw[aF f1,f1,hfr];simp only[aD,Option.bind_none];cases hx:ix n with
      |zero=>exact bC (by rw[pw hx,f1]) e1
      |succ k=>rfl
     .rw[ax f1];by_cases f2:ow n=id
      .rw[aF f2,f2,hb];simp only[aD];cases hx:ix n with
       |zero=>exact bC (by rw[pw hx,f2]) e2
       |succ k=>rfl
      .rw[ax f2];cases hx:h.get (ow n) with
       |none=>rfl
       |some b=>exact mf hr (λs l e=>hinv.C _ _ l (by rw[hx,e])) _ _
    have hdead:erHF h' (nm id)=U:=by rw[bL,A,ax (by omega),aF rfl];rfl
    have hl2:aj (α:=Int) (sS (α:=Int) D [bytes])=aj (α:=Int) D+1:=by
     exact (λ(a b:η)=>(bz:(a++b).length=a.length+b.length)) D [bytes]
    have hnew:erHF h' (nm nx)=Z ⟨s,.mx (gE (λbytes=>.H (pM a bytes) 0) D++[.H (pM a bytes) 0])⟩:=by
     rw[bL,A,aF rfl];simp only[aD,ky,uv];rw[ax (by simp only[c5];omega)];have:gE (λbytes=>AV.H (pM a bytes) 0) (sS (α:=Int) D [bytes])=gE (λbytes=>AV.H (pM a bytes) 0) D++[.H (pM a bytes) 0]:=by
      exact cr (f:=λbytes:Int=>AV.H (pM a bytes) 0) (l₁:=(D:η)) (l₂:=[bytes])
     rw[this]
    have hval:b_ h' (.G nx)=Z (.G (nm nx) 1 (aj (α:=Int) D+1)):=by
     simp only[b_,bD,A,bq,aD,iM,su,dA,hl2];rw[ax (by simp)]
    have hblk:∀H1 H2,rA H1 H2->gr H1 H2 ⟨s,oz (gE (λbytes=>.H (pM a bytes) 0) D++[.H (pM a bytes) 0])⟩ ⟨s,.mx (gE (λbytes=>.H (pM a bytes) 0) D++[.H (pM a bytes) 0])⟩:=λH1 H2 d=>by
     let⟨p1,p2⟩:=nF (gE (λbytes=>AV.H (pM a bytes) 0) D++[.H (pM a bytes) 0]);exact gr.eq d p2 rfl p1
    have w1:aO (gC id|||gC nx) nx=J:=by rw[bw,bt.2 (rfl:nx=nx)];simp
    have hrd:∀n∈[nm id2],aO (gC id|||gC id2) (ow n)=J:=λn L=>by
     simp only[aC]at L;subst L;rw[dw,bw,bt.2 (rfl:id2=id2)];simp
    refine ⟨_,_,_,_,_,z,?_⟩;by_cases hz:aj (α:=Int) D=0
    .have hyb:yb= .emp:=by rw[<- h2];unfold dA;rw[hz];rfl
     subst hyb;have hnil:D=[]:=dH.1 hz;subst hnil;have hroom:bh 1 j=J:=hroom;refine fC.app0 hinv hi hc hH (k:=nm nx) (y0:=.G (nm nx) 1 1) (rdl:=[nm id2]) (b0:=⟨s,oz [.H (pM a bytes) 0]⟩) (by simp only[dO,h1,h3,hrow];simp[E9,hroom]) (λn L=>?_) hnew (hblk) (λH1 H2 y d hy=>by rw[hval]at hy;cases hy;exact kr.refl d _) hrd w1 hr hinv';by_cases e2:n=nm id
     .subst e2;rw[hdead,bL,hb];rfl
     .exact hsame n L e2
    .have hyb:yb= .G (nm id) 1 (aj (α:=Int) D):=by
      rw[<- h2];unfold dA;rw[ax (by simpa using hz)]
     subst hyb;have hg:H.get (nm id)=Z ⟨s,.mx (gE (λbytes=>.H (pM a bytes) 0) D)⟩:=by
      rw[hH,bL,hb];simp only[aD,ky,uv];rw[ax (by simpa using hz)]
     have hmm:mem (nm id) [nm id2]=af:=by
      cases hx:mem (nm id) [nm id2] with
      |false=>rfl
      |true=>
       have:=aiz.1 hx;simp only[aC]at this;exact bC (uL this) q4
     refine fC.app1 hinv hi hc hH (k:=nm nx) (n0:=nm id) (y0:=.G (nm nx) 1 (aj (α:=Int) D+1)) (rdl:=[nm id,nm id2]) (b0:=⟨s,oz (gE (λbytes=>.H (pM a bytes) 0) D++[.H (pM a bytes) 0])⟩) ?_ hsame (λe=>hne (uL e)) hdead hnew hblk (λH1 H2 y d hy=>by rw[hval]at hy;cases hy;exact kr.refl d _) (λn L=>?_) (by rw[dw,bw,bt.2 (rfl:id=id)];rfl) w1 hr hinv'
     .have hlen:(gE (λbytes=>AV.H (pM a bytes) 0) D).length=aj (α:=Int) D:=cq ..;simp only[dO,h1,h3,hrow,hg];rw[aF (by
       simp only[cw,du,Bool.and_true,BC.isCells,BC.len,hroom,au,cW];exact⟨hmm,bj (by omega)⟩)]
      simp only[BC.toMx,iG (show (gE (λbytes=>AV.H (pM a bytes) 0) D).length<=aj (α:=Int) D*1 by omega)]
     .rcases a_.1 L with rfl|L
      .rw[dw,bw,bt.2 (rfl:id=id)];rfl
      .exact hrd n L
   .cases z
  .cases z
 .rename_i id bytes sb n y hv hv2;let⟨yb,h1,h2⟩:=bi hi hv;let⟨yy,h3,h4⟩:=bi hi hv2;simp only[b_,KP,ah]at h2;split at z
  .rename_i ty' T a xss hb;split at z
   .rename_i hq;simp only[au]at hq;let⟨q1,q2,q3⟩:=hq;have q1:=av q1;have q2:=av q2;have q3:=eq_of_beq q3;subst q1 q2 q3;have N:=cN z;clear z;let⟨hj,z⟩:=N;split at z
    .rename_i ys m hys;split at z
     .cases z
     .rename_i hmid;have hmid:aO m id=af:=by simpa using hmid
      have N:=cN z;clear z;let⟨hqq,z⟩:=N;simp only[au]at hqq;let⟨L,hroom⟩:=hqq;have L:=av L;let⟨rdl,h5,h6⟩:=SJ hH hys h4;generalize hxs:kX (T:=T) xss bytes=xs at*
      have hidlt:=hinv.low id _ hb;have hne:nx≠id:=by omega
      let⟨_,_,hjl⟩:=mI hj;generalize hh':(h.set id (Z (.I (.ir s T) a (mB (T:=T) xss bytes [])))).set nx (Z (.F s J T (xs++ys)))=h' at z;have A:∀sz,h'.get sz=if sz=nx then Z (.F s J T (xs++ys)) else if sz=id then Z (.I (.ir s T) a (mB (T:=T) xss bytes [])) else h.get sz:=λsz=>by rw[<- hh',PT.get_set,PT.get_set]
      have hr:bY h h':=λsz r hi=>by
       rw[bD]at hi ⊢;rw[A];by_cases e1:sz=nx
       .rw[e1,hfr]at hi;cases hi
       .rw[ax e1];by_cases e2:sz=id
        .rw[aF e2];rw[e2,hb]at hi;exact hi
        .rw[ax e2];exact hi
      have hinv':gZ h' (nx+1):=by
       refine ⟨λsz s l hil=>?_,λsz x hic=>?_⟩
       .rw[A]at hil;split at hil
        .cases hil
        .split at hil
         .cases hil
         .exact fy hr l (hinv.C sz _ l hil)
       .rw[A]at hic;split at hic
        .omega
        .split at hic
         .omega
         .have:=hinv.low sz x hic;omega
      have hsame:∀n,n≠nm nx->n≠jE id (bytes.toNat+1)->erHF h' n=erHF h n:=λn e1 e2=>by
       unfold erHF;rw[A (ow n)];by_cases f1:ow n=nx
       .rw[aF f1,f1,hfr];simp only[aD,Option.bind_none];cases hx:ix n with
        |zero=>exact bC (by rw[pw hx,f1]) e1
        |succ k=>rfl
       .rw[ax f1];by_cases f2:ow n=id
        .rw[aF f2,f2,hb];simp only[aD];cases hx:ix n with
         |zero=>rfl
         |succ k=>
          refine It (T:=T) λe3=>?_
          exact e2 (by rw[<- kP n,hx,f2,e3])
        .rw[ax f2];cases hx:h.get (ow n) with
         |none=>rfl
         |some b=>exact mf hr (λs l e=>hinv.C _ _ l (by rw[hx,e])) _ _
      have hdead:erHF h' (jE id (bytes.toNat+1))=U:=by
       rw[kG,A,ax (by omega),aF rfl];exact Nw (T:=T) hjl
      have hnew:erHF h' (nm nx)=if (xs++ys).length==0 then U else Z ⟨s,.fz ((xs++ys).flatMap (bM T))⟩:=by
       rw[bL,A,aF rfl];rfl
      have hval:b_ h' (.G nx)=Z (dA J nx T.size (xs++ys).length):=by
       simp only[b_,bD,A,bq,aD,iM]
      have w1:aO (gC id|||gC nx) nx=J:=by rw[bw,bt.2 (rfl:nx=nx)];simp
      have hrd:∀n∈rdl,aO (gC id|||m) (ow n)=J:=λn L=>by
       obtain⟨sz,rfl,hm⟩:=h6 n L;rw[dw,bw,hm];simp
      refine ⟨_,_,_,_,_,z,?_⟩;by_cases hz:n=0
      .subst hz;have hyb:yb= .emp:=by rw[<- h2];rfl
       subst hyb;have hnil:xs=[]:=dH.1 L.symm;have hold:erHF h (jE id (bytes.toNat+1))=U:=by
        rw[kG,hb];show rh bytes.toNat s T xss=U;unfold rh;rw[Vo hj,hxs,hnil];rfl
       have hsame0:∀n,n≠nm nx->erHF h' n=erHF h n:=λn L=>by
        by_cases e2:n=jE id (bytes.toNat+1)
        .subst e2;rw[hdead,hold]
        .exact hsame n L e2
       rw[b9]at hroom;rw[hnil,kW]at hnew hval;have ha0:dO (.app s T.size j ty c) (DK e h) H (nm nx)=if aj ys==0 then Z ⟨.emp,rdl,[],[],[]⟩ else Z ⟨.G (nm nx) T.size (aj ys),rdl,[nm nx],[(nm nx,⟨s,oz ((ys.flatMap (bM T)).map .f)⟩)],[nm nx]⟩:=by
        simp only[dO,h1,h3,h5,E9,hroom,ip,bq]
       by_cases hl:aj ys=0
       .rw[hl]at ha0;simp only[cw,bq]at ha0;have hnil2:ys=[]:=dH.1 hl;refine fC.mk' hc hH ha0 [] (by simp) (λn _=>?_) (by simp) (λH1 H2 d _ _ _=>⟨by simp,λy hy=>?_⟩) hrd (by simp) (by simp) hr hinv' (by omega)
        .by_cases e1:n=nm nx
         .subst e1;rw[hnew,hnil2,bL,hfr];rfl
         .exact hsame0 n e1
        .rw[hval,hnil2]at hy;cases hy;exact kr.refl d _
       .rw[ax (by simpa using hl),yK]at ha0;rw[ax (by simpa using hl)]at hnew;refine fC.app0 hinv hi hc hH ha0 hsame0 hnew (λH1 H2 d=>gr.refl d _) (λH1 H2 y d hy=>?_) hrd w1 hr hinv';rw[hval]at hy;unfold dA at hy;rw[ax (by simpa using hl)]at hy;cases hy;exact kr.refl d _
      .have hyb:yb= .G (jE id (bytes.toNat+1)) T.size n:=by rw[<- h2];unfold uK;rw[ax (by simpa using hz)]
       subst hyb;have hg:H.get (jE id (bytes.toNat+1))=Z ⟨s,.fz (xs.flatMap (bM T))⟩:=by rw[hH,<-hxs];exact ac9 hb hj (by rw[hxs];omega)
       have fl:=fx (bu T) xs;have tk:(xs.flatMap (bM T)).take (n*T.size)=xs.flatMap (bM T):=by rw[L,<-fl,cY]
       have hmem:mem (jE id (bytes.toNat+1)) rdl=af:=by
        cases hx:mem (jE id (bytes.toNat+1)) rdl with
        |false=>rfl
        |true=>
         let⟨sz,e,hm⟩:=h6 _ (aiz.1 hx);have:=(vp e).2;omega
       have ha0:dO (.app s T.size j ty c) (DK e h) H (nm nx)=Z ⟨.G (nm nx) T.size (n+ys.length),jE id (bytes.toNat+1)::rdl,[nm nx,jE id (bytes.toNat+1)],[(nm nx,⟨s,.fz ((xs++ys).flatMap (bM T))⟩)],[nm nx]⟩:=by
        have hcnd:(T.size==T.size&& !(mem (jE id (bytes.toNat+1)) rdl)&&(BC.fz (xs.flatMap (bM T))).isCells&&eK (n*T.size) (BC.fz (xs.flatMap (bM T))).len&&s==s&&bh (n+ys.length) j)=J:=by
         have:eK (n*T.size) (BC.fz (xs.flatMap (bM T))).len=J:=bj (by simp only[BC.len];rw[L];omega);rw[this,hmem,hroom];simp[BC.isCells]
        simp only[dO,h1,h3,h5,hg,hcnd,bq,BC.toMx,<-gI,tk,<-cr,yK,Ko]
       have hl3:(xs++ys).length=n+ys.length:=by rw[bz,L]
       rw[ax (by simp only[c5];omega)]at hnew;refine fC.app1 hinv hi hc hH ha0 hsame (λe=>by have:=(vp e).2;omega) hdead hnew (λH1 H2 d=>gr.refl d _) (λH1 H2 y d hy=>?_) (λn' hn'=>?_) (by rw[iN,bw,bt.2 (rfl:id=id)];rfl) w1 hr hinv'
       .rw[hval,hl3]at hy;unfold dA at hy;rw[ax (by simp only[du,c5];omega)]at hy;cases hy;exact kr.refl d _
       .rcases a_.1 hn' with rfl|hn'
        .rw[iN,bw,bt.2 (rfl:id=id)];rfl
        .exact hrd _ hn'
    .cases z
   .cases z
  .cases z
 .rename_i b id bytes sb n _ hv hv2;let⟨yb,h1,h2⟩:=bi hi hv;let⟨yy,h3,h4⟩:=bi hi hv2;simp only[b_,KP,ah]at h4;split at z
  .rename_i tyi T a xss hb;split at z
   .rename_i hq;simp only[au]at hq;let⟨q1,q2⟩:=hq;have q1:=av q1;have q2:=av q2;subst q1 q2;have N:=cN z;clear z;let⟨hj,z⟩:=N;have N:=cN z;clear z;let⟨L,z⟩:=N;have L:=av L;generalize hxs:kX (T:=T) xss bytes=xs at*
    by_cases hz:n=0
    .have hyy:yy= .emp:=by rw[<- h4];unfold uK;rw[aF (by simpa using hz)]
     have hnil:xs=[]:=dH.1 (by omega);subst hyy hnil;exact Uz hinv hi hH (rdl:=[]) hc h1 h2 h3 rfl (by simp) z
    .have hyy:yy= .G (jE id (bytes.toNat+1)) T.size n:=by rw[<- h4];unfold uK;rw[ax (by simpa using hz)]
     subst hyy;have hg:H.get (jE id (bytes.toNat+1))=Z ⟨tyi,.fz (xs.flatMap (bM T))⟩:=by rw[hH,<-hxs];exact ac9 hb hj (by rw[hxs];omega)
     have fl:=fx (bu T) xs;have tk:(xs.flatMap (bM T)).take (n*T.size)=xs.flatMap (bM T):=by rw[L,<-fl,cY]
     have hb2:eK (n*T.size) (xs.flatMap (bM T)).length=J:=bj (by rw[L];omega);refine Uz hinv hi hH (rdl:=[jE id (bytes.toNat+1)]) hc h1 h2 h3 ?_ (λq hq=>by simp only[aC]at hq;subst hq;rw[iN];exact bt.2 rfl) z;simp only[AV.row?,cw,bq,hg,BC.isCells,du,BC.len,hb2,BC.toMx];rw[<- gI,tk,L]
   .cases z
  .cases z
 .cases z
def avo {l:Operand} (hc:cV P o.op=Z (.zh s i j L l c)) (A:pG ca e h nx K (.zh s i j L l c)=Z r):jM P o af e h nx K r:=by
 let⟨H,hH⟩:=gM h;have hfr:=hinv.fresh;simp only[pG]at A;split at A
 .rename_i q T k a k' b hty hv hv2;split at A
  .rename_i hq;simp only[au]at hq;let⟨q1,q2⟩:=hq;have q1:=av q1;subst q1;have hz:L=[.slice U 0 0]:=by
    unfold ajb at q2
    grind
   subst hz;let⟨hcond,A⟩:=cN A;let⟨y,h1,h2⟩:=bi hi hv;let⟨y2,h3,h4⟩:=bi hi hv2;simp[b_,ah]at h2 h4;subst h2 h4;generalize hn:aN a=n at A;have ha0:dO (.zh s 1 j [.slice U 0 0] l c) (DK e h) H (nm nx)=Z ⟨.G (nm nx) 1 n,[],[nm nx],[(nm nx,⟨s,.fz (repl [.slice U 0 0] n)⟩)],[nm nx]⟩:=by
    simp[dO,h1,h3,gz,hcond,bq,hn]
   generalize hh':(h.set nx (Z (.I (.rr s T.size) (nx+1) (aG n (0:Int))))).set (nx+1) (Z (.I (.ir (stN q) T) 0 (aG n ([]:Y T.den))))=h' at A;have hg:∀sz,h'.get sz=if sz=nx+1 then Z (.I (.ir (stN q) T) 0 (aG n ([]:Y T.den))) else if sz=nx then Z (.I (.rr s T.size) (nx+1) (aG n (0:Int))) else h.get sz:=λsz=>by
    rw[<- hh',PT.get_set,PT.get_set]
   have hfr2:h.get (nx+1)=U:=by
    cases D:h.get (nx+1) with
    |none=>rfl
    |some b=>have:=hinv.low _ b D;omega
   have hr:bY h h':=λsz r hi=>by
    rw[bD]at hi ⊢
    grind
   have hl:aj (α:=Int) (aG n (0:Int))=n:=dy ..;have hall:∀(m k:Nat),lM (nx+1) T.size k (aG m (0:Int))=aG m .emp:=λm=>by
    induction m with
    |zero=>intro k;rfl
    |succ m ih=>intro k;rw[yi,yi];simp[lM,ih];rfl
   have hnew:erHF h' (nm nx)=Z ⟨s,.mx (aG n .emp)⟩:=by
    rw[bL,hg,ax (by omega),aF rfl];show Z (kx.mk s (.mx (lM (nx+1) T.size 0 (aG n (0:Int)))))=_;rw[hall]
   refine ⟨_,_,_,_,_,A,fC.mk' hc hH ha0 [nm nx] (λsz hi=>hi) (λm hm=>?_) (λsz hi b' hb'=>?_) (λH1 H2 d hw1 _ hw2=>⟨λsz hi b b' N z=>?_,λy hy=>?_⟩) (by simp) (λm hm=>?_) (λm hm=>?_) hr ⟨λsz s l hil=>?_,λsz c' hic=>?_⟩ (by omega)⟩
   .have hm:m≠nm nx:=by simpa using hm
    unfold erHF;rw[hg];by_cases f0:ow m=nx+1
    .rw[aF f0,f0,hfr2];cases ix m with
     |zero=>rfl
     |succ k=>
      show rh k (stN q) T (aG n ([]:Y T.den))=U;unfold rh;rw[fW];split<;>rfl
    .rw[ax f0];by_cases f1:ow m=nx
     .rw[aF f1,f1,hfr];cases D:ix m with
      |zero=>exact bC (by rw[pw D,f1]) hm
      |succ k=>rfl
     .rw[ax f1];cases D:h.get (ow m) with
      |none=>rfl
      |some b=>exact mf hr (λs l e=>hinv.C _ _ l (by rw[D,e])) _ _
   .simp[aC]at hi;subst hi;exact⟨_,by rw[aF (by simp)];exact fg _ _⟩
   .simp[aC]at hi;subst hi;rw[hw1 _ (by simp),fg]at N;rw[hw2 _ (by simp),hnew]at z;simp[ah]at N z;subst N z;refine gr.C rfl rfl ?_ λx D=>?_
    .simp[BC.toMx];exact Vj d n
    .simp only[BC.toMx]at D;rw[List.mem_replicate]at D;rw[D.2];rfl
   .simp only[b_,bD,hg,bq]at hy;rw[ax (by omega)]at hy;simp only[aD,iM,su,dA,kN,cZ,dZ,ah]at hy;subst hy;rw[hl];exact kr.refl d _
   .simp[aC]at hm;subst hm;rw[dw];exact bt.2 rfl
   .simp[aC]at hm;subst hm;rw[dw];omega
   .rw[hg]at hil;split at hil
    .cases hil
    .split at hil
     .cases hil
     .exact fy hr l (hinv.C sz _ l hil)
   .rw[hg]at hic;split at hic
    .omega
    .split at hic
     .omega
     .have:=hinv.low sz c' hic;omega
  .cases A
 .cases A
end ops
mutual
def FV.fl:FV->Bool
 |.raw _=>J
 |.agg l=>FV.flL l
 |.sl _ _=>af
 |.H _ _=>af
def FV.flL:Y FV->Bool
 |[]=>J
 |x::r=>x.fl&&FV.flL r
end
def acj:∀{l:Y FV},FV.flL l=J->∀x∈l,x.fl=J
 |[],_,x,z=>by cases z
 |y::l,h,x,z=>by
  simp[FV.flL,au]at h;rcases a_.1 z with rfl|z
  .exact h.1
  .exact acj h.2 x z
def ajy:∀{l:Y FV},(∀x∈l,x.fl=J)->FV.flL l=J
 |[],_=>rfl
 |y::l,h=>by simp[FV.flL,au];exact⟨h y (by simp),ajy λx z=>h x (by grind)⟩
def nN.flat {O':Nat->Prop} {w':World} {x:FV} (h:nN O w x v):x.fl=J->nN O' w' x v:=by
 induction h with
 |raw v=>intro _;exact .raw v
 |agg cells vs hl hcl D z=>intro h;exact .agg cells vs hl hcl λj x v A N=>z j x v A N (acj h x (ba A))
 |_=>intro h;cases h
mutual
def AV.fl:AV->Bool
 |.f x=>x.fl
 |.emp=>J
 |.qw=>J
 |.agg l|.qg l=>AV.flL l
 |.H _ _=>af
 |.sl _ _ _=>af
 |.G _ _ _=>af
 |.mp _=>af
 |.qv _ l=>AV.flL l
def AV.flL:Y AV->Bool
 |[]=>J
 |x::r=>x.fl&&AV.flL r
end
def Hn:∀{l:Y AV},AV.flL l=J->∀x∈l,x.fl=J
 |[],_,x,z=>by cases z
 |y::l,h,x,z=>by
  simp[AV.flL,au]at h;rcases a_.1 z with rfl|z
  .exact h.1
  .exact Hn h.2 x z
def ade:∀{l:Y AV},(∀x∈l,x.fl=J)->AV.flL l=J
 |[],_=>rfl
 |y::l,h=>by simp[AV.flL,au];exact⟨h y (by simp),ade λx z=>h x (by grind)⟩
def cz.flat {φ':PM} {O':Nat->Prop} {w':World} (h:cz V O w y v):y.fl=J->cz φ' O' w' y v:=by
 induction h with
 |f h=>intro hf;exact .f (h.flat hf)
 |emp=>intro _;exact .emp
 |qw=>intro _;exact .qw
 |agg L hcl N A=>intro hf;exact .agg L hcl λj y v z D=>A j y v z D (Hn hf y (ba z))
 |qg L N A=>intro hf;exact .qg L λj y v z D=>A j y v z D (Hn hf y (ba z))
 |qv L N A=>intro hf;exact .qv L λj y v z D=>A j y v z D (Hn hf y (ba z))
 |_=>intro hf;cases hf
mutual
def at5 (γ:Nat->Nat):∀x:AV,x.fl=J->x.qx γ=x
 |.f x,_|.emp,_|.qw,_=>rfl
 |.agg l,h|.qg l,h=>by simp[AV.qx];rw[Gv γ l h]
 |.H _ _,h|.sl _ _ _,h|.G _ _ _,h|.mp _,h=>by cases h
 |.qv _ l,h=>by simp[AV.qx];rw[Gv γ l h]
def Gv (γ:Nat->Nat):∀l:Y AV,AV.flL l=J->AV.renL γ l=l
 |[],_=>rfl
 |x::r,h=>by
  simp[AV.flL,au]at h;rw[AV.renL,at5 γ x h.1,Gv γ r h.2]
end
def Dm:∀(T:Ty),T.flat=J->∀x:T.den,∀y∈bM T x,y.fl=J
 |.int _,_,x,y,z|.bool,_,x,y,z|.str,_,x,y,z=>by simp[bM,aC]at z;subst z;rfl
 |.sl _,h,x,y,z=>by cases h
 |.st t,h,x,y,z=>Dm t h x y z
 |.pr a b,h,x,y,z=>by
  simp[Ty.flat,au]at h;simp[bM,bO]at z;exact z.elim (Dm a h.1 x.1 y) (Dm b h.2 x.2 y)
 |.un,_,x,y,z=>by simp[bM]at z
 |.ex,h,_,_,_|.sm,h,_,_,_=>by cases h
def aod (T:Ty) (h:T.flat=J) (x:T.den):(gz T x).fl=J:=by
 cases z:T.one with
 |true=>
  have:=Dm T h x (gz T x) (by rw[(NK T x z).1];simp);exact this
 |false=>rw[ux T x z];exact ajy (Dm T h x)
def UZ (a b:Ty):(spr a b).flat=(a.flat&&b.flat):=by
 cases a<;>cases b<;>simp[spr,Kr,Ty.flat]
def MD :∀{a b:Y TV},rq i (a++b)=J->rq i a=J/\rq i b=J
 |[],b,h=>⟨rfl,h⟩
 |x::r,b,h=>by
  simp[gJ,rq,au]at h ⊢;let⟨h1,z⟩:=MD h.2;exact⟨⟨h.1,h1⟩,z⟩
def abh {z:Y p?} (h:rq 0 (z.map λp=>.H (g p.1) p.2)=J):z=[]:=by
 cases z with
 |nil=>rfl
 |cons p r=>simp[rq,Jj]at h
mutual
def amy {g:Nat->Nat} {h:aZ}:∀(p:PV) (x:p.ty.den) (cs:Y TV) (l:Y AV),p.ty.flat=J->nJ g p x=Z cs->rq 0 cs=J->cM h cs=Z l->∀y∈l,y.fl=J
 |.d T,x,cs,l,hf,hp,_,hl,y,hy=>by
  have:=(mP h 40 T x cs hp).1;rw[hl]at this;cases this;obtain⟨q,hq,rfl⟩:=cu.1 hy;exact Dm T hf x q hq
 |.H i q,x,cs,l,hf,hp,hlt,hl,y,hy|.qy i q z,x,cs,l,hf,hp,hlt,hl,y,hy=>by
  simp only[nJ,ah]at hp;subst hp;simp[rq,Jj]at hlt
 |.qv q ps,x,cs,l,hf,hp,hlt,hl,y,hy=>by
  simp only[nJ,ah]at hp;subst hp;simp only[rq,Jj,au]at hlt;have:=abh hlt.1;subst this;simp only[cM,b_,C3,ah]at hl;subst hl;rw[aC]at hy;subst hy;rfl
 |.ob i q,x,cs,l,hf,hp,hlt,hl,y,hy|.nr i q,x,cs,l,hf,hp,hlt,hl,y,hy|.G i,x,cs,l,hf,hp,hlt,hl,y,hy|.mp i,x,cs,l,hf,hp,hlt,hl,y,hy=>by
  simp only[nJ,ah]at hp;subst hp;simp[rq,Jj]at hlt
 |.nil,x,cs,l,hf,hp,hlt,hl,y,hy|.emp,x,cs,l,hf,hp,hlt,hl,y,hy=>by
  simp only[nJ,ah]at hp;subst hp;simp only[cM,b_,ah]at hl;subst hl;simp only[aC]at hy;subst hy;rfl
 |.agg ps,x,cs,l,hf,hp,hlt,hl,y,hy=>Me ps x cs l hf hp hlt hl y hy
def Me {g:Nat->Nat} {h:aZ}:∀(ps:Y PV) (x:(PV.tyL ps).den) (cs:Y TV) (l:Y AV),(PV.tyL ps).flat=J->sM g ps x=Z cs->rq 0 cs=J->cM h cs=Z l->∀y∈l,y.fl=J
 |[],x,cs,l,hf,hp,hlt,hl,y,hy=>by
  simp only[sM,ah]at hp;subst hp;simp only[cM,ah]at hl;subst hl;cases hy
 |p::ps,x,cs,l,hf,hp,hlt,hl,y,hy=>by
  simp only[PV.tyL]at hf;rw[UZ,au]at hf;simp only[sM]at hp;split at hp
  .rename_i a ha;split at hp
   .rename_i b hb;cases hp;obtain⟨a',b',rfl,e1,e2⟩:=Ff hl;have hsp:=MD hlt;rcases bO.1 hy with hy|hy
    .exact amy p _ a a' hf.1 ha hsp.1 e1 y hy
    .exact Me ps _ b b' hf.2 hb hsp.2 e2 y hy
   .cases hp
  .cases hp
end
def amw {p:PV} {x:p.ty.den} (hf:p.ty.flat=J) (hp:rG g p x=Z u) (hlt:Jj 0 u=J) (A:b_ h u=Z y):y.fl=J:=by
 cases p with
 |d T=>
  simp only[rG,ah]at hp;subst hp;simp only[b_,ah]at A;subst A;exact aod T hf x
 |agg L=>
  simp only[rG]at hp;split at hp
  .rename_i l N;cases hp;simp only[b_]at A;split at A
   next l' D=>cases A;exact ade (Me L _ l l' hf N hlt D)
   .cases A
  .cases hp
 |qv q L=>
  simp only[rG,ah]at hp;subst hp;have:=abh hlt;subst this;simp only[b_,cM,C3,ah]at A;subst A;rfl
 |nil|emp=>simp only[rG,ah]at hp;subst hp;simp only[b_,ah]at A;subst A;rfl
 |_=>simp only[rG,ah]at hp;subst hp;simp[Jj]at hlt
def Vr :∀(A:Y PV) (x:(PV.tyL A).den) (z:Y TV) (l:Y AV),(PV.tyL A).flat=J->rF g A x=Z z->rq 0 z=J->cM h z=Z l->AV.flL l=J
 |[],x,z,l,hf,hp,hlt,D=>by
  simp[rF,ah]at hp;subst hp;simp[cM,ah]at D;subst D;rfl
 |p::A,x,z,l,hf,hp,hlt,D=>by
  simp[PV.tyL]at hf;rw[UZ,au]at hf;simp[rF]at hp;split at hp
  .rename_i a ha;split at hp
   next b N=>simp[ah]at hp;subst hp;obtain⟨y,L,rfl,e1,e2⟩:=c9 D;simp[rq,au]at hlt;simp[AV.flL,au];exact⟨amw hf.1 ha hlt.1 e1,Vr A _ b L hf.2 N hlt.2 e2⟩
   .cases hp
  .cases hp
def ami:∀{l:Y AV},AV.flL l=J->(Fu l).fl=J
 |[],_=>rfl
 |[x],h=>by simp only[AV.flL,au]at h;exact h.1
 |x::y::r,h=>h
def aor {o:Oper} {e:hX} {c:cA} (hinv:gZ h i) (sp:rn P f c) {x:c.pre.ty.den} {σ:PT Nat} {sm:Nat} (A:LU 0 c.pre r h x j σ sm) {vs:Y TV} {hp:aZ} {l1:Y (M fk)} (I:pH c.pre x vs hp l1) {y:c.post.ty.den} (hm:c.m x=Z y) {rs:Y TV} {hq:aZ} {l2:Y (M fk)} (la:pH c.post y rs hq l2) (hp0:l! c.pre.bs=0) (hq0:l! c.post.bs=0) (hfl:(PV.tyL c.post.vs).flat=J)
 (g:Nat->Nat) (hla:cM h r=Z B)
 (hexec:∀(φ:PM) (E:Nat->Prop) (h':HF) (w:World) (a:Act),(∀t,.tmp t∈o.op.operands->∀y,fM e h t=Z y->cz φ (tot E φ h') w y (a.tmps.getD t undef))->sE φ E h' w->∃us:ξ,(execOp a.eval o).run P w= .ok (.enter f us.toArray) w/\lK φ (tot E φ h') w B us):
 fC P o af e h i (Vh (lx g rs)) j 0 h i:=by
 let⟨x1,m1,x2,m2,hx,hmm,gv,gb⟩:=A.ex;have hmr:dP h j:=by rw[hmm];exact (TO _ _ _ _ gv).or (TQ _ _ _ _ gb)
 have pvg:rF (im σ) c.pre.vs x1=Z (lx (im σ) vs):=by
  have N:=vK (im σ) c.pre.vs x1;have h4:=I.pv;rw[hx,vD]at h4;rw[N,h4];rfl
 let⟨lr,hlr⟩:=fF hq rs la.ok;let⟨lp,hlp⟩:=fF hp vs I.ok;have hfl':AV.flL lr=J:=Vr c.post.vs _ rs lr hfl la.pv (by rw[<- hq0];exact la.lt) hlr;have hpe:∀nx,hp.get nx=U:=λnx=>by
  cases hb:hp.get nx with
  |none=>rfl
  |some b=>have:=I.lt_len hb;omega
 have hqe:∀nx,hq.get nx=U:=λnx=>by
  cases hb:hq.get nx with
  |none=>rfl
  |some b=>have:=la.lt_len hb;omega
 have rows_hp:∀nx l,eR hp nx=Z l->eR (dU j h) (im σ nx)=Z l:=λnx l D=>by rw[bD,hpe]at D;cases D
 have rows_hq:∀nx l,eR hq nx=Z l->eR h (g nx)=Z l:=λnx l D=>by rw[bD,hqe]at D;cases D
 have rows_in:AO (dU j h) h:=λm l D=>by
  rw[bD]at D ⊢;rw[iQ]at D;split at D
  next ht=>let⟨ty,p,T,xs,hb⟩:=hmr m ht;rw[hb]at D ⊢;exact D
  .exact D
 have hOpT:gO P o (fM e h) (erHF h) ⟨Fu lr,Jh j,[],λ_=>U,[]⟩:=by
  intro φ E h' w a hrd hwr hops hrep hN;let⟨us,hrun,hrel⟩:=hexec φ E h' w a hops hrep
  let Hv:HF:=λn=>if n∈Jh j then U else h' n
  have Hv_in:∀n,n∈Jh j->Hv n=U:=λn L=>by grind
  have Hv_out:∀n,n∉Jh j->Hv n=h' n:=λn L=>by grind
  have hd:rA h' Hv:=λn b hb=>by grind
  have gvv:Fm h h' Hv j:=λnx hi=>⟨hrd _ (mD.2 hi),Hv_in _ (mD.2 hi)⟩
  have V:O5 h' Hv:=⟨hd,λn b b' hb hb'=>by
   by_cases L:n∈Jh j
   .grind
   .rw[Hv_out n L,hb]at hb';cases hb';exact gr.refl hd b⟩
  have hrepv:=V.zk hrep;have hlpg:cM (dU j h) (lx (im σ) vs)=Z (AV.renL (pJ (im σ)) lp):=qB rows_hp vs lp hlp;have hrel1:lK φ (tot E φ Hv) w (AV.renL (pJ (im σ)) lp) us:=
   lK.le hrep (Gs hd rows_in c.pre.vs r x1 m1 _ B _ gv pvg hla hlpg (λnx hi=>gvv nx (by grind))) hrel
  let E':Nat->Prop:=λk=>E k\/∃n b,Hv n=Z b/\φ n=Z k
  have T:apd c.pre x vs hp (im σ) φ E E' Hv w:=by
   refine sE.toId I (λa b ha=>by omega) hrepv (λn yb L=>by have:=(I.erHF L).1;omega) ?_ (λn k y L=>by have:=(I.erHF L).1;omega) ?_
   .rintro k (hE|⟨n,b,h1,N⟩)
    .exact .inl hE
    .exact .inr ⟨n,b,h1,N⟩
   .rintro k (hE|⟨n,b,h1,N⟩)
    .exact hrepv.el k hE
    .obtain⟨k',q1,_,ob,q3,_⟩:=hrepv.at_ n b h1
     grind
  have hcalls:=sp.calls x y hm vs hp l1 rs hq l2 lp lr I la hlp hlr (φ1 (l! c.pre.bs) (im σ) φ) E' w us T.zk (lK.toId T.val (vy vs lp I.lt hlp) hrel1) (λn k hk=>(zZ hk).1);unfold Lk;rw[hrun];refine Calls.mono hcalls ?_;rintro en w' ⟨v,φc',rfl,hext,hown,hnm,rp,rv'⟩;have hno:∀k,¬own (φ1 (l! c.pre.bs) (im σ) φ) (erHF hp) k:=by
   rintro k ⟨n,b,h1,_⟩;let⟨bb,N,_⟩:=iR h1;rw[hpe]at N;cases N
  have mv:jW φ φ h' h' w w':=⟨λ_ _ h=>h,hext.mono λk hk=>bC hk (hno k),λ_ _ h=>h⟩
  refine ⟨v,φ,rfl,?_,λ_ _ h=>.inl h,?_,?_⟩
  .rw[vR];exact mv
  .rw[vR];refine hrep.moved mv λk hk=>?_
   let⟨n,b,h1,N⟩:=hk;let⟨k',q1,_,ob,q3,_⟩:=hrep.at_ n b h1;rw[N]at q1;cases q1;exact hext.jd k (dD.1 q3).1 (hno k)
  .exact rv'.flat (ami hfl')
 have hrsg:cM h (lx g rs)=Z (AV.renL (pJ g) lr):=qB rows_hq rs lr hlr;refine ⟨⟨_,hOpT,λz hz=>?_,?_,λn L=>?_,by simp,by simp⟩,λ_ _ h=>h,hinv,bI _,nofun⟩
 .rw[abe hrsg,Gv _ lr hfl']at hz;cases hz;rfl
 .exact vR _ _
 .obtain⟨nx,rfl,hi⟩:=oZ.1 L;rw[dw];exact hi
def cA.full (c:cA):cA:=⟨c.pre,⟨c.post.vs,c.pre.bs⟩,λx=>aA (c.m x) λy=>Z (mkp (PV.tyL c.post.vs) (PB.tyL c.pre.bs) (UN _ _ y) (Sy _ _ x))⟩
def aM (P:Program) (f:FuncId) (c:cA):Prop:=if eK (l! c.pre.bs) (l! c.post.bs)=J then rn P f c else rn P f c.full
def rn.toC {c:cA} (h:rn P f c) (z:eK (l! c.pre.bs) (l! c.post.bs)=J):aM P f c:=by
 unfold aM;rw[aF z];exact h
def aM.holds {c:cA} (h:aM P f c) (z:eK (l! c.pre.bs) (l! c.post.bs)=J):rn P f c:=by
 unfold aM at h;rw[aF z]at h;exact h
def ank (a b:Ty) (z:(spr a b).den):mkp a b (UN a b z) (Sy a b z)=z:=by cases a<;>cases b<;>rfl
open Classical in
def roM {pre:Tm} {vs:Y PV} (m:pre.ty.den->M (Tm.ty ⟨vs,pre.bs⟩).den) (x:pre.ty.den):M (Tm.ty ⟨vs,[]⟩).den:=
 aA (m x) λy=>if Sy (PV.tyL vs) (PB.tyL pre.bs) y=Sy _ _ x then Z (mkp (PV.tyL vs) (PB.tyL []) (UN (PV.tyL vs) (PB.tyL pre.bs) y) ()) else U
def aM.ro {P:Program} {f:FuncId} {pre:Tm} {vs:Y PV} {m:pre.ty.den->M (Tm.ty ⟨vs,pre.bs⟩).den} {m':pre.ty.den->M (Tm.ty ⟨vs,[]⟩).den} (h:rn P f ⟨pre,⟨vs,pre.bs⟩,m⟩) (hb:eK (l! pre.bs) 0=af) (hs:∀x y,m' x=Z y->roM m x=Z y):aM P f ⟨pre,⟨vs,[]⟩,m'⟩:=by
 unfold aM;rw[ax (by grind)];refine ⟨h.zm,λx y hxy=>?_⟩;refine h.calls x y ?_;let⟨z,L,hzy⟩:=d_ hxy;have h1:=hs x z L;let⟨y0,N,D⟩:=d_ h1;split at D
 .rename_i heq;have D:=fO D;have hzy:=fO hzy;subst D;have A:mkp (PV.tyL vs) (PB.tyL pre.bs) (UN (PV.tyL vs) (PB.tyL pre.bs) y0) (Sy (PV.tyL pre.vs) (PB.tyL pre.bs) x)=y:=(e_ (λq=>mkp (PV.tyL vs) (PB.tyL pre.bs) q (Sy (PV.tyL pre.vs) (PB.tyL pre.bs) x)) (vD (PV.tyL vs) (PB.tyL []) _ ()).symm).trans hzy;rw[<- heq]at A;have:=(ank (PV.tyL vs) (PB.tyL pre.bs) y0).symm.trans A
  grind
 .cases D
def fC.drop {o:Oper} {e:hX} {h':aZ} {rd wr W wr':Nat} (t:fC P o af e h i u rd wr h' j) (hW:∀nx,aO W nx=J->(∀n,ow n=nx->erHF h' n=erHF h n)/\aO rd nx=J) (hw:∀nx,aO wr nx=J->aO W nx=J\/aO wr' nx=J):fC P o af e h i u rd wr' h' j:=by
 let⟨⟨f,h1,h2,h3,h4,h5,L⟩,r,nx,g,st⟩:=t;have hup:∀H:HF,(∀n∈f.wr,H n=erHF h n)->fw H (f.wr.filter λn=> !(aO W (ow n))) f.nw=fw H f.wr f.nw:=λH hH=>by
  funext n;unfold fw;by_cases z:n∈f.wr
  .by_cases hb:aO W (ow n)=J
   .rw[ax (by grind),aF z];have:=congrFun h3 n;unfold fw at this
    grind
   .grind
  .grind
 refine ⟨⟨⟨f.val,f.rd++(f.wr.filter λn=>aO W (ow n)),f.wr.filter λn=> !(aO W (ow n)),f.nw,f.N⟩,?_,h2,?_,λn z=>?_,λn z=>?_,L⟩,r,nx,g,nofun⟩
 .intro φ E H w a hrd hwr hops hrep D;have k1:∀nx∈f.rd,H nx=erHF h nx:=λnx hi=>hrd nx (eV _ hi)
  have k2:∀nx∈f.wr,H nx=erHF h nx:=λnx hi=>by grind
  have:=h1 φ E H w a k1 k2 hops hrep D
  grind
 .grind
 .grind
 .grind
mutual
def aj2 {n n':Nat} (hle:n<=n'):∀(v:TV),Jj n v=J->Jj n' v=J
 |.G id,h|.zl id _,h|.zg id _ _ _,h|.H id _,h|.qy id _ _,h|.mp id,h=>by simp[Jj,Po]at h ⊢;omega
 |.agg l,h|.qg l,h|.qv _ l,h=>yN hle l h
 |.f _ _,_|.zd _ _ _ _ _,_|.emp,_|.nil,_|.undef,_|.np,_|.qw,_=>rfl
 |.sb s,h=>by simp[Jj,Po]at h ⊢;omega
def yN {n n':Nat} (hle:n<=n'):∀(l:Y TV),rq n l=J->rq n' l=J
 |[],_=>rfl
 |x::r,h=>by
  simp[rq,au]at h ⊢;exact⟨aj2 hle x h.1,yN hle r h.2⟩
end
def RD {g g':Nat->Nat} {h:aZ}:∀(bs:Y PB) (i:Nat) (x:(PB.tyL bs).den) (m:Nat),LS bs=J->Gu g h i bs=Z (x,m)->∃l,qT g' bs x=Z l/\l! l=l! bs/\∀j,j<l! bs->∃ty p T xs,l[j]? =Z (Z (.F ty p T xs))/\h.get (g (i+j))=Z (.F ty p T xs)
 |[],i,x,m,_,A=>⟨[],rfl,rfl,λj L=>by simp at L⟩
 |.F ty p T::r,i,x,m,D,A=>by
  simp[Gu]at A;split at A
  .rename_i x1 m1 h1;split at A
   .rename_i N m2 h2;obtain⟨rfl,rfl⟩:=A;let⟨l,q1,q2,q3⟩:=RD (g:=g) (g':=g') (h:=h) r (i+1) N m2 D h2;simp only[Fd]at h1;split at h1
    .rename_i ty' p' S xs hb;split at h1
     .rename_i hc;simp[au,c5]at hc;split at h1
      .rename_i z hz;let⟨es,ez⟩:=jA hz;refine ⟨Z (.F ty p T x1)::l,?_,by simp[q2],λj L=>?_⟩
       .simp[qT];rw[vD,xh,q1];rfl
       .grind
      .cases h1
     .cases h1
    .cases h1
   .cases A
  .cases A
 |.qf _ _::r,i,x,m,D,A|.C _ _::r,i,x,m,D,A|.mp _ _::r,i,x,m,D,A|.qk::r,i,x,m,D,A=>by cases D
def Jg:∀{bs:Y PB},LS bs=J->EZ bs=J
 |[],_=>rfl
 |.F _ _ _::r,h=>Jg (bs:=r) h
 |.qf _ _::r,h|.C _ _::r,h|.mp _ _::r,h|.qk::r,h=>by cases h
def I_ {z:aZ} :∀(n:Nat),(∀i,i<n->z.get (g i)=h.get (g i))->vT h z g n=J
 |0,_=>rfl
 |n+1,A=>by
  simp[vT,au];refine ⟨?_,I_ n λi hi=>A i (by omega)⟩;have:eR z (g n)=eR h (g n):=by rw[bD,bD,A n (by omega)]
  rw[this];cases eR h (g n) with
  |none=>rfl
  |some q=>let⟨p,s,k⟩:=q;simp
def Hw (P:Program) (con:FuncId->M cA):Prop:=∀f c,con f=Z c->aM P (f%65536) c
def U5 (hf:f<65536):∀l:Y TV,amp f l%65536=f
 |[]=>xd hf
 |x::r=>by
  have z:=U5 hf r;unfold amp;split
  next he=>cases he
  .rw[Nat.add_mul_mod_self_left];exact xd hf
  .rw[Nat.add_mul_mod_self_left];exact xd hf
  next he=>cases he;exact z
variable {X:FuncId->M cA}
def aon (hcon:Hw P X) {c:cA} (h:atd X f r=Z c):aM P f c:=by
 unfold atd at h;split at h
 .rename_i hf;have hf:=Uw hf;split at h
  .rename_i A z;simp[ah]at h;subst h;have:=hcon _ _ z
   rwa [U5 hf]at this
  .have:=hcon _ _ h
   rwa [xd hf]at this
 .cases h
def ad4 (hcon:Hw P X) {o:Oper} {e:hX} {K:KO R} {l:R} (hinv:gZ h i) (z:ad5 X f r h i K=Z l) (hla:cM h r=Z B)
 (hexec:∀(φ:PM) (E:Nat->Prop) (h':HF) (w:World) (a:Act),Hx P f->(∀t,.tmp t∈o.op.operands->∀y,fM e h t=Z y->cz φ (tot E φ h') w y (a.tmps.getD t undef))->sE φ E h' w->∃us:ξ,(execOp a.eval o).run P w= .ok (.enter f us.toArray) w/\lK φ (tot E φ h') w B us):jM P o af e h i K l:=by
 unfold ad5 at z;split at z
 .rename_i c hc;have spc:=aon hcon hc;split at z
  .rename_i x m σ sm hM;split at z
   .rename_i q hq;let⟨vs,hp⟩:=q;let⟨l1,I⟩:=yQ hq;let⟨y,hy,z⟩:=d_ z;split at z
    .rename_i q2 hq2;let⟨rs1,hq1⟩:=q2;let⟨l2,A⟩:=yQ hq2;split at z
     .rename_i hcond;simp only[au]at hcond;have hle:=aY hcond.1;have sp:=spc.holds hcond.1;simp only at z;split at z
      .rename_i rs hrs;have hrs':=hrs;rw[vK,A.pv]at hrs';simp only[bx,ah]at hrs';split at z
       next L=>simp only[au]at L;have hq0:=av L.1.2;refine ⟨_,_,_,_,_,z,?_⟩;rw[<- hrs'];exact aor hinv sp (yL hM) I hy A (by omega) hq0 L.2 _ hla λφ E h' w a=>hexec φ E h' w a sp.zm
       .split at z
        .rename_i h2 D;let⟨hsr,z⟩:=cN z;refine ⟨_,_,_,_,_,z,?_⟩;rw[<- hrs'];unfold Rm at D;rw[yD,A.pb]at D;simp only[bx,ah]at D;exact akn hinv sp (yL hM) I hcond.2 hy A hle (λnx hi=>by
          have:eJ nx (l! c.pre.bs)=J:=bj hi;simp only[this,bq]) (λnx hi=>by
          have:eJ nx (l! c.pre.bs)=af:=by
           cases L:eJ nx (l! c.pre.bs) with
           |false=>rfl
           |true=>have:=aY L;omega
          simp only[this];rfl) D.symm hsr hla λφ E h' w a=>hexec φ E h' w a sp.zm
        .cases z
      .cases z
     .rename_i hcond;split at z
      .rename_i hro;simp only[au]at hro;have hq0:=av hro.1;have hng:=Jg hro.2;have sp:rn P f c.full:=by
        unfold aM at spc
        rwa [ax (λL=>hcond (by rw[L,hng];rfl))]at spc
       simp only at z;split at z
       .rename_i rs hrs;split at z
        .rename_i h2 D;have hrs':=hrs;rw[vK,A.pv]at hrs';simp only[bx,ah]at hrs';refine ⟨_,_,_,_,_,z,?_⟩;rw[<- hrs'];have la:=yL hM;unfold Rm at D;rw[yD,I.pb]at D;simp only[bx,ah]at D;have hqe:∀nx,hq1.get nx=U:=λnx=>by
          cases L:hq1.get nx with
          |none=>rfl
          |some b=>have:=A.lt_len L;omega
         have J':pH c.full.post (mkp (PV.tyL c.post.vs) (PB.tyL c.pre.bs) (UN _ _ y) (Sy _ _ x)) rs1 hp l1:=
          ⟨by show rF MS c.post.vs (UN (PV.tyL c.post.vs) (PB.tyL c.pre.bs) _)=_;rw[vD];exact A.pv,by show qT MS c.pre.bs (Sy (PV.tyL c.post.vs) (PB.tyL c.pre.bs) _)=_;rw[xh];exact I.pb,I.len,I.at_,fy (λnx l hr=>by rw[bD,hqe]at hr;cases hr) _ A.ok,yN (by omega) _ A.lt,I.C,I.I,I.nox⟩
         let⟨x1,m1,x2,m2,hx,hmm,gv,gb⟩:=la.ex;let⟨r,q1,q2,q3⟩:=RD (g':=MS) c.pre.bs 0 x2 m2 hro.2 gb;have hl1:l1=r:=by
          have:=I.pb;rw[hx,xh,q1]at this;cases this;rfl
         subst hl1;have hgi:∀nx,nx<l! c.pre.bs->(if eJ nx (l! c.pre.bs) then im σ nx else i+(nx-l! c.pre.bs))=im σ nx:=λnx hi=>by simp_all
         have hsame:∀nx,nx<l! c.pre.bs->h2.get (im σ nx)=h.get (im σ nx):=λnx hi=>by
          let⟨ty,p,T,xs,w1,N⟩:=q3 nx hi;rw[b9]at N;have:=xp (λnx=>if eJ nx (l! c.pre.bs) then im σ nx else i+(nx-l! c.pre.bs)) (l1.map (ie (kU (λnx=>if eJ nx (l! c.pre.bs) then im σ nx else i+(nx-l! c.pre.bs))))) 0 (dU m h) (λa b ha L e=>by
           simp only[cq,q2]at ha L;rw[b9,b9,hgi a ha,hgi b L]at e;exact la.inj a b ha L e) nx (Z (.F ty p T xs)) (by rw[bE,w1];rfl)
          rw[b9,hgi nx hi]at this;rw[<- D,this,N]
         have t:=akn (o:=o) (e:=e) hinv sp la I hng (y:=mkp (PV.tyL c.post.vs) (PB.tyL c.pre.bs) (UN _ _ y) (Sy _ _ x)) (by show aA (c.m x) _=_;rw[hy];rfl) J' (bI _) (g:=λnx=>if eJ nx (l! c.pre.bs) then im σ nx else i+(nx-l! c.pre.bs)) hgi (λnx hi=>by
          have:eJ nx (l! c.pre.bs)=af:=by
           cases L:eJ nx (l! c.pre.bs) with
           |false=>rfl
           |true=>have:=aY L;have hi:l! c.pre.bs<=nx:=hi;omega
          simp only[this];rfl) D.symm (I_ _ λnx hi=>by rw[hgi nx hi];exact hsame nx hi) hla λφ E h' w a=>hexec φ E h' w a sp.zm
         have t':fC P o af e h i (Vh (lx (λnx=>if eJ nx (l! c.pre.bs) then im σ nx else i+(nx-l! c.pre.bs)) rs1)) (sm|||m) (sm|||m|||(((1<<<(l! c.pre.bs-l! c.pre.bs))-1)<<<i)) h2 (i+(l! c.pre.bs-l! c.pre.bs)):=t;rw[xc,dI]at t';refine t'.drop (W:=sm) (λnx hi=>?_) (λnx hi=>?_)
         .refine ⟨?_,by rw[bw,hi];rfl⟩;obtain⟨k,z,rfl⟩:=(la.sig nx).1 hi;let⟨ty,p,T,xs,_,N⟩:=q3 k z;rw[b9]at N;intro n hn;unfold erHF;rw[hn,hsame k z,N];cases ix n<;>rfl
         .grind
        .cases z
       .cases z
      .cases z
    .cases z
   .cases z
  .cases z
 .cases z
variable {W:TypeId->M Ty}
def as7 (hcon:Hw P X) {o:Oper} {e:hX} {nx:SI} {K:KO R} {r:R} (hinv:gZ h i) (hi:sL e h) (N:xJ P o.op=nx) (L:fc X W nx e h i K=Z r):jM P o nx.still e h i K r:=by
 have callOps:∀(c:Call),o.op= .call c->∀x,x∈c.operands->x∈o.op.operands:=λc D x A=>by rw[D];exact A
 cases nx with
 |call f args=>
  simp[fc]at L;split at L
  .rename_i l hl;have D:∃c:Call,o.op= .call c/\c.callee= .value (.func f)/\c.args.toList=args:=by
    unfold xJ at N;split at N
    .rename_i nx hi;unfold OT at hi
     grind
    .grind
   let⟨c,D,h1,h2⟩:=D;let⟨la,g1,g2⟩:=FP hi hl;refine ad4 hcon hinv L g2 λφ E h' w a hcb hops hrep=>?_
   have hp:Rel φ E h' w a (DK e h) o:=λx y A hy=>xB hrep (by rw[Dl];exact hops) A hy
   refine ⟨args.map a.eval,?_,ZF hp args la (λx A=>callOps c D x (by simp[eX,h1,<-h2]at A ⊢;exact .inr A)) g1⟩;unfold execOp;rw[D];have hm:c.args.map a.eval=(args.map a.eval).toArray:=by grind
   simp[resolve,h1,Act.eval,Deferred.ofValue,invoke,hm,Ac hcb]
  .cases L
 |xz x args=>
  simp[fc]at L;split at L
  .rename_i f cap l A hl;have D:∃c:Call,o.op= .call c/\c.callee= .value x/\c.args.toList=args:=by
    unfold xJ at N;split at N
    .rename_i nx hi;unfold OT at hi
     grind
    .grind
   let⟨c,D,h1,h2⟩:=D;let⟨la,g1,g2⟩:=FP hi hl;let⟨yx,g3,g4⟩:=bi hi A;simp[b_]at g4;split at g4
   .rename_i lc hlc;simp[ah]at g4;subst g4;refine ad4 hcon hinv L (oF g2 hlc) λφ E h' w a hcb hops hrep=>?_
    have hp:Rel φ E h' w a (DK e h) o:=λx y A hy=>xB hrep (by rw[Dl];exact hops) A hy
    have hxv:=hp x _ (callOps c D x (by simp[eX,h1])) g3;have hlv:=ZF hp args la (λx A=>callOps c D x (by simp[eX,h1,<-h2]at A ⊢;exact .inr A)) g1;generalize hz:a.eval x=z at hxv;cases hxv with
    |@qv _ _ vs hvl hvr=>
     refine ⟨args.map a.eval++vs,?_,hlv.append (lK.of hvl hvr)⟩;unfold execOp;rw[D];have hm:c.args.map a.eval=(args.map a.eval).toArray:=by grind
     simp[resolve,h1,hz,Deferred.ofValue,invoke,hm,Ac hcb]
   .cases g4
  .cases L
 |op s=>
  have N:s= .jq\/cV P o.op=Z s:=by
   unfold xJ at N;split at N
   .rename_i nx hi;unfold OT at hi
    grind
   .grind
  rcases N with rfl|N
  .simp[fc]at L
  .exact K_op hinv hi N L
def F_op {o:Oper} {e:hX} {s:UP} {K:KO R} {r:R} (hinv:gZ h i) (hi:sL e h) (D:cV P o.op=Z s) (A:pG W e h i K s=Z r):jM P o s.still e h i K r:=by
 cases s with
 |load sz L x=>exact avp hinv hi D A
 |store sz x v=>exact aq6 hinv hi D A
 |jz x=>exact avn hinv hi D A
 |jm off x=>exact azp hinv hi D A
 |jp sz x nx=>exact azo hinv hi D A
 |jb str ok z x k=>exact azm hinv hi D A
 |jf str x k v=>exact azk hinv hi D A
 |app ty sz bytes s x=>exact azr hinv hi D A
 |zh ty sz bytes z l c=>exact avo hinv hi D A
 |jw neg x=>exact avq hinv hi D A
 |lkq ds z x k=>
  have hd:ds=i2:=by
   unfold pG at A
   grind
  subst hd;exact azn hinv hi D A
 |mpq ds x k v=>
  have hd:ds=i2:=by
   unfold pG at A
   grind
  subst hd;exact azl hinv hi D A
 |dlq ds x k=>
  have hd:ds=i2:=by
   unfold pG at A
   grind
  subst hd;exact azq hinv hi D A
 |_=>exact bC A (by simp[pG])
def awm (hcon:Hw P X) {o:Oper} {e:hX} {nx:SI} {K:KO R} {r:R} (hinv:gZ h i) (hi:sL e h) (A:xJ P o.op=nx) (z:opK X W nx e h i K=Z r):jM P o nx.still e h i K r:=by
 unfold opK at z;split at z
 .split at z
  .rename_i s _;have A:s= .jq\/cV P o.op=Z s:=by
    unfold xJ at A;split at A
    .rename_i nx hi;unfold OT at hi
     grind
    .grind
   rcases A with rfl|A
   .simp[pG]at z
   .exact F_op hinv hi A z
  .cases z
 .exact as7 hcon hinv hi A z
def fJ (am:Nat) (e e':hX):Prop:=∀k,aO am k=af->∀z,e'.get k=Z z->∃v,e.get k=Z v/\(wu v=J->z=v)
def fJ.refl (am:Nat) (e:hX):fJ am e e:=λ_ _ z h=>⟨z,h,λ_=>rfl⟩
def fJ.trans {a b c:hX} (h1:fJ i a b) (N:fJ i b c):fJ i a c:=λk z D L=>by
 let⟨A,g1,g2⟩:=N k z D L;let⟨v,g3,g4⟩:=h1 k z A g1
 grind
def fJ.mono {a b:hX} (h:fJ i a b) (hm:∀k,aO i k=J->aO j k=J):fJ j a b:=λk z=>h k (by
 cases A:aO i k with
 |false=>rfl
 |true=>rw[hm k A]at z;cases z)
structure ale (P:Program) (ops:Array Oper) (rest:List Oper) (sl:List uB) (am:Nat) (s s':TS) (fs:List FPm) (l:List (Oper×EE)):Prop where
 ops_:l.map (·.1)=rest
 chain:CW P ops l (fM s.e s.h) (erHF s.h) (fM s'.e s'.h) (erHF s'.h)
 fsl:l! fs=l! l
 sll:l! sl=l! l
 fp:∀(j:Nat) o f q,l[j]? =Z (o,f)->fs[j]? =Z q->(∀n∈f.rd,aO q.rd (ow n)=J)/\∀n∈f.wr,aO q.wr (ow n)=J
 still:∀(j:Nat) o f so,l[j]? =Z (o,f)->sl[j]? =Z so->so.op.still=J->f.rd=[]/\f.wr=[]
 names:∀(j:Nat) o f,l[j]? =Z (o,f)->∀n∈f.N,s.nx<=ow n/\ow n<s'.nx
 xv:∀(i j:Nat) oi fi oj fj,i<j->l[i]? =Z (oi,fi)->l[j]? =Z (oj,fj)->∀n∈fi.N,n∉fj.N
 jh:s.nx<=s'.nx
 qz:gZ s'.h s'.nx
 qp:sL s'.e s'.h
 keeps:fJ am s.e s'.e
def amx {e:hX} {h':aZ} (hi:sL e h) (D:bY h h') (d:M Nat) (L:b_ h' u=Z y):PD (fM e h) d y=fM (HS e d u) h':=by
 funext t;have old:(e.get t).bind (b_ h)=(e.get t).bind (b_ h'):=by
  cases ht:e.get t with
  |none=>rfl
  |some x=>
   let⟨z,A⟩:=pq h x (hi t x ht);simp[aD,A,fU D x z A]
 cases d with
 |none=>simp[PD,HS,fM];exact old
 |some d=>
  simp[PD,HS,fM,PT.get_set,ah]
  grind
def sL.put {e:hX} {h':aZ} (hi:sL e h) (A:bY h h') (d:M Nat) (D:PL h' u=J):sL (HS e d u) h':=λt x z=>by
 cases d with
 |none=>exact mX A x (hi t x z)
 |some d=>
  simp[HS,PT.get_set]at z;split at z
  .cases z;exact D
  .exact mX A x (hi t x z)
def WL {e:hX} (ht:e.get i=Z u):fM (e.set i (Z u)) h=fM e h:=by
 funext k;simp[fM,PT.get_set]
 grind
def sL.set {e:hX} (hi:sL e h) (ht:e.get i=Z u):sL (e.set i (Z u)) h:=λk x z=>by
 rw[PT.get_set]at z;split at z
 next A=>cases z;exact hi _ _ ht
 .exact hi k x z
def YE {e:hX} {g:M (Nat×Bool)} {K:Bool->hX->M R} {r:R} (h:ah6 e g K=Z r):
 (g=U/\K J e=Z r)\/(∃t want b,g=Z (t,want)/\e.get t=Z (.f .bool b)/\K (b==want) (e.set t (Z (.f .bool b)))=Z r)\/∃t want,g=Z (t,want)/\e.get t=Z .undef/\K af e=Z r:=by
 unfold ah6 at h;split at h
 .exact .inl ⟨rfl,h⟩
 .rename_i t want;split at h
  .rename_i b z;refine .inr (.inl ⟨t,want,b,rfl,z,?_⟩);cases want with
   |_=>rcases mQ h with ⟨rfl,h⟩|⟨rfl,h⟩<;>exact h
  .grind
  .cases h
variable {e:Array Oper}
def Ml (hcon:Hw P X) (ham:∀(j:Nat) (o:Oper) (d:Nat),e[j]? =Z o->o.dst=Z d->aO i d=J):
 ∀(rest:Y Oper) (sl:Y uB) (s:TS) (fs:Y FPm) (K:TS->Y FPm->M R) (r:R),(∀o∈rest,∃j:Nat,e[j]? =Z o)->tS P e rest=Z sl->PH X W sl s fs K=Z r->gZ s.h s.nx->sL s.e s.h->∃s' fs' l,K s' (fs.reverse++fs')=Z r/\ale P e rest sl i s s' fs' l
 |[],sl,s,fs,K,r,hin,hc,z,hH,hE=>by
  simp only[tS,ah]at hc;subst hc;simp only[PH]at z;exact⟨s,[],[],by simpa using z,rfl,.nil _ _,rfl,rfl,by simp,by simp,by simp,by simp,bI _,hH,hE,fJ.refl _ _⟩
 |o::rest,sl,s,fs,K,r,hin,hc,z,hH,hE=>by
  simp only[tS]at hc;split at hc
  .rename_i sl' hsl';have hso:∃g,sl=⟨o.dst,xJ P o.op,g⟩::sl'/\((g=U/\o.guard=U)\/∃j want t,g=Z (t,want)/\o.guard=Z (j,want)/\(e[j]?).bind (·.dst)=Z t):=by grind
   obtain⟨g,rfl,hg⟩:=hso;simp only[PH]at z;have hdst:∀d,o.dst=Z d->aO i d=J:=λd hd=>by
    let⟨j,hj⟩:=hin o (dk ..);exact ham j o d hj hd
   have hgs:∀t want,g=Z (t,want)->aO i t=J:=λt want hgt=>by grind
   have kput:∀(ops:hX) (v:TV),fJ i s.e ops->fJ i s.e (HS ops o.dst v):=λops v hke k z v' D=>by
    cases hd:o.dst with
    |none=>rw[hd]at D;exact hke k z v' D
    |some d=>
     rw[hd]at D;simp only[HS,PT.get_set]at D;split at D
     next e2=>rw[e2,hdst d hd]at z;cases z
     .exact hke k z v' D
   have done:∀(f:EE) (v:TV) (h':aZ) (nx' rd wr:Nat) (ops:hX),fM ops s.h=fM s.e s.h->sL ops s.h->fJ i s.e ops->O6 P e o f (fM s.e s.h) (erHF s.h)->(∃y,b_ h' v=Z y/\f.val=y)->fw (erHF s.h) f.wr f.nw=erHF h'->(∀n∈f.rd,aO rd (ow n)=J)->(∀n∈f.wr,aO wr (ow n)=J)->(∀n∈f.N,s.nx<=ow n/\ow n<nx')->bY s.h h'->gZ h' nx'->s.nx<=nx'->((xJ P o.op).still=J->f.rd=[]/\f.wr=[])->
    PH X W sl' ⟨HS ops o.dst v,h',nx'⟩ (⟨rd,wr⟩::fs) K=Z r->∃s' fs' l,K s' (fs.reverse++fs')=Z r/\ale P e (o::rest) (⟨o.dst,xJ P o.op,g⟩::sl') i s s' fs' l:=by
    intro f v h' nx' rd wr ops hee hiE hke hst hval hheap hrd hwr hN hrows hinv' hgr hstill hrun;let⟨y,hy1,hy2⟩:=hval;let⟨s',fs',l,hK,L⟩:=Ml hcon ham rest sl' _ _ K r (λo' ho'=>hin o' (cg _ ho')) hsl' hrun hinv' (hiE.put hrows o.dst (Iw _ _ _ hy1));have hg2:nx'<=s'.nx:=L.jh;refine ⟨s',⟨rd,wr⟩::fs',(o,f)::l,by simpa using hK,by simp[L.ops_],.cons hst ?_,by simp[L.fsl],by simp[L.sll],?_,?_,?_,?_,dc hgr hg2,L.qz,L.qp,(kput ops v hke).trans L.keeps⟩
    .have e1:PD (fM s.e s.h) o.dst f.val=fM (HS ops o.dst v) h':=by rw[<- hee,hy2];exact amx hiE hrows o.dst hy1
     rw[e1,hheap];exact L.chain
    .intro j o' f' q' h1 A;cases j with
     |zero=>simp at h1 A;obtain⟨rfl,rfl⟩:=h1;subst A;exact⟨hrd,hwr⟩
     |succ j=>exact L.fp j o' f' q' (by simpa using h1) (by simpa using A)
    .intro j o' f' so h1 A h3;cases j with
     |zero=>simp at h1 A;obtain⟨rfl,rfl⟩:=h1;subst A;exact hstill h3
     |succ j=>exact L.still j o' f' so (by simpa using h1) (by simpa using A) h3
    .intro j o' f' h1 n hn;cases j with
     |zero=>
      simp at h1;obtain⟨rfl,rfl⟩:=h1;have:=hN n hn;exact⟨this.1,by omega⟩
     |succ j=>
      have:=L.names j o' f' (by simpa using h1) n hn;exact⟨dc hgr this.1,this.2⟩
    .intro am j oi fi oj fj hij h1 A n hn hn';cases j with
     |zero=>omega
     |succ j=>
      have hj:=L.names j oj fj (by simpa using A) n hn';cases am with
      |zero=>
       simp at h1;obtain⟨rfl,rfl⟩:=h1;have h3:=(hN n hn).2;have h4:nx'<=ow n:=hj.1;omega
      |succ am=>exact L.xv am j oi fi oj fj (by omega) (by simpa using h1) (by simpa using A) n hn hn'
   have runs:∀(ops:hX),fM ops s.h=fM s.e s.h->sL ops s.h->fJ i s.e ops->(∀f,gO P o (fM s.e s.h) (erHF s.h) f->O6 P e o f (fM s.e s.h) (erHF s.h))->opK X W (xJ P o.op) ops s.h s.nx (λv rd wr h nx=>if PL h v then PH X W sl' ⟨HS ops o.dst v,h,nx⟩ (⟨rd,wr⟩::fs) K else U)=Z r->∃s' fs' l,K s' (fs.reverse++fs')=Z r/\ale P e (o::rest) (⟨o.dst,xJ P o.op,g⟩::sl') i s s' fs' l:=by
    intro ops hee hiE hke hstep z;let⟨v,rd,wr,h',nx',hK,T⟩:=awm hcon hH hiE rfl z;simp only[]at hK;split at hK
    .rename_i hok;let⟨f,t1,t2,t3,t4,t5,t6⟩:=T.ex;rw[hee]at t1;let⟨y,hy⟩:=pq h' v hok;refine done f v h' nx' rd wr ops hee hiE hke (hstep f t1) ⟨y,hy,t2 y hy⟩ t3 t4 t5 t6 T.F T.inv T.jh (λhs=>?_) hK;let⟨r0,w0⟩:=T.st hs;subst r0 w0;constructor
     .cases hl:f.rd with
      |nil=>rfl
      |cons n q=>have:=t4 n (by rw[hl];simp);simp at this
     .cases hl:f.wr with
      |nil=>rfl
      |cons n q=>have:=t5 n (by rw[hl];simp);simp at this
    .cases hK
   have skips:∀(ops:hX),fM ops s.h=fM s.e s.h->sL ops s.h->fJ i s.e ops->O6 P e o tI (fM s.e s.h) (erHF s.h)->PH X W sl' ⟨HS ops o.dst .undef,s.h,s.nx⟩ (⟨0,0⟩::fs) K=Z r->∃s' fs' l,K s' (fs.reverse++fs')=Z r/\ale P e (o::rest) (⟨o.dst,xJ P o.op,g⟩::sl') i s s' fs' l:=by
    intro ops hee hiE hke hstep z;exact done tI .undef s.h s.nx 0 0 ops hee hiE hke hstep ⟨_,rfl,rfl⟩ (by funext am;simp[fw,tI]) (by simp[tI]) (by simp[tI]) (by simp[tI]) (bY.refl _) hH (bI _) (λ_=>⟨rfl,rfl⟩) z
   rcases YE z with ⟨h1,z⟩|⟨t,want,b,h1,hb,z⟩|⟨t,want,h1,hb,z⟩
   .refine runs s.e rfl hE (fJ.refl _ _) (λf hf=>?_) z;rcases hg with ⟨_,hg⟩|⟨j,want,t,A,_,_⟩
    .exact .run hg hf
    .rw[h1]at A;cases A
   .rcases hg with ⟨A,_⟩|⟨j,want',t',A,h3,h4⟩
    .rw[h1]at A;cases A
    .rw[h1]at A;cases A;have hgt:=hgs t want h1;have heb:fM s.e s.h t=Z (.f (.raw (.bool b))):=by simp only[fM,hb,aD,b_];rfl
     have hke:fJ i s.e (s.e.set t (Z (.f .bool b))):=λk z v' D=>by
      rw[PT.get_set]at D;split at D
      next ek=>rw[ek,hgt]at z;cases z
      .exact⟨v',D,λ_=>rfl⟩
     cases hbw:(b==want) with
     |true=>
      rw[hbw]at z;have:b=want:=by simpa using hbw
      subst this;exact runs _ (WL hb) (hE.set hb) hke (λf hf=>.runG j t b h3 h4 heb hf) z
     |false=>
      rw[hbw]at z;refine skips _ (WL hb) (hE.set hb) hke (.skip j t want h3 h4 (.bool b) heb ?_ rfl) z;intro D;cases D;simp at hbw
   .rcases hg with ⟨A,_⟩|⟨j,want',t',A,h3,h4⟩
    .rw[h1]at A;cases A
    .rw[h1]at A;cases A;exact skips _ rfl hE (fJ.refl _ _) (.skip j t want h3 h4 undef (by simp only[fM,hb,aD,b_]) (by unfold undef;simp) rfl) z
  .cases hc
def anb {sl:Y uB} {s s':TS} {fs:Y FPm} {l:Y v?} {prs:Y p?} (A:ale P e e.toList sl i s s' fs l) (hp:Rn e sl=Z prs) (hok:Je fs prs=J):NIP e l:=by
 unfold Rn at hp;simp only[]at hp;split at hp
 .rename_i hall;simp only[iH,wN,au]at hall;simp only[ah]at hp;have hop:∀(j:Nat) o f,l[j]? =Z (o,f)->e[j]? =Z o:=λj o f D=>by
   have h1:(l.map (·.1))[j]? =Z o:=by rw[bE,D];rfl
   rw[A.ops_]at h1;simpa using h1
  have hsize:∀(j:Nat) o,e[j]? =Z o->j<e.size:=λj o h=>(dD.1 h).1
  have hprs:∀am j,(am,j)∈prs->∃a b,fs[am]? =Z a/\fs[j]? =Z b/\Kc a.wr b.rd=J/\Kc a.wr b.wr=J/\Kc b.wr a.rd=J:=by
   clear hp hall;induction prs with
   |nil=>intro am j h;cases h
   |cons p prs ih=>
    let⟨i0,j0⟩:=p;simp only[Je,au,aci]at hok
    grind
  refine ⟨λj o ho ops he hb=>?_,λam j oi fi oj fj hij hi D=>?_,A.xv⟩
  .grind
  .have h1:=hop am oi fi hi;have h2:=hop j oj fj D;have hcase:=(hall j (hsize j oj h2)).2 am hij;rw[h1,h2]at hcase;simp only[mV]at hcase;by_cases N:aO ((OW e.toList []).getD j 0) am=J
   .left;rw[aE]at N;cases L:(OW e.toList [])[j]? with
    |none=>rw[L]at N;simp at N
    |some B=>
     rw[L]at N;exact Sd (ops:=e) e.toList [] (λj o D=>by simpa using D) (λj B D=>by simp at D) j B L am (by simpa using N)
   .right;have hap:=hcase.resolve_left N;refine ⟨hap,?_⟩;have hil:am<l! l:=(bA.1 hi).1;have hjl:j<l! l:=(bA.1 D).1;have hsi:=aH (show am<l! sl by rw[A.sll];exact hil);have hsj:=aH (show j<l! sl by rw[A.sll];exact hjl);by_cases hst:(sl[am]'(by rw[A.sll];exact hil)).op.still=J
    .obtain⟨q1,q2⟩:=A.still am oi fi _ hi hsi hst
     grind
    .by_cases hst2:(sl[j]'(by rw[A.sll];exact hjl)).op.still=J
     .obtain⟨q1,q2⟩:=A.still j oj fj _ D hsj hst2
      grind
     .have hmem:(am,j)∈prs:=by
       rw[<- hp,xf];refine ⟨j,wN.2 (hsize j oj h2),?_⟩
       grind
      let⟨a,b,ha,hb,d1,d2,d3⟩:=hprs am j hmem;let⟨f1,f2⟩:=A.fp am oi fi a hi ha;let⟨g1,g2⟩:=A.fp j oj fj b D hb;refine ⟨λx L=>⟨λz=>?_,λz=>?_⟩,λx L z=>?_⟩
      .have:=AF d1 (ow x) (f2 x L);rw[g1 x z]at this;cases this
      .have:=AF d2 (ow x) (f2 x L);rw[g2 x z]at this;cases this
      .have:=AF d3 (ow x) (g2 x L);rw[f1 x z]at this;cases this
 .cases hp
structure jB (P:Program) (E:Nat->Prop) (nt np:Nat) (φ:PM) (s:TS) (a:Act) (w:World):Prop where
 zk:sE φ E (erHF s.h) w
 env:Sk φ (tot E φ (erHF s.h)) w (fM s.e s.h) a
 dom:∀n k,φ n=Z k->ow n<s.nx
 low:np<=s.nx
 qz:gZ s.h s.nx
 qp:sL s.e s.h
 inert:∀d∈a.defers,Yq P d
 size:a.tmps.size=nt
structure xN (np:Nat) (φ φ':PM) (H H':HF) (w w':World):Prop where
 ext:I3 (own φ H) w w'
 zw:∀k,k<w.heap.size->own φ' H' k->own φ H k
 par:∀n,ow n<np->φ' n=φ n
def xN.refl (np:Nat) (φ:PM) (H:HF) (w:World):xN np φ φ H H w w:=⟨I3.refl _ _,λ_ _ h=>h,λ_ _=>rfl⟩
def xN.trans {φ' φ'':PM} {H' H'':HF} {w' w'':World} (a:xN i V φ' A H' w w') (b:xN i φ' φ'' H' H'' w' w''):xN i V φ'' A H'' w w'' where
 ext:=⟨b.ext.os.trans a.ext.os,b.ext.tape.trans a.ext.tape,b.ext.output.trans a.ext.output,dc a.ext.size b.ext.size,
  λk z H=>(b.ext.jd k (dC z a.ext.size) (λh=>H (a.zw k z h))).trans (a.ext.jd k z H),
  λk z=>(b.ext.xj k (dC z a.ext.size)).trans (a.ext.xj k z)⟩
 zw:=λk z h=>a.zw k z (b.zw k (dC z a.ext.size) h)
 par:=λnp hi=>(b.par np hi).trans (a.par np hi)
variable {S:Act} {d:Exit->Act->World->Prop}
def ai6 {s:TS} (hm:P.follows .mixedOrders=J) (hcon:Hw P X) (c:jB P O i j V s S w) {id:Nat} {sl:Y uB} {prs:Y p?} {am:Nat} (ham:∀(np:Nat) (o:Oper) (Q:Nat),e[np]? =Z o->o.dst=Z Q->aO am Q=J)
 (hd:(e.toList.all λo=>match o.dst with|some Q=>decide (Q<i)|none=>J)=J) (hc:tS P e e.toList=Z sl) (hp:Rn e sl=Z prs) {K:TS->M R} {r:R} (hr:PH X W sl s [] (λs' fs=>if Je fs prs then K s' else U)=Z r) 
 (hQ:∀a' w' s' φ',K s'=Z r->jB P O i j φ' s' a' w'->xN j V φ' (erHF s.h) (erHF s'.h) w w'->fJ am s.e s'.e->d .normal a' w'):(Code.region id e b).wp P d S w:=by
 let⟨s',fs',l,N,L⟩:=Ml hcon ham e.toList sl s [] _ r (λo ho=>by
  let⟨np,D⟩:=gm ho;exact⟨np,by simpa using D⟩) hc hr c.qz c.qp
 have N:(if Je fs' prs then K s' else U)=Z r:=N;by_cases hok:Je fs' prs=J
 .rw[aF hok]at N;refine Vl (φ0:=V) (E:=O) hm L.ops_ L.chain (anb L hp hok) ?_ ?_ c.zk c.env ?_
  .intro n A;let⟨p,z,A⟩:=xf.1 A;let⟨np,D⟩:=gm z;have:=L.names np p.1 p.2 D n A;cases hx:V n with
   |none=>rfl
   |some k=>have:=c.dom n k hx;omega
  .intro np o ho Q hd';have:=iH.1 hd o (by grind);rw[hd']at this;rw[c.size];simpa using this
  .rintro a' w' ⟨φ',m',d',r',en',df',sz'⟩;have hnm:∀n k,φ' n=Z k->V n=Z k\/(s.nx<=ow n/\ow n<s'.nx):=λn k hik=>by
    rcases d' n k hik with h|h
    .exact .inl h
    .obtain⟨p,z,A⟩:=xf.1 h;let⟨np,D⟩:=gm z;exact .inr (L.names np p.1 p.2 D n A)
   have hg:=L.jh;have hlow:=c.low;refine hQ a' w' s' φ' N ⟨r',en',λn k hik=>?_,by omega,L.qz,L.qp,by rw[df'];exact c.inert,by rw[sz'];exact c.size⟩ ⟨m'.ext,m'.zw,λnt hi=>?_⟩ L.keeps
   .rcases hnm n k hik with h|h
    .have:=c.dom n k h;omega
    .exact h.2
   .cases hx:V nt with
    |some k=>exact m'.sub _ _ hx
    |none=>
     cases hy:φ' nt with
     |none=>rfl
     |some k=>grind
 .grind
end
end Go.Proofs.YtcmnmakaoonfgaaGreatDoor.AI
