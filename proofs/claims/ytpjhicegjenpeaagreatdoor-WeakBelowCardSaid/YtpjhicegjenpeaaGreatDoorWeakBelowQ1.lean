/-
  Texts of the proof, part 2 of 6: what is used to prove the statement. No condition.
-/
import Derived.Test.YtpjhicegjenpeaaGreatDoorWeakBelowQ0
namespace Go.Proofs.YtpjhicegjenpeaaGreatDoor.AI
open Go.RowKit
set_option maxRecDepth 100000
set_option maxHeartbeats 4000000
set_option linter.unusedVariables false
set_option linter.unusedSimpArgs false
set_option linter.defProp false
open _root_.Bool renaming true→J,false→af
open Call renaming operands→dD
open _root_.Int renaming toNat→aN,ofNat→aQ
open _root_.List renaming length→l!,length→aj,replicate→aC,take→dP,range→e_,map→gL,cons_append→gP,toArray→jU,length_cons→kn,nil_append→lq,length_nil→pI,set→sH,append→sW,take_succ_cons→yw,replicate_succ→yz,flatMap_append→yB,map_drop→Aj,getElem?_cons_succ→BQ,map_nil→C'
open _root_.Nat renaming beq→ax,testBit→aK,add_zero→dF,ble→dN,blt→ey,min→l8,mod_eq_of_lt→xh,mul_one→HU,blt_eq→Pj
open Oper renaming wp→Lx
open _root_.Option renaming some→Z,none→U,bind_some→aF,map_some→bh,map→il
open Value.bool renaming injEq→Fv
open World renaming cell?→R6
noncomputable section
variable {R:Type}
def PT.mapO {β:Type} (g:R->M β):PT R->PT β
 |.leaf=>.leaf
 |.node v l r=>.node (v.bind g) (PT.mapO g l) (PT.mapO g r)
def PT.get_mapO {β:Type} (g:R->M β):∀(t:PT R) (i:Nat),(PT.mapO g t).get i=(t.get i).bind g
 |.leaf,i|.node v l r,0=>by simp[PT.mapO,PT.get]
 |.node v l r,j+1=>by
  simp[PT.mapO,PT.get];split
  .exact PT.get_mapO g l _
  .exact PT.get_mapO g r _
def PT.get_updI (f:Nat->R->R):∀(t:PT R) (a b i:Nat),(PT.updI f a b t).get i=(t.get i).map (f (a*i+b))
 |.leaf,_,_,i=>by simp[PT.updI,PT.get]
 |.node v l r,a,b,0=>by cases v<;>simp[PT.updI,PT.get]
 |.node v l r,a,b,j+1=>by
  simp only[PT.updI,PT.get];split
  .rename_i z;rw[PT.get_updI f l];have:2*a*(j/2)+(a+b)=a*(j+1)+b:=by
    have A:j=2*(j/2):=by have:=au z;omega
    grind
   rw[this]
  .rename_i z;rw[PT.get_updI f r];have:2*a*(j/2)+(2*a+b)=a*(j+1)+b:=by
    have h1:j%2≠0:=λh=>z (by rw[h];rfl)
    have A:j=2*(j/2)+1:=by omega
    grind
   rw[this]
def PT.bound :∀(t:PT R),∃B,∀i,B<=i->t.get i=U
 |.leaf=>⟨0,λi _=>rfl⟩
 |.node v l r=>by
  let⟨a,A⟩:=PT.bound l;let⟨b,z⟩:=PT.bound r;refine ⟨2*(a+b)+3,λi hi=>?_⟩;cases i with
  |zero=>omega
  |succ j=>
   simp[PT.get]
   grind
def PT.ofF (f:Nat->M R):Nat->PT R
 |0=>.leaf
 |n+1=>(PT.ofF f n).set n (f n)
def PT.get_ofF (f:Nat->M R):∀(n i:Nat),(PT.ofF f n).get i=if i<n then f i else U
 |0,i=>by simp[PT.ofF,PT.get]
 |n+1,i=>by
  rw[PT.ofF,PT.get_set,PT.get_ofF f n]
  grind
def jQ (i k:Nat):Nat:=2^i*(2*k+1)-1
def nm (i:Nat):Nat:=jQ i 0
def owA:Nat->Nat->Nat
 |0,_=>0
 |f+1,m=>if m%2=1 then 0 else owA f (m/2)+1
def ow (n:Nat):Nat:=owA (n+1) (n+1)
def ix (n:Nat):Nat:=(n+1)/2^ow n/2
def abh:∀(i f k:Nat),i<f->owA f (2^i*(2*k+1))=i
 |0,f+1,k,_=>by rw[owA,aD (by omega)]
 |i+1,f+1,k,h=>by
  have e:2^(i+1)*(2*k+1)=2*(2^i*(2*k+1)):=by grind
  rw[owA,av (by omega),e,Nat.mul_div_cancel_left _ (by omega),abh i f k (by omega)]
def abi:∀(f m:Nat),0<m->m<=f->2^owA f m*(2*(m/2^owA f m/2)+1)=m
 |0,m,h0,h=>by omega
 |f+1,m,h0,h=>by
  rw[owA];split
  .omega
  .have z:=abi f (m/2) (by omega) (by omega);rw[Nat.pow_succ,Nat.mul_comm (2^owA f (m/2)) 2,<-Nat.div_div_eq_div_mul,Nat.mul_assoc,z];omega
def abu (i k:Nat):0<2^i*(2*k+1):=Nat.mul_pos (Nat.two_pow_pos i) (by omega)
def iR (i k:Nat):ow (jQ i k)=i:=by
 have h:=abu i k;have z:i<2^i*(2*k+1):=dy Nat.lt_two_pow_self (Nat.le_mul_of_pos_right _ (by omega));unfold ow jQ;rw[Nat.sub_add_cancel h,abh _ _ _ z]
def wy (i k:Nat):ix (jQ i k)=k:=by
 have h:=abu i k;unfold ix;rw[iR];unfold jQ;rw[Nat.sub_add_cancel h,Nat.mul_div_cancel_left _ (Nat.two_pow_pos i)];omega
def kZ (n:Nat):jQ (ow n) (ix n)=n:=by
 have:=abi (n+1) (n+1) (by omega) (bJ _);unfold jQ ix ow;rw[this];rfl
variable {i:Nat}
def pn (h:ix i=0):i=nm (ow i):=by
 have:=kZ i;rw[h]at this;exact this.symm
def dh (i:Nat):ow (nm i)=i:=iR i 0
def awq (i:Nat):ix (nm i)=0:=wy i 0
variable {j:Nat}
def vp {k l:Nat} (h:jQ i k=jQ j l):i=j/\k=l:=by
 have h1:=eO ow h;have z:=eO ix h;rw[iR,iR]at h1;rw[wy,wy]at z;exact⟨h1,z⟩
def uM (h:nm i=nm j):i=j:=(vp h).1
def dw (p:Bool) (id sz n:Nat):AV:=if p&&n==0 then .emp else .I (nm id) sz n
def pK (id:Nat) (j:Int):Nat:=jQ id (3*j.toNat+1)
def uL (id:Nat) (j sz n:Nat):AV:=if n==0 then .emp else .I (jQ id (j+1)) sz n
def K9:Sb->AV
 |.ob id j off=>.P (pK id j) off
 |.om id j b=>.mp (jQ id (3*j.toNat+2+b))
 |.nr id j sz n=>uL id j.toNat sz n
 |.np id j sz i off=>.P (jQ id (j.toNat+1)) (i.toNat*sz+off)
 |.nl=>.f (.raw (.map U))
mutual
def bW (h:aX):TV->M AV
 |.f T v=>Z (.f (gu T v))
 |.zf T xs j _ off=>Z (.f (.P (xs.flatMap (bD T)) (j.toNat*T.size+off)))
 |.zj id sz j off=>Z (.P (nm id) (j.toNat*sz+off))
 |.P id off=>Z (.P (nm id) off)
 |.qg id sz n=>Z (.I (nm id) sz n)
 |.I id=>match eM h id with|some (p,sz,n)=>Z (dw p id sz n)|none=>U
 |.zh id j=>match eM h id with|some (_,sz,n)=>Z (.sl (nm id) (j.toNat*sz) (n-j.toNat))|none=>U
 |.emp=>Z .emp
 |.nil=>Z (.f (.raw (.slice U 0 0)))
 |.mp id=>Z (.mp (nm id))
 |.agg l=>match cJ h l with|some l'=>Z (.agg l')|none=>U
 |.qb l=>match cJ h l with|some l'=>Z (.qb l')|none=>U
 |.qy g l=>match cJ h l with|some l'=>Z (.qy g l')|none=>U
 |.undef=>Z (.f (.raw undef))
 |.np=>Z (.f (.raw (.pointer U)))
 |.qw=>Z .qw
 |.qc T xs=>Z (.qc (xs.flatMap (bD T)) (aj xs))
 |.sb s=>Z (K9 s)
def cJ (h:aX):Y TV->M (Y AV)
 |[]=>Z []
 |x::r=>match bW h x with
  |some y=>(match cJ h r with|some l=>Z (y::l)|none=>U)
  |none=>U
end
def ri:(K:Ty)->K.den->Value
 |.int k,n=>.int k n
 |.str,s=>.string ⟨jU s⟩
 |_,_=>undef
def mpC:(K V:Ty)->Y (K.den×V.den)->BC
 |.st (.pr .str (.int .i64)),.un,es=>.it ⟨jU (Pp es)⟩ (MV es)
 |K,V,es=>.mp (es.map λp=>(ri K p.1,.f (gu V p.2)))
variable {K:Ty}
def Ci {V:Ty} {es:Y (K.den×V.den)} (h:YV K=J):mpC K V es= .mp (es.map λp=>(ri K p.1,.f (gu V p.2))):=by
 unfold mpC;split
 .cases h
 .rfl
def at6 {V:Ty} {es:Y (K.den×V.den)} {s:ζ} (h:itE K V es=Z (s,i)):mpC K V es= .it ⟨jU s⟩ i:=by
 unfold itE at h;split at h
 .cases h;rfl
 .cases h
variable {s:TypeId}
def adm {es:Y n!} {ents:Array MapEntry} (f:AV->AV):MpK s (es.map λp=>(p.1,f p.2)) ents=MpK s es ents:=by unfold MpK;rw[kX];rfl
def Yy {l:Y R} {x:R} (h:i<l! l):splice l i [x]=l.set i x:=by
 rw[List.set_eq_take_append_cons_drop,aD h];simp[splice]
def aeh (k:ν):Value:=.agg #[.int .i64 k.1,.int .i64 k.2]
def w7 (a:Nat) (es:Y e!):Y n!:=es.map λe=>(aeh e.1,.P (pK a e.2) 0)
def ND (a:Nat) (k:ν) (v:AV):Y e!->Y n!
 |[]=>[(aeh k,v)]
 |e::r=>if k=e.1 then (aeh k,v)::w7 a r else (aeh e.1,.P (pK a e.2) 0)::ND a k v r
def lX (a sz:Nat):Nat->η->Y AV
 |_,[]=>[]
 |k,l::r=>uL a k sz l.toNat::lX a sz (k+1) r
def uw (a:Nat):(F:uE)->F.ty.den->M kH
 |.qn ty,z=>if aj z==0 then U else Z ⟨ty,.mx (gL (λj=>.P (pK a j) 0) z)⟩
 |.qr,es=>Z ⟨0,.mp (w7 a es)⟩
 |.rr ty sz,A=>Z ⟨ty,.mx (lX a sz 0 A)⟩
 |_,_=>U
def acl (a:Nat) (k:ν):(F:uE)->F.ty.den->M (Nat×Bool×Nat)->M kH
 |.qr,es,Z (p,_,_)=>Z ⟨0,.mp (ND a k (.P (nm p) 0) es)⟩
 |.rr ty sz,z,Z (r,b,n)=>Z ⟨ty,.mx ((lX a sz 0 z).set k.1.toNat (dw b r sz n))⟩
 |_,_,_=>U
def Ik (es:Y u!):Y n!:=es.map λe=>(.int .i64 e.1,.f (.raw (.bool e.2)))
def wJ (id k:Nat) (ty:TypeId) (S:Ty) (o:S.den×Y (Int×Bool)×Y (Int×Bool)):kH:=
 if k%3=0 then ⟨ty,.mx ((bD S o.1).map .f++[.mp (jQ id (k+2)),.mp (jQ id (k+3))])⟩ else ⟨0,.mp (Ik (if k%3=1 then o.2.1 else o.2.2))⟩
def Zx (ty:TypeId) (T:Ty) (xs:Y T.den):M kH:=if (l! xs)==0 then U else Z ⟨ty,.fz (xs.flatMap (bD T))⟩
def rm (id k:Nat) (ty:TypeId) (S:Ty) (xs:Y (C6 S)):M kH:=(xs[k/3]?).map (wJ id k ty S)
def rk (k:Nat) (ty:TypeId) (T:Ty) (xss:Y (Y T.den)):M kH:=(xss[k]?).bind (Zx ty T)
def K7 (id:Nat) (k:Nat):(F:uE)->F.ty.den->M kH
 |.ar ty S,xs=>rm id k ty S xs
 |.ir ty T,xss=>rk k ty T xss
 |_,_=>U
def wX (id k:Nat):e9->M kH
 |.Q F _ x=>K7 id k F x
 |.qd F _ x j U=>if k=j.1.toNat then U else K7 id k F x
 |.qd F _ x _ (Z _)=>K7 id k F x
 |_=>U
def kJ (h:aX):e9->M kH
 |.H ty p T xs=>if p&&l! xs==0 then U else Z ⟨ty,.fz (xs.flatMap (bD T))⟩
 |.G (Z ty) l=>match cJ h l with|some l'=>Z ⟨ty,.mx l'⟩|none=>U
 |.G U l=>match cJ h l with|some l'=>Z ⟨0,.mp []⟩|none=>U
 |.qj _ _ _=>U
 |.mp K V es=>Z ⟨0,mpC K V es⟩
 |.Q F a x=>uw a F x
 |.qd F a x k p=>acl a k F x p
def fU (e:h_) (h:aX):EF:=λt=>(e.get t).bind (bW h)
def Pq (h:aX) (id:Nat):Nat->e9->M kH
 |0,b=>kJ h b
 |k+1,b=>wX id k b
def erHF (h:aX):HF:=λn=>(h.get (ow n)).bind (Pq h (ow n) (ix n))
def bG (h:aX) (i:Nat):erHF h (nm i)=(h.get i).bind (kJ h):=by
 unfold erHF;rw[dh,awq];rfl
def kR (h:aX) (i k:Nat):erHF h (jQ i (k+1))=(h.get i).bind (wX i k):=by
 unfold erHF;rw[iR,wy];rfl
variable {h:aX} {N:kH}
def iW (z:erHF h i=Z N):∃c,h.get (ow i)=Z c/\Pq h (ow i) (ix i) c=Z N:=by
 unfold erHF at z;cases A:h.get (ow i) with
 |none=>rw[A]at z;cases z
 |some c=>rw[A]at z;exact⟨c,rfl,z⟩
def Ij:e9->Nat
 |.Q (.ar _ _) _ x=>3*aj x
 |.Q (.ir _ _) _ x=>aj x
 |.qd (.ar _ _) _ x _ _=>3*aj x
 |.qd (.ir _ _) _ x _ _=>aj x
 |_=>0
def acm {id:Nat} {F:uE} {x:F.ty.den} (A:K7 id i F x=Z N) (a:Nat):i<Ij (.Q F a x):=by
 cases F with
 |ar ty S=>
  let⟨o,z,_⟩:=gA.1 A;have:=(bz.1 z).1;simp[Ij];omega
 |ir ty T=>
  let⟨o,z,_⟩:=Option.bind_eq_some_iff.1 A;exact (bz.1 z).1
 |_=>cases A
def abz {c:e9} (z:wX i j c=Z N):j<Ij c:=by
 cases c with
 |Q F a x=>exact acm (id:=i) z a
 |qd F a x k p=>
  have:K7 i j F x=Z N:=by
   cases p with
   |none=>simp only[wX]at z;split at z;cases z;exact z
   |some q=>exact z
  have:=acm (id:=i) this a;cases F<;>exact this
 |_=>cases z
def DV (e:h_) (h:aX):ED:=PT.mapO (bW h) e
def Ds (e:h_) (h:aX):(DV e h).get=fU e h:=by funext t;exact PT.get_mapO _ _ _
def aol (L:∀y c,h.get y=Z c->Ij c<=i) (D:erHF h j=Z N):ix j<=i:=by
 let⟨c,h1,z⟩:=iW D;have:=L _ c h1;cases A:ix j with
 |zero=>omega
 |succ k=>
  rw[A]at z;have:=abz z;omega
def aby (h:aX):∃y,∀i c,h.get i=Z c->Ij c<=y:=by
 let⟨B,hB⟩:=PT.bound h;have:∀B,∃y,∀i c,i<B->h.get i=Z c->Ij c<=y:=by
  intro B;induction B with
  |zero=>exact⟨0,λi c hi=>by omega⟩
  |succ B D=>
   let⟨y,A⟩:=D;cases L:h.get B with
   |none=>exact⟨y,λi c hi z=>by
     by_cases e:i=B
     .grind
     .exact A i c (by omega) z⟩
   |some b=>exact⟨max y (Ij b),λi c hi z=>by
     by_cases e:i=B
     .grind
     .have:=A i c (by omega) z;omega⟩
 let⟨y,A⟩:=this B;refine ⟨y,λi c z=>A i c ?_ z⟩
 grind
def gI (h:aX):∃H:ny,H.get=erHF h:=by
 let⟨B,hB⟩:=PT.bound h;let⟨y,L⟩:=aby h;refine ⟨PT.ofF (erHF h) (2^B*(2*y+2)),?_⟩;funext n;rw[PT.get_ofF];split
 .rfl
 .rename_i hn;cases A:erHF h n with
  |none=>rfl
  |some b=>
   let⟨c,h1,z⟩:=iW A;have ho:ow n<B:=by grind
   have hi:ix n<=y:=by
    have:=L _ c h1;cases D:ix n with
    |zero=>omega
    |succ k=>
     rw[D]at z;have:=abz z;omega
   have he:=kZ n;unfold jQ at he;have h3:2^ow n*(2*ix n+1)<=2^B*(2*y+2):=Nat.mul_le_mul (Nat.pow_le_pow_right (by omega) (by omega)) (by omega)
   grind
variable {u:TV} {m:Y TV}
def c4 {l:Y AV} (he:cJ h (u::m)=Z l):∃y l',l=y::l'/\bW h u=Z y/\cJ h m=Z l':=by
 simp[cJ]at he
 grind
variable {y:AV}
def qC {l':Y AV} (h1:bW h u=Z y) (z:cJ h m=Z l'):cJ h (u::m)=Z (y::l'):=by
 simp[cJ,h1,z]
def iE :∀{l:Y TV} {l':Y AV},cJ h l=Z l'->l! l'=l! l
 |[],l',he=>by simp[cJ,ah]at he;subst he;rfl
 |x::r,l',he=>by
  obtain⟨y,A,rfl,_,z⟩:=c4 he;simp[iE z]
def oM :∀{a b:Y TV} {A b':Y AV},cJ h a=Z A->cJ h b=Z b'->cJ h (a++b)=Z (A++b')
 |[],b,A,b',z,D=>by simp[cJ,ah]at z;subst z;exact D
 |x::r,b,A,b',z,D=>by
  obtain⟨y,l2,rfl,h1,L⟩:=c4 z;exact qC h1 (oM L D)
def Fm :∀{a b:Y TV} {l:Y AV},cJ h (a++b)=Z l->∃z b',l=z++b'/\cJ h a=Z z/\cJ h b=Z b'
 |[],b,l,he=>⟨[],l,rfl,rfl,he⟩
 |x::r,b,l,he=>by
  obtain⟨y,l2,rfl,h1,L⟩:=c4 he;obtain⟨z,b',rfl,D,A⟩:=Fm L;exact⟨y::z,b',rfl,qC h1 D,A⟩
def IR :∀{l:Y TV} {l':Y AV} (n:Nat),cJ h l=Z l'->cJ h (l.take n)=Z (l'.take n)
 |[],l',n,he=>by simp[cJ,ah]at he;subst he;simp[cJ]
 |x::r,l',n,he=>by
  obtain⟨y,A,rfl,h1,z⟩:=c4 he;cases n with
  |zero=>simp[cJ]
  |succ n=>exact qC h1 (IR n z)
def IV :∀{l:Y TV} {l':Y AV} (n:Nat),cJ h l=Z l'->cJ h (l.drop n)=Z (l'.drop n)
 |[],l',n,he=>by simp[cJ,ah]at he;subst he;simp[cJ]
 |x::r,l',n,he=>by
  obtain⟨y,A,rfl,h1,z⟩:=c4 he;cases n with
  |zero=>exact he
  |succ n=>simpa using IV n z
variable {r:Y AV}
def rn {vs:Y TV} {vs':Y AV} (off:Nat) (h1:cJ h m=Z r) (z:cJ h vs=Z vs'):cJ h (splice m off vs)=Z (splice r off vs'):=by
 unfold splice;rw[iE z];exact oM (oM (IR _ h1) z) (IV _ h1)
def mE :∀{l:Y TV} {l':Y AV},cJ h l=Z l'->∀(j:Nat) x,l[j]? =Z x->∃y,l'[j]? =Z y/\bW h x=Z y
 |[],l',he,j,x,D=>by simp at D
 |x::r,l',he,j,z,A=>by
  obtain⟨y,l2,rfl,h1,L⟩:=c4 he;cases j with
  |zero=>simp at A;subst A;exact⟨y,rfl,h1⟩
  |succ j=>simpa using mE L j z (by grind)
mutual
def pl (h:aX):∀(u:TV),PI h u=J->∃y,bW h u=Z y
 |.f _ _,_|.zf _ _ _ _ _,_|.zj _ _ _ _,_|.P _ _,_|.qg _ _ _,_=>⟨_,rfl⟩
 |.I id,he|.zh id jj,he=>by
  simp[PI]at he;cases hr:eM h id with
  |none=>rw[hr]at he;cases he
  |some r=>obtain⟨p,sz,n⟩:=r;exact⟨_,by simp[bW,hr];rfl⟩
 |.emp,_|.nil,_|.mp _,_=>⟨_,rfl⟩
 |.agg l,he|.qb l,he|.qy g l,he=>by obtain⟨y,hy⟩:=fJ h l he;exact⟨_,by simp[bW,hy];rfl⟩
 |.undef,_|.np,_|.qw,_|.qc _ _,_|.sb _,_=>⟨_,rfl⟩
def fJ (h:aX):∀(l:Y TV),lY h l=J->∃l',cJ h l=Z l'
 |[],_=>⟨[],rfl⟩
 |x::r,he=>by
  simp[lY,al]at he;obtain⟨y,hy⟩:=pl h x he.1;obtain⟨l',hl⟩:=fJ h r he.2;exact⟨_,qC hy hl⟩
end
def bV (h h':aX):Prop:=∀id r,eM h id=Z r->eM h' id=Z r
mutual
def fP {h h':aX} (hk:bV h h'):∀(u:TV) (y:AV),bW h u=Z y->bW h' u=Z y
 |.f _ _,y,he=>he
 |.zf _ _ _ _ _,y,he=>he
 |.zj _ _ _ _,y,he=>he
 |.P _ _,y,he=>he
 |.qg _ _ _,y,he=>he
 |.I id,y,he|.zh id jj,y,he=>by
  simp[bW]at he ⊢;split at he
  .rename_i p sz n hr;rw[hk _ _ hr];exact he
  .cases he
 |.emp,y,he=>he
 |.nil,y,he=>he
 |.mp _,y,he=>he
 |.agg l,y,he|.qb l,y,he|.qy g l,y,he=>by
  simp[bW]at he ⊢;split at he
  .rename_i l' hl;rw[gX hk l l' hl];exact he
  .cases he
 |.undef,y,he=>he
 |.np,y,he=>he
 |.qw,y,he=>he
 |.qc _ _,y,he=>he
 |.sb _,y,he=>he
def gX {h h':aX} (hk:bV h h'):∀(l:Y TV) (l':Y AV),cJ h l=Z l'->cJ h' l=Z l'
 |[],l',he=>he
 |x::r,l',he=>by
  obtain⟨y,l2,rfl,h1,h2⟩:=c4 he;exact qC (fP hk x y h1) (gX hk r l2 h2)
end
mutual
def nB {h h':aX} (hk:bV h h'):∀(u:TV),PI h u=J->PI h' u=J
 |.f _ _,_|.zf _ _ _ _ _,_|.zj _ _ _ _,_|.P _ _,_|.qg _ _ _,_=>rfl
 |.I id,he|.zh id jj,he=>by
  simp[PI]at he ⊢;cases hr:eM h id with
  |none=>rw[hr]at he;cases he
  |some r=>rw[hk _ _ hr];rfl
 |.emp,_|.nil,_|.mp _,_=>rfl
 |.agg l,he|.qb l,he|.qy g l,he=>fy hk l he
 |.undef,_|.np,_|.qw,_|.qc _ _,_|.sb _,_=>rfl
def fy {h h':aX} (hk:bV h h'):∀(l:Y TV),lY h l=J->lY h' l=J
 |[],_=>rfl
 |x::r,he=>by
  simp[lY,al]at he ⊢;exact⟨nB hk x he.1,fy hk r he.2⟩
end
mutual
def IQ (h:aX):∀(u:TV) (y:AV),bW h u=Z y->PI h u=J
 |.f _ _,_,_|.zf _ _ _ _ _,_,_|.zj _ _ _ _,_,_|.P _ _,_,_|.qg _ _ _,_,_=>rfl
 |.I id,y,he|.zh id jj,y,he=>by
  simp[PI,bW]at he ⊢;cases hr:eM h id with
  |none=>rw[hr]at he;cases he
  |some r=>rfl
 |.emp,_,_|.nil,_,_|.mp _,_,_=>rfl
 |.agg l,y,he|.qb l,y,he|.qy g l,y,he=>by
  simp[bW]at he;split at he
  .rename_i l' hl;exact mc h l l' hl
  .cases he
 |.undef,_,_|.np,_,_|.qw,_,_|.qc _ _,_,_|.sb _,_,_=>rfl
def mc (h:aX):∀(l:Y TV) (l':Y AV),cJ h l=Z l'->lY h l=J
 |[],_,_=>rfl
 |x::r,l',he=>by
  obtain⟨y,l2,rfl,h1,h2⟩:=c4 he;simp[lY,al];exact⟨IQ h x y h1,mc h r l2 h2⟩
end
mutual
def Wz (h h':aX):∀(u:TV),wA u=J->bW h u=bW h' u
 |.f _ _,_|.zf _ _ _ _ _,_|.zj _ _ _ _,_|.P _ _,_|.qg _ _ _,_=>rfl
 |.I id,he=>by cases he
 |.emp,_|.nil,_|.mp _,_=>rfl
 |.agg l,he|.qb l,he=>by simp[bW];rw[IU h h' l he]
 |.qy g l,he=>by cases he
 |.undef,_|.np,_|.qw,_|.qc _ _,_=>rfl
 |.sb _,he=>by cases he
def IU (h h':aX):∀(l:Y TV),r8 l=J->cJ h l=cJ h' l
 |[],_=>rfl
 |x::r,he=>by
  simp[r8,al]at he;simp[cJ];rw[Wz h h' x he.1,IU h h' r he.2]
end
def S6 (he:bW h u=Z y) (A:u.isC=J):y.isCell=J:=by
 cases u with
 |f T v=>cases T<;>simp[bW,ah]at he<;>subst he<;>first|rfl|(simp [TV.isC,Ty.one]at A)
 |I id=>
  simp[bW]at he;split at he
  .simp[ah]at he;subst he;unfold dw;split<;>rfl
  .cases he
 |zh id D|agg l|qb l|undef|qw|qc T xs=>cases A
 |qy g l=>
  simp[bW]at he;split at he
  .simp[ah]at he;subst he;rfl
  .cases he
 |sb s=>simp[bW,ah]at he;subst he;cases s<;>first|rfl|(simp [K9,uL];split<;>rfl)
 |_=>simp[bW,ah]at he;subst he;rfl
def tZ :∀{l:Y TV} {l':Y AV},cJ h l=Z l'->lU l=J->gE l'=J
 |[],l',he,_=>by simp[cJ,ah]at he;subst he;rfl
 |x::r,l',he,z=>by
  obtain⟨y,D,rfl,h1,A⟩:=c4 he;simp[lU,al]at z;simp[gE,al];exact⟨S6 h1 z.1,tZ A z.2⟩
def Le (x y:AV):Prop:=∀(φ:PM) (O:Nat->Prop) (w:World) (v:Value),cf φ O w x v->cf φ O w y v
def Le.refl (x:AV):Le x x:=λ_ _ _ _ h=>h
def kz (H H':HF) (x y:AV):Prop:=∀(φ:PM) (E:Nat->Prop) (w:World) (v:Value),sC φ E H w->cf φ (tot E φ H) w x v->cf φ (tot E φ H') w y v
def rA (H H':HF):Prop:=∀i b,H' i=Z b->∃b0,H i=Z b0
def rA.refl (H:HF):rA H H:=λ_ b h=>⟨b,h⟩
variable {S:HF} {V:PM}
def rA.own {H':HF} (d:rA S H') (h:own V H' i):own V S i:=by
 let⟨k,b,h1,A⟩:=h;let⟨b0,z⟩:=d k b h1;exact⟨k,b0,z,A⟩
variable {O:Nat->Prop}
def rA.tot {H':HF} (d:rA S H') (h:tot O V H' i):tot O V S i:=h.imp id d.own
variable {w:World} {v:Value}
def cf.dom {H':HF} (d:rA S H') (h:cf V (tot O V S) w y v):cf V (tot O V H') w y v:=
 h.ext (λ_ _ h=>h) (HY.refl _ w) λ_ _ z=>d.tot z
def nu.dom {H':HF} (d:rA S H') {x:FV} (h:nu (tot O V S) w x v):nu (tot O V H') w x v:=
 h.ext (HY.refl _ w) λ_ _ z=>d.tot z
def Le.toH {H':HF} (d:rA S H') {x:AV} (h:Le x y):kz S H' x y:=λφ E w v _ z=>(h _ _ _ _ z).dom d
def kz.refl {H':HF} (d:rA S H') (x:AV):kz S H' x x:=(Le.refl x).toH d
def gZ (H H':HF):Y AV->Y AV->Prop
 |[],[]=>True
 |x::xs,y::z=>kz H H' x y/\gZ H H' xs z
 |_,_=>False
def gZ.refl {H':HF} (d:rA S H'):∀l,gZ S H' l l
 |[]=>trivial
 |x::r=>⟨kz.refl d x,gZ.refl d r⟩
def gZ.length {H':HF}:∀{l l':Y AV},gZ S H' l l'->l! l'=l! l
 |[],[],_=>rfl
 |[],_::_,h|_::_,[],h=>h.elim
 |_::_,_::_,h=>by simp[gZ.length h.2]
def gZ.get {H':HF}:∀{l l':Y AV},gZ S H' l l'->∀(j:Nat) y,l'[j]? =Z y->∃x,l[j]? =Z x/\kz S H' x y
 |[],[],_,j,y,A=>by simp at A
 |[],_::_,h,_,_,_|_::_,[],h,_,_,_=>h.elim
 |x::xs,z::ys,h,j,y,A=>by
  cases j with
  |zero=>simp at A;subst A;exact⟨x,rfl,h.1⟩
  |succ j=>simpa using gZ.get h.2 j y (by grind)
def gZ.append {H':HF}:∀{a z b b':Y AV},gZ S H' a z->gZ S H' b b'->gZ S H' (a++b) (z++b')
 |[],[],_,_,_,h=>h
 |[],_::_,_,_,h,_|_::_,[],_,_,h,_=>h.elim
 |_::_,_::_,_,_,h,h'=>⟨h.1,gZ.append h.2 h'⟩
def gZ.take {H':HF}:∀{a z:Y AV} (n:Nat),gZ S H' a z->gZ S H' (a.take n) (z.take n)
 |[],[],n,_=>by simp[gZ]
 |[],_::_,_,h|_::_,[],_,h=>h.elim
 |_::_,_::_,0,_=>trivial
 |_::_,_::_,n+1,h=>⟨h.1,gZ.take n h.2⟩
def gZ.drop {H':HF}:∀{a z:Y AV} (n:Nat),gZ S H' a z->gZ S H' (a.drop n) (z.drop n)
 |[],[],n,_=>by simp[gZ]
 |[],_::_,_,h|_::_,[],_,h=>h.elim
 |_::_,_::_,0,h=>h
 |_::_,_::_,n+1,h=>gZ.drop n h.2
def gZ.splice {H':HF} {A b b':Y AV} (off:Nat) (h1:gZ S H' r A) (z:gZ S H' b b'):gZ S H' (splice r off b) (splice A off b'):=by
 unfold AI.splice;rw[z.length];exact ((h1.take off).append z).append (h1.drop _)
def gw (H H':HF) (b b':kH):Prop:=∀(φ:PM) (E:Nat->Prop) (w:World) (o:Obj),sC φ E H w->ij φ (tot E φ H) w b o->ij φ (tot E φ H') w b' o
def gw.refl {H':HF} (d:rA S H') (b:kH):gw S H' b b:=λ_ _ _ _ _ h=>h.mono λ_ _ h=>h.dom d
def qV {c:BC} {o:Obj} (z:c.isCells=J):ij V O w ⟨s,c⟩ o↔∃arr,o= .cells arr s (0,0)/\vE V O w c arr:=by
 cases c<;>simp[BC.isCells]at z<;>rfl
def gw.G {H':HF} {c A:BC} (L:c.isCells=J) (z:A.isCells=J) (hl:gZ S H' c.toMx A.toMx) (hcell:∀x∈A.toMx,x.isCell=J):gw S H' ⟨s,c⟩ ⟨s,A⟩:=by
 intro φ E w o hrep ho;rw[qV L]at ho;rw[qV z];let⟨arr,h1,h2,h3⟩:=ho;refine ⟨arr,h1,by rw[BC.len_toMx z,hl.length,<-BC.len_toMx L];exact h2,λj x D=>?_⟩;rw[BC.get_toMx z]at D;refine ⟨hcell x (a8 D),?_⟩;let⟨y,hy,hle⟩:=hl.get j x D;let⟨_,v,h5,h6⟩:=h3 j y (by rw[BC.get_toMx L];exact hy);exact⟨v,h5,hle _ _ _ _ hrep h6⟩
def aku (ty:M TypeId) (l:Y AV):kH:=match ty with
 |some ty=>⟨ty,.mx l⟩
 |none=>⟨0,.mp []⟩
def gw.none {H':HF}:gw S H' ⟨0,.mp []⟩ ⟨0,.mp []⟩:=by
 intro φ E w o hrep A;let⟨ents,clock,h1,D,L⟩:=A;exact⟨ents,clock,h1,D,λj x z=>by cases z⟩
def gw.eq {H':HF} (d:rA S H') {c D:BC} (A:c.isCells=J) (z:D.isCells=J) (hl:c.toMx=D.toMx):gw S H' ⟨s,c⟩ ⟨s,D⟩:=by
 intro φ E w o hrep ho;rw[qV A]at ho;rw[qV z];let⟨arr,h1,h2,h3⟩:=ho;refine ⟨arr,h1,by rw[BC.len_toMx z,<-hl,<-BC.len_toMx A];exact h2,λj x L=>?_⟩;rw[BC.get_toMx z,<-hl,<-BC.get_toMx A]at L;let⟨h4,v,h5,h6⟩:=h3 j x L;exact⟨h4,v,h5,h6.dom d⟩
structure O4 (H H':HF):Prop where
 dom:rA H H'
 jp:∀i b b',H i=Z b->H' i=Z b'->gw H H' b b'
def O4.refl (H:HF):O4 H H:=⟨rA.refl H,λi b b' h h'=>by rw[h]at h';cases h';exact gw.refl (rA.refl H) b⟩
def O4.zq {H':HF} (φ:O4 S H') (r:sC V O S w):sC V O H' w:=by
 refine ⟨λi j b b' k A g2 g3 g4=>?_,λi b A=>?_,r.el,λg cells hg=>(r.gl g cells hg).dom φ.dom⟩
 .obtain⟨b0,z⟩:=φ.dom i b A;let⟨b1,D⟩:=φ.dom j b' g2;exact r.inj i j b0 b1 k z D g3 g4
 .obtain⟨b0,z⟩:=φ.dom i b A;let⟨k,L,p2,ob,p3,p4⟩:=r.at_ i b0 z;exact⟨k,L,p2,ob,p3,φ.jp i b0 b z A V O w ob r p4⟩
variable {T:Program}
def gF.view {o:Oper} {e:EF} {val':AV} {rd z wr' N:ι} {A nw':HF} (ht:gF T o e S ⟨y,rd,z,A,N⟩) (hsub:∀i∈z,i∈wr'\/i∈rd)
 (hv:∀h':HF,(∀i∈rd,h' i=S i)->(∀i∈wr',h' i=S i)->O4 (fx h' z A) (fx h' wr' nw')/\kz (fx h' z A) (fx h' wr' nw') y val'):gF T o e S ⟨val',rd,wr',nw',N⟩:=by
 intro φ E h' w a h1 L h3 h4 h5;have hw:=ht φ E h' w a h1 (λi hi=>(hsub i hi).elim (L i) (h1 i)) h3 h4 h5;let⟨V,hle⟩:=hv h' h1 L;refine UJ ?_ hw;rintro a' w' ⟨v,φ',rfl,mv,nm',D,rel⟩;exact⟨v,φ',rfl,⟨mv.sub,mv.ext,λk hk ho=>mv.ql k hk (V.dom.own ho)⟩,nm',V.zq D,hle _ _ _ _ D rel⟩
def Le.nil:Le (.f (.raw (.slice U 0 0))) (.f (.sl [] 0)):=by
 intro φ O w v z;cases z with
 |f z=>cases z;exact .f (.nil U 0 (by simp))
def Le.emp:Le .emp (.f (.sl [] 0)):=by
 intro φ O w v z;cases z with
 |emp=>exact .f (.nil _ 0 (by unfold maxLen;omega))
def Le.nilEmp:Le (.f (.raw (.slice U 0 0))) .emp:=by
 intro φ O w v z;cases z with
 |f z=>cases z;exact .emp
def Le.aggF {l:Y FV}:Le (.f (.agg l)) (.agg (l.map .f)):=by
 intro φ O w v A;cases A with
 |f A=>
  cases A with
  |agg _ vs hl hcl hrr=>
   refine .agg (by grind) (λx z=>?_) λj x u z hu=>?_
   .obtain⟨y,L,rfl⟩:=cr.1 z;exact hcl y L
   .rw[bB]at z;cases D:l[j]? with
    |none=>rw[D]at z;cases z
    |some y=>rw[D]at z;simp at z;subst z;exact .f (hrr j y u D hu)
def aiq (l:Y AV):Le (Rc l) (.agg l):=by
 unfold Rc;split
 next z h=>rw[nR h];exact Le.aggF
 .exact Le.refl _
def kz.aggL {H':HF} {l':Y FV} (h:gZ S H' r (l'.map .f)) (hc:∀x∈l',x.isCell=J):kz S H' (.agg r) (.f (.agg l')):=by
 intro φ E w v hrep D;cases D with
 |@agg _ vs L hcl hrr=>
  refine .f (.agg l' vs (by rw[L,<-h.length];simp) hc λj y u hy A=>?_);let⟨x,z,hle⟩:=h.get j (.f y) (by grind);have:=hle φ E w u hrep (hrr j x u z A);cases this with
  |f h=>exact h
def kz.I {H':HF} (d:rA S H') {n:Nat} {cells:Y FV} (h1:S i=Z ⟨s,.fz cells⟩) (h2:H' i=U) (hl:l! cells=n*j):kz S H' (.I i j n) (.f (.sl cells n)):=by
 intro φ E w v r hr;cases hr with
 |@I _ _ _ c k hφ hn hcap hsh=>
  let⟨k',L,q2,_⟩:=r.at_ i _ h1;rw[hφ]at L;cases L;let⟨arr,p1,p2,p3⟩:=r.cs h1 hφ rfl;have hk:k<w.heap.size:=(dz.1 p1).1;have hlen:l! cells<=arr.size:=by simpa[BC.toMx] using p3
  have hnk:¬tot E φ H' k:=by
   rintro (hE|⟨sz,b,D,A⟩)
   .exact q2 hE
   .obtain⟨b0,g3⟩:=d sz b D;have:=r.inj sz i b0 _ k g3 h1 A hφ
    grind
  have hget:∀(sz:Nat) x,cells[sz]? =Z x->∃u,arr[sz]? =Z u/\nu (tot E φ S) w x u:=λsz x z=>by
   have hj:sz<l! cells:=(bz.1 z).1;have hja:sz<arr.size:=by omega
   refine ⟨arr[sz],by simp[hja],?_⟩;have:=p2.2.2 sz (.f x) arr[sz] (by simp[BC.toMx,z]) (by
    rw[fc,aD (by simpa[BC.toMx] using hj),c9];simp[hja])
   cases this with
   |f h=>exact h
  refine .f (.sl cells n c k 0 (λsz=>(arr[sz]?).getD undef) hn hcap hnk hk (λx z=>?_) (λsz hj=>?_) (λsz x z=>?_))
  .have:=p2.2.1 (.f x) (by simp only[BC.toMx];exact cr.2 ⟨x,z,rfl⟩);exact this
  .have:sz<arr.size:=by omega
   simp[R6,p1,this]
  .obtain⟨u,D,A⟩:=hget sz x z;rw[D];exact A.dom d
def ux:∀l:Y Xp,NJ l=l.flatMap zH
 |[]=>rfl
 |x::r=>by rw[NJ,ux r];rfl
def CF:∀l:Y Sx,NI l=l.flatMap BA
 |[]=>rfl
 |x::r=>by rw[NI,CF r];rfl
def NH (e:Xp):bD Rq (Sf e)=zH e:=by
 cases e with
 |mk op n name l=>simp only[Rq,Sf,bD,zH,Xp.op,Xp.n,Xp.name,Xp.l,ux];rfl
def WN (x:Rq.den):zH (eL x)=bD Rq x:=by
 simp only[Rq,eL,bD,zH,ux];rfl
def NG (e:Sx):bD QY (Se e)=BA e:=by
 cases e with
 |mk op line name arg index expr body els=>simp only[QY,Se,bD,BA,Sx.op,Sx.line,Sx.name,Sx.arg,Sx.index,Sx.expr,Sx.body,Sx.els,ux,CF];rfl
def WM (x:QY.den):BA (o8 x)=bD QY x:=by
 simp only[QY,o8,bD,BA,ux,CF];rfl
def AZ (e:Xp):l! (zH e)=4:=by cases e;simp[zH]
def G1 (e:Sx):l! (BA e)=11:=by cases e;simp[BA,AZ]
def bl:∀(T:Ty) (v:T.den),l! (bD T v)=T.size
 |.int _,_|.bool,_|.str,_|.sl _,_=>rfl
 |.st t,v=>bl t v
 |.pr a b,v=>by simp[bD,Ty.size,bl a,bl b]
 |.un,_=>rfl
 |.ex,v=>AZ v
 |.sm,v=>G1 v
def NK (e:Xp):∀x∈zH e,x.isCell=J:=by
 cases e with
 |mk op n name l=>
  intro x z;simp[zH,aV,b7,fk]at z;rcases z with rfl|rfl|rfl|rfl<;>rfl
def ZC (e:Sx):∀x∈BA e,x.isCell=J:=by
 cases e with
 |mk op line name arg index expr body els=>
  intro x z;simp only[BA,bL,aV,b7,fk]at z;rcases z with (z|z)|z
  .rcases z with rfl|rfl|rfl|rfl|rfl<;>rfl
  .exact NK _ _ z
  .rcases z with rfl|rfl<;>rfl
def pd:∀(T:Ty) (v:T.den),∀x∈bD T v,x.isCell=J
 |.int _,_,x,z|.bool,_,x,z|.str,_,x,z|.sl _,_,x,z=>by simp[bD,aE]at z;subst z;rfl
 |.st t,v,x,z=>pd t v x z
 |.pr a b,v,x,z=>by
  simp[bD,bL]at z;exact z.elim (pd a v.1 x) (pd b v.2 x)
 |.un,_,x,z=>by simp[bD]at z
 |.ex,v,x,z=>NK v x z
 |.sm,v,x,z=>ZC v x z
def NL:∀(T:Ty) (v:T.den),T.one=J->bD T v=[gu T v]/\T.size=1
 |.int _,_,_|.bool,_,_|.str,_,_|.sl _,_,_=>⟨rfl,rfl⟩
 |.st _,_,h|.pr _ _,_,h|.un,_,h|.ex,_,h|.sm,_,h=>by cases h
def sq:∀(T:Ty) (v:T.den),T.one=af->gu T v= .agg (bD T v)
 |.int _,_,h|.bool,_,h|.str,_,h|.sl _,_,h=>by cases h
 |.st _,_,_|.pr _ _,_,_|.un,_,_|.ex,_,_|.sm,_,_=>rfl
def Du (T:Ty) (v:T.den):(AV.f (gu T v)).cs=(bD T v).map .f:=by
 cases h:T.one with
 |true=>
  cases T<;>simp[Ty.one]at h<;>first|rfl|cases h
 |false=>rw[sq T v h];rfl
def eE {f:R->Y FV} (hf:∀x,l! (f x)=i):∀(xs:Y R),l! (xs.flatMap f)=l! xs*i
 |[]=>by simp
 |x::r=>by rw[gh,bK,hf,eE hf r,kn,jT];omega
def IJ {f:R->Y FV} (hf:∀x,l! (f x)=i):∀(xs:Y R) (j:Nat) (x:R),xs[j]? =Z x->∃r,(xs.flatMap f).drop (j*i)=f x++r
 |[],j,x,h=>by simp at h
 |y::r,j,x,h=>by
  cases j with
  |zero=>simp at h;subst h;exact⟨r.flatMap f,by simp⟩
  |succ j=>
   let⟨q,z⟩:=IJ hf r j x (by grind);refine ⟨q,?_⟩;rw[gh,show (j+1)*i=l! (f y)+j*i from by rw[hf,jT];omega,xn];simp[z]
def Ns {f:R->Y FV} (hf:∀x,l! (f x)=i):∀(xs:Y R) (j:Nat) (x z:R),xs[j]? =Z x->∀(off:Nat) (vs:Y FV),off+l! vs<=i->f z=AI.splice (f x) off vs->(xs.set j z).flatMap f=AI.splice (xs.flatMap f) (j*i+off) vs
 |[],j,x,z,h,_,_,_,_=>by simp at h
 |y::r,j,x,z,h,off,vs,hle,D=>by
  cases j with
  |zero=>
   simp at h;subst h;simp only[List.set_cons_zero,gh,D,Nat.zero_mul,bX];unfold AI.splice;have hy:=hf y;rw[List.take_append,xn];have A:off-l! (f y)=0:=by omega
   have e2:off+l! vs-l! (f y)=0:=by omega
   rw[A,e2];simp[mP]
  |succ j=>
   have L:=Ns hf r j x z (by simpa using h) off vs hle D;simp only[List.set_cons_succ,gh,L];unfold AI.splice;have hy:=hf y;have e0:(j+1)*i=l! (f y)+j*i:=by rw[hf,jT];omega
   rw[e0,List.take_append,xn];have A:l! (f y)+j*i+off-l! (f y)=j*i+off:=by omega
   have e2:l! (f y)+j*i+off+l! vs-l! (f y)=j*i+off+l! vs:=by omega
   rw[A,e2,gB (by omega:l! (f y)<=l! (f y)+j*i+off),Da (by omega:l! (f y)<=l! (f y)+j*i+off+l! vs)];simp[mP]
def mD (T:Ty) (xs:Y T.den):∀x∈xs.flatMap (bD T),x.isCell=J:=λx z=>by
 let⟨y,_,h⟩:=xk.1 z;exact pd T y x h
def iO {T:Ty} {v:K.den} {x:T.den} (h:wO T v=Z x):∃e:K=T,x=e▸v:=by
 unfold wO at h
 grind
def ng (h:aX):∀(n:Nat) (T:Ty) (v:T.den) (l:Y TV),cellsOf n T v=Z l->cJ h l=Z ((bD T v).map .f)/\lU l=J
 |0,_,_,_,he=>by simp[cellsOf]at he
 |n+1,.st t,v,l,he=>ng h n t v l he
 |n+1,.pr a b,v,l,he=>by
  simp[cellsOf]at he;split at he
  .rename_i x y L D;simp[ah]at he;subst he;let⟨h1,A⟩:=ng h n a v.1 x L;let⟨h3,h4⟩:=ng h n b v.2 y D;refine ⟨by rw[bD,cD];exact oM h1 h3,?_⟩;clear h1 h3 L D;induction x with
   |nil=>exact h4
   |cons z r ih=>simp[lU,al,gP]at A ⊢;exact⟨A.1,ih A.2⟩
  .cases he
 |n+1,.un,v,l,he=>by simp[cellsOf,ah]at he;subst he;exact⟨rfl,rfl⟩
 |n+1,.ex,v,l,he=>by rw[bD,<-NH];exact ng h n Rq (Sf v) l he
 |n+1,.sm,v,l,he=>by rw[bD,<-NG];exact ng h n QY (Se v) l he
 |n+1,.int k,v,l,he|n+1,.bool,v,l,he|n+1,.str,v,l,he|n+1,.sl t,v,l,he=>by simp[cellsOf,ah]at he;subst he;exact⟨rfl,rfl⟩
def Sv (h:y.isCell=J):y.cs=[y]:=by
 cases y with
 |f x=>cases x<;>first|rfl|cases h
 |agg l=>cases h
 |_=>rfl
def Kv (A:u.cs=Z m) (D:bW h u=Z y):cJ h m=Z y.cs/\lU m=J:=by
 have one:(if u.isC then Z [u] else U)=Z m->cJ h m=Z y.cs/\lU m=J:=λA=>by
  split at A
  next L=>simp[ah]at A;subst A;exact⟨by rw[Sv (S6 D L)];exact qC D rfl,by simp[lU,L]⟩
  .cases A
 cases u with
 |agg q=>
  simp only[TV.cs]at A;split at A
  .rename_i L;simp[ah]at A;subst A;simp[bW]at D;split at D
   next l' hl=>simp[ah]at D;subst D;exact⟨hl,L⟩
   .cases D
  .cases A
 |f T x=>
  simp[bW,ah]at D;subst D;rw[Du];exact ng h 40 T x m A
 |_=>exact one A
def Fu (h:aX) (H H':HF) (m:Nat):Prop:=∀id,aK m id=J->H (nm id)=erHF h (nm id)/\H' (nm id)=U
def Fu.zero {H':HF}:Fu h S H' 0:=λid hid=>by simp at hid
def Fu.or {H':HF} (g:Fu h S H' (i|||j)):Fu h S H' i/\Fu h S H' j:=
 ⟨λid hid=>g id (by grind),λid hid=>g id (by grind)⟩
def bn :aK (gG i) j=J↔i=j:=by
 unfold gG;rw[Nat.one_shiftLeft,Nat.testBit_two_pow];simp
section pack
variable {h:aX} {H H':HF}
def Bg (d:rA H H') {x:K.den} (A:iy h K u=Z (x,i)) (D:bW h u=Z y) (g:Fu h H H' i):kz H H' y (.f (gu K x))/\l! y.cs=K.size/\(K.one=J->y.isCell=J)/\gZ H H' y.cs ((bD K x).map .f):=by
 cases u with
 |f S u=>
  simp[iy]at A;split at A
  next z L=>obtain⟨rfl,_⟩:=A;obtain⟨e,rfl⟩:=iO L;subst e;simp[bW,ah]at D;subst D;refine ⟨kz.refl d _,by rw[Du,bQ,bl],λho=>?_,by rw[Du];exact gZ.refl d _⟩;cases S<;>simp[Ty.one]at ho<;>first|rfl|cases ho
  .cases A
 |emp=>
  simp[iy]at A;split at A
  .simp[ah,aR]at A;obtain⟨rfl,_⟩:=A;simp[bW,ah]at D;subst D;exact⟨Le.emp.toH d,rfl,λ_=>rfl,⟨Le.emp.toH d,trivial⟩⟩
  .cases A
 |nil=>
  simp[iy]at A;split at A
  .simp[ah,aR]at A;obtain⟨rfl,_⟩:=A;simp[bW,ah]at D;subst D;exact⟨Le.nil.toH d,rfl,λ_=>rfl,⟨Le.nil.toH d,trivial⟩⟩
  .cases A
 |I id=>
  simp[iy]at A;split at A
  .rename_i ty p S xs hb;split at A
   .rename_i z L;obtain⟨rfl,rfl⟩:=A;obtain⟨e,rfl⟩:=iO L;subst e;let⟨g1,g2⟩:=g id (bn.2 rfl);rw[bG,hb]at g1;simp[bW,eM,hb,ah]at D;subst D;have key:kz H H' (dw p id S.size (l! xs)) (.f (gu (.sl S) xs)):=by
     unfold dw;split
     next hp=>simp only[al,cY]at hp;have:xs=[]:=dj.1 hp.2;subst this;exact Le.emp.toH d
     next hp=>simp only[aF,kJ,av hp]at g1;exact kz.I d g1 g2 (eE (bl S) xs)
    have hc:(dw p id S.size (l! xs)).isCell=J:=by unfold dw;split<;>rfl
    refine ⟨key,by rw[Sv hc];rfl,λ_=>hc,?_⟩;rw[Sv hc];exact⟨key,trivial⟩
   .cases A
  .cases A
 |_=>simp[iy]at A
def rG (d:rA H H'):∀(n:Nat) (T:Ty) (l:Y TV) (x:T.den) (m:Nat) (r:Y TV) (l':Y AV),fM h n T l=Z (x,m,r)->cJ h l=Z l'->Fu h H H' m->∃l1 A,l'=l1++A/\cJ h r=Z A/\gZ H H' l1 ((bD T x).map .f)
 |0,_,_,_,_,_,_,hp,_,_=>by simp[fM]at hp
 |n+1,.st t,l,x,m,r,l',hp,z,g=>rG d n t l x m r l' hp z g
 |n+1,.pr a b,l,x,m,r,l',hp,z,g=>by
  simp[fM]at hp;split at hp
  .rename_i D m1 r1 h1;split at hp
   next x2 m2 r2 h2=>simp[ah,aR]at hp;obtain⟨rfl,rfl,rfl⟩:=hp;let⟨ga,gb⟩:=g.or;obtain⟨l1,A,rfl,q1,L⟩:=rG d n a l D m1 r1 l' h1 z ga;obtain⟨l3,l4,rfl,q3,q4⟩:=rG d n b r1 x2 m2 r2 A h2 q1 gb;refine ⟨l1++l3,l4,by simp,q3,?_⟩;rw[bD,cD];exact L.append q4
   .cases hp
  .cases hp
 |n+1,.un,l,x,m,r,l',hp,z,g=>by
  obtain⟨_,_,rfl⟩:=hp;exact⟨[],l',rfl,z,trivial⟩
 |n+1,.ex,l,x,m,r,l',hp,z,g=>by
  simp[fM]at hp;split at hp
  next D m1 r1 h1=>simp[ah,aR]at hp;obtain⟨rfl,rfl,rfl⟩:=hp;rw[bD,WN];exact rG d n Rq l D m1 r1 l' h1 z g
  .cases hp
 |n+1,.sm,l,x,m,r,l',hp,z,g=>by
  simp[fM]at hp;split at hp
  next D m1 r1 h1=>simp[ah,aR]at hp;obtain⟨rfl,rfl,rfl⟩:=hp;rw[bD,WM];exact rG d n QY l D m1 r1 l' h1 z g
  .cases hp
 |n+1,.int k,l,x,m,r,l',hp,z,g|n+1,.bool,l,x,m,r,l',hp,z,g|n+1,.str,l,x,m,r,l',hp,z,g|n+1,.sl t,l,x,m,r,l',hp,z,g=>by
  simp[fM]at hp;split at hp
  .rename_i c q;split at hp
   next D m1 h1=>obtain⟨rfl,rfl,rfl⟩:=hp;obtain⟨y,A,rfl,q1,L⟩:=c4 z;exact⟨[y],A,rfl,L,⟨(Bg d h1 q1 g).1,trivial⟩⟩
   .cases hp
  .cases hp
def YL (d:rA H H') {x:K.den} {l:Nat} (hp:fM h i K m=Z (x,l,[])) (D:cJ h m=Z r) (g:Fu h H H' l):gZ H H' r ((bD K x).map .f):=by
 obtain⟨l1,L,rfl,z,A⟩:=rG d i K m x l [] r hp D g;simp[cJ,ah]at z;subst z;simpa using A
def Uo (d:rA H H') {x:K.den} (A:FA h K u=Z (x,i)) (D:bW h u=Z y) (g:Fu h H H' i):kz H H' y (.f (gu K x))/\gZ H H' y.cs ((bD K x).map .f):=by
 have other:iy h K u=Z (x,i)->kz H H' y (.f (gu K x))/\gZ H H' y.cs ((bD K x).map .f):=λA=>by
  let⟨h1,_,_,h2⟩:=Bg d A D g;exact⟨h1,h2⟩
 cases u with
 |agg l=>
  simp only[FA]at A;split at A
  .cases A
  .rename_i ho;split at A
   .rename_i L m1 h1;simp[ah,aR]at A;obtain⟨rfl,rfl⟩:=A;simp[bW]at D;split at D
    next l' hl=>simp[ah]at D;subst D;have:=YL d h1 hl g;refine ⟨?_,this⟩;rw[sq K L (by grind)];exact kz.aggL this (pd K L)
    .cases D
   .cases A
 |_=>exact other A
def F6 (d:rA H H') :∀(n:Nat) (l:Y TV) (xs:Y K.den) (m:Nat) (l':Y AV),D9 h K n l=Z (xs,m)->cJ h l=Z l'->Fu h H H' m->gZ H H' l' ((xs.flatMap (bD K)).map .f)/\l! xs=n
 |0,[],xs,m,l',hp,z,g=>by
  obtain⟨rfl,_⟩:=hp;simp[cJ,ah]at z;subst z;exact⟨trivial,rfl⟩
 |0,_::_,xs,m,l',hp,z,g=>by simp[D9]at hp
 |n+1,l,xs,m,l',hp,z,g=>by
  simp[D9]at hp;split at hp
  .rename_i L m1 A h1;split at hp
   next D m2 h2=>obtain⟨rfl,rfl⟩:=hp;let⟨ga,gb⟩:=g.or;obtain⟨l1,l2,rfl,q1,q2⟩:=rG d 40 K l L m1 A l' h1 z ga;let⟨q3,q4⟩:=F6 d n A D m2 l2 h2 q1 gb;refine ⟨?_,by simp[q4]⟩;rw[gh,cD];exact q2.append q3
   .cases hp
  .cases hp
def uv (h:aX):∀(n:Nat) (T:Ty) (v:T.den) (off sz:Nat) (L:Bool) (u:TV),og n T v off sz L=Z u->off+sz<=T.size/\∃y,bW h u=Z (.f y)/\(L=af->sz=1/\(bD T v)[off]? =Z y)/\(L=J->y= .agg (((bD T v).drop off).take sz))
 |0,_,_,_,_,_,_,z=>by simp[og]at z
 |n+1,.st t,v,off,sz,L,u,z=>by
  simp only[og]at z;split at z
  next D=>simp only[al]at D;obtain⟨⟨h1,A⟩,rfl⟩:=D;have h1:=au h1;have A:=au A;subst h1 A;cases z;refine ⟨by simp[Ty.size],_,rfl,nofun,λ_=>?_⟩;simp only[gu,bD,List.drop_zero];rw[<- bl t v,cM]
  .exact uv h n t v off sz L u z
 |n+1,.pr a b,v,off,sz,L,u,z=>by
  simp only[og]at z;have hla:=bl a v.1;have hlb:=bl b v.2;split at z
  .rename_i hlt;have hlt:off<a.size:=aT hlt;let⟨h1,y,A,h3,h4⟩:=uv h n a v.1 off sz L u z;refine ⟨by simp only[Ty.size];omega,y,A,λe=>?_,λe=>?_⟩
   .obtain⟨h5,h6⟩:=h3 e;exact⟨h5,by rw[bD,bI (by omega)];exact h6⟩
   .rw[h4 e,bD]
    grind
  .rename_i hlt;have hlt:¬off<a.size:=λh=>hlt (a_ h)
   let⟨h1,y,A,h3,h4⟩:=uv h n b v.2 (off-a.size) sz L u z;refine ⟨by simp only[Ty.size];omega,y,A,λe=>?_,λe=>?_⟩
   .obtain⟨h5,h6⟩:=h3 e;exact⟨h5,by rw[bD,b_ (by omega),hla];exact h6⟩
   .rw[h4 e,bD];have:(bD a v.1++bD b v.2).drop off=(bD b v.2).drop (off-a.size):=by
     rw[xn,hla,Da (by omega)];simp
    rw[this]
 |n+1,.un,v,off,sz,L,u,z=>by simp[og]at z
 |n+1,.ex,v,off,sz,L,u,z=>by
  simp only[og]at z;split at z
  next D=>simp only[al]at D;obtain⟨⟨h1,A⟩,rfl⟩:=D;have h1:=au h1;have A:=au A;subst h1 A;cases z;refine ⟨by simp[Ty.size],_,rfl,nofun,λ_=>?_⟩;simp only[gu,bD,List.drop_zero];rw[<- AZ v,cM]
  .obtain⟨h1,y,A,h3,h4⟩:=uv h n Rq (Sf v) off sz L u z;rw[NH]at h3 h4;exact⟨h1,y,A,h3,h4⟩
 |n+1,.sm,v,off,sz,L,u,z=>by
  simp only[og]at z;split at z
  next D=>simp only[al]at D;obtain⟨⟨h1,A⟩,rfl⟩:=D;have h1:=au h1;have A:=au A;subst h1 A;cases z;refine ⟨by simp[Ty.size],_,rfl,nofun,λ_=>?_⟩;simp only[gu,bD,List.drop_zero];rw[<- G1 v,cM]
  .obtain⟨h1,y,A,h3,h4⟩:=uv h n QY (Se v) off sz L u z;rw[NG]at h3 h4;exact⟨h1,y,A,h3,h4⟩
 |n+1,.int k,v,off,sz,L,u,z|n+1,.bool,v,off,sz,L,u,z|n+1,.str,v,off,sz,L,u,z|n+1,.sl t,v,off,sz,L,u,z=>by
  simp only[og]at z;split at z
  next D=>simp only[al,cR]at D;obtain⟨⟨h1,A⟩,rfl⟩:=D;have h1:=au h1;have A:=au A;subst h1 A;cases z;exact⟨by simp[Ty.size],_,rfl,λ_=>⟨rfl,rfl⟩,nofun⟩
  .cases z
def Yz (l vs:Y R) (h:l! vs=l! l):AI.splice l 0 vs=vs:=by
 unfold AI.splice
 grind
def UX (a b vs:Y R) (off:Nat) (h:off+l! vs<=l! a):AI.splice (a++b) off vs=AI.splice a off vs++b:=by
 unfold AI.splice
 grind
def Sl (a b vs:Y R) (off:Nat) (h:l! a<=off):AI.splice (a++b) off vs=a++AI.splice b (off-l! a) vs:=by
 unfold AI.splice;rw[List.take_append,xn,gB h,Da (by omega),show off+l! vs-l! a=off-l! a+l! vs from by omega];simp[mP]
def RX (H H':HF) (y:AV) (T:Ty) (v z:T.den) (off sz:Nat):Prop:=∃A:Y FV,gZ H H' y.cs (A.map .f)/\l! A=sz/\off+sz<=T.size/\bD T z=AI.splice (bD T v) off A/\∀x∈A,x.isCell=J
def RX.whole {v z:K.den} (h0:i=0) (A:j=K.size) (D:gZ H H' y.cs ((bD K z).map .f)):RX H H' y K v z i j:=by
 subst h0 A;exact⟨bD K z,D,bl K z,by omega,(Yz _ _ (by rw[bl,bl])).symm,pd K z⟩
def t_ (d:rA H H') (L:bW h u=Z y):∀(n:Nat) (T:Ty) (v:T.den) (off sz:Nat) (z:T.den) (m:Nat),gU h u n T v off sz=Z (z,m)->Fu h H H' m->RX H H' y T v z off sz
 |0,_,_,_,_,_,_,A,_=>by simp[gU]at A
 |n+1,.st t,v,off,sz,z,m,A,g=>by
  simp only[gU]at A;split at A
  .rename_i q hq;split at hq
   next D=>simp only[al]at D;simp only[ah]at A;subst A;exact .whole (au D.1) (au D.2) (Uo d hq L g).2
   .cases hq
  .exact t_ d L n t v off sz z m A g
 |n+1,.pr a b,v,off,sz,z,m,A,g=>by
  simp only[gU]at A;have hla:=bl a v.1;split at A
  .rename_i hlt;split at A
   next z1 m1 h1=>simp only[ah,aR]at A;obtain⟨rfl,rfl⟩:=A;let⟨fs,q1,q2,q3,q4,q5⟩:=t_ d L n a v.1 off sz z1 m1 h1 g;refine ⟨fs,q1,q2,by simp only[Ty.size];omega,?_,q5⟩;rw[bD,bD,UX _ _ _ _ (by omega),q4]
   .cases A
  .rename_i hlt;have hlt:¬off<a.size:=λh=>hlt (a_ h)
   split at A
   next z1 m1 h1=>simp only[ah,aR]at A;obtain⟨rfl,rfl⟩:=A;let⟨fs,q1,q2,q3,q4,q5⟩:=t_ d L n b v.2 (off-a.size) sz z1 m1 h1 g;refine ⟨fs,q1,q2,by simp only[Ty.size];omega,?_,q5⟩;rw[bD,bD,Sl _ _ _ _ (by omega),q4,hla]
   .cases A
 |n+1,.un,v,off,sz,z,m,A,g=>by simp[gU]at A
 |n+1,.ex,v,off,sz,z,m,A,g=>by
  simp only[gU]at A;split at A
  .rename_i q hq;split at hq
   next D=>simp only[al]at D;simp only[ah]at A;subst A;exact .whole (au D.1) (au D.2) (Uo d hq L g).2
   .cases hq
  .split at A
   next z1 m1 h1=>simp only[ah,aR]at A;obtain⟨rfl,rfl⟩:=A;let⟨fs,q1,q2,q3,q4,q5⟩:=t_ d L n Rq (Sf v) off sz z1 m1 h1 g;exact⟨fs,q1,q2,q3,by rw[bD,bD,WN,q4,NH],q5⟩
   .cases A
 |n+1,.sm,v,off,sz,z,m,A,g=>by
  simp only[gU]at A;split at A
  .rename_i q hq;split at hq
   next D=>simp only[al]at D;simp only[ah]at A;subst A;exact .whole (au D.1) (au D.2) (Uo d hq L g).2
   .cases hq
  .split at A
   next z1 m1 h1=>simp only[ah,aR]at A;obtain⟨rfl,rfl⟩:=A;let⟨fs,q1,q2,q3,q4,q5⟩:=t_ d L n QY (Se v) off sz z1 m1 h1 g;exact⟨fs,q1,q2,q3,by rw[bD,bD,WM,q4,NG],q5⟩
   .cases A
 |n+1,.int k,v,off,sz,z,m,A,g|n+1,.bool,v,off,sz,z,m,A,g|n+1,.str,v,off,sz,z,m,A,g|n+1,.sl t,v,off,sz,z,m,A,g=>by
  simp only[gU]at A;split at A
  next D=>simp only[al]at D;exact .whole (au D.1) (au D.2) (Bg d A L g).2.2.2
  .cases A
def OR:∀{a b:ξ},XT a b=J->a=b
 |[],[],_=>rfl
 |[],_::_,h|_::_,[],h=>by cases h
 |x::xs,y::ys,h=>by
  simp[XT,al]at h;rw[apd h.1,OR h.2]
def zero_ok (d:rA H H'):∀T:Ty,gZ H H' ((uY T).map raw) ((bD T T.zero).map .f)
 |.int k|.bool|.str=>⟨kz.refl d _,trivial⟩
 |.sl t=>⟨Le.nil.toH d,trivial⟩
 |.st t=>zero_ok d t
 |.pr a b=>by
  simp[uY,Ty.zero,bD,cD];exact (zero_ok d a).append (zero_ok d b)
 |.un=>trivial
 |.ex=>⟨kz.refl d _,kz.refl d _,kz.refl d _,Le.nil.toH d,trivial⟩
 |.sm=>⟨kz.refl d _,kz.refl d _,kz.refl d _,kz.refl d _,Le.nil.toH d,kz.refl d _,kz.refl d _,kz.refl d _,Le.nil.toH d,Le.nil.toH d,Le.nil.toH d,trivial⟩
def LD (d:rA H H') (T:Ty):∀n,gZ H H' ((repl (uY T) n).map .f) (((aC n T.zero).flatMap (bD T)).map .f)
 |0=>trivial
 |n+1=>by
  rw[repl,yz,gh,cD,cD];have h1:=zero_ok (H:=H) (H':=H') d T;have:((uY T).map .raw).map AV.f=(uY T).map raw:=by rw[kX];rfl
  rw[this];exact h1.append (LD d T n)
end pack
structure g_ (h:aX) (nx:Nat):Prop where
 G:∀id ty l,h.get id=Z (.G ty l)->lY h l=J
 low:∀id b,h.get id=Z b->id<nx
def sN (e:h_) (h:aX):Prop:=∀t v,e.get t=Z v->PI h v=J
structure fm (P:Program) (o:Oper) (still:Bool) (e:h_) (h:aX) (nx:Nat) (v:TV) (rd wr:Nat) (h':aX) (nx':Nat):Prop where
 ex:∃f:EG,gF P o (fU e h) (erHF h) f/\(∀y,bW h' v=Z y->f.val=y)/\fx (erHF h) f.wr f.nw=erHF h'/\(∀n∈f.rd,aK rd (ow n)=J)/\(∀n∈f.wr,aK wr (ow n)=J)/\(∀n∈f.N,nx<=ow n/\ow n<nx')
 H:bV h h'
 inv:g_ h' nx'
 jd:nx<=nx'
 st:still=J->rd=0/\wr=0
def i_ (P:Program) (o:Oper) (still:Bool) (e:h_) (h:aX) (nx:Nat) (K:KO R) (r:R):Prop:=
 ∃v rd z h' nx',K v rd z h' nx'=Z r/\fm P o still e h nx v rd z h' nx'
variable {b:Bool}
def cG {k:b=J->M R} {r:R} (h:chk b k=Z r):∃z:b=J,k z=Z r:=by
 cases b with
 |true=>exact⟨rfl,h⟩
 |false=>cases h
def lQ {t f:M R} {r:R} (h:aI b t f=Z r):(b=J/\t=Z r)\/(b=af/\f=Z r):=by
 cases b with
 |true=>exact .inl ⟨rfl,h⟩
 |false=>exact .inr ⟨rfl,h⟩
def dY {α:Type} {o:M α} {k:α->M R} {r:R} (h:aA o k=Z r):∃x,o=Z x/\k x=Z r:=by
 cases o with
 |some x=>exact⟨x,rfl,h⟩
 |none=>cases h
variable {a:Int}
def mY (h:dL a i=J):0<=a/\a<i/\a.toNat<i:=by
 simp[dL,db,gD,al,bE]at h;omega
def gF.envLe {o:Oper} {e e2:EF} {f:EG} (ht:gF T o e S f) (hle:∀t y,.tmp t∈o.op.operands->e t=Z y->∃A,e2 t=Z A/\Le A y):gF T o e2 S f:=by
 intro φ E h' w a h1 h2 h3 h4 L;refine ht φ E h' w a h1 h2 (λt z y D=>?_) h4 L;let⟨A,g1,g2⟩:=hle t y z D;exact g2 _ _ _ _ (h3 t z A g1)
def Ov (h:aX) (z:cst v=Z u):bW h u=Z (raw v)/\v.oneCell'=J/\u.isC=J:=by
 unfold cst at z;split at z<;>cases z<;>exact⟨rfl,rfl,rfl⟩
def xO (h:aX):∀{z:ξ} {l:Y TV},Ou z=Z l->cJ h l=Z (z.map raw)/\(∀x∈z,x.oneCell'=J)/\lU l=J
 |[],l,A=>by simp[Ou,ah]at A;subst A;exact⟨rfl,by simp,rfl⟩
 |v::r,l,A=>by
  simp[Ou]at A;split at A
  .rename_i x l' D L;simp[ah]at A;subst A;let⟨h1,h2,h3⟩:=Ov h D;let⟨h4,h5,h6⟩:=xO h L;refine ⟨qC h1 h4,λy hy=>?_,by simp[lU,h3,h6]⟩
   grind
  .cases A
variable {c:Operand}
def ba {e:h_} (hi:sN e h) (z:dB e c=Z u):∃y,mb (DV e h) c=Z y/\bW h u=Z y:=by
 cases c with
 |tmp t=>
  simp[dB]at z;let⟨y,D⟩:=pl h u (hi t u z);refine ⟨y,?_,D⟩;simp[mb];rw[Ds];simp[fU,z,aF,D]
 |const x=>
  simp[dB]at z;unfold ati at z;split at z
  .rename_i vs;split at z
   .rename_i h1;split at z
    next l L=>simp[ah]at z;subst z;refine ⟨.agg (vs.toList.map raw),?_,by simp[bW,(xO h L).1]⟩;simp only[mb,I4,h1,bk];rfl
    .cases z
   .cases z
  .rename_i hn;refine ⟨raw x,?_,(Ov h z).1⟩;simp[mb];unfold I4;split
   .grind
   .rfl
 |func g=>
  simp[dB,ah]at z;subst z;exact⟨_,rfl,rfl⟩
 |global g=>
  simp[dB]at z;cases A:G g with
  |none=>rw[A]at z;cases z
  |some cells=>
   rw[A]at z;simp[ah]at z;subst z;have hcells:cells=Gj:=by
    unfold G at A
    grind
   subst hcells;exact⟨_,by simp[mb,A];rfl,rfl⟩
def F_ {e:h_} (hi:sN e h):∀{xs:Y Operand} {l:Y TV},Ms e xs=Z l->∃l',evs (DV e h) xs=Z l'/\cJ h l=Z l'
 |[],l,z=>by simp[Ms,ah]at z;subst z;exact⟨[],rfl,rfl⟩
 |x::xs,l,z=>by
  simp[Ms]at z;split at z
  .rename_i y D;split at z
   next ys hys=>simp[ah]at z;subst z;let⟨A,h1,h2⟩:=ba hi D;let⟨l',h3,L⟩:=F_ hi hys;exact⟨A::l',by simp[evs,h1,h3],qC h2 L⟩
   .cases z
  .cases z
section ops
variable {R:Type} {P:Program} {o:Oper} {e:h_} {h:aX} {nx:Nat} {K:KO R} {r:R}
def fm.pure {s:UI} (hinv:g_ h nx) (hc:cL P o.op=Z s) {a:ny} (hH:a.get=erHF h) {k:Nat} {y0:AV} {rdl:ι} (ha:dA s (DV e h) a k=Z ⟨y0,rdl,[],[],[]⟩) (D:∀y,bW h u=Z y->Le y0 y) (hrd:∀n∈rdl,aK i (ow n)=J) (hst:b=J->i=0):fm P o b e h nx u i 0 h nx:=by
 have ht:=Mt hc ha;rw[Ds,hH]at ht;refine ⟨?_,λ_ _ h=>h,hinv,bJ _,λL=>⟨hst L,rfl⟩⟩;have key:∀y,Le y0 y->gF P o (fU e h) (erHF h) ⟨y,rdl,[],j9 [],[]⟩:=λy hle=>
  gF.view ht (λrd hi=>by cases hi) λh' _ _=>⟨O4.refl _,hle.toH (rA.refl _)⟩
 cases A:bW h u with
 |none=>exact⟨_,ht,λy z=>by simp at z,by simp[Dz.eff,vQ],hrd,by simp[Dz.eff],by simp[Dz.eff]⟩
 |some y=>exact⟨_,key y (D y A),λy' z=>by simpa using z,by simp[vQ],hrd,by simp,by simp⟩
def i_.q {s:UI} (hinv:g_ h nx) (L:cL P o.op=Z s) {k:Nat} {y0:AV} (ha:∀H:ny,H.get=erHF h->dA s (DV e h) H k=rv y0) (A:∀y,bW h u=Z y->Le y0 y) (D:K u 0 0 h nx=Z r):i_ P o b e h nx K r:=by
 let⟨H,z⟩:=gI h;exact⟨u,0,0,h,nx,D,fm.pure hinv L z (ha H z) A (by simp) λ_=>rfl⟩
def cI (A:bW h u=Z y):∀y0,bW h u=Z y0->Le y y0:=λy0 z=>by rw[A]at z;cases z;exact Le.refl _
def ahf {T:Ty} {xs:Y T.den} (L:dL a (l! xs)=J) {sz:Nat} (hg:og 40 T (geti _ xs a) i sz b=Z u):
 ∃y,bW h u=Z (.f y)/\(BC.fz (xs.flatMap (bD T))).sub? (a.toNat*T.size+i) sz b=Z (.f y):=by
 let⟨h1,y,h2,h3,h4⟩:=uv h 40 T _ i sz b u hg;refine ⟨y,h2,?_⟩;let⟨_,_,hlt⟩:=mY L;have D:xs[a.toNat]? =Z (geti _ xs a):=by
  unfold geti;rw[aw,aG hlt];rfl
 let⟨q,A⟩:=IJ (bl T) xs a.toNat _ D;have hlen:=eE (bl T) xs;have hle:(a.toNat+1)*T.size<=l! xs*T.size:=cH _ hlt;rw[jT]at hle;have hl:=bl T (geti _ xs a);cases b with
 |false=>
  let⟨h5,h6⟩:=h3 rfl;subst h5;simp only[BC.sub?,BC.get];have:(xs.flatMap (bD T))[a.toNat*T.size+i]? =Z y:=by
   rw[<- tN,A,bI (by omega)];exact h6
  rw[this];rfl
 |true=>
  simp only[BC.sub?];rw[aD (a_ (by omega)),h4 rfl,<-List.drop_drop,A,List.drop_append_of_le_length (by omega),sV (by grind)]
def aqq {T:Ty} {v:T.den} (A:og 40 T v i j b=Z u):
 ∃y,bW h u=Z (.f y)/\(BC.fz (bD T v)).sub? i j b=Z (.f y):=by
 let⟨h1,y,h2,h3,h4⟩:=uv h 40 T _ i j b u A;refine ⟨y,h2,?_⟩;have hl:=bl T v;cases b with
 |false=>
  let⟨L,D⟩:=h3 rfl;subst L;simp only[BC.sub?,BC.get,D];rfl
 |true=>
  simp[BC.sub?];simp_all
def ab0 {l':Y AV} (A:cJ h m=Z l') (z:Yw m i j b=Z u):∃y,bW h u=Z y/\(BC.mx l').sub? i j b=Z y:=by
 cases b with
 |false=>
  simp only[Yw]at z;split at z
  next h1=>have h1:=au h1;subst h1;let⟨y,D,h3⟩:=mE A i u z;exact⟨y,h3,by simp[BC.sub?,BC.get,D]⟩
  .cases z
 |true=>
  simp only[Yw]at z;split at z
  next h1=>simp[ah]at z;subst z;have D:=IR j (IV i A);exact⟨.agg ((l'.drop i).take j),by simp[bW,D],by simp[BC.sub?,iE A,h1,bk]⟩
  .cases z
def VF (z:lenOf h u=Z i) (A:bW h u=Z y):y.slen=Z i:=by
 unfold lenOf at z;split at z
 .simp[ah]at z;subst z;simp[bW,ah]at A;subst A;rfl
 .simp[ah]at z;subst z;simp[bW,ah]at A;subst A;rfl
 .simp[ah]at z;subst z;simp[bW,ah]at A;subst A;rfl
 .rename_i id;simp[bW]at A;cases D:eM h id with
  |none=>rw[D]at z;cases z
  |some q=>
   rw[D]at z A;simp[ah]at z A;subst z A;unfold dw;split
   next hp=>simp[al,cY]at hp;rw[hp.2];rfl
   .rfl
 .simp[ah]at z;subst z;simp[bW,ah]at A;subst A;rfl
 .simp[ah]at z;subst z;simp[bW,ah]at A;subst A;simp only[K9,uL];split
  next hp=>rw[cY]at hp;rw[hp];rfl
  .rfl
 .cases z
def HB (a b:ζ):tY ⟨a.toArray⟩ ⟨b.toArray⟩=decide (a=b):=by
 unfold tY
 grind
def apc {op:BinOp} {v:TV} {q:TV->M R} (z:atr op u v q=Z r):∃a b c t,bW h u=Z (raw a)/\bW h v=Z (raw b)/\w_ op a b=Z c/\bW h t=Z (raw c)/\q t=Z r:=by
 unfold atr at z;split at z
 .rename_i k a D b;split at z
  .rename_i hkk;have hkk':k=D:=by grind
   subst hkk';refine ⟨.int k a,.int k b,?_⟩;cases op<;>simp[reduceCtorEq]at z<;>first
    |cases z
    |exact⟨_,_,rfl,rfl,(by simp[w_,ch,bk]<;>rfl),rfl,z⟩
    |(let⟨L,z⟩:=cG z
      have A:(b==(0:Int))=af:=by grind
      exact⟨_,_,rfl,rfl,by simp[w_,ch,bk,A,cQ,dE],rfl,z⟩)
  .cases z
 .rename_i a b;refine ⟨.string ⟨jU a⟩,.string ⟨jU b⟩,?_⟩;split at z
  .exact⟨.bool (decide ((a:ζ)=b)),_,rfl,rfl,by simp[w_,HB],rfl,z⟩
  .exact⟨.bool (!decide ((a:ζ)=b)),_,rfl,rfl,by simp[w_,HB],rfl,z⟩
  .cases z
 .cases z
def ada {T:Ty}:∀{l:Y TV} {xs:Y T.den},zX T l=Z xs->∀k,k<l! l->l[k]? =Z (.f T (xs.getD k T.zero))
 |[],xs,_,k,A=>by simp at A
 |.f S v::r,xs,z,k,A=>by
  simp[zX]at z;split at z
  .rename_i x D;split at z
   .rename_i l L;simp[ah]at z;subst z;let⟨es,ex⟩:=iO D;cases es;subst ex;cases k with
    |zero=>rfl
    |succ k=>simpa using ada L k (by grind)
   .cases z
  .cases z
 |.zf _ _ _ _ _::r,xs,z,k,A|.zj _ _ _ _::r,xs,z,k,A|.P _ _::r,xs,z,k,A|.qg _ _ _::r,xs,z,k,A|.I _::r,xs,z,k,A|.emp::r,xs,z,k,A|.nil::r,xs,z,k,A|.mp _::r,xs,z,k,A|.agg _::r,xs,z,k,A|.qb _::r,xs,z,k,A|.qy _ _::r,xs,z,k,A|.undef::r,xs,z,k,A|.np::r,xs,z,k,A|.qw::r,xs,z,k,A|.qc _ _::r,xs,z,k,A|.sb _::r,xs,z,k,A=>by simp[zX]at z
def ad9 {T:Ty} {xs:Y T.den} (z:al5 m=Z ⟨T,xs⟩):∀k,k<l! m->m[k]? =Z (.f T (xs.getD k T.zero)):=by
 unfold al5 at z;split at z
 .split at z
  next D A=>cases z;exact ada A
  .cases z
 .cases z
variable (hinv:g_ h nx) (hi:sN e h)
include hinv hi
variable {X:FuncId->M co} {W:TypeId->M Ty}
def K_mv (D:cL P o.op=Z (.mv c)) (z:eK X W (.op (.mv c)) e h nx K=Z r):i_ P o b e h nx K r:=by
 simp[eK]at z;split at z
 next v A=>let⟨y,h1,L⟩:=ba hi A;exact i_.q (k:=0) hinv D (λH _=>by simp[dA,h1]) (cI L) z
 .cases z
def avf {a st:Operand} (hc:cL P o.op=Z (.pick c a st)) (D:eK X W (.op (.pick c a st)) e h nx K=Z r):i_ P o b e h nx K r:=by
 simp[eK]at D;split at D
 .rename_i t hv;let⟨y,h1,h2⟩:=ba hi hv;simp[bW,ah]at h2;subst h2;rcases lQ D with ⟨rfl,z⟩|⟨rfl,z⟩
  .split at z
   next v A=>let⟨y2,h3,L⟩:=ba hi A;exact i_.q (k:=0) hinv hc (λH _=>by simp[dA,h1,gu,bk,h3]) (cI L) z
   .cases z
  .split at z
   next v A=>let⟨y2,h3,L⟩:=ba hi A;exact i_.q (k:=0) hinv hc (λH _=>by simp[dA,h1,gu,h3,cQ,dE]) (cI L) z
   .cases z
 .cases D
def avg (hc:cL P o.op=Z (.zl c)) (D:eK X W (.op (.zl c)) e h nx K=Z r):i_ P o b e h nx K r:=by
 simp[eK]at D;split at D;all_goals first
  |(rename_i L
    let⟨y,h1,z⟩:=ba hi L;have A:=z;simp[bW,ah]at z;subst z;exact i_.q (k:=0) hinv hc (λH _=>by simp[dA,h1]) (cI A) D)
  |skip
 .rename_i g cap L;let⟨y,h1,z⟩:=ba hi L;have A:=z;simp[bW]at z;split at z
  .simp[ah]at z;subst z;exact i_.q (k:=0) hinv hc (λH _=>by simp[dA,h1]) (cI A) D
  .cases z
 .cases D
def ayu (L:cL P o.op=Z (.not c)) (z:eK X W (.op (.not c)) e h nx K=Z r):i_ P o b e h nx K r:=by
 simp[eK]at z;split at z
 next st D=>let⟨y,h1,A⟩:=ba hi D;simp[bW,ah]at A;subst A;exact i_.q (k:=0) hinv L (λH _=>by simp[dA,h1,gu];rfl) (cI rfl) z
 .cases z
def avn {k:IntKind} (L:cL P o.op=Z (.conv k c)) (z:eK X W (.op (.conv k c)) e h nx K=Z r):i_ P o b e h nx K r:=by
 simp[eK]at z;split at z
 next k' n D=>let⟨y,h1,A⟩:=ba hi D;simp[bW,ah]at A;subst A;exact i_.q (k:=0) hinv L (λH _=>by simp[dA,h1,gu];rfl) (cI rfl) z
 .cases z
def az8 {y:Operand} {st:Bool} (hc:cL P o.op=Z (.xj b c y)) (z:eK X W (.op (.xj b c y)) e h nx K=Z r):i_ P o st e h nx K r:=by
 simp[eK]at z;split at z
 next a neg hv A=>let⟨y,h1,L⟩:=ba hi hv;let⟨y2,h3,D⟩:=ba hi A;simp[bW,ah]at L D;subst L D;exact i_.q (k:=0) hinv hc (λH _=>by simp[dA,h1,h3,gu];rfl) (cI rfl) z
 .cases z
def aqa {st:Bool} (hc:cL P o.op=Z (.zd b c)) (A:eK X W (.op (.zd b c)) e h nx K=Z r):i_ P o st e h nx K r:=by
 simp[eK]at A;split at A
 next D=>let⟨y,h1,z⟩:=ba hi D;simp[bW,ah]at z;subst z;exact i_.q (k:=0) hinv hc (λH _=>by simp[dA,h1,Dm,bk];rfl) (cI rfl) A
 next D=>let⟨y,h1,z⟩:=ba hi D;simp[bW,ah]at z;subst z;exact i_.q (k:=0) hinv hc (λH _=>by simp[dA,h1]) (cI rfl) A
 .rename_i T xs D;let⟨y,h1,z⟩:=ba hi D;simp[bW,ah]at z;subst z;rcases lQ A with ⟨h3,L⟩|⟨h3,L⟩
  .have h3:=au h3;exact i_.q (k:=0) (y0:=.qw) hinv hc (λH _=>by simp[dA,h1,gu,h3]) (cI rfl) L
  .have h3:=nX h3;let⟨n,hn⟩:=Nat.exists_eq_succ_of_ne_zero h3;exact i_.q (k:=0) (y0:=raw (.bool b)) hinv hc (λH _=>by simp[dA,h1,gu,hn]) (cI rfl) L
 .rename_i id D;split at A
  next ty T xs hb=>let⟨y,h1,z⟩:=ba hi D;simp[bW,eM,hb,dw,jN,cQ,dE,ah]at z;subst z;exact i_.q (k:=0) (y0:=raw (.bool b)) hinv hc (λH _=>by simp[dA,h1]) (cI rfl) A
  .cases A
 .cases A
def ayz {y:Operand} (hc:cL P o.op=Z (.max c y)) (z:eK X W (.op (.max c y)) e h nx K=Z r):i_ P o b e h nx K r:=by
 simp[eK]at z;split at z
 .rename_i k a k' st hv A;let⟨y,h1,L⟩:=ba hi hv;let⟨y2,h3,D⟩:=ba hi A;simp[bW,ah]at L D;subst L D;split at z
  .exact i_.q (k:=0) hinv hc (λH _=>by simp[dA,h1,h3,gu];rfl) (cI rfl) z
  .cases z
 .cases z
def ayy {y:Operand} (hc:cL P o.op=Z (.min c y)) (z:eK X W (.op (.min c y)) e h nx K=Z r):i_ P o b e h nx K r:=by
 simp[eK]at z;split at z
 .rename_i k a k' st hv A;let⟨y,h1,L⟩:=ba hi hv;let⟨y2,h3,D⟩:=ba hi A;simp[bW,ah]at L D;subst L D;split at z
  .exact i_.q (k:=0) hinv hc (λH _=>by simp[dA,h1,h3,gu];rfl) (cI rfl) z
  .cases z
 .cases z
def az5 (L:cL P o.op=Z (.jb i c)) (z:eK X W (.op (.jb i c)) e h nx K=Z r):i_ P o b e h nx K r:=by
 simp[eK]at z;split at z;all_goals first
  |(rename_i D
    let⟨y,h1,A⟩:=ba hi D;simp[bW,ah]at A;subst A;exact i_.q (k:=0) hinv L (λH _=>by simp[dA,h1,uI]) (cI rfl) z)
  |cases z
def az4 {st:Bool} (hc:cL P o.op=Z (.fld i j b c)) (z:eK X W (.op (.fld i j b c)) e h nx K=Z r):i_ P o st e h nx K r:=by
 simp[eK]at z;split at z
 .rename_i l D;split at z
  .rename_i u L;let⟨y,h1,A⟩:=ba hi D;simp[bW]at A;split at A
   next l' hl=>simp[ah]at A;subst A;let⟨y,h3,h4⟩:=ab0 hl L;exact i_.q (k:=0) hinv hc (λH _=>by simp[dA,h1,h4]) (cI h3) z
   .cases A
  .cases z
 .rename_i T v D;split at z
  .cases z
  .rename_i ho;split at z
   next u L=>let⟨y,h1,A⟩:=ba hi D;simp[bW,ah]at A;rw[sq T v (by grind)]at A;subst A;let⟨y,h3,h4⟩:=aqq (h:=h) L;exact i_.q (k:=0) hinv hc (λH _=>by simp[dA,h1,h4]) (cI h3) z
   .cases z
 .cases z
def az2 {n:Operand} {st:Bool} (hc:cL P o.op=Z (.idx i j b c n)) (A:eK X W (.op (.idx i j b c n)) e h nx K=Z r):i_ P o st e h nx K r:=by
 simp[eK]at A;split at A
 .rename_i v0 k sz hv hv2;split at A
  .rename_i T xs hA;let⟨hb,A⟩:=cG A;cases b with
   |true=>cases hA
   |false=>
   simp only[awx]at hA;split at hA
   .rename_i hsz;simp only[al,cR]at hsz;have hsz1:=au hsz.1;subst hsz1;split at hA
    .rename_i l hl;split at hA
     .rename_i hn;have hn:=au hn;let⟨y,h1,D⟩:=ba hi hv;let⟨y2,h5,h6⟩:=ba hi hv2;simp[bW,ah]at h6;subst h6;have hj:sz.toNat<l! l:=by
       simp[al,db,gD,bE]at hb;omega
      have hg:=ad9 hA sz.toNat hj;let⟨he,_⟩:=Kv hl D;let⟨z,L,hz2⟩:=mE he sz.toNat _ hg;refine i_.q (k:=0) hinv hc (λH _=>?_) (cI hz2) A;cases v0 with
      |agg q=>
       simp[bW]at D;split at D
       next l' _=>simp[ah]at D;subst D;have L:l'[sz.toNat]? =Z z:=L;simp[dA,h1,h5,gu,hb,bk,BC.sub?,BC.get,HU,L]
       .cases D
      |f S u=>
       have ho:S.one=af:=by
        have:=hsz.2;simpa[TV.isC] using this
       simp[bW,ah]at D;rw[sq S u ho]at D;subst D;have L:((bD S u).map AV.f)[sz.toNat]? =Z z:=L;rw[bB]at L;simp[dA,h1,h5,gu,hb,bk,BC.sub?,BC.get,HU,L]
      |_=>simp[TV.cs,TV.isC]at hl hsz
     .cases hA
    .cases hA
   .cases hA
  .split at A
   .rename_i l;let⟨hb,A⟩:=cG A;split at A
    .rename_i u hs;let⟨y,h1,D⟩:=ba hi hv;let⟨y2,h5,h6⟩:=ba hi hv2;simp[bW,ah]at h6;subst h6;simp[bW]at D;split at D
     next l' hl=>simp[ah]at D;subst D;let⟨y,h3,h4⟩:=ab0 hl hs;exact i_.q (k:=0) hinv hc (λH _=>by simp[dA,h1,h5,gu,hb,bk,h4]) (cI h3) A
     .cases D
    .cases A
   .rename_i T v _;split at A
    .cases A
    .rename_i ho;let⟨hb,A⟩:=cG A;split at A
     next u hs=>let⟨y,h1,D⟩:=ba hi hv;let⟨y2,h5,h6⟩:=ba hi hv2;simp[bW,ah]at h6 D;subst h6;rw[sq T v (by grind)]at D;subst D;let⟨y,h3,h4⟩:=aqq (h:=h) hs;exact i_.q (k:=0) hinv hc (λH _=>by simp[dA,h1,h5,gu,hb,bk,h4]) (cI h3) A
     .cases A
   .cases A
 .cases A
def avl {n:Operand} (L:cL P o.op=Z (.jv i j c n)) (z:eK X W (.op (.jv i j c n)) e h nx K=Z r):i_ P o b e h nx K r:=by
 simp[eK]at z;split at z
 .rename_i id off k sz hv A;let⟨y,h1,h2⟩:=ba hi hv;let⟨y2,h5,h6⟩:=ba hi A;simp[bW,ah]at h6 h2;subst h6 h2;split at z
  .obtain⟨D,z⟩:=cG z;exact i_.q (k:=0) (y0:=.P (nm id) (off+sz.toNat*j)) hinv L (λH _=>by simp[dA,h1,h5,gu,D,bk]) (cI (by simp[bW];rw[Nat.add_comm])) z
  .obtain⟨D,z⟩:=cG z;exact i_.q (k:=0) hinv L (λH _=>by simp[dA,h1,h5,gu,D,bk]) (cI rfl) z
 .cases z
def az6 (hc:cL P o.op=Z (.ext c i)) (z:eK X W (.op (.ext c i)) e h nx K=Z r):i_ P o b e h nx K r:=by
 simp[eK]at z;split at z
 .rename_i l D;split at z
  .rename_i u L;let⟨y,h1,A⟩:=ba hi D;simp[bW]at A;split at A
   next l' hl=>simp[ah]at A;subst A;let⟨y,h3,h4⟩:=mE hl i u L;exact i_.q (k:=0) hinv hc (λH _=>by simp[dA,h1,h3]) (cI h4) z
   .cases A
  .cases z
 .cases z
def az1 (L:cL P o.op=Z (.len c)) (z:eK X W (.op (.len c)) e h nx K=Z r):i_ P o b e h nx K r:=by
 simp[eK]at z;split at z
 .rename_i v A;split at z
  next n D=>let⟨y,h1,h2⟩:=ba hi A;have h3:=VF D h2;exact i_.q (k:=0) hinv L (λH _=>by simp[dA,h1,h3];rfl) (cI rfl) z
  .cases z
 .cases z
def avj (L:cL P o.op=Z (.lens c)) (z:eK X W (.op (.lens c)) e h nx K=Z r):i_ P o b e h nx K r:=by
 simp[eK]at z;split at z
 next s D=>let⟨y,h1,A⟩:=ba hi D;simp[bW,ah]at A;subst A;exact i_.q (k:=0) hinv L (λH _=>by simp[dA,h1,gu];rfl) (cI rfl) z
 .cases z
def ave {i:Operand} (hc:cL P o.op=Z (.jx c i)) (z:eK X W (.op (.jx c i)) e h nx K=Z r):i_ P o b e h nx K r:=by
 simp[eK]at z;split at z
 .rename_i s k j hv A;let⟨hj,z⟩:=cG z;let⟨y,h1,L⟩:=ba hi hv;let⟨y2,h3,D⟩:=ba hi A;simp[bW,ah]at L D;subst L D;let⟨j0,j1,j2⟩:=mY hj;have e1:db 0 j=J:=by simp[db,j0]
  have e2:(⟨jU s⟩:ByteArray).data.toList[j.toNat]? =Z (List.getD s j.toNat 0):=by grind
  exact i_.q (k:=0) (y0:=raw (.int .u8 (aQ (List.getD s j.toNat 0).toNat))) hinv hc (λH _=>by simp only[dA,h1,h3,gu,e1,bk,e2];rfl) (cI rfl) z
 .cases z
def az3 {sz:Operand} (hc:cL P o.op=Z (.jf i c sz)) (z:eK X W (.op (.jf i c sz)) e h nx K=Z r):i_ P o b e h nx K r:=by
 simp only[eK]at z;split at z
 .rename_i id k j hv A;split at z
  .rename_i ty p T xs hb;split at z
   .rename_i D;have D:=au D;let⟨hj,z⟩:=cG z;let⟨y,h1,h2⟩:=ba hi hv;let⟨y2,h3,L⟩:=ba hi A;simp[bW,ah]at L;subst L;let⟨j0,j1,j2⟩:=mY hj;have hne:¬((p&&l! xs==0)=J):=by grind
    simp only[bW,eM,hb,dw,av hne,ah]at h2;subst h2;have hc1:(T.size==i&&db 0 j&&gD j (l! xs))=J:=by
     simp[dL,al]at hj;simp[D,hj.1,hj.2]
    exact i_.q (k:=0) hinv hc (λH _=>by simp[dA,h1,h3,gu,hc1,bk,dF]) (cI rfl) z
   .cases z
  .cases z
 .rename_i T xs k j hv A;split at z
  next D=>have D:=au D;let⟨hj,z⟩:=cG z;let⟨y,h1,h2⟩:=ba hi hv;let⟨y2,h3,L⟩:=ba hi A;simp[bW,ah]at L h2;subst L h2;have hj':(db 0 j&&gD j (aj xs))=J:=hj;exact i_.q (k:=0) hinv hc (λH _=>by simp[dA,h1,h3,gu,hj',bk,dF,D]) (cI rfl) z
  .cases z
 .rename_i id sz' n k j hv A;split at z
  .rename_i D;have D:=au D;subst D;let⟨hj,z⟩:=cG z;let⟨y,h1,h2⟩:=ba hi hv;let⟨y2,h3,L⟩:=ba hi A;simp[bW,ah]at L h2;subst L h2;have hj':(sz'==sz'&&db 0 j&&gD j n)=J:=by grind
   exact i_.q (k:=0) hinv hc (λH _=>by simp only[dA,h1,h3,gu,hj',bk]) (cI rfl) z
  .cases z
 .cases z
variable {f:FuncId}
def ayx {caps:Y Operand} (D:cL P o.op=Z (.mkf f caps)) (z:eK X W (.op (.mkf f caps)) e h nx K=Z r):i_ P o b e h nx K r:=by
 simp[eK]at z;split at z
 next l A=>let⟨l',h1,L⟩:=F_ hi A;exact i_.q (k:=0) hinv D (y0:=.qy f l') (λH _=>by simp[dA,h1]) (cI (by simp[bW,L])) z
 .cases z
def azc {op:BinOp} {y:Operand} (hc:cL P o.op=Z (.bin op c y)) (z:eK X W (.op (.bin op c y)) e h nx K=Z r):i_ P o b e h nx K r:=by
 simp[eK]at z;split at z
 next u v hv A=>let⟨a,st,x,t,h1,h2,h3,h4,h5⟩:=apc (h:=h) z;let⟨y,g1,g2⟩:=ba hi hv;let⟨y2,L,D⟩:=ba hi A;rw[h1]at g2;cases g2;rw[h2]at D;cases D;simp[raw]at g1 L;exact i_.q (k:=0) hinv hc (λH _=>by simp[dA,g1,L,h3]) (cI h4) h5
 .cases z
end ops
def iM:e9->M (Bool×q!)
 |.H _ p T xs=>Z (p,T.size,l! xs)
 |.qj p sz n=>Z (p,sz,n)
 |.Q F _ x|.qd F _ x _ _=>sk F x
 |_=>U
def bx (h:aX) (i:Nat):eM h i=(h.get i).bind iM:=by
 unfold eM;cases h.get i with
 |none=>rfl
 |some b=>cases b<;>rfl
def bV.refl (h:aX):bV h h:=λ_ _ h=>h
def bV.trans {b c:aX} (h1:bV h b) (z:bV b c):bV h c:=λi r a=>z i r (h1 i r a)
def bV.set {b:e9} (A:∀r,eM h i=Z r->iM b=Z r):bV h (h.set i (Z b)):=λj r z=>by
 rw[bx,PT.get_set];by_cases e:j=i
 .grind
 .rw[av e,<-bx];exact z
def Q3 {b:e9} {r:Bool×q!} (h:iM b=Z r):iM (u_ b)=Z r:=by
 cases b with
 |Q F a x|qd F a x k p=>simp[iM]at h;simp[u_,h,iM]
 |_=>first|exact h|cases h
def Cl {b:e9} {ty:M TypeId} (h:u_ b= .G ty m):False:=by
 cases b<;>simp[u_]at h<;>first|cases h|(split at h<;>cases h)
def MR (b:e9):∃p s n,u_ b= .qj p s n:=by
 cases b with
 |Q F a x|qd F a x k p=>simp only[u_];split<;>exact⟨_,_,_,rfl⟩
 |_=>exact⟨_,_,_,rfl⟩
def ak5 {b:e9} (A:Pq h i j (u_ b)=Z N):False:=by
 let⟨p,s,n,e⟩:=MR b;rw[e]at A;cases j<;>cases A
def iV (m:Nat) (h:aX) (i:Nat):(dK m h).get i=if aK m i then (h.get i).map u_ else h.get i:=by
 unfold dK;split
 .simp_all
 .rw[PT.get_updI];simp[Nat.one_mul,dF];cases h.get i with
  |none=>simp
  |some b=>simp[bh];split<;>rfl
def bV.kill (m:Nat) (h:aX):bV h (dK m h):=λi r z=>by
 rw[bx]at z ⊢;rw[iV];split
 .cases A:h.get i with
  |none=>rw[A]at z;cases z
  |some b=>rw[A]at z;exact Q3 z
 .exact z
def g_.set {nx':Nat} {b:e9} (hi:g_ h j) (A:bV h (h.set i (Z b))) (hlt:i<nx') (hle:j<=nx') (D:∀ty l,b= .G ty l->lY (h.set i (Z b)) l=J):g_ (h.set i (Z b)) nx':=by
 refine ⟨λnx ty l z=>?_,λnx c z=>?_⟩
 .rw[PT.get_set]at z;split at z
  .grind
  .exact fy A l (hi.G nx _ l z)
 .rw[PT.get_set]at z;split at z
  .omega
  .exact dy (hi.low nx c z) hle
def g_.kill (hi:g_ h i) (m:Nat):g_ (dK m h) i:=by
 refine ⟨λj ty l z=>?_,λj c z=>?_⟩
 .rw[iV]at z;refine fy (bV.kill m h) l (hi.G j ty l ?_);split at z
  .cases A:h.get j with
   |none=>rw[A]at z;cases z
   |some b=>rw[A]at z;exact (Cl (fX z)).elim
  .exact z
 .rw[iV]at z;split at z
  .cases A:h.get j with
   |none=>rw[A]at z;cases z
   |some b=>exact hi.low j b A
  .exact hi.low j c z
def WC {h':aX} (A:bV h h') {b:e9} (D:∀ty l,b= .G ty l->lY h l=J):kJ h' b=kJ h b:=by
 cases b with
 |G ty l=>
  let⟨l',z⟩:=fJ h l (D ty l rfl);cases ty<;>simp[kJ,z,gX A l l' z]
 |_=>rfl
def mF {h':aX} (z:bV h h') {b:e9} (A:∀ty l,b= .G ty l->lY h l=J) (i:Nat):∀k,Pq h' i k b=Pq h i k b
 |0=>WC z A
 |_+1=>rfl
def afb {h':aX} (hi:g_ h j) (z:bV h h') (A:h'.get i=h.get i):erHF h' (nm i)=erHF h (nm i):=by
 rw[bG,bG,A];cases D:h.get i with
 |none=>rfl
 |some b=>exact WC z λty l e=>hi.G i _ l (by rw[D,e])
def iP (h h':aX):Prop:=∀i k,(h'.get i).bind (wX i k)=(h.get i).bind (wX i k)
def iP.refl (h:aX):iP h h:=λ_ _=>rfl
def iP.trans {b c:aX} (h1:iP h b) (z:iP b c):iP h c:=λi k=>(z i k).trans (h1 i k)
def noM:M e9->Bool
 |some (.Q _ _ _)=>af
 |some (.qd _ _ _ _ _)=>af
 |_=>J
def LJ {c:M e9} (z:noM c=J) (i k:Nat):c.bind (wX i k)=U:=by
 cases c with
 |none=>rfl
 |some b=>cases b<;>first|rfl|cases z
def iP.set {b:M e9} (h1:noM (h.get i)=J) (z:noM b=J):iP h (h.set i b):=λj k=>by
 rw[PT.get_set];by_cases e:j=i
 .subst e;rw[aD rfl,LJ h1,LJ z]
 .rw[av e]
def iP.at_ {b:M e9} (h1:∀k,b.bind (wX i k)=(h.get i).bind (wX i k)):iP h (h.set i b):=λj k=>by
 rw[PT.get_set]
 grind
def iP.of {h':aX} (z:∀i,h'.get i=h.get i\/(noM (h.get i)=J/\noM (h'.get i)=J)):iP h h':=λj k=>by
 rcases z j with e|⟨A,e2⟩
 .rw[e]
 .rw[LJ A,LJ e2]
def iP.kill (hm:∀m,aK i m=J->∃ty p T xs,h.get m=Z (.H ty p T xs)):iP h (dK i h):=λj k=>by
 rw[iV];split
 next A=>let⟨ty,p,T,xs,z⟩:=hm j A;rw[z];rfl
 .rfl
def m_ {h':aX} (hi:g_ h i) (A:bV h h') (hm:iP h h') (D:∀nx,j=nm nx->h'.get nx=h.get nx):erHF h' j=erHF h j:=by
 cases z:ix j with
 |zero=>rw[pn z];exact afb hi A (D _ (pn z))
 |succ k=>
  have e:=kZ j;rw[z]at e;rw[<- e,kR,kR];exact hm _ k
def NA {h':aX} (hme:iP h h') (A:erHF h' i=Z N):erHF h i=Z N\/∃q z,i=nm q/\h'.get q=Z z/\kJ h' z=Z N:=by
 cases D:ix i with
 |zero=>
  let⟨z,h1,L⟩:=iW A;rw[D]at L;exact .inr ⟨ow i,z,pn D,h1,L⟩
 |succ k=>
  have e:=kZ i;rw[D]at e;rw[<- e,kR]at A ⊢;exact .inl ((hme _ _).symm.trans A)
def Jz (m:Nat):ι:=(al1 m).map nm
def o9 :j∈Jz i↔∃m,j=nm m/\aK i m=J:=by
 unfold Jz;rw[cr];constructor
 .rintro⟨m,h1,rfl⟩;exact⟨m,rfl,Rd.1 h1⟩
 .rintro⟨m,rfl,h1⟩;exact⟨m,Rd.2 h1,rfl⟩
def mT :nm i∈Jz j↔aK j i=J:=by
 rw[o9];constructor
 .rintro⟨m,h1,z⟩;rw[uM h1];exact z
 .grind
def dI (h:aX) (m:Nat):Prop:=∀i,aK m i=J->∃ty p T xs,h.get i=Z (.H ty p T xs)
def dI.zero (h:aX):dI h 0:=λi hi=>by simp at hi
def dI.or (A:dI h i) (z:dI h j):dI h (i|||j):=λa hi=>by
 rw[bu,nz]at hi;exact hi.elim (A a) (z a)
def nG {v:TV} {x:K.den} (A:iy h K v=Z (x,i)):dI h i:=by
 cases v with
 |f S v|emp|nil=>
  simp[iy]at A;split at A
  .simp[ah,aR]at A;rw[<- A.2];exact dI.zero h
  .cases A
 |I id=>
  simp[iy]at A;split at A
  .rename_i ty p S xs hb;split at A
   .simp[ah,aR]at A;rw[<- A.2];intro m hi;have:=bn.1 hi
    grind
   .cases A
  .cases A
 |_=>simp[iy]at A
def xt :∀(n:Nat) (T:Ty) (l:Y TV) (x:T.den) (m:Nat) (r:Y TV),fM h n T l=Z (x,m,r)->dI h m
 |0,_,_,_,_,_,hp=>by simp[fM]at hp
 |n+1,.st t,l,x,m,r,hp=>xt n t l x m r hp
 |n+1,.pr a b,l,x,m,r,hp=>by
  simp[fM]at hp;split at hp
  .rename_i z m1 A h1;split at hp
   next D m2 L h2=>simp[ah,aR]at hp;obtain⟨_,rfl,_⟩:=hp;exact (xt n a l z m1 A h1).or (xt n b A D m2 L h2)
   .cases hp
  .cases hp
 |n+1,.un,l,x,m,r,hp=>by
  obtain⟨_,rfl,_⟩:=hp;exact dI.zero h
 |n+1,.ex,l,x,m,r,hp=>by
  simp[fM]at hp;split at hp
  next z m1 A h1=>simp[ah,aR]at hp;obtain⟨_,rfl,_⟩:=hp;exact xt n Rq l z m1 A h1
  .cases hp
 |n+1,.sm,l,x,m,r,hp=>by
  simp[fM]at hp;split at hp
  next z m1 A h1=>simp[ah,aR]at hp;obtain⟨_,rfl,_⟩:=hp;exact xt n QY l z m1 A h1
  .cases hp
 |n+1,.int k,l,x,m,r,hp|n+1,.bool,l,x,m,r,hp|n+1,.str,l,x,m,r,hp|n+1,.sl t,l,x,m,r,hp=>by
  simp[fM]at hp;split at hp
  .split at hp
   next z m1 h1=>obtain⟨_,rfl,_⟩:=hp;exact nG h1
   .cases hp
  .cases hp
def ad8 {x:K.den} (A:FA h K u=Z (x,i)):dI h i:=by
 cases u with
 |agg l=>
  simp only[FA]at A;split at A
  .cases A
  .split at A
   next D m1 h1=>simp[ah,aR]at A;obtain⟨_,rfl⟩:=A;exact xt 40 K l D m1 [] h1
   .cases A
 |f S u=>exact nG (v:=.f S u) A
 |zf K xs j hj off=>exact nG (v:=.zf K xs j hj off) A
 |zj id sz j off=>exact nG (v:=.zj id sz j off) A
 |P id off=>exact nG (v:=.P id off) A
 |qg id off z=>exact nG (v:=.qg id off z) A
 |I id=>exact nG (v:=.I id) A
 |emp=>exact nG (v:=.emp) A
 |nil=>exact nG (v:=.nil) A
 |mp id=>exact nG (v:=.mp id) A
 |zh id L=>exact nG (v:=.zh id L) A
 |qb q=>exact nG (v:=.qb q) A
 |qy g q=>exact nG (v:=.qy g q) A
 |undef=>exact nG (v:=.undef) A
 |np=>exact nG (v:=.np) A
 |qw=>exact nG (v:=.qw) A
 |qc S q=>exact nG (v:=.qc S q) A
 |sb q=>exact nG (v:=.sb q) A
def Ss :∀(n:Nat) (l:Y TV) (xs:Y K.den) (m:Nat),D9 h K n l=Z (xs,m)->dI h m
 |0,[],xs,m,hp=>by simp[D9,ah,aR]at hp;rw[<- hp.2];exact dI.zero h
 |0,_::_,xs,m,hp=>by simp[D9]at hp
 |n+1,l,xs,m,hp=>by
  simp[D9]at hp;split at hp
  .rename_i D m1 z h1;split at hp
   next A m2 L=>obtain⟨_,rfl⟩:=hp;exact (xt 40 K l D m1 z h1).or (Ss n z A m2 L)
   .cases hp
  .cases hp
def Dd :∀(n:Nat) (T:Ty) (v:T.den) (off sz:Nat) (z:T.den) (m:Nat),gU h u n T v off sz=Z (z,m)->dI h m
 |0,_,_,_,_,_,_,A=>by simp[gU]at A
 |n+1,.st t,v,off,sz,z,m,A=>by
  simp[gU]at A;split at A
  .rename_i q D;split at D
   .simp[ah]at A;subst A;exact ad8 D
   .cases D
  .exact Dd n t v off sz z m A
 |n+1,.pr a b,v,off,sz,z,m,A=>by
  simp[gU]at A;split at A
  .split at A
   next L m1 h1=>simp[ah,aR]at A;obtain⟨_,rfl⟩:=A;exact Dd n a v.1 off sz L m1 h1
   .cases A
  .split at A
   next L m1 h1=>simp[ah,aR]at A;obtain⟨_,rfl⟩:=A;exact Dd n b v.2 _ sz L m1 h1
   .cases A
 |n+1,.un,v,off,sz,z,m,A=>by simp[gU]at A
 |n+1,.ex,v,off,sz,z,m,A=>by
  simp[gU]at A;split at A
  .rename_i q D;split at D
   .simp[ah]at A;subst A;exact ad8 D
   .cases D
  .split at A
   next L m1 h1=>simp[ah,aR]at A;obtain⟨_,rfl⟩:=A;exact Dd n Rq _ off sz L m1 h1
   .cases A
 |n+1,.sm,v,off,sz,z,m,A=>by
  simp[gU]at A;split at A
  .rename_i q D;split at D
   .simp[ah]at A;subst A;exact ad8 D
   .cases D
  .split at A
   next L m1 h1=>simp[ah,aR]at A;obtain⟨_,rfl⟩:=A;exact Dd n QY _ off sz L m1 h1
   .cases A
 |n+1,.int k,v,off,sz,z,m,A|n+1,.bool,v,off,sz,z,m,A|n+1,.str,v,off,sz,z,m,A|n+1,.sl t,v,off,sz,z,m,A=>by
  simp only[gU]at A;split at A
  .exact nG A
  .cases A
def vM (hm:dI h j) (z:aK j i=J):∃p sz n,(dK j h).get i=Z (.qj p sz n):=by
 let⟨ty,p,T,xs,h1⟩:=hm i z;exact⟨p,T.size,l! xs,by rw[iV,aD z,h1];rfl⟩
section ops
variable {R:Type} {P:Program} {o:Oper} {e:h_} {h:aX} {nx:Nat} {K:KO R} {r:R}
def eY (n:Nat) (b:kH):j9 [(n,b)] n=Z b:=by simp[j9]
def fm.mk' {s:UI} (hc:cL P o.op=Z s) {a:ny} (hH:a.get=erHF h) {k:Nat} {rdl wrl N:ι} {nw:NW} (ha:dA s (DV e h) a k=Z ⟨y,rdl,wrl,nw,N⟩) {h':aX} {wr:Nat} (wr':ι)
 (hsub:∀nx'∈wrl,nx'∈wr') (hsame:∀n,n∉wr'->erHF h' n=erHF h n)
 (hdom:∀nx'∈wr',∀b',erHF h' nx'=Z b'->∃b,(if nx'∈wrl then j9 nw nx' else erHF h nx')=Z b)
 (hblk:∀(L H2:HF),rA L H2->(∀nx'∈wrl,L nx'=j9 nw nx')->(∀nx'∈wr',nx'∉wrl->L nx'=erHF h nx')->(∀nx'∈wr',H2 nx'=erHF h' nx')->(∀nx'∈wr',∀b b',L nx'=Z b->H2 nx'=Z b'->gw L H2 b b')/\∀y0,bW h' u=Z y0->kz L H2 y y0)
 (hrd:∀n∈rdl,aK j (ow n)=J) (hwr:∀n∈wr',aK wr (ow n)=J) (hN:∀n∈N,nx<=ow n/\ow n<i) (hrows:bV h h') (hinv':g_ h' i) (hg:nx<=i):fm P o af e h nx u j wr h' i:=by
 have ht:=Mt hc ha;rw[Ds,hH]at ht;refine ⟨?_,hrows,hinv',hg,nofun⟩;have base:∀(val:AV),(∀y0,bW h' u=Z y0->y0=val)->(bW h' u=U->val=y)->gF P o (fU e h) (erHF h) ⟨val,rdl,wr',erHF h',N⟩:=by
  intro val hval hnone;refine gF.view ht (λnx' hi=>.inl (hsub nx' hi)) λh1 hr1 hw1=>?_
  have hd:rA (fx h1 wrl (j9 nw)) (fx h1 wr' (erHF h')):=by
   intro nx' b hb;unfold fx at hb ⊢
   grind
  let⟨q1,q2⟩:=hblk _ _ hd (λnx' hi=>by unfold fx;rw[aD hi]) (λnx' hi hw=>by unfold fx;rw[av hw];exact hw1 nx' hi) (λnx' hi=>by unfold fx;rw[aD hi]);refine ⟨⟨hd,λnx' b b' hb D=>?_⟩,?_⟩
  .by_cases hi:nx'∈wr'
   .grind
   .unfold fx at hb D;rw[av (λhw=>hi (hsub nx' hw))]at hb;rw[av hi,hb]at D;cases D;exact gw.refl hd b
  .cases A:bW h' u with
   |none=>rw[hnone A];exact kz.refl hd _
   |some y0=>rw[<- hval y0 A];exact q2 y0 A
 have hu:fx (erHF h) wr' (erHF h')=erHF h':=by
  unfold fx
  grind
 cases A:bW h' u with
 |none=>exact⟨_,base y (λy0 z=>by rw[A]at z;cases z) (λ_=>rfl),λy0 z=>(by cases z),hu,hrd,hwr,hN⟩
 |some y0=>exact⟨_,base y0 (λy' z=>by rw[A]at z;cases z;rfl) (λhn=>by rw[A]at hn;cases hn),λy' z=>by cases z;rfl,hu,hrd,hwr,hN⟩
def GY (hi:sN e h):∀(parts:Y n?) (cells cs:Y TV) (cells':Y AV),Nv cells e parts=Z cs->cJ h cells=Z cells'->∃cs',CD cells' (DV e h) parts=Z cs'/\cJ h cs=Z cs'/\(lU cells=J->lU cs=J)
 |[],cells,cs,cells',hf,he=>by simp only[Nv,ah]at hf;subst hf;exact⟨cells',rfl,he,id⟩
 |(off,sz,x)::rest,cells,cs,cells',hf,he=>by
  simp only[Nv]at hf;split at hf
  .rename_i v hv;split at hf
   .rename_i q hq;split at hf
    .rename_i L;simp only[al,cY]at L;let⟨y,h1,h2⟩:=ba hi hv;let⟨h3,h4⟩:=Kv hq h2;let⟨cs',h5,h6,h7⟩:=GY hi rest (splice cells off q) cs (splice cells' off y.cs) hf (rn off he h3);refine ⟨cs',?_,h6,λD=>h7 ?_⟩
     .simp only[CD,h1];rw[aD,h5];simp only[al,cY];exact⟨⟨by rw[iE h3];exact L.1,by rw[iE he];exact L.2⟩,tZ h3 h4⟩
     .clear h5 h6 h7 hf;have app:∀a b:Y TV,lU a=J->lU b=J->lU (a++b)=J:=by
       intro a b D hb;induction a with
       |nil=>exact hb
       |cons z r A=>simp only[lU,al,gP]at D ⊢;exact⟨D.1,A D.2⟩
      have tk:∀(a:Y TV) n,lU a=J->lU (a.take n)=J:=by
       intro a;induction a with
       |nil=>intro n h;simp[lU]
       |cons z r A=>
        intro n h;cases n with
        |zero=>rfl
        |succ n=>simp only[lU,al,yw]at h ⊢;exact⟨h.1,A n h.2⟩
      have dr:∀(a:Y TV) n,lU a=J->lU (a.drop n)=J:=by
       intro a;induction a with
       |nil=>intro n h;simp[lU]
       |cons z r A=>
        intro n h;cases n with
        |zero=>exact h
        |succ n=>simp only[lU,al,KE]at h ⊢;exact A n h.2
      unfold splice
      grind
    .cases hf
   .cases hf
  .cases hf
variable (hinv:g_ h nx) (hi:sN e h)
include hinv hi
variable {X:FuncId->M co} {W:TypeId->M Ty} {L:ξ}
def aqb {parts:Y n?} (hc:cL P o.op=Z (.build L parts)) (A:eK X W (.op (.build L parts)) e h nx K=Z r):i_ P o b e h nx K r:=by
 simp[eK]at A;split at A
 .rename_i l z;split at A
  next cs hf=>let⟨h1,_,_⟩:=xO h z;let⟨cs',h2,h3,_⟩:=GY hi parts l cs _ hf h1;refine i_.q (k:=0) (y0:=Rc cs') hinv hc (λH _=>by simp[dA,h2]) (λy D=>?_) A;simp[bW,h3,ah]at D;subst D;exact aiq cs'
  .cases A
 .cases A
def avi (hc:cL P o.op=Z (.load i b c)) (A:eK X W (.op (.load i b c)) e h nx K=Z r):i_ P o af e h nx K r:=by
 let⟨H,hH⟩:=gI h;simp only[eK]at A;split at A
 .rename_i id off hv;let⟨y,h1,L⟩:=ba hi hv;simp[bW,ah]at L;subst L;split at A
  .rename_i ty l hb;split at A
   .rename_i v hs;let⟨l',hl⟩:=fJ h l (hinv.G id _ l hb);let⟨y,h3,h4⟩:=ab0 hl hs;have hg:H.get (nm id)=Z ⟨ty,.mx l'⟩:=by rw[hH,bG,hb];simp[aF,kJ,hl]
    exact⟨v,gG id,0,h,nx,A,fm.pure (k:=0) hinv hc hH (y0:=y) (rdl:=[nm id]) (by simp[dA,h1,xT,hg,h4]) (cI h3) (λn D=>by simp[aE]at D;subst D;rw[dh];exact bn.2 rfl) nofun⟩
   .cases A
  .cases A
 .rename_i id sz' j off hv;let⟨y,h1,L⟩:=ba hi hv;simp[bW,ah]at L;subst L;split at A
  .rename_i ty p T xs hb;split at A
   .rename_i hsz;have hsz:=au hsz;let⟨hj,A⟩:=cG A;split at A
    .rename_i v hs;let⟨y,h3,h4⟩:=ahf (h:=h) hj hs;have hne:¬((p&&l! xs==0)=J):=by
      have:=mY hj
      grind
     have hg:H.get (nm id)=Z ⟨ty,.fz (xs.flatMap (bD T))⟩:=by rw[hH,bG,hb];simp only[aF,kJ,av hne]
     exact⟨v,gG id,0,h,nx,A,fm.pure (k:=0) hinv hc hH (y0:=.f y) (rdl:=[nm id]) (by simp[dA,h1,xT,hg,hsz,h4]) (cI h3) (λn D=>by simp[aE]at D;subst D;rw[dh];exact bn.2 rfl) nofun⟩
    .cases A
   .cases A
  .rename_i ty l hb;split at A
   .cases A
   .split at A
    .rename_i hsz;simp only[al]at hsz;have e1:=au hsz.1.1;have e2:=au hsz.1.2;have e3:=au hsz.2;subst e1 e2 e3;split at A
     .rename_i T xs hA;let⟨hj,A⟩:=cG A;let⟨l',hl⟩:=fJ h l (hinv.G id _ l hb);have hg:H.get (nm id)=Z ⟨ty,.mx l'⟩:=by rw[hH,bG,hb];simp[aF,kJ,hl]
      have hlt:j.toNat<l! l:=by
       simp[dL,al,db,gD,bE]at hj;omega
      let⟨z,hz1,hz2⟩:=mE hl j.toNat _ (ad9 hA j.toNat hlt);exact⟨_,gG id,0,h,nx,A,fm.pure (k:=0) hinv hc hH (y0:=z) (rdl:=[nm id]) (by simp[dA,h1,xT,hg,BC.sub?,BC.get,HU,dF,hz1]) (cI hz2) (λn D=>by simp[aE]at D;subst D;rw[dh];exact bn.2 rfl) nofun⟩
     .cases A
    .cases A
  .cases A
 .rename_i T xs j hj off hv;let⟨y,h1,L⟩:=ba hi hv;simp[bW,ah]at L;subst L;split at A
  next v hs=>let⟨y,h3,h4⟩:=ahf (h:=h) hj hs;exact i_.q (k:=0) (y0:=.f y) hinv hc (λH _=>by simp[dA,h1,xT,h4]) (cI h3) A
  .cases A
 .cases A
def aqc (hc:cL P o.op=Z (.alloc s L)) (hk:eK X W (.op (.alloc s L)) e h nx K=Z r):i_ P o af e h nx K r:=by
 have _:=hi;let⟨H,hH⟩:=gI h;simp[eK]at hk;split at hk
 .rename_i l hl;let⟨_,hz,_⟩:=xO h hl;have hnone:h.get nx=U:=by
   cases hb:h.get nx with
   |none=>rfl
   |some b=>have:=hinv.low nx b hb;omega
  have z:bV h (h.set nx (Z (.G (Z s) l))):=bV.set λr z=>by rw[bx,hnone]at z;cases z
  let⟨h1,_,_⟩:=xO (h.set nx (Z (.G (Z s) l))) hl;have hb':erHF (h.set nx (Z (.G (Z s) l))) (nm nx)=Z ⟨s,.mx (L.map raw)⟩:=by rw[bG,PT.get_set,aD rfl];simp[aF,kJ,h1]
  refine ⟨_,_,_,_,_,hk,fm.mk' hc hH (k:=nm nx) (by rfl) [nm nx] (λi hi=>hi) (λn A=>?_) (λi hi b' _=>⟨⟨s,.fz (L.map .raw)⟩,?_⟩) (λH1 H2 d hw1 _ hw2=>⟨λi hi b b' hb D=>?_,λy hy=>?_⟩) (by simp) ?_ ?_ z (hinv.set z (by omega) (by omega) λty' l' he=>?_) (by omega)⟩
  .refine m_ hinv z (iP.set (by rw[hnone];rfl) rfl) λi e=>?_
   rw[PT.get_set,av (λe=>A (by grind))]
  .simp[aE]at hi;subst hi;simp[j9]
  .simp[aE]at hi;subst hi;rw[hw1 _ (by simp)]at hb;rw[hw2 _ (by simp),hb']at D;rw[eY]at hb;simp[ah]at hb D;subst hb D;refine gw.G rfl rfl ?_ λx hx=>?_
   .simp[BC.toMx,kX];exact gZ.refl d _
   .simp only[BC.toMx]at hx;obtain⟨q,hq,rfl⟩:=cr.1 hx;exact hz q hq
  .simp[bW,ah]at hy;subst hy;exact kz.refl d _
  .intro n A;simp[aE]at A;subst A;rw[dh];exact bn.2 rfl
  .intro n A;simp[aE]at A;subst A;rw[dh];omega
  .cases he;exact mc _ _ _ h1
 .cases hk
def azb (hc:cL P o.op=Z (.box s c)) (L:eK X W (.op (.box s c)) e h nx K=Z r):i_ P o af e h nx K r:=by
 let⟨H,hH⟩:=gI h;simp[eK]at L;split at L
 .rename_i v hv;split at L
  .rename_i l hl;let⟨y,h1,h2⟩:=ba hi hv;let⟨h3,h4⟩:=Kv hl h2;have hcell:=tZ h3 h4;have hnone:h.get nx=U:=by
    cases hb:h.get nx with
    |none=>rfl
    |some b=>have:=hinv.low nx b hb;omega
   have z:bV h (h.set nx (Z (.G (Z s) l))):=bV.set λr z=>by rw[bx,hnone]at z;cases z
   have h5:=gX z l _ h3;have hb':erHF (h.set nx (Z (.G (Z s) l))) (nm nx)=Z ⟨s,.mx y.cs⟩:=by rw[bG,PT.get_set,aD rfl];simp[aF,kJ,h5]
   refine ⟨_,_,_,_,_,L,fm.mk' hc hH (k:=nm nx) (by simp only[dA,h1,hcell,bk];rfl) [nm nx] (λi hi=>hi) (λn A=>?_) (λi hi b' _=>⟨⟨s,ov y.cs⟩,?_⟩) (λH1 H2 d hw1 _ hw2=>⟨λi hi b b' hb D=>?_,λy hy=>?_⟩) (by simp) ?_ ?_ z (hinv.set z (by omega) (by omega) λty' l' he=>?_) (by omega)⟩
   .refine m_ hinv z (iP.set (by rw[hnone];rfl) rfl) λi e=>?_
    rw[PT.get_set,av (λe=>A (by grind))]
   .simp[aE]at hi;subst hi;simp[j9]
   .simp[aE]at hi;subst hi;rw[hw1 _ (by simp)]at hb;rw[hw2 _ (by simp),hb']at D;rw[eY]at hb;simp[ah]at hb D;subst hb D;let⟨q1,q2⟩:=nO y.cs;refine gw.G q2 rfl ?_ λc hx=>?_
    .rw[q1];exact gZ.refl d _
    .exact nh hcell c hx
   .simp[bW,ah]at hy;subst hy;exact kz.refl d _
   .intro n A;simp[aE]at A;subst A;rw[dh];exact bn.2 rfl
   .intro n A;simp[aE]at A;subst A;rw[dh];omega
   .cases he;exact mc _ _ _ h5
  .cases L
 .cases L
def aq9 {l:Operand} (hcm:Ht (W s)=U) (hc:cL P o.op=Z (.zm s i j L l c)) (A:eK X W (.op (.zm s i j L l c)) e h nx K=Z r):i_ P o af e h nx K r:=by
 let⟨H,hH⟩:=gI h;simp only[eK,hcm]at A;split at A
 .rename_i T k a k' b hT hv hv2;split at A
  .rename_i hsz;simp only[al]at hsz;have hs:=au hsz.1;have hz:=OR hsz.2;subst hs hz;let⟨hck,A⟩:=cG A;let⟨y,h1,h2⟩:=ba hi hv;let⟨y2,h3,h4⟩:=ba hi hv2;simp[bW,ah]at h2 h4;subst h2 h4;have hnone:h.get nx=U:=by
    cases hb:h.get nx with
    |none=>rfl
    |some b=>have:=hinv.low nx b hb;omega
   generalize hB:e9.H s af T (aC (aN a) T.zero)=B at A;have hr:bV h (h.set nx (Z B)):=bV.set λr hr=>by rw[bx,hnone]at hr;cases hr
   have hb':erHF (h.set nx (Z B)) (nm nx)=Z ⟨s,.fz ((aC (aN a) T.zero).flatMap (bD T))⟩:=by rw[bG,PT.get_set,aD rfl,<-hB];simp[kJ]
   refine ⟨_,_,_,_,_,A,fm.mk' hc hH (k:=nm nx) (by simp only[dA,h1,h3,gu,hck,bk];rfl) [nm nx] (λsz hi=>hi) (λn D=>?_) (λsz hi b' _=>⟨⟨s,.fz (repl (uY T) (aN a))⟩,?_⟩) (λH1 H2 d hw1 _ hw2=>⟨λsz hi b b' hb z=>?_,λy hy=>?_⟩) (by simp) ?_ ?_ hr (hinv.set hr (by omega) (by omega) λty' l' he=>?_) (by omega)⟩
   .refine m_ hinv hr (iP.set (by rw[hnone];rfl) (by rw[<- hB];rfl)) λsz e=>?_
    rw[PT.get_set,av (λe=>D (by grind))]
   .simp[aE]at hi;subst hi;simp[j9]
   .simp[aE]at hi;subst hi;rw[hw1 _ (by simp)]at hb;rw[hw2 _ (by simp),hb']at z;rw[eY]at hb;simp[ah]at hb z;subst hb z;refine gw.G rfl rfl (LD d T _) λx hx=>?_
    obtain⟨q,hq,rfl⟩:=cr.1 hx;exact mD T _ q hq
   .simp[bW,bx,PT.get_set,bk,<-hB,aF,iM,dw,jN,cQ,dE,ah,cP]at hy;subst hy;exact kz.refl d _
   .intro n D;simp[aE]at D;subst D;rw[dh];exact bn.2 rfl
   .intro n D;simp[aE]at D;subst D;rw[dh];omega
   .grind
  .cases A
 .cases A
end ops
def zF {f:R->Y FV} (hf:∀x,l! (f x)=i):∀(xs:Y R) (j:Nat),(xs.take j).flatMap f=(xs.flatMap f).take (j*i)
 |[],j|x::r,0=>by simp
 |x::r,j+1=>by
  rw[yw,gh,gh,zF hf r j,show (j+1)*i=l! (f x)+j*i from by rw[hf,jT];omega,List.take_length_add_append]
def Nt {f:R->Y FV} (hf:∀x,l! (f x)=i):∀(xs:Y R) (j:Nat),(xs.drop j).flatMap f=(xs.flatMap f).drop (j*i)
 |[],j|x::r,0=>by simp
 |x::r,j+1=>by
  rw[KE,gh,Nt hf r j,show (j+1)*i=l! (f x)+j*i from by rw[hf,jT];omega,List.drop_length_add_append]
variable {L:ξ}
def Ve :∀(n:Nat) (x:FV),x∈repl L n->∃v∈L,x= .raw v
 |0,x,h=>by simp[repl]at h
 |n+1,x,h=>by
  rw[repl,bL]at h;rcases h with h|h
  .grind
  .exact Ve n x h
def Kx:∀l:Y FV,(∀x∈l,x.isCell=J)->gE (l.map .f)=J
 |[],_=>rfl
 |z::r,h=>by simp[b9,gE,al];exact⟨h z (by simp),Kx r λx A=>h x (by grind)⟩
section ops
variable {R:Type} {P:Program} {o:Oper} {e:h_} {h:aX} {nx:Nat} {K:KO R} {r:R}
def g_.fresh (hinv:g_ h nx):h.get nx=U:=by
 cases z:h.get nx with
 |none=>rfl
 |some b=>have:=hinv.low nx b z;omega
def rA.kill (hinv:g_ h nx) (hm:dI h i):rA (erHF h) (erHF (dK i h)):=λn b hb=>by
 let⟨c,z,A⟩:=iW hb;rw[iV]at z;by_cases ht:aK i (ow n)=J
 .obtain⟨pp,ss,nn,L⟩:=vM hm ht;rw[iV]at L;rw[L]at z;cases z;cases D:ix n with
  |_=>rw[D]at A;cases A
 .rw[av ht]at z;refine ⟨b,?_⟩;unfold erHF;rw[z];simp[aF];rw[<- mF (bV.kill i h) (λty l e=>hinv.G (ow n) _ l (by rw[z,e]))];exact A
def dI.lt (hinv:g_ h nx) (hm:dI h j) (hi:aK j i=J):i<nx:=by
 let⟨_,_,_,_,z⟩:=hm i hi;exact hinv.low i _ z
def fm.new {s:UI} (hinv:g_ h nx) (hc:cL P o.op=Z s) {a:ny} (hH:a.get=erHF h) {y0:AV} {rdl:ι} {b0:kH} (ha:dA s (DV e h) a (nm nx)=Z ⟨y0,rdl,[nm nx],[(nm nx,b0)],[nm nx]⟩) {B:e9} {v:TV} {m rd:Nat} (hm:dI h m)
 (hB:∀ty l,B= .G ty l->lY ((dK m h).set nx (Z B)) l=J)
 (hblk:∀A z,rA A z->Fu h A z m->∀b',kJ ((dK m h).set nx (Z B)) B=Z b'->gw A z b0 b')
 (hval:∀A z y,rA A z->Fu h A z m->bW ((dK m h).set nx (Z B)) v=Z y->kz A z y0 y)
 (hrd:∀n∈rdl,aK rd (ow n)=J) (hMem:∀i k,wX i k B=U:=by exact λ_ _=>rfl):fm P o af e h nx v rd (m|||gG nx) ((dK m h).set nx (Z B)) (nx+1):=by
 have hk:=hinv.kill m;have hme:iP h ((dK m h).set nx (Z B)):=(iP.kill hm).trans (iP.at_ λk=>by rw[hk.fresh];exact hMem nx k);have hr0:=bV.kill m h;have hr1:bV (dK m h) ((dK m h).set nx (Z B)):=bV.set λr hr=>by rw[bx,hk.fresh]at hr;cases hr
 have hr:=hr0.trans hr1;have hgiv:∀i,aK m i=J->erHF ((dK m h).set nx (Z B)) (nm i)=U:=λi hi=>by
  have hlt:=hm.lt hinv hi;let⟨p,sz,n,hd⟩:=vM hm hi;rw[bG,PT.get_set,av (by omega),hd];rfl
 refine fm.mk' hc hH ha (nm nx::Jz m) (λi hi=>by simp[aE]at hi;subst hi;simp) (λn D=>?_) (λi hi b' hb'=>?_) (λA z d hw1 hw0 L=>?_) hrd ?_ ?_ hr (hk.set hr1 (by omega) (by omega) hB) (by omega)
 .refine m_ hinv hr hme λi e=>?_
  subst e;rw[PT.get_set,av (λe=>D (by grind)),iV,av];intro hb;exact D (bP _ (mT.2 hb))
 .rcases aV.1 hi with rfl|hi
  .exact⟨b0,by rw[aD (by simp),eY]⟩
  .obtain⟨j,rfl,hj⟩:=o9.1 hi
   grind
 .have g:Fu h A z m:=λi hi=>by
   have hlt:=hm.lt hinv hi;have hmem:nm i∈nm nx::Jz m:=bP _ (mT.2 hi);exact⟨hw0 _ hmem (λhc=>by simp[aE]at hc;have:=uM hc;omega),by rw[L _ hmem,hgiv i hi]⟩
  refine ⟨λi hi b b' hb hb2=>?_,λy hy=>hval A z y d g hy⟩;rcases aV.1 hi with rfl|hi'
  .rw[hw1 _ (by simp),eY]at hb;rw[L _ hi,bG,PT.get_set,aD rfl]at hb2
   grind
  .obtain⟨j,rfl,hj⟩:=o9.1 hi'
   grind
 .intro n D;rw[bu];rcases aV.1 D with rfl|D
  .rw[dh,bn.2 rfl];simp
  .obtain⟨j,rfl,hj⟩:=o9.1 D;rw[dh,hj];rfl
 .intro n D;simp[aE]at D;subst D;rw[dh];omega
def fm.wrt {s:UI} (hinv:g_ h nx) (hc:cL P o.op=Z s) {a:ny} (hH:a.get=erHF h) {y0:AV} {rdl:ι} {b0:kH} {k:Nat} (ha:dA s (DV e h) a k=Z ⟨y0,rdl,[nm i],[(nm i,b0)],[]⟩) {B0 B:e9} (hb0:h.get i=Z B0) {v:TV} {m rd:Nat} (hm:dI h m) (hmid:aK m i=af)
 (hrow:iM B=iM B0) (hB:∀ty l,B= .G ty l->lY ((dK m h).set i (Z B)) l=J)
 (hblk:∀A z,rA A z->Fu h A z m->∀b',kJ ((dK m h).set i (Z B)) B=Z b'->gw A z b0 b')
 (hval:∀A z y,rA A z->Fu h A z m->bW ((dK m h).set i (Z B)) v=Z y->kz A z y0 y)
 (hrd:∀n∈rdl,aK rd (ow n)=J) (hMem:∀k,wX i k B=wX i k B0:=by exact λ_=>rfl):fm P o af e h nx v rd (m|||gG i) ((dK m h).set i (Z B)) nx:=by
 have hk:=hinv.kill m;have hr0:=bV.kill m h;have hkid:(dK m h).get i=Z B0:=by rw[iV,hmid];simpa using hb0
 have hr1:bV (dK m h) ((dK m h).set i (Z B)):=bV.set λr hr=>by rw[bx,hkid]at hr;rw[hrow];exact hr
 have hme:iP h ((dK m h).set i (Z B)):=(iP.kill hm).trans (iP.at_ λk=>by rw[hkid];exact hMem k);have hr:=hr0.trans hr1;have hgiv:∀id,aK m id=J->erHF ((dK m h).set i (Z B)) (nm id)=U:=λid hi=>by
  have hne:id≠i:=λe=>by grind
  let⟨p,sz,n,hd⟩:=vM hm hi;rw[bG,PT.get_set,av hne,hd];rfl
 refine fm.mk' hc hH ha (nm i::Jz m) (λid hi=>by simp[aE]at hi;subst hi;simp) (λn D=>?_) (λid hi b' hb'=>?_) (λA z d hw1 hw0 L=>?_) hrd ?_ (by simp) hr (hk.set hr1 (hinv.low i B0 hb0) (by omega) hB) (by omega)
 .refine m_ hinv hr hme λid e=>?_
  subst e;rw[PT.get_set,av (λe=>D (by grind)),iV,av];intro hb;exact D (bP _ (mT.2 hb))
 .rcases aV.1 hi with rfl|hi
  .exact⟨b0,by rw[aD (by simp),eY]⟩
  .obtain⟨j,rfl,hj⟩:=o9.1 hi
   grind
 .have g:Fu h A z m:=λid hi=>by
   have hne:id≠i:=λe=>by grind
   have hmem:nm id∈nm i::Jz m:=bP _ (mT.2 hi);exact⟨hw0 _ hmem (λhc=>by simp[aE]at hc;exact hne (uM hc)),by rw[L _ hmem,hgiv id hi]⟩
  refine ⟨λid hi b b' hb hb2=>?_,λy hy=>hval A z y d g hy⟩;rcases aV.1 hi with rfl|hi'
  .rw[hw1 _ (by simp),eY]at hb;rw[L _ hi,bG,PT.get_set,aD rfl]at hb2
   grind
  .obtain⟨j,rfl,hj⟩:=o9.1 hi'
   grind
 .intro n D;rw[bu];rcases aV.1 D with rfl|D
  .rw[dh,bn.2 rfl];simp
  .obtain⟨j,rfl,hj⟩:=o9.1 D;rw[dh,hj];rfl
def Q4 (h:aX) (D:Ou L=Z m):∀len,cJ h (aC len m).flatten=Z ((repl L len).map .f)
 |0=>rfl
 |n+1=>by
  rw[yz,List.flatten_cons,repl,cD];refine oM ?_ (Q4 h D n);rw[(xO h D).1];simp only[kX];rfl
def Sr {H:ny} (hH:H.get=erHF h) {T:Ty} {ys:Y T.den} (A:FA h (.sl T) u=Z (ys,i)) (D:bW h u=Z y):∃rd,y.row? H T.size=Z ((ys.flatMap (bD T)).map .f,l! ys,rd)/\∀n∈rd,∃m,n=nm m/\aK i m=J:=by
 have fl:=λL:Y T.den=>eE (bl T) L
 have tk:∀L:Y T.den,(L.flatMap (bD T)).take (l! L*T.size)=L.flatMap (bD T):=λL=>by grind
 cases u with
 |f S x=>
  simp[FA,iy]at A;split at A
  next z hz=>obtain⟨e,rfl⟩:=iO hz;subst e;simp[bW,ah]at D;subst D;simp only[gu,AV.row?];simp_all
  .cases A
 |emp|nil=>
  obtain⟨rfl,_⟩:=A;simp[bW,ah]at D;subst D;exact⟨[],rfl,by simp⟩
 |I id=>
  simp[FA,iy]at A;split at A
  .rename_i ty p S xs hb;split at A
   .rename_i z hz;obtain⟨rfl,rfl⟩:=A;obtain⟨e,rfl⟩:=iO hz;cases e;simp[bW,eM,hb,ah]at D;subst D;unfold dw;split
    next hp=>simp only[al,cY]at hp;have:xs=[]:=dj.1 hp.2;subst this;exact⟨[],rfl,by simp⟩
    .rename_i hp;have hg:H.get (nm id)=Z ⟨ty,.fz (xs.flatMap (bD T))⟩:=by rw[hH,bG,hb];simp only[aF,kJ,av hp]
     refine ⟨[nm id],?_,λn hn=>?_⟩
     .simp only[AV.row?,hg,ch,bk,BC.isCells,BC.len,fo];rw[aD (a_ (by grind))];simp[BC.toMx,<-gO,tk]
     .simp[aE]at hn;exact⟨id,hn,bn.2 rfl⟩
   .cases A
  .cases A
 |agg l=>simp[FA,Ty.one]at A
 |_=>simp[FA,iy]at A
def Y3 (z:bW h u=Z y) (A:u.isC=J):gE y.cs=J:=by
 rw[Sv (S6 z A)];simp[gE,Bool.and_true];exact S6 z A
def afd (T:Ty) (x:T.den):gE ((bD T x).map .f)=J:=by
 have:∀l:Y FV,(∀x∈l,x.isCell=J)->gE (l.map .f)=J:=by
  intro l A;induction l with
  |nil=>rfl
  |cons z r D=>simp[b9,gE,al];exact⟨A z (by simp),D λx L=>A x (by grind)⟩
 exact this _ (pd T x)
def gJ {T:Ty} {v:TV} {x:T.den} (A:iy h T v=Z (x,i)) (D:bW h v=Z y):gE y.cs=J:=by
 cases v with
 |f S v=>simp[bW,ah]at D;subst D;rw[Du];exact afd S v
 |emp|nil|I id=>exact Y3 D rfl
 |_=>simp[iy]at A
def LZ {T:Ty} (L:T.one=J) {x:T.den} (A:iy h T u=Z (x,i)):u.isC=J:=by
 cases u with
 |f S u=>
  simp[iy]at A;split at A
  next z D=>let⟨e,_⟩:=iO D;subst e;exact L
  .cases A
 |emp|nil|I id=>rfl
 |_=>simp[iy]at A
def XY {b:Y TV} (A:lU m=J) (L:lU b=J):lU (m++b)=J:=by
 induction m with
 |nil=>exact L
 |cons z r D=>simp[lU,al,gP]at A ⊢;exact⟨A.1,D A.2⟩
def vI:∀(n:Nat) (T:Ty) (l:Y TV) (x:T.den) (m:Nat) (r:Y TV),fM h n T l=Z (x,m,r)->∃a,l=a++r/\lU a=J
 |0,_,_,_,_,_,hp=>by simp[fM]at hp
 |n+1,.st t,l,x,m,r,hp=>vI n t l x m r hp
 |n+1,.pr a b,l,x,m,r,hp=>by
  simp[fM]at hp;split at hp
  .rename_i z m1 A h1;split at hp
   next D m2 L h2=>simp[ah,aR]at hp;obtain⟨_,_,rfl⟩:=hp;obtain⟨a1,rfl,g1⟩:=vI n a l z m1 A h1;obtain⟨a2,rfl,g2⟩:=vI n b A D m2 L h2;exact⟨a1++a2,by simp,XY g1 g2⟩
   .cases hp
  .cases hp
 |n+1,.un,l,x,m,r,hp=>by
  obtain⟨_,_,rfl⟩:=hp;exact⟨[],rfl,rfl⟩
 |n+1,.ex,l,x,m,r,hp=>by
  simp[fM]at hp;split at hp
  next z m1 A h1=>simp[ah,aR]at hp;obtain⟨_,_,rfl⟩:=hp;exact vI n Rq l z m1 A h1
  .cases hp
 |n+1,.sm,l,x,m,r,hp=>by
  simp[fM]at hp;split at hp
  next z m1 A h1=>simp[ah,aR]at hp;obtain⟨_,_,rfl⟩:=hp;exact vI n QY l z m1 A h1
  .cases hp
 |n+1,.int k,l,x,m,r,hp|n+1,.bool,l,x,m,r,hp|n+1,.str,l,x,m,r,hp|n+1,.sl t,l,x,m,r,hp=>by
  simp[fM]at hp;split at hp
  .rename_i c q;split at hp
   next z m1 h1=>obtain⟨_,_,rfl⟩:=hp;exact⟨[c],rfl,by simp[lU,LZ rfl h1]⟩
   .cases hp
  .cases hp
def OV {T:Ty} {x:T.den} (D:FA h T u=Z (x,i)) (A:bW h u=Z y):gE y.cs=J:=by
 cases u with
 |agg l=>
  simp only[FA]at D;split at D
  .cases D
  .split at D
   .rename_i L m1 h1;let⟨a,e,ga⟩:=vI 40 T l L m1 [] h1;rw[pJ]at e;subst e;simp[bW]at A;split at A
    next l' hl=>simp[ah]at A;subst A;exact tZ hl ga
    .cases A
   .cases D
 |f S u=>exact gJ (v:=.f S u) D A
 |zf T xs j hj off=>exact gJ (v:=.zf T xs j hj off) D A
 |zj id sz j off=>exact gJ (v:=.zj id sz j off) D A
 |P id off=>exact gJ (v:=.P id off) D A
 |qg id off z=>exact gJ (v:=.qg id off z) D A
 |I id=>exact gJ (v:=.I id) D A
 |emp=>exact gJ (v:=.emp) D A
 |nil=>exact gJ (v:=.nil) D A
 |mp id=>exact gJ (v:=.mp id) D A
 |zh id jj=>exact gJ (v:=.zh id jj) D A
 |qb q=>exact gJ (v:=.qb q) D A
 |qy g q=>exact gJ (v:=.qy g q) D A
 |undef=>exact gJ (v:=.undef) D A
 |np=>exact gJ (v:=.np) D A
 |qw=>exact gJ (v:=.qw) D A
 |qc S q=>exact gJ (v:=.qc S q) D A
 |sb q=>exact gJ (v:=.sb q) D A
def oA (D:bW h u=Z y):∀(n:Nat) (T:Ty) (v:T.den) (off sz:Nat) (z:T.den) (m:Nat),gU h u n T v off sz=Z (z,m)->gE y.cs=J
 |0,_,_,_,_,_,_,A=>by simp[gU]at A
 |n+1,.st t,v,off,sz,z,m,A=>by
  simp[gU]at A;split at A
  .rename_i q L;split at L
   .exact OV L D
   .cases L
  .exact oA D n t v off sz z m A
 |n+1,.pr a b,v,off,sz,z,m,A=>by
  simp[gU]at A;split at A
  .split at A
   next z1 m1 h1=>exact oA D n a v.1 off sz z1 m1 h1
   .cases A
  .split at A
   next z1 m1 h1=>exact oA D n b v.2 _ sz z1 m1 h1
   .cases A
 |n+1,.un,v,off,sz,z,m,A=>by simp[gU]at A
 |n+1,.ex,v,off,sz,z,m,A=>by
  simp[gU]at A;split at A
  .rename_i q L;split at L
   .exact OV L D
   .cases L
  .split at A
   next z1 m1 h1=>exact oA D n Rq _ off sz z1 m1 h1
   .cases A
 |n+1,.sm,v,off,sz,z,m,A=>by
  simp[gU]at A;split at A
  .rename_i q L;split at L
   .exact OV L D
   .cases L
  .split at A
   next z1 m1 h1=>exact oA D n QY _ off sz z1 m1 h1
   .cases A
 |n+1,.int k,v,off,sz,z,m,A|n+1,.bool,v,off,sz,z,m,A|n+1,.str,v,off,sz,z,m,A|n+1,.sl t,v,off,sz,z,m,A=>by
  simp only[gU]at A;split at A
  .exact gJ A D
  .cases A
def OZ (l:Y FV):zY (l.map .f)=Z l:=by
 induction l with
 |nil=>rfl
 |cons x r z=>simp[b9,zY,z]
def wu (l:Y FV):ov (l.map .f)= .fz l:=by unfold ov;rw[OZ]
def Ky:∀{a b:Y TV},lU a=J->lU b=J->lU (a++b)=J
 |[],_,_,z=>z
 |x::r,b,A,z=>by
  simp[lU,al]at A;simp[gP,lU,al];exact⟨A.1,Ky A.2 z⟩
def Ja (A:lU m=J):∀n,lU (aC n m).flatten=J
 |0=>rfl
 |n+1=>by exact Ky A (Ja A n)
def acy {H:ny} (L:H.get=erHF h) {l':Y AV} (D:h.get i=Z (.G (Z j) m)) (z:cJ h m=Z l') {n sz:Nat} (hn:l! m=n*sz):AV.row? H sz (.I (nm i) sz n)=Z (l',n,[nm i]):=by
 have A:H.get (nm i)=Z ⟨j,.mx l'⟩:=by rw[L,bG,D];simp[aF,kJ,z]
 have hln:=iE z;simp only[AV.row?,ch,bk,A,BC.isCells,fo,BC.len,BC.toMx];rw[aD (a_ (by omega)),gB (by omega)]
variable (hinv:g_ h nx) (hi:sN e h)
include hinv hi
variable {X:FuncId->M co} {W:TypeId->M Ty}
def avo {parts:Y n?} (hcm:Ht (W s)=U) (hc:cL P o.op=Z (.xx s i j L parts)) (D:eK X W (.op (.xx s i j L parts)) e h nx K=Z r):i_ P o af e h nx K r:=by
 let⟨H,hH⟩:=gI h;simp only[eK,hcm]at D;split at D
 .rename_i T zc hT hz;split at D
  .rename_i hs;have hs:=au hs;subst hs;split at D
   .rename_i cs hf;split at D
    .rename_i xs m hp;let⟨cs',h1,h2,_⟩:=GY hi parts _ cs _ hf (Q4 h hz j);have hm:=Ss j cs xs m hp;refine ⟨_,_,_,_,_,D,fm.new hinv hc hH (y0:=if j=0 then .emp else .I (nm nx) T.size j) (rdl:=[]) (b0:=⟨s,ov cs'⟩) (by simp[dA,h1]) hm (λ_ _ he=>by cases he) (λH1 H2 d g b' A=>?_) (λH1 H2 y d g hy=>?_) (by simp)⟩
     .simp only[kJ]at A;split at A
      .cases A
      rw[ah]at A;subst A;let⟨q1,q2⟩:=nO cs';refine gw.G q2 rfl ?_ λx hx=>?_
      .rw[q1];exact (F6 d j cs xs m cs' hp h2 g).1
      .simp only[BC.toMx]at hx;obtain⟨q,z,rfl⟩:=cr.1 hx;exact mD T _ q z
     .simp only[bW,bx,PT.get_set,bk,aF,iM,dw,ah]at hy;rw[(F6 d j cs xs m cs' hp h2 g).2]at hy;split at hy
      next z=>simp only[al,cY]at z;subst hy;rw[aD z.2];exact kz.refl d _
      next z=>subst hy;rw[av (λh0=>z (by simp_all))];exact kz.refl d _
    .cases D
   .cases D
  .cases D
 .cases D
def Up {H:ny} (hH:H.get=erHF h) {ty:Operand} {T:Ty} {z:Y T.den} {yy:AV} {rdl:ι} (hc:cL P o.op=Z (.app s T.size i ty c)) (h1:mb (DV e h) ty=Z y) (h2:bW h u=Z y) (h3:mb (DV e h) c=Z yy) (h5:yy.row? H T.size=Z ((z.flatMap (bD T)).map .f,l! z,rdl)) (h6:∀n∈rdl,aK j (ow n)=J) (A:apf s T.size i T u z j h nx K=Z r):i_ P o af e h nx K r:=by
 have hfr:=hinv.fresh;have _:=hi;unfold apf at A;have onEmp:∀(rd':Nat),(∀n∈rdl,aK rd' (ow n)=J)->Fe y=J->Le y .emp->bc (aj z) i=J->fm P o af e h nx (.I nx) rd' (gG nx) (h.set nx (Z (.H s J T z))) (nx+1):=by
  intro rd' hrd' he hle hroom;have hr1:bV h (h.set nx (Z (.H s J T z))):=bV.set λr hr=>by rw[bx,hfr]at hr;cases hr
  have hyb:∀id sz' n,y≠ .I id sz' n:=by rintro id sz' n rfl;cases he
  have L:dA (.app s T.size i ty c) (DV e h) H (nm nx)=if aj z==0 then Z ⟨y,rdl,[],[],[]⟩ else Z ⟨.I (nm nx) T.size (aj z),rdl,[nm nx],[(nm nx,⟨s,ov ((z.flatMap (bD T)).map .f)⟩)],[nm nx]⟩:=by
   simp only[dA,h1,h3,h5];cases y with
   |I id sz' n=>exact cq rfl (hyb id sz' n)
   |qc l n=>cases he
   |_=>simp only[he,hroom,fw,bk]
  by_cases hl:aj z=0
  .rw[hl]at L;simp only[ch,bk]at L;have hnil:z=[]:=dj.1 hl;subst hnil;refine fm.mk' hc hH L [] (by simp) (λn _=>?_) (by simp) (λH1 H2 d _ _ _=>⟨by simp,λyb hy=>?_⟩) hrd' (by simp) (by simp) hr1 (hinv.set hr1 (by omega) (by omega) λ_ _ he=>by cases he) (by omega)
   .by_cases D:n=nm nx
    .subst D;rw[bG,bG,PT.get_set,aD rfl,hfr];rfl
    .refine m_ hinv hr1 (iP.set (by rw[hfr];rfl) rfl) λbytes e=>?_
     subst e;rw[PT.get_set,av (λe=>D (by rw[e]))]
   .simp only[bW,bx,PT.get_set,bk,aF,iM,dw,pI,ch,fw,ah]at hy;subst hy;exact hle.toH d
  .rw[av (by simpa using hl)]at L;rw[wu]at L;have key:=fm.new (m:=0) (rd:=rd') hinv hc hH L (B:=.H s J T z) (v:=.I nx) (dI.zero h) (λ_ _ he=>by cases he) (λH1 H2 d g b' hb'=>by
    simp only[kJ]at hb';rw[av (by simpa using hl)]at hb';cases hb';exact gw.refl d _) (λH1 H2 yb d g hy=>by
    simp only[bW,bx,PT.get_set,bk,aF,iM,dw]at hy;rw[av (by simpa using hl)]at hy;cases hy;exact kz.refl d _) hrd'
   rw[wS]at key;exact key
 split at A
 .rename_i id;split at A
  .rename_i ty' p S xs0 hb;split at A
   .rename_i xs hxs;obtain⟨ee,rfl⟩:=iO hxs;cases ee;split at A
    .rename_i hcond;simp only[al,cY,cR]at hcond;obtain⟨rfl,hmid⟩:=hcond;let⟨hroom,A⟩:=cG A;simp only[bW,eM,hb,ah]at h2;have hidlt:=hinv.low id _ hb;have hne:nx≠id:=by omega
     have hrd:∀n∈rdl,aK (gG id|||j) (ow n)=J:=λn D=>by
      rw[bu,h6 n D];simp
     generalize hh':(h.set id (Z (.qj p T.size (aj xs0)))).set nx (Z (.H ty' p T (xs0++z)))=h' at A;have hrA:bV h (h.set id (Z (.qj p T.size (aj xs0)))):=bV.set λr hr=>by rw[bx,hb]at hr;exact hr
     have hg2:∀bytes,h'.get bytes=if bytes=nx then Z (.H ty' p T (xs0++z)) else if bytes=id then Z (.qj p T.size (aj xs0)) else h.get bytes:=λbytes=>by rw[<- hh',PT.get_set,PT.get_set]
     have hr:bV h h':=by
      rw[<- hh'];refine hrA.trans (bV.set λr hr=>?_);rw[bx,PT.get_set,av hne,hfr]at hr;cases hr
     have hinv':g_ h' (nx+1):=by
      refine ⟨λbytes s l hil=>?_,λbytes x hic=>?_⟩
      .rw[hg2]at hil;split at hil
       .cases hil
       .split at hil
        .cases hil
        .exact fy hr l (hinv.G bytes _ l hil)
      .rw[hg2]at hic;split at hic
       .omega
       .split at hic
        .omega
        .have:=hinv.low bytes x hic;omega
     have hme:iP h h':=(iP.of λbytes=>by
      rw[hg2];by_cases e1:bytes=nx
      .rw[aD e1,e1,hfr];exact .inr ⟨rfl,rfl⟩
      .rw[av e1];by_cases e2:bytes=id
       .rw[aD e2,e2,hb];exact .inr ⟨rfl,rfl⟩
       .rw[av e2];exact .inl rfl)
     have hsame:∀n,n≠nm nx->n≠nm id->erHF h' n=erHF h n:=λn h1 h2=>m_ hinv hr hme λbytes e=>by
      subst e;rw[hg2,av (λe=>h1 (by rw[e])),av (λe=>h2 (by rw[e]))]
     have hdead:erHF h' (nm id)=U:=by rw[bG,hg2,av (by omega),aD rfl];rfl
     have hnew:erHF h' (nm nx)=if p&&l! (xs0++z)==0 then U else Z ⟨ty',.fz ((xs0++z).flatMap (bD T))⟩:=by rw[bG,hg2,aD rfl];rfl
     have hval:bW h' (.I nx)=Z (dw p nx T.size (l! (xs0++z))):=by simp only[bW,bx,hg2,bk,aF,iM]
     have hwm:∀n,n=nm nx\/n=nm id->aK (gG id|||gG nx) (ow n)=J:=λn D=>by
      rcases D with rfl|rfl<;>rw[dh,bu,bn.2 rfl]<;>simp
     refine ⟨_,_,_,_,_,A,?_⟩;by_cases hp:(p&&l! xs0==0)=J
     ·
      have hyb:y= .emp:=by rw[<- h2];unfold dw;rw[aD hp]
      subst hyb;simp only[al,cY]at hp;obtain⟨rfl,hl0⟩:=hp;have hnil:xs0=[]:=dj.1 hl0;subst hnil;have hroom':bc (aj z) i=J:=by simpa using hroom
      have L:dA (.app ty' T.size i ty c) (DV e h) H (nm nx)=if aj z==0 then Z ⟨.emp,rdl,[],[],[]⟩ else Z ⟨.I (nm nx) T.size (aj z),rdl,[nm nx],[(nm nx,⟨ty',ov ((z.flatMap (bD T)).map .f)⟩)],[nm nx]⟩:=by
       simp only[dA,h1,h3,h5,Fe,hroom',fw,bk]
      have hdead0:erHF h (nm id)=U:=by rw[bG,hb];rfl
      by_cases hl:aj z=0
      .rw[hl]at L;simp only[ch,bk]at L;have hnil:z=[]:=dj.1 hl;subst hnil;refine fm.mk' hc hH L [] (by simp) (λn _=>?_) (by simp) (λH1 H2 d _ _ _=>⟨by simp,λyb hy=>?_⟩) hrd (by simp) (by simp) hr hinv' (by omega)
       .by_cases D:n=nm nx
        .subst D;rw[hnew,bG,hfr];rfl
        .by_cases hn2:n=nm id
         .subst hn2;rw[hdead,hdead0]
         .exact hsame n D hn2
       .rw[hval]at hy;simp only[dw,pJ,pI,ch,fw,bk,ah]at hy;subst hy;exact kz.refl d _
      .rw[av (by simpa using hl),wu]at L;refine fm.mk' hc hH L [nm nx] (λbytes hi=>hi) (λn D=>?_) (λbytes hi b' _=>⟨_,by rw[aD hi];simp only[aE]at hi;subst hi;exact eY _ _⟩) (λH1 H2 d hw1 _ hw2=>⟨λbytes hi u b' hb1 hb2=>?_,λyb hy=>?_⟩) hrd (λn D=>hwm n (.inl (by simpa using D))) (λn D=>by simp only[aE]at D;subst D;rw[dh];omega) hr hinv' (by omega)
       .have hn1:n≠nm nx:=by simpa using D
        by_cases hn2:n=nm id
        .subst hn2;rw[hdead,hdead0]
        .exact hsame n hn1 hn2
       .simp only[aE]at hi;subst hi;rw[hw1 _ (by simp),eY]at hb1;rw[hw2 _ (by simp),hnew,av (by simpa using hl)]at hb2;simp only[ah,lq]at hb1 hb2;subst hb1 hb2;exact gw.refl d _
       .rw[hval]at hy;simp only[dw,lq]at hy;rw[av (by simpa using hl)]at hy;cases hy;exact kz.refl d _
     .have hyb:y= .I (nm id) T.size (l! xs0):=by rw[<- h2];unfold dw;rw[av hp]
      subst hyb;have hg:H.get (nm id)=Z ⟨ty',.fz (xs0.flatMap (bD T))⟩:=by rw[hH,bG,hb];simp only[aF,kJ,av hp]
      have fl:=eE (bl T) xs0;have tk:(xs0.flatMap (bD T)).take (l! xs0*T.size)=xs0.flatMap (bD T):=by rw[<- fl,cM]
      have hmem:mem (nm id) rdl=af:=by
       cases hx:mem (nm id) rdl with
       |false=>rfl
       |true=>
        have hm:=h6 _ (ais.1 hx);rw[dh,hmid]at hm;cases hm
      have L:dA (.app ty' T.size i ty c) (DV e h) H (nm nx)=Z ⟨.I (nm nx) T.size (l! xs0+l! z),nm id::rdl,[nm nx,nm id],[(nm nx,⟨ty',.fz ((xs0++z).flatMap (bD T))⟩)],[nm nx]⟩:=by
       have hcnd:(T.size==T.size&& !(mem (nm id) rdl)&&(BC.fz (xs0.flatMap (bD T))).isCells&&dN (l! xs0*T.size) (BC.fz (xs0.flatMap (bD T))).len&&ty'==ty'&&bc (l! xs0+l! z) i)=J:=by
        have:dN (l! xs0*T.size) (BC.fz (xs0.flatMap (bD T))).len=J:=a_ (by simp only[BC.len];omega);rw[this,hmem,hroom];simp[BC.isCells]
       simp only[dA,h1,h3,h5,hg,hcnd,bk,BC.toMx,<-gO,tk,<-cD,wu,yB]
      have hne2:¬((p&&l! (xs0++z)==0)=J):=by
       simp only[al,cY,bK]at hp ⊢;intro hh;exact hp ⟨hh.1,by omega⟩
      refine fm.mk' hc hH L [nm nx,nm id] (λbytes hi=>hi) (λn D=>?_) (λbytes hi b' hb'=>?_) (λH1 H2 d hw1 _ hw2=>⟨λbytes hi u b' hb1 hb2=>?_,λyb hy=>?_⟩) (λn D=>?_) (λn D=>hwm n (by simpa using D)) (λn D=>by simp only[aE]at D;subst D;rw[dh];omega) hr hinv' (by omega)
      .simp only[aV,b7,fk,not_or]at D;exact hsame n D.1 D.2
      .simp only[aV,b7,fk]at hi;rcases hi with rfl|rfl
       .exact⟨_,by rw[aD (by simp)];exact eY _ _⟩
       .rw[hdead]at hb';cases hb'
      .simp only[aV,b7,fk]at hi;rcases hi with rfl|rfl
       .rw[hw1 _ (by simp),eY]at hb1;rw[hw2 _ (by simp),hnew,av hne2]at hb2;simp only[ah]at hb1 hb2;subst hb1 hb2;exact gw.refl d _
       .rw[hw2 _ (by simp),hdead]at hb2;cases hb2
      .rw[hval]at hy;simp only[dw]at hy;rw[av hne2]at hy;simp only[bK,ah]at hy;subst hy;exact kz.refl d _
      .rcases aV.1 D with rfl|D
       .rw[dh,bu,bn.2 rfl];rfl
       .exact hrd n D
    .cases A
   .cases A
  .cases A
 .rename_i S xs1;split at A
  .rename_i hm0;have hm0:=au hm0;subst hm0;split at A
   .rename_i xs hxs;obtain⟨ee,rfl⟩:=iO hxs;cases ee;let⟨hroom,A⟩:=cG A;simp only[bW,ah]at h2;subst h2;have hr0:rdl=[]:=by
     cases rdl with
     |nil=>rfl
     |cons a q=>have hz:=h6 a (by simp);simp at hz
    subst hr0;have fl:=eE (bl T) xs1;have tk:(xs1.flatMap (bD T)).take (l! xs1*T.size)=xs1.flatMap (bD T):=by rw[<- fl,cM]
    have hcnd:(dN (l! xs1*T.size) (l! (xs1.flatMap (bD T)))&&bc (l! xs1+l! z) i)=J:=by
     have hroom:bc (l! xs1+l! z) i=J:=hroom;rw[hroom,Bool.and_true];exact a_ (by omega)
    rcases lQ A with ⟨hl,A⟩|⟨hl,A⟩
    .have hl:=au hl;have hl':(aj z==0)=J:=by rw[hl];rfl
     exact⟨_,0,0,h,nx,A,fm.pure (y0:=.f (.sl (xs1.flatMap (bD T)) (l! xs1))) (k:=nm nx) hinv hc hH (by simp only[dA,h1,h3,h5,hcnd,bk,hl'];rfl) (cI rfl) (by simp) λ_=>rfl⟩
    .have hl':¬(aj z==0)=J:=λe=>by
      have e:aj z=0:=by simpa using e
      rw[e]at hl;cases hl
     exact⟨_,_,_,_,_,A,fm.new hinv hc hH (y0:=.I (nm nx) T.size (l! xs1+l! z)) (rdl:=[]) (b0:=⟨s,.fz ((xs1++z).flatMap (bD T))⟩) (by
      simp only[dA,h1,h3,h5,hcnd,bk];rw[av hl',tk,<-cD,wu,<-yB]) (B:=.H s af T (xs1++z)) (v:=.I nx) (dI.zero h) (λ_ _ he=>by cases he) (λH1 H2 d g b' hb'=>by
      simp only[kJ,jN,cQ,dE,ah]at hb';subst hb';exact gw.refl d _) (λH1 H2 yb d g hy=>by
      simp only[bW,bx,PT.get_set,bk,aF,iM,dw,jN,cQ,dE,bK,ah]at hy;subst hy;exact kz.refl d _) (by simp)⟩
   .cases A
  .cases A
 .obtain⟨hroom,A⟩:=cG A;simp only[bW,ah]at h2;subst h2;exact⟨_,_,_,_,_,A,onEmp j h6 rfl (Le.refl _) hroom⟩
 .obtain⟨hroom,A⟩:=cG A;simp only[bW,ah]at h2;subst h2;exact⟨_,_,_,_,_,A,onEmp j h6 rfl Le.nilEmp hroom⟩
 .cases A
def avp {ty:Operand} (hcm:Ht (W s)=U) (hc:cL P o.op=Z (.app s i j ty c)) (z:eK X W (.op (.app s i j ty c)) e h nx K=Z r):i_ P o af e h nx K r:=by
 let⟨H,L⟩:=gI h;simp only[eK,hcm]at z;split at z
 .rename_i T b y hT hv A;split at z
  .rename_i D;have D:=au D;subst D;split at z
   next ys m hys=>let⟨yb,h1,h2⟩:=ba hi hv;let⟨yy,h3,h4⟩:=ba hi A;let⟨rdl,h5,h6⟩:=Sr L hys h4;exact Up hinv hi L hc h1 h2 h3 h5 (λn hn=>by obtain⟨sz,rfl,hm⟩:=h6 n hn;rw[dh];exact hm) z
   .cases z
  .cases z
 .cases z
def akk {T:Ty} (xs D:Y T.den):(T8 xs D).flatMap (bD T)=AI.splice (xs.flatMap (bD T)) 0 ((D.flatMap (bD T)).take (l8 (l! D) (l! xs)*T.size)):=by
 have _:=hinv;have _:=hi;have fl:=λA:Y T.den=>eE (bl T) A
 have tk:∀(A:Y T.den) n,(A.flatMap (bD T)).take (n*T.size)=(A.take n).flatMap (bD T):=by
  intro A;induction A with
  |nil=>intro n;simp
  |cons z r L=>
   intro n;cases n with
   |zero=>simp
   |succ n=>rw[gh,yw,gh,jT,List.take_append,bl,gB (by rw[bl];omega),show n*T.size+T.size-T.size=n*T.size from by omega,L n]
 have dp:∀(A:Y T.den) n,(A.flatMap (bD T)).drop (n*T.size)=(A.drop n).flatMap (bD T):=by
  intro A;induction A with
  |nil=>intro n;simp
  |cons z r L=>
   intro n;cases n with
   |zero=>simp
   |succ n=>rw[gh,KE,jT,xn,bl,Da (by rw[bl];omega),show n*T.size+T.size-T.size=n*T.size from by omega,L n,lq]
 unfold T8 AI.splice;rw[tk,yB,fl,cu];have e1:D.take (l8 (l! D) (l! xs))=D.take (l! xs):=by grind
 have e2:min (l8 (l! D) (l! xs)) (l! D)=l8 (l! D) (l! xs):=Jk (Nat.min_le_left _ _);rw[e2];simp[List.take_zero,lq,bX];rw[dp]
 grind
def avm {x:Operand} (hc:cL P o.op=Z (.copy i c x)) (A:eK X W (.op (.copy i c x)) e h nx K=Z r):i_ P o af e h nx K r:=by
 let⟨H,hH⟩:=gI h;simp only[eK]at A;split at A
 .rename_i id y hv hv2;split at A
  .rename_i ty p T xs hb;split at A
   .rename_i hs;have hs:=au hs;subst hs;split at A
    .rename_i D m hys;split at A
     .rename_i hcond;simp[al,cR]at hcond;obtain⟨hmid,rfl⟩:=hcond;let⟨yb,h1,h2⟩:=ba hi hv;let⟨yy,h3,h4⟩:=ba hi hv2;let⟨rdl,h5,h6⟩:=Sr hH hys h4;simp[bW,eM,hb,dw,jN,cQ,dE,ah]at h2;subst h2;have fl:=eE (bl T) xs;have hg:H.get (nm id)=Z ⟨ty,.fz (xs.flatMap (bD T))⟩:=by rw[hH,bG,hb];simp[kJ]
      have hmem:mem (nm id) rdl=af:=by
       cases hx:mem (nm id) rdl with
       |false=>rfl
       |true=>
        let⟨sz,e,hm⟩:=h6 _ (ais.1 hx);rw[<- uM e,hmid]at hm;cases hm
      have hle:l8 (l! D) (l! xs)*T.size<=l! xs*T.size:=cH _ (Nat.min_le_right _ _);have ha0:dA (.copy T.size c x) (DV e h) H (nm nx)=Z ⟨raw (.int .i64 (l8 (l! D) (l! xs))),nm id::rdl,[nm id],[(nm id,⟨ty,.fz ((T8 xs D).flatMap (bD T))⟩)],[]⟩:=by
       have hcnd:(T.size==T.size&& !(mem (nm id) rdl)&&dN (l! xs*T.size) (BC.fz (xs.flatMap (bD T))).len)=J:=by
        have:dN (l! xs*T.size) (BC.fz (xs.flatMap (bD T))).len=J:=a_ (by simp only[BC.len];omega);rw[this,hmem];simp
       have hput:(BC.fz (xs.flatMap (bD T))).put 0 (((D.flatMap (bD T)).map .f).take (l8 (l! D) (l! xs)*T.size))=Z (.fz ((T8 xs D).flatMap (bD T))):=by
        rw[<- gO];unfold BC.put;rw[aD]
        .simp only[OZ];rw[akk hinv hi]
        .simp only[al];refine ⟨⟨rfl,a_ ?_⟩,?_⟩
         .simp only[BC.len,bQ,cu];omega
         .have:∀l:Y FV,(∀x∈l,x.isCell=J)->gE (l.map .f)=J:=by
           intro l hl;induction l with
           |nil=>rfl
           |cons z r ih=>simp[b9,gE,al];exact⟨hl z (by simp),ih λx hx=>hl x (by grind)⟩
          exact this _ λx hx=>mD T D x (im hx)
       simp only[dA,h1,h3,hg,h5,hcnd,bk,hput]
      have hrow:iM (.H ty af T (T8 xs D))=iM (.H ty af T xs):=by
       have:l! (T8 xs D)=l! xs:=by unfold T8;rw[bK,cu,xl];omega
       simp[iM,this]
      have key:=fm.wrt (m:=0) (v:=.f (.int .i64) (aQ (l8 (aj D) (aj xs)))) (rd:=gG id|||m) hinv hc hH ha0 (B:=.H ty af T (T8 xs D)) hb (dI.zero h) (by simp) hrow (λ_ _ he=>by cases he) (λH1 H2 c g b' L=>by
       simp[kJ,jN,cQ,dE,ah]at L;subst L;exact gw.refl c _) (λH1 H2 y c g hy=>by
       simp[bW,ah]at hy;subst hy;exact kz.refl c _) (λn hn=>by
       rcases aV.1 hn with rfl|hn
       .rw[dh,bu,bn.2 rfl];rfl
       .obtain⟨sz,rfl,hm⟩:=h6 n hn;rw[dh,bu,hm];simp)
      rw[wS]at key;exact⟨_,_,_,_,_,A,key⟩
     .cases A
    .cases A
   .cases A
  .cases A
 .cases A
def aq8 {v:Operand} (hc:cL P o.op=Z (.store i c v)) (A:eK X W (.op (.store i c v)) e h nx K=Z r):i_ P o af e h nx K r:=by
 let⟨H,hH⟩:=gI h;simp only[eK]at A;split at A
 .rename_i id off y hv hv2;let⟨yb,h1,h2⟩:=ba hi hv;let⟨L,h3,h4⟩:=ba hi hv2;simp only[bW,ah]at h2;subst h2;split at A
  .rename_i ty l hb;split at A
   .rename_i cs hcs;split at A
    .rename_i hcond;simp only[al,cY]at hcond;let⟨h5,h6⟩:=Kv hcs h4;let⟨l',hl⟩:=fJ h l (hinv.G id _ l hb);have hg:H.get (nm id)=Z ⟨ty,.mx l'⟩:=by rw[hH,bG,hb];simp only[aF,kJ,hl]
     have hcell:=tZ h5 h6;have hlen:L.cs.length=i:=by rw[iE h5];exact hcond.1
     have hput:(BC.mx l').put off L.cs=Z (.mx (splice l' off L.cs)):=by
      unfold BC.put;rw[aD]
      .rfl
      .simp only[al];exact⟨⟨rfl,by simp only[BC.len];rw[hlen,iE hl];exact hcond.2⟩,hcell⟩
     have ha0:dA (.store i c v) (DV e h) H (nm nx)=Z ⟨raw undef,[nm id],[nm id],[(nm id,⟨ty,.mx (splice l' off L.cs)⟩)],[]⟩:=by
      simp only[dA,h1,h3,C4,hg,hlen,ch,bk,hput]
     have hspl:∀h',bV h h'->cJ h' (splice l off cs)=Z (splice l' off L.cs):=λh' hr=>rn off (gX hr l l' hl) (gX hr cs _ h5)
     have hr1:bV h (h.set id (Z (.G (Z ty) (splice l off cs)))):=bV.set λr hr=>by rw[bx,hb]at hr;cases hr
     have key:=fm.wrt (m:=0) (v:=.undef) (rd:=gG id) hinv hc hH ha0 (B:=.G (Z ty) (splice l off cs)) hb (dI.zero h) (by simp) rfl (λty' l2 he=>by cases he;exact mc _ _ _ (hspl _ hr1)) (λH1 H2 d g b' D=>by
      have:=hspl _ hr1;simp only[dK,fV,bk,kJ,this,ah]at D;subst D;exact gw.refl d _) (λH1 H2 y d g hy=>by
      simp only[bW,ah]at hy;subst hy;exact kz.refl d _) (λn hn=>by simp only[aE]at hn;subst hn;rw[dh];exact bn.2 rfl)
     rw[wS]at key;exact⟨_,_,_,_,_,A,key⟩
    .cases A
   .cases A
  .cases A
 .rename_i id sz' j off y hv hv2;let⟨yb,h1,h2⟩:=ba hi hv;let⟨L,h3,h4⟩:=ba hi hv2;simp only[bW,ah]at h2;subst h2;split at A
  .rename_i ty p T xs hb;split at A
   .rename_i hsz;have hsz:=au hsz;subst hsz;let⟨hj,A⟩:=cG A;split at A
    .rename_i z m hset;split at A
     .cases A
     .rename_i hmid;have hmid:aK m id=af:=by simpa using hmid
      have hm:=Dd 40 T _ off i z m hset;let⟨j0,j1,j2⟩:=mY hj;have hne:¬((p&&xs.length==0)=J):=by grind
      have hne2:¬((p&&(cg xs j z).length==0)=J):=by unfold cg;rw[dt];exact hne
      have hg:H.get (nm id)=Z ⟨ty,.fz (xs.flatMap (bD T))⟩:=by rw[hH,bG,hb];simp only[aF,kJ,av hne]
      have fl:=eE (bl T) xs;have hx:xs[j.toNat]? =Z (geti _ xs j):=by
       unfold geti;rw[aw,aG j2];rfl
      have hle:(j.toNat+1)*T.size<=xs.length*T.size:=cH _ j2;rw[jT]at hle;have hso:∀H1 H2,rA H1 H2->Fu h H1 H2 m->RX H1 H2 L T (geti _ xs j) z off i:=λH1 H2 d g=>t_ d h4 40 T _ off i z m hset g
      have hshape:L.cs.length=i/\off+i<=T.size/\gE L.cs=J:=by
       have d0:rA (erHF h) (erHF (dK m h)):=rA.kill hinv hm;let⟨fs,q1,q2,q3,q4,q5⟩:=hso _ _ d0 (λsz hi=>⟨rfl,by
        let⟨pp,ss,nn,g3⟩:=vM hm hi;rw[bG,g3];rfl⟩)
       refine ⟨by rw[<- q2,<-bQ (f:=AV.f),q1.length],q3,?_⟩;exact oA h4 40 T _ off i z m hset
      let⟨hlen,hoff,hcell⟩:=hshape;obtain⟨c',hput,hc1,hc2⟩:∃c',(BC.fz (xs.flatMap (bD T))).put (j.toNat*T.size+off) L.cs=Z c'/\c'.toMx=splice ((xs.flatMap (bD T)).map .f) (j.toNat*T.size+off) L.cs/\c'.isCells=J:=by
       unfold BC.put;rw[aD]
       .split
        next l ys hl hys=>simp only[BC.fz.injEq]at hl;subst hl;refine ⟨_,rfl,?_,rfl⟩;rw[nR hys];simp only[BC.toMx];unfold splice;simp[gO,Aj]
        .exact⟨_,rfl,rfl,rfl⟩
       .simp only[al];exact⟨⟨rfl,a_ (by simp only[BC.len];omega)⟩,hcell⟩
      have ha0:dA (.store i c v) (DV e h) H (nm nx)=Z ⟨raw undef,[nm id],[nm id],[(nm id,⟨ty,c'⟩)],[]⟩:=by
       simp only[dA,h1,h3,C4,hg,hlen,ch,bk,hput]
      have hrow:iM (.H ty p T (cg xs j z))=iM (.H ty p T xs):=by
       unfold cg;simp only[iM,dt]
      refine ⟨_,_,_,_,_,A,fm.wrt hinv hc hH ha0 (B:=.H ty p T (cg xs j z)) hb hm hmid hrow (λ_ _ he=>by cases he) (λH1 H2 d g b' D=>?_) (λH1 H2 y d g hy=>?_) (λn hn=>?_)⟩
      .simp only[kJ,av hne2,ah]at D;subst D;let⟨fs,q1,q2,q3,q4,q5⟩:=hso H1 H2 d g;have hfl:(cg xs j z).flatMap (bD T)=AI.splice (xs.flatMap (bD T)) (j.toNat*T.size+off) fs:=Ns (bl T) xs j.toNat _ z hx off fs (by omega) q4;refine gw.G hc2 rfl ?_ λc hx=>?_
       .rw[hc1];simp only[BC.toMx];rw[hfl];have:(AI.splice (xs.flatMap (bD T)) (j.toNat*T.size+off) fs).map AV.f=AI.splice ((xs.flatMap (bD T)).map .f) (j.toNat*T.size+off) (fs.map .f):=by unfold AI.splice;simp[gO,Aj]
        rw[this];exact (gZ.refl d _).splice _ q1
       .simp only[BC.toMx]at hx;obtain⟨q,hq,rfl⟩:=cr.1 hx;exact mD T _ q hq
      .simp only[bW,ah]at hy;subst hy;exact kz.refl d _
      .simp only[aE]at hn;subst hn;rw[dh,bu,bn.2 rfl];simp
    .cases A
   .cases A
  .rename_i ty l hb;split at A
   .rename_i hsz;simp only[al]at hsz;let⟨s1,s2,s3⟩:=hsz;have s1:=au s1;have s2:=au s2;have s3:=au s3;subst s1 s2 s3;let⟨hj,A⟩:=cG A;let⟨j0,j1,j2⟩:=mY hj;split at A
    .rename_i cs hcs;split at A
     .rename_i hc1;have hc1:=au hc1;let⟨h5,h6⟩:=Kv hcs h4;let⟨l',hl⟩:=fJ h l (hinv.G id _ l hb);have hg:H.get (nm id)=Z ⟨ty,.mx l'⟩:=by rw[hH,bG,hb];simp only[aF,kJ,hl]
      have hcell:=tZ h5 h6;have hlen:L.cs.length=1:=by rw[iE h5];exact hc1
      have e0:j.toNat*1+0=j.toNat:=by omega
      rw[e0]at h1;have hput:(BC.mx l').put j.toNat L.cs=Z (.mx (splice l' j.toNat L.cs)):=by
       unfold BC.put;rw[aD]
       .rfl
       .simp only[al];exact⟨⟨rfl,a_ (by simp only[BC.len];rw[hlen,iE hl];omega)⟩,hcell⟩
      have ha0:dA (.store 1 c v) (DV e h) H (nm nx)=Z ⟨raw undef,[nm id],[nm id],[(nm id,⟨ty,.mx (splice l' j.toNat L.cs)⟩)],[]⟩:=by
       simp only[dA,h1,h3,C4,hg,hlen,ch,bk,hput]
      have hspl:∀h',bV h h'->cJ h' (splice l j.toNat cs)=Z (splice l' j.toNat L.cs):=λh' hr=>rn j.toNat (gX hr l l' hl) (gX hr cs _ h5)
      have hr1:bV h (h.set id (Z (.G (Z ty) (splice l j.toNat cs)))):=bV.set λr hr=>by rw[bx,hb]at hr;cases hr
      have key:=fm.wrt (m:=0) (v:=.undef) (rd:=gG id) hinv hc hH ha0 (B:=.G (Z ty) (splice l j.toNat cs)) hb (dI.zero h) (by simp) rfl (λty' l2 he=>by cases he;exact mc _ _ _ (hspl _ hr1)) (λH1 H2 d g b' D=>by
       have:=hspl _ hr1;simp only[dK,fV,bk,kJ,this,ah]at D;subst D;exact gw.refl d _) (λH1 H2 y d g hy=>by
       simp only[bW,ah]at hy;subst hy;exact kz.refl d _) (λn hn=>by simp only[aE]at hn;subst hn;rw[dh];exact bn.2 rfl)
      rw[wS]at key;exact⟨_,_,_,_,_,A,key⟩
     .cases A
    .cases A
   .cases A
  .cases A
 .cases A
def avh {l:Operand} (hc:cL P o.op=Z (.zm s i j L l c)) (A:eK X W (.op (.zm s i j L l c)) e h nx K=Z r):i_ P o af e h nx K r:=by
 cases hcm:Ht (W s) with
 |none=>exact aq9 hinv hi hcm hc A
 |some n=>
  let⟨H,hH⟩:=gI h;simp only[eK,hcm]at A;split at A
  .rename_i zc k a k' b z hv hv2;let⟨hck,A⟩:=cG A;rw[al]at hck;let⟨hcond,hn⟩:=hck;let⟨y,h1,h2⟩:=ba hi hv;let⟨y2,h3,h4⟩:=ba hi hv2;simp[bW,ah]at h2 h4;subst h2 h4;have han:aN a=n:=by grind
   let⟨_,_,hzc⟩:=xO h z;refine ⟨_,_,_,_,_,A,fm.new hinv hc hH (y0:=.I (nm nx) i n) (rdl:=[]) (b0:=⟨s,.fz (repl L n)⟩) (by simp[dA,h1,h3,gu,hcond,bk,han]) (dI.zero h) (λty' l' he=>?_) (λH1 H2 d g b' D=>?_) (λH1 H2 y d g hy=>?_) (by simp)⟩
   .cases he;exact mc _ _ _ (Q4 _ z n)
   .simp[kJ,Q4 _ z n,ah]at D;subst D;refine gw.G rfl rfl (gZ.refl d _) λx hx=>?_
    exact nh (tZ (Q4 h z n) (Ja hzc n)) x hx
   .simp[bW,ah]at hy;subst hy;exact kz.refl d _
  .cases A
def aza {parts:Y n?} (hc:cL P o.op=Z (.xx s i j L parts)) (A:eK X W (.op (.xx s i j L parts)) e h nx K=Z r):i_ P o af e h nx K r:=by
 cases hcm:Ht (W s) with
 |none=>exact avo hinv hi hcm hc A
 |some n=>
  let⟨H,hH⟩:=gI h;simp only[eK,hcm]at A;split at A
  .rename_i zc hz;split at A
   .rename_i cs hf;split at A
    .cases A
    .rename_i hl;have hl:j≠0:=λe=>hl (by rw[e];rfl)
     let⟨cs',h1,h2,h3⟩:=GY hi parts _ cs _ hf (Q4 h hz j);let⟨_,_,hzc⟩:=xO h hz;have hcs:=h3 (Ja hzc j);have hr:bV h ((dK 0 h).set nx (Z (.G (Z s) cs))):=(bV.kill 0 h).trans (bV.set λr hr=>by rw[bx,(hinv.kill 0).fresh]at hr;cases hr);have z:=gX hr _ _ h2;refine ⟨_,_,_,_,_,A,fm.new hinv hc hH (y0:=.I (nm nx) i j) (rdl:=[]) (b0:=⟨s,ov cs'⟩) (by simp[dA,h1,av hl]) (dI.zero h) (λty' l' he=>?_) (λH1 H2 d g b' D=>?_) (λH1 H2 y d g hy=>?_) (by simp)⟩
     .cases he;exact mc _ _ _ z
     .simp[kJ,z,ah]at D;subst D;let⟨q1,q2⟩:=nO cs';refine gw.G q2 rfl ?_ λx hx=>?_
      .rw[q1];exact gZ.refl d _
      .exact nh (tZ h2 hcs) x hx
     .simp[bW,ah]at hy;subst hy;exact kz.refl d _
   .cases A
  .cases A
def azd {ty:Operand} (hc:cL P o.op=Z (.app s i j ty c)) (z:eK X W (.op (.app s i j ty c)) e h nx K=Z r):i_ P o af e h nx K r:=by
 cases hcm:Ht (W s) with
 |none=>exact avp hinv hi hcm hc z
 |some n0=>
  let⟨H,hH⟩:=gI h;have hfr:=hinv.fresh;simp only[eK,hcm]at z;split at z
  .rename_i b y hv hv2;let⟨yb,h1,h2⟩:=ba hi hv;let⟨yy,h3,h4⟩:=ba hi hv2;unfold ari at z;split at z
   .rename_i id2 sz2 m;simp only[bW,ah]at h4;subst h4;split at z
    .rename_i ty2 l2 hb2;split at z
     .rename_i A;simp only[al,cR]at A;let⟨⟨q1,q2⟩,q3⟩:=A;have q1:=au q1;have q2:=au q2;have q3:m≠0:=λe=>by grind
      subst q1;let⟨L,hl2⟩:=fJ h l2 (hinv.G id2 _ l2 hb2);have hrow:=acy hH hb2 hl2 q2;split at z
      .rename_i id sz1 n;simp only[bW,ah]at h2;subst h2;split at z
       .rename_i ty1 l1 hb1;split at z
        .rename_i A;simp only[al,cR]at A;let⟨⟨⟨p1,p2⟩,p3⟩,p4⟩:=A;have p1:=au p1;have p2:=eq_of_beq p2;have p3:=au p3;have p4:id≠id2:=λe=>by simp_all
         subst p1 p2;let⟨hroom,z⟩:=cG z;let⟨l1',hl1⟩:=fJ h l1 (hinv.G id _ l1 hb1);have hln:=iE hl1;have hg:H.get (nm id)=Z ⟨ty1,.mx l1'⟩:=by rw[hH,bG,hb1];simp only[aF,kJ,hl1]
         have hidlt:id<nx:=hinv.low id _ hb1;generalize hB:e9.G (Z ty1) (l1++l2)=B at z;have hd1:bV h (h.set id (Z (.qj J 0 0))):=bV.set λr D=>by rw[bx,hb1]at D;cases D
         have hd2:bV (h.set id (Z (.qj J 0 0))) ((h.set id (Z (.qj J 0 0))).set nx (Z B)):=bV.set λr D=>by
          rw[bx,PT.get_set,av (by omega),hfr]at D;cases D
         have D:=hd1.trans hd2;have hsp:cJ ((h.set id (Z (.qj J 0 0))).set nx (Z B)) (l1++l2)=Z (l1'++L):=gX D _ _ (oM hl1 hl2);have hb':erHF ((h.set id (Z (.qj J 0 0))).set nx (Z B)) (nm nx)=Z ⟨ty1,.mx (l1'++L)⟩:=by rw[bG,PT.get_set,aD rfl,<-hB]at *;simp only[aF,kJ,hsp]
         have hbd:erHF ((h.set id (Z (.qj J 0 0))).set nx (Z B)) (nm id)=U:=by rw[bG,PT.get_set,av (by omega),PT.get_set,aD rfl];rfl
         have hinv1:g_ (h.set id (Z (.qj J 0 0))) nx:=hinv.set hd1 hidlt (bJ _) (λ_ _ he=>by cases he);have ha:dA (.app ty1 sz1 j ty c) (DV e h) H (nm nx)=Z ⟨.I (nm nx) sz1 (n+m),[nm id,nm id2],[nm nx,nm id],[(nm nx,⟨ty1,ov (l1'++L)⟩)],[nm nx]⟩:=by
          simp only[dA,h1,h3,hrow,hg];rw[aD (by
           simp only[ch,fo,Bool.and_true,BC.isCells,BC.len,hroom,al,cR];refine ⟨?_,a_ (by omega)⟩;simp only[mem,Bool.or_false];cases A:ax (nm id2) (nm id) with
           |false=>rfl
           |true=>exact cq (uM (au A)).symm p4)]
          simp only[BC.toMx,gB (show (l! l1')<=n*sz1 by omega)]
         refine ⟨_,_,_,_,_,z,fm.mk' hc hH ha [nm nx,nm id] (λsz hi=>hi) (λq A=>?_) (λsz hi b' hbb=>?_) (λH1 H2 d hw1 _ hw2=>⟨λsz hi b b' hb hb2=>?_,λy hy=>?_⟩) (λq A=>?_) (λq A=>?_) (λq A=>?_) D (hinv1.set hd2 (by omega) (by omega) λty' l' he=>?_) (by omega)⟩
         .simp only[aV,b7,fk,not_or]at A;refine m_ hinv D (iP.of λsz=>by
           by_cases e1:sz=nx
           .rw[e1,hfr,PT.get_set,aD rfl];exact .inr ⟨rfl,by rw[<- hB];rfl⟩
           .rw[PT.get_set,av e1];by_cases e2:sz=id
            .rw[e2,hb1,PT.get_set,aD rfl];exact .inr ⟨rfl,rfl⟩
            .rw[PT.get_set,av e2];exact .inl rfl) λsz ei=>?_
          subst ei;rw[PT.get_set,av (λe=>A.1 (by rw[e])),PT.get_set,av (λe=>A.2 (by rw[e]))]
         .simp only[aV,b7,fk]at hi;rcases hi with rfl|rfl
          .rw[aD (by simp)];exact⟨_,eY _ _⟩
          .grind
         .simp only[aV,b7,fk]at hi;rcases hi with rfl|rfl
          .rw[hw1 _ (by simp),eY]at hb;rw[hw2 _ (by simp),hb']at hb2;simp only[ah]at hb hb2;subst hb hb2;let⟨m1,m2⟩:=nO (l1'++L);exact gw.eq d m2 rfl m1
          .grind
         .simp only[bW,ah]at hy;subst hy;exact kz.refl d _
         .simp only[aV,b7,fk]at A;rw[bu,nz];rcases A with rfl|rfl
          .rw[dh];exact .inl (bn.2 rfl)
          .rw[dh];exact .inr (bn.2 rfl)
         .simp only[aV,b7,fk]at A;rw[bu,nz];rcases A with rfl|rfl
          .rw[dh];exact .inr (bn.2 rfl)
          .rw[dh];exact .inl (bn.2 rfl)
         .simp only[aE]at A;subst A;rw[dh];omega
         .rw[<- hB]at he;cases he;exact mc _ _ _ hsp
        .cases z
       .cases z
      .simp only[bW,ah]at h2;subst h2;let⟨hroom,z⟩:=cG z;have D:bV h ((dK 0 h).set nx (Z (.G (Z s) l2))):=(bV.kill 0 h).trans (bV.set λr D=>by rw[bx,(hinv.kill 0).fresh]at D;cases D);have h2':=gX D _ _ hl2;refine ⟨_,_,_,_,_,z,fm.new hinv hc hH (y0:=.I (nm nx) sz2 m) (rdl:=[nm id2]) (b0:=⟨s,ov L⟩) (by simp only[dA,h1,h3,hrow];simp[Fe,Dm,hroom,q3]) (dI.zero h) (λty' l' he=>?_) (λH1 H2 d g b' hb'=>?_) (λH1 H2 y d g hy=>?_) (λn hn=>?_)⟩
       .cases he;exact mc _ _ _ h2'
       .simp only[kJ,h2',ah]at hb';subst hb';let⟨p1,p2⟩:=nO L;exact gw.eq d p2 rfl p1
       .simp only[bW,ah]at hy;subst hy;exact kz.refl d _
       .simp only[aE]at hn;subst hn;rw[dh];exact bn.2 rfl
      .cases z
     .cases z
    .cases z
   .cases z
  .cases z
def ayr {lo hi' mx:M Operand} (hc:cL P o.op=Z (.slc i c lo hi' mx)) (z:eK X W (.op (.slc i c lo hi' mx)) e h nx K=Z r):i_ P o af e h nx K r:=by
 have hfr:=hinv.fresh;simp only[eK]at z;split at z
 .rename_i v hv;let⟨y,h1,h2⟩:=ba hi hv;split at z
  .split at z
   next L=>let⟨n,L⟩:=jL.1 L;have h3:=VF L h2;exact i_.q (k:=0) hinv hc (λH _=>by simp only[dA,h1,h3,Option.isSome_some,bk]) (cI rfl) z
   .cases z
  .rename_i b;split at z
   .rename_i T xs k j hb;let⟨y2,h3,h4⟩:=ba hi hb;simp only[bW,ah]at h2 h4;subst h2 h4;split at z
    .rename_i A;have A:=au A;subst A;let⟨hj,z⟩:=cG z;have hfl:=eE (bl T) xs;have hcond:(db 0 j&&db j (aj xs)&&dN (aj xs*T.size) (l! (xs.flatMap (bD T))))=J:=by
      rw[hj,fo];exact a_ (by omega)
     simp only[db,al,bE]at hj;have hlen:l! (xs.take j.toNat)=j.toNat:=by rw[cu];omega
     exact i_.q (k:=0) (y0:=.f (.sl ((xs.flatMap (bD T)).take (j.toNat*T.size)) j.toNat)) hinv hc (λH _=>by simp only[dA,h1,h3,gu,hcond,bk]) (cI (by simp only[bW,gu];rw[zF (bl T),hlen])) z
    .cases z
   .rename_i id k j hb;let⟨y2,h3,h4⟩:=ba hi hb;simp only[bW,ah]at h4;subst h4;split at z
    .rename_i ty p T xs D;split at z
     .rename_i A;have A:=au A;subst A;let⟨hj,z⟩:=cG z;let⟨H,hH⟩:=gI h;have hj0:=hj;simp only[db,gD,al,bE]at hj;have hp:¬((p&&l! xs==0)=J):=by
       simp only[al,cY];omega
      simp only[bW,bx,D,aF,iM,dw,av hp,ah]at h2;subst h2;have hidlt:=hinv.low id _ D;have hne:nx≠id:=by omega
      have hg:H.get (nm id)=Z ⟨ty,.fz (xs.flatMap (bD T))⟩:=by rw[hH,bG,D];simp only[aF,kJ,av hp]
      have fl:=eE (bl T) xs;have hcond:(T.size==T.size&&db 0 j&&db j (aj xs))=J:=by
       simp only[db,al,bE,ch,EK];omega
      have hlen:l! (xs.take j.toNat)=j.toNat:=by rw[cu];omega
      have ha0:dA (.slc T.size c U (Z b) U) (DV e h) H (nm nx)=Z ⟨.I (nm nx) T.size j.toNat,[nm id],[nm nx,nm id],[(nm nx,⟨ty,.fz ((xs.take j.toNat).flatMap (bD T))⟩)],[nm nx]⟩:=by
       have hc2:((BC.fz (xs.flatMap (bD T))).isCells&&dN (aj xs*T.size) (BC.fz (xs.flatMap (bD T))).len)=J:=by
        simp only[BC.isCells,fo,BC.len];exact a_ (by omega)
       simp only[dA,h1,h3,gu,hcond,bk,hg,hc2,BC.toMx,<-gO,wu,zF (bl T)]
      generalize hh':(h.set id (Z (.qj p T.size (aj xs)))).set nx (Z (.H ty af T (dP j.toNat xs)))=h' at z;have hrA:bV h (h.set id (Z (.qj p T.size (aj xs)))):=bV.set λr hr=>by rw[bx,D]at hr;exact hr
      have hg2:∀sz,h'.get sz=if sz=nx then Z (.H ty af T (dP j.toNat xs)) else if sz=id then Z (.qj p T.size (aj xs)) else h.get sz:=λsz=>by rw[<- hh',PT.get_set,PT.get_set]
      have hr:bV h h':=by
       rw[<- hh'];refine hrA.trans (bV.set λr hr=>?_);rw[bx,PT.get_set,av hne,hfr]at hr;cases hr
      have hinv':g_ h' (nx+1):=by
       refine ⟨λsz ty l hil=>?_,λsz x hic=>?_⟩
       .rw[hg2]at hil;split at hil
        .cases hil
        .split at hil
         .cases hil
         .exact fy hr l (hinv.G sz _ l hil)
       .rw[hg2]at hic;split at hic
        .omega
        .split at hic
         .omega
         .have:=hinv.low sz x hic;omega
      have hme:iP h h':=(iP.of λsz=>by
       rw[hg2];by_cases e1:sz=nx
       .rw[aD e1,e1,hfr];exact .inr ⟨rfl,rfl⟩
       .rw[av e1];by_cases e2:sz=id
        .rw[aD e2,e2,D];exact .inr ⟨rfl,rfl⟩
        .rw[av e2];exact .inl rfl)
      have hsame:∀n,n≠nm nx->n≠nm id->erHF h' n=erHF h n:=λn h1 h2=>m_ hinv hr hme λsz e=>by
       subst e;rw[hg2,av (λe=>h1 (by rw[e])),av (λe=>h2 (by rw[e]))]
      have hdead:erHF h' (nm id)=U:=by rw[bG,hg2,av (by omega),aD rfl];rfl
      have hnew:erHF h' (nm nx)=Z ⟨ty,.fz ((xs.take j.toNat).flatMap (bD T))⟩:=by rw[bG,hg2,aD rfl];rfl
      have hval:bW h' (.I nx)=Z (.I (nm nx) T.size j.toNat):=by simp only[bW,bx,hg2,bk,aF,iM,dw,jN,cQ,dE,hlen]
      refine ⟨_,_,_,_,_,z,?_⟩;refine fm.mk' hc hH ha0 [nm nx,nm id] (λsz hi=>hi) (λn L=>?_) (λsz hi b' hb'=>?_) (λH1 H2 d hw1 _ hw2=>⟨λsz hi b b' hb1 hb2=>?_,λy hy=>?_⟩) (λn L=>?_) (λn L=>?_) (λn L=>by simp only[aE]at L;subst L;rw[dh];omega) hr hinv' (by omega)
      .simp only[aV,b7,fk,not_or]at L;exact hsame n L.1 L.2
      .simp only[aV,b7,fk]at hi;rcases hi with rfl|rfl
       .exact⟨_,by rw[aD (by simp)];exact eY _ _⟩
       .rw[hdead]at hb';cases hb'
      .simp only[aV,b7,fk]at hi;rcases hi with rfl|rfl
       .rw[hw1 _ (by simp),eY]at hb1;rw[hw2 _ (by simp),hnew]at hb2;simp only[ah]at hb1 hb2;subst hb1 hb2;exact gw.refl d _
       .rw[hw2 _ (by simp),hdead]at hb2;cases hb2
      .rw[hval]at hy;cases hy;exact kz.refl d _
      .simp only[aE]at L;subst L;rw[dh];exact bn.2 rfl
      .simp only[aV,b7,fk]at L;rcases L with rfl|rfl<;>rw[dh,bu,bn.2 rfl]<;>simp
     .cases z
    .cases z
   .cases z
  .rename_i b;split at z
   .rename_i T xs k j hb;let⟨y2,h3,h4⟩:=ba hi hb;simp only[bW,ah]at h2 h4;subst h2 h4;split at z
    .rename_i A;have A:=au A;subst A;let⟨hj,z⟩:=cG z;have hfl:=eE (bl T) xs;have hcond:(db 0 j&&db j (aj xs)&&dN (aj xs*T.size) (l! (xs.flatMap (bD T))))=J:=by
      rw[hj,fo];exact a_ (by omega)
     simp only[db,al,bE]at hj;have hlen:l! (xs.drop j.toNat)=aj xs-j.toNat:=by rw[xl]
     have htk:((xs.flatMap (bD T)).drop (j.toNat*T.size)).take ((aj xs-j.toNat)*T.size)=(xs.flatMap (bD T)).drop (j.toNat*T.size):=by
      refine gB ?_;rw[xl,hfl,Nat.sub_mul];exact bJ _
     exact i_.q (k:=0) (y0:=.f (.sl ((xs.flatMap (bD T)).drop (j.toNat*T.size)) (aj xs-j.toNat))) hinv hc (λH _=>by simp only[dA,h1,h3,gu,hcond,bk,htk]) (cI (by simp only[bW,gu];rw[Nt (bl T),hlen])) z
    .cases z
   .rename_i id k j hb;let⟨y2,h3,h4⟩:=ba hi hb;simp only[bW,ah]at h4;subst h4;split at z
    .rename_i ty p T xs D;split at z
     .rename_i A;have A:=au A;subst A;let⟨hj,z⟩:=cG z;have hcond:(T.size==T.size&&db 0 j&&gD j (aj xs))=J:=by
       simp only[al]at hj;rw[hj.1,hj.2,ch];rfl
      simp only[db,gD,al,bE]at hj;have hp:¬((p&&l! xs==0)=J):=by
       simp only[al,cY];omega
      simp only[bW,bx,D,aF,iM,dw,av hp,ah]at h2;subst h2;exact i_.q (k:=0) (y0:=.sl (nm id) (j.toNat*T.size) (aj xs-j.toNat)) hinv hc (λH _=>by simp only[dA,h1,h3,gu,hcond,bk]) (cI (by simp only[bW,bx,D,aF,iM])) z
     .cases z
    .cases z
   .cases z
  .rename_i b b' hne;split at z
   .rename_i T xs k j k' j' hb hb';let⟨y2,h3,h4⟩:=ba hi hb;let⟨y3,h5,h6⟩:=ba hi hb';simp only[bW,ah]at h2 h4 h6;subst h2 h4 h6;split at z
    .rename_i A;have A:=au A;subst A;let⟨hj,z⟩:=cG z;have hfl:=eE (bl T) xs;have hcond:(decide (j=j')&&db 0 j&&db j (aj xs)&&dN (aj xs*T.size) (l! (xs.flatMap (bD T))))=J:=by
      rw[hj,fo];exact a_ (by omega)
     simp only[db,al,bE]at hj;have hlen:l! (xs.take j.toNat)=j.toNat:=by rw[cu];omega
     refine i_.q (k:=0) (y0:=.qc ((xs.flatMap (bD T)).take (j.toNat*T.size)) j.toNat) hinv hc (λH _=>?_) (cI (by simp only[bW];rw[zF (bl T),hlen])) z;simp only[dA,h1,h3,h5,gu,hcond,bk]
    .cases z
   .cases z
  .cases z
 .cases z
def az9 (hc:cL P o.op=Z (.clr i L c)) (A:eK X W (.op (.clr i L c)) e h nx K=Z r):i_ P o af e h nx K r:=by
 let⟨H,hH⟩:=gI h;simp only[eK]at A;split at A
 .rename_i id j hv;split at A
  .rename_i ty p T xs hb;split at A
   .rename_i D;simp only[al]at D;let⟨⟨D,hz⟩,hco⟩:=D;have D:=au D;have hz:=OR hz;subst D hz;let⟨hj,A⟩:=cG A;simp[db,gD,al,bE]at hj;let⟨y,h1,h2⟩:=ba hi hv;simp[bW,bx,hb,aF,iM,ah]at h2;subst h2;have hp:¬((p&&xs.length==0)=J):=by grind
    have fl:=eE (bl T) xs;have hg:H.get (nm id)=Z ⟨ty,.fz (xs.flatMap (bD T))⟩:=by rw[hH,bG,hb];simp only[aF,kJ,av hp]
    have hrl:(repl (uY T) (xs.length-j.toNat)).length=(xs.length-j.toNat)*T.size:=by
     have h9:=(LD (H:=λ_=>U) (H':=λ_=>U) (λn b hb=>by cases hb) T (xs.length-j.toNat)).length;rw[bQ,bQ,eE (bl T),cP]at h9;exact h9.symm
    have hoff:j.toNat*T.size+(xs.length-j.toNat)*T.size=xs.length*T.size:=by rw[<- Nat.add_mul];congr 1;omega
    have hput:(BC.fz (xs.flatMap (bD T))).put (j.toNat*T.size) ((repl (uY T) (xs.length-j.toNat)).map .f)=Z (.fz (splice (xs.flatMap (bD T)) (j.toNat*T.size) (repl (uY T) (xs.length-j.toNat)))):=by
     unfold BC.put;rw[aD]
     .simp[OZ]
     .simp only[al];refine ⟨⟨rfl,a_ ?_⟩,Kx _ λq hq=>?_⟩
      .simp only[BC.len,bQ];omega
      .obtain⟨v,hv,rfl⟩:=Ve _ q hq;exact iJ.1 hco v hv
    have hblt:ey 0 (xs.length-j.toNat)=J:=a_ (by omega);have ha0:dA (.clr T.size (uY T) c) (DV e h) H (nm nx)=Z ⟨.qb [],[nm id],[nm id],[(nm id,⟨ty,.fz (splice (xs.flatMap (bD T)) (j.toNat*T.size) (repl (uY T) (xs.length-j.toNat)))⟩)],[]⟩:=by
     simp[dA,h1,hg,hblt,bk,hput]
    have hlen:(dP j.toNat xs++aC (aj xs-j.toNat) T.zero).length=xs.length:=by grind
    have hrow:iM (.H ty p T (dP j.toNat xs++aC (aj xs-j.toNat) T.zero))=iM (.H ty p T xs):=by simp[iM,hlen]
    refine ⟨_,_,_,_,_,A,fm.wrt (m:=0) (v:=.qb []) (rd:=gG id) hinv hc hH ha0 hb (dI.zero h) (by simp) hrow (λ_ _ he=>by cases he) (λH1 H2 d g b' z=>?_) (λH1 H2 y d g hy=>?_) (λn hn=>?_)⟩
    .have hp2:¬((p&&(dP j.toNat xs++aC (aj xs-j.toNat) T.zero).length==0)=J):=by rw[hlen];exact hp
     simp only[kJ,av hp2,ah]at z;subst z;refine gw.G rfl rfl ?_ λq hq=>?_
     .simp only[BC.toMx];unfold splice;rw[hrl,hoff,<-fl,List.drop_length,pJ,yB,zF (bl T),cD,cD];exact (gZ.refl d _).append (LD d T _)
     .simp only[BC.toMx]at hq;obtain⟨q',hq',rfl⟩:=cr.1 hq;exact mD T _ q' hq'
    .simp[bW,cJ,ah]at hy;subst hy;exact kz.refl d _
    .simp[aE]at hn;subst hn;rw[dh];exact bn.2 rfl
   .cases A
  .cases A
 .cases A
end ops
def SS {V:Ty} {es:Y (K.den×V.den)} (z:mpE K V es=J):es.map (λp=>(ri K p.1,AV.f (gu V p.2)))=[]:=by
 unfold mpE at z;split at z
 .rfl
 .cases z
def aio {V:Ty} {es:Y (K.den×V.den)} (z:mpE K V es=J):YV K=J:=by
 unfold mpE at z;split at z
 .rfl
 .cases z
def ac4 (z:aee b K=J):YV K=J:=by
 cases K<;>cases b<;>first|rfl|cases z
def S1 (A:aee b K=J) (k z:K.den):w_ .eql (ri K k) (ri K z)=Z (.bool (UG K k z))/\za b (ri K k)=J/\gu K k= .raw (ri K k):=by
 cases K<;>cases b<;>first|cases A|skip
 .exact⟨by simp[w_,ri,UG,ch,bk,ah,Fv];exact Bool.beq_eq_decide_eq _ _,rfl,rfl⟩
 .exact⟨by simp[w_,ri,UG,HB],rfl,rfl⟩
def MF {str:Bool} {V:Ty} (A:aee str K=J) (k:K.den):∀es:Y (K.den×V.den),tR (ri K k) (es.map λp=>(ri K p.1,AV.f (gu V p.2)))=Z ((JB k es).map λv=>AV.f (gu V v))
 |[]=>rfl
 |(z,v)::r=>by
  simp[b9,tR,(S1 A k z).1,JB];cases D:UG K k z with
  |true=>rfl
  |false=>simp[cQ,dE];exact MF A k r
def SK {str:Bool} {V:Ty} (A:aee str K=J) (k:K.den) (v:V.den):∀es:Y (K.den×V.den),AE (ri K k) (.f (gu V v)) (es.map λp=>(ri K p.1,AV.f (gu V p.2)))=Z ((AB k v es).map λp=>(ri K p.1,AV.f (gu V p.2)))
 |[]=>rfl
 |(z,D)::r=>by
  simp[b9,AE,(S1 A k z).1,AB];cases L:UG K k z with
  |true=>rfl
  |false=>simp[SK A k v r,cQ,dE,b9]
def ai3 {ok:Bool} (z:bW h u=Z y):bW h (pkT ok u (.f .bool b))=Z (pkV ok y b):=by
 cases ok with
 |false=>exact z
 |true=>simp[pkT,pkV,bW,cJ,z];rfl
section ops
variable {R:Type} {P:Program} {o:Oper} {e:h_} {h:aX} {nx:Nat} {K:KO R} {r:R}
def Le.aggOf {l:Y FV} (D:∀x∈l,x.isCell=J):Le (.agg (l.map .f)) (.f (.agg l)):=by
 intro φ O w v A;cases A with
 |@agg _ vs hl hcl hrr=>
  refine .f (.agg l vs (by grind) D λj y u L z=>?_);have:=hrr j (.f y) u (by grind) z;cases this with
  |f h=>exact h
def Vo (S:Ty) (l:Y TV):M (S.den×Nat×Y TV):=match l with
 |c::r=>(match iy PT.leaf S c with|some (x,m)=>Z (x,m,r)|none=>U)
 |[]=>U
def Re:∀{l l':Y FV},l.map AV.f=l'.map AV.f->l=l'
 |[],[],_=>rfl
 |[],_::_,h|_::_,[],h=>by simp at h
 |x::r,y::r',h=>by
  simp[b9,eV,AV.f.injEq]at h;rw[h.1,Re h.2]
def Mo (h:aX):∀(ds:Y TypeDesc) (T:Ty),sT ds=Z T->∀(n:Nat) (l:Y TV) (x:T.den) (m:Nat) (r:Y TV),fM PT.leaf n T l=Z (x,m,r)->∀l',cJ h l=Z l'->∃L,cJ h r=Z L/\l'=(bD T x).map .f++L
 |[],T,hd,n,l,x,m,r,hp,l',hl=>by
  simp[sT,ah]at hd;subst hd;cases n with
  |zero=>simp[fM]at hp
  |succ n=>
   obtain⟨_,_,rfl⟩:=hp;exact⟨l',hl,rfl⟩
 |d::ds,T,hd,n,l,x,m,r,hp,l',hl=>by
  have plain:∀(S:Ty),S.one=J->(∀t,S≠ .sl t)->∀(v:TV) (a:S.den) (m:Nat) (y:AV),iy PT.leaf S v=Z (a,m)->bW h v=Z y->y= .f (gu S a):=by
   intro S hS hns v a m y D hy;cases v with
   |f Q q=>
    simp[iy]at D;split at D
    next z hz=>obtain⟨rfl,_⟩:=D;obtain⟨e,rfl⟩:=iO hz;subst e;simp[bW,ah]at hy;exact hy.symm
    .cases D
   |emp|nil=>
    cases S with
    |sl t=>exact cq rfl (hns t)
    |_=>simp[iy]at D
   |I id=>simp[iy,PT.get]at D
   |_=>simp[iy]at D
  have one:∀(S:Ty),S.one=J->(∀t,S≠ .sl t)->∀(n:Nat) (l:Y TV) (a:S.den) (m:Nat) (r:Y TV),fM PT.leaf n S l=Z (a,m,r)->∀l',cJ h l=Z l'->∃L,cJ h r=Z L/\l'=(bD S a).map .f++L:=by
   intro S hS hns n l a m r hp l' hl;cases n with
   |zero=>simp[fM]at hp
   |succ n=>
    cases l with
    |nil=>
     cases S with
     |int k|bool|str=>cases hp
     |sl t=>exact cq rfl (hns t)
     |_=>cases hS
    |cons c q=>
     have hpp:Vo S (c::q)=Z (a,m,r):=by
      cases S with
      |int k=>simp[fM]at hp;simp[Vo];cases hq:iy PT.leaf (.int k) c with
       |none=>rw[hq]at hp;cases hp
       |some z=>rw[hq]at hp;exact hp
      |bool=>simp[fM]at hp;simp[Vo];cases hq:iy PT.leaf .bool c with
       |none=>rw[hq]at hp;cases hp
       |some z=>rw[hq]at hp;exact hp
      |str=>simp[fM]at hp;simp[Vo];cases hq:iy PT.leaf .str c with
       |none=>rw[hq]at hp;cases hp
       |some z=>rw[hq]at hp;exact hp
      |sl t=>exact cq rfl (hns t)
      |_=>cases hS
     simp[Vo]at hpp;split at hpp
     next a1 m1 h1=>simp[ah,aR]at hpp;obtain⟨rfl,rfl,rfl⟩:=hpp;obtain⟨y,L,rfl,g1,g2⟩:=c4 hl;have:=plain S hS hns c a1 m1 y h1 g1;subst this;exact⟨L,g2,by rw[(NL S a1 hS).1];rfl⟩
     .cases hpp
  have two:∀(S A:Ty),S.one=J->(∀t,S≠ .sl t)->sT ds=Z A->T= .pr S A->∃L,cJ h r=Z L/\l'=(bD T x).map .f++L:=by
   intro S A hS hns hU e;subst e;cases n with
   |zero=>simp[fM]at hp
   |succ n=>
    simp[fM]at hp;split at hp
    .rename_i x1 m1 r1 h1;split at hp
     next x2 m2 r2 h2=>simp[ah,aR]at hp;obtain⟨rfl,rfl,rfl⟩:=hp;let⟨L,g1,g2⟩:=one S hS hns n l x1 m1 r1 h1 l' hl;let⟨l3,g3,g4⟩:=Mo h ds A hU n r1 x2 m2 r2 h2 L g1;exact⟨l3,g3,by rw[g2,g4,bD,cD,mP]⟩
     .cases hp
    .cases hp
  cases d with
  |int k=>
   simp[sT]at hd;split at hd
   next A hU=>simp[ah]at hd;exact two (.int k) A rfl (λt h=>by cases h) hU hd.symm
   .cases hd
  |bool=>
   simp[sT]at hd;split at hd
   next A hU=>simp[ah]at hd;exact two .bool A rfl (λt h=>by cases h) hU hd.symm
   .cases hd
  |string=>
   simp[sT]at hd;split at hd
   next A hU=>simp[ah]at hd;exact two .str A rfl (λt h=>by cases h) hU hd.symm
   .cases hd
  |_=>simp[sT]at hd
def G0:∀(ds:Y TypeDesc) (T:Ty),sT ds=Z T->∀a b:T.den,jY ds (bD T a) (bD T b)=Z (UG T a b)
 |[],T,hd,a,b=>by simp[sT,ah]at hd;subst hd;rfl
 |d::ds,T,hd,a,b=>by
  cases d with
  |int k=>
   simp[sT]at hd;split at hd
   .rename_i y z;simp[ah]at hd;subst hd;have A:=G0 ds y z a.2 b.2;simp[bD,gP,lq,jY,wK,ch,bk,UG];cases he:((a.1:Int)==b.1) with
    |true=>have D:(a.1:Int)=b.1:=by simpa using he
           grind
    |false=>have D:¬(a.1:Int)=b.1:=by simpa using he
            grind
   .cases hd
  |bool=>
   simp[sT]at hd;split at hd
   .rename_i y z;simp[ah]at hd;subst hd;have A:=G0 ds y z a.2 b.2;simp[bD,gP,lq,jY,wK,UG]
    grind
   .cases hd
  |string=>
   simp[sT]at hd;split at hd
   .rename_i y z;simp[ah]at hd;subst hd;have A:=G0 ds y z a.2 b.2;simp[bD,gP,lq,jY,wK,UG,HB];cases he:decide ((a.1:ζ)=b.1) with
    |true=>simp[A,fo]
    |false=>simp[jN]
   .cases hd
  |_=>simp[sT]at hd
variable {C:Y TypeDesc}
def RW (A:u.isC=af) (L:u.cs=Z m) {T:Ty} (hd:sT C=Z T) {a:T.den} {lu:Nat} (hp:fM PT.leaf 40 T m=Z (a,lu,[])) (D:bW h u=Z y):Le y (.f (.agg (bD T a))):=by
 let⟨h1,_⟩:=Kv L D;let⟨l2,h2,h3⟩:=Mo h C T hd 40 m a lu [] hp _ h1;simp[cJ,ah]at h2;subst h2;rw[pJ]at h3;cases u with
 |agg l=>
  simp[bW]at D;split at D
  next l' _=>simp[ah]at D;subst D;have:l'=(bD T a).map .f:=h3;rw[this];exact Le.aggOf (pd T a)
  .cases D
 |f S x=>
  simp[bW,ah]at D;subst D;have ho:S.one=af:=A;rw[Du]at h3;have:bD S x=bD T a:=Re h3;rw[sq S x ho,this];exact Le.refl _
 |qb l|undef|qw|qc S q=>simp[TV.cs,TV.isC]at L
 |zh id jj=>cases L
 |_=>cases A
variable (hinv:g_ h nx) (hi:sN e h)
include hinv hi
variable {X:FuncId->M co} {W:TypeId->M Ty}
def az7 {y:Operand} {st:Bool} (hc:cL P o.op=Z (.jh b C c y)) (D:eK X W (.op (.jh b C c y)) e h nx K=Z r):i_ P o st e h nx K r:=by
 let⟨H,hH⟩:=gI h;simp[eK]at D;split at D
 .rename_i T u v hd hu hv;split at D
  .cases D
  .rename_i hcc;simp[nz,not_or,Bool.not_eq_true]at hcc;split at D
   .rename_i lu lv hlu hlv;split at D
    .rename_i a m1 neg m2 hpa hpb;let⟨yu,h1,h2⟩:=ba hi hu;let⟨yv,h3,h4⟩:=ba hi hv;let⟨⟨⟨hc1,hc2⟩,hc3⟩,hc4⟩:=hcc;have l1:=RW hc1 hlu hd hpa h2;have l2:=RW hc2 hlv hd hpb h4;have tmp:∀(z:Operand) (q:TV),dB e z=Z q->q.isC=af->Y4 z=af->∃t,z= .tmp t:=by
      intro z q A hq hg;cases z with
      |tmp t=>exact⟨t,rfl⟩
      |const x=>
       have A:cst x=Z q:=by
        simp[dB,ati]at A;split at A
        .cases hg
        .exact A
       have:=(Ov h A).2.2;rw[hq]at this;cases this
      |func g=>simp[dB,ah]at A;subst A;cases hq
      |global g=>
       simp[dB]at A;split at A
       .cases A;cases hq
       .cases A
     obtain⟨t,rfl⟩:=tmp c u hu hc1 hc3;obtain⟨t',rfl⟩:=tmp y v hv hc2 hc4;have same:t=t'->bD T a=bD T neg:=by grind
     let L:ED:=((DV e h).set t (Z (.f (.agg (bD T a))))).set t' (Z (.f (.agg (bD T neg))))
     have e1:mb L (.tmp t)=Z (.f (.agg (bD T a))):=by
      simp[mb,L,PT.get_set]
      grind
     have e2:mb L (.tmp t')=Z (.f (.agg (bD T neg))):=by simp[mb,L,PT.get_set,bk]
     have ha:dA (.jh b C (.tmp t) (.tmp t')) L H 0=Z ⟨raw (.bool (UG T a neg !=b)),[],[],[],[]⟩:=by
      simp[dA,e1,e2,G0 C T hd a neg];rfl
     have ht:=Mt hc ha;rw[hH]at ht;have ht2:gF P o (fU e h) (erHF h) _:=ht.envLe (e2:=fU e h) λs z _ A=>by
      simp[L,PT.get_set]at A;rw[<- Ds];simp[mb]at h1 h3;split at A
      .grind
      .split at A
       .grind
       .exact⟨z,A,Le.refl _⟩
     refine ⟨_,0,0,h,nx,D,⟨⟨_,ht2,λy hy=>?_,by simp[Dz.eff,vQ],by simp[Dz.eff],by simp[Dz.eff],by simp[Dz.eff]⟩,λ_ _ h=>h,hinv,bJ _,λ_=>⟨rfl,rfl⟩⟩⟩;simp[bW,ah]at hy;exact hy
    .cases D
   .cases D
 .cases D
def ayw (L:cL P o.op=Z .mkm) (D:eK X W (.op .mkm) e h nx K=Z r):i_ P o af e h nx K r:=by
 have _:=hi;let⟨H,hH⟩:=gI h;refine ⟨_,_,_,_,_,D,fm.new hinv L hH (y0:=.mp (nm nx)) (rdl:=[]) (b0:=⟨0,.mp []⟩) rfl (dI.zero h) (λ_ _ he=>by cases he) (λH1 H2 d g b' z=>?_) (λH1 H2 y d g A=>?_) (by simp)⟩
 .cases z;exact gw.refl d _
 .simp[bW,ah]at A;subst A;exact kz.refl d _
def avk (hc:cL P o.op=Z (.jy c)) (z:eK X W (.op (.jy c)) e h nx K=Z r):i_ P o af e h nx K r:=by
 let⟨H,L⟩:=gI h;simp[eK]at z;split at z
 .rename_i id hv;split at z
  .rename_i K' V es hb;let⟨y,h1,h2⟩:=ba hi hv;simp[bW,ah]at h2;subst h2;split at z
   case isFalse=>cases z
   rename_i hO;have hg:H.get (nm id)=Z ⟨0,.mp (es.map λp=>(ri K' p.1,.f (gu V p.2)))⟩:=by rw[L,bG,hb];show Z (kH.mk 0 (mpC K' V es))=_;rw[Ci hO]
   exact⟨_,_,_,_,_,z,fm.pure (k:=0) hinv hc L (y0:=raw (.int .i64 (l! es))) (rdl:=[nm id]) (by simp[dA,h1,hg,bQ]) (λy A=>by simp[bW,ah]at A;subst A;exact Le.refl _) (λn D=>by simp[aE]at D;subst D;rw[dh];exact bn.2 rfl) nofun⟩
  .cases z
 .cases z
def az0 {ok:Bool} {k:Operand} (hc:cL P o.op=Z (.jg b ok v c k)) (D:eK X W (.op (.jg b ok v c k)) e h nx K=Z r):i_ P o af e h nx K r:=by
 let⟨H,hH⟩:=gI h;simp only[eK]at D;split at D
 .rename_i id KT kv hv hv2;split at D
  .rename_i K' V es hb;split at D
   .rename_i hK;let⟨y,h1,h2⟩:=ba hi hv;let⟨y2,h3,h4⟩:=ba hi hv2;simp[bW,ah]at h2 h4;subst h2 h4;simp[al]at hK;have hg:H.get (nm id)=Z ⟨0,.mp (es.map λp=>(ri K' p.1,.f (gu V p.2)))⟩:=by rw[hH,bG,hb];show Z (kH.mk 0 (mpC K' V es))=_;rw[Ci hK.2]
    let⟨_,hok,henc⟩:=S1 hK.1 kv kv;rw[henc]at h3;have hrd:∀n∈[nm id],aK (gG id) (ow n)=J:=λn hn=>by simp[aE]at hn;subst hn;rw[dh];exact bn.2 rfl
    split at D
    .rename_i hE;split at D
     next z hz=>have hzz:=(Ov h hz).1;exact⟨_,_,_,_,_,D,fm.pure (k:=0) hinv hc hH (y0:=pkV ok (raw v) af) (rdl:=[nm id]) (by simp[dA,h1,h3,hg,hok,bk,SS hE,tR]) (λy L=>by rw[ai3 hzz]at L;cases L;exact Le.refl _) hrd nofun⟩
     .cases D
    .split at D
     .rename_i kv' A zv hkv hz;split at D
      .rename_i zv' hzv;let⟨e1,e2⟩:=iO hkv;cases e1;subst e2;let⟨e3,e4⟩:=iO hzv;cases e3;subst e4;have hzz:=(Ov h hz).1;simp[bW,ah]at hzz;refine ⟨_,_,_,_,_,D,fm.pure (k:=0) hinv hc hH (y0:=pkV ok (.f (gu _ (Bt kv' es zv'))) (aed kv' es)) (rdl:=[nm id]) ?_ (λy L=>by rw[ai3 (y:=.f (gu _ (Bt kv' es zv'))) rfl]at L;cases L;exact Le.refl _) hrd nofun⟩;simp[dA,h1,h3,hg,hok,bk,MF hK.1];unfold Bt aed;cases hf:JB kv' es with
       |none=>simp[Option.map_none];rw[hzz]
       |some z=>rfl
      .cases D
     .cases D
   .cases D
  .cases D
 .cases D
def ayv {k v:Operand} (hc:cL P o.op=Z (.jk b c k v)) (z:eK X W (.op (.jk b c k v)) e h nx K=Z r):i_ P o af e h nx K r:=by
 let⟨H,hH⟩:=gI h;simp only[eK]at z;split at z
 .rename_i id KT kv VT vv hv hv2 hv3;split at z
  .rename_i K' V es hb;split at z
   .rename_i D;simp[al]at D;let⟨y,h1,h2⟩:=ba hi hv;let⟨y2,h3,h4⟩:=ba hi hv2;let⟨y3,h5,h6⟩:=ba hi hv3;simp[bW,ah]at h2 h4 h6;subst h2 h4 h6;have hg:H.get (nm id)=Z ⟨0,.mp (es.map λp=>(ri K' p.1,.f (gu V p.2)))⟩:=by rw[hH,bG,hb];show Z (kH.mk 0 (mpC K' V es))=_;rw[Ci D.2]
    let⟨_,hok,henc⟩:=S1 D.1.1 kv kv;rw[henc]at h3;have hrd:∀n∈[nm id],aK (gG id) (ow n)=J:=λn hn=>by simp[aE]at hn;subst hn;rw[dh];exact bn.2 rfl
    split at z
    next hE=>exact⟨_,_,_,_,_,z,fm.wrt (k:=0) (m:=0) (v:=.undef) (rd:=gG id) hinv hc hH (y0:=raw undef) (b0:=⟨0,.mp [(ri KT kv,.f (gu VT vv))]⟩) (rdl:=[nm id]) (by simp[dA,h1,h3,h5,hg,hok,bk,SS hE,AE]) (B:=.mp KT VT [(kv,vv)]) hb (dI.zero h) (by simp) rfl (λty' l2 he=>by cases he) (λH1 H2 d g b' A=>by simp[kJ,Ci (ac4 D.1.1),ah]at A;subst A;exact gw.refl d _) (λH1 H2 y d g L=>by simp[bW,ah]at L;subst L;exact kz.refl d _) hrd⟩
    .split at z
     next kv' vv' hkv hvv=>let⟨e1,e2⟩:=iO hkv;cases e1;subst e2;let⟨e3,e4⟩:=iO hvv;cases e3;subst e4;exact⟨_,_,_,_,_,z,fm.wrt (k:=0) (m:=0) (v:=.undef) (rd:=gG id) hinv hc hH (y0:=raw undef) (b0:=⟨0,.mp ((AB kv' vv' es).map λp=>(ri _ p.1,.f (gu _ p.2)))⟩) (rdl:=[nm id]) (by simp[dA,h1,h3,h5,hg,hok,bk,SK D.1.1]) (B:=.mp _ _ (AB kv' vv' es)) hb (dI.zero h) (by simp) rfl (λty' l2 he=>by cases he) (λH1 H2 d g b' A=>by simp[kJ,Ci (ac4 D.1.1),ah]at A;subst A;exact gw.refl d _) (λH1 H2 y d g L=>by simp[bW,ah]at L;subst L;exact kz.refl d _) hrd⟩
     .cases z
   .cases z
  .cases z
 .cases z
def ays (hc:cL P o.op=Z (.rng c)) (z:eK X W (.op (.rng c)) e h nx K=Z r):i_ P o af e h nx K r:=by
 let⟨H,hH⟩:=gI h;simp only[eK]at z;split at z
 .rename_i s hv;let⟨y,h1,L⟩:=ba hi hv;simp[bW,ah]at L;subst L;refine ⟨_,_,_,_,_,z,fm.new hinv hc hH (y0:=.P (nm nx) 0) (rdl:=[]) (b0:=⟨0,.it ⟨jU s⟩ 0⟩) (by simp[dA,h1];rfl) (dI.zero h) (λ_ _ he=>by cases he) (λH1 H2 d g b' A=>?_) (λH1 H2 y d g D=>?_) (by simp)⟩
  .cases A;exact gw.refl d _
  .simp[bW,ah]at D;subst D;exact kz.refl d _
 .cases z
def ayt (hc:cL P o.op=Z (.nxt c)) (z:eK X W (.op (.nxt c)) e h nx K=Z r):i_ P o af e h nx K r:=by
 let⟨H,hH⟩:=gI h;simp only[eK]at z;split at z
 .rename_i id hv;split at z
  .rename_i K' V es L;split at z
   .rename_i s p hI;let⟨y,h1,h2⟩:=ba hi hv;simp[bW,ah]at h2;subst h2;have hg:H.get (nm id)=Z ⟨0,.it ⟨jU s⟩ p⟩:=by rw[hH,bG,L];show Z (kH.mk 0 (mpC K' V es))=_;rw[at6 hI]
    have hrd:∀n∈[nm id],aK (gG id) (ow n)=J:=λn hn=>by simp[aE]at hn;subst hn;rw[dh];exact bn.2 rfl
    rcases lQ z with ⟨hp,z⟩|⟨hp,z⟩
    .have hp:=aT hp;have e2:(⟨jU s⟩:ByteArray).data.toList[p]? =Z (List.getD s p 0):=by grind
     exact⟨_,_,_,_,_,z,fm.wrt (k:=0) (m:=0) (rd:=gG id) hinv hc hH (y0:=.qb [raw (.bool J),raw (.int .i64 p),raw (.int .i32 (rnP s p))]) (b0:=⟨0,.it ⟨jU s⟩ (p+wdP s p)⟩) (rdl:=[nm id]) (by simp only[dA,h1,hg,e2];rfl) (B:=.mp itK .un [((s,aQ (p+wdP s p)),())]) L (dI.zero h) (by simp) rfl (λty' l2 he=>by cases he) (λH1 H2 d g b' A=>by cases A;exact gw.refl d _) (λH1 H2 y d g D=>by cases D;exact kz.refl d _) hrd⟩
    .have hp:l! s<=p:=Nat.not_lt.1 λq=>by rw[show ey p (l! s)=J from a_ q]at hp;cases hp
     have e2:(⟨jU s⟩:ByteArray).data.toList[p]? =U:=by grind
     exact⟨_,_,_,_,_,z,fm.wrt (k:=0) (m:=0) (rd:=gG id) hinv hc hH (y0:=.qb [raw (.bool af)]) (b0:=⟨0,.it ⟨jU s⟩ p⟩) (rdl:=[nm id]) (by simp[dA,h1,hg,e2]) (B:=.mp itK .un [((s,aQ p),())]) L (dI.zero h) (by simp) rfl (λty' l2 he=>by cases he) (λH1 H2 d g b' A=>by cases A;exact gw.refl d _) (λH1 H2 y d g D=>by cases D;exact kz.refl d _) hrd⟩
   .cases z
  .cases z
 .cases z
def K_op {s:UI} (D:cL P o.op=Z s) (A:eK X W (.op s) e h nx K=Z r):i_ P o s.still e h nx K r:=by
 cases s with
 |mv x=>exact K_mv hinv hi D A
 |pick c a b=>exact avf hinv hi D A
 |alloc ty z=>exact aqc hinv hi D A
 |box ty x=>exact azb hinv hi D A
 |build z parts=>exact aqb hinv hi D A
 |xx ty sz len z parts=>exact aza hinv hi D A
 |load sz L x=>exact avi hinv hi D A
 |store sz x v=>exact aq8 hinv hi D A
 |zl x=>exact avg hinv hi D A
 |bin op x y=>exact azc hinv hi D A
 |jh neg ds x y=>exact az7 hinv hi D A
 |xj neg x y=>exact az8 hinv hi D A
 |zd neg x=>exact aqa hinv hi D A
 |not x=>exact ayu hinv hi D A
 |conv k x=>exact avn hinv hi D A
 |zm ty sz bytes z l c=>exact avh hinv hi D A
 |slc sz x lo hi' mx=>exact ayr hinv hi D A
 |jb off x=>exact az5 hinv hi D A
 |fld off sz L x=>exact az4 hinv hi D A
 |jf sz x i=>exact az3 hinv hi D A
 |idx n sz L x i=>exact az2 hinv hi D A
 |jv n sz x i=>exact avl hinv hi D A
 |ext x i=>exact az6 hinv hi D A
 |len x=>exact az1 hinv hi D A
 |lens x=>exact avj hinv hi D A
 |max x y=>exact ayz hinv hi D A
 |min x y=>exact ayy hinv hi D A
 |jx x i=>exact ave hinv hi D A
 |app ty sz bytes s x=>exact azd hinv hi D A
 |copy sz d x=>exact avm hinv hi D A
 |clr sz z x=>exact az9 hinv hi D A
 |mkf f caps=>exact ayx hinv hi D A
 |mkm=>exact ayw hinv hi D A
 |rng x=>exact ays hinv hi D A
 |nxt x=>exact ayt hinv hi D A
 |jy x=>exact avk hinv hi D A
 |jg str ok z x k=>exact az0 hinv hi D A
 |jk str x k v=>exact ayv hinv hi D A
 |_=>simp[eK]at A
end ops
mutual
def AV.qx (g:Nat->Nat):AV->AV
 |.f x=>.f x
 |.P id off=>.P (g id) off
 |.sl id off n=>.sl (g id) off n
 |.I id sz n=>.I (g id) sz n
 |.mp id=>.mp (g id)
 |.emp=>.emp
 |.qw=>.qw
 |.qc l n=>.qc l n
 |.agg l=>.agg (AV.renL g l)
 |.qb l=>.qb (AV.renL g l)
 |.qy q l=>.qy q (AV.renL g l)
def AV.renL (g:Nat->Nat):Y AV->Y AV
 |[]=>[]
 |x::r=>x.qx g::AV.renL g r
end
def oC (g:Nat->Nat):∀l,AV.renL g l=l.map (AV.qx g)
 |[]=>rfl
 |x::r=>by rw[AV.renL,oC g r];rfl
def FZ (g:Nat->Nat) (x:AV):(x.qx g).isCell=x.isCell:=by cases x<;>rfl
variable {g:Nat->Nat}
def cf.renTo {φ':PM} (A:∀i k,V i=Z k->φ' (g i)=Z k) (h:cf V O w y v):cf φ' O w (y.qx g) v:=by
 induction h with
 |f h=>exact .f h
 |P h=>exact .P (A _ _ h)
 |sl h D L=>exact .sl (A _ _ h) D L
 |I h D L hsh=>exact .I (A _ _ h) D L hsh
 |emp=>exact .emp
 |qw=>exact .qw
 |qc h=>exact .qc h
 |mp h=>exact .mp (A _ _ h)
 |agg hl hcl hr ih=>
  simp[AV.qx,oC];refine .agg (by grind) (λy z=>?_) λj y v z hv=>?_
  .obtain⟨x,hy,rfl⟩:=cr.1 z;rw[FZ];exact hcl x hy
  .grind
 |qb hl hr ih=>
  simp[AV.qx,oC];refine .qb (by grind) λj y v z hv=>?_
  grind
 |qy hl hr ih=>
  simp[AV.qx,oC];refine .qy (by grind) λj y v z hv=>?_
  grind
variable {p:Nat->Bool}
def cf.renFrom {φ':PM} (hk:∀i k,p i=J->V (g i)=Z k->φ' i=Z k) (h:cf V O w y v):∀x:AV,x.all p=J->y=x.qx g->cf φ' O w x v:=by
 induction h with
 |f h=>intro x hp e;cases x<;>simp[AV.qx,reduceCtorEq]at e;cases e;exact .f h
 |P h=>intro x hp e;cases x<;>simp only[AV.qx,reduceCtorEq]at e;cases e;exact .P (hk _ _ hp h)
 |sl h hn hc=>intro x hp e;cases x<;>simp only[AV.qx,reduceCtorEq]at e;cases e;exact .sl (hk _ _ hp h) hn hc
 |I h hn hc hsh=>intro x hp e;cases x<;>simp only[AV.qx,reduceCtorEq]at e;cases e;exact .I (hk _ _ hp h) hn hc hsh
 |emp=>intro x hp e;cases x<;>simp[AV.qx,reduceCtorEq]at e;exact .emp
 |qw=>intro x hp e;cases x<;>simp[AV.qx,reduceCtorEq]at e;exact .qw
 |qc h=>intro x hp e;cases x<;>simp only[AV.qx,reduceCtorEq]at e;cases e;exact .qc h
 |mp h=>intro x hp e;cases x<;>simp[AV.qx,reduceCtorEq]at e;cases e;exact .mp (hk _ _ hp h)
 |agg hl hcl hr A=>
  intro x hp e;cases x<;>simp[AV.qx,reduceCtorEq]at e;cases e;rw[oC]at hl hcl hr A;refine .agg (by grind) (λx D=>?_) λj x v D L=>?_
  .have:=hcl (x.qx g) (cr.2 ⟨x,D,rfl⟩);rwa [FZ]at this
  .exact A j (x.qx g) v (by grind) L x (nH hp x (a8 D)) rfl
 |qb hl hr A=>
  intro x hp e;cases x<;>simp[AV.qx,reduceCtorEq]at e;cases e;rw[oC]at hl hr A;refine .qb (by grind) λj x v D L=>?_
  exact A j (x.qx g) v (by grind) L x (nH hp x (a8 D)) rfl
 |qy hl hr A=>
  intro x hp e;cases x<;>simp only[AV.qx,reduceCtorEq]at e;cases e;rw[oC]at hl hr A;refine .qy (by grind) λj x v D L=>?_
  exact A j (x.qx g) v (by grind) L x (nH hp x (a8 D)) rfl
def BC.qx (g:Nat->Nat):BC->BC
 |.fz l=>.fz l
 |.mx l=>.mx (l.map (AV.qx g))
 |.mp es=>.mp (es.map λp=>(p.1,p.2.qx g))
 |.it s p=>.it s p
def kH.qx (g:Nat->Nat) (b:kH):kH:=⟨b.ty,b.c.qx g⟩
def ij.renTo {φ':PM} {O':Nat->Prop} (L:∀x v,cf V O w x v->cf φ' O' w (x.qx g) v) {o:Obj} (h:ij V O w N o):ij φ' O' w (N.qx g) o:=by
 let⟨ty,c⟩:=N;simp[kH.qx];cases c with
 |fz l=>
  let⟨arr,h1,A,D⟩:=h;refine ⟨arr,h1,A,λj x z=>?_⟩;let⟨a,v,c,d⟩:=D j x z;obtain⟨q,_,rfl⟩:=gA.1 z;exact⟨a,v,c,L _ _ d⟩
 |mx l=>
  simp[BC.qx];let⟨arr,h1,A,D⟩:=h;refine ⟨arr,h1,by simpa[BC.len] using A,λj x z=>?_⟩;simp only[BC.get,bB]at z;obtain⟨q,hq,rfl⟩:=gA.1 z;let⟨a,v,c,d⟩:=D j q hq;exact⟨by rw[FZ];exact a,v,c,L _ _ d⟩
 |mp es=>
  let⟨e,c,h1,A,D⟩:=h;refine ⟨e,c,h1,by rw[adm];exact A,λj x z=>?_⟩
  grind
 |it s p=>exact h
def ij.renFrom {φ':PM} {O':Nat->Prop} (L:∀x v,x.all p=J->cf V O w (x.qx g) v->cf φ' O' w x v) (hb:N.c.all p=J) {o:Obj} (h:ij V O w (N.qx g) o):ij φ' O' w N o:=by
 let⟨ty,c⟩:=N;simp[kH.qx]at h;cases c with
 |fz l=>
  let⟨arr,h1,A,D⟩:=h;refine ⟨arr,h1,A,λj x z=>?_⟩;let⟨a,v,c,d⟩:=D j x z;obtain⟨q,_,rfl⟩:=gA.1 z;exact⟨a,v,c,L _ _ rfl d⟩
 |mx l=>
  simp[BC.qx]at h;let⟨arr,h1,A,D⟩:=h;refine ⟨arr,h1,by simpa[BC.len] using A,λj x z=>?_⟩;simp[BC.get]at z;let⟨a,v,c,d⟩:=D j (x.qx g) (by simp only[BC.get,bB,z];rfl);rw[FZ]at a;exact⟨a,v,c,L _ _ (nH hb x (a8 z)) d⟩
 |mp es=>
  let⟨e,c,h1,A,D⟩:=h;refine ⟨e,c,h1,by rw[adm]at A;exact A,λj x z=>?_⟩;let⟨m,a,N⟩:=D j (x.1,x.2.qx g) (by grind);exact⟨m,a,L _ _ (nH hb x.2 (cr.2 ⟨x,a8 z,rfl⟩)) N⟩
 |it s p=>exact h
mutual
def Cd (g:Nat->Nat):TV->TV
 |.I i=>.I (g i)
 |.zh i j=>.zh (g i) j
 |.agg l=>.agg (lE g l)
 |.qb l=>.qb (lE g l)
 |.qy q l=>.qy q (lE g l)
 |.f T v=>.f T v
 |.zf T xs j h off=>.zf T xs j h off
 |.zj a b c d=>.zj (g a) b c d
 |.P a b=>.P (g a) b
 |.qg a b c=>.qg (g a) b c
 |.emp=>.emp
 |.nil=>.nil
 |.mp i=>.mp (g i)
 |.undef=>.undef
 |.np=>.np
 |.qw=>.qw
 |.qc T xs=>.qc T xs
 |.sb s=>.sb (s.to (g s.id))
def lE (g:Nat->Nat):Y TV->Y TV
 |[]=>[]
 |x::r=>Cd g x::lE g r
end
def vG (g:Nat->Nat):∀l,lE g l=l.map (Cd g)
 |[]=>rfl
 |x::r=>by rw[lE,vG g r];rfl
def lm (g:Nat->Nat):e9->e9
 |.G ty l=>.G ty (lE g l)
 |.H ty p T xs=>.H ty p T xs
 |.qj p sz n=>.qj p sz n
 |.mp K V es=>.mp K V es
 |.Q F a x=>.Q F (F.aid (g a)) x
 |.qd F a x k p=>.qd F (F.aid (g a)) x k (p.map λq=>(g q.1,q.2))
def Mg (g:Nat->Nat) (b:e9):iM (lm g b)=iM b:=by cases b<;>rfl
def pH (g:Nat->Nat) (n:Nat):Nat:=jQ (g (ow n)) (ix n)
def Dp (g:Nat->Nat) (i k:Nat):pH g (jQ i k)=jQ (g i) k:=by unfold pH;rw[iR,wy]
def Cx (g:Nat->Nat) (i:Nat):pH g (nm i)=nm (g i):=Dp g i 0
def LR (g:Nat->Nat) (i:Nat) (j:Int):pH g (pK i j)=pK (g i) j:=Dp g i _
def xX (g:Nat->Nat) (n:Nat):ow (pH g n)=g (ow n):=iR _ _
def AH (g:Nat->Nat) (n:Nat):ix (pH g n)=ix n:=wy _ _
def Vb (g:Nat->Nat) (id j sz n:Nat):(uL id j sz n).qx (pH g)=uL (g id) j sz n:=by
 unfold uL;split
 .rfl
 .simp[AV.qx,Dp]
def aoj (g:Nat->Nat) (s:Sb):K9 (s.to (g s.id))=(K9 s).qx (pH g):=by
 cases s with
 |nr id j sz n=>simp[Sb.to,Sb.id,K9,Vb]
 |_=>simp[Sb.to,Sb.id,K9,AV.qx,LR,Dp]
mutual
def atg {g:Nat->Nat} {h1 h2:aX} (hrow:∀i r,eM h1 i=Z r->eM h2 (g i)=Z r):∀(v:TV) (y:AV),bW h1 v=Z y->bW h2 (Cd g v)=Z (y.qx (pH g))
 |.f _ _,y,he|.zf _ _ _ _ _,y,he=>by simp[bW,ah]at he;subst he;rfl
 |.zj _ _ _ _,y,he|.P _ _,y,he|.qg _ _ _,y,he=>by simp[bW,ah]at he;subst he;simp[Cd,bW,AV.qx,Cx]
 |.I id,y,he=>by
  simp[bW]at he;split at he
  .rename_i p sz n hr;simp[ah]at he;subst he;simp[Cd,bW,hrow id _ hr];unfold dw;split
   .rfl
   .simp[AV.qx,Cx]
  .cases he
 |.zh id jj,y,he=>by
  simp[bW]at he;split at he
  .rename_i p sz n hr;simp[ah]at he;subst he;simp[Cd,bW,hrow id _ hr,AV.qx,Cx]
  .cases he
 |.emp,y,he|.nil,y,he=>by simp[bW,ah]at he;subst he;rfl
 |.mp _,y,he=>by simp[bW,ah]at he;subst he;simp[Cd,bW,AV.qx,Cx]
 |.agg l,y,he|.qb l,y,he|.qy q l,y,he=>by
  simp[bW]at he;split at he
  .rename_i l' hl;simp[ah]at he;subst he;simp[Cd,bW,qB hrow l l' hl,AV.qx]
  .cases he
 |.undef,y,he|.np,y,he|.qw,y,he|.qc _ _,y,he=>by simp[bW,ah]at he;subst he;rfl
 |.sb s,y,he=>by simp[bW,ah]at he;subst he;simp[Cd,bW,aoj]
def qB {g:Nat->Nat} {h1 h2:aX} (hrow:∀i r,eM h1 i=Z r->eM h2 (g i)=Z r):∀(l:Y TV) (l':Y AV),cJ h1 l=Z l'->cJ h2 (lE g l)=Z (AV.renL (pH g) l')
 |[],l',he=>by simp[cJ,ah]at he;subst he;rfl
 |x::r,l',he=>by
  obtain⟨y,l2,rfl,e1,e2⟩:=c4 he;exact qC (atg hrow x y e1) (qB hrow r l2 e2)
end
def WL (g:Nat->Nat) (a:Nat) (es:Y e!):(w7 a es).map (λp=>(p.1,p.2.qx (pH g)))=w7 (g a) es:=by
 unfold w7;rw[kX];refine iZ λe _=>?_
 simp[Function.comp,AV.qx,LR]
def WH (g:Nat->Nat) (a:Nat) (k:ν) (v:AV):∀es:Y e!,(ND a k v es).map (λp=>(p.1,p.2.qx (pH g)))=ND (g a) k (v.qx (pH g)) es
 |[]=>rfl
 |e::r=>by
  simp[ND];split
  .rw[b9,WL]
  .rw[b9,WH g a k v r];simp[AV.qx,LR]
def H7 (g:Nat->Nat) (a sz:Nat):∀(z:η) (k:Nat),(lX a sz k z).map (AV.qx (pH g))=lX (g a) sz k z
 |[],_=>rfl
 |l::r,k=>by simp[lX,b9,Vb,H7 g a sz r (k+1)]
def ae2 (g:Nat->Nat) (p:Bool) (id sz n:Nat):(dw p id sz n).qx (pH g)=dw p (g id) sz n:=by
 unfold dw;split
 .rfl
 .simp[AV.qx,Cx]
def ai1 (g:Nat->Nat) (a:Nat) (z:η):(z.map λj=>AV.P (pK a j) 0).map (AV.qx (pH g))=z.map λj=>.P (pK (g a) j) 0:=by
 rw[kX];refine iZ λj _=>?_
 simp[Function.comp,AV.qx,LR]
def Wx (g:Nat->Nat) (a:Nat) (F:uE) (x:F.ty.den):uw (F.aid (g a)) F x=(uw a F x).map (kH.qx (pH g)):=by
 cases F with
 |qn ty=>
  simp[uw,uE.aid];split
  .rfl
  .exact (eO (λz=>Z (kH.mk ty (.mx z))) (ai1 g a x)).symm
 |qr=>exact (eO (λz=>Z (kH.mk 0 (.mp z))) (WL g a x)).symm
 |rr ty sz=>exact (eO (λz=>Z (kH.mk ty (.mx z))) (H7 g a sz x 0)).symm
 |_=>rfl
def af5 (g:Nat->Nat) (a:Nat) (k:ν) (F:uE) (x:F.ty.den) (p:M (Nat×Bool×Nat)):acl (F.aid (g a)) k F x (p.map λq=>(g q.1,q.2))=(acl a k F x p).map (kH.qx (pH g)):=by
 cases F with
 |qr=>
  cases p with
  |none=>rfl
  |some q=>
   have:=WH g a k (.P (nm q.1) 0) x;simp[AV.qx,Cx]at this;exact (eO (λz=>Z (kH.mk 0 (.mp z))) this).symm
 |rr ty sz=>
  cases p with
  |none=>rfl
  |some q=>
   have:=H7 g a sz x 0;simp[acl,uE.aid,bh,kH.qx,BC.qx,List.map_set,ae2]
   grind
 |_=>rfl
def af7 (g:Nat->Nat) (k:Nat) (ty:TypeId) (T:Ty) (xss:Y (Y T.den)):rk k ty T xss=(rk k ty T xss).map (kH.qx (pH g)):=by
 unfold rk;cases xss[k]? with
 |none=>rfl
 |some xs=>
  simp[aF,Zx];split<;>rfl
def af8 (g:Nat->Nat) (i k:Nat) (ty:TypeId) (S:Ty) (xs:Y (C6 S)):rm (g i) k ty S xs=(rm i k ty S xs).map (kH.qx (pH g)):=by
 unfold rm;rw[Option.map_map];congr 1;funext o;simp[Function.comp,wJ];split
 .simp only[kH.qx,BC.qx,cD,kX,b9,C',AV.qx,Dp];rfl
 .simp only[kH.qx,BC.qx,Ik,kX];rfl
def Nw (g:Nat->Nat) (i k:Nat) (F:uE) (x:F.ty.den):K7 (g i) k F x=(K7 i k F x).map (kH.qx (pH g)):=by
 cases F with
 |ar ty S=>
  exact af8 g i k ty S x
 |ir ty T=>
  exact af7 g k ty T x
 |_=>rfl
def VD (g:Nat->Nat) (i k:Nat) (b:e9):wX (g i) k (lm g b)=(wX i k b).map (kH.qx (pH g)):=by
 cases b with
 |Q F a x=>exact Nw g i k F x
 |qd F a x j p=>
  cases p with
  |none=>
   simp[lm,wX,Option.map_none];split
   .rfl
   .exact Nw g i k F x
  |some q=>exact Nw g i k F x
 |_=>rfl
def aom {A:aX} (hrow:∀i r,eM h i=Z r->eM A (g i)=Z r) {b:e9} (he:kJ h b=Z N):kJ A (lm g b)=Z (N.qx (pH g)):=by
 cases b with
 |H ty p T xs=>
  simp only[kJ]at he;split at he
  .cases he
  next D=>simp[ah]at he;subst he;simp only[lm,kJ,av D];rfl
 |G ty l=>
  cases ty with
  |some ty=>
   simp[kJ]at he;split at he
   next l' z=>simp[ah]at he;subst he;simp[lm,kJ,qB hrow l l' z,oC];rfl
   .cases he
  |none=>
   simp[kJ]at he;split at he
   next l' z=>simp[ah]at he;subst he;simp[lm,kJ,qB hrow l l' z,oC,kH.qx,BC.qx]
   .cases he
 |qj p sz n=>cases he
 |mp K V es=>
  simp[kJ,ah]at he;subst he;simp[lm,kJ,kH.qx,ah,kH.mk.injEq,EK];unfold mpC;split
  .rfl
  .simp only[BC.qx,kX];rfl
 |Q F a x=>
  simp[kJ]at he;simp[lm,kJ,Wx,he,bh]
 |qd F a x k p=>
  simp[kJ]at he;simp[lm,kJ,af5,he,bh]
def Dr {z:aX} (hrow:∀i r,eM h i=Z r->eM z (g i)=Z r) {b:e9} :∀{k:Nat},Pq h i k b=Z N->Pq z (g i) k (lm g b)=Z (N.qx (pH g))
 |0,he=>aom hrow he
 |k+1,he=>by
  simp[Pq]at he ⊢;rw[VD,he];rfl
def F0 (g:Nat->Nat) (a b:Y TV):lE g (a++b)=lE g a++lE g b:=by
 rw[vG,vG,vG,cD]
def rq (g:Nat->Nat):∀(n:Nat) (T:Ty) (v:T.den) (l:Y TV),cellsOf n T v=Z l->lE g l=l
 |0,_,_,_,he=>by simp[cellsOf]at he
 |n+1,.st t,v,l,he=>rq g n t v l he
 |n+1,.pr a b,v,l,he=>by
  simp[cellsOf]at he;split at he
  next x y A z=>simp[ah]at he;subst he;rw[F0,rq g n a v.1 x A,rq g n b v.2 y z]
  .cases he
 |n+1,.un,v,l,he=>by simp[cellsOf,ah]at he;subst he;rfl
 |n+1,.ex,v,l,he=>rq g n Rq (Sf v) l he
 |n+1,.sm,v,l,he=>rq g n QY (Se v) l he
 |n+1,.int k,v,l,he|n+1,.bool,v,l,he|n+1,.str,v,l,he|n+1,.sl t,v,l,he=>by simp[cellsOf,ah]at he;subst he;rfl
abbrev MX:Nat->Nat:=λi=>i
mutual
def ahz (g:Nat->Nat):∀(p:PV) (x:p.ty.den),nS g p x=(nS MX p x).map (lE g)
 |.d T,x=>by
  simp only[nS];cases h:cellsOf 40 T x with
  |none=>rfl
  |some l=>simp only[bh,rq g 40 T x l h]
 |.P i o,x|.qg i o z,x=>rfl
 |.qy q ps,x=>by simp only[nS,bh,lE,Cd,vG,kX];rfl
 |.ob i o,x|.nr i s,x|.I i,x|.mp i,x|.nil,x|.emp,x=>rfl
 |.agg ps,x=>De g ps x
def De (g:Nat->Nat):∀(ps:Y PV) (x:(PV.tyL ps).den),sO g ps x=(sO MX ps x).map (lE g)
 |[],x=>rfl
 |p::r,x=>by
  simp only[sO];rw[ahz g p,De g r];cases nS MX p (UF p.ty (PV.tyL r) x) with
  |none=>rfl
  |some a=>
   cases sO MX r (Sm p.ty (PV.tyL r) x) with
   |none=>rfl
   |some b=>simp only[bh,F0]
end
def atw (o:M (Y TV)):M TV:=match o with|some l=>Z (.agg l)|none=>U
def al7 (g:Nat->Nat) (o:M (Y TV)):atw (o.map (lE g))=(atw o).map (Cd g):=by cases o<;>rfl
def ahy (g:Nat->Nat) (p:PV) (x:p.ty.den):rE g p x=(rE MX p x).map (Cd g):=by
 cases p with
 |agg z=>exact (eO atw (De g z x)).trans (al7 g _)
 |qy q z=>simp only[rE,bh,Cd,vG,kX];rfl
 |_=>rfl
def vH (g:Nat->Nat):∀(z:Y PV) (x:(PV.tyL z).den),rD g z x=(rD MX z x).map (lE g)
 |[],x=>rfl
 |p::r,x=>by
  simp[rD];rw[ahy g p,vH g r];cases rE MX p (UF p.ty (PV.tyL r) x) with
  |none=>rfl
  |some a=>
   cases rD MX r (Sm p.ty (PV.tyL r) x) with
   |_=>rfl
def aa8 (ty:M TypeId) (o:M (Y TV)):M (M e9):=match o with|some l=>Z (Z (.G ty l))|none=>U
def aa7 (g:Nat->Nat) (ty:M TypeId) (o:M (Y TV)):aa8 ty (o.map (lE g))=(aa8 ty o).map (il (lm g)):=by cases o<;>rfl
def ai0 (g:Nat->Nat) (b:PB) (x:b.ty.den):DB g b x=(DB MX b x).map (il (lm g)):=by
 cases b with
 |G ty z=>exact (eO (aa8 ty) (De g z x)).trans (aa7 g ty _)
 |Q F a=>cases F<;>rfl
 |_=>rfl
def yO (g:Nat->Nat):∀(bs:Y PB) (x:(PB.tyL bs).den),qT g bs x=(qT MX bs x).map (gL (il (lm g)))
 |[],x=>rfl
 |b::r,x=>by
  simp[qT];rw[ai0 g b,yO g r];cases DB MX b (UF b.ty (PB.tyL r) x) with
  |none=>rfl
  |some a=>grind
def F4 (g:Nat->Nat):∀(bs:Y PB) (x:(PB.tyL bs).den) (l:Y (M e9)),qT g bs x=Z l->l! l=l! bs
 |[],x,l,h=>by simp[qT,ah]at h;subst h;rfl
 |b::r,x,l,h=>by
  simp[qT]at h;split at h
  .split at h
   next q z=>simp[ah]at h;subst h;simp[F4 g r _ q z]
   .cases h
  .cases h
def Nl (h:aX) (i j:Nat):(kill h i).get j=if j=i then (h.get i).map u_ else h.get j:=by
 unfold kill;cases z:h.get i with
 |none=>grind
 |some b=>rw[PT.get_set];rfl
def xB (g:Nat->Nat):∀(l:Y (M e9)) (i:Nat) (h:aX) (j:Nat),(∀k,k<l! l->j≠g (i+k))->(DK g i l h).get j=h.get j
 |[],i,h,j,_=>rfl
 |some c::r,i,h,j,z=>by
  rw[DK,xB g r (i+1) _ j (λk A=>by have:=z (k+1) (by grind);rwa [show i+1+k=i+(k+1) from by omega]),PT.get_set,av];exact z 0 (by simp)
 |none::r,i,h,j,z=>by
  rw[DK,xB g r (i+1) _ j (λk A=>by have:=z (k+1) (by grind);rwa [show i+1+k=i+(k+1) from by omega]),Nl,av];exact z 0 (by simp)
def xC (g:Nat->Nat):∀(l:Y (M e9)) (i:Nat) (h:aX),(∀a b,a<l! l->b<l! l->g (i+a)=g (i+b)->a=b)->∀(k:Nat) (c:M e9),l[k]? =Z c->(DK g i l h).get (g (i+k))=(match c with|some b=>Z b|none=>(h.get (g (i+k))).map u_)
 |[],i,h,_,k,c,A=>by simp at A
 |o::r,i,h,hinj,k,c,A=>by
  have hinj':∀a b,a<l! r->b<l! r->g (i+1+a)=g (i+1+b)->a=b:=λa b L D e=>by
   have:=hinj (a+1) (b+1) (by grind) (by grind) (by grind);omega
  cases k with
  |zero=>
   simp at A;subst A;have hne:∀k,k<l! r->g (i+0)≠g (i+1+k):=λk A e=>by
    have:=hinj 0 (k+1) (by simp) (by grind) (by grind);omega
   cases o with
   |some b=>rw[DK,xB g r (i+1) _ _ hne];simp[dF];rw[PT.get_set,aD rfl]
   |none=>rw[DK,xB g r (i+1) _ _ hne];simp[dF];rw[Nl,aD rfl]
  |succ k=>
   have z:r[k]? =Z c:=by grind
   have hne:g (i+(k+1))≠g i:=λe=>by
    have:=hinj (k+1) 0 (by grind) (by simp) (by omega);omega
   rw[show i+(k+1)=i+1+k from by omega]at hne ⊢;cases o with
   |some b=>
    rw[DK,xC g r (i+1) _ hinj' k c z];cases c with
    |some _=>rfl
    |none=>simp[PT.get_set,av hne]
   |none=>
    rw[DK,xC g r (i+1) _ hinj' k c z];cases c with
    |some _=>rfl
    |none=>simp[Nl,av hne]
def Bk (h' h:aX):Prop:=∀i r,eM h' i=Z r->eM h i=Z r
section get
variable {h h':aX} {H H':HF} {g:Nat->Nat}
def kz.agg {l':Y AV} (z:gZ H H' r l') (hc:∀x∈l',x.isCell=J):kz H H' (.agg r) (.agg l'):=by
 intro φ E w v hrep hr;cases hr with
 |@agg _ vs hlen hcl hrr=>
  refine .agg (by rw[hlen,<-z.length]) hc λj y u A L=>?_
  let⟨x,D,hle⟩:=z.get j y A;exact hle φ E w u hrep (hrr j x u D L)
def Va (L:Bk h' h) {A:AV} (D:bW h (.I i)=Z y) (z:bW h' (.I i)=Z A):A=y:=by
 simp[bW]at D z;cases h1:eM h' i with
 |none=>rw[h1]at z;cases z
 |some r=>
  rw[L i r h1]at D
  grind
def Ml {g:Nat->Nat}:∀{z:Y q!} {vs:Y TV},Mm g z vs=J->vs=z.map λp=>.P (g p.1) p.2
 |[],[],_=>rfl
 |[],_::_,h|_::_,[],h=>by simp[Mm]at h
 |(i,o)::r,v::vs,h=>by
  cases v with
  |P D A=>
   simp only[Mm,al]at h;rw[b9,<-Ml h.2,au h.1.1,au h.1.2]
  |_=>simp[Mm]at h
def LG (h:aX) (g:Nat->Nat):∀z:Y q!,cJ h (z.map λp=>.P (g p.1) p.2)=Z (z.map λp=>.P (nm (g p.1)) p.2)
 |[]=>rfl
 |p::r=>by simp[b9,cJ,bW,LG h g r]
mutual
def aoc (d:rA H H') (hr:Bk h' h):∀(p:PV) (l:Y TV) (x:p.ty.den) (m:Nat) (r:Y TV) (cs:Y TV) (l' cs':Y AV),m8 g h p l=Z (x,m,r)->nS g p x=Z cs->cJ h l=Z l'->cJ h' cs=Z cs'->Fu h H H' m->∃l1 l2,l'=l1++l2/\cJ h r=Z l2/\gZ H H' l1 cs'
 |.d T,l,x,m,r,cs,l',cs',hg,hp,hl,hc,gv=>by
  obtain⟨l1,l2,e1,e2,e3⟩:=rG d 40 T l x m r l' hg hl gv;have:=(ng h' 40 T x cs hp).1;rw[hc]at this;cases this;exact⟨l1,l2,e1,e2,e3⟩
 |.P i q,l,x,m,r,cs,l',cs',hg,hp,hl,hc,gv=>by
  simp only[m8]at hg;split at hg
  .rename_i i' o' r';split at hg
   .rename_i hb;simp only[al]at hb;have e1:=au hb.1;have e2:=au hb.2;subst e1 e2;simp only[ah,aR]at hg;obtain⟨_,_,rfl⟩:=hg;simp only[nS,ah]at hp;subst hp;obtain⟨y,l2,rfl,g1,g2⟩:=c4 hl;simp only[bW,ah]at g1;subst g1;simp only[cJ,bW,ah]at hc;subst hc;exact⟨[_],l2,rfl,g2,kz.refl d _,trivial⟩
   .cases hg
  .cases hg
 |.qg i q z,l,x,m,r,cs,l',cs',hg,hp,hl,hc,gv=>by
  simp only[m8]at hg;split at hg
  .rename_i i' o' z' r';split at hg
   .rename_i hb;simp only[al]at hb;have e1:=au hb.1.1;have e2:=au hb.1.2;have e3:=au hb.2;subst e1 e2 e3;simp only[ah,aR]at hg;obtain⟨_,_,rfl⟩:=hg;simp only[nS,ah]at hp;subst hp;obtain⟨y,l2,rfl,g1,g2⟩:=c4 hl;simp only[bW,ah]at g1;subst g1;simp only[cJ,bW,ah]at hc;subst hc;exact⟨[_],l2,rfl,g2,kz.refl d _,trivial⟩
   .cases hg
  .cases hg
 |.qy q ps,l,x,m,r,cs,l',cs',hg,hp,hl,hc,gv=>by
  simp only[m8]at hg;split at hg
  .rename_i q' vs r';split at hg
   .rename_i hb;simp only[al]at hb;have e1:=au hb.1;have e2:=Ml hb.2;subst e1 e2;simp only[ah,aR]at hg;obtain⟨_,_,rfl⟩:=hg;simp only[nS,ah]at hp;subst hp;obtain⟨y,l2,rfl,g1,g2⟩:=c4 hl;simp only[bW,LG,ah]at g1;subst g1;simp only[cJ,bW,LG,ah]at hc;subst hc;exact⟨[_],l2,rfl,g2,kz.refl d _,trivial⟩
   .cases hg
  .cases hg
 |.ob i q,l,x,m,r,cs,l',cs',hg,hp,hl,hc,gv=>by
  simp only[m8]at hg;split at hg
  .rename_i i' j' o' r';split at hg
   .rename_i hb;simp only[al]at hb;have e1:=au hb.1;have e2:=au hb.2;subst e1 e2;simp only[ah,aR]at hg;obtain⟨rfl,_,rfl⟩:=hg;simp only[nS,ah]at hp;subst hp;obtain⟨y,l2,rfl,g1,g2⟩:=c4 hl;simp only[bW,ah]at g1;subst g1;simp only[cJ,bW,ah]at hc;subst hc;exact⟨[_],l2,rfl,g2,kz.refl d _,trivial⟩
   .cases hg
  .cases hg
 |.nr i q,l,x,m,r,cs,l',cs',hg,hp,hl,hc,gv=>by
  simp only[m8]at hg;split at hg
  .rename_i i' j' o' n' r';split at hg
   .rename_i hb;simp only[al]at hb;have e1:=au hb.1;have e2:=au hb.2;subst e1 e2;simp only[ah,aR]at hg;obtain⟨rfl,_,rfl⟩:=hg;simp only[nS,ah]at hp;subst hp;obtain⟨y,l2,rfl,g1,g2⟩:=c4 hl;simp only[bW,ah]at g1;subst g1;simp only[cJ,bW,ah]at hc;subst hc;exact⟨[_],l2,rfl,g2,kz.refl d _,trivial⟩
   .cases hg
  .cases hg
 |.I i,l,x,m,r,cs,l',cs',hg,hp,hl,hc,gv=>by
  simp only[m8]at hg;split at hg
  .rename_i i' r';split at hg
   .rename_i hb;have e1:=au hb;subst e1;simp only[ah,aR]at hg;obtain⟨_,_,rfl⟩:=hg;simp only[nS,ah]at hp;subst hp;obtain⟨y,l2,rfl,g1,g2⟩:=c4 hl;obtain⟨y',l3,rfl,g3,g4⟩:=c4 hc;simp only[cJ,ah]at g4;subst g4;rw[Va hr g1 g3];exact⟨[_],l2,rfl,g2,kz.refl d _,trivial⟩
   .cases hg
  .cases hg
 |.mp i,l,x,m,r,cs,l',cs',hg,hp,hl,hc,gv=>by
  simp only[m8]at hg;split at hg
  .rename_i i' r';split at hg
   .rename_i hb;have e1:=au hb;subst e1;simp only[ah,aR]at hg;obtain⟨_,_,rfl⟩:=hg;simp only[nS,ah]at hp;subst hp;obtain⟨y,l2,rfl,g1,g2⟩:=c4 hl;simp only[bW,ah]at g1;subst g1;simp only[cJ,bW,ah]at hc;subst hc;exact⟨[_],l2,rfl,g2,kz.refl d _,trivial⟩
   .cases hg
  .cases hg
 |.nil,l,x,m,r,cs,l',cs',hg,hp,hl,hc,gv=>by
  simp only[m8]at hg;split at hg
  .simp only[ah,aR]at hg;obtain⟨_,_,rfl⟩:=hg;simp only[nS,ah]at hp;subst hp;obtain⟨y,l2,rfl,g1,g2⟩:=c4 hl;simp only[bW,ah]at g1;subst g1;simp only[cJ,bW,ah]at hc;subst hc;exact⟨[_],l2,rfl,g2,kz.refl d _,trivial⟩
  .cases hg
 |.emp,l,x,m,r,cs,l',cs',hg,hp,hl,hc,gv=>by
  simp only[m8]at hg;split at hg
  .simp only[ah,aR]at hg;obtain⟨_,_,rfl⟩:=hg;simp only[nS,ah]at hp;subst hp;obtain⟨y,l2,rfl,g1,g2⟩:=c4 hl;simp only[bW,ah]at g1;subst g1;simp only[cJ,bW,ah]at hc;subst hc;exact⟨[_],l2,rfl,g2,Le.nilEmp.toH d,trivial⟩
  .simp only[ah,aR]at hg;obtain⟨_,_,rfl⟩:=hg;simp only[nS,ah]at hp;subst hp;obtain⟨y,l2,rfl,g1,g2⟩:=c4 hl;simp only[bW,ah]at g1;subst g1;simp only[cJ,bW,ah]at hc;subst hc;exact⟨[_],l2,rfl,g2,kz.refl d _,trivial⟩
  .cases hg
 |.agg ps,l,x,m,r,cs,l',cs',hg,hp,hl,hc,gv=>GU d hr ps l x m r cs l' cs' hg hp hl hc gv
def GU (d:rA H H') (hr:Bk h' h):∀(ps:Y PV) (l:Y TV) (x:(PV.tyL ps).den) (m:Nat) (r:Y TV) (cs:Y TV) (l' cs':Y AV),Cw g h ps l=Z (x,m,r)->sO g ps x=Z cs->cJ h l=Z l'->cJ h' cs=Z cs'->Fu h H H' m->∃l1 l2,l'=l1++l2/\cJ h r=Z l2/\gZ H H' l1 cs'
 |[],l,x,m,r,cs,l',cs',hg,hp,hl,hc,gv=>by
  simp only[Cw,ah,aR]at hg;obtain⟨_,_,rfl⟩:=hg;simp only[sO,ah]at hp;subst hp;simp only[cJ,ah]at hc;subst hc;exact⟨[],l',rfl,hl,trivial⟩
 |p::ps,l,x,m,r,cs,l',cs',hg,hp,hl,hc,gv=>by
  simp only[Cw]at hg;split at hg
  .rename_i x1 m1 r1 h1;split at hg
   .rename_i x2 m2 r2 h2;cases hg;simp only[sO,vA,xp]at hp;split at hp
    .rename_i a ha;split at hp
     .rename_i b hb;cases hp;obtain⟨a',b',rfl,ea,eb⟩:=Fm hc;obtain⟨ga,gb⟩:=gv.or;obtain⟨l1,l2,rfl,q1,q2⟩:=aoc d hr p l _ _ _ a l' a' h1 ha hl ea ga;obtain⟨l3,l4,rfl,q3,q4⟩:=GU d hr ps _ _ _ _ b l2 b' h2 hb q1 eb gb;exact⟨l1++l3,l4,by simp,q3,q2.append q4⟩
     .cases hp
    .cases hp
   .cases hg
  .cases hg
end
mutual
def ae6:∀(p:PV) (x:p.ty.den) (cs:Y TV),nS g p x=Z cs->lU cs=J
 |.d T,x,cs,hp=>(ng PT.leaf 40 T x cs hp).2
 |.P i q,x,cs,hp|.qg i q z,x,cs,hp|.qy q ps,x,cs,hp|.ob i q,x,cs,hp|.nr i q,x,cs,hp|.I i,x,cs,hp|.mp i,x,cs,hp|.nil,x,cs,hp|.emp,x,cs,hp=>by simp only[nS,ah]at hp;subst hp;rfl
 |.agg ps,x,cs,hp=>As ps x cs hp
def As:∀(ps:Y PV) (x:(PV.tyL ps).den) (cs:Y TV),sO g ps x=Z cs->lU cs=J
 |[],x,cs,hp=>by simp only[sO,ah]at hp;subst hp;rfl
 |p::ps,x,cs,hp=>by
  simp only[sO]at hp;split at hp
  .rename_i a ha;split at hp
   .rename_i b hb;cases hp;exact XY (ae6 p _ a ha) (As ps _ b hb)
   .cases hp
  .cases hp
end
def aob (d:rA H H') (hr:Bk h' h) {p:PV} {v:TV} {x:p.ty.den} {y':AV} (D:wG g h p v=Z (x,i)) (hp:rE g p x=Z u) (L:bW h v=Z y) (A:bW h' u=Z y') (gv:Fu h H H' i):kz H H' y y':=by
 cases p with
 |d T=>
  simp only[rE,ah]at hp;subst hp;simp only[bW,ah]at A;subst A;exact (Uo d D L gv).1
 |agg ps=>
  simp only[wG]at D;split at D
  .cases D
  .rename_i hc;split at D
   .rename_i l hl;split at D
    .rename_i x1 m1 h1;cases D;simp only[rE]at hp;split at hp
     .rename_i cs hcs;cases hp;simp only[bW]at A;split at A
      .rename_i cs' hcs';cases A;let⟨e1,e2⟩:=Kv hl L;let⟨l1,l2,q1,q2,q3⟩:=GU d hr ps l _ _ [] cs y.cs cs' h1 hcs e1 hcs' gv;simp only[cJ,ah]at q2;subst q2;rw[pJ]at q1;subst q1;have hcell:∀x∈cs',x.isCell=J:=nh (tZ hcs' (As ps _ cs hcs));cases v with
       |agg q=>
        simp only[bW]at L;split at L
        .cases L;exact kz.agg q3 hcell
        .cases L
       |f S z=>
        simp only[bW,ah]at L;subst L;have ho:S.one=af:=by simpa[TV.isC] using hc
        rw[Du]at q3;rw[sq S z ho];intro φ E w v hrep hrel;exact kz.agg q3 hcell φ E w v hrep (Le.aggF _ _ _ _ hrel)
       |qb q|undef|qw|qc S q=>simp[TV.cs,TV.isC]at hl
       |sb q=>exact cq rfl hc
       |zh id jj=>cases hl
       |_=>simp[TV.isC]at hc
      .cases A
     .cases hp
    .cases D
   .cases D
 |P m q=>
  simp only[rE,ah]at hp;subst hp;simp only[wG]at D;split at D
  .rename_i h1;simp only[m8]at h1;split at h1
   .rename_i e;simp only[eV]at e;obtain⟨rfl,_⟩:=e;split at h1
    next hb=>simp only[al]at hb;have e1:=au hb.1;have e2:=au hb.2;subst e1 e2;simp only[bW,ah]at L A;subst L A;exact kz.refl d _
    .cases h1
   .cases h1
  .cases D
 |qg m q z=>
  simp only[rE,ah]at hp;subst hp;simp only[wG]at D;split at D
  .rename_i h1;simp only[m8]at h1;split at h1
   .rename_i e;simp only[eV]at e;obtain⟨rfl,_⟩:=e;split at h1
    next hb=>simp only[al]at hb;have e1:=au hb.1.1;have e2:=au hb.1.2;have e3:=au hb.2;subst e1 e2 e3;simp only[bW,ah]at L A;subst L A;exact kz.refl d _
    .cases h1
   .cases h1
  .cases D
 |qy q ps=>
  simp only[rE,ah]at hp;subst hp;simp only[wG]at D;split at D
  .rename_i h1;simp only[m8]at h1;split at h1
   .rename_i e;simp only[eV]at e;obtain⟨rfl,_⟩:=e;split at h1
    next hb=>simp only[al]at hb;have e1:=au hb.1;have e2:=Ml hb.2;subst e1 e2;simp only[bW,LG,ah]at L A;subst L A;exact kz.refl d _
    .cases h1
   .cases h1
  .cases D
 |I m=>
  simp only[rE,ah]at hp;subst hp;simp only[wG]at D;split at D
  .rename_i h1;simp only[m8]at h1;split at h1
   .rename_i e;simp only[eV]at e;obtain⟨rfl,_⟩:=e;split at h1
    next hb=>have e1:=au hb;subst e1;rw[Va hr L A];exact kz.refl d _
    .cases h1
   .cases h1
  .cases D
 |mp m=>
  simp only[rE,ah]at hp;subst hp;simp only[wG]at D;split at D
  .rename_i h1;simp only[m8]at h1;split at h1
   .rename_i e;simp only[eV]at e;obtain⟨rfl,_⟩:=e;split at h1
    next hb=>have e1:=au hb;subst e1;simp only[bW,ah]at L A;subst L A;exact kz.refl d _
    .cases h1
   .cases h1
  .cases D
 |nil=>
  simp only[rE,ah]at hp;subst hp;simp only[wG]at D;split at D
  .rename_i h1;simp only[m8]at h1;split at h1
   next e=>simp only[eV]at e;obtain⟨rfl,_⟩:=e;simp only[bW,ah]at L A;subst L A;exact kz.refl d _
   .cases h1
  .cases D
 |emp=>
  simp only[rE,ah]at hp;subst hp;simp only[wG]at D;split at D
  .rename_i h1;simp only[m8]at h1;split at h1
   next e=>simp only[eV]at e;obtain⟨rfl,_⟩:=e;simp only[bW,ah]at L A;subst L A;exact Le.nilEmp.toH d
   next e=>simp only[eV]at e;obtain⟨rfl,_⟩:=e;simp only[bW,ah]at L A;subst L A;exact kz.refl d _
   .cases h1
  .cases D
 |_=>
  simp only[rE,ah]at hp;subst hp;simp only[wG]at D;split at D
  .rename_i h1;simp only[m8]at h1;split at h1
   .rename_i e;simp only[eV]at e;obtain⟨rfl,_⟩:=e;split at h1
    next hb=>simp only[al]at hb;have e1:=au hb.1;have e2:=au hb.2;subst e1 e2;simp only[ah,aR]at h1 D;obtain⟨rfl,_⟩:=D;obtain⟨rfl,_⟩:=h1;simp only[bW,ah]at L A;subst L A;exact kz.refl d _
    .cases h1
   .cases h1
  .cases D
def GR (d:rA H H') (hr:Bk h' h):∀(L:Y PV) (vs:Y TV) (x:(PV.tyL L).den) (m:Nat) (D:Y TV) (l l':Y AV),Cv g h L vs=Z (x,m)->rD g L x=Z D->cJ h vs=Z l->cJ h' D=Z l'->Fu h H H' m->gZ H H' l l'
 |[],[],x,m,D,l,l',z,hp,hl,A,gv=>by
  simp[rD,ah]at hp;subst hp;simp[cJ,ah]at hl A;subst hl A;trivial
 |[],_::_,x,m,D,l,l',z,_,_,_,_|_::_,[],x,m,D,l,l',z,_,_,_,_=>by simp[Cv]at z
 |p::L,v::vs,x,m,D,l,l',z,hp,hl,A,gv=>by
  simp[Cv]at z;split at z
  .rename_i x1 m1 h1;split at z
   .rename_i x2 m2 h2;obtain⟨rfl,rfl⟩:=z;simp[rD,vA,xp]at hp;split at hp
    .rename_i a ha;split at hp
     next b hb=>simp[ah]at hp;subst hp;obtain⟨y,l2,rfl,e1,e2⟩:=c4 hl;obtain⟨y',l3,rfl,e3,e4⟩:=c4 A;let⟨ga,gb⟩:=gv.or;exact⟨aob d hr h1 ha e1 e3 ga,GR d hr L vs _ _ b l2 l3 h2 hb e2 e4 gb⟩
     .cases hp
    .cases hp
   .cases z
  .cases z
inductive BM (g:Nat->Nat) (h:aX) (m:Nat):e9->e9->Prop
 |H (ty:TypeId) (p:Bool) (T:Ty) (xs:List T.den):BM g h m (.H ty p T xs) (.H ty p T xs)
 |mp (K V:Ty) (es:List (K.den×V.den)):BM g h m (.mp K V es) (.mp K V es)
 |Q (F:uE) (a:Nat) (x:F.ty.den):BM g h m (.Q F a x) (.Q F a x)
 |G (ty:Option TypeId) (ps:List PV) (x:(PV.tyL ps).den) (l l2:List TV) (m':Nat) (hg:Cw g h ps l=Z (x,m',[])) (hp:sO g ps x=Z l2) (hm:∀i,aK m' i=J->aK m i=J):BM g h m (.G ty l) (.G ty l2)
def BM.mono (hm:∀m,aK i m=J->aK j m=J) {b c:e9} (h1:BM g h i b c):BM g h j b c:=by
 cases h1 with
 |H ty p T xs=>exact .H ty p T xs
 |mp K V es=>exact .mp K V es
 |Q F a x=>exact .Q F a x
 |G ty A x l D m' L hp z=>exact .G ty A x l D m' L hp λm hi=>hm m (z m hi)
def aod {b:PB} {x:b.ty.den} {c:e9} (A:Fk g h i b=Z (x,j)) (hp:DB g b x=Z (Z c)):∃b0,h.get (g i)=Z b0/\BM g h j b0 c:=by
 cases b with
 |H ty p T=>
  simp only[Fk]at A;split at A
  .rename_i ty' p' S xs D;split at A
   .rename_i L;simp[al,cY]at L;obtain⟨rfl,rfl⟩:=L;split at A
    next z hz=>obtain⟨rfl,rfl⟩:=A;obtain⟨e,rfl⟩:=iO hz;cases e;simp[DB,ah]at hp;subst hp;exact⟨_,D,.H _ _ _ _⟩
    .cases A
   .cases A
  .cases A
 |qp ty T=>
  simp[Fk]at A;split at A
  .rename_i ty' p' S xs D;split at A
   .rename_i L;have L:ty=ty':=by grind
    subst L;split at A
    next z hz=>obtain⟨rfl,rfl⟩:=A;obtain⟨e,rfl⟩:=iO hz;cases e;simp[DB,ah]at hp;subst hp;exact⟨_,D,.H _ _ _ _⟩
    .cases A
   .cases A
  .cases A
 |G ty ps=>
  simp[Fk]at A;split at A
  .rename_i ty' l D;split at A
   .rename_i L;have L:ty=ty':=by grind
    subst L;split at A
    .rename_i z m1 hz;obtain⟨rfl,rfl⟩:=A;simp[DB]at hp;split at hp
     next l2 hl2=>simp[ah]at hp;subst hp;exact⟨_,D,.G ty ps _ l l2 _ hz hl2 λ_ h=>h⟩
     .cases hp
    .cases A
   .cases A
  .cases A
 |mp K V=>
  simp[Fk]at A;split at A
  .rename_i K' V' es D;split at A
   next z hz=>obtain⟨rfl,rfl⟩:=A;obtain⟨e,rfl⟩:=iO hz;cases e;simp[DB,ah]at hp;subst hp;exact⟨_,D,.mp _ _ _⟩
   .cases A
  .cases A
 |Q F a=>
  simp only[Fk]at A;split at A
  .rename_i F' a' z D;split at A
   .rename_i hF;subst hF;split at A
    next ha=>obtain⟨rfl,rfl⟩:=A;simp[DB,ah]at hp;subst hp;rw[au ha];exact⟨_,D,.Q _ _ _⟩
    .cases A
   .cases A
  .cases A
 |qf=>simp[DB]at hp
def Nn:∀(bs:Y PB) (i:Nat) (x:(PB.tyL bs).den) (m:Nat) (A:Y (M e9)),GV g h i bs=Z (x,m)->qT g bs x=Z A->∀(k:Nat) c,A[k]? =Z (Z c)->∃b0,h.get (g (i+k))=Z b0/\BM g h m b0 c
 |[],i,x,m,A,z,hp,k,c,D=>by
  simp[qT,ah]at hp;subst hp;simp at D
 |b::r,i,x,m,A,z,hp,k,c,D=>by
  simp[GV]at z;split at z
  .rename_i x1 m1 h1;split at z
   .rename_i x2 m2 h2;obtain⟨rfl,rfl⟩:=z;simp[qT,vA,xp]at hp;split at hp
    .rename_i a ha;split at hp
     .rename_i q hq;simp[ah]at hp;subst hp;cases k with
      |zero=>
       simp at D;subst D;let⟨b0,L,e2⟩:=aod h1 ha;exact⟨b0,L,e2.mono λi hi=>by rw[bu,hi];rfl⟩
      |succ k=>
       let⟨b0,L,e2⟩:=Nn r (i+1) _ _ q h2 hq k c (by grind);rw[show i+1+k=i+(k+1) from by omega]at L;exact⟨b0,L,e2.mono λi hi=>by rw[bu,hi];simp⟩
     .cases hp
    .cases hp
   .cases z
  .cases z
end get
def Wl {σ:PT Nat} (h:σ.get i=Z j):iw σ i=j:=by unfold iw;rw[h]
def ab4 {σ:PT Nat}:∀(n i acc sm:Nat),ahj σ n i acc=Z sm->
 (∀k,k<n->aK acc (iw σ (i+k))=af)/\(∀a b,a<n->b<n->iw σ (i+a)=iw σ (i+b)->a=b)/\∀q,aK sm q=J↔aK acc q=J\/∃k,k<n/\iw σ (i+k)=q
 |0,i,acc,sm,h=>by
  simp[ahj,ah]at h
  grind
 |n+1,i,acc,sm,h=>by
  simp[ahj]at h;split at h
  .rename_i a L;split at h
   .cases h
   .rename_i hna;have hna:aK acc a=af:=by grind
    have hga:=Wl L;let⟨h1,h2,h3⟩:=ab4 n (i+1) (acc|||gG a) sm h;have hne:∀k,k<n->iw σ (i+1+k)≠a/\aK acc (iw σ (i+1+k))=af:=λk A=>by
     have:=h1 k A;rw[bu,Bool.or_eq_false_iff]at this;refine ⟨λe=>?_,this.1⟩;have D:=this.2;rw[e]at D;rw[bn.2 rfl]at D;cases D
    refine ⟨λk A=>?_,λx y hx hy hxy=>?_,λq=>?_⟩
    .cases k with
     |zero=>rw[dF,hga];exact hna
     |succ k=>rw[show i+(k+1)=i+1+k from by omega];exact (hne k (by omega)).2
    .cases x with
     |zero=>
      cases y with
      |zero=>rfl
      |succ y=>grind
     |succ x=>
      cases y with
      |_=>grind
    .rw[h3,bu,nz];constructor
     .rintro ((z|z)|⟨k,A,z⟩)
      .exact .inl z
      .exact .inr ⟨0,by omega,by rw[dF,hga];exact bn.1 z⟩
      .exact .inr ⟨k+1,by omega,by rw[show i+(k+1)=i+1+k from by omega];exact z⟩
     .rintro (z|⟨k,A,z⟩)
      .exact .inl (.inl z)
      .cases k with
       |zero=>rw[dF,hga]at z;exact .inl (.inr (bn.2 z))
       |succ k=>exact .inr ⟨k,by omega,by rw[show i+1+k=i+(k+1) from by omega];exact z⟩
  .cases h
def Ws {σ:PT Nat}:∀(n:Nat),acj σ n=J->∀i,i<n->iw σ i=i
 |0,_,i,hi=>by omega
 |n+1,h,i,hi=>by
  simp[acj,al]at h;by_cases e:i=n
  .subst e;cases z:σ.get i with
   |none=>rw[z]at h;exact cq h.1 (by simp)
   |some a=>rw[z]at h;rw[Wl z];exact au h.1
  .exact Ws n h.2 i (by omega)
structure L2 (np:Nat) (t:Tm) (vs:List TV) (h:aX) (z:t.ty.den) (m:Nat) (σ:PT Nat) (sm:Nat):Prop where
 ex:∃x m1 y m2,z=mkp _ _ x y/\m=m1|||m2/\Cv (iw σ) h t.vs vs=Z (x,m1)/\GV (iw σ) h 0 t.bs=Z (y,m2)
 inj:∀a b,a<l! t.bs->b<l! t.bs->iw σ a=iw σ b->a=b
 sig:∀q,aK sm q=J↔∃k,k<l! t.bs/\iw σ k=q
 disj:∀i,aK m i=J->aK sm i=af
 fix:∀i,i<np->iw σ i=i
def yX {t:Tm} {z:t.ty.den} {vs:Nat} {σ:PT Nat} (hm:E_ i t m h=Z ⟨z,vs,σ,j⟩):L2 i t m h z vs σ j:=by
 unfold E_ at hm;rw[Tw]at hm;split at hm
 .rename_i sm' hs;split at hm
  .rename_i x m1 h1;split at hm
   .rename_i y m2 h2;split at hm
    next A=>simp[al]at A;obtain⟨rfl,rfl,rfl,rfl⟩:=hm;let⟨g1,L,D⟩:=ab4 _ _ _ _ hs;simp only[bX]at g1 L D;exact⟨⟨x,m1,y,m2,rfl,rfl,h1,h2⟩,L,λq=>by rw[D];simp,λnp hi=>Bd A.1 np hi,Ws i A.2⟩
    .cases hm
   .cases hm
  .cases hm
 .cases hm
mutual
def yh {g:Nat->Nat} {h:aX}:∀(p:PV) (l:Y TV) (x:p.ty.den) (m:Nat) (r:Y TV),m8 g h p l=Z (x,m,r)->dI h m
 |.d T,l,x,m,r,hg=>xt 40 T l x m r hg
 |.P i q,l,x,m,r,hg|.qg i q z,l,x,m,r,hg|.ob i q,l,x,m,r,hg|.nr i q,l,x,m,r,hg|.qy q ps,l,x,m,r,hg|.I i,l,x,m,r,hg|.mp i,l,x,m,r,hg=>by
  simp only[m8]at hg;split at hg
  .split at hg
   .simp only[ah,aR]at hg;obtain⟨_,rfl,_⟩:=hg;exact dI.zero h
   .cases hg
  .cases hg
 |.nil,l,x,m,r,hg=>by
  simp only[m8]at hg;split at hg
  .simp only[ah,aR]at hg;obtain⟨_,rfl,_⟩:=hg;exact dI.zero h
  .cases hg
 |.emp,l,x,m,r,hg=>by
  simp only[m8]at hg;split at hg
  .simp only[ah,aR]at hg;obtain⟨_,rfl,_⟩:=hg;exact dI.zero h
  .simp only[ah,aR]at hg;obtain⟨_,rfl,_⟩:=hg;exact dI.zero h
  .cases hg
 |.agg ps,l,x,m,r,hg=>LQ ps l x m r hg
def LQ {g:Nat->Nat} {h:aX}:∀(ps:Y PV) (l:Y TV) (x:(PV.tyL ps).den) (m:Nat) (r:Y TV),Cw g h ps l=Z (x,m,r)->dI h m
 |[],l,x,m,r,hg=>by
  simp only[Cw,ah,aR]at hg;obtain⟨_,rfl,_⟩:=hg;exact dI.zero h
 |p::ps,l,x,m,r,hg=>by
  simp only[Cw]at hg;split at hg
  .rename_i x1 m1 r1 h1;split at hg
   .rename_i x2 m2 r2 h2;simp only[ah,aR]at hg;obtain⟨_,rfl,_⟩:=hg;exact (yh p l x1 m1 r1 h1).or (LQ ps r1 _ _ _ h2)
   .cases hg
  .cases hg
end
def atb {p:PV} {x:p.ty.den} (A:wG g h p u=Z (x,i)):dI h i:=by
 cases p with
 |d T=>exact ad8 A
 |agg D=>
  simp only[wG]at A;split at A
  .cases A
  .split at A
   .split at A
    next L m1 h1=>simp only[ah,aR]at A;obtain⟨_,rfl⟩:=A;exact LQ D _ _ _ _ h1
    .cases A
   .cases A
 |_=>
  simp only[wG]at A;split at A
  next h1=>simp only[ah,aR]at A;obtain⟨_,rfl⟩:=A;exact yh _ _ _ _ _ h1
  .cases A
def Ts :∀(A:Y PV) (vs:Y TV) (x:(PV.tyL A).den) (m:Nat),Cv g h A vs=Z (x,m)->dI h m
 |[],[],x,m,z=>by obtain⟨_,rfl⟩:=z;exact dI.zero h
 |[],_::_,x,m,z|_::_,[],x,m,z=>by simp[Cv]at z
 |p::A,v::vs,x,m,z=>by
  simp[Cv]at z;split at z
  .rename_i x1 m1 h1;split at z
   next D m2 L=>obtain⟨_,rfl⟩:=z;exact (atb h1).or (Ts A vs D m2 L)
   .cases z
  .cases z
def atc {b:PB} {x:b.ty.den} (z:Fk g h i b=Z (x,j)):dI h j:=by
 cases b with
 |G ty A=>
  simp[Fk]at z;split at z
  .split at z
   .split at z
    next h1=>obtain⟨_,rfl⟩:=z;exact LQ A _ _ _ _ h1
    .cases z
   .cases z
  .cases z
 |mp K V=>
  simp[Fk]at z;split at z
  .split at z
   .obtain⟨_,rfl⟩:=z;exact dI.zero h
   .cases z
  .cases z
 |qf=>simp[Fk,ah,aR]at z;obtain⟨_,rfl⟩:=z;exact dI.zero h
 |_=>
  simp[Fk]at z;split at z
  .split at z
   .split at z
    .obtain⟨_,rfl⟩:=z;exact dI.zero h
    .cases z
   .cases z
  .cases z
def Tt :∀(bs:Y PB) (i:Nat) (x:(PB.tyL bs).den) (m:Nat),GV g h i bs=Z (x,m)->dI h m
 |[],i,x,m,z=>by obtain⟨_,rfl⟩:=z;exact dI.zero h
 |b::r,i,x,m,z=>by
  simp[GV]at z;split at z
  .rename_i L m1 h1;split at z
   next A m2 D=>obtain⟨_,rfl⟩:=z;exact (atc h1).or (Tt r (i+1) A m2 D)
   .cases z
  .cases z
structure pD (t:Tm) (x:t.ty.den) (vs:List TV) (h1:aX) (l1:List (Option e9)):Prop where
 pv:rD MX t.vs (UF _ _ x)=Z vs
 pb:qT MX t.bs (Sm _ _ x)=Z l1
 len:l! l1=l! t.bs
 at_:∀i b,h1.get i=Z b↔l1[i]? =Z (Z b)
 ok:lY h1 vs=J
 lt:ry (l! t.bs) vs=J
 G:∀i ty l,h1.get i=Z (.G ty l)->lY h1 l=J/\ry (l! t.bs) l=J
 Q:∀i F a x,h1.get i=Z (.Q F a x)->a<l! t.bs
 nox:∀i F a x k p,h1.get i≠Z (.qd F a x k p)
def aiw (l:Y (M e9)) (i:Nat) (b:e9):(DK MX 0 l PT.leaf).get i=Z b↔l[i]? =Z (Z b):=by
 by_cases hi:i<l! l
 .obtain⟨c,z⟩:∃c,l[i]? =Z c:=⟨l[i],aG hi⟩
  have:=xC MX l 0 PT.leaf (λa b _ _ e=>by simp[MX]at e;omega) i c z;rw[show MX (0+i)=i from by simp only[MX];omega]at this;rw[this,z];cases c with
  |some b'=>simp
  |none=>simp[PT.get]
 .rw[xB MX l 0 PT.leaf i (λk A=>by simp[MX];omega),c7 (by omega)];simp[PT.get]
def zu {t:Tm} {x:t.ty.den} {vs:Y TV} {h1:aX} (hi:D' t x=Z (vs,h1)):∃D,pD t x vs h1 D:=by
 unfold D' at hi;split at hi
 .rename_i L hus;split at hi
  .rename_i h hh;split at hi
   .rename_i z;simp[al]at z;simp[ah,aR]at hi;obtain⟨rfl,rfl⟩:=hi;unfold Q5 at hh;split at hh
    .rename_i D A;simp[ah]at hh;refine ⟨D,hus,A,F4 _ _ _ _ A,λi b=>?_,z.1.1,z.1.2,λi ty l hil=>?_,λi F a x hil=>?_,λi F a x k p hil=>?_⟩
     .rw[<- hh];exact aiw D i b
     .have:=PT.get_all _ h 1 0 i _ z.2 hil
      grind
     .have:=PT.get_all _ h 1 0 i _ z.2 hil;simp_all
     .have:=PT.get_all _ h 1 0 i _ z.2 hil;cases this
    .cases hh
   .cases hi
  .cases hi
 .cases hi
def Q7 (z:Nat) (n:Nat):Bool:=ey (ow n) z
def F5 :Q7 i j=J↔ow j<i:=⟨λh=>aT h,λh=>a_ h⟩
def Dg {k:Nat}:Q7 j (jQ i k)=J↔i<j:=by rw[F5,iR]
def Ib :Q7 j (nm i)=J↔i<j:=by
 rw[F5,dh]
def Vc (h:j<i) (id sz n:Nat):(uL j id sz n).all (Q7 i)=J:=by
 unfold uL;split
 .rfl
 .exact Dg.2 h
def aok {s:Sb} (h:s.id<i):(K9 s).all (Q7 i)=J:=by
 cases s with
 |nr id j sz n=>exact Vc h _ _ _
 |nl=>rfl
 |_=>exact Dg.2 h
mutual
def at5 {nb:Nat} {h:aX}:∀(v:TV) (y:AV),JD nb v=J->bW h v=Z y->y.all (Q7 nb)=J
 |.f _ _,y,_,he|.zf _ _ _ _ _,y,_,he=>by simp[bW,ah]at he;subst he;rfl
 |.zj id _ _ _,y,hl,he|.P id _,y,hl,he|.qg id _ _,y,hl,he=>by simp[bW,ah]at he;subst he;exact Ib.2 (aT hl)
 |.I id,y,hl,he=>by
  simp[bW]at he;split at he
  .simp[ah]at he;subst he;unfold dw;split
   .rfl
   .exact Ib.2 (aT hl)
  .cases he
 |.zh id jj,y,hl,he=>by
  simp[bW]at he;split at he
  .simp[ah]at he;subst he;exact Ib.2 (aT hl)
  .cases he
 |.emp,y,_,he|.nil,y,_,he=>by simp[bW,ah]at he;subst he;rfl
 |.mp id,y,hl,he=>by simp[bW,ah]at he;subst he;exact Ib.2 (aT hl)
 |.agg l,y,hl,he|.qb l,y,hl,he|.qy q l,y,hl,he=>by
  simp[bW]at he;split at he
  .rename_i l' hl';simp[ah]at he;subst he;exact vx l l' hl hl'
  .cases he
 |.undef,y,_,he|.np,y,_,he|.qw,y,_,he|.qc _ _,y,_,he=>by simp[bW,ah]at he;subst he;rfl
 |.sb s,y,hl,he=>by simp[bW,ah]at he;subst he;exact aok (aT hl)
def vx {nb:Nat} {h:aX}:∀(l:Y TV) (l':Y AV),ry nb l=J->cJ h l=Z l'->AV.allL (Q7 nb) l'=J
 |[],l',_,he=>by simp[cJ,ah]at he;subst he;rfl
 |x::r,l',hl,he=>by
  obtain⟨y,l2,rfl,e1,e2⟩:=c4 he;simp[ry,al]at hl;simp[AV.allL,al];exact⟨at5 x y hl.1 e1,vx r l2 hl.2 e2⟩
end
def Dy :∀{l:Y AV},(∀x∈l,x.all p=J)->AV.allL p l=J
 |[],_=>rfl
 |x::r,h=>by
  simp[AV.allL,al];exact⟨h x (cV ..),Dy λy z=>h y (bP _ z)⟩
def Q2 (h:j<i) (sz:Nat):∀(D:η) (k:Nat),∀x∈lX j sz k D,x.all (Q7 i)=J
 |[],_,x,z=>by cases z
 |l::r,k,x,z=>by
  rcases aV.1 z with rfl|z
  .exact Vc h _ _ _
  .exact Q2 h sz r (k+1) x z
def ak0 (h:j<i) {F:uE} {x:F.ty.den} (A:uw j F x=Z N):N.c.all (Q7 i)=J:=by
 cases F with
 |qn ty=>
  simp only[uw]at A;split at A
  .cases A
  .simp[ah]at A;subst A;refine Dy λz D=>?_
   obtain⟨a,_,rfl⟩:=cr.1 D;exact Dg.2 h
 |qr=>
  simp[uw,ah]at A;subst A;refine Dy λz D=>?_
  obtain⟨q,hq,rfl⟩:=cr.1 D;obtain⟨e,_,rfl⟩:=cr.1 hq;exact Dg.2 h
 |rr ty sz=>
  simp[uw,ah]at A;subst A;exact Dy (Q2 h sz x 0)
 |_=>cases A
def ajy (h:i<j) (k:Nat) (ty:TypeId) (S:Ty) (o:C6 S):(wJ i k ty S o).c.all (Q7 j)=J:=by
 unfold wJ;split
 .refine Dy λz A=>?_
  rcases bL.1 A with A|A
  .obtain⟨q,_,rfl⟩:=cr.1 A;rfl
  .rcases aV.1 A with rfl|A
   .exact Dg.2 h
   .rw[aE.1 A];exact Dg.2 h
 .refine Dy λz A=>?_
  obtain⟨q,L,rfl⟩:=cr.1 A;obtain⟨e,_,rfl⟩:=cr.1 L;rfl
def ajz (h:i<j) {k:Nat} {F:uE} {x:F.ty.den} (A:K7 i k F x=Z N):N.c.all (Q7 j)=J:=by
 cases F with
 |ar ty S=>
  obtain⟨o,_,rfl⟩:=gA.1 A;exact ajy h k ty S o
 |ir ty T=>
  let⟨o,_,z⟩:=Option.bind_eq_some_iff.1 A;unfold Zx at z;split at z
  .cases z
  .cases z;rfl
 |_=>cases A
def pD.blk_all {t:Tm} {x:t.ty.den} {l1:Y (M e9)} (I:pD t x m h l1) {b:e9} (D:h.get i=Z b) (A:kJ h b=Z N):N.c.all (Q7 (l! t.bs))=J:=by
 cases b with
 |H ty p T xs=>
  simp only[kJ]at A;split at A
  .cases A
  .simp[ah]at A;subst A;rfl
 |G ty l=>
  cases ty with
  |some ty=>
   simp[kJ]at A;split at A
   next l' L=>simp[ah]at A;subst A;exact vx l l' (I.G i _ l D).2 L
   .cases A
  |none=>
   simp[kJ]at A;split at A
   next l' L=>simp[ah]at A;subst A;rfl
   .cases A
 |qj p sz n=>cases A
 |mp K V es=>
  simp[kJ,ah]at A;subst A;unfold mpC;split
  .rfl
  .simp[BC.all,kX];have key:∀l:Y (K.den×V.den),AV.allL (Q7 (l! t.bs)) (l.map ((λx=>x.2)∘λp=>(ri K p.1,AV.f (gu V p.2))))=J:=λl=>by
    induction l with
    |nil=>rfl
    |cons e r ih=>simp[b9,AV.allL,al];exact⟨rfl,ih⟩
   exact key es
 |Q F a z=>exact ak0 (I.Q i F a z D) A
 |qd F a z k p=>exact cq D (I.nox i F a z k p)
def pD.lt_len {t:Tm} {x:t.ty.den} {z:Y (M e9)} (I:pD t x m h z) {b:e9} (A:h.get i=Z b):i<l! t.bs:=by
 rw[<- I.len];exact (bz.1 ((I.at_ i b).1 A)).1
def φ1 (z:Nat) (g:Nat->Nat) (φ:PM):PM:=λn=>if Q7 z n then φ (pH g n) else U
def agz (hi:ow j<i):φ1 i g V j=V (pH g j):=by
 unfold φ1;rw[aD (F5.2 hi)]
def An {k:Nat} (h:φ1 i g V j=Z k):ow j<i/\V (pH g j)=Z k:=by
 unfold φ1 at h;split at h
 next hp=>exact⟨F5.1 hp,h⟩
 .cases h
def aoe (inj:∀a b,a<i->b<i->g a=g b->a=b) {A:Nat} (h:ow j<i) (h':ow A<i) (e:pH g j=pH g A):j=A:=by
 let⟨D,e2⟩:=vp e;rw[<- kZ j,<-kZ A,inj _ _ h h' D,e2]
def pD.erHF {t:Tm} {x:t.ty.den} {l1:Y (M e9)} (I:pD t x m h l1) (hn:AI.erHF h i=Z N):ow i<l! t.bs/\N.c.all (Q7 (l! t.bs))=J:=by
 let⟨c,D,A⟩:=iW hn;have hi:=I.lt_len D;refine ⟨hi,?_⟩;cases L:ix i with
 |zero=>rw[L]at A;exact I.blk_all D A
 |succ k=>
  rw[L]at A;cases c with
  |Q F a z=>exact ajz hi A
  |qd F a z k p=>exact cq D (I.nox _ F a z k p)
  |_=>cases A
structure apo (t:Tm) (x:t.ty.den) (vs:List TV) (h1:aX) (g:Nat->Nat) (φ:PM) (E E':Nat->Prop) (Hv:HF) (w:World):Prop where
 zq:sC (φ1 (l! t.bs) g φ) E' (erHF h1) w
 val:∀x v,x.all (Q7 (l! t.bs))=J->cf φ (tot E φ Hv) w (x.qx (pH g)) v->cf (φ1 (l! t.bs) g φ) (tot E' (φ1 (l! t.bs) g φ) (erHF h1)) w x v
 ql:∀k,own (φ1 (l! t.bs) g φ) (erHF h1) k->own φ Hv k
 tot_:∀k,tot E' (φ1 (l! t.bs) g φ) (erHF h1) k->tot E φ Hv k
def sC.toId {t:Tm} {x:t.ty.den} {l1:Y (M e9)} (I:pD t x m h l1) (inj:∀a b,a<l! t.bs->b<l! t.bs->g a=g b->a=b) {E':Nat->Prop} (r:sC V O S w)
 (hat:∀n y,AI.erHF h n=Z y->S (pH g n)=Z (y.qx (pH g)))
 (hE:∀k,E' k->tot O V S k) (hne:∀n k y,AI.erHF h n=Z y->V (pH g n)=Z k->¬E' k) (hel:∀k,E' k->k<w.heap.size):apo t x m h g V O E' S w:=by
 have own1:∀k,own (φ1 (l! t.bs) g V) (erHF h) k->own V S k:=by
  rintro k ⟨n,y,L,h3⟩;let⟨hi,D⟩:=An h3;exact⟨pH g n,_,hat n y L,D⟩
 have tot1:∀k,tot E' (φ1 (l! t.bs) g V) (erHF h) k->tot O V S k:=λk z=>z.elim (hE k) λh1=>.inr (own1 k h1)
 have val:∀x v,x.all (Q7 (l! t.bs))=J->cf V (tot O V S) w (x.qx (pH g)) v->cf (φ1 (l! t.bs) g V) (tot E' (φ1 (l! t.bs) g V) (erHF h)) w x v:=λx v hx hr=>by
  have L:cf (φ1 (l! t.bs) g V) (tot O V S) w x v:=cf.renFrom (λi k hp z=>by unfold φ1;rw[aD hp];exact z) hr x hx rfl;exact L.ext (λ_ _ h1=>h1) (HY.refl _ w) λk _ z=>tot1 k z
 refine ⟨⟨λn n' b b' k A g2 g3 g4=>?_,λn y A=>?_,hel,λg' cells hg=>(r.gl g' cells hg).ext (HY.refl _ w) λk _ z=>tot1 k z⟩,val,own1,tot1⟩
 .obtain⟨hi,D⟩:=An g3;let⟨hj,h5⟩:=An g4;exact aoe inj hi hj (r.inj _ _ _ _ k (hat n _ A) (hat n' _ g2) D h5)
 .obtain⟨hi,hall⟩:=I.erHF A;let⟨k,p1,p2,ob,p3,p4⟩:=r.at_ _ _ (hat n y A);exact⟨k,by rw[agz hi];exact p1,hne n k y A p1,ob,p3,ij.renFrom val hall p4⟩
def BM.view {hv:aX} {Hz':HF} (d:rA S Hz') (gv:Fu h S Hz' i) (hr:Bk hv h) {b0 c:e9} (hb:BM g h i b0 c) {y':kH} (e0:kJ h b0=Z N) (z:kJ hv c=Z y'):gw S Hz' N y':=by
 cases hb with
 |H ty p T xs=>
  simp only[kJ]at e0 z;rw[e0]at z;cases z;exact gw.refl d N
 |G ty ps x l L m' hg hp hm=>
  have key:∀l' cs',cJ h l=Z l'->cJ hv L=Z cs'->gZ S Hz' l' cs'/\∀x∈cs',x.isCell=J:=λl' cs' D A=>by
   let⟨l1,l3,q1,q2,q3⟩:=GU d hr ps l x m' [] L l' cs' hg hp D A λm hi=>gv m (hm m hi)
   simp[cJ,ah]at q2;subst q2;rw[pJ]at q1;subst q1;exact⟨q3,nh (tZ A (As ps x L hp))⟩
  cases ty with
  |some ty=>
   simp[kJ]at e0 z;split at e0
   .rename_i l' D;simp[ah]at e0;subst e0;split at z
    next cs' A=>simp[ah]at z;subst z;exact gw.G rfl rfl (key _ _ D A).1 (key _ _ D A).2
    .cases z
   .cases e0
  |none=>
   simp[kJ]at e0 z;split at e0
   .rename_i l' D;simp[ah]at e0;subst e0;split at z
    next cs' A=>simp[ah]at z;subst z;exact gw.none
    .cases z
   .cases e0
 |_=>
  simp[kJ]at e0 z;rw[e0]at z;cases z;exact gw.refl d N
def BM.erB_some {D:aX} {m:Nat} (hinv:g_ h j) {b0 c:e9} (h0:h.get i=Z b0) (hb:BM g h m b0 c) (A:kJ D c=Z N):∃y,kJ h b0=Z y:=by
 cases hb with
 |G ty ps x l l2 m' hg hp hm=>
  let⟨l',L⟩:=fJ h l (hinv.G i _ l h0);cases ty<;>exact⟨_,by simp[kJ,L];rfl⟩
 |_=>exact⟨N,A⟩
def BM.mem {b0 c:e9} (z:BM g h i b0 c) (m k:Nat):wX m k b0=wX m k c:=by cases z<;>rfl
def BM.I {b0 c:e9} (z:BM g h i b0 c):iM c=iM b0:=by
 cases z<;>rfl
structure ru (P:Program) (f:FuncId) (c:co):Prop where
 zg:HQ P f
 calls:∀x y,c.m x=Z y->∀vs hp l1 rs hq l2 la lr,pD c.pre x vs hp l1->pD c.post y rs hq l2->cJ hp vs=Z la->cJ hq rs=Z lr->
  ∀(φ:PM) (E:Nat->Prop) (w:World) (us:ξ),sC φ E (erHF hp) w->lV φ (tot E φ (erHF hp)) w la us->(∀n k,φ n=Z k->ow n<l! c.pre.bs)->
  Calls P f us.toArray w λen w'=>∃v φ',en= .returned v/\HY (own φ (erHF hp)) w w'/\(∀k,k<w.heap.size->own φ' (erHF hq) k->own φ (erHF hp) k)/\(∀n,ow n<l! c.pre.bs->φ' n=φ n)/\sC φ' E (erHF hq) w'/\cf φ' (tot E φ' (erHF hq)) w' (FK lr) v
def Rb :∀(bs:Y PB) (x:(PB.tyL bs).den) (l:Y (M e9)),E3 bs=J->qT g bs x=Z l->∀(i:Nat) (c:M e9),l[i]? =Z c->∃b,c=Z b
 |[],x,l,_,hp,i,c,A=>by simp[qT,ah]at hp;subst hp;simp at A
 |b::r,x,l,D,hp,i,c,A=>by
  simp[qT]at hp;split at hp
  .rename_i a z;split at hp
   .rename_i q L;simp[ah]at hp;subst hp;cases i with
    |zero=>
     simp at A;subst A;cases b with
     |qf=>simp[E3]at D
     |G ty ps=>
      simp[DB]at z
      grind
     |_=>simp[DB,ah]at z;exact⟨_,z.symm⟩
    |succ i=>
     refine Rb r _ q ?_ L i c (by grind);cases b<;>first|exact D|simp[E3]at D
   .cases hp
  .cases hp
def Jq {A:aX} :∀n,vS h A g n=J->∀i,i<n->∀r,eM h (g i)=Z r->eM A (g i)=Z r
 |0,_,i,hi,_,_=>by omega
 |n+1,z,i,hi,r,D=>by
  simp[vS,al]at z;by_cases e:i=n
  .subst e;let⟨p,s,k⟩:=r;have h1:=z.1;rw[D]at h1;cases L:eM A (g i) with
   |none=>rw[L]at h1;cases h1
   |some q=>simp_all
  .exact Jq n z.2 i (by omega) r D
def lV.le {H':HF} (r:sC V O S w):∀{l l':Y AV} {z:ξ},gZ S H' l l'->lV V (tot O V S) w l z->lV V (tot O V H') w l' z
 |[],[],[],_,_=>trivial
 |[],[],_::_,_,h|_::_,_::_,[],_,h|[],_::_,_,h,_|_::_,[],_,h,_=>h.elim
 |_::_,_::_,_::_,A,h=>⟨A.1 _ _ _ _ r h.1,lV.le r A.2 h.2⟩
def lV.toId {φ':PM} {O':Nat->Prop} (A:∀x v,x.all p=J->cf V O w (x.qx g) v->cf φ' O' w x v):∀{l:Y AV} {z:ξ},AV.allL p l=J->lV V O w (AV.renL g l) z->lV φ' O' w l z
 |[],[],_,_=>trivial
 |[],_::_,_,h|_::_,[],_,h=>h.elim
 |_::_,_::_,hp,h=>by
  simp[AV.allL,al]at hp;exact⟨A _ _ hp.1 h.1,lV.toId A hp.2 h.2⟩
def abb :∀{A:Y TV} {z:Y AV},cJ h A=Z z->bW h (Vd A)=Z (FK z)
 |[],z,he=>by simp[cJ,ah]at he;subst he;rfl
 |[x],z,he=>by
  obtain⟨y,L,rfl,D,e2⟩:=c4 he;simp[cJ,ah]at e2;subst e2;exact D
 |x::y::r,z,he=>by
  obtain⟨y1,L,rfl,D,e2⟩:=c4 he;obtain⟨y2,l3,rfl,e3,e4⟩:=c4 e2;simp[Vd,bW,he,FK]
def aha (γ:Nat->Nat):∀l:Y AV,FK (AV.renL γ l)=(FK l).qx γ
 |[]|[x]|x::y::r=>rfl
def UQ :∀{l:Y AV},AV.allL p l=J->(FK l).all p=J
 |[],_=>rfl
 |[x],h=>by simp only[AV.allL,al]at h;exact h.1
 |x::y::r,h=>h
def ann {q:Nat}:aK (((1<<<j)-1)<<<i) q=J↔i<=q/\q<i+j:=by
 rw[Nat.testBit_shiftLeft,Nat.one_shiftLeft,Nat.testBit_two_pow_sub_one]
 grind
def anl (l:ι) (B:Nat):ι:=l.flatMap λi=>(e_ (B+1)).map λk=>jQ i k
def VB {l:ι} :j∈anl l i↔ow j∈l/\ix j<=i:=by
 unfold anl;rw[xk];constructor
 .rintro⟨B,hi,z⟩;obtain⟨k,A,rfl⟩:=cr.1 z;rw[oO]at A;rw[iR,wy];exact⟨hi,by omega⟩
 .rintro⟨h1,D⟩;exact⟨ow j,h1,cr.2 ⟨ix j,oO.2 (by omega),kZ j⟩⟩
mutual
def AV.all_and {p q:Nat->Bool}:∀x:AV,x.all p=J->x.all q=J->x.all (λn=>p n&&q n)=J
 |.f _,_,_=>rfl
 |.P _ _,h1,h2|.sl _ _ _,h1,h2|.I _ _ _,h1,h2|.mp _,h1,h2=>by simp only[AV.all]at h1 h2 ⊢;rw[h1,h2];rfl
 |.emp,_,_|.qw,_,_|.qc _ _,_,_=>rfl
 |.agg l,h1,h2|.qb l,h1,h2|.qy _ l,h1,h2=>AV.allL_and l h1 h2
def AV.allL_and {p q:Nat->Bool}:∀l:Y AV,AV.allL p l=J->AV.allL q l=J->AV.allL (λn=>p n&&q n) l=J
 |[],_,_=>rfl
 |x::r,h1,h2=>by
  simp[AV.allL,al]at h1 h2 ⊢;exact⟨AV.all_and x h1.1 h2.1,AV.allL_and r h1.2 h2.2⟩
end
def BC.all_and {q:Nat->Bool} {c:BC} (h1:c.all p=J) (z:c.all q=J):c.all (λn=>p n&&q n)=J:=by
 cases c with
 |mx l=>exact AV.allL_and l h1 z
 |mp es=>exact AV.allL_and _ h1 z
 |_=>rfl
def Yn (B n:Nat):Bool:=dN (ix n) B
def Gq {n:Nat} (h:i<=j) (z:Yn i n=J):Yn j n=J:=a_ (c6 (aT z) h)
mutual
def AV.all_ix {B B':Nat} (h:B<=B'):∀x:AV,x.all (Yn B)=J->x.all (Yn B')=J
 |.f _,_=>rfl
 |.P _ _,h1|.sl _ _ _,h1|.I _ _ _,h1|.mp _,h1=>Gq h h1
 |.emp,_|.qw,_|.qc _ _,_=>rfl
 |.agg l,h1|.qb l,h1|.qy _ l,h1=>AV.allL_ix h l h1
def AV.allL_ix {B B':Nat} (h:B<=B'):∀l:Y AV,AV.allL (Yn B) l=J->AV.allL (Yn B') l=J
 |[],_=>rfl
 |x::r,h1=>by
  simp[AV.allL,al]at h1 ⊢;exact⟨AV.all_ix h x h1.1,AV.allL_ix h r h1.2⟩
end
mutual
def AV.ix_ex:∀x:AV,∃B,x.all (Yn B)=J
 |.f _=>⟨0,rfl⟩
 |.P n _|.sl n _ _|.I n _ _|.mp n=>⟨ix n,a_ (bJ _)⟩
 |.emp|.qw|.qc _ _=>⟨0,rfl⟩
 |.agg l|.qb l|.qy _ l=>AV.ixL_ex l
def AV.ixL_ex:∀l:Y AV,∃B,AV.allL (Yn B) l=J
 |[]=>⟨0,rfl⟩
 |x::r=>by
  obtain⟨a,ha⟩:=AV.ix_ex x;obtain⟨b,hb⟩:=AV.ixL_ex r;exact⟨a+b,by simp[AV.allL,al];exact⟨AV.all_ix (by omega) x ha,AV.allL_ix (by omega) r hb⟩⟩
end
def BC.ix_ex (c:BC):∃B,c.all (Yn B)=J:=by
 cases c with
 |mx l=>exact AV.ixL_ex l
 |mp es=>exact AV.ixL_ex _
 |_=>exact⟨0,rfl⟩
def BC.all_ix (h:i<=j) {c:BC} (h1:c.all (Yn i)=J):c.all (Yn j)=J:=by
 cases c with
 |mx l=>exact AV.allL_ix h l h1
 |mp es=>exact AV.allL_ix h _ h1
 |_=>rfl
def LP (h:aX):∃B,∀n y,erHF h n=Z y->ix n<=B/\y.c.all (Yn B)=J:=by
 let⟨A,hM⟩:=aby h;have key:∀a:Nat,∃B,∀n y,n<a->erHF h n=Z y->y.c.all (Yn B)=J:=by
  intro a;induction a with
  |zero=>exact⟨0,λn y hn=>by omega⟩
  |succ a ih=>
   let⟨B,hB⟩:=ih;cases hx:erHF h a with
   |none=>exact⟨B,λn y hn D=>by
     by_cases e:n=a
     .grind
     .exact hB n y (by omega) D⟩
   |some z=>
    let⟨C,hC⟩:=BC.ix_ex z.c;exact⟨B+C,λn y hn D=>by
     by_cases e:n=a
     .subst e;rw[hx]at D;cases D;exact BC.all_ix (by omega) hC
     .exact BC.all_ix (by omega) (hB n y (by omega) D)⟩
 let⟨H,hH⟩:=gI h;let⟨L,hL⟩:=PT.bound H;let⟨B,hB⟩:=key L;refine ⟨A+B,λn y D=>⟨c6 (aol hM D) (by omega),BC.all_ix (by omega) (hB n y ?_ D)⟩⟩;rcases cC n L with h1|h1
 .exact h1
 .simp_all
variable {f:FuncId}
def akw {o:Oper} {e:h_} {c:co} (hinv:g_ h i) (sp:ru T f c) {x:c.pre.ty.den} {l:Nat} {σ:PT Nat} (A:L2 0 c.pre m h x l σ j) {vs:Y TV} {hp:aX} {l1:Y (M e9)} (I:pD c.pre x vs hp l1) (hng:E3 c.pre.bs=J) {y:c.post.ty.den} (hm:c.m x=Z y) {rs:Y TV} {hq:aX} {l2:Y (M e9)} (D:pD c.post y rs hq l2) (hle:l! c.pre.bs<=l! c.post.bs)
 (glo:∀nx,nx<l! c.pre.bs->g nx=iw σ nx) (ghi:∀nx,l! c.pre.bs<=nx->g nx=i+(nx-l! c.pre.bs)) {h2:aX} (hh2:h2=DK g 0 (l2.map (il (lm g))) (dK l h)) (hsr:vS h h2 g (l! c.pre.bs)=J) (hla:cJ h m=Z r)
 (hexec:∀(φ:PM) (E:Nat->Prop) (h':HF) (w:World) (a:Act),(∀t,.tmp t∈o.op.operands->∀y,fU e h t=Z y->cf φ (tot E φ h') w y (a.tmps.getD t undef))->sC φ E h' w->∃us:ξ,(execOp a.eval o).run T w= .ok (.enter f us.toArray) w/\lV φ (tot E φ h') w r us):
 fm T o af e h i (Vd (lE g rs)) (j|||l) (j|||l|||(((1<<<(l! c.post.bs-l! c.pre.bs))-1)<<<i)) h2 (i+(l! c.post.bs-l! c.pre.bs)):=by
 let⟨x1,m1,x2,m2,hx,hmm,gv,gb⟩:=A.ex;have hmr:dI h l:=by rw[hmm];exact (Ts _ _ _ _ gv).or (Tt _ _ _ _ gb)
 generalize hnp:l! c.pre.bs=np at*
 generalize hnq:l! c.post.bs=nq at*
 have pvg:rD (iw σ) c.pre.vs x1=Z (lE (iw σ) vs):=by
  have h3:=vH (iw σ) c.pre.vs x1;have h4:=I.pv;rw[hx,vA]at h4;rw[h3,h4];rfl
 have pbg:qT (iw σ) c.pre.bs x2=Z (l1.map (il (lm (iw σ)))):=by
  have h3:=yO (iw σ) c.pre.bs x2;have h4:=I.pb;rw[hx,xp]at h4;rw[h3,h4];rfl
 have hl1:∀nx,nx<np->∃b,l1[nx]? =Z (Z b):=λnx hi=>by
  have hi':nx<l! l1:=by rw[I.len,hnp];exact hi
  let⟨b,L⟩:=Rb c.pre.bs _ l1 hng I.pb nx l1[nx] (aG hi');exact⟨b,by rw[aG hi',L]⟩
 have hbm:∀nx b,l1[nx]? =Z (Z b)->∃b0,h.get (iw σ nx)=Z b0/\BM (iw σ) h l b0 (lm (iw σ) b):=λnx b L=>by
  let⟨b0,q1,q2⟩:=Nn c.pre.bs 0 x2 m2 _ gb pbg nx (lm (iw σ) b) (by rw[bB,L];rfl);rw[bX]at q1;exact⟨b0,q1,q2.mono λsm hj=>by rw[hmm,bu,hj];simp⟩
 have inj1:∀a b,a<np->b<np->iw σ a=iw σ b->a=b:=λa b ha L=>A.inj a b (by rw[hnp];exact ha) (by rw[hnp];exact L)
 have sig:∀q,aK j q=J↔∃k,k<np/\iw σ k=q:=λq=>by rw[A.sig,hnp]
 have gnx:∀nx,nx<np->iw σ nx<i:=λnx hi=>by
  let⟨b,L⟩:=hl1 nx hi;let⟨b0,q1,_⟩:=hbm nx b L;exact hinv.low _ _ q1
 have hmS:∀nx,nx<np->aK l (iw σ nx)=af:=λnx hi=>by
  cases hx:aK l (iw σ nx) with
  |false=>rfl
  |true=>have:=A.disj _ hx;rw[(sig _).2 ⟨nx,hi,rfl⟩]at this;cases this
 have injg:∀a b,a<nq->b<nq->g a=g b->a=b:=λa b ha L hab=>by
  by_cases h1:a<np
  .by_cases h2:b<np
   .rw[glo a h1,glo b h2]at hab;exact inj1 a b h1 h2 hab
   .rw[glo a h1,ghi b (by omega)]at hab;have:=gnx a h1;omega
  .by_cases h2:b<np
   .rw[ghi a (by omega),glo b h2]at hab;have:=gnx b h2;omega
   .rw[ghi a (by omega),ghi b (by omega)]at hab;omega
 let hv:aX:=DK (iw σ) 0 (l1.map (il (lm (iw σ)))) (dK l h)
 have hv_at:∀nx b,l1[nx]? =Z (Z b)->hv.get (iw σ nx)=Z (lm (iw σ) b):=λnx b L=>by
  have:=xC (iw σ) (l1.map (il (lm (iw σ)))) 0 (dK l h) (λa b ha L=>by
   simp only[bQ,I.len,hnp]at ha L;simp only[bX];exact inj1 a b ha L) nx (Z (lm (iw σ) b)) (by rw[bB,L];rfl)
  rw[bX]at this;exact this
 have hv_ne:∀sm,(∀nx,nx<np->sm≠iw σ nx)->hv.get sm=(dK l h).get sm:=λsm hj=>
  xB (iw σ) _ 0 _ sm λk hk=>by
   simp only[bQ,I.len,hnp]at hk;rw[bX];exact hj k hk
 have rows_in:Bk hv h:=λsm la hr=>by
  rw[bx]at hr ⊢;by_cases hj:∃nx,nx<np/\sm=iw σ nx
  .obtain⟨nx,hi,rfl⟩:=hj;let⟨b,L⟩:=hl1 nx hi;let⟨b0,q1,q2⟩:=hbm nx b L;rw[hv_at nx b L]at hr;rw[q1];simp only[aF]at hr ⊢;rw[<- q2.I];exact hr
  .rw[hv_ne sm (λnx hi e=>hj ⟨nx,hi,e⟩),iV]at hr;split at hr
   next ht=>let⟨ty,p,P,xs,L⟩:=hmr sm ht;rw[L]at hr ⊢;exact hr
   .exact hr
 have rows_hp:∀nx la,eM hp nx=Z la->eM hv (iw σ nx)=Z la:=λnx la hr=>by
  rw[bx]at hr ⊢;cases L:hp.get nx with
  |none=>rw[L]at hr;cases hr
  |some b=>
   rw[L]at hr;rw[hv_at nx b ((I.at_ nx b).1 L)];simp only[aF,Mg]at hr ⊢;exact hr
 have dead_m:∀nx,aK l nx=J->erHF hv (nm nx)=U:=λnx hi=>by
  rw[bG,hv_ne nx (λk hk e=>by rw[e,hmS k hk]at hi;cases hi)];let⟨p,sz,n,hd⟩:=vM hmr hi;rw[hd];rfl
 have h2_at:∀nx cc,l2[nx]? =Z cc->h2.get (g nx)=(match cc with|some b=>Z (lm g b)|none=>((dK l h).get (g nx)).map u_):=λnx cc hc=>by
  have:=xC g (l2.map (il (lm g))) 0 (dK l h) (λa b ha L=>by
   simp only[bQ,D.len,hnq]at ha L;simp only[bX];exact injg a b ha L) nx (cc.map (lm g)) (by rw[bB,hc];rfl)
  rw[bX]at this;rw[hh2,this];cases cc<;>rfl
 have h2_ne:∀sm,(∀nx,nx<nq->sm≠g nx)->h2.get sm=(dK l h).get sm:=λsm hj=>by
  rw[hh2];refine xB g _ 0 _ sm λk hk=>?_
  simp only[bQ,D.len,hnq]at hk;rw[bX];exact hj k hk
 have rows_hq:∀nx la,eM hq nx=Z la->eM h2 (g nx)=Z la:=λnx la hr=>by
  rw[bx]at hr ⊢;cases L:hq.get nx with
  |none=>rw[L]at hr;cases hr
  |some b=>
   rw[L]at hr;rw[h2_at nx _ ((D.at_ nx b).1 L)];simp only[aF,Mg]at hr ⊢;exact hr
 have rows2:bV h h2:=λsm la hr=>by
  by_cases hj:∃nx,nx<np/\sm=iw σ nx
  .obtain⟨nx,hi,rfl⟩:=hj;rw[<- glo nx hi]at hr ⊢;exact Jq np hsr nx hi la hr
  .have hjn:sm<i:=by
    rw[bx]at hr;cases L:h.get sm with
    |none=>rw[L]at hr;cases hr
    |some b=>exact hinv.low sm b L
   have:=bV.kill l h sm la hr;rw[bx]at this ⊢;rw[h2_ne sm (λnx hi e=>?_)]
   .exact this
   .by_cases hip:nx<np
    .exact hj ⟨nx,hip,by rw[e,glo nx hip]⟩
    .rw[ghi nx (by omega)]at e;omega
 let⟨lr,hlr⟩:=fJ hq rs D.ok;let⟨lp,hlp⟩:=fJ hp vs I.ok;have er2:∀n yb,erHF hq n=Z yb->erHF h2 (pH g n)=Z (yb.qx (pH g)):=λn yb hn=>by
  let⟨b,L,hyb⟩:=iW hn;unfold erHF;rw[xX,AH,h2_at _ _ ((D.at_ _ b).1 L)];exact Dr rows_hq hyb
 have er2':∀n,ow n<nq->∀z,erHF h2 (pH g n)=Z z->∃yb,erHF hq n=Z yb/\z=yb.qx (pH g):=λn hi z hz=>by
  have hi':ow n<l! l2:=by rw[D.len,hnq];exact hi
  have hcc:=aG hi';unfold erHF at hz;rw[xX,AH]at hz;cases hcv:l2[ow n] with
  |none=>
   rw[hcv]at hcc;rw[h2_at _ U hcc]at hz;simp only at hz;cases hkg:(dK l h).get (g (ow n)) with
   |none=>rw[hkg]at hz;cases hz
   |some b0=>rw[hkg]at hz;exact (ak5 hz).elim
  |some b=>
   rw[hcv]at hcc;have L:=(D.at_ _ b).2 hcc;rw[h2_at _ (Z b) hcc]at hz;have hz:Pq h2 (g (ow n)) (ix n) (lm g b)=Z z:=hz;have hyb:∃yb,Pq hq (ow n) (ix n) b=Z yb:=by
    cases hk:ix n with
    |zero=>
     rw[hk]at hz;cases b with
     |H ty p P xs=>exact⟨z,hz⟩
     |G ty q=>
      let⟨q',hq'⟩:=fJ hq q (D.G _ _ q L).1;cases ty<;>exact⟨_,by simp only[Pq,kJ,hq'];rfl⟩
     |qj p sz n=>cases hz
     |mp K V es=>exact⟨_,rfl⟩
     |Q F a x=>
      simp only[Pq,lm,kJ,Wx]at hz;let⟨y,hy,_⟩:=gA.1 hz;exact⟨y,hy⟩
     |qd F a x k p=>exact cq L (D.nox _ F a x k p)
    |succ k=>
     rw[hk]at hz;simp only[Pq,VD]at hz;let⟨y,hy,_⟩:=gA.1 hz;exact⟨y,hy⟩
   let⟨yb,hyb⟩:=hyb;rw[Dr rows_hq hyb]at hz;refine ⟨yb,?_,by cases hz;rfl⟩;unfold erHF;rw[L];exact hyb
 have dead2:∀nx,aK l nx=J->erHF h2 (nm nx)=U:=λnx hi=>by
  have hlt:=hmr.lt hinv hi;rw[bG,h2_ne nx (λk hk e=>?_)]
  .obtain⟨p,sz,n,hd⟩:=vM hmr hi;rw[hd];rfl
  .by_cases hkp:k<np
   .rw[e,glo k hkp,hmS k hkp]at hi;cases hi
   .rw[ghi k (by omega)]at e;omega
 have inv2:g_ h2 (i+(nq-np)):=by
  refine ⟨λsm ty q hj=>?_,λsm b hj=>?_⟩
  .by_cases hjg:∃nx,nx<nq/\sm=g nx
   .obtain⟨nx,hi,rfl⟩:=hjg;have hi':nx<l! l2:=by rw[D.len,hnq];exact hi
    have hcc:=aG hi';cases hcv:l2[nx] with
    |none=>
     rw[hcv]at hcc;rw[h2_at nx U hcc]at hj;simp only at hj;cases hkg:(dK l h).get (g nx) with
     |none=>rw[hkg]at hj;cases hj
     |some b0=>rw[hkg]at hj;exact (Cl (fX hj)).elim
    |some b=>
     rw[hcv]at hcc;have L:=(D.at_ nx b).2 hcc;rw[h2_at nx (Z b) hcc]at hj;simp only[ah]at hj;cases b with
     |G ty' q'=>
      simp only[lm,e9.G.injEq]at hj;obtain⟨_,rfl⟩:=hj;let⟨z,hz⟩:=fJ hq q' (D.G nx _ q' L).1;exact mc _ _ _ (qB rows_hq q' z hz)
     |_=>simp[lm]at hj
   .rw[h2_ne sm (λnx hi e=>hjg ⟨nx,hi,e⟩)]at hj;refine fy rows2 q ?_;have hkk:=(hinv.kill l).G sm _ q hj;rw[iV]at hj;split at hj
    next ht=>let⟨_,_,_,_,L⟩:=hmr sm ht;rw[L]at hj;cases hj
    .exact hinv.G sm _ q hj
  .by_cases hjg:∃nx,nx<nq/\sm=g nx
   .obtain⟨nx,hi,rfl⟩:=hjg;by_cases hip:nx<np
    .rw[glo nx hip];have:=gnx nx hip;omega
    .rw[ghi nx (by omega)];omega
   .rw[h2_ne sm (λnx hi e=>hjg ⟨nx,hi,e⟩)]at hj;have:=(hinv.kill l).low sm b hj;omega
 let⟨B1,hB1⟩:=LP hp;let⟨B2,hB2⟩:=LP hq;let⟨B3,hB3⟩:=LP h;let⟨B4,hB4⟩:=LP h2;let⟨B5,hB5⟩:=AV.ixL_ex lr;obtain⟨B,eB⟩:∃B,B=B1+B2+B3+B4+B5:=⟨_,rfl⟩
 let S:ι:=anl ((e_ np).map (iw σ)) B
 have memS:∀n,n∈S↔(∃nx,nx<np/\ow n=iw σ nx)/\ix n<=B:=λn=>by
  simp only[S,VB,cr,oO];exact⟨λ⟨⟨nx,h1,h2⟩,h3⟩=>⟨⟨nx,h1,h2.symm⟩,h3⟩,λ⟨⟨nx,h1,h2⟩,h3⟩=>⟨⟨nx,h1,h2.symm⟩,h3⟩⟩
 let NN:ι:=anl ((e_ (nq-np)).map λt=>i+t) B
 have Ij:∀n,n∈NN↔(∃t,t<nq-np/\ow n=i+t)/\ix n<=B:=λn=>by
  simp only[NN,VB,cr,oO];exact⟨λ⟨⟨nx,h1,h2⟩,h3⟩=>⟨⟨nx,h1,h2.symm⟩,h3⟩,λ⟨⟨nx,h1,h2⟩,h3⟩=>⟨⟨nx,h1,h2.symm⟩,h3⟩⟩
 have memW:∀n,n∈S++Jz l++NN↔((∃nx,nx<nq/\ow n=g nx)/\ix n<=B)\/n∈Jz l:=λn=>by
  rw[bL,bL,memS,Ij];constructor
  .rintro ((⟨⟨nx,hi,e⟩,hk⟩|hn)|⟨⟨t,ht,e⟩,hk⟩)
   .exact .inl ⟨⟨nx,by omega,by rw[glo nx hi];exact e⟩,hk⟩
   .exact .inr hn
   .exact .inl ⟨⟨np+t,by omega,by rw[ghi _ (by omega),show np+t-np=t from by omega];exact e⟩,hk⟩
  .rintro (⟨⟨nx,hi,e⟩,hk⟩|hn)
   .by_cases hip:nx<np
    .exact .inl (.inl ⟨⟨nx,hip,by rw[<- glo nx hip];exact e⟩,hk⟩)
    .exact .inr ⟨⟨nx-np,by omega,by rw[e,ghi nx (by omega)]⟩,hk⟩
   .exact .inl (.inr hn)
 have gamS:∀n,ow n<np->ix n<=B->pH (iw σ) n∈S:=λn hi hk=>(memS _).2 ⟨⟨ow n,hi,xX _ _⟩,by rw[AH];exact hk⟩
 have gamg:∀n,ow n<np->pH g n=pH (iw σ) n:=λn hi=>by unfold pH;rw[glo _ hi]
 have ungam:∀(g:Nat->Nat) (n nx:Nat),ow n=g nx->n=pH g (jQ nx (ix n)):=λg n nx e=>by rw[Dp,<-e,kZ]
 have hOpT:gF T o (fU e h) (erHF h) ⟨FK (AV.renL (pH g) lr),S++Jz l,S++Jz l++NN,erHF h2,NN⟩:=by
  intro φ E h' w a hrd hwr hops hrep hN;have hS':∀n,n∈S->h' n=erHF h n:=λn hn=>hrd _ (io _ hn)
  have hM':∀nx,aK l nx=J->h' (nm nx)=erHF h (nm nx):=λnx hi=>hrd _ (uX _ (mT.2 hi))
  let⟨us,hrun,hrel⟩:=hexec φ E h' w a hops hrep
  let Hv:HF:=λn=>if n∈S++Jz l then erHF hv n else h' n
  have Hv_in:∀n,n∈S++Jz l->Hv n=erHF hv n:=λn hn=>by simp only[Hv,hn,bk]
  have Hv_out:∀n,n∉S++Jz l->Hv n=h' n:=λn hn=>by simp only[Hv,hn,dE]
  have blkS:∀n,n∈S->∀z,erHF hv n=Z z->∃b0 c y0,h.get (ow n)=Z b0/\BM (iw σ) h l b0 c/\Pq h (ow n) (ix n) b0=Z y0/\Pq hv (ow n) (ix n) c=Z z:=λn hn z hz=>by
   let⟨⟨nx,hi,e⟩,_⟩:=(memS n).1 hn;let⟨b,L⟩:=hl1 nx hi;let⟨b0,q1,q2⟩:=hbm nx b L;unfold erHF at hz;rw[e,hv_at nx b L]at hz;have hz:Pq hv (iw σ nx) (ix n) (lm (iw σ) b)=Z z:=hz;rw[e];cases hk:ix n with
   |zero=>
    rw[hk]at hz;let⟨y0,hy0⟩:=BM.erB_some hinv q1 q2 hz;exact⟨b0,_,y0,q1,q2,hy0,hz⟩
   |succ k=>
    rw[hk]at hz;exact⟨b0,_,z,q1,q2,(q2.mem _ _).trans hz,hz⟩
  have hd:rA h' Hv:=λn b L=>by
   by_cases hn:n∈S++Jz l
   .rw[Hv_in n hn]at L;rcases bL.1 hn with hs|hs
    .obtain⟨b0,c,y0,q1,_,q4,_⟩:=blkS n hs b L;exact⟨y0,by rw[hS' n hs];unfold erHF;rw[q1];exact q4⟩
    .obtain⟨nx,rfl,hi⟩:=o9.1 hs;rw[dead_m nx hi]at L;cases L
   .rw[Hv_out n hn]at L;exact⟨b,L⟩
  have gvv:Fu h h' Hv l:=λnx hi=>⟨hM' nx hi,by rw[Hv_in _ (uX _ (mT.2 hi)),dead_m nx hi]⟩
  have V:O4 h' Hv:=⟨hd,λn b b' L hb'=>by
   by_cases hn:n∈S++Jz l
   .rw[Hv_in n hn]at hb';rcases bL.1 hn with hs|hs
    .obtain⟨b0,c,y0,q1,q3,q4,q5⟩:=blkS n hs b' hb';rw[hS' n hs]at L;unfold erHF at L;rw[q1]at L;have L:Pq h (ow n) (ix n) b0=Z b:=L;cases hk:ix n with
     |zero=>rw[hk]at L q5;exact BM.view hd gvv rows_in q3 L q5
     |succ k=>
      rw[hk]at L q5;have:=(q3.mem (ow n) k).symm.trans L;have q5:wX (ow n) k c=Z b':=q5;rw[q5]at this;cases this;exact gw.refl hd _
    .obtain⟨nx,rfl,hi⟩:=o9.1 hs;rw[dead_m nx hi]at hb';cases hb'
   .rw[Hv_out n hn,L]at hb';cases hb';exact gw.refl hd b⟩
  have hrepv:=V.zq hrep;have hlpg:cJ hv (lE (iw σ) vs)=Z (AV.renL (pH (iw σ)) lp):=qB rows_hp vs lp hlp;have hrel1:lV φ (tot E φ Hv) w (AV.renL (pH (iw σ)) lp) us:=
   lV.le hrep (GR hd rows_in c.pre.vs m x1 m1 _ r _ gv pvg hla hlpg (λnx hi=>gvv nx (by rw[hmm,bu,hi];rfl))) hrel
  let E':Nat->Prop:=λk=>E k\/∃n b,Hv n=Z b/\n∉S/\φ n=Z k
  have P:apo c.pre x vs hp (iw σ) φ E E' Hv w:=by
   refine sC.toId I (λa b ha L=>inj1 a b (by rw[<- hnp];exact ha) (by rw[<- hnp];exact L)) hrepv (λn yb hn=>?_) ?_ ?_ ?_
   .obtain⟨hi,_⟩:=I.erHF hn;rw[hnp]at hi;have hk:=(hB1 n yb hn).1;let⟨b,L,hyb⟩:=iW hn;rw[Hv_in _ (io _ (gamS n hi (by omega)))];unfold erHF;rw[xX,AH,hv_at _ b ((I.at_ _ b).1 L)];exact Dr rows_hp hyb
   .rintro k (hE|⟨n,b,h1,_,h3⟩)
    .exact .inl hE
    .exact .inr ⟨n,b,h1,h3⟩
   .intro n0 k y0 hn0 h3 hE0;let⟨hi,_⟩:=I.erHF hn0;rw[hnp]at hi;have hk:=(hB1 n0 y0 hn0).1;have h1:Hv (pH (iw σ) n0)=Z (y0.qx (pH (iw σ))):=by
     let⟨b,L,hyb⟩:=iW hn0;rw[Hv_in _ (io _ (gamS n0 hi (by omega)))];unfold erHF;rw[xX,AH,hv_at _ b ((I.at_ _ b).1 L)];exact Dr rows_hp hyb
    rcases hE0 with hE|⟨n,b',h4,h5,h6⟩
    .obtain⟨k',p1,p2,_⟩:=hrepv.at_ _ _ h1;rw[h3]at p1;cases p1;exact p2 hE
    .have:=hrepv.inj _ _ _ _ k h1 h4 h3 h6;exact h5 (by rw[<- this];exact gamS n0 hi (by omega))
   .rintro k (hE|⟨n,b,h1,_,h3⟩)
    .exact hrepv.el k hE
    .obtain⟨k',q1,_,ob,q3,_⟩:=hrepv.at_ n b h1;rw[h3]at q1;cases q1;exact (dz.1 q3).1
  have hcalls:=sp.calls x y hm vs hp l1 rs hq l2 lp lr I D hlp hlr (φ1 (l! c.pre.bs) (iw σ) φ) E' w us P.zq (lV.toId P.val (vx vs lp I.lt hlp) hrel1) (λn k hk=>(An hk).1);unfold Lx;rw[hrun];refine Calls.mono hcalls ?_;rintro en w' ⟨v,φc',rfl,hext,hown,hnm,rp,rv'⟩
  let isN:Nat->Prop:=λn=>n∈NN
  let φ':PM:=λn=>if n∈NN then φc' (jQ (np+(ow n-i)) (ix n)) else φ n
  have φ'_old:∀n,n∉NN->φ' n=φ n:=λn hn=>by simp only[φ',hn,dE]
  have loN:∀n,ow n<i->n∉NN:=λn hi hn=>by
   let⟨⟨t,_,e⟩,_⟩:=(Ij _).1 hn;omega
  have φ'_g:∀n,ow n<nq->ix n<=B->φ' (pH g n)=φc' n:=λn hi hk=>by
   by_cases hip:ow n<np
   .rw[gamg n hip,φ'_old _ (loN _ (by rw[xX];exact gnx _ hip)),hnm n (by rw[hnp];exact hip),agz (by rw[hnp];exact hip)]
   .have hg:=ghi (ow n) (by omega);have:pH g n∈NN:=(Ij _).2 ⟨⟨ow n-np,by omega,by rw[xX,hg]⟩,by rw[AH];exact hk⟩;simp only[φ',this,bk,xX,AH,hg];rw[show np+(i+(ow n-np)-i)=ow n from by omega,kZ]
  have hsub:∀n k,φ n=Z k->φ' n=Z k:=λn k hk=>by
   by_cases hn:n∈NN
   .rw[hN n hn]at hk;cases hk
   .rw[φ'_old n hn];exact hk
  let F:HF:=fx h' (S++Jz l++NN) (erHF h2)
  have F_g:∀n,n∈S++Jz l++NN->F n=erHF h2 n:=λn hn=>by
   simp only[F,fx,hn,bk]
  have F_out:∀n,n∉S++Jz l++NN->F n=h' n:=λn hn=>by simp only[F,fx,hn,dE]
  have from_:∀n b,F n=Z b->(∃nx yb,ow nx<nq/\ix nx<=B/\n=pH g nx/\erHF hq nx=Z yb/\b=yb.qx (pH g))\/(h' n=Z b/\Hv n=Z b/\n∉S/\n∉NN/\φ' n=φ n):=λn b L=>by
   by_cases hn:n∈S++Jz l++NN
   .rcases (memW n).1 hn with ⟨⟨nx,hi,e⟩,hk⟩|hs
    .rw[F_g n hn]at L;have e2:=ungam g n nx e;have ho:ow (jQ nx (ix n))<nq:=by rw[iR];exact hi
     let⟨yb,q1,q2⟩:=er2' (jQ nx (ix n)) ho b (by rw[<- e2];exact L);exact .inl ⟨jQ nx (ix n),yb,ho,by rw[wy];exact hk,e2,q1,q2⟩
    .obtain⟨nx,rfl,hi⟩:=o9.1 hs;have:F (nm nx)=erHF h2 (nm nx):=by simp only[F,fx,hn,bk]
     rw[this,dead2 nx hi]at L;cases L
   .rw[F_out n hn]at L;have h1:n∉S++Jz l:=λhh=>hn (io _ hh)
    have h3:n∉NN:=λhh=>hn (uX _ hh)
    exact .inr ⟨L,by rw[Hv_out n h1];exact L,λhh=>h1 (io _ hh),h3,φ'_old n h3⟩
  have own':∀k,own φ' F k->own φc' (erHF hq) k\/∃n b,Hv n=Z b/\n∉S/\φ n=Z k:=by
   rintro k ⟨n,b,h1,h3⟩;rcases from_ n b h1 with ⟨nx,yb,hi,hk,rfl,q1,_⟩|⟨_,q2,q3,_,q5⟩
   .rw[φ'_g nx hi hk]at h3;exact .inl ⟨nx,yb,q1,h3⟩
   .exact .inr ⟨n,b,q2,q3,by rw[<- q5];exact h3⟩
  have mv:kl φ φ' h' F w w':=by
   refine ⟨hsub,hext.mono λk hk=>hd.own (P.ql k hk),λk hk ho=>?_⟩;rcases own' k ho with h1|⟨n,b,h1,_,h3⟩
   .exact hd.own (P.ql k (hown k hk h1))
   .exact hd.own ⟨n,b,h1,h3⟩
  have tot':∀k,tot E φ' F k->tot E' φc' (erHF hq) k:=by
   rintro k (h1|h1)
   .exact .inl (.inl h1)
   .rcases own' k h1 with h3|h3
    .exact .inr h3
    .exact .inl (.inr h3)
  let φr:PM:=λn=>if Q7 nq n&&Yn B n then φc' n else U
  have rel_r:∀x v,x.all (λn=>Q7 nq n&&Yn B n)=J->cf φc' (tot E' φc' (erHF hq)) w' x v->cf φr (tot E φ' F) w' x v:=λx v hx hr=>
   hr.restrict (λnx k hi hk=>by simp only[φr,hi,bk];exact hk) tot' hx
  have rel_g:∀x v,cf φr (tot E φ' F) w' x v->cf φ' (tot E φ' F) w' (x.qx (pH g)) v:=λx v hr=>
   hr.renTo λn k hk=>by
    simp only[φr]at hk;split at hk
    next hpn=>simp only[al]at hpn;rw[φ'_g n (F5.1 hpn.1) (aT hpn.2)];exact hk
    .cases hk
  have hnqJ:=hnq;refine ⟨v,φ',rfl,mv,λn k hk=>?_,?_,?_⟩
  .by_cases hn:n∈NN
   .exact .inr hn
   .rw[φ'_old n hn]at hk;exact .inl hk
  .refine ⟨λn n' b b' k h1 h3 h4 h5=>?_,λn b h1=>?_,λk hk=>dy (hrep.el k hk) mv.ext.size,λg' cells hg=>mv.keepF (hrep.gl g' cells hg)⟩
   .rcases from_ n b h1 with ⟨nx,yb,hi,hik,rfl,hqi,_⟩|⟨q1,q2,q3,_,q5⟩
    .rw[φ'_g nx hi hik]at h4;rcases from_ n' b' h3 with ⟨sm,yj,hj,hjk,rfl,t1,_⟩|⟨t1,t2,t3,_,t5⟩
     .rw[φ'_g sm hj hjk]at h5;rw[rp.inj _ _ _ _ k hqi t1 h4 h5]
     .exfalso;let⟨k',p1,p2,_⟩:=rp.at_ _ _ hqi;rw[h4]at p1;cases p1;exact p2 (.inr ⟨n',b',t2,t3,by rw[<- t5];exact h5⟩)
    .rcases from_ n' b' h3 with ⟨sm,yj,hj,hjk,rfl,hqj,_⟩|⟨t1,t2,t3,_,t5⟩
     .exfalso;rw[φ'_g sm hj hjk]at h5;let⟨k',p1,p2,_⟩:=rp.at_ _ _ hqj;rw[h5]at p1;cases p1;exact p2 (.inr ⟨n,b,q2,q3,by rw[<- q5];exact h4⟩)
     .exact hrep.inj n n' b b' k q1 t1 (by rw[<- q5];exact h4) (by rw[<- t5];exact h5)
   .rcases from_ n b h1 with ⟨nx,yb,hi,hik,rfl,hqi,rfl⟩|⟨q1,q2,q3,_,q5⟩
    .obtain⟨k,p1,p2,ob,p3,p4⟩:=rp.at_ _ _ hqi;have hall:=(D.erHF hqi).2;rw[hnq]at hall;have hall2:=BC.all_and hall (BC.all_ix (show B2<=B by omega) (hB2 nx yb hqi).2);exact⟨k,by rw[φ'_g nx hi hik];exact p1,λhE=>p2 (.inl hE),ob,p3,(p4.restrict rel_r hall2).renTo rel_g⟩
    .obtain⟨k,p1,p2,ob,p3,p4⟩:=hrep.at_ n b q1;have hk:k<w.heap.size:=(dz.1 p3).1;refine ⟨k,hsub n k p1,p2,ob,?_,p4.mono λx v hr=>mv.zw hr⟩;rw[hext.jp k hk ?_]
     .exact p3
     .rintro⟨n',y',t1,t2⟩;let⟨hi,t3⟩:=An t2;rw[hnp]at hi;have hik:=(hB1 n' y' t1).1;have hvi:Hv (pH (iw σ) n')=Z (y'.qx (pH (iw σ))):=by
       let⟨bb,t4,t5⟩:=iW t1;rw[Hv_in _ (io _ (gamS n' hi (by omega)))];unfold erHF;rw[xX,AH,hv_at _ bb ((I.at_ _ bb).1 t4)];exact Dr rows_hp t5
      have:=hrepv.inj _ _ _ _ k hvi q2 t3 p1;exact q3 (by rw[<- this];exact gamS n' hi (by omega))
  .have hall:(FK lr).all (λn=>Q7 nq n&&Yn B n)=J:=AV.all_and _ (UQ (by have:=vx rs lr D.lt hlr;rwa [hnq]at this)) (UQ (AV.allL_ix (by omega) lr hB5));show cf φ' (tot E φ' F) w' (FK (AV.renL (pH g) lr)) v;rw[aha];exact rel_g _ _ (rel_r _ _ hall rv')
 have hrsg:cJ h2 (lE g rs)=Z (AV.renL (pH g) lr):=qB rows_hq rs lr hlr;refine ⟨⟨_,hOpT,λz hz=>?_,?_,λn hn=>?_,λn hn=>?_,λn hn=>?_⟩,rows2,inv2,by omega,nofun⟩
 .rw[abb hrsg]at hz;cases hz;rfl
 .funext n;unfold fx;split
  .rfl
  .rename_i hn;by_cases hg:∃nx,nx<nq/\ow n=g nx
   .have hB:¬ix n<=B:=λhk=>hn ((memW _).2 (.inl ⟨hg,hk⟩))
    have n1:∀H:aX,(∀y,erHF H n=Z y->ix n<=B)->erHF H n=U:=λH hH=>by
     cases hx:erHF H n with
     |none=>rfl
     |some y=>exact cq (hH y hx) hB
    rw[n1 h λy hy=>c6 (hB3 n y hy).1 (by omega),n1 h2 λy hy=>c6 (hB4 n y hy).1 (by omega)]
   .have hg2:=h2_ne (ow n) λnx hi e=>hg ⟨nx,hi,e⟩
    unfold erHF;rw[hg2,iV];split
    .rename_i L;let⟨ty,p,P,xs,hx⟩:=hmr _ L;rw[hx];cases hk:ix n with
     |zero=>exact cq ((memW _).2 (.inr (by rw[pn hk];exact mT.2 L))) hn
     |succ k=>rfl
    .cases hx:h.get (ow n) with
     |none=>rfl
     |some b=>exact (mF rows2 (λty m e=>hinv.G _ _ m (by rw[hx,e])) _ _).symm
 .rw[bu];rcases bL.1 hn with hs|hs
  .obtain⟨⟨nx,hi,e⟩,_⟩:=(memS n).1 hs;rw[(sig _).2 ⟨nx,hi,e.symm⟩];rfl
  .obtain⟨nx,rfl,hi⟩:=o9.1 hs;rw[dh,hi];simp
 .rw[bu,bu];rcases bL.1 hn with hs|hs
  .rcases bL.1 hs with hs|hs
   .obtain⟨⟨nx,hi,e⟩,_⟩:=(memS n).1 hs;rw[(sig _).2 ⟨nx,hi,e.symm⟩];rfl
   .obtain⟨nx,rfl,hi⟩:=o9.1 hs;rw[dh,hi];simp
  .obtain⟨⟨t,ht,e⟩,_⟩:=(Ij n).1 hs;rw[ann.2 ⟨by omega,by omega⟩];simp
 .obtain⟨⟨t,ht,e⟩,_⟩:=(Ij n).1 hn;omega
def Di {S:Ty} {xs:Y (C6 S)} (z:dL a (l! xs)=J):xs[a.toNat]? =Z (dX _ xs a):=by
 let⟨_,_,h⟩:=mY z;unfold dX
 grind
def Vj {xss:Y (Y K.den)} (z:dL a (l! xss)=J):xss[a.toNat]? =Z (rx xss a):=by
 let⟨_,_,h⟩:=mY z;unfold rx
 grind
variable {A:η}
def VM (z:dL a (l! A)=J):A[a.toNat]? =Z (sI A a):=by
 let⟨_,_,h⟩:=mY z;unfold sI
 grind
def DI (id:Nat) (S:Ty) (j:Int) (o:C6 S):Y AV:=(bD S o.1).map .f++[.mp (jQ id (3*j.toNat+2)),.mp (jQ id (3*j.toNat+3))]
def aqz {xs:Y (C6 K)} (A:h.get i=Z (.Q (.ar s K) j xs)) {a:Int} (z:dL a (l! xs)=J):erHF h (pK i a)=Z ⟨s,.mx (DI i K a (dX _ xs a))⟩:=by
 unfold pK;rw[kR,A];show rm i (3*a.toNat) s K xs=_;unfold rm;rw[show 3*a.toNat/3=a.toNat from by omega,Di z];simp only[bh,wJ];rw[aD (by omega)];rfl
def aqy {xs:Y (C6 K)} (A:h.get i=Z (.Q (.ar s K) j xs)) {a:Int} (z:dL a (l! xs)=J) {b:Nat} (L:b<2):erHF h (jQ i (3*a.toNat+2+b))=Z ⟨0,.mp (Ik (sP b (dX _ xs a)))⟩:=by
 rw[show 3*a.toNat+2+b=3*a.toNat+1+b+1 from by omega,kR,A];show rm i (3*a.toNat+1+b) s K xs=_;unfold rm;rw[show (3*a.toNat+1+b)/3=a.toNat from by omega,Di z];simp[bh,wJ];rw[av (by omega)];rcases cC b 1 with D|D
 .have:b=0:=by omega
  subst this;rw[aD (by omega)];rfl
 .have:b=1:=by omega
  subst this;rw[av (by omega)];rfl
def ac7 {xss:Y (Y K.den)} (A:h.get i=Z (.Q (.ir s K) j xss)) {a:Int} (z:dL a (l! xss)=J) (D:l! (rx xss a)≠0):erHF h (jQ i (a.toNat+1))=Z ⟨s,.fz ((rx xss a).flatMap (bD K))⟩:=by
 rw[kR,A];show rk a.toNat s K xss=_;unfold rk;rw[Vj z];simp[aF,Zx]
 grind
def yN (a sz:Nat):∀(z:η) (k j:Nat),(lX a sz k z)[j]? =(z[j]?).map λl=>uL a (k+j) sz l.toNat
 |[],_,_|l::r,k,0=>by simp[lX]
 |l::r,k,j+1=>by
  simp[lX,BQ,yN a sz r (k+1) j]
  grind
abbrev i2:Y TypeDesc:=[.int .i64,.int .i64]
def S4 {b:Int} (z:aj0 u=Z (a,b)) (D:bW h u=Z y):aef i2 y=Z [.int .i64 a,.int .i64 b]:=by
 unfold aj0 at z;split at z
 .cases z
 .split at z
  .rename_i a' b' L;simp[ah,aR]at z;obtain⟨rfl,rfl⟩:=z;have h1:=(Kv L D).1;simp[cJ,bW,ah]at h1;have A:y.cs=[.f (.raw (.int .i64 a')),.f (.raw (.int .i64 b'))]:=h1.symm;cases y with
   |agg l=>
    subst A;rfl
   |f x=>
    cases x with
    |agg l=>
     cases l with
     |nil=>cases A
     |cons v l=>
      cases l with
      |nil=>cases A
      |cons w l=>
       cases l with
       |nil=>cases A;rfl
       |cons _ _=>cases A
    |_=>cases A
   |_=>cases A
  .cases z
def ER (k z:ν):D8 i2 [.int .i64 k.1,.int .i64 k.2] (aeh z)=Z (PP k z):=by
 unfold D8 aeh PP;simp[b9,C',jY,wK,ch,bk]
 grind
def U7 (a:Nat) (k:ν):∀es:Y e!,Js i2 [.int .i64 k.1,.int .i64 k.2] (w7 a es)=Z (match sK k es with|true=>Z (.P (pK a (eC k es)) 0)|false=>U)
 |[]=>rfl
 |e::r=>by
  have z:=U7 a k r;unfold w7 at z ⊢;simp[b9,Js,ER,sK,eC];cases A:PP k e.1 with
  |true=>rfl
  |false=>simp[Bool.false_or];exact z
def aba (a:Nat) (k:ν):∀es:Y e!,YG i2 [.int .i64 k.1,.int .i64 k.2] (w7 a es)=Z (w7 a (DJ k es))
 |[]=>rfl
 |e::r=>by
  have z:=aba a k r;unfold w7 at z ⊢;simp[b9,YG,ER,DJ];cases A:PP k e.1 with
  |true=>rfl
  |false=>simp only[z];rfl
def LM {k z:ν}:PP k z=J↔k=z:=by
 unfold PP
 grind
def ab9 (a:Nat) (k:ν) (v:AV):∀es:Y e!,YF i2 [.int .i64 k.1,.int .i64 k.2] v (w7 a es)=Z (ND a k v es)
 |[]=>rfl
 |e::r=>by
  have A:=ab9 a k v r;unfold w7 at A ⊢;simp[b9,YF,ER,ND];cases z:PP k e.1 with
  |true=>rw[aD (LM.1 z)];rfl
  |false=>rw[av (λh=>by rw[LM.2 h]at z;cases z)];simp[A]
section ops
variable {R:Type} {P:Program} {bY:TypeId->M Ty} {o:Oper} {e:h_} {h:aX} {nx:Nat} {K:KO R} {r:R} (hinv:g_ h nx) (hi:sN e h)
include hinv hi
def avu {st:Bool} (L:cL P o.op=Z (.jz b c)) (A:pB bY e h nx K (.jz b c)=Z r):i_ P o st e h nx K r:=by
 simp[pB]at A;split at A
 next D=>let⟨y,h1,z⟩:=ba hi D;simp[bW,K9,ah]at z;subst z;exact i_.q (k:=0) hinv L (λH _=>by simp[dA,h1];rfl) (cI rfl) A
 next D=>let⟨y,h1,z⟩:=ba hi D;simp[bW,ah]at z;subst z;exact i_.q (k:=0) hinv L (λH _=>by simp[dA,h1];rfl) (cI rfl) A
 next D=>let⟨y,h1,z⟩:=ba hi D;simp[bW,ah]at z;subst z;exact i_.q (k:=0) hinv L (λH _=>by simp[dA,h1];rfl) (cI rfl) A
 .cases A
def avr (hc:cL P o.op=Z (.zl c)) (D:pB bY e h nx K (.zl c)=Z r):i_ P o b e h nx K r:=by
 simp[pB]at D;split at D
 next L=>let⟨y,h1,A⟩:=ba hi L;have z:=A;simp[bW,K9,ah]at A;subst A;exact i_.q (k:=0) hinv hc (λH _=>by simp[dA,h1]) (cI z) D
 next L=>let⟨y,h1,A⟩:=ba hi L;have z:=A;simp[bW,K9,ah]at A;subst A;exact i_.q (k:=0) hinv hc (λH _=>by simp[dA,h1]) (cI z) D
 .cases D
def azl (L:cL P o.op=Z (.jb i c)) (z:pB bY e h nx K (.jb i c)=Z r):i_ P o b e h nx K r:=by
 simp[pB]at z;split at z
 next D=>let⟨y,h1,A⟩:=ba hi D;simp[bW,K9,ah]at A;subst A;exact i_.q (k:=0) hinv L (λH _=>by simp[dA,h1,K9]) (cI rfl) z
 next D=>let⟨y,h1,A⟩:=ba hi D;simp[bW,K9,ah]at A;subst A;exact i_.q (k:=0) hinv L (λH _=>by simp[dA,h1,K9,uI]) (cI rfl) z
 .cases z
def avt (hc:cL P o.op=Z (.load i b c)) (A:pB bY e h nx K (.load i b c)=Z r):i_ P o af e h nx K r:=by
 obtain⟨H,hH⟩:=gI h;simp only[pB]at A;split at A
 .rename_i id j off hv;obtain⟨y,h1,h2⟩:=ba hi hv;simp only[bW,K9,ah]at h2;subst h2;split at A
  .rename_i ty S a xs hb;have L:=cG A;clear A;obtain⟨hj,A⟩:=L;have hg:H.get (pK id j)=Z ⟨ty,.mx (DI id S j (dX S xs j))⟩:=by rw[hH];exact aqz hb hj
   have hrd:∀n∈[pK id j],aK (gG id) (ow n)=J:=λn hn=>by
    simp only[aE]at hn;subst hn;unfold pK;rw[iR];exact bn.2 rfl
   split at A
   .cases A
   .rename_i hag;have hag:b=af:=by grind
    subst hag;have sub1:∀y,(DI id S j (dX S xs j))[off]? =Z y->(BC.mx (DI id S j (dX S xs j))).sub? off 1 af=Z y:=λy hy=>hy
    split at A
    .rename_i ho;split at A
     .rename_i v hv2;obtain⟨p1,z,p2,p3,_⟩:=uv h 40 S _ off i af v hv2;obtain⟨rfl,p5⟩:=p3 rfl;have D:=sub1 (.f z) (by
       unfold DI;rw[bI (by grind),bB,p5];rfl)
      exact⟨_,_,_,_,_,A,fm.pure (k:=0) hinv hc hH (y0:=.f z) (rdl:=[pK id j]) (by simp only[dA,h1,xT,hg,D]) (cI p2) hrd nofun⟩
     .cases A
    .rename_i ho;split at A
     .rename_i hq;simp only[al]at hq;have q1:=au hq.1;have q2:=aT hq.2;subst q1;have ho:S.size<=off:=by simp_all
      have D:=sub1 (.mp (jQ id (3*j.toNat+2+(off-S.size)))) (by
       unfold DI;rw[b_ (by rw[bQ,bl];exact ho),bQ,bl];rcases cC (off-S.size) 1 with h3|h3
       .grind
       .rw[show off-S.size=1 from by omega];rfl)
      exact⟨_,_,_,_,_,A,fm.pure (k:=0) hinv hc hH (y0:=.mp (jQ id (3*j.toNat+2+(off-S.size)))) (rdl:=[pK id j]) (by simp only[dA,h1,xT,hg,D]) (cI rfl) hrd nofun⟩
     .cases A
  .cases A
 .rename_i id j s sz off hv;obtain⟨y,h1,h2⟩:=ba hi hv;simp only[bW,K9,ah]at h2;subst h2;split at A
  .rename_i ty T a xss hb;split at A
   .rename_i D;have D:=au D;subst D;obtain⟨hj,A⟩:=cG A;obtain⟨hji,A⟩:=cG A;split at A
    .rename_i v hv2;obtain⟨z,p1,p2⟩:=ahf hji hv2;have hne:l! (rx (T:=T) xss j)≠0:=by have:=(mY hji).2.2;omega
     have hg:H.get (jQ id (j.toNat+1))=Z ⟨ty,.fz ((rx (T:=T) xss j).flatMap (bD T))⟩:=by rw[hH];exact ac7 hb hj hne
     exact⟨_,_,_,_,_,A,fm.pure (k:=0) hinv hc hH (y0:=.f z) (rdl:=[jQ id (j.toNat+1)]) (by simp only[dA,h1,xT,hg,p2]) (cI p1) (λn hn=>by
      simp only[aE]at hn;subst hn;rw[iR];exact bn.2 rfl) nofun⟩
    .cases A
   .cases A
  .cases A
 .rename_i id s j off hv;obtain⟨y,h1,h2⟩:=ba hi hv;simp only[bW,ah]at h2;subst h2;split at A
  .rename_i hq;simp only[al,cR]at hq;obtain⟨⟨q1,q2⟩,q3,q4⟩:=hq;have q1:=au q1;have q3:=au q3;have q4:=au q4;subst q1 q2 q3 q4;have hrd:∀n∈[nm id],aK (gG id) (ow n)=J:=λn hn=>by
    simp only[aE]at hn;subst hn;rw[dh];exact bn.2 rfl
   split at A
   .rename_i ty a js hb;have L:=cG A;clear A;obtain⟨hj,A⟩:=L;have hlen:aj (α:=Int) js≠0:=by have:=(mY hj).2.2;omega
    have hg:H.get (nm id)=Z ⟨ty,.mx (gL (λj=>.P (pK a j) 0) js)⟩:=by
     rw[hH,bG,hb];simp only[aF,kJ,uw]
     grind
    have D:(BC.mx (gL (λj=>AV.P (pK a j) 0) js)).sub? (j.toNat*1+0) 1 af=Z (.P (pK a (sI js j)) 0):=by
     simp only[BC.sub?,BC.get,HU,dF];exact (bB (f:=λj:Int=>AV.P (pK a j) 0) (l:=js) (i:=j.toNat)).trans (eO (il λj=>AV.P (pK a j) 0) (VM hj))
    exact⟨_,_,_,_,_,A,fm.pure (k:=0) hinv hc hH (y0:=.P (pK a (sI js j)) 0) (rdl:=[nm id]) (by simp only[dA,h1,xT,hg,D]) (cI rfl) hrd nofun⟩
   .rename_i ty z a ls hb;have L:=cG A;clear A;obtain⟨hj,A⟩:=L;have hg:H.get (nm id)=Z ⟨ty,.mx (lX a z 0 ls)⟩:=by
     rw[hH,bG,hb];rfl
    have D:(BC.mx (lX a z 0 ls)).sub? (j.toNat*1+0) 1 af=Z (uL a j.toNat z (sI ls j).toNat):=by
     simp only[BC.sub?,BC.get,HU,dF];have:=yN a z ls 0 j.toNat;rw[bX]at this;refine this.trans ?_;exact eO (il λl:Int=>uL a j.toNat z l.toNat) (VM hj)
    exact⟨_,_,_,_,_,A,fm.pure (k:=0) hinv hc hH (y0:=uL a j.toNat z (sI ls j).toNat) (rdl:=[nm id]) (by simp only[dA,h1,xT,hg,D]) (cI rfl) hrd nofun⟩
   .cases A
  .cases A
 .cases A
def azk {sz:Operand} (hc:cL P o.op=Z (.jf i c sz)) (z:pB bY e h nx K (.jf i c sz)=Z r):i_ P o b e h nx K r:=by
 simp only[pB]at z;split at z
 .rename_i id k j hv L;split at z
  .rename_i p s n hr;split at z
   .rename_i D;simp only[al]at D;have D:=au D.1;let⟨A,z⟩:=cG z;let⟨y,h1,h2⟩:=ba hi hv;let⟨y2,h3,h4⟩:=ba hi L;simp[bW,ah]at h4;subst h4;let⟨j0,j1,j2⟩:=mY A;have hne:¬((p&&n==0)=J):=by grind
    simp only[bW,hr,dw,av hne,ah]at h2;subst h2;have hc1:(s==i&&db 0 j&&gD j n)=J:=by
     simp[dL,al]at A;simp[D,A.1,A.2]
    exact i_.q (k:=0) hinv hc (λH _=>by simp[dA,h1,h3,gu,hc1,bk,dF]) (cI rfl) z
   .cases z
  .cases z
 .rename_i id j s n k i' hv L;split at z
  .rename_i D;have D:=au D;let⟨A,z⟩:=cG z;let⟨y,h1,h2⟩:=ba hi hv;let⟨y2,h3,h4⟩:=ba hi L;simp[bW,ah]at h4;subst h4;let⟨j0,j1,j2⟩:=mY A;have hne:¬((n==0)=J):=by grind
   simp only[bW,K9,uL,av hne,ah]at h2;subst h2;have hc1:(s==i&&db 0 i'&&gD i' n)=J:=by
    simp[dL,al]at A;simp[D,A.1,A.2]
   exact i_.q (k:=0) hinv hc (λH _=>by simp[dA,h1,h3,gu,hc1,bk,K9,dF]) (cI rfl) z
  .cases z
 .cases z
def azi {ok:Bool} {k:Operand} (hc:cL P o.op=Z (.jg b ok v c k)) (A:pB bY e h nx K (.jg b ok v c k)=Z r):i_ P o af e h nx K r:=by
 let⟨H,hH⟩:=gI h;simp only[pB]at A;split at A
 .rename_i id j str D hv hv2;split at A
  .rename_i ty S a xs zb hb;split at A
   .rename_i hq;simp only[al,cR]at hq;let⟨q1,L⟩:=hq;subst q1;have L:=aT L;have hk0:=cG A;let⟨hj,A⟩:=hk0;let⟨y,h1,h2⟩:=ba hi hv;let⟨y2,h3,h4⟩:=ba hi hv2;simp[bW,K9,ah]at h2 h4;subst h2 h4;generalize hm:sP str (dX S xs j)=m at A;have hg:H.get (jQ id (3*j.toNat+2+str))=Z ⟨0,.mp (Ik m)⟩:=by rw[hH,<-hm];exact aqy hb hj L
    have hf:tR (.int .i64 D) (Ik m)=Z ((JB (K:=.int .i64) (V:=.bool) D m).map λz=>.f (.raw (.bool z))):=MF (str:=af) (K:=.int .i64) (V:=.bool) rfl D m;have henc:gu (.int .i64) D= .raw (.int .i64 D):=rfl;rw[henc]at h3;refine ⟨_,_,_,_,_,A,fm.pure (k:=0) hinv hc hH (y0:=pkV ok (.f (.raw (.bool (Bt (K:=.int .i64) (V:=.bool) D m zb)))) (aed (K:=.int .i64) (V:=.bool) D m)) (rdl:=[jQ id (3*j.toNat+2+str)]) ?_ (λy hy=>by rw[ai3 (y:=.f (.raw (.bool (Bt (K:=.int .i64) (V:=.bool) D m zb)))) rfl]at hy;cases hy;exact Le.refl _) (λn hn=>by
     simp[aE]at hn;subst hn;rw[iR];exact bn.2 rfl) nofun⟩
    simp[dA,h1,h3,hg,za,bk,hf];unfold Bt aed;cases hfm:JB (K:=.int .i64) (V:=.bool) D m with
    |_=>rfl
   .cases A
  .cases A
 .cases A
def azj {k:Operand} (hc:cL P o.op=Z (.lkq i2 v c k)) (A:pB bY e h nx K (.lkq i2 v c k)=Z r):i_ P o af e h nx K r:=by
 let⟨H,hH⟩:=gI h;simp[pB]at A;split at A
 .rename_i id kv hv hkv;let⟨tk,D,hkk⟩:=bind_some hkv;let⟨ka,kb⟩:=kv;split at A
  .rename_i a es hb;let⟨y,h1,h2⟩:=ba hi hv;let⟨y2,h3,h4⟩:=ba hi D;simp[bW,ah]at h2;subst h2;have hq:=S4 hkk h4;have hg:H.get (nm id)=Z ⟨0,.mp (w7 a es)⟩:=by rw[hH,bG,hb];rfl
   have hf:=U7 a (ka,kb) es;have hrd:∀n∈[nm id],aK (gG id) (ow n)=J:=λn hn=>by
    simp[aE]at hn;subst hn;rw[dh];exact bn.2 rfl
   rcases lQ A with ⟨hh,A⟩|⟨hh,A⟩
   .rw[hh]at hf;exact⟨_,_,_,_,_,A,fm.pure (k:=0) hinv hc hH (y0:=.P (pK a (eC (ka,kb) es)) 0) (rdl:=[nm id]) (by simp[dA,h1,h3,aF,hq,hg,hf]) (cI rfl) hrd nofun⟩
   .rw[hh]at hf;exact⟨_,_,_,_,_,A,fm.pure (k:=0) hinv hc hH (y0:=raw (.pointer U)) (rdl:=[nm id]) (by simp[dA,h1,h3,aF,hq,hg,hf]) (cI rfl) hrd nofun⟩
  .cases A
 .cases A
def azm {k:Operand} (hc:cL P o.op=Z (.dlq i2 c k)) (z:pB bY e h nx K (.dlq i2 c k)=Z r):i_ P o af e h nx K r:=by
 let⟨H,hH⟩:=gI h;simp only[pB]at z;split at z
 .rename_i id kv hv hkv;let⟨tk,A,hkk⟩:=bind_some hkv;let⟨ka,L⟩:=kv;split at z
  .rename_i a es hb;let⟨y,h1,h2⟩:=ba hi hv;let⟨y2,h3,h4⟩:=ba hi A;simp[bW,ah]at h2;subst h2;have hq:=S4 hkk h4;have hg:H.get (nm id)=Z ⟨0,.mp (w7 a es)⟩:=by rw[hH,bG,hb];rfl
   have hf:=aba a (ka,L) es;have hrd:∀n∈[nm id],aK (gG id) (ow n)=J:=λn hn=>by
    simp[aE]at hn;subst hn;rw[dh];exact bn.2 rfl
   refine ⟨_,_,_,_,_,z,fm.wrt (m:=0) (v:=.qb []) (rd:=gG id) (k:=0) (y0:=.qb []) (rdl:=[nm id]) (b0:=⟨0,.mp (w7 a (DJ (ka,L) es))⟩) hinv hc hH (by simp[dA,h1,h3,aF,hq,hg,hf]) hb (dI.zero h) (by simp) rfl (λ_ _ he=>by cases he) (λH1 H2 d g b' D=>?_) (λH1 H2 y d g hy=>?_) hrd⟩
   .cases D;exact gw.refl d _
   .simp[bW,cJ,ah]at hy;subst hy;exact kz.refl d _
  .cases z
 .cases z
def azh {k v:Operand} (hc:cL P o.op=Z (.mpq i2 c k v)) (z:pB bY e h nx K (.mpq i2 c k v)=Z r):i_ P o af e h nx K r:=by
 let⟨H,hH⟩:=gI h;simp only[pB]at z;split at z
 .rename_i id kv p hv hkv hvp;let⟨tk,A,hkk⟩:=bind_some hkv;let⟨ka,L⟩:=kv;split at z
  .rename_i a es hb;let⟨y,h1,h2⟩:=ba hi hv;let⟨y2,h3,h4⟩:=ba hi A;let⟨y3,h5,h6⟩:=ba hi hvp;simp[bW,ah]at h2 h6;subst h2 h6;have hq:=S4 hkk h4;have hg:H.get (nm id)=Z ⟨0,.mp (w7 a es)⟩:=by rw[hH,bG,hb];rfl
   have hf:=ab9 a (ka,L) (.P (nm p) 0) es;have hrd:∀n∈[nm id],aK (gG id) (ow n)=J:=λn hn=>by
    simp[aE]at hn;subst hn;rw[dh];exact bn.2 rfl
   refine ⟨_,_,_,_,_,z,fm.wrt (m:=0) (v:=.undef) (rd:=gG id) (k:=0) (y0:=raw undef) (rdl:=[nm id]) (b0:=⟨0,.mp (ND a (ka,L) (.P (nm p) 0) es)⟩) hinv hc hH (by simp[dA,h1,h3,h5,aF,hq,hg,hf]) hb (dI.zero h) (by simp) rfl (λ_ _ he=>by cases he) (λH1 H2 d g b' D=>?_) (λH1 H2 y d g hy=>?_) hrd⟩
   .cases D;exact gw.refl d _
   .simp[bW,ah]at hy;subst hy;exact kz.refl d _
  .cases z
 .cases z
end ops
def fm.wrtM {o:Oper} {e:h_} {s:UI} (hinv:g_ h i) (hc:cL T o.op=Z s) {a:ny} (hH:a.get=erHF h) {km:Nat} {y0:AV} {rdl:ι} {b0:kH} {k:Nat} (ha:dA s (DV e h) a k=Z ⟨y0,rdl,[jQ j (km+1)],[(jQ j (km+1),b0)],[]⟩) {B0 B:e9} (z:h.get j=Z B0) {v:TV} {rd:Nat}
 (hrow:iM B=iM B0) (hB:∀ty l,B≠ .G ty l) (hB0:∀ty l,B0≠ .G ty l) (hanc:∀h2,kJ h2 B=kJ h B0) (hoth:∀k',k'≠km->wX j k' B=wX j k' B0)
 (hblk:∀D A,rA D A->∀b',wX j km B=Z b'->gw D A b0 b')
 (hval:∀D A y,rA D A->bW (h.set j (Z B)) v=Z y->kz D A y0 y)
 (hrd:∀n∈rdl,aK rd (ow n)=J):fm T o af e h i v rd (0|||gG j) (h.set j (Z B)) i:=by
 have L:bV h (h.set j (Z B)):=bV.set λr L=>by rw[bx,z]at L;rw[hrow];exact L
 refine fm.mk' hc hH ha [jQ j (km+1)] (λnx hi=>hi) (λn hn=>?_) (λnx hi b' hb'=>⟨b0,by rw[aD hi];simp[aE]at hi;subst hi;exact eY _ _⟩) (λD A d hw1 _ hw2=>⟨λnx hi b b' hb hb2=>?_,λy hy=>hval D A y d hy⟩) hrd (λn hn=>?_) (by simp) L (hinv.set L (hinv.low j B0 z) (bJ _) λty l he=>cq he (hB ty l)) (bJ _)
 .by_cases ho:ow n=j
  .unfold erHF;rw[ho,PT.get_set,aD rfl,z];cases hk:ix n with
   |zero=>exact hanc _
   |succ k'=>
    refine hoth k' λe=>hn ?_
    rw[<- kZ n,ho,hk,e];simp
  .unfold erHF;rw[PT.get_set,av ho];cases hx:h.get (ow n) with
   |none=>rfl
   |some b=>exact mF L (λty l e=>hinv.G _ _ l (by rw[hx,e])) _ _
 .simp[aE]at hi;subst hi;rw[hw1 _ (by simp),eY]at hb;rw[hw2 _ (by simp),kR,PT.get_set,aD rfl]at hb2
  grind
 .simp[aE]at hn;subst hn;rw[iR,wS];exact bn.2 rfl
def Ro {xs:Y (C6 K)} {n:Nat} {A:C6 K} (hf:∀o,xs[n]? =Z o->j/3=n->wJ i j s K A=wJ i j s K o):rm i j s K (xs.set n A)=rm i j s K xs:=by
 unfold rm
 grind
def Ww {xs:Y (C6 K)} {n:Nat} {A:C6 K} (D:j/3=n) (L:n<l! xs):rm i j s K (xs.set n A)=Z (wJ i j s K A):=by
 unfold rm
 grind
def IK {ty:TypeId} {T:Ty} {xss:Y (Y T.den)} {xs:Y T.den} (A:i≠j):rk i ty T (xss.set j xs)=rk i ty T xss:=by
 unfold rk
 grind
def Nx {ty:TypeId} {T:Ty} {xss:Y (Y T.den)} {xs:Y T.den} (z:i<l! xss):rk i ty T (xss.set i xs)=Zx ty T xs:=by
 unfold rk
 grind
def Um (h:ey i j=J):i<j:=aT h
def aiu {c:Nat} (h:i=j) (z:c<j):c<i:=by omega
def lD (a sz:Nat):∀(z:η) (k:Nat),l! (lX a sz k z)=l! z
 |[],_=>rfl
 |l::r,k=>by simp[lX,kn,lD a sz r]
def Vf {z:HF} (d:rA S z):∀n,gZ S z ((repl [.slice U 0 0] n).map .f) (aC n .emp)
 |0=>trivial
 |n+1=>⟨Le.nilEmp.toH d,Vf d n⟩
section ops
variable {R:Type} {P:Program} {bY:TypeId->M Ty} {o:Oper} {e:h_} {h:aX} {nx:Nat} {K:KO R} {r:R} (hinv:g_ h nx) (hi:sN e h)
include hinv hi
def azg {k v:Operand} (hc:cL P o.op=Z (.jk b c k v)) (A:pB bY e h nx K (.jk b c k v)=Z r):i_ P o af e h nx K r:=by
 let⟨H,hH⟩:=gI h;simp only[pB]at A;split at A
 .rename_i id j str L D hv hv2 hv3;split at A
  .rename_i ty S a xs hb;split at A
   .rename_i hq;simp only[al,cR]at hq;let⟨q1,q2⟩:=hq;subst q1;have q2:=Um q2;have hk0:=cG A;let⟨hj,A⟩:=hk0;let⟨y,h1,h2⟩:=ba hi hv;let⟨y2,h3,h4⟩:=ba hi hv2;let⟨y3,h5,h6⟩:=ba hi hv3;simp[bW,K9,ah]at h2 h4 h6;subst h2 h4 h6;have e1:3*j.toNat+2+str=3*j.toNat+1+str+1:=by omega
    let⟨_,_,hjl⟩:=mY hj;have hg:H.get (jQ id (3*j.toNat+2+str))=Z ⟨0,.mp (Ik (sP str (dX S xs j)))⟩:=by rw[hH];exact aqy hb hj q2
    rw[e1]at h1 hg;have hf:AE (.int .i64 L) (.f (.raw (.bool D))) (Ik (sP str (dX S xs j)))=Z (Ik (AB (K:=.int .i64) (V:=.bool) L D (sP str (dX S xs j)))):=SK (str:=af) (K:=.int .i64) (V:=.bool) rfl L D _;have henc:gu (.int .i64) L= .raw (.int .i64 L):=rfl;have henc2:gu .bool D= .raw (.bool D):=rfl;rw[henc]at h3;rw[henc2]at h5;refine ⟨_,_,_,_,_,A,fm.wrtM (km:=3*j.toNat+1+str) (v:=.undef) (rd:=gG id) (k:=0) (y0:=raw undef) (rdl:=[jQ id (3*j.toNat+1+str+1)]) (b0:=⟨0,.mp (Ik (AB (K:=.int .i64) (V:=.bool) L D (sP str (dX S xs j))))⟩) hinv hc hH (by simp[dA,h1,h3,h5,hg,za,bk,hf]) hb rfl (λ_ _ he=>by cases he) (λ_ _ he=>by cases he) (λ_=>rfl) (λk' hk'=>?_) (λH1 H2 d b' z=>?_) (λH1 H2 y d hy=>?_) (λn hn=>?_)⟩
    .refine Ro λo' ho' hn=>?_
     rw[Di (S:=S) hj,ah]at ho';subst ho';unfold wJ;by_cases m0:k'%3=0
     .rw[aD m0,aD m0];cases str<;>rfl
     .rw[av m0,av m0];by_cases m1:k'%3=1
      .rw[aD m1,aD m1];cases str with
       |zero=>exact cq (by omega) hk'
       |succ str=>rfl
      .rw[av m1,av m1];cases str with
       |zero=>rfl
       |succ str=>exact cq (by omega) hk'
    .have z:rm id (3*j.toNat+1+str) ty S (sH xs j.toNat (vV str (dX S xs j) (AB (K:=.int .i64) (V:=.bool) L D (sP str (dX S xs j)))))=Z b':=z;rw[Ww (by omega) hjl]at z;have:wJ id (3*j.toNat+1+str) ty S (vV str (dX S xs j) (AB (K:=.int .i64) (V:=.bool) L D (sP str (dX S xs j))))=⟨0,.mp (Ik (AB (K:=.int .i64) (V:=.bool) L D (sP str (dX S xs j))))⟩:=by
      unfold wJ;rw[av (by omega)];cases str with
      |zero=>rw[aD (by omega)];rfl
      |succ str=>rw[av (by omega)];rfl
     rw[this,ah]at z;subst z;exact gw.refl d _
    .simp[bW,ah]at hy;subst hy;exact kz.refl d _
    .simp[aE]at hn;subst hn;rw[iR];exact bn.2 rfl
   .cases A
  .cases A
 .cases A
def aqe {v:Operand} (hc:cL P o.op=Z (.store i c v)) (A:pB bY e h nx K (.store i c v)=Z r):i_ P o af e h nx K r:=by
 let⟨H,hH⟩:=gI h;simp only[pB]at A;split at A
 .rename_i id j off y hv hv2;let⟨yb,h1,h2⟩:=ba hi hv;let⟨L,h3,h4⟩:=ba hi hv2;simp only[bW,K9,ah]at h2;subst h2;split at A
  .rename_i ty S a xs hb;have hk0:=cG A;clear A;let⟨hj,A⟩:=hk0;let⟨_,_,hjl⟩:=mY hj;split at A
   .rename_i z m hset;split at A
    .rename_i hm0;have hm0:=au hm0;subst hm0;have hg:H.get (pK id j)=Z ⟨ty,.mx (DI id S j (dX S xs j))⟩:=by rw[hH];exact aqz hb hj
     have hso:∀H1 H2,rA H1 H2->RX H1 H2 L S (dX S xs j).1 z off i:=λH1 H2 d=>t_ d h4 40 S _ off i z 0 hset Fu.zero
     have hcell:=oA h4 40 S _ off i z 0 hset;let⟨fs0,q1,q2,q3,_,_⟩:=hso _ _ (rA.refl (erHF h));have hlen:L.cs.length=i:=by rw[<- q2,<-bQ (f:=AV.f),q1.length]
     have hput:(BC.mx (DI id S j (dX S xs j))).put off L.cs=Z (.mx (AI.splice (DI id S j (dX S xs j)) off L.cs)):=by
      unfold BC.put;rw[aD]
      .rfl
      .simp only[al];refine ⟨⟨rfl,a_ ?_⟩,hcell⟩;simp only[BC.len,DI,bK,bQ,bl];omega
     have ha0:dA (.store i c v) (DV e h) H 0=Z ⟨raw undef,[pK id j],[pK id j],[(pK id j,⟨ty,.mx (AI.splice (DI id S j (dX S xs j)) off L.cs)⟩)],[]⟩:=by
      simp only[dA,h1,h3,C4,hg,hlen,ch,bk,hput]
     refine ⟨_,_,_,_,_,A,fm.wrtM (km:=3*j.toNat) (v:=.undef) (rd:=gG id) hinv hc hH ha0 hb rfl (λ_ _ he=>by cases he) (λ_ _ he=>by cases he) (λ_=>rfl) (λk' hk'=>?_) (λH1 H2 d b' D=>?_) (λH1 H2 y d hy=>?_) (λn hn=>?_)⟩
     .refine Ro λo' ho' hn=>?_
      rw[Di (S:=S) hj,ah]at ho';subst ho';have k0:k'%3≠0:=by omega
      unfold wJ;rw[av k0,av k0]
     .have D:rm id (3*j.toNat) ty S (sH xs j.toNat (z,(dX S xs j).2))=Z b':=D;rw[Ww (by omega) hjl]at D;have:wJ id (3*j.toNat) ty S (z,(dX S xs j).2)=⟨ty,.mx (DI id S j (z,(dX S xs j).2))⟩:=by
       unfold wJ;rw[aD (by omega)];rfl
      rw[this,ah]at D;subst D;let⟨fs,p1,p2,p3,p4,p5⟩:=hso H1 H2 d;refine gw.G rfl rfl ?_ λc hx=>?_
      .simp only[BC.toMx];have e2:DI id S j (z,(dX S xs j).2)=AI.splice (DI id S j (dX S xs j)) off (fs.map .f):=by
        unfold DI;rw[p4];unfold AI.splice;rw[sV (by rw[bQ,bl];omega),List.drop_append_of_le_length (by rw[bQ,bQ,bl];omega)];simp[gO,Aj]
       rw[e2];exact (gZ.refl d _).splice _ p1
      .simp only[BC.toMx,DI,bL]at hx;rcases hx with hx|hx
       .obtain⟨q,hq,rfl⟩:=cr.1 hx;have:∀q∈([z]:Y S.den).flatMap (bD S),q.isCell=J:=mD S [z];exact this q (by simpa using hq)
       .simp only[aV,b7,fk]at hx;rcases hx with rfl|rfl<;>rfl
     .simp only[bW,ah]at hy;subst hy;exact kz.refl d _
     .simp only[aE]at hn;subst hn;unfold pK;rw[iR];exact bn.2 rfl
    .cases A
   .cases A
  .cases A
 .rename_i id j s sz off y hv hv2;let⟨yb,h1,h2⟩:=ba hi hv;let⟨L,h3,h4⟩:=ba hi hv2;simp only[bW,K9,ah]at h2;subst h2;split at A
  .rename_i ty T a xss hb;split at A
   .rename_i hs;have hs:=au hs;subst hs;let⟨hj,A⟩:=cG A;let⟨hji,A⟩:=cG A;let⟨_,_,hjl⟩:=mY hj;split at A
    .rename_i z m hset;split at A
     .rename_i hm0;have hm0:=au hm0;subst hm0;generalize hxs:rx (T:=T) xss j=xs at*
      let⟨i0,i1,i2⟩:=mY hji;have hne:xs.length≠0:=by omega
      have hg:H.get (jQ id (j.toNat+1))=Z ⟨ty,.fz (xs.flatMap (bD T))⟩:=by rw[hH,<-hxs];exact ac7 hb hj (by rw[hxs];exact hne)
      have fl:=eE (bl T) xs;have hx:xs[sz.toNat]? =Z (geti _ xs sz):=by
       unfold geti;rw[aw,aG i2];rfl
      have hle:(sz.toNat+1)*T.size<=xs.length*T.size:=cH _ i2;rw[jT]at hle;have hso:∀H1 H2,rA H1 H2->RX H1 H2 L T (geti _ xs sz) z off i:=λH1 H2 d=>t_ d h4 40 T _ off i z 0 hset Fu.zero
      have hcell:=oA h4 40 T _ off i z 0 hset;let⟨fs0,q1,q2,q3,_,_⟩:=hso _ _ (rA.refl (erHF h));have hlen:L.cs.length=i:=by rw[<- q2,<-bQ (f:=AV.f),q1.length]
      obtain⟨c',hput,hc1,hc2⟩:∃c',(BC.fz (xs.flatMap (bD T))).put (sz.toNat*T.size+off) L.cs=Z c'/\c'.toMx=AI.splice ((xs.flatMap (bD T)).map .f) (sz.toNat*T.size+off) L.cs/\c'.isCells=J:=by
       unfold BC.put;rw[aD]
       .split
        next l ys hl hys=>simp only[BC.fz.injEq]at hl;subst hl;refine ⟨_,rfl,?_,rfl⟩;rw[nR hys];simp only[BC.toMx];unfold AI.splice;simp[gO,Aj]
        .exact⟨_,rfl,rfl,rfl⟩
       .simp only[al];exact⟨⟨rfl,a_ (by simp only[BC.len];omega)⟩,hcell⟩
      have ha0:dA (.store i c v) (DV e h) H 0=Z ⟨raw undef,[jQ id (j.toNat+1)],[jQ id (j.toNat+1)],[(jQ id (j.toNat+1),⟨ty,c'⟩)],[]⟩:=by
       simp only[dA,h1,h3,C4,hg,hlen,ch,bk,hput]
      refine ⟨_,_,_,_,_,A,fm.wrtM (km:=j.toNat) (v:=.undef) (rd:=gG id) hinv hc hH ha0 hb rfl (λ_ _ he=>by cases he) (λ_ _ he=>by cases he) (λ_=>rfl) (λk' hk'=>IK hk') (λH1 H2 d b' D=>?_) (λH1 H2 y d hy=>?_) (λn hn=>?_)⟩
      .have D:rk j.toNat ty T (sH xss j.toNat (cg xs sz z))=Z b':=D;rw[Nx hjl]at D;unfold Zx at D;have hl2:(cg xs sz z).length=xs.length:=by unfold cg;rw[dt]
       rw[av (by simp only[cY];omega),ah]at D;subst D;let⟨fs,p1,p2,p3,p4,p5⟩:=hso H1 H2 d;have hfl:(cg xs sz z).flatMap (bD T)=AI.splice (xs.flatMap (bD T)) (sz.toNat*T.size+off) fs:=Ns (bl T) xs sz.toNat _ z hx off fs (by omega) p4;refine gw.G hc2 rfl ?_ λc hx=>?_
       .rw[hc1];simp only[BC.toMx];rw[hfl];have:(AI.splice (xs.flatMap (bD T)) (sz.toNat*T.size+off) fs).map AV.f=AI.splice ((xs.flatMap (bD T)).map .f) (sz.toNat*T.size+off) (fs.map .f):=by unfold AI.splice;simp[gO,Aj]
        rw[this];exact (gZ.refl d _).splice _ p1
       .simp only[BC.toMx]at hx;obtain⟨q,hq,rfl⟩:=cr.1 hx;exact mD T _ q hq
      .simp only[bW,ah]at hy;subst hy;exact kz.refl d _
      .simp only[aE]at hn;subst hn;rw[iR];exact bn.2 rfl
     .cases A
    .cases A
   .cases A
  .cases A
 .rename_i id s j off rr hv hv2;let⟨yb,h1,h2⟩:=ba hi hv;let⟨L,h3,h4⟩:=ba hi hv2;simp only[bW,ah]at h2;subst h2;split at A
  .rename_i hq;simp only[al]at hq;let⟨q1,q2,q3⟩:=hq;have q1:=au q1;have q2:=au q2;have q3:=au q3;subst q1 q2 q3;split at A
   .rename_i ty z a ls ty2 p T xs hb hb2;split at A
    .rename_i hz;have hz:=au hz;subst hz;have hk0:=cG A;clear A;let⟨hj,A⟩:=hk0;have hk0:=cG A;clear A;let⟨hp,A⟩:=hk0;let⟨_,_,hjl⟩:=mY hj;have hyy:L=dw J rr T.size xs.length:=by
      simp only[bW,bx,hb2,aF,iM,ah]at h4;rw[<- h4];cases p with
      |true=>rfl
      |false=>
       have hp:(!(ax (aj xs) 0))=J:=hp;have hp:aj xs≠0:=λe=>by rw[e]at hp;cases hp
       unfold dw;rw[av (by simp),av (by simpa using hp)]
     have hg:H.get (nm id)=Z ⟨ty,.mx (lX a T.size 0 ls)⟩:=by rw[hH,bG,hb];rfl
     have hcs:L.cs=[L]:=by rw[hyy];unfold dw;split<;>rfl
     have hcell:L.isCell=J:=by rw[hyy];unfold dw;split<;>rfl
     have hput:(BC.mx (lX a T.size 0 ls)).put (j.toNat*1+0) L.cs=Z (.mx (AI.splice (lX a T.size 0 ls) j.toNat [L])):=by
      rw[hcs,HU,dF];unfold BC.put;rw[aD]
      .rfl
      .simp only[al,gE,hcell,and_true];refine ⟨rfl,a_ ?_⟩;have hl:(lX a T.size 0 ls).length=aj (α:=Int) ls:=lD a T.size ls 0;show j.toNat+1<=(lX a T.size 0 ls).length;rw[hl];exact hjl
     have hlen:L.cs.length=1:=by rw[hcs];rfl
     have ha0:dA (.store 1 c v) (DV e h) H 0=Z ⟨raw undef,[nm id],[nm id],[(nm id,⟨ty,.mx (AI.splice (lX a T.size 0 ls) j.toNat [L])⟩)],[]⟩:=by
      simp only[dA,h1,h3,C4,hg,hlen,ch,bk,hput]
     refine ⟨_,_,_,_,_,A,fm.wrt (m:=0) (v:=.undef) (rd:=gG id) hinv hc hH ha0 hb (dI.zero h) (by simp) rfl (λ_ _ he=>by cases he) (λH1 H2 d g b' D=>?_) (λH1 H2 y d g hy=>?_) (λn hn=>?_)⟩
     .cases D;have hl:(lX a T.size 0 ls).length=aj (α:=Int) ls:=lD a T.size ls 0;rw[Yy (aiu hl hjl),hyy];exact gw.refl d _
     .simp only[bW,ah]at hy;subst hy;exact kz.refl d _
     .simp only[aE]at hn;subst hn;rw[dh];exact bn.2 rfl
    .cases A
   .cases A
  .cases A
 .cases A
def fm.app1 {s:UI} (hc:cL P o.op=Z s) {a:ny} (hH:a.get=erHF h) {k n0:Nat} {y0:AV} {rdl:ι} {b0:kH} (ha:dA s (DV e h) a k=Z ⟨y0,rdl,[nm nx,n0],[(nm nx,b0)],[nm nx]⟩) {h':aX} 
 (hsame:∀n,n≠nm nx->n≠n0->erHF h' n=erHF h n) (hne:nm nx≠n0) (hdead:erHF h' n0=U) (hnew:erHF h' (nm nx)=Z N) (hblk:∀A z,rA A z->gw A z b0 N) (hval:∀A z y,rA A z->bW h' u=Z y->kz A z y0 y)
 (hrd:∀n∈rdl,aK i (ow n)=J) (hwr:aK j (ow n0)=J) (hwn:aK j nx=J) (hrows:bV h h') (hinv':g_ h' (nx+1)):fm P o af e h nx u i j h' (nx+1):=by
 have _:=hinv;have _:=hi;refine fm.mk' hc hH ha [nm nx,n0] (λrd hi=>hi) (λn D=>?_) (λrd hi b' hb'=>?_) (λA z d hw1 _ hw2=>⟨λrd hi b b' hb1 hb2=>?_,λy hy=>hval A z y d hy⟩) hrd (λn D=>?_) (λn D=>by simp[aE]at D;subst D;rw[dh];omega) hrows hinv' (by omega)
 .grind
 .simp[aV,b7,fk]at hi;rcases hi with rfl|rfl
  .exact⟨_,by rw[aD (by simp)];exact eY _ _⟩
  .grind
 .simp[aV,b7,fk]at hi;rcases hi with rfl|rfl
  .rw[hw1 _ (by simp),eY]at hb1
   grind
  .grind
 .simp[aV,b7,fk]at D;rcases D with rfl|rfl
  .rw[dh];exact hwn
  .exact hwr
def fm.app0 {s:UI} (hc:cL P o.op=Z s) {a:ny} (hH:a.get=erHF h) {k:Nat} {y0:AV} {rdl:ι} {b0:kH} (ha:dA s (DV e h) a k=Z ⟨y0,rdl,[nm nx],[(nm nx,b0)],[nm nx]⟩) {h':aX} 
 (hsame:∀n,n≠nm nx->erHF h' n=erHF h n) (hnew:erHF h' (nm nx)=Z N) (hblk:∀A z,rA A z->gw A z b0 N) (hval:∀A z y,rA A z->bW h' u=Z y->kz A z y0 y)
 (hrd:∀n∈rdl,aK i (ow n)=J) (hwn:aK j nx=J) (hrows:bV h h') (hinv':g_ h' (nx+1)):fm P o af e h nx u i j h' (nx+1):=by
 have _:=hinv;have _:=hi;refine fm.mk' hc hH ha [nm nx] (λrd hi=>hi) (λn D=>?_) (λrd hi b' hb'=>?_) (λA z d L _ hw2=>⟨λrd hi b b' hb1 hb2=>?_,λy hy=>hval A z y d hy⟩) hrd (λn D=>?_) (λn D=>by simp[aE]at D;subst D;rw[dh];omega) hrows hinv' (by omega)
 .grind
 .simp[aE]at hi;subst hi;exact⟨_,by rw[aD (by simp)];exact eY _ _⟩
 .simp[aE]at hi;subst hi;rw[L _ (by simp),eY]at hb1
  grind
 .simp[aE]at D;subst D;rw[dh];exact hwn
def azn {ty:Operand} (hc:cL P o.op=Z (.app s i j ty c)) (z:pB bY e h nx K (.app s i j ty c)=Z r):i_ P o af e h nx K r:=by
 let⟨H,hH⟩:=gI h;have hfr:=hinv.fresh;simp only[pB]at z;split at z
 .rename_i id id2 hv hv2;let⟨yb,h1,h2⟩:=ba hi hv;let⟨yy,h3,h4⟩:=ba hi hv2;simp only[bW,ah]at h4;subst h4;split at z
  .rename_i ty' a D tyc a' bytes hb hb2;split at z
   .rename_i hq;simp only[al,cR]at hq;let⟨⟨q1,q2⟩,q3,q4⟩:=hq;have q1:=au q1;have q2:=eq_of_beq q2;have q3:=au q3;have q4:id≠id2:=λe=>by rw[e,fV]at q4;cases q4
    subst q1 q2 q3;have hk0:=cG z;clear z;let⟨hroom,z⟩:=hk0;have hrow:=acy hH hb2 (l':=[.P (pK a bytes) 0]) rfl (n:=1) (sz:=1) rfl;have hidlt:=hinv.low id _ hb;have hne:nx≠id:=by omega
    have hroom:bc (aj (α:=Int) D+1) j=J:=hroom;simp only[bW,bx,hb,aF,iM,sk,ah]at h2;generalize hh':(h.set id (Z (.qj J 1 (aj (α:=Int) D)))).set nx (Z (.Q (.qn s) a (sW (α:=Int) D [bytes])))=h' at z;have A:∀sz,h'.get sz=if sz=nx then Z (.Q (.qn s) a (sW (α:=Int) D [bytes])) else if sz=id then Z (.qj J 1 (aj (α:=Int) D)) else h.get sz:=λsz=>by rw[<- hh',PT.get_set,PT.get_set]
    have hr:bV h h':=λsz r hi=>by
     rw[bx]at hi ⊢;rw[A];by_cases e1:sz=nx
     .rw[e1,hfr]at hi;cases hi
     .rw[av e1];by_cases e2:sz=id
      .rw[aD e2];rw[e2,hb]at hi;exact hi
      .rw[av e2];exact hi
    have hinv':g_ h' (nx+1):=by
     refine ⟨λsz s l hil=>?_,λsz x hic=>?_⟩
     .rw[A]at hil;split at hil
      .cases hil
      .split at hil
       .cases hil
       .exact fy hr l (hinv.G sz _ l hil)
     .rw[A]at hic;split at hic
      .omega
      .split at hic
       .omega
       .have:=hinv.low sz x hic;omega
    have hsame:∀n,n≠nm nx->n≠nm id->erHF h' n=erHF h n:=λn e1 e2=>by
     unfold erHF;rw[A (ow n)];by_cases f1:ow n=nx
     .rw[aD f1,f1,hfr];simp only[aF,Option.bind_none];cases hx:ix n with
      |zero=>exact cq (by rw[pn hx,f1]) e1
      |succ k=>rfl
     .rw[av f1];by_cases f2:ow n=id
      .rw[aD f2,f2,hb];simp only[aF];cases hx:ix n with
       |zero=>exact cq (by rw[pn hx,f2]) e2
       |succ k=>rfl
      .rw[av f2];cases hx:h.get (ow n) with
       |none=>rfl
       |some b=>exact mF hr (λs l e=>hinv.G _ _ l (by rw[hx,e])) _ _
    have hdead:erHF h' (nm id)=U:=by rw[bG,A,av (by omega),aD rfl];rfl
    have hl2:aj (α:=Int) (sW (α:=Int) D [bytes])=aj (α:=Int) D+1:=by
     exact (λ(a b:η)=>(bK:(a++b).length=a.length+b.length)) D [bytes]
    have hnew:erHF h' (nm nx)=Z ⟨s,.mx (gL (λbytes=>.P (pK a bytes) 0) D++[.P (pK a bytes) 0])⟩:=by
     rw[bG,A,aD rfl];simp only[aF,kJ,uw];rw[av (by simp only[cY];omega)];have:gL (λbytes=>AV.P (pK a bytes) 0) (sW (α:=Int) D [bytes])=gL (λbytes=>AV.P (pK a bytes) 0) D++[.P (pK a bytes) 0]:=by
      exact cD (f:=λbytes:Int=>AV.P (pK a bytes) 0) (l₁:=(D:η)) (l₂:=[bytes])
     rw[this]
    have hval:bW h' (.I nx)=Z (.I (nm nx) 1 (aj (α:=Int) D+1)):=by
     simp only[bW,bx,A,bk,aF,iM,sk,dw,hl2];rw[av (by simp)]
    have hblk:∀H1 H2,rA H1 H2->gw H1 H2 ⟨s,ov (gL (λbytes=>.P (pK a bytes) 0) D++[.P (pK a bytes) 0])⟩ ⟨s,.mx (gL (λbytes=>.P (pK a bytes) 0) D++[.P (pK a bytes) 0])⟩:=λH1 H2 d=>by
     let⟨p1,p2⟩:=nO (gL (λbytes=>AV.P (pK a bytes) 0) D++[.P (pK a bytes) 0]);exact gw.eq d p2 rfl p1
    have w1:aK (gG id|||gG nx) nx=J:=by rw[bu,bn.2 (rfl:nx=nx)];simp
    have hrd:∀n∈[nm id2],aK (gG id|||gG id2) (ow n)=J:=λn L=>by
     simp only[aE]at L;subst L;rw[dh,bu,bn.2 (rfl:id2=id2)];simp
    refine ⟨_,_,_,_,_,z,?_⟩;by_cases hz:aj (α:=Int) D=0
    .have hyb:yb= .emp:=by rw[<- h2];unfold dw;rw[hz];rfl
     subst hyb;have hnil:D=[]:=dj.1 hz;subst hnil;have hroom:bc 1 j=J:=hroom;refine fm.app0 hinv hi hc hH (k:=nm nx) (y0:=.I (nm nx) 1 1) (rdl:=[nm id2]) (b0:=⟨s,ov [.P (pK a bytes) 0]⟩) (by simp only[dA,h1,h3,hrow];simp[Fe,hroom]) (λn L=>?_) hnew (hblk) (λH1 H2 y d hy=>by rw[hval]at hy;cases hy;exact kz.refl d _) hrd w1 hr hinv';by_cases e2:n=nm id
     .subst e2;rw[hdead,bG,hb];rfl
     .exact hsame n L e2
    .have hyb:yb= .I (nm id) 1 (aj (α:=Int) D):=by
      rw[<- h2];unfold dw;rw[av (by simpa using hz)]
     subst hyb;have hg:H.get (nm id)=Z ⟨s,.mx (gL (λbytes=>.P (pK a bytes) 0) D)⟩:=by
      rw[hH,bG,hb];simp only[aF,kJ,uw];rw[av (by simpa using hz)]
     have hmm:mem (nm id) [nm id2]=af:=by
      cases hx:mem (nm id) [nm id2] with
      |false=>rfl
      |true=>
       have:=ais.1 hx;simp only[aE]at this;exact cq (uM this) q4
     refine fm.app1 hinv hi hc hH (k:=nm nx) (n0:=nm id) (y0:=.I (nm nx) 1 (aj (α:=Int) D+1)) (rdl:=[nm id,nm id2]) (b0:=⟨s,ov (gL (λbytes=>.P (pK a bytes) 0) D++[.P (pK a bytes) 0])⟩) ?_ hsame (λe=>hne (uM e)) hdead hnew hblk (λH1 H2 y d hy=>by rw[hval]at hy;cases hy;exact kz.refl d _) (λn L=>?_) (by rw[dh,bu,bn.2 (rfl:id=id)];rfl) w1 hr hinv'
     .have hlen:(gL (λbytes=>AV.P (pK a bytes) 0) D).length=aj (α:=Int) D:=bQ ..;simp only[dA,h1,h3,hrow,hg];rw[aD (by
       simp only[ch,fo,Bool.and_true,BC.isCells,BC.len,hroom,al,cR];exact⟨hmm,a_ (by omega)⟩)]
      simp only[BC.toMx,gB (show (gL (λbytes=>AV.P (pK a bytes) 0) D).length<=aj (α:=Int) D*1 by omega)]
     .rcases aV.1 L with rfl|L
      .rw[dh,bu,bn.2 (rfl:id=id)];rfl
      .exact hrd n L
   .cases z
  .cases z
 .rename_i id bytes sb n y hv hv2;let⟨yb,h1,h2⟩:=ba hi hv;let⟨yy,h3,h4⟩:=ba hi hv2;simp only[bW,K9,ah]at h2;split at z
  .rename_i ty' T a xss hb;split at z
   .rename_i hq;simp only[al]at hq;let⟨q1,q2,q3⟩:=hq;have q1:=au q1;have q2:=au q2;have q3:=eq_of_beq q3;subst q1 q2 q3;have hk0:=cG z;clear z;let⟨hj,z⟩:=hk0;split at z
    .rename_i ys m hys;split at z
     .cases z
     .rename_i hmid;have hmid:aK m id=af:=by simpa using hmid
      have hk0:=cG z;clear z;let⟨hqq,z⟩:=hk0;simp only[al]at hqq;let⟨L,hroom⟩:=hqq;have L:=au L;let⟨rdl,h5,h6⟩:=Sr hH hys h4;generalize hxs:rx (T:=T) xss bytes=xs at*
      have hidlt:=hinv.low id _ hb;have hne:nx≠id:=by omega
      let⟨_,_,hjl⟩:=mY hj;generalize hh':(h.set id (Z (.Q (.ir s T) a (vT (T:=T) xss bytes [])))).set nx (Z (.H s J T (xs++ys)))=h' at z;have A:∀sz,h'.get sz=if sz=nx then Z (.H s J T (xs++ys)) else if sz=id then Z (.Q (.ir s T) a (vT (T:=T) xss bytes [])) else h.get sz:=λsz=>by rw[<- hh',PT.get_set,PT.get_set]
      have hr:bV h h':=λsz r hi=>by
       rw[bx]at hi ⊢;rw[A];by_cases e1:sz=nx
       .rw[e1,hfr]at hi;cases hi
       .rw[av e1];by_cases e2:sz=id
        .rw[aD e2];rw[e2,hb]at hi;exact hi
        .rw[av e2];exact hi
      have hinv':g_ h' (nx+1):=by
       refine ⟨λsz s l hil=>?_,λsz x hic=>?_⟩
       .rw[A]at hil;split at hil
        .cases hil
        .split at hil
         .cases hil
         .exact fy hr l (hinv.G sz _ l hil)
       .rw[A]at hic;split at hic
        .omega
        .split at hic
         .omega
         .have:=hinv.low sz x hic;omega
      have hsame:∀n,n≠nm nx->n≠jQ id (bytes.toNat+1)->erHF h' n=erHF h n:=λn e1 e2=>by
       unfold erHF;rw[A (ow n)];by_cases f1:ow n=nx
       .rw[aD f1,f1,hfr];simp only[aF,Option.bind_none];cases hx:ix n with
        |zero=>exact cq (by rw[pn hx,f1]) e1
        |succ k=>rfl
       .rw[av f1];by_cases f2:ow n=id
        .rw[aD f2,f2,hb];simp only[aF];cases hx:ix n with
         |zero=>rfl
         |succ k=>
          refine IK (T:=T) λe3=>?_
          exact e2 (by rw[<- kZ n,hx,f2,e3])
        .rw[av f2];cases hx:h.get (ow n) with
         |none=>rfl
         |some b=>exact mF hr (λs l e=>hinv.G _ _ l (by rw[hx,e])) _ _
      have hdead:erHF h' (jQ id (bytes.toNat+1))=U:=by
       rw[kR,A,av (by omega),aD rfl];exact Nx (T:=T) hjl
      have hnew:erHF h' (nm nx)=if (xs++ys).length==0 then U else Z ⟨s,.fz ((xs++ys).flatMap (bD T))⟩:=by
       rw[bG,A,aD rfl];rfl
      have hval:bW h' (.I nx)=Z (dw J nx T.size (xs++ys).length):=by
       simp only[bW,bx,A,bk,aF,iM]
      have w1:aK (gG id|||gG nx) nx=J:=by rw[bu,bn.2 (rfl:nx=nx)];simp
      have hrd:∀n∈rdl,aK (gG id|||m) (ow n)=J:=λn L=>by
       obtain⟨sz,rfl,hm⟩:=h6 n L;rw[dh,bu,hm];simp
      refine ⟨_,_,_,_,_,z,?_⟩;by_cases hz:n=0
      .subst hz;have hyb:yb= .emp:=by rw[<- h2];rfl
       subst hyb;have hnil:xs=[]:=dj.1 L.symm;have hold:erHF h (jQ id (bytes.toNat+1))=U:=by
        rw[kR,hb];show rk bytes.toNat s T xss=U;unfold rk;rw[Vj hj,hxs,hnil];rfl
       have hsame0:∀n,n≠nm nx->erHF h' n=erHF h n:=λn L=>by
        by_cases e2:n=jQ id (bytes.toNat+1)
        .subst e2;rw[hdead,hold]
        .exact hsame n L e2
       rw[bX]at hroom;rw[hnil,lq]at hnew hval;have ha0:dA (.app s T.size j ty c) (DV e h) H (nm nx)=if aj ys==0 then Z ⟨.emp,rdl,[],[],[]⟩ else Z ⟨.I (nm nx) T.size (aj ys),rdl,[nm nx],[(nm nx,⟨s,ov ((ys.flatMap (bD T)).map .f)⟩)],[nm nx]⟩:=by
        simp only[dA,h1,h3,h5,Fe,hroom,fw,bk]
       by_cases hl:aj ys=0
       .rw[hl]at ha0;simp only[ch,bk]at ha0;have hnil2:ys=[]:=dj.1 hl;refine fm.mk' hc hH ha0 [] (by simp) (λn _=>?_) (by simp) (λH1 H2 d _ _ _=>⟨by simp,λy hy=>?_⟩) hrd (by simp) (by simp) hr hinv' (by omega)
        .by_cases e1:n=nm nx
         .subst e1;rw[hnew,hnil2,bG,hfr];rfl
         .exact hsame0 n e1
        .rw[hval,hnil2]at hy;cases hy;exact kz.refl d _
       .rw[av (by simpa using hl),wu]at ha0;rw[av (by simpa using hl)]at hnew;refine fm.app0 hinv hi hc hH ha0 hsame0 hnew (λH1 H2 d=>gw.refl d _) (λH1 H2 y d hy=>?_) hrd w1 hr hinv';rw[hval]at hy;unfold dw at hy;rw[av (by simpa using hl)]at hy;cases hy;exact kz.refl d _
      .have hyb:yb= .I (jQ id (bytes.toNat+1)) T.size n:=by rw[<- h2];unfold uL;rw[av (by simpa using hz)]
       subst hyb;have hg:H.get (jQ id (bytes.toNat+1))=Z ⟨s,.fz (xs.flatMap (bD T))⟩:=by rw[hH,<-hxs];exact ac7 hb hj (by rw[hxs];omega)
       have fl:=eE (bl T) xs;have tk:(xs.flatMap (bD T)).take (n*T.size)=xs.flatMap (bD T):=by rw[L,<-fl,cM]
       have hmem:mem (jQ id (bytes.toNat+1)) rdl=af:=by
        cases hx:mem (jQ id (bytes.toNat+1)) rdl with
        |false=>rfl
        |true=>
         let⟨sz,e,hm⟩:=h6 _ (ais.1 hx);have:=(vp e).2;omega
       have ha0:dA (.app s T.size j ty c) (DV e h) H (nm nx)=Z ⟨.I (nm nx) T.size (n+ys.length),jQ id (bytes.toNat+1)::rdl,[nm nx,jQ id (bytes.toNat+1)],[(nm nx,⟨s,.fz ((xs++ys).flatMap (bD T))⟩)],[nm nx]⟩:=by
        have hcnd:(T.size==T.size&& !(mem (jQ id (bytes.toNat+1)) rdl)&&(BC.fz (xs.flatMap (bD T))).isCells&&dN (n*T.size) (BC.fz (xs.flatMap (bD T))).len&&s==s&&bc (n+ys.length) j)=J:=by
         have:dN (n*T.size) (BC.fz (xs.flatMap (bD T))).len=J:=a_ (by simp only[BC.len];rw[L];omega);rw[this,hmem,hroom];simp[BC.isCells]
        simp only[dA,h1,h3,h5,hg,hcnd,bk,BC.toMx,<-gO,tk,<-cD,wu,yB]
       have hl3:(xs++ys).length=n+ys.length:=by rw[bK,L]
       rw[av (by simp only[cY];omega)]at hnew;refine fm.app1 hinv hi hc hH ha0 hsame (λe=>by have:=(vp e).2;omega) hdead hnew (λH1 H2 d=>gw.refl d _) (λH1 H2 y d hy=>?_) (λn' hn'=>?_) (by rw[iR,bu,bn.2 (rfl:id=id)];rfl) w1 hr hinv'
       .rw[hval,hl3]at hy;unfold dw at hy;rw[av (by simp only[fo,cY];omega)]at hy;cases hy;exact kz.refl d _
       .rcases aV.1 hn' with rfl|hn'
        .rw[iR,bu,bn.2 (rfl:id=id)];rfl
        .exact hrd _ hn'
    .cases z
   .cases z
  .cases z
 .rename_i b id bytes sb n _ hv hv2;let⟨yb,h1,h2⟩:=ba hi hv;let⟨yy,h3,h4⟩:=ba hi hv2;simp only[bW,K9,ah]at h4;split at z
  .rename_i tyi T a xss hb;split at z
   .rename_i hq;simp only[al]at hq;let⟨q1,q2⟩:=hq;have q1:=au q1;have q2:=au q2;subst q1 q2;have hk0:=cG z;clear z;let⟨hj,z⟩:=hk0;have hk0:=cG z;clear z;let⟨L,z⟩:=hk0;have L:=au L;generalize hxs:rx (T:=T) xss bytes=xs at*
    by_cases hz:n=0
    .have hyy:yy= .emp:=by rw[<- h4];unfold uL;rw[aD (by simpa using hz)]
     have hnil:xs=[]:=dj.1 (by omega);subst hyy hnil;exact Up hinv hi hH (rdl:=[]) hc h1 h2 h3 rfl (by simp) z
    .have hyy:yy= .I (jQ id (bytes.toNat+1)) T.size n:=by rw[<- h4];unfold uL;rw[av (by simpa using hz)]
     subst hyy;have hg:H.get (jQ id (bytes.toNat+1))=Z ⟨tyi,.fz (xs.flatMap (bD T))⟩:=by rw[hH,<-hxs];exact ac7 hb hj (by rw[hxs];omega)
     have fl:=eE (bl T) xs;have tk:(xs.flatMap (bD T)).take (n*T.size)=xs.flatMap (bD T):=by rw[L,<-fl,cM]
     have hb2:dN (n*T.size) (xs.flatMap (bD T)).length=J:=a_ (by rw[L];omega);refine Up hinv hi hH (rdl:=[jQ id (bytes.toNat+1)]) hc h1 h2 h3 ?_ (λq hq=>by simp only[aE]at hq;subst hq;rw[iR];exact bn.2 rfl) z;simp only[AV.row?,ch,bk,hg,BC.isCells,fo,BC.len,hb2,BC.toMx];rw[<- gO,tk,L]
   .cases z
  .cases z
 .cases z
def avs {l:Operand} (hc:cL P o.op=Z (.zm s i j L l c)) (A:pB bY e h nx K (.zm s i j L l c)=Z r):i_ P o af e h nx K r:=by
 let⟨H,hH⟩:=gI h;have hfr:=hinv.fresh;simp only[pB]at A;split at A
 .rename_i q T k a k' b hty hv hv2;split at A
  .rename_i hq;simp only[al]at hq;let⟨q1,q2⟩:=hq;have q1:=au q1;subst q1;have hz:L=[.slice U 0 0]:=by
    unfold aj2 at q2
    grind
   subst hz;let⟨hcond,A⟩:=cG A;let⟨y,h1,h2⟩:=ba hi hv;let⟨y2,h3,h4⟩:=ba hi hv2;simp[bW,ah]at h2 h4;subst h2 h4;generalize hn:aN a=n at A;have ha0:dA (.zm s 1 j [.slice U 0 0] l c) (DV e h) H (nm nx)=Z ⟨.I (nm nx) 1 n,[],[nm nx],[(nm nx,⟨s,.fz (repl [.slice U 0 0] n)⟩)],[nm nx]⟩:=by
    simp[dA,h1,h3,gu,hcond,bk,hn]
   generalize hh':(h.set nx (Z (.Q (.rr s T.size) (nx+1) (aC n (0:Int))))).set (nx+1) (Z (.Q (.ir (stN q) T) 0 (aC n ([]:Y T.den))))=h' at A;have hg:∀sz,h'.get sz=if sz=nx+1 then Z (.Q (.ir (stN q) T) 0 (aC n ([]:Y T.den))) else if sz=nx then Z (.Q (.rr s T.size) (nx+1) (aC n (0:Int))) else h.get sz:=λsz=>by
    rw[<- hh',PT.get_set,PT.get_set]
   have hfr2:h.get (nx+1)=U:=by
    cases D:h.get (nx+1) with
    |none=>rfl
    |some b=>have:=hinv.low _ b D;omega
   have hr:bV h h':=λsz r hi=>by
    rw[bx]at hi ⊢
    grind
   have hl:aj (α:=Int) (aC n (0:Int))=n:=cP ..;have hall:∀(m k:Nat),lX (nx+1) T.size k (aC m (0:Int))=aC m .emp:=λm=>by
    induction m with
    |zero=>intro k;rfl
    |succ m ih=>intro k;rw[yz,yz];simp[lX,ih];rfl
   have hnew:erHF h' (nm nx)=Z ⟨s,.mx (aC n .emp)⟩:=by
    rw[bG,hg,av (by omega),aD rfl];show Z (kH.mk s (.mx (lX (nx+1) T.size 0 (aC n (0:Int)))))=_;rw[hall]
   refine ⟨_,_,_,_,_,A,fm.mk' hc hH ha0 [nm nx] (λsz hi=>hi) (λm hm=>?_) (λsz hi b' hb'=>?_) (λH1 H2 d hw1 _ hw2=>⟨λsz hi b b' hb1 z=>?_,λy hy=>?_⟩) (by simp) (λm hm=>?_) (λm hm=>?_) hr ⟨λsz s l hil=>?_,λsz c' hic=>?_⟩ (by omega)⟩
   .have hm:m≠nm nx:=by simpa using hm
    unfold erHF;rw[hg];by_cases f0:ow m=nx+1
    .rw[aD f0,f0,hfr2];cases ix m with
     |zero=>rfl
     |succ k=>
      show rk k (stN q) T (aC n ([]:Y T.den))=U;unfold rk;rw[dk];split<;>rfl
    .rw[av f0];by_cases f1:ow m=nx
     .rw[aD f1,f1,hfr];cases D:ix m with
      |zero=>exact cq (by rw[pn D,f1]) hm
      |succ k=>rfl
     .rw[av f1];cases D:h.get (ow m) with
      |none=>rfl
      |some b=>exact mF hr (λs l e=>hinv.G _ _ l (by rw[D,e])) _ _
   .simp[aE]at hi;subst hi;exact⟨_,by rw[aD (by simp)];exact eY _ _⟩
   .simp[aE]at hi;subst hi;rw[hw1 _ (by simp),eY]at hb1;rw[hw2 _ (by simp),hnew]at z;simp[ah]at hb1 z;subst hb1 z;refine gw.G rfl rfl ?_ λx D=>?_
    .simp[BC.toMx];exact Vf d n
    .simp only[BC.toMx]at D;rw[List.mem_replicate]at D;rw[D.2];rfl
   .simp only[bW,bx,hg,bk]at hy;rw[av (by omega)]at hy;simp only[aF,iM,sk,dw,jN,cQ,dE,ah]at hy;subst hy;rw[hl];exact kz.refl d _
   .simp[aE]at hm;subst hm;rw[dh];exact bn.2 rfl
   .simp[aE]at hm;subst hm;rw[dh];omega
   .rw[hg]at hil;split at hil
    .cases hil
    .split at hil
     .cases hil
     .exact fy hr l (hinv.G sz _ l hil)
   .rw[hg]at hic;split at hic
    .omega
    .split at hic
     .omega
     .have:=hinv.low sz c' hic;omega
  .cases A
 .cases A
end ops
mutual
def FV.fl:FV->Bool
 |.raw _=>J
 |.agg l=>FV.flL l
 |.sl _ _=>af
 |.P _ _=>af
def FV.flL:Y FV->Bool
 |[]=>J
 |x::r=>x.fl&&FV.flL r
end
def aci:∀{l:Y FV},FV.flL l=J->∀x∈l,x.fl=J
 |[],_,x,z=>by cases z
 |y::l,h,x,z=>by
  simp[FV.flL,al]at h;rcases aV.1 z with rfl|z
  .exact h.1
  .exact aci h.2 x z
def ajw:∀{l:Y FV},(∀x∈l,x.fl=J)->FV.flL l=J
 |[],_=>rfl
 |y::l,h=>by simp[FV.flL,al];exact⟨h y (by simp),ajw λx z=>h x (by grind)⟩
def nu.flat {O':Nat->Prop} {w':World} {x:FV} (h:nu O w x v):x.fl=J->nu O' w' x v:=by
 induction h with
 |raw v=>intro _;exact .raw v
 |agg cells vs hl hcl D z=>intro h;exact .agg cells vs hl hcl λj x v A hv=>z j x v A hv (aci h x (a8 A))
 |_=>intro h;cases h
mutual
def AV.fl:AV->Bool
 |.f x=>x.fl
 |.emp=>J
 |.qw=>J
 |.agg l|.qb l=>AV.flL l
 |.P _ _=>af
 |.sl _ _ _=>af
 |.I _ _ _=>af
 |.mp _=>af
 |.qy _ l=>AV.flL l
 |.qc _ _=>af
def AV.flL:Y AV->Bool
 |[]=>J
 |x::r=>x.fl&&AV.flL r
end
def HE:∀{l:Y AV},AV.flL l=J->∀x∈l,x.fl=J
 |[],_,x,z=>by cases z
 |y::l,h,x,z=>by
  simp[AV.flL,al]at h;rcases aV.1 z with rfl|z
  .exact h.1
  .exact HE h.2 x z
def adc:∀{l:Y AV},(∀x∈l,x.fl=J)->AV.flL l=J
 |[],_=>rfl
 |y::l,h=>by simp[AV.flL,al];exact⟨h y (by simp),adc λx z=>h x (by grind)⟩
def cf.flat {φ':PM} {O':Nat->Prop} {w':World} (h:cf V O w y v):y.fl=J->cf φ' O' w' y v:=by
 induction h with
 |f h=>intro hf;exact .f (h.flat hf)
 |emp=>intro _;exact .emp
 |qw=>intro _;exact .qw
 |agg L hcl hr A=>intro hf;exact .agg L hcl λj y v z D=>A j y v z D (HE hf y (a8 z))
 |qb L hr A=>intro hf;exact .qb L λj y v z D=>A j y v z D (HE hf y (a8 z))
 |qy L hr A=>intro hf;exact .qy L λj y v z D=>A j y v z D (HE hf y (a8 z))
 |_=>intro hf;cases hf
mutual
def atd (γ:Nat->Nat):∀x:AV,x.fl=J->x.qx γ=x
 |.f x,_|.emp,_|.qw,_=>rfl
 |.agg l,h|.qb l,h=>by simp[AV.qx];rw[GW γ l h]
 |.P _ _,h|.sl _ _ _,h|.qc _ _,h|.I _ _ _,h|.mp _,h=>by cases h
 |.qy _ l,h=>by simp[AV.qx];rw[GW γ l h]
def GW (γ:Nat->Nat):∀l:Y AV,AV.flL l=J->AV.renL γ l=l
 |[],_=>rfl
 |x::r,h=>by
  simp[AV.flL,al]at h;rw[AV.renL,atd γ x h.1,GW γ r h.2]
end
def Dt:∀(T:Ty),T.flat=J->∀x:T.den,∀y∈bD T x,y.fl=J
 |.int _,_,x,y,z|.bool,_,x,y,z|.str,_,x,y,z=>by simp[bD,aE]at z;subst z;rfl
 |.sl _,h,x,y,z=>by cases h
 |.st t,h,x,y,z=>Dt t h x y z
 |.pr a b,h,x,y,z=>by
  simp[Ty.flat,al]at h;simp[bD,bL]at z;exact z.elim (Dt a h.1 x.1 y) (Dt b h.2 x.2 y)
 |.un,_,x,y,z=>by simp[bD]at z
 |.ex,h,_,_,_|.sm,h,_,_,_=>by cases h
def aoo (T:Ty) (h:T.flat=J) (x:T.den):(gu T x).fl=J:=by
 cases z:T.one with
 |true=>
  have:=Dt T h x (gu T x) (by rw[(NL T x z).1];simp);exact this
 |false=>rw[sq T x z];exact ajw (Dt T h x)
def UW (a b:Ty):(spr a b).flat=(a.flat&&b.flat):=by
 cases a<;>cases b<;>simp[spr,KH,Ty.flat]
def MN :∀{a b:Y TV},ry i (a++b)=J->ry i a=J/\ry i b=J
 |[],b,h=>⟨rfl,h⟩
 |x::r,b,h=>by
  simp[gP,ry,al]at h ⊢;let⟨h1,z⟩:=MN h.2;exact⟨⟨h.1,h1⟩,z⟩
def abf {z:Y q!} (h:ry 0 (z.map λp=>.P (g p.1) p.2)=J):z=[]:=by
 cases z with
 |nil=>rfl
 |cons p r=>simp[ry,JD]at h
mutual
def an8 {g:Nat->Nat} {h:aX}:∀(p:PV) (x:p.ty.den) (cs:Y TV) (l:Y AV),p.ty.flat=J->nS g p x=Z cs->ry 0 cs=J->cJ h cs=Z l->∀y∈l,y.fl=J
 |.d T,x,cs,l,hf,hp,_,hl,y,hy=>by
  have:=(ng h 40 T x cs hp).1;rw[hl]at this;cases this;obtain⟨q,hq,rfl⟩:=cr.1 hy;exact Dt T hf x q hq
 |.P i q,x,cs,l,hf,hp,hlt,hl,y,hy|.qg i q z,x,cs,l,hf,hp,hlt,hl,y,hy=>by
  simp only[nS,ah]at hp;subst hp;simp[ry,JD]at hlt
 |.qy q ps,x,cs,l,hf,hp,hlt,hl,y,hy=>by
  simp only[nS,ah]at hp;subst hp;simp only[ry,JD,al]at hlt;have:=abf hlt.1;subst this;simp only[cJ,bW,C',ah]at hl;subst hl;rw[aE]at hy;subst hy;rfl
 |.ob i q,x,cs,l,hf,hp,hlt,hl,y,hy|.nr i q,x,cs,l,hf,hp,hlt,hl,y,hy|.I i,x,cs,l,hf,hp,hlt,hl,y,hy|.mp i,x,cs,l,hf,hp,hlt,hl,y,hy=>by
  simp only[nS,ah]at hp;subst hp;simp[ry,JD]at hlt
 |.nil,x,cs,l,hf,hp,hlt,hl,y,hy|.emp,x,cs,l,hf,hp,hlt,hl,y,hy=>by
  simp only[nS,ah]at hp;subst hp;simp only[cJ,bW,ah]at hl;subst hl;simp only[aE]at hy;subst hy;rfl
 |.agg ps,x,cs,l,hf,hp,hlt,hl,y,hy=>Mk ps x cs l hf hp hlt hl y hy
def Mk {g:Nat->Nat} {h:aX}:∀(ps:Y PV) (x:(PV.tyL ps).den) (cs:Y TV) (l:Y AV),(PV.tyL ps).flat=J->sO g ps x=Z cs->ry 0 cs=J->cJ h cs=Z l->∀y∈l,y.fl=J
 |[],x,cs,l,hf,hp,hlt,hl,y,hy=>by
  simp only[sO,ah]at hp;subst hp;simp only[cJ,ah]at hl;subst hl;cases hy
 |p::ps,x,cs,l,hf,hp,hlt,hl,y,hy=>by
  simp only[PV.tyL]at hf;rw[UW,al]at hf;simp only[sO]at hp;split at hp
  .rename_i a ha;split at hp
   .rename_i b hb;cases hp;obtain⟨a',b',rfl,e1,e2⟩:=Fm hl;have hsp:=MN hlt;rcases bL.1 hy with hy|hy
    .exact an8 p _ a a' hf.1 ha hsp.1 e1 y hy
    .exact Mk ps _ b b' hf.2 hb hsp.2 e2 y hy
   .cases hp
  .cases hp
end
def an6 {p:PV} {x:p.ty.den} (hf:p.ty.flat=J) (hp:rE g p x=Z u) (hlt:JD 0 u=J) (A:bW h u=Z y):y.fl=J:=by
 cases p with
 |d T=>
  simp only[rE,ah]at hp;subst hp;simp only[bW,ah]at A;subst A;exact aoo T hf x
 |agg L=>
  simp only[rE]at hp;split at hp
  .rename_i l hl;cases hp;simp only[bW]at A;split at A
   next l' D=>cases A;exact adc (Mk L _ l l' hf hl hlt D)
   .cases A
  .cases hp
 |qy q L=>
  simp only[rE,ah]at hp;subst hp;have:=abf hlt;subst this;simp only[bW,cJ,C',ah]at A;subst A;rfl
 |nil|emp=>simp only[rE,ah]at hp;subst hp;simp only[bW,ah]at A;subst A;rfl
 |_=>simp only[rE,ah]at hp;subst hp;simp[JD]at hlt
def Vm :∀(A:Y PV) (x:(PV.tyL A).den) (z:Y TV) (l:Y AV),(PV.tyL A).flat=J->rD g A x=Z z->ry 0 z=J->cJ h z=Z l->AV.flL l=J
 |[],x,z,l,hf,hp,hlt,D=>by
  simp[rD,ah]at hp;subst hp;simp[cJ,ah]at D;subst D;rfl
 |p::A,x,z,l,hf,hp,hlt,D=>by
  simp[PV.tyL]at hf;rw[UW,al]at hf;simp[rD]at hp;split at hp
  .rename_i a ha;split at hp
   next b hb=>simp[ah]at hp;subst hp;obtain⟨y,L,rfl,e1,e2⟩:=c4 D;simp[ry,al]at hlt;simp[AV.flL,al];exact⟨an6 hf.1 ha hlt.1 e1,Vm A _ b L hf.2 hb hlt.2 e2⟩
   .cases hp
  .cases hp
def amr:∀{l:Y AV},AV.flL l=J->(FK l).fl=J
 |[],_=>rfl
 |[x],h=>by simp only[AV.flL,al]at h;exact h.1
 |x::y::r,h=>h
def ap4 {o:Oper} {e:h_} {c:co} (hinv:g_ h i) (sp:ru T f c) {x:c.pre.ty.den} {l:Nat} {σ:PT Nat} (A:L2 0 c.pre m h x l σ j) {vs:Y TV} {hp:aX} {l1:Y (M e9)} (I:pD c.pre x vs hp l1) {y:c.post.ty.den} (hm:c.m x=Z y) {rs:Y TV} {hq:aX} {l2:Y (M e9)} (D:pD c.post y rs hq l2) (hp0:l! c.pre.bs=0) (hq0:l! c.post.bs=0) (hfl:(PV.tyL c.post.vs).flat=J)
 (g:Nat->Nat) (hla:cJ h m=Z r)
 (hexec:∀(φ:PM) (E:Nat->Prop) (h':HF) (w:World) (a:Act),(∀t,.tmp t∈o.op.operands->∀y,fU e h t=Z y->cf φ (tot E φ h') w y (a.tmps.getD t undef))->sC φ E h' w->∃us:ξ,(execOp a.eval o).run T w= .ok (.enter f us.toArray) w/\lV φ (tot E φ h') w r us):
 fm T o af e h i (Vd (lE g rs)) l 0 h i:=by
 let⟨x1,m1,x2,m2,hx,hmm,gv,gb⟩:=A.ex;have hmr:dI h l:=by rw[hmm];exact (Ts _ _ _ _ gv).or (Tt _ _ _ _ gb)
 have pvg:rD (iw σ) c.pre.vs x1=Z (lE (iw σ) vs):=by
  have h3:=vH (iw σ) c.pre.vs x1;have h4:=I.pv;rw[hx,vA]at h4;rw[h3,h4];rfl
 let⟨lr,hlr⟩:=fJ hq rs D.ok;let⟨lp,hlp⟩:=fJ hp vs I.ok;have hfl':AV.flL lr=J:=Vm c.post.vs _ rs lr hfl D.pv (by rw[<- hq0];exact D.lt) hlr;have hpe:∀nx,hp.get nx=U:=λnx=>by
  cases hb:hp.get nx with
  |none=>rfl
  |some b=>have:=I.lt_len hb;omega
 have hqe:∀nx,hq.get nx=U:=λnx=>by
  cases hb:hq.get nx with
  |none=>rfl
  |some b=>have:=D.lt_len hb;omega
 have rows_hp:∀nx la,eM hp nx=Z la->eM (dK l h) (iw σ nx)=Z la:=λnx la L=>by rw[bx,hpe]at L;cases L
 have rows_hq:∀nx la,eM hq nx=Z la->eM h (g nx)=Z la:=λnx la L=>by rw[bx,hqe]at L;cases L
 have rows_in:Bk (dK l h) h:=λsm la L=>by
  rw[bx]at L ⊢;rw[iV]at L;split at L
  next ht=>let⟨ty,p,P,xs,hb⟩:=hmr sm ht;rw[hb]at L ⊢;exact L
  .exact L
 have hOpT:gF T o (fU e h) (erHF h) ⟨FK lr,Jz l,[],λ_=>U,[]⟩:=by
  intro φ E h' w a hrd hwr hops hrep hN;let⟨us,hrun,hrel⟩:=hexec φ E h' w a hops hrep
  let Hv:HF:=λn=>if n∈Jz l then U else h' n
  have Hv_in:∀n,n∈Jz l->Hv n=U:=λn hn=>by grind
  have Hv_out:∀n,n∉Jz l->Hv n=h' n:=λn hn=>by grind
  have hd:rA h' Hv:=λn b hb=>by grind
  have gvv:Fu h h' Hv l:=λnx hi=>⟨hrd _ (mT.2 hi),Hv_in _ (mT.2 hi)⟩
  have V:O4 h' Hv:=⟨hd,λn b b' hb hb'=>by
   by_cases hn:n∈Jz l
   .grind
   .rw[Hv_out n hn,hb]at hb';cases hb';exact gw.refl hd b⟩
  have hrepv:=V.zq hrep;have hlpg:cJ (dK l h) (lE (iw σ) vs)=Z (AV.renL (pH (iw σ)) lp):=qB rows_hp vs lp hlp;have hrel1:lV φ (tot E φ Hv) w (AV.renL (pH (iw σ)) lp) us:=
   lV.le hrep (GR hd rows_in c.pre.vs m x1 m1 _ r _ gv pvg hla hlpg (λnx hi=>gvv nx (by grind))) hrel
  let E':Nat->Prop:=λk=>E k\/∃n b,Hv n=Z b/\φ n=Z k
  have P:apo c.pre x vs hp (iw σ) φ E E' Hv w:=by
   refine sC.toId I (λa b ha=>by omega) hrepv (λn yb hn=>by have:=(I.erHF hn).1;omega) ?_ (λn k y hn=>by have:=(I.erHF hn).1;omega) ?_
   .rintro k (hE|⟨n,b,h1,h3⟩)
    .exact .inl hE
    .exact .inr ⟨n,b,h1,h3⟩
   .rintro k (hE|⟨n,b,h1,h3⟩)
    .exact hrepv.el k hE
    .obtain⟨k',q1,_,ob,q3,_⟩:=hrepv.at_ n b h1
     grind
  have hcalls:=sp.calls x y hm vs hp l1 rs hq l2 lp lr I D hlp hlr (φ1 (l! c.pre.bs) (iw σ) φ) E' w us P.zq (lV.toId P.val (vx vs lp I.lt hlp) hrel1) (λn k hk=>(An hk).1);unfold Lx;rw[hrun];refine Calls.mono hcalls ?_;rintro en w' ⟨v,φc',rfl,hext,hown,hnm,rp,rv'⟩;have hno:∀k,¬own (φ1 (l! c.pre.bs) (iw σ) φ) (erHF hp) k:=by
   rintro k ⟨n,b,h1,_⟩;let⟨bb,h3,_⟩:=iW h1;rw[hpe]at h3;cases h3
  have mv:kl φ φ h' h' w w':=⟨λ_ _ h=>h,hext.mono λk hk=>cq hk (hno k),λ_ _ h=>h⟩
  refine ⟨v,φ,rfl,?_,λ_ _ h=>.inl h,?_,?_⟩
  .rw[vQ];exact mv
  .rw[vQ];refine hrep.moved mv λk hk=>?_
   let⟨n,b,h1,h3⟩:=hk;let⟨k',q1,_,ob,q3,_⟩:=hrep.at_ n b h1;rw[h3]at q1;cases q1;exact hext.jp k (dz.1 q3).1 (hno k)
  .exact rv'.flat (amr hfl')
 have hrsg:cJ h (lE g rs)=Z (AV.renL (pH g) lr):=qB rows_hq rs lr hlr;refine ⟨⟨_,hOpT,λz hz=>?_,?_,λn hn=>?_,by simp,by simp⟩,λ_ _ h=>h,hinv,bJ _,nofun⟩
 .rw[abb hrsg,GW _ lr hfl']at hz;cases hz;rfl
 .exact vQ _ _
 .obtain⟨nx,rfl,hi⟩:=o9.1 hn;rw[dh];exact hi
def co.full (c:co):co:=⟨c.pre,⟨c.post.vs,c.pre.bs⟩,λx=>aA (c.m x) λy=>Z (mkp (PV.tyL c.post.vs) (PB.tyL c.pre.bs) (UF _ _ y) (Sm _ _ x))⟩
def aJ (P:Program) (f:FuncId) (c:co):Prop:=if dN (l! c.pre.bs) (l! c.post.bs)=J then ru P f c else ru P f c.full
def ru.toC {c:co} (h:ru T f c) (z:dN (l! c.pre.bs) (l! c.post.bs)=J):aJ T f c:=by
 unfold aJ;rw[aD z];exact h
def aJ.holds {c:co} (h:aJ T f c) (z:dN (l! c.pre.bs) (l! c.post.bs)=J):ru T f c:=by
 unfold aJ at h;rw[aD z]at h;exact h
def anu (a b:Ty) (z:(spr a b).den):mkp a b (UF a b z) (Sm a b z)=z:=by cases a<;>cases b<;>rfl
open Classical in
def roM {pre:Tm} {vs:Y PV} (m:pre.ty.den->M (Tm.ty ⟨vs,pre.bs⟩).den) (x:pre.ty.den):M (Tm.ty ⟨vs,[]⟩).den:=
 aA (m x) λy=>if Sm (PV.tyL vs) (PB.tyL pre.bs) y=Sm _ _ x then Z (mkp (PV.tyL vs) (PB.tyL []) (UF (PV.tyL vs) (PB.tyL pre.bs) y) ()) else U
def aJ.ro {P:Program} {f:FuncId} {pre:Tm} {vs:Y PV} {m:pre.ty.den->M (Tm.ty ⟨vs,pre.bs⟩).den} {m':pre.ty.den->M (Tm.ty ⟨vs,[]⟩).den} (h:ru P f ⟨pre,⟨vs,pre.bs⟩,m⟩) (hb:dN (l! pre.bs) 0=af) (hs:∀x y,m' x=Z y->roM m x=Z y):aJ P f ⟨pre,⟨vs,[]⟩,m'⟩:=by
 unfold aJ;rw[av (by grind)];refine ⟨h.zg,λx y hxy=>?_⟩;refine h.calls x y ?_;let⟨z,L,hzy⟩:=dY hxy;have h1:=hs x z L;let⟨y0,hy0,D⟩:=dY h1;split at D
 .rename_i heq;have D:=fX D;have hzy:=fX hzy;subst D;have A:mkp (PV.tyL vs) (PB.tyL pre.bs) (UF (PV.tyL vs) (PB.tyL pre.bs) y0) (Sm (PV.tyL pre.vs) (PB.tyL pre.bs) x)=y:=(eO (λq=>mkp (PV.tyL vs) (PB.tyL pre.bs) q (Sm (PV.tyL pre.vs) (PB.tyL pre.bs) x)) (vA (PV.tyL vs) (PB.tyL []) _ ()).symm).trans hzy;rw[<- heq]at A;have:=(anu (PV.tyL vs) (PB.tyL pre.bs) y0).symm.trans A
  grind
 .cases D
def fm.drop {o:Oper} {e:h_} {h':aX} {rd wr W wr':Nat} (t:fm T o af e h i u rd wr h' j) (hW:∀nx,aK W nx=J->(∀n,ow n=nx->erHF h' n=erHF h n)/\aK rd nx=J) (hw:∀nx,aK wr nx=J->aK W nx=J\/aK wr' nx=J):fm T o af e h i u rd wr' h' j:=by
 let⟨⟨f,h1,h2,h3,h4,h5,L⟩,r,nx,g,st⟩:=t;have hup:∀b:HF,(∀n∈f.wr,b n=erHF h n)->fx b (f.wr.filter λn=> !(aK W (ow n))) f.nw=fx b f.wr f.nw:=λb hH=>by
  funext n;unfold fx;by_cases z:n∈f.wr
  .by_cases hb:aK W (ow n)=J
   .rw[av (by grind),aD z];have:=congrFun h3 n;unfold fx at this
    grind
   .grind
  .grind
 refine ⟨⟨⟨f.val,f.rd++(f.wr.filter λn=>aK W (ow n)),f.wr.filter λn=> !(aK W (ow n)),f.nw,f.N⟩,?_,h2,?_,λn z=>?_,λn z=>?_,L⟩,r,nx,g,nofun⟩
 .intro φ E b w a hrd hwr hops hrep D;have k1:∀nx∈f.rd,b nx=erHF h nx:=λnx hi=>hrd nx (io _ hi)
  have k2:∀nx∈f.wr,b nx=erHF h nx:=λnx hi=>by grind
  have:=h1 φ E b w a k1 k2 hops hrep D
  grind
 .grind
 .grind
 .grind
mutual
def aiv {n n':Nat} (hle:n<=n'):∀(v:TV),JD n v=J->JD n' v=J
 |.I id,h|.zh id _,h|.zj id _ _ _,h|.P id _,h|.qg id _ _,h|.mp id,h=>by simp[JD,Pj]at h ⊢;omega
 |.agg l,h|.qb l,h|.qy _ l,h=>y_ hle l h
 |.f _ _,_|.zf _ _ _ _ _,_|.emp,_|.nil,_|.undef,_|.np,_|.qw,_|.qc _ _,_=>rfl
 |.sb s,h=>by simp[JD,Pj]at h ⊢;omega
def y_ {n n':Nat} (hle:n<=n'):∀(l:Y TV),ry n l=J->ry n' l=J
 |[],_=>rfl
 |x::r,h=>by
  simp[ry,al]at h ⊢;exact⟨aiv hle x h.1,y_ hle r h.2⟩
end
def Rk {g g':Nat->Nat} {h:aX}:∀(bs:Y PB) (i:Nat) (x:(PB.tyL bs).den) (m:Nat),L1 bs=J->GV g h i bs=Z (x,m)->∃l,qT g' bs x=Z l/\l! l=l! bs/\∀j,j<l! bs->∃ty p T xs,l[j]? =Z (Z (.H ty p T xs))/\h.get (g (i+j))=Z (.H ty p T xs)
 |[],i,x,m,_,A=>⟨[],rfl,rfl,λj L=>by simp at L⟩
 |.H ty p T::r,i,x,m,D,A=>by
  simp[GV]at A;split at A
  .rename_i x1 m1 h1;split at A
   .rename_i x2 m2 h2;obtain⟨rfl,rfl⟩:=A;let⟨l,q1,q2,q3⟩:=Rk (g:=g) (g':=g') (h:=h) r (i+1) x2 m2 D h2;simp only[Fk]at h1;split at h1
    .rename_i ty' p' S xs hb;split at h1
     .rename_i hc;simp[al,cY]at hc;split at h1
      .rename_i z hz;let⟨es,ez⟩:=iO hz;refine ⟨Z (.H ty p T x1)::l,?_,by simp[q2],λj L=>?_⟩
       .simp[qT];rw[vA,xp,q1];rfl
       .grind
      .cases h1
     .cases h1
    .cases h1
   .cases A
  .cases A
 |.qp _ _::r,i,x,m,D,A|.G _ _::r,i,x,m,D,A|.mp _ _::r,i,x,m,D,A|.qf::r,i,x,m,D,A=>by cases D
def Jy:∀{bs:Y PB},L1 bs=J->E3 bs=J
 |[],_=>rfl
 |.H _ _ _::r,h=>Jy (bs:=r) h
 |.qp _ _::r,h|.G _ _::r,h|.mp _ _::r,h|.qf::r,h=>by cases h
def Jr {z:aX} :∀(n:Nat),(∀i,i<n->z.get (g i)=h.get (g i))->vS h z g n=J
 |0,_=>rfl
 |n+1,A=>by
  simp[vS,al];refine ⟨?_,Jr n λi hi=>A i (by omega)⟩;have:eM z (g n)=eM h (g n):=by rw[bx,bx,A n (by omega)]
  rw[this];cases eM h (g n) with
  |none=>rfl
  |some q=>let⟨p,s,k⟩:=q;simp
def HP (P:Program) (con:FuncId->M co):Prop:=∀f c,con f=Z c->aJ P (f%65536) c
def U1 (hf:f<65536):∀l:Y TV,an1 f l%65536=f
 |[]=>xh hf
 |x::r=>by
  have z:=U1 hf r;unfold an1;split
  next he=>cases he
  .rw[Nat.add_mul_mod_self_left];exact xh hf
  .rw[Nat.add_mul_mod_self_left];exact xh hf
  next he=>cases he;exact z
variable {X:FuncId->M co}
def ap1 (hcon:HP T X) {c:co} (h:atk X f m=Z c):aJ T f c:=by
 unfold atk at h;split at h
 .rename_i hf;have hf:=Um hf;split at h
  .rename_i A z;simp[ah]at h;subst h;have:=hcon _ _ z
   rwa [U1 hf]at this
  .have:=hcon _ _ h
   rwa [xh hf]at this
 .cases h
def ad3 (hcon:HP T X) {o:Oper} {e:h_} {K:KO R} {la:R} (hinv:g_ h i) (z:ad4 X f m h i K=Z la) (hla:cJ h m=Z r)
 (hexec:∀(φ:PM) (E:Nat->Prop) (h':HF) (w:World) (a:Act),HQ T f->(∀t,.tmp t∈o.op.operands->∀y,fU e h t=Z y->cf φ (tot E φ h') w y (a.tmps.getD t undef))->sC φ E h' w->∃us:ξ,(execOp a.eval o).run T w= .ok (.enter f us.toArray) w/\lV φ (tot E φ h') w r us):i_ T o af e h i K la:=by
 unfold ad4 at z;split at z
 .rename_i c hc;have spc:=ap1 hcon hc;split at z
  .rename_i x l σ sm hM;split at z
   .rename_i q hq;let⟨vs,hp⟩:=q;let⟨l1,I⟩:=zu hq;let⟨y,hy,z⟩:=dY z;split at z
    .rename_i q2 hq2;let⟨rs1,hq1⟩:=q2;let⟨l2,A⟩:=zu hq2;split at z
     .rename_i hcond;simp only[al]at hcond;have hle:=aT hcond.1;have sp:=spc.holds hcond.1;simp only at z;split at z
      .rename_i rs hrs;have hrs':=hrs;rw[vH,A.pv]at hrs';simp only[bh,ah]at hrs';split at z
       next hb=>simp only[al]at hb;have hq0:=au hb.1.2;refine ⟨_,_,_,_,_,z,?_⟩;rw[<- hrs'];exact ap4 hinv sp (yX hM) I hy A (by omega) hq0 hb.2 _ hla λφ E h' w a=>hexec φ E h' w a sp.zg
       .split at z
        .rename_i h2 L;let⟨hsr,z⟩:=cG z;refine ⟨_,_,_,_,_,z,?_⟩;rw[<- hrs'];unfold Q5 at L;rw[yO,A.pb]at L;simp only[bh,ah]at L;exact akw hinv sp (yX hM) I hcond.2 hy A hle (λnx hi=>by
          have:ey nx (l! c.pre.bs)=J:=a_ hi;simp only[this,bk]) (λnx hi=>by
          have:ey nx (l! c.pre.bs)=af:=by
           cases hb:ey nx (l! c.pre.bs) with
           |false=>rfl
           |true=>have:=aT hb;omega
          simp only[this];rfl) L.symm hsr hla λφ E h' w a=>hexec φ E h' w a sp.zg
        .cases z
      .cases z
     .rename_i hcond;split at z
      .rename_i hro;simp only[al]at hro;have hq0:=au hro.1;have hng:=Jy hro.2;have sp:ru T f c.full:=by
        unfold aJ at spc
        rwa [av (λhb=>hcond (by rw[hb,hng];rfl))]at spc
       simp only at z;split at z
       .rename_i rs hrs;split at z
        .rename_i h2 L;have hrs':=hrs;rw[vH,A.pv]at hrs';simp only[bh,ah]at hrs';refine ⟨_,_,_,_,_,z,?_⟩;rw[<- hrs'];have D:=yX hM;unfold Q5 at L;rw[yO,I.pb]at L;simp only[bh,ah]at L;have hqe:∀nx,hq1.get nx=U:=λnx=>by
          cases hb:hq1.get nx with
          |none=>rfl
          |some b=>have:=A.lt_len hb;omega
         have J':pD c.full.post (mkp (PV.tyL c.post.vs) (PB.tyL c.pre.bs) (UF _ _ y) (Sm _ _ x)) rs1 hp l1:=
          ⟨by show rD MX c.post.vs (UF (PV.tyL c.post.vs) (PB.tyL c.pre.bs) _)=_;rw[vA];exact A.pv,by show qT MX c.pre.bs (Sm (PV.tyL c.post.vs) (PB.tyL c.pre.bs) _)=_;rw[xp];exact I.pb,I.len,I.at_,fy (λnx la hr=>by rw[bx,hqe]at hr;cases hr) _ A.ok,y_ (by omega) _ A.lt,I.G,I.Q,I.nox⟩
         let⟨x1,m1,x2,m2,hx,hmm,gv,gb⟩:=D.ex;let⟨m,q1,q2,q3⟩:=Rk (g':=MX) c.pre.bs 0 x2 m2 hro.2 gb;have hl1:l1=m:=by
          have:=I.pb;rw[hx,xp,q1]at this;cases this;rfl
         subst hl1;have hgi:∀nx,nx<l! c.pre.bs->(if ey nx (l! c.pre.bs) then iw σ nx else i+(nx-l! c.pre.bs))=iw σ nx:=λnx hi=>by simp_all
         have hsame:∀nx,nx<l! c.pre.bs->h2.get (iw σ nx)=h.get (iw σ nx):=λnx hi=>by
          let⟨ty,p,P,xs,w1,w2⟩:=q3 nx hi;rw[bX]at w2;have:=xC (λnx=>if ey nx (l! c.pre.bs) then iw σ nx else i+(nx-l! c.pre.bs)) (l1.map (il (lm (λnx=>if ey nx (l! c.pre.bs) then iw σ nx else i+(nx-l! c.pre.bs))))) 0 (dK l h) (λa b ha hb e=>by
           simp only[bQ,q2]at ha hb;rw[bX,bX,hgi a ha,hgi b hb]at e;exact D.inj a b ha hb e) nx (Z (.H ty p P xs)) (by rw[bB,w1];rfl)
          rw[bX,hgi nx hi]at this;rw[<- L,this,w2]
         have t:=akw (o:=o) (e:=e) hinv sp D I hng (y:=mkp (PV.tyL c.post.vs) (PB.tyL c.pre.bs) (UF _ _ y) (Sm _ _ x)) (by show aA (c.m x) _=_;rw[hy];rfl) J' (bJ _) (g:=λnx=>if ey nx (l! c.pre.bs) then iw σ nx else i+(nx-l! c.pre.bs)) hgi (λnx hi=>by
          have:ey nx (l! c.pre.bs)=af:=by
           cases hb:ey nx (l! c.pre.bs) with
           |false=>rfl
           |true=>have:=aT hb;have hi:l! c.pre.bs<=nx:=hi;omega
          simp only[this];rfl) L.symm (Jr _ λnx hi=>by rw[hgi nx hi];exact hsame nx hi) hla λφ E h' w a=>hexec φ E h' w a sp.zg
         have t':fm T o af e h i (Vd (lE (λnx=>if ey nx (l! c.pre.bs) then iw σ nx else i+(nx-l! c.pre.bs)) rs1)) (sm|||l) (sm|||l|||(((1<<<(l! c.pre.bs-l! c.pre.bs))-1)<<<i)) h2 (i+(l! c.pre.bs-l! c.pre.bs)):=t;rw[Ly,dF]at t';refine t'.drop (W:=sm) (λnx hi=>?_) (λnx hi=>?_)
         .refine ⟨?_,by rw[bu,hi];rfl⟩;obtain⟨k,z,rfl⟩:=(D.sig nx).1 hi;let⟨ty,p,P,xs,_,w2⟩:=q3 k z;rw[bX]at w2;intro n hn;unfold erHF;rw[hn,hsame k z,w2];cases ix n<;>rfl
         .grind
        .cases z
       .cases z
      .cases z
    .cases z
   .cases z
  .cases z
 .cases z
variable {W:TypeId->M Ty}
def ash (hcon:HP T X) {o:Oper} {e:h_} {nx:SI} {K:KO R} {r:R} (hinv:g_ h i) (hi:sN e h) (hc:xQ T o.op=nx) (L:eK X W nx e h i K=Z r):i_ T o nx.still e h i K r:=by
 have callOps:∀(c:Call),o.op= .call c->∀x,x∈c.operands->x∈o.op.operands:=λc D x A=>by rw[D];exact A
 cases nx with
 |call f args=>
  simp[eK]at L;split at L
  .rename_i l hl;have D:∃c:Call,o.op= .call c/\c.callee= .value (.func f)/\c.args.toList=args:=by
    unfold xQ at hc;split at hc
    .rename_i nx hi;unfold OP at hi
     grind
    .grind
   let⟨c,D,h1,h2⟩:=D;let⟨la,g1,g2⟩:=F_ hi hl;refine ad3 hcon hinv L g2 λφ E h' w a hcb hops hrep=>?_
   have hp:Yo φ E h' w a (DV e h) o:=λx y A hy=>vB hrep (by rw[Ds];exact hops) A hy
   refine ⟨args.map a.eval,?_,Zz hp args la (λx A=>callOps c D x (by simp[dD,h1,<-h2]at A ⊢;exact .inr A)) g1⟩;unfold execOp;rw[D];have hm:c.args.map a.eval=(args.map a.eval).toArray:=by grind
   simp[resolve,h1,Act.eval,Deferred.ofValue,invoke,hm,Aq hcb]
  .cases L
 |xq x args=>
  simp[eK]at L;split at L
  .rename_i f cap l A hl;have D:∃c:Call,o.op= .call c/\c.callee= .value x/\c.args.toList=args:=by
    unfold xQ at hc;split at hc
    .rename_i nx hi;unfold OP at hi
     grind
    .grind
   let⟨c,D,h1,h2⟩:=D;let⟨la,g1,g2⟩:=F_ hi hl;let⟨yx,g3,g4⟩:=ba hi A;simp[bW]at g4;split at g4
   .rename_i lc hlc;simp[ah]at g4;subst g4;refine ad3 hcon hinv L (oM g2 hlc) λφ E h' w a hcb hops hrep=>?_
    have hp:Yo φ E h' w a (DV e h) o:=λx y A hy=>vB hrep (by rw[Ds];exact hops) A hy
    have hxv:=hp x _ (callOps c D x (by simp[dD,h1])) g3;have hlv:=Zz hp args la (λx A=>callOps c D x (by simp[dD,h1,<-h2]at A ⊢;exact .inr A)) g1;generalize hz:a.eval x=z at hxv;cases hxv with
    |@qy _ _ vs hvl hvr=>
     refine ⟨args.map a.eval++vs,?_,hlv.append (lV.of hvl hvr)⟩;unfold execOp;rw[D];have hm:c.args.map a.eval=(args.map a.eval).toArray:=by grind
     simp[resolve,h1,hz,Deferred.ofValue,invoke,hm,Aq hcb]
   .cases g4
  .cases L
 |op s=>
  have hc:s= .zn\/cL T o.op=Z s:=by
   unfold xQ at hc;split at hc
   .rename_i nx hi;unfold OP at hi
    grind
   .grind
  rcases hc with rfl|hc
  .simp[eK]at L
  .exact K_op hinv hi hc L
def F_op {o:Oper} {e:h_} {s:UI} {K:KO R} {r:R} (hinv:g_ h i) (hi:sN e h) (D:cL T o.op=Z s) (A:pB W e h i K s=Z r):i_ T o s.still e h i K r:=by
 cases s with
 |load sz L x=>exact avt hinv hi D A
 |store sz x v=>exact aqe hinv hi D A
 |zl x=>exact avr hinv hi D A
 |jb off x=>exact azl hinv hi D A
 |jf sz x nx=>exact azk hinv hi D A
 |jg str ok z x k=>exact azi hinv hi D A
 |jk str x k v=>exact azg hinv hi D A
 |app ty sz bytes s x=>exact azn hinv hi D A
 |zm ty sz bytes z l c=>exact avs hinv hi D A
 |jz neg x=>exact avu hinv hi D A
 |lkq ds z x k=>
  have hd:ds=i2:=by
   unfold pB at A
   grind
  subst hd;exact azj hinv hi D A
 |mpq ds x k v=>
  have hd:ds=i2:=by
   unfold pB at A
   grind
  subst hd;exact azh hinv hi D A
 |dlq ds x k=>
  have hd:ds=i2:=by
   unfold pB at A
   grind
  subst hd;exact azm hinv hi D A
 |_=>exact cq A (by simp[pB])
def awl (hcon:HP T X) {o:Oper} {e:h_} {nx:SI} {K:KO R} {r:R} (hinv:g_ h i) (hi:sN e h) (A:xQ T o.op=nx) (z:opK X W nx e h i K=Z r):i_ T o nx.still e h i K r:=by
 unfold opK at z;split at z
 .split at z
  .rename_i s _;have A:s= .zn\/cL T o.op=Z s:=by
    unfold xQ at A;split at A
    .rename_i nx hi;unfold OP at hi
     grind
    .grind
   rcases A with rfl|A
   .simp[pB]at z
   .exact F_op hinv hi A z
  .cases z
 .exact ash hcon hinv hi A z
end
end Go.Proofs.YtpjhicegjenpeaaGreatDoor.AI
