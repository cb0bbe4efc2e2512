/-
  Texts of the proof, part 2 of 6: what is used to prove the statement. No condition.
-/
import Derived.Test.YtpjhicegjenpeaaGreatDoorWeakMoreQ0
namespace Go.Proofs.YtpjhicegjenpeaaGreatDoor.AI
open Go.RowKit
set_option maxRecDepth 100000
set_option maxHeartbeats 4000000
set_option linter.unusedVariables false
set_option linter.unusedSimpArgs false
set_option linter.defProp false
open _root_.Bool renaming true→J,false→af,false_or→FH
open Call renaming operands→dI
open _root_.Int renaming toNat→aN,ofNat→aQ
open _root_.List renaming length→l!,length→aj,replicate→aC,take→dx,range→eA,map→gM,cons_append→gR,toArray→jT,length_cons→kn,nil_append→lq,length_nil→pK,set→sI,append→sV,take_succ_cons→yD,replicate_succ→yE,flatMap_append→yG,map_drop→An,getElem?_cons_succ→BT,map_nil→Dd
open _root_.Nat renaming beq→ax,testBit→aL,add_zero→dK,ble→dR,blt→eE,min→ma,mod_eq_of_lt→xn,mul_one→HY,blt_eq→Pv
open Oper renaming wp→LB
open _root_.Option renaming some→Z,none→U,bind_some→aF,map_some→bi,map→io
open Value.bool renaming injEq→Fz
open World renaming cell?→Sk
noncomputable section
variable {R:Type}
def PT.mapO {β:Type} (g:R->M β):PT R->PT β
 |.leaf=>.leaf
 |.node v l r=>.node (v.bind g) (PT.mapO g l) (PT.mapO g r)
def PT.get_mapO {β:Type} (g:R->M β):∀(t:PT R) (i:Nat),(PT.mapO g t).get i=(t.get i).bind g
 |.leaf,i|.node v l r,0=>by simp[PT.mapO,PT.get]
 |.node v l r,j+1=>by
  simp[PT.mapO,PT.get];split
  .exact PT.get_mapO g l _
  .exact PT.get_mapO g r _
def PT.get_updI (f:Nat->R->R):∀(t:PT R) (a b i:Nat),(PT.updI f a b t).get i=(t.get i).map (f (a*i+b))
 |.leaf,_,_,i=>by simp[PT.updI,PT.get]
 |.node v l r,a,b,0=>by cases v<;>simp[PT.updI,PT.get]
 |.node v l r,a,b,j+1=>by
  simp only[PT.updI,PT.get];split
  .rename_i z;rw[PT.get_updI f l];have:2*a*(j/2)+(a+b)=a*(j+1)+b:=by
    have A:j=2*(j/2):=by have:=au z;omega
    grind
   rw[this]
  .rename_i z;rw[PT.get_updI f r];have:2*a*(j/2)+(2*a+b)=a*(j+1)+b:=by
    have h1:j%2≠0:=λh=>z (by rw[h];rfl)
    have A:j=2*(j/2)+1:=by omega
    grind
   rw[this]
def PT.bound :∀(t:PT R),∃B,∀i,B<=i->t.get i=U
 |.leaf=>⟨0,λi _=>rfl⟩
 |.node v l r=>by
  let⟨a,A⟩:=PT.bound l;let⟨b,z⟩:=PT.bound r;refine ⟨2*(a+b)+3,λi hi=>?_⟩;cases i with
  |zero=>omega
  |succ j=>
   simp[PT.get]
   grind
def PT.ofF (f:Nat->M R):Nat->PT R
 |0=>.leaf
 |n+1=>(PT.ofF f n).set n (f n)
def PT.get_ofF (f:Nat->M R):∀(n i:Nat),(PT.ofF f n).get i=if i<n then f i else U
 |0,i=>by simp[PT.ofF,PT.get]
 |n+1,i=>by
  rw[PT.ofF,PT.get_set,PT.get_ofF f n]
  grind
def jR (i k:Nat):Nat:=2^i*(2*k+1)-1
def nm (i:Nat):Nat:=jR i 0
def owA:Nat->Nat->Nat
 |0,_=>0
 |f+1,m=>if m%2=1 then 0 else owA f (m/2)+1
def ow (n:Nat):Nat:=owA (n+1) (n+1)
def ix (n:Nat):Nat:=(n+1)/2^ow n/2
def ac5:∀(i f k:Nat),i<f->owA f (2^i*(2*k+1))=i
 |0,f+1,k,_=>by rw[owA,aD (by omega)]
 |i+1,f+1,k,h=>by
  have e:2^(i+1)*(2*k+1)=2*(2^i*(2*k+1)):=by grind
  rw[owA,av (by omega),e,Nat.mul_div_cancel_left _ (by omega),ac5 i f k (by omega)]
def ac6:∀(f m:Nat),0<m->m<=f->2^owA f m*(2*(m/2^owA f m/2)+1)=m
 |0,m,h0,h=>by omega
 |f+1,m,h0,h=>by
  rw[owA];split
  .omega
  .have z:=ac6 f (m/2) (by omega) (by omega);rw[Nat.pow_succ,Nat.mul_comm (2^owA f (m/2)) 2,<-Nat.div_div_eq_div_mul,Nat.mul_assoc,z];omega
def acj (i k:Nat):0<2^i*(2*k+1):=Nat.mul_pos (Nat.two_pow_pos i) (by omega)
def iS (i k:Nat):ow (jR i k)=i:=by
 have h:=acj i k;have z:i<2^i*(2*k+1):=dD Nat.lt_two_pow_self (Nat.le_mul_of_pos_right _ (by omega));unfold ow jR;rw[Nat.sub_add_cancel h,ac5 _ _ _ z]
def wF (i k:Nat):ix (jR i k)=k:=by
 have h:=acj i k;unfold ix;rw[iS];unfold jR;rw[Nat.sub_add_cancel h,Nat.mul_div_cancel_left _ (Nat.two_pow_pos i)];omega
def kZ (n:Nat):jR (ow n) (ix n)=n:=by
 have:=ac6 (n+1) (n+1) (by omega) (bK _);unfold jR ix ow;rw[this];rfl
variable {i:Nat}
def pq (h:ix i=0):i=nm (ow i):=by
 have:=kZ i;rw[h]at this;exact this.symm
def di (i:Nat):ow (nm i)=i:=iS i 0
def axc (i:Nat):ix (nm i)=0:=wF i 0
variable {j:Nat}
def vy {k l:Nat} (h:jR i k=jR j l):i=j/\k=l:=by
 have h1:=eR ow h;have z:=eR ix h;rw[iS,iS]at h1;rw[wF,wF]at z;exact⟨h1,z⟩
def uN (h:nm i=nm j):i=j:=(vy h).1
def dA (p:Bool) (id sz n:Nat):AV:=if p&&n==0 then .emp else .I (nm id) sz n
def pM (id:Nat) (j:Int):Nat:=jR id (3*j.toNat+1)
def uM (id:Nat) (j sz n:Nat):AV:=if n==0 then .emp else .I (jR id (j+1)) sz n
def Ld:Sb->AV
 |.ob id j off=>.P (pM id j) off
 |.om id j b=>.mp (jR id (3*j.toNat+2+b))
 |.nr id j sz n=>uM id j.toNat sz n
 |.np id j sz i off=>.P (jR id (j.toNat+1)) (i.toNat*sz+off)
 |.nl=>.f (.raw (.map U))
mutual
def bW (h:aY):TV->M AV
 |.f T v=>Z (.f (gr T v))
 |.zf T xs j _ off=>Z (.f (.P (xs.flatMap (bE T)) (j.toNat*T.size+off)))
 |.zj id sz j off=>Z (.P (nm id) (j.toNat*sz+off))
 |.P id off=>Z (.P (nm id) off)
 |.qg id sz n=>Z (.I (nm id) sz n)
 |.I id=>match eQ h id with|some (p,sz,n)=>Z (dA p id sz n)|none=>U
 |.zh id j=>match eQ h id with|some (_,sz,n)=>Z (.sl (nm id) (j.toNat*sz) (n-j.toNat))|none=>U
 |.emp=>Z .emp
 |.nil=>Z (.f (.raw (.slice U 0 0)))
 |.mp id=>Z (.mp (nm id))
 |.agg l=>match cN h l with|some l'=>Z (.agg l')|none=>U
 |.qb l=>match cN h l with|some l'=>Z (.qb l')|none=>U
 |.qy g l=>match cN h l with|some l'=>Z (.qy g l')|none=>U
 |.undef=>Z (.f (.raw undef))
 |.np=>Z (.f (.raw (.pointer U)))
 |.qw=>Z .qw
 |.qc T xs=>Z (.qc (xs.flatMap (bE T)) (aj xs))
 |.sb s=>Z (Ld s)
def cN (h:aY):Y TV->M (Y AV)
 |[]=>Z []
 |x::r=>match bW h x with
  |some y=>(match cN h r with|some l=>Z (y::l)|none=>U)
  |none=>U
end
def rj:(K:Ty)->K.den->Value
 |.int k,n=>.int k n
 |.str,s=>.string ⟨jT s⟩
 |_,_=>undef
def mpC:(K V:Ty)->Y (K.den×V.den)->BC
 |.st (.pr .str (.int .i64)),.un,es=>.it ⟨jT (PA es)⟩ (M1 es)
 |K,V,es=>.mp (es.map λp=>(rj K p.1,.f (gr V p.2)))
variable {K:Ty}
def Ck {V:Ty} {es:Y (K.den×V.den)} (h:Y9 K=J):mpC K V es= .mp (es.map λp=>(rj K p.1,.f (gr V p.2))):=by
 unfold mpC;split
 .cases h
 .rfl
def ats {V:Ty} {es:Y (K.den×V.den)} {s:ζ} (h:itE K V es=Z (s,i)):mpC K V es= .it ⟨jT s⟩ i:=by
 unfold itE at h;split at h
 .cases h;rfl
 .cases h
variable {s:TypeId}
def ae9 {es:Y n!} {ents:Array MapEntry} (f:AV->AV):MpK s (es.map λp=>(p.1,f p.2)) ents=MpK s es ents:=by unfold MpK;rw[kX];rfl
def YK {l:Y R} {x:R} (h:i<l! l):splice l i [x]=l.set i x:=by
 rw[List.set_eq_take_append_cons_drop,aD h];simp[splice]
def af4 (k:ν):Value:=.agg #[.int .i64 k.1,.int .i64 k.2]
def xd (a:Nat) (es:Y e!):Y n!:=es.map λe=>(af4 e.1,.P (pM a e.2) 0)
def NL (a:Nat) (k:ν) (v:AV):Y e!->Y n!
 |[]=>[(af4 k,v)]
 |e::r=>if k=e.1 then (af4 k,v)::xd a r else (af4 e.1,.P (pM a e.2) 0)::NL a k v r
def l7 (a sz:Nat):Nat->η->Y AV
 |_,[]=>[]
 |k,l::r=>uM a k sz l.toNat::l7 a sz (k+1) r
def ux (a:Nat):(F:uF)->F.ty.den->M kG
 |.qn ty,z=>if aj z==0 then U else Z ⟨ty,.mx (gM (λj=>.P (pM a j) 0) z)⟩
 |.qr,es=>Z ⟨0,.mp (xd a es)⟩
 |.rr ty sz,A=>Z ⟨ty,.mx (l7 a sz 0 A)⟩
 |_,_=>U
def ad7 (a:Nat) (k:ν):(F:uF)->F.ty.den->M (Nat×Bool×Nat)->M kG
 |.qr,es,Z (p,_,_)=>Z ⟨0,.mp (NL a k (.P (nm p) 0) es)⟩
 |.rr ty sz,z,Z (r,b,n)=>Z ⟨ty,.mx ((l7 a sz 0 z).set k.1.toNat (dA b r sz n))⟩
 |_,_,_=>U
def Ip (es:Y u!):Y n!:=es.map λe=>(.int .i64 e.1,.f (.raw (.bool e.2)))
def wP (id k:Nat) (ty:TypeId) (S:Ty) (o:S.den×Y (Int×Bool)×Y (Int×Bool)):kG:=
 if k%3=0 then ⟨ty,.mx ((bE S o.1).map .f++[.mp (jR id (k+2)),.mp (jR id (k+3))])⟩ else ⟨0,.mp (Ip (if k%3=1 then o.2.1 else o.2.2))⟩
def ZO (ty:TypeId) (T:Ty) (xs:Y T.den):M kG:=if (l! xs)==0 then U else Z ⟨ty,.fz (xs.flatMap (bE T))⟩
def rn (id k:Nat) (ty:TypeId) (S:Ty) (xs:Y (C_ S)):M kG:=(xs[k/3]?).map (wP id k ty S)
def rm (k:Nat) (ty:TypeId) (T:Ty) (xss:Y (Y T.den)):M kG:=(xss[k]?).bind (ZO ty T)
def Lc (id:Nat) (k:Nat):(F:uF)->F.ty.den->M kG
 |.ar ty S,xs=>rn id k ty S xs
 |.ir ty T,xss=>rm k ty T xss
 |_,_=>U
def w_ (id k:Nat):e_->M kG
 |.Q F _ x=>Lc id k F x
 |.qd F _ x j U=>if k=j.1.toNat then U else Lc id k F x
 |.qd F _ x _ (Z _)=>Lc id k F x
 |_=>U
def kJ (h:aY):e_->M kG
 |.H ty p T xs=>if p&&l! xs==0 then U else Z ⟨ty,.fz (xs.flatMap (bE T))⟩
 |.G (Z ty) l=>match cN h l with|some l'=>Z ⟨ty,.mx l'⟩|none=>U
 |.G U l=>match cN h l with|some l'=>Z ⟨0,.mp []⟩|none=>U
 |.qj _ _ _=>U
 |.mp K V es=>Z ⟨0,mpC K V es⟩
 |.Q F a x=>ux a F x
 |.qd F a x k p=>ad7 a k F x p
def fR (e:ii) (h:aY):EF:=λt=>(e.get t).bind (bW h)
def PC (h:aY) (id:Nat):Nat->e_->M kG
 |0,b=>kJ h b
 |k+1,b=>w_ id k b
def erHF (h:aY):HF:=λn=>(h.get (ow n)).bind (PC h (ow n) (ix n))
def bJ (h:aY) (i:Nat):erHF h (nm i)=(h.get i).bind (kJ h):=by
 unfold erHF;rw[di,axc];rfl
def kS (h:aY) (i k:Nat):erHF h (jR i (k+1))=(h.get i).bind (w_ i k):=by
 unfold erHF;rw[iS,wF];rfl
variable {h:aY} {N:kG}
def iX (z:erHF h i=Z N):∃c,h.get (ow i)=Z c/\PC h (ow i) (ix i) c=Z N:=by
 unfold erHF at z;cases A:h.get (ow i) with
 |none=>rw[A]at z;cases z
 |some c=>rw[A]at z;exact⟨c,rfl,z⟩
def Io:e_->Nat
 |.Q (.ar _ _) _ x=>3*aj x
 |.Q (.ir _ _) _ x=>aj x
 |.qd (.ar _ _) _ x _ _=>3*aj x
 |.qd (.ir _ _) _ x _ _=>aj x
 |_=>0
def ad8 {id:Nat} {F:uF} {x:F.ty.den} (A:Lc id i F x=Z N) (a:Nat):i<Io (.Q F a x):=by
 cases F with
 |ar ty S=>
  let⟨o,z,_⟩:=gy.1 A;have:=(bC.1 z).1;simp[Io];omega
 |ir ty T=>
  let⟨o,z,_⟩:=Option.bind_eq_some_iff.1 A;exact (bC.1 z).1
 |_=>cases A
def aco {c:e_} (z:w_ i j c=Z N):j<Io c:=by
 cases c with
 |Q F a x=>exact ad8 (id:=i) z a
 |qd F a x k p=>
  have:Lc i j F x=Z N:=by
   cases p with
   |none=>simp only[w_]at z;split at z;cases z;exact z
   |some q=>exact z
  have:=ad8 (id:=i) this a;cases F<;>exact this
 |_=>cases z
def D2 (e:ii) (h:aY):EH:=PT.mapO (bW h) e
def Dx (e:ii) (h:aY):(D2 e h).get=fR e h:=by funext t;exact PT.get_mapO _ _ _
def ap9 (L:∀y c,h.get y=Z c->Io c<=i) (D:erHF h j=Z N):ix j<=i:=by
 let⟨c,h1,z⟩:=iX D;have:=L _ c h1;cases A:ix j with
 |zero=>omega
 |succ k=>
  rw[A]at z;have:=aco z;omega
def acn (h:aY):∃y,∀i c,h.get i=Z c->Io c<=y:=by
 let⟨B,hB⟩:=PT.bound h;have:∀B,∃y,∀i c,i<B->h.get i=Z c->Io c<=y:=by
  intro B;induction B with
  |zero=>exact⟨0,λi c hi=>by omega⟩
  |succ B D=>
   let⟨y,A⟩:=D;cases L:h.get B with
   |none=>exact⟨y,λi c hi z=>by
     by_cases e:i=B
     .grind
     .exact A i c (by omega) z⟩
   |some b=>exact⟨max y (Io b),λi c hi z=>by
     by_cases e:i=B
     .grind
     .have:=A i c (by omega) z;omega⟩
 let⟨y,A⟩:=this B;refine ⟨y,λi c z=>A i c ?_ z⟩
 grind
def gJ (h:aY):∃H:nz,H.get=erHF h:=by
 let⟨B,hB⟩:=PT.bound h;let⟨y,L⟩:=acn h;refine ⟨PT.ofF (erHF h) (2^B*(2*y+2)),?_⟩;funext n;rw[PT.get_ofF];split
 .rfl
 .rename_i hn;cases A:erHF h n with
  |none=>rfl
  |some b=>
   let⟨c,h1,z⟩:=iX A;have ho:ow n<B:=by grind
   have hi:ix n<=y:=by
    have:=L _ c h1;cases D:ix n with
    |zero=>omega
    |succ k=>
     rw[D]at z;have:=aco z;omega
   have he:=kZ n;unfold jR at he;have h3:2^ow n*(2*ix n+1)<=2^B*(2*y+2):=Nat.mul_le_mul (Nat.pow_le_pow_right (by omega) (by omega)) (by omega)
   grind
variable {u:TV} {m:Y TV}
def c6 {l:Y AV} (he:cN h (u::m)=Z l):∃y l',l=y::l'/\bW h u=Z y/\cN h m=Z l':=by
 simp[cN]at he
 grind
variable {y:AV}
def qC {l':Y AV} (h1:bW h u=Z y) (z:cN h m=Z l'):cN h (u::m)=Z (y::l'):=by
 simp[cN,h1,z]
def iH :∀{l:Y TV} {l':Y AV},cN h l=Z l'->l! l'=l! l
 |[],l',he=>by simp[cN,ah]at he;subst he;rfl
 |x::r,l',he=>by
  obtain⟨y,A,rfl,_,z⟩:=c6 he;simp[iH z]
def oO :∀{a b:Y TV} {A b':Y AV},cN h a=Z A->cN h b=Z b'->cN h (a++b)=Z (A++b')
 |[],b,A,b',z,D=>by simp[cN,ah]at z;subst z;exact D
 |x::r,b,A,b',z,D=>by
  obtain⟨y,l2,rfl,h1,L⟩:=c6 z;exact qC h1 (oO L D)
def Fp :∀{a b:Y TV} {l:Y AV},cN h (a++b)=Z l->∃z b',l=z++b'/\cN h a=Z z/\cN h b=Z b'
 |[],b,l,he=>⟨[],l,rfl,rfl,he⟩
 |x::r,b,l,he=>by
  obtain⟨y,l2,rfl,h1,L⟩:=c6 he;obtain⟨z,b',rfl,D,A⟩:=Fp L;exact⟨y::z,b',rfl,qC h1 D,A⟩
def IX :∀{l:Y TV} {l':Y AV} (n:Nat),cN h l=Z l'->cN h (l.take n)=Z (l'.take n)
 |[],l',n,he=>by simp[cN,ah]at he;subst he;simp[cN]
 |x::r,l',n,he=>by
  obtain⟨y,A,rfl,h1,z⟩:=c6 he;cases n with
  |zero=>simp[cN]
  |succ n=>exact qC h1 (IX n z)
def IZ :∀{l:Y TV} {l':Y AV} (n:Nat),cN h l=Z l'->cN h (l.drop n)=Z (l'.drop n)
 |[],l',n,he=>by simp[cN,ah]at he;subst he;simp[cN]
 |x::r,l',n,he=>by
  obtain⟨y,A,rfl,h1,z⟩:=c6 he;cases n with
  |zero=>exact he
  |succ n=>simpa using IZ n z
variable {r:Y AV}
def rq {vs:Y TV} {vs':Y AV} (off:Nat) (h1:cN h m=Z r) (z:cN h vs=Z vs'):cN h (splice m off vs)=Z (splice r off vs'):=by
 unfold splice;rw[iH z];exact oO (oO (IX _ h1) z) (IZ _ h1)
def mE :∀{l:Y TV} {l':Y AV},cN h l=Z l'->∀(j:Nat) x,l[j]? =Z x->∃y,l'[j]? =Z y/\bW h x=Z y
 |[],l',he,j,x,D=>by simp at D
 |x::r,l',he,j,z,A=>by
  obtain⟨y,l2,rfl,h1,L⟩:=c6 he;cases j with
  |zero=>simp at A;subst A;exact⟨y,rfl,h1⟩
  |succ j=>simpa using mE L j z (by grind)
mutual
def pn (h:aY):∀(u:TV),P0 h u=J->∃y,bW h u=Z y
 |.f _ _,_|.zf _ _ _ _ _,_|.zj _ _ _ _,_|.P _ _,_|.qg _ _ _,_=>⟨_,rfl⟩
 |.I id,he|.zh id jj,he=>by
  simp[P0]at he;cases hr:eQ h id with
  |none=>rw[hr]at he;cases he
  |some r=>obtain⟨p,sz,n⟩:=r;exact⟨_,by simp[bW,hr];rfl⟩
 |.emp,_|.nil,_|.mp _,_=>⟨_,rfl⟩
 |.agg l,he|.qb l,he|.qy g l,he=>by obtain⟨y,hy⟩:=fI h l he;exact⟨_,by simp[bW,hy];rfl⟩
 |.undef,_|.np,_|.qw,_|.qc _ _,_|.sb _,_=>⟨_,rfl⟩
def fI (h:aY):∀(l:Y TV),l8 h l=J->∃l',cN h l=Z l'
 |[],_=>⟨[],rfl⟩
 |x::r,he=>by
  simp[l8,al]at he;obtain⟨y,hy⟩:=pn h x he.1;obtain⟨l',hl⟩:=fI h r he.2;exact⟨_,qC hy hl⟩
end
def bV (h h':aY):Prop:=∀id r,eQ h id=Z r->eQ h' id=Z r
mutual
def fM {h h':aY} (hk:bV h h'):∀(u:TV) (y:AV),bW h u=Z y->bW h' u=Z y
 |.f _ _,y,he=>he
 |.zf _ _ _ _ _,y,he=>he
 |.zj _ _ _ _,y,he=>he
 |.P _ _,y,he=>he
 |.qg _ _ _,y,he=>he
 |.I id,y,he|.zh id jj,y,he=>by
  simp[bW]at he ⊢;split at he
  .rename_i p sz n hr;rw[hk _ _ hr];exact he
  .cases he
 |.emp,y,he=>he
 |.nil,y,he=>he
 |.mp _,y,he=>he
 |.agg l,y,he|.qb l,y,he|.qy g l,y,he=>by
  simp[bW]at he ⊢;split at he
  .rename_i l' hl;rw[g_ hk l l' hl];exact he
  .cases he
 |.undef,y,he=>he
 |.np,y,he=>he
 |.qw,y,he=>he
 |.qc _ _,y,he=>he
 |.sb _,y,he=>he
def g_ {h h':aY} (hk:bV h h'):∀(l:Y TV) (l':Y AV),cN h l=Z l'->cN h' l=Z l'
 |[],l',he=>he
 |x::r,l',he=>by
  obtain⟨y,l2,rfl,h1,h2⟩:=c6 he;exact qC (fM hk x y h1) (g_ hk r l2 h2)
end
mutual
def nC {h h':aY} (hk:bV h h'):∀(u:TV),P0 h u=J->P0 h' u=J
 |.f _ _,_|.zf _ _ _ _ _,_|.zj _ _ _ _,_|.P _ _,_|.qg _ _ _,_=>rfl
 |.I id,he|.zh id jj,he=>by
  simp[P0]at he ⊢;cases hr:eQ h id with
  |none=>rw[hr]at he;cases he
  |some r=>rw[hk _ _ hr];rfl
 |.emp,_|.nil,_|.mp _,_=>rfl
 |.agg l,he|.qb l,he|.qy g l,he=>fA hk l he
 |.undef,_|.np,_|.qw,_|.qc _ _,_|.sb _,_=>rfl
def fA {h h':aY} (hk:bV h h'):∀(l:Y TV),l8 h l=J->l8 h' l=J
 |[],_=>rfl
 |x::r,he=>by
  simp[l8,al]at he ⊢;exact⟨nC hk x he.1,fA hk r he.2⟩
end
mutual
def IW (h:aY):∀(u:TV) (y:AV),bW h u=Z y->P0 h u=J
 |.f _ _,_,_|.zf _ _ _ _ _,_,_|.zj _ _ _ _,_,_|.P _ _,_,_|.qg _ _ _,_,_=>rfl
 |.I id,y,he|.zh id jj,y,he=>by
  simp[P0,bW]at he ⊢;cases hr:eQ h id with
  |none=>rw[hr]at he;cases he
  |some r=>rfl
 |.emp,_,_|.nil,_,_|.mp _,_,_=>rfl
 |.agg l,y,he|.qb l,y,he|.qy g l,y,he=>by
  simp[bW]at he;split at he
  .rename_i l' hl;exact mf h l l' hl
  .cases he
 |.undef,_,_|.np,_,_|.qw,_,_|.qc _ _,_,_|.sb _,_,_=>rfl
def mf (h:aY):∀(l:Y TV) (l':Y AV),cN h l=Z l'->l8 h l=J
 |[],_,_=>rfl
 |x::r,l',he=>by
  obtain⟨y,l2,rfl,h1,h2⟩:=c6 he;simp[l8,al];exact⟨IW h x y h1,mf h r l2 h2⟩
end
mutual
def WP (h h':aY):∀(u:TV),wG u=J->bW h u=bW h' u
 |.f _ _,_|.zf _ _ _ _ _,_|.zj _ _ _ _,_|.P _ _,_|.qg _ _ _,_=>rfl
 |.I id,he=>by cases he
 |.emp,_|.nil,_|.mp _,_=>rfl
 |.agg l,he|.qb l,he=>by simp[bW];rw[IY h h' l he]
 |.qy g l,he=>by cases he
 |.undef,_|.np,_|.qw,_|.qc _ _,_=>rfl
 |.sb _,he=>by cases he
def IY (h h':aY):∀(l:Y TV),r9 l=J->cN h l=cN h' l
 |[],_=>rfl
 |x::r,he=>by
  simp[r9,al]at he;simp[cN];rw[WP h h' x he.1,IY h h' r he.2]
end
def Tk (he:bW h u=Z y) (A:u.isC=J):y.isCell=J:=by
 cases u with
 |f T v=>cases T<;>simp[bW,ah]at he<;>subst he<;>first|rfl|(simp [TV.isC,Ty.one]at A)
 |I id=>
  simp[bW]at he;split at he
  .simp[ah]at he;subst he;unfold dA;split<;>rfl
  .cases he
 |zh id D|agg l|qb l|undef|qw|qc T xs=>cases A
 |qy g l=>
  simp[bW]at he;split at he
  .simp[ah]at he;subst he;rfl
  .cases he
 |sb s=>simp[bW,ah]at he;subst he;cases s<;>first|rfl|(simp [Ld,uM];split<;>rfl)
 |_=>simp[bW,ah]at he;subst he;rfl
def t8 :∀{l:Y TV} {l':Y AV},cN h l=Z l'->lX l=J->gD l'=J
 |[],l',he,_=>by simp[cN,ah]at he;subst he;rfl
 |x::r,l',he,z=>by
  obtain⟨y,D,rfl,h1,A⟩:=c6 he;simp[lX,al]at z;simp[gD,al];exact⟨Tk h1 z.1,t8 A z.2⟩
def Le (x y:AV):Prop:=∀(φ:PM) (O:Nat->Prop) (w:World) (v:Value),co φ O w x v->co φ O w y v
def Le.refl (x:AV):Le x x:=λ_ _ _ _ h=>h
def kz (H H':HF) (x y:AV):Prop:=∀(φ:PM) (E:Nat->Prop) (w:World) (v:Value),sC φ E H w->co φ (tot E φ H) w x v->co φ (tot E φ H') w y v
def rC (H H':HF):Prop:=∀i b,H' i=Z b->∃b0,H i=Z b0
def rC.refl (H:HF):rC H H:=λ_ b h=>⟨b,h⟩
variable {S:HF} {V:PM}
def rC.own {H':HF} (d:rC S H') (h:own V H' i):own V S i:=by
 let⟨k,b,h1,A⟩:=h;let⟨b0,z⟩:=d k b h1;exact⟨k,b0,z,A⟩
variable {O:Nat->Prop}
def rC.tot {H':HF} (d:rC S H') (h:tot O V H' i):tot O V S i:=h.imp id d.own
variable {w:World} {v:Value}
def co.dom {H':HF} (d:rC S H') (h:co V (tot O V S) w y v):co V (tot O V H') w y v:=
 h.ext (λ_ _ h=>h) (H4.refl _ w) λ_ _ z=>d.tot z
def ny.dom {H':HF} (d:rC S H') {x:FV} (h:ny (tot O V S) w x v):ny (tot O V H') w x v:=
 h.ext (H4.refl _ w) λ_ _ z=>d.tot z
def Le.toH {H':HF} (d:rC S H') {x:AV} (h:Le x y):kz S H' x y:=λφ E w v _ z=>(h _ _ _ _ z).dom d
def kz.refl {H':HF} (d:rC S H') (x:AV):kz S H' x x:=(Le.refl x).toH d
def hP (H H':HF):Y AV->Y AV->Prop
 |[],[]=>True
 |x::xs,y::z=>kz H H' x y/\hP H H' xs z
 |_,_=>False
def hP.refl {H':HF} (d:rC S H'):∀l,hP S H' l l
 |[]=>trivial
 |x::r=>⟨kz.refl d x,hP.refl d r⟩
def hP.length {H':HF}:∀{l l':Y AV},hP S H' l l'->l! l'=l! l
 |[],[],_=>rfl
 |[],_::_,h|_::_,[],h=>h.elim
 |_::_,_::_,h=>by simp[hP.length h.2]
def hP.get {H':HF}:∀{l l':Y AV},hP S H' l l'->∀(j:Nat) y,l'[j]? =Z y->∃x,l[j]? =Z x/\kz S H' x y
 |[],[],_,j,y,A=>by simp at A
 |[],_::_,h,_,_,_|_::_,[],h,_,_,_=>h.elim
 |x::xs,z::ys,h,j,y,A=>by
  cases j with
  |zero=>simp at A;subst A;exact⟨x,rfl,h.1⟩
  |succ j=>simpa using hP.get h.2 j y (by grind)
def hP.append {H':HF}:∀{a z b b':Y AV},hP S H' a z->hP S H' b b'->hP S H' (a++b) (z++b')
 |[],[],_,_,_,h=>h
 |[],_::_,_,_,h,_|_::_,[],_,_,h,_=>h.elim
 |_::_,_::_,_,_,h,h'=>⟨h.1,hP.append h.2 h'⟩
def hP.take {H':HF}:∀{a z:Y AV} (n:Nat),hP S H' a z->hP S H' (a.take n) (z.take n)
 |[],[],n,_=>by simp[hP]
 |[],_::_,_,h|_::_,[],_,h=>h.elim
 |_::_,_::_,0,_=>trivial
 |_::_,_::_,n+1,h=>⟨h.1,hP.take n h.2⟩
def hP.drop {H':HF}:∀{a z:Y AV} (n:Nat),hP S H' a z->hP S H' (a.drop n) (z.drop n)
 |[],[],n,_=>by simp[hP]
 |[],_::_,_,h|_::_,[],_,h=>h.elim
 |_::_,_::_,0,h=>h
 |_::_,_::_,n+1,h=>hP.drop n h.2
def hP.splice {H':HF} {A b b':Y AV} (off:Nat) (h1:hP S H' r A) (z:hP S H' b b'):hP S H' (splice r off b) (splice A off b'):=by
 unfold AI.splice;rw[z.length];exact ((h1.take off).append z).append (h1.drop _)
def gu (H H':HF) (b b':kG):Prop:=∀(φ:PM) (E:Nat->Prop) (w:World) (o:Obj),sC φ E H w->im φ (tot E φ H) w b o->im φ (tot E φ H') w b' o
def gu.refl {H':HF} (d:rC S H') (b:kG):gu S H' b b:=λ_ _ _ _ _ h=>h.mono λ_ _ h=>h.dom d
def qW {c:BC} {o:Obj} (z:c.isCells=J):im V O w ⟨s,c⟩ o↔∃arr,o= .cells arr s (0,0)/\vJ V O w c arr:=by
 cases c<;>simp[BC.isCells]at z<;>rfl
def gu.G {H':HF} {c A:BC} (L:c.isCells=J) (z:A.isCells=J) (hl:hP S H' c.toMx A.toMx) (hcell:∀x∈A.toMx,x.isCell=J):gu S H' ⟨s,c⟩ ⟨s,A⟩:=by
 intro φ E w o hrep ho;rw[qW L]at ho;rw[qW z];let⟨arr,h1,h2,h3⟩:=ho;refine ⟨arr,h1,by rw[BC.len_toMx z,hl.length,<-BC.len_toMx L];exact h2,λj x D=>?_⟩;rw[BC.get_toMx z]at D;refine ⟨hcell x (a8 D),?_⟩;let⟨y,hy,hle⟩:=hl.get j x D;let⟨_,v,h5,h6⟩:=h3 j y (by rw[BC.get_toMx L];exact hy);exact⟨v,h5,hle _ _ _ _ hrep h6⟩
def ali (ty:M TypeId) (l:Y AV):kG:=match ty with
 |some ty=>⟨ty,.mx l⟩
 |none=>⟨0,.mp []⟩
def gu.none {H':HF}:gu S H' ⟨0,.mp []⟩ ⟨0,.mp []⟩:=by
 intro φ E w o hrep A;let⟨ents,clock,h1,D,L⟩:=A;exact⟨ents,clock,h1,D,λj x z=>by cases z⟩
def gu.eq {H':HF} (d:rC S H') {c D:BC} (A:c.isCells=J) (z:D.isCells=J) (hl:c.toMx=D.toMx):gu S H' ⟨s,c⟩ ⟨s,D⟩:=by
 intro φ E w o hrep ho;rw[qW A]at ho;rw[qW z];let⟨arr,h1,h2,h3⟩:=ho;refine ⟨arr,h1,by rw[BC.len_toMx z,<-hl,<-BC.len_toMx A];exact h2,λj x L=>?_⟩;rw[BC.get_toMx z,<-hl,<-BC.get_toMx A]at L;let⟨h4,v,h5,h6⟩:=h3 j x L;exact⟨h4,v,h5,h6.dom d⟩
structure Pd (H H':HF):Prop where
 dom:rC H H'
 jp:∀i b b',H i=Z b->H' i=Z b'->gu H H' b b'
def Pd.refl (H:HF):Pd H H:=⟨rC.refl H,λi b b' h h'=>by rw[h]at h';cases h';exact gu.refl (rC.refl H) b⟩
def Pd.zq {H':HF} (φ:Pd S H') (r:sC V O S w):sC V O H' w:=by
 refine ⟨λi j b b' k A g2 g3 g4=>?_,λi b A=>?_,r.el,λg cells hg=>(r.gl g cells hg).dom φ.dom⟩
 .obtain⟨b0,z⟩:=φ.dom i b A;let⟨b1,D⟩:=φ.dom j b' g2;exact r.inj i j b0 b1 k z D g3 g4
 .obtain⟨b0,z⟩:=φ.dom i b A;let⟨k,L,p2,ob,p3,p4⟩:=r.at_ i b0 z;exact⟨k,L,p2,ob,p3,φ.jp i b0 b z A V O w ob r p4⟩
variable {T:Program}
def gE.view {o:Oper} {e:EF} {val':AV} {rd z wr' N:ι} {A nw':HF} (ht:gE T o e S ⟨y,rd,z,A,N⟩) (hsub:∀i∈z,i∈wr'\/i∈rd)
 (hv:∀h':HF,(∀i∈rd,h' i=S i)->(∀i∈wr',h' i=S i)->Pd (fy h' z A) (fy h' wr' nw')/\kz (fy h' z A) (fy h' wr' nw') y val'):gE T o e S ⟨val',rd,wr',nw',N⟩:=by
 intro φ E h' w a h1 L h3 h4 h5;have hw:=ht φ E h' w a h1 (λi hi=>(hsub i hi).elim (L i) (h1 i)) h3 h4 h5;let⟨V,hle⟩:=hv h' h1 L;refine UV ?_ hw;rintro a' w' ⟨v,φ',rfl,mv,nm',D,rel⟩;exact⟨v,φ',rfl,⟨mv.sub,mv.ext,λk hk ho=>mv.ql k hk (V.dom.own ho)⟩,nm',V.zq D,hle _ _ _ _ D rel⟩
def Le.nil:Le (.f (.raw (.slice U 0 0))) (.f (.sl [] 0)):=by
 intro φ O w v z;cases z with
 |f z=>cases z;exact .f (.nil U 0 (by simp))
def Le.emp:Le .emp (.f (.sl [] 0)):=by
 intro φ O w v z;cases z with
 |emp=>exact .f (.nil _ 0 (by unfold maxLen;omega))
def Le.nilEmp:Le (.f (.raw (.slice U 0 0))) .emp:=by
 intro φ O w v z;cases z with
 |f z=>cases z;exact .emp
def Le.aggF {l:Y FV}:Le (.f (.agg l)) (.agg (l.map .f)):=by
 intro φ O w v A;cases A with
 |f A=>
  cases A with
  |agg _ vs hl hcl hrr=>
   refine .agg (by grind) (λx z=>?_) λj x u z hu=>?_
   .obtain⟨y,L,rfl⟩:=cz.1 z;exact hcl y L
   .rw[bB]at z;cases D:l[j]? with
    |none=>rw[D]at z;cases z
    |some y=>rw[D]at z;simp at z;subst z;exact .f (hrr j y u D hu)
def ajh (l:Y AV):Le (Ro l) (.agg l):=by
 unfold Ro;split
 next z h=>rw[nU h];exact Le.aggF
 .exact Le.refl _
def kz.aggL {H':HF} {l':Y FV} (h:hP S H' r (l'.map .f)) (hc:∀x∈l',x.isCell=J):kz S H' (.agg r) (.f (.agg l')):=by
 intro φ E w v hrep D;cases D with
 |@agg _ vs L hcl hrr=>
  refine .f (.agg l' vs (by rw[L,<-h.length];simp) hc λj y u hy A=>?_);let⟨x,z,hle⟩:=h.get j (.f y) (by grind);have:=hle φ E w u hrep (hrr j x u z A);cases this with
  |f h=>exact h
def kz.I {H':HF} (d:rC S H') {n:Nat} {cells:Y FV} (h1:S i=Z ⟨s,.fz cells⟩) (h2:H' i=U) (hl:l! cells=n*j):kz S H' (.I i j n) (.f (.sl cells n)):=by
 intro φ E w v r hr;cases hr with
 |@I _ _ _ c k hφ hn hcap hsh=>
  let⟨k',L,q2,_⟩:=r.at_ i _ h1;rw[hφ]at L;cases L;let⟨arr,p1,p2,p3⟩:=r.cs h1 hφ rfl;have hk:k<w.heap.size:=(dE.1 p1).1;have hlen:l! cells<=arr.size:=by simpa[BC.toMx] using p3
  have hnk:¬tot E φ H' k:=by
   rintro (hE|⟨sz,b,D,A⟩)
   .exact q2 hE
   .obtain⟨b0,g3⟩:=d sz b D;have:=r.inj sz i b0 _ k g3 h1 A hφ
    grind
  have hget:∀(sz:Nat) x,cells[sz]? =Z x->∃u,arr[sz]? =Z u/\ny (tot E φ S) w x u:=λsz x z=>by
   have hj:sz<l! cells:=(bC.1 z).1;have hja:sz<arr.size:=by omega
   refine ⟨arr[sz],by simp[hja],?_⟩;have:=p2.2.2 sz (.f x) arr[sz] (by simp[BC.toMx,z]) (by
    rw[fc,aD (by simpa[BC.toMx] using hj),dc];simp[hja])
   cases this with
   |f h=>exact h
  refine .f (.sl cells n c k 0 (λsz=>(arr[sz]?).getD undef) hn hcap hnk hk (λx z=>?_) (λsz hj=>?_) (λsz x z=>?_))
  .have:=p2.2.1 (.f x) (by simp only[BC.toMx];exact cz.2 ⟨x,z,rfl⟩);exact this
  .have:sz<arr.size:=by omega
   simp[Sk,p1,this]
  .obtain⟨u,D,A⟩:=hget sz x z;rw[D];exact A.dom d
def uy:∀l:Y Xp,NT l=l.flatMap zL
 |[]=>rfl
 |x::r=>by rw[NT,uy r];rfl
def CK:∀l:Y Sx,NS l=l.flatMap BE
 |[]=>rfl
 |x::r=>by rw[NS,CK r];rfl
def NR (e:Xp):bE RE (Ss e)=zL e:=by
 cases e with
 |mk op n name l=>simp only[RE,Ss,bE,zL,Xp.op,Xp.n,Xp.name,Xp.l,uy];rfl
def W7 (x:RE.den):zL (eP x)=bE RE x:=by
 simp only[RE,eP,bE,zL,uy];rfl
def NQ (e:Sx):bE Ra (Sr e)=BE e:=by
 cases e with
 |mk op line name arg index expr body els=>simp only[Ra,Sr,bE,BE,Sx.op,Sx.line,Sx.name,Sx.arg,Sx.index,Sx.expr,Sx.body,Sx.els,uy,CK];rfl
def W6 (x:Ra.den):BE (o_ x)=bE Ra x:=by
 simp only[Ra,o_,bE,BE,uy,CK];rfl
def Bc (e:Xp):l! (zL e)=4:=by cases e;simp[zL]
def G4 (e:Sx):l! (BE e)=11:=by cases e;simp[BE,Bc]
def bm:∀(T:Ty) (v:T.den),l! (bE T v)=T.size
 |.int _,_|.bool,_|.str,_|.sl _,_=>rfl
 |.st t,v=>bm t v
 |.pr a b,v=>by simp[bE,Ty.size,bm a,bm b]
 |.un,_=>rfl
 |.ex,v=>Bc v
 |.sm,v=>G4 v
def NU (e:Xp):∀x∈zL e,x.isCell=J:=by
 cases e with
 |mk op n name l=>
  intro x z;simp[zL,aV,b8,fo]at z;rcases z with rfl|rfl|rfl|rfl<;>rfl
def ZU (e:Sx):∀x∈BE e,x.isCell=J:=by
 cases e with
 |mk op line name arg index expr body els=>
  intro x z;simp only[BE,bO,aV,b8,fo]at z;rcases z with (z|z)|z
  .rcases z with rfl|rfl|rfl|rfl|rfl<;>rfl
  .exact NU _ _ z
  .rcases z with rfl|rfl<;>rfl
def ph:∀(T:Ty) (v:T.den),∀x∈bE T v,x.isCell=J
 |.int _,_,x,z|.bool,_,x,z|.str,_,x,z|.sl _,_,x,z=>by simp[bE,aE]at z;subst z;rfl
 |.st t,v,x,z=>ph t v x z
 |.pr a b,v,x,z=>by
  simp[bE,bO]at z;exact z.elim (ph a v.1 x) (ph b v.2 x)
 |.un,_,x,z=>by simp[bE]at z
 |.ex,v,x,z=>NU v x z
 |.sm,v,x,z=>ZU v x z
def NX:∀(T:Ty) (v:T.den),T.one=J->bE T v=[gr T v]/\T.size=1
 |.int _,_,_|.bool,_,_|.str,_,_|.sl _,_,_=>⟨rfl,rfl⟩
 |.st _,_,h|.pr _ _,_,h|.un,_,h|.ex,_,h|.sm,_,h=>by cases h
def sq:∀(T:Ty) (v:T.den),T.one=af->gr T v= .agg (bE T v)
 |.int _,_,h|.bool,_,h|.str,_,h|.sl _,_,h=>by cases h
 |.st _,_,_|.pr _ _,_,_|.un,_,_|.ex,_,_|.sm,_,_=>rfl
def Dz (T:Ty) (v:T.den):(AV.f (gr T v)).cs=(bE T v).map .f:=by
 cases h:T.one with
 |true=>
  cases T<;>simp[Ty.one]at h<;>first|rfl|cases h
 |false=>rw[sq T v h];rfl
def eK {f:R->Y FV} (hf:∀x,l! (f x)=i):∀(xs:Y R),l! (xs.flatMap f)=l! xs*i
 |[]=>by simp
 |x::r=>by rw[gh,bz,hf,eK hf r,kn,jS];omega
def IQ {f:R->Y FV} (hf:∀x,l! (f x)=i):∀(xs:Y R) (j:Nat) (x:R),xs[j]? =Z x->∃r,(xs.flatMap f).drop (j*i)=f x++r
 |[],j,x,h=>by simp at h
 |y::r,j,x,h=>by
  cases j with
  |zero=>simp at h;subst h;exact⟨r.flatMap f,by simp⟩
  |succ j=>
   let⟨q,z⟩:=IQ hf r j x (by grind);refine ⟨q,?_⟩;rw[gh,show (j+1)*i=l! (f y)+j*i from by rw[hf,jS];omega,xu];simp[z]
def Nz {f:R->Y FV} (hf:∀x,l! (f x)=i):∀(xs:Y R) (j:Nat) (x z:R),xs[j]? =Z x->∀(off:Nat) (vs:Y FV),off+l! vs<=i->f z=AI.splice (f x) off vs->(xs.set j z).flatMap f=AI.splice (xs.flatMap f) (j*i+off) vs
 |[],j,x,z,h,_,_,_,_=>by simp at h
 |y::r,j,x,z,h,off,vs,hle,D=>by
  cases j with
  |zero=>
   simp at h;subst h;simp only[List.set_cons_zero,gh,D,Nat.zero_mul,bX];unfold AI.splice;have hy:=hf y;rw[List.take_append,xu];have A:off-l! (f y)=0:=by omega
   have e2:off+l! vs-l! (f y)=0:=by omega
   rw[A,e2];simp[ju]
  |succ j=>
   have L:=Nz hf r j x z (by simpa using h) off vs hle D;simp only[List.set_cons_succ,gh,L];unfold AI.splice;have hy:=hf y;have e0:(j+1)*i=l! (f y)+j*i:=by rw[hf,jS];omega
   rw[e0,List.take_append,xu];have A:l! (f y)+j*i+off-l! (f y)=j*i+off:=by omega
   have e2:l! (f y)+j*i+off+l! vs-l! (f y)=j*i+off+l! vs:=by omega
   rw[A,e2,gz (by omega:l! (f y)<=l! (f y)+j*i+off),De (by omega:l! (f y)<=l! (f y)+j*i+off+l! vs)];simp[ju]
def mD (T:Ty) (xs:Y T.den):∀x∈xs.flatMap (bE T),x.isCell=J:=λx z=>by
 let⟨y,_,h⟩:=xp.1 z;exact ph T y x h
def iP {T:Ty} {v:K.den} {x:T.den} (h:wU T v=Z x):∃e:K=T,x=e▸v:=by
 unfold wU at h
 grind
def nh (h:aY):∀(n:Nat) (T:Ty) (v:T.den) (l:Y TV),cellsOf n T v=Z l->cN h l=Z ((bE T v).map .f)/\lX l=J
 |0,_,_,_,he=>by simp[cellsOf]at he
 |n+1,.st t,v,l,he=>nh h n t v l he
 |n+1,.pr a b,v,l,he=>by
  simp[cellsOf]at he;split at he
  .rename_i x y L D;simp[ah]at he;subst he;let⟨h1,A⟩:=nh h n a v.1 x L;let⟨h3,h4⟩:=nh h n b v.2 y D;refine ⟨by rw[bE,cG];exact oO h1 h3,?_⟩;clear h1 h3 L D;induction x with
   |nil=>exact h4
   |cons z r ih=>simp[lX,al,gR]at A ⊢;exact⟨A.1,ih A.2⟩
  .cases he
 |n+1,.un,v,l,he=>by simp[cellsOf,ah]at he;subst he;exact⟨rfl,rfl⟩
 |n+1,.ex,v,l,he=>by rw[bE,<-NR];exact nh h n RE (Ss v) l he
 |n+1,.sm,v,l,he=>by rw[bE,<-NQ];exact nh h n Ra (Sr v) l he
 |n+1,.int k,v,l,he|n+1,.bool,v,l,he|n+1,.str,v,l,he|n+1,.sl t,v,l,he=>by simp[cellsOf,ah]at he;subst he;exact⟨rfl,rfl⟩
def S1 (h:y.isCell=J):y.cs=[y]:=by
 cases y with
 |f x=>cases x<;>first|rfl|cases h
 |agg l=>cases h
 |_=>rfl
def Ky (A:u.cs=Z m) (D:bW h u=Z y):cN h m=Z y.cs/\lX m=J:=by
 have one:(if u.isC then Z [u] else U)=Z m->cN h m=Z y.cs/\lX m=J:=λA=>by
  split at A
  next L=>simp[ah]at A;subst A;exact⟨by rw[S1 (Tk D L)];exact qC D rfl,by simp[lX,L]⟩
  .cases A
 cases u with
 |agg q=>
  simp only[TV.cs]at A;split at A
  .rename_i L;simp[ah]at A;subst A;simp[bW]at D;split at D
   next l' hl=>simp[ah]at D;subst D;exact⟨hl,L⟩
   .cases D
  .cases A
 |f T x=>
  simp[bW,ah]at D;subst D;rw[Dz];exact nh h 40 T x m A
 |_=>exact one A
def Fy (h:aY) (H H':HF) (m:Nat):Prop:=∀id,aL m id=J->H (nm id)=erHF h (nm id)/\H' (nm id)=U
def Fy.zero {H':HF}:Fy h S H' 0:=λid hid=>by simp at hid
def Fy.or {H':HF} (g:Fy h S H' (i|||j)):Fy h S H' i/\Fy h S H' j:=
 ⟨λid hid=>g id (by grind),λid hid=>g id (by grind)⟩
def bq :aL (gF i) j=J↔i=j:=by
 unfold gF;rw[Nat.one_shiftLeft,Nat.testBit_two_pow];simp
section pack
variable {h:aY} {H H':HF}
def Bk (d:rC H H') {x:K.den} (A:iB h K u=Z (x,i)) (D:bW h u=Z y) (g:Fy h H H' i):kz H H' y (.f (gr K x))/\l! y.cs=K.size/\(K.one=J->y.isCell=J)/\hP H H' y.cs ((bE K x).map .f):=by
 cases u with
 |f S u=>
  simp[iB]at A;split at A
  next z L=>obtain⟨rfl,_⟩:=A;obtain⟨e,rfl⟩:=iP L;subst e;simp[bW,ah]at D;subst D;refine ⟨kz.refl d _,by rw[Dz,bM,bm],λho=>?_,by rw[Dz];exact hP.refl d _⟩;cases S<;>simp[Ty.one]at ho<;>first|rfl|cases ho
  .cases A
 |emp=>
  simp[iB]at A;split at A
  .simp[ah,aR]at A;obtain⟨rfl,_⟩:=A;simp[bW,ah]at D;subst D;exact⟨Le.emp.toH d,rfl,λ_=>rfl,⟨Le.emp.toH d,trivial⟩⟩
  .cases A
 |nil=>
  simp[iB]at A;split at A
  .simp[ah,aR]at A;obtain⟨rfl,_⟩:=A;simp[bW,ah]at D;subst D;exact⟨Le.nil.toH d,rfl,λ_=>rfl,⟨Le.nil.toH d,trivial⟩⟩
  .cases A
 |I id=>
  simp[iB]at A;split at A
  .rename_i ty p S xs hb;split at A
   .rename_i z L;obtain⟨rfl,rfl⟩:=A;obtain⟨e,rfl⟩:=iP L;subst e;let⟨g1,g2⟩:=g id (bq.2 rfl);rw[bJ,hb]at g1;simp[bW,eQ,hb,ah]at D;subst D;have key:kz H H' (dA p id S.size (l! xs)) (.f (gr (.sl S) xs)):=by
     unfold dA;split
     next hp=>simp only[al,c4]at hp;have:xs=[]:=dk.1 hp.2;subst this;exact Le.emp.toH d
     next hp=>simp only[aF,kJ,av hp]at g1;exact kz.I d g1 g2 (eK (bm S) xs)
    have hc:(dA p id S.size (l! xs)).isCell=J:=by unfold dA;split<;>rfl
    refine ⟨key,by rw[S1 hc];rfl,λ_=>hc,?_⟩;rw[S1 hc];exact⟨key,trivial⟩
   .cases A
  .cases A
 |_=>simp[iB]at A
def rH (d:rC H H'):∀(n:Nat) (T:Ty) (l:Y TV) (x:T.den) (m:Nat) (r:Y TV) (l':Y AV),fK h n T l=Z (x,m,r)->cN h l=Z l'->Fy h H H' m->∃l1 A,l'=l1++A/\cN h r=Z A/\hP H H' l1 ((bE T x).map .f)
 |0,_,_,_,_,_,_,hp,_,_=>by simp[fK]at hp
 |n+1,.st t,l,x,m,r,l',hp,z,g=>rH d n t l x m r l' hp z g
 |n+1,.pr a b,l,x,m,r,l',hp,z,g=>by
  simp[fK]at hp;split at hp
  .rename_i D m1 r1 h1;split at hp
   next x2 m2 r2 h2=>simp[ah,aR]at hp;obtain⟨rfl,rfl,rfl⟩:=hp;let⟨ga,gb⟩:=g.or;obtain⟨l1,A,rfl,q1,L⟩:=rH d n a l D m1 r1 l' h1 z ga;obtain⟨l3,l4,rfl,q3,q4⟩:=rH d n b r1 x2 m2 r2 A h2 q1 gb;refine ⟨l1++l3,l4,by simp,q3,?_⟩;rw[bE,cG];exact L.append q4
   .cases hp
  .cases hp
 |n+1,.un,l,x,m,r,l',hp,z,g=>by
  obtain⟨_,_,rfl⟩:=hp;exact⟨[],l',rfl,z,trivial⟩
 |n+1,.ex,l,x,m,r,l',hp,z,g=>by
  simp[fK]at hp;split at hp
  next D m1 r1 h1=>simp[ah,aR]at hp;obtain⟨rfl,rfl,rfl⟩:=hp;rw[bE,W7];exact rH d n RE l D m1 r1 l' h1 z g
  .cases hp
 |n+1,.sm,l,x,m,r,l',hp,z,g=>by
  simp[fK]at hp;split at hp
  next D m1 r1 h1=>simp[ah,aR]at hp;obtain⟨rfl,rfl,rfl⟩:=hp;rw[bE,W6];exact rH d n Ra l D m1 r1 l' h1 z g
  .cases hp
 |n+1,.int k,l,x,m,r,l',hp,z,g|n+1,.bool,l,x,m,r,l',hp,z,g|n+1,.str,l,x,m,r,l',hp,z,g|n+1,.sl t,l,x,m,r,l',hp,z,g=>by
  simp[fK]at hp;split at hp
  .rename_i c q;split at hp
   next D m1 h1=>obtain⟨rfl,rfl,rfl⟩:=hp;obtain⟨y,A,rfl,q1,L⟩:=c6 z;exact⟨[y],A,rfl,L,⟨(Bk d h1 q1 g).1,trivial⟩⟩
   .cases hp
  .cases hp
def YY (d:rC H H') {x:K.den} {l:Nat} (hp:fK h i K m=Z (x,l,[])) (D:cN h m=Z r) (g:Fy h H H' l):hP H H' r ((bE K x).map .f):=by
 obtain⟨l1,L,rfl,z,A⟩:=rH d i K m x l [] r hp D g;simp[cN,ah]at z;subst z;simpa using A
def UB (d:rC H H') {x:K.den} (A:FE h K u=Z (x,i)) (D:bW h u=Z y) (g:Fy h H H' i):kz H H' y (.f (gr K x))/\hP H H' y.cs ((bE K x).map .f):=by
 have other:iB h K u=Z (x,i)->kz H H' y (.f (gr K x))/\hP H H' y.cs ((bE K x).map .f):=λA=>by
  let⟨h1,_,_,h2⟩:=Bk d A D g;exact⟨h1,h2⟩
 cases u with
 |agg l=>
  simp only[FE]at A;split at A
  .cases A
  .rename_i ho;split at A
   .rename_i L m1 h1;simp[ah,aR]at A;obtain⟨rfl,rfl⟩:=A;simp[bW]at D;split at D
    next l' hl=>simp[ah]at D;subst D;have:=YY d h1 hl g;refine ⟨?_,this⟩;rw[sq K L (by grind)];exact kz.aggL this (ph K L)
    .cases D
   .cases A
 |_=>exact other A
def Ga (d:rC H H') :∀(n:Nat) (l:Y TV) (xs:Y K.den) (m:Nat) (l':Y AV),Ec h K n l=Z (xs,m)->cN h l=Z l'->Fy h H H' m->hP H H' l' ((xs.flatMap (bE K)).map .f)/\l! xs=n
 |0,[],xs,m,l',hp,z,g=>by
  obtain⟨rfl,_⟩:=hp;simp[cN,ah]at z;subst z;exact⟨trivial,rfl⟩
 |0,_::_,xs,m,l',hp,z,g=>by simp[Ec]at hp
 |n+1,l,xs,m,l',hp,z,g=>by
  simp[Ec]at hp;split at hp
  .rename_i L m1 A h1;split at hp
   next D m2 h2=>obtain⟨rfl,rfl⟩:=hp;let⟨ga,gb⟩:=g.or;obtain⟨l1,l2,rfl,q1,q2⟩:=rH d 40 K l L m1 A l' h1 z ga;let⟨q3,q4⟩:=Ga d n A D m2 l2 h2 q1 gb;refine ⟨?_,by simp[q4]⟩;rw[gh,cG];exact q2.append q3
   .cases hp
  .cases hp
def uw (h:aY):∀(n:Nat) (T:Ty) (v:T.den) (off sz:Nat) (L:Bool) (u:TV),oq n T v off sz L=Z u->off+sz<=T.size/\∃y,bW h u=Z (.f y)/\(L=af->sz=1/\(bE T v)[off]? =Z y)/\(L=J->y= .agg (((bE T v).drop off).take sz))
 |0,_,_,_,_,_,_,z=>by simp[oq]at z
 |n+1,.st t,v,off,sz,L,u,z=>by
  simp only[oq]at z;split at z
  next D=>simp only[al]at D;obtain⟨⟨h1,A⟩,rfl⟩:=D;have h1:=au h1;have A:=au A;subst h1 A;cases z;refine ⟨by simp[Ty.size],_,rfl,nofun,λ_=>?_⟩;simp only[gr,bE,List.drop_zero];rw[<- bm t v,cQ]
  .exact uw h n t v off sz L u z
 |n+1,.pr a b,v,off,sz,L,u,z=>by
  simp only[oq]at z;have hla:=bm a v.1;have hlb:=bm b v.2;split at z
  .rename_i hlt;have hlt:off<a.size:=aU hlt;let⟨h1,y,A,h3,h4⟩:=uw h n a v.1 off sz L u z;refine ⟨by simp only[Ty.size];omega,y,A,λe=>?_,λe=>?_⟩
   .obtain⟨h5,h6⟩:=h3 e;exact⟨h5,by rw[bE,bL (by omega)];exact h6⟩
   .rw[h4 e,bE]
    grind
  .rename_i hlt;have hlt:¬off<a.size:=λh=>hlt (a_ h)
   let⟨h1,y,A,h3,h4⟩:=uw h n b v.2 (off-a.size) sz L u z;refine ⟨by simp only[Ty.size];omega,y,A,λe=>?_,λe=>?_⟩
   .obtain⟨h5,h6⟩:=h3 e;exact⟨h5,by rw[bE,b_ (by omega),hla];exact h6⟩
   .rw[h4 e,bE];have:(bE a v.1++bE b v.2).drop off=(bE b v.2).drop (off-a.size):=by
     rw[xu,hla,De (by omega)];simp
    rw[this]
 |n+1,.un,v,off,sz,L,u,z=>by simp[oq]at z
 |n+1,.ex,v,off,sz,L,u,z=>by
  simp only[oq]at z;split at z
  next D=>simp only[al]at D;obtain⟨⟨h1,A⟩,rfl⟩:=D;have h1:=au h1;have A:=au A;subst h1 A;cases z;refine ⟨by simp[Ty.size],_,rfl,nofun,λ_=>?_⟩;simp only[gr,bE,List.drop_zero];rw[<- Bc v,cQ]
  .obtain⟨h1,y,A,h3,h4⟩:=uw h n RE (Ss v) off sz L u z;rw[NR]at h3 h4;exact⟨h1,y,A,h3,h4⟩
 |n+1,.sm,v,off,sz,L,u,z=>by
  simp only[oq]at z;split at z
  next D=>simp only[al]at D;obtain⟨⟨h1,A⟩,rfl⟩:=D;have h1:=au h1;have A:=au A;subst h1 A;cases z;refine ⟨by simp[Ty.size],_,rfl,nofun,λ_=>?_⟩;simp only[gr,bE,List.drop_zero];rw[<- G4 v,cQ]
  .obtain⟨h1,y,A,h3,h4⟩:=uw h n Ra (Sr v) off sz L u z;rw[NQ]at h3 h4;exact⟨h1,y,A,h3,h4⟩
 |n+1,.int k,v,off,sz,L,u,z|n+1,.bool,v,off,sz,L,u,z|n+1,.str,v,off,sz,L,u,z|n+1,.sl t,v,off,sz,L,u,z=>by
  simp only[oq]at z;split at z
  next D=>simp only[al,ca]at D;obtain⟨⟨h1,A⟩,rfl⟩:=D;have h1:=au h1;have A:=au A;subst h1 A;cases z;exact⟨by simp[Ty.size],_,rfl,λ_=>⟨rfl,rfl⟩,nofun⟩
  .cases z
def YL (l vs:Y R) (h:l! vs=l! l):AI.splice l 0 vs=vs:=by
 unfold AI.splice
 grind
def U8 (a b vs:Y R) (off:Nat) (h:off+l! vs<=l! a):AI.splice (a++b) off vs=AI.splice a off vs++b:=by
 unfold AI.splice
 grind
def SD (a b vs:Y R) (off:Nat) (h:l! a<=off):AI.splice (a++b) off vs=a++AI.splice b (off-l! a) vs:=by
 unfold AI.splice;rw[List.take_append,xu,gz h,De (by omega),show off+l! vs-l! a=off-l! a+l! vs from by omega];simp[ju]
def Sd (H H':HF) (y:AV) (T:Ty) (v z:T.den) (off sz:Nat):Prop:=∃A:Y FV,hP H H' y.cs (A.map .f)/\l! A=sz/\off+sz<=T.size/\bE T z=AI.splice (bE T v) off A/\∀x∈A,x.isCell=J
def Sd.whole {v z:K.den} (h0:i=0) (A:j=K.size) (D:hP H H' y.cs ((bE K z).map .f)):Sd H H' y K v z i j:=by
 subst h0 A;exact⟨bE K z,D,bm K z,by omega,(YL _ _ (by rw[bm,bm])).symm,ph K z⟩
def ub (d:rC H H') (L:bW h u=Z y):∀(n:Nat) (T:Ty) (v:T.den) (off sz:Nat) (z:T.den) (m:Nat),gW h u n T v off sz=Z (z,m)->Fy h H H' m->Sd H H' y T v z off sz
 |0,_,_,_,_,_,_,A,_=>by simp[gW]at A
 |n+1,.st t,v,off,sz,z,m,A,g=>by
  simp only[gW]at A;split at A
  .rename_i q hq;split at hq
   next D=>simp only[al]at D;simp only[ah]at A;subst A;exact .whole (au D.1) (au D.2) (UB d hq L g).2
   .cases hq
  .exact ub d L n t v off sz z m A g
 |n+1,.pr a b,v,off,sz,z,m,A,g=>by
  simp only[gW]at A;have hla:=bm a v.1;split at A
  .rename_i hlt;split at A
   next z1 m1 h1=>simp only[ah,aR]at A;obtain⟨rfl,rfl⟩:=A;let⟨fs,q1,q2,q3,q4,q5⟩:=ub d L n a v.1 off sz z1 m1 h1 g;refine ⟨fs,q1,q2,by simp only[Ty.size];omega,?_,q5⟩;rw[bE,bE,U8 _ _ _ _ (by omega),q4]
   .cases A
  .rename_i hlt;have hlt:¬off<a.size:=λh=>hlt (a_ h)
   split at A
   next z1 m1 h1=>simp only[ah,aR]at A;obtain⟨rfl,rfl⟩:=A;let⟨fs,q1,q2,q3,q4,q5⟩:=ub d L n b v.2 (off-a.size) sz z1 m1 h1 g;refine ⟨fs,q1,q2,by simp only[Ty.size];omega,?_,q5⟩;rw[bE,bE,SD _ _ _ _ (by omega),q4,hla]
   .cases A
 |n+1,.un,v,off,sz,z,m,A,g=>by simp[gW]at A
 |n+1,.ex,v,off,sz,z,m,A,g=>by
  simp only[gW]at A;split at A
  .rename_i q hq;split at hq
   next D=>simp only[al]at D;simp only[ah]at A;subst A;exact .whole (au D.1) (au D.2) (UB d hq L g).2
   .cases hq
  .split at A
   next z1 m1 h1=>simp only[ah,aR]at A;obtain⟨rfl,rfl⟩:=A;let⟨fs,q1,q2,q3,q4,q5⟩:=ub d L n RE (Ss v) off sz z1 m1 h1 g;exact⟨fs,q1,q2,q3,by rw[bE,bE,W7,q4,NR],q5⟩
   .cases A
 |n+1,.sm,v,off,sz,z,m,A,g=>by
  simp only[gW]at A;split at A
  .rename_i q hq;split at hq
   next D=>simp only[al]at D;simp only[ah]at A;subst A;exact .whole (au D.1) (au D.2) (UB d hq L g).2
   .cases hq
  .split at A
   next z1 m1 h1=>simp only[ah,aR]at A;obtain⟨rfl,rfl⟩:=A;let⟨fs,q1,q2,q3,q4,q5⟩:=ub d L n Ra (Sr v) off sz z1 m1 h1 g;exact⟨fs,q1,q2,q3,by rw[bE,bE,W6,q4,NQ],q5⟩
   .cases A
 |n+1,.int k,v,off,sz,z,m,A,g|n+1,.bool,v,off,sz,z,m,A,g|n+1,.str,v,off,sz,z,m,A,g|n+1,.sl t,v,off,sz,z,m,A,g=>by
  simp only[gW]at A;split at A
  next D=>simp only[al]at D;exact .whole (au D.1) (au D.2) (Bk d A L g).2.2.2
  .cases A
def O1:∀{a b:ξ},X4 a b=J->a=b
 |[],[],_=>rfl
 |[],_::_,h|_::_,[],h=>by cases h
 |x::xs,y::ys,h=>by
  simp[X4,al]at h;rw[apz h.1,O1 h.2]
def zero_ok (d:rC H H'):∀T:Ty,hP H H' ((vb T).map raw) ((bE T T.zero).map .f)
 |.int k|.bool|.str=>⟨kz.refl d _,trivial⟩
 |.sl t=>⟨Le.nil.toH d,trivial⟩
 |.st t=>zero_ok d t
 |.pr a b=>by
  simp[vb,Ty.zero,bE,cG];exact (zero_ok d a).append (zero_ok d b)
 |.un=>trivial
 |.ex=>⟨kz.refl d _,kz.refl d _,kz.refl d _,Le.nil.toH d,trivial⟩
 |.sm=>⟨kz.refl d _,kz.refl d _,kz.refl d _,kz.refl d _,Le.nil.toH d,kz.refl d _,kz.refl d _,kz.refl d _,Le.nil.toH d,Le.nil.toH d,Le.nil.toH d,trivial⟩
def LI (d:rC H H') (T:Ty):∀n,hP H H' ((repl (vb T) n).map .f) (((aC n T.zero).flatMap (bE T)).map .f)
 |0=>trivial
 |n+1=>by
  rw[repl,yE,gh,cG,cG];have h1:=zero_ok (H:=H) (H':=H') d T;have:((vb T).map .raw).map AV.f=(vb T).map raw:=by rw[kX];rfl
  rw[this];exact h1.append (LI d T n)
end pack
structure hX (h:aY) (nx:Nat):Prop where
 G:∀id ty l,h.get id=Z (.G ty l)->l8 h l=J
 low:∀id b,h.get id=Z b->id<nx
def sM (e:ii) (h:aY):Prop:=∀t v,e.get t=Z v->P0 h v=J
structure fw (P:Program) (o:Oper) (still:Bool) (e:ii) (h:aY) (nx:Nat) (v:TV) (rd wr:Nat) (h':aY) (nx':Nat):Prop where
 ex:∃f:EJ,gE P o (fR e h) (erHF h) f/\(∀y,bW h' v=Z y->f.val=y)/\fy (erHF h) f.wr f.nw=erHF h'/\(∀n∈f.rd,aL rd (ow n)=J)/\(∀n∈f.wr,aL wr (ow n)=J)/\(∀n∈f.N,nx<=ow n/\ow n<nx')
 H:bV h h'
 inv:hX h' nx'
 jd:nx<=nx'
 st:still=J->rd=0/\wr=0
def je (P:Program) (o:Oper) (still:Bool) (e:ii) (h:aY) (nx:Nat) (K:KO R) (r:R):Prop:=
 ∃v rd z h' nx',K v rd z h' nx'=Z r/\fw P o still e h nx v rd z h' nx'
variable {b:Bool}
def cI {k:b=J->M R} {r:R} (h:chk b k=Z r):∃z:b=J,k z=Z r:=by
 cases b with
 |true=>exact⟨rfl,h⟩
 |false=>cases h
def lV {t f:M R} {r:R} (h:aI b t f=Z r):(b=J/\t=Z r)\/(b=af/\f=Z r):=by
 cases b with
 |true=>exact .inl ⟨rfl,h⟩
 |false=>exact .inr ⟨rfl,h⟩
def d_ {α:Type} {o:M α} {k:α->M R} {r:R} (h:aB o k=Z r):∃x,o=Z x/\k x=Z r:=by
 cases o with
 |some x=>exact⟨x,rfl,h⟩
 |none=>cases h
variable {a:Int}
def mZ (h:dO a i=J):0<=a/\a<i/\a.toNat<i:=by
 simp[dO,dg,gC,al,bG]at h;omega
def gE.envLe {o:Oper} {e e2:EF} {f:EJ} (ht:gE T o e S f) (hle:∀t y,.tmp t∈o.op.operands->e t=Z y->∃A,e2 t=Z A/\Le A y):gE T o e2 S f:=by
 intro φ E h' w a h1 h2 h3 h4 L;refine ht φ E h' w a h1 h2 (λt z y D=>?_) h4 L;let⟨A,g1,g2⟩:=hle t y z D;exact g2 _ _ _ _ (h3 t z A g1)
def OF (h:aY) (z:cst v=Z u):bW h u=Z (raw v)/\v.oneCell'=J/\u.isC=J:=by
 unfold cst at z;split at z<;>cases z<;>exact⟨rfl,rfl,rfl⟩
def xU (h:aY):∀{z:ξ} {l:Y TV},OE z=Z l->cN h l=Z (z.map raw)/\(∀x∈z,x.oneCell'=J)/\lX l=J
 |[],l,A=>by simp[OE,ah]at A;subst A;exact⟨rfl,by simp,rfl⟩
 |v::r,l,A=>by
  simp[OE]at A;split at A
  .rename_i x l' D L;simp[ah]at A;subst A;let⟨h1,h2,h3⟩:=OF h D;let⟨h4,h5,h6⟩:=xU h L;refine ⟨qC h1 h4,λy hy=>?_,by simp[lX,h3,h6]⟩
   grind
  .cases A
variable {c:Operand}
def ba {e:ii} (hi:sM e h) (z:dH e c=Z u):∃y,me (D2 e h) c=Z y/\bW h u=Z y:=by
 cases c with
 |tmp t=>
  simp[dH]at z;let⟨y,D⟩:=pn h u (hi t u z);refine ⟨y,?_,D⟩;simp[me];rw[Dx];simp[fR,z,aF,D]
 |const x=>
  simp[dH]at z;unfold au4 at z;split at z
  .rename_i vs;split at z
   .rename_i h1;split at z
    next l L=>simp[ah]at z;subst z;refine ⟨.agg (vs.toList.map raw),?_,by simp[bW,(xU h L).1]⟩;simp only[me,I8,h1,bk];rfl
    .cases z
   .cases z
  .rename_i hn;refine ⟨raw x,?_,(OF h z).1⟩;simp[me];unfold I8;split
   .grind
   .rfl
 |func g=>
  simp[dH,ah]at z;subst z;exact⟨_,rfl,rfl⟩
 |global g=>
  simp[dH]at z;cases A:G g with
  |none=>rw[A]at z;cases z
  |some cells=>
   rw[A]at z;simp[ah]at z;subst z;have hcells:cells=Gp:=by
    unfold G at A
    grind
   subst hcells;exact⟨_,by simp[me,A];rfl,rfl⟩
def Gg {e:ii} (hi:sM e h):∀{xs:Y Operand} {l:Y TV},Mz e xs=Z l->∃l',evs (D2 e h) xs=Z l'/\cN h l=Z l'
 |[],l,z=>by simp[Mz,ah]at z;subst z;exact⟨[],rfl,rfl⟩
 |x::xs,l,z=>by
  simp[Mz]at z;split at z
  .rename_i y D;split at z
   next ys hys=>simp[ah]at z;subst z;let⟨A,h1,h2⟩:=ba hi D;let⟨l',h3,L⟩:=Gg hi hys;exact⟨A::l',by simp[evs,h1,h3],qC h2 L⟩
   .cases z
  .cases z
section ops
variable {R:Type} {P:Program} {o:Oper} {e:ii} {h:aY} {nx:Nat} {K:KO R} {r:R}
def fw.pure {s:UU} (hinv:hX h nx) (hc:cP P o.op=Z s) {a:nz} (hH:a.get=erHF h) {k:Nat} {y0:AV} {rdl:ι} (ha:dG s (D2 e h) a k=Z ⟨y0,rdl,[],[],[]⟩) (D:∀y,bW h u=Z y->Le y0 y) (hrd:∀n∈rdl,aL i (ow n)=J) (hst:b=J->i=0):fw P o b e h nx u i 0 h nx:=by
 have ht:=MA hc ha;rw[Dx,hH]at ht;refine ⟨?_,λ_ _ h=>h,hinv,bK _,λL=>⟨hst L,rfl⟩⟩;have key:∀y,Le y0 y->gE P o (fR e h) (erHF h) ⟨y,rdl,[],j8 [],[]⟩:=λy hle=>
  gE.view ht (λrd hi=>by cases hi) λh' _ _=>⟨Pd.refl _,hle.toH (rC.refl _)⟩
 cases A:bW h u with
 |none=>exact⟨_,ht,λy z=>by simp at z,by simp[DF.eff,vV],hrd,by simp[DF.eff],by simp[DF.eff]⟩
 |some y=>exact⟨_,key y (D y A),λy' z=>by simpa using z,by simp[vV],hrd,by simp,by simp⟩
def je.q {s:UU} (hinv:hX h nx) (L:cP P o.op=Z s) {k:Nat} {y0:AV} (ha:∀H:nz,H.get=erHF h->dG s (D2 e h) H k=rv y0) (A:∀y,bW h u=Z y->Le y0 y) (D:K u 0 0 h nx=Z r):je P o b e h nx K r:=by
 let⟨H,z⟩:=gJ h;exact⟨u,0,0,h,nx,D,fw.pure hinv L z (ha H z) A (by simp) λ_=>rfl⟩
def cM (A:bW h u=Z y):∀y0,bW h u=Z y0->Le y y0:=λy0 z=>by rw[A]at z;cases z;exact Le.refl _
def ai5 {T:Ty} {xs:Y T.den} (L:dO a (l! xs)=J) {sz:Nat} (hg:oq 40 T (geti _ xs a) i sz b=Z u):
 ∃y,bW h u=Z (.f y)/\(BC.fz (xs.flatMap (bE T))).sub? (a.toNat*T.size+i) sz b=Z (.f y):=by
 let⟨h1,y,h2,h3,h4⟩:=uw h 40 T _ i sz b u hg;refine ⟨y,h2,?_⟩;let⟨_,_,hlt⟩:=mZ L;have D:xs[a.toNat]? =Z (geti _ xs a):=by
  unfold geti;rw[aw,aG hlt];rfl
 let⟨q,A⟩:=IQ (bm T) xs a.toNat _ D;have hlen:=eK (bm T) xs;have hle:(a.toNat+1)*T.size<=l! xs*T.size:=cJ _ hlt;rw[jS]at hle;have hl:=bm T (geti _ xs a);cases b with
 |false=>
  let⟨h5,h6⟩:=h3 rfl;subst h5;simp only[BC.sub?,BC.get];have:(xs.flatMap (bE T))[a.toNat*T.size+i]? =Z y:=by
   rw[<- tP,A,bL (by omega)];exact h6
  rw[this];rfl
 |true=>
  simp only[BC.sub?];rw[aD (a_ (by omega)),h4 rfl,<-List.drop_drop,A,List.drop_append_of_le_length (by omega),sU (by grind)]
def arf {T:Ty} {v:T.den} (A:oq 40 T v i j b=Z u):
 ∃y,bW h u=Z (.f y)/\(BC.fz (bE T v)).sub? i j b=Z (.f y):=by
 let⟨h1,y,h2,h3,h4⟩:=uw h 40 T _ i j b u A;refine ⟨y,h2,?_⟩;have hl:=bm T v;cases b with
 |false=>
  let⟨L,D⟩:=h3 rfl;subst L;simp only[BC.sub?,BC.get,D];rfl
 |true=>
  simp[BC.sub?];simp_all
def abl {l':Y AV} (A:cN h m=Z l') (z:YI m i j b=Z u):∃y,bW h u=Z y/\(BC.mx l').sub? i j b=Z y:=by
 cases b with
 |false=>
  simp only[YI]at z;split at z
  next h1=>have h1:=au h1;subst h1;let⟨y,D,h3⟩:=mE A i u z;exact⟨y,h3,by simp[BC.sub?,BC.get,D]⟩
  .cases z
 |true=>
  simp only[YI]at z;split at z
  next h1=>simp[ah]at z;subst z;have D:=IX j (IZ i A);exact⟨.agg ((l'.drop i).take j),by simp[bW,D],by simp[BC.sub?,iH A,h1,bk]⟩
  .cases z
def VV (z:lenOf h u=Z i) (A:bW h u=Z y):y.slen=Z i:=by
 unfold lenOf at z;split at z
 .simp[ah]at z;subst z;simp[bW,ah]at A;subst A;rfl
 .simp[ah]at z;subst z;simp[bW,ah]at A;subst A;rfl
 .simp[ah]at z;subst z;simp[bW,ah]at A;subst A;rfl
 .rename_i id;simp[bW]at A;cases D:eQ h id with
  |none=>rw[D]at z;cases z
  |some q=>
   rw[D]at z A;simp[ah]at z A;subst z A;unfold dA;split
   next hp=>simp[al,c4]at hp;rw[hp.2];rfl
   .rfl
 .simp[ah]at z;subst z;simp[bW,ah]at A;subst A;rfl
 .simp[ah]at z;subst z;simp[bW,ah]at A;subst A;simp only[Ld,uM];split
  next hp=>rw[c4]at hp;rw[hp];rfl
  .rfl
 .cases z
def HG (a b:ζ):t7 ⟨a.toArray⟩ ⟨b.toArray⟩=decide (a=b):=by
 unfold t7
 grind
def apy {op:BinOp} {v:TV} {q:TV->M R} (z:auc op u v q=Z r):∃a b c t,bW h u=Z (raw a)/\bW h v=Z (raw b)/\xg op a b=Z c/\bW h t=Z (raw c)/\q t=Z r:=by
 unfold auc at z;split at z
 .rename_i k a D b;split at z
  .rename_i hkk;have hkk':k=D:=by grind
   subst hkk';refine ⟨.int k a,.int k b,?_⟩;cases op<;>simp[reduceCtorEq]at z<;>first
    |cases z
    |exact⟨_,_,rfl,rfl,(by simp[xg,cr,bk]<;>rfl),rfl,z⟩
    |(let⟨L,z⟩:=cI z
      have A:(b==(0:Int))=af:=by grind
      exact⟨_,_,rfl,rfl,by simp[xg,cr,bk,A,cL,dF],rfl,z⟩)
  .cases z
 .rename_i a b;refine ⟨.string ⟨jT a⟩,.string ⟨jT b⟩,?_⟩;split at z
  .exact⟨.bool (decide ((a:ζ)=b)),_,rfl,rfl,by simp[xg,HG],rfl,z⟩
  .exact⟨.bool (!decide ((a:ζ)=b)),_,rfl,rfl,by simp[xg,HG],rfl,z⟩
  .cases z
 .cases z
def adz {T:Ty}:∀{l:Y TV} {xs:Y T.den},z_ T l=Z xs->∀k,k<l! l->l[k]? =Z (.f T (xs.getD k T.zero))
 |[],xs,_,k,A=>by simp at A
 |.f S v::r,xs,z,k,A=>by
  simp[z_]at z;split at z
  .rename_i x D;split at z
   .rename_i l L;simp[ah]at z;subst z;let⟨es,ex⟩:=iP D;cases es;subst ex;cases k with
    |zero=>rfl
    |succ k=>simpa using adz L k (by grind)
   .cases z
  .cases z
 |.zf _ _ _ _ _::r,xs,z,k,A|.zj _ _ _ _::r,xs,z,k,A|.P _ _::r,xs,z,k,A|.qg _ _ _::r,xs,z,k,A|.I _::r,xs,z,k,A|.emp::r,xs,z,k,A|.nil::r,xs,z,k,A|.mp _::r,xs,z,k,A|.agg _::r,xs,z,k,A|.qb _::r,xs,z,k,A|.qy _ _::r,xs,z,k,A|.undef::r,xs,z,k,A|.np::r,xs,z,k,A|.qw::r,xs,z,k,A|.qc _ _::r,xs,z,k,A|.sb _::r,xs,z,k,A=>by simp[z_]at z
def ady {T:Ty} {xs:Y T.den} (z:alu m=Z ⟨T,xs⟩):∀k,k<l! m->m[k]? =Z (.f T (xs.getD k T.zero)):=by
 unfold alu at z;split at z
 .split at z
  next D A=>cases z;exact adz A
  .cases z
 .cases z
variable (hinv:hX h nx) (hi:sM e h)
include hinv hi
variable {X:FuncId->M cw} {W:TypeId->M Ty}
def K_mv (D:cP P o.op=Z (.mv c)) (z:eO X W (.op (.mv c)) e h nx K=Z r):je P o b e h nx K r:=by
 simp[eO]at z;split at z
 next v A=>let⟨y,h1,L⟩:=ba hi A;exact je.q (k:=0) hinv D (λH _=>by simp[dG,h1]) (cM L) z
 .cases z
def aw0 {a st:Operand} (hc:cP P o.op=Z (.pick c a st)) (D:eO X W (.op (.pick c a st)) e h nx K=Z r):je P o b e h nx K r:=by
 simp[eO]at D;split at D
 .rename_i t hv;let⟨y,h1,h2⟩:=ba hi hv;simp[bW,ah]at h2;subst h2;rcases lV D with ⟨rfl,z⟩|⟨rfl,z⟩
  .split at z
   next v A=>let⟨y2,h3,L⟩:=ba hi A;exact je.q (k:=0) hinv hc (λH _=>by simp[dG,h1,gr,bk,h3]) (cM L) z
   .cases z
  .split at z
   next v A=>let⟨y2,h3,L⟩:=ba hi A;exact je.q (k:=0) hinv hc (λH _=>by simp[dG,h1,gr,h3,cL,dF]) (cM L) z
   .cases z
 .cases D
def aw1 (hc:cP P o.op=Z (.zl c)) (D:eO X W (.op (.zl c)) e h nx K=Z r):je P o b e h nx K r:=by
 simp[eO]at D;split at D;all_goals first
  |(rename_i L
    let⟨y,h1,z⟩:=ba hi L;have A:=z;simp[bW,ah]at z;subst z;exact je.q (k:=0) hinv hc (λH _=>by simp[dG,h1]) (cM A) D)
  |skip
 .rename_i g cap L;let⟨y,h1,z⟩:=ba hi L;have A:=z;simp[bW]at z;split at z
  .simp[ah]at z;subst z;exact je.q (k:=0) hinv hc (λH _=>by simp[dG,h1]) (cM A) D
  .cases z
 .cases D
def azi (L:cP P o.op=Z (.not c)) (z:eO X W (.op (.not c)) e h nx K=Z r):je P o b e h nx K r:=by
 simp[eO]at z;split at z
 next st D=>let⟨y,h1,A⟩:=ba hi D;simp[bW,ah]at A;subst A;exact je.q (k:=0) hinv L (λH _=>by simp[dG,h1,gr];rfl) (cM rfl) z
 .cases z
def aw8 {k:IntKind} (L:cP P o.op=Z (.conv k c)) (z:eO X W (.op (.conv k c)) e h nx K=Z r):je P o b e h nx K r:=by
 simp[eO]at z;split at z
 next k' n D=>let⟨y,h1,A⟩:=ba hi D;simp[bW,ah]at A;subst A;exact je.q (k:=0) hinv L (λH _=>by simp[dG,h1,gr];rfl) (cM rfl) z
 .cases z
def azw {y:Operand} {st:Bool} (hc:cP P o.op=Z (.xj b c y)) (z:eO X W (.op (.xj b c y)) e h nx K=Z r):je P o st e h nx K r:=by
 simp[eO]at z;split at z
 next a neg hv A=>let⟨y,h1,L⟩:=ba hi hv;let⟨y2,h3,D⟩:=ba hi A;simp[bW,ah]at L D;subst L D;exact je.q (k:=0) hinv hc (λH _=>by simp[dG,h1,h3,gr];rfl) (cM rfl) z
 .cases z
def aqw {st:Bool} (hc:cP P o.op=Z (.zd b c)) (A:eO X W (.op (.zd b c)) e h nx K=Z r):je P o st e h nx K r:=by
 simp[eO]at A;split at A
 next D=>let⟨y,h1,z⟩:=ba hi D;simp[bW,ah]at z;subst z;exact je.q (k:=0) hinv hc (λH _=>by simp[dG,h1,Dq,bk];rfl) (cM rfl) A
 next D=>let⟨y,h1,z⟩:=ba hi D;simp[bW,ah]at z;subst z;exact je.q (k:=0) hinv hc (λH _=>by simp[dG,h1]) (cM rfl) A
 .rename_i T xs D;let⟨y,h1,z⟩:=ba hi D;simp[bW,ah]at z;subst z;rcases lV A with ⟨h3,L⟩|⟨h3,L⟩
  .have h3:=au h3;exact je.q (k:=0) (y0:=.qw) hinv hc (λH _=>by simp[dG,h1,gr,h3]) (cM rfl) L
  .have h3:=nZ h3;let⟨n,hn⟩:=Nat.exists_eq_succ_of_ne_zero h3;exact je.q (k:=0) (y0:=raw (.bool b)) hinv hc (λH _=>by simp[dG,h1,gr,hn]) (cM rfl) L
 .rename_i id D;split at A
  next ty T xs hb=>let⟨y,h1,z⟩:=ba hi D;simp[bW,eQ,hb,dA,gO,cL,dF,ah]at z;subst z;exact je.q (k:=0) (y0:=raw (.bool b)) hinv hc (λH _=>by simp[dG,h1]) (cM rfl) A
  .cases A
 .cases A
def azn {y:Operand} (hc:cP P o.op=Z (.max c y)) (z:eO X W (.op (.max c y)) e h nx K=Z r):je P o b e h nx K r:=by
 simp[eO]at z;split at z
 .rename_i k a k' st hv A;let⟨y,h1,L⟩:=ba hi hv;let⟨y2,h3,D⟩:=ba hi A;simp[bW,ah]at L D;subst L D;split at z
  .exact je.q (k:=0) hinv hc (λH _=>by simp[dG,h1,h3,gr];rfl) (cM rfl) z
  .cases z
 .cases z
def azm {y:Operand} (hc:cP P o.op=Z (.min c y)) (z:eO X W (.op (.min c y)) e h nx K=Z r):je P o b e h nx K r:=by
 simp[eO]at z;split at z
 .rename_i k a k' st hv A;let⟨y,h1,L⟩:=ba hi hv;let⟨y2,h3,D⟩:=ba hi A;simp[bW,ah]at L D;subst L D;split at z
  .exact je.q (k:=0) hinv hc (λH _=>by simp[dG,h1,h3,gr];rfl) (cM rfl) z
  .cases z
 .cases z
def azt (L:cP P o.op=Z (.jb i c)) (z:eO X W (.op (.jb i c)) e h nx K=Z r):je P o b e h nx K r:=by
 simp[eO]at z;split at z;all_goals first
  |(rename_i D
    let⟨y,h1,A⟩:=ba hi D;simp[bW,ah]at A;subst A;exact je.q (k:=0) hinv L (λH _=>by simp[dG,h1,uJ]) (cM rfl) z)
  |cases z
def azs {st:Bool} (hc:cP P o.op=Z (.fld i j b c)) (z:eO X W (.op (.fld i j b c)) e h nx K=Z r):je P o st e h nx K r:=by
 simp[eO]at z;split at z
 .rename_i l D;split at z
  .rename_i u L;let⟨y,h1,A⟩:=ba hi D;simp[bW]at A;split at A
   next l' hl=>simp[ah]at A;subst A;let⟨y,h3,h4⟩:=abl hl L;exact je.q (k:=0) hinv hc (λH _=>by simp[dG,h1,h4]) (cM h3) z
   .cases A
  .cases z
 .rename_i T v D;split at z
  .cases z
  .rename_i ho;split at z
   next u L=>let⟨y,h1,A⟩:=ba hi D;simp[bW,ah]at A;rw[sq T v (by grind)]at A;subst A;let⟨y,h3,h4⟩:=arf (h:=h) L;exact je.q (k:=0) hinv hc (λH _=>by simp[dG,h1,h4]) (cM h3) z
   .cases z
 .cases z
def azq {n:Operand} {st:Bool} (hc:cP P o.op=Z (.idx i j b c n)) (A:eO X W (.op (.idx i j b c n)) e h nx K=Z r):je P o st e h nx K r:=by
 simp[eO]at A;split at A
 .rename_i v0 k sz hv hv2;split at A
  .rename_i T xs hA;let⟨hb,A⟩:=cI A;cases b with
   |true=>cases hA
   |false=>
   simp only[axj]at hA;split at hA
   .rename_i hsz;simp only[al,ca]at hsz;have hsz1:=au hsz.1;subst hsz1;split at hA
    .rename_i l hl;split at hA
     .rename_i hn;have hn:=au hn;let⟨y,h1,D⟩:=ba hi hv;let⟨y2,h5,h6⟩:=ba hi hv2;simp[bW,ah]at h6;subst h6;have hj:sz.toNat<l! l:=by
       simp[al,dg,gC,bG]at hb;omega
      have hg:=ady hA sz.toNat hj;let⟨he,_⟩:=Ky hl D;let⟨z,L,hz2⟩:=mE he sz.toNat _ hg;refine je.q (k:=0) hinv hc (λH _=>?_) (cM hz2) A;cases v0 with
      |agg q=>
       simp[bW]at D;split at D
       next l' _=>simp[ah]at D;subst D;have L:l'[sz.toNat]? =Z z:=L;simp[dG,h1,h5,gr,hb,bk,BC.sub?,BC.get,HY,L]
       .cases D
      |f S u=>
       have ho:S.one=af:=by
        have:=hsz.2;simpa[TV.isC] using this
       simp[bW,ah]at D;rw[sq S u ho]at D;subst D;have L:((bE S u).map AV.f)[sz.toNat]? =Z z:=L;rw[bB]at L;simp[dG,h1,h5,gr,hb,bk,BC.sub?,BC.get,HY,L]
      |_=>simp[TV.cs,TV.isC]at hl hsz
     .cases hA
    .cases hA
   .cases hA
  .split at A
   .rename_i l;let⟨hb,A⟩:=cI A;split at A
    .rename_i u hs;let⟨y,h1,D⟩:=ba hi hv;let⟨y2,h5,h6⟩:=ba hi hv2;simp[bW,ah]at h6;subst h6;simp[bW]at D;split at D
     next l' hl=>simp[ah]at D;subst D;let⟨y,h3,h4⟩:=abl hl hs;exact je.q (k:=0) hinv hc (λH _=>by simp[dG,h1,h5,gr,hb,bk,h4]) (cM h3) A
     .cases D
    .cases A
   .rename_i T v _;split at A
    .cases A
    .rename_i ho;let⟨hb,A⟩:=cI A;split at A
     next u hs=>let⟨y,h1,D⟩:=ba hi hv;let⟨y2,h5,h6⟩:=ba hi hv2;simp[bW,ah]at h6 D;subst h6;rw[sq T v (by grind)]at D;subst D;let⟨y,h3,h4⟩:=arf (h:=h) hs;exact je.q (k:=0) hinv hc (λH _=>by simp[dG,h1,h5,gr,hb,bk,h4]) (cM h3) A
     .cases A
   .cases A
 .cases A
def aw6 {n:Operand} (L:cP P o.op=Z (.jv i j c n)) (z:eO X W (.op (.jv i j c n)) e h nx K=Z r):je P o b e h nx K r:=by
 simp[eO]at z;split at z
 .rename_i id off k sz hv A;let⟨y,h1,h2⟩:=ba hi hv;let⟨y2,h5,h6⟩:=ba hi A;simp[bW,ah]at h6 h2;subst h6 h2;split at z
  .obtain⟨D,z⟩:=cI z;exact je.q (k:=0) (y0:=.P (nm id) (off+sz.toNat*j)) hinv L (λH _=>by simp[dG,h1,h5,gr,D,bk]) (cM (by simp[bW];rw[Nat.add_comm])) z
  .obtain⟨D,z⟩:=cI z;exact je.q (k:=0) hinv L (λH _=>by simp[dG,h1,h5,gr,D,bk]) (cM rfl) z
 .cases z
def azu (hc:cP P o.op=Z (.ext c i)) (z:eO X W (.op (.ext c i)) e h nx K=Z r):je P o b e h nx K r:=by
 simp[eO]at z;split at z
 .rename_i l D;split at z
  .rename_i u L;let⟨y,h1,A⟩:=ba hi D;simp[bW]at A;split at A
   next l' hl=>simp[ah]at A;subst A;let⟨y,h3,h4⟩:=mE hl i u L;exact je.q (k:=0) hinv hc (λH _=>by simp[dG,h1,h3]) (cM h4) z
   .cases A
  .cases z
 .cases z
def azp (L:cP P o.op=Z (.len c)) (z:eO X W (.op (.len c)) e h nx K=Z r):je P o b e h nx K r:=by
 simp[eO]at z;split at z
 .rename_i v A;split at z
  next n D=>let⟨y,h1,h2⟩:=ba hi A;have h3:=VV D h2;exact je.q (k:=0) hinv L (λH _=>by simp[dG,h1,h3];rfl) (cM rfl) z
  .cases z
 .cases z
def aw4 (L:cP P o.op=Z (.lens c)) (z:eO X W (.op (.lens c)) e h nx K=Z r):je P o b e h nx K r:=by
 simp[eO]at z;split at z
 next s D=>let⟨y,h1,A⟩:=ba hi D;simp[bW,ah]at A;subst A;exact je.q (k:=0) hinv L (λH _=>by simp[dG,h1,gr];rfl) (cM rfl) z
 .cases z
def avz {i:Operand} (hc:cP P o.op=Z (.jx c i)) (z:eO X W (.op (.jx c i)) e h nx K=Z r):je P o b e h nx K r:=by
 simp[eO]at z;split at z
 .rename_i s k j hv A;let⟨hj,z⟩:=cI z;let⟨y,h1,L⟩:=ba hi hv;let⟨y2,h3,D⟩:=ba hi A;simp[bW,ah]at L D;subst L D;let⟨j0,j1,j2⟩:=mZ hj;have e1:dg 0 j=J:=by simp[dg,j0]
  have e2:(⟨jT s⟩:ByteArray).data.toList[j.toNat]? =Z (List.getD s j.toNat 0):=by grind
  exact je.q (k:=0) (y0:=raw (.int .u8 (aQ (List.getD s j.toNat 0).toNat))) hinv hc (λH _=>by simp only[dG,h1,h3,gr,e1,bk,e2];rfl) (cM rfl) z
 .cases z
def azr {sz:Operand} (hc:cP P o.op=Z (.jf i c sz)) (z:eO X W (.op (.jf i c sz)) e h nx K=Z r):je P o b e h nx K r:=by
 simp only[eO]at z;split at z
 .rename_i id k j hv A;split at z
  .rename_i ty p T xs hb;split at z
   .rename_i D;have D:=au D;let⟨hj,z⟩:=cI z;let⟨y,h1,h2⟩:=ba hi hv;let⟨y2,h3,L⟩:=ba hi A;simp[bW,ah]at L;subst L;let⟨j0,j1,j2⟩:=mZ hj;have hne:¬((p&&l! xs==0)=J):=by grind
    simp only[bW,eQ,hb,dA,av hne,ah]at h2;subst h2;have hc1:(T.size==i&&dg 0 j&&gC j (l! xs))=J:=by
     simp[dO,al]at hj;simp[D,hj.1,hj.2]
    exact je.q (k:=0) hinv hc (λH _=>by simp[dG,h1,h3,gr,hc1,bk,dK]) (cM rfl) z
   .cases z
  .cases z
 .rename_i T xs k j hv A;split at z
  next D=>have D:=au D;let⟨hj,z⟩:=cI z;let⟨y,h1,h2⟩:=ba hi hv;let⟨y2,h3,L⟩:=ba hi A;simp[bW,ah]at L h2;subst L h2;have hj':(dg 0 j&&gC j (aj xs))=J:=hj;exact je.q (k:=0) hinv hc (λH _=>by simp[dG,h1,h3,gr,hj',bk,dK,D]) (cM rfl) z
  .cases z
 .rename_i id sz' n k j hv A;split at z
  .rename_i D;have D:=au D;subst D;let⟨hj,z⟩:=cI z;let⟨y,h1,h2⟩:=ba hi hv;let⟨y2,h3,L⟩:=ba hi A;simp[bW,ah]at L h2;subst L h2;have hj':(sz'==sz'&&dg 0 j&&gC j n)=J:=by grind
   exact je.q (k:=0) hinv hc (λH _=>by simp only[dG,h1,h3,gr,hj',bk]) (cM rfl) z
  .cases z
 .cases z
variable {f:FuncId}
def azl {caps:Y Operand} (D:cP P o.op=Z (.mkf f caps)) (z:eO X W (.op (.mkf f caps)) e h nx K=Z r):je P o b e h nx K r:=by
 simp[eO]at z;split at z
 next l A=>let⟨l',h1,L⟩:=Gg hi A;exact je.q (k:=0) hinv D (y0:=.qy f l') (λH _=>by simp[dG,h1]) (cM (by simp[bW,L])) z
 .cases z
def aA0 {op:BinOp} {y:Operand} (hc:cP P o.op=Z (.bin op c y)) (z:eO X W (.op (.bin op c y)) e h nx K=Z r):je P o b e h nx K r:=by
 simp[eO]at z;split at z
 next u v hv A=>let⟨a,st,x,t,h1,h2,h3,h4,h5⟩:=apy (h:=h) z;let⟨y,g1,g2⟩:=ba hi hv;let⟨y2,L,D⟩:=ba hi A;rw[h1]at g2;cases g2;rw[h2]at D;cases D;simp[raw]at g1 L;exact je.q (k:=0) hinv hc (λH _=>by simp[dG,g1,L,h3]) (cM h4) h5
 .cases z
end ops
def iN:e_->M (Bool×q!)
 |.H _ p T xs=>Z (p,T.size,l! xs)
 |.qj p sz n=>Z (p,sz,n)
 |.Q F _ x|.qd F _ x _ _=>sk F x
 |_=>U
def bA (h:aY) (i:Nat):eQ h i=(h.get i).bind iN:=by
 unfold eQ;cases h.get i with
 |none=>rfl
 |some b=>cases b<;>rfl
def bV.refl (h:aY):bV h h:=λ_ _ h=>h
def bV.trans {b c:aY} (h1:bV h b) (z:bV b c):bV h c:=λi r a=>z i r (h1 i r a)
def bV.set {b:e_} (A:∀r,eQ h i=Z r->iN b=Z r):bV h (h.set i (Z b)):=λj r z=>by
 rw[bA,PT.get_set];by_cases e:j=i
 .grind
 .rw[av e,<-bA];exact z
def Rf {b:e_} {r:Bool×q!} (h:iN b=Z r):iN (vg b)=Z r:=by
 cases b with
 |Q F a x|qd F a x k p=>simp[iN]at h;simp[vg,h,iN]
 |_=>first|exact h|cases h
def Cn {b:e_} {ty:M TypeId} (h:vg b= .G ty m):False:=by
 cases b<;>simp[vg]at h<;>first|cases h|(split at h<;>cases h)
def MX (b:e_):∃p s n,vg b= .qj p s n:=by
 cases b with
 |Q F a x|qd F a x k p=>simp only[vg];split<;>exact⟨_,_,_,rfl⟩
 |_=>exact⟨_,_,_,rfl⟩
def aku {b:e_} (A:PC h i j (vg b)=Z N):False:=by
 let⟨p,s,n,e⟩:=MX b;rw[e]at A;cases j<;>cases A
def iW (m:Nat) (h:aY) (i:Nat):(dP m h).get i=if aL m i then (h.get i).map vg else h.get i:=by
 unfold dP;split
 .simp_all
 .rw[PT.get_updI];simp[Nat.one_mul,dK];cases h.get i with
  |none=>simp
  |some b=>simp[bi];split<;>rfl
def bV.kill (m:Nat) (h:aY):bV h (dP m h):=λi r z=>by
 rw[bA]at z ⊢;rw[iW];split
 .cases A:h.get i with
  |none=>rw[A]at z;cases z
  |some b=>rw[A]at z;exact Rf z
 .exact z
def hX.set {nx':Nat} {b:e_} (hi:hX h j) (A:bV h (h.set i (Z b))) (hlt:i<nx') (hle:j<=nx') (D:∀ty l,b= .G ty l->l8 (h.set i (Z b)) l=J):hX (h.set i (Z b)) nx':=by
 refine ⟨λnx ty l z=>?_,λnx c z=>?_⟩
 .rw[PT.get_set]at z;split at z
  .grind
  .exact fA A l (hi.G nx _ l z)
 .rw[PT.get_set]at z;split at z
  .omega
  .exact dD (hi.low nx c z) hle
def hX.kill (hi:hX h i) (m:Nat):hX (dP m h) i:=by
 refine ⟨λj ty l z=>?_,λj c z=>?_⟩
 .rw[iW]at z;refine fA (bV.kill m h) l (hi.G j ty l ?_);split at z
  .cases A:h.get j with
   |none=>rw[A]at z;cases z
   |some b=>rw[A]at z;exact (Cn (fV z)).elim
  .exact z
 .rw[iW]at z;split at z
  .cases A:h.get j with
   |none=>rw[A]at z;cases z
   |some b=>exact hi.low j b A
  .exact hi.low j c z
def WU {h':aY} (A:bV h h') {b:e_} (D:∀ty l,b= .G ty l->l8 h l=J):kJ h' b=kJ h b:=by
 cases b with
 |G ty l=>
  let⟨l',z⟩:=fI h l (D ty l rfl);cases ty<;>simp[kJ,z,g_ A l l' z]
 |_=>rfl
def mF {h':aY} (z:bV h h') {b:e_} (A:∀ty l,b= .G ty l->l8 h l=J) (i:Nat):∀k,PC h' i k b=PC h i k b
 |0=>WU z A
 |_+1=>rfl
def afz {h':aY} (hi:hX h j) (z:bV h h') (A:h'.get i=h.get i):erHF h' (nm i)=erHF h (nm i):=by
 rw[bJ,bJ,A];cases D:h.get i with
 |none=>rfl
 |some b=>exact WU z λty l e=>hi.G i _ l (by rw[D,e])
def iQ (h h':aY):Prop:=∀i k,(h'.get i).bind (w_ i k)=(h.get i).bind (w_ i k)
def iQ.refl (h:aY):iQ h h:=λ_ _=>rfl
def iQ.trans {b c:aY} (h1:iQ h b) (z:iQ b c):iQ h c:=λi k=>(z i k).trans (h1 i k)
def noM:M e_->Bool
 |some (.Q _ _ _)=>af
 |some (.qd _ _ _ _ _)=>af
 |_=>J
def LP {c:M e_} (z:noM c=J) (i k:Nat):c.bind (w_ i k)=U:=by
 cases c with
 |none=>rfl
 |some b=>cases b<;>first|rfl|cases z
def iQ.set {b:M e_} (h1:noM (h.get i)=J) (z:noM b=J):iQ h (h.set i b):=λj k=>by
 rw[PT.get_set];by_cases e:j=i
 .subst e;rw[aD rfl,LP h1,LP z]
 .rw[av e]
def iQ.at_ {b:M e_} (h1:∀k,b.bind (w_ i k)=(h.get i).bind (w_ i k)):iQ h (h.set i b):=λj k=>by
 rw[PT.get_set]
 grind
def iQ.of {h':aY} (z:∀i,h'.get i=h.get i\/(noM (h.get i)=J/\noM (h'.get i)=J)):iQ h h':=λj k=>by
 rcases z j with e|⟨A,e2⟩
 .rw[e]
 .rw[LP A,LP e2]
def iQ.kill (hm:∀m,aL i m=J->∃ty p T xs,h.get m=Z (.H ty p T xs)):iQ h (dP i h):=λj k=>by
 rw[iW];split
 next A=>let⟨ty,p,T,xs,z⟩:=hm j A;rw[z];rfl
 .rfl
def ng {h':aY} (hi:hX h i) (A:bV h h') (hm:iQ h h') (D:∀nx,j=nm nx->h'.get nx=h.get nx):erHF h' j=erHF h j:=by
 cases z:ix j with
 |zero=>rw[pq z];exact afz hi A (D _ (pq z))
 |succ k=>
  have e:=kZ j;rw[z]at e;rw[<- e,kS,kS];exact hm _ k
def NJ {h':aY} (hme:iQ h h') (A:erHF h' i=Z N):erHF h i=Z N\/∃q z,i=nm q/\h'.get q=Z z/\kJ h' z=Z N:=by
 cases D:ix i with
 |zero=>
  let⟨z,h1,L⟩:=iX A;rw[D]at L;exact .inr ⟨ow i,z,pq D,h1,L⟩
 |succ k=>
  have e:=kZ i;rw[D]at e;rw[<- e,kS]at A ⊢;exact .inl ((hme _ _).symm.trans A)
def JD (m:Nat):ι:=(alq m).map nm
def pa :j∈JD i↔∃m,j=nm m/\aL i m=J:=by
 unfold JD;rw[cz];constructor
 .rintro⟨m,h1,rfl⟩;exact⟨m,rfl,Rr.1 h1⟩
 .rintro⟨m,rfl,h1⟩;exact⟨m,Rr.2 h1,rfl⟩
def mS :nm i∈JD j↔aL j i=J:=by
 rw[pa];constructor
 .rintro⟨m,h1,z⟩;rw[uN h1];exact z
 .grind
def dN (h:aY) (m:Nat):Prop:=∀i,aL m i=J->∃ty p T xs,h.get i=Z (.H ty p T xs)
def dN.zero (h:aY):dN h 0:=λi hi=>by simp at hi
def dN.or (A:dN h i) (z:dN h j):dN h (i|||j):=λa hi=>by
 rw[bu,nA]at hi;exact hi.elim (A a) (z a)
def nI {v:TV} {x:K.den} (A:iB h K v=Z (x,i)):dN h i:=by
 cases v with
 |f S v|emp|nil=>
  simp[iB]at A;split at A
  .simp[ah,aR]at A;rw[<- A.2];exact dN.zero h
  .cases A
 |I id=>
  simp[iB]at A;split at A
  .rename_i ty p S xs hb;split at A
   .simp[ah,aR]at A;rw[<- A.2];intro m hi;have:=bq.1 hi
    grind
   .cases A
  .cases A
 |_=>simp[iB]at A
def xB :∀(n:Nat) (T:Ty) (l:Y TV) (x:T.den) (m:Nat) (r:Y TV),fK h n T l=Z (x,m,r)->dN h m
 |0,_,_,_,_,_,hp=>by simp[fK]at hp
 |n+1,.st t,l,x,m,r,hp=>xB n t l x m r hp
 |n+1,.pr a b,l,x,m,r,hp=>by
  simp[fK]at hp;split at hp
  .rename_i z m1 A h1;split at hp
   next D m2 L h2=>simp[ah,aR]at hp;obtain⟨_,rfl,_⟩:=hp;exact (xB n a l z m1 A h1).or (xB n b A D m2 L h2)
   .cases hp
  .cases hp
 |n+1,.un,l,x,m,r,hp=>by
  obtain⟨_,rfl,_⟩:=hp;exact dN.zero h
 |n+1,.ex,l,x,m,r,hp=>by
  simp[fK]at hp;split at hp
  next z m1 A h1=>simp[ah,aR]at hp;obtain⟨_,rfl,_⟩:=hp;exact xB n RE l z m1 A h1
  .cases hp
 |n+1,.sm,l,x,m,r,hp=>by
  simp[fK]at hp;split at hp
  next z m1 A h1=>simp[ah,aR]at hp;obtain⟨_,rfl,_⟩:=hp;exact xB n Ra l z m1 A h1
  .cases hp
 |n+1,.int k,l,x,m,r,hp|n+1,.bool,l,x,m,r,hp|n+1,.str,l,x,m,r,hp|n+1,.sl t,l,x,m,r,hp=>by
  simp[fK]at hp;split at hp
  .split at hp
   next z m1 h1=>obtain⟨_,rfl,_⟩:=hp;exact nI h1
   .cases hp
  .cases hp
def adx {x:K.den} (A:FE h K u=Z (x,i)):dN h i:=by
 cases u with
 |agg l=>
  simp only[FE]at A;split at A
  .cases A
  .split at A
   next D m1 h1=>simp[ah,aR]at A;obtain⟨_,rfl⟩:=A;exact xB 40 K l D m1 [] h1
   .cases A
 |f S u=>exact nI (v:=.f S u) A
 |zf K xs j hj off=>exact nI (v:=.zf K xs j hj off) A
 |zj id sz j off=>exact nI (v:=.zj id sz j off) A
 |P id off=>exact nI (v:=.P id off) A
 |qg id off z=>exact nI (v:=.qg id off z) A
 |I id=>exact nI (v:=.I id) A
 |emp=>exact nI (v:=.emp) A
 |nil=>exact nI (v:=.nil) A
 |mp id=>exact nI (v:=.mp id) A
 |zh id L=>exact nI (v:=.zh id L) A
 |qb q=>exact nI (v:=.qb q) A
 |qy g q=>exact nI (v:=.qy g q) A
 |undef=>exact nI (v:=.undef) A
 |np=>exact nI (v:=.np) A
 |qw=>exact nI (v:=.qw) A
 |qc S q=>exact nI (v:=.qc S q) A
 |sb q=>exact nI (v:=.sb q) A
def SU :∀(n:Nat) (l:Y TV) (xs:Y K.den) (m:Nat),Ec h K n l=Z (xs,m)->dN h m
 |0,[],xs,m,hp=>by simp[Ec,ah,aR]at hp;rw[<- hp.2];exact dN.zero h
 |0,_::_,xs,m,hp=>by simp[Ec]at hp
 |n+1,l,xs,m,hp=>by
  simp[Ec]at hp;split at hp
  .rename_i D m1 z h1;split at hp
   next A m2 L=>obtain⟨_,rfl⟩:=hp;exact (xB 40 K l D m1 z h1).or (SU n z A m2 L)
   .cases hp
  .cases hp
def Dh :∀(n:Nat) (T:Ty) (v:T.den) (off sz:Nat) (z:T.den) (m:Nat),gW h u n T v off sz=Z (z,m)->dN h m
 |0,_,_,_,_,_,_,A=>by simp[gW]at A
 |n+1,.st t,v,off,sz,z,m,A=>by
  simp[gW]at A;split at A
  .rename_i q D;split at D
   .simp[ah]at A;subst A;exact adx D
   .cases D
  .exact Dh n t v off sz z m A
 |n+1,.pr a b,v,off,sz,z,m,A=>by
  simp[gW]at A;split at A
  .split at A
   next L m1 h1=>simp[ah,aR]at A;obtain⟨_,rfl⟩:=A;exact Dh n a v.1 off sz L m1 h1
   .cases A
  .split at A
   next L m1 h1=>simp[ah,aR]at A;obtain⟨_,rfl⟩:=A;exact Dh n b v.2 _ sz L m1 h1
   .cases A
 |n+1,.un,v,off,sz,z,m,A=>by simp[gW]at A
 |n+1,.ex,v,off,sz,z,m,A=>by
  simp[gW]at A;split at A
  .rename_i q D;split at D
   .simp[ah]at A;subst A;exact adx D
   .cases D
  .split at A
   next L m1 h1=>simp[ah,aR]at A;obtain⟨_,rfl⟩:=A;exact Dh n RE _ off sz L m1 h1
   .cases A
 |n+1,.sm,v,off,sz,z,m,A=>by
  simp[gW]at A;split at A
  .rename_i q D;split at D
   .simp[ah]at A;subst A;exact adx D
   .cases D
  .split at A
   next L m1 h1=>simp[ah,aR]at A;obtain⟨_,rfl⟩:=A;exact Dh n Ra _ off sz L m1 h1
   .cases A
 |n+1,.int k,v,off,sz,z,m,A|n+1,.bool,v,off,sz,z,m,A|n+1,.str,v,off,sz,z,m,A|n+1,.sl t,v,off,sz,z,m,A=>by
  simp only[gW]at A;split at A
  .exact nI A
  .cases A
def vR (hm:dN h j) (z:aL j i=J):∃p sz n,(dP j h).get i=Z (.qj p sz n):=by
 let⟨ty,p,T,xs,h1⟩:=hm i z;exact⟨p,T.size,l! xs,by rw[iW,aD z,h1];rfl⟩
section ops
variable {R:Type} {P:Program} {o:Oper} {e:ii} {h:aY} {nx:Nat} {K:KO R} {r:R}
def eZ (n:Nat) (b:kG):j8 [(n,b)] n=Z b:=by simp[j8]
def fw.mk' {s:UU} (hc:cP P o.op=Z s) {a:nz} (hH:a.get=erHF h) {k:Nat} {rdl wrl N:ι} {nw:NW} (ha:dG s (D2 e h) a k=Z ⟨y,rdl,wrl,nw,N⟩) {h':aY} {wr:Nat} (wr':ι)
 (hsub:∀nx'∈wrl,nx'∈wr') (hsame:∀n,n∉wr'->erHF h' n=erHF h n)
 (hdom:∀nx'∈wr',∀b',erHF h' nx'=Z b'->∃b,(if nx'∈wrl then j8 nw nx' else erHF h nx')=Z b)
 (hblk:∀(L H2:HF),rC L H2->(∀nx'∈wrl,L nx'=j8 nw nx')->(∀nx'∈wr',nx'∉wrl->L nx'=erHF h nx')->(∀nx'∈wr',H2 nx'=erHF h' nx')->(∀nx'∈wr',∀b b',L nx'=Z b->H2 nx'=Z b'->gu L H2 b b')/\∀y0,bW h' u=Z y0->kz L H2 y y0)
 (hrd:∀n∈rdl,aL j (ow n)=J) (hwr:∀n∈wr',aL wr (ow n)=J) (hN:∀n∈N,nx<=ow n/\ow n<i) (hrows:bV h h') (hinv':hX h' i) (hg:nx<=i):fw P o af e h nx u j wr h' i:=by
 have ht:=MA hc ha;rw[Dx,hH]at ht;refine ⟨?_,hrows,hinv',hg,nofun⟩;have base:∀(val:AV),(∀y0,bW h' u=Z y0->y0=val)->(bW h' u=U->val=y)->gE P o (fR e h) (erHF h) ⟨val,rdl,wr',erHF h',N⟩:=by
  intro val hval hnone;refine gE.view ht (λnx' hi=>.inl (hsub nx' hi)) λh1 hr1 hw1=>?_
  have hd:rC (fy h1 wrl (j8 nw)) (fy h1 wr' (erHF h')):=by
   intro nx' b hb;unfold fy at hb ⊢
   grind
  let⟨q1,q2⟩:=hblk _ _ hd (λnx' hi=>by unfold fy;rw[aD hi]) (λnx' hi hw=>by unfold fy;rw[av hw];exact hw1 nx' hi) (λnx' hi=>by unfold fy;rw[aD hi]);refine ⟨⟨hd,λnx' b b' hb D=>?_⟩,?_⟩
  .by_cases hi:nx'∈wr'
   .grind
   .unfold fy at hb D;rw[av (λhw=>hi (hsub nx' hw))]at hb;rw[av hi,hb]at D;cases D;exact gu.refl hd b
  .cases A:bW h' u with
   |none=>rw[hnone A];exact kz.refl hd _
   |some y0=>rw[<- hval y0 A];exact q2 y0 A
 have hu:fy (erHF h) wr' (erHF h')=erHF h':=by
  unfold fy
  grind
 cases A:bW h' u with
 |none=>exact⟨_,base y (λy0 z=>by rw[A]at z;cases z) (λ_=>rfl),λy0 z=>(by cases z),hu,hrd,hwr,hN⟩
 |some y0=>exact⟨_,base y0 (λy' z=>by rw[A]at z;cases z;rfl) (λhn=>by rw[A]at hn;cases hn),λy' z=>by cases z;rfl,hu,hrd,hwr,hN⟩
def G1 (hi:sM e h):∀(parts:Y n?) (cells cs:Y TV) (cells':Y AV),ND cells e parts=Z cs->cN h cells=Z cells'->∃cs',CH cells' (D2 e h) parts=Z cs'/\cN h cs=Z cs'/\(lX cells=J->lX cs=J)
 |[],cells,cs,cells',hf,he=>by simp only[ND,ah]at hf;subst hf;exact⟨cells',rfl,he,id⟩
 |(off,sz,x)::rest,cells,cs,cells',hf,he=>by
  simp only[ND]at hf;split at hf
  .rename_i v hv;split at hf
   .rename_i q hq;split at hf
    .rename_i L;simp only[al,c4]at L;let⟨y,h1,h2⟩:=ba hi hv;let⟨h3,h4⟩:=Ky hq h2;let⟨cs',h5,h6,h7⟩:=G1 hi rest (splice cells off q) cs (splice cells' off y.cs) hf (rq off he h3);refine ⟨cs',?_,h6,λD=>h7 ?_⟩
     .simp only[CH,h1];rw[aD,h5];simp only[al,c4];exact⟨⟨by rw[iH h3];exact L.1,by rw[iH he];exact L.2⟩,t8 h3 h4⟩
     .clear h5 h6 h7 hf;have app:∀a b:Y TV,lX a=J->lX b=J->lX (a++b)=J:=by
       intro a b D hb;induction a with
       |nil=>exact hb
       |cons z r A=>simp only[lX,al,gR]at D ⊢;exact⟨D.1,A D.2⟩
      have tk:∀(a:Y TV) n,lX a=J->lX (a.take n)=J:=by
       intro a;induction a with
       |nil=>intro n h;simp[lX]
       |cons z r A=>
        intro n h;cases n with
        |zero=>rfl
        |succ n=>simp only[lX,al,yD]at h ⊢;exact⟨h.1,A n h.2⟩
      have dr:∀(a:Y TV) n,lX a=J->lX (a.drop n)=J:=by
       intro a;induction a with
       |nil=>intro n h;simp[lX]
       |cons z r A=>
        intro n h;cases n with
        |zero=>exact h
        |succ n=>simp only[lX,al,KJ]at h ⊢;exact A n h.2
      unfold splice
      grind
    .cases hf
   .cases hf
  .cases hf
variable (hinv:hX h nx) (hi:sM e h)
include hinv hi
variable {X:FuncId->M cw} {W:TypeId->M Ty} {L:ξ}
def aqx {parts:Y n?} (hc:cP P o.op=Z (.build L parts)) (A:eO X W (.op (.build L parts)) e h nx K=Z r):je P o b e h nx K r:=by
 simp[eO]at A;split at A
 .rename_i l z;split at A
  next cs hf=>let⟨h1,_,_⟩:=xU h z;let⟨cs',h2,h3,_⟩:=G1 hi parts l cs _ hf h1;refine je.q (k:=0) (y0:=Ro cs') hinv hc (λH _=>by simp[dG,h2]) (λy D=>?_) A;simp[bW,h3,ah]at D;subst D;exact ajh cs'
  .cases A
 .cases A
def aw3 (hc:cP P o.op=Z (.load i b c)) (A:eO X W (.op (.load i b c)) e h nx K=Z r):je P o af e h nx K r:=by
 let⟨H,hH⟩:=gJ h;simp only[eO]at A;split at A
 .rename_i id off hv;let⟨y,h1,L⟩:=ba hi hv;simp[bW,ah]at L;subst L;split at A
  .rename_i ty l hb;split at A
   .rename_i v hs;let⟨l',hl⟩:=fI h l (hinv.G id _ l hb);let⟨y,h3,h4⟩:=abl hl hs;have hg:H.get (nm id)=Z ⟨ty,.mx l'⟩:=by rw[hH,bJ,hb];simp[aF,kJ,hl]
    exact⟨v,gF id,0,h,nx,A,fw.pure (k:=0) hinv hc hH (y0:=y) (rdl:=[nm id]) (by simp[dG,h1,xZ,hg,h4]) (cM h3) (λn D=>by simp[aE]at D;subst D;rw[di];exact bq.2 rfl) nofun⟩
   .cases A
  .cases A
 .rename_i id sz' j off hv;let⟨y,h1,L⟩:=ba hi hv;simp[bW,ah]at L;subst L;split at A
  .rename_i ty p T xs hb;split at A
   .rename_i hsz;have hsz:=au hsz;let⟨hj,A⟩:=cI A;split at A
    .rename_i v hs;let⟨y,h3,h4⟩:=ai5 (h:=h) hj hs;have hne:¬((p&&l! xs==0)=J):=by
      have:=mZ hj
      grind
     have hg:H.get (nm id)=Z ⟨ty,.fz (xs.flatMap (bE T))⟩:=by rw[hH,bJ,hb];simp only[aF,kJ,av hne]
     exact⟨v,gF id,0,h,nx,A,fw.pure (k:=0) hinv hc hH (y0:=.f y) (rdl:=[nm id]) (by simp[dG,h1,xZ,hg,hsz,h4]) (cM h3) (λn D=>by simp[aE]at D;subst D;rw[di];exact bq.2 rfl) nofun⟩
    .cases A
   .cases A
  .rename_i ty l hb;split at A
   .cases A
   .split at A
    .rename_i hsz;simp only[al]at hsz;have e1:=au hsz.1.1;have e2:=au hsz.1.2;have e3:=au hsz.2;subst e1 e2 e3;split at A
     .rename_i T xs hA;let⟨hj,A⟩:=cI A;let⟨l',hl⟩:=fI h l (hinv.G id _ l hb);have hg:H.get (nm id)=Z ⟨ty,.mx l'⟩:=by rw[hH,bJ,hb];simp[aF,kJ,hl]
      have hlt:j.toNat<l! l:=by
       simp[dO,al,dg,gC,bG]at hj;omega
      let⟨z,hz1,hz2⟩:=mE hl j.toNat _ (ady hA j.toNat hlt);exact⟨_,gF id,0,h,nx,A,fw.pure (k:=0) hinv hc hH (y0:=z) (rdl:=[nm id]) (by simp[dG,h1,xZ,hg,BC.sub?,BC.get,HY,dK,hz1]) (cM hz2) (λn D=>by simp[aE]at D;subst D;rw[di];exact bq.2 rfl) nofun⟩
     .cases A
    .cases A
  .cases A
 .rename_i T xs j hj off hv;let⟨y,h1,L⟩:=ba hi hv;simp[bW,ah]at L;subst L;split at A
  next v hs=>let⟨y,h3,h4⟩:=ai5 (h:=h) hj hs;exact je.q (k:=0) (y0:=.f y) hinv hc (λH _=>by simp[dG,h1,xZ,h4]) (cM h3) A
  .cases A
 .cases A
def aqy (hc:cP P o.op=Z (.alloc s L)) (hk:eO X W (.op (.alloc s L)) e h nx K=Z r):je P o af e h nx K r:=by
 have _:=hi;let⟨H,hH⟩:=gJ h;simp[eO]at hk;split at hk
 .rename_i l hl;let⟨_,hz,_⟩:=xU h hl;have hnone:h.get nx=U:=by
   cases hb:h.get nx with
   |none=>rfl
   |some b=>have:=hinv.low nx b hb;omega
  have z:bV h (h.set nx (Z (.G (Z s) l))):=bV.set λr z=>by rw[bA,hnone]at z;cases z
  let⟨h1,_,_⟩:=xU (h.set nx (Z (.G (Z s) l))) hl;have hb':erHF (h.set nx (Z (.G (Z s) l))) (nm nx)=Z ⟨s,.mx (L.map raw)⟩:=by rw[bJ,PT.get_set,aD rfl];simp[aF,kJ,h1]
  refine ⟨_,_,_,_,_,hk,fw.mk' hc hH (k:=nm nx) (by rfl) [nm nx] (λi hi=>hi) (λn A=>?_) (λi hi b' _=>⟨⟨s,.fz (L.map .raw)⟩,?_⟩) (λH1 H2 d hw1 _ hw2=>⟨λi hi b b' hb D=>?_,λy hy=>?_⟩) (by simp) ?_ ?_ z (hinv.set z (by omega) (by omega) λty' l' he=>?_) (by omega)⟩
  .refine ng hinv z (iQ.set (by rw[hnone];rfl) rfl) λi e=>?_
   rw[PT.get_set,av (λe=>A (by grind))]
  .simp[aE]at hi;subst hi;simp[j8]
  .simp[aE]at hi;subst hi;rw[hw1 _ (by simp)]at hb;rw[hw2 _ (by simp),hb']at D;rw[eZ]at hb;simp[ah]at hb D;subst hb D;refine gu.G rfl rfl ?_ λx hx=>?_
   .simp[BC.toMx,kX];exact hP.refl d _
   .simp only[BC.toMx]at hx;obtain⟨q,hq,rfl⟩:=cz.1 hx;exact hz q hq
  .simp[bW,ah]at hy;subst hy;exact kz.refl d _
  .intro n A;simp[aE]at A;subst A;rw[di];exact bq.2 rfl
  .intro n A;simp[aE]at A;subst A;rw[di];omega
  .cases he;exact mf _ _ _ h1
 .cases hk
def azz (hc:cP P o.op=Z (.box s c)) (L:eO X W (.op (.box s c)) e h nx K=Z r):je P o af e h nx K r:=by
 let⟨H,hH⟩:=gJ h;simp[eO]at L;split at L
 .rename_i v hv;split at L
  .rename_i l hl;let⟨y,h1,h2⟩:=ba hi hv;let⟨h3,h4⟩:=Ky hl h2;have hcell:=t8 h3 h4;have hnone:h.get nx=U:=by
    cases hb:h.get nx with
    |none=>rfl
    |some b=>have:=hinv.low nx b hb;omega
   have z:bV h (h.set nx (Z (.G (Z s) l))):=bV.set λr z=>by rw[bA,hnone]at z;cases z
   have h5:=g_ z l _ h3;have hb':erHF (h.set nx (Z (.G (Z s) l))) (nm nx)=Z ⟨s,.mx y.cs⟩:=by rw[bJ,PT.get_set,aD rfl];simp[aF,kJ,h5]
   refine ⟨_,_,_,_,_,L,fw.mk' hc hH (k:=nm nx) (by simp only[dG,h1,hcell,bk];rfl) [nm nx] (λi hi=>hi) (λn A=>?_) (λi hi b' _=>⟨⟨s,oy y.cs⟩,?_⟩) (λH1 H2 d hw1 _ hw2=>⟨λi hi b b' hb D=>?_,λy hy=>?_⟩) (by simp) ?_ ?_ z (hinv.set z (by omega) (by omega) λty' l' he=>?_) (by omega)⟩
   .refine ng hinv z (iQ.set (by rw[hnone];rfl) rfl) λi e=>?_
    rw[PT.get_set,av (λe=>A (by grind))]
   .simp[aE]at hi;subst hi;simp[j8]
   .simp[aE]at hi;subst hi;rw[hw1 _ (by simp)]at hb;rw[hw2 _ (by simp),hb']at D;rw[eZ]at hb;simp[ah]at hb D;subst hb D;let⟨q1,q2⟩:=nQ y.cs;refine gu.G q2 rfl ?_ λc hx=>?_
    .rw[q1];exact hP.refl d _
    .exact nj hcell c hx
   .simp[bW,ah]at hy;subst hy;exact kz.refl d _
   .intro n A;simp[aE]at A;subst A;rw[di];exact bq.2 rfl
   .intro n A;simp[aE]at A;subst A;rw[di];omega
   .cases he;exact mf _ _ _ h5
  .cases L
 .cases L
def aqv {l:Operand} (hcm:Hx (W s)=U) (hc:cP P o.op=Z (.zm s i j L l c)) (A:eO X W (.op (.zm s i j L l c)) e h nx K=Z r):je P o af e h nx K r:=by
 let⟨H,hH⟩:=gJ h;simp only[eO,hcm]at A;split at A
 .rename_i T k a k' b hT hv hv2;split at A
  .rename_i hsz;simp only[al]at hsz;have hs:=au hsz.1;have hz:=O1 hsz.2;subst hs hz;let⟨hck,A⟩:=cI A;let⟨y,h1,h2⟩:=ba hi hv;let⟨y2,h3,h4⟩:=ba hi hv2;simp[bW,ah]at h2 h4;subst h2 h4;have hnone:h.get nx=U:=by
    cases hb:h.get nx with
    |none=>rfl
    |some b=>have:=hinv.low nx b hb;omega
   generalize hB:e_.H s af T (aC (aN a) T.zero)=B at A;have hr:bV h (h.set nx (Z B)):=bV.set λr hr=>by rw[bA,hnone]at hr;cases hr
   have hb':erHF (h.set nx (Z B)) (nm nx)=Z ⟨s,.fz ((aC (aN a) T.zero).flatMap (bE T))⟩:=by rw[bJ,PT.get_set,aD rfl,<-hB];simp[kJ]
   refine ⟨_,_,_,_,_,A,fw.mk' hc hH (k:=nm nx) (by simp only[dG,h1,h3,gr,hck,bk];rfl) [nm nx] (λsz hi=>hi) (λn D=>?_) (λsz hi b' _=>⟨⟨s,.fz (repl (vb T) (aN a))⟩,?_⟩) (λH1 H2 d hw1 _ hw2=>⟨λsz hi b b' hb z=>?_,λy hy=>?_⟩) (by simp) ?_ ?_ hr (hinv.set hr (by omega) (by omega) λty' l' he=>?_) (by omega)⟩
   .refine ng hinv hr (iQ.set (by rw[hnone];rfl) (by rw[<- hB];rfl)) λsz e=>?_
    rw[PT.get_set,av (λe=>D (by grind))]
   .simp[aE]at hi;subst hi;simp[j8]
   .simp[aE]at hi;subst hi;rw[hw1 _ (by simp)]at hb;rw[hw2 _ (by simp),hb']at z;rw[eZ]at hb;simp[ah]at hb z;subst hb z;refine gu.G rfl rfl (LI d T _) λx hx=>?_
    obtain⟨q,hq,rfl⟩:=cz.1 hx;exact mD T _ q hq
   .simp[bW,bA,PT.get_set,bk,<-hB,aF,iN,dA,gO,cL,dF,ah,cU]at hy;subst hy;exact kz.refl d _
   .intro n D;simp[aE]at D;subst D;rw[di];exact bq.2 rfl
   .intro n D;simp[aE]at D;subst D;rw[di];omega
   .grind
  .cases A
 .cases A
end ops
def zJ {f:R->Y FV} (hf:∀x,l! (f x)=i):∀(xs:Y R) (j:Nat),(xs.take j).flatMap f=(xs.flatMap f).take (j*i)
 |[],j|x::r,0=>by simp
 |x::r,j+1=>by
  rw[yD,gh,gh,zJ hf r j,show (j+1)*i=l! (f x)+j*i from by rw[hf,jS];omega,List.take_length_add_append]
def NA {f:R->Y FV} (hf:∀x,l! (f x)=i):∀(xs:Y R) (j:Nat),(xs.drop j).flatMap f=(xs.flatMap f).drop (j*i)
 |[],j|x::r,0=>by simp
 |x::r,j+1=>by
  rw[KJ,gh,NA hf r j,show (j+1)*i=l! (f x)+j*i from by rw[hf,jS];omega,List.drop_length_add_append]
variable {L:ξ}
def Vp :∀(n:Nat) (x:FV),x∈repl L n->∃v∈L,x= .raw v
 |0,x,h=>by simp[repl]at h
 |n+1,x,h=>by
  rw[repl,bO]at h;rcases h with h|h
  .grind
  .exact Vp n x h
def KA:∀l:Y FV,(∀x∈l,x.isCell=J)->gD (l.map .f)=J
 |[],_=>rfl
 |z::r,h=>by simp[b9,gD,al];exact⟨h z (by simp),KA r λx A=>h x (by grind)⟩
section ops
variable {R:Type} {P:Program} {o:Oper} {e:ii} {h:aY} {nx:Nat} {K:KO R} {r:R}
def hX.fresh (hinv:hX h nx):h.get nx=U:=by
 cases z:h.get nx with
 |none=>rfl
 |some b=>have:=hinv.low nx b z;omega
def rC.kill (hinv:hX h nx) (hm:dN h i):rC (erHF h) (erHF (dP i h)):=λn b hb=>by
 let⟨c,z,A⟩:=iX hb;rw[iW]at z;by_cases ht:aL i (ow n)=J
 .obtain⟨pp,ss,nn,L⟩:=vR hm ht;rw[iW]at L;rw[L]at z;cases z;cases D:ix n with
  |_=>rw[D]at A;cases A
 .rw[av ht]at z;refine ⟨b,?_⟩;unfold erHF;rw[z];simp[aF];rw[<- mF (bV.kill i h) (λty l e=>hinv.G (ow n) _ l (by rw[z,e]))];exact A
def dN.lt (hinv:hX h nx) (hm:dN h j) (hi:aL j i=J):i<nx:=by
 let⟨_,_,_,_,z⟩:=hm i hi;exact hinv.low i _ z
def fw.new {s:UU} (hinv:hX h nx) (hc:cP P o.op=Z s) {a:nz} (hH:a.get=erHF h) {y0:AV} {rdl:ι} {b0:kG} (ha:dG s (D2 e h) a (nm nx)=Z ⟨y0,rdl,[nm nx],[(nm nx,b0)],[nm nx]⟩) {B:e_} {v:TV} {m rd:Nat} (hm:dN h m)
 (hB:∀ty l,B= .G ty l->l8 ((dP m h).set nx (Z B)) l=J)
 (hblk:∀A z,rC A z->Fy h A z m->∀b',kJ ((dP m h).set nx (Z B)) B=Z b'->gu A z b0 b')
 (hval:∀A z y,rC A z->Fy h A z m->bW ((dP m h).set nx (Z B)) v=Z y->kz A z y0 y)
 (hrd:∀n∈rdl,aL rd (ow n)=J) (hMem:∀i k,w_ i k B=U:=by exact λ_ _=>rfl):fw P o af e h nx v rd (m|||gF nx) ((dP m h).set nx (Z B)) (nx+1):=by
 have hk:=hinv.kill m;have hme:iQ h ((dP m h).set nx (Z B)):=(iQ.kill hm).trans (iQ.at_ λk=>by rw[hk.fresh];exact hMem nx k);have hr0:=bV.kill m h;have hr1:bV (dP m h) ((dP m h).set nx (Z B)):=bV.set λr hr=>by rw[bA,hk.fresh]at hr;cases hr
 have hr:=hr0.trans hr1;have hgiv:∀i,aL m i=J->erHF ((dP m h).set nx (Z B)) (nm i)=U:=λi hi=>by
  have hlt:=hm.lt hinv hi;let⟨p,sz,n,hd⟩:=vR hm hi;rw[bJ,PT.get_set,av (by omega),hd];rfl
 refine fw.mk' hc hH ha (nm nx::JD m) (λi hi=>by simp[aE]at hi;subst hi;simp) (λn D=>?_) (λi hi b' hb'=>?_) (λA z d hw1 hw0 L=>?_) hrd ?_ ?_ hr (hk.set hr1 (by omega) (by omega) hB) (by omega)
 .refine ng hinv hr hme λi e=>?_
  subst e;rw[PT.get_set,av (λe=>D (by grind)),iW,av];intro hb;exact D (bS _ (mS.2 hb))
 .rcases aV.1 hi with rfl|hi
  .exact⟨b0,by rw[aD (by simp),eZ]⟩
  .obtain⟨j,rfl,hj⟩:=pa.1 hi
   grind
 .have g:Fy h A z m:=λi hi=>by
   have hlt:=hm.lt hinv hi;have hmem:nm i∈nm nx::JD m:=bS _ (mS.2 hi);exact⟨hw0 _ hmem (λhc=>by simp[aE]at hc;have:=uN hc;omega),by rw[L _ hmem,hgiv i hi]⟩
  refine ⟨λi hi b b' hb hb2=>?_,λy hy=>hval A z y d g hy⟩;rcases aV.1 hi with rfl|hi'
  .rw[hw1 _ (by simp),eZ]at hb;rw[L _ hi,bJ,PT.get_set,aD rfl]at hb2
   grind
  .obtain⟨j,rfl,hj⟩:=pa.1 hi'
   grind
 .intro n D;rw[bu];rcases aV.1 D with rfl|D
  .rw[di,bq.2 rfl];simp
  .obtain⟨j,rfl,hj⟩:=pa.1 D;rw[di,hj];rfl
 .intro n D;simp[aE]at D;subst D;rw[di];omega
def fw.wrt {s:UU} (hinv:hX h nx) (hc:cP P o.op=Z s) {a:nz} (hH:a.get=erHF h) {y0:AV} {rdl:ι} {b0:kG} {k:Nat} (ha:dG s (D2 e h) a k=Z ⟨y0,rdl,[nm i],[(nm i,b0)],[]⟩) {B0 B:e_} (hb0:h.get i=Z B0) {v:TV} {m rd:Nat} (hm:dN h m) (hmid:aL m i=af)
 (hrow:iN B=iN B0) (hB:∀ty l,B= .G ty l->l8 ((dP m h).set i (Z B)) l=J)
 (hblk:∀A z,rC A z->Fy h A z m->∀b',kJ ((dP m h).set i (Z B)) B=Z b'->gu A z b0 b')
 (hval:∀A z y,rC A z->Fy h A z m->bW ((dP m h).set i (Z B)) v=Z y->kz A z y0 y)
 (hrd:∀n∈rdl,aL rd (ow n)=J) (hMem:∀k,w_ i k B=w_ i k B0:=by exact λ_=>rfl):fw P o af e h nx v rd (m|||gF i) ((dP m h).set i (Z B)) nx:=by
 have hk:=hinv.kill m;have hr0:=bV.kill m h;have hkid:(dP m h).get i=Z B0:=by rw[iW,hmid];simpa using hb0
 have hr1:bV (dP m h) ((dP m h).set i (Z B)):=bV.set λr hr=>by rw[bA,hkid]at hr;rw[hrow];exact hr
 have hme:iQ h ((dP m h).set i (Z B)):=(iQ.kill hm).trans (iQ.at_ λk=>by rw[hkid];exact hMem k);have hr:=hr0.trans hr1;have hgiv:∀id,aL m id=J->erHF ((dP m h).set i (Z B)) (nm id)=U:=λid hi=>by
  have hne:id≠i:=λe=>by grind
  let⟨p,sz,n,hd⟩:=vR hm hi;rw[bJ,PT.get_set,av hne,hd];rfl
 refine fw.mk' hc hH ha (nm i::JD m) (λid hi=>by simp[aE]at hi;subst hi;simp) (λn D=>?_) (λid hi b' hb'=>?_) (λA z d hw1 hw0 L=>?_) hrd ?_ (by simp) hr (hk.set hr1 (hinv.low i B0 hb0) (by omega) hB) (by omega)
 .refine ng hinv hr hme λid e=>?_
  subst e;rw[PT.get_set,av (λe=>D (by grind)),iW,av];intro hb;exact D (bS _ (mS.2 hb))
 .rcases aV.1 hi with rfl|hi
  .exact⟨b0,by rw[aD (by simp),eZ]⟩
  .obtain⟨j,rfl,hj⟩:=pa.1 hi
   grind
 .have g:Fy h A z m:=λid hi=>by
   have hne:id≠i:=λe=>by grind
   have hmem:nm id∈nm i::JD m:=bS _ (mS.2 hi);exact⟨hw0 _ hmem (λhc=>by simp[aE]at hc;exact hne (uN hc)),by rw[L _ hmem,hgiv id hi]⟩
  refine ⟨λid hi b b' hb hb2=>?_,λy hy=>hval A z y d g hy⟩;rcases aV.1 hi with rfl|hi'
  .rw[hw1 _ (by simp),eZ]at hb;rw[L _ hi,bJ,PT.get_set,aD rfl]at hb2
   grind
  .obtain⟨j,rfl,hj⟩:=pa.1 hi'
   grind
 .intro n D;rw[bu];rcases aV.1 D with rfl|D
  .rw[di,bq.2 rfl];simp
  .obtain⟨j,rfl,hj⟩:=pa.1 D;rw[di,hj];rfl
def Rg (h:aY) (D:OE L=Z m):∀len,cN h (aC len m).flatten=Z ((repl L len).map .f)
 |0=>rfl
 |n+1=>by
  rw[yE,List.flatten_cons,repl,cG];refine oO ?_ (Rg h D n);rw[(xU h D).1];simp only[kX];rfl
def SS {H:nz} (hH:H.get=erHF h) {T:Ty} {ys:Y T.den} (A:FE h (.sl T) u=Z (ys,i)) (D:bW h u=Z y):∃rd,y.row? H T.size=Z ((ys.flatMap (bE T)).map .f,l! ys,rd)/\∀n∈rd,∃m,n=nm m/\aL i m=J:=by
 have fl:=λL:Y T.den=>eK (bm T) L
 have tk:∀L:Y T.den,(L.flatMap (bE T)).take (l! L*T.size)=L.flatMap (bE T):=λL=>by grind
 cases u with
 |f S x=>
  simp[FE,iB]at A;split at A
  next z hz=>obtain⟨e,rfl⟩:=iP hz;subst e;simp[bW,ah]at D;subst D;simp only[gr,AV.row?];simp_all
  .cases A
 |emp|nil=>
  obtain⟨rfl,_⟩:=A;simp[bW,ah]at D;subst D;exact⟨[],rfl,by simp⟩
 |I id=>
  simp[FE,iB]at A;split at A
  .rename_i ty p S xs hb;split at A
   .rename_i z hz;obtain⟨rfl,rfl⟩:=A;obtain⟨e,rfl⟩:=iP hz;cases e;simp[bW,eQ,hb,ah]at D;subst D;unfold dA;split
    next hp=>simp only[al,c4]at hp;have:xs=[]:=dk.1 hp.2;subst this;exact⟨[],rfl,by simp⟩
    .rename_i hp;have hg:H.get (nm id)=Z ⟨ty,.fz (xs.flatMap (bE T))⟩:=by rw[hH,bJ,hb];simp only[aF,kJ,av hp]
     refine ⟨[nm id],?_,λn hn=>?_⟩
     .simp only[AV.row?,hg,cr,bk,BC.isCells,BC.len,cY];rw[aD (a_ (by grind))];simp[BC.toMx,<-gQ,tk]
     .simp[aE]at hn;exact⟨id,hn,bq.2 rfl⟩
   .cases A
  .cases A
 |agg l=>simp[FE,Ty.one]at A
 |_=>simp[FE,iB]at A
def Zf (z:bW h u=Z y) (A:u.isC=J):gD y.cs=J:=by
 rw[S1 (Tk z A)];simp[gD,Bool.and_true];exact Tk z A
def ag2 (T:Ty) (x:T.den):gD ((bE T x).map .f)=J:=by
 have:∀l:Y FV,(∀x∈l,x.isCell=J)->gD (l.map .f)=J:=by
  intro l A;induction l with
  |nil=>rfl
  |cons z r D=>simp[b9,gD,al];exact⟨A z (by simp),D λx L=>A x (by grind)⟩
 exact this _ (ph T x)
def gK {T:Ty} {v:TV} {x:T.den} (A:iB h T v=Z (x,i)) (D:bW h v=Z y):gD y.cs=J:=by
 cases v with
 |f S v=>simp[bW,ah]at D;subst D;rw[Dz];exact ag2 S v
 |emp|nil|I id=>exact Zf D rfl
 |_=>simp[iB]at A
def L5 {T:Ty} (L:T.one=J) {x:T.den} (A:iB h T u=Z (x,i)):u.isC=J:=by
 cases u with
 |f S u=>
  simp[iB]at A;split at A
  next z D=>let⟨e,_⟩:=iP D;subst e;exact L
  .cases A
 |emp|nil|I id=>rfl
 |_=>simp[iB]at A
def X9 {b:Y TV} (A:lX m=J) (L:lX b=J):lX (m++b)=J:=by
 induction m with
 |nil=>exact L
 |cons z r D=>simp[lX,al,gR]at A ⊢;exact⟨A.1,D A.2⟩
def vN:∀(n:Nat) (T:Ty) (l:Y TV) (x:T.den) (m:Nat) (r:Y TV),fK h n T l=Z (x,m,r)->∃a,l=a++r/\lX a=J
 |0,_,_,_,_,_,hp=>by simp[fK]at hp
 |n+1,.st t,l,x,m,r,hp=>vN n t l x m r hp
 |n+1,.pr a b,l,x,m,r,hp=>by
  simp[fK]at hp;split at hp
  .rename_i z m1 A h1;split at hp
   next D m2 L h2=>simp[ah,aR]at hp;obtain⟨_,_,rfl⟩:=hp;obtain⟨a1,rfl,g1⟩:=vN n a l z m1 A h1;obtain⟨a2,rfl,g2⟩:=vN n b A D m2 L h2;exact⟨a1++a2,by simp,X9 g1 g2⟩
   .cases hp
  .cases hp
 |n+1,.un,l,x,m,r,hp=>by
  obtain⟨_,_,rfl⟩:=hp;exact⟨[],rfl,rfl⟩
 |n+1,.ex,l,x,m,r,hp=>by
  simp[fK]at hp;split at hp
  next z m1 A h1=>simp[ah,aR]at hp;obtain⟨_,_,rfl⟩:=hp;exact vN n RE l z m1 A h1
  .cases hp
 |n+1,.sm,l,x,m,r,hp=>by
  simp[fK]at hp;split at hp
  next z m1 A h1=>simp[ah,aR]at hp;obtain⟨_,_,rfl⟩:=hp;exact vN n Ra l z m1 A h1
  .cases hp
 |n+1,.int k,l,x,m,r,hp|n+1,.bool,l,x,m,r,hp|n+1,.str,l,x,m,r,hp|n+1,.sl t,l,x,m,r,hp=>by
  simp[fK]at hp;split at hp
  .rename_i c q;split at hp
   next z m1 h1=>obtain⟨_,_,rfl⟩:=hp;exact⟨[c],rfl,by simp[lX,L5 rfl h1]⟩
   .cases hp
  .cases hp
def O4 {T:Ty} {x:T.den} (D:FE h T u=Z (x,i)) (A:bW h u=Z y):gD y.cs=J:=by
 cases u with
 |agg l=>
  simp only[FE]at D;split at D
  .cases D
  .split at D
   .rename_i L m1 h1;let⟨a,e,ga⟩:=vN 40 T l L m1 [] h1;rw[jU]at e;subst e;simp[bW]at A;split at A
    next l' hl=>simp[ah]at A;subst A;exact t8 hl ga
    .cases A
   .cases D
 |f S u=>exact gK (v:=.f S u) D A
 |zf T xs j hj off=>exact gK (v:=.zf T xs j hj off) D A
 |zj id sz j off=>exact gK (v:=.zj id sz j off) D A
 |P id off=>exact gK (v:=.P id off) D A
 |qg id off z=>exact gK (v:=.qg id off z) D A
 |I id=>exact gK (v:=.I id) D A
 |emp=>exact gK (v:=.emp) D A
 |nil=>exact gK (v:=.nil) D A
 |mp id=>exact gK (v:=.mp id) D A
 |zh id jj=>exact gK (v:=.zh id jj) D A
 |qb q=>exact gK (v:=.qb q) D A
 |qy g q=>exact gK (v:=.qy g q) D A
 |undef=>exact gK (v:=.undef) D A
 |np=>exact gK (v:=.np) D A
 |qw=>exact gK (v:=.qw) D A
 |qc S q=>exact gK (v:=.qc S q) D A
 |sb q=>exact gK (v:=.sb q) D A
def oC (D:bW h u=Z y):∀(n:Nat) (T:Ty) (v:T.den) (off sz:Nat) (z:T.den) (m:Nat),gW h u n T v off sz=Z (z,m)->gD y.cs=J
 |0,_,_,_,_,_,_,A=>by simp[gW]at A
 |n+1,.st t,v,off,sz,z,m,A=>by
  simp[gW]at A;split at A
  .rename_i q L;split at L
   .exact O4 L D
   .cases L
  .exact oC D n t v off sz z m A
 |n+1,.pr a b,v,off,sz,z,m,A=>by
  simp[gW]at A;split at A
  .split at A
   next z1 m1 h1=>exact oC D n a v.1 off sz z1 m1 h1
   .cases A
  .split at A
   next z1 m1 h1=>exact oC D n b v.2 _ sz z1 m1 h1
   .cases A
 |n+1,.un,v,off,sz,z,m,A=>by simp[gW]at A
 |n+1,.ex,v,off,sz,z,m,A=>by
  simp[gW]at A;split at A
  .rename_i q L;split at L
   .exact O4 L D
   .cases L
  .split at A
   next z1 m1 h1=>exact oC D n RE _ off sz z1 m1 h1
   .cases A
 |n+1,.sm,v,off,sz,z,m,A=>by
  simp[gW]at A;split at A
  .rename_i q L;split at L
   .exact O4 L D
   .cases L
  .split at A
   next z1 m1 h1=>exact oC D n Ra _ off sz z1 m1 h1
   .cases A
 |n+1,.int k,v,off,sz,z,m,A|n+1,.bool,v,off,sz,z,m,A|n+1,.str,v,off,sz,z,m,A|n+1,.sl t,v,off,sz,z,m,A=>by
  simp only[gW]at A;split at A
  .exact gK A D
  .cases A
def O8 (l:Y FV):Aa (l.map .f)=Z l:=by
 induction l with
 |nil=>rfl
 |cons x r z=>simp[b9,Aa,z]
def wA (l:Y FV):oy (l.map .f)= .fz l:=by unfold oy;rw[O8]
def KB:∀{a b:Y TV},lX a=J->lX b=J->lX (a++b)=J
 |[],_,_,z=>z
 |x::r,b,A,z=>by
  simp[lX,al]at A;simp[gR,lX,al];exact⟨A.1,KB A.2 z⟩
def Jd (A:lX m=J):∀n,lX (aC n m).flatten=J
 |0=>rfl
 |n+1=>by exact KB A (Jd A n)
def adl {H:nz} (L:H.get=erHF h) {l':Y AV} (D:h.get i=Z (.G (Z j) m)) (z:cN h m=Z l') {n sz:Nat} (hn:l! m=n*sz):AV.row? H sz (.I (nm i) sz n)=Z (l',n,[nm i]):=by
 have A:H.get (nm i)=Z ⟨j,.mx l'⟩:=by rw[L,bJ,D];simp[aF,kJ,z]
 have hln:=iH z;simp only[AV.row?,cr,bk,A,BC.isCells,cY,BC.len,BC.toMx];rw[aD (a_ (by omega)),gz (by omega)]
variable (hinv:hX h nx) (hi:sM e h)
include hinv hi
variable {X:FuncId->M cw} {W:TypeId->M Ty}
def aw9 {parts:Y n?} (hcm:Hx (W s)=U) (hc:cP P o.op=Z (.xx s i j L parts)) (D:eO X W (.op (.xx s i j L parts)) e h nx K=Z r):je P o af e h nx K r:=by
 let⟨H,hH⟩:=gJ h;simp only[eO,hcm]at D;split at D
 .rename_i T zc hT hz;split at D
  .rename_i hs;have hs:=au hs;subst hs;split at D
   .rename_i cs hf;split at D
    .rename_i xs m hp;let⟨cs',h1,h2,_⟩:=G1 hi parts _ cs _ hf (Rg h hz j);have hm:=SU j cs xs m hp;refine ⟨_,_,_,_,_,D,fw.new hinv hc hH (y0:=if j=0 then .emp else .I (nm nx) T.size j) (rdl:=[]) (b0:=⟨s,oy cs'⟩) (by simp[dG,h1]) hm (λ_ _ he=>by cases he) (λH1 H2 d g b' A=>?_) (λH1 H2 y d g hy=>?_) (by simp)⟩
     .simp only[kJ]at A;split at A
      .cases A
      rw[ah]at A;subst A;let⟨q1,q2⟩:=nQ cs';refine gu.G q2 rfl ?_ λx hx=>?_
      .rw[q1];exact (Ga d j cs xs m cs' hp h2 g).1
      .simp only[BC.toMx]at hx;obtain⟨q,z,rfl⟩:=cz.1 hx;exact mD T _ q z
     .simp only[bW,bA,PT.get_set,bk,aF,iN,dA,ah]at hy;rw[(Ga d j cs xs m cs' hp h2 g).2]at hy;split at hy
      next z=>simp only[al,c4]at z;subst hy;rw[aD z.2];exact kz.refl d _
      next z=>subst hy;rw[av (λh0=>z (by simp_all))];exact kz.refl d _
    .cases D
   .cases D
  .cases D
 .cases D
def UC {H:nz} (hH:H.get=erHF h) {ty:Operand} {T:Ty} {z:Y T.den} {yy:AV} {rdl:ι} (hc:cP P o.op=Z (.app s T.size i ty c)) (h1:me (D2 e h) ty=Z y) (h2:bW h u=Z y) (h3:me (D2 e h) c=Z yy) (h5:yy.row? H T.size=Z ((z.flatMap (bE T)).map .f,l! z,rdl)) (h6:∀n∈rdl,aL j (ow n)=J) (A:aq1 s T.size i T u z j h nx K=Z r):je P o af e h nx K r:=by
 have hfr:=hinv.fresh;have _:=hi;unfold aq1 at A;have onEmp:∀(rd':Nat),(∀n∈rdl,aL rd' (ow n)=J)->Fh y=J->Le y .emp->be (aj z) i=J->fw P o af e h nx (.I nx) rd' (gF nx) (h.set nx (Z (.H s J T z))) (nx+1):=by
  intro rd' hrd' he hle hroom;have hr1:bV h (h.set nx (Z (.H s J T z))):=bV.set λr hr=>by rw[bA,hfr]at hr;cases hr
  have hyb:∀id sz' n,y≠ .I id sz' n:=by rintro id sz' n rfl;cases he
  have L:dG (.app s T.size i ty c) (D2 e h) H (nm nx)=if aj z==0 then Z ⟨y,rdl,[],[],[]⟩ else Z ⟨.I (nm nx) T.size (aj z),rdl,[nm nx],[(nm nx,⟨s,oy ((z.flatMap (bE T)).map .f)⟩)],[nm nx]⟩:=by
   simp only[dG,h1,h3,h5];cases y with
   |I id sz' n=>exact cu rfl (hyb id sz' n)
   |qc l n=>cases he
   |_=>simp only[he,hroom,fx,bk]
  by_cases hl:aj z=0
  .rw[hl]at L;simp only[cr,bk]at L;have hnil:z=[]:=dk.1 hl;subst hnil;refine fw.mk' hc hH L [] (by simp) (λn _=>?_) (by simp) (λH1 H2 d _ _ _=>⟨by simp,λyb hy=>?_⟩) hrd' (by simp) (by simp) hr1 (hinv.set hr1 (by omega) (by omega) λ_ _ he=>by cases he) (by omega)
   .by_cases D:n=nm nx
    .subst D;rw[bJ,bJ,PT.get_set,aD rfl,hfr];rfl
    .refine ng hinv hr1 (iQ.set (by rw[hfr];rfl) rfl) λbytes e=>?_
     subst e;rw[PT.get_set,av (λe=>D (by rw[e]))]
   .simp only[bW,bA,PT.get_set,bk,aF,iN,dA,pK,cr,fx,ah]at hy;subst hy;exact hle.toH d
  .rw[av (by simpa using hl)]at L;rw[wA]at L;have key:=fw.new (m:=0) (rd:=rd') hinv hc hH L (B:=.H s J T z) (v:=.I nx) (dN.zero h) (λ_ _ he=>by cases he) (λH1 H2 d g b' hb'=>by
    simp only[kJ]at hb';rw[av (by simpa using hl)]at hb';cases hb';exact gu.refl d _) (λH1 H2 yb d g hy=>by
    simp only[bW,bA,PT.get_set,bk,aF,iN,dA]at hy;rw[av (by simpa using hl)]at hy;cases hy;exact kz.refl d _) hrd'
   rw[wX]at key;exact key
 split at A
 .rename_i id;split at A
  .rename_i ty' p S xs0 hb;split at A
   .rename_i xs hxs;obtain⟨ee,rfl⟩:=iP hxs;cases ee;split at A
    .rename_i hcond;simp only[al,c4,ca]at hcond;obtain⟨rfl,hmid⟩:=hcond;let⟨hroom,A⟩:=cI A;simp only[bW,eQ,hb,ah]at h2;have hidlt:=hinv.low id _ hb;have hne:nx≠id:=by omega
     have hrd:∀n∈rdl,aL (gF id|||j) (ow n)=J:=λn D=>by
      rw[bu,h6 n D];simp
     generalize hh':(h.set id (Z (.qj p T.size (aj xs0)))).set nx (Z (.H ty' p T (xs0++z)))=h' at A;have hrA:bV h (h.set id (Z (.qj p T.size (aj xs0)))):=bV.set λr hr=>by rw[bA,hb]at hr;exact hr
     have hg2:∀bytes,h'.get bytes=if bytes=nx then Z (.H ty' p T (xs0++z)) else if bytes=id then Z (.qj p T.size (aj xs0)) else h.get bytes:=λbytes=>by rw[<- hh',PT.get_set,PT.get_set]
     have hr:bV h h':=by
      rw[<- hh'];refine hrA.trans (bV.set λr hr=>?_);rw[bA,PT.get_set,av hne,hfr]at hr;cases hr
     have hinv':hX h' (nx+1):=by
      refine ⟨λbytes s l hil=>?_,λbytes x hic=>?_⟩
      .rw[hg2]at hil;split at hil
       .cases hil
       .split at hil
        .cases hil
        .exact fA hr l (hinv.G bytes _ l hil)
      .rw[hg2]at hic;split at hic
       .omega
       .split at hic
        .omega
        .have:=hinv.low bytes x hic;omega
     have hme:iQ h h':=(iQ.of λbytes=>by
      rw[hg2];by_cases e1:bytes=nx
      .rw[aD e1,e1,hfr];exact .inr ⟨rfl,rfl⟩
      .rw[av e1];by_cases e2:bytes=id
       .rw[aD e2,e2,hb];exact .inr ⟨rfl,rfl⟩
       .rw[av e2];exact .inl rfl)
     have hsame:∀n,n≠nm nx->n≠nm id->erHF h' n=erHF h n:=λn h1 h2=>ng hinv hr hme λbytes e=>by
      subst e;rw[hg2,av (λe=>h1 (by rw[e])),av (λe=>h2 (by rw[e]))]
     have hdead:erHF h' (nm id)=U:=by rw[bJ,hg2,av (by omega),aD rfl];rfl
     have hnew:erHF h' (nm nx)=if p&&l! (xs0++z)==0 then U else Z ⟨ty',.fz ((xs0++z).flatMap (bE T))⟩:=by rw[bJ,hg2,aD rfl];rfl
     have hval:bW h' (.I nx)=Z (dA p nx T.size (l! (xs0++z))):=by simp only[bW,bA,hg2,bk,aF,iN]
     have hwm:∀n,n=nm nx\/n=nm id->aL (gF id|||gF nx) (ow n)=J:=λn D=>by
      rcases D with rfl|rfl<;>rw[di,bu,bq.2 rfl]<;>simp
     refine ⟨_,_,_,_,_,A,?_⟩;by_cases hp:(p&&l! xs0==0)=J
     ·
      have hyb:y= .emp:=by rw[<- h2];unfold dA;rw[aD hp]
      subst hyb;simp only[al,c4]at hp;obtain⟨rfl,hl0⟩:=hp;have hnil:xs0=[]:=dk.1 hl0;subst hnil;have hroom':be (aj z) i=J:=by simpa using hroom
      have L:dG (.app ty' T.size i ty c) (D2 e h) H (nm nx)=if aj z==0 then Z ⟨.emp,rdl,[],[],[]⟩ else Z ⟨.I (nm nx) T.size (aj z),rdl,[nm nx],[(nm nx,⟨ty',oy ((z.flatMap (bE T)).map .f)⟩)],[nm nx]⟩:=by
       simp only[dG,h1,h3,h5,Fh,hroom',fx,bk]
      have hdead0:erHF h (nm id)=U:=by rw[bJ,hb];rfl
      by_cases hl:aj z=0
      .rw[hl]at L;simp only[cr,bk]at L;have hnil:z=[]:=dk.1 hl;subst hnil;refine fw.mk' hc hH L [] (by simp) (λn _=>?_) (by simp) (λH1 H2 d _ _ _=>⟨by simp,λyb hy=>?_⟩) hrd (by simp) (by simp) hr hinv' (by omega)
       .by_cases D:n=nm nx
        .subst D;rw[hnew,bJ,hfr];rfl
        .by_cases hn2:n=nm id
         .subst hn2;rw[hdead,hdead0]
         .exact hsame n D hn2
       .rw[hval]at hy;simp only[dA,jU,pK,cr,fx,bk,ah]at hy;subst hy;exact kz.refl d _
      .rw[av (by simpa using hl),wA]at L;refine fw.mk' hc hH L [nm nx] (λbytes hi=>hi) (λn D=>?_) (λbytes hi b' _=>⟨_,by rw[aD hi];simp only[aE]at hi;subst hi;exact eZ _ _⟩) (λH1 H2 d hw1 _ hw2=>⟨λbytes hi u b' hb1 hb2=>?_,λyb hy=>?_⟩) hrd (λn D=>hwm n (.inl (by simpa using D))) (λn D=>by simp only[aE]at D;subst D;rw[di];omega) hr hinv' (by omega)
       .have hn1:n≠nm nx:=by simpa using D
        by_cases hn2:n=nm id
        .subst hn2;rw[hdead,hdead0]
        .exact hsame n hn1 hn2
       .simp only[aE]at hi;subst hi;rw[hw1 _ (by simp),eZ]at hb1;rw[hw2 _ (by simp),hnew,av (by simpa using hl)]at hb2;simp only[ah,lq]at hb1 hb2;subst hb1 hb2;exact gu.refl d _
       .rw[hval]at hy;simp only[dA,lq]at hy;rw[av (by simpa using hl)]at hy;cases hy;exact kz.refl d _
     .have hyb:y= .I (nm id) T.size (l! xs0):=by rw[<- h2];unfold dA;rw[av hp]
      subst hyb;have hg:H.get (nm id)=Z ⟨ty',.fz (xs0.flatMap (bE T))⟩:=by rw[hH,bJ,hb];simp only[aF,kJ,av hp]
      have fl:=eK (bm T) xs0;have tk:(xs0.flatMap (bE T)).take (l! xs0*T.size)=xs0.flatMap (bE T):=by rw[<- fl,cQ]
      have hmem:mem (nm id) rdl=af:=by
       cases hx:mem (nm id) rdl with
       |false=>rfl
       |true=>
        have hm:=h6 _ (ajj.1 hx);rw[di,hmid]at hm;cases hm
      have L:dG (.app ty' T.size i ty c) (D2 e h) H (nm nx)=Z ⟨.I (nm nx) T.size (l! xs0+l! z),nm id::rdl,[nm nx,nm id],[(nm nx,⟨ty',.fz ((xs0++z).flatMap (bE T))⟩)],[nm nx]⟩:=by
       have hcnd:(T.size==T.size&& !(mem (nm id) rdl)&&(BC.fz (xs0.flatMap (bE T))).isCells&&dR (l! xs0*T.size) (BC.fz (xs0.flatMap (bE T))).len&&ty'==ty'&&be (l! xs0+l! z) i)=J:=by
        have:dR (l! xs0*T.size) (BC.fz (xs0.flatMap (bE T))).len=J:=a_ (by simp only[BC.len];omega);rw[this,hmem,hroom];simp[BC.isCells]
       simp only[dG,h1,h3,h5,hg,hcnd,bk,BC.toMx,<-gQ,tk,<-cG,wA,yG]
      have hne2:¬((p&&l! (xs0++z)==0)=J):=by
       simp only[al,c4,bz]at hp ⊢;intro hh;exact hp ⟨hh.1,by omega⟩
      refine fw.mk' hc hH L [nm nx,nm id] (λbytes hi=>hi) (λn D=>?_) (λbytes hi b' hb'=>?_) (λH1 H2 d hw1 _ hw2=>⟨λbytes hi u b' hb1 hb2=>?_,λyb hy=>?_⟩) (λn D=>?_) (λn D=>hwm n (by simpa using D)) (λn D=>by simp only[aE]at D;subst D;rw[di];omega) hr hinv' (by omega)
      .simp only[aV,b8,fo,not_or]at D;exact hsame n D.1 D.2
      .simp only[aV,b8,fo]at hi;rcases hi with rfl|rfl
       .exact⟨_,by rw[aD (by simp)];exact eZ _ _⟩
       .rw[hdead]at hb';cases hb'
      .simp only[aV,b8,fo]at hi;rcases hi with rfl|rfl
       .rw[hw1 _ (by simp),eZ]at hb1;rw[hw2 _ (by simp),hnew,av hne2]at hb2;simp only[ah]at hb1 hb2;subst hb1 hb2;exact gu.refl d _
       .rw[hw2 _ (by simp),hdead]at hb2;cases hb2
      .rw[hval]at hy;simp only[dA]at hy;rw[av hne2]at hy;simp only[bz,ah]at hy;subst hy;exact kz.refl d _
      .rcases aV.1 D with rfl|D
       .rw[di,bu,bq.2 rfl];rfl
       .exact hrd n D
    .cases A
   .cases A
  .cases A
 .rename_i S xs1;split at A
  .rename_i hm0;have hm0:=au hm0;subst hm0;split at A
   .rename_i xs hxs;obtain⟨ee,rfl⟩:=iP hxs;cases ee;let⟨hroom,A⟩:=cI A;simp only[bW,ah]at h2;subst h2;have hr0:rdl=[]:=by
     cases rdl with
     |nil=>rfl
     |cons a q=>have hz:=h6 a (by simp);simp at hz
    subst hr0;have fl:=eK (bm T) xs1;have tk:(xs1.flatMap (bE T)).take (l! xs1*T.size)=xs1.flatMap (bE T):=by rw[<- fl,cQ]
    have hcnd:(dR (l! xs1*T.size) (l! (xs1.flatMap (bE T)))&&be (l! xs1+l! z) i)=J:=by
     have hroom:be (l! xs1+l! z) i=J:=hroom;rw[hroom,Bool.and_true];exact a_ (by omega)
    rcases lV A with ⟨hl,A⟩|⟨hl,A⟩
    .have hl:=au hl;have hl':(aj z==0)=J:=by rw[hl];rfl
     exact⟨_,0,0,h,nx,A,fw.pure (y0:=.f (.sl (xs1.flatMap (bE T)) (l! xs1))) (k:=nm nx) hinv hc hH (by simp only[dG,h1,h3,h5,hcnd,bk,hl'];rfl) (cM rfl) (by simp) λ_=>rfl⟩
    .have hl':¬(aj z==0)=J:=λe=>by
      have e:aj z=0:=by simpa using e
      rw[e]at hl;cases hl
     exact⟨_,_,_,_,_,A,fw.new hinv hc hH (y0:=.I (nm nx) T.size (l! xs1+l! z)) (rdl:=[]) (b0:=⟨s,.fz ((xs1++z).flatMap (bE T))⟩) (by
      simp only[dG,h1,h3,h5,hcnd,bk];rw[av hl',tk,<-cG,wA,<-yG]) (B:=.H s af T (xs1++z)) (v:=.I nx) (dN.zero h) (λ_ _ he=>by cases he) (λH1 H2 d g b' hb'=>by
      simp only[kJ,gO,cL,dF,ah]at hb';subst hb';exact gu.refl d _) (λH1 H2 yb d g hy=>by
      simp only[bW,bA,PT.get_set,bk,aF,iN,dA,gO,cL,dF,bz,ah]at hy;subst hy;exact kz.refl d _) (by simp)⟩
   .cases A
  .cases A
 .obtain⟨hroom,A⟩:=cI A;simp only[bW,ah]at h2;subst h2;exact⟨_,_,_,_,_,A,onEmp j h6 rfl (Le.refl _) hroom⟩
 .obtain⟨hroom,A⟩:=cI A;simp only[bW,ah]at h2;subst h2;exact⟨_,_,_,_,_,A,onEmp j h6 rfl Le.nilEmp hroom⟩
 .cases A
def awa {ty:Operand} (hcm:Hx (W s)=U) (hc:cP P o.op=Z (.app s i j ty c)) (z:eO X W (.op (.app s i j ty c)) e h nx K=Z r):je P o af e h nx K r:=by
 let⟨H,L⟩:=gJ h;simp only[eO,hcm]at z;split at z
 .rename_i T b y hT hv A;split at z
  .rename_i D;have D:=au D;subst D;split at z
   next ys m hys=>let⟨yb,h1,h2⟩:=ba hi hv;let⟨yy,h3,h4⟩:=ba hi A;let⟨rdl,h5,h6⟩:=SS L hys h4;exact UC hinv hi L hc h1 h2 h3 h5 (λn hn=>by obtain⟨sz,rfl,hm⟩:=h6 n hn;rw[di];exact hm) z
   .cases z
  .cases z
 .cases z
def al8 {T:Ty} (xs D:Y T.den):(Ul xs D).flatMap (bE T)=AI.splice (xs.flatMap (bE T)) 0 ((D.flatMap (bE T)).take (ma (l! D) (l! xs)*T.size)):=by
 have _:=hinv;have _:=hi;have fl:=λA:Y T.den=>eK (bm T) A
 have tk:∀(A:Y T.den) n,(A.flatMap (bE T)).take (n*T.size)=(A.take n).flatMap (bE T):=by
  intro A;induction A with
  |nil=>intro n;simp
  |cons z r L=>
   intro n;cases n with
   |zero=>simp
   |succ n=>rw[gh,yD,gh,jS,List.take_append,bm,gz (by rw[bm];omega),show n*T.size+T.size-T.size=n*T.size from by omega,L n]
 have dp:∀(A:Y T.den) n,(A.flatMap (bE T)).drop (n*T.size)=(A.drop n).flatMap (bE T):=by
  intro A;induction A with
  |nil=>intro n;simp
  |cons z r L=>
   intro n;cases n with
   |zero=>simp
   |succ n=>rw[gh,KJ,jS,xu,bm,De (by rw[bm];omega),show n*T.size+T.size-T.size=n*T.size from by omega,L n,lq]
 unfold Ul AI.splice;rw[tk,yG,fl,cg];have e1:D.take (ma (l! D) (l! xs))=D.take (l! xs):=by grind
 have e2:min (ma (l! D) (l! xs)) (l! D)=ma (l! D) (l! xs):=Jn (Nat.min_le_left _ _);rw[e2];simp[List.take_zero,lq,bX];rw[dp]
 grind
def aw7 {x:Operand} (hc:cP P o.op=Z (.copy i c x)) (A:eO X W (.op (.copy i c x)) e h nx K=Z r):je P o af e h nx K r:=by
 let⟨H,hH⟩:=gJ h;simp only[eO]at A;split at A
 .rename_i id y hv hv2;split at A
  .rename_i ty p T xs hb;split at A
   .rename_i hs;have hs:=au hs;subst hs;split at A
    .rename_i D m hys;split at A
     .rename_i hcond;simp[al,ca]at hcond;obtain⟨hmid,rfl⟩:=hcond;let⟨yb,h1,h2⟩:=ba hi hv;let⟨yy,h3,h4⟩:=ba hi hv2;let⟨rdl,h5,h6⟩:=SS hH hys h4;simp[bW,eQ,hb,dA,gO,cL,dF,ah]at h2;subst h2;have fl:=eK (bm T) xs;have hg:H.get (nm id)=Z ⟨ty,.fz (xs.flatMap (bE T))⟩:=by rw[hH,bJ,hb];simp[kJ]
      have hmem:mem (nm id) rdl=af:=by
       cases hx:mem (nm id) rdl with
       |false=>rfl
       |true=>
        let⟨sz,e,hm⟩:=h6 _ (ajj.1 hx);rw[<- uN e,hmid]at hm;cases hm
      have hle:ma (l! D) (l! xs)*T.size<=l! xs*T.size:=cJ _ (Nat.min_le_right _ _);have ha0:dG (.copy T.size c x) (D2 e h) H (nm nx)=Z ⟨raw (.int .i64 (ma (l! D) (l! xs))),nm id::rdl,[nm id],[(nm id,⟨ty,.fz ((Ul xs D).flatMap (bE T))⟩)],[]⟩:=by
       have hcnd:(T.size==T.size&& !(mem (nm id) rdl)&&dR (l! xs*T.size) (BC.fz (xs.flatMap (bE T))).len)=J:=by
        have:dR (l! xs*T.size) (BC.fz (xs.flatMap (bE T))).len=J:=a_ (by simp only[BC.len];omega);rw[this,hmem];simp
       have hput:(BC.fz (xs.flatMap (bE T))).put 0 (((D.flatMap (bE T)).map .f).take (ma (l! D) (l! xs)*T.size))=Z (.fz ((Ul xs D).flatMap (bE T))):=by
        rw[<- gQ];unfold BC.put;rw[aD]
        .simp only[O8];rw[al8 hinv hi]
        .simp only[al];refine ⟨⟨rfl,a_ ?_⟩,?_⟩
         .simp only[BC.len,bM,cg];omega
         .have:∀l:Y FV,(∀x∈l,x.isCell=J)->gD (l.map .f)=J:=by
           intro l hl;induction l with
           |nil=>rfl
           |cons z r ih=>simp[b9,gD,al];exact⟨hl z (by simp),ih λx hx=>hl x (by grind)⟩
          exact this _ λx hx=>mD T D x (ip hx)
       simp only[dG,h1,h3,hg,h5,hcnd,bk,hput]
      have hrow:iN (.H ty af T (Ul xs D))=iN (.H ty af T xs):=by
       have:l! (Ul xs D)=l! xs:=by unfold Ul;rw[bz,cg,xr];omega
       simp[iN,this]
      have key:=fw.wrt (m:=0) (v:=.f (.int .i64) (aQ (ma (aj D) (aj xs)))) (rd:=gF id|||m) hinv hc hH ha0 (B:=.H ty af T (Ul xs D)) hb (dN.zero h) (by simp) hrow (λ_ _ he=>by cases he) (λH1 H2 c g b' L=>by
       simp[kJ,gO,cL,dF,ah]at L;subst L;exact gu.refl c _) (λH1 H2 y c g hy=>by
       simp[bW,ah]at hy;subst hy;exact kz.refl c _) (λn hn=>by
       rcases aV.1 hn with rfl|hn
       .rw[di,bu,bq.2 rfl];rfl
       .obtain⟨sz,rfl,hm⟩:=h6 n hn;rw[di,bu,hm];simp)
      rw[wX]at key;exact⟨_,_,_,_,_,A,key⟩
     .cases A
    .cases A
   .cases A
  .cases A
 .cases A
def aqu {v:Operand} (hc:cP P o.op=Z (.store i c v)) (A:eO X W (.op (.store i c v)) e h nx K=Z r):je P o af e h nx K r:=by
 let⟨H,hH⟩:=gJ h;simp only[eO]at A;split at A
 .rename_i id off y hv hv2;let⟨yb,h1,h2⟩:=ba hi hv;let⟨L,h3,h4⟩:=ba hi hv2;simp only[bW,ah]at h2;subst h2;split at A
  .rename_i ty l hb;split at A
   .rename_i cs hcs;split at A
    .rename_i hcond;simp only[al,c4]at hcond;let⟨h5,h6⟩:=Ky hcs h4;let⟨l',hl⟩:=fI h l (hinv.G id _ l hb);have hg:H.get (nm id)=Z ⟨ty,.mx l'⟩:=by rw[hH,bJ,hb];simp only[aF,kJ,hl]
     have hcell:=t8 h5 h6;have hlen:L.cs.length=i:=by rw[iH h5];exact hcond.1
     have hput:(BC.mx l').put off L.cs=Z (.mx (splice l' off L.cs)):=by
      unfold BC.put;rw[aD]
      .rfl
      .simp only[al];exact⟨⟨rfl,by simp only[BC.len];rw[hlen,iH hl];exact hcond.2⟩,hcell⟩
     have ha0:dG (.store i c v) (D2 e h) H (nm nx)=Z ⟨raw undef,[nm id],[nm id],[(nm id,⟨ty,.mx (splice l' off L.cs)⟩)],[]⟩:=by
      simp only[dG,h1,h3,C8,hg,hlen,cr,bk,hput]
     have hspl:∀h',bV h h'->cN h' (splice l off cs)=Z (splice l' off L.cs):=λh' hr=>rq off (g_ hr l l' hl) (g_ hr cs _ h5)
     have hr1:bV h (h.set id (Z (.G (Z ty) (splice l off cs)))):=bV.set λr hr=>by rw[bA,hb]at hr;cases hr
     have key:=fw.wrt (m:=0) (v:=.undef) (rd:=gF id) hinv hc hH ha0 (B:=.G (Z ty) (splice l off cs)) hb (dN.zero h) (by simp) rfl (λty' l2 he=>by cases he;exact mf _ _ _ (hspl _ hr1)) (λH1 H2 d g b' D=>by
      have:=hspl _ hr1;simp only[dP,fU,bk,kJ,this,ah]at D;subst D;exact gu.refl d _) (λH1 H2 y d g hy=>by
      simp only[bW,ah]at hy;subst hy;exact kz.refl d _) (λn hn=>by simp only[aE]at hn;subst hn;rw[di];exact bq.2 rfl)
     rw[wX]at key;exact⟨_,_,_,_,_,A,key⟩
    .cases A
   .cases A
  .cases A
 .rename_i id sz' j off y hv hv2;let⟨yb,h1,h2⟩:=ba hi hv;let⟨L,h3,h4⟩:=ba hi hv2;simp only[bW,ah]at h2;subst h2;split at A
  .rename_i ty p T xs hb;split at A
   .rename_i hsz;have hsz:=au hsz;subst hsz;let⟨hj,A⟩:=cI A;split at A
    .rename_i z m hset;split at A
     .cases A
     .rename_i hmid;have hmid:aL m id=af:=by simpa using hmid
      have hm:=Dh 40 T _ off i z m hset;let⟨j0,j1,j2⟩:=mZ hj;have hne:¬((p&&xs.length==0)=J):=by grind
      have hne2:¬((p&&(ch xs j z).length==0)=J):=by unfold ch;rw[dv];exact hne
      have hg:H.get (nm id)=Z ⟨ty,.fz (xs.flatMap (bE T))⟩:=by rw[hH,bJ,hb];simp only[aF,kJ,av hne]
      have fl:=eK (bm T) xs;have hx:xs[j.toNat]? =Z (geti _ xs j):=by
       unfold geti;rw[aw,aG j2];rfl
      have hle:(j.toNat+1)*T.size<=xs.length*T.size:=cJ _ j2;rw[jS]at hle;have hso:∀H1 H2,rC H1 H2->Fy h H1 H2 m->Sd H1 H2 L T (geti _ xs j) z off i:=λH1 H2 d g=>ub d h4 40 T _ off i z m hset g
      have hshape:L.cs.length=i/\off+i<=T.size/\gD L.cs=J:=by
       have d0:rC (erHF h) (erHF (dP m h)):=rC.kill hinv hm;let⟨fs,q1,q2,q3,q4,q5⟩:=hso _ _ d0 (λsz hi=>⟨rfl,by
        let⟨pp,ss,nn,g3⟩:=vR hm hi;rw[bJ,g3];rfl⟩)
       refine ⟨by rw[<- q2,<-bM (f:=AV.f),q1.length],q3,?_⟩;exact oC h4 40 T _ off i z m hset
      let⟨hlen,hoff,hcell⟩:=hshape;obtain⟨c',hput,hc1,hc2⟩:∃c',(BC.fz (xs.flatMap (bE T))).put (j.toNat*T.size+off) L.cs=Z c'/\c'.toMx=splice ((xs.flatMap (bE T)).map .f) (j.toNat*T.size+off) L.cs/\c'.isCells=J:=by
       unfold BC.put;rw[aD]
       .split
        next l ys hl hys=>simp only[BC.fz.injEq]at hl;subst hl;refine ⟨_,rfl,?_,rfl⟩;rw[nU hys];simp only[BC.toMx];unfold splice;simp[gQ,An]
        .exact⟨_,rfl,rfl,rfl⟩
       .simp only[al];exact⟨⟨rfl,a_ (by simp only[BC.len];omega)⟩,hcell⟩
      have ha0:dG (.store i c v) (D2 e h) H (nm nx)=Z ⟨raw undef,[nm id],[nm id],[(nm id,⟨ty,c'⟩)],[]⟩:=by
       simp only[dG,h1,h3,C8,hg,hlen,cr,bk,hput]
      have hrow:iN (.H ty p T (ch xs j z))=iN (.H ty p T xs):=by
       unfold ch;simp only[iN,dv]
      refine ⟨_,_,_,_,_,A,fw.wrt hinv hc hH ha0 (B:=.H ty p T (ch xs j z)) hb hm hmid hrow (λ_ _ he=>by cases he) (λH1 H2 d g b' D=>?_) (λH1 H2 y d g hy=>?_) (λn hn=>?_)⟩
      .simp only[kJ,av hne2,ah]at D;subst D;let⟨fs,q1,q2,q3,q4,q5⟩:=hso H1 H2 d g;have hfl:(ch xs j z).flatMap (bE T)=AI.splice (xs.flatMap (bE T)) (j.toNat*T.size+off) fs:=Nz (bm T) xs j.toNat _ z hx off fs (by omega) q4;refine gu.G hc2 rfl ?_ λc hx=>?_
       .rw[hc1];simp only[BC.toMx];rw[hfl];have:(AI.splice (xs.flatMap (bE T)) (j.toNat*T.size+off) fs).map AV.f=AI.splice ((xs.flatMap (bE T)).map .f) (j.toNat*T.size+off) (fs.map .f):=by unfold AI.splice;simp[gQ,An]
        rw[this];exact (hP.refl d _).splice _ q1
       .simp only[BC.toMx]at hx;obtain⟨q,hq,rfl⟩:=cz.1 hx;exact mD T _ q hq
      .simp only[bW,ah]at hy;subst hy;exact kz.refl d _
      .simp only[aE]at hn;subst hn;rw[di,bu,bq.2 rfl];simp
    .cases A
   .cases A
  .rename_i ty l hb;split at A
   .rename_i hsz;simp only[al]at hsz;let⟨s1,s2,s3⟩:=hsz;have s1:=au s1;have s2:=au s2;have s3:=au s3;subst s1 s2 s3;let⟨hj,A⟩:=cI A;let⟨j0,j1,j2⟩:=mZ hj;split at A
    .rename_i cs hcs;split at A
     .rename_i hc1;have hc1:=au hc1;let⟨h5,h6⟩:=Ky hcs h4;let⟨l',hl⟩:=fI h l (hinv.G id _ l hb);have hg:H.get (nm id)=Z ⟨ty,.mx l'⟩:=by rw[hH,bJ,hb];simp only[aF,kJ,hl]
      have hcell:=t8 h5 h6;have hlen:L.cs.length=1:=by rw[iH h5];exact hc1
      have e0:j.toNat*1+0=j.toNat:=by omega
      rw[e0]at h1;have hput:(BC.mx l').put j.toNat L.cs=Z (.mx (splice l' j.toNat L.cs)):=by
       unfold BC.put;rw[aD]
       .rfl
       .simp only[al];exact⟨⟨rfl,a_ (by simp only[BC.len];rw[hlen,iH hl];omega)⟩,hcell⟩
      have ha0:dG (.store 1 c v) (D2 e h) H (nm nx)=Z ⟨raw undef,[nm id],[nm id],[(nm id,⟨ty,.mx (splice l' j.toNat L.cs)⟩)],[]⟩:=by
       simp only[dG,h1,h3,C8,hg,hlen,cr,bk,hput]
      have hspl:∀h',bV h h'->cN h' (splice l j.toNat cs)=Z (splice l' j.toNat L.cs):=λh' hr=>rq j.toNat (g_ hr l l' hl) (g_ hr cs _ h5)
      have hr1:bV h (h.set id (Z (.G (Z ty) (splice l j.toNat cs)))):=bV.set λr hr=>by rw[bA,hb]at hr;cases hr
      have key:=fw.wrt (m:=0) (v:=.undef) (rd:=gF id) hinv hc hH ha0 (B:=.G (Z ty) (splice l j.toNat cs)) hb (dN.zero h) (by simp) rfl (λty' l2 he=>by cases he;exact mf _ _ _ (hspl _ hr1)) (λH1 H2 d g b' D=>by
       have:=hspl _ hr1;simp only[dP,fU,bk,kJ,this,ah]at D;subst D;exact gu.refl d _) (λH1 H2 y d g hy=>by
       simp only[bW,ah]at hy;subst hy;exact kz.refl d _) (λn hn=>by simp only[aE]at hn;subst hn;rw[di];exact bq.2 rfl)
      rw[wX]at key;exact⟨_,_,_,_,_,A,key⟩
     .cases A
    .cases A
   .cases A
  .cases A
 .cases A
def aw2 {l:Operand} (hc:cP P o.op=Z (.zm s i j L l c)) (A:eO X W (.op (.zm s i j L l c)) e h nx K=Z r):je P o af e h nx K r:=by
 cases hcm:Hx (W s) with
 |none=>exact aqv hinv hi hcm hc A
 |some n=>
  let⟨H,hH⟩:=gJ h;simp only[eO,hcm]at A;split at A
  .rename_i zc k a k' b z hv hv2;let⟨hck,A⟩:=cI A;rw[al]at hck;let⟨hcond,hn⟩:=hck;let⟨y,h1,h2⟩:=ba hi hv;let⟨y2,h3,h4⟩:=ba hi hv2;simp[bW,ah]at h2 h4;subst h2 h4;have han:aN a=n:=by grind
   let⟨_,_,hzc⟩:=xU h z;refine ⟨_,_,_,_,_,A,fw.new hinv hc hH (y0:=.I (nm nx) i n) (rdl:=[]) (b0:=⟨s,.fz (repl L n)⟩) (by simp[dG,h1,h3,gr,hcond,bk,han]) (dN.zero h) (λty' l' he=>?_) (λH1 H2 d g b' D=>?_) (λH1 H2 y d g hy=>?_) (by simp)⟩
   .cases he;exact mf _ _ _ (Rg _ z n)
   .simp[kJ,Rg _ z n,ah]at D;subst D;refine gu.G rfl rfl (hP.refl d _) λx hx=>?_
    exact nj (t8 (Rg h z n) (Jd hzc n)) x hx
   .simp[bW,ah]at hy;subst hy;exact kz.refl d _
  .cases A
def azy {parts:Y n?} (hc:cP P o.op=Z (.xx s i j L parts)) (A:eO X W (.op (.xx s i j L parts)) e h nx K=Z r):je P o af e h nx K r:=by
 cases hcm:Hx (W s) with
 |none=>exact aw9 hinv hi hcm hc A
 |some n=>
  let⟨H,hH⟩:=gJ h;simp only[eO,hcm]at A;split at A
  .rename_i zc hz;split at A
   .rename_i cs hf;split at A
    .cases A
    .rename_i hl;have hl:j≠0:=λe=>hl (by rw[e];rfl)
     let⟨cs',h1,h2,h3⟩:=G1 hi parts _ cs _ hf (Rg h hz j);let⟨_,_,hzc⟩:=xU h hz;have hcs:=h3 (Jd hzc j);have hr:bV h ((dP 0 h).set nx (Z (.G (Z s) cs))):=(bV.kill 0 h).trans (bV.set λr hr=>by rw[bA,(hinv.kill 0).fresh]at hr;cases hr);have z:=g_ hr _ _ h2;refine ⟨_,_,_,_,_,A,fw.new hinv hc hH (y0:=.I (nm nx) i j) (rdl:=[]) (b0:=⟨s,oy cs'⟩) (by simp[dG,h1,av hl]) (dN.zero h) (λty' l' he=>?_) (λH1 H2 d g b' D=>?_) (λH1 H2 y d g hy=>?_) (by simp)⟩
     .cases he;exact mf _ _ _ z
     .simp[kJ,z,ah]at D;subst D;let⟨q1,q2⟩:=nQ cs';refine gu.G q2 rfl ?_ λx hx=>?_
      .rw[q1];exact hP.refl d _
      .exact nj (t8 h2 hcs) x hx
     .simp[bW,ah]at hy;subst hy;exact kz.refl d _
   .cases A
  .cases A
def aA1 {ty:Operand} (hc:cP P o.op=Z (.app s i j ty c)) (z:eO X W (.op (.app s i j ty c)) e h nx K=Z r):je P o af e h nx K r:=by
 cases hcm:Hx (W s) with
 |none=>exact awa hinv hi hcm hc z
 |some n0=>
  let⟨H,hH⟩:=gJ h;have hfr:=hinv.fresh;simp only[eO,hcm]at z;split at z
  .rename_i b y hv hv2;let⟨yb,h1,h2⟩:=ba hi hv;let⟨yy,h3,h4⟩:=ba hi hv2;unfold as7 at z;split at z
   .rename_i id2 sz2 m;simp only[bW,ah]at h4;subst h4;split at z
    .rename_i ty2 l2 hb2;split at z
     .rename_i A;simp only[al,ca]at A;let⟨⟨q1,q2⟩,q3⟩:=A;have q1:=au q1;have q2:=au q2;have q3:m≠0:=λe=>by grind
      subst q1;let⟨L,hl2⟩:=fI h l2 (hinv.G id2 _ l2 hb2);have hrow:=adl hH hb2 hl2 q2;split at z
      .rename_i id sz1 n;simp only[bW,ah]at h2;subst h2;split at z
       .rename_i ty1 l1 hb1;split at z
        .rename_i A;simp only[al,ca]at A;let⟨⟨⟨p1,p2⟩,p3⟩,p4⟩:=A;have p1:=au p1;have p2:=eq_of_beq p2;have p3:=au p3;have p4:id≠id2:=λe=>by simp_all
         subst p1 p2;let⟨hroom,z⟩:=cI z;let⟨l1',hl1⟩:=fI h l1 (hinv.G id _ l1 hb1);have hln:=iH hl1;have hg:H.get (nm id)=Z ⟨ty1,.mx l1'⟩:=by rw[hH,bJ,hb1];simp only[aF,kJ,hl1]
         have hidlt:id<nx:=hinv.low id _ hb1;generalize hB:e_.G (Z ty1) (l1++l2)=B at z;have hd1:bV h (h.set id (Z (.qj J 0 0))):=bV.set λr D=>by rw[bA,hb1]at D;cases D
         have hd2:bV (h.set id (Z (.qj J 0 0))) ((h.set id (Z (.qj J 0 0))).set nx (Z B)):=bV.set λr D=>by
          rw[bA,PT.get_set,av (by omega),hfr]at D;cases D
         have D:=hd1.trans hd2;have hsp:cN ((h.set id (Z (.qj J 0 0))).set nx (Z B)) (l1++l2)=Z (l1'++L):=g_ D _ _ (oO hl1 hl2);have hb':erHF ((h.set id (Z (.qj J 0 0))).set nx (Z B)) (nm nx)=Z ⟨ty1,.mx (l1'++L)⟩:=by rw[bJ,PT.get_set,aD rfl,<-hB]at *;simp only[aF,kJ,hsp]
         have hbd:erHF ((h.set id (Z (.qj J 0 0))).set nx (Z B)) (nm id)=U:=by rw[bJ,PT.get_set,av (by omega),PT.get_set,aD rfl];rfl
         have hinv1:hX (h.set id (Z (.qj J 0 0))) nx:=hinv.set hd1 hidlt (bK _) (λ_ _ he=>by cases he);have ha:dG (.app ty1 sz1 j ty c) (D2 e h) H (nm nx)=Z ⟨.I (nm nx) sz1 (n+m),[nm id,nm id2],[nm nx,nm id],[(nm nx,⟨ty1,oy (l1'++L)⟩)],[nm nx]⟩:=by
          simp only[dG,h1,h3,hrow,hg];rw[aD (by
           simp only[cr,cY,Bool.and_true,BC.isCells,BC.len,hroom,al,ca];refine ⟨?_,a_ (by omega)⟩;simp only[mem,Bool.or_false];cases A:ax (nm id2) (nm id) with
           |false=>rfl
           |true=>exact cu (uN (au A)).symm p4)]
          simp only[BC.toMx,gz (show (l! l1')<=n*sz1 by omega)]
         refine ⟨_,_,_,_,_,z,fw.mk' hc hH ha [nm nx,nm id] (λsz hi=>hi) (λq A=>?_) (λsz hi b' hbb=>?_) (λH1 H2 d hw1 _ hw2=>⟨λsz hi b b' hb hb2=>?_,λy hy=>?_⟩) (λq A=>?_) (λq A=>?_) (λq A=>?_) D (hinv1.set hd2 (by omega) (by omega) λty' l' he=>?_) (by omega)⟩
         .simp only[aV,b8,fo,not_or]at A;refine ng hinv D (iQ.of λsz=>by
           by_cases e1:sz=nx
           .rw[e1,hfr,PT.get_set,aD rfl];exact .inr ⟨rfl,by rw[<- hB];rfl⟩
           .rw[PT.get_set,av e1];by_cases e2:sz=id
            .rw[e2,hb1,PT.get_set,aD rfl];exact .inr ⟨rfl,rfl⟩
            .rw[PT.get_set,av e2];exact .inl rfl) λsz ei=>?_
          subst ei;rw[PT.get_set,av (λe=>A.1 (by rw[e])),PT.get_set,av (λe=>A.2 (by rw[e]))]
         .simp only[aV,b8,fo]at hi;rcases hi with rfl|rfl
          .rw[aD (by simp)];exact⟨_,eZ _ _⟩
          .grind
         .simp only[aV,b8,fo]at hi;rcases hi with rfl|rfl
          .rw[hw1 _ (by simp),eZ]at hb;rw[hw2 _ (by simp),hb']at hb2;simp only[ah]at hb hb2;subst hb hb2;let⟨m1,m2⟩:=nQ (l1'++L);exact gu.eq d m2 rfl m1
          .grind
         .simp only[bW,ah]at hy;subst hy;exact kz.refl d _
         .simp only[aV,b8,fo]at A;rw[bu,nA];rcases A with rfl|rfl
          .rw[di];exact .inl (bq.2 rfl)
          .rw[di];exact .inr (bq.2 rfl)
         .simp only[aV,b8,fo]at A;rw[bu,nA];rcases A with rfl|rfl
          .rw[di];exact .inr (bq.2 rfl)
          .rw[di];exact .inl (bq.2 rfl)
         .simp only[aE]at A;subst A;rw[di];omega
         .rw[<- hB]at he;cases he;exact mf _ _ _ hsp
        .cases z
       .cases z
      .simp only[bW,ah]at h2;subst h2;let⟨hroom,z⟩:=cI z;have D:bV h ((dP 0 h).set nx (Z (.G (Z s) l2))):=(bV.kill 0 h).trans (bV.set λr D=>by rw[bA,(hinv.kill 0).fresh]at D;cases D);have h2':=g_ D _ _ hl2;refine ⟨_,_,_,_,_,z,fw.new hinv hc hH (y0:=.I (nm nx) sz2 m) (rdl:=[nm id2]) (b0:=⟨s,oy L⟩) (by simp only[dG,h1,h3,hrow];simp[Fh,Dq,hroom,q3]) (dN.zero h) (λty' l' he=>?_) (λH1 H2 d g b' hb'=>?_) (λH1 H2 y d g hy=>?_) (λn hn=>?_)⟩
       .cases he;exact mf _ _ _ h2'
       .simp only[kJ,h2',ah]at hb';subst hb';let⟨p1,p2⟩:=nQ L;exact gu.eq d p2 rfl p1
       .simp only[bW,ah]at hy;subst hy;exact kz.refl d _
       .simp only[aE]at hn;subst hn;rw[di];exact bq.2 rfl
      .cases z
     .cases z
    .cases z
   .cases z
  .cases z
def azf {lo hi' mx:M Operand} (hc:cP P o.op=Z (.slc i c lo hi' mx)) (z:eO X W (.op (.slc i c lo hi' mx)) e h nx K=Z r):je P o af e h nx K r:=by
 have hfr:=hinv.fresh;simp only[eO]at z;split at z
 .rename_i v hv;let⟨y,h1,h2⟩:=ba hi hv;split at z
  .split at z
   next L=>let⟨n,L⟩:=jN.1 L;have h3:=VV L h2;exact je.q (k:=0) hinv hc (λH _=>by simp only[dG,h1,h3,Option.isSome_some,bk]) (cM rfl) z
   .cases z
  .rename_i b;split at z
   .rename_i T xs k j hb;let⟨y2,h3,h4⟩:=ba hi hb;simp only[bW,ah]at h2 h4;subst h2 h4;split at z
    .rename_i A;have A:=au A;subst A;let⟨hj,z⟩:=cI z;have hfl:=eK (bm T) xs;have hcond:(dg 0 j&&dg j (aj xs)&&dR (aj xs*T.size) (l! (xs.flatMap (bE T))))=J:=by
      rw[hj,cY];exact a_ (by omega)
     simp only[dg,al,bG]at hj;have hlen:l! (xs.take j.toNat)=j.toNat:=by rw[cg];omega
     exact je.q (k:=0) (y0:=.f (.sl ((xs.flatMap (bE T)).take (j.toNat*T.size)) j.toNat)) hinv hc (λH _=>by simp only[dG,h1,h3,gr,hcond,bk]) (cM (by simp only[bW,gr];rw[zJ (bm T),hlen])) z
    .cases z
   .rename_i id k j hb;let⟨y2,h3,h4⟩:=ba hi hb;simp only[bW,ah]at h4;subst h4;split at z
    .rename_i ty p T xs D;split at z
     .rename_i A;have A:=au A;subst A;let⟨hj,z⟩:=cI z;let⟨H,hH⟩:=gJ h;have hj0:=hj;simp only[dg,gC,al,bG]at hj;have hp:¬((p&&l! xs==0)=J):=by
       simp only[al,c4];omega
      simp only[bW,bA,D,aF,iN,dA,av hp,ah]at h2;subst h2;have hidlt:=hinv.low id _ D;have hne:nx≠id:=by omega
      have hg:H.get (nm id)=Z ⟨ty,.fz (xs.flatMap (bE T))⟩:=by rw[hH,bJ,D];simp only[aF,kJ,av hp]
      have fl:=eK (bm T) xs;have hcond:(T.size==T.size&&dg 0 j&&dg j (aj xs))=J:=by
       simp only[dg,al,bG,cr,EO];omega
      have hlen:l! (xs.take j.toNat)=j.toNat:=by rw[cg];omega
      have ha0:dG (.slc T.size c U (Z b) U) (D2 e h) H (nm nx)=Z ⟨.I (nm nx) T.size j.toNat,[nm id],[nm nx,nm id],[(nm nx,⟨ty,.fz ((xs.take j.toNat).flatMap (bE T))⟩)],[nm nx]⟩:=by
       have hc2:((BC.fz (xs.flatMap (bE T))).isCells&&dR (aj xs*T.size) (BC.fz (xs.flatMap (bE T))).len)=J:=by
        simp only[BC.isCells,cY,BC.len];exact a_ (by omega)
       simp only[dG,h1,h3,gr,hcond,bk,hg,hc2,BC.toMx,<-gQ,wA,zJ (bm T)]
      generalize hh':(h.set id (Z (.qj p T.size (aj xs)))).set nx (Z (.H ty af T (dx j.toNat xs)))=h' at z;have hrA:bV h (h.set id (Z (.qj p T.size (aj xs)))):=bV.set λr hr=>by rw[bA,D]at hr;exact hr
      have hg2:∀sz,h'.get sz=if sz=nx then Z (.H ty af T (dx j.toNat xs)) else if sz=id then Z (.qj p T.size (aj xs)) else h.get sz:=λsz=>by rw[<- hh',PT.get_set,PT.get_set]
      have hr:bV h h':=by
       rw[<- hh'];refine hrA.trans (bV.set λr hr=>?_);rw[bA,PT.get_set,av hne,hfr]at hr;cases hr
      have hinv':hX h' (nx+1):=by
       refine ⟨λsz ty l hil=>?_,λsz x hic=>?_⟩
       .rw[hg2]at hil;split at hil
        .cases hil
        .split at hil
         .cases hil
         .exact fA hr l (hinv.G sz _ l hil)
       .rw[hg2]at hic;split at hic
        .omega
        .split at hic
         .omega
         .have:=hinv.low sz x hic;omega
      have hme:iQ h h':=(iQ.of λsz=>by
       rw[hg2];by_cases e1:sz=nx
       .rw[aD e1,e1,hfr];exact .inr ⟨rfl,rfl⟩
       .rw[av e1];by_cases e2:sz=id
        .rw[aD e2,e2,D];exact .inr ⟨rfl,rfl⟩
        .rw[av e2];exact .inl rfl)
      have hsame:∀n,n≠nm nx->n≠nm id->erHF h' n=erHF h n:=λn h1 h2=>ng hinv hr hme λsz e=>by
       subst e;rw[hg2,av (λe=>h1 (by rw[e])),av (λe=>h2 (by rw[e]))]
      have hdead:erHF h' (nm id)=U:=by rw[bJ,hg2,av (by omega),aD rfl];rfl
      have hnew:erHF h' (nm nx)=Z ⟨ty,.fz ((xs.take j.toNat).flatMap (bE T))⟩:=by rw[bJ,hg2,aD rfl];rfl
      have hval:bW h' (.I nx)=Z (.I (nm nx) T.size j.toNat):=by simp only[bW,bA,hg2,bk,aF,iN,dA,gO,cL,dF,hlen]
      refine ⟨_,_,_,_,_,z,?_⟩;refine fw.mk' hc hH ha0 [nm nx,nm id] (λsz hi=>hi) (λn L=>?_) (λsz hi b' hb'=>?_) (λH1 H2 d hw1 _ hw2=>⟨λsz hi b b' hb1 hb2=>?_,λy hy=>?_⟩) (λn L=>?_) (λn L=>?_) (λn L=>by simp only[aE]at L;subst L;rw[di];omega) hr hinv' (by omega)
      .simp only[aV,b8,fo,not_or]at L;exact hsame n L.1 L.2
      .simp only[aV,b8,fo]at hi;rcases hi with rfl|rfl
       .exact⟨_,by rw[aD (by simp)];exact eZ _ _⟩
       .rw[hdead]at hb';cases hb'
      .simp only[aV,b8,fo]at hi;rcases hi with rfl|rfl
       .rw[hw1 _ (by simp),eZ]at hb1;rw[hw2 _ (by simp),hnew]at hb2;simp only[ah]at hb1 hb2;subst hb1 hb2;exact gu.refl d _
       .rw[hw2 _ (by simp),hdead]at hb2;cases hb2
      .rw[hval]at hy;cases hy;exact kz.refl d _
      .simp only[aE]at L;subst L;rw[di];exact bq.2 rfl
      .simp only[aV,b8,fo]at L;rcases L with rfl|rfl<;>rw[di,bu,bq.2 rfl]<;>simp
     .cases z
    .cases z
   .cases z
  .rename_i b;split at z
   .rename_i T xs k j hb;let⟨y2,h3,h4⟩:=ba hi hb;simp only[bW,ah]at h2 h4;subst h2 h4;split at z
    .rename_i A;have A:=au A;subst A;let⟨hj,z⟩:=cI z;have hfl:=eK (bm T) xs;have hcond:(dg 0 j&&dg j (aj xs)&&dR (aj xs*T.size) (l! (xs.flatMap (bE T))))=J:=by
      rw[hj,cY];exact a_ (by omega)
     simp only[dg,al,bG]at hj;have hlen:l! (xs.drop j.toNat)=aj xs-j.toNat:=by rw[xr]
     have htk:((xs.flatMap (bE T)).drop (j.toNat*T.size)).take ((aj xs-j.toNat)*T.size)=(xs.flatMap (bE T)).drop (j.toNat*T.size):=by
      refine gz ?_;rw[xr,hfl,Nat.sub_mul];exact bK _
     exact je.q (k:=0) (y0:=.f (.sl ((xs.flatMap (bE T)).drop (j.toNat*T.size)) (aj xs-j.toNat))) hinv hc (λH _=>by simp only[dG,h1,h3,gr,hcond,bk,htk]) (cM (by simp only[bW,gr];rw[NA (bm T),hlen])) z
    .cases z
   .rename_i id k j hb;let⟨y2,h3,h4⟩:=ba hi hb;simp only[bW,ah]at h4;subst h4;split at z
    .rename_i ty p T xs D;split at z
     .rename_i A;have A:=au A;subst A;let⟨hj,z⟩:=cI z;have hcond:(T.size==T.size&&dg 0 j&&gC j (aj xs))=J:=by
       simp only[al]at hj;rw[hj.1,hj.2,cr];rfl
      simp only[dg,gC,al,bG]at hj;have hp:¬((p&&l! xs==0)=J):=by
       simp only[al,c4];omega
      simp only[bW,bA,D,aF,iN,dA,av hp,ah]at h2;subst h2;exact je.q (k:=0) (y0:=.sl (nm id) (j.toNat*T.size) (aj xs-j.toNat)) hinv hc (λH _=>by simp only[dG,h1,h3,gr,hcond,bk]) (cM (by simp only[bW,bA,D,aF,iN])) z
     .cases z
    .cases z
   .cases z
  .rename_i b b' hne;split at z
   .rename_i T xs k j k' j' hb hb';let⟨y2,h3,h4⟩:=ba hi hb;let⟨y3,h5,h6⟩:=ba hi hb';simp only[bW,ah]at h2 h4 h6;subst h2 h4 h6;split at z
    .rename_i A;have A:=au A;subst A;let⟨hj,z⟩:=cI z;have hfl:=eK (bm T) xs;have hcond:(decide (j=j')&&dg 0 j&&dg j (aj xs)&&dR (aj xs*T.size) (l! (xs.flatMap (bE T))))=J:=by
      rw[hj,cY];exact a_ (by omega)
     simp only[dg,al,bG]at hj;have hlen:l! (xs.take j.toNat)=j.toNat:=by rw[cg];omega
     refine je.q (k:=0) (y0:=.qc ((xs.flatMap (bE T)).take (j.toNat*T.size)) j.toNat) hinv hc (λH _=>?_) (cM (by simp only[bW];rw[zJ (bm T),hlen])) z;simp only[dG,h1,h3,h5,gr,hcond,bk]
    .cases z
   .cases z
  .cases z
 .cases z
def azx (hc:cP P o.op=Z (.clr i L c)) (A:eO X W (.op (.clr i L c)) e h nx K=Z r):je P o af e h nx K r:=by
 let⟨H,hH⟩:=gJ h;simp only[eO]at A;split at A
 .rename_i id j hv;split at A
  .rename_i ty p T xs hb;split at A
   .rename_i D;simp only[al]at D;let⟨⟨D,hz⟩,hco⟩:=D;have D:=au D;have hz:=O1 hz;subst D hz;let⟨hj,A⟩:=cI A;simp[dg,gC,al,bG]at hj;let⟨y,h1,h2⟩:=ba hi hv;simp[bW,bA,hb,aF,iN,ah]at h2;subst h2;have hp:¬((p&&xs.length==0)=J):=by grind
    have fl:=eK (bm T) xs;have hg:H.get (nm id)=Z ⟨ty,.fz (xs.flatMap (bE T))⟩:=by rw[hH,bJ,hb];simp only[aF,kJ,av hp]
    have hrl:(repl (vb T) (xs.length-j.toNat)).length=(xs.length-j.toNat)*T.size:=by
     have h9:=(LI (H:=λ_=>U) (H':=λ_=>U) (λn b hb=>by cases hb) T (xs.length-j.toNat)).length;rw[bM,bM,eK (bm T),cU]at h9;exact h9.symm
    have hoff:j.toNat*T.size+(xs.length-j.toNat)*T.size=xs.length*T.size:=by rw[<- Nat.add_mul];congr 1;omega
    have hput:(BC.fz (xs.flatMap (bE T))).put (j.toNat*T.size) ((repl (vb T) (xs.length-j.toNat)).map .f)=Z (.fz (splice (xs.flatMap (bE T)) (j.toNat*T.size) (repl (vb T) (xs.length-j.toNat)))):=by
     unfold BC.put;rw[aD]
     .simp[O8]
     .simp only[al];refine ⟨⟨rfl,a_ ?_⟩,KA _ λq hq=>?_⟩
      .simp only[BC.len,bM];omega
      .obtain⟨v,hv,rfl⟩:=Vp _ q hq;exact iL.1 hco v hv
    have hblt:eE 0 (xs.length-j.toNat)=J:=a_ (by omega);have ha0:dG (.clr T.size (vb T) c) (D2 e h) H (nm nx)=Z ⟨.qb [],[nm id],[nm id],[(nm id,⟨ty,.fz (splice (xs.flatMap (bE T)) (j.toNat*T.size) (repl (vb T) (xs.length-j.toNat)))⟩)],[]⟩:=by
     simp[dG,h1,hg,hblt,bk,hput]
    have hlen:(dx j.toNat xs++aC (aj xs-j.toNat) T.zero).length=xs.length:=by grind
    have hrow:iN (.H ty p T (dx j.toNat xs++aC (aj xs-j.toNat) T.zero))=iN (.H ty p T xs):=by simp[iN,hlen]
    refine ⟨_,_,_,_,_,A,fw.wrt (m:=0) (v:=.qb []) (rd:=gF id) hinv hc hH ha0 hb (dN.zero h) (by simp) hrow (λ_ _ he=>by cases he) (λH1 H2 d g b' z=>?_) (λH1 H2 y d g hy=>?_) (λn hn=>?_)⟩
    .have hp2:¬((p&&(dx j.toNat xs++aC (aj xs-j.toNat) T.zero).length==0)=J):=by rw[hlen];exact hp
     simp only[kJ,av hp2,ah]at z;subst z;refine gu.G rfl rfl ?_ λq hq=>?_
     .simp only[BC.toMx];unfold splice;rw[hrl,hoff,<-fl,List.drop_length,jU,yG,zJ (bm T),cG,cG];exact (hP.refl d _).append (LI d T _)
     .simp only[BC.toMx]at hq;obtain⟨q',hq',rfl⟩:=cz.1 hq;exact mD T _ q' hq'
    .simp[bW,cN,ah]at hy;subst hy;exact kz.refl d _
    .simp[aE]at hn;subst hn;rw[di];exact bq.2 rfl
   .cases A
  .cases A
 .cases A
end ops
def Td {V:Ty} {es:Y (K.den×V.den)} (z:mpE K V es=J):es.map (λp=>(rj K p.1,AV.f (gr V p.2)))=[]:=by
 unfold mpE at z;split at z
 .rfl
 .cases z
def aje {V:Ty} {es:Y (K.den×V.den)} (z:mpE K V es=J):Y9 K=J:=by
 unfold mpE at z;split at z
 .rfl
 .cases z
def acs (z:af1 b K=J):Y9 K=J:=by
 cases K<;>cases b<;>first|rfl|cases z
def Th (A:af1 b K=J) (k z:K.den):xg .eql (rj K k) (rj K z)=Z (.bool (Qr K k z))/\zB b (rj K k)=J/\gr K k= .raw (rj K k):=by
 cases K<;>cases b<;>first|cases A|skip
 .exact⟨by simp[xg,rj,Qr,cr,bk,ah,Fz];exact Bool.beq_eq_decide_eq _ _,rfl,rfl⟩
 .exact⟨by simp[xg,rj,Qr,HG],rfl,rfl⟩
def MM {str:Bool} {V:Ty} (A:af1 str K=J) (k:K.den):∀es:Y (K.den×V.den),tU (rj K k) (es.map λp=>(rj K p.1,AV.f (gr V p.2)))=Z ((wE k es).map λv=>AV.f (gr V v))
 |[]=>rfl
 |(z,v)::r=>by
  simp[b9,tU,(Th A k z).1,wE];cases D:Qr K k z with
  |true=>rfl
  |false=>simp[cL,dF];exact MM A k r
def Tb {str:Bool} {V:Ty} (A:af1 str K=J) (k:K.den) (v:V.den):∀es:Y (K.den×V.den),AH (rj K k) (.f (gr V v)) (es.map λp=>(rj K p.1,AV.f (gr V p.2)))=Z ((uP k v es).map λp=>(rj K p.1,AV.f (gr V p.2)))
 |[]=>rfl
 |(z,D)::r=>by
  simp[b9,AH,(Th A k z).1,uP];cases L:Qr K k z with
  |true=>rfl
  |false=>simp[Tb A k v r,cL,dF,b9]
def aiu {ok:Bool} (z:bW h u=Z y):bW h (pkT ok u (.f .bool b))=Z (pkV ok y b):=by
 cases ok with
 |false=>exact z
 |true=>simp[pkT,pkV,bW,cN,z];rfl
section ops
variable {R:Type} {P:Program} {o:Oper} {e:ii} {h:aY} {nx:Nat} {K:KO R} {r:R}
def Le.aggOf {l:Y FV} (D:∀x∈l,x.isCell=J):Le (.agg (l.map .f)) (.f (.agg l)):=by
 intro φ O w v A;cases A with
 |@agg _ vs hl hcl hrr=>
  refine .f (.agg l vs (by grind) D λj y u L z=>?_);have:=hrr j (.f y) u (by grind) z;cases this with
  |f h=>exact h
def VB (S:Ty) (l:Y TV):M (S.den×Nat×Y TV):=match l with
 |c::r=>(match iB PT.leaf S c with|some (x,m)=>Z (x,m,r)|none=>U)
 |[]=>U
def Rs:∀{l l':Y FV},l.map AV.f=l'.map AV.f->l=l'
 |[],[],_=>rfl
 |[],_::_,h|_::_,[],h=>by simp at h
 |x::r,y::r',h=>by
  simp[b9,eX,AV.f.injEq]at h;rw[h.1,Rs h.2]
def Mv (h:aY):∀(ds:Y TypeDesc) (T:Ty),sS ds=Z T->∀(n:Nat) (l:Y TV) (x:T.den) (m:Nat) (r:Y TV),fK PT.leaf n T l=Z (x,m,r)->∀l',cN h l=Z l'->∃L,cN h r=Z L/\l'=(bE T x).map .f++L
 |[],T,hd,n,l,x,m,r,hp,l',hl=>by
  simp[sS,ah]at hd;subst hd;cases n with
  |zero=>simp[fK]at hp
  |succ n=>
   obtain⟨_,_,rfl⟩:=hp;exact⟨l',hl,rfl⟩
 |d::ds,T,hd,n,l,x,m,r,hp,l',hl=>by
  have plain:∀(S:Ty),S.one=J->(∀t,S≠ .sl t)->∀(v:TV) (a:S.den) (m:Nat) (y:AV),iB PT.leaf S v=Z (a,m)->bW h v=Z y->y= .f (gr S a):=by
   intro S hS hns v a m y D hy;cases v with
   |f Q q=>
    simp[iB]at D;split at D
    next z hz=>obtain⟨rfl,_⟩:=D;obtain⟨e,rfl⟩:=iP hz;subst e;simp[bW,ah]at hy;exact hy.symm
    .cases D
   |emp|nil=>
    cases S with
    |sl t=>exact cu rfl (hns t)
    |_=>simp[iB]at D
   |I id=>simp[iB,PT.get]at D
   |_=>simp[iB]at D
  have one:∀(S:Ty),S.one=J->(∀t,S≠ .sl t)->∀(n:Nat) (l:Y TV) (a:S.den) (m:Nat) (r:Y TV),fK PT.leaf n S l=Z (a,m,r)->∀l',cN h l=Z l'->∃L,cN h r=Z L/\l'=(bE S a).map .f++L:=by
   intro S hS hns n l a m r hp l' hl;cases n with
   |zero=>simp[fK]at hp
   |succ n=>
    cases l with
    |nil=>
     cases S with
     |int k|bool|str=>cases hp
     |sl t=>exact cu rfl (hns t)
     |_=>cases hS
    |cons c q=>
     have hpp:VB S (c::q)=Z (a,m,r):=by
      cases S with
      |int k=>simp[fK]at hp;simp[VB];cases hq:iB PT.leaf (.int k) c with
       |none=>rw[hq]at hp;cases hp
       |some z=>rw[hq]at hp;exact hp
      |bool=>simp[fK]at hp;simp[VB];cases hq:iB PT.leaf .bool c with
       |none=>rw[hq]at hp;cases hp
       |some z=>rw[hq]at hp;exact hp
      |str=>simp[fK]at hp;simp[VB];cases hq:iB PT.leaf .str c with
       |none=>rw[hq]at hp;cases hp
       |some z=>rw[hq]at hp;exact hp
      |sl t=>exact cu rfl (hns t)
      |_=>cases hS
     simp[VB]at hpp;split at hpp
     next a1 m1 h1=>simp[ah,aR]at hpp;obtain⟨rfl,rfl,rfl⟩:=hpp;obtain⟨y,L,rfl,g1,g2⟩:=c6 hl;have:=plain S hS hns c a1 m1 y h1 g1;subst this;exact⟨L,g2,by rw[(NX S a1 hS).1];rfl⟩
     .cases hpp
  have two:∀(S A:Ty),S.one=J->(∀t,S≠ .sl t)->sS ds=Z A->T= .pr S A->∃L,cN h r=Z L/\l'=(bE T x).map .f++L:=by
   intro S A hS hns hU e;subst e;cases n with
   |zero=>simp[fK]at hp
   |succ n=>
    simp[fK]at hp;split at hp
    .rename_i x1 m1 r1 h1;split at hp
     next x2 m2 r2 h2=>simp[ah,aR]at hp;obtain⟨rfl,rfl,rfl⟩:=hp;let⟨L,g1,g2⟩:=one S hS hns n l x1 m1 r1 h1 l' hl;let⟨l3,g3,g4⟩:=Mv h ds A hU n r1 x2 m2 r2 h2 L g1;exact⟨l3,g3,by rw[g2,g4,bE,cG,ju]⟩
     .cases hp
    .cases hp
  cases d with
  |int k=>
   simp[sS]at hd;split at hd
   next A hU=>simp[ah]at hd;exact two (.int k) A rfl (λt h=>by cases h) hU hd.symm
   .cases hd
  |bool=>
   simp[sS]at hd;split at hd
   next A hU=>simp[ah]at hd;exact two .bool A rfl (λt h=>by cases h) hU hd.symm
   .cases hd
  |string=>
   simp[sS]at hd;split at hd
   next A hU=>simp[ah]at hd;exact two .str A rfl (λt h=>by cases h) hU hd.symm
   .cases hd
  |_=>simp[sS]at hd
def G3:∀(ds:Y TypeDesc) (T:Ty),sS ds=Z T->∀a b:T.den,jX ds (bE T a) (bE T b)=Z (Qr T a b)
 |[],T,hd,a,b=>by simp[sS,ah]at hd;subst hd;rfl
 |d::ds,T,hd,a,b=>by
  cases d with
  |int k=>
   simp[sS]at hd;split at hd
   .rename_i y z;simp[ah]at hd;subst hd;have A:=G3 ds y z a.2 b.2;simp[bE,gR,lq,jX,wQ,cr,bk,Qr];cases he:((a.1:Int)==b.1) with
    |true=>have D:(a.1:Int)=b.1:=by simpa using he
           grind
    |false=>have D:¬(a.1:Int)=b.1:=by simpa using he
            grind
   .cases hd
  |bool=>
   simp[sS]at hd;split at hd
   .rename_i y z;simp[ah]at hd;subst hd;have A:=G3 ds y z a.2 b.2;simp[bE,gR,lq,jX,wQ,Qr]
    grind
   .cases hd
  |string=>
   simp[sS]at hd;split at hd
   .rename_i y z;simp[ah]at hd;subst hd;have A:=G3 ds y z a.2 b.2;simp[bE,gR,lq,jX,wQ,Qr,HG];cases he:decide ((a.1:ζ)=b.1) with
    |true=>simp[A,cY]
    |false=>simp[gO]
   .cases hd
  |_=>simp[sS]at hd
variable {C:Y TypeDesc}
def Sc (A:u.isC=af) (L:u.cs=Z m) {T:Ty} (hd:sS C=Z T) {a:T.den} {lu:Nat} (hp:fK PT.leaf 40 T m=Z (a,lu,[])) (D:bW h u=Z y):Le y (.f (.agg (bE T a))):=by
 let⟨h1,_⟩:=Ky L D;let⟨l2,h2,h3⟩:=Mv h C T hd 40 m a lu [] hp _ h1;simp[cN,ah]at h2;subst h2;rw[jU]at h3;cases u with
 |agg l=>
  simp[bW]at D;split at D
  next l' _=>simp[ah]at D;subst D;have:l'=(bE T a).map .f:=h3;rw[this];exact Le.aggOf (ph T a)
  .cases D
 |f S x=>
  simp[bW,ah]at D;subst D;have ho:S.one=af:=A;rw[Dz]at h3;have:bE S x=bE T a:=Rs h3;rw[sq S x ho,this];exact Le.refl _
 |qb l|undef|qw|qc S q=>simp[TV.cs,TV.isC]at L
 |zh id jj=>cases L
 |_=>cases A
variable (hinv:hX h nx) (hi:sM e h)
include hinv hi
variable {X:FuncId->M cw} {W:TypeId->M Ty}
def azv {y:Operand} {st:Bool} (hc:cP P o.op=Z (.jh b C c y)) (D:eO X W (.op (.jh b C c y)) e h nx K=Z r):je P o st e h nx K r:=by
 let⟨H,hH⟩:=gJ h;simp[eO]at D;split at D
 .rename_i T u v hd hu hv;split at D
  .cases D
  .rename_i hcc;simp[nA,not_or,Bool.not_eq_true]at hcc;split at D
   .rename_i lu lv hlu hlv;split at D
    .rename_i a m1 neg m2 hpa hpb;let⟨yu,h1,h2⟩:=ba hi hu;let⟨yv,h3,h4⟩:=ba hi hv;let⟨⟨⟨hc1,hc2⟩,hc3⟩,hc4⟩:=hcc;have l1:=Sc hc1 hlu hd hpa h2;have l2:=Sc hc2 hlv hd hpb h4;have tmp:∀(z:Operand) (q:TV),dH e z=Z q->q.isC=af->Zg z=af->∃t,z= .tmp t:=by
      intro z q A hq hg;cases z with
      |tmp t=>exact⟨t,rfl⟩
      |const x=>
       have A:cst x=Z q:=by
        simp[dH,au4]at A;split at A
        .cases hg
        .exact A
       have:=(OF h A).2.2;rw[hq]at this;cases this
      |func g=>simp[dH,ah]at A;subst A;cases hq
      |global g=>
       simp[dH]at A;split at A
       .cases A;cases hq
       .cases A
     obtain⟨t,rfl⟩:=tmp c u hu hc1 hc3;obtain⟨t',rfl⟩:=tmp y v hv hc2 hc4;have same:t=t'->bE T a=bE T neg:=by grind
     let L:EH:=((D2 e h).set t (Z (.f (.agg (bE T a))))).set t' (Z (.f (.agg (bE T neg))))
     have e1:me L (.tmp t)=Z (.f (.agg (bE T a))):=by
      simp[me,L,PT.get_set]
      grind
     have e2:me L (.tmp t')=Z (.f (.agg (bE T neg))):=by simp[me,L,PT.get_set,bk]
     have ha:dG (.jh b C (.tmp t) (.tmp t')) L H 0=Z ⟨raw (.bool (Qr T a neg !=b)),[],[],[],[]⟩:=by
      simp[dG,e1,e2,G3 C T hd a neg];rfl
     have ht:=MA hc ha;rw[hH]at ht;have ht2:gE P o (fR e h) (erHF h) _:=ht.envLe (e2:=fR e h) λs z _ A=>by
      simp[L,PT.get_set]at A;rw[<- Dx];simp[me]at h1 h3;split at A
      .grind
      .split at A
       .grind
       .exact⟨z,A,Le.refl _⟩
     refine ⟨_,0,0,h,nx,D,⟨⟨_,ht2,λy hy=>?_,by simp[DF.eff,vV],by simp[DF.eff],by simp[DF.eff],by simp[DF.eff]⟩,λ_ _ h=>h,hinv,bK _,λ_=>⟨rfl,rfl⟩⟩⟩;simp[bW,ah]at hy;exact hy
    .cases D
   .cases D
 .cases D
def azk (L:cP P o.op=Z .mkm) (D:eO X W (.op .mkm) e h nx K=Z r):je P o af e h nx K r:=by
 have _:=hi;let⟨H,hH⟩:=gJ h;refine ⟨_,_,_,_,_,D,fw.new hinv L hH (y0:=.mp (nm nx)) (rdl:=[]) (b0:=⟨0,.mp []⟩) rfl (dN.zero h) (λ_ _ he=>by cases he) (λH1 H2 d g b' z=>?_) (λH1 H2 y d g A=>?_) (by simp)⟩
 .cases z;exact gu.refl d _
 .simp[bW,ah]at A;subst A;exact kz.refl d _
def aw5 (hc:cP P o.op=Z (.jy c)) (z:eO X W (.op (.jy c)) e h nx K=Z r):je P o af e h nx K r:=by
 let⟨H,L⟩:=gJ h;simp[eO]at z;split at z
 .rename_i id hv;split at z
  .rename_i K' V es hb;let⟨y,h1,h2⟩:=ba hi hv;simp[bW,ah]at h2;subst h2;split at z
   case isFalse=>cases z
   rename_i hO;have hg:H.get (nm id)=Z ⟨0,.mp (es.map λp=>(rj K' p.1,.f (gr V p.2)))⟩:=by rw[L,bJ,hb];show Z (kG.mk 0 (mpC K' V es))=_;rw[Ck hO]
   exact⟨_,_,_,_,_,z,fw.pure (k:=0) hinv hc L (y0:=raw (.int .i64 (l! es))) (rdl:=[nm id]) (by simp[dG,h1,hg,bM]) (λy A=>by simp[bW,ah]at A;subst A;exact Le.refl _) (λn D=>by simp[aE]at D;subst D;rw[di];exact bq.2 rfl) nofun⟩
  .cases z
 .cases z
def azo {ok:Bool} {k:Operand} (hc:cP P o.op=Z (.jg b ok v c k)) (D:eO X W (.op (.jg b ok v c k)) e h nx K=Z r):je P o af e h nx K r:=by
 let⟨H,hH⟩:=gJ h;simp only[eO]at D;split at D
 .rename_i id KT kv hv hv2;split at D
  .rename_i K' V es hb;split at D
   .rename_i hK;let⟨y,h1,h2⟩:=ba hi hv;let⟨y2,h3,h4⟩:=ba hi hv2;simp[bW,ah]at h2 h4;subst h2 h4;simp[al]at hK;have hg:H.get (nm id)=Z ⟨0,.mp (es.map λp=>(rj K' p.1,.f (gr V p.2)))⟩:=by rw[hH,bJ,hb];show Z (kG.mk 0 (mpC K' V es))=_;rw[Ck hK.2]
    let⟨_,hok,henc⟩:=Th hK.1 kv kv;rw[henc]at h3;have hrd:∀n∈[nm id],aL (gF id) (ow n)=J:=λn hn=>by simp[aE]at hn;subst hn;rw[di];exact bq.2 rfl
    split at D
    .rename_i hE;split at D
     next z hz=>have hzz:=(OF h hz).1;exact⟨_,_,_,_,_,D,fw.pure (k:=0) hinv hc hH (y0:=pkV ok (raw v) af) (rdl:=[nm id]) (by simp[dG,h1,h3,hg,hok,bk,Td hE,tU]) (λy L=>by rw[aiu hzz]at L;cases L;exact Le.refl _) hrd nofun⟩
     .cases D
    .split at D
     .rename_i kv' A zv hkv hz;split at D
      .rename_i zv' hzv;let⟨e1,e2⟩:=iP hkv;cases e1;subst e2;let⟨e3,e4⟩:=iP hzv;cases e3;subst e4;have hzz:=(OF h hz).1;simp[bW,ah]at hzz;refine ⟨_,_,_,_,_,D,fw.pure (k:=0) hinv hc hH (y0:=pkV ok (.f (gr _ (rh kv' es zv'))) (af0 kv' es)) (rdl:=[nm id]) ?_ (λy L=>by rw[aiu (y:=.f (gr _ (rh kv' es zv'))) rfl]at L;cases L;exact Le.refl _) hrd nofun⟩;simp[dG,h1,h3,hg,hok,bk,MM hK.1];unfold rh af0;cases hf:wE kv' es with
       |none=>simp[Option.map_none];rw[hzz]
       |some z=>rfl
      .cases D
     .cases D
   .cases D
  .cases D
 .cases D
def azj {k v:Operand} (hc:cP P o.op=Z (.jk b c k v)) (z:eO X W (.op (.jk b c k v)) e h nx K=Z r):je P o af e h nx K r:=by
 let⟨H,hH⟩:=gJ h;simp only[eO]at z;split at z
 .rename_i id KT kv VT vv hv hv2 hv3;split at z
  .rename_i K' V es hb;split at z
   .rename_i D;simp[al]at D;let⟨y,h1,h2⟩:=ba hi hv;let⟨y2,h3,h4⟩:=ba hi hv2;let⟨y3,h5,h6⟩:=ba hi hv3;simp[bW,ah]at h2 h4 h6;subst h2 h4 h6;have hg:H.get (nm id)=Z ⟨0,.mp (es.map λp=>(rj K' p.1,.f (gr V p.2)))⟩:=by rw[hH,bJ,hb];show Z (kG.mk 0 (mpC K' V es))=_;rw[Ck D.2]
    let⟨_,hok,henc⟩:=Th D.1.1 kv kv;rw[henc]at h3;have hrd:∀n∈[nm id],aL (gF id) (ow n)=J:=λn hn=>by simp[aE]at hn;subst hn;rw[di];exact bq.2 rfl
    split at z
    next hE=>exact⟨_,_,_,_,_,z,fw.wrt (k:=0) (m:=0) (v:=.undef) (rd:=gF id) hinv hc hH (y0:=raw undef) (b0:=⟨0,.mp [(rj KT kv,.f (gr VT vv))]⟩) (rdl:=[nm id]) (by simp[dG,h1,h3,h5,hg,hok,bk,Td hE,AH]) (B:=.mp KT VT [(kv,vv)]) hb (dN.zero h) (by simp) rfl (λty' l2 he=>by cases he) (λH1 H2 d g b' A=>by simp[kJ,Ck (acs D.1.1),ah]at A;subst A;exact gu.refl d _) (λH1 H2 y d g L=>by simp[bW,ah]at L;subst L;exact kz.refl d _) hrd⟩
    .split at z
     next kv' vv' hkv hvv=>let⟨e1,e2⟩:=iP hkv;cases e1;subst e2;let⟨e3,e4⟩:=iP hvv;cases e3;subst e4;exact⟨_,_,_,_,_,z,fw.wrt (k:=0) (m:=0) (v:=.undef) (rd:=gF id) hinv hc hH (y0:=raw undef) (b0:=⟨0,.mp ((uP kv' vv' es).map λp=>(rj _ p.1,.f (gr _ p.2)))⟩) (rdl:=[nm id]) (by simp[dG,h1,h3,h5,hg,hok,bk,Tb D.1.1]) (B:=.mp _ _ (uP kv' vv' es)) hb (dN.zero h) (by simp) rfl (λty' l2 he=>by cases he) (λH1 H2 d g b' A=>by simp[kJ,Ck (acs D.1.1),ah]at A;subst A;exact gu.refl d _) (λH1 H2 y d g L=>by simp[bW,ah]at L;subst L;exact kz.refl d _) hrd⟩
     .cases z
   .cases z
  .cases z
 .cases z
def azg (hc:cP P o.op=Z (.rng c)) (z:eO X W (.op (.rng c)) e h nx K=Z r):je P o af e h nx K r:=by
 let⟨H,hH⟩:=gJ h;simp only[eO]at z;split at z
 .rename_i s hv;let⟨y,h1,L⟩:=ba hi hv;simp[bW,ah]at L;subst L;refine ⟨_,_,_,_,_,z,fw.new hinv hc hH (y0:=.P (nm nx) 0) (rdl:=[]) (b0:=⟨0,.it ⟨jT s⟩ 0⟩) (by simp[dG,h1];rfl) (dN.zero h) (λ_ _ he=>by cases he) (λH1 H2 d g b' A=>?_) (λH1 H2 y d g D=>?_) (by simp)⟩
  .cases A;exact gu.refl d _
  .simp[bW,ah]at D;subst D;exact kz.refl d _
 .cases z
def azh (hc:cP P o.op=Z (.nxt c)) (z:eO X W (.op (.nxt c)) e h nx K=Z r):je P o af e h nx K r:=by
 let⟨H,hH⟩:=gJ h;simp only[eO]at z;split at z
 .rename_i id hv;split at z
  .rename_i K' V es L;split at z
   .rename_i s p hI;let⟨y,h1,h2⟩:=ba hi hv;simp[bW,ah]at h2;subst h2;have hg:H.get (nm id)=Z ⟨0,.it ⟨jT s⟩ p⟩:=by rw[hH,bJ,L];show Z (kG.mk 0 (mpC K' V es))=_;rw[ats hI]
    have hrd:∀n∈[nm id],aL (gF id) (ow n)=J:=λn hn=>by simp[aE]at hn;subst hn;rw[di];exact bq.2 rfl
    rcases lV z with ⟨hp,z⟩|⟨hp,z⟩
    .have hp:=aU hp;have e2:(⟨jT s⟩:ByteArray).data.toList[p]? =Z (List.getD s p 0):=by grind
     exact⟨_,_,_,_,_,z,fw.wrt (k:=0) (m:=0) (rd:=gF id) hinv hc hH (y0:=.qb [raw (.bool J),raw (.int .i64 p),raw (.int .i32 (rnP s p))]) (b0:=⟨0,.it ⟨jT s⟩ (p+wdP s p)⟩) (rdl:=[nm id]) (by simp only[dG,h1,hg,e2];rfl) (B:=.mp itK .un [((s,aQ (p+wdP s p)),())]) L (dN.zero h) (by simp) rfl (λty' l2 he=>by cases he) (λH1 H2 d g b' A=>by cases A;exact gu.refl d _) (λH1 H2 y d g D=>by cases D;exact kz.refl d _) hrd⟩
    .have hp:l! s<=p:=Nat.not_lt.1 λq=>by rw[show eE p (l! s)=J from a_ q]at hp;cases hp
     have e2:(⟨jT s⟩:ByteArray).data.toList[p]? =U:=by grind
     exact⟨_,_,_,_,_,z,fw.wrt (k:=0) (m:=0) (rd:=gF id) hinv hc hH (y0:=.qb [raw (.bool af)]) (b0:=⟨0,.it ⟨jT s⟩ p⟩) (rdl:=[nm id]) (by simp[dG,h1,hg,e2]) (B:=.mp itK .un [((s,aQ p),())]) L (dN.zero h) (by simp) rfl (λty' l2 he=>by cases he) (λH1 H2 d g b' A=>by cases A;exact gu.refl d _) (λH1 H2 y d g D=>by cases D;exact kz.refl d _) hrd⟩
   .cases z
  .cases z
 .cases z
def K_op {s:UU} (D:cP P o.op=Z s) (A:eO X W (.op s) e h nx K=Z r):je P o s.still e h nx K r:=by
 cases s with
 |mv x=>exact K_mv hinv hi D A
 |pick c a b=>exact aw0 hinv hi D A
 |alloc ty z=>exact aqy hinv hi D A
 |box ty x=>exact azz hinv hi D A
 |build z parts=>exact aqx hinv hi D A
 |xx ty sz len z parts=>exact azy hinv hi D A
 |load sz L x=>exact aw3 hinv hi D A
 |store sz x v=>exact aqu hinv hi D A
 |zl x=>exact aw1 hinv hi D A
 |bin op x y=>exact aA0 hinv hi D A
 |jh neg ds x y=>exact azv hinv hi D A
 |xj neg x y=>exact azw hinv hi D A
 |zd neg x=>exact aqw hinv hi D A
 |not x=>exact azi hinv hi D A
 |conv k x=>exact aw8 hinv hi D A
 |zm ty sz bytes z l c=>exact aw2 hinv hi D A
 |slc sz x lo hi' mx=>exact azf hinv hi D A
 |jb off x=>exact azt hinv hi D A
 |fld off sz L x=>exact azs hinv hi D A
 |jf sz x i=>exact azr hinv hi D A
 |idx n sz L x i=>exact azq hinv hi D A
 |jv n sz x i=>exact aw6 hinv hi D A
 |ext x i=>exact azu hinv hi D A
 |len x=>exact azp hinv hi D A
 |lens x=>exact aw4 hinv hi D A
 |max x y=>exact azn hinv hi D A
 |min x y=>exact azm hinv hi D A
 |jx x i=>exact avz hinv hi D A
 |app ty sz bytes s x=>exact aA1 hinv hi D A
 |copy sz d x=>exact aw7 hinv hi D A
 |clr sz z x=>exact azx hinv hi D A
 |mkf f caps=>exact azl hinv hi D A
 |mkm=>exact azk hinv hi D A
 |rng x=>exact azg hinv hi D A
 |nxt x=>exact azh hinv hi D A
 |jy x=>exact aw5 hinv hi D A
 |jg str ok z x k=>exact azo hinv hi D A
 |jk str x k v=>exact azj hinv hi D A
 |_=>simp[eO]at A
end ops
mutual
def AV.qx (g:Nat->Nat):AV->AV
 |.f x=>.f x
 |.P id off=>.P (g id) off
 |.sl id off n=>.sl (g id) off n
 |.I id sz n=>.I (g id) sz n
 |.mp id=>.mp (g id)
 |.emp=>.emp
 |.qw=>.qw
 |.qc l n=>.qc l n
 |.agg l=>.agg (AV.renL g l)
 |.qb l=>.qb (AV.renL g l)
 |.qy q l=>.qy q (AV.renL g l)
def AV.renL (g:Nat->Nat):Y AV->Y AV
 |[]=>[]
 |x::r=>x.qx g::AV.renL g r
end
def oE (g:Nat->Nat):∀l,AV.renL g l=l.map (AV.qx g)
 |[]=>rfl
 |x::r=>by rw[AV.renL,oE g r];rfl
def F6 (g:Nat->Nat) (x:AV):(x.qx g).isCell=x.isCell:=by cases x<;>rfl
variable {g:Nat->Nat}
def co.renTo {φ':PM} (A:∀i k,V i=Z k->φ' (g i)=Z k) (h:co V O w y v):co φ' O w (y.qx g) v:=by
 induction h with
 |f h=>exact .f h
 |P h=>exact .P (A _ _ h)
 |sl h D L=>exact .sl (A _ _ h) D L
 |I h D L hsh=>exact .I (A _ _ h) D L hsh
 |emp=>exact .emp
 |qw=>exact .qw
 |qc h=>exact .qc h
 |mp h=>exact .mp (A _ _ h)
 |agg hl hcl hr ih=>
  simp[AV.qx,oE];refine .agg (by grind) (λy z=>?_) λj y v z hv=>?_
  .obtain⟨x,hy,rfl⟩:=cz.1 z;rw[F6];exact hcl x hy
  .grind
 |qb hl hr ih=>
  simp[AV.qx,oE];refine .qb (by grind) λj y v z hv=>?_
  grind
 |qy hl hr ih=>
  simp[AV.qx,oE];refine .qy (by grind) λj y v z hv=>?_
  grind
variable {p:Nat->Bool}
def co.renFrom {φ':PM} (hk:∀i k,p i=J->V (g i)=Z k->φ' i=Z k) (h:co V O w y v):∀x:AV,x.all p=J->y=x.qx g->co φ' O w x v:=by
 induction h with
 |f h=>intro x hp e;cases x<;>simp[AV.qx,reduceCtorEq]at e;cases e;exact .f h
 |P h=>intro x hp e;cases x<;>simp only[AV.qx,reduceCtorEq]at e;cases e;exact .P (hk _ _ hp h)
 |sl h hn hc=>intro x hp e;cases x<;>simp only[AV.qx,reduceCtorEq]at e;cases e;exact .sl (hk _ _ hp h) hn hc
 |I h hn hc hsh=>intro x hp e;cases x<;>simp only[AV.qx,reduceCtorEq]at e;cases e;exact .I (hk _ _ hp h) hn hc hsh
 |emp=>intro x hp e;cases x<;>simp[AV.qx,reduceCtorEq]at e;exact .emp
 |qw=>intro x hp e;cases x<;>simp[AV.qx,reduceCtorEq]at e;exact .qw
 |qc h=>intro x hp e;cases x<;>simp only[AV.qx,reduceCtorEq]at e;cases e;exact .qc h
 |mp h=>intro x hp e;cases x<;>simp[AV.qx,reduceCtorEq]at e;cases e;exact .mp (hk _ _ hp h)
 |agg hl hcl hr A=>
  intro x hp e;cases x<;>simp[AV.qx,reduceCtorEq]at e;cases e;rw[oE]at hl hcl hr A;refine .agg (by grind) (λx D=>?_) λj x v D L=>?_
  .have:=hcl (x.qx g) (cz.2 ⟨x,D,rfl⟩);rwa [F6]at this
  .exact A j (x.qx g) v (by grind) L x (nJ hp x (a8 D)) rfl
 |qb hl hr A=>
  intro x hp e;cases x<;>simp[AV.qx,reduceCtorEq]at e;cases e;rw[oE]at hl hr A;refine .qb (by grind) λj x v D L=>?_
  exact A j (x.qx g) v (by grind) L x (nJ hp x (a8 D)) rfl
 |qy hl hr A=>
  intro x hp e;cases x<;>simp only[AV.qx,reduceCtorEq]at e;cases e;rw[oE]at hl hr A;refine .qy (by grind) λj x v D L=>?_
  exact A j (x.qx g) v (by grind) L x (nJ hp x (a8 D)) rfl
def BC.qx (g:Nat->Nat):BC->BC
 |.fz l=>.fz l
 |.mx l=>.mx (l.map (AV.qx g))
 |.mp es=>.mp (es.map λp=>(p.1,p.2.qx g))
 |.it s p=>.it s p
def kG.qx (g:Nat->Nat) (b:kG):kG:=⟨b.ty,b.c.qx g⟩
def im.renTo {φ':PM} {O':Nat->Prop} (L:∀x v,co V O w x v->co φ' O' w (x.qx g) v) {o:Obj} (h:im V O w N o):im φ' O' w (N.qx g) o:=by
 let⟨ty,c⟩:=N;simp[kG.qx];cases c with
 |fz l=>
  let⟨arr,h1,A,D⟩:=h;refine ⟨arr,h1,A,λj x z=>?_⟩;let⟨a,v,c,d⟩:=D j x z;obtain⟨q,_,rfl⟩:=gy.1 z;exact⟨a,v,c,L _ _ d⟩
 |mx l=>
  simp[BC.qx];let⟨arr,h1,A,D⟩:=h;refine ⟨arr,h1,by simpa[BC.len] using A,λj x z=>?_⟩;simp only[BC.get,bB]at z;obtain⟨q,hq,rfl⟩:=gy.1 z;let⟨a,v,c,d⟩:=D j q hq;exact⟨by rw[F6];exact a,v,c,L _ _ d⟩
 |mp es=>
  let⟨e,c,h1,A,D⟩:=h;refine ⟨e,c,h1,by rw[ae9];exact A,λj x z=>?_⟩
  grind
 |it s p=>exact h
def im.renFrom {φ':PM} {O':Nat->Prop} (L:∀x v,x.all p=J->co V O w (x.qx g) v->co φ' O' w x v) (hb:N.c.all p=J) {o:Obj} (h:im V O w (N.qx g) o):im φ' O' w N o:=by
 let⟨ty,c⟩:=N;simp[kG.qx]at h;cases c with
 |fz l=>
  let⟨arr,h1,A,D⟩:=h;refine ⟨arr,h1,A,λj x z=>?_⟩;let⟨a,v,c,d⟩:=D j x z;obtain⟨q,_,rfl⟩:=gy.1 z;exact⟨a,v,c,L _ _ rfl d⟩
 |mx l=>
  simp[BC.qx]at h;let⟨arr,h1,A,D⟩:=h;refine ⟨arr,h1,by simpa[BC.len] using A,λj x z=>?_⟩;simp[BC.get]at z;let⟨a,v,c,d⟩:=D j (x.qx g) (by simp only[BC.get,bB,z];rfl);rw[F6]at a;exact⟨a,v,c,L _ _ (nJ hb x (a8 z)) d⟩
 |mp es=>
  let⟨e,c,h1,A,D⟩:=h;refine ⟨e,c,h1,by rw[ae9]at A;exact A,λj x z=>?_⟩;let⟨m,a,N⟩:=D j (x.1,x.2.qx g) (by grind);exact⟨m,a,L _ _ (nJ hb x.2 (cz.2 ⟨x,a8 z,rfl⟩)) N⟩
 |it s p=>exact h
mutual
def Cf (g:Nat->Nat):TV->TV
 |.I i=>.I (g i)
 |.zh i j=>.zh (g i) j
 |.agg l=>.agg (lH g l)
 |.qb l=>.qb (lH g l)
 |.qy q l=>.qy q (lH g l)
 |.f T v=>.f T v
 |.zf T xs j h off=>.zf T xs j h off
 |.zj a b c d=>.zj (g a) b c d
 |.P a b=>.P (g a) b
 |.qg a b c=>.qg (g a) b c
 |.emp=>.emp
 |.nil=>.nil
 |.mp i=>.mp (g i)
 |.undef=>.undef
 |.np=>.np
 |.qw=>.qw
 |.qc T xs=>.qc T xs
 |.sb s=>.sb (s.to (g s.id))
def lH (g:Nat->Nat):Y TV->Y TV
 |[]=>[]
 |x::r=>Cf g x::lH g r
end
def vL (g:Nat->Nat):∀l,lH g l=l.map (Cf g)
 |[]=>rfl
 |x::r=>by rw[lH,vL g r];rfl
def lj (g:Nat->Nat):e_->e_
 |.G ty l=>.G ty (lH g l)
 |.H ty p T xs=>.H ty p T xs
 |.qj p sz n=>.qj p sz n
 |.mp K V es=>.mp K V es
 |.Q F a x=>.Q F (F.aid (g a)) x
 |.qd F a x k p=>.qd F (F.aid (g a)) x k (p.map λq=>(g q.1,q.2))
def Mm (g:Nat->Nat) (b:e_):iN (lj g b)=iN b:=by cases b<;>rfl
def pJ (g:Nat->Nat) (n:Nat):Nat:=jR (g (ow n)) (ix n)
def Du (g:Nat->Nat) (i k:Nat):pJ g (jR i k)=jR (g i) k:=by unfold pJ;rw[iS,wF]
def CC (g:Nat->Nat) (i:Nat):pJ g (nm i)=nm (g i):=Du g i 0
def LY (g:Nat->Nat) (i:Nat) (j:Int):pJ g (pM i j)=pM (g i) j:=Du g i _
def yd (g:Nat->Nat) (n:Nat):ow (pJ g n)=g (ow n):=iS _ _
def AL (g:Nat->Nat) (n:Nat):ix (pJ g n)=ix n:=wF _ _
def Vm (g:Nat->Nat) (id j sz n:Nat):(uM id j sz n).qx (pJ g)=uM (g id) j sz n:=by
 unfold uM;split
 .rfl
 .simp[AV.qx,Du]
def ap7 (g:Nat->Nat) (s:Sb):Ld (s.to (g s.id))=(Ld s).qx (pJ g):=by
 cases s with
 |nr id j sz n=>simp[Sb.to,Sb.id,Ld,Vm]
 |_=>simp[Sb.to,Sb.id,Ld,AV.qx,LY,Du]
mutual
def au2 {g:Nat->Nat} {h1 h2:aY} (hrow:∀i r,eQ h1 i=Z r->eQ h2 (g i)=Z r):∀(v:TV) (y:AV),bW h1 v=Z y->bW h2 (Cf g v)=Z (y.qx (pJ g))
 |.f _ _,y,he|.zf _ _ _ _ _,y,he=>by simp[bW,ah]at he;subst he;rfl
 |.zj _ _ _ _,y,he|.P _ _,y,he|.qg _ _ _,y,he=>by simp[bW,ah]at he;subst he;simp[Cf,bW,AV.qx,CC]
 |.I id,y,he=>by
  simp[bW]at he;split at he
  .rename_i p sz n hr;simp[ah]at he;subst he;simp[Cf,bW,hrow id _ hr];unfold dA;split
   .rfl
   .simp[AV.qx,CC]
  .cases he
 |.zh id jj,y,he=>by
  simp[bW]at he;split at he
  .rename_i p sz n hr;simp[ah]at he;subst he;simp[Cf,bW,hrow id _ hr,AV.qx,CC]
  .cases he
 |.emp,y,he|.nil,y,he=>by simp[bW,ah]at he;subst he;rfl
 |.mp _,y,he=>by simp[bW,ah]at he;subst he;simp[Cf,bW,AV.qx,CC]
 |.agg l,y,he|.qb l,y,he|.qy q l,y,he=>by
  simp[bW]at he;split at he
  .rename_i l' hl;simp[ah]at he;subst he;simp[Cf,bW,qB hrow l l' hl,AV.qx]
  .cases he
 |.undef,y,he|.np,y,he|.qw,y,he|.qc _ _,y,he=>by simp[bW,ah]at he;subst he;rfl
 |.sb s,y,he=>by simp[bW,ah]at he;subst he;simp[Cf,bW,ap7]
def qB {g:Nat->Nat} {h1 h2:aY} (hrow:∀i r,eQ h1 i=Z r->eQ h2 (g i)=Z r):∀(l:Y TV) (l':Y AV),cN h1 l=Z l'->cN h2 (lH g l)=Z (AV.renL (pJ g) l')
 |[],l',he=>by simp[cN,ah]at he;subst he;rfl
 |x::r,l',he=>by
  obtain⟨y,l2,rfl,e1,e2⟩:=c6 he;exact qC (au2 hrow x y e1) (qB hrow r l2 e2)
end
def W5 (g:Nat->Nat) (a:Nat) (es:Y e!):(xd a es).map (λp=>(p.1,p.2.qx (pJ g)))=xd (g a) es:=by
 unfold xd;rw[kX];refine ja λe _=>?_
 simp[Function.comp,AV.qx,LY]
def W2 (g:Nat->Nat) (a:Nat) (k:ν) (v:AV):∀es:Y e!,(NL a k v es).map (λp=>(p.1,p.2.qx (pJ g)))=NL (g a) k (v.qx (pJ g)) es
 |[]=>rfl
 |e::r=>by
  simp[NL];split
  .rw[b9,W5]
  .rw[b9,W2 g a k v r];simp[AV.qx,LY]
def Ia (g:Nat->Nat) (a sz:Nat):∀(z:η) (k:Nat),(l7 a sz k z).map (AV.qx (pJ g))=l7 (g a) sz k z
 |[],_=>rfl
 |l::r,k=>by simp[l7,b9,Vm,Ia g a sz r (k+1)]
def aeo (g:Nat->Nat) (p:Bool) (id sz n:Nat):(dA p id sz n).qx (pJ g)=dA p (g id) sz n:=by
 unfold dA;split
 .rfl
 .simp[AV.qx,CC]
def ais (g:Nat->Nat) (a:Nat) (z:η):(z.map λj=>AV.P (pM a j) 0).map (AV.qx (pJ g))=z.map λj=>.P (pM (g a) j) 0:=by
 rw[kX];refine ja λj _=>?_
 simp[Function.comp,AV.qx,LY]
def WL (g:Nat->Nat) (a:Nat) (F:uF) (x:F.ty.den):ux (F.aid (g a)) F x=(ux a F x).map (kG.qx (pJ g)):=by
 cases F with
 |qn ty=>
  simp[ux,uF.aid];split
  .rfl
  .exact (eR (λz=>Z (kG.mk ty (.mx z))) (ais g a x)).symm
 |qr=>exact (eR (λz=>Z (kG.mk 0 (.mp z))) (W5 g a x)).symm
 |rr ty sz=>exact (eR (λz=>Z (kG.mk ty (.mx z))) (Ia g a sz x 0)).symm
 |_=>rfl
def aft (g:Nat->Nat) (a:Nat) (k:ν) (F:uF) (x:F.ty.den) (p:M (Nat×Bool×Nat)):ad7 (F.aid (g a)) k F x (p.map λq=>(g q.1,q.2))=(ad7 a k F x p).map (kG.qx (pJ g)):=by
 cases F with
 |qr=>
  cases p with
  |none=>rfl
  |some q=>
   have:=W2 g a k (.P (nm q.1) 0) x;simp[AV.qx,CC]at this;exact (eR (λz=>Z (kG.mk 0 (.mp z))) this).symm
 |rr ty sz=>
  cases p with
  |none=>rfl
  |some q=>
   have:=Ia g a sz x 0;simp[ad7,uF.aid,bi,kG.qx,BC.qx,List.map_set,aeo]
   grind
 |_=>rfl
def afv (g:Nat->Nat) (k:Nat) (ty:TypeId) (T:Ty) (xss:Y (Y T.den)):rm k ty T xss=(rm k ty T xss).map (kG.qx (pJ g)):=by
 unfold rm;cases xss[k]? with
 |none=>rfl
 |some xs=>
  simp[aF,ZO];split<;>rfl
def afw (g:Nat->Nat) (i k:Nat) (ty:TypeId) (S:Ty) (xs:Y (C_ S)):rn (g i) k ty S xs=(rn i k ty S xs).map (kG.qx (pJ g)):=by
 unfold rn;rw[Option.map_map];congr 1;funext o;simp[Function.comp,wP];split
 .simp only[kG.qx,BC.qx,cG,kX,b9,Dd,AV.qx,Du];rfl
 .simp only[kG.qx,BC.qx,Ip,kX];rfl
def NF (g:Nat->Nat) (i k:Nat) (F:uF) (x:F.ty.den):Lc (g i) k F x=(Lc i k F x).map (kG.qx (pJ g)):=by
 cases F with
 |ar ty S=>
  exact afw g i k ty S x
 |ir ty T=>
  exact afv g k ty T x
 |_=>rfl
def VU (g:Nat->Nat) (i k:Nat) (b:e_):w_ (g i) k (lj g b)=(w_ i k b).map (kG.qx (pJ g)):=by
 cases b with
 |Q F a x=>exact NF g i k F x
 |qd F a x j p=>
  cases p with
  |none=>
   simp[lj,w_,Option.map_none];split
   .rfl
   .exact NF g i k F x
  |some q=>exact NF g i k F x
 |_=>rfl
def apa {A:aY} (hrow:∀i r,eQ h i=Z r->eQ A (g i)=Z r) {b:e_} (he:kJ h b=Z N):kJ A (lj g b)=Z (N.qx (pJ g)):=by
 cases b with
 |H ty p T xs=>
  simp only[kJ]at he;split at he
  .cases he
  next D=>simp[ah]at he;subst he;simp only[lj,kJ,av D];rfl
 |G ty l=>
  cases ty with
  |some ty=>
   simp[kJ]at he;split at he
   next l' z=>simp[ah]at he;subst he;simp[lj,kJ,qB hrow l l' z,oE];rfl
   .cases he
  |none=>
   simp[kJ]at he;split at he
   next l' z=>simp[ah]at he;subst he;simp[lj,kJ,qB hrow l l' z,oE,kG.qx,BC.qx]
   .cases he
 |qj p sz n=>cases he
 |mp K V es=>
  simp[kJ,ah]at he;subst he;simp[lj,kJ,kG.qx,ah,kG.mk.injEq,EO];unfold mpC;split
  .rfl
  .simp only[BC.qx,kX];rfl
 |Q F a x=>
  simp[kJ]at he;simp[lj,kJ,WL,he,bi]
 |qd F a x k p=>
  simp[kJ]at he;simp[lj,kJ,aft,he,bi]
def Dw {z:aY} (hrow:∀i r,eQ h i=Z r->eQ z (g i)=Z r) {b:e_} :∀{k:Nat},PC h i k b=Z N->PC z (g i) k (lj g b)=Z (N.qx (pJ g))
 |0,he=>apa hrow he
 |k+1,he=>by
  simp[PC]at he ⊢;rw[VU,he];rfl
def F7 (g:Nat->Nat) (a b:Y TV):lH g (a++b)=lH g a++lH g b:=by
 rw[vL,vL,vL,cG]
def ru (g:Nat->Nat):∀(n:Nat) (T:Ty) (v:T.den) (l:Y TV),cellsOf n T v=Z l->lH g l=l
 |0,_,_,_,he=>by simp[cellsOf]at he
 |n+1,.st t,v,l,he=>ru g n t v l he
 |n+1,.pr a b,v,l,he=>by
  simp[cellsOf]at he;split at he
  next x y A z=>simp[ah]at he;subst he;rw[F7,ru g n a v.1 x A,ru g n b v.2 y z]
  .cases he
 |n+1,.un,v,l,he=>by simp[cellsOf,ah]at he;subst he;rfl
 |n+1,.ex,v,l,he=>ru g n RE (Ss v) l he
 |n+1,.sm,v,l,he=>ru g n Ra (Sr v) l he
 |n+1,.int k,v,l,he|n+1,.bool,v,l,he|n+1,.str,v,l,he|n+1,.sl t,v,l,he=>by simp[cellsOf,ah]at he;subst he;rfl
abbrev M3:Nat->Nat:=λi=>i
mutual
def aiq (g:Nat->Nat):∀(p:PV) (x:p.ty.den),nV g p x=(nV M3 p x).map (lH g)
 |.d T,x=>by
  simp only[nV];cases h:cellsOf 40 T x with
  |none=>rfl
  |some l=>simp only[bi,ru g 40 T x l h]
 |.P i o,x|.qg i o z,x=>rfl
 |.qy q ps,x=>by simp only[nV,bi,lH,Cf,vL,kX];rfl
 |.ob i o,x|.nr i s,x|.I i,x|.mp i,x|.nil,x|.emp,x=>rfl
 |.agg ps,x=>Di g ps x
def Di (g:Nat->Nat):∀(ps:Y PV) (x:(PV.tyL ps).den),sN g ps x=(sN M3 ps x).map (lH g)
 |[],x=>rfl
 |p::r,x=>by
  simp only[sN];rw[aiq g p,Di g r];cases nV M3 p (US p.ty (PV.tyL r) x) with
  |none=>rfl
  |some a=>
   cases sN M3 r (SE p.ty (PV.tyL r) x) with
   |none=>rfl
   |some b=>simp only[bi,F7]
end
def auh (o:M (Y TV)):M TV:=match o with|some l=>Z (.agg l)|none=>U
def alw (g:Nat->Nat) (o:M (Y TV)):auh (o.map (lH g))=(auh o).map (Cf g):=by cases o<;>rfl
def aip (g:Nat->Nat) (p:PV) (x:p.ty.den):rF g p x=(rF M3 p x).map (Cf g):=by
 cases p with
 |agg z=>exact (eR auh (Di g z x)).trans (alw g _)
 |qy q z=>simp only[rF,bi,Cf,vL,kX];rfl
 |_=>rfl
def vM (g:Nat->Nat):∀(z:Y PV) (x:(PV.tyL z).den),rE g z x=(rE M3 z x).map (lH g)
 |[],x=>rfl
 |p::r,x=>by
  simp[rE];rw[aip g p,vM g r];cases rF M3 p (US p.ty (PV.tyL r) x) with
  |none=>rfl
  |some a=>
   cases rE M3 r (SE p.ty (PV.tyL r) x) with
   |_=>rfl
def aat (ty:M TypeId) (o:M (Y TV)):M (M e_):=match o with|some l=>Z (Z (.G ty l))|none=>U
def aas (g:Nat->Nat) (ty:M TypeId) (o:M (Y TV)):aat ty (o.map (lH g))=(aat ty o).map (io (lj g)):=by cases o<;>rfl
def air (g:Nat->Nat) (b:PB) (x:b.ty.den):DH g b x=(DH M3 b x).map (io (lj g)):=by
 cases b with
 |G ty z=>exact (eR (aat ty) (Di g z x)).trans (aas g ty _)
 |Q F a=>cases F<;>rfl
 |_=>rfl
def yT (g:Nat->Nat):∀(bs:Y PB) (x:(PB.tyL bs).den),qU g bs x=(qU M3 bs x).map (gM (io (lj g)))
 |[],x=>rfl
 |b::r,x=>by
  simp[qU];rw[air g b,yT g r];cases DH M3 b (US b.ty (PB.tyL r) x) with
  |none=>rfl
  |some a=>grind
def F9 (g:Nat->Nat):∀(bs:Y PB) (x:(PB.tyL bs).den) (l:Y (M e_)),qU g bs x=Z l->l! l=l! bs
 |[],x,l,h=>by simp[qU,ah]at h;subst h;rfl
 |b::r,x,l,h=>by
  simp[qU]at h;split at h
  .split at h
   next q z=>simp[ah]at h;subst h;simp[F9 g r _ q z]
   .cases h
  .cases h
def Ns (h:aY) (i j:Nat):(kill h i).get j=if j=i then (h.get i).map vg else h.get j:=by
 unfold kill;cases z:h.get i with
 |none=>grind
 |some b=>rw[PT.get_set];rfl
def xG (g:Nat->Nat):∀(l:Y (M e_)) (i:Nat) (h:aY) (j:Nat),(∀k,k<l! l->j≠g (i+k))->(DP g i l h).get j=h.get j
 |[],i,h,j,_=>rfl
 |some c::r,i,h,j,z=>by
  rw[DP,xG g r (i+1) _ j (λk A=>by have:=z (k+1) (by grind);rwa [show i+1+k=i+(k+1) from by omega]),PT.get_set,av];exact z 0 (by simp)
 |none::r,i,h,j,z=>by
  rw[DP,xG g r (i+1) _ j (λk A=>by have:=z (k+1) (by grind);rwa [show i+1+k=i+(k+1) from by omega]),Ns,av];exact z 0 (by simp)
def xH (g:Nat->Nat):∀(l:Y (M e_)) (i:Nat) (h:aY),(∀a b,a<l! l->b<l! l->g (i+a)=g (i+b)->a=b)->∀(k:Nat) (c:M e_),l[k]? =Z c->(DP g i l h).get (g (i+k))=(match c with|some b=>Z b|none=>(h.get (g (i+k))).map vg)
 |[],i,h,_,k,c,A=>by simp at A
 |o::r,i,h,hinj,k,c,A=>by
  have hinj':∀a b,a<l! r->b<l! r->g (i+1+a)=g (i+1+b)->a=b:=λa b L D e=>by
   have:=hinj (a+1) (b+1) (by grind) (by grind) (by grind);omega
  cases k with
  |zero=>
   simp at A;subst A;have hne:∀k,k<l! r->g (i+0)≠g (i+1+k):=λk A e=>by
    have:=hinj 0 (k+1) (by simp) (by grind) (by grind);omega
   cases o with
   |some b=>rw[DP,xG g r (i+1) _ _ hne];simp[dK];rw[PT.get_set,aD rfl]
   |none=>rw[DP,xG g r (i+1) _ _ hne];simp[dK];rw[Ns,aD rfl]
  |succ k=>
   have z:r[k]? =Z c:=by grind
   have hne:g (i+(k+1))≠g i:=λe=>by
    have:=hinj (k+1) 0 (by grind) (by simp) (by omega);omega
   rw[show i+(k+1)=i+1+k from by omega]at hne ⊢;cases o with
   |some b=>
    rw[DP,xH g r (i+1) _ hinj' k c z];cases c with
    |some _=>rfl
    |none=>simp[PT.get_set,av hne]
   |none=>
    rw[DP,xH g r (i+1) _ hinj' k c z];cases c with
    |some _=>rfl
    |none=>simp[Ns,av hne]
def Bo (h' h:aY):Prop:=∀i r,eQ h' i=Z r->eQ h i=Z r
section get
variable {h h':aY} {H H':HF} {g:Nat->Nat}
def kz.agg {l':Y AV} (z:hP H H' r l') (hc:∀x∈l',x.isCell=J):kz H H' (.agg r) (.agg l'):=by
 intro φ E w v hrep hr;cases hr with
 |@agg _ vs hlen hcl hrr=>
  refine .agg (by rw[hlen,<-z.length]) hc λj y u A L=>?_
  let⟨x,D,hle⟩:=z.get j y A;exact hle φ E w u hrep (hrr j x u D L)
def Vl (L:Bo h' h) {A:AV} (D:bW h (.I i)=Z y) (z:bW h' (.I i)=Z A):A=y:=by
 simp[bW]at D z;cases h1:eQ h' i with
 |none=>rw[h1]at z;cases z
 |some r=>
  rw[L i r h1]at D
  grind
def Ms {g:Nat->Nat}:∀{z:Y q!} {vs:Y TV},Mt g z vs=J->vs=z.map λp=>.P (g p.1) p.2
 |[],[],_=>rfl
 |[],_::_,h|_::_,[],h=>by simp[Mt]at h
 |(i,o)::r,v::vs,h=>by
  cases v with
  |P D A=>
   simp only[Mt,al]at h;rw[b9,<-Ms h.2,au h.1.1,au h.1.2]
  |_=>simp[Mt]at h
def LM (h:aY) (g:Nat->Nat):∀z:Y q!,cN h (z.map λp=>.P (g p.1) p.2)=Z (z.map λp=>.P (nm (g p.1)) p.2)
 |[]=>rfl
 |p::r=>by simp[b9,cN,bW,LM h g r]
mutual
def ap0 (d:rC H H') (hr:Bo h' h):∀(p:PV) (l:Y TV) (x:p.ty.den) (m:Nat) (r:Y TV) (cs:Y TV) (l' cs':Y AV),m_ g h p l=Z (x,m,r)->nV g p x=Z cs->cN h l=Z l'->cN h' cs=Z cs'->Fy h H H' m->∃l1 l2,l'=l1++l2/\cN h r=Z l2/\hP H H' l1 cs'
 |.d T,l,x,m,r,cs,l',cs',hg,hp,hl,hc,gv=>by
  obtain⟨l1,l2,e1,e2,e3⟩:=rH d 40 T l x m r l' hg hl gv;have:=(nh h' 40 T x cs hp).1;rw[hc]at this;cases this;exact⟨l1,l2,e1,e2,e3⟩
 |.P i q,l,x,m,r,cs,l',cs',hg,hp,hl,hc,gv=>by
  simp only[m_]at hg;split at hg
  .rename_i i' o' r';split at hg
   .rename_i hb;simp only[al]at hb;have e1:=au hb.1;have e2:=au hb.2;subst e1 e2;simp only[ah,aR]at hg;obtain⟨_,_,rfl⟩:=hg;simp only[nV,ah]at hp;subst hp;obtain⟨y,l2,rfl,g1,g2⟩:=c6 hl;simp only[bW,ah]at g1;subst g1;simp only[cN,bW,ah]at hc;subst hc;exact⟨[_],l2,rfl,g2,kz.refl d _,trivial⟩
   .cases hg
  .cases hg
 |.qg i q z,l,x,m,r,cs,l',cs',hg,hp,hl,hc,gv=>by
  simp only[m_]at hg;split at hg
  .rename_i i' o' z' r';split at hg
   .rename_i hb;simp only[al]at hb;have e1:=au hb.1.1;have e2:=au hb.1.2;have e3:=au hb.2;subst e1 e2 e3;simp only[ah,aR]at hg;obtain⟨_,_,rfl⟩:=hg;simp only[nV,ah]at hp;subst hp;obtain⟨y,l2,rfl,g1,g2⟩:=c6 hl;simp only[bW,ah]at g1;subst g1;simp only[cN,bW,ah]at hc;subst hc;exact⟨[_],l2,rfl,g2,kz.refl d _,trivial⟩
   .cases hg
  .cases hg
 |.qy q ps,l,x,m,r,cs,l',cs',hg,hp,hl,hc,gv=>by
  simp only[m_]at hg;split at hg
  .rename_i q' vs r';split at hg
   .rename_i hb;simp only[al]at hb;have e1:=au hb.1;have e2:=Ms hb.2;subst e1 e2;simp only[ah,aR]at hg;obtain⟨_,_,rfl⟩:=hg;simp only[nV,ah]at hp;subst hp;obtain⟨y,l2,rfl,g1,g2⟩:=c6 hl;simp only[bW,LM,ah]at g1;subst g1;simp only[cN,bW,LM,ah]at hc;subst hc;exact⟨[_],l2,rfl,g2,kz.refl d _,trivial⟩
   .cases hg
  .cases hg
 |.ob i q,l,x,m,r,cs,l',cs',hg,hp,hl,hc,gv=>by
  simp only[m_]at hg;split at hg
  .rename_i i' j' o' r';split at hg
   .rename_i hb;simp only[al]at hb;have e1:=au hb.1;have e2:=au hb.2;subst e1 e2;simp only[ah,aR]at hg;obtain⟨rfl,_,rfl⟩:=hg;simp only[nV,ah]at hp;subst hp;obtain⟨y,l2,rfl,g1,g2⟩:=c6 hl;simp only[bW,ah]at g1;subst g1;simp only[cN,bW,ah]at hc;subst hc;exact⟨[_],l2,rfl,g2,kz.refl d _,trivial⟩
   .cases hg
  .cases hg
 |.nr i q,l,x,m,r,cs,l',cs',hg,hp,hl,hc,gv=>by
  simp only[m_]at hg;split at hg
  .rename_i i' j' o' n' r';split at hg
   .rename_i hb;simp only[al]at hb;have e1:=au hb.1;have e2:=au hb.2;subst e1 e2;simp only[ah,aR]at hg;obtain⟨rfl,_,rfl⟩:=hg;simp only[nV,ah]at hp;subst hp;obtain⟨y,l2,rfl,g1,g2⟩:=c6 hl;simp only[bW,ah]at g1;subst g1;simp only[cN,bW,ah]at hc;subst hc;exact⟨[_],l2,rfl,g2,kz.refl d _,trivial⟩
   .cases hg
  .cases hg
 |.I i,l,x,m,r,cs,l',cs',hg,hp,hl,hc,gv=>by
  simp only[m_]at hg;split at hg
  .rename_i i' r';split at hg
   .rename_i hb;have e1:=au hb;subst e1;simp only[ah,aR]at hg;obtain⟨_,_,rfl⟩:=hg;simp only[nV,ah]at hp;subst hp;obtain⟨y,l2,rfl,g1,g2⟩:=c6 hl;obtain⟨y',l3,rfl,g3,g4⟩:=c6 hc;simp only[cN,ah]at g4;subst g4;rw[Vl hr g1 g3];exact⟨[_],l2,rfl,g2,kz.refl d _,trivial⟩
   .cases hg
  .cases hg
 |.mp i,l,x,m,r,cs,l',cs',hg,hp,hl,hc,gv=>by
  simp only[m_]at hg;split at hg
  .rename_i i' r';split at hg
   .rename_i hb;have e1:=au hb;subst e1;simp only[ah,aR]at hg;obtain⟨_,_,rfl⟩:=hg;simp only[nV,ah]at hp;subst hp;obtain⟨y,l2,rfl,g1,g2⟩:=c6 hl;simp only[bW,ah]at g1;subst g1;simp only[cN,bW,ah]at hc;subst hc;exact⟨[_],l2,rfl,g2,kz.refl d _,trivial⟩
   .cases hg
  .cases hg
 |.nil,l,x,m,r,cs,l',cs',hg,hp,hl,hc,gv=>by
  simp only[m_]at hg;split at hg
  .simp only[ah,aR]at hg;obtain⟨_,_,rfl⟩:=hg;simp only[nV,ah]at hp;subst hp;obtain⟨y,l2,rfl,g1,g2⟩:=c6 hl;simp only[bW,ah]at g1;subst g1;simp only[cN,bW,ah]at hc;subst hc;exact⟨[_],l2,rfl,g2,kz.refl d _,trivial⟩
  .cases hg
 |.emp,l,x,m,r,cs,l',cs',hg,hp,hl,hc,gv=>by
  simp only[m_]at hg;split at hg
  .simp only[ah,aR]at hg;obtain⟨_,_,rfl⟩:=hg;simp only[nV,ah]at hp;subst hp;obtain⟨y,l2,rfl,g1,g2⟩:=c6 hl;simp only[bW,ah]at g1;subst g1;simp only[cN,bW,ah]at hc;subst hc;exact⟨[_],l2,rfl,g2,Le.nilEmp.toH d,trivial⟩
  .simp only[ah,aR]at hg;obtain⟨_,_,rfl⟩:=hg;simp only[nV,ah]at hp;subst hp;obtain⟨y,l2,rfl,g1,g2⟩:=c6 hl;simp only[bW,ah]at g1;subst g1;simp only[cN,bW,ah]at hc;subst hc;exact⟨[_],l2,rfl,g2,kz.refl d _,trivial⟩
  .cases hg
 |.agg ps,l,x,m,r,cs,l',cs',hg,hp,hl,hc,gv=>GY d hr ps l x m r cs l' cs' hg hp hl hc gv
def GY (d:rC H H') (hr:Bo h' h):∀(ps:Y PV) (l:Y TV) (x:(PV.tyL ps).den) (m:Nat) (r:Y TV) (cs:Y TV) (l' cs':Y AV),CA g h ps l=Z (x,m,r)->sN g ps x=Z cs->cN h l=Z l'->cN h' cs=Z cs'->Fy h H H' m->∃l1 l2,l'=l1++l2/\cN h r=Z l2/\hP H H' l1 cs'
 |[],l,x,m,r,cs,l',cs',hg,hp,hl,hc,gv=>by
  simp only[CA,ah,aR]at hg;obtain⟨_,_,rfl⟩:=hg;simp only[sN,ah]at hp;subst hp;simp only[cN,ah]at hc;subst hc;exact⟨[],l',rfl,hl,trivial⟩
 |p::ps,l,x,m,r,cs,l',cs',hg,hp,hl,hc,gv=>by
  simp only[CA]at hg;split at hg
  .rename_i x1 m1 r1 h1;split at hg
   .rename_i x2 m2 r2 h2;cases hg;simp only[sN,vF,xy]at hp;split at hp
    .rename_i a ha;split at hp
     .rename_i b hb;cases hp;obtain⟨a',b',rfl,ea,eb⟩:=Fp hc;obtain⟨ga,gb⟩:=gv.or;obtain⟨l1,l2,rfl,q1,q2⟩:=ap0 d hr p l _ _ _ a l' a' h1 ha hl ea ga;obtain⟨l3,l4,rfl,q3,q4⟩:=GY d hr ps _ _ _ _ b l2 b' h2 hb q1 eb gb;exact⟨l1++l3,l4,by simp,q3,q2.append q4⟩
     .cases hp
    .cases hp
   .cases hg
  .cases hg
end
mutual
def aes:∀(p:PV) (x:p.ty.den) (cs:Y TV),nV g p x=Z cs->lX cs=J
 |.d T,x,cs,hp=>(nh PT.leaf 40 T x cs hp).2
 |.P i q,x,cs,hp|.qg i q z,x,cs,hp|.qy q ps,x,cs,hp|.ob i q,x,cs,hp|.nr i q,x,cs,hp|.I i,x,cs,hp|.mp i,x,cs,hp|.nil,x,cs,hp|.emp,x,cs,hp=>by simp only[nV,ah]at hp;subst hp;rfl
 |.agg ps,x,cs,hp=>Aw ps x cs hp
def Aw:∀(ps:Y PV) (x:(PV.tyL ps).den) (cs:Y TV),sN g ps x=Z cs->lX cs=J
 |[],x,cs,hp=>by simp only[sN,ah]at hp;subst hp;rfl
 |p::ps,x,cs,hp=>by
  simp only[sN]at hp;split at hp
  .rename_i a ha;split at hp
   .rename_i b hb;cases hp;exact X9 (aes p _ a ha) (Aw ps _ b hb)
   .cases hp
  .cases hp
end
def aoz (d:rC H H') (hr:Bo h' h) {p:PV} {v:TV} {x:p.ty.den} {y':AV} (D:wM g h p v=Z (x,i)) (hp:rF g p x=Z u) (L:bW h v=Z y) (A:bW h' u=Z y') (gv:Fy h H H' i):kz H H' y y':=by
 cases p with
 |d T=>
  simp only[rF,ah]at hp;subst hp;simp only[bW,ah]at A;subst A;exact (UB d D L gv).1
 |agg ps=>
  simp only[wM]at D;split at D
  .cases D
  .rename_i hc;split at D
   .rename_i l hl;split at D
    .rename_i x1 m1 h1;cases D;simp only[rF]at hp;split at hp
     .rename_i cs hcs;cases hp;simp only[bW]at A;split at A
      .rename_i cs' hcs';cases A;let⟨e1,e2⟩:=Ky hl L;let⟨l1,l2,q1,q2,q3⟩:=GY d hr ps l _ _ [] cs y.cs cs' h1 hcs e1 hcs' gv;simp only[cN,ah]at q2;subst q2;rw[jU]at q1;subst q1;have hcell:∀x∈cs',x.isCell=J:=nj (t8 hcs' (Aw ps _ cs hcs));cases v with
       |agg q=>
        simp only[bW]at L;split at L
        .cases L;exact kz.agg q3 hcell
        .cases L
       |f S z=>
        simp only[bW,ah]at L;subst L;have ho:S.one=af:=by simpa[TV.isC] using hc
        rw[Dz]at q3;rw[sq S z ho];intro φ E w v hrep hrel;exact kz.agg q3 hcell φ E w v hrep (Le.aggF _ _ _ _ hrel)
       |qb q|undef|qw|qc S q=>simp[TV.cs,TV.isC]at hl
       |sb q=>exact cu rfl hc
       |zh id jj=>cases hl
       |_=>simp[TV.isC]at hc
      .cases A
     .cases hp
    .cases D
   .cases D
 |P m q=>
  simp only[rF,ah]at hp;subst hp;simp only[wM]at D;split at D
  .rename_i h1;simp only[m_]at h1;split at h1
   .rename_i e;simp only[eX]at e;obtain⟨rfl,_⟩:=e;split at h1
    next hb=>simp only[al]at hb;have e1:=au hb.1;have e2:=au hb.2;subst e1 e2;simp only[bW,ah]at L A;subst L A;exact kz.refl d _
    .cases h1
   .cases h1
  .cases D
 |qg m q z=>
  simp only[rF,ah]at hp;subst hp;simp only[wM]at D;split at D
  .rename_i h1;simp only[m_]at h1;split at h1
   .rename_i e;simp only[eX]at e;obtain⟨rfl,_⟩:=e;split at h1
    next hb=>simp only[al]at hb;have e1:=au hb.1.1;have e2:=au hb.1.2;have e3:=au hb.2;subst e1 e2 e3;simp only[bW,ah]at L A;subst L A;exact kz.refl d _
    .cases h1
   .cases h1
  .cases D
 |qy q ps=>
  simp only[rF,ah]at hp;subst hp;simp only[wM]at D;split at D
  .rename_i h1;simp only[m_]at h1;split at h1
   .rename_i e;simp only[eX]at e;obtain⟨rfl,_⟩:=e;split at h1
    next hb=>simp only[al]at hb;have e1:=au hb.1;have e2:=Ms hb.2;subst e1 e2;simp only[bW,LM,ah]at L A;subst L A;exact kz.refl d _
    .cases h1
   .cases h1
  .cases D
 |I m=>
  simp only[rF,ah]at hp;subst hp;simp only[wM]at D;split at D
  .rename_i h1;simp only[m_]at h1;split at h1
   .rename_i e;simp only[eX]at e;obtain⟨rfl,_⟩:=e;split at h1
    next hb=>have e1:=au hb;subst e1;rw[Vl hr L A];exact kz.refl d _
    .cases h1
   .cases h1
  .cases D
 |mp m=>
  simp only[rF,ah]at hp;subst hp;simp only[wM]at D;split at D
  .rename_i h1;simp only[m_]at h1;split at h1
   .rename_i e;simp only[eX]at e;obtain⟨rfl,_⟩:=e;split at h1
    next hb=>have e1:=au hb;subst e1;simp only[bW,ah]at L A;subst L A;exact kz.refl d _
    .cases h1
   .cases h1
  .cases D
 |nil=>
  simp only[rF,ah]at hp;subst hp;simp only[wM]at D;split at D
  .rename_i h1;simp only[m_]at h1;split at h1
   next e=>simp only[eX]at e;obtain⟨rfl,_⟩:=e;simp only[bW,ah]at L A;subst L A;exact kz.refl d _
   .cases h1
  .cases D
 |emp=>
  simp only[rF,ah]at hp;subst hp;simp only[wM]at D;split at D
  .rename_i h1;simp only[m_]at h1;split at h1
   next e=>simp only[eX]at e;obtain⟨rfl,_⟩:=e;simp only[bW,ah]at L A;subst L A;exact Le.nilEmp.toH d
   next e=>simp only[eX]at e;obtain⟨rfl,_⟩:=e;simp only[bW,ah]at L A;subst L A;exact kz.refl d _
   .cases h1
  .cases D
 |_=>
  simp only[rF,ah]at hp;subst hp;simp only[wM]at D;split at D
  .rename_i h1;simp only[m_]at h1;split at h1
   .rename_i e;simp only[eX]at e;obtain⟨rfl,_⟩:=e;split at h1
    next hb=>simp only[al]at hb;have e1:=au hb.1;have e2:=au hb.2;subst e1 e2;simp only[ah,aR]at h1 D;obtain⟨rfl,_⟩:=D;obtain⟨rfl,_⟩:=h1;simp only[bW,ah]at L A;subst L A;exact kz.refl d _
    .cases h1
   .cases h1
  .cases D
def GW (d:rC H H') (hr:Bo h' h):∀(L:Y PV) (vs:Y TV) (x:(PV.tyL L).den) (m:Nat) (D:Y TV) (l l':Y AV),Cz g h L vs=Z (x,m)->rE g L x=Z D->cN h vs=Z l->cN h' D=Z l'->Fy h H H' m->hP H H' l l'
 |[],[],x,m,D,l,l',z,hp,hl,A,gv=>by
  simp[rE,ah]at hp;subst hp;simp[cN,ah]at hl A;subst hl A;trivial
 |[],_::_,x,m,D,l,l',z,_,_,_,_|_::_,[],x,m,D,l,l',z,_,_,_,_=>by simp[Cz]at z
 |p::L,v::vs,x,m,D,l,l',z,hp,hl,A,gv=>by
  simp[Cz]at z;split at z
  .rename_i x1 m1 h1;split at z
   .rename_i x2 m2 h2;obtain⟨rfl,rfl⟩:=z;simp[rE,vF,xy]at hp;split at hp
    .rename_i a ha;split at hp
     next b hb=>simp[ah]at hp;subst hp;obtain⟨y,l2,rfl,e1,e2⟩:=c6 hl;obtain⟨y',l3,rfl,e3,e4⟩:=c6 A;let⟨ga,gb⟩:=gv.or;exact⟨aoz d hr h1 ha e1 e3 ga,GW d hr L vs _ _ b l2 l3 h2 hb e2 e4 gb⟩
     .cases hp
    .cases hp
   .cases z
  .cases z
inductive BM (g:Nat->Nat) (h:aY) (m:Nat):e_->e_->Prop
 |H (ty:TypeId) (p:Bool) (T:Ty) (xs:List T.den):BM g h m (.H ty p T xs) (.H ty p T xs)
 |mp (K V:Ty) (es:List (K.den×V.den)):BM g h m (.mp K V es) (.mp K V es)
 |Q (F:uF) (a:Nat) (x:F.ty.den):BM g h m (.Q F a x) (.Q F a x)
 |G (ty:Option TypeId) (ps:List PV) (x:(PV.tyL ps).den) (l l2:List TV) (m':Nat) (hg:CA g h ps l=Z (x,m',[])) (hp:sN g ps x=Z l2) (hm:∀i,aL m' i=J->aL m i=J):BM g h m (.G ty l) (.G ty l2)
def BM.mono (hm:∀m,aL i m=J->aL j m=J) {b c:e_} (h1:BM g h i b c):BM g h j b c:=by
 cases h1 with
 |H ty p T xs=>exact .H ty p T xs
 |mp K V es=>exact .mp K V es
 |Q F a x=>exact .Q F a x
 |G ty A x l D m' L hp z=>exact .G ty A x l D m' L hp λm hi=>hm m (z m hi)
def ap1 {b:PB} {x:b.ty.den} {c:e_} (A:Fn g h i b=Z (x,j)) (hp:DH g b x=Z (Z c)):∃b0,h.get (g i)=Z b0/\BM g h j b0 c:=by
 cases b with
 |H ty p T=>
  simp only[Fn]at A;split at A
  .rename_i ty' p' S xs D;split at A
   .rename_i L;simp[al,c4]at L;obtain⟨rfl,rfl⟩:=L;split at A
    next z hz=>obtain⟨rfl,rfl⟩:=A;obtain⟨e,rfl⟩:=iP hz;cases e;simp[DH,ah]at hp;subst hp;exact⟨_,D,.H _ _ _ _⟩
    .cases A
   .cases A
  .cases A
 |qp ty T=>
  simp[Fn]at A;split at A
  .rename_i ty' p' S xs D;split at A
   .rename_i L;have L:ty=ty':=by grind
    subst L;split at A
    next z hz=>obtain⟨rfl,rfl⟩:=A;obtain⟨e,rfl⟩:=iP hz;cases e;simp[DH,ah]at hp;subst hp;exact⟨_,D,.H _ _ _ _⟩
    .cases A
   .cases A
  .cases A
 |G ty ps=>
  simp[Fn]at A;split at A
  .rename_i ty' l D;split at A
   .rename_i L;have L:ty=ty':=by grind
    subst L;split at A
    .rename_i z m1 hz;obtain⟨rfl,rfl⟩:=A;simp[DH]at hp;split at hp
     next l2 hl2=>simp[ah]at hp;subst hp;exact⟨_,D,.G ty ps _ l l2 _ hz hl2 λ_ h=>h⟩
     .cases hp
    .cases A
   .cases A
  .cases A
 |mp K V=>
  simp[Fn]at A;split at A
  .rename_i K' V' es D;split at A
   next z hz=>obtain⟨rfl,rfl⟩:=A;obtain⟨e,rfl⟩:=iP hz;cases e;simp[DH,ah]at hp;subst hp;exact⟨_,D,.mp _ _ _⟩
   .cases A
  .cases A
 |Q F a=>
  simp only[Fn]at A;split at A
  .rename_i F' a' z D;split at A
   .rename_i hF;subst hF;split at A
    next ha=>obtain⟨rfl,rfl⟩:=A;simp[DH,ah]at hp;subst hp;rw[au ha];exact⟨_,D,.Q _ _ _⟩
    .cases A
   .cases A
  .cases A
 |qf=>simp[DH]at hp
def Nu:∀(bs:Y PB) (i:Nat) (x:(PB.tyL bs).den) (m:Nat) (A:Y (M e_)),GZ g h i bs=Z (x,m)->qU g bs x=Z A->∀(k:Nat) c,A[k]? =Z (Z c)->∃b0,h.get (g (i+k))=Z b0/\BM g h m b0 c
 |[],i,x,m,A,z,hp,k,c,D=>by
  simp[qU,ah]at hp;subst hp;simp at D
 |b::r,i,x,m,A,z,hp,k,c,D=>by
  simp[GZ]at z;split at z
  .rename_i x1 m1 h1;split at z
   .rename_i x2 m2 h2;obtain⟨rfl,rfl⟩:=z;simp[qU,vF,xy]at hp;split at hp
    .rename_i a ha;split at hp
     .rename_i q hq;simp[ah]at hp;subst hp;cases k with
      |zero=>
       simp at D;subst D;let⟨b0,L,e2⟩:=ap1 h1 ha;exact⟨b0,L,e2.mono λi hi=>by rw[bu,hi];rfl⟩
      |succ k=>
       let⟨b0,L,e2⟩:=Nu r (i+1) _ _ q h2 hq k c (by grind);rw[show i+1+k=i+(k+1) from by omega]at L;exact⟨b0,L,e2.mono λi hi=>by rw[bu,hi];simp⟩
     .cases hp
    .cases hp
   .cases z
  .cases z
end get
def Ww {σ:PT Nat} (h:σ.get i=Z j):iz σ i=j:=by unfold iz;rw[h]
def abp {σ:PT Nat}:∀(n i acc sm:Nat),ai9 σ n i acc=Z sm->
 (∀k,k<n->aL acc (iz σ (i+k))=af)/\(∀a b,a<n->b<n->iz σ (i+a)=iz σ (i+b)->a=b)/\∀q,aL sm q=J↔aL acc q=J\/∃k,k<n/\iz σ (i+k)=q
 |0,i,acc,sm,h=>by
  simp[ai9,ah]at h
  grind
 |n+1,i,acc,sm,h=>by
  simp[ai9]at h;split at h
  .rename_i a L;split at h
   .cases h
   .rename_i hna;have hna:aL acc a=af:=by grind
    have hga:=Ww L;let⟨h1,h2,h3⟩:=abp n (i+1) (acc|||gF a) sm h;have hne:∀k,k<n->iz σ (i+1+k)≠a/\aL acc (iz σ (i+1+k))=af:=λk A=>by
     have:=h1 k A;rw[bu,Bool.or_eq_false_iff]at this;refine ⟨λe=>?_,this.1⟩;have D:=this.2;rw[e]at D;rw[bq.2 rfl]at D;cases D
    refine ⟨λk A=>?_,λx y hx hy hxy=>?_,λq=>?_⟩
    .cases k with
     |zero=>rw[dK,hga];exact hna
     |succ k=>rw[show i+(k+1)=i+1+k from by omega];exact (hne k (by omega)).2
    .cases x with
     |zero=>
      cases y with
      |zero=>rfl
      |succ y=>grind
     |succ x=>
      cases y with
      |_=>grind
    .rw[h3,bu,nA];constructor
     .rintro ((z|z)|⟨k,A,z⟩)
      .exact .inl z
      .exact .inr ⟨0,by omega,by rw[dK,hga];exact bq.1 z⟩
      .exact .inr ⟨k+1,by omega,by rw[show i+(k+1)=i+1+k from by omega];exact z⟩
     .rintro (z|⟨k,A,z⟩)
      .exact .inl (.inl z)
      .cases k with
       |zero=>rw[dK,hga]at z;exact .inl (.inr (bq.2 z))
       |succ k=>exact .inr ⟨k,by omega,by rw[show i+1+k=i+(k+1) from by omega];exact z⟩
  .cases h
def WE {σ:PT Nat}:∀(n:Nat),ad5 σ n=J->∀i,i<n->iz σ i=i
 |0,_,i,hi=>by omega
 |n+1,h,i,hi=>by
  simp[ad5,al]at h;by_cases e:i=n
  .subst e;cases z:σ.get i with
   |none=>rw[z]at h;exact cu h.1 (by simp)
   |some a=>rw[z]at h;rw[Ww z];exact au h.1
  .exact WE n h.2 i (by omega)
structure L8 (np:Nat) (t:Tm) (vs:List TV) (h:aY) (z:t.ty.den) (m:Nat) (σ:PT Nat) (sm:Nat):Prop where
 ex:∃x m1 y m2,z=mkp _ _ x y/\m=m1|||m2/\Cz (iz σ) h t.vs vs=Z (x,m1)/\GZ (iz σ) h 0 t.bs=Z (y,m2)
 inj:∀a b,a<l! t.bs->b<l! t.bs->iz σ a=iz σ b->a=b
 sig:∀q,aL sm q=J↔∃k,k<l! t.bs/\iz σ k=q
 disj:∀i,aL m i=J->aL sm i=af
 fix:∀i,i<np->iz σ i=i
def ze {t:Tm} {z:t.ty.den} {vs:Nat} {σ:PT Nat} (hm:Fc i t m h=Z ⟨z,vs,σ,j⟩):L8 i t m h z vs σ j:=by
 unfold Fc at hm;rw[TY]at hm;split at hm
 .rename_i sm' hs;split at hm
  .rename_i x m1 h1;split at hm
   .rename_i y m2 h2;split at hm
    next A=>simp[al]at A;obtain⟨rfl,rfl,rfl,rfl⟩:=hm;let⟨g1,L,D⟩:=abp _ _ _ _ hs;simp only[bX]at g1 L D;exact⟨⟨x,m1,y,m2,rfl,rfl,h1,h2⟩,L,λq=>by rw[D];simp,λnp hi=>Bh A.1 np hi,WE i A.2⟩
    .cases hm
   .cases hm
  .cases hm
 .cases hm
mutual
def yp {g:Nat->Nat} {h:aY}:∀(p:PV) (l:Y TV) (x:p.ty.den) (m:Nat) (r:Y TV),m_ g h p l=Z (x,m,r)->dN h m
 |.d T,l,x,m,r,hg=>xB 40 T l x m r hg
 |.P i q,l,x,m,r,hg|.qg i q z,l,x,m,r,hg|.ob i q,l,x,m,r,hg|.nr i q,l,x,m,r,hg|.qy q ps,l,x,m,r,hg|.I i,l,x,m,r,hg|.mp i,l,x,m,r,hg=>by
  simp only[m_]at hg;split at hg
  .split at hg
   .simp only[ah,aR]at hg;obtain⟨_,rfl,_⟩:=hg;exact dN.zero h
   .cases hg
  .cases hg
 |.nil,l,x,m,r,hg=>by
  simp only[m_]at hg;split at hg
  .simp only[ah,aR]at hg;obtain⟨_,rfl,_⟩:=hg;exact dN.zero h
  .cases hg
 |.emp,l,x,m,r,hg=>by
  simp only[m_]at hg;split at hg
  .simp only[ah,aR]at hg;obtain⟨_,rfl,_⟩:=hg;exact dN.zero h
  .simp only[ah,aR]at hg;obtain⟨_,rfl,_⟩:=hg;exact dN.zero h
  .cases hg
 |.agg ps,l,x,m,r,hg=>LX ps l x m r hg
def LX {g:Nat->Nat} {h:aY}:∀(ps:Y PV) (l:Y TV) (x:(PV.tyL ps).den) (m:Nat) (r:Y TV),CA g h ps l=Z (x,m,r)->dN h m
 |[],l,x,m,r,hg=>by
  simp only[CA,ah,aR]at hg;obtain⟨_,rfl,_⟩:=hg;exact dN.zero h
 |p::ps,l,x,m,r,hg=>by
  simp only[CA]at hg;split at hg
  .rename_i x1 m1 r1 h1;split at hg
   .rename_i x2 m2 r2 h2;simp only[ah,aR]at hg;obtain⟨_,rfl,_⟩:=hg;exact (yp p l x1 m1 r1 h1).or (LX ps r1 _ _ _ h2)
   .cases hg
  .cases hg
end
def atx {p:PV} {x:p.ty.den} (A:wM g h p u=Z (x,i)):dN h i:=by
 cases p with
 |d T=>exact adx A
 |agg D=>
  simp only[wM]at A;split at A
  .cases A
  .split at A
   .split at A
    next L m1 h1=>simp only[ah,aR]at A;obtain⟨_,rfl⟩:=A;exact LX D _ _ _ _ h1
    .cases A
   .cases A
 |_=>
  simp only[wM]at A;split at A
  next h1=>simp only[ah,aR]at A;obtain⟨_,rfl⟩:=A;exact yp _ _ _ _ _ h1
  .cases A
def TQ :∀(A:Y PV) (vs:Y TV) (x:(PV.tyL A).den) (m:Nat),Cz g h A vs=Z (x,m)->dN h m
 |[],[],x,m,z=>by obtain⟨_,rfl⟩:=z;exact dN.zero h
 |[],_::_,x,m,z|_::_,[],x,m,z=>by simp[Cz]at z
 |p::A,v::vs,x,m,z=>by
  simp[Cz]at z;split at z
  .rename_i x1 m1 h1;split at z
   next D m2 L=>obtain⟨_,rfl⟩:=z;exact (atx h1).or (TQ A vs D m2 L)
   .cases z
  .cases z
def aty {b:PB} {x:b.ty.den} (z:Fn g h i b=Z (x,j)):dN h j:=by
 cases b with
 |G ty A=>
  simp[Fn]at z;split at z
  .split at z
   .split at z
    next h1=>obtain⟨_,rfl⟩:=z;exact LX A _ _ _ _ h1
    .cases z
   .cases z
  .cases z
 |mp K V=>
  simp[Fn]at z;split at z
  .split at z
   .obtain⟨_,rfl⟩:=z;exact dN.zero h
   .cases z
  .cases z
 |qf=>simp[Fn,ah,aR]at z;obtain⟨_,rfl⟩:=z;exact dN.zero h
 |_=>
  simp[Fn]at z;split at z
  .split at z
   .split at z
    .obtain⟨_,rfl⟩:=z;exact dN.zero h
    .cases z
   .cases z
  .cases z
def TU :∀(bs:Y PB) (i:Nat) (x:(PB.tyL bs).den) (m:Nat),GZ g h i bs=Z (x,m)->dN h m
 |[],i,x,m,z=>by obtain⟨_,rfl⟩:=z;exact dN.zero h
 |b::r,i,x,m,z=>by
  simp[GZ]at z;split at z
  .rename_i L m1 h1;split at z
   next A m2 D=>obtain⟨_,rfl⟩:=z;exact (aty h1).or (TU r (i+1) A m2 D)
   .cases z
  .cases z
structure pG (t:Tm) (x:t.ty.den) (vs:List TV) (h1:aY) (l1:List (Option e_)):Prop where
 pv:rE M3 t.vs (US _ _ x)=Z vs
 pb:qU M3 t.bs (SE _ _ x)=Z l1
 len:l! l1=l! t.bs
 at_:∀i b,h1.get i=Z b↔l1[i]? =Z (Z b)
 ok:l8 h1 vs=J
 lt:rz (l! t.bs) vs=J
 G:∀i ty l,h1.get i=Z (.G ty l)->l8 h1 l=J/\rz (l! t.bs) l=J
 Q:∀i F a x,h1.get i=Z (.Q F a x)->a<l! t.bs
 nox:∀i F a x k p,h1.get i≠Z (.qd F a x k p)
def ajn (l:Y (M e_)) (i:Nat) (b:e_):(DP M3 0 l PT.leaf).get i=Z b↔l[i]? =Z (Z b):=by
 by_cases hi:i<l! l
 .obtain⟨c,z⟩:∃c,l[i]? =Z c:=⟨l[i],aG hi⟩
  have:=xH M3 l 0 PT.leaf (λa b _ _ e=>by simp[M3]at e;omega) i c z;rw[show M3 (0+i)=i from by simp only[M3];omega]at this;rw[this,z];cases c with
  |some b'=>simp
  |none=>simp[PT.get]
 .rw[xG M3 l 0 PT.leaf i (λk A=>by simp[M3];omega),c_ (by omega)];simp[PT.get]
def zD {t:Tm} {x:t.ty.den} {vs:Y TV} {h1:aY} (hi:Ee t x=Z (vs,h1)):∃D,pG t x vs h1 D:=by
 unfold Ee at hi;split at hi
 .rename_i L hus;split at hi
  .rename_i h hh;split at hi
   .rename_i z;simp[al]at z;simp[ah,aR]at hi;obtain⟨rfl,rfl⟩:=hi;unfold Rh at hh;split at hh
    .rename_i D A;simp[ah]at hh;refine ⟨D,hus,A,F9 _ _ _ _ A,λi b=>?_,z.1.1,z.1.2,λi ty l hil=>?_,λi F a x hil=>?_,λi F a x k p hil=>?_⟩
     .rw[<- hh];exact ajn D i b
     .have:=PT.get_all _ h 1 0 i _ z.2 hil
      grind
     .have:=PT.get_all _ h 1 0 i _ z.2 hil;simp_all
     .have:=PT.get_all _ h 1 0 i _ z.2 hil;cases this
    .cases hh
   .cases hi
  .cases hi
 .cases hi
def Rj (z:Nat) (n:Nat):Bool:=eE (ow n) z
def F_ :Rj i j=J↔ow j<i:=⟨λh=>aU h,λh=>a_ h⟩
def Dk {k:Nat}:Rj j (jR i k)=J↔i<j:=by rw[F_,iS]
def Ig :Rj j (nm i)=J↔i<j:=by
 rw[F_,di]
def Vn (h:j<i) (id sz n:Nat):(uM j id sz n).all (Rj i)=J:=by
 unfold uM;split
 .rfl
 .exact Dk.2 h
def ap8 {s:Sb} (h:s.id<i):(Ld s).all (Rj i)=J:=by
 cases s with
 |nr id j sz n=>exact Vn h _ _ _
 |nl=>rfl
 |_=>exact Dk.2 h
mutual
def atr {nb:Nat} {h:aY}:∀(v:TV) (y:AV),JF nb v=J->bW h v=Z y->y.all (Rj nb)=J
 |.f _ _,y,_,he|.zf _ _ _ _ _,y,_,he=>by simp[bW,ah]at he;subst he;rfl
 |.zj id _ _ _,y,hl,he|.P id _,y,hl,he|.qg id _ _,y,hl,he=>by simp[bW,ah]at he;subst he;exact Ig.2 (aU hl)
 |.I id,y,hl,he=>by
  simp[bW]at he;split at he
  .simp[ah]at he;subst he;unfold dA;split
   .rfl
   .exact Ig.2 (aU hl)
  .cases he
 |.zh id jj,y,hl,he=>by
  simp[bW]at he;split at he
  .simp[ah]at he;subst he;exact Ig.2 (aU hl)
  .cases he
 |.emp,y,_,he|.nil,y,_,he=>by simp[bW,ah]at he;subst he;rfl
 |.mp id,y,hl,he=>by simp[bW,ah]at he;subst he;exact Ig.2 (aU hl)
 |.agg l,y,hl,he|.qb l,y,hl,he|.qy q l,y,hl,he=>by
  simp[bW]at he;split at he
  .rename_i l' hl';simp[ah]at he;subst he;exact vC l l' hl hl'
  .cases he
 |.undef,y,_,he|.np,y,_,he|.qw,y,_,he|.qc _ _,y,_,he=>by simp[bW,ah]at he;subst he;rfl
 |.sb s,y,hl,he=>by simp[bW,ah]at he;subst he;exact ap8 (aU hl)
def vC {nb:Nat} {h:aY}:∀(l:Y TV) (l':Y AV),rz nb l=J->cN h l=Z l'->AV.allL (Rj nb) l'=J
 |[],l',_,he=>by simp[cN,ah]at he;subst he;rfl
 |x::r,l',hl,he=>by
  obtain⟨y,l2,rfl,e1,e2⟩:=c6 he;simp[rz,al]at hl;simp[AV.allL,al];exact⟨atr x y hl.1 e1,vC r l2 hl.2 e2⟩
end
def DE :∀{l:Y AV},(∀x∈l,x.all p=J)->AV.allL p l=J
 |[],_=>rfl
 |x::r,h=>by
  simp[AV.allL,al];exact⟨h x (cX ..),DE λy z=>h y (bS _ z)⟩
def Re (h:j<i) (sz:Nat):∀(D:η) (k:Nat),∀x∈l7 j sz k D,x.all (Rj i)=J
 |[],_,x,z=>by cases z
 |l::r,k,x,z=>by
  rcases aV.1 z with rfl|z
  .exact Vn h _ _ _
  .exact Re h sz r (k+1) x z
def akp (h:j<i) {F:uF} {x:F.ty.den} (A:ux j F x=Z N):N.c.all (Rj i)=J:=by
 cases F with
 |qn ty=>
  simp only[ux]at A;split at A
  .cases A
  .simp[ah]at A;subst A;refine DE λz D=>?_
   obtain⟨a,_,rfl⟩:=cz.1 D;exact Dk.2 h
 |qr=>
  simp[ux,ah]at A;subst A;refine DE λz D=>?_
  obtain⟨q,hq,rfl⟩:=cz.1 D;obtain⟨e,_,rfl⟩:=cz.1 hq;exact Dk.2 h
 |rr ty sz=>
  simp[ux,ah]at A;subst A;exact DE (Re h sz x 0)
 |_=>cases A
def akn (h:i<j) (k:Nat) (ty:TypeId) (S:Ty) (o:C_ S):(wP i k ty S o).c.all (Rj j)=J:=by
 unfold wP;split
 .refine DE λz A=>?_
  rcases bO.1 A with A|A
  .obtain⟨q,_,rfl⟩:=cz.1 A;rfl
  .rcases aV.1 A with rfl|A
   .exact Dk.2 h
   .rw[aE.1 A];exact Dk.2 h
 .refine DE λz A=>?_
  obtain⟨q,L,rfl⟩:=cz.1 A;obtain⟨e,_,rfl⟩:=cz.1 L;rfl
def ako (h:i<j) {k:Nat} {F:uF} {x:F.ty.den} (A:Lc i k F x=Z N):N.c.all (Rj j)=J:=by
 cases F with
 |ar ty S=>
  obtain⟨o,_,rfl⟩:=gy.1 A;exact akn h k ty S o
 |ir ty T=>
  let⟨o,_,z⟩:=Option.bind_eq_some_iff.1 A;unfold ZO at z;split at z
  .cases z
  .cases z;rfl
 |_=>cases A
def pG.blk_all {t:Tm} {x:t.ty.den} {l1:Y (M e_)} (I:pG t x m h l1) {b:e_} (D:h.get i=Z b) (A:kJ h b=Z N):N.c.all (Rj (l! t.bs))=J:=by
 cases b with
 |H ty p T xs=>
  simp only[kJ]at A;split at A
  .cases A
  .simp[ah]at A;subst A;rfl
 |G ty l=>
  cases ty with
  |some ty=>
   simp[kJ]at A;split at A
   next l' L=>simp[ah]at A;subst A;exact vC l l' (I.G i _ l D).2 L
   .cases A
  |none=>
   simp[kJ]at A;split at A
   next l' L=>simp[ah]at A;subst A;rfl
   .cases A
 |qj p sz n=>cases A
 |mp K V es=>
  simp[kJ,ah]at A;subst A;unfold mpC;split
  .rfl
  .simp[BC.all,kX];have key:∀l:Y (K.den×V.den),AV.allL (Rj (l! t.bs)) (l.map ((λx=>x.2)∘λp=>(rj K p.1,AV.f (gr V p.2))))=J:=λl=>by
    induction l with
    |nil=>rfl
    |cons e r ih=>simp[b9,AV.allL,al];exact⟨rfl,ih⟩
   exact key es
 |Q F a z=>exact akp (I.Q i F a z D) A
 |qd F a z k p=>exact cu D (I.nox i F a z k p)
def pG.lt_len {t:Tm} {x:t.ty.den} {z:Y (M e_)} (I:pG t x m h z) {b:e_} (A:h.get i=Z b):i<l! t.bs:=by
 rw[<- I.len];exact (bC.1 ((I.at_ i b).1 A)).1
def φ1 (z:Nat) (g:Nat->Nat) (φ:PM):PM:=λn=>if Rj z n then φ (pJ g n) else U
def aho (hi:ow j<i):φ1 i g V j=V (pJ g j):=by
 unfold φ1;rw[aD (F_.2 hi)]
def Ar {k:Nat} (h:φ1 i g V j=Z k):ow j<i/\V (pJ g j)=Z k:=by
 unfold φ1 at h;split at h
 next hp=>exact⟨F_.1 hp,h⟩
 .cases h
def ap2 (inj:∀a b,a<i->b<i->g a=g b->a=b) {A:Nat} (h:ow j<i) (h':ow A<i) (e:pJ g j=pJ g A):j=A:=by
 let⟨D,e2⟩:=vy e;rw[<- kZ j,<-kZ A,inj _ _ h h' D,e2]
def pG.erHF {t:Tm} {x:t.ty.den} {l1:Y (M e_)} (I:pG t x m h l1) (hn:AI.erHF h i=Z N):ow i<l! t.bs/\N.c.all (Rj (l! t.bs))=J:=by
 let⟨c,D,A⟩:=iX hn;have hi:=I.lt_len D;refine ⟨hi,?_⟩;cases L:ix i with
 |zero=>rw[L]at A;exact I.blk_all D A
 |succ k=>
  rw[L]at A;cases c with
  |Q F a z=>exact ako hi A
  |qd F a z k p=>exact cu D (I.nox _ F a z k p)
  |_=>cases A
structure aqa (t:Tm) (x:t.ty.den) (vs:List TV) (h1:aY) (g:Nat->Nat) (φ:PM) (E E':Nat->Prop) (Hv:HF) (w:World):Prop where
 zq:sC (φ1 (l! t.bs) g φ) E' (erHF h1) w
 val:∀x v,x.all (Rj (l! t.bs))=J->co φ (tot E φ Hv) w (x.qx (pJ g)) v->co (φ1 (l! t.bs) g φ) (tot E' (φ1 (l! t.bs) g φ) (erHF h1)) w x v
 ql:∀k,own (φ1 (l! t.bs) g φ) (erHF h1) k->own φ Hv k
 tot_:∀k,tot E' (φ1 (l! t.bs) g φ) (erHF h1) k->tot E φ Hv k
def sC.toId {t:Tm} {x:t.ty.den} {l1:Y (M e_)} (I:pG t x m h l1) (inj:∀a b,a<l! t.bs->b<l! t.bs->g a=g b->a=b) {E':Nat->Prop} (r:sC V O S w)
 (hat:∀n y,AI.erHF h n=Z y->S (pJ g n)=Z (y.qx (pJ g)))
 (hE:∀k,E' k->tot O V S k) (hne:∀n k y,AI.erHF h n=Z y->V (pJ g n)=Z k->¬E' k) (hel:∀k,E' k->k<w.heap.size):aqa t x m h g V O E' S w:=by
 have own1:∀k,own (φ1 (l! t.bs) g V) (erHF h) k->own V S k:=by
  rintro k ⟨n,y,L,h3⟩;let⟨hi,D⟩:=Ar h3;exact⟨pJ g n,_,hat n y L,D⟩
 have tot1:∀k,tot E' (φ1 (l! t.bs) g V) (erHF h) k->tot O V S k:=λk z=>z.elim (hE k) λh1=>.inr (own1 k h1)
 have val:∀x v,x.all (Rj (l! t.bs))=J->co V (tot O V S) w (x.qx (pJ g)) v->co (φ1 (l! t.bs) g V) (tot E' (φ1 (l! t.bs) g V) (erHF h)) w x v:=λx v hx hr=>by
  have L:co (φ1 (l! t.bs) g V) (tot O V S) w x v:=co.renFrom (λi k hp z=>by unfold φ1;rw[aD hp];exact z) hr x hx rfl;exact L.ext (λ_ _ h1=>h1) (H4.refl _ w) λk _ z=>tot1 k z
 refine ⟨⟨λn n' b b' k A g2 g3 g4=>?_,λn y A=>?_,hel,λg' cells hg=>(r.gl g' cells hg).ext (H4.refl _ w) λk _ z=>tot1 k z⟩,val,own1,tot1⟩
 .obtain⟨hi,D⟩:=Ar g3;let⟨hj,h5⟩:=Ar g4;exact ap2 inj hi hj (r.inj _ _ _ _ k (hat n _ A) (hat n' _ g2) D h5)
 .obtain⟨hi,hall⟩:=I.erHF A;let⟨k,p1,p2,ob,p3,p4⟩:=r.at_ _ _ (hat n y A);exact⟨k,by rw[aho hi];exact p1,hne n k y A p1,ob,p3,im.renFrom val hall p4⟩
def BM.view {hv:aY} {Hz':HF} (d:rC S Hz') (gv:Fy h S Hz' i) (hr:Bo hv h) {b0 c:e_} (hb:BM g h i b0 c) {y':kG} (e0:kJ h b0=Z N) (z:kJ hv c=Z y'):gu S Hz' N y':=by
 cases hb with
 |H ty p T xs=>
  simp only[kJ]at e0 z;rw[e0]at z;cases z;exact gu.refl d N
 |G ty ps x l L m' hg hp hm=>
  have key:∀l' cs',cN h l=Z l'->cN hv L=Z cs'->hP S Hz' l' cs'/\∀x∈cs',x.isCell=J:=λl' cs' D A=>by
   let⟨l1,l3,q1,q2,q3⟩:=GY d hr ps l x m' [] L l' cs' hg hp D A λm hi=>gv m (hm m hi)
   simp[cN,ah]at q2;subst q2;rw[jU]at q1;subst q1;exact⟨q3,nj (t8 A (Aw ps x L hp))⟩
  cases ty with
  |some ty=>
   simp[kJ]at e0 z;split at e0
   .rename_i l' D;simp[ah]at e0;subst e0;split at z
    next cs' A=>simp[ah]at z;subst z;exact gu.G rfl rfl (key _ _ D A).1 (key _ _ D A).2
    .cases z
   .cases e0
  |none=>
   simp[kJ]at e0 z;split at e0
   .rename_i l' D;simp[ah]at e0;subst e0;split at z
    next cs' A=>simp[ah]at z;subst z;exact gu.none
    .cases z
   .cases e0
 |_=>
  simp[kJ]at e0 z;rw[e0]at z;cases z;exact gu.refl d N
def BM.erB_some {D:aY} {m:Nat} (hinv:hX h j) {b0 c:e_} (h0:h.get i=Z b0) (hb:BM g h m b0 c) (A:kJ D c=Z N):∃y,kJ h b0=Z y:=by
 cases hb with
 |G ty ps x l l2 m' hg hp hm=>
  let⟨l',L⟩:=fI h l (hinv.G i _ l h0);cases ty<;>exact⟨_,by simp[kJ,L];rfl⟩
 |_=>exact⟨N,A⟩
def BM.mem {b0 c:e_} (z:BM g h i b0 c) (m k:Nat):w_ m k b0=w_ m k c:=by cases z<;>rfl
def BM.I {b0 c:e_} (z:BM g h i b0 c):iN c=iN b0:=by
 cases z<;>rfl
structure rx (P:Program) (f:FuncId) (c:cw):Prop where
 zg:HW P f
 calls:∀x y,c.m x=Z y->∀vs hp l1 rs hq l2 la lr,pG c.pre x vs hp l1->pG c.post y rs hq l2->cN hp vs=Z la->cN hq rs=Z lr->
  ∀(φ:PM) (E:Nat->Prop) (w:World) (us:ξ),sC φ E (erHF hp) w->lY φ (tot E φ (erHF hp)) w la us->(∀n k,φ n=Z k->ow n<l! c.pre.bs)->
  Calls P f us.toArray w λen w'=>∃v φ',en= .returned v/\H4 (own φ (erHF hp)) w w'/\(∀k,k<w.heap.size->own φ' (erHF hq) k->own φ (erHF hp) k)/\(∀n,ow n<l! c.pre.bs->φ' n=φ n)/\sC φ' E (erHF hq) w'/\co φ' (tot E φ' (erHF hq)) w' (FP lr) v
def Rn :∀(bs:Y PB) (x:(PB.tyL bs).den) (l:Y (M e_)),E5 bs=J->qU g bs x=Z l->∀(i:Nat) (c:M e_),l[i]? =Z c->∃b,c=Z b
 |[],x,l,_,hp,i,c,A=>by simp[qU,ah]at hp;subst hp;simp at A
 |b::r,x,l,D,hp,i,c,A=>by
  simp[qU]at hp;split at hp
  .rename_i a z;split at hp
   .rename_i q L;simp[ah]at hp;subst hp;cases i with
    |zero=>
     simp at A;subst A;cases b with
     |qf=>simp[E5]at D
     |G ty ps=>
      simp[DH]at z
      grind
     |_=>simp[DH,ah]at z;exact⟨_,z.symm⟩
    |succ i=>
     refine Rn r _ q ?_ L i c (by grind);cases b<;>first|exact D|simp[E5]at D
   .cases hp
  .cases hp
def Jt {A:aY} :∀n,vX h A g n=J->∀i,i<n->∀r,eQ h (g i)=Z r->eQ A (g i)=Z r
 |0,_,i,hi,_,_=>by omega
 |n+1,z,i,hi,r,D=>by
  simp[vX,al]at z;by_cases e:i=n
  .subst e;let⟨p,s,k⟩:=r;have h1:=z.1;rw[D]at h1;cases L:eQ A (g i) with
   |none=>rw[L]at h1;cases h1
   |some q=>simp_all
  .exact Jt n z.2 i (by omega) r D
def lY.le {H':HF} (r:sC V O S w):∀{l l':Y AV} {z:ξ},hP S H' l l'->lY V (tot O V S) w l z->lY V (tot O V H') w l' z
 |[],[],[],_,_=>trivial
 |[],[],_::_,_,h|_::_,_::_,[],_,h|[],_::_,_,h,_|_::_,[],_,h,_=>h.elim
 |_::_,_::_,_::_,A,h=>⟨A.1 _ _ _ _ r h.1,lY.le r A.2 h.2⟩
def lY.toId {φ':PM} {O':Nat->Prop} (A:∀x v,x.all p=J->co V O w (x.qx g) v->co φ' O' w x v):∀{l:Y AV} {z:ξ},AV.allL p l=J->lY V O w (AV.renL g l) z->lY φ' O' w l z
 |[],[],_,_=>trivial
 |[],_::_,_,h|_::_,[],_,h=>h.elim
 |_::_,_::_,hp,h=>by
  simp[AV.allL,al]at hp;exact⟨A _ _ hp.1 h.1,lY.toId A hp.2 h.2⟩
def abw :∀{A:Y TV} {z:Y AV},cN h A=Z z->bW h (Vo A)=Z (FP z)
 |[],z,he=>by simp[cN,ah]at he;subst he;rfl
 |[x],z,he=>by
  obtain⟨y,L,rfl,D,e2⟩:=c6 he;simp[cN,ah]at e2;subst e2;exact D
 |x::y::r,z,he=>by
  obtain⟨y1,L,rfl,D,e2⟩:=c6 he;obtain⟨y2,l3,rfl,e3,e4⟩:=c6 e2;simp[Vo,bW,he,FP]
def ahz (γ:Nat->Nat):∀l:Y AV,FP (AV.renL γ l)=(FP l).qx γ
 |[]|[x]|x::y::r=>rfl
def U1 :∀{l:Y AV},AV.allL p l=J->(FP l).all p=J
 |[],_=>rfl
 |[x],h=>by simp only[AV.allL,al]at h;exact h.1
 |x::y::r,h=>h
def aob {q:Nat}:aL (((1<<<j)-1)<<<i) q=J↔i<=q/\q<i+j:=by
 rw[Nat.testBit_shiftLeft,Nat.one_shiftLeft,Nat.testBit_two_pow_sub_one]
 grind
def ao9 (l:ι) (B:Nat):ι:=l.flatMap λi=>(eA (B+1)).map λk=>jR i k
def VS {l:ι} :j∈ao9 l i↔ow j∈l/\ix j<=i:=by
 unfold ao9;rw[xp];constructor
 .rintro⟨B,hi,z⟩;obtain⟨k,A,rfl⟩:=cz.1 z;rw[oR]at A;rw[iS,wF];exact⟨hi,by omega⟩
 .rintro⟨h1,D⟩;exact⟨ow j,h1,cz.2 ⟨ix j,oR.2 (by omega),kZ j⟩⟩
mutual
def AV.all_and {p q:Nat->Bool}:∀x:AV,x.all p=J->x.all q=J->x.all (λn=>p n&&q n)=J
 |.f _,_,_=>rfl
 |.P _ _,h1,h2|.sl _ _ _,h1,h2|.I _ _ _,h1,h2|.mp _,h1,h2=>by simp only[AV.all]at h1 h2 ⊢;rw[h1,h2];rfl
 |.emp,_,_|.qw,_,_|.qc _ _,_,_=>rfl
 |.agg l,h1,h2|.qb l,h1,h2|.qy _ l,h1,h2=>AV.allL_and l h1 h2
def AV.allL_and {p q:Nat->Bool}:∀l:Y AV,AV.allL p l=J->AV.allL q l=J->AV.allL (λn=>p n&&q n) l=J
 |[],_,_=>rfl
 |x::r,h1,h2=>by
  simp[AV.allL,al]at h1 h2 ⊢;exact⟨AV.all_and x h1.1 h2.1,AV.allL_and r h1.2 h2.2⟩
end
def BC.all_and {q:Nat->Bool} {c:BC} (h1:c.all p=J) (z:c.all q=J):c.all (λn=>p n&&q n)=J:=by
 cases c with
 |mx l=>exact AV.allL_and l h1 z
 |mp es=>exact AV.allL_and _ h1 z
 |_=>rfl
def Yy (B n:Nat):Bool:=dR (ix n) B
def Gv {n:Nat} (h:i<=j) (z:Yy i n=J):Yy j n=J:=a_ (c9 (aU z) h)
mutual
def AV.all_ix {B B':Nat} (h:B<=B'):∀x:AV,x.all (Yy B)=J->x.all (Yy B')=J
 |.f _,_=>rfl
 |.P _ _,h1|.sl _ _ _,h1|.I _ _ _,h1|.mp _,h1=>Gv h h1
 |.emp,_|.qw,_|.qc _ _,_=>rfl
 |.agg l,h1|.qb l,h1|.qy _ l,h1=>AV.allL_ix h l h1
def AV.allL_ix {B B':Nat} (h:B<=B'):∀l:Y AV,AV.allL (Yy B) l=J->AV.allL (Yy B') l=J
 |[],_=>rfl
 |x::r,h1=>by
  simp[AV.allL,al]at h1 ⊢;exact⟨AV.all_ix h x h1.1,AV.allL_ix h r h1.2⟩
end
mutual
def AV.ix_ex:∀x:AV,∃B,x.all (Yy B)=J
 |.f _=>⟨0,rfl⟩
 |.P n _|.sl n _ _|.I n _ _|.mp n=>⟨ix n,a_ (bK _)⟩
 |.emp|.qw|.qc _ _=>⟨0,rfl⟩
 |.agg l|.qb l|.qy _ l=>AV.ixL_ex l
def AV.ixL_ex:∀l:Y AV,∃B,AV.allL (Yy B) l=J
 |[]=>⟨0,rfl⟩
 |x::r=>by
  obtain⟨a,ha⟩:=AV.ix_ex x;obtain⟨b,hb⟩:=AV.ixL_ex r;exact⟨a+b,by simp[AV.allL,al];exact⟨AV.all_ix (by omega) x ha,AV.allL_ix (by omega) r hb⟩⟩
end
def BC.ix_ex (c:BC):∃B,c.all (Yy B)=J:=by
 cases c with
 |mx l=>exact AV.ixL_ex l
 |mp es=>exact AV.ixL_ex _
 |_=>exact⟨0,rfl⟩
def BC.all_ix (h:i<=j) {c:BC} (h1:c.all (Yy i)=J):c.all (Yy j)=J:=by
 cases c with
 |mx l=>exact AV.allL_ix h l h1
 |mp es=>exact AV.allL_ix h _ h1
 |_=>rfl
def LW (h:aY):∃B,∀n y,erHF h n=Z y->ix n<=B/\y.c.all (Yy B)=J:=by
 let⟨A,hM⟩:=acn h;have key:∀a:Nat,∃B,∀n y,n<a->erHF h n=Z y->y.c.all (Yy B)=J:=by
  intro a;induction a with
  |zero=>exact⟨0,λn y hn=>by omega⟩
  |succ a ih=>
   let⟨B,hB⟩:=ih;cases hx:erHF h a with
   |none=>exact⟨B,λn y hn D=>by
     by_cases e:n=a
     .grind
     .exact hB n y (by omega) D⟩
   |some z=>
    let⟨C,hC⟩:=BC.ix_ex z.c;exact⟨B+C,λn y hn D=>by
     by_cases e:n=a
     .subst e;rw[hx]at D;cases D;exact BC.all_ix (by omega) hC
     .exact BC.all_ix (by omega) (hB n y (by omega) D)⟩
 let⟨H,hH⟩:=gJ h;let⟨L,hL⟩:=PT.bound H;let⟨B,hB⟩:=key L;refine ⟨A+B,λn y D=>⟨c9 (ap9 hM D) (by omega),BC.all_ix (by omega) (hB n y ?_ D)⟩⟩;rcases cF n L with h1|h1
 .exact h1
 .simp_all
variable {f:FuncId}
def alk {o:Oper} {e:ii} {c:cw} (hinv:hX h i) (sp:rx T f c) {x:c.pre.ty.den} {l:Nat} {σ:PT Nat} (A:L8 0 c.pre m h x l σ j) {vs:Y TV} {hp:aY} {l1:Y (M e_)} (I:pG c.pre x vs hp l1) (hng:E5 c.pre.bs=J) {y:c.post.ty.den} (hm:c.m x=Z y) {rs:Y TV} {hq:aY} {l2:Y (M e_)} (D:pG c.post y rs hq l2) (hle:l! c.pre.bs<=l! c.post.bs)
 (glo:∀nx,nx<l! c.pre.bs->g nx=iz σ nx) (ghi:∀nx,l! c.pre.bs<=nx->g nx=i+(nx-l! c.pre.bs)) {h2:aY} (hh2:h2=DP g 0 (l2.map (io (lj g))) (dP l h)) (hsr:vX h h2 g (l! c.pre.bs)=J) (hla:cN h m=Z r)
 (hexec:∀(φ:PM) (E:Nat->Prop) (h':HF) (w:World) (a:Act),(∀t,.tmp t∈o.op.operands->∀y,fR e h t=Z y->co φ (tot E φ h') w y (a.tmps.getD t undef))->sC φ E h' w->∃us:ξ,(execOp a.eval o).run T w= .ok (.enter f us.toArray) w/\lY φ (tot E φ h') w r us):
 fw T o af e h i (Vo (lH g rs)) (j|||l) (j|||l|||(((1<<<(l! c.post.bs-l! c.pre.bs))-1)<<<i)) h2 (i+(l! c.post.bs-l! c.pre.bs)):=by
 let⟨x1,m1,x2,m2,hx,hmm,gv,gb⟩:=A.ex;have hmr:dN h l:=by rw[hmm];exact (TQ _ _ _ _ gv).or (TU _ _ _ _ gb)
 generalize hnp:l! c.pre.bs=np at*
 generalize hnq:l! c.post.bs=nq at*
 have pvg:rE (iz σ) c.pre.vs x1=Z (lH (iz σ) vs):=by
  have h3:=vM (iz σ) c.pre.vs x1;have h4:=I.pv;rw[hx,vF]at h4;rw[h3,h4];rfl
 have pbg:qU (iz σ) c.pre.bs x2=Z (l1.map (io (lj (iz σ)))):=by
  have h3:=yT (iz σ) c.pre.bs x2;have h4:=I.pb;rw[hx,xy]at h4;rw[h3,h4];rfl
 have hl1:∀nx,nx<np->∃b,l1[nx]? =Z (Z b):=λnx hi=>by
  have hi':nx<l! l1:=by rw[I.len,hnp];exact hi
  let⟨b,L⟩:=Rn c.pre.bs _ l1 hng I.pb nx l1[nx] (aG hi');exact⟨b,by rw[aG hi',L]⟩
 have hbm:∀nx b,l1[nx]? =Z (Z b)->∃b0,h.get (iz σ nx)=Z b0/\BM (iz σ) h l b0 (lj (iz σ) b):=λnx b L=>by
  let⟨b0,q1,q2⟩:=Nu c.pre.bs 0 x2 m2 _ gb pbg nx (lj (iz σ) b) (by rw[bB,L];rfl);rw[bX]at q1;exact⟨b0,q1,q2.mono λsm hj=>by rw[hmm,bu,hj];simp⟩
 have inj1:∀a b,a<np->b<np->iz σ a=iz σ b->a=b:=λa b ha L=>A.inj a b (by rw[hnp];exact ha) (by rw[hnp];exact L)
 have sig:∀q,aL j q=J↔∃k,k<np/\iz σ k=q:=λq=>by rw[A.sig,hnp]
 have gnx:∀nx,nx<np->iz σ nx<i:=λnx hi=>by
  let⟨b,L⟩:=hl1 nx hi;let⟨b0,q1,_⟩:=hbm nx b L;exact hinv.low _ _ q1
 have hmS:∀nx,nx<np->aL l (iz σ nx)=af:=λnx hi=>by
  cases hx:aL l (iz σ nx) with
  |false=>rfl
  |true=>have:=A.disj _ hx;rw[(sig _).2 ⟨nx,hi,rfl⟩]at this;cases this
 have injg:∀a b,a<nq->b<nq->g a=g b->a=b:=λa b ha L hab=>by
  by_cases h1:a<np
  .by_cases h2:b<np
   .rw[glo a h1,glo b h2]at hab;exact inj1 a b h1 h2 hab
   .rw[glo a h1,ghi b (by omega)]at hab;have:=gnx a h1;omega
  .by_cases h2:b<np
   .rw[ghi a (by omega),glo b h2]at hab;have:=gnx b h2;omega
   .rw[ghi a (by omega),ghi b (by omega)]at hab;omega
 let hv:aY:=DP (iz σ) 0 (l1.map (io (lj (iz σ)))) (dP l h)
 have hv_at:∀nx b,l1[nx]? =Z (Z b)->hv.get (iz σ nx)=Z (lj (iz σ) b):=λnx b L=>by
  have:=xH (iz σ) (l1.map (io (lj (iz σ)))) 0 (dP l h) (λa b ha L=>by
   simp only[bM,I.len,hnp]at ha L;simp only[bX];exact inj1 a b ha L) nx (Z (lj (iz σ) b)) (by rw[bB,L];rfl)
  rw[bX]at this;exact this
 have hv_ne:∀sm,(∀nx,nx<np->sm≠iz σ nx)->hv.get sm=(dP l h).get sm:=λsm hj=>
  xG (iz σ) _ 0 _ sm λk hk=>by
   simp only[bM,I.len,hnp]at hk;rw[bX];exact hj k hk
 have rows_in:Bo hv h:=λsm la hr=>by
  rw[bA]at hr ⊢;by_cases hj:∃nx,nx<np/\sm=iz σ nx
  .obtain⟨nx,hi,rfl⟩:=hj;let⟨b,L⟩:=hl1 nx hi;let⟨b0,q1,q2⟩:=hbm nx b L;rw[hv_at nx b L]at hr;rw[q1];simp only[aF]at hr ⊢;rw[<- q2.I];exact hr
  .rw[hv_ne sm (λnx hi e=>hj ⟨nx,hi,e⟩),iW]at hr;split at hr
   next ht=>let⟨ty,p,P,xs,L⟩:=hmr sm ht;rw[L]at hr ⊢;exact hr
   .exact hr
 have rows_hp:∀nx la,eQ hp nx=Z la->eQ hv (iz σ nx)=Z la:=λnx la hr=>by
  rw[bA]at hr ⊢;cases L:hp.get nx with
  |none=>rw[L]at hr;cases hr
  |some b=>
   rw[L]at hr;rw[hv_at nx b ((I.at_ nx b).1 L)];simp only[aF,Mm]at hr ⊢;exact hr
 have dead_m:∀nx,aL l nx=J->erHF hv (nm nx)=U:=λnx hi=>by
  rw[bJ,hv_ne nx (λk hk e=>by rw[e,hmS k hk]at hi;cases hi)];let⟨p,sz,n,hd⟩:=vR hmr hi;rw[hd];rfl
 have h2_at:∀nx cc,l2[nx]? =Z cc->h2.get (g nx)=(match cc with|some b=>Z (lj g b)|none=>((dP l h).get (g nx)).map vg):=λnx cc hc=>by
  have:=xH g (l2.map (io (lj g))) 0 (dP l h) (λa b ha L=>by
   simp only[bM,D.len,hnq]at ha L;simp only[bX];exact injg a b ha L) nx (cc.map (lj g)) (by rw[bB,hc];rfl)
  rw[bX]at this;rw[hh2,this];cases cc<;>rfl
 have h2_ne:∀sm,(∀nx,nx<nq->sm≠g nx)->h2.get sm=(dP l h).get sm:=λsm hj=>by
  rw[hh2];refine xG g _ 0 _ sm λk hk=>?_
  simp only[bM,D.len,hnq]at hk;rw[bX];exact hj k hk
 have rows_hq:∀nx la,eQ hq nx=Z la->eQ h2 (g nx)=Z la:=λnx la hr=>by
  rw[bA]at hr ⊢;cases L:hq.get nx with
  |none=>rw[L]at hr;cases hr
  |some b=>
   rw[L]at hr;rw[h2_at nx _ ((D.at_ nx b).1 L)];simp only[aF,Mm]at hr ⊢;exact hr
 have rows2:bV h h2:=λsm la hr=>by
  by_cases hj:∃nx,nx<np/\sm=iz σ nx
  .obtain⟨nx,hi,rfl⟩:=hj;rw[<- glo nx hi]at hr ⊢;exact Jt np hsr nx hi la hr
  .have hjn:sm<i:=by
    rw[bA]at hr;cases L:h.get sm with
    |none=>rw[L]at hr;cases hr
    |some b=>exact hinv.low sm b L
   have:=bV.kill l h sm la hr;rw[bA]at this ⊢;rw[h2_ne sm (λnx hi e=>?_)]
   .exact this
   .by_cases hip:nx<np
    .exact hj ⟨nx,hip,by rw[e,glo nx hip]⟩
    .rw[ghi nx (by omega)]at e;omega
 let⟨lr,hlr⟩:=fI hq rs D.ok;let⟨lp,hlp⟩:=fI hp vs I.ok;have er2:∀n yb,erHF hq n=Z yb->erHF h2 (pJ g n)=Z (yb.qx (pJ g)):=λn yb hn=>by
  let⟨b,L,hyb⟩:=iX hn;unfold erHF;rw[yd,AL,h2_at _ _ ((D.at_ _ b).1 L)];exact Dw rows_hq hyb
 have er2':∀n,ow n<nq->∀z,erHF h2 (pJ g n)=Z z->∃yb,erHF hq n=Z yb/\z=yb.qx (pJ g):=λn hi z hz=>by
  have hi':ow n<l! l2:=by rw[D.len,hnq];exact hi
  have hcc:=aG hi';unfold erHF at hz;rw[yd,AL]at hz;cases hcv:l2[ow n] with
  |none=>
   rw[hcv]at hcc;rw[h2_at _ U hcc]at hz;simp only at hz;cases hkg:(dP l h).get (g (ow n)) with
   |none=>rw[hkg]at hz;cases hz
   |some b0=>rw[hkg]at hz;exact (aku hz).elim
  |some b=>
   rw[hcv]at hcc;have L:=(D.at_ _ b).2 hcc;rw[h2_at _ (Z b) hcc]at hz;have hz:PC h2 (g (ow n)) (ix n) (lj g b)=Z z:=hz;have hyb:∃yb,PC hq (ow n) (ix n) b=Z yb:=by
    cases hk:ix n with
    |zero=>
     rw[hk]at hz;cases b with
     |H ty p P xs=>exact⟨z,hz⟩
     |G ty q=>
      let⟨q',hq'⟩:=fI hq q (D.G _ _ q L).1;cases ty<;>exact⟨_,by simp only[PC,kJ,hq'];rfl⟩
     |qj p sz n=>cases hz
     |mp K V es=>exact⟨_,rfl⟩
     |Q F a x=>
      simp only[PC,lj,kJ,WL]at hz;let⟨y,hy,_⟩:=gy.1 hz;exact⟨y,hy⟩
     |qd F a x k p=>exact cu L (D.nox _ F a x k p)
    |succ k=>
     rw[hk]at hz;simp only[PC,VU]at hz;let⟨y,hy,_⟩:=gy.1 hz;exact⟨y,hy⟩
   let⟨yb,hyb⟩:=hyb;rw[Dw rows_hq hyb]at hz;refine ⟨yb,?_,by cases hz;rfl⟩;unfold erHF;rw[L];exact hyb
 have dead2:∀nx,aL l nx=J->erHF h2 (nm nx)=U:=λnx hi=>by
  have hlt:=hmr.lt hinv hi;rw[bJ,h2_ne nx (λk hk e=>?_)]
  .obtain⟨p,sz,n,hd⟩:=vR hmr hi;rw[hd];rfl
  .by_cases hkp:k<np
   .rw[e,glo k hkp,hmS k hkp]at hi;cases hi
   .rw[ghi k (by omega)]at e;omega
 have inv2:hX h2 (i+(nq-np)):=by
  refine ⟨λsm ty q hj=>?_,λsm b hj=>?_⟩
  .by_cases hjg:∃nx,nx<nq/\sm=g nx
   .obtain⟨nx,hi,rfl⟩:=hjg;have hi':nx<l! l2:=by rw[D.len,hnq];exact hi
    have hcc:=aG hi';cases hcv:l2[nx] with
    |none=>
     rw[hcv]at hcc;rw[h2_at nx U hcc]at hj;simp only at hj;cases hkg:(dP l h).get (g nx) with
     |none=>rw[hkg]at hj;cases hj
     |some b0=>rw[hkg]at hj;exact (Cn (fV hj)).elim
    |some b=>
     rw[hcv]at hcc;have L:=(D.at_ nx b).2 hcc;rw[h2_at nx (Z b) hcc]at hj;simp only[ah]at hj;cases b with
     |G ty' q'=>
      simp only[lj,e_.G.injEq]at hj;obtain⟨_,rfl⟩:=hj;let⟨z,hz⟩:=fI hq q' (D.G nx _ q' L).1;exact mf _ _ _ (qB rows_hq q' z hz)
     |_=>simp[lj]at hj
   .rw[h2_ne sm (λnx hi e=>hjg ⟨nx,hi,e⟩)]at hj;refine fA rows2 q ?_;have hkk:=(hinv.kill l).G sm _ q hj;rw[iW]at hj;split at hj
    next ht=>let⟨_,_,_,_,L⟩:=hmr sm ht;rw[L]at hj;cases hj
    .exact hinv.G sm _ q hj
  .by_cases hjg:∃nx,nx<nq/\sm=g nx
   .obtain⟨nx,hi,rfl⟩:=hjg;by_cases hip:nx<np
    .rw[glo nx hip];have:=gnx nx hip;omega
    .rw[ghi nx (by omega)];omega
   .rw[h2_ne sm (λnx hi e=>hjg ⟨nx,hi,e⟩)]at hj;have:=(hinv.kill l).low sm b hj;omega
 let⟨B1,hB1⟩:=LW hp;let⟨B2,hB2⟩:=LW hq;let⟨B3,hB3⟩:=LW h;let⟨B4,hB4⟩:=LW h2;let⟨B5,hB5⟩:=AV.ixL_ex lr;obtain⟨B,eB⟩:∃B,B=B1+B2+B3+B4+B5:=⟨_,rfl⟩
 let S:ι:=ao9 ((eA np).map (iz σ)) B
 have memS:∀n,n∈S↔(∃nx,nx<np/\ow n=iz σ nx)/\ix n<=B:=λn=>by
  simp only[S,VS,cz,oR];exact⟨λ⟨⟨nx,h1,h2⟩,h3⟩=>⟨⟨nx,h1,h2.symm⟩,h3⟩,λ⟨⟨nx,h1,h2⟩,h3⟩=>⟨⟨nx,h1,h2.symm⟩,h3⟩⟩
 let NN:ι:=ao9 ((eA (nq-np)).map λt=>i+t) B
 have Io:∀n,n∈NN↔(∃t,t<nq-np/\ow n=i+t)/\ix n<=B:=λn=>by
  simp only[NN,VS,cz,oR];exact⟨λ⟨⟨nx,h1,h2⟩,h3⟩=>⟨⟨nx,h1,h2.symm⟩,h3⟩,λ⟨⟨nx,h1,h2⟩,h3⟩=>⟨⟨nx,h1,h2.symm⟩,h3⟩⟩
 have memW:∀n,n∈S++JD l++NN↔((∃nx,nx<nq/\ow n=g nx)/\ix n<=B)\/n∈JD l:=λn=>by
  rw[bO,bO,memS,Io];constructor
  .rintro ((⟨⟨nx,hi,e⟩,hk⟩|hn)|⟨⟨t,ht,e⟩,hk⟩)
   .exact .inl ⟨⟨nx,by omega,by rw[glo nx hi];exact e⟩,hk⟩
   .exact .inr hn
   .exact .inl ⟨⟨np+t,by omega,by rw[ghi _ (by omega),show np+t-np=t from by omega];exact e⟩,hk⟩
  .rintro (⟨⟨nx,hi,e⟩,hk⟩|hn)
   .by_cases hip:nx<np
    .exact .inl (.inl ⟨⟨nx,hip,by rw[<- glo nx hip];exact e⟩,hk⟩)
    .exact .inr ⟨⟨nx-np,by omega,by rw[e,ghi nx (by omega)]⟩,hk⟩
   .exact .inl (.inr hn)
 have gamS:∀n,ow n<np->ix n<=B->pJ (iz σ) n∈S:=λn hi hk=>(memS _).2 ⟨⟨ow n,hi,yd _ _⟩,by rw[AL];exact hk⟩
 have gamg:∀n,ow n<np->pJ g n=pJ (iz σ) n:=λn hi=>by unfold pJ;rw[glo _ hi]
 have ungam:∀(g:Nat->Nat) (n nx:Nat),ow n=g nx->n=pJ g (jR nx (ix n)):=λg n nx e=>by rw[Du,<-e,kZ]
 have hOpT:gE T o (fR e h) (erHF h) ⟨FP (AV.renL (pJ g) lr),S++JD l,S++JD l++NN,erHF h2,NN⟩:=by
  intro φ E h' w a hrd hwr hops hrep hN;have hS':∀n,n∈S->h' n=erHF h n:=λn hn=>hrd _ (iu _ hn)
  have hM':∀nx,aL l nx=J->h' (nm nx)=erHF h (nm nx):=λnx hi=>hrd _ (u_ _ (mS.2 hi))
  let⟨us,hrun,hrel⟩:=hexec φ E h' w a hops hrep
  let Hv:HF:=λn=>if n∈S++JD l then erHF hv n else h' n
  have Hv_in:∀n,n∈S++JD l->Hv n=erHF hv n:=λn hn=>by simp only[Hv,hn,bk]
  have Hv_out:∀n,n∉S++JD l->Hv n=h' n:=λn hn=>by simp only[Hv,hn,dF]
  have blkS:∀n,n∈S->∀z,erHF hv n=Z z->∃b0 c y0,h.get (ow n)=Z b0/\BM (iz σ) h l b0 c/\PC h (ow n) (ix n) b0=Z y0/\PC hv (ow n) (ix n) c=Z z:=λn hn z hz=>by
   let⟨⟨nx,hi,e⟩,_⟩:=(memS n).1 hn;let⟨b,L⟩:=hl1 nx hi;let⟨b0,q1,q2⟩:=hbm nx b L;unfold erHF at hz;rw[e,hv_at nx b L]at hz;have hz:PC hv (iz σ nx) (ix n) (lj (iz σ) b)=Z z:=hz;rw[e];cases hk:ix n with
   |zero=>
    rw[hk]at hz;let⟨y0,hy0⟩:=BM.erB_some hinv q1 q2 hz;exact⟨b0,_,y0,q1,q2,hy0,hz⟩
   |succ k=>
    rw[hk]at hz;exact⟨b0,_,z,q1,q2,(q2.mem _ _).trans hz,hz⟩
  have hd:rC h' Hv:=λn b L=>by
   by_cases hn:n∈S++JD l
   .rw[Hv_in n hn]at L;rcases bO.1 hn with hs|hs
    .obtain⟨b0,c,y0,q1,_,q4,_⟩:=blkS n hs b L;exact⟨y0,by rw[hS' n hs];unfold erHF;rw[q1];exact q4⟩
    .obtain⟨nx,rfl,hi⟩:=pa.1 hs;rw[dead_m nx hi]at L;cases L
   .rw[Hv_out n hn]at L;exact⟨b,L⟩
  have gvv:Fy h h' Hv l:=λnx hi=>⟨hM' nx hi,by rw[Hv_in _ (u_ _ (mS.2 hi)),dead_m nx hi]⟩
  have V:Pd h' Hv:=⟨hd,λn b b' L hb'=>by
   by_cases hn:n∈S++JD l
   .rw[Hv_in n hn]at hb';rcases bO.1 hn with hs|hs
    .obtain⟨b0,c,y0,q1,q3,q4,q5⟩:=blkS n hs b' hb';rw[hS' n hs]at L;unfold erHF at L;rw[q1]at L;have L:PC h (ow n) (ix n) b0=Z b:=L;cases hk:ix n with
     |zero=>rw[hk]at L q5;exact BM.view hd gvv rows_in q3 L q5
     |succ k=>
      rw[hk]at L q5;have:=(q3.mem (ow n) k).symm.trans L;have q5:w_ (ow n) k c=Z b':=q5;rw[q5]at this;cases this;exact gu.refl hd _
    .obtain⟨nx,rfl,hi⟩:=pa.1 hs;rw[dead_m nx hi]at hb';cases hb'
   .rw[Hv_out n hn,L]at hb';cases hb';exact gu.refl hd b⟩
  have hrepv:=V.zq hrep;have hlpg:cN hv (lH (iz σ) vs)=Z (AV.renL (pJ (iz σ)) lp):=qB rows_hp vs lp hlp;have hrel1:lY φ (tot E φ Hv) w (AV.renL (pJ (iz σ)) lp) us:=
   lY.le hrep (GW hd rows_in c.pre.vs m x1 m1 _ r _ gv pvg hla hlpg (λnx hi=>gvv nx (by rw[hmm,bu,hi];rfl))) hrel
  let E':Nat->Prop:=λk=>E k\/∃n b,Hv n=Z b/\n∉S/\φ n=Z k
  have P:aqa c.pre x vs hp (iz σ) φ E E' Hv w:=by
   refine sC.toId I (λa b ha L=>inj1 a b (by rw[<- hnp];exact ha) (by rw[<- hnp];exact L)) hrepv (λn yb hn=>?_) ?_ ?_ ?_
   .obtain⟨hi,_⟩:=I.erHF hn;rw[hnp]at hi;have hk:=(hB1 n yb hn).1;let⟨b,L,hyb⟩:=iX hn;rw[Hv_in _ (iu _ (gamS n hi (by omega)))];unfold erHF;rw[yd,AL,hv_at _ b ((I.at_ _ b).1 L)];exact Dw rows_hp hyb
   .rintro k (hE|⟨n,b,h1,_,h3⟩)
    .exact .inl hE
    .exact .inr ⟨n,b,h1,h3⟩
   .intro n0 k y0 hn0 h3 hE0;let⟨hi,_⟩:=I.erHF hn0;rw[hnp]at hi;have hk:=(hB1 n0 y0 hn0).1;have h1:Hv (pJ (iz σ) n0)=Z (y0.qx (pJ (iz σ))):=by
     let⟨b,L,hyb⟩:=iX hn0;rw[Hv_in _ (iu _ (gamS n0 hi (by omega)))];unfold erHF;rw[yd,AL,hv_at _ b ((I.at_ _ b).1 L)];exact Dw rows_hp hyb
    rcases hE0 with hE|⟨n,b',h4,h5,h6⟩
    .obtain⟨k',p1,p2,_⟩:=hrepv.at_ _ _ h1;rw[h3]at p1;cases p1;exact p2 hE
    .have:=hrepv.inj _ _ _ _ k h1 h4 h3 h6;exact h5 (by rw[<- this];exact gamS n0 hi (by omega))
   .rintro k (hE|⟨n,b,h1,_,h3⟩)
    .exact hrepv.el k hE
    .obtain⟨k',q1,_,ob,q3,_⟩:=hrepv.at_ n b h1;rw[h3]at q1;cases q1;exact (dE.1 q3).1
  have hcalls:=sp.calls x y hm vs hp l1 rs hq l2 lp lr I D hlp hlr (φ1 (l! c.pre.bs) (iz σ) φ) E' w us P.zq (lY.toId P.val (vC vs lp I.lt hlp) hrel1) (λn k hk=>(Ar hk).1);unfold LB;rw[hrun];refine Calls.mono hcalls ?_;rintro en w' ⟨v,φc',rfl,hext,hown,hnm,rp,rv'⟩
  let isN:Nat->Prop:=λn=>n∈NN
  let φ':PM:=λn=>if n∈NN then φc' (jR (np+(ow n-i)) (ix n)) else φ n
  have φ'_old:∀n,n∉NN->φ' n=φ n:=λn hn=>by simp only[φ',hn,dF]
  have loN:∀n,ow n<i->n∉NN:=λn hi hn=>by
   let⟨⟨t,_,e⟩,_⟩:=(Io _).1 hn;omega
  have φ'_g:∀n,ow n<nq->ix n<=B->φ' (pJ g n)=φc' n:=λn hi hk=>by
   by_cases hip:ow n<np
   .rw[gamg n hip,φ'_old _ (loN _ (by rw[yd];exact gnx _ hip)),hnm n (by rw[hnp];exact hip),aho (by rw[hnp];exact hip)]
   .have hg:=ghi (ow n) (by omega);have:pJ g n∈NN:=(Io _).2 ⟨⟨ow n-np,by omega,by rw[yd,hg]⟩,by rw[AL];exact hk⟩;simp only[φ',this,bk,yd,AL,hg];rw[show np+(i+(ow n-np)-i)=ow n from by omega,kZ]
  have hsub:∀n k,φ n=Z k->φ' n=Z k:=λn k hk=>by
   by_cases hn:n∈NN
   .rw[hN n hn]at hk;cases hk
   .rw[φ'_old n hn];exact hk
  let F:HF:=fy h' (S++JD l++NN) (erHF h2)
  have F_g:∀n,n∈S++JD l++NN->F n=erHF h2 n:=λn hn=>by
   simp only[F,fy,hn,bk]
  have F_out:∀n,n∉S++JD l++NN->F n=h' n:=λn hn=>by simp only[F,fy,hn,dF]
  have from_:∀n b,F n=Z b->(∃nx yb,ow nx<nq/\ix nx<=B/\n=pJ g nx/\erHF hq nx=Z yb/\b=yb.qx (pJ g))\/(h' n=Z b/\Hv n=Z b/\n∉S/\n∉NN/\φ' n=φ n):=λn b L=>by
   by_cases hn:n∈S++JD l++NN
   .rcases (memW n).1 hn with ⟨⟨nx,hi,e⟩,hk⟩|hs
    .rw[F_g n hn]at L;have e2:=ungam g n nx e;have ho:ow (jR nx (ix n))<nq:=by rw[iS];exact hi
     let⟨yb,q1,q2⟩:=er2' (jR nx (ix n)) ho b (by rw[<- e2];exact L);exact .inl ⟨jR nx (ix n),yb,ho,by rw[wF];exact hk,e2,q1,q2⟩
    .obtain⟨nx,rfl,hi⟩:=pa.1 hs;have:F (nm nx)=erHF h2 (nm nx):=by simp only[F,fy,hn,bk]
     rw[this,dead2 nx hi]at L;cases L
   .rw[F_out n hn]at L;have h1:n∉S++JD l:=λhh=>hn (iu _ hh)
    have h3:n∉NN:=λhh=>hn (u_ _ hh)
    exact .inr ⟨L,by rw[Hv_out n h1];exact L,λhh=>h1 (iu _ hh),h3,φ'_old n h3⟩
  have own':∀k,own φ' F k->own φc' (erHF hq) k\/∃n b,Hv n=Z b/\n∉S/\φ n=Z k:=by
   rintro k ⟨n,b,h1,h3⟩;rcases from_ n b h1 with ⟨nx,yb,hi,hk,rfl,q1,_⟩|⟨_,q2,q3,_,q5⟩
   .rw[φ'_g nx hi hk]at h3;exact .inl ⟨nx,yb,q1,h3⟩
   .exact .inr ⟨n,b,q2,q3,by rw[<- q5];exact h3⟩
  have mv:kj φ φ' h' F w w':=by
   refine ⟨hsub,hext.mono λk hk=>hd.own (P.ql k hk),λk hk ho=>?_⟩;rcases own' k ho with h1|⟨n,b,h1,_,h3⟩
   .exact hd.own (P.ql k (hown k hk h1))
   .exact hd.own ⟨n,b,h1,h3⟩
  have tot':∀k,tot E φ' F k->tot E' φc' (erHF hq) k:=by
   rintro k (h1|h1)
   .exact .inl (.inl h1)
   .rcases own' k h1 with h3|h3
    .exact .inr h3
    .exact .inl (.inr h3)
  let φr:PM:=λn=>if Rj nq n&&Yy B n then φc' n else U
  have rel_r:∀x v,x.all (λn=>Rj nq n&&Yy B n)=J->co φc' (tot E' φc' (erHF hq)) w' x v->co φr (tot E φ' F) w' x v:=λx v hx hr=>
   hr.restrict (λnx k hi hk=>by simp only[φr,hi,bk];exact hk) tot' hx
  have rel_g:∀x v,co φr (tot E φ' F) w' x v->co φ' (tot E φ' F) w' (x.qx (pJ g)) v:=λx v hr=>
   hr.renTo λn k hk=>by
    simp only[φr]at hk;split at hk
    next hpn=>simp only[al]at hpn;rw[φ'_g n (F_.1 hpn.1) (aU hpn.2)];exact hk
    .cases hk
  have hnqJ:=hnq;refine ⟨v,φ',rfl,mv,λn k hk=>?_,?_,?_⟩
  .by_cases hn:n∈NN
   .exact .inr hn
   .rw[φ'_old n hn]at hk;exact .inl hk
  .refine ⟨λn n' b b' k h1 h3 h4 h5=>?_,λn b h1=>?_,λk hk=>dD (hrep.el k hk) mv.ext.size,λg' cells hg=>mv.keepF (hrep.gl g' cells hg)⟩
   .rcases from_ n b h1 with ⟨nx,yb,hi,hik,rfl,hqi,_⟩|⟨q1,q2,q3,_,q5⟩
    .rw[φ'_g nx hi hik]at h4;rcases from_ n' b' h3 with ⟨sm,yj,hj,hjk,rfl,t1,_⟩|⟨t1,t2,t3,_,t5⟩
     .rw[φ'_g sm hj hjk]at h5;rw[rp.inj _ _ _ _ k hqi t1 h4 h5]
     .exfalso;let⟨k',p1,p2,_⟩:=rp.at_ _ _ hqi;rw[h4]at p1;cases p1;exact p2 (.inr ⟨n',b',t2,t3,by rw[<- t5];exact h5⟩)
    .rcases from_ n' b' h3 with ⟨sm,yj,hj,hjk,rfl,hqj,_⟩|⟨t1,t2,t3,_,t5⟩
     .exfalso;rw[φ'_g sm hj hjk]at h5;let⟨k',p1,p2,_⟩:=rp.at_ _ _ hqj;rw[h5]at p1;cases p1;exact p2 (.inr ⟨n,b,q2,q3,by rw[<- q5];exact h4⟩)
     .exact hrep.inj n n' b b' k q1 t1 (by rw[<- q5];exact h4) (by rw[<- t5];exact h5)
   .rcases from_ n b h1 with ⟨nx,yb,hi,hik,rfl,hqi,rfl⟩|⟨q1,q2,q3,_,q5⟩
    .obtain⟨k,p1,p2,ob,p3,p4⟩:=rp.at_ _ _ hqi;have hall:=(D.erHF hqi).2;rw[hnq]at hall;have hall2:=BC.all_and hall (BC.all_ix (show B2<=B by omega) (hB2 nx yb hqi).2);exact⟨k,by rw[φ'_g nx hi hik];exact p1,λhE=>p2 (.inl hE),ob,p3,(p4.restrict rel_r hall2).renTo rel_g⟩
    .obtain⟨k,p1,p2,ob,p3,p4⟩:=hrep.at_ n b q1;have hk:k<w.heap.size:=(dE.1 p3).1;refine ⟨k,hsub n k p1,p2,ob,?_,p4.mono λx v hr=>mv.zw hr⟩;rw[hext.jp k hk ?_]
     .exact p3
     .rintro⟨n',y',t1,t2⟩;let⟨hi,t3⟩:=Ar t2;rw[hnp]at hi;have hik:=(hB1 n' y' t1).1;have hvi:Hv (pJ (iz σ) n')=Z (y'.qx (pJ (iz σ))):=by
       let⟨bb,t4,t5⟩:=iX t1;rw[Hv_in _ (iu _ (gamS n' hi (by omega)))];unfold erHF;rw[yd,AL,hv_at _ bb ((I.at_ _ bb).1 t4)];exact Dw rows_hp t5
      have:=hrepv.inj _ _ _ _ k hvi q2 t3 p1;exact q3 (by rw[<- this];exact gamS n' hi (by omega))
  .have hall:(FP lr).all (λn=>Rj nq n&&Yy B n)=J:=AV.all_and _ (U1 (by have:=vC rs lr D.lt hlr;rwa [hnq]at this)) (U1 (AV.allL_ix (by omega) lr hB5));show co φ' (tot E φ' F) w' (FP (AV.renL (pJ g) lr)) v;rw[ahz];exact rel_g _ _ (rel_r _ _ hall rv')
 have hrsg:cN h2 (lH g rs)=Z (AV.renL (pJ g) lr):=qB rows_hq rs lr hlr;refine ⟨⟨_,hOpT,λz hz=>?_,?_,λn hn=>?_,λn hn=>?_,λn hn=>?_⟩,rows2,inv2,by omega,nofun⟩
 .rw[abw hrsg]at hz;cases hz;rfl
 .funext n;unfold fy;split
  .rfl
  .rename_i hn;by_cases hg:∃nx,nx<nq/\ow n=g nx
   .have hB:¬ix n<=B:=λhk=>hn ((memW _).2 (.inl ⟨hg,hk⟩))
    have n1:∀H:aY,(∀y,erHF H n=Z y->ix n<=B)->erHF H n=U:=λH hH=>by
     cases hx:erHF H n with
     |none=>rfl
     |some y=>exact cu (hH y hx) hB
    rw[n1 h λy hy=>c9 (hB3 n y hy).1 (by omega),n1 h2 λy hy=>c9 (hB4 n y hy).1 (by omega)]
   .have hg2:=h2_ne (ow n) λnx hi e=>hg ⟨nx,hi,e⟩
    unfold erHF;rw[hg2,iW];split
    .rename_i L;let⟨ty,p,P,xs,hx⟩:=hmr _ L;rw[hx];cases hk:ix n with
     |zero=>exact cu ((memW _).2 (.inr (by rw[pq hk];exact mS.2 L))) hn
     |succ k=>rfl
    .cases hx:h.get (ow n) with
     |none=>rfl
     |some b=>exact (mF rows2 (λty m e=>hinv.G _ _ m (by rw[hx,e])) _ _).symm
 .rw[bu];rcases bO.1 hn with hs|hs
  .obtain⟨⟨nx,hi,e⟩,_⟩:=(memS n).1 hs;rw[(sig _).2 ⟨nx,hi,e.symm⟩];rfl
  .obtain⟨nx,rfl,hi⟩:=pa.1 hs;rw[di,hi];simp
 .rw[bu,bu];rcases bO.1 hn with hs|hs
  .rcases bO.1 hs with hs|hs
   .obtain⟨⟨nx,hi,e⟩,_⟩:=(memS n).1 hs;rw[(sig _).2 ⟨nx,hi,e.symm⟩];rfl
   .obtain⟨nx,rfl,hi⟩:=pa.1 hs;rw[di,hi];simp
  .obtain⟨⟨t,ht,e⟩,_⟩:=(Io n).1 hs;rw[aob.2 ⟨by omega,by omega⟩];simp
 .obtain⟨⟨t,ht,e⟩,_⟩:=(Io n).1 hn;omega
def Dm {S:Ty} {xs:Y (C_ S)} (z:dO a (l! xs)=J):xs[a.toNat]? =Z (dZ _ xs a):=by
 let⟨_,_,h⟩:=mZ z;unfold dZ
 grind
def Vv {xss:Y (Y K.den)} (z:dO a (l! xss)=J):xss[a.toNat]? =Z (ry xss a):=by
 let⟨_,_,h⟩:=mZ z;unfold ry
 grind
variable {A:η}
def VZ (z:dO a (l! A)=J):A[a.toNat]? =Z (sJ A a):=by
 let⟨_,_,h⟩:=mZ z;unfold sJ
 grind
def DN (id:Nat) (S:Ty) (j:Int) (o:C_ S):Y AV:=(bE S o.1).map .f++[.mp (jR id (3*j.toNat+2)),.mp (jR id (3*j.toNat+3))]
def aro {xs:Y (C_ K)} (A:h.get i=Z (.Q (.ar s K) j xs)) {a:Int} (z:dO a (l! xs)=J):erHF h (pM i a)=Z ⟨s,.mx (DN i K a (dZ _ xs a))⟩:=by
 unfold pM;rw[kS,A];show rn i (3*a.toNat) s K xs=_;unfold rn;rw[show 3*a.toNat/3=a.toNat from by omega,Dm z];simp only[bi,wP];rw[aD (by omega)];rfl
def arn {xs:Y (C_ K)} (A:h.get i=Z (.Q (.ar s K) j xs)) {a:Int} (z:dO a (l! xs)=J) {b:Nat} (L:b<2):erHF h (jR i (3*a.toNat+2+b))=Z ⟨0,.mp (Ip (sO b (dZ _ xs a)))⟩:=by
 rw[show 3*a.toNat+2+b=3*a.toNat+1+b+1 from by omega,kS,A];show rn i (3*a.toNat+1+b) s K xs=_;unfold rn;rw[show (3*a.toNat+1+b)/3=a.toNat from by omega,Dm z];simp[bi,wP];rw[av (by omega)];rcases cF b 1 with D|D
 .have:b=0:=by omega
  subst this;rw[aD (by omega)];rfl
 .have:b=1:=by omega
  subst this;rw[av (by omega)];rfl
def acv {xss:Y (Y K.den)} (A:h.get i=Z (.Q (.ir s K) j xss)) {a:Int} (z:dO a (l! xss)=J) (D:l! (ry xss a)≠0):erHF h (jR i (a.toNat+1))=Z ⟨s,.fz ((ry xss a).flatMap (bE K))⟩:=by
 rw[kS,A];show rm a.toNat s K xss=_;unfold rm;rw[Vv z];simp[aF,ZO]
 grind
def yS (a sz:Nat):∀(z:η) (k j:Nat),(l7 a sz k z)[j]? =(z[j]?).map λl=>uM a (k+j) sz l.toNat
 |[],_,_|l::r,k,0=>by simp[l7]
 |l::r,k,j+1=>by
  simp[l7,BT,yS a sz r (k+1) j]
  grind
abbrev i2:Y TypeDesc:=[.int .i64,.int .i64]
def Ti {b:Int} (z:ajq u=Z (a,b)) (D:bW h u=Z y):af2 i2 y=Z [.int .i64 a,.int .i64 b]:=by
 unfold ajq at z;split at z
 .cases z
 .split at z
  .rename_i a' b' L;simp[ah,aR]at z;obtain⟨rfl,rfl⟩:=z;have h1:=(Ky L D).1;simp[cN,bW,ah]at h1;have A:y.cs=[.f (.raw (.int .i64 a')),.f (.raw (.int .i64 b'))]:=h1.symm;cases y with
   |agg l=>
    subst A;rfl
   |f x=>
    cases x with
    |agg l=>
     cases l with
     |nil=>cases A
     |cons v l=>
      cases l with
      |nil=>cases A
      |cons w l=>
       cases l with
       |nil=>cases A;rfl
       |cons _ _=>cases A
    |_=>cases A
   |_=>cases A
  .cases z
def EU (k z:ν):Eb i2 [.int .i64 k.1,.int .i64 k.2] (af4 z)=Z (P9 k z):=by
 unfold Eb af4 P9;simp[b9,Dd,jX,wQ,cr,bk]
 grind
def Vg (a:Nat) (k:ν):∀es:Y e!,Jv i2 [.int .i64 k.1,.int .i64 k.2] (xd a es)=Z (match sL k es with|true=>Z (.P (pM a (eH k es)) 0)|false=>U)
 |[]=>rfl
 |e::r=>by
  have z:=Vg a k r;unfold xd at z ⊢;simp[b9,Jv,EU,sL,eH];cases A:P9 k e.1 with
  |true=>rfl
  |false=>simp[FH];exact z
def abv (a:Nat) (k:ν):∀es:Y e!,YS i2 [.int .i64 k.1,.int .i64 k.2] (xd a es)=Z (xd a (DO k es))
 |[]=>rfl
 |e::r=>by
  have z:=abv a k r;unfold xd at z ⊢;simp[b9,YS,EU,DO];cases A:P9 k e.1 with
  |true=>rfl
  |false=>simp only[z];rfl
def LS {k z:ν}:P9 k z=J↔k=z:=by
 unfold P9
 grind
def abu (a:Nat) (k:ν) (v:AV):∀es:Y e!,YR i2 [.int .i64 k.1,.int .i64 k.2] v (xd a es)=Z (NL a k v es)
 |[]=>rfl
 |e::r=>by
  have A:=abu a k v r;unfold xd at A ⊢;simp[b9,YR,EU,NL];cases z:P9 k e.1 with
  |true=>rw[aD (LS.1 z)];rfl
  |false=>rw[av (λh=>by rw[LS.2 h]at z;cases z)];simp[A]
section ops
variable {R:Type} {P:Program} {bZ:TypeId->M Ty} {o:Oper} {e:ii} {h:aY} {nx:Nat} {K:KO R} {r:R} (hinv:hX h nx) (hi:sM e h)
include hinv hi
def awf {st:Bool} (L:cP P o.op=Z (.jz b c)) (A:pE bZ e h nx K (.jz b c)=Z r):je P o st e h nx K r:=by
 simp[pE]at A;split at A
 next D=>let⟨y,h1,z⟩:=ba hi D;simp[bW,Ld,ah]at z;subst z;exact je.q (k:=0) hinv L (λH _=>by simp[dG,h1];rfl) (cM rfl) A
 next D=>let⟨y,h1,z⟩:=ba hi D;simp[bW,ah]at z;subst z;exact je.q (k:=0) hinv L (λH _=>by simp[dG,h1];rfl) (cM rfl) A
 next D=>let⟨y,h1,z⟩:=ba hi D;simp[bW,ah]at z;subst z;exact je.q (k:=0) hinv L (λH _=>by simp[dG,h1];rfl) (cM rfl) A
 .cases A
def awc (hc:cP P o.op=Z (.zl c)) (D:pE bZ e h nx K (.zl c)=Z r):je P o b e h nx K r:=by
 simp[pE]at D;split at D
 next L=>let⟨y,h1,A⟩:=ba hi L;have z:=A;simp[bW,Ld,ah]at A;subst A;exact je.q (k:=0) hinv hc (λH _=>by simp[dG,h1]) (cM z) D
 next L=>let⟨y,h1,A⟩:=ba hi L;have z:=A;simp[bW,Ld,ah]at A;subst A;exact je.q (k:=0) hinv hc (λH _=>by simp[dG,h1]) (cM z) D
 .cases D
def aA9 (L:cP P o.op=Z (.jb i c)) (z:pE bZ e h nx K (.jb i c)=Z r):je P o b e h nx K r:=by
 simp[pE]at z;split at z
 next D=>let⟨y,h1,A⟩:=ba hi D;simp[bW,Ld,ah]at A;subst A;exact je.q (k:=0) hinv L (λH _=>by simp[dG,h1,Ld]) (cM rfl) z
 next D=>let⟨y,h1,A⟩:=ba hi D;simp[bW,Ld,ah]at A;subst A;exact je.q (k:=0) hinv L (λH _=>by simp[dG,h1,Ld,uJ]) (cM rfl) z
 .cases z
def awe (hc:cP P o.op=Z (.load i b c)) (A:pE bZ e h nx K (.load i b c)=Z r):je P o af e h nx K r:=by
 obtain⟨H,hH⟩:=gJ h;simp only[pE]at A;split at A
 .rename_i id j off hv;obtain⟨y,h1,h2⟩:=ba hi hv;simp only[bW,Ld,ah]at h2;subst h2;split at A
  .rename_i ty S a xs hb;have L:=cI A;clear A;obtain⟨hj,A⟩:=L;have hg:H.get (pM id j)=Z ⟨ty,.mx (DN id S j (dZ S xs j))⟩:=by rw[hH];exact aro hb hj
   have hrd:∀n∈[pM id j],aL (gF id) (ow n)=J:=λn hn=>by
    simp only[aE]at hn;subst hn;unfold pM;rw[iS];exact bq.2 rfl
   split at A
   .cases A
   .rename_i hag;have hag:b=af:=by grind
    subst hag;have sub1:∀y,(DN id S j (dZ S xs j))[off]? =Z y->(BC.mx (DN id S j (dZ S xs j))).sub? off 1 af=Z y:=λy hy=>hy
    split at A
    .rename_i ho;split at A
     .rename_i v hv2;obtain⟨p1,z,p2,p3,_⟩:=uw h 40 S _ off i af v hv2;obtain⟨rfl,p5⟩:=p3 rfl;have D:=sub1 (.f z) (by
       unfold DN;rw[bL (by grind),bB,p5];rfl)
      exact⟨_,_,_,_,_,A,fw.pure (k:=0) hinv hc hH (y0:=.f z) (rdl:=[pM id j]) (by simp only[dG,h1,xZ,hg,D]) (cM p2) hrd nofun⟩
     .cases A
    .rename_i ho;split at A
     .rename_i hq;simp only[al]at hq;have q1:=au hq.1;have q2:=aU hq.2;subst q1;have ho:S.size<=off:=by simp_all
      have D:=sub1 (.mp (jR id (3*j.toNat+2+(off-S.size)))) (by
       unfold DN;rw[b_ (by rw[bM,bm];exact ho),bM,bm];rcases cF (off-S.size) 1 with h3|h3
       .grind
       .rw[show off-S.size=1 from by omega];rfl)
      exact⟨_,_,_,_,_,A,fw.pure (k:=0) hinv hc hH (y0:=.mp (jR id (3*j.toNat+2+(off-S.size)))) (rdl:=[pM id j]) (by simp only[dG,h1,xZ,hg,D]) (cM rfl) hrd nofun⟩
     .cases A
  .cases A
 .rename_i id j s sz off hv;obtain⟨y,h1,h2⟩:=ba hi hv;simp only[bW,Ld,ah]at h2;subst h2;split at A
  .rename_i ty T a xss hb;split at A
   .rename_i D;have D:=au D;subst D;obtain⟨hj,A⟩:=cI A;obtain⟨hji,A⟩:=cI A;split at A
    .rename_i v hv2;obtain⟨z,p1,p2⟩:=ai5 hji hv2;have hne:l! (ry (T:=T) xss j)≠0:=by have:=(mZ hji).2.2;omega
     have hg:H.get (jR id (j.toNat+1))=Z ⟨ty,.fz ((ry (T:=T) xss j).flatMap (bE T))⟩:=by rw[hH];exact acv hb hj hne
     exact⟨_,_,_,_,_,A,fw.pure (k:=0) hinv hc hH (y0:=.f z) (rdl:=[jR id (j.toNat+1)]) (by simp only[dG,h1,xZ,hg,p2]) (cM p1) (λn hn=>by
      simp only[aE]at hn;subst hn;rw[iS];exact bq.2 rfl) nofun⟩
    .cases A
   .cases A
  .cases A
 .rename_i id s j off hv;obtain⟨y,h1,h2⟩:=ba hi hv;simp only[bW,ah]at h2;subst h2;split at A
  .rename_i hq;simp only[al,ca]at hq;obtain⟨⟨q1,q2⟩,q3,q4⟩:=hq;have q1:=au q1;have q3:=au q3;have q4:=au q4;subst q1 q2 q3 q4;have hrd:∀n∈[nm id],aL (gF id) (ow n)=J:=λn hn=>by
    simp only[aE]at hn;subst hn;rw[di];exact bq.2 rfl
   split at A
   .rename_i ty a js hb;have L:=cI A;clear A;obtain⟨hj,A⟩:=L;have hlen:aj (α:=Int) js≠0:=by have:=(mZ hj).2.2;omega
    have hg:H.get (nm id)=Z ⟨ty,.mx (gM (λj=>.P (pM a j) 0) js)⟩:=by
     rw[hH,bJ,hb];simp only[aF,kJ,ux]
     grind
    have D:(BC.mx (gM (λj=>AV.P (pM a j) 0) js)).sub? (j.toNat*1+0) 1 af=Z (.P (pM a (sJ js j)) 0):=by
     simp only[BC.sub?,BC.get,HY,dK];exact (bB (f:=λj:Int=>AV.P (pM a j) 0) (l:=js) (i:=j.toNat)).trans (eR (io λj=>AV.P (pM a j) 0) (VZ hj))
    exact⟨_,_,_,_,_,A,fw.pure (k:=0) hinv hc hH (y0:=.P (pM a (sJ js j)) 0) (rdl:=[nm id]) (by simp only[dG,h1,xZ,hg,D]) (cM rfl) hrd nofun⟩
   .rename_i ty z a ls hb;have L:=cI A;clear A;obtain⟨hj,A⟩:=L;have hg:H.get (nm id)=Z ⟨ty,.mx (l7 a z 0 ls)⟩:=by
     rw[hH,bJ,hb];rfl
    have D:(BC.mx (l7 a z 0 ls)).sub? (j.toNat*1+0) 1 af=Z (uM a j.toNat z (sJ ls j).toNat):=by
     simp only[BC.sub?,BC.get,HY,dK];have:=yS a z ls 0 j.toNat;rw[bX]at this;refine this.trans ?_;exact eR (io λl:Int=>uM a j.toNat z l.toNat) (VZ hj)
    exact⟨_,_,_,_,_,A,fw.pure (k:=0) hinv hc hH (y0:=uM a j.toNat z (sJ ls j).toNat) (rdl:=[nm id]) (by simp only[dG,h1,xZ,hg,D]) (cM rfl) hrd nofun⟩
   .cases A
  .cases A
 .cases A
def aA8 {sz:Operand} (hc:cP P o.op=Z (.jf i c sz)) (z:pE bZ e h nx K (.jf i c sz)=Z r):je P o b e h nx K r:=by
 simp only[pE]at z;split at z
 .rename_i id k j hv L;split at z
  .rename_i p s n hr;split at z
   .rename_i D;simp only[al]at D;have D:=au D.1;let⟨A,z⟩:=cI z;let⟨y,h1,h2⟩:=ba hi hv;let⟨y2,h3,h4⟩:=ba hi L;simp[bW,ah]at h4;subst h4;let⟨j0,j1,j2⟩:=mZ A;have hne:¬((p&&n==0)=J):=by grind
    simp only[bW,hr,dA,av hne,ah]at h2;subst h2;have hc1:(s==i&&dg 0 j&&gC j n)=J:=by
     simp[dO,al]at A;simp[D,A.1,A.2]
    exact je.q (k:=0) hinv hc (λH _=>by simp[dG,h1,h3,gr,hc1,bk,dK]) (cM rfl) z
   .cases z
  .cases z
 .rename_i id j s n k i' hv L;split at z
  .rename_i D;have D:=au D;let⟨A,z⟩:=cI z;let⟨y,h1,h2⟩:=ba hi hv;let⟨y2,h3,h4⟩:=ba hi L;simp[bW,ah]at h4;subst h4;let⟨j0,j1,j2⟩:=mZ A;have hne:¬((n==0)=J):=by grind
   simp only[bW,Ld,uM,av hne,ah]at h2;subst h2;have hc1:(s==i&&dg 0 i'&&gC i' n)=J:=by
    simp[dO,al]at A;simp[D,A.1,A.2]
   exact je.q (k:=0) hinv hc (λH _=>by simp[dG,h1,h3,gr,hc1,bk,Ld,dK]) (cM rfl) z
  .cases z
 .cases z
def aA6 {ok:Bool} {k:Operand} (hc:cP P o.op=Z (.jg b ok v c k)) (A:pE bZ e h nx K (.jg b ok v c k)=Z r):je P o af e h nx K r:=by
 let⟨H,hH⟩:=gJ h;simp only[pE]at A;split at A
 .rename_i id j str D hv hv2;split at A
  .rename_i ty S a xs zb hb;split at A
   .rename_i hq;simp only[al,ca]at hq;let⟨q1,L⟩:=hq;subst q1;have L:=aU L;have hk0:=cI A;let⟨hj,A⟩:=hk0;let⟨y,h1,h2⟩:=ba hi hv;let⟨y2,h3,h4⟩:=ba hi hv2;simp[bW,Ld,ah]at h2 h4;subst h2 h4;generalize hm:sO str (dZ S xs j)=m at A;have hg:H.get (jR id (3*j.toNat+2+str))=Z ⟨0,.mp (Ip m)⟩:=by rw[hH,<-hm];exact arn hb hj L
    have hf:tU (.int .i64 D) (Ip m)=Z ((wE (K:=.int .i64) (V:=.bool) D m).map λz=>.f (.raw (.bool z))):=MM (str:=af) (K:=.int .i64) (V:=.bool) rfl D m;have henc:gr (.int .i64) D= .raw (.int .i64 D):=rfl;rw[henc]at h3;refine ⟨_,_,_,_,_,A,fw.pure (k:=0) hinv hc hH (y0:=pkV ok (.f (.raw (.bool (rh (K:=.int .i64) (V:=.bool) D m zb)))) (af0 (K:=.int .i64) (V:=.bool) D m)) (rdl:=[jR id (3*j.toNat+2+str)]) ?_ (λy hy=>by rw[aiu (y:=.f (.raw (.bool (rh (K:=.int .i64) (V:=.bool) D m zb)))) rfl]at hy;cases hy;exact Le.refl _) (λn hn=>by
     simp[aE]at hn;subst hn;rw[iS];exact bq.2 rfl) nofun⟩
    simp[dG,h1,h3,hg,zB,bk,hf];unfold rh af0;cases hfm:wE (K:=.int .i64) (V:=.bool) D m with
    |_=>rfl
   .cases A
  .cases A
 .cases A
def aA7 {k:Operand} (hc:cP P o.op=Z (.lkq i2 v c k)) (A:pE bZ e h nx K (.lkq i2 v c k)=Z r):je P o af e h nx K r:=by
 let⟨H,hH⟩:=gJ h;simp[pE]at A;split at A
 .rename_i id kv hv hkv;let⟨tk,D,hkk⟩:=bind_some hkv;let⟨ka,kb⟩:=kv;split at A
  .rename_i a es hb;let⟨y,h1,h2⟩:=ba hi hv;let⟨y2,h3,h4⟩:=ba hi D;simp[bW,ah]at h2;subst h2;have hq:=Ti hkk h4;have hg:H.get (nm id)=Z ⟨0,.mp (xd a es)⟩:=by rw[hH,bJ,hb];rfl
   have hf:=Vg a (ka,kb) es;have hrd:∀n∈[nm id],aL (gF id) (ow n)=J:=λn hn=>by
    simp[aE]at hn;subst hn;rw[di];exact bq.2 rfl
   rcases lV A with ⟨hh,A⟩|⟨hh,A⟩
   .rw[hh]at hf;exact⟨_,_,_,_,_,A,fw.pure (k:=0) hinv hc hH (y0:=.P (pM a (eH (ka,kb) es)) 0) (rdl:=[nm id]) (by simp[dG,h1,h3,aF,hq,hg,hf]) (cM rfl) hrd nofun⟩
   .rw[hh]at hf;exact⟨_,_,_,_,_,A,fw.pure (k:=0) hinv hc hH (y0:=raw (.pointer U)) (rdl:=[nm id]) (by simp[dG,h1,h3,aF,hq,hg,hf]) (cM rfl) hrd nofun⟩
  .cases A
 .cases A
def aAa {k:Operand} (hc:cP P o.op=Z (.dlq i2 c k)) (z:pE bZ e h nx K (.dlq i2 c k)=Z r):je P o af e h nx K r:=by
 let⟨H,hH⟩:=gJ h;simp only[pE]at z;split at z
 .rename_i id kv hv hkv;let⟨tk,A,hkk⟩:=bind_some hkv;let⟨ka,L⟩:=kv;split at z
  .rename_i a es hb;let⟨y,h1,h2⟩:=ba hi hv;let⟨y2,h3,h4⟩:=ba hi A;simp[bW,ah]at h2;subst h2;have hq:=Ti hkk h4;have hg:H.get (nm id)=Z ⟨0,.mp (xd a es)⟩:=by rw[hH,bJ,hb];rfl
   have hf:=abv a (ka,L) es;have hrd:∀n∈[nm id],aL (gF id) (ow n)=J:=λn hn=>by
    simp[aE]at hn;subst hn;rw[di];exact bq.2 rfl
   refine ⟨_,_,_,_,_,z,fw.wrt (m:=0) (v:=.qb []) (rd:=gF id) (k:=0) (y0:=.qb []) (rdl:=[nm id]) (b0:=⟨0,.mp (xd a (DO (ka,L) es))⟩) hinv hc hH (by simp[dG,h1,h3,aF,hq,hg,hf]) hb (dN.zero h) (by simp) rfl (λ_ _ he=>by cases he) (λH1 H2 d g b' D=>?_) (λH1 H2 y d g hy=>?_) hrd⟩
   .cases D;exact gu.refl d _
   .simp[bW,cN,ah]at hy;subst hy;exact kz.refl d _
  .cases z
 .cases z
def aA5 {k v:Operand} (hc:cP P o.op=Z (.mpq i2 c k v)) (z:pE bZ e h nx K (.mpq i2 c k v)=Z r):je P o af e h nx K r:=by
 let⟨H,hH⟩:=gJ h;simp only[pE]at z;split at z
 .rename_i id kv p hv hkv hvp;let⟨tk,A,hkk⟩:=bind_some hkv;let⟨ka,L⟩:=kv;split at z
  .rename_i a es hb;let⟨y,h1,h2⟩:=ba hi hv;let⟨y2,h3,h4⟩:=ba hi A;let⟨y3,h5,h6⟩:=ba hi hvp;simp[bW,ah]at h2 h6;subst h2 h6;have hq:=Ti hkk h4;have hg:H.get (nm id)=Z ⟨0,.mp (xd a es)⟩:=by rw[hH,bJ,hb];rfl
   have hf:=abu a (ka,L) (.P (nm p) 0) es;have hrd:∀n∈[nm id],aL (gF id) (ow n)=J:=λn hn=>by
    simp[aE]at hn;subst hn;rw[di];exact bq.2 rfl
   refine ⟨_,_,_,_,_,z,fw.wrt (m:=0) (v:=.undef) (rd:=gF id) (k:=0) (y0:=raw undef) (rdl:=[nm id]) (b0:=⟨0,.mp (NL a (ka,L) (.P (nm p) 0) es)⟩) hinv hc hH (by simp[dG,h1,h3,h5,aF,hq,hg,hf]) hb (dN.zero h) (by simp) rfl (λ_ _ he=>by cases he) (λH1 H2 d g b' D=>?_) (λH1 H2 y d g hy=>?_) hrd⟩
   .cases D;exact gu.refl d _
   .simp[bW,ah]at hy;subst hy;exact kz.refl d _
  .cases z
 .cases z
end ops
def fw.wrtM {o:Oper} {e:ii} {s:UU} (hinv:hX h i) (hc:cP T o.op=Z s) {a:nz} (hH:a.get=erHF h) {km:Nat} {y0:AV} {rdl:ι} {b0:kG} {k:Nat} (ha:dG s (D2 e h) a k=Z ⟨y0,rdl,[jR j (km+1)],[(jR j (km+1),b0)],[]⟩) {B0 B:e_} (z:h.get j=Z B0) {v:TV} {rd:Nat}
 (hrow:iN B=iN B0) (hB:∀ty l,B≠ .G ty l) (hB0:∀ty l,B0≠ .G ty l) (hanc:∀h2,kJ h2 B=kJ h B0) (hoth:∀k',k'≠km->w_ j k' B=w_ j k' B0)
 (hblk:∀D A,rC D A->∀b',w_ j km B=Z b'->gu D A b0 b')
 (hval:∀D A y,rC D A->bW (h.set j (Z B)) v=Z y->kz D A y0 y)
 (hrd:∀n∈rdl,aL rd (ow n)=J):fw T o af e h i v rd (0|||gF j) (h.set j (Z B)) i:=by
 have L:bV h (h.set j (Z B)):=bV.set λr L=>by rw[bA,z]at L;rw[hrow];exact L
 refine fw.mk' hc hH ha [jR j (km+1)] (λnx hi=>hi) (λn hn=>?_) (λnx hi b' hb'=>⟨b0,by rw[aD hi];simp[aE]at hi;subst hi;exact eZ _ _⟩) (λD A d hw1 _ hw2=>⟨λnx hi b b' hb hb2=>?_,λy hy=>hval D A y d hy⟩) hrd (λn hn=>?_) (by simp) L (hinv.set L (hinv.low j B0 z) (bK _) λty l he=>cu he (hB ty l)) (bK _)
 .by_cases ho:ow n=j
  .unfold erHF;rw[ho,PT.get_set,aD rfl,z];cases hk:ix n with
   |zero=>exact hanc _
   |succ k'=>
    refine hoth k' λe=>hn ?_
    rw[<- kZ n,ho,hk,e];simp
  .unfold erHF;rw[PT.get_set,av ho];cases hx:h.get (ow n) with
   |none=>rfl
   |some b=>exact mF L (λty l e=>hinv.G _ _ l (by rw[hx,e])) _ _
 .simp[aE]at hi;subst hi;rw[hw1 _ (by simp),eZ]at hb;rw[hw2 _ (by simp),kS,PT.get_set,aD rfl]at hb2
  grind
 .simp[aE]at hn;subst hn;rw[iS,wX];exact bq.2 rfl
def RC {xs:Y (C_ K)} {n:Nat} {A:C_ K} (hf:∀o,xs[n]? =Z o->j/3=n->wP i j s K A=wP i j s K o):rn i j s K (xs.set n A)=rn i j s K xs:=by
 unfold rn
 grind
def WJ {xs:Y (C_ K)} {n:Nat} {A:C_ K} (D:j/3=n) (L:n<l! xs):rn i j s K (xs.set n A)=Z (wP i j s K A):=by
 unfold rn
 grind
def IR {ty:TypeId} {T:Ty} {xss:Y (Y T.den)} {xs:Y T.den} (A:i≠j):rm i ty T (xss.set j xs)=rm i ty T xss:=by
 unfold rm
 grind
def NG {ty:TypeId} {T:Ty} {xss:Y (Y T.den)} {xs:Y T.den} (z:i<l! xss):rm i ty T (xss.set i xs)=ZO ty T xs:=by
 unfold rm
 grind
def Uz (h:eE i j=J):i<j:=aU h
def ajl {c:Nat} (h:i=j) (z:c<j):c<i:=by omega
def lG (a sz:Nat):∀(z:η) (k:Nat),l! (l7 a sz k z)=l! z
 |[],_=>rfl
 |l::r,k=>by simp[l7,kn,lG a sz r]
def Vq {z:HF} (d:rC S z):∀n,hP S z ((repl [.slice U 0 0] n).map .f) (aC n .emp)
 |0=>trivial
 |n+1=>⟨Le.nilEmp.toH d,Vq d n⟩
section ops
variable {R:Type} {P:Program} {bZ:TypeId->M Ty} {o:Oper} {e:ii} {h:aY} {nx:Nat} {K:KO R} {r:R} (hinv:hX h nx) (hi:sM e h)
include hinv hi
def aA4 {k v:Operand} (hc:cP P o.op=Z (.jk b c k v)) (A:pE bZ e h nx K (.jk b c k v)=Z r):je P o af e h nx K r:=by
 let⟨H,hH⟩:=gJ h;simp only[pE]at A;split at A
 .rename_i id j str L D hv hv2 hv3;split at A
  .rename_i ty S a xs hb;split at A
   .rename_i hq;simp only[al,ca]at hq;let⟨q1,q2⟩:=hq;subst q1;have q2:=Uz q2;have hk0:=cI A;let⟨hj,A⟩:=hk0;let⟨y,h1,h2⟩:=ba hi hv;let⟨y2,h3,h4⟩:=ba hi hv2;let⟨y3,h5,h6⟩:=ba hi hv3;simp[bW,Ld,ah]at h2 h4 h6;subst h2 h4 h6;have e1:3*j.toNat+2+str=3*j.toNat+1+str+1:=by omega
    let⟨_,_,hjl⟩:=mZ hj;have hg:H.get (jR id (3*j.toNat+2+str))=Z ⟨0,.mp (Ip (sO str (dZ S xs j)))⟩:=by rw[hH];exact arn hb hj q2
    rw[e1]at h1 hg;have hf:AH (.int .i64 L) (.f (.raw (.bool D))) (Ip (sO str (dZ S xs j)))=Z (Ip (uP (K:=.int .i64) (V:=.bool) L D (sO str (dZ S xs j)))):=Tb (str:=af) (K:=.int .i64) (V:=.bool) rfl L D _;have henc:gr (.int .i64) L= .raw (.int .i64 L):=rfl;have henc2:gr .bool D= .raw (.bool D):=rfl;rw[henc]at h3;rw[henc2]at h5;refine ⟨_,_,_,_,_,A,fw.wrtM (km:=3*j.toNat+1+str) (v:=.undef) (rd:=gF id) (k:=0) (y0:=raw undef) (rdl:=[jR id (3*j.toNat+1+str+1)]) (b0:=⟨0,.mp (Ip (uP (K:=.int .i64) (V:=.bool) L D (sO str (dZ S xs j))))⟩) hinv hc hH (by simp[dG,h1,h3,h5,hg,zB,bk,hf]) hb rfl (λ_ _ he=>by cases he) (λ_ _ he=>by cases he) (λ_=>rfl) (λk' hk'=>?_) (λH1 H2 d b' z=>?_) (λH1 H2 y d hy=>?_) (λn hn=>?_)⟩
    .refine RC λo' ho' hn=>?_
     rw[Dm (S:=S) hj,ah]at ho';subst ho';unfold wP;by_cases m0:k'%3=0
     .rw[aD m0,aD m0];cases str<;>rfl
     .rw[av m0,av m0];by_cases m1:k'%3=1
      .rw[aD m1,aD m1];cases str with
       |zero=>exact cu (by omega) hk'
       |succ str=>rfl
      .rw[av m1,av m1];cases str with
       |zero=>rfl
       |succ str=>exact cu (by omega) hk'
    .have z:rn id (3*j.toNat+1+str) ty S (sI xs j.toNat (v7 str (dZ S xs j) (uP (K:=.int .i64) (V:=.bool) L D (sO str (dZ S xs j)))))=Z b':=z;rw[WJ (by omega) hjl]at z;have:wP id (3*j.toNat+1+str) ty S (v7 str (dZ S xs j) (uP (K:=.int .i64) (V:=.bool) L D (sO str (dZ S xs j))))=⟨0,.mp (Ip (uP (K:=.int .i64) (V:=.bool) L D (sO str (dZ S xs j))))⟩:=by
      unfold wP;rw[av (by omega)];cases str with
      |zero=>rw[aD (by omega)];rfl
      |succ str=>rw[av (by omega)];rfl
     rw[this,ah]at z;subst z;exact gu.refl d _
    .simp[bW,ah]at hy;subst hy;exact kz.refl d _
    .simp[aE]at hn;subst hn;rw[iS];exact bq.2 rfl
   .cases A
  .cases A
 .cases A
def ar0 {v:Operand} (hc:cP P o.op=Z (.store i c v)) (A:pE bZ e h nx K (.store i c v)=Z r):je P o af e h nx K r:=by
 let⟨H,hH⟩:=gJ h;simp only[pE]at A;split at A
 .rename_i id j off y hv hv2;let⟨yb,h1,h2⟩:=ba hi hv;let⟨L,h3,h4⟩:=ba hi hv2;simp only[bW,Ld,ah]at h2;subst h2;split at A
  .rename_i ty S a xs hb;have hk0:=cI A;clear A;let⟨hj,A⟩:=hk0;let⟨_,_,hjl⟩:=mZ hj;split at A
   .rename_i z m hset;split at A
    .rename_i hm0;have hm0:=au hm0;subst hm0;have hg:H.get (pM id j)=Z ⟨ty,.mx (DN id S j (dZ S xs j))⟩:=by rw[hH];exact aro hb hj
     have hso:∀H1 H2,rC H1 H2->Sd H1 H2 L S (dZ S xs j).1 z off i:=λH1 H2 d=>ub d h4 40 S _ off i z 0 hset Fy.zero
     have hcell:=oC h4 40 S _ off i z 0 hset;let⟨fs0,q1,q2,q3,_,_⟩:=hso _ _ (rC.refl (erHF h));have hlen:L.cs.length=i:=by rw[<- q2,<-bM (f:=AV.f),q1.length]
     have hput:(BC.mx (DN id S j (dZ S xs j))).put off L.cs=Z (.mx (AI.splice (DN id S j (dZ S xs j)) off L.cs)):=by
      unfold BC.put;rw[aD]
      .rfl
      .simp only[al];refine ⟨⟨rfl,a_ ?_⟩,hcell⟩;simp only[BC.len,DN,bz,bM,bm];omega
     have ha0:dG (.store i c v) (D2 e h) H 0=Z ⟨raw undef,[pM id j],[pM id j],[(pM id j,⟨ty,.mx (AI.splice (DN id S j (dZ S xs j)) off L.cs)⟩)],[]⟩:=by
      simp only[dG,h1,h3,C8,hg,hlen,cr,bk,hput]
     refine ⟨_,_,_,_,_,A,fw.wrtM (km:=3*j.toNat) (v:=.undef) (rd:=gF id) hinv hc hH ha0 hb rfl (λ_ _ he=>by cases he) (λ_ _ he=>by cases he) (λ_=>rfl) (λk' hk'=>?_) (λH1 H2 d b' D=>?_) (λH1 H2 y d hy=>?_) (λn hn=>?_)⟩
     .refine RC λo' ho' hn=>?_
      rw[Dm (S:=S) hj,ah]at ho';subst ho';have k0:k'%3≠0:=by omega
      unfold wP;rw[av k0,av k0]
     .have D:rn id (3*j.toNat) ty S (sI xs j.toNat (z,(dZ S xs j).2))=Z b':=D;rw[WJ (by omega) hjl]at D;have:wP id (3*j.toNat) ty S (z,(dZ S xs j).2)=⟨ty,.mx (DN id S j (z,(dZ S xs j).2))⟩:=by
       unfold wP;rw[aD (by omega)];rfl
      rw[this,ah]at D;subst D;let⟨fs,p1,p2,p3,p4,p5⟩:=hso H1 H2 d;refine gu.G rfl rfl ?_ λc hx=>?_
      .simp only[BC.toMx];have e2:DN id S j (z,(dZ S xs j).2)=AI.splice (DN id S j (dZ S xs j)) off (fs.map .f):=by
        unfold DN;rw[p4];unfold AI.splice;rw[sU (by rw[bM,bm];omega),List.drop_append_of_le_length (by rw[bM,bM,bm];omega)];simp[gQ,An]
       rw[e2];exact (hP.refl d _).splice _ p1
      .simp only[BC.toMx,DN,bO]at hx;rcases hx with hx|hx
       .obtain⟨q,hq,rfl⟩:=cz.1 hx;have:∀q∈([z]:Y S.den).flatMap (bE S),q.isCell=J:=mD S [z];exact this q (by simpa using hq)
       .simp only[aV,b8,fo]at hx;rcases hx with rfl|rfl<;>rfl
     .simp only[bW,ah]at hy;subst hy;exact kz.refl d _
     .simp only[aE]at hn;subst hn;unfold pM;rw[iS];exact bq.2 rfl
    .cases A
   .cases A
  .cases A
 .rename_i id j s sz off y hv hv2;let⟨yb,h1,h2⟩:=ba hi hv;let⟨L,h3,h4⟩:=ba hi hv2;simp only[bW,Ld,ah]at h2;subst h2;split at A
  .rename_i ty T a xss hb;split at A
   .rename_i hs;have hs:=au hs;subst hs;let⟨hj,A⟩:=cI A;let⟨hji,A⟩:=cI A;let⟨_,_,hjl⟩:=mZ hj;split at A
    .rename_i z m hset;split at A
     .rename_i hm0;have hm0:=au hm0;subst hm0;generalize hxs:ry (T:=T) xss j=xs at*
      let⟨i0,i1,i2⟩:=mZ hji;have hne:xs.length≠0:=by omega
      have hg:H.get (jR id (j.toNat+1))=Z ⟨ty,.fz (xs.flatMap (bE T))⟩:=by rw[hH,<-hxs];exact acv hb hj (by rw[hxs];exact hne)
      have fl:=eK (bm T) xs;have hx:xs[sz.toNat]? =Z (geti _ xs sz):=by
       unfold geti;rw[aw,aG i2];rfl
      have hle:(sz.toNat+1)*T.size<=xs.length*T.size:=cJ _ i2;rw[jS]at hle;have hso:∀H1 H2,rC H1 H2->Sd H1 H2 L T (geti _ xs sz) z off i:=λH1 H2 d=>ub d h4 40 T _ off i z 0 hset Fy.zero
      have hcell:=oC h4 40 T _ off i z 0 hset;let⟨fs0,q1,q2,q3,_,_⟩:=hso _ _ (rC.refl (erHF h));have hlen:L.cs.length=i:=by rw[<- q2,<-bM (f:=AV.f),q1.length]
      obtain⟨c',hput,hc1,hc2⟩:∃c',(BC.fz (xs.flatMap (bE T))).put (sz.toNat*T.size+off) L.cs=Z c'/\c'.toMx=AI.splice ((xs.flatMap (bE T)).map .f) (sz.toNat*T.size+off) L.cs/\c'.isCells=J:=by
       unfold BC.put;rw[aD]
       .split
        next l ys hl hys=>simp only[BC.fz.injEq]at hl;subst hl;refine ⟨_,rfl,?_,rfl⟩;rw[nU hys];simp only[BC.toMx];unfold AI.splice;simp[gQ,An]
        .exact⟨_,rfl,rfl,rfl⟩
       .simp only[al];exact⟨⟨rfl,a_ (by simp only[BC.len];omega)⟩,hcell⟩
      have ha0:dG (.store i c v) (D2 e h) H 0=Z ⟨raw undef,[jR id (j.toNat+1)],[jR id (j.toNat+1)],[(jR id (j.toNat+1),⟨ty,c'⟩)],[]⟩:=by
       simp only[dG,h1,h3,C8,hg,hlen,cr,bk,hput]
      refine ⟨_,_,_,_,_,A,fw.wrtM (km:=j.toNat) (v:=.undef) (rd:=gF id) hinv hc hH ha0 hb rfl (λ_ _ he=>by cases he) (λ_ _ he=>by cases he) (λ_=>rfl) (λk' hk'=>IR hk') (λH1 H2 d b' D=>?_) (λH1 H2 y d hy=>?_) (λn hn=>?_)⟩
      .have D:rm j.toNat ty T (sI xss j.toNat (ch xs sz z))=Z b':=D;rw[NG hjl]at D;unfold ZO at D;have hl2:(ch xs sz z).length=xs.length:=by unfold ch;rw[dv]
       rw[av (by simp only[c4];omega),ah]at D;subst D;let⟨fs,p1,p2,p3,p4,p5⟩:=hso H1 H2 d;have hfl:(ch xs sz z).flatMap (bE T)=AI.splice (xs.flatMap (bE T)) (sz.toNat*T.size+off) fs:=Nz (bm T) xs sz.toNat _ z hx off fs (by omega) p4;refine gu.G hc2 rfl ?_ λc hx=>?_
       .rw[hc1];simp only[BC.toMx];rw[hfl];have:(AI.splice (xs.flatMap (bE T)) (sz.toNat*T.size+off) fs).map AV.f=AI.splice ((xs.flatMap (bE T)).map .f) (sz.toNat*T.size+off) (fs.map .f):=by unfold AI.splice;simp[gQ,An]
        rw[this];exact (hP.refl d _).splice _ p1
       .simp only[BC.toMx]at hx;obtain⟨q,hq,rfl⟩:=cz.1 hx;exact mD T _ q hq
      .simp only[bW,ah]at hy;subst hy;exact kz.refl d _
      .simp only[aE]at hn;subst hn;rw[iS];exact bq.2 rfl
     .cases A
    .cases A
   .cases A
  .cases A
 .rename_i id s j off rr hv hv2;let⟨yb,h1,h2⟩:=ba hi hv;let⟨L,h3,h4⟩:=ba hi hv2;simp only[bW,ah]at h2;subst h2;split at A
  .rename_i hq;simp only[al]at hq;let⟨q1,q2,q3⟩:=hq;have q1:=au q1;have q2:=au q2;have q3:=au q3;subst q1 q2 q3;split at A
   .rename_i ty z a ls ty2 p T xs hb hb2;split at A
    .rename_i hz;have hz:=au hz;subst hz;have hk0:=cI A;clear A;let⟨hj,A⟩:=hk0;have hk0:=cI A;clear A;let⟨hp,A⟩:=hk0;let⟨_,_,hjl⟩:=mZ hj;have hyy:L=dA J rr T.size xs.length:=by
      simp only[bW,bA,hb2,aF,iN,ah]at h4;rw[<- h4];cases p with
      |true=>rfl
      |false=>
       have hp:(!(ax (aj xs) 0))=J:=hp;have hp:aj xs≠0:=λe=>by rw[e]at hp;cases hp
       unfold dA;rw[av (by simp),av (by simpa using hp)]
     have hg:H.get (nm id)=Z ⟨ty,.mx (l7 a T.size 0 ls)⟩:=by rw[hH,bJ,hb];rfl
     have hcs:L.cs=[L]:=by rw[hyy];unfold dA;split<;>rfl
     have hcell:L.isCell=J:=by rw[hyy];unfold dA;split<;>rfl
     have hput:(BC.mx (l7 a T.size 0 ls)).put (j.toNat*1+0) L.cs=Z (.mx (AI.splice (l7 a T.size 0 ls) j.toNat [L])):=by
      rw[hcs,HY,dK];unfold BC.put;rw[aD]
      .rfl
      .simp only[al,gD,hcell,and_true];refine ⟨rfl,a_ ?_⟩;have hl:(l7 a T.size 0 ls).length=aj (α:=Int) ls:=lG a T.size ls 0;show j.toNat+1<=(l7 a T.size 0 ls).length;rw[hl];exact hjl
     have hlen:L.cs.length=1:=by rw[hcs];rfl
     have ha0:dG (.store 1 c v) (D2 e h) H 0=Z ⟨raw undef,[nm id],[nm id],[(nm id,⟨ty,.mx (AI.splice (l7 a T.size 0 ls) j.toNat [L])⟩)],[]⟩:=by
      simp only[dG,h1,h3,C8,hg,hlen,cr,bk,hput]
     refine ⟨_,_,_,_,_,A,fw.wrt (m:=0) (v:=.undef) (rd:=gF id) hinv hc hH ha0 hb (dN.zero h) (by simp) rfl (λ_ _ he=>by cases he) (λH1 H2 d g b' D=>?_) (λH1 H2 y d g hy=>?_) (λn hn=>?_)⟩
     .cases D;have hl:(l7 a T.size 0 ls).length=aj (α:=Int) ls:=lG a T.size ls 0;rw[YK (ajl hl hjl),hyy];exact gu.refl d _
     .simp only[bW,ah]at hy;subst hy;exact kz.refl d _
     .simp only[aE]at hn;subst hn;rw[di];exact bq.2 rfl
    .cases A
   .cases A
  .cases A
 .cases A
def fw.app1 {s:UU} (hc:cP P o.op=Z s) {a:nz} (hH:a.get=erHF h) {k n0:Nat} {y0:AV} {rdl:ι} {b0:kG} (ha:dG s (D2 e h) a k=Z ⟨y0,rdl,[nm nx,n0],[(nm nx,b0)],[nm nx]⟩) {h':aY} 
 (hsame:∀n,n≠nm nx->n≠n0->erHF h' n=erHF h n) (hne:nm nx≠n0) (hdead:erHF h' n0=U) (hnew:erHF h' (nm nx)=Z N) (hblk:∀A z,rC A z->gu A z b0 N) (hval:∀A z y,rC A z->bW h' u=Z y->kz A z y0 y)
 (hrd:∀n∈rdl,aL i (ow n)=J) (hwr:aL j (ow n0)=J) (hwn:aL j nx=J) (hrows:bV h h') (hinv':hX h' (nx+1)):fw P o af e h nx u i j h' (nx+1):=by
 have _:=hinv;have _:=hi;refine fw.mk' hc hH ha [nm nx,n0] (λrd hi=>hi) (λn D=>?_) (λrd hi b' hb'=>?_) (λA z d hw1 _ hw2=>⟨λrd hi b b' hb1 hb2=>?_,λy hy=>hval A z y d hy⟩) hrd (λn D=>?_) (λn D=>by simp[aE]at D;subst D;rw[di];omega) hrows hinv' (by omega)
 .grind
 .simp[aV,b8,fo]at hi;rcases hi with rfl|rfl
  .exact⟨_,by rw[aD (by simp)];exact eZ _ _⟩
  .grind
 .simp[aV,b8,fo]at hi;rcases hi with rfl|rfl
  .rw[hw1 _ (by simp),eZ]at hb1
   grind
  .grind
 .simp[aV,b8,fo]at D;rcases D with rfl|rfl
  .rw[di];exact hwn
  .exact hwr
def fw.app0 {s:UU} (hc:cP P o.op=Z s) {a:nz} (hH:a.get=erHF h) {k:Nat} {y0:AV} {rdl:ι} {b0:kG} (ha:dG s (D2 e h) a k=Z ⟨y0,rdl,[nm nx],[(nm nx,b0)],[nm nx]⟩) {h':aY} 
 (hsame:∀n,n≠nm nx->erHF h' n=erHF h n) (hnew:erHF h' (nm nx)=Z N) (hblk:∀A z,rC A z->gu A z b0 N) (hval:∀A z y,rC A z->bW h' u=Z y->kz A z y0 y)
 (hrd:∀n∈rdl,aL i (ow n)=J) (hwn:aL j nx=J) (hrows:bV h h') (hinv':hX h' (nx+1)):fw P o af e h nx u i j h' (nx+1):=by
 have _:=hinv;have _:=hi;refine fw.mk' hc hH ha [nm nx] (λrd hi=>hi) (λn D=>?_) (λrd hi b' hb'=>?_) (λA z d L _ hw2=>⟨λrd hi b b' hb1 hb2=>?_,λy hy=>hval A z y d hy⟩) hrd (λn D=>?_) (λn D=>by simp[aE]at D;subst D;rw[di];omega) hrows hinv' (by omega)
 .grind
 .simp[aE]at hi;subst hi;exact⟨_,by rw[aD (by simp)];exact eZ _ _⟩
 .simp[aE]at hi;subst hi;rw[L _ (by simp),eZ]at hb1
  grind
 .simp[aE]at D;subst D;rw[di];exact hwn
def aAb {ty:Operand} (hc:cP P o.op=Z (.app s i j ty c)) (z:pE bZ e h nx K (.app s i j ty c)=Z r):je P o af e h nx K r:=by
 let⟨H,hH⟩:=gJ h;have hfr:=hinv.fresh;simp only[pE]at z;split at z
 .rename_i id id2 hv hv2;let⟨yb,h1,h2⟩:=ba hi hv;let⟨yy,h3,h4⟩:=ba hi hv2;simp only[bW,ah]at h4;subst h4;split at z
  .rename_i ty' a D tyc a' bytes hb hb2;split at z
   .rename_i hq;simp only[al,ca]at hq;let⟨⟨q1,q2⟩,q3,q4⟩:=hq;have q1:=au q1;have q2:=eq_of_beq q2;have q3:=au q3;have q4:id≠id2:=λe=>by rw[e,fU]at q4;cases q4
    subst q1 q2 q3;have hk0:=cI z;clear z;let⟨hroom,z⟩:=hk0;have hrow:=adl hH hb2 (l':=[.P (pM a bytes) 0]) rfl (n:=1) (sz:=1) rfl;have hidlt:=hinv.low id _ hb;have hne:nx≠id:=by omega
    have hroom:be (aj (α:=Int) D+1) j=J:=hroom;simp only[bW,bA,hb,aF,iN,sk,ah]at h2;generalize hh':(h.set id (Z (.qj J 1 (aj (α:=Int) D)))).set nx (Z (.Q (.qn s) a (sV (α:=Int) D [bytes])))=h' at z;have A:∀sz,h'.get sz=if sz=nx then Z (.Q (.qn s) a (sV (α:=Int) D [bytes])) else if sz=id then Z (.qj J 1 (aj (α:=Int) D)) else h.get sz:=λsz=>by rw[<- hh',PT.get_set,PT.get_set]
    have hr:bV h h':=λsz r hi=>by
     rw[bA]at hi ⊢;rw[A];by_cases e1:sz=nx
     .rw[e1,hfr]at hi;cases hi
     .rw[av e1];by_cases e2:sz=id
      .rw[aD e2];rw[e2,hb]at hi;exact hi
      .rw[av e2];exact hi
    have hinv':hX h' (nx+1):=by
     refine ⟨λsz s l hil=>?_,λsz x hic=>?_⟩
     .rw[A]at hil;split at hil
      .cases hil
      .split at hil
       .cases hil
       .exact fA hr l (hinv.G sz _ l hil)
     .rw[A]at hic;split at hic
      .omega
      .split at hic
       .omega
       .have:=hinv.low sz x hic;omega
    have hsame:∀n,n≠nm nx->n≠nm id->erHF h' n=erHF h n:=λn e1 e2=>by
     unfold erHF;rw[A (ow n)];by_cases f1:ow n=nx
     .rw[aD f1,f1,hfr];simp only[aF,Option.bind_none];cases hx:ix n with
      |zero=>exact cu (by rw[pq hx,f1]) e1
      |succ k=>rfl
     .rw[av f1];by_cases f2:ow n=id
      .rw[aD f2,f2,hb];simp only[aF];cases hx:ix n with
       |zero=>exact cu (by rw[pq hx,f2]) e2
       |succ k=>rfl
      .rw[av f2];cases hx:h.get (ow n) with
       |none=>rfl
       |some b=>exact mF hr (λs l e=>hinv.G _ _ l (by rw[hx,e])) _ _
    have hdead:erHF h' (nm id)=U:=by rw[bJ,A,av (by omega),aD rfl];rfl
    have hl2:aj (α:=Int) (sV (α:=Int) D [bytes])=aj (α:=Int) D+1:=by
     exact (λ(a b:η)=>(bz:(a++b).length=a.length+b.length)) D [bytes]
    have hnew:erHF h' (nm nx)=Z ⟨s,.mx (gM (λbytes=>.P (pM a bytes) 0) D++[.P (pM a bytes) 0])⟩:=by
     rw[bJ,A,aD rfl];simp only[aF,kJ,ux];rw[av (by simp only[c4];omega)];have:gM (λbytes=>AV.P (pM a bytes) 0) (sV (α:=Int) D [bytes])=gM (λbytes=>AV.P (pM a bytes) 0) D++[.P (pM a bytes) 0]:=by
      exact cG (f:=λbytes:Int=>AV.P (pM a bytes) 0) (l₁:=(D:η)) (l₂:=[bytes])
     rw[this]
    have hval:bW h' (.I nx)=Z (.I (nm nx) 1 (aj (α:=Int) D+1)):=by
     simp only[bW,bA,A,bk,aF,iN,sk,dA,hl2];rw[av (by simp)]
    have hblk:∀H1 H2,rC H1 H2->gu H1 H2 ⟨s,oy (gM (λbytes=>.P (pM a bytes) 0) D++[.P (pM a bytes) 0])⟩ ⟨s,.mx (gM (λbytes=>.P (pM a bytes) 0) D++[.P (pM a bytes) 0])⟩:=λH1 H2 d=>by
     let⟨p1,p2⟩:=nQ (gM (λbytes=>AV.P (pM a bytes) 0) D++[.P (pM a bytes) 0]);exact gu.eq d p2 rfl p1
    have w1:aL (gF id|||gF nx) nx=J:=by rw[bu,bq.2 (rfl:nx=nx)];simp
    have hrd:∀n∈[nm id2],aL (gF id|||gF id2) (ow n)=J:=λn L=>by
     simp only[aE]at L;subst L;rw[di,bu,bq.2 (rfl:id2=id2)];simp
    refine ⟨_,_,_,_,_,z,?_⟩;by_cases hz:aj (α:=Int) D=0
    .have hyb:yb= .emp:=by rw[<- h2];unfold dA;rw[hz];rfl
     subst hyb;have hnil:D=[]:=dk.1 hz;subst hnil;have hroom:be 1 j=J:=hroom;refine fw.app0 hinv hi hc hH (k:=nm nx) (y0:=.I (nm nx) 1 1) (rdl:=[nm id2]) (b0:=⟨s,oy [.P (pM a bytes) 0]⟩) (by simp only[dG,h1,h3,hrow];simp[Fh,hroom]) (λn L=>?_) hnew (hblk) (λH1 H2 y d hy=>by rw[hval]at hy;cases hy;exact kz.refl d _) hrd w1 hr hinv';by_cases e2:n=nm id
     .subst e2;rw[hdead,bJ,hb];rfl
     .exact hsame n L e2
    .have hyb:yb= .I (nm id) 1 (aj (α:=Int) D):=by
      rw[<- h2];unfold dA;rw[av (by simpa using hz)]
     subst hyb;have hg:H.get (nm id)=Z ⟨s,.mx (gM (λbytes=>.P (pM a bytes) 0) D)⟩:=by
      rw[hH,bJ,hb];simp only[aF,kJ,ux];rw[av (by simpa using hz)]
     have hmm:mem (nm id) [nm id2]=af:=by
      cases hx:mem (nm id) [nm id2] with
      |false=>rfl
      |true=>
       have:=ajj.1 hx;simp only[aE]at this;exact cu (uN this) q4
     refine fw.app1 hinv hi hc hH (k:=nm nx) (n0:=nm id) (y0:=.I (nm nx) 1 (aj (α:=Int) D+1)) (rdl:=[nm id,nm id2]) (b0:=⟨s,oy (gM (λbytes=>.P (pM a bytes) 0) D++[.P (pM a bytes) 0])⟩) ?_ hsame (λe=>hne (uN e)) hdead hnew hblk (λH1 H2 y d hy=>by rw[hval]at hy;cases hy;exact kz.refl d _) (λn L=>?_) (by rw[di,bu,bq.2 (rfl:id=id)];rfl) w1 hr hinv'
     .have hlen:(gM (λbytes=>AV.P (pM a bytes) 0) D).length=aj (α:=Int) D:=bM ..;simp only[dG,h1,h3,hrow,hg];rw[aD (by
       simp only[cr,cY,Bool.and_true,BC.isCells,BC.len,hroom,al,ca];exact⟨hmm,a_ (by omega)⟩)]
      simp only[BC.toMx,gz (show (gM (λbytes=>AV.P (pM a bytes) 0) D).length<=aj (α:=Int) D*1 by omega)]
     .rcases aV.1 L with rfl|L
      .rw[di,bu,bq.2 (rfl:id=id)];rfl
      .exact hrd n L
   .cases z
  .cases z
 .rename_i id bytes sb n y hv hv2;let⟨yb,h1,h2⟩:=ba hi hv;let⟨yy,h3,h4⟩:=ba hi hv2;simp only[bW,Ld,ah]at h2;split at z
  .rename_i ty' T a xss hb;split at z
   .rename_i hq;simp only[al]at hq;let⟨q1,q2,q3⟩:=hq;have q1:=au q1;have q2:=au q2;have q3:=eq_of_beq q3;subst q1 q2 q3;have hk0:=cI z;clear z;let⟨hj,z⟩:=hk0;split at z
    .rename_i ys m hys;split at z
     .cases z
     .rename_i hmid;have hmid:aL m id=af:=by simpa using hmid
      have hk0:=cI z;clear z;let⟨hqq,z⟩:=hk0;simp only[al]at hqq;let⟨L,hroom⟩:=hqq;have L:=au L;let⟨rdl,h5,h6⟩:=SS hH hys h4;generalize hxs:ry (T:=T) xss bytes=xs at*
      have hidlt:=hinv.low id _ hb;have hne:nx≠id:=by omega
      let⟨_,_,hjl⟩:=mZ hj;generalize hh':(h.set id (Z (.Q (.ir s T) a (vY (T:=T) xss bytes [])))).set nx (Z (.H s J T (xs++ys)))=h' at z;have A:∀sz,h'.get sz=if sz=nx then Z (.H s J T (xs++ys)) else if sz=id then Z (.Q (.ir s T) a (vY (T:=T) xss bytes [])) else h.get sz:=λsz=>by rw[<- hh',PT.get_set,PT.get_set]
      have hr:bV h h':=λsz r hi=>by
       rw[bA]at hi ⊢;rw[A];by_cases e1:sz=nx
       .rw[e1,hfr]at hi;cases hi
       .rw[av e1];by_cases e2:sz=id
        .rw[aD e2];rw[e2,hb]at hi;exact hi
        .rw[av e2];exact hi
      have hinv':hX h' (nx+1):=by
       refine ⟨λsz s l hil=>?_,λsz x hic=>?_⟩
       .rw[A]at hil;split at hil
        .cases hil
        .split at hil
         .cases hil
         .exact fA hr l (hinv.G sz _ l hil)
       .rw[A]at hic;split at hic
        .omega
        .split at hic
         .omega
         .have:=hinv.low sz x hic;omega
      have hsame:∀n,n≠nm nx->n≠jR id (bytes.toNat+1)->erHF h' n=erHF h n:=λn e1 e2=>by
       unfold erHF;rw[A (ow n)];by_cases f1:ow n=nx
       .rw[aD f1,f1,hfr];simp only[aF,Option.bind_none];cases hx:ix n with
        |zero=>exact cu (by rw[pq hx,f1]) e1
        |succ k=>rfl
       .rw[av f1];by_cases f2:ow n=id
        .rw[aD f2,f2,hb];simp only[aF];cases hx:ix n with
         |zero=>rfl
         |succ k=>
          refine IR (T:=T) λe3=>?_
          exact e2 (by rw[<- kZ n,hx,f2,e3])
        .rw[av f2];cases hx:h.get (ow n) with
         |none=>rfl
         |some b=>exact mF hr (λs l e=>hinv.G _ _ l (by rw[hx,e])) _ _
      have hdead:erHF h' (jR id (bytes.toNat+1))=U:=by
       rw[kS,A,av (by omega),aD rfl];exact NG (T:=T) hjl
      have hnew:erHF h' (nm nx)=if (xs++ys).length==0 then U else Z ⟨s,.fz ((xs++ys).flatMap (bE T))⟩:=by
       rw[bJ,A,aD rfl];rfl
      have hval:bW h' (.I nx)=Z (dA J nx T.size (xs++ys).length):=by
       simp only[bW,bA,A,bk,aF,iN]
      have w1:aL (gF id|||gF nx) nx=J:=by rw[bu,bq.2 (rfl:nx=nx)];simp
      have hrd:∀n∈rdl,aL (gF id|||m) (ow n)=J:=λn L=>by
       obtain⟨sz,rfl,hm⟩:=h6 n L;rw[di,bu,hm];simp
      refine ⟨_,_,_,_,_,z,?_⟩;by_cases hz:n=0
      .subst hz;have hyb:yb= .emp:=by rw[<- h2];rfl
       subst hyb;have hnil:xs=[]:=dk.1 L.symm;have hold:erHF h (jR id (bytes.toNat+1))=U:=by
        rw[kS,hb];show rm bytes.toNat s T xss=U;unfold rm;rw[Vv hj,hxs,hnil];rfl
       have hsame0:∀n,n≠nm nx->erHF h' n=erHF h n:=λn L=>by
        by_cases e2:n=jR id (bytes.toNat+1)
        .subst e2;rw[hdead,hold]
        .exact hsame n L e2
       rw[bX]at hroom;rw[hnil,lq]at hnew hval;have ha0:dG (.app s T.size j ty c) (D2 e h) H (nm nx)=if aj ys==0 then Z ⟨.emp,rdl,[],[],[]⟩ else Z ⟨.I (nm nx) T.size (aj ys),rdl,[nm nx],[(nm nx,⟨s,oy ((ys.flatMap (bE T)).map .f)⟩)],[nm nx]⟩:=by
        simp only[dG,h1,h3,h5,Fh,hroom,fx,bk]
       by_cases hl:aj ys=0
       .rw[hl]at ha0;simp only[cr,bk]at ha0;have hnil2:ys=[]:=dk.1 hl;refine fw.mk' hc hH ha0 [] (by simp) (λn _=>?_) (by simp) (λH1 H2 d _ _ _=>⟨by simp,λy hy=>?_⟩) hrd (by simp) (by simp) hr hinv' (by omega)
        .by_cases e1:n=nm nx
         .subst e1;rw[hnew,hnil2,bJ,hfr];rfl
         .exact hsame0 n e1
        .rw[hval,hnil2]at hy;cases hy;exact kz.refl d _
       .rw[av (by simpa using hl),wA]at ha0;rw[av (by simpa using hl)]at hnew;refine fw.app0 hinv hi hc hH ha0 hsame0 hnew (λH1 H2 d=>gu.refl d _) (λH1 H2 y d hy=>?_) hrd w1 hr hinv';rw[hval]at hy;unfold dA at hy;rw[av (by simpa using hl)]at hy;cases hy;exact kz.refl d _
      .have hyb:yb= .I (jR id (bytes.toNat+1)) T.size n:=by rw[<- h2];unfold uM;rw[av (by simpa using hz)]
       subst hyb;have hg:H.get (jR id (bytes.toNat+1))=Z ⟨s,.fz (xs.flatMap (bE T))⟩:=by rw[hH,<-hxs];exact acv hb hj (by rw[hxs];omega)
       have fl:=eK (bm T) xs;have tk:(xs.flatMap (bE T)).take (n*T.size)=xs.flatMap (bE T):=by rw[L,<-fl,cQ]
       have hmem:mem (jR id (bytes.toNat+1)) rdl=af:=by
        cases hx:mem (jR id (bytes.toNat+1)) rdl with
        |false=>rfl
        |true=>
         let⟨sz,e,hm⟩:=h6 _ (ajj.1 hx);have:=(vy e).2;omega
       have ha0:dG (.app s T.size j ty c) (D2 e h) H (nm nx)=Z ⟨.I (nm nx) T.size (n+ys.length),jR id (bytes.toNat+1)::rdl,[nm nx,jR id (bytes.toNat+1)],[(nm nx,⟨s,.fz ((xs++ys).flatMap (bE T))⟩)],[nm nx]⟩:=by
        have hcnd:(T.size==T.size&& !(mem (jR id (bytes.toNat+1)) rdl)&&(BC.fz (xs.flatMap (bE T))).isCells&&dR (n*T.size) (BC.fz (xs.flatMap (bE T))).len&&s==s&&be (n+ys.length) j)=J:=by
         have:dR (n*T.size) (BC.fz (xs.flatMap (bE T))).len=J:=a_ (by simp only[BC.len];rw[L];omega);rw[this,hmem,hroom];simp[BC.isCells]
        simp only[dG,h1,h3,h5,hg,hcnd,bk,BC.toMx,<-gQ,tk,<-cG,wA,yG]
       have hl3:(xs++ys).length=n+ys.length:=by rw[bz,L]
       rw[av (by simp only[c4];omega)]at hnew;refine fw.app1 hinv hi hc hH ha0 hsame (λe=>by have:=(vy e).2;omega) hdead hnew (λH1 H2 d=>gu.refl d _) (λH1 H2 y d hy=>?_) (λn' hn'=>?_) (by rw[iS,bu,bq.2 (rfl:id=id)];rfl) w1 hr hinv'
       .rw[hval,hl3]at hy;unfold dA at hy;rw[av (by simp only[cY,c4];omega)]at hy;cases hy;exact kz.refl d _
       .rcases aV.1 hn' with rfl|hn'
        .rw[iS,bu,bq.2 (rfl:id=id)];rfl
        .exact hrd _ hn'
    .cases z
   .cases z
  .cases z
 .rename_i b id bytes sb n _ hv hv2;let⟨yb,h1,h2⟩:=ba hi hv;let⟨yy,h3,h4⟩:=ba hi hv2;simp only[bW,Ld,ah]at h4;split at z
  .rename_i tyi T a xss hb;split at z
   .rename_i hq;simp only[al]at hq;let⟨q1,q2⟩:=hq;have q1:=au q1;have q2:=au q2;subst q1 q2;have hk0:=cI z;clear z;let⟨hj,z⟩:=hk0;have hk0:=cI z;clear z;let⟨L,z⟩:=hk0;have L:=au L;generalize hxs:ry (T:=T) xss bytes=xs at*
    by_cases hz:n=0
    .have hyy:yy= .emp:=by rw[<- h4];unfold uM;rw[aD (by simpa using hz)]
     have hnil:xs=[]:=dk.1 (by omega);subst hyy hnil;exact UC hinv hi hH (rdl:=[]) hc h1 h2 h3 rfl (by simp) z
    .have hyy:yy= .I (jR id (bytes.toNat+1)) T.size n:=by rw[<- h4];unfold uM;rw[av (by simpa using hz)]
     subst hyy;have hg:H.get (jR id (bytes.toNat+1))=Z ⟨tyi,.fz (xs.flatMap (bE T))⟩:=by rw[hH,<-hxs];exact acv hb hj (by rw[hxs];omega)
     have fl:=eK (bm T) xs;have tk:(xs.flatMap (bE T)).take (n*T.size)=xs.flatMap (bE T):=by rw[L,<-fl,cQ]
     have hb2:dR (n*T.size) (xs.flatMap (bE T)).length=J:=a_ (by rw[L];omega);refine UC hinv hi hH (rdl:=[jR id (bytes.toNat+1)]) hc h1 h2 h3 ?_ (λq hq=>by simp only[aE]at hq;subst hq;rw[iS];exact bq.2 rfl) z;simp only[AV.row?,cr,bk,hg,BC.isCells,cY,BC.len,hb2,BC.toMx];rw[<- gQ,tk,L]
   .cases z
  .cases z
 .cases z
def awd {l:Operand} (hc:cP P o.op=Z (.zm s i j L l c)) (A:pE bZ e h nx K (.zm s i j L l c)=Z r):je P o af e h nx K r:=by
 let⟨H,hH⟩:=gJ h;have hfr:=hinv.fresh;simp only[pE]at A;split at A
 .rename_i q T k a k' b hty hv hv2;split at A
  .rename_i hq;simp only[al]at hq;let⟨q1,q2⟩:=hq;have q1:=au q1;subst q1;have hz:L=[.slice U 0 0]:=by
    unfold ajs at q2
    grind
   subst hz;let⟨hcond,A⟩:=cI A;let⟨y,h1,h2⟩:=ba hi hv;let⟨y2,h3,h4⟩:=ba hi hv2;simp[bW,ah]at h2 h4;subst h2 h4;generalize hn:aN a=n at A;have ha0:dG (.zm s 1 j [.slice U 0 0] l c) (D2 e h) H (nm nx)=Z ⟨.I (nm nx) 1 n,[],[nm nx],[(nm nx,⟨s,.fz (repl [.slice U 0 0] n)⟩)],[nm nx]⟩:=by
    simp[dG,h1,h3,gr,hcond,bk,hn]
   generalize hh':(h.set nx (Z (.Q (.rr s T.size) (nx+1) (aC n (0:Int))))).set (nx+1) (Z (.Q (.ir (stN q) T) 0 (aC n ([]:Y T.den))))=h' at A;have hg:∀sz,h'.get sz=if sz=nx+1 then Z (.Q (.ir (stN q) T) 0 (aC n ([]:Y T.den))) else if sz=nx then Z (.Q (.rr s T.size) (nx+1) (aC n (0:Int))) else h.get sz:=λsz=>by
    rw[<- hh',PT.get_set,PT.get_set]
   have hfr2:h.get (nx+1)=U:=by
    cases D:h.get (nx+1) with
    |none=>rfl
    |some b=>have:=hinv.low _ b D;omega
   have hr:bV h h':=λsz r hi=>by
    rw[bA]at hi ⊢
    grind
   have hl:aj (α:=Int) (aC n (0:Int))=n:=cU ..;have hall:∀(m k:Nat),l7 (nx+1) T.size k (aC m (0:Int))=aC m .emp:=λm=>by
    induction m with
    |zero=>intro k;rfl
    |succ m ih=>intro k;rw[yE,yE];simp[l7,ih];rfl
   have hnew:erHF h' (nm nx)=Z ⟨s,.mx (aC n .emp)⟩:=by
    rw[bJ,hg,av (by omega),aD rfl];show Z (kG.mk s (.mx (l7 (nx+1) T.size 0 (aC n (0:Int)))))=_;rw[hall]
   refine ⟨_,_,_,_,_,A,fw.mk' hc hH ha0 [nm nx] (λsz hi=>hi) (λm hm=>?_) (λsz hi b' hb'=>?_) (λH1 H2 d hw1 _ hw2=>⟨λsz hi b b' hb1 z=>?_,λy hy=>?_⟩) (by simp) (λm hm=>?_) (λm hm=>?_) hr ⟨λsz s l hil=>?_,λsz c' hic=>?_⟩ (by omega)⟩
   .have hm:m≠nm nx:=by simpa using hm
    unfold erHF;rw[hg];by_cases f0:ow m=nx+1
    .rw[aD f0,f0,hfr2];cases ix m with
     |zero=>rfl
     |succ k=>
      show rm k (stN q) T (aC n ([]:Y T.den))=U;unfold rm;rw[dl];split<;>rfl
    .rw[av f0];by_cases f1:ow m=nx
     .rw[aD f1,f1,hfr];cases D:ix m with
      |zero=>exact cu (by rw[pq D,f1]) hm
      |succ k=>rfl
     .rw[av f1];cases D:h.get (ow m) with
      |none=>rfl
      |some b=>exact mF hr (λs l e=>hinv.G _ _ l (by rw[D,e])) _ _
   .simp[aE]at hi;subst hi;exact⟨_,by rw[aD (by simp)];exact eZ _ _⟩
   .simp[aE]at hi;subst hi;rw[hw1 _ (by simp),eZ]at hb1;rw[hw2 _ (by simp),hnew]at z;simp[ah]at hb1 z;subst hb1 z;refine gu.G rfl rfl ?_ λx D=>?_
    .simp[BC.toMx];exact Vq d n
    .simp only[BC.toMx]at D;rw[List.mem_replicate]at D;rw[D.2];rfl
   .simp only[bW,bA,hg,bk]at hy;rw[av (by omega)]at hy;simp only[aF,iN,sk,dA,gO,cL,dF,ah]at hy;subst hy;rw[hl];exact kz.refl d _
   .simp[aE]at hm;subst hm;rw[di];exact bq.2 rfl
   .simp[aE]at hm;subst hm;rw[di];omega
   .rw[hg]at hil;split at hil
    .cases hil
    .split at hil
     .cases hil
     .exact fA hr l (hinv.G sz _ l hil)
   .rw[hg]at hic;split at hic
    .omega
    .split at hic
     .omega
     .have:=hinv.low sz c' hic;omega
  .cases A
 .cases A
end ops
mutual
def FV.fl:FV->Bool
 |.raw _=>J
 |.agg l=>FV.flL l
 |.sl _ _=>af
 |.P _ _=>af
def FV.flL:Y FV->Bool
 |[]=>J
 |x::r=>x.fl&&FV.flL r
end
def ad4:∀{l:Y FV},FV.flL l=J->∀x∈l,x.fl=J
 |[],_,x,z=>by cases z
 |y::l,h,x,z=>by
  simp[FV.flL,al]at h;rcases aV.1 z with rfl|z
  .exact h.1
  .exact ad4 h.2 x z
def akl:∀{l:Y FV},(∀x∈l,x.fl=J)->FV.flL l=J
 |[],_=>rfl
 |y::l,h=>by simp[FV.flL,al];exact⟨h y (by simp),akl λx z=>h x (by grind)⟩
def ny.flat {O':Nat->Prop} {w':World} {x:FV} (h:ny O w x v):x.fl=J->ny O' w' x v:=by
 induction h with
 |raw v=>intro _;exact .raw v
 |agg cells vs hl hcl D z=>intro h;exact .agg cells vs hl hcl λj x v A hv=>z j x v A hv (ad4 h x (a8 A))
 |_=>intro h;cases h
mutual
def AV.fl:AV->Bool
 |.f x=>x.fl
 |.emp=>J
 |.qw=>J
 |.agg l|.qb l=>AV.flL l
 |.P _ _=>af
 |.sl _ _ _=>af
 |.I _ _ _=>af
 |.mp _=>af
 |.qy _ l=>AV.flL l
 |.qc _ _=>af
def AV.flL:Y AV->Bool
 |[]=>J
 |x::r=>x.fl&&AV.flL r
end
def HI:∀{l:Y AV},AV.flL l=J->∀x∈l,x.fl=J
 |[],_,x,z=>by cases z
 |y::l,h,x,z=>by
  simp[AV.flL,al]at h;rcases aV.1 z with rfl|z
  .exact h.1
  .exact HI h.2 x z
def ae1:∀{l:Y AV},(∀x∈l,x.fl=J)->AV.flL l=J
 |[],_=>rfl
 |y::l,h=>by simp[AV.flL,al];exact⟨h y (by simp),ae1 λx z=>h x (by grind)⟩
def co.flat {φ':PM} {O':Nat->Prop} {w':World} (h:co V O w y v):y.fl=J->co φ' O' w' y v:=by
 induction h with
 |f h=>intro hf;exact .f (h.flat hf)
 |emp=>intro _;exact .emp
 |qw=>intro _;exact .qw
 |agg L hcl hr A=>intro hf;exact .agg L hcl λj y v z D=>A j y v z D (HI hf y (a8 z))
 |qb L hr A=>intro hf;exact .qb L λj y v z D=>A j y v z D (HI hf y (a8 z))
 |qy L hr A=>intro hf;exact .qy L λj y v z D=>A j y v z D (HI hf y (a8 z))
 |_=>intro hf;cases hf
mutual
def atz (γ:Nat->Nat):∀x:AV,x.fl=J->x.qx γ=x
 |.f x,_|.emp,_|.qw,_=>rfl
 |.agg l,h|.qb l,h=>by simp[AV.qx];rw[G0 γ l h]
 |.P _ _,h|.sl _ _ _,h|.qc _ _,h|.I _ _ _,h|.mp _,h=>by cases h
 |.qy _ l,h=>by simp[AV.qx];rw[G0 γ l h]
def G0 (γ:Nat->Nat):∀l:Y AV,AV.flL l=J->AV.renL γ l=l
 |[],_=>rfl
 |x::r,h=>by
  simp[AV.flL,al]at h;rw[AV.renL,atz γ x h.1,G0 γ r h.2]
end
def Dy:∀(T:Ty),T.flat=J->∀x:T.den,∀y∈bE T x,y.fl=J
 |.int _,_,x,y,z|.bool,_,x,y,z|.str,_,x,y,z=>by simp[bE,aE]at z;subst z;rfl
 |.sl _,h,x,y,z=>by cases h
 |.st t,h,x,y,z=>Dy t h x y z
 |.pr a b,h,x,y,z=>by
  simp[Ty.flat,al]at h;simp[bE,bO]at z;exact z.elim (Dy a h.1 x.1 y) (Dy b h.2 x.2 y)
 |.un,_,x,y,z=>by simp[bE]at z
 |.ex,h,_,_,_|.sm,h,_,_,_=>by cases h
def apc (T:Ty) (h:T.flat=J) (x:T.den):(gr T x).fl=J:=by
 cases z:T.one with
 |true=>
  have:=Dy T h x (gr T x) (by rw[(NX T x z).1];simp);exact this
 |false=>rw[sq T x z];exact akl (Dy T h x)
def U7 (a b:Ty):(spr a b).flat=(a.flat&&b.flat):=by
 cases a<;>cases b<;>simp[spr,KL,Ty.flat]
def MT :∀{a b:Y TV},rz i (a++b)=J->rz i a=J/\rz i b=J
 |[],b,h=>⟨rfl,h⟩
 |x::r,b,h=>by
  simp[gR,rz,al]at h ⊢;let⟨h1,z⟩:=MT h.2;exact⟨⟨h.1,h1⟩,z⟩
def ac3 {z:Y q!} (h:rz 0 (z.map λp=>.P (g p.1) p.2)=J):z=[]:=by
 cases z with
 |nil=>rfl
 |cons p r=>simp[rz,JF]at h
mutual
def anv {g:Nat->Nat} {h:aY}:∀(p:PV) (x:p.ty.den) (cs:Y TV) (l:Y AV),p.ty.flat=J->nV g p x=Z cs->rz 0 cs=J->cN h cs=Z l->∀y∈l,y.fl=J
 |.d T,x,cs,l,hf,hp,_,hl,y,hy=>by
  have:=(nh h 40 T x cs hp).1;rw[hl]at this;cases this;obtain⟨q,hq,rfl⟩:=cz.1 hy;exact Dy T hf x q hq
 |.P i q,x,cs,l,hf,hp,hlt,hl,y,hy|.qg i q z,x,cs,l,hf,hp,hlt,hl,y,hy=>by
  simp only[nV,ah]at hp;subst hp;simp[rz,JF]at hlt
 |.qy q ps,x,cs,l,hf,hp,hlt,hl,y,hy=>by
  simp only[nV,ah]at hp;subst hp;simp only[rz,JF,al]at hlt;have:=ac3 hlt.1;subst this;simp only[cN,bW,Dd,ah]at hl;subst hl;rw[aE]at hy;subst hy;rfl
 |.ob i q,x,cs,l,hf,hp,hlt,hl,y,hy|.nr i q,x,cs,l,hf,hp,hlt,hl,y,hy|.I i,x,cs,l,hf,hp,hlt,hl,y,hy|.mp i,x,cs,l,hf,hp,hlt,hl,y,hy=>by
  simp only[nV,ah]at hp;subst hp;simp[rz,JF]at hlt
 |.nil,x,cs,l,hf,hp,hlt,hl,y,hy|.emp,x,cs,l,hf,hp,hlt,hl,y,hy=>by
  simp only[nV,ah]at hp;subst hp;simp only[cN,bW,ah]at hl;subst hl;simp only[aE]at hy;subst hy;rfl
 |.agg ps,x,cs,l,hf,hp,hlt,hl,y,hy=>Mr ps x cs l hf hp hlt hl y hy
def Mr {g:Nat->Nat} {h:aY}:∀(ps:Y PV) (x:(PV.tyL ps).den) (cs:Y TV) (l:Y AV),(PV.tyL ps).flat=J->sN g ps x=Z cs->rz 0 cs=J->cN h cs=Z l->∀y∈l,y.fl=J
 |[],x,cs,l,hf,hp,hlt,hl,y,hy=>by
  simp only[sN,ah]at hp;subst hp;simp only[cN,ah]at hl;subst hl;cases hy
 |p::ps,x,cs,l,hf,hp,hlt,hl,y,hy=>by
  simp only[PV.tyL]at hf;rw[U7,al]at hf;simp only[sN]at hp;split at hp
  .rename_i a ha;split at hp
   .rename_i b hb;cases hp;obtain⟨a',b',rfl,e1,e2⟩:=Fp hl;have hsp:=MT hlt;rcases bO.1 hy with hy|hy
    .exact anv p _ a a' hf.1 ha hsp.1 e1 y hy
    .exact Mr ps _ b b' hf.2 hb hsp.2 e2 y hy
   .cases hp
  .cases hp
end
def ant {p:PV} {x:p.ty.den} (hf:p.ty.flat=J) (hp:rF g p x=Z u) (hlt:JF 0 u=J) (A:bW h u=Z y):y.fl=J:=by
 cases p with
 |d T=>
  simp only[rF,ah]at hp;subst hp;simp only[bW,ah]at A;subst A;exact apc T hf x
 |agg L=>
  simp only[rF]at hp;split at hp
  .rename_i l hl;cases hp;simp only[bW]at A;split at A
   next l' D=>cases A;exact ae1 (Mr L _ l l' hf hl hlt D)
   .cases A
  .cases hp
 |qy q L=>
  simp only[rF,ah]at hp;subst hp;have:=ac3 hlt;subst this;simp only[bW,cN,Dd,ah]at A;subst A;rfl
 |nil|emp=>simp only[rF,ah]at hp;subst hp;simp only[bW,ah]at A;subst A;rfl
 |_=>simp only[rF,ah]at hp;subst hp;simp[JF]at hlt
def Vy :∀(A:Y PV) (x:(PV.tyL A).den) (z:Y TV) (l:Y AV),(PV.tyL A).flat=J->rE g A x=Z z->rz 0 z=J->cN h z=Z l->AV.flL l=J
 |[],x,z,l,hf,hp,hlt,D=>by
  simp[rE,ah]at hp;subst hp;simp[cN,ah]at D;subst D;rfl
 |p::A,x,z,l,hf,hp,hlt,D=>by
  simp[PV.tyL]at hf;rw[U7,al]at hf;simp[rE]at hp;split at hp
  .rename_i a ha;split at hp
   next b hb=>simp[ah]at hp;subst hp;obtain⟨y,L,rfl,e1,e2⟩:=c6 D;simp[rz,al]at hlt;simp[AV.flL,al];exact⟨ant hf.1 ha hlt.1 e1,Vy A _ b L hf.2 hb hlt.2 e2⟩
   .cases hp
  .cases hp
def anf:∀{l:Y AV},AV.flL l=J->(FP l).fl=J
 |[],_=>rfl
 |[x],h=>by simp only[AV.flL,al]at h;exact h.1
 |x::y::r,h=>h
def apq {o:Oper} {e:ii} {c:cw} (hinv:hX h i) (sp:rx T f c) {x:c.pre.ty.den} {l:Nat} {σ:PT Nat} (A:L8 0 c.pre m h x l σ j) {vs:Y TV} {hp:aY} {l1:Y (M e_)} (I:pG c.pre x vs hp l1) {y:c.post.ty.den} (hm:c.m x=Z y) {rs:Y TV} {hq:aY} {l2:Y (M e_)} (D:pG c.post y rs hq l2) (hp0:l! c.pre.bs=0) (hq0:l! c.post.bs=0) (hfl:(PV.tyL c.post.vs).flat=J)
 (g:Nat->Nat) (hla:cN h m=Z r)
 (hexec:∀(φ:PM) (E:Nat->Prop) (h':HF) (w:World) (a:Act),(∀t,.tmp t∈o.op.operands->∀y,fR e h t=Z y->co φ (tot E φ h') w y (a.tmps.getD t undef))->sC φ E h' w->∃us:ξ,(execOp a.eval o).run T w= .ok (.enter f us.toArray) w/\lY φ (tot E φ h') w r us):
 fw T o af e h i (Vo (lH g rs)) l 0 h i:=by
 let⟨x1,m1,x2,m2,hx,hmm,gv,gb⟩:=A.ex;have hmr:dN h l:=by rw[hmm];exact (TQ _ _ _ _ gv).or (TU _ _ _ _ gb)
 have pvg:rE (iz σ) c.pre.vs x1=Z (lH (iz σ) vs):=by
  have h3:=vM (iz σ) c.pre.vs x1;have h4:=I.pv;rw[hx,vF]at h4;rw[h3,h4];rfl
 let⟨lr,hlr⟩:=fI hq rs D.ok;let⟨lp,hlp⟩:=fI hp vs I.ok;have hfl':AV.flL lr=J:=Vy c.post.vs _ rs lr hfl D.pv (by rw[<- hq0];exact D.lt) hlr;have hpe:∀nx,hp.get nx=U:=λnx=>by
  cases hb:hp.get nx with
  |none=>rfl
  |some b=>have:=I.lt_len hb;omega
 have hqe:∀nx,hq.get nx=U:=λnx=>by
  cases hb:hq.get nx with
  |none=>rfl
  |some b=>have:=D.lt_len hb;omega
 have rows_hp:∀nx la,eQ hp nx=Z la->eQ (dP l h) (iz σ nx)=Z la:=λnx la L=>by rw[bA,hpe]at L;cases L
 have rows_hq:∀nx la,eQ hq nx=Z la->eQ h (g nx)=Z la:=λnx la L=>by rw[bA,hqe]at L;cases L
 have rows_in:Bo (dP l h) h:=λsm la L=>by
  rw[bA]at L ⊢;rw[iW]at L;split at L
  next ht=>let⟨ty,p,P,xs,hb⟩:=hmr sm ht;rw[hb]at L ⊢;exact L
  .exact L
 have hOpT:gE T o (fR e h) (erHF h) ⟨FP lr,JD l,[],λ_=>U,[]⟩:=by
  intro φ E h' w a hrd hwr hops hrep hN;let⟨us,hrun,hrel⟩:=hexec φ E h' w a hops hrep
  let Hv:HF:=λn=>if n∈JD l then U else h' n
  have Hv_in:∀n,n∈JD l->Hv n=U:=λn hn=>by grind
  have Hv_out:∀n,n∉JD l->Hv n=h' n:=λn hn=>by grind
  have hd:rC h' Hv:=λn b hb=>by grind
  have gvv:Fy h h' Hv l:=λnx hi=>⟨hrd _ (mS.2 hi),Hv_in _ (mS.2 hi)⟩
  have V:Pd h' Hv:=⟨hd,λn b b' hb hb'=>by
   by_cases hn:n∈JD l
   .grind
   .rw[Hv_out n hn,hb]at hb';cases hb';exact gu.refl hd b⟩
  have hrepv:=V.zq hrep;have hlpg:cN (dP l h) (lH (iz σ) vs)=Z (AV.renL (pJ (iz σ)) lp):=qB rows_hp vs lp hlp;have hrel1:lY φ (tot E φ Hv) w (AV.renL (pJ (iz σ)) lp) us:=
   lY.le hrep (GW hd rows_in c.pre.vs m x1 m1 _ r _ gv pvg hla hlpg (λnx hi=>gvv nx (by grind))) hrel
  let E':Nat->Prop:=λk=>E k\/∃n b,Hv n=Z b/\φ n=Z k
  have P:aqa c.pre x vs hp (iz σ) φ E E' Hv w:=by
   refine sC.toId I (λa b ha=>by omega) hrepv (λn yb hn=>by have:=(I.erHF hn).1;omega) ?_ (λn k y hn=>by have:=(I.erHF hn).1;omega) ?_
   .rintro k (hE|⟨n,b,h1,h3⟩)
    .exact .inl hE
    .exact .inr ⟨n,b,h1,h3⟩
   .rintro k (hE|⟨n,b,h1,h3⟩)
    .exact hrepv.el k hE
    .obtain⟨k',q1,_,ob,q3,_⟩:=hrepv.at_ n b h1
     grind
  have hcalls:=sp.calls x y hm vs hp l1 rs hq l2 lp lr I D hlp hlr (φ1 (l! c.pre.bs) (iz σ) φ) E' w us P.zq (lY.toId P.val (vC vs lp I.lt hlp) hrel1) (λn k hk=>(Ar hk).1);unfold LB;rw[hrun];refine Calls.mono hcalls ?_;rintro en w' ⟨v,φc',rfl,hext,hown,hnm,rp,rv'⟩;have hno:∀k,¬own (φ1 (l! c.pre.bs) (iz σ) φ) (erHF hp) k:=by
   rintro k ⟨n,b,h1,_⟩;let⟨bb,h3,_⟩:=iX h1;rw[hpe]at h3;cases h3
  have mv:kj φ φ h' h' w w':=⟨λ_ _ h=>h,hext.mono λk hk=>cu hk (hno k),λ_ _ h=>h⟩
  refine ⟨v,φ,rfl,?_,λ_ _ h=>.inl h,?_,?_⟩
  .rw[vV];exact mv
  .rw[vV];refine hrep.moved mv λk hk=>?_
   let⟨n,b,h1,h3⟩:=hk;let⟨k',q1,_,ob,q3,_⟩:=hrep.at_ n b h1;rw[h3]at q1;cases q1;exact hext.jp k (dE.1 q3).1 (hno k)
  .exact rv'.flat (anf hfl')
 have hrsg:cN h (lH g rs)=Z (AV.renL (pJ g) lr):=qB rows_hq rs lr hlr;refine ⟨⟨_,hOpT,λz hz=>?_,?_,λn hn=>?_,by simp,by simp⟩,λ_ _ h=>h,hinv,bK _,nofun⟩
 .rw[abw hrsg,G0 _ lr hfl']at hz;cases hz;rfl
 .exact vV _ _
 .obtain⟨nx,rfl,hi⟩:=pa.1 hn;rw[di];exact hi
def cw.full (c:cw):cw:=⟨c.pre,⟨c.post.vs,c.pre.bs⟩,λx=>aB (c.m x) λy=>Z (mkp (PV.tyL c.post.vs) (PB.tyL c.pre.bs) (US _ _ y) (SE _ _ x))⟩
def aJ (P:Program) (f:FuncId) (c:cw):Prop:=if dR (l! c.pre.bs) (l! c.post.bs)=J then rx P f c else rx P f c.full
def rx.toC {c:cw} (h:rx T f c) (z:dR (l! c.pre.bs) (l! c.post.bs)=J):aJ T f c:=by
 unfold aJ;rw[aD z];exact h
def aJ.holds {c:cw} (h:aJ T f c) (z:dR (l! c.pre.bs) (l! c.post.bs)=J):rx T f c:=by
 unfold aJ at h;rw[aD z]at h;exact h
def aoi (a b:Ty) (z:(spr a b).den):mkp a b (US a b z) (SE a b z)=z:=by cases a<;>cases b<;>rfl
open Classical in
def roM {pre:Tm} {vs:Y PV} (m:pre.ty.den->M (Tm.ty ⟨vs,pre.bs⟩).den) (x:pre.ty.den):M (Tm.ty ⟨vs,[]⟩).den:=
 aB (m x) λy=>if SE (PV.tyL vs) (PB.tyL pre.bs) y=SE _ _ x then Z (mkp (PV.tyL vs) (PB.tyL []) (US (PV.tyL vs) (PB.tyL pre.bs) y) ()) else U
def aJ.ro {P:Program} {f:FuncId} {pre:Tm} {vs:Y PV} {m:pre.ty.den->M (Tm.ty ⟨vs,pre.bs⟩).den} {m':pre.ty.den->M (Tm.ty ⟨vs,[]⟩).den} (h:rx P f ⟨pre,⟨vs,pre.bs⟩,m⟩) (hb:dR (l! pre.bs) 0=af) (hs:∀x y,m' x=Z y->roM m x=Z y):aJ P f ⟨pre,⟨vs,[]⟩,m'⟩:=by
 unfold aJ;rw[av (by grind)];refine ⟨h.zg,λx y hxy=>?_⟩;refine h.calls x y ?_;let⟨z,L,hzy⟩:=d_ hxy;have h1:=hs x z L;let⟨y0,hy0,D⟩:=d_ h1;split at D
 .rename_i heq;have D:=fV D;have hzy:=fV hzy;subst D;have A:mkp (PV.tyL vs) (PB.tyL pre.bs) (US (PV.tyL vs) (PB.tyL pre.bs) y0) (SE (PV.tyL pre.vs) (PB.tyL pre.bs) x)=y:=(eR (λq=>mkp (PV.tyL vs) (PB.tyL pre.bs) q (SE (PV.tyL pre.vs) (PB.tyL pre.bs) x)) (vF (PV.tyL vs) (PB.tyL []) _ ()).symm).trans hzy;rw[<- heq]at A;have:=(aoi (PV.tyL vs) (PB.tyL pre.bs) y0).symm.trans A
  grind
 .cases D
def fw.drop {o:Oper} {e:ii} {h':aY} {rd wr W wr':Nat} (t:fw T o af e h i u rd wr h' j) (hW:∀nx,aL W nx=J->(∀n,ow n=nx->erHF h' n=erHF h n)/\aL rd nx=J) (hw:∀nx,aL wr nx=J->aL W nx=J\/aL wr' nx=J):fw T o af e h i u rd wr' h' j:=by
 let⟨⟨f,h1,h2,h3,h4,h5,L⟩,r,nx,g,st⟩:=t;have hup:∀b:HF,(∀n∈f.wr,b n=erHF h n)->fy b (f.wr.filter λn=> !(aL W (ow n))) f.nw=fy b f.wr f.nw:=λb hH=>by
  funext n;unfold fy;by_cases z:n∈f.wr
  .by_cases hb:aL W (ow n)=J
   .rw[av (by grind),aD z];have:=congrFun h3 n;unfold fy at this
    grind
   .grind
  .grind
 refine ⟨⟨⟨f.val,f.rd++(f.wr.filter λn=>aL W (ow n)),f.wr.filter λn=> !(aL W (ow n)),f.nw,f.N⟩,?_,h2,?_,λn z=>?_,λn z=>?_,L⟩,r,nx,g,nofun⟩
 .intro φ E b w a hrd hwr hops hrep D;have k1:∀nx∈f.rd,b nx=erHF h nx:=λnx hi=>hrd nx (iu _ hi)
  have k2:∀nx∈f.wr,b nx=erHF h nx:=λnx hi=>by grind
  have:=h1 φ E b w a k1 k2 hops hrep D
  grind
 .grind
 .grind
 .grind
mutual
def ajm {n n':Nat} (hle:n<=n'):∀(v:TV),JF n v=J->JF n' v=J
 |.I id,h|.zh id _,h|.zj id _ _ _,h|.P id _,h|.qg id _ _,h|.mp id,h=>by simp[JF,Pv]at h ⊢;omega
 |.agg l,h|.qb l,h|.qy _ l,h=>zA hle l h
 |.f _ _,_|.zf _ _ _ _ _,_|.emp,_|.nil,_|.undef,_|.np,_|.qw,_|.qc _ _,_=>rfl
 |.sb s,h=>by simp[JF,Pv]at h ⊢;omega
def zA {n n':Nat} (hle:n<=n'):∀(l:Y TV),rz n l=J->rz n' l=J
 |[],_=>rfl
 |x::r,h=>by
  simp[rz,al]at h ⊢;exact⟨ajm hle x h.1,zA hle r h.2⟩
end
def Ry {g g':Nat->Nat} {h:aY}:∀(bs:Y PB) (i:Nat) (x:(PB.tyL bs).den) (m:Nat),L6 bs=J->GZ g h i bs=Z (x,m)->∃l,qU g' bs x=Z l/\l! l=l! bs/\∀j,j<l! bs->∃ty p T xs,l[j]? =Z (Z (.H ty p T xs))/\h.get (g (i+j))=Z (.H ty p T xs)
 |[],i,x,m,_,A=>⟨[],rfl,rfl,λj L=>by simp at L⟩
 |.H ty p T::r,i,x,m,D,A=>by
  simp[GZ]at A;split at A
  .rename_i x1 m1 h1;split at A
   .rename_i x2 m2 h2;obtain⟨rfl,rfl⟩:=A;let⟨l,q1,q2,q3⟩:=Ry (g:=g) (g':=g') (h:=h) r (i+1) x2 m2 D h2;simp only[Fn]at h1;split at h1
    .rename_i ty' p' S xs hb;split at h1
     .rename_i hc;simp[al,c4]at hc;split at h1
      .rename_i z hz;let⟨es,ez⟩:=iP hz;refine ⟨Z (.H ty p T x1)::l,?_,by simp[q2],λj L=>?_⟩
       .simp[qU];rw[vF,xy,q1];rfl
       .grind
      .cases h1
     .cases h1
    .cases h1
   .cases A
  .cases A
 |.qp _ _::r,i,x,m,D,A|.G _ _::r,i,x,m,D,A|.mp _ _::r,i,x,m,D,A|.qf::r,i,x,m,D,A=>by cases D
def JB:∀{bs:Y PB},L6 bs=J->E5 bs=J
 |[],_=>rfl
 |.H _ _ _::r,h=>JB (bs:=r) h
 |.qp _ _::r,h|.G _ _::r,h|.mp _ _::r,h|.qf::r,h=>by cases h
def Ju {z:aY} :∀(n:Nat),(∀i,i<n->z.get (g i)=h.get (g i))->vX h z g n=J
 |0,_=>rfl
 |n+1,A=>by
  simp[vX,al];refine ⟨?_,Ju n λi hi=>A i (by omega)⟩;have:eQ z (g n)=eQ h (g n):=by rw[bA,bA,A n (by omega)]
  rw[this];cases eQ h (g n) with
  |none=>rfl
  |some q=>let⟨p,s,k⟩:=q;simp
def HV (P:Program) (con:FuncId->M cw):Prop:=∀f c,con f=Z c->aJ P (f%65536) c
def Va (hf:f<65536):∀l:Y TV,ano f l%65536=f
 |[]=>xn hf
 |x::r=>by
  have z:=Va hf r;unfold ano;split
  next he=>cases he
  .rw[Nat.add_mul_mod_self_left];exact xn hf
  .rw[Nat.add_mul_mod_self_left];exact xn hf
  next he=>cases he;exact z
variable {X:FuncId->M cw}
def apm (hcon:HV T X) {c:cw} (h:au6 X f m=Z c):aJ T f c:=by
 unfold au6 at h;split at h
 .rename_i hf;have hf:=Uz hf;split at h
  .rename_i A z;simp[ah]at h;subst h;have:=hcon _ _ z
   rwa [Va hf]at this
  .have:=hcon _ _ h
   rwa [xn hf]at this
 .cases h
def ads (hcon:HV T X) {o:Oper} {e:ii} {K:KO R} {la:R} (hinv:hX h i) (z:adt X f m h i K=Z la) (hla:cN h m=Z r)
 (hexec:∀(φ:PM) (E:Nat->Prop) (h':HF) (w:World) (a:Act),HW T f->(∀t,.tmp t∈o.op.operands->∀y,fR e h t=Z y->co φ (tot E φ h') w y (a.tmps.getD t undef))->sC φ E h' w->∃us:ξ,(execOp a.eval o).run T w= .ok (.enter f us.toArray) w/\lY φ (tot E φ h') w r us):je T o af e h i K la:=by
 unfold adt at z;split at z
 .rename_i c hc;have spc:=apm hcon hc;split at z
  .rename_i x l σ sm hM;split at z
   .rename_i q hq;let⟨vs,hp⟩:=q;let⟨l1,I⟩:=zD hq;let⟨y,hy,z⟩:=d_ z;split at z
    .rename_i q2 hq2;let⟨rs1,hq1⟩:=q2;let⟨l2,A⟩:=zD hq2;split at z
     .rename_i hcond;simp only[al]at hcond;have hle:=aU hcond.1;have sp:=spc.holds hcond.1;simp only at z;split at z
      .rename_i rs hrs;have hrs':=hrs;rw[vM,A.pv]at hrs';simp only[bi,ah]at hrs';split at z
       next hb=>simp only[al]at hb;have hq0:=au hb.1.2;refine ⟨_,_,_,_,_,z,?_⟩;rw[<- hrs'];exact apq hinv sp (ze hM) I hy A (by omega) hq0 hb.2 _ hla λφ E h' w a=>hexec φ E h' w a sp.zg
       .split at z
        .rename_i h2 L;let⟨hsr,z⟩:=cI z;refine ⟨_,_,_,_,_,z,?_⟩;rw[<- hrs'];unfold Rh at L;rw[yT,A.pb]at L;simp only[bi,ah]at L;exact alk hinv sp (ze hM) I hcond.2 hy A hle (λnx hi=>by
          have:eE nx (l! c.pre.bs)=J:=a_ hi;simp only[this,bk]) (λnx hi=>by
          have:eE nx (l! c.pre.bs)=af:=by
           cases hb:eE nx (l! c.pre.bs) with
           |false=>rfl
           |true=>have:=aU hb;omega
          simp only[this];rfl) L.symm hsr hla λφ E h' w a=>hexec φ E h' w a sp.zg
        .cases z
      .cases z
     .rename_i hcond;split at z
      .rename_i hro;simp only[al]at hro;have hq0:=au hro.1;have hng:=JB hro.2;have sp:rx T f c.full:=by
        unfold aJ at spc
        rwa [av (λhb=>hcond (by rw[hb,hng];rfl))]at spc
       simp only at z;split at z
       .rename_i rs hrs;split at z
        .rename_i h2 L;have hrs':=hrs;rw[vM,A.pv]at hrs';simp only[bi,ah]at hrs';refine ⟨_,_,_,_,_,z,?_⟩;rw[<- hrs'];have D:=ze hM;unfold Rh at L;rw[yT,I.pb]at L;simp only[bi,ah]at L;have hqe:∀nx,hq1.get nx=U:=λnx=>by
          cases hb:hq1.get nx with
          |none=>rfl
          |some b=>have:=A.lt_len hb;omega
         have J':pG c.full.post (mkp (PV.tyL c.post.vs) (PB.tyL c.pre.bs) (US _ _ y) (SE _ _ x)) rs1 hp l1:=
          ⟨by show rE M3 c.post.vs (US (PV.tyL c.post.vs) (PB.tyL c.pre.bs) _)=_;rw[vF];exact A.pv,by show qU M3 c.pre.bs (SE (PV.tyL c.post.vs) (PB.tyL c.pre.bs) _)=_;rw[xy];exact I.pb,I.len,I.at_,fA (λnx la hr=>by rw[bA,hqe]at hr;cases hr) _ A.ok,zA (by omega) _ A.lt,I.G,I.Q,I.nox⟩
         let⟨x1,m1,x2,m2,hx,hmm,gv,gb⟩:=D.ex;let⟨m,q1,q2,q3⟩:=Ry (g':=M3) c.pre.bs 0 x2 m2 hro.2 gb;have hl1:l1=m:=by
          have:=I.pb;rw[hx,xy,q1]at this;cases this;rfl
         subst hl1;have hgi:∀nx,nx<l! c.pre.bs->(if eE nx (l! c.pre.bs) then iz σ nx else i+(nx-l! c.pre.bs))=iz σ nx:=λnx hi=>by simp_all
         have hsame:∀nx,nx<l! c.pre.bs->h2.get (iz σ nx)=h.get (iz σ nx):=λnx hi=>by
          let⟨ty,p,P,xs,w1,w2⟩:=q3 nx hi;rw[bX]at w2;have:=xH (λnx=>if eE nx (l! c.pre.bs) then iz σ nx else i+(nx-l! c.pre.bs)) (l1.map (io (lj (λnx=>if eE nx (l! c.pre.bs) then iz σ nx else i+(nx-l! c.pre.bs))))) 0 (dP l h) (λa b ha hb e=>by
           simp only[bM,q2]at ha hb;rw[bX,bX,hgi a ha,hgi b hb]at e;exact D.inj a b ha hb e) nx (Z (.H ty p P xs)) (by rw[bB,w1];rfl)
          rw[bX,hgi nx hi]at this;rw[<- L,this,w2]
         have t:=alk (o:=o) (e:=e) hinv sp D I hng (y:=mkp (PV.tyL c.post.vs) (PB.tyL c.pre.bs) (US _ _ y) (SE _ _ x)) (by show aB (c.m x) _=_;rw[hy];rfl) J' (bK _) (g:=λnx=>if eE nx (l! c.pre.bs) then iz σ nx else i+(nx-l! c.pre.bs)) hgi (λnx hi=>by
          have:eE nx (l! c.pre.bs)=af:=by
           cases hb:eE nx (l! c.pre.bs) with
           |false=>rfl
           |true=>have:=aU hb;have hi:l! c.pre.bs<=nx:=hi;omega
          simp only[this];rfl) L.symm (Ju _ λnx hi=>by rw[hgi nx hi];exact hsame nx hi) hla λφ E h' w a=>hexec φ E h' w a sp.zg
         have t':fw T o af e h i (Vo (lH (λnx=>if eE nx (l! c.pre.bs) then iz σ nx else i+(nx-l! c.pre.bs)) rs1)) (sm|||l) (sm|||l|||(((1<<<(l! c.pre.bs-l! c.pre.bs))-1)<<<i)) h2 (i+(l! c.pre.bs-l! c.pre.bs)):=t;rw[LC,dK]at t';refine t'.drop (W:=sm) (λnx hi=>?_) (λnx hi=>?_)
         .refine ⟨?_,by rw[bu,hi];rfl⟩;obtain⟨k,z,rfl⟩:=(D.sig nx).1 hi;let⟨ty,p,P,xs,_,w2⟩:=q3 k z;rw[bX]at w2;intro n hn;unfold erHF;rw[hn,hsame k z,w2];cases ix n<;>rfl
         .grind
        .cases z
       .cases z
      .cases z
    .cases z
   .cases z
  .cases z
 .cases z
variable {W:TypeId->M Ty}
def at5 (hcon:HV T X) {o:Oper} {e:ii} {nx:SI} {K:KO R} {r:R} (hinv:hX h i) (hi:sM e h) (hc:xW T o.op=nx) (L:eO X W nx e h i K=Z r):je T o nx.still e h i K r:=by
 have callOps:∀(c:Call),o.op= .call c->∀x,x∈c.operands->x∈o.op.operands:=λc D x A=>by rw[D];exact A
 cases nx with
 |call f args=>
  simp[eO]at L;split at L
  .rename_i l hl;have D:∃c:Call,o.op= .call c/\c.callee= .value (.func f)/\c.args.toList=args:=by
    unfold xW at hc;split at hc
    .rename_i nx hi;unfold OZ at hi
     grind
    .grind
   let⟨c,D,h1,h2⟩:=D;let⟨la,g1,g2⟩:=Gg hi hl;refine ads hcon hinv L g2 λφ E h' w a hcb hops hrep=>?_
   have hp:Yz φ E h' w a (D2 e h) o:=λx y A hy=>vG hrep (by rw[Dx];exact hops) A hy
   refine ⟨args.map a.eval,?_,ZQ hp args la (λx A=>callOps c D x (by simp[dI,h1,<-h2]at A ⊢;exact .inr A)) g1⟩;unfold execOp;rw[D];have hm:c.args.map a.eval=(args.map a.eval).toArray:=by grind
   simp[resolve,h1,Act.eval,Deferred.ofValue,invoke,hm,Au hcb]
  .cases L
 |xq x args=>
  simp[eO]at L;split at L
  .rename_i f cap l A hl;have D:∃c:Call,o.op= .call c/\c.callee= .value x/\c.args.toList=args:=by
    unfold xW at hc;split at hc
    .rename_i nx hi;unfold OZ at hi
     grind
    .grind
   let⟨c,D,h1,h2⟩:=D;let⟨la,g1,g2⟩:=Gg hi hl;let⟨yx,g3,g4⟩:=ba hi A;simp[bW]at g4;split at g4
   .rename_i lc hlc;simp[ah]at g4;subst g4;refine ads hcon hinv L (oO g2 hlc) λφ E h' w a hcb hops hrep=>?_
    have hp:Yz φ E h' w a (D2 e h) o:=λx y A hy=>vG hrep (by rw[Dx];exact hops) A hy
    have hxv:=hp x _ (callOps c D x (by simp[dI,h1])) g3;have hlv:=ZQ hp args la (λx A=>callOps c D x (by simp[dI,h1,<-h2]at A ⊢;exact .inr A)) g1;generalize hz:a.eval x=z at hxv;cases hxv with
    |@qy _ _ vs hvl hvr=>
     refine ⟨args.map a.eval++vs,?_,hlv.append (lY.of hvl hvr)⟩;unfold execOp;rw[D];have hm:c.args.map a.eval=(args.map a.eval).toArray:=by grind
     simp[resolve,h1,hz,Deferred.ofValue,invoke,hm,Au hcb]
   .cases g4
  .cases L
 |op s=>
  have hc:s= .zn\/cP T o.op=Z s:=by
   unfold xW at hc;split at hc
   .rename_i nx hi;unfold OZ at hi
    grind
   .grind
  rcases hc with rfl|hc
  .simp[eO]at L
  .exact K_op hinv hi hc L
def F_op {o:Oper} {e:ii} {s:UU} {K:KO R} {r:R} (hinv:hX h i) (hi:sM e h) (D:cP T o.op=Z s) (A:pE W e h i K s=Z r):je T o s.still e h i K r:=by
 cases s with
 |load sz L x=>exact awe hinv hi D A
 |store sz x v=>exact ar0 hinv hi D A
 |zl x=>exact awc hinv hi D A
 |jb off x=>exact aA9 hinv hi D A
 |jf sz x nx=>exact aA8 hinv hi D A
 |jg str ok z x k=>exact aA6 hinv hi D A
 |jk str x k v=>exact aA4 hinv hi D A
 |app ty sz bytes s x=>exact aAb hinv hi D A
 |zm ty sz bytes z l c=>exact awd hinv hi D A
 |jz neg x=>exact awf hinv hi D A
 |lkq ds z x k=>
  have hd:ds=i2:=by
   unfold pE at A
   grind
  subst hd;exact aA7 hinv hi D A
 |mpq ds x k v=>
  have hd:ds=i2:=by
   unfold pE at A
   grind
  subst hd;exact aA5 hinv hi D A
 |dlq ds x k=>
  have hd:ds=i2:=by
   unfold pE at A
   grind
  subst hd;exact aAa hinv hi D A
 |_=>exact cu A (by simp[pE])
def ax7 (hcon:HV T X) {o:Oper} {e:ii} {nx:SI} {K:KO R} {r:R} (hinv:hX h i) (hi:sM e h) (A:xW T o.op=nx) (z:opK X W nx e h i K=Z r):je T o nx.still e h i K r:=by
 unfold opK at z;split at z
 .split at z
  .rename_i s _;have A:s= .zn\/cP T o.op=Z s:=by
    unfold xW at A;split at A
    .rename_i nx hi;unfold OZ at hi
     grind
    .grind
   rcases A with rfl|A
   .simp[pE]at z
   .exact F_op hinv hi A z
  .cases z
 .exact at5 hcon hinv hi A z
end
end Go.Proofs.YtpjhicegjenpeaaGreatDoor.AI
