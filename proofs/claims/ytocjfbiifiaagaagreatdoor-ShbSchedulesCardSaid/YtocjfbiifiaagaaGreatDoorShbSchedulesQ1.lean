/-
  Texts of the proof, part 2 of 6: what is used to prove the statement. No condition.
-/
import Derived.Test.YtocjfbiifiaagaaGreatDoorShbSchedulesQ0
namespace Go.Proofs.YtocjfbiifiaagaaGreatDoor.AI
open Go.RowKit
set_option maxRecDepth 100000
set_option maxHeartbeats 4000000
set_option linter.unusedVariables false
set_option linter.unusedSimpArgs false
set_option linter.defProp false
open _root_.Bool renaming true→J,false→af
open Call renaming operands→eT
open _root_.Int renaming toNat→aO,ofNat→aS
open _root_.List renaming length→l!,length→aj,replicate→aE,take→dy,range→dA,cons_append→gG,map→im,toArray→jG,nil_append→jH,length_cons→jW,length_nil→qi,take_succ_cons→yn,set→zX,map_drop→zY,getElem?_cons_succ→BE,map_nil→C6,replicate_succ→KC,flatMap_append→KE,append→Sm
open _root_.Nat renaming beq→aA,testBit→aM,add_zero→dQ,ble→dY,blt→eK,min→lQ,mod_eq_of_lt→xh,mul_one→HO,blt_eq→Pm
open Oper renaming wp→Lv
open _root_.Option renaming some→Z,none→U,bind_some→aB,map_some→bw,map→ik
open Value.bool renaming injEq→Fz
open World renaming cell?→Sj
noncomputable section
variable {R:Type}
def PT.mapO {β:Type} (g:R->M β):PT R->PT β
 |.leaf=>.leaf
 |.node v l r=>.node (v.bind g) (PT.mapO g l) (PT.mapO g r)
def PT.get_mapO {β:Type} (g:R->M β):∀(t:PT R) (i:Nat),(PT.mapO g t).get i=(t.get i).bind g
 |.leaf,i|.node v l r,0=>by simp[PT.mapO,PT.get]
 |.node v l r,j+1=>by
  simp[PT.mapO,PT.get];split
  .exact PT.get_mapO g l _
  .exact PT.get_mapO g r _
def PT.get_updI (f:Nat->R->R):∀(t:PT R) (a b i:Nat),(PT.updI f a b t).get i=(t.get i).map (f (a*i+b))
 |.leaf,_,_,i=>by simp[PT.updI,PT.get]
 |.node v l r,a,b,0=>by cases v<;>simp[PT.updI,PT.get]
 |.node v l r,a,b,j+1=>by
  simp only[PT.updI,PT.get];split
  .rename_i z;rw[PT.get_updI f l];have:2*a*(j/2)+(a+b)=a*(j+1)+b:=by
    have A:j=2*(j/2):=by have:=au z;omega
    grind
   rw[this]
  .rename_i z;rw[PT.get_updI f r];have:2*a*(j/2)+(2*a+b)=a*(j+1)+b:=by
    have h1:j%2≠0:=λh=>z (by rw[h];rfl)
    have A:j=2*(j/2)+1:=by omega
    grind
   rw[this]
def PT.bound :∀(t:PT R),∃B,∀i,B<=i->t.get i=U
 |.leaf=>⟨0,λi _=>rfl⟩
 |.node v l r=>by
  let⟨a,A⟩:=PT.bound l;let⟨b,z⟩:=PT.bound r;refine ⟨2*(a+b)+3,λi hi=>?_⟩;cases i with
  |zero=>omega
  |succ j=>
   simp[PT.get]
   grind
def PT.ofF (f:Nat->M R):Nat->PT R
 |0=>.leaf
 |n+1=>(PT.ofF f n).set n (f n)
def PT.get_ofF (f:Nat->M R):∀(n i:Nat),(PT.ofF f n).get i=if i<n then f i else U
 |0,i=>by simp[PT.ofF,PT.get]
 |n+1,i=>by
  rw[PT.ofF,PT.get_set,PT.get_ofF f n]
  grind
def jD (i k:Nat):Nat:=2^i*(2*k+1)-1
def nm (i:Nat):Nat:=jD i 0
def owA:Nat->Nat->Nat
 |0,_=>0
 |f+1,m=>if m%2=1 then 0 else owA f (m/2)+1
def ow (n:Nat):Nat:=owA (n+1) (n+1)
def ix (n:Nat):Nat:=(n+1)/2^ow n/2
def ad0:∀(i f k:Nat),i<f->owA f (2^i*(2*k+1))=i
 |0,f+1,k,_=>by rw[owA,aC (by omega)]
 |i+1,f+1,k,h=>by
  have e:2^(i+1)*(2*k+1)=2*(2^i*(2*k+1)):=by grind
  rw[owA,av (by omega),e,Nat.mul_div_cancel_left _ (by omega),ad0 i f k (by omega)]
def ad1:∀(f m:Nat),0<m->m<=f->2^owA f m*(2*(m/2^owA f m/2)+1)=m
 |0,m,h0,h=>by omega
 |f+1,m,h0,h=>by
  rw[owA];split
  .omega
  .have z:=ad1 f (m/2) (by omega) (by omega);rw[Nat.pow_succ,Nat.mul_comm (2^owA f (m/2)) 2,<-Nat.div_div_eq_div_mul,Nat.mul_assoc,z];omega
def ad9 (i k:Nat):0<2^i*(2*k+1):=Nat.mul_pos (Nat.two_pow_pos i) (by omega)
def iI (i k:Nat):ow (jD i k)=i:=by
 have h:=ad9 i k;have z:i<2^i*(2*k+1):=dv Nat.lt_two_pow_self (Nat.le_mul_of_pos_right _ (by omega));unfold ow jD;rw[Nat.sub_add_cancel h,ad0 _ _ _ z]
def wy (i k:Nat):ix (jD i k)=k:=by
 have h:=ad9 i k;unfold ix;rw[iI];unfold jD;rw[Nat.sub_add_cancel h,Nat.mul_div_cancel_left _ (Nat.two_pow_pos i)];omega
def kK (n:Nat):jD (ow n) (ix n)=n:=by
 have:=ad1 (n+1) (n+1) (by omega) (bK _);unfold jD ix ow;rw[this];rfl
variable {i:Nat}
def pI (h:ix i=0):i=nm (ow i):=by
 have:=kK i;rw[h]at this;exact this.symm
def dj (i:Nat):ow (nm i)=i:=iI i 0
def ayd (i:Nat):ix (nm i)=0:=wy i 0
variable {m:Nat}
def vw {k l:Nat} (h:jD i k=jD m l):i=m/\k=l:=by
 have h1:=d_ ow h;have z:=d_ ix h;rw[iI,iI]at h1;rw[wy,wy]at z;exact⟨h1,z⟩
def uQ (h:nm i=nm m):i=m:=(vw h).1
def du (p:Bool) (id sz n:Nat):AV:=if p&&n==0 then .emp else .I (nm id) sz n
def qA (id:Nat) (j:Int):Nat:=jD id (3*j.toNat+1)
def uP (id:Nat) (j sz n:Nat):AV:=if n==0 then .emp else .I (jD id (j+1)) sz n
def Lc:Sb->AV
 |.ob id j off=>.K (qA id j) off
 |.om id j b=>.mp (jD id (3*j.toNat+2+b))
 |.nr id j sz n=>uP id j.toNat sz n
 |.np id j sz i off=>.K (jD id (j.toNat+1)) (i.toNat*sz+off)
 |.nl=>.f (.raw (.map U))
mutual
def bX (h:a8):TV->M AV
 |.f T v=>Z (.f (gq T v))
 |.zf T xs j _ off=>Z (.f (.K (xs.flatMap (bI T)) (j.toNat*T.size+off)))
 |.zq id sz j off=>Z (.K (nm id) (j.toNat*sz+off))
 |.K id off=>Z (.K (nm id) off)
 |.qg id sz n=>Z (.I (nm id) sz n)
 |.I id=>match eO h id with|some (p,sz,n)=>Z (du p id sz n)|none=>U
 |.zl id j=>match eO h id with|some (_,sz,n)=>Z (.sl (nm id) (j.toNat*sz) (n-j.toNat))|none=>U
 |.emp=>Z .emp
 |.nil=>Z (.f (.raw (.slice U 0 0)))
 |.mp id=>Z (.mp (nm id))
 |.agg l=>match cI h l with|some l'=>Z (.agg l')|none=>U
 |.qp l=>match cI h l with|some l'=>Z (.qp l')|none=>U
 |.qf g l=>match cI h l with|some l'=>Z (.qf g l')|none=>U
 |.undef=>Z (.f (.raw undef))
 |.np=>Z (.f (.raw (.pointer U)))
 |.qy=>Z .qy
 |.sb s=>Z (Lc s)
def cI (h:a8):Y TV->M (Y AV)
 |[]=>Z []
 |x::r=>match bX h x with
  |some y=>(match cI h r with|some l=>Z (y::l)|none=>U)
  |none=>U
end
def sF:(K:Ty)->K.den->Value
 |.int k,n=>.int k n
 |.str,s=>.string ⟨jG s⟩
 |_,_=>undef
def mpC:(K V:Ty)->Y (K.den×V.den)->BC
 |.st (.pr .str (.int .i64)),.un,es=>.it ⟨jG (Pt es)⟩ (MV es)
 |K,V,es=>.mp (es.map λp=>(sF K p.1,.f (gq V p.2)))
variable {S:Ty}
def Fc {V:Ty} {es:Y (S.den×V.den)} (h:afp S=J):mpC S V es= .mp (es.map λp=>(sF S p.1,.f (gq V p.2))):=by
 unfold mpC;split
 .cases h
 .rfl
def aue {V:Ty} {es:Y (S.den×V.den)} {s:ζ} (h:itE S V es=Z (s,i)):mpC S V es= .it ⟨jG s⟩ i:=by
 unfold itE at h;split at h
 .cases h;rfl
 .cases h
variable {s:TypeId}
def af0 {es:Y k?} {ents:Array MapEntry} (f:AV->AV):MpK s (es.map λp=>(p.1,f p.2)) ents=MpK s es ents:=by unfold MpK;rw[kH];rfl
def Y0 {l:Y R} {x:R} (h:i<l! l):splice l i [x]=l.set i x:=by
 rw[List.set_eq_take_append_cons_drop,aC h];simp[splice]
def afu (k:ν):Value:=.agg #[.int .i64 k.1,.int .i64 k.2]
def w7 (a:Nat) (es:Y s?):Y k?:=es.map λe=>(afu e.1,.K (qA a e.2) 0)
def ND (a:Nat) (k:ν) (v:AV):Y s?->Y k?
 |[]=>[(afu k,v)]
 |e::r=>if k=e.1 then (afu k,v)::w7 a r else (afu e.1,.K (qA a e.2) 0)::ND a k v r
def lK (a sz:Nat):Nat->η->Y AV
 |_,[]=>[]
 |k,l::r=>uP a k sz l.toNat::lK a sz (k+1) r
def uF (a:Nat):(F:uM)->F.ty.den->M ko
 |.zm ty,z=>if aj z==0 then U else Z ⟨ty,.mx (im (λj=>.K (qA a j) 0) z)⟩
 |.zd,es=>Z ⟨0,.mp (w7 a es)⟩
 |.rr ty sz,A=>Z ⟨ty,.mx (lK a sz 0 A)⟩
 |_,_=>U
def ae1 (a:Nat) (k:ν):(F:uM)->F.ty.den->M (Nat×Bool×Nat)->M ko
 |.zd,es,Z (p,_,_)=>Z ⟨0,.mp (ND a k (.K (nm p) 0) es)⟩
 |.rr ty sz,z,Z (r,b,n)=>Z ⟨ty,.mx ((lK a sz 0 z).set k.1.toNat (du b r sz n))⟩
 |_,_,_=>U
def Ij (es:Y j!):Y k?:=es.map λe=>(.int .i64 e.1,.f (.raw (.bool e.2)))
def wK (id k:Nat) (ty:TypeId) (S:Ty) (o:S.den×Y (Int×Bool)×Y (Int×Bool)):ko:=
 if k%3=0 then ⟨ty,.mx ((bI S o.1).map .f++[.mp (jD id (k+2)),.mp (jD id (k+3))])⟩ else ⟨0,.mp (Ij (if k%3=1 then o.2.1 else o.2.2))⟩
def Z_ (ty:TypeId) (T:Ty) (xs:Y T.den):M ko:=if (l! xs)==0 then U else Z ⟨ty,.fz (xs.flatMap (bI T))⟩
def rM (id k:Nat) (ty:TypeId) (S:Ty) (xs:Y (CZ S)):M ko:=(xs[k/3]?).map (wK id k ty S)
def rL (k:Nat) (ty:TypeId) (T:Ty) (xss:Y (Y T.den)):M ko:=(xss[k]?).bind (Z_ ty T)
def Lb (id:Nat) (k:Nat):(F:uM)->F.ty.den->M ko
 |.ar ty S,xs=>rM id k ty S xs
 |.ir ty T,xss=>rL k ty T xss
 |_,_=>U
def wX (id k:Nat):fc->M ko
 |.qx F _ x=>Lb id k F x
 |.qh F _ x j U=>if k=j.1.toNat then U else Lb id k F x
 |.qh F _ x _ (Z _)=>Lb id k F x
 |_=>U
def kq (h:a8):fc->M ko
 |.H ty p T xs=>if p&&l! xs==0 then U else Z ⟨ty,.fz (xs.flatMap (bI T))⟩
 |.G (Z ty) l=>match cI h l with|some l'=>Z ⟨ty,.mx l'⟩|none=>U
 |.G U l=>match cI h l with|some l'=>Z ⟨0,.mp []⟩|none=>U
 |.qj _ _ _=>U
 |.mp K V es=>Z ⟨0,mpC K V es⟩
 |.qx F a x=>uF a F x
 |.qh F a x k p=>ae1 a k F x p
def fQ (e:ia) (h:a8):EF:=λt=>(e.get t).bind (bX h)
def Pu (h:a8) (id:Nat):Nat->fc->M ko
 |0,b=>kq h b
 |k+1,b=>wX id k b
def erHF (h:a8):HF:=λn=>(h.get (ow n)).bind (Pu h (ow n) (ix n))
def bG (h:a8) (i:Nat):erHF h (nm i)=(h.get i).bind (kq h):=by
 unfold erHF;rw[dj,ayd];rfl
def kC (h:a8) (i k:Nat):erHF h (jD i (k+1))=(h.get i).bind (wX i k):=by
 unfold erHF;rw[iI,wy];rfl
variable {h:a8} {F:ko}
def iM (z:erHF h i=Z F):∃c,h.get (ow i)=Z c/\Pu h (ow i) (ix i) c=Z F:=by
 unfold erHF at z;cases A:h.get (ow i) with
 |none=>rw[A]at z;cases z
 |some c=>rw[A]at z;exact⟨c,rfl,z⟩
def Ii:fc->Nat
 |.qx (.ar _ _) _ x=>3*aj x
 |.qx (.ir _ _) _ x=>aj x
 |.qh (.ar _ _) _ x _ _=>3*aj x
 |.qh (.ir _ _) _ x _ _=>aj x
 |_=>0
def ae2 {id:Nat} {b:uM} {x:b.ty.den} (A:Lb id i b x=Z F) (a:Nat):i<Ii (.qx b a x):=by
 cases b with
 |ar ty S=>
  let⟨o,z,_⟩:=gz.1 A;have:=(bz.1 z).1;simp[Ii];omega
 |ir ty T=>
  let⟨o,z,_⟩:=Option.bind_eq_some_iff.1 A;exact (bz.1 z).1
 |_=>cases A
def ade {c:fc} (z:wX i m c=Z F):m<Ii c:=by
 cases c with
 |qx b a x=>exact ae2 (id:=i) z a
 |qh b a x j p=>
  have:Lb i m b x=Z F:=by
   cases p with
   |none=>simp only[wX]at z;split at z;cases z;exact z
   |some q=>exact z
  have:=ae2 (id:=i) this a;cases b<;>exact this
 |_=>cases z
def DU (e:ia) (h:a8):EJ:=PT.mapO (bX h) e
def Ds (e:ia) (h:a8):(DU e h).get=fQ e h:=by funext t;exact PT.get_mapO _ _ _
def apz (L:∀y c,h.get y=Z c->Ii c<=i) (I:erHF h m=Z F):ix m<=i:=by
 let⟨c,h1,z⟩:=iM I;have:=L _ c h1;cases A:ix m with
 |zero=>omega
 |succ k=>
  rw[A]at z;have:=ade z;omega
def adc (h:a8):∃y,∀i c,h.get i=Z c->Ii c<=y:=by
 let⟨B,hB⟩:=PT.bound h;have:∀B,∃y,∀i c,i<B->h.get i=Z c->Ii c<=y:=by
  intro B;induction B with
  |zero=>exact⟨0,λi c hi=>by omega⟩
  |succ B I=>
   let⟨y,A⟩:=I;cases L:h.get B with
   |none=>exact⟨y,λi c hi z=>by
     by_cases e:i=B
     .grind
     .exact A i c (by omega) z⟩
   |some b=>exact⟨max y (Ii b),λi c hi z=>by
     by_cases e:i=B
     .grind
     .have:=A i c (by omega) z;omega⟩
 let⟨y,A⟩:=this B;refine ⟨y,λi c z=>A i c ?_ z⟩
 grind
def gK (h:a8):∃H:mY,H.get=erHF h:=by
 let⟨B,hB⟩:=PT.bound h;let⟨y,L⟩:=adc h;refine ⟨PT.ofF (erHF h) (2^B*(2*y+2)),?_⟩;funext n;rw[PT.get_ofF];split
 .rfl
 .rename_i hn;cases A:erHF h n with
  |none=>rfl
  |some b=>
   let⟨c,h1,z⟩:=iM A;have ho:ow n<B:=by grind
   have hi:ix n<=y:=by
    have:=L _ c h1;cases I:ix n with
    |zero=>omega
    |succ k=>
     rw[I]at z;have:=ade z;omega
   have he:=kK n;unfold jD at he;have h3:2^ow n*(2*ix n+1)<=2^B*(2*y+2):=Nat.mul_le_mul (Nat.pow_le_pow_right (by omega) (by omega)) (by omega)
   grind
variable {u:TV} {j:Y TV}
def cV {l:Y AV} (he:cI h (u::j)=Z l):∃y l',l=y::l'/\bX h u=Z y/\cI h j=Z l':=by
 simp[cI]at he
 grind
variable {y:AV}
def qT {l':Y AV} (h1:bX h u=Z y) (z:cI h j=Z l'):cI h (u::j)=Z (y::l'):=by
 simp[cI,h1,z]
def iC :∀{l:Y TV} {l':Y AV},cI h l=Z l'->l! l'=l! l
 |[],l',he=>by simp[cI,ah]at he;subst he;rfl
 |x::r,l',he=>by
  obtain⟨y,A,rfl,_,z⟩:=cV he;simp[iC z]
def oV :∀{a b:Y TV} {A b':Y AV},cI h a=Z A->cI h b=Z b'->cI h (a++b)=Z (A++b')
 |[],b,A,b',z,I=>by simp[cI,ah]at z;subst z;exact I
 |x::r,b,A,b',z,I=>by
  obtain⟨y,l2,rfl,h1,L⟩:=cV z;exact qT h1 (oV L I)
def Fo :∀{a b:Y TV} {l:Y AV},cI h (a++b)=Z l->∃z b',l=z++b'/\cI h a=Z z/\cI h b=Z b'
 |[],b,l,he=>⟨[],l,rfl,rfl,he⟩
 |x::r,b,l,he=>by
  obtain⟨y,l2,rfl,h1,L⟩:=cV he;obtain⟨z,b',rfl,I,A⟩:=Fo L;exact⟨y::z,b',rfl,qT h1 I,A⟩
def IP :∀{l:Y TV} {l':Y AV} (n:Nat),cI h l=Z l'->cI h (l.take n)=Z (l'.take n)
 |[],l',n,he=>by simp[cI,ah]at he;subst he;simp[cI]
 |x::r,l',n,he=>by
  obtain⟨y,A,rfl,h1,z⟩:=cV he;cases n with
  |zero=>simp[cI]
  |succ n=>exact qT h1 (IP n z)
def IR :∀{l:Y TV} {l':Y AV} (n:Nat),cI h l=Z l'->cI h (l.drop n)=Z (l'.drop n)
 |[],l',n,he=>by simp[cI,ah]at he;subst he;simp[cI]
 |x::r,l',n,he=>by
  obtain⟨y,A,rfl,h1,z⟩:=cV he;cases n with
  |zero=>exact he
  |succ n=>simpa using IR n z
variable {r:Y AV}
def rN {vs:Y TV} {vs':Y AV} (off:Nat) (h1:cI h j=Z r) (z:cI h vs=Z vs'):cI h (splice j off vs)=Z (splice r off vs'):=by
 unfold splice;rw[iC z];exact oV (oV (IP _ h1) z) (IR _ h1)
def mn :∀{l:Y TV} {l':Y AV},cI h l=Z l'->∀(j:Nat) x,l[j]? =Z x->∃y,l'[j]? =Z y/\bX h x=Z y
 |[],l',he,j,x,I=>by simp at I
 |x::r,l',he,j,z,A=>by
  obtain⟨y,l2,rfl,h1,L⟩:=cV he;cases j with
  |zero=>simp at A;subst A;exact⟨y,rfl,h1⟩
  |succ j=>simpa using mn L j z (by grind)
mutual
def pG (h:a8):∀(u:TV),PI h u=J->∃y,bX h u=Z y
 |.f _ _,_|.zf _ _ _ _ _,_|.zq _ _ _ _,_|.K _ _,_|.qg _ _ _,_=>⟨_,rfl⟩
 |.I id,he|.zl id jj,he=>by
  simp[PI]at he;cases hr:eO h id with
  |none=>rw[hr]at he;cases he
  |some r=>obtain⟨p,sz,n⟩:=r;exact⟨_,by simp[bX,hr];rfl⟩
 |.emp,_|.nil,_|.mp _,_=>⟨_,rfl⟩
 |.agg l,he|.qp l,he|.qf g l,he=>by obtain⟨y,hy⟩:=fH h l he;exact⟨_,by simp[bX,hy];rfl⟩
 |.undef,_|.np,_|.qy,_|.sb _,_=>⟨_,rfl⟩
def fH (h:a8):∀(l:Y TV),lM h l=J->∃l',cI h l=Z l'
 |[],_=>⟨[],rfl⟩
 |x::r,he=>by
  simp[lM,al]at he;obtain⟨y,hy⟩:=pG h x he.1;obtain⟨l',hl⟩:=fH h r he.2;exact⟨_,qT hy hl⟩
end
def bW (h h':a8):Prop:=∀id r,eO h id=Z r->eO h' id=Z r
mutual
def fZ {h h':a8} (hk:bW h h'):∀(u:TV) (y:AV),bX h u=Z y->bX h' u=Z y
 |.f _ _,y,he=>he
 |.zf _ _ _ _ _,y,he=>he
 |.zq _ _ _ _,y,he=>he
 |.K _ _,y,he=>he
 |.qg _ _ _,y,he=>he
 |.I id,y,he|.zl id jj,y,he=>by
  simp[bX]at he ⊢;split at he
  .rename_i p sz n hr;rw[hk _ _ hr];exact he
  .cases he
 |.emp,y,he=>he
 |.nil,y,he=>he
 |.mp _,y,he=>he
 |.agg l,y,he|.qp l,y,he|.qf g l,y,he=>by
  simp[bX]at he ⊢;split at he
  .rename_i l' hl;rw[gV hk l l' hl];exact he
  .cases he
 |.undef,y,he=>he
 |.np,y,he=>he
 |.qy,y,he=>he
 |.sb _,y,he=>he
def gV {h h':a8} (hk:bW h h'):∀(l:Y TV) (l':Y AV),cI h l=Z l'->cI h' l=Z l'
 |[],l',he=>he
 |x::r,l',he=>by
  obtain⟨y,l2,rfl,h1,h2⟩:=cV he;exact qT (fZ hk x y h1) (gV hk r l2 h2)
end
mutual
def m7 {h h':a8} (hk:bW h h'):∀(u:TV),PI h u=J->PI h' u=J
 |.f _ _,_|.zf _ _ _ _ _,_|.zq _ _ _ _,_|.K _ _,_|.qg _ _ _,_=>rfl
 |.I id,he|.zl id jj,he=>by
  simp[PI]at he ⊢;cases hr:eO h id with
  |none=>rw[hr]at he;cases he
  |some r=>rw[hk _ _ hr];rfl
 |.emp,_|.nil,_|.mp _,_=>rfl
 |.agg l,he|.qp l,he|.qf g l,he=>fo hk l he
 |.undef,_|.np,_|.qy,_|.sb _,_=>rfl
def fo {h h':a8} (hk:bW h h'):∀(l:Y TV),lM h l=J->lM h' l=J
 |[],_=>rfl
 |x::r,he=>by
  simp[lM,al]at he ⊢;exact⟨m7 hk x he.1,fo hk r he.2⟩
end
mutual
def IL (h:a8):∀(u:TV) (y:AV),bX h u=Z y->PI h u=J
 |.f _ _,_,_|.zf _ _ _ _ _,_,_|.zq _ _ _ _,_,_|.K _ _,_,_|.qg _ _ _,_,_=>rfl
 |.I id,y,he|.zl id jj,y,he=>by
  simp[PI,bX]at he ⊢;cases hr:eO h id with
  |none=>rw[hr]at he;cases he
  |some r=>rfl
 |.emp,_,_|.nil,_,_|.mp _,_,_=>rfl
 |.agg l,y,he|.qp l,y,he|.qf g l,y,he=>by
  simp[bX]at he;split at he
  .rename_i l' hl;exact lY h l l' hl
  .cases he
 |.undef,_,_|.np,_,_|.qy,_,_|.sb _,_,_=>rfl
def lY (h:a8):∀(l:Y TV) (l':Y AV),cI h l=Z l'->lM h l=J
 |[],_,_=>rfl
 |x::r,l',he=>by
  obtain⟨y,l2,rfl,h1,h2⟩:=cV he;simp[lM,al];exact⟨IL h x y h1,lY h r l2 h2⟩
end
mutual
def WS (h h':a8):∀(u:TV),wA u=J->bX h u=bX h' u
 |.f _ _,_|.zf _ _ _ _ _,_|.zq _ _ _ _,_|.K _ _,_|.qg _ _ _,_=>rfl
 |.I id,he=>by cases he
 |.emp,_|.nil,_|.mp _,_=>rfl
 |.agg l,he|.qp l,he=>by simp[bX];rw[IQ h h' l he]
 |.qf g l,he=>by cases he
 |.undef,_|.np,_|.qy,_=>rfl
 |.sb _,he=>by cases he
def IQ (h h':a8):∀(l:Y TV),sG l=J->cI h l=cI h' l
 |[],_=>rfl
 |x::r,he=>by
  simp[sG,al]at he;simp[cI];rw[WS h h' x he.1,IQ h h' r he.2]
end
def Tl (he:bX h u=Z y) (A:u.isC=J):y.isCell=J:=by
 cases u with
 |f T v=>cases T<;>simp[bX,ah]at he<;>subst he<;>first|rfl|(simp [TV.isC,Ty.one]at A)
 |I id=>
  simp[bX]at he;split at he
  .simp[ah]at he;subst he;unfold du;split<;>rfl
  .cases he
 |zl id L|agg l|qp l|undef|qy=>cases A
 |qf g l=>
  simp[bX]at he;split at he
  .simp[ah]at he;subst he;rfl
  .cases he
 |sb s=>simp[bX,ah]at he;subst he;cases s<;>first|rfl|(simp [Lc,uP];split<;>rfl)
 |_=>simp[bX,ah]at he;subst he;rfl
def uf :∀{l:Y TV} {l':Y AV},cI h l=Z l'->lE l=J->gD l'=J
 |[],l',he,_=>by simp[cI,ah]at he;subst he;rfl
 |x::r,l',he,z=>by
  obtain⟨y,I,rfl,h1,A⟩:=cV he;simp[lE,al]at z;simp[gD,al];exact⟨Tl h1 z.1,uf A z.2⟩
def Le (x y:AV):Prop:=∀(φ:PM) (O:Nat->Prop) (w:World) (v:Value),ch φ O w x v->ch φ O w y v
def Le.refl (x:AV):Le x x:=λ_ _ _ _ h=>h
def kh (H H':HF) (x y:AV):Prop:=∀(φ:PM) (E:Nat->Prop) (w:World) (v:Value),sV φ E H w->ch φ (tot E φ H) w x v->ch φ (tot E φ H') w y v
def rX (H H':HF):Prop:=∀i b,H' i=Z b->∃b0,H i=Z b0
def rX.refl (H:HF):rX H H:=λ_ b h=>⟨b,h⟩
variable {A:HF} {T:PM}
def rX.own {H':HF} (d:rX A H') (h:own T H' i):own T A i:=by
 let⟨k,b,h1,H⟩:=h;let⟨b0,z⟩:=d k b h1;exact⟨k,b0,z,H⟩
variable {O:Nat->Prop}
def rX.tot {H':HF} (d:rX A H') (h:tot O T H' i):tot O T A i:=h.imp id d.own
variable {v:Value} {W:World}
def ch.dom {H':HF} (d:rX A H') (h:ch T (tot O T A) W y v):ch T (tot O T H') W y v:=
 h.ext (λ_ _ h=>h) (Jd.refl _ W) λ_ _ z=>d.tot z
def nS.dom {H':HF} (d:rX A H') {x:FV} (h:nS (tot O T A) W x v):nS (tot O T H') W x v:=
 h.ext (Jd.refl _ W) λ_ _ z=>d.tot z
def Le.toH {H':HF} (d:rX A H') {x:AV} (h:Le x y):kh A H' x y:=λφ E w v _ z=>(h _ _ _ _ z).dom d
def kh.refl {H':HF} (d:rX A H') (x:AV):kh A H' x x:=(Le.refl x).toH d
def gX (H H':HF):Y AV->Y AV->Prop
 |[],[]=>True
 |x::xs,y::z=>kh H H' x y/\gX H H' xs z
 |_,_=>False
def gX.refl {H':HF} (d:rX A H'):∀l,gX A H' l l
 |[]=>trivial
 |x::r=>⟨kh.refl d x,gX.refl d r⟩
def gX.length {H':HF}:∀{l l':Y AV},gX A H' l l'->l! l'=l! l
 |[],[],_=>rfl
 |[],_::_,h|_::_,[],h=>h.elim
 |_::_,_::_,h=>by simp[gX.length h.2]
def gX.get {H':HF}:∀{l l':Y AV},gX A H' l l'->∀(j:Nat) y,l'[j]? =Z y->∃x,l[j]? =Z x/\kh A H' x y
 |[],[],_,j,y,H=>by simp at H
 |[],_::_,h,_,_,_|_::_,[],h,_,_,_=>h.elim
 |x::xs,z::ys,h,j,y,H=>by
  cases j with
  |zero=>simp at H;subst H;exact⟨x,rfl,h.1⟩
  |succ j=>simpa using gX.get h.2 j y (by grind)
def gX.append {H':HF}:∀{a z b b':Y AV},gX A H' a z->gX A H' b b'->gX A H' (a++b) (z++b')
 |[],[],_,_,_,h=>h
 |[],_::_,_,_,h,_|_::_,[],_,_,h,_=>h.elim
 |_::_,_::_,_,_,h,h'=>⟨h.1,gX.append h.2 h'⟩
def gX.take {H':HF}:∀{a z:Y AV} (n:Nat),gX A H' a z->gX A H' (a.take n) (z.take n)
 |[],[],n,_=>by simp[gX]
 |[],_::_,_,h|_::_,[],_,h=>h.elim
 |_::_,_::_,0,_=>trivial
 |_::_,_::_,n+1,h=>⟨h.1,gX.take n h.2⟩
def gX.drop {H':HF}:∀{a z:Y AV} (n:Nat),gX A H' a z->gX A H' (a.drop n) (z.drop n)
 |[],[],n,_=>by simp[gX]
 |[],_::_,_,h|_::_,[],_,h=>h.elim
 |_::_,_::_,0,h=>h
 |_::_,_::_,n+1,h=>gX.drop n h.2
def gX.splice {H':HF} {H b b':Y AV} (off:Nat) (h1:gX A H' r H) (z:gX A H' b b'):gX A H' (splice r off b) (splice H off b'):=by
 unfold AI.splice;rw[z.length];exact ((h1.take off).append z).append (h1.drop _)
def gx (H H':HF) (b b':ko):Prop:=∀(φ:PM) (E:Nat->Prop) (w:World) (o:Obj),sV φ E H w->ii φ (tot E φ H) w b o->ii φ (tot E φ H') w b' o
def gx.refl {H':HF} (d:rX A H') (b:ko):gx A H' b b:=λ_ _ _ _ _ h=>h.mono λ_ _ h=>h.dom d
def rz {c:BC} {o:Obj} (z:c.isCells=J):ii T O W ⟨s,c⟩ o↔∃arr,o= .cells arr s (0,0)/\vH T O W c arr:=by
 cases c<;>simp[BC.isCells]at z<;>rfl
def gx.G {H':HF} {c H:BC} (L:c.isCells=J) (z:H.isCells=J) (hl:gX A H' c.toMx H.toMx) (hcell:∀x∈H.toMx,x.isCell=J):gx A H' ⟨s,c⟩ ⟨s,H⟩:=by
 intro φ E w o hrep ho;rw[rz L]at ho;rw[rz z];let⟨arr,h1,h2,h3⟩:=ho;refine ⟨arr,h1,by rw[BC.len_toMx z,hl.length,<-BC.len_toMx L];exact h2,λj x I=>?_⟩;rw[BC.get_toMx z]at I;refine ⟨hcell x (ba I),?_⟩;let⟨y,hy,hle⟩:=hl.get j x I;let⟨_,v,h5,h6⟩:=h3 j y (by rw[BC.get_toMx L];exact hy);exact⟨v,h5,hle _ _ _ _ hrep h6⟩
def am0 (ty:M TypeId) (l:Y AV):ko:=match ty with
 |some ty=>⟨ty,.mx l⟩
 |none=>⟨0,.mp []⟩
def gx.none {H':HF}:gx A H' ⟨0,.mp []⟩ ⟨0,.mp []⟩:=by
 intro φ E w o hrep H;let⟨ents,clock,h1,I,L⟩:=H;exact⟨ents,clock,h1,I,λj x z=>by cases z⟩
def gx.eq {H':HF} (d:rX A H') {c I:BC} (H:c.isCells=J) (z:I.isCells=J) (hl:c.toMx=I.toMx):gx A H' ⟨s,c⟩ ⟨s,I⟩:=by
 intro φ E w o hrep ho;rw[rz H]at ho;rw[rz z];let⟨arr,h1,h2,h3⟩:=ho;refine ⟨arr,h1,by rw[BC.len_toMx z,<-hl,<-BC.len_toMx H];exact h2,λj x L=>?_⟩;rw[BC.get_toMx z,<-hl,<-BC.get_toMx H]at L;let⟨h4,v,h5,h6⟩:=h3 j x L;exact⟨h4,v,h5,h6.dom d⟩
structure O4 (H H':HF):Prop where
 dom:rX H H'
 jm:∀i b b',H i=Z b->H' i=Z b'->gx H H' b b'
def O4.refl (H:HF):O4 H H:=⟨rX.refl H,λi b b' h h'=>by rw[h]at h';cases h';exact gx.refl (rX.refl H) b⟩
def O4.ql {H':HF} (V:O4 A H') (r:sV T O A W):sV T O H' W:=by
 refine ⟨λi j b b' k z g2 g3 L=>?_,λi b z=>?_,r.el,λg cells I=>(r.gl g cells I).dom V.dom⟩
 .obtain⟨b0,q1⟩:=V.dom i b z;let⟨b1,H⟩:=V.dom j b' g2;exact r.inj i j b0 b1 k q1 H g3 L
 .obtain⟨b0,q1⟩:=V.dom i b z;let⟨k,p1,p2,ob,p3,p4⟩:=r.at_ i b0 q1;exact⟨k,p1,p2,ob,p3,V.jm i b0 b q1 z T O W ob r p4⟩
variable {P:Program}
def gC.view {o:Oper} {e:EF} {h:HF} {val':AV} {rd z wr' N:ι} {nw':HF} (ht:gC P o e h ⟨y,rd,z,A,N⟩) (hsub:∀i∈z,i∈wr'\/i∈rd)
 (hv:∀h':HF,(∀i∈rd,h' i=h i)->(∀i∈wr',h' i=h i)->O4 (fm h' z A) (fm h' wr' nw')/\kh (fm h' z A) (fm h' wr' nw') y val'):gC P o e h ⟨val',rd,wr',nw',N⟩:=by
 intro φ E h' w a h1 L h3 h4 h5;have hw:=ht φ E h' w a h1 (λi hi=>(hsub i hi).elim (L i) (h1 i)) h3 h4 h5;let⟨V,hle⟩:=hv h' h1 L;refine U2 ?_ hw;rintro a' w' ⟨v,φ',rfl,mv,nm',I,rel⟩;exact⟨v,φ',rfl,⟨mv.sub,mv.ext,λk hk ho=>mv.qr k hk (V.dom.own ho)⟩,nm',V.ql I,hle _ _ _ _ I rel⟩
def Le.nil:Le (.f (.raw (.slice U 0 0))) (.f (.sl [] 0)):=by
 intro φ O w v z;cases z with
 |f z=>cases z;exact .f (.nil U 0 (by simp))
def Le.emp:Le .emp (.f (.sl [] 0)):=by
 intro φ O w v z;cases z with
 |emp=>exact .f (.nil _ 0 (by unfold maxLen;omega))
def Le.nilEmp:Le (.f (.raw (.slice U 0 0))) .emp:=by
 intro φ O w v z;cases z with
 |f z=>cases z;exact .emp
def Le.aggF {l:Y FV}:Le (.f (.agg l)) (.agg (l.map .f)):=by
 intro φ O w v A;cases A with
 |f A=>
  cases A with
  |agg _ vs hl hcl hrr=>
   refine .agg (by grind) (λx z=>?_) λj x u z hu=>?_
   .obtain⟨y,L,rfl⟩:=cC.1 z;exact hcl y L
   .rw[bE]at z;cases I:l[j]? with
    |none=>rw[I]at z;cases z
    |some y=>rw[I]at z;simp at z;subst z;exact .f (hrr j y u I hu)
def ak7 (l:Y AV):Le (Re l) (.agg l):=by
 unfold Re;split
 next z h=>rw[nO h];exact Le.aggF
 .exact Le.refl _
def kh.aggL {H':HF} {l':Y FV} (h:gX A H' r (l'.map .f)) (hc:∀x∈l',x.isCell=J):kh A H' (.agg r) (.f (.agg l')):=by
 intro φ E w v hrep I;cases I with
 |@agg _ vs L hcl hrr=>
  refine .f (.agg l' vs (by rw[L,<-h.length];simp) hc λj y u hy H=>?_);let⟨x,z,hle⟩:=h.get j (.f y) (by grind);have:=hle φ E w u hrep (hrr j x u z H);cases this with
  |f h=>exact h
def kh.I {H':HF} (d:rX A H') {n:Nat} {cells:Y FV} (h1:A i=Z ⟨s,.fz cells⟩) (h2:H' i=U) (hl:l! cells=n*m):kh A H' (.I i m n) (.f (.sl cells n)):=by
 intro φ E w v r hr;cases hr with
 |@I _ _ _ c k hφ hn hcap hsh=>
  let⟨k',q1,q2,_⟩:=r.at_ i _ h1;rw[hφ]at q1;cases q1;let⟨arr,p1,p2,p3⟩:=r.cs h1 hφ rfl;have hk:k<w.heap.size:=(dw.1 p1).1;have hlen:l! cells<=arr.size:=by simpa[BC.toMx] using p3
  have hnk:¬tot E φ H' k:=by
   rintro (hE|⟨j,b,L,H⟩)
   .exact q2 hE
   .obtain⟨b0,g3⟩:=d j b L;have:=r.inj j i b0 _ k g3 h1 H hφ
    grind
  have hget:∀(j:Nat) x,cells[j]? =Z x->∃u,arr[j]? =Z u/\nS (tot E φ A) w x u:=λj x z=>by
   have hj:j<l! cells:=(bz.1 z).1;have hja:j<arr.size:=by omega
   refine ⟨arr[j],by simp[hja],?_⟩;have:=p2.2.2 j (.f x) arr[j] (by simp[BC.toMx,z]) (by
    rw[fd,aC (by simpa[BC.toMx] using hj),c6];simp[hja])
   cases this with
   |f h=>exact h
  refine .f (.sl cells n c k 0 (λj=>(arr[j]?).getD undef) hn hcap hnk hk (λx z=>?_) (λj hj=>?_) (λj x z=>?_))
  .have:=p2.2.1 (.f x) (by simp only[BC.toMx];exact cC.2 ⟨x,z,rfl⟩);exact this
  .have:j<arr.size:=by omega
   simp[Sj,p1,this]
  .obtain⟨u,L,H⟩:=hget j x z;rw[L];exact H.dom d
def uG:∀l:Y Xp,NJ l=l.flatMap y_
 |[]=>rfl
 |x::r=>by rw[NJ,uG r];rfl
def CA:∀l:Y Sx,NI l=l.flatMap Bq
 |[]=>rfl
 |x::r=>by rw[NI,CA r];rfl
def NH (e:Xp):bI Rv (Sr e)=y_ e:=by
 cases e with
 |mk op n name l=>simp only[Rv,Sr,bI,y_,Xp.op,Xp.n,Xp.name,Xp.l,uG];rfl
def Xc (x:Rv.den):y_ (eM x)=bI Rv x:=by
 simp only[Rv,eM,bI,y_,uG];rfl
def NG (e:Sx):bI Q3 (Sq e)=Bq e:=by
 cases e with
 |mk op line name arg index expr body els=>simp only[Q3,Sq,bI,Bq,Sx.op,Sx.line,Sx.name,Sx.arg,Sx.index,Sx.expr,Sx.body,Sx.els,uG,CA];rfl
def Xb (x:Q3.den):Bq (pn x)=bI Q3 x:=by
 simp only[Q3,pn,bI,Bq,uG,CA];rfl
def AK (e:Xp):l! (y_ e)=4:=by cases e;simp[y_]
def GV (e:Sx):l! (Bq e)=11:=by cases e;simp[Bq,AK]
def bk:∀(T:Ty) (v:T.den),l! (bI T v)=T.size
 |.int _,_|.bool,_|.str,_|.sl _,_=>rfl
 |.st t,v=>bk t v
 |.pr a b,v=>by simp[bI,Ty.size,bk a,bk b]
 |.un,_=>rfl
 |.ex,v=>AK v
 |.sm,v=>GV v
def NK (e:Xp):∀x∈y_ e,x.isCell=J:=by
 cases e with
 |mk op n name l=>
  intro x z;simp[y_,bh,b7,eE]at z;rcases z with rfl|rfl|rfl|rfl<;>rfl
def aa4 (e:Sx):∀x∈Bq e,x.isCell=J:=by
 cases e with
 |mk op line name arg index expr body els=>
  intro x z;simp only[Bq,cq,bh,b7,eE]at z;rcases z with (z|z)|z
  .rcases z with rfl|rfl|rfl|rfl|rfl<;>rfl
  .exact NK _ _ z
  .rcases z with rfl|rfl<;>rfl
def py:∀(T:Ty) (v:T.den),∀x∈bI T v,x.isCell=J
 |.int _,_,x,z|.bool,_,x,z|.str,_,x,z|.sl _,_,x,z=>by simp[bI,aG]at z;subst z;rfl
 |.st t,v,x,z=>py t v x z
 |.pr a b,v,x,z=>by
  simp[bI,cq]at z;exact z.elim (py a v.1 x) (py b v.2 x)
 |.un,_,x,z=>by simp[bI]at z
 |.ex,v,x,z=>NK v x z
 |.sm,v,x,z=>aa4 v x z
def NL:∀(T:Ty) (v:T.den),T.one=J->bI T v=[gq T v]/\T.size=1
 |.int _,_,_|.bool,_,_|.str,_,_|.sl _,_,_=>⟨rfl,rfl⟩
 |.st _,_,h|.pr _ _,_,h|.un,_,h|.ex,_,h|.sm,_,h=>by cases h
def sO:∀(T:Ty) (v:T.den),T.one=af->gq T v= .agg (bI T v)
 |.int _,_,h|.bool,_,h|.str,_,h|.sl _,_,h=>by cases h
 |.st _,_,_|.pr _ _,_,_|.un,_,_|.ex,_,_|.sm,_,_=>rfl
def Du (T:Ty) (v:T.den):(AV.f (gq T v)).cs=(bI T v).map .f:=by
 cases h:T.one with
 |true=>
  cases T<;>simp[Ty.one]at h<;>first|rfl|cases h
 |false=>rw[sO T v h];rfl
def eV {f:R->Y FV} (hf:∀x,l! (f x)=i):∀(xs:Y R),l! (xs.flatMap f)=l! xs*i
 |[]=>by simp
 |x::r=>by rw[gf,bH,hf,eV hf r,jW,jF];omega
def IH {f:R->Y FV} (hf:∀x,l! (f x)=i):∀(xs:Y R) (j:Nat) (x:R),xs[j]? =Z x->∃r,(xs.flatMap f).drop (j*i)=f x++r
 |[],j,x,h=>by simp at h
 |y::r,j,x,h=>by
  cases j with
  |zero=>simp at h;subst h;exact⟨r.flatMap f,by simp⟩
  |succ j=>
   let⟨q,z⟩:=IH hf r j x (by grind);refine ⟨q,?_⟩;rw[gf,show (j+1)*i=l! (f y)+j*i from by rw[hf,jF];omega,xk];simp[z]
def Ns {f:R->Y FV} (hf:∀x,l! (f x)=i):∀(xs:Y R) (j:Nat) (x z:R),xs[j]? =Z x->∀(off:Nat) (vs:Y FV),off+l! vs<=i->f z=AI.splice (f x) off vs->(xs.set j z).flatMap f=AI.splice (xs.flatMap f) (j*i+off) vs
 |[],j,x,z,h,_,_,_,_=>by simp at h
 |y::r,j,x,z,h,off,vs,hle,A=>by
  cases j with
  |zero=>
   simp at h;subst h;simp only[List.set_cons_zero,gf,A,Nat.zero_mul,bZ];unfold AI.splice;have L:=hf y;rw[List.take_append,xk];have e1:off-l! (f y)=0:=by omega
   have e2:off+l! vs-l! (f y)=0:=by omega
   rw[e1,e2];simp[mC]
  |succ j=>
   have I:=Ns hf r j x z (by simpa using h) off vs hle A;simp only[List.set_cons_succ,gf,I];unfold AI.splice;have L:=hf y;have e0:(j+1)*i=l! (f y)+j*i:=by rw[hf,jF];omega
   rw[e0,List.take_append,xk];have e1:l! (f y)+j*i+off-l! (f y)=j*i+off:=by omega
   have e2:l! (f y)+j*i+off+l! vs-l! (f y)=j*i+off+l! vs:=by omega
   rw[e1,e2,fE (by omega:l! (f y)<=l! (f y)+j*i+off),C7 (by omega:l! (f y)<=l! (f y)+j*i+off+l! vs)];simp[mC]
def ml (T:Ty) (xs:Y T.den):∀x∈xs.flatMap (bI T),x.isCell=J:=λx z=>by
 let⟨y,_,h⟩:=xi.1 z;exact py T y x h
def je {T:Ty} {v:S.den} {x:T.den} (h:xO T v=Z x):∃e:S=T,x=e▸v:=by
 unfold xO at h
 grind
def mR (h:a8):∀(n:Nat) (T:Ty) (v:T.den) (l:Y TV),cellsOf n T v=Z l->cI h l=Z ((bI T v).map .f)/\lE l=J
 |0,_,_,_,he=>by simp[cellsOf]at he
 |n+1,.st t,v,l,he=>mR h n t v l he
 |n+1,.pr a b,v,l,he=>by
  simp[cellsOf]at he;split at he
  .rename_i x y L I;simp[ah]at he;subst he;let⟨h1,A⟩:=mR h n a v.1 x L;let⟨h3,h4⟩:=mR h n b v.2 y I;refine ⟨by rw[bI,cg];exact oV h1 h3,?_⟩;clear h1 h3 L I;induction x with
   |nil=>exact h4
   |cons z r ih=>simp[lE,al,gG]at A ⊢;exact⟨A.1,ih A.2⟩
  .cases he
 |n+1,.un,v,l,he=>by simp[cellsOf,ah]at he;subst he;exact⟨rfl,rfl⟩
 |n+1,.ex,v,l,he=>by rw[bI,<-NH];exact mR h n Rv (Sr v) l he
 |n+1,.sm,v,l,he=>by rw[bI,<-NG];exact mR h n Q3 (Sq v) l he
 |n+1,.int k,v,l,he|n+1,.bool,v,l,he|n+1,.str,v,l,he|n+1,.sl t,v,l,he=>by simp[cellsOf,ah]at he;subst he;exact⟨rfl,rfl⟩
def S5 (h:y.isCell=J):y.cs=[y]:=by
 cases y with
 |f x=>cases x<;>first|rfl|cases h
 |agg l=>cases h
 |_=>rfl
def Ks (A:u.cs=Z j) (L:bX h u=Z y):cI h j=Z y.cs/\lE j=J:=by
 have one:(if u.isC then Z [u] else U)=Z j->cI h j=Z y.cs/\lE j=J:=λA=>by
  split at A
  next hc=>simp[ah]at A;subst A;exact⟨by rw[S5 (Tl L hc)];exact qT L rfl,by simp[lE,hc]⟩
  .cases A
 cases u with
 |agg q=>
  simp only[TV.cs]at A;split at A
  .rename_i hc;simp[ah]at A;subst A;simp[bX]at L;split at L
   next l' hl=>simp[ah]at L;subst L;exact⟨hl,hc⟩
   .cases L
  .cases A
 |f T x=>
  simp[bX,ah]at L;subst L;rw[Du];exact mR h 40 T x j A
 |_=>exact one A
def Fx (h:a8) (H H':HF) (m:Nat):Prop:=∀id,aM m id=J->H (nm id)=erHF h (nm id)/\H' (nm id)=U
def Fx.zero {H':HF}:Fx h A H' 0:=λid hid=>by simp at hid
def Fx.or {H':HF} (g:Fx h A H' (i|||m)):Fx h A H' i/\Fx h A H' m:=
 ⟨λid hid=>g id (by grind),λid hid=>g id (by grind)⟩
def bm :aM (gA i) m=J↔i=m:=by
 unfold gA;rw[Nat.one_shiftLeft,Nat.testBit_two_pow];simp
section pack
variable {h:a8} {H H':HF}
def AX (d:rX H H') {x:S.den} (A:iN h S u=Z (x,m)) (L:bX h u=Z y) (g:Fx h H H' m):kh H H' y (.f (gq S x))/\l! y.cs=S.size/\(S.one=J->y.isCell=J)/\gX H H' y.cs ((bI S x).map .f):=by
 cases u with
 |f T u=>
  simp[iN]at A;split at A
  next z hz=>obtain⟨rfl,_⟩:=A;obtain⟨e,rfl⟩:=je hz;subst e;simp[bX,ah]at L;subst L;refine ⟨kh.refl d _,by rw[Du,bx,bk],λho=>?_,by rw[Du];exact gX.refl d _⟩;cases T<;>simp[Ty.one]at ho<;>first|rfl|cases ho
  .cases A
 |emp=>
  simp[iN]at A;split at A
  .simp[ah,aQ]at A;obtain⟨rfl,_⟩:=A;simp[bX,ah]at L;subst L;exact⟨Le.emp.toH d,rfl,λ_=>rfl,⟨Le.emp.toH d,trivial⟩⟩
  .cases A
 |nil=>
  simp[iN]at A;split at A
  .simp[ah,aQ]at A;obtain⟨rfl,_⟩:=A;simp[bX,ah]at L;subst L;exact⟨Le.nil.toH d,rfl,λ_=>rfl,⟨Le.nil.toH d,trivial⟩⟩
  .cases A
 |I id=>
  simp[iN]at A;split at A
  .rename_i ty p T xs hb;split at A
   .rename_i z hz;obtain⟨rfl,rfl⟩:=A;obtain⟨e,rfl⟩:=je hz;subst e;let⟨g1,g2⟩:=g id (bm.2 rfl);rw[bG,hb]at g1;simp[bX,eO,hb,ah]at L;subst L;have key:kh H H' (du p id T.size (l! xs)) (.f (gq (.sl T) xs)):=by
     unfold du;split
     next hp=>simp only[al,cU]at hp;have:xs=[]:=dC.1 hp.2;subst this;exact Le.emp.toH d
     next hp=>simp only[aB,kq,av hp]at g1;exact kh.I d g1 g2 (eV (bk T) xs)
    have hc:(du p id T.size (l! xs)).isCell=J:=by unfold du;split<;>rfl
    refine ⟨key,by rw[S5 hc];rfl,λ_=>hc,?_⟩;rw[S5 hc];exact⟨key,trivial⟩
   .cases A
  .cases A
 |_=>simp[iN]at A
def r_ (d:rX H H'):∀(n:Nat) (T:Ty) (l:Y TV) (x:T.den) (m:Nat) (r:Y TV) (l':Y AV),fM h n T l=Z (x,m,r)->cI h l=Z l'->Fx h H H' m->∃L A,l'=L++A/\cI h r=Z A/\gX H H' L ((bI T x).map .f)
 |0,_,_,_,_,_,_,hp,_,_=>by simp[fM]at hp
 |n+1,.st t,l,x,m,r,l',hp,z,g=>r_ d n t l x m r l' hp z g
 |n+1,.pr a b,l,x,m,r,l',hp,z,g=>by
  simp[fM]at hp;split at hp
  .rename_i x1 m1 r1 h1;split at hp
   next x2 m2 r2 h2=>simp[ah,aQ]at hp;obtain⟨rfl,rfl,rfl⟩:=hp;let⟨ga,gb⟩:=g.or;obtain⟨L,A,rfl,q1,I⟩:=r_ d n a l x1 m1 r1 l' h1 z ga;obtain⟨l3,l4,rfl,q3,q4⟩:=r_ d n b r1 x2 m2 r2 A h2 q1 gb;refine ⟨L++l3,l4,by simp,q3,?_⟩;rw[bI,cg];exact I.append q4
   .cases hp
  .cases hp
 |n+1,.un,l,x,m,r,l',hp,z,g=>by
  obtain⟨_,_,rfl⟩:=hp;exact⟨[],l',rfl,z,trivial⟩
 |n+1,.ex,l,x,m,r,l',hp,z,g=>by
  simp[fM]at hp;split at hp
  next x1 m1 r1 h1=>simp[ah,aQ]at hp;obtain⟨rfl,rfl,rfl⟩:=hp;rw[bI,Xc];exact r_ d n Rv l x1 m1 r1 l' h1 z g
  .cases hp
 |n+1,.sm,l,x,m,r,l',hp,z,g=>by
  simp[fM]at hp;split at hp
  next x1 m1 r1 h1=>simp[ah,aQ]at hp;obtain⟨rfl,rfl,rfl⟩:=hp;rw[bI,Xb];exact r_ d n Q3 l x1 m1 r1 l' h1 z g
  .cases hp
 |n+1,.int k,l,x,m,r,l',hp,z,g|n+1,.bool,l,x,m,r,l',hp,z,g|n+1,.str,l,x,m,r,l',hp,z,g|n+1,.sl t,l,x,m,r,l',hp,z,g=>by
  simp[fM]at hp;split at hp
  .rename_i c q;split at hp
   next x1 m1 h1=>obtain⟨rfl,rfl,rfl⟩:=hp;obtain⟨y,A,rfl,q1,I⟩:=cV z;exact⟨[y],A,rfl,I,⟨(AX d h1 q1 g).1,trivial⟩⟩
   .cases hp
  .cases hp
def Zf (d:rX H H') {x:S.den} (hp:fM h i S j=Z (x,m,[])) (A:cI h j=Z r) (g:Fx h H H' m):gX H H' r ((bI S x).map .f):=by
 obtain⟨L,I,rfl,q1,z⟩:=r_ d i S j x m [] r hp A g;simp[cI,ah]at q1;subst q1;simpa using z
def UD (d:rX H H') {x:S.den} (A:Ht h S u=Z (x,m)) (L:bX h u=Z y) (g:Fx h H H' m):kh H H' y (.f (gq S x))/\gX H H' y.cs ((bI S x).map .f):=by
 have other:iN h S u=Z (x,m)->kh H H' y (.f (gq S x))/\gX H H' y.cs ((bI S x).map .f):=λA=>by
  let⟨h1,_,_,h2⟩:=AX d A L g;exact⟨h1,h2⟩
 cases u with
 |agg l=>
  simp only[Ht]at A;split at A
  .cases A
  .rename_i ho;split at A
   .rename_i x1 m1 h1;simp[ah,aQ]at A;obtain⟨rfl,rfl⟩:=A;simp[bX]at L;split at L
    next l' hl=>simp[ah]at L;subst L;have:=Zf d h1 hl g;refine ⟨?_,this⟩;rw[sO S x1 (by grind)];exact kh.aggL this (py S x1)
    .cases L
   .cases A
 |_=>exact other A
def F3 (d:rX H H') :∀(n:Nat) (l:Y TV) (xs:Y S.den) (m:Nat) (l':Y AV),D9 h S n l=Z (xs,m)->cI h l=Z l'->Fx h H H' m->gX H H' l' ((xs.flatMap (bI S)).map .f)/\l! xs=n
 |0,[],xs,m,l',hp,z,g=>by
  obtain⟨rfl,_⟩:=hp;simp[cI,ah]at z;subst z;exact⟨trivial,rfl⟩
 |0,_::_,xs,m,l',hp,z,g=>by simp[D9]at hp
 |n+1,l,xs,m,l',hp,z,g=>by
  simp[D9]at hp;split at hp
  .rename_i x1 m1 r1 h1;split at hp
   next A m2 h2=>obtain⟨rfl,rfl⟩:=hp;let⟨ga,gb⟩:=g.or;obtain⟨l1,L,rfl,q1,I⟩:=r_ d 40 S l x1 m1 r1 l' h1 z ga;let⟨q3,q4⟩:=F3 d n r1 A m2 L h2 q1 gb;refine ⟨?_,by simp[q4]⟩;rw[gf,cg];exact I.append q3
   .cases hp
  .cases hp
def uD (h:a8):∀(n:Nat) (T:Ty) (v:T.den) (off sz:Nat) (L:Bool) (u:TV),od n T v off sz L=Z u->off+sz<=T.size/\∃y,bX h u=Z (.f y)/\(L=af->sz=1/\(bI T v)[off]? =Z y)/\(L=J->y= .agg (((bI T v).drop off).take sz))
 |0,_,_,_,_,_,_,z=>by simp[od]at z
 |n+1,.st t,v,off,sz,L,u,z=>by
  simp only[od]at z;split at z
  next I=>simp only[al]at I;obtain⟨⟨h1,A⟩,rfl⟩:=I;have h1:=au h1;have A:=au A;subst h1 A;cases z;refine ⟨by simp[Ty.size],_,rfl,nofun,λ_=>?_⟩;simp only[gq,bI,List.drop_zero];rw[<- bk t v,dh]
  .exact uD h n t v off sz L u z
 |n+1,.pr a b,v,off,sz,L,u,z=>by
  simp only[od]at z;have hla:=bk a v.1;have hlb:=bk b v.2;split at z
  .rename_i hlt;have hlt:off<a.size:=aY hlt;let⟨h1,y,A,h3,h4⟩:=uD h n a v.1 off sz L u z;refine ⟨by simp only[Ty.size];omega,y,A,λe=>?_,λe=>?_⟩
   .obtain⟨h5,h6⟩:=h3 e;exact⟨h5,by rw[bI,b8 (by omega)];exact h6⟩
   .rw[h4 e,bI]
    grind
  .rename_i hlt;have hlt:¬off<a.size:=λh=>hlt (bf h)
   let⟨h1,y,A,h3,h4⟩:=uD h n b v.2 (off-a.size) sz L u z;refine ⟨by simp only[Ty.size];omega,y,A,λe=>?_,λe=>?_⟩
   .obtain⟨h5,h6⟩:=h3 e;exact⟨h5,by rw[bI,bS (by omega),hla];exact h6⟩
   .rw[h4 e,bI];have:(bI a v.1++bI b v.2).drop off=(bI b v.2).drop (off-a.size):=by
     rw[xk,hla,C7 (by omega)];simp
    rw[this]
 |n+1,.un,v,off,sz,L,u,z=>by simp[od]at z
 |n+1,.ex,v,off,sz,L,u,z=>by
  simp only[od]at z;split at z
  next I=>simp only[al]at I;obtain⟨⟨h1,A⟩,rfl⟩:=I;have h1:=au h1;have A:=au A;subst h1 A;cases z;refine ⟨by simp[Ty.size],_,rfl,nofun,λ_=>?_⟩;simp only[gq,bI,List.drop_zero];rw[<- AK v,dh]
  .obtain⟨h1,y,A,h3,h4⟩:=uD h n Rv (Sr v) off sz L u z;rw[NH]at h3 h4;exact⟨h1,y,A,h3,h4⟩
 |n+1,.sm,v,off,sz,L,u,z=>by
  simp only[od]at z;split at z
  next I=>simp only[al]at I;obtain⟨⟨h1,A⟩,rfl⟩:=I;have h1:=au h1;have A:=au A;subst h1 A;cases z;refine ⟨by simp[Ty.size],_,rfl,nofun,λ_=>?_⟩;simp only[gq,bI,List.drop_zero];rw[<- GV v,dh]
  .obtain⟨h1,y,A,h3,h4⟩:=uD h n Q3 (Sq v) off sz L u z;rw[NG]at h3 h4;exact⟨h1,y,A,h3,h4⟩
 |n+1,.int k,v,off,sz,L,u,z|n+1,.bool,v,off,sz,L,u,z|n+1,.str,v,off,sz,L,u,z|n+1,.sl t,v,off,sz,L,u,z=>by
  simp only[od]at z;split at z
  next I=>simp only[al,cS]at I;obtain⟨⟨h1,A⟩,rfl⟩:=I;have h1:=au h1;have A:=au A;subst h1 A;cases z;exact⟨by simp[Ty.size],_,rfl,λ_=>⟨rfl,rfl⟩,nofun⟩
  .cases z
def Y1 (l vs:Y R) (h:l! vs=l! l):AI.splice l 0 vs=vs:=by
 unfold AI.splice
 grind
def Vb (a b vs:Y R) (off:Nat) (h:off+l! vs<=l! a):AI.splice (a++b) off vs=AI.splice a off vs++b:=by
 unfold AI.splice
 grind
def Sz (a b vs:Y R) (off:Nat) (h:l! a<=off):AI.splice (a++b) off vs=a++AI.splice b (off-l! a) vs:=by
 unfold AI.splice;rw[List.take_append,xk,fE h,C7 (by omega),show off+l! vs-l! a=off-l! a+l! vs from by omega];simp[mC]
def Sa (H H':HF) (y:AV) (T:Ty) (v z:T.den) (off sz:Nat):Prop:=∃A:Y FV,gX H H' y.cs (A.map .f)/\l! A=sz/\off+sz<=T.size/\bI T z=AI.splice (bI T v) off A/\∀x∈A,x.isCell=J
def Sa.whole {v z:S.den} (h0:i=0) (A:m=S.size) (I:gX H H' y.cs ((bI S z).map .f)):Sa H H' y S v z i m:=by
 subst h0 A;exact⟨bI S z,I,bk S z,by omega,(Y1 _ _ (by rw[bk,bk])).symm,py S z⟩
def uh (d:rX H H') (L:bX h u=Z y):∀(n:Nat) (T:Ty) (v:T.den) (off sz:Nat) (z:T.den) (m:Nat),gL h u n T v off sz=Z (z,m)->Fx h H H' m->Sa H H' y T v z off sz
 |0,_,_,_,_,_,_,A,_=>by simp[gL]at A
 |n+1,.st t,v,off,sz,z,m,A,g=>by
  simp only[gL]at A;split at A
  .rename_i q hq;split at hq
   next I=>simp only[al]at I;simp only[ah]at A;subst A;exact .whole (au I.1) (au I.2) (UD d hq L g).2
   .cases hq
  .exact uh d L n t v off sz z m A g
 |n+1,.pr a b,v,off,sz,z,m,A,g=>by
  simp only[gL]at A;have hla:=bk a v.1;split at A
  .rename_i hlt;split at A
   next z1 m1 h1=>simp only[ah,aQ]at A;obtain⟨rfl,rfl⟩:=A;let⟨fs,q1,q2,q3,q4,q5⟩:=uh d L n a v.1 off sz z1 m1 h1 g;refine ⟨fs,q1,q2,by simp only[Ty.size];omega,?_,q5⟩;rw[bI,bI,Vb _ _ _ _ (by omega),q4]
   .cases A
  .rename_i hlt;have hlt:¬off<a.size:=λh=>hlt (bf h)
   split at A
   next z1 m1 h1=>simp only[ah,aQ]at A;obtain⟨rfl,rfl⟩:=A;let⟨fs,q1,q2,q3,q4,q5⟩:=uh d L n b v.2 (off-a.size) sz z1 m1 h1 g;refine ⟨fs,q1,q2,by simp only[Ty.size];omega,?_,q5⟩;rw[bI,bI,Sz _ _ _ _ (by omega),q4,hla]
   .cases A
 |n+1,.un,v,off,sz,z,m,A,g=>by simp[gL]at A
 |n+1,.ex,v,off,sz,z,m,A,g=>by
  simp only[gL]at A;split at A
  .rename_i q hq;split at hq
   next I=>simp only[al]at I;simp only[ah]at A;subst A;exact .whole (au I.1) (au I.2) (UD d hq L g).2
   .cases hq
  .split at A
   next z1 m1 h1=>simp only[ah,aQ]at A;obtain⟨rfl,rfl⟩:=A;let⟨fs,q1,q2,q3,q4,q5⟩:=uh d L n Rv (Sr v) off sz z1 m1 h1 g;exact⟨fs,q1,q2,q3,by rw[bI,bI,Xc,q4,NH],q5⟩
   .cases A
 |n+1,.sm,v,off,sz,z,m,A,g=>by
  simp only[gL]at A;split at A
  .rename_i q hq;split at hq
   next I=>simp only[al]at I;simp only[ah]at A;subst A;exact .whole (au I.1) (au I.2) (UD d hq L g).2
   .cases hq
  .split at A
   next z1 m1 h1=>simp only[ah,aQ]at A;obtain⟨rfl,rfl⟩:=A;let⟨fs,q1,q2,q3,q4,q5⟩:=uh d L n Q3 (Sq v) off sz z1 m1 h1 g;exact⟨fs,q1,q2,q3,by rw[bI,bI,Xb,q4,NG],q5⟩
   .cases A
 |n+1,.int k,v,off,sz,z,m,A,g|n+1,.bool,v,off,sz,z,m,A,g|n+1,.str,v,off,sz,z,m,A,g|n+1,.sl t,v,off,sz,z,m,A,g=>by
  simp only[gL]at A;split at A
  next I=>simp only[al]at I;exact .whole (au I.1) (au I.2) (AX d A L g).2.2.2
  .cases A
def OU:∀{a b:ξ},Ya a b=J->a=b
 |[],[],_=>rfl
 |[],_::_,h|_::_,[],h=>by cases h
 |x::xs,y::ys,h=>by
  simp[Ya,al]at h;rw[aqs h.1,OU h.2]
def zero_ok (d:rX H H'):∀T:Ty,gX H H' ((ve T).map raw) ((bI T T.zero).map .f)
 |.int k|.bool|.str=>⟨kh.refl d _,trivial⟩
 |.sl t=>⟨Le.nil.toH d,trivial⟩
 |.st t=>zero_ok d t
 |.pr a b=>by
  simp[ve,Ty.zero,bI,cg];exact (zero_ok d a).append (zero_ok d b)
 |.un=>trivial
 |.ex=>⟨kh.refl d _,kh.refl d _,kh.refl d _,Le.nil.toH d,trivial⟩
 |.sm=>⟨kh.refl d _,kh.refl d _,kh.refl d _,kh.refl d _,Le.nil.toH d,kh.refl d _,kh.refl d _,kh.refl d _,Le.nil.toH d,Le.nil.toH d,Le.nil.toH d,trivial⟩
def LD (d:rX H H') (T:Ty):∀n,gX H H' ((repl (ve T) n).map .f) (((aE n T.zero).flatMap (bI T)).map .f)
 |0=>trivial
 |n+1=>by
  rw[repl,KC,gf,cg,cg];have h1:=zero_ok (H:=H) (H':=H') d T;have:((ve T).map .raw).map AV.f=(ve T).map raw:=by rw[kH];rfl
  rw[this];exact h1.append (LD d T n)
end pack
structure gY (h:a8) (nx:Nat):Prop where
 G:∀id ty l,h.get id=Z (.G ty l)->lM h l=J
 low:∀id b,h.get id=Z b->id<nx
def s7 (e:ia) (h:a8):Prop:=∀t v,e.get t=Z v->PI h v=J
structure fy (P:Program) (o:Oper) (still:Bool) (e:ia) (h:a8) (nx:Nat) (v:TV) (rd wr:Nat) (h':a8) (nx':Nat):Prop where
 ex:∃f:EL,gC P o (fQ e h) (erHF h) f/\(∀y,bX h' v=Z y->f.val=y)/\fm (erHF h) f.wr f.nw=erHF h'/\(∀n∈f.rd,aM rd (ow n)=J)/\(∀n∈f.wr,aM wr (ow n)=J)/\(∀n∈f.N,nx<=ow n/\ow n<nx')
 H:bW h h'
 inv:gY h' nx'
 jd:nx<=nx'
 st:still=J->rd=0/\wr=0
def iW (P:Program) (o:Oper) (still:Bool) (e:ia) (h:a8) (nx:Nat) (K:KO R) (r:R):Prop:=
 ∃v rd z h' nx',K v rd z h' nx'=Z r/\fy P o still e h nx v rd z h' nx'
variable {b:Bool}
def cG {k:b=J->M R} {r:R} (h:chk b k=Z r):∃z:b=J,k z=Z r:=by
 cases b with
 |true=>exact⟨rfl,h⟩
 |false=>cases h
def mS {t f:M R} {r:R} (h:aJ b t f=Z r):(b=J/\t=Z r)\/(b=af/\f=Z r):=by
 cases b with
 |true=>exact .inl ⟨rfl,h⟩
 |false=>exact .inr ⟨rfl,h⟩
def dV {α:Type} {o:M α} {k:α->M R} {r:R} (h:ax o k=Z r):∃x,o=Z x/\k x=Z r:=by
 cases o with
 |some x=>exact⟨x,rfl,h⟩
 |none=>cases h
variable {a:Int}
def mM (h:ef a i=J):0<=a/\a<i/\a.toNat<i:=by
 simp[ef,cX,gI,al,bu]at h;omega
def gC.envLe {o:Oper} {e e2:EF} {f:EL} (ht:gC P o e A f) (hle:∀t y,.tmp t∈o.op.operands->e t=Z y->∃h,e2 t=Z h/\Le h y):gC P o e2 A f:=by
 intro φ E h' w a h1 h2 h3 h4 L;refine ht φ E h' w a h1 h2 (λt z y I=>?_) h4 L;let⟨h,g1,g2⟩:=hle t y z I;exact g2 _ _ _ _ (h3 t z h g1)
def Ow (h:a8) (z:cst v=Z u):bX h u=Z (raw v)/\v.oneCell'=J/\u.isC=J:=by
 unfold cst at z;split at z<;>cases z<;>exact⟨rfl,rfl,rfl⟩
def xK (h:a8):∀{z:ξ} {l:Y TV},Ov z=Z l->cI h l=Z (z.map raw)/\(∀x∈z,x.oneCell'=J)/\lE l=J
 |[],l,A=>by simp[Ov,ah]at A;subst A;exact⟨rfl,by simp,rfl⟩
 |v::r,l,A=>by
  simp[Ov]at A;split at A
  .rename_i x l' I L;simp[ah]at A;subst A;let⟨h1,h2,h3⟩:=Ow h I;let⟨h4,h5,h6⟩:=xK h L;refine ⟨qT h1 h4,λy hy=>?_,by simp[lE,h3,h6]⟩
   grind
  .cases A
variable {c:Operand}
def bc {e:ia} (hi:s7 e h) (z:dz e c=Z u):∃y,mm (DU e h) c=Z y/\bX h u=Z y:=by
 cases c with
 |tmp t=>
  simp[dz]at z;let⟨y,I⟩:=pG h u (hi t u z);refine ⟨y,?_,I⟩;simp[mm];rw[Ds];simp[fQ,z,aB,I]
 |const x=>
  simp[dz]at z;unfold auq at z;split at z
  .rename_i vs;split at z
   .rename_i h1;split at z
    next l L=>simp[ah]at z;subst z;refine ⟨.agg (vs.toList.map raw),?_,by simp[bX,(xK h L).1]⟩;simp only[mm,I3,h1,bt];rfl
    .cases z
   .cases z
  .rename_i hn;refine ⟨raw x,?_,(Ow h z).1⟩;simp[mm];unfold I3;split
   .grind
   .rfl
 |func g=>
  simp[dz,ah]at z;subst z;exact⟨_,rfl,rfl⟩
 |global g=>
  simp[dz]at z;cases A:G g with
  |none=>rw[A]at z;cases z
  |some cells=>
   rw[A]at z;simp[ah]at z;subst z;have hcells:cells=Gg:=by
    unfold G at A
    grind
   subst hcells;exact⟨_,by simp[mm,A];rfl,rfl⟩
def F6 {e:ia} (hi:s7 e h):∀{xs:Y Operand} {l:Y TV},Mt e xs=Z l->∃l',evs (DU e h) xs=Z l'/\cI h l=Z l'
 |[],l,z=>by simp[Mt,ah]at z;subst z;exact⟨[],rfl,rfl⟩
 |x::xs,l,z=>by
  simp[Mt]at z;split at z
  .rename_i y I;split at z
   next ys hys=>simp[ah]at z;subst z;let⟨A,h1,h2⟩:=bc hi I;let⟨l',h3,L⟩:=F6 hi hys;exact⟨A::l',by simp[evs,h1,h3],qT h2 L⟩
   .cases z
  .cases z
section ops
variable {R:Type} {P:Program} {o:Oper} {e:ia} {h:a8} {nx:Nat} {K:KO R} {r:R}
def fy.pure {s:U0} (hinv:gY h nx) (hc:cM P o.op=Z s) {a:mY} (hH:a.get=erHF h) {k:Nat} {y0:AV} {rdl:ι} (ha:dE s (DU e h) a k=Z ⟨y0,rdl,[],[],[]⟩) (I:∀y,bX h u=Z y->Le y0 y) (hrd:∀n∈rdl,aM i (ow n)=J) (hst:b=J->i=0):fy P o b e h nx u i 0 h nx:=by
 have ht:=Mu hc ha;rw[Ds,hH]at ht;refine ⟨?_,λ_ _ h=>h,hinv,bK _,λL=>⟨hst L,rfl⟩⟩;have key:∀y,Le y0 y->gC P o (fQ e h) (erHF h) ⟨y,rdl,[],jP [],[]⟩:=λy hle=>
  gC.view ht (λrd hi=>by cases hi) λh' _ _=>⟨O4.refl _,hle.toH (rX.refl _)⟩
 cases A:bX h u with
 |none=>exact⟨_,ht,λy z=>by simp at z,by simp[EG.eff,vU],hrd,by simp[EG.eff],by simp[EG.eff]⟩
 |some y=>exact⟨_,key y (I y A),λy' z=>by simpa using z,by simp[vU],hrd,by simp,by simp⟩
def iW.q {s:U0} (hinv:gY h nx) (L:cM P o.op=Z s) {k:Nat} {y0:AV} (ha:∀H:mY,H.get=erHF h->dE s (DU e h) H k=rv y0) (A:∀y,bX h u=Z y->Le y0 y) (I:K u 0 0 h nx=Z r):iW P o b e h nx K r:=by
 let⟨H,z⟩:=gK h;exact⟨u,0,0,h,nx,I,fy.pure hinv L z (ha H z) A (by simp) λ_=>rfl⟩
def cK (A:bX h u=Z y):∀y0,bX h u=Z y0->Le y y0:=λy0 z=>by rw[A]at z;cases z;exact Le.refl _
def aiy {xs:Y S.den} (L:ef a (l! xs)=J) (hg:od 40 S (aI _ xs a) i m b=Z u):
 ∃y,bX h u=Z (.f y)/\(BC.fz (xs.flatMap (bI S))).sub? (a.toNat*S.size+i) m b=Z (.f y):=by
 let⟨h1,y,h2,h3,h4⟩:=uD h 40 S _ i m b u hg;refine ⟨y,h2,?_⟩;let⟨_,_,hlt⟩:=mM L;have I:xs[a.toNat]? =Z (aI _ xs a):=by
  unfold aI;rw[aD,aF hlt];rfl
 let⟨q,A⟩:=IH (bk S) xs a.toNat _ I;have hlen:=eV (bk S) xs;have hle:(a.toNat+1)*S.size<=l! xs*S.size:=cw _ hlt;rw[jF]at hle;have hl:=bk S (aI _ xs a);cases b with
 |false=>
  let⟨h5,h6⟩:=h3 rfl;subst h5;simp only[BC.sub?,BC.get];have:(xs.flatMap (bI S))[a.toNat*S.size+i]? =Z y:=by
   rw[<- lJ,A,b8 (by omega)];exact h6
  rw[this];rfl
 |true=>
  simp only[BC.sub?];rw[aC (bf (by omega)),h4 rfl,<-List.drop_drop,A,List.drop_append_of_le_length (by omega),tm (by grind)]
def asb {v:S.den} (A:od 40 S v i m b=Z u):
 ∃y,bX h u=Z (.f y)/\(BC.fz (bI S v)).sub? i m b=Z (.f y):=by
 let⟨h1,y,h2,h3,h4⟩:=uD h 40 S _ i m b u A;refine ⟨y,h2,?_⟩;have hl:=bk S v;cases b with
 |false=>
  let⟨L,I⟩:=h3 rfl;subst L;simp only[BC.sub?,BC.get,I];rfl
 |true=>
  simp[BC.sub?];simp_all
def ach {l':Y AV} (A:cI h j=Z l') (z:YY j i m b=Z u):∃y,bX h u=Z y/\(BC.mx l').sub? i m b=Z y:=by
 cases b with
 |false=>
  simp only[YY]at z;split at z
  next h1=>have h1:=au h1;subst h1;let⟨y,I,h3⟩:=mn A i u z;exact⟨y,h3,by simp[BC.sub?,BC.get,I]⟩
  .cases z
 |true=>
  simp only[YY]at z;split at z
  next h1=>simp[ah]at z;subst z;have I:=IP m (IR i A);exact⟨.agg ((l'.drop i).take m),by simp[bX,I],by simp[BC.sub?,iC A,h1,bt]⟩
  .cases z
def akd (z:lenOf h u=Z i) (A:bX h u=Z y):y.slen=Z i:=by
 unfold lenOf at z;split at z
 .simp[ah]at z;subst z;simp[bX,ah]at A;subst A;rfl
 .simp[ah]at z;subst z;simp[bX,ah]at A;subst A;rfl
 .simp[ah]at z;subst z;simp[bX,ah]at A;subst A;rfl
 .rename_i id;simp[bX]at A;cases I:eO h id with
  |none=>rw[I]at z;cases z
  |some q=>
   rw[I]at z A;simp[ah]at z A;subst z A;unfold du;split
   next hp=>simp[al,cU]at hp;rw[hp.2];rfl
   .rfl
 .simp[ah]at z;subst z;simp[bX,ah]at A;subst A;rfl
 .simp[ah]at z;subst z;simp[bX,ah]at A;subst A;simp only[Lc,uP];split
  next hp=>rw[cU]at hp;rw[hp];rfl
  .rfl
 .cases z
def Hs (a b:ζ):ue ⟨a.toArray⟩ ⟨b.toArray⟩=decide (a=b):=by
 unfold ue
 grind
def aqq {op:BinOp} {v:TV} {q:TV->M R} (z:auy op u v q=Z r):∃a b c t,bX h u=Z (raw a)/\bX h v=Z (raw b)/\w_ op a b=Z c/\bX h t=Z (raw c)/\q t=Z r:=by
 unfold auy at z;split at z
 .rename_i k a I b;split at z
  .rename_i hkk;have hkk':k=I:=by grind
   subst hkk';refine ⟨.int k a,.int k b,?_⟩;cases op<;>simp[reduceCtorEq]at z<;>first
    |cases z
    |exact⟨_,_,rfl,rfl,(by simp[w_,cj,bt]<;>rfl),rfl,z⟩
    |(let⟨L,z⟩:=cG z
      have A:(b==(0:Int))=af:=by grind
      exact⟨_,_,rfl,rfl,by simp[w_,cj,bt,A,cO,dZ],rfl,z⟩)
  .cases z
 .rename_i a b;refine ⟨.string ⟨jG a⟩,.string ⟨jG b⟩,?_⟩;split at z
  .exact⟨.bool (decide ((a:ζ)=b)),_,rfl,rfl,by simp[w_,Hs],rfl,z⟩
  .exact⟨.bool (!decide ((a:ζ)=b)),_,rfl,rfl,by simp[w_,Hs],rfl,z⟩
  .cases z
 .cases z
def aet :∀{l:Y TV} {xs:Y S.den},AY S l=Z xs->∀k,k<l! l->l[k]? =Z (.f S (xs.getD k S.zero))
 |[],xs,_,k,A=>by simp at A
 |.f T v::r,xs,z,k,A=>by
  simp[AY]at z;split at z
  .rename_i x L;split at z
   .rename_i l hl;simp[ah]at z;subst z;let⟨es,ex⟩:=je L;cases es;subst ex;cases k with
    |zero=>rfl
    |succ k=>simpa using aet hl k (by grind)
   .cases z
  .cases z
 |.zf _ _ _ _ _::r,xs,z,k,A|.zq _ _ _ _::r,xs,z,k,A|.K _ _::r,xs,z,k,A|.qg _ _ _::r,xs,z,k,A|.I _::r,xs,z,k,A|.emp::r,xs,z,k,A|.nil::r,xs,z,k,A|.mp _::r,xs,z,k,A|.agg _::r,xs,z,k,A|.qp _::r,xs,z,k,A|.qf _ _::r,xs,z,k,A|.undef::r,xs,z,k,A|.np::r,xs,z,k,A|.qy::r,xs,z,k,A|.sb _::r,xs,z,k,A=>by simp[AY]at z
def aes {xs:Y S.den} (z:amd j=Z ⟨S,xs⟩):∀k,k<l! j->j[k]? =Z (.f S (xs.getD k S.zero)):=by
 unfold amd at z;split at z
 .split at z
  next I A=>cases z;exact aet A
  .cases z
 .cases z
variable (hinv:gY h nx) (hi:s7 e h)
include hinv hi
variable {X:FuncId->M ci} {V:TypeId->M Ty}
def K_mv (I:cM P o.op=Z (.mv c)) (z:eQ X V (.op (.mv c)) e h nx K=Z r):iW P o b e h nx K r:=by
 simp[eQ]at z;split at z
 next v A=>let⟨y,h1,L⟩:=bc hi A;exact iW.q (k:=0) hinv I (λH _=>by simp[dE,h1]) (cK L) z
 .cases z
def awt {a st:Operand} (hc:cM P o.op=Z (.pick c a st)) (I:eQ X V (.op (.pick c a st)) e h nx K=Z r):iW P o b e h nx K r:=by
 simp[eQ]at I;split at I
 .rename_i t hv;let⟨y,h1,h2⟩:=bc hi hv;simp[bX,ah]at h2;subst h2;rcases mS I with ⟨rfl,z⟩|⟨rfl,z⟩
  .split at z
   next v A=>let⟨y2,h3,L⟩:=bc hi A;exact iW.q (k:=0) hinv hc (λH _=>by simp[dE,h1,gq,bt,h3]) (cK L) z
   .cases z
  .split at z
   next v A=>let⟨y2,h3,L⟩:=bc hi A;exact iW.q (k:=0) hinv hc (λH _=>by simp[dE,h1,gq,h3,cO,dZ]) (cK L) z
   .cases z
 .cases I
def awu (hc:cM P o.op=Z (.jz c)) (I:eQ X V (.op (.jz c)) e h nx K=Z r):iW P o b e h nx K r:=by
 simp[eQ]at I;split at I;all_goals first
  |(rename_i L
    let⟨y,h1,z⟩:=bc hi L;have A:=z;simp[bX,ah]at z;subst z;exact iW.q (k:=0) hinv hc (λH _=>by simp[dE,h1]) (cK A) I)
  |skip
 .rename_i g cap L;let⟨y,h1,z⟩:=bc hi L;have A:=z;simp[bX]at z;split at z
  .simp[ah]at z;subst z;exact iW.q (k:=0) hinv hc (λH _=>by simp[dE,h1]) (cK A) I
  .cases z
 .cases I
def aAs (L:cM P o.op=Z (.not c)) (z:eQ X V (.op (.not c)) e h nx K=Z r):iW P o b e h nx K r:=by
 simp[eQ]at z;split at z
 next st I=>let⟨y,h1,A⟩:=bc hi I;simp[bX,ah]at A;subst A;exact iW.q (k:=0) hinv L (λH _=>by simp[dE,h1,gq];rfl) (cK rfl) z
 .cases z
def ax0 {k:IntKind} (L:cM P o.op=Z (.conv k c)) (z:eQ X V (.op (.conv k c)) e h nx K=Z r):iW P o b e h nx K r:=by
 simp[eQ]at z;split at z
 next k' n I=>let⟨y,h1,A⟩:=bc hi I;simp[bX,ah]at A;subst A;exact iW.q (k:=0) hinv L (λH _=>by simp[dE,h1,gq];rfl) (cK rfl) z
 .cases z
def aB6 {y:Operand} {st:Bool} (hc:cM P o.op=Z (.xq b c y)) (z:eQ X V (.op (.xq b c y)) e h nx K=Z r):iW P o st e h nx K r:=by
 simp[eQ]at z;split at z
 next a neg hv A=>let⟨y,h1,L⟩:=bc hi hv;let⟨y2,h3,I⟩:=bc hi A;simp[bX,ah]at L I;subst L I;exact iW.q (k:=0) hinv hc (λH _=>by simp[dE,h1,h3,gq];rfl) (cK rfl) z
 .cases z
def art {st:Bool} (hc:cM P o.op=Z (.zn b c)) (A:eQ X V (.op (.zn b c)) e h nx K=Z r):iW P o st e h nx K r:=by
 simp[eQ]at A;split at A
 next I=>let⟨y,h1,z⟩:=bc hi I;simp[bX,ah]at z;subst z;exact iW.q (k:=0) hinv hc (λH _=>by simp[dE,h1,Dk,bt];rfl) (cK rfl) A
 next I=>let⟨y,h1,z⟩:=bc hi I;simp[bX,ah]at z;subst z;exact iW.q (k:=0) hinv hc (λH _=>by simp[dE,h1]) (cK rfl) A
 .rename_i T xs I;let⟨y,h1,z⟩:=bc hi I;simp[bX,ah]at z;subst z;rcases mS A with ⟨h3,L⟩|⟨h3,L⟩
  .have h3:=au h3;exact iW.q (k:=0) (y0:=.qy) hinv hc (λH _=>by simp[dE,h1,gq,h3]) (cK rfl) L
  .have h3:=nU h3;let⟨n,hn⟩:=Nat.exists_eq_succ_of_ne_zero h3;exact iW.q (k:=0) (y0:=raw (.bool b)) hinv hc (λH _=>by simp[dE,h1,gq,hn]) (cK rfl) L
 .rename_i id I;split at A
  next ty T xs hb=>let⟨y,h1,z⟩:=bc hi I;simp[bX,eO,hb,du,oY,cO,dZ,ah]at z;subst z;exact iW.q (k:=0) (y0:=raw (.bool b)) hinv hc (λH _=>by simp[dE,h1]) (cK rfl) A
  .cases A
 .cases A
def aAx {y:Operand} (hc:cM P o.op=Z (.max c y)) (z:eQ X V (.op (.max c y)) e h nx K=Z r):iW P o b e h nx K r:=by
 simp[eQ]at z;split at z
 .rename_i k a k' st hv A;let⟨y,h1,L⟩:=bc hi hv;let⟨y2,h3,I⟩:=bc hi A;simp[bX,ah]at L I;subst L I;split at z
  .exact iW.q (k:=0) hinv hc (λH _=>by simp[dE,h1,h3,gq];rfl) (cK rfl) z
  .cases z
 .cases z
def aAw {y:Operand} (hc:cM P o.op=Z (.min c y)) (z:eQ X V (.op (.min c y)) e h nx K=Z r):iW P o b e h nx K r:=by
 simp[eQ]at z;split at z
 .rename_i k a k' st hv A;let⟨y,h1,L⟩:=bc hi hv;let⟨y2,h3,I⟩:=bc hi A;simp[bX,ah]at L I;subst L I;split at z
  .exact iW.q (k:=0) hinv hc (λH _=>by simp[dE,h1,h3,gq];rfl) (cK rfl) z
  .cases z
 .cases z
def aB3 (L:cM P o.op=Z (.jp i c)) (z:eQ X V (.op (.jp i c)) e h nx K=Z r):iW P o b e h nx K r:=by
 simp[eQ]at z;split at z;all_goals first
  |(rename_i I
    let⟨y,h1,A⟩:=bc hi I;simp[bX,ah]at A;subst A;exact iW.q (k:=0) hinv L (λH _=>by simp[dE,h1,jA]) (cK rfl) z)
  |cases z
def aB2 {st:Bool} (hc:cM P o.op=Z (.fld i m b c)) (z:eQ X V (.op (.fld i m b c)) e h nx K=Z r):iW P o st e h nx K r:=by
 simp[eQ]at z;split at z
 .rename_i l I;split at z
  .rename_i u L;let⟨y,h1,A⟩:=bc hi I;simp[bX]at A;split at A
   next l' hl=>simp[ah]at A;subst A;let⟨y,h3,h4⟩:=ach hl L;exact iW.q (k:=0) hinv hc (λH _=>by simp[dE,h1,h4]) (cK h3) z
   .cases A
  .cases z
 .rename_i T v I;split at z
  .cases z
  .rename_i ho;split at z
   next u L=>let⟨y,h1,A⟩:=bc hi I;simp[bX,ah]at A;rw[sO T v (by grind)]at A;subst A;let⟨y,h3,h4⟩:=asb (h:=h) L;exact iW.q (k:=0) hinv hc (λH _=>by simp[dE,h1,h4]) (cK h3) z
   .cases z
 .cases z
def aB0 {n:Operand} {st:Bool} (hc:cM P o.op=Z (.idx i m b c n)) (A:eQ X V (.op (.idx i m b c n)) e h nx K=Z r):iW P o st e h nx K r:=by
 simp[eQ]at A;split at A
 .rename_i v0 k j hv hv2;split at A
  .rename_i T xs hA;let⟨hb,A⟩:=cG A;cases b with
   |true=>cases hA
   |false=>
   simp only[ayj]at hA;split at hA
   .rename_i hsz;simp only[al,cS]at hsz;have hsz1:=au hsz.1;subst hsz1;split at hA
    .rename_i l hl;split at hA
     .rename_i hn;have hn:=au hn;let⟨y,h1,I⟩:=bc hi hv;let⟨y2,h5,h6⟩:=bc hi hv2;simp[bX,ah]at h6;subst h6;have hj:j.toNat<l! l:=by
       simp[al,cX,gI,bu]at hb;omega
      have hg:=aes hA j.toNat hj;let⟨he,_⟩:=Ks hl I;let⟨z,L,hz2⟩:=mn he j.toNat _ hg;refine iW.q (k:=0) hinv hc (λH _=>?_) (cK hz2) A;cases v0 with
      |agg q=>
       simp[bX]at I;split at I
       next l' _=>simp[ah]at I;subst I;have L:l'[j.toNat]? =Z z:=L;simp[dE,h1,h5,gq,hb,bt,BC.sub?,BC.get,HO,L]
       .cases I
      |f S u=>
       have ho:S.one=af:=by
        have:=hsz.2;simpa[TV.isC] using this
       simp[bX,ah]at I;rw[sO S u ho]at I;subst I;have L:((bI S u).map AV.f)[j.toNat]? =Z z:=L;rw[bE]at L;simp[dE,h1,h5,gq,hb,bt,BC.sub?,BC.get,HO,L]
      |_=>simp[TV.cs,TV.isC]at hl hsz
     .cases hA
    .cases hA
   .cases hA
  .split at A
   .rename_i l;let⟨hb,A⟩:=cG A;split at A
    .rename_i u hs;let⟨y,h1,I⟩:=bc hi hv;let⟨y2,h5,h6⟩:=bc hi hv2;simp[bX,ah]at h6;subst h6;simp[bX]at I;split at I
     next l' hl=>simp[ah]at I;subst I;let⟨y,h3,h4⟩:=ach hl hs;exact iW.q (k:=0) hinv hc (λH _=>by simp[dE,h1,h5,gq,hb,bt,h4]) (cK h3) A
     .cases I
    .cases A
   .rename_i T v _;split at A
    .cases A
    .rename_i ho;let⟨hb,A⟩:=cG A;split at A
     next u hs=>let⟨y,h1,I⟩:=bc hi hv;let⟨y2,h5,h6⟩:=bc hi hv2;simp[bX,ah]at h6 I;subst h6;rw[sO T v (by grind)]at I;subst I;let⟨y,h3,h4⟩:=asb (h:=h) hs;exact iW.q (k:=0) hinv hc (λH _=>by simp[dE,h1,h5,gq,hb,bt,h4]) (cK h3) A
     .cases A
   .cases A
 .cases A
def awy {n:Operand} (L:cM P o.op=Z (.jk i m c n)) (z:eQ X V (.op (.jk i m c n)) e h nx K=Z r):iW P o b e h nx K r:=by
 simp[eQ]at z;split at z
 .rename_i id off k j hv A;let⟨y,h1,h2⟩:=bc hi hv;let⟨y2,h5,h6⟩:=bc hi A;simp[bX,ah]at h6 h2;subst h6 h2;split at z
  .obtain⟨I,z⟩:=cG z;exact iW.q (k:=0) (y0:=.K (nm id) (off+j.toNat*m)) hinv L (λH _=>by simp[dE,h1,h5,gq,I,bt]) (cK (by simp[bX];rw[Nat.add_comm])) z
  .obtain⟨I,z⟩:=cG z;exact iW.q (k:=0) hinv L (λH _=>by simp[dE,h1,h5,gq,I,bt]) (cK rfl) z
 .cases z
def aB4 (hc:cM P o.op=Z (.ext c i)) (z:eQ X V (.op (.ext c i)) e h nx K=Z r):iW P o b e h nx K r:=by
 simp[eQ]at z;split at z
 .rename_i l I;split at z
  .rename_i u L;let⟨y,h1,A⟩:=bc hi I;simp[bX]at A;split at A
   next l' hl=>simp[ah]at A;subst A;let⟨y,h3,h4⟩:=mn hl i u L;exact iW.q (k:=0) hinv hc (λH _=>by simp[dE,h1,h3]) (cK h4) z
   .cases A
  .cases z
 .cases z
def aAz (L:cM P o.op=Z (.len c)) (z:eQ X V (.op (.len c)) e h nx K=Z r):iW P o b e h nx K r:=by
 simp[eQ]at z;split at z
 .rename_i v A;split at z
  next n I=>let⟨y,h1,h2⟩:=bc hi A;have h3:=akd I h2;exact iW.q (k:=0) hinv L (λH _=>by simp[dE,h1,h3];rfl) (cK rfl) z
  .cases z
 .cases z
def awx (L:cM P o.op=Z (.lens c)) (z:eQ X V (.op (.lens c)) e h nx K=Z r):iW P o b e h nx K r:=by
 simp[eQ]at z;split at z
 next s I=>let⟨y,h1,A⟩:=bc hi I;simp[bX,ah]at A;subst A;exact iW.q (k:=0) hinv L (λH _=>by simp[dE,h1,gq];rfl) (cK rfl) z
 .cases z
def aws {i:Operand} (hc:cM P o.op=Z (.jv c i)) (z:eQ X V (.op (.jv c i)) e h nx K=Z r):iW P o b e h nx K r:=by
 simp[eQ]at z;split at z
 .rename_i s k j hv A;let⟨hj,z⟩:=cG z;let⟨y,h1,L⟩:=bc hi hv;let⟨y2,h3,I⟩:=bc hi A;simp[bX,ah]at L I;subst L I;let⟨j0,j1,j2⟩:=mM hj;have e1:cX 0 j=J:=by simp[cX,j0]
  have e2:(⟨jG s⟩:ByteArray).data.toList[j.toNat]? =Z (List.getD s j.toNat 0):=by grind
  exact iW.q (k:=0) (y0:=raw (.int .u8 (aS (List.getD s j.toNat 0).toNat))) hinv hc (λH _=>by simp only[dE,h1,h3,gq,e1,bt,e2];rfl) (cK rfl) z
 .cases z
def aB1 {sz:Operand} (hc:cM P o.op=Z (.jb i c sz)) (z:eQ X V (.op (.jb i c sz)) e h nx K=Z r):iW P o b e h nx K r:=by
 simp only[eQ]at z;split at z
 .rename_i id k j hv A;split at z
  .rename_i ty p T xs hb;split at z
   .rename_i I;have I:=au I;let⟨hj,z⟩:=cG z;let⟨y,h1,h2⟩:=bc hi hv;let⟨y2,h3,L⟩:=bc hi A;simp[bX,ah]at L;subst L;let⟨j0,j1,j2⟩:=mM hj;have hne:¬((p&&l! xs==0)=J):=by grind
    simp only[bX,eO,hb,du,av hne,ah]at h2;subst h2;have hc1:(T.size==i&&cX 0 j&&gI j (l! xs))=J:=by
     simp[ef,al]at hj;simp[I,hj.1,hj.2]
    exact iW.q (k:=0) hinv hc (λH _=>by simp[dE,h1,h3,gq,hc1,bt,dQ]) (cK rfl) z
   .cases z
  .cases z
 .rename_i T xs k j hv A;split at z
  next I=>have I:=au I;let⟨hj,z⟩:=cG z;let⟨y,h1,h2⟩:=bc hi hv;let⟨y2,h3,L⟩:=bc hi A;simp[bX,ah]at L h2;subst L h2;have hj':(cX 0 j&&gI j (aj xs))=J:=hj;exact iW.q (k:=0) hinv hc (λH _=>by simp[dE,h1,h3,gq,hj',bt,dQ,I]) (cK rfl) z
  .cases z
 .rename_i id sz' n k j hv A;split at z
  .rename_i I;have I:=au I;subst I;let⟨hj,z⟩:=cG z;let⟨y,h1,h2⟩:=bc hi hv;let⟨y2,h3,L⟩:=bc hi A;simp[bX,ah]at L h2;subst L h2;have hj':(sz'==sz'&&cX 0 j&&gI j n)=J:=by grind
   exact iW.q (k:=0) hinv hc (λH _=>by simp only[dE,h1,h3,gq,hj',bt]) (cK rfl) z
  .cases z
 .cases z
variable {f:FuncId}
def aAv {caps:Y Operand} (I:cM P o.op=Z (.mkf f caps)) (z:eQ X V (.op (.mkf f caps)) e h nx K=Z r):iW P o b e h nx K r:=by
 simp[eQ]at z;split at z
 next l A=>let⟨l',h1,L⟩:=F6 hi A;exact iW.q (k:=0) hinv I (y0:=.qf f l') (λH _=>by simp[dE,h1]) (cK (by simp[bX,L])) z
 .cases z
def aBa {op:BinOp} {y:Operand} (hc:cM P o.op=Z (.bin op c y)) (z:eQ X V (.op (.bin op c y)) e h nx K=Z r):iW P o b e h nx K r:=by
 simp[eQ]at z;split at z
 next u v hv A=>let⟨a,st,x,t,h1,h2,h3,h4,h5⟩:=aqq (h:=h) z;let⟨y,g1,g2⟩:=bc hi hv;let⟨y2,L,I⟩:=bc hi A;rw[h1]at g2;cases g2;rw[h2]at I;cases I;simp[raw]at g1 L;exact iW.q (k:=0) hinv hc (λH _=>by simp[dE,g1,L,h3]) (cK h4) h5
 .cases z
end ops
def iH:fc->M (Bool×p?)
 |.H _ p T xs=>Z (p,T.size,l! xs)
 |.qj p sz n=>Z (p,sz,n)
 |.qx F _ x|.qh F _ x _ _=>sM F x
 |_=>U
def bB (h:a8) (i:Nat):eO h i=(h.get i).bind iH:=by
 unfold eO;cases h.get i with
 |none=>rfl
 |some b=>cases b<;>rfl
def bW.refl (h:a8):bW h h:=λ_ _ h=>h
def bW.trans {b c:a8} (h1:bW h b) (z:bW b c):bW h c:=λi r a=>z i r (h1 i r a)
def bW.set {b:fc} (A:∀r,eO h i=Z r->iH b=Z r):bW h (h.set i (Z b)):=λj r z=>by
 rw[bB,PT.get_set];by_cases e:j=i
 .grind
 .rw[av e,<-bB];exact z
def Q6 {b:fc} {r:Bool×p?} (h:iH b=Z r):iH (vi b)=Z r:=by
 cases b with
 |qx F a x|qh F a x k p=>simp[iH]at h;simp[vi,h,iH]
 |_=>first|exact h|cases h
def Ce {b:fc} {ty:M TypeId} (h:vi b= .G ty j):False:=by
 cases b<;>simp[vi]at h<;>first|cases h|(split at h<;>cases h)
def MR (b:fc):∃p s n,vi b= .qj p s n:=by
 cases b with
 |qx F a x|qh F a x k p=>simp only[vi];split<;>exact⟨_,_,_,rfl⟩
 |_=>exact⟨_,_,_,rfl⟩
def ali {b:fc} (A:Pu h i m (vi b)=Z F):False:=by
 let⟨p,s,n,e⟩:=MR b;rw[e]at A;cases m<;>cases A
def iL (m:Nat) (h:a8) (i:Nat):(dM m h).get i=if aM m i then (h.get i).map vi else h.get i:=by
 unfold dM;split
 .simp_all
 .rw[PT.get_updI];simp[Nat.one_mul,dQ];cases h.get i with
  |none=>simp
  |some b=>simp[bw];split<;>rfl
def bW.kill (m:Nat) (h:a8):bW h (dM m h):=λi r z=>by
 rw[bB]at z ⊢;rw[iL];split
 .cases A:h.get i with
  |none=>rw[A]at z;cases z
  |some b=>rw[A]at z;exact Q6 z
 .exact z
def gY.set {nx':Nat} {b:fc} (hi:gY h m) (A:bW h (h.set i (Z b))) (hlt:i<nx') (hle:m<=nx') (I:∀ty l,b= .G ty l->lM (h.set i (Z b)) l=J):gY (h.set i (Z b)) nx':=by
 refine ⟨λj ty l z=>?_,λj c z=>?_⟩
 .rw[PT.get_set]at z;split at z
  .grind
  .exact fo A l (hi.G j _ l z)
 .rw[PT.get_set]at z;split at z
  .omega
  .exact dv (hi.low j c z) hle
def gY.kill (hi:gY h i) (m:Nat):gY (dM m h) i:=by
 refine ⟨λj ty l z=>?_,λj c z=>?_⟩
 .rw[iL]at z;refine fo (bW.kill m h) l (hi.G j ty l ?_);split at z
  .cases A:h.get j with
   |none=>rw[A]at z;cases z
   |some b=>rw[A]at z;exact (Ce (fU z)).elim
  .exact z
 .rw[iL]at z;split at z
  .cases A:h.get j with
   |none=>rw[A]at z;cases z
   |some b=>exact hi.low j b A
  .exact hi.low j c z
def WV {h':a8} (A:bW h h') {b:fc} (I:∀ty l,b= .G ty l->lM h l=J):kq h' b=kq h b:=by
 cases b with
 |G ty l=>
  let⟨l',z⟩:=fH h l (I ty l rfl);cases ty<;>simp[kq,z,gV A l l' z]
 |_=>rfl
def mo {h':a8} (z:bW h h') {b:fc} (A:∀ty l,b= .G ty l->lM h l=J) (i:Nat):∀k,Pu h' i k b=Pu h i k b
 |0=>WV z A
 |_+1=>rfl
def agt {h':a8} (hi:gY h m) (z:bW h h') (A:h'.get i=h.get i):erHF h' (nm i)=erHF h (nm i):=by
 rw[bG,bG,A];cases I:h.get i with
 |none=>rfl
 |some b=>exact WV z λty l e=>hi.G i _ l (by rw[I,e])
def iG (h h':a8):Prop:=∀i k,(h'.get i).bind (wX i k)=(h.get i).bind (wX i k)
def iG.refl (h:a8):iG h h:=λ_ _=>rfl
def iG.trans {b c:a8} (h1:iG h b) (z:iG b c):iG h c:=λi k=>(z i k).trans (h1 i k)
def noM:M fc->Bool
 |some (.qx _ _ _)=>af
 |some (.qh _ _ _ _ _)=>af
 |_=>J
def LJ {c:M fc} (z:noM c=J) (i k:Nat):c.bind (wX i k)=U:=by
 cases c with
 |none=>rfl
 |some b=>cases b<;>first|rfl|cases z
def iG.set {b:M fc} (h1:noM (h.get i)=J) (z:noM b=J):iG h (h.set i b):=λj k=>by
 rw[PT.get_set];by_cases e:j=i
 .subst e;rw[aC rfl,LJ h1,LJ z]
 .rw[av e]
def iG.at_ {b:M fc} (h1:∀k,b.bind (wX i k)=(h.get i).bind (wX i k)):iG h (h.set i b):=λj k=>by
 rw[PT.get_set]
 grind
def iG.of {h':a8} (z:∀i,h'.get i=h.get i\/(noM (h.get i)=J/\noM (h'.get i)=J)):iG h h':=λj k=>by
 rcases z j with e|⟨e1,e2⟩
 .rw[e]
 .rw[LJ e1,LJ e2]
def iG.kill (hm:∀i,aM m i=J->∃ty p T xs,h.get i=Z (.H ty p T xs)):iG h (dM m h):=λj k=>by
 rw[iL];split
 next A=>let⟨ty,p,T,xs,z⟩:=hm j A;rw[z];rfl
 .rfl
def mQ {h':a8} (hi:gY h i) (A:bW h h') (hm:iG h h') (I:∀nx,m=nm nx->h'.get nx=h.get nx):erHF h' m=erHF h m:=by
 cases z:ix m with
 |zero=>rw[pI z];exact agt hi A (I _ (pI z))
 |succ k=>
  have e:=kK m;rw[z]at e;rw[<- e,kC,kC];exact hm _ k
def NA {h':a8} (hme:iG h h') (A:erHF h' i=Z F):erHF h i=Z F\/∃q z,i=nm q/\h'.get q=Z z/\kq h' z=Z F:=by
 cases I:ix i with
 |zero=>
  let⟨z,h1,L⟩:=iM A;rw[I]at L;exact .inr ⟨ow i,z,pI I,h1,L⟩
 |succ k=>
  have e:=kK i;rw[I]at e;rw[<- e,kC]at A ⊢;exact .inl ((hme _ _).symm.trans A)
def Ju (m:Nat):ι:=(am9 m).map nm
def pt :i∈Ju m↔∃n,i=nm n/\aM m n=J:=by
 unfold Ju;rw[cC];constructor
 .rintro⟨n,h1,rfl⟩;exact⟨n,rfl,Rg.1 h1⟩
 .rintro⟨n,rfl,h1⟩;exact⟨n,Rg.2 h1,rfl⟩
def mG :nm i∈Ju m↔aM m i=J:=by
 rw[pt];constructor
 .rintro⟨j,h1,z⟩;rw[uQ h1];exact z
 .grind
def dJ (h:a8) (m:Nat):Prop:=∀i,aM m i=J->∃ty p T xs,h.get i=Z (.H ty p T xs)
def dJ.zero (h:a8):dJ h 0:=λi hi=>by simp at hi
def dJ.or (A:dJ h i) (z:dJ h m):dJ h (i|||m):=λa hi=>by
 rw[bq,mZ]at hi;exact hi.elim (A a) (z a)
def oh {v:TV} {x:S.den} (A:iN h S v=Z (x,m)):dJ h m:=by
 cases v with
 |f T v|emp|nil=>
  simp[iN]at A;split at A
  .simp[ah,aQ]at A;rw[<- A.2];exact dJ.zero h
  .cases A
 |I id=>
  simp[iN]at A;split at A
  .rename_i ty p T xs hb;split at A
   .simp[ah,aQ]at A;rw[<- A.2];intro i hi;have:=bm.1 hi
    grind
   .cases A
  .cases A
 |_=>simp[iN]at A
def xn :∀(n:Nat) (T:Ty) (l:Y TV) (x:T.den) (m:Nat) (r:Y TV),fM h n T l=Z (x,m,r)->dJ h m
 |0,_,_,_,_,_,hp=>by simp[fM]at hp
 |n+1,.st t,l,x,m,r,hp=>xn n t l x m r hp
 |n+1,.pr a b,l,x,m,r,hp=>by
  simp[fM]at hp;split at hp
  .rename_i x1 m1 r1 h1;split at hp
   next z m2 A I=>simp[ah,aQ]at hp;obtain⟨_,rfl,_⟩:=hp;exact (xn n a l x1 m1 r1 h1).or (xn n b r1 z m2 A I)
   .cases hp
  .cases hp
 |n+1,.un,l,x,m,r,hp=>by
  obtain⟨_,rfl,_⟩:=hp;exact dJ.zero h
 |n+1,.ex,l,x,m,r,hp=>by
  simp[fM]at hp;split at hp
  next x1 m1 r1 h1=>simp[ah,aQ]at hp;obtain⟨_,rfl,_⟩:=hp;exact xn n Rv l x1 m1 r1 h1
  .cases hp
 |n+1,.sm,l,x,m,r,hp=>by
  simp[fM]at hp;split at hp
  next x1 m1 r1 h1=>simp[ah,aQ]at hp;obtain⟨_,rfl,_⟩:=hp;exact xn n Q3 l x1 m1 r1 h1
  .cases hp
 |n+1,.int k,l,x,m,r,hp|n+1,.bool,l,x,m,r,hp|n+1,.str,l,x,m,r,hp|n+1,.sl t,l,x,m,r,hp=>by
  simp[fM]at hp;split at hp
  .split at hp
   next x1 m1 h1=>obtain⟨_,rfl,_⟩:=hp;exact oh h1
   .cases hp
  .cases hp
def aer {x:S.den} (A:Ht h S u=Z (x,m)):dJ h m:=by
 cases u with
 |agg l=>
  simp only[Ht]at A;split at A
  .cases A
  .split at A
   next x1 m1 h1=>simp[ah,aQ]at A;obtain⟨_,rfl⟩:=A;exact xn 40 S l x1 m1 [] h1
   .cases A
 |f T u=>exact oh (v:=.f T u) A
 |zf S xs j hj off=>exact oh (v:=.zf S xs j hj off) A
 |zq id sz j off=>exact oh (v:=.zq id sz j off) A
 |K id off=>exact oh (v:=.K id off) A
 |qg id off z=>exact oh (v:=.qg id off z) A
 |I id=>exact oh (v:=.I id) A
 |emp=>exact oh (v:=.emp) A
 |nil=>exact oh (v:=.nil) A
 |mp id=>exact oh (v:=.mp id) A
 |zl id L=>exact oh (v:=.zl id L) A
 |qp q=>exact oh (v:=.qp q) A
 |qf g q=>exact oh (v:=.qf g q) A
 |undef=>exact oh (v:=.undef) A
 |np=>exact oh (v:=.np) A
 |qy=>exact oh (v:=.qy) A
 |sb q=>exact oh (v:=.sb q) A
def S0 :∀(n:Nat) (l:Y TV) (xs:Y S.den) (m:Nat),D9 h S n l=Z (xs,m)->dJ h m
 |0,[],xs,m,hp=>by simp[D9,ah,aQ]at hp;rw[<- hp.2];exact dJ.zero h
 |0,_::_,xs,m,hp=>by simp[D9]at hp
 |n+1,l,xs,m,hp=>by
  simp[D9]at hp;split at hp
  .rename_i x1 m1 r1 h1;split at hp
   next z m2 A=>obtain⟨_,rfl⟩:=hp;exact (xn 40 S l x1 m1 r1 h1).or (S0 n r1 z m2 A)
   .cases hp
  .cases hp
def C' :∀(n:Nat) (T:Ty) (v:T.den) (off sz:Nat) (z:T.den) (m:Nat),gL h u n T v off sz=Z (z,m)->dJ h m
 |0,_,_,_,_,_,_,A=>by simp[gL]at A
 |n+1,.st t,v,off,sz,z,m,A=>by
  simp[gL]at A;split at A
  .rename_i q I;split at I
   .simp[ah]at A;subst A;exact aer I
   .cases I
  .exact C' n t v off sz z m A
 |n+1,.pr a b,v,off,sz,z,m,A=>by
  simp[gL]at A;split at A
  .split at A
   next L m1 h1=>simp[ah,aQ]at A;obtain⟨_,rfl⟩:=A;exact C' n a v.1 off sz L m1 h1
   .cases A
  .split at A
   next L m1 h1=>simp[ah,aQ]at A;obtain⟨_,rfl⟩:=A;exact C' n b v.2 _ sz L m1 h1
   .cases A
 |n+1,.un,v,off,sz,z,m,A=>by simp[gL]at A
 |n+1,.ex,v,off,sz,z,m,A=>by
  simp[gL]at A;split at A
  .rename_i q I;split at I
   .simp[ah]at A;subst A;exact aer I
   .cases I
  .split at A
   next L m1 h1=>simp[ah,aQ]at A;obtain⟨_,rfl⟩:=A;exact C' n Rv _ off sz L m1 h1
   .cases A
 |n+1,.sm,v,off,sz,z,m,A=>by
  simp[gL]at A;split at A
  .rename_i q I;split at I
   .simp[ah]at A;subst A;exact aer I
   .cases I
  .split at A
   next L m1 h1=>simp[ah,aQ]at A;obtain⟨_,rfl⟩:=A;exact C' n Q3 _ off sz L m1 h1
   .cases A
 |n+1,.int k,v,off,sz,z,m,A|n+1,.bool,v,off,sz,z,m,A|n+1,.str,v,off,sz,z,m,A|n+1,.sl t,v,off,sz,z,m,A=>by
  simp only[gL]at A;split at A
  .exact oh A
  .cases A
def vQ (hm:dJ h m) (z:aM m i=J):∃p sz n,(dM m h).get i=Z (.qj p sz n):=by
 let⟨ty,p,T,xs,h1⟩:=hm i z;exact⟨p,T.size,l! xs,by rw[iL,aC z,h1];rfl⟩
section ops
variable {R:Type} {P:Program} {o:Oper} {e:ia} {h:a8} {nx:Nat} {K:KO R} {r:R}
def e9 (n:Nat) (b:ko):jP [(n,b)] n=Z b:=by simp[jP]
def fy.mk' {s:U0} (hc:cM P o.op=Z s) {a:mY} (hH:a.get=erHF h) {k:Nat} {rdl UT N:ι} {nw:NW} (ha:dE s (DU e h) a k=Z ⟨y,rdl,UT,nw,N⟩) {h':a8} {wr:Nat} (wr':ι)
 (hsub:∀nx'∈UT,nx'∈wr') (hsame:∀n,n∉wr'->erHF h' n=erHF h n)
 (hdom:∀nx'∈wr',∀b',erHF h' nx'=Z b'->∃b,(if nx'∈UT then jP nw nx' else erHF h nx')=Z b)
 (hblk:∀(L H2:HF),rX L H2->(∀nx'∈UT,L nx'=jP nw nx')->(∀nx'∈wr',nx'∉UT->L nx'=erHF h nx')->(∀nx'∈wr',H2 nx'=erHF h' nx')->(∀nx'∈wr',∀b b',L nx'=Z b->H2 nx'=Z b'->gx L H2 b b')/\∀y0,bX h' u=Z y0->kh L H2 y y0)
 (hrd:∀n∈rdl,aM m (ow n)=J) (hwr:∀n∈wr',aM wr (ow n)=J) (hN:∀n∈N,nx<=ow n/\ow n<i) (hrows:bW h h') (hinv':gY h' i) (hg:nx<=i):fy P o af e h nx u m wr h' i:=by
 have ht:=Mu hc ha;rw[Ds,hH]at ht;refine ⟨?_,hrows,hinv',hg,nofun⟩;have base:∀(val:AV),(∀y0,bX h' u=Z y0->y0=val)->(bX h' u=U->val=y)->gC P o (fQ e h) (erHF h) ⟨val,rdl,wr',erHF h',N⟩:=by
  intro val hval hnone;refine gC.view ht (λnx' hi=>.inl (hsub nx' hi)) λh1 hr1 hw1=>?_
  have hd:rX (fm h1 UT (jP nw)) (fm h1 wr' (erHF h')):=by
   intro nx' b hb;unfold fm at hb ⊢
   grind
  let⟨q1,q2⟩:=hblk _ _ hd (λnx' hi=>by unfold fm;rw[aC hi]) (λnx' hi hw=>by unfold fm;rw[av hw];exact hw1 nx' hi) (λnx' hi=>by unfold fm;rw[aC hi]);refine ⟨⟨hd,λnx' b b' hb I=>?_⟩,?_⟩
  .by_cases hi:nx'∈wr'
   .grind
   .unfold fm at hb I;rw[av (λhw=>hi (hsub nx' hw))]at hb;rw[av hi,hb]at I;cases I;exact gx.refl hd b
  .cases A:bX h' u with
   |none=>rw[hnone A];exact kh.refl hd _
   |some y0=>rw[<- hval y0 A];exact q2 y0 A
 have hu:fm (erHF h) wr' (erHF h')=erHF h':=by
  unfold fm
  grind
 cases A:bX h' u with
 |none=>exact⟨_,base y (λy0 z=>by rw[A]at z;cases z) (λ_=>rfl),λy0 z=>(by cases z),hu,hrd,hwr,hN⟩
 |some y0=>exact⟨_,base y0 (λy' z=>by rw[A]at z;cases z;rfl) (λhn=>by rw[A]at hn;cases hn),λy' z=>by cases z;rfl,hu,hrd,hwr,hN⟩
def GP (hi:s7 e h):∀(parts:Y m?) (cells cs:Y TV) (cells':Y AV),Nu cells e parts=Z cs->cI h cells=Z cells'->∃cs',Cy cells' (DU e h) parts=Z cs'/\cI h cs=Z cs'/\(lE cells=J->lE cs=J)
 |[],cells,cs,cells',hf,he=>by simp only[Nu,ah]at hf;subst hf;exact⟨cells',rfl,he,id⟩
 |(off,sz,x)::rest,cells,cs,cells',hf,he=>by
  simp only[Nu]at hf;split at hf
  .rename_i v hv;split at hf
   .rename_i q hq;split at hf
    .rename_i L;simp only[al,cU]at L;let⟨y,h1,h2⟩:=bc hi hv;let⟨h3,h4⟩:=Ks hq h2;let⟨cs',h5,h6,h7⟩:=GP hi rest (splice cells off q) cs (splice cells' off y.cs) hf (rN off he h3);refine ⟨cs',?_,h6,λI=>h7 ?_⟩
     .simp only[Cy,h1];rw[aC,h5];simp only[al,cU];exact⟨⟨by rw[iC h3];exact L.1,by rw[iC he];exact L.2⟩,uf h3 h4⟩
     .clear h5 h6 h7 hf;have app:∀a b:Y TV,lE a=J->lE b=J->lE (a++b)=J:=by
       intro a b I hb;induction a with
       |nil=>exact hb
       |cons z r A=>simp only[lE,al,gG]at I ⊢;exact⟨I.1,A I.2⟩
      have tk:∀(a:Y TV) n,lE a=J->lE (a.take n)=J:=by
       intro a;induction a with
       |nil=>intro n h;simp[lE]
       |cons z r A=>
        intro n h;cases n with
        |zero=>rfl
        |succ n=>simp only[lE,al,yn]at h ⊢;exact⟨h.1,A n h.2⟩
      have dr:∀(a:Y TV) n,lE a=J->lE (a.drop n)=J:=by
       intro a;induction a with
       |nil=>intro n h;simp[lE]
       |cons z r A=>
        intro n h;cases n with
        |zero=>exact h
        |succ n=>simp only[lE,al,KF]at h ⊢;exact A n h.2
      unfold splice
      grind
    .cases hf
   .cases hf
  .cases hf
variable (hinv:gY h nx) (hi:s7 e h)
include hinv hi
variable {X:FuncId->M ci} {V:TypeId->M Ty} {E:ξ}
def aru {parts:Y m?} (hc:cM P o.op=Z (.build E parts)) (A:eQ X V (.op (.build E parts)) e h nx K=Z r):iW P o b e h nx K r:=by
 simp[eQ]at A;split at A
 .rename_i l L;split at A
  next cs hf=>let⟨h1,_,_⟩:=xK h L;let⟨cs',h2,h3,_⟩:=GP hi parts l cs _ hf h1;refine iW.q (k:=0) (y0:=Re cs') hinv hc (λH _=>by simp[dE,h2]) (λy I=>?_) A;simp[bX,h3,ah]at I;subst I;exact ak7 cs'
  .cases A
 .cases A
def aww (hc:cM P o.op=Z (.load i b c)) (A:eQ X V (.op (.load i b c)) e h nx K=Z r):iW P o af e h nx K r:=by
 let⟨H,hH⟩:=gK h;simp only[eQ]at A;split at A
 .rename_i id off hv;let⟨y,h1,L⟩:=bc hi hv;simp[bX,ah]at L;subst L;split at A
  .rename_i ty l hb;split at A
   .rename_i v hs;let⟨l',hl⟩:=fH h l (hinv.G id _ l hb);let⟨y,h3,h4⟩:=ach hl hs;have hg:H.get (nm id)=Z ⟨ty,.mx l'⟩:=by rw[hH,bG,hb];simp[aB,kq,hl]
    exact⟨v,gA id,0,h,nx,A,fy.pure (k:=0) hinv hc hH (y0:=y) (rdl:=[nm id]) (by simp[dE,h1,xQ,hg,h4]) (cK h3) (λn I=>by simp[aG]at I;subst I;rw[dj];exact bm.2 rfl) nofun⟩
   .cases A
  .cases A
 .rename_i id sz' j off hv;let⟨y,h1,L⟩:=bc hi hv;simp[bX,ah]at L;subst L;split at A
  .rename_i ty p T xs hb;split at A
   .rename_i hsz;have hsz:=au hsz;let⟨hj,A⟩:=cG A;split at A
    .rename_i v hs;let⟨y,h3,h4⟩:=aiy (h:=h) hj hs;have hne:¬((p&&l! xs==0)=J):=by
      have:=mM hj
      grind
     have hg:H.get (nm id)=Z ⟨ty,.fz (xs.flatMap (bI T))⟩:=by rw[hH,bG,hb];simp only[aB,kq,av hne]
     exact⟨v,gA id,0,h,nx,A,fy.pure (k:=0) hinv hc hH (y0:=.f y) (rdl:=[nm id]) (by simp[dE,h1,xQ,hg,hsz,h4]) (cK h3) (λn I=>by simp[aG]at I;subst I;rw[dj];exact bm.2 rfl) nofun⟩
    .cases A
   .cases A
  .rename_i ty l hb;split at A
   .cases A
   .split at A
    .rename_i hsz;simp only[al]at hsz;have e1:=au hsz.1.1;have e2:=au hsz.1.2;have e3:=au hsz.2;subst e1 e2 e3;split at A
     .rename_i T xs hA;let⟨hj,A⟩:=cG A;let⟨l',hl⟩:=fH h l (hinv.G id _ l hb);have hg:H.get (nm id)=Z ⟨ty,.mx l'⟩:=by rw[hH,bG,hb];simp[aB,kq,hl]
      have hlt:j.toNat<l! l:=by
       simp[ef,al,cX,gI,bu]at hj;omega
      let⟨z,hz1,hz2⟩:=mn hl j.toNat _ (aes hA j.toNat hlt);exact⟨_,gA id,0,h,nx,A,fy.pure (k:=0) hinv hc hH (y0:=z) (rdl:=[nm id]) (by simp[dE,h1,xQ,hg,BC.sub?,BC.get,HO,dQ,hz1]) (cK hz2) (λn I=>by simp[aG]at I;subst I;rw[dj];exact bm.2 rfl) nofun⟩
     .cases A
    .cases A
  .cases A
 .rename_i T xs j hj off hv;let⟨y,h1,L⟩:=bc hi hv;simp[bX,ah]at L;subst L;split at A
  next v hs=>let⟨y,h3,h4⟩:=aiy (h:=h) hj hs;exact iW.q (k:=0) (y0:=.f y) hinv hc (λH _=>by simp[dE,h1,xQ,h4]) (cK h3) A
  .cases A
 .cases A
def arv (hc:cM P o.op=Z (.alloc s E)) (hk:eQ X V (.op (.alloc s E)) e h nx K=Z r):iW P o af e h nx K r:=by
 have _:=hi;let⟨H,hH⟩:=gK h;simp[eQ]at hk;split at hk
 .rename_i l hl;let⟨_,hz,_⟩:=xK h hl;have hnone:h.get nx=U:=by
   cases hb:h.get nx with
   |none=>rfl
   |some b=>have:=hinv.low nx b hb;omega
  have L:bW h (h.set nx (Z (.G (Z s) l))):=bW.set λr L=>by rw[bB,hnone]at L;cases L
  let⟨h1,_,_⟩:=xK (h.set nx (Z (.G (Z s) l))) hl;have hb':erHF (h.set nx (Z (.G (Z s) l))) (nm nx)=Z ⟨s,.mx (E.map raw)⟩:=by rw[bG,PT.get_set,aC rfl];simp[aB,kq,h1]
  refine ⟨_,_,_,_,_,hk,fy.mk' hc hH (k:=nm nx) (by rfl) [nm nx] (λi hi=>hi) (λn A=>?_) (λi hi b' _=>⟨⟨s,.fz (E.map .raw)⟩,?_⟩) (λH1 H2 d hw1 _ hw2=>⟨λi hi b b' hb I=>?_,λy hy=>?_⟩) (by simp) ?_ ?_ L (hinv.set L (by omega) (by omega) λty' l' he=>?_) (by omega)⟩
  .refine mQ hinv L (iG.set (by rw[hnone];rfl) rfl) λi e=>?_
   rw[PT.get_set,av (λe=>A (by grind))]
  .simp[aG]at hi;subst hi;simp[jP]
  .simp[aG]at hi;subst hi;rw[hw1 _ (by simp)]at hb;rw[hw2 _ (by simp),hb']at I;rw[e9]at hb;simp[ah]at hb I;subst hb I;refine gx.G rfl rfl ?_ λx hx=>?_
   .simp[BC.toMx,kH];exact gX.refl d _
   .simp only[BC.toMx]at hx;obtain⟨q,hq,rfl⟩:=cC.1 hx;exact hz q hq
  .simp[bX,ah]at hy;subst hy;exact kh.refl d _
  .intro n A;simp[aG]at A;subst A;rw[dj];exact bm.2 rfl
  .intro n A;simp[aG]at A;subst A;rw[dj];omega
  .cases he;exact lY _ _ _ h1
 .cases hk
def aB9 (hc:cM P o.op=Z (.box s c)) (L:eQ X V (.op (.box s c)) e h nx K=Z r):iW P o af e h nx K r:=by
 let⟨H,hH⟩:=gK h;simp[eQ]at L;split at L
 .rename_i v hv;split at L
  .rename_i l hl;let⟨y,h1,h2⟩:=bc hi hv;let⟨h3,h4⟩:=Ks hl h2;have hcell:=uf h3 h4;have hnone:h.get nx=U:=by
    cases hb:h.get nx with
    |none=>rfl
    |some b=>have:=hinv.low nx b hb;omega
   have z:bW h (h.set nx (Z (.G (Z s) l))):=bW.set λr z=>by rw[bB,hnone]at z;cases z
   have h5:=gV z l _ h3;have hb':erHF (h.set nx (Z (.G (Z s) l))) (nm nx)=Z ⟨s,.mx y.cs⟩:=by rw[bG,PT.get_set,aC rfl];simp[aB,kq,h5]
   refine ⟨_,_,_,_,_,L,fy.mk' hc hH (k:=nm nx) (by simp only[dE,h1,hcell,bt];rfl) [nm nx] (λi hi=>hi) (λn A=>?_) (λi hi b' _=>⟨⟨s,oO y.cs⟩,?_⟩) (λH1 H2 d hw1 _ hw2=>⟨λi hi b b' hb I=>?_,λy hy=>?_⟩) (by simp) ?_ ?_ z (hinv.set z (by omega) (by omega) λty' l' he=>?_) (by omega)⟩
   .refine mQ hinv z (iG.set (by rw[hnone];rfl) rfl) λi e=>?_
    rw[PT.get_set,av (λe=>A (by grind))]
   .simp[aG]at hi;subst hi;simp[jP]
   .simp[aG]at hi;subst hi;rw[hw1 _ (by simp)]at hb;rw[hw2 _ (by simp),hb']at I;rw[e9]at hb;simp[ah]at hb I;subst hb I;let⟨q1,q2⟩:=nK y.cs;refine gx.G q2 rfl ?_ λc hx=>?_
    .rw[q1];exact gX.refl d _
    .exact mT hcell c hx
   .simp[bX,ah]at hy;subst hy;exact kh.refl d _
   .intro n A;simp[aG]at A;subst A;rw[dj];exact bm.2 rfl
   .intro n A;simp[aG]at A;subst A;rw[dj];omega
   .cases he;exact lY _ _ _ h5
  .cases L
 .cases L
def ars {l:Operand} (hcm:Hl (V s)=U) (hc:cM P o.op=Z (.zh s i m E l c)) (A:eQ X V (.op (.zh s i m E l c)) e h nx K=Z r):iW P o af e h nx K r:=by
 let⟨H,hH⟩:=gK h;simp only[eQ,hcm]at A;split at A
 .rename_i T k a k' b hT hv hv2;split at A
  .rename_i hsz;simp only[al]at hsz;have hs:=au hsz.1;have hz:=OU hsz.2;subst hs hz;let⟨hck,A⟩:=cG A;let⟨y,h1,h2⟩:=bc hi hv;let⟨y2,h3,h4⟩:=bc hi hv2;simp[bX,ah]at h2 h4;subst h2 h4;have hnone:h.get nx=U:=by
    cases hb:h.get nx with
    |none=>rfl
    |some b=>have:=hinv.low nx b hb;omega
   generalize hB:fc.H s af T (aE (aO a) T.zero)=B at A;have hr:bW h (h.set nx (Z B)):=bW.set λr hr=>by rw[bB,hnone]at hr;cases hr
   have hb':erHF (h.set nx (Z B)) (nm nx)=Z ⟨s,.fz ((aE (aO a) T.zero).flatMap (bI T))⟩:=by rw[bG,PT.get_set,aC rfl,<-hB];simp[kq]
   refine ⟨_,_,_,_,_,A,fy.mk' hc hH (k:=nm nx) (by simp only[dE,h1,h3,gq,hck,bt];rfl) [nm nx] (λsz hi=>hi) (λn I=>?_) (λsz hi b' _=>⟨⟨s,.fz (repl (ve T) (aO a))⟩,?_⟩) (λH1 H2 d hw1 _ hw2=>⟨λsz hi b b' hb L=>?_,λy hy=>?_⟩) (by simp) ?_ ?_ hr (hinv.set hr (by omega) (by omega) λty' l' he=>?_) (by omega)⟩
   .refine mQ hinv hr (iG.set (by rw[hnone];rfl) (by rw[<- hB];rfl)) λsz e=>?_
    rw[PT.get_set,av (λe=>I (by grind))]
   .simp[aG]at hi;subst hi;simp[jP]
   .simp[aG]at hi;subst hi;rw[hw1 _ (by simp)]at hb;rw[hw2 _ (by simp),hb']at L;rw[e9]at hb;simp[ah]at hb L;subst hb L;refine gx.G rfl rfl (LD d T _) λx hx=>?_
    obtain⟨q,hq,rfl⟩:=cC.1 hx;exact ml T _ q hq
   .simp[bX,bB,PT.get_set,bt,<-hB,aB,iH,du,oY,cO,dZ,ah,ey]at hy;subst hy;exact kh.refl d _
   .intro n I;simp[aG]at I;subst I;rw[dj];exact bm.2 rfl
   .intro n I;simp[aG]at I;subst I;rw[dj];omega
   .grind
  .cases A
 .cases A
end ops
def yZ {f:R->Y FV} (hf:∀x,l! (f x)=i):∀(xs:Y R) (j:Nat),(xs.take j).flatMap f=(xs.flatMap f).take (j*i)
 |[],j|x::r,0=>by simp
 |x::r,j+1=>by
  rw[yn,gf,gf,yZ hf r j,show (j+1)*i=l! (f x)+j*i from by rw[hf,jF];omega,List.take_length_add_append]
def Fm {f:R->Y FV} (hf:∀x,l! (f x)=i):∀(xs:Y R) (j:Nat),(xs.drop j).flatMap f=(xs.flatMap f).drop (j*i)
 |[],j|x::r,0=>by simp
 |x::r,j+1=>by
  rw[KF,gf,Fm hf r j,show (j+1)*i=l! (f x)+j*i from by rw[hf,jF];omega,List.drop_length_add_append]
variable {E:ξ}
def Vs :∀(n:Nat) (x:FV),x∈repl E n->∃v∈E,x= .raw v
 |0,x,h=>by simp[repl]at h
 |n+1,x,h=>by
  rw[repl,cq]at h;rcases h with h|h
  .grind
  .exact Vs n x h
def Ku:∀l:Y FV,(∀x∈l,x.isCell=J)->gD (l.map .f)=J
 |[],_=>rfl
 |z::r,h=>by simp[cD,gD,al];exact⟨h z (by simp),Ku r λx A=>h x (by grind)⟩
section ops
variable {R:Type} {P:Program} {o:Oper} {e:ia} {h:a8} {nx:Nat} {K:KO R} {r:R}
def gY.fresh (hinv:gY h nx):h.get nx=U:=by
 cases z:h.get nx with
 |none=>rfl
 |some b=>have:=hinv.low nx b z;omega
def rX.kill (hinv:gY h nx) (hm:dJ h m):rX (erHF h) (erHF (dM m h)):=λn b hb=>by
 let⟨c,z,A⟩:=iM hb;rw[iL]at z;by_cases ht:aM m (ow n)=J
 .obtain⟨pp,ss,nn,L⟩:=vQ hm ht;rw[iL]at L;rw[L]at z;cases z;cases I:ix n with
  |_=>rw[I]at A;cases A
 .rw[av ht]at z;refine ⟨b,?_⟩;unfold erHF;rw[z];simp[aB];rw[<- mo (bW.kill m h) (λty l e=>hinv.G (ow n) _ l (by rw[z,e]))];exact A
def dJ.lt (hinv:gY h nx) (hm:dJ h m) (hi:aM m i=J):i<nx:=by
 let⟨_,_,_,_,z⟩:=hm i hi;exact hinv.low i _ z
def fy.new {s:U0} (hinv:gY h nx) (hc:cM P o.op=Z s) {a:mY} (hH:a.get=erHF h) {y0:AV} {rdl:ι} {b0:ko} (ha:dE s (DU e h) a (nm nx)=Z ⟨y0,rdl,[nm nx],[(nm nx,b0)],[nm nx]⟩) {B:fc} {v:TV} {rd:Nat} (hm:dJ h m)
 (hB:∀ty l,B= .G ty l->lM ((dM m h).set nx (Z B)) l=J)
 (hblk:∀A z,rX A z->Fx h A z m->∀b',kq ((dM m h).set nx (Z B)) B=Z b'->gx A z b0 b')
 (hval:∀A z y,rX A z->Fx h A z m->bX ((dM m h).set nx (Z B)) v=Z y->kh A z y0 y)
 (hrd:∀n∈rdl,aM rd (ow n)=J) (hMem:∀i k,wX i k B=U:=by exact λ_ _=>rfl):fy P o af e h nx v rd (m|||gA nx) ((dM m h).set nx (Z B)) (nx+1):=by
 have hk:=hinv.kill m;have hme:iG h ((dM m h).set nx (Z B)):=(iG.kill hm).trans (iG.at_ λk=>by rw[hk.fresh];exact hMem nx k);have hr0:=bW.kill m h;have hr1:bW (dM m h) ((dM m h).set nx (Z B)):=bW.set λr hr=>by rw[bB,hk.fresh]at hr;cases hr
 have hr:=hr0.trans hr1;have hgiv:∀i,aM m i=J->erHF ((dM m h).set nx (Z B)) (nm i)=U:=λi hi=>by
  have hlt:=hm.lt hinv hi;let⟨p,sz,n,hd⟩:=vQ hm hi;rw[bG,PT.get_set,av (by omega),hd];rfl
 refine fy.mk' hc hH ha (nm nx::Ju m) (λi hi=>by simp[aG]at hi;subst hi;simp) (λn I=>?_) (λi hi b' hb'=>?_) (λA z d hw1 hw0 L=>?_) hrd ?_ ?_ hr (hk.set hr1 (by omega) (by omega) hB) (by omega)
 .refine mQ hinv hr hme λi e=>?_
  subst e;rw[PT.get_set,av (λe=>I (by grind)),iL,av];intro hb;exact I (cY _ (mG.2 hb))
 .rcases bh.1 hi with rfl|hi
  .exact⟨b0,by rw[aC (by simp),e9]⟩
  .obtain⟨j,rfl,hj⟩:=pt.1 hi
   grind
 .have g:Fx h A z m:=λi hi=>by
   have hlt:=hm.lt hinv hi;have hmem:nm i∈nm nx::Ju m:=cY _ (mG.2 hi);exact⟨hw0 _ hmem (λhc=>by simp[aG]at hc;have:=uQ hc;omega),by rw[L _ hmem,hgiv i hi]⟩
  refine ⟨λi hi b b' hb hb2=>?_,λy hy=>hval A z y d g hy⟩;rcases bh.1 hi with rfl|hi'
  .rw[hw1 _ (by simp),e9]at hb;rw[L _ hi,bG,PT.get_set,aC rfl]at hb2
   grind
  .obtain⟨j,rfl,hj⟩:=pt.1 hi'
   grind
 .intro n I;rw[bq];rcases bh.1 I with rfl|I
  .rw[dj,bm.2 rfl];simp
  .obtain⟨j,rfl,hj⟩:=pt.1 I;rw[dj,hj];rfl
 .intro n I;simp[aG]at I;subst I;rw[dj];omega
def fy.wrt {s:U0} (hinv:gY h nx) (hc:cM P o.op=Z s) {a:mY} (hH:a.get=erHF h) {y0:AV} {rdl:ι} {b0:ko} {k:Nat} (ha:dE s (DU e h) a k=Z ⟨y0,rdl,[nm i],[(nm i,b0)],[]⟩) {B0 B:fc} (hb0:h.get i=Z B0) {v:TV} {rd:Nat} (hm:dJ h m) (hmid:aM m i=af)
 (hrow:iH B=iH B0) (hB:∀ty l,B= .G ty l->lM ((dM m h).set i (Z B)) l=J)
 (hblk:∀A z,rX A z->Fx h A z m->∀b',kq ((dM m h).set i (Z B)) B=Z b'->gx A z b0 b')
 (hval:∀A z y,rX A z->Fx h A z m->bX ((dM m h).set i (Z B)) v=Z y->kh A z y0 y)
 (hrd:∀n∈rdl,aM rd (ow n)=J) (hMem:∀k,wX i k B=wX i k B0:=by exact λ_=>rfl):fy P o af e h nx v rd (m|||gA i) ((dM m h).set i (Z B)) nx:=by
 have hk:=hinv.kill m;have hr0:=bW.kill m h;have hkid:(dM m h).get i=Z B0:=by rw[iL,hmid];simpa using hb0
 have hr1:bW (dM m h) ((dM m h).set i (Z B)):=bW.set λr hr=>by rw[bB,hkid]at hr;rw[hrow];exact hr
 have hme:iG h ((dM m h).set i (Z B)):=(iG.kill hm).trans (iG.at_ λk=>by rw[hkid];exact hMem k);have hr:=hr0.trans hr1;have hgiv:∀id,aM m id=J->erHF ((dM m h).set i (Z B)) (nm id)=U:=λid hi=>by
  have hne:id≠i:=λe=>by grind
  let⟨p,sz,n,hd⟩:=vQ hm hi;rw[bG,PT.get_set,av hne,hd];rfl
 refine fy.mk' hc hH ha (nm i::Ju m) (λid hi=>by simp[aG]at hi;subst hi;simp) (λn I=>?_) (λid hi b' hb'=>?_) (λA z d hw1 hw0 L=>?_) hrd ?_ (by simp) hr (hk.set hr1 (hinv.low i B0 hb0) (by omega) hB) (by omega)
 .refine mQ hinv hr hme λid e=>?_
  subst e;rw[PT.get_set,av (λe=>I (by grind)),iL,av];intro hb;exact I (cY _ (mG.2 hb))
 .rcases bh.1 hi with rfl|hi
  .exact⟨b0,by rw[aC (by simp),e9]⟩
  .obtain⟨j,rfl,hj⟩:=pt.1 hi
   grind
 .have g:Fx h A z m:=λid hi=>by
   have hne:id≠i:=λe=>by grind
   have hmem:nm id∈nm i::Ju m:=cY _ (mG.2 hi);exact⟨hw0 _ hmem (λhc=>by simp[aG]at hc;exact hne (uQ hc)),by rw[L _ hmem,hgiv id hi]⟩
  refine ⟨λid hi b b' hb hb2=>?_,λy hy=>hval A z y d g hy⟩;rcases bh.1 hi with rfl|hi'
  .rw[hw1 _ (by simp),e9]at hb;rw[L _ hi,bG,PT.get_set,aC rfl]at hb2
   grind
  .obtain⟨j,rfl,hj⟩:=pt.1 hi'
   grind
 .intro n I;rw[bq];rcases bh.1 I with rfl|I
  .rw[dj,bm.2 rfl];simp
  .obtain⟨j,rfl,hj⟩:=pt.1 I;rw[dj,hj];rfl
def Q7 (h:a8) (I:Ov E=Z j):∀len,cI h (aE len j).flatten=Z ((repl E len).map .f)
 |0=>rfl
 |n+1=>by
  rw[KC,List.flatten_cons,repl,cg];refine oV ?_ (Q7 h I n);rw[(xK h I).1];simp only[kH];rfl
def SM {H:mY} (hH:H.get=erHF h) {ys:Y S.den} (A:Ht h (.sl S) u=Z (ys,m)) (L:bX h u=Z y):∃rd,y.row? H S.size=Z ((ys.flatMap (bI S)).map .f,l! ys,rd)/\∀n∈rd,∃i,n=nm i/\aM m i=J:=by
 have fl:=λzs:Y S.den=>eV (bk S) zs
 have tk:∀zs:Y S.den,(zs.flatMap (bI S)).take (l! zs*S.size)=zs.flatMap (bI S):=λzs=>by grind
 cases u with
 |f T x=>
  simp[Ht,iN]at A;split at A
  next z hz=>obtain⟨e,rfl⟩:=je hz;subst e;simp[bX,ah]at L;subst L;simp only[gq,AV.row?];simp_all
  .cases A
 |emp|nil=>
  obtain⟨rfl,_⟩:=A;simp[bX,ah]at L;subst L;exact⟨[],rfl,by simp⟩
 |I id=>
  simp[Ht,iN]at A;split at A
  .rename_i ty p T xs hb;split at A
   .rename_i z hz;obtain⟨rfl,rfl⟩:=A;obtain⟨e,rfl⟩:=je hz;cases e;simp[bX,eO,hb,ah]at L;subst L;unfold du;split
    next hp=>simp only[al,cU]at hp;have:xs=[]:=dC.1 hp.2;subst this;exact⟨[],rfl,by simp⟩
    .rename_i hp;have hg:H.get (nm id)=Z ⟨ty,.fz (xs.flatMap (bI S))⟩:=by rw[hH,bG,hb];simp only[aB,kq,av hp]
     refine ⟨[nm id],?_,λn hn=>?_⟩
     .simp only[AV.row?,hg,cj,bt,BC.isCells,BC.len,lU];rw[aC (bf (by grind))];simp[BC.toMx,<-gF,tk]
     .simp[aG]at hn;exact⟨id,hn,bm.2 rfl⟩
   .cases A
  .cases A
 |agg l=>simp[Ht,Ty.one]at A
 |_=>simp[Ht,iN]at A
def Zw (z:bX h u=Z y) (A:u.isC=J):gD y.cs=J:=by
 rw[S5 (Tl z A)];simp[gD,Bool.and_true];exact Tl z A
def agv (T:Ty) (x:T.den):gD ((bI T x).map .f)=J:=by
 have:∀l:Y FV,(∀x∈l,x.isCell=J)->gD (l.map .f)=J:=by
  intro l A;induction l with
  |nil=>rfl
  |cons z r I=>simp[cD,gD,al];exact⟨A z (by simp),I λx L=>A x (by grind)⟩
 exact this _ (py T x)
def gW {v:TV} {x:S.den} (A:iN h S v=Z (x,m)) (L:bX h v=Z y):gD y.cs=J:=by
 cases v with
 |f T v=>simp[bX,ah]at L;subst L;rw[Du];exact agv T v
 |emp|nil|I id=>exact Zw L rfl
 |_=>simp[iN]at A
def LZ (hT:S.one=J) {x:S.den} (A:iN h S u=Z (x,m)):u.isC=J:=by
 cases u with
 |f T u=>
  simp[iN]at A;split at A
  next z L=>let⟨e,_⟩:=je L;subst e;exact hT
  .cases A
 |emp|nil|I id=>rfl
 |_=>simp[iN]at A
def Yi {b:Y TV} (A:lE j=J) (L:lE b=J):lE (j++b)=J:=by
 induction j with
 |nil=>exact L
 |cons z r I=>simp[lE,al,gG]at A ⊢;exact⟨A.1,I A.2⟩
def vL:∀(n:Nat) (T:Ty) (l:Y TV) (x:T.den) (m:Nat) (r:Y TV),fM h n T l=Z (x,m,r)->∃a,l=a++r/\lE a=J
 |0,_,_,_,_,_,hp=>by simp[fM]at hp
 |n+1,.st t,l,x,m,r,hp=>vL n t l x m r hp
 |n+1,.pr a b,l,x,m,r,hp=>by
  simp[fM]at hp;split at hp
  .rename_i x1 m1 r1 h1;split at hp
   next z m2 A I=>simp[ah,aQ]at hp;obtain⟨_,_,rfl⟩:=hp;obtain⟨a1,rfl,g1⟩:=vL n a l x1 m1 r1 h1;obtain⟨a2,rfl,L⟩:=vL n b r1 z m2 A I;exact⟨a1++a2,by simp,Yi g1 L⟩
   .cases hp
  .cases hp
 |n+1,.un,l,x,m,r,hp=>by
  obtain⟨_,_,rfl⟩:=hp;exact⟨[],rfl,rfl⟩
 |n+1,.ex,l,x,m,r,hp=>by
  simp[fM]at hp;split at hp
  next x1 m1 r1 h1=>simp[ah,aQ]at hp;obtain⟨_,_,rfl⟩:=hp;exact vL n Rv l x1 m1 r1 h1
  .cases hp
 |n+1,.sm,l,x,m,r,hp=>by
  simp[fM]at hp;split at hp
  next x1 m1 r1 h1=>simp[ah,aQ]at hp;obtain⟨_,_,rfl⟩:=hp;exact vL n Q3 l x1 m1 r1 h1
  .cases hp
 |n+1,.int k,l,x,m,r,hp|n+1,.bool,l,x,m,r,hp|n+1,.str,l,x,m,r,hp|n+1,.sl t,l,x,m,r,hp=>by
  simp[fM]at hp;split at hp
  .rename_i c q;split at hp
   next x1 m1 h1=>obtain⟨_,_,rfl⟩:=hp;exact⟨[c],rfl,by simp[lE,LZ rfl h1]⟩
   .cases hp
  .cases hp
def OX {x:S.den} (L:Ht h S u=Z (x,m)) (A:bX h u=Z y):gD y.cs=J:=by
 cases u with
 |agg l=>
  simp only[Ht]at L;split at L
  .cases L
  .split at L
   .rename_i x1 m1 h1;let⟨a,e,ga⟩:=vL 40 S l x1 m1 [] h1;rw[kQ]at e;subst e;simp[bX]at A;split at A
    next l' hl=>simp[ah]at A;subst A;exact uf hl ga
    .cases A
   .cases L
 |f T u=>exact gW (v:=.f T u) L A
 |zf S xs j hj off=>exact gW (v:=.zf S xs j hj off) L A
 |zq id sz j off=>exact gW (v:=.zq id sz j off) L A
 |K id off=>exact gW (v:=.K id off) L A
 |qg id off z=>exact gW (v:=.qg id off z) L A
 |I id=>exact gW (v:=.I id) L A
 |emp=>exact gW (v:=.emp) L A
 |nil=>exact gW (v:=.nil) L A
 |mp id=>exact gW (v:=.mp id) L A
 |zl id jj=>exact gW (v:=.zl id jj) L A
 |qp q=>exact gW (v:=.qp q) L A
 |qf g q=>exact gW (v:=.qf g q) L A
 |undef=>exact gW (v:=.undef) L A
 |np=>exact gW (v:=.np) L A
 |qy=>exact gW (v:=.qy) L A
 |sb q=>exact gW (v:=.sb q) L A
def oC (I:bX h u=Z y):∀(n:Nat) (T:Ty) (v:T.den) (off sz:Nat) (z:T.den) (m:Nat),gL h u n T v off sz=Z (z,m)->gD y.cs=J
 |0,_,_,_,_,_,_,A=>by simp[gL]at A
 |n+1,.st t,v,off,sz,z,m,A=>by
  simp[gL]at A;split at A
  .rename_i q L;split at L
   .exact OX L I
   .cases L
  .exact oC I n t v off sz z m A
 |n+1,.pr a b,v,off,sz,z,m,A=>by
  simp[gL]at A;split at A
  .split at A
   next z1 m1 h1=>exact oC I n a v.1 off sz z1 m1 h1
   .cases A
  .split at A
   next z1 m1 h1=>exact oC I n b v.2 _ sz z1 m1 h1
   .cases A
 |n+1,.un,v,off,sz,z,m,A=>by simp[gL]at A
 |n+1,.ex,v,off,sz,z,m,A=>by
  simp[gL]at A;split at A
  .rename_i q L;split at L
   .exact OX L I
   .cases L
  .split at A
   next z1 m1 h1=>exact oC I n Rv _ off sz z1 m1 h1
   .cases A
 |n+1,.sm,v,off,sz,z,m,A=>by
  simp[gL]at A;split at A
  .rename_i q L;split at L
   .exact OX L I
   .cases L
  .split at A
   next z1 m1 h1=>exact oC I n Q3 _ off sz z1 m1 h1
   .cases A
 |n+1,.int k,v,off,sz,z,m,A|n+1,.bool,v,off,sz,z,m,A|n+1,.str,v,off,sz,z,m,A|n+1,.sl t,v,off,sz,z,m,A=>by
  simp only[gL]at A;split at A
  .exact gW A I
  .cases A
def O0 (l:Y FV):zK (l.map .f)=Z l:=by
 induction l with
 |nil=>rfl
 |cons x r z=>simp[cD,zK,z]
def yK (l:Y FV):oO (l.map .f)= .fz l:=by unfold oO;rw[O0]
def Kv:∀{a b:Y TV},lE a=J->lE b=J->lE (a++b)=J
 |[],_,_,z=>z
 |x::r,b,A,z=>by
  simp[lE,al]at A;simp[gG,lE,al];exact⟨A.1,Kv A.2 z⟩
def I_ (A:lE j=J):∀n,lE (aE n j).flatten=J
 |0=>rfl
 |n+1=>by exact Kv A (I_ A n)
def aeg {H:mY} (hH:H.get=erHF h) {l':Y AV} (L:h.get i=Z (.G (Z m) j)) (z:cI h j=Z l') {n sz:Nat} (hn:l! j=n*sz):AV.row? H sz (.I (nm i) sz n)=Z (l',n,[nm i]):=by
 have A:H.get (nm i)=Z ⟨m,.mx l'⟩:=by rw[hH,bG,L];simp[aB,kq,z]
 have hln:=iC z;simp only[AV.row?,cj,bt,A,BC.isCells,lU,BC.len,BC.toMx];rw[aC (bf (by omega)),fE (by omega)]
variable (hinv:gY h nx) (hi:s7 e h)
include hinv hi
variable {X:FuncId->M ci} {V:TypeId->M Ty}
def ax1 {parts:Y m?} (hcm:Hl (V s)=U) (hc:cM P o.op=Z (.xz s i m E parts)) (L:eQ X V (.op (.xz s i m E parts)) e h nx K=Z r):iW P o af e h nx K r:=by
 let⟨H,hH⟩:=gK h;simp only[eQ,hcm]at L;split at L
 .rename_i T zc hT hz;split at L
  .rename_i hs;have hs:=au hs;subst hs;split at L
   .rename_i cs hf;split at L
    .rename_i xs len hp;let⟨cs',h1,h2,_⟩:=GP hi parts _ cs _ hf (Q7 h hz m);have hm:=S0 m cs xs len hp;refine ⟨_,_,_,_,_,L,fy.new hinv hc hH (y0:=if m=0 then .emp else .I (nm nx) T.size m) (rdl:=[]) (b0:=⟨s,oO cs'⟩) (by simp[dE,h1]) hm (λ_ _ he=>by cases he) (λH1 H2 d g b' A=>?_) (λH1 H2 y d g hy=>?_) (by simp)⟩
     .simp only[kq]at A;split at A
      .cases A
      rw[ah]at A;subst A;let⟨q1,q2⟩:=nK cs';refine gx.G q2 rfl ?_ λx hx=>?_
      .rw[q1];exact (F3 d m cs xs len cs' hp h2 g).1
      .simp only[BC.toMx]at hx;obtain⟨q,hq,rfl⟩:=cC.1 hx;exact ml T _ q hq
     .simp only[bX,bB,PT.get_set,bt,aB,iH,du,ah]at hy;rw[(F3 d m cs xs len cs' hp h2 g).2]at hy;split at hy
      next hq=>simp only[al,cU]at hq;subst hy;rw[aC hq.2];exact kh.refl d _
      next hq=>subst hy;rw[av (λh0=>hq (by simp_all))];exact kh.refl d _
    .cases L
   .cases L
  .cases L
 .cases L
def UE {H:mY} (hH:H.get=erHF h) {ty:Operand} {L:Y S.den} {yy:AV} {rdl:ι} (hc:cM P o.op=Z (.app s S.size i ty c)) (h1:mm (DU e h) ty=Z y) (h2:bX h u=Z y) (h3:mm (DU e h) c=Z yy) (h5:yy.row? H S.size=Z ((L.flatMap (bI S)).map .f,l! L,rdl)) (h6:∀n∈rdl,aM m (ow n)=J) (hk:aqv s S.size i S u L m h nx K=Z r):iW P o af e h nx K r:=by
 have hfr:=hinv.fresh;have _:=hi;unfold aqv at hk;have onEmp:∀(rd':Nat),(∀n∈rdl,aM rd' (ow n)=J)->Ff y=J->Le y .emp->bg (aj L) i=J->fy P o af e h nx (.I nx) rd' (gA nx) (h.set nx (Z (.H s J S L))) (nx+1):=by
  intro rd' hrd' he hle hroom;have hr1:bW h (h.set nx (Z (.H s J S L))):=bW.set λr hr=>by rw[bB,hfr]at hr;cases hr
  have hyb:∀id sz' n,y≠ .I id sz' n:=by rintro id sz' n rfl;cases he
  have A:dE (.app s S.size i ty c) (DU e h) H (nm nx)=if aj L==0 then Z ⟨y,rdl,[],[],[]⟩ else Z ⟨.I (nm nx) S.size (aj L),rdl,[nm nx],[(nm nx,⟨s,oO ((L.flatMap (bI S)).map .f)⟩)],[nm nx]⟩:=by
   simp only[dE,h1,h3,h5];cases y with
   |I id sz' n=>exact bT rfl (hyb id sz' n)
   |_=>simp only[he,hroom,ou,bt]
  by_cases hl:aj L=0
  .rw[hl]at A;simp only[cj,bt]at A;have hnil:L=[]:=dC.1 hl;subst hnil;refine fy.mk' hc hH A [] (by simp) (λn _=>?_) (by simp) (λH1 H2 d _ _ _=>⟨by simp,λyb hy=>?_⟩) hrd' (by simp) (by simp) hr1 (hinv.set hr1 (by omega) (by omega) λ_ _ he=>by cases he) (by omega)
   .by_cases z:n=nm nx
    .subst z;rw[bG,bG,PT.get_set,aC rfl,hfr];rfl
    .refine mQ hinv hr1 (iG.set (by rw[hfr];rfl) rfl) λbytes e=>?_
     subst e;rw[PT.get_set,av (λe=>z (by rw[e]))]
   .simp only[bX,bB,PT.get_set,bt,aB,iH,du,qi,cj,ou,ah]at hy;subst hy;exact hle.toH d
  .rw[av (by simpa using hl)]at A;rw[yK]at A;have key:=fy.new (m:=0) (rd:=rd') hinv hc hH A (B:=.H s J S L) (v:=.I nx) (dJ.zero h) (λ_ _ he=>by cases he) (λH1 H2 d g b' hb'=>by
    simp only[kq]at hb';rw[av (by simpa using hl)]at hb';cases hb';exact gx.refl d _) (λH1 H2 yb d g hy=>by
    simp only[bX,bB,PT.get_set,bt,aB,iH,du]at hy;rw[av (by simpa using hl)]at hy;cases hy;exact kh.refl d _) hrd'
   rw[wR]at key;exact key
 split at hk
 .rename_i id;split at hk
  .rename_i ty' p T xs0 hb;split at hk
   .rename_i xs hxs;obtain⟨ee,rfl⟩:=je hxs;cases ee;split at hk
    .rename_i hcond;simp only[al,cU,cS]at hcond;obtain⟨rfl,hmid⟩:=hcond;let⟨hroom,hk⟩:=cG hk;simp only[bX,eO,hb,ah]at h2;have hidlt:=hinv.low id _ hb;have hne:nx≠id:=by omega
     have hrd:∀n∈rdl,aM (gA id|||m) (ow n)=J:=λn z=>by
      rw[bq,h6 n z];simp
     generalize hh':(h.set id (Z (.qj p S.size (aj xs0)))).set nx (Z (.H ty' p S (xs0++L)))=h' at hk;have hrA:bW h (h.set id (Z (.qj p S.size (aj xs0)))):=bW.set λr hr=>by rw[bB,hb]at hr;exact hr
     have hg2:∀bytes,h'.get bytes=if bytes=nx then Z (.H ty' p S (xs0++L)) else if bytes=id then Z (.qj p S.size (aj xs0)) else h.get bytes:=λbytes=>by rw[<- hh',PT.get_set,PT.get_set]
     have hr:bW h h':=by
      rw[<- hh'];refine hrA.trans (bW.set λr hr=>?_);rw[bB,PT.get_set,av hne,hfr]at hr;cases hr
     have hinv':gY h' (nx+1):=by
      refine ⟨λbytes s l hil=>?_,λbytes x hic=>?_⟩
      .rw[hg2]at hil;split at hil
       .cases hil
       .split at hil
        .cases hil
        .exact fo hr l (hinv.G bytes _ l hil)
      .rw[hg2]at hic;split at hic
       .omega
       .split at hic
        .omega
        .have:=hinv.low bytes x hic;omega
     have hme:iG h h':=(iG.of λbytes=>by
      rw[hg2];by_cases e1:bytes=nx
      .rw[aC e1,e1,hfr];exact .inr ⟨rfl,rfl⟩
      .rw[av e1];by_cases e2:bytes=id
       .rw[aC e2,e2,hb];exact .inr ⟨rfl,rfl⟩
       .rw[av e2];exact .inl rfl)
     have hsame:∀n,n≠nm nx->n≠nm id->erHF h' n=erHF h n:=λn h1 h2=>mQ hinv hr hme λbytes e=>by
      subst e;rw[hg2,av (λe=>h1 (by rw[e])),av (λe=>h2 (by rw[e]))]
     have hdead:erHF h' (nm id)=U:=by rw[bG,hg2,av (by omega),aC rfl];rfl
     have hnew:erHF h' (nm nx)=if p&&l! (xs0++L)==0 then U else Z ⟨ty',.fz ((xs0++L).flatMap (bI S))⟩:=by rw[bG,hg2,aC rfl];rfl
     have hval:bX h' (.I nx)=Z (du p nx S.size (l! (xs0++L))):=by simp only[bX,bB,hg2,bt,aB,iH]
     have hwm:∀n,n=nm nx\/n=nm id->aM (gA id|||gA nx) (ow n)=J:=λn z=>by
      rcases z with rfl|rfl<;>rw[dj,bq,bm.2 rfl]<;>simp
     refine ⟨_,_,_,_,_,hk,?_⟩;by_cases hp:(p&&l! xs0==0)=J
     ·
      have hyb:y= .emp:=by rw[<- h2];unfold du;rw[aC hp]
      subst hyb;simp only[al,cU]at hp;obtain⟨rfl,hl0⟩:=hp;have hnil:xs0=[]:=dC.1 hl0;subst hnil;have hroom':bg (aj L) i=J:=by simpa using hroom
      have A:dE (.app ty' S.size i ty c) (DU e h) H (nm nx)=if aj L==0 then Z ⟨.emp,rdl,[],[],[]⟩ else Z ⟨.I (nm nx) S.size (aj L),rdl,[nm nx],[(nm nx,⟨ty',oO ((L.flatMap (bI S)).map .f)⟩)],[nm nx]⟩:=by
       simp only[dE,h1,h3,h5,Ff,hroom',ou,bt]
      have hdead0:erHF h (nm id)=U:=by rw[bG,hb];rfl
      by_cases hl:aj L=0
      .rw[hl]at A;simp only[cj,bt]at A;have hnil:L=[]:=dC.1 hl;subst hnil;refine fy.mk' hc hH A [] (by simp) (λn _=>?_) (by simp) (λH1 H2 d _ _ _=>⟨by simp,λyb hy=>?_⟩) hrd (by simp) (by simp) hr hinv' (by omega)
       .by_cases z:n=nm nx
        .subst z;rw[hnew,bG,hfr];rfl
        .by_cases hn2:n=nm id
         .subst hn2;rw[hdead,hdead0]
         .exact hsame n z hn2
       .rw[hval]at hy;simp only[du,kQ,qi,cj,ou,bt,ah]at hy;subst hy;exact kh.refl d _
      .rw[av (by simpa using hl),yK]at A;refine fy.mk' hc hH A [nm nx] (λbytes hi=>hi) (λn z=>?_) (λbytes hi b' _=>⟨_,by rw[aC hi];simp only[aG]at hi;subst hi;exact e9 _ _⟩) (λH1 H2 d hw1 _ hw2=>⟨λbytes hi u b' hb1 hb2=>?_,λyb hy=>?_⟩) hrd (λn z=>hwm n (.inl (by simpa using z))) (λn z=>by simp only[aG]at z;subst z;rw[dj];omega) hr hinv' (by omega)
       .have hn1:n≠nm nx:=by simpa using z
        by_cases hn2:n=nm id
        .subst hn2;rw[hdead,hdead0]
        .exact hsame n hn1 hn2
       .simp only[aG]at hi;subst hi;rw[hw1 _ (by simp),e9]at hb1;rw[hw2 _ (by simp),hnew,av (by simpa using hl)]at hb2;simp only[ah,jH]at hb1 hb2;subst hb1 hb2;exact gx.refl d _
       .rw[hval]at hy;simp only[du,jH]at hy;rw[av (by simpa using hl)]at hy;cases hy;exact kh.refl d _
     .have hyb:y= .I (nm id) S.size (l! xs0):=by rw[<- h2];unfold du;rw[av hp]
      subst hyb;have hg:H.get (nm id)=Z ⟨ty',.fz (xs0.flatMap (bI S))⟩:=by rw[hH,bG,hb];simp only[aB,kq,av hp]
      have fl:=eV (bk S) xs0;have tk:(xs0.flatMap (bI S)).take (l! xs0*S.size)=xs0.flatMap (bI S):=by rw[<- fl,dh]
      have hmem:mem (nm id) rdl=af:=by
       cases hx:mem (nm id) rdl with
       |false=>rfl
       |true=>
        have hm:=h6 _ (ak9.1 hx);rw[dj,hmid]at hm;cases hm
      have A:dE (.app ty' S.size i ty c) (DU e h) H (nm nx)=Z ⟨.I (nm nx) S.size (l! xs0+l! L),nm id::rdl,[nm nx,nm id],[(nm nx,⟨ty',.fz ((xs0++L).flatMap (bI S))⟩)],[nm nx]⟩:=by
       have hcnd:(S.size==S.size&& !(mem (nm id) rdl)&&(BC.fz (xs0.flatMap (bI S))).isCells&&dY (l! xs0*S.size) (BC.fz (xs0.flatMap (bI S))).len&&ty'==ty'&&bg (l! xs0+l! L) i)=J:=by
        have:dY (l! xs0*S.size) (BC.fz (xs0.flatMap (bI S))).len=J:=bf (by simp only[BC.len];omega);rw[this,hmem,hroom];simp[BC.isCells]
       simp only[dE,h1,h3,h5,hg,hcnd,bt,BC.toMx,<-gF,tk,<-cg,yK,KE]
      have hne2:¬((p&&l! (xs0++L)==0)=J):=by
       simp only[al,cU,bH]at hp ⊢;intro hh;exact hp ⟨hh.1,by omega⟩
      refine fy.mk' hc hH A [nm nx,nm id] (λbytes hi=>hi) (λn z=>?_) (λbytes hi b' hb'=>?_) (λH1 H2 d hw1 _ hw2=>⟨λbytes hi u b' hb1 hb2=>?_,λyb hy=>?_⟩) (λn z=>?_) (λn z=>hwm n (by simpa using z)) (λn z=>by simp only[aG]at z;subst z;rw[dj];omega) hr hinv' (by omega)
      .simp only[bh,b7,eE,not_or]at z;exact hsame n z.1 z.2
      .simp only[bh,b7,eE]at hi;rcases hi with rfl|rfl
       .exact⟨_,by rw[aC (by simp)];exact e9 _ _⟩
       .rw[hdead]at hb';cases hb'
      .simp only[bh,b7,eE]at hi;rcases hi with rfl|rfl
       .rw[hw1 _ (by simp),e9]at hb1;rw[hw2 _ (by simp),hnew,av hne2]at hb2;simp only[ah]at hb1 hb2;subst hb1 hb2;exact gx.refl d _
       .rw[hw2 _ (by simp),hdead]at hb2;cases hb2
      .rw[hval]at hy;simp only[du]at hy;rw[av hne2]at hy;simp only[bH,ah]at hy;subst hy;exact kh.refl d _
      .rcases bh.1 z with rfl|z
       .rw[dj,bq,bm.2 rfl];rfl
       .exact hrd n z
    .cases hk
   .cases hk
  .cases hk
 .obtain⟨hroom,hk⟩:=cG hk;simp only[bX,ah]at h2;subst h2;exact⟨_,_,_,_,_,hk,onEmp m h6 rfl (Le.refl _) hroom⟩
 .obtain⟨hroom,hk⟩:=cG hk;simp only[bX,ah]at h2;subst h2;exact⟨_,_,_,_,_,hk,onEmp m h6 rfl Le.nilEmp hroom⟩
 .cases hk
def ax2 {ty:Operand} (hcm:Hl (V s)=U) (hc:cM P o.op=Z (.app s i m ty c)) (z:eQ X V (.op (.app s i m ty c)) e h nx K=Z r):iW P o af e h nx K r:=by
 let⟨H,L⟩:=gK h;simp only[eQ,hcm]at z;split at z
 .rename_i T b y hT hv A;split at z
  .rename_i I;have I:=au I;subst I;split at z
   next ys bytes hys=>let⟨yb,h1,h2⟩:=bc hi hv;let⟨yy,h3,h4⟩:=bc hi A;let⟨rdl,h5,h6⟩:=SM L hys h4;exact UE hinv hi L hc h1 h2 h3 h5 (λn hn=>by obtain⟨sz,rfl,hm⟩:=h6 n hn;rw[dj];exact hm) z
   .cases z
  .cases z
 .cases z
def alq (xs I:Y S.den):(YO xs I).flatMap (bI S)=AI.splice (xs.flatMap (bI S)) 0 ((I.flatMap (bI S)).take (lQ (l! I) (l! xs)*S.size)):=by
 have _:=hinv;have _:=hi;have fl:=λA:Y S.den=>eV (bk S) A
 have tk:∀(A:Y S.den) n,(A.flatMap (bI S)).take (n*S.size)=(A.take n).flatMap (bI S):=by
  intro A;induction A with
  |nil=>intro n;simp
  |cons z r L=>
   intro n;cases n with
   |zero=>simp
   |succ n=>rw[gf,yn,gf,jF,List.take_append,bk,fE (by rw[bk];omega),show n*S.size+S.size-S.size=n*S.size from by omega,L n]
 have dp:∀(A:Y S.den) n,(A.flatMap (bI S)).drop (n*S.size)=(A.drop n).flatMap (bI S):=by
  intro A;induction A with
  |nil=>intro n;simp
  |cons z r L=>
   intro n;cases n with
   |zero=>simp
   |succ n=>rw[gf,KF,jF,xk,bk,C7 (by rw[bk];omega),show n*S.size+S.size-S.size=n*S.size from by omega,L n,jH]
 unfold YO AI.splice;rw[tk,KE,fl,bR];have e1:I.take (lQ (l! I) (l! xs))=I.take (l! xs):=by grind
 have e2:min (lQ (l! I) (l! xs)) (l! I)=lQ (l! I) (l! xs):=Jf (Nat.min_le_left _ _);rw[e2];simp[List.take_zero,jH,bZ];rw[dp]
 grind
def awz {x:Operand} (hc:cM P o.op=Z (.copy i c x)) (A:eQ X V (.op (.copy i c x)) e h nx K=Z r):iW P o af e h nx K r:=by
 let⟨H,hH⟩:=gK h;simp only[eQ]at A;split at A
 .rename_i id y hv hv2;split at A
  .rename_i ty p T xs hb;split at A
   .rename_i hs;have hs:=au hs;subst hs;split at A
    .rename_i I m hys;split at A
     .rename_i hcond;simp[al,cS]at hcond;obtain⟨hmid,rfl⟩:=hcond;let⟨yb,h1,h2⟩:=bc hi hv;let⟨yy,h3,h4⟩:=bc hi hv2;let⟨rdl,h5,h6⟩:=SM hH hys h4;simp[bX,eO,hb,du,oY,cO,dZ,ah]at h2;subst h2;have fl:=eV (bk T) xs;have hg:H.get (nm id)=Z ⟨ty,.fz (xs.flatMap (bI T))⟩:=by rw[hH,bG,hb];simp[kq]
      have hmem:mem (nm id) rdl=af:=by
       cases hx:mem (nm id) rdl with
       |false=>rfl
       |true=>
        let⟨sz,e,hm⟩:=h6 _ (ak9.1 hx);rw[<- uQ e,hmid]at hm;cases hm
      have hle:lQ (l! I) (l! xs)*T.size<=l! xs*T.size:=cw _ (Nat.min_le_right _ _);have ha0:dE (.copy T.size c x) (DU e h) H (nm nx)=Z ⟨raw (.int .i64 (lQ (l! I) (l! xs))),nm id::rdl,[nm id],[(nm id,⟨ty,.fz ((YO xs I).flatMap (bI T))⟩)],[]⟩:=by
       have hcnd:(T.size==T.size&& !(mem (nm id) rdl)&&dY (l! xs*T.size) (BC.fz (xs.flatMap (bI T))).len)=J:=by
        have:dY (l! xs*T.size) (BC.fz (xs.flatMap (bI T))).len=J:=bf (by simp only[BC.len];omega);rw[this,hmem];simp
       have hput:(BC.fz (xs.flatMap (bI T))).put 0 (((I.flatMap (bI T)).map .f).take (lQ (l! I) (l! xs)*T.size))=Z (.fz ((YO xs I).flatMap (bI T))):=by
        rw[<- gF];unfold BC.put;rw[aC]
        .simp only[O0];rw[alq hinv hi]
        .simp only[al];refine ⟨⟨rfl,bf ?_⟩,?_⟩
         .simp only[BC.len,bx,bR];omega
         .have:∀l:Y FV,(∀x∈l,x.isCell=J)->gD (l.map .f)=J:=by
           intro l hl;induction l with
           |nil=>rfl
           |cons z r ih=>simp[cD,gD,al];exact⟨hl z (by simp),ih λx hx=>hl x (by grind)⟩
          exact this _ λx hx=>ml T I x (il hx)
       simp only[dE,h1,h3,hg,h5,hcnd,bt,hput]
      have hrow:iH (.H ty af T (YO xs I))=iH (.H ty af T xs):=by
       have:l! (YO xs I)=l! xs:=by unfold YO;rw[bH,bR,lI];omega
       simp[iH,this]
      have key:=fy.wrt (m:=0) (v:=.f (.int .i64) (aS (lQ (aj I) (aj xs)))) (rd:=gA id|||m) hinv hc hH ha0 (B:=.H ty af T (YO xs I)) hb (dJ.zero h) (by simp) hrow (λ_ _ he=>by cases he) (λH1 H2 c g b' L=>by
       simp[kq,oY,cO,dZ,ah]at L;subst L;exact gx.refl c _) (λH1 H2 y c g hy=>by
       simp[bX,ah]at hy;subst hy;exact kh.refl c _) (λn hn=>by
       rcases bh.1 hn with rfl|hn
       .rw[dj,bq,bm.2 rfl];rfl
       .obtain⟨sz,rfl,hm⟩:=h6 n hn;rw[dj,bq,hm];simp)
      rw[wR]at key;exact⟨_,_,_,_,_,A,key⟩
     .cases A
    .cases A
   .cases A
  .cases A
 .cases A
def arq {v:Operand} (hc:cM P o.op=Z (.store i c v)) (A:eQ X V (.op (.store i c v)) e h nx K=Z r):iW P o af e h nx K r:=by
 let⟨H,hH⟩:=gK h;simp only[eQ]at A;split at A
 .rename_i id off y hv hv2;let⟨yb,h1,h2⟩:=bc hi hv;let⟨L,h3,h4⟩:=bc hi hv2;simp only[bX,ah]at h2;subst h2;split at A
  .rename_i ty l hb;split at A
   .rename_i cs hcs;split at A
    .rename_i hcond;simp only[al,cU]at hcond;let⟨h5,h6⟩:=Ks hcs h4;let⟨l',hl⟩:=fH h l (hinv.G id _ l hb);have hg:H.get (nm id)=Z ⟨ty,.mx l'⟩:=by rw[hH,bG,hb];simp only[aB,kq,hl]
     have hcell:=uf h5 h6;have hlen:L.cs.length=i:=by rw[iC h5];exact hcond.1
     have hput:(BC.mx l').put off L.cs=Z (.mx (splice l' off L.cs)):=by
      unfold BC.put;rw[aC]
      .rfl
      .simp only[al];exact⟨⟨rfl,by simp only[BC.len];rw[hlen,iC hl];exact hcond.2⟩,hcell⟩
     have ha0:dE (.store i c v) (DU e h) H (nm nx)=Z ⟨raw undef,[nm id],[nm id],[(nm id,⟨ty,.mx (splice l' off L.cs)⟩)],[]⟩:=by
      simp only[dE,h1,h3,CV,hg,hlen,cj,bt,hput]
     have hspl:∀h',bW h h'->cI h' (splice l off cs)=Z (splice l' off L.cs):=λh' hr=>rN off (gV hr l l' hl) (gV hr cs _ h5)
     have hr1:bW h (h.set id (Z (.G (Z ty) (splice l off cs)))):=bW.set λr hr=>by rw[bB,hb]at hr;cases hr
     have key:=fy.wrt (m:=0) (v:=.undef) (rd:=gA id) hinv hc hH ha0 (B:=.G (Z ty) (splice l off cs)) hb (dJ.zero h) (by simp) rfl (λty' l2 he=>by cases he;exact lY _ _ _ (hspl _ hr1)) (λH1 H2 d g b' I=>by
      have:=hspl _ hr1;simp only[dM,qI,bt,kq,this,ah]at I;subst I;exact gx.refl d _) (λH1 H2 y d g hy=>by
      simp only[bX,ah]at hy;subst hy;exact kh.refl d _) (λn hn=>by simp only[aG]at hn;subst hn;rw[dj];exact bm.2 rfl)
     rw[wR]at key;exact⟨_,_,_,_,_,A,key⟩
    .cases A
   .cases A
  .cases A
 .rename_i id sz' j off y hv hv2;let⟨yb,h1,h2⟩:=bc hi hv;let⟨L,h3,h4⟩:=bc hi hv2;simp only[bX,ah]at h2;subst h2;split at A
  .rename_i ty p T xs hb;split at A
   .rename_i hsz;have hsz:=au hsz;subst hsz;let⟨hj,A⟩:=cG A;split at A
    .rename_i z m hset;split at A
     .cases A
     .rename_i hmid;have hmid:aM m id=af:=by simpa using hmid
      have hm:=C' 40 T _ off i z m hset;let⟨j0,j1,j2⟩:=mM hj;have hne:¬((p&&xs.length==0)=J):=by grind
      have hne2:¬((p&&(ca xs j z).length==0)=J):=by unfold ca;rw[fV];exact hne
      have hg:H.get (nm id)=Z ⟨ty,.fz (xs.flatMap (bI T))⟩:=by rw[hH,bG,hb];simp only[aB,kq,av hne]
      have fl:=eV (bk T) xs;have hx:xs[j.toNat]? =Z (aI _ xs j):=by
       unfold aI;rw[aD,aF j2];rfl
      have hle:(j.toNat+1)*T.size<=xs.length*T.size:=cw _ j2;rw[jF]at hle;have hso:∀H1 H2,rX H1 H2->Fx h H1 H2 m->Sa H1 H2 L T (aI _ xs j) z off i:=λH1 H2 d g=>uh d h4 40 T _ off i z m hset g
      have hshape:L.cs.length=i/\off+i<=T.size/\gD L.cs=J:=by
       have d0:rX (erHF h) (erHF (dM m h)):=rX.kill hinv hm;let⟨fs,q1,q2,q3,q4,q5⟩:=hso _ _ d0 (λsz hi=>⟨rfl,by
        let⟨pp,ss,nn,g3⟩:=vQ hm hi;rw[bG,g3];rfl⟩)
       refine ⟨by rw[<- q2,<-bx (f:=AV.f),q1.length],q3,?_⟩;exact oC h4 40 T _ off i z m hset
      let⟨hlen,hoff,hcell⟩:=hshape;obtain⟨c',hput,hc1,hc2⟩:∃c',(BC.fz (xs.flatMap (bI T))).put (j.toNat*T.size+off) L.cs=Z c'/\c'.toMx=splice ((xs.flatMap (bI T)).map .f) (j.toNat*T.size+off) L.cs/\c'.isCells=J:=by
       unfold BC.put;rw[aC]
       .split
        next l ys hl hys=>simp only[BC.fz.injEq]at hl;subst hl;refine ⟨_,rfl,?_,rfl⟩;rw[nO hys];simp only[BC.toMx];unfold splice;simp[gF,zY]
        .exact⟨_,rfl,rfl,rfl⟩
       .simp only[al];exact⟨⟨rfl,bf (by simp only[BC.len];omega)⟩,hcell⟩
      have ha0:dE (.store i c v) (DU e h) H (nm nx)=Z ⟨raw undef,[nm id],[nm id],[(nm id,⟨ty,c'⟩)],[]⟩:=by
       simp only[dE,h1,h3,CV,hg,hlen,cj,bt,hput]
      have hrow:iH (.H ty p T (ca xs j z))=iH (.H ty p T xs):=by
       unfold ca;simp only[iH,fV]
      refine ⟨_,_,_,_,_,A,fy.wrt hinv hc hH ha0 (B:=.H ty p T (ca xs j z)) hb hm hmid hrow (λ_ _ he=>by cases he) (λH1 H2 d g b' I=>?_) (λH1 H2 y d g hy=>?_) (λn hn=>?_)⟩
      .simp only[kq,av hne2,ah]at I;subst I;let⟨fs,q1,q2,q3,q4,q5⟩:=hso H1 H2 d g;have hfl:(ca xs j z).flatMap (bI T)=AI.splice (xs.flatMap (bI T)) (j.toNat*T.size+off) fs:=Ns (bk T) xs j.toNat _ z hx off fs (by omega) q4;refine gx.G hc2 rfl ?_ λc hx=>?_
       .rw[hc1];simp only[BC.toMx];rw[hfl];have:(AI.splice (xs.flatMap (bI T)) (j.toNat*T.size+off) fs).map AV.f=AI.splice ((xs.flatMap (bI T)).map .f) (j.toNat*T.size+off) (fs.map .f):=by unfold AI.splice;simp[gF,zY]
        rw[this];exact (gX.refl d _).splice _ q1
       .simp only[BC.toMx]at hx;obtain⟨q,hq,rfl⟩:=cC.1 hx;exact ml T _ q hq
      .simp only[bX,ah]at hy;subst hy;exact kh.refl d _
      .simp only[aG]at hn;subst hn;rw[dj,bq,bm.2 rfl];simp
    .cases A
   .cases A
  .rename_i ty l hb;split at A
   .rename_i hsz;simp only[al]at hsz;let⟨s1,s2,s3⟩:=hsz;have s1:=au s1;have s2:=au s2;have s3:=au s3;subst s1 s2 s3;let⟨hj,A⟩:=cG A;let⟨j0,j1,j2⟩:=mM hj;split at A
    .rename_i cs hcs;split at A
     .rename_i hc1;have hc1:=au hc1;let⟨h5,h6⟩:=Ks hcs h4;let⟨l',hl⟩:=fH h l (hinv.G id _ l hb);have hg:H.get (nm id)=Z ⟨ty,.mx l'⟩:=by rw[hH,bG,hb];simp only[aB,kq,hl]
      have hcell:=uf h5 h6;have hlen:L.cs.length=1:=by rw[iC h5];exact hc1
      have e0:j.toNat*1+0=j.toNat:=by omega
      rw[e0]at h1;have hput:(BC.mx l').put j.toNat L.cs=Z (.mx (splice l' j.toNat L.cs)):=by
       unfold BC.put;rw[aC]
       .rfl
       .simp only[al];exact⟨⟨rfl,bf (by simp only[BC.len];rw[hlen,iC hl];omega)⟩,hcell⟩
      have ha0:dE (.store 1 c v) (DU e h) H (nm nx)=Z ⟨raw undef,[nm id],[nm id],[(nm id,⟨ty,.mx (splice l' j.toNat L.cs)⟩)],[]⟩:=by
       simp only[dE,h1,h3,CV,hg,hlen,cj,bt,hput]
      have hspl:∀h',bW h h'->cI h' (splice l j.toNat cs)=Z (splice l' j.toNat L.cs):=λh' hr=>rN j.toNat (gV hr l l' hl) (gV hr cs _ h5)
      have hr1:bW h (h.set id (Z (.G (Z ty) (splice l j.toNat cs)))):=bW.set λr hr=>by rw[bB,hb]at hr;cases hr
      have key:=fy.wrt (m:=0) (v:=.undef) (rd:=gA id) hinv hc hH ha0 (B:=.G (Z ty) (splice l j.toNat cs)) hb (dJ.zero h) (by simp) rfl (λty' l2 he=>by cases he;exact lY _ _ _ (hspl _ hr1)) (λH1 H2 d g b' I=>by
       have:=hspl _ hr1;simp only[dM,qI,bt,kq,this,ah]at I;subst I;exact gx.refl d _) (λH1 H2 y d g hy=>by
       simp only[bX,ah]at hy;subst hy;exact kh.refl d _) (λn hn=>by simp only[aG]at hn;subst hn;rw[dj];exact bm.2 rfl)
      rw[wR]at key;exact⟨_,_,_,_,_,A,key⟩
     .cases A
    .cases A
   .cases A
  .cases A
 .cases A
def awv {l:Operand} (hc:cM P o.op=Z (.zh s i m E l c)) (A:eQ X V (.op (.zh s i m E l c)) e h nx K=Z r):iW P o af e h nx K r:=by
 cases hcm:Hl (V s) with
 |none=>exact ars hinv hi hcm hc A
 |some n=>
  let⟨H,hH⟩:=gK h;simp only[eQ,hcm]at A;split at A
  .rename_i zc k a k' b hz hv hv2;let⟨hck,A⟩:=cG A;rw[al]at hck;let⟨hcond,hn⟩:=hck;let⟨y,h1,h2⟩:=bc hi hv;let⟨y2,h3,h4⟩:=bc hi hv2;simp[bX,ah]at h2 h4;subst h2 h4;have han:aO a=n:=by grind
   let⟨_,_,hzc⟩:=xK h hz;refine ⟨_,_,_,_,_,A,fy.new hinv hc hH (y0:=.I (nm nx) i n) (rdl:=[]) (b0:=⟨s,.fz (repl E n)⟩) (by simp[dE,h1,h3,gq,hcond,bt,han]) (dJ.zero h) (λty' l' he=>?_) (λH1 H2 d g b' L=>?_) (λH1 H2 y d g hy=>?_) (by simp)⟩
   .cases he;exact lY _ _ _ (Q7 _ hz n)
   .simp[kq,Q7 _ hz n,ah]at L;subst L;refine gx.G rfl rfl (gX.refl d _) λx hx=>?_
    exact mT (uf (Q7 h hz n) (I_ hzc n)) x hx
   .simp[bX,ah]at hy;subst hy;exact kh.refl d _
  .cases A
def aB8 {parts:Y m?} (hc:cM P o.op=Z (.xz s i m E parts)) (A:eQ X V (.op (.xz s i m E parts)) e h nx K=Z r):iW P o af e h nx K r:=by
 cases hcm:Hl (V s) with
 |none=>exact ax1 hinv hi hcm hc A
 |some n=>
  let⟨H,hH⟩:=gK h;simp only[eQ,hcm]at A;split at A
  .rename_i zc hz;split at A
   .rename_i cs hf;split at A
    .cases A
    .rename_i hl;have hl:m≠0:=λe=>hl (by rw[e];rfl)
     let⟨cs',h1,h2,h3⟩:=GP hi parts _ cs _ hf (Q7 h hz m);let⟨_,_,hzc⟩:=xK h hz;have hcs:=h3 (I_ hzc m);have hr:bW h ((dM 0 h).set nx (Z (.G (Z s) cs))):=(bW.kill 0 h).trans (bW.set λr hr=>by rw[bB,(hinv.kill 0).fresh]at hr;cases hr);have h2':=gV hr _ _ h2;refine ⟨_,_,_,_,_,A,fy.new hinv hc hH (y0:=.I (nm nx) i m) (rdl:=[]) (b0:=⟨s,oO cs'⟩) (by simp[dE,h1,av hl]) (dJ.zero h) (λty' l' he=>?_) (λH1 H2 d g b' L=>?_) (λH1 H2 y d g hy=>?_) (by simp)⟩
     .cases he;exact lY _ _ _ h2'
     .simp[kq,h2',ah]at L;subst L;let⟨q1,q2⟩:=nK cs';refine gx.G q2 rfl ?_ λx hx=>?_
      .rw[q1];exact gX.refl d _
      .exact mT (uf h2 hcs) x hx
     .simp[bX,ah]at hy;subst hy;exact kh.refl d _
   .cases A
  .cases A
def aBb {ty:Operand} (hc:cM P o.op=Z (.app s i m ty c)) (z:eQ X V (.op (.app s i m ty c)) e h nx K=Z r):iW P o af e h nx K r:=by
 cases hcm:Hl (V s) with
 |none=>exact ax2 hinv hi hcm hc z
 |some n0=>
  let⟨H,hH⟩:=gK h;have hfr:=hinv.fresh;simp only[eQ,hcm]at z;split at z
  .rename_i b y hv hv2;let⟨yb,h1,h2⟩:=bc hi hv;let⟨yy,h3,h4⟩:=bc hi hv2;unfold asy at z;split at z
   .rename_i id2 sz2 bytes;simp only[bX,ah]at h4;subst h4;split at z
    .rename_i ty2 l2 hb2;split at z
     .rename_i A;simp only[al,cS]at A;let⟨⟨q1,q2⟩,q3⟩:=A;have q1:=au q1;have q2:=au q2;have q3:bytes≠0:=λe=>by grind
      subst q1;let⟨l2',hl2⟩:=fH h l2 (hinv.G id2 _ l2 hb2);have hrow:=aeg hH hb2 hl2 q2;split at z
      .rename_i id sz1 n;simp only[bX,ah]at h2;subst h2;split at z
       .rename_i ty1 l1 hb1;split at z
        .rename_i A;simp only[al,cS]at A;let⟨⟨⟨p1,p2⟩,p3⟩,p4⟩:=A;have p1:=au p1;have p2:=eq_of_beq p2;have p3:=au p3;have p4:id≠id2:=λe=>by simp_all
         subst p1 p2;let⟨hroom,z⟩:=cG z;let⟨l1',hl1⟩:=fH h l1 (hinv.G id _ l1 hb1);have hln:=iC hl1;have hg:H.get (nm id)=Z ⟨ty1,.mx l1'⟩:=by rw[hH,bG,hb1];simp only[aB,kq,hl1]
         have hidlt:id<nx:=hinv.low id _ hb1;generalize hB:fc.G (Z ty1) (l1++l2)=B at z;have hd1:bW h (h.set id (Z (.qj J 0 0))):=bW.set λr L=>by rw[bB,hb1]at L;cases L
         have hd2:bW (h.set id (Z (.qj J 0 0))) ((h.set id (Z (.qj J 0 0))).set nx (Z B)):=bW.set λr L=>by
          rw[bB,PT.get_set,av (by omega),hfr]at L;cases L
         have L:=hd1.trans hd2;have hsp:cI ((h.set id (Z (.qj J 0 0))).set nx (Z B)) (l1++l2)=Z (l1'++l2'):=gV L _ _ (oV hl1 hl2);have hb':erHF ((h.set id (Z (.qj J 0 0))).set nx (Z B)) (nm nx)=Z ⟨ty1,.mx (l1'++l2')⟩:=by rw[bG,PT.get_set,aC rfl,<-hB]at *;simp only[aB,kq,hsp]
         have hbd:erHF ((h.set id (Z (.qj J 0 0))).set nx (Z B)) (nm id)=U:=by rw[bG,PT.get_set,av (by omega),PT.get_set,aC rfl];rfl
         have hinv1:gY (h.set id (Z (.qj J 0 0))) nx:=hinv.set hd1 hidlt (bK _) (λ_ _ he=>by cases he);have ha:dE (.app ty1 sz1 m ty c) (DU e h) H (nm nx)=Z ⟨.I (nm nx) sz1 (n+bytes),[nm id,nm id2],[nm nx,nm id],[(nm nx,⟨ty1,oO (l1'++l2')⟩)],[nm nx]⟩:=by
          simp only[dE,h1,h3,hrow,hg];rw[aC (by
           simp only[cj,lU,Bool.and_true,BC.isCells,BC.len,hroom,al,cS];refine ⟨?_,bf (by omega)⟩;simp only[mem,Bool.or_false];cases A:aA (nm id2) (nm id) with
           |false=>rfl
           |true=>exact bT (uQ (au A)).symm p4)]
          simp only[BC.toMx,fE (show (l! l1')<=n*sz1 by omega)]
         refine ⟨_,_,_,_,_,z,fy.mk' hc hH ha [nm nx,nm id] (λsz hi=>hi) (λq A=>?_) (λsz hi b' hbb=>?_) (λH1 H2 d hw1 _ hw2=>⟨λsz hi b b' hb hb2=>?_,λy hy=>?_⟩) (λq A=>?_) (λq A=>?_) (λq A=>?_) L (hinv1.set hd2 (by omega) (by omega) λty' l' he=>?_) (by omega)⟩
         .simp only[bh,b7,eE,not_or]at A;refine mQ hinv L (iG.of λsz=>by
           by_cases e1:sz=nx
           .rw[e1,hfr,PT.get_set,aC rfl];exact .inr ⟨rfl,by rw[<- hB];rfl⟩
           .rw[PT.get_set,av e1];by_cases e2:sz=id
            .rw[e2,hb1,PT.get_set,aC rfl];exact .inr ⟨rfl,rfl⟩
            .rw[PT.get_set,av e2];exact .inl rfl) λsz ei=>?_
          subst ei;rw[PT.get_set,av (λe=>A.1 (by rw[e])),PT.get_set,av (λe=>A.2 (by rw[e]))]
         .simp only[bh,b7,eE]at hi;rcases hi with rfl|rfl
          .rw[aC (by simp)];exact⟨_,e9 _ _⟩
          .grind
         .simp only[bh,b7,eE]at hi;rcases hi with rfl|rfl
          .rw[hw1 _ (by simp),e9]at hb;rw[hw2 _ (by simp),hb']at hb2;simp only[ah]at hb hb2;subst hb hb2;let⟨m1,m2⟩:=nK (l1'++l2');exact gx.eq d m2 rfl m1
          .grind
         .simp only[bX,ah]at hy;subst hy;exact kh.refl d _
         .simp only[bh,b7,eE]at A;rw[bq,mZ];rcases A with rfl|rfl
          .rw[dj];exact .inl (bm.2 rfl)
          .rw[dj];exact .inr (bm.2 rfl)
         .simp only[bh,b7,eE]at A;rw[bq,mZ];rcases A with rfl|rfl
          .rw[dj];exact .inr (bm.2 rfl)
          .rw[dj];exact .inl (bm.2 rfl)
         .simp only[aG]at A;subst A;rw[dj];omega
         .rw[<- hB]at he;cases he;exact lY _ _ _ hsp
        .cases z
       .cases z
      .simp only[bX,ah]at h2;subst h2;let⟨hroom,z⟩:=cG z;have L:bW h ((dM 0 h).set nx (Z (.G (Z s) l2))):=(bW.kill 0 h).trans (bW.set λr L=>by rw[bB,(hinv.kill 0).fresh]at L;cases L);have h2':=gV L _ _ hl2;refine ⟨_,_,_,_,_,z,fy.new hinv hc hH (y0:=.I (nm nx) sz2 bytes) (rdl:=[nm id2]) (b0:=⟨s,oO l2'⟩) (by simp only[dE,h1,h3,hrow];simp[Ff,Dk,hroom,q3]) (dJ.zero h) (λty' l' he=>?_) (λH1 H2 d g b' hb'=>?_) (λH1 H2 y d g hy=>?_) (λn hn=>?_)⟩
       .cases he;exact lY _ _ _ h2'
       .simp only[kq,h2',ah]at hb';subst hb';let⟨p1,p2⟩:=nK l2';exact gx.eq d p2 rfl p1
       .simp only[bX,ah]at hy;subst hy;exact kh.refl d _
       .simp only[aG]at hn;subst hn;rw[dj];exact bm.2 rfl
      .cases z
     .cases z
    .cases z
   .cases z
  .cases z
def aAp {lo hi' mx:M Operand} (hc:cM P o.op=Z (.slc i c lo hi' mx)) (z:eQ X V (.op (.slc i c lo hi' mx)) e h nx K=Z r):iW P o af e h nx K r:=by
 have hfr:=hinv.fresh;simp only[eQ]at z;split at z
 .rename_i v hv;let⟨y,h1,h2⟩:=bc hi hv;split at z
  .rename_i b;split at z
   .rename_i T xs k j hb;let⟨y2,h3,h4⟩:=bc hi hb;simp only[bX,ah]at h2 h4;subst h2 h4;split at z
    .rename_i A;have A:=au A;subst A;let⟨L,z⟩:=cG z;have hfl:=eV (bk T) xs;have hcond:(cX 0 j&&cX j (aj xs)&&dY (aj xs*T.size) (l! (xs.flatMap (bI T))))=J:=by
      rw[L,lU];exact bf (by omega)
     simp only[cX,al,bu]at L;have hlen:l! (xs.take j.toNat)=j.toNat:=by rw[bR];omega
     exact iW.q (k:=0) (y0:=.f (.sl ((xs.flatMap (bI T)).take (j.toNat*T.size)) j.toNat)) hinv hc (λH _=>by simp only[dE,h1,h3,gq,hcond,bt]) (cK (by simp only[bX,gq];rw[yZ (bk T),hlen])) z
    .cases z
   .rename_i id k j hb;let⟨y2,h3,h4⟩:=bc hi hb;simp only[bX,ah]at h4;subst h4;split at z
    .rename_i ty p T xs hr0;split at z
     .rename_i A;have A:=au A;subst A;let⟨L,z⟩:=cG z;let⟨H,hH⟩:=gK h;have hj0:=L;simp only[cX,gI,al,bu]at L;have hp:¬((p&&l! xs==0)=J):=by
       simp only[al,cU];omega
      simp only[bX,bB,hr0,aB,iH,du,av hp,ah]at h2;subst h2;have hidlt:=hinv.low id _ hr0;have hne:nx≠id:=by omega
      have hg:H.get (nm id)=Z ⟨ty,.fz (xs.flatMap (bI T))⟩:=by rw[hH,bG,hr0];simp only[aB,kq,av hp]
      have fl:=eV (bk T) xs;have hcond:(T.size==T.size&&cX 0 j&&cX j (aj xs))=J:=by
       simp only[cX,al,bu,cj,EO];omega
      have hlen:l! (xs.take j.toNat)=j.toNat:=by rw[bR];omega
      have ha0:dE (.slc T.size c U (Z b) U) (DU e h) H (nm nx)=Z ⟨.I (nm nx) T.size j.toNat,[nm id],[nm nx,nm id],[(nm nx,⟨ty,.fz ((xs.take j.toNat).flatMap (bI T))⟩)],[nm nx]⟩:=by
       have hc2:((BC.fz (xs.flatMap (bI T))).isCells&&dY (aj xs*T.size) (BC.fz (xs.flatMap (bI T))).len)=J:=by
        simp only[BC.isCells,lU,BC.len];exact bf (by omega)
       simp only[dE,h1,h3,gq,hcond,bt,hg,hc2,BC.toMx,<-gF,yK,yZ (bk T)]
      generalize hh':(h.set id (Z (.qj p T.size (aj xs)))).set nx (Z (.H ty af T (dy j.toNat xs)))=h' at z;have hrA:bW h (h.set id (Z (.qj p T.size (aj xs)))):=bW.set λr hr=>by rw[bB,hr0]at hr;exact hr
      have hg2:∀sz,h'.get sz=if sz=nx then Z (.H ty af T (dy j.toNat xs)) else if sz=id then Z (.qj p T.size (aj xs)) else h.get sz:=λsz=>by rw[<- hh',PT.get_set,PT.get_set]
      have hr:bW h h':=by
       rw[<- hh'];refine hrA.trans (bW.set λr hr=>?_);rw[bB,PT.get_set,av hne,hfr]at hr;cases hr
      have hinv':gY h' (nx+1):=by
       refine ⟨λsz ty l hil=>?_,λsz x hic=>?_⟩
       .rw[hg2]at hil;split at hil
        .cases hil
        .split at hil
         .cases hil
         .exact fo hr l (hinv.G sz _ l hil)
       .rw[hg2]at hic;split at hic
        .omega
        .split at hic
         .omega
         .have:=hinv.low sz x hic;omega
      have hme:iG h h':=(iG.of λsz=>by
       rw[hg2];by_cases e1:sz=nx
       .rw[aC e1,e1,hfr];exact .inr ⟨rfl,rfl⟩
       .rw[av e1];by_cases e2:sz=id
        .rw[aC e2,e2,hr0];exact .inr ⟨rfl,rfl⟩
        .rw[av e2];exact .inl rfl)
      have hsame:∀n,n≠nm nx->n≠nm id->erHF h' n=erHF h n:=λn h1 h2=>mQ hinv hr hme λsz e=>by
       subst e;rw[hg2,av (λe=>h1 (by rw[e])),av (λe=>h2 (by rw[e]))]
      have hdead:erHF h' (nm id)=U:=by rw[bG,hg2,av (by omega),aC rfl];rfl
      have hnew:erHF h' (nm nx)=Z ⟨ty,.fz ((xs.take j.toNat).flatMap (bI T))⟩:=by rw[bG,hg2,aC rfl];rfl
      have hval:bX h' (.I nx)=Z (.I (nm nx) T.size j.toNat):=by simp only[bX,bB,hg2,bt,aB,iH,du,oY,cO,dZ,hlen]
      refine ⟨_,_,_,_,_,z,?_⟩;refine fy.mk' hc hH ha0 [nm nx,nm id] (λsz hi=>hi) (λn hn=>?_) (λsz hi b' hb'=>?_) (λH1 H2 d hw1 _ hw2=>⟨λsz hi b b' hb1 hb2=>?_,λy hy=>?_⟩) (λn hn=>?_) (λn hn=>?_) (λn hn=>by simp only[aG]at hn;subst hn;rw[dj];omega) hr hinv' (by omega)
      .simp only[bh,b7,eE,not_or]at hn;exact hsame n hn.1 hn.2
      .simp only[bh,b7,eE]at hi;rcases hi with rfl|rfl
       .exact⟨_,by rw[aC (by simp)];exact e9 _ _⟩
       .rw[hdead]at hb';cases hb'
      .simp only[bh,b7,eE]at hi;rcases hi with rfl|rfl
       .rw[hw1 _ (by simp),e9]at hb1;rw[hw2 _ (by simp),hnew]at hb2;simp only[ah]at hb1 hb2;subst hb1 hb2;exact gx.refl d _
       .rw[hw2 _ (by simp),hdead]at hb2;cases hb2
      .rw[hval]at hy;cases hy;exact kh.refl d _
      .simp only[aG]at hn;subst hn;rw[dj];exact bm.2 rfl
      .simp only[bh,b7,eE]at hn;rcases hn with rfl|rfl<;>rw[dj,bq,bm.2 rfl]<;>simp
     .cases z
    .cases z
   .cases z
  .rename_i b;split at z
   .rename_i T xs k j hb;let⟨y2,h3,h4⟩:=bc hi hb;simp only[bX,ah]at h2 h4;subst h2 h4;split at z
    .rename_i A;have A:=au A;subst A;let⟨L,z⟩:=cG z;have hfl:=eV (bk T) xs;have hcond:(cX 0 j&&cX j (aj xs)&&dY (aj xs*T.size) (l! (xs.flatMap (bI T))))=J:=by
      rw[L,lU];exact bf (by omega)
     simp only[cX,al,bu]at L;have hlen:l! (xs.drop j.toNat)=aj xs-j.toNat:=by rw[lI]
     have htk:((xs.flatMap (bI T)).drop (j.toNat*T.size)).take ((aj xs-j.toNat)*T.size)=(xs.flatMap (bI T)).drop (j.toNat*T.size):=by
      refine fE ?_;rw[lI,hfl,Nat.sub_mul];exact bK _
     exact iW.q (k:=0) (y0:=.f (.sl ((xs.flatMap (bI T)).drop (j.toNat*T.size)) (aj xs-j.toNat))) hinv hc (λH _=>by simp only[dE,h1,h3,gq,hcond,bt,htk]) (cK (by simp only[bX,gq];rw[Fm (bk T),hlen])) z
    .cases z
   .rename_i id k j hb;let⟨y2,h3,h4⟩:=bc hi hb;simp only[bX,ah]at h4;subst h4;split at z
    .rename_i ty p T xs hr0;split at z
     .rename_i A;have A:=au A;subst A;let⟨L,z⟩:=cG z;have hcond:(T.size==T.size&&cX 0 j&&gI j (aj xs))=J:=by
       simp only[al]at L;rw[L.1,L.2,cj];rfl
      simp only[cX,gI,al,bu]at L;have hp:¬((p&&l! xs==0)=J):=by
       simp only[al,cU];omega
      simp only[bX,bB,hr0,aB,iH,du,av hp,ah]at h2;subst h2;exact iW.q (k:=0) (y0:=.sl (nm id) (j.toNat*T.size) (aj xs-j.toNat)) hinv hc (λH _=>by simp only[dE,h1,h3,gq,hcond,bt]) (cK (by simp only[bX,bB,hr0,aB,iH])) z
     .cases z
    .cases z
   .cases z
  .rename_i b b';split at z
   .rename_i T xs k j k' m hb hb';let⟨y2,h3,h4⟩:=bc hi hb;let⟨y3,h5,h6⟩:=bc hi hb';simp only[bX,ah]at h2 h4 h6;subst h2 h4 h6;split at z
    .rename_i A;have A:=au A;subst A;let⟨L,z⟩:=cG z;have hfl:=eV (bk T) xs;have hcond:(cX 0 j&&cX j m&&cX m (aj xs)&&dY (aj xs*T.size) (l! (xs.flatMap (bI T))))=J:=by
      simp only[al]at L ⊢;exact⟨⟨⟨L.1,L.2.1⟩,L.2.2⟩,bf (by omega)⟩
     simp only[cX,al,bu]at L;have hlen:l! ((xs.drop j.toNat).take (m.toNat-j.toNat))=m.toNat-j.toNat:=by rw[bR,lI];omega
     exact iW.q (k:=0) (y0:=.f (.sl (((xs.flatMap (bI T)).drop (j.toNat*T.size)).take ((m.toNat-j.toNat)*T.size)) (m.toNat-j.toNat))) hinv hc (λH _=>by simp only[dE,h1,h3,h5,gq,hcond,bt]) (cK (by simp only[bX,gq];rw[yZ (bk T),Fm (bk T),hlen])) z
    .cases z
   .cases z
  .cases z
 .cases z
def aB7 (hc:cM P o.op=Z (.clr i E c)) (A:eQ X V (.op (.clr i E c)) e h nx K=Z r):iW P o af e h nx K r:=by
 let⟨H,hH⟩:=gK h;simp only[eQ]at A;split at A
 .rename_i id j hv;split at A
  .rename_i ty p T xs hb;split at A
   .rename_i I;simp only[al]at I;let⟨⟨I,hz⟩,hco⟩:=I;have I:=au I;have hz:=OU hz;subst I hz;let⟨hj,A⟩:=cG A;simp[cX,gI,al,bu]at hj;let⟨y,h1,h2⟩:=bc hi hv;simp[bX,bB,hb,aB,iH,ah]at h2;subst h2;have hp:¬((p&&xs.length==0)=J):=by grind
    have fl:=eV (bk T) xs;have hg:H.get (nm id)=Z ⟨ty,.fz (xs.flatMap (bI T))⟩:=by rw[hH,bG,hb];simp only[aB,kq,av hp]
    have hrl:(repl (ve T) (xs.length-j.toNat)).length=(xs.length-j.toNat)*T.size:=by
     have h9:=(LD (H:=λ_=>U) (H':=λ_=>U) (λn b hb=>by cases hb) T (xs.length-j.toNat)).length;rw[bx,bx,eV (bk T),ey]at h9;exact h9.symm
    have hoff:j.toNat*T.size+(xs.length-j.toNat)*T.size=xs.length*T.size:=by rw[<- Nat.add_mul];congr 1;omega
    have hput:(BC.fz (xs.flatMap (bI T))).put (j.toNat*T.size) ((repl (ve T) (xs.length-j.toNat)).map .f)=Z (.fz (splice (xs.flatMap (bI T)) (j.toNat*T.size) (repl (ve T) (xs.length-j.toNat)))):=by
     unfold BC.put;rw[aC]
     .simp[O0]
     .simp only[al];refine ⟨⟨rfl,bf ?_⟩,Ku _ λq hq=>?_⟩
      .simp only[BC.len,bx];omega
      .obtain⟨v,hv,rfl⟩:=Vs _ q hq;exact iF.1 hco v hv
    have hblt:eK 0 (xs.length-j.toNat)=J:=bf (by omega);have ha0:dE (.clr T.size (ve T) c) (DU e h) H (nm nx)=Z ⟨.qp [],[nm id],[nm id],[(nm id,⟨ty,.fz (splice (xs.flatMap (bI T)) (j.toNat*T.size) (repl (ve T) (xs.length-j.toNat)))⟩)],[]⟩:=by
     simp[dE,h1,hg,hblt,bt,hput]
    have hlen:(dy j.toNat xs++aE (aj xs-j.toNat) T.zero).length=xs.length:=by grind
    have hrow:iH (.H ty p T (dy j.toNat xs++aE (aj xs-j.toNat) T.zero))=iH (.H ty p T xs):=by simp[iH,hlen]
    refine ⟨_,_,_,_,_,A,fy.wrt (m:=0) (v:=.qp []) (rd:=gA id) hinv hc hH ha0 hb (dJ.zero h) (by simp) hrow (λ_ _ he=>by cases he) (λH1 H2 d g b' L=>?_) (λH1 H2 y d g hy=>?_) (λn hn=>?_)⟩
    .have hp2:¬((p&&(dy j.toNat xs++aE (aj xs-j.toNat) T.zero).length==0)=J):=by rw[hlen];exact hp
     simp only[kq,av hp2,ah]at L;subst L;refine gx.G rfl rfl ?_ λq hq=>?_
     .simp only[BC.toMx];unfold splice;rw[hrl,hoff,<-fl,List.drop_length,kQ,KE,yZ (bk T),cg,cg];exact (gX.refl d _).append (LD d T _)
     .simp only[BC.toMx]at hq;obtain⟨q',hq',rfl⟩:=cC.1 hq;exact ml T _ q' hq'
    .simp[bX,cI,ah]at hy;subst hy;exact kh.refl d _
    .simp[aG]at hn;subst hn;rw[dj];exact bm.2 rfl
   .cases A
  .cases A
 .cases A
end ops
def Te {V:Ty} {es:Y (S.den×V.den)} (z:mpE S V es=J):es.map (λp=>(sF S p.1,AV.f (gq V p.2)))=[]:=by
 unfold mpE at z;split at z
 .rfl
 .cases z
def ak6 {V:Ty} {es:Y (S.den×V.den)} (z:mpE S V es=J):afp S=J:=by
 unfold mpE at z;split at z
 .rfl
 .cases z
def adk (z:afr b S=J):afp S=J:=by
 cases S<;>cases b<;>first|rfl|cases z
def Ti (A:afr b S=J) (k z:S.den):w_ .eql (sF S k) (sF S z)=Z (.bool (UX S k z))/\yR b (sF S k)=J/\gq S k= .raw (sF S k):=by
 cases S<;>cases b<;>first|cases A|skip
 .exact⟨by simp[w_,sF,UX,cj,bt,ah,Fz];exact Bool.beq_eq_decide_eq _ _,rfl,rfl⟩
 .exact⟨by simp[w_,sF,UX,Hs],rfl,rfl⟩
def MF {str:Bool} {K V:Ty} (A:afr str K=J) (k:K.den):∀es:Y (K.den×V.den),t7 (sF K k) (es.map λp=>(sF K p.1,AV.f (gq V p.2)))=Z ((s9 k es).map λv=>AV.f (gq V v))
 |[]=>rfl
 |(z,v)::r=>by
  simp[cD,t7,(Ti A k z).1,s9];cases I:UX K k z with
  |true=>rfl
  |false=>simp[cO,dZ];exact MF A k r
def Tc {str:Bool} {K V:Ty} (A:afr str K=J) (k:K.den) (v:V.den):∀es:Y (K.den×V.den),As (sF K k) (.f (gq V v)) (es.map λp=>(sF K p.1,AV.f (gq V p.2)))=Z ((Cc k v es).map λp=>(sF K p.1,AV.f (gq V p.2)))
 |[]=>rfl
 |(z,I)::r=>by
  simp[cD,As,(Ti A k z).1,Cc];cases L:UX K k z with
  |true=>rfl
  |false=>simp[Tc A k v r,cO,dZ,cD]
def ajp {ok:Bool} (z:bX h u=Z y):bX h (pkT ok u (.f .bool b))=Z (pkV ok y b):=by
 cases ok with
 |false=>exact z
 |true=>simp[pkT,pkV,bX,cI,z];rfl
section ops
variable {R:Type} {P:Program} {o:Oper} {e:ia} {h:a8} {nx:Nat} {K:KO R} {r:R}
def Le.aggOf {l:Y FV} (I:∀x∈l,x.isCell=J):Le (.agg (l.map .f)) (.f (.agg l)):=by
 intro φ O w v A;cases A with
 |@agg _ vs hl hcl hrr=>
  refine .f (.agg l vs (by grind) I λj y u L z=>?_);have:=hrr j (.f y) u (by grind) z;cases this with
  |f h=>exact h
def VG (S:Ty) (l:Y TV):M (S.den×Nat×Y TV):=match l with
 |c::r=>(match iN PT.leaf S c with|some (x,m)=>Z (x,m,r)|none=>U)
 |[]=>U
def Rh:∀{l l':Y FV},l.map AV.f=l'.map AV.f->l=l'
 |[],[],_=>rfl
 |[],_::_,h|_::_,[],h=>by simp at h
 |x::r,y::r',h=>by
  simp[cD,eX,AV.f.injEq]at h;rw[h.1,Rh h.2]
def Mq (h:a8):∀(ds:Y TypeDesc) (T:Ty),tj ds=Z T->∀(n:Nat) (l:Y TV) (x:T.den) (m:Nat) (r:Y TV),fM PT.leaf n T l=Z (x,m,r)->∀l',cI h l=Z l'->∃l2,cI h r=Z l2/\l'=(bI T x).map .f++l2
 |[],T,hd,n,l,x,m,r,hp,l',hl=>by
  simp[tj,ah]at hd;subst hd;cases n with
  |zero=>simp[fM]at hp
  |succ n=>
   obtain⟨_,_,rfl⟩:=hp;exact⟨l',hl,rfl⟩
 |d::ds,T,hd,n,l,x,m,r,hp,l',hl=>by
  have plain:∀(S:Ty),S.one=J->(∀t,S≠ .sl t)->∀(v:TV) (a:S.den) (m:Nat) (y:AV),iN PT.leaf S v=Z (a,m)->bX h v=Z y->y= .f (gq S a):=by
   intro S hS hns v a m y L hy;cases v with
   |f Q q=>
    simp[iN]at L;split at L
    next z hz=>obtain⟨rfl,_⟩:=L;obtain⟨e,rfl⟩:=je hz;subst e;simp[bX,ah]at hy;exact hy.symm
    .cases L
   |emp|nil=>
    cases S with
    |sl t=>exact bT rfl (hns t)
    |_=>simp[iN]at L
   |I id=>simp[iN,PT.get]at L
   |_=>simp[iN]at L
  have one:∀(S:Ty),S.one=J->(∀t,S≠ .sl t)->∀(n:Nat) (l:Y TV) (a:S.den) (m:Nat) (r:Y TV),fM PT.leaf n S l=Z (a,m,r)->∀l',cI h l=Z l'->∃l2,cI h r=Z l2/\l'=(bI S a).map .f++l2:=by
   intro S hS hns n l a m r hp l' hl;cases n with
   |zero=>simp[fM]at hp
   |succ n=>
    cases l with
    |nil=>
     cases S with
     |int k|bool|str=>cases hp
     |sl t=>exact bT rfl (hns t)
     |_=>cases hS
    |cons c q=>
     have hpp:VG S (c::q)=Z (a,m,r):=by
      cases S with
      |int k=>simp[fM]at hp;simp[VG];cases hq:iN PT.leaf (.int k) c with
       |none=>rw[hq]at hp;cases hp
       |some z=>rw[hq]at hp;exact hp
      |bool=>simp[fM]at hp;simp[VG];cases hq:iN PT.leaf .bool c with
       |none=>rw[hq]at hp;cases hp
       |some z=>rw[hq]at hp;exact hp
      |str=>simp[fM]at hp;simp[VG];cases hq:iN PT.leaf .str c with
       |none=>rw[hq]at hp;cases hp
       |some z=>rw[hq]at hp;exact hp
      |sl t=>exact bT rfl (hns t)
      |_=>cases hS
     simp[VG]at hpp;split at hpp
     next a1 m1 h1=>simp[ah,aQ]at hpp;obtain⟨rfl,rfl,rfl⟩:=hpp;obtain⟨y,l2,rfl,g1,g2⟩:=cV hl;have:=plain S hS hns c a1 m1 y h1 g1;subst this;exact⟨l2,g2,by rw[(NL S a1 hS).1];rfl⟩
     .cases hpp
  have two:∀(S A:Ty),S.one=J->(∀t,S≠ .sl t)->tj ds=Z A->T= .pr S A->∃l2,cI h r=Z l2/\l'=(bI T x).map .f++l2:=by
   intro S A hS hns hU e;subst e;cases n with
   |zero=>simp[fM]at hp
   |succ n=>
    simp[fM]at hp;split at hp
    .rename_i x1 m1 r1 h1;split at hp
     next x2 m2 r2 h2=>simp[ah,aQ]at hp;obtain⟨rfl,rfl,rfl⟩:=hp;let⟨l2,g1,g2⟩:=one S hS hns n l x1 m1 r1 h1 l' hl;let⟨l3,g3,g4⟩:=Mq h ds A hU n r1 x2 m2 r2 h2 l2 g1;exact⟨l3,g3,by rw[g2,g4,bI,cg,mC]⟩
     .cases hp
    .cases hp
  cases d with
  |int k=>
   simp[tj]at hd;split at hd
   next A hU=>simp[ah]at hd;exact two (.int k) A rfl (λt h=>by cases h) hU hd.symm
   .cases hd
  |bool=>
   simp[tj]at hd;split at hd
   next A hU=>simp[ah]at hd;exact two .bool A rfl (λt h=>by cases h) hU hd.symm
   .cases hd
  |string=>
   simp[tj]at hd;split at hd
   next A hU=>simp[ah]at hd;exact two .str A rfl (λt h=>by cases h) hU hd.symm
   .cases hd
  |_=>simp[tj]at hd
def GU:∀(ds:Y TypeDesc) (T:Ty),tj ds=Z T->∀a b:T.den,jL ds (bI T a) (bI T b)=Z (UX T a b)
 |[],T,hd,a,b=>by simp[tj,ah]at hd;subst hd;rfl
 |d::ds,T,hd,a,b=>by
  cases d with
  |int k=>
   simp[tj]at hd;split at hd
   .rename_i y z;simp[ah]at hd;subst hd;have A:=GU ds y z a.2 b.2;simp[bI,gG,jH,jL,wL,cj,bt,UX];cases he:((a.1:Int)==b.1) with
    |true=>have I:(a.1:Int)=b.1:=by simpa using he
           grind
    |false=>have I:¬(a.1:Int)=b.1:=by simpa using he
            grind
   .cases hd
  |bool=>
   simp[tj]at hd;split at hd
   .rename_i y z;simp[ah]at hd;subst hd;have A:=GU ds y z a.2 b.2;simp[bI,gG,jH,jL,wL,UX]
    grind
   .cases hd
  |string=>
   simp[tj]at hd;split at hd
   .rename_i y z;simp[ah]at hd;subst hd;have A:=GU ds y z a.2 b.2;simp[bI,gG,jH,jL,wL,UX,Hs];cases he:decide ((a.1:ζ)=b.1) with
    |true=>simp[A,lU]
    |false=>simp[oY]
   .cases hd
  |_=>simp[tj]at hd
variable {B:Y TypeDesc}
def R_ (A:u.isC=af) (hl:u.cs=Z j) (hd:tj B=Z S) {a:S.den} (hp:fM PT.leaf 40 S j=Z (a,m,[])) (L:bX h u=Z y):Le y (.f (.agg (bI S a))):=by
 let⟨h1,_⟩:=Ks hl L;let⟨l2,h2,h3⟩:=Mq h B S hd 40 j a m [] hp _ h1;simp[cI,ah]at h2;subst h2;rw[kQ]at h3;cases u with
 |agg l=>
  simp[bX]at L;split at L
  next l' _=>simp[ah]at L;subst L;have:l'=(bI S a).map .f:=h3;rw[this];exact Le.aggOf (py S a)
  .cases L
 |f T x=>
  simp[bX,ah]at L;subst L;have ho:T.one=af:=A;rw[Du]at h3;have:bI T x=bI S a:=Rh h3;rw[sO T x ho,this];exact Le.refl _
 |qp l|undef|qy=>simp[TV.cs,TV.isC]at hl
 |zl id jj=>cases hl
 |_=>cases A
variable (hinv:gY h nx) (hi:s7 e h)
include hinv hi
variable {X:FuncId->M ci} {V:TypeId->M Ty}
def aB5 {y:Operand} {st:Bool} (hc:cM P o.op=Z (.jh b B c y)) (I:eQ X V (.op (.jh b B c y)) e h nx K=Z r):iW P o st e h nx K r:=by
 let⟨H,hH⟩:=gK h;simp[eQ]at I;split at I
 .rename_i T u v hd hu hv;split at I
  .cases I
  .rename_i hcc;simp[mZ,not_or,Bool.not_eq_true]at hcc;split at I
   .rename_i lu lv hlu hlv;split at I
    .rename_i a m1 neg m2 hpa hpb;let⟨yu,h1,h2⟩:=bc hi hu;let⟨yv,h3,h4⟩:=bc hi hv;let⟨⟨⟨hc1,hc2⟩,hc3⟩,hc4⟩:=hcc;have l1:=R_ hc1 hlu hd hpa h2;have l2:=R_ hc2 hlv hd hpb h4;have tmp:∀(z:Operand) (q:TV),dz e z=Z q->q.isC=af->Zx z=af->∃t,z= .tmp t:=by
      intro z q A hq hg;cases z with
      |tmp t=>exact⟨t,rfl⟩
      |const x=>
       have A:cst x=Z q:=by
        simp[dz,auq]at A;split at A
        .cases hg
        .exact A
       have:=(Ow h A).2.2;rw[hq]at this;cases this
      |func g=>simp[dz,ah]at A;subst A;cases hq
      |global g=>
       simp[dz]at A;split at A
       .cases A;cases hq
       .cases A
     obtain⟨t,rfl⟩:=tmp c u hu hc1 hc3;obtain⟨t',rfl⟩:=tmp y v hv hc2 hc4;have same:t=t'->bI T a=bI T neg:=by grind
     let L:EJ:=((DU e h).set t (Z (.f (.agg (bI T a))))).set t' (Z (.f (.agg (bI T neg))))
     have e1:mm L (.tmp t)=Z (.f (.agg (bI T a))):=by
      simp[mm,L,PT.get_set]
      grind
     have e2:mm L (.tmp t')=Z (.f (.agg (bI T neg))):=by simp[mm,L,PT.get_set,bt]
     have ha:dE (.jh b B (.tmp t) (.tmp t')) L H 0=Z ⟨raw (.bool (UX T a neg !=b)),[],[],[],[]⟩:=by
      simp[dE,e1,e2,GU B T hd a neg];rfl
     have ht:=Mu hc ha;rw[hH]at ht;have ht2:gC P o (fQ e h) (erHF h) _:=ht.envLe (e2:=fQ e h) λs z _ A=>by
      simp[L,PT.get_set]at A;rw[<- Ds];simp[mm]at h1 h3;split at A
      .grind
      .split at A
       .grind
       .exact⟨z,A,Le.refl _⟩
     refine ⟨_,0,0,h,nx,I,⟨⟨_,ht2,λy hy=>?_,by simp[EG.eff,vU],by simp[EG.eff],by simp[EG.eff],by simp[EG.eff]⟩,λ_ _ h=>h,hinv,bK _,λ_=>⟨rfl,rfl⟩⟩⟩;simp[bX,ah]at hy;exact hy
    .cases I
   .cases I
 .cases I
def aAu (L:cM P o.op=Z .mkm) (I:eQ X V (.op .mkm) e h nx K=Z r):iW P o af e h nx K r:=by
 have _:=hi;let⟨H,hH⟩:=gK h;refine ⟨_,_,_,_,_,I,fy.new hinv L hH (y0:=.mp (nm nx)) (rdl:=[]) (b0:=⟨0,.mp []⟩) rfl (dJ.zero h) (λ_ _ he=>by cases he) (λH1 H2 d g b' z=>?_) (λH1 H2 y d g A=>?_) (by simp)⟩
 .cases z;exact gx.refl d _
 .simp[bX,ah]at A;subst A;exact kh.refl d _
def aAy {ok:Bool} {k:Operand} (hc:cM P o.op=Z (.jf b ok v c k)) (I:eQ X V (.op (.jf b ok v c k)) e h nx K=Z r):iW P o af e h nx K r:=by
 let⟨H,hH⟩:=gK h;simp only[eQ]at I;split at I
 .rename_i id KT kv hv hv2;split at I
  .rename_i K' bY es hb;split at I
   .rename_i hK;let⟨y,h1,h2⟩:=bc hi hv;let⟨y2,h3,h4⟩:=bc hi hv2;simp[bX,ah]at h2 h4;subst h2 h4;simp[al]at hK;have hg:H.get (nm id)=Z ⟨0,.mp (es.map λp=>(sF K' p.1,.f (gq bY p.2)))⟩:=by rw[hH,bG,hb];show Z (ko.mk 0 (mpC K' bY es))=_;rw[Fc hK.2]
    let⟨_,hok,henc⟩:=Ti hK.1 kv kv;rw[henc]at h3;have hrd:∀n∈[nm id],aM (gA id) (ow n)=J:=λn hn=>by simp[aG]at hn;subst hn;rw[dj];exact bm.2 rfl
    split at I
    .rename_i hE;split at I
     next z hz=>have hzz:=(Ow h hz).1;exact⟨_,_,_,_,_,I,fy.pure (k:=0) hinv hc hH (y0:=pkV ok (raw v) af) (rdl:=[nm id]) (by simp[dE,h1,h3,hg,hok,bt,Te hE,t7]) (λy L=>by rw[ajp hzz]at L;cases L;exact Le.refl _) hrd nofun⟩
     .cases I
    .split at I
     .rename_i kv' A zv hkv hz;split at I
      .rename_i zv' hzv;let⟨e1,e2⟩:=je hkv;cases e1;subst e2;let⟨e3,e4⟩:=je hzv;cases e3;subst e4;have hzz:=(Ow h hz).1;simp[bX,ah]at hzz;refine ⟨_,_,_,_,_,I,fy.pure (k:=0) hinv hc hH (y0:=pkV ok (.f (gq _ (Bh kv' es zv'))) (KU kv' es)) (rdl:=[nm id]) ?_ (λy L=>by rw[ajp (y:=.f (gq _ (Bh kv' es zv'))) rfl]at L;cases L;exact Le.refl _) hrd nofun⟩;simp[dE,h1,h3,hg,hok,bt,MF hK.1];unfold Bh KU;cases hf:s9 kv' es with
       |none=>simp[Option.map_none];rw[hzz]
       |some z=>rfl
      .cases I
     .cases I
   .cases I
  .cases I
 .cases I
def aAt {k v:Operand} (hc:cM P o.op=Z (.jg b c k v)) (z:eQ X V (.op (.jg b c k v)) e h nx K=Z r):iW P o af e h nx K r:=by
 let⟨H,hH⟩:=gK h;simp only[eQ]at z;split at z
 .rename_i id KT kv VT vv hv hv2 hv3;split at z
  .rename_i K' bY es hb;split at z
   .rename_i I;simp[al]at I;let⟨y,h1,h2⟩:=bc hi hv;let⟨y2,h3,h4⟩:=bc hi hv2;let⟨y3,h5,h6⟩:=bc hi hv3;simp[bX,ah]at h2 h4 h6;subst h2 h4 h6;have hg:H.get (nm id)=Z ⟨0,.mp (es.map λp=>(sF K' p.1,.f (gq bY p.2)))⟩:=by rw[hH,bG,hb];show Z (ko.mk 0 (mpC K' bY es))=_;rw[Fc I.2]
    let⟨_,hok,henc⟩:=Ti I.1.1 kv kv;rw[henc]at h3;have hrd:∀n∈[nm id],aM (gA id) (ow n)=J:=λn hn=>by simp[aG]at hn;subst hn;rw[dj];exact bm.2 rfl
    split at z
    next hE=>exact⟨_,_,_,_,_,z,fy.wrt (k:=0) (m:=0) (v:=.undef) (rd:=gA id) hinv hc hH (y0:=raw undef) (b0:=⟨0,.mp [(sF KT kv,.f (gq VT vv))]⟩) (rdl:=[nm id]) (by simp[dE,h1,h3,h5,hg,hok,bt,Te hE,As]) (B:=.mp KT VT [(kv,vv)]) hb (dJ.zero h) (by simp) rfl (λty' l2 he=>by cases he) (λH1 H2 d g b' A=>by simp[kq,Fc (adk I.1.1),ah]at A;subst A;exact gx.refl d _) (λH1 H2 y d g L=>by simp[bX,ah]at L;subst L;exact kh.refl d _) hrd⟩
    .split at z
     next kv' vv' hkv hvv=>let⟨e1,e2⟩:=je hkv;cases e1;subst e2;let⟨e3,e4⟩:=je hvv;cases e3;subst e4;exact⟨_,_,_,_,_,z,fy.wrt (k:=0) (m:=0) (v:=.undef) (rd:=gA id) hinv hc hH (y0:=raw undef) (b0:=⟨0,.mp ((Cc kv' vv' es).map λp=>(sF _ p.1,.f (gq _ p.2)))⟩) (rdl:=[nm id]) (by simp[dE,h1,h3,h5,hg,hok,bt,Tc I.1.1]) (B:=.mp _ _ (Cc kv' vv' es)) hb (dJ.zero h) (by simp) rfl (λty' l2 he=>by cases he) (λH1 H2 d g b' A=>by simp[kq,Fc (adk I.1.1),ah]at A;subst A;exact gx.refl d _) (λH1 H2 y d g L=>by simp[bX,ah]at L;subst L;exact kh.refl d _) hrd⟩
     .cases z
   .cases z
  .cases z
 .cases z
def aAq (hc:cM P o.op=Z (.rng c)) (z:eQ X V (.op (.rng c)) e h nx K=Z r):iW P o af e h nx K r:=by
 let⟨H,hH⟩:=gK h;simp only[eQ]at z;split at z
 .rename_i s hv;let⟨y,h1,L⟩:=bc hi hv;simp[bX,ah]at L;subst L;refine ⟨_,_,_,_,_,z,fy.new hinv hc hH (y0:=.K (nm nx) 0) (rdl:=[]) (b0:=⟨0,.it ⟨jG s⟩ 0⟩) (by simp[dE,h1];rfl) (dJ.zero h) (λ_ _ he=>by cases he) (λH1 H2 d g b' A=>?_) (λH1 H2 y d g I=>?_) (by simp)⟩
  .cases A;exact gx.refl d _
  .simp[bX,ah]at I;subst I;exact kh.refl d _
 .cases z
def aAr (hc:cM P o.op=Z (.nxt c)) (z:eQ X V (.op (.nxt c)) e h nx K=Z r):iW P o af e h nx K r:=by
 let⟨H,hH⟩:=gK h;simp only[eQ]at z;split at z
 .rename_i id hv;split at z
  .rename_i K' bY es L;split at z
   .rename_i s p hI;let⟨y,h1,h2⟩:=bc hi hv;simp[bX,ah]at h2;subst h2;have hg:H.get (nm id)=Z ⟨0,.it ⟨jG s⟩ p⟩:=by rw[hH,bG,L];show Z (ko.mk 0 (mpC K' bY es))=_;rw[aue hI]
    have hrd:∀n∈[nm id],aM (gA id) (ow n)=J:=λn hn=>by simp[aG]at hn;subst hn;rw[dj];exact bm.2 rfl
    rcases mS z with ⟨hp,z⟩|⟨hp,z⟩
    .have hp:=aY hp;have e2:(⟨jG s⟩:ByteArray).data.toList[p]? =Z (List.getD s p 0):=by grind
     exact⟨_,_,_,_,_,z,fy.wrt (k:=0) (m:=0) (rd:=gA id) hinv hc hH (y0:=.qp [raw (.bool J),raw (.int .i64 p),raw (.int .i32 (rnP s p))]) (b0:=⟨0,.it ⟨jG s⟩ (p+wdP s p)⟩) (rdl:=[nm id]) (by simp only[dE,h1,hg,e2];rfl) (B:=.mp itK .un [((s,aS (p+wdP s p)),())]) L (dJ.zero h) (by simp) rfl (λty' l2 he=>by cases he) (λH1 H2 d g b' A=>by cases A;exact gx.refl d _) (λH1 H2 y d g I=>by cases I;exact kh.refl d _) hrd⟩
    .have hp:l! s<=p:=Nat.not_lt.1 λq=>by rw[show eK p (l! s)=J from bf q]at hp;cases hp
     have e2:(⟨jG s⟩:ByteArray).data.toList[p]? =U:=by grind
     exact⟨_,_,_,_,_,z,fy.wrt (k:=0) (m:=0) (rd:=gA id) hinv hc hH (y0:=.qp [raw (.bool af)]) (b0:=⟨0,.it ⟨jG s⟩ p⟩) (rdl:=[nm id]) (by simp[dE,h1,hg,e2]) (B:=.mp itK .un [((s,aS p),())]) L (dJ.zero h) (by simp) rfl (λty' l2 he=>by cases he) (λH1 H2 d g b' A=>by cases A;exact gx.refl d _) (λH1 H2 y d g I=>by cases I;exact kh.refl d _) hrd⟩
   .cases z
  .cases z
 .cases z
def K_op {s:U0} (I:cM P o.op=Z s) (A:eQ X V (.op s) e h nx K=Z r):iW P o s.still e h nx K r:=by
 cases s with
 |mv x=>exact K_mv hinv hi I A
 |pick c a b=>exact awt hinv hi I A
 |alloc ty z=>exact arv hinv hi I A
 |box ty x=>exact aB9 hinv hi I A
 |build z parts=>exact aru hinv hi I A
 |xz ty sz len z parts=>exact aB8 hinv hi I A
 |load sz L x=>exact aww hinv hi I A
 |store sz x v=>exact arq hinv hi I A
 |jz x=>exact awu hinv hi I A
 |bin op x y=>exact aBa hinv hi I A
 |jh neg ds x y=>exact aB5 hinv hi I A
 |xq neg x y=>exact aB6 hinv hi I A
 |zn neg x=>exact art hinv hi I A
 |not x=>exact aAs hinv hi I A
 |conv k x=>exact ax0 hinv hi I A
 |zh ty sz bytes z l c=>exact awv hinv hi I A
 |slc sz x lo hi' mx=>exact aAp hinv hi I A
 |jp off x=>exact aB3 hinv hi I A
 |fld off sz L x=>exact aB2 hinv hi I A
 |jb sz x i=>exact aB1 hinv hi I A
 |idx n sz L x i=>exact aB0 hinv hi I A
 |jk n sz x i=>exact awy hinv hi I A
 |ext x i=>exact aB4 hinv hi I A
 |len x=>exact aAz hinv hi I A
 |lens x=>exact awx hinv hi I A
 |max x y=>exact aAx hinv hi I A
 |min x y=>exact aAw hinv hi I A
 |jv x i=>exact aws hinv hi I A
 |app ty sz bytes s x=>exact aBb hinv hi I A
 |copy sz d x=>exact awz hinv hi I A
 |clr sz z x=>exact aB7 hinv hi I A
 |mkf f caps=>exact aAv hinv hi I A
 |mkm=>exact aAu hinv hi I A
 |rng x=>exact aAq hinv hi I A
 |nxt x=>exact aAr hinv hi I A
 |jf str ok z x k=>exact aAy hinv hi I A
 |jg str x k v=>exact aAt hinv hi I A
 |_=>simp[eQ]at A
end ops
mutual
def AV.qw (g:Nat->Nat):AV->AV
 |.f x=>.f x
 |.K id off=>.K (g id) off
 |.sl id off n=>.sl (g id) off n
 |.I id sz n=>.I (g id) sz n
 |.mp id=>.mp (g id)
 |.emp=>.emp
 |.qy=>.qy
 |.agg l=>.agg (AV.renL g l)
 |.qp l=>.qp (AV.renL g l)
 |.qf q l=>.qf q (AV.renL g l)
def AV.renL (g:Nat->Nat):Y AV->Y AV
 |[]=>[]
 |x::r=>x.qw g::AV.renL g r
end
def oE (g:Nat->Nat):∀l,AV.renL g l=l.map (AV.qw g)
 |[]=>rfl
 |x::r=>by rw[AV.renL,oE g r];rfl
def FR (g:Nat->Nat) (x:AV):(x.qw g).isCell=x.isCell:=by cases x<;>rfl
variable {g:Nat->Nat}
def ch.renTo {φ':PM} (A:∀i k,T i=Z k->φ' (g i)=Z k) (h:ch T O W y v):ch φ' O W (y.qw g) v:=by
 induction h with
 |f h=>exact .f h
 |K h=>exact .K (A _ _ h)
 |sl h L hc=>exact .sl (A _ _ h) L hc
 |I h L hc hsh=>exact .I (A _ _ h) L hc hsh
 |emp=>exact .emp
 |qy=>exact .qy
 |mp h=>exact .mp (A _ _ h)
 |agg hl hcl hr ih=>
  simp[AV.qw,oE];refine .agg (by grind) (λy z=>?_) λj y v z hv=>?_
  .obtain⟨x,hy,rfl⟩:=cC.1 z;rw[FR];exact hcl x hy
  .grind
 |qp hl hr ih=>
  simp[AV.qw,oE];refine .qp (by grind) λj y v z hv=>?_
  grind
 |qf hl hr ih=>
  simp[AV.qw,oE];refine .qf (by grind) λj y v z hv=>?_
  grind
variable {p:Nat->Bool}
def ch.renFrom {φ':PM} (hk:∀i k,p i=J->T (g i)=Z k->φ' i=Z k) (h:ch T O W y v):∀x:AV,x.all p=J->y=x.qw g->ch φ' O W x v:=by
 induction h with
 |f h=>intro x hp e;cases x<;>simp[AV.qw,reduceCtorEq]at e;cases e;exact .f h
 |K h=>intro x hp e;cases x<;>simp only[AV.qw,reduceCtorEq]at e;cases e;exact .K (hk _ _ hp h)
 |sl h hn hc=>intro x hp e;cases x<;>simp only[AV.qw,reduceCtorEq]at e;cases e;exact .sl (hk _ _ hp h) hn hc
 |I h hn hc hsh=>intro x hp e;cases x<;>simp only[AV.qw,reduceCtorEq]at e;cases e;exact .I (hk _ _ hp h) hn hc hsh
 |emp=>intro x hp e;cases x<;>simp[AV.qw,reduceCtorEq]at e;exact .emp
 |qy=>intro x hp e;cases x<;>simp[AV.qw,reduceCtorEq]at e;exact .qy
 |mp h=>intro x hp e;cases x<;>simp[AV.qw,reduceCtorEq]at e;cases e;exact .mp (hk _ _ hp h)
 |agg hl hcl hr A=>
  intro x hp e;cases x<;>simp[AV.qw,reduceCtorEq]at e;cases e;rw[oE]at hl hcl hr A;refine .agg (by grind) (λx L=>?_) λj x v L hv=>?_
  .have:=hcl (x.qw g) (cC.2 ⟨x,L,rfl⟩);rwa [FR]at this
  .exact A j (x.qw g) v (by grind) hv x (nj hp x (ba L)) rfl
 |qp hl hr A=>
  intro x hp e;cases x<;>simp[AV.qw,reduceCtorEq]at e;cases e;rw[oE]at hl hr A;refine .qp (by grind) λj x v L hv=>?_
  exact A j (x.qw g) v (by grind) hv x (nj hp x (ba L)) rfl
 |qf hl hr A=>
  intro x hp e;cases x<;>simp only[AV.qw,reduceCtorEq]at e;cases e;rw[oE]at hl hr A;refine .qf (by grind) λj x v L hv=>?_
  exact A j (x.qw g) v (by grind) hv x (nj hp x (ba L)) rfl
def BC.qw (g:Nat->Nat):BC->BC
 |.fz l=>.fz l
 |.mx l=>.mx (l.map (AV.qw g))
 |.mp es=>.mp (es.map λp=>(p.1,p.2.qw g))
 |.it s p=>.it s p
def ko.qw (g:Nat->Nat) (b:ko):ko:=⟨b.ty,b.c.qw g⟩
def ii.renTo {φ':PM} {O':Nat->Prop} (L:∀x v,ch T O W x v->ch φ' O' W (x.qw g) v) {o:Obj} (h:ii T O W F o):ii φ' O' W (F.qw g) o:=by
 let⟨ty,c⟩:=F;simp[ko.qw];cases c with
 |fz l=>
  let⟨arr,h1,A,I⟩:=h;refine ⟨arr,h1,A,λj x z=>?_⟩;let⟨a,v,c,d⟩:=I j x z;obtain⟨q,_,rfl⟩:=gz.1 z;exact⟨a,v,c,L _ _ d⟩
 |mx l=>
  simp[BC.qw];let⟨arr,h1,A,I⟩:=h;refine ⟨arr,h1,by simpa[BC.len] using A,λj x z=>?_⟩;simp only[BC.get,bE]at z;obtain⟨q,hq,rfl⟩:=gz.1 z;let⟨a,v,c,d⟩:=I j q hq;exact⟨by rw[FR];exact a,v,c,L _ _ d⟩
 |mp es=>
  let⟨e,c,h1,A,I⟩:=h;refine ⟨e,c,h1,by rw[af0];exact A,λj x z=>?_⟩
  grind
 |it s p=>exact h
def ii.renFrom {φ':PM} {O':Nat->Prop} (L:∀x v,x.all p=J->ch T O W (x.qw g) v->ch φ' O' W x v) (hb:F.c.all p=J) {o:Obj} (h:ii T O W (F.qw g) o):ii φ' O' W F o:=by
 let⟨ty,c⟩:=F;simp[ko.qw]at h;cases c with
 |fz l=>
  let⟨arr,h1,A,I⟩:=h;refine ⟨arr,h1,A,λj x z=>?_⟩;let⟨a,v,c,d⟩:=I j x z;obtain⟨q,_,rfl⟩:=gz.1 z;exact⟨a,v,c,L _ _ rfl d⟩
 |mx l=>
  simp[BC.qw]at h;let⟨arr,h1,A,I⟩:=h;refine ⟨arr,h1,by simpa[BC.len] using A,λj x z=>?_⟩;simp[BC.get]at z;let⟨a,v,c,d⟩:=I j (x.qw g) (by simp only[BC.get,bE,z];rfl);rw[FR]at a;exact⟨a,v,c,L _ _ (nj hb x (ba z)) d⟩
 |mp es=>
  let⟨e,c,h1,A,I⟩:=h;refine ⟨e,c,h1,by rw[af0]at A;exact A,λj x z=>?_⟩;let⟨m,a,F⟩:=I j (x.1,x.2.qw g) (by grind);exact⟨m,a,L _ _ (nj hb x.2 (cC.2 ⟨x,ba z,rfl⟩)) F⟩
 |it s p=>exact h
mutual
def BZ (g:Nat->Nat):TV->TV
 |.I i=>.I (g i)
 |.zl i j=>.zl (g i) j
 |.agg l=>.agg (li g l)
 |.qp l=>.qp (li g l)
 |.qf q l=>.qf q (li g l)
 |.f T v=>.f T v
 |.zf T xs j h off=>.zf T xs j h off
 |.zq a b c d=>.zq (g a) b c d
 |.K a b=>.K (g a) b
 |.qg a b c=>.qg (g a) b c
 |.emp=>.emp
 |.nil=>.nil
 |.mp i=>.mp (g i)
 |.undef=>.undef
 |.np=>.np
 |.qy=>.qy
 |.sb s=>.sb (s.to (g s.id))
def li (g:Nat->Nat):Y TV->Y TV
 |[]=>[]
 |x::r=>BZ g x::li g r
end
def vJ (g:Nat->Nat):∀l,li g l=l.map (BZ g)
 |[]=>rfl
 |x::r=>by rw[li,vJ g r];rfl
def kO (g:Nat->Nat):fc->fc
 |.G ty l=>.G ty (li g l)
 |.H ty p T xs=>.H ty p T xs
 |.qj p sz n=>.qj p sz n
 |.mp K V es=>.mp K V es
 |.qx F a x=>.qx F (F.aid (g a)) x
 |.qh F a x k p=>.qh F (F.aid (g a)) x k (p.map λq=>(g q.1,q.2))
def Mf (g:Nat->Nat) (b:fc):iH (kO g b)=iH b:=by cases b<;>rfl
def p_ (g:Nat->Nat) (n:Nat):Nat:=jD (g (ow n)) (ix n)
def Do (g:Nat->Nat) (i k:Nat):p_ g (jD i k)=jD (g i) k:=by unfold p_;rw[iI,wy]
def Cu (g:Nat->Nat) (i:Nat):p_ g (nm i)=nm (g i):=Do g i 0
def LR (g:Nat->Nat) (i:Nat) (j:Int):p_ g (qA i j)=qA (g i) j:=Do g i _
def xU (g:Nat->Nat) (n:Nat):ow (p_ g n)=g (ow n):=iI _ _
def Au (g:Nat->Nat) (n:Nat):ix (p_ g n)=ix n:=wy _ _
def Vp (g:Nat->Nat) (id j sz n:Nat):(uP id j sz n).qw (p_ g)=uP (g id) j sz n:=by
 unfold uP;split
 .rfl
 .simp[AV.qw,Do]
def apx (g:Nat->Nat) (s:Sb):Lc (s.to (g s.id))=(Lc s).qw (p_ g):=by
 cases s with
 |nr id j sz n=>simp[Sb.to,Sb.id,Lc,Vp]
 |_=>simp[Sb.to,Sb.id,Lc,AV.qw,LR,Do]
mutual
def aum {g:Nat->Nat} {h1 h2:a8} (hrow:∀i r,eO h1 i=Z r->eO h2 (g i)=Z r):∀(v:TV) (y:AV),bX h1 v=Z y->bX h2 (BZ g v)=Z (y.qw (p_ g))
 |.f _ _,y,he|.zf _ _ _ _ _,y,he=>by simp[bX,ah]at he;subst he;rfl
 |.zq _ _ _ _,y,he|.K _ _,y,he|.qg _ _ _,y,he=>by simp[bX,ah]at he;subst he;simp[BZ,bX,AV.qw,Cu]
 |.I id,y,he=>by
  simp[bX]at he;split at he
  .rename_i p sz n hr;simp[ah]at he;subst he;simp[BZ,bX,hrow id _ hr];unfold du;split
   .rfl
   .simp[AV.qw,Cu]
  .cases he
 |.zl id jj,y,he=>by
  simp[bX]at he;split at he
  .rename_i p sz n hr;simp[ah]at he;subst he;simp[BZ,bX,hrow id _ hr,AV.qw,Cu]
  .cases he
 |.emp,y,he|.nil,y,he=>by simp[bX,ah]at he;subst he;rfl
 |.mp _,y,he=>by simp[bX,ah]at he;subst he;simp[BZ,bX,AV.qw,Cu]
 |.agg l,y,he|.qp l,y,he|.qf q l,y,he=>by
  simp[bX]at he;split at he
  .rename_i l' hl;simp[ah]at he;subst he;simp[BZ,bX,qS hrow l l' hl,AV.qw]
  .cases he
 |.undef,y,he|.np,y,he|.qy,y,he=>by simp[bX,ah]at he;subst he;rfl
 |.sb s,y,he=>by simp[bX,ah]at he;subst he;simp[BZ,bX,apx]
def qS {g:Nat->Nat} {h1 h2:a8} (hrow:∀i r,eO h1 i=Z r->eO h2 (g i)=Z r):∀(l:Y TV) (l':Y AV),cI h1 l=Z l'->cI h2 (li g l)=Z (AV.renL (p_ g) l')
 |[],l',he=>by simp[cI,ah]at he;subst he;rfl
 |x::r,l',he=>by
  obtain⟨y,l2,rfl,e1,e2⟩:=cV he;exact qT (aum hrow x y e1) (qS hrow r l2 e2)
end
def Xa (g:Nat->Nat) (a:Nat) (es:Y s?):(w7 a es).map (λp=>(p.1,p.2.qw (p_ g)))=w7 (g a) es:=by
 unfold w7;rw[kH];refine nu λe _=>?_
 simp[Function.comp,AV.qw,LR]
def W_ (g:Nat->Nat) (a:Nat) (k:ν) (v:AV):∀es:Y s?,(ND a k v es).map (λp=>(p.1,p.2.qw (p_ g)))=ND (g a) k (v.qw (p_ g)) es
 |[]=>rfl
 |e::r=>by
  simp[ND];split
  .rw[cD,Xa]
  .rw[cD,W_ g a k v r];simp[AV.qw,LR]
def H4 (g:Nat->Nat) (a sz:Nat):∀(z:η) (k:Nat),(lK a sz k z).map (AV.qw (p_ g))=lK (g a) sz k z
 |[],_=>rfl
 |l::r,k=>by simp[lK,cD,Vp,H4 g a sz r (k+1)]
def aff (g:Nat->Nat) (p:Bool) (id sz n:Nat):(du p id sz n).qw (p_ g)=du p (g id) sz n:=by
 unfold du;split
 .rfl
 .simp[AV.qw,Cu]
def ajn (g:Nat->Nat) (a:Nat) (z:η):(z.map λj=>AV.K (qA a j) 0).map (AV.qw (p_ g))=z.map λj=>.K (qA (g a) j) 0:=by
 rw[kH];refine nu λj _=>?_
 simp[Function.comp,AV.qw,LR]
def WP (g:Nat->Nat) (a:Nat) (F:uM) (x:F.ty.den):uF (F.aid (g a)) F x=(uF a F x).map (ko.qw (p_ g)):=by
 cases F with
 |zm ty=>
  simp[uF,uM.aid];split
  .rfl
  .exact (d_ (λz=>Z (ko.mk ty (.mx z))) (ajn g a x)).symm
 |zd=>exact (d_ (λz=>Z (ko.mk 0 (.mp z))) (Xa g a x)).symm
 |rr ty sz=>exact (d_ (λz=>Z (ko.mk ty (.mx z))) (H4 g a sz x 0)).symm
 |_=>rfl
def agn (g:Nat->Nat) (a:Nat) (k:ν) (F:uM) (x:F.ty.den) (p:M (Nat×Bool×Nat)):ae1 (F.aid (g a)) k F x (p.map λq=>(g q.1,q.2))=(ae1 a k F x p).map (ko.qw (p_ g)):=by
 cases F with
 |zd=>
  cases p with
  |none=>rfl
  |some q=>
   have:=W_ g a k (.K (nm q.1) 0) x;simp[AV.qw,Cu]at this;exact (d_ (λz=>Z (ko.mk 0 (.mp z))) this).symm
 |rr ty sz=>
  cases p with
  |none=>rfl
  |some q=>
   have:=H4 g a sz x 0;simp[ae1,uM.aid,bw,ko.qw,BC.qw,List.map_set,aff]
   grind
 |_=>rfl
def agp (g:Nat->Nat) (k:Nat) (ty:TypeId) (T:Ty) (xss:Y (Y T.den)):rL k ty T xss=(rL k ty T xss).map (ko.qw (p_ g)):=by
 unfold rL;cases xss[k]? with
 |none=>rfl
 |some xs=>
  simp[aB,Z_];split<;>rfl
def agq (g:Nat->Nat) (i k:Nat) (ty:TypeId) (S:Ty) (xs:Y (CZ S)):rM (g i) k ty S xs=(rM i k ty S xs).map (ko.qw (p_ g)):=by
 unfold rM;rw[Option.map_map];congr 1;funext o;simp[Function.comp,wK];split
 .simp only[ko.qw,BC.qw,cg,kH,cD,C6,AV.qw,Do];rfl
 .simp only[ko.qw,BC.qw,Ij,kH];rfl
def Nv (g:Nat->Nat) (i k:Nat) (F:uM) (x:F.ty.den):Lb (g i) k F x=(Lb i k F x).map (ko.qw (p_ g)):=by
 cases F with
 |ar ty S=>
  exact agq g i k ty S x
 |ir ty T=>
  exact agp g k ty T x
 |_=>rfl
def VU (g:Nat->Nat) (i k:Nat) (b:fc):wX (g i) k (kO g b)=(wX i k b).map (ko.qw (p_ g)):=by
 cases b with
 |qx F a x=>exact Nv g i k F x
 |qh F a x j p=>
  cases p with
  |none=>
   simp[kO,wX,Option.map_none];split
   .rfl
   .exact Nv g i k F x
  |some q=>exact Nv g i k F x
 |_=>rfl
def aq0 {A:a8} (hrow:∀i r,eO h i=Z r->eO A (g i)=Z r) {b:fc} (he:kq h b=Z F):kq A (kO g b)=Z (F.qw (p_ g)):=by
 cases b with
 |H ty p T xs=>
  simp only[kq]at he;split at he
  .cases he
  next I=>simp[ah]at he;subst he;simp only[kO,kq,av I];rfl
 |G ty l=>
  cases ty with
  |some ty=>
   simp[kq]at he;split at he
   next l' z=>simp[ah]at he;subst he;simp[kO,kq,qS hrow l l' z,oE];rfl
   .cases he
  |none=>
   simp[kq]at he;split at he
   next l' z=>simp[ah]at he;subst he;simp[kO,kq,qS hrow l l' z,oE,ko.qw,BC.qw]
   .cases he
 |qj p sz n=>cases he
 |mp K V es=>
  simp[kq,ah]at he;subst he;simp[kO,kq,ko.qw,ah,ko.mk.injEq,EO];unfold mpC;split
  .rfl
  .simp only[BC.qw,kH];rfl
 |qx y a x=>
  simp[kq]at he;simp[kO,kq,WP,he,bw]
 |qh y a x k p=>
  simp[kq]at he;simp[kO,kq,agn,he,bw]
def Dp {z:a8} (hrow:∀i r,eO h i=Z r->eO z (g i)=Z r) {b:fc} :∀{k:Nat},Pu h i k b=Z F->Pu z (g i) k (kO g b)=Z (F.qw (p_ g))
 |0,he=>aq0 hrow he
 |k+1,he=>by
  simp[Pu]at he ⊢;rw[VU,he];rfl
def FU (g:Nat->Nat) (a b:Y TV):li g (a++b)=li g a++li g b:=by
 rw[vJ,vJ,vJ,cg]
def rQ (g:Nat->Nat):∀(n:Nat) (T:Ty) (v:T.den) (l:Y TV),cellsOf n T v=Z l->li g l=l
 |0,_,_,_,he=>by simp[cellsOf]at he
 |n+1,.st t,v,l,he=>rQ g n t v l he
 |n+1,.pr a b,v,l,he=>by
  simp[cellsOf]at he;split at he
  next x y A z=>simp[ah]at he;subst he;rw[FU,rQ g n a v.1 x A,rQ g n b v.2 y z]
  .cases he
 |n+1,.un,v,l,he=>by simp[cellsOf,ah]at he;subst he;rfl
 |n+1,.ex,v,l,he=>rQ g n Rv (Sr v) l he
 |n+1,.sm,v,l,he=>rQ g n Q3 (Sq v) l he
 |n+1,.int k,v,l,he|n+1,.bool,v,l,he|n+1,.str,v,l,he|n+1,.sl t,v,l,he=>by simp[cellsOf,ah]at he;subst he;rfl
abbrev MX:Nat->Nat:=λi=>i
mutual
def ajl (g:Nat->Nat):∀(p:PV) (x:p.ty.den),nP g p x=(nP MX p x).map (li g)
 |.d T,x=>by
  simp only[nP];cases h:cellsOf 40 T x with
  |none=>rfl
  |some l=>simp only[bw,rQ g 40 T x l h]
 |.K i o,x|.qg i o z,x=>rfl
 |.qf q ps,x=>by simp only[nP,bw,li,BZ,vJ,kH];rfl
 |.ob i o,x|.nr i s,x|.I i,x|.mp i,x|.nil,x|.emp,x=>rfl
 |.agg ps,x=>Db g ps x
def Db (g:Nat->Nat):∀(ps:Y PV) (x:(PV.tyL ps).den),s8 g ps x=(s8 MX ps x).map (li g)
 |[],x=>rfl
 |p::r,x=>by
  simp only[s8];rw[ajl g p,Db g r];cases nP MX p (UW p.ty (PV.tyL r) x) with
  |none=>rfl
  |some a=>
   cases s8 MX r (SA p.ty (PV.tyL r) x) with
   |none=>rfl
   |some b=>simp only[bw,FU]
end
def av4 (o:M (Y TV)):M TV:=match o with|some l=>Z (.agg l)|none=>U
def amh (g:Nat->Nat) (o:M (Y TV)):av4 (o.map (li g))=(av4 o).map (BZ g):=by cases o<;>rfl
def ajk (g:Nat->Nat) (p:PV) (x:p.ty.den):r8 g p x=(r8 MX p x).map (BZ g):=by
 cases p with
 |agg z=>exact (d_ av4 (Db g z x)).trans (amh g _)
 |qf q z=>simp only[r8,bw,BZ,vJ,kH];rfl
 |_=>rfl
def vK (g:Nat->Nat):∀(z:Y PV) (x:(PV.tyL z).den),r7 g z x=(r7 MX z x).map (li g)
 |[],x=>rfl
 |p::r,x=>by
  simp[r7];rw[ajk g p,vK g r];cases r8 MX p (UW p.ty (PV.tyL r) x) with
  |none=>rfl
  |some a=>
   cases r7 MX r (SA p.ty (PV.tyL r) x) with
   |_=>rfl
def abi (ty:M TypeId) (o:M (Y TV)):M (M fc):=match o with|some l=>Z (Z (.G ty l))|none=>U
def abh (g:Nat->Nat) (ty:M TypeId) (o:M (Y TV)):abi ty (o.map (li g))=(abi ty o).map (ik (kO g)):=by cases o<;>rfl
def ajm (g:Nat->Nat) (b:PB) (x:b.ty.den):DC g b x=(DC MX b x).map (ik (kO g)):=by
 cases b with
 |G ty z=>exact (d_ (abi ty) (Db g z x)).trans (abh g ty _)
 |qx F a=>cases F<;>rfl
 |_=>rfl
def yC (g:Nat->Nat):∀(bs:Y PB) (x:(PB.tyL bs).den),ry g bs x=(ry MX bs x).map (im (ik (kO g)))
 |[],x=>rfl
 |b::r,x=>by
  simp[ry];rw[ajm g b,yC g r];cases DC MX b (UW b.ty (PB.tyL r) x) with
  |none=>rfl
  |some a=>grind
def FZ (g:Nat->Nat):∀(bs:Y PB) (x:(PB.tyL bs).den) (l:Y (M fc)),ry g bs x=Z l->l! l=l! bs
 |[],x,l,h=>by simp[ry,ah]at h;subst h;rfl
 |b::r,x,l,h=>by
  simp[ry]at h;split at h
  .split at h
   next q z=>simp[ah]at h;subst h;simp[FZ g r _ q z]
   .cases h
  .cases h
def Nl (h:a8) (i j:Nat):(kill h i).get j=if j=i then (h.get i).map vi else h.get j:=by
 unfold kill;cases z:h.get i with
 |none=>grind
 |some b=>rw[PT.get_set];rfl
def xu (g:Nat->Nat):∀(l:Y (M fc)) (i:Nat) (h:a8) (j:Nat),(∀k,k<l! l->j≠g (i+k))->(DL g i l h).get j=h.get j
 |[],i,h,j,_=>rfl
 |some c::r,i,h,j,z=>by
  rw[DL,xu g r (i+1) _ j (λk A=>by have:=z (k+1) (by grind);rwa [show i+1+k=i+(k+1) from by omega]),PT.get_set,av];exact z 0 (by simp)
 |none::r,i,h,j,z=>by
  rw[DL,xu g r (i+1) _ j (λk A=>by have:=z (k+1) (by grind);rwa [show i+1+k=i+(k+1) from by omega]),Nl,av];exact z 0 (by simp)
def xv (g:Nat->Nat):∀(l:Y (M fc)) (i:Nat) (h:a8),(∀a b,a<l! l->b<l! l->g (i+a)=g (i+b)->a=b)->∀(k:Nat) (c:M fc),l[k]? =Z c->(DL g i l h).get (g (i+k))=(match c with|some b=>Z b|none=>(h.get (g (i+k))).map vi)
 |[],i,h,_,k,c,A=>by simp at A
 |o::r,i,h,hinj,k,c,A=>by
  have hinj':∀a b,a<l! r->b<l! r->g (i+1+a)=g (i+1+b)->a=b:=λa b L I e=>by
   have:=hinj (a+1) (b+1) (by grind) (by grind) (by grind);omega
  cases k with
  |zero=>
   simp at A;subst A;have hne:∀k,k<l! r->g (i+0)≠g (i+1+k):=λk A e=>by
    have:=hinj 0 (k+1) (by simp) (by grind) (by grind);omega
   cases o with
   |some b=>rw[DL,xu g r (i+1) _ _ hne];simp[dQ];rw[PT.get_set,aC rfl]
   |none=>rw[DL,xu g r (i+1) _ _ hne];simp[dQ];rw[Nl,aC rfl]
  |succ k=>
   have z:r[k]? =Z c:=by grind
   have hne:g (i+(k+1))≠g i:=λe=>by
    have:=hinj (k+1) 0 (by grind) (by simp) (by omega);omega
   rw[show i+(k+1)=i+1+k from by omega]at hne ⊢;cases o with
   |some b=>
    rw[DL,xv g r (i+1) _ hinj' k c z];cases c with
    |some _=>rfl
    |none=>simp[PT.get_set,av hne]
   |none=>
    rw[DL,xv g r (i+1) _ hinj' k c z];cases c with
    |some _=>rfl
    |none=>simp[Nl,av hne]
def Ba (h' h:a8):Prop:=∀i r,eO h' i=Z r->eO h i=Z r
section get
variable {h h':a8} {H H':HF} {g:Nat->Nat}
def kh.agg {l':Y AV} (z:gX H H' r l') (hc:∀x∈l',x.isCell=J):kh H H' (.agg r) (.agg l'):=by
 intro φ E w v hrep hr;cases hr with
 |@agg _ vs hlen hcl hrr=>
  refine .agg (by rw[hlen,<-z.length]) hc λj y u A L=>?_
  let⟨x,I,hle⟩:=z.get j y A;exact hle φ E w u hrep (hrr j x u I L)
def Vo (hr:Ba h' h) {A:AV} (L:bX h (.I i)=Z y) (z:bX h' (.I i)=Z A):A=y:=by
 simp[bX]at L z;cases h1:eO h' i with
 |none=>rw[h1]at z;cases z
 |some r=>
  rw[hr i r h1]at L
  grind
def Mn {g:Nat->Nat}:∀{z:Y p?} {vs:Y TV},Mo g z vs=J->vs=z.map λp=>.K (g p.1) p.2
 |[],[],_=>rfl
 |[],_::_,h|_::_,[],h=>by simp[Mo]at h
 |(i,o)::r,v::vs,h=>by
  cases v with
  |K I A=>
   simp only[Mo,al]at h;rw[cD,<-Mn h.2,au h.1.1,au h.1.2]
  |_=>simp[Mo]at h
def LH (h:a8) (g:Nat->Nat):∀z:Y p?,cI h (z.map λp=>.K (g p.1) p.2)=Z (z.map λp=>.K (nm (g p.1)) p.2)
 |[]=>rfl
 |p::r=>by simp[cD,cI,bX,LH h g r]
mutual
def apq (d:rX H H') (hr:Ba h' h):∀(p:PV) (l:Y TV) (x:p.ty.den) (m:Nat) (r:Y TV) (cs:Y TV) (l' cs':Y AV),mP g h p l=Z (x,m,r)->nP g p x=Z cs->cI h l=Z l'->cI h' cs=Z cs'->Fx h H H' m->∃l1 l2,l'=l1++l2/\cI h r=Z l2/\gX H H' l1 cs'
 |.d T,l,x,m,r,cs,l',cs',hg,hp,hl,hc,gv=>by
  obtain⟨l1,l2,e1,e2,e3⟩:=r_ d 40 T l x m r l' hg hl gv;have:=(mR h' 40 T x cs hp).1;rw[hc]at this;cases this;exact⟨l1,l2,e1,e2,e3⟩
 |.K i q,l,x,m,r,cs,l',cs',hg,hp,hl,hc,gv=>by
  simp only[mP]at hg;split at hg
  .rename_i i' o' r';split at hg
   .rename_i hb;simp only[al]at hb;have e1:=au hb.1;have e2:=au hb.2;subst e1 e2;simp only[ah,aQ]at hg;obtain⟨_,_,rfl⟩:=hg;simp only[nP,ah]at hp;subst hp;obtain⟨y,l2,rfl,g1,g2⟩:=cV hl;simp only[bX,ah]at g1;subst g1;simp only[cI,bX,ah]at hc;subst hc;exact⟨[_],l2,rfl,g2,kh.refl d _,trivial⟩
   .cases hg
  .cases hg
 |.qg i q z,l,x,m,r,cs,l',cs',hg,hp,hl,hc,gv=>by
  simp only[mP]at hg;split at hg
  .rename_i i' o' z' r';split at hg
   .rename_i hb;simp only[al]at hb;have e1:=au hb.1.1;have e2:=au hb.1.2;have e3:=au hb.2;subst e1 e2 e3;simp only[ah,aQ]at hg;obtain⟨_,_,rfl⟩:=hg;simp only[nP,ah]at hp;subst hp;obtain⟨y,l2,rfl,g1,g2⟩:=cV hl;simp only[bX,ah]at g1;subst g1;simp only[cI,bX,ah]at hc;subst hc;exact⟨[_],l2,rfl,g2,kh.refl d _,trivial⟩
   .cases hg
  .cases hg
 |.qf q ps,l,x,m,r,cs,l',cs',hg,hp,hl,hc,gv=>by
  simp only[mP]at hg;split at hg
  .rename_i q' vs r';split at hg
   .rename_i hb;simp only[al]at hb;have e1:=au hb.1;have e2:=Mn hb.2;subst e1 e2;simp only[ah,aQ]at hg;obtain⟨_,_,rfl⟩:=hg;simp only[nP,ah]at hp;subst hp;obtain⟨y,l2,rfl,g1,g2⟩:=cV hl;simp only[bX,LH,ah]at g1;subst g1;simp only[cI,bX,LH,ah]at hc;subst hc;exact⟨[_],l2,rfl,g2,kh.refl d _,trivial⟩
   .cases hg
  .cases hg
 |.ob i q,l,x,m,r,cs,l',cs',hg,hp,hl,hc,gv=>by
  simp only[mP]at hg;split at hg
  .rename_i i' j' o' r';split at hg
   .rename_i hb;simp only[al]at hb;have e1:=au hb.1;have e2:=au hb.2;subst e1 e2;simp only[ah,aQ]at hg;obtain⟨rfl,_,rfl⟩:=hg;simp only[nP,ah]at hp;subst hp;obtain⟨y,l2,rfl,g1,g2⟩:=cV hl;simp only[bX,ah]at g1;subst g1;simp only[cI,bX,ah]at hc;subst hc;exact⟨[_],l2,rfl,g2,kh.refl d _,trivial⟩
   .cases hg
  .cases hg
 |.nr i q,l,x,m,r,cs,l',cs',hg,hp,hl,hc,gv=>by
  simp only[mP]at hg;split at hg
  .rename_i i' j' o' n' r';split at hg
   .rename_i hb;simp only[al]at hb;have e1:=au hb.1;have e2:=au hb.2;subst e1 e2;simp only[ah,aQ]at hg;obtain⟨rfl,_,rfl⟩:=hg;simp only[nP,ah]at hp;subst hp;obtain⟨y,l2,rfl,g1,g2⟩:=cV hl;simp only[bX,ah]at g1;subst g1;simp only[cI,bX,ah]at hc;subst hc;exact⟨[_],l2,rfl,g2,kh.refl d _,trivial⟩
   .cases hg
  .cases hg
 |.I i,l,x,m,r,cs,l',cs',hg,hp,hl,hc,gv=>by
  simp only[mP]at hg;split at hg
  .rename_i i' r';split at hg
   .rename_i hb;have e1:=au hb;subst e1;simp only[ah,aQ]at hg;obtain⟨_,_,rfl⟩:=hg;simp only[nP,ah]at hp;subst hp;obtain⟨y,l2,rfl,g1,g2⟩:=cV hl;obtain⟨y',l3,rfl,g3,g4⟩:=cV hc;simp only[cI,ah]at g4;subst g4;rw[Vo hr g1 g3];exact⟨[_],l2,rfl,g2,kh.refl d _,trivial⟩
   .cases hg
  .cases hg
 |.mp i,l,x,m,r,cs,l',cs',hg,hp,hl,hc,gv=>by
  simp only[mP]at hg;split at hg
  .rename_i i' r';split at hg
   .rename_i hb;have e1:=au hb;subst e1;simp only[ah,aQ]at hg;obtain⟨_,_,rfl⟩:=hg;simp only[nP,ah]at hp;subst hp;obtain⟨y,l2,rfl,g1,g2⟩:=cV hl;simp only[bX,ah]at g1;subst g1;simp only[cI,bX,ah]at hc;subst hc;exact⟨[_],l2,rfl,g2,kh.refl d _,trivial⟩
   .cases hg
  .cases hg
 |.nil,l,x,m,r,cs,l',cs',hg,hp,hl,hc,gv=>by
  simp only[mP]at hg;split at hg
  .simp only[ah,aQ]at hg;obtain⟨_,_,rfl⟩:=hg;simp only[nP,ah]at hp;subst hp;obtain⟨y,l2,rfl,g1,g2⟩:=cV hl;simp only[bX,ah]at g1;subst g1;simp only[cI,bX,ah]at hc;subst hc;exact⟨[_],l2,rfl,g2,kh.refl d _,trivial⟩
  .cases hg
 |.emp,l,x,m,r,cs,l',cs',hg,hp,hl,hc,gv=>by
  simp only[mP]at hg;split at hg
  .simp only[ah,aQ]at hg;obtain⟨_,_,rfl⟩:=hg;simp only[nP,ah]at hp;subst hp;obtain⟨y,l2,rfl,g1,g2⟩:=cV hl;simp only[bX,ah]at g1;subst g1;simp only[cI,bX,ah]at hc;subst hc;exact⟨[_],l2,rfl,g2,Le.nilEmp.toH d,trivial⟩
  .simp only[ah,aQ]at hg;obtain⟨_,_,rfl⟩:=hg;simp only[nP,ah]at hp;subst hp;obtain⟨y,l2,rfl,g1,g2⟩:=cV hl;simp only[bX,ah]at g1;subst g1;simp only[cI,bX,ah]at hc;subst hc;exact⟨[_],l2,rfl,g2,kh.refl d _,trivial⟩
  .cases hg
 |.agg ps,l,x,m,r,cs,l',cs',hg,hp,hl,hc,gv=>GG d hr ps l x m r cs l' cs' hg hp hl hc gv
def GG (d:rX H H') (hr:Ba h' h):∀(ps:Y PV) (l:Y TV) (x:(PV.tyL ps).den) (m:Nat) (r:Y TV) (cs:Y TV) (l' cs':Y AV),Ct g h ps l=Z (x,m,r)->s8 g ps x=Z cs->cI h l=Z l'->cI h' cs=Z cs'->Fx h H H' m->∃l1 l2,l'=l1++l2/\cI h r=Z l2/\gX H H' l1 cs'
 |[],l,x,m,r,cs,l',cs',hg,hp,hl,hc,gv=>by
  simp only[Ct,ah,aQ]at hg;obtain⟨_,_,rfl⟩:=hg;simp only[s8,ah]at hp;subst hp;simp only[cI,ah]at hc;subst hc;exact⟨[],l',rfl,hl,trivial⟩
 |p::ps,l,x,m,r,cs,l',cs',hg,hp,hl,hc,gv=>by
  simp only[Ct]at hg;split at hg
  .rename_i x1 m1 r1 h1;split at hg
   .rename_i x2 m2 r2 h2;cases hg;simp only[s8,vE,xm]at hp;split at hp
    .rename_i a ha;split at hp
     .rename_i b hb;cases hp;obtain⟨a',b',rfl,ea,eb⟩:=Fo hc;obtain⟨ga,gb⟩:=gv.or;obtain⟨l1,l2,rfl,q1,q2⟩:=apq d hr p l _ _ _ a l' a' h1 ha hl ea ga;obtain⟨l3,l4,rfl,q3,q4⟩:=GG d hr ps _ _ _ _ b l2 b' h2 hb q1 eb gb;exact⟨l1++l3,l4,by simp,q3,q2.append q4⟩
     .cases hp
    .cases hp
   .cases hg
  .cases hg
end
mutual
def afi:∀(p:PV) (x:p.ty.den) (cs:Y TV),nP g p x=Z cs->lE cs=J
 |.d T,x,cs,hp=>(mR PT.leaf 40 T x cs hp).2
 |.K i q,x,cs,hp|.qg i q z,x,cs,hp|.qf q ps,x,cs,hp|.ob i q,x,cs,hp|.nr i q,x,cs,hp|.I i,x,cs,hp|.mp i,x,cs,hp|.nil,x,cs,hp|.emp,x,cs,hp=>by simp only[nP,ah]at hp;subst hp;rfl
 |.agg ps,x,cs,hp=>Aj ps x cs hp
def Aj:∀(ps:Y PV) (x:(PV.tyL ps).den) (cs:Y TV),s8 g ps x=Z cs->lE cs=J
 |[],x,cs,hp=>by simp only[s8,ah]at hp;subst hp;rfl
 |p::ps,x,cs,hp=>by
  simp only[s8]at hp;split at hp
  .rename_i a ha;split at hp
   .rename_i b hb;cases hp;exact Yi (afi p _ a ha) (Aj ps _ b hb)
   .cases hp
  .cases hp
end
def apo (d:rX H H') (hr:Ba h' h) {p:PV} {v:TV} {x:p.ty.den} {y':AV} (L:wH g h p v=Z (x,m)) (hp:r8 g p x=Z u) (hy:bX h v=Z y) (A:bX h' u=Z y') (gv:Fx h H H' m):kh H H' y y':=by
 cases p with
 |d T=>
  simp only[r8,ah]at hp;subst hp;simp only[bX,ah]at A;subst A;exact (UD d L hy gv).1
 |agg ps=>
  simp only[wH]at L;split at L
  .cases L
  .rename_i hc;split at L
   .rename_i l hl;split at L
    .rename_i x1 m1 h1;cases L;simp only[r8]at hp;split at hp
     .rename_i cs hcs;cases hp;simp only[bX]at A;split at A
      .rename_i cs' hcs';cases A;let⟨e1,e2⟩:=Ks hl hy;let⟨l1,l2,q1,q2,q3⟩:=GG d hr ps l _ _ [] cs y.cs cs' h1 hcs e1 hcs' gv;simp only[cI,ah]at q2;subst q2;rw[kQ]at q1;subst q1;have hcell:∀x∈cs',x.isCell=J:=mT (uf hcs' (Aj ps _ cs hcs));cases v with
       |agg q=>
        simp only[bX]at hy;split at hy
        .cases hy;exact kh.agg q3 hcell
        .cases hy
       |f S z=>
        simp only[bX,ah]at hy;subst hy;have ho:S.one=af:=by simpa[TV.isC] using hc
        rw[Du]at q3;rw[sO S z ho];intro φ E w v hrep hrel;exact kh.agg q3 hcell φ E w v hrep (Le.aggF _ _ _ _ hrel)
       |qp q|undef|qy=>simp[TV.cs,TV.isC]at hl
       |sb q=>exact bT rfl hc
       |zl id jj=>cases hl
       |_=>simp[TV.isC]at hc
      .cases A
     .cases hp
    .cases L
   .cases L
 |K i q=>
  simp only[r8,ah]at hp;subst hp;simp only[wH]at L;split at L
  .rename_i h1;simp only[mP]at h1;split at h1
   .rename_i e;simp only[eX]at e;obtain⟨rfl,_⟩:=e;split at h1
    next hb=>simp only[al]at hb;have e1:=au hb.1;have e2:=au hb.2;subst e1 e2;simp only[bX,ah]at hy A;subst hy A;exact kh.refl d _
    .cases h1
   .cases h1
  .cases L
 |qg i q z=>
  simp only[r8,ah]at hp;subst hp;simp only[wH]at L;split at L
  .rename_i h1;simp only[mP]at h1;split at h1
   .rename_i e;simp only[eX]at e;obtain⟨rfl,_⟩:=e;split at h1
    next hb=>simp only[al]at hb;have e1:=au hb.1.1;have e2:=au hb.1.2;have e3:=au hb.2;subst e1 e2 e3;simp only[bX,ah]at hy A;subst hy A;exact kh.refl d _
    .cases h1
   .cases h1
  .cases L
 |qf q ps=>
  simp only[r8,ah]at hp;subst hp;simp only[wH]at L;split at L
  .rename_i h1;simp only[mP]at h1;split at h1
   .rename_i e;simp only[eX]at e;obtain⟨rfl,_⟩:=e;split at h1
    next hb=>simp only[al]at hb;have e1:=au hb.1;have e2:=Mn hb.2;subst e1 e2;simp only[bX,LH,ah]at hy A;subst hy A;exact kh.refl d _
    .cases h1
   .cases h1
  .cases L
 |I i=>
  simp only[r8,ah]at hp;subst hp;simp only[wH]at L;split at L
  .rename_i h1;simp only[mP]at h1;split at h1
   .rename_i e;simp only[eX]at e;obtain⟨rfl,_⟩:=e;split at h1
    next hb=>have e1:=au hb;subst e1;rw[Vo hr hy A];exact kh.refl d _
    .cases h1
   .cases h1
  .cases L
 |mp i=>
  simp only[r8,ah]at hp;subst hp;simp only[wH]at L;split at L
  .rename_i h1;simp only[mP]at h1;split at h1
   .rename_i e;simp only[eX]at e;obtain⟨rfl,_⟩:=e;split at h1
    next hb=>have e1:=au hb;subst e1;simp only[bX,ah]at hy A;subst hy A;exact kh.refl d _
    .cases h1
   .cases h1
  .cases L
 |nil=>
  simp only[r8,ah]at hp;subst hp;simp only[wH]at L;split at L
  .rename_i h1;simp only[mP]at h1;split at h1
   next e=>simp only[eX]at e;obtain⟨rfl,_⟩:=e;simp only[bX,ah]at hy A;subst hy A;exact kh.refl d _
   .cases h1
  .cases L
 |emp=>
  simp only[r8,ah]at hp;subst hp;simp only[wH]at L;split at L
  .rename_i h1;simp only[mP]at h1;split at h1
   next e=>simp only[eX]at e;obtain⟨rfl,_⟩:=e;simp only[bX,ah]at hy A;subst hy A;exact Le.nilEmp.toH d
   next e=>simp only[eX]at e;obtain⟨rfl,_⟩:=e;simp only[bX,ah]at hy A;subst hy A;exact kh.refl d _
   .cases h1
  .cases L
 |_=>
  simp only[r8,ah]at hp;subst hp;simp only[wH]at L;split at L
  .rename_i h1;simp only[mP]at h1;split at h1
   .rename_i e;simp only[eX]at e;obtain⟨rfl,_⟩:=e;split at h1
    next hb=>simp only[al]at hb;have e1:=au hb.1;have e2:=au hb.2;subst e1 e2;simp only[ah,aQ]at h1 L;obtain⟨rfl,_⟩:=L;obtain⟨rfl,_⟩:=h1;simp only[bX,ah]at hy A;subst hy A;exact kh.refl d _
    .cases h1
   .cases h1
  .cases L
def GA (d:rX H H') (hr:Ba h' h):∀(L:Y PV) (vs:Y TV) (x:(PV.tyL L).den) (m:Nat) (I:Y TV) (l l':Y AV),Cr g h L vs=Z (x,m)->r7 g L x=Z I->cI h vs=Z l->cI h' I=Z l'->Fx h H H' m->gX H H' l l'
 |[],[],x,m,I,l,l',z,hp,hl,A,gv=>by
  simp[r7,ah]at hp;subst hp;simp[cI,ah]at hl A;subst hl A;trivial
 |[],_::_,x,m,I,l,l',z,_,_,_,_|_::_,[],x,m,I,l,l',z,_,_,_,_=>by simp[Cr]at z
 |p::L,v::vs,x,m,I,l,l',z,hp,hl,A,gv=>by
  simp[Cr]at z;split at z
  .rename_i x1 m1 h1;split at z
   .rename_i x2 m2 h2;obtain⟨rfl,rfl⟩:=z;simp[r7,vE,xm]at hp;split at hp
    .rename_i a ha;split at hp
     next b hb=>simp[ah]at hp;subst hp;obtain⟨y,l2,rfl,e1,e2⟩:=cV hl;obtain⟨y',l3,rfl,e3,e4⟩:=cV A;let⟨ga,gb⟩:=gv.or;exact⟨apo d hr h1 ha e1 e3 ga,GA d hr L vs _ _ b l2 l3 h2 hb e2 e4 gb⟩
     .cases hp
    .cases hp
   .cases z
  .cases z
inductive BM (g:Nat->Nat) (h:a8) (m:Nat):fc->fc->Prop
 |H (ty:TypeId) (p:Bool) (T:Ty) (xs:List T.den):BM g h m (.H ty p T xs) (.H ty p T xs)
 |mp (K V:Ty) (es:List (K.den×V.den)):BM g h m (.mp K V es) (.mp K V es)
 |qx (F:uM) (a:Nat) (x:F.ty.den):BM g h m (.qx F a x) (.qx F a x)
 |G (ty:Option TypeId) (ps:List PV) (x:(PV.tyL ps).den) (l l2:List TV) (m':Nat) (hg:Ct g h ps l=Z (x,m',[])) (hp:s8 g ps x=Z l2) (hm:∀i,aM m' i=J->aM m i=J):BM g h m (.G ty l) (.G ty l2)
def BM.mono (hm:∀m2,aM m m2=J->aM i m2=J) {b c:fc} (h1:BM g h m b c):BM g h i b c:=by
 cases h1 with
 |H ty p T xs=>exact .H ty p T xs
 |mp K V es=>exact .mp K V es
 |qx F a x=>exact .qx F a x
 |G ty A x l I m' L hp z=>exact .G ty A x l I m' L hp λm2 hi=>hm m2 (z m2 hi)
def apr {b:PB} {x:b.ty.den} {c:fc} (A:Fk g h i b=Z (x,m)) (hp:DC g b x=Z (Z c)):∃b0,h.get (g i)=Z b0/\BM g h m b0 c:=by
 cases b with
 |H ty p T=>
  simp only[Fk]at A;split at A
  .rename_i ty' p' S xs I;split at A
   .rename_i L;simp[al,cU]at L;obtain⟨rfl,rfl⟩:=L;split at A
    next z hz=>obtain⟨rfl,rfl⟩:=A;obtain⟨e,rfl⟩:=je hz;cases e;simp[DC,ah]at hp;subst hp;exact⟨_,I,.H _ _ _ _⟩
    .cases A
   .cases A
  .cases A
 |qm ty T=>
  simp[Fk]at A;split at A
  .rename_i ty' p' S xs I;split at A
   .rename_i L;have L:ty=ty':=by grind
    subst L;split at A
    next z hz=>obtain⟨rfl,rfl⟩:=A;obtain⟨e,rfl⟩:=je hz;cases e;simp[DC,ah]at hp;subst hp;exact⟨_,I,.H _ _ _ _⟩
    .cases A
   .cases A
  .cases A
 |G ty ps=>
  simp[Fk]at A;split at A
  .rename_i ty' l I;split at A
   .rename_i L;have L:ty=ty':=by grind
    subst L;split at A
    .rename_i z m1 hz;obtain⟨rfl,rfl⟩:=A;simp[DC]at hp;split at hp
     next l2 hl2=>simp[ah]at hp;subst hp;exact⟨_,I,.G ty ps _ l l2 _ hz hl2 λ_ h=>h⟩
     .cases hp
    .cases A
   .cases A
  .cases A
 |mp K V=>
  simp[Fk]at A;split at A
  .rename_i K' V' es I;split at A
   next z hz=>obtain⟨rfl,rfl⟩:=A;obtain⟨e,rfl⟩:=je hz;cases e;simp[DC,ah]at hp;subst hp;exact⟨_,I,.mp _ _ _⟩
   .cases A
  .cases A
 |qx F a=>
  simp only[Fk]at A;split at A
  .rename_i F' a' z I;split at A
   .rename_i hF;subst hF;split at A
    next ha=>obtain⟨rfl,rfl⟩:=A;simp[DC,ah]at hp;subst hp;rw[au ha];exact⟨_,I,.qx _ _ _⟩
    .cases A
   .cases A
  .cases A
 |qd=>simp[DC]at hp
def Nm:∀(bs:Y PB) (i:Nat) (x:(PB.tyL bs).den) (m:Nat) (A:Y (M fc)),GJ g h i bs=Z (x,m)->ry g bs x=Z A->∀(k:Nat) c,A[k]? =Z (Z c)->∃b0,h.get (g (i+k))=Z b0/\BM g h m b0 c
 |[],i,x,m,A,z,hp,k,c,I=>by
  simp[ry,ah]at hp;subst hp;simp at I
 |b::r,i,x,m,A,z,hp,k,c,I=>by
  simp[GJ]at z;split at z
  .rename_i x1 m1 h1;split at z
   .rename_i x2 m2 h2;obtain⟨rfl,rfl⟩:=z;simp[ry,vE,xm]at hp;split at hp
    .rename_i a ha;split at hp
     .rename_i q L;simp[ah]at hp;subst hp;cases k with
      |zero=>
       simp at I;subst I;let⟨b0,e1,e2⟩:=apr h1 ha;exact⟨b0,e1,e2.mono λi hi=>by rw[bq,hi];rfl⟩
      |succ k=>
       let⟨b0,e1,e2⟩:=Nm r (i+1) _ _ q h2 L k c (by grind);rw[show i+1+k=i+(k+1) from by omega]at e1;exact⟨b0,e1,e2.mono λi hi=>by rw[bq,hi];simp⟩
     .cases hp
    .cases hp
   .cases z
  .cases z
end get
def WC {σ:PT Nat} (h:σ.get i=Z m):iv σ i=m:=by unfold iv;rw[h]
def ack {σ:PT Nat}:∀(n i acc sm:Nat),aj3 σ n i acc=Z sm->
 (∀k,k<n->aM acc (iv σ (i+k))=af)/\(∀a b,a<n->b<n->iv σ (i+a)=iv σ (i+b)->a=b)/\∀q,aM sm q=J↔aM acc q=J\/∃k,k<n/\iv σ (i+k)=q
 |0,i,acc,sm,h=>by
  simp[aj3,ah]at h
  grind
 |n+1,i,acc,sm,h=>by
  simp[aj3]at h;split at h
  .rename_i a L;split at h
   .cases h
   .rename_i hna;have hna:aM acc a=af:=by grind
    have hga:=WC L;let⟨h1,h2,h3⟩:=ack n (i+1) (acc|||gA a) sm h;have hne:∀k,k<n->iv σ (i+1+k)≠a/\aM acc (iv σ (i+1+k))=af:=λk A=>by
     have:=h1 k A;rw[bq,Bool.or_eq_false_iff]at this;refine ⟨λe=>?_,this.1⟩;have I:=this.2;rw[e]at I;rw[bm.2 rfl]at I;cases I
    refine ⟨λk A=>?_,λx y hx hy hxy=>?_,λq=>?_⟩
    .cases k with
     |zero=>rw[dQ,hga];exact hna
     |succ k=>rw[show i+(k+1)=i+1+k from by omega];exact (hne k (by omega)).2
    .cases x with
     |zero=>
      cases y with
      |zero=>rfl
      |succ y=>grind
     |succ x=>
      cases y with
      |_=>grind
    .rw[h3,bq,mZ];constructor
     .rintro ((z|z)|⟨k,A,z⟩)
      .exact .inl z
      .exact .inr ⟨0,by omega,by rw[dQ,hga];exact bm.1 z⟩
      .exact .inr ⟨k+1,by omega,by rw[show i+(k+1)=i+1+k from by omega];exact z⟩
     .rintro (z|⟨k,A,z⟩)
      .exact .inl (.inl z)
      .cases k with
       |zero=>rw[dQ,hga]at z;exact .inl (.inr (bm.2 z))
       |succ k=>exact .inr ⟨k,by omega,by rw[show i+1+k=i+(k+1) from by omega];exact z⟩
  .cases h
def WJ {σ:PT Nat}:∀(n:Nat),adz σ n=J->∀i,i<n->iv σ i=i
 |0,_,i,hi=>by omega
 |n+1,h,i,hi=>by
  simp[adz,al]at h;by_cases e:i=n
  .subst e;cases z:σ.get i with
   |none=>rw[z]at h;exact bT h.1 (by simp)
   |some a=>rw[z]at h;rw[WC z];exact au h.1
  .exact WJ n h.2 i (by omega)
structure L3 (np:Nat) (t:Tm) (vs:List TV) (h:a8) (z:t.ty.den) (m:Nat) (σ:PT Nat) (sm:Nat):Prop where
 ex:∃x m1 y m2,z=mkp _ _ x y/\m=m1|||m2/\Cr (iv σ) h t.vs vs=Z (x,m1)/\GJ (iv σ) h 0 t.bs=Z (y,m2)
 inj:∀a b,a<l! t.bs->b<l! t.bs->iv σ a=iv σ b->a=b
 sig:∀q,aM sm q=J↔∃k,k<l! t.bs/\iv σ k=q
 disj:∀i,aM m i=J->aM sm i=af
 fix:∀i,i<np->iv σ i=i
def yM {t:Tm} {z:t.ty.den} {σ:PT Nat} {sm:Nat} (hm:Fd i t j h=Z ⟨z,m,σ,sm⟩):L3 i t j h z m σ sm:=by
 unfold Fd at hm;rw[TY]at hm;split at hm
 .rename_i sm' hs;split at hm
  .rename_i x m1 h1;split at hm
   .rename_i y m2 h2;split at hm
    next A=>simp[al]at A;obtain⟨rfl,rfl,rfl,rfl⟩:=hm;let⟨g1,L,I⟩:=ack _ _ _ _ hs;simp only[bZ]at g1 L I;exact⟨⟨x,m1,y,m2,rfl,rfl,h1,h2⟩,L,λq=>by rw[I];simp,λnp hi=>AS A.1 np hi,WJ i A.2⟩
    .cases hm
   .cases hm
  .cases hm
 .cases hm
mutual
def ye {g:Nat->Nat} {h:a8}:∀(p:PV) (l:Y TV) (x:p.ty.den) (m:Nat) (r:Y TV),mP g h p l=Z (x,m,r)->dJ h m
 |.d T,l,x,m,r,hg=>xn 40 T l x m r hg
 |.K i q,l,x,m,r,hg|.qg i q z,l,x,m,r,hg|.ob i q,l,x,m,r,hg|.nr i q,l,x,m,r,hg|.qf q ps,l,x,m,r,hg|.I i,l,x,m,r,hg|.mp i,l,x,m,r,hg=>by
  simp only[mP]at hg;split at hg
  .split at hg
   .simp only[ah,aQ]at hg;obtain⟨_,rfl,_⟩:=hg;exact dJ.zero h
   .cases hg
  .cases hg
 |.nil,l,x,m,r,hg=>by
  simp only[mP]at hg;split at hg
  .simp only[ah,aQ]at hg;obtain⟨_,rfl,_⟩:=hg;exact dJ.zero h
  .cases hg
 |.emp,l,x,m,r,hg=>by
  simp only[mP]at hg;split at hg
  .simp only[ah,aQ]at hg;obtain⟨_,rfl,_⟩:=hg;exact dJ.zero h
  .simp only[ah,aQ]at hg;obtain⟨_,rfl,_⟩:=hg;exact dJ.zero h
  .cases hg
 |.agg ps,l,x,m,r,hg=>LQ ps l x m r hg
def LQ {g:Nat->Nat} {h:a8}:∀(ps:Y PV) (l:Y TV) (x:(PV.tyL ps).den) (m:Nat) (r:Y TV),Ct g h ps l=Z (x,m,r)->dJ h m
 |[],l,x,m,r,hg=>by
  simp only[Ct,ah,aQ]at hg;obtain⟨_,rfl,_⟩:=hg;exact dJ.zero h
 |p::ps,l,x,m,r,hg=>by
  simp only[Ct]at hg;split at hg
  .rename_i x1 m1 r1 h1;split at hg
   .rename_i x2 m2 r2 h2;simp only[ah,aQ]at hg;obtain⟨_,rfl,_⟩:=hg;exact (ye p l x1 m1 r1 h1).or (LQ ps r1 _ _ _ h2)
   .cases hg
  .cases hg
end
def aui {p:PV} {x:p.ty.den} (A:wH g h p u=Z (x,m)):dJ h m:=by
 cases p with
 |d T=>exact aer A
 |agg L=>
  simp only[wH]at A;split at A
  .cases A
  .split at A
   .split at A
    next x1 m1 h1=>simp only[ah,aQ]at A;obtain⟨_,rfl⟩:=A;exact LQ L _ _ _ _ h1
    .cases A
   .cases A
 |_=>
  simp only[wH]at A;split at A
  next h1=>simp only[ah,aQ]at A;obtain⟨_,rfl⟩:=A;exact ye _ _ _ _ _ h1
  .cases A
def TO :∀(A:Y PV) (vs:Y TV) (x:(PV.tyL A).den) (m:Nat),Cr g h A vs=Z (x,m)->dJ h m
 |[],[],x,m,z=>by obtain⟨_,rfl⟩:=z;exact dJ.zero h
 |[],_::_,x,m,z|_::_,[],x,m,z=>by simp[Cr]at z
 |p::A,v::vs,x,m,z=>by
  simp[Cr]at z;split at z
  .rename_i x1 m1 h1;split at z
   next I m2 L=>obtain⟨_,rfl⟩:=z;exact (aui h1).or (TO A vs I m2 L)
   .cases z
  .cases z
def auj {b:PB} {x:b.ty.den} (z:Fk g h i b=Z (x,m)):dJ h m:=by
 cases b with
 |G ty A=>
  simp[Fk]at z;split at z
  .split at z
   .split at z
    next h1=>obtain⟨_,rfl⟩:=z;exact LQ A _ _ _ _ h1
    .cases z
   .cases z
  .cases z
 |mp K V=>
  simp[Fk]at z;split at z
  .split at z
   .obtain⟨_,rfl⟩:=z;exact dJ.zero h
   .cases z
  .cases z
 |qd=>simp[Fk,ah,aQ]at z;obtain⟨_,rfl⟩:=z;exact dJ.zero h
 |_=>
  simp[Fk]at z;split at z
  .split at z
   .split at z
    .obtain⟨_,rfl⟩:=z;exact dJ.zero h
    .cases z
   .cases z
  .cases z
def TQ :∀(bs:Y PB) (i:Nat) (x:(PB.tyL bs).den) (m:Nat),GJ g h i bs=Z (x,m)->dJ h m
 |[],i,x,m,z=>by obtain⟨_,rfl⟩:=z;exact dJ.zero h
 |b::r,i,x,m,z=>by
  simp[GJ]at z;split at z
  .rename_i x1 m1 h1;split at z
   next A m2 I=>obtain⟨_,rfl⟩:=z;exact (auj h1).or (TQ r (i+1) A m2 I)
   .cases z
  .cases z
structure pY (t:Tm) (x:t.ty.den) (vs:List TV) (h1:a8) (l1:List (Option fc)):Prop where
 pv:r7 MX t.vs (UW _ _ x)=Z vs
 pb:ry MX t.bs (SA _ _ x)=Z l1
 len:l! l1=l! t.bs
 at_:∀i b,h1.get i=Z b↔l1[i]? =Z (Z b)
 ok:lM h1 vs=J
 lt:rT (l! t.bs) vs=J
 G:∀i ty l,h1.get i=Z (.G ty l)->lM h1 l=J/\rT (l! t.bs) l=J
 qx:∀i F a x,h1.get i=Z (.qx F a x)->a<l! t.bs
 nox:∀i F a x k p,h1.get i≠Z (.qh F a x k p)
def ake (l:Y (M fc)) (i:Nat) (b:fc):(DL MX 0 l PT.leaf).get i=Z b↔l[i]? =Z (Z b):=by
 by_cases hi:i<l! l
 .obtain⟨c,z⟩:∃c,l[i]? =Z c:=⟨l[i],aF hi⟩
  have:=xv MX l 0 PT.leaf (λa b _ _ e=>by simp[MX]at e;omega) i c z;rw[show MX (0+i)=i from by simp only[MX];omega]at this;rw[this,z];cases c with
  |some b'=>simp
  |none=>simp[PT.get]
 .rw[xu MX l 0 PT.leaf i (λk A=>by simp[MX];omega),eA (by omega)];simp[PT.get]
def yS {t:Tm} {x:t.ty.den} {vs:Y TV} {h1:a8} (hi:D' t x=Z (vs,h1)):∃I,pY t x vs h1 I:=by
 unfold D' at hi;split at hi
 .rename_i L hus;split at hi
  .rename_i h hh;split at hi
   .rename_i z;simp[al]at z;simp[ah,aQ]at hi;obtain⟨rfl,rfl⟩:=hi;unfold Q9 at hh;split at hh
    .rename_i I A;simp[ah]at hh;refine ⟨I,hus,A,FZ _ _ _ _ A,λi b=>?_,z.1.1,z.1.2,λi ty l hil=>?_,λi F a x hil=>?_,λi F a x k p hil=>?_⟩
     .rw[<- hh];exact ake I i b
     .have:=PT.get_all _ h 1 0 i _ z.2 hil
      grind
     .have:=PT.get_all _ h 1 0 i _ z.2 hil;simp_all
     .have:=PT.get_all _ h 1 0 i _ z.2 hil;cases this
    .cases hh
   .cases hi
  .cases hi
 .cases hi
def Ra (z:Nat) (n:Nat):Bool:=eK (ow n) z
def F0 :Ra i m=J↔ow m<i:=⟨λh=>aY h,λh=>bf h⟩
def Dd {k:Nat}:Ra m (jD i k)=J↔i<m:=by rw[F0,iI]
def H9 :Ra m (nm i)=J↔i<m:=by
 rw[F0,dj]
def Vq (h:m<i) (j sz n:Nat):(uP m j sz n).all (Ra i)=J:=by
 unfold uP;split
 .rfl
 .exact Dd.2 h
def apy {s:Sb} (h:s.id<i):(Lc s).all (Ra i)=J:=by
 cases s with
 |nr id j sz n=>exact Vq h _ _ _
 |nl=>rfl
 |_=>exact Dd.2 h
mutual
def aud {nb:Nat} {h:a8}:∀(v:TV) (y:AV),Jw nb v=J->bX h v=Z y->y.all (Ra nb)=J
 |.f _ _,y,_,he|.zf _ _ _ _ _,y,_,he=>by simp[bX,ah]at he;subst he;rfl
 |.zq id _ _ _,y,hl,he|.K id _,y,hl,he|.qg id _ _,y,hl,he=>by simp[bX,ah]at he;subst he;exact H9.2 (aY hl)
 |.I id,y,hl,he=>by
  simp[bX]at he;split at he
  .simp[ah]at he;subst he;unfold du;split
   .rfl
   .exact H9.2 (aY hl)
  .cases he
 |.zl id jj,y,hl,he=>by
  simp[bX]at he;split at he
  .simp[ah]at he;subst he;exact H9.2 (aY hl)
  .cases he
 |.emp,y,_,he|.nil,y,_,he=>by simp[bX,ah]at he;subst he;rfl
 |.mp id,y,hl,he=>by simp[bX,ah]at he;subst he;exact H9.2 (aY hl)
 |.agg l,y,hl,he|.qp l,y,hl,he|.qf q l,y,hl,he=>by
  simp[bX]at he;split at he
  .rename_i l' hl';simp[ah]at he;subst he;exact vC l l' hl hl'
  .cases he
 |.undef,y,_,he|.np,y,_,he|.qy,y,_,he=>by simp[bX,ah]at he;subst he;rfl
 |.sb s,y,hl,he=>by simp[bX,ah]at he;subst he;exact apy (aY hl)
def vC {nb:Nat} {h:a8}:∀(l:Y TV) (l':Y AV),rT nb l=J->cI h l=Z l'->AV.allL (Ra nb) l'=J
 |[],l',_,he=>by simp[cI,ah]at he;subst he;rfl
 |x::r,l',hl,he=>by
  obtain⟨y,l2,rfl,e1,e2⟩:=cV he;simp[rT,al]at hl;simp[AV.allL,al];exact⟨aud x y hl.1 e1,vC r l2 hl.2 e2⟩
end
def Dy :∀{l:Y AV},(∀x∈l,x.all p=J)->AV.allL p l=J
 |[],_=>rfl
 |x::r,h=>by
  simp[AV.allL,al];exact⟨h x (dK ..),Dy λy z=>h y (cY _ z)⟩
def Q5 (h:m<i) (sz:Nat):∀(I:η) (k:Nat),∀x∈lK m sz k I,x.all (Ra i)=J
 |[],_,x,z=>by cases z
 |l::r,k,x,z=>by
  rcases bh.1 z with rfl|z
  .exact Vq h _ _ _
  .exact Q5 h sz r (k+1) x z
def ale (h:m<i) {y:uM} {x:y.ty.den} (A:uF m y x=Z F):F.c.all (Ra i)=J:=by
 cases y with
 |zm ty=>
  simp only[uF]at A;split at A
  .cases A
  .simp[ah]at A;subst A;refine Dy λz I=>?_
   obtain⟨j,_,rfl⟩:=cC.1 I;exact Dd.2 h
 |zd=>
  simp[uF,ah]at A;subst A;refine Dy λz I=>?_
  obtain⟨q,hq,rfl⟩:=cC.1 I;obtain⟨e,_,rfl⟩:=cC.1 hq;exact Dd.2 h
 |rr ty sz=>
  simp[uF,ah]at A;subst A;exact Dy (Q5 h sz x 0)
 |_=>cases A
def alc (h:i<m) (k:Nat) (ty:TypeId) (S:Ty) (o:CZ S):(wK i k ty S o).c.all (Ra m)=J:=by
 unfold wK;split
 .refine Dy λz A=>?_
  rcases cq.1 A with A|A
  .obtain⟨q,_,rfl⟩:=cC.1 A;rfl
  .rcases bh.1 A with rfl|A
   .exact Dd.2 h
   .rw[aG.1 A];exact Dd.2 h
 .refine Dy λz A=>?_
  obtain⟨q,L,rfl⟩:=cC.1 A;obtain⟨e,_,rfl⟩:=cC.1 L;rfl
def ald (h:i<m) {k:Nat} {y:uM} {x:y.ty.den} (A:Lb i k y x=Z F):F.c.all (Ra m)=J:=by
 cases y with
 |ar ty S=>
  obtain⟨o,_,rfl⟩:=gz.1 A;exact alc h k ty S o
 |ir ty T=>
  let⟨o,_,z⟩:=Option.bind_eq_some_iff.1 A;unfold Z_ at z;split at z
  .cases z
  .cases z;rfl
 |_=>cases A
def pY.blk_all {t:Tm} {x:t.ty.den} {l1:Y (M fc)} (I:pY t x j h l1) {b:fc} (L:h.get i=Z b) (A:kq h b=Z F):F.c.all (Ra (l! t.bs))=J:=by
 cases b with
 |H ty p T xs=>
  simp only[kq]at A;split at A
  .cases A
  .simp[ah]at A;subst A;rfl
 |G ty l=>
  cases ty with
  |some ty=>
   simp[kq]at A;split at A
   next l' hl=>simp[ah]at A;subst A;exact vC l l' (I.G i _ l L).2 hl
   .cases A
  |none=>
   simp[kq]at A;split at A
   next l' hl=>simp[ah]at A;subst A;rfl
   .cases A
 |qj p sz n=>cases A
 |mp K V es=>
  simp[kq,ah]at A;subst A;unfold mpC;split
  .rfl
  .simp[BC.all,kH];have key:∀l:Y (K.den×V.den),AV.allL (Ra (l! t.bs)) (l.map ((λx=>x.2)∘λp=>(sF K p.1,AV.f (gq V p.2))))=J:=λl=>by
    induction l with
    |nil=>rfl
    |cons e r ih=>simp[cD,AV.allL,al];exact⟨rfl,ih⟩
   exact key es
 |qx y a z=>exact ale (I.qx i y a z L) A
 |qh y a z k p=>exact bT L (I.nox i y a z k p)
def pY.lt_len {t:Tm} {x:t.ty.den} {z:Y (M fc)} (I:pY t x j h z) {b:fc} (A:h.get i=Z b):i<l! t.bs:=by
 rw[<- I.len];exact (bz.1 ((I.at_ i b).1 A)).1
def φ1 (z:Nat) (g:Nat->Nat) (φ:PM):PM:=λn=>if Ra z n then φ (p_ g n) else U
def aij (hi:ow m<i):φ1 i g T m=T (p_ g m):=by
 unfold φ1;rw[aC (F0.2 hi)]
def Ae {k:Nat} (h:φ1 i g T m=Z k):ow m<i/\T (p_ g m)=Z k:=by
 unfold φ1 at h;split at h
 next hp=>exact⟨F0.1 hp,h⟩
 .cases h
def aps (inj:∀a b,a<i->b<i->g a=g b->a=b) {A:Nat} (h:ow m<i) (h':ow A<i) (e:p_ g m=p_ g A):m=A:=by
 let⟨e1,e2⟩:=vw e;rw[<- kK m,<-kK A,inj _ _ h h' e1,e2]
def pY.erHF {t:Tm} {x:t.ty.den} {l1:Y (M fc)} (I:pY t x j h l1) (hn:AI.erHF h i=Z F):ow i<l! t.bs/\F.c.all (Ra (l! t.bs))=J:=by
 let⟨c,L,A⟩:=iM hn;have hi:=I.lt_len L;refine ⟨hi,?_⟩;cases hk:ix i with
 |zero=>rw[hk]at A;exact I.blk_all L A
 |succ k=>
  rw[hk]at A;cases c with
  |qx y a z=>exact ald hi A
  |qh y a z k p=>exact bT L (I.nox _ y a z k p)
  |_=>cases A
structure ar5 (t:Tm) (x:t.ty.den) (vs:List TV) (h1:a8) (g:Nat->Nat) (φ:PM) (E E':Nat->Prop) (Hv:HF) (w:World):Prop where
 ql:sV (φ1 (l! t.bs) g φ) E' (erHF h1) w
 val:∀x v,x.all (Ra (l! t.bs))=J->ch φ (tot E φ Hv) w (x.qw (p_ g)) v->ch (φ1 (l! t.bs) g φ) (tot E' (φ1 (l! t.bs) g φ) (erHF h1)) w x v
 qr:∀k,own (φ1 (l! t.bs) g φ) (erHF h1) k->own φ Hv k
 tot_:∀k,tot E' (φ1 (l! t.bs) g φ) (erHF h1) k->tot E φ Hv k
def sV.toId {t:Tm} {x:t.ty.den} {l1:Y (M fc)} (I:pY t x j h l1) (inj:∀a b,a<l! t.bs->b<l! t.bs->g a=g b->a=b) {E':Nat->Prop} (r:sV T O A W)
 (hat:∀n y,AI.erHF h n=Z y->A (p_ g n)=Z (y.qw (p_ g)))
 (hE:∀k,E' k->tot O T A k) (hne:∀n k y,AI.erHF h n=Z y->T (p_ g n)=Z k->¬E' k) (hel:∀k,E' k->k<W.heap.size):ar5 t x j h g T O E' A W:=by
 have own1:∀k,own (φ1 (l! t.bs) g T) (erHF h) k->own T A k:=by
  rintro k ⟨n,y,h2,h3⟩;let⟨hi,L⟩:=Ae h3;exact⟨p_ g n,_,hat n y h2,L⟩
 have tot1:∀k,tot E' (φ1 (l! t.bs) g T) (erHF h) k->tot O T A k:=λk z=>z.elim (hE k) λh1=>.inr (own1 k h1)
 have val:∀x v,x.all (Ra (l! t.bs))=J->ch T (tot O T A) W (x.qw (p_ g)) v->ch (φ1 (l! t.bs) g T) (tot E' (φ1 (l! t.bs) g T) (erHF h)) W x v:=λx v hx hr=>by
  have h2:ch (φ1 (l! t.bs) g T) (tot O T A) W x v:=ch.renFrom (λi k hp z=>by unfold φ1;rw[aC hp];exact z) hr x hx rfl;exact h2.ext (λ_ _ h1=>h1) (Jd.refl _ W) λk _ z=>tot1 k z
 refine ⟨⟨λn n' b b' k Hv g2 g3 g4=>?_,λn y Hv=>?_,hel,λg' cells hg=>(r.gl g' cells hg).ext (Jd.refl _ W) λk _ z=>tot1 k z⟩,val,own1,tot1⟩
 .obtain⟨hi,L⟩:=Ae g3;let⟨hj,h5⟩:=Ae g4;exact aps inj hi hj (r.inj _ _ _ _ k (hat n _ Hv) (hat n' _ g2) L h5)
 .obtain⟨hi,hall⟩:=I.erHF Hv;let⟨k,p1,p2,ob,p3,p4⟩:=r.at_ _ _ (hat n y Hv);exact⟨k,by rw[aij hi];exact p1,hne n k y Hv p1,ob,p3,ii.renFrom val hall p4⟩
def BM.view {L:a8} {Hz':HF} (d:rX A Hz') (gv:Fx h A Hz' m) (hr:Ba L h) {b0 c:fc} (hb:BM g h m b0 c) {y':ko} (e0:kq h b0=Z F) (e1:kq L c=Z y'):gx A Hz' F y':=by
 cases hb with
 |H ty p T xs=>
  simp only[kq]at e0 e1;rw[e0]at e1;cases e1;exact gx.refl d F
 |G ty ps x l I m' hg hp hm=>
  have key:∀l' cs',cI h l=Z l'->cI L I=Z cs'->gX A Hz' l' cs'/\∀x∈cs',x.isCell=J:=λl' cs' Hz z=>by
   let⟨l1,l3,q1,q2,q3⟩:=GG d hr ps l x m' [] I l' cs' hg hp Hz z λi hi=>gv i (hm i hi)
   simp[cI,ah]at q2;subst q2;rw[kQ]at q1;subst q1;exact⟨q3,mT (uf z (Aj ps x I hp))⟩
  cases ty with
  |some ty=>
   simp[kq]at e0 e1;split at e0
   .rename_i l' Hz;simp[ah]at e0;subst e0;split at e1
    next cs' z=>simp[ah]at e1;subst e1;exact gx.G rfl rfl (key _ _ Hz z).1 (key _ _ Hz z).2
    .cases e1
   .cases e0
  |none=>
   simp[kq]at e0 e1;split at e0
   .rename_i l' Hz;simp[ah]at e0;subst e0;split at e1
    next cs' z=>simp[ah]at e1;subst e1;exact gx.none
    .cases e1
   .cases e0
 |_=>
  simp[kq]at e0 e1;rw[e0]at e1;cases e1;exact gx.refl d F
def BM.erB_some {A:a8} {nx:Nat} (hinv:gY h nx) {b0 c:fc} (h0:h.get i=Z b0) (L:BM g h m b0 c) (e1:kq A c=Z F):∃y,kq h b0=Z y:=by
 cases L with
 |G ty ps x l l2 m' hg hp hm=>
  let⟨l',I⟩:=fH h l (hinv.G i _ l h0);cases ty<;>exact⟨_,by simp[kq,I];rfl⟩
 |_=>exact⟨F,e1⟩
def BM.mem {b0 c:fc} (z:BM g h m b0 c) (i k:Nat):wX i k b0=wX i k c:=by cases z<;>rfl
def BM.I {b0 c:fc} (z:BM g h m b0 c):iH c=iH b0:=by
 cases z<;>rfl
structure rR (P:Program) (f:FuncId) (c:ci):Prop where
 zg:HL P f
 calls:∀x y,c.m x=Z y->∀vs hp l1 rs hq l2 la lr,pY c.pre x vs hp l1->pY c.post y rs hq l2->cI hp vs=Z la->cI hq rs=Z lr->
  ∀(φ:PM) (E:Nat->Prop) (w:World) (us:ξ),sV φ E (erHF hp) w->lG φ (tot E φ (erHF hp)) w la us->(∀n k,φ n=Z k->ow n<l! c.pre.bs)->
  Calls P f us.toArray w λen w'=>∃v φ',en= .returned v/\Jd (own φ (erHF hp)) w w'/\(∀k,k<w.heap.size->own φ' (erHF hq) k->own φ (erHF hp) k)/\(∀n,ow n<l! c.pre.bs->φ' n=φ n)/\sV φ' E (erHF hq) w'/\ch φ' (tot E φ' (erHF hq)) w' (FH lr) v
def Rd :∀(bs:Y PB) (x:(PB.tyL bs).den) (l:Y (M fc)),E6 bs=J->ry g bs x=Z l->∀(i:Nat) (c:M fc),l[i]? =Z c->∃b,c=Z b
 |[],x,l,_,hp,i,c,A=>by simp[ry,ah]at hp;subst hp;simp at A
 |b::r,x,l,I,hp,i,c,A=>by
  simp[ry]at hp;split at hp
  .rename_i a z;split at hp
   .rename_i q L;simp[ah]at hp;subst hp;cases i with
    |zero=>
     simp at A;subst A;cases b with
     |qd=>simp[E6]at I
     |G ty ps=>
      simp[DC]at z
      grind
     |_=>simp[DC,ah]at z;exact⟨_,z.symm⟩
    |succ i=>
     refine Rd r _ q ?_ L i c (by grind);cases b<;>first|exact I|simp[E6]at I
   .cases hp
  .cases hp
def Jm {A:a8} :∀n,vV h A g n=J->∀i,i<n->∀r,eO h (g i)=Z r->eO A (g i)=Z r
 |0,_,i,hi,_,_=>by omega
 |n+1,z,i,hi,r,I=>by
  simp[vV,al]at z;by_cases e:i=n
  .subst e;let⟨p,s,k⟩:=r;have h1:=z.1;rw[I]at h1;cases L:eO A (g i) with
   |none=>rw[L]at h1;cases h1
   |some q=>simp_all
  .exact Jm n z.2 i (by omega) r I
def lG.le {H':HF} (r:sV T O A W):∀{l l':Y AV} {z:ξ},gX A H' l l'->lG T (tot O T A) W l z->lG T (tot O T H') W l' z
 |[],[],[],_,_=>trivial
 |[],[],_::_,_,h|_::_,_::_,[],_,h|[],_::_,_,h,_|_::_,[],_,h,_=>h.elim
 |_::_,_::_,_::_,H,h=>⟨H.1 _ _ _ _ r h.1,lG.le r H.2 h.2⟩
def lG.toId {φ':PM} {O':Nat->Prop} (A:∀x v,x.all p=J->ch T O W (x.qw g) v->ch φ' O' W x v):∀{l:Y AV} {z:ξ},AV.allL p l=J->lG T O W (AV.renL g l) z->lG φ' O' W l z
 |[],[],_,_=>trivial
 |[],_::_,_,h|_::_,[],_,h=>h.elim
 |_::_,_::_,hp,h=>by
  simp[AV.allL,al]at hp;exact⟨A _ _ hp.1 h.1,lG.toId A hp.2 h.2⟩
def acs :∀{A:Y TV} {z:Y AV},cI h A=Z z->bX h (Vr A)=Z (FH z)
 |[],z,he=>by simp[cI,ah]at he;subst he;rfl
 |[x],z,he=>by
  obtain⟨y,I,rfl,e1,e2⟩:=cV he;simp[cI,ah]at e2;subst e2;exact e1
 |x::y::r,z,he=>by
  obtain⟨y1,I,rfl,e1,e2⟩:=cV he;obtain⟨L,l3,rfl,e3,e4⟩:=cV e2;simp[Vr,bX,he,FH]
def air (γ:Nat->Nat):∀l:Y AV,FH (AV.renL γ l)=(FH l).qw γ
 |[]|[x]|x::y::r=>rfl
def U7 :∀{l:Y AV},AV.allL p l=J->(FH l).all p=J
 |[],_=>rfl
 |[x],h=>by simp only[AV.allL,al]at h;exact h.1
 |x::y::r,h=>h
def ap0 {q:Nat}:aM (((1<<<m)-1)<<<i) q=J↔i<=q/\q<i+m:=by
 rw[Nat.testBit_shiftLeft,Nat.one_shiftLeft,Nat.testBit_two_pow_sub_one]
 grind
def aoy (l:ι) (B:Nat):ι:=l.flatMap λi=>(dA (B+1)).map λk=>jD i k
def VS {l:ι} :m∈aoy l i↔ow m∈l/\ix m<=i:=by
 unfold aoy;rw[xi];constructor
 .rintro⟨B,hi,z⟩;obtain⟨k,A,rfl⟩:=cC.1 z;rw[oX]at A;rw[iI,wy];exact⟨hi,by omega⟩
 .rintro⟨h1,I⟩;exact⟨ow m,h1,cC.2 ⟨ix m,oX.2 (by omega),kK m⟩⟩
mutual
def AV.all_and {p q:Nat->Bool}:∀x:AV,x.all p=J->x.all q=J->x.all (λn=>p n&&q n)=J
 |.f _,_,_=>rfl
 |.K _ _,h1,h2|.sl _ _ _,h1,h2|.I _ _ _,h1,h2|.mp _,h1,h2=>by simp only[AV.all]at h1 h2 ⊢;rw[h1,h2];rfl
 |.emp,_,_|.qy,_,_=>rfl
 |.agg l,h1,h2|.qp l,h1,h2|.qf _ l,h1,h2=>AV.allL_and l h1 h2
def AV.allL_and {p q:Nat->Bool}:∀l:Y AV,AV.allL p l=J->AV.allL q l=J->AV.allL (λn=>p n&&q n) l=J
 |[],_,_=>rfl
 |x::r,h1,h2=>by
  simp[AV.allL,al]at h1 h2 ⊢;exact⟨AV.all_and x h1.1 h2.1,AV.allL_and r h1.2 h2.2⟩
end
def BC.all_and {q:Nat->Bool} {c:BC} (h1:c.all p=J) (z:c.all q=J):c.all (λn=>p n&&q n)=J:=by
 cases c with
 |mx l=>exact AV.allL_and l h1 z
 |mp es=>exact AV.allL_and _ h1 z
 |_=>rfl
def YN (B n:Nat):Bool:=dY (ix n) B
def Gm {n:Nat} (h:i<=m) (z:YN i n=J):YN m n=J:=bf (c7 (aY z) h)
mutual
def AV.all_ix {B B':Nat} (h:B<=B'):∀x:AV,x.all (YN B)=J->x.all (YN B')=J
 |.f _,_=>rfl
 |.K _ _,h1|.sl _ _ _,h1|.I _ _ _,h1|.mp _,h1=>Gm h h1
 |.emp,_|.qy,_=>rfl
 |.agg l,h1|.qp l,h1|.qf _ l,h1=>AV.allL_ix h l h1
def AV.allL_ix {B B':Nat} (h:B<=B'):∀l:Y AV,AV.allL (YN B) l=J->AV.allL (YN B') l=J
 |[],_=>rfl
 |x::r,h1=>by
  simp[AV.allL,al]at h1 ⊢;exact⟨AV.all_ix h x h1.1,AV.allL_ix h r h1.2⟩
end
mutual
def AV.ix_ex:∀x:AV,∃B,x.all (YN B)=J
 |.f _=>⟨0,rfl⟩
 |.K n _|.sl n _ _|.I n _ _|.mp n=>⟨ix n,bf (bK _)⟩
 |.emp|.qy=>⟨0,rfl⟩
 |.agg l|.qp l|.qf _ l=>AV.ixL_ex l
def AV.ixL_ex:∀l:Y AV,∃B,AV.allL (YN B) l=J
 |[]=>⟨0,rfl⟩
 |x::r=>by
  obtain⟨a,ha⟩:=AV.ix_ex x;obtain⟨b,hb⟩:=AV.ixL_ex r;exact⟨a+b,by simp[AV.allL,al];exact⟨AV.all_ix (by omega) x ha,AV.allL_ix (by omega) r hb⟩⟩
end
def BC.ix_ex (c:BC):∃B,c.all (YN B)=J:=by
 cases c with
 |mx l=>exact AV.ixL_ex l
 |mp es=>exact AV.ixL_ex _
 |_=>exact⟨0,rfl⟩
def BC.all_ix (h:i<=m) {c:BC} (h1:c.all (YN i)=J):c.all (YN m)=J:=by
 cases c with
 |mx l=>exact AV.allL_ix h l h1
 |mp es=>exact AV.allL_ix h _ h1
 |_=>rfl
def LP (h:a8):∃B,∀n y,erHF h n=Z y->ix n<=B/\y.c.all (YN B)=J:=by
 let⟨A,hM⟩:=adc h;have key:∀a:Nat,∃B,∀n y,n<a->erHF h n=Z y->y.c.all (YN B)=J:=by
  intro a;induction a with
  |zero=>exact⟨0,λn y hn=>by omega⟩
  |succ a ih=>
   let⟨B,hB⟩:=ih;cases hx:erHF h a with
   |none=>exact⟨B,λn y hn I=>by
     by_cases e:n=a
     .grind
     .exact hB n y (by omega) I⟩
   |some z=>
    let⟨C,hC⟩:=BC.ix_ex z.c;exact⟨B+C,λn y hn I=>by
     by_cases e:n=a
     .subst e;rw[hx]at I;cases I;exact BC.all_ix (by omega) hC
     .exact BC.all_ix (by omega) (hB n y (by omega) I)⟩
 let⟨H,hH⟩:=gK h;let⟨L,hL⟩:=PT.bound H;let⟨B,hB⟩:=key L;refine ⟨A+B,λn y I=>⟨c7 (apz hM I) (by omega),BC.all_ix (by omega) (hB n y ?_ I)⟩⟩;rcases cN n L with h1|h1
 .exact h1
 .simp_all
variable {f:FuncId}
def am3 {o:Oper} {e:ia} {c:ci} (hinv:gY h i) (sp:rR P f c) {x:c.pre.ty.den} {σ:PT Nat} {sm:Nat} (A:L3 0 c.pre j h x m σ sm) {vs:Y TV} {hp:a8} {l1:Y (M fc)} (I:pY c.pre x vs hp l1) (hng:E6 c.pre.bs=J) {y:c.post.ty.den} (hm:c.m x=Z y) {rs:Y TV} {hq:a8} {l2:Y (M fc)} (D:pY c.post y rs hq l2) (hle:l! c.pre.bs<=l! c.post.bs)
 (glo:∀nx,nx<l! c.pre.bs->g nx=iv σ nx) (ghi:∀nx,l! c.pre.bs<=nx->g nx=i+(nx-l! c.pre.bs)) {h2:a8} (hh2:h2=DL g 0 (l2.map (ik (kO g))) (dM m h)) (hsr:vV h h2 g (l! c.pre.bs)=J) (hla:cI h j=Z r)
 (hexec:∀(φ:PM) (E:Nat->Prop) (h':HF) (w:World) (a:Act),(∀t,.tmp t∈o.op.operands->∀y,fQ e h t=Z y->ch φ (tot E φ h') w y (a.tmps.getD t undef))->sV φ E h' w->∃us:ξ,(execOp a.eval o).run P w= .ok (.enter f us.toArray) w/\lG φ (tot E φ h') w r us):
 fy P o af e h i (Vr (li g rs)) (sm|||m) (sm|||m|||(((1<<<(l! c.post.bs-l! c.pre.bs))-1)<<<i)) h2 (i+(l! c.post.bs-l! c.pre.bs)):=by
 let⟨x1,m1,x2,m2,hx,hmm,gv,gb⟩:=A.ex;have hmr:dJ h m:=by rw[hmm];exact (TO _ _ _ _ gv).or (TQ _ _ _ _ gb)
 generalize hnp:l! c.pre.bs=np at*
 generalize hnq:l! c.post.bs=nq at*
 have pvg:r7 (iv σ) c.pre.vs x1=Z (li (iv σ) vs):=by
  have h3:=vK (iv σ) c.pre.vs x1;have h4:=I.pv;rw[hx,vE]at h4;rw[h3,h4];rfl
 have pbg:ry (iv σ) c.pre.bs x2=Z (l1.map (ik (kO (iv σ)))):=by
  have h3:=yC (iv σ) c.pre.bs x2;have h4:=I.pb;rw[hx,xm]at h4;rw[h3,h4];rfl
 have hl1:∀nx,nx<np->∃b,l1[nx]? =Z (Z b):=λnx hi=>by
  have hi':nx<l! l1:=by rw[I.len,hnp];exact hi
  let⟨b,L⟩:=Rd c.pre.bs _ l1 hng I.pb nx l1[nx] (aF hi');exact⟨b,by rw[aF hi',L]⟩
 have hbm:∀nx b,l1[nx]? =Z (Z b)->∃b0,h.get (iv σ nx)=Z b0/\BM (iv σ) h m b0 (kO (iv σ) b):=λnx b L=>by
  let⟨b0,q1,q2⟩:=Nm c.pre.bs 0 x2 m2 _ gb pbg nx (kO (iv σ) b) (by rw[bE,L];rfl);rw[bZ]at q1;exact⟨b0,q1,q2.mono λl hj=>by rw[hmm,bq,hj];simp⟩
 have inj1:∀a b,a<np->b<np->iv σ a=iv σ b->a=b:=λa b ha L=>A.inj a b (by rw[hnp];exact ha) (by rw[hnp];exact L)
 have sig:∀q,aM sm q=J↔∃k,k<np/\iv σ k=q:=λq=>by rw[A.sig,hnp]
 have gnx:∀nx,nx<np->iv σ nx<i:=λnx hi=>by
  let⟨b,L⟩:=hl1 nx hi;let⟨b0,q1,_⟩:=hbm nx b L;exact hinv.low _ _ q1
 have hmS:∀nx,nx<np->aM m (iv σ nx)=af:=λnx hi=>by
  cases hx:aM m (iv σ nx) with
  |false=>rfl
  |true=>have:=A.disj _ hx;rw[(sig _).2 ⟨nx,hi,rfl⟩]at this;cases this
 have injg:∀a b,a<nq->b<nq->g a=g b->a=b:=λa b ha L hab=>by
  by_cases h1:a<np
  .by_cases h2:b<np
   .rw[glo a h1,glo b h2]at hab;exact inj1 a b h1 h2 hab
   .rw[glo a h1,ghi b (by omega)]at hab;have:=gnx a h1;omega
  .by_cases h2:b<np
   .rw[ghi a (by omega),glo b h2]at hab;have:=gnx b h2;omega
   .rw[ghi a (by omega),ghi b (by omega)]at hab;omega
 let hv:a8:=DL (iv σ) 0 (l1.map (ik (kO (iv σ)))) (dM m h)
 have hv_at:∀nx b,l1[nx]? =Z (Z b)->hv.get (iv σ nx)=Z (kO (iv σ) b):=λnx b L=>by
  have:=xv (iv σ) (l1.map (ik (kO (iv σ)))) 0 (dM m h) (λa b ha L=>by
   simp only[bx,I.len,hnp]at ha L;simp only[bZ];exact inj1 a b ha L) nx (Z (kO (iv σ) b)) (by rw[bE,L];rfl)
  rw[bZ]at this;exact this
 have hv_ne:∀l,(∀nx,nx<np->l≠iv σ nx)->hv.get l=(dM m h).get l:=λl hj=>
  xu (iv σ) _ 0 _ l λk hk=>by
   simp only[bx,I.len,hnp]at hk;rw[bZ];exact hj k hk
 have rows_in:Ba hv h:=λl la hr=>by
  rw[bB]at hr ⊢;by_cases hj:∃nx,nx<np/\l=iv σ nx
  .obtain⟨nx,hi,rfl⟩:=hj;let⟨b,L⟩:=hl1 nx hi;let⟨b0,q1,q2⟩:=hbm nx b L;rw[hv_at nx b L]at hr;rw[q1];simp only[aB]at hr ⊢;rw[<- q2.I];exact hr
  .rw[hv_ne l (λnx hi e=>hj ⟨nx,hi,e⟩),iL]at hr;split at hr
   next ht=>let⟨ty,p,T,xs,L⟩:=hmr l ht;rw[L]at hr ⊢;exact hr
   .exact hr
 have rows_hp:∀nx la,eO hp nx=Z la->eO hv (iv σ nx)=Z la:=λnx la hr=>by
  rw[bB]at hr ⊢;cases L:hp.get nx with
  |none=>rw[L]at hr;cases hr
  |some b=>
   rw[L]at hr;rw[hv_at nx b ((I.at_ nx b).1 L)];simp only[aB,Mf]at hr ⊢;exact hr
 have dead_m:∀nx,aM m nx=J->erHF hv (nm nx)=U:=λnx hi=>by
  rw[bG,hv_ne nx (λk hk e=>by rw[e,hmS k hk]at hi;cases hi)];let⟨p,sz,n,hd⟩:=vQ hmr hi;rw[hd];rfl
 have h2_at:∀nx cc,l2[nx]? =Z cc->h2.get (g nx)=(match cc with|some b=>Z (kO g b)|none=>((dM m h).get (g nx)).map vi):=λnx cc hc=>by
  have:=xv g (l2.map (ik (kO g))) 0 (dM m h) (λa b ha L=>by
   simp only[bx,D.len,hnq]at ha L;simp only[bZ];exact injg a b ha L) nx (cc.map (kO g)) (by rw[bE,hc];rfl)
  rw[bZ]at this;rw[hh2,this];cases cc<;>rfl
 have h2_ne:∀l,(∀nx,nx<nq->l≠g nx)->h2.get l=(dM m h).get l:=λl hj=>by
  rw[hh2];refine xu g _ 0 _ l λk hk=>?_
  simp only[bx,D.len,hnq]at hk;rw[bZ];exact hj k hk
 have rows_hq:∀nx la,eO hq nx=Z la->eO h2 (g nx)=Z la:=λnx la hr=>by
  rw[bB]at hr ⊢;cases L:hq.get nx with
  |none=>rw[L]at hr;cases hr
  |some b=>
   rw[L]at hr;rw[h2_at nx _ ((D.at_ nx b).1 L)];simp only[aB,Mf]at hr ⊢;exact hr
 have rows2:bW h h2:=λl la hr=>by
  by_cases hj:∃nx,nx<np/\l=iv σ nx
  .obtain⟨nx,hi,rfl⟩:=hj;rw[<- glo nx hi]at hr ⊢;exact Jm np hsr nx hi la hr
  .have hjn:l<i:=by
    rw[bB]at hr;cases L:h.get l with
    |none=>rw[L]at hr;cases hr
    |some b=>exact hinv.low l b L
   have:=bW.kill m h l la hr;rw[bB]at this ⊢;rw[h2_ne l (λnx hi e=>?_)]
   .exact this
   .by_cases hip:nx<np
    .exact hj ⟨nx,hip,by rw[e,glo nx hip]⟩
    .rw[ghi nx (by omega)]at e;omega
 let⟨lr,hlr⟩:=fH hq rs D.ok;let⟨lp,hlp⟩:=fH hp vs I.ok;have er2:∀n yb,erHF hq n=Z yb->erHF h2 (p_ g n)=Z (yb.qw (p_ g)):=λn yb hn=>by
  let⟨b,L,hyb⟩:=iM hn;unfold erHF;rw[xU,Au,h2_at _ _ ((D.at_ _ b).1 L)];exact Dp rows_hq hyb
 have er2':∀n,ow n<nq->∀z,erHF h2 (p_ g n)=Z z->∃yb,erHF hq n=Z yb/\z=yb.qw (p_ g):=λn hi z hz=>by
  have hi':ow n<l! l2:=by rw[D.len,hnq];exact hi
  have hcc:=aF hi';unfold erHF at hz;rw[xU,Au]at hz;cases hcv:l2[ow n] with
  |none=>
   rw[hcv]at hcc;rw[h2_at _ U hcc]at hz;simp only at hz;cases hkg:(dM m h).get (g (ow n)) with
   |none=>rw[hkg]at hz;cases hz
   |some b0=>rw[hkg]at hz;exact (ali hz).elim
  |some b=>
   rw[hcv]at hcc;have L:=(D.at_ _ b).2 hcc;rw[h2_at _ (Z b) hcc]at hz;have hz:Pu h2 (g (ow n)) (ix n) (kO g b)=Z z:=hz;have hyb:∃yb,Pu hq (ow n) (ix n) b=Z yb:=by
    cases hk:ix n with
    |zero=>
     rw[hk]at hz;cases b with
     |H ty p T xs=>exact⟨z,hz⟩
     |G ty q=>
      let⟨q',hq'⟩:=fH hq q (D.G _ _ q L).1;cases ty<;>exact⟨_,by simp only[Pu,kq,hq'];rfl⟩
     |qj p sz n=>cases hz
     |mp K V es=>exact⟨_,rfl⟩
     |qx F a x=>
      simp only[Pu,kO,kq,WP]at hz;let⟨y,hy,_⟩:=gz.1 hz;exact⟨y,hy⟩
     |qh F a x k p=>exact bT L (D.nox _ F a x k p)
    |succ k=>
     rw[hk]at hz;simp only[Pu,VU]at hz;let⟨y,hy,_⟩:=gz.1 hz;exact⟨y,hy⟩
   let⟨yb,hyb⟩:=hyb;rw[Dp rows_hq hyb]at hz;refine ⟨yb,?_,by cases hz;rfl⟩;unfold erHF;rw[L];exact hyb
 have dead2:∀nx,aM m nx=J->erHF h2 (nm nx)=U:=λnx hi=>by
  have hlt:=hmr.lt hinv hi;rw[bG,h2_ne nx (λk hk e=>?_)]
  .obtain⟨p,sz,n,hd⟩:=vQ hmr hi;rw[hd];rfl
  .by_cases hkp:k<np
   .rw[e,glo k hkp,hmS k hkp]at hi;cases hi
   .rw[ghi k (by omega)]at e;omega
 have inv2:gY h2 (i+(nq-np)):=by
  refine ⟨λl ty q hj=>?_,λl b hj=>?_⟩
  .by_cases hjg:∃nx,nx<nq/\l=g nx
   .obtain⟨nx,hi,rfl⟩:=hjg;have hi':nx<l! l2:=by rw[D.len,hnq];exact hi
    have hcc:=aF hi';cases hcv:l2[nx] with
    |none=>
     rw[hcv]at hcc;rw[h2_at nx U hcc]at hj;simp only at hj;cases hkg:(dM m h).get (g nx) with
     |none=>rw[hkg]at hj;cases hj
     |some b0=>rw[hkg]at hj;exact (Ce (fU hj)).elim
    |some b=>
     rw[hcv]at hcc;have L:=(D.at_ nx b).2 hcc;rw[h2_at nx (Z b) hcc]at hj;simp only[ah]at hj;cases b with
     |G ty' q'=>
      simp only[kO,fc.G.injEq]at hj;obtain⟨_,rfl⟩:=hj;let⟨z,hz⟩:=fH hq q' (D.G nx _ q' L).1;exact lY _ _ _ (qS rows_hq q' z hz)
     |_=>simp[kO]at hj
   .rw[h2_ne l (λnx hi e=>hjg ⟨nx,hi,e⟩)]at hj;refine fo rows2 q ?_;have hkk:=(hinv.kill m).G l _ q hj;rw[iL]at hj;split at hj
    next ht=>let⟨_,_,_,_,L⟩:=hmr l ht;rw[L]at hj;cases hj
    .exact hinv.G l _ q hj
  .by_cases hjg:∃nx,nx<nq/\l=g nx
   .obtain⟨nx,hi,rfl⟩:=hjg;by_cases hip:nx<np
    .rw[glo nx hip];have:=gnx nx hip;omega
    .rw[ghi nx (by omega)];omega
   .rw[h2_ne l (λnx hi e=>hjg ⟨nx,hi,e⟩)]at hj;have:=(hinv.kill m).low l b hj;omega
 let⟨B1,hB1⟩:=LP hp;let⟨B2,hB2⟩:=LP hq;let⟨B3,hB3⟩:=LP h;let⟨B4,hB4⟩:=LP h2;let⟨B5,hB5⟩:=AV.ixL_ex lr;obtain⟨B,eB⟩:∃B,B=B1+B2+B3+B4+B5:=⟨_,rfl⟩
 let S:ι:=aoy ((dA np).map (iv σ)) B
 have memS:∀n,n∈S↔(∃nx,nx<np/\ow n=iv σ nx)/\ix n<=B:=λn=>by
  simp only[S,VS,cC,oX];exact⟨λ⟨⟨nx,h1,h2⟩,h3⟩=>⟨⟨nx,h1,h2.symm⟩,h3⟩,λ⟨⟨nx,h1,h2⟩,h3⟩=>⟨⟨nx,h1,h2.symm⟩,h3⟩⟩
 let NN:ι:=aoy ((dA (nq-np)).map λt=>i+t) B
 have Ii:∀n,n∈NN↔(∃t,t<nq-np/\ow n=i+t)/\ix n<=B:=λn=>by
  simp only[NN,VS,cC,oX];exact⟨λ⟨⟨nx,h1,h2⟩,h3⟩=>⟨⟨nx,h1,h2.symm⟩,h3⟩,λ⟨⟨nx,h1,h2⟩,h3⟩=>⟨⟨nx,h1,h2.symm⟩,h3⟩⟩
 have memW:∀n,n∈S++Ju m++NN↔((∃nx,nx<nq/\ow n=g nx)/\ix n<=B)\/n∈Ju m:=λn=>by
  rw[cq,cq,memS,Ii];constructor
  .rintro ((⟨⟨nx,hi,e⟩,hk⟩|hn)|⟨⟨t,ht,e⟩,hk⟩)
   .exact .inl ⟨⟨nx,by omega,by rw[glo nx hi];exact e⟩,hk⟩
   .exact .inr hn
   .exact .inl ⟨⟨np+t,by omega,by rw[ghi _ (by omega),show np+t-np=t from by omega];exact e⟩,hk⟩
  .rintro (⟨⟨nx,hi,e⟩,hk⟩|hn)
   .by_cases hip:nx<np
    .exact .inl (.inl ⟨⟨nx,hip,by rw[<- glo nx hip];exact e⟩,hk⟩)
    .exact .inr ⟨⟨nx-np,by omega,by rw[e,ghi nx (by omega)]⟩,hk⟩
   .exact .inl (.inr hn)
 have gamS:∀n,ow n<np->ix n<=B->p_ (iv σ) n∈S:=λn hi hk=>(memS _).2 ⟨⟨ow n,hi,xU _ _⟩,by rw[Au];exact hk⟩
 have gamg:∀n,ow n<np->p_ g n=p_ (iv σ) n:=λn hi=>by unfold p_;rw[glo _ hi]
 have ungam:∀(g:Nat->Nat) (n nx:Nat),ow n=g nx->n=p_ g (jD nx (ix n)):=λg n nx e=>by rw[Do,<-e,kK]
 have hOpT:gC P o (fQ e h) (erHF h) ⟨FH (AV.renL (p_ g) lr),S++Ju m,S++Ju m++NN,erHF h2,NN⟩:=by
  intro φ E h' w a hrd hwr hops hrep hN;have hS':∀n,n∈S->h' n=erHF h n:=λn hn=>hrd _ (jV _ hn)
  have hM':∀nx,aM m nx=J->h' (nm nx)=erHF h (nm nx):=λnx hi=>hrd _ (vb _ (mG.2 hi))
  let⟨us,hrun,hrel⟩:=hexec φ E h' w a hops hrep
  let Hv:HF:=λn=>if n∈S++Ju m then erHF hv n else h' n
  have Hv_in:∀n,n∈S++Ju m->Hv n=erHF hv n:=λn hn=>by simp only[Hv,hn,bt]
  have Hv_out:∀n,n∉S++Ju m->Hv n=h' n:=λn hn=>by simp only[Hv,hn,dZ]
  have blkS:∀n,n∈S->∀z,erHF hv n=Z z->∃b0 c y0,h.get (ow n)=Z b0/\BM (iv σ) h m b0 c/\Pu h (ow n) (ix n) b0=Z y0/\Pu hv (ow n) (ix n) c=Z z:=λn hn z hz=>by
   let⟨⟨nx,hi,e⟩,_⟩:=(memS n).1 hn;let⟨b,L⟩:=hl1 nx hi;let⟨b0,q1,q2⟩:=hbm nx b L;unfold erHF at hz;rw[e,hv_at nx b L]at hz;have hz:Pu hv (iv σ nx) (ix n) (kO (iv σ) b)=Z z:=hz;rw[e];cases hk:ix n with
   |zero=>
    rw[hk]at hz;let⟨y0,hy0⟩:=BM.erB_some hinv q1 q2 hz;exact⟨b0,_,y0,q1,q2,hy0,hz⟩
   |succ k=>
    rw[hk]at hz;exact⟨b0,_,z,q1,q2,(q2.mem _ _).trans hz,hz⟩
  have hd:rX h' Hv:=λn b L=>by
   by_cases hn:n∈S++Ju m
   .rw[Hv_in n hn]at L;rcases cq.1 hn with hs|hs
    .obtain⟨b0,c,y0,q1,_,q4,_⟩:=blkS n hs b L;exact⟨y0,by rw[hS' n hs];unfold erHF;rw[q1];exact q4⟩
    .obtain⟨nx,rfl,hi⟩:=pt.1 hs;rw[dead_m nx hi]at L;cases L
   .rw[Hv_out n hn]at L;exact⟨b,L⟩
  have gvv:Fx h h' Hv m:=λnx hi=>⟨hM' nx hi,by rw[Hv_in _ (vb _ (mG.2 hi)),dead_m nx hi]⟩
  have V:O4 h' Hv:=⟨hd,λn b b' L hb'=>by
   by_cases hn:n∈S++Ju m
   .rw[Hv_in n hn]at hb';rcases cq.1 hn with hs|hs
    .obtain⟨b0,c,y0,q1,q3,q4,q5⟩:=blkS n hs b' hb';rw[hS' n hs]at L;unfold erHF at L;rw[q1]at L;have L:Pu h (ow n) (ix n) b0=Z b:=L;cases hk:ix n with
     |zero=>rw[hk]at L q5;exact BM.view hd gvv rows_in q3 L q5
     |succ k=>
      rw[hk]at L q5;have:=(q3.mem (ow n) k).symm.trans L;have q5:wX (ow n) k c=Z b':=q5;rw[q5]at this;cases this;exact gx.refl hd _
    .obtain⟨nx,rfl,hi⟩:=pt.1 hs;rw[dead_m nx hi]at hb';cases hb'
   .rw[Hv_out n hn,L]at hb';cases hb';exact gx.refl hd b⟩
  have hrepv:=V.ql hrep;have hlpg:cI hv (li (iv σ) vs)=Z (AV.renL (p_ (iv σ)) lp):=qS rows_hp vs lp hlp;have hrel1:lG φ (tot E φ Hv) w (AV.renL (p_ (iv σ)) lp) us:=
   lG.le hrep (GA hd rows_in c.pre.vs j x1 m1 _ r _ gv pvg hla hlpg (λnx hi=>gvv nx (by rw[hmm,bq,hi];rfl))) hrel
  let E':Nat->Prop:=λk=>E k\/∃n b,Hv n=Z b/\n∉S/\φ n=Z k
  have T:ar5 c.pre x vs hp (iv σ) φ E E' Hv w:=by
   refine sV.toId I (λa b ha L=>inj1 a b (by rw[<- hnp];exact ha) (by rw[<- hnp];exact L)) hrepv (λn yb hn=>?_) ?_ ?_ ?_
   .obtain⟨hi,_⟩:=I.erHF hn;rw[hnp]at hi;have hk:=(hB1 n yb hn).1;let⟨b,L,hyb⟩:=iM hn;rw[Hv_in _ (jV _ (gamS n hi (by omega)))];unfold erHF;rw[xU,Au,hv_at _ b ((I.at_ _ b).1 L)];exact Dp rows_hp hyb
   .rintro k (hE|⟨n,b,h1,_,h3⟩)
    .exact .inl hE
    .exact .inr ⟨n,b,h1,h3⟩
   .intro n0 k y0 hn0 h3 hE0;let⟨hi,_⟩:=I.erHF hn0;rw[hnp]at hi;have hk:=(hB1 n0 y0 hn0).1;have h1:Hv (p_ (iv σ) n0)=Z (y0.qw (p_ (iv σ))):=by
     let⟨b,L,hyb⟩:=iM hn0;rw[Hv_in _ (jV _ (gamS n0 hi (by omega)))];unfold erHF;rw[xU,Au,hv_at _ b ((I.at_ _ b).1 L)];exact Dp rows_hp hyb
    rcases hE0 with hE|⟨n,b',h4,h5,h6⟩
    .obtain⟨k',p1,p2,_⟩:=hrepv.at_ _ _ h1;rw[h3]at p1;cases p1;exact p2 hE
    .have:=hrepv.inj _ _ _ _ k h1 h4 h3 h6;exact h5 (by rw[<- this];exact gamS n0 hi (by omega))
   .rintro k (hE|⟨n,b,h1,_,h3⟩)
    .exact hrepv.el k hE
    .obtain⟨k',q1,_,ob,q3,_⟩:=hrepv.at_ n b h1;rw[h3]at q1;cases q1;exact (dw.1 q3).1
  have hcalls:=sp.calls x y hm vs hp l1 rs hq l2 lp lr I D hlp hlr (φ1 (l! c.pre.bs) (iv σ) φ) E' w us T.ql (lG.toId T.val (vC vs lp I.lt hlp) hrel1) (λn k hk=>(Ae hk).1);unfold Lv;rw[hrun];refine Calls.mono hcalls ?_;rintro en w' ⟨v,φc',rfl,hext,hown,hnm,rp,rv'⟩
  let isN:Nat->Prop:=λn=>n∈NN
  let φ':PM:=λn=>if n∈NN then φc' (jD (np+(ow n-i)) (ix n)) else φ n
  have φ'_old:∀n,n∉NN->φ' n=φ n:=λn hn=>by simp only[φ',hn,dZ]
  have loN:∀n,ow n<i->n∉NN:=λn hi hn=>by
   let⟨⟨t,_,e⟩,_⟩:=(Ii _).1 hn;omega
  have φ'_g:∀n,ow n<nq->ix n<=B->φ' (p_ g n)=φc' n:=λn hi hk=>by
   by_cases hip:ow n<np
   .rw[gamg n hip,φ'_old _ (loN _ (by rw[xU];exact gnx _ hip)),hnm n (by rw[hnp];exact hip),aij (by rw[hnp];exact hip)]
   .have hg:=ghi (ow n) (by omega);have:p_ g n∈NN:=(Ii _).2 ⟨⟨ow n-np,by omega,by rw[xU,hg]⟩,by rw[Au];exact hk⟩;simp only[φ',this,bt,xU,Au,hg];rw[show np+(i+(ow n-np)-i)=ow n from by omega,kK]
  have hsub:∀n k,φ n=Z k->φ' n=Z k:=λn k hk=>by
   by_cases hn:n∈NN
   .rw[hN n hn]at hk;cases hk
   .rw[φ'_old n hn];exact hk
  let F:HF:=fm h' (S++Ju m++NN) (erHF h2)
  have F_g:∀n,n∈S++Ju m++NN->F n=erHF h2 n:=λn hn=>by
   simp only[F,fm,hn,bt]
  have F_out:∀n,n∉S++Ju m++NN->F n=h' n:=λn hn=>by simp only[F,fm,hn,dZ]
  have from_:∀n b,F n=Z b->(∃nx yb,ow nx<nq/\ix nx<=B/\n=p_ g nx/\erHF hq nx=Z yb/\b=yb.qw (p_ g))\/(h' n=Z b/\Hv n=Z b/\n∉S/\n∉NN/\φ' n=φ n):=λn b L=>by
   by_cases hn:n∈S++Ju m++NN
   .rcases (memW n).1 hn with ⟨⟨nx,hi,e⟩,hk⟩|hs
    .rw[F_g n hn]at L;have e2:=ungam g n nx e;have ho:ow (jD nx (ix n))<nq:=by rw[iI];exact hi
     let⟨yb,q1,q2⟩:=er2' (jD nx (ix n)) ho b (by rw[<- e2];exact L);exact .inl ⟨jD nx (ix n),yb,ho,by rw[wy];exact hk,e2,q1,q2⟩
    .obtain⟨nx,rfl,hi⟩:=pt.1 hs;have:F (nm nx)=erHF h2 (nm nx):=by simp only[F,fm,hn,bt]
     rw[this,dead2 nx hi]at L;cases L
   .rw[F_out n hn]at L;have h1:n∉S++Ju m:=λhh=>hn (jV _ hh)
    have h3:n∉NN:=λhh=>hn (vb _ hh)
    exact .inr ⟨L,by rw[Hv_out n h1];exact L,λhh=>h1 (jV _ hh),h3,φ'_old n h3⟩
  have own':∀k,own φ' F k->own φc' (erHF hq) k\/∃n b,Hv n=Z b/\n∉S/\φ n=Z k:=by
   rintro k ⟨n,b,h1,h3⟩;rcases from_ n b h1 with ⟨nx,yb,hi,hk,rfl,q1,_⟩|⟨_,q2,q3,_,q5⟩
   .rw[φ'_g nx hi hk]at h3;exact .inl ⟨nx,yb,q1,h3⟩
   .exact .inr ⟨n,b,q2,q3,by rw[<- q5];exact h3⟩
  have mv:jU φ φ' h' F w w':=by
   refine ⟨hsub,hext.mono λk hk=>hd.own (T.qr k hk),λk hk ho=>?_⟩;rcases own' k ho with h1|⟨n,b,h1,_,h3⟩
   .exact hd.own (T.qr k (hown k hk h1))
   .exact hd.own ⟨n,b,h1,h3⟩
  have tot':∀k,tot E φ' F k->tot E' φc' (erHF hq) k:=by
   rintro k (h1|h1)
   .exact .inl (.inl h1)
   .rcases own' k h1 with h3|h3
    .exact .inr h3
    .exact .inl (.inr h3)
  let φr:PM:=λn=>if Ra nq n&&YN B n then φc' n else U
  have rel_r:∀x v,x.all (λn=>Ra nq n&&YN B n)=J->ch φc' (tot E' φc' (erHF hq)) w' x v->ch φr (tot E φ' F) w' x v:=λx v hx hr=>
   hr.restrict (λnx k hi hk=>by simp only[φr,hi,bt];exact hk) tot' hx
  have rel_g:∀x v,ch φr (tot E φ' F) w' x v->ch φ' (tot E φ' F) w' (x.qw (p_ g)) v:=λx v hr=>
   hr.renTo λn k hk=>by
    simp only[φr]at hk;split at hk
    next hpn=>simp only[al]at hpn;rw[φ'_g n (F0.1 hpn.1) (aY hpn.2)];exact hk
    .cases hk
  have hnqJ:=hnq;refine ⟨v,φ',rfl,mv,λn k hk=>?_,?_,?_⟩
  .by_cases hn:n∈NN
   .exact .inr hn
   .rw[φ'_old n hn]at hk;exact .inl hk
  .refine ⟨λn n' b b' k h1 h3 h4 h5=>?_,λn b h1=>?_,λk hk=>dv (hrep.el k hk) mv.ext.size,λg' cells hg=>mv.keepF (hrep.gl g' cells hg)⟩
   .rcases from_ n b h1 with ⟨nx,yb,hi,hik,rfl,hqi,_⟩|⟨q1,q2,q3,_,q5⟩
    .rw[φ'_g nx hi hik]at h4;rcases from_ n' b' h3 with ⟨l,yj,hj,hjk,rfl,t1,_⟩|⟨t1,t2,t3,_,t5⟩
     .rw[φ'_g l hj hjk]at h5;rw[rp.inj _ _ _ _ k hqi t1 h4 h5]
     .exfalso;let⟨k',p1,p2,_⟩:=rp.at_ _ _ hqi;rw[h4]at p1;cases p1;exact p2 (.inr ⟨n',b',t2,t3,by rw[<- t5];exact h5⟩)
    .rcases from_ n' b' h3 with ⟨l,yj,hj,hjk,rfl,hqj,_⟩|⟨t1,t2,t3,_,t5⟩
     .exfalso;rw[φ'_g l hj hjk]at h5;let⟨k',p1,p2,_⟩:=rp.at_ _ _ hqj;rw[h5]at p1;cases p1;exact p2 (.inr ⟨n,b,q2,q3,by rw[<- q5];exact h4⟩)
     .exact hrep.inj n n' b b' k q1 t1 (by rw[<- q5];exact h4) (by rw[<- t5];exact h5)
   .rcases from_ n b h1 with ⟨nx,yb,hi,hik,rfl,hqi,rfl⟩|⟨q1,q2,q3,_,q5⟩
    .obtain⟨k,p1,p2,ob,p3,p4⟩:=rp.at_ _ _ hqi;have hall:=(D.erHF hqi).2;rw[hnq]at hall;have hall2:=BC.all_and hall (BC.all_ix (show B2<=B by omega) (hB2 nx yb hqi).2);exact⟨k,by rw[φ'_g nx hi hik];exact p1,λhE=>p2 (.inl hE),ob,p3,(p4.restrict rel_r hall2).renTo rel_g⟩
    .obtain⟨k,p1,p2,ob,p3,p4⟩:=hrep.at_ n b q1;have hk:k<w.heap.size:=(dw.1 p3).1;refine ⟨k,hsub n k p1,p2,ob,?_,p4.mono λx v hr=>mv.zj hr⟩;rw[hext.jm k hk ?_]
     .exact p3
     .rintro⟨n',y',t1,t2⟩;let⟨hi,t3⟩:=Ae t2;rw[hnp]at hi;have hik:=(hB1 n' y' t1).1;have hvi:Hv (p_ (iv σ) n')=Z (y'.qw (p_ (iv σ))):=by
       let⟨bb,t4,t5⟩:=iM t1;rw[Hv_in _ (jV _ (gamS n' hi (by omega)))];unfold erHF;rw[xU,Au,hv_at _ bb ((I.at_ _ bb).1 t4)];exact Dp rows_hp t5
      have:=hrepv.inj _ _ _ _ k hvi q2 t3 p1;exact q3 (by rw[<- this];exact gamS n' hi (by omega))
  .have hall:(FH lr).all (λn=>Ra nq n&&YN B n)=J:=AV.all_and _ (U7 (by have:=vC rs lr D.lt hlr;rwa [hnq]at this)) (U7 (AV.allL_ix (by omega) lr hB5));show ch φ' (tot E φ' F) w' (FH (AV.renL (p_ g) lr)) v;rw[air];exact rel_g _ _ (rel_r _ _ hall rv')
 have hrsg:cI h2 (li g rs)=Z (AV.renL (p_ g) lr):=qS rows_hq rs lr hlr;refine ⟨⟨_,hOpT,λz hz=>?_,?_,λn hn=>?_,λn hn=>?_,λn hn=>?_⟩,rows2,inv2,by omega,nofun⟩
 .rw[acs hrsg]at hz;cases hz;rfl
 .funext n;unfold fm;split
  .rfl
  .rename_i hn;by_cases hg:∃nx,nx<nq/\ow n=g nx
   .have hB:¬ix n<=B:=λhk=>hn ((memW _).2 (.inl ⟨hg,hk⟩))
    have n1:∀H:a8,(∀y,erHF H n=Z y->ix n<=B)->erHF H n=U:=λH hH=>by
     cases hx:erHF H n with
     |none=>rfl
     |some y=>exact bT (hH y hx) hB
    rw[n1 h λy hy=>c7 (hB3 n y hy).1 (by omega),n1 h2 λy hy=>c7 (hB4 n y hy).1 (by omega)]
   .have hg2:=h2_ne (ow n) λnx hi e=>hg ⟨nx,hi,e⟩
    unfold erHF;rw[hg2,iL];split
    .rename_i L;let⟨ty,p,T,xs,hx⟩:=hmr _ L;rw[hx];cases hk:ix n with
     |zero=>exact bT ((memW _).2 (.inr (by rw[pI hk];exact mG.2 L))) hn
     |succ k=>rfl
    .cases hx:h.get (ow n) with
     |none=>rfl
     |some b=>exact (mo rows2 (λty j e=>hinv.G _ _ j (by rw[hx,e])) _ _).symm
 .rw[bq];rcases cq.1 hn with hs|hs
  .obtain⟨⟨nx,hi,e⟩,_⟩:=(memS n).1 hs;rw[(sig _).2 ⟨nx,hi,e.symm⟩];rfl
  .obtain⟨nx,rfl,hi⟩:=pt.1 hs;rw[dj,hi];simp
 .rw[bq,bq];rcases cq.1 hn with hs|hs
  .rcases cq.1 hs with hs|hs
   .obtain⟨⟨nx,hi,e⟩,_⟩:=(memS n).1 hs;rw[(sig _).2 ⟨nx,hi,e.symm⟩];rfl
   .obtain⟨nx,rfl,hi⟩:=pt.1 hs;rw[dj,hi];simp
  .obtain⟨⟨t,ht,e⟩,_⟩:=(Ii n).1 hs;rw[ap0.2 ⟨by omega,by omega⟩];simp
 .obtain⟨⟨t,ht,e⟩,_⟩:=(Ii n).1 hn;omega
def Df {xs:Y (CZ S)} (z:ef a (l! xs)=J):xs[a.toNat]? =Z (o8 _ xs a):=by
 let⟨_,_,h⟩:=mM z;unfold o8
 grind
def Vx {xss:Y (Y S.den)} (z:ef a (l! xss)=J):xss[a.toNat]? =Z (BG xss a):=by
 let⟨_,_,h⟩:=mM z;unfold BG
 grind
variable {z:η}
def V0 (A:ef a (l! z)=J):z[a.toNat]? =Z (Zz z a):=by
 let⟨_,_,h⟩:=mM A;unfold Zz
 grind
def DJ (id:Nat) (S:Ty) (j:Int) (o:CZ S):Y AV:=(bI S o.1).map .f++[.mp (jD id (3*j.toNat+2)),.mp (jD id (3*j.toNat+3))]
def asn {xs:Y (CZ S)} (A:h.get i=Z (.qx (.ar s S) m xs)) {j:Int} (z:ef j (l! xs)=J):erHF h (qA i j)=Z ⟨s,.mx (DJ i S j (o8 _ xs j))⟩:=by
 unfold qA;rw[kC,A];show rM i (3*j.toNat) s S xs=_;unfold rM;rw[show 3*j.toNat/3=j.toNat from by omega,Df z];simp only[bw,wK];rw[aC (by omega)];rfl
def asm {xs:Y (CZ S)} (A:h.get i=Z (.qx (.ar s S) m xs)) {j:Int} (z:ef j (l! xs)=J) {b:Nat} (L:b<2):erHF h (jD i (3*j.toNat+2+b))=Z ⟨0,.mp (Ij (Bg b (o8 _ xs j)))⟩:=by
 rw[show 3*j.toNat+2+b=3*j.toNat+1+b+1 from by omega,kC,A];show rM i (3*j.toNat+1+b) s S xs=_;unfold rM;rw[show (3*j.toNat+1+b)/3=j.toNat from by omega,Df z];simp[bw,wK];rw[av (by omega)];rcases cN b 1 with I|I
 .have:b=0:=by omega
  subst this;rw[aC (by omega)];rfl
 .have:b=1:=by omega
  subst this;rw[av (by omega)];rfl
def adn {xss:Y (Y S.den)} (A:h.get i=Z (.qx (.ir s S) m xss)) {j:Int} (z:ef j (l! xss)=J) (I:l! (BG xss j)≠0):erHF h (jD i (j.toNat+1))=Z ⟨s,.fz ((BG xss j).flatMap (bI S))⟩:=by
 rw[kC,A];show rL j.toNat s S xss=_;unfold rL;rw[Vx z];simp[aB,Z_]
 grind
def yB (a sz:Nat):∀(z:η) (k j:Nat),(lK a sz k z)[j]? =(z[j]?).map λl=>uP a (k+j) sz l.toNat
 |[],_,_|l::r,k,0=>by simp[lK]
 |l::r,k,j+1=>by
  simp[lK,BE,yB a sz r (k+1) j]
  grind
abbrev i2:Y TypeDesc:=[.int .i64,.int .i64]
def Tj {b:Int} (z:akh u=Z (a,b)) (I:bX h u=Z y):afs i2 y=Z [.int .i64 a,.int .i64 b]:=by
 unfold akh at z;split at z
 .cases z
 .split at z
  .rename_i a' b' L;simp[ah,aQ]at z;obtain⟨rfl,rfl⟩:=z;have h1:=(Ks L I).1;simp[cI,bX,ah]at h1;have A:y.cs=[.f (.raw (.int .i64 a')),.f (.raw (.int .i64 b'))]:=h1.symm;cases y with
   |agg l=>
    subst A;rfl
   |f x=>
    cases x with
    |agg l=>
     cases l with
     |nil=>cases A
     |cons v l=>
      cases l with
      |nil=>cases A
      |cons w l=>
       cases l with
       |nil=>cases A;rfl
       |cons _ _=>cases A
    |_=>cases A
   |_=>cases A
  .cases z
def EW (k z:ν):D8 i2 [.int .i64 k.1,.int .i64 k.2] (afu z)=Z (keq k z):=by
 unfold D8 afu keq;simp[cD,C6,jL,wL,cj,bt]
 grind
def Vj (a:Nat) (k:ν):∀es:Y s?,Jo i2 [.int .i64 k.1,.int .i64 k.2] (w7 a es)=Z (match aow k es with|true=>Z (.K (qA a (ajy k es)) 0)|false=>U)
 |[]=>rfl
 |e::r=>by
  have z:=Vj a k r;unfold w7 at z ⊢;simp[cD,Jo,EW,aow,ajy];cases A:keq k e.1 with
  |true=>rfl
  |false=>simp[Bool.false_or];exact z
def acr (a:Nat) (k:ν):∀es:Y s?,Y7 i2 [.int .i64 k.1,.int .i64 k.2] (w7 a es)=Z (w7 a (ajz k es))
 |[]=>rfl
 |e::r=>by
  have z:=acr a k r;unfold w7 at z ⊢;simp[cD,Y7,EW,ajz];cases A:keq k e.1 with
  |true=>rfl
  |false=>simp only[z];rfl
def LM {k z:ν}:keq k z=J↔k=z:=by
 unfold keq
 grind
def acq (a:Nat) (k:ν) (v:AV):∀es:Y s?,Y6 i2 [.int .i64 k.1,.int .i64 k.2] v (w7 a es)=Z (ND a k v es)
 |[]=>rfl
 |e::r=>by
  have A:=acq a k v r;unfold w7 at A ⊢;simp[cD,Y6,EW,ND];cases z:keq k e.1 with
  |true=>rw[aC (LM.1 z)];rfl
  |false=>rw[av (λh=>by rw[LM.2 h]at z;cases z)];simp[A]
section ops
variable {R:Type} {P:Program} {bY:TypeId->M Ty} {o:Oper} {e:ia} {h:a8} {nx:Nat} {K:KO R} {r:R} (hinv:gY h nx) (hi:s7 e h)
include hinv hi
def ax6 {st:Bool} (L:cM P o.op=Z (.jw b c)) (A:pW bY e h nx K (.jw b c)=Z r):iW P o st e h nx K r:=by
 simp[pW]at A;split at A
 next I=>let⟨y,h1,z⟩:=bc hi I;simp[bX,Lc,ah]at z;subst z;exact iW.q (k:=0) hinv L (λH _=>by simp[dE,h1];rfl) (cK rfl) A
 next I=>let⟨y,h1,z⟩:=bc hi I;simp[bX,ah]at z;subst z;exact iW.q (k:=0) hinv L (λH _=>by simp[dE,h1];rfl) (cK rfl) A
 next I=>let⟨y,h1,z⟩:=bc hi I;simp[bX,ah]at z;subst z;exact iW.q (k:=0) hinv L (λH _=>by simp[dE,h1];rfl) (cK rfl) A
 .cases A
def ax3 (hc:cM P o.op=Z (.jz c)) (I:pW bY e h nx K (.jz c)=Z r):iW P o b e h nx K r:=by
 simp[pW]at I;split at I
 next L=>let⟨y,h1,A⟩:=bc hi L;have z:=A;simp[bX,Lc,ah]at A;subst A;exact iW.q (k:=0) hinv hc (λH _=>by simp[dE,h1]) (cK z) I
 next L=>let⟨y,h1,A⟩:=bc hi L;have z:=A;simp[bX,Lc,ah]at A;subst A;exact iW.q (k:=0) hinv hc (λH _=>by simp[dE,h1]) (cK z) I
 .cases I
def aBj (L:cM P o.op=Z (.jp i c)) (z:pW bY e h nx K (.jp i c)=Z r):iW P o b e h nx K r:=by
 simp[pW]at z;split at z
 next I=>let⟨y,h1,A⟩:=bc hi I;simp[bX,Lc,ah]at A;subst A;exact iW.q (k:=0) hinv L (λH _=>by simp[dE,h1,Lc]) (cK rfl) z
 next I=>let⟨y,h1,A⟩:=bc hi I;simp[bX,Lc,ah]at A;subst A;exact iW.q (k:=0) hinv L (λH _=>by simp[dE,h1,Lc,jA]) (cK rfl) z
 .cases z
def ax5 (hc:cM P o.op=Z (.load i b c)) (A:pW bY e h nx K (.load i b c)=Z r):iW P o af e h nx K r:=by
 obtain⟨H,hH⟩:=gK h;simp only[pW]at A;split at A
 .rename_i id j off hv;obtain⟨y,h1,h2⟩:=bc hi hv;simp only[bX,Lc,ah]at h2;subst h2;split at A
  .rename_i ty S a xs hb;have L:=cG A;clear A;obtain⟨hj,A⟩:=L;have hg:H.get (qA id j)=Z ⟨ty,.mx (DJ id S j (o8 S xs j))⟩:=by rw[hH];exact asn hb hj
   have hrd:∀n∈[qA id j],aM (gA id) (ow n)=J:=λn hn=>by
    simp only[aG]at hn;subst hn;unfold qA;rw[iI];exact bm.2 rfl
   split at A
   .cases A
   .rename_i hag;have hag:b=af:=by grind
    subst hag;have sub1:∀y,(DJ id S j (o8 S xs j))[off]? =Z y->(BC.mx (DJ id S j (o8 S xs j))).sub? off 1 af=Z y:=λy hy=>hy
    split at A
    .rename_i ho;split at A
     .rename_i v hv2;obtain⟨p1,z,p2,p3,_⟩:=uD h 40 S _ off i af v hv2;obtain⟨rfl,p5⟩:=p3 rfl;have I:=sub1 (.f z) (by
       unfold DJ;rw[b8 (by grind),bE,p5];rfl)
      exact⟨_,_,_,_,_,A,fy.pure (k:=0) hinv hc hH (y0:=.f z) (rdl:=[qA id j]) (by simp only[dE,h1,xQ,hg,I]) (cK p2) hrd nofun⟩
     .cases A
    .rename_i ho;split at A
     .rename_i hq;simp only[al]at hq;have q1:=au hq.1;have q2:=aY hq.2;subst q1;have ho:S.size<=off:=by simp_all
      have I:=sub1 (.mp (jD id (3*j.toNat+2+(off-S.size)))) (by
       unfold DJ;rw[bS (by rw[bx,bk];exact ho),bx,bk];rcases cN (off-S.size) 1 with h3|h3
       .grind
       .rw[show off-S.size=1 from by omega];rfl)
      exact⟨_,_,_,_,_,A,fy.pure (k:=0) hinv hc hH (y0:=.mp (jD id (3*j.toNat+2+(off-S.size)))) (rdl:=[qA id j]) (by simp only[dE,h1,xQ,hg,I]) (cK rfl) hrd nofun⟩
     .cases A
  .cases A
 .rename_i id j s sz off hv;obtain⟨y,h1,h2⟩:=bc hi hv;simp only[bX,Lc,ah]at h2;subst h2;split at A
  .rename_i ty T a xss hb;split at A
   .rename_i I;have I:=au I;subst I;obtain⟨hj,A⟩:=cG A;obtain⟨hji,A⟩:=cG A;split at A
    .rename_i v hv2;obtain⟨z,p1,p2⟩:=aiy hji hv2;have hne:l! (BG (T:=T) xss j)≠0:=by have:=(mM hji).2.2;omega
     have hg:H.get (jD id (j.toNat+1))=Z ⟨ty,.fz ((BG (T:=T) xss j).flatMap (bI T))⟩:=by rw[hH];exact adn hb hj hne
     exact⟨_,_,_,_,_,A,fy.pure (k:=0) hinv hc hH (y0:=.f z) (rdl:=[jD id (j.toNat+1)]) (by simp only[dE,h1,xQ,hg,p2]) (cK p1) (λn hn=>by
      simp only[aG]at hn;subst hn;rw[iI];exact bm.2 rfl) nofun⟩
    .cases A
   .cases A
  .cases A
 .rename_i id s j off hv;obtain⟨y,h1,h2⟩:=bc hi hv;simp only[bX,ah]at h2;subst h2;split at A
  .rename_i hq;simp only[al,cS]at hq;obtain⟨⟨q1,q2⟩,q3,q4⟩:=hq;have q1:=au q1;have q3:=au q3;have q4:=au q4;subst q1 q2 q3 q4;have hrd:∀n∈[nm id],aM (gA id) (ow n)=J:=λn hn=>by
    simp only[aG]at hn;subst hn;rw[dj];exact bm.2 rfl
   split at A
   .rename_i ty a js hb;have L:=cG A;clear A;obtain⟨hj,A⟩:=L;have hlen:aj (α:=Int) js≠0:=by have:=(mM hj).2.2;omega
    have hg:H.get (nm id)=Z ⟨ty,.mx (im (λj=>.K (qA a j) 0) js)⟩:=by
     rw[hH,bG,hb];simp only[aB,kq,uF]
     grind
    have I:(BC.mx (im (λj=>AV.K (qA a j) 0) js)).sub? (j.toNat*1+0) 1 af=Z (.K (qA a (Zz js j)) 0):=by
     simp only[BC.sub?,BC.get,HO,dQ];exact (bE (f:=λj:Int=>AV.K (qA a j) 0) (l:=js) (i:=j.toNat)).trans (d_ (ik λj=>AV.K (qA a j) 0) (V0 hj))
    exact⟨_,_,_,_,_,A,fy.pure (k:=0) hinv hc hH (y0:=.K (qA a (Zz js j)) 0) (rdl:=[nm id]) (by simp only[dE,h1,xQ,hg,I]) (cK rfl) hrd nofun⟩
   .rename_i ty z a ls hb;have L:=cG A;clear A;obtain⟨hj,A⟩:=L;have hg:H.get (nm id)=Z ⟨ty,.mx (lK a z 0 ls)⟩:=by
     rw[hH,bG,hb];rfl
    have I:(BC.mx (lK a z 0 ls)).sub? (j.toNat*1+0) 1 af=Z (uP a j.toNat z (Zz ls j).toNat):=by
     simp only[BC.sub?,BC.get,HO,dQ];have:=yB a z ls 0 j.toNat;rw[bZ]at this;refine this.trans ?_;exact d_ (ik λl:Int=>uP a j.toNat z l.toNat) (V0 hj)
    exact⟨_,_,_,_,_,A,fy.pure (k:=0) hinv hc hH (y0:=uP a j.toNat z (Zz ls j).toNat) (rdl:=[nm id]) (by simp only[dE,h1,xQ,hg,I]) (cK rfl) hrd nofun⟩
   .cases A
  .cases A
 .cases A
def aBi {sz:Operand} (hc:cM P o.op=Z (.jb i c sz)) (z:pW bY e h nx K (.jb i c sz)=Z r):iW P o b e h nx K r:=by
 simp only[pW]at z;split at z
 .rename_i id k j hv L;split at z
  .rename_i p s n hr;split at z
   .rename_i I;simp only[al]at I;have I:=au I.1;let⟨A,z⟩:=cG z;let⟨y,h1,h2⟩:=bc hi hv;let⟨y2,h3,h4⟩:=bc hi L;simp[bX,ah]at h4;subst h4;let⟨j0,j1,j2⟩:=mM A;have hne:¬((p&&n==0)=J):=by grind
    simp only[bX,hr,du,av hne,ah]at h2;subst h2;have hc1:(s==i&&cX 0 j&&gI j n)=J:=by
     simp[ef,al]at A;simp[I,A.1,A.2]
    exact iW.q (k:=0) hinv hc (λH _=>by simp[dE,h1,h3,gq,hc1,bt,dQ]) (cK rfl) z
   .cases z
  .cases z
 .rename_i id j s n k i' hv L;split at z
  .rename_i I;have I:=au I;let⟨A,z⟩:=cG z;let⟨y,h1,h2⟩:=bc hi hv;let⟨y2,h3,h4⟩:=bc hi L;simp[bX,ah]at h4;subst h4;let⟨j0,j1,j2⟩:=mM A;have hne:¬((n==0)=J):=by grind
   simp only[bX,Lc,uP,av hne,ah]at h2;subst h2;have hc1:(s==i&&cX 0 i'&&gI i' n)=J:=by
    simp[ef,al]at A;simp[I,A.1,A.2]
   exact iW.q (k:=0) hinv hc (λH _=>by simp[dE,h1,h3,gq,hc1,bt,Lc,dQ]) (cK rfl) z
  .cases z
 .cases z
def aBg {ok:Bool} {k:Operand} (hc:cM P o.op=Z (.jf b ok v c k)) (A:pW bY e h nx K (.jf b ok v c k)=Z r):iW P o af e h nx K r:=by
 let⟨H,hH⟩:=gK h;simp only[pW]at A;split at A
 .rename_i id j str I hv hv2;split at A
  .rename_i ty S a xs zb hb;split at A
   .rename_i hq;simp only[al,cS]at hq;let⟨q1,L⟩:=hq;subst q1;have L:=aY L;have hk0:=cG A;let⟨hj,A⟩:=hk0;let⟨y,h1,h2⟩:=bc hi hv;let⟨y2,h3,h4⟩:=bc hi hv2;simp[bX,Lc,ah]at h2 h4;subst h2 h4;generalize hm:Bg str (o8 S xs j)=m at A;have hg:H.get (jD id (3*j.toNat+2+str))=Z ⟨0,.mp (Ij m)⟩:=by rw[hH,<-hm];exact asm hb hj L
    have hf:t7 (.int .i64 I) (Ij m)=Z ((s9 (K:=.int .i64) (V:=.bool) I m).map λz=>.f (.raw (.bool z))):=MF (str:=af) (K:=.int .i64) (V:=.bool) rfl I m;have henc:gq (.int .i64) I= .raw (.int .i64 I):=rfl;rw[henc]at h3;refine ⟨_,_,_,_,_,A,fy.pure (k:=0) hinv hc hH (y0:=pkV ok (.f (.raw (.bool (Bh (K:=.int .i64) (V:=.bool) I m zb)))) (KU (K:=.int .i64) (V:=.bool) I m)) (rdl:=[jD id (3*j.toNat+2+str)]) ?_ (λy hy=>by rw[ajp (y:=.f (.raw (.bool (Bh (K:=.int .i64) (V:=.bool) I m zb)))) rfl]at hy;cases hy;exact Le.refl _) (λn hn=>by
     simp[aG]at hn;subst hn;rw[iI];exact bm.2 rfl) nofun⟩
    simp[dE,h1,h3,hg,yR,bt,hf];unfold Bh KU;cases hfm:s9 (K:=.int .i64) (V:=.bool) I m with
    |_=>rfl
   .cases A
  .cases A
 .cases A
def aBh {k:Operand} (hc:cM P o.op=Z (.lkq i2 v c k)) (A:pW bY e h nx K (.lkq i2 v c k)=Z r):iW P o af e h nx K r:=by
 let⟨H,hH⟩:=gK h;simp[pW]at A;split at A
 .rename_i id kv hv hkv;let⟨tk,I,hkk⟩:=bind_some hkv;let⟨ka,kb⟩:=kv;split at A
  .rename_i a es hb;let⟨y,h1,h2⟩:=bc hi hv;let⟨y2,h3,h4⟩:=bc hi I;simp[bX,ah]at h2;subst h2;have hq:=Tj hkk h4;have hg:H.get (nm id)=Z ⟨0,.mp (w7 a es)⟩:=by rw[hH,bG,hb];rfl
   have hf:=Vj a (ka,kb) es;have hrd:∀n∈[nm id],aM (gA id) (ow n)=J:=λn hn=>by
    simp[aG]at hn;subst hn;rw[dj];exact bm.2 rfl
   rcases mS A with ⟨hh,A⟩|⟨hh,A⟩
   .rw[hh]at hf;exact⟨_,_,_,_,_,A,fy.pure (k:=0) hinv hc hH (y0:=.K (qA a (ajy (ka,kb) es)) 0) (rdl:=[nm id]) (by simp[dE,h1,h3,aB,hq,hg,hf]) (cK rfl) hrd nofun⟩
   .rw[hh]at hf;exact⟨_,_,_,_,_,A,fy.pure (k:=0) hinv hc hH (y0:=raw (.pointer U)) (rdl:=[nm id]) (by simp[dE,h1,h3,aB,hq,hg,hf]) (cK rfl) hrd nofun⟩
  .cases A
 .cases A
def aBk {k:Operand} (hc:cM P o.op=Z (.dlq i2 c k)) (z:pW bY e h nx K (.dlq i2 c k)=Z r):iW P o af e h nx K r:=by
 let⟨H,hH⟩:=gK h;simp only[pW]at z;split at z
 .rename_i id kv hv hkv;let⟨tk,A,hkk⟩:=bind_some hkv;let⟨ka,L⟩:=kv;split at z
  .rename_i a es hb;let⟨y,h1,h2⟩:=bc hi hv;let⟨y2,h3,h4⟩:=bc hi A;simp[bX,ah]at h2;subst h2;have hq:=Tj hkk h4;have hg:H.get (nm id)=Z ⟨0,.mp (w7 a es)⟩:=by rw[hH,bG,hb];rfl
   have hf:=acr a (ka,L) es;have hrd:∀n∈[nm id],aM (gA id) (ow n)=J:=λn hn=>by
    simp[aG]at hn;subst hn;rw[dj];exact bm.2 rfl
   refine ⟨_,_,_,_,_,z,fy.wrt (m:=0) (v:=.qp []) (rd:=gA id) (k:=0) (y0:=.qp []) (rdl:=[nm id]) (b0:=⟨0,.mp (w7 a (ajz (ka,L) es))⟩) hinv hc hH (by simp[dE,h1,h3,aB,hq,hg,hf]) hb (dJ.zero h) (by simp) rfl (λ_ _ he=>by cases he) (λH1 H2 d g b' I=>?_) (λH1 H2 y d g hy=>?_) hrd⟩
   .cases I;exact gx.refl d _
   .simp[bX,cI,ah]at hy;subst hy;exact kh.refl d _
  .cases z
 .cases z
def aBf {k v:Operand} (hc:cM P o.op=Z (.mpq i2 c k v)) (z:pW bY e h nx K (.mpq i2 c k v)=Z r):iW P o af e h nx K r:=by
 let⟨H,hH⟩:=gK h;simp only[pW]at z;split at z
 .rename_i id kv p hv hkv hvp;let⟨tk,A,hkk⟩:=bind_some hkv;let⟨ka,L⟩:=kv;split at z
  .rename_i a es hb;let⟨y,h1,h2⟩:=bc hi hv;let⟨y2,h3,h4⟩:=bc hi A;let⟨y3,h5,h6⟩:=bc hi hvp;simp[bX,ah]at h2 h6;subst h2 h6;have hq:=Tj hkk h4;have hg:H.get (nm id)=Z ⟨0,.mp (w7 a es)⟩:=by rw[hH,bG,hb];rfl
   have hf:=acq a (ka,L) (.K (nm p) 0) es;have hrd:∀n∈[nm id],aM (gA id) (ow n)=J:=λn hn=>by
    simp[aG]at hn;subst hn;rw[dj];exact bm.2 rfl
   refine ⟨_,_,_,_,_,z,fy.wrt (m:=0) (v:=.undef) (rd:=gA id) (k:=0) (y0:=raw undef) (rdl:=[nm id]) (b0:=⟨0,.mp (ND a (ka,L) (.K (nm p) 0) es)⟩) hinv hc hH (by simp[dE,h1,h3,h5,aB,hq,hg,hf]) hb (dJ.zero h) (by simp) rfl (λ_ _ he=>by cases he) (λH1 H2 d g b' I=>?_) (λH1 H2 y d g hy=>?_) hrd⟩
   .cases I;exact gx.refl d _
   .simp[bX,ah]at hy;subst hy;exact kh.refl d _
  .cases z
 .cases z
end ops
def fy.wrtM {o:Oper} {e:ia} {s:U0} (hinv:gY h i) (hc:cM P o.op=Z s) {a:mY} (hH:a.get=erHF h) {km:Nat} {y0:AV} {rdl:ι} {b0:ko} {k:Nat} (ha:dE s (DU e h) a k=Z ⟨y0,rdl,[jD m (km+1)],[(jD m (km+1),b0)],[]⟩) {B0 B:fc} (z:h.get m=Z B0) {v:TV} {rd:Nat}
 (hrow:iH B=iH B0) (hB:∀ty l,B≠ .G ty l) (hB0:∀ty l,B0≠ .G ty l) (hanc:∀h2,kq h2 B=kq h B0) (hoth:∀k',k'≠km->wX m k' B=wX m k' B0)
 (hblk:∀I A,rX I A->∀b',wX m km B=Z b'->gx I A b0 b')
 (hval:∀I A y,rX I A->bX (h.set m (Z B)) v=Z y->kh I A y0 y)
 (hrd:∀n∈rdl,aM rd (ow n)=J):fy P o af e h i v rd (0|||gA m) (h.set m (Z B)) i:=by
 have L:bW h (h.set m (Z B)):=bW.set λr L=>by rw[bB,z]at L;rw[hrow];exact L
 refine fy.mk' hc hH ha [jD m (km+1)] (λnx hi=>hi) (λn hn=>?_) (λnx hi b' hb'=>⟨b0,by rw[aC hi];simp[aG]at hi;subst hi;exact e9 _ _⟩) (λI A d hw1 _ hw2=>⟨λnx hi b b' hb hb2=>?_,λy hy=>hval I A y d hy⟩) hrd (λn hn=>?_) (by simp) L (hinv.set L (hinv.low m B0 z) (bK _) λty l he=>bT he (hB ty l)) (bK _)
 .by_cases ho:ow n=m
  .unfold erHF;rw[ho,PT.get_set,aC rfl,z];cases hk:ix n with
   |zero=>exact hanc _
   |succ k'=>
    refine hoth k' λe=>hn ?_
    rw[<- kK n,ho,hk,e];simp
  .unfold erHF;rw[PT.get_set,av ho];cases hx:h.get (ow n) with
   |none=>rfl
   |some b=>exact mo L (λty l e=>hinv.G _ _ l (by rw[hx,e])) _ _
 .simp[aG]at hi;subst hi;rw[hw1 _ (by simp),e9]at hb;rw[hw2 _ (by simp),kC,PT.get_set,aC rfl]at hb2
  grind
 .simp[aG]at hn;subst hn;rw[iI,wR];exact bm.2 rfl
def Rt {xs:Y (CZ S)} {n:Nat} {A:CZ S} (hf:∀o,xs[n]? =Z o->m/3=n->wK i m s S A=wK i m s S o):rM i m s S (xs.set n A)=rM i m s S xs:=by
 unfold rM
 grind
def WO {xs:Y (CZ S)} {n:Nat} {A:CZ S} (I:m/3=n) (L:n<l! xs):rM i m s S (xs.set n A)=Z (wK i m s S A):=by
 unfold rM
 grind
def II {ty:TypeId} {T:Ty} {xss:Y (Y T.den)} {xs:Y T.den} (A:i≠m):rL i ty T (xss.set m xs)=rL i ty T xss:=by
 unfold rL
 grind
def Nw {ty:TypeId} {T:Ty} {xss:Y (Y T.den)} {xs:Y T.den} (z:i<l! xss):rL i ty T (xss.set i xs)=Z_ ty T xs:=by
 unfold rL
 grind
def UB (h:eK i m=J):i<m:=aY h
def aka {c:Nat} (h:i=m) (z:c<m):c<i:=by omega
def lh (a sz:Nat):∀(z:η) (k:Nat),l! (lK a sz k z)=l! z
 |[],_=>rfl
 |l::r,k=>by simp[lK,jW,lh a sz r]
def Vt {z:HF} (d:rX A z):∀n,gX A z ((repl [.slice U 0 0] n).map .f) (aE n .emp)
 |0=>trivial
 |n+1=>⟨Le.nilEmp.toH d,Vt d n⟩
section ops
variable {R:Type} {P:Program} {bY:TypeId->M Ty} {o:Oper} {e:ia} {h:a8} {nx:Nat} {K:KO R} {r:R} (hinv:gY h nx) (hi:s7 e h)
include hinv hi
def aBe {k v:Operand} (hc:cM P o.op=Z (.jg b c k v)) (A:pW bY e h nx K (.jg b c k v)=Z r):iW P o af e h nx K r:=by
 let⟨H,hH⟩:=gK h;simp only[pW]at A;split at A
 .rename_i id j str L I hv hv2 hv3;split at A
  .rename_i ty S a xs hb;split at A
   .rename_i hq;simp only[al,cS]at hq;let⟨q1,q2⟩:=hq;subst q1;have q2:=UB q2;have hk0:=cG A;let⟨hj,A⟩:=hk0;let⟨y,h1,h2⟩:=bc hi hv;let⟨y2,h3,h4⟩:=bc hi hv2;let⟨y3,h5,h6⟩:=bc hi hv3;simp[bX,Lc,ah]at h2 h4 h6;subst h2 h4 h6;have e1:3*j.toNat+2+str=3*j.toNat+1+str+1:=by omega
    let⟨_,_,hjl⟩:=mM hj;have hg:H.get (jD id (3*j.toNat+2+str))=Z ⟨0,.mp (Ij (Bg str (o8 S xs j)))⟩:=by rw[hH];exact asm hb hj q2
    rw[e1]at h1 hg;have hf:As (.int .i64 L) (.f (.raw (.bool I))) (Ij (Bg str (o8 S xs j)))=Z (Ij (Cc (K:=.int .i64) (V:=.bool) L I (Bg str (o8 S xs j)))):=Tc (str:=af) (K:=.int .i64) (V:=.bool) rfl L I _;have henc:gq (.int .i64) L= .raw (.int .i64 L):=rfl;have henc2:gq .bool I= .raw (.bool I):=rfl;rw[henc]at h3;rw[henc2]at h5;refine ⟨_,_,_,_,_,A,fy.wrtM (km:=3*j.toNat+1+str) (v:=.undef) (rd:=gA id) (k:=0) (y0:=raw undef) (rdl:=[jD id (3*j.toNat+1+str+1)]) (b0:=⟨0,.mp (Ij (Cc (K:=.int .i64) (V:=.bool) L I (Bg str (o8 S xs j))))⟩) hinv hc hH (by simp[dE,h1,h3,h5,hg,yR,bt,hf]) hb rfl (λ_ _ he=>by cases he) (λ_ _ he=>by cases he) (λ_=>rfl) (λk' hk'=>?_) (λH1 H2 d b' z=>?_) (λH1 H2 y d hy=>?_) (λn hn=>?_)⟩
    .refine Rt λo' ho' hn=>?_
     rw[Df (S:=S) hj,ah]at ho';subst ho';unfold wK;by_cases m0:k'%3=0
     .rw[aC m0,aC m0];cases str<;>rfl
     .rw[av m0,av m0];by_cases m1:k'%3=1
      .rw[aC m1,aC m1];cases str with
       |zero=>exact bT (by omega) hk'
       |succ str=>rfl
      .rw[av m1,av m1];cases str with
       |zero=>rfl
       |succ str=>exact bT (by omega) hk'
    .have z:rM id (3*j.toNat+1+str) ty S (zX xs j.toNat (Mz str (o8 S xs j) (Cc (K:=.int .i64) (V:=.bool) L I (Bg str (o8 S xs j)))))=Z b':=z;rw[WO (by omega) hjl]at z;have:wK id (3*j.toNat+1+str) ty S (Mz str (o8 S xs j) (Cc (K:=.int .i64) (V:=.bool) L I (Bg str (o8 S xs j))))=⟨0,.mp (Ij (Cc (K:=.int .i64) (V:=.bool) L I (Bg str (o8 S xs j))))⟩:=by
      unfold wK;rw[av (by omega)];cases str with
      |zero=>rw[aC (by omega)];rfl
      |succ str=>rw[av (by omega)];rfl
     rw[this,ah]at z;subst z;exact gx.refl d _
    .simp[bX,ah]at hy;subst hy;exact kh.refl d _
    .simp[aG]at hn;subst hn;rw[iI];exact bm.2 rfl
   .cases A
  .cases A
 .cases A
def arx {v:Operand} (hc:cM P o.op=Z (.store i c v)) (A:pW bY e h nx K (.store i c v)=Z r):iW P o af e h nx K r:=by
 let⟨H,hH⟩:=gK h;simp only[pW]at A;split at A
 .rename_i id j off y hv hv2;let⟨yb,h1,h2⟩:=bc hi hv;let⟨L,h3,h4⟩:=bc hi hv2;simp only[bX,Lc,ah]at h2;subst h2;split at A
  .rename_i ty S a xs hb;have hk0:=cG A;clear A;let⟨hj,A⟩:=hk0;let⟨_,_,hjl⟩:=mM hj;split at A
   .rename_i z m hset;split at A
    .rename_i hm0;have hm0:=au hm0;subst hm0;have hg:H.get (qA id j)=Z ⟨ty,.mx (DJ id S j (o8 S xs j))⟩:=by rw[hH];exact asn hb hj
     have hso:∀H1 H2,rX H1 H2->Sa H1 H2 L S (o8 S xs j).1 z off i:=λH1 H2 d=>uh d h4 40 S _ off i z 0 hset Fx.zero
     have hcell:=oC h4 40 S _ off i z 0 hset;let⟨fs0,q1,q2,q3,_,_⟩:=hso _ _ (rX.refl (erHF h));have hlen:L.cs.length=i:=by rw[<- q2,<-bx (f:=AV.f),q1.length]
     have hput:(BC.mx (DJ id S j (o8 S xs j))).put off L.cs=Z (.mx (AI.splice (DJ id S j (o8 S xs j)) off L.cs)):=by
      unfold BC.put;rw[aC]
      .rfl
      .simp only[al];refine ⟨⟨rfl,bf ?_⟩,hcell⟩;simp only[BC.len,DJ,bH,bx,bk];omega
     have ha0:dE (.store i c v) (DU e h) H 0=Z ⟨raw undef,[qA id j],[qA id j],[(qA id j,⟨ty,.mx (AI.splice (DJ id S j (o8 S xs j)) off L.cs)⟩)],[]⟩:=by
      simp only[dE,h1,h3,CV,hg,hlen,cj,bt,hput]
     refine ⟨_,_,_,_,_,A,fy.wrtM (km:=3*j.toNat) (v:=.undef) (rd:=gA id) hinv hc hH ha0 hb rfl (λ_ _ he=>by cases he) (λ_ _ he=>by cases he) (λ_=>rfl) (λk' hk'=>?_) (λH1 H2 d b' I=>?_) (λH1 H2 y d hy=>?_) (λn hn=>?_)⟩
     .refine Rt λo' ho' hn=>?_
      rw[Df (S:=S) hj,ah]at ho';subst ho';have k0:k'%3≠0:=by omega
      unfold wK;rw[av k0,av k0]
     .have I:rM id (3*j.toNat) ty S (zX xs j.toNat (z,(o8 S xs j).2))=Z b':=I;rw[WO (by omega) hjl]at I;have:wK id (3*j.toNat) ty S (z,(o8 S xs j).2)=⟨ty,.mx (DJ id S j (z,(o8 S xs j).2))⟩:=by
       unfold wK;rw[aC (by omega)];rfl
      rw[this,ah]at I;subst I;let⟨fs,p1,p2,p3,p4,p5⟩:=hso H1 H2 d;refine gx.G rfl rfl ?_ λc hx=>?_
      .simp only[BC.toMx];have e2:DJ id S j (z,(o8 S xs j).2)=AI.splice (DJ id S j (o8 S xs j)) off (fs.map .f):=by
        unfold DJ;rw[p4];unfold AI.splice;rw[tm (by rw[bx,bk];omega),List.drop_append_of_le_length (by rw[bx,bx,bk];omega)];simp[gF,zY]
       rw[e2];exact (gX.refl d _).splice _ p1
      .simp only[BC.toMx,DJ,cq]at hx;rcases hx with hx|hx
       .obtain⟨q,hq,rfl⟩:=cC.1 hx;have:∀q∈([z]:Y S.den).flatMap (bI S),q.isCell=J:=ml S [z];exact this q (by simpa using hq)
       .simp only[bh,b7,eE]at hx;rcases hx with rfl|rfl<;>rfl
     .simp only[bX,ah]at hy;subst hy;exact kh.refl d _
     .simp only[aG]at hn;subst hn;unfold qA;rw[iI];exact bm.2 rfl
    .cases A
   .cases A
  .cases A
 .rename_i id j s sz off y hv hv2;let⟨yb,h1,h2⟩:=bc hi hv;let⟨L,h3,h4⟩:=bc hi hv2;simp only[bX,Lc,ah]at h2;subst h2;split at A
  .rename_i ty T a xss hb;split at A
   .rename_i hs;have hs:=au hs;subst hs;let⟨hj,A⟩:=cG A;let⟨hji,A⟩:=cG A;let⟨_,_,hjl⟩:=mM hj;split at A
    .rename_i z m hset;split at A
     .rename_i hm0;have hm0:=au hm0;subst hm0;generalize hxs:BG (T:=T) xss j=xs at*
      let⟨i0,i1,i2⟩:=mM hji;have hne:xs.length≠0:=by omega
      have hg:H.get (jD id (j.toNat+1))=Z ⟨ty,.fz (xs.flatMap (bI T))⟩:=by rw[hH,<-hxs];exact adn hb hj (by rw[hxs];exact hne)
      have fl:=eV (bk T) xs;have hx:xs[sz.toNat]? =Z (aI _ xs sz):=by
       unfold aI;rw[aD,aF i2];rfl
      have hle:(sz.toNat+1)*T.size<=xs.length*T.size:=cw _ i2;rw[jF]at hle;have hso:∀H1 H2,rX H1 H2->Sa H1 H2 L T (aI _ xs sz) z off i:=λH1 H2 d=>uh d h4 40 T _ off i z 0 hset Fx.zero
      have hcell:=oC h4 40 T _ off i z 0 hset;let⟨fs0,q1,q2,q3,_,_⟩:=hso _ _ (rX.refl (erHF h));have hlen:L.cs.length=i:=by rw[<- q2,<-bx (f:=AV.f),q1.length]
      obtain⟨c',hput,hc1,hc2⟩:∃c',(BC.fz (xs.flatMap (bI T))).put (sz.toNat*T.size+off) L.cs=Z c'/\c'.toMx=AI.splice ((xs.flatMap (bI T)).map .f) (sz.toNat*T.size+off) L.cs/\c'.isCells=J:=by
       unfold BC.put;rw[aC]
       .split
        next l ys hl hys=>simp only[BC.fz.injEq]at hl;subst hl;refine ⟨_,rfl,?_,rfl⟩;rw[nO hys];simp only[BC.toMx];unfold AI.splice;simp[gF,zY]
        .exact⟨_,rfl,rfl,rfl⟩
       .simp only[al];exact⟨⟨rfl,bf (by simp only[BC.len];omega)⟩,hcell⟩
      have ha0:dE (.store i c v) (DU e h) H 0=Z ⟨raw undef,[jD id (j.toNat+1)],[jD id (j.toNat+1)],[(jD id (j.toNat+1),⟨ty,c'⟩)],[]⟩:=by
       simp only[dE,h1,h3,CV,hg,hlen,cj,bt,hput]
      refine ⟨_,_,_,_,_,A,fy.wrtM (km:=j.toNat) (v:=.undef) (rd:=gA id) hinv hc hH ha0 hb rfl (λ_ _ he=>by cases he) (λ_ _ he=>by cases he) (λ_=>rfl) (λk' hk'=>II hk') (λH1 H2 d b' I=>?_) (λH1 H2 y d hy=>?_) (λn hn=>?_)⟩
      .have I:rL j.toNat ty T (zX xss j.toNat (ca xs sz z))=Z b':=I;rw[Nw hjl]at I;unfold Z_ at I;have hl2:(ca xs sz z).length=xs.length:=by unfold ca;rw[fV]
       rw[av (by simp only[cU];omega),ah]at I;subst I;let⟨fs,p1,p2,p3,p4,p5⟩:=hso H1 H2 d;have hfl:(ca xs sz z).flatMap (bI T)=AI.splice (xs.flatMap (bI T)) (sz.toNat*T.size+off) fs:=Ns (bk T) xs sz.toNat _ z hx off fs (by omega) p4;refine gx.G hc2 rfl ?_ λc hx=>?_
       .rw[hc1];simp only[BC.toMx];rw[hfl];have:(AI.splice (xs.flatMap (bI T)) (sz.toNat*T.size+off) fs).map AV.f=AI.splice ((xs.flatMap (bI T)).map .f) (sz.toNat*T.size+off) (fs.map .f):=by unfold AI.splice;simp[gF,zY]
        rw[this];exact (gX.refl d _).splice _ p1
       .simp only[BC.toMx]at hx;obtain⟨q,hq,rfl⟩:=cC.1 hx;exact ml T _ q hq
      .simp only[bX,ah]at hy;subst hy;exact kh.refl d _
      .simp only[aG]at hn;subst hn;rw[iI];exact bm.2 rfl
     .cases A
    .cases A
   .cases A
  .cases A
 .rename_i id s j off rr hv hv2;let⟨yb,h1,h2⟩:=bc hi hv;let⟨L,h3,h4⟩:=bc hi hv2;simp only[bX,ah]at h2;subst h2;split at A
  .rename_i hq;simp only[al]at hq;let⟨q1,q2,q3⟩:=hq;have q1:=au q1;have q2:=au q2;have q3:=au q3;subst q1 q2 q3;split at A
   .rename_i ty z a ls ty2 p T xs hb hb2;split at A
    .rename_i hz;have hz:=au hz;subst hz;have hk0:=cG A;clear A;let⟨hj,A⟩:=hk0;have hk0:=cG A;clear A;let⟨hp,A⟩:=hk0;let⟨_,_,hjl⟩:=mM hj;have hyy:L=du J rr T.size xs.length:=by
      simp only[bX,bB,hb2,aB,iH,ah]at h4;rw[<- h4];cases p with
      |true=>rfl
      |false=>
       have hp:(!(aA (aj xs) 0))=J:=hp;have hp:aj xs≠0:=λe=>by rw[e]at hp;cases hp
       unfold du;rw[av (by simp),av (by simpa using hp)]
     have hg:H.get (nm id)=Z ⟨ty,.mx (lK a T.size 0 ls)⟩:=by rw[hH,bG,hb];rfl
     have hcs:L.cs=[L]:=by rw[hyy];unfold du;split<;>rfl
     have hcell:L.isCell=J:=by rw[hyy];unfold du;split<;>rfl
     have hput:(BC.mx (lK a T.size 0 ls)).put (j.toNat*1+0) L.cs=Z (.mx (AI.splice (lK a T.size 0 ls) j.toNat [L])):=by
      rw[hcs,HO,dQ];unfold BC.put;rw[aC]
      .rfl
      .simp only[al,gD,hcell,and_true];refine ⟨rfl,bf ?_⟩;have hl:(lK a T.size 0 ls).length=aj (α:=Int) ls:=lh a T.size ls 0;show j.toNat+1<=(lK a T.size 0 ls).length;rw[hl];exact hjl
     have hlen:L.cs.length=1:=by rw[hcs];rfl
     have ha0:dE (.store 1 c v) (DU e h) H 0=Z ⟨raw undef,[nm id],[nm id],[(nm id,⟨ty,.mx (AI.splice (lK a T.size 0 ls) j.toNat [L])⟩)],[]⟩:=by
      simp only[dE,h1,h3,CV,hg,hlen,cj,bt,hput]
     refine ⟨_,_,_,_,_,A,fy.wrt (m:=0) (v:=.undef) (rd:=gA id) hinv hc hH ha0 hb (dJ.zero h) (by simp) rfl (λ_ _ he=>by cases he) (λH1 H2 d g b' I=>?_) (λH1 H2 y d g hy=>?_) (λn hn=>?_)⟩
     .cases I;have hl:(lK a T.size 0 ls).length=aj (α:=Int) ls:=lh a T.size ls 0;rw[Y0 (aka hl hjl),hyy];exact gx.refl d _
     .simp only[bX,ah]at hy;subst hy;exact kh.refl d _
     .simp only[aG]at hn;subst hn;rw[dj];exact bm.2 rfl
    .cases A
   .cases A
  .cases A
 .cases A
def fy.app1 {s:U0} (hc:cM P o.op=Z s) {a:mY} (hH:a.get=erHF h) {k n0:Nat} {y0:AV} {rdl:ι} {b0:ko} (ha:dE s (DU e h) a k=Z ⟨y0,rdl,[nm nx,n0],[(nm nx,b0)],[nm nx]⟩) {h':a8} 
 (hsame:∀n,n≠nm nx->n≠n0->erHF h' n=erHF h n) (hne:nm nx≠n0) (hdead:erHF h' n0=U) (hnew:erHF h' (nm nx)=Z F) (hblk:∀A z,rX A z->gx A z b0 F) (hval:∀A z y,rX A z->bX h' u=Z y->kh A z y0 y)
 (hrd:∀n∈rdl,aM i (ow n)=J) (hwr:aM m (ow n0)=J) (hwn:aM m nx=J) (hrows:bW h h') (hinv':gY h' (nx+1)):fy P o af e h nx u i m h' (nx+1):=by
 have _:=hinv;have _:=hi;refine fy.mk' hc hH ha [nm nx,n0] (λrd hi=>hi) (λn I=>?_) (λrd hi b' hb'=>?_) (λA z d hw1 _ hw2=>⟨λrd hi b b' hb1 hb2=>?_,λy hy=>hval A z y d hy⟩) hrd (λn I=>?_) (λn I=>by simp[aG]at I;subst I;rw[dj];omega) hrows hinv' (by omega)
 .grind
 .simp[bh,b7,eE]at hi;rcases hi with rfl|rfl
  .exact⟨_,by rw[aC (by simp)];exact e9 _ _⟩
  .grind
 .simp[bh,b7,eE]at hi;rcases hi with rfl|rfl
  .rw[hw1 _ (by simp),e9]at hb1
   grind
  .grind
 .simp[bh,b7,eE]at I;rcases I with rfl|rfl
  .rw[dj];exact hwn
  .exact hwr
def fy.app0 {s:U0} (hc:cM P o.op=Z s) {a:mY} (hH:a.get=erHF h) {k:Nat} {y0:AV} {rdl:ι} {b0:ko} (ha:dE s (DU e h) a k=Z ⟨y0,rdl,[nm nx],[(nm nx,b0)],[nm nx]⟩) {h':a8} 
 (hsame:∀n,n≠nm nx->erHF h' n=erHF h n) (hnew:erHF h' (nm nx)=Z F) (hblk:∀A z,rX A z->gx A z b0 F) (hval:∀A z y,rX A z->bX h' u=Z y->kh A z y0 y)
 (hrd:∀n∈rdl,aM i (ow n)=J) (hwn:aM m nx=J) (hrows:bW h h') (hinv':gY h' (nx+1)):fy P o af e h nx u i m h' (nx+1):=by
 have _:=hinv;have _:=hi;refine fy.mk' hc hH ha [nm nx] (λrd hi=>hi) (λn I=>?_) (λrd hi b' hb'=>?_) (λA z d L _ hw2=>⟨λrd hi b b' hb1 hb2=>?_,λy hy=>hval A z y d hy⟩) hrd (λn I=>?_) (λn I=>by simp[aG]at I;subst I;rw[dj];omega) hrows hinv' (by omega)
 .grind
 .simp[aG]at hi;subst hi;exact⟨_,by rw[aC (by simp)];exact e9 _ _⟩
 .simp[aG]at hi;subst hi;rw[L _ (by simp),e9]at hb1
  grind
 .simp[aG]at I;subst I;rw[dj];exact hwn
def aBl {ty:Operand} (hc:cM P o.op=Z (.app s i m ty c)) (z:pW bY e h nx K (.app s i m ty c)=Z r):iW P o af e h nx K r:=by
 let⟨H,hH⟩:=gK h;have hfr:=hinv.fresh;simp only[pW]at z;split at z
 .rename_i id id2 hv hv2;let⟨yb,h1,h2⟩:=bc hi hv;let⟨yy,h3,h4⟩:=bc hi hv2;simp only[bX,ah]at h4;subst h4;split at z
  .rename_i ty' a L tyc a' j hb hb2;split at z
   .rename_i hq;simp only[al,cS]at hq;let⟨⟨q1,q2⟩,q3,q4⟩:=hq;have q1:=au q1;have q2:=eq_of_beq q2;have q3:=au q3;have q4:id≠id2:=λe=>by rw[e,qI]at q4;cases q4
    subst q1 q2 q3;have hk0:=cG z;clear z;let⟨hroom,z⟩:=hk0;have hrow:=aeg hH hb2 (l':=[.K (qA a j) 0]) rfl (n:=1) (sz:=1) rfl;have hidlt:=hinv.low id _ hb;have hne:nx≠id:=by omega
    have hroom:bg (aj (α:=Int) L+1) m=J:=hroom;simp only[bX,bB,hb,aB,iH,sM,ah]at h2;generalize hh':(h.set id (Z (.qj J 1 (aj (α:=Int) L)))).set nx (Z (.qx (.zm s) a (Sm (α:=Int) L [j])))=h' at z;have A:∀sz,h'.get sz=if sz=nx then Z (.qx (.zm s) a (Sm (α:=Int) L [j])) else if sz=id then Z (.qj J 1 (aj (α:=Int) L)) else h.get sz:=λsz=>by rw[<- hh',PT.get_set,PT.get_set]
    have hr:bW h h':=λsz r hi=>by
     rw[bB]at hi ⊢;rw[A];by_cases e1:sz=nx
     .rw[e1,hfr]at hi;cases hi
     .rw[av e1];by_cases e2:sz=id
      .rw[aC e2];rw[e2,hb]at hi;exact hi
      .rw[av e2];exact hi
    have hinv':gY h' (nx+1):=by
     refine ⟨λsz s l hil=>?_,λsz x hic=>?_⟩
     .rw[A]at hil;split at hil
      .cases hil
      .split at hil
       .cases hil
       .exact fo hr l (hinv.G sz _ l hil)
     .rw[A]at hic;split at hic
      .omega
      .split at hic
       .omega
       .have:=hinv.low sz x hic;omega
    have hsame:∀n,n≠nm nx->n≠nm id->erHF h' n=erHF h n:=λn e1 e2=>by
     unfold erHF;rw[A (ow n)];by_cases f1:ow n=nx
     .rw[aC f1,f1,hfr];simp only[aB,Option.bind_none];cases hx:ix n with
      |zero=>exact bT (by rw[pI hx,f1]) e1
      |succ k=>rfl
     .rw[av f1];by_cases f2:ow n=id
      .rw[aC f2,f2,hb];simp only[aB];cases hx:ix n with
       |zero=>exact bT (by rw[pI hx,f2]) e2
       |succ k=>rfl
      .rw[av f2];cases hx:h.get (ow n) with
       |none=>rfl
       |some b=>exact mo hr (λs l e=>hinv.G _ _ l (by rw[hx,e])) _ _
    have hdead:erHF h' (nm id)=U:=by rw[bG,A,av (by omega),aC rfl];rfl
    have hl2:aj (α:=Int) (Sm (α:=Int) L [j])=aj (α:=Int) L+1:=by
     exact (λ(a b:η)=>(bH:(a++b).length=a.length+b.length)) L [j]
    have hnew:erHF h' (nm nx)=Z ⟨s,.mx (im (λj=>.K (qA a j) 0) L++[.K (qA a j) 0])⟩:=by
     rw[bG,A,aC rfl];simp only[aB,kq,uF];rw[av (by simp only[cU];omega)];have:im (λj=>AV.K (qA a j) 0) (Sm (α:=Int) L [j])=im (λj=>AV.K (qA a j) 0) L++[.K (qA a j) 0]:=by
      exact cg (f:=λj:Int=>AV.K (qA a j) 0) (l₁:=(L:η)) (l₂:=[j])
     rw[this]
    have hval:bX h' (.I nx)=Z (.I (nm nx) 1 (aj (α:=Int) L+1)):=by
     simp only[bX,bB,A,bt,aB,iH,sM,du,hl2];rw[av (by simp)]
    have hblk:∀H1 H2,rX H1 H2->gx H1 H2 ⟨s,oO (im (λj=>.K (qA a j) 0) L++[.K (qA a j) 0])⟩ ⟨s,.mx (im (λj=>.K (qA a j) 0) L++[.K (qA a j) 0])⟩:=λH1 H2 d=>by
     let⟨p1,p2⟩:=nK (im (λj=>AV.K (qA a j) 0) L++[.K (qA a j) 0]);exact gx.eq d p2 rfl p1
    have w1:aM (gA id|||gA nx) nx=J:=by rw[bq,bm.2 (rfl:nx=nx)];simp
    have hrd:∀n∈[nm id2],aM (gA id|||gA id2) (ow n)=J:=λn hn=>by
     simp only[aG]at hn;subst hn;rw[dj,bq,bm.2 (rfl:id2=id2)];simp
    refine ⟨_,_,_,_,_,z,?_⟩;by_cases hz:aj (α:=Int) L=0
    .have hyb:yb= .emp:=by rw[<- h2];unfold du;rw[hz];rfl
     subst hyb;have hnil:L=[]:=dC.1 hz;subst hnil;have hroom:bg 1 m=J:=hroom;refine fy.app0 hinv hi hc hH (k:=nm nx) (y0:=.I (nm nx) 1 1) (rdl:=[nm id2]) (b0:=⟨s,oO [.K (qA a j) 0]⟩) (by simp only[dE,h1,h3,hrow];simp[Ff,hroom]) (λn hn=>?_) hnew (hblk) (λH1 H2 y d hy=>by rw[hval]at hy;cases hy;exact kh.refl d _) hrd w1 hr hinv';by_cases e2:n=nm id
     .subst e2;rw[hdead,bG,hb];rfl
     .exact hsame n hn e2
    .have hyb:yb= .I (nm id) 1 (aj (α:=Int) L):=by
      rw[<- h2];unfold du;rw[av (by simpa using hz)]
     subst hyb;have hg:H.get (nm id)=Z ⟨s,.mx (im (λj=>.K (qA a j) 0) L)⟩:=by
      rw[hH,bG,hb];simp only[aB,kq,uF];rw[av (by simpa using hz)]
     have hmm:mem (nm id) [nm id2]=af:=by
      cases hx:mem (nm id) [nm id2] with
      |false=>rfl
      |true=>
       have:=ak9.1 hx;simp only[aG]at this;exact bT (uQ this) q4
     refine fy.app1 hinv hi hc hH (k:=nm nx) (n0:=nm id) (y0:=.I (nm nx) 1 (aj (α:=Int) L+1)) (rdl:=[nm id,nm id2]) (b0:=⟨s,oO (im (λj=>.K (qA a j) 0) L++[.K (qA a j) 0])⟩) ?_ hsame (λe=>hne (uQ e)) hdead hnew hblk (λH1 H2 y d hy=>by rw[hval]at hy;cases hy;exact kh.refl d _) (λn hn=>?_) (by rw[dj,bq,bm.2 (rfl:id=id)];rfl) w1 hr hinv'
     .have hlen:(im (λj=>AV.K (qA a j) 0) L).length=aj (α:=Int) L:=bx ..;simp only[dE,h1,h3,hrow,hg];rw[aC (by
       simp only[cj,lU,Bool.and_true,BC.isCells,BC.len,hroom,al,cS];exact⟨hmm,bf (by omega)⟩)]
      simp only[BC.toMx,fE (show (im (λj=>AV.K (qA a j) 0) L).length<=aj (α:=Int) L*1 by omega)]
     .rcases bh.1 hn with rfl|hn
      .rw[dj,bq,bm.2 (rfl:id=id)];rfl
      .exact hrd n hn
   .cases z
  .cases z
 .rename_i id j sb n y hv hv2;let⟨yb,h1,h2⟩:=bc hi hv;let⟨yy,h3,h4⟩:=bc hi hv2;simp only[bX,Lc,ah]at h2;split at z
  .rename_i ty' T a xss hb;split at z
   .rename_i hq;simp only[al]at hq;let⟨q1,q2,q3⟩:=hq;have q1:=au q1;have q2:=au q2;have q3:=eq_of_beq q3;subst q1 q2 q3;have hk0:=cG z;clear z;let⟨hj,z⟩:=hk0;split at z
    .rename_i ys bytes hys;split at z
     .cases z
     .rename_i hmid;have hmid:aM bytes id=af:=by simpa using hmid
      have hk0:=cG z;clear z;let⟨hqq,z⟩:=hk0;simp only[al]at hqq;let⟨hn,hroom⟩:=hqq;have hn:=au hn;let⟨rdl,h5,h6⟩:=SM hH hys h4;generalize hxs:BG (T:=T) xss j=xs at*
      have hidlt:=hinv.low id _ hb;have hne:nx≠id:=by omega
      let⟨_,_,hjl⟩:=mM hj;generalize hh':(h.set id (Z (.qx (.ir s T) a (EX (T:=T) xss j [])))).set nx (Z (.H s J T (xs++ys)))=h' at z;have A:∀sz,h'.get sz=if sz=nx then Z (.H s J T (xs++ys)) else if sz=id then Z (.qx (.ir s T) a (EX (T:=T) xss j [])) else h.get sz:=λsz=>by rw[<- hh',PT.get_set,PT.get_set]
      have hr:bW h h':=λsz r hi=>by
       rw[bB]at hi ⊢;rw[A];by_cases e1:sz=nx
       .rw[e1,hfr]at hi;cases hi
       .rw[av e1];by_cases e2:sz=id
        .rw[aC e2];rw[e2,hb]at hi;exact hi
        .rw[av e2];exact hi
      have hinv':gY h' (nx+1):=by
       refine ⟨λsz s l hil=>?_,λsz x hic=>?_⟩
       .rw[A]at hil;split at hil
        .cases hil
        .split at hil
         .cases hil
         .exact fo hr l (hinv.G sz _ l hil)
       .rw[A]at hic;split at hic
        .omega
        .split at hic
         .omega
         .have:=hinv.low sz x hic;omega
      have hsame:∀n,n≠nm nx->n≠jD id (j.toNat+1)->erHF h' n=erHF h n:=λn e1 e2=>by
       unfold erHF;rw[A (ow n)];by_cases f1:ow n=nx
       .rw[aC f1,f1,hfr];simp only[aB,Option.bind_none];cases hx:ix n with
        |zero=>exact bT (by rw[pI hx,f1]) e1
        |succ k=>rfl
       .rw[av f1];by_cases f2:ow n=id
        .rw[aC f2,f2,hb];simp only[aB];cases hx:ix n with
         |zero=>rfl
         |succ k=>
          refine II (T:=T) λe3=>?_
          exact e2 (by rw[<- kK n,hx,f2,e3])
        .rw[av f2];cases hx:h.get (ow n) with
         |none=>rfl
         |some b=>exact mo hr (λs l e=>hinv.G _ _ l (by rw[hx,e])) _ _
      have hdead:erHF h' (jD id (j.toNat+1))=U:=by
       rw[kC,A,av (by omega),aC rfl];exact Nw (T:=T) hjl
      have hnew:erHF h' (nm nx)=if (xs++ys).length==0 then U else Z ⟨s,.fz ((xs++ys).flatMap (bI T))⟩:=by
       rw[bG,A,aC rfl];rfl
      have hval:bX h' (.I nx)=Z (du J nx T.size (xs++ys).length):=by
       simp only[bX,bB,A,bt,aB,iH]
      have w1:aM (gA id|||gA nx) nx=J:=by rw[bq,bm.2 (rfl:nx=nx)];simp
      have hrd:∀n∈rdl,aM (gA id|||bytes) (ow n)=J:=λn hn=>by
       obtain⟨sz,rfl,hm⟩:=h6 n hn;rw[dj,bq,hm];simp
      refine ⟨_,_,_,_,_,z,?_⟩;by_cases hz:n=0
      .subst hz;have hyb:yb= .emp:=by rw[<- h2];rfl
       subst hyb;have hnil:xs=[]:=dC.1 hn.symm;have hold:erHF h (jD id (j.toNat+1))=U:=by
        rw[kC,hb];show rL j.toNat s T xss=U;unfold rL;rw[Vx hj,hxs,hnil];rfl
       have hsame0:∀n,n≠nm nx->erHF h' n=erHF h n:=λn hn=>by
        by_cases e2:n=jD id (j.toNat+1)
        .subst e2;rw[hdead,hold]
        .exact hsame n hn e2
       rw[bZ]at hroom;rw[hnil,jH]at hnew hval;have ha0:dE (.app s T.size m ty c) (DU e h) H (nm nx)=if aj ys==0 then Z ⟨.emp,rdl,[],[],[]⟩ else Z ⟨.I (nm nx) T.size (aj ys),rdl,[nm nx],[(nm nx,⟨s,oO ((ys.flatMap (bI T)).map .f)⟩)],[nm nx]⟩:=by
        simp only[dE,h1,h3,h5,Ff,hroom,ou,bt]
       by_cases hl:aj ys=0
       .rw[hl]at ha0;simp only[cj,bt]at ha0;have hnil2:ys=[]:=dC.1 hl;refine fy.mk' hc hH ha0 [] (by simp) (λn _=>?_) (by simp) (λH1 H2 d _ _ _=>⟨by simp,λy hy=>?_⟩) hrd (by simp) (by simp) hr hinv' (by omega)
        .by_cases e1:n=nm nx
         .subst e1;rw[hnew,hnil2,bG,hfr];rfl
         .exact hsame0 n e1
        .rw[hval,hnil2]at hy;cases hy;exact kh.refl d _
       .rw[av (by simpa using hl),yK]at ha0;rw[av (by simpa using hl)]at hnew;refine fy.app0 hinv hi hc hH ha0 hsame0 hnew (λH1 H2 d=>gx.refl d _) (λH1 H2 y d hy=>?_) hrd w1 hr hinv';rw[hval]at hy;unfold du at hy;rw[av (by simpa using hl)]at hy;cases hy;exact kh.refl d _
      .have hyb:yb= .I (jD id (j.toNat+1)) T.size n:=by rw[<- h2];unfold uP;rw[av (by simpa using hz)]
       subst hyb;have hg:H.get (jD id (j.toNat+1))=Z ⟨s,.fz (xs.flatMap (bI T))⟩:=by rw[hH,<-hxs];exact adn hb hj (by rw[hxs];omega)
       have fl:=eV (bk T) xs;have tk:(xs.flatMap (bI T)).take (n*T.size)=xs.flatMap (bI T):=by rw[hn,<-fl,dh]
       have hmem:mem (jD id (j.toNat+1)) rdl=af:=by
        cases hx:mem (jD id (j.toNat+1)) rdl with
        |false=>rfl
        |true=>
         let⟨sz,e,hm⟩:=h6 _ (ak9.1 hx);have:=(vw e).2;omega
       have ha0:dE (.app s T.size m ty c) (DU e h) H (nm nx)=Z ⟨.I (nm nx) T.size (n+ys.length),jD id (j.toNat+1)::rdl,[nm nx,jD id (j.toNat+1)],[(nm nx,⟨s,.fz ((xs++ys).flatMap (bI T))⟩)],[nm nx]⟩:=by
        have hcnd:(T.size==T.size&& !(mem (jD id (j.toNat+1)) rdl)&&(BC.fz (xs.flatMap (bI T))).isCells&&dY (n*T.size) (BC.fz (xs.flatMap (bI T))).len&&s==s&&bg (n+ys.length) m)=J:=by
         have:dY (n*T.size) (BC.fz (xs.flatMap (bI T))).len=J:=bf (by simp only[BC.len];rw[hn];omega);rw[this,hmem,hroom];simp[BC.isCells]
        simp only[dE,h1,h3,h5,hg,hcnd,bt,BC.toMx,<-gF,tk,<-cg,yK,KE]
       have hl3:(xs++ys).length=n+ys.length:=by rw[bH,hn]
       rw[av (by simp only[cU];omega)]at hnew;refine fy.app1 hinv hi hc hH ha0 hsame (λe=>by have:=(vw e).2;omega) hdead hnew (λH1 H2 d=>gx.refl d _) (λH1 H2 y d hy=>?_) (λn' hn'=>?_) (by rw[iI,bq,bm.2 (rfl:id=id)];rfl) w1 hr hinv'
       .rw[hval,hl3]at hy;unfold du at hy;rw[av (by simp only[lU,cU];omega)]at hy;cases hy;exact kh.refl d _
       .rcases bh.1 hn' with rfl|hn'
        .rw[iI,bq,bm.2 (rfl:id=id)];rfl
        .exact hrd _ hn'
    .cases z
   .cases z
  .cases z
 .rename_i b id j sb n _ hv hv2;let⟨yb,h1,h2⟩:=bc hi hv;let⟨yy,h3,h4⟩:=bc hi hv2;simp only[bX,Lc,ah]at h4;split at z
  .rename_i tyi T a xss hb;split at z
   .rename_i hq;simp only[al]at hq;let⟨q1,q2⟩:=hq;have q1:=au q1;have q2:=au q2;subst q1 q2;have hk0:=cG z;clear z;let⟨hj,z⟩:=hk0;have hk0:=cG z;clear z;let⟨hn,z⟩:=hk0;have hn:=au hn;generalize hxs:BG (T:=T) xss j=xs at*
    by_cases hz:n=0
    .have hyy:yy= .emp:=by rw[<- h4];unfold uP;rw[aC (by simpa using hz)]
     have hnil:xs=[]:=dC.1 (by omega);subst hyy hnil;exact UE hinv hi hH (rdl:=[]) hc h1 h2 h3 rfl (by simp) z
    .have hyy:yy= .I (jD id (j.toNat+1)) T.size n:=by rw[<- h4];unfold uP;rw[av (by simpa using hz)]
     subst hyy;have hg:H.get (jD id (j.toNat+1))=Z ⟨tyi,.fz (xs.flatMap (bI T))⟩:=by rw[hH,<-hxs];exact adn hb hj (by rw[hxs];omega)
     have fl:=eV (bk T) xs;have tk:(xs.flatMap (bI T)).take (n*T.size)=xs.flatMap (bI T):=by rw[hn,<-fl,dh]
     have hb2:dY (n*T.size) (xs.flatMap (bI T)).length=J:=bf (by rw[hn];omega);refine UE hinv hi hH (rdl:=[jD id (j.toNat+1)]) hc h1 h2 h3 ?_ (λq hq=>by simp only[aG]at hq;subst hq;rw[iI];exact bm.2 rfl) z;simp only[AV.row?,cj,bt,hg,BC.isCells,lU,BC.len,hb2,BC.toMx];rw[<- gF,tk,hn]
   .cases z
  .cases z
 .cases z
def ax4 {l:Operand} (hc:cM P o.op=Z (.zh s i m E l c)) (A:pW bY e h nx K (.zh s i m E l c)=Z r):iW P o af e h nx K r:=by
 let⟨H,hH⟩:=gK h;have hfr:=hinv.fresh;simp only[pW]at A;split at A
 .rename_i q T k a k' b hty hv hv2;split at A
  .rename_i hq;simp only[al]at hq;let⟨q1,q2⟩:=hq;have q1:=au q1;subst q1;have hz:E=[.slice U 0 0]:=by
    unfold akj at q2
    grind
   subst hz;let⟨hcond,A⟩:=cG A;let⟨y,h1,h2⟩:=bc hi hv;let⟨y2,h3,h4⟩:=bc hi hv2;simp[bX,ah]at h2 h4;subst h2 h4;generalize hn:aO a=n at A;have ha0:dE (.zh s 1 m [.slice U 0 0] l c) (DU e h) H (nm nx)=Z ⟨.I (nm nx) 1 n,[],[nm nx],[(nm nx,⟨s,.fz (repl [.slice U 0 0] n)⟩)],[nm nx]⟩:=by
    simp[dE,h1,h3,gq,hcond,bt,hn]
   generalize hh':(h.set nx (Z (.qx (.rr s T.size) (nx+1) (aE n (0:Int))))).set (nx+1) (Z (.qx (.ir (stN q) T) 0 (aE n ([]:Y T.den))))=h' at A;have hg:∀sz,h'.get sz=if sz=nx+1 then Z (.qx (.ir (stN q) T) 0 (aE n ([]:Y T.den))) else if sz=nx then Z (.qx (.rr s T.size) (nx+1) (aE n (0:Int))) else h.get sz:=λsz=>by
    rw[<- hh',PT.get_set,PT.get_set]
   have hfr2:h.get (nx+1)=U:=by
    cases L:h.get (nx+1) with
    |none=>rfl
    |some b=>have:=hinv.low _ b L;omega
   have hr:bW h h':=λsz r hi=>by
    rw[bB]at hi ⊢
    grind
   have hl:aj (α:=Int) (aE n (0:Int))=n:=ey ..;have hall:∀(bytes k:Nat),lK (nx+1) T.size k (aE bytes (0:Int))=aE bytes .emp:=λbytes=>by
    induction bytes with
    |zero=>intro k;rfl
    |succ bytes ih=>intro k;rw[KC,KC];simp[lK,ih];rfl
   have hnew:erHF h' (nm nx)=Z ⟨s,.mx (aE n .emp)⟩:=by
    rw[bG,hg,av (by omega),aC rfl];show Z (ko.mk s (.mx (lK (nx+1) T.size 0 (aE n (0:Int)))))=_;rw[hall]
   refine ⟨_,_,_,_,_,A,fy.mk' hc hH ha0 [nm nx] (λsz hi=>hi) (λbytes hm=>?_) (λsz hi b' hb'=>?_) (λH1 H2 d hw1 _ hw2=>⟨λsz hi b b' hb1 hb2=>?_,λy hy=>?_⟩) (by simp) (λbytes hm=>?_) (λbytes hm=>?_) hr ⟨λsz s l hil=>?_,λsz c' hic=>?_⟩ (by omega)⟩
   .have hm:bytes≠nm nx:=by simpa using hm
    unfold erHF;rw[hg];by_cases f0:ow bytes=nx+1
    .rw[aC f0,f0,hfr2];cases ix bytes with
     |zero=>rfl
     |succ k=>
      show rL k (stN q) T (aE n ([]:Y T.den))=U;unfold rL;rw[sY];split<;>rfl
    .rw[av f0];by_cases f1:ow bytes=nx
     .rw[aC f1,f1,hfr];cases L:ix bytes with
      |zero=>exact bT (by rw[pI L,f1]) hm
      |succ k=>rfl
     .rw[av f1];cases L:h.get (ow bytes) with
      |none=>rfl
      |some b=>exact mo hr (λs l e=>hinv.G _ _ l (by rw[L,e])) _ _
   .simp[aG]at hi;subst hi;exact⟨_,by rw[aC (by simp)];exact e9 _ _⟩
   .simp[aG]at hi;subst hi;rw[hw1 _ (by simp),e9]at hb1;rw[hw2 _ (by simp),hnew]at hb2;simp[ah]at hb1 hb2;subst hb1 hb2;refine gx.G rfl rfl ?_ λx L=>?_
    .simp[BC.toMx];exact Vt d n
    .simp only[BC.toMx]at L;rw[List.mem_replicate]at L;rw[L.2];rfl
   .simp only[bX,bB,hg,bt]at hy;rw[av (by omega)]at hy;simp only[aB,iH,sM,du,oY,cO,dZ,ah]at hy;subst hy;rw[hl];exact kh.refl d _
   .simp[aG]at hm;subst hm;rw[dj];exact bm.2 rfl
   .simp[aG]at hm;subst hm;rw[dj];omega
   .rw[hg]at hil;split at hil
    .cases hil
    .split at hil
     .cases hil
     .exact fo hr l (hinv.G sz _ l hil)
   .rw[hg]at hic;split at hic
    .omega
    .split at hic
     .omega
     .have:=hinv.low sz c' hic;omega
  .cases A
 .cases A
end ops
mutual
def FV.fl:FV->Bool
 |.raw _=>J
 |.agg l=>FV.flL l
 |.sl _ _=>af
 |.K _ _=>af
def FV.flL:Y FV->Bool
 |[]=>J
 |x::r=>x.fl&&FV.flL r
end
def ady:∀{l:Y FV},FV.flL l=J->∀x∈l,x.fl=J
 |[],_,x,z=>by cases z
 |y::l,h,x,z=>by
  simp[FV.flL,al]at h;rcases bh.1 z with rfl|z
  .exact h.1
  .exact ady h.2 x z
def ala:∀{l:Y FV},(∀x∈l,x.fl=J)->FV.flL l=J
 |[],_=>rfl
 |y::l,h=>by simp[FV.flL,al];exact⟨h y (by simp),ala λx z=>h x (by grind)⟩
def nS.flat {O':Nat->Prop} {w':World} {x:FV} (h:nS O W x v):x.fl=J->nS O' w' x v:=by
 induction h with
 |raw v=>intro _;exact .raw v
 |agg cells vs hl hcl I z=>intro h;exact .agg cells vs hl hcl λj x v A hv=>z j x v A hv (ady h x (ba A))
 |_=>intro h;cases h
mutual
def AV.fl:AV->Bool
 |.f x=>x.fl
 |.emp=>J
 |.qy=>J
 |.agg l|.qp l=>AV.flL l
 |.K _ _=>af
 |.sl _ _ _=>af
 |.I _ _ _=>af
 |.mp _=>af
 |.qf _ l=>AV.flL l
def AV.flL:Y AV->Bool
 |[]=>J
 |x::r=>x.fl&&AV.flL r
end
def Hx:∀{l:Y AV},AV.flL l=J->∀x∈l,x.fl=J
 |[],_,x,z=>by cases z
 |y::l,h,x,z=>by
  simp[AV.flL,al]at h;rcases bh.1 z with rfl|z
  .exact h.1
  .exact Hx h.2 x z
def aeu:∀{l:Y AV},(∀x∈l,x.fl=J)->AV.flL l=J
 |[],_=>rfl
 |y::l,h=>by simp[AV.flL,al];exact⟨h y (by simp),aeu λx z=>h x (by grind)⟩
def ch.flat {φ':PM} {O':Nat->Prop} {w':World} (h:ch T O W y v):y.fl=J->ch φ' O' w' y v:=by
 induction h with
 |f h=>intro hf;exact .f (h.flat hf)
 |emp=>intro _;exact .emp
 |qy=>intro _;exact .qy
 |agg hl hcl hr A=>intro hf;exact .agg hl hcl λj y v z L=>A j y v z L (Hx hf y (ba z))
 |qp hl hr A=>intro hf;exact .qp hl λj y v z L=>A j y v z L (Hx hf y (ba z))
 |qf hl hr A=>intro hf;exact .qf hl λj y v z L=>A j y v z L (Hx hf y (ba z))
 |_=>intro hf;cases hf
mutual
def auk (γ:Nat->Nat):∀x:AV,x.fl=J->x.qw γ=x
 |.f x,_|.emp,_|.qy,_=>rfl
 |.agg l,h|.qp l,h=>by simp[AV.qw];rw[GM γ l h]
 |.K _ _,h|.sl _ _ _,h|.I _ _ _,h|.mp _,h=>by cases h
 |.qf _ l,h=>by simp[AV.qw];rw[GM γ l h]
def GM (γ:Nat->Nat):∀l:Y AV,AV.flL l=J->AV.renL γ l=l
 |[],_=>rfl
 |x::r,h=>by
  simp[AV.flL,al]at h;rw[AV.renL,auk γ x h.1,GM γ r h.2]
end
def Dt:∀(T:Ty),T.flat=J->∀x:T.den,∀y∈bI T x,y.fl=J
 |.int _,_,x,y,z|.bool,_,x,y,z|.str,_,x,y,z=>by simp[bI,aG]at z;subst z;rfl
 |.sl _,h,x,y,z=>by cases h
 |.st t,h,x,y,z=>Dt t h x y z
 |.pr a b,h,x,y,z=>by
  simp[Ty.flat,al]at h;simp[bI,cq]at z;exact z.elim (Dt a h.1 x.1 y) (Dt b h.2 x.2 y)
 |.un,_,x,y,z=>by simp[bI]at z
 |.ex,h,_,_,_|.sm,h,_,_,_=>by cases h
def aq1 (T:Ty) (h:T.flat=J) (x:T.den):(gq T x).fl=J:=by
 cases z:T.one with
 |true=>
  have:=Dt T h x (gq T x) (by rw[(NL T x z).1];simp);exact this
 |false=>rw[sO T x z];exact ala (Dt T h x)
def Va (a b:Ty):(spr a b).flat=(a.flat&&b.flat):=by
 cases a<;>cases b<;>simp[spr,KK,Ty.flat]
def MN :∀{a b:Y TV},rT i (a++b)=J->rT i a=J/\rT i b=J
 |[],b,h=>⟨rfl,h⟩
 |x::r,b,h=>by
  simp[gG,rT,al]at h ⊢;let⟨h1,z⟩:=MN h.2;exact⟨⟨h.1,h1⟩,z⟩
def acw {z:Y p?} (h:rT 0 (z.map λp=>.K (g p.1) p.2)=J):z=[]:=by
 cases z with
 |nil=>rfl
 |cons p r=>simp[rT,Jw]at h
mutual
def aol {g:Nat->Nat} {h:a8}:∀(p:PV) (x:p.ty.den) (cs:Y TV) (l:Y AV),p.ty.flat=J->nP g p x=Z cs->rT 0 cs=J->cI h cs=Z l->∀y∈l,y.fl=J
 |.d T,x,cs,l,hf,hp,_,hl,y,hy=>by
  have:=(mR h 40 T x cs hp).1;rw[hl]at this;cases this;obtain⟨q,hq,rfl⟩:=cC.1 hy;exact Dt T hf x q hq
 |.K i q,x,cs,l,hf,hp,hlt,hl,y,hy|.qg i q z,x,cs,l,hf,hp,hlt,hl,y,hy=>by
  simp only[nP,ah]at hp;subst hp;simp[rT,Jw]at hlt
 |.qf q ps,x,cs,l,hf,hp,hlt,hl,y,hy=>by
  simp only[nP,ah]at hp;subst hp;simp only[rT,Jw,al]at hlt;have:=acw hlt.1;subst this;simp only[cI,bX,C6,ah]at hl;subst hl;rw[aG]at hy;subst hy;rfl
 |.ob i q,x,cs,l,hf,hp,hlt,hl,y,hy|.nr i q,x,cs,l,hf,hp,hlt,hl,y,hy|.I i,x,cs,l,hf,hp,hlt,hl,y,hy|.mp i,x,cs,l,hf,hp,hlt,hl,y,hy=>by
  simp only[nP,ah]at hp;subst hp;simp[rT,Jw]at hlt
 |.nil,x,cs,l,hf,hp,hlt,hl,y,hy|.emp,x,cs,l,hf,hp,hlt,hl,y,hy=>by
  simp only[nP,ah]at hp;subst hp;simp only[cI,bX,ah]at hl;subst hl;simp only[aG]at hy;subst hy;rfl
 |.agg ps,x,cs,l,hf,hp,hlt,hl,y,hy=>Mm ps x cs l hf hp hlt hl y hy
def Mm {g:Nat->Nat} {h:a8}:∀(ps:Y PV) (x:(PV.tyL ps).den) (cs:Y TV) (l:Y AV),(PV.tyL ps).flat=J->s8 g ps x=Z cs->rT 0 cs=J->cI h cs=Z l->∀y∈l,y.fl=J
 |[],x,cs,l,hf,hp,hlt,hl,y,hy=>by
  simp only[s8,ah]at hp;subst hp;simp only[cI,ah]at hl;subst hl;cases hy
 |p::ps,x,cs,l,hf,hp,hlt,hl,y,hy=>by
  simp only[PV.tyL]at hf;rw[Va,al]at hf;simp only[s8]at hp;split at hp
  .rename_i a ha;split at hp
   .rename_i b hb;cases hp;obtain⟨a',b',rfl,e1,e2⟩:=Fo hl;have hsp:=MN hlt;rcases cq.1 hy with hy|hy
    .exact aol p _ a a' hf.1 ha hsp.1 e1 y hy
    .exact Mm ps _ b b' hf.2 hb hsp.2 e2 y hy
   .cases hp
  .cases hp
end
def aoj {p:PV} {x:p.ty.den} (hf:p.ty.flat=J) (hp:r8 g p x=Z u) (hlt:Jw 0 u=J) (A:bX h u=Z y):y.fl=J:=by
 cases p with
 |d T=>
  simp only[r8,ah]at hp;subst hp;simp only[bX,ah]at A;subst A;exact aq1 T hf x
 |agg ps=>
  simp only[r8]at hp;split at hp
  .rename_i l hl;cases hp;simp only[bX]at A;split at A
   next l' L=>cases A;exact aeu (Mm ps _ l l' hf hl hlt L)
   .cases A
  .cases hp
 |qf q ps=>
  simp only[r8,ah]at hp;subst hp;have:=acw hlt;subst this;simp only[bX,cI,C6,ah]at A;subst A;rfl
 |nil|emp=>simp only[r8,ah]at hp;subst hp;simp only[bX,ah]at A;subst A;rfl
 |_=>simp only[r8,ah]at hp;subst hp;simp[Jw]at hlt
def VB :∀(A:Y PV) (x:(PV.tyL A).den) (z:Y TV) (l:Y AV),(PV.tyL A).flat=J->r7 g A x=Z z->rT 0 z=J->cI h z=Z l->AV.flL l=J
 |[],x,z,l,hf,hp,hlt,I=>by
  simp[r7,ah]at hp;subst hp;simp[cI,ah]at I;subst I;rfl
 |p::A,x,z,l,hf,hp,hlt,I=>by
  simp[PV.tyL]at hf;rw[Va,al]at hf;simp[r7]at hp;split at hp
  .rename_i a ha;split at hp
   next b hb=>simp[ah]at hp;subst hp;obtain⟨y,L,rfl,e1,e2⟩:=cV I;simp[rT,al]at hlt;simp[AV.flL,al];exact⟨aoj hf.1 ha hlt.1 e1,VB A _ b L hf.2 hb hlt.2 e2⟩
   .cases hp
  .cases hp
def ao3:∀{l:Y AV},AV.flL l=J->(FH l).fl=J
 |[],_=>rfl
 |[x],h=>by simp only[AV.flL,al]at h;exact h.1
 |x::y::r,h=>h
def aqi {o:Oper} {e:ia} {c:ci} (hinv:gY h i) (sp:rR P f c) {x:c.pre.ty.den} {σ:PT Nat} {sm:Nat} (A:L3 0 c.pre j h x m σ sm) {vs:Y TV} {hp:a8} {l1:Y (M fc)} (I:pY c.pre x vs hp l1) {y:c.post.ty.den} (hm:c.m x=Z y) {rs:Y TV} {hq:a8} {l2:Y (M fc)} (B:pY c.post y rs hq l2) (hp0:l! c.pre.bs=0) (hq0:l! c.post.bs=0) (hfl:(PV.tyL c.post.vs).flat=J)
 (g:Nat->Nat) (hla:cI h j=Z r)
 (hexec:∀(φ:PM) (E:Nat->Prop) (h':HF) (w:World) (a:Act),(∀t,.tmp t∈o.op.operands->∀y,fQ e h t=Z y->ch φ (tot E φ h') w y (a.tmps.getD t undef))->sV φ E h' w->∃us:ξ,(execOp a.eval o).run P w= .ok (.enter f us.toArray) w/\lG φ (tot E φ h') w r us):
 fy P o af e h i (Vr (li g rs)) m 0 h i:=by
 let⟨x1,m1,x2,m2,hx,hmm,gv,gb⟩:=A.ex;have hmr:dJ h m:=by rw[hmm];exact (TO _ _ _ _ gv).or (TQ _ _ _ _ gb)
 have pvg:r7 (iv σ) c.pre.vs x1=Z (li (iv σ) vs):=by
  have h3:=vK (iv σ) c.pre.vs x1;have h4:=I.pv;rw[hx,vE]at h4;rw[h3,h4];rfl
 let⟨lr,hlr⟩:=fH hq rs B.ok;let⟨lp,hlp⟩:=fH hp vs I.ok;have hfl':AV.flL lr=J:=VB c.post.vs _ rs lr hfl B.pv (by rw[<- hq0];exact B.lt) hlr;have hpe:∀nx,hp.get nx=U:=λnx=>by
  cases hb:hp.get nx with
  |none=>rfl
  |some b=>have:=I.lt_len hb;omega
 have hqe:∀nx,hq.get nx=U:=λnx=>by
  cases hb:hq.get nx with
  |none=>rfl
  |some b=>have:=B.lt_len hb;omega
 have rows_hp:∀nx la,eO hp nx=Z la->eO (dM m h) (iv σ nx)=Z la:=λnx la L=>by rw[bB,hpe]at L;cases L
 have rows_hq:∀nx la,eO hq nx=Z la->eO h (g nx)=Z la:=λnx la L=>by rw[bB,hqe]at L;cases L
 have rows_in:Ba (dM m h) h:=λl la L=>by
  rw[bB]at L ⊢;rw[iL]at L;split at L
  next ht=>let⟨ty,p,T,xs,hb⟩:=hmr l ht;rw[hb]at L ⊢;exact L
  .exact L
 have hOpT:gC P o (fQ e h) (erHF h) ⟨FH lr,Ju m,[],λ_=>U,[]⟩:=by
  intro φ E h' w a hrd hwr hops hrep hN;let⟨us,hrun,hrel⟩:=hexec φ E h' w a hops hrep
  let Hv:HF:=λn=>if n∈Ju m then U else h' n
  have Hv_in:∀n,n∈Ju m->Hv n=U:=λn hn=>by grind
  have Hv_out:∀n,n∉Ju m->Hv n=h' n:=λn hn=>by grind
  have hd:rX h' Hv:=λn b hb=>by grind
  have gvv:Fx h h' Hv m:=λnx hi=>⟨hrd _ (mG.2 hi),Hv_in _ (mG.2 hi)⟩
  have V:O4 h' Hv:=⟨hd,λn b b' hb hb'=>by
   by_cases hn:n∈Ju m
   .grind
   .rw[Hv_out n hn,hb]at hb';cases hb';exact gx.refl hd b⟩
  have hrepv:=V.ql hrep;have hlpg:cI (dM m h) (li (iv σ) vs)=Z (AV.renL (p_ (iv σ)) lp):=qS rows_hp vs lp hlp;have hrel1:lG φ (tot E φ Hv) w (AV.renL (p_ (iv σ)) lp) us:=
   lG.le hrep (GA hd rows_in c.pre.vs j x1 m1 _ r _ gv pvg hla hlpg (λnx hi=>gvv nx (by grind))) hrel
  let E':Nat->Prop:=λk=>E k\/∃n b,Hv n=Z b/\φ n=Z k
  have T:ar5 c.pre x vs hp (iv σ) φ E E' Hv w:=by
   refine sV.toId I (λa b ha=>by omega) hrepv (λn yb hn=>by have:=(I.erHF hn).1;omega) ?_ (λn k y hn=>by have:=(I.erHF hn).1;omega) ?_
   .rintro k (hE|⟨n,b,h1,h3⟩)
    .exact .inl hE
    .exact .inr ⟨n,b,h1,h3⟩
   .rintro k (hE|⟨n,b,h1,h3⟩)
    .exact hrepv.el k hE
    .obtain⟨k',q1,_,ob,q3,_⟩:=hrepv.at_ n b h1
     grind
  have hcalls:=sp.calls x y hm vs hp l1 rs hq l2 lp lr I B hlp hlr (φ1 (l! c.pre.bs) (iv σ) φ) E' w us T.ql (lG.toId T.val (vC vs lp I.lt hlp) hrel1) (λn k hk=>(Ae hk).1);unfold Lv;rw[hrun];refine Calls.mono hcalls ?_;rintro en w' ⟨v,φc',rfl,hext,hown,hnm,rp,rv'⟩;have hno:∀k,¬own (φ1 (l! c.pre.bs) (iv σ) φ) (erHF hp) k:=by
   rintro k ⟨n,b,h1,_⟩;let⟨bb,h3,_⟩:=iM h1;rw[hpe]at h3;cases h3
  have mv:jU φ φ h' h' w w':=⟨λ_ _ h=>h,hext.mono λk hk=>bT hk (hno k),λ_ _ h=>h⟩
  refine ⟨v,φ,rfl,?_,λ_ _ h=>.inl h,?_,?_⟩
  .rw[vU];exact mv
  .rw[vU];refine hrep.moved mv λk hk=>?_
   let⟨n,b,h1,h3⟩:=hk;let⟨k',q1,_,ob,q3,_⟩:=hrep.at_ n b h1;rw[h3]at q1;cases q1;exact hext.jm k (dw.1 q3).1 (hno k)
  .exact rv'.flat (ao3 hfl')
 have hrsg:cI h (li g rs)=Z (AV.renL (p_ g) lr):=qS rows_hq rs lr hlr;refine ⟨⟨_,hOpT,λz hz=>?_,?_,λn hn=>?_,by simp,by simp⟩,λ_ _ h=>h,hinv,bK _,nofun⟩
 .rw[acs hrsg,GM _ lr hfl']at hz;cases hz;rfl
 .exact vU _ _
 .obtain⟨nx,rfl,hi⟩:=pt.1 hn;rw[dj];exact hi
def ci.full (c:ci):ci:=⟨c.pre,⟨c.post.vs,c.pre.bs⟩,λx=>ax (c.m x) λy=>Z (mkp (PV.tyL c.post.vs) (PB.tyL c.pre.bs) (UW _ _ y) (SA _ _ x))⟩
def aL (P:Program) (f:FuncId) (c:ci):Prop:=if dY (l! c.pre.bs) (l! c.post.bs)=J then rR P f c else rR P f c.full
def rR.toC {c:ci} (h:rR P f c) (z:dY (l! c.pre.bs) (l! c.post.bs)=J):aL P f c:=by
 unfold aL;rw[aC z];exact h
def aL.holds {c:ci} (h:aL P f c) (z:dY (l! c.pre.bs) (l! c.post.bs)=J):rR P f c:=by
 unfold aL at h;rw[aC z]at h;exact h
def ap5 (a b:Ty) (z:(spr a b).den):mkp a b (UW a b z) (SA a b z)=z:=by cases a<;>cases b<;>rfl
open Classical in
def roM {pre:Tm} {vs:Y PV} (m:pre.ty.den->M (Tm.ty ⟨vs,pre.bs⟩).den) (x:pre.ty.den):M (Tm.ty ⟨vs,[]⟩).den:=
 ax (m x) λy=>if SA (PV.tyL vs) (PB.tyL pre.bs) y=SA _ _ x then Z (mkp (PV.tyL vs) (PB.tyL []) (UW (PV.tyL vs) (PB.tyL pre.bs) y) ()) else U
def aL.ro {P:Program} {f:FuncId} {pre:Tm} {vs:Y PV} {m:pre.ty.den->M (Tm.ty ⟨vs,pre.bs⟩).den} {m':pre.ty.den->M (Tm.ty ⟨vs,[]⟩).den} (h:rR P f ⟨pre,⟨vs,pre.bs⟩,m⟩) (hb:dY (l! pre.bs) 0=af) (hs:∀x y,m' x=Z y->roM m x=Z y):aL P f ⟨pre,⟨vs,[]⟩,m'⟩:=by
 unfold aL;rw[av (by grind)];refine ⟨h.zg,λx y hxy=>?_⟩;refine h.calls x y ?_;let⟨z,L,hzy⟩:=dV hxy;have h1:=hs x z L;let⟨y0,hy0,I⟩:=dV h1;split at I
 .rename_i heq;have I:=fU I;have hzy:=fU hzy;subst I;have A:mkp (PV.tyL vs) (PB.tyL pre.bs) (UW (PV.tyL vs) (PB.tyL pre.bs) y0) (SA (PV.tyL pre.vs) (PB.tyL pre.bs) x)=y:=(d_ (λq=>mkp (PV.tyL vs) (PB.tyL pre.bs) q (SA (PV.tyL pre.vs) (PB.tyL pre.bs) x)) (vE (PV.tyL vs) (PB.tyL []) _ ()).symm).trans hzy;rw[<- heq]at A;have:=(ap5 (PV.tyL vs) (PB.tyL pre.bs) y0).symm.trans A
  grind
 .cases I
def fy.drop {o:Oper} {e:ia} {h':a8} {rd wr W wr':Nat} (t:fy P o af e h i u rd wr h' m) (hW:∀nx,aM W nx=J->(∀n,ow n=nx->erHF h' n=erHF h n)/\aM rd nx=J) (hw:∀nx,aM wr nx=J->aM W nx=J\/aM wr' nx=J):fy P o af e h i u rd wr' h' m:=by
 let⟨⟨f,h1,h2,h3,h4,h5,L⟩,r,nx,g,st⟩:=t;have hup:∀b:HF,(∀n∈f.wr,b n=erHF h n)->fm b (f.wr.filter λn=> !(aM W (ow n))) f.nw=fm b f.wr f.nw:=λb hH=>by
  funext n;unfold fm;by_cases z:n∈f.wr
  .by_cases hb:aM W (ow n)=J
   .rw[av (by grind),aC z];have:=congrFun h3 n;unfold fm at this
    grind
   .grind
  .grind
 refine ⟨⟨⟨f.val,f.rd++(f.wr.filter λn=>aM W (ow n)),f.wr.filter λn=> !(aM W (ow n)),f.nw,f.N⟩,?_,h2,?_,λn z=>?_,λn z=>?_,L⟩,r,nx,g,nofun⟩
 .intro φ E b w a hrd hwr hops hrep I;have k1:∀nx∈f.rd,b nx=erHF h nx:=λnx hi=>hrd nx (jV _ hi)
  have k2:∀nx∈f.wr,b nx=erHF h nx:=λnx hi=>by grind
  have:=h1 φ E b w a k1 k2 hops hrep I
  grind
 .grind
 .grind
 .grind
mutual
def akb {n n':Nat} (hle:n<=n'):∀(v:TV),Jw n v=J->Jw n' v=J
 |.I id,h|.zl id _,h|.zq id _ _ _,h|.K id _,h|.qg id _ _,h|.mp id,h=>by simp[Jw,Pm]at h ⊢;omega
 |.agg l,h|.qp l,h|.qf _ l,h=>yP hle l h
 |.f _ _,_|.zf _ _ _ _ _,_|.emp,_|.nil,_|.undef,_|.np,_|.qy,_=>rfl
 |.sb s,h=>by simp[Jw,Pm]at h ⊢;omega
def yP {n n':Nat} (hle:n<=n'):∀(l:Y TV),rT n l=J->rT n' l=J
 |[],_=>rfl
 |x::r,h=>by
  simp[rT,al]at h ⊢;exact⟨akb hle x h.1,yP hle r h.2⟩
end
def Rp {g g':Nat->Nat} {h:a8}:∀(bs:Y PB) (i:Nat) (x:(PB.tyL bs).den) (m:Nat),L2 bs=J->GJ g h i bs=Z (x,m)->∃l,ry g' bs x=Z l/\l! l=l! bs/\∀j,j<l! bs->∃ty p T xs,l[j]? =Z (Z (.H ty p T xs))/\h.get (g (i+j))=Z (.H ty p T xs)
 |[],i,x,m,_,A=>⟨[],rfl,rfl,λj L=>by simp at L⟩
 |.H ty p T::r,i,x,m,I,A=>by
  simp[GJ]at A;split at A
  .rename_i x1 m1 h1;split at A
   .rename_i x2 m2 h2;obtain⟨rfl,rfl⟩:=A;let⟨l,q1,q2,q3⟩:=Rp (g:=g) (g':=g') (h:=h) r (i+1) x2 m2 I h2;simp only[Fk]at h1;split at h1
    .rename_i ty' p' S xs hb;split at h1
     .rename_i hc;simp[al,cU]at hc;split at h1
      .rename_i z hz;let⟨es,ez⟩:=je hz;refine ⟨Z (.H ty p T x1)::l,?_,by simp[q2],λj L=>?_⟩
       .simp[ry];rw[vE,xm,q1];rfl
       .grind
      .cases h1
     .cases h1
    .cases h1
   .cases A
  .cases A
 |.qm _ _::r,i,x,m,I,A|.G _ _::r,i,x,m,I,A|.mp _ _::r,i,x,m,I,A|.qd::r,i,x,m,I,A=>by cases I
def Jt:∀{bs:Y PB},L2 bs=J->E6 bs=J
 |[],_=>rfl
 |.H _ _ _::r,h=>Jt (bs:=r) h
 |.qm _ _::r,h|.G _ _::r,h|.mp _ _::r,h|.qd::r,h=>by cases h
def Jn {z:a8} :∀(n:Nat),(∀i,i<n->z.get (g i)=h.get (g i))->vV h z g n=J
 |0,_=>rfl
 |n+1,A=>by
  simp[vV,al];refine ⟨?_,Jn n λi hi=>A i (by omega)⟩;have:eO z (g n)=eO h (g n):=by rw[bB,bB,A n (by omega)]
  rw[this];cases eO h (g n) with
  |none=>rfl
  |some q=>let⟨p,s,k⟩:=q;simp
def HJ (P:Program) (con:FuncId->M ci):Prop:=∀f c,con f=Z c->aL P (f%65536) c
def Vf (hf:f<65536):∀l:Y TV,aod f l%65536=f
 |[]=>xh hf
 |x::r=>by
  have z:=Vf hf r;unfold aod;split
  next he=>cases he
  .rw[Nat.add_mul_mod_self_left];exact xh hf
  .rw[Nat.add_mul_mod_self_left];exact xh hf
  next he=>cases he;exact z
variable {X:FuncId->M ci}
def aqf (hcon:HJ P X) {c:ci} (h:aus X f j=Z c):aL P f c:=by
 unfold aus at h;split at h
 .rename_i hf;have hf:=UB hf;split at h
  .rename_i A z;simp[ah]at h;subst h;have:=hcon _ _ z
   rwa [Vf hf]at this
  .have:=hcon _ _ h
   rwa [xh hf]at this
 .cases h
def aen (hcon:HJ P X) {o:Oper} {e:ia} {K:KO R} {la:R} (hinv:gY h i) (L:aeo X f j h i K=Z la) (hla:cI h j=Z r)
 (hexec:∀(φ:PM) (E:Nat->Prop) (h':HF) (w:World) (a:Act),HL P f->(∀t,.tmp t∈o.op.operands->∀y,fQ e h t=Z y->ch φ (tot E φ h') w y (a.tmps.getD t undef))->sV φ E h' w->∃us:ξ,(execOp a.eval o).run P w= .ok (.enter f us.toArray) w/\lG φ (tot E φ h') w r us):iW P o af e h i K la:=by
 unfold aeo at L;split at L
 .rename_i c hc;have spc:=aqf hcon hc;split at L
  .rename_i x m σ sm hM;split at L
   .rename_i q hq;let⟨vs,hp⟩:=q;let⟨l1,I⟩:=yS hq;let⟨y,hy,L⟩:=dV L;split at L
    .rename_i q2 hq2;let⟨rs1,hq1⟩:=q2;let⟨l2,z⟩:=yS hq2;split at L
     .rename_i hcond;simp only[al]at hcond;have hle:=aY hcond.1;have sp:=spc.holds hcond.1;simp only at L;split at L
      .rename_i rs hrs;have hrs':=hrs;rw[vK,z.pv]at hrs';simp only[bw,ah]at hrs';split at L
       next hb=>simp only[al]at hb;have hq0:=au hb.1.2;refine ⟨_,_,_,_,_,L,?_⟩;rw[<- hrs'];exact aqi hinv sp (yM hM) I hy z (by omega) hq0 hb.2 _ hla λφ E h' w a=>hexec φ E h' w a sp.zg
       .split at L
        .rename_i h2 hh2;let⟨hsr,L⟩:=cG L;refine ⟨_,_,_,_,_,L,?_⟩;rw[<- hrs'];unfold Q9 at hh2;rw[yC,z.pb]at hh2;simp only[bw,ah]at hh2;exact am3 hinv sp (yM hM) I hcond.2 hy z hle (λnx hi=>by
          have:eK nx (l! c.pre.bs)=J:=bf hi;simp only[this,bt]) (λnx hi=>by
          have:eK nx (l! c.pre.bs)=af:=by
           cases hb:eK nx (l! c.pre.bs) with
           |false=>rfl
           |true=>have:=aY hb;omega
          simp only[this];rfl) hh2.symm hsr hla λφ E h' w a=>hexec φ E h' w a sp.zg
        .cases L
      .cases L
     .rename_i hcond;split at L
      .rename_i hro;simp only[al]at hro;have hq0:=au hro.1;have hng:=Jt hro.2;have sp:rR P f c.full:=by
        unfold aL at spc
        rwa [av (λhb=>hcond (by rw[hb,hng];rfl))]at spc
       simp only at L;split at L
       .rename_i rs hrs;split at L
        .rename_i h2 hh2;have hrs':=hrs;rw[vK,z.pv]at hrs';simp only[bw,ah]at hrs';refine ⟨_,_,_,_,_,L,?_⟩;rw[<- hrs'];have A:=yM hM;unfold Q9 at hh2;rw[yC,I.pb]at hh2;simp only[bw,ah]at hh2;have hqe:∀nx,hq1.get nx=U:=λnx=>by
          cases hb:hq1.get nx with
          |none=>rfl
          |some b=>have:=z.lt_len hb;omega
         have J':pY c.full.post (mkp (PV.tyL c.post.vs) (PB.tyL c.pre.bs) (UW _ _ y) (SA _ _ x)) rs1 hp l1:=
          ⟨by show r7 MX c.post.vs (UW (PV.tyL c.post.vs) (PB.tyL c.pre.bs) _)=_;rw[vE];exact z.pv,by show ry MX c.pre.bs (SA (PV.tyL c.post.vs) (PB.tyL c.pre.bs) _)=_;rw[xm];exact I.pb,I.len,I.at_,fo (λnx la hr=>by rw[bB,hqe]at hr;cases hr) _ z.ok,yP (by omega) _ z.lt,I.G,I.qx,I.nox⟩
         let⟨x1,m1,x2,m2,hx,hmm,gv,gb⟩:=A.ex;let⟨j,q1,q2,q3⟩:=Rp (g':=MX) c.pre.bs 0 x2 m2 hro.2 gb;have hl1:l1=j:=by
          have:=I.pb;rw[hx,xm,q1]at this;cases this;rfl
         subst hl1;have hgi:∀nx,nx<l! c.pre.bs->(if eK nx (l! c.pre.bs) then iv σ nx else i+(nx-l! c.pre.bs))=iv σ nx:=λnx hi=>by simp_all
         have hsame:∀nx,nx<l! c.pre.bs->h2.get (iv σ nx)=h.get (iv σ nx):=λnx hi=>by
          let⟨ty,p,T,xs,w1,w2⟩:=q3 nx hi;rw[bZ]at w2;have:=xv (λnx=>if eK nx (l! c.pre.bs) then iv σ nx else i+(nx-l! c.pre.bs)) (l1.map (ik (kO (λnx=>if eK nx (l! c.pre.bs) then iv σ nx else i+(nx-l! c.pre.bs))))) 0 (dM m h) (λa b ha hb e=>by
           simp only[bx,q2]at ha hb;rw[bZ,bZ,hgi a ha,hgi b hb]at e;exact A.inj a b ha hb e) nx (Z (.H ty p T xs)) (by rw[bE,w1];rfl)
          rw[bZ,hgi nx hi]at this;rw[<- hh2,this,w2]
         have t:=am3 (o:=o) (e:=e) hinv sp A I hng (y:=mkp (PV.tyL c.post.vs) (PB.tyL c.pre.bs) (UW _ _ y) (SA _ _ x)) (by show ax (c.m x) _=_;rw[hy];rfl) J' (bK _) (g:=λnx=>if eK nx (l! c.pre.bs) then iv σ nx else i+(nx-l! c.pre.bs)) hgi (λnx hi=>by
          have:eK nx (l! c.pre.bs)=af:=by
           cases hb:eK nx (l! c.pre.bs) with
           |false=>rfl
           |true=>have:=aY hb;have hi:l! c.pre.bs<=nx:=hi;omega
          simp only[this];rfl) hh2.symm (Jn _ λnx hi=>by rw[hgi nx hi];exact hsame nx hi) hla λφ E h' w a=>hexec φ E h' w a sp.zg
         have t':fy P o af e h i (Vr (li (λnx=>if eK nx (l! c.pre.bs) then iv σ nx else i+(nx-l! c.pre.bs)) rs1)) (sm|||m) (sm|||m|||(((1<<<(l! c.pre.bs-l! c.pre.bs))-1)<<<i)) h2 (i+(l! c.pre.bs-l! c.pre.bs)):=t;rw[Lw,dQ]at t';refine t'.drop (W:=sm) (λnx hi=>?_) (λnx hi=>?_)
         .refine ⟨?_,by rw[bq,hi];rfl⟩;obtain⟨k,L,rfl⟩:=(A.sig nx).1 hi;let⟨ty,p,T,xs,_,w2⟩:=q3 k L;rw[bZ]at w2;intro n hn;unfold erHF;rw[hn,hsame k L,w2];cases ix n<;>rfl
         .grind
        .cases L
       .cases L
      .cases L
    .cases L
   .cases L
  .cases L
 .cases L
variable {V:TypeId->M Ty}
def ats (hcon:HJ P X) {o:Oper} {e:ia} {nx:SI} {K:KO R} {r:R} (hinv:gY h i) (hi:s7 e h) (hc:xM P o.op=nx) (L:eQ X V nx e h i K=Z r):iW P o nx.still e h i K r:=by
 have callOps:∀(c:Call),o.op= .call c->∀x,x∈c.operands->x∈o.op.operands:=λc I x A=>by rw[I];exact A
 cases nx with
 |call f args=>
  simp[eQ]at L;split at L
  .rename_i l hl;have I:∃c:Call,o.op= .call c/\c.callee= .value (.func f)/\c.args.toList=args:=by
    unfold xM at hc;split at hc
    .rename_i nx hi;unfold OR at hi
     grind
    .grind
   let⟨c,I,h1,h2⟩:=I;let⟨la,g1,g2⟩:=F6 hi hl;refine aen hcon hinv L g2 λφ E h' w a hcb hops hrep=>?_
   have hp:Rel φ E h' w a (DU e h) o:=λx y A hy=>xE hrep (by rw[Ds];exact hops) A hy
   refine ⟨args.map a.eval,?_,aa1 hp args la (λx A=>callOps c I x (by simp[eT,h1,<-h2]at A ⊢;exact .inr A)) g1⟩;unfold execOp;rw[I];have hm:c.args.map a.eval=(args.map a.eval).toArray:=by grind
   simp[resolve,h1,Act.eval,Deferred.ofValue,invoke,hm,Ah hcb]
  .cases L
 |jt x args=>
  simp[eQ]at L;split at L
  .rename_i f cap l A hl;have I:∃c:Call,o.op= .call c/\c.callee= .value x/\c.args.toList=args:=by
    unfold xM at hc;split at hc
    .rename_i nx hi;unfold OR at hi
     grind
    .grind
   let⟨c,I,h1,h2⟩:=I;let⟨la,g1,g2⟩:=F6 hi hl;let⟨yx,g3,g4⟩:=bc hi A;simp[bX]at g4;split at g4
   .rename_i lc hlc;simp[ah]at g4;subst g4;refine aen hcon hinv L (oV g2 hlc) λφ E h' w a hcb hops hrep=>?_
    have hp:Rel φ E h' w a (DU e h) o:=λx y A hy=>xE hrep (by rw[Ds];exact hops) A hy
    have hxv:=hp x _ (callOps c I x (by simp[eT,h1])) g3;have hlv:=aa1 hp args la (λx A=>callOps c I x (by simp[eT,h1,<-h2]at A ⊢;exact .inr A)) g1;generalize hz:a.eval x=z at hxv;cases hxv with
    |@qf _ _ vs hvl hvr=>
     refine ⟨args.map a.eval++vs,?_,hlv.append (lG.of hvl hvr)⟩;unfold execOp;rw[I];have hm:c.args.map a.eval=(args.map a.eval).toArray:=by grind
     simp[resolve,h1,hz,Deferred.ofValue,invoke,hm,Ah hcb]
   .cases g4
  .cases L
 |op s=>
  have hc:s= .jq\/cM P o.op=Z s:=by
   unfold xM at hc;split at hc
   .rename_i nx hi;unfold OR at hi
    grind
   .grind
  rcases hc with rfl|hc
  .simp[eQ]at L
  .exact K_op hinv hi hc L
def F_op {o:Oper} {e:ia} {s:U0} {K:KO R} {r:R} (hinv:gY h i) (hi:s7 e h) (I:cM P o.op=Z s) (A:pW V e h i K s=Z r):iW P o s.still e h i K r:=by
 cases s with
 |load sz L x=>exact ax5 hinv hi I A
 |store sz x v=>exact arx hinv hi I A
 |jz x=>exact ax3 hinv hi I A
 |jp off x=>exact aBj hinv hi I A
 |jb sz x nx=>exact aBi hinv hi I A
 |jf str ok z x k=>exact aBg hinv hi I A
 |jg str x k v=>exact aBe hinv hi I A
 |app ty sz bytes s x=>exact aBl hinv hi I A
 |zh ty sz bytes z l c=>exact ax4 hinv hi I A
 |jw neg x=>exact ax6 hinv hi I A
 |lkq ds z x k=>
  have hd:ds=i2:=by
   unfold pW at A
   grind
  subst hd;exact aBh hinv hi I A
 |mpq ds x k v=>
  have hd:ds=i2:=by
   unfold pW at A
   grind
  subst hd;exact aBf hinv hi I A
 |dlq ds x k=>
  have hd:ds=i2:=by
   unfold pW at A
   grind
  subst hd;exact aBk hinv hi I A
 |_=>exact bT A (by simp[pW])
def ay8 (hcon:HJ P X) {o:Oper} {e:ia} {nx:SI} {K:KO R} {r:R} (hinv:gY h i) (hi:s7 e h) (A:xM P o.op=nx) (z:opK X V nx e h i K=Z r):iW P o nx.still e h i K r:=by
 unfold opK at z;split at z
 .split at z
  .rename_i s _;have A:s= .jq\/cM P o.op=Z s:=by
    unfold xM at A;split at A
    .rename_i nx hi;unfold OR at hi
     grind
    .grind
   rcases A with rfl|A
   .simp[pW]at z
   .exact F_op hinv hi A z
  .cases z
 .exact ats hcon hinv hi A z
end
end Go.Proofs.YtocjfbiifiaagaaGreatDoor.AI
