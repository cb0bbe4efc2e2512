/-
  Texts of the proof, part 2 of 5: what is used to prove the statement. No condition.
-/
import Derived.Test.YtcmnmakaoonfgaaGreatDoorWeakSectionsQ0
namespace Go.Proofs.YtcmnmakaoonfgaaGreatDoor.AI
open Go.RowKit
set_option maxRecDepth 100000
set_option maxHeartbeats 4000000
set_option linter.unusedVariables false
set_option linter.unusedSimpArgs false
set_option linter.defProp false
open _root_.Bool renaming true→J,false→aa
open Call renaming operands→dC
open _root_.Int renaming toNat→aO,ofNat→aQ
open _root_.List renaming length→l!,length→ah,replicate→aF,length_cons→bK,take→dB,map→fX,cons_append→gA,range→iN,toArray→jA,nil_append→kT,getElem?_cons_succ→ms,length_nil→mR,replicate_succ→m8,set→pR,append→sJ,map_nil→wJ,take_succ_cons→xD,flatMap_append→xF,map_drop→yO
open _root_.Nat renaming beq→ay,testBit→aJ,add_zero→cW,ble→dF,blt→dY,min→lM,mod_eq_of_lt→wH,mul_one→Gi,blt_eq→Nx
open _root_.Option renaming some→Z,none→U,bind_some→aC,map_some→bn,map→hX
open Sem renaming run→io
open Value.bool renaming injEq→Eh
open World renaming cell?→Qz
noncomputable section
variable {w:World} {V:PM} {O:Nat->Prop} {A:HF} {Q:Act}
def Yj {e:DE} {o:Oper} (hp:W_ V O A w Q e o):∀(xs:Y Operand) (z:Y AV),(∀x∈xs,x∈o.op.operands)->evs e xs=Z z->lH V (tot O V A) w z (xs.map Q.eval)
 |[],z,_,h=>by simp[evs,af]at h;subst h;trivial
 |x::xs,z,hm,h=>by
  simp[evs]at h;split at h
  .rename_i y h';split at h
   next ys' hys=>simp[af]at h;subst h;exact⟨hp x y (hm x (cP ..)) h',Yj hp xs ys' (λx D=>hm x (bJ _ D)) hys⟩
   .cases h
  .cases h
variable {P:Program} {f:FuncId}
def ED (D:Gh P f) (args:Array Value) (w:World):(callFunc f args).run P w= .ok (.enter f args) w:=by
 let⟨fn,h1,N,L⟩:=D;have z:fn.name≠ "runtime.NumGoroutine" :=by grind
 have A:fn.body≠U:=by grind
 simp[callFunc,program,io,h1,A,z]
def Z_:∀(z:Y FPm) (i:Nat),ac7 z i=z[i]?
 |[],i=>by simp[ac7]
 |f::z,0=>rfl
 |f::z,i+1=>by simp[ac7,Z_ z i]
variable {i j:Nat}
def zP (h:IY i j=J) (a:Nat) (z:aJ i a=J):aJ j a=aa:=by
 have h0:i&&&j=0:=au h;have:=Nat.testBit_and i j a
 grind
structure Ctx where
 n0:Nat
 φ:PM
 E:Nat->Prop
 h:HF
 w:World
def aj0 (P:Program) (d:Deferred):Prop:=∀w:World,∃A cap f args,d.target= .fn A cap/\(invoke d.target d.args).run P w= .ok (.enter f args) w/\
 CallsD P f args .returning w λe z w'=>(∃v,e= .returned v)/\z= .returning/\w'=w
structure Cfg (P:Program) (C:Ctx) (nt:Nat) (s:IS) (a:Act) (w:World):Prop where
 ex:∃φ,jT C.φ φ C.h s.h.get C.w w/\sh φ C.E s.h.get w/\Qy φ (tot C.E φ s.h.get) w s.e.get a/\(∀i k,φ i=Z k->i<s.nx)/\∀i k,φ i=Z k->C.φ i=Z k\/C.n0<=i
 low:C.n0<=s.nx
 inert:∀d∈a.defers,aj0 P d
 size:a.tmps.size=nt
variable {b:Bool}
def Cfg.bool {C:Ctx} {s:IS} (c:Cfg P C i s Q w) (ht:s.e.get j=Z (.f (.raw (.bool b)))):Q.eval (.tmp j)= .bool b:=by
 let⟨φ,_,_,en,_,_⟩:=c.ex;exact eX (en j _ ht)
variable {d:Exit->Act->World->Prop}
def Et {c:Code} (I:Nat->Act->World->Prop) (round:∀n a w,I n a w->c.wp P (Exit.then (λz w'=>∃m,m<n/\I m z w') d) a w) {n:Nat} {a:Act} (h0:I n a w):(Code.loop c).wp P d a w:=by
 have least:∀(n:Nat) (a:Act) (w:World),I n a w->∃m,I m a w/\∀k,I k a w->m<=k:=by
  intro n;induction n using Nat.strongRecOn with
  |_ n D=>grind
 have pick:∀a w,∃m,(∃n,I n a w)->I m a w/\∀k,I k a w->m<=k:=λa w=>by
  by_cases L:∃n,I n a w
  .grind
  .simp_all
 let μ:Act->World->Nat:=λa w=>Classical.choose (pick a w)
 have hμ:∀a w,(∃n,I n a w)->I (μ a w) a w/\∀k,I k a w->μ a w<=k:=λa w=>Classical.choose_spec (pick a w)
 refine wp_loop (λa w=>∃n,I n a w) μ ⟨n,h0⟩ λa w A=>?_
 refine wp_mono (round (μ a w) a w (hμ a w A).1) λe z w' he=>?_
 cases e with
 |normal=>grind
 |_=>exact he
def Ex.to:Ex->Exit
 |.normal=>.normal
 |.exit id=>.exit id
 |.ret=>.ret
def SD (P:Program) (inert:FuncId->Bool):Prop:=∀f,inert f=J->Gh P f/\∀(args:Array Value) (w:World),CallsD P f args .returning w λe z w'=>(∃v,e= .returned v)/\z= .returning/\w'=w
def afb (tmps:Array Value):ResultVar->Sem Value
 |.tmp t=>pure (tmps.getD t undef)
 |.cell a t=>do
  let ad<-asAddr (tmps.getD a undef)
  loadVar t ad
def Xw (fn:Func) (tmps:Array Value):results fn tmps=(do let vs<-fn.results.mapM (afb tmps);pure (if h:vs.size=1 then vs[0] else .tuple vs)):=by
 congr 2
def EX {P:Program} {fn:Func} {tmps:Array Value} {R:Ending->World->Prop} {w:World} {v:Value} (z:(results fn tmps).run P w= .ok v w) (A:R (.returned v) w):∀(ds:Y Deferred),(∀d∈ds,aj0 P d)->Leaves P fn tmps R ds .returning w
 |[],_=>⟨v,z,A⟩
 |d::ds,h=>by
  let⟨N,cap,f,args,h1,L,D⟩:=h d (cP ..) w;refine ⟨by simp,N,cap,f,args,h1,L,D.mono ?_⟩;rintro e u' w' ⟨⟨v',rfl⟩,rfl,rfl⟩;exact EX z A ds λd hd=>h d (bJ _ hd)
def lH.get :∀{xs:Y AV} {vs:ξ},lH V O w xs vs->∀(j:Nat) x,xs[j]? =Z x->∃v,vs[j]? =Z v/\co V O w x v
 |[],_,_,j,x,z=>by simp at z
 |_::_,[],h,_,_,_=>h.elim
 |y::xs,u::vs,h,j,x,z=>by
  cases j with
  |zero=>simp at z;subst z;exact⟨u,rfl,h.1⟩
  |succ j=>exact lH.get h.2 j x (by grind)
def V8 {z:SF} (h:BQ P f=Z z):∃fn c,P.funcs[f]? =Z fn∧fn.body=Z c∧(fn.name== "runtime.NumGoroutine")=aa∧z.code=cE P fn.ntmps c∧w9 P fn.results.toList=Z z.res∧z.nt=fn.ntmps:=by
 unfold BQ at h
 grind
variable {v:Value}
def alu {b:Value} (h:apo v b=J):v=b:=by
 unfold apo at h;split at h
 .simp at h;rw[h]
 .grind
 .rw[xa.1 h]
 .simp_all
 .rfl
 .grind
 .cases h
variable {R:Type}
def PT.mapO {β:Type} (g:R->M β):PT R->PT β
 |.leaf=>.leaf
 |.node v l r=>.node (v.bind g) (PT.mapO g l) (PT.mapO g r)
def PT.get_mapO {β:Type} (g:R->M β):∀(t:PT R) (i:Nat),(PT.mapO g t).get i=(t.get i).bind g
 |.leaf,i|.node v l r,0=>by simp[PT.mapO,PT.get]
 |.node v l r,j+1=>by
  simp[PT.mapO,PT.get];split
  .exact PT.get_mapO g l _
  .exact PT.get_mapO g r _
def PT.get_updI (f:Nat->R->R):∀(t:PT R) (a b i:Nat),(PT.updI f a b t).get i=(t.get i).map (f (a*i+b))
 |.leaf,_,_,i=>by simp[PT.updI,PT.get]
 |.node v l r,a,b,0=>by cases v<;>simp[PT.updI,PT.get]
 |.node v l r,a,b,j+1=>by
  simp only[PT.updI,PT.get];split
  .rename_i z;rw[PT.get_updI f l];have:2*a*(j/2)+(a+b)=a*(j+1)+b:=by
    have A:j=2*(j/2):=by have:=au z;omega
    grind
   rw[this]
  .rename_i z;rw[PT.get_updI f r];have:2*a*(j/2)+(2*a+b)=a*(j+1)+b:=by
    have h1:j%2≠0:=λh=>z (by rw[h];rfl)
    have A:j=2*(j/2)+1:=by omega
    grind
   rw[this]
def PT.bound :∀(t:PT R),∃B,∀i,B<=i->t.get i=U
 |.leaf=>⟨0,λi _=>rfl⟩
 |.node v l r=>by
  let⟨a,A⟩:=PT.bound l;let⟨b,z⟩:=PT.bound r;refine ⟨2*(a+b)+3,λi hi=>?_⟩;cases i with
  |zero=>omega
  |succ j=>
   simp[PT.get]
   grind
def PT.ofF (f:Nat->M R):Nat->PT R
 |0=>.leaf
 |n+1=>(PT.ofF f n).set n (f n)
def PT.get_ofF (f:Nat->M R):∀(n i:Nat),(PT.ofF f n).get i=if i<n then f i else U
 |0,i=>by simp[PT.ofF,PT.get]
 |n+1,i=>by
  rw[PT.ofF,PT.get_set,PT.get_ofF f n]
  grind
def ji (i k:Nat):Nat:=2^i*(2*k+1)-1
def nm (i:Nat):Nat:=ji i 0
def owA:Nat->Nat->Nat
 |0,_=>0
 |f+1,m=>if m%2=1 then 0 else owA f (m/2)+1
def ow (n:Nat):Nat:=owA (n+1) (n+1)
def ix (n:Nat):Nat:=(n+1)/2^ow n/2
def ZC:∀(i f k:Nat),i<f->owA f (2^i*(2*k+1))=i
 |0,f+1,k,_=>by rw[owA,aD (by omega)]
 |i+1,f+1,k,h=>by
  have e:2^(i+1)*(2*k+1)=2*(2^i*(2*k+1)):=by grind
  rw[owA,av (by omega),e,Nat.mul_div_cancel_left _ (by omega),ZC i f k (by omega)]
def ZD:∀(f m:Nat),0<m->m<=f->2^owA f m*(2*(m/2^owA f m/2)+1)=m
 |0,m,h0,h=>by omega
 |f+1,m,h0,h=>by
  rw[owA];split
  .omega
  .have z:=ZD f (m/2) (by omega) (by omega);rw[Nat.pow_succ,Nat.mul_comm (2^owA f (m/2)) 2,<-Nat.div_div_eq_div_mul,Nat.mul_assoc,z];omega
def ZT (i k:Nat):0<2^i*(2*k+1):=Nat.mul_pos (Nat.two_pow_pos i) (by omega)
def iF (i k:Nat):ow (ji i k)=i:=by
 have h:=ZT i k;have z:i<2^i*(2*k+1):=dw Nat.lt_two_pow_self (Nat.le_mul_of_pos_right _ (by omega));unfold ow ji;rw[Nat.sub_add_cancel h,ZC _ _ _ z]
def vN (i k:Nat):ix (ji i k)=k:=by
 have h:=ZT i k;unfold ix;rw[iF];unfold ji;rw[Nat.sub_add_cancel h,Nat.mul_div_cancel_left _ (Nat.two_pow_pos i)];omega
def kN (n:Nat):ji (ow n) (ix n)=n:=by
 have:=ZD (n+1) (n+1) (by omega) (bO _);unfold ji ix ow;rw[this];rfl
def pi (h:ix i=0):i=nm (ow i):=by
 have:=kN i;rw[h]at this;exact this.symm
def c8 (i:Nat):ow (nm i)=i:=iF i 0
def ass (i:Nat):ix (nm i)=0:=vN i 0
def uM {k l:Nat} (h:ji i k=ji j l):i=j/\k=l:=by
 have h1:=eW ow h;have z:=eW ix h;rw[iF,iF]at h1;rw[vN,vN]at z;exact⟨h1,z⟩
def ui (h:nm i=nm j):i=j:=(uM h).1
def dt (p:Bool) (id sz n:Nat):AV:=if p&&n==0 then .emp else .G (nm id) sz n
def pB (id:Nat) (j:Int):Nat:=ji id (3*j.toNat+1)
def uh (id:Nat) (j sz n:Nat):AV:=if n==0 then .emp else .G (ji id (j+1)) sz n
def Jx:Sb->AV
 |.ob id j off=>.H (pB id j) off
 |.om id j b=>.mp (ji id (3*j.toNat+2+b))
 |.nr id j sz n=>uh id j.toNat sz n
 |.np id j sz i off=>.H (ji id (j.toNat+1)) (i.toNat*sz+off)
 |.nl=>.f (.raw (.map U))
mutual
def bZ (h:aX):TV->M AV
 |.f T v=>Z (.f (fM T v))
 |.zk T xs j _ off=>Z (.f (.H (xs.flatMap (bI T)) (j.toNat*T.size+off)))
 |.ql id sz j off=>Z (.H (nm id) (j.toNat*sz+off))
 |.H id off=>Z (.H (nm id) off)
 |.qy id sz n=>Z (.G (nm id) sz n)
 |.G id=>match eg h id with|some (p,sz,n)=>Z (dt p id sz n)|none=>U
 |.zm id j=>match eg h id with|some (_,sz,n)=>Z (.sl (nm id) (j.toNat*sz) (n-j.toNat))|none=>U
 |.emp=>Z .emp
 |.nil=>Z (.f (.raw (.slice U 0 0)))
 |.mp id=>Z (.mp (nm id))
 |.agg l=>match cI h l with|some l'=>Z (.agg l')|none=>U
 |.qg l=>match cI h l with|some l'=>Z (.qg l')|none=>U
 |.qv g l=>match cI h l with|some l'=>Z (.qv g l')|none=>U
 |.undef=>Z (.f (.raw undef))
 |.np=>Z (.f (.raw (.pointer U)))
 |.qw=>Z .qw
 |.qm T xs=>Z (.qm (xs.flatMap (bI T)) (ah xs))
 |.sb s=>Z (Jx s)
def cI (h:aX):Y TV->M (Y AV)
 |[]=>Z []
 |x::r=>match bZ h x with
  |some y=>(match cI h r with|some l=>Z (y::l)|none=>U)
  |none=>U
end
def qR:(K:Ty)->K.den->Value
 |.int k,n=>.int k n
 |.str,s=>.string ⟨jA s⟩
 |_,_=>undef
def mpC:(K V:Ty)->Y (K.den×V.den)->BC
 |.st (.pr .str (.int .i64)),.un,es=>.it ⟨jA (NA es)⟩ (Lp es)
 |K,V,es=>.mp (es.map λp=>(qR K p.1,.f (fM V p.2)))
variable {T:Ty}
def ze {V:Ty} {es:Y (T.den×V.den)} (h:XH T=J):mpC T V es= .mp (es.map λp=>(qR T p.1,.f (fM V p.2))):=by
 unfold mpC;split
 .cases h
 .rfl
def ap6 {V:Ty} {es:Y (T.den×V.den)} {s:ζ} (h:itE T V es=Z (s,i)):mpC T V es= .it ⟨jA s⟩ i:=by
 unfold itE at h;split at h
 .cases h;rfl
 .cases h
def pM:Nat->Y AV->Y j!
 |_,[]=>[]
 |i,v::r=>(.int .i64 (aQ i),v)::pM (i+1) r
def E4:∀(l:Y AV) (i j:Nat),(pM i l)[j]? =(l[j]?).map λv=>(.int .i64 (aQ (i+j)),v)
 |[],i,j|v::r,i,0=>rfl
 |v::r,i,j+1=>by
  rw[pM,ms,E4 r (i+1) j,show i+1+j=i+(j+1) from by omega];rfl
def GW (k:Value):∀(l:Y AV) (i:Nat),k∈(pM i l).map (·.1)->yf k
 |v::r,i,h=>by
  rcases aZ.1 h with h|h
  .exact⟨_,h⟩
  .exact GW k r (i+1) h
def PD:∀(l:Y AV) (i:Nat),(pM i l).map (·.2)=l
 |[],_=>rfl
 |v::r,i=>by rw[pM,bY,PD r (i+1)]
def T_ (f:AV->AV):∀(l:Y AV) (i:Nat),(pM i l).map (λp=>(p.1,f p.2))=pM i (l.map f)
 |[],_=>rfl
 |v::r,i=>by rw[pM,bY,T_ f r (i+1)];rfl
def PF:∀(l:Y AV) (i n:Nat),told (aQ (i+n)) (pM i l)=l[n]?
 |[],i,n=>rfl
 |v::r,i,0=>by rw[pM,told,cW,aD rfl];rfl
 |v::r,i,n+1=>by
  rw[pM,told,av (λe=>by have:=Int.ofNat.inj e;omega),show i+(n+1)=i+1+n from by omega,PF r (i+1) n];rfl
def PH (y:AV) (n:Int):∀(l:Y AV) (i:Nat),n<aQ i->my n y (pM i l)=pM i l
 |[],i,_=>rfl
 |v::r,i,h=>by
  simp only[pM,my];rw[PH y n r (i+1) (Int.lt_trans h (Int.ofNat_lt.2 (nX i))),av (λe=>by rw[e]at h;exact Int.lt_irrefl _ h)]
def T9 (y:AV):∀(l:Y AV) (i n:Nat),my (aQ (i+n)) y (pM i l)=pM i (l.set n y)
 |[],i,n=>rfl
 |v::r,i,0=>by
  simp only[pM,my,cW,List.set_cons_zero];rw[PH y (aQ i) r (i+1) (Int.ofNat_lt.2 (nX i)),aD trivial]
 |v::r,i,n+1=>by
  simp only[pM,my,List.set_cons_succ];rw[av (λe=>by have:=Int.ofNat.inj e;omega),show i+(n+1)=i+1+n from by omega,T9 y r (i+1) n]
variable {s:TypeId}
def aaz {es:Y j!} {ents:Array MapEntry} (f:AV->AV):Wy s (es.map λp=>(p.1,f p.2)) ents=Wy s es ents:=by unfold Wy;rw[kM];rfl
def Kw {l:Y R} {x:R} (h:i<l! l):splice l i [x]=l.set i x:=by
 rw[List.set_eq_take_append_cons_drop,aD h];simp[splice]
def abo (k:ν):Value:=.agg #[.int .i64 k.1,.int .i64 k.2]
def wy (a:Nat) (es:Y d?):Y j!:=es.map λe=>(abo e.1,.H (pB a e.2) 0)
def Ma (a:Nat) (k:ν) (v:AV):Y d?->Y j!
 |[]=>[(abo k,v)]
 |e::r=>if k=e.1 then (abo k,v)::wy a r else (abo e.1,.H (pB a e.2) 0)::Ma a k v r
def lI (a sz:Nat):Nat->η->Y AV
 |_,[]=>[]
 |k,l::r=>uh a k sz l.toNat::lI a sz (k+1) r
def tX (a:Nat):(F:uc)->F.ty.den->M kl
 |.qc ty,z=>if ah z==0 then U else Z ⟨ty,.mx (fX (λj=>.H (pB a j) 0) z)⟩
 |.qh,es=>Z ⟨0,.mp (wy a es)⟩
 |.rr ty sz,A=>Z ⟨ty,.mx (lI a sz 0 A)⟩
 |_,_=>U
def aa2 (a:Nat) (k:ν):(F:uc)->F.ty.den->M (Nat×Bool×Nat)->M kl
 |.qh,es,Z (p,_,_)=>Z ⟨0,.mp (Ma a k (.H (nm p) 0) es)⟩
 |.rr ty sz,z,Z (r,b,n)=>Z ⟨ty,.mx ((lI a sz 0 z).set k.1.toNat (dt b r sz n))⟩
 |_,_,_=>U
def GJ (es:Y o?):Y j!:=es.map λe=>(.int .i64 e.1,.f (.raw (.bool e.2)))
def vY (id k:Nat) (ty:TypeId) (S:Ty) (o:S.den×Y (Int×Bool)×Y (Int×Bool)):kl:=
 if k%3=0 then ⟨ty,.mx ((bI S o.1).map .f++[.mp (ji id (k+2)),.mp (ji id (k+3))])⟩ else ⟨0,.mp (GJ (if k%3=1 then o.2.1 else o.2.2))⟩
def Yh (ty:TypeId) (T:Ty) (xs:Y T.den):M kl:=if (l! xs)==0 then U else Z ⟨ty,.fz (xs.flatMap (bI T))⟩
def qT (id k:Nat) (ty:TypeId) (S:Ty) (xs:Y (BX S)):M kl:=(xs[k/3]?).map (vY id k ty S)
def qS (k:Nat) (ty:TypeId) (T:Ty) (xss:Y (Y T.den)):M kl:=(xss[k]?).bind (Yh ty T)
def Jw (id:Nat) (k:Nat):(F:uc)->F.ty.den->M kl
 |.ar ty S,xs=>qT id k ty S xs
 |.ir ty T,xss=>qS k ty T xss
 |_,_=>U
def wu (id k:Nat):eD->M kl
 |.I F _ x=>Jw id k F x
 |.qp F _ x j U=>if k=j.1.toNat then U else Jw id k F x
 |.qp F _ x _ (Z _)=>Jw id k F x
 |_=>U
def jJ (h:aX):eD->M kl
 |.F ty p T xs=>if p&&l! xs==0 then U else Z ⟨ty,.fz (xs.flatMap (bI T))⟩
 |.C (Z ty) l=>match cI h l with|some l'=>Z ⟨ty,.mx l'⟩|none=>U
 |.C U l=>match cI h l with|some l'=>Z ⟨1,.mp (pM 0 l')⟩|none=>U
 |.qj _ _ _=>U
 |.mp K V es=>Z ⟨0,mpC K V es⟩
 |.I F a x=>tX a F x
 |.qp F a x k p=>aa2 a k F x p
def fC (e:gT) (h:aX):EF:=λt=>(e.get t).bind (bZ h)
def NC (h:aX) (id:Nat):Nat->eD->M kl
 |0,b=>jJ h b
 |k+1,b=>wu id k b
def erHF (h:aX):HF:=λn=>(h.get (ow n)).bind (NC h (ow n) (ix n))
def bE (h:aX) (i:Nat):erHF h (nm i)=(h.get i).bind (jJ h):=by
 unfold erHF;rw[c8,ass];rfl
def kJ (h:aX) (i k:Nat):erHF h (ji i (k+1))=(h.get i).bind (wu i k):=by
 unfold erHF;rw[iF,vN];rfl
variable {h:aX} {S:kl}
def iK (z:erHF h i=Z S):∃c,h.get (ow i)=Z c/\NC h (ow i) (ix i) c=Z S:=by
 unfold erHF at z;cases A:h.get (ow i) with
 |none=>rw[A]at z;cases z
 |some c=>rw[A]at z;exact⟨c,rfl,z⟩
def GH:eD->Nat
 |.I (.ar _ _) _ x=>3*ah x
 |.I (.ir _ _) _ x=>ah x
 |.qp (.ar _ _) _ x _ _=>3*ah x
 |.qp (.ir _ _) _ x _ _=>ah x
 |_=>0
def aa3 {id:Nat} {F:uc} {x:F.ty.den} (A:Jw id i F x=Z S) (a:Nat):i<GH (.I F a x):=by
 cases F with
 |ar ty b=>
  let⟨o,z,_⟩:=gg.1 A;have:=(bB.1 z).1;simp[GH];omega
 |ir ty T=>
  let⟨o,z,_⟩:=Option.bind_eq_some_iff.1 A;exact (bB.1 z).1
 |_=>cases A
def ZW {c:eD} (z:wu i j c=Z S):j<GH c:=by
 cases c with
 |I F a x=>exact aa3 (id:=i) z a
 |qp F a x k p=>
  have:Jw i j F x=Z S:=by
   cases p with
   |none=>simp only[wu]at z;split at z;cases z;exact z
   |some q=>exact z
  have:=aa3 (id:=i) this a;cases F<;>exact this
 |_=>cases z
def CS (e:gT) (h:aX):DE:=PT.mapO (bZ h) e
def Cn (e:gT) (h:aX):(CS e h).get=fC e h:=by funext t;exact PT.get_mapO _ _ _
def al5 (L:∀y c,h.get y=Z c->GH c<=i) (D:erHF h j=Z S):ix j<=i:=by
 let⟨c,h1,z⟩:=iK D;have:=L _ c h1;cases A:ix j with
 |zero=>omega
 |succ k=>
  rw[A]at z;have:=ZW z;omega
def ZV (h:aX):∃y,∀i c,h.get i=Z c->GH c<=y:=by
 let⟨B,N⟩:=PT.bound h;have:∀B,∃y,∀i c,i<B->h.get i=Z c->GH c<=y:=by
  intro B;induction B with
  |zero=>exact⟨0,λi c hi=>by omega⟩
  |succ B D=>
   let⟨y,A⟩:=D;cases L:h.get B with
   |none=>exact⟨y,λi c hi z=>by
     by_cases e:i=B
     .grind
     .exact A i c (by omega) z⟩
   |some b=>exact⟨max y (GH b),λi c hi z=>by
     by_cases e:i=B
     .grind
     .have:=A i c (by omega) z;omega⟩
 let⟨y,A⟩:=this B;refine ⟨y,λi c z=>A i c ?_ z⟩
 grind
def gu (h:aX):∃H:mQ,H.get=erHF h:=by
 let⟨B,hB⟩:=PT.bound h;let⟨y,L⟩:=ZV h;refine ⟨PT.ofF (erHF h) (2^B*(2*y+2)),?_⟩;funext n;rw[PT.get_ofF];split
 .rfl
 .rename_i hn;cases A:erHF h n with
  |none=>rfl
  |some b=>
   let⟨c,h1,z⟩:=iK A;have N:ow n<B:=by grind
   have hi:ix n<=y:=by
    have:=L _ c h1;cases D:ix n with
    |zero=>omega
    |succ k=>
     rw[D]at z;have:=ZW z;omega
   have he:=kN n;unfold ji at he;have h3:2^ow n*(2*ix n+1)<=2^B*(2*y+2):=Nat.mul_le_mul (Nat.pow_le_pow_right (by omega) (by omega)) (by omega)
   grind
variable {r:Y TV} {u:TV} {B:Y AV}
def cZ (he:cI h (u::r)=Z B):∃y l',B=y::l'/\bZ h u=Z y/\cI h r=Z l':=by
 simp[cI]at he
 grind
variable {y:AV}
def p_ (h1:bZ h u=Z y) (z:cI h r=Z B):cI h (u::r)=Z (y::B):=by
 simp[cI,h1,z]
def gK :∀{l:Y TV} {l':Y AV},cI h l=Z l'->l! l'=l! l
 |[],l',he=>by simp[cI,af]at he;subst he;rfl
 |x::r,l',he=>by
  obtain⟨y,A,rfl,_,z⟩:=cZ he;simp[gK z]
def oL :∀{a b:Y TV} {A b':Y AV},cI h a=Z A->cI h b=Z b'->cI h (a++b)=Z (A++b')
 |[],b,A,b',z,D=>by simp[cI,af]at z;subst z;exact D
 |x::r,b,A,b',z,D=>by
  obtain⟨y,N,rfl,h1,L⟩:=cZ z;exact p_ h1 (oL L D)
def D' :∀{a b:Y TV} {l:Y AV},cI h (a++b)=Z l->∃z b',l=z++b'/\cI h a=Z z/\cI h b=Z b'
 |[],b,l,he=>⟨[],l,rfl,rfl,he⟩
 |x::r,b,l,he=>by
  obtain⟨y,N,rfl,h1,L⟩:=cZ he;obtain⟨z,b',rfl,D,A⟩:=D' L;exact⟨y::z,b',rfl,p_ h1 D,A⟩
def Hj :∀{l:Y TV} {l':Y AV} (n:Nat),cI h l=Z l'->cI h (l.take n)=Z (l'.take n)
 |[],l',n,he=>by simp[cI,af]at he;subst he;simp[cI]
 |x::r,l',n,he=>by
  obtain⟨y,A,rfl,h1,z⟩:=cZ he;cases n with
  |zero=>simp[cI]
  |succ n=>exact p_ h1 (Hj n z)
def Hl :∀{l:Y TV} {l':Y AV} (n:Nat),cI h l=Z l'->cI h (l.drop n)=Z (l'.drop n)
 |[],l',n,he=>by simp[cI,af]at he;subst he;simp[cI]
 |x::r,l',n,he=>by
  obtain⟨y,A,rfl,h1,z⟩:=cZ he;cases n with
  |zero=>exact he
  |succ n=>simpa using Hl n z
def oK {vs:Y TV} {vs':Y AV} (off:Nat) (h1:cI h r=Z B) (z:cI h vs=Z vs'):cI h (splice r off vs)=Z (splice B off vs'):=by
 unfold splice;rw[gK z];exact oL (oL (Hj _ h1) z) (Hl _ h1)
def ly :∀{l:Y TV} {l':Y AV},cI h l=Z l'->∀(j:Nat) x,l[j]? =Z x->∃y,l'[j]? =Z y/\bZ h x=Z y
 |[],l',he,j,x,D=>by simp at D
 |x::r,l',he,j,z,A=>by
  obtain⟨y,N,rfl,h1,L⟩:=cZ he;cases j with
  |zero=>simp at A;subst A;exact⟨y,rfl,h1⟩
  |succ j=>simpa using ly L j z (by grind)
mutual
def oc (h:aX):∀(u:TV),NZ h u=J->∃y,bZ h u=Z y
 |.f _ _,_|.zk _ _ _ _ _,_|.ql _ _ _ _,_|.H _ _,_|.qy _ _ _,_=>⟨_,rfl⟩
 |.G id,he|.zm id jj,he=>by
  simp[NZ]at he;cases hr:eg h id with
  |none=>rw[hr]at he;cases he
  |some r=>obtain⟨p,sz,n⟩:=r;exact⟨_,by simp[bZ,hr];rfl⟩
 |.emp,_|.nil,_|.mp _,_=>⟨_,rfl⟩
 |.agg l,he|.qg l,he|.qv g l,he=>by obtain⟨y,hy⟩:=eR h l he;exact⟨_,by simp[bZ,hy];rfl⟩
 |.undef,_|.np,_|.qw,_|.qm _ _,_|.sb _,_=>⟨_,rfl⟩
def eR (h:aX):∀(l:Y TV),lJ h l=J->∃l',cI h l=Z l'
 |[],_=>⟨[],rfl⟩
 |x::r,he=>by
  simp[lJ,al]at he;obtain⟨y,hy⟩:=oc h x he.1;obtain⟨l',hl⟩:=eR h r he.2;exact⟨_,p_ hy hl⟩
end
def bV (h h':aX):Prop:=∀id r,eg h id=Z r->eg h' id=Z r
mutual
def fh {h h':aX} (hk:bV h h'):∀(u:TV) (y:AV),bZ h u=Z y->bZ h' u=Z y
 |.f _ _,y,he=>he
 |.zk _ _ _ _ _,y,he=>he
 |.ql _ _ _ _,y,he=>he
 |.H _ _,y,he=>he
 |.qy _ _ _,y,he=>he
 |.G id,y,he|.zm id jj,y,he=>by
  simp[bZ]at he ⊢;split at he
  .rename_i p sz n hr;rw[hk _ _ hr];exact he
  .cases he
 |.emp,y,he=>he
 |.nil,y,he=>he
 |.mp _,y,he=>he
 |.agg l,y,he|.qg l,y,he|.qv g l,y,he=>by
  simp[bZ]at he ⊢;split at he
  .rename_i l' hl;rw[fT hk l l' hl];exact he
  .cases he
 |.undef,y,he=>he
 |.np,y,he=>he
 |.qw,y,he=>he
 |.qm _ _,y,he=>he
 |.sb _,y,he=>he
def fT {h h':aX} (hk:bV h h'):∀(l:Y TV) (l':Y AV),cI h l=Z l'->cI h' l=Z l'
 |[],l',he=>he
 |x::r,l',he=>by
  obtain⟨y,l2,rfl,h1,h2⟩:=cZ he;exact p_ (fh hk x y h1) (fT hk r l2 h2)
end
mutual
def lV {h h':aX} (hk:bV h h'):∀(u:TV),NZ h u=J->NZ h' u=J
 |.f _ _,_|.zk _ _ _ _ _,_|.ql _ _ _ _,_|.H _ _,_|.qy _ _ _,_=>rfl
 |.G id,he|.zm id jj,he=>by
  simp[NZ]at he ⊢;cases hr:eg h id with
  |none=>rw[hr]at he;cases he
  |some r=>rw[hk _ _ hr];rfl
 |.emp,_|.nil,_|.mp _,_=>rfl
 |.agg l,he|.qg l,he|.qv g l,he=>e9 hk l he
 |.undef,_|.np,_|.qw,_|.qm _ _,_|.sb _,_=>rfl
def e9 {h h':aX} (hk:bV h h'):∀(l:Y TV),lJ h l=J->lJ h' l=J
 |[],_=>rfl
 |x::r,he=>by
  simp[lJ,al]at he ⊢;exact⟨lV hk x he.1,e9 hk r he.2⟩
end
mutual
def Hi (h:aX):∀(u:TV) (y:AV),bZ h u=Z y->NZ h u=J
 |.f _ _,_,_|.zk _ _ _ _ _,_,_|.ql _ _ _ _,_,_|.H _ _,_,_|.qy _ _ _,_,_=>rfl
 |.G id,y,he|.zm id jj,y,he=>by
  simp[NZ,bZ]at he ⊢;cases hr:eg h id with
  |none=>rw[hr]at he;cases he
  |some r=>rfl
 |.emp,_,_|.nil,_,_|.mp _,_,_=>rfl
 |.agg l,y,he|.qg l,y,he|.qv g l,y,he=>by
  simp[bZ]at he;split at he
  .rename_i l' hl;exact kQ h l l' hl
  .cases he
 |.undef,_,_|.np,_,_|.qw,_,_|.qm _ _,_,_|.sb _,_,_=>rfl
def kQ (h:aX):∀(l:Y TV) (l':Y AV),cI h l=Z l'->lJ h l=J
 |[],_,_=>rfl
 |x::r,l',he=>by
  obtain⟨y,l2,rfl,h1,h2⟩:=cZ he;simp[lJ,al];exact⟨Hi h x y h1,kQ h r l2 h2⟩
end
mutual
def U4 (h h':aX):∀(u:TV),vO u=J->bZ h u=bZ h' u
 |.f _ _,_|.zk _ _ _ _ _,_|.ql _ _ _ _,_|.H _ _,_|.qy _ _ _,_=>rfl
 |.G id,he=>by cases he
 |.emp,_|.nil,_|.mp _,_=>rfl
 |.agg l,he|.qg l,he=>by simp[bZ];rw[Hk h h' l he]
 |.qv g l,he=>by cases he
 |.undef,_|.np,_|.qw,_|.qm _ _,_=>rfl
 |.sb _,he=>by cases he
def Hk (h h':aX):∀(l:Y TV),rQ l=J->cI h l=cI h' l
 |[],_=>rfl
 |x::r,he=>by
  simp[rQ,al]at he;simp[cI];rw[U4 h h' x he.1,Hk h h' r he.2]
end
def Rl (he:bZ h u=Z y) (A:u.isC=J):y.isCell=J:=by
 cases u with
 |f T v=>cases T<;>simp[bZ,af]at he<;>subst he<;>first|rfl|(simp [TV.isC,Ty.one]at A)
 |G id=>
  simp[bZ]at he;split at he
  .simp[af]at he;subst he;unfold dt;split<;>rfl
  .cases he
 |zm id D|agg l|qg l|undef|qw|qm T xs=>cases A
 |qv g l=>
  simp[bZ]at he;split at he
  .simp[af]at he;subst he;rfl
  .cases he
 |sb s=>simp[bZ,af]at he;subst he;cases s<;>first|rfl|(simp [Jx,uh];split<;>rfl)
 |_=>simp[bZ,af]at he;subst he;rfl
def tG :∀{l:Y TV} {l':Y AV},cI h l=Z l'->lG l=J->gp l'=J
 |[],l',he,_=>by simp[cI,af]at he;subst he;rfl
 |x::r,l',he,z=>by
  obtain⟨y,D,rfl,h1,A⟩:=cZ he;simp[lG,al]at z;simp[gp,al];exact⟨Rl h1 z.1,tG A z.2⟩
def Le (x y:AV):Prop:=∀(φ:PM) (O:Nat->Prop) (w:World) (v:Value),co φ O w x v->co φ O w y v
def Le.refl (x:AV):Le x x:=λ_ _ _ _ h=>h
def jV (H H':HF) (x y:AV):Prop:=∀(φ:PM) (E:Nat->Prop) (w:World) (v:Value),sh φ E H w->co φ (tot E φ H) w x v->co φ (tot E φ H') w y v
def rf (H H':HF):Prop:=∀i b,H' i=Z b->∃b0,H i=Z b0
def rf.refl (H:HF):rf H H:=λ_ b h=>⟨b,h⟩
def rf.own {H':HF} (d:rf A H') (h:own V H' i):own V A i:=by
 let⟨k,b,h1,H⟩:=h;let⟨b0,z⟩:=d k b h1;exact⟨k,b0,z,H⟩
def rf.tot {H':HF} (d:rf A H') (h:tot O V H' i):tot O V A i:=h.imp id d.own
def co.dom {H':HF} (d:rf A H') (h:co V (tot O V A) w y v):co V (tot O V H') w y v:=
 h.ext (λ_ _ h=>h) (Ge.refl _ w) λ_ _ z=>d.tot z
def mO.dom {H':HF} (d:rf A H') {x:FV} (h:mO (tot O V A) w x v):mO (tot O V H') w x v:=
 h.ext (Ge.refl _ w) λ_ _ z=>d.tot z
def Le.toH {H':HF} (d:rf A H') {x:AV} (h:Le x y):jV A H' x y:=λφ E w v _ z=>(h _ _ _ _ z).dom d
def jV.refl {H':HF} (d:rf A H') (x:AV):jV A H' x x:=(Le.refl x).toH d
def gF (H H':HF):Y AV->Y AV->Prop
 |[],[]=>True
 |x::xs,y::z=>jV H H' x y/\gF H H' xs z
 |_,_=>False
def gF.refl {H':HF} (d:rf A H'):∀l,gF A H' l l
 |[]=>trivial
 |x::r=>⟨jV.refl d x,gF.refl d r⟩
def gF.length {H':HF}:∀{l l':Y AV},gF A H' l l'->l! l'=l! l
 |[],[],_=>rfl
 |[],_::_,h|_::_,[],h=>h.elim
 |_::_,_::_,h=>by simp[gF.length h.2]
def gF.get {H':HF}:∀{l l':Y AV},gF A H' l l'->∀(j:Nat) y,l'[j]? =Z y->∃x,l[j]? =Z x/\jV A H' x y
 |[],[],_,j,y,H=>by simp at H
 |[],_::_,h,_,_,_|_::_,[],h,_,_,_=>h.elim
 |x::xs,z::ys,h,j,y,H=>by
  cases j with
  |zero=>simp at H;subst H;exact⟨x,rfl,h.1⟩
  |succ j=>simpa using gF.get h.2 j y (by grind)
def gF.append {H':HF}:∀{a z b b':Y AV},gF A H' a z->gF A H' b b'->gF A H' (a++b) (z++b')
 |[],[],_,_,_,h=>h
 |[],_::_,_,_,h,_|_::_,[],_,_,h,_=>h.elim
 |_::_,_::_,_,_,h,h'=>⟨h.1,gF.append h.2 h'⟩
def gF.take {H':HF}:∀{a z:Y AV} (n:Nat),gF A H' a z->gF A H' (a.take n) (z.take n)
 |[],[],n,_=>by simp[gF]
 |[],_::_,_,h|_::_,[],_,h=>h.elim
 |_::_,_::_,0,_=>trivial
 |_::_,_::_,n+1,h=>⟨h.1,gF.take n h.2⟩
def gF.drop {H':HF}:∀{a z:Y AV} (n:Nat),gF A H' a z->gF A H' (a.drop n) (z.drop n)
 |[],[],n,_=>by simp[gF]
 |[],_::_,_,h|_::_,[],_,h=>h.elim
 |_::_,_::_,0,h=>h
 |_::_,_::_,n+1,h=>gF.drop n h.2
def gF.splice {H':HF} {H b b':Y AV} (off:Nat) (h1:gF A H' B H) (z:gF A H' b b'):gF A H' (splice B off b) (splice H off b'):=by
 unfold AI.splice;rw[z.length];exact ((h1.take off).append z).append (h1.drop _)
def fD (H H':HF) (b b':kl):Prop:=∀(φ:PM) (E:Nat->Prop) (w:World) (o:Obj),sh φ E H w->gR φ (tot E φ H) w b o->gR φ (tot E φ H') w b' o
def fD.refl {H':HF} (d:rf A H') (b:kl):fD A H' b b:=λ_ _ _ _ _ h=>h.mono λ_ _ h=>h.dom d
def qJ {c:BC} {o:Obj} (z:c.isCells=J):gR V O w ⟨s,c⟩ o↔∃arr,o= .cells arr s (0,0)/\u_ V O w c arr:=by
 cases c<;>simp[BC.isCells]at z<;>rfl
def fD.C {H':HF} {c H:BC} (L:c.isCells=J) (z:H.isCells=J) (hl:gF A H' c.toMx H.toMx) (hcell:∀x∈H.toMx,x.isCell=J):fD A H' ⟨s,c⟩ ⟨s,H⟩:=by
 intro φ E w o hrep N;rw[qJ L]at N;rw[qJ z];let⟨arr,h1,h2,h3⟩:=N;refine ⟨arr,h1,by rw[BC.len_toMx z,hl.length,<-BC.len_toMx L];exact h2,λj x D=>?_⟩;rw[BC.get_toMx z]at D;refine ⟨hcell x (aY D),?_⟩;let⟨y,hy,hle⟩:=hl.get j x D;let⟨_,v,h5,h6⟩:=h3 j y (by rw[BC.get_toMx L];exact hy);exact⟨v,h5,hle _ _ _ _ hrep h6⟩
def aht (ty:M TypeId) (l:Y AV):kl:=match ty with
 |some ty=>⟨ty,.mx l⟩
 |none=>⟨1,.mp (pM 0 l)⟩
def aqd {es:Y j!} {ents:Array MapEntry}:Wy 1 es ents↔(∀m∈ents.toList,yf m.key)/\∀k∈es.map (·.1),yf k:=by
 unfold Wy;rw[av (by decide)]
def MpV1 {ents:Array MapEntry} {k:Value}:MpV 1 ents j k v↔v=lx k ents.toList:=by
 unfold MpV;rw[av (by decide)]
def fD.told {H':HF} {l':Y AV} (hl:gF A H' B l'):fD A H' ⟨1,.mp (pM 0 B)⟩ ⟨1,.mp (pM 0 l')⟩:=by
 intro φ E w o hrep N;obtain⟨ents,clock,h1,h2,h3⟩:=N;refine ⟨ents,clock,h1,aqd.2 ⟨(aqd.1 h2).1,λk hk=>GW k _ _ hk⟩,λj x H=>?_⟩;rw[E4]at H;cases D:l'[j]? with
 |none=>rw[D]at H;cases H
 |some y=>
  rw[D]at H;cases H;obtain⟨z,L,hle⟩:=hl.get j y D;obtain⟨v,h4,h5⟩:=h3 j _ (by rw[E4,L];rfl);exact⟨v,h4,hle _ _ _ _ hrep h5⟩
def fD.lay {H':HF} (n:Nat):fD A H' ⟨0,.mp []⟩ ⟨1,.mp (pM 0 (aF n (.f (.raw (.slice U 0 0)))))⟩:=by
 intro φ E w o hrep D;let⟨ents,clock,h1,h2,h3⟩:=D;have N:ents.toList=[]:=List.map_eq_nil_iff.1 h2;refine ⟨ents,clock,h1,aqd.2 ⟨λm hm=>(by grind),λk L=>GW k _ _ L⟩,λj x z=>?_⟩;rw[E4]at z;cases H:(aF n (AV.f (.raw (.slice U 0 0))))[j]? with
 |none=>rw[H]at z;cases z
 |some y=>
  rw[H]at z;cases z;have hm:=aY H;rw[List.mem_replicate]at hm;obtain⟨_,rfl⟩:=hm;exact⟨_,MpV1.2 rfl,by rw[N];exact .f (.raw _)⟩
def fD.eq {H':HF} (d:rf A H') {c D:BC} (H:c.isCells=J) (z:D.isCells=J) (hl:c.toMx=D.toMx):fD A H' ⟨s,c⟩ ⟨s,D⟩:=by
 intro φ E w o hrep N;rw[qJ H]at N;rw[qJ z];let⟨arr,h1,h2,h3⟩:=N;refine ⟨arr,h1,by rw[BC.len_toMx z,<-hl,<-BC.len_toMx H];exact h2,λj x L=>?_⟩;rw[BC.get_toMx z,<-hl,<-BC.get_toMx H]at L;let⟨h4,v,h5,h6⟩:=h3 j x L;exact⟨h4,v,h5,h6.dom d⟩
structure JM (H H':HF):Prop where
 dom:rf H H'
 jf:∀i b b',H i=Z b->H' i=Z b'->fD H H' b b'
def JM.refl (H:HF):JM H H:=⟨rf.refl H,λi b b' h h'=>by rw[h]at h';cases h';exact fD.refl (rf.refl H) b⟩
def JM.qn {H':HF} (φ:JM A H') (r:sh V O A w):sh V O H' w:=by
 refine ⟨λi j b b' k H g2 g3 g4=>?_,λi b H=>?_,r.el,λg cells N=>(r.gl g cells N).dom φ.dom⟩
 .obtain⟨b0,z⟩:=φ.dom i b H;let⟨b1,D⟩:=φ.dom j b' g2;exact r.inj i j b0 b1 k z D g3 g4
 .obtain⟨b0,z⟩:=φ.dom i b H;let⟨k,L,p2,ob,p3,p4⟩:=r.at_ i b0 z;exact⟨k,L,p2,ob,p3,φ.jf i b0 b z H V O w ob r p4⟩
def fZ.view {o:Oper} {e:EF} {h:HF} {val':AV} {rd z wr' N:ι} {nw':HF} (ht:fZ P o e h ⟨y,rd,z,A,N⟩) (hsub:∀i∈z,i∈wr'\/i∈rd)
 (hv:∀h':HF,(∀i∈rd,h' i=h i)->(∀i∈wr',h' i=h i)->JM (eZ h' z A) (eZ h' wr' nw')/\jV (eZ h' z A) (eZ h' wr' nw') y val'):fZ P o e h ⟨val',rd,wr',nw',N⟩:=by
 intro φ E h' w a h1 L h3 h4 h5;have hw:=ht φ E h' w a h1 (λi hi=>(hsub i hi).elim (L i) (h1 i)) h3 h4 h5;let⟨V,hle⟩:=hv h' h1 L;refine S0 ?_ hw;rintro a' w' ⟨v,φ',rfl,mv,nm',D,rel⟩;exact⟨v,φ',rfl,⟨mv.sub,mv.ext,λk hk ho=>mv.qr k hk (V.dom.own ho)⟩,nm',V.qn D,hle _ _ _ _ D rel⟩
def Le.nil:Le (.f (.raw (.slice U 0 0))) (.f (.sl [] 0)):=by
 intro φ O w v z;cases z with
 |f z=>cases z;exact .f (.nil U 0 (by simp))
def Le.emp:Le .emp (.f (.sl [] 0)):=by
 intro φ O w v z;cases z with
 |emp=>exact .f (.nil _ 0 (by unfold maxLen;omega))
def Le.nilEmp:Le (.f (.raw (.slice U 0 0))) .emp:=by
 intro φ O w v z;cases z with
 |f z=>cases z;exact .emp
def Le.aggF {l:Y FV}:Le (.f (.agg l)) (.agg (l.map .f)):=by
 intro φ O w v A;cases A with
 |f A=>
  cases A with
  |agg _ vs hl hcl hrr=>
   refine .agg (by grind) (λx z=>?_) λj x u z N=>?_
   .obtain⟨y,L,rfl⟩:=cj.1 z;exact hcl y L
   .rw[bz]at z;cases D:l[j]? with
    |none=>rw[D]at z;cases z
    |some y=>rw[D]at z;simp at z;subst z;exact .f (hrr j y u D N)
def ag5 (l:Y AV):Le (Py l) (.agg l):=by
 unfold Py;split
 next z h=>rw[nE h];exact Le.aggF
 .exact Le.refl _
def jV.aggL {H':HF} {l':Y FV} (h:gF A H' B (l'.map .f)) (N:∀x∈l',x.isCell=J):jV A H' (.agg B) (.f (.agg l')):=by
 intro φ E w v hrep D;cases D with
 |@agg _ vs L hcl hrr=>
  refine .f (.agg l' vs (by rw[L,<-h.length];simp) N λj y u hy H=>?_);let⟨x,z,hle⟩:=h.get j (.f y) (by grind);have:=hle φ E w u hrep (hrr j x u z H);cases this with
  |f h=>exact h
def jV.G {H':HF} (d:rf A H') {n:Nat} {cells:Y FV} (h1:A i=Z ⟨s,.fz cells⟩) (h2:H' i=U) (hl:l! cells=n*j):jV A H' (.G i j n) (.f (.sl cells n)):=by
 intro φ E w v r hr;cases hr with
 |@G _ _ _ c k hφ hn hcap hsh=>
  let⟨k',L,q2,_⟩:=r.at_ i _ h1;rw[hφ]at L;cases L;let⟨arr,N,p2,p3⟩:=r.cs h1 hφ rfl;have hk:k<w.heap.size:=(c7.1 N).1;have hlen:l! cells<=arr.size:=by simpa[BC.toMx] using p3
  have hnk:¬tot E φ H' k:=by
   rintro (hE|⟨sz,b,D,H⟩)
   .exact q2 hE
   .obtain⟨b0,g3⟩:=d sz b D;have:=r.inj sz i b0 _ k g3 h1 H hφ
    grind
  have hget:∀(sz:Nat) x,cells[sz]? =Z x->∃u,arr[sz]? =Z u/\mO (tot E φ A) w x u:=λsz x z=>by
   have hj:sz<l! cells:=(bB.1 z).1;have hja:sz<arr.size:=by omega
   refine ⟨arr[sz],by simp[hja],?_⟩;have:=p2.2.2 sz (.f x) arr[sz] (by simp[BC.toMx,z]) (by
    rw[eL,aD (by simpa[BC.toMx] using hj),cU];simp[hja])
   cases this with
   |f h=>exact h
  refine .f (.sl cells n c k 0 (λsz=>(arr[sz]?).getD undef) hn hcap hnk hk (λx z=>?_) (λsz hj=>?_) (λsz x z=>?_))
  .have:=p2.2.1 (.f x) (by simp only[BC.toMx];exact cj.2 ⟨x,z,rfl⟩);exact this
  .have:sz<arr.size:=by omega
   simp[Qz,N,this]
  .obtain⟨u,D,H⟩:=hget sz x z;rw[D];exact H.dom d
def tY:∀l:Y Xp,Mf l=l.flatMap yn
 |[]=>rfl
 |x::r=>by rw[Mf,tY r];rfl
def Bx:∀l:Y Sx,Me l=l.flatMap Al
 |[]=>rfl
 |x::r=>by rw[Me,Bx r];rfl
def Md (e:Xp):bI PY (QJ e)=yn e:=by
 cases e with
 |mk op n name l=>simp only[PY,QJ,bI,yn,Xp.op,Xp.n,Xp.name,Xp.l,tY];rfl
def Vb (x:PY.den):yn (ef x)=bI PY x:=by
 simp only[PY,ef,bI,yn,tY];rfl
def Mc (e:Sx):bI Pk (QI e)=Al e:=by
 cases e with
 |mk op line name arg index expr body els=>simp only[Pk,QI,bI,Al,Sx.op,Sx.line,Sx.name,Sx.arg,Sx.index,Sx.expr,Sx.body,Sx.els,tY,Bx];rfl
def Va (x:Pk.den):Al (o6 x)=bI Pk x:=by
 simp only[Pk,o6,bI,Al,tY,Bx];rfl
def zJ (e:Xp):l! (yn e)=4:=by cases e;simp[yn]
def Fr (e:Sx):l! (Al e)=11:=by cases e;simp[Al,zJ]
def bk:∀(T:Ty) (v:T.den),l! (bI T v)=T.size
 |.int _,_|.bool,_|.str,_|.sl _,_=>rfl
 |.st t,v=>bk t v
 |.pr a b,v=>by simp[bI,Ty.size,bk a,bk b]
 |.un,_=>rfl
 |.ex,v=>zJ v
 |.sm,v=>Fr v
def Mg (e:Xp):∀x∈yn e,x.isCell=J:=by
 cases e with
 |mk op n name l=>
  intro x z;simp[yn,aZ,cw,fF]at z;rcases z with rfl|rfl|rfl|rfl<;>rfl
def Ym (e:Sx):∀x∈Al e,x.isCell=J:=by
 cases e with
 |mk op line name arg index expr body els=>
  intro x z;simp only[Al,bA,aZ,cw,fF]at z;rcases z with (z|z)|z
  .rcases z with rfl|rfl|rfl|rfl|rfl<;>rfl
  .exact Mg _ _ z
  .rcases z with rfl|rfl<;>rfl
def pa:∀(T:Ty) (v:T.den),∀x∈bI T v,x.isCell=J
 |.int _,_,x,z|.bool,_,x,z|.str,_,x,z|.sl _,_,x,z=>by simp[bI,aB]at z;subst z;rfl
 |.st t,v,x,z=>pa t v x z
 |.pr a b,v,x,z=>by
  simp[bI,bA]at z;exact z.elim (pa a v.1 x) (pa b v.2 x)
 |.un,_,x,z=>by simp[bI]at z
 |.ex,v,x,z=>Mg v x z
 |.sm,v,x,z=>Ym v x z
def Mh:∀(T:Ty) (v:T.den),T.one=J->bI T v=[fM T v]/\T.size=1
 |.int _,_,_|.bool,_,_|.str,_,_|.sl _,_,_=>⟨rfl,rfl⟩
 |.st _,_,h|.pr _ _,_,h|.un,_,h|.ex,_,h|.sm,_,h=>by cases h
def rZ:∀(T:Ty) (v:T.den),T.one=aa->fM T v= .agg (bI T v)
 |.int _,_,h|.bool,_,h|.str,_,h|.sl _,_,h=>by cases h
 |.st _,_,_|.pr _ _,_,_|.un,_,_|.ex,_,_|.sm,_,_=>rfl
def Cp (T:Ty) (v:T.den):(AV.f (fM T v)).cs=(bI T v).map .f:=by
 cases h:T.one with
 |true=>
  cases T<;>simp[Ty.one]at h<;>first|rfl|cases h
 |false=>rw[rZ T v h];rfl
def d_ {f:R->Y FV} (hf:∀x,l! (f x)=i):∀(xs:Y R),l! (xs.flatMap f)=l! xs*i
 |[]=>by simp
 |x::r=>by rw[fS,bc,hf,d_ hf r,bK,ju];omega
def Hd {f:R->Y FV} (hf:∀x,l! (f x)=i):∀(xs:Y R) (j:Nat) (x:R),xs[j]? =Z x->∃r,(xs.flatMap f).drop (j*i)=f x++r
 |[],j,x,h=>by simp at h
 |y::r,j,x,h=>by
  cases j with
  |zero=>simp at h;subst h;exact⟨r.flatMap f,by simp⟩
  |succ j=>
   let⟨q,z⟩:=Hd hf r j x (by grind);refine ⟨q,?_⟩;rw[fS,show (j+1)*i=l! (f y)+j*i from by rw[hf,ju];omega,wK];simp[z]
def L1 {f:R->Y FV} (hf:∀x,l! (f x)=i):∀(xs:Y R) (j:Nat) (x z:R),xs[j]? =Z x->∀(off:Nat) (vs:Y FV),off+l! vs<=i->f z=AI.splice (f x) off vs->(xs.set j z).flatMap f=AI.splice (xs.flatMap f) (j*i+off) vs
 |[],j,x,z,h,_,_,_,_=>by simp at h
 |y::r,j,x,z,h,off,vs,hle,D=>by
  cases j with
  |zero=>
   simp at h;subst h;simp only[List.set_cons_zero,fS,D,Nat.zero_mul,bT];unfold AI.splice;have N:=hf y;rw[List.take_append,wK];have A:off-l! (f y)=0:=by omega
   have e2:off+l! vs-l! (f y)=0:=by omega
   rw[A,e2];simp[iP]
  |succ j=>
   have L:=L1 hf r j x z (by simpa using h) off vs hle D;simp only[List.set_cons_succ,fS,L];unfold AI.splice;have N:=hf y;have e0:(j+1)*i=l! (f y)+j*i:=by rw[hf,ju];omega
   rw[e0,List.take_append,wK];have A:l! (f y)+j*i+off-l! (f y)=j*i+off:=by omega
   have e2:l! (f y)+j*i+off+l! vs-l! (f y)=j*i+off+l! vs:=by omega
   rw[A,e2,iu (by omega:l! (f y)<=l! (f y)+j*i+off),B_ (by omega:l! (f y)<=l! (f y)+j*i+off+l! vs)];simp[iP]
def mc (T:Ty) (xs:Y T.den):∀x∈xs.flatMap (bI T),x.isCell=J:=λx z=>by
 let⟨y,_,h⟩:=wI.1 z;exact pa T y x h
def gL {S:Ty} {v:S.den} {x:T.den} (h:t8 T v=Z x):∃e:S=T,x=e▸v:=by
 unfold t8 at h
 grind
def mL (h:aX):∀(n:Nat) (T:Ty) (v:T.den) (l:Y TV),cellsOf n T v=Z l->cI h l=Z ((bI T v).map .f)/\lG l=J
 |0,_,_,_,he=>by simp[cellsOf]at he
 |n+1,.st t,v,l,he=>mL h n t v l he
 |n+1,.pr a b,v,l,he=>by
  simp[cellsOf]at he;split at he
  .rename_i x y L D;simp[af]at he;subst he;let⟨h1,A⟩:=mL h n a v.1 x L;let⟨N,h4⟩:=mL h n b v.2 y D;refine ⟨by rw[bI,cq];exact oL h1 N,?_⟩;clear h1 N L D;induction x with
   |nil=>exact h4
   |cons z r ih=>simp[lG,al,gA]at A ⊢;exact⟨A.1,ih A.2⟩
  .cases he
 |n+1,.un,v,l,he=>by simp[cellsOf,af]at he;subst he;exact⟨rfl,rfl⟩
 |n+1,.ex,v,l,he=>by rw[bI,<-Md];exact mL h n PY (QJ v) l he
 |n+1,.sm,v,l,he=>by rw[bI,<-Mc];exact mL h n Pk (QI v) l he
 |n+1,.int k,v,l,he|n+1,.bool,v,l,he|n+1,.str,v,l,he|n+1,.sl t,v,l,he=>by simp[cellsOf,af]at he;subst he;exact⟨rfl,rfl⟩
def Q3 (h:y.isCell=J):y.cs=[y]:=by
 cases y with
 |f x=>cases x<;>first|rfl|cases h
 |agg l=>cases h
 |_=>rfl
def I1 (A:u.cs=Z r) (D:bZ h u=Z y):cI h r=Z y.cs/\lG r=J:=by
 have one:(if u.isC then Z [u] else U)=Z r->cI h r=Z y.cs/\lG r=J:=λA=>by
  split at A
  next L=>simp[af]at A;subst A;exact⟨by rw[Q3 (Rl D L)];exact p_ D rfl,by simp[lG,L]⟩
  .cases A
 cases u with
 |agg q=>
  simp only[TV.cs]at A;split at A
  .rename_i L;simp[af]at A;subst A;simp[bZ]at D;split at D
   next l' N=>simp[af]at D;subst D;exact⟨N,L⟩
   .cases D
  .cases A
 |f T x=>
  simp[bZ,af]at D;subst D;rw[Cp];exact mL h 40 T x r A
 |_=>exact one A
def Eg (h:aX) (H H':HF) (m:Nat):Prop:=∀id,aJ m id=J->H (nm id)=erHF h (nm id)/\H' (nm id)=U
def Eg.zero {H':HF}:Eg h A H' 0:=λid hid=>by simp at hid
def Eg.or {H':HF} (g:Eg h A H' (i|||j)):Eg h A H' i/\Eg h A H' j:=
 ⟨λid hid=>g id (by grind),λid hid=>g id (by grind)⟩
def bj :aJ (fV i) j=J↔i=j:=by
 unfold fV;rw[Nat.one_shiftLeft,Nat.testBit_two_pow];simp
section pack
variable {h:aX} {H H':HF}
def zS (d:rf H H') {x:T.den} (A:ia h T u=Z (x,i)) (D:bZ h u=Z y) (g:Eg h H H' i):jV H H' y (.f (fM T x))/\l! y.cs=T.size/\(T.one=J->y.isCell=J)/\gF H H' y.cs ((bI T x).map .f):=by
 cases u with
 |f S u=>
  simp[ia]at A;split at A
  next z L=>obtain⟨rfl,_⟩:=A;obtain⟨e,rfl⟩:=gL L;subst e;simp[bZ,af]at D;subst D;refine ⟨jV.refl d _,by rw[Cp,b_,bk],λho=>?_,by rw[Cp];exact gF.refl d _⟩;cases S<;>simp[Ty.one]at ho<;>first|rfl|cases ho
  .cases A
 |emp=>
  simp[ia]at A;split at A
  .simp[af,aP]at A;obtain⟨rfl,_⟩:=A;simp[bZ,af]at D;subst D;exact⟨Le.emp.toH d,rfl,λ_=>rfl,⟨Le.emp.toH d,trivial⟩⟩
  .cases A
 |nil=>
  simp[ia]at A;split at A
  .simp[af,aP]at A;obtain⟨rfl,_⟩:=A;simp[bZ,af]at D;subst D;exact⟨Le.nil.toH d,rfl,λ_=>rfl,⟨Le.nil.toH d,trivial⟩⟩
  .cases A
 |G id=>
  simp[ia]at A;split at A
  .rename_i ty p S xs hb;split at A
   .rename_i z L;obtain⟨rfl,rfl⟩:=A;obtain⟨e,rfl⟩:=gL L;subst e;let⟨g1,g2⟩:=g id (bj.2 rfl);rw[bE,hb]at g1;simp[bZ,eg,hb,af]at D;subst D;have key:jV H H' (dt p id S.size (l! xs)) (.f (fM (.sl S) xs)):=by
     unfold dt;split
     next hp=>simp only[al,cV]at hp;have:xs=[]:=db.1 hp.2;subst this;exact Le.emp.toH d
     next hp=>simp only[aC,jJ,av hp]at g1;exact jV.G d g1 g2 (d_ (bk S) xs)
    have N:(dt p id S.size (l! xs)).isCell=J:=by unfold dt;split<;>rfl
    refine ⟨key,by rw[Q3 N];rfl,λ_=>N,?_⟩;rw[Q3 N];exact⟨key,trivial⟩
   .cases A
  .cases A
 |_=>simp[ia]at A
def rq (d:rf H H'):∀(n:Nat) (T:Ty) (l:Y TV) (x:T.den) (m:Nat) (r:Y TV) (l':Y AV),fA h n T l=Z (x,m,r)->cI h l=Z l'->Eg h H H' m->∃l1 A,l'=l1++A/\cI h r=Z A/\gF H H' l1 ((bI T x).map .f)
 |0,_,_,_,_,_,_,hp,_,_=>by simp[fA]at hp
 |n+1,.st t,l,x,m,r,l',hp,z,g=>rq d n t l x m r l' hp z g
 |n+1,.pr a b,l,x,m,r,l',hp,z,g=>by
  simp[fA]at hp;split at hp
  .rename_i D m1 r1 h1;split at hp
   next x2 m2 r2 h2=>simp[af,aP]at hp;obtain⟨rfl,rfl,rfl⟩:=hp;let⟨ga,gb⟩:=g.or;obtain⟨l1,A,rfl,N,L⟩:=rq d n a l D m1 r1 l' h1 z ga;obtain⟨l3,l4,rfl,q3,q4⟩:=rq d n b r1 x2 m2 r2 A h2 N gb;refine ⟨l1++l3,l4,by simp,q3,?_⟩;rw[bI,cq];exact L.append q4
   .cases hp
  .cases hp
 |n+1,.un,l,x,m,r,l',hp,z,g=>by
  obtain⟨_,_,rfl⟩:=hp;exact⟨[],l',rfl,z,trivial⟩
 |n+1,.ex,l,x,m,r,l',hp,z,g=>by
  simp[fA]at hp;split at hp
  next D m1 r1 h1=>simp[af,aP]at hp;obtain⟨rfl,rfl,rfl⟩:=hp;rw[bI,Vb];exact rq d n PY l D m1 r1 l' h1 z g
  .cases hp
 |n+1,.sm,l,x,m,r,l',hp,z,g=>by
  simp[fA]at hp;split at hp
  next D m1 r1 h1=>simp[af,aP]at hp;obtain⟨rfl,rfl,rfl⟩:=hp;rw[bI,Va];exact rq d n Pk l D m1 r1 l' h1 z g
  .cases hp
 |n+1,.int k,l,x,m,r,l',hp,z,g|n+1,.bool,l,x,m,r,l',hp,z,g|n+1,.str,l,x,m,r,l',hp,z,g|n+1,.sl t,l,x,m,r,l',hp,z,g=>by
  simp[fA]at hp;split at hp
  .rename_i c q;split at hp
   next D m1 h1=>obtain⟨rfl,rfl,rfl⟩:=hp;obtain⟨y,A,rfl,N,L⟩:=cZ z;exact⟨[y],A,rfl,L,⟨(zS d h1 N g).1,trivial⟩⟩
   .cases hp
  .cases hp
def Xy (d:rf H H') {x:T.den} (hp:fA h i T r=Z (x,j,[])) (D:cI h r=Z B) (g:Eg h H H' j):gF H H' B ((bI T x).map .f):=by
 obtain⟨N,L,rfl,z,A⟩:=rq d i T r x j [] B hp D g;simp[cI,af]at z;subst z;simpa using A
def So (d:rf H H') {x:T.den} (A:Ek h T u=Z (x,i)) (D:bZ h u=Z y) (g:Eg h H H' i):jV H H' y (.f (fM T x))/\gF H H' y.cs ((bI T x).map .f):=by
 have other:ia h T u=Z (x,i)->jV H H' y (.f (fM T x))/\gF H H' y.cs ((bI T x).map .f):=λA=>by
  let⟨h1,_,_,h2⟩:=zS d A D g;exact⟨h1,h2⟩
 cases u with
 |agg l=>
  simp only[Ek]at A;split at A
  .cases A
  .rename_i ho;split at A
   .rename_i L m1 h1;simp[af,aP]at A;obtain⟨rfl,rfl⟩:=A;simp[bZ]at D;split at D
    next l' N=>simp[af]at D;subst D;have:=Xy d h1 N g;refine ⟨?_,this⟩;rw[rZ T L (by grind)];exact jV.aggL this (pa T L)
    .cases D
   .cases A
 |_=>exact other A
def EM (d:rf H H') :∀(n:Nat) (l:Y TV) (xs:Y T.den) (m:Nat) (l':Y AV),C8 h T n l=Z (xs,m)->cI h l=Z l'->Eg h H H' m->gF H H' l' ((xs.flatMap (bI T)).map .f)/\l! xs=n
 |0,[],xs,m,l',hp,z,g=>by
  obtain⟨rfl,_⟩:=hp;simp[cI,af]at z;subst z;exact⟨trivial,rfl⟩
 |0,_::_,xs,m,l',hp,z,g=>by simp[C8]at hp
 |n+1,l,xs,m,l',hp,z,g=>by
  simp[C8]at hp;split at hp
  .rename_i L m1 A h1;split at hp
   next D m2 h2=>obtain⟨rfl,rfl⟩:=hp;let⟨ga,gb⟩:=g.or;obtain⟨l1,l2,rfl,q1,N⟩:=rq d 40 T l L m1 A l' h1 z ga;let⟨q3,q4⟩:=EM d n A D m2 l2 h2 q1 gb;refine ⟨?_,by simp[q4]⟩;rw[fS,cq];exact N.append q3
   .cases hp
  .cases hp
def tV (h:aX):∀(n:Nat) (T:Ty) (v:T.den) (off sz:Nat) (L:Bool) (u:TV),nS n T v off sz L=Z u->off+sz<=T.size/\∃y,bZ h u=Z (.f y)/\(L=aa->sz=1/\(bI T v)[off]? =Z y)/\(L=J->y= .agg (((bI T v).drop off).take sz))
 |0,_,_,_,_,_,_,z=>by simp[nS]at z
 |n+1,.st t,v,off,sz,L,u,z=>by
  simp only[nS]at z;split at z
  next D=>simp only[al]at D;obtain⟨⟨h1,A⟩,rfl⟩:=D;have h1:=au h1;have A:=au A;subst h1 A;cases z;refine ⟨by simp[Ty.size],_,rfl,nofun,λ_=>?_⟩;simp only[fM,bI,List.drop_zero];rw[<- bk t v,cv]
  .exact tV h n t v off sz L u z
 |n+1,.pr a b,v,off,sz,L,u,z=>by
  simp only[nS]at z;have hla:=bk a v.1;have hlb:=bk b v.2;split at z
  .rename_i hlt;have hlt:off<a.size:=aV hlt;let⟨h1,y,A,h3,N⟩:=tV h n a v.1 off sz L u z;refine ⟨by simp only[Ty.size];omega,y,A,λe=>?_,λe=>?_⟩
   .obtain⟨h5,h6⟩:=h3 e;exact⟨h5,by rw[bI,bC (by omega)];exact h6⟩
   .rw[N e,bI]
    grind
  .rename_i hlt;have hlt:¬off<a.size:=λh=>hlt (ba h)
   let⟨h1,y,A,h3,N⟩:=tV h n b v.2 (off-a.size) sz L u z;refine ⟨by simp only[Ty.size];omega,y,A,λe=>?_,λe=>?_⟩
   .obtain⟨h5,h6⟩:=h3 e;exact⟨h5,by rw[bI,bS (by omega),hla];exact h6⟩
   .rw[N e,bI];have:(bI a v.1++bI b v.2).drop off=(bI b v.2).drop (off-a.size):=by
     rw[wK,hla,B_ (by omega)];simp
    rw[this]
 |n+1,.un,v,off,sz,L,u,z=>by simp[nS]at z
 |n+1,.ex,v,off,sz,L,u,z=>by
  simp only[nS]at z;split at z
  next D=>simp only[al]at D;obtain⟨⟨h1,A⟩,rfl⟩:=D;have h1:=au h1;have A:=au A;subst h1 A;cases z;refine ⟨by simp[Ty.size],_,rfl,nofun,λ_=>?_⟩;simp only[fM,bI,List.drop_zero];rw[<- zJ v,cv]
  .obtain⟨h1,y,A,h3,N⟩:=tV h n PY (QJ v) off sz L u z;rw[Md]at h3 N;exact⟨h1,y,A,h3,N⟩
 |n+1,.sm,v,off,sz,L,u,z=>by
  simp only[nS]at z;split at z
  next D=>simp only[al]at D;obtain⟨⟨h1,A⟩,rfl⟩:=D;have h1:=au h1;have A:=au A;subst h1 A;cases z;refine ⟨by simp[Ty.size],_,rfl,nofun,λ_=>?_⟩;simp only[fM,bI,List.drop_zero];rw[<- Fr v,cv]
  .obtain⟨h1,y,A,h3,N⟩:=tV h n Pk (QI v) off sz L u z;rw[Mc]at h3 N;exact⟨h1,y,A,h3,N⟩
 |n+1,.int k,v,off,sz,L,u,z|n+1,.bool,v,off,sz,L,u,z|n+1,.str,v,off,sz,L,u,z|n+1,.sl t,v,off,sz,L,u,z=>by
  simp only[nS]at z;split at z
  next D=>simp only[al,cS]at D;obtain⟨⟨h1,A⟩,rfl⟩:=D;have h1:=au h1;have A:=au A;subst h1 A;cases z;exact⟨by simp[Ty.size],_,rfl,λ_=>⟨rfl,rfl⟩,nofun⟩
  .cases z
def Xm (l vs:Y R) (h:l! vs=l! l):AI.splice l 0 vs=vs:=by
 unfold AI.splice
 grind
def Td (a b vs:Y R) (off:Nat) (h:off+l! vs<=l! a):AI.splice (a++b) off vs=AI.splice a off vs++b:=by
 unfold AI.splice
 grind
def QU (a b vs:Y R) (off:Nat) (h:l! a<=off):AI.splice (a++b) off vs=a++AI.splice b (off-l! a) vs:=by
 unfold AI.splice;rw[List.take_append,wK,iu h,B_ (by omega),show off+l! vs-l! a=off-l! a+l! vs from by omega];simp[iP]
def Qu (H H':HF) (y:AV) (T:Ty) (v z:T.den) (off sz:Nat):Prop:=∃A:Y FV,gF H H' y.cs (A.map .f)/\l! A=sz/\off+sz<=T.size/\bI T z=AI.splice (bI T v) off A/\∀x∈A,x.isCell=J
def Qu.whole {v z:T.den} (h0:i=0) (A:j=T.size) (D:gF H H' y.cs ((bI T z).map .f)):Qu H H' y T v z i j:=by
 subst h0 A;exact⟨bI T z,D,bk T z,by omega,(Xm _ _ (by rw[bk,bk])).symm,pa T z⟩
def tJ (d:rf H H') (L:bZ h u=Z y):∀(n:Nat) (T:Ty) (v:T.den) (off sz:Nat) (z:T.den) (m:Nat),gG h u n T v off sz=Z (z,m)->Eg h H H' m->Qu H H' y T v z off sz
 |0,_,_,_,_,_,_,A,_=>by simp[gG]at A
 |n+1,.st t,v,off,sz,z,m,A,g=>by
  simp only[gG]at A;split at A
  .rename_i q N;split at N
   next D=>simp only[al]at D;simp only[af]at A;subst A;exact .whole (au D.1) (au D.2) (So d N L g).2
   .cases N
  .exact tJ d L n t v off sz z m A g
 |n+1,.pr a b,v,off,sz,z,m,A,g=>by
  simp only[gG]at A;have hla:=bk a v.1;split at A
  .rename_i hlt;split at A
   next z1 m1 h1=>simp only[af,aP]at A;obtain⟨rfl,rfl⟩:=A;let⟨fs,q1,q2,q3,q4,q5⟩:=tJ d L n a v.1 off sz z1 m1 h1 g;refine ⟨fs,q1,q2,by simp only[Ty.size];omega,?_,q5⟩;rw[bI,bI,Td _ _ _ _ (by omega),q4]
   .cases A
  .rename_i hlt;have hlt:¬off<a.size:=λh=>hlt (ba h)
   split at A
   next z1 m1 h1=>simp only[af,aP]at A;obtain⟨rfl,rfl⟩:=A;let⟨fs,q1,q2,q3,q4,q5⟩:=tJ d L n b v.2 (off-a.size) sz z1 m1 h1 g;refine ⟨fs,q1,q2,by simp only[Ty.size];omega,?_,q5⟩;rw[bI,bI,QU _ _ _ _ (by omega),q4,hla]
   .cases A
 |n+1,.un,v,off,sz,z,m,A,g=>by simp[gG]at A
 |n+1,.ex,v,off,sz,z,m,A,g=>by
  simp only[gG]at A;split at A
  .rename_i q N;split at N
   next D=>simp only[al]at D;simp only[af]at A;subst A;exact .whole (au D.1) (au D.2) (So d N L g).2
   .cases N
  .split at A
   next z1 m1 h1=>simp only[af,aP]at A;obtain⟨rfl,rfl⟩:=A;let⟨fs,q1,q2,q3,q4,q5⟩:=tJ d L n PY (QJ v) off sz z1 m1 h1 g;exact⟨fs,q1,q2,q3,by rw[bI,bI,Vb,q4,Md],q5⟩
   .cases A
 |n+1,.sm,v,off,sz,z,m,A,g=>by
  simp only[gG]at A;split at A
  .rename_i q N;split at N
   next D=>simp only[al]at D;simp only[af]at A;subst A;exact .whole (au D.1) (au D.2) (So d N L g).2
   .cases N
  .split at A
   next z1 m1 h1=>simp only[af,aP]at A;obtain⟨rfl,rfl⟩:=A;let⟨fs,q1,q2,q3,q4,q5⟩:=tJ d L n Pk (QI v) off sz z1 m1 h1 g;exact⟨fs,q1,q2,q3,by rw[bI,bI,Va,q4,Mc],q5⟩
   .cases A
 |n+1,.int k,v,off,sz,z,m,A,g|n+1,.bool,v,off,sz,z,m,A,g|n+1,.str,v,off,sz,z,m,A,g|n+1,.sl t,v,off,sz,z,m,A,g=>by
  simp only[gG]at A;split at A
  next D=>simp only[al]at D;exact .whole (au D.1) (au D.2) (zS d A L g).2.2.2
  .cases A
def M_:∀{a b:ξ},Wf a b=J->a=b
 |[],[],_=>rfl
 |[],_::_,h|_::_,[],h=>by cases h
 |x::xs,y::ys,h=>by
  simp[Wf,al]at h;rw[alu h.1,M_ h.2]
def JX (d:rf H H'):∀T:Ty,gF H H' ((uy T).map raw) ((bI T T.zero).map .f)
 |.int k|.bool|.str=>⟨jV.refl d _,trivial⟩
 |.sl t=>⟨Le.nil.toH d,trivial⟩
 |.st t=>JX d t
 |.pr a b=>by
  simp[uy,Ty.zero,bI,cq];exact (JX d a).append (JX d b)
 |.un=>trivial
 |.ex=>⟨jV.refl d _,jV.refl d _,jV.refl d _,Le.nil.toH d,trivial⟩
 |.sm=>⟨jV.refl d _,jV.refl d _,jV.refl d _,jV.refl d _,Le.nil.toH d,jV.refl d _,jV.refl d _,jV.refl d _,Le.nil.toH d,Le.nil.toH d,Le.nil.toH d,trivial⟩
def J1 (d:rf H H') (T:Ty):∀n,gF H H' ((repl (uy T) n).map .f) (((aF n T.zero).flatMap (bI T)).map .f)
 |0=>trivial
 |n+1=>by
  rw[repl,m8,fS,cq,cq];have h1:=JX (H:=H) (H':=H') d T;have:((uy T).map .raw).map AV.f=(uy T).map raw:=by rw[kM];rfl
  rw[this];exact h1.append (J1 d T n)
end pack
structure gM (h:aX) (nx:Nat):Prop where
 C:∀id ty l,h.get id=Z (.C ty l)->lJ h l=J
 low:∀id b,h.get id=Z b->id<nx
def sB (e:gT) (h:aX):Prop:=∀t v,e.get t=Z v->NZ h v=J
structure eK (P:Program) (o:Oper) (still:Bool) (e:gT) (h:aX) (nx:Nat) (v:TV) (rd wr:Nat) (h':aX) (nx':Nat):Prop where
 ex:∃f:DF,fZ P o (fC e h) (erHF h) f/\(∀y,bZ h' v=Z y->f.val=y)/\eZ (erHF h) f.wr f.nw=erHF h'/\(∀n∈f.rd,aJ rd (ow n)=J)/\(∀n∈f.wr,aJ wr (ow n)=J)/\(∀n∈f.N,nx<=ow n/\ow n<nx')
 F:bV h h'
 inv:gM h' nx'
 jp:nx<=nx'
 st:still=J->rd=0/\wr=0
def iO (P:Program) (o:Oper) (still:Bool) (e:gT) (h:aX) (nx:Nat) (K:KO R) (r:R):Prop:=
 ∃v rd z h' nx',K v rd z h' nx'=Z r/\eK P o still e h nx v rd z h' nx'
def cF {k:b=J->M R} {r:R} (h:chk b k=Z r):∃z:b=J,k z=Z r:=by
 cases b with
 |true=>exact⟨rfl,h⟩
 |false=>cases h
def lF {t f:M R} {r:R} (h:aH b t f=Z r):(b=J/\t=Z r)\/(b=aa/\f=Z r):=by
 cases b with
 |true=>exact .inl ⟨rfl,h⟩
 |false=>exact .inr ⟨rfl,h⟩
def dO {α:Type} {o:M α} {k:α->M R} {r:R} (h:aA o k=Z r):∃x,o=Z x/\k x=Z r:=by
 cases o with
 |some x=>exact⟨x,rfl,h⟩
 |none=>cases h
variable {a:Int}
def mG (h:fe a i=J):0<=a/\a<i/\a.toNat<i:=by
 simp[fe,dm,fK,al,bU]at h;omega
def fZ.envLe {o:Oper} {e e2:EF} {f:DF} (ht:fZ P o e A f) (hle:∀t y,.tmp t∈o.op.operands->e t=Z y->∃h,e2 t=Z h/\Le h y):fZ P o e2 A f:=by
 intro φ E h' w a h1 h2 h3 N L;refine ht φ E h' w a h1 h2 (λt z y D=>?_) N L;let⟨h,g1,g2⟩:=hle t y z D;exact g2 _ _ _ _ (h3 t z h g1)
def MQ (h:aX) (z:cst v=Z u):bZ h u=Z (raw v)/\v.oneCell'=J/\u.isC=J:=by
 unfold cst at z;split at z<;>cases z<;>exact⟨rfl,rfl,rfl⟩
def w7 (h:aX):∀{z:ξ} {l:Y TV},MP z=Z l->cI h l=Z (z.map raw)/\(∀x∈z,x.oneCell'=J)/\lG l=J
 |[],l,A=>by simp[MP,af]at A;subst A;exact⟨rfl,by simp,rfl⟩
 |v::r,l,A=>by
  simp[MP]at A;split at A
  .rename_i x l' D L;simp[af]at A;subst A;let⟨h1,h2,h3⟩:=MQ h D;let⟨h4,h5,N⟩:=w7 h L;refine ⟨p_ h1 h4,λy hy=>?_,by simp[lG,h3,N]⟩
   grind
  .cases A
variable {c:Operand}
def a_ {e:gT} (hi:sB e h) (z:dy e c=Z u):∃y,lS (CS e h) c=Z y/\bZ h u=Z y:=by
 cases c with
 |tmp t=>
  simp[dy]at z;let⟨y,D⟩:=oc h u (hi t u z);refine ⟨y,?_,D⟩;simp[lS];rw[Cn];simp[fC,z,aC,D]
 |const x=>
  simp[dy]at z;unfold api at z;split at z
  .rename_i vs;split at z
   .rename_i h1;split at z
    next l L=>simp[af]at z;subst z;refine ⟨.agg (vs.toList.map raw),?_,by simp[bZ,(w7 h L).1]⟩;simp only[lS,Hu,h1,bh];rfl
    .cases z
   .cases z
  .rename_i N;refine ⟨raw x,?_,(MQ h z).1⟩;simp[lS];unfold Hu;split
   .grind
   .rfl
 |func g=>
  simp[dy,af]at z;subst z;exact⟨_,rfl,rfl⟩
 |global g=>
  simp[dy]at z;cases A:G g with
  |none=>rw[A]at z;cases z
  |some cells=>
   rw[A]at z;simp[af]at z;subst z;have hcells:cells=EY:=by
    unfold G at A
    grind
   subst hcells;exact⟨_,by simp[lS,A];rfl,rfl⟩
def ER {e:gT} (hi:sB e h):∀{xs:Y Operand} {l:Y TV},KQ e xs=Z l->∃l',evs (CS e h) xs=Z l'/\cI h l=Z l'
 |[],l,z=>by simp[KQ,af]at z;subst z;exact⟨[],rfl,rfl⟩
 |x::xs,l,z=>by
  simp[KQ]at z;split at z
  .rename_i y D;split at z
   next ys hys=>simp[af]at z;subst z;let⟨A,h1,h2⟩:=a_ hi D;let⟨l',N,L⟩:=ER hi hys;exact⟨A::l',by simp[evs,h1,N],p_ h2 L⟩
   .cases z
  .cases z
section ops
variable {R:Type} {P:Program} {o:Oper} {e:gT} {h:aX} {nx:Nat} {K:KO R} {r:R}
def eK.pure {s:SU} (hinv:gM h nx) (N:cO P o.op=Z s) {H:mQ} (hH:H.get=erHF h) {k:Nat} {y0:AV} {rdl:ι} (ha:dx s (CS e h) H k=Z ⟨y0,rdl,[],[],[]⟩) (D:∀y,bZ h u=Z y->Le y0 y) (hrd:∀n∈rdl,aJ i (ow n)=J) (hst:b=J->i=0):eK P o b e h nx u i 0 h nx:=by
 have ht:=KU N ha;rw[Cn,hH]at ht;refine ⟨?_,λ_ _ h=>h,hinv,bO _,λL=>⟨hst L,rfl⟩⟩;have key:∀y,Le y0 y->fZ P o (fC e h) (erHF h) ⟨y,rdl,[],jK [],[]⟩:=λy hle=>
  fZ.view ht (λrd hi=>by cases hi) λh' _ _=>⟨JM.refl _,hle.toH (rf.refl _)⟩
 cases A:bZ h u with
 |none=>exact⟨_,ht,λy z=>by simp at z,by simp[Cu.eff,vn],hrd,by simp[Cu.eff],by simp[Cu.eff]⟩
 |some y=>exact⟨_,key y (D y A),λy' z=>by simpa using z,by simp[vn],hrd,by simp,by simp⟩
def iO.q {s:SU} (hinv:gM h nx) (L:cO P o.op=Z s) {k:Nat} {y0:AV} (N:∀H:mQ,H.get=erHF h->dx s (CS e h) H k=rv y0) (A:∀y,bZ h u=Z y->Le y0 y) (D:K u 0 0 h nx=Z r):iO P o b e h nx K r:=by
 let⟨H,z⟩:=gu h;exact⟨u,0,0,h,nx,D,eK.pure hinv L z (N H z) A (by simp) λ_=>rfl⟩
def cM (A:bZ h u=Z y):∀y0,bZ h u=Z y0->Le y y0:=λy0 z=>by rw[A]at z;cases z;exact Le.refl _
def aex {xs:Y T.den} (L:fe a (l! xs)=J) {sz:Nat} (N:nS 40 T (geti _ xs a) i sz b=Z u):
 ∃y,bZ h u=Z (.f y)/\(BC.fz (xs.flatMap (bI T))).sub? (a.toNat*T.size+i) sz b=Z (.f y):=by
 let⟨h1,y,h2,h3,h4⟩:=tV h 40 T _ i sz b u N;refine ⟨y,h2,?_⟩;let⟨_,_,hlt⟩:=mG L;have D:xs[a.toNat]? =Z (geti _ xs a):=by
  unfold geti;rw[aw,aE hlt];rfl
 let⟨q,A⟩:=Hd (bk T) xs a.toNat _ D;have hlen:=d_ (bk T) xs;have hle:(a.toNat+1)*T.size<=l! xs*T.size:=cK _ hlt;rw[ju]at hle;have hl:=bk T (geti _ xs a);cases b with
 |false=>
  let⟨h5,h6⟩:=h3 rfl;subst h5;simp only[BC.sub?,BC.get];have:(xs.flatMap (bI T))[a.toNat*T.size+i]? =Z y:=by
   rw[<- oO,A,bC (by omega)];exact h6
  rw[this];rfl
 |true=>
  simp only[BC.sub?];rw[aD (ba (by omega)),h4 rfl,<-List.drop_drop,A,List.drop_append_of_le_length (by omega),sI (by grind)]
def an4 {v:T.den} (A:nS 40 T v i j b=Z u):
 ∃y,bZ h u=Z (.f y)/\(BC.fz (bI T v)).sub? i j b=Z (.f y):=by
 let⟨h1,y,h2,N,h4⟩:=tV h 40 T _ i j b u A;refine ⟨y,h2,?_⟩;have hl:=bk T v;cases b with
 |false=>
  let⟨L,D⟩:=N rfl;subst L;simp only[BC.sub?,BC.get,D];rfl
 |true=>
  simp[BC.sub?];simp_all
def Zm {l:Y TV} (A:cI h l=Z B) (z:Xk l i j b=Z u):∃y,bZ h u=Z y/\(BC.mx B).sub? i j b=Z y:=by
 cases b with
 |false=>
  simp only[Xk]at z;split at z
  next h1=>have h1:=au h1;subst h1;let⟨y,D,N⟩:=ly A i u z;exact⟨y,N,by simp[BC.sub?,BC.get,D]⟩
  .cases z
 |true=>
  simp only[Xk]at z;split at z
  next h1=>simp[af]at z;subst z;have D:=Hj j (Hl i A);exact⟨.agg ((B.drop i).take j),by simp[bZ,D],by simp[BC.sub?,gK A,h1,bh]⟩
  .cases z
def T8 (z:lenOf h u=Z i) (A:bZ h u=Z y):y.slen=Z i:=by
 unfold lenOf at z;split at z
 .simp[af]at z;subst z;simp[bZ,af]at A;subst A;rfl
 .simp[af]at z;subst z;simp[bZ,af]at A;subst A;rfl
 .simp[af]at z;subst z;simp[bZ,af]at A;subst A;rfl
 .rename_i id;simp[bZ]at A;cases D:eg h id with
  |none=>rw[D]at z;cases z
  |some q=>
   rw[D]at z A;simp[af]at z A;subst z A;unfold dt;split
   next hp=>simp[al,cV]at hp;rw[hp.2];rfl
   .rfl
 .simp[af]at z;subst z;simp[bZ,af]at A;subst A;rfl
 .simp[af]at z;subst z;simp[bZ,af]at A;subst A;simp only[Jx,uh];split
  next hp=>rw[cV]at hp;rw[hp];rfl
  .rfl
 .cases z
def F6 (a b:ζ):tF ⟨a.toArray⟩ ⟨b.toArray⟩=decide (a=b):=by
 unfold tF
 grind
def alt {op:BinOp} {v:TV} {q:TV->M R} (z:apn op u v q=Z r):∃a b c t,bZ h u=Z (raw a)/\bZ h v=Z (raw b)/\uW op a b=Z c/\bZ h t=Z (raw c)/\q t=Z r:=by
 unfold apn at z;split at z
 .rename_i k a D b;split at z
  .rename_i hkk;have hkk':k=D:=by grind
   subst hkk';refine ⟨.int k a,.int k b,?_⟩;cases op<;>simp[reduceCtorEq]at z<;>first
    |cases z
    |exact⟨_,_,rfl,rfl,(by simp[uW,cr,bh]<;>rfl),rfl,z⟩
    |(let⟨L,z⟩:=cF z
      have A:(b==(0:Int))=aa:=by grind
      exact⟨_,_,rfl,rfl,by simp[uW,cr,bh,A,ca,dv],rfl,z⟩)
  .cases z
 .rename_i a b;refine ⟨.string ⟨jA a⟩,.string ⟨jA b⟩,?_⟩;split at z
  .exact⟨.bool (decide ((a:ζ)=b)),_,rfl,rfl,by simp[uW,F6],rfl,z⟩
  .exact⟨.bool (!decide ((a:ζ)=b)),_,rfl,rfl,by simp[uW,F6],rfl,z⟩
  .cases z
 .cases z
def aao :∀{l:Y TV} {xs:Y T.den},yF T l=Z xs->∀k,k<l! l->l[k]? =Z (.f T (xs.getD k T.zero))
 |[],xs,_,k,A=>by simp at A
 |.f S v::r,xs,z,k,A=>by
  simp[yF]at z;split at z
  .rename_i x D;split at z
   .rename_i l L;simp[af]at z;subst z;let⟨es,ex⟩:=gL D;cases es;subst ex;cases k with
    |zero=>rfl
    |succ k=>simpa using aao L k (by grind)
   .cases z
  .cases z
 |.zk _ _ _ _ _::r,xs,z,k,A|.ql _ _ _ _::r,xs,z,k,A|.H _ _::r,xs,z,k,A|.qy _ _ _::r,xs,z,k,A|.G _::r,xs,z,k,A|.emp::r,xs,z,k,A|.nil::r,xs,z,k,A|.mp _::r,xs,z,k,A|.agg _::r,xs,z,k,A|.qg _::r,xs,z,k,A|.qv _ _::r,xs,z,k,A|.undef::r,xs,z,k,A|.np::r,xs,z,k,A|.qw::r,xs,z,k,A|.qm _ _::r,xs,z,k,A|.sb _::r,xs,z,k,A=>by simp[yF]at z
def aan {l:Y TV} {xs:Y T.den} (z:ai3 l=Z ⟨T,xs⟩):∀k,k<l! l->l[k]? =Z (.f T (xs.getD k T.zero)):=by
 unfold ai3 at z;split at z
 .split at z
  next D A=>cases z;exact aao A
  .cases z
 .cases z
variable (hinv:gM h nx) (hi:sB e h)
include hinv hi
variable {X:FuncId->M cA} {W:TypeId->M Ty}
def K_mv (D:cO P o.op=Z (.mv c)) (z:ec X W (.op (.mv c)) e h nx K=Z r):iO P o b e h nx K r:=by
 simp[ec]at z;split at z
 next v A=>let⟨y,h1,L⟩:=a_ hi A;exact iO.q (k:=0) hinv D (λH _=>by simp[dx,h1]) (cM L) z
 .cases z
def are {a st:Operand} (hc:cO P o.op=Z (.pick c a st)) (D:ec X W (.op (.pick c a st)) e h nx K=Z r):iO P o b e h nx K r:=by
 simp[ec]at D;split at D
 .rename_i t hv;let⟨y,h1,h2⟩:=a_ hi hv;simp[bZ,af]at h2;subst h2;rcases lF D with ⟨rfl,z⟩|⟨rfl,z⟩
  .split at z
   next v A=>let⟨y2,N,L⟩:=a_ hi A;exact iO.q (k:=0) hinv hc (λH _=>by simp[dx,h1,fM,bh,N]) (cM L) z
   .cases z
  .split at z
   next v A=>let⟨y2,N,L⟩:=a_ hi A;exact iO.q (k:=0) hinv hc (λH _=>by simp[dx,h1,fM,N,ca,dv]) (cM L) z
   .cases z
 .cases D
def arf (N:cO P o.op=Z (.zh c)) (D:ec X W (.op (.zh c)) e h nx K=Z r):iO P o b e h nx K r:=by
 simp[ec]at D;split at D;all_goals first
  |(rename_i L
    let⟨y,h1,z⟩:=a_ hi L;have A:=z;simp[bZ,af]at z;subst z;exact iO.q (k:=0) hinv N (λH _=>by simp[dx,h1]) (cM A) D)
  |skip
 .rename_i g cap L;let⟨y,h1,z⟩:=a_ hi L;have A:=z;simp[bZ]at z;split at z
  .simp[af]at z;subst z;exact iO.q (k:=0) hinv N (λH _=>by simp[dx,h1]) (cM A) D
  .cases z
 .cases D
def auu (L:cO P o.op=Z (.not c)) (z:ec X W (.op (.not c)) e h nx K=Z r):iO P o b e h nx K r:=by
 simp[ec]at z;split at z
 next st D=>let⟨y,h1,A⟩:=a_ hi D;simp[bZ,af]at A;subst A;exact iO.q (k:=0) hinv L (λH _=>by simp[dx,h1,fM];rfl) (cM rfl) z
 .cases z
def arn {k:IntKind} (L:cO P o.op=Z (.conv k c)) (z:ec X W (.op (.conv k c)) e h nx K=Z r):iO P o b e h nx K r:=by
 simp[ec]at z;split at z
 next N n D=>let⟨y,h1,A⟩:=a_ hi D;simp[bZ,af]at A;subst A;exact iO.q (k:=0) hinv L (λH _=>by simp[dx,h1,fM];rfl) (cM rfl) z
 .cases z
def av8 {y:Operand} {st:Bool} (hc:cO P o.op=Z (.xq b c y)) (z:ec X W (.op (.xq b c y)) e h nx K=Z r):iO P o st e h nx K r:=by
 simp[ec]at z;split at z
 next a neg N A=>let⟨y,h1,L⟩:=a_ hi N;let⟨y2,h3,D⟩:=a_ hi A;simp[bZ,af]at L D;subst L D;exact iO.q (k:=0) hinv hc (λH _=>by simp[dx,h1,h3,fM];rfl) (cM rfl) z
 .cases z
def amn {st:Bool} (hc:cO P o.op=Z (.zf b c)) (A:ec X W (.op (.zf b c)) e h nx K=Z r):iO P o st e h nx K r:=by
 simp[ec]at A;split at A
 next D=>let⟨y,h1,z⟩:=a_ hi D;simp[bZ,af]at z;subst z;exact iO.q (k:=0) hinv hc (λH _=>by simp[dx,h1,uQ,bh];rfl) (cM rfl) A
 next D=>let⟨y,h1,z⟩:=a_ hi D;simp[bZ,af]at z;subst z;exact iO.q (k:=0) hinv hc (λH _=>by simp[dx,h1]) (cM rfl) A
 .rename_i T xs D;let⟨y,h1,z⟩:=a_ hi D;simp[bZ,af]at z;subst z;rcases lF A with ⟨N,L⟩|⟨N,L⟩
  .have N:=au N;exact iO.q (k:=0) (y0:=.qw) hinv hc (λH _=>by simp[dx,h1,fM,N]) (cM rfl) L
  .have N:=nK N;let⟨n,hn⟩:=Nat.exists_eq_succ_of_ne_zero N;exact iO.q (k:=0) (y0:=raw (.bool b)) hinv hc (λH _=>by simp[dx,h1,fM,hn]) (cM rfl) L
 .rename_i id D;split at A
  next ty T xs hb=>let⟨y,h1,z⟩:=a_ hi D;simp[bZ,eg,hb,dt,eO,ca,dv,af]at z;subst z;exact iO.q (k:=0) (y0:=raw (.bool b)) hinv hc (λH _=>by simp[dx,h1]) (cM rfl) A
  .cases A
 .cases A
def auz {y:Operand} (hc:cO P o.op=Z (.max c y)) (z:ec X W (.op (.max c y)) e h nx K=Z r):iO P o b e h nx K r:=by
 simp[ec]at z;split at z
 .rename_i k a k' st N A;let⟨y,h1,L⟩:=a_ hi N;let⟨y2,h3,D⟩:=a_ hi A;simp[bZ,af]at L D;subst L D;split at z
  .exact iO.q (k:=0) hinv hc (λH _=>by simp[dx,h1,h3,fM];rfl) (cM rfl) z
  .cases z
 .cases z
def auy {y:Operand} (hc:cO P o.op=Z (.min c y)) (z:ec X W (.op (.min c y)) e h nx K=Z r):iO P o b e h nx K r:=by
 simp[ec]at z;split at z
 .rename_i k a k' st N A;let⟨y,h1,L⟩:=a_ hi N;let⟨y2,h3,D⟩:=a_ hi A;simp[bZ,af]at L D;subst L D;split at z
  .exact iO.q (k:=0) hinv hc (λH _=>by simp[dx,h1,h3,fM];rfl) (cM rfl) z
  .cases z
 .cases z
def av5 (L:cO P o.op=Z (.jg i c)) (z:ec X W (.op (.jg i c)) e h nx K=Z r):iO P o b e h nx K r:=by
 simp[ec]at z;split at z;all_goals first
  |(rename_i D
    let⟨y,h1,A⟩:=a_ hi D;simp[bZ,af]at A;subst A;exact iO.q (k:=0) hinv L (λH _=>by simp[dx,h1,qH]) (cM rfl) z)
  |cases z
def av4 {st:Bool} (hc:cO P o.op=Z (.fld i j b c)) (z:ec X W (.op (.fld i j b c)) e h nx K=Z r):iO P o st e h nx K r:=by
 simp[ec]at z;split at z
 .rename_i l D;split at z
  .rename_i u L;let⟨y,h1,A⟩:=a_ hi D;simp[bZ]at A;split at A
   next l' hl=>simp[af]at A;subst A;let⟨y,h3,N⟩:=Zm hl L;exact iO.q (k:=0) hinv hc (λH _=>by simp[dx,h1,N]) (cM h3) z
   .cases A
  .cases z
 .rename_i T v D;split at z
  .cases z
  .rename_i ho;split at z
   next u L=>let⟨y,h1,A⟩:=a_ hi D;simp[bZ,af]at A;rw[rZ T v (by grind)]at A;subst A;let⟨y,h3,N⟩:=an4 (h:=h) L;exact iO.q (k:=0) hinv hc (λH _=>by simp[dx,h1,N]) (cM h3) z
   .cases z
 .cases z
def av2 {n:Operand} {st:Bool} (hc:cO P o.op=Z (.idx i j b c n)) (A:ec X W (.op (.idx i j b c n)) e h nx K=Z r):iO P o st e h nx K r:=by
 simp[ec]at A;split at A
 .rename_i v0 k sz hv hv2;split at A
  .rename_i T xs hA;let⟨hb,A⟩:=cF A;cases b with
   |true=>cases hA
   |false=>
   simp only[asz]at hA;split at hA
   .rename_i hsz;simp only[al,cS]at hsz;have hsz1:=au hsz.1;subst hsz1;split at hA
    .rename_i l hl;split at hA
     .rename_i hn;have hn:=au hn;let⟨y,h1,D⟩:=a_ hi hv;let⟨y2,h5,N⟩:=a_ hi hv2;simp[bZ,af]at N;subst N;have hj:sz.toNat<l! l:=by
       simp[al,dm,fK,bU]at hb;omega
      have hg:=aan hA sz.toNat hj;let⟨he,_⟩:=I1 hl D;let⟨z,L,hz2⟩:=ly he sz.toNat _ hg;refine iO.q (k:=0) hinv hc (λH _=>?_) (cM hz2) A;cases v0 with
      |agg q=>
       simp[bZ]at D;split at D
       next l' _=>simp[af]at D;subst D;have L:l'[sz.toNat]? =Z z:=L;simp[dx,h1,h5,fM,hb,bh,BC.sub?,BC.get,Gi,L]
       .cases D
      |f S u=>
       have ho:S.one=aa:=by
        have:=hsz.2;simpa[TV.isC] using this
       simp[bZ,af]at D;rw[rZ S u ho]at D;subst D;have L:((bI S u).map AV.f)[sz.toNat]? =Z z:=L;rw[bz]at L;simp[dx,h1,h5,fM,hb,bh,BC.sub?,BC.get,Gi,L]
      |_=>simp[TV.cs,TV.isC]at hl hsz
     .cases hA
    .cases hA
   .cases hA
  .split at A
   .rename_i l;let⟨hb,A⟩:=cF A;split at A
    .rename_i u hs;let⟨y,h1,D⟩:=a_ hi hv;let⟨y2,h5,N⟩:=a_ hi hv2;simp[bZ,af]at N;subst N;simp[bZ]at D;split at D
     next l' hl=>simp[af]at D;subst D;let⟨y,h3,h4⟩:=Zm hl hs;exact iO.q (k:=0) hinv hc (λH _=>by simp[dx,h1,h5,fM,hb,bh,h4]) (cM h3) A
     .cases D
    .cases A
   .rename_i T v _;split at A
    .cases A
    .rename_i ho;let⟨hb,A⟩:=cF A;split at A
     next u hs=>let⟨y,h1,D⟩:=a_ hi hv;let⟨y2,h5,N⟩:=a_ hi hv2;simp[bZ,af]at N D;subst N;rw[rZ T v (by grind)]at D;subst D;let⟨y,h3,h4⟩:=an4 (h:=h) hs;exact iO.q (k:=0) hinv hc (λH _=>by simp[dx,h1,h5,fM,hb,bh,h4]) (cM h3) A
     .cases A
   .cases A
 .cases A
def arl {n:Operand} (L:cO P o.op=Z (.jx i j c n)) (z:ec X W (.op (.jx i j c n)) e h nx K=Z r):iO P o b e h nx K r:=by
 simp[ec]at z;split at z
 .rename_i id off k sz hv A;let⟨y,h1,h2⟩:=a_ hi hv;let⟨y2,h5,N⟩:=a_ hi A;simp[bZ,af]at N h2;subst N h2;split at z
  .obtain⟨D,z⟩:=cF z;exact iO.q (k:=0) (y0:=.H (nm id) (off+sz.toNat*j)) hinv L (λH _=>by simp[dx,h1,h5,fM,D,bh]) (cM (by simp[bZ];rw[Nat.add_comm])) z
  .obtain⟨D,z⟩:=cF z;exact iO.q (k:=0) hinv L (λH _=>by simp[dx,h1,h5,fM,D,bh]) (cM rfl) z
 .cases z
def av6 (hc:cO P o.op=Z (.ext c i)) (z:ec X W (.op (.ext c i)) e h nx K=Z r):iO P o b e h nx K r:=by
 simp[ec]at z;split at z
 .rename_i l D;split at z
  .rename_i u L;let⟨y,h1,A⟩:=a_ hi D;simp[bZ]at A;split at A
   next l' N=>simp[af]at A;subst A;let⟨y,h3,h4⟩:=ly N i u L;exact iO.q (k:=0) hinv hc (λH _=>by simp[dx,h1,h3]) (cM h4) z
   .cases A
  .cases z
 .cases z
def av1 (L:cO P o.op=Z (.len c)) (z:ec X W (.op (.len c)) e h nx K=Z r):iO P o b e h nx K r:=by
 simp[ec]at z;split at z
 .rename_i v A;split at z
  next n D=>let⟨y,h1,h2⟩:=a_ hi A;have N:=T8 D h2;exact iO.q (k:=0) hinv L (λH _=>by simp[dx,h1,N];rfl) (cM rfl) z
  .cases z
 .cases z
def arj (L:cO P o.op=Z (.lens c)) (z:ec X W (.op (.lens c)) e h nx K=Z r):iO P o b e h nx K r:=by
 simp[ec]at z;split at z
 next s D=>let⟨y,h1,A⟩:=a_ hi D;simp[bZ,af]at A;subst A;exact iO.q (k:=0) hinv L (λH _=>by simp[dx,h1,fM];rfl) (cM rfl) z
 .cases z
def ard {i:Operand} (hc:cO P o.op=Z (.jq c i)) (z:ec X W (.op (.jq c i)) e h nx K=Z r):iO P o b e h nx K r:=by
 simp[ec]at z;split at z
 .rename_i s k j hv A;let⟨hj,z⟩:=cF z;let⟨y,h1,L⟩:=a_ hi hv;let⟨y2,h3,D⟩:=a_ hi A;simp[bZ,af]at L D;subst L D;let⟨N,j1,j2⟩:=mG hj;have e1:dm 0 j=J:=by simp[dm,N]
  have e2:(⟨jA s⟩:ByteArray).data.toList[j.toNat]? =Z (List.getD s j.toNat 0):=by grind
  exact iO.q (k:=0) (y0:=raw (.int .u8 (aQ (List.getD s j.toNat 0).toNat))) hinv hc (λH _=>by simp only[dx,h1,h3,fM,e1,bh,e2];rfl) (cM rfl) z
 .cases z
def av3 {sz:Operand} (hc:cO P o.op=Z (.jk i c sz)) (z:ec X W (.op (.jk i c sz)) e h nx K=Z r):iO P o b e h nx K r:=by
 simp only[ec]at z;split at z
 .rename_i id k j hv A;split at z
  .rename_i ty p T xs hb;split at z
   .rename_i D;have D:=au D;let⟨hj,z⟩:=cF z;let⟨y,h1,N⟩:=a_ hi hv;let⟨y2,h3,L⟩:=a_ hi A;simp[bZ,af]at L;subst L;let⟨j0,j1,j2⟩:=mG hj;have hne:¬((p&&l! xs==0)=J):=by grind
    simp only[bZ,eg,hb,dt,av hne,af]at N;subst N;have hc1:(T.size==i&&dm 0 j&&fK j (l! xs))=J:=by
     simp[fe,al]at hj;simp[D,hj.1,hj.2]
    exact iO.q (k:=0) hinv hc (λH _=>by simp[dx,h1,h3,fM,hc1,bh,cW]) (cM rfl) z
   .cases z
  .cases z
 .rename_i T xs k j hv A;split at z
  next D=>have D:=au D;let⟨hj,z⟩:=cF z;let⟨y,h1,N⟩:=a_ hi hv;let⟨y2,h3,L⟩:=a_ hi A;simp[bZ,af]at L N;subst L N;have hj':(dm 0 j&&fK j (ah xs))=J:=hj;exact iO.q (k:=0) hinv hc (λH _=>by simp[dx,h1,h3,fM,hj',bh,cW,D]) (cM rfl) z
  .cases z
 .rename_i id sz' n k j hv A;split at z
  .rename_i D;have D:=au D;subst D;let⟨hj,z⟩:=cF z;let⟨y,h1,N⟩:=a_ hi hv;let⟨y2,h3,L⟩:=a_ hi A;simp[bZ,af]at L N;subst L N;have hj':(sz'==sz'&&dm 0 j&&fK j n)=J:=by grind
   exact iO.q (k:=0) hinv hc (λH _=>by simp only[dx,h1,h3,fM,hj',bh]) (cM rfl) z
  .cases z
 .cases z
def aux {caps:Y Operand} (D:cO P o.op=Z (.mkf f caps)) (z:ec X W (.op (.mkf f caps)) e h nx K=Z r):iO P o b e h nx K r:=by
 simp[ec]at z;split at z
 next l A=>let⟨l',h1,L⟩:=ER hi A;exact iO.q (k:=0) hinv D (y0:=.qv f l') (λH _=>by simp[dx,h1]) (cM (by simp[bZ,L])) z
 .cases z
def avc {op:BinOp} {y:Operand} (hc:cO P o.op=Z (.bin op c y)) (z:ec X W (.op (.bin op c y)) e h nx K=Z r):iO P o b e h nx K r:=by
 simp[ec]at z;split at z
 next u v hv A=>let⟨a,st,x,t,h1,h2,h3,h4,h5⟩:=alt (h:=h) z;let⟨y,g1,N⟩:=a_ hi hv;let⟨y2,L,D⟩:=a_ hi A;rw[h1]at N;cases N;rw[h2]at D;cases D;simp[raw]at g1 L;exact iO.q (k:=0) hinv hc (λH _=>by simp[dx,g1,L,h3]) (cM h4) h5
 .cases z
end ops
def iz:eD->M (Bool×o!)
 |.F _ p T xs=>Z (p,T.size,l! xs)
 |.qj p sz n=>Z (p,sz,n)
 |.I F _ x|.qp F _ x _ _=>rY F x
 |_=>U
def bw (h:aX) (i:Nat):eg h i=(h.get i).bind iz:=by
 unfold eg;cases h.get i with
 |none=>rfl
 |some b=>cases b<;>rfl
def bV.refl (h:aX):bV h h:=λ_ _ h=>h
def bV.trans {b c:aX} (h1:bV h b) (z:bV b c):bV h c:=λi r a=>z i r (h1 i r a)
def bV.set {b:eD} (A:∀r,eg h i=Z r->iz b=Z r):bV h (h.set i (Z b)):=λj r z=>by
 rw[bw,PT.get_set];by_cases e:j=i
 .grind
 .rw[av e,<-bw];exact z
def Po {b:eD} {r:Bool×o!} (h:iz b=Z r):iz (uA b)=Z r:=by
 cases b with
 |I F a x|qp F a x k p=>simp[iz]at h;simp[uA,h,iz]
 |_=>first|exact h|cases h
def Be {b:eD} {ty:M TypeId} (h:uA b= .C ty r):False:=by
 cases b<;>simp[uA]at h<;>first|cases h|(split at h<;>cases h)
def Lk (b:eD):∃p s n,uA b= .qj p s n:=by
 cases b with
 |I F a x|qp F a x k p=>simp only[uA];split<;>exact⟨_,_,_,rfl⟩
 |_=>exact⟨_,_,_,rfl⟩
def ahc {b:eD} (A:NC h i j (uA b)=Z S):False:=by
 let⟨p,s,n,e⟩:=Lk b;rw[e]at A;cases j<;>cases A
def iI (m:Nat) (h:aX) (i:Nat):(dD m h).get i=if aJ m i then (h.get i).map uA else h.get i:=by
 unfold dD;split
 .simp_all
 .rw[PT.get_updI];simp[Nat.one_mul,cW];cases h.get i with
  |none=>simp
  |some b=>simp[bn];split<;>rfl
def bV.kill (m:Nat) (h:aX):bV h (dD m h):=λi r z=>by
 rw[bw]at z ⊢;rw[iI];split
 .cases A:h.get i with
  |none=>rw[A]at z;cases z
  |some b=>rw[A]at z;exact Po z
 .exact z
def gM.set {nx':Nat} {b:eD} (hi:gM h j) (A:bV h (h.set i (Z b))) (hlt:i<nx') (hle:j<=nx') (D:∀ty l,b= .C ty l->lJ (h.set i (Z b)) l=J):gM (h.set i (Z b)) nx':=by
 refine ⟨λnx ty l z=>?_,λnx c z=>?_⟩
 .rw[PT.get_set]at z;split at z
  .grind
  .exact e9 A l (hi.C nx _ l z)
 .rw[PT.get_set]at z;split at z
  .omega
  .exact dw (hi.low nx c z) hle
def gM.kill (hi:gM h i) (m:Nat):gM (dD m h) i:=by
 refine ⟨λj ty l z=>?_,λj c z=>?_⟩
 .rw[iI]at z;refine e9 (bV.kill m h) l (hi.C j ty l ?_);split at z
  .cases A:h.get j with
   |none=>rw[A]at z;cases z
   |some b=>rw[A]at z;exact (Be (fG z)).elim
  .exact z
 .rw[iI]at z;split at z
  .cases A:h.get j with
   |none=>rw[A]at z;cases z
   |some b=>exact hi.low j b A
  .exact hi.low j c z
def U6 {h':aX} (A:bV h h') {b:eD} (D:∀ty l,b= .C ty l->lJ h l=J):jJ h' b=jJ h b:=by
 cases b with
 |C ty l=>
  let⟨l',z⟩:=eR h l (D ty l rfl);cases ty<;>simp[jJ,z,fT A l l' z]
 |_=>rfl
def md {h':aX} (z:bV h h') {b:eD} (A:∀ty l,b= .C ty l->lJ h l=J) (i:Nat):∀k,NC h' i k b=NC h i k b
 |0=>U6 z A
 |_+1=>rfl
def acg {h':aX} (hi:gM h j) (z:bV h h') (A:h'.get i=h.get i):erHF h' (nm i)=erHF h (nm i):=by
 rw[bE,bE,A];cases D:h.get i with
 |none=>rfl
 |some b=>exact U6 z λty l e=>hi.C i _ l (by rw[D,e])
def ik (h h':aX):Prop:=∀i k,(h'.get i).bind (wu i k)=(h.get i).bind (wu i k)
def ik.refl (h:aX):ik h h:=λ_ _=>rfl
def ik.trans {b c:aX} (h1:ik h b) (z:ik b c):ik h c:=λi k=>(z i k).trans (h1 i k)
def noM:M eD->Bool
 |some (.I _ _ _)=>aa
 |some (.qp _ _ _ _ _)=>aa
 |_=>J
def J7 {c:M eD} (z:noM c=J) (i k:Nat):c.bind (wu i k)=U:=by
 cases c with
 |none=>rfl
 |some b=>cases b<;>first|rfl|cases z
def ik.set {b:M eD} (h1:noM (h.get i)=J) (z:noM b=J):ik h (h.set i b):=λj k=>by
 rw[PT.get_set];by_cases e:j=i
 .subst e;rw[aD rfl,J7 h1,J7 z]
 .rw[av e]
def ik.at_ {b:M eD} (h1:∀k,b.bind (wu i k)=(h.get i).bind (wu i k)):ik h (h.set i b):=λj k=>by
 rw[PT.get_set]
 grind
def ik.of {h':aX} (z:∀i,h'.get i=h.get i\/(noM (h.get i)=J/\noM (h'.get i)=J)):ik h h':=λj k=>by
 rcases z j with e|⟨A,e2⟩
 .rw[e]
 .rw[J7 A,J7 e2]
def ik.kill (hm:∀m,aJ i m=J->∃ty p T xs,h.get m=Z (.F ty p T xs)):ik h (dD i h):=λj k=>by
 rw[iI];split
 next A=>let⟨ty,p,T,xs,z⟩:=hm j A;rw[z];rfl
 .rfl
def lT {h':aX} (hi:gM h i) (A:bV h h') (hm:ik h h') (D:∀nx,j=nm nx->h'.get nx=h.get nx):erHF h' j=erHF h j:=by
 cases z:ix j with
 |zero=>rw[pi z];exact acg hi A (D _ (pi z))
 |succ k=>
  have e:=kN j;rw[z]at e;rw[<- e,kJ,kJ];exact hm _ k
def L9 {h':aX} (hme:ik h h') (A:erHF h' i=Z S):erHF h i=Z S\/∃q z,i=nm q/\h'.get q=Z z/\jJ h' z=Z S:=by
 cases D:ix i with
 |zero=>
  let⟨z,h1,L⟩:=iK A;rw[D]at L;exact .inr ⟨ow i,z,pi D,h1,L⟩
 |succ k=>
  have e:=kN i;rw[D]at e;rw[<- e,kJ]at A ⊢;exact .inl ((hme _ _).symm.trans A)
def H6 (m:Nat):ι:=(ahz m).map nm
def o7 :j∈H6 i↔∃m,j=nm m/\aJ i m=J:=by
 unfold H6;rw[cj];constructor
 .rintro⟨m,h1,rfl⟩;exact⟨m,rfl,Pz.1 h1⟩
 .rintro⟨m,rfl,h1⟩;exact⟨m,Pz.2 h1,rfl⟩
def mC :nm i∈H6 j↔aJ j i=J:=by
 rw[o7];constructor
 .rintro⟨m,h1,z⟩;rw[ui h1];exact z
 .grind
def dA (h:aX) (m:Nat):Prop:=∀i,aJ m i=J->∃ty p T xs,h.get i=Z (.F ty p T xs)
def dA.zero (h:aX):dA h 0:=λi hi=>by simp at hi
def dA.or (A:dA h i) (z:dA h j):dA h (i|||j):=λa hi=>by
 rw[bu,mS]at hi;exact hi.elim (A a) (z a)
def mZ {v:TV} {x:T.den} (A:ia h T v=Z (x,i)):dA h i:=by
 cases v with
 |f S v|emp|nil=>
  simp[ia]at A;split at A
  .simp[af,aP]at A;rw[<- A.2];exact dA.zero h
  .cases A
 |G id=>
  simp[ia]at A;split at A
  .rename_i ty p S xs N;split at A
   .simp[af,aP]at A;rw[<- A.2];intro m hi;have:=bj.1 hi
    grind
   .cases A
  .cases A
 |_=>simp[ia]at A
def wM :∀(n:Nat) (T:Ty) (l:Y TV) (x:T.den) (m:Nat) (r:Y TV),fA h n T l=Z (x,m,r)->dA h m
 |0,_,_,_,_,_,hp=>by simp[fA]at hp
 |n+1,.st t,l,x,m,r,hp=>wM n t l x m r hp
 |n+1,.pr a b,l,x,m,r,hp=>by
  simp[fA]at hp;split at hp
  .rename_i z m1 A h1;split at hp
   next D m2 L N=>simp[af,aP]at hp;obtain⟨_,rfl,_⟩:=hp;exact (wM n a l z m1 A h1).or (wM n b A D m2 L N)
   .cases hp
  .cases hp
 |n+1,.un,l,x,m,r,hp=>by
  obtain⟨_,rfl,_⟩:=hp;exact dA.zero h
 |n+1,.ex,l,x,m,r,hp=>by
  simp[fA]at hp;split at hp
  next z m1 A h1=>simp[af,aP]at hp;obtain⟨_,rfl,_⟩:=hp;exact wM n PY l z m1 A h1
  .cases hp
 |n+1,.sm,l,x,m,r,hp=>by
  simp[fA]at hp;split at hp
  next z m1 A h1=>simp[af,aP]at hp;obtain⟨_,rfl,_⟩:=hp;exact wM n Pk l z m1 A h1
  .cases hp
 |n+1,.int k,l,x,m,r,hp|n+1,.bool,l,x,m,r,hp|n+1,.str,l,x,m,r,hp|n+1,.sl t,l,x,m,r,hp=>by
  simp[fA]at hp;split at hp
  .split at hp
   next z m1 h1=>obtain⟨_,rfl,_⟩:=hp;exact mZ h1
   .cases hp
  .cases hp
def aam {x:T.den} (A:Ek h T u=Z (x,i)):dA h i:=by
 cases u with
 |agg l=>
  simp only[Ek]at A;split at A
  .cases A
  .split at A
   next D m1 h1=>simp[af,aP]at A;obtain⟨_,rfl⟩:=A;exact wM 40 T l D m1 [] h1
   .cases A
 |f S u=>exact mZ (v:=.f S u) A
 |zk T xs j N off=>exact mZ (v:=.zk T xs j N off) A
 |ql id sz j off=>exact mZ (v:=.ql id sz j off) A
 |H id off=>exact mZ (v:=.H id off) A
 |qy id off z=>exact mZ (v:=.qy id off z) A
 |G id=>exact mZ (v:=.G id) A
 |emp=>exact mZ (v:=.emp) A
 |nil=>exact mZ (v:=.nil) A
 |mp id=>exact mZ (v:=.mp id) A
 |zm id L=>exact mZ (v:=.zm id L) A
 |qg q=>exact mZ (v:=.qg q) A
 |qv g q=>exact mZ (v:=.qv g q) A
 |undef=>exact mZ (v:=.undef) A
 |np=>exact mZ (v:=.np) A
 |qw=>exact mZ (v:=.qw) A
 |qm S q=>exact mZ (v:=.qm S q) A
 |sb q=>exact mZ (v:=.sb q) A
def Q0 :∀(n:Nat) (l:Y TV) (xs:Y T.den) (m:Nat),C8 h T n l=Z (xs,m)->dA h m
 |0,[],xs,m,hp=>by simp[C8,af,aP]at hp;rw[<- hp.2];exact dA.zero h
 |0,_::_,xs,m,hp=>by simp[C8]at hp
 |n+1,l,xs,m,hp=>by
  simp[C8]at hp;split at hp
  .rename_i D m1 z h1;split at hp
   next A m2 L=>obtain⟨_,rfl⟩:=hp;exact (wM 40 T l D m1 z h1).or (Q0 n z A m2 L)
   .cases hp
  .cases hp
def Cb :∀(n:Nat) (T:Ty) (v:T.den) (off sz:Nat) (z:T.den) (m:Nat),gG h u n T v off sz=Z (z,m)->dA h m
 |0,_,_,_,_,_,_,A=>by simp[gG]at A
 |n+1,.st t,v,off,sz,z,m,A=>by
  simp[gG]at A;split at A
  .rename_i q D;split at D
   .simp[af]at A;subst A;exact aam D
   .cases D
  .exact Cb n t v off sz z m A
 |n+1,.pr a b,v,off,sz,z,m,A=>by
  simp[gG]at A;split at A
  .split at A
   next L m1 h1=>simp[af,aP]at A;obtain⟨_,rfl⟩:=A;exact Cb n a v.1 off sz L m1 h1
   .cases A
  .split at A
   next L m1 h1=>simp[af,aP]at A;obtain⟨_,rfl⟩:=A;exact Cb n b v.2 _ sz L m1 h1
   .cases A
 |n+1,.un,v,off,sz,z,m,A=>by simp[gG]at A
 |n+1,.ex,v,off,sz,z,m,A=>by
  simp[gG]at A;split at A
  .rename_i q D;split at D
   .simp[af]at A;subst A;exact aam D
   .cases D
  .split at A
   next L m1 h1=>simp[af,aP]at A;obtain⟨_,rfl⟩:=A;exact Cb n PY _ off sz L m1 h1
   .cases A
 |n+1,.sm,v,off,sz,z,m,A=>by
  simp[gG]at A;split at A
  .rename_i q D;split at D
   .simp[af]at A;subst A;exact aam D
   .cases D
  .split at A
   next L m1 h1=>simp[af,aP]at A;obtain⟨_,rfl⟩:=A;exact Cb n Pk _ off sz L m1 h1
   .cases A
 |n+1,.int k,v,off,sz,z,m,A|n+1,.bool,v,off,sz,z,m,A|n+1,.str,v,off,sz,z,m,A|n+1,.sl t,v,off,sz,z,m,A=>by
  simp only[gG]at A;split at A
  .exact mZ A
  .cases A
def vj (hm:dA h j) (z:aJ j i=J):∃p sz n,(dD j h).get i=Z (.qj p sz n):=by
 let⟨ty,p,T,xs,h1⟩:=hm i z;exact⟨p,T.size,l! xs,by rw[iI,aD z,h1];rfl⟩
section ops
variable {R:Type} {P:Program} {o:Oper} {e:gT} {h:aX} {nx:Nat} {K:KO R} {r:R}
def eH (n:Nat) (b:kl):jK [(n,b)] n=Z b:=by simp[jK]
def eK.mk' {s:SU} (hc:cO P o.op=Z s) {H:mQ} (hH:H.get=erHF h) {k:Nat} {rdl wrl N:ι} {nw:NW} (ha:dx s (CS e h) H k=Z ⟨y,rdl,wrl,nw,N⟩) {h':aX} {wr:Nat} (wr':ι)
 (hsub:∀nx'∈wrl,nx'∈wr') (hsame:∀n,n∉wr'->erHF h' n=erHF h n)
 (hdom:∀nx'∈wr',∀b',erHF h' nx'=Z b'->∃b,(if nx'∈wrl then jK nw nx' else erHF h nx')=Z b)
 (hblk:∀(L H2:HF),rf L H2->(∀nx'∈wrl,L nx'=jK nw nx')->(∀nx'∈wr',nx'∉wrl->L nx'=erHF h nx')->(∀nx'∈wr',H2 nx'=erHF h' nx')->(∀nx'∈wr',∀b b',L nx'=Z b->H2 nx'=Z b'->fD L H2 b b')/\∀y0,bZ h' u=Z y0->jV L H2 y y0)
 (hrd:∀n∈rdl,aJ j (ow n)=J) (hwr:∀n∈wr',aJ wr (ow n)=J) (hN:∀n∈N,nx<=ow n/\ow n<i) (hrows:bV h h') (hinv':gM h' i) (hg:nx<=i):eK P o aa e h nx u j wr h' i:=by
 have ht:=KU hc ha;rw[Cn,hH]at ht;refine ⟨?_,hrows,hinv',hg,nofun⟩;have base:∀(val:AV),(∀y0,bZ h' u=Z y0->y0=val)->(bZ h' u=U->val=y)->fZ P o (fC e h) (erHF h) ⟨val,rdl,wr',erHF h',N⟩:=by
  intro val hval hnone;refine fZ.view ht (λnx' hi=>.inl (hsub nx' hi)) λh1 hr1 hw1=>?_
  have hd:rf (eZ h1 wrl (jK nw)) (eZ h1 wr' (erHF h')):=by
   intro nx' b hb;unfold eZ at hb ⊢
   grind
  let⟨q1,q2⟩:=hblk _ _ hd (λnx' hi=>by unfold eZ;rw[aD hi]) (λnx' hi hw=>by unfold eZ;rw[av hw];exact hw1 nx' hi) (λnx' hi=>by unfold eZ;rw[aD hi]);refine ⟨⟨hd,λnx' b b' hb D=>?_⟩,?_⟩
  .by_cases hi:nx'∈wr'
   .grind
   .unfold eZ at hb D;rw[av (λhw=>hi (hsub nx' hw))]at hb;rw[av hi,hb]at D;cases D;exact fD.refl hd b
  .cases A:bZ h' u with
   |none=>rw[hnone A];exact jV.refl hd _
   |some y0=>rw[<- hval y0 A];exact q2 y0 A
 have hu:eZ (erHF h) wr' (erHF h')=erHF h':=by
  unfold eZ
  grind
 cases A:bZ h' u with
 |none=>exact⟨_,base y (λy0 z=>by rw[A]at z;cases z) (λ_=>rfl),λy0 z=>(by cases z),hu,hrd,hwr,hN⟩
 |some y0=>exact⟨_,base y0 (λy' z=>by rw[A]at z;cases z;rfl) (λhn=>by rw[A]at hn;cases hn),λy' z=>by cases z;rfl,hu,hrd,hwr,hN⟩
def Fn (hi:sB e h):∀(parts:Y m?) (cells cs:Y TV) (cells':Y AV),L4 cells e parts=Z cs->cI h cells=Z cells'->∃cs',Bv cells' (CS e h) parts=Z cs'/\cI h cs=Z cs'/\(lG cells=J->lG cs=J)
 |[],cells,cs,cells',hf,he=>by simp only[L4,af]at hf;subst hf;exact⟨cells',rfl,he,id⟩
 |(off,sz,x)::rest,cells,cs,cells',hf,he=>by
  simp only[L4]at hf;split at hf
  .rename_i v hv;split at hf
   .rename_i q hq;split at hf
    .rename_i L;simp only[al,cV]at L;let⟨y,h1,h2⟩:=a_ hi hv;let⟨N,h4⟩:=I1 hq h2;let⟨cs',h5,h6,h7⟩:=Fn hi rest (splice cells off q) cs (splice cells' off y.cs) hf (oK off he N);refine ⟨cs',?_,h6,λD=>h7 ?_⟩
     .simp only[Bv,h1];rw[aD,h5];simp only[al,cV];exact⟨⟨by rw[gK N];exact L.1,by rw[gK he];exact L.2⟩,tG N h4⟩
     .clear h5 h6 h7 hf;have app:∀a b:Y TV,lG a=J->lG b=J->lG (a++b)=J:=by
       intro a b D hb;induction a with
       |nil=>exact hb
       |cons z r A=>simp only[lG,al,gA]at D ⊢;exact⟨D.1,A D.2⟩
      have tk:∀(a:Y TV) n,lG a=J->lG (a.take n)=J:=by
       intro a;induction a with
       |nil=>intro n h;simp[lG]
       |cons z r A=>
        intro n h;cases n with
        |zero=>rfl
        |succ n=>simp only[lG,al,xD]at h ⊢;exact⟨h.1,A n h.2⟩
      have dr:∀(a:Y TV) n,lG a=J->lG (a.drop n)=J:=by
       intro a;induction a with
       |nil=>intro n h;simp[lG]
       |cons z r A=>
        intro n h;cases n with
        |zero=>exact h
        |succ n=>simp only[lG,al,I_]at h ⊢;exact A n h.2
      unfold splice
      grind
    .cases hf
   .cases hf
  .cases hf
variable (hinv:gM h nx) (hi:sB e h)
include hinv hi
variable {X:FuncId->M cA} {W:TypeId->M Ty} {N:ξ}
def amo {parts:Y m?} (z:cO P o.op=Z (.build N parts)) (A:ec X W (.op (.build N parts)) e h nx K=Z r):iO P o b e h nx K r:=by
 simp[ec]at A;split at A
 .rename_i l L;split at A
  next cs hf=>let⟨h1,_,_⟩:=w7 h L;let⟨cs',h2,h3,_⟩:=Fn hi parts l cs _ hf h1;refine iO.q (k:=0) (y0:=Py cs') hinv z (λH _=>by simp[dx,h2]) (λy D=>?_) A;simp[bZ,h3,af]at D;subst D;exact ag5 cs'
  .cases A
 .cases A
def ari (hc:cO P o.op=Z (.load i b c)) (A:ec X W (.op (.load i b c)) e h nx K=Z r):iO P o aa e h nx K r:=by
 let⟨H,hH⟩:=gu h;simp only[ec]at A;split at A
 .rename_i id off hv;let⟨y,h1,L⟩:=a_ hi hv;simp[bZ,af]at L;subst L;split at A
  .rename_i ty l N;split at A
   .rename_i v hs;let⟨l',hl⟩:=eR h l (hinv.C id _ l N);let⟨y,h3,h4⟩:=Zm hl hs;have hg:H.get (nm id)=Z ⟨ty,.mx l'⟩:=by rw[hH,bE,N];simp[aC,jJ,hl]
    exact⟨v,fV id,0,h,nx,A,eK.pure (k:=0) hinv hc hH (y0:=y) (rdl:=[nm id]) (by simp[dx,h1,xc,hg,h4]) (cM h3) (λn D=>by simp[aB]at D;subst D;rw[c8];exact bj.2 rfl) nofun⟩
   .cases A
  .cases A
 .rename_i id sz' j off hv;let⟨y,h1,L⟩:=a_ hi hv;simp[bZ,af]at L;subst L;split at A
  .rename_i ty p T xs N;split at A
   .rename_i hsz;have hsz:=au hsz;let⟨hj,A⟩:=cF A;split at A
    .rename_i v hs;let⟨y,h3,h4⟩:=aex (h:=h) hj hs;have hne:¬((p&&l! xs==0)=J):=by
      have:=mG hj
      grind
     have hg:H.get (nm id)=Z ⟨ty,.fz (xs.flatMap (bI T))⟩:=by rw[hH,bE,N];simp only[aC,jJ,av hne]
     exact⟨v,fV id,0,h,nx,A,eK.pure (k:=0) hinv hc hH (y0:=.f y) (rdl:=[nm id]) (by simp[dx,h1,xc,hg,hsz,h4]) (cM h3) (λn D=>by simp[aB]at D;subst D;rw[c8];exact bj.2 rfl) nofun⟩
    .cases A
   .cases A
  .rename_i ty l N;split at A
   .cases A
   .split at A
    .rename_i hsz;simp only[al]at hsz;have e1:=au hsz.1.1;have e2:=au hsz.1.2;have e3:=au hsz.2;subst e1 e2 e3;split at A
     .rename_i T xs hA;let⟨hj,A⟩:=cF A;let⟨l',hl⟩:=eR h l (hinv.C id _ l N);have hg:H.get (nm id)=Z ⟨ty,.mx l'⟩:=by rw[hH,bE,N];simp[aC,jJ,hl]
      have hlt:j.toNat<l! l:=by
       simp[fe,al,dm,fK,bU]at hj;omega
      let⟨z,hz1,hz2⟩:=ly hl j.toNat _ (aan hA j.toNat hlt);exact⟨_,fV id,0,h,nx,A,eK.pure (k:=0) hinv hc hH (y0:=z) (rdl:=[nm id]) (by simp[dx,h1,xc,hg,BC.sub?,BC.get,Gi,cW,hz1]) (cM hz2) (λn D=>by simp[aB]at D;subst D;rw[c8];exact bj.2 rfl) nofun⟩
     .cases A
    .cases A
  .cases A
 .rename_i T xs j hj off hv;let⟨y,h1,L⟩:=a_ hi hv;simp[bZ,af]at L;subst L;split at A
  next v hs=>let⟨y,h3,h4⟩:=aex (h:=h) hj hs;exact iO.q (k:=0) (y0:=.f y) hinv hc (λH _=>by simp[dx,h1,xc,h4]) (cM h3) A
  .cases A
 .cases A
def amp (hc:cO P o.op=Z (.alloc s N)) (hk:ec X W (.op (.alloc s N)) e h nx K=Z r):iO P o aa e h nx K r:=by
 have _:=hi;let⟨H,hH⟩:=gu h;simp[ec]at hk;split at hk
 .rename_i l hl;let⟨_,hz,_⟩:=w7 h hl;have hnone:h.get nx=U:=by
   cases z:h.get nx with
   |none=>rfl
   |some b=>have:=hinv.low nx b z;omega
  have L:bV h (h.set nx (Z (.C (Z s) l))):=bV.set λr L=>by rw[bw,hnone]at L;cases L
  let⟨h1,_,_⟩:=w7 (h.set nx (Z (.C (Z s) l))) hl;have hb':erHF (h.set nx (Z (.C (Z s) l))) (nm nx)=Z ⟨s,.mx (N.map raw)⟩:=by rw[bE,PT.get_set,aD rfl];simp[aC,jJ,h1]
  refine ⟨_,_,_,_,_,hk,eK.mk' hc hH (k:=nm nx) (by rfl) [nm nx] (λi hi=>hi) (λn A=>?_) (λi hi b' _=>⟨⟨s,.fz (N.map .raw)⟩,?_⟩) (λH1 H2 d hw1 _ hw2=>⟨λi hi b b' z D=>?_,λy hy=>?_⟩) (by simp) ?_ ?_ L (hinv.set L (by omega) (by omega) λty' l' he=>?_) (by omega)⟩
  .refine lT hinv L (ik.set (by rw[hnone];rfl) rfl) λi e=>?_
   rw[PT.get_set,av (λe=>A (by grind))]
  .simp[aB]at hi;subst hi;simp[jK]
  .simp[aB]at hi;subst hi;rw[hw1 _ (by simp)]at z;rw[hw2 _ (by simp),hb']at D;rw[eH]at z;simp[af]at z D;subst z D;refine fD.C rfl rfl ?_ λx hx=>?_
   .simp[BC.toMx,kM];exact gF.refl d _
   .simp only[BC.toMx]at hx;obtain⟨q,hq,rfl⟩:=cj.1 hx;exact hz q hq
  .simp[bZ,af]at hy;subst hy;exact jV.refl d _
  .intro n A;simp[aB]at A;subst A;rw[c8];exact bj.2 rfl
  .intro n A;simp[aB]at A;subst A;rw[c8];omega
  .cases he;exact kQ _ _ _ h1
 .cases hk
def avb (hc:cO P o.op=Z (.box s c)) (L:ec X W (.op (.box s c)) e h nx K=Z r):iO P o aa e h nx K r:=by
 let⟨H,hH⟩:=gu h;simp[ec]at L;split at L
 .rename_i v hv;split at L
  .rename_i l hl;let⟨y,h1,h2⟩:=a_ hi hv;let⟨h3,h4⟩:=I1 hl h2;have hcell:=tG h3 h4;have hnone:h.get nx=U:=by
    cases N:h.get nx with
    |none=>rfl
    |some b=>have:=hinv.low nx b N;omega
   have z:bV h (h.set nx (Z (.C (Z s) l))):=bV.set λr z=>by rw[bw,hnone]at z;cases z
   have h5:=fT z l _ h3;have hb':erHF (h.set nx (Z (.C (Z s) l))) (nm nx)=Z ⟨s,.mx y.cs⟩:=by rw[bE,PT.get_set,aD rfl];simp[aC,jJ,h5]
   refine ⟨_,_,_,_,_,L,eK.mk' hc hH (k:=nm nx) (by simp only[dx,h1,hcell,bh];rfl) [nm nx] (λi hi=>hi) (λn A=>?_) (λi hi b' _=>⟨⟨s,nW y.cs⟩,?_⟩) (λH1 H2 d hw1 _ hw2=>⟨λi hi b b' N D=>?_,λy hy=>?_⟩) (by simp) ?_ ?_ z (hinv.set z (by omega) (by omega) λty' l' he=>?_) (by omega)⟩
   .refine lT hinv z (ik.set (by rw[hnone];rfl) rfl) λi e=>?_
    rw[PT.get_set,av (λe=>A (by grind))]
   .simp[aB]at hi;subst hi;simp[jK]
   .simp[aB]at hi;subst hi;rw[hw1 _ (by simp)]at N;rw[hw2 _ (by simp),hb']at D;rw[eH]at N;simp[af]at N D;subst N D;let⟨q1,q2⟩:=nA y.cs;refine fD.C q2 rfl ?_ λc hx=>?_
    .rw[q1];exact gF.refl d _
    .exact mM hcell c hx
   .simp[bZ,af]at hy;subst hy;exact jV.refl d _
   .intro n A;simp[aB]at A;subst A;rw[c8];exact bj.2 rfl
   .intro n A;simp[aB]at A;subst A;rw[c8];omega
   .cases he;exact kQ _ _ _ h5
  .cases L
 .cases L
def amm {l:Operand} (hcm:FY (W s)=U) (hc:cO P o.op=Z (.zg s i j N l c)) (A:ec X W (.op (.zg s i j N l c)) e h nx K=Z r):iO P o aa e h nx K r:=by
 let⟨H,hH⟩:=gu h;simp only[ec,hcm]at A;split at A
 .rename_i T k a k' b hT hv hv2;split at A
  .rename_i hsz;simp only[al]at hsz;have hs:=au hsz.1;have hz:=M_ hsz.2;subst hs hz;let⟨hck,A⟩:=cF A;let⟨y,h1,h2⟩:=a_ hi hv;let⟨y2,h3,h4⟩:=a_ hi hv2;simp[bZ,af]at h2 h4;subst h2 h4;have hnone:h.get nx=U:=by
    cases hb:h.get nx with
    |none=>rfl
    |some b=>have:=hinv.low nx b hb;omega
   generalize hB:eD.F s aa T (aF (aO a) T.zero)=B at A;have z:bV h (h.set nx (Z B)):=bV.set λr z=>by rw[bw,hnone]at z;cases z
   have hb':erHF (h.set nx (Z B)) (nm nx)=Z ⟨s,.fz ((aF (aO a) T.zero).flatMap (bI T))⟩:=by rw[bE,PT.get_set,aD rfl,<-hB];simp[jJ]
   refine ⟨_,_,_,_,_,A,eK.mk' hc hH (k:=nm nx) (by simp only[dx,h1,h3,fM,hck,bh];rfl) [nm nx] (λsz hi=>hi) (λn D=>?_) (λsz hi b' _=>⟨⟨s,.fz (repl (uy T) (aO a))⟩,?_⟩) (λH1 H2 d hw1 _ hw2=>⟨λsz hi b b' hb L=>?_,λy hy=>?_⟩) (by simp) ?_ ?_ z (hinv.set z (by omega) (by omega) λty' l' he=>?_) (by omega)⟩
   .refine lT hinv z (ik.set (by rw[hnone];rfl) (by rw[<- hB];rfl)) λsz e=>?_
    rw[PT.get_set,av (λe=>D (by grind))]
   .simp[aB]at hi;subst hi;simp[jK]
   .simp[aB]at hi;subst hi;rw[hw1 _ (by simp)]at hb;rw[hw2 _ (by simp),hb']at L;rw[eH]at hb;simp[af]at hb L;subst hb L;refine fD.C rfl rfl (J1 d T _) λx hx=>?_
    obtain⟨q,hq,rfl⟩:=cj.1 hx;exact mc T _ q hq
   .simp[bZ,bw,PT.get_set,bh,<-hB,aC,iz,dt,eO,ca,dv,af,cL]at hy;subst hy;exact jV.refl d _
   .intro n D;simp[aB]at D;subst D;rw[c8];exact bj.2 rfl
   .intro n D;simp[aB]at D;subst D;rw[c8];omega
   .grind
  .cases A
 .cases A
end ops
def yl {f:R->Y FV} (hf:∀x,l! (f x)=i):∀(xs:Y R) (j:Nat),(xs.take j).flatMap f=(xs.flatMap f).take (j*i)
 |[],j|x::r,0=>by simp
 |x::r,j+1=>by
  rw[xD,fS,fS,yl hf r j,show (j+1)*i=l! (f x)+j*i from by rw[hf,ju];omega,List.take_length_add_append]
def L2 {f:R->Y FV} (hf:∀x,l! (f x)=i):∀(xs:Y R) (j:Nat),(xs.drop j).flatMap f=(xs.flatMap f).drop (j*i)
 |[],j|x::r,0=>by simp
 |x::r,j+1=>by
  rw[I_,fS,L2 hf r j,show (j+1)*i=l! (f x)+j*i from by rw[hf,ju];omega,List.drop_length_add_append]
variable {N:ξ}
def Tw :∀(n:Nat) (x:FV),x∈repl N n->∃v∈N,x= .raw v
 |0,x,h=>by simp[repl]at h
 |n+1,x,h=>by
  rw[repl,bA]at h;rcases h with h|h
  .grind
  .exact Tw n x h
def I4:∀l:Y FV,(∀x∈l,x.isCell=J)->gp (l.map .f)=J
 |[],_=>rfl
 |z::r,h=>by simp[bY,gp,al];exact⟨h z (by simp),I4 r λx A=>h x (by grind)⟩
section ops
variable {R:Type} {P:Program} {o:Oper} {e:gT} {h:aX} {nx:Nat} {K:KO R} {r:R}
def gM.fresh (hinv:gM h nx):h.get nx=U:=by
 cases z:h.get nx with
 |none=>rfl
 |some b=>have:=hinv.low nx b z;omega
def rf.kill (hinv:gM h nx) (hm:dA h i):rf (erHF h) (erHF (dD i h)):=λn b N=>by
 let⟨c,z,A⟩:=iK N;rw[iI]at z;by_cases ht:aJ i (ow n)=J
 .obtain⟨pp,ss,nn,L⟩:=vj hm ht;rw[iI]at L;rw[L]at z;cases z;cases D:ix n with
  |_=>rw[D]at A;cases A
 .rw[av ht]at z;refine ⟨b,?_⟩;unfold erHF;rw[z];simp[aC];rw[<- md (bV.kill i h) (λty l e=>hinv.C (ow n) _ l (by rw[z,e]))];exact A
def dA.lt (hinv:gM h nx) (hm:dA h j) (hi:aJ j i=J):i<nx:=by
 let⟨_,_,_,_,z⟩:=hm i hi;exact hinv.low i _ z
def eK.new {s:SU} (hinv:gM h nx) (hc:cO P o.op=Z s) {H:mQ} (hH:H.get=erHF h) {y0:AV} {rdl:ι} {b0:kl} (ha:dx s (CS e h) H (nm nx)=Z ⟨y0,rdl,[nm nx],[(nm nx,b0)],[nm nx]⟩) {B:eD} {v:TV} {m rd:Nat} (hm:dA h m)
 (hB:∀ty l,B= .C ty l->lJ ((dD m h).set nx (Z B)) l=J)
 (hblk:∀A z,rf A z->Eg h A z m->∀b',jJ ((dD m h).set nx (Z B)) B=Z b'->fD A z b0 b')
 (hval:∀A z y,rf A z->Eg h A z m->bZ ((dD m h).set nx (Z B)) v=Z y->jV A z y0 y)
 (hrd:∀n∈rdl,aJ rd (ow n)=J) (hMem:∀i k,wu i k B=U:=by exact λ_ _=>rfl):eK P o aa e h nx v rd (m|||fV nx) ((dD m h).set nx (Z B)) (nx+1):=by
 have hk:=hinv.kill m;have hme:ik h ((dD m h).set nx (Z B)):=(ik.kill hm).trans (ik.at_ λk=>by rw[hk.fresh];exact hMem nx k);have hr0:=bV.kill m h;have N:bV (dD m h) ((dD m h).set nx (Z B)):=bV.set λr hr=>by rw[bw,hk.fresh]at hr;cases hr
 have hr:=hr0.trans N;have hgiv:∀i,aJ m i=J->erHF ((dD m h).set nx (Z B)) (nm i)=U:=λi hi=>by
  have hlt:=hm.lt hinv hi;let⟨p,sz,n,hd⟩:=vj hm hi;rw[bE,PT.get_set,av (by omega),hd];rfl
 refine eK.mk' hc hH ha (nm nx::H6 m) (λi hi=>by simp[aB]at hi;subst hi;simp) (λn D=>?_) (λi hi b' hb'=>?_) (λA z d hw1 hw0 L=>?_) hrd ?_ ?_ hr (hk.set N (by omega) (by omega) hB) (by omega)
 .refine lT hinv hr hme λi e=>?_
  subst e;rw[PT.get_set,av (λe=>D (by grind)),iI,av];intro hb;exact D (bJ _ (mC.2 hb))
 .rcases aZ.1 hi with rfl|hi
  .exact⟨b0,by rw[aD (by simp),eH]⟩
  .obtain⟨j,rfl,hj⟩:=o7.1 hi
   grind
 .have g:Eg h A z m:=λi hi=>by
   have hlt:=hm.lt hinv hi;have hmem:nm i∈nm nx::H6 m:=bJ _ (mC.2 hi);exact⟨hw0 _ hmem (λhc=>by simp[aB]at hc;have:=ui hc;omega),by rw[L _ hmem,hgiv i hi]⟩
  refine ⟨λi hi b b' hb hb2=>?_,λy hy=>hval A z y d g hy⟩;rcases aZ.1 hi with rfl|hi'
  .rw[hw1 _ (by simp),eH]at hb;rw[L _ hi,bE,PT.get_set,aD rfl]at hb2
   grind
  .obtain⟨j,rfl,hj⟩:=o7.1 hi'
   grind
 .intro n D;rw[bu];rcases aZ.1 D with rfl|D
  .rw[c8,bj.2 rfl];simp
  .obtain⟨j,rfl,hj⟩:=o7.1 D;rw[c8,hj];rfl
 .intro n D;simp[aB]at D;subst D;rw[c8];omega
def eK.wrt {s:SU} (hinv:gM h nx) (hc:cO P o.op=Z s) {H:mQ} (hH:H.get=erHF h) {y0:AV} {rdl:ι} {b0:kl} {k:Nat} (ha:dx s (CS e h) H k=Z ⟨y0,rdl,[nm i],[(nm i,b0)],[]⟩) {B0 B:eD} (hb0:h.get i=Z B0) {v:TV} {m rd:Nat} (hm:dA h m) (hmid:aJ m i=aa)
 (hrow:iz B=iz B0) (hB:∀ty l,B= .C ty l->lJ ((dD m h).set i (Z B)) l=J)
 (hblk:∀A z,rf A z->Eg h A z m->∀b',jJ ((dD m h).set i (Z B)) B=Z b'->fD A z b0 b')
 (hval:∀A z y,rf A z->Eg h A z m->bZ ((dD m h).set i (Z B)) v=Z y->jV A z y0 y)
 (hrd:∀n∈rdl,aJ rd (ow n)=J) (hMem:∀k,wu i k B=wu i k B0:=by exact λ_=>rfl):eK P o aa e h nx v rd (m|||fV i) ((dD m h).set i (Z B)) nx:=by
 have hk:=hinv.kill m;have hr0:=bV.kill m h;have hkid:(dD m h).get i=Z B0:=by rw[iI,hmid];simpa using hb0
 have N:bV (dD m h) ((dD m h).set i (Z B)):=bV.set λr hr=>by rw[bw,hkid]at hr;rw[hrow];exact hr
 have hme:ik h ((dD m h).set i (Z B)):=(ik.kill hm).trans (ik.at_ λk=>by rw[hkid];exact hMem k);have hr:=hr0.trans N;have hgiv:∀id,aJ m id=J->erHF ((dD m h).set i (Z B)) (nm id)=U:=λid hi=>by
  have hne:id≠i:=λe=>by grind
  let⟨p,sz,n,hd⟩:=vj hm hi;rw[bE,PT.get_set,av hne,hd];rfl
 refine eK.mk' hc hH ha (nm i::H6 m) (λid hi=>by simp[aB]at hi;subst hi;simp) (λn D=>?_) (λid hi b' hb'=>?_) (λA z d hw1 hw0 L=>?_) hrd ?_ (by simp) hr (hk.set N (hinv.low i B0 hb0) (by omega) hB) (by omega)
 .refine lT hinv hr hme λid e=>?_
  subst e;rw[PT.get_set,av (λe=>D (by grind)),iI,av];intro hb;exact D (bJ _ (mC.2 hb))
 .rcases aZ.1 hi with rfl|hi
  .exact⟨b0,by rw[aD (by simp),eH]⟩
  .obtain⟨j,rfl,hj⟩:=o7.1 hi
   grind
 .have g:Eg h A z m:=λid hi=>by
   have hne:id≠i:=λe=>by grind
   have hmem:nm id∈nm i::H6 m:=bJ _ (mC.2 hi);exact⟨hw0 _ hmem (λhc=>by simp[aB]at hc;exact hne (ui hc)),by rw[L _ hmem,hgiv id hi]⟩
  refine ⟨λid hi b b' hb hb2=>?_,λy hy=>hval A z y d g hy⟩;rcases aZ.1 hi with rfl|hi'
  .rw[hw1 _ (by simp),eH]at hb;rw[L _ hi,bE,PT.get_set,aD rfl]at hb2
   grind
  .obtain⟨j,rfl,hj⟩:=o7.1 hi'
   grind
 .intro n D;rw[bu];rcases aZ.1 D with rfl|D
  .rw[c8,bj.2 rfl];simp
  .obtain⟨j,rfl,hj⟩:=o7.1 D;rw[c8,hj];rfl
def Pp (h:aX) {A:Y TV} (D:MP N=Z A):∀len,cI h (aF len A).flatten=Z ((repl N len).map .f)
 |0=>rfl
 |n+1=>by
  rw[m8,List.flatten_cons,repl,cq];refine oL ?_ (Pp h D n);rw[(w7 h D).1];simp only[kM];rfl
def QZ {H:mQ} (hH:H.get=erHF h) {N:Y T.den} (A:Ek h (.sl T) u=Z (N,i)) (D:bZ h u=Z y):∃rd,y.row? H T.size=Z ((N.flatMap (bI T)).map .f,l! N,rd)/\∀n∈rd,∃m,n=nm m/\aJ i m=J:=by
 have fl:=λL:Y T.den=>d_ (bk T) L
 have tk:∀L:Y T.den,(L.flatMap (bI T)).take (l! L*T.size)=L.flatMap (bI T):=λL=>by grind
 cases u with
 |f S x=>
  simp[Ek,ia]at A;split at A
  next z hz=>obtain⟨e,rfl⟩:=gL hz;subst e;simp[bZ,af]at D;subst D;simp only[fM,AV.row?];simp_all
  .cases A
 |emp|nil=>
  obtain⟨rfl,_⟩:=A;simp[bZ,af]at D;subst D;exact⟨[],rfl,by simp⟩
 |G id=>
  simp[Ek,ia]at A;split at A
  .rename_i ty p S xs hb;split at A
   .rename_i z hz;obtain⟨rfl,rfl⟩:=A;obtain⟨e,rfl⟩:=gL hz;cases e;simp[bZ,eg,hb,af]at D;subst D;unfold dt;split
    next hp=>simp only[al,cV]at hp;have:xs=[]:=db.1 hp.2;subst this;exact⟨[],rfl,by simp⟩
    .rename_i hp;have hg:H.get (nm id)=Z ⟨ty,.fz (xs.flatMap (bI T))⟩:=by rw[hH,bE,hb];simp only[aC,jJ,av hp]
     refine ⟨[nm id],?_,λn hn=>?_⟩
     .simp only[AV.row?,hg,cr,bh,BC.isCells,BC.len,dU];rw[aD (ba (by grind))];simp[BC.toMx,<-gz,tk]
     .simp[aB]at hn;exact⟨id,hn,bj.2 rfl⟩
   .cases A
  .cases A
 |agg l=>simp[Ek,Ty.one]at A
 |_=>simp[Ek,ia]at A
def XT (z:bZ h u=Z y) (A:u.isC=J):gp y.cs=J:=by
 rw[Q3 (Rl z A)];simp[gp,Bool.and_true];exact Rl z A
def aci (T:Ty) (x:T.den):gp ((bI T x).map .f)=J:=by
 have:∀l:Y FV,(∀x∈l,x.isCell=J)->gp (l.map .f)=J:=by
  intro l A;induction l with
  |nil=>rfl
  |cons z r D=>simp[bY,gp,al];exact⟨A z (by simp),D λx L=>A x (by grind)⟩
 exact this _ (pa T x)
def gw {v:TV} {x:T.den} (A:ia h T v=Z (x,i)) (D:bZ h v=Z y):gp y.cs=J:=by
 cases v with
 |f S v=>simp[bZ,af]at D;subst D;rw[Cp];exact aci S v
 |emp|nil|G id=>exact XT D rfl
 |_=>simp[ia]at A
def Kl (L:T.one=J) {x:T.den} (A:ia h T u=Z (x,i)):u.isC=J:=by
 cases u with
 |f S u=>
  simp[ia]at A;split at A
  next z D=>let⟨e,_⟩:=gL D;subst e;exact L
  .cases A
 |emp|nil|G id=>rfl
 |_=>simp[ia]at A
def Wk {a b:Y TV} (A:lG a=J) (L:lG b=J):lG (a++b)=J:=by
 induction a with
 |nil=>exact L
 |cons z r D=>simp[lG,al,gA]at A ⊢;exact⟨A.1,D A.2⟩
def vh:∀(n:Nat) (T:Ty) (l:Y TV) (x:T.den) (m:Nat) (r:Y TV),fA h n T l=Z (x,m,r)->∃a,l=a++r/\lG a=J
 |0,_,_,_,_,_,hp=>by simp[fA]at hp
 |n+1,.st t,l,x,m,r,hp=>vh n t l x m r hp
 |n+1,.pr a b,l,x,m,r,hp=>by
  simp[fA]at hp;split at hp
  .rename_i z m1 A h1;split at hp
   next D m2 L N=>simp[af,aP]at hp;obtain⟨_,_,rfl⟩:=hp;obtain⟨a1,rfl,g1⟩:=vh n a l z m1 A h1;obtain⟨a2,rfl,g2⟩:=vh n b A D m2 L N;exact⟨a1++a2,by simp,Wk g1 g2⟩
   .cases hp
  .cases hp
 |n+1,.un,l,x,m,r,hp=>by
  obtain⟨_,_,rfl⟩:=hp;exact⟨[],rfl,rfl⟩
 |n+1,.ex,l,x,m,r,hp=>by
  simp[fA]at hp;split at hp
  next z m1 A h1=>simp[af,aP]at hp;obtain⟨_,_,rfl⟩:=hp;exact vh n PY l z m1 A h1
  .cases hp
 |n+1,.sm,l,x,m,r,hp=>by
  simp[fA]at hp;split at hp
  next z m1 A h1=>simp[af,aP]at hp;obtain⟨_,_,rfl⟩:=hp;exact vh n Pk l z m1 A h1
  .cases hp
 |n+1,.int k,l,x,m,r,hp|n+1,.bool,l,x,m,r,hp|n+1,.str,l,x,m,r,hp|n+1,.sl t,l,x,m,r,hp=>by
  simp[fA]at hp;split at hp
  .rename_i c q;split at hp
   next z m1 h1=>obtain⟨_,_,rfl⟩:=hp;exact⟨[c],rfl,by simp[lG,Kl rfl h1]⟩
   .cases hp
  .cases hp
def Nb {x:T.den} (D:Ek h T u=Z (x,i)) (A:bZ h u=Z y):gp y.cs=J:=by
 cases u with
 |agg l=>
  simp only[Ek]at D;split at D
  .cases D
  .split at D
   .rename_i L m1 h1;let⟨a,e,ga⟩:=vh 40 T l L m1 [] h1;rw[jB]at e;subst e;simp[bZ]at A;split at A
    next l' hl=>simp[af]at A;subst A;exact tG hl ga
    .cases A
   .cases D
 |f S u=>exact gw (v:=.f S u) D A
 |zk T xs j hj off=>exact gw (v:=.zk T xs j hj off) D A
 |ql id sz j off=>exact gw (v:=.ql id sz j off) D A
 |H id off=>exact gw (v:=.H id off) D A
 |qy id off z=>exact gw (v:=.qy id off z) D A
 |G id=>exact gw (v:=.G id) D A
 |emp=>exact gw (v:=.emp) D A
 |nil=>exact gw (v:=.nil) D A
 |mp id=>exact gw (v:=.mp id) D A
 |zm id N=>exact gw (v:=.zm id N) D A
 |qg q=>exact gw (v:=.qg q) D A
 |qv g q=>exact gw (v:=.qv g q) D A
 |undef=>exact gw (v:=.undef) D A
 |np=>exact gw (v:=.np) D A
 |qw=>exact gw (v:=.qw) D A
 |qm S q=>exact gw (v:=.qm S q) D A
 |sb q=>exact gw (v:=.sb q) D A
def nZ (D:bZ h u=Z y):∀(n:Nat) (T:Ty) (v:T.den) (off sz:Nat) (z:T.den) (m:Nat),gG h u n T v off sz=Z (z,m)->gp y.cs=J
 |0,_,_,_,_,_,_,A=>by simp[gG]at A
 |n+1,.st t,v,off,sz,z,m,A=>by
  simp[gG]at A;split at A
  .rename_i q L;split at L
   .exact Nb L D
   .cases L
  .exact nZ D n t v off sz z m A
 |n+1,.pr a b,v,off,sz,z,m,A=>by
  simp[gG]at A;split at A
  .split at A
   next N m1 h1=>exact nZ D n a v.1 off sz N m1 h1
   .cases A
  .split at A
   next N m1 h1=>exact nZ D n b v.2 _ sz N m1 h1
   .cases A
 |n+1,.un,v,off,sz,z,m,A=>by simp[gG]at A
 |n+1,.ex,v,off,sz,z,m,A=>by
  simp[gG]at A;split at A
  .rename_i q L;split at L
   .exact Nb L D
   .cases L
  .split at A
   next N m1 h1=>exact nZ D n PY _ off sz N m1 h1
   .cases A
 |n+1,.sm,v,off,sz,z,m,A=>by
  simp[gG]at A;split at A
  .rename_i q L;split at L
   .exact Nb L D
   .cases L
  .split at A
   next N m1 h1=>exact nZ D n Pk _ off sz N m1 h1
   .cases A
 |n+1,.int k,v,off,sz,z,m,A|n+1,.bool,v,off,sz,z,m,A|n+1,.str,v,off,sz,z,m,A|n+1,.sl t,v,off,sz,z,m,A=>by
  simp only[gG]at A;split at A
  .exact gw A D
  .cases A
def Ng (l:Y FV):yG (l.map .f)=Z l:=by
 induction l with
 |nil=>rfl
 |cons x r z=>simp[bY,yG,z]
def vL (l:Y FV):nW (l.map .f)= .fz l:=by unfold nW;rw[Ng]
def I5:∀{a b:Y TV},lG a=J->lG b=J->lG (a++b)=J
 |[],_,_,z=>z
 |x::r,b,A,z=>by
  simp[lG,al]at A;simp[gA,lG,al];exact⟨A.1,I5 A.2 z⟩
def HE {z:Y TV} (A:lG z=J):∀n,lG (aF n z).flatten=J
 |0=>rfl
 |n+1=>by exact I5 A (HE A n)
def aae {H:mQ} (L:H.get=erHF h) {l:Y TV} {l':Y AV} (D:h.get i=Z (.C (Z j) l)) (z:cI h l=Z l') {n sz:Nat} (N:l! l=n*sz):AV.row? H sz (.G (nm i) sz n)=Z (l',n,[nm i]):=by
 have A:H.get (nm i)=Z ⟨j,.mx l'⟩:=by rw[L,bE,D];simp[aC,jJ,z]
 have hln:=gK z;simp only[AV.row?,cr,bh,A,BC.isCells,dU,BC.len,BC.toMx];rw[aD (ba (by omega)),iu (by omega)]
variable (hinv:gM h nx) (hi:sB e h)
include hinv hi
variable {X:FuncId->M cA} {W:TypeId->M Ty}
def aro {parts:Y m?} (hcm:FY (W s)=U) (hc:cO P o.op=Z (.xz s i j N parts)) (D:ec X W (.op (.xz s i j N parts)) e h nx K=Z r):iO P o aa e h nx K r:=by
 let⟨H,hH⟩:=gu h;simp only[ec,hcm]at D;split at D
 .rename_i T zc hT hz;split at D
  .rename_i hs;have hs:=au hs;subst hs;split at D
   .rename_i cs hf;split at D
    .rename_i xs m hp;let⟨cs',h1,h2,_⟩:=Fn hi parts _ cs _ hf (Pp h hz j);have hm:=Q0 j cs xs m hp;refine ⟨_,_,_,_,_,D,eK.new hinv hc hH (y0:=if j=0 then .emp else .G (nm nx) T.size j) (rdl:=[]) (b0:=⟨s,nW cs'⟩) (by simp[dx,h1]) hm (λ_ _ he=>by cases he) (λH1 H2 d g b' A=>?_) (λH1 H2 y d g z=>?_) (by simp)⟩
     .simp only[jJ]at A;split at A
      .cases A
      rw[af]at A;subst A;let⟨q1,q2⟩:=nA cs';refine fD.C q2 rfl ?_ λx hx=>?_
      .rw[q1];exact (EM d j cs xs m cs' hp h2 g).1
      .simp only[BC.toMx]at hx;obtain⟨q,L,rfl⟩:=cj.1 hx;exact mc T _ q L
     .simp only[bZ,bw,PT.get_set,bh,aC,iz,dt,af]at z;rw[(EM d j cs xs m cs' hp h2 g).2]at z;split at z
      next L=>simp only[al,cV]at L;subst z;rw[aD L.2];exact jV.refl d _
      next L=>subst z;rw[av (λh0=>L (by simp_all))];exact jV.refl d _
    .cases D
   .cases D
  .cases D
 .cases D
def Sp {H:mQ} (hH:H.get=erHF h) {ty:Operand} {z:Y T.den} {yy:AV} {rdl:ι} (hc:cO P o.op=Z (.app s T.size i ty c)) (h1:lS (CS e h) ty=Z y) (h2:bZ h u=Z y) (h3:lS (CS e h) c=Z yy) (h5:yy.row? H T.size=Z ((z.flatMap (bI T)).map .f,l! z,rdl)) (h6:∀n∈rdl,aJ j (ow n)=J) (A:alw s T.size i T u z j h nx K=Z r):iO P o aa e h nx K r:=by
 have hfr:=hinv.fresh;have _:=hi;unfold alw at A;have onEmp:∀(rd':Nat),(∀n∈rdl,aJ rd' (ow n)=J)->D3 y=J->Le y .emp->bf (ah z) i=J->eK P o aa e h nx (.G nx) rd' (fV nx) (h.set nx (Z (.F s J T z))) (nx+1):=by
  intro rd' hrd' he hle hroom;have hr1:bV h (h.set nx (Z (.F s J T z))):=bV.set λr hr=>by rw[bw,hfr]at hr;cases hr
  have hyb:∀id sz' n,y≠ .G id sz' n:=by rintro id sz' n rfl;cases he
  have L:dx (.app s T.size i ty c) (CS e h) H (nm nx)=if ah z==0 then Z ⟨y,rdl,[],[],[]⟩ else Z ⟨.G (nm nx) T.size (ah z),rdl,[nm nx],[(nm nx,⟨s,nW ((z.flatMap (bI T)).map .f)⟩)],[nm nx]⟩:=by
   simp only[dx,h1,h3,h5];cases y with
   |G id sz' n=>exact b8 rfl (hyb id sz' n)
   |qm l n=>cases he
   |_=>simp only[he,hroom,fy,bh]
  by_cases hl:ah z=0
  .rw[hl]at L;simp only[cr,bh]at L;have hnil:z=[]:=db.1 hl;subst hnil;refine eK.mk' hc hH L [] (by simp) (λn _=>?_) (by simp) (λH1 H2 d _ _ _=>⟨by simp,λyb N=>?_⟩) hrd' (by simp) (by simp) hr1 (hinv.set hr1 (by omega) (by omega) λ_ _ he=>by cases he) (by omega)
   .by_cases D:n=nm nx
    .subst D;rw[bE,bE,PT.get_set,aD rfl,hfr];rfl
    .refine lT hinv hr1 (ik.set (by rw[hfr];rfl) rfl) λbytes e=>?_
     subst e;rw[PT.get_set,av (λe=>D (by rw[e]))]
   .simp only[bZ,bw,PT.get_set,bh,aC,iz,dt,mR,cr,fy,af]at N;subst N;exact hle.toH d
  .rw[av (by simpa using hl)]at L;rw[vL]at L;have key:=eK.new (m:=0) (rd:=rd') hinv hc hH L (B:=.F s J T z) (v:=.G nx) (dA.zero h) (λ_ _ he=>by cases he) (λH1 H2 d g b' hb'=>by
    simp only[jJ]at hb';rw[av (by simpa using hl)]at hb';cases hb';exact fD.refl d _) (λH1 H2 yb d g N=>by
    simp only[bZ,bw,PT.get_set,bh,aC,iz,dt]at N;rw[av (by simpa using hl)]at N;cases N;exact jV.refl d _) hrd'
   rw[wd]at key;exact key
 split at A
 .rename_i id;split at A
  .rename_i ty' p S xs0 hb;split at A
   .rename_i xs hxs;obtain⟨ee,rfl⟩:=gL hxs;cases ee;split at A
    .rename_i hcond;simp only[al,cV,cS]at hcond;obtain⟨rfl,hmid⟩:=hcond;let⟨hroom,A⟩:=cF A;simp only[bZ,eg,hb,af]at h2;have hidlt:=hinv.low id _ hb;have hne:nx≠id:=by omega
     have hrd:∀n∈rdl,aJ (fV id|||j) (ow n)=J:=λn D=>by
      rw[bu,h6 n D];simp
     generalize hh':(h.set id (Z (.qj p T.size (ah xs0)))).set nx (Z (.F ty' p T (xs0++z)))=h' at A;have hrA:bV h (h.set id (Z (.qj p T.size (ah xs0)))):=bV.set λr hr=>by rw[bw,hb]at hr;exact hr
     have hg2:∀bytes,h'.get bytes=if bytes=nx then Z (.F ty' p T (xs0++z)) else if bytes=id then Z (.qj p T.size (ah xs0)) else h.get bytes:=λbytes=>by rw[<- hh',PT.get_set,PT.get_set]
     have hr:bV h h':=by
      rw[<- hh'];refine hrA.trans (bV.set λr hr=>?_);rw[bw,PT.get_set,av hne,hfr]at hr;cases hr
     have hinv':gM h' (nx+1):=by
      refine ⟨λbytes s l hil=>?_,λbytes x hic=>?_⟩
      .rw[hg2]at hil;split at hil
       .cases hil
       .split at hil
        .cases hil
        .exact e9 hr l (hinv.C bytes _ l hil)
      .rw[hg2]at hic;split at hic
       .omega
       .split at hic
        .omega
        .have:=hinv.low bytes x hic;omega
     have hme:ik h h':=(ik.of λbytes=>by
      rw[hg2];by_cases e1:bytes=nx
      .rw[aD e1,e1,hfr];exact .inr ⟨rfl,rfl⟩
      .rw[av e1];by_cases e2:bytes=id
       .rw[aD e2,e2,hb];exact .inr ⟨rfl,rfl⟩
       .rw[av e2];exact .inl rfl)
     have hsame:∀n,n≠nm nx->n≠nm id->erHF h' n=erHF h n:=λn h1 h2=>lT hinv hr hme λbytes e=>by
      subst e;rw[hg2,av (λe=>h1 (by rw[e])),av (λe=>h2 (by rw[e]))]
     have hdead:erHF h' (nm id)=U:=by rw[bE,hg2,av (by omega),aD rfl];rfl
     have hnew:erHF h' (nm nx)=if p&&l! (xs0++z)==0 then U else Z ⟨ty',.fz ((xs0++z).flatMap (bI T))⟩:=by rw[bE,hg2,aD rfl];rfl
     have hval:bZ h' (.G nx)=Z (dt p nx T.size (l! (xs0++z))):=by simp only[bZ,bw,hg2,bh,aC,iz]
     have hwm:∀n,n=nm nx\/n=nm id->aJ (fV id|||fV nx) (ow n)=J:=λn D=>by
      rcases D with rfl|rfl<;>rw[c8,bu,bj.2 rfl]<;>simp
     refine ⟨_,_,_,_,_,A,?_⟩;by_cases hp:(p&&l! xs0==0)=J
     ·
      have hyb:y= .emp:=by rw[<- h2];unfold dt;rw[aD hp]
      subst hyb;simp only[al,cV]at hp;obtain⟨rfl,hl0⟩:=hp;have hnil:xs0=[]:=db.1 hl0;subst hnil;have hroom':bf (ah z) i=J:=by simpa using hroom
      have L:dx (.app ty' T.size i ty c) (CS e h) H (nm nx)=if ah z==0 then Z ⟨.emp,rdl,[],[],[]⟩ else Z ⟨.G (nm nx) T.size (ah z),rdl,[nm nx],[(nm nx,⟨ty',nW ((z.flatMap (bI T)).map .f)⟩)],[nm nx]⟩:=by
       simp only[dx,h1,h3,h5,D3,hroom',fy,bh]
      have hdead0:erHF h (nm id)=U:=by rw[bE,hb];rfl
      by_cases hl:ah z=0
      .rw[hl]at L;simp only[cr,bh]at L;have hnil:z=[]:=db.1 hl;subst hnil;refine eK.mk' hc hH L [] (by simp) (λn _=>?_) (by simp) (λH1 H2 d _ _ _=>⟨by simp,λyb N=>?_⟩) hrd (by simp) (by simp) hr hinv' (by omega)
       .by_cases D:n=nm nx
        .subst D;rw[hnew,bE,hfr];rfl
        .by_cases hn2:n=nm id
         .subst hn2;rw[hdead,hdead0]
         .exact hsame n D hn2
       .rw[hval]at N;simp only[dt,jB,mR,cr,fy,bh,af]at N;subst N;exact jV.refl d _
      .rw[av (by simpa using hl),vL]at L;refine eK.mk' hc hH L [nm nx] (λbytes hi=>hi) (λn D=>?_) (λbytes hi b' _=>⟨_,by rw[aD hi];simp only[aB]at hi;subst hi;exact eH _ _⟩) (λH1 H2 d hw1 _ hw2=>⟨λbytes hi u b' hb1 hb2=>?_,λyb N=>?_⟩) hrd (λn D=>hwm n (.inl (by simpa using D))) (λn D=>by simp only[aB]at D;subst D;rw[c8];omega) hr hinv' (by omega)
       .have hn1:n≠nm nx:=by simpa using D
        by_cases hn2:n=nm id
        .subst hn2;rw[hdead,hdead0]
        .exact hsame n hn1 hn2
       .simp only[aB]at hi;subst hi;rw[hw1 _ (by simp),eH]at hb1;rw[hw2 _ (by simp),hnew,av (by simpa using hl)]at hb2;simp only[af,kT]at hb1 hb2;subst hb1 hb2;exact fD.refl d _
       .rw[hval]at N;simp only[dt,kT]at N;rw[av (by simpa using hl)]at N;cases N;exact jV.refl d _
     .have hyb:y= .G (nm id) T.size (l! xs0):=by rw[<- h2];unfold dt;rw[av hp]
      subst hyb;have hg:H.get (nm id)=Z ⟨ty',.fz (xs0.flatMap (bI T))⟩:=by rw[hH,bE,hb];simp only[aC,jJ,av hp]
      have fl:=d_ (bk T) xs0;have tk:(xs0.flatMap (bI T)).take (l! xs0*T.size)=xs0.flatMap (bI T):=by rw[<- fl,cv]
      have hmem:mem (nm id) rdl=aa:=by
       cases hx:mem (nm id) rdl with
       |false=>rfl
       |true=>
        have hm:=h6 _ (ag7.1 hx);rw[c8,hmid]at hm;cases hm
      have L:dx (.app ty' T.size i ty c) (CS e h) H (nm nx)=Z ⟨.G (nm nx) T.size (l! xs0+l! z),nm id::rdl,[nm nx,nm id],[(nm nx,⟨ty',.fz ((xs0++z).flatMap (bI T))⟩)],[nm nx]⟩:=by
       have hcnd:(T.size==T.size&& !(mem (nm id) rdl)&&(BC.fz (xs0.flatMap (bI T))).isCells&&dF (l! xs0*T.size) (BC.fz (xs0.flatMap (bI T))).len&&ty'==ty'&&bf (l! xs0+l! z) i)=J:=by
        have:dF (l! xs0*T.size) (BC.fz (xs0.flatMap (bI T))).len=J:=ba (by simp only[BC.len];omega);rw[this,hmem,hroom];simp[BC.isCells]
       simp only[dx,h1,h3,h5,hg,hcnd,bh,BC.toMx,<-gz,tk,<-cq,vL,xF]
      have hne2:¬((p&&l! (xs0++z)==0)=J):=by
       simp only[al,cV,bc]at hp ⊢;intro hh;exact hp ⟨hh.1,by omega⟩
      refine eK.mk' hc hH L [nm nx,nm id] (λbytes hi=>hi) (λn D=>?_) (λbytes hi b' hb'=>?_) (λH1 H2 d hw1 _ hw2=>⟨λbytes hi u b' hb1 hb2=>?_,λyb N=>?_⟩) (λn D=>?_) (λn D=>hwm n (by simpa using D)) (λn D=>by simp only[aB]at D;subst D;rw[c8];omega) hr hinv' (by omega)
      .simp only[aZ,cw,fF,not_or]at D;exact hsame n D.1 D.2
      .simp only[aZ,cw,fF]at hi;rcases hi with rfl|rfl
       .exact⟨_,by rw[aD (by simp)];exact eH _ _⟩
       .rw[hdead]at hb';cases hb'
      .simp only[aZ,cw,fF]at hi;rcases hi with rfl|rfl
       .rw[hw1 _ (by simp),eH]at hb1;rw[hw2 _ (by simp),hnew,av hne2]at hb2;simp only[af]at hb1 hb2;subst hb1 hb2;exact fD.refl d _
       .rw[hw2 _ (by simp),hdead]at hb2;cases hb2
      .rw[hval]at N;simp only[dt]at N;rw[av hne2]at N;simp only[bc,af]at N;subst N;exact jV.refl d _
      .rcases aZ.1 D with rfl|D
       .rw[c8,bu,bj.2 rfl];rfl
       .exact hrd n D
    .cases A
   .cases A
  .cases A
 .rename_i S xs1;split at A
  .rename_i hm0;have hm0:=au hm0;subst hm0;split at A
   .rename_i xs hxs;obtain⟨ee,rfl⟩:=gL hxs;cases ee;let⟨hroom,A⟩:=cF A;simp only[bZ,af]at h2;subst h2;have hr0:rdl=[]:=by
     cases rdl with
     |nil=>rfl
     |cons a q=>have hz:=h6 a (by simp);simp at hz
    subst hr0;have fl:=d_ (bk T) xs1;have tk:(xs1.flatMap (bI T)).take (l! xs1*T.size)=xs1.flatMap (bI T):=by rw[<- fl,cv]
    have hcnd:(dF (l! xs1*T.size) (l! (xs1.flatMap (bI T)))&&bf (l! xs1+l! z) i)=J:=by
     have hroom:bf (l! xs1+l! z) i=J:=hroom;rw[hroom,Bool.and_true];exact ba (by omega)
    rcases lF A with ⟨hl,A⟩|⟨hl,A⟩
    .have hl:=au hl;have hl':(ah z==0)=J:=by rw[hl];rfl
     exact⟨_,0,0,h,nx,A,eK.pure (y0:=.f (.sl (xs1.flatMap (bI T)) (l! xs1))) (k:=nm nx) hinv hc hH (by simp only[dx,h1,h3,h5,hcnd,bh,hl'];rfl) (cM rfl) (by simp) λ_=>rfl⟩
    .have hl':¬(ah z==0)=J:=λe=>by
      have e:ah z=0:=by simpa using e
      rw[e]at hl;cases hl
     exact⟨_,_,_,_,_,A,eK.new hinv hc hH (y0:=.G (nm nx) T.size (l! xs1+l! z)) (rdl:=[]) (b0:=⟨s,.fz ((xs1++z).flatMap (bI T))⟩) (by
      simp only[dx,h1,h3,h5,hcnd,bh];rw[av hl',tk,<-cq,vL,<-xF]) (B:=.F s aa T (xs1++z)) (v:=.G nx) (dA.zero h) (λ_ _ he=>by cases he) (λH1 H2 d g b' hb'=>by
      simp only[jJ,eO,ca,dv,af]at hb';subst hb';exact fD.refl d _) (λH1 H2 yb d g N=>by
      simp only[bZ,bw,PT.get_set,bh,aC,iz,dt,eO,ca,dv,bc,af]at N;subst N;exact jV.refl d _) (by simp)⟩
   .cases A
  .cases A
 .obtain⟨hroom,A⟩:=cF A;simp only[bZ,af]at h2;subst h2;exact⟨_,_,_,_,_,A,onEmp j h6 rfl (Le.refl _) hroom⟩
 .obtain⟨hroom,A⟩:=cF A;simp only[bZ,af]at h2;subst h2;exact⟨_,_,_,_,_,A,onEmp j h6 rfl Le.nilEmp hroom⟩
 .cases A
def arp {ty:Operand} (hcm:FY (W s)=U) (hc:cO P o.op=Z (.app s i j ty c)) (z:ec X W (.op (.app s i j ty c)) e h nx K=Z r):iO P o aa e h nx K r:=by
 let⟨H,L⟩:=gu h;simp only[ec,hcm]at z;split at z
 .rename_i T b y hT N A;split at z
  .rename_i D;have D:=au D;subst D;split at z
   next ys m hys=>let⟨yb,h1,h2⟩:=a_ hi N;let⟨yy,h3,h4⟩:=a_ hi A;let⟨rdl,h5,h6⟩:=QZ L hys h4;exact Sp hinv hi L hc h1 h2 h3 h5 (λn hn=>by obtain⟨sz,rfl,hm⟩:=h6 n hn;rw[c8];exact hm) z
   .cases z
  .cases z
 .cases z
def ahn (xs D:Y T.den):(W7 xs D).flatMap (bI T)=AI.splice (xs.flatMap (bI T)) 0 ((D.flatMap (bI T)).take (lM (l! D) (l! xs)*T.size)):=by
 have _:=hinv;have _:=hi;have fl:=λA:Y T.den=>d_ (bk T) A
 have tk:∀(A:Y T.den) n,(A.flatMap (bI T)).take (n*T.size)=(A.take n).flatMap (bI T):=by
  intro A;induction A with
  |nil=>intro n;simp
  |cons z r L=>
   intro n;cases n with
   |zero=>simp
   |succ n=>rw[fS,xD,fS,ju,List.take_append,bk,iu (by rw[bk];omega),show n*T.size+T.size-T.size=n*T.size from by omega,L n]
 have N:∀(A:Y T.den) n,(A.flatMap (bI T)).drop (n*T.size)=(A.drop n).flatMap (bI T):=by
  intro A;induction A with
  |nil=>intro n;simp
  |cons z r L=>
   intro n;cases n with
   |zero=>simp
   |succ n=>rw[fS,I_,ju,wK,bk,B_ (by rw[bk];omega),show n*T.size+T.size-T.size=n*T.size from by omega,L n,kT]
 unfold W7 AI.splice;rw[tk,xF,fl,bR];have e1:D.take (lM (l! D) (l! xs))=D.take (l! xs):=by grind
 have e2:min (lM (l! D) (l! xs)) (l! D)=lM (l! D) (l! xs):=HO (Nat.min_le_left _ _);rw[e2];simp[List.take_zero,kT,bT];rw[N]
 grind
def arm {x:Operand} (hc:cO P o.op=Z (.copy i c x)) (A:ec X W (.op (.copy i c x)) e h nx K=Z r):iO P o aa e h nx K r:=by
 let⟨H,hH⟩:=gu h;simp only[ec]at A;split at A
 .rename_i id y hv hv2;split at A
  .rename_i ty p T xs hb;split at A
   .rename_i hs;have hs:=au hs;subst hs;split at A
    .rename_i D m hys;split at A
     .rename_i hcond;simp[al,cS]at hcond;obtain⟨hmid,rfl⟩:=hcond;let⟨yb,h1,h2⟩:=a_ hi hv;let⟨yy,h3,h4⟩:=a_ hi hv2;let⟨rdl,h5,h6⟩:=QZ hH hys h4;simp[bZ,eg,hb,dt,eO,ca,dv,af]at h2;subst h2;have fl:=d_ (bk T) xs;have hg:H.get (nm id)=Z ⟨ty,.fz (xs.flatMap (bI T))⟩:=by rw[hH,bE,hb];simp[jJ]
      have hmem:mem (nm id) rdl=aa:=by
       cases N:mem (nm id) rdl with
       |false=>rfl
       |true=>
        let⟨sz,e,hm⟩:=h6 _ (ag7.1 N);rw[<- ui e,hmid]at hm;cases hm
      have hle:lM (l! D) (l! xs)*T.size<=l! xs*T.size:=cK _ (Nat.min_le_right _ _);have ha0:dx (.copy T.size c x) (CS e h) H (nm nx)=Z ⟨raw (.int .i64 (lM (l! D) (l! xs))),nm id::rdl,[nm id],[(nm id,⟨ty,.fz ((W7 xs D).flatMap (bI T))⟩)],[]⟩:=by
       have hcnd:(T.size==T.size&& !(mem (nm id) rdl)&&dF (l! xs*T.size) (BC.fz (xs.flatMap (bI T))).len)=J:=by
        have:dF (l! xs*T.size) (BC.fz (xs.flatMap (bI T))).len=J:=ba (by simp only[BC.len];omega);rw[this,hmem];simp
       have hput:(BC.fz (xs.flatMap (bI T))).put 0 (((D.flatMap (bI T)).map .f).take (lM (l! D) (l! xs)*T.size))=Z (.fz ((W7 xs D).flatMap (bI T))):=by
        rw[<- gz];unfold BC.put;rw[aD]
        .simp only[Ng];rw[ahn hinv hi]
        .simp only[al];refine ⟨⟨rfl,ba ?_⟩,?_⟩
         .simp only[BC.len,b_,bR];omega
         .have:∀l:Y FV,(∀x∈l,x.isCell=J)->gp (l.map .f)=J:=by
           intro l hl;induction l with
           |nil=>rfl
           |cons z r ih=>simp[bY,gp,al];exact⟨hl z (by simp),ih λx N=>hl x (by grind)⟩
          exact this _ λx N=>mc T D x (jU N)
       simp only[dx,h1,h3,hg,h5,hcnd,bh,hput]
      have hrow:iz (.F ty aa T (W7 xs D))=iz (.F ty aa T xs):=by
       have:l! (W7 xs D)=l! xs:=by unfold W7;rw[bc,bR,sr];omega
       simp[iz,this]
      have key:=eK.wrt (m:=0) (v:=.f (.int .i64) (aQ (lM (ah D) (ah xs)))) (rd:=fV id|||m) hinv hc hH ha0 (B:=.F ty aa T (W7 xs D)) hb (dA.zero h) (by simp) hrow (λ_ _ he=>by cases he) (λH1 H2 c g b' L=>by
       simp[jJ,eO,ca,dv,af]at L;subst L;exact fD.refl c _) (λH1 H2 y c g hy=>by
       simp[bZ,af]at hy;subst hy;exact jV.refl c _) (λn hn=>by
       rcases aZ.1 hn with rfl|hn
       .rw[c8,bu,bj.2 rfl];rfl
       .obtain⟨sz,rfl,hm⟩:=h6 n hn;rw[c8,bu,hm];simp)
      rw[wd]at key;exact⟨_,_,_,_,_,A,key⟩
     .cases A
    .cases A
   .cases A
  .cases A
 .cases A
def aml {v:Operand} (hc:cO P o.op=Z (.store i c v)) (A:ec X W (.op (.store i c v)) e h nx K=Z r):iO P o aa e h nx K r:=by
 let⟨H,hH⟩:=gu h;simp only[ec]at A;split at A
 .rename_i id off y hv hv2;let⟨yb,h1,h2⟩:=a_ hi hv;let⟨L,h3,h4⟩:=a_ hi hv2;simp only[bZ,af]at h2;subst h2;split at A
  .rename_i ty l N;split at A
   .rename_i cs hcs;split at A
    .rename_i hcond;simp only[al,cV]at hcond;let⟨h5,h6⟩:=I1 hcs h4;let⟨l',hl⟩:=eR h l (hinv.C id _ l N);have hg:H.get (nm id)=Z ⟨ty,.mx l'⟩:=by rw[hH,bE,N];simp only[aC,jJ,hl]
     have hcell:=tG h5 h6;have hlen:L.cs.length=i:=by rw[gK h5];exact hcond.1
     have hput:(BC.mx l').put off L.cs=Z (.mx (splice l' off L.cs)):=by
      unfold BC.put;rw[aD]
      .rfl
      .simp only[al];exact⟨⟨rfl,by simp only[BC.len];rw[hlen,gK hl];exact hcond.2⟩,hcell⟩
     have ha0:dx (.store i c v) (CS e h) H (nm nx)=Z ⟨raw undef,[nm id],[nm id],[(nm id,⟨ty,.mx (splice l' off L.cs)⟩)],[]⟩:=by
      simp only[dx,h1,h3,BU,hg,hlen,cr,bh,hput]
     have hspl:∀h',bV h h'->cI h' (splice l off cs)=Z (splice l' off L.cs):=λh' hr=>oK off (fT hr l l' hl) (fT hr cs _ h5)
     have hr1:bV h (h.set id (Z (.C (Z ty) (splice l off cs)))):=bV.set λr hr=>by rw[bw,N]at hr;cases hr
     have key:=eK.wrt (m:=0) (v:=.undef) (rd:=fV id) hinv hc hH ha0 (B:=.C (Z ty) (splice l off cs)) N (dA.zero h) (by simp) rfl (λty' l2 he=>by cases he;exact kQ _ _ _ (hspl _ hr1)) (λH1 H2 d g b' D=>by
      have:=hspl _ hr1;simp only[dD,fm,bh,jJ,this,af]at D;subst D;exact fD.refl d _) (λH1 H2 y d g hy=>by
      simp only[bZ,af]at hy;subst hy;exact jV.refl d _) (λn hn=>by simp only[aB]at hn;subst hn;rw[c8];exact bj.2 rfl)
     rw[wd]at key;exact⟨_,_,_,_,_,A,key⟩
    .cases A
   .cases A
  .cases A
 .rename_i id sz' j off y hv hv2;let⟨yb,h1,h2⟩:=a_ hi hv;let⟨L,h3,h4⟩:=a_ hi hv2;simp only[bZ,af]at h2;subst h2;split at A
  .rename_i ty p T xs N;split at A
   .rename_i hsz;have hsz:=au hsz;subst hsz;let⟨hj,A⟩:=cF A;split at A
    .rename_i z m hset;split at A
     .cases A
     .rename_i hmid;have hmid:aJ m id=aa:=by simpa using hmid
      have hm:=Cb 40 T _ off i z m hset;let⟨j0,j1,j2⟩:=mG hj;have hne:¬((p&&xs.length==0)=J):=by grind
      have hne2:¬((p&&(cH xs j z).length==0)=J):=by unfold cH;rw[dV];exact hne
      have hg:H.get (nm id)=Z ⟨ty,.fz (xs.flatMap (bI T))⟩:=by rw[hH,bE,N];simp only[aC,jJ,av hne]
      have fl:=d_ (bk T) xs;have hx:xs[j.toNat]? =Z (geti _ xs j):=by
       unfold geti;rw[aw,aE j2];rfl
      have hle:(j.toNat+1)*T.size<=xs.length*T.size:=cK _ j2;rw[ju]at hle;have hso:∀H1 H2,rf H1 H2->Eg h H1 H2 m->Qu H1 H2 L T (geti _ xs j) z off i:=λH1 H2 d g=>tJ d h4 40 T _ off i z m hset g
      have hshape:L.cs.length=i/\off+i<=T.size/\gp L.cs=J:=by
       have d0:rf (erHF h) (erHF (dD m h)):=rf.kill hinv hm;let⟨fs,q1,q2,q3,q4,q5⟩:=hso _ _ d0 (λsz hi=>⟨rfl,by
        let⟨pp,ss,nn,g3⟩:=vj hm hi;rw[bE,g3];rfl⟩)
       refine ⟨by rw[<- q2,<-b_ (f:=AV.f),q1.length],q3,?_⟩;exact nZ h4 40 T _ off i z m hset
      let⟨hlen,hoff,hcell⟩:=hshape;obtain⟨c',hput,hc1,hc2⟩:∃c',(BC.fz (xs.flatMap (bI T))).put (j.toNat*T.size+off) L.cs=Z c'/\c'.toMx=splice ((xs.flatMap (bI T)).map .f) (j.toNat*T.size+off) L.cs/\c'.isCells=J:=by
       unfold BC.put;rw[aD]
       .split
        next l ys hl hys=>simp only[BC.fz.injEq]at hl;subst hl;refine ⟨_,rfl,?_,rfl⟩;rw[nE hys];simp only[BC.toMx];unfold splice;simp[gz,yO]
        .exact⟨_,rfl,rfl,rfl⟩
       .simp only[al];exact⟨⟨rfl,ba (by simp only[BC.len];omega)⟩,hcell⟩
      have ha0:dx (.store i c v) (CS e h) H (nm nx)=Z ⟨raw undef,[nm id],[nm id],[(nm id,⟨ty,c'⟩)],[]⟩:=by
       simp only[dx,h1,h3,BU,hg,hlen,cr,bh,hput]
      have hrow:iz (.F ty p T (cH xs j z))=iz (.F ty p T xs):=by
       unfold cH;simp only[iz,dV]
      refine ⟨_,_,_,_,_,A,eK.wrt hinv hc hH ha0 (B:=.F ty p T (cH xs j z)) N hm hmid hrow (λ_ _ he=>by cases he) (λH1 H2 d g b' D=>?_) (λH1 H2 y d g hy=>?_) (λn hn=>?_)⟩
      .simp only[jJ,av hne2,af]at D;subst D;let⟨fs,q1,q2,q3,q4,q5⟩:=hso H1 H2 d g;have hfl:(cH xs j z).flatMap (bI T)=AI.splice (xs.flatMap (bI T)) (j.toNat*T.size+off) fs:=L1 (bk T) xs j.toNat _ z hx off fs (by omega) q4;refine fD.C hc2 rfl ?_ λc hx=>?_
       .rw[hc1];simp only[BC.toMx];rw[hfl];have:(AI.splice (xs.flatMap (bI T)) (j.toNat*T.size+off) fs).map AV.f=AI.splice ((xs.flatMap (bI T)).map .f) (j.toNat*T.size+off) (fs.map .f):=by unfold AI.splice;simp[gz,yO]
        rw[this];exact (gF.refl d _).splice _ q1
       .simp only[BC.toMx]at hx;obtain⟨q,hq,rfl⟩:=cj.1 hx;exact mc T _ q hq
      .simp only[bZ,af]at hy;subst hy;exact jV.refl d _
      .simp only[aB]at hn;subst hn;rw[c8,bu,bj.2 rfl];simp
    .cases A
   .cases A
  .rename_i ty l N;split at A
   .rename_i hsz;simp only[al]at hsz;let⟨s1,s2,s3⟩:=hsz;have s1:=au s1;have s2:=au s2;have s3:=au s3;subst s1 s2 s3;let⟨hj,A⟩:=cF A;let⟨j0,j1,j2⟩:=mG hj;split at A
    .rename_i cs hcs;split at A
     .rename_i hc1;have hc1:=au hc1;let⟨h5,h6⟩:=I1 hcs h4;let⟨l',hl⟩:=eR h l (hinv.C id _ l N);have hg:H.get (nm id)=Z ⟨ty,.mx l'⟩:=by rw[hH,bE,N];simp only[aC,jJ,hl]
      have hcell:=tG h5 h6;have hlen:L.cs.length=1:=by rw[gK h5];exact hc1
      have e0:j.toNat*1+0=j.toNat:=by omega
      rw[e0]at h1;have hput:(BC.mx l').put j.toNat L.cs=Z (.mx (splice l' j.toNat L.cs)):=by
       unfold BC.put;rw[aD]
       .rfl
       .simp only[al];exact⟨⟨rfl,ba (by simp only[BC.len];rw[hlen,gK hl];omega)⟩,hcell⟩
      have ha0:dx (.store 1 c v) (CS e h) H (nm nx)=Z ⟨raw undef,[nm id],[nm id],[(nm id,⟨ty,.mx (splice l' j.toNat L.cs)⟩)],[]⟩:=by
       simp only[dx,h1,h3,BU,hg,hlen,cr,bh,hput]
      have hspl:∀h',bV h h'->cI h' (splice l j.toNat cs)=Z (splice l' j.toNat L.cs):=λh' hr=>oK j.toNat (fT hr l l' hl) (fT hr cs _ h5)
      have hr1:bV h (h.set id (Z (.C (Z ty) (splice l j.toNat cs)))):=bV.set λr hr=>by rw[bw,N]at hr;cases hr
      have key:=eK.wrt (m:=0) (v:=.undef) (rd:=fV id) hinv hc hH ha0 (B:=.C (Z ty) (splice l j.toNat cs)) N (dA.zero h) (by simp) rfl (λty' l2 he=>by cases he;exact kQ _ _ _ (hspl _ hr1)) (λH1 H2 d g b' D=>by
       have:=hspl _ hr1;simp only[dD,fm,bh,jJ,this,af]at D;subst D;exact fD.refl d _) (λH1 H2 y d g hy=>by
       simp only[bZ,af]at hy;subst hy;exact jV.refl d _) (λn hn=>by simp only[aB]at hn;subst hn;rw[c8];exact bj.2 rfl)
      rw[wd]at key;exact⟨_,_,_,_,_,A,key⟩
     .cases A
    .cases A
   .cases A
  .cases A
 .cases A
def arh {l:Operand} (hc:cO P o.op=Z (.zg s i j N l c)) (A:ec X W (.op (.zg s i j N l c)) e h nx K=Z r):iO P o aa e h nx K r:=by
 cases hcm:FY (W s) with
 |none=>exact amm hinv hi hcm hc A
 |some n=>
  let⟨H,hH⟩:=gu h;simp only[ec,hcm]at A;split at A
  .rename_i zc k a k' b L hv z;let⟨hck,A⟩:=cF A;rw[al]at hck;let⟨hcond,hn⟩:=hck;let⟨y,h1,h2⟩:=a_ hi hv;let⟨y2,h3,h4⟩:=a_ hi z;simp[bZ,af]at h2 h4;subst h2 h4;have han:aO a=n:=by grind
   let⟨_,_,hzc⟩:=w7 h L;refine ⟨_,_,_,_,_,A,eK.new hinv hc hH (y0:=.G (nm nx) i n) (rdl:=[]) (b0:=⟨s,.fz (repl N n)⟩) (by simp[dx,h1,h3,fM,hcond,bh,han]) (dA.zero h) (λty' l' he=>?_) (λH1 H2 d g b' D=>?_) (λH1 H2 y d g hy=>?_) (by simp)⟩
   .cases he;exact kQ _ _ _ (Pp _ L n)
   .simp[jJ,Pp _ L n,af]at D;subst D;refine fD.C rfl rfl (gF.refl d _) λx hx=>?_
    exact mM (tG (Pp h L n) (HE hzc n)) x hx
   .simp[bZ,af]at hy;subst hy;exact jV.refl d _
  .cases A
def ava {parts:Y m?} (hc:cO P o.op=Z (.xz s i j N parts)) (A:ec X W (.op (.xz s i j N parts)) e h nx K=Z r):iO P o aa e h nx K r:=by
 cases hcm:FY (W s) with
 |none=>exact aro hinv hi hcm hc A
 |some n=>
  let⟨H,hH⟩:=gu h;simp only[ec,hcm]at A;split at A
  .rename_i zc hz;split at A
   .rename_i cs hf;split at A
    .cases A
    .rename_i hl;have hl:j≠0:=λe=>hl (by rw[e];rfl)
     let⟨cs',h1,h2,h3⟩:=Fn hi parts _ cs _ hf (Pp h hz j);let⟨_,_,hzc⟩:=w7 h hz;have hcs:=h3 (HE hzc j);have z:bV h ((dD 0 h).set nx (Z (.C (Z s) cs))):=(bV.kill 0 h).trans (bV.set λr z=>by rw[bw,(hinv.kill 0).fresh]at z;cases z);have L:=fT z _ _ h2;refine ⟨_,_,_,_,_,A,eK.new hinv hc hH (y0:=.G (nm nx) i j) (rdl:=[]) (b0:=⟨s,nW cs'⟩) (by simp[dx,h1,av hl]) (dA.zero h) (λty' l' he=>?_) (λH1 H2 d g b' D=>?_) (λH1 H2 y d g hy=>?_) (by simp)⟩
     .cases he;exact kQ _ _ _ L
     .simp[jJ,L,af]at D;subst D;let⟨q1,q2⟩:=nA cs';refine fD.C q2 rfl ?_ λx hx=>?_
      .rw[q1];exact gF.refl d _
      .exact mM (tG h2 hcs) x hx
     .simp[bZ,af]at hy;subst hy;exact jV.refl d _
   .cases A
  .cases A
def avd {ty:Operand} (hc:cO P o.op=Z (.app s i j ty c)) (z:ec X W (.op (.app s i j ty c)) e h nx K=Z r):iO P o aa e h nx K r:=by
 cases hcm:FY (W s) with
 |none=>exact arp hinv hi hcm hc z
 |some n0=>
  let⟨H,hH⟩:=gu h;have hfr:=hinv.fresh;simp only[ec,hcm]at z;split at z
  .rename_i b y hv hv2;let⟨yb,h1,h2⟩:=a_ hi hv;let⟨yy,h3,h4⟩:=a_ hi hv2;unfold anm at z;split at z
   .rename_i id2 sz2 m;simp only[bZ,af]at h4;subst h4;split at z
    .rename_i ty2 l2 hb2;split at z
     .rename_i A;simp only[al,cS]at A;let⟨⟨q1,q2⟩,q3⟩:=A;have q1:=au q1;have q2:=au q2;have q3:m≠0:=λe=>by grind
      subst q1;let⟨L,hl2⟩:=eR h l2 (hinv.C id2 _ l2 hb2);have hrow:=aae hH hb2 hl2 q2;split at z
      .rename_i id sz1 n;simp only[bZ,af]at h2;subst h2;split at z
       .rename_i ty1 l1 hb1;split at z
        .rename_i A;simp only[al,cS]at A;let⟨⟨⟨p1,p2⟩,p3⟩,p4⟩:=A;have p1:=au p1;have p2:=eq_of_beq p2;have p3:=au p3;have p4:id≠id2:=λe=>by simp_all
         subst p1 p2;let⟨hroom,z⟩:=cF z;let⟨N,hl1⟩:=eR h l1 (hinv.C id _ l1 hb1);have hln:=gK hl1;have hg:H.get (nm id)=Z ⟨ty1,.mx N⟩:=by rw[hH,bE,hb1];simp only[aC,jJ,hl1]
         have hidlt:id<nx:=hinv.low id _ hb1;generalize hB:eD.C (Z ty1) (l1++l2)=B at z;have hd1:bV h (h.set id (Z (.qj J 0 0))):=bV.set λr D=>by rw[bw,hb1]at D;cases D
         have hd2:bV (h.set id (Z (.qj J 0 0))) ((h.set id (Z (.qj J 0 0))).set nx (Z B)):=bV.set λr D=>by
          rw[bw,PT.get_set,av (by omega),hfr]at D;cases D
         have D:=hd1.trans hd2;have hsp:cI ((h.set id (Z (.qj J 0 0))).set nx (Z B)) (l1++l2)=Z (N++L):=fT D _ _ (oL hl1 hl2);have hb':erHF ((h.set id (Z (.qj J 0 0))).set nx (Z B)) (nm nx)=Z ⟨ty1,.mx (N++L)⟩:=by rw[bE,PT.get_set,aD rfl,<-hB]at *;simp only[aC,jJ,hsp]
         have hbd:erHF ((h.set id (Z (.qj J 0 0))).set nx (Z B)) (nm id)=U:=by rw[bE,PT.get_set,av (by omega),PT.get_set,aD rfl];rfl
         have hinv1:gM (h.set id (Z (.qj J 0 0))) nx:=hinv.set hd1 hidlt (bO _) (λ_ _ he=>by cases he);have ha:dx (.app ty1 sz1 j ty c) (CS e h) H (nm nx)=Z ⟨.G (nm nx) sz1 (n+m),[nm id,nm id2],[nm nx,nm id],[(nm nx,⟨ty1,nW (N++L)⟩)],[nm nx]⟩:=by
          simp only[dx,h1,h3,hrow,hg];rw[aD (by
           simp only[cr,dU,Bool.and_true,BC.isCells,BC.len,hroom,al,cS];refine ⟨?_,ba (by omega)⟩;simp only[mem,Bool.or_false];cases A:ay (nm id2) (nm id) with
           |false=>rfl
           |true=>exact b8 (ui (au A)).symm p4)]
          simp only[BC.toMx,iu (show (l! N)<=n*sz1 by omega)]
         refine ⟨_,_,_,_,_,z,eK.mk' hc hH ha [nm nx,nm id] (λsz hi=>hi) (λq A=>?_) (λsz hi b' hbb=>?_) (λH1 H2 d hw1 _ hw2=>⟨λsz hi b b' hb hb2=>?_,λy hy=>?_⟩) (λq A=>?_) (λq A=>?_) (λq A=>?_) D (hinv1.set hd2 (by omega) (by omega) λty' l' he=>?_) (by omega)⟩
         .simp only[aZ,cw,fF,not_or]at A;refine lT hinv D (ik.of λsz=>by
           by_cases e1:sz=nx
           .rw[e1,hfr,PT.get_set,aD rfl];exact .inr ⟨rfl,by rw[<- hB];rfl⟩
           .rw[PT.get_set,av e1];by_cases e2:sz=id
            .rw[e2,hb1,PT.get_set,aD rfl];exact .inr ⟨rfl,rfl⟩
            .rw[PT.get_set,av e2];exact .inl rfl) λsz ei=>?_
          subst ei;rw[PT.get_set,av (λe=>A.1 (by rw[e])),PT.get_set,av (λe=>A.2 (by rw[e]))]
         .simp only[aZ,cw,fF]at hi;rcases hi with rfl|rfl
          .rw[aD (by simp)];exact⟨_,eH _ _⟩
          .grind
         .simp only[aZ,cw,fF]at hi;rcases hi with rfl|rfl
          .rw[hw1 _ (by simp),eH]at hb;rw[hw2 _ (by simp),hb']at hb2;simp only[af]at hb hb2;subst hb hb2;let⟨m1,m2⟩:=nA (N++L);exact fD.eq d m2 rfl m1
          .grind
         .simp only[bZ,af]at hy;subst hy;exact jV.refl d _
         .simp only[aZ,cw,fF]at A;rw[bu,mS];rcases A with rfl|rfl
          .rw[c8];exact .inl (bj.2 rfl)
          .rw[c8];exact .inr (bj.2 rfl)
         .simp only[aZ,cw,fF]at A;rw[bu,mS];rcases A with rfl|rfl
          .rw[c8];exact .inr (bj.2 rfl)
          .rw[c8];exact .inl (bj.2 rfl)
         .simp only[aB]at A;subst A;rw[c8];omega
         .rw[<- hB]at he;cases he;exact kQ _ _ _ hsp
        .cases z
       .cases z
      .simp only[bZ,af]at h2;subst h2;let⟨hroom,z⟩:=cF z;have D:bV h ((dD 0 h).set nx (Z (.C (Z s) l2))):=(bV.kill 0 h).trans (bV.set λr D=>by rw[bw,(hinv.kill 0).fresh]at D;cases D);have h2':=fT D _ _ hl2;refine ⟨_,_,_,_,_,z,eK.new hinv hc hH (y0:=.G (nm nx) sz2 m) (rdl:=[nm id2]) (b0:=⟨s,nW L⟩) (by simp only[dx,h1,h3,hrow];simp[D3,uQ,hroom,q3]) (dA.zero h) (λty' l' he=>?_) (λH1 H2 d g b' hb'=>?_) (λH1 H2 y d g hy=>?_) (λn hn=>?_)⟩
       .cases he;exact kQ _ _ _ h2'
       .simp only[jJ,h2',af]at hb';subst hb';let⟨p1,p2⟩:=nA L;exact fD.eq d p2 rfl p1
       .simp only[bZ,af]at hy;subst hy;exact jV.refl d _
       .simp only[aB]at hn;subst hn;rw[c8];exact bj.2 rfl
      .cases z
     .cases z
    .cases z
   .cases z
  .cases z
def aur {lo hi' mx:M Operand} (hc:cO P o.op=Z (.slc i c lo hi' mx)) (z:ec X W (.op (.slc i c lo hi' mx)) e h nx K=Z r):iO P o aa e h nx K r:=by
 have hfr:=hinv.fresh;simp only[ec]at z;split at z
 .rename_i v hv;let⟨y,h1,h2⟩:=a_ hi hv;split at z
  .split at z
   next L=>let⟨n,L⟩:=iZ.1 L;have h3:=T8 L h2;exact iO.q (k:=0) hinv hc (λH _=>by simp only[dx,h1,h3,Option.isSome_some,bh]) (cM rfl) z
   .cases z
  .rename_i b;split at z
   .rename_i T xs k j hb;let⟨y2,h3,h4⟩:=a_ hi hb;simp only[bZ,af]at h2 h4;subst h2 h4;split at z
    .rename_i A;have A:=au A;subst A;let⟨N,z⟩:=cF z;have hfl:=d_ (bk T) xs;have hcond:(dm 0 j&&dm j (ah xs)&&dF (ah xs*T.size) (l! (xs.flatMap (bI T))))=J:=by
      rw[N,dU];exact ba (by omega)
     simp only[dm,al,bU]at N;have hlen:l! (xs.take j.toNat)=j.toNat:=by rw[bR];omega
     exact iO.q (k:=0) (y0:=.f (.sl ((xs.flatMap (bI T)).take (j.toNat*T.size)) j.toNat)) hinv hc (λH _=>by simp only[dx,h1,h3,fM,hcond,bh]) (cM (by simp only[bZ,fM];rw[yl (bk T),hlen])) z
    .cases z
   .rename_i id k j hb;let⟨y2,h3,h4⟩:=a_ hi hb;simp only[bZ,af]at h4;subst h4;split at z
    .rename_i ty p T xs D;split at z
     .rename_i A;have A:=au A;subst A;let⟨N,z⟩:=cF z;let⟨H,hH⟩:=gu h;have hj0:=N;simp only[dm,fK,al,bU]at N;have hp:¬((p&&l! xs==0)=J):=by
       simp only[al,cV];omega
      simp only[bZ,bw,D,aC,iz,dt,av hp,af]at h2;subst h2;have hidlt:=hinv.low id _ D;have hne:nx≠id:=by omega
      have hg:H.get (nm id)=Z ⟨ty,.fz (xs.flatMap (bI T))⟩:=by rw[hH,bE,D];simp only[aC,jJ,av hp]
      have fl:=d_ (bk T) xs;have hcond:(T.size==T.size&&dm 0 j&&dm j (ah xs))=J:=by
       simp only[dm,al,bU,cr,true_and];omega
      have hlen:l! (xs.take j.toNat)=j.toNat:=by rw[bR];omega
      have ha0:dx (.slc T.size c U (Z b) U) (CS e h) H (nm nx)=Z ⟨.G (nm nx) T.size j.toNat,[nm id],[nm nx,nm id],[(nm nx,⟨ty,.fz ((xs.take j.toNat).flatMap (bI T))⟩)],[nm nx]⟩:=by
       have hc2:((BC.fz (xs.flatMap (bI T))).isCells&&dF (ah xs*T.size) (BC.fz (xs.flatMap (bI T))).len)=J:=by
        simp only[BC.isCells,dU,BC.len];exact ba (by omega)
       simp only[dx,h1,h3,fM,hcond,bh,hg,hc2,BC.toMx,<-gz,vL,yl (bk T)]
      generalize hh':(h.set id (Z (.qj p T.size (ah xs)))).set nx (Z (.F ty aa T (dB j.toNat xs)))=h' at z;have hrA:bV h (h.set id (Z (.qj p T.size (ah xs)))):=bV.set λr hr=>by rw[bw,D]at hr;exact hr
      have hg2:∀sz,h'.get sz=if sz=nx then Z (.F ty aa T (dB j.toNat xs)) else if sz=id then Z (.qj p T.size (ah xs)) else h.get sz:=λsz=>by rw[<- hh',PT.get_set,PT.get_set]
      have hr:bV h h':=by
       rw[<- hh'];refine hrA.trans (bV.set λr hr=>?_);rw[bw,PT.get_set,av hne,hfr]at hr;cases hr
      have hinv':gM h' (nx+1):=by
       refine ⟨λsz ty l hil=>?_,λsz x hic=>?_⟩
       .rw[hg2]at hil;split at hil
        .cases hil
        .split at hil
         .cases hil
         .exact e9 hr l (hinv.C sz _ l hil)
       .rw[hg2]at hic;split at hic
        .omega
        .split at hic
         .omega
         .have:=hinv.low sz x hic;omega
      have hme:ik h h':=(ik.of λsz=>by
       rw[hg2];by_cases e1:sz=nx
       .rw[aD e1,e1,hfr];exact .inr ⟨rfl,rfl⟩
       .rw[av e1];by_cases e2:sz=id
        .rw[aD e2,e2,D];exact .inr ⟨rfl,rfl⟩
        .rw[av e2];exact .inl rfl)
      have hsame:∀n,n≠nm nx->n≠nm id->erHF h' n=erHF h n:=λn h1 h2=>lT hinv hr hme λsz e=>by
       subst e;rw[hg2,av (λe=>h1 (by rw[e])),av (λe=>h2 (by rw[e]))]
      have hdead:erHF h' (nm id)=U:=by rw[bE,hg2,av (by omega),aD rfl];rfl
      have hnew:erHF h' (nm nx)=Z ⟨ty,.fz ((xs.take j.toNat).flatMap (bI T))⟩:=by rw[bE,hg2,aD rfl];rfl
      have hval:bZ h' (.G nx)=Z (.G (nm nx) T.size j.toNat):=by simp only[bZ,bw,hg2,bh,aC,iz,dt,eO,ca,dv,hlen]
      refine ⟨_,_,_,_,_,z,?_⟩;refine eK.mk' hc hH ha0 [nm nx,nm id] (λsz hi=>hi) (λn L=>?_) (λsz hi b' hb'=>?_) (λH1 H2 d hw1 _ hw2=>⟨λsz hi b b' hb1 hb2=>?_,λy hy=>?_⟩) (λn L=>?_) (λn L=>?_) (λn L=>by simp only[aB]at L;subst L;rw[c8];omega) hr hinv' (by omega)
      .simp only[aZ,cw,fF,not_or]at L;exact hsame n L.1 L.2
      .simp only[aZ,cw,fF]at hi;rcases hi with rfl|rfl
       .exact⟨_,by rw[aD (by simp)];exact eH _ _⟩
       .rw[hdead]at hb';cases hb'
      .simp only[aZ,cw,fF]at hi;rcases hi with rfl|rfl
       .rw[hw1 _ (by simp),eH]at hb1;rw[hw2 _ (by simp),hnew]at hb2;simp only[af]at hb1 hb2;subst hb1 hb2;exact fD.refl d _
       .rw[hw2 _ (by simp),hdead]at hb2;cases hb2
      .rw[hval]at hy;cases hy;exact jV.refl d _
      .simp only[aB]at L;subst L;rw[c8];exact bj.2 rfl
      .simp only[aZ,cw,fF]at L;rcases L with rfl|rfl<;>rw[c8,bu,bj.2 rfl]<;>simp
     .cases z
    .cases z
   .cases z
  .rename_i b;split at z
   .rename_i T xs k j hb;let⟨y2,h3,h4⟩:=a_ hi hb;simp only[bZ,af]at h2 h4;subst h2 h4;split at z
    .rename_i A;have A:=au A;subst A;let⟨N,z⟩:=cF z;have hfl:=d_ (bk T) xs;have hcond:(dm 0 j&&dm j (ah xs)&&dF (ah xs*T.size) (l! (xs.flatMap (bI T))))=J:=by
      rw[N,dU];exact ba (by omega)
     simp only[dm,al,bU]at N;have hlen:l! (xs.drop j.toNat)=ah xs-j.toNat:=by rw[sr]
     have htk:((xs.flatMap (bI T)).drop (j.toNat*T.size)).take ((ah xs-j.toNat)*T.size)=(xs.flatMap (bI T)).drop (j.toNat*T.size):=by
      refine iu ?_;rw[sr,hfl,Nat.sub_mul];exact bO _
     exact iO.q (k:=0) (y0:=.f (.sl ((xs.flatMap (bI T)).drop (j.toNat*T.size)) (ah xs-j.toNat))) hinv hc (λH _=>by simp only[dx,h1,h3,fM,hcond,bh,htk]) (cM (by simp only[bZ,fM];rw[L2 (bk T),hlen])) z
    .cases z
   .rename_i id k j hb;let⟨y2,h3,h4⟩:=a_ hi hb;simp only[bZ,af]at h4;subst h4;split at z
    .rename_i ty p T xs D;split at z
     .rename_i A;have A:=au A;subst A;let⟨N,z⟩:=cF z;have hcond:(T.size==T.size&&dm 0 j&&fK j (ah xs))=J:=by
       simp only[al]at N;rw[N.1,N.2,cr];rfl
      simp only[dm,fK,al,bU]at N;have hp:¬((p&&l! xs==0)=J):=by
       simp only[al,cV];omega
      simp only[bZ,bw,D,aC,iz,dt,av hp,af]at h2;subst h2;exact iO.q (k:=0) (y0:=.sl (nm id) (j.toNat*T.size) (ah xs-j.toNat)) hinv hc (λH _=>by simp only[dx,h1,h3,fM,hcond,bh]) (cM (by simp only[bZ,bw,D,aC,iz])) z
     .cases z
    .cases z
   .cases z
  .rename_i b b' hne;split at z
   .rename_i T xs k j k' j' hb hb';let⟨y2,h3,h4⟩:=a_ hi hb;let⟨y3,h5,h6⟩:=a_ hi hb';simp only[bZ,af]at h2 h4 h6;subst h2 h4 h6;split at z
    .rename_i A;have A:=au A;subst A;let⟨N,z⟩:=cF z;have hfl:=d_ (bk T) xs;have hcond:(decide (j=j')&&dm 0 j&&dm j (ah xs)&&dF (ah xs*T.size) (l! (xs.flatMap (bI T))))=J:=by
      rw[N,dU];exact ba (by omega)
     simp only[dm,al,bU]at N;have hlen:l! (xs.take j.toNat)=j.toNat:=by rw[bR];omega
     refine iO.q (k:=0) (y0:=.qm ((xs.flatMap (bI T)).take (j.toNat*T.size)) j.toNat) hinv hc (λH _=>?_) (cM (by simp only[bZ];rw[yl (bk T),hlen])) z;simp only[dx,h1,h3,h5,fM,hcond,bh]
    .cases z
   .cases z
  .cases z
 .cases z
def av9 (hc:cO P o.op=Z (.clr i N c)) (A:ec X W (.op (.clr i N c)) e h nx K=Z r):iO P o aa e h nx K r:=by
 let⟨H,hH⟩:=gu h;simp only[ec]at A;split at A
 .rename_i id j hv;split at A
  .rename_i ty p T xs z;split at A
   .rename_i D;simp only[al]at D;let⟨⟨D,hz⟩,hco⟩:=D;have D:=au D;have hz:=M_ hz;subst D hz;let⟨hj,A⟩:=cF A;simp[dm,fK,al,bU]at hj;let⟨y,h1,h2⟩:=a_ hi hv;simp[bZ,bw,z,aC,iz,af]at h2;subst h2;have hp:¬((p&&xs.length==0)=J):=by grind
    have fl:=d_ (bk T) xs;have hg:H.get (nm id)=Z ⟨ty,.fz (xs.flatMap (bI T))⟩:=by rw[hH,bE,z];simp only[aC,jJ,av hp]
    have hrl:(repl (uy T) (xs.length-j.toNat)).length=(xs.length-j.toNat)*T.size:=by
     have h9:=(J1 (H:=λ_=>U) (H':=λ_=>U) (λn b z=>by cases z) T (xs.length-j.toNat)).length;rw[b_,b_,d_ (bk T),cL]at h9;exact h9.symm
    have hoff:j.toNat*T.size+(xs.length-j.toNat)*T.size=xs.length*T.size:=by rw[<- Nat.add_mul];congr 1;omega
    have hput:(BC.fz (xs.flatMap (bI T))).put (j.toNat*T.size) ((repl (uy T) (xs.length-j.toNat)).map .f)=Z (.fz (splice (xs.flatMap (bI T)) (j.toNat*T.size) (repl (uy T) (xs.length-j.toNat)))):=by
     unfold BC.put;rw[aD]
     .simp[Ng]
     .simp only[al];refine ⟨⟨rfl,ba ?_⟩,I4 _ λq hq=>?_⟩
      .simp only[BC.len,b_];omega
      .obtain⟨v,hv,rfl⟩:=Tw _ q hq;exact iv.1 hco v hv
    have hblt:dY 0 (xs.length-j.toNat)=J:=ba (by omega);have ha0:dx (.clr T.size (uy T) c) (CS e h) H (nm nx)=Z ⟨.qg [],[nm id],[nm id],[(nm id,⟨ty,.fz (splice (xs.flatMap (bI T)) (j.toNat*T.size) (repl (uy T) (xs.length-j.toNat)))⟩)],[]⟩:=by
     simp[dx,h1,hg,hblt,bh,hput]
    have hlen:(dB j.toNat xs++aF (ah xs-j.toNat) T.zero).length=xs.length:=by grind
    have hrow:iz (.F ty p T (dB j.toNat xs++aF (ah xs-j.toNat) T.zero))=iz (.F ty p T xs):=by simp[iz,hlen]
    refine ⟨_,_,_,_,_,A,eK.wrt (m:=0) (v:=.qg []) (rd:=fV id) hinv hc hH ha0 z (dA.zero h) (by simp) hrow (λ_ _ he=>by cases he) (λH1 H2 d g b' L=>?_) (λH1 H2 y d g hy=>?_) (λn hn=>?_)⟩
    .have hp2:¬((p&&(dB j.toNat xs++aF (ah xs-j.toNat) T.zero).length==0)=J):=by rw[hlen];exact hp
     simp only[jJ,av hp2,af]at L;subst L;refine fD.C rfl rfl ?_ λq hq=>?_
     .simp only[BC.toMx];unfold splice;rw[hrl,hoff,<-fl,List.drop_length,jB,xF,yl (bk T),cq,cq];exact (gF.refl d _).append (J1 d T _)
     .simp only[BC.toMx]at hq;obtain⟨q',hq',rfl⟩:=cj.1 hq;exact mc T _ q' hq'
    .simp[bZ,cI,af]at hy;subst hy;exact jV.refl d _
    .simp[aB]at hn;subst hn;rw[c8];exact bj.2 rfl
   .cases A
  .cases A
 .cases A
end ops
def K6 {V:Ty} {es:Y (T.den×V.den)} (z:mpE T V es=J):es.map (λp=>(qR T p.1,AV.f (fM V p.2)))=[]:=by
 unfold mpE at z;split at z
 .rfl
 .cases z
def XI {V:Ty} {es:Y (T.den×V.den)} (z:mpE T V es=J):XH T=J:=by
 unfold mpE at z;split at z
 .rfl
 .cases z
def ZZ (z:abl b T=J):XH T=J:=by
 cases T<;>cases b<;>first|rfl|cases z
def Rh (A:abl b T=J) (k z:T.den):uW .eql (qR T k) (qR T z)=Z (.bool (ND T k z))/\yd b (qR T k)=J/\fM T k= .raw (qR T k):=by
 cases T<;>cases b<;>first|cases A|skip
 .exact⟨by simp[uW,qR,ND,cr,bh,af,Eh];exact Bool.beq_eq_decide_eq _ _,rfl,rfl⟩
 .exact⟨by simp[uW,qR,ND,F6],rfl,rfl⟩
def K7 {str:Bool} {K V:Ty} (A:abl str K=J) (k:K.den):∀es:Y (K.den×V.den),te (qR K k) (es.map λp=>(qR K p.1,AV.f (fM V p.2)))=Z ((Ac k es).map λv=>AV.f (fM V v))
 |[]=>rfl
 |(z,v)::r=>by
  simp[bY,te,(Rh A k z).1,Ac];cases D:ND K k z with
  |true=>rfl
  |false=>simp[ca,dv];exact K7 A k r
def Rb {str:Bool} {K V:Ty} (A:abl str K=J) (k:K.den) (v:V.den):∀es:Y (K.den×V.den),zu (qR K k) (.f (fM V v)) (es.map λp=>(qR K p.1,AV.f (fM V p.2)))=Z ((uk k v es).map λp=>(qR K p.1,AV.f (fM V p.2)))
 |[]=>rfl
 |(z,D)::r=>by
  simp[bY,zu,(Rh A k z).1,uk];cases L:ND K k z with
  |true=>rfl
  |false=>simp[Rb A k v r,ca,dv,bY]
def afp {ok:Bool} (z:bZ h u=Z y):bZ h (pkT ok u (.f .bool b))=Z (pkV ok y b):=by
 cases ok with
 |false=>exact z
 |true=>simp[pkT,pkV,bZ,cI,z];rfl
section ops
variable {R:Type} {P:Program} {o:Oper} {e:gT} {h:aX} {nx:Nat} {K:KO R} {r:R}
def Le.aggOf {l:Y FV} (D:∀x∈l,x.isCell=J):Le (.agg (l.map .f)) (.f (.agg l)):=by
 intro φ O w v A;cases A with
 |@agg _ vs N hcl hrr=>
  refine .f (.agg l vs (by grind) D λj y u L z=>?_);have:=hrr j (.f y) u (by grind) z;cases this with
  |f h=>exact h
def TJ (S:Ty) (l:Y TV):M (S.den×Nat×Y TV):=match l with
 |c::r=>(match ia PT.leaf S c with|some (x,m)=>Z (x,m,r)|none=>U)
 |[]=>U
def PA:∀{l l':Y FV},l.map AV.f=l'.map AV.f->l=l'
 |[],[],_=>rfl
 |[],_::_,h|_::_,[],h=>by simp at h
 |x::r,y::r',h=>by
  simp[bY,eA,AV.f.injEq]at h;rw[h.1,PA h.2]
def KL (h:aX):∀(ds:Y TypeDesc) (T:Ty),sH ds=Z T->∀(n:Nat) (l:Y TV) (x:T.den) (m:Nat) (r:Y TV),fA PT.leaf n T l=Z (x,m,r)->∀l',cI h l=Z l'->∃L,cI h r=Z L/\l'=(bI T x).map .f++L
 |[],T,hd,n,l,x,m,r,hp,l',hl=>by
  simp[sH,af]at hd;subst hd;cases n with
  |zero=>simp[fA]at hp
  |succ n=>
   obtain⟨_,_,rfl⟩:=hp;exact⟨l',hl,rfl⟩
 |d::ds,T,hd,n,l,x,m,r,hp,l',hl=>by
  have plain:∀(S:Ty),S.one=J->(∀t,S≠ .sl t)->∀(v:TV) (a:S.den) (m:Nat) (y:AV),ia PT.leaf S v=Z (a,m)->bZ h v=Z y->y= .f (fM S a):=by
   intro S hS hns v a m y D hy;cases v with
   |f Q q=>
    simp[ia]at D;split at D
    next z hz=>obtain⟨rfl,_⟩:=D;obtain⟨e,rfl⟩:=gL hz;subst e;simp[bZ,af]at hy;exact hy.symm
    .cases D
   |emp|nil=>
    cases S with
    |sl t=>exact b8 rfl (hns t)
    |_=>simp[ia]at D
   |G id=>simp[ia,PT.get]at D
   |_=>simp[ia]at D
  have one:∀(S:Ty),S.one=J->(∀t,S≠ .sl t)->∀(n:Nat) (l:Y TV) (a:S.den) (m:Nat) (r:Y TV),fA PT.leaf n S l=Z (a,m,r)->∀l',cI h l=Z l'->∃L,cI h r=Z L/\l'=(bI S a).map .f++L:=by
   intro S hS hns n l a m r hp l' hl;cases n with
   |zero=>simp[fA]at hp
   |succ n=>
    cases l with
    |nil=>
     cases S with
     |int k|bool|str=>cases hp
     |sl t=>exact b8 rfl (hns t)
     |_=>cases hS
    |cons c q=>
     have hpp:TJ S (c::q)=Z (a,m,r):=by
      cases S with
      |int k=>simp[fA]at hp;simp[TJ];cases N:ia PT.leaf (.int k) c with
       |none=>rw[N]at hp;cases hp
       |some z=>rw[N]at hp;exact hp
      |bool=>simp[fA]at hp;simp[TJ];cases N:ia PT.leaf .bool c with
       |none=>rw[N]at hp;cases hp
       |some z=>rw[N]at hp;exact hp
      |str=>simp[fA]at hp;simp[TJ];cases N:ia PT.leaf .str c with
       |none=>rw[N]at hp;cases hp
       |some z=>rw[N]at hp;exact hp
      |sl t=>exact b8 rfl (hns t)
      |_=>cases hS
     simp[TJ]at hpp;split at hpp
     next a1 m1 h1=>simp[af,aP]at hpp;obtain⟨rfl,rfl,rfl⟩:=hpp;obtain⟨y,L,rfl,g1,g2⟩:=cZ hl;have:=plain S hS hns c a1 m1 y h1 g1;subst this;exact⟨L,g2,by rw[(Mh S a1 hS).1];rfl⟩
     .cases hpp
  have two:∀(S A:Ty),S.one=J->(∀t,S≠ .sl t)->sH ds=Z A->T= .pr S A->∃L,cI h r=Z L/\l'=(bI T x).map .f++L:=by
   intro S A hS hns hU e;subst e;cases n with
   |zero=>simp[fA]at hp
   |succ n=>
    simp[fA]at hp;split at hp
    .rename_i x1 m1 r1 h1;split at hp
     next x2 m2 r2 h2=>simp[af,aP]at hp;obtain⟨rfl,rfl,rfl⟩:=hp;let⟨L,g1,g2⟩:=one S hS hns n l x1 m1 r1 h1 l' hl;let⟨l3,g3,g4⟩:=KL h ds A hU n r1 x2 m2 r2 h2 L g1;exact⟨l3,g3,by rw[g2,g4,bI,cq,iP]⟩
     .cases hp
    .cases hp
  cases d with
  |int k=>
   simp[sH]at hd;split at hd
   next A hU=>simp[af]at hd;exact two (.int k) A rfl (λt h=>by cases h) hU hd.symm
   .cases hd
  |bool=>
   simp[sH]at hd;split at hd
   next A hU=>simp[af]at hd;exact two .bool A rfl (λt h=>by cases h) hU hd.symm
   .cases hd
  |string=>
   simp[sH]at hd;split at hd
   next A hU=>simp[af]at hd;exact two .str A rfl (λt h=>by cases h) hU hd.symm
   .cases hd
  |_=>simp[sH]at hd
def Fp:∀(ds:Y TypeDesc) (T:Ty),sH ds=Z T->∀a b:T.den,jE ds (bI T a) (bI T b)=Z (ND T a b)
 |[],T,hd,a,b=>by simp[sH,af]at hd;subst hd;rfl
 |d::ds,T,hd,a,b=>by
  cases d with
  |int k=>
   simp[sH]at hd;split at hd
   .rename_i y z;simp[af]at hd;subst hd;have A:=Fp ds y z a.2 b.2;simp[bI,gA,kT,jE,vZ,cr,bh,ND];cases he:((a.1:Int)==b.1) with
    |true=>have D:(a.1:Int)=b.1:=by simpa using he
           grind
    |false=>have D:¬(a.1:Int)=b.1:=by simpa using he
            grind
   .cases hd
  |bool=>
   simp[sH]at hd;split at hd
   .rename_i y z;simp[af]at hd;subst hd;have A:=Fp ds y z a.2 b.2;simp[bI,gA,kT,jE,vZ,ND]
    grind
   .cases hd
  |string=>
   simp[sH]at hd;split at hd
   .rename_i y z;simp[af]at hd;subst hd;have A:=Fp ds y z a.2 b.2;simp[bI,gA,kT,jE,vZ,ND,F6];cases he:decide ((a.1:ζ)=b.1) with
    |true=>simp[A,dU]
    |false=>simp[eO]
   .cases hd
  |_=>simp[sH]at hd
variable {E:Y TypeDesc}
def Qr (A:u.isC=aa) {lu:Y TV} (L:u.cs=Z lu) (hd:sH E=Z T) {a:T.den} (hp:fA PT.leaf 40 T lu=Z (a,i,[])) (D:bZ h u=Z y):Le y (.f (.agg (bI T a))):=by
 let⟨h1,_⟩:=I1 L D;let⟨l2,h2,N⟩:=KL h E T hd 40 lu a i [] hp _ h1;simp[cI,af]at h2;subst h2;rw[jB]at N;cases u with
 |agg l=>
  simp[bZ]at D;split at D
  next l' _=>simp[af]at D;subst D;have:l'=(bI T a).map .f:=N;rw[this];exact Le.aggOf (pa T a)
  .cases D
 |f S x=>
  simp[bZ,af]at D;subst D;have ho:S.one=aa:=A;rw[Cp]at N;have:bI S x=bI T a:=PA N;rw[rZ S x ho,this];exact Le.refl _
 |qg l|undef|qw|qm S q=>simp[TV.cs,TV.isC]at L
 |zm id jj=>cases L
 |_=>cases A
variable (hinv:gM h nx) (hi:sB e h)
include hinv hi
variable {X:FuncId->M cA} {W:TypeId->M Ty}
def av7 {y:Operand} {st:Bool} (hc:cO P o.op=Z (.jm b E c y)) (D:ec X W (.op (.jm b E c y)) e h nx K=Z r):iO P o st e h nx K r:=by
 let⟨H,hH⟩:=gu h;simp[ec]at D;split at D
 .rename_i T u v hd hu hv;split at D
  .cases D
  .rename_i hcc;simp[mS,not_or,Bool.not_eq_true]at hcc;split at D
   .rename_i lu lv hlu hlv;split at D
    .rename_i a m1 neg m2 hpa hpb;let⟨yu,h1,h2⟩:=a_ hi hu;let⟨yv,h3,h4⟩:=a_ hi hv;let⟨⟨⟨hc1,N⟩,hc3⟩,hc4⟩:=hcc;have l1:=Qr hc1 hlu hd hpa h2;have l2:=Qr N hlv hd hpb h4;have tmp:∀(z:Operand) (q:TV),dy e z=Z q->q.isC=aa->XU z=aa->∃t,z= .tmp t:=by
      intro z q A hq hg;cases z with
      |tmp t=>exact⟨t,rfl⟩
      |const x=>
       have A:cst x=Z q:=by
        simp[dy,api]at A;split at A
        .cases hg
        .exact A
       have:=(MQ h A).2.2;rw[hq]at this;cases this
      |func g=>simp[dy,af]at A;subst A;cases hq
      |global g=>
       simp[dy]at A;split at A
       .cases A;cases hq
       .cases A
     obtain⟨t,rfl⟩:=tmp c u hu hc1 hc3;obtain⟨t',rfl⟩:=tmp y v hv N hc4;have same:t=t'->bI T a=bI T neg:=by grind
     let L:DE:=((CS e h).set t (Z (.f (.agg (bI T a))))).set t' (Z (.f (.agg (bI T neg))))
     have e1:lS L (.tmp t)=Z (.f (.agg (bI T a))):=by
      simp[lS,L,PT.get_set]
      grind
     have e2:lS L (.tmp t')=Z (.f (.agg (bI T neg))):=by simp[lS,L,PT.get_set,bh]
     have ha:dx (.jm b E (.tmp t) (.tmp t')) L H 0=Z ⟨raw (.bool (ND T a neg !=b)),[],[],[],[]⟩:=by
      simp[dx,e1,e2,Fp E T hd a neg];rfl
     have ht:=KU hc ha;rw[hH]at ht;have ht2:fZ P o (fC e h) (erHF h) _:=ht.envLe (e2:=fC e h) λs z _ A=>by
      simp[L,PT.get_set]at A;rw[<- Cn];simp[lS]at h1 h3;split at A
      .grind
      .split at A
       .grind
       .exact⟨z,A,Le.refl _⟩
     refine ⟨_,0,0,h,nx,D,⟨⟨_,ht2,λy hy=>?_,by simp[Cu.eff,vn],by simp[Cu.eff],by simp[Cu.eff],by simp[Cu.eff]⟩,λ_ _ h=>h,hinv,bO _,λ_=>⟨rfl,rfl⟩⟩⟩;simp[bZ,af]at hy;exact hy
    .cases D
   .cases D
 .cases D
def auw (L:cO P o.op=Z .mkm) (D:ec X W (.op .mkm) e h nx K=Z r):iO P o aa e h nx K r:=by
 have _:=hi;let⟨H,N⟩:=gu h;refine ⟨_,_,_,_,_,D,eK.new hinv L N (y0:=.mp (nm nx)) (rdl:=[]) (b0:=⟨0,.mp []⟩) rfl (dA.zero h) (λ_ _ he=>by cases he) (λH1 H2 d g b' z=>?_) (λH1 H2 y d g A=>?_) (by simp)⟩
 .cases z;exact fD.refl d _
 .simp[bZ,af]at A;subst A;exact jV.refl d _
def ark (hc:cO P o.op=Z (.jw c)) (z:ec X W (.op (.jw c)) e h nx K=Z r):iO P o aa e h nx K r:=by
 let⟨H,L⟩:=gu h;simp[ec]at z;split at z
 .rename_i id hv;split at z
  .rename_i K' V es hb;let⟨y,h1,N⟩:=a_ hi hv;simp[bZ,af]at N;subst N;split at z
   case isFalse=>cases z
   rename_i hO;have hg:H.get (nm id)=Z ⟨0,.mp (es.map λp=>(qR K' p.1,.f (fM V p.2)))⟩:=by rw[L,bE,hb];show Z (kl.mk 0 (mpC K' V es))=_;rw[ze hO]
   exact⟨_,_,_,_,_,z,eK.pure (k:=0) hinv hc L (y0:=raw (.int .i64 (l! es))) (rdl:=[nm id]) (by simp[dx,h1,hg,b_]) (λy A=>by simp[bZ,af]at A;subst A;exact Le.refl _) (λn D=>by simp[aB]at D;subst D;rw[c8];exact bj.2 rfl) nofun⟩
  .cases z
 .cases z
def av0 {ok:Bool} {k:Operand} (hc:cO P o.op=Z (.jy b ok v c k)) (D:ec X W (.op (.jy b ok v c k)) e h nx K=Z r):iO P o aa e h nx K r:=by
 let⟨H,hH⟩:=gu h;simp only[ec]at D;split at D
 .rename_i id KT N hv hv2;split at D
  .rename_i K' V es hb;split at D
   .rename_i L;let⟨y,h1,h2⟩:=a_ hi hv;let⟨y2,h3,h4⟩:=a_ hi hv2;simp[bZ,af]at h2 h4;subst h2 h4;simp[al]at L;have hg:H.get (nm id)=Z ⟨0,.mp (es.map λp=>(qR K' p.1,.f (fM V p.2)))⟩:=by rw[hH,bE,hb];show Z (kl.mk 0 (mpC K' V es))=_;rw[ze L.2]
    let⟨_,hok,henc⟩:=Rh L.1 N N;rw[henc]at h3;have hrd:∀n∈[nm id],aJ (fV id) (ow n)=J:=λn hn=>by simp[aB]at hn;subst hn;rw[c8];exact bj.2 rfl
    split at D
    .rename_i hE;split at D
     next z hz=>have hzz:=(MQ h hz).1;exact⟨_,_,_,_,_,D,eK.pure (k:=0) hinv hc hH (y0:=pkV ok (raw v) aa) (rdl:=[nm id]) (by simp[dx,h1,h3,hg,hok,bh,K6 hE,te]) (λy hy=>by rw[afp hzz]at hy;cases hy;exact Le.refl _) hrd nofun⟩
     .cases D
    .split at D
     .rename_i kv' A zv hkv hz;split at D
      .rename_i zv' hzv;let⟨e1,e2⟩:=gL hkv;cases e1;subst e2;let⟨e3,e4⟩:=gL hzv;cases e3;subst e4;have hzz:=(MQ h hz).1;simp[bZ,af]at hzz;refine ⟨_,_,_,_,_,D,eK.pure (k:=0) hinv hc hH (y0:=pkV ok (.f (fM _ (wN kv' es zv'))) (abk kv' es)) (rdl:=[nm id]) ?_ (λy hy=>by rw[afp (y:=.f (fM _ (wN kv' es zv'))) rfl]at hy;cases hy;exact Le.refl _) hrd nofun⟩;simp[dx,h1,h3,hg,hok,bh,K7 L.1];unfold wN abk;cases hf:Ac kv' es with
       |none=>simp[Option.map_none];rw[hzz]
       |some z=>rfl
      .cases D
     .cases D
   .cases D
  .rename_i l hb;split at D
   .rename_i n hkv;split at D
    case isFalse=>cases D
    rename_i L;simp only[al]at L;split at D
    .rename_i z hlv;let⟨e1,e2⟩:=gL hkv;cases e1;subst n;let⟨y,h1,h2⟩:=a_ hi hv;let⟨y2,h3,h4⟩:=a_ hi hv2;simp[bZ,af]at h2 h4;subst h2 h4;let⟨l',hl⟩:=eR h l (hinv.C id _ l hb);let⟨y,hy,hey⟩:=ly hl _ _ hlv;have hg:H.get (nm id)=Z ⟨1,.mp (pM 0 l')⟩:=by rw[hH,bE,hb];simp[aC,jJ,hl]
     have ht:told N (pM 0 l')=Z y:=by
      have h0:(0:Int)<=N:=bx L.2.1;have hn:(N:Int)=aQ (0+aO N):=by grind
      rw[hn,PF];exact hy
     have henc:fM (.int .i64) N= .raw (.int .i64 N):=rfl;rw[henc]at h3;exact⟨_,_,_,_,_,D,eK.pure (k:=0) hinv hc hH (y0:=y) (rdl:=[nm id]) (by simp[dx,h1,h3,hg,L.1.1,L.1.2.1,L.1.2.2,fy,bh,ht]) (λq hq=>by rw[hey]at hq;cases hq;exact Le.refl _) (λn hn=>by simp[aB]at hn;subst hn;rw[c8];exact bj.2 rfl) nofun⟩
    .cases D
   .cases D
  .cases D
 .cases D
def auv {k v:Operand} (hc:cO P o.op=Z (.jv b c k v)) (D:ec X W (.op (.jv b c k v)) e h nx K=Z r):iO P o aa e h nx K r:=by
 let⟨H,hH⟩:=gu h;simp only[ec]at D;split at D
 .rename_i id KT A VT vv hv hv2 hv3;split at D
  .rename_i K' V es hb;split at D
   .rename_i L;simp[al]at L;let⟨y,h1,h2⟩:=a_ hi hv;let⟨y2,h3,h4⟩:=a_ hi hv2;let⟨y3,h5,h6⟩:=a_ hi hv3;simp[bZ,af]at h2 h4 h6;subst h2 h4 h6;have hg:H.get (nm id)=Z ⟨0,.mp (es.map λp=>(qR K' p.1,.f (fM V p.2)))⟩:=by rw[hH,bE,hb];show Z (kl.mk 0 (mpC K' V es))=_;rw[ze L.2]
    let⟨_,hok,henc⟩:=Rh L.1.1 A A;rw[henc]at h3;have hrd:∀n∈[nm id],aJ (fV id) (ow n)=J:=λn hn=>by simp[aB]at hn;subst hn;rw[c8];exact bj.2 rfl
    split at D
    next hE=>exact⟨_,_,_,_,_,D,eK.wrt (k:=0) (m:=0) (v:=.undef) (rd:=fV id) hinv hc hH (y0:=raw undef) (b0:=⟨0,.mp [(qR KT A,.f (fM VT vv))]⟩) (rdl:=[nm id]) (by simp[dx,h1,h3,h5,hg,hok,bh,K6 hE,zu]) (B:=.mp KT VT [(A,vv)]) hb (dA.zero h) (by simp) rfl (λty' l2 he=>by cases he) (λH1 H2 d g b' z=>by simp[jJ,ze (ZZ L.1.1),af]at z;subst z;exact fD.refl d _) (λH1 H2 y d g N=>by simp[bZ,af]at N;subst N;exact jV.refl d _) hrd⟩
    .split at D
     next kv' vv' hkv hvv=>let⟨e1,e2⟩:=gL hkv;cases e1;subst e2;let⟨e3,e4⟩:=gL hvv;cases e3;subst e4;exact⟨_,_,_,_,_,D,eK.wrt (k:=0) (m:=0) (v:=.undef) (rd:=fV id) hinv hc hH (y0:=raw undef) (b0:=⟨0,.mp ((uk kv' vv' es).map λp=>(qR _ p.1,.f (fM _ p.2)))⟩) (rdl:=[nm id]) (by simp[dx,h1,h3,h5,hg,hok,bh,Rb L.1.1]) (B:=.mp _ _ (uk kv' vv' es)) hb (dA.zero h) (by simp) rfl (λty' l2 he=>by cases he) (λH1 H2 d g b' z=>by simp[jJ,ze (ZZ L.1.1),af]at z;subst z;exact fD.refl d _) (λH1 H2 y d g N=>by simp[bZ,af]at N;subst N;exact jV.refl d _) hrd⟩
     .cases D
   .cases D
  .cases D
 .rename_i id KT A i hv hv2 hv3;split at D
  .rename_i l hb;split at D
   .rename_i n hkv;split at D
    case isFalse=>cases D
    rename_i L;simp[al]at L;let⟨e1,e2⟩:=gL hkv;cases e1;subst n;let⟨y,h1,h2⟩:=a_ hi hv;let⟨y2,h3,h4⟩:=a_ hi hv2;let⟨y3,h5,h6⟩:=a_ hi hv3;simp[bZ,af]at h2 h4;subst h2 h4;let⟨l',hl⟩:=eR h l (hinv.C id _ l hb);have hg:H.get (nm id)=Z ⟨1,.mp (pM 0 l')⟩:=by rw[hH,bE,hb];simp[aC,jJ,hl]
    have h0:(0:Int)<=A:=bx L.2.1;have h9:(A:Int)<(l! l:Int):=bx L.2.2;have hlen:=gK hl;have hn:(A:Int)=aQ (0+aO A):=by grind
    have ht:my A y3 (pM 0 l')=pM 0 (splice l' (aO A) [y3]):=by
     rw[Kw (by grind)]
     conv=>lhs;rw[hn]
     exact T9 y3 l' 0 _
    have hs:cI h (splice l (aO A) [.G i])=Z (splice l' (aO A) [y3]):=oK _ hl (by simp[cI,h6]);have hr:bV h (h.set id (Z (.C U (splice l (aO A) [.G i])))):=bV.set λr hr=>by rw[bw,hb]at hr;cases hr
    have henc:fM (.int .i64) A= .raw (.int .i64 A):=rfl;rw[henc]at h3;have hstr:b=aa:=by cases b with
     |false=>rfl
     |true=>cases L.1
    subst hstr;exact⟨_,_,_,_,_,D,eK.wrt (k:=0) (m:=0) (v:=.undef) (rd:=fV id) hinv hc hH (y0:=raw undef) (b0:=⟨1,.mp (pM 0 (splice l' (aO A) [y3]))⟩) (rdl:=[nm id]) (by simp[dx,h1,h3,h5,hg,ht,ca,dv]) (B:=.C U (splice l (aO A) [.G i])) hb (dA.zero h) (by simp) rfl (λty' l2 he=>by cases he;exact kQ _ _ _ (fT hr _ _ hs)) (λH1 H2 d g b' z=>by
     have z:jJ (h.set id (Z (.C U (splice l (aO A) [.G i])))) (.C U (splice l (aO A) [.G i]))=Z b':=z;simp[jJ,fT hr _ _ hs,af]at z;subst z;exact fD.refl d _) (λH1 H2 y d g N=>by simp[bZ,af]at N;subst N;exact jV.refl d _) (λn hn=>by simp[aB]at hn;subst hn;rw[c8];exact bj.2 rfl)⟩
   .cases D
  .cases D
 .cases D
def aus (hc:cO P o.op=Z (.rng c)) (z:ec X W (.op (.rng c)) e h nx K=Z r):iO P o aa e h nx K r:=by
 let⟨H,hH⟩:=gu h;simp only[ec]at z;split at z
 .rename_i s N;let⟨y,h1,L⟩:=a_ hi N;simp[bZ,af]at L;subst L;refine ⟨_,_,_,_,_,z,eK.new hinv hc hH (y0:=.H (nm nx) 0) (rdl:=[]) (b0:=⟨0,.it ⟨jA s⟩ 0⟩) (by simp[dx,h1];rfl) (dA.zero h) (λ_ _ he=>by cases he) (λH1 H2 d g b' A=>?_) (λH1 H2 y d g D=>?_) (by simp)⟩
  .cases A;exact fD.refl d _
  .simp[bZ,af]at D;subst D;exact jV.refl d _
 .cases z
def aut (hc:cO P o.op=Z (.nxt c)) (z:ec X W (.op (.nxt c)) e h nx K=Z r):iO P o aa e h nx K r:=by
 let⟨H,N⟩:=gu h;simp only[ec]at z;split at z
 .rename_i id hv;split at z
  .rename_i K' V es L;split at z
   .rename_i s p hI;let⟨y,h1,h2⟩:=a_ hi hv;simp[bZ,af]at h2;subst h2;have hg:H.get (nm id)=Z ⟨0,.it ⟨jA s⟩ p⟩:=by rw[N,bE,L];show Z (kl.mk 0 (mpC K' V es))=_;rw[ap6 hI]
    have hrd:∀n∈[nm id],aJ (fV id) (ow n)=J:=λn hn=>by simp[aB]at hn;subst hn;rw[c8];exact bj.2 rfl
    rcases lF z with ⟨hp,z⟩|⟨hp,z⟩
    .have hp:=aV hp;have e2:(⟨jA s⟩:ByteArray).data.toList[p]? =Z (List.getD s p 0):=by grind
     exact⟨_,_,_,_,_,z,eK.wrt (k:=0) (m:=0) (rd:=fV id) hinv hc N (y0:=.qg [raw (.bool J),raw (.int .i64 p),raw (.int .i32 (rnP s p))]) (b0:=⟨0,.it ⟨jA s⟩ (p+wdP s p)⟩) (rdl:=[nm id]) (by simp only[dx,h1,hg,e2];rfl) (B:=.mp itK .un [((s,aQ (p+wdP s p)),())]) L (dA.zero h) (by simp) rfl (λty' l2 he=>by cases he) (λH1 H2 d g b' A=>by cases A;exact fD.refl d _) (λH1 H2 y d g D=>by cases D;exact jV.refl d _) hrd⟩
    .have hp:l! s<=p:=Nat.not_lt.1 λq=>by rw[show dY p (l! s)=J from ba q]at hp;cases hp
     have e2:(⟨jA s⟩:ByteArray).data.toList[p]? =U:=by grind
     exact⟨_,_,_,_,_,z,eK.wrt (k:=0) (m:=0) (rd:=fV id) hinv hc N (y0:=.qg [raw (.bool aa)]) (b0:=⟨0,.it ⟨jA s⟩ p⟩) (rdl:=[nm id]) (by simp[dx,h1,hg,e2]) (B:=.mp itK .un [((s,aQ p),())]) L (dA.zero h) (by simp) rfl (λty' l2 he=>by cases he) (λH1 H2 d g b' A=>by cases A;exact fD.refl d _) (λH1 H2 y d g D=>by cases D;exact jV.refl d _) hrd⟩
   .cases z
  .cases z
 .cases z
def K_op {s:SU} (D:cO P o.op=Z s) (A:ec X W (.op s) e h nx K=Z r):iO P o s.still e h nx K r:=by
 cases s with
 |mv x=>exact K_mv hinv hi D A
 |pick c a b=>exact are hinv hi D A
 |alloc ty z=>exact amp hinv hi D A
 |box ty x=>exact avb hinv hi D A
 |build z parts=>exact amo hinv hi D A
 |xz ty sz len z parts=>exact ava hinv hi D A
 |load sz L x=>exact ari hinv hi D A
 |store sz x v=>exact aml hinv hi D A
 |zh x=>exact arf hinv hi D A
 |bin op x y=>exact avc hinv hi D A
 |jm neg ds x y=>exact av7 hinv hi D A
 |xq neg x y=>exact av8 hinv hi D A
 |zf neg x=>exact amn hinv hi D A
 |not x=>exact auu hinv hi D A
 |conv k x=>exact arn hinv hi D A
 |zg ty sz bytes z l c=>exact arh hinv hi D A
 |slc sz x lo N mx=>exact aur hinv hi D A
 |jg off x=>exact av5 hinv hi D A
 |fld off sz L x=>exact av4 hinv hi D A
 |jk sz x i=>exact av3 hinv hi D A
 |idx n sz L x i=>exact av2 hinv hi D A
 |jx n sz x i=>exact arl hinv hi D A
 |ext x i=>exact av6 hinv hi D A
 |len x=>exact av1 hinv hi D A
 |lens x=>exact arj hinv hi D A
 |max x y=>exact auz hinv hi D A
 |min x y=>exact auy hinv hi D A
 |jq x i=>exact ard hinv hi D A
 |app ty sz bytes s x=>exact avd hinv hi D A
 |copy sz d x=>exact arm hinv hi D A
 |clr sz z x=>exact av9 hinv hi D A
 |mkf f caps=>exact aux hinv hi D A
 |mkm=>exact auw hinv hi D A
 |rng x=>exact aus hinv hi D A
 |nxt x=>exact aut hinv hi D A
 |jw x=>exact ark hinv hi D A
 |jy str ok z x k=>exact av0 hinv hi D A
 |jv str x k v=>exact auv hinv hi D A
 |_=>simp[ec]at A
end ops
mutual
def AV.qx (g:Nat->Nat):AV->AV
 |.f x=>.f x
 |.H id off=>.H (g id) off
 |.sl id off n=>.sl (g id) off n
 |.G id sz n=>.G (g id) sz n
 |.mp id=>.mp (g id)
 |.emp=>.emp
 |.qw=>.qw
 |.qm l n=>.qm l n
 |.agg l=>.agg (AV.renL g l)
 |.qg l=>.qg (AV.renL g l)
 |.qv q l=>.qv q (AV.renL g l)
def AV.renL (g:Nat->Nat):Y AV->Y AV
 |[]=>[]
 |x::r=>x.qx g::AV.renL g r
end
def oa (g:Nat->Nat):∀l,AV.renL g l=l.map (AV.qx g)
 |[]=>rfl
 |x::r=>by rw[AV.renL,oa g r];rfl
def EH (g:Nat->Nat) (x:AV):(x.qx g).isCell=x.isCell:=by cases x<;>rfl
variable {g:Nat->Nat}
def co.renTo {φ':PM} (A:∀i k,V i=Z k->φ' (g i)=Z k) (h:co V O w y v):co φ' O w (y.qx g) v:=by
 induction h with
 |f h=>exact .f h
 |H h=>exact .H (A _ _ h)
 |sl h D L=>exact .sl (A _ _ h) D L
 |G h D L hsh=>exact .G (A _ _ h) D L hsh
 |emp=>exact .emp
 |qw=>exact .qw
 |qm h=>exact .qm h
 |mp h=>exact .mp (A _ _ h)
 |agg hl hcl hr N=>
  simp[AV.qx,oa];refine .agg (by grind) (λy z=>?_) λj y v z hv=>?_
  .obtain⟨x,hy,rfl⟩:=cj.1 z;rw[EH];exact hcl x hy
  .grind
 |qg hl hr N=>
  simp[AV.qx,oa];refine .qg (by grind) λj y v z hv=>?_
  grind
 |qv hl hr N=>
  simp[AV.qx,oa];refine .qv (by grind) λj y v z hv=>?_
  grind
variable {p:Nat->Bool}
def co.renFrom {φ':PM} (hk:∀i k,p i=J->V (g i)=Z k->φ' i=Z k) (h:co V O w y v):∀x:AV,x.all p=J->y=x.qx g->co φ' O w x v:=by
 induction h with
 |f h=>intro x hp e;cases x<;>simp[AV.qx,reduceCtorEq]at e;cases e;exact .f h
 |H h=>intro x hp e;cases x<;>simp only[AV.qx,reduceCtorEq]at e;cases e;exact .H (hk _ _ hp h)
 |sl h hn hc=>intro x hp e;cases x<;>simp only[AV.qx,reduceCtorEq]at e;cases e;exact .sl (hk _ _ hp h) hn hc
 |G h hn hc hsh=>intro x hp e;cases x<;>simp only[AV.qx,reduceCtorEq]at e;cases e;exact .G (hk _ _ hp h) hn hc hsh
 |emp=>intro x hp e;cases x<;>simp[AV.qx,reduceCtorEq]at e;exact .emp
 |qw=>intro x hp e;cases x<;>simp[AV.qx,reduceCtorEq]at e;exact .qw
 |qm h=>intro x hp e;cases x<;>simp only[AV.qx,reduceCtorEq]at e;cases e;exact .qm h
 |mp h=>intro x hp e;cases x<;>simp[AV.qx,reduceCtorEq]at e;cases e;exact .mp (hk _ _ hp h)
 |agg hl hcl N A=>
  intro x hp e;cases x<;>simp[AV.qx,reduceCtorEq]at e;cases e;rw[oa]at hl hcl N A;refine .agg (by grind) (λx D=>?_) λj x v D L=>?_
  .have:=hcl (x.qx g) (cj.2 ⟨x,D,rfl⟩);rwa [EH]at this
  .exact A j (x.qx g) v (by grind) L x (m6 hp x (aY D)) rfl
 |qg hl N A=>
  intro x hp e;cases x<;>simp[AV.qx,reduceCtorEq]at e;cases e;rw[oa]at hl N A;refine .qg (by grind) λj x v D L=>?_
  exact A j (x.qx g) v (by grind) L x (m6 hp x (aY D)) rfl
 |qv hl N A=>
  intro x hp e;cases x<;>simp only[AV.qx,reduceCtorEq]at e;cases e;rw[oa]at hl N A;refine .qv (by grind) λj x v D L=>?_
  exact A j (x.qx g) v (by grind) L x (m6 hp x (aY D)) rfl
def BC.qx (g:Nat->Nat):BC->BC
 |.fz l=>.fz l
 |.mx l=>.mx (l.map (AV.qx g))
 |.mp es=>.mp (es.map λp=>(p.1,p.2.qx g))
 |.it s p=>.it s p
def kl.qx (g:Nat->Nat) (b:kl):kl:=⟨b.ty,b.c.qx g⟩
def gR.renTo {φ':PM} {O':Nat->Prop} (L:∀x v,co V O w x v->co φ' O' w (x.qx g) v) {o:Obj} (h:gR V O w S o):gR φ' O' w (S.qx g) o:=by
 let⟨ty,c⟩:=S;simp[kl.qx];cases c with
 |fz l=>
  let⟨arr,h1,A,D⟩:=h;refine ⟨arr,h1,A,λj x z=>?_⟩;let⟨a,v,c,d⟩:=D j x z;obtain⟨q,_,rfl⟩:=gg.1 z;exact⟨a,v,c,L _ _ d⟩
 |mx l=>
  simp[BC.qx];let⟨arr,h1,A,D⟩:=h;refine ⟨arr,h1,by simpa[BC.len] using A,λj x z=>?_⟩;simp only[BC.get,bz]at z;obtain⟨q,N,rfl⟩:=gg.1 z;let⟨a,v,c,d⟩:=D j q N;exact⟨by rw[EH];exact a,v,c,L _ _ d⟩
 |mp es=>
  let⟨e,c,h1,A,D⟩:=h;refine ⟨e,c,h1,by rw[aaz];exact A,λj x z=>?_⟩
  grind
 |it s p=>exact h
def gR.renFrom {φ':PM} {O':Nat->Prop} (L:∀x v,x.all p=J->co V O w (x.qx g) v->co φ' O' w x v) (N:S.c.all p=J) {o:Obj} (h:gR V O w (S.qx g) o):gR φ' O' w S o:=by
 let⟨ty,c⟩:=S;simp[kl.qx]at h;cases c with
 |fz l=>
  let⟨arr,h1,A,D⟩:=h;refine ⟨arr,h1,A,λj x z=>?_⟩;let⟨a,v,c,d⟩:=D j x z;obtain⟨q,_,rfl⟩:=gg.1 z;exact⟨a,v,c,L _ _ rfl d⟩
 |mx l=>
  simp[BC.qx]at h;let⟨arr,h1,A,D⟩:=h;refine ⟨arr,h1,by simpa[BC.len] using A,λj x z=>?_⟩;simp[BC.get]at z;let⟨a,v,c,d⟩:=D j (x.qx g) (by simp only[BC.get,bz,z];rfl);rw[EH]at a;exact⟨a,v,c,L _ _ (m6 N x (aY z)) d⟩
 |mp es=>
  let⟨e,c,h1,A,D⟩:=h;refine ⟨e,c,h1,by rw[aaz]at A;exact A,λj x z=>?_⟩;let⟨m,a,S⟩:=D j (x.1,x.2.qx g) (by grind);exact⟨m,a,L _ _ (m6 N x.2 (cj.2 ⟨x,aY z,rfl⟩)) S⟩
 |it s p=>exact h
mutual
def AY (g:Nat->Nat):TV->TV
 |.G i=>.G (g i)
 |.zm i j=>.zm (g i) j
 |.agg l=>.agg (k_ g l)
 |.qg l=>.qg (k_ g l)
 |.qv q l=>.qv q (k_ g l)
 |.f T v=>.f T v
 |.zk T xs j h off=>.zk T xs j h off
 |.ql a b c d=>.ql (g a) b c d
 |.H a b=>.H (g a) b
 |.qy a b c=>.qy (g a) b c
 |.emp=>.emp
 |.nil=>.nil
 |.mp i=>.mp (g i)
 |.undef=>.undef
 |.np=>.np
 |.qw=>.qw
 |.qm T xs=>.qm T xs
 |.sb s=>.sb (s.to (g s.id))
def k_ (g:Nat->Nat):Y TV->Y TV
 |[]=>[]
 |x::r=>AY g x::k_ g r
end
def ve (g:Nat->Nat):∀l,k_ g l=l.map (AY g)
 |[]=>rfl
 |x::r=>by rw[k_,ve g r];rfl
def kS (g:Nat->Nat):eD->eD
 |.C ty l=>.C ty (k_ g l)
 |.F ty p T xs=>.F ty p T xs
 |.qj p sz n=>.qj p sz n
 |.mp K V es=>.mp K V es
 |.I F a x=>.I F (F.aid (g a)) x
 |.qp F a x k p=>.qp F (F.aid (g a)) x k (p.map λq=>(g q.1,q.2))
def KC (g:Nat->Nat) (b:eD):iz (kS g b)=iz b:=by cases b<;>rfl
def py (g:Nat->Nat) (n:Nat):Nat:=ji (g (ow n)) (ix n)
def Cl (g:Nat->Nat) (i k:Nat):py g (ji i k)=ji (g i) k:=by unfold py;rw[iF,vN]
def Br (g:Nat->Nat) (i:Nat):py g (nm i)=nm (g i):=Cl g i 0
def Kg (g:Nat->Nat) (i:Nat) (j:Int):py g (pB i j)=pB (g i) j:=Cl g i _
def xi (g:Nat->Nat) (n:Nat):ow (py g n)=g (ow n):=iF _ _
def zA (g:Nat->Nat) (n:Nat):ix (py g n)=ix n:=vN _ _
def Tt (g:Nat->Nat) (id j sz n:Nat):(uh id j sz n).qx (py g)=uh (g id) j sz n:=by
 unfold uh;split
 .rfl
 .simp[AV.qx,Cl]
def al3 (g:Nat->Nat) (s:Sb):Jx (s.to (g s.id))=(Jx s).qx (py g):=by
 cases s with
 |nr id j sz n=>simp[Sb.to,Sb.id,Jx,Tt]
 |_=>simp[Sb.to,Sb.id,Jx,AV.qx,Kg,Cl]
mutual
def apg {g:Nat->Nat} {h1 h2:aX} (hrow:∀i r,eg h1 i=Z r->eg h2 (g i)=Z r):∀(v:TV) (y:AV),bZ h1 v=Z y->bZ h2 (AY g v)=Z (y.qx (py g))
 |.f _ _,y,he|.zk _ _ _ _ _,y,he=>by simp[bZ,af]at he;subst he;rfl
 |.ql _ _ _ _,y,he|.H _ _,y,he|.qy _ _ _,y,he=>by simp[bZ,af]at he;subst he;simp[AY,bZ,AV.qx,Br]
 |.G id,y,he=>by
  simp[bZ]at he;split at he
  .rename_i p sz n hr;simp[af]at he;subst he;simp[AY,bZ,hrow id _ hr];unfold dt;split
   .rfl
   .simp[AV.qx,Br]
  .cases he
 |.zm id jj,y,he=>by
  simp[bZ]at he;split at he
  .rename_i p sz n hr;simp[af]at he;subst he;simp[AY,bZ,hrow id _ hr,AV.qx,Br]
  .cases he
 |.emp,y,he|.nil,y,he=>by simp[bZ,af]at he;subst he;rfl
 |.mp _,y,he=>by simp[bZ,af]at he;subst he;simp[AY,bZ,AV.qx,Br]
 |.agg l,y,he|.qg l,y,he|.qv q l,y,he=>by
  simp[bZ]at he;split at he
  .rename_i l' hl;simp[af]at he;subst he;simp[AY,bZ,pZ hrow l l' hl,AV.qx]
  .cases he
 |.undef,y,he|.np,y,he|.qw,y,he|.qm _ _,y,he=>by simp[bZ,af]at he;subst he;rfl
 |.sb s,y,he=>by simp[bZ,af]at he;subst he;simp[AY,bZ,al3]
def pZ {g:Nat->Nat} {h1 h2:aX} (hrow:∀i r,eg h1 i=Z r->eg h2 (g i)=Z r):∀(l:Y TV) (l':Y AV),cI h1 l=Z l'->cI h2 (k_ g l)=Z (AV.renL (py g) l')
 |[],l',he=>by simp[cI,af]at he;subst he;rfl
 |x::r,l',he=>by
  obtain⟨y,l2,rfl,e1,e2⟩:=cZ he;exact p_ (apg hrow x y e1) (pZ hrow r l2 e2)
end
def U' (g:Nat->Nat) (a:Nat) (es:Y d?):(wy a es).map (λp=>(p.1,p.2.qx (py g)))=wy (g a) es:=by
 unfold wy;rw[kM];refine gC λe _=>?_
 simp[Function.comp,AV.qx,Kg]
def U_ (g:Nat->Nat) (a:Nat) (k:ν) (v:AV):∀es:Y d?,(Ma a k v es).map (λp=>(p.1,p.2.qx (py g)))=Ma (g a) k (v.qx (py g)) es
 |[]=>rfl
 |e::r=>by
  simp[Ma];split
  .rw[bY,U']
  .rw[bY,U_ g a k v r];simp[AV.qx,Kg]
def Gv (g:Nat->Nat) (a sz:Nat):∀(z:η) (k:Nat),(lI a sz k z).map (AV.qx (py g))=lI (g a) sz k z
 |[],_=>rfl
 |l::r,k=>by simp[lI,bY,Tt,Gv g a sz r (k+1)]
def abe (g:Nat->Nat) (p:Bool) (id sz n:Nat):(dt p id sz n).qx (py g)=dt p (g id) sz n:=by
 unfold dt;split
 .rfl
 .simp[AV.qx,Br]
def afn (g:Nat->Nat) (a:Nat) (z:η):(z.map λj=>AV.H (pB a j) 0).map (AV.qx (py g))=z.map λj=>.H (pB (g a) j) 0:=by
 rw[kM];refine gC λj _=>?_
 simp[Function.comp,AV.qx,Kg]
def U2 (g:Nat->Nat) (a:Nat) (F:uc) (x:F.ty.den):tX (F.aid (g a)) F x=(tX a F x).map (kl.qx (py g)):=by
 cases F with
 |qc ty=>
  simp[tX,uc.aid];split
  .rfl
  .exact (eW (λz=>Z (kl.mk ty (.mx z))) (afn g a x)).symm
 |qh=>exact (eW (λz=>Z (kl.mk 0 (.mp z))) (U' g a x)).symm
 |rr ty sz=>exact (eW (λz=>Z (kl.mk ty (.mx z))) (Gv g a sz x 0)).symm
 |_=>rfl
def ac9 (g:Nat->Nat) (a:Nat) (k:ν) (F:uc) (x:F.ty.den) (p:M (Nat×Bool×Nat)):aa2 (F.aid (g a)) k F x (p.map λq=>(g q.1,q.2))=(aa2 a k F x p).map (kl.qx (py g)):=by
 cases F with
 |qh=>
  cases p with
  |none=>rfl
  |some q=>
   have:=U_ g a k (.H (nm q.1) 0) x;simp[AV.qx,Br]at this;exact (eW (λz=>Z (kl.mk 0 (.mp z))) this).symm
 |rr ty sz=>
  cases p with
  |none=>rfl
  |some q=>
   have:=Gv g a sz x 0;simp[aa2,uc.aid,bn,kl.qx,BC.qx,List.map_set,abe]
   grind
 |_=>rfl
def acb (g:Nat->Nat) (k:Nat) (ty:TypeId) (T:Ty) (xss:Y (Y T.den)):qS k ty T xss=(qS k ty T xss).map (kl.qx (py g)):=by
 unfold qS;cases xss[k]? with
 |none=>rfl
 |some xs=>
  simp[aC,Yh];split<;>rfl
def acd (g:Nat->Nat) (i k:Nat) (ty:TypeId) (S:Ty) (xs:Y (BX S)):qT (g i) k ty S xs=(qT i k ty S xs).map (kl.qx (py g)):=by
 unfold qT;rw[Option.map_map];congr 1;funext o;simp[Function.comp,vY];split
 .simp only[kl.qx,BC.qx,cq,kM,bY,wJ,AV.qx,Cl];rfl
 .simp only[kl.qx,BC.qx,GJ,kM];rfl
def L5 (g:Nat->Nat) (i k:Nat) (F:uc) (x:F.ty.den):Jw (g i) k F x=(Jw i k F x).map (kl.qx (py g)):=by
 cases F with
 |ar ty S=>
  exact acd g i k ty S x
 |ir ty T=>
  exact acb g k ty T x
 |_=>rfl
def T6 (g:Nat->Nat) (i k:Nat) (b:eD):wu (g i) k (kS g b)=(wu i k b).map (kl.qx (py g)):=by
 cases b with
 |I F a x=>exact L5 g i k F x
 |qp F a x j p=>
  cases p with
  |none=>
   simp[kS,wu,Option.map_none];split
   .rfl
   .exact L5 g i k F x
  |some q=>exact L5 g i k F x
 |_=>rfl
def al6 {A:aX} (hrow:∀i r,eg h i=Z r->eg A (g i)=Z r) {b:eD} (he:jJ h b=Z S):jJ A (kS g b)=Z (S.qx (py g)):=by
 cases b with
 |F ty p T xs=>
  simp only[jJ]at he;split at he
  .cases he
  next D=>simp[af]at he;subst he;simp only[kS,jJ,av D];rfl
 |C ty l=>
  cases ty with
  |some ty=>
   simp[jJ]at he;split at he
   next l' z=>simp[af]at he;subst he;simp[kS,jJ,pZ hrow l l' z,oa];rfl
   .cases he
  |none=>
   simp[jJ]at he;split at he
   next l' z=>simp[af]at he;subst he;simp[kS,jJ,pZ hrow l l' z,oa,kl.qx,BC.qx,<-T_]
   .cases he
 |qj p sz n=>cases he
 |mp K V es=>
  simp[jJ,af]at he;subst he;simp[kS,jJ,kl.qx,af,kl.mk.injEq,true_and];unfold mpC;split
  .rfl
  .simp only[BC.qx,kM];rfl
 |I F a x=>
  simp[jJ]at he;simp[kS,jJ,U2,he,bn]
 |qp F a x k p=>
  simp[jJ]at he;simp[kS,jJ,ac9,he,bn]
def Cm {z:aX} (hrow:∀i r,eg h i=Z r->eg z (g i)=Z r) {b:eD} :∀{k:Nat},NC h i k b=Z S->NC z (g i) k (kS g b)=Z (S.qx (py g))
 |0,he=>al6 hrow he
 |k+1,he=>by
  simp[NC]at he ⊢;rw[T6,he];rfl
def EI (g:Nat->Nat) (a b:Y TV):k_ g (a++b)=k_ g a++k_ g b:=by
 rw[ve,ve,ve,cq]
def qU (g:Nat->Nat):∀(n:Nat) (T:Ty) (v:T.den) (l:Y TV),cellsOf n T v=Z l->k_ g l=l
 |0,_,_,_,he=>by simp[cellsOf]at he
 |n+1,.st t,v,l,he=>qU g n t v l he
 |n+1,.pr a b,v,l,he=>by
  simp[cellsOf]at he;split at he
  next x y A z=>simp[af]at he;subst he;rw[EI,qU g n a v.1 x A,qU g n b v.2 y z]
  .cases he
 |n+1,.un,v,l,he=>by simp[cellsOf,af]at he;subst he;rfl
 |n+1,.ex,v,l,he=>qU g n PY (QJ v) l he
 |n+1,.sm,v,l,he=>qU g n Pk (QI v) l he
 |n+1,.int k,v,l,he|n+1,.bool,v,l,he|n+1,.str,v,l,he|n+1,.sl t,v,l,he=>by simp[cellsOf,af]at he;subst he;rfl
abbrev Lr:Nat->Nat:=λi=>i
mutual
def afl (g:Nat->Nat):∀(p:PV) (x:p.ty.den),nF g p x=(nF Lr p x).map (k_ g)
 |.d T,x=>by
  simp only[nF];cases h:cellsOf 40 T x with
  |none=>rfl
  |some l=>simp only[bn,qU g 40 T x l h]
 |.H i o,x|.qy i o z,x=>rfl
 |.qv q ps,x=>by simp only[nF,bn,k_,AY,ve,kM];rfl
 |.ob i o,x|.nr i s,x|.G i,x|.mp i,x|.nil,x|.emp,x=>rfl
 |.agg ps,x=>Cd g ps x
def Cd (g:Nat->Nat):∀(ps:Y PV) (x:(PV.tyL ps).den),sD g ps x=(sD Lr ps x).map (k_ g)
 |[],x=>rfl
 |p::r,x=>by
  simp only[sD];rw[afl g p,Cd g r];cases nF Lr p (SM p.ty (PV.tyL r) x) with
  |none=>rfl
  |some a=>
   cases sD Lr r (QV p.ty (PV.tyL r) x) with
   |none=>rfl
   |some b=>simp only[bn,EI]
end
def aps (o:M (Y TV)):M TV:=match o with|some l=>Z (.agg l)|none=>U
def ai5 (g:Nat->Nat) (o:M (Y TV)):aps (o.map (k_ g))=(aps o).map (AY g):=by cases o<;>rfl
def afk (g:Nat->Nat) (p:PV) (x:p.ty.den):rm g p x=(rm Lr p x).map (AY g):=by
 cases p with
 |agg z=>exact (eW aps (Cd g z x)).trans (ai5 g _)
 |qv q z=>simp only[rm,bn,AY,ve,kM];rfl
 |_=>rfl
def vg (g:Nat->Nat):∀(z:Y PV) (x:(PV.tyL z).den),rk g z x=(rk Lr z x).map (k_ g)
 |[],x=>rfl
 |p::r,x=>by
  simp[rk];rw[afk g p,vg g r];cases rm Lr p (SM p.ty (PV.tyL r) x) with
  |none=>rfl
  |some a=>
   cases rk Lr r (QV p.ty (PV.tyL r) x) with
   |_=>rfl
def YY (ty:M TypeId) (o:M (Y TV)):M (M eD):=match o with|some l=>Z (Z (.C ty l))|none=>U
def YX (g:Nat->Nat) (ty:M TypeId) (o:M (Y TV)):YY ty (o.map (k_ g))=(YY ty o).map (hX (kS g)):=by cases o<;>rfl
def afm (g:Nat->Nat) (b:PB) (x:b.ty.den):Cw g b x=(Cw Lr b x).map (hX (kS g)):=by
 cases b with
 |C ty z=>exact (eW (YY ty) (Cd g z x)).trans (YX g ty _)
 |I F a=>cases F<;>rfl
 |_=>rfl
def xR (g:Nat->Nat):∀(bs:Y PB) (x:(PB.tyL bs).den),qI g bs x=(qI Lr bs x).map (fX (hX (kS g)))
 |[],x=>rfl
 |b::r,x=>by
  simp[qI];rw[afm g b,xR g r];cases Cw Lr b (SM b.ty (PB.tyL r) x) with
  |none=>rfl
  |some a=>grind
def EK (g:Nat->Nat):∀(bs:Y PB) (x:(PB.tyL bs).den) (l:Y (M eD)),qI g bs x=Z l->l! l=l! bs
 |[],x,l,h=>by simp[qI,af]at h;subst h;rfl
 |b::r,x,l,h=>by
  simp[qI]at h;split at h
  .split at h
   next q z=>simp[af]at h;subst h;simp[EK g r _ q z]
   .cases h
  .cases h
def LU (h:aX) (i j:Nat):(kill h i).get j=if j=i then (h.get i).map uA else h.get j:=by
 unfold kill;cases z:h.get i with
 |none=>grind
 |some b=>rw[PT.get_set];rfl
def wO (g:Nat->Nat):∀(l:Y (M eD)) (i:Nat) (h:aX) (j:Nat),(∀k,k<l! l->j≠g (i+k))->(CF g i l h).get j=h.get j
 |[],i,h,j,_=>rfl
 |some c::r,i,h,j,z=>by
  rw[CF,wO g r (i+1) _ j (λk A=>by have:=z (k+1) (by grind);rwa [show i+1+k=i+(k+1) from by omega]),PT.get_set,av];exact z 0 (by simp)
 |none::r,i,h,j,z=>by
  rw[CF,wO g r (i+1) _ j (λk A=>by have:=z (k+1) (by grind);rwa [show i+1+k=i+(k+1) from by omega]),LU,av];exact z 0 (by simp)
def wP (g:Nat->Nat):∀(l:Y (M eD)) (i:Nat) (h:aX),(∀a b,a<l! l->b<l! l->g (i+a)=g (i+b)->a=b)->∀(k:Nat) (c:M eD),l[k]? =Z c->(CF g i l h).get (g (i+k))=(match c with|some b=>Z b|none=>(h.get (g (i+k))).map uA)
 |[],i,h,_,k,c,A=>by simp at A
 |o::r,i,h,hinj,k,c,A=>by
  have hinj':∀a b,a<l! r->b<l! r->g (i+1+a)=g (i+1+b)->a=b:=λa b L D e=>by
   have:=hinj (a+1) (b+1) (by grind) (by grind) (by grind);omega
  cases k with
  |zero=>
   simp at A;subst A;have hne:∀k,k<l! r->g (i+0)≠g (i+1+k):=λk A e=>by
    have:=hinj 0 (k+1) (by simp) (by grind) (by grind);omega
   cases o with
   |some b=>rw[CF,wO g r (i+1) _ _ hne];simp[cW];rw[PT.get_set,aD rfl]
   |none=>rw[CF,wO g r (i+1) _ _ hne];simp[cW];rw[LU,aD rfl]
  |succ k=>
   have z:r[k]? =Z c:=by grind
   have hne:g (i+(k+1))≠g i:=λe=>by
    have:=hinj (k+1) 0 (by grind) (by simp) (by omega);omega
   rw[show i+(k+1)=i+1+k from by omega]at hne ⊢;cases o with
   |some b=>
    rw[CF,wP g r (i+1) _ hinj' k c z];cases c with
    |some _=>rfl
    |none=>simp[PT.get_set,av hne]
   |none=>
    rw[CF,wP g r (i+1) _ hinj' k c z];cases c with
    |some _=>rfl
    |none=>simp[LU,av hne]
def zW (h' h:aX):Prop:=∀i r,eg h' i=Z r->eg h i=Z r
section get
variable {h h':aX} {H H':HF} {g:Nat->Nat}
def jV.agg {l':Y AV} (z:gF H H' B l') (hc:∀x∈l',x.isCell=J):jV H H' (.agg B) (.agg l'):=by
 intro φ E w v hrep N;cases N with
 |@agg _ vs hlen hcl hrr=>
  refine .agg (by rw[hlen,<-z.length]) hc λj y u A L=>?_
  let⟨x,D,hle⟩:=z.get j y A;exact hle φ E w u hrep (hrr j x u D L)
def Ts (L:zW h' h) {A:AV} (D:bZ h (.G i)=Z y) (z:bZ h' (.G i)=Z A):A=y:=by
 simp[bZ]at D z;cases h1:eg h' i with
 |none=>rw[h1]at z;cases z
 |some r=>
  rw[L i r h1]at D
  grind
def KI {g:Nat->Nat}:∀{z:Y o!} {vs:Y TV},KJ g z vs=J->vs=z.map λp=>.H (g p.1) p.2
 |[],[],_=>rfl
 |[],_::_,h|_::_,[],h=>by simp[KJ]at h
 |(i,o)::r,v::vs,h=>by
  cases v with
  |H D A=>
   simp only[KJ,al]at h;rw[bY,<-KI h.2,au h.1.1,au h.1.2]
  |_=>simp[KJ]at h
def J3 (h:aX) (g:Nat->Nat):∀z:Y o!,cI h (z.map λp=>.H (g p.1) p.2)=Z (z.map λp=>.H (nm (g p.1)) p.2)
 |[]=>rfl
 |p::r=>by simp[bY,cI,bZ,J3 h g r]
mutual
def akw (d:rf H H') (hr:zW h' h):∀(p:PV) (l:Y TV) (x:p.ty.den) (m:Nat) (r:Y TV) (cs:Y TV) (l' cs':Y AV),mK g h p l=Z (x,m,r)->nF g p x=Z cs->cI h l=Z l'->cI h' cs=Z cs'->Eg h H H' m->∃l1 l2,l'=l1++l2/\cI h r=Z l2/\gF H H' l1 cs'
 |.d T,l,x,m,r,cs,l',cs',hg,hp,hl,hc,gv=>by
  obtain⟨l1,l2,e1,e2,e3⟩:=rq d 40 T l x m r l' hg hl gv;have:=(mL h' 40 T x cs hp).1;rw[hc]at this;cases this;exact⟨l1,l2,e1,e2,e3⟩
 |.H i q,l,x,m,r,cs,l',cs',hg,hp,hl,hc,gv=>by
  simp only[mK]at hg;split at hg
  .rename_i i' o' r';split at hg
   .rename_i hb;simp only[al]at hb;have e1:=au hb.1;have e2:=au hb.2;subst e1 e2;simp only[af,aP]at hg;obtain⟨_,_,rfl⟩:=hg;simp only[nF,af]at hp;subst hp;obtain⟨y,l2,rfl,g1,g2⟩:=cZ hl;simp only[bZ,af]at g1;subst g1;simp only[cI,bZ,af]at hc;subst hc;exact⟨[_],l2,rfl,g2,jV.refl d _,trivial⟩
   .cases hg
  .cases hg
 |.qy i q z,l,x,m,r,cs,l',cs',hg,hp,hl,hc,gv=>by
  simp only[mK]at hg;split at hg
  .rename_i i' o' z' r';split at hg
   .rename_i hb;simp only[al]at hb;have e1:=au hb.1.1;have e2:=au hb.1.2;have e3:=au hb.2;subst e1 e2 e3;simp only[af,aP]at hg;obtain⟨_,_,rfl⟩:=hg;simp only[nF,af]at hp;subst hp;obtain⟨y,l2,rfl,g1,g2⟩:=cZ hl;simp only[bZ,af]at g1;subst g1;simp only[cI,bZ,af]at hc;subst hc;exact⟨[_],l2,rfl,g2,jV.refl d _,trivial⟩
   .cases hg
  .cases hg
 |.qv q ps,l,x,m,r,cs,l',cs',hg,hp,hl,hc,gv=>by
  simp only[mK]at hg;split at hg
  .rename_i q' vs r';split at hg
   .rename_i hb;simp only[al]at hb;have e1:=au hb.1;have e2:=KI hb.2;subst e1 e2;simp only[af,aP]at hg;obtain⟨_,_,rfl⟩:=hg;simp only[nF,af]at hp;subst hp;obtain⟨y,l2,rfl,g1,g2⟩:=cZ hl;simp only[bZ,J3,af]at g1;subst g1;simp only[cI,bZ,J3,af]at hc;subst hc;exact⟨[_],l2,rfl,g2,jV.refl d _,trivial⟩
   .cases hg
  .cases hg
 |.ob i q,l,x,m,r,cs,l',cs',hg,hp,hl,hc,gv=>by
  simp only[mK]at hg;split at hg
  .rename_i i' j' o' r';split at hg
   .rename_i hb;simp only[al]at hb;have e1:=au hb.1;have e2:=au hb.2;subst e1 e2;simp only[af,aP]at hg;obtain⟨rfl,_,rfl⟩:=hg;simp only[nF,af]at hp;subst hp;obtain⟨y,l2,rfl,g1,g2⟩:=cZ hl;simp only[bZ,af]at g1;subst g1;simp only[cI,bZ,af]at hc;subst hc;exact⟨[_],l2,rfl,g2,jV.refl d _,trivial⟩
   .cases hg
  .cases hg
 |.nr i q,l,x,m,r,cs,l',cs',hg,hp,hl,hc,gv=>by
  simp only[mK]at hg;split at hg
  .rename_i i' j' o' n' r';split at hg
   .rename_i hb;simp only[al]at hb;have e1:=au hb.1;have e2:=au hb.2;subst e1 e2;simp only[af,aP]at hg;obtain⟨rfl,_,rfl⟩:=hg;simp only[nF,af]at hp;subst hp;obtain⟨y,l2,rfl,g1,g2⟩:=cZ hl;simp only[bZ,af]at g1;subst g1;simp only[cI,bZ,af]at hc;subst hc;exact⟨[_],l2,rfl,g2,jV.refl d _,trivial⟩
   .cases hg
  .cases hg
 |.G i,l,x,m,r,cs,l',cs',hg,hp,hl,hc,gv=>by
  simp only[mK]at hg;split at hg
  .rename_i i' r';split at hg
   .rename_i hb;have e1:=au hb;subst e1;simp only[af,aP]at hg;obtain⟨_,_,rfl⟩:=hg;simp only[nF,af]at hp;subst hp;obtain⟨y,l2,rfl,g1,g2⟩:=cZ hl;obtain⟨y',l3,rfl,g3,g4⟩:=cZ hc;simp only[cI,af]at g4;subst g4;rw[Ts hr g1 g3];exact⟨[_],l2,rfl,g2,jV.refl d _,trivial⟩
   .cases hg
  .cases hg
 |.mp i,l,x,m,r,cs,l',cs',hg,hp,hl,hc,gv=>by
  simp only[mK]at hg;split at hg
  .rename_i i' r';split at hg
   .rename_i hb;have e1:=au hb;subst e1;simp only[af,aP]at hg;obtain⟨_,_,rfl⟩:=hg;simp only[nF,af]at hp;subst hp;obtain⟨y,l2,rfl,g1,g2⟩:=cZ hl;simp only[bZ,af]at g1;subst g1;simp only[cI,bZ,af]at hc;subst hc;exact⟨[_],l2,rfl,g2,jV.refl d _,trivial⟩
   .cases hg
  .cases hg
 |.nil,l,x,m,r,cs,l',cs',hg,hp,hl,hc,gv=>by
  simp only[mK]at hg;split at hg
  .simp only[af,aP]at hg;obtain⟨_,_,rfl⟩:=hg;simp only[nF,af]at hp;subst hp;obtain⟨y,l2,rfl,g1,g2⟩:=cZ hl;simp only[bZ,af]at g1;subst g1;simp only[cI,bZ,af]at hc;subst hc;exact⟨[_],l2,rfl,g2,jV.refl d _,trivial⟩
  .cases hg
 |.emp,l,x,m,r,cs,l',cs',hg,hp,hl,hc,gv=>by
  simp only[mK]at hg;split at hg
  .simp only[af,aP]at hg;obtain⟨_,_,rfl⟩:=hg;simp only[nF,af]at hp;subst hp;obtain⟨y,l2,rfl,g1,g2⟩:=cZ hl;simp only[bZ,af]at g1;subst g1;simp only[cI,bZ,af]at hc;subst hc;exact⟨[_],l2,rfl,g2,Le.nilEmp.toH d,trivial⟩
  .simp only[af,aP]at hg;obtain⟨_,_,rfl⟩:=hg;simp only[nF,af]at hp;subst hp;obtain⟨y,l2,rfl,g1,g2⟩:=cZ hl;simp only[bZ,af]at g1;subst g1;simp only[cI,bZ,af]at hc;subst hc;exact⟨[_],l2,rfl,g2,jV.refl d _,trivial⟩
  .cases hg
 |.agg ps,l,x,m,r,cs,l',cs',hg,hp,hl,hc,gv=>Fk d hr ps l x m r cs l' cs' hg hp hl hc gv
def Fk (d:rf H H') (hr:zW h' h):∀(ps:Y PV) (l:Y TV) (x:(PV.tyL ps).den) (m:Nat) (r:Y TV) (cs:Y TV) (l' cs':Y AV),Bq g h ps l=Z (x,m,r)->sD g ps x=Z cs->cI h l=Z l'->cI h' cs=Z cs'->Eg h H H' m->∃l1 l2,l'=l1++l2/\cI h r=Z l2/\gF H H' l1 cs'
 |[],l,x,m,r,cs,l',cs',hg,hp,hl,hc,gv=>by
  simp only[Bq,af,aP]at hg;obtain⟨_,_,rfl⟩:=hg;simp only[sD,af]at hp;subst hp;simp only[cI,af]at hc;subst hc;exact⟨[],l',rfl,hl,trivial⟩
 |p::ps,l,x,m,r,cs,l',cs',hg,hp,hl,hc,gv=>by
  simp only[Bq]at hg;split at hg
  .rename_i x1 m1 r1 h1;split at hg
   .rename_i x2 m2 r2 h2;cases hg;simp only[sD,uU,wL]at hp;split at hp
    .rename_i a ha;split at hp
     .rename_i b hb;cases hp;obtain⟨a',b',rfl,ea,eb⟩:=D' hc;obtain⟨ga,gb⟩:=gv.or;obtain⟨l1,l2,rfl,q1,q2⟩:=akw d hr p l _ _ _ a l' a' h1 ha hl ea ga;obtain⟨l3,l4,rfl,q3,q4⟩:=Fk d hr ps _ _ _ _ b l2 b' h2 hb q1 eb gb;exact⟨l1++l3,l4,by simp,q3,q2.append q4⟩
     .cases hp
    .cases hp
   .cases hg
  .cases hg
end
mutual
def abh:∀(p:PV) (x:p.ty.den) (cs:Y TV),nF g p x=Z cs->lG cs=J
 |.d T,x,cs,hp=>(mL PT.leaf 40 T x cs hp).2
 |.H i q,x,cs,hp|.qy i q z,x,cs,hp|.qv q ps,x,cs,hp|.ob i q,x,cs,hp|.nr i q,x,cs,hp|.G i,x,cs,hp|.mp i,x,cs,hp|.nil,x,cs,hp|.emp,x,cs,hp=>by simp only[nF,af]at hp;subst hp;rfl
 |.agg ps,x,cs,hp=>yV ps x cs hp
def yV:∀(ps:Y PV) (x:(PV.tyL ps).den) (cs:Y TV),sD g ps x=Z cs->lG cs=J
 |[],x,cs,hp=>by simp only[sD,af]at hp;subst hp;rfl
 |p::ps,x,cs,hp=>by
  simp only[sD]at hp;split at hp
  .rename_i a ha;split at hp
   .rename_i b hb;cases hp;exact Wk (abh p _ a ha) (yV ps _ b hb)
   .cases hp
  .cases hp
end
def akv (d:rf H H') (hr:zW h' h) {p:PV} {v:TV} {x:p.ty.den} {y':AV} (D:vV g h p v=Z (x,i)) (hp:rm g p x=Z u) (L:bZ h v=Z y) (A:bZ h' u=Z y') (gv:Eg h H H' i):jV H H' y y':=by
 cases p with
 |d T=>
  simp only[rm,af]at hp;subst hp;simp only[bZ,af]at A;subst A;exact (So d D L gv).1
 |agg ps=>
  simp only[vV]at D;split at D
  .cases D
  .rename_i hc;split at D
   .rename_i l hl;split at D
    .rename_i x1 m1 h1;cases D;simp only[rm]at hp;split at hp
     .rename_i cs hcs;cases hp;simp only[bZ]at A;split at A
      .rename_i cs' hcs';cases A;let⟨e1,e2⟩:=I1 hl L;let⟨l1,l2,q1,q2,q3⟩:=Fk d hr ps l _ _ [] cs y.cs cs' h1 hcs e1 hcs' gv;simp only[cI,af]at q2;subst q2;rw[jB]at q1;subst q1;have hcell:∀x∈cs',x.isCell=J:=mM (tG hcs' (yV ps _ cs hcs));cases v with
       |agg q=>
        simp only[bZ]at L;split at L
        .cases L;exact jV.agg q3 hcell
        .cases L
       |f S z=>
        simp only[bZ,af]at L;subst L;have ho:S.one=aa:=by simpa[TV.isC] using hc
        rw[Cp]at q3;rw[rZ S z ho];intro φ E w v hrep hrel;exact jV.agg q3 hcell φ E w v hrep (Le.aggF _ _ _ _ hrel)
       |qg q|undef|qw|qm S q=>simp[TV.cs,TV.isC]at hl
       |sb q=>exact b8 rfl hc
       |zm id jj=>cases hl
       |_=>simp[TV.isC]at hc
      .cases A
     .cases hp
    .cases D
   .cases D
 |H m q=>
  simp only[rm,af]at hp;subst hp;simp only[vV]at D;split at D
  .rename_i h1;simp only[mK]at h1;split at h1
   .rename_i e;simp only[eA]at e;obtain⟨rfl,_⟩:=e;split at h1
    next N=>simp only[al]at N;have e1:=au N.1;have e2:=au N.2;subst e1 e2;simp only[bZ,af]at L A;subst L A;exact jV.refl d _
    .cases h1
   .cases h1
  .cases D
 |qy m q z=>
  simp only[rm,af]at hp;subst hp;simp only[vV]at D;split at D
  .rename_i h1;simp only[mK]at h1;split at h1
   .rename_i e;simp only[eA]at e;obtain⟨rfl,_⟩:=e;split at h1
    next N=>simp only[al]at N;have e1:=au N.1.1;have e2:=au N.1.2;have e3:=au N.2;subst e1 e2 e3;simp only[bZ,af]at L A;subst L A;exact jV.refl d _
    .cases h1
   .cases h1
  .cases D
 |qv q ps=>
  simp only[rm,af]at hp;subst hp;simp only[vV]at D;split at D
  .rename_i h1;simp only[mK]at h1;split at h1
   .rename_i e;simp only[eA]at e;obtain⟨rfl,_⟩:=e;split at h1
    next N=>simp only[al]at N;have e1:=au N.1;have e2:=KI N.2;subst e1 e2;simp only[bZ,J3,af]at L A;subst L A;exact jV.refl d _
    .cases h1
   .cases h1
  .cases D
 |G m=>
  simp only[rm,af]at hp;subst hp;simp only[vV]at D;split at D
  .rename_i h1;simp only[mK]at h1;split at h1
   .rename_i e;simp only[eA]at e;obtain⟨rfl,_⟩:=e;split at h1
    next N=>have e1:=au N;subst e1;rw[Ts hr L A];exact jV.refl d _
    .cases h1
   .cases h1
  .cases D
 |mp m=>
  simp only[rm,af]at hp;subst hp;simp only[vV]at D;split at D
  .rename_i h1;simp only[mK]at h1;split at h1
   .rename_i e;simp only[eA]at e;obtain⟨rfl,_⟩:=e;split at h1
    next N=>have e1:=au N;subst e1;simp only[bZ,af]at L A;subst L A;exact jV.refl d _
    .cases h1
   .cases h1
  .cases D
 |nil=>
  simp only[rm,af]at hp;subst hp;simp only[vV]at D;split at D
  .rename_i h1;simp only[mK]at h1;split at h1
   next e=>simp only[eA]at e;obtain⟨rfl,_⟩:=e;simp only[bZ,af]at L A;subst L A;exact jV.refl d _
   .cases h1
  .cases D
 |emp=>
  simp only[rm,af]at hp;subst hp;simp only[vV]at D;split at D
  .rename_i h1;simp only[mK]at h1;split at h1
   next e=>simp only[eA]at e;obtain⟨rfl,_⟩:=e;simp only[bZ,af]at L A;subst L A;exact Le.nilEmp.toH d
   next e=>simp only[eA]at e;obtain⟨rfl,_⟩:=e;simp only[bZ,af]at L A;subst L A;exact jV.refl d _
   .cases h1
  .cases D
 |_=>
  simp only[rm,af]at hp;subst hp;simp only[vV]at D;split at D
  .rename_i h1;simp only[mK]at h1;split at h1
   .rename_i e;simp only[eA]at e;obtain⟨rfl,_⟩:=e;split at h1
    next N=>simp only[al]at N;have e1:=au N.1;have e2:=au N.2;subst e1 e2;simp only[af,aP]at h1 D;obtain⟨rfl,_⟩:=D;obtain⟨rfl,_⟩:=h1;simp only[bZ,af]at L A;subst L A;exact jV.refl d _
    .cases h1
   .cases h1
  .cases D
def Fj (d:rf H H') (hr:zW h' h):∀(L:Y PV) (vs:Y TV) (x:(PV.tyL L).den) (m:Nat) (D:Y TV) (l l':Y AV),Bp g h L vs=Z (x,m)->rk g L x=Z D->cI h vs=Z l->cI h' D=Z l'->Eg h H H' m->gF H H' l l'
 |[],[],x,m,D,l,l',z,hp,N,A,gv=>by
  simp[rk,af]at hp;subst hp;simp[cI,af]at N A;subst N A;trivial
 |[],_::_,x,m,D,l,l',z,_,_,_,_|_::_,[],x,m,D,l,l',z,_,_,_,_=>by simp[Bp]at z
 |p::L,v::vs,x,m,D,l,l',z,hp,N,A,gv=>by
  simp[Bp]at z;split at z
  .rename_i x1 m1 h1;split at z
   .rename_i x2 m2 h2;obtain⟨rfl,rfl⟩:=z;simp[rk,uU,wL]at hp;split at hp
    .rename_i a ha;split at hp
     next b hb=>simp[af]at hp;subst hp;obtain⟨y,l2,rfl,e1,e2⟩:=cZ N;obtain⟨y',l3,rfl,e3,e4⟩:=cZ A;let⟨ga,gb⟩:=gv.or;exact⟨akv d hr h1 ha e1 e3 ga,Fj d hr L vs _ _ b l2 l3 h2 hb e2 e4 gb⟩
     .cases hp
    .cases hp
   .cases z
  .cases z
inductive BM (g:Nat->Nat) (h:aX) (m:Nat):eD->eD->Prop
 |F (ty:TypeId) (p:Bool) (T:Ty) (xs:List T.den):BM g h m (.F ty p T xs) (.F ty p T xs)
 |mp (K V:Ty) (es:List (K.den×V.den)):BM g h m (.mp K V es) (.mp K V es)
 |I (F:uc) (a:Nat) (x:F.ty.den):BM g h m (.I F a x) (.I F a x)
 |C (ty:Option TypeId) (ps:List PV) (x:(PV.tyL ps).den) (l l2:List TV) (m':Nat) (hg:Bq g h ps l=Z (x,m',[])) (hp:sD g ps x=Z l2) (hm:∀i,aJ m' i=J->aJ m i=J):BM g h m (.C ty l) (.C ty l2)
def BM.mono (hm:∀m,aJ i m=J->aJ j m=J) {b c:eD} (h1:BM g h i b c):BM g h j b c:=by
 cases h1 with
 |F ty p T xs=>exact .F ty p T xs
 |mp K V es=>exact .mp K V es
 |I F a x=>exact .I F a x
 |C ty A x l D m' L hp z=>exact .C ty A x l D m' L hp λm hi=>hm m (z m hi)
def akx {b:PB} {x:b.ty.den} {c:eD} (A:D9 g h i b=Z (x,j)) (hp:Cw g b x=Z (Z c)):∃b0,h.get (g i)=Z b0/\BM g h j b0 c:=by
 cases b with
 |F ty p T=>
  simp only[D9]at A;split at A
  .rename_i ty' p' S xs D;split at A
   .rename_i L;simp[al,cV]at L;obtain⟨rfl,rfl⟩:=L;split at A
    next z N=>obtain⟨rfl,rfl⟩:=A;obtain⟨e,rfl⟩:=gL N;cases e;simp[Cw,af]at hp;subst hp;exact⟨_,D,.F _ _ _ _⟩
    .cases A
   .cases A
  .cases A
 |qf ty T=>
  simp[D9]at A;split at A
  .rename_i ty' p' S xs D;split at A
   .rename_i L;have L:ty=ty':=by grind
    subst L;split at A
    next z N=>obtain⟨rfl,rfl⟩:=A;obtain⟨e,rfl⟩:=gL N;cases e;simp[Cw,af]at hp;subst hp;exact⟨_,D,.F _ _ _ _⟩
    .cases A
   .cases A
  .cases A
 |C ty ps=>
  simp[D9]at A;split at A
  .rename_i ty' l D;split at A
   .rename_i L;have L:ty=ty':=by grind
    subst L;split at A
    .rename_i z m1 N;obtain⟨rfl,rfl⟩:=A;simp[Cw]at hp;split at hp
     next l2 hl2=>simp[af]at hp;subst hp;exact⟨_,D,.C ty ps _ l l2 _ N hl2 λ_ h=>h⟩
     .cases hp
    .cases A
   .cases A
  .cases A
 |mp K V=>
  simp[D9]at A;split at A
  .rename_i K' V' es D;split at A
   next z N=>obtain⟨rfl,rfl⟩:=A;obtain⟨e,rfl⟩:=gL N;cases e;simp[Cw,af]at hp;subst hp;exact⟨_,D,.mp _ _ _⟩
   .cases A
  .cases A
 |I F a=>
  simp only[D9]at A;split at A
  .rename_i F' a' z D;split at A
   .rename_i hF;subst hF;split at A
    next ha=>obtain⟨rfl,rfl⟩:=A;simp[Cw,af]at hp;subst hp;rw[au ha];exact⟨_,D,.I _ _ _⟩
    .cases A
   .cases A
  .cases A
 |qk=>simp[Cw]at hp
def LV:∀(bs:Y PB) (i:Nat) (x:(PB.tyL bs).den) (m:Nat) (A:Y (M eD)),Fl g h i bs=Z (x,m)->qI g bs x=Z A->∀(k:Nat) c,A[k]? =Z (Z c)->∃b0,h.get (g (i+k))=Z b0/\BM g h m b0 c
 |[],i,x,m,A,z,hp,k,c,D=>by
  simp[qI,af]at hp;subst hp;simp at D
 |b::r,i,x,m,A,z,hp,k,c,D=>by
  simp[Fl]at z;split at z
  .rename_i x1 m1 h1;split at z
   .rename_i x2 m2 h2;obtain⟨rfl,rfl⟩:=z;simp[qI,uU,wL]at hp;split at hp
    .rename_i a ha;split at hp
     .rename_i q N;simp[af]at hp;subst hp;cases k with
      |zero=>
       simp at D;subst D;let⟨b0,L,e2⟩:=akx h1 ha;exact⟨b0,L,e2.mono λi hi=>by rw[bu,hi];rfl⟩
      |succ k=>
       let⟨b0,L,e2⟩:=LV r (i+1) _ _ q h2 N k c (by grind);rw[show i+1+k=i+(k+1) from by omega]at L;exact⟨b0,L,e2.mono λi hi=>by rw[bu,hi];simp⟩
     .cases hp
    .cases hp
   .cases z
  .cases z
end get
def UQ {σ:PT Nat} (h:σ.get i=Z j):hZ σ i=j:=by unfold hZ;rw[h]
def Zp {σ:PT Nat}:∀(n i acc sm:Nat),aez σ n i acc=Z sm->
 (∀k,k<n->aJ acc (hZ σ (i+k))=aa)/\(∀a b,a<n->b<n->hZ σ (i+a)=hZ σ (i+b)->a=b)/\∀q,aJ sm q=J↔aJ acc q=J\/∃k,k<n/\hZ σ (i+k)=q
 |0,i,acc,sm,h=>by
  simp[aez,af]at h
  grind
 |n+1,i,acc,sm,h=>by
  simp[aez]at h;split at h
  .rename_i a L;split at h
   .cases h
   .rename_i hna;have hna:aJ acc a=aa:=by grind
    have hga:=UQ L;let⟨h1,h2,N⟩:=Zp n (i+1) (acc|||fV a) sm h;have hne:∀k,k<n->hZ σ (i+1+k)≠a/\aJ acc (hZ σ (i+1+k))=aa:=λk A=>by
     have:=h1 k A;rw[bu,Bool.or_eq_false_iff]at this;refine ⟨λe=>?_,this.1⟩;have D:=this.2;rw[e]at D;rw[bj.2 rfl]at D;cases D
    refine ⟨λk A=>?_,λx y hx hy hxy=>?_,λq=>?_⟩
    .cases k with
     |zero=>rw[cW,hga];exact hna
     |succ k=>rw[show i+(k+1)=i+1+k from by omega];exact (hne k (by omega)).2
    .cases x with
     |zero=>
      cases y with
      |zero=>rfl
      |succ y=>grind
     |succ x=>
      cases y with
      |_=>grind
    .rw[N,bu,mS];constructor
     .rintro ((z|z)|⟨k,A,z⟩)
      .exact .inl z
      .exact .inr ⟨0,by omega,by rw[cW,hga];exact bj.1 z⟩
      .exact .inr ⟨k+1,by omega,by rw[show i+(k+1)=i+1+k from by omega];exact z⟩
     .rintro (z|⟨k,A,z⟩)
      .exact .inl (.inl z)
      .cases k with
       |zero=>rw[cW,hga]at z;exact .inl (.inr (bj.2 z))
       |succ k=>exact .inr ⟨k,by omega,by rw[show i+1+k=i+(k+1) from by omega];exact z⟩
  .cases h
def UX {σ:PT Nat}:∀(n:Nat),aa0 σ n=J->∀i,i<n->hZ σ i=i
 |0,_,i,hi=>by omega
 |n+1,h,i,hi=>by
  simp[aa0,al]at h;by_cases e:i=n
  .subst e;cases z:σ.get i with
   |none=>rw[z]at h;exact b8 h.1 (by simp)
   |some a=>rw[z]at h;rw[UQ z];exact au h.1
  .exact UX n h.2 i (by omega)
structure Kn (np:Nat) (t:Tm) (vs:List TV) (h:aX) (z:t.ty.den) (m:Nat) (σ:PT Nat) (sm:Nat):Prop where
 ex:∃x m1 y m2,z=ZU _ _ x y/\m=m1|||m2/\Bp (hZ σ) h t.vs vs=Z (x,m1)/\Fl (hZ σ) h 0 t.bs=Z (y,m2)
 inj:∀a b,a<l! t.bs->b<l! t.bs->hZ σ a=hZ σ b->a=b
 sig:∀q,aJ sm q=J↔∃k,k<l! t.bs/\hZ σ k=q
 disj:∀i,aJ m i=J->aJ sm i=aa
 fix:∀i,i<np->hZ σ i=i
def x_ {t:Tm} {z:t.ty.den} {σ:PT Nat} {sm:Nat} (hm:D2 i t r h=Z ⟨z,j,σ,sm⟩):Kn i t r h z j σ sm:=by
 unfold D2 at hm;rw[RI]at hm;split at hm
 .rename_i sm' N;split at hm
  .rename_i x m1 h1;split at hm
   .rename_i y m2 h2;split at hm
    next A=>simp[al]at A;obtain⟨rfl,rfl,rfl,rfl⟩:=hm;let⟨g1,L,D⟩:=Zp _ _ _ _ N;simp only[bT]at g1 L D;exact⟨⟨x,m1,y,m2,rfl,rfl,h1,h2⟩,L,λq=>by rw[D];simp,λnp hi=>zP A.1 np hi,UX i A.2⟩
    .cases hm
   .cases hm
  .cases hm
 .cases hm
mutual
def xv {g:Nat->Nat} {h:aX}:∀(p:PV) (l:Y TV) (x:p.ty.den) (m:Nat) (r:Y TV),mK g h p l=Z (x,m,r)->dA h m
 |.d T,l,x,m,r,hg=>wM 40 T l x m r hg
 |.H i q,l,x,m,r,hg|.qy i q z,l,x,m,r,hg|.ob i q,l,x,m,r,hg|.nr i q,l,x,m,r,hg|.qv q ps,l,x,m,r,hg|.G i,l,x,m,r,hg|.mp i,l,x,m,r,hg=>by
  simp only[mK]at hg;split at hg
  .split at hg
   .simp only[af,aP]at hg;obtain⟨_,rfl,_⟩:=hg;exact dA.zero h
   .cases hg
  .cases hg
 |.nil,l,x,m,r,hg=>by
  simp only[mK]at hg;split at hg
  .simp only[af,aP]at hg;obtain⟨_,rfl,_⟩:=hg;exact dA.zero h
  .cases hg
 |.emp,l,x,m,r,hg=>by
  simp only[mK]at hg;split at hg
  .simp only[af,aP]at hg;obtain⟨_,rfl,_⟩:=hg;exact dA.zero h
  .simp only[af,aP]at hg;obtain⟨_,rfl,_⟩:=hg;exact dA.zero h
  .cases hg
 |.agg ps,l,x,m,r,hg=>Kf ps l x m r hg
def Kf {g:Nat->Nat} {h:aX}:∀(ps:Y PV) (l:Y TV) (x:(PV.tyL ps).den) (m:Nat) (r:Y TV),Bq g h ps l=Z (x,m,r)->dA h m
 |[],l,x,m,r,hg=>by
  simp only[Bq,af,aP]at hg;obtain⟨_,rfl,_⟩:=hg;exact dA.zero h
 |p::ps,l,x,m,r,hg=>by
  simp only[Bq]at hg;split at hg
  .rename_i x1 m1 r1 h1;split at hg
   .rename_i x2 m2 r2 h2;simp only[af,aP]at hg;obtain⟨_,rfl,_⟩:=hg;exact (xv p l x1 m1 r1 h1).or (Kf ps r1 _ _ _ h2)
   .cases hg
  .cases hg
end
def apb {p:PV} {x:p.ty.den} (A:vV g h p u=Z (x,i)):dA h i:=by
 cases p with
 |d T=>exact aam A
 |agg D=>
  simp only[vV]at A;split at A
  .cases A
  .split at A
   .split at A
    next L m1 h1=>simp only[af,aP]at A;obtain⟨_,rfl⟩:=A;exact Kf D _ _ _ _ h1
    .cases A
   .cases A
 |_=>
  simp only[vV]at A;split at A
  next h1=>simp only[af,aP]at A;obtain⟨_,rfl⟩:=A;exact xv _ _ _ _ _ h1
  .cases A
def RE :∀(A:Y PV) (vs:Y TV) (x:(PV.tyL A).den) (m:Nat),Bp g h A vs=Z (x,m)->dA h m
 |[],[],x,m,z=>by obtain⟨_,rfl⟩:=z;exact dA.zero h
 |[],_::_,x,m,z|_::_,[],x,m,z=>by simp[Bp]at z
 |p::A,v::vs,x,m,z=>by
  simp[Bp]at z;split at z
  .rename_i N m1 h1;split at z
   next D m2 L=>obtain⟨_,rfl⟩:=z;exact (apb h1).or (RE A vs D m2 L)
   .cases z
  .cases z
def apc {b:PB} {x:b.ty.den} (z:D9 g h i b=Z (x,j)):dA h j:=by
 cases b with
 |C ty A=>
  simp[D9]at z;split at z
  .split at z
   .split at z
    next h1=>obtain⟨_,rfl⟩:=z;exact Kf A _ _ _ _ h1
    .cases z
   .cases z
  .cases z
 |mp K V=>
  simp[D9]at z;split at z
  .split at z
   .obtain⟨_,rfl⟩:=z;exact dA.zero h
   .cases z
  .cases z
 |qk=>simp[D9,af,aP]at z;obtain⟨_,rfl⟩:=z;exact dA.zero h
 |_=>
  simp[D9]at z;split at z
  .split at z
   .split at z
    .obtain⟨_,rfl⟩:=z;exact dA.zero h
    .cases z
   .cases z
  .cases z
def RF :∀(bs:Y PB) (i:Nat) (x:(PB.tyL bs).den) (m:Nat),Fl g h i bs=Z (x,m)->dA h m
 |[],i,x,m,z=>by obtain⟨_,rfl⟩:=z;exact dA.zero h
 |b::r,i,x,m,z=>by
  simp[Fl]at z;split at z
  .rename_i L m1 h1;split at z
   next A m2 D=>obtain⟨_,rfl⟩:=z;exact (apc h1).or (RF r (i+1) A m2 D)
   .cases z
  .cases z
structure pw (t:Tm) (x:t.ty.den) (vs:List TV) (h1:aX) (l1:List (Option eD)):Prop where
 pv:rk Lr t.vs (SM _ _ x)=Z vs
 pb:qI Lr t.bs (QV _ _ x)=Z l1
 len:l! l1=l! t.bs
 at_:∀i b,h1.get i=Z b↔l1[i]? =Z (Z b)
 ok:lJ h1 vs=J
 lt:qZ (l! t.bs) vs=J
 C:∀i ty l,h1.get i=Z (.C ty l)->lJ h1 l=J/\qZ (l! t.bs) l=J
 I:∀i F a x,h1.get i=Z (.I F a x)->a<l! t.bs
 nox:∀i F a x k p,h1.get i≠Z (.qp F a x k p)
def agb (l:Y (M eD)) (i:Nat) (b:eD):(CF Lr 0 l PT.leaf).get i=Z b↔l[i]? =Z (Z b):=by
 by_cases hi:i<l! l
 .obtain⟨c,z⟩:∃c,l[i]? =Z c:=⟨l[i],aE hi⟩
  have:=wP Lr l 0 PT.leaf (λa b _ _ e=>by simp[Lr]at e;omega) i c z;rw[show Lr (0+i)=i from by simp only[Lr];omega]at this;rw[this,z];cases c with
  |some b'=>simp
  |none=>simp[PT.get]
 .rw[wO Lr l 0 PT.leaf i (λk A=>by simp[Lr];omega),c5 (by omega)];simp[PT.get]
def yg {t:Tm} {x:t.ty.den} {vs:Y TV} {h1:aX} (hi:C_ t x=Z (vs,h1)):∃D,pw t x vs h1 D:=by
 unfold C_ at hi;split at hi
 .rename_i L hus;split at hi
  .rename_i h hh;split at hi
   .rename_i z;simp[al]at z;simp[af,aP]at hi;obtain⟨rfl,rfl⟩:=hi;unfold Pq at hh;split at hh
    .rename_i D A;simp[af]at hh;refine ⟨D,hus,A,EK _ _ _ _ A,λi b=>?_,z.1.1,z.1.2,λi ty l hil=>?_,λi F a x hil=>?_,λi F a x k p hil=>?_⟩
     .rw[<- hh];exact agb D i b
     .have:=PT.get_all _ h 1 0 i _ z.2 hil
      grind
     .have:=PT.get_all _ h 1 0 i _ z.2 hil;simp_all
     .have:=PT.get_all _ h 1 0 i _ z.2 hil;cases this
    .cases hh
   .cases hi
  .cases hi
 .cases hi
def Ps (z:Nat) (n:Nat):Bool:=dY (ow n) z
def EL :Ps i j=J↔ow j<i:=⟨λh=>aV h,λh=>ba h⟩
def Cf {k:Nat}:Ps j (ji i k)=J↔i<j:=by rw[EL,iF]
def GA :Ps j (nm i)=J↔i<j:=by
 rw[EL,c8]
def Tu (h:j<i) (id sz n:Nat):(uh j id sz n).all (Ps i)=J:=by
 unfold uh;split
 .rfl
 .exact Cf.2 h
def al4 {s:Sb} (h:s.id<i):(Jx s).all (Ps i)=J:=by
 cases s with
 |nr id j sz n=>exact Tu h _ _ _
 |nl=>rfl
 |_=>exact Cf.2 h
mutual
def ap5 {nb:Nat} {h:aX}:∀(v:TV) (y:AV),H8 nb v=J->bZ h v=Z y->y.all (Ps nb)=J
 |.f _ _,y,_,he|.zk _ _ _ _ _,y,_,he=>by simp[bZ,af]at he;subst he;rfl
 |.ql id _ _ _,y,hl,he|.H id _,y,hl,he|.qy id _ _,y,hl,he=>by simp[bZ,af]at he;subst he;exact GA.2 (aV hl)
 |.G id,y,hl,he=>by
  simp[bZ]at he;split at he
  .simp[af]at he;subst he;unfold dt;split
   .rfl
   .exact GA.2 (aV hl)
  .cases he
 |.zm id jj,y,hl,he=>by
  simp[bZ]at he;split at he
  .simp[af]at he;subst he;exact GA.2 (aV hl)
  .cases he
 |.emp,y,_,he|.nil,y,_,he=>by simp[bZ,af]at he;subst he;rfl
 |.mp id,y,hl,he=>by simp[bZ,af]at he;subst he;exact GA.2 (aV hl)
 |.agg l,y,hl,he|.qg l,y,hl,he|.qv q l,y,hl,he=>by
  simp[bZ]at he;split at he
  .rename_i l' hl';simp[af]at he;subst he;exact tf l l' hl hl'
  .cases he
 |.undef,y,_,he|.np,y,_,he|.qw,y,_,he|.qm _ _,y,_,he=>by simp[bZ,af]at he;subst he;rfl
 |.sb s,y,hl,he=>by simp[bZ,af]at he;subst he;exact al4 (aV hl)
def tf {nb:Nat} {h:aX}:∀(l:Y TV) (l':Y AV),qZ nb l=J->cI h l=Z l'->AV.allL (Ps nb) l'=J
 |[],l',_,he=>by simp[cI,af]at he;subst he;rfl
 |x::r,l',hl,he=>by
  obtain⟨y,l2,rfl,e1,e2⟩:=cZ he;simp[qZ,al]at hl;simp[AV.allL,al];exact⟨ap5 x y hl.1 e1,tf r l2 hl.2 e2⟩
end
def Ct :∀{l:Y AV},(∀x∈l,x.all p=J)->AV.allL p l=J
 |[],_=>rfl
 |x::r,h=>by
  simp[AV.allL,al];exact⟨h x (cP ..),Ct λy z=>h y (bJ _ z)⟩
def Pn (h:j<i) (sz:Nat):∀(D:η) (k:Nat),∀x∈lI j sz k D,x.all (Ps i)=J
 |[],_,x,z=>by cases z
 |l::r,k,x,z=>by
  rcases aZ.1 z with rfl|z
  .exact Tu h _ _ _
  .exact Pn h sz r (k+1) x z
def ah8 (h:j<i) {F:uc} {x:F.ty.den} (A:tX j F x=Z S):S.c.all (Ps i)=J:=by
 cases F with
 |qc ty=>
  simp only[tX]at A;split at A
  .cases A
  .simp[af]at A;subst A;refine Ct λz D=>?_
   obtain⟨a,_,rfl⟩:=cj.1 D;exact Cf.2 h
 |qh=>
  simp[tX,af]at A;subst A;refine Ct λz D=>?_
  obtain⟨q,N,rfl⟩:=cj.1 D;obtain⟨e,_,rfl⟩:=cj.1 N;exact Cf.2 h
 |rr ty sz=>
  simp[tX,af]at A;subst A;exact Ct (Pn h sz x 0)
 |_=>cases A
def ah6 (h:i<j) (k:Nat) (ty:TypeId) (S:Ty) (o:BX S):(vY i k ty S o).c.all (Ps j)=J:=by
 unfold vY;split
 .refine Ct λz A=>?_
  rcases bA.1 A with A|A
  .obtain⟨q,_,rfl⟩:=cj.1 A;rfl
  .rcases aZ.1 A with rfl|A
   .exact Cf.2 h
   .rw[aB.1 A];exact Cf.2 h
 .refine Ct λz A=>?_
  obtain⟨q,L,rfl⟩:=cj.1 A;obtain⟨e,_,rfl⟩:=cj.1 L;rfl
def ah7 (h:i<j) {k:Nat} {F:uc} {x:F.ty.den} (A:Jw i k F x=Z S):S.c.all (Ps j)=J:=by
 cases F with
 |ar ty y=>
  obtain⟨o,_,rfl⟩:=gg.1 A;exact ah6 h k ty y o
 |ir ty T=>
  let⟨o,_,z⟩:=Option.bind_eq_some_iff.1 A;unfold Yh at z;split at z
  .cases z
  .cases z;rfl
 |_=>cases A
def pw.blk_all {t:Tm} {x:t.ty.den} {N:Y (M eD)} (I:pw t x r h N) {b:eD} (D:h.get i=Z b) (A:jJ h b=Z S):S.c.all (Ps (l! t.bs))=J:=by
 cases b with
 |F ty p T xs=>
  simp only[jJ]at A;split at A
  .cases A
  .simp[af]at A;subst A;rfl
 |C ty l=>
  cases ty with
  |some ty=>
   simp[jJ]at A;split at A
   next l' L=>simp[af]at A;subst A;exact tf l l' (I.C i _ l D).2 L
   .cases A
  |none=>
   simp[jJ]at A;split at A
   next l' L=>simp[af]at A;subst A;show AV.allL _ ((pM 0 l').map (·.2))=J;rw[PD];exact tf l l' (I.C i _ l D).2 L
   .cases A
 |qj p sz n=>cases A
 |mp K V es=>
  simp[jJ,af]at A;subst A;unfold mpC;split
  .rfl
  .simp[BC.all,kM];have key:∀l:Y (K.den×V.den),AV.allL (Ps (l! t.bs)) (l.map ((λx=>x.2)∘λp=>(qR K p.1,AV.f (fM V p.2))))=J:=λl=>by
    induction l with
    |nil=>rfl
    |cons e vs ih=>simp[bY,AV.allL,al];exact⟨rfl,ih⟩
   exact key es
 |I F a z=>exact ah8 (I.I i F a z D) A
 |qp F a z k p=>exact b8 D (I.nox i F a z k p)
def pw.lt_len {t:Tm} {x:t.ty.den} {z:Y (M eD)} (a:pw t x r h z) {b:eD} (A:h.get i=Z b):i<l! t.bs:=by
 rw[<- a.len];exact (bB.1 ((a.at_ i b).1 A)).1
def φ1 (z:Nat) (g:Nat->Nat) (φ:PM):PM:=λn=>if Ps z n then φ (py g n) else U
def aej (hi:ow j<i):φ1 i g V j=V (py g j):=by
 unfold φ1;rw[aD (EL.2 hi)]
def yS {k:Nat} (h:φ1 i g V j=Z k):ow j<i/\V (py g j)=Z k:=by
 unfold φ1 at h;split at h
 next hp=>exact⟨EL.1 hp,h⟩
 .cases h
def aky (inj:∀a b,a<i->b<i->g a=g b->a=b) {A:Nat} (h:ow j<i) (h':ow A<i) (e:py g j=py g A):j=A:=by
 let⟨D,e2⟩:=uM e;rw[<- kN j,<-kN A,inj _ _ h h' D,e2]
def pw.erHF {t:Tm} {x:t.ty.den} {N:Y (M eD)} (I:pw t x r h N) (hn:AI.erHF h i=Z S):ow i<l! t.bs/\S.c.all (Ps (l! t.bs))=J:=by
 let⟨c,D,A⟩:=iK hn;have hi:=I.lt_len D;refine ⟨hi,?_⟩;cases L:ix i with
 |zero=>rw[L]at A;exact I.blk_all D A
 |succ k=>
  rw[L]at A;cases c with
  |I F a z=>exact ah7 hi A
  |qp F a z k p=>exact b8 D (I.nox _ F a z k p)
  |_=>cases A
structure am5 (t:Tm) (x:t.ty.den) (vs:List TV) (h1:aX) (g:Nat->Nat) (φ:PM) (E E':Nat->Prop) (Hv:HF) (w:World):Prop where
 qn:sh (φ1 (l! t.bs) g φ) E' (erHF h1) w
 val:∀x v,x.all (Ps (l! t.bs))=J->co φ (tot E φ Hv) w (x.qx (py g)) v->co (φ1 (l! t.bs) g φ) (tot E' (φ1 (l! t.bs) g φ) (erHF h1)) w x v
 qr:∀k,own (φ1 (l! t.bs) g φ) (erHF h1) k->own φ Hv k
 tot_:∀k,tot E' (φ1 (l! t.bs) g φ) (erHF h1) k->tot E φ Hv k
def sh.toId {t:Tm} {x:t.ty.den} {l1:Y (M eD)} (I:pw t x r h l1) (inj:∀a b,a<l! t.bs->b<l! t.bs->g a=g b->a=b) {E':Nat->Prop} (vs:sh V O A w)
 (hat:∀n y,AI.erHF h n=Z y->A (py g n)=Z (y.qx (py g)))
 (hE:∀k,E' k->tot O V A k) (hne:∀n k y,AI.erHF h n=Z y->V (py g n)=Z k->¬E' k) (hel:∀k,E' k->k<w.heap.size):am5 t x r h g V O E' A w:=by
 have own1:∀k,own (φ1 (l! t.bs) g V) (erHF h) k->own V A k:=by
  rintro k ⟨n,y,L,h3⟩;let⟨hi,D⟩:=yS h3;exact⟨py g n,_,hat n y L,D⟩
 have tot1:∀k,tot E' (φ1 (l! t.bs) g V) (erHF h) k->tot O V A k:=λk z=>z.elim (hE k) λh1=>.inr (own1 k h1)
 have val:∀x v,x.all (Ps (l! t.bs))=J->co V (tot O V A) w (x.qx (py g)) v->co (φ1 (l! t.bs) g V) (tot E' (φ1 (l! t.bs) g V) (erHF h)) w x v:=λx v hx hr=>by
  have L:co (φ1 (l! t.bs) g V) (tot O V A) w x v:=co.renFrom (λi k hp z=>by unfold φ1;rw[aD hp];exact z) hr x hx rfl;exact L.ext (λ_ _ h1=>h1) (Ge.refl _ w) λk _ z=>tot1 k z
 refine ⟨⟨λn n' b b' k Hv g2 g3 g4=>?_,λn y Hv=>?_,hel,λg' cells hg=>(vs.gl g' cells hg).ext (Ge.refl _ w) λk _ z=>tot1 k z⟩,val,own1,tot1⟩
 .obtain⟨hi,D⟩:=yS g3;let⟨hj,h5⟩:=yS g4;exact aky inj hi hj (vs.inj _ _ _ _ k (hat n _ Hv) (hat n' _ g2) D h5)
 .obtain⟨hi,hall⟩:=I.erHF Hv;let⟨k,N,p2,ob,p3,p4⟩:=vs.at_ _ _ (hat n y Hv);exact⟨k,by rw[aej hi];exact N,hne n k y Hv N,ob,p3,gR.renFrom val hall p4⟩
def BM.view {N:aX} {H':HF} (d:rf A H') (gv:Eg h A H' i) (hr:zW N h) {b0 c:eD} (hb:BM g h i b0 c) {y':kl} (e0:jJ h b0=Z S) (z:jJ N c=Z y'):fD A H' S y':=by
 cases hb with
 |F ty p T xs=>
  simp only[jJ]at e0 z;rw[e0]at z;cases z;exact fD.refl d S
 |C ty ps x l L m' hg hp hm=>
  have key:∀l' cs',cI h l=Z l'->cI N L=Z cs'->gF A H' l' cs'/\∀x∈cs',x.isCell=J:=λl' cs' D H=>by
   let⟨l1,l3,q1,q2,q3⟩:=Fk d hr ps l x m' [] L l' cs' hg hp D H λm hi=>gv m (hm m hi)
   simp[cI,af]at q2;subst q2;rw[jB]at q1;subst q1;exact⟨q3,mM (tG H (yV ps x L hp))⟩
  cases ty with
  |some ty=>
   simp[jJ]at e0 z;split at e0
   .rename_i l' D;simp[af]at e0;subst e0;split at z
    next cs' H=>simp[af]at z;subst z;exact fD.C rfl rfl (key _ _ D H).1 (key _ _ D H).2
    .cases z
   .cases e0
  |none=>
   simp[jJ]at e0 z;split at e0
   .rename_i l' D;simp[af]at e0;subst e0;split at z
    next cs' H=>simp[af]at z;subst z;exact fD.told (key _ _ D H).1
    .cases z
   .cases e0
 |_=>
  simp[jJ]at e0 z;rw[e0]at z;cases z;exact fD.refl d S
def BM.erB_some {D:aX} {m:Nat} (hinv:gM h j) {b0 c:eD} (h0:h.get i=Z b0) (N:BM g h m b0 c) (A:jJ D c=Z S):∃y,jJ h b0=Z y:=by
 cases N with
 |C ty ps x l l2 m' hg hp hm=>
  let⟨l',L⟩:=eR h l (hinv.C i _ l h0);cases ty<;>exact⟨_,by simp[jJ,L];rfl⟩
 |_=>exact⟨S,A⟩
def BM.mem {b0 c:eD} (z:BM g h i b0 c) (m k:Nat):wu m k b0=wu m k c:=by cases z<;>rfl
def BM.G {b0 c:eD} (z:BM g h i b0 c):iz c=iz b0:=by
 cases z<;>rfl
structure qX (P:Program) (f:FuncId) (c:cA):Prop where
 zw:Gh P f
 calls:∀x y,c.m x=Z y->∀vs hp l1 rs hq l2 la lr,pw c.pre x vs hp l1->pw c.post y rs hq l2->cI hp vs=Z la->cI hq rs=Z lr->
  ∀(φ:PM) (E:Nat->Prop) (w:World) (us:ξ),sh φ E (erHF hp) w->lH φ (tot E φ (erHF hp)) w la us->(∀n k,φ n=Z k->ow n<l! c.pre.bs)->
  Calls P f us.toArray w λen w'=>∃v φ',en= .returned v/\Ge (own φ (erHF hp)) w w'/\(∀k,k<w.heap.size->own φ' (erHF hq) k->own φ (erHF hp) k)/\(∀n,ow n<l! c.pre.bs->φ' n=φ n)/\sh φ' E (erHF hq) w'/\co φ' (tot E φ' (erHF hq)) w' (Ev lr) v
def Pw :∀(bs:Y PB) (x:(PB.tyL bs).den) (l:Y (M eD)),DV bs=J->qI g bs x=Z l->∀(i:Nat) (c:M eD),l[i]? =Z c->∃b,c=Z b
 |[],x,l,_,hp,i,c,A=>by simp[qI,af]at hp;subst hp;simp at A
 |b::r,x,l,D,hp,i,c,A=>by
  simp[qI]at hp;split at hp
  .rename_i a z;split at hp
   .rename_i q L;simp[af]at hp;subst hp;cases i with
    |zero=>
     simp at A;subst A;cases b with
     |qk=>simp[DV]at D
     |C ty N=>
      simp[Cw]at z
      grind
     |_=>simp[Cw,af]at z;exact⟨_,z.symm⟩
    |succ i=>
     refine Pw r _ q ?_ L i c (by grind);cases b<;>first|exact D|simp[DV]at D
   .cases hp
  .cases hp
def HV {A:aX} :∀n,vq h A g n=J->∀i,i<n->∀r,eg h (g i)=Z r->eg A (g i)=Z r
 |0,_,i,hi,_,_=>by omega
 |n+1,z,i,hi,r,D=>by
  simp[vq,al]at z;by_cases e:i=n
  .subst e;let⟨p,s,k⟩:=r;have h1:=z.1;rw[D]at h1;cases L:eg A (g i) with
   |none=>rw[L]at h1;cases h1
   |some q=>simp_all
  .exact HV n z.2 i (by omega) r D
def lH.le {H':HF} (r:sh V O A w):∀{l l':Y AV} {z:ξ},gF A H' l l'->lH V (tot O V A) w l z->lH V (tot O V H') w l' z
 |[],[],[],_,_=>trivial
 |[],[],_::_,_,h|_::_,_::_,[],_,h|[],_::_,_,h,_|_::_,[],_,h,_=>h.elim
 |_::_,_::_,_::_,H,h=>⟨H.1 _ _ _ _ r h.1,lH.le r H.2 h.2⟩
def lH.toId {φ':PM} {O':Nat->Prop} (A:∀x v,x.all p=J->co V O w (x.qx g) v->co φ' O' w x v):∀{l:Y AV} {z:ξ},AV.allL p l=J->lH V O w (AV.renL g l) z->lH φ' O' w l z
 |[],[],_,_=>trivial
 |[],_::_,_,h|_::_,[],_,h=>h.elim
 |_::_,_::_,hp,h=>by
  simp[AV.allL,al]at hp;exact⟨A _ _ hp.1 h.1,lH.toId A hp.2 h.2⟩
def Zx :∀{A:Y TV} {z:Y AV},cI h A=Z z->bZ h (Tv A)=Z (Ev z)
 |[],z,he=>by simp[cI,af]at he;subst he;rfl
 |[x],z,he=>by
  obtain⟨y,L,rfl,D,e2⟩:=cZ he;simp[cI,af]at e2;subst e2;exact D
 |x::y::r,z,he=>by
  obtain⟨y1,L,rfl,D,e2⟩:=cZ he;obtain⟨N,l3,rfl,e3,e4⟩:=cZ e2;simp[Tv,bZ,he,Ev]
def aes (γ:Nat->Nat):∀l:Y AV,Ev (AV.renL γ l)=(Ev l).qx γ
 |[]|[x]|x::y::r=>rfl
def S8 :∀{l:Y AV},AV.allL p l=J->(Ev l).all p=J
 |[],_=>rfl
 |[x],h=>by simp only[AV.allL,al]at h;exact h.1
 |x::y::r,h=>h
def akb {q:Nat}:aJ (((1<<<j)-1)<<<i) q=J↔i<=q/\q<i+j:=by
 rw[Nat.testBit_shiftLeft,Nat.one_shiftLeft,Nat.testBit_two_pow_sub_one]
 grind
def ak9 (l:ι) (B:Nat):ι:=l.flatMap λi=>(iN (B+1)).map λk=>ji i k
def T5 {l:ι} :j∈ak9 l i↔ow j∈l/\ix j<=i:=by
 unfold ak9;rw[wI];constructor
 .rintro⟨B,hi,z⟩;obtain⟨k,A,rfl⟩:=cj.1 z;rw[sq]at A;rw[iF,vN];exact⟨hi,by omega⟩
 .rintro⟨h1,D⟩;exact⟨ow j,h1,cj.2 ⟨ix j,sq.2 (by omega),kN j⟩⟩
mutual
def AV.all_and {p q:Nat->Bool}:∀x:AV,x.all p=J->x.all q=J->x.all (λn=>p n&&q n)=J
 |.f _,_,_=>rfl
 |.H _ _,h1,h2|.sl _ _ _,h1,h2|.G _ _ _,h1,h2|.mp _,h1,h2=>by simp only[AV.all]at h1 h2 ⊢;rw[h1,h2];rfl
 |.emp,_,_|.qw,_,_|.qm _ _,_,_=>rfl
 |.agg l,h1,h2|.qg l,h1,h2|.qv _ l,h1,h2=>AV.allL_and l h1 h2
def AV.allL_and {p q:Nat->Bool}:∀l:Y AV,AV.allL p l=J->AV.allL q l=J->AV.allL (λn=>p n&&q n) l=J
 |[],_,_=>rfl
 |x::r,h1,h2=>by
  simp[AV.allL,al]at h1 h2 ⊢;exact⟨AV.all_and x h1.1 h2.1,AV.allL_and r h1.2 h2.2⟩
end
def BC.all_and {q:Nat->Bool} {c:BC} (h1:c.all p=J) (z:c.all q=J):c.all (λn=>p n&&q n)=J:=by
 cases c with
 |mx l=>exact AV.allL_and l h1 z
 |mp es=>exact AV.allL_and _ h1 z
 |_=>rfl
def W6 (B n:Nat):Bool:=dF (ix n) B
def E6 {n:Nat} (h:i<=j) (z:W6 i n=J):W6 j n=J:=ba (c4 (aV z) h)
mutual
def AV.all_ix {B B':Nat} (h:B<=B'):∀x:AV,x.all (W6 B)=J->x.all (W6 B')=J
 |.f _,_=>rfl
 |.H _ _,h1|.sl _ _ _,h1|.G _ _ _,h1|.mp _,h1=>E6 h h1
 |.emp,_|.qw,_|.qm _ _,_=>rfl
 |.agg l,h1|.qg l,h1|.qv _ l,h1=>AV.allL_ix h l h1
def AV.allL_ix {B B':Nat} (h:B<=B'):∀l:Y AV,AV.allL (W6 B) l=J->AV.allL (W6 B') l=J
 |[],_=>rfl
 |x::r,h1=>by
  simp[AV.allL,al]at h1 ⊢;exact⟨AV.all_ix h x h1.1,AV.allL_ix h r h1.2⟩
end
mutual
def AV.ix_ex:∀x:AV,∃B,x.all (W6 B)=J
 |.f _=>⟨0,rfl⟩
 |.H n _|.sl n _ _|.G n _ _|.mp n=>⟨ix n,ba (bO _)⟩
 |.emp|.qw|.qm _ _=>⟨0,rfl⟩
 |.agg l|.qg l|.qv _ l=>AV.ixL_ex l
def AV.ixL_ex:∀l:Y AV,∃B,AV.allL (W6 B) l=J
 |[]=>⟨0,rfl⟩
 |x::r=>by
  obtain⟨a,ha⟩:=AV.ix_ex x;obtain⟨b,hb⟩:=AV.ixL_ex r;exact⟨a+b,by simp[AV.allL,al];exact⟨AV.all_ix (by omega) x ha,AV.allL_ix (by omega) r hb⟩⟩
end
def BC.ix_ex (c:BC):∃B,c.all (W6 B)=J:=by
 cases c with
 |mx l=>exact AV.ixL_ex l
 |mp es=>exact AV.ixL_ex _
 |_=>exact⟨0,rfl⟩
def BC.all_ix (h:i<=j) {c:BC} (h1:c.all (W6 i)=J):c.all (W6 j)=J:=by
 cases c with
 |mx l=>exact AV.allL_ix h l h1
 |mp es=>exact AV.allL_ix h _ h1
 |_=>rfl
def Ke (h:aX):∃B,∀n y,erHF h n=Z y->ix n<=B/\y.c.all (W6 B)=J:=by
 let⟨A,hM⟩:=ZV h;have key:∀a:Nat,∃B,∀n y,n<a->erHF h n=Z y->y.c.all (W6 B)=J:=by
  intro a;induction a with
  |zero=>exact⟨0,λn y hn=>by omega⟩
  |succ a ih=>
   let⟨B,N⟩:=ih;cases hx:erHF h a with
   |none=>exact⟨B,λn y hn D=>by
     by_cases e:n=a
     .grind
     .exact N n y (by omega) D⟩
   |some z=>
    let⟨C,hC⟩:=BC.ix_ex z.c;exact⟨B+C,λn y hn D=>by
     by_cases e:n=a
     .subst e;rw[hx]at D;cases D;exact BC.all_ix (by omega) hC
     .exact BC.all_ix (by omega) (N n y (by omega) D)⟩
 let⟨H,hH⟩:=gu h;let⟨L,hL⟩:=PT.bound H;let⟨B,N⟩:=key L;refine ⟨A+B,λn y D=>⟨c4 (al5 hM D) (by omega),BC.all_ix (by omega) (N n y ?_ D)⟩⟩;rcases bG n L with h1|h1
 .exact h1
 .simp_all
def ahv {o:Oper} {e:gT} {c:cA} (hinv:gM h i) (sp:qX P f c) {x:c.pre.ty.den} {σ:PT Nat} {sm:Nat} (A:Kn 0 c.pre r h x j σ sm) {vs:Y TV} {hp:aX} {l1:Y (M eD)} (I:pw c.pre x vs hp l1) (hng:DV c.pre.bs=J) {y:c.post.ty.den} (hm:c.m x=Z y) {rs:Y TV} {hq:aX} {l2:Y (M eD)} (D:pw c.post y rs hq l2) (hle:l! c.pre.bs<=l! c.post.bs)
 (glo:∀nx,nx<l! c.pre.bs->g nx=hZ σ nx) (ghi:∀nx,l! c.pre.bs<=nx->g nx=i+(nx-l! c.pre.bs)) {h2:aX} (hh2:h2=CF g 0 (l2.map (hX (kS g))) (dD j h)) (hsr:vq h h2 g (l! c.pre.bs)=J) (hla:cI h r=Z B)
 (hexec:∀(φ:PM) (E:Nat->Prop) (h':HF) (w:World) (a:Act),(∀t,.tmp t∈o.op.operands->∀y,fC e h t=Z y->co φ (tot E φ h') w y (a.tmps.getD t undef))->sh φ E h' w->∃us:ξ,(execOp a.eval o).run P w= .ok (.enter f us.toArray) w/\lH φ (tot E φ h') w B us):
 eK P o aa e h i (Tv (k_ g rs)) (sm|||j) (sm|||j|||(((1<<<(l! c.post.bs-l! c.pre.bs))-1)<<<i)) h2 (i+(l! c.post.bs-l! c.pre.bs)):=by
 let⟨x1,m1,x2,m2,hx,hmm,gv,gb⟩:=A.ex;have hmr:dA h j:=by rw[hmm];exact (RE _ _ _ _ gv).or (RF _ _ _ _ gb)
 generalize hnp:l! c.pre.bs=np at*
 generalize hnq:l! c.post.bs=nq at*
 have pvg:rk (hZ σ) c.pre.vs x1=Z (k_ (hZ σ) vs):=by
  have h3:=vg (hZ σ) c.pre.vs x1;have h4:=I.pv;rw[hx,uU]at h4;rw[h3,h4];rfl
 have pbg:qI (hZ σ) c.pre.bs x2=Z (l1.map (hX (kS (hZ σ)))):=by
  have h3:=xR (hZ σ) c.pre.bs x2;have h4:=I.pb;rw[hx,wL]at h4;rw[h3,h4];rfl
 have hl1:∀nx,nx<np->∃b,l1[nx]? =Z (Z b):=λnx hi=>by
  have hi':nx<l! l1:=by rw[I.len,hnp];exact hi
  let⟨b,L⟩:=Pw c.pre.bs _ l1 hng I.pb nx l1[nx] (aE hi');exact⟨b,by rw[aE hi',L]⟩
 have hbm:∀nx b,l1[nx]? =Z (Z b)->∃b0,h.get (hZ σ nx)=Z b0/\BM (hZ σ) h j b0 (kS (hZ σ) b):=λnx b L=>by
  let⟨b0,q1,q2⟩:=LV c.pre.bs 0 x2 m2 _ gb pbg nx (kS (hZ σ) b) (by rw[bz,L];rfl);rw[bT]at q1;exact⟨b0,q1,q2.mono λm hj=>by rw[hmm,bu,hj];simp⟩
 have inj1:∀a b,a<np->b<np->hZ σ a=hZ σ b->a=b:=λa b ha L=>A.inj a b (by rw[hnp];exact ha) (by rw[hnp];exact L)
 have sig:∀q,aJ sm q=J↔∃k,k<np/\hZ σ k=q:=λq=>by rw[A.sig,hnp]
 have gnx:∀nx,nx<np->hZ σ nx<i:=λnx hi=>by
  let⟨b,L⟩:=hl1 nx hi;let⟨b0,q1,_⟩:=hbm nx b L;exact hinv.low _ _ q1
 have hmS:∀nx,nx<np->aJ j (hZ σ nx)=aa:=λnx hi=>by
  cases hx:aJ j (hZ σ nx) with
  |false=>rfl
  |true=>have:=A.disj _ hx;rw[(sig _).2 ⟨nx,hi,rfl⟩]at this;cases this
 have injg:∀a b,a<nq->b<nq->g a=g b->a=b:=λa b ha L hab=>by
  by_cases h1:a<np
  .by_cases h2:b<np
   .rw[glo a h1,glo b h2]at hab;exact inj1 a b h1 h2 hab
   .rw[glo a h1,ghi b (by omega)]at hab;have:=gnx a h1;omega
  .by_cases h2:b<np
   .rw[ghi a (by omega),glo b h2]at hab;have:=gnx b h2;omega
   .rw[ghi a (by omega),ghi b (by omega)]at hab;omega
 let hv:aX:=CF (hZ σ) 0 (l1.map (hX (kS (hZ σ)))) (dD j h)
 have hv_at:∀nx b,l1[nx]? =Z (Z b)->hv.get (hZ σ nx)=Z (kS (hZ σ) b):=λnx b L=>by
  have:=wP (hZ σ) (l1.map (hX (kS (hZ σ)))) 0 (dD j h) (λa b ha L=>by
   simp only[b_,I.len,hnp]at ha L;simp only[bT];exact inj1 a b ha L) nx (Z (kS (hZ σ) b)) (by rw[bz,L];rfl)
  rw[bT]at this;exact this
 have hv_ne:∀m,(∀nx,nx<np->m≠hZ σ nx)->hv.get m=(dD j h).get m:=λm hj=>
  wO (hZ σ) _ 0 _ m λk N=>by
   simp only[b_,I.len,hnp]at N;rw[bT];exact hj k N
 have rows_in:zW hv h:=λm l hr=>by
  rw[bw]at hr ⊢;by_cases hj:∃nx,nx<np/\m=hZ σ nx
  .obtain⟨nx,hi,rfl⟩:=hj;let⟨b,L⟩:=hl1 nx hi;let⟨b0,q1,q2⟩:=hbm nx b L;rw[hv_at nx b L]at hr;rw[q1];simp only[aC]at hr ⊢;rw[<- q2.G];exact hr
  .rw[hv_ne m (λnx hi e=>hj ⟨nx,hi,e⟩),iI]at hr;split at hr
   next ht=>let⟨ty,p,T,xs,L⟩:=hmr m ht;rw[L]at hr ⊢;exact hr
   .exact hr
 have rows_hp:∀nx l,eg hp nx=Z l->eg hv (hZ σ nx)=Z l:=λnx l hr=>by
  rw[bw]at hr ⊢;cases L:hp.get nx with
  |none=>rw[L]at hr;cases hr
  |some b=>
   rw[L]at hr;rw[hv_at nx b ((I.at_ nx b).1 L)];simp only[aC,KC]at hr ⊢;exact hr
 have dead_m:∀nx,aJ j nx=J->erHF hv (nm nx)=U:=λnx hi=>by
  rw[bE,hv_ne nx (λk N e=>by rw[e,hmS k N]at hi;cases hi)];let⟨p,sz,n,hd⟩:=vj hmr hi;rw[hd];rfl
 have h2_at:∀nx cc,l2[nx]? =Z cc->h2.get (g nx)=(match cc with|some b=>Z (kS g b)|none=>((dD j h).get (g nx)).map uA):=λnx cc hc=>by
  have:=wP g (l2.map (hX (kS g))) 0 (dD j h) (λa b ha L=>by
   simp only[b_,D.len,hnq]at ha L;simp only[bT];exact injg a b ha L) nx (cc.map (kS g)) (by rw[bz,hc];rfl)
  rw[bT]at this;rw[hh2,this];cases cc<;>rfl
 have h2_ne:∀m,(∀nx,nx<nq->m≠g nx)->h2.get m=(dD j h).get m:=λm hj=>by
  rw[hh2];refine wO g _ 0 _ m λk N=>?_
  simp only[b_,D.len,hnq]at N;rw[bT];exact hj k N
 have rows_hq:∀nx l,eg hq nx=Z l->eg h2 (g nx)=Z l:=λnx l hr=>by
  rw[bw]at hr ⊢;cases L:hq.get nx with
  |none=>rw[L]at hr;cases hr
  |some b=>
   rw[L]at hr;rw[h2_at nx _ ((D.at_ nx b).1 L)];simp only[aC,KC]at hr ⊢;exact hr
 have rows2:bV h h2:=λm l hr=>by
  by_cases hj:∃nx,nx<np/\m=hZ σ nx
  .obtain⟨nx,hi,rfl⟩:=hj;rw[<- glo nx hi]at hr ⊢;exact HV np hsr nx hi l hr
  .have hjn:m<i:=by
    rw[bw]at hr;cases L:h.get m with
    |none=>rw[L]at hr;cases hr
    |some b=>exact hinv.low m b L
   have:=bV.kill j h m l hr;rw[bw]at this ⊢;rw[h2_ne m (λnx hi e=>?_)]
   .exact this
   .by_cases hip:nx<np
    .exact hj ⟨nx,hip,by rw[e,glo nx hip]⟩
    .rw[ghi nx (by omega)]at e;omega
 let⟨lr,hlr⟩:=eR hq rs D.ok;let⟨lp,hlp⟩:=eR hp vs I.ok;have er2:∀n yb,erHF hq n=Z yb->erHF h2 (py g n)=Z (yb.qx (py g)):=λn yb hn=>by
  let⟨b,L,hyb⟩:=iK hn;unfold erHF;rw[xi,zA,h2_at _ _ ((D.at_ _ b).1 L)];exact Cm rows_hq hyb
 have er2':∀n,ow n<nq->∀z,erHF h2 (py g n)=Z z->∃yb,erHF hq n=Z yb/\z=yb.qx (py g):=λn hi z hz=>by
  have hi':ow n<l! l2:=by rw[D.len,hnq];exact hi
  have hcc:=aE hi';unfold erHF at hz;rw[xi,zA]at hz;cases hcv:l2[ow n] with
  |none=>
   rw[hcv]at hcc;rw[h2_at _ U hcc]at hz;simp only at hz;cases hkg:(dD j h).get (g (ow n)) with
   |none=>rw[hkg]at hz;cases hz
   |some b0=>rw[hkg]at hz;exact (ahc hz).elim
  |some b=>
   rw[hcv]at hcc;have L:=(D.at_ _ b).2 hcc;rw[h2_at _ (Z b) hcc]at hz;have hz:NC h2 (g (ow n)) (ix n) (kS g b)=Z z:=hz;have hyb:∃yb,NC hq (ow n) (ix n) b=Z yb:=by
    cases N:ix n with
    |zero=>
     rw[N]at hz;cases b with
     |F ty p T xs=>exact⟨z,hz⟩
     |C ty q=>
      let⟨q',hq'⟩:=eR hq q (D.C _ _ q L).1;cases ty<;>exact⟨_,by simp only[NC,jJ,hq'];rfl⟩
     |qj p sz n=>cases hz
     |mp K V es=>exact⟨_,rfl⟩
     |I F a x=>
      simp only[NC,kS,jJ,U2]at hz;let⟨y,hy,_⟩:=gg.1 hz;exact⟨y,hy⟩
     |qp F a x k p=>exact b8 L (D.nox _ F a x k p)
    |succ k=>
     rw[N]at hz;simp only[NC,T6]at hz;let⟨y,hy,_⟩:=gg.1 hz;exact⟨y,hy⟩
   let⟨yb,hyb⟩:=hyb;rw[Cm rows_hq hyb]at hz;refine ⟨yb,?_,by cases hz;rfl⟩;unfold erHF;rw[L];exact hyb
 have dead2:∀nx,aJ j nx=J->erHF h2 (nm nx)=U:=λnx hi=>by
  have hlt:=hmr.lt hinv hi;rw[bE,h2_ne nx (λk N e=>?_)]
  .obtain⟨p,sz,n,hd⟩:=vj hmr hi;rw[hd];rfl
  .by_cases hkp:k<np
   .rw[e,glo k hkp,hmS k hkp]at hi;cases hi
   .rw[ghi k (by omega)]at e;omega
 have inv2:gM h2 (i+(nq-np)):=by
  refine ⟨λm ty q hj=>?_,λm b hj=>?_⟩
  .by_cases hjg:∃nx,nx<nq/\m=g nx
   .obtain⟨nx,hi,rfl⟩:=hjg;have hi':nx<l! l2:=by rw[D.len,hnq];exact hi
    have hcc:=aE hi';cases hcv:l2[nx] with
    |none=>
     rw[hcv]at hcc;rw[h2_at nx U hcc]at hj;simp only at hj;cases hkg:(dD j h).get (g nx) with
     |none=>rw[hkg]at hj;cases hj
     |some b0=>rw[hkg]at hj;exact (Be (fG hj)).elim
    |some b=>
     rw[hcv]at hcc;have L:=(D.at_ nx b).2 hcc;rw[h2_at nx (Z b) hcc]at hj;simp only[af]at hj;cases b with
     |C ty' q'=>
      simp only[kS,eD.C.injEq]at hj;obtain⟨_,rfl⟩:=hj;let⟨z,hz⟩:=eR hq q' (D.C nx _ q' L).1;exact kQ _ _ _ (pZ rows_hq q' z hz)
     |_=>simp[kS]at hj
   .rw[h2_ne m (λnx hi e=>hjg ⟨nx,hi,e⟩)]at hj;refine e9 rows2 q ?_;have hkk:=(hinv.kill j).C m _ q hj;rw[iI]at hj;split at hj
    next ht=>let⟨_,_,_,_,L⟩:=hmr m ht;rw[L]at hj;cases hj
    .exact hinv.C m _ q hj
  .by_cases hjg:∃nx,nx<nq/\m=g nx
   .obtain⟨nx,hi,rfl⟩:=hjg;by_cases hip:nx<np
    .rw[glo nx hip];have:=gnx nx hip;omega
    .rw[ghi nx (by omega)];omega
   .rw[h2_ne m (λnx hi e=>hjg ⟨nx,hi,e⟩)]at hj;have:=(hinv.kill j).low m b hj;omega
 let⟨B1,hB1⟩:=Ke hp;let⟨B2,hB2⟩:=Ke hq;let⟨B3,hB3⟩:=Ke h;let⟨B4,hB4⟩:=Ke h2;let⟨B5,hB5⟩:=AV.ixL_ex lr;obtain⟨la,eB⟩:∃la,la=B1+B2+B3+B4+B5:=⟨_,rfl⟩
 let S:ι:=ak9 ((iN np).map (hZ σ)) la
 have memS:∀n,n∈S↔(∃nx,nx<np/\ow n=hZ σ nx)/\ix n<=la:=λn=>by
  simp only[S,T5,cj,sq];exact⟨λ⟨⟨nx,h1,h2⟩,h3⟩=>⟨⟨nx,h1,h2.symm⟩,h3⟩,λ⟨⟨nx,h1,h2⟩,h3⟩=>⟨⟨nx,h1,h2.symm⟩,h3⟩⟩
 let NN:ι:=ak9 ((iN (nq-np)).map λt=>i+t) la
 have GH:∀n,n∈NN↔(∃t,t<nq-np/\ow n=i+t)/\ix n<=la:=λn=>by
  simp only[NN,T5,cj,sq];exact⟨λ⟨⟨nx,h1,h2⟩,h3⟩=>⟨⟨nx,h1,h2.symm⟩,h3⟩,λ⟨⟨nx,h1,h2⟩,h3⟩=>⟨⟨nx,h1,h2.symm⟩,h3⟩⟩
 have memW:∀n,n∈S++H6 j++NN↔((∃nx,nx<nq/\ow n=g nx)/\ix n<=la)\/n∈H6 j:=λn=>by
  rw[bA,bA,memS,GH];constructor
  .rintro ((⟨⟨nx,hi,e⟩,N⟩|hn)|⟨⟨t,ht,e⟩,N⟩)
   .exact .inl ⟨⟨nx,by omega,by rw[glo nx hi];exact e⟩,N⟩
   .exact .inr hn
   .exact .inl ⟨⟨np+t,by omega,by rw[ghi _ (by omega),show np+t-np=t from by omega];exact e⟩,N⟩
  .rintro (⟨⟨nx,hi,e⟩,N⟩|hn)
   .by_cases hip:nx<np
    .exact .inl (.inl ⟨⟨nx,hip,by rw[<- glo nx hip];exact e⟩,N⟩)
    .exact .inr ⟨⟨nx-np,by omega,by rw[e,ghi nx (by omega)]⟩,N⟩
   .exact .inl (.inr hn)
 have gamS:∀n,ow n<np->ix n<=la->py (hZ σ) n∈S:=λn hi N=>(memS _).2 ⟨⟨ow n,hi,xi _ _⟩,by rw[zA];exact N⟩
 have gamg:∀n,ow n<np->py g n=py (hZ σ) n:=λn hi=>by unfold py;rw[glo _ hi]
 have ungam:∀(g:Nat->Nat) (n nx:Nat),ow n=g nx->n=py g (ji nx (ix n)):=λg n nx e=>by rw[Cl,<-e,kN]
 have hOpT:fZ P o (fC e h) (erHF h) ⟨Ev (AV.renL (py g) lr),S++H6 j,S++H6 j++NN,erHF h2,NN⟩:=by
  intro φ E h' w a hrd hwr hops hrep hN;have hS':∀n,n∈S->h' n=erHF h n:=λn hn=>hrd _ (fW _ hn)
  have hM':∀nx,aJ j nx=J->h' (nm nx)=erHF h (nm nx):=λnx hi=>hrd _ (ux _ (mC.2 hi))
  let⟨us,hrun,hrel⟩:=hexec φ E h' w a hops hrep
  let Hv:HF:=λn=>if n∈S++H6 j then erHF hv n else h' n
  have Hv_in:∀n,n∈S++H6 j->Hv n=erHF hv n:=λn hn=>by simp only[Hv,hn,bh]
  have Hv_out:∀n,n∉S++H6 j->Hv n=h' n:=λn hn=>by simp only[Hv,hn,dv]
  have blkS:∀n,n∈S->∀z,erHF hv n=Z z->∃b0 c y0,h.get (ow n)=Z b0/\BM (hZ σ) h j b0 c/\NC h (ow n) (ix n) b0=Z y0/\NC hv (ow n) (ix n) c=Z z:=λn hn z hz=>by
   let⟨⟨nx,hi,e⟩,_⟩:=(memS n).1 hn;let⟨b,L⟩:=hl1 nx hi;let⟨b0,q1,q2⟩:=hbm nx b L;unfold erHF at hz;rw[e,hv_at nx b L]at hz;have hz:NC hv (hZ σ nx) (ix n) (kS (hZ σ) b)=Z z:=hz;rw[e];cases N:ix n with
   |zero=>
    rw[N]at hz;let⟨y0,hy0⟩:=BM.erB_some hinv q1 q2 hz;exact⟨b0,_,y0,q1,q2,hy0,hz⟩
   |succ k=>
    rw[N]at hz;exact⟨b0,_,z,q1,q2,(q2.mem _ _).trans hz,hz⟩
  have hd:rf h' Hv:=λn b L=>by
   by_cases hn:n∈S++H6 j
   .rw[Hv_in n hn]at L;rcases bA.1 hn with hs|hs
    .obtain⟨b0,c,y0,q1,_,q4,_⟩:=blkS n hs b L;exact⟨y0,by rw[hS' n hs];unfold erHF;rw[q1];exact q4⟩
    .obtain⟨nx,rfl,hi⟩:=o7.1 hs;rw[dead_m nx hi]at L;cases L
   .rw[Hv_out n hn]at L;exact⟨b,L⟩
  have gvv:Eg h h' Hv j:=λnx hi=>⟨hM' nx hi,by rw[Hv_in _ (ux _ (mC.2 hi)),dead_m nx hi]⟩
  have V:JM h' Hv:=⟨hd,λn b b' L hb'=>by
   by_cases hn:n∈S++H6 j
   .rw[Hv_in n hn]at hb';rcases bA.1 hn with hs|hs
    .obtain⟨b0,c,y0,q1,q3,q4,q5⟩:=blkS n hs b' hb';rw[hS' n hs]at L;unfold erHF at L;rw[q1]at L;have L:NC h (ow n) (ix n) b0=Z b:=L;cases N:ix n with
     |zero=>rw[N]at L q5;exact BM.view hd gvv rows_in q3 L q5
     |succ k=>
      rw[N]at L q5;have:=(q3.mem (ow n) k).symm.trans L;have q5:wu (ow n) k c=Z b':=q5;rw[q5]at this;cases this;exact fD.refl hd _
    .obtain⟨nx,rfl,hi⟩:=o7.1 hs;rw[dead_m nx hi]at hb';cases hb'
   .rw[Hv_out n hn,L]at hb';cases hb';exact fD.refl hd b⟩
  have hrepv:=V.qn hrep;have hlpg:cI hv (k_ (hZ σ) vs)=Z (AV.renL (py (hZ σ)) lp):=pZ rows_hp vs lp hlp;have hrel1:lH φ (tot E φ Hv) w (AV.renL (py (hZ σ)) lp) us:=
   lH.le hrep (Fj hd rows_in c.pre.vs r x1 m1 _ B _ gv pvg hla hlpg (λnx hi=>gvv nx (by rw[hmm,bu,hi];rfl))) hrel
  let E':Nat->Prop:=λk=>E k\/∃n b,Hv n=Z b/\n∉S/\φ n=Z k
  have T:am5 c.pre x vs hp (hZ σ) φ E E' Hv w:=by
   refine sh.toId I (λa b ha L=>inj1 a b (by rw[<- hnp];exact ha) (by rw[<- hnp];exact L)) hrepv (λn yb hn=>?_) ?_ ?_ ?_
   .obtain⟨hi,_⟩:=I.erHF hn;rw[hnp]at hi;have N:=(hB1 n yb hn).1;let⟨b,L,hyb⟩:=iK hn;rw[Hv_in _ (fW _ (gamS n hi (by omega)))];unfold erHF;rw[xi,zA,hv_at _ b ((I.at_ _ b).1 L)];exact Cm rows_hp hyb
   .rintro k (hE|⟨n,b,h1,_,h3⟩)
    .exact .inl hE
    .exact .inr ⟨n,b,h1,h3⟩
   .intro n0 k y0 hn0 h3 hE0;let⟨hi,_⟩:=I.erHF hn0;rw[hnp]at hi;have N:=(hB1 n0 y0 hn0).1;have h1:Hv (py (hZ σ) n0)=Z (y0.qx (py (hZ σ))):=by
     let⟨b,L,hyb⟩:=iK hn0;rw[Hv_in _ (fW _ (gamS n0 hi (by omega)))];unfold erHF;rw[xi,zA,hv_at _ b ((I.at_ _ b).1 L)];exact Cm rows_hp hyb
    rcases hE0 with hE|⟨n,b',h4,h5,h6⟩
    .obtain⟨k',p1,p2,_⟩:=hrepv.at_ _ _ h1;rw[h3]at p1;cases p1;exact p2 hE
    .have:=hrepv.inj _ _ _ _ k h1 h4 h3 h6;exact h5 (by rw[<- this];exact gamS n0 hi (by omega))
   .rintro k (hE|⟨n,b,h1,_,h3⟩)
    .exact hrepv.el k hE
    .obtain⟨k',q1,_,ob,q3,_⟩:=hrepv.at_ n b h1;rw[h3]at q1;cases q1;exact (c7.1 q3).1
  have hcalls:=sp.calls x y hm vs hp l1 rs hq l2 lp lr I D hlp hlr (φ1 (l! c.pre.bs) (hZ σ) φ) E' w us T.qn (lH.toId T.val (tf vs lp I.lt hlp) hrel1) (λn k N=>(yS N).1);unfold Oper.wp;rw[hrun];refine Calls.mono hcalls ?_;rintro en w' ⟨v,φc',rfl,hext,hown,hnm,rp,rv'⟩
  let isN:Nat->Prop:=λn=>n∈NN
  let φ':PM:=λn=>if n∈NN then φc' (ji (np+(ow n-i)) (ix n)) else φ n
  have φ'_old:∀n,n∉NN->φ' n=φ n:=λn hn=>by simp only[φ',hn,dv]
  have loN:∀n,ow n<i->n∉NN:=λn hi hn=>by
   let⟨⟨t,_,e⟩,_⟩:=(GH _).1 hn;omega
  have φ'_g:∀n,ow n<nq->ix n<=la->φ' (py g n)=φc' n:=λn hi N=>by
   by_cases hip:ow n<np
   .rw[gamg n hip,φ'_old _ (loN _ (by rw[xi];exact gnx _ hip)),hnm n (by rw[hnp];exact hip),aej (by rw[hnp];exact hip)]
   .have hg:=ghi (ow n) (by omega);have:py g n∈NN:=(GH _).2 ⟨⟨ow n-np,by omega,by rw[xi,hg]⟩,by rw[zA];exact N⟩;simp only[φ',this,bh,xi,zA,hg];rw[show np+(i+(ow n-np)-i)=ow n from by omega,kN]
  have hsub:∀n k,φ n=Z k->φ' n=Z k:=λn k N=>by
   by_cases hn:n∈NN
   .rw[hN n hn]at N;cases N
   .rw[φ'_old n hn];exact N
  let F:HF:=eZ h' (S++H6 j++NN) (erHF h2)
  have F_g:∀n,n∈S++H6 j++NN->F n=erHF h2 n:=λn hn=>by
   simp only[F,eZ,hn,bh]
  have F_out:∀n,n∉S++H6 j++NN->F n=h' n:=λn hn=>by simp only[F,eZ,hn,dv]
  have from_:∀n b,F n=Z b->(∃nx yb,ow nx<nq/\ix nx<=la/\n=py g nx/\erHF hq nx=Z yb/\b=yb.qx (py g))\/(h' n=Z b/\Hv n=Z b/\n∉S/\n∉NN/\φ' n=φ n):=λn b L=>by
   by_cases hn:n∈S++H6 j++NN
   .rcases (memW n).1 hn with ⟨⟨nx,hi,e⟩,N⟩|hs
    .rw[F_g n hn]at L;have e2:=ungam g n nx e;have ho:ow (ji nx (ix n))<nq:=by rw[iF];exact hi
     let⟨yb,q1,q2⟩:=er2' (ji nx (ix n)) ho b (by rw[<- e2];exact L);exact .inl ⟨ji nx (ix n),yb,ho,by rw[vN];exact N,e2,q1,q2⟩
    .obtain⟨nx,rfl,hi⟩:=o7.1 hs;have:F (nm nx)=erHF h2 (nm nx):=by simp only[F,eZ,hn,bh]
     rw[this,dead2 nx hi]at L;cases L
   .rw[F_out n hn]at L;have h1:n∉S++H6 j:=λhh=>hn (fW _ hh)
    have h3:n∉NN:=λhh=>hn (ux _ hh)
    exact .inr ⟨L,by rw[Hv_out n h1];exact L,λhh=>h1 (fW _ hh),h3,φ'_old n h3⟩
  have own':∀k,own φ' F k->own φc' (erHF hq) k\/∃n b,Hv n=Z b/\n∉S/\φ n=Z k:=by
   rintro k ⟨n,b,h1,h3⟩;rcases from_ n b h1 with ⟨nx,yb,hi,N,rfl,q1,_⟩|⟨_,q2,q3,_,q5⟩
   .rw[φ'_g nx hi N]at h3;exact .inl ⟨nx,yb,q1,h3⟩
   .exact .inr ⟨n,b,q2,q3,by rw[<- q5];exact h3⟩
  have mv:jT φ φ' h' F w w':=by
   refine ⟨hsub,hext.mono λk N=>hd.own (T.qr k N),λk N ho=>?_⟩;rcases own' k ho with h1|⟨n,b,h1,_,h3⟩
   .exact hd.own (T.qr k (hown k N h1))
   .exact hd.own ⟨n,b,h1,h3⟩
  have tot':∀k,tot E φ' F k->tot E' φc' (erHF hq) k:=by
   rintro k (h1|h1)
   .exact .inl (.inl h1)
   .rcases own' k h1 with h3|h3
    .exact .inr h3
    .exact .inl (.inr h3)
  let φr:PM:=λn=>if Ps nq n&&W6 la n then φc' n else U
  have rel_r:∀x v,x.all (λn=>Ps nq n&&W6 la n)=J->co φc' (tot E' φc' (erHF hq)) w' x v->co φr (tot E φ' F) w' x v:=λx v hx hr=>
   hr.restrict (λnx k hi N=>by simp only[φr,hi,bh];exact N) tot' hx
  have rel_g:∀x v,co φr (tot E φ' F) w' x v->co φ' (tot E φ' F) w' (x.qx (py g)) v:=λx v hr=>
   hr.renTo λn k N=>by
    simp only[φr]at N;split at N
    next hpn=>simp only[al]at hpn;rw[φ'_g n (EL.1 hpn.1) (aV hpn.2)];exact N
    .cases N
  have hnqJ:=hnq;refine ⟨v,φ',rfl,mv,λn k N=>?_,?_,?_⟩
  .by_cases hn:n∈NN
   .exact .inr hn
   .rw[φ'_old n hn]at N;exact .inl N
  .refine ⟨λn n' b b' k h1 h3 h4 h5=>?_,λn b h1=>?_,λk N=>dw (hrep.el k N) mv.ext.size,λg' cells hg=>mv.keepF (hrep.gl g' cells hg)⟩
   .rcases from_ n b h1 with ⟨nx,yb,hi,hik,rfl,hqi,_⟩|⟨q1,q2,q3,_,q5⟩
    .rw[φ'_g nx hi hik]at h4;rcases from_ n' b' h3 with ⟨m,yj,hj,hjk,rfl,t1,_⟩|⟨t1,t2,t3,_,t5⟩
     .rw[φ'_g m hj hjk]at h5;rw[rp.inj _ _ _ _ k hqi t1 h4 h5]
     .exfalso;let⟨k',p1,p2,_⟩:=rp.at_ _ _ hqi;rw[h4]at p1;cases p1;exact p2 (.inr ⟨n',b',t2,t3,by rw[<- t5];exact h5⟩)
    .rcases from_ n' b' h3 with ⟨m,yj,hj,hjk,rfl,hqj,_⟩|⟨t1,t2,t3,_,t5⟩
     .exfalso;rw[φ'_g m hj hjk]at h5;let⟨k',p1,p2,_⟩:=rp.at_ _ _ hqj;rw[h5]at p1;cases p1;exact p2 (.inr ⟨n,b,q2,q3,by rw[<- q5];exact h4⟩)
     .exact hrep.inj n n' b b' k q1 t1 (by rw[<- q5];exact h4) (by rw[<- t5];exact h5)
   .rcases from_ n b h1 with ⟨nx,yb,hi,hik,rfl,hqi,rfl⟩|⟨q1,q2,q3,_,q5⟩
    .obtain⟨k,p1,p2,ob,p3,p4⟩:=rp.at_ _ _ hqi;have hall:=(D.erHF hqi).2;rw[hnq]at hall;have hall2:=BC.all_and hall (BC.all_ix (show B2<=la by omega) (hB2 nx yb hqi).2);exact⟨k,by rw[φ'_g nx hi hik];exact p1,λhE=>p2 (.inl hE),ob,p3,(p4.restrict rel_r hall2).renTo rel_g⟩
    .obtain⟨k,p1,p2,ob,p3,p4⟩:=hrep.at_ n b q1;have N:k<w.heap.size:=(c7.1 p3).1;refine ⟨k,hsub n k p1,p2,ob,?_,p4.mono λx v hr=>mv.zq hr⟩;rw[hext.jf k N ?_]
     .exact p3
     .rintro⟨n',y',t1,t2⟩;let⟨hi,t3⟩:=yS t2;rw[hnp]at hi;have hik:=(hB1 n' y' t1).1;have hvi:Hv (py (hZ σ) n')=Z (y'.qx (py (hZ σ))):=by
       let⟨bb,t4,t5⟩:=iK t1;rw[Hv_in _ (fW _ (gamS n' hi (by omega)))];unfold erHF;rw[xi,zA,hv_at _ bb ((I.at_ _ bb).1 t4)];exact Cm rows_hp t5
      have:=hrepv.inj _ _ _ _ k hvi q2 t3 p1;exact q3 (by rw[<- this];exact gamS n' hi (by omega))
  .have hall:(Ev lr).all (λn=>Ps nq n&&W6 la n)=J:=AV.all_and _ (S8 (by have:=tf rs lr D.lt hlr;rwa [hnq]at this)) (S8 (AV.allL_ix (by omega) lr hB5));show co φ' (tot E φ' F) w' (Ev (AV.renL (py g) lr)) v;rw[aes];exact rel_g _ _ (rel_r _ _ hall rv')
 have hrsg:cI h2 (k_ g rs)=Z (AV.renL (py g) lr):=pZ rows_hq rs lr hlr;refine ⟨⟨_,hOpT,λz hz=>?_,?_,λn hn=>?_,λn hn=>?_,λn hn=>?_⟩,rows2,inv2,by omega,nofun⟩
 .rw[Zx hrsg]at hz;cases hz;rfl
 .funext n;unfold eZ;split
  .rfl
  .rename_i hn;by_cases hg:∃nx,nx<nq/\ow n=g nx
   .have hB:¬ix n<=la:=λN=>hn ((memW _).2 (.inl ⟨hg,N⟩))
    have n1:∀H:aX,(∀y,erHF H n=Z y->ix n<=la)->erHF H n=U:=λH hH=>by
     cases hx:erHF H n with
     |none=>rfl
     |some y=>exact b8 (hH y hx) hB
    rw[n1 h λy hy=>c4 (hB3 n y hy).1 (by omega),n1 h2 λy hy=>c4 (hB4 n y hy).1 (by omega)]
   .have hg2:=h2_ne (ow n) λnx hi e=>hg ⟨nx,hi,e⟩
    unfold erHF;rw[hg2,iI];split
    .rename_i L;let⟨ty,p,T,xs,hx⟩:=hmr _ L;rw[hx];cases N:ix n with
     |zero=>exact b8 ((memW _).2 (.inr (by rw[pi N];exact mC.2 L))) hn
     |succ k=>rfl
    .cases hx:h.get (ow n) with
     |none=>rfl
     |some b=>exact (md rows2 (λty r e=>hinv.C _ _ r (by rw[hx,e])) _ _).symm
 .rw[bu];rcases bA.1 hn with hs|hs
  .obtain⟨⟨nx,hi,e⟩,_⟩:=(memS n).1 hs;rw[(sig _).2 ⟨nx,hi,e.symm⟩];rfl
  .obtain⟨nx,rfl,hi⟩:=o7.1 hs;rw[c8,hi];simp
 .rw[bu,bu];rcases bA.1 hn with hs|hs
  .rcases bA.1 hs with hs|hs
   .obtain⟨⟨nx,hi,e⟩,_⟩:=(memS n).1 hs;rw[(sig _).2 ⟨nx,hi,e.symm⟩];rfl
   .obtain⟨nx,rfl,hi⟩:=o7.1 hs;rw[c8,hi];simp
  .obtain⟨⟨t,ht,e⟩,_⟩:=(GH n).1 hs;rw[akb.2 ⟨by omega,by omega⟩];simp
 .obtain⟨⟨t,ht,e⟩,_⟩:=(GH n).1 hn;omega
def Ch {S:Ty} {xs:Y (BX S)} (z:fe a (l! xs)=J):xs[a.toNat]? =Z (dH _ xs a):=by
 let⟨_,_,h⟩:=mG z;unfold dH
 grind
def TD {xss:Y (Y T.den)} (z:fe a (l! xss)=J):xss[a.toNat]? =Z (qY xss a):=by
 let⟨_,_,h⟩:=mG z;unfold qY
 grind
variable {z:η}
def Uf (A:fe a (l! z)=J):z[a.toNat]? =Z (sw z a):=by
 let⟨_,_,h⟩:=mG A;unfold sw
 grind
def CD (id:Nat) (S:Ty) (j:Int) (o:BX S):Y AV:=(bI S o.1).map .f++[.mp (ji id (3*j.toNat+2)),.mp (ji id (3*j.toNat+3))]
def and {xs:Y (BX T)} (A:h.get i=Z (.I (.ar s T) j xs)) {a:Int} (z:fe a (l! xs)=J):erHF h (pB i a)=Z ⟨s,.mx (CD i T a (dH _ xs a))⟩:=by
 unfold pB;rw[kJ,A];show qT i (3*a.toNat) s T xs=_;unfold qT;rw[show 3*a.toNat/3=a.toNat from by omega,Ch z];simp only[bn,vY];rw[aD (by omega)];rfl
def anc {xs:Y (BX T)} (A:h.get i=Z (.I (.ar s T) j xs)) {a:Int} (z:fe a (l! xs)=J) {b:Nat} (L:b<2):erHF h (ji i (3*a.toNat+2+b))=Z ⟨0,.mp (GJ (sE b (dH _ xs a)))⟩:=by
 rw[show 3*a.toNat+2+b=3*a.toNat+1+b+1 from by omega,kJ,A];show qT i (3*a.toNat+1+b) s T xs=_;unfold qT;rw[show (3*a.toNat+1+b)/3=a.toNat from by omega,Ch z];simp[bn,vY];rw[av (by omega)];rcases bG b 1 with D|D
 .have:b=0:=by omega
  subst this;rw[aD (by omega)];rfl
 .have:b=1:=by omega
  subst this;rw[av (by omega)];rfl
def Z1 {xss:Y (Y T.den)} (A:h.get i=Z (.I (.ir s T) j xss)) {a:Int} (z:fe a (l! xss)=J) (D:l! (qY xss a)≠0):erHF h (ji i (a.toNat+1))=Z ⟨s,.fz ((qY xss a).flatMap (bI T))⟩:=by
 rw[kJ,A];show qS a.toNat s T xss=_;unfold qS;rw[TD z];simp[aC,Yh]
 grind
def xQ (a sz:Nat):∀(z:η) (k j:Nat),(lI a sz k z)[j]? =(z[j]?).map λl=>uh a (k+j) sz l.toNat
 |[],_,_|l::r,k,0=>by simp[lI]
 |l::r,k,j+1=>by
  simp[lI,ms,xQ a sz r (k+1) j]
  grind
abbrev i2:Y TypeDesc:=[.int .i64,.int .i64]
def Ri {b:Int} (z:age u=Z (a,b)) (D:bZ h u=Z y):abm i2 y=Z [.int .i64 a,.int .i64 b]:=by
 unfold age at z;split at z
 .cases z
 .split at z
  .rename_i N b' L;simp[af,aP]at z;obtain⟨rfl,rfl⟩:=z;have h1:=(I1 L D).1;simp[cI,bZ,af]at h1;have A:y.cs=[.f (.raw (.int .i64 N)),.f (.raw (.int .i64 b'))]:=h1.symm;cases y with
   |agg l=>
    subst A;rfl
   |f x=>
    cases x with
    |agg l=>
     cases l with
     |nil=>cases A
     |cons v l=>
      cases l with
      |nil=>cases A
      |cons w l=>
       cases l with
       |nil=>cases A;rfl
       |cons _ _=>cases A
    |_=>cases A
   |_=>cases A
  .cases z
def DM (k z:ν):C7 i2 [.int .i64 k.1,.int .i64 k.2] (abo z)=Z (GY k z):=by
 unfold C7 abo GY;simp[bY,wJ,jE,vZ,cr,bh]
 grind
def Tn (a:Nat) (k:ν):∀es:Y d?,HX i2 [.int .i64 k.1,.int .i64 k.2] (wy a es)=Z (match kn k es with|true=>Z (.H (pB a (dc k es)) 0)|false=>U)
 |[]=>rfl
 |e::r=>by
  have z:=Tn a k r;unfold wy at z ⊢;simp[bY,HX,DM,kn,dc];cases A:GY k e.1 with
  |true=>rfl
  |false=>simp[Bool.false_or];exact z
def Zv (a:Nat) (k:ν):∀es:Y d?,Xt i2 [.int .i64 k.1,.int .i64 k.2] (wy a es)=Z (wy a (xT k es))
 |[]=>rfl
 |e::r=>by
  have z:=Zv a k r;unfold wy at z ⊢;simp[bY,Xt,DM,xT];cases A:GY k e.1 with
  |true=>rfl
  |false=>simp only[z];rfl
def Ka {k z:ν}:GY k z=J↔k=z:=by
 unfold GY
 grind
def Zu (a:Nat) (k:ν) (v:AV):∀es:Y d?,Xs i2 [.int .i64 k.1,.int .i64 k.2] v (wy a es)=Z (Ma a k v es)
 |[]=>rfl
 |e::r=>by
  have A:=Zu a k v r;unfold wy at A ⊢;simp[bY,Xs,DM,Ma];cases z:GY k e.1 with
  |true=>rw[aD (Ka.1 z)];rfl
  |false=>rw[av (λh=>by rw[Ka.2 h]at z;cases z)];simp[A]
section ops
variable {R:Type} {P:Program} {b9:TypeId->M Ty} {o:Oper} {e:gT} {h:aX} {nx:Nat} {K:KO R} {r:R} (hinv:gM h nx) (hi:sB e h)
include hinv hi
def arv {st:Bool} (L:cO P o.op=Z (.zl b c)) (A:pu b9 e h nx K (.zl b c)=Z r):iO P o st e h nx K r:=by
 simp[pu]at A;split at A
 next D=>let⟨y,h1,z⟩:=a_ hi D;simp[bZ,Jx,af]at z;subst z;exact iO.q (k:=0) hinv L (λH _=>by simp[dx,h1];rfl) (cM rfl) A
 next D=>let⟨y,h1,z⟩:=a_ hi D;simp[bZ,af]at z;subst z;exact iO.q (k:=0) hinv L (λH _=>by simp[dx,h1];rfl) (cM rfl) A
 next D=>let⟨y,h1,z⟩:=a_ hi D;simp[bZ,af]at z;subst z;exact iO.q (k:=0) hinv L (λH _=>by simp[dx,h1];rfl) (cM rfl) A
 .cases A
def ars (N:cO P o.op=Z (.zh c)) (D:pu b9 e h nx K (.zh c)=Z r):iO P o b e h nx K r:=by
 simp[pu]at D;split at D
 next L=>let⟨y,h1,A⟩:=a_ hi L;have z:=A;simp[bZ,Jx,af]at A;subst A;exact iO.q (k:=0) hinv N (λH _=>by simp[dx,h1]) (cM z) D
 next L=>let⟨y,h1,A⟩:=a_ hi L;have z:=A;simp[bZ,Jx,af]at A;subst A;exact iO.q (k:=0) hinv N (λH _=>by simp[dx,h1]) (cM z) D
 .cases D
def avj (L:cO P o.op=Z (.jg i c)) (z:pu b9 e h nx K (.jg i c)=Z r):iO P o b e h nx K r:=by
 simp[pu]at z;split at z
 next D=>let⟨y,h1,A⟩:=a_ hi D;simp[bZ,Jx,af]at A;subst A;exact iO.q (k:=0) hinv L (λH _=>by simp[dx,h1,Jx]) (cM rfl) z
 next D=>let⟨y,h1,A⟩:=a_ hi D;simp[bZ,Jx,af]at A;subst A;exact iO.q (k:=0) hinv L (λH _=>by simp[dx,h1,Jx,qH]) (cM rfl) z
 .cases z
def aru (hc:cO P o.op=Z (.load i b c)) (A:pu b9 e h nx K (.load i b c)=Z r):iO P o aa e h nx K r:=by
 obtain⟨H,N⟩:=gu h;simp only[pu]at A;split at A
 .rename_i id j off hv;obtain⟨y,h1,h2⟩:=a_ hi hv;simp only[bZ,Jx,af]at h2;subst h2;split at A
  .rename_i ty S a xs hb;have L:=cF A;clear A;obtain⟨hj,A⟩:=L;have hg:H.get (pB id j)=Z ⟨ty,.mx (CD id S j (dH S xs j))⟩:=by rw[N];exact and hb hj
   have hrd:∀n∈[pB id j],aJ (fV id) (ow n)=J:=λn hn=>by
    simp only[aB]at hn;subst hn;unfold pB;rw[iF];exact bj.2 rfl
   split at A
   .cases A
   .rename_i hag;have hag:b=aa:=by grind
    subst hag;have sub1:∀y,(CD id S j (dH S xs j))[off]? =Z y->(BC.mx (CD id S j (dH S xs j))).sub? off 1 aa=Z y:=λy hy=>hy
    split at A
    .rename_i ho;split at A
     .rename_i v hv2;obtain⟨p1,z,p2,p3,_⟩:=tV h 40 S _ off i aa v hv2;obtain⟨rfl,p5⟩:=p3 rfl;have D:=sub1 (.f z) (by
       unfold CD;rw[bC (by grind),bz,p5];rfl)
      exact⟨_,_,_,_,_,A,eK.pure (k:=0) hinv hc N (y0:=.f z) (rdl:=[pB id j]) (by simp only[dx,h1,xc,hg,D]) (cM p2) hrd nofun⟩
     .cases A
    .rename_i ho;split at A
     .rename_i hq;simp only[al]at hq;have q1:=au hq.1;have q2:=aV hq.2;subst q1;have ho:S.size<=off:=by simp_all
      have D:=sub1 (.mp (ji id (3*j.toNat+2+(off-S.size)))) (by
       unfold CD;rw[bS (by rw[b_,bk];exact ho),b_,bk];rcases bG (off-S.size) 1 with h3|h3
       .grind
       .rw[show off-S.size=1 from by omega];rfl)
      exact⟨_,_,_,_,_,A,eK.pure (k:=0) hinv hc N (y0:=.mp (ji id (3*j.toNat+2+(off-S.size)))) (rdl:=[pB id j]) (by simp only[dx,h1,xc,hg,D]) (cM rfl) hrd nofun⟩
     .cases A
  .cases A
 .rename_i id j s sz off hv;obtain⟨y,h1,h2⟩:=a_ hi hv;simp only[bZ,Jx,af]at h2;subst h2;split at A
  .rename_i ty T a xss hb;split at A
   .rename_i D;have D:=au D;subst D;obtain⟨hj,A⟩:=cF A;obtain⟨hji,A⟩:=cF A;split at A
    .rename_i v hv2;obtain⟨z,p1,p2⟩:=aex hji hv2;have hne:l! (qY (T:=T) xss j)≠0:=by have:=(mG hji).2.2;omega
     have hg:H.get (ji id (j.toNat+1))=Z ⟨ty,.fz ((qY (T:=T) xss j).flatMap (bI T))⟩:=by rw[N];exact Z1 hb hj hne
     exact⟨_,_,_,_,_,A,eK.pure (k:=0) hinv hc N (y0:=.f z) (rdl:=[ji id (j.toNat+1)]) (by simp only[dx,h1,xc,hg,p2]) (cM p1) (λn hn=>by
      simp only[aB]at hn;subst hn;rw[iF];exact bj.2 rfl) nofun⟩
    .cases A
   .cases A
  .cases A
 .rename_i id s j off hv;obtain⟨y,h1,h2⟩:=a_ hi hv;simp only[bZ,af]at h2;subst h2;split at A
  .rename_i hq;simp only[al,cS]at hq;obtain⟨⟨q1,q2⟩,q3,q4⟩:=hq;have q1:=au q1;have q3:=au q3;have q4:=au q4;subst q1 q2 q3 q4;have hrd:∀n∈[nm id],aJ (fV id) (ow n)=J:=λn hn=>by
    simp only[aB]at hn;subst hn;rw[c8];exact bj.2 rfl
   split at A
   .rename_i ty a js hb;have L:=cF A;clear A;obtain⟨hj,A⟩:=L;have hlen:ah (α:=Int) js≠0:=by have:=(mG hj).2.2;omega
    have hg:H.get (nm id)=Z ⟨ty,.mx (fX (λj=>.H (pB a j) 0) js)⟩:=by
     rw[N,bE,hb];simp only[aC,jJ,tX]
     grind
    have D:(BC.mx (fX (λj=>AV.H (pB a j) 0) js)).sub? (j.toNat*1+0) 1 aa=Z (.H (pB a (sw js j)) 0):=by
     simp only[BC.sub?,BC.get,Gi,cW];exact (bz (f:=λj:Int=>AV.H (pB a j) 0) (l:=js) (i:=j.toNat)).trans (eW (hX λj=>AV.H (pB a j) 0) (Uf hj))
    exact⟨_,_,_,_,_,A,eK.pure (k:=0) hinv hc N (y0:=.H (pB a (sw js j)) 0) (rdl:=[nm id]) (by simp only[dx,h1,xc,hg,D]) (cM rfl) hrd nofun⟩
   .rename_i ty z a ls hb;have L:=cF A;clear A;obtain⟨hj,A⟩:=L;have hg:H.get (nm id)=Z ⟨ty,.mx (lI a z 0 ls)⟩:=by
     rw[N,bE,hb];rfl
    have D:(BC.mx (lI a z 0 ls)).sub? (j.toNat*1+0) 1 aa=Z (uh a j.toNat z (sw ls j).toNat):=by
     simp only[BC.sub?,BC.get,Gi,cW];have:=xQ a z ls 0 j.toNat;rw[bT]at this;refine this.trans ?_;exact eW (hX λl:Int=>uh a j.toNat z l.toNat) (Uf hj)
    exact⟨_,_,_,_,_,A,eK.pure (k:=0) hinv hc N (y0:=uh a j.toNat z (sw ls j).toNat) (rdl:=[nm id]) (by simp only[dx,h1,xc,hg,D]) (cM rfl) hrd nofun⟩
   .cases A
  .cases A
 .cases A
def avi {sz:Operand} (hc:cO P o.op=Z (.jk i c sz)) (z:pu b9 e h nx K (.jk i c sz)=Z r):iO P o b e h nx K r:=by
 simp only[pu]at z;split at z
 .rename_i id k j hv L;split at z
  .rename_i p s n hr;split at z
   .rename_i D;simp only[al]at D;have D:=au D.1;let⟨A,z⟩:=cF z;let⟨y,h1,h2⟩:=a_ hi hv;let⟨y2,h3,h4⟩:=a_ hi L;simp[bZ,af]at h4;subst h4;let⟨j0,j1,j2⟩:=mG A;have hne:¬((p&&n==0)=J):=by grind
    simp only[bZ,hr,dt,av hne,af]at h2;subst h2;have N:(s==i&&dm 0 j&&fK j n)=J:=by
     simp[fe,al]at A;simp[D,A.1,A.2]
    exact iO.q (k:=0) hinv hc (λH _=>by simp[dx,h1,h3,fM,N,bh,cW]) (cM rfl) z
   .cases z
  .cases z
 .rename_i id j s n k i' hv L;split at z
  .rename_i D;have D:=au D;let⟨A,z⟩:=cF z;let⟨y,h1,h2⟩:=a_ hi hv;let⟨y2,h3,h4⟩:=a_ hi L;simp[bZ,af]at h4;subst h4;let⟨j0,j1,j2⟩:=mG A;have hne:¬((n==0)=J):=by grind
   simp only[bZ,Jx,uh,av hne,af]at h2;subst h2;have N:(s==i&&dm 0 i'&&fK i' n)=J:=by
    simp[fe,al]at A;simp[D,A.1,A.2]
   exact iO.q (k:=0) hinv hc (λH _=>by simp[dx,h1,h3,fM,N,bh,Jx,cW]) (cM rfl) z
  .cases z
 .cases z
def avg {ok:Bool} {k:Operand} (hc:cO P o.op=Z (.jy b ok v c k)) (A:pu b9 e h nx K (.jy b ok v c k)=Z r):iO P o aa e h nx K r:=by
 let⟨H,hH⟩:=gu h;simp only[pu]at A;split at A
 .rename_i id j str D hv N;split at A
  .rename_i ty S a xs zb hb;split at A
   .rename_i hq;simp only[al,cS]at hq;let⟨q1,L⟩:=hq;subst q1;have L:=aV L;have hk0:=cF A;let⟨hj,A⟩:=hk0;let⟨y,h1,h2⟩:=a_ hi hv;let⟨y2,h3,h4⟩:=a_ hi N;simp[bZ,Jx,af]at h2 h4;subst h2 h4;generalize hm:sE str (dH S xs j)=m at A;have hg:H.get (ji id (3*j.toNat+2+str))=Z ⟨0,.mp (GJ m)⟩:=by rw[hH,<-hm];exact anc hb hj L
    have hf:te (.int .i64 D) (GJ m)=Z ((Ac (K:=.int .i64) (V:=.bool) D m).map λz=>.f (.raw (.bool z))):=K7 (str:=aa) (K:=.int .i64) (V:=.bool) rfl D m;have henc:fM (.int .i64) D= .raw (.int .i64 D):=rfl;rw[henc]at h3;refine ⟨_,_,_,_,_,A,eK.pure (k:=0) hinv hc hH (y0:=pkV ok (.f (.raw (.bool (wN (K:=.int .i64) (V:=.bool) D m zb)))) (abk (K:=.int .i64) (V:=.bool) D m)) (rdl:=[ji id (3*j.toNat+2+str)]) ?_ (λy hy=>by rw[afp (y:=.f (.raw (.bool (wN (K:=.int .i64) (V:=.bool) D m zb)))) rfl]at hy;cases hy;exact Le.refl _) (λn hn=>by
     simp[aB]at hn;subst hn;rw[iF];exact bj.2 rfl) nofun⟩
    simp[dx,h1,h3,hg,yd,bh,hf];unfold wN abk;cases hfm:Ac (K:=.int .i64) (V:=.bool) D m with
    |_=>rfl
   .cases A
  .cases A
 .cases A
def avh {k:Operand} (hc:cO P o.op=Z (.lkq i2 v c k)) (A:pu b9 e h nx K (.lkq i2 v c k)=Z r):iO P o aa e h nx K r:=by
 let⟨H,N⟩:=gu h;simp[pu]at A;split at A
 .rename_i id kv hv hkv;let⟨tk,D,hkk⟩:=bind_some hkv;let⟨ka,kb⟩:=kv;split at A
  .rename_i a es hb;let⟨y,h1,h2⟩:=a_ hi hv;let⟨y2,h3,h4⟩:=a_ hi D;simp[bZ,af]at h2;subst h2;have hq:=Ri hkk h4;have hg:H.get (nm id)=Z ⟨0,.mp (wy a es)⟩:=by rw[N,bE,hb];rfl
   have hf:=Tn a (ka,kb) es;have hrd:∀n∈[nm id],aJ (fV id) (ow n)=J:=λn hn=>by
    simp[aB]at hn;subst hn;rw[c8];exact bj.2 rfl
   rcases lF A with ⟨hh,A⟩|⟨hh,A⟩
   .rw[hh]at hf;exact⟨_,_,_,_,_,A,eK.pure (k:=0) hinv hc N (y0:=.H (pB a (dc (ka,kb) es)) 0) (rdl:=[nm id]) (by simp[dx,h1,h3,aC,hq,hg,hf]) (cM rfl) hrd nofun⟩
   .rw[hh]at hf;exact⟨_,_,_,_,_,A,eK.pure (k:=0) hinv hc N (y0:=raw (.pointer U)) (rdl:=[nm id]) (by simp[dx,h1,h3,aC,hq,hg,hf]) (cM rfl) hrd nofun⟩
  .cases A
 .cases A
def avk {k:Operand} (hc:cO P o.op=Z (.dlq i2 c k)) (z:pu b9 e h nx K (.dlq i2 c k)=Z r):iO P o aa e h nx K r:=by
 let⟨H,hH⟩:=gu h;simp only[pu]at z;split at z
 .rename_i id kv hv hkv;let⟨tk,A,hkk⟩:=bind_some hkv;let⟨N,L⟩:=kv;split at z
  .rename_i a es hb;let⟨y,h1,h2⟩:=a_ hi hv;let⟨y2,h3,h4⟩:=a_ hi A;simp[bZ,af]at h2;subst h2;have hq:=Ri hkk h4;have hg:H.get (nm id)=Z ⟨0,.mp (wy a es)⟩:=by rw[hH,bE,hb];rfl
   have hf:=Zv a (N,L) es;have hrd:∀n∈[nm id],aJ (fV id) (ow n)=J:=λn hn=>by
    simp[aB]at hn;subst hn;rw[c8];exact bj.2 rfl
   refine ⟨_,_,_,_,_,z,eK.wrt (m:=0) (v:=.qg []) (rd:=fV id) (k:=0) (y0:=.qg []) (rdl:=[nm id]) (b0:=⟨0,.mp (wy a (xT (N,L) es))⟩) hinv hc hH (by simp[dx,h1,h3,aC,hq,hg,hf]) hb (dA.zero h) (by simp) rfl (λ_ _ he=>by cases he) (λH1 H2 d g b' D=>?_) (λH1 H2 y d g hy=>?_) hrd⟩
   .cases D;exact fD.refl d _
   .simp[bZ,cI,af]at hy;subst hy;exact jV.refl d _
  .cases z
 .cases z
def avf {k v:Operand} (hc:cO P o.op=Z (.mpq i2 c k v)) (z:pu b9 e h nx K (.mpq i2 c k v)=Z r):iO P o aa e h nx K r:=by
 let⟨H,hH⟩:=gu h;simp only[pu]at z;split at z
 .rename_i id kv p hv hkv hvp;let⟨tk,A,hkk⟩:=bind_some hkv;let⟨N,L⟩:=kv;split at z
  .rename_i a es hb;let⟨y,h1,h2⟩:=a_ hi hv;let⟨y2,h3,h4⟩:=a_ hi A;let⟨y3,h5,h6⟩:=a_ hi hvp;simp[bZ,af]at h2 h6;subst h2 h6;have hq:=Ri hkk h4;have hg:H.get (nm id)=Z ⟨0,.mp (wy a es)⟩:=by rw[hH,bE,hb];rfl
   have hf:=Zu a (N,L) (.H (nm p) 0) es;have hrd:∀n∈[nm id],aJ (fV id) (ow n)=J:=λn hn=>by
    simp[aB]at hn;subst hn;rw[c8];exact bj.2 rfl
   refine ⟨_,_,_,_,_,z,eK.wrt (m:=0) (v:=.undef) (rd:=fV id) (k:=0) (y0:=raw undef) (rdl:=[nm id]) (b0:=⟨0,.mp (Ma a (N,L) (.H (nm p) 0) es)⟩) hinv hc hH (by simp[dx,h1,h3,h5,aC,hq,hg,hf]) hb (dA.zero h) (by simp) rfl (λ_ _ he=>by cases he) (λH1 H2 d g b' D=>?_) (λH1 H2 y d g hy=>?_) hrd⟩
   .cases D;exact fD.refl d _
   .simp[bZ,af]at hy;subst hy;exact jV.refl d _
  .cases z
 .cases z
end ops
def eK.wrtM {o:Oper} {e:gT} {s:SU} (hinv:gM h i) (hc:cO P o.op=Z s) {H:mQ} (hH:H.get=erHF h) {km:Nat} {y0:AV} {rdl:ι} {b0:kl} {k:Nat} (ha:dx s (CS e h) H k=Z ⟨y0,rdl,[ji j (km+1)],[(ji j (km+1),b0)],[]⟩) {N B:eD} (z:h.get j=Z N) {v:TV} {rd:Nat}
 (hrow:iz B=iz N) (hB:∀ty l,B≠ .C ty l) (hB0:∀ty l,N≠ .C ty l) (hanc:∀h2,jJ h2 B=jJ h N) (hoth:∀k',k'≠km->wu j k' B=wu j k' N)
 (hblk:∀D A,rf D A->∀b',wu j km B=Z b'->fD D A b0 b')
 (hval:∀D A y,rf D A->bZ (h.set j (Z B)) v=Z y->jV D A y0 y)
 (hrd:∀n∈rdl,aJ rd (ow n)=J):eK P o aa e h i v rd (0|||fV j) (h.set j (Z B)) i:=by
 have L:bV h (h.set j (Z B)):=bV.set λr L=>by rw[bw,z]at L;rw[hrow];exact L
 refine eK.mk' hc hH ha [ji j (km+1)] (λnx hi=>hi) (λn hn=>?_) (λnx hi b' hb'=>⟨b0,by rw[aD hi];simp[aB]at hi;subst hi;exact eH _ _⟩) (λD A d hw1 _ hw2=>⟨λnx hi b b' hb hb2=>?_,λy hy=>hval D A y d hy⟩) hrd (λn hn=>?_) (by simp) L (hinv.set L (hinv.low j N z) (bO _) λty l he=>b8 he (hB ty l)) (bO _)
 .by_cases ho:ow n=j
  .unfold erHF;rw[ho,PT.get_set,aD rfl,z];cases hk:ix n with
   |zero=>exact hanc _
   |succ k'=>
    refine hoth k' λe=>hn ?_
    rw[<- kN n,ho,hk,e];simp
  .unfold erHF;rw[PT.get_set,av ho];cases hx:h.get (ow n) with
   |none=>rfl
   |some b=>exact md L (λty l e=>hinv.C _ _ l (by rw[hx,e])) _ _
 .simp[aB]at hi;subst hi;rw[hw1 _ (by simp),eH]at hb;rw[hw2 _ (by simp),kJ,PT.get_set,aD rfl]at hb2
  grind
 .simp[aB]at hn;subst hn;rw[iF,wd];exact bj.2 rfl
def PU {xs:Y (BX T)} {n:Nat} {A:BX T} (hf:∀o,xs[n]? =Z o->j/3=n->vY i j s T A=vY i j s T o):qT i j s T (xs.set n A)=qT i j s T xs:=by
 unfold qT
 grind
def U1 {xs:Y (BX T)} {n:Nat} {A:BX T} (D:j/3=n) (L:n<l! xs):qT i j s T (xs.set n A)=Z (vY i j s T A):=by
 unfold qT
 grind
def Hf {ty:TypeId} {xss:Y (Y T.den)} {xs:Y T.den} (A:i≠j):qS i ty T (xss.set j xs)=qS i ty T xss:=by
 unfold qS
 grind
def L6 {ty:TypeId} {xss:Y (Y T.den)} {xs:Y T.den} (z:i<l! xss):qS i ty T (xss.set i xs)=Yh ty T xs:=by
 unfold qS
 grind
def Sm (h:dY i j=J):i<j:=aV h
def ag9 {c:Nat} (h:i=j) (z:c<j):c<i:=by omega
def kZ (a sz:Nat):∀(z:η) (k:Nat),l! (lI a sz k z)=l! z
 |[],_=>rfl
 |l::r,k=>by simp[lI,bK,kZ a sz r]
def Tx {z:HF} (d:rf A z):∀n,gF A z ((repl [.slice U 0 0] n).map .f) (aF n .emp)
 |0=>trivial
 |n+1=>⟨Le.nilEmp.toH d,Tx d n⟩
section ops
variable {R:Type} {P:Program} {b9:TypeId->M Ty} {o:Oper} {e:gT} {h:aX} {nx:Nat} {K:KO R} {r:R} (hinv:gM h nx) (hi:sB e h)
include hinv hi
def ave {k v:Operand} (hc:cO P o.op=Z (.jv b c k v)) (A:pu b9 e h nx K (.jv b c k v)=Z r):iO P o aa e h nx K r:=by
 let⟨H,hH⟩:=gu h;simp only[pu]at A;split at A
 .rename_i id j str L D hv hv2 hv3;split at A
  .rename_i ty S a xs hb;split at A
   .rename_i hq;simp only[al,cS]at hq;let⟨q1,q2⟩:=hq;subst q1;have q2:=Sm q2;have hk0:=cF A;let⟨hj,A⟩:=hk0;let⟨y,h1,h2⟩:=a_ hi hv;let⟨y2,h3,h4⟩:=a_ hi hv2;let⟨y3,h5,h6⟩:=a_ hi hv3;simp[bZ,Jx,af]at h2 h4 h6;subst h2 h4 h6;have e1:3*j.toNat+2+str=3*j.toNat+1+str+1:=by omega
    let⟨_,_,hjl⟩:=mG hj;have hg:H.get (ji id (3*j.toNat+2+str))=Z ⟨0,.mp (GJ (sE str (dH S xs j)))⟩:=by rw[hH];exact anc hb hj q2
    rw[e1]at h1 hg;have hf:zu (.int .i64 L) (.f (.raw (.bool D))) (GJ (sE str (dH S xs j)))=Z (GJ (uk (K:=.int .i64) (V:=.bool) L D (sE str (dH S xs j)))):=Rb (str:=aa) (K:=.int .i64) (V:=.bool) rfl L D _;have henc:fM (.int .i64) L= .raw (.int .i64 L):=rfl;have henc2:fM .bool D= .raw (.bool D):=rfl;rw[henc]at h3;rw[henc2]at h5;refine ⟨_,_,_,_,_,A,eK.wrtM (km:=3*j.toNat+1+str) (v:=.undef) (rd:=fV id) (k:=0) (y0:=raw undef) (rdl:=[ji id (3*j.toNat+1+str+1)]) (b0:=⟨0,.mp (GJ (uk (K:=.int .i64) (V:=.bool) L D (sE str (dH S xs j))))⟩) hinv hc hH (by simp[dx,h1,h3,h5,hg,yd,bh,hf]) hb rfl (λ_ _ he=>by cases he) (λ_ _ he=>by cases he) (λ_=>rfl) (λk' hk'=>?_) (λH1 H2 d b' z=>?_) (λH1 H2 y d hy=>?_) (λn hn=>?_)⟩
    .refine PU λo' N hn=>?_
     rw[Ch (S:=S) hj,af]at N;subst N;unfold vY;by_cases m0:k'%3=0
     .rw[aD m0,aD m0];cases str<;>rfl
     .rw[av m0,av m0];by_cases m1:k'%3=1
      .rw[aD m1,aD m1];cases str with
       |zero=>exact b8 (by omega) hk'
       |succ str=>rfl
      .rw[av m1,av m1];cases str with
       |zero=>rfl
       |succ str=>exact b8 (by omega) hk'
    .have z:qT id (3*j.toNat+1+str) ty S (pR xs j.toNat (vx str (dH S xs j) (uk (K:=.int .i64) (V:=.bool) L D (sE str (dH S xs j)))))=Z b':=z;rw[U1 (by omega) hjl]at z;have:vY id (3*j.toNat+1+str) ty S (vx str (dH S xs j) (uk (K:=.int .i64) (V:=.bool) L D (sE str (dH S xs j))))=⟨0,.mp (GJ (uk (K:=.int .i64) (V:=.bool) L D (sE str (dH S xs j))))⟩:=by
      unfold vY;rw[av (by omega)];cases str with
      |zero=>rw[aD (by omega)];rfl
      |succ str=>rw[av (by omega)];rfl
     rw[this,af]at z;subst z;exact fD.refl d _
    .simp[bZ,af]at hy;subst hy;exact jV.refl d _
    .simp[aB]at hn;subst hn;rw[iF];exact bj.2 rfl
   .cases A
  .cases A
 .cases A
def ams {v:Operand} (hc:cO P o.op=Z (.store i c v)) (A:pu b9 e h nx K (.store i c v)=Z r):iO P o aa e h nx K r:=by
 let⟨H,hH⟩:=gu h;simp only[pu]at A;split at A
 .rename_i id j off y hv hv2;let⟨yb,h1,h2⟩:=a_ hi hv;let⟨L,h3,h4⟩:=a_ hi hv2;simp only[bZ,Jx,af]at h2;subst h2;split at A
  .rename_i ty S a xs hb;have hk0:=cF A;clear A;let⟨hj,A⟩:=hk0;let⟨_,_,hjl⟩:=mG hj;split at A
   .rename_i z m hset;split at A
    .rename_i N;have N:=au N;subst N;have hg:H.get (pB id j)=Z ⟨ty,.mx (CD id S j (dH S xs j))⟩:=by rw[hH];exact and hb hj
     have hso:∀H1 H2,rf H1 H2->Qu H1 H2 L S (dH S xs j).1 z off i:=λH1 H2 d=>tJ d h4 40 S _ off i z 0 hset Eg.zero
     have hcell:=nZ h4 40 S _ off i z 0 hset;let⟨fs0,q1,q2,q3,_,_⟩:=hso _ _ (rf.refl (erHF h));have hlen:L.cs.length=i:=by rw[<- q2,<-b_ (f:=AV.f),q1.length]
     have hput:(BC.mx (CD id S j (dH S xs j))).put off L.cs=Z (.mx (AI.splice (CD id S j (dH S xs j)) off L.cs)):=by
      unfold BC.put;rw[aD]
      .rfl
      .simp only[al];refine ⟨⟨rfl,ba ?_⟩,hcell⟩;simp only[BC.len,CD,bc,b_,bk];omega
     have ha0:dx (.store i c v) (CS e h) H 0=Z ⟨raw undef,[pB id j],[pB id j],[(pB id j,⟨ty,.mx (AI.splice (CD id S j (dH S xs j)) off L.cs)⟩)],[]⟩:=by
      simp only[dx,h1,h3,BU,hg,hlen,cr,bh,hput]
     refine ⟨_,_,_,_,_,A,eK.wrtM (km:=3*j.toNat) (v:=.undef) (rd:=fV id) hinv hc hH ha0 hb rfl (λ_ _ he=>by cases he) (λ_ _ he=>by cases he) (λ_=>rfl) (λk' hk'=>?_) (λH1 H2 d b' D=>?_) (λH1 H2 y d hy=>?_) (λn hn=>?_)⟩
     .refine PU λo' ho' hn=>?_
      rw[Ch (S:=S) hj,af]at ho';subst ho';have k0:k'%3≠0:=by omega
      unfold vY;rw[av k0,av k0]
     .have D:qT id (3*j.toNat) ty S (pR xs j.toNat (z,(dH S xs j).2))=Z b':=D;rw[U1 (by omega) hjl]at D;have:vY id (3*j.toNat) ty S (z,(dH S xs j).2)=⟨ty,.mx (CD id S j (z,(dH S xs j).2))⟩:=by
       unfold vY;rw[aD (by omega)];rfl
      rw[this,af]at D;subst D;let⟨fs,p1,p2,p3,p4,p5⟩:=hso H1 H2 d;refine fD.C rfl rfl ?_ λc hx=>?_
      .simp only[BC.toMx];have e2:CD id S j (z,(dH S xs j).2)=AI.splice (CD id S j (dH S xs j)) off (fs.map .f):=by
        unfold CD;rw[p4];unfold AI.splice;rw[sI (by rw[b_,bk];omega),List.drop_append_of_le_length (by rw[b_,b_,bk];omega)];simp[gz,yO]
       rw[e2];exact (gF.refl d _).splice _ p1
      .simp only[BC.toMx,CD,bA]at hx;rcases hx with hx|hx
       .obtain⟨q,hq,rfl⟩:=cj.1 hx;have:∀q∈([z]:Y S.den).flatMap (bI S),q.isCell=J:=mc S [z];exact this q (by simpa using hq)
       .simp only[aZ,cw,fF]at hx;rcases hx with rfl|rfl<;>rfl
     .simp only[bZ,af]at hy;subst hy;exact jV.refl d _
     .simp only[aB]at hn;subst hn;unfold pB;rw[iF];exact bj.2 rfl
    .cases A
   .cases A
  .cases A
 .rename_i id j s sz off y hv hv2;let⟨yb,h1,h2⟩:=a_ hi hv;let⟨L,h3,h4⟩:=a_ hi hv2;simp only[bZ,Jx,af]at h2;subst h2;split at A
  .rename_i ty T a xss hb;split at A
   .rename_i hs;have hs:=au hs;subst hs;let⟨hj,A⟩:=cF A;let⟨hji,A⟩:=cF A;let⟨_,_,hjl⟩:=mG hj;split at A
    .rename_i z m hset;split at A
     .rename_i N;have N:=au N;subst N;generalize hxs:qY (T:=T) xss j=xs at*
      let⟨i0,i1,i2⟩:=mG hji;have hne:xs.length≠0:=by omega
      have hg:H.get (ji id (j.toNat+1))=Z ⟨ty,.fz (xs.flatMap (bI T))⟩:=by rw[hH,<-hxs];exact Z1 hb hj (by rw[hxs];exact hne)
      have fl:=d_ (bk T) xs;have hx:xs[sz.toNat]? =Z (geti _ xs sz):=by
       unfold geti;rw[aw,aE i2];rfl
      have hle:(sz.toNat+1)*T.size<=xs.length*T.size:=cK _ i2;rw[ju]at hle;have hso:∀H1 H2,rf H1 H2->Qu H1 H2 L T (geti _ xs sz) z off i:=λH1 H2 d=>tJ d h4 40 T _ off i z 0 hset Eg.zero
      have hcell:=nZ h4 40 T _ off i z 0 hset;let⟨fs0,q1,q2,q3,_,_⟩:=hso _ _ (rf.refl (erHF h));have hlen:L.cs.length=i:=by rw[<- q2,<-b_ (f:=AV.f),q1.length]
      obtain⟨c',hput,hc1,hc2⟩:∃c',(BC.fz (xs.flatMap (bI T))).put (sz.toNat*T.size+off) L.cs=Z c'/\c'.toMx=AI.splice ((xs.flatMap (bI T)).map .f) (sz.toNat*T.size+off) L.cs/\c'.isCells=J:=by
       unfold BC.put;rw[aD]
       .split
        next l ys hl hys=>simp only[BC.fz.injEq]at hl;subst hl;refine ⟨_,rfl,?_,rfl⟩;rw[nE hys];simp only[BC.toMx];unfold AI.splice;simp[gz,yO]
        .exact⟨_,rfl,rfl,rfl⟩
       .simp only[al];exact⟨⟨rfl,ba (by simp only[BC.len];omega)⟩,hcell⟩
      have ha0:dx (.store i c v) (CS e h) H 0=Z ⟨raw undef,[ji id (j.toNat+1)],[ji id (j.toNat+1)],[(ji id (j.toNat+1),⟨ty,c'⟩)],[]⟩:=by
       simp only[dx,h1,h3,BU,hg,hlen,cr,bh,hput]
      refine ⟨_,_,_,_,_,A,eK.wrtM (km:=j.toNat) (v:=.undef) (rd:=fV id) hinv hc hH ha0 hb rfl (λ_ _ he=>by cases he) (λ_ _ he=>by cases he) (λ_=>rfl) (λk' hk'=>Hf hk') (λH1 H2 d b' D=>?_) (λH1 H2 y d hy=>?_) (λn hn=>?_)⟩
      .have D:qS j.toNat ty T (pR xss j.toNat (cH xs sz z))=Z b':=D;rw[L6 hjl]at D;unfold Yh at D;have hl2:(cH xs sz z).length=xs.length:=by unfold cH;rw[dV]
       rw[av (by simp only[cV];omega),af]at D;subst D;let⟨fs,p1,p2,p3,p4,p5⟩:=hso H1 H2 d;have hfl:(cH xs sz z).flatMap (bI T)=AI.splice (xs.flatMap (bI T)) (sz.toNat*T.size+off) fs:=L1 (bk T) xs sz.toNat _ z hx off fs (by omega) p4;refine fD.C hc2 rfl ?_ λc hx=>?_
       .rw[hc1];simp only[BC.toMx];rw[hfl];have:(AI.splice (xs.flatMap (bI T)) (sz.toNat*T.size+off) fs).map AV.f=AI.splice ((xs.flatMap (bI T)).map .f) (sz.toNat*T.size+off) (fs.map .f):=by unfold AI.splice;simp[gz,yO]
        rw[this];exact (gF.refl d _).splice _ p1
       .simp only[BC.toMx]at hx;obtain⟨q,hq,rfl⟩:=cj.1 hx;exact mc T _ q hq
      .simp only[bZ,af]at hy;subst hy;exact jV.refl d _
      .simp only[aB]at hn;subst hn;rw[iF];exact bj.2 rfl
     .cases A
    .cases A
   .cases A
  .cases A
 .rename_i id s j off rr hv hv2;let⟨yb,h1,h2⟩:=a_ hi hv;let⟨L,h3,h4⟩:=a_ hi hv2;simp only[bZ,af]at h2;subst h2;split at A
  .rename_i hq;simp only[al]at hq;let⟨q1,q2,q3⟩:=hq;have q1:=au q1;have q2:=au q2;have q3:=au q3;subst q1 q2 q3;split at A
   .rename_i ty z a ls ty2 p T xs hb hb2;split at A
    .rename_i hz;have hz:=au hz;subst hz;have hk0:=cF A;clear A;let⟨hj,A⟩:=hk0;have hk0:=cF A;clear A;let⟨hp,A⟩:=hk0;let⟨_,_,hjl⟩:=mG hj;have hyy:L=dt J rr T.size xs.length:=by
      simp only[bZ,bw,hb2,aC,iz,af]at h4;rw[<- h4];cases p with
      |true=>rfl
      |false=>
       have hp:(!(ay (ah xs) 0))=J:=hp;have hp:ah xs≠0:=λe=>by rw[e]at hp;cases hp
       unfold dt;rw[av (by simp),av (by simpa using hp)]
     have hg:H.get (nm id)=Z ⟨ty,.mx (lI a T.size 0 ls)⟩:=by rw[hH,bE,hb];rfl
     have hcs:L.cs=[L]:=by rw[hyy];unfold dt;split<;>rfl
     have hcell:L.isCell=J:=by rw[hyy];unfold dt;split<;>rfl
     have hput:(BC.mx (lI a T.size 0 ls)).put (j.toNat*1+0) L.cs=Z (.mx (AI.splice (lI a T.size 0 ls) j.toNat [L])):=by
      rw[hcs,Gi,cW];unfold BC.put;rw[aD]
      .rfl
      .simp only[al,gp,hcell,and_true];refine ⟨rfl,ba ?_⟩;have hl:(lI a T.size 0 ls).length=ah (α:=Int) ls:=kZ a T.size ls 0;show j.toNat+1<=(lI a T.size 0 ls).length;rw[hl];exact hjl
     have hlen:L.cs.length=1:=by rw[hcs];rfl
     have ha0:dx (.store 1 c v) (CS e h) H 0=Z ⟨raw undef,[nm id],[nm id],[(nm id,⟨ty,.mx (AI.splice (lI a T.size 0 ls) j.toNat [L])⟩)],[]⟩:=by
      simp only[dx,h1,h3,BU,hg,hlen,cr,bh,hput]
     refine ⟨_,_,_,_,_,A,eK.wrt (m:=0) (v:=.undef) (rd:=fV id) hinv hc hH ha0 hb (dA.zero h) (by simp) rfl (λ_ _ he=>by cases he) (λH1 H2 d g b' D=>?_) (λH1 H2 y d g hy=>?_) (λn hn=>?_)⟩
     .cases D;have hl:(lI a T.size 0 ls).length=ah (α:=Int) ls:=kZ a T.size ls 0;rw[Kw (ag9 hl hjl),hyy];exact fD.refl d _
     .simp only[bZ,af]at hy;subst hy;exact jV.refl d _
     .simp only[aB]at hn;subst hn;rw[c8];exact bj.2 rfl
    .cases A
   .cases A
  .cases A
 .cases A
def eK.app1 {s:SU} (hc:cO P o.op=Z s) {H:mQ} (hH:H.get=erHF h) {k n0:Nat} {y0:AV} {rdl:ι} {b0:kl} (ha:dx s (CS e h) H k=Z ⟨y0,rdl,[nm nx,n0],[(nm nx,b0)],[nm nx]⟩) {h':aX} 
 (hsame:∀n,n≠nm nx->n≠n0->erHF h' n=erHF h n) (hne:nm nx≠n0) (hdead:erHF h' n0=U) (hnew:erHF h' (nm nx)=Z S) (hblk:∀A z,rf A z->fD A z b0 S) (hval:∀A z y,rf A z->bZ h' u=Z y->jV A z y0 y)
 (hrd:∀n∈rdl,aJ i (ow n)=J) (hwr:aJ j (ow n0)=J) (hwn:aJ j nx=J) (hrows:bV h h') (hinv':gM h' (nx+1)):eK P o aa e h nx u i j h' (nx+1):=by
 have _:=hinv;have _:=hi;refine eK.mk' hc hH ha [nm nx,n0] (λrd hi=>hi) (λn D=>?_) (λrd hi b' hb'=>?_) (λA z d N _ hw2=>⟨λrd hi b b' hb1 hb2=>?_,λy hy=>hval A z y d hy⟩) hrd (λn D=>?_) (λn D=>by simp[aB]at D;subst D;rw[c8];omega) hrows hinv' (by omega)
 .grind
 .simp[aZ,cw,fF]at hi;rcases hi with rfl|rfl
  .exact⟨_,by rw[aD (by simp)];exact eH _ _⟩
  .grind
 .simp[aZ,cw,fF]at hi;rcases hi with rfl|rfl
  .rw[N _ (by simp),eH]at hb1
   grind
  .grind
 .simp[aZ,cw,fF]at D;rcases D with rfl|rfl
  .rw[c8];exact hwn
  .exact hwr
def eK.app0 {s:SU} (hc:cO P o.op=Z s) {H:mQ} (hH:H.get=erHF h) {k:Nat} {y0:AV} {rdl:ι} {b0:kl} (ha:dx s (CS e h) H k=Z ⟨y0,rdl,[nm nx],[(nm nx,b0)],[nm nx]⟩) {h':aX} 
 (hsame:∀n,n≠nm nx->erHF h' n=erHF h n) (hnew:erHF h' (nm nx)=Z S) (hblk:∀A z,rf A z->fD A z b0 S) (hval:∀A z y,rf A z->bZ h' u=Z y->jV A z y0 y)
 (hrd:∀n∈rdl,aJ i (ow n)=J) (hwn:aJ j nx=J) (hrows:bV h h') (hinv':gM h' (nx+1)):eK P o aa e h nx u i j h' (nx+1):=by
 have _:=hinv;have _:=hi;refine eK.mk' hc hH ha [nm nx] (λrd hi=>hi) (λn D=>?_) (λrd hi b' hb'=>?_) (λA z d L _ hw2=>⟨λrd hi b b' N hb2=>?_,λy hy=>hval A z y d hy⟩) hrd (λn D=>?_) (λn D=>by simp[aB]at D;subst D;rw[c8];omega) hrows hinv' (by omega)
 .grind
 .simp[aB]at hi;subst hi;exact⟨_,by rw[aD (by simp)];exact eH _ _⟩
 .simp[aB]at hi;subst hi;rw[L _ (by simp),eH]at N
  grind
 .simp[aB]at D;subst D;rw[c8];exact hwn
def avl {ty:Operand} (hc:cO P o.op=Z (.app s i j ty c)) (z:pu b9 e h nx K (.app s i j ty c)=Z r):iO P o aa e h nx K r:=by
 let⟨H,hH⟩:=gu h;have hfr:=hinv.fresh;simp only[pu]at z;split at z
 .rename_i id id2 hv hv2;let⟨yb,h1,h2⟩:=a_ hi hv;let⟨yy,h3,h4⟩:=a_ hi hv2;simp only[bZ,af]at h4;subst h4;split at z
  .rename_i ty' a D tyc a' bytes hb hb2;split at z
   .rename_i hq;simp only[al,cS]at hq;let⟨⟨q1,q2⟩,q3,q4⟩:=hq;have q1:=au q1;have q2:=eq_of_beq q2;have q3:=au q3;have q4:id≠id2:=λe=>by rw[e,fm]at q4;cases q4
    subst q1 q2 q3;have N:=cF z;clear z;let⟨hroom,z⟩:=N;have hrow:=aae hH hb2 (l':=[.H (pB a bytes) 0]) rfl (n:=1) (sz:=1) rfl;have hidlt:=hinv.low id _ hb;have hne:nx≠id:=by omega
    have hroom:bf (ah (α:=Int) D+1) j=J:=hroom;simp only[bZ,bw,hb,aC,iz,rY,af]at h2;generalize hh':(h.set id (Z (.qj J 1 (ah (α:=Int) D)))).set nx (Z (.I (.qc s) a (sJ (α:=Int) D [bytes])))=h' at z;have A:∀sz,h'.get sz=if sz=nx then Z (.I (.qc s) a (sJ (α:=Int) D [bytes])) else if sz=id then Z (.qj J 1 (ah (α:=Int) D)) else h.get sz:=λsz=>by rw[<- hh',PT.get_set,PT.get_set]
    have hr:bV h h':=λsz r hi=>by
     rw[bw]at hi ⊢;rw[A];by_cases e1:sz=nx
     .rw[e1,hfr]at hi;cases hi
     .rw[av e1];by_cases e2:sz=id
      .rw[aD e2];rw[e2,hb]at hi;exact hi
      .rw[av e2];exact hi
    have hinv':gM h' (nx+1):=by
     refine ⟨λsz s l hil=>?_,λsz x hic=>?_⟩
     .rw[A]at hil;split at hil
      .cases hil
      .split at hil
       .cases hil
       .exact e9 hr l (hinv.C sz _ l hil)
     .rw[A]at hic;split at hic
      .omega
      .split at hic
       .omega
       .have:=hinv.low sz x hic;omega
    have hsame:∀n,n≠nm nx->n≠nm id->erHF h' n=erHF h n:=λn e1 e2=>by
     unfold erHF;rw[A (ow n)];by_cases f1:ow n=nx
     .rw[aD f1,f1,hfr];simp only[aC,Option.bind_none];cases hx:ix n with
      |zero=>exact b8 (by rw[pi hx,f1]) e1
      |succ k=>rfl
     .rw[av f1];by_cases f2:ow n=id
      .rw[aD f2,f2,hb];simp only[aC];cases hx:ix n with
       |zero=>exact b8 (by rw[pi hx,f2]) e2
       |succ k=>rfl
      .rw[av f2];cases hx:h.get (ow n) with
       |none=>rfl
       |some b=>exact md hr (λs l e=>hinv.C _ _ l (by rw[hx,e])) _ _
    have hdead:erHF h' (nm id)=U:=by rw[bE,A,av (by omega),aD rfl];rfl
    have hl2:ah (α:=Int) (sJ (α:=Int) D [bytes])=ah (α:=Int) D+1:=by
     exact (λ(a b:η)=>(bc:(a++b).length=a.length+b.length)) D [bytes]
    have hnew:erHF h' (nm nx)=Z ⟨s,.mx (fX (λbytes=>.H (pB a bytes) 0) D++[.H (pB a bytes) 0])⟩:=by
     rw[bE,A,aD rfl];simp only[aC,jJ,tX];rw[av (by simp only[cV];omega)];have:fX (λbytes=>AV.H (pB a bytes) 0) (sJ (α:=Int) D [bytes])=fX (λbytes=>AV.H (pB a bytes) 0) D++[.H (pB a bytes) 0]:=by
      exact cq (f:=λbytes:Int=>AV.H (pB a bytes) 0) (l₁:=(D:η)) (l₂:=[bytes])
     rw[this]
    have hval:bZ h' (.G nx)=Z (.G (nm nx) 1 (ah (α:=Int) D+1)):=by
     simp only[bZ,bw,A,bh,aC,iz,rY,dt,hl2];rw[av (by simp)]
    have hblk:∀H1 H2,rf H1 H2->fD H1 H2 ⟨s,nW (fX (λbytes=>.H (pB a bytes) 0) D++[.H (pB a bytes) 0])⟩ ⟨s,.mx (fX (λbytes=>.H (pB a bytes) 0) D++[.H (pB a bytes) 0])⟩:=λH1 H2 d=>by
     let⟨p1,p2⟩:=nA (fX (λbytes=>AV.H (pB a bytes) 0) D++[.H (pB a bytes) 0]);exact fD.eq d p2 rfl p1
    have w1:aJ (fV id|||fV nx) nx=J:=by rw[bu,bj.2 (rfl:nx=nx)];simp
    have hrd:∀n∈[nm id2],aJ (fV id|||fV id2) (ow n)=J:=λn L=>by
     simp only[aB]at L;subst L;rw[c8,bu,bj.2 (rfl:id2=id2)];simp
    refine ⟨_,_,_,_,_,z,?_⟩;by_cases hz:ah (α:=Int) D=0
    .have hyb:yb= .emp:=by rw[<- h2];unfold dt;rw[hz];rfl
     subst hyb;have hnil:D=[]:=db.1 hz;subst hnil;have hroom:bf 1 j=J:=hroom;refine eK.app0 hinv hi hc hH (k:=nm nx) (y0:=.G (nm nx) 1 1) (rdl:=[nm id2]) (b0:=⟨s,nW [.H (pB a bytes) 0]⟩) (by simp only[dx,h1,h3,hrow];simp[D3,hroom]) (λn L=>?_) hnew (hblk) (λH1 H2 y d hy=>by rw[hval]at hy;cases hy;exact jV.refl d _) hrd w1 hr hinv';by_cases e2:n=nm id
     .subst e2;rw[hdead,bE,hb];rfl
     .exact hsame n L e2
    .have hyb:yb= .G (nm id) 1 (ah (α:=Int) D):=by
      rw[<- h2];unfold dt;rw[av (by simpa using hz)]
     subst hyb;have hg:H.get (nm id)=Z ⟨s,.mx (fX (λbytes=>.H (pB a bytes) 0) D)⟩:=by
      rw[hH,bE,hb];simp only[aC,jJ,tX];rw[av (by simpa using hz)]
     have hmm:mem (nm id) [nm id2]=aa:=by
      cases hx:mem (nm id) [nm id2] with
      |false=>rfl
      |true=>
       have:=ag7.1 hx;simp only[aB]at this;exact b8 (ui this) q4
     refine eK.app1 hinv hi hc hH (k:=nm nx) (n0:=nm id) (y0:=.G (nm nx) 1 (ah (α:=Int) D+1)) (rdl:=[nm id,nm id2]) (b0:=⟨s,nW (fX (λbytes=>.H (pB a bytes) 0) D++[.H (pB a bytes) 0])⟩) ?_ hsame (λe=>hne (ui e)) hdead hnew hblk (λH1 H2 y d hy=>by rw[hval]at hy;cases hy;exact jV.refl d _) (λn L=>?_) (by rw[c8,bu,bj.2 (rfl:id=id)];rfl) w1 hr hinv'
     .have hlen:(fX (λbytes=>AV.H (pB a bytes) 0) D).length=ah (α:=Int) D:=b_ ..;simp only[dx,h1,h3,hrow,hg];rw[aD (by
       simp only[cr,dU,Bool.and_true,BC.isCells,BC.len,hroom,al,cS];exact⟨hmm,ba (by omega)⟩)]
      simp only[BC.toMx,iu (show (fX (λbytes=>AV.H (pB a bytes) 0) D).length<=ah (α:=Int) D*1 by omega)]
     .rcases aZ.1 L with rfl|L
      .rw[c8,bu,bj.2 (rfl:id=id)];rfl
      .exact hrd n L
   .cases z
  .cases z
 .rename_i id bytes sb n y hv hv2;let⟨yb,h1,h2⟩:=a_ hi hv;let⟨yy,h3,h4⟩:=a_ hi hv2;simp only[bZ,Jx,af]at h2;split at z
  .rename_i ty' T a xss hb;split at z
   .rename_i hq;simp only[al]at hq;let⟨q1,q2,q3⟩:=hq;have q1:=au q1;have q2:=au q2;have q3:=eq_of_beq q3;subst q1 q2 q3;have N:=cF z;clear z;let⟨hj,z⟩:=N;split at z
    .rename_i ys m hys;split at z
     .cases z
     .rename_i hmid;have hmid:aJ m id=aa:=by simpa using hmid
      have N:=cF z;clear z;let⟨hqq,z⟩:=N;simp only[al]at hqq;let⟨L,hroom⟩:=hqq;have L:=au L;let⟨rdl,h5,h6⟩:=QZ hH hys h4;generalize hxs:qY (T:=T) xss bytes=xs at*
      have hidlt:=hinv.low id _ hb;have hne:nx≠id:=by omega
      let⟨_,_,hjl⟩:=mG hj;generalize hh':(h.set id (Z (.I (.ir s T) a (vu (T:=T) xss bytes [])))).set nx (Z (.F s J T (xs++ys)))=h' at z;have A:∀sz,h'.get sz=if sz=nx then Z (.F s J T (xs++ys)) else if sz=id then Z (.I (.ir s T) a (vu (T:=T) xss bytes [])) else h.get sz:=λsz=>by rw[<- hh',PT.get_set,PT.get_set]
      have hr:bV h h':=λsz r hi=>by
       rw[bw]at hi ⊢;rw[A];by_cases e1:sz=nx
       .rw[e1,hfr]at hi;cases hi
       .rw[av e1];by_cases e2:sz=id
        .rw[aD e2];rw[e2,hb]at hi;exact hi
        .rw[av e2];exact hi
      have hinv':gM h' (nx+1):=by
       refine ⟨λsz s l hil=>?_,λsz x hic=>?_⟩
       .rw[A]at hil;split at hil
        .cases hil
        .split at hil
         .cases hil
         .exact e9 hr l (hinv.C sz _ l hil)
       .rw[A]at hic;split at hic
        .omega
        .split at hic
         .omega
         .have:=hinv.low sz x hic;omega
      have hsame:∀n,n≠nm nx->n≠ji id (bytes.toNat+1)->erHF h' n=erHF h n:=λn e1 e2=>by
       unfold erHF;rw[A (ow n)];by_cases f1:ow n=nx
       .rw[aD f1,f1,hfr];simp only[aC,Option.bind_none];cases hx:ix n with
        |zero=>exact b8 (by rw[pi hx,f1]) e1
        |succ k=>rfl
       .rw[av f1];by_cases f2:ow n=id
        .rw[aD f2,f2,hb];simp only[aC];cases hx:ix n with
         |zero=>rfl
         |succ k=>
          refine Hf (T:=T) λe3=>?_
          exact e2 (by rw[<- kN n,hx,f2,e3])
        .rw[av f2];cases hx:h.get (ow n) with
         |none=>rfl
         |some b=>exact md hr (λs l e=>hinv.C _ _ l (by rw[hx,e])) _ _
      have hdead:erHF h' (ji id (bytes.toNat+1))=U:=by
       rw[kJ,A,av (by omega),aD rfl];exact L6 (T:=T) hjl
      have hnew:erHF h' (nm nx)=if (xs++ys).length==0 then U else Z ⟨s,.fz ((xs++ys).flatMap (bI T))⟩:=by
       rw[bE,A,aD rfl];rfl
      have hval:bZ h' (.G nx)=Z (dt J nx T.size (xs++ys).length):=by
       simp only[bZ,bw,A,bh,aC,iz]
      have w1:aJ (fV id|||fV nx) nx=J:=by rw[bu,bj.2 (rfl:nx=nx)];simp
      have hrd:∀n∈rdl,aJ (fV id|||m) (ow n)=J:=λn L=>by
       obtain⟨sz,rfl,hm⟩:=h6 n L;rw[c8,bu,hm];simp
      refine ⟨_,_,_,_,_,z,?_⟩;by_cases hz:n=0
      .subst hz;have hyb:yb= .emp:=by rw[<- h2];rfl
       subst hyb;have hnil:xs=[]:=db.1 L.symm;have hold:erHF h (ji id (bytes.toNat+1))=U:=by
        rw[kJ,hb];show qS bytes.toNat s T xss=U;unfold qS;rw[TD hj,hxs,hnil];rfl
       have hsame0:∀n,n≠nm nx->erHF h' n=erHF h n:=λn L=>by
        by_cases e2:n=ji id (bytes.toNat+1)
        .subst e2;rw[hdead,hold]
        .exact hsame n L e2
       rw[bT]at hroom;rw[hnil,kT]at hnew hval;have ha0:dx (.app s T.size j ty c) (CS e h) H (nm nx)=if ah ys==0 then Z ⟨.emp,rdl,[],[],[]⟩ else Z ⟨.G (nm nx) T.size (ah ys),rdl,[nm nx],[(nm nx,⟨s,nW ((ys.flatMap (bI T)).map .f)⟩)],[nm nx]⟩:=by
        simp only[dx,h1,h3,h5,D3,hroom,fy,bh]
       by_cases hl:ah ys=0
       .rw[hl]at ha0;simp only[cr,bh]at ha0;have hnil2:ys=[]:=db.1 hl;refine eK.mk' hc hH ha0 [] (by simp) (λn _=>?_) (by simp) (λH1 H2 d _ _ _=>⟨by simp,λy hy=>?_⟩) hrd (by simp) (by simp) hr hinv' (by omega)
        .by_cases e1:n=nm nx
         .subst e1;rw[hnew,hnil2,bE,hfr];rfl
         .exact hsame0 n e1
        .rw[hval,hnil2]at hy;cases hy;exact jV.refl d _
       .rw[av (by simpa using hl),vL]at ha0;rw[av (by simpa using hl)]at hnew;refine eK.app0 hinv hi hc hH ha0 hsame0 hnew (λH1 H2 d=>fD.refl d _) (λH1 H2 y d hy=>?_) hrd w1 hr hinv';rw[hval]at hy;unfold dt at hy;rw[av (by simpa using hl)]at hy;cases hy;exact jV.refl d _
      .have hyb:yb= .G (ji id (bytes.toNat+1)) T.size n:=by rw[<- h2];unfold uh;rw[av (by simpa using hz)]
       subst hyb;have hg:H.get (ji id (bytes.toNat+1))=Z ⟨s,.fz (xs.flatMap (bI T))⟩:=by rw[hH,<-hxs];exact Z1 hb hj (by rw[hxs];omega)
       have fl:=d_ (bk T) xs;have tk:(xs.flatMap (bI T)).take (n*T.size)=xs.flatMap (bI T):=by rw[L,<-fl,cv]
       have hmem:mem (ji id (bytes.toNat+1)) rdl=aa:=by
        cases hx:mem (ji id (bytes.toNat+1)) rdl with
        |false=>rfl
        |true=>
         let⟨sz,e,hm⟩:=h6 _ (ag7.1 hx);have:=(uM e).2;omega
       have ha0:dx (.app s T.size j ty c) (CS e h) H (nm nx)=Z ⟨.G (nm nx) T.size (n+ys.length),ji id (bytes.toNat+1)::rdl,[nm nx,ji id (bytes.toNat+1)],[(nm nx,⟨s,.fz ((xs++ys).flatMap (bI T))⟩)],[nm nx]⟩:=by
        have hcnd:(T.size==T.size&& !(mem (ji id (bytes.toNat+1)) rdl)&&(BC.fz (xs.flatMap (bI T))).isCells&&dF (n*T.size) (BC.fz (xs.flatMap (bI T))).len&&s==s&&bf (n+ys.length) j)=J:=by
         have:dF (n*T.size) (BC.fz (xs.flatMap (bI T))).len=J:=ba (by simp only[BC.len];rw[L];omega);rw[this,hmem,hroom];simp[BC.isCells]
        simp only[dx,h1,h3,h5,hg,hcnd,bh,BC.toMx,<-gz,tk,<-cq,vL,xF]
       have hl3:(xs++ys).length=n+ys.length:=by rw[bc,L]
       rw[av (by simp only[cV];omega)]at hnew;refine eK.app1 hinv hi hc hH ha0 hsame (λe=>by have:=(uM e).2;omega) hdead hnew (λH1 H2 d=>fD.refl d _) (λH1 H2 y d hy=>?_) (λn' hn'=>?_) (by rw[iF,bu,bj.2 (rfl:id=id)];rfl) w1 hr hinv'
       .rw[hval,hl3]at hy;unfold dt at hy;rw[av (by simp only[dU,cV];omega)]at hy;cases hy;exact jV.refl d _
       .rcases aZ.1 hn' with rfl|hn'
        .rw[iF,bu,bj.2 (rfl:id=id)];rfl
        .exact hrd _ hn'
    .cases z
   .cases z
  .cases z
 .rename_i b id bytes sb n _ hv hv2;let⟨yb,h1,h2⟩:=a_ hi hv;let⟨yy,h3,h4⟩:=a_ hi hv2;simp only[bZ,Jx,af]at h4;split at z
  .rename_i tyi T a xss hb;split at z
   .rename_i hq;simp only[al]at hq;let⟨q1,q2⟩:=hq;have q1:=au q1;have q2:=au q2;subst q1 q2;have N:=cF z;clear z;let⟨hj,z⟩:=N;have N:=cF z;clear z;let⟨L,z⟩:=N;have L:=au L;generalize hxs:qY (T:=T) xss bytes=xs at*
    by_cases hz:n=0
    .have hyy:yy= .emp:=by rw[<- h4];unfold uh;rw[aD (by simpa using hz)]
     have hnil:xs=[]:=db.1 (by omega);subst hyy hnil;exact Sp hinv hi hH (rdl:=[]) hc h1 h2 h3 rfl (by simp) z
    .have hyy:yy= .G (ji id (bytes.toNat+1)) T.size n:=by rw[<- h4];unfold uh;rw[av (by simpa using hz)]
     subst hyy;have hg:H.get (ji id (bytes.toNat+1))=Z ⟨tyi,.fz (xs.flatMap (bI T))⟩:=by rw[hH,<-hxs];exact Z1 hb hj (by rw[hxs];omega)
     have fl:=d_ (bk T) xs;have tk:(xs.flatMap (bI T)).take (n*T.size)=xs.flatMap (bI T):=by rw[L,<-fl,cv]
     have hb2:dF (n*T.size) (xs.flatMap (bI T)).length=J:=ba (by rw[L];omega);refine Sp hinv hi hH (rdl:=[ji id (bytes.toNat+1)]) hc h1 h2 h3 ?_ (λq hq=>by simp only[aB]at hq;subst hq;rw[iF];exact bj.2 rfl) z;simp only[AV.row?,cr,bh,hg,BC.isCells,dU,BC.len,hb2,BC.toMx];rw[<- gz,tk,L]
   .cases z
  .cases z
 .cases z
def art {l:Operand} (hc:cO P o.op=Z (.zg s i j N l c)) (A:pu b9 e h nx K (.zg s i j N l c)=Z r):iO P o aa e h nx K r:=by
 let⟨H,hH⟩:=gu h;have hfr:=hinv.fresh;simp only[pu]at A;split at A
 .rename_i q T k a k' b hty hv hv2;split at A
  .rename_i hq;simp only[al]at hq;let⟨q1,q2⟩:=hq;have q1:=au q1;subst q1;have hz:N=[.slice U 0 0]:=by
    unfold agi at q2
    grind
   subst hz;let⟨hcond,A⟩:=cF A;let⟨y,h1,h2⟩:=a_ hi hv;let⟨y2,h3,h4⟩:=a_ hi hv2;simp[bZ,af]at h2 h4;subst h2 h4;generalize hn:aO a=n at A;have ha0:dx (.zg s 1 j [.slice U 0 0] l c) (CS e h) H (nm nx)=Z ⟨.G (nm nx) 1 n,[],[nm nx],[(nm nx,⟨s,.fz (repl [.slice U 0 0] n)⟩)],[nm nx]⟩:=by
    simp[dx,h1,h3,fM,hcond,bh,hn]
   generalize hh':(h.set nx (Z (.I (.rr s T.size) (nx+1) (aF n (0:Int))))).set (nx+1) (Z (.I (.ir (stN q) T) 0 (aF n ([]:Y T.den))))=h' at A;have hg:∀sz,h'.get sz=if sz=nx+1 then Z (.I (.ir (stN q) T) 0 (aF n ([]:Y T.den))) else if sz=nx then Z (.I (.rr s T.size) (nx+1) (aF n (0:Int))) else h.get sz:=λsz=>by
    rw[<- hh',PT.get_set,PT.get_set]
   have hfr2:h.get (nx+1)=U:=by
    cases D:h.get (nx+1) with
    |none=>rfl
    |some b=>have:=hinv.low _ b D;omega
   have hr:bV h h':=λsz r hi=>by
    rw[bw]at hi ⊢
    grind
   have hl:ah (α:=Int) (aF n (0:Int))=n:=cL ..;have hall:∀(m k:Nat),lI (nx+1) T.size k (aF m (0:Int))=aF m .emp:=λm=>by
    induction m with
    |zero=>intro k;rfl
    |succ m ih=>intro k;rw[m8,m8];simp[lI,ih];rfl
   have hnew:erHF h' (nm nx)=Z ⟨s,.mx (aF n .emp)⟩:=by
    rw[bE,hg,av (by omega),aD rfl];show Z (kl.mk s (.mx (lI (nx+1) T.size 0 (aF n (0:Int)))))=_;rw[hall]
   refine ⟨_,_,_,_,_,A,eK.mk' hc hH ha0 [nm nx] (λsz hi=>hi) (λm hm=>?_) (λsz hi b' hb'=>?_) (λH1 H2 d hw1 _ hw2=>⟨λsz hi b b' z L=>?_,λy hy=>?_⟩) (by simp) (λm hm=>?_) (λm hm=>?_) hr ⟨λsz s l hil=>?_,λsz c' hic=>?_⟩ (by omega)⟩
   .have hm:m≠nm nx:=by simpa using hm
    unfold erHF;rw[hg];by_cases f0:ow m=nx+1
    .rw[aD f0,f0,hfr2];cases ix m with
     |zero=>rfl
     |succ k=>
      show qS k (stN q) T (aF n ([]:Y T.den))=U;unfold qS;rw[eV];split<;>rfl
    .rw[av f0];by_cases f1:ow m=nx
     .rw[aD f1,f1,hfr];cases D:ix m with
      |zero=>exact b8 (by rw[pi D,f1]) hm
      |succ k=>rfl
     .rw[av f1];cases D:h.get (ow m) with
      |none=>rfl
      |some b=>exact md hr (λs l e=>hinv.C _ _ l (by rw[D,e])) _ _
   .simp[aB]at hi;subst hi;exact⟨_,by rw[aD (by simp)];exact eH _ _⟩
   .simp[aB]at hi;subst hi;rw[hw1 _ (by simp),eH]at z;rw[hw2 _ (by simp),hnew]at L;simp[af]at z L;subst z L;refine fD.C rfl rfl ?_ λx D=>?_
    .simp[BC.toMx];exact Tx d n
    .simp only[BC.toMx]at D;rw[List.mem_replicate]at D;rw[D.2];rfl
   .simp only[bZ,bw,hg,bh]at hy;rw[av (by omega)]at hy;simp only[aC,iz,rY,dt,eO,ca,dv,af]at hy;subst hy;rw[hl];exact jV.refl d _
   .simp[aB]at hm;subst hm;rw[c8];exact bj.2 rfl
   .simp[aB]at hm;subst hm;rw[c8];omega
   .rw[hg]at hil;split at hil
    .cases hil
    .split at hil
     .cases hil
     .exact e9 hr l (hinv.C sz _ l hil)
   .rw[hg]at hic;split at hic
    .omega
    .split at hic
     .omega
     .have:=hinv.low sz c' hic;omega
  .cases A
 .cases A
end ops
mutual
def FV.fl:FV->Bool
 |.raw _=>J
 |.agg l=>FV.flL l
 |.sl _ _=>aa
 |.H _ _=>aa
def FV.flL:Y FV->Bool
 |[]=>J
 |x::r=>x.fl&&FV.flL r
end
def Z':∀{l:Y FV},FV.flL l=J->∀x∈l,x.fl=J
 |[],_,x,z=>by cases z
 |y::l,h,x,z=>by
  simp[FV.flL,al]at h;rcases aZ.1 z with rfl|z
  .exact h.1
  .exact Z' h.2 x z
def ah4:∀{l:Y FV},(∀x∈l,x.fl=J)->FV.flL l=J
 |[],_=>rfl
 |y::l,h=>by simp[FV.flL,al];exact⟨h y (by simp),ah4 λx z=>h x (by grind)⟩
def mO.flat {O':Nat->Prop} {w':World} {x:FV} (h:mO O w x v):x.fl=J->mO O' w' x v:=by
 induction h with
 |raw v=>intro _;exact .raw v
 |agg cells vs hl hcl D z=>intro h;exact .agg cells vs hl hcl λj x v A N=>z j x v A N (Z' h x (aY A))
 |_=>intro h;cases h
mutual
def AV.fl:AV->Bool
 |.f x=>x.fl
 |.emp=>J
 |.qw=>J
 |.agg l|.qg l=>AV.flL l
 |.H _ _=>aa
 |.sl _ _ _=>aa
 |.G _ _ _=>aa
 |.mp _=>aa
 |.qv _ l=>AV.flL l
 |.qm _ _=>aa
def AV.flL:Y AV->Bool
 |[]=>J
 |x::r=>x.fl&&AV.flL r
end
def F9:∀{l:Y AV},AV.flL l=J->∀x∈l,x.fl=J
 |[],_,x,z=>by cases z
 |y::l,h,x,z=>by
  simp[AV.flL,al]at h;rcases aZ.1 z with rfl|z
  .exact h.1
  .exact F9 h.2 x z
def aaq:∀{l:Y AV},(∀x∈l,x.fl=J)->AV.flL l=J
 |[],_=>rfl
 |y::l,h=>by simp[AV.flL,al];exact⟨h y (by simp),aaq λx z=>h x (by grind)⟩
def co.flat {φ':PM} {O':Nat->Prop} {w':World} (h:co V O w y v):y.fl=J->co φ' O' w' y v:=by
 induction h with
 |f h=>intro hf;exact .f (h.flat hf)
 |emp=>intro _;exact .emp
 |qw=>intro _;exact .qw
 |agg L hcl N A=>intro hf;exact .agg L hcl λj y v z D=>A j y v z D (F9 hf y (aY z))
 |qg L N A=>intro hf;exact .qg L λj y v z D=>A j y v z D (F9 hf y (aY z))
 |qv L N A=>intro hf;exact .qv L λj y v z D=>A j y v z D (F9 hf y (aY z))
 |_=>intro hf;cases hf
mutual
def apd (γ:Nat->Nat):∀x:AV,x.fl=J->x.qx γ=x
 |.f x,_|.emp,_|.qw,_=>rfl
 |.agg l,h|.qg l,h=>by simp[AV.qx];rw[Fm γ l h]
 |.H _ _,h|.sl _ _ _,h|.qm _ _,h|.G _ _ _,h|.mp _,h=>by cases h
 |.qv _ l,h=>by simp[AV.qx];rw[Fm γ l h]
def Fm (γ:Nat->Nat):∀l:Y AV,AV.flL l=J->AV.renL γ l=l
 |[],_=>rfl
 |x::r,h=>by
  simp[AV.flL,al]at h;rw[AV.renL,apd γ x h.1,Fm γ r h.2]
end
def Co:∀(T:Ty),T.flat=J->∀x:T.den,∀y∈bI T x,y.fl=J
 |.int _,_,x,y,z|.bool,_,x,y,z|.str,_,x,y,z=>by simp[bI,aB]at z;subst z;rfl
 |.sl _,h,x,y,z=>by cases h
 |.st t,h,x,y,z=>Co t h x y z
 |.pr a b,h,x,y,z=>by
  simp[Ty.flat,al]at h;simp[bI,bA]at z;exact z.elim (Co a h.1 x.1 y) (Co b h.2 x.2 y)
 |.un,_,x,y,z=>by simp[bI]at z
 |.ex,h,_,_,_|.sm,h,_,_,_=>by cases h
def al8 (T:Ty) (h:T.flat=J) (x:T.den):(fM T x).fl=J:=by
 cases z:T.one with
 |true=>
  have:=Co T h x (fM T x) (by rw[(Mh T x z).1];simp);exact this
 |false=>rw[rZ T x z];exact ah4 (Co T h x)
def Tc (a b:Ty):(spr a b).flat=(a.flat&&b.flat):=by
 cases a<;>cases b<;>simp[spr,Jc,Ty.flat]
def Lf :∀{a b:Y TV},qZ i (a++b)=J->qZ i a=J/\qZ i b=J
 |[],b,h=>⟨rfl,h⟩
 |x::r,b,h=>by
  simp[gA,qZ,al]at h ⊢;let⟨h1,z⟩:=Lf h.2;exact⟨⟨h.1,h1⟩,z⟩
def ZA {z:Y o!} (h:qZ 0 (z.map λp=>.H (g p.1) p.2)=J):z=[]:=by
 cases z with
 |nil=>rfl
 |cons p r=>simp[qZ,H8]at h
mutual
def ajy {g:Nat->Nat} {h:aX}:∀(p:PV) (x:p.ty.den) (cs:Y TV) (l:Y AV),p.ty.flat=J->nF g p x=Z cs->qZ 0 cs=J->cI h cs=Z l->∀y∈l,y.fl=J
 |.d T,x,cs,l,hf,hp,_,hl,y,hy=>by
  have:=(mL h 40 T x cs hp).1;rw[hl]at this;cases this;obtain⟨q,hq,rfl⟩:=cj.1 hy;exact Co T hf x q hq
 |.H i q,x,cs,l,hf,hp,hlt,hl,y,hy|.qy i q z,x,cs,l,hf,hp,hlt,hl,y,hy=>by
  simp only[nF,af]at hp;subst hp;simp[qZ,H8]at hlt
 |.qv q ps,x,cs,l,hf,hp,hlt,hl,y,hy=>by
  simp only[nF,af]at hp;subst hp;simp only[qZ,H8,al]at hlt;have:=ZA hlt.1;subst this;simp only[cI,bZ,wJ,af]at hl;subst hl;rw[aB]at hy;subst hy;rfl
 |.ob i q,x,cs,l,hf,hp,hlt,hl,y,hy|.nr i q,x,cs,l,hf,hp,hlt,hl,y,hy|.G i,x,cs,l,hf,hp,hlt,hl,y,hy|.mp i,x,cs,l,hf,hp,hlt,hl,y,hy=>by
  simp only[nF,af]at hp;subst hp;simp[qZ,H8]at hlt
 |.nil,x,cs,l,hf,hp,hlt,hl,y,hy|.emp,x,cs,l,hf,hp,hlt,hl,y,hy=>by
  simp only[nF,af]at hp;subst hp;simp only[cI,bZ,af]at hl;subst hl;simp only[aB]at hy;subst hy;rfl
 |.agg ps,x,cs,l,hf,hp,hlt,hl,y,hy=>KH ps x cs l hf hp hlt hl y hy
def KH {g:Nat->Nat} {h:aX}:∀(ps:Y PV) (x:(PV.tyL ps).den) (cs:Y TV) (l:Y AV),(PV.tyL ps).flat=J->sD g ps x=Z cs->qZ 0 cs=J->cI h cs=Z l->∀y∈l,y.fl=J
 |[],x,cs,l,hf,hp,hlt,hl,y,hy=>by
  simp only[sD,af]at hp;subst hp;simp only[cI,af]at hl;subst hl;cases hy
 |p::ps,x,cs,l,hf,hp,hlt,hl,y,hy=>by
  simp only[PV.tyL]at hf;rw[Tc,al]at hf;simp only[sD]at hp;split at hp
  .rename_i a ha;split at hp
   .rename_i b hb;cases hp;obtain⟨a',b',rfl,e1,e2⟩:=D' hl;have hsp:=Lf hlt;rcases bA.1 hy with hy|hy
    .exact ajy p _ a a' hf.1 ha hsp.1 e1 y hy
    .exact KH ps _ b b' hf.2 hb hsp.2 e2 y hy
   .cases hp
  .cases hp
end
def ajw {p:PV} {x:p.ty.den} (hf:p.ty.flat=J) (hp:rm g p x=Z u) (hlt:H8 0 u=J) (A:bZ h u=Z y):y.fl=J:=by
 cases p with
 |d T=>
  simp only[rm,af]at hp;subst hp;simp only[bZ,af]at A;subst A;exact al8 T hf x
 |agg L=>
  simp only[rm]at hp;split at hp
  .rename_i l N;cases hp;simp only[bZ]at A;split at A
   next l' D=>cases A;exact aaq (KH L _ l l' hf N hlt D)
   .cases A
  .cases hp
 |qv q L=>
  simp only[rm,af]at hp;subst hp;have:=ZA hlt;subst this;simp only[bZ,cI,wJ,af]at A;subst A;rfl
 |nil|emp=>simp only[rm,af]at hp;subst hp;simp only[bZ,af]at A;subst A;rfl
 |_=>simp only[rm,af]at hp;subst hp;simp[H8]at hlt
def TE :∀(A:Y PV) (x:(PV.tyL A).den) (z:Y TV) (l:Y AV),(PV.tyL A).flat=J->rk g A x=Z z->qZ 0 z=J->cI h z=Z l->AV.flL l=J
 |[],x,z,l,hf,hp,hlt,D=>by
  simp[rk,af]at hp;subst hp;simp[cI,af]at D;subst D;rfl
 |p::A,x,z,l,hf,hp,hlt,D=>by
  simp[PV.tyL]at hf;rw[Tc,al]at hf;simp[rk]at hp;split at hp
  .rename_i a ha;split at hp
   next b N=>simp[af]at hp;subst hp;obtain⟨y,L,rfl,e1,e2⟩:=cZ D;simp[qZ,al]at hlt;simp[AV.flL,al];exact⟨ajw hf.1 ha hlt.1 e1,TE A _ b L hf.2 N hlt.2 e2⟩
   .cases hp
  .cases hp
def ajj:∀{l:Y AV},AV.flL l=J->(Ev l).fl=J
 |[],_=>rfl
 |[x],h=>by simp only[AV.flL,al]at h;exact h.1
 |x::y::r,h=>h
def aln {o:Oper} {e:gT} {c:cA} (hinv:gM h i) (sp:qX P f c) {x:c.pre.ty.den} {σ:PT Nat} {sm:Nat} (A:Kn 0 c.pre r h x j σ sm) {vs:Y TV} {hp:aX} {l1:Y (M eD)} (I:pw c.pre x vs hp l1) {y:c.post.ty.den} (hm:c.m x=Z y) {rs:Y TV} {hq:aX} {l2:Y (M eD)} (la:pw c.post y rs hq l2) (hp0:l! c.pre.bs=0) (hq0:l! c.post.bs=0) (hfl:(PV.tyL c.post.vs).flat=J)
 (g:Nat->Nat) (hla:cI h r=Z B)
 (hexec:∀(φ:PM) (E:Nat->Prop) (h':HF) (w:World) (a:Act),(∀t,.tmp t∈o.op.operands->∀y,fC e h t=Z y->co φ (tot E φ h') w y (a.tmps.getD t undef))->sh φ E h' w->∃us:ξ,(execOp a.eval o).run P w= .ok (.enter f us.toArray) w/\lH φ (tot E φ h') w B us):
 eK P o aa e h i (Tv (k_ g rs)) j 0 h i:=by
 let⟨x1,m1,x2,m2,hx,hmm,gv,gb⟩:=A.ex;have hmr:dA h j:=by rw[hmm];exact (RE _ _ _ _ gv).or (RF _ _ _ _ gb)
 have pvg:rk (hZ σ) c.pre.vs x1=Z (k_ (hZ σ) vs):=by
  have N:=vg (hZ σ) c.pre.vs x1;have h4:=I.pv;rw[hx,uU]at h4;rw[N,h4];rfl
 let⟨lr,hlr⟩:=eR hq rs la.ok;let⟨lp,hlp⟩:=eR hp vs I.ok;have hfl':AV.flL lr=J:=TE c.post.vs _ rs lr hfl la.pv (by rw[<- hq0];exact la.lt) hlr;have hpe:∀nx,hp.get nx=U:=λnx=>by
  cases hb:hp.get nx with
  |none=>rfl
  |some b=>have:=I.lt_len hb;omega
 have hqe:∀nx,hq.get nx=U:=λnx=>by
  cases hb:hq.get nx with
  |none=>rfl
  |some b=>have:=la.lt_len hb;omega
 have rows_hp:∀nx l,eg hp nx=Z l->eg (dD j h) (hZ σ nx)=Z l:=λnx l D=>by rw[bw,hpe]at D;cases D
 have rows_hq:∀nx l,eg hq nx=Z l->eg h (g nx)=Z l:=λnx l D=>by rw[bw,hqe]at D;cases D
 have rows_in:zW (dD j h) h:=λm l D=>by
  rw[bw]at D ⊢;rw[iI]at D;split at D
  next ht=>let⟨ty,p,T,xs,hb⟩:=hmr m ht;rw[hb]at D ⊢;exact D
  .exact D
 have hOpT:fZ P o (fC e h) (erHF h) ⟨Ev lr,H6 j,[],λ_=>U,[]⟩:=by
  intro φ E h' w a hrd hwr hops hrep hN;let⟨us,hrun,hrel⟩:=hexec φ E h' w a hops hrep
  let Hv:HF:=λn=>if n∈H6 j then U else h' n
  have Hv_in:∀n,n∈H6 j->Hv n=U:=λn L=>by grind
  have Hv_out:∀n,n∉H6 j->Hv n=h' n:=λn L=>by grind
  have hd:rf h' Hv:=λn b hb=>by grind
  have gvv:Eg h h' Hv j:=λnx hi=>⟨hrd _ (mC.2 hi),Hv_in _ (mC.2 hi)⟩
  have V:JM h' Hv:=⟨hd,λn b b' hb hb'=>by
   by_cases L:n∈H6 j
   .grind
   .rw[Hv_out n L,hb]at hb';cases hb';exact fD.refl hd b⟩
  have hrepv:=V.qn hrep;have hlpg:cI (dD j h) (k_ (hZ σ) vs)=Z (AV.renL (py (hZ σ)) lp):=pZ rows_hp vs lp hlp;have hrel1:lH φ (tot E φ Hv) w (AV.renL (py (hZ σ)) lp) us:=
   lH.le hrep (Fj hd rows_in c.pre.vs r x1 m1 _ B _ gv pvg hla hlpg (λnx hi=>gvv nx (by grind))) hrel
  let E':Nat->Prop:=λk=>E k\/∃n b,Hv n=Z b/\φ n=Z k
  have T:am5 c.pre x vs hp (hZ σ) φ E E' Hv w:=by
   refine sh.toId I (λa b ha=>by omega) hrepv (λn yb L=>by have:=(I.erHF L).1;omega) ?_ (λn k y L=>by have:=(I.erHF L).1;omega) ?_
   .rintro k (hE|⟨n,b,h1,N⟩)
    .exact .inl hE
    .exact .inr ⟨n,b,h1,N⟩
   .rintro k (hE|⟨n,b,h1,N⟩)
    .exact hrepv.el k hE
    .obtain⟨k',q1,_,ob,q3,_⟩:=hrepv.at_ n b h1
     grind
  have hcalls:=sp.calls x y hm vs hp l1 rs hq l2 lp lr I la hlp hlr (φ1 (l! c.pre.bs) (hZ σ) φ) E' w us T.qn (lH.toId T.val (tf vs lp I.lt hlp) hrel1) (λn k hk=>(yS hk).1);unfold Oper.wp;rw[hrun];refine Calls.mono hcalls ?_;rintro en w' ⟨v,φc',rfl,hext,hown,hnm,rp,rv'⟩;have hno:∀k,¬own (φ1 (l! c.pre.bs) (hZ σ) φ) (erHF hp) k:=by
   rintro k ⟨n,b,h1,_⟩;let⟨bb,N,_⟩:=iK h1;rw[hpe]at N;cases N
  have mv:jT φ φ h' h' w w':=⟨λ_ _ h=>h,hext.mono λk hk=>b8 hk (hno k),λ_ _ h=>h⟩
  refine ⟨v,φ,rfl,?_,λ_ _ h=>.inl h,?_,?_⟩
  .rw[vn];exact mv
  .rw[vn];refine hrep.moved mv λk hk=>?_
   let⟨n,b,h1,N⟩:=hk;let⟨k',q1,_,ob,q3,_⟩:=hrep.at_ n b h1;rw[N]at q1;cases q1;exact hext.jf k (c7.1 q3).1 (hno k)
  .exact rv'.flat (ajj hfl')
 have hrsg:cI h (k_ g rs)=Z (AV.renL (py g) lr):=pZ rows_hq rs lr hlr;refine ⟨⟨_,hOpT,λz hz=>?_,?_,λn L=>?_,by simp,by simp⟩,λ_ _ h=>h,hinv,bO _,nofun⟩
 .rw[Zx hrsg,Fm _ lr hfl']at hz;cases hz;rfl
 .exact vn _ _
 .obtain⟨nx,rfl,hi⟩:=o7.1 L;rw[c8];exact hi
def cA.full (c:cA):cA:=⟨c.pre,⟨c.post.vs,c.pre.bs⟩,λx=>aA (c.m x) λy=>Z (ZU (PV.tyL c.post.vs) (PB.tyL c.pre.bs) (SM _ _ y) (QV _ _ x))⟩
def aK (P:Program) (f:FuncId) (c:cA):Prop:=if dF (l! c.pre.bs) (l! c.post.bs)=J then qX P f c else qX P f c.full
def qX.toC {c:cA} (h:qX P f c) (z:dF (l! c.pre.bs) (l! c.post.bs)=J):aK P f c:=by
 unfold aK;rw[aD z];exact h
def aK.holds {c:cA} (h:aK P f c) (z:dF (l! c.pre.bs) (l! c.post.bs)=J):qX P f c:=by
 unfold aK at h;rw[aD z]at h;exact h
def akj (a b:Ty) (z:(spr a b).den):ZU a b (SM a b z) (QV a b z)=z:=by cases a<;>cases b<;>rfl
open Classical in
def roM {pre:Tm} {vs:Y PV} (m:pre.ty.den->M (Tm.ty ⟨vs,pre.bs⟩).den) (x:pre.ty.den):M (Tm.ty ⟨vs,[]⟩).den:=
 aA (m x) λy=>if QV (PV.tyL vs) (PB.tyL pre.bs) y=QV _ _ x then Z (ZU (PV.tyL vs) (PB.tyL []) (SM (PV.tyL vs) (PB.tyL pre.bs) y) ()) else U
def aK.ro {P:Program} {f:FuncId} {pre:Tm} {vs:Y PV} {m:pre.ty.den->M (Tm.ty ⟨vs,pre.bs⟩).den} {m':pre.ty.den->M (Tm.ty ⟨vs,[]⟩).den} (h:qX P f ⟨pre,⟨vs,pre.bs⟩,m⟩) (hb:dF (l! pre.bs) 0=aa) (hs:∀x y,m' x=Z y->roM m x=Z y):aK P f ⟨pre,⟨vs,[]⟩,m'⟩:=by
 unfold aK;rw[av (by grind)];refine ⟨h.zw,λx y hxy=>?_⟩;refine h.calls x y ?_;let⟨z,L,hzy⟩:=dO hxy;have h1:=hs x z L;let⟨y0,N,D⟩:=dO h1;split at D
 .rename_i heq;have D:=fG D;have hzy:=fG hzy;subst D;have A:ZU (PV.tyL vs) (PB.tyL pre.bs) (SM (PV.tyL vs) (PB.tyL pre.bs) y0) (QV (PV.tyL pre.vs) (PB.tyL pre.bs) x)=y:=(eW (λq=>ZU (PV.tyL vs) (PB.tyL pre.bs) q (QV (PV.tyL pre.vs) (PB.tyL pre.bs) x)) (uU (PV.tyL vs) (PB.tyL []) _ ()).symm).trans hzy;rw[<- heq]at A;have:=(akj (PV.tyL vs) (PB.tyL pre.bs) y0).symm.trans A
  grind
 .cases D
def eK.drop {o:Oper} {e:gT} {h':aX} {rd wr W wr':Nat} (t:eK P o aa e h i u rd wr h' j) (hW:∀nx,aJ W nx=J->(∀n,ow n=nx->erHF h' n=erHF h n)/\aJ rd nx=J) (hw:∀nx,aJ wr nx=J->aJ W nx=J\/aJ wr' nx=J):eK P o aa e h i u rd wr' h' j:=by
 let⟨⟨f,h1,h2,h3,h4,h5,L⟩,r,nx,g,st⟩:=t;have hup:∀H:HF,(∀n∈f.wr,H n=erHF h n)->eZ H (f.wr.filter λn=> !(aJ W (ow n))) f.nw=eZ H f.wr f.nw:=λH hH=>by
  funext n;unfold eZ;by_cases z:n∈f.wr
  .by_cases hb:aJ W (ow n)=J
   .rw[av (by grind),aD z];have:=congrFun h3 n;unfold eZ at this
    grind
   .grind
  .grind
 refine ⟨⟨⟨f.val,f.rd++(f.wr.filter λn=>aJ W (ow n)),f.wr.filter λn=> !(aJ W (ow n)),f.nw,f.N⟩,?_,h2,?_,λn z=>?_,λn z=>?_,L⟩,r,nx,g,nofun⟩
 .intro φ E H w a hrd hwr hops hrep D;have k1:∀nx∈f.rd,H nx=erHF h nx:=λnx hi=>hrd nx (fW _ hi)
  have k2:∀nx∈f.wr,H nx=erHF h nx:=λnx hi=>by grind
  have:=h1 φ E H w a k1 k2 hops hrep D
  grind
 .grind
 .grind
 .grind
mutual
def aga {n n':Nat} (hle:n<=n'):∀(v:TV),H8 n v=J->H8 n' v=J
 |.G id,h|.zm id _,h|.ql id _ _ _,h|.H id _,h|.qy id _ _,h|.mp id,h=>by simp[H8,Nx]at h ⊢;omega
 |.agg l,h|.qg l,h|.qv _ l,h=>yc hle l h
 |.f _ _,_|.zk _ _ _ _ _,_|.emp,_|.nil,_|.undef,_|.np,_|.qw,_|.qm _ _,_=>rfl
 |.sb s,h=>by simp[H8,Nx]at h ⊢;omega
def yc {n n':Nat} (hle:n<=n'):∀(l:Y TV),qZ n l=J->qZ n' l=J
 |[],_=>rfl
 |x::r,h=>by
  simp[qZ,al]at h ⊢;exact⟨aga hle x h.1,yc hle r h.2⟩
end
def PO {g g':Nat->Nat} {h:aX}:∀(bs:Y PB) (i:Nat) (x:(PB.tyL bs).den) (m:Nat),Km bs=J->Fl g h i bs=Z (x,m)->∃l,qI g' bs x=Z l/\l! l=l! bs/\∀j,j<l! bs->∃ty p T xs,l[j]? =Z (Z (.F ty p T xs))/\h.get (g (i+j))=Z (.F ty p T xs)
 |[],i,x,m,_,A=>⟨[],rfl,rfl,λj L=>by simp at L⟩
 |.F ty p T::r,i,x,m,D,A=>by
  simp[Fl]at A;split at A
  .rename_i x1 m1 h1;split at A
   .rename_i N m2 h2;obtain⟨rfl,rfl⟩:=A;let⟨l,q1,q2,q3⟩:=PO (g:=g) (g':=g') (h:=h) r (i+1) N m2 D h2;simp only[D9]at h1;split at h1
    .rename_i ty' p' S xs hb;split at h1
     .rename_i hc;simp[al,cV]at hc;split at h1
      .rename_i z hz;let⟨es,ez⟩:=gL hz;refine ⟨Z (.F ty p T x1)::l,?_,by simp[q2],λj L=>?_⟩
       .simp[qI];rw[uU,wL,q1];rfl
       .grind
      .cases h1
     .cases h1
    .cases h1
   .cases A
  .cases A
 |.qf _ _::r,i,x,m,D,A|.C _ _::r,i,x,m,D,A|.mp _ _::r,i,x,m,D,A|.qk::r,i,x,m,D,A=>by cases D
def H5:∀{bs:Y PB},Km bs=J->DV bs=J
 |[],_=>rfl
 |.F _ _ _::r,h=>H5 (bs:=r) h
 |.qf _ _::r,h|.C _ _::r,h|.mp _ _::r,h|.qk::r,h=>by cases h
def HW {z:aX} :∀(n:Nat),(∀i,i<n->z.get (g i)=h.get (g i))->vq h z g n=J
 |0,_=>rfl
 |n+1,A=>by
  simp[vq,al];refine ⟨?_,HW n λi hi=>A i (by omega)⟩;have:eg z (g n)=eg h (g n):=by rw[bw,bw,A n (by omega)]
  rw[this];cases eg h (g n) with
  |none=>rfl
  |some q=>let⟨p,s,k⟩:=q;simp
def Gg (P:Program) (con:FuncId->M cA):Prop:=∀f c,con f=Z c->aK P (f%65536) c
def Th (hf:f<65536):∀l:Y TV,ajr f l%65536=f
 |[]=>wH hf
 |x::r=>by
  have z:=Th hf r;unfold ajr;split
  next he=>cases he
  .rw[Nat.add_mul_mod_self_left];exact wH hf
  .rw[Nat.add_mul_mod_self_left];exact wH hf
  next he=>cases he;exact z
variable {X:FuncId->M cA}
def alj (hcon:Gg P X) {c:cA} (h:apk X f r=Z c):aK P f c:=by
 unfold apk at h;split at h
 .rename_i hf;have hf:=Sm hf;split at h
  .rename_i A z;simp[af]at h;subst h;have:=hcon _ _ z
   rwa [Th hf]at this
  .have:=hcon _ _ h
   rwa [wH hf]at this
 .cases h
def aai (hcon:Gg P X) {o:Oper} {e:gT} {K:KO R} {l:R} (hinv:gM h i) (z:aaj X f r h i K=Z l) (hla:cI h r=Z B)
 (hexec:∀(φ:PM) (E:Nat->Prop) (h':HF) (w:World) (a:Act),Gh P f->(∀t,.tmp t∈o.op.operands->∀y,fC e h t=Z y->co φ (tot E φ h') w y (a.tmps.getD t undef))->sh φ E h' w->∃us:ξ,(execOp a.eval o).run P w= .ok (.enter f us.toArray) w/\lH φ (tot E φ h') w B us):iO P o aa e h i K l:=by
 unfold aaj at z;split at z
 .rename_i c hc;have spc:=alj hcon hc;split at z
  .rename_i x m σ sm hM;split at z
   .rename_i q hq;let⟨vs,hp⟩:=q;let⟨l1,I⟩:=yg hq;let⟨y,hy,z⟩:=dO z;split at z
    .rename_i q2 hq2;let⟨rs1,hq1⟩:=q2;let⟨l2,A⟩:=yg hq2;split at z
     .rename_i hcond;simp only[al]at hcond;have hle:=aV hcond.1;have sp:=spc.holds hcond.1;simp only at z;split at z
      .rename_i rs hrs;have hrs':=hrs;rw[vg,A.pv]at hrs';simp only[bn,af]at hrs';split at z
       next L=>simp only[al]at L;have hq0:=au L.1.2;refine ⟨_,_,_,_,_,z,?_⟩;rw[<- hrs'];exact aln hinv sp (x_ hM) I hy A (by omega) hq0 L.2 _ hla λφ E h' w a=>hexec φ E h' w a sp.zw
       .split at z
        .rename_i h2 D;let⟨hsr,z⟩:=cF z;refine ⟨_,_,_,_,_,z,?_⟩;rw[<- hrs'];unfold Pq at D;rw[xR,A.pb]at D;simp only[bn,af]at D;exact ahv hinv sp (x_ hM) I hcond.2 hy A hle (λnx hi=>by
          have:dY nx (l! c.pre.bs)=J:=ba hi;simp only[this,bh]) (λnx hi=>by
          have:dY nx (l! c.pre.bs)=aa:=by
           cases L:dY nx (l! c.pre.bs) with
           |false=>rfl
           |true=>have:=aV L;omega
          simp only[this];rfl) D.symm hsr hla λφ E h' w a=>hexec φ E h' w a sp.zw
        .cases z
      .cases z
     .rename_i hcond;split at z
      .rename_i hro;simp only[al]at hro;have hq0:=au hro.1;have hng:=H5 hro.2;have sp:qX P f c.full:=by
        unfold aK at spc
        rwa [av (λL=>hcond (by rw[L,hng];rfl))]at spc
       simp only at z;split at z
       .rename_i rs hrs;split at z
        .rename_i h2 D;have hrs':=hrs;rw[vg,A.pv]at hrs';simp only[bn,af]at hrs';refine ⟨_,_,_,_,_,z,?_⟩;rw[<- hrs'];have la:=x_ hM;unfold Pq at D;rw[xR,I.pb]at D;simp only[bn,af]at D;have hqe:∀nx,hq1.get nx=U:=λnx=>by
          cases L:hq1.get nx with
          |none=>rfl
          |some b=>have:=A.lt_len L;omega
         have J':pw c.full.post (ZU (PV.tyL c.post.vs) (PB.tyL c.pre.bs) (SM _ _ y) (QV _ _ x)) rs1 hp l1:=
          ⟨by show rk Lr c.post.vs (SM (PV.tyL c.post.vs) (PB.tyL c.pre.bs) _)=_;rw[uU];exact A.pv,by show qI Lr c.pre.bs (QV (PV.tyL c.post.vs) (PB.tyL c.pre.bs) _)=_;rw[wL];exact I.pb,I.len,I.at_,e9 (λnx l hr=>by rw[bw,hqe]at hr;cases hr) _ A.ok,yc (by omega) _ A.lt,I.C,I.I,I.nox⟩
         let⟨x1,m1,x2,m2,hx,hmm,gv,gb⟩:=la.ex;let⟨r,q1,q2,q3⟩:=PO (g':=Lr) c.pre.bs 0 x2 m2 hro.2 gb;have hl1:l1=r:=by
          have:=I.pb;rw[hx,wL,q1]at this;cases this;rfl
         subst hl1;have hgi:∀nx,nx<l! c.pre.bs->(if dY nx (l! c.pre.bs) then hZ σ nx else i+(nx-l! c.pre.bs))=hZ σ nx:=λnx hi=>by simp_all
         have hsame:∀nx,nx<l! c.pre.bs->h2.get (hZ σ nx)=h.get (hZ σ nx):=λnx hi=>by
          let⟨ty,p,T,xs,w1,N⟩:=q3 nx hi;rw[bT]at N;have:=wP (λnx=>if dY nx (l! c.pre.bs) then hZ σ nx else i+(nx-l! c.pre.bs)) (l1.map (hX (kS (λnx=>if dY nx (l! c.pre.bs) then hZ σ nx else i+(nx-l! c.pre.bs))))) 0 (dD m h) (λa b ha L e=>by
           simp only[b_,q2]at ha L;rw[bT,bT,hgi a ha,hgi b L]at e;exact la.inj a b ha L e) nx (Z (.F ty p T xs)) (by rw[bz,w1];rfl)
          rw[bT,hgi nx hi]at this;rw[<- D,this,N]
         have t:=ahv (o:=o) (e:=e) hinv sp la I hng (y:=ZU (PV.tyL c.post.vs) (PB.tyL c.pre.bs) (SM _ _ y) (QV _ _ x)) (by show aA (c.m x) _=_;rw[hy];rfl) J' (bO _) (g:=λnx=>if dY nx (l! c.pre.bs) then hZ σ nx else i+(nx-l! c.pre.bs)) hgi (λnx hi=>by
          have:dY nx (l! c.pre.bs)=aa:=by
           cases L:dY nx (l! c.pre.bs) with
           |false=>rfl
           |true=>have:=aV L;have hi:l! c.pre.bs<=nx:=hi;omega
          simp only[this];rfl) D.symm (HW _ λnx hi=>by rw[hgi nx hi];exact hsame nx hi) hla λφ E h' w a=>hexec φ E h' w a sp.zw
         have t':eK P o aa e h i (Tv (k_ (λnx=>if dY nx (l! c.pre.bs) then hZ σ nx else i+(nx-l! c.pre.bs)) rs1)) (sm|||m) (sm|||m|||(((1<<<(l! c.pre.bs-l! c.pre.bs))-1)<<<i)) h2 (i+(l! c.pre.bs-l! c.pre.bs)):=t;rw[wG,cW]at t';refine t'.drop (W:=sm) (λnx hi=>?_) (λnx hi=>?_)
         .refine ⟨?_,by rw[bu,hi];rfl⟩;obtain⟨k,z,rfl⟩:=(la.sig nx).1 hi;let⟨ty,p,T,xs,_,N⟩:=q3 k z;rw[bT]at N;intro n hn;unfold erHF;rw[hn,hsame k z,N];cases ix n<;>rfl
         .grind
        .cases z
       .cases z
      .cases z
    .cases z
   .cases z
  .cases z
 .cases z
variable {W:TypeId->M Ty}
def aoi (hcon:Gg P X) {o:Oper} {e:gT} {nx:SI} {K:KO R} {r:R} (hinv:gM h i) (hi:sB e h) (N:w_ P o.op=nx) (L:ec X W nx e h i K=Z r):iO P o nx.still e h i K r:=by
 have callOps:∀(c:Call),o.op= .call c->∀x,x∈c.operands->x∈o.op.operands:=λc D x A=>by rw[D];exact A
 cases nx with
 |call f args=>
  simp[ec]at L;split at L
  .rename_i l hl;have D:∃c:Call,o.op= .call c/\c.callee= .value (.func f)/\c.args.toList=args:=by
    unfold w_ at N;split at N
    .rename_i nx hi;unfold M8 at hi
     grind
    .grind
   let⟨c,D,h1,h2⟩:=D;let⟨la,g1,g2⟩:=ER hi hl;refine aai hcon hinv L g2 λφ E h' w a hcb hops hrep=>?_
   have hp:W_ φ E h' w a (CS e h) o:=λx y A hy=>uV hrep (by rw[Cn];exact hops) A hy
   refine ⟨args.map a.eval,?_,Yj hp args la (λx A=>callOps c D x (by simp[dC,h1,<-h2]at A ⊢;exact .inr A)) g1⟩;unfold execOp;rw[D];have hm:c.args.map a.eval=(args.map a.eval).toArray:=by grind
   simp[resolve,h1,Act.eval,Deferred.ofValue,invoke,hm,ED hcb]
  .cases L
 |jd x args=>
  simp[ec]at L;split at L
  .rename_i f cap l A hl;have D:∃c:Call,o.op= .call c/\c.callee= .value x/\c.args.toList=args:=by
    unfold w_ at N;split at N
    .rename_i nx hi;unfold M8 at hi
     grind
    .grind
   let⟨c,D,h1,h2⟩:=D;let⟨la,g1,g2⟩:=ER hi hl;let⟨yx,g3,g4⟩:=a_ hi A;simp[bZ]at g4;split at g4
   .rename_i lc hlc;simp[af]at g4;subst g4;refine aai hcon hinv L (oL g2 hlc) λφ E h' w a hcb hops hrep=>?_
    have hp:W_ φ E h' w a (CS e h) o:=λx y A hy=>uV hrep (by rw[Cn];exact hops) A hy
    have hxv:=hp x _ (callOps c D x (by simp[dC,h1])) g3;have hlv:=Yj hp args la (λx A=>callOps c D x (by simp[dC,h1,<-h2]at A ⊢;exact .inr A)) g1;generalize hz:a.eval x=z at hxv;cases hxv with
    |@qv _ _ vs hvl hvr=>
     refine ⟨args.map a.eval++vs,?_,hlv.append (lH.of hvl hvr)⟩;unfold execOp;rw[D];have hm:c.args.map a.eval=(args.map a.eval).toArray:=by grind
     simp[resolve,h1,hz,Deferred.ofValue,invoke,hm,ED hcb]
   .cases g4
  .cases L
 |op s=>
  have N:s= .zd\/cO P o.op=Z s:=by
   unfold w_ at N;split at N
   .rename_i nx hi;unfold M8 at hi
    grind
   .grind
  rcases N with rfl|N
  .simp[ec]at L
  .exact K_op hinv hi N L
def F_op {o:Oper} {e:gT} {s:SU} {K:KO R} {r:R} (hinv:gM h i) (hi:sB e h) (D:cO P o.op=Z s) (A:pu W e h i K s=Z r):iO P o s.still e h i K r:=by
 cases s with
 |load sz L x=>exact aru hinv hi D A
 |store sz x v=>exact ams hinv hi D A
 |zh x=>exact ars hinv hi D A
 |jg off x=>exact avj hinv hi D A
 |jk sz x nx=>exact avi hinv hi D A
 |jy str ok z x k=>exact avg hinv hi D A
 |jv str x k v=>exact ave hinv hi D A
 |app ty sz bytes s x=>exact avl hinv hi D A
 |zg ty sz bytes z l c=>exact art hinv hi D A
 |zl neg x=>exact arv hinv hi D A
 |lkq ds z x k=>
  have hd:ds=i2:=by
   unfold pu at A
   grind
  subst hd;exact avh hinv hi D A
 |mpq ds x k v=>
  have hd:ds=i2:=by
   unfold pu at A
   grind
  subst hd;exact avf hinv hi D A
 |dlq ds x k=>
  have hd:ds=i2:=by
   unfold pu at A
   grind
  subst hd;exact avk hinv hi D A
 |_=>exact b8 A (by simp[pu])
def asn (hcon:Gg P X) {o:Oper} {e:gT} {nx:SI} {K:KO R} {r:R} (hinv:gM h i) (hi:sB e h) (A:w_ P o.op=nx) (z:opK X W nx e h i K=Z r):iO P o nx.still e h i K r:=by
 unfold opK at z;split at z
 .split at z
  .rename_i s _;have A:s= .zd\/cO P o.op=Z s:=by
    unfold w_ at A;split at A
    .rename_i nx hi;unfold M8 at hi
     grind
    .grind
   rcases A with rfl|A
   .simp[pu]at z
   .exact F_op hinv hi A z
  .cases z
 .exact aoi hcon hinv hi A z
end
end Go.Proofs.YtcmnmakaoonfgaaGreatDoor.AI
