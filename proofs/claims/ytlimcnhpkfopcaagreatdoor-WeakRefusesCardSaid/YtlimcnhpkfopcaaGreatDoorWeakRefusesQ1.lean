/-
  Texts of the proof, part 2 of 6: what is used to prove the statement. No condition.
-/
import Derived.Test.YtlimcnhpkfopcaaGreatDoorWeakRefusesQ0
namespace Go.Proofs.YtlimcnhpkfopcaaGreatDoor.AI
open Go.RowKit
set_option maxRecDepth 100000
set_option maxHeartbeats 4000000
set_option linter.unusedVariables false
set_option linter.unusedSimpArgs false
set_option linter.defProp false
open _root_.Bool renaming true→J,false→aa,not_false→k_,and_false→wu,not_true→yI,false_or→yJ,eq_iff_iff→HH
open _root_.Int renaming ofNat_eq_natCast→ak,ofNat→aR,toNat→aS,reduceNeg→aU,reduceEq→aX,toNat_natCast→bF,tmod→bJ,le_trans→fk,max_le→zX
open _root_.Int.ofNat renaming inj→uf
open _root_.List renaming length→l!,length→ah,replicate→aF,length_singleton→bP,length_cons→bX,take→dg,toArray→fh,map→fX,replicate_succ→iU,range→kY,length_nil→lm,append→sK,set→wn,getElem_of_mem→xB,set_cons_zero→NH
open _root_.Nat renaming beq→ax,testBit→aO,add_zero→cZ,blt→dJ,ble→dK,min→jM
open _root_.Option renaming some→Z,none→U,getD_some→nY
open _root_.Prod renaming a→aY,b→bi,c→bt,e→bN,d→b7,g→cW,h→cY,f→dc,m→dN,i→fx,p→iX,l→jH,j→kh,n→ki,k→kl,o→lA,q→s9,r→yH
open _root_.Sum renaming inr→cw,inl→wF
open Utf8 renaming decode→Az
noncomputable section
structure cD where
 pre:Tm
 post:Tm
 m:pre.ty.den->Option post.ty.den
def Yq:Y p?->Y TV->PT Nat->PT Nat
 |(i,_)::r,.H a _::vs,σ=>Yq r vs (σ.set i (Z a))
 |_::r,_::vs,σ=>Yq r vs σ
 |_,_,σ=>σ
mutual
def alz:PV->Y TV->PT Nat->PT Nat×Y TV
 |.d T,l,σ=>(σ,l.drop T.size)
 |.H i _,l,σ=>match l with|.H a _::r=>(σ.set i (Z a),r)|l=>(σ,l.drop 1)
 |.G i,l,σ=>match l with|.G a::r=>(σ.set i (Z a),r)|l=>(σ,l.drop 1)
 |.qw i _ _,l,σ=>match l with|.qw a _ _::r=>(σ.set i (Z a),r)|l=>(σ,l.drop 1)
 |.mp i,l,σ=>match l with|.mp a::r=>(σ.set i (Z a),r)|l=>(σ,l.drop 1)
 |.qy _ ps,l,σ=>match l with|.qy _ vs::r=>(Yq ps vs σ,r)|l=>(σ,l.drop 1)
 |.ob i _,l,σ=>match l with|.sb (.ob a _ _)::r=>(σ.set i (Z a),r)|l=>(σ,l.drop 1)
 |.nil,l,σ|.emp,l,σ=>(σ,l.drop 1)
 |.agg ps,l,σ=>Yr ps l σ
def Yr:Y PV->Y TV->PT Nat->PT Nat×Y TV
 |[],l,σ=>(σ,l)
 |p::r,l,σ=>match alz p l σ with|(σ',l')=>Yr r l' σ'
end
def aqw (p:PV) (v:TV) (σ:PT Nat):PT Nat:=match p with
 |.d _=>σ
 |p=>match v.cs with|some l=>(alz p l σ).1|none=>σ
def agh:Y PV->Y TV->PT Nat->PT Nat
 |p::r,v::vs,σ=>agh r vs (aqw p v σ)
 |_,_,σ=>σ
def Ys (h:bk):Nat->Y PB->PT Nat->PT Nat
 |_,[],σ=>σ
 |i,b::r,σ=>Ys h (i+1) r (match b with
  |.C _ d=>(match σ.get i with
   |some a=>(match h.get a with|some (.C _ l)=>(Yr d l σ).1|_=>σ)
   |none=>σ)
  |.I F j=>(match σ.get i with
   |some a=>(match h.get a with|some (.I _ b _)=>(if ax (F.aid 1) 0 then σ else σ.set j (Z b))|_=>σ)
   |none=>σ)
  |_=>σ)
def ip (σ:PT Nat) (i:Nat):Nat:=match σ.get i with|some a=>a|none=>0
def adt (σ:PT Nat):Nat->Nat->Nat->M Nat
 |0,_,acc=>Z acc
 |n+1,i,acc=>match σ.get i with
  |some a=>if aO acc a then U else adt σ n (i+1) (acc|||fV a)
  |none=>U
def idn:Nat->PT Nat
 |0=>.leaf
 |n+1=>(idn n).set n (Z n)
def Zp (σ:PT Nat):Nat->Bool
 |0=>J
 |n+1=>(match σ.get n with|some a=>ax a n|none=>aa)&&Zp σ n
structure amc (t:Tm) where
 x:t.ty.den
 m:Nat
 σ:PT Nat
 sm:Nat
def DK (np:Nat) (t:Tm) (vs:Y TV) (h:bk):M (amc t):=
 Uu (Ys h 0 t.bs (Ys h 0 t.bs (agh t.vs vs (idn np)))) λσ=>
 match adt σ (l! t.bs) 0 0 with
 |some sm=>(match Ad (ip σ) h t.vs vs with
  |some (x,m)=>(match C3 (ip σ) h 0 t.bs with
   |some (y,m')=>if FN (m|||m') sm&&Zp σ np then Z ⟨W9 _ _ x y,m|||m',σ,sm⟩ else U
   |none=>U)
  |none=>U)
 |none=>U
variable {R:Type}
def PT.updI (f:Nat->R->R):Nat->Nat->PT R->PT R
 |_,_,.leaf=>.leaf
 |a,b,.node v l r=>.node (match v with|some x=>Z (f b x)|none=>U) (PT.updI f (2*a) (a+b) l) (PT.updI f (2*a) (2*a+b) r)
def dM (m:Nat) (h:bk):bk:=if ax m 0 then h else PT.updI (λi b=>if aO m i then uC b else b) 1 0 h
def Xj:Operand->Bool
 |.const (.agg _)=>J
 |_=>aa
def dD (e:h_):Operand->M TV
 |.tmp t=>e.get t
 |.const v=>ane v
 |.func g=>Z (.qy g [])
 |.global g=>match G g with|some _=>Z (.zk kwT [kwV] 0 (Eq.refl J) 0)|none=>U
def K5 (e:h_):Y Operand->M (Y TV)
 |[]=>Z []
 |x::xs=>match dD e x with|some y=>(match K5 e xs with|some d=>Z (y::d)|none=>U)|none=>U
def L_ (cells:Y TV) (e:h_):Y m?->M (Y TV)
 |[]=>Z cells
 |(off,sz,x)::r=>match dD e x with
  |some v=>(match v.cs with
   |some cs=>if (l! cs)==sz&&dK (off+sz) (l! cells) then L_ (splice cells off cs) e r else U
   |none=>U)
  |none=>U
def WF (l:Y TV) (off sz:Nat):Bool->M TV
 |false=>if ax sz 1 then l[off]? else U
 |true=>if dK (off+sz) (l! l) then Z (.agg ((l.drop off).take sz)) else U
def eu (h:bk) (id:Nat):M (Bool×p?):=match h.get id with
 |some (.F _ p T xs)=>Z (p,T.size,l! xs)
 |some (.qj p sz n)=>Z (p,sz,n)
 |some (.I F _ x)|some (.qm F _ x _ _)=>r9 F x
 |_=>U
def lenOf (h:bk):TV->M Nat
 |.f (.sl _) xs=>Z (ah xs)
 |.emp|.nil=>Z 0
 |.G id=>match eu h id with|some (_,_,n)=>Z n|none=>U
 |.qw _ _ n|.sb (.nr _ _ _ n)=>Z n
 |_=>U
mutual
def N9 (h:bk):TV->Bool
 |.G id|.zp id _=>(eu h id).isSome
 |.qd _ _=>J
 |.sb _=>J
 |.agg l|.qg l|.qy _ l=>lZ h l
 |.f _ _=>J
 |.zk _ _ _ _ _=>J
 |.ql _ _ _ _=>J
 |.H _ _=>J
 |.qw _ _ _=>J
 |.emp=>J
 |.nil=>J
 |.mp _=>J
 |.undef=>J
 |.np=>J
 |.qv=>J
def lZ (h:bk):Y TV->Bool
 |[]=>J
 |x::r=>N9 h x&&lZ h r
end
mutual
def Kf (n:Nat):TV->Bool
 |.G id|.zp id _=>dJ id n
 |.qd _ _=>J
 |.sb s=>dJ s.id n
 |.ql id _ _ _|.H id _|.qw id _ _|.mp id=>dJ id n
 |.agg l|.qg l|.qy _ l=>rT n l
 |.f _ _=>J
 |.zk _ _ _ _ _=>J
 |.emp=>J
 |.nil=>J
 |.undef=>J
 |.np=>J
 |.qv=>J
def rT (n:Nat):Y TV->Bool
 |[]=>J
 |x::r=>Kf n x&&rT n r
end
def C0 (t:Tm) (x:t.ty.den):M (Y TV×bk):=
 match rA (λi=>i) t.vs (Rx _ _ x) with
 |some vs=>(match Ps (λi=>i) t.bs (NV _ _ x) PT.leaf with
  |some h=>if lZ h vs&&rT (l! t.bs) vs&&PT.all (λ_ b=>match b with|.C _ l=>lZ h l&&rT (l! t.bs) l|.I _ a _=>dJ a (l! t.bs)|.qm _ _ _ _ _=>aa|_=>J) 1 0 h then Z (vs,h) else U
  |none=>U)
 |none=>U
abbrev KO (R:Type):=TV->Nat->Nat->bk->Nat->M R
def Th:Y TV->TV
 |[x]=>x
 |l=>.qg l
def DI:Y PB->Bool
 |[]=>J
 |.qk::_=>aa
 |_::r=>DI r
def Kw:Y PB->Bool
 |[]=>J
 |.F _ _ _::r=>Kw r
 |_::_=>aa
def vr (h h2:bk) (g:Nat->Nat):Nat->Bool
 |0=>J
 |n+1=>(match eu h (g n) with
  |some (p,s,k)=>(match eu h2 (g n) with|some (d,s',z)=>(p==d)&&ax s s'&&ax k z|none=>aa)
  |none=>J)&&vr h h2 g n
def aie (f:FuncId):Y TV->FuncId
 |[]=>f
 |.qy g _::_=>f+65536*(g+1)
 |_::r=>aie f r
def ang (con:FuncId->M cD) (f:FuncId) (l:Y TV):M cD:=match dJ f 65536 with
 |true=>(match con (aie f l) with|some c=>Z c|none=>con f)
 |false=>U
def ZL (con:FuncId->M cD) (f:FuncId) (l:Y TV) (h:bk) (nx:Nat) (K:KO R):M R:=
 match ang con f l with
 |some c=>(match DK 0 c.pre l h with
  |some ⟨x,m,σ,sm⟩=>(match C0 c.pre x with
   |some _=>ay (c.m x) λy=>(match C0 c.post y with
    |some _=>if dK (l! c.pre.bs) (l! c.post.bs)&&DI c.pre.bs then
      let np:=l! c.pre.bs
      let z:=l! c.post.bs-np
      let g:=λi=>if dJ i np then ip σ i else nx+(i-np)
      (match rA g c.post.vs (Rx _ _ y) with
      |some d=>if !(ax m 0)&&ax (l! c.post.bs) 0&&(PV.tyL c.post.vs).flat then K (Th d) m 0 h nx else
       (match Ps g c.post.bs (NV _ _ y) (dM m h) with
       |some h2=>chk (vr h h2 g np) λ_=>K (Th d) (sm|||m) (sm|||m|||(((1<<<z)-1)<<<nx)) h2 (nx+z)
       |none=>U)
      |none=>U) else if ax (l! c.post.bs) 0&&Kw c.pre.bs then
      let np:=l! c.pre.bs
      let g:=λi=>if dJ i np then ip σ i else nx+(i-np)
      (match rA g c.post.vs (Rx _ _ y) with
      |some d=>(match Ps g c.pre.bs (NV _ _ x) (dM m h) with
       |some h2=>K (Th d) (sm|||m) m h2 nx
       |none=>U)
      |none=>U) else U
    |none=>U)
   |none=>U)
  |none=>U)
 |none=>U
def ani (op:BinOp) (x y:TV) (q:TV->M R):M R:=
 match x,y with
 |.f (.int k) a,.f (.int d) b=>if k==d then
   (match op with
   |.add=>q (.f (.int k) (be k (a+b)))
   |.sub=>q (.f (.int k) (be k (a-b)))
   |.mul=>q (.f (.int k) (be k (a*b)))
   |.rem=>chk (!decide ((b:Int)=0)) λ_=>q (.f (.int k) (bJ a b))
   |.quo=>chk (!decide ((b:Int)=0)) λ_=>q (.f (.int k) (be k (Int.tdiv a b)))
   |.eql=>q (.f .bool (decide ((a:Int)=b)))
   |.neq=>q (.f .bool (!decide ((a:Int)=b)))
   |.lss=>q (.f .bool (fM a b))
   |.leq=>q (.f .bool (dj a b))
   |.gtr=>q (.f .bool (fM b a))
   |.geq=>q (.f .bool (dj b a))
   |_=>U)
  else U
 |.f .str a,.f .str b=>match op with
   |.eql=>q (.f .bool (decide ((a:ζ)=b)))
   |.neq=>q (.f .bool (!decide ((a:ζ)=b)))
   |_=>U
 |_,_=>U
def aab:Bool->Ty->Bool
 |false,.int _=>J
 |true,.str=>J
 |_,_=>aa
def isIt:Ty->Bool
 |.st (.pr .str (.int .i64))=>J
 |_=>aa
def W7 (K:Ty):Bool:= !isIt K
def Ki:Y ((ζ×Int)×Unit)->ζ
 |[]=>[]
 |e::_=>e.1.1
def Ja:Y ((ζ×Int)×Unit)->Nat
 |[]=>0
 |e::_=>aS e.1.2
def QR (s:ζ) (p:Nat):Int:=rnA (List.getD s p 0) ⟨fh s⟩ p
def Wv (s:ζ) (p:Nat):Nat:=wdA (List.getD s p 0) ⟨fh s⟩ p
def itE:(K V:Ty)->Y (K.den×V.den)->M (ζ×Nat)
 |.st (.pr .str (.int .i64)),.un,es=>Z (Ki es,Ja es)
 |_,_,_=>U
def mpE:(K V:Ty)->Y (K.den×V.den)->Bool
 |.un,.un,[]=>J
 |_,_,_=>aa
def yw (T:Ty):Y TV->M (Y T.den)
 |[]=>Z []
 |.f S v::r=>match tZ (S:=S) T v with
  |some x=>(match yw T r with|some l=>Z (x::l)|none=>U)
  |none=>U
 |_::_=>U
def agl:Y TV->M ((T:Ty)×Y T.den)
 |.f T v::r=>match yw T (.f T v::r) with|some l=>Z ⟨T,l⟩|none=>U
 |_=>U
def aqj (n sz:Nat) (v:TV):Bool->M ((T:Ty)×Y T.den)
 |true=>U
 |false=>if ax sz 1&& !v.isC then (match v.cs with|some l=>if ax (l! l) n then agl l else U|none=>U) else U
def arrB (n sz off:Nat):M eG->M ((T:Ty)×Y T.den)
 |some (.C (Z _) l)=>if ax sz 1&&ax off 0&&ax (l! l) n then agl l else U
 |_=>U
def alw:Ty->Nat
 |.pr .un t=>alw t+1
 |_=>0
def FW:M Ty->M Nat
 |some (.pr .un t)=>Z (alw t)
 |_=>U
def alx (ty:TypeId) (sz bytes:Nat) (b y:TV) (h:bk) (nx:Nat) (K:KO R):M R:=match y with
 |.qw id2 sz2 m=>(match h.get id2 with
  |some (.C (Z _) d)=>if ax sz2 sz&&ax (l! d) (m*sz)&& !(ax m 0) then (match b with
   |.qw id sz1 n=>(match h.get id with
    |some (.C (Z ty1) l)=>if ax sz1 sz&&ty1==ty&&ax (l! l) (n*sz)&& !(ax id id2) then
      chk (bh (n+m) bytes) λ_=>K (.qw nx sz (n+m)) (fV id|||fV id2) (fV id|||fV nx) ((h.set id (Z (.qj J 0 0))).set nx (Z (.C (Z ty) (l++d)))) (nx+1) else U
    |_=>U)
   |.nil=>chk (bh m bytes) λ_=>K (.qw nx sz m) (fV id2) (0|||fV nx) ((dM 0 h).set nx (Z (.C (Z ty) d))) (nx+1)
   |_=>U) else U
  |_=>U)
 |_=>U
def akf (ty:TypeId) (sz bytes:Nat) (T:Ty) (b:TV) (d:Y T.den) (m:Nat) (h:bk) (nx:Nat) (K:KO R):M R:=match b with
 |.G id=>(match h.get id with
  |some (.F ty' p S xs)=>(match tZ (S:=.sl S) (.sl T) xs with
   |some xs=>if ty'==ty&& !(aO m id) then
     chk (bh (ah xs+ah d) bytes) λ_=>K (.G nx) (fV id|||m) (fV id|||fV nx) ((h.set id (Z (.qj p sz (ah xs)))).set nx (Z (.F ty p T (xs++d)))) (nx+1)
    else U
   |none=>U)
  |_=>U)
 |.qd S xs=>if ax m 0 then (match tZ (S:=.sl S) (.sl T) xs with
  |some xs=>chk (bh (ah xs+ah d) bytes) λ_=>aL (ax (ah d) 0) (K (.f (.sl T) xs) 0 0 h nx) (K (.G nx) 0 (0|||fV nx) ((dM 0 h).set nx (Z (.F ty aa T (xs++d)))) (nx+1))
  |none=>U) else U
 |.emp|.nil=>chk (bh (ah d) bytes) λ_=>K (.G nx) m (fV nx) (h.set nx (Z (.F ty J T d))) (nx+1)
 |_=>U
def pkT (ok:Bool) (v b:TV):TV:=match ok with|true=>.qg [v,b]|false=>v
def em (con:FuncId->M cD) (co:TypeId->M Ty) (o:SI) (e:h_) (h:bk) (nx:Nat) (K:KO R):M R:=
 match o with
 |.call f args=>match K5 e args with|some l=>ZL con f l h nx K|none=>U
 |.jx x args=>match dD e x,K5 e args with
  |some (.qy f cap),Z l=>ZL con f (l++cap) h nx K
  |_,_=>U
 |.op s=>match s with
  |.zg ty sz bytes z l c=>match FW (co ty) with
   |some n=>(match MW z,dD e l,dD e c with
    |some N,Z (.f (.int _) a),Z (.f (.int _) b)=>chk (dj 0 a&&dj a b&&bh (aS b) bytes&&decide ((a:Int)=aR n)) λ_=>K (.qw nx sz n) 0 (0|||fV nx) ((dM 0 h).set nx (Z (.C (Z ty) (aF n N).flatten))) (nx+1)
    |_,_,_=>U)
   |none=>match co ty,dD e l,dD e c with
   |some T,Z (.f (.int _) a),Z (.f (.int _) b)=>if ax sz T.size&&VJ z (uy T) then
     chk (dj 0 a&&dj a b&&bh (aS b) bytes) λ_=>K (.G nx) 0 (fV nx) (h.set nx (Z (.F ty aa T (aF (aS a) T.zero)))) (nx+1) else U
   |_,_,_=>U
  |.xx ty sz len z parts=>match FW (co ty) with
   |some _=>(match MW z with
    |some N=>(match L_ ((aF len N).flatten) e parts with
     |some cs=>if ax len 0 then U else K (.qw nx sz len) 0 (0|||fV nx) ((dM 0 h).set nx (Z (.C (Z ty) cs))) (nx+1)
     |none=>U)
    |none=>U)
   |none=>match co ty,MW z with
   |some T,Z N=>if ax sz T.size then (match L_ ((aF len N).flatten) e parts with
    |some cs=>(match AW h T len cs with
     |some (xs,m)=>K (.G nx) m (m|||fV nx) ((dM m h).set nx (Z (.F ty (ax len 0) T xs))) (nx+1)
     |none=>U)
    |none=>U) else U
   |_,_=>U
  |.app ty sz bytes s x=>match FW (co ty) with
   |some _=>(match dD e s,dD e x with
    |some b,Z y=>alx ty sz bytes b y h nx K
    |_,_=>U)
   |none=>match co ty,dD e s,dD e x with
   |some T,Z b,Z y=>if ax sz T.size then (match Dk h (.sl T) y with
    |some (ys,m)=>akf ty sz bytes T b ys m h nx K
    |none=>U) else U
   |_,_,_=>U
  |.copy sz d x=>match dD e d,dD e x with
   |some (.G id),Z y=>(match h.get id with
    |some (.F ty p T xs)=>if ax sz T.size then (match Dk h (.sl T) y with
     |some (ys,m)=>if !(aO m id)&& !p then
       K (.f (.int .i64) (aR (jM (ah ys) (ah xs)))) (fV id|||m) (fV id) (h.set id (Z (.F ty p T (Wq xs ys)))) nx else U
     |none=>U) else U
    |_=>U)
   |_,_=>U
  |.clr sz z x=>match dD e x with
   |some (.zp id j)=>(match h.get id with
    |some (.F ty p T xs)=>if (ax sz T.size&&VJ z (uy T))&&nV z then
      chk (dj 0 j&&fM j (ah xs)) λ_=>K (.qg []) (fV id) (0|||fV id) ((dM 0 h).set id (Z (.F ty p T (dg (aS j) xs++aF (ah xs-aS j) T.zero)))) nx
     else U
    |_=>U)
   |_=>U
  |.mv x=>match dD e x with|some v=>K v 0 0 h nx|none=>U
  |.pick c a b=>match dD e c with
   |some (.f .bool t)=>aL t (match dD e a with|some v=>K v 0 0 h nx|none=>U) (match dD e b with|some v=>K v 0 0 h nx|none=>U)
   |_=>U
  |.alloc ty z=>match MW z with
   |some l=>K (.H nx 0) 0 (fV nx) (h.set nx (Z (.C (Z ty) l))) (nx+1)
   |none=>U
  |.box ty x=>match dD e x with
   |some v=>(match v.cs with|some l=>K (.H nx 0) 0 (fV nx) (h.set nx (Z (.C (Z ty) l))) (nx+1)|none=>U)
   |none=>U
  |.build z parts=>match MW z with
   |some l=>(match L_ l e parts with|some cs=>K (.agg cs) 0 0 h nx|none=>U)
   |none=>U
  |.load sz D x=>match dD e x with
   |some (.H id off)=>(match h.get id with
    |some (.C (Z _) l)=>(match WF l off sz D with|some v=>K v (fV id) 0 h nx|none=>U)
    |_=>U)
   |some (.ql id sz' j off)=>(match h.get id with
    |some (.F _ _ T xs)=>if ax sz' T.size then chk (fm j (l! xs)) λ_=>(match nT 40 T (geti _ xs j) off sz D with|some v=>K v (fV id) 0 h nx|none=>U) else U
    |some (.C (Z _) l)=>(match D with
     |true=>U
     |false=>if ax sz 1&&ax sz' 1&&ax off 0 then (match agl l with
      |some ⟨T,xs⟩=>chk (fm j (l! l)) λ_=>K (.f T (geti _ xs j)) (fV id) 0 h nx
      |none=>U) else U)
    |_=>U)
   |some (.zk T xs j _ off)=>(match nT 40 T (geti _ xs j) off sz D with|some v=>K v 0 0 h nx|none=>U)
   |_=>U
  |.store sz x v=>match dD e x,dD e v with
   |some (.H id off),Z y=>(match h.get id with
    |some (.C (Z ty) l)=>(match y.cs with
     |some cs=>if (l! cs)==sz&&dK (off+sz) (l! l) then K .undef (fV id) (fV id) (h.set id (Z (.C (Z ty) (splice l off cs)))) nx else U
     |none=>U)
    |_=>U)
   |some (.ql id sz' j off),Z y=>(match h.get id with
    |some (.F ty p T xs)=>if ax sz' T.size then chk (fm j (l! xs)) λ_=>(match gP h y 40 T (geti _ xs j) off sz with
     |some (z,m)=>if aO m id then U else K .undef (m|||fV id) (m|||fV id) ((dM m h).set id (Z (.F ty p T (cJ xs j z)))) nx
     |none=>U) else U
    |some (.C (Z ty) l)=>if ax sz 1&&(ax sz' 1&&ax off 0) then chk (fm j (l! l)) λ_=>(match y.cs with
     |some cs=>if ax (l! cs) 1 then K .undef (fV id) (fV id) (h.set id (Z (.C (Z ty) (splice l j.toNat cs)))) nx else U
     |none=>U) else U
    |_=>U)
   |_,_=>U
  |.zd x=>match dD e x with
   |some (.H id off)=>K (.H id off) 0 0 h nx
   |some (.ql id sz j off)=>K (.ql id sz j off) 0 0 h nx
   |some (.zk T xs j hj off)=>K (.zk T xs j hj off) 0 0 h nx
   |some (.qy g cap)=>K (.qy g cap) 0 0 h nx
   |_=>U
  |.bin op x y=>match dD e x,dD e y with
   |some u,Z v=>ani op u v λr=>K r 0 0 h nx
   |_,_=>U
  |.jp neg ds x y=>match sI ds,dD e x,dD e y with
   |some T,Z u,Z v=>if u.isC||v.isC||Xj x||Xj y then U else (match u.cs,v.cs with
    |some lu,Z lv=>(match eX PT.leaf 40 T lu,eX PT.leaf 40 T lv with
     |some (a,_,[]),Z (b,_,[])=>K (.f .bool (P1 T a b !=neg)) 0 0 h nx
     |_,_=>U)
    |_,_=>U)
   |_,_,_=>U
  |.zf neg x=>match dD e x with
   |some .nil=>K (.f .bool (!neg)) 0 0 h nx
   |some .emp=>K .qv 0 0 h nx
   |some (.f (.sl _) xs)=>aL (ax (ah xs) 0) (K .qv 0 0 h nx) (K (.f .bool neg) 0 0 h nx)
   |some (.G id)=>(match h.get id with
    |some (.F _ aa _ _)=>K (.f .bool neg) 0 0 h nx
    |_=>U)
   |_=>U
  |.xz neg x y=>match dD e x,dD e y with
   |some (.f .bool a),Z (.f .bool b)=>K (.f .bool ((a==b) !=neg)) 0 0 h nx
   |_,_=>U
  |.not x=>match dD e x with|some (.f .bool b)=>K (.f .bool (!b)) 0 0 h nx|_=>U
  |.conv k x=>match dD e x with|some (.f (.int _) n)=>K (.f (.int k) (be k n)) 0 0 h nx|_=>U
  |.slc sz x lo hi mx=>match dD e x with
   |some v=>(match lo,hi,mx with
    |none,Z (.const (.int _ 0)),Z (.const (.int _ 0))=>if (lenOf h v).isSome then K .emp 0 0 h nx else U
    |none,Z b,U=>(match v,dD e b with
     |.f (.sl T) xs,Z (.f (.int _) j)=>if ax sz T.size then chk (dj 0 j&&dj j (ah xs)) λ_=>K (.f (.sl T) (dg (aS j) xs)) 0 0 h nx else U
     |.G id,Z (.f (.int _) j)=>(match h.get id with
      |some (.F ty p T xs)=>if ax sz T.size then
        chk (dj 0 j&&fM j (ah xs)) λ_=>K (.G nx) (fV id) (fV id|||fV nx) ((h.set id (Z (.qj p sz (ah xs)))).set nx (Z (.F ty aa T (dg (aS j) xs)))) (nx+1)
       else U
      |_=>U)
     |_,_=>U)
    |some b,U,U=>(match v,dD e b with
     |.f (.sl T) xs,Z (.f (.int _) j)=>if ax sz T.size then chk (dj 0 j&&dj j (ah xs)) λ_=>K (.f (.sl T) (List.drop (aS j) xs)) 0 0 h nx else U
     |.G id,Z (.f (.int _) j)=>(match h.get id with
      |some (.F _ _ T xs)=>if ax sz T.size then chk (dj 0 j&&fM j (ah xs)) λ_=>K (.zp id j) 0 0 h nx else U
      |_=>U)
     |_,_=>U)
    |none,Z b,Z b'=>(match v,dD e b,dD e b' with
     |.f (.sl T) xs,Z (.f (.int _) j),Z (.f (.int _) j')=>if ax sz T.size then chk ((decide (j=j')&&dj 0 j)&&dj j (ah xs)) λ_=>K (.qd T (dg (aS j) xs)) 0 0 h nx else U
     |_,_,_=>U)
    |_,_,_=>U)
   |none=>U
  |.jk off x=>match dD e x with
   |some (.H id o)=>K (.H id (o+off)) 0 0 h nx
   |some (.ql id sz j o)=>K (.ql id sz j (o+off)) 0 0 h nx
   |some (.zk T xs j hj o)=>K (.zk T xs j hj (o+off)) 0 0 h nx
   |_=>U
  |.fld off sz D x=>match dD e x with
   |some (.agg l)=>(match WF l off sz D with|some v=>K v 0 0 h nx|none=>U)
   |some (.f T v)=>if T.one then U else (match nT 40 T v off sz D with|some v=>K v 0 0 h nx|none=>U)
   |_=>U
  |.jy sz x i=>match dD e x,dD e i with
   |some (.G id),Z (.f (.int _) j)=>(match h.get id with
    |some (.F _ _ T xs)=>if ax sz T.size then chk (fm j (l! xs)) λ_=>K (.ql id sz j 0) 0 0 h nx else U
    |_=>U)
   |some (.f (.sl T) xs),Z (.f (.int _) j)=>if ax sz T.size then chk (fm j (ah xs)) λhj=>K (.zk T xs j hj 0) 0 0 h nx else U
   |some (.qw id sz' n),Z (.f (.int _) j)=>if ax sz' sz then chk (dj 0 j&&fM j n) λ_=>K (.H id (aS j*sz)) 0 0 h nx else U
   |_,_=>U
  |.jq n sz x i=>match dD e x,dD e i with
   |some (.H id off),Z (.f (.int _) j)=>(match arrB n sz off (h.get id) with
    |some _=>chk (dj 0 j&&fM j n) λ_=>K (.ql id sz j off) 0 0 h nx
    |none=>chk (dj 0 j&&fM j n) λ_=>K (.H id (off+aS j*sz)) 0 0 h nx)
   |_,_=>U
  |.idx n sz D x i=>match dD e x,dD e i with
   |some v,Z (.f (.int _) j)=>(match aqj n sz v D with
    |some ⟨T,xs⟩=>chk (dj 0 j&&fM j n) λ_=>K (.f T (geti _ xs j)) 0 0 h nx
    |none=>(match v with
     |.agg l=>chk (dj 0 j&&fM j n) λ_=>(match WF l (aS j*sz) sz D with|some v=>K v 0 0 h nx|none=>U)
     |.f T v=>if T.one then U else chk (dj 0 j&&fM j n) λ_=>(match nT 40 T v (aS j*sz) sz D with|some v=>K v 0 0 h nx|none=>U)
     |_=>U))
   |_,_=>U
  |.ext x i=>match dD e x with|some (.qg l)=>(match l[i]? with|some v=>K v 0 0 h nx|none=>U)|_=>U
  |.len x=>match dD e x with
   |some v=>(match lenOf h v with|some n=>K (.f (.int .i64) (aR n)) 0 0 h nx|none=>U)
   |none=>U
  |.lens x=>match dD e x with
   |some (.f .str s)=>K (.f (.int .i64) (aR (ah s))) 0 0 h nx
   |_=>U
  |.max x y=>match dD e x,dD e y with
   |some (.f (.int k) a),Z (.f (.int k') b)=>if k==k' then K (.f (.int k) (oI a b)) 0 0 h nx else U
   |_,_=>U
  |.min x y=>match dD e x,dD e y with
   |some (.f (.int k) a),Z (.f (.int k') b)=>if k==k' then K (.f (.int k) (Jb a b)) 0 0 h nx else U
   |_,_=>U
  |.zr x i=>match dD e x,dD e i with
   |some (.f .str s),Z (.f (.int _) j)=>chk (fm j (ah s)) λ_=>K (.f (.int .u8) (sB s j)) 0 0 h nx
   |_,_=>U
  |.rng x=>match dD e x with
   |some (.f .str s)=>K (.H nx 0) 0 (0|||fV nx) ((dM 0 h).set nx (Z (.mp nK .un [((s,0),())]))) (nx+1)
   |_=>U
  |.nxt x=>match dD e x with
   |some (.H id 0)=>(match h.get id with
    |some (.mp K' V es)=>(match itE K' V es with
     |some (s,p)=>aL (dJ p (ah s)) (K (.qg [.f .bool J,.f (.int .i64) (aR p),.f (.int .i32) (QR s p)]) (fV id) (0|||fV id) ((dM 0 h).set id (Z (.mp nK .un [((s,aR (p+Wv s p)),())]))) nx)
       (K (.qg [.f .bool aa]) (fV id) (0|||fV id) ((dM 0 h).set id (Z (.mp nK .un [((s,aR p),())]))) nx)
     |none=>U)
    |_=>U)
   |_=>U
  |.mkm=>K (.mp nx) 0 (0|||fV nx) ((dM 0 h).set nx (Z (.mp .un .un []))) (nx+1)
  |.jv str ok z x k=>match dD e x,dD e k with
   |some (.mp id),Z (.f KT L)=>(match h.get id with
    |some (.mp K' V es)=>if aab str KT&&W7 K' then (match mpE K' V es with
     |true=>(match cst z with|some v=>K (pkT ok v (.f .bool aa)) (fV id) 0 h nx|none=>U)
     |false=>(match tZ (S:=KT) K' L,cst z with
      |some kv',Z (.f A zv)=>(match tZ (S:=A) V zv with
       |some zv'=>K (pkT ok (.f V (vM kv' es zv')) (.f .bool (aaa kv' es))) (fV id) 0 h nx
       |none=>U)
      |_,_=>U)) else U
    |some (.C U l)=>(match tZ (S:=KT) (.int .i64) L with
     |some n=>if !str&&(!ok&&uS z)&&(dj 0 n&&fM n (l! l)) then (match l[aS n]? with|some v=>K v (fV id) 0 h nx|none=>U) else U
     |none=>U)
    |_=>U)
   |_,_=>U
  |.jw str x k v=>match dD e x,dD e k,dD e v with
   |some (.mp id),Z (.f KT L),Z (.f VT vv)=>(match h.get id with
    |some (.mp K' V es)=>if (aab str KT&&VT.one)&&W7 K' then (match mpE K' V es with
     |true=>K .undef (fV id) (0|||fV id) ((dM 0 h).set id (Z (.mp KT VT [(L,vv)]))) nx
     |false=>(match tZ (S:=KT) K' L,tZ (S:=VT) V vv with
      |some kv',Z vv'=>K .undef (fV id) (0|||fV id) ((dM 0 h).set id (Z (.mp K' V (vJ kv' vv' es)))) nx
      |_,_=>U)) else U
    |_=>U)
   |some (.mp id),Z (.f KT L),Z (.G i)=>(match h.get id with
    |some (.C U l)=>(match tZ (S:=KT) (.int .i64) L with
     |some n=>if !str&&(dj 0 n&&fM n (l! l)) then K .undef (fV id) (0|||fV id) ((dM 0 h).set id (Z (.C U (splice l (aS n) [.G i])))) nx else U
     |none=>U)
    |_=>U)
   |_,_,_=>U
  |.jz x=>match dD e x with
   |some (.mp id)=>(match h.get id with
    |some (.mp K' _ es)=>if W7 K' then K (.f (.int .i64) (aR (l! es))) (fV id) 0 h nx else U
    |_=>U)
   |_=>U
  |.mkf f caps=>match K5 e caps with|some l=>K (.qy f l) 0 0 h nx|none=>U
  |_=>U
abbrev BR (S:Ty):Type:=S.den×Y (Int×Bool)×Y (Int×Bool)
def dV (S:Ty) (xs:Y (BR S)) (j:Int):BR S:=xs.getD j.toNat (S.zero,[],[])
def qY {S:Ty} (xs:Y (BR S)) (j:Int) (o:BR S):Y (BR S):=xs.set j.toNat o
def ul (d:η) (j:Int):Int:=d.getD j.toNat 0
variable {T:Ty}
def xF (xss:Y (Y T.den)) (j:Int):Y T.den:=xss.getD j.toNat []
def Dw (xss:Y (Y T.den)) (j:Int) (xs:Y T.den):Y (Y T.den):=xss.set j.toNat xs
def sG {S:Ty} (b:Nat) (o:BR S):Y r?:=match b with|0=>o.2.1|_=>o.2.2
def vx {S:Ty} (b:Nat) (o:BR S) (m:Y r?):BR S:=match b with|0=>(o.1,m,o.2.2)|_=>(o.1,o.2.1,m)
def af1 (v:TV):M Γ:=if v.isC then U else match v.cs with
 |some [.f (.int .i64) a,.f (.int .i64) b]=>Z (a,b)
 |_=>U
def Oc (k d:Γ):Bool:=decide (k.1=d.1)&&decide (k.2=d.2)
abbrev e?:=Γ×Int
def ui (k:Γ):Y e?->Bool
 |[]=>aa
 |e::r=>Oc k e.1||ui k r
def fc (k:Γ):Y e?->Int
 |[]=>0
 |e::r=>match Oc k e.1 with|true=>e.2|false=>fc k r
def AZ (k:Γ):Y e?->Y e?
 |[]=>[]
 |e::r=>match Oc k e.1 with|true=>r|false=>e::AZ k r
def stN:Ty->Nat
 |.st t=>stN t+1
 |_=>0
def isRr:M Ty->Bool
 |some (.pr .bool (.pr _ (.sl _)))=>J
 |_=>aa
def af6:ξ->Bool
 |[.slice U 0 0]=>J
 |_=>aa
def aqe:M TV->Bool
 |some (.sb _)=>J
 |_=>aa
def Xh:M eG->Bool
 |some (.I _ _ _)=>J
 |some (.qm _ _ _ _ _)=>J
 |_=>aa
def Be (h:bk):M TV->Bool
 |some (.sb _)=>J
 |some (.ql id _ _ _)|some (.G id)=>Xh (h.get id)
 |_=>aa
def aqg (co:TypeId->M Ty) (e:h_) (h:bk):SI->Bool
 |.op (.load _ _ x)|.op (.store _ x _)|.op (.zd x)|.op (.jk _ x)|.op (.jy _ x _)|.op (.jv _ _ _ x _)|.op (.jw _ x _ _)=>Be h (dD e x)
 |.op (.app _ _ _ s x)=>Be h (dD e s)||aqe (dD e x)
 |.op (.zg ty _ _ _ _ _)=>isRr (co ty)
 |.op (.zn _ _)=>J
 |.op (.xq _ _ _ _)=>J
 |.op (.jh _ _ _ _)=>J
 |.op (.xj _ _ _)=>J
 |_=>aa
def pA (co:TypeId->M Ty) (e:h_) (h:bk) (nx:Nat) (K:KO R):O1->M R
 |.load sz D x=>match dD e x with
  |some (.sb (.ob id j off))=>(match h.get id with
   |some (.I (.ar _ S) _ xs)=>chk (fm j (ah (α:=BR S) xs)) λ_=>
     if D then U else if dJ off S.size then (match nT 40 S (dV S xs j).1 off sz aa with|some v=>K v (fV id) 0 h nx|none=>U)
     else if ax sz 1&&dJ off (S.size+2) then K (.sb (.om id j (off-S.size))) (fV id) 0 h nx else U
   |_=>U)
  |some (.sb (.np id j s i off))=>(match h.get id with
   |some (.I (.ir _ T) _ xss)=>if ax s T.size then chk (fm j (ah (α:=Y T.den) xss)) λ_=>chk (fm i (ah (xF (T:=T) xss j))) λ_=>
     (match nT 40 T (geti _ (xF (T:=T) xss j) i) off sz D with|some v=>K v (fV id) 0 h nx|none=>U) else U
   |_=>U)
  |some (.ql id s j off)=>if (ax sz 1&& !D)&&(ax s 1&&ax off 0) then (match h.get id with
   |some (.I (.qc _) a A)=>chk (fm j (ah (α:=Int) A)) λ_=>K (.sb (.ob a (ul A j) 0)) (fV id) 0 h nx
   |some (.I (.rr _ z) a ls)=>chk (fm j (ah (α:=Int) ls)) λ_=>K (.sb (.nr a j z (aS (ul ls j)))) (fV id) 0 h nx
   |_=>U) else U
  |_=>U
 |.store sz x v=>match dD e x,dD e v with
  |some (.sb (.ob id j off)),Z y=>(match h.get id with
   |some (.I (.ar ty S) a xs)=>chk (fm j (ah (α:=BR S) xs)) λ_=>(match gP h y 40 S (dV S xs j).1 off sz with
    |some (z,m)=>if ax m 0 then K .undef (fV id) (0|||fV id) ((dM 0 h).set id (Z (.I (.ar ty S) a (qY (S:=S) xs j (z,(dV S xs j).2))))) nx else U
    |none=>U)
   |_=>U)
  |some (.sb (.np id j s i off)),Z y=>(match h.get id with
   |some (.I (.ir ty T) a xss)=>if ax s T.size then chk (fm j (ah (α:=Y T.den) xss)) λ_=>chk (fm i (ah (xF (T:=T) xss j))) λ_=>(match gP h y 40 T (geti _ (xF (T:=T) xss j) i) off sz with
    |some (z,m)=>if ax m 0 then K .undef (fV id) (0|||fV id) ((dM 0 h).set id (Z (.I (.ir ty T) a (Dw (T:=T) xss j (cJ (xF (T:=T) xss j) i z))))) nx else U
    |none=>U) else U
   |_=>U)
  |some (.ql id s j off),Z (.G r)=>if ax sz 1&&(ax s 1&&ax off 0) then (match h.get id,h.get r with
   |some (.I (.rr ty z) a ls),Z (.F _ p T xs)=>if ax z T.size then chk (fm j (ah (α:=Int) ls)) λ_=>chk (p|| !(ax (ah xs) 0)) λ_=>K .undef (fV id) (0|||fV id) ((dM 0 h).set id (Z (.qm (.rr ty z) a ls (j,0) (Z (r,J,ah xs))))) nx else U
   |_,_=>U) else U
  |_,_=>U
 |.zd x=>match dD e x with
  |some (.sb (.ob id j off))=>K (.sb (.ob id j off)) 0 0 h nx
  |some (.sb (.np id j s i off))=>K (.sb (.np id j s i off)) 0 0 h nx
  |_=>U
 |.jk off x=>match dD e x with
  |some (.sb (.ob id j o))=>K (.sb (.ob id j (o+off))) 0 0 h nx
  |some (.sb (.np id j s i o))=>K (.sb (.np id j s i (o+off))) 0 0 h nx
  |_=>U
 |.jy sz x i=>match dD e x,dD e i with
  |some (.G id),Z (.f (.int _) j)=>(match eu h id with
   |some (_,s,n)=>if ax s sz&&Xh (h.get id) then chk (fm j n) λ_=>K (.ql id sz j 0) 0 0 h nx else U
   |none=>U)
  |some (.sb (.nr id j s n)),Z (.f (.int _) i)=>if ax s sz then chk (fm i n) λ_=>K (.sb (.np id j sz i 0)) 0 0 h nx else U
  |_,_=>U
 |.jv str ok z x k=>match dD e x,dD e k with
  |some (.sb (.om id j b)),Z (.f (.int .i64) d)=>(match h.get id,z with
   |some (.I (.ar _ S) _ xs),.bool N=>if !str&&dJ b 2 then chk (fm j (ah (α:=BR S) xs)) λ_=>
     K (pkT ok (.f .bool (vM (K:=.int .i64) (V:=.bool) d (sG b (dV S xs j)) N)) (.f .bool (aaa (K:=.int .i64) (V:=.bool) d (sG b (dV S xs j))))) (fV id) 0 h nx else U
   |_,_=>U)
  |_,_=>U
 |.jw str x k v=>match dD e x,dD e k,dD e v with
  |some (.sb (.om id j b)),Z (.f (.int .i64) d),Z (.f .bool vv)=>(match h.get id with
   |some (.I (.ar ty S) a xs)=>if !str&&dJ b 2 then chk (fm j (ah (α:=BR S) xs)) λ_=>
     K .undef (fV id) (0|||fV id) ((dM 0 h).set id (Z (.I (.ar ty S) a (qY (S:=S) xs j (vx b (dV S xs j) (vJ (K:=.int .i64) (V:=.bool) d vv (sG b (dV S xs j)))))))) nx else U
   |_=>U)
  |_,_,_=>U
 |.app ty sz bytes s x=>match dD e s,dD e x with
  |some (.G id),Z (.qw id2 1 1)=>(match h.get id,h.get id2 with
   |some (.I (.qc ty') a A),Z (.C (Z _) [.sb (.ob a' j 0)])=>if (ax sz 1&&ty==ty')&&(ax a a'&& !(ax id id2)) then
     chk (bh (ah (α:=Int) A+1) bytes) λ_=>K (.G nx) (fV id|||fV id2) (fV id|||fV nx) ((h.set id (Z (.qj J 1 (ah (α:=Int) A)))).set nx (Z (.I (.qc ty) a (sK (α:=Int) A [j])))) (nx+1) else U
   |_,_=>U)
  |some (.sb (.nr id j s n)),Z y=>(match h.get id with
   |some (.I (.ir ty' T) a xss)=>if ax s T.size&&(ax sz T.size&&ty==ty') then chk (fm j (ah (α:=Y T.den) xss)) λ_=>(match Dk h (.sl T) y with
    |some (L,m)=>if aO m id then U else chk (ax n (ah (xF (T:=T) xss j))&&bh (n+ah L) bytes) λ_=>
      K (.G nx) (fV id|||m) (fV id|||fV nx) ((h.set id (Z (.I (.ir ty T) a (Dw (T:=T) xss j [])))).set nx (Z (.F ty J T (xF (T:=T) xss j++L)))) (nx+1)
    |none=>U) else U
   |_=>U)
  |some b,Z (.sb (.nr id j s n))=>(match h.get id with
   |some (.I (.ir _ T) _ xss)=>if ax s T.size&&ax sz T.size then chk (fm j (ah (α:=Y T.den) xss)) λ_=>chk (ax n (ah (xF (T:=T) xss j))) λ_=>akf ty sz bytes T b (xF (T:=T) xss j) (fV id) h nx K else U
   |_=>U)
  |_,_=>U
 |.zg ty sz bytes z l c=>match co ty,dD e l,dD e c with
  |some (.pr .bool (.pr q (.sl T))),Z (.f (.int _) a),Z (.f (.int _) b)=>if ax sz 1&&af6 z then
    chk (dj 0 a&&dj a b&&bh (aS b) bytes) λ_=>K (.G nx) 0 (fV nx) ((h.set nx (Z (.I (.rr ty T.size) (nx+1) (aF (aS a) (0:Int))))).set (nx+1) (Z (.I (.ir (stN q) T) 0 (aF (aS a) ([]:Y T.den))))) (nx+2) else U
  |_,_,_=>U
 |.zn neg x=>match dD e x with
  |some (.sb (.ob _ _ _))|some (.H _ _)=>K (.f .bool neg) 0 0 h nx
  |some .np=>K (.f .bool (!neg)) 0 0 h nx
  |_=>U
 |.xq [.int .i64,.int .i64] z x k=>match dD e x,(dD e k).bind af1,z with
  |some (.mp id),Z d,.pointer U=>(match h.get id with
   |some (.I .qh a es)=>aL (ui d es) (K (.sb (.ob a (fc d es) 0)) (fV id) 0 h nx) (K .np (fV id) 0 h nx)
   |_=>U)
  |_,_,_=>U
 |.jh [.int .i64,.int .i64] x k v=>match dD e x,(dD e k).bind af1,dD e v with
  |some (.mp id),Z d,Z (.H p 0)=>(match h.get id with
   |some (.I .qh a es)=>K .undef (fV id) (0|||fV id) ((dM 0 h).set id (Z (.qm .qh a es d (Z (p,aa,0))))) nx
   |_=>U)
  |_,_,_=>U
 |.xj [.int .i64,.int .i64] x k=>match dD e x,(dD e k).bind af1 with
  |some (.mp id),Z d=>(match h.get id with
   |some (.I .qh a es)=>K (.qg []) (fV id) (0|||fV id) ((dM 0 h).set id (Z (.I .qh a (AZ d es)))) nx
   |_=>U)
  |_,_=>U
 |_=>U
def opK (con:FuncId->M cD) (co:TypeId->M Ty) (o:SI) (e:h_) (h:bk) (nx:Nat) (K:KO R):M R:=match aqg co e h o with
 |true=>(match o with|.op s=>pA co e h nx K s|_=>U)
 |false=>em con co o e h nx K
def adf (e:h_) (g:M (Nat×Bool)) (K:Bool->h_->M R):M R:=match g with
 |none=>K J e
 |some (t,want)=>match e.get t with
  |some (.f .bool b)=>(match want with
   |true=>aL b (K J (e.set t (Z (.f .bool J)))) (K aa (e.set t (Z (.f .bool aa))))
   |false=>aL b (K aa (e.set t (Z (.f .bool J)))) (K J (e.set t (Z (.f .bool aa)))))
  |some .undef=>K aa e
  |_=>U
def Gt (e:h_) (d:M Nat) (v:TV):h_:=match d with
 |none=>e
 |some d=>e.set d (Z v)
structure TS where
 e:h_
 h:bk
 nx:Nat
def N6 (con:FuncId->M cD) (co:TypeId->M Ty):Y t8->TS->Y FPm->(TS->Y FPm->M R)->M R
 |[],s,d,K=>K s d.reverse
 |o::r,s,d,K=>adf s.e o.guard λrun e=>match run with
  |true=>opK con co o.op e s.h s.nx λv rd z h nx=>if N9 h v then N6 con co r ⟨Gt e o.dst v,h,nx⟩ (⟨rd,z⟩::d) K else U
  |false=>N6 con co r ⟨Gt e o.dst .undef,s.h,s.nx⟩ (⟨0,0⟩::d) K
inductive Adj where
 |nil (k:Nat) (ty:TypeId) (T:Ty)
 |qb (k:Nat) (off:Nat) (ty:TypeId) (T:Ty)
 |mpt (k:Nat) (K V:Ty)
 |mz (k n:Nat)
 |pk (k:Nat) (off:Nat) (T:Ty)
 |qx (k:Nat) (off:Nat)
 |fmp (k off:Nat) (ty:TypeId) (S:Ty)
 |frw (k off off2:Nat) (ty:TypeId)
 |jm (k off:Nat)
mutual
def NS (id sz n:Nat):TV->TV
 |.qw i s m=>if ax i id&&ax s sz&&ax m n then .G id else .qw i s m
 |.agg l=>.agg (Eo id sz n l)
 |.qg l=>.qg (Eo id sz n l)
 |.qy g l=>.qy g (Eo id sz n l)
 |.f T v=>.f T v
 |.zk T xs j h off=>.zk T xs j h off
 |.ql a b c d=>.ql a b c d
 |.H a b=>.H a b
 |.G a=>.G a
 |.zp a j=>.zp a j
 |.qd T xs=>.qd T xs
 |.sb s=>.sb s
 |.emp=>.emp
 |.nil=>.nil
 |.mp a=>.mp a
 |.undef=>.undef
 |.np=>.np
 |.qv=>.qv
def Eo (id sz n:Nat):Y TV->Y TV
 |[]=>[]
 |x::r=>NS id sz n x::Eo id sz n r
end
def WG (id sz n:Nat):eG->eG
 |.C ty l=>.C ty (Eo id sz n l)
 |.F ty p T xs=>.F ty p T xs
 |.qj p s m=>.qj p s m
 |.mp K V es=>.mp K V es
 |.I F a x=>.I F a x
 |.qm F a x k p=>.qm F a x k p
def aqv (s:TS) (k off:Nat):M (Nat×p?):=match s.e.get k with
 |some (.qw id sz n)=>Z (id,sz,n)
 |some (.agg l)=>(match l[off]? with|some (.qw id sz n)=>Z (id,sz,n)|_=>U)
 |some (.H a o)=>(match s.h.get a with
  |some (.C (Z _) l)=>(match l[o+off]? with|some (.qw id sz n)=>Z (id,sz,n)|_=>U)
  |_=>U)
 |_=>U
def pkS (s:TS) (T:Ty) (id sz n:Nat):M TS:=match s.h.get id with
 |some (.C (Z ty) l)=>if ax sz T.size then (match AW s.h T n l with
  |some (xs,m)=>if aO m id then U else Z ⟨PT.updI (λ_ v=>NS id sz n v) 1 0 s.e,(PT.updI (λ_ b=>WG id sz n b) 1 0 (dM m s.h)).set id (Z (.F ty aa T xs)),s.nx⟩
  |none=>U) else U
 |_=>U
def af5:TV->Bool
 |.nil=>J
 |.emp=>J
 |_=>aa
def alp:M TV->M p?
 |some (.H id o)=>Z (id,o)
 |some (.qw id _ _)|some (.mp id)=>Z (id,0)
 |_=>U
def afy (s:TS) (k off:Nat):M Nat:=match s.e.get k with
 |some (.mp id)|some (.G id)=>Z id
 |some (.H b o)=>(match s.h.get b with
  |some (.C (Z _) l)=>(match l[o+off]? with|some (.mp id)=>Z id|some (.G id)=>Z id|_=>U)
  |_=>U)
 |_=>U
def shf (n:Nat) (j:Int):Int:=if dJ j.toNat n then j else aR (j.toNat+1)
def KL (n:Nat) (es:Y e?):Y e?:=es.map λe=>(e.1,shf n e.2)
def xQ (k:Γ) (v:Int):Y e?->Y e?
 |[]=>[(k,v)]
 |e::r=>match Oc k e.1 with|true=>(k,v)::r|false=>e::xQ k v r
def rnX (len:Nat):(F:t_)->F.ty.den->F.ty.den
 |.qc _,d=>fX (shf len) d
 |.qh,es=>KL len es
 |_,x=>x
def aqf:t_->Bool
 |.qc _=>J
 |.qh=>J
 |_=>aa
def rnF (a n len:Nat):eG->eG
 |.I F b x=>if aqf F&&ax b a then .I F n (rnX len F x) else .I F b x
 |b=>b
def aja:M eG->M (Y r?)
 |some (.mp (.int .i64) .bool es)=>Z es
 |some (.mp .un .un [])=>Z []
 |_=>U
def adr (s:TS) (o a p:Nat) (kk:Γ) (es:Y e?):M TS:=match s.h.get a,s.h.get p with
 |some (.I (.ar ty S) _ xs),Z (.C (Z ty') l)=>if ty'==ty then (match eX s.h 40 S l with
  |some (z,m,[.mp m1,.mp m2])=>(match aja (s.h.get m1),aja (s.h.get m2) with
   |some e1,Z e2=>if ax m 0&& !(ax m1 m2) then
     Z ⟨s.e,((((((PT.updI (λ_ b=>rnF a s.nx (ah (α:=BR S) xs) b) 1 0 s.h).set o (Z (.I .qh s.nx (xQ kk (aR (ah (α:=BR S) xs)) (KL (ah (α:=BR S) xs) es))))).set a (Z (.qj J 0 0))).set p (Z (.qj J 0 0))).set m1 (Z (.qj J 0 0))).set m2 (Z (.qj J 0 0))).set s.nx (Z (.I (.ar ty S) 0 (sK (α:=BR S) xs [(z,e1,e2)]))),s.nx+1⟩ else U
   |_,_=>U)
  |_=>U) else U
 |_,_=>U
def ams (s:TS) (o a r n:Nat) (j:Int) (ty:TypeId) (z:Nat) (ls:η):M TS:=match s.h.get a,s.h.get r with
 |some (.I (.ir ty2 T) _ xss),Z (.F ty3 p S xs)=>(match tZ (S:=.sl S) (.sl T) xs with
  |some xs'=>if ty3==ty2 then
    Z ⟨s.e,(((s.h.set o (Z (.I (.rr ty z) s.nx (wn (α:=Int) ls j.toNat (aR n))))).set a (Z (.qj J 0 0))).set r (Z (.qj p S.size (ah xs)))).set s.nx (Z (.I (.ir ty2 T) 0 (Dw (T:=T) xss j xs'))),s.nx+1⟩ else U
  |none=>U)
 |_,_=>U
def af7 (F:t_):Bool:=ax (F.aid 1) 0
def rnG (a n:Nat):eG->eG
 |.I F b x=>if !(af7 F)&&ax b a then .I F n x else .I F b x
 |b=>b
def amv (s:TS) (a:Nat):M TS:=match s.h.get a with
 |some (.I F _ x)=>if af7 F then Z ⟨s.e,((PT.updI (λ_ b=>rnG a s.nx b) 1 0 s.h).set a (Z (.qj J 0 0))).set s.nx (Z (.I F 0 x)),s.nx+1⟩ else U
 |_=>U
def amq (s:TS) (o:Nat):M TS:=match s.h.get o with
 |some (.qm .qh a es kk (Z (p,aa,0)))=>adr s o a p kk es
 |some (.qm (.rr ty z) a ls kk (Z (r,J,n)))=>ams s o a r n kk.1 ty z ls
 |some (.I F a _)=>if af7 F then U else amv s a
 |_=>U
def Hu (s:TS):Adj->M TS
 |.nil k ty T=>match s.e.get k with
  |some v=>if af5 v then Z ⟨s.e.set k (Z (.G s.nx)),s.h.set s.nx (Z (.F ty J T [])),s.nx+1⟩ else Z s
  |none=>U
 |.qb k off ty T=>match alp (s.e.get k) with
  |some (id,o)=>(match s.h.get id with
   |some (.C cty l)=>(match l[o+off]? with
    |some v=>if af5 v then Z ⟨s.e,(s.h.set s.nx (Z (.F ty J T []))).set id (Z (.C cty (splice l (o+off) [.G s.nx]))),s.nx+1⟩ else Z s
    |none=>U)
   |_=>U)
  |_=>U
 |.mpt k K V=>match s.e.get k with
  |some (.mp id)=>(match s.h.get id with
   |some (.mp K' V' es)=>(match mpE K' V' es&&W7 K with
    |true=>Z ⟨s.e,s.h.set id (Z (.mp K V [])),s.nx⟩
    |false=>Z s)
   |_=>U)
  |_=>U
 |.mz k n=>match s.e.get k with
  |some (.mp id)=>(match s.h.get id with
   |some (.mp K' V' es)=>(match mpE K' V' es with
    |true=>Z ⟨s.e,s.h.set id (Z (.C U (aF n .nil))),s.nx⟩
    |false=>U)
   |_=>Z s)
  |_=>U
 |.pk k off T=>match aqv s k off with
  |some (id,sz,n)=>pkS s T id sz n
  |none=>U
 |.qx k off=>match s.e.get k with
  |some (.H b o)=>(match s.h.get b with
   |some (.C (Z cty) l)=>(match l[o+off]? with
    |some (.G id)=>(match s.h.get id with
     |some (.F ty p T xs)=>Z ⟨s.e,((s.h.set id (Z (.qj p T.size (l! xs)))).set s.nx (Z (.F ty p T xs))).set b (Z (.C (Z cty) (splice l (o+off) [.G s.nx]))),s.nx+1⟩
     |some (.I (.qc ty) a d)=>Z ⟨s.e,((s.h.set id (Z (.qj J 1 (ah (α:=Int) d)))).set s.nx (Z (.I (.qc ty) a d))).set b (Z (.C (Z cty) (splice l (o+off) [.G s.nx]))),s.nx+1⟩
     |_=>U)
    |_=>U)
   |_=>U)
  |some (.G id)=>(match s.h.get id with
   |some (.F ty p T xs)=>Z ⟨s.e.set k (Z (.G s.nx)),(s.h.set id (Z (.qj p T.size (l! xs)))).set s.nx (Z (.F ty p T xs)),s.nx+1⟩
   |_=>U)
  |_=>U
 |.fmp k off ty S=>match afy s k off with
  |some id=>(match s.h.get id with
   |some (.mp K' V' es)=>if mpE K' V' es then Z ⟨s.e,(s.h.set id (Z (.I .qh s.nx []))).set s.nx (Z (.I (.ar ty S) 0 [])),s.nx+1⟩ else U
   |some (.I _ _ _)=>Z s
   |_=>U)
  |none=>U
 |.frw k off off2 ty=>match afy s k off2,alp (s.e.get k) with
  |some o,Z (id,q)=>(match s.h.get o,s.h.get id with
   |some (.I .qh a _),Z (.C cty l)=>(match l[q+off]? with
    |some v=>if af5 v then Z ⟨s.e,(s.h.set s.nx (Z (.I (.qc ty) a []))).set id (Z (.C cty (splice l (q+off) [.G s.nx]))),s.nx+1⟩ else Z s
    |none=>U)
   |_,_=>U)
  |_,_=>U
 |.jm k off=>match afy s k off with
  |some o=>amq s o
  |none=>U
def VQ (s:TS):Y Adj->M TS
 |[]=>Z s
 |a::r=>match Hu s a with|some s'=>VQ s' r|none=>U
structure Ann where
 zq:ι
 ks:ι
 t:Tm
 pre:List Adj
abbrev Ann.D (A:Ann):Type:=A.t.ty.den
mutual
def vO:TV->Bool
 |.f _ _=>J
 |.zk _ _ _ _ _=>J
 |.emp=>J
 |.nil=>J
 |.undef=>J
 |.np=>J
 |.qv=>J
 |.agg l|.qg l=>rU l
 |.ql _ _ _ _=>aa
 |.H _ _=>aa
 |.qw _ _ _=>aa
 |.G _=>aa
 |.zp _ _=>aa
 |.qd _ _=>aa
 |.sb _=>aa
 |.mp _=>aa
 |.qy _ _=>aa
def rU:Y TV->Bool
 |[]=>J
 |x::r=>vO x&&rU r
end
def E0 (am:Nat) (e:h_):ι->h_
 |[]=>PT.leaf
 |k::r=>match e.get k with|some v=>if vO v&& !(aO am k) then (E0 am e r).set k (Z v) else E0 am e r|none=>E0 am e r
def kr (e:h_):ι->M (Y TV)
 |[]=>Z []
 |k::r=>match e.get k with|some v=>(match kr e r with|some l=>Z (v::l)|none=>U)|none=>U
def aa0 (e:h_):ι->Y TV->h_
 |k::r,v::l=>(aa0 e r l).set k (Z v)
 |_,_=>e
def Kh (am:Nat) (e0 e:h_):ι->Bool
 |[]=>J
 |k::r=>(match e0.get k with
  |some v=> !(vO v)||aO am k||(match e.get k with|some _=>J|none=>aa)
  |none=>J)&&Kh am e0 e r
def OA (np:Nat) (A:Ann) (am:Nat) (d s:TS):M A.D:=if dK np (l! A.t.bs)&&Kh am d.e s.e A.zq then (match VQ s A.pre with
 |some s=>(match kr s.e A.ks with
  |some vs=>(match DK np A.t vs s.h with
   |some ⟨x,_,_,_⟩=>Z x
   |none=>U)
  |none=>U)
 |none=>U) else U
def I4 (A:Ann) (am:Nat) (s:TS) (x:A.D):M TS:=match C0 A.t x with
 |some (vs,h)=>if ax (l! vs) (l! A.ks) then Z ⟨aa0 (E0 am s.e A.zq) A.ks vs,h,l! A.t.bs⟩ else U
 |none=>U
inductive TC where
 |skip
 |zl (ops:List t8) (prs:List (Nat×Nat))
 |seq (a b:TC)
 |zh (A:Ann) (a b:TC)
 |cond (c:Nat) (a b:TC)
 |block (id:Nat) (b:TC)
 |zj (A:Ann) (id:Nat) (b:TC)
 |loop (A:Ann) (b:TC)
 |exit (id:Nat)
 |ret
 |defer (f:FuncId) (caps:List Operand) (t:Nat)
 |adj (l:List Adj) (c:TC)
 |split (k off lo n:Nat) (c:TC)
 |bsp (t:Nat) (a b:TC)
 |unl (n:Nat) (b:TC)
 |zm
def Sc:Y t8->Nat->Nat
 |[],acc=>acc
 |o::r,acc=>Sc r (match o.dst with|some d=>acc|||fV d|none=>acc)
def N':ι->Nat->Nat
 |[],acc=>acc
 |k::r,acc=>N' r (acc|||fV k)
def ku:Y Adj->Nat->Nat
 |[],acc=>acc
 |.nil k _ _::r,acc=>ku r (acc|||fV k)
 |.qb _ _ _ _::r,acc|.mpt _ _ _::r,acc|.mz _ _::r,acc|.pk _ _ _::r,acc=>ku r acc
 |.qx k _::r,acc=>ku r (acc|||fV k)
 |.fmp _ _ _ _::r,acc|.frw _ _ _ _::r,acc|.jm _ _::r,acc=>ku r acc
def TC.asg:TC->Nat->Nat
 |.zl ops _,acc=>Sc ops acc
 |.seq a b,acc=>b.asg (a.asg acc)
 |.zh A a b,acc=>b.asg (a.asg (N' A.ks acc))
 |.cond _ a b,acc=>b.asg (a.asg acc)
 |.block _ b,acc=>b.asg acc
 |.zj A _ b,acc|.loop A b,acc=>b.asg (N' A.ks acc)
 |.defer _ _ t,acc=>acc|||fV t
 |.adj l c,acc=>c.asg (ku l acc)
 |.split _ _ _ _ c,acc=>c.asg acc
 |.bsp _ a b,acc=>b.asg (a.asg acc)
 |.unl _ b,acc=>b.asg acc
 |.skip,acc|.exit _,acc|.ret,acc|.zm,acc=>acc
inductive ahg where
 |j (A:Ann)
 |a (l:List Adj)
 |s (k off lo n:Nat)
 |b (t k off lo n:Nat)
 |u (n:Nat)
def KA (H:PT ahg) (n:Nat) (c:TC):TC:=match H.get n with|some (.a l)=>.adj l c|some (.s k off d m)=>.split k off d m c|some (.b t k off d m)=>.bsp t (.split k off d m c) c|_=>c
def FO (H:PT ahg):SC->Nat->TC×Nat
 |.skip,n=>(KA H n .skip,n+1)
 |.zl o p,n=>(KA H n (.zl o p),n+1)
 |.seq a b,n=>match FO H a (n+1) with
  |(d,k)=>(match FO H b k with|(b',z)=>((match H.get n with|some (.j A)=>.zh A d b'|_=>.seq d b'),z))
 |.cond c a b,n=>match FO H a (n+1) with
  |(d,k)=>(match FO H b k with|(b',z)=>(KA H n (.cond c d b'),z))
 |.block id b,n=>match FO H b (n+1) with|(b',k)=>((match H.get n with|some (.j A)=>.zj A id b'|_=>.block id b'),k)
 |.loop b,n=>match FO H b (n+1) with|(b',k)=>((match H.get n with|some (.j A)=>.loop A b'|some (.u m)=>.unl m b'|_=>.zm),k)
 |.exit id,n=>(KA H n (.exit id),n+1)
 |.ret,n=>(KA H n .ret,n+1)
 |.defer f c t,n=>(.defer f c t,n+1)
 |.zm,n=>(.zm,n+1)
def afb (s:TS) (k off:Nat):M (IntKind×Int):=match s.e.get k with
 |some (.f (.int kd) v)=>Z (kd,v)
 |some (.H a o)=>(match s.h.get a with
  |some (.C (Z _) l)=>(match l[o+off]? with|some (.f (.int kd) v)=>Z (kd,v)|_=>U)
  |_=>U)
 |_=>U
def WL (s:TS) (k off:Nat) (kd:IntKind) (v:Int):M TS:=match s.e.get k with
 |some (.f (.int _) _)=>Z ⟨s.e.set k (Z (.f (.int kd) v)),s.h,s.nx⟩
 |some (.H a o)=>(match s.h.get a with
  |some (.C (Z ty) l)=>Z ⟨s.e,s.h.set a (Z (.C (Z ty) (splice l (o+off) [.f (.int kd) v]))),s.nx⟩
  |_=>U)
 |_=>U
def spl (v:Int) (f:Nat->M R):Nat->Nat->M R
 |_,0=>U
 |i,m+1=>aL (decide ((v:Int)=aR i)) (f i) (spl v f (i+1) m)
def ai3 (f:TS->(Ex->TS->M R)->M R):Nat->TS->(Ex->TS->M R)->M R
 |0,_,_=>U
 |m+1,s,K=>f s λex s'=>match ex with
  |.normal=>ai3 f m s' K
  |ex=>K ex s'
def oS {R:Type} (np:Nat) (con:FuncId->M cD) (co:TypeId->M Ty) (inert:FuncId->Bool):TC->TS->(Ex->TS->M R)->M R
 |.skip,s,K=>K .normal s
 |.zl ops prs,s,K=>N6 con co ops s [] λs' z=>if HS z prs then K .normal s' else U
 |.seq a b,s,K=>oS np con co inert a s λex s'=>match ex with|.normal=>oS np con co inert b s' K|ex=>K ex s'
 |.zh A a b,s,K=>jn (oS np con co inert a s λex s'=>match ex with
   |.normal=>ay (OA np A (a.asg 0) s s') λx=>Z (.inr x)
   |ex=>ay (K ex s') λr=>Z (.inl r)) λx=>(match I4 A (a.asg 0) s x with|some s'=>oS np con co inert b s' K|none=>U)
 |.cond c a b,s,K=>match s.e.get c with
  |some (.f .bool t)=>aL t (oS np con co inert a s K) (oS np con co inert b s K)
  |some .qv=>Hp (oS np con co inert a s K) (oS np con co inert b s K)
  |_=>U
 |.block id b,s,K=>oS np con co inert b s λex s'=>match ex with
  |.exit i=>if ax i id then K .normal s' else K (.exit i) s'
  |ex=>K ex s'
 |.zj A id b,s,K=>jn (oS np con co inert b s λex s'=>match ex with
   |.normal=>ay (OA np A (b.asg 0) s s') λx=>Z (.inr x)
   |.exit i=>if ax i id then ay (OA np A (b.asg 0) s s') λx=>Z (.inr x) else ay (K (.exit i) s') λr=>Z (.inl r)
   |.ret=>ay (K .ret s') λr=>Z (.inl r)) λx=>(match I4 A (b.asg 0) s x with|some s'=>K .normal s'|none=>U)
 |.loop A b,s,K=>ay (OA np A (b.asg 0) s s) λx=>iter (λx=>match I4 A (b.asg 0) s x with
   |some s'=>oS np con co inert b s' λex s'=>(match ex with
    |.normal=>ay (OA np A (b.asg 0) s s') λy=>Z (.inl y)
    |ex=>ay (K ex s') λr=>Z (.inr r))
   |none=>U) x
 |.exit id,s,K=>K (.exit id) s
 |.ret,s,K=>K .ret s
 |.defer _ _ _,_,_=>U
 |.adj l c,s,K=>match VQ s l with|some s'=>oS np con co inert c s' K|none=>U
 |.split k off d n c,s,K=>match afb s k off with
  |some (kd,v)=>spl v (λi=>match WL s k off kd (aR i) with|some s'=>oS np con co inert c s' K|none=>U) d n
  |none=>U
 |.bsp t a b,s,K=>match s.e.get t with
  |some (.f .bool v)=>aL v (oS np con co inert a ⟨s.e.set t (Z (.f .bool J)),s.h,s.nx⟩ K) (oS np con co inert b ⟨s.e.set t (Z (.f .bool aa)),s.h,s.nx⟩ K)
  |_=>U
 |.unl n b,s,K=>ai3 (λs K=>oS np con co inert b s K) n s K
 |.zm,_,_=>U
def Nj:Nat->Y TV->h_
 |_,[]=>PT.leaf
 |k,x::r=>(Nj (k+1) r).set k (Z x)
def rvT (s:TS):RV->M TV
 |.tmp t=>s.e.get t
 |.cell a sz d=>match s.e.get a with
  |some (.H id off)=>(match s.h.get id with|some (.C (Z _) l)=>WF l off sz d|_=>U)
  |_=>U
def Tb (s:TS):Y RV->M (Y TV)
 |[]=>Z []
 |x::r=>match rvT s x with|some v=>(match Tb s r with|some l=>Z (v::l)|none=>U)|none=>U
structure FT where
 pre:Tm
 post:Tm
 hints:PT ahg
def aqs (D:FT):Y Adj:=match D.hints.get 60000 with
 |some (.a l)=>l
 |_=>[]
def adq (con:FuncId->M cD) (co:TypeId->M Ty) (inert:FuncId->Bool) (F:M SF) (D:FT) (x:D.pre.ty.den):M D.post.ty.den:=
 match F with
 |some d=>(match C0 D.pre x with
  |some (args,h)=>if dK (l! args) d.nt&&dK (l! D.pre.bs) (l! D.post.bs) then
    oS (l! D.pre.bs) con co inert (FO D.hints d.code 0).1 ⟨Nj 0 args,h,l! D.pre.bs⟩ λex s=>(match ex with
    |.exit _=>U
    |_=>(match VQ s (aqs D) with
     |some s=>(match Tb s d.res with
      |some l=>(match DK (l! D.pre.bs) D.post l s.h with
       |some ⟨y,_,_,_⟩=>(match C0 D.post y with|some _=>Z y|none=>U)
       |none=>U)
      |none=>U)
     |none=>U)) else U
  |none=>U)
 |none=>U
abbrev Kd0:Ty:=(.st (.pr .bool .bool))
abbrev Yd0:=(Int×h!)
abbrev Yd1:=(Int×C!)
def o8 (x:n?):M (Int):=
 (jn (bR x.2 0 (aH J) (aH (dj (bc x.1) x.2))) λx1=>(aL x1 (Z 0) (kj x.2 x.1 (Z (geti aP x.1 x.2)))))
def wU (it:Cp) (x:J!):M η:=
 (bI (dj 0 (oI (bc x.1) (bc x.2))&&dj (oI (bc x.1) (bc x.2)) (oI (bc x.1) (bc x.2))&&bh (aS (oI (bc x.1) (bc x.2))) 8) (it i? _ (λx1=>(bR x1.1 (aR (ah (aF (aS (oI (bc x.1) (bc x.2))) (0:Int)))) (ay (o8 (x.1,x1.1)) λz=>(ay (o8 (x.2,x1.1)) λd=>(ck (fm x1.1 (ah x1.2)) (c7 ((cS x1.1),(cJ x1.2 x1.1 (oI z d))))))) (aH x1.2))) (0,(aF (aS (oI (bc x.1) (bc x.2))) (0:Int)))))
def Ba (x:J!):M η:=wU @iter x
def lH (x:J!):M η:=wU @hZ x
def Q_ (x:η):M η:=
 (aL (ax (ah x) 0) (Hp (Z ([]:η)) (bI (bh (ah ([]:η)+ah x) 8) (Z (([]:η)++x)))) (bI (bh (ah ([]:η)+ah x) 8) (Z (([]:η)++x))))
def W_ (x:η):M η:=chk (bh (ah x) 8) λ_=>Z x
def Ln (x:η):M η:=
 (aL (ax (ah x) 0) (Hp (Z ([]:η)) (bI (bh (ah ([]:η)+ah x) 8) (Z (([]:η)++x)))) (bI (bh (ah ([]:η)+ah x) 8) (Z (([]:η)++x))))
def iG (x:η):M η:=chk (bh (ah x) 8) λ_=>Z x
def q_ (x:n?):M η:=
 (jn (jR 0 x.2 (aH (fM x.2 4)) (aH aa)) λx1=>(jn (aL x1 (aH (oI (bc x.1) (cS x.2))) (aH (bc x.1))) λx2=>(bI (dj 0 x2&&dj x2 x2&&bh (aS x2) 8) (jn (jn (aL x1 (ck (fm x.2 (ah (Wq (aF (aS x2) (0:Int)) x.1))) (aH ((fM (geti aP (Wq (aF (aS x2) (0:Int)) x.1) x.2) 9223372036854775807),(Wq (aF (aS x2) (0:Int)) x.1)))) (aH (aa,(Wq (aF (aS x2) (0:Int)) x.1)))) λd=>(aL d.1 (ck (fm x.2 (ah d.2)) (ck (fm x.2 (ah d.2)) (aH (cJ d.2 x.2 (be .i64 ((geti aP d.2 x.2)+1)))))) (aH d.2))) λz=>(Z z)))))
def pd (it:Cp) (x:ζ):M (Bool):=
 (lt (geti ((.st (.pr .str (.pr .str (.pr .str (.pr .str (.pr .str (.pr .str (.pr .str (.pr .str (.pr .str (.pr .str (.pr .str (.pr .str (.pr .str (.pr .str (.pr .str (.pr .str (.pr .str (.pr .str (.pr .str (.pr .str (.pr .str .str))))))))))))))))))))))) ([kwV]) 0) λd=>(it (Int) _ (λx2=>(bR x2 22 (bI (dj 0 x2&&fM x2 22) (lt (geti (.str) [d.1,d.2.1,d.a,d.b,d.c,d.d,d.f,d.i,d.k,d.o,d.l,d.n,d.j,d.r,d.u,d.v,d.B,d.C,d.G,d.H,d.I,d.K] x2) λz=>(aL (decide ((x:ζ)=z)) (aH J) (c7 (cS x2))))) (aH aa))) 0))
def sN (x:ζ):M (Bool):=pd @iter x
def iN (x:ζ):M (Bool):=pd @hZ x
def tw (it:Cp) (x:ζ):M (Bool):=
 (jn (bR (bc x) 1 (aH J) (bR 12 (bc x) (aH J) (ay (iN x) λD=>(aH D)))) λx1=>(aL x1 (Z aa) (it (Y (kF×Unit)) _ (λd=>(aL (dJ (Ja d) (ah (Ki d))) (jn (α:=Y (kF×Unit)) (jn (α:=Bool×Y (kF×Unit)) (jR 97 (QR (Ki d) (Ja d)) (jR (QR (Ki d) (Ja d)) 122 (aH (J,[(((Ki d),(aR ((Ja d)+Wv (Ki d) (Ja d)))),())])) (jR 65 (QR (Ki d) (Ja d)) (aH ((dj (QR (Ki d) (Ja d)) 90),[(((Ki d),(aR ((Ja d)+Wv (Ki d) (Ja d)))),())])) (aH (aa,[(((Ki d),(aR ((Ja d)+Wv (Ki d) (Ja d)))),())])))) (jR 65 (QR (Ki d) (Ja d)) (aH ((dj (QR (Ki d) (Ja d)) 90),[(((Ki d),(aR ((Ja d)+Wv (Ki d) (Ja d)))),())])) (aH (aa,[(((Ki d),(aR ((Ja d)+Wv (Ki d) (Ja d)))),())])))) λz=>(aL z.1 (aH z.2) (jn (bR 0 (aR (Ja d)) (bn (QR (Ki d) (Ja d)) 95 (aH (J,z.2)) (jR 48 (QR (Ki d) (Ja d)) (aH ((dj (QR (Ki d) (Ja d)) 57),z.2)) (aH (aa,z.2)))) (aH (aa,z.2))) λA=>(aL A.1 (aH A.2) (c7 (cw aa)))))) λF=>(c7 F)) (aH J))) ([((x,0),())]))))
def xh (x:ζ):M (Bool):=tw @iter x
def lP (x:ζ):M (Bool):=tw @hZ x
def zD (it:Cp) (x:n?):M (Int):=
 (it (Int) _ (λx1=>(bR x1 (bc x.1) (bY aP x.1 x1 λd=>(bn x.2 d (aH x1) (c7 (cS x1)))) (aH (-1)))) 0)
def DJ (x:n?):M (Int):=zD @iter x
def sX (x:n?):M (Int):=zD @hZ x
def kB (x:n?):M (Bool):=
 (ay (sX x) λd=>(Z (dj 0 d)))
def kA (x:η×j!):M (Bool):=
 (ay (o8 (x.1,x.2.2)) λd=>(Z (dj x.2.1 d)))
def nu (x:Γ):M (Bool):=
 (jn (jR 0 x.1 (aH (fM x.1 x.2)) (aH aa)) λx1=>(Z x1))
def qa (x:ep×r?):M (Bool):=
 (jn (ay (nu (x.2.1,(bc x.1.2.1))) λz=>(aL z (bY s7 x.1.2.1 x.2.1 λd=>(aH ((d.2==x.2.2) !=aa))) (aH aa))) λx1=>(Z x1))
def md (it:Cp) (x:Y VV):M (dC×Bool):=
 (it (Int×Y ζ) _ (λx1=>(bR x1.1 (bc x) (jn (α:=Int×Y ζ) (bY mD x x1.1 λd=>(bI (bh (ah x1.2+ah ([d.1])) 16) (bn d.a 0 (iK d.2.1 0 (c7 (cw (([]:Y ζ),aa))) (aH ((cS x1.1),(x1.2++([d.1]))))) (jn (α:=Bool×M!) (bR d.a 1 (aH (J,(x1.2++([d.1])),d)) (bR 4 d.a (aH (J,(x1.2++([d.1])),d)) (aL d.b (aH (J,(x1.2++([d.1])),d)) (aH ((fM (be .i64 ((bc x)-x1.1)) d.a),(x1.2++([d.1])),d))))) λD=>(aL D.1 (c7 (cw (([]:Y ζ),aa))) (it (Int×M!) _ (λz=>(bR z.1 D.c (bY mD x (be .i64 (x1.1+z.1)) λA=>(aL (P1 (.pr .str (.pr aP (.pr aP (.pr .bool (.pr aP .un))))) (A.1,A.2.1,A.a,A.b,A.g,()) (z.a,z.1,z.c,z.d,z.m,()) !=J) (aH (wF (cw (([]:Y ζ),aa)))) (c7 ((cS z.1),z.2.1,z.a,z.1,z.g)))) (aH (cw ((be .i64 (x1.1+z.c)),z.2.1))))) (0,D.2))))))) λx2=>(c7 x2)) (aH (x1.2,J)))) (0,([]:Y ζ)))
def px (x:Y VV):M (dC×Bool):=md @iter x
def gg (x:Y VV):M (dC×Bool):=md @hZ x
def mc (it:Cp) (x:ep×Y ζ):M (Bool):=
 (bI (bh (ah (x.2:Y ζ)) 16) (it A? _ (λx1=>(bR x1.1 (bc x.1.2.1) (bY s7 x.1.2.1 x1.1 λL=>(bI (bh (ah x1.2.2+ah ([L.1])) 16) (c7 ((cS x1.1),x1.2.1,(x1.2.2++([L.1])))))) (ay (it A? _ (λd=>(bR d.1 (bc x1.2.1.a) (bY nK x1.2.1.a d.1 λF=>(bI (bh (ah d.2.2+ah ([F.1])) 16) (c7 ((cS d.1),d.2.1,(d.2.2++([F.1])))))) (ay (bI (bh (ah d.2.2+ah d.2.1.b) 16) (bI (bh (ah (d.2.2++d.2.1.b)+ah d.2.1.c) 16) (it (Int×nJ×Y ζ) _ (λz=>(bR z.1 (aR (ah ((d.2.2++d.2.1.b)++d.2.1.c))) (jZ (.str) z.2.2 z.1 λA=>(jn (ay (lP A) λN=>(aL (!N) (aH (J,z.2)) (aH ((vM (K:=.str) (V:=.bool) A z.2.1 aa),z.2)))) λD=>(aL D.1 (aH aa) (c7 ((cS z.1),(vJ (K:=.str) (V:=.bool) A J D.2.1),D.2.2))))) (aH J))) (0,([]:Y y!),((d.2.2++d.2.1.b)++d.2.1.c))))) λr=>Z (cw r)))) (0,x1.2)) λr=>Z (cw r)))) (0,x)))
def pw (x:ep×Y ζ):M (Bool):=mc @iter x
def gf (x:ep×Y ζ):M (Bool):=mc @hZ x
def mb (it:Cp) (x:b?):M (Bool):=
 (it (ν×b?) _ (λx1=>(bR x1.1.2.2 (bc x.h) (bY pR x.h x1.1.2.2 λA=>(jn (bR A.1 x1.1.1 (aH (J,x1.2,A)) (aH ((dj (bc x1.d) A.1),x1.2,A))) λz=>(aL z.1 (aH aa) (jn (α:=(Γ)×ep×Int×j!) (bR x1.1.1 z.a (aH ((z.a,0),z.2)) (aH ((x1.1.1,x1.1.2.1),z.2))) λd=>(iK d.b d.1.2 (aH aa) (c7 ((d.1.1,(cS d.1.2),(cS x1.1.2.2)),d.2.1))))))) (aH J))) ((0,0,0),x))
def pu (x:b?):M (Bool):=mb @iter x
def gd (x:b?):M (Bool):=mb @hZ x
def me (it:Cp) (x:b?):M (Bool):=
 (jn (bR 12 (bc x.1) (aH (J,x)) (bR 4 (bc x.2.1) (aH (J,x)) (bR 2 (bc x.a) (aH (J,x)) (bR 2 (bc x.b) (aH (J,x)) (aH ((fM 60 (bc x.h)),x)))))) λx1=>(aL x1.1 (Z aa) (jn (bR (bc x1.d) 1 (aH (J,x1.2)) (aH ((fM 4 (bc x1.d)),x1.2))) λx2=>(aL x2.1 (Z aa) (ay (gg x2.2.1) λA=>(jn (aL (!A.2) (aH (J,x2.2)) (ay (gf (x2.2,A.1)) λN=>(aH ((!N),x2.2)))) λz=>(aL z.1 (Z aa) (it E! _ (λd=>(bR d.1 (bc z.b) (bY nK z.b d.1 λD=>(ay (qa (d.2,D.2,aa)) λL=>(aL (!L) (aH aa) (c7 ((cS d.1),d.2))))) (ay (ay (gd d.2) λF=>(Z F)) λr=>Z (cw r)))) (0,z.2)))))))))
def py (x:b?):M (Bool):=me @iter x
def dL (x:b?):M (Bool):=me @hZ x
def tD (it:Cp) (x:b?):M rk:=
 (bI (dj 0 (bc x.2.1)&&dj (bc x.2.1) (bc x.2.1)&&bh (aS (bc x.2.1)) 32) (bI (dj 0 (bc x.b)&&dj (bc x.b) (bc x.b)&&bh (aS (bc x.b)) 1) (bI (dj 0 (bc x.c)&&dj (bc x.c) (bc x.c)&&bh (aS (bc x.c)) 24) (it W! _ (λx1=>(bR x1.1 (aR (ah (aF (aS (bc x.2.1)) ((0,[]):i?)))) (ck (fm x1.1 (ah x1.b)) (c7 ((cS x1.1),x1.2.1,x1.a,(cJ x1.b x1.1 ((-1),(geti dF x1.b x1.1).2)),x1.g))) (ay (jn (α:=t?) (bR 0 (bc x1.h) (ck (fm 0 (ah x1.h)) (aH (x1.2.1,x1.a,x1.b,x1.c,(cJ x1.h 0 (1,(geti hJ x1.h 0).2))))) (aH x1.2)) λx2=>(Z (x2.a,x2.2.1,x2.e))) λr=>Z (cw r)))) (0,0,(-1),(aF (aS (bc x.2.1)) ((0,[]):i?)),(aF (aS (bc x.b)) (aa:Bool)),(aF (aS (bc x.c)) ((0,(0,aa)):d?)))))))
def xk (x:b?):M rk:=tD @iter x
def lS (x:b?):M rk:=tD @hZ x
def nN (it:Cp) (x:b?):M gz:=
 (ay (lS x) λz=>(bI (dj 0 0&&dj 0 (bc x.1)&&bh (aS (bc x.1)) 8) (bI (dj 0 (bc x.b)&&dj (bc x.b) (bc x.b)&&bh (aS (bc x.b)) 8) (bI (dj 0 (bc x.c)&&dj (bc x.c) (bc x.c)&&bh (aS (bc x.c)) 8) (it (Int×Int×P!) _ (λx2=>(bR x2.1 (bc x.1) (bY mD x.1 x2.1 λd=>(bI (bh (ah x2.b+ah ([d.g])) 8) (c7 ((cS x2.1),x2.2.1,x2.a,(x2.b++([d.g])),x2.g)))) (aH x2.2.2))) (0,0,z,(aF (aS 0) (0:Int)),(aF (aS (bc x.b)) (0:Int)),(aF (aS (bc x.c)) (0:Int))))))))
def rF (x:b?):M gz:=nN @iter x
def eS (x:b?):M gz:=nN @hZ x
def jD (it:Cp) (x:θ×c?):M (Bool):=
 (it (Int) _ (λx1=>(bR x1 2 (bI (dj 0 x1&&fM x1 2) (lt (geti ((.sl aP)) [x.f,x.p] x1) λA=>(it (Int) _ (λz=>(bR z (bc A) (bY aP A z λd=>(jn (bR d 0 (aH J) (jR (bc x.1) d (aH J) (bY (.bool) x.1 d λD=>(aH (!D))))) λF=>(aL F (aH (cw aa)) (c7 (cS z))))) (aH (wF (cS x1))))) 0))) (aH J))) 0)
def oe (x:θ×c?):M (Bool):=jD @iter x
def ch (x:θ×c?):M (Bool):=jD @hZ x
def fd (x:Γ):M (Bool):=
 (jn (jR 0 x.1 (aH (fM x.1 x.2)) (aH aa)) λx1=>(Z x1))
def jV (x:ep×j!):M (Bool):=
 (jn (bn x.2.1 1 (aH ((decide ((x.2.1:Int)=1)),x.1)) (bn x.2.1 2 (aH ((decide ((x.2.1:Int)=2)),x.1)) (bn x.2.1 5 (aH ((decide ((x.2.1:Int)=5)),x.1)) (bn x.2.1 12 (aH ((decide ((x.2.1:Int)=12)),x.1)) (bn x.2.1 13 (aH ((decide ((x.2.1:Int)=13)),x.1)) (bn x.2.1 14 (aH ((decide ((x.2.1:Int)=14)),x.1)) (aH ((decide ((x.2.1:Int)=15)),x.1)))))))) λx1=>(aL x1.1 (Z (decide ((x.2.2:Int)=(-1)))) (jn (bn x.2.1 3 (aH ((decide ((x.2.1:Int)=3)),x1.2)) (aH ((decide ((x.2.1:Int)=4)),x1.2))) λx2=>(aL x2.1 (ay (fd (x.2.2,(bc x2.2.1))) λy3=>(Z y3)) (jn (bn x.2.1 6 (aH ((decide ((x.2.1:Int)=6)),x2.2)) (aH ((decide ((x.2.1:Int)=7)),x2.2))) λD=>(aL D.1 (jn (ay (fd (x.2.2,(bc D.a))) λy6=>(aL y6 (bY s7 D.a x.2.2 λz7=>(aH (!z7.2))) (aH aa))) λx5=>(Z x5)) (jn (bn x.2.1 8 (aH ((decide ((x.2.1:Int)=8)),D.2)) (bn x.2.1 9 (aH ((decide ((x.2.1:Int)=9)),D.2)) (bn x.2.1 10 (aH ((decide ((x.2.1:Int)=10)),D.2)) (aH ((decide ((x.2.1:Int)=11)),D.2))))) λA=>(aL A.1 (jn (ay (fd (x.2.2,(bc A.a))) λy10=>(aL y10 (bY s7 A.a x.2.2 λL=>(aH L.2)) (aH aa))) λx9=>(Z x9)) (jn (bn x.2.1 16 (aH ((decide ((x.2.1:Int)=16)),A.2)) (bn x.2.1 17 (aH ((decide ((x.2.1:Int)=17)),A.2)) (bn x.2.1 18 (aH ((decide ((x.2.1:Int)=18)),A.2)) (aH ((decide ((x.2.1:Int)=19)),A.2))))) λz=>(aL z.1 (ay (fd (x.2.2,(bc z.b))) λy13=>(Z y13)) (jn (bn x.2.1 20 (aH ((decide ((x.2.1:Int)=20)),z.2)) (aH ((decide ((x.2.1:Int)=21)),z.2))) λd=>(aL d.1 (ay (fd (x.2.2,(bc d.d))) λy15=>(Z y15)) (jn (bn x.2.1 22 (aH ((decide ((x.2.1:Int)=22)),d.2)) (aH ((decide ((x.2.1:Int)=23)),d.2))) λF=>(aL F.1 (ay (fd (x.2.2,(bc F.c))) λN=>(Z N)) (Z aa)))))))))))))))
def r7 (it:Cp) (x:ep×q!):M (Bool):=
 (jn (iK (bc x.2.1) (bc x.1.2.1) (aH (J,x.1)) (iK (bc x.b) (bc x.1.b) (aH (J,x.1)) (aH ((!decide (((bc x.g):Int)=(bc x.1.c))),x.1)))) λx1=>(aL x1.1 (Z aa) (it E! _ (λx2=>(bR x2.1 (bc x1.b) (bY nK x1.b x2.1 λd=>(ay (fd (d.2,(bc x2.a))) λz=>(aL (!z) (aH aa) (c7 ((cS x2.1),x2.2))))) (aH J))) (0,x1.2))))
def yU (x:ep×q!):M (Bool):=r7 @iter x
def ja (x:ep×q!):M (Bool):=r7 @hZ x
def lQ (x:O!):M (Bool):=
 (bn x.b 6 (bY dF x.2.1.1 x.g λz1=>(Z (decide ((z1.1:Int)=(-1))))) (bn x.b 10 (jn (α:=Bool) (bY dF x.2.1.1 x.g λz3=>(bn z3.1 (-1) (bY dF x.2.1.1 x.g λz4=>(aH (decide (((bc z4.2):Int)=0)))) (aH aa))) λx2=>(Z x2)) (bn x.b 8 (jn (α:=Bool) (bY dF x.2.1.1 x.g λz6=>(bn z6.1 (-1) (bY dF x.2.1.1 x.g λz7=>(ay (kB (z7.2,x.a)) λy8=>(aH (!y8)))) (aH aa))) λx5=>(Z x5)) (jn (bn x.b 7 (aH ((decide ((x.b:Int)=7)),x.1,x.2.1)) (aH ((decide ((x.b:Int)=11)),x.1,x.2.1))) λz=>(aL z.1 (bY dF z.a x.g λz10=>(Z (decide ((z10.1:Int)=x.a)))) (bn x.b 9 (bY dF z.a x.g λz11=>(ay (kB (z11.2,x.a)) λy12=>(Z y12))) (bn x.b 12 (Z (decide ((z.b:Int)=(-1)))) (bn x.b 13 (Z (decide ((z.b:Int)=x.a))) (bn x.b 14 (bY hJ z.h x.a λz13=>(Z (!z13.2.2))) (bn x.b 15 (bY hJ z.h x.a λz14=>(Z z14.2.2)) (jn (bn x.b 16 (aH ((decide ((x.b:Int)=16)),z.2)) (bn x.b 18 (aH ((decide ((x.b:Int)=18)),z.2)) (aH ((decide ((x.b:Int)=19)),z.2)))) λd=>(aL d.1 (bY nK d.2.1.a x.g λz16=>(bY dF d.a z16.2 λN=>(Z (decide ((N.1:Int)=x.a))))) (bn x.b 20 (jn (iK x.g x.a (bY hJ d.h x.g λL=>(aH (decide ((L.1:Int)=0)))) (aH aa)) λx18=>(Z x18)) (bn x.b 21 (jn (iK x.g x.a (bY hJ d.h x.g λF=>(aH (decide ((F.1:Int)=5)))) (aH aa)) λx20=>(Z x20)) (bn x.b 22 (bY (.bool) d.c x.g λD=>(Z (!D))) (bn x.b 23 (bY (.bool) d.c x.g λA=>(Z A)) (Z J)))))))))))))))))
def eH (x:O!):M (Bool):=
 (jn (ay (ja (x.1,x.2.1)) λN=>(aL (!N) (aH (J,x.1,x.2.1)) (ay (fd (x.a,(bc x.1.c))) λL=>(aL (!L) (aH (J,x.1,x.2.1)) (ay (jV (x.1,x.e)) λF=>(aH ((!F),x.1,x.2.1))))))) λx1=>(aL x1.1 (Z aa) (bY hJ x1.h x.a λd=>(bn x.b 1 (Z (decide ((d.1:Int)=1))) (bn x.b 17 (jn (α:=Bool) (bn d.1 4 (bn d.2.1 x.g (bY nK x1.2.1.a x.g λD=>(bY dF x1.a D.2 λA=>(aH (decide ((A.1:Int)=(-1)))))) (aH aa)) (aH aa)) λx6=>(Z x6)) (jn (bn d.1 2 (ay (lQ (x1.2.1,x1.2.2,x.2.2)) λz=>(aH z)) (aH aa)) λx9=>(Z x9)))))))
def iM (x:ep×P!):M (Bool):=
 (jn (ay (ja (x.1,x.2.1)) λd=>(aL d (bn (bc x.a) (bc x.1.1) (bn (bc x.b) (bc x.1.b) (aH (decide (((bc x.g):Int)=(bc x.1.c)))) (aH aa)) (aH aa)) (aH aa))) λx1=>(Z x1))
def gL (x:ep×c?):M (Bool):=
 (jn (bn x.a 1 (aH (J,x)) (aH ((decide ((x.a:Int)=2)),x))) λx1=>(aL x1.1 (Z (decide ((x1.f:Int)=(-1)))) (jn (jR 0 x1.f (bR x1.f (bc x1.2.1.h) (bY pR x1.2.1.h x1.f λd=>(aH (decide ((d.1:Int)=x1.a)))) (aH aa)) (aH aa)) λx2=>(Z x2))))
def ii (it:Cp) (x:ep×L!):M (Bool):=
 (jn (bn x.b 3 (bY mD x.1.1 x.c λz2=>(aH ((!decide ((z2.2.2.1:Int)=0)),x.2))) (bn x.b 4 (bY mD x.1.1 x.c λz3=>(aH ((!decide ((z3.2.2.1:Int)=0)),x.2))) (aH (aa,x.2)))) λx1=>(jn (bn x1.b 5 (bn x1.b 4 (aH (x1.2.1,x1.2.2,J,J)) (aH (x1.2.1,x1.2.2,J,(decide ((x1.b:Int)=22))))) (bn x1.b 4 (aH (x1.2.1,x1.2.2,x1.1,J)) (aH (x1.2.1,x1.2.2,x1.1,(decide ((x1.b:Int)=22)))))) λN=>(it (Int×gz×gh×K?) _ (λd=>(bR d.1 2 (bI (dj 0 d.1&&fM d.1 2) (lt (geti ((.sl aP)) [N.2.1.d,N.2.1.m] d.1) λF=>(jn (α:=Bool×gz×gh×K?) (bR 0 (bc F) (bI (dj 0 d.1&&fM d.1 2) (bI (fm d.1 2) (lt (geti (.bool) [d.b,d.g] d.1) λz8=>(aH ((!z8),d.2))))) (aH (aa,d.2))) λx7=>(aL x7.1 (aH aa) (it (Γ×gz×gh×K?) _ (λz=>(bR z.1.2 (bc F) (bY aP F z.1.2 λA=>(jn (jR A z.1.1 (aH (J,z.2)) (bY aP z.2.1.e z.a.1 λL=>(aH ((dj L A),z.2)))) λD=>(aL D.1 (aH (cw aa)) (c7 ((A,(cS z.1.2)),D.2))))) (aH (wF ((cS d.1),z.2))))) ((0,0),x7.2)))))) (aH J))) (0,N))))
def mQ (x:ep×L!):M (Bool):=ii @iter x
def dP (x:ep×L!):M (Bool):=ii @hZ x
def kR (it:Cp) (x:L!):M (Bool):=
 (bn x.a 3 (bY aP x.1.2.1 x.b λz1=>(Z (decide ((x.c:Int)=z1)))) (bn x.a 23 (bY aP x.1.a x.b λz2=>(Z (decide ((x.c:Int)=z2)))) (bn x.a 5 (jn (bn x.c 0 (aH J) (aH (decide ((x.c:Int)=1)))) λx3=>(Z x3)) (jn (bn x.a 4 (aH ((decide ((x.a:Int)=4)),x)) (aH ((decide ((x.a:Int)=22)),x))) λA=>(aL A.1 (Z J) (bn x.a 18 (it ((Int×Bool×Int)×c?) _ (λz=>(bR z.1.2.2 (bc A.2.1.1.e) (jn (bY hJ A.2.1.1.e z.1.2.2 λz7=>(jn (bn z7.1 3 (aH ((decide ((z7.2.1:Int)=z.b)),z.2)) (aH (aa,z.2))) λL=>(aL L.1 (aL z.1.2.1 (aH (((cS z.1.1),J),L.2)) (aH (((cS z.1.1),(decide ((L.c:Int)=z.1.2.2))),L.2))) (aH ((z.1.1,z.1.2.1),L.2))))) λx6=>(c7 ((x6.1.1,x6.1.2,(cS z.1.2.2)),x6.2))) (ay (jn (α:=Bool) (aL z.1.2.1 (aH J) (bn z.1.1 0 (aH (decide ((z.c:Int)=(-1)))) (aH aa))) λx9=>(Z x9)) λr=>Z (cw r)))) ((0,aa,0),A.2.2)) (bn x.a 19 (it (Γ×c?) _ (λd=>(bR d.1.2 (bc A.2.1.1.e) (jn (bY hJ A.2.1.1.e d.1.2 λF=>(jn (bn F.1 3 (aH ((decide ((F.2.1:Int)=d.b)),d.2)) (aH (aa,d.2))) λD=>(aL D.1 (aH ((cS d.1.1),D.2)) (aH (d.1.1,D.2))))) λN=>(c7 ((N.1,(cS d.1.2)),N.2))) (aH (decide ((d.c:Int)=d.1.1))))) ((0,0),A.2.2)) (Z (decide ((A.d:Int)=0))))))))))
def qE (x:L!):M (Bool):=kR @iter x
def e9 (x:L!):M (Bool):=kR @hZ x
def nE (x:d8×Int):M (Bool):=
 (jn (bn x.1.1 3 (aH (decide ((x.1.2.1:Int)=x.2))) (aH aa)) λx1=>(Z x1))
def Lp (x:θ):M θ:=
 (aL (ax (ah x) 0) (Hp (Z ([]:θ)) (bI (bh (ah ([]:θ)+ah x) 1) (Z (([]:θ)++x)))) (bI (bh (ah ([]:θ)+ah x) 1) (Z (([]:θ)++x))))
def Cb (x:θ):M θ:=chk (bh (ah x) 1) λ_=>Z x
def GG (x:θ):M θ:=
 (aL (ax (ah x) 0) (Hp (Z ([]:θ)) (bI (bh (ah ([]:θ)+ah x) 1) (Z (([]:θ)++x)))) (bI (bh (ah ([]:θ)+ah x) 1) (Z (([]:θ)++x))))
def Lo (x:θ):M θ:=chk (bh (ah x) 1) λ_=>Z x
def Lm (x:Y d8):M (Y d8):=
 (aL (ax (ah x) 0) (Hp (Z ([]:Y d8)) (bI (bh (ah ([]:Y d8)+ah x) 24) (Z (([]:Y d8)++x)))) (bI (bh (ah ([]:Y d8)+ah x) 24) (Z (([]:Y d8)++x))))
def Ca (x:Y d8):M (Y d8):=chk (bh (ah x) 24) λ_=>Z x
def GD (x:Y d8):M (Y d8):=
 (aL (ax (ah x) 0) (Hp (Z ([]:Y d8)) (bI (bh (ah ([]:Y d8)+ah x) 24) (Z (([]:Y d8)++x)))) (bI (bh (ah ([]:Y d8)+ah x) 24) (Z (([]:Y d8)++x))))
def Ll (x:Y d8):M (Y d8):=chk (bh (ah x) 24) λ_=>Z x
def GF (x:η):M η:=
 (aL (ax (ah x) 0) (Hp (Z ([]:η)) (bI (bh (ah ([]:η)+ah x) 8) (Z (([]:η)++x)))) (bI (bh (ah ([]:η)+ah x) 8) (Z (([]:η)++x))))
def Bc (x:η):M η:=chk (bh (ah x) 8) λ_=>Z x
def tC (it:Cp) (x:q!):M Yd1:=
 (bI (dj 0 (bc x.1)&&dj (bc x.1) (bc x.1)&&bh (aS (bc x.1)) 32) (it (Int×rk×Int×Y (Int×η)) _ (λx1=>(bR x1.1 (bc x.1) (bY dF x.1 x1.1 λd=>(ay (W_ d.2) λD=>(ck (fm x1.1 (ah x1.e)) (c7 ((cS x1.1),x1.2.1,x1.a,(cJ x1.e x1.1 (d.1,D))))))) (ay (ay (Lo x1.2.1.a) λA=>(ay (Ll x1.2.1.e) λz=>(Z (x1.2.1.2.1,x1.e,A,z)))) λr=>Z (cw r)))) (0,x,0,(aF (aS (bc x.1)) ((0,[]):i?)))))
def xi (x:q!):M Yd1:=tC @iter x
def lR (x:q!):M Yd1:=tC @hZ x
abbrev I!:=jF×(θ)×(Y d8)×Int
def rZ (it:Cp) (x:ν×C!):M Yd1:=
 (it (Γ×I!) _ (λx1=>(bR x1.1.2 (bc x.e) (jn (jZ hJ x1.b x1.1.2 λz=>(jn (ay (nE (z,x.1.2.1)) λA=>(aL A (bR x1.1.1 0 (aH (J,x1.2)) (aH ((decide ((x1.1.2:Int)=x.1.2.2)),x1.2))) (aH (aa,x1.2)))) λd=>(aL d.1 (aH (x1.1.2,d.2)) (aH (x1.1.1,d.2))))) λx2=>(c7 ((x2.1,(cS x1.1.2)),x2.2))) (ay (jn (α:=C!) (jR 0 x1.1.1 (ck (fm x1.1.1 (ah x1.b)) (aH (x1.2.1,x1.a,(cJ x1.b x1.1.1 (4,(geti hJ x1.b x1.1.1).2))))) (aH (x1.2.1,x1.a,x1.b))) λD=>(Z (x1.1.1,D))) λr=>Z (cw r)))) (((-1),0),x.2.1,x.a,x.e,x.1.1))
def vA (x:ν×C!):M Yd1:=rZ @iter x
def kN (x:ν×C!):M Yd1:=rZ @hZ x
def nQ (it:Cp) (x:Γ×C!):M Yd1:=
 (it (Γ×I!) _ (λx1=>(bR x1.1.2 (bc x.e) (jn (α:=Int×I!) (jZ hJ x1.b x1.1.2 λd=>(ay (nE (d,x.1.2)) λz=>(aL z (ck (fm x1.1.2 (ah x1.b)) (aH ((cS x1.1.1),x1.2.1,x1.a,(cJ x1.b x1.1.2 (4,(geti hJ x1.b x1.1.2).2)),x1.g))) (aH (x1.1.1,x1.2))))) λx2=>(c7 ((x2.1,(cS x1.1.2)),x2.2))) (aH (x1.1.1,x1.2.1,x1.a,x1.b)))) ((0,0),x.2.1,x.a,x.e,x.1.1))
def rH (x:Γ×C!):M Yd1:=nQ @iter x
def ie (x:Γ×C!):M Yd1:=nQ @hZ x
def rS (x:Int):M (Bool):=
 (Z (!decide ((x:Int)=x)))
def xl (x:Γ):M (Bool):=
 (jn (ay (rS x.1) λz=>(aL z (ay (rS x.2) λd=>(aL (!d) (aH J) (aH (fM x.1 x.2)))) (aH (fM x.1 x.2)))) λx1=>(Z x1))
def sU (x:Int):M (Int):=
 (jR 4294967296 x U (jR 65536 x U (jR 256 x U (kj (be .u8 x) ([0,1,2,2,3,3,3,3,4,4,4,4,4,4,4,4,5,5,5,5,5,5,5,5,5,5,5,5,5,5,5,5,6,6,6,6,6,6,6,6,6,6,6,6,6,6,6,6,6,6,6,6,6,6,6,6,6,6,6,6,6,6,6,6,7,7,7,7,7,7,7,7,7,7,7,7,7,7,7,7,7,7,7,7,7,7,7,7,7,7,7,7,7,7,7,7,7,7,7,7,7,7,7,7,7,7,7,7,7,7,7,7,7,7,7,7,7,7,7,7,7,7,7,7,7,7,7,7,8,8,8,8,8,8,8,8,8,8,8,8,8,8,8,8,8,8,8,8,8,8,8,8,8,8,8,8,8,8,8,8,8,8,8,8,8,8,8,8,8,8,8,8,8,8,8,8,8,8,8,8,8,8,8,8,8,8,8,8,8,8,8,8,8,8,8,8,8,8,8,8,8,8,8,8,8,8,8,8,8,8,8,8,8,8,8,8,8,8,8,8,8,8,8,8,8,8,8,8,8,8,8,8,8,8,8,8,8,8,8,8,8,8,8,8,8,8,8,8,8,8,8,8,8,8,8,8]) (Z (be .i64 (0+(be .i64 (sB ([0,1,2,2,3,3,3,3,4,4,4,4,4,4,4,4,5,5,5,5,5,5,5,5,5,5,5,5,5,5,5,5,6,6,6,6,6,6,6,6,6,6,6,6,6,6,6,6,6,6,6,6,6,6,6,6,6,6,6,6,6,6,6,6,7,7,7,7,7,7,7,7,7,7,7,7,7,7,7,7,7,7,7,7,7,7,7,7,7,7,7,7,7,7,7,7,7,7,7,7,7,7,7,7,7,7,7,7,7,7,7,7,7,7,7,7,7,7,7,7,7,7,7,7,7,7,7,7,8,8,8,8,8,8,8,8,8,8,8,8,8,8,8,8,8,8,8,8,8,8,8,8,8,8,8,8,8,8,8,8,8,8,8,8,8,8,8,8,8,8,8,8,8,8,8,8,8,8,8,8,8,8,8,8,8,8,8,8,8,8,8,8,8,8,8,8,8,8,8,8,8,8,8,8,8,8,8,8,8,8,8,8,8,8,8,8,8,8,8,8,8,8,8,8,8,8,8,8,8,8,8,8,8,8,8,8,8,8,8,8,8,8,8,8,8,8,8,8,8,8,8,8,8,8,8,8]) (be .u8 x))))))))))
def vK (x:Int):M (Int):=
 (ay (sU x) λd=>(Z d))
def lw (it:Cp) (x:Γ×η):M η:=
 (it i? _ (λx1=>(bR x1.1 x.1.2 (it i? _ (λx2=>(jn (bR x.1.1 x2.1 (jZ aP x2.2 x2.1 λF=>(jZ aP x2.2 (be .i64 (x2.1-1)) λD=>(ay (xl (F,D)) λL=>(aH (L,x2.2))))) (aH (aa,x2.2))) λd=>(aL d.1 (jZ aP d.2 (be .i64 (x2.1-1)) λz=>(jZ aP d.2 x2.1 λA=>(ck (fm x2.1 (ah d.2)) (ck (fm (be .i64 (x2.1-1)) (ah (cJ d.2 x2.1 z))) (c7 ((be .i64 (x2.1-1)),(cJ (cJ d.2 x2.1 z) (be .i64 (x2.1-1)) A))))))) (aH (wF ((cS x1.1),d.2)))))) x1) (aH x1.2))) ((cS x.1.1),x.2))
def lq (x:Γ×η):M η:=lw @iter x
def fU (x:Γ×η):M η:=lw @hZ x
def pz (it:Cp) (x:ν×η):M η:=
 (it ((Int×Int×Int×Bool×Bool)×η) _ (λx1=>(jR (be .i64 (x1.1.2.1-x1.1.1)) 12 (ay (fU ((x1.1.1,x1.1.2.1),x1.2)) λd=>(bI (ax (ah x1.2) (ah d)&&J) (aH d))) (bn x1.1.a 0 U (aL (!x1.1.b) U U)))) ((x.1.1,x.1.2.1,x.1.2.2,J,J),x.2))
def pq (x:ν×η):M η:=pz @iter x
def j_ (x:ν×η):M η:=pz @hZ x
def jP (x:η):M η:=
 (ay (vK (be .u64 (bc x))) λz=>(ay (j_ ((0,(bc x),z),x)) λd=>(bI (ax (ah x) (ah d)&&J) (Z d))))
def zE (it:Cp) (x:η):M η:=
 (bR (bc x) 2 (Z x) (it i? _ (λx1=>(bR x1.1 (bc x1.2) (jZ aP x1.2 x1.1 λz=>(jZ aP x1.2 (be .i64 (x1.1-1)) λd=>(bn z d (bI (dj 0 x1.1&&fM x1.1 (ah x1.2)) U) (c7 ((cS x1.1),x1.2))))) (aH x1.2))) (1,x)))
def yV (x:η):M η:=zE @iter x
def eF (x:η):M η:=zE @hZ x
def pZ (x:Γ):M (Bool×Int):=
 (Z ((decide ((x.1:Int)=x.2)),x.2))
def vS (it:Cp) (x:n?):M J?:=
 (it J? _ (λx1=>(bR x1.1 (bc x.1) (jZ aP x1.2.1 x1.1 λz=>(ay (pZ (z,x1.2.2)) λd=>(aL d.1 (aH (x1.1,x1.2.1,d.2)) (c7 ((cS x1.1),x1.2.1,d.2))))) (aH ((-1),x1.2)))) (0,x))
def vB (x:n?):M J?:=vS @iter x
def oH (x:n?):M J?:=vS @hZ x
def uo (it:Cp) (x:n?):M i?:=
 (ay (oH x) λd=>(bI (ax (ah x.1) (ah d.2.1)&&J) (bn d.1 (-1) U (it (Γ×u?) _ (λx2=>(bR x2.1.2 (bc x2.2.1) (jn (jZ aP x2.2.1 x2.1.2 λA=>(ay (pZ (A,x2.2.2)) λz=>(aL (!z.1) (ck (fm x2.1.1 (ah x2.2.1)) (aH ((cS x2.1.1),(cJ x2.2.1 x2.1.1 A),z.2))) (aH (x2.1.1,x2.2.1,z.2))))) λD=>(c7 ((D.1,(cS x2.1.2)),D.2))) (ay (ck (dj 0 x2.1.1&&fM x2.1.1 (ah x2.2.1)) (bI (dj 0 x2.1.1&&fM x2.1.1 (ah (dg (aS x2.1.1) x2.2.1++aF (ah x2.2.1-aS x2.1.1) (0:Int)))) (Z (x2.2.2,(dg (aS x2.1.1) (dg (aS x2.1.1) x2.2.1++aF (ah x2.2.1-aS x2.1.1) (0:Int))))))) λr=>Z (cw r)))) ((d.1,(cS d.1)),d.2)))))
def uk (x:n?):M i?:=uo @iter x
def dw (x:n?):M i?:=uo @hZ x
def ig (x:C?):M Q?:=
 (ay (eH (x.1,x.2.1,x.a,x.b,x.c)) λy1=>(aL (!y1) (Z ((([]:Y i?),0,([]:θ),([]:Y d8)),0,aa)) (ay (lR x.2.1) λz=>(jn (α:=W!) (bn x.b 1 (ck (fm x.a (ah z.e)) (aH (0,z.1,0,z.2.1,z.a,(cJ z.e x.a (2,(geti hJ z.e x.a).2))))) (bn x.b 2 (ck (fm x.a (ah z.e)) (aH (0,z.1,0,z.2.1,z.a,(cJ z.e x.a (5,(geti hJ z.e x.a).2))))) (jn (α:=Bool×ep×W!) (bn x.b 6 (aH ((decide ((x.b:Int)=6)),x.1,z.1,x.a,0,z.2)) (aH ((decide ((x.b:Int)=10)),x.1,z.1,x.a,0,z.2))) λF=>(aL F.1 (ck (fm x.c (ah F.d)) (aH (0,F.a,F.c,(cJ F.d x.c (F.b,(geti dF F.d x.c).2)),F.m))) (jn (bn x.b 7 (aH ((decide ((x.b:Int)=7)),F.2)) (aH ((decide ((x.b:Int)=11)),F.2))) λd=>(aL d.1 (ck (fm x.c (ah d.d)) (aH (0,d.a,d.c,(cJ d.d x.c ((-1),(geti dF d.d x.c).2)),d.m))) (bn x.b 8 (jZ dF d.d x.c λz6=>U) (bn x.b 9 (jZ dF d.d x.c λz7=>U) (bn x.b 12 (aH (0,d.e)) (bn x.b 13 (aH (0,(-1),d.g)) (bn x.b 14 (ck (fm d.b (ah d.p)) (aH (0,d.a,d.c,d.d,d.f,(cJ d.p d.b ((geti hJ d.p d.b).1,((geti hJ d.p d.b).2).1,J))))) (bn x.b 15 (ck (fm d.b (ah d.p)) (aH (0,d.a,d.c,d.d,d.f,(cJ d.p d.b ((geti hJ d.p d.b).1,((geti hJ d.p d.b).2).1,aa))))) (bn x.b 16 (bY nK d.2.1.a x.c λz8=>(ck (fm z8.2 (ah d.d)) (ck (fm d.b (ah d.p)) (ck (fm d.b (ah (cJ d.p d.b (3,(geti hJ d.p d.b).2)))) (aH (0,d.a,d.c,(cJ d.d z8.2 ((-1),(geti dF d.d z8.2).2)),d.f,(cJ (cJ d.p d.b (3,(geti hJ d.p d.b).2)) d.b ((geti hJ (cJ d.p d.b (3,(geti hJ d.p d.b).2)) d.b).1,x.c,((geti hJ (cJ d.p d.b (3,(geti hJ d.p d.b).2)) d.b).2).2)))))))) (bn x.b 17 (bY nK d.2.1.a x.c λN=>(ck (fm N.2 (ah d.d)) (ck (fm d.b (ah d.p)) (ck (fm d.b (ah (cJ d.p d.b (2,(geti hJ d.p d.b).2)))) (aH (0,d.a,d.c,(cJ d.d N.2 (d.b,(geti dF d.d N.2).2)),d.f,(cJ (cJ d.p d.b (2,(geti hJ d.p d.b).2)) d.b ((geti hJ (cJ d.p d.b (2,(geti hJ d.p d.b).2)) d.b).1,0,((geti hJ (cJ d.p d.b (2,(geti hJ d.p d.b).2)) d.b).2).2)))))))) (bn x.b 18 (ay (kN ((d.a,x.g),d.h)) λD=>(bI (ax (ah d.p) (ah D.e)&&(ax (ah d.f) (ah D.a)&&(ax (ah d.d) (ah D.2.1)&&J))) (aH (D.1,d.a,d.c,D.2)))) (bn x.b 19 (ay (ie ((d.a,x.c),d.h)) λA=>(bI (ax (ah d.p) (ah A.e)&&(ax (ah d.f) (ah A.a)&&(ax (ah d.d) (ah A.2.1)&&J))) (aH (A.1,d.a,d.c,A.2)))) (bn x.b 20 (ck (fm x.c (ah d.p)) (aH (0,d.a,d.c,d.d,d.f,(cJ d.p x.c (1,(geti hJ d.p x.c).2))))) (bn x.b 22 (ck (fm x.c (ah d.f)) (aH (0,d.a,d.c,d.d,(cJ d.f x.c J),d.p))) (aH (0,d.a,d.g)))))))))))))))))))) λL=>(Z ((L.b,L.2.1,L.g),L.1,J))))))
def jU (x:q!):M (Yd0×i?):=
 (bI (dj 0 (bc x.1)&&dj (bc x.1) (bc x.1)&&bh (aS (bc x.1)) 32&&decide (((bc x.1):Int)=1)) (jn (α:=rk×W?) (bR 0 (bc x.1) (bY dF x.1 0 λd=>(ay (iG d.2) λF=>(bR 1 (bc x.1) (bY dF x.1 1 λz=>(ay (iG z.2) λL=>U)) (aH (x,0,d.1,F))))) (aH (x,0,0,([]:η)))) λx1=>(ay (Cb x1.1.a) λD=>(ay (Ca x1.1.e) λA=>(Z ((x1.1.2.1,D,A),x1.2.2))))))
def gH (x:C?):M Q?:=
 (ay (eH (x.1,x.2.1,x.a,x.b,x.c)) λy1=>(aL (!y1) (Z ((([]:Y i?),0,([]:θ),([]:Y d8)),0,aa)) (ay (jU x.2.1) λz=>(jn (α:=Int×Yd0×W?) (bn x.b 1 (kj x.a z.1.2.2 U) (bn x.b 2 (kj x.a z.1.2.2 U) (jn (α:=Bool×ep×Yd0×Int×W?) (bn x.b 6 (aH ((decide ((x.b:Int)=6)),x.1,z.1,x.a,0,z.2)) (aH ((decide ((x.b:Int)=10)),x.1,z.1,x.a,0,z.2))) λD=>(aL D.1 U (jn (bn x.b 7 (aH ((decide ((x.b:Int)=7)),D.2)) (aH ((decide ((x.b:Int)=11)),D.2))) λd=>(aL d.1 U (bn x.b 8 (bn x.c 0 (bI (bh (ah d.m+ah ([d.b])) 8) (ay (jP (d.m++([d.b]))) λA=>(bI (ax (ah (d.m++([d.b]))) (ah A)&&J) (ay (eF A) λL=>(bI (ax (ah A) (ah L)&&J) (aH (0,d.a,d.c,d.d,L))))))) U) (bn x.b 9 (bn x.c 0 (ay (dw (d.m,d.b)) λN=>(bI (ax (ah d.m) (ah d.m)&&J) (aH (0,d.a,d.c,d.d,N.2)))) U) (bn x.b 12 (aH (0,(d.b,d.a.2),d.g)) (bn x.b 13 (aH (0,((-1),d.a.2),d.g)) (bn x.b 14 (kj d.b d.a.2.2 U) (bn x.b 15 (kj d.b d.a.2.2 U) (bn x.b 16 U (bn x.b 17 U (bn x.b 18 U (bn x.b 19 U (bn x.b 20 (kj x.c d.a.2.2 U) (bn x.b 22 (kj x.c d.a.2.1 U) (aH (0,d.a,d.g)))))))))))))))))))) λF=>(Z (([F.e],F.2.1),F.1,J))))))
def jT (x:q!):M (Yd0×(Γ)×F?):=
 (bI (dj 0 (bc x.1)&&dj (bc x.1) (bc x.1)&&bh (aS (bc x.1)) 32&&decide (((bc x.1):Int)=2)) (jn (α:=rk×Int×(Γ)×F?) (bR 0 (bc x.1) (bY dF x.1 0 λd=>(ay (iG d.2) λA=>(bR 1 (bc x.1) (bY dF x.1 1 λz=>(ay (iG z.2) λN=>(bR 2 (bc x.1) (bY dF x.1 2 λD=>(ay (iG D.2) λy7=>U)) (aH (x,0,(d.1,z.1),A,N))))) (aH (x,0,(d.1,0),A,([]:η)))))) (aH (x,0,(0,0),([]:η),([]:η)))) λx1=>(ay (Cb x1.1.a) λL=>(ay (Ca x1.1.e) λF=>(Z ((x1.1.2.1,L,F),x1.2.2))))))
abbrev T?:=Int×(η)×i?
def fK (x:C?):M Q?:=
 (ay (eH (x.1,x.2.1,x.a,x.b,x.c)) λy1=>(aL (!y1) (Z ((([]:Y i?),0,([]:θ),([]:Y d8)),0,aa)) (ay (jT x.2.1) λz=>(jn (α:=Int×Yd0×Int×T?) (bn x.b 1 (kj x.a z.1.2.2 U) (bn x.b 2 (kj x.a z.1.2.2 U) (jn (α:=Bool×ep×Yd0×Int×Int×(Γ)×F?) (bn x.b 6 (aH ((decide ((x.b:Int)=6)),x.1,z.1,x.a,0,z.2)) (aH ((decide ((x.b:Int)=10)),x.1,z.1,x.a,0,z.2))) λx4=>(aL x4.1 U (jn (bn x.b 7 (aH ((decide ((x.b:Int)=7)),x4.2)) (aH ((decide ((x.b:Int)=11)),x4.2))) λd=>(aL d.1 U (bn x.b 8 (bn x.c 0 (bI (bh (ah d.f+ah ([d.b])) 8) (ay (jP (d.f++([d.b]))) λF=>(bI (ax (ah (d.f++([d.b]))) (ah F)&&J) (ay (eF F) λy7=>(bI (ax (ah F) (ah y7)&&J) (aH (0,d.a,d.c,d.d.1,y7,d.d.2,d.p))))))) (bn x.c 1 (bI (bh (ah d.p+ah ([d.b])) 8) (ay (jP (d.p++([d.b]))) λD=>(bI (ax (ah (d.p++([d.b]))) (ah D)&&J) (ay (eF D) λy9=>(bI (ax (ah D) (ah y9)&&J) (aH (0,d.a,d.c,d.d.1,d.f,d.d.2,y9))))))) U)) (bn x.b 9 (bn x.c 0 (ay (dw (d.f,d.b)) λN=>(bI (ax (ah d.f) (ah d.f)&&J) (aH (0,d.a,d.c,d.d.1,N.2,d.d.2,d.p)))) (bn x.c 1 (ay (dw (d.p,d.b)) λL=>(bI (ax (ah d.p) (ah d.p)&&J) (aH (0,d.a,d.c,d.d.1,d.f,d.d.2,L.2)))) U)) (bn x.b 12 (aH (0,(d.b,d.a.2),d.c,d.d.1,d.f,d.d.2,d.p)) (bn x.b 13 (aH (0,((-1),d.a.2),d.c,d.d.1,d.f,d.d.2,d.p)) (bn x.b 14 (kj d.b d.a.2.2 U) (bn x.b 15 (kj d.b d.a.2.2 U) (bn x.b 16 U (bn x.b 17 U (bn x.b 18 U (bn x.b 19 U (bn x.b 20 (kj x.c d.a.2.2 U) (bn x.b 22 (kj x.c d.a.2.1 U) (aH (0,d.a,d.c,d.d.1,d.f,d.d.2,d.p)))))))))))))))))))) λA=>(Z (([(A.b,A.c),A.h],A.2.1),A.1,J))))))
def jS (x:q!):M (Yd0×(ν)×f?):=
 (bI (dj 0 (bc x.1)&&dj (bc x.1) (bc x.1)&&bh (aS (bc x.1)) 32&&decide (((bc x.1):Int)=3)) (jn (α:=rk×Int×(ν)×f?) (bR 0 (bc x.1) (bY dF x.1 0 λd=>(ay (iG d.2) λA=>(bR 1 (bc x.1) (bY dF x.1 1 λz=>(ay (iG z.2) λN=>(bR 2 (bc x.1) (bY dF x.1 2 λL=>(ay (iG L.2) λy7=>(bR 3 (bc x.1) (bY dF x.1 3 λz8=>(ay (iG z8.2) λy9=>U)) (aH (x,0,(d.1,z.1,L.1),A,N,y7))))) (aH (x,0,(d.1,z.1,0),A,N,([]:η)))))) (aH (x,0,(d.1,0,0),A,([]:η),([]:η)))))) (aH (x,0,(0,0,0),([]:η),([]:η),([]:η)))) λx1=>(ay (Cb x1.1.a) λF=>(ay (Ca x1.1.e) λD=>(Z ((x1.1.2.1,F,D),x1.2.2))))))
def fe (x:C?):M Q?:=
 (ay (eH (x.1,x.2.1,x.a,x.b,x.c)) λy1=>(aL (!y1) (Z ((([]:Y i?),0,([]:θ),([]:Y d8)),0,aa)) (ay (jS x.2.1) λD=>(jn (α:=Int×Yd0×Int×Int×(η)×T?) (bn x.b 1 (kj x.a D.1.2.2 U) (bn x.b 2 (kj x.a D.1.2.2 U) (jn (α:=Bool×ep×Yd0×Int×Int×(ν)×f?) (bn x.b 6 (aH ((decide ((x.b:Int)=6)),x.1,D.1,x.a,0,D.2)) (aH ((decide ((x.b:Int)=10)),x.1,D.1,x.a,0,D.2))) λx4=>(aL x4.1 U (jn (bn x.b 7 (aH ((decide ((x.b:Int)=7)),x4.2)) (aH ((decide ((x.b:Int)=11)),x4.2))) λd=>(aL d.1 U (bn x.b 8 (bn x.c 0 (bI (bh (ah d.f+ah ([d.b])) 8) (ay (jP (d.f++([d.b]))) λN=>(bI (ax (ah (d.f++([d.b]))) (ah N)&&J) (ay (eF N) λy7=>(bI (ax (ah N) (ah y7)&&J) (aH (0,d.a,d.c,d.d.1,y7,d.d.2.1,d.i,d.d.2.2,d.q))))))) (bn x.c 1 (bI (bh (ah d.i+ah ([d.b])) 8) (ay (jP (d.i++([d.b]))) λL=>(bI (ax (ah (d.i++([d.b]))) (ah L)&&J) (ay (eF L) λy9=>(bI (ax (ah L) (ah y9)&&J) (aH (0,d.a,d.c,d.d.1,d.f,d.d.2.1,y9,d.d.2.2,d.q))))))) (bn x.c 2 (bI (bh (ah d.q+ah ([d.b])) 8) (ay (jP (d.q++([d.b]))) λz=>(bI (ax (ah (d.q++([d.b]))) (ah z)&&J) (ay (eF z) λF=>(bI (ax (ah z) (ah F)&&J) (aH (0,d.a,d.c,d.d.1,d.f,d.d.2.1,d.i,d.d.2.2,F))))))) U))) (bn x.b 9 (bn x.c 0 (ay (dw (d.f,d.b)) λy12=>(bI (ax (ah d.f) (ah d.f)&&J) (aH (0,d.a,d.c,d.d.1,y12.2,d.d.2.1,d.i,d.d.2.2,d.q)))) (bn x.c 1 (ay (dw (d.i,d.b)) λy13=>(bI (ax (ah d.i) (ah d.i)&&J) (aH (0,d.a,d.c,d.d.1,d.f,d.d.2.1,y13.2,d.d.2.2,d.q)))) (bn x.c 2 (ay (dw (d.q,d.b)) λy14=>(bI (ax (ah d.q) (ah d.q)&&J) (aH (0,d.a,d.c,d.d.1,d.f,d.d.2.1,d.i,d.d.2.2,y14.2)))) U))) (bn x.b 12 (aH (0,(d.b,d.a.2),d.c,d.d.1,d.f,d.d.2.1,d.i,d.d.2.2,d.q)) (bn x.b 13 (aH (0,((-1),d.a.2),d.c,d.d.1,d.f,d.d.2.1,d.i,d.d.2.2,d.q)) (bn x.b 14 (kj d.b d.a.2.2 U) (bn x.b 15 (kj d.b d.a.2.2 U) (bn x.b 16 U (bn x.b 17 U (bn x.b 18 U (bn x.b 19 U (bn x.b 20 (kj x.c d.a.2.2 U) (bn x.b 22 (kj x.c d.a.2.1 U) (aH (0,d.a,d.c,d.d.1,d.f,d.d.2.1,d.i,d.d.2.2,d.q)))))))))))))))))))) λA=>(Z (([(A.b,A.c),(A.d,A.f),A.p],A.2.1),A.1,J))))))
def nk (x:q!):M (Yd0×(π)×G!):=
 (bI (dj 0 (bc x.1)&&dj (bc x.1) (bc x.1)&&bh (aS (bc x.1)) 32&&decide (((bc x.1):Int)=4)) (jn (α:=rk×Int×(π)×G!) (bR 0 (bc x.1) (bY dF x.1 0 λd=>(ay (iG d.2) λA=>(bR 1 (bc x.1) (bY dF x.1 1 λz=>(ay (iG z.2) λL=>(bR 2 (bc x.1) (bY dF x.1 2 λD=>(ay (iG D.2) λy7=>(bR 3 (bc x.1) (bY dF x.1 3 λz8=>(ay (iG z8.2) λy9=>(bR 4 (bc x.1) (bY dF x.1 4 λF=>(ay (iG F.2) λy11=>U)) (aH (x,0,(d.1,z.1,D.1,z8.1),A,L,y7,y9))))) (aH (x,0,(d.1,z.1,D.1,0),A,L,y7,([]:η)))))) (aH (x,0,(d.1,z.1,0,0),A,L,([]:η),([]:η)))))) (aH (x,0,(d.1,0,0,0),A,([]:η),([]:η),([]:η)))))) (aH (x,0,(0,0,0,0),([]:η),([]:η),([]:η),([]:η)))) λx1=>(ay (Cb x1.1.a) λy12=>(ay (Ca x1.1.e) λN=>(Z ((x1.1.2.1,y12,N),x1.2.2))))))
def gG (x:C?):M Q?:=
 (ay (eH (x.1,x.2.1,x.a,x.b,x.c)) λy1=>(aL (!y1) (Z ((([]:Y i?),0,([]:θ),([]:Y d8)),0,aa)) (ay (nk x.2.1) λF=>(jn (α:=Int×Yd0×Int×Int×(η)×Int×(η)×T?) (bn x.b 1 (kj x.a F.1.2.2 U) (bn x.b 2 (kj x.a F.1.2.2 U) (jn (α:=Bool×ep×Yd0×Int×Int×(π)×G!) (bn x.b 6 (aH ((decide ((x.b:Int)=6)),x.1,F.1,x.a,0,F.2)) (aH ((decide ((x.b:Int)=10)),x.1,F.1,x.a,0,F.2))) λx4=>(aL x4.1 U (jn (bn x.b 7 (aH ((decide ((x.b:Int)=7)),x4.2)) (aH ((decide ((x.b:Int)=11)),x4.2))) λd=>(aL d.1 U (bn x.b 8 (bn x.c 0 (bI (bh (ah d.f+ah ([d.b])) 8) (ay (jP (d.f++([d.b]))) λy6=>(bI (ax (ah (d.f++([d.b]))) (ah y6)&&J) (ay (eF y6) λy7=>(bI (ax (ah y6) (ah y7)&&J) (aH (0,d.a,d.c,d.d.1,y7,d.d.2.1,d.i,d.d.a,d.k,d.d.e,d.t))))))) (bn x.c 1 (bI (bh (ah d.i+ah ([d.b])) 8) (ay (jP (d.i++([d.b]))) λy8=>(bI (ax (ah (d.i++([d.b]))) (ah y8)&&J) (ay (eF y8) λy9=>(bI (ax (ah y8) (ah y9)&&J) (aH (0,d.a,d.c,d.d.1,d.f,d.d.2.1,y9,d.d.a,d.k,d.d.e,d.t))))))) (bn x.c 2 (bI (bh (ah d.k+ah ([d.b])) 8) (ay (jP (d.k++([d.b]))) λD=>(bI (ax (ah (d.k++([d.b]))) (ah D)&&J) (ay (eF D) λN=>(bI (ax (ah D) (ah N)&&J) (aH (0,d.a,d.c,d.d.1,d.f,d.d.2.1,d.i,d.d.a,N,d.d.e,d.t))))))) (bn x.c 3 (bI (bh (ah d.t+ah ([d.b])) 8) (ay (jP (d.t++([d.b]))) λA=>(bI (ax (ah (d.t++([d.b]))) (ah A)&&J) (ay (eF A) λL=>(bI (ax (ah A) (ah L)&&J) (aH (0,d.a,d.c,d.d.1,d.f,d.d.2.1,d.i,d.d.a,d.k,d.d.e,L))))))) U)))) (bn x.b 9 (bn x.c 0 (ay (dw (d.f,d.b)) λy14=>(bI (ax (ah d.f) (ah d.f)&&J) (aH (0,d.a,d.c,d.d.1,y14.2,d.d.2.1,d.i,d.d.a,d.k,d.d.e,d.t)))) (bn x.c 1 (ay (dw (d.i,d.b)) λy15=>(bI (ax (ah d.i) (ah d.i)&&J) (aH (0,d.a,d.c,d.d.1,d.f,d.d.2.1,y15.2,d.d.a,d.k,d.d.e,d.t)))) (bn x.c 2 (ay (dw (d.k,d.b)) λy16=>(bI (ax (ah d.k) (ah d.k)&&J) (aH (0,d.a,d.c,d.d.1,d.f,d.d.2.1,d.i,d.d.a,y16.2,d.d.e,d.t)))) (bn x.c 3 (ay (dw (d.t,d.b)) λy17=>(bI (ax (ah d.t) (ah d.t)&&J) (aH (0,d.a,d.c,d.d.1,d.f,d.d.2.1,d.i,d.d.a,d.k,d.d.e,y17.2)))) U)))) (bn x.b 12 (aH (0,(d.b,d.a.2),d.c,d.d.1,d.f,d.d.2.1,d.i,d.d.a,d.k,d.d.e,d.t)) (bn x.b 13 (aH (0,((-1),d.a.2),d.c,d.d.1,d.f,d.d.2.1,d.i,d.d.a,d.k,d.d.e,d.t)) (bn x.b 14 (kj d.b d.a.2.2 U) (bn x.b 15 (kj d.b d.a.2.2 U) (bn x.b 16 U (bn x.b 17 U (bn x.b 18 U (bn x.b 19 U (bn x.b 20 (kj x.c d.a.2.2 U) (bn x.b 22 (kj x.c d.a.2.1 U) (aH (0,d.a,d.c,d.d.1,d.f,d.d.2.1,d.i,d.d.a,d.k,d.d.e,d.t)))))))))))))))))))) λz=>(Z (([(z.b,z.c),(z.d,z.f),(z.i,z.k),z.t],z.2.1),z.1,J))))))
def tf (x:C?):M Q?:=orE (ig x) (orE (gH x) (orE (fK x) (orE (fe x) (gG x))))
def eh (x:ep×L!):M (gz×Bool):=
 (jn (α:=Bool×H?) (ay (iM (x.1,x.2.1)) λy2=>(aL (!y2) (aH (J,x.1,x.2.1,x.2.2,0)) (bR x.a 0 (aH (J,x.1,x.2.1,x.2.2,0)) (jR (bc x.1.c) x.a (aH (J,x.1,x.2.1,x.2.2,0)) (bR x.b 1 (aH (J,x.1,x.2.1,x.2.2,0)) (aH ((fM 23 x.b),x.1,x.2.1,x.2.2,0))))))) λx1=>(aL x1.1 (Z (((([]:Y i?),0,([]:θ),([]:Y d8)),([]:η),([]:η),([]:η)),aa)) (jn (ay (eH (x1.2.1,x1.a.1,x1.b.1,x1.b.2.1,x1.b.a)) λy4=>(aL (!y4) (aH (J,x1.2)) (ay (gL (x1.2.1,x1.b)) λy5=>(aL (!y5) (aH (J,x1.2)) (ay (dP (x1.2.1,x1.a,x1.b)) λy6=>(aL (!y6) (aH (J,x1.2)) (ay (e9 (x1.a,x1.b)) λy7=>(aH ((!y7),x1.2))))))))) λL=>(aL L.1 (Z (((([]:Y i?),0,([]:θ),([]:Y d8)),([]:η),([]:η),([]:η)),aa)) (jn (α:=Int×H?) (bn L.b.2.1 18 (aH (L.b.b,L.2)) (aH ((-1),L.2))) λd=>(ay (tf (d.2.1,d.a.1,d.b.1,d.b.2.1,d.b.a,d.1)) λN=>(aL (!N.2.2) (Z (((([]:Y i?),0,([]:θ),([]:Y d8)),([]:η),([]:η),([]:η)),aa)) (ay (Bc d.a.2.1) λD=>(ay (Bc d.a.a) λA=>(ay (iG d.a.e) λF=>(jn (bn d.b.2.1 4 (ck (fm d.b.a (ah D)) (aH (d.b,d.g,N.1,(cJ D d.b.a d.b.b),A,F))) (bn d.b.2.1 22 (ck (fm d.b.a (ah A)) (aH (d.b,d.g,N.1,D,(cJ A d.b.a d.b.b),F))) (aH (d.b,d.g,N.1,D,A,F)))) λz=>(jZ aP z.h z.1.1 λz14=>(ck (fm z.1.1 (ah z.h)) (Z ((z.a,z.b,z.c,(cJ z.h z.1.1 (cS z14))),J)))))))))))))))
def mW (it:Cp) (x:n!):M Γ:=
 (bR 400 (bc x.2) (Z (0,2)) (ay (dL x.1) λy1=>(aL (!y1) (Z (0,1)) (ay (eS x.1) λN=>(bI (dj 0 (bc x.1.c)&&dj (bc x.1.c) (bc x.1.c)&&bh (aS (bc x.1.c)) 24&&decide (((bc x.1.c):Int)=1)) (it (Int×(ep×Y gh)×gz×θ) _ (λz=>(bR z.1 (bc x.2) (bY gx x.2 z.1 λA=>(ay (eh (z.2.1.1,z.a,A)) λD=>(jn (α:=Bool×(ep×Y gh)×gz×gh×gz×θ) (aL D.2 (bn A.1 0 (ay (ch (z.e,0,A.2)) λL=>(aH ((!L),z.2.1,z.a,(0,A.2),D.1,z.e))) U) (aH (J,z.2.1,z.a,A,D.1,z.e))) λd=>(aL d.1 (aH (z.1,12)) (jn (α:=(ep×Y gh)×gz×gz×θ) (bn d.b.1 0 (bn d.b.2.1 3 (bI (bh (ah d.h+ah ([J])) 1) (aH (d.2.1,d.a,d.c,(d.h++([J]))))) (bI (bh (ah d.h+ah ([(decide ((d.b.2.1:Int)=23))])) 1) (aH (d.2.1,d.a,d.c,(d.h++([(decide ((d.b.2.1:Int)=23))])))))) U) λF=>(c7 ((cS z.1),F.1,F.2.2))))))) (aH (0,0)))) (0,x,N,([]:θ))))))))
def qI (x:n!):M Γ:=mW @iter x
def eC (x:n!):M Γ:=mW @hZ x
abbrev X?:=gz×(θ)×θ
def kT (it:Cp) (x:n!):M Γ:=
 (bR 400 (bc x.2) (Z (0,2)) (ay (dL x.1) λy1=>(aL (!y1) (Z (0,1)) (ay (eS x.1) λy2=>(bI (dj 0 (bc x.1.c)&&dj (bc x.1.c) (bc x.1.c)&&bh (aS (bc x.1.c)) 24&&decide (((bc x.1.c):Int)=2)) (it (Int×(ep×Y gh)×X?) _ (λz=>(bR z.1 (bc x.2) (bY gx x.2 z.1 λA=>(ay (eh (z.2.1.1,z.a,A)) λD=>(jn (α:=Bool×(ep×Y gh)×gz×gh×X?) (aL D.2 (bn A.1 0 (ay (ch (z.b,0,A.2)) λN=>(aH ((!N),z.2.1,z.a,(0,A.2),D.1,z.e))) (bn A.1 1 (ay (ch (z.g,1,A.2)) λL=>(aH ((!L),z.2.1,z.a,(1,A.2),D.1,z.e))) U)) (aH (J,z.2.1,z.a,A,D.1,z.e))) λd=>(aL d.1 (aH (z.1,12)) (jn (α:=(ep×Y gh)×gz×X?) (bn d.b.1 0 (bn d.b.2.1 3 (bI (bh (ah d.d+ah ([J])) 1) (aH (d.2.1,d.a,d.c,(d.d++([J])),d.m))) (bI (bh (ah d.d+ah ([(decide ((d.b.2.1:Int)=23))])) 1) (aH (d.2.1,d.a,d.c,(d.d++([(decide ((d.b.2.1:Int)=23))])),d.m)))) (bn d.b.1 1 (bn d.b.2.1 3 (bI (bh (ah d.m+ah ([J])) 1) (aH (d.2.1,d.a,d.c,d.d,(d.m++([J]))))) (bI (bh (ah d.m+ah ([(decide ((d.b.2.1:Int)=23))])) 1) (aH (d.2.1,d.a,d.c,d.d,(d.m++([(decide ((d.b.2.1:Int)=23))])))))) U)) λF=>(c7 ((cS z.1),F.1,F.2.2))))))) (aH (0,0)))) (0,x,y2,([]:θ),([]:θ))))))))
def qH (x:n!):M Γ:=kT @iter x
def dE (x:n!):M Γ:=kT @hZ x
abbrev z?:=(θ)×(θ)×θ
def kS (it:Cp) (x:n!):M Γ:=
 (bR 400 (bc x.2) (Z (0,2)) (ay (dL x.1) λy1=>(aL (!y1) (Z (0,1)) (ay (eS x.1) λy2=>(bI (dj 0 (bc x.1.c)&&dj (bc x.1.c) (bc x.1.c)&&bh (aS (bc x.1.c)) 24&&decide (((bc x.1.c):Int)=3)) (it (Int×(ep×Y gh)×gz×z?) _ (λz=>(bR z.1 (bc x.2) (bY gx x.2 z.1 λA=>(ay (eh (z.2.1.1,z.a,A)) λD=>(jn (α:=Bool×(ep×Y gh)×gz×gh×gz×z?) (aL D.2 (bn A.1 0 (ay (ch (z.b,0,A.2)) λy7=>(aH ((!y7),z.2.1,z.a,(0,A.2),D.1,z.e))) (bn A.1 1 (ay (ch (z.c,1,A.2)) λN=>(aH ((!N),z.2.1,z.a,(1,A.2),D.1,z.e))) (bn A.1 2 (ay (ch (z.h,2,A.2)) λL=>(aH ((!L),z.2.1,z.a,(2,A.2),D.1,z.e))) U))) (aH (J,z.2.1,z.a,A,D.1,z.e))) λd=>(aL d.1 (aH (z.1,12)) (jn (α:=(ep×Y gh)×gz×gz×z?) (bn d.b.1 0 (bn d.b.2.1 3 (bI (bh (ah d.d+ah ([J])) 1) (aH (d.2.1,d.a,d.c,(d.d++([J])),d.m))) (bI (bh (ah d.d+ah ([(decide ((d.b.2.1:Int)=23))])) 1) (aH (d.2.1,d.a,d.c,(d.d++([(decide ((d.b.2.1:Int)=23))])),d.m)))) (bn d.b.1 1 (bn d.b.2.1 3 (bI (bh (ah d.f+ah ([J])) 1) (aH (d.2.1,d.a,d.c,d.d,(d.f++([J])),d.p))) (bI (bh (ah d.f+ah ([(decide ((d.b.2.1:Int)=23))])) 1) (aH (d.2.1,d.a,d.c,d.d,(d.f++([(decide ((d.b.2.1:Int)=23))])),d.p)))) (bn d.b.1 2 (bn d.b.2.1 3 (bI (bh (ah d.p+ah ([J])) 1) (aH (d.2.1,d.a,d.c,d.d,d.f,(d.p++([J]))))) (bI (bh (ah d.p+ah ([(decide ((d.b.2.1:Int)=23))])) 1) (aH (d.2.1,d.a,d.c,d.d,d.f,(d.p++([(decide ((d.b.2.1:Int)=23))])))))) U))) λF=>(c7 ((cS z.1),F.1,F.2.2))))))) (aH (0,0)))) (0,x,y2,([]:θ),([]:θ),([]:θ))))))))
def qG (x:n!):M Γ:=kS @iter x
def dY (x:n!):M Γ:=kS @hZ x
abbrev Y!:=gz×(θ)×z?
def gN (it:Cp) (x:n!):M Γ:=
 (bR 400 (bc x.2) (Z (0,2)) (ay (dL x.1) λy1=>(aL (!y1) (Z (0,1)) (ay (eS x.1) λy2=>(bI (dj 0 (bc x.1.c)&&dj (bc x.1.c) (bc x.1.c)&&bh (aS (bc x.1.c)) 24&&decide (((bc x.1.c):Int)=4)) (it (Int×(ep×Y gh)×Y!) _ (λz=>(bR z.1 (bc x.2) (bY gx x.2 z.1 λA=>(ay (eh (z.2.1.1,z.a,A)) λD=>(jn (α:=Bool×(ep×Y gh)×gz×gh×Y!) (aL D.2 (bn A.1 0 (ay (ch (z.b,0,A.2)) λy7=>(aH ((!y7),z.2.1,z.a,(0,A.2),D.1,z.e))) (bn A.1 1 (ay (ch (z.c,1,A.2)) λy8=>(aH ((!y8),z.2.1,z.a,(1,A.2),D.1,z.e))) (bn A.1 2 (ay (ch (z.d,2,A.2)) λN=>(aH ((!N),z.2.1,z.a,(2,A.2),D.1,z.e))) (bn A.1 3 (ay (ch (z.m,3,A.2)) λL=>(aH ((!L),z.2.1,z.a,(3,A.2),D.1,z.e))) U)))) (aH (J,z.2.1,z.a,A,D.1,z.e))) λd=>(aL d.1 (aH (z.1,12)) (jn (α:=(ep×Y gh)×gz×Y!) (bn d.b.1 0 (bn d.b.2.1 3 (bI (bh (ah d.d+ah ([J])) 1) (aH (d.2.1,d.a,d.c,(d.d++([J])),d.m))) (bI (bh (ah d.d+ah ([(decide ((d.b.2.1:Int)=23))])) 1) (aH (d.2.1,d.a,d.c,(d.d++([(decide ((d.b.2.1:Int)=23))])),d.m)))) (bn d.b.1 1 (bn d.b.2.1 3 (bI (bh (ah d.f+ah ([J])) 1) (aH (d.2.1,d.a,d.c,d.d,(d.f++([J])),d.p))) (bI (bh (ah d.f+ah ([(decide ((d.b.2.1:Int)=23))])) 1) (aH (d.2.1,d.a,d.c,d.d,(d.f++([(decide ((d.b.2.1:Int)=23))])),d.p)))) (bn d.b.1 2 (bn d.b.2.1 3 (bI (bh (ah d.i+ah ([J])) 1) (aH (d.2.1,d.a,d.c,d.d,d.f,(d.i++([J])),d.q))) (bI (bh (ah d.i+ah ([(decide ((d.b.2.1:Int)=23))])) 1) (aH (d.2.1,d.a,d.c,d.d,d.f,(d.i++([(decide ((d.b.2.1:Int)=23))])),d.q)))) (bn d.b.1 3 (bn d.b.2.1 3 (bI (bh (ah d.q+ah ([J])) 1) (aH (d.2.1,d.a,d.c,d.d,d.f,d.i,(d.q++([J]))))) (bI (bh (ah d.q+ah ([(decide ((d.b.2.1:Int)=23))])) 1) (aH (d.2.1,d.a,d.c,d.d,d.f,d.i,(d.q++([(decide ((d.b.2.1:Int)=23))])))))) U)))) λF=>(c7 ((cS z.1),F.1,F.2.2))))))) (aH (0,0)))) (0,x,y2,([]:θ),([]:θ),([]:θ),([]:θ))))))))
def qF (x:n!):M Γ:=gN @iter x
def dl (x:n!):M Γ:=gN @hZ x
def jO (x:n!):M Γ:=orE (dl x) (orE (dY x) (orE (dE x) (eC x)))
def BW (a b:Int):fd (a,b)=Z (decide (0<=a/\a<b)):=by
 refine cf ?_;unfold fd jR aH;with_reducible repeat' first|apply OS.ok;constructor|refine IM.mk λ_=>?_
 .by_cases h:a<b<;>simp[*,fM]
 .simp;omega
def IY (l:η) (t:Int) (D:l! l<=1000):kB (l,t)=Z (l.contains t):=by
 refine cf ?_;unfold kB sX zD bn bR bY bc c7 aH cS;refine aw (P:=λy:Int=>0<=y↔t∈l) ?_ λy A=>aj ?_
 .refine dO (l! l) (by omega) (λi x=>x=(i:Int)/\∀j,j<i->¬l.getD j 0=t) ?_ ?_ ⟨rfl,λj d=>by omega⟩
  .rintro i x hi ⟨rfl,z⟩;refine gQ ?_;refine eQ (aT (aK (λh=>aj ?_) λh=>aj ?_))
   .refine ⟨λ_=>?_,λ_=>by omega⟩;have h:t=geti aP l (i:Int):=h;rw[h];exact bZ (T:=aP) (xs:=l) (by omega) (by omega)
   .refine ⟨fA,λj d=>?_⟩;have h:¬t=l.getD i 0:=h;by_cases e:j=i
    .subst e;exact λg=>h g.symm
    .exact z j (by omega)
  .rintro x ⟨rfl,z⟩;refine gC (aj ?_);refine ⟨λg=>(by omega),λg=>?_⟩;obtain⟨j,d,e⟩:=xB g;exact (z j d (by rw[aB,aD d];exact e)).elim
 .by_cases h:t∈l
  .have:=A.2 h;simp[dj,h,this]
  .have:¬0<=y:=λg=>h (A.1 g)
   simp[dj,h,this]
def amk (w:WT) (s:SY) (A:l! w.2.2.1<=1000) (z:∀c∈w.2.2.1,0<=c.2/\c.2<l! w.2.1) (e1:l! s.1=l! w.2.1) (e2:l! s.2.2.1=l! w.2.2.2.1) (d:l! s.2.2.2=l! w.2.2.2.2.1):ja (w,s)=Z J:=by
 refine cf ?_;unfold ja r7 aY bi bt cW bR iK bY bc c7 aH cS;refine aV (λx=>x=(aa,w)) ?_ ?_
 .refine cj (λh=>(h (by dsimp only[ak];omega)).elim) λ_=>cj (λh=>(h (by dsimp only[ak];omega)).elim) λ_=>aj ?_
  dsimp only[ak];rw[d];simp
 rintro x rfl;refine hX (dO (l! w.2.2.1) (by omega) (λi x=>x=((i:Int),w)) ?_ ?_ rfl)
 .rintro i x hi rfl;refine gQ ?_;refine eQ (aT (aQ (BW _ _) (cj (λh=>(h ?_).elim) λ_=>aj ?_)))
  .exact z _ (bZ (T:=nK) (xs:=w.2.2.1) (j:=(i:Int)) (by omega) (by omega))
  .dsimp only;rw[fA]
 .rintro x rfl;exact gC (aj rfl)
def agn (w:WT) (k o:Int) (h:NM w k o):jV (w,k,o)=Z J:=by
 refine cf ?_;obtain⟨k1,k2,D,lk,cn,th,A,no,d,rw_⟩:=h;unfold jV aY bi bt b7 bn bY bc aH;cases kdI k
 case no z _=>omega
 all_goals simp only[aX,aU,lX,BW]
 all_goals with_reducible repeat' first|apply OS.ok;constructor|refine IM.mk λ_=>?_
 all_goals try simp only[ak,pE] at*
 all_goals first|omega|exact rw_ ⟨by decide,by decide⟩|(simp only[*,k_,aht];done)
variable {i:Nat}
def amx (w:WT) (s:SY) (hs:SB i s) (hn:i<=1000) (t k o:Int) (he:EN w s t k o) (hr:IV w s t k o):lQ (w,s,t,k,o)=Z J:=by
 refine cf ?_;obtain⟨nm,D,t1,cd,e1,e2,e3⟩:=id he;obtain⟨_,_,ce,lk,cn,th,fu,no,mu,rw_⟩:=nm;obtain⟨_,_,_,z,wr,ra,rl,rr,xb,xe,ab,ae,nt,sp,F,se,ge⟩:=hr;have hm:16<=k/\k<=19->0<=(geti nK w.2.2.1 o).2/\(geti nK w.2.2.1 o).2<l! w.2.1:=λh=>cd _ (bZ (cn h).1 (cn h).2)
 have hH:6<=k/\k<=11->kB ((geti dF s.1 o).2,t)=Z ((geti dF s.1 o).2.contains t):=λh=>IY _ _ (by
  have:=hs.rd _ (bZ (T:=dF) (lk h).1 (by have:=(lk h).2;omega));omega)
 have lk1:6<=k/\k<=11->0<=o/\o<(l! s.1:Int):=λh=>by have:=lk h;omega
 have A:t<(l! s.2.2.2:Int):=by omega
 have fu1:k=22\/k=23->0<=o/\o<(l! s.2.2.1:Int):=λh=>by have:=fu h;omega
 have th1:k=20\/k=21->0<=o/\o<(l! s.2.2.2:Int):=λh=>by have:=th h;omega
 have d:∀{p:Prop} [Decidable p],p->decide p=J:=λh=>bj h
 unfold lQ aY bi bt cW cY bn iK bY bc aH;refine aK (λh=>?_) λn6=>?_
 .have h:k=6:=h;exact aJ (lk1 (by omega)).1 (lk1 (by omega)).2 (aT (aj (d (z (.inl h)))))
 refine aK (λh=>?_) λn10=>?_
 .have h:k=10:=h;refine gk (aJ (lk1 (by omega)).1 (lk1 (by omega)).2 (aT (aK (λ_=>?_) λg=>(g (z (.inr (.inr h)))).elim)));refine aJ (lk1 (by omega)).1 (lk1 (by omega)).2 (aT (aj (aj (d ?_))));have:=wr h;dsimp only[ak]at this ⊢;omega
 refine aK (λh=>?_) λn8=>?_
 .have h:k=8:=h;refine gk (aJ (lk1 (by omega)).1 (lk1 (by omega)).2 (aT (aK (λ_=>?_) λg=>(g (z (.inr (.inl h)))).elim)));refine aJ (lk1 (by omega)).1 (lk1 (by omega)).2 (aT (aQ (hH (by omega)) (aj (aj ?_))));rw[ra h];rfl
 refine aV (λx=>x.2=(w,s)/\(x.1=J↔k=7\/k=11)) (aK (λh=>aj ⟨rfl,λ_=>.inl h,λ_=>d h⟩) λh=>aj ⟨rfl,λh2=>.inr (bl h2),λh2=>d (h2.resolve_left h)⟩) ?_;rintro⟨b,x⟩ ⟨e,hb⟩;dsimp only at e hb;subst e;refine aM (λh=>?_) λ_=>?_
 .have h:=hb.1 h;exact aJ (lk1 (by omega)).1 (lk1 (by omega)).2 (aT (aj (d (rl h))))
 refine aK (λh=>?_) λn9=>?_
 .have h:k=9:=h;refine aJ (lk1 (by omega)).1 (lk1 (by omega)).2 (aT (aQ (hH (by omega)) (aj (rr h))))
 refine aK (λh=>aj (d (xb h))) λ_=>aK (λh=>aj (d (xe h))) λ_=>?_
 refine aK (λh=>aJ D A (aT (aj (by have:=ab h;dsimp only at this ⊢;rw[this];rfl)))) λ_=>aK (λh=>aJ D A (aT (aj (ae h)))) λ_=>?_
 refine aV (λx=>x.2=(w,s)/\(x.1=J->k=16\/k=18\/k=19)) (aK (λh=>aj ⟨rfl,λ_=>.inl h⟩) λ_=>aK (λh=>aj ⟨rfl,λ_=>.inr (.inl h)⟩) λ_=>aj ⟨rfl,λh=>.inr (.inr (bl h))⟩) ?_;rintro⟨c,x⟩ ⟨e,N⟩;dsimp only at e N;subst e;refine aM (λh=>?_) λ_=>?_
 .have h:=N h;have L:=hm (by omega);exact aJ (cn (by omega)).1 (cn (by omega)).2 (aT (aJ L.1 (by rw[e1];exact L.2) (aT (aj (d (nt h))))))
 refine aK (λh=>?_) λ_=>?_
 .have h:k=20:=h;exact gk (cj (λ_=>aJ (th1 (.inl h)).1 (th1 (.inl h)).2 (aT (aj (aj (d (sp h).2))))) λg=>((sp h).1 g).elim)
 refine aK (λh=>?_) λ_=>?_
 .have h:k=21:=h;exact gk (cj (λ_=>aJ (th1 (.inr h)).1 (th1 (.inr h)).2 (aT (aj (aj (d (F h).2))))) λg=>((F h).1 g).elim)
 refine aK (λh=>aJ (fu1 (.inl h)).1 (fu1 (.inl h)).2 (aT (aj (by have:=se h;dsimp only at this ⊢;rw[this];rfl)))) λ_=>aK (λh=>aJ (fu1 (.inr h)).1 (fu1 (.inr h)).2 (aT (aj (ge h)))) λ_=>aj rfl
def pS (w:WT) (s:SY) (hs:SB i s) (hn:i<=1000) (hw:l! w.2.2.1<=1000) (t k o:Int) (he:EN w s t k o) (d:IV w s t k o):eH (w,s,t,k,o)=Z J:=by
 refine cf ?_;obtain⟨nm,A,t1,cd,e1,e2,e3⟩:=id he;have hrd:=amx w s hs hn t k o he d;have N:t<(l! s.2.2.2:Int):=by omega
 unfold eH aY bi bt bN cW cY bn bY bc aH;refine aV (λx=>x=(aa,w,s)) ?_ ?_
 .refine aQ (amk w s hw cd e1 e2 e3) (kH rfl (aQ (BW _ _) ?_));refine cj (λh=>(h ⟨A,t1⟩).elim) λ_=>aQ (agn w k o nm) (aj rfl)
 rintro x rfl;refine hX (aJ A N (aT ?_));refine aK (λh=>aj (bj (d.b h))) λn1=>?_
 refine aK (λh=>?_) λz=>?_
 .have h:k=17:=h;obtain⟨a1,a2,a3⟩:=d.wk h;obtain⟨L,F⟩:=nm.cd (by omega);have D:=cd _ (bZ (T:=nK) (xs:=w.2.2.1) (j:=o) L F);refine gk (aK (λ_=>aK (λ_=>?_) λg=>(g a2).elim) λg=>(g a1).elim);exact aJ L F (aT (aJ D.1 (by rw[e1];exact D.2) (aT (aj (aj (bj a3))))))
 refine gk (aK (λ_=>aQ hrd (aj (aj rfl))) λg=>(g (d.r n1 z)).elim)
def aip (w:WT) (e:ET) (h1:e.2.1=1\/e.2.1=2->e.2.2.2.2.1= -1) (h2:¬(e.2.1=1\/e.2.1=2)->0<=e.2.2.2.2.1/\e.2.2.2.2.1<l! w.2.2.2.2.2/\(geti pR w.2.2.2.2.2 e.2.2.2.2.1).1=e.1):gL (w,e)=Z J:=by
 refine cf ?_;unfold gL aY dc cY bn bR jR bY bc aH;refine aV (λx=>x.2=(w,e)/\(x.1=J↔e.2.1=1\/e.2.1=2)) (aK (λh=>aj ⟨rfl,λ_=>.inl h,λ_=>rfl⟩) λh=>aj ⟨rfl,λh2=>.inr (bl h2),λh2=>bj (h2.resolve_left h)⟩) ?_;rintro⟨b,x⟩ ⟨e1,d⟩;dsimp only at e1 d;subst e1;refine aM (λh=>aj (bj (h1 (d.1 h)))) λh=>?_
 obtain⟨D,A,z⟩:=h2 λg=>by rw[d.2 g]at h;cases h
 exact gk (dW (λ_=>gQ (aJ D A (aT (aj (aj (bj z)))))) λg=>(by dsimp only at g;omega))
variable {A:η}
def agj (h:AL A) (i:Nat) (hi:i<l! A):∀z∈A.drop (i+1),A.getD i 0<z:=by
 induction A generalizing i with
 |nil=>cases hi
 |cons a A d=>
  cases i with
  |zero=>exact λz l=>h.1 z (by simpa using l)
  |succ i=>exact d h.2 i (by simpa using hi)
def UW (w:WT) (s:SN) (e:ET) (N:e.2.1=3\/e.2.1=4->0<=e.2.2.1/\e.2.2.1<l! w.1) (de:0<l! e.2.2.2.2.2.1->e.2.1=5\/(e.2.1=3\/e.2.1=4)/\¬(geti mD w.1 e.2.2.1).2.2.1=0) (fr:0<l! e.2.2.2.2.2.2->e.2.1=4\/e.2.1=22) (t0:0<=e.1) (t1:e.1<l! s.2.2.2) (nd:AN (geti aP s.2.2.2 e.1) e.2.2.2.2.2.1) (nf:AN (geti aP s.2.2.2 e.1) e.2.2.2.2.2.2) (ld:l! e.2.2.2.2.2.1<=1000000) (lf:l! e.2.2.2.2.2.2<=1000000):dP (w,s,e)=Z J:=by
 refine cf ?_;unfold dP ii aY bi bt b7 bN cW dN bn bR jR bI bY bc c7 aH cS;refine aV (λx=>x.2=(s,e)/\((e.2.1=3\/e.2.1=4)/\¬(geti mD w.1 e.2.2.1).2.2.1=0->x.1=J)) ?_ ?_
 .refine aK (λh=>?_) λn3=>aK (λh=>?_) λn4=>?_
  .exact aJ (N (.inl h)).1 (N (.inl h)).2 (aT (aj ⟨rfl,λg=>by simpa using g.2⟩))
  .exact aJ (N (.inr h)).1 (N (.inr h)).2 (aT (aj ⟨rfl,λg=>by simpa using g.2⟩))
  .exact aj ⟨rfl,λg=>(g.1.elim n3 n4).elim⟩
 rintro⟨b,x⟩ ⟨e1,hb⟩;dsimp only at e1 hb;subst e1;refine aV (λx=>x.1=s/\x.2.1=e/\(0<l! e.2.2.2.2.2.1->x.2.2.1=J)/\(0<l! e.2.2.2.2.2.2->x.2.2.2=J)) ?_ ?_
 .refine aK (λh5=>aK (λD=>aj ⟨rfl,rfl,λ_=>rfl,λ_=>rfl⟩) λD=>aj ⟨rfl,rfl,λ_=>rfl,λg=>?_⟩) λh5=>aK (λD=>aj ⟨rfl,rfl,λg=>?_,λ_=>rfl⟩) λD=>aj ⟨rfl,rfl,λg=>?_,λg=>?_⟩
  .exact bj ((fr g).resolve_left D)
  .exact hb ((de g).resolve_left h5)
  .exact hb ((de g).resolve_left h5)
  .exact bj ((fr g).resolve_left D)
 rintro⟨s',d,a,b'⟩ ⟨e1,e2,h1,h2⟩;dsimp only at e1 e2 h1 h2;subst e1 e2;have key:∀(r:η),l! r<=1000000->AN (geti aP s'.2.2.2 d.1) r->∀j:Nat,j<l! r->∀z∈r.drop (j+1),geti aP r (j:Int)<z:=λr _ h j A z hz=>agj h.a j A z hz
 refine dO 2 (by omega) (λi x=>x=((i:Int),s',d,a,b')) ?_ ?_ rfl
 .rintro i x hi rfl;refine gQ ?_;refine c6 (a? (te (by dsimp only;omega) (aT ?_)));have hr:∃r:η,geti (.sl (.int .i64)) [d.2.2.2.2.2.1,d.2.2.2.2.2.2] (i:Int)=r/\AN (geti aP s'.2.2.2 d.1) r/\l! r<=1000000/\(0<l! r->geti (.bool) [a,b'] (i:Int)=J):=by
   match i,hi with
   |0,_=>exact⟨_,rfl,nd,ld,h1⟩
   |1,_=>exact⟨_,rfl,nf,lf,h2⟩
  obtain⟨r,er,hA,hl,hb'⟩:=hr;have er':geti (.sl aP) [d.2.2.2.2.2.1,d.2.2.2.2.2.2] (i:Int)=r:=er;dsimp only at er' ⊢;rw[er'];refine aV (λx=>x=(aa,s',d,a,b')) ?_ ?_
  .refine aW (λg=>?_) λ_=>aj rfl
   have g':0<l! r:=by dsimp only[ak]at g;omega
   refine c6 (a? (te (by omega) (eQ (aT (aj ?_)))));rw[hb' g'];rfl
  rintro x rfl;refine hX ?_;refine dO (l! r) (by omega) (λj x=>x.1.2=(j:Int)/\x.2=(s',d,a,b')/\∀z∈r.drop j,x.1.1<z) ?_ ?_ ⟨rfl,rfl,λz hz=>?_⟩
  .rintro j ⟨⟨la,ix⟩,x⟩ A ⟨L,F,g3⟩;dsimp only at L F g3;subst L F;have m:geti aP r (j:Int)∈r:=bZ (T:=aP) (xs:=r) (by omega) (by omega);have m2:geti aP r (j:Int)∈r.drop j:=by
    have:geti aP r (j:Int)=r[j]:=by
     show r.getD j 0=_;rw[aB,aD A];rfl
    rw[this,List.drop_eq_getElem_cons A];exact c_
   refine gQ ?_;refine eQ (aT (aV (λx=>x=(aa,s',d,a,b')) ?_ ?_))
   .refine dW (λg=>?_) λ_=>aJ t0 t1 (aT (aj ?_))
    .have q1:=g3 _ m2;exact cN q1 (by dsimp only at g;exact λq=>cN (Int.lt_of_lt_of_le q g) (Int.lt_irrefl _))
    .have:=(hA.m _ m).2;rw[ms.2 (show geti aP r (j:Int)<geti aP s'.2.2.2 d.1 from this)]
   rintro x rfl;exact hX (aj ⟨fA,rfl,key r hl hA j A⟩)
  .rintro⟨⟨la,ix⟩,x⟩ ⟨L,F,_⟩;dsimp only at L F;subst L F;exact gC (aj (ey (·,s',d,a,b') fA))
  .have:=(hA.m z (by simpa using hz)).1;dsimp only;omega
 .rintro x rfl;exact gC (aj rfl)
def aqr (w:WT) (s:SN) (d:l! w.2.2.1<=1000) (t k o:Int) (he:EN w s.1 t k o) (hf:Wb w s):iM (w,s)=Z J:=by
 obtain⟨_,_,_,A,e1,e2,z⟩:=he;obtain⟨F,D,f3⟩:=hf;refine cf ?_;unfold iM aY bi bt cW bn bc aH;refine gk (aQ (amk w s.1 d A e1 e2 z) (uA (aK (λ_=>aK (λ_=>aj (aj (bj ?_))) λg=>(g ?_).elim) λg=>(g ?_).elim)));all_goals dsimp only[ak];omega
def BV (th:Y d?) (c:Int) (i:Nat):wl th c (i+1)=if HI c (geti hJ th (i:Int)) then wl th c i++[(i:Int)] else wl th c i:=rfl
def ai2 (w:WT) (s:SN) (hs:SB i s.1) (e:ET) (hf:Wb w s) (he:EN w s.1 e.1 e.2.1 e.2.2.1) (va:VA w s.1 s.2.1 s.2.2.1 e.1 e.2.1 e.2.2.1 e.2.2.2.1):e9 (s,e)=Z J:=by
 refine cf ?_;obtain⟨t,k,o,v,si,N,L⟩:=e;obtain⟨d,s2,s3,s4⟩:=s;obtain⟨nm,t0,t1,cd,e1,e2,e3⟩:=he;obtain⟨_,_,ce,lk,cn,th,fu,_,_,_⟩:=nm;obtain⟨f1,f2,f3⟩:=hf;have hth:=hs.th;obtain⟨v3,v23,v5,vel⟩:=va;dsimp only at*
 unfold e9 kR aY bi bt b7 bN bn bR bY bc c7 aH cS;refine aK (λh=>?_) λn3=>?_
 .have h:k=3:=h;obtain⟨c0,c1⟩:=ce (.inl h);exact aJ c0 (by rw[f1];exact c1) (aT (aj (bj (v3 h))))
 refine aK (λh=>?_) λn23=>?_
 .have h:k=23:=h;obtain⟨c0,c1⟩:=fu (.inr h);exact aJ c0 (by rw[f2];exact c1) (aT (aj (bj (v23 h))))
 refine aK (λh=>?_) λn5=>?_
 .have h:k=5:=h;exact gk (aK (λ_=>aj (aj rfl)) λg=>aj (aj (bj ((v5 h).resolve_left g))))
 refine aV (λx=>x.2=((d,s2,s3,s4),t,k,o,v,si,N,L)/\(x.1=aa->¬k=4/\¬k=22)) (aK (λh=>aj ⟨rfl,λh2=>(by rw[bj h]at h2;cases h2)⟩) λh=>aj ⟨rfl,λh2=>⟨h,kG h2⟩⟩) ?_;rintro⟨b,x⟩ ⟨e,hb⟩;dsimp only at e hb;subst e;refine aM (λh=>aj rfl) λh=>?_
 obtain⟨n4,n22⟩:=hb h;have vel:=vel n3 n23 n5 n4 n22;have hWl:=ry d.2.2.2 o (l! d.2.2.2);refine aK (λh=>?_) λn18=>?_
 .have h:k=18:=h;subst h;rw[Hs]at vel;refine dO (l! d.2.2.2) (by omega) (λn x=>x.1.2.2=(n:Int)/\x.2=(t,18,o,v,si,N,L)/\x.1.1=(l! (wl d.2.2.2 o n):Int)/\(x.1.2.1=J↔v∈wl d.2.2.2 o n)) ?_ ?_ ⟨rfl,rfl,rfl,by simp[wl]⟩
  .rintro n ⟨⟨c,hit,ix⟩,x⟩ hi ⟨A,z,D,F⟩;dsimp only at A z D F;subst A z D;have hl:=ry d.2.2.2 o n;refine gQ ?_;refine aV (λx=>x.2=(t,18,o,v,si,N,L)/\x.1.1=(l! (wl d.2.2.2 o (n+1)):Int)/\(x.1.2=J↔v∈wl d.2.2.2 o (n+1))) ?_ ?_
   .refine eQ (aT (aV (λx=>x=(HI o (geti hJ d.2.2.2 (n:Int)),t,18,o,v,si,N,L)) ?_ ?_))
    .unfold HI;refine aK (λh=>aj ?_) λh=>aj ?_
     .dsimp only at h ⊢;rw[h];rfl
     .dsimp only at h ⊢;rw[b_ h];rfl
    rintro x rfl;rw[BV];dsimp only;cases hw:HI o (geti hJ d.2.2.2 (n:Int)) with
    |true=>
     refine uA (aM (λh=>aj ⟨rfl,?_,?_⟩) λh=>aj ⟨rfl,?_,?_⟩)
     .dsimp only;rw[fA];simp
     .simp[F.1 h]
     .dsimp only;rw[fA];simp
     .have:¬v∈wl d.2.2.2 o n:=λg=>by rw[F.2 g]at h;cases h
      simp[this]
    |false=>exact hX (aj ⟨rfl,rfl,F⟩)
   rintro⟨⟨c,hit'⟩,x⟩ ⟨A,z,D⟩;dsimp only at A z D;subst A z;exact aj ⟨fA,rfl,rfl,D⟩
  .rintro⟨⟨c,hit,ix⟩,x⟩ ⟨A,z,D,F⟩;dsimp only at A z D F;subst A z D;refine gC (aw (P:=λy=>y=J) (gk (aM (λ_=>aj (aj rfl)) λh=>?_)) λy hy=>aj hy);have hn:¬v∈wl d.2.2.2 o (l! d.2.2.2):=λg=>by rw[F.2 g]at h;cases h
   by_cases h0:l! (wl d.2.2.2 o (l! d.2.2.2))=0
   .rw[aG h0]at vel;refine aK (λ_=>aj (aj (bj vel))) λg=>(g (by dsimp only;omega)).elim
   .rw[aA h0]at vel;have vel:v=F0 (wl d.2.2.2 o (l! d.2.2.2)) v:=vel;exact (hn (vel▸ZH v h0)).elim
 refine aK (λh=>?_) λn19=>?_
 .have h:k=19:=h;subst h;rw[Yu]at vel;refine dO (l! d.2.2.2) (by omega) (λn x=>x.1.2=(n:Int)/\x.2=(t,19,o,v,si,N,L)/\x.1.1=(l! (wl d.2.2.2 o n):Int)) ?_ ?_ ⟨rfl,rfl,rfl⟩
  .rintro n ⟨⟨c,ix⟩,x⟩ hi ⟨A,z,D⟩;dsimp only at A z D;subst A z D;have hl:=ry d.2.2.2 o n;refine gQ ?_;refine aV (λx=>x.2=(t,19,o,v,si,N,L)/\x.1=(l! (wl d.2.2.2 o (n+1)):Int)) ?_ ?_
   .refine eQ (aT (aV (λx=>x=(HI o (geti hJ d.2.2.2 (n:Int)),t,19,o,v,si,N,L)) ?_ ?_))
    .unfold HI;refine aK (λh=>aj ?_) λh=>aj ?_
     .dsimp only at h ⊢;rw[h];rfl
     .dsimp only at h ⊢;rw[b_ h];rfl
    rintro x rfl;rw[BV];dsimp only;cases hw:HI o (geti hJ d.2.2.2 (n:Int)) with
    |true=>
     refine uA (aj ⟨rfl,?_⟩);dsimp only;rw[fA];simp
    |false=>exact hX (aj ⟨rfl,rfl⟩)
   rintro⟨c,x⟩ ⟨A,z⟩;dsimp only at A z;subst A z;exact aj ⟨fA,rfl,rfl⟩
  .rintro⟨⟨c,ix⟩,x⟩ ⟨A,z,D⟩;dsimp only at A z D;subst A z D;exact gC (aj (bj vel))
 exact aj (bj (by rw[ZQ _ _ _ _ _ _ n18 n19]at vel;exact vel))
def adg (x:d?) (c:Int):nE (x,c)=Z (HI c x):=by
 refine cf ?_;unfold nE HI bn aH;refine gk (aK (λh=>aj (aj ?_)) λh=>aj (aj ?_))
 .have h:x.1=3:=h;rw[h];rfl
 .have h:¬x.1=3:=h;rw[b_ h];rfl
def ag9 (s:SY) (A:SB i s):lR s=Z (s.2.1,s.1,s.2.2.1,s.2.2.2):=by
 refine cf ?_;obtain⟨z,L,F,D⟩:=s;have hn:=A.n1;have hlk:=A.lk;have hdn:=A.dn;have hth:=A.th;have hrd:=A.rd;dsimp only at hlk hdn hth hrd;unfold lR tC aY bN ck bR bI bY bc c7 cS;dsimp only[ak];refine c6 (c6 (a? (a? (a! ?_))));refine dO (l! z) (by omega) (λn x=>∃c d,x=((n:Int),(z,L,F,D),c,d)/\l! d=l! z/\∀j,j<n->d.getD j (0,[])=z.getD j (0,[])) ?_ ?_ ⟨_,_,rfl,by simp,λj hj=>by omega⟩
 .rintro n x hi ⟨c,d,rfl,hd,he⟩;have hr:=hrd _ (bZ (T:=dF) (xs:=z) (j:=(n:Int)) (by omega) (by omega));refine gQ ?_;refine eQ (aT (aQ (x:=(geti dF z (n:Int)).2) (cf ?_) ?_))
  .exact a! (aj rfl)
  refine eQ (eQ (aj ⟨c,d.set n (geti dF z (n:Int)),?_,by simp[hd],λj hj=>?_⟩))
  .dsimp only;rw[fA];rfl
  .by_cases e:n=j
   .subst e;rw[aB,List.getElem?_set_self (by omega)];rfl
   .rw[aB,List.getElem?_set_ne e,<-aB];exact he j (by omega)
 .rintro x ⟨c,d,rfl,hd,he⟩;have:d=z:=by
   refine sw hd λj g1 N=>?_
   have:=he j N;rw[aB,aB,aD g1,aD N]at this;exact this
  subst this;refine gC (aw (P:=λy=>y=(L,d,F,D)) ?_ λy hy=>aj hy);refine aQ (x:=F) (cf (a! (aj rfl))) (aQ (x:=D) (cf (a! (aj rfl))) (aj rfl))
def ZI (l:η) (i u:Int):F0 (l++[i]) u=if (l! l)=0 then i else if i=u then i else F0 l u:=by
 unfold F0;cases l with
 |nil=>
  by_cases h:u=i
  .subst h;simp
  .simp[h];rfl
 |cons a r=>
  have e1:¬l! (a::r++[i])=0:=by simp
  have e2:¬l! (a::r)=0:=by simp
  simp only[aA e1,aA e2];by_cases h:i=u
  .subst h;simp
  .have h':¬u=i:=λg=>h g.symm
   rw[aA h];have:(a::r++[i]).contains u=(a::r).contains u:=by simp[h']
   rw[this];rfl
variable {a:Int}
def Ks {th:Y d?} {u:Int} (h:¬l! (wl th a i)=0):0<=F0 (wl th a i) u/\F0 (wl th a i) u<i:=by
 have:=AQ.1 (ZH u h);exact⟨this.1,this.2.1⟩
def M' {u:Int} (h:l! A=0):F0 A u= -1:=by unfold F0;rw[aG h]
def aiw (s:SY) (o u:Int) (L:l! s.2.2.2<=1000):kN ((s.2.1,o,u),s.1,s.2.2.1,s.2.2.2)=Z (F0 (wl s.2.2.2 o (l! s.2.2.2)) u,s.1,s.2.2.1,if (l! (wl s.2.2.2 o (l! s.2.2.2)))=0 then s.2.2.2 else NT s.2.2.2 (F0 (wl s.2.2.2 o (l! s.2.2.2)) u) 4):=by
 refine cf ?_;obtain⟨A,D,z,d⟩:=s;dsimp only at L ⊢;unfold kN rZ aY bi bN ck bR jR jZ bc c7 aH cS;dsimp only[ak];refine dO (l! d) (by omega) (λi x=>x=((F0 (wl d o i) u,(i:Int)),A,z,d,D)) ?_ ?_ rfl
 .rintro i x hi rfl;refine gQ ?_;refine aV (λx=>x=(F0 (wl d o (i+1)) u,A,z,d,D)) ?_ ?_
  .refine eQ (eQ (aT ?_));refine aV (λx=>x=(decide (HI o (geti hJ d (i:Int))=J/\(l! (wl d o i)=0\/(i:Int)=u)),A,z,d,D)) ?_ ?_
   .refine aQ (adg _ _) (aM (λh=>?_) λh=>aj ?_)
    .have h:HI o (geti hJ d (i:Int))=J:=h;refine aW (λg=>aj ?_) λg=>aj ?_
     .have:l! (wl d o i)=0:=Classical.byContradiction λq=>by have:=(Ks (u:=u) q).1;dsimp only at g;omega
      simp[h,this]
     .have:¬l! (wl d o i)=0:=λq=>by have:=M' (u:=u) q;dsimp only at g;omega
      simp[h,this]
    .have h:HI o (geti hJ d (i:Int))=aa:=h;simp[h]
   rintro x rfl;rw[BV];refine aK (λh=>aj ?_) λh=>aj ?_
   .rw[aG h.1,ZI];rcases h.2 with g|g
    .rw[aG g]
    .rw[aG g];simp
   .by_cases g:HI o (geti hJ d (i:Int))=J
    .rw[aG g,ZI,aA λq=>h ⟨g,.inl q⟩,aA λq=>h ⟨g,.inr q⟩]
    .rw[aA g]
  rintro x rfl;exact aj (by dsimp only;rw[fA])
 .rintro x rfl;refine gC (aw (P:=λy=>y=(F0 (wl d o (l! d)) u,A,z,if (l! (wl d o (l! d)))=0 then d else NT d (F0 (wl d o (l! d)) u) 4)) ?_ λy F=>aj F);refine aV (λx=>x=(A,z,if (l! (wl d o (l! d)))=0 then d else NT d (F0 (wl d o (l! d)) u) 4)) ?_ ?_
  .refine dW (λg=>?_) λg=>aj ?_
   .have h0:¬l! (wl d o (l! d))=0:=λq=>by have:=M' (u:=u) q;dsimp only at g;omega
    have hp:=Ks (u:=u) h0;refine aJ hp.1 hp.2 (aJ hp.1 hp.2 (aj ?_));rw[aA h0];rfl
   .have:l! (wl d o (l! d))=0:=Classical.byContradiction λq=>by have:=(Ks (u:=u) q).1;dsimp only at g;omega
    rw[aG this]
  rintro x rfl;exact aj rfl
def aj4 (th:Y d?) (l:η) (i:Int):St th (l++[i])=NT (St th l) i 4:=by unfold St;rw[gW];rfl
def aj3 (l:η):∀(th:Y d?) (j:Int),0<=j->(∀z∈l,0<=z/\z<l! th/\¬z=j)->geti hJ (St th l) j=geti hJ th j:=by
 induction l with
 |nil=>intro th j _ _;rfl
 |cons x r D=>
  intro th j A h;have d:=h x (by simp);refine (D (NT th x 4) j A λz F=>?_).trans ?_
  .have:=h z (by simp[F]);unfold NT;rw[cR];exact this
  .unfold NT;rw[PN (T:=hJ) th x j _ d.1 d.2.1 A,aA λq=>d.2.2 q.symm]
def W4 (s:SY) (o:Int) (hs:l! s.2.2.2<=1000):ie ((s.2.1,o),s.1,s.2.2.1,s.2.2.2)=Z ((l! (wl s.2.2.2 o (l! s.2.2.2)):Int),s.1,s.2.2.1,St s.2.2.2 (wl s.2.2.2 o (l! s.2.2.2))):=by
 refine cf ?_;obtain⟨F,D,A,d⟩:=s;dsimp only at hs ⊢;unfold ie nQ aY bi bN cW ck bR jZ bc c7 aH cS;dsimp only[ak];refine dO (l! d) (by omega) (λi x=>x=(((l! (wl d o i):Int),(i:Int)),F,A,St d (wl d o i),D)) ?_ ?_ rfl
 .rintro i x hi rfl;have hl:=ry d o i;have L:geti hJ (St d (wl d o i)) (i:Int)=geti hJ d (i:Int):=aj3 _ _ _ (by omega) λz N=>by have:=AQ.1 N;exact⟨this.1,by omega,by omega⟩
  have hq:=Ke (wl d o i) d;refine gQ ?_;refine aV (λx=>x=((l! (wl d o (i+1)):Int),F,A,St d (wl d o (i+1)),D)) ?_ ?_
  .refine eQ (eQ (aT (aQ (adg _ _) ?_)));rw[BV];refine aM (λh=>?_) λh=>aj ?_
   .have h:HI o (geti hJ d (i:Int))=J:=L▸h;refine eQ (eQ (aj ?_));rw[aG h,aj4];dsimp only;rw[fA];simp only[bG,bX,lm];rfl
   .have h:HI o (geti hJ d (i:Int))=aa:=L▸h;rw[h];rfl
  rintro x rfl;exact aj (by dsimp only;rw[fA])
 .rintro x rfl;exact gC (aj rfl)
def alc (w:WT) (s:SY) (d:SB i s) (N:i<=1000) (F:l! w.2.2.1<=1000) (t k o u:Int) (he:EN w s t k o) (L:IV w s t k o) (A:¬k=8) (z:¬k=9):ig (w,s,t,k,o,u)=Z ((yz w s t k o u).1,(yz w s t k o u).2,J):=by
 refine cf ?_;unfold ig aY bi bt b7 dc bN cW cY dN iX ck bn bI bY jZ aH;refine aQ (pS w s d N F t k o he L) (kH rfl (aQ (ag9 s d) ?_));suffices hmain:Ok _ _ from aV (λx=>((x.2.2.2.1,x.2.1,x.2.2.2.2),x.1)=yz w s t k o u) hmain λx D=>aj (by rw[<- D])
 obtain⟨nm,t0,t1,cd,e1,e2,e3⟩:=id he;obtain⟨_,_,ce,lk,cn,th,fu⟩:=nm;have hm:16<=k/\k<=19->0<=(geti nK w.2.2.1 o).2/\(geti nK w.2.2.1 o).2<l! w.2.1:=λh=>cd _ (bZ (cn h).1 (cn h).2)
 cases kdI k
 case no hk _=>omega
 all_goals first|exact (A rfl).elim|exact (z rfl).elim|skip
 all_goals simp only[aX,aU,lX]
 all_goals with_reducible repeat' first|apply OS.ok;constructor|refine IM.mk λ_=>?_
 all_goals try simp only[ak,pE] at*
 all_goals try rw[cR]
 all_goals first|omega|exact (hm ⟨by decide,by decide⟩).1|exact e1▸(hm ⟨by decide,by decide⟩).2|exact rfl|skip
 .refine aQ (aiw s o u d.th) (a9 ?_ (aj ?_))
  .have:ah (if (l! (wl s.2.2.2 o (l! s.2.2.2)))=0 then s.2.2.2 else NT s.2.2.2 (F0 (wl s.2.2.2 o (l! s.2.2.2)) u) 4)=l! s.2.2.2:=by
    split
    .rfl
    .exact cR ..
   dsimp only;rw[this];simp
  .rw[Hs];by_cases h:l! (wl s.2.2.2 o (l! s.2.2.2))=0
   .rw[aG h,aG h,M' h]
   .rw[aA h,aA h]
 .refine aQ (W4 s o d.th) (a9 ?_ (aj rfl));dsimp only;rw[Ke];simp
def CW:Nat->Y η
 |0=>[[]]
 |m+1=>CW m++(CW m).map ((3-(m:Int))::·)
def Ph:∀m,[]∈CW m
 |0=>by simp[CW]
 |m+1=>by simp[CW,Ph m]
def Gl:∀(m:Nat) (l:η),AL l->(∀z∈l,4-(m:Int)<=z/\z<4)->l∈CW m
 |m,[],_,_=>Ph m
 |0,a::r,_,h=>by have:=h a (by simp);omega
 |m+1,a::r,hA,h=>by
  have A:=h a (by simp);rw[CW,bE];by_cases e:a=3-(m:Int)
  .refine .inr (cq.2 ⟨r,Gl m r hA.2 λz d=>?_,by rw[e]⟩);have:=h z (by simp[d]);have:=hA.1 z d;omega
  .refine .inl (Gl m (a::r) hA λz d=>?_);have:=h z d;rcases bm.1 d with rfl|d
   .omega
   .have:=hA.1 z d;omega
def ali (h:AL A) (h2:∀z∈A,0<=z/\z<4):A∈CW 4:=Gl 4 A h λz d=>by have:=h2 z d;omega
def in4:η:=[0,1,2,3]
def Zi (h0:0<=a) (h1:a<4):a∈in4:=by
 have:a=0\/a=1\/a=2\/a=3:=by omega
 rcases this with rfl|rfl|rfl|rfl<;>simp[in4]
def apx (l:η) (t:Int):Bool:=l.contains t||((jP (l++[t])==Z (sA l [t]))&&(eF (sA l [t])==Z (sA l [t]))&&ax (l! (sA l [t])) (l! (l++[t])))
def aqt (l:η) (t:Int):Bool:= !l.contains t||(dw (l,t)==Z (t,wo l t))
def ai6:((CW 4).all λl=>in4.all λt=>apx l t)=J:=by kernel_rfl
def ajy:((CW 4).all λl=>in4.all λt=>aqt l t)=J:=by kernel_rfl
def NU (h:AL A) (h2:∀z∈A,0<=z/\z<4) (h0:0<=a) (h1:a<4) (d:¬a∈A):jP (A++[a])=Z (sA A [a])/\eF (sA A [a])=Z (sA A [a])/\l! (sA A [a])=l! (A++[a]):=by
 have:=gJ.1 (gJ.1 ai6 A (ali h h2)) a (Zi h0 h1);unfold apx at this;have l:A.contains a=aa:=by simp[d]
 rw[l,yJ,au,au]at this;exact⟨eq_of_beq this.1.1,eq_of_beq this.1.2,av this.2⟩
def OB (h:AL A) (h2:∀z∈A,0<=z/\z<4) (h0:0<=a) (h1:a<4) (d:A.contains a=J):dw (A,a)=Z (a,wo A a):=by
 have:=gJ.1 (gJ.1 ajy A (ali h h2)) a (Zi h0 h1);unfold aqt at this;rw[d,yI,yJ]at this;exact eq_of_beq this
def VO (w:WT) (k o:Int):Ok (jV (w,k,o)) λb=>b=J->NM w k o:=by
 unfold jV aY bi bt b7 bn bY bc aH;cases kdI k
 case no d _=>
  simp only[d,aX,aU,lX];with_reducible repeat' first|apply OS.ok;constructor|refine IM.mk λ_=>?_
  all_goals try simp only[ak,pE] at*
  all_goals first|omega|(intro h;cases h;done)|skip
 all_goals simp only[aX,aU,lX,BW]
 all_goals with_reducible repeat' first|apply OS.ok;constructor|refine IM.mk λ_=>?_
 all_goals try simp only[ak,pE] at*
 all_goals first|omega|(intro h;cases h;done)|(intro h;constructor<;>first|omega|(intro h2;first|omega|(simpa using h)))
def V_ (w:WT) (s:SY) (L:l! w.2.2.1<=1000):Ok (ja (w,s)) λb=>b=J->(∀c∈w.2.2.1,0<=c.2/\c.2<l! w.2.1)/\l! s.1=l! w.2.1/\l! s.2.2.1=l! w.2.2.2.1/\l! s.2.2.2=l! w.2.2.2.2.1:=by
 unfold ja r7 aY bi bt cW bR iK bY bc c7 aH cS;refine aV (λx=>x.2=w/\(x.1=aa->l! s.1=l! w.2.1/\l! s.2.2.1=l! w.2.2.2.1/\l! s.2.2.2=l! w.2.2.2.2.1)) ?_ ?_
 .refine cj (λ_=>aj ⟨rfl,nofun⟩) λh1=>cj (λ_=>aj ⟨rfl,nofun⟩) λh2=>aj ⟨rfl,λz=>?_⟩
  have z:aR (l! s.2.2.2)=aR (l! w.2.2.2.2.1):=by simpa using z
  exact⟨uf h1,uf h2,uf z⟩
 rintro⟨b,x⟩ ⟨e,A⟩;dsimp only at e A;subst e;refine aM (λ_=>aj nofun) λh=>?_
 have D:=A h;refine dO (l! x.2.2.1) (by omega) (λi y=>y=((i:Int),x)/\∀k:Nat,k<i->0<=(geti nK x.2.2.1 (k:Int)).2/\(geti nK x.2.2.1 (k:Int)).2<l! x.2.1) ?_ ?_ ⟨rfl,λk F=>(by omega)⟩
 .rintro i y hi ⟨rfl,d⟩;refine gQ (eQ (aT (aQ (BW _ _) (cj (λ_=>aj nofun) λg=>aj ⟨?_,λk F=>?_⟩))))
  .dsimp only;rw[fA]
  .rcases bu k i with h1|h1
   .exact d k h1
   .rw[show k=i by omega];exact g
 .rintro y ⟨rfl,d⟩;exact gC (aj λ_=>⟨iS (T:=nK) d,D⟩)
def aa5 (w:WT) (s:SY) (z:SB i s) (hn:i<=1000) (t k o:Int) (he:EN w s t k o) (N:¬k=1) (d:¬k=17) (hst:(geti hJ s.2.2.2 t).1=2):Ok (lQ (w,s,t,k,o)) λb=>b=J->IV w s t k o:=by
 obtain⟨nm,L,F,D,e1,e2,e3⟩:=id he;obtain⟨_,_,ce,lk,cn,th,fu,_,_,_⟩:=nm;have hm:16<=k/\k<=19->0<=(geti nK w.2.2.1 o).2/\(geti nK w.2.2.1 o).2<l! w.2.1:=λh=>D _ (bZ (cn h).1 (cn h).2)
 have A:6<=k/\k<=11->kB ((geti dF s.1 o).2,t)=Z ((geti dF s.1 o).2.contains t):=λh=>IY _ _ (by
  have:=z.rd _ (bZ (T:=dF) (lk h).1 (by have:=(lk h).2;omega));omega)
 unfold lQ aY bi bt cW cY bn iK bY bc aH;cases kdI k
 case no hk _=>omega
 all_goals first|omega|skip
 all_goals simp only[aX,aU,lX]
 all_goals with_reducible repeat' first|apply OS.ok;constructor|refine IM.mk λ_=>?_
 all_goals try simp only[A (by omega),Wn]
 all_goals with_reducible repeat' first|apply OS.ok;constructor|refine IM.mk λ_=>?_
 all_goals try simp only[ak,pE] at*
 all_goals first|omega|(intro h;cases h;done)|exact (hm ⟨by decide,by decide⟩).1|(rw [e1];exact (hm ⟨by decide,by decide⟩).2)|(intro h;constructor<;>first|omega|(intros;first|omega|assumption|(simpa using h)|exact⟨by assumption,by first|assumption|(simpa using h)⟩))|(constructor<;>(intros;first|omega|assumption))|skip
variable {B:WT}
def IV.one {s:SY} {o:Int} (h:(geti hJ s.2.2.2 a).1=1):IV B s a 1 o:=by
 constructor<;>(intros;first|omega|assumption)
def IV.wake {s:SY} {o:Int} (h1:(geti hJ s.2.2.2 a).1=4) (h2:(geti hJ s.2.2.2 a).2.1=o) (d:(geti dF s.1 (geti nK B.2.2.1 o).2).1= -1):IV B s a 17 o:=by
 constructor<;>(intros;first|omega|exact⟨h1,h2,d⟩)
def Wc (w:WT) (s:SY) (hs:SB i s) (hn:i<=1000) (hw:l! w.2.2.1<=1000) (t k o:Int):Ok (eH (w,s,t,k,o)) λb=>b=J->EN w s t k o/\IV w s t k o:=by
 unfold eH aY bi bt bN cW cY bn bY bc aH;refine aV (λx=>x.2=(w,s)/\(x.1=aa->EN w s t k o)) ?_ ?_
 .refine aw (V_ w s hw) λb hb=>di (λ_=>aj ⟨rfl,nofun⟩) λh1=>aQ (BW _ _) ?_
  refine cj (λ_=>aj ⟨rfl,nofun⟩) λh2=>aw (VO w k o) λc z=>aj ⟨rfl,λh3=>?_⟩
  obtain⟨f1,f2,f3,f4⟩:=hb h1;exact⟨z (by simpa using h3),h2.1,h2.2,f1,f2,f3,f4⟩
 rintro⟨b,x⟩ ⟨e,A⟩;dsimp only at e A;subst e;refine aM (λ_=>aj nofun) λh=>?_
 have he:=A h;obtain⟨nm,t0,t1,cd,e1,e2,e3⟩:=id he;have N:t<(l! s.2.2.2:Int):=by omega
 refine aJ t0 N (aT ?_);refine aK (λh=>aj λg=>⟨he,?_⟩) λn1=>?_
 .have h:k=1:=h;subst h;exact IV.one (bl g)
 refine aK (λh=>?_) λd=>?_
 .have h:k=17:=h;subst h;obtain⟨L,F⟩:=nm.cd (by omega);have D:=cd _ (bZ (T:=nK) (xs:=w.2.2.1) (j:=o) L F);refine gk (aK (λg1=>aK (λg2=>?_) λ_=>aj (aj nofun)) λ_=>aj (aj nofun));exact aJ L F (aT (aJ D.1 (by rw[e1];exact D.2) (aT (aj (aj λg3=>⟨he,IV.wake g1 g2 (bl g3)⟩)))))
 refine gk (aK (λg=>?_) λ_=>aj (aj nofun));exact aw (aa5 w s hs hn t k o he n1 d g) λc z=>aj (aj λh=>⟨he,z h⟩)
def EM {σ:Type} {f:σ->M (σ⊕R)} {Q:R->Prop} (n:Nat) (μ:σ->Nat) (I:σ->Prop) (h:∀x,I x->Ok (f x) λr=>match r with|.inl y=>I y/\μ y<μ x|.inr r=>Q r) {x:σ} (A:μ x<=n/\n<=1000000) (d:I x):Ok (hZ f x) Q:=by
 have key:∀n x,μ x<n->I x->∃r,iterN f n x=Z r/\Q r:=by
  intro n;induction n with
  |zero=>intro x hm;omega
  |succ n z=>
   intro x hm d;obtain⟨r,h1,h2⟩:=h x d;cases r with
   |inl y=>
    obtain⟨r,F,D⟩:=z y (by have:=h2.2;omega) h2.1;exact⟨r,by rw[iterN,h1];exact F,D⟩
   |inr r=>exact⟨r,by rw[iterN,h1],h2⟩
 obtain⟨r,h1,h2⟩:=key (n+1) x (Nat.lt_succ_of_le A.1) d;exact⟨r,xZ h1 (by omega),h2⟩
def Xa (z:Int):Bool:=decide (97<=z/\z<=122\/65<=z/\z<=90)
def GO (z:Int):Bool:=decide (97<=z/\z<=122\/65<=z/\z<=90\/48<=z/\z<=57\/z=95)
def YI:Y ζ:=[[118,97,114],[118,111,108,97,116,105,108,101],[109,117,116,101,120],[114,119,108,111,99,107],[99,111,110,100],[102,117,116,117,114,101],[116,104,114,101,97,100],[105,102],[101,108,115,101],[119,104,105,108,101],[108,111,99,107],[114,101,97,100],[119,114,105,116,101],[116,114,97,110,115,97,99,116,105,111,110],[97,116,111,109,105,99],[119,97,105,116],[110,111,116,105,102,121],[110,111,116,105,102,121,97,108,108],[115,112,97,119,110],[106,111,105,110],[115,101,116],[103,101,116]]
structure wc (s:ζ):Prop where
 l1:1<=l! s
 l2:l! s<=12
 lt:Xa (sB s 0)=J
 kw:¬s∈YI
 al:∀k:Nat,k<l! s->GO (sB s (k:Int))=J
def Qw (c:Int):mJ c=Z (Xa c):=by
 refine cf ?_;unfold mJ jR aH;with_reducible repeat' first|apply OS.ok;constructor|refine IM.mk λ_=>?_
 all_goals try simp only[ak,pE] at*
 all_goals (rw [HH];simp only[Xa,qe,bB,true_iff,iff_true,bM,false_iff];omega)
def afd (c:Int):qR c=Z (GO c):=by
 refine cf ?_;unfold qR vI jR aH;have hL:Xa c=J↔(97<=c/\c<=122\/65<=c/\c<=90):=by unfold Xa;exact decide_eq_true_iff
 have d:GO c=J↔(97<=c/\c<=122\/65<=c/\c<=90\/48<=c/\c<=57\/c=95):=by unfold GO;exact decide_eq_true_iff
 refine gk (aQ (Qw c) (aM (λh=>aj (aj ?_)) λh=>?_))
 .symm;rw[d];have:=hL.1 h;omega
 have h':¬(97<=c/\c<=122\/65<=c/\c<=90):=λg=>by rw[hL.2 g]at h;cases h
 refine aw (P:=λb=>b=decide (48<=c/\c<=57)) ?_ λb z=>?_
 .refine gk (dW (λ_=>aj (aj ?_)) λ_=>aj (aj ?_))
  .rw[HH];simp only[qe,bB];omega
  .rw[HH];simp only[bB,bM,false_iff];omega
 subst z;refine aK (λ_=>aj (aj ?_)) λ_=>aj (aj ?_)
 .symm;rw[d];omega
 .rw[HH,d];simp only[bB];omega
def ER {s:ζ}:s∈YI↔∃i:Nat,i<22/\YI.getD i []=s:=by
 constructor
 .intro h;obtain⟨i,hi,e⟩:=xB h;exact⟨i,hi,by rw[aB,aD hi];exact e⟩
 .rintro⟨i,hi,rfl⟩;have hi:i<YI.length:=hi;rw[aB,aD hi];exact wJ _
def Sp (s:ζ):kM s=Z (decide (s∈YI)):=by
 refine cf ?_;unfold kM bR bY bc c7 aH cS;refine aQ (x:=YI) rfl ?_;refine cC 22 (λi x=>x=(i:Int)/\∀k:Nat,k<i->¬YI.getD k []=s) ?_ ?_ ⟨rfl,λk z=>by omega⟩
 .rintro i x hi ⟨rfl,d⟩;refine gQ (eQ (aT (aK (λh=>aj ?_) λh=>aj ⟨fA,λk z=>?_⟩)) (by omega) (by show (i:Int)<((22:Nat):Int);omega)) (by show (i:Int)<((22:Nat):Int);omega)
  .have h:YI.getD i []=s:=h;exact (bj (ER.2 ⟨i,hi,h⟩)).symm
  .have h:¬YI.getD i []=s:=h;rcases bu k i with g|g
   .exact d k g
   .rw[show k=i by omega];exact h
 .rintro x ⟨rfl,d⟩;refine gC (aj (Eq.symm (b_ λh=>?_))) (by show ((22:Nat):Int)<=((22:Nat):Int);omega);obtain⟨i,hi,e⟩:=ER.1 h;exact d i hi e
def YJ (s:ζ):iN s=Z (decide (s∈YI)):=by
 refine cf ?_;unfold iN pd jH ki kh yH Prod.u Prod.v Prod.B Prod.C Prod.G Prod.H aY Prod.I bi bt b7 dc fx kl lA Prod.K bR bI c7 aH cS;refine aT ?_;refine dO 22 (by omega) (λi x=>x=(i:Int)/\∀k:Nat,k<i->¬YI.getD k []=s) ?_ ?_ ⟨rfl,λk z=>by omega⟩
 .rintro i x hi ⟨rfl,d⟩;refine gQ (c6 (a? (te (by omega) (aT (aK (λh=>aj ?_) λh=>aj ⟨fA,λk z=>?_⟩)))))
  .have h:s=YI.getD i []:=h;exact (bj (ER.2 ⟨i,hi,h.symm⟩)).symm
  .have h:¬s=YI.getD i []:=h;rcases bu k i with g|g
   .exact d k g
   .rw[show k=i by omega];exact λe=>h e.symm
 .rintro x ⟨rfl,d⟩;refine gC (aj (Eq.symm (b_ λh=>?_)));obtain⟨i,hi,e⟩:=ER.1 h;exact d i hi e
def ahe (s:ζ):Ok (fG s) λb=>b=J↔wc s:=by
 unfold fG bR kj bc c7 aH cS;refine aV (λb=>(b=aa↔(1<=l! s/\l! s<=12)/\Xa (sB s 0)=J/\¬s∈YI)) ?_ ?_
 .refine aW (λh=>aj ?_) λh=>aW (λh2=>aj ?_) λh2=>?_
  .dsimp only[ak]at h;constructor
   .intro h;cases h
   .intro h;omega
  .dsimp only[ak]at h2;constructor
   .intro h;cases h
   .intro h;omega
  dsimp only[ak]at h h2;refine eQ (aQ (Qw _) (di (λd=>aj ?_) λd=>aQ (Sp s) (aj ?_)))
  .rw[d];simp
  .exact decide_eq_false_iff_not.trans ⟨λA=>⟨⟨by omega,by omega⟩,d,A⟩,λA=>A.2.2⟩
 rintro b F;refine aM (λh=>aj ?_) λh=>?_
 .subst h;constructor
  .intro h;cases h
  .intro z;have:=F.2 ⟨⟨z.l1,z.l2⟩,z.lt,z.kw⟩;cases this
 obtain⟨⟨l1,l2⟩,lt,kw⟩:=F.1 h;refine cC (l! s) (λi x=>x=(i:Int)/\∀k:Nat,k<i->GO (sB s (k:Int))=J) ?_ ?_ ⟨rfl,λk A=>by omega⟩
 .rintro i x hi ⟨rfl,D⟩;refine gQ (eQ (aQ (afd _) (di (λd=>aj ?_) λd=>aj ⟨fA,λk A=>?_⟩)))
  .constructor
   .intro h;cases h
   .intro z;have:=z.al i hi;rw[d]at this;cases this
  .rcases bu k i with g|g
   .exact D k g
   .rw[show k=i by omega];exact d
 .rintro x ⟨rfl,D⟩;exact gC (aj ⟨λ_=>⟨l1,l2,lt,kw,D⟩,λ_=>rfl⟩)
def aic (s:ζ) (j:Int):0<=sB s j/\sB s j<256:=by
 unfold sB;have:=(s.getD j.toNat 0).toNat_lt;constructor
 .exact eM _
 .have:(s.getD j.toNat 0).toNat<256:=this;show ((s.getD j.toNat 0).toNat:Int)<256;omega
def S4 (s:ζ) (i:Nat):sB s (i:Int)=((s.getD i 0).toNat:Int):=rfl
def apz {s:ζ} (h:sB s (i:Int)<128):QR s i=sB s (i:Int)/\Wv s i=1:=by
 rw[S4]at h ⊢;have d:dJ (s.getD i 0).toNat 128=J:=ba (by omega);unfold QR Wv rnA wdA;rw[d];exact⟨rfl,rfl⟩
def anc (s:ByteArray) (p:Nat) (h:¬(s.get! p).toNat<128):128<=(Az s p).1:=by
 unfold Az;simp only[cZ];rw[aA h];split
 .split
  .assumption
  .decide
 split
 .split
  .rename_i h;simp only[au,bB]at h;show 128<=_;have:=h.1;omega
  .decide
 split
 .split
  .rename_i h;simp only[au,bB]at h;show 128<=_;have:=h.1;omega
  .decide
 .decide
def aq0 {s:ζ} (hi:i<l! s) (h:¬sB s (i:Int)<128):128<=QR s i:=by
 rw[S4]at h;have z:dJ (s.getD i 0).toNat 128=aa:=by
  cases e:dJ (s.getD i 0).toNat 128 with
  |false=>rfl
  |true=>have:=aZ e;omega
 unfold QR rnA;rw[z];have d:(⟨fh s⟩:ByteArray).get! i=s.getD i 0:=by
  show (fh s)[i]! =_;rw[getElem!_pos (fh s) i (by simpa using hi),aB,aD hi];rfl
 have:=anc ⟨fh s⟩ i (by rw[d];omega);show (128:Int)<=((Az ⟨fh s⟩ i).1:Int)
 omega
def al9 (s:ζ):Ok (lP s) λb=>b=J↔wc s:=by
 unfold lP tw bn bR jR bc c7 aH;refine aV (λb=>(b=aa↔(1<=l! s/\l! s<=12)/\¬s∈YI)) ?_ ?_
 .refine aW (λh=>aj ?_) λh=>aW (λh2=>aj ?_) λh2=>?_
  .dsimp only[ak]at h;constructor
   .intro h;cases h
   .intro h;omega
  .dsimp only[ak]at h2;constructor
   .intro h;cases h
   .intro h;omega
  dsimp only[ak]at h h2;refine aQ (YJ s) (aj ?_);exact decide_eq_false_iff_not.trans ⟨λD=>⟨⟨by omega,by omega⟩,D⟩,λD=>D.2⟩
 rintro b L;refine aM (λh=>aj ?_) λh=>?_
 .subst h;constructor
  .intro h;cases h
  .intro F;have:=L.2 ⟨⟨F.l1,F.l2⟩,F.kw⟩;cases this
 obtain⟨⟨l1,l2⟩,kw⟩:=L.1 h;refine dO (l! s) (by omega) (λi x=>x=[((s,(i:Int)),())]/\∀k:Nat,k<i->GO (sB s (k:Int))=J/\(k=0->Xa (sB s 0)=J)) ?_ ?_ ⟨rfl,λk D=>by omega⟩
 .rintro i x hi ⟨rfl,N⟩;have hS:Ki [((s,(i:Int)),())]=s:=rfl;have hP:Ja [((s,(i:Int)),())]=i:=rfl;rw[hS,hP];refine fy (ba hi) ?_;have hbad:¬GO (sB s (i:Int))=J->(aa=J↔wc s):=λL=>⟨nofun,λF=>(L (F.al i hi)).elim⟩
  have hbad0:¬Xa (sB s 0)=J->(aa=J↔wc s):=λL=>⟨nofun,λF=>(L F.lt).elim⟩
  have hR:∀c,GO c=J↔(97<=c/\c<=122\/65<=c/\c<=90\/48<=c/\c<=57\/c=95):=λc=>by unfold GO;exact decide_eq_true_iff
  have hL:∀c,Xa c=J↔(97<=c/\c<=122\/65<=c/\c<=90):=λc=>by unfold Xa;exact decide_eq_true_iff
  have hsg:=aic s (i:Int);have hrn:(sB s (i:Int)<128/\QR s i=sB s (i:Int)/\Wv s i=1)\/(¬sB s (i:Int)<128/\128<=QR s i):=by
   by_cases g:sB s (i:Int)<128
   .exact .inl ⟨g,apz g⟩
   .exact .inr ⟨g,aq0 hi g⟩
  have hno:128<=QR s i->¬GO (sB s (i:Int))=J:=λg h=>by
   rcases hrn with ⟨h1,h2,_⟩|⟨h1,_⟩
   .omega
   .rw[hR]at h;omega
  generalize hz:QR s i=z at hrn hno ⊢;have hnxt:z<128->[((s,(aR (i+Wv s i))),())]=[((s,((i+1:Nat):Int)),())]:=λg=>by
   rcases hrn with ⟨_,_,d⟩|⟨_,h2⟩
   .rw[d];rfl
   .omega
  have hgood:z<128->GO z=J->(i=0->Xa z=J)->∀k:Nat,k<i+1->GO (sB s (k:Int))=J/\(k=0->Xa (sB s 0)=J):=λg h1 h2 k D=>by
   rcases hrn with ⟨_,d,_⟩|⟨_,d⟩
   .rcases bu k i with q|q
    .exact N k q
    .have:k=i:=by omega
     subst this;refine ⟨by rw[<- d];exact h1,λe=>?_⟩;subst e;have:=h2 rfl;rw[d]at this;exact this
   .omega
  have heq:z<128->z=sB s (i:Int):=λg=>by
   rcases hrn with ⟨_,d,_⟩|⟨_,d⟩
   .exact d
   .omega
  refine aV (λy=>y=[((s,(aR (i+Wv s i))),())]/\z<128/\GO z=J/\(i=0->Xa z=J)) ?_ ?_
  .refine aV (λy=>y.2=[((s,(aR (i+Wv s i))),())]/\(y.1=J↔Xa z=J)) ?_ ?_
   .refine dW (λ_=>dW (λ_=>aj ⟨rfl,?_⟩) λ_=>dW (λ_=>aj ⟨rfl,?_⟩) λ_=>aj ⟨rfl,?_⟩) λ_=>dW (λ_=>aj ⟨rfl,?_⟩) λ_=>aj ⟨rfl,?_⟩
    all_goals (rw [hL];simp only[qe,true_iff,bM,false_iff];omega)
   rintro⟨y1,y2⟩ ⟨e,A⟩;dsimp only at e A;subst e;refine aM (λh=>aj ⟨rfl,?_⟩) λh=>?_
   .have h:=A.1 h;have h':=(hL z).1 h;exact⟨by omega,(hR z).2 (by omega),λ_=>h⟩
   have hl:¬Xa z=J:=λg=>by rw[A.2 g]at h;cases h
   have hl2:¬(97<=z/\z<=122\/65<=z/\z<=90):=λg=>hl ((hL z).2 g)
   refine aV (λy=>y.2=[((s,(aR (i+Wv s i))),())]/\(y.1=J↔0<i/\(z=95\/48<=z/\z<=57))) ?_ ?_
   .refine aW (λg=>aK (λg2=>aj ⟨rfl,?_⟩) λg2=>dW (λg3=>aj ⟨rfl,?_⟩) λg3=>aj ⟨rfl,?_⟩) λg=>aj ⟨rfl,?_⟩
    all_goals simp only[qe,true_iff,bM,false_iff]
    all_goals dsimp only[ak]at g
    all_goals omega
   rintro⟨y1,y2⟩ ⟨e,A⟩;dsimp only at e A;subst e;refine aM (λh=>aj ⟨rfl,?_⟩) λh=>?_
   .obtain⟨g1,g2⟩:=A.1 h;exact⟨by omega,(hR z).2 (by omega),λe=>(by omega)⟩
   .have hn2:¬(0<i/\(z=95\/48<=z/\z<=57)):=λg=>by rw[A.2 g]at h;cases h
    by_cases h0:i=0
    .subst h0;refine aj (hbad0 λg=>hl ?_);rcases hrn with ⟨_,d,_⟩|⟨d,_⟩
     .rw[d];exact g
     .rw[hL]at g;have d:¬sB s 0<128:=d;omega
    .refine aj (hbad λg=>?_);by_cases g1:z<128
     .rw[<- heq g1,hR]at g;omega
     .exact hno (by omega) g
  .rintro y ⟨rfl,h1,h2,d⟩;exact aj ⟨hnxt h1,hgood h1 h2 d⟩
 .rintro x ⟨rfl,N⟩;have hS:Ki [((s,(l! s:Int)),())]=s:=rfl;have hP:Ja [((s,(l! s:Int)),())]=l! s:=rfl;rw[hS,hP];refine kH ?_ (aj ⟨λ_=>⟨l1,l2,(N 0 (by omega)).2 rfl,kw,λk D=>(N k D).1⟩,λ_=>rfl⟩);cases e:dJ (l! s) (l! s) with
  |false=>rfl
  |true=>have:=aZ e;omega
def WX (w:WT) (e:ET):Ok (gL (w,e)) λb=>b=J->(e.2.1=1\/e.2.1=2->e.2.2.2.2.1= -1)/\(¬(e.2.1=1\/e.2.1=2)->0<=e.2.2.2.2.1/\e.2.2.2.2.1<l! w.2.2.2.2.2/\(geti pR w.2.2.2.2.2 e.2.2.2.2.1).1=e.1):=by
 unfold gL aY dc cY bn bR jR bY bc aH;refine aV (λx=>x.2=(w,e)/\(x.1=J↔e.2.1=1\/e.2.1=2)) (aK (λh=>aj ⟨rfl,λ_=>.inl h,λ_=>rfl⟩) λh=>aj ⟨rfl,λh2=>.inr (bl h2),λh2=>bj (h2.resolve_left h)⟩) ?_;rintro⟨b,x⟩ ⟨e1,z⟩;dsimp only at e1 z;subst e1;refine aM (λh=>aj λg=>⟨λ_=>bl g,λd=>(d (z.1 h)).elim⟩) λh=>?_
 have nb:¬(e.2.1=1\/e.2.1=2):=λg=>by have h:b=aa:=h;rw[z.2 g]at h;cases h
 refine gk (dW (λA=>aW (λd=>aJ A d (aT (aj (aj λg=>⟨λD=>(nb D).elim,λ_=>⟨A,d,bl g⟩⟩)))) λ_=>aj (aj nofun)) λ_=>aj (aj nofun))
def aft (w:WT) (s:SN) (z:l! w.2.2.1<=1000):Ok (iM (w,s)) λb=>b=J->Wb w s:=by
 unfold iM aY bi bt cW bn bc aH;refine gk (aw (V_ w s.1 z) λb F=>aM (λh=>?_) λ_=>aj (aj nofun));refine aK (λD=>aK (λA=>aj (aj λd=>?_)) λ_=>aj (aj nofun)) λ_=>aj (aj nofun)
 have d:aR (l! s.2.2.2)=aR (l! w.2.2.2.2.1):=bl d;exact⟨uf D,uf A,uf d⟩
def MP (w:WT) (s:SN) (e:ET) (ce:e.2.1=3\/e.2.1=4->0<=e.2.2.1/\e.2.2.1<l! w.1) (t0:0<=e.1) (t1:e.1<(l! s.2.2.2:Int)) (cb:(geti aP s.2.2.2 e.1:Int)<=1000):Ok (dP (w,s,e)) λb=>b=J->(0<l! e.2.2.2.2.2.1->e.2.1=5\/(e.2.1=3\/e.2.1=4)/\¬(geti mD w.1 e.2.2.1).2.2.1=0)/\(0<l! e.2.2.2.2.2.2->e.2.1=4\/e.2.1=22)/\AN (geti aP s.2.2.2 e.1) e.2.2.2.2.2.1/\AN (geti aP s.2.2.2 e.1) e.2.2.2.2.2.2:=by
 unfold dP ii aY bi bt b7 bN cW dN bn bR jR bI bY bc c7 aH cS;refine aV (λx=>x.2=(s,e)/\(x.1=J->(e.2.1=3\/e.2.1=4)/\¬(geti mD w.1 e.2.2.1).2.2.1=0)) ?_ ?_
 .refine aK (λh=>?_) λn3=>aK (λh=>?_) λn4=>?_
  .exact aJ (ce (.inl h)).1 (ce (.inl h)).2 (aT (aj ⟨rfl,λg=>⟨.inl h,by simpa using g⟩⟩))
  .exact aJ (ce (.inr h)).1 (ce (.inr h)).2 (aT (aj ⟨rfl,λg=>⟨.inr h,by simpa using g⟩⟩))
  .exact aj ⟨rfl,nofun⟩
 rintro⟨b,x⟩ ⟨e1,hb⟩;dsimp only at e1 hb;subst e1;refine aV (λx=>x.1=s/\x.2.1=e/\(x.2.2.1=J->e.2.1=5\/(e.2.1=3\/e.2.1=4)/\¬(geti mD w.1 e.2.2.1).2.2.1=0)/\(x.2.2.2=J->e.2.1=4\/e.2.1=22)) ?_ ?_
 .refine aK (λh5=>aK (λN=>aj ⟨rfl,rfl,λ_=>.inl h5,λ_=>.inl N⟩) λN=>aj ⟨rfl,rfl,λ_=>.inl h5,λg=>.inr (bl g)⟩) λh5=>aK (λN=>aj ⟨rfl,rfl,λg=>.inr (hb g),λ_=>.inl N⟩) λN=>aj ⟨rfl,rfl,λg=>.inr (hb g),λg=>.inr (bl g)⟩
 rintro⟨s',d,a,b'⟩ ⟨e1,e2,h1,h2⟩;dsimp only at e1 e2 h1 h2;subst e1 e2
 let P:η->Bool->Prop:=λr a=>(0<l! r->a=J)/\AN (geti aP s'.2.2.2 d.1) r
 refine dO 2 (by omega) (λi x=>x=((i:Int),s',d,a,b')/\(0<i->P d.2.2.2.2.2.1 a)/\(1<i->P d.2.2.2.2.2.2 b')) ?_ ?_ ⟨rfl,λh=>(by omega),λh=>(by omega)⟩
 .rintro i x hi ⟨rfl,p1,p2⟩;refine gQ ?_;refine c6 (a? (te (by dsimp only;omega) (aT ?_)));have hr:∃(r:η) (q:Bool),geti (.sl (.int .i64)) [d.2.2.2.2.2.1,d.2.2.2.2.2.2] (i:Int)=r/\geti (.bool) [a,b'] (i:Int)=q/\(P r q->(0<i+1->P d.2.2.2.2.2.1 a)/\(1<i+1->P d.2.2.2.2.2.2 b')):=by
   match i,hi with
   |0,_=>exact⟨_,_,rfl,rfl,λh=>⟨λ_=>h,λh=>(by omega)⟩⟩
   |1,_=>exact⟨_,_,rfl,rfl,λh=>⟨λ_=>p1 (by omega),λ_=>h⟩⟩
  obtain⟨r,q,er,eq,hP⟩:=hr;have er':geti (.sl aP) [d.2.2.2.2.2.1,d.2.2.2.2.2.2] (i:Int)=r:=er;dsimp only at er' ⊢;rw[er'];refine aV (λx=>x.2=(s',d,a,b')/\(x.1=aa->0<l! r->q=J)) ?_ ?_
  .refine aW (λg=>?_) λg=>aj ⟨rfl,λ_ h=>?_⟩
   .have g':0<l! r:=by dsimp only[ak]at g;omega
    refine c6 (a? (te (by omega) (eQ (aT (aj ⟨rfl,λh _=>?_⟩)))));rw[<- eq];simpa using h
   .dsimp only[ak]at g;omega
  rintro⟨f,x⟩ ⟨e1,hq⟩;dsimp only at e1 hq;subst e1;refine aM (λ_=>aj nofun) λhf=>?_
  have jb:∀j:Nat,(∀m:Nat,m<j->1<=geti aP r (m:Int)/\geti aP r (m:Int)<geti aP s'.2.2.2 d.1)->(∀m:Nat,m+1<j->r.getD m 0<r.getD (m+1) 0)->j<=1000:=λj D g4=>by
   have h3:(j:Int)<=max (0:Int) (geti aP s'.2.2.2 d.1):=afh D g4;have:=fk h3 (zX.2 ⟨by decide,cb⟩);omega
  refine EM 1001 (λx=>(1001-x.1.2).toNat) (λx=>∃j:Nat,j<=l! r/\x.1.2=(j:Int)/\x.2=(s',d,a,b')/\(∀m:Nat,m<j->1<=geti aP r (m:Int)/\geti aP r (m:Int)<geti aP s'.2.2.2 d.1)/\(∀m:Nat,m+1<j->r.getD m 0<r.getD (m+1) 0)/\(j=0->x.1.1=0)/\(0<j->x.1.1=r.getD (j-1) 0)) ?_ ⟨by dsimp only;omega,by omega⟩ ⟨0,pU _,rfl,rfl,λm h=>(by omega),λm h=>(by omega),λ_=>rfl,λh=>(by omega)⟩;rintro⟨⟨(la:Int),ix⟩,x⟩ ⟨j,hjl,g1,g2,D,g4,g5,g6⟩;dsimp only at g1 g2 g5 g6;subst g1 g2;have hjb:=jb j D g4;rcases bu j (l! r) with hj|hj
  .refine gQ ?_;refine eQ (aT (aV (λx=>x.2=(s',d,a,b')/\(x.1=aa->la<geti aP r (j:Int)/\geti aP r (j:Int)<geti aP s'.2.2.2 d.1)) ?_ ?_))
   .refine dW (λg=>aj ⟨rfl,nofun⟩) λg=>aJ t0 t1 (aT (aj ⟨rfl,λh=>⟨g,ms.1 h⟩⟩))
   rintro⟨f2,x⟩ ⟨e1,L⟩;dsimp only at e1 L;subst e1;refine aM (λ_=>aj nofun) λhf2=>aj ?_
   obtain⟨c1,c2⟩:=L hf2;obtain⟨F,A⟩:∃F:Int,F=la:=⟨la,rfl⟩
   replace c1:F<(r.getD j 0:Int):=by rw[A];exact c1
   replace c2:(r.getD j 0:Int)<(geti aP s'.2.2.2 d.1:Int):=c2
   replace g5:j=0->F=(0:Int):=λh=>A.trans (g5 h)
   replace g6:0<j->F=(r.getD (j-1) 0:Int):=λh=>A.trans (g6 h)
   have lo:(1:Int)<=r.getD j 0:=by
    rcases oQ j with z|z
    .have:=g5 z;omega
    .have:=g6 z;have q:(1:Int)<=r.getD (j-1) 0:=(D (j-1) (by omega)).1;omega
   refine ⟨⟨j+1,hj,fA,rfl,λm hm=>?_,λm hm=>?_,λh=>(by omega),λ_=>rfl⟩,by dsimp only;rw[fA];omega⟩
   .rcases bu m j with z|z
    .exact D m z
    .rw[show m=j by omega];exact⟨lo,c2⟩
   .rcases bu (m+1) j with z|z
    .exact g4 m z
    .have z2:m=j-1:=by omega
     have:=g6 (by omega);rw[z2,show j-1+1=j by omega];omega
  .have hjr:j=l! r:=by omega
   subst hjr;have hA:AN (geti aP s'.2.2.2 d.1) r:=⟨Sd r λk hk=>g4 k hk,iS (T:=aP) D⟩
   exact gC (aj ⟨ey (·,s',d,a,b') fA,hP ⟨hq hf,hA⟩⟩)
 .rintro x ⟨rfl,p1,p2⟩;refine gC (aj λ_=>?_);have p1:=p1 (by omega);have p2:=p2 (by omega);exact⟨λg=>h1 (p1.1 g),λg=>h2 (p2.1 g),p1.2,p2.2⟩
def Wy (w:WT) (s:SN) (hs:SB i s.1) (e:ET) (hf:Wb w s) (he:EN w s.1 e.1 e.2.1 e.2.2.1):Ok (e9 (s,e)) λb=>b=J->VA w s.1 s.2.1 s.2.2.1 e.1 e.2.1 e.2.2.1 e.2.2.2.1:=by
 obtain⟨t,k,o,v,si,de,N⟩:=e;obtain⟨z,s2,s3,s4⟩:=s;obtain⟨nm,t0,t1,cd,e1,e2,e3⟩:=he;obtain⟨_,_,ce,lk,cn,th,fu,_,_,_⟩:=nm;obtain⟨f1,f2,f3⟩:=hf;have hth:=hs.th;dsimp only at*
 unfold e9 kR aY bi bt b7 bN bn bR bY bc c7 aH cS;refine aK (λh=>?_) λn3=>?_
 .have h:k=3:=h;obtain⟨c0,c1⟩:=ce (.inl h);exact aJ c0 (by rw[f1];exact c1) (aT (aj λh2=>⟨λ_=>bl h2,λd=>by omega,λd=>by omega,λd=>(d h).elim⟩))
 refine aK (λh=>?_) λn23=>?_
 .have h:k=23:=h;obtain⟨c0,c1⟩:=fu (.inr h);exact aJ c0 (by rw[f2];exact c1) (aT (aj λh2=>⟨λd=>by omega,λ_=>bl h2,λd=>by omega,λ_ d=>(d h).elim⟩))
 refine aK (λh=>?_) λn5=>?_
 .have h:k=5:=h;exact gk (aK (λh2=>aj (aj λ_=>⟨λd=>by omega,λd=>by omega,λ_=>.inl h2,λ_ _ d=>(d h).elim⟩)) λ_=>aj (aj λh2=>⟨λd=>by omega,λd=>by omega,λ_=>.inr (bl h2),λ_ _ d=>(d h).elim⟩))
 refine aV (λx=>x.2=((z,s2,s3,s4),t,k,o,v,si,de,N)/\(x.1=J->k=4\/k=22)) (aK (λh=>aj ⟨rfl,λ_=>.inl h⟩) λ_=>aj ⟨rfl,λh=>.inr (bl h)⟩) ?_;rintro⟨b,x⟩ ⟨e,hb⟩;dsimp only at e hb;subst e;refine aM (λh=>aj λ_=>⟨λd=>(n3 d).elim,λd=>(n23 d).elim,λd=>(n5 d).elim,λ_ _ _ h4 h5=>(hb h).elim (λh=>(h4 h).elim) λh=>(h5 h).elim⟩) λ_=>?_
 have fin:v=(yz w z t k o v).2->VA w z s2 s3 t k o v:=λh=>⟨λd=>(n3 d).elim,λd=>(n23 d).elim,λd=>(n5 d).elim,λ_ _ _ _ _=>h⟩
 have hWl:=ry z.2.2.2 o (l! z.2.2.2);refine aK (λh=>?_) λn18=>?_
 .have h:k=18:=h;subst h;rw[Hs]at fin;refine dO (l! z.2.2.2) (by omega) (λn x=>x.1.2.2=(n:Int)/\x.2=(t,18,o,v,si,de,N)/\x.1.1=(l! (wl z.2.2.2 o n):Int)/\(x.1.2.1=J↔v∈wl z.2.2.2 o n)) ?_ ?_ ⟨rfl,rfl,rfl,by simp[wl]⟩
  .rintro n ⟨⟨c,hit,ix⟩,x⟩ hi ⟨D,A,F,L⟩;dsimp only at D A F L;subst D A F;have hl:=ry z.2.2.2 o n;refine gQ ?_;refine aV (λx=>x.2=(t,18,o,v,si,de,N)/\x.1.1=(l! (wl z.2.2.2 o (n+1)):Int)/\(x.1.2=J↔v∈wl z.2.2.2 o (n+1))) ?_ ?_
   .refine eQ (aT (aV (λx=>x=(HI o (geti hJ z.2.2.2 (n:Int)),t,18,o,v,si,de,N)) ?_ ?_))
    .unfold HI;refine aK (λh=>aj ?_) λh=>aj ?_
     .dsimp only at h ⊢;rw[h];rfl
     .dsimp only at h ⊢;rw[b_ h];rfl
    rintro x rfl;rw[BV];dsimp only;cases hw:HI o (geti hJ z.2.2.2 (n:Int)) with
    |true=>
     refine uA (aM (λh=>aj ⟨rfl,?_,?_⟩) λh=>aj ⟨rfl,?_,?_⟩)
     .dsimp only;rw[fA];simp
     .simp[L.1 h]
     .dsimp only;rw[fA];simp
     .have:¬v∈wl z.2.2.2 o n:=λg=>by rw[L.2 g]at h;cases h
      simp[this]
    |false=>exact hX (aj ⟨rfl,rfl,L⟩)
   rintro⟨⟨c,hit'⟩,x⟩ ⟨D,A,F⟩;dsimp only at D A F;subst D A;exact aj ⟨fA,rfl,rfl,F⟩
  .rintro⟨⟨c,hit,ix⟩,x⟩ ⟨D,A,F,L⟩;dsimp only at D A F L;subst D A F;revert fin hWl L;generalize wl z.2.2.2 o (l! z.2.2.2)=l;intro hWl fin L;have hin:v∈l->VA w z s2 s3 t 18 o v:=λh=>fin (by
    have hne:¬l! l=0:=λh0=>by rw[ef.1 h0]at h;cases h
    rw[aA hne];unfold F0;rw[aA hne,aG (uw.2 h)])
   refine gC (aw (P:=λy=>y=J->VA w z s2 s3 t 18 o v) (gk (aM (λh=>aj (aj λ_=>hin (L.1 h))) λh=>?_)) λy hy=>aj hy);refine aK (λg=>aj (aj λh2=>fin ?_)) λg=>aj (aj nofun)
   dsimp only at g;rw[aG (by omega)];exact bl h2
 refine aK (λh=>?_) λn19=>?_
 .have h:k=19:=h;subst h;rw[Yu]at fin;refine dO (l! z.2.2.2) (by omega) (λn x=>x.1.2=(n:Int)/\x.2=(t,19,o,v,si,de,N)/\x.1.1=(l! (wl z.2.2.2 o n):Int)) ?_ ?_ ⟨rfl,rfl,rfl⟩
  .rintro n ⟨⟨c,ix⟩,x⟩ hi ⟨D,A,F⟩;dsimp only at D A F;subst D A F;have hl:=ry z.2.2.2 o n;refine gQ ?_;refine aV (λx=>x.2=(t,19,o,v,si,de,N)/\x.1=(l! (wl z.2.2.2 o (n+1)):Int)) ?_ ?_
   .refine eQ (aT (aV (λx=>x=(HI o (geti hJ z.2.2.2 (n:Int)),t,19,o,v,si,de,N)) ?_ ?_))
    .unfold HI;refine aK (λh=>aj ?_) λh=>aj ?_
     .dsimp only at h ⊢;rw[h];rfl
     .dsimp only at h ⊢;rw[b_ h];rfl
    rintro x rfl;rw[BV];dsimp only;cases hw:HI o (geti hJ z.2.2.2 (n:Int)) with
    |true=>
     refine uA (aj ⟨rfl,?_⟩);dsimp only;rw[fA];simp
    |false=>exact hX (aj ⟨rfl,rfl⟩)
   rintro⟨c,x⟩ ⟨D,A⟩;dsimp only at D A;subst D A;exact aj ⟨fA,rfl,rfl⟩
  .rintro⟨⟨c,ix⟩,x⟩ ⟨D,A,F⟩;dsimp only at D A F;subst D A F;exact gC (aj λh=>fin (bl h))
 exact aj λh2=>fin (by rw[ZQ _ _ _ _ _ _ n18 n19];exact bl h2)
def aa6 (r:θ) (e:ET) (N:l! e.2.2.2.2.2.1<=1000000) (L:l! e.2.2.2.2.2.2<=1000000):Ok (ch (r,e)) λb=>b=J->(∀y∈e.2.2.2.2.2.1,0<=y/\r.getD y.toNat aa=J)/\∀y∈e.2.2.2.2.2.2,0<=y/\r.getD y.toNat aa=J:=by
 unfold ch jD dc iX bR jR bI bY bc c7 aH cS
 let P:η->Prop:=λl=>∀y∈l,0<=y/\r.getD y.toNat aa=J
 refine dO 2 (by omega) (λi x=>x=(i:Int)/\(0<i->P e.2.2.2.2.2.1)/\(1<i->P e.2.2.2.2.2.2)) ?_ ?_ ⟨rfl,λh=>(by omega),λh=>(by omega)⟩
 .rintro i x hi ⟨rfl,p1,p2⟩;refine aW (λ_=>?_) λg=>(by omega)
  refine c6 (a? (te (by omega) (aT ?_)));have hr:∃l:η,geti (.sl (.int .i64)) [e.2.2.2.2.2.1,e.2.2.2.2.2.2] (i:Int)=l/\l! l<=1000000/\(P l->(0<i+1->P e.2.2.2.2.2.1)/\(1<i+1->P e.2.2.2.2.2.2)):=by
   match i,hi with
   |0,_=>exact⟨_,rfl,N,λh=>⟨λ_=>h,λh=>(by omega)⟩⟩
   |1,_=>exact⟨_,rfl,L,λh=>⟨λ_=>p1 (by omega),λ_=>h⟩⟩
  obtain⟨l,er,hl,hP⟩:=hr;have er':geti (.sl aP) [e.2.2.2.2.2.1,e.2.2.2.2.2.2] (i:Int)=l:=er;dsimp only at er' ⊢;rw[er'];refine dO (l! l) (by omega) (λj x=>x=(j:Int)/\∀m:Nat,m<j->(0:Int)<=geti aP l (m:Int)/\r.getD (geti aP l (m:Int)).toNat aa=J) ?_ ?_ ⟨rfl,λm hm=>(by omega)⟩
  .rintro j x hj ⟨rfl,d⟩;refine gQ (eQ (aT ?_));obtain⟨z,A⟩:∃z:Int,geti aP l (j:Int)=z:=⟨_,rfl⟩
   rw[A];refine aV (λb=>b=aa->0<=z/\r.getD z.toNat aa=J) ?_ ?_
   .refine aW (λ_=>aj nofun) λF=>dW (λ_=>aj nofun) λD=>?_
    dsimp only[ak]at D;refine aJ F D (aT (aj λh=>⟨F,?_⟩));have h:(!geti (.bool) r z)=aa:=h;have:geti (.bool) r z=J:=by cases hh:geti (.bool) r z<;>rw[hh]at h<;>first|rfl|cases h
    exact this
   rintro b hb;refine aM (λ_=>aj nofun) λh=>aj ⟨fA,λm hm=>?_⟩
   rcases bu m j with g|g
   .exact d m g
   .rw[show m=j by omega,A];exact hb h
  .rintro x ⟨rfl,d⟩;exact gC (aj ⟨fA,hP (iS (T:=aP) (p:=λy:Int=>0<=y/\r.getD y.toNat aa=J) d)⟩)
 .rintro x ⟨rfl,p1,p2⟩;exact aW (λg=>(by omega)) λ_=>aj λ_=>⟨p1 (by omega),p2 (by omega)⟩
def abk (z:Int) (r0:η) (h:Int) (d:θ) (th:Y d?) (h0:l! r0<=1000) (hd:l! d<=1000) (ht:l! th<=1000):jU ([(z,r0)],h,d,th)=Z ((h,d,th),z,r0):=by
 refine cf ?_;have A:∀l:η,l! l<=1000->iG l=Z l:=λl D=>cf (a! (aj rfl))
 unfold jU aY bN bR bI bY bc aH;refine a9 rfl (aV (λx=>x=(([(z,r0)],h,d,th),0,z,r0)) ?_ ?_)
 .exact fy rfl (a9 rfl (aT (aQ (A _ h0) (kH rfl (aj rfl)))))
 rintro x rfl;refine aQ (x:=d) (cf (a! (aj rfl))) (aQ (x:=th) (cf (a! (aj rfl))) (aj rfl))
def abn (s:SY) (h:¬l! s.1=1):jU s=U:=by
 unfold jU aY bN bR bI bY bc aH;rw[show decide ((aR (ah s.1):Int)=1)=aa from b_ (by dsimp only[ak];omega),wu];rfl
def ad1 (w:WT) (s:SY) (z:SB i s) (D:i<=1000) (d:l! w.2.2.1<=1000) (t k o u:Int) (he:EN w s t k o) (A:IV w s t k o) (h:¬l! s.1=1):gH (w,s,t,k,o,u)=U:=by
 have h1:=pS w s z D d t k o he A;unfold gH aY bi bt b7 bN cW dN bn kj bI aH;simp only[h1,abn s h,aX,aU,lX];rfl
def acy (w:WT) (s:SY) (A:SB i s) (hn:i<=900) (hw:l! w.2.2.1<=1000) (t k o u:Int) (he:EN w s t k o) (L:IV w s t k o) (hk:k=8\/k=9) (h3:l! s.1=1) (hA:AL (geti dF s.1 o).2) (D:∀z∈(geti dF s.1 o).2,0<=z/\z<4) (N:t<4) (o0:0<=o) (o1:o<1):gH (w,s,t,k,o,u)=Z ((yz w s t k o u).1,(yz w s t k o u).2,J):=by
 have h1:=pS w s A (by omega) hw t k o he L;have t0:=he.t0;have ra:=L.ra;have rr:=L.rr;have hrd:=A.rd;have hdn:=A.dn;have hth:=A.th;obtain⟨s1,h,d,th⟩:=s
 match s1,h3 with
 |[(F,r0)],_=>
  have g0:l! r0<=i:=hrd (F,r0) (by simp);dsimp only at hdn hth;have hc:=abk F r0 h d th (by omega) hdn hth;refine cf ?_;unfold gH aY bi bt b7 bN cW dN bn kj bI aH;have ho:o=0:=by omega
  subst ho
  .have hA:AL r0:=hA;have D:∀z∈r0,0<=z/\z<4:=D;rcases hk with rfl|rfl
   .have ra:r0.contains t=aa:=ra rfl;obtain⟨q1,q2,q3⟩:=NU hA D t0 N (by simpa using ra);simp only[h1,hc,aX,aU,lX];refine aV (λx=>x=(0,(h,d,th),0,F,sA r0 [t])) ?_ ?_
    .refine a! (aQ q1 (a9 ?_ (aQ q2 (a9 ?_ (aj ?_)))))
     .rw[q3];simp
     .simp
     .rfl
    rintro x rfl;exact aj rfl
   .have rr:r0.contains t=J:=rr rfl;have q1:=OB hA D t0 N rr;simp only[h1,hc,aX,aU,lX];refine aV (λx=>x=(0,(h,d,th),0,F,wo r0 t)) ?_ ?_
    .exact aQ q1 (a9 (by simp) (aj rfl))
    rintro x rfl;exact aj rfl
def abj (A z:Int) (r0 r1:η) (h:Int) (d:θ) (th:Y d?) (h0:l! r0<=1000) (h1:l! r1<=1000) (hd:l! d<=1000) (ht:l! th<=1000):jT ([(A,r0),(z,r1)],h,d,th)=Z ((h,d,th),(A,z),r0,r1):=by
 refine cf ?_;have D:∀l:η,l! l<=1000->iG l=Z l:=λl F=>cf (a! (aj rfl))
 unfold jT aY bN bR bI bY bc aH;refine a9 rfl (aV (λx=>x=(([(A,r0),(z,r1)],h,d,th),0,(A,z),r0,r1)) ?_ ?_)
 .exact fy rfl (a9 rfl (aT (aQ (D _ h0) (fy rfl (a9 rfl (aT (aQ (D _ h1) (kH rfl (aj rfl)))))))))
 rintro x rfl;refine aQ (x:=d) (cf (a! (aj rfl))) (aQ (x:=th) (cf (a! (aj rfl))) (aj rfl))
def abm (s:SY) (h:¬l! s.1=2):jT s=U:=by
 unfold jT aY bN bR bI bY bc aH;rw[show decide ((aR (ah s.1):Int)=2)=aa from b_ (by dsimp only[ak];omega),wu];rfl
def ad0 (w:WT) (s:SY) (z:SB i s) (D:i<=1000) (d:l! w.2.2.1<=1000) (t k o u:Int) (he:EN w s t k o) (A:IV w s t k o) (h:¬l! s.1=2):fK (w,s,t,k,o,u)=U:=by
 have h1:=pS w s z D d t k o he A;unfold fK aY bi bt b7 dc cY iX bn kj bI aH;simp only[h1,abm s h,aX,aU,lX];rfl
def acx (w:WT) (s:SY) (N:SB i s) (hn:i<=900) (hw:l! w.2.2.1<=1000) (t k o u:Int) (he:EN w s t k o) (hr:IV w s t k o) (hk:k=8\/k=9) (h3:l! s.1=2) (hA:AL (geti dF s.1 o).2) (A:∀z∈(geti dF s.1 o).2,0<=z/\z<4) (L:t<4) (o0:0<=o) (o1:o<2):fK (w,s,t,k,o,u)=Z ((yz w s t k o u).1,(yz w s t k o u).2,J):=by
 have h1:=pS w s N (by omega) hw t k o he hr;have t0:=he.t0;have ra:=hr.ra;have rr:=hr.rr;have hrd:=N.rd;have hdn:=N.dn;have hth:=N.th;obtain⟨s1,h,d,th⟩:=s
 match s1,h3 with
 |[(F,r0),(D,r1)],_=>
  have g0:l! r0<=i:=hrd (F,r0) (by simp);have g1:l! r1<=i:=hrd (D,r1) (by simp);dsimp only at hdn hth;have hc:=abj F D r0 r1 h d th (by omega) (by omega) hdn hth;refine cf ?_;unfold fK aY bi bt b7 dc cY iX bn kj bI aH;have ho:o=0\/o=1:=by omega
  rcases ho with rfl|rfl
  .have hA:AL r0:=hA;have A:∀z∈r0,0<=z/\z<4:=A;rcases hk with rfl|rfl
   .have ra:r0.contains t=aa:=ra rfl;obtain⟨q1,q2,q3⟩:=NU hA A t0 L (by simpa using ra);simp only[h1,hc,aX,aU,lX];refine aV (λx=>x=(0,(h,d,th),0,F,sA r0 [t],D,r1)) ?_ ?_
    .refine a! (aQ q1 (a9 ?_ (aQ q2 (a9 ?_ (aj ?_)))))
     .rw[q3];simp
     .simp
     .rfl
    rintro x rfl;exact aj rfl
   .have rr:r0.contains t=J:=rr rfl;have q1:=OB hA A t0 L rr;simp only[h1,hc,aX,aU,lX];refine aV (λx=>x=(0,(h,d,th),0,F,wo r0 t,D,r1)) ?_ ?_
    .exact aQ q1 (a9 (by simp) (aj rfl))
    rintro x rfl;exact aj rfl
  .have hA:AL r1:=hA;have A:∀z∈r1,0<=z/\z<4:=A;rcases hk with rfl|rfl
   .have ra:r1.contains t=aa:=ra rfl;obtain⟨q1,q2,q3⟩:=NU hA A t0 L (by simpa using ra);simp only[h1,hc,aX,aU,lX];refine aV (λx=>x=(0,(h,d,th),0,F,r0,D,sA r1 [t])) ?_ ?_
    .refine a! (aQ q1 (a9 ?_ (aQ q2 (a9 ?_ (aj ?_)))))
     .rw[q3];simp
     .simp
     .rfl
    rintro x rfl;exact aj rfl
   .have rr:r1.contains t=J:=rr rfl;have q1:=OB hA A t0 L rr;simp only[h1,hc,aX,aU,lX];refine aV (λx=>x=(0,(h,d,th),0,F,r0,D,wo r1 t)) ?_ ?_
    .exact aQ q1 (a9 (by simp) (aj rfl))
    rintro x rfl;exact aj rfl
def abi (D A z:Int) (r0 r1 r2:η) (h:Int) (d:θ) (th:Y d?) (h0:l! r0<=1000) (h1:l! r1<=1000) (h2:l! r2<=1000) (hd:l! d<=1000) (ht:l! th<=1000):jS ([(D,r0),(A,r1),(z,r2)],h,d,th)=Z ((h,d,th),(D,A,z),r0,r1,r2):=by
 refine cf ?_;have F:∀l:η,l! l<=1000->iG l=Z l:=λl L=>cf (a! (aj rfl))
 unfold jS aY bN bR bI bY bc aH;refine a9 rfl (aV (λx=>x=(([(D,r0),(A,r1),(z,r2)],h,d,th),0,(D,A,z),r0,r1,r2)) ?_ ?_)
 .exact fy rfl (a9 rfl (aT (aQ (F _ h0) (fy rfl (a9 rfl (aT (aQ (F _ h1) (fy rfl (a9 rfl (aT (aQ (F _ h2) (kH rfl (aj rfl)))))))))))))
 rintro x rfl;refine aQ (x:=d) (cf (a! (aj rfl))) (aQ (x:=th) (cf (a! (aj rfl))) (aj rfl))
def abl (s:SY) (h:¬l! s.1=3):jS s=U:=by
 unfold jS aY bN bR bI bY bc aH;rw[show decide ((aR (ah s.1):Int)=3)=aa from b_ (by dsimp only[ak];omega),wu];rfl
def acz (w:WT) (s:SY) (z:SB i s) (D:i<=1000) (d:l! w.2.2.1<=1000) (t k o u:Int) (he:EN w s t k o) (A:IV w s t k o) (h:¬l! s.1=3):fe (w,s,t,k,o,u)=U:=by
 have h1:=pS w s z D d t k o he A;unfold fe aY bi bt b7 dc fx iX s9 bn kj bI aH;simp only[h1,abl s h,aX,aU,lX];rfl
def acw (w:WT) (s:SY) (hs:SB i s) (hn:i<=900) (hw:l! w.2.2.1<=1000) (t k o u:Int) (he:EN w s t k o) (hr:IV w s t k o) (hk:k=8\/k=9) (h3:l! s.1=3) (hA:AL (geti dF s.1 o).2) (A:∀z∈(geti dF s.1 o).2,0<=z/\z<4) (N:t<4) (o0:0<=o) (o1:o<3):fe (w,s,t,k,o,u)=Z ((yz w s t k o u).1,(yz w s t k o u).2,J):=by
 have h1:=pS w s hs (by omega) hw t k o he hr;have t0:=he.t0;have ra:=hr.ra;have rr:=hr.rr;have hrd:=hs.rd;have hdn:=hs.dn;have hth:=hs.th;obtain⟨s1,h,d,th⟩:=s
 match s1,h3 with
 |[(L,r0),(F,r1),(D,r2)],_=>
  have g0:l! r0<=i:=hrd (L,r0) (by simp);have g1:l! r1<=i:=hrd (F,r1) (by simp);have g2:l! r2<=i:=hrd (D,r2) (by simp);dsimp only at hdn hth;have hc:=abi L F D r0 r1 r2 h d th (by omega) (by omega) (by omega) hdn hth;refine cf ?_;unfold fe aY bi bt b7 dc fx iX s9 bn kj bI aH;have ho:o=0\/o=1\/o=2:=by omega
  rcases ho with rfl|rfl|rfl
  .have hA:AL r0:=hA;have A:∀z∈r0,0<=z/\z<4:=A;rcases hk with rfl|rfl
   .have ra:r0.contains t=aa:=ra rfl;obtain⟨q1,q2,q3⟩:=NU hA A t0 N (by simpa using ra);simp only[h1,hc,aX,aU,lX];refine aV (λx=>x=(0,(h,d,th),0,L,sA r0 [t],F,r1,D,r2)) ?_ ?_
    .refine a! (aQ q1 (a9 ?_ (aQ q2 (a9 ?_ (aj ?_)))))
     .rw[q3];simp
     .simp
     .rfl
    rintro x rfl;exact aj rfl
   .have rr:r0.contains t=J:=rr rfl;have q1:=OB hA A t0 N rr;simp only[h1,hc,aX,aU,lX];refine aV (λx=>x=(0,(h,d,th),0,L,wo r0 t,F,r1,D,r2)) ?_ ?_
    .exact aQ q1 (a9 (by simp) (aj rfl))
    rintro x rfl;exact aj rfl
  .have hA:AL r1:=hA;have A:∀z∈r1,0<=z/\z<4:=A;rcases hk with rfl|rfl
   .have ra:r1.contains t=aa:=ra rfl;obtain⟨q1,q2,q3⟩:=NU hA A t0 N (by simpa using ra);simp only[h1,hc,aX,aU,lX];refine aV (λx=>x=(0,(h,d,th),0,L,r0,F,sA r1 [t],D,r2)) ?_ ?_
    .refine a! (aQ q1 (a9 ?_ (aQ q2 (a9 ?_ (aj ?_)))))
     .rw[q3];simp
     .simp
     .rfl
    rintro x rfl;exact aj rfl
   .have rr:r1.contains t=J:=rr rfl;have q1:=OB hA A t0 N rr;simp only[h1,hc,aX,aU,lX];refine aV (λx=>x=(0,(h,d,th),0,L,r0,F,wo r1 t,D,r2)) ?_ ?_
    .exact aQ q1 (a9 (by simp) (aj rfl))
    rintro x rfl;exact aj rfl
  .have hA:AL r2:=hA;have A:∀z∈r2,0<=z/\z<4:=A;rcases hk with rfl|rfl
   .have ra:r2.contains t=aa:=ra rfl;obtain⟨q1,q2,q3⟩:=NU hA A t0 N (by simpa using ra);simp only[h1,hc,aX,aU,lX];refine aV (λx=>x=(0,(h,d,th),0,L,r0,F,r1,D,sA r2 [t])) ?_ ?_
    .refine a! (aQ q1 (a9 ?_ (aQ q2 (a9 ?_ (aj ?_)))))
     .rw[q3];simp
     .simp
     .rfl
    rintro x rfl;exact aj rfl
   .have rr:r2.contains t=J:=rr rfl;have q1:=OB hA A t0 N rr;simp only[h1,hc,aX,aU,lX];refine aV (λx=>x=(0,(h,d,th),0,L,r0,F,r1,D,wo r2 t)) ?_ ?_
    .exact aQ q1 (a9 (by simp) (aj rfl))
    rintro x rfl;exact aj rfl
def abh (N L F D:Int) (r0 r1 r2 z:η) (h:Int) (d:θ) (th:Y d?) (h0:l! r0<=1000) (h1:l! r1<=1000) (h2:l! r2<=1000) (h3:l! z<=1000) (hd:l! d<=1000) (ht:l! th<=1000):nk ([(N,r0),(L,r1),(F,r2),(D,z)],h,d,th)=Z ((h,d,th),(N,L,F,D),r0,r1,r2,z):=by
 refine cf ?_;have A:∀l:η,l! l<=1000->iG l=Z l:=λl hl=>cf (a! (aj rfl))
 unfold nk aY bN bR bI bY bc aH;refine a9 rfl (aV (λx=>x=(([(N,r0),(L,r1),(F,r2),(D,z)],h,d,th),0,(N,L,F,D),r0,r1,r2,z)) ?_ ?_)
 .exact fy rfl (a9 rfl (aT (aQ (A _ h0) (fy rfl (a9 rfl (aT (aQ (A _ h1) (fy rfl (a9 rfl (aT (aQ (A _ h2) (fy rfl (a9 rfl (aT (aQ (A _ h3) (kH rfl (aj rfl)))))))))))))))))
 rintro x rfl;refine aQ (x:=d) (cf (a! (aj rfl))) (aQ (x:=th) (cf (a! (aj rfl))) (aj rfl))
def acv (w:WT) (s:SY) (hs:SB i s) (hn:i<=900) (hw:l! w.2.2.1<=1000) (t k o u:Int) (he:EN w s t k o) (hr:IV w s t k o) (hk:k=8\/k=9) (h3:l! s.1=4) (hA:AL (geti dF s.1 o).2) (A:∀z∈(geti dF s.1 o).2,0<=z/\z<4) (t4:t<4) (o0:0<=o) (o1:o<4):gG (w,s,t,k,o,u)=Z ((yz w s t k o u).1,(yz w s t k o u).2,J):=by
 have h1:=pS w s hs (by omega) hw t k o he hr;have t0:=he.t0;have ra:=hr.ra;have rr:=hr.rr;have hrd:=hs.rd;have hdn:=hs.dn;have hth:=hs.th;obtain⟨s1,h,d,th⟩:=s
 match s1,h3 with
 |[(a0,r0),(N,r1),(L,r2),(F,D)],_=>
  have g0:l! r0<=i:=hrd (a0,r0) (by simp);have g1:l! r1<=i:=hrd (N,r1) (by simp);have g2:l! r2<=i:=hrd (L,r2) (by simp);have g3:l! D<=i:=hrd (F,D) (by simp);dsimp only at hdn hth;have hc:=abh a0 N L F r0 r1 r2 D h d th (by omega) (by omega) (by omega) (by omega) hdn hth;refine cf ?_;unfold gG aY bi bt b7 dc fx kl bN Prod.t bn kj bI aH;have ho:o=0\/o=1\/o=2\/o=3:=by omega
  rcases ho with rfl|rfl|rfl|rfl
  .have hA:AL r0:=hA;have A:∀z∈r0,0<=z/\z<4:=A;rcases hk with rfl|rfl
   .have ra:r0.contains t=aa:=ra rfl;obtain⟨q1,q2,q3⟩:=NU hA A t0 t4 (by simpa using ra);simp only[h1,hc,aX,aU,lX];refine aV (λx=>x=(0,(h,d,th),0,a0,sA r0 [t],N,r1,L,r2,F,D)) ?_ ?_
    .refine a! (aQ q1 (a9 ?_ (aQ q2 (a9 ?_ (aj ?_)))))
     .rw[q3];simp
     .simp
     .rfl
    rintro x rfl;exact aj rfl
   .have rr:r0.contains t=J:=rr rfl;have q1:=OB hA A t0 t4 rr;simp only[h1,hc,aX,aU,lX];refine aV (λx=>x=(0,(h,d,th),0,a0,wo r0 t,N,r1,L,r2,F,D)) ?_ ?_
    .exact aQ q1 (a9 (by simp) (aj rfl))
    rintro x rfl;exact aj rfl
  .have hA:AL r1:=hA;have A:∀z∈r1,0<=z/\z<4:=A;rcases hk with rfl|rfl
   .have ra:r1.contains t=aa:=ra rfl;obtain⟨q1,q2,q3⟩:=NU hA A t0 t4 (by simpa using ra);simp only[h1,hc,aX,aU,lX];refine aV (λx=>x=(0,(h,d,th),0,a0,r0,N,sA r1 [t],L,r2,F,D)) ?_ ?_
    .refine a! (aQ q1 (a9 ?_ (aQ q2 (a9 ?_ (aj ?_)))))
     .rw[q3];simp
     .simp
     .rfl
    rintro x rfl;exact aj rfl
   .have rr:r1.contains t=J:=rr rfl;have q1:=OB hA A t0 t4 rr;simp only[h1,hc,aX,aU,lX];refine aV (λx=>x=(0,(h,d,th),0,a0,r0,N,wo r1 t,L,r2,F,D)) ?_ ?_
    .exact aQ q1 (a9 (by simp) (aj rfl))
    rintro x rfl;exact aj rfl
  .have hA:AL r2:=hA;have A:∀z∈r2,0<=z/\z<4:=A;rcases hk with rfl|rfl
   .have ra:r2.contains t=aa:=ra rfl;obtain⟨q1,q2,q3⟩:=NU hA A t0 t4 (by simpa using ra);simp only[h1,hc,aX,aU,lX];refine aV (λx=>x=(0,(h,d,th),0,a0,r0,N,r1,L,sA r2 [t],F,D)) ?_ ?_
    .refine a! (aQ q1 (a9 ?_ (aQ q2 (a9 ?_ (aj ?_)))))
     .rw[q3];simp
     .simp
     .rfl
    rintro x rfl;exact aj rfl
   .have rr:r2.contains t=J:=rr rfl;have q1:=OB hA A t0 t4 rr;simp only[h1,hc,aX,aU,lX];refine aV (λx=>x=(0,(h,d,th),0,a0,r0,N,r1,L,wo r2 t,F,D)) ?_ ?_
    .exact aQ q1 (a9 (by simp) (aj rfl))
    rintro x rfl;exact aj rfl
  .have hA:AL D:=hA;have A:∀z∈D,0<=z/\z<4:=A;rcases hk with rfl|rfl
   .have ra:D.contains t=aa:=ra rfl;obtain⟨q1,q2,q3⟩:=NU hA A t0 t4 (by simpa using ra);simp only[h1,hc,aX,aU,lX];refine aV (λx=>x=(0,(h,d,th),0,a0,r0,N,r1,L,r2,F,sA D [t])) ?_ ?_
    .refine a! (aQ q1 (a9 ?_ (aQ q2 (a9 ?_ (aj ?_)))))
     .rw[q3];simp
     .simp
     .rfl
    rintro x rfl;exact aj rfl
   .have rr:D.contains t=J:=rr rfl;have q1:=OB hA A t0 t4 rr;simp only[h1,hc,aX,aU,lX];refine aV (λx=>x=(0,(h,d,th),0,a0,r0,N,r1,L,r2,F,wo D t)) ?_ ?_
    .exact aQ q1 (a9 (by simp) (aj rfl))
    rintro x rfl;exact aj rfl
def ahs (w:WT) (s:SY) (d:SB i s) (D:i<=1000) (z:l! w.2.2.1<=1000) (t k o u:Int) (he:EN w s t k o) (A:IV w s t k o) (F:k=8\/k=9):ig (w,s,t,k,o,u)=U:=by
 have h1:=pS w s d D z t k o he A;have h2:=ag9 s d;rcases F with rfl|rfl
 .unfold ig aY bi bt b7 dc bN cW cY dN iX ck bn bI bY jZ aH;simp only[h1,h2,aX,aU,lX];cases fm o (ah s.1)<;>rfl
 .unfold ig aY bi bt b7 dc bN cW cY dN iX ck bn bI bY jZ aH;simp only[h1,h2,aX,aU,lX];cases fm o (ah s.1)<;>rfl
def ald (w:WT) (s:SY) (A:SB i s) (hn:i<=900) (d:l! w.2.2.1<=1000) (t k o u:Int) (he:EN w s t k o) (D:IV w s t k o) (hl:l! s.1<=4) (hA:∀l∈s.1,AL l.2/\∀z∈l.2,0<=z/\z<4) (N:t<4):tf (w,s,t,k,o,u)=Z ((yz w s t k o u).1,(yz w s t k o u).2,J):=by
 unfold tf;by_cases L:k=8\/k=9
 .have lk:=he.nm.lk (by omega);have e1:=he.e1;have F:=hA _ (bZ (T:=dF) (xs:=s.1) (j:=o) (by omega) (by omega));have N1:=ad1 w s A (by omega) d t k o u he D;have N2:=ad0 w s A (by omega) d t k o u he D;have N3:=acz w s A (by omega) d t k o u he D;rw[ahs w s A (by omega) d t k o u he D L];have:l! s.1=1\/l! s.1=2\/l! s.1=3\/l! s.1=4:=by omega
  rcases this with h|h|h|h
  .rw[acy w s A hn d t k o u he D L h F.1 F.2 N (by omega) (by omega)];rfl
  .rw[N1 (by omega),acx w s A hn d t k o u he D L h F.1 F.2 N (by omega) (by omega)];rfl
  .rw[N1 (by omega),N2 (by omega),acw w s A hn d t k o u he D L h F.1 F.2 N (by omega) (by omega)];rfl
  .rw[N1 (by omega),N2 (by omega),N3 (by omega),acv w s A hn d t k o u he D L h F.1 F.2 N (by omega) (by omega)];rfl
 .rw[alc w s A (by omega) d t k o u he D (λh=>L (.inl h)) λh=>L (.inr h)];rfl
def ZG (l:η) (h:l! l<=100000):Bc l=Z l:=cf (a! (aj rfl))
def ak6 (l:η) (h:l! l<=100000):iG l=Z l:=cf (a! (aj rfl))
def agy (w:WT) (s:SN) (e:ET) (A:NB i s) (hn:i<=900) (N:l! w.2.2.1<=1000) (hF:Wb w s) (F:EN w s.1 e.1 e.2.1 e.2.2.1) (hS:S16 w s e) (hcb:(geti aP s.2.2.2 e.1:Int)<=1000) (hl:l! s.1.1<=4) (hA:∀l∈s.1.1,AL l.2/\∀z∈l.2,0<=z/\z<4) (t4:e.1<4):eh (w,s,e)=Z (Wo w s e,J):=by
 have ld:l! e.2.2.2.2.2.1<=1000000:=by
  have h3:(l! e.2.2.2.2.2.1:Int)<=max (0:Int) (geti aP s.2.2.2 e.1):=hS.nd.len;have:=fk h3 (zX.2 ⟨by decide,hcb⟩);omega
 have lf:l! e.2.2.2.2.2.2<=1000000:=by
  have h3:(l! e.2.2.2.2.2.2:Int)<=max (0:Int) (geti aP s.2.2.2 e.1):=hS.nf.len;have:=fk h3 (zX.2 ⟨by decide,hcb⟩);omega
 refine cf ?_;obtain⟨rd,q1,q2,de,fr,nd,nf,va⟩:=id hS;obtain⟨nm,D,t1,cd,e1,e2,e3⟩:=id F;obtain⟨k1,k2,ce,lk,cn,th,fu,_,_,_⟩:=nm;obtain⟨f1,f2,f3⟩:=id hF;have hsc:=A.c;have hsf:=A.f;have hsk:=A.k;unfold eh aY bi bt bN cW cY ck bn bR jR jZ bc aH cS;refine aV (λx=>x=(aa,w,s,e,0)) ?_ ?_
 .refine aQ (aqr w s N _ _ _ F hF) (kH rfl (gC (dW (λg=>(by dsimp only[ak]at g;omega)) λ_=>gC (aj ?_))));rw[fH.2 (show e.2.1<=23 by omega)]
 rintro x rfl;refine hX (aV (λx=>x=(aa,w,s,e,0)) ?_ ?_)
 .exact aQ (pS w s.1 A.sb (by omega) N _ _ _ F rd) (kH rfl (aQ (aip w e q1 q2) (kH rfl (aQ (UW w s e (λh=>ce h) de fr D (by rw[f3];exact t1) nd nf ld lf) (kH rfl (aQ (ai2 w s A.sb e hF F va) (aj rfl)))))))
 rintro x rfl;refine hX (aV (λx=>x.2=(w,s,e,0)/\yz w s.1 e.1 e.2.1 e.2.2.1 x.1=yz w s.1 e.1 e.2.1 e.2.2.1 e.2.2.2.1) ?_ ?_)
 .exact aK (λ_=>aj ⟨rfl,rfl⟩) λh=>aj ⟨rfl,am0 _ _ _ _ _ _ _ h⟩
 rintro⟨u,x⟩ ⟨hx,hu⟩;dsimp only at hx hu;subst hx;refine aQ (ald w s.1 A.sb hn N _ _ _ u F rd hl hA t4) (kH rfl (aQ (ZG _ (by dsimp only;omega)) (aQ (ZG _ (by dsimp only;omega)) (aQ (ak6 _ (by dsimp only;omega)) ?_))));rw[hu];refine aV (λx=>x.1=e/\x.2.2.1=(yz w s.1 e.1 e.2.1 e.2.2.1 e.2.2.2.1).1/\x.2.2.2.1=ceP s.2.1 e/\x.2.2.2.2.1=fuP s.2.2.1 e/\x.2.2.2.2.2=s.2.2.2) ?_ ?_
 .unfold ceP fuP;refine aK (λh=>?_) λh=>aK (λh'=>?_) λh'=>aj ⟨rfl,rfl,(aA h).symm,(aA h').symm,rfl⟩
  .have h:e.2.1=4:=h;have d:=ce (.inr h);exact aJ d.1 (by rw[f1];exact d.2) (aJ d.1 (by rw[f1];exact d.2) (aj ⟨rfl,rfl,(aG h).symm,(aA (by omega)).symm,rfl⟩))
  .have h:e.2.1=22:=h';have d:=fu (.inl h);exact aJ d.1 (by rw[f2];exact d.2) (aJ d.1 (by rw[f2];exact d.2) (aj ⟨rfl,rfl,(aA (by omega)).symm,(aG h).symm,rfl⟩))
 rintro⟨x1,x2,x3,x4,x5,x6⟩ ⟨h1,h2,h4,h5,h6⟩;simp only at h1 h2 h4 h5 h6;subst h1 h2 h4 h5 h6;have L:x1.1<(l! s.2.2.2:Int):=by rw[f3];exact t1
 exact aJ D L (aJ D L (aT (aJ D L (aJ D L (aj rfl)))))
def agz (w:WT) (s:SN) (e:ET) (L:NB i s) (hn:i<=900) (F:l! w.2.2.1<=1000) (hcb:(geti aP s.2.2.2 e.1:Int)<=1000) (hl:l! s.1.1<=4) (hA:∀l∈s.1.1,AL l.2/\∀z∈l.2,0<=z/\z<4) (ht:l! w.2.2.2.2.1<=4):Ok (eh (w,s,e)) λy=>y.2=J->(Wb w s/\EN w s.1 e.1 e.2.1 e.2.2.1/\S16 w s e)/\y.1=Wo w s e:=by
 by_cases hY:Wb w s/\EN w s.1 e.1 e.2.1 e.2.2.1/\S16 w s e
 .obtain⟨D,A,hS⟩:=hY;have t1:=A.t1;exact aei (agy w s e L hn F D A hS hcb hl hA (by omega)) λ_=>⟨⟨D,A,hS⟩,rfl⟩
 have hno:∀{y:SN×Bool},y.2=aa->(y.2=J->(Wb w s/\EN w s.1 e.1 e.2.1 e.2.2.1/\S16 w s e)/\y.1=Wo w s e):=λh g=>by rw[h]at g;cases g
 unfold eh aY bi bt bN cW cY ck bn bR jR jZ bc aH cS;refine aV (λx=>x.2=(w,s,e,0)/\(x.1=aa->Wb w s/\0<=e.1/\e.1<l! w.2.2.2.2.1)) ?_ ?_
 .refine aw (aft w s F) λb d=>di (λ_=>aj ⟨rfl,nofun⟩) λN=>?_
  refine aW (λ_=>aj ⟨rfl,nofun⟩) λg0=>dW (λ_=>aj ⟨rfl,nofun⟩) λg1=>aW (λ_=>aj ⟨rfl,nofun⟩) λ_=>aj ⟨rfl,λ_=>⟨d N,g0,g1⟩⟩
 rintro⟨b,x⟩ ⟨e1,d⟩;dsimp only at e1 d;subst e1;refine aM (λ_=>aj (hno rfl)) λh=>?_
 obtain⟨D,t0,t1⟩:=d h;clear d;refine aV (λx=>x.2=(w,s,e,0)/\(x.1=aa->Wb w s/\EN w s.1 e.1 e.2.1 e.2.2.1/\S16 w s e)) ?_ ?_
 .have t2:e.1<(l! s.2.2.2:Int):=by have:=D.k;omega
  refine aw (Wc w s.1 L.sb (by omega) F _ _ _) λb1 h1=>di (λ_=>aj ⟨rfl,nofun⟩) λg1=>?_
  obtain⟨A,hR⟩:=h1 g1;refine aw (WX w e) λb2 h2=>di (λ_=>aj ⟨rfl,nofun⟩) λg2=>?_
  obtain⟨p1,p2⟩:=h2 g2;refine aw (MP w s e (λh=>A.nm.ce h) t0 t2 hcb) λb3 h3=>di (λ_=>aj ⟨rfl,nofun⟩) λg3=>?_
  obtain⟨d1,d2,d3,d4⟩:=h3 g3;refine aw (Wy w s L.sb e D A) λb4 h4=>aj ⟨rfl,λg4=>⟨D,A,hR,p1,p2,d1,d2,d3,d4,h4 ?_⟩⟩
  cases b4 with
  |true=>rfl
  |false=>cases g4
 rintro⟨b,x⟩ ⟨e1,d⟩;dsimp only at e1 d;subst e1;exact aM (λ_=>aj (hno rfl)) λh=>(hY (d h)).elim
abbrev J0:Type:=ζ×u!
abbrev cG (l:Y J0) (j:Int):J0:=geti mD l j
def bkE (c:J0) (k:Int):J0:=(c.1,k,c.2.2.1,aa,c.2.2.2.2)
structure BKA (l:List J0) (i:Nat):Prop where
 z:¬(cG l i).2.2.1=0
 s1:1<=(cG l i).2.2.1
 s4:(cG l i).2.2.1<=4
 le:(i:Int)+(cG l i).2.2.1<=l! l
 al:∀k:Nat,(k:Int)<(cG l i).2.2.1->cG l ((i:Int)+k)=bkE (cG l i) k
inductive Gk (l:List J0):Nat->List ζ->Prop
 |nil:Gk l (l! l) []
 |one {i:Nat} {ns:List ζ} (h:i<l! l) (z:(cG l i).2.2.1=0) (x:(cG l i).2.1=0) (r:Gk l (i+1) ns):Gk l i ((cG l i).1::ns)
 |arr {i:Nat} {ns:List ζ} (h:i<l! l) (b:BKA l i) (r:Gk l (i+(cG l i).2.2.1.toNat) ns):Gk l i ((cG l i).1::ns)
def Gk.inv {l:Y J0} {d:Y ζ} (h:Gk l i d) (hi:i<l! l):∃r,d=(cG l i).1::r/\(((cG l i).2.2.1=0/\(cG l i).2.1=0/\Gk l (i+1) r)\/(BKA l i/\Gk l (i+(cG l i).2.2.1.toNat) r)):=by
 cases h with
 |nil=>omega
 |one h z x r=>exact⟨_,rfl,.inl ⟨z,x,r⟩⟩
 |arr h b r=>exact⟨_,rfl,.inr ⟨b,r⟩⟩
def Sv (l:Y J0) (i:Nat) (acc:Y ζ):Prop:=i<=l! l/\l! acc<=i/\∀d,Gk l 0 d↔∃r,d=acc++r/\Gk l i r
def Sv.zero (l:Y J0):Sv l 0 []:=⟨pU _,cA _,λd=>⟨λh=>⟨d,rfl,h⟩,λ⟨r,e,h⟩=>by subst e;exact h⟩⟩
def Sv.no {l:Y J0} {acc:Y ζ} (h:Sv l i acc) (hi:i<l! l) (h1:¬((cG l i).2.2.1=0/\(cG l i).2.1=0)) (h2:¬BKA l i):∀d,¬Gk l 0 d:=λd A=>by
 obtain⟨r,rfl,z⟩:=(h.2.2 d).1 A;obtain⟨F,_,D⟩:=z.inv hi;rcases D with ⟨a,b,_⟩|⟨a,_⟩
 .exact h1 ⟨a,b⟩
 .exact h2 a
def Sv.one {l:Y J0} {acc:Y ζ} (h:Sv l i acc) (hi:i<l! l) (z:(cG l i).2.2.1=0) (x:(cG l i).2.1=0):Sv l (i+1) (acc++[(cG l i).1]):=by
 refine ⟨by omega,by simp;exact h.2.1,λF=>(h.2.2 F).trans ⟨?_,?_⟩⟩
 .rintro⟨r,rfl,d⟩;obtain⟨D,rfl,L⟩:=d.inv hi;rcases L with ⟨_,_,A⟩|⟨A,_⟩
  .exact⟨D,by simp,A⟩
  .exact (A.z z).elim
 .rintro⟨r,rfl,d⟩;exact⟨_,by simp,.one hi z x d⟩
def Sv.arr {l:Y J0} {acc:Y ζ} (h:Sv l i acc) (hi:i<l! l) (b:BKA l i):Sv l (i+(cG l i).2.2.1.toNat) (acc++[(cG l i).1]):=by
 have:=b.le;have:=b.s1;have:=h.2.1;refine ⟨by omega,by simp;omega,λF=>(h.2.2 F).trans ⟨?_,?_⟩⟩
 .rintro⟨r,rfl,d⟩;obtain⟨D,rfl,L⟩:=d.inv hi;rcases L with ⟨A,_⟩|⟨_,A⟩
  .exact (b.z A).elim
  .exact⟨D,by simp,A⟩
 .rintro⟨r,rfl,d⟩;exact⟨_,by simp,.arr hi b d⟩
def Sv.end_ {l:Y J0} {acc:Y ζ} (h:Sv l (l! l) acc):Gk l 0 acc:=(h.2.2 acc).2 ⟨[],by simp,.nil⟩
def Gk.uniq {l:Y J0} {a:Y ζ} (h:Gk l i a):∀{b:Y ζ},Gk l i b->a=b:=by
 induction h with
 |nil=>intro b A;cases A with
  |nil=>rfl
  |_=>omega
 |one h z x r D=>
  intro b A;obtain⟨L,rfl,F⟩:=A.inv h;rcases F with ⟨_,_,d⟩|⟨d,_⟩
  .rw[D d]
  .exact (d.z z).elim
 |arr h b r D=>
  intro b' A;obtain⟨L,rfl,F⟩:=A.inv h;rcases F with ⟨d,_⟩|⟨_,d⟩
  .exact (b.z d).elim
  .rw[D d]
def VNo (l:Y J0) (y:Y ζ×Bool):Prop:=(y.2=J->Gk l 0 y.1)/\(y.2=aa->∀d,¬Gk l 0 d)
def eqCe (a b:J0):(P1 (.pr .str (.pr aP (.pr aP (.pr .bool (.pr aP .un))))) (a.1,a.2.1,a.2.2.1,a.2.2.2.1,a.2.2.2.2,()) (b.1,b.2.1,b.2.2.1,b.2.2.2.1,b.2.2.2.2,()) !=J)=decide (¬a=b):=by
 obtain⟨a1,a2,a3,a4,a5⟩:=a;obtain⟨b1,N,L,F,D⟩:=b;by_cases h1:a1=b1<;>by_cases h2:a2=N<;>by_cases A:a3=L<;>by_cases z:a4=F<;>by_cases d:a5=D<;>simp[P1,h1,h2,A,z,d]
def NR (l:Y J0) (hl:l! l<=12):Ok (gg l) (VNo l):=by
 unfold gg md aY bi bt b7 cW dN bn bR iK bI bY bc c7 aH cS;refine EM 12 (λx:Int×Y ζ=>(((l! l:Int)-x.1).toNat)) (λx=>0<=x.1/\Sv l x.1.toNat x.2) ?_ ⟨by simp;omega,by omega⟩ ⟨by simp,Sv.zero l⟩;rintro⟨i,acc⟩ ⟨i0,hV⟩;dsimp only at i0 hV;obtain⟨i,rfl⟩:∃n:Nat,i=(n:Int):=⟨i.toNat,by omega⟩
 rw[bF]at hV;have hle:=hV.1;have hac:=hV.2.1;refine aW (λg=>?_) λg=>aj ⟨λ_=>?_,nofun⟩
 .dsimp only[ak]at g;have hi:i<l! l:=by omega
  refine aV (λx=>((i:Int)<x.1/\x.1<=l! l)/\Sv l x.1.toNat x.2) ?_ ?_
  .refine eQ (aT (a! ?_));have hc:geti mD l (i:Int)=cG l i:=rfl;generalize hz:geti mD l (i:Int)=z at hc;have one:=hV.one hi;have arr:=hV.arr hi;have no:=hV.no hi;have hB1:BKA l i↔¬(z.2.2.1:Int)=0/\(1:Int)<=z.2.2.1/\(4:Int)≥z.2.2.1/\(l! l:Int)≥(i:Int)+z.2.2.1/\∀k:Nat,(k:Int)<(z.2.2.1:Int)->cG l ((i:Int)+k)=bkE z k:=by
    constructor
    .rintro⟨a,b,c,d,e⟩;rw[<- hc]at a b c d e;exact⟨a,b,c,d,e⟩
    .rintro⟨a,b,c,d,e⟩;rw[hc]at a b c d e;exact⟨a,b,c,d,e⟩
   rw[<- hc]at one arr no;clear hc;have hzz:z=cG l ((i:Int)):=hz.symm;clear hz;obtain⟨L,(z2:Int),(A:Int),z4,(z5:Int)⟩:=z;dsimp only at one arr no hB1 ⊢;refine aK (λF=>cj (λh2=>aj ?_) λh2=>aj ?_) λF=>?_
   .exact⟨nofun,λ_=>no (λh=>h2 h.2) λh=>(hB1.1 h).1 F⟩
   .have:=one F h2;dsimp only;rw[fA];exact⟨by omega,this⟩
   have no:=no λh=>F h.1
   refine aV (λx=>x.2=(acc++[L],L,z2,A,z4,z5)/\(x.1=J->∀ns,¬Gk l 0 ns)/\(x.1=aa->1<=A/\A<=4/\z4=aa/\(i:Int)+A<=l! l)) ?_ ?_
   .refine aW (λh=>aj ⟨rfl,λ_=>no λD=>(by have:=(hB1.1 D).2.1;omega),nofun⟩) λh1=>aW (λh=>aj ⟨rfl,λ_=>no λD=>(by have:=(hB1.1 D).2.2.1;omega),nofun⟩) λh4=>aM (λh=>aj ⟨rfl,λ_=>no λD=>?_,nofun⟩) λhv=>aj ⟨rfl,λh=>no λD=>?_,λh=>⟨h1,h4,hv,?_⟩⟩
    .have:=(hB1.1 D).2.2.2.2 0 (by omega);rw[show ((i:Int)+((0:Nat):Int))=(i:Int) by omega,<-hzz]at this;have:=ey (λc:J0=>c.2.2.2.1) this;have:z4=aa:=this;rw[this]at h;cases h
    .have:=(hB1.1 D).2.2.2.1;dsimp only[ak]at h;rw[mV,ic]at h;omega
    .dsimp only[ak]at h;rw[fH,ic]at h;omega
   rintro⟨b,x⟩ ⟨e,hb1,hb2⟩;dsimp only at e hb1 hb2;subst e;refine aM (λh=>aj ⟨nofun,λ_=>hb1 h⟩) λh=>?_
   obtain⟨q1,q2,q3,q4⟩:=hb2 h;subst q3;refine EM 5 (λx:Int×Y ζ×J0=>(A-x.1).toNat) (λx=>(0<=x.1/\x.1<=A)/\(∃q,x.2=(acc++[L],L,q,A,aa,z5))/\∀k:Nat,(k:Int)<x.1->cG l ((i:Int)+k)=bkE (L,z2,A,aa,z5) k) ?_ ⟨by dsimp only;omega,by omega⟩ ⟨⟨by simp,by dsimp only;omega⟩,⟨z2,rfl⟩,λk N=>(by dsimp only at N;omega)⟩;rintro⟨k,x⟩ ⟨⟨k0,k1⟩,⟨q,e⟩,hal⟩;dsimp only at k0 k1 e hal;subst e;refine aW (λN=>?_) λN=>aj ?_
   .dsimp only at N;have ew:be .i64 ((i:Int)+k)=(i:Int)+k:=ic;refine aJ (by dsimp only;rw[ew];omega) (by dsimp only;rw[ew];omega) (aT ?_);dsimp only;rw[ew];have hq:=eqCe (geti mD l ((i:Int)+k)) (L,k,A,aa,z5);dsimp only at hq;refine aM (λhne=>aj ⟨nofun,λ_=>no λD=>?_⟩) λhne=>aj ⟨⟨⟨?_,?_⟩,⟨k,rfl⟩,λm hm=>?_⟩,?_⟩
    .have hne:=bl (hq.symm.trans hne);have:=(hB1.1 D).2.2.2.2 k.toNat (by omega);rw[show (((k.toNat:Nat):Int))=k by omega]at this;exact hne this
    .rw[ic];omega
    .rw[ic];omega
    .rw[ic]at hm;have hne:=kG (hq.symm.trans hne);rcases Int.lt_or_le (m:Int) k with g|g
     .exact hal m g
     .have:(m:Int)=k:=by omega
      rw[this];exact Classical.not_not.1 hne
    .rw[ic];omega
   .dsimp only at N;have hkz:k=A:=by omega
    subst hkz;have hB:=hB1.2 ⟨F,q1,q2,q4,hal⟩;have:=arr hB;dsimp only;rw[ic,show ((i:Int)+k).toNat=i+k.toNat by omega];exact⟨⟨by omega,by omega⟩,this⟩
  .rintro⟨j,acc'⟩ ⟨⟨h1,h2⟩,F⟩;dsimp only at h1 h2 F;exact aj ⟨⟨by omega,F⟩,by dsimp only;omega⟩
 .dsimp only[ak]at g;have:i=l! l:=by omega
  subst this;exact hV.end_
def uu (w:WT) (d:Y ζ):Y ζ:=((d++w.2.1.map (·.1))++w.2.2.1.map (·.1))++w.2.2.2.1++w.2.2.2.2.1
structure NK (w:WT):Prop where
 v:VL w
 ns:∃ns,Gk w.1 0 ns/\(∀s∈uu w ns,wc s)/\(uu w ns).Nodup
 cd:∀c∈w.2.2.1,0<=c.2/\c.2<l! w.2.1/\(geti s7 w.2.1 c.2).2=aa
 s:SV0 w
def Gk.len {l:Y J0} {d:Y ζ} (h:Gk l i d):i<=l! l/\l! d+i<=l! l:=by
 induction h with
 |nil=>simp
 |one h _ _ _ z=>simp;omega
 |arr h b _ z=>have:=b.s1;have:=z;simp;omega
def aj2 (w:WT) (h:VL w):Ok (qP w) λy=>(y.2=J->∃ns,Gk w.1 0 ns/\y.1=uu w ns)/\(y.2=aa->∀ns,¬Gk w.1 0 ns):=by
 obtain⟨l,w2,A,N,L,F⟩:=w;obtain⟨h1,h2,h3,h4,_,h5,h6⟩:=h;dsimp only at*
 unfold qP aY bi bt b7 cW iX bn bR iK bI bY bc c7 aH cS;refine nL (λx=>((l! l:Int)-x.1).toNat) (λx=>(0<=x.1/\x.2.1=(l,w2,A,N,L,F))/\Sv l x.1.toNat x.2.2) ?_ ⟨⟨by simp,rfl⟩,Sv.zero l⟩;rintro⟨i,x,acc⟩ ⟨⟨i0,e⟩,hV⟩;dsimp only at e i0 hV;subst e;obtain⟨i,rfl⟩:∃n:Nat,i=(n:Int):=⟨i.toNat,by omega⟩
 rw[bF]at hV;have hle:=hV.1;have hac:=hV.2.1;refine aW (λg=>?_) λg=>?_
 .dsimp only[ak]at g;have hi:i<l! l:=by omega
  refine aV (λx=>(((i:Int)<x.1/\x.1<=l! l)/\x.2.1=(l,w2,A,N,L,F))/\Sv l x.1.toNat x.2.2) ?_ ?_
  .refine eQ (aT (a! ?_));have hc:geti mD l (i:Int)=cG l i:=rfl;generalize hz:geti mD l (i:Int)=z at hc;have one:=hV.one hi;have arr:=hV.arr hi;have no:=hV.no hi;have hB1:BKA l i↔¬(z.2.2.1:Int)=0/\(1:Int)<=z.2.2.1/\(4:Int)≥z.2.2.1/\(l! l:Int)≥(i:Int)+z.2.2.1/\∀k:Nat,(k:Int)<(z.2.2.1:Int)->cG l ((i:Int)+k)=bkE z k:=by
    constructor
    .rintro⟨a,b,c,d,e⟩;rw[<- hc]at a b c d e;exact⟨a,b,c,d,e⟩
    .rintro⟨a,b,c,d,e⟩;rw[hc]at a b c d e;exact⟨a,b,c,d,e⟩
   rw[<- hc]at one arr no;clear hc;have hzz:z=cG l ((i:Int)):=hz.symm;clear hz;obtain⟨z1,(z2:Int),(D:Int),z4,(z5:Int)⟩:=z;dsimp only at one arr no hB1 ⊢;refine aK (λh3=>cj (λh2=>aj ?_) λh2=>aj ?_) λh3=>?_
   .exact⟨nofun,λ_=>no (λh=>h2 h.2) λh=>(hB1.1 h).1 h3⟩
   .have:=one h3 h2;dsimp only;rw[fA];exact⟨⟨by omega,rfl⟩,this⟩
   have no:=no λh=>h3 h.1
   refine aV (λx=>x.2=((l,w2,A,N,L,F),acc++[z1],z1,z2,D,z4,z5)/\(x.1=J->∀ns,¬Gk l 0 ns)/\(x.1=aa->1<=D/\D<=4/\(i:Int)+D<=l! l)) ?_ ?_
   .refine aW (λh=>aj ⟨rfl,λ_=>no λhb=>(by have:=(hB1.1 hb).2.1;omega),nofun⟩) λh1=>aW (λh=>aj ⟨rfl,λ_=>no λhb=>(by have:=(hB1.1 hb).2.2.1;omega),nofun⟩) λh4=>aj ⟨rfl,λh=>no λhb=>?_,λh=>⟨h1,h4,?_⟩⟩
    .have:=(hB1.1 hb).2.2.2.1;dsimp only[ak]at h;rw[mV,ic]at h;omega
    .dsimp only[ak]at h;rw[fH,ic]at h;omega
   rintro⟨b,x⟩ ⟨e,hb1,hb2⟩;dsimp only at e hb1 hb2;subst e;refine aM (λh=>aj ⟨nofun,λ_=>hb1 h⟩) λh=>?_
   obtain⟨q1,q2,q4⟩:=hb2 h;refine nL (λx=>(D-x.1).toNat) (λx=>(0<=x.1/\x.1<=D)/\x.2=((l,w2,A,N,L,F),acc++[z1],z1,z2,D,z4,z5)/\∀k:Nat,(k:Int)<x.1->cG l ((i:Int)+k)=bkE (z1,z2,D,z4,z5) k) ?_ ⟨⟨by simp,by dsimp only;omega⟩,rfl,λk hk=>(by dsimp only at hk;omega)⟩;rintro⟨k,x⟩ ⟨⟨k0,k1⟩,e,hal⟩;dsimp only at k0 k1 e hal;subst e;refine aW (λhk=>?_) λhk=>aj ?_
   .dsimp only at hk;have ew:be .i64 ((i:Int)+k)=(i:Int)+k:=ic;refine aJ (by dsimp only;rw[ew];omega) (by dsimp only;rw[ew];omega) (aT ?_);dsimp only;rw[ew];refine aV (λx=>x.2=((l,w2,A,N,L,F),acc++[z1],z1,z2,D,z4,z5)/\(x.1=aa↔cG l ((i:Int)+k)=bkE (z1,z2,D,z4,z5) k)) ?_ ?_
    .have hcg:cG l ((i:Int)+k)=geti mD l ((i:Int)+k):=rfl;rw[hcg];generalize geti mD l ((i:Int)+k)=c;obtain⟨c1,(c2:Int),(c3:Int),c4,(c5:Int)⟩:=c;dsimp only;refine cj (λg=>aj ⟨rfl,?_⟩) λg1=>cj (λg=>aj ⟨rfl,?_⟩) λg2=>cj (λg=>aj ⟨rfl,?_⟩) λg3=>cj (λg=>aj ⟨rfl,?_⟩) λg4=>aj ⟨rfl,?_⟩
     .exact⟨nofun,λh=>(g (ey (λc:J0=>c.2.1) h)).elim⟩
     .exact⟨nofun,λh=>(g (ey (λc:J0=>c.1) h)).elim⟩
     .exact⟨nofun,λh=>(g (ey (λc:J0=>c.2.2.1) h)).elim⟩
     .exact⟨nofun,λh=>(g (ey (λc:J0=>c.2.2.2.2) h)).elim⟩
     .constructor
      .intro hh;have h0:c4=aa:=hh;subst g1 g2 g3 g4;rw[h0];rfl
      .exact λh=>ey (λc:J0=>c.2.2.2.1) h
    rintro⟨b,x⟩ ⟨e,hb⟩;dsimp only at e hb;subst e;refine aM (λhne=>aj ⟨nofun,λ_=>no λhB=>?_⟩) λhne=>aj ⟨⟨⟨?_,?_⟩,rfl,λm hm=>?_⟩,?_⟩
    .have:=(hB1.1 hB).2.2.2.2 k.toNat (by omega);rw[show (((k.toNat:Nat):Int))=k by omega]at this;rw[hb.2 this]at hne;cases hne
    .dsimp only;rw[ic];omega
    .dsimp only;rw[ic];omega
    .dsimp only at hm;rw[ic]at hm;rcases Int.lt_or_le (m:Int) k with g|g
     .exact hal m g
     .have:(m:Int)=k:=by omega
      rw[this];exact hb.1 hne
    .dsimp only;rw[ic];omega
   .dsimp only at hk;have hkz:k=D:=by omega
    subst hkz;have hB:=hB1.2 ⟨h3,q1,q2,q4,hal⟩;have:=arr hB;dsimp only;rw[ic,show ((i:Int)+k).toNat=i+k.toNat by omega];exact⟨⟨⟨by omega,by omega⟩,rfl⟩,this⟩
  .rintro⟨j,x,acc'⟩ ⟨⟨⟨h1,h2⟩,e⟩,h3⟩;dsimp only at h1 h2 h3 e;subst e;exact aj ⟨⟨⟨by dsimp only;omega,rfl⟩,h3⟩,by dsimp only;omega⟩
 .dsimp only[ak]at g;have:i=l! l:=by omega
  subst this;have hN:=hV.end_;refine aw (P:=λy=>y=(uu (l,w2,A,N,L,F) acc,J)) ?_ λy hy=>aj ?_
  .refine cC (l! w2) (λi x=>x=((i:Int),(l,w2,A,N,L,F),acc++(w2.take i).map (·.1))) ?_ ?_ (by simp)
   .rintro i x hi rfl;refine gQ (eQ (aT (a! (aj ?_))));dsimp only;rw[fA,sE (T:=s7) hi,da,gX];rfl
   .rintro x rfl;rw[bW];refine gC (aw (P:=λy=>y=(uu (l,w2,A,N,L,F) acc,J)) ?_ λy hy=>aj hy);refine cC (l! A) (λi x=>x=((i:Int),(l,w2,A,N,L,F),(acc++w2.map (·.1))++(A.take i).map (·.1))) ?_ ?_ (by simp)
    .rintro i x hi rfl;refine gQ (eQ (aT (a! (aj ?_))));dsimp only;rw[fA,sE (T:=nK) hi,da,gX (acc++w2.map (·.1))];rfl
    .rintro x rfl;rw[bW];refine gC (aw (P:=λy=>y=(uu (l,w2,A,N,L,F) acc,J)) ?_ λy hy=>aj hy);exact a! (a! (aj rfl))
  .subst hy;exact⟨λ_=>⟨acc,hN,rfl⟩,nofun⟩
def YX {t n:Int} {z:ν}:siS a (Z (t,n)) z≠U↔(z.1=t/\z.2.1=n\/t<z.1/\z.1<a/\z.2.1=0):=by
 unfold siS;dsimp only;by_cases h1:z.1=t/\z.2.1=n
 .rw[aG h1];simp[h1]
 .rw[aA h1];by_cases h2:t<z.1/\z.1<a/\z.2.1=0
  .rw[aG h2];simp[h2]
  .rw[aA h2];simp only[ne_eq,not_true_eq_false,false_iff];exact λh=>h.elim h1 h2
def yT {l:Y R} {x:R}:(l++[x]).Nodup↔l.Nodup/\¬x∈l:=by
 rw[List.nodup_append];constructor
 .rintro⟨h1,_,A⟩;exact⟨h1,λh=>A x h x (by simp) rfl⟩
 .rintro⟨h1,h2⟩;exact⟨h1,by simp,λa z b d e=>by simp at d;subst d e;exact h2 z⟩
def Lc {l:Y R} (h:l.Nodup) (i:Nat):(l.take i).Nodup:=h.sublist (List.take_sublist i l)
def ago {z:Y ζ} (h:VL B) (A:Gk B.1 0 z):l! (uu B z)<=24:=by
 have:=A.len.2;have:=h.c;have:=h.l;have:=h.d;have:=h.f;have:=h.t;unfold uu;simp;omega
def NK.names (h:NK B) {ns:Y ζ} (d:Gk B.1 0 ns):(∀s∈uu B ns,wc s)/\(uu B ns).Nodup:=by
 obtain⟨ns',h1,h2⟩:=h.ns;rw[d.uniq h1];exact h2
structure SiI (T:Int) (l:List ν) (i:Nat) (t k:Int):Prop where
 f:Z_ T (l.take i)=Z (t,k)
 t0:0<=t
 t1:t<T
 z:i=0->t=0/\k=0
 p:¬i=0->∀y:ν,geti pR l ((i-1:Nat):Int)=y->y.1=t/\y.2.1+1=k
 k0:0<=k
 k1:k<=i
def SiI.zero (l:Y ν) (h:0<a):SiI a l 0 0 0:=⟨rfl,by omega,h,λ_=>⟨rfl,rfl⟩,λh=>(h rfl).elim,by omega,by omega⟩
def SiI.no {l:Y ν} {t k:Int} (h:SiI a l i t k) (hi:i<l! l) {y:ν} (e:geti pR l (i:Int)=y) (g:¬(y.1=t/\y.2.1=k\/t<y.1/\y.1<a/\y.2.1=0)):Z_ a l=U:=by
 refine Classical.not_not.1 λd=>?_
 have h2:=aib d (i+1);rw[KK hi,h.f,e]at h2;exact g (YX.1 h2)
def SiI.next {l:Y ν} {t k:Int} (h:SiI a l i t k) (hi:i<l! l) {y:ν} (e:geti pR l (i:Int)=y) (g:y.1=t/\y.2.1=k\/t<y.1/\y.1<a/\y.2.1=0):SiI a l (i+1) y.1 (y.2.1+1):=by
 obtain⟨f,F,D,z,p,L,k1⟩:=h;have h2:=adu (YX.2 g);rw[<- f,<-e,<-KK hi]at h2;refine ⟨by rw[<- e];exact h2.1,?_,?_,λh=>by omega,λ_ A d=>?_,?_,?_⟩
 case refine_3=>
  rw[show i+1-1=i by omega,e]at d;subst d;exact⟨rfl,rfl⟩
 all_goals omega
def NP (w:WT) (h:VL w):Ok (gd w) λb=>b=J↔SV0 w:=by
 have hs:=h.s;have ht:=h.t0;have L:=h.t;unfold SV0;unfold gd mb aY bi b7 cY bR iK bY bc c7 aH cS;refine dO (l! w.2.2.2.2.2) (by omega) (λi x=>∃t n:Int,x=((t,n,(i:Int)),w)/\SiI (l! w.2.2.2.2.1) w.2.2.2.2.2 i t n) ?_ ?_ ⟨0,0,rfl,SiI.zero _ (by omega)⟩
 .rintro i x hi ⟨t,n,rfl,A⟩;refine gQ (eQ (aT ?_));obtain⟨⟨a,b,c⟩,D⟩:∃y:ν,geti pR w.2.2.2.2.2 (i:Int)=y:=⟨_,rfl⟩
  have no:=A.no hi D;have nx:=A.next hi D;obtain⟨_,t0,N,z,p,k0,k1⟩:=A;rw[D];clear D;dsimp only at no nx ⊢;have no':=λg=>(⟨nofun,λh=>(h (no g)).elim⟩:aa=J↔Z_ (l! w.2.2.2.2.1) w.2.2.2.2.2≠U)
  refine aV (λx=>x.2=(w,a,b,c)/\(x.1=aa↔t<=a/\a<l! w.2.2.2.2.1)) ?_ ?_
  .refine aW (λg=>aj ⟨rfl,nofun,λh=>(by omega)⟩) λg=>aj ⟨rfl,?_⟩
   dsimp only[ak];rw[ms];omega
  rintro⟨x1,x⟩ ⟨e,F⟩;dsimp only at e F;subst e;refine aM (λg=>aj (no' λh=>?_)) λg=>?_
  .have:¬(t<=a/\a<l! w.2.2.2.2.1):=λq=>by rw[F.2 q]at g;cases g
   omega
  obtain⟨g1,g2⟩:=F.1 g;refine aV (λx=>x.2=(w,a,b,c)/\x.1.1=a/\((x.1.2=b↔(a=t/\b=n\/t<a/\b=0))/\0<=x.1.2/\x.1.2<=i)) ?_ ?_
  .refine aW (λg=>aj ⟨rfl,rfl,?_⟩) λg=>aj ⟨rfl,?_,?_⟩
   .dsimp only at g ⊢;omega
   .dsimp only at g ⊢;omega
   .dsimp only at g ⊢;omega
  rintro⟨⟨x1,x2⟩,x⟩ ⟨e,e2,d,k2,k3⟩;dsimp only at e e2 d k2 k3;subst e e2;refine cj (λg=>aj (no' λh=>?_)) λg=>aj ⟨_,_,?_,nx ?_⟩
  .dsimp only at g;have:¬x2=b:=λq=>g q.symm
   rw[d]at this;omega
  .dsimp only at g ⊢;have g:b=x2:=g;rw[fA,ic (n:=x2+1) (by omega) (by omega),g]
  .dsimp only at g;have g:b=x2:=g;have:=d.1 g.symm;omega
 .rintro x ⟨t,n,rfl,A⟩;refine gC (aj ⟨λ_ h=>?_,λ_=>rfl⟩);have:=A.f;rw[bW,h]at this;cases this
def aql {l:Y T.den} {p:T.den->Prop} (h:∀k:Nat,k<ah l->p (geti _ l (k:Int))):∀c∈l,p c:=iS h
def VW06 (w:WT):Ok (iy w) λb=>b=J↔NK w:=by
 unfold iy aY bi bt b7 cY dN bn bR jR iK bI bY bc c7 aH cS;refine aV (λx=>x.2=w/\(x.1=aa->VL w)/\(x.1=J->¬VL w)) ?_ ?_
 .with_reducible repeat' first|apply OS.ok;constructor|refine IM.mk λ_=>?_
  all_goals first|exact⟨rfl,nofun,λ_ F=>(by have:=F.c;have:=F.l;have:=F.d;have:=F.f;have:=F.t0;have:=F.t;dsimp only[ak]at *;omega)⟩|skip
  dsimp only[ak] at*
  refine ⟨rfl,λh=>?_,λh F=>?_⟩
  .rw[fH]at h;constructor<;>omega
  .rw[mV]at h;have:=F.s;omega
 rintro⟨b,x⟩ ⟨e,hb,hb'⟩;dsimp only at e hb hb';subst e;refine aM (λh=>aj ⟨nofun,λg=>(hb' h g.v).elim⟩) λh=>?_
 have F:=hb h;refine aw (aj2 _ F) λy hy=>?_
 refine di (λh=>aj ⟨nofun,λg=>?_⟩) λh=>?_
 .obtain⟨ns,h1,_⟩:=g.ns;exact (hy.2 h ns h1).elim
 obtain⟨ns,hns,hyn⟩:=hy.1 h;have hlen:=ago F hns;rw[hyn];clear hyn hy;clear hb hb';have hN:NK x->(∀s∈uu x ns,wc s)/\(uu x ns).Nodup:=λg=>g.names hns
 generalize hL:uu x ns=L at hN hlen;refine cC (l! L) (λi x'=>x'=((i:Int),x)/\(∀s∈L.take i,wc s)/\(L.take i).Nodup) ?_ ?_ ⟨rfl,λs hs=>(by simp at hs),by simp⟩
 .rintro i x' hi ⟨rfl,hq1,hq2⟩;refine gQ ?_;have htk:=sE (T:=.str) hi;refine aV (λx'=>x'.2=x/\(x'.1=aa↔wc (geti (.str) L (i:Int))/\¬geti (.str) L (i:Int)∈L.take i)) ?_ ?_
  .refine eQ (aT (aw (ahe _) λb hb=>?_));refine di (λh=>aj ⟨rfl,nofun,λg=>?_⟩) λh=>?_
   .rw[hb.2 g.1]at h;cases h
   refine c6 (a? (a? (eQ (aT ?_))));refine aw (Dr _ _ (by simp;omega)) λr hr=>aj ⟨rfl,?_⟩
   obtain⟨_,h2,h3,h4⟩:=hr;rw[ms];constructor
   .intro g;exact⟨hb.1 h,h4 g⟩
   .rintro⟨_,g⟩;refine Int.not_le.1 λh0=>g ?_
    have h3:=h3 h0;dsimp only at h3;rw[<- h3];exact bZ (T:=.str) h0 h2
  rintro⟨b,x'⟩ ⟨e,hb⟩;dsimp only at e hb;subst e;refine aM (λh=>aj ⟨nofun,λg=>?_⟩) λh=>aj ⟨by dsimp only;rw[fA],?_,?_⟩
  .obtain⟨g1,g2⟩:=hN g;have:b=aa:=hb.2 ⟨g1 _ (bZ (T:=.str) (by omega) (by omega)),(yT.1 (by rw[<- htk];exact Lc g2 _)).2⟩;rw[this]at h;cases h
  .rw[htk];intro s hs;rcases bE.1 hs with hs|hs
   .exact hq1 s hs
   .rw[aE]at hs;subst hs;exact (hb.1 h).1
  .rw[htk];exact yT.2 ⟨hq2,(hb.1 h).2⟩
 rintro x' ⟨rfl,hq1,hq2⟩;rw[bW]at hq1 hq2;subst hL;obtain⟨w1,w2,A,w4,N,D⟩:=x;have h6:=F.s;have h3:=F.d;have h2:=F.l;have h50:=F.t0;dsimp only at h6 h3 h2 h50;refine gC (aw (P:=λb=>b=J↔NK (w1,w2,A,w4,N,D)) ?_ λy hy=>aj hy);refine cC (l! A) (λi x=>x=((i:Int),(w1,w2,A,w4,N,D))/\∀k:Nat,k<i->0<=(geti nK A (k:Int)).2/\(geti nK A (k:Int)).2<l! w2/\(geti s7 w2 (geti nK A (k:Int)).2).2=aa) ?_ ?_ ⟨rfl,λk hk=>(by omega)⟩
 .rintro i x hi ⟨rfl,hq⟩;refine gQ (eQ (aT ?_));have hmem:geti nK A (i:Int)∈A:=bZ (T:=nK) (by omega) (by omega);have hVW:NK (w1,w2,A,w4,N,D)->0<=(geti nK A (i:Int)).2/\(geti nK A (i:Int)).2<l! w2/\(geti s7 w2 (geti nK A (i:Int)).2).2=aa:=λg=>g.cd _ hmem
  have hq':(0<=(geti nK A (i:Int)).2/\(geti nK A (i:Int)).2<l! w2/\(geti s7 w2 (geti nK A (i:Int)).2).2=aa)->∀k:Nat,k<i+1->0<=(geti nK A (k:Int)).2/\(geti nK A (k:Int)).2<l! w2/\(geti s7 w2 (geti nK A (k:Int)).2).2=aa:=λg k hk=>by
   rcases bu k i with h1|h1
   .exact hq k h1
   .rw[show k=i by omega];exact g
  clear hq;obtain⟨⟨c1,c2⟩,hc⟩:∃c:ζ×Int,geti nK A (i:Int)=c:=⟨_,rfl⟩
  rw[hc]at hVW hq' ⊢;dsimp only at hVW hq' ⊢;refine aV (λx=>x.2=(w1,w2,A,w4,N,D)/\(x.1=aa↔0<=c2/\c2<l! w2/\(geti s7 w2 c2).2=aa)) ?_ ?_
  .refine aW (λg=>aj ⟨rfl,nofun,λh=>(by omega)⟩) λg=>dW (λg2=>aj ⟨rfl,nofun,λh=>(by dsimp only[ak]at g2;omega)⟩) λg2=>?_
   dsimp only[ak]at g2;exact eQ (aT (aj ⟨rfl,λh=>⟨g,g2,h⟩,λh=>h.2.2⟩))
  rintro⟨b,x⟩ ⟨e,hb⟩;dsimp only at e hb;subst e;refine aM (λh=>aj ⟨nofun,λg=>?_⟩) λh=>aj ⟨by dsimp only;rw[fA],hq' (hb.1 h)⟩
  rw[hb.2 (hVW g)]at h;cases h
 rintro x ⟨rfl,hq⟩;have hcd:∀c∈A,0<=c.2/\c.2<l! w2/\(geti s7 w2 c.2).2=aa:=aql (T:=nK) hq;clear hq;refine gC (aw (P:=λb=>b=J↔NK (w1,w2,A,w4,N,D)) ?_ λy hy=>aj hy);have hno:Z_ (l! N) D=U->(aa=J↔NK (w1,w2,A,w4,N,D)):=λg=>⟨nofun,λh=>(h.s g).elim⟩
 refine cC (l! D) (λi x=>x=((i:Int),(w1,w2,A,w4,N,D))/\∃t k:Int,SiI (l! N) D i t k) ?_ ?_ ⟨rfl,0,0,SiI.zero _ (by omega)⟩
 .rintro i x hi ⟨rfl,t,k,hI⟩;have hw:¬(i:Int)=0->be .i64 ((i:Int)-1)=((i-1:Nat):Int):=λh=>by rw[ic];omega
  refine gQ ?_;obtain⟨⟨a,b,c⟩,hy⟩:∃y:ν,geti pR D (i:Int)=y:=⟨_,rfl⟩
  have no:=hI.no hi hy;have nx:=hI.next hi hy;obtain⟨_,t0,t1,z,p,k0,k1⟩:=hI;obtain⟨⟨pa,pb,pc⟩,hp⟩:∃y:ν,geti pR D ((i-1:Nat):Int)=y:=⟨_,rfl⟩
  have p:=λh=>p h _ hp
  dsimp only at no nx p;refine aV (λx=>x=(w1,w2,A,w4,N,D)/\(a=t/\b=k\/t<a/\a<l! N/\b=0)) ?_ ?_
  .refine eQ (aT ?_);dsimp only;rw[hy];dsimp only;refine aV (λx=>x.2=((w1,w2,A,w4,N,D),a,b,c)/\(x.1=aa↔0<=a/\a<l! N)) ?_ ?_
   .refine aW (λ_=>aj ⟨rfl,nofun,λh=>(by omega)⟩) λg=>aj ⟨rfl,?_⟩
    dsimp only[ak];rw[ms];omega
   rintro⟨b1,x⟩ ⟨e,hx⟩;dsimp only at e hx;subst e;refine aM (λh=>aj (hno (no λg=>?_))) λh=>?_
   .rw[hx.2 (by omega)]at h;cases h
   obtain⟨a0,a1⟩:=hx.1 h;refine aV (λx=>x.2=((w1,w2,A,w4,N,D),a,b,c)/\(x.1=aa↔¬i=0/\t=a)) ?_ ?_
   .refine aK (λh=>aj ⟨rfl,nofun,λg=>?_⟩) λh=>?_
    .have h:((i:Nat):Int)=0:=h;omega
    have h:¬((i:Nat):Int)=0:=h;have hpp:=p (by omega);dsimp only;rw[hw h];refine aJ (by omega) (by first|omega|(dsimp only;omega)) (aT (aj ⟨rfl,?_⟩));rw[hp];dsimp only;rw[hpp.1];simp only[Bool.not_eq_false',bB];exact⟨λg=>⟨by omega,g⟩,λg=>g.2⟩
   rintro⟨c1,x⟩ ⟨e,hc⟩;dsimp only at e hc;subst e;refine aM (λhct=>?_) λhcf=>?_
   .have hne:¬(¬i=0/\t=a):=λg=>by rw[hc.2 g]at hct;cases hct
    refine aV (λx=>x.2=(w1,w2,A,w4,N,D)/\(x.1=aa↔b=0/\(i=0\/t<=a))) ?_ ?_
    .refine cj (λg=>aj ⟨rfl,nofun,λh=>(g h.1).elim⟩) λhb0=>aW (λh=>?_) λh=>aj ⟨rfl,λ_=>⟨hb0,.inl ?_⟩,λ_=>rfl⟩
     .have h:(0:Int)<((i:Nat):Int):=h;have hpp:=p (by omega);dsimp only;rw[hw (by omega)];refine aJ (by omega) (by first|omega|(dsimp only;omega)) (aT (aj ⟨rfl,?_⟩));rw[hp];dsimp only;rw[hpp.1,fH];exact⟨λg=>⟨hb0,.inr g⟩,λg=>g.2.elim (λg=>by omega) id⟩
     .have h:((i:Nat):Int)<=0:=h;omega
    rintro⟨b2,x⟩ ⟨e,hb2⟩;dsimp only at e hb2;subst e;refine aM (λh=>aj (hno (no λg=>?_))) λh=>aj ⟨rfl,?_⟩
    .have:¬(b=0/\(i=0\/t<=a)):=λg=>by rw[hb2.2 g]at h;cases h
     by_cases i0:i=0
     .have:=z i0;omega
     .omega
    .have g:=hb2.1 h;by_cases i0:i=0
     .have:=z i0;omega
     .omega
   .obtain⟨i0,ta⟩:=hc.1 hcf;have hpp:=p i0;dsimp only;rw[hw (by omega)];refine aJ (by omega) (by first|omega|(dsimp only;omega)) (aT ?_);rw[hp];refine cj (λg=>aj (hno (no λg2=>?_))) λg=>aj ⟨rfl,?_⟩
    .dsimp only at g;rw[ic]at g;omega
    .dsimp only at g;rw[ic]at g;omega
  .rintro x ⟨rfl,g⟩;exact aj ⟨by dsimp only;rw[fA],_,_,nx g⟩
 .rintro x ⟨rfl,t,k,hI⟩;refine gC (aj ⟨λ_=>⟨F,⟨ns,hns,hq1,hq2⟩,hcd,λh=>?_⟩,λ_=>rfl⟩);have:=hI.f;rw[bW]at this;rw[this]at h;cases h
def aer (k j:ζ) (v:Bool):∀m:Y y!,uB (K:=.str) (V:=.bool) j (vJ (K:=.str) (V:=.bool) k v m)=if j=k then Z v else uB (K:=.str) (V:=.bool) j m
 |[]=>by
  show (if decide (j=k)=J then Z v else U)=_;by_cases h:j=k<;>simp[h,uB]
 |(a,b)::r=>by
  have d:=aer k j v r;show uB (K:=.str) (V:=.bool) j (if decide (k=a)=J then (k,v)::r else (a,b)::vJ (K:=.str) (V:=.bool) k v r)=if j=k then Z v else if decide (j=a)=J then Z b else uB (K:=.str) (V:=.bool) j r
  by_cases h:k=a
  .subst h;rw[aG (bj rfl)];show (if decide (j=k)=J then Z v else uB (K:=.str) (V:=.bool) j r)=_;by_cases g:j=k<;>simp[g]
  .rw[aA (by simpa using h)];show (if decide (j=a)=J then Z b else uB (K:=.str) (V:=.bool) j (vJ (K:=.str) (V:=.bool) k v r))=_;rw[d];by_cases g:j=a
   .subst g;rw[aG (bj rfl),aA λq=>h q.symm,aG (bj rfl)]
   .simp only[g,Z3,bM,c8]
def Nt (l:Y ζ) (m:Y y!):Prop:=∀s,vM (K:=.str) (V:=.bool) s m aa=decide (s∈l)
def Nt.nil:Nt [] []:=λs=>by simp[vM,uB]
def Nt.snoc {l:Y ζ} {m:Y y!} (h:Nt l m) (x:ζ):Nt (l++[x]) (vJ (K:=.str) (V:=.bool) x J m):=λs=>by
 have:=h s;unfold vM at this ⊢;rw[aer];by_cases e:s=x
 .subst e;simp
 .rw[aA e,this];simp[e]
def NQ (w:WT) (h:VL w) (d:Y ζ) (hn:l! d<=12):Ok (gf (w,d)) λb=>b=J↔(∀s∈uu w d,wc s)/\(uu w d).Nodup:=by
 obtain⟨l,w2,z,D,A,F⟩:=w;obtain⟨h1,h2,h3,h4,_,h5,h6⟩:=h;dsimp only at*
 unfold gf mc aY bi bt bR bI bY jZ bc c7 aH cS;refine a! ?_;refine dO (l! w2) (by omega) (λi x=>x=((i:Int),(l,w2,z,D,A,F),d++(w2.take i).map (·.1))) ?_ ?_ (by simp)
 .rintro i x hi rfl;refine gQ (eQ (aT (a! (aj ?_))));dsimp only;rw[fA,sE (T:=s7) hi,da,gX];rfl
 rintro x rfl;rw[bW];refine gC (aw (P:=λb=>b=J↔(∀s∈uu (l,w2,z,D,A,F) d,wc s)/\(uu (l,w2,z,D,A,F) d).Nodup) ?_ λy hy=>aj hy);refine dO (l! z) (by omega) (λi x=>x=((i:Int),(l,w2,z,D,A,F),(d++w2.map (·.1))++(z.take i).map (·.1))) ?_ ?_ (by simp)
 .rintro i x hi rfl;refine gQ (eQ (aT (a! (aj ?_))));dsimp only;rw[fA,sE (T:=nK) hi,da,gX (d++w2.map (·.1))];rfl
 rintro x rfl;rw[bW];refine gC (aw (P:=λb=>b=J↔(∀s∈uu (l,w2,z,D,A,F) d,wc s)/\(uu (l,w2,z,D,A,F) d).Nodup) ?_ λy hy=>aj hy);refine a! (a! ?_);have hL:((d++w2.map (·.1))++z.map (·.1)++D)++A=uu (l,w2,z,D,A,F) d:=rfl;have hLl:l! (uu (l,w2,z,D,A,F) d)<=24:=by unfold uu;simp;omega
 dsimp only;rw[hL];generalize uu (l,w2,z,D,A,F) d=L at hLl;refine dO (l! L) (by omega) (λi x=>∃m,x=((i:Int),m,L)/\Nt (L.take i) m/\(∀s∈L.take i,wc s)/\(L.take i).Nodup) ?_ ?_ ⟨[],rfl,Nt.nil,λs hs=>(by simp at hs),by simp⟩
 .rintro i x hi ⟨m,rfl,hm,hq1,N⟩;refine gQ (eQ (eQ (aT ?_)));have htk:=sE (T:=.str) hi;refine aV (λx=>x.2=(m,L)/\(x.1=aa↔wc (geti (.str) L (i:Int))/\¬geti (.str) L (i:Int)∈L.take i)) ?_ ?_
  .refine aw (al9 _) λb hb=>di (λh=>aj ⟨rfl,nofun,λg=>?_⟩) λh=>aj ⟨rfl,?_⟩
   .rw[hb.2 g.1]at h;cases h
   .have:=hm (geti (.str) L (i:Int));constructor
    .intro g;exact⟨hb.1 h,kG (this.symm.trans g)⟩
    .intro g;exact this.trans (b_ g.2)
  rintro⟨b,x⟩ ⟨e,hb⟩;dsimp only at e hb;subst e;refine aM (λh=>aj ⟨nofun,λg=>?_⟩) λh=>aj ⟨_,by dsimp only;rw[fA],?_,?_,?_⟩
  .have:b=aa:=hb.2 ⟨g.1 _ (bZ (T:=.str) (by omega) (by omega)),(yT.1 (by rw[<- htk];exact Lc g.2 _)).2⟩;rw[this]at h;cases h
  .rw[htk];exact hm.snoc _
  .rw[htk];intro s hs;rcases bE.1 hs with hs|hs
   .exact hq1 s hs
   .rw[aE]at hs;subst hs;exact (hb.1 h).1
  .rw[htk];exact yT.2 ⟨N,(hb.1 h).2⟩
 .rintro x ⟨m,rfl,hm,hq1,N⟩;rw[bW]at hq1 N;exact gC (aj ⟨λ_=>⟨hq1,N⟩,λ_=>rfl⟩)
def ai1 (a b:Int):nu (a,b)=Z (decide (0<=a/\a<b)):=by
 refine cf ?_;unfold nu jR aH;with_reducible repeat' first|apply OS.ok;constructor|refine IM.mk λ_=>?_
 .by_cases h:a<b<;>simp[*,fM]
 .simp;omega
def VWc (w:WT):Ok (dL w) λb=>b=J↔NK w:=by
 unfold dL me aY bi b7 cY bR bY bc c7 aH cS;refine aV (λx=>x.2=w/\(x.1=J->¬VL w)/\(x.1=aa->l! w.1<=12/\l! w.2.1<=4/\l! w.2.2.1<=2/\l! w.2.2.2.1<=2/\l! w.2.2.2.2.2<=60)) ?_ ?_
 .refine aW (λg=>aj ⟨rfl,λ_ L=>(by have:=L.c;dsimp only[ak]at g;omega),nofun⟩) λg1=>aW (λg=>aj ⟨rfl,λ_ L=>(by have:=L.l;dsimp only[ak]at g;omega),nofun⟩) λg2=>aW (λg=>aj ⟨rfl,λ_ L=>(by have:=L.d;dsimp only[ak]at g;omega),nofun⟩) λg3=>aW (λg=>aj ⟨rfl,λ_ L=>(by have:=L.f;dsimp only[ak]at g;omega),nofun⟩) λg4=>aj ⟨rfl,λg L=>?_,λg=>?_⟩
  .have:=L.s;dsimp only[ak]at g;rw[mV]at g;omega
  .dsimp only[ak]at g g1 g2 g3 g4;rw[fH]at g;omega
 rintro⟨b,x⟩ ⟨e,D,A⟩;dsimp only at e D A;subst e;refine aM (λh=>aj ⟨nofun,λg=>(D h g.v).elim⟩) λh=>?_
 obtain⟨q1,q2,q3,q4,q5⟩:=A h;clear D A;refine aV (λy=>y.2=x/\(y.1=J->¬VL x)/\(y.1=aa->VL x)) ?_ ?_
 .refine aW (λg=>aj ⟨rfl,λ_ L=>(by have:=L.t0;dsimp only[ak]at g;omega),nofun⟩) λg1=>aj ⟨rfl,λg L=>?_,λg=>?_⟩
  .have:=L.t;dsimp only[ak]at g;rw[mV]at g;omega
  .dsimp only[ak]at g g1;rw[fH]at g;constructor<;>omega
 rintro⟨b,y⟩ ⟨e,D,A⟩;dsimp only at e D A;subst e;refine aM (λh=>aj ⟨nofun,λg=>(D h g.v).elim⟩) λh=>?_
 have L:=A h;clear D A;refine aw (NR _ q1) λz hz=>?_
 obtain⟨ns,zb⟩:=z;obtain⟨hz1,hz2⟩:=hz;dsimp only at hz1 hz2;refine aV (λz=>z.2=y/\(z.1=J->¬NK y)/\(z.1=aa->Gk y.1 0 ns/\(∀s∈uu y ns,wc s)/\(uu y ns).Nodup)) ?_ ?_
 .refine di (λh=>aj ⟨rfl,λ_ g=>?_,nofun⟩) λh=>?_
  .obtain⟨ns',g1,_⟩:=g.ns;exact hz2 h ns' g1
  .have hn:=hz1 h;refine aw (NQ y L ns (by have:=hn.len.2;omega)) λb N=>aj ⟨rfl,λg g2=>?_,λg=>⟨hn,N.1 ?_⟩⟩
   .have:=N.2 (g2.names hn);rw[this]at g;cases g
   .cases b with
    |true=>rfl
    |false=>cases g
 rintro⟨b,z⟩ ⟨e,D,A⟩;dsimp only at e D A;subst e;refine aM (λh=>aj ⟨nofun,λg=>(D h g).elim⟩) λh=>?_
 obtain⟨n1,n2,n3⟩:=A h;clear D A;have hsi:=NP z L;obtain⟨w1,w2,F,w4,w5,w6⟩:=z;dsimp only at q1 q2 q3 q4 q5 n1;refine dO (l! F) (by omega) (λi x=>x=((i:Int),(w1,w2,F,w4,w5,w6))/\∀k:Nat,k<i->0<=(geti nK F (k:Int)).2/\(geti nK F (k:Int)).2<l! w2/\(geti s7 w2 (geti nK F (k:Int)).2).2=aa) ?_ ?_ ⟨rfl,λk hk=>(by omega)⟩
 .rintro i x hi ⟨rfl,hq⟩;refine gQ (eQ (aT ?_));have hmem:geti nK F (i:Int)∈F:=bZ (T:=nK) (by omega) (by omega);have hVW:NK (w1,w2,F,w4,w5,w6)->0<=(geti nK F (i:Int)).2/\(geti nK F (i:Int)).2<l! w2/\(geti s7 w2 (geti nK F (i:Int)).2).2=aa:=λg=>g.cd _ hmem
  have hq':(0<=(geti nK F (i:Int)).2/\(geti nK F (i:Int)).2<l! w2/\(geti s7 w2 (geti nK F (i:Int)).2).2=aa)->∀k:Nat,k<i+1->0<=(geti nK F (k:Int)).2/\(geti nK F (k:Int)).2<l! w2/\(geti s7 w2 (geti nK F (k:Int)).2).2=aa:=λg k hk=>by
   rcases bu k i with h1|h1
   .exact hq k h1
   .rw[show k=i by omega];exact g
  clear hq;obtain⟨⟨c1,c2⟩,hc⟩:∃c:ζ×Int,geti nK F (i:Int)=c:=⟨_,rfl⟩
  rw[hc]at hVW hq' ⊢;dsimp only at hVW hq' ⊢;refine aw (P:=λb=>b=J↔0<=c2/\c2<l! w2/\(geti s7 w2 c2).2=aa) ?_ λb N=>?_
  .unfold qa bY bc aH;refine gk (aQ (ai1 _ _) (aK (λg=>?_) λg=>aj (aj ⟨nofun,λh=>(g ⟨h.1,h.2.1⟩).elim⟩)));dsimp only[ak]at g;refine aJ g.1 g.2 (aT (aj (aj ?_)));dsimp only;obtain⟨⟨d1,d2⟩,hd⟩:∃d:y!,geti s7 w2 c2=d:=⟨_,rfl⟩
   rw[hd];cases d2
   .exact⟨λ_=>⟨g.1,g.2,rfl⟩,λ_=>rfl⟩
   .exact⟨nofun,λh=>(by cases h.2.2)⟩
  .refine di (λh=>aj ⟨nofun,λg=>?_⟩) λh=>aj ⟨by rw[fA],hq' (N.1 h)⟩
   rw[N.2 (hVW g)]at h;cases h
 rintro x ⟨rfl,hq⟩;have hcd:∀c∈F,0<=c.2/\c.2<l! w2/\(geti s7 w2 c.2).2=aa:=aql (T:=nK) hq;refine gC (aw (P:=λb=>b=J↔NK (w1,w2,F,w4,w5,w6)) ?_ λy hy=>aj hy);refine aw hsi λb N=>aj ?_
 exact⟨λh=>⟨L,⟨ns,n1,n2,n3⟩,hcd,N.1 h⟩,λh=>N.2 h.s⟩
abbrev sn8 (w:WT):SN:=(NZ w,ce0 w,fu0 w,aF (l! w.2.2.2.2.1) 0)
def apy (xs:Y R) (i:Nat) (x:R):cJ xs (i:Int) x=xs.set i x:=by unfold cJ;simp
variable {j:Nat}
def aij {a b:R} (h:i<j):(aF i a++aF (j-i) b).set i a=aF (i+1) a++aF (j-(i+1)) b:=by
 rw[show j-i=(j-(i+1))+1 by omega,iU];rw[List.set_append_right _ _ (by simp),cm,s_,NH,wq];simp
def aik {a b:T.den} (h:i<j):geti T (aF i a++aF (j-i) b) (i:Int)=b:=by
 rw[Oy,aB,bU (by simp),cm,s_,fJ,aG (by omega)];rfl
def Tv (w:WT) (h:VL w):lS w=Z (NZ w):=by
 have h2:=h.l;have N:=h.f;have L:=h.t;have F:=h.t0;have d:∀(n b:Nat),n<=4->b<=1024->(dj 0 (aR n)&&dj (aR n) (aR n)&&bh (aS (aR n)) b)=J:=λn b z D=>by
  rw[qe.2 (show (0:Int)<=aR n from eM n),qe.2 (eE _),BY.2 ⟨by simp;omega,by simp only[ak,bF];exact c9 (Nat.mul_le_mul (show n<=1073741824 by omega) D) (by omega)⟩];rfl
 refine cf ?_;unfold lS tD aY bi bt bN cW cY ck bR bI bc c7 aH cS;refine a9 (d _ _ h2 (by omega)) (a9 (d _ _ (by omega) (by omega)) (a9 (d _ _ L (by omega)) ?_));refine dO (l! w.2.1) (by omega) (λi x=>x=((i:Int),0,(-1:Int),aF i ((-1:Int),([]:η))++aF (l! w.2.1-i) (0,[]),aF (l! w.2.2.2.1) aa,aF (l! w.2.2.2.2.1) (0,0,aa))) ?_ ?_ (by simp)
 .rintro i x hi rfl;refine aW (λ_=>?_) λg=>(by simp only[ak,cm,bF]at g;omega)
  have hin:fm (i:Int) (ah (aF i (-1,([]:η))++aF (l! w.2.1-i) ((0:Int),([]:η))))=J:=E3.2 ⟨by omega,by simp;omega⟩;refine a9 hin (a9 hin (aj ?_));dsimp only;rw[aik (T:=dF) hi,fA,apy,aij hi]
 .rintro x rfl;refine aW (λg=>(by simp only[ak,cm,bF]at g;omega)) λ_=>?_
  refine aw (P:=λy=>y=NZ w) (aV (λx=>x=(0,-1,aF (l! w.2.1) (-1,[]),aF (l! w.2.2.2.1) aa,thP (l! w.2.2.2.2.1))) ?_ ?_) λy A=>aj A
  .refine aW (λ_=>?_) λg=>(by simp only[ak,cm]at g;omega)
   have hin:fm (0:Int) (ah (aF (l! w.2.2.2.2.1) ((0:Int),(0:Int),aa)))=J:=E3.2 ⟨by omega,by simp;omega⟩;refine a9 hin (a9 hin (aj ?_));dsimp only;rw[s_,List.replicate_zero,pD];obtain⟨n,z⟩:∃n,l! w.2.2.2.2.1=n+1:=⟨l! w.2.2.2.2.1-1,by omega⟩
   rw[z];rfl
  .rintro x rfl;exact aj rfl
def zR (w:WT) (h:VL w):eS w=Z (sn8 w):=by
 have h1:=h.c;have F:=h.f;have D:=h.t;have d:∀(n b:Nat),n<=12->b<=1024->(dj 0 (aR n)&&dj (aR n) (aR n)&&bh (aS (aR n)) b)=J:=λn b A z=>by
  rw[qe.2 (show (0:Int)<=aR n from eM n),qe.2 (eE _),BY.2 ⟨by simp;omega,by simp only[ak,bF];exact c9 (Nat.mul_le_mul (show n<=1073741824 by omega) z) (by omega)⟩];rfl
 refine cf ?_;unfold eS nN aY bi bt cW bR bI bY bc c7 aH cS;refine aQ (Tv w h) (a9 ?_ (a9 (d _ _ (by omega) (by omega)) (a9 (d _ _ (by omega) (by omega)) ?_)))
 .rw[qe.2 (eE 0),qe.2 (show (0:Int)<=aR (l! w.1) from eM _),BY.2 ⟨by simp;omega,by simp;omega⟩];rfl
 refine dO (l! w.1) (by omega) (λi x=>x=((i:Int),0,NZ w,(w.1.take i).map (λc=>c.2.2.2.2),aF (l! w.2.2.2.1) 0,aF (l! w.2.2.2.2.1) 0)) ?_ ?_ (by simp)
 .rintro i x hi rfl;refine gQ (eQ (aT (a! (aj ?_))));dsimp only;rw[fA,sE (T:=mD) hi,da];rfl
 .rintro x rfl;refine gC (aj ?_);dsimp only;rw[bW];rfl
def IX (w:WT) (s:SY) (F:l! w.2.2.1<=1000) (D:∀c∈w.2.2.1,0<=c.2/\c.2<l! w.2.1) (e1:l! s.1=l! w.2.1) (e2:l! s.2.2.1=l! w.2.2.2.1) (A:l! s.2.2.2=l! w.2.2.2.2.1):oY (w,s)=Z J:=by
 refine cf ?_;unfold oY aY bi bt cY bn bR bY bc c7 aH cS;refine cC (l! w.2.2.1) (λi x=>x=((i:Int),w,s)) ?_ ?_ rfl
 .rintro i x hi rfl;have L:=D _ (bZ (T:=nK) (xs:=w.2.2.1) (j:=(i:Int)) (by omega) (by omega));with_reducible repeat' first|apply OS.ok;constructor|refine IM.mk λ_=>?_
  all_goals try simp only[ak,pE] at*
  all_goals first|omega|skip
  rw[fA]
 .rintro x rfl;refine gC (aw (P:=λb=>b=J) (aV (λx=>x=J) ?_ λx d=>aj d) λb z=>aj z);refine aK (λ_=>aK (λ_=>aj ?_) λg=>(g ?_).elim) λg=>(g ?_).elim
  .dsimp only[ak];rw[A];simp
  .dsimp only[ak];omega
  .dsimp only[ak];omega
def W5 (w:WT) (k o:Int) (h:NM w k o):qM (w,k,o)=Z J:=by
 refine cf ?_;obtain⟨k1,k2,D,lk,cn,th,A,no,d,rw_⟩:=h;unfold qM aY bi bt b7 bn bY bc aH;cases kdI k
 case no z _=>omega
 all_goals simp only[aX,aU,lX,TN]
 all_goals with_reducible repeat' first|apply OS.ok;constructor|refine IM.mk λ_=>?_
 all_goals try simp only[ak,pE] at*
 all_goals first|omega|exact rw_ ⟨by decide,by decide⟩|(simp only[*,k_,aht];done)
set_option maxHeartbeats 4000000 in
def Ss {n:Nat} (w:WT) (s:SY) (hs:SB n s) (hw:l! w.2.2.1<=1000) (t k o:Int) (he:EN w s t k o) (hr:IV w s t k o):iZ (w,s,t,k,o)=Z J:=by
 refine cf ?_;obtain⟨nm,t0,t1,cd,e1,e2,e3⟩:=id he;unfold iZ aY bi bt bN cW cY bn iK bY bc aH;refine aV (λx=>x=(aa,w,s)) ?_ ?_
 .refine aQ (IX w s hw cd e1 e2 e3) ?_;refine hX ?_;simp only[TN,Wn];refine cj (λg=>(g ⟨t0,t1⟩).elim) λ_=>?_
  refine aQ (W5 w k o nm) (aj rfl)
 rintro x rfl;refine hX ?_;obtain⟨_,_,ce,lk,cn,th,fu,_,_,_⟩:=nm;have hm:16<=k/\k<=19->0<=(geti nK w.2.2.1 o).2/\(geti nK w.2.2.1 o).2<l! w.2.1:=λh=>cd _ (bZ (cn h).1 (cn h).2)
 have hH:6<=k/\k<=11->pI ((geti dF s.1 o).2,t)=Z ((geti dF s.1 o).2.contains t):=λh=>Nz _ _ (by
  have:=hs.rd _ (bZ (T:=dF) (lk h).1 (by have:=(lk h).2;omega));have:=hs.n1;omega)
 cases kdI k
 case no hk _=>omega
 all_goals simp only[aX,aU,lX]
 all_goals with_reducible repeat' first|apply OS.ok;constructor|refine IM.mk λ_=>?_
 all_goals try simp only[hH (by omega),Wn]
 all_goals with_reducible repeat' first|apply OS.ok;constructor|refine IM.mk λ_=>?_
 all_goals try simp only[ak,pE] at*
 all_goals first|omega|exact (hm ⟨by decide,by decide⟩).1|(rw [e1];exact (hm ⟨by decide,by decide⟩).2)|skip
 all_goals first|exact hr.b (by decide)|exact hr.aq (by decide)|exact hr.rl (by decide)|exact hr.rr (by decide)|(rw [hr.ra (by decide)];rfl)|(have:=hr.wr (by decide);omega)|exact hr.xb (by decide)|exact hr.xe (by decide)|(rw [hr.ab (by decide)];rfl)|exact hr.ae (by decide)|exact hr.nt (by decide)|exact (hr.sp (by decide)).2|exact (hr.jo (by decide)).2|(rw [hr.se (by decide)];rfl)|exact hr.ge (by decide)|exact (hr.wk (by decide)).2.2|(exfalso;first|(have:=hr.r (by decide) (by decide);contradiction)|(have:=hr.aq (by decide);contradiction)|(have:=(hr.wk (by decide)).1;contradiction)|(have:=(hr.wk (by decide)).2.1;contradiction)|(have:=(hr.sp (by decide)).1;contradiction)|(have:=(hr.jo (by decide)).1;contradiction))|skip
def Wa (w:WT) (s:SN) (z:l! w.2.2.1<=1000) (t k o:Int) (he:EN w s.1 t k o) (hf:Wb w s):sO (w,s)=Z J:=by
 refine cf ?_;unfold sO aY bi bt cW bn bc aH;refine aV (λx=>x=J) ?_ λx d=>aj d
 refine aQ (IX w s.1 z he.cd he.e1 he.e2 he.e3) (uA ?_);have:=hf.c;have:=hf.f;have:=hf.k;refine aK (λ_=>aK (λ_=>aj ?_) λg=>(g ?_).elim) λg=>(g ?_).elim
 .dsimp only[ak];simp;omega
 .dsimp only[ak];omega
 .dsimp only[ak];omega
def agk:∀{l:η},AL l->∀k:Nat,k+1<l! l->l.getD k 0<l.getD (k+1) 0
 |[],_,k,h|[x],_,k,h=>by simp at h
 |x::y::r,h,0,_=>h.1 y (c_ ..)
 |x::y::r,h,k+1,d=>by have:=agk h.2 k (by simpa using d);simpa using this
def EP (l:η) (c:Int) (A:l! l<=1000000000) (h:AN c l):lE (l,c)=Z J:=by
 refine cf ?_;unfold lE bR jR bY bc c7 aH cS;refine cC (l! l) (λi x=>x=(i:Int)) ?_ ?_ rfl
 .rintro i x hi rfl;have hm:=h.m _ (bZ (T:=aP) (xs:=l) (j:=(i:Int)) (by omega) (by omega));have z:0<(i:Int)->be .i64 ((i:Int)-1)=((i-1:Nat):Int):=λh=>by rw[ic];omega
  refine gQ (aV (λx=>x=aa) ?_ ?_)
  .refine eQ (aT (aW (λg=>cN g (by dsimp only;omega)) λ_=>eQ (aT (dW (λg=>cN g (by dsimp only;omega)) λ_=>aW (λg=>?_) λ_=>aj rfl))));have g:0<(i:Int):=g;refine eQ (aT ?_);dsimp only;rw[z g];refine eQ (aT (aj ?_));have d:=agk h.a (i-1) (by omega);rw[show i-1+1=i by omega]at d;rw[AG,AG];exact ms.2 d
  rintro x rfl;exact hX (aj fA)
 .rintro x rfl;exact gC (aj rfl)
def Wz (w:WT) (s:SN) (hs:NB i s) (hf:Wb w s) (e:ET) (he:EN w s.1 e.1 e.2.1 e.2.2.1) (hv:VA w s.1 s.2.1 s.2.2.1 e.1 e.2.1 e.2.2.1 e.2.2.2.1):qL (s,e)=Z J:=by
 refine cf ?_;obtain⟨t,k,o,v,si,de,fr⟩:=e;obtain⟨d,s2,s3,s4⟩:=s;obtain⟨nm,t0,t1,cd,e1,e2,e3⟩:=he;obtain⟨_,_,ce,lk,cn,th,fu,_,_,_⟩:=nm;obtain⟨f1,f2,f3⟩:=hf;obtain⟨v3,z,v5,vel⟩:=hv;have hth:=hs.sb.th;dsimp only at*
 unfold qL aY bi bt b7 bN bn bR jR bY bc aH;have hW:=No d o hth;have hWl:=ry d.2.2.2 o (l! d.2.2.2);refine aK (λh=>?_) λn3=>?_
 .have h:k=3:=h;obtain⟨c0,N⟩:=ce (.inl h);exact aJ c0 (by rw[f1];exact N) (aT (aj (bj (v3 h))))
 refine aK (λh=>?_) λA=>?_
 .have h:k=23:=h;obtain⟨c0,N⟩:=fu (.inr h);exact aJ c0 (by rw[f2];exact N) (aT (aj (bj (z h))))
 refine aK (λh=>?_) λn5=>?_
 .have h:k=5:=h;exact gk (aK (λh2=>aj (aj rfl)) λh2=>aj (aj (bj ((v5 h).resolve_left h2))))
 refine aV (λx=>x.2=((d,s2,s3,s4),t,k,o,v,si,de,fr)/\(x.1=aa->¬k=4/\¬k=22)) (aK (λh=>aj ⟨rfl,λg=>cN g (by dsimp only;rw[bj h];decide)⟩) λh=>aj ⟨rfl,λg=>⟨h,kG g⟩⟩) ?_;rintro⟨b,x⟩ ⟨e,hb⟩;dsimp only at e hb;subst e;refine aM (λh=>aj rfl) λh=>?_
 obtain⟨n4,D⟩:=hb h;have val:=vel n3 A n5 n4 D;refine aK (λh=>?_) λL=>?_
 .have h:k=18:=h;subst h;rw[Hs]at val;have hmem:¬l! (wl d.2.2.2 o (l! d.2.2.2))=0->0<=v/\v<l! d.2.2.2/\(wl d.2.2.2 o (l! d.2.2.2)).contains v=J:=λg=>by
   rw[aA g]at val;dsimp only at val;unfold F0 at val;rw[aA g]at val;by_cases c:(wl d.2.2.2 o (l! d.2.2.2)).contains v=J
   .have:=(AQ (th:=d.2.2.2) (c:=o)).1 (by simpa using c:v∈wl d.2.2.2 o (l! d.2.2.2));exact⟨this.1,this.2.1,c⟩
   .exfalso;rw[aA c]at val;refine c ?_;rw[val];have hz:wl d.2.2.2 o (l! d.2.2.2)≠[]:=λq=>g (by rw[q];rfl)
    generalize wl d.2.2.2 o (l! d.2.2.2)=y at hz ⊢;cases y with
    |nil=>exact (hz rfl).elim
    |cons a r=>rw[show geti aP (a::r) 0=a from rfl];simp
  refine aQ hW ?_;refine aK (λg=>aj ?_) λg=>?_
  .dsimp only[ak]at g;rw[aG (by omega)]at val;exact bj val
  .dsimp only[ak]at g;obtain⟨q0,q1,q2⟩:=hmem (by omega);refine gk (dW (λ_=>aW (λ_=>?_) λq=>cN q (by dsimp only[ak];omega)) λq=>cN q (by dsimp only;omega));exact aQ (Nz _ _ (by omega)) (aj (aj q2))
 refine aK (λh=>?_) λF=>?_
 .have h:k=19:=h;subst h;exact aQ hW (aj (bj (by rw[Yu]at val;exact val)))
 .rw[ZQ _ _ _ _ _ _ L F]at val;exact aj (bj val)
variable {e:ET} {Q:Y ET}
def NA {y:Int}:Eb (Q++[e]) a y->Eb Q a y\/(e.1=a/\uP e=J/\y=(l! (fl Q a):Int)):=by
 rintro⟨h0,h1⟩;rw[Bo,aB]at h1;rcases bu y.toNat (l! (fl Q a)) with g|g
 .refine .inl ⟨h0,?_⟩;rw[bz g]at h1;rw[aB];exact h1
 .rw[bU g]at h1;by_cases he:e.1=a
  .rw[G7 he]at h1;have d:y.toNat-l! (fl Q a)=0:=by
    rcases oQ (y.toNat-l! (fl Q a)) with q|q
    .exact q
    .rw[bK (by rw[bP];omega)]at h1;cases h1
   rw[d]at h1;exact .inr ⟨he,by simpa using h1,by omega⟩
  .rw[Bn he]at h1;simp at h1
def KQ (l:Y ET) (i t:Int) (d:η) (hl:l! l<=1000000000) (hi:0<=i/\i<=l! l) (hn:l! d<=1000000000) (h:∀y∈d,Eb (l.take i.toNat) t y):og (l,i,t,d)=Z J:=by
 refine cf ?_;unfold og aY bN bn bR iK bY bc c7 aH cS;refine cC (l! d) (λk x=>x=(k:Int)) ?_ ?_ rfl
 .rintro k x hk rfl;have N:=h _ (bZ (T:=aP) (xs:=d) (j:=(k:Int)) (by omega) (by omega));refine aW (λF=>?_) λF=>(by dsimp only[ak]at F;omega)
  refine nL (λx=>(i-x.2.2).toNat) (λx=>0<=x.2.2/\x.2.2<=i/\x.1=(l! (fl (l.take x.2.2.toNat) t):Int)/\(Eb (l.take x.2.2.toNat) t (geti aP d (k:Int))->x.2.1=J)) ?_ ⟨by simp,hi.1,by simp[fl],λq=>by have:=q.2;simp[fl]at this⟩;rintro⟨a,b,(c:Int)⟩ ⟨L,c1,ha,A⟩;dsimp only at L c1 ha A;subst ha;obtain⟨c,rfl⟩:∃n:Nat,c=(n:Int):=⟨c.toNat,by omega⟩
  rw[bF]at A;dsimp only;rw[bF];have hfl:=Fj (l.take c) t;have htl:=gK c l;refine aW (λD=>?_) λD=>?_
  .have D:(c:Int)<i:=D;have htk:l.take (c+1)=l.take c++[geti gx l (c:Int)]:=sE (T:=gx) (by omega);refine aV (λy=>y.1=(l! (fl (l.take (c+1)) t):Int)/\(Eb (l.take (c+1)) t (geti aP d (k:Int))->y.2=J)) ?_ ?_
   .rw[htk,Bo];refine aJ L (by first|omega|(dsimp only;omega)) (aT ?_);refine cj (λhne=>aj ⟨by rw[Bn hne];simp,λq=>(NA q).elim A λz=>(hne z.1).elim⟩) λhe=>?_
    have he:(geti gx l (c:Int)).1=t:=he;refine aV (λy=>Eb (l.take c++[geti gx l (c:Int)]) t (geti aP d (k:Int))->y=J) ?_ λy N=>aj ⟨?_,N⟩
    .refine aM (λq=>aj λ_=>rfl) λhbf=>?_
     have nb:¬Eb (l.take c) t (geti aP d (k:Int)):=λq=>by have:=A q;rw[this]at hbf;cases hbf
     refine aJ (by omega) (by first|omega|(dsimp only;omega)) (aT ?_);refine aK (λ_=>?_) λhnn=>aj λq=>((NA q).elim (λz=>(nb z).elim) λz=>(hnn z.2.2.symm).elim)
     refine aJ L (by first|omega|(dsimp only;omega)) (aT ?_);refine aK (λ_=>aj λ_=>rfl) λn3=>?_
     refine aJ L (by first|omega|(dsimp only;omega)) (aT (aj λq=>?_));rcases NA q with z|⟨_,z,_⟩
     .exact (nb z).elim
     .unfold uP at z;rw[b_ n3,yJ]at z;exact z
    .dsimp only;rw[G7 he,fA];simp
   .rintro⟨p,q⟩ ⟨hp,hq⟩;refine aj ?_;dsimp only at hp hq ⊢;rw[fA,bF];exact⟨⟨by omega,by omega,hp,hq⟩,by omega⟩
  .have D:i<=(c:Int):=D;have hci:c=i.toNat:=by omega
   rw[hci]at A;refine aw (P:=λr=>r=wF (((k+1:Nat):Int))) ?_ λr hr=>by subst hr;exact aj rfl
   refine di (λq=>?_) λ_=>aj (by rw[fA])
   have:=A N;rw[this]at q;cases q
 .rintro x rfl;refine aW (λF=>(by dsimp only[ak]at F;omega)) λ_=>aj rfl
def V0 (w:WT) (s:SN) (L:NB i s) (hw:l! w.2.2.1<=1000) (e:ET) (hcb:(geti aP s.2.2.2 e.1:Int)<=1000000) (hF:Wb w s) (hE:EN w s.1 e.1 e.2.1 e.2.2.1) (A:S16 w s e):Ok (oV (w,s,e)) λy=>y.2=J:=by
 have hd:l! e.2.2.2.2.2.1<=1000000000:=by
  have F:(l! e.2.2.2.2.2.1:Int)<=max (0:Int) (geti aP s.2.2.2 e.1):=A.nd.len;have:=fk F (zX.2 ⟨by decide,hcb⟩);omega
 have hf:l! e.2.2.2.2.2.2<=1000000000:=by
  have F:(l! e.2.2.2.2.2.2:Int)<=max (0:Int) (geti aP s.2.2.2 e.1):=A.nf.len;have:=fk F (zX.2 ⟨by decide,hcb⟩);omega
 have hEn:=Ss w s.1 L.sb hw e.1 e.2.1 e.2.2.1 hE A.rd;obtain⟨nm,t0,t1,cd,e1,e2,e3⟩:=id hE;obtain⟨k1,k2,ce,lk,cn,th,fu,_,_,_⟩:=nm;obtain⟨f1,f2,f3⟩:=id hF;unfold oV aY bi bt b7 dc bN cW cY dN iX ck bn bR iK bI bY jZ bc c7 aH cS;refine aV (λx=>x=(aa,w,s,e,0)) ?_ ?_
 .refine aQ (Wa w s hw _ _ _ hE hF) (hX ?_);simp only[ajf,Wn];refine cj (λg=>(g ⟨t0,t1⟩).elim) λ_=>aW (λg=>cN g (Int.not_lt.2 k1)) λ_=>aW (λg=>cN g (Int.not_lt.2 k2)) λ_=>aQ hEn (aj rfl)
 rintro x rfl;refine hX (aV (λx=>x=(w,s,e,0)) ?_ ?_)
 .refine aV (λx=>x.2=(w,s,e,0)/\(x.1=J->e.2.1=1\/e.2.1=2)/\(x.1=aa->¬(e.2.1=1\/e.2.1=2))) ?_ ?_
  .refine aK (λh=>aj ⟨rfl,λ_=>.inl h,nofun⟩) λh=>aj ⟨rfl,λh2=>.inr (bl h2),λh2=>?_⟩
   have:=kG h2;exact λF=>F.elim h this
  rintro⟨x1,x2⟩ ⟨d,hy1,N⟩;dsimp only at d hy1 N;subst d;refine aM (λhk=>?_) λhk=>?_
  .exact cj (λg=>(g (A.s1 (hy1 hk))).elim) λ_=>aj rfl
  .obtain⟨q1,q2,q3⟩:=A.s2 (N hk);refine aV (λx=>x=(aa,w,s,e,0)) ?_ ?_
   .simp only[ajf,Wn];refine cj (λg=>(g ⟨q1,q2⟩).elim) λ_=>aJ q1 q2 (aT (aj ?_))
    dsimp only;rw[q3];simp
   rintro x rfl;exact hX (aj rfl)
 rintro x rfl;refine aV (λx=>x.2=(w,s,e,0)/\(x.1=J->e.2.1=3\/e.2.1=4)/\(x.1=aa->¬(e.2.1=3\/e.2.1=4))) ?_ ?_
 .refine aK (λh=>aj ⟨rfl,λ_=>.inl h,nofun⟩) λh=>aj ⟨rfl,λh2=>.inr (bl h2),λh2=>?_⟩
  have:=kG h2;exact λF=>F.elim h this
 rintro⟨x1,x2⟩ ⟨d,D,hx0⟩;dsimp only at d D hx0;subst d;refine aV (λx=>x=(aa,w,s,e,0)) ?_ ?_
 .refine aW (λg=>cj (λn5=>?_) λ_=>aj rfl) λ_=>aj rfl
  have de:=(A.de (by dsimp only[ak]at g;omega)).resolve_left n5;refine aM (λh=>?_) λh=>(hx0 h de.1).elim
  refine aJ (ce (D h)).1 (ce (D h)).2 (aT (aj ?_));have:=de.2;dsimp only;simp[this]
 rintro x rfl;refine hX (aV (λx=>x=(aa,w,s,e,0)) ?_ ?_)
 .refine aW (λg=>cj (λn4=>aj ?_) λ_=>aj rfl) λ_=>aj rfl
  have fr:=(A.fr (by dsimp only[ak]at g;omega)).resolve_left n4;dsimp only;simp[fr]
 rintro x rfl;have hk:=L.k;have hc:=L.c;have hfu:=L.f;refine hX (aV (λx=>x=(aa,w,s,e,0)) ?_ ?_)
 .refine aJ t0 (by rw[f3];exact t1) (aT (aQ (EP _ _ hd A.nd) (hX ?_)));refine aJ t0 (by rw[f3];exact t1) (aT (aQ (EP _ _ hf A.nf) (hX ?_)));exact aQ (Wz w s L hF e hE A.va) (aj rfl)
 rintro x rfl;refine hX (a! (a! (a! ?_)));refine aV (λx=>x.2=(w,s,e,0,0,s.2.1,s.2.2.1,s.2.2.2)) ?_ ?_
 .exact aK (λ_=>aj rfl) λh=>aj rfl
 rintro⟨x1,x2⟩ d;dsimp only at d;subst d;refine aw (ND w s.1 L.sb hw e.1 e.2.1 e.2.2.1 x1) λy hy=>?_
 refine aV (λx=>x.1=e/\l! x.2.2.2.1=l! s.2.1/\x.2.2.2.2=(s.2.2.1,s.2.2.2)) ?_ ?_
 .refine aK (λh=>?_) λh=>aj ⟨rfl,rfl,rfl⟩
  have z:=ce (.inr h);refine aJ z.1 (by dsimp only;omega) (aJ z.1 (by dsimp only;omega) (aj ⟨rfl,?_,rfl⟩));dsimp only;rw[cR]
 rintro⟨x1,x2,x3,x4,x5,x6⟩ ⟨h1,h2,h4⟩;simp only[aI]at h1 h4;obtain⟨rfl,rfl⟩:=h4;subst h1;refine aV (λx=>x.1=x1/\x.2.2.2.2.2=s.2.2.2) ?_ ?_
 .refine aK (λh=>?_) λh=>aj ⟨rfl,rfl⟩
  have z:=fu (.inl h);exact aJ z.1 (by dsimp only;omega) (aJ z.1 (by dsimp only;omega) (aj ⟨rfl,rfl⟩))
 rintro⟨x1,x2,x3,x4,x5,x6⟩ ⟨h1,h6⟩;simp only at h1 h6;subst h1 h6;with_reducible repeat' first|apply OS.ok;constructor|refine IM.mk λ_=>?_
 all_goals try simp only[ak,pE] at*
 all_goals first|omega|skip
structure TP (t:η×Int):Prop where
 l0:l! t.1<=9223372036854775807
 by_:∀x∈t.1,0<=x/\x<=255
 a0:0<=t.2
 a1:t.2<=l! t.1
structure wC (t t':η×Int):Prop where
 e:t'.1=t.1
 m:t.2<=t'.2
 p:TP t'
def wC.refl {t:n?} (h:TP t):wC t t:=⟨rfl,eE _,h⟩
def wC.trans {a b c:n?} (h:wC a b) (g:wC b c):wC a c:=⟨g.e.trans h.e,fk h.m g.m,g.p⟩
def gI (n:Int) (t:n?) (h:TP t):Ok (bV (n,t)) λy=>wC t y.2/\0<=y.1/\(1<=n->y.1<n)/\(t.2<l! t.1->1<=n->t.2<y.2.2):=by
 obtain⟨L,a⟩:=t;have hT:=h;obtain⟨F,A,D,a1⟩:=h;dsimp only at F A D a1;unfold bV jR bI bY bc aH cS;refine aV (λx=>x.2=(L,a)/\(x.1=J->a=l! L\/n<1)/\(x.1=aa->a<l! L/\1<=n)) ?_ ?_
 .refine dW (λh=>aj ⟨rfl,λ_=>?_,nofun⟩) λh=>aj ⟨rfl,λh2=>?_,λh2=>?_⟩
  .dsimp only[ak]at h;omega
  .rw[mV]at h2;exact .inr h2
  .rw[fH]at h2;dsimp only[ak]at h h2;omega
 rintro⟨b,x⟩ ⟨e,h1,h2⟩;dsimp only at e h1 h2;subst e;refine aM (λh=>aj ⟨wC.refl hT,eE _,λN=>(by dsimp only;omega),λN h4=>?_⟩) λh=>?_
 .have:=h1 h;dsimp only at N;omega
 obtain⟨q1,q2⟩:=h2 h;refine aT ?_;have e1:be .i64 (a+1)=a+1:=ic;dsimp only;rw[e1,ic (n:=a+1-1) (by omega) (by omega),show a+1-1=a by omega];have d:=A _ (bZ (T:=.int .u8) (xs:=L) (j:=a) D q1);refine aJ D q1 (aT ?_);generalize (geti _ _ a)=z at d;have d:0<=z/\z<=255:=d;rw[ic (n:=z) (by omega) (by omega)];refine xO (by omega) (aj ?_);dsimp only;refine ⟨⟨rfl,by dsimp only;omega,⟨F,A,by dsimp only;omega,by dsimp only;omega⟩⟩,Int.tmod_nonneg _ d.1,λ_=>?_,λ_ _=>by omega⟩;exact Int.tmod_lt_of_pos _ (by omega)
def Wx (s:SY) (z:l! s.2.2.2<=1000) (y:η×J!):Ok (mm (s,y)) λl=>l! l<=l! s.2.2.2:=by
 unfold mm bN bn bR bI bY bc c7 aH cS;refine cC (l! s.2.2.2) (λi x=>x.1=(i:Int)/\l! x.2<=i) ?_ ?_ ⟨rfl,by simp⟩
 .rintro i ⟨a,b⟩ hi ⟨e1,e2⟩;dsimp only at e1 e2;subst e1;with_reducible repeat' first|apply OS.ok;constructor|refine IM.mk λ_=>?_
  all_goals try simp only[ak,pE] at*
  all_goals first|omega|(simp;omega)|skip
  .exact⟨fA,by simp;omega⟩
  .exact⟨fA,by omega⟩
 .rintro⟨a,b⟩ ⟨e1,e2⟩;dsimp only at e1 e2;subst e1;refine aW (λd=>(by dsimp only[ak]at d;omega)) λ_=>aj e2
def aa8 (k u:Int) (t:n?) (h:TP t):Ok (pH ((k,u),t)) λy=>wC t y.2/\(k=3\/k=4->0<=y.1/\y.1<5):=by
 unfold pH bn jZ aH cS;cases kdI k
 case no A _=>
  simp only[A,aX,aU,lX];exact aj ⟨wC.refl h,λh=>(by first|omega|(simp at h;done)|(rcases h with h|h<;>cases h;done))⟩
 all_goals simp only[aX,aU,lX]
 all_goals first
  |exact aj ⟨wC.refl h,λh=>(by first|omega|(simp at h;done)|(rcases h with h|h<;>cases h;done))⟩
  |exact aw (gI 2 t h) λy d=>aj ⟨d.1,λh=>(by first|omega|(simp at h;done)|(rcases h with h|h<;>cases h;done))⟩
  |exact aw (gI 3 t h) λy d=>aj ⟨d.1,λh=>(by first|omega|(simp at h;done)|(rcases h with h|h<;>cases h;done))⟩
  |skip
 all_goals
  refine aw (gI 8 t h) λy d=>?_
  have h1:=d.2.1;have h2:=d.2.2.1 (by omega);refine aJ h1 (by simp;omega) (aJ h1 (by simp;omega) (aT (aj ⟨d.1,λ_=>?_⟩)));have:∀z:Int,z∈([0,0,0,1,1,2,3,4]:η)->0<=z/\z<5:=by decide
  exact this _ (bZ (T:=aP) h1 (by simp;omega))
structure SZ (n:Nat) (s:SN):Prop where
 nb:NB n s
 c:l! s.2.1=5
 f:l! s.2.2.1=1
 k:l! s.2.2.2=4
def SZ.step {s y:SN} (h:SZ i s) (hp:SP i s y) (d:i+1<=100000):SZ (i+1) y:=
 ⟨hp.NB h.nb d,by rw[hp.c];exact h.c,by rw[hp.f];exact h.f,by rw[hp.k];exact h.k⟩
def Z7 (s:SN) (z:SZ i s) (k o:Int) (D:k=3->0<=o/\o<5) (t:n?) (h:TP t):Ok (rI ((s,k,o),t)) λy=>wC t y.2:=by
 obtain⟨s1,N,L,F⟩:=s;have hc:=z.c;have hf:=z.f;have hth:=z.nb.sb.th;dsimp only at hc hf hth;have A:=Wx s1 hth (N,L,F);unfold rI aY bn bR bY bc aH;cases kdI k
 case no hk _=>
  simp only[hk,aX,aU,lX];exact aj (wC.refl h)
 all_goals simp only[aX,aU,lX]
 all_goals first
  |exact aj (wC.refl h)
  |exact aw (gI 2 t h) λy d=>aj d.1
  |exact aw (gI 3 t h) λy d=>aj d.1
  |exact aw A λy d=>aj (wC.refl h)
  |exact aJ (by decide) (by omega) (aT (aj (wC.refl h)))
  |exact aJ (D rfl).1 (by have:=(D rfl).2;omega) (aT (aj (wC.refl h)))
  |skip
 refine aw A λl hl=>?_
 refine aW (λh1=>?_) λ_=>aj (wC.refl h)
 refine aw (gI _ t h) λy d=>?_
 dsimp only[ak]at h1;have h2:=d.2.2.1 (by dsimp only[ak];omega);exact aJ d.2.1 h2 (aT (aj d.1))
def ai9 (t:n?) (h:TP t) (r:η) (hr:l! r<=1000000):Ok (gR (t,r)) λy=>l! y.1<=l! r/\wC t y.2.1/\y.2.2=r:=by
 unfold gR aY bN bR jR bI jZ bc c7 aH cS;refine cC (l! r) (λi x=>x.1=(i:Int)/\wC t x.2.1/\x.2.2.1=r/\l! x.2.2.2<=i) ?_ ?_ ⟨rfl,wC.refl h,rfl,by simp⟩
 .rintro i ⟨a,b,c,d⟩ hi ⟨e1,e2,D,L⟩;dsimp only at e1 e2 D L;subst e1 D;refine aW (λF=>?_) λF=>(by dsimp only[ak]at F;omega)
  refine aV (λx=>wC t x.1/\x.2.1=c/\l! x.2.2<=i+1) ?_ ?_
  .refine eQ (eQ (aT ?_));refine aV (λx=>wC t x.2.1/\x.2.2=(c,d)) ?_ ?_
   .refine aM (λ_=>?_) λ_=>aj ⟨e2,rfl⟩
    exact aw (gI 2 b e2.p) λy N=>aj ⟨e2.trans N.1,rfl⟩
   .rintro⟨p,q,u⟩ ⟨z,A⟩;dsimp only at z A;subst A;refine aM (λ_=>?_) λ_=>aj ⟨z,rfl,by dsimp only;omega⟩
    exact a! (aj ⟨z,rfl,by simp;omega⟩)
  .rintro⟨p,q,u⟩ ⟨z,A,f3⟩;dsimp only at z A f3;subst A;refine aj ?_;dsimp only;exact⟨fA,z,rfl,f3⟩
 .rintro⟨a,b,c,d⟩ ⟨e1,e2,D,L⟩;dsimp only at e1 e2 D L;subst e1 D;refine aW (λF=>(by dsimp only[ak]at F;omega)) λ_=>aj ⟨L,e2,rfl⟩
def af0:uR ()=Z [3,3,3,3,3,4,4,4,4,4,5,5,5,6,6,6,7,7,7,8,9,10,11,12,13,14,14,15,16,16,17,17,18,18,19,20,1,1,2,21,22,23,23]:=rfl
abbrev RR:Type:=η×η×J!
structure RB4 (m:Nat) (r:RR):Prop where
 r0:l! r.1<=m
 r1:l! r.2.1<=m
 r2:l! r.2.2.1<=m
 r3:l! r.2.2.2<=m
def afz (s:SN) (hs:SZ i s) (w:WT) (hw:l! w.1=5) (t:n?) (h:TP t) (r:RR) (hr:RB4 1000000 r):Ok (rJ ((s,w),t,r)) λy=>wC t y.2.1/\y.2.2=r/\(t.2<l! t.1->t.2<y.2.1.2)/\l! y.1.2.2.2.2.2.1<=1000000/\l! y.1.2.2.2.2.2.2<=1000000:=by
 obtain⟨r0,r1,r2,r3⟩:=r;obtain⟨h0,h1,h2,h3⟩:=hr;dsimp only at h0 h1 h2 h3;unfold rJ jH ki kh aY bi bt b7 dc fx kl lA Prod.w Prod.z cY dN bn bI bY bc aH;refine aw (gI 4 t h) λy hy=>?_
 refine aQ af0 ?_;refine aw (gI _ y.2 hy.1.p) λz hz=>?_
 obtain⟨y1,yt⟩:=y;obtain⟨z1,zt⟩:=z;obtain⟨ty,yy0,yy1,yy2⟩:=hy;obtain⟨tz,zz0,zz1,_⟩:=hz;dsimp only at ty yy0 yy1 yy2 tz zz0 zz1;have yy1:=yy1 (by decide);have hzl:=zz1 (by decide);refine aJ zz0 hzl (aT ?_);generalize (geti _ _ z1)=k;refine aw (gI 6 zt tz.p) λv D=>?_
 obtain⟨v1,vt⟩:=v;have tv:=D.1;dsimp only at tv;have tt:=(ty.trans tz).trans tv;have hadv:t.2<l! t.1->t.2<vt.2:=λh=>by
  have:=yy2 h (by decide);have:=tz.m;have:=tv.m;omega
 refine aV (λx=>x.1=vt/\x.2.1=r0/\x.2.2.1=r1/\x.2.2.2.1=r2/\x.2.2.2.2.1=r3/\x.2.2.2.2.2.1=s/\x.2.2.2.2.2.2.1=w) ?_ ?_
 .refine aV (λx=>x.2.1=vt/\x.2.2.1=r0/\x.2.2.2.1=r1/\x.2.2.2.2.1=r2/\x.2.2.2.2.2.1=r3/\x.2.2.2.2.2.2.1=s/\x.2.2.2.2.2.2.2.1=w) ?_ ?_
  .with_reducible repeat' first|apply OS.ok;constructor|refine IM.mk λ_=>?_
   all_goals exact⟨rfl,rfl,rfl,rfl,rfl,rfl,rfl⟩
  .rintro⟨p,q⟩ hq;dsimp only at hq;with_reducible repeat' first|apply OS.ok;constructor|refine IM.mk λ_=>?_
   all_goals exact hq
 rintro⟨x1,x2,x3,x4,x5,x6,x7,x8,x9,x10⟩ ⟨F,f2,f3,f4,f5,f6,f7⟩;dsimp only at F f2 f3 f4 f5 f6 f7;subst F f2 f3 f4 f5 f6 f7;refine aw (aa8 _ _ _ tv.p) λo ho=>?_
 obtain⟨o1,ot⟩:=o;obtain⟨to,ho⟩:=ho;dsimp only at to ho;refine aw (Z7 _ hs _ _ (λN=>ho (.inl N)) _ to.p) λq hq=>?_
 obtain⟨q1,qt⟩:=q;dsimp only at hq;have L:=(tt.trans to).trans hq;have hadv2:t.2<l! t.1->t.2<qt.2:=λh=>by have:=hadv h;have:=to.m;have:=hq.m;omega
 have row:∀(T:n?) (c:η) {R:Type} (k:η×((η×Int)×η)->M R) (Q:R->Prop),wC t T->l! c<=1000000->(∀v T',wC T T'->l! v<=1000000->Ok (k (v,T',c)) Q)->Ok (ay (gR (T,c)) k) Q:=λT c R k Q A hc N=>by
  refine aw (ai9 T A.p c hc) λy hy=>?_
  obtain⟨a,b,d⟩:=y;obtain⟨g1,g2,g3⟩:=hy;dsimp only at g1 g2 g3;subst g3;exact N a b g2 (by omega)
 refine aV (λx=>wC t x.1/\(t.2<l! t.1->t.2<x.1.2)/\x.2.1=x2/\x.2.2.1=x3/\x.2.2.2.1=x4/\x.2.2.2.2.1=x5/\l! x.2.2.2.2.2.2.2.2.2.2.2<=1000000) ?_ ?_
 .refine aV (λx=>x.2.1=qt/\x.2.2.1=x2/\x.2.2.2.1=x3/\x.2.2.2.2.1=x4/\x.2.2.2.2.2.1=x5) ?_ ?_
  .refine aK (λ_=>aj ⟨rfl,rfl,rfl,rfl,rfl⟩) λ_=>?_
   refine aK (λN=>?_) λ_=>aK (λN=>?_) λ_=>aj ⟨rfl,rfl,rfl,rfl,rfl⟩
   .exact aJ (ho (.inl N)).1 (by dsimp only;rw[hw];exact (ho (.inl N)).2) (aT (aj ⟨rfl,rfl,rfl,rfl,rfl⟩))
   .exact aJ (ho (.inr N)).1 (by dsimp only;rw[hw];exact (ho (.inr N)).2) (aT (aj ⟨rfl,rfl,rfl,rfl,rfl⟩))
  .rintro⟨b,p1,p2,p3,p4,p5,p6⟩ ⟨F,f2,f3,f4,f5⟩;dsimp only at F f2 f3 f4 f5;subst F f2 f3 f4 f5;refine aM (λ_=>?_) λ_=>aj ⟨L,hadv2,rfl,rfl,rfl,rfl,by simp⟩
   have adv3:∀T',wC p1 T'->t.2<l! t.1->t.2<T'.2:=λT' A h=>by have:=hadv2 h;have:=A.m;omega
   refine aK (λ_=>?_) λ_=>aK (λ_=>?_) λ_=>aK (λ_=>?_) λ_=>aK (λ_=>?_) λ_=>?_
   .refine row p1 p2 _ _ L h0 λv T' A D=>?_
    refine c6 (mP rfl (CY ?_));exact aj ⟨L.trans A,adv3 T' A,rfl,rfl,rfl,rfl,D⟩
   .refine row p1 p3 _ _ L h1 λv T' A D=>?_
    refine c6 (mP rfl (CY ?_));exact aj ⟨L.trans A,adv3 T' A,rfl,rfl,rfl,rfl,D⟩
   .refine row p1 p4 _ _ L h2 λv T' A D=>?_
    refine c6 (mP rfl (CY ?_));exact aj ⟨L.trans A,adv3 T' A,rfl,rfl,rfl,rfl,D⟩
   .refine row p1 p5 _ _ L h3 λv T' A D=>?_
    refine c6 (mP rfl (CY ?_));exact aj ⟨L.trans A,adv3 T' A,rfl,rfl,rfl,rfl,D⟩
   .omega
 rintro⟨u1,u2,u3,u4,u5,u6,u7,u8,u9,u10,u11,u12⟩ ⟨F,f2,f3,f4,f5,f6,f7⟩;dsimp only at F f2 f3 f4 f5 f6 f7;subst f3 f4 f5 f6;refine aV (λx=>wC t x.1/\(t.2<l! t.1->t.2<x.1.2)/\x.2.1=u2/\x.2.2.1=u3/\x.2.2.2.1=u4/\x.2.2.2.2.1=u5/\l! x.2.2.2.2.2.2.2.2.2.2.2.1<=1000000/\l! x.2.2.2.2.2.2.2.2.2.2.2.2<=1000000) ?_ ?_
 .refine aV (λx=>x.2=(u1,u2,u3,u4,u5,u6,u7,u8,u9,u10,u11,u12)) ?_ ?_
  .with_reducible repeat' first|apply OS.ok;constructor|refine IM.mk λ_=>?_
   all_goals rfl
  .rintro⟨b,x⟩ e;dsimp only at e;subst e;refine aM (λ_=>?_) λ_=>aj ⟨F,f2,rfl,rfl,rfl,rfl,f7,by simp⟩
   have adv3:∀T',wC u1 T'->t.2<l! t.1->t.2<T'.2:=λT' A h=>by have:=f2 h;have:=A.m;omega
   refine aK (λ_=>?_) λ_=>aK (λ_=>?_) λ_=>aK (λ_=>?_) λ_=>aK (λ_=>?_) λ_=>?_
   .refine row u1 u2 _ _ F h0 λv T' A D=>?_
    refine c6 (mP rfl (CY ?_));exact aj ⟨F.trans A,adv3 T' A,rfl,rfl,rfl,rfl,f7,D⟩
   .refine row u1 u3 _ _ F h1 λv T' A D=>?_
    refine c6 (mP rfl (CY ?_));exact aj ⟨F.trans A,adv3 T' A,rfl,rfl,rfl,rfl,f7,D⟩
   .refine row u1 u4 _ _ F h2 λv T' A D=>?_
    refine c6 (mP rfl (CY ?_));exact aj ⟨F.trans A,adv3 T' A,rfl,rfl,rfl,rfl,f7,D⟩
   .refine row u1 u5 _ _ F h3 λv T' A D=>?_
    refine c6 (mP rfl (CY ?_));exact aj ⟨F.trans A,adv3 T' A,rfl,rfl,rfl,rfl,f7,D⟩
   .omega
 rintro⟨a1,a2,a3,a4,a5,a6,a7⟩ ⟨g1,g2,g3,g4,g5,g6,g7,g8⟩;dsimp only at g1 g2 g3 g4 g5 g6 g7 g8;subst g3 g4 g5 g6;exact aj ⟨g1,rfl,g2,g7,g8⟩
def YK (e:ET):Prop:=l! e.2.2.2.2.2.1<=1000000/\l! e.2.2.2.2.2.2<=1000000
def aio (hm:i<=1000) (s:SN) (hs:SZ i s) (w:WT) (hw:l! w.1=5) (hwt:l! w.2.2.2.2.1=4) (hwc:l! w.2.2.1<=1000) (n:Int) (hn:n<=60) (t:n?) (h:TP t):Ok (tL ((s,w,n,aa),t)) λy=>(∀e∈y.1,YK e)/\l! y.1<=60:=by
 unfold tL aY bi bt b7 dc fx kl lA Prod.y bN cY dN iX s9 Prod.t bn bR bI bY bc c7 aH;refine c6 (c6 (c6 (dm (by dsimp only[ak];omega) (dm (eE _) (a_ (by dsimp only[ak];omega) (by omega) (QY (by dsimp only[ak];omega) ?_))))));refine aV (λx=>x=(t,s,w,[],[],[],[])) ⟨_,rfl,rfl⟩ ?_;rintro x rfl;refine nL (λx=>((l! t.1:Int)-x.1.2).toNat) (λx=>wC t x.1/\x.2.2.1=w/\SZ (i+l! x.2.2.2.1) x.2.1/\l! x.2.2.2.1<=60/\(∀e∈x.2.2.2.1,YK e)/\RB4 (l! x.2.2.2.1) x.2.2.2.2) ?_ ⟨wC.refl h,rfl,(by simpa using hs),by simp,λe he=>(by cases he),⟨by simp,by simp,by simp,by simp⟩⟩;rintro⟨d,s,w',out,r⟩ ⟨i1,i2,F,i4,N,i6⟩;dsimp only at i1 i2 F i4 N i6;subst i2;refine aV (λx=>x.2=(d,s,w',out,r)/\(x.1=J->l! out<60/\d.2<l! d.1)) ?_ ?_
 .refine aW (λh1=>aj ⟨rfl,λh2=>?_⟩) λ_=>aj ⟨rfl,nofun⟩
  rw[mV]at h2;dsimp only[ak]at h1 h2;exact⟨by omega,h2⟩
 rintro⟨b,x⟩ ⟨e,hb⟩;dsimp only at e hb;subst e;refine aM (λh1=>?_) λ_=>aj ⟨N,i4⟩
 obtain⟨ho,ht⟩:=hb h1;obtain⟨q0,q1,q2,q3⟩:=id i6;refine aV (λx=>wC d x.1/\d.2<x.1.2/\x.2.2.1=w'/\SZ (i+l! x.2.2.2.1) x.2.1/\l! x.2.2.2.1<=60/\(∀e∈x.2.2.2.1,YK e)/\RB4 (l! x.2.2.2.1) x.2.2.2.2) ?_ ?_
 .refine aw (afz s F w' hw d i1.p r ⟨by omega,by omega,by omega,by omega⟩) λy hy=>?_
  obtain⟨ev,tp',r'⟩:=y;obtain⟨j1,j2,L,D,A⟩:=hy;dsimp only at j1 j2 L D A;subst j2;have L:=L ht;refine c6 (mP rfl (c6 (mP rfl (c6 (mP rfl (c6 (mP rfl (CY ?_))))))));refine aw (Cn w' s F.nb hwc ev (.inl (by omega)) (.inl (by omega))) λz hz=>?_
  refine di (λ_=>aj ⟨j1,L,rfl,F,i4,N,i6⟩) λh2=>?_
  obtain⟨z1,z2⟩:=z;obtain⟨hE,hS,_⟩:=hz.1 h2;have hS2:=F.step hS (by omega);refine aV (λx=>x.1=tp'/\x.2.2.1=w'/\x.2.2.2.1=out/\YK x.2.2.2.2.1/\x.2.2.2.2.2.1=z1/\RB4 (l! out+1) x.2.2.2.2.2.2) ?_ ?_
  .refine aV (λx=>x.2=(tp',s,w',out,ev,z1,r')) ?_ ?_
   .refine aK (λ_=>aj rfl) λ_=>aj rfl
   .rintro⟨b,x⟩ e;dsimp only at e;subst e;have hk:=F.k;obtain⟨ev1,ev2⟩:=ev;have t0:=hE.t0;have t1:=hE.t1;rw[hwt]at t1;dsimp only at t0 t1;refine aM (λ_=>?_) λ_=>aj ⟨rfl,rfl,rfl,⟨D,A⟩,rfl,⟨by dsimp only;omega,by dsimp only;omega,by dsimp only;omega,by dsimp only;omega⟩⟩
    refine aK (λ_=>?_) λ_=>aK (λ_=>?_) λ_=>aK (λ_=>?_) λ_=>aK (λ_=>?_) λ_=>?_
    .exact aJ (by decide) (by dsimp only;omega) (aT (a! (aj ⟨rfl,rfl,rfl,⟨D,A⟩,rfl,⟨by simp;omega,by dsimp only;omega,by dsimp only;omega,by dsimp only;omega⟩⟩)))
    .exact aJ (by decide) (by dsimp only;omega) (aT (a! (aj ⟨rfl,rfl,rfl,⟨D,A⟩,rfl,⟨by dsimp only;omega,by simp;omega,by dsimp only;omega,by dsimp only;omega⟩⟩)))
    .exact aJ (by decide) (by dsimp only;omega) (aT (a! (aj ⟨rfl,rfl,rfl,⟨D,A⟩,rfl,⟨by dsimp only;omega,by dsimp only;omega,by simp;omega,by dsimp only;omega⟩⟩)))
    .exact aJ (by decide) (by dsimp only;omega) (aT (a! (aj ⟨rfl,rfl,rfl,⟨D,A⟩,rfl,⟨by dsimp only;omega,by dsimp only;omega,by dsimp only;omega,by simp;omega⟩⟩)))
    .dsimp only at *;omega
  .rintro⟨x1,x2,x3,x4,x5,x6,x7⟩ ⟨k1,k2,k3,k4,k5,k6⟩;dsimp only at k1 k2 k3 k4 k5 k6;subst k1 k2 k3 k5;refine a! (aj ⟨j1,L,rfl,?_,by simp;omega,λe he=>?_,?_⟩)
   .dsimp only;rw[bG,bP,<-ud];exact hS2
   .rcases bE.1 he with he|he
    .exact N e he
    .rw[aE]at he;subst he;exact k4
   .dsimp only;rw[bG,bP];exact k6
 rintro⟨tp',s',w'',out',r'⟩ ⟨k1,k2,k3,k4,k5,k6,k7⟩;dsimp only at k1 k2 k3 k4 k5 k6 k7;have e1:=i1.e;have a1:=k1.p.a1;have e2:=k1.e;refine aj ⟨⟨i1.trans k1,k3,k4,k5,k6,k7⟩,?_⟩;dsimp only;rw[e2,e1]at a1;omega
structure W0 (w:WT):Prop where
 c:l! w.1=5
 l:l! w.2.1=3
 d:l! w.2.2.1=1
 f:l! w.2.2.2.1=1
 t:l! w.2.2.2.2.1=4
 s:l! w.2.2.2.2.2<=24
def W0.vl (h:W0 B):VL B:=⟨by rw[h.c];decide,by rw[h.l];decide,by rw[h.d];decide,by rw[h.f];decide,by rw[h.t];decide,by rw[h.t];decide,by have:=h.s;omega⟩
def VX:Ok (oU ()) W0:=by
 unfold oU aY bi bt b7 dN bR bI c7 aH cS;refine cC 4 (λi x=>x.1=(i:Int)/\l! x.2.1=5/\l! x.2.2.1=3/\l! x.2.2.2.1=1/\l! x.2.2.2.2.1=1/\l! x.2.2.2.2.2.1=4/\l! x.2.2.2.2.2.2<=6*i) ?_ ?_ ⟨rfl,rfl,rfl,rfl,rfl,rfl,by simp⟩
 .rintro i ⟨a,w1,w2,w3,w4,w5,w6⟩ hi ⟨e1,e2,D,A,z,d,e7⟩;dsimp only at e1 e2 D A z d e7;subst e1;refine aW (λ_=>?_) λg=>(by dsimp only[ak]at g;simp at g;omega)
  refine cC 6 (λj x=>x.1=(j:Int)/\x.2.1=w1/\x.2.2.1=w2/\x.2.2.2.1=w3/\x.2.2.2.2.1=w4/\x.2.2.2.2.2.1=w5/\l! x.2.2.2.2.2.2<=6*i+j) ?_ ?_ ⟨rfl,rfl,rfl,rfl,rfl,rfl,by dsimp only;omega⟩
  .rintro j ⟨b,v1,v2,v3,v4,v5,v6⟩ hj ⟨d1,d2,d3,N,L,F,d7⟩;dsimp only at d1 d2 d3 N L F d7;subst d1;refine aW (λ_=>?_) λg=>(by dsimp only at g;omega)
   refine a! (aj ?_);dsimp only;exact⟨fA,d2,d3,N,L,F,by simp;omega⟩
  .rintro⟨b,v1,v2,v3,v4,v5,v6⟩ ⟨d1,d2,d3,N,L,F,d7⟩;dsimp only at d1 d2 d3 N L F d7;subst d1 d2 d3 N L F;refine aW (λg=>(by dsimp only at g;omega)) λ_=>aj ?_
   dsimp only;exact⟨fA,e2,D,A,z,d,by omega⟩
 .rintro⟨a,w1,w2,w3,w4,w5,w6⟩ ⟨e1,e2,D,A,z,d,e7⟩;dsimp only at e1 e2 D A z d e7;subst e1;refine aW (λg=>(by dsimp only[ak]at g;simp at g)) λ_=>aj ?_
  exact⟨e2,D,A,z,d,by omega⟩
def SZ.mono {s:SN} (h:SZ i s) (hnm:i<=j) (hm:j<=100000):SZ j s:=
 ⟨⟨⟨hm,h.nb.sb.lk,λl d=>c9 (h.nb.sb.rd l d) hnm,h.nb.sb.dn,h.nb.sb.th⟩,h.nb.c,h.nb.f,h.nb.k⟩,h.c,h.f,h.k⟩
def Yy (w:WT) (d:W0 w):Ok (oh w) λs=>SZ 0 s:=by
 refine (Yz w d.vl).mono λs z=>⟨z.1,?_,?_,?_⟩
 .rw[z.2.1,d.c]
 .rw[z.2.2.1,d.f]
 .rw[z.2.2.2,d.t]
structure WB (w:WT):Prop where
 c:l! w.1<=12
 l:l! w.2.1<=4
 d:l! w.2.2.1<=2
 f:l! w.2.2.2.1<=2
 t:l! w.2.2.2.2.1<=4
 s:l! w.2.2.2.2.2<=60
def VL.wb (h:VL B):WB B:=⟨h.c,h.l,h.d,h.f,h.t,h.s⟩
structure TR (y:WT×List ET):Prop where
 len:l! y.2<=100000
 ls:∀e∈y.2,YK e
def KM (L:η) (n:Int) (hl:l! L<=9223372036854775807) (hb:∀x∈L,0<=x/\x<=255):Ok (rK (L,n)) TR:=by
 unfold rK aY bi bt cW cY bR jR iK bI jZ bc c7 aH cS;refine aV (λx=>l! x<=600/\∀z∈x,0<=z/\z<=255) ?_ ?_
 .refine aW (λg=>?_) λg=>?_
  .dsimp only[ak]at g;refine c6 (a? (a? (aj ⟨by dsimp only;rw[cv];simp;omega,λz A=>hb z (il A)⟩)))
  .dsimp only[ak]at g;exact aj ⟨by dsimp only;omega,hb⟩
 rintro L' ⟨hL,hB⟩;refine aw VX λw F=>?_
 have hvl:=F.vl;refine aw (Yy w F) λs hs=>?_
 refine aw (gI 3 (L',0) ⟨by dsimp only;omega,hB,by dsimp only;omega,by dsimp only;omega⟩) λy hy=>?_
 obtain⟨y1,yt⟩:=y;obtain⟨ty,yy0,yy1,_⟩:=hy;have yy1:=yy1 (by decide);dsimp only at ty yy0 yy1;have ew:be .i64 (1+y1)=1+y1:=ic;refine nL (λx=>(1+y1+1-x.1).toNat) (λx=>1<=x.1/\x.1<=2+y1/\x.2.1=yt/\x.2.2.1=w/\x.2.2.2.1=s/\((l! x.2.2.2.2:Nat):Int)<=2*x.1/\∀e∈x.2.2.2.2,YK e) ?_ ⟨by dsimp only;omega,by dsimp only;omega,rfl,rfl,rfl,by simp,λe he=>?_⟩
 .rintro⟨a,t,w',s',es⟩ ⟨e1,e2,e3,e4,e5,e6,e7⟩;dsimp only at e1 e2 e3 e4 e5 e6 e7;subst e3 e4 e5;refine dW (λg=>?_) λg=>?_
  .dsimp only at g;rw[ew]at g;refine a! (aj ?_);dsimp only;rw[ic (n:=a+1) (by omega) (by omega)];refine ⟨⟨by omega,by omega,rfl,rfl,rfl,by simp;omega,λe he=>?_⟩,by omega⟩;rcases bE.1 he with he|he
   .exact e7 e he
   .simp only[bm,cI,gy]at he;rcases he with he|he<;>subst he<;>exact⟨by simp,by simp⟩
  .refine aw (P:=TR) ?_ λr hr=>aj hr
   refine cC (l! es) (λi x=>x.1=(i:Int)/\TP x.2.1/\x.2.2.1=w'/\SZ i x.2.2.2.1/\x.2.2.2.2.1=es/\l! x.2.2.2.2.2<=i/\∀e∈x.2.2.2.2.2,YK e) ?_ ?_ ⟨rfl,ty.p,rfl,hs,rfl,by simp,λe he=>(by cases he)⟩
   .rintro i ⟨b,t,w',s',es',out⟩ hi ⟨d1,d2,d3,D,d5,d6,N⟩;dsimp only at d1 d2 d3 D d5 d6 N;subst d1 d3 d5;refine aW (λ_=>?_) λg=>(by dsimp only[ak]at g;omega)
    refine aV (λx=>TP x.1/\x.2.1=w'/\SZ (i+1) x.2.2.1/\x.2.2.2.1=es'/\l! x.2.2.2.2<=i+1/\∀e∈x.2.2.2.2,YK e) ?_ ?_
    .refine eQ (eQ (aT ?_));have A:=e7 _ (bZ (T:=.st (.pr (.int .i64) (.pr (.int .i64) (.pr (.int .i64) (.pr (.int .i64) (.pr (.int .i64) (.pr (.sl (.int .i64)) (.sl (.int .i64))))))))) (xs:=es') (j:=(i:Int)) (by omega) (by omega));revert A;generalize (geti _ _ _)=z;intro A;refine aw (Cn w' s' D.nb (by rw[F.d];decide) z (.inl (by have:=A.1;omega)) (.inl (by have:=A.2;omega))) λv hv=>?_
     refine aM (λh=>?_) λh=>aj ⟨d2,rfl,D.mono (by omega) (by omega),rfl,by dsimp only;omega,N⟩
     refine a! (aj ⟨d2,rfl,D.step (hv.1 h).2.1 (by omega),rfl,by simp;omega,λe he=>?_⟩);rcases bE.1 he with he|he
     .exact N e he
     .rw[aE]at he;subst he;exact A
    .rintro⟨t,w'',s'',es'',out'⟩ ⟨f1,f2,f3,f4,f5,f6⟩;dsimp only at f1 f2 f3 f4 f5 f6;refine aj ?_;dsimp only;exact⟨fA,f1,f2,f3,f4,f5,f6⟩
   .rintro⟨b,t,w',s',es',out⟩ ⟨d1,d2,d3,D,d5,d6,N⟩;dsimp only at d1 d2 d3 D d5 d6 N;subst d1 d3 d5;refine aW (λg=>(by dsimp only[ak]at g;omega)) λ_=>?_
    refine aw (P:=TR) ?_ λr hr=>aj hr
    have hmin:Jb (oI n 0) 60<=60:=by
     unfold Jb;split
     .omega
     .rename_i h;simp[fM]at h;exact h
    refine aw (aio (by omega) s' D w' F.c F.t (by rw[F.d];decide) _ hmin t d2) λv hv=>?_
    refine a_ (by have:=hv.2;dsimp only;omega) (by omega) ?_;have hall:∀e∈out++v.1,YK e:=λe he=>by
     rcases bE.1 he with he|he
     .exact N e he
     .exact hv.1 e he
    refine aw (ahj w' (out++v.1)) λc hc=>?_
    refine cj (λ_=>?_) λh=>?_
    .exact aw VX λu _=>aj ⟨by simp,λe he=>(by cases he)⟩
    .exact aj ⟨by have:=hv.2;simp;omega,hall⟩
 .rw[aE]at he;subst he;exact⟨by simp,by simp⟩
def abs (r:θ) (e:ET) (h1:∀y∈e.2.2.2.2.2.1,0<=y/\r.getD y.toNat aa=J) (h2:∀y∈e.2.2.2.2.2.2,0<=y/\r.getD y.toNat aa=J) (A:l! e.2.2.2.2.2.1<=1000000) (d:l! e.2.2.2.2.2.2<=1000000):ch (r,e)=Z J:=by
 refine cf ?_;unfold ch jD dc iX bR jR bI bY bc c7 aH cS;refine dO 2 (by omega) (λi x=>x=(i:Int)) ?_ ?_ rfl
 .rintro i x hi rfl;refine aW (λ_=>?_) λg=>(by omega)
  refine c6 (a? (te (by omega) (aT ?_)));have D:∃l:η,geti (.sl (.int .i64)) [e.2.2.2.2.2.1,e.2.2.2.2.2.2] (i:Int)=l/\(∀y∈l,0<=y/\r.getD y.toNat aa=J)/\l! l<=1000000:=by
   match i,hi with
   |0,_=>exact⟨_,rfl,h1,A⟩
   |1,_=>exact⟨_,rfl,h2,d⟩
  obtain⟨l,F,hA,N⟩:=D;have er':geti (.sl aP) [e.2.2.2.2.2.1,e.2.2.2.2.2.2] (i:Int)=l:=F;dsimp only at er' ⊢;rw[er'];refine dO (l! l) (by omega) (λj x=>x=(j:Int)) ?_ ?_ rfl
  .rintro j x hj rfl;refine gQ ?_;have m:=hA _ (bZ (T:=aP) (xs:=l) (j:=(j:Int)) (by omega) (by omega));refine eQ (aT (aV (λx=>x=aa) ?_ ?_))
   .revert m;generalize geti aP l (j:Int)=z;intro m;have L:z.toNat<l! r:=by
     rcases bu z.toNat (l! r) with g|g
     .exact g
     .have:=m.2;rw[aB,bK g]at this;cases this
    refine aW (λg=>(by have:=m.1;omega)) λ_=>dW (λg=>(by have:=m.1;dsimp only[ak]at g;omega)) λ_=>aJ m.1 (by have:=m.1;omega) (aT (aj ?_))
    have:geti (.bool) r z=J:=m.2;show (!geti (.bool) r z)=aa;rw[this];rfl
   rintro x rfl;exact hX (aj fA)
  .rintro x rfl;exact gC (aj fA)
 .rintro x rfl;exact aW (λg=>(by omega)) λ_=>aj rfl
abbrev eN (l:Y ET) (i:Nat):ET:=geti gx l (i:Int)
def XO (h:i<l! Q):eN Q i∈Q:=bZ (T:=gx) (by omega) (by omega)
def anb (h:i<l! Q):eN (Q++[e]) i=eN Q i:=by
 unfold eN;rw[Oy,Oy,aB,aB,bz h]
def ajx (l:Y ET) (e:ET):eN (l++[e]) (l! l)=e:=by
 unfold eN;rw[Oy,aB,bU (cA _),s_];rfl
def acS (w:WT) (l:Y ET):SY×J!:=l.foldl (λs e=>((yz w s.1 e.1 e.2.1 e.2.2.1 e.2.2.2.1).1,ceP s.2.1 e,fuP s.2.2 e)) (NZ w,ce0 w,fu0 w)
def Ky.all {d:SY} {z:η} (h:Ky B Q d A z):acS B Q=(d,A,z)/\∀i,i<l! Q->Wr B (Q.take i) (acS B (Q.take i)).1 (acS B (Q.take i)).2.1 (acS B (Q.take i)).2.2 (eN Q i):=by
 induction h with
 |nil=>exact⟨rfl,λi hi=>cN hi (ll _)⟩
 |snoc h F D=>
  rename_i Q d A z e;obtain⟨h1,h2⟩:=D;refine ⟨by unfold acS at h1 ⊢;rw[gW,h1];rfl,λi hi=>?_⟩;rw[bG,bP]at hi;rcases bu i (l! Q) with g|g
  .rw[iY (by omega),anb g];exact h2 i g
  .have:i=l! Q:=by omega
   subst this;rw[iY (cA _),bW,ajx,h1];exact F
def Q8 (r:η):Prop:=AL r/\∀z∈r,0<=z/\z<4
def P8 (s:Y i?):Prop:=∀x∈s,Q8 x.2
def P8.get {s:Y i?} (h:P8 s) (o:Int):Q8 (geti dF s o).2:=by
 unfold geti;rw[aB];cases e:s[o.toNat]? with
 |none=>exact⟨trivial,λz d=>by cases d⟩
 |some x=>exact h x (bf e)
def P8.set {s:Y i?} (h:P8 s) (o a:Int) (z:Q8 A):P8 (cJ s o (a,A)):=λx d=>by
 rcases Eu d with d|rfl
 .exact h x d
 .exact z
def D9 (p:Int->Bool):∀{l:η},AL l->AL (l.filter p)
 |[],_=>trivial
 |x::r,h=>by
  rw[List.filter_cons];split
  .exact⟨λy d=>h.1 y ((HE.1 d).1),D9 p h.2⟩
  .exact D9 p h.2
def P8.ite {c:Prop} [Decidable c] {a b:SY×Int} (z:P8 a.1.1) (d:P8 b.1.1):P8 (if c then a else b).1.1:=by by_cases h:c<;>simp[h,z,d]
def P8.ap {s:SY} (h:P8 s.1) (k o v:Int) (D:0<=a) (A:a<4):P8 (yz B s a k o v).1.1:=by
 have ow:∀t b,P8 (owP s.1 t b):=λt b=>h.set t b (h.get t)
 have un:P8 (rdP s.1 o (sA (geti dF s.1 o).2 [a])):=h.set _ _ ⟨SL _ _,λz d=>by
  rcases SK.1 d with d|d
  .exact (h.get o).2 z d
  .rw[aE]at d;subst d;exact⟨D,A⟩⟩
 have wt:P8 (rdP s.1 o (wo (geti dF s.1 o).2 a)):=h.set _ _ ⟨D9 _ (h.get o).1,λz d=>(h.get o).2 z (HE.1 d).1⟩;unfold yz;exact P8.ite h (P8.ite h (P8.ite (ow _ _) (P8.ite (ow _ _) (P8.ite un (P8.ite wt (P8.ite h (P8.ite h (P8.ite h (P8.ite h (P8.ite (ow _ _) (P8.ite (ow _ _) (P8.ite (P8.ite h h) (P8.ite h (P8.ite h (P8.ite h h)))))))))))))))
def gB (w:WT) (l:Y ET):SN:=l.foldl (Wo w) (sn8 w)
def Pm (w:WT) (l:Y ET) (e:ET):gB w (l++[e])=Wo w (gB w l) e:=by unfold gB;rw[gW];rfl
structure KGs (w:WT) (l:List ET) (sy:SY) (ce fu:η) (s:SN):Prop where
 a:s.1=sy/\s.2.1=ce/\s.2.2.1=fu
 r:P8 s.1.1
 lk:l! s.1.1=l! w.2.1
 d:l! s.1.2.2.1=l! w.2.2.2.1
 h:l! s.1.2.2.2=l! w.2.2.2.2.1
 c:l! s.2.1=l! w.1
 f:l! s.2.2.1=l! w.2.2.2.1
 k:l! s.2.2.2=l! w.2.2.2.2.1
 n:CN l s.2.2.2
def agm (w:WT) (s:SY) (t k o v:Int):(yz w s t k o v).1.1.length=l! s.1/\(yz w s t k o v).1.2.2.1.length=l! s.2.2.1/\(yz w s t k o v).1.2.2.2.length=l! s.2.2.2:=by
 have st:∀(th:Y d?) (a b:Int),l! (NT th a b)=l! th:=λth a b=>by unfold NT;exact cR _ _ _
 have d:∀(l:η) (th:Y d?),l! (St th l)=l! th:=by
  intro l;induction l with
  |nil=>intro th;rfl
  |cons x r z=>intro th;show (l! (St (NT th x 4) r))=_;rw[z,st]
 have ite:∀{c:Prop} [Decidable c] {a b:SY×Int},(l! a.1.1=l! s.1/\l! a.1.2.2.1=l! s.2.2.1/\l! a.1.2.2.2=l! s.2.2.2)->(l! b.1.1=l! s.1/\l! b.1.2.2.1=l! s.2.2.1/\l! b.1.2.2.2=l! s.2.2.2)->((if c then a else b).1.1.length=l! s.1/\(if c then a else b).1.2.2.1.length=l! s.2.2.1/\(if c then a else b).1.2.2.2.length=l! s.2.2.2):=λ{c} _ {a b} D A=>by by_cases h:c<;>simp only[h,bw,c8]<;>assumption
 unfold yz;repeat (first|refine ite ?_ ?_|(refine ⟨?_,?_,?_⟩<;>simp only[st,d,owP,rdP,cdP,atP,cR]))
def Ky.kg (vl:VL B):∀{l:Y ET} {d:SY} {D A:η},Ky B l d D A->l! l<=400->KGs B l d D A (gB B l):=by
 intro l d D A h;induction h with
 |nil=>
  intro _;have F:(NZ B).2.2.2.length=l! B.2.2.2.2.1:=QK _;refine ⟨⟨rfl,rfl,rfl⟩,λx hx=>?_,by simp[gB,NZ],by simp[gB,NZ],F,by simp[gB,ce0],by simp[gB,fu0],by simp[gB],λt t0 t1=>?_⟩
  .rw[List.eq_of_mem_replicate hx];exact⟨trivial,λz N=>by cases N⟩
  .have:(aF (l! B.2.2.2.2.1) (0:Int)).getD t.toNat 0=0:=by rw[aB,fJ];split<;>rfl
   exact this
 |@snoc l d D A e h hs L=>
  intro hl;rw[bG]at hl;obtain⟨⟨a1,a2,a3⟩,r,q1,q2,q3,c,f,k,n⟩:=L (by omega);have ht:=vl.t;have en:=hs.en;have e1:=en.t1;obtain⟨b1,b2,b3⟩:=agm B (gB B l).1 e.1 e.2.1 e.2.2.1 e.2.2.2.1;rw[Pm];refine ⟨⟨by unfold Wo;rw[a1],by unfold Wo;rw[a2],by unfold Wo;rw[a3]⟩,r.ap _ _ _ en.t0 (by omega),b1.trans q1,b2.trans q2,b3.trans q3,?_,?_,?_,?_⟩
  .unfold Wo ceP;dsimp only;split
   .rw[cR];exact c
   .exact c
  .unfold Wo fuP;dsimp only;split
   .rw[cR];exact f
   .exact f
  .unfold Wo;rw[cR];exact k
  .exact n.next e en.t0 (by rw[k];exact e1) (by omega)
def KGs.nb {z:SY} {D:η} {s:SN} (h:KGs B Q z D A s) (vl:VL B):NB 4 s:=by
 obtain⟨_,r,q1,q2,q3,c,f,k,_⟩:=h;have:=vl.c;have:=vl.l;have:=vl.f;have:=vl.t;refine ⟨⟨by omega,by omega,λx d=>?_,by omega,by omega⟩,by omega,by omega,by omega⟩;have:=Ku x.2 0 4 (r x d).1 (r x d).2;omega
def KGs.f16 {d:SY} {z:η} {s:SN} (h:KGs B Q d A z s):Wb B s:=⟨h.c,h.f,h.k⟩
def KGs.cb {d:SY} {z:η} {s:SN} (h:KGs B Q d A z s) (D:l! Q<=400) (t:Int):(geti aP s.2.2.2 t:Int)<=1000:=fk (h.n.bd t) (by omega)
def Wr.s16 {d:SY} {D:η} {s:SN} (g:KGs B Q d D A s) (h:Wr B Q d D A e):S16 B s e:=by
 obtain⟨⟨F,N,L⟩,_,_,_,_,_,_,k,n⟩:=g;have z:=n e.1 h.en.t0 (by rw[k];exact h.en.t1);exact⟨by rw[F];exact h.rd,h.s1,h.s2,h.de,h.fr,by rw[z];exact h.nd,by rw[z];exact h.nf,by rw[F,N,L];exact h.va⟩
def S16.scx {z:SY} {D:η} {s:SN} (g:KGs B Q z A D s) (en:EN B s.1 e.1 e.2.1 e.2.2.1) (h:S16 B s e) (r1:∀y∈e.2.2.2.2.2.1,Eb Q e.1 y) (r2:∀y∈e.2.2.2.2.2.2,Eb Q e.1 y):Wr B Q z A D e:=by
 obtain⟨⟨d,N,L⟩,_,_,_,_,_,_,k,n⟩:=g;have F:=n e.1 en.t0 (by rw[k];exact en.t1);exact⟨by rw[<- d];exact en,by rw[<- d];exact h.rd,h.s1,h.s2,h.de,h.fr,by rw[<- F];exact h.nd,by rw[<- F];exact h.nf,r1,r2,by rw[<- d,<-N,<-L];exact h.va⟩
structure Cm (y:WT×List ET):Prop where
 vw:NK y.1
 len:l! y.2<=400
 ac:∃sy ce fu,Ky y.1 y.2 sy ce fu
abbrev R?:=WT×Y ET
def Cm.vl {y:R?} (h:Cm y):VL y.1:=h.vw.v
def Cm.wb {y:R?} (h:Cm y):WB y.1:=h.vw.v.wb
def Cm.sc (d:Cm (B,Q)) (h:i<l! Q):Wr B (Q.take i) (acS B (Q.take i)).1 (acS B (Q.take i)).2.1 (acS B (Q.take i)).2.2 (eN Q i):=by
 obtain⟨A,F,D,z⟩:=d.ac;exact z.all.2 i h
def aet (h:e∈Q):∃i,i<l! Q/\eN Q i=e:=by
 obtain⟨i,hi,he⟩:=xB h;refine ⟨i,hi,?_⟩;show geti gx Q (i:Int)=e;rw[Oy,aB,aD hi];exact he
def Cm.ev {y:R?} (h:Cm y):∀e∈y.2,Sy y.1 e:=λe he=>by
 obtain⟨w,l⟩:=y;obtain⟨i,hi,rfl⟩:=aet he;have en:=(h.sc hi).en;exact⟨en.nm,en.t0,en.t1,en.cd⟩
def Cm.ls {y:R?} (h:Cm y):∀e∈y.2,YK e:=λe he=>by
 obtain⟨w,l⟩:=y;obtain⟨i,hi,rfl⟩:=aet he;have sc:=h.sc hi;have d:l! l<=400:=h.len;have h1:=sc.nd.len;have h2:=sc.nf.len;have A:=Fj (l.take i) (eN l i).1;have z:=gK i l;dsimp only at hi ⊢;exact⟨by omega,by omega⟩
def Ky.det {d:SY} {z:η} (h:Ky B Q d A z) (hi:i<l! Q) {sy':SY} {ce' fu':η} (h':Ky B (Q.take i) sy' ce' fu'):Wr B (Q.take i) sy' ce' fu' (eN Q i):=by
 have h1:=h.all.2 i hi;rw[h'.all.1]at h1;exact h1
def Cm.no (hi:i<l! Q) {d:SY} {z:η} (D:Ky B (Q.take i) d A z) (h:¬Wr B (Q.take i) d A z (eN Q i)):¬Cm (B,Q):=λg=>by
 obtain⟨_,_,_,g⟩:=g.ac;exact h (g.det hi D)
abbrev fN (l:Y ET) (i:Nat) (t:Int):θ:=fl (l.take i) t
def RA (h:i<l! Q) {t:Int} (e:(eN Q i).1=t):fN Q (i+1) t=fN Q i t++[uP (eN Q i)]:=by
 unfold fN;rw[sE (T:=gx) h,Bo,G7 e]
def RB (h:i<l! Q) {t:Int} (e:¬(eN Q i).1=t):fN Q (i+1) t=fN Q i t:=by
 unfold fN;rw[sE (T:=gx) h,Bo,Bn e,pD]
def RC (l:Y ET) (i:Nat) (t:Int):l! (fN l i t)<=l! l:=c9 (Fj _ _) (List.length_take_le' ..)
def Pk (w:WT) (h:i<l! Q):gB w (Q.take (i+1))=Wo w (gB w (Q.take i)) (eN Q i):=by
 rw[sE (T:=gx) h];exact Pm w _ _
def Ky.take (hi:i<l! Q) {d:SY} {z:η} (F:Ky B (Q.take i) d A z) (D:Wr B (Q.take i) d A z (eN Q i)):∃d A z,Ky B (Q.take (i+1)) d A z:=by
 rw[sE (T:=gx) hi];exact⟨_,_,_,F.snoc D⟩
def YT (vl:VL B) (N:l! Q<=400) (hi:i<l! Q) {F:SY} {D:η} (L:Ky B (Q.take i) F A D) (z:Wr B (Q.take i) F A D (eN Q i)):eh (B,gB B (Q.take i),eN Q i)=Z (gB B (Q.take (i+1)),J)/\∀t:Int,(eN Q i).1=t->ch (fN Q i t,eN Q i)=Z J:=by
 have htk:=gK i Q;have g:=L.kg vl (by omega);have ht:=vl.t;have e1:=z.en.t1;have h2:=vl.l;have h3:=vl.d;have h4:=g.lk;refine ⟨?_,λt e=>?_⟩
 .rw[Pk B hi];exact agy B _ _ (g.nb vl) (by omega) (by omega) g.f16 (by rw[g.a.1];exact z.en) (z.s16 g) (g.cb (by omega) _) (by omega) g.r (by omega)
 .subst e;have h5:=z.nd.len;have h6:=z.nf.len;have h7:=Fj (Q.take i) (eN Q i).1;exact abs _ _ z.rd1 z.rd2 (by omega) (by omega)
def YU (vl:VL B) (hl:l! Q<=400) (hi:i<l! Q) {D:SY} {L:η} (ha:Ky B (Q.take i) D A L) (hs:¬Wr B (Q.take i) D A L (eN Q i)):Ok (eh (B,gB B (Q.take i),eN Q i)) λy=>y.2=J->(0<=(eN Q i).1/\(eN Q i).1<l! B.2.2.2.2.1)/\∀t:Int,(eN Q i).1=t->Ok (ch (fN Q i t,eN Q i)) λb=>b=aa:=by
 have htk:=gK i Q;have g:=ha.kg vl (by omega);have h2:=vl.l;have h3:=vl.d;have h4:=g.lk;refine (agz B _ _ (g.nb vl) (by omega) (by omega) (g.cb (by omega) _) (by omega) g.r vl.t).mono λy hy h=>?_
 obtain⟨⟨hF,z,N⟩,_⟩:=hy h;refine ⟨⟨z.t0,z.t1⟩,λt e=>?_⟩;subst e;have F:=g.n (eN Q i).1 z.t0 (by rw[g.k];exact z.t1);have h5:((eN Q i).2.2.2.2.2.1.length:Int)<=max (0:Int) (l! (fl (Q.take i) (eN Q i).1):Int):=by have:=N.nd.len;rw[F]at this;exact this
 have h6:((eN Q i).2.2.2.2.2.2.length:Int)<=max (0:Int) (l! (fl (Q.take i) (eN Q i).1):Int):=by have:=N.nf.len;rw[F]at this;exact this
 have h7:=Fj (Q.take i) (eN Q i).1;refine (aa6 _ _ (by omega) (by omega)).mono λb hb=>?_
 cases b with
 |false=>rfl
 |true=>
  obtain⟨r1,r2⟩:=hb rfl;exact (hs (N.scx g z r1 r2)).elim
def v_ (h:NK B):dL B=Z J:=by
 obtain⟨b,z,d⟩:=VWc B;rw[z,d.2 h]
def ahk (F:NK B) (N:l! Q<=400) (hn:l! B.2.2.2.2.1=4):Ok (dl (B,Q)) λy=>y.2=0↔Cm (B,Q):=by
 have vl:=F.v;unfold dl gN aY bi bt b7 dc fx bN dN iX s9 bn bR bI bY bc c7 aH cS;refine kH (fH.2 (by dsimp only[ak];omega)) (aQ (v_ F) (hX (aQ (zR B vl) (a9 (by show (dj 0 (aR (l! B.2.2.2.2.1))&&dj (aR (l! B.2.2.2.2.1)) (aR (l! B.2.2.2.2.1))&&bh (aS (aR (l! B.2.2.2.2.1))) 24&&decide ((aR (l! B.2.2.2.2.1):Int)=4))=J;rw[hn];rfl) ?_))));refine dO (l! Q) (by omega) (λi x=>x=((i:Int),(B,Q),gB B (Q.take i),fN Q i 0,fN Q i 1,fN Q i 2,fN Q i 3)/\∃L ce fu,Ky B (Q.take i) L ce fu) ?_ ?_ ⟨rfl,_,_,_,.nil⟩
 .rintro i x hi ⟨rfl,L,ce,fu,A⟩;have D:=λt=>RC Q i t
  have own:=λt=>RA hi (t:=t)
  have oth:=λt=>RB hi (t:=t)
  refine aW (λ_=>?_) λg=>(by dsimp only[ak]at g;omega)
  refine eQ (aT ?_);have hg:geti gx Q (i:Int)=eN Q i:=rfl;dsimp only;rw[hg];by_cases z:Wr B (Q.take i) L ce fu (eN Q i)
  .obtain⟨st,rd⟩:=YT vl N hi A z;have hnx:=A.take hi z;have e1:=z.en.t1;have e0:=z.en.t0;have ht:(eN Q i).1=0\/(eN Q i).1=1\/(eN Q i).1=2\/(eN Q i).1=3:=by omega
   clear z hg;generalize eN Q i=e at*
   refine aQ st ?_;obtain⟨(t:Int),e⟩:=e;dsimp only at ht;rcases ht with rfl|rfl|rfl|rfl
   .refine aV (λx=>x=(aa,(B,Q),gB B (Q.take i),(0,e),gB B (Q.take (i+1)),fN Q i 0,fN Q i 1,fN Q i 2,fN Q i 3)) ?_ ?_
    .simp only[aX,aU,lX];exact aQ (rd 0 rfl) (aj rfl)
    rintro x rfl;refine hX (aV (λx=>x=((B,Q),gB B (Q.take i),gB B (Q.take (i+1)),fN Q (i+1) 0,fN Q (i+1) 1,fN Q (i+1) 2,fN Q (i+1) 3)) ?_ ?_)
    .simp only[aX,aU,lX];rw[own 0 rfl,oth 1 (by show ¬(0:Int)=1;decide),oth 2 (by show ¬(0:Int)=2;decide),oth 3 (by show ¬(0:Int)=3;decide)];have:=D 0;refine aK (λh=>a! (aj ?_)) λh=>a! (aj ?_)
     .have:uP (0,e)=J:=by unfold uP;rw[bj h];rfl
      rw[this]
     .have:uP (0,e)=decide (e.1=23):=by unfold uP;rw[b_ h];rfl
      rw[this]
    rintro x rfl;exact aj ⟨by rw[fA],hnx⟩
   .refine aV (λx=>x=(aa,(B,Q),gB B (Q.take i),(1,e),gB B (Q.take (i+1)),fN Q i 0,fN Q i 1,fN Q i 2,fN Q i 3)) ?_ ?_
    .simp only[aX,aU,lX];exact aQ (rd 1 rfl) (aj rfl)
    rintro x rfl;refine hX (aV (λx=>x=((B,Q),gB B (Q.take i),gB B (Q.take (i+1)),fN Q (i+1) 0,fN Q (i+1) 1,fN Q (i+1) 2,fN Q (i+1) 3)) ?_ ?_)
    .simp only[aX,aU,lX];rw[own 1 rfl,oth 0 (by show ¬(1:Int)=0;decide),oth 2 (by show ¬(1:Int)=2;decide),oth 3 (by show ¬(1:Int)=3;decide)];have:=D 1;refine aK (λh=>a! (aj ?_)) λh=>a! (aj ?_)
     .have:uP (1,e)=J:=by unfold uP;rw[bj h];rfl
      rw[this]
     .have:uP (1,e)=decide (e.1=23):=by unfold uP;rw[b_ h];rfl
      rw[this]
    rintro x rfl;exact aj ⟨by rw[fA],hnx⟩
   .refine aV (λx=>x=(aa,(B,Q),gB B (Q.take i),(2,e),gB B (Q.take (i+1)),fN Q i 0,fN Q i 1,fN Q i 2,fN Q i 3)) ?_ ?_
    .simp only[aX,aU,lX];exact aQ (rd 2 rfl) (aj rfl)
    rintro x rfl;refine hX (aV (λx=>x=((B,Q),gB B (Q.take i),gB B (Q.take (i+1)),fN Q (i+1) 0,fN Q (i+1) 1,fN Q (i+1) 2,fN Q (i+1) 3)) ?_ ?_)
    .simp only[aX,aU,lX];rw[own 2 rfl,oth 0 (by show ¬(2:Int)=0;decide),oth 1 (by show ¬(2:Int)=1;decide),oth 3 (by show ¬(2:Int)=3;decide)];have:=D 2;refine aK (λh=>a! (aj ?_)) λh=>a! (aj ?_)
     .have:uP (2,e)=J:=by unfold uP;rw[bj h];rfl
      rw[this]
     .have:uP (2,e)=decide (e.1=23):=by unfold uP;rw[b_ h];rfl
      rw[this]
    rintro x rfl;exact aj ⟨by rw[fA],hnx⟩
   .refine aV (λx=>x=(aa,(B,Q),gB B (Q.take i),(3,e),gB B (Q.take (i+1)),fN Q i 0,fN Q i 1,fN Q i 2,fN Q i 3)) ?_ ?_
    .simp only[aX,aU,lX];exact aQ (rd 3 rfl) (aj rfl)
    rintro x rfl;refine hX (aV (λx=>x=((B,Q),gB B (Q.take i),gB B (Q.take (i+1)),fN Q (i+1) 0,fN Q (i+1) 1,fN Q (i+1) 2,fN Q (i+1) 3)) ?_ ?_)
    .simp only[aX,aU,lX];rw[own 3 rfl,oth 0 (by show ¬(3:Int)=0;decide),oth 1 (by show ¬(3:Int)=1;decide),oth 2 (by show ¬(3:Int)=2;decide)];have:=D 3;refine aK (λh=>a! (aj ?_)) λh=>a! (aj ?_)
     .have:uP (3,e)=J:=by unfold uP;rw[bj h];rfl
      rw[this]
     .have:uP (3,e)=decide (e.1=23):=by unfold uP;rw[b_ h];rfl
      rw[this]
    rintro x rfl;exact aj ⟨by rw[fA],hnx⟩
  .have hno:=Cm.no hi A z;have hst:=YU vl N hi A z;clear z hg own oth;generalize eN Q i=e at*
   refine aw hst λy hy=>?_
   refine aV (λx=>x.1=J) ?_ ?_
   .refine aM (λh=>?_) λ_=>aj rfl
    obtain⟨⟨e0,e1⟩,rd⟩:=hy h;obtain⟨(t:Int),e⟩:=e;dsimp only at e0 e1;have ht:t=0\/t=1\/t=2\/t=3:=by omega
    rcases ht with rfl|rfl|rfl|rfl
    .simp only[aX,aU,lX];exact aw (rd 0 rfl) λb d=>aj (by subst d;rfl)
    .simp only[aX,aU,lX];exact aw (rd 1 rfl) λb d=>aj (by subst d;rfl)
    .simp only[aX,aU,lX];exact aw (rd 2 rfl) λb d=>aj (by subst d;rfl)
    .simp only[aX,aU,lX];exact aw (rd 3 rfl) λb d=>aj (by subst d;rfl)
   rintro⟨b,x⟩ d;dsimp only at d;subst d;exact uA (aj ⟨nofun,λh=>(hno h).elim⟩)
 .rintro x ⟨rfl,A⟩;rw[bW]at A;exact aW (λg=>(by dsimp only[ak]at g;omega)) λ_=>aj ⟨λ_=>⟨F,N,A⟩,λ_=>rfl⟩
def HB (d:NK B) (A:l! Q<=400) (z:¬l! B.2.2.2.2.1=4):dl (B,Q)=U:=by
 unfold dl gN aY bi bt b7 dc fx bN dN iX s9 bn bR bI bY bc c7 aH cS;rw[show fM 400 (aR (ah (B,Q).2))=aa from fH.2 (by dsimp only[ak];omega)];simp only[aX,aU,lX];rw[v_ d];simp only[aX,aU,lX];rw[zR B d.v];simp only[aX,aU,lX];rw[show decide ((aR (l! B.2.2.2.2.1):Int)=4)=aa from b_ (by dsimp only[ak];omega),wu];rfl
def ahl (D:NK B) (L:l! Q<=400) (hn:l! B.2.2.2.2.1=3):Ok (dY (B,Q)) λy=>y.2=0↔Cm (B,Q):=by
 have vl:=D.v;unfold dY kS aY bi bt b7 dc bN cY dN iX bn bR bI bY bc c7 aH cS;refine kH (fH.2 (by dsimp only[ak];omega)) (aQ (v_ D) (hX (aQ (zR B vl) (a9 (by show (dj 0 (aR (l! B.2.2.2.2.1))&&dj (aR (l! B.2.2.2.2.1)) (aR (l! B.2.2.2.2.1))&&bh (aS (aR (l! B.2.2.2.2.1))) 24&&decide ((aR (l! B.2.2.2.2.1):Int)=3))=J;rw[hn];rfl) ?_))));refine dO (l! Q) (by omega) (λi x=>x=((i:Int),(B,Q),gB B (Q.take i),fN Q i 0,fN Q i 1,fN Q i 2)/\∃F ce fu,Ky B (Q.take i) F ce fu) ?_ ?_ ⟨rfl,_,_,_,.nil⟩
 .rintro i x hi ⟨rfl,F,ce,fu,A⟩;have fa:=λt=>RC Q i t
  have own:=λt=>RA hi (t:=t)
  have oth:=λt=>RB hi (t:=t)
  refine aW (λ_=>?_) λg=>(by dsimp only[ak]at g;omega)
  refine eQ (aT ?_);have N:geti gx Q (i:Int)=eN Q i:=rfl;dsimp only;rw[N];by_cases d:Wr B (Q.take i) F ce fu (eN Q i)
  .obtain⟨st,rd⟩:=YT vl L hi A d;have hnx:=A.take hi d;have e1:=d.en.t1;have e0:=d.en.t0;have ht:(eN Q i).1=0\/(eN Q i).1=1\/(eN Q i).1=2:=by omega
   clear d N;generalize eN Q i=e at*
   refine aQ st ?_;obtain⟨(t:Int),e⟩:=e;dsimp only at ht;rcases ht with rfl|rfl|rfl
   .refine aV (λx=>x=(aa,(B,Q),gB B (Q.take i),(0,e),gB B (Q.take (i+1)),fN Q i 0,fN Q i 1,fN Q i 2)) ?_ ?_
    .simp only[aX,aU,lX];exact aQ (rd 0 rfl) (aj rfl)
    rintro x rfl;refine hX (aV (λx=>x=((B,Q),gB B (Q.take i),gB B (Q.take (i+1)),fN Q (i+1) 0,fN Q (i+1) 1,fN Q (i+1) 2)) ?_ ?_)
    .simp only[aX,aU,lX];rw[own 0 rfl,oth 1 (by show ¬(0:Int)=1;decide),oth 2 (by show ¬(0:Int)=2;decide)];have:=fa 0;refine aK (λh=>a! (aj ?_)) λh=>a! (aj ?_)
     .have:uP (0,e)=J:=by unfold uP;rw[bj h];rfl
      rw[this]
     .have:uP (0,e)=decide (e.1=23):=by unfold uP;rw[b_ h];rfl
      rw[this]
    rintro x rfl;exact aj ⟨by rw[fA],hnx⟩
   .refine aV (λx=>x=(aa,(B,Q),gB B (Q.take i),(1,e),gB B (Q.take (i+1)),fN Q i 0,fN Q i 1,fN Q i 2)) ?_ ?_
    .simp only[aX,aU,lX];exact aQ (rd 1 rfl) (aj rfl)
    rintro x rfl;refine hX (aV (λx=>x=((B,Q),gB B (Q.take i),gB B (Q.take (i+1)),fN Q (i+1) 0,fN Q (i+1) 1,fN Q (i+1) 2)) ?_ ?_)
    .simp only[aX,aU,lX];rw[own 1 rfl,oth 0 (by show ¬(1:Int)=0;decide),oth 2 (by show ¬(1:Int)=2;decide)];have:=fa 1;refine aK (λh=>a! (aj ?_)) λh=>a! (aj ?_)
     .have:uP (1,e)=J:=by unfold uP;rw[bj h];rfl
      rw[this]
     .have:uP (1,e)=decide (e.1=23):=by unfold uP;rw[b_ h];rfl
      rw[this]
    rintro x rfl;exact aj ⟨by rw[fA],hnx⟩
   .refine aV (λx=>x=(aa,(B,Q),gB B (Q.take i),(2,e),gB B (Q.take (i+1)),fN Q i 0,fN Q i 1,fN Q i 2)) ?_ ?_
    .simp only[aX,aU,lX];exact aQ (rd 2 rfl) (aj rfl)
    rintro x rfl;refine hX (aV (λx=>x=((B,Q),gB B (Q.take i),gB B (Q.take (i+1)),fN Q (i+1) 0,fN Q (i+1) 1,fN Q (i+1) 2)) ?_ ?_)
    .simp only[aX,aU,lX];rw[own 2 rfl,oth 0 (by show ¬(2:Int)=0;decide),oth 1 (by show ¬(2:Int)=1;decide)];have:=fa 2;refine aK (λh=>a! (aj ?_)) λh=>a! (aj ?_)
     .have:uP (2,e)=J:=by unfold uP;rw[bj h];rfl
      rw[this]
     .have:uP (2,e)=decide (e.1=23):=by unfold uP;rw[b_ h];rfl
      rw[this]
    rintro x rfl;exact aj ⟨by rw[fA],hnx⟩
  .have hno:=Cm.no hi A d;have hst:=YU vl L hi A d;clear d N own oth;generalize eN Q i=e at*
   refine aw hst λy hy=>?_
   refine aV (λx=>x.1=J) ?_ ?_
   .refine aM (λh=>?_) λ_=>aj rfl
    obtain⟨⟨e0,e1⟩,rd⟩:=hy h;obtain⟨(t:Int),e⟩:=e;dsimp only at e0 e1;have ht:t=0\/t=1\/t=2:=by omega
    rcases ht with rfl|rfl|rfl
    .simp only[aX,aU,lX];exact aw (rd 0 rfl) λb z=>aj (by subst z;rfl)
    .simp only[aX,aU,lX];exact aw (rd 1 rfl) λb z=>aj (by subst z;rfl)
    .simp only[aX,aU,lX];exact aw (rd 2 rfl) λb z=>aj (by subst z;rfl)
   rintro⟨b,x⟩ z;dsimp only at z;subst z;exact uA (aj ⟨nofun,λh=>(hno h).elim⟩)
 .rintro x ⟨rfl,A⟩;rw[bW]at A;exact aW (λg=>(by dsimp only[ak]at g;omega)) λ_=>aj ⟨λ_=>⟨D,L,A⟩,λ_=>rfl⟩
def QC (d:NK B) (A:l! Q<=400) (z:¬l! B.2.2.2.2.1=3):dY (B,Q)=U:=by
 unfold dY kS aY bi bt b7 dc bN cY dN iX bn bR bI bY bc c7 aH cS;rw[show fM 400 (aR (ah (B,Q).2))=aa from fH.2 (by dsimp only[ak];omega)];simp only[aX,aU,lX];rw[v_ d];simp only[aX,aU,lX];rw[zR B d.v];simp only[aX,aU,lX];rw[show decide ((aR (l! B.2.2.2.2.1):Int)=3)=aa from b_ (by dsimp only[ak];omega),wu];rfl
def ahm (D:NK B) (L:l! Q<=400) (hn:l! B.2.2.2.2.1=2):Ok (dE (B,Q)) λy=>y.2=0↔Cm (B,Q):=by
 have vl:=D.v;unfold dE kT aY bi bt b7 bN cW dN bn bR bI bY bc c7 aH cS;refine kH (fH.2 (by dsimp only[ak];omega)) (aQ (v_ D) (hX (aQ (zR B vl) (a9 (by show (dj 0 (aR (l! B.2.2.2.2.1))&&dj (aR (l! B.2.2.2.2.1)) (aR (l! B.2.2.2.2.1))&&bh (aS (aR (l! B.2.2.2.2.1))) 24&&decide ((aR (l! B.2.2.2.2.1):Int)=2))=J;rw[hn];rfl) ?_))));refine dO (l! Q) (by omega) (λi x=>x=((i:Int),(B,Q),gB B (Q.take i),fN Q i 0,fN Q i 1)/\∃F ce fu,Ky B (Q.take i) F ce fu) ?_ ?_ ⟨rfl,_,_,_,.nil⟩
 .rintro i x hi ⟨rfl,F,ce,fu,z⟩;have fa:=λt=>RC Q i t
  have own:=λt=>RA hi (t:=t)
  have oth:=λt=>RB hi (t:=t)
  refine aW (λ_=>?_) λg=>(by dsimp only[ak]at g;omega)
  refine eQ (aT ?_);have N:geti gx Q (i:Int)=eN Q i:=rfl;dsimp only;rw[N];by_cases d:Wr B (Q.take i) F ce fu (eN Q i)
  .obtain⟨st,rd⟩:=YT vl L hi z d;have hnx:=z.take hi d;have e1:=d.en.t1;have e0:=d.en.t0;have ht:(eN Q i).1=0\/(eN Q i).1=1:=by omega
   clear d N;generalize eN Q i=e at*
   refine aQ st ?_;obtain⟨(t:Int),e⟩:=e;dsimp only at ht;rcases ht with rfl|rfl
   .refine aV (λx=>x=(aa,(B,Q),gB B (Q.take i),(0,e),gB B (Q.take (i+1)),fN Q i 0,fN Q i 1)) ?_ ?_
    .simp only[aX,aU,lX];exact aQ (rd 0 rfl) (aj rfl)
    rintro x rfl;refine hX (aV (λx=>x=((B,Q),gB B (Q.take i),gB B (Q.take (i+1)),fN Q (i+1) 0,fN Q (i+1) 1)) ?_ ?_)
    .simp only[aX,aU,lX];rw[own 0 rfl,oth 1 (by show ¬(0:Int)=1;decide)];have:=fa 0;refine aK (λh=>a! (aj ?_)) λh=>a! (aj ?_)
     .have:uP (0,e)=J:=by unfold uP;rw[bj h];rfl
      rw[this]
     .have:uP (0,e)=decide (e.1=23):=by unfold uP;rw[b_ h];rfl
      rw[this]
    rintro x rfl;exact aj ⟨by rw[fA],hnx⟩
   .refine aV (λx=>x=(aa,(B,Q),gB B (Q.take i),(1,e),gB B (Q.take (i+1)),fN Q i 0,fN Q i 1)) ?_ ?_
    .simp only[aX,aU,lX];exact aQ (rd 1 rfl) (aj rfl)
    rintro x rfl;refine hX (aV (λx=>x=((B,Q),gB B (Q.take i),gB B (Q.take (i+1)),fN Q (i+1) 0,fN Q (i+1) 1)) ?_ ?_)
    .simp only[aX,aU,lX];rw[own 1 rfl,oth 0 (by show ¬(1:Int)=0;decide)];have:=fa 1;refine aK (λh=>a! (aj ?_)) λh=>a! (aj ?_)
     .have:uP (1,e)=J:=by unfold uP;rw[bj h];rfl
      rw[this]
     .have:uP (1,e)=decide (e.1=23):=by unfold uP;rw[b_ h];rfl
      rw[this]
    rintro x rfl;exact aj ⟨by rw[fA],hnx⟩
  .have hno:=Cm.no hi z d;have hst:=YU vl L hi z d;clear d N own oth;generalize eN Q i=e at*
   refine aw hst λy hy=>?_
   refine aV (λx=>x.1=J) ?_ ?_
   .refine aM (λh=>?_) λ_=>aj rfl
    obtain⟨⟨e0,e1⟩,rd⟩:=hy h;obtain⟨(t:Int),e⟩:=e;dsimp only at e0 e1;have ht:t=0\/t=1:=by omega
    rcases ht with rfl|rfl
    .simp only[aX,aU,lX];exact aw (rd 0 rfl) λb A=>aj (by subst A;rfl)
    .simp only[aX,aU,lX];exact aw (rd 1 rfl) λb A=>aj (by subst A;rfl)
   rintro⟨b,x⟩ A;dsimp only at A;subst A;exact uA (aj ⟨nofun,λh=>(hno h).elim⟩)
 .rintro x ⟨rfl,z⟩;rw[bW]at z;exact aW (λg=>(by dsimp only[ak]at g;omega)) λ_=>aj ⟨λ_=>⟨D,L,z⟩,λ_=>rfl⟩
def act (d:NK B) (A:l! Q<=400) (z:¬l! B.2.2.2.2.1=2):dE (B,Q)=U:=by
 unfold dE kT aY bi bt b7 bN cW dN bn bR bI bY bc c7 aH cS;rw[show fM 400 (aR (ah (B,Q).2))=aa from fH.2 (by dsimp only[ak];omega)];simp only[aX,aU,lX];rw[v_ d];simp only[aX,aU,lX];rw[zR B d.v];simp only[aX,aU,lX];rw[show decide ((aR (l! B.2.2.2.2.1):Int)=2)=aa from b_ (by dsimp only[ak];omega),wu];rfl
def ahn (D:NK B) (L:l! Q<=400) (hn:l! B.2.2.2.2.1=1):Ok (eC (B,Q)) λy=>y.2=0↔Cm (B,Q):=by
 have vl:=D.v;unfold eC mW aY bi bt bN cY bn bR bI bY bc c7 aH cS;refine kH (fH.2 (by dsimp only[ak];omega)) (aQ (v_ D) (hX (aQ (zR B vl) (a9 (by show (dj 0 (aR (l! B.2.2.2.2.1))&&dj (aR (l! B.2.2.2.2.1)) (aR (l! B.2.2.2.2.1))&&bh (aS (aR (l! B.2.2.2.2.1))) 24&&decide ((aR (l! B.2.2.2.2.1):Int)=1))=J;rw[hn];rfl) ?_))));refine dO (l! Q) (by omega) (λi x=>x=((i:Int),(B,Q),gB B (Q.take i),fN Q i 0)/\∃F ce fu,Ky B (Q.take i) F ce fu) ?_ ?_ ⟨rfl,_,_,_,.nil⟩
 .rintro i x hi ⟨rfl,F,ce,fu,z⟩;have fa:=λt=>RC Q i t
  have own:=λt=>RA hi (t:=t)
  have oth:=λt=>RB hi (t:=t)
  refine aW (λ_=>?_) λg=>(by dsimp only[ak]at g;omega)
  refine eQ (aT ?_);have N:geti gx Q (i:Int)=eN Q i:=rfl;dsimp only;rw[N];by_cases d:Wr B (Q.take i) F ce fu (eN Q i)
  .obtain⟨st,rd⟩:=YT vl L hi z d;have hnx:=z.take hi d;have e1:=d.en.t1;have e0:=d.en.t0;have ht:(eN Q i).1=0:=by omega
   clear d N;generalize eN Q i=e at*
   refine aQ st ?_;obtain⟨(t:Int),e⟩:=e;dsimp only at ht;subst ht
   .refine aV (λx=>x=(aa,(B,Q),gB B (Q.take i),(0,e),gB B (Q.take (i+1)),fN Q i 0)) ?_ ?_
    .simp only[aX,aU,lX];exact aQ (rd 0 rfl) (aj rfl)
    rintro x rfl;refine hX (aV (λx=>x=((B,Q),gB B (Q.take i),gB B (Q.take (i+1)),fN Q (i+1) 0)) ?_ ?_)
    .simp only[aX,aU,lX];rw[own 0 rfl];have:=fa 0;refine aK (λh=>a! (aj ?_)) λh=>a! (aj ?_)
     .have:uP (0,e)=J:=by unfold uP;rw[bj h];rfl
      rw[this]
     .have:uP (0,e)=decide (e.1=23):=by unfold uP;rw[b_ h];rfl
      rw[this]
    rintro x rfl;exact aj ⟨by rw[fA],hnx⟩
  .have hno:=Cm.no hi z d;have hst:=YU vl L hi z d;clear d N own oth;generalize eN Q i=e at*
   refine aw hst λy hy=>?_
   refine aV (λx=>x.1=J) ?_ ?_
   .refine aM (λh=>?_) λ_=>aj rfl
    obtain⟨⟨e0,e1⟩,rd⟩:=hy h;obtain⟨(t:Int),e⟩:=e;dsimp only at e0 e1;have ht:t=0:=by omega
    subst ht
    .simp only[aX,aU,lX];exact aw (rd 0 rfl) λb A=>aj (by subst A;rfl)
   rintro⟨b,x⟩ A;dsimp only at A;subst A;exact uA (aj ⟨nofun,λh=>(hno h).elim⟩)
 .rintro x ⟨rfl,z⟩;rw[bW]at z;exact aW (λg=>(by dsimp only[ak]at g;omega)) λ_=>aj ⟨λ_=>⟨D,L,z⟩,λ_=>rfl⟩
def YM (w:WT) (l:Y ET):Ok (jO (w,l)) λy=>y.2=0↔Cm (w,l):=by
 unfold jO;by_cases d:l! l<=400
 .by_cases vw:NK w
  .have h1:=vw.v.t0;have F:=vw.v.t;have:l! w.2.2.2.2.1=4\/l! w.2.2.2.2.1=3\/l! w.2.2.2.2.1=2\/l! w.2.2.2.2.1=1:=by omega
   rcases this with h|h|h|h
   .obtain⟨y,e,z⟩:=ahk vw d h;rw[e];exact aj z
   .obtain⟨y,e,z⟩:=ahl vw d h;rw[HB vw d (by omega),e];exact aj z
   .obtain⟨y,e,z⟩:=ahm vw d h;rw[HB vw d (by omega),QC vw d (by omega),e];exact aj z
   .obtain⟨y,e,z⟩:=ahn vw d h;rw[HB vw d (by omega),QC vw d (by omega),act vw d (by omega),e];exact aj z
  .have:dl (w,l)=Z (0,1):=by
    obtain⟨b,D,z⟩:=VWc w;have A:b=aa:=by
     cases b with
     |false=>rfl
     |true=>exact (vw (z.1 rfl)).elim
    refine cf ?_;unfold dl gN aY bi bt b7 dc fx bN dN iX s9 bn bR bI bY bc c7 aH cS;exact kH (fH.2 (by dsimp only[ak];omega)) (aQ D (by rw[A];exact uA (aj rfl)))
   rw[this];exact aj ⟨nofun,λh=>(vw h.vw).elim⟩
 .have:dl (w,l)=Z (0,2):=by
   refine cf ?_;unfold dl gN aY bi bt b7 dc fx bN dN iX s9 bn bR bI bY bc c7 aH cS;exact fy (mV.2 (by dsimp only[ak];omega)) (aj rfl)
  rw[this];exact aj ⟨nofun,λh=>(d h.len).elim⟩
def aho (d:Cm (B,Q)):∃a,jO (B,Q)=Z (a,0):=by
 obtain⟨⟨a,b⟩,e,z⟩:=YM B Q;have:b=0:=z.2 d;subst this;exact⟨a,e⟩
def ahp (w:WT) (l:Y ET):Ok (ol (w,l)) λy=>y.2=0↔Cm (w,l):=by
 unfold ol b7 bN dN bR bY bc c7 aH cS;refine aW (λL=>aj ⟨nofun,λh=>?_⟩) λL=>?_
 .have:=h.len;dsimp only[ak]at L this;omega
 dsimp only[ak]at L;have L:l! l<=400:=by omega
 refine aw (VW06 w) λb N=>?_
 refine di (λh=>aj ⟨nofun,λg=>?_⟩) λh=>?_
 .rw[N.2 g.vw]at h;cases h
 have vw:=N.1 h;have vl:=vw.v;have h3:=vl.d;refine aQ (D_ w vl) ?_;refine cC (l! l) (λi x=>x=((i:Int),(w,l),gB w (l.take i))/\∃sy ce fu,Ky w (l.take i) sy ce fu) ?_ ?_ ⟨rfl,_,_,_,.nil⟩
 .rintro i x hi ⟨rfl,sy,ce,fu,D⟩;have htk:=gK i l;have g:=D.kg vl (by omega);have cb:=g.cb (by omega) (eN l i).1;refine aW (λ_=>?_) λg=>(by dsimp only[ak]at g;omega)
  refine eQ (aT ?_);have hg:geti gx l (i:Int)=eN l i:=rfl;dsimp only;rw[hg];have hst:=Cn w (gB w (l.take i)) (g.nb vl) (by omega) (eN l i) (.inr (fk cb (by decide))) (.inr (fk cb (by decide)));by_cases A:Wr w (l.take i) sy ce fu (eN l i)
  .have hE:EN w (gB w (l.take i)).1 (eN l i).1 (eN l i).2.1 (eN l i).2.2.1:=by rw[g.a.1];exact A.en
   have ht:=V0 w (gB w (l.take i)) (g.nb vl) (by omega) (eN l i) (fk cb (by decide)) g.f16 hE (A.s16 g);have hnx:=D.take hi A;have h5:=A.nd.len;have h6:=A.nf.len;have h7:=Fj (l.take i) (eN l i).1;have r1:=KQ l (i:Int) (eN l i).1 (eN l i).2.2.2.2.2.1 (by omega) ⟨by omega,by omega⟩ (by omega) A.rd1;have r2:=KQ l (i:Int) (eN l i).1 (eN l i).2.2.2.2.2.2 (by omega) ⟨by omega,by omega⟩ (by omega) A.rd2;refine aw (hst.and ht) λy hy=>?_
   obtain⟨hy1,F⟩:=hy;have e:=(hy1.1 F).2.2.2;refine aV (λx=>x.1=aa/\x.2.1=(w,l)/\x.2.2.2=y.1) ?_ ?_
   .exact kH (by rw[F];rfl) (aQ r1 (hX (aQ r2 (aj ⟨rfl,rfl,rfl⟩))))
   .rintro⟨c,p,q,r⟩ ⟨f1,f2,f3⟩;dsimp only at f1 f2 f3;subst f1 f2 f3;exact hX (aj ⟨by rw[fA,e,Pk w hi],hnx⟩)
  .have hno:=Cm.no hi D A;refine aw hst λy hy=>?_
   have key:∀b1 b2:Bool,y.2=J->(b1=J->∀z∈(eN l i).2.2.2.2.2.1,Eb (l.take i) (eN l i).1 z)->(b2=J->∀z∈(eN l i).2.2.2.2.2.2,Eb (l.take i) (eN l i).1 z)->b1=J->b2=J->False:=λb1 b2 h h1 h2 g1 g2=>by
    obtain⟨q1,_,q3,_⟩:=hy.1 h;exact A (q3.scx g q1 (h1 g1) (h2 g2))
   refine aV (λx=>x.1=J) ?_ ?_
   .refine di (λ_=>aj rfl) λh=>?_
    obtain⟨q1,_,q3,_⟩:=hy.1 h;have h5:((eN l i).2.2.2.2.2.1.length:Int)<=max (0:Int) (geti aP (gB w (l.take i)).2.2.2 (eN l i).1):=q3.nd.len;have h6:((eN l i).2.2.2.2.2.2.length:Int)<=max (0:Int) (geti aP (gB w (l.take i)).2.2.2 (eN l i).1):=q3.nf.len;have h7:=fk h5 (zX.2 ⟨by decide,cb⟩);have h8:=fk h6 (zX.2 ⟨by decide,cb⟩);refine aw (ED l _ _ _ (by omega) ⟨by omega,by omega⟩ (by omega)) λb1 hr1=>?_
    refine di (λ_=>aj rfl) λhb1=>?_
    refine aw (ED l _ _ _ (by omega) ⟨by omega,by omega⟩ (by omega)) λb2 hr2=>aj ?_
    cases b2 with
    |false=>rfl
    |true=>exact (key b1 J h hr1 hr2 hb1 rfl).elim
   rintro⟨b,x⟩ N;dsimp only at N;subst N;exact uA (aj ⟨nofun,λh=>(hno h).elim⟩)
 .rintro x ⟨rfl,D⟩;rw[bW]at D;exact aW (λg=>(by dsimp only[ak]at g;omega)) λ_=>aj ⟨λ_=>⟨vw,L,D⟩,λ_=>rfl⟩
abbrev l7:Ty:=(.pr aP (.pr aP (.pr aP (.pr aP .bool))))
abbrev Ke1:Ty:=(.st (.pr (.int .u8) (.pr (.int .u8) (.int .i8))))
abbrev Ke2:Ty:=(.st (.pr Ge (.pr Ge Ge)))
abbrev zO:=((Int×Int×Int×Int×Bool)×(Y (Int×Bool))×Y (Int×Bool))
abbrev AM:=(Y e?)
abbrev xp:=(Y Γ)
abbrev b!:=(ep×Y gh)×(Y η)×xp×(η)×(η)×(η)×(η)×(η)×(η)×AM×(η)×(Y zO)×(Y η)×Y η
abbrev Ye3:=b!
abbrev d!:=(ep×Y gh)×(Y η)×xp×(η)×(η)×(η)×(η)×(η)×(η)×AM×(η)×(Y zO)×(Y η)×(Y η)×(η)×Bool
abbrev Ye4:=d!
abbrev c!:=(ep×Y gh)×(Y η)×xp×(η)×(η)×(η)×(η)×(η)×(η)×AM×(η)×(Y zO)×(Y η)×(Y η)×gh×η
abbrev Ye5:=c!
abbrev Ye6:=(Int×c?)
abbrev Ye7:=((ep×Y gh)×(η)×(η)×(η)×(η)×(η)×(η)×AM×(Y η)×xp×(η)×(Y zO)×(Y η)×Y η)
abbrev Y?:=Int×c!
abbrev Ye8:=Y?
def ze (it:Cp) (x:Int):M η:=
 (bI (dj 0 x&&dj x x&&bh (aS x) 8) (it i? _ (λx1=>(bR x1.1 (aR (ah (aF (aS x) (0:Int)))) (ck (fm x1.1 (ah x1.2)) (c7 ((cS x1.1),(cJ x1.2 x1.1 (-1))))) (aH x1.2))) (0,(aF (aS x) (0:Int)))))
def DH (x:Int):M η:=ze @iter x
def lO (x:Int):M η:=ze @hZ x
def mS (x:c?):M (Bool):=
 (jn (bn x.2.1 3 (aH J) (aH (decide ((x.2.1:Int)=4)))) λx1=>(Z x1))
def ml (x:ep×c?):M (Int):=
 (jn (bn x.a 6 (aH ((decide ((x.a:Int)=6)),x)) (bn x.a 8 (aH ((decide ((x.a:Int)=8)),x)) (aH ((decide ((x.a:Int)=10)),x)))) λx1=>(aL x1.1 (Z x1.c) (bn x.a 17 (bY nK x1.2.1.a x1.c λd=>(Z d.2)) (bn x.a 12 (Z (bc x1.2.1.2.1)) (Z (-1))))))
def mj (x:ep×c?):M (Int):=
 (jn (bn x.a 7 (aH ((decide ((x.a:Int)=7)),x)) (bn x.a 9 (aH ((decide ((x.a:Int)=9)),x)) (aH ((decide ((x.a:Int)=11)),x)))) λx1=>(aL x1.1 (Z x1.c) (bn x.a 16 (bY nK x1.2.1.a x1.c λd=>(Z d.2)) (bn x.a 13 (Z (bc x1.2.1.2.1)) (Z (-1))))))
def ji (x:gh×b!):M (η×b!):=
 (jZ aP x.c x.1.1 λd=>(jn (α:=(ep×Y gh)×(Y η)×xp×(η)×(η)×(η)×(η)×(η)×(η)×AM×(η)×(Y zO)×(Y η)×(Y η)×η) (bn x.1.2.1 1 (jZ aP x.d x.1.1 λD=>(bI (bh (ah ([d])+ah ([D])) 8) (aH (x.2.1,x.a,x.b,x.c,x.d,x.f,x.i,x.k,x.o,x.l,x.n,x.j,x.r,x.s,(([d])++([D])))))) (bn x.1.2.1 21 (jZ aP x.c x.1.a λA=>(bI (bh (ah ([d])+ah ([A])) 8) (aH (x.2.1,x.a,x.b,x.c,x.d,x.f,x.i,x.k,x.o,x.l,x.n,x.j,x.r,x.s,(([d])++([A])))))) (bn x.1.2.1 23 (ck (fm x.1.a (ah x.o)) (kj x.1.a x.s (bI (ax (aS (ul x.o x.1.a)) (ah (xF (T:=aP) x.s x.1.a))) (bI (bh (ah ([d])+ah (xF (T:=aP) x.s x.1.a)) 8) (aH (x.2.1,x.a,x.b,x.c,x.d,x.f,x.i,x.k,x.o,x.l,x.n,x.j,x.r,x.s,(([d])++(xF (T:=aP) x.s x.1.a)))))))) (bn x.1.2.1 3 (bY mD x.2.1.1.1 x.1.a λF=>(aL F.2.2.2.1 (ck (fm x.1.a (ah x.k)) (kj x.1.a x.r (bI (ax (aS (ul x.k x.1.a)) (ah (xF (T:=aP) x.r x.1.a))) (bI (bh (ah ([d])+ah (xF (T:=aP) x.r x.1.a)) 8) (aH (x.2.1,x.a,x.b,x.c,x.d,x.f,x.i,x.k,x.o,x.l,x.n,x.j,x.r,x.s,(([d])++(xF (T:=aP) x.r x.1.a)))))))) (aH (x.2.1,x.a,x.b,x.c,x.d,x.f,x.i,x.k,x.o,x.l,x.n,x.j,x.r,x.s,[d])))) (bn x.1.2.1 17 (jZ aP x.f x.1.1 λz=>(bI (bh (ah ([d])+ah ([z])) 8) (aH (x.2.1,x.a,x.b,x.c,x.d,x.f,x.i,x.k,x.o,x.l,x.n,x.j,x.r,x.s,(([d])++([z])))))) (aH (x.2.1,x.a,x.b,x.c,x.d,x.f,x.i,x.k,x.o,x.l,x.n,x.j,x.r,x.s,[d]))))))) λx2=>(Z (x2.s,x2.1,x2.2.1,x2.a,x2.b,x2.c,x2.d,x2.f,x2.i,x2.k,x2.o,x2.l,x2.n,x2.j,x2.r))))
def j7 (x:Ye6×Y zO):M (Y zO):=
 (bn x.1.a 4 (ck (fm x.1.1 (ah x.2)) (Z (qY (S:=l7) x.2 x.1.1 (vx (S:=l7) 1 (dV l7 x.2 x.1.1) (vJ (K:=aP) (V:=.bool) x.1.b J (sG (S:=l7) 1 (dV l7 x.2 x.1.1))))))) (ck (fm x.1.1 (ah x.2)) (Z (qY (S:=l7) x.2 x.1.1 (vx (S:=l7) 0 (dV l7 x.2 x.1.1) (vJ (K:=aP) (V:=.bool) x.1.b J (sG (S:=l7) 0 (dV l7 x.2 x.1.1))))))))
abbrev v!:=(ep×Y gh)×(Y η)×xp×(η)×(η)×(η)×(η)×(η)×(η)×AM×(η)×(Y zO)×(Y η)×(Y η)×c?
abbrev M?:=Ye6×b!
def mX (it:Cp) (x:M?):M Ye3:=
 (ck (fm x.1.2.1 (ah x.c)) (jn (α:=b!) (bn x.1.a 20 (ck (fm x.1.b (ah x.d)) (aH (x.2.1,x.a,x.b,(cJ x.c x.1.2.1 x.1.1),(cJ x.d x.1.b x.1.1),x.m))) (bn x.1.a 22 (ck (fm x.1.b (ah x.o)) (kj x.1.b x.s (bI (ax (aS (ul x.o x.1.b)) (ah (xF (T:=aP) x.s x.1.b))&&bh ((aS (ul x.o x.1.b))+ah ([x.1.1]:η)) 8) (ck (fm x.1.b (ah x.o)) (aH (x.2.1,x.a,x.b,(cJ x.c x.1.2.1 x.1.1),x.d,x.f,x.i,x.k,(wn x.o (aS x.1.b) (aR (ah ((xF (T:=aP) x.s x.1.b)++([x.1.1]))))),x.l,x.n,x.j,x.r,(Dw (T:=aP) (Dw (T:=aP) x.s x.1.b []) x.1.b ((xF (T:=aP) x.s x.1.b)++([x.1.1]))))))))) (bn x.1.a 4 (ck (fm x.1.b (ah x.k)) (kj x.1.b x.r (bI (ax (aS (ul x.k x.1.b)) (ah (xF (T:=aP) x.r x.1.b))&&bh ((aS (ul x.k x.1.b))+ah ([x.1.1]:η)) 8) (ck (fm x.1.b (ah x.k)) (aH (x.2.1,x.a,x.b,(cJ x.c x.1.2.1 x.1.1),x.d,x.f,x.i,(wn x.k (aS x.1.b) (aR (ah ((xF (T:=aP) x.r x.1.b)++([x.1.1]))))),x.o,x.l,x.n,x.j,(Dw (T:=aP) (Dw (T:=aP) x.r x.1.b []) x.1.b ((xF (T:=aP) x.r x.1.b)++([x.1.1]))),x.s)))))) (bn x.1.a 16 (ck (fm x.1.2.1 (ah x.i)) (aH (x.2.1,x.a,x.b,(cJ x.c x.1.2.1 x.1.1),x.d,x.f,(cJ x.i x.1.2.1 x.1.b),x.q))) (bn x.1.a 18 (jR 0 x.1.c (ck (fm x.1.c (ah x.f)) (ck (fm x.1.c (ah x.i)) (aH (x.2.1,x.a,x.b,(cJ x.c x.1.2.1 x.1.1),x.d,(cJ x.f x.1.c x.1.1),(cJ x.i x.1.c (-1)),x.q)))) (aH (x.2.1,x.a,x.b,(cJ x.c x.1.2.1 x.1.1),x.h))) (bn x.1.a 19 (it (Int×v!) _ (λx2=>(bR x2.1 (bc x.i) (jn (α:=v!) (jZ aP x2.i x2.1 λd=>(bn d x2.C (ck (fm x2.1 (ah x2.f)) (ck (fm x2.1 (ah x2.i)) (aH (x2.2.1,x2.a,x2.b,x2.c,x2.d,(cJ x2.f x2.1 x.1.1),(cJ x2.i x2.1 (-1)),x2.q)))) (aH x2.2))) λz=>(c7 ((cS x2.1),z))) (aH (cw (x2.2.1,x2.a,x2.b,x2.c,x2.d,x2.f,x2.i,x2.k,x2.o,x2.l,x2.n,x2.j,x2.r,x2.u))))) (0,x.2.1,x.a,x.b,(cJ x.c x.1.2.1 x.1.1),x.d,x.f,x.i,x.k,x.o,x.l,x.n,x.j,x.r,x.s,x.1.2)) (aH (x.2.1,x.a,x.b,(cJ x.c x.1.2.1 x.1.1),x.h)))))))) λx1=>(Z x1)))
def qJ (x:M?):M Ye3:=mX @iter x
def gM (x:M?):M Ye3:=mX @hZ x
def iI (x:M?):M ((ep×Y gh)×(Y η)×xp×(η)×(η)×(η)×(η)×(η)×(η)×AM×(Y η)×(Y η)×(η)×Y zO):=
 (ay (mj (x.2.1.1,x.1.2)) λd=>(aL (ui (x.1.2.1,d) x.l) (kj (fc (x.1.2.1,d) x.l) x.j (bI (bh (ah x.n+1) 8) (ay (ml (x.2.1.1,x.1.2)) λA=>(jR 0 A (Z (x.2.1,x.a,x.b,x.c,x.d,x.f,x.i,x.k,x.o,(xQ (x.1.2.1,A) (aR (ah (qY (S:=l7) x.j (fc (x.1.2.1,d) x.l) ((((dV l7 x.j (fc (x.1.2.1,d) x.l)).1).1,(((dV l7 x.j (fc (x.1.2.1,d) x.l)).1).2).1,((((dV l7 x.j (fc (x.1.2.1,d) x.l)).1).2).2).1,x.1.1,(((((dV l7 x.j (fc (x.1.2.1,d) x.l)).1).2).2).2).2),(dV l7 x.j (fc (x.1.2.1,d) x.l)).2)))) (KL (ah (qY (S:=l7) x.j (fc (x.1.2.1,d) x.l) ((((dV l7 x.j (fc (x.1.2.1,d) x.l)).1).1,(((dV l7 x.j (fc (x.1.2.1,d) x.l)).1).2).1,((((dV l7 x.j (fc (x.1.2.1,d) x.l)).1).2).2).1,x.1.1,(((((dV l7 x.j (fc (x.1.2.1,d) x.l)).1).2).2).2).2),(dV l7 x.j (fc (x.1.2.1,d) x.l)).2))) (AZ (x.1.2.1,d) x.l))),x.r,x.s,(fX (shf (ah (qY (S:=l7) x.j (fc (x.1.2.1,d) x.l) ((((dV l7 x.j (fc (x.1.2.1,d) x.l)).1).1,(((dV l7 x.j (fc (x.1.2.1,d) x.l)).1).2).1,((((dV l7 x.j (fc (x.1.2.1,d) x.l)).1).2).2).1,x.1.1,(((((dV l7 x.j (fc (x.1.2.1,d) x.l)).1).2).2).2).2),(dV l7 x.j (fc (x.1.2.1,d) x.l)).2)))) (sK x.n [(fc (x.1.2.1,d) x.l)])),(sK (qY (S:=l7) x.j (fc (x.1.2.1,d) x.l) ((((dV l7 x.j (fc (x.1.2.1,d) x.l)).1).1,(((dV l7 x.j (fc (x.1.2.1,d) x.l)).1).2).1,((((dV l7 x.j (fc (x.1.2.1,d) x.l)).1).2).2).1,x.1.1,(((((dV l7 x.j (fc (x.1.2.1,d) x.l)).1).2).2).2).2),(dV l7 x.j (fc (x.1.2.1,d) x.l)).2)) [((x.1.2.1,A,x.1.1,(-1),(decide ((x.1.a:Int)=8))),[],[])]))) (Z (x.2.1,x.a,x.b,x.c,x.d,x.f,x.i,x.k,x.o,(AZ (x.1.2.1,d) x.l),x.r,x.s,(sK x.n [(fc (x.1.2.1,d) x.l)]),(qY (S:=l7) x.j (fc (x.1.2.1,d) x.l) ((((dV l7 x.j (fc (x.1.2.1,d) x.l)).1).1,(((dV l7 x.j (fc (x.1.2.1,d) x.l)).1).2).1,((((dV l7 x.j (fc (x.1.2.1,d) x.l)).1).2).2).1,x.1.1,(((((dV l7 x.j (fc (x.1.2.1,d) x.l)).1).2).2).2).2),(dV l7 x.j (fc (x.1.2.1,d) x.l)).2)))))))) (ay (ml (x.2.1.1,x.1.2)) λz=>(jR 0 z (Z (x.2.1,x.a,x.b,x.c,x.d,x.f,x.i,x.k,x.o,(xQ (x.1.2.1,z) (bc x.j) (KL (ah x.j) x.l)),x.r,x.s,(fX (shf (ah x.j)) x.n),(sK x.j [((x.1.2.1,z,x.1.1,(-1),(decide ((x.1.a:Int)=8))),[],[])]))) (Z (x.2.1,x.a,x.b,x.c,x.d,x.f,x.i,x.k,x.o,x.l,x.r,x.s,x.n,x.j))))))
def j9 (x:Y?):M Ye5:=
 (jn (ck (fm x.1 (ah x.j)) (aL (vM (K:=aP) (V:=.bool) x.v.a (sG (S:=l7) 1 (dV l7 x.j x.1)) aa) (aH ((x.1,J),x.2)) (bn x.v.2.1 4 (ck (fm x.1 (ah x.j)) (aH ((x.1,(vM (K:=aP) (V:=.bool) x.v.a (sG (S:=l7) 0 (dV l7 x.j x.1)) aa)),x.2))) (aH ((x.1,aa),x.2))))) λx1=>(aL x1.1.2 (kj x1.1.1 x1.j (lt ((((((dV l7 x1.j x1.1.1).1).2).2).2).1) λz=>(jZ (.sl aP) x1.a z λd=>(ay (lH (x1.E,d)) λA=>(Z (x1.2.1,x1.a,x1.b,x1.c,x1.d,x1.f,x1.i,x1.k,x1.o,x1.l,x1.n,x1.j,x1.r,x1.u,x1.v,A)))))) (Z x1.2)))
def j8 (x:Int×d!):M Ye4:=
 (jn (kj x.1 x.j (lt (((((dV l7 x.j x.1).1).2).2).1) λN=>(jZ fP x.b N λL=>(ay (kA (x.v,L)) λy4=>(aL y4 (kj x.1 x.j (lt ((((((dV l7 x.j x.1).1).2).2).2).1) λF=>(jZ fP x.b F λD=>(ay (kA (x.v,D)) λy7=>(aH ((x.1,(!y7)),x.2)))))) (aH ((x.1,aa),x.2))))))) λx1=>(aL x1.1.2 (kj x1.1.1 x1.j (lt ((((((dV l7 x1.j x1.1.1).1).2).2).2).1) λA=>(jZ (.sl aP) x1.a A λz=>(ay (lH (x1.v,z)) λd=>(Z (x1.2.1,x1.a,x1.b,x1.c,x1.d,x1.f,x1.i,x1.k,x1.o,x1.l,x1.n,x1.j,x1.r,x1.u,d,J)))))) (Z x1.2)))
def rW (it:Cp) (x:Y?):M Ye5:=
 (it (Γ×c!) _ (λx1=>(bR x1.1.2 (bc x.n) (jn (ck (fm x1.1.2 (ah x1.n)) (jn (kj (ul x1.n x1.1.2) x1.j (lt ((((dV l7 x1.j (ul x1.n x1.1.2)).1).2).1) λz4=>(kj x1.1.1 x1.j (lt ((((dV l7 x1.j x1.1.1).1).2).1) λz5=>(bn z4 z5 (kj (ul x1.n x1.1.2) x1.j (lt (((dV l7 x1.j (ul x1.n x1.1.2)).1).1) λz6=>(kj x1.1.1 x1.j (lt (((dV l7 x1.j x1.1.1).1).1) λz7=>(iK z6 z7 (kj (ul x1.n x1.1.2) x1.j (lt ((((((dV l7 x1.j (ul x1.n x1.1.2)).1).2).2).2).2) λz8=>(aL z8 (kj x1.1.1 x1.j (lt ((((((dV l7 x1.j x1.1.1).1).2).2).2).2) λN=>(aL (!N) (kj (ul x1.n x1.1.2) x1.j (lt ((((((dV l7 x1.j (ul x1.n x1.1.2)).1).2).2).2).1) λL=>(kj x1.1.1 x1.j (lt (((((dV l7 x1.j x1.1.1).1).2).2).1) λF=>(aH ((x1.1.1,(ul x1.n x1.1.2),(fM L F)),x1.2)))))) (aH ((x1.1.1,(ul x1.n x1.1.2),aa),x1.2))))) (kj (ul x1.n x1.1.2) x1.j (lt ((((((dV l7 x1.j (ul x1.n x1.1.2)).1).2).2).2).1) λD=>(kj x1.1.1 x1.j (lt (((((dV l7 x1.j x1.1.1).1).2).2).1) λA=>(aH ((x1.1.1,(ul x1.n x1.1.2),(fM D A)),x1.2))))))))) (aH ((x1.1.1,(ul x1.n x1.1.2),aa),x1.2))))))) (aH ((x1.1.1,(ul x1.n x1.1.2),aa),x1.2))))))) λz=>(aL z.1.2.2 (ay (j9 (z.1.2.1,z.2)) λd=>(bI (ax (ah z.n) (ah d.l)&&(ax (ah z.o) (ah d.k)&&(ax (ah z.k) (ah d.i)&&(ax (ah z.i) (ah d.f)&&(ax (ah z.f) (ah d.d)&&(ax (ah z.d) (ah d.c)&&(ax (ah z.c) (ah d.b)&&(ax (ah z.b) (ah d.a)&&(ax (ah z.a) (ah d.2.1)&&J))))))))) (aH (z.1.1,d)))) (aH (z.1.1,z.2))))) λx2=>(c7 ((x2.1,(cS x1.1.2)),x2.2))) (aH x1.2))) ((x.1,0),x.2))
def vz (x:Y?):M Ye5:=rW @iter x
def kJ (x:Y?):M Ye5:=rW @hZ x
def rV (it:Cp) (x:Int×d!):M Ye4:=
 (it (Γ×d!) _ (λx1=>(bR x1.1.2 (bc x.n) (jn (ck (fm x1.1.2 (ah x1.n)) (jn (kj (ul x1.n x1.1.2) x1.j (lt ((((dV l7 x1.j (ul x1.n x1.1.2)).1).2).1) λz4=>(kj x1.1.1 x1.j (lt ((((dV l7 x1.j x1.1.1).1).2).1) λz5=>(bn z4 z5 (kj (ul x1.n x1.1.2) x1.j (lt (((dV l7 x1.j (ul x1.n x1.1.2)).1).1) λz6=>(kj x1.1.1 x1.j (lt (((dV l7 x1.j x1.1.1).1).1) λz7=>(iK z6 z7 (kj (ul x1.n x1.1.2) x1.j (lt ((((((dV l7 x1.j (ul x1.n x1.1.2)).1).2).2).2).2) λz8=>(aL z8 (kj x1.1.1 x1.j (lt ((((((dV l7 x1.j x1.1.1).1).2).2).2).2) λN=>(aL (!N) (kj (ul x1.n x1.1.2) x1.j (lt ((((((dV l7 x1.j (ul x1.n x1.1.2)).1).2).2).2).1) λL=>(kj x1.1.1 x1.j (lt (((((dV l7 x1.j x1.1.1).1).2).2).1) λF=>(aH ((x1.1.1,(ul x1.n x1.1.2),(fM L F)),x1.2)))))) (aH ((x1.1.1,(ul x1.n x1.1.2),aa),x1.2))))) (kj (ul x1.n x1.1.2) x1.j (lt ((((((dV l7 x1.j (ul x1.n x1.1.2)).1).2).2).2).1) λD=>(kj x1.1.1 x1.j (lt (((((dV l7 x1.j x1.1.1).1).2).2).1) λA=>(aH ((x1.1.1,(ul x1.n x1.1.2),(fM D A)),x1.2))))))))) (aH ((x1.1.1,(ul x1.n x1.1.2),aa),x1.2))))))) (aH ((x1.1.1,(ul x1.n x1.1.2),aa),x1.2))))))) λz=>(aL z.1.2.2 (ay (j8 (z.1.2.1,z.2)) λd=>(bI (ax (ah z.n) (ah d.l)&&(ax (ah z.o) (ah d.k)&&(ax (ah z.k) (ah d.i)&&(ax (ah z.i) (ah d.f)&&(ax (ah z.f) (ah d.d)&&(ax (ah z.d) (ah d.c)&&(ax (ah z.c) (ah d.b)&&(ax (ah z.b) (ah d.a)&&(ax (ah z.a) (ah d.2.1)&&J))))))))) (aH (z.1.1,d)))) (aH (z.1.1,z.2))))) λx2=>(c7 ((x2.1,(cS x1.1.2)),x2.2))) (aH x1.2))) ((x.1,0),x.2))
def vy (x:Int×d!):M Ye4:=rV @iter x
def kI (x:Int×d!):M Ye4:=rV @hZ x
def nO (it:Cp) (x:M?):M Ye7:=
 (bI (dj 0 (bc x.2.1.1.c)&&dj (bc x.2.1.1.c) (bc x.2.1.1.c)&&bh (aS (bc x.2.1.1.c)) 8) (ay (ji (x.1.2,x.2)) λN=>(bI (ax (ah x.n) (ah N.n)&&(ax (ah x.o) (ah N.o)&&(ax (ah x.k) (ah N.k)&&(ax (ah x.i) (ah N.i)&&(ax (ah x.f) (ah N.f)&&(ax (ah x.d) (ah N.d)&&(ax (ah x.c) (ah N.c)&&(ax (ah x.b) (ah N.b)&&(ax (ah x.a) (ah N.a)&&J))))))))) (it Ye8 _ (λx2=>(bR x2.1 (bc N.1) (jn (bY aP N.1 x2.1 λz4=>(jR 0 z4 (jZ (.sl aP) x2.a z4 λz5=>(ay (lH (x2.E,z5)) λy6=>(aH (x2.2.1,x2.a,x2.b,x2.c,x2.d,x2.f,x2.i,x2.k,x2.o,x2.l,x2.n,x2.j,x2.r,x2.u,x2.v,y6)))) (aH x2.2))) λx3=>(c7 ((cS x2.1),x3))) (ay (jn (α:=c!) (ay (mS x2.v) λy8=>(aL y8 (it Ye8 _ (λx9=>(bR x9.1 (be .i64 ((bc x2.2.1.1.2.1)+1)) (jn (aL (ui (x9.v.1,x9.1) x9.l) (ay (kJ ((fc (x9.v.1,x9.1) x9.l),x9.2)) λF=>(bI (ax (ah x9.n) (ah F.l)&&(ax (ah x9.o) (ah F.k)&&(ax (ah x9.k) (ah F.i)&&(ax (ah x9.i) (ah F.f)&&(ax (ah x9.f) (ah F.d)&&(ax (ah x9.d) (ah F.c)&&(ax (ah x9.c) (ah F.b)&&(ax (ah x9.b) (ah F.a)&&(ax (ah x9.a) (ah F.2.1)&&J))))))))) (ay (j7 (((fc (x9.v.1,x9.1) x9.l),F.u),F.n)) λy12=>(aH (F.1,F.2.1,F.a,F.b,F.c,F.d,F.f,F.i,F.k,F.o,F.l,y12,F.z))))) (aH x9.2)) λx10=>(c7 ((cS x9.1),x10))) (aH (cw x9.2)))) (0,x2.2)) (aH x2.2))) λx7=>(jn (ay (mj (x7.1.1,x7.u)) λy14=>(aL (ui (x7.u.1,y14) x7.o) (it (Int×(ep×Y gh)×(Y η)×xp×(η)×(η)×(η)×(η)×(η)×(η)×AM×(η)×(Y zO)×(Y η)×(Y η)×gh×(η)×Bool) _ (λd=>(aL d.L (ay (kI (d.1,d.2.1,d.a,d.b,d.c,d.d,d.f,d.i,d.k,d.o,d.l,d.n,d.j,d.r,d.u,d.B,aa)) λD=>(bI (ax (ah d.n) (ah D.l)&&(ax (ah d.o) (ah D.k)&&(ax (ah d.k) (ah D.i)&&(ax (ah d.i) (ah D.f)&&(ax (ah d.f) (ah D.d)&&(ax (ah d.d) (ah D.c)&&(ax (ah d.c) (ah D.b)&&(ax (ah d.b) (ah D.a)&&(ax (ah d.a) (ah D.2.1)&&J))))))))) (c7 (d.1,D.1,D.2.1,D.a,D.b,D.c,D.d,D.f,D.i,D.k,D.o,D.l,D.n,D.j,D.r,d.v,D.s)))) (aH (cw (d.2.1,d.a,d.b,d.c,d.d,d.f,d.i,d.k,d.o,d.l,d.n,d.j,d.r,d.u,d.v,d.B))))) ((fc (x7.u.1,y14) x7.o),x7.1,x7.2.1,x7.a,x7.b,x7.c,x7.d,x7.f,x7.i,x7.k,x7.o,x7.l,x7.n,x7.j,x7.r,x7.u,x7.F,J)) (aH x7))) λz=>(ay (q_ (z.F,z.u.1)) λy17=>(bI (bh (ah z.2.1+ah ([y17])) 24) (bY aP y17 z.u.1 λz18=>(bI (bh (ah z.a+ah ([(z18,z.u.1)])) 16) (ay (iI ((x.1.1,z.u),z.1,(z.2.1++([y17])),(z.a++([(z18,z.u.1)])),z.b,z.c,z.d,z.f,z.i,z.k,z.o,z.l,z.n,z.j,z.r)) λA=>(bI (ax (ah z.l) (ah z.l)&&(ax (ah z.k) (ah A.k)&&(ax (ah z.i) (ah A.i)&&(ax (ah z.f) (ah A.f)&&(ax (ah z.d) (ah A.d)&&(ax (ah z.c) (ah A.c)&&(ax (ah z.b) (ah A.b)&&(ax (ah (z.a++([(z18,z.u.1)]))) (ah A.a)&&(ax (ah (z.2.1++([y17]))) (ah A.2.1)&&J))))))))) (ay (gM ((x.1.1,z.u),A.1,A.2.1,A.a,A.b,A.c,A.d,A.f,A.i,A.k,A.o,A.j,A.D,A.l,A.n)) λL=>(bI (ax (ah A.j) (ah L.l)&&(ax (ah A.k) (ah L.k)&&(ax (ah A.i) (ah L.i)&&(ax (ah A.f) (ah L.f)&&(ax (ah A.d) (ah L.d)&&(ax (ah A.c) (ah L.c)&&(ax (ah A.b) (ah L.b)&&(ax (ah A.a) (ah L.a)&&(ax (ah A.2.1) (ah L.2.1)&&J))))))))) (Z (L.1,L.b,L.c,L.d,L.f,L.i,L.k,L.o,L.2.1,L.a,L.y)))))))))))) λr=>Z (cw r)))) (0,N.2.1,N.a,N.b,N.c,N.d,N.f,N.i,N.k,N.o,N.l,N.n,N.j,N.r,N.s,x.1.2,(aF (aS (bc x.2.1.1.c)) (0:Int)))))))
def rG (x:M?):M Ye7:=nO @iter x
def gm (x:M?):M Ye7:=nO @hZ x
abbrev g?:=(Y η)×xp×(η)×(η)×(η)×(η)×(η)×(η)×AM×(η)×(Y η)×(Y η)×Y zO
def uV (it:Cp) (x:n!):M Ye3:=
 (ay (lO (bc x.1.c)) λN=>(ay (lO (bc x.1.c)) λL=>(ay (lO (bc x.1.c)) λF=>(ay (lO (bc x.1.c)) λD=>(bI (dj 0 (bc x.1.1)&&dj (bc x.1.1) (bc x.1.1)&&bh (aS (bc x.1.1)) 24) (bI (dj 0 (bc x.1.b)&&dj (bc x.1.b) (bc x.1.b)&&bh (aS (bc x.1.b)) 24) (it (Int×(ep×Y gh)×g?) _ (λd=>(bR d.1 (bc x.2) (bY gx x.2 d.1 λA=>(ay (gm ((d.1,A),d.2.1,d.a,d.b,d.c,d.d,d.f,d.i,d.k,d.o,d.l,d.n,d.s,d.j,d.r)) λz=>(bI (ax (ah d.n) (ah d.n)&&(ax (ah d.o) (ah z.f)&&(ax (ah d.k) (ah z.d)&&(ax (ah d.i) (ah z.c)&&(ax (ah d.f) (ah z.b)&&(ax (ah d.d) (ah z.a)&&(ax (ah d.c) (ah z.2.1)&&(ax (ah d.b) (ah d.b)&&(ax (ah d.a) (ah d.a)&&J))))))))) (c7 ((cS d.1),z.1,z.k,z.o,z.2.1,z.a,z.b,z.c,z.d,z.f,z.i,z.l,z.j,z.D,z.n))))) (aH (d.2.1,d.a,d.b,d.c,d.d,d.f,d.i,d.k,d.o,d.l,d.n,d.s,d.j,d.r)))) (0,x,([]:Y η),([]:Y Γ),N,L,F,D,(aF (aS (bc x.1.1)) (0:Int)),(aF (aS (bc x.1.b)) (0:Int)),([]:Y e?),([]:η),(aF (aS (bc x.1.1)) ([]:η)),(aF (aS (bc x.1.b)) ([]:η)),([]:Y zO)))))))))
def yS (x:n!):M Ye3:=uV @iter x
def lD (x:n!):M Ye3:=uV @hZ x
def mT (x:n!):M ((Y η)×Int):=
 (ay (jO x) λz=>(iK z.2 0 (Z (([]:Y η),12)) (ay (lD x) λd=>(Z (d.2.1,0)))))
abbrev L?:=(ep×Y gh)×(ep×Y gh)×xp×gh×g?
abbrev N?:=(ep×Y gh)×(ep×Y gh)×xp×g?
def tT (it:Cp) (x:n!):M (xp×Int):=
 (ay (jO x) λy1=>(iK y1.2 0 (Z (([]:Y Γ),12)) (ay (lD x) λF=>(it (Int×N?) _ (λA=>(bR A.1 (bc x.2) (jn (α:=N?) (bY gx x.2 A.1 λz5=>(jn (ay (mS z5) λy7=>(aL (!y7) (aH (J,A.2.1,A.a,A.b,z5,A.g)) (bY mD A.2.1.1.1 z5.a λz8=>(aH (z8.2.2.2.1,A.2.1,A.a,A.b,z5,A.g))))) λx6=>(aL x6.1 (aH (x6.2.1,x6.a,x6.b,x6.h)) (bI (dj 0 A.1&&dj A.1 (ah x6.2.1.2)) (it (Int×L?) _ (λz=>(bR z.1 (aR (ah (dg (aS A.1) x6.2.1.2))) (jn (α:=L?) (bY gx (dg (aS A.1) x6.2.1.2) z.1 λL=>(jn (ay (mS L) λy13=>(aL (!y13) (aH (J,z.2.1,z.a,z.b,z.c,L,z.h)) (iK L.a z.c.a (aH (J,z.2.1,z.a,z.b,z.c,L,z.h)) (aH ((decide ((L.1:Int)=z.c.1)),z.2.1,z.a,z.b,z.c,L,z.h))))) λd=>(aL d.1 (aH (d.2.1,d.a,d.b,d.c,d.m)) (jn (bn d.d.2.1 4 (aH (J,d.2.1,d.a,d.b,d.c,d.m)) (aH ((decide ((d.c.2.1:Int)=4)),d.2.1,d.a,d.b,d.c,d.m))) λN=>(jn (aL N.1 (jZ (.sl aP) N.d A.1 λz16=>(jZ fP N.f z.1 λz17=>(ay (kA (z16,z17)) λy18=>(aH ((!y18),N.2))))) (aH (aa,N.2))) λD=>(aL D.1 (bI (bh (ah D.b+ah ([(z.1,A.1)])) 16) (aH (D.2.1,D.a,(D.b++([(z.1,A.1)])),D.g))) (aH D.2))))))) λx10=>(c7 ((cS z.1),x10))) (aH (cw (z.2.1,z.a,z.b,z.h))))) (0,x6.2)))))) λx4=>(c7 ((cS A.1),x4))) (aH (A.b,0)))) (0,x,F.1,([]:Y Γ),F.2.1,F.a,F.b,F.c,F.d,F.f,F.i,F.k,F.o,F.l,F.j,F.D,F.n)))))
def A_ (x:n!):M (xp×Int):=tT @iter x
def ju (x:n!):M (xp×Int):=tT @hZ x
def Rw (it:Cp) (x:Unit):M ep:=
 (it E! _ (λx1=>(bR x1.1 (aR (ah ([[109,97,105,110],[116,49],[116,50],[116,51]]))) (it E! _ (λx2=>(bR x2.1 6 (bI (bh (ah x2.m+ah ([(x1.1,x2.1,(be .i64 ((be .i64 ((be .i64 (10*x1.1))+x2.1))+1)))])) 24) (c7 ((cS x2.1),x2.2.1,x2.a,x2.b,x2.c,x2.d,(x2.m++([(x1.1,x2.1,(be .i64 ((be .i64 ((be .i64 (10*x1.1))+x2.1))+1)))]))))) (aH (wF ((cS x1.1),x2.2))))) (0,x1.2)) (aH x1.2))) (0,[([120],0,0,aa,0),([121],0,0,aa,1),([118],0,0,J,0),([113],0,2,aa,0),([113],1,2,aa,0)],[([109],aa),([110],aa),([114],J)],[([99],0)],[[102]],[[109,97,105,110],[116,49],[116,50],[116,51]],([]:Y ν)))
def Q6 (x:Unit):M ep:=Rw @iter x
def ES (x:Unit):M ep:=Rw @hZ x
def p_ (x:Bool):M n!:=
 (jn (aL x (aH 1) (aH 3)) λx1=>(ay (ES ()) λd=>(Z (d,[(0,1,(-1),0,(-1),([]:η),([]:η)),(0,20,1,0,0,([]:η),([]:η)),(1,1,(-1),0,(-1),([]:η),([]:η)),(0,4,0,5,0,([]:η),([]:η)),(0,6,0,0,0,([]:η),([]:η)),(0,4,1,6,0,([]:η),([]:η)),(0,7,0,0,0,([]:η),([]:η)),(1,6,0,0,6,([]:η),([]:η)),(1,4,x1,7,6,([]:η),([]:η)),(1,7,0,0,6,([]:η),([]:η)),(1,4,0,8,6,([]:η),([]:η))]))))
def rR (x:Unit):M (Bool):=
 (ay (p_ aa) λF=>(ay (ju F) λd=>(ay (p_ J) λD=>(ay (ju D) λA=>(jn (α:=Bool) (bn d.2 0 (bn A.2 0 (bn (bc d.1) 1 (bY fP d.1 0 λz=>(aL (P1 (.pr aP (.pr aP .un)) (z.1,z.2,()) (3,10,()) !=aa) (aH (decide (((bc A.1):Int)=0))) (aH aa))) (aH aa)) (aH aa)) (aH aa)) λL=>(Z L))))))
def ng (x:(η×(η)×η)×o!):M n!:=
 (ay (mn (x.1,x.2.1)) λd=>(bn (bc d.2) 0 (Z d) (bI (bh (ah (d.2:Y gh)) 88) (bI (!decide (((bc d.2):Int)=0)) (kj (bJ (be .i64 x.a) (bc d.2)) d.2 (jn (α:=oN×nJ×(Y kF)×dC×dC×(Y ν)×Y gh) (bn (bJ x.b 9) 0 (kj (bJ (be .i64 x.a) (bc d.2)) d.2 (aH (d.1.1,d.1.2.1,d.1.a,d.1.b,d.1.c,d.1.h,(cJ d.2 (bJ (be .i64 x.a) (bc d.2)) ((bJ (be .i64 x.g) 8),(geti gx d.2 (bJ (be .i64 x.a) (bc d.2))).2))))) (bn (bJ x.b 9) 1 (kj (bJ (be .i64 x.a) (bc d.2)) d.2 (aH (d.1.1,d.1.2.1,d.1.a,d.1.b,d.1.c,d.1.h,(cJ d.2 (bJ (be .i64 x.a) (bc d.2)) ((geti gx d.2 (bJ (be .i64 x.a) (bc d.2))).1,(be .i64 (1+(bJ (be .i64 (be .u8 x.g)) 24))),((geti gx d.2 (bJ (be .i64 x.a) (bc d.2))).2).2))))) (bn (bJ x.b 9) 2 (kj (bJ (be .i64 x.a) (bc d.2)) d.2 (aH (d.1.1,d.1.2.1,d.1.a,d.1.b,d.1.c,d.1.h,(cJ d.2 (bJ (be .i64 x.a) (bc d.2)) ((geti gx d.2 (bJ (be .i64 x.a) (bc d.2))).1,((geti gx d.2 (bJ (be .i64 x.a) (bc d.2))).2).1,(bJ (be .i64 x.g) 8),(((geti gx d.2 (bJ (be .i64 x.a) (bc d.2))).2).2).2))))) (bn (bJ x.b 9) 3 (kj (bJ (be .i64 x.a) (bc d.2)) d.2 (aH (d.1.1,d.1.2.1,d.1.a,d.1.b,d.1.c,d.1.h,(cJ d.2 (bJ (be .i64 x.a) (bc d.2)) ((geti gx d.2 (bJ (be .i64 x.a) (bc d.2))).1,((geti gx d.2 (bJ (be .i64 x.a) (bc d.2))).2).1,(((geti gx d.2 (bJ (be .i64 x.a) (bc d.2))).2).2).1,(bJ (be .i64 x.g) 8),((((geti gx d.2 (bJ (be .i64 x.a) (bc d.2))).2).2).2).2))))) (bn (bJ x.b 9) 4 (kj (bJ (be .i64 x.a) (bc d.2)) d.2 (aH (d.1.1,d.1.2.1,d.1.a,d.1.b,d.1.c,d.1.h,(cJ d.2 (bJ (be .i64 x.a) (bc d.2)) ((geti gx d.2 (bJ (be .i64 x.a) (bc d.2))).1,((geti gx d.2 (bJ (be .i64 x.a) (bc d.2))).2).1,(((geti gx d.2 (bJ (be .i64 x.a) (bc d.2))).2).2).1,((((geti gx d.2 (bJ (be .i64 x.a) (bc d.2))).2).2).2).1,(bJ (be .i64 x.g) 8),(((((geti gx d.2 (bJ (be .i64 x.a) (bc d.2))).2).2).2).2).2))))) (bn (bJ x.b 9) 5 (bY gx d.2 (bJ (be .i64 x.a) (bc d.2)) λD=>(bI (bh (ah (D.2.2.2.2.2.1:η)) 8) (bI (bh (ah D.2.2.2.2.2.1+ah ([(bJ (be .i64 x.g) 8)])) 8) (kj (bJ (be .i64 x.a) (bc d.2)) d.2 (aH (d.1.1,d.1.2.1,d.1.a,d.1.b,d.1.c,d.1.h,(cJ d.2 (bJ (be .i64 x.a) (bc d.2)) ((geti gx d.2 (bJ (be .i64 x.a) (bc d.2))).1,((geti gx d.2 (bJ (be .i64 x.a) (bc d.2))).2).1,(((geti gx d.2 (bJ (be .i64 x.a) (bc d.2))).2).2).1,((((geti gx d.2 (bJ (be .i64 x.a) (bc d.2))).2).2).2).1,(((((geti gx d.2 (bJ (be .i64 x.a) (bc d.2))).2).2).2).2).1,(D.2.2.2.2.2.1++([(bJ (be .i64 x.g) 8)])),((((((geti gx d.2 (bJ (be .i64 x.a) (bc d.2))).2).2).2).2).2).2)))))))) (bn (bJ x.b 9) 6 (bY gx d.2 (bJ (be .i64 x.a) (bc d.2)) λA=>(bI (bh (ah (A.2.2.2.2.2.2:η)) 8) (bI (bh (ah A.2.2.2.2.2.2+ah ([(bJ (be .i64 x.g) 8)])) 8) (kj (bJ (be .i64 x.a) (bc d.2)) d.2 (aH (d.1.1,d.1.2.1,d.1.a,d.1.b,d.1.c,d.1.h,(cJ d.2 (bJ (be .i64 x.a) (bc d.2)) ((geti gx d.2 (bJ (be .i64 x.a) (bc d.2))).1,((geti gx d.2 (bJ (be .i64 x.a) (bc d.2))).2).1,(((geti gx d.2 (bJ (be .i64 x.a) (bc d.2))).2).2).1,((((geti gx d.2 (bJ (be .i64 x.a) (bc d.2))).2).2).2).1,(((((geti gx d.2 (bJ (be .i64 x.a) (bc d.2))).2).2).2).2).1,((((((geti gx d.2 (bJ (be .i64 x.a) (bc d.2))).2).2).2).2).2).1,(A.2.2.2.2.2.2++([(bJ (be .i64 x.g) 8)])))))))))) (jn (aH ((decide (((bJ x.b 9):Int)=7)),d.1.1,d.1.2.1,d.1.a,d.1.b,d.1.c,d.1.h,d.2)) λz=>(aL z.1 (bI ((decide ((bJ (be .i64 x.a) (bc d.2))=(bJ (be .i64 x.a) (bc d.2)))&&dj 0 (bJ (be .i64 x.a) (bc d.2)))&&dj (bJ (be .i64 x.a) (bc d.2)) (ah z.p)) (bI (dj 0 (be .i64 ((bJ (be .i64 x.a) (bc d.2))+1))&&dj (be .i64 ((bJ (be .i64 x.a) (bc d.2))+1)) (ah z.p)) (bI (bh (ah (dg (aS (bJ (be .i64 x.a) (bc d.2))) z.p)+ah (List.drop (aS (be .i64 ((bJ (be .i64 x.a) (bc d.2))+1))) z.p)) 88) (aL (ax (ah (List.drop (aS (be .i64 ((bJ (be .i64 x.a) (bc d.2))+1))) z.p)) 0) (aH (z.2.1,z.a,z.b,z.c,z.d,z.f,(dg (aS (bJ (be .i64 x.a) (bc d.2))) z.p))) (aH (z.2.1,z.a,z.b,z.c,z.d,z.f,((dg (aS (bJ (be .i64 x.a) (bc d.2))) z.p)++(List.drop (aS (be .i64 ((bJ (be .i64 x.a) (bc d.2))+1))) z.p)))))))) (aH z.2)))))))))) λx2=>(Z ((x2.1,x2.2.1,x2.a,x2.b,x2.c,x2.d),x2.m))))))))
def mq (x:n!):M (Bool):=
 (ay (ol x) λA=>(ay (mT x) λd=>(ay (ju x) λz=>(bn A.2 0 (jn (bn d.2 0 (bn z.2 0 (aH (decide (((bc d.1):Int)=(bc x.2)))) (aH aa)) (aH aa)) λF=>(Z F)) (jn (bn d.2 12 (bn z.2 12 (aH (decide (((be .i64 ((bc d.1)+(bc z.1))):Int)=0))) (aH aa)) (aH aa)) λD=>(Z D))))))
def kO (x:(ep×Y gh)×(η×(η)×η)×Int×j!):M (Bool):=
 (jn (bR 30 (bc x.1.2) (aH (J,x)) (bR 60 (be .i64 ((be .i64 ((be .i64 ((be .i64 ((bc x.1.1.1)+(bc x.1.1.2.1)))+(bc x.1.1.a)))+(bc x.1.1.b)))+(bc x.1.1.c))) (aH (J,x)) (aH ((fM 300 (bc x.1.1.h)),x)))) λx1=>(aL x1.1 (ay (rR ()) λF=>(Z F)) (jn (α:=Bool) (ay (mq x1.2.1) λD=>(aL D (ay (ng (x1.a,20,x1.e)) λA=>(ay (mq A) λz=>(aL z (ay (rR ()) λd=>(aH d)) (aH aa)))) (aH aa))) λL=>(Z L))))
@[simp] theorem F5 (t f:M R):aL J t f=t:=Eq.trans rfl rfl
@[simp] theorem Sa (t f:M R):aL aa t f=f:=Eq.trans rfl rfl
@[simp] theorem chk_t (k:J=J->M R):chk J k=k rfl:=Eq.trans rfl rfl
variable {b:Bool}
def v9 (h:b=J) (k:M R):chk b (λ_=>k)=k:=by cases b with|true=>rfl|false=>cases h
@[simp] theorem Y_ {α:Type} (x:α) (k:α->M R):ay (Z x) k=k x:=Eq.trans rfl rfl
@[simp] theorem af3 {α:Type} (x:α) (k:α->M R):jn (Z (.inr x)) k=k x:=Eq.trans rfl rfl
@[simp] theorem jn_l {α:Type} (r:R) (k:α->M R):jn (Z (.inl r)) k=Z r:=Eq.trans rfl rfl
def ajc {σ:Type} {f:σ->M (σ⊕R)} {x:σ} {r:R} (h:iterN f i x=Z r) (d:i<=18446744073709551616):hZ f x=Z r:=xZ h d
def af4 {σ:Type} {f:σ->M (σ⊕R)} (n:Nat) (z:n<18446744073709551616) (st:Nat->σ) {r:R} (h0:∀i,i<n->f (st i)=Z (.inl (st (i+1)))) (h1:f (st n)=Z (.inr r)):hZ f (st 0)=Z r:=by
 have key:∀k i,i+k=n->iterN f (k+1) (st i)=Z r:=by
  intro k;induction k with
  |zero=>intro i hi;have:i=n:=by omega
         subst this;simp only[iterN,h1]
  |succ k d=>intro i hi;rw[iterN,h0 i (by omega)];exact d (i+1) (by omega)
 exact ajc (key n 0 (by omega)) (by omega)
@[simp] theorem afg {b:Int}:dj a b=J↔a<=b:=by unfold dj;simp
@[simp] theorem afe {b:Int}:fM a b=J↔a<b:=by unfold fM;simp
def E5 {b:Int} (h:a<=b):dj a b=J:=afg.2 h
def TO {b:Int} (h:a<b):fM a b=J:=afe.2 h
def aqi {b:Int} (h:b<a):dj a b=aa:=by unfold dj;simp;omega
def aff {b:Int} (h:b<=a):fM a b=aa:=by unfold fM;simp;omega
def aqh (h0:0<=a) (h1:a<i):fm a i=J:=by unfold fm;rw[E5 h0,TO h1];rfl
def uT (h1:j<i):fm (j:Int) i=J:=aqh (by omega) (by omega)
def Y0 (h0:i<=1099511627776) (h1:i*j<=1099511627776):bh i j=J:=by
 unfold bh;rw[ba h0,ba h1];rfl
def ale (h0: -9223372036854775808<=a) (h1:a<=9223372036854775807):be .i64 a=a:=by
 rw[J5];unfold Pb;simp only[];rw[E5 h0,E5 h1];rfl
def Pa (h:i<j) (d:j<=1099511627776):be .i64 ((i:Int)+1)=((i+1:Nat):Int):=by
 rw[ale (by omega) (by omega)];omega
def LC (a b:Nat):oI (aR a) (aR b)=((max a b:Nat):Int):=by
 unfold oI;by_cases h:a<b
 .rw[TO (by simp;omega),aG rfl];simp;omega
 .rw[aff (by simp;omega)];simp;omega
def Uq (xs:Y T.den) (i:Nat):geti _ xs (i:Int)=xs.getD i T.zero:=by unfold geti;simp
def vq (xs:Y R) (i:Nat) (x:R):cJ xs (i:Int) x=xs.set i x:=by unfold cJ;simp
def big:Nat:=1000000000
def jl (a b:η):η:=(kY (max (l! a) (l! b))).map λi=>oI (a.getD i 0) (b.getD i 0)
def GM (a b:η):l! (jl a b)=max (l! a) (l! b):=by simp[jl]
def Re (a b:η) (i:Nat):(jl a b).getD i 0=oI (a.getD i 0) (b.getD i 0):=by
 unfold jl;simp only[aB,a8];by_cases h:i<max (l! a) (l! b)
 .rw[ru h];rfl
 .rw[bK (by simp only[List.length_range];omega),bK (l:=a) (by omega),bK (l:=b) (by omega)];rfl
def YN (c:η) (i:Nat):o8 (c,(i:Int))=Z (c.getD i 0):=by
 unfold o8 bR kj bc aH;simp only[];rw[aff (by omega)];simp only[Sa,af3];by_cases h:i<l! c
 .rw[aqi (by simp;omega)];simp only[Sa];rw[v9 (uT h),Uq];rfl
 .rw[E5 (by simp;omega)];simp only[F5];rw[aB,bK (by omega)];rfl
def Sn (a b:η) (F:l! a<=big) (D:l! b<=big):lH (a,b)=Z (jl a b):=by
 unfold big at F D;unfold lH wU ck bR bI bc c7 aH cS;have hm:max (l! a) (l! b)<=1000000000:=by omega
 rw[v9 (by simp only[LC];rw[E5 (by omega),E5 (by omega),Y0 (by simp;omega) (by simp;omega)];rfl)];simp only[LC,bF,cm];have:=af4 (σ:=i?) (R:=η) (max (l! a) (l! b)) (by omega) (λi=>((i:Int),(kY (max (l! a) (l! b))).map λk=>if k<i then oI (a.getD k 0) (b.getD k 0) else 0)) (f:=(λx1=>(aL (fM x1.1 (aR (max (l! a) (l! b)))) (ay (o8 (a,x1.1)) λz=>(ay (o8 (b,x1.1)) λd=>(chk (fm x1.1 (ah x1.2)) λ_=>(chk (fm x1.1 (ah x1.2)) λ_=>(Z (wF ((be .i64 (x1.1+1)),(cJ x1.2 x1.1 (oI z d))))))))) (Z (cw x1.2))))) (r:=jl a b) ?_ ?_
 .refine Eq.trans ?_ this;congr 1;simp only[Int.natCast_zero,ll,c8,aI,true_and];apply sw<;>simp
 .intro i hi;simp only[];rw[TO (by simp;omega),F5,YN,YN,Y_,Y_,v9 (uT (by simpa using hi)),v9 (uT (by simpa using hi)),Pa hi (by omega),vq];congr 3;apply sw
  .simp
  .intro k h1 h2;simp only[bS,List.length_range]at h2;simp only[List.getElem_set,List.getElem_map,List.getElem_range];by_cases e:i=k
   .subst e;simp
   .by_cases h:k<i
    .rw[aA e,aG h,aG (by omega)]
    .rw[aA e,aA h,aA (by omega)]
 .simp only[];rw[aff (by simp),Sa];congr 2;unfold jl;apply nA;intro k A;rw[aG (oR.1 A)]
def tk (c:η) (t:Nat):η:=(c++aF (t+1-l! c) 0).set t (c.getD t 0+1)
def Pe (c:η) (t:Nat):l! (tk c t)=max (l! c) (t+1):=by simp[tk];omega
def aq8 (c:η) (n i:Nat):(c++aF n 0).getD i 0=c.getD i 0:=by
 simp only[aB];by_cases h:i<l! c
 .rw[bz h]
 .rw[bU (by omega),bK (l:=c) (by omega),fJ];split<;>rfl
def KE (c:η) (t i:Nat):(tk c t).getD i 0=if i=t then c.getD t 0+1 else c.getD i 0:=by
 unfold tk;rw[aB,db];by_cases h:t=i
 .subst h;rw[aG rfl,aG (by simp;omega),aG rfl];rfl
 .rw[aA h,aA (λe=>h e.symm),<-aB,aq8]
def ag6 (c:η) (n:Nat) (h:l! c<=n):Wq (aF n 0) c=c++aF (n-l! c) 0:=by
 unfold Wq;rw[cm,gi h,List.drop_replicate]
def akq (c:η) (t:Nat) (z:l! c<=big) (ht:t<4) (h0:0<=c.getD t 0) (h1:c.getD t 0<9223372036854775807):q_ (c,(t:Int))=Z (tk c t):=by
 unfold big at z;unfold q_ ck jR bI bc aH cS;simp only[];rw[E5 (by omega),F5,af3,TO (by omega)];simp only[F5,af3];have e1:oI (aR (l! c)) (be .i64 ((t:Int)+1))=((max (l! c) (t+1):Nat):Int):=by
  rw[Pa ht (by omega)];exact LC _ _
 rw[e1];rw[v9 (by rw[E5 (by omega),E5 (by omega),Y0 (by simp;omega) (by simp;omega)];rfl)];rw[bF];have e2:Wq (aF (max (l! c) (t+1)) (0:Int)) c=c++aF (t+1-l! c) 0:=by
  rw[ag6 c _ (by omega)];rw[show max (l! c) (t+1)-l! c=t+1-l! c from by omega]
 rw[e2];have d:t<l! (c++aF (t+1-l! c) (0:Int)):=by simp;omega
 rw[v9 (uT d),v9 (uT d),af3];have A:geti aP (c++aF (t+1-l! c) (0:Int)) (t:Int)=c.getD t 0:=by
  rw[Uq];exact aq8 c _ t
 simp only[];rw[A,TO h1,F5,v9 (uT d),v9 (uT d),v9 (uT d),v9 (uT d),af3,ale (by omega) (by omega),vq];rfl
abbrev WO:Type:=(Int×Int×Int×Int×Bool)×Y (Int×Bool)×Y (Int×Bool)
def po (l:Y ET) (i:Nat):Nat:=(eN l i).1.toNat
def ct (l:Y ET) (u:Nat):Nat->Nat
 |0=>0
 |n+1=>ct l u n+if po l n=u then 1 else 0
def ZC (l:Y ET) (u:Nat):∀{n m:Nat},n<=m->ct l u n<=ct l u m:=by
 intro n m h;induction h with
 |refl=>exact cA _
 |step _ d=>exact c9 d (by simp only[ct];omega)
def aqu (l:Y ET) (u:Nat):∀n,ct l u n<=n
 |0=>cA _
 |n+1=>by have:=aqu l u n;simp only[ct];split<;>omega
def XR (l:Y ET) (i:Nat):ct l (po l i) (i+1)=ct l (po l i) i+1:=by simp only[ct,bw]
def D' (T j:Nat) (x:η):Prop:=l! x=T/\∀u:Nat,u<T-> -1<=x.getD u 0/\x.getD u 0<(j:Int)
def D'.up (h:D' i j A):D' i (j+1) A:=⟨h.1,λu d=>by have:=h.2 u d;omega⟩
def D'.set (h:D' i j A) (u:Nat) (h0: -1<=a) (h1:a<=(j:Int)):D' i (j+1) (cJ A (u:Int) a):=by
 refine ⟨by rw[cR];exact h.1,λk d=>?_⟩;rw[vq,aB,db];by_cases e:u=k
 .rw[aG e];split
  .simp only[nY];omega
  .rename_i z;have:=h.1;omega
 .rw[aA e,<-aB];have:=h.2 k d;omega
def D'.geti {T:Nat} (h:D' T j A) (h0:0<=a) (h1:a<T): -1<=AI.geti (T:=aP) A a/\AI.geti (T:=aP) A a<(j:Int):=by
 have e:a=((a.toNat:Nat):Int):=by omega
 rw[e,AG];exact h.2 _ (by omega)
def NL (n j:Nat) (st:η) (si:Y η):Prop:=l! st=n/\l! si=n/\∀o:Nat,o<n->st.getD o 0=(l! (si.getD o []):Int)/\l! (si.getD o [])<=j/\∀v∈si.getD o [],0<=v/\v<(j:Int)
def NL.up {si:Y η} (h:NL i j A si):NL i (j+1) A si:=⟨h.1,h.2.1,λo z=>by obtain⟨a,b,c⟩:=h.2.2 o z;exact⟨a,by omega,λv d=>by have:=c v d;omega⟩⟩
def Kk (d:η) (o:Nat):ul d (o:Int)=d.getD o 0:=by unfold ul;rw[bF]
def yO (xss:Y η) (o:Nat):xF (T:=aP) xss (o:Int)=xss.getD o []:=by unfold xF;rw[bF]
def vp (w:WT) (la sp wa:η) (si ei:Y η) (e:ET):η:=[geti aP la e.1]++
 (if e.2.1=1 then [geti aP sp e.1] else if e.2.1=21 then [geti aP la e.2.2.1] else if e.2.1=23 then xF (T:=aP) ei e.2.2.1
  else if e.2.1=3 then (if (geti mD w.1 e.2.2.1).2.2.2.1=J then xF (T:=aP) si e.2.2.1 else []) else if e.2.1=17 then [geti aP wa e.1] else [])
def WI (hev:Sy B e) (hj:j<=1000) {c:Y η} {tm:Y Γ} {sp wa wt st se:η} {op:Y e?} {re:η} {ar:Y WO} {si ei:Y η}
 (h1:D' (l! B.2.2.2.2.1) j A) (h2:D' (l! B.2.2.2.2.1) j sp) (h3:D' (l! B.2.2.2.2.1) j wa) (h4:NL (l! B.1) j st si) (h5:NL (l! B.2.2.2.1) j se ei):
 ji (e,(B,Q),c,tm,A,sp,wa,wt,st,se,op,re,ar,si,ei)=Z (vp B A sp wa si ei e,(B,Q),c,tm,A,sp,wa,wt,st,se,op,re,ar,si,ei):=by
 refine cf ?_;obtain⟨nm,N,L,cd⟩:=hev;obtain⟨t,k,o,v,s,r1,r2⟩:=e;dsimp only at nm N L;unfold ji jH ki kh yH aY bi bt b7 dc fx kl lA Prod.s ck bn kj bI bY jZ aH;dsimp only;have l1:=h1.1;have l2:=h2.1;have l3:=h3.1;have gY:∀{R:Type} {l:R->Prop} {x:η} {u:Int} {k:Int->M R},l! x=l! B.2.2.2.2.1->0<=u->u<l! B.2.2.2.2.1->Ok (k (geti aP x u)) l->Ok (chk (fm u (l! x)) λ_=>chk (fm u (l! x)) λ_=>lt (geti aP x u) k) l:=λhl h0 h1 hk=>aJ h0 (by omega) (aJ h0 (by omega) (aT hk))
 refine gY l1 N L ?_;refine aV (λx=>x=((B,Q),c,tm,A,sp,wa,wt,st,se,op,re,ar,si,ei,vp B A sp wa si ei (t,k,o,v,s,r1,r2))) ?_ ?_
 .refine aK (λg=>?_) λla=>?_
  .refine gY l2 N L (a_ (by simp) (by omega) (aj ?_));dsimp only;unfold vp;dsimp only;rw[aG g]
  refine aK (λg=>?_) λF=>?_
  .obtain⟨d,z⟩:=nm.th (.inr g);refine gY l1 d z (a_ (by simp) (by omega) (aj ?_));dsimp only;unfold vp;dsimp only;rw[aA la,aG g]
  have lst:∀{n:Nat} {xs:η} {xss:Y η},NL n j xs xss->0<=o->o<n->ax (aS (ul xs o)) (ah (xF (T:=aP) xss o))=J/\(ah (xF (T:=aP) xss o))<=j/\l! xs=n/\l! xss=n:=λ{n xs xss} h d z=>by
   have e:o=((o.toNat:Nat):Int):=by omega
   obtain⟨a,b,cc⟩:=h.2.2 o.toNat (by omega);rw[e,Kk,yO,a,bF];exact⟨eP _,b,h.1,h.2.1⟩
  refine aK (λg=>?_) λg3=>?_
  .obtain⟨d,z⟩:=nm.fu (.inr g);obtain⟨q1,q2,q3,q4⟩:=lst h5 d z;refine aJ d (by omega) (aJ d (by omega) (aJ d (by omega) (a9 q1 (a_ (by rw[bP];omega) (by omega) (aj ?_)))));dsimp only;unfold vp;dsimp only;rw[aA la,aA F,aG g]
  refine aK (λg=>?_) λg4=>?_
  .obtain⟨d,z⟩:=nm.ce (.inl g);obtain⟨q1,q2,q3,q4⟩:=lst h4 d z;refine aJ d z (aT ?_);refine aM (λD=>?_) λD=>?_
   .refine aJ d (by omega) (aJ d (by omega) (aJ d (by omega) (a9 q1 (a_ (by rw[bP];omega) (by omega) (aj ?_)))));dsimp only;unfold vp;dsimp only;rw[aA la,aA F,aA g3,aG g,aG D]
   .refine aj ?_;dsimp only;unfold vp;dsimp only;rw[aA la,aA F,aA g3,aG g,aA (by have D:(geti mD B.1 o).2.2.2.1=aa:=D;rw[D];simp)];rfl
  refine aK (λg=>?_) λg5=>?_
  .refine gY l3 N L (a_ (by simp) (by omega) (aj ?_));dsimp only;unfold vp;dsimp only;rw[aA la,aA F,aA g3,aA g4,aG g]
  .refine aj ?_;dsimp only;unfold vp;dsimp only;rw[aA la,aA F,aA g3,aA g4,aA g5];rfl
 .rintro x rfl;exact aj rfl
def W6 (o j:Int) (n:Nat) (wt wa:η):η:=(kY (l! wa)).map λu=>if u<n/\wt.getD u 0=o then j else wa.getD u 0
def Tz (o:Int) (n:Nat) (wt:η):η:=(kY (l! wt)).map λu=>if u<n/\wt.getD u 0=o then -1 else wt.getD u 0
def Q5 (o j:Int) (n:Nat) (wt wa:η):l! (W6 o j n wt wa)=l! wa:=by simp[W6]
def Q4 (o:Int) (n:Nat) (wt:η):l! (Tz o n wt)=l! wt:=by simp[Tz]
def aj8 (o j:Int) (n:Nat) (wt wa:η) (d:i<l! wa):(W6 o j n wt wa).getD i 0=if i<n/\wt.getD i 0=o then j else wa.getD i 0:=by
 unfold W6;rw[aB,a8,ru d];rfl
def aj6 (o:Int) (n:Nat) (wt:η) (d:i<l! wt):(Tz o n wt).getD i 0=if i<n/\wt.getD i 0=o then -1 else wt.getD i 0:=by
 unfold Tz;rw[aB,a8,ru d];rfl
def aeo (o j:Int) (wt wa:η):W6 o j 0 wt wa=wa:=by
 unfold W6;apply sw
 .simp
 .intro k h1 h2;simp[aB,aD h2]
def aen (o:Int) (wt:η):Tz o 0 wt=wt:=by
 unfold Tz;apply sw
 .simp
 .intro k h1 h2;simp[aB,aD h2]
def an1 {j:Int} {wa:η} (h:A.getD i 0≠a):W6 a j (i+1) A wa=W6 a j i A wa:=by
 unfold W6;refine nA λu _=>?_
 by_cases e:u=i
 .subst e;rw[aA (λq=>h q.2),aA (λq=>h q.2)]
 .by_cases q:u<i/\A.getD u 0=a
  .rw[aG q,aG ⟨by omega,q.2⟩]
  .rw[aA q,aA (λz=>q ⟨by omega,z.2⟩)]
def an0 (h:A.getD i 0≠a):Tz a (i+1) A=Tz a i A:=by
 unfold Tz;refine nA λu _=>?_
 by_cases e:u=i
 .subst e;rw[aA (λq=>h q.2),aA (λq=>h q.2)]
 .by_cases q:u<i/\A.getD u 0=a
  .rw[aG q,aG ⟨by omega,q.2⟩]
  .rw[aA q,aA (λz=>q ⟨by omega,z.2⟩)]
def aj7 {j:Int} {wa:η} (h:A.getD i 0=a):W6 a j (i+1) A wa=cJ (W6 a j i A wa) (i:Int) j:=by
 rw[vq];unfold W6;apply sw
 .simp
 .intro k h1 h2;simp only[List.getElem_set,List.getElem_map,List.getElem_range];by_cases e:i=k
  .subst e;rw[aG rfl,aG ⟨by omega,h⟩]
  .rw[aA e];by_cases q:k<i/\A.getD k 0=a
   .rw[aG q,aG ⟨by omega,q.2⟩]
   .rw[aA q,aA (λz=>q ⟨by omega,z.2⟩)]
def aj5 (h:A.getD i 0=a):Tz a (i+1) A=cJ (Tz a i A) (i:Int) (-1):=by
 rw[vq];unfold Tz;apply sw
 .simp
 .intro k h1 h2;simp only[List.getElem_set,List.getElem_map,List.getElem_range];by_cases e:i=k
  .subst e;rw[aG rfl,aG ⟨by omega,h⟩]
  .rw[aA e];by_cases q:k<i/\A.getD k 0=a
   .rw[aG q,aG ⟨by omega,q.2⟩]
   .rw[aA q,aA (λz=>q ⟨by omega,z.2⟩)]
def I0 (j:Int) (e:ET) (sp:η):η:=if e.2.1=20 then cJ sp e.2.2.1 j else sp
def IZ (j:Int) (e:ET) (wt wa:η):η:=if e.2.1=18 then (if 0<=e.2.2.2.1 then cJ wa e.2.2.2.1 j else wa) else if e.2.1=19 then W6 e.2.2.1 j (l! wt) wt wa else wa
def NO (e:ET) (wt:η):η:=if e.2.1=16 then cJ wt e.1 e.2.2.1 else if e.2.1=18 then (if 0<=e.2.2.2.1 then cJ wt e.2.2.2.1 (-1) else wt) else if e.2.1=19 then Tz e.2.2.1 (l! wt) wt else wt
def OY (k:Int) (j:Int) (e:ET) (st:η) (si:Y η):η:=if e.2.1=k then wn st (aS e.2.2.1) (aR (ah (xF (T:=aP) si e.2.2.1++[j]))) else st
def Qr (k:Int) (j:Int) (e:ET) (si:Y η):Y η:=if e.2.1=k then Dw (T:=aP) (Dw (T:=aP) si e.2.2.1 []) e.2.2.1 (xF (T:=aP) si e.2.2.1++[j]) else si
def akh (k j:Int) (e:ET) (si:Y η) (A:i<l! si) (h0:e.2.1=k->0<=e.2.2.1):(Qr k j e si).getD i []=if e.2.1=k/\e.2.2.1=(i:Int) then si.getD i []++[j] else si.getD i []:=by
 unfold Qr;by_cases h:e.2.1=k
 .rw[aG h];have h0:=h0 h;have d:e.2.2.1=((e.2.2.1.toNat:Nat):Int):=by omega
  unfold Dw;rw[aB,db];by_cases q:e.2.2.1.toNat=i
  .rw[aG q,iu,aG (by omega),aG ⟨h,by omega⟩];simp only[nY];rw[d,yO,q]
  .rw[aA q,db,aA q,aA (λz=>q (by omega)),<-aB]
 .rw[aA h,aA (λz=>h z.1)]
def akg (k j:Int) (e:ET) (si:Y η):l! (Qr k j e si)=l! si:=by
 unfold Qr Dw;split
 .simp
 .rfl
def aki (k j:Int) (e:ET) (st:η) (si:Y η) (A:i<l! st) (h0:e.2.1=k->0<=e.2.2.1):(OY k j e st si).getD i 0=if e.2.1=k/\e.2.2.1=(i:Int) then (l! (si.getD i []++[j]):Int) else st.getD i 0:=by
 unfold OY;by_cases h:e.2.1=k
 .rw[aG h];have h0:=h0 h;have d:e.2.2.1=((e.2.2.1.toNat:Nat):Int):=by omega
  rw[aB,db];by_cases q:e.2.2.1.toNat=i
  .rw[aG q,aG (by omega),aG ⟨h,by omega⟩];simp only[nY];rw[d,yO,q];rfl
  .rw[aA q,aA (λz=>q (by omega)),<-aB]
 .rw[aA h,aA (λz=>h z.1)]
def NL.ad {si:Y η} (h:NL i j A si) (k:Int) (e:ET) (h0:e.2.1=k->0<=e.2.2.1):NL i (j+1) (OY k (j:Int) e A si) (Qr k (j:Int) e si):=by
 obtain⟨a,b,c⟩:=h;refine ⟨by unfold OY;split<;>simp[a],by rw[akg,b],λo z=>?_⟩;obtain⟨q1,q2,q3⟩:=c o z;rw[aki _ _ _ _ _ (by omega) h0,akh _ _ _ _ (by omega) h0];split
 .refine ⟨rfl,by rw[bG,bP];omega,λv d=>?_⟩;rcases bE.1 d with d|d
  .have:=q3 v d;omega
  .simp only[aE]at d;omega
 .exact⟨q1,by omega,λv d=>by have:=q3 v d;omega⟩
def D'.wa {wt:η} (h:D' i j A) (e:ET) (z:e.2.1=18->e.2.2.2.1<i):D' i (j+1) (IZ (j:Int) e wt A):=by
 unfold IZ;split
 .rename_i g;split
  .rename_i wa;have e0:e.2.2.2.1=((e.2.2.2.1.toNat:Nat):Int):=by omega
   rw[e0];exact h.set _ (by omega) (eE _)
  .exact h.up
 .split
  .refine ⟨by rw[Q5];exact h.1,λu d=>?_⟩;rw[aj8 _ _ _ _ _ (by rw[h.1];exact d)];split
   .omega
   .have:=h.2 u d;omega
  .exact h.up
def KB (e:ET) (wt:η):l! (NO e wt)=l! wt:=by
 unfold NO;split
 .exact cR _ _ _
 .split
  .split
   .exact cR _ _ _
   .rfl
  .split
   .exact Q4 _ _ _
   .rfl
def D'.sp (h:D' i j A) (e:ET) (h0:e.2.1=20->0<=e.2.2.1):D' i (j+1) (I0 (j:Int) e A):=by
 unfold I0;split
 .rename_i g;have e0:e.2.2.1=((e.2.2.1.toNat:Nat):Int):=by have:=h0 g;omega
  rw[e0];exact h.set _ (by omega) (eE _)
 .exact h.up
def ag1 (hev:Sy B e) (hj:j<=1000) (hT:l! B.2.2.2.2.1<=4) (F:e.2.1=18->e.2.2.2.1<l! B.2.2.2.2.1) {c:Y η} {tm:Y Γ} {sp wa wt st se:η} {op:Y e?} {re:η} {ar:Y WO} {si ei:Y η}
 (h1:D' (l! B.2.2.2.2.1) j A) (h2:D' (l! B.2.2.2.2.1) j sp) (h3:D' (l! B.2.2.2.2.1) j wa) (hwt:l! wt=l! B.2.2.2.2.1) (h4:NL (l! B.1) j st si) (h5:NL (l! B.2.2.2.1) j se ei):
 gM (((j:Int),e),(B,Q),c,tm,A,sp,wa,wt,st,se,op,re,ar,si,ei)=Z ((B,Q),c,tm,cJ A e.1 (j:Int),I0 (j:Int) e sp,IZ (j:Int) e wt wa,NO e wt,OY 4 (j:Int) e st si,OY 22 (j:Int) e se ei,op,re,ar,Qr 4 (j:Int) e si,Qr 22 (j:Int) e ei):=by
 refine cf ?_;obtain⟨nm,la,L,cd⟩:=hev;obtain⟨t,k,o,v,s,r1,r2⟩:=e;dsimp only at nm la L F;unfold gM mX jH ki kh yH Prod.u Prod.C aY bi bt b7 dc fx kl lA Prod.s cY dN s9 ck bn bR jR kj bI jZ bc c7 aH cS;dsimp only;have l1:=h1.1;have l2:=h2.1;have l3:=h3.1;have cB:∀{R:Type} {l:R->Prop} {n:Nat} {u:Int} {k:M R},0<=u->u<n->Ok k l->Ok (ck (fm u n) k) l:=λh0 h1 N=>aJ h0 h1 (aJ h0 h1 N)
 refine cB la (by omega) ?_;refine aV (λx=>x=((B,Q),c,tm,cJ A t (j:Int),I0 (j:Int) (t,k,o,v,s,r1,r2) sp,IZ (j:Int) (t,k,o,v,s,r1,r2) wt wa,NO (t,k,o,v,s,r1,r2) wt,OY 4 (j:Int) (t,k,o,v,s,r1,r2) st si,OY 22 (j:Int) (t,k,o,v,s,r1,r2) se ei,op,re,ar,Qr 4 (j:Int) (t,k,o,v,s,r1,r2) si,Qr 22 (j:Int) (t,k,o,v,s,r1,r2) ei)) ?_ ?_
 .unfold I0 IZ NO OY Qr;dsimp only;have lst:∀{n:Nat} {xs:η} {xss:Y η},NL n j xs xss->0<=o->o<n->ax (aS (ul xs o)) (ah (xF (T:=aP) xss o))=J/\(aS (ul xs o))<=j/\l! xs=n/\l! xss=n:=λ{n xs xss} h d z=>by
   have e:o=((o.toNat:Nat):Int):=by omega
   obtain⟨a,b,cc⟩:=h.2.2 o.toNat (by omega);rw[e,Kk,yO,a,bF];exact⟨eP _,b,h.1,h.2.1⟩
  refine aK (λg=>?_) λg1=>?_
  .obtain⟨d,z⟩:=nm.th (.inl g);refine cB d (by omega) (aj ?_);subst g;simp only[aX,bw,c8]
  refine aK (λg=>?_) λg2=>?_
  .obtain⟨d,z⟩:=nm.fu (.inl g);obtain⟨q1,q2,q3,q4⟩:=lst h5 d z;refine cB d (by omega) (aJ d (by omega) (c6 (a9 q1 (a_ (by rw[bP];omega) (by omega) (cB d (by omega) (aj ?_))))));subst g;simp only[aX,bw,c8]
  refine aK (λg=>?_) λg3=>?_
  .obtain⟨d,z⟩:=nm.ce (.inr g);obtain⟨q1,q2,q3,q4⟩:=lst h4 d z;refine cB d (by omega) (aJ d (by omega) (c6 (a9 q1 (a_ (by rw[bP];omega) (by omega) (cB d (by omega) (aj ?_))))));subst g;simp only[aX,bw,c8]
  refine aK (λg=>?_) λg4=>?_
  .refine cB la (by omega) (aj ?_);subst g;simp only[aX,bw,c8]
  refine aK (λg=>?_) λg5=>?_
  .subst g;refine dW (λv0=>?_) λv0=>?_
   .have v1:=F rfl;refine cB v0 (by omega) (cB v0 (by omega) (aj ?_));simp only[aX,bw,c8,v0]
   .refine aj ?_;simp only[aX,bw,c8,Int.not_le.2 v0]
  refine aK (λg=>?_) λg6=>?_
  .subst g;refine dO (l! wt) (by omega) (λi x=>x=((i:Int),(B,Q),c,tm,cJ A t (j:Int),sp,W6 o (j:Int) i wt wa,Tz o i wt,st,se,op,re,ar,si,ei,(t,19,o,v,s,r1,r2))) ?_ ?_ (by rw[aeo,aen];simp only[Int.natCast_zero])
   .rintro i x hi rfl;refine gQ ?_;refine aV (λx=>x=((B,Q),c,tm,cJ A t (j:Int),sp,W6 o (j:Int) (i+1) wt wa,Tz o (i+1) wt,st,se,op,re,ar,si,ei,(t,19,o,v,s,r1,r2))) ?_ ?_
    .dsimp only;have D:fm (i:Int) (l! (Tz o i wt))=J:=E3.2 ⟨by omega,by rw[Q4];omega⟩;refine a9 D (a9 D (aT ?_));have gv:geti aP (Tz o i wt) (i:Int)=wt.getD i 0:=by
      rw[AG,aj6 _ _ _ hi,aA (by omega)]
     rw[gv];refine aK (λh=>?_) λh=>?_
     .have h:wt.getD i 0=o:=h;refine cB (by omega) (by rw[Q5];omega) (cB (by omega) (by rw[Q4];omega) (aj ?_));rw[aj7 h,aj5 h]
     .have h:¬wt.getD i 0=o:=h;refine aj ?_;rw[an1 h,an0 h]
    .rintro x rfl;refine aj ?_;show _=_;rw[fA]
   .rintro x rfl;refine gC (aj ?_);simp only[aX,bw,c8]
  .refine aj ?_;simp only[g1,g2,g3,g4,g5,g6,c8]
 .rintro x rfl;exact aj rfl
end
end Go.Proofs.YtlimcnhpkfopcaaGreatDoor.AI
