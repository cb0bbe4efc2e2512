/-
  Texts of the proof, part 2 of 5: what is used to prove the statement. No condition.
-/
import Derived.Test.YtcmnmakaoonfgaaGreatDoorWeakClosesQ0
import Derived.KernelRfl
namespace Go.Proofs.YtcmnmakaoonfgaaGreatDoor.AI
open Go.RowKit
set_option maxRecDepth 100000
set_option maxHeartbeats 4000000
set_option linter.unusedVariables false
set_option linter.unusedSimpArgs false
set_option linter.defProp false
open _root_.Bool renaming true→J,false→aa,not_false→mw,not_true→yS,false_or→EC
open _root_.Int renaming ofNat_eq_natCast→al,ofNat→aP,toNat→aQ,reduceEq→bz,reduceNeg→bB,toNat_natCast→cf,le_trans→s7,tmod→Cc
open _root_.List renaming length→l!,length→ah,replicate→aF,length_cons→bK,length_singleton→cj,take→dF,map→fP,range→iR,toArray→jI,replicate_succ→kR,length_nil→kW,append→sE,nodup_cons→t8,foldl_cons→t_,getElem?_concat_length→uK,set→wj
open _root_.Nat renaming beq→aA,testBit→aK,add_zero→cX,ble→dK,blt→ef,min→jH
open _root_.Option renaming some→Z,none→U,getD_some→nY
open _root_.Prod renaming a→a8,b→bt,c→bI,d→b_,e→cA,h→dj,g→dJ,f→dO,k→fD,j→iC,l→lG,i→mo,n→mq,m→mF,o→nJ,ext→oS,p→pV,s→wG,q→B_
open _root_.Sum renaming inr→cv,inl→wF
noncomputable section
structure cF where
 pre:Tm
 post:Tm
 m:pre.ty.den->Option post.ty.den
def Yy:Y o?->Y TV->PT Nat->PT Nat
 |(i,_)::r,.H a _::vs,σ=>Yy r vs (σ.set i (Z a))
 |_::r,_::vs,σ=>Yy r vs σ
 |_,_,σ=>σ
mutual
def ame:PV->Y TV->PT Nat->PT Nat×Y TV
 |.d T,l,σ=>(σ,l.drop T.size)
 |.H i _,l,σ=>match l with|.H a _::r=>(σ.set i (Z a),r)|l=>(σ,l.drop 1)
 |.G i,l,σ=>match l with|.G a::r=>(σ.set i (Z a),r)|l=>(σ,l.drop 1)
 |.qv i _ _,l,σ=>match l with|.qv a _ _::r=>(σ.set i (Z a),r)|l=>(σ,l.drop 1)
 |.mp i,l,σ=>match l with|.mp a::r=>(σ.set i (Z a),r)|l=>(σ,l.drop 1)
 |.qy _ ps,l,σ=>match l with|.qy _ vs::r=>(Yy ps vs σ,r)|l=>(σ,l.drop 1)
 |.ob i _,l,σ=>match l with|.sb (.ob a _ _)::r=>(σ.set i (Z a),r)|l=>(σ,l.drop 1)
 |.nil,l,σ|.emp,l,σ=>(σ,l.drop 1)
 |.agg ps,l,σ=>Yz ps l σ
def Yz:Y PV->Y TV->PT Nat->PT Nat×Y TV
 |[],l,σ=>(σ,l)
 |p::r,l,σ=>match ame p l σ with|(σ',l')=>Yz r l' σ'
end
def ark (p:PV) (v:TV) (σ:PT Nat):PT Nat:=match p with
 |.d _=>σ
 |p=>match v.cs with|some l=>(ame p l σ).1|none=>σ
def ags:Y PV->Y TV->PT Nat->PT Nat
 |p::r,v::vs,σ=>ags r vs (ark p v σ)
 |_,_,σ=>σ
def YA (h:a_):Nat->Y PB->PT Nat->PT Nat
 |_,[],σ=>σ
 |i,b::r,σ=>YA h (i+1) r (match b with
  |.C _ z=>(match σ.get i with
   |some a=>(match h.get a with|some (.C _ l)=>(Yz z l σ).1|_=>σ)
   |none=>σ)
  |.I F j=>(match σ.get i with
   |some a=>(match h.get a with|some (.I _ b _)=>(if aA (F.aid 1) 0 then σ else σ.set j (Z b))|_=>σ)
   |none=>σ)
  |_=>σ)
def io (σ:PT Nat) (i:Nat):Nat:=match σ.get i with|some a=>a|none=>0
def ae1 (σ:PT Nat):Nat->Nat->Nat->M Nat
 |0,_,acc=>Z acc
 |n+1,i,acc=>match σ.get i with
  |some a=>if aK acc a then U else ae1 σ n (i+1) (acc|||gf a)
  |none=>U
def idn:Nat->PT Nat
 |0=>.leaf
 |n+1=>(idn n).set n (Z n)
def ZB (σ:PT Nat):Nat->Bool
 |0=>J
 |n+1=>(match σ.get n with|some a=>aA a n|none=>aa)&&ZB σ n
structure amr (t:Tm) where
 x:t.ty.den
 m:Nat
 σ:PT Nat
 sm:Nat
def DY (np:Nat) (t:Tm) (vs:Y TV) (h:a_):M (amr t):=
 Uz (YA h 0 t.bs (YA h 0 t.bs (ags t.vs vs (idn np)))) λσ=>
 match ae1 σ (l! t.bs) 0 0 with
 |some sm=>(match An (io σ) h t.vs vs with
  |some (x,m)=>(match C_ (io σ) h 0 t.bs with
   |some (y,m')=>if F6 (m|||m') sm&&ZB σ np then Z ⟨Xg _ _ x y,m|||m',σ,sm⟩ else U
   |none=>U)
  |none=>U)
 |none=>U
variable {R:Type}
def PT.updI (f:Nat->R->R):Nat->Nat->PT R->PT R
 |_,_,.leaf=>.leaf
 |a,b,.node v l r=>.node (match v with|some x=>Z (f b x)|none=>U) (PT.updI f (2*a) (a+b) l) (PT.updI f (2*a) (2*a+b) r)
def dL (m:Nat) (h:a_):a_:=if aA m 0 then h else PT.updI (λi b=>if aK m i then uA b else b) 1 0 h
def Xs:Operand->Bool
 |.const (.agg _)=>J
 |_=>aa
def dA (e:hX):Operand->M TV
 |.tmp t=>e.get t
 |.const v=>anv v
 |.func g=>Z (.qy g [])
 |.global g=>match G g with|some _=>Z (.zk kwT [kwV] 0 (Eq.refl J) 0)|none=>U
def K3 (e:hX):Y Operand->M (Y TV)
 |[]=>Z []
 |x::xs=>match dA e x with|some y=>(match K3 e xs with|some z=>Z (y::z)|none=>U)|none=>U
def L8 (cells:Y TV) (e:hX):Y m?->M (Y TV)
 |[]=>Z cells
 |(off,sz,x)::r=>match dA e x with
  |some v=>(match v.cs with
   |some cs=>if (l! cs)==sz&&dK (off+sz) (l! cells) then L8 (splice cells off cs) e r else U
   |none=>U)
  |none=>U
def WN (l:Y TV) (off sz:Nat):Bool->M TV
 |false=>if aA sz 1 then l[off]? else U
 |true=>if dK (off+sz) (l! l) then Z (.agg ((l.drop off).take sz)) else U
def eE (h:a_) (id:Nat):M (Bool×o?):=match h.get id with
 |some (.F _ p T xs)=>Z (p,T.size,l! xs)
 |some (.qj p sz n)=>Z (p,sz,n)
 |some (.I F _ x)|some (.qm F _ x _ _)=>rV F x
 |_=>U
def lenOf (h:a_):TV->M Nat
 |.f (.sl _) xs=>Z (ah xs)
 |.emp|.nil=>Z 0
 |.G id=>match eE h id with|some (_,_,n)=>Z n|none=>U
 |.qv _ _ n|.sb (.nr _ _ _ n)=>Z n
 |_=>U
mutual
def N0 (h:a_):TV->Bool
 |.G id|.zm id _=>(eE h id).isSome
 |.qd _ _=>J
 |.sb _=>J
 |.agg l|.qg l|.qy _ l=>lR h l
 |.f _ _=>J
 |.zk _ _ _ _ _=>J
 |.ql _ _ _ _=>J
 |.H _ _=>J
 |.qv _ _ _=>J
 |.emp=>J
 |.nil=>J
 |.mp _=>J
 |.undef=>J
 |.np=>J
 |.qw=>J
def lR (h:a_):Y TV->Bool
 |[]=>J
 |x::r=>N0 h x&&lR h r
end
mutual
def Kf (n:Nat):TV->Bool
 |.G id|.zm id _=>ef id n
 |.qd _ _=>J
 |.sb s=>ef s.id n
 |.ql id _ _ _|.H id _|.qv id _ _|.mp id=>ef id n
 |.agg l|.qg l|.qy _ l=>rN n l
 |.f _ _=>J
 |.zk _ _ _ _ _=>J
 |.emp=>J
 |.nil=>J
 |.undef=>J
 |.np=>J
 |.qw=>J
def rN (n:Nat):Y TV->Bool
 |[]=>J
 |x::r=>Kf n x&&rN n r
end
def C7 (t:Tm) (x:t.ty.den):M (Y TV×a_):=
 match rm (λi=>i) t.vs (Ru _ _ x) with
 |some vs=>(match Pc (λi=>i) t.bs (NQ _ _ x) PT.leaf with
  |some h=>if lR h vs&&rN (l! t.bs) vs&&PT.all (λ_ b=>match b with|.C _ l=>lR h l&&rN (l! t.bs) l|.I _ a _=>ef a (l! t.bs)|.qm _ _ _ _ _=>aa|_=>J) 1 0 h then Z (vs,h) else U
  |none=>U)
 |none=>U
abbrev KO (R:Type):=TV->Nat->Nat->a_->Nat->M R
def Tg:Y TV->TV
 |[x]=>x
 |l=>.qg l
def DS:Y PB->Bool
 |[]=>J
 |.qk::_=>aa
 |_::r=>DS r
def Ku:Y PB->Bool
 |[]=>J
 |.F _ _ _::r=>Ku r
 |_::_=>aa
def vw (h z:a_) (g:Nat->Nat):Nat->Bool
 |0=>J
 |n+1=>(match eE h (g n) with
  |some (p,s,k)=>(match eE z (g n) with|some (A,s',D)=>(p==A)&&aA s s'&&aA k D|none=>aa)
  |none=>J)&&vw h z g n
def aif (f:FuncId):Y TV->FuncId
 |[]=>f
 |.qy g _::_=>f+65536*(g+1)
 |_::r=>aif f r
def anx (con:FuncId->M cF) (f:FuncId) (l:Y TV):M cF:=match ef f 65536 with
 |true=>(match con (aif f l) with|some c=>Z c|none=>con f)
 |false=>U
def ZX (con:FuncId->M cF) (f:FuncId) (l:Y TV) (h:a_) (nx:Nat) (K:KO R):M R:=
 match anx con f l with
 |some c=>(match DY 0 c.pre l h with
  |some ⟨x,m,σ,sm⟩=>(match C7 c.pre x with
   |some _=>ay (c.m x) λy=>(match C7 c.post y with
    |some _=>if dK (l! c.pre.bs) (l! c.post.bs)&&DS c.pre.bs then
      let np:=l! c.pre.bs
      let D:=l! c.post.bs-np
      let g:=λi=>if ef i np then io σ i else nx+(i-np)
      (match rm g c.post.vs (Ru _ _ y) with
      |some z=>if !(aA m 0)&&aA (l! c.post.bs) 0&&(PV.tyL c.post.vs).flat then K (Tg z) m 0 h nx else
       (match Pc g c.post.bs (NQ _ _ y) (dL m h) with
       |some A=>chk (vw h A g np) λ_=>K (Tg z) (sm|||m) (sm|||m|||(((1<<<D)-1)<<<nx)) A (nx+D)
       |none=>U)
      |none=>U) else if aA (l! c.post.bs) 0&&Ku c.pre.bs then
      let np:=l! c.pre.bs
      let g:=λi=>if ef i np then io σ i else nx+(i-np)
      (match rm g c.post.vs (Ru _ _ y) with
      |some z=>(match Pc g c.pre.bs (NQ _ _ x) (dL m h) with
       |some A=>K (Tg z) (sm|||m) m A nx
       |none=>U)
      |none=>U) else U
    |none=>U)
   |none=>U)
  |none=>U)
 |none=>U
def ao1 (op:BinOp) (x y:TV) (q:TV->M R):M R:=
 match x,y with
 |.f (.int k) a,.f (.int z) b=>if k==z then
   (match op with
   |.add=>q (.f (.int k) (bA k (a+b)))
   |.sub=>q (.f (.int k) (bA k (a-b)))
   |.mul=>q (.f (.int k) (bA k (a*b)))
   |.rem=>chk (!decide ((b:Int)=0)) λ_=>q (.f (.int k) (Cc a b))
   |.quo=>chk (!decide ((b:Int)=0)) λ_=>q (.f (.int k) (bA k (Int.tdiv a b)))
   |.eql=>q (.f .bool (decide ((a:Int)=b)))
   |.neq=>q (.f .bool (!decide ((a:Int)=b)))
   |.lss=>q (.f .bool (fQ a b))
   |.leq=>q (.f .bool (dg a b))
   |.gtr=>q (.f .bool (fQ b a))
   |.geq=>q (.f .bool (dg b a))
   |_=>U)
  else U
 |.f .str a,.f .str b=>match op with
   |.eql=>q (.f .bool (decide ((a:ζ)=b)))
   |.neq=>q (.f .bool (!decide ((a:ζ)=b)))
   |_=>U
 |_,_=>U
def aan:Bool->Ty->Bool
 |false,.int _=>J
 |true,.str=>J
 |_,_=>aa
def isIt:Ty->Bool
 |.st (.pr .str (.int .i64))=>J
 |_=>aa
def Xe (K:Ty):Bool:= !isIt K
def NG:Y ((ζ×Int)×Unit)->ζ
 |[]=>[]
 |e::_=>e.1.1
def Lw:Y ((ζ×Int)×Unit)->Nat
 |[]=>0
 |e::_=>aQ e.1.2
def rnP (s:ζ) (p:Nat):Int:=rnA (List.getD s p 0) ⟨jI s⟩ p
def wdP (s:ζ) (p:Nat):Nat:=wdA (List.getD s p 0) ⟨jI s⟩ p
def itE:(K V:Ty)->Y (K.den×V.den)->M (ζ×Nat)
 |.st (.pr .str (.int .i64)),.un,es=>Z (NG es,Lw es)
 |_,_,_=>U
def mpE:(K V:Ty)->Y (K.den×V.den)->Bool
 |.un,.un,[]=>J
 |_,_,_=>aa
def yH (T:Ty):Y TV->M (Y T.den)
 |[]=>Z []
 |.f S v::r=>match tV (S:=S) T v with
  |some x=>(match yH T r with|some l=>Z (x::l)|none=>U)
  |none=>U
 |_::_=>U
def agv:Y TV->M ((T:Ty)×Y T.den)
 |.f T v::r=>match yH T (.f T v::r) with|some l=>Z ⟨T,l⟩|none=>U
 |_=>U
def ar7 (n sz:Nat) (v:TV):Bool->M ((T:Ty)×Y T.den)
 |true=>U
 |false=>if aA sz 1&& !v.isC then (match v.cs with|some l=>if aA (l! l) n then agv l else U|none=>U) else U
def arrB (n sz off:Nat):M eP->M ((T:Ty)×Y T.den)
 |some (.C (Z _) l)=>if aA sz 1&&aA off 0&&aA (l! l) n then agv l else U
 |_=>U
def am9:Ty->Nat
 |.pr .un t=>am9 t+1
 |_=>0
def Gb:M Ty->M Nat
 |some (.pr .un t)=>Z (am9 t)
 |_=>U
def amb (ty:TypeId) (sz bytes:Nat) (b y:TV) (h:a_) (nx:Nat) (K:KO R):M R:=match y with
 |.qv id2 sz2 m=>(match h.get id2 with
  |some (.C (Z _) z)=>if aA sz2 sz&&aA (l! z) (m*sz)&& !(aA m 0) then (match b with
   |.qv id sz1 n=>(match h.get id with
    |some (.C (Z ty1) l)=>if aA sz1 sz&&ty1==ty&&aA (l! l) (n*sz)&& !(aA id id2) then
      chk (be (n+m) bytes) λ_=>K (.qv nx sz (n+m)) (gf id|||gf id2) (gf id|||gf nx) ((h.set id (Z (.qj J 0 0))).set nx (Z (.C (Z ty) (l++z)))) (nx+1) else U
    |_=>U)
   |.nil=>chk (be m bytes) λ_=>K (.qv nx sz m) (gf id2) (0|||gf nx) ((dL 0 h).set nx (Z (.C (Z ty) z))) (nx+1)
   |_=>U) else U
  |_=>U)
 |_=>U
def akj (ty:TypeId) (sz bytes:Nat) (T:Ty) (b:TV) (z:Y T.den) (m:Nat) (h:a_) (nx:Nat) (K:KO R):M R:=match b with
 |.G id=>(match h.get id with
  |some (.F ty' p S xs)=>(match tV (S:=.sl S) (.sl T) xs with
   |some xs=>if ty'==ty&& !(aK m id) then
     chk (be (ah xs+ah z) bytes) λ_=>K (.G nx) (gf id|||m) (gf id|||gf nx) ((h.set id (Z (.qj p sz (ah xs)))).set nx (Z (.F ty p T (xs++z)))) (nx+1)
    else U
   |none=>U)
  |_=>U)
 |.qd S xs=>if aA m 0 then (match tV (S:=.sl S) (.sl T) xs with
  |some xs=>chk (be (ah xs+ah z) bytes) λ_=>aI (aA (ah z) 0) (K (.f (.sl T) xs) 0 0 h nx) (K (.G nx) 0 (0|||gf nx) ((dL 0 h).set nx (Z (.F ty aa T (xs++z)))) (nx+1))
  |none=>U) else U
 |.emp|.nil=>chk (be (ah z) bytes) λ_=>K (.G nx) m (gf nx) (h.set nx (Z (.F ty J T z))) (nx+1)
 |_=>U
def pkT (ok:Bool) (v b:TV):TV:=match ok with|true=>.qg [v,b]|false=>v
def eC (con:FuncId->M cF) (cg:TypeId->M Ty) (o:SI) (e:hX) (h:a_) (nx:Nat) (K:KO R):M R:=
 match o with
 |.call f args=>match K3 e args with|some l=>ZX con f l h nx K|none=>U
 |.jv x args=>match dA e x,K3 e args with
  |some (.qy f cap),Z l=>ZX con f (l++cap) h nx K
  |_,_=>U
 |.op s=>match s with
  |.zg ty sz bytes z l c=>match Gb (cg ty) with
   |some n=>(match MU z,dA e l,dA e c with
    |some N,Z (.f (.int _) a),Z (.f (.int _) b)=>chk (dg 0 a&&dg a b&&be (aQ b) bytes&&decide ((a:Int)=aP n)) λ_=>K (.qv nx sz n) 0 (0|||gf nx) ((dL 0 h).set nx (Z (.C (Z ty) (aF n N).flatten))) (nx+1)
    |_,_,_=>U)
   |none=>match cg ty,dA e l,dA e c with
   |some T,Z (.f (.int _) a),Z (.f (.int _) b)=>if aA sz T.size&&VV z (ux T) then
     chk (dg 0 a&&dg a b&&be (aQ b) bytes) λ_=>K (.G nx) 0 (gf nx) (h.set nx (Z (.F ty aa T (aF (aQ a) T.zero)))) (nx+1) else U
   |_,_,_=>U
  |.xw ty sz len z parts=>match Gb (cg ty) with
   |some _=>(match MU z with
    |some N=>(match L8 ((aF len N).flatten) e parts with
     |some cs=>if aA len 0 then U else K (.qv nx sz len) 0 (0|||gf nx) ((dL 0 h).set nx (Z (.C (Z ty) cs))) (nx+1)
     |none=>U)
    |none=>U)
   |none=>match cg ty,MU z with
   |some T,Z N=>if aA sz T.size then (match L8 ((aF len N).flatten) e parts with
    |some cs=>(match AY h T len cs with
     |some (xs,m)=>K (.G nx) m (m|||gf nx) ((dL m h).set nx (Z (.F ty (aA len 0) T xs))) (nx+1)
     |none=>U)
    |none=>U) else U
   |_,_=>U
  |.app ty sz bytes s x=>match Gb (cg ty) with
   |some _=>(match dA e s,dA e x with
    |some b,Z y=>amb ty sz bytes b y h nx K
    |_,_=>U)
   |none=>match cg ty,dA e s,dA e x with
   |some T,Z b,Z y=>if aA sz T.size then (match Ds h (.sl T) y with
    |some (ys,m)=>akj ty sz bytes T b ys m h nx K
    |none=>U) else U
   |_,_,_=>U
  |.copy sz d x=>match dA e d,dA e x with
   |some (.G id),Z y=>(match h.get id with
    |some (.F ty p T xs)=>if aA sz T.size then (match Ds h (.sl T) y with
     |some (ys,m)=>if !(aK m id)&& !p then
       K (.f (.int .i64) (aP (jH (ah ys) (ah xs)))) (gf id|||m) (gf id) (h.set id (Z (.F ty p T (Wz xs ys)))) nx else U
     |none=>U) else U
    |_=>U)
   |_,_=>U
  |.clr sz z x=>match dA e x with
   |some (.zm id j)=>(match h.get id with
    |some (.F ty p T xs)=>if (aA sz T.size&&VV z (ux T))&&nS z then
      chk (dg 0 j&&fQ j (ah xs)) λ_=>K (.qg []) (gf id) (0|||gf id) ((dL 0 h).set id (Z (.F ty p T (dF (aQ j) xs++aF (ah xs-aQ j) T.zero)))) nx
     else U
    |_=>U)
   |_=>U
  |.mv x=>match dA e x with|some v=>K v 0 0 h nx|none=>U
  |.pick c a b=>match dA e c with
   |some (.f .bool t)=>aI t (match dA e a with|some v=>K v 0 0 h nx|none=>U) (match dA e b with|some v=>K v 0 0 h nx|none=>U)
   |_=>U
  |.alloc ty z=>match MU z with
   |some l=>K (.H nx 0) 0 (gf nx) (h.set nx (Z (.C (Z ty) l))) (nx+1)
   |none=>U
  |.box ty x=>match dA e x with
   |some v=>(match v.cs with|some l=>K (.H nx 0) 0 (gf nx) (h.set nx (Z (.C (Z ty) l))) (nx+1)|none=>U)
   |none=>U
  |.build z parts=>match MU z with
   |some l=>(match L8 l e parts with|some cs=>K (.agg cs) 0 0 h nx|none=>U)
   |none=>U
  |.load sz D x=>match dA e x with
   |some (.H id off)=>(match h.get id with
    |some (.C (Z _) l)=>(match WN l off sz D with|some v=>K v (gf id) 0 h nx|none=>U)
    |_=>U)
   |some (.ql id sz' j off)=>(match h.get id with
    |some (.F _ _ T xs)=>if aA sz' T.size then chk (fA j (l! xs)) λ_=>(match nQ 40 T (geti _ xs j) off sz D with|some v=>K v (gf id) 0 h nx|none=>U) else U
    |some (.C (Z _) l)=>(match D with
     |true=>U
     |false=>if aA sz 1&&aA sz' 1&&aA off 0 then (match agv l with
      |some ⟨T,xs⟩=>chk (fA j (l! l)) λ_=>K (.f T (geti _ xs j)) (gf id) 0 h nx
      |none=>U) else U)
    |_=>U)
   |some (.zk T xs j _ off)=>(match nQ 40 T (geti _ xs j) off sz D with|some v=>K v 0 0 h nx|none=>U)
   |_=>U
  |.store sz x v=>match dA e x,dA e v with
   |some (.H id off),Z y=>(match h.get id with
    |some (.C (Z ty) l)=>(match y.cs with
     |some cs=>if (l! cs)==sz&&dK (off+sz) (l! l) then K .undef (gf id) (gf id) (h.set id (Z (.C (Z ty) (splice l off cs)))) nx else U
     |none=>U)
    |_=>U)
   |some (.ql id sz' j off),Z y=>(match h.get id with
    |some (.F ty p T xs)=>if aA sz' T.size then chk (fA j (l! xs)) λ_=>(match gO h y 40 T (geti _ xs j) off sz with
     |some (z,m)=>if aK m id then U else K .undef (m|||gf id) (m|||gf id) ((dL m h).set id (Z (.F ty p T (cN xs j z)))) nx
     |none=>U) else U
    |some (.C (Z ty) l)=>if aA sz 1&&(aA sz' 1&&aA off 0) then chk (fA j (l! l)) λ_=>(match y.cs with
     |some cs=>if aA (l! cs) 1 then K .undef (gf id) (gf id) (h.set id (Z (.C (Z ty) (splice l j.toNat cs)))) nx else U
     |none=>U) else U
    |_=>U)
   |_,_=>U
  |.zh x=>match dA e x with
   |some (.H id off)=>K (.H id off) 0 0 h nx
   |some (.ql id sz j off)=>K (.ql id sz j off) 0 0 h nx
   |some (.zk T xs j hj off)=>K (.zk T xs j hj off) 0 0 h nx
   |some (.qy g cap)=>K (.qy g cap) 0 0 h nx
   |_=>U
  |.bin op x y=>match dA e x,dA e y with
   |some u,Z v=>ao1 op u v λr=>K r 0 0 h nx
   |_,_=>U
  |.jm neg ds x y=>match sC ds,dA e x,dA e y with
   |some T,Z u,Z v=>if u.isC||v.isC||Xs x||Xs y then U else (match u.cs,v.cs with
    |some lu,Z lv=>(match fc PT.leaf 40 T lu,fc PT.leaf 40 T lv with
     |some (a,_,[]),Z (b,_,[])=>K (.f .bool (Sr T a b !=neg)) 0 0 h nx
     |_,_=>U)
    |_,_=>U)
   |_,_,_=>U
  |.zf neg x=>match dA e x with
   |some .nil=>K (.f .bool (!neg)) 0 0 h nx
   |some .emp=>K .qw 0 0 h nx
   |some (.f (.sl _) xs)=>aI (aA (ah xs) 0) (K .qw 0 0 h nx) (K (.f .bool neg) 0 0 h nx)
   |some (.G id)=>(match h.get id with
    |some (.F _ aa _ _)=>K (.f .bool neg) 0 0 h nx
    |_=>U)
   |_=>U
  |.xj neg x y=>match dA e x,dA e y with
   |some (.f .bool a),Z (.f .bool b)=>K (.f .bool ((a==b) !=neg)) 0 0 h nx
   |_,_=>U
  |.not x=>match dA e x with|some (.f .bool b)=>K (.f .bool (!b)) 0 0 h nx|_=>U
  |.conv k x=>match dA e x with|some (.f (.int _) n)=>K (.f (.int k) (bA k n)) 0 0 h nx|_=>U
  |.slc sz x lo hi mx=>match dA e x with
   |some v=>(match lo,hi,mx with
    |none,Z (.const (.int _ 0)),Z (.const (.int _ 0))=>if (lenOf h v).isSome then K .emp 0 0 h nx else U
    |none,Z b,U=>(match v,dA e b with
     |.f (.sl T) xs,Z (.f (.int _) j)=>if aA sz T.size then chk (dg 0 j&&dg j (ah xs)) λ_=>K (.f (.sl T) (dF (aQ j) xs)) 0 0 h nx else U
     |.G id,Z (.f (.int _) j)=>(match h.get id with
      |some (.F ty p T xs)=>if aA sz T.size then
        chk (dg 0 j&&fQ j (ah xs)) λ_=>K (.G nx) (gf id) (gf id|||gf nx) ((h.set id (Z (.qj p sz (ah xs)))).set nx (Z (.F ty aa T (dF (aQ j) xs)))) (nx+1)
       else U
      |_=>U)
     |_,_=>U)
    |some b,U,U=>(match v,dA e b with
     |.f (.sl T) xs,Z (.f (.int _) j)=>if aA sz T.size then chk (dg 0 j&&dg j (ah xs)) λ_=>K (.f (.sl T) (List.drop (aQ j) xs)) 0 0 h nx else U
     |.G id,Z (.f (.int _) j)=>(match h.get id with
      |some (.F _ _ T xs)=>if aA sz T.size then chk (dg 0 j&&fQ j (ah xs)) λ_=>K (.zm id j) 0 0 h nx else U
      |_=>U)
     |_,_=>U)
    |none,Z b,Z b'=>(match v,dA e b,dA e b' with
     |.f (.sl T) xs,Z (.f (.int _) j),Z (.f (.int _) j')=>if aA sz T.size then chk ((decide (j=j')&&dg 0 j)&&dg j (ah xs)) λ_=>K (.qd T (dF (aQ j) xs)) 0 0 h nx else U
     |_,_,_=>U)
    |_,_,_=>U)
   |none=>U
  |.jf off x=>match dA e x with
   |some (.H id o)=>K (.H id (o+off)) 0 0 h nx
   |some (.ql id sz j o)=>K (.ql id sz j (o+off)) 0 0 h nx
   |some (.zk T xs j hj o)=>K (.zk T xs j hj (o+off)) 0 0 h nx
   |_=>U
  |.fld off sz D x=>match dA e x with
   |some (.agg l)=>(match WN l off sz D with|some v=>K v 0 0 h nx|none=>U)
   |some (.f T v)=>if T.one then U else (match nQ 40 T v off sz D with|some v=>K v 0 0 h nx|none=>U)
   |_=>U
  |.jg sz x i=>match dA e x,dA e i with
   |some (.G id),Z (.f (.int _) j)=>(match h.get id with
    |some (.F _ _ T xs)=>if aA sz T.size then chk (fA j (l! xs)) λ_=>K (.ql id sz j 0) 0 0 h nx else U
    |_=>U)
   |some (.f (.sl T) xs),Z (.f (.int _) j)=>if aA sz T.size then chk (fA j (ah xs)) λhj=>K (.zk T xs j hj 0) 0 0 h nx else U
   |some (.qv id sz' n),Z (.f (.int _) j)=>if aA sz' sz then chk (dg 0 j&&fQ j n) λ_=>K (.H id (aQ j*sz)) 0 0 h nx else U
   |_,_=>U
  |.jx n sz x i=>match dA e x,dA e i with
   |some (.H id off),Z (.f (.int _) j)=>(match arrB n sz off (h.get id) with
    |some _=>chk (dg 0 j&&fQ j n) λ_=>K (.ql id sz j off) 0 0 h nx
    |none=>chk (dg 0 j&&fQ j n) λ_=>K (.H id (off+aQ j*sz)) 0 0 h nx)
   |_,_=>U
  |.idx n sz D x i=>match dA e x,dA e i with
   |some v,Z (.f (.int _) j)=>(match ar7 n sz v D with
    |some ⟨T,xs⟩=>chk (dg 0 j&&fQ j n) λ_=>K (.f T (geti _ xs j)) 0 0 h nx
    |none=>(match v with
     |.agg l=>chk (dg 0 j&&fQ j n) λ_=>(match WN l (aQ j*sz) sz D with|some v=>K v 0 0 h nx|none=>U)
     |.f T v=>if T.one then U else chk (dg 0 j&&fQ j n) λ_=>(match nQ 40 T v (aQ j*sz) sz D with|some v=>K v 0 0 h nx|none=>U)
     |_=>U))
   |_,_=>U
  |.ext x i=>match dA e x with|some (.qg l)=>(match l[i]? with|some v=>K v 0 0 h nx|none=>U)|_=>U
  |.len x=>match dA e x with
   |some v=>(match lenOf h v with|some n=>K (.f (.int .i64) (aP n)) 0 0 h nx|none=>U)
   |none=>U
  |.lens x=>match dA e x with
   |some (.f .str s)=>K (.f (.int .i64) (aP (ah s))) 0 0 h nx
   |_=>U
  |.max x y=>match dA e x,dA e y with
   |some (.f (.int k) a),Z (.f (.int k') b)=>if k==k' then K (.f (.int k) (mR a b)) 0 0 h nx else U
   |_,_=>U
  |.min x y=>match dA e x,dA e y with
   |some (.f (.int k) a),Z (.f (.int k') b)=>if k==k' then K (.f (.int k) (Jr a b)) 0 0 h nx else U
   |_,_=>U
  |.jq x i=>match dA e x,dA e i with
   |some (.f .str s),Z (.f (.int _) j)=>chk (fA j (ah s)) λ_=>K (.f (.int .u8) (aie s j)) 0 0 h nx
   |_,_=>U
  |.rng x=>match dA e x with
   |some (.f .str s)=>K (.H nx 0) 0 (0|||gf nx) ((dL 0 h).set nx (Z (.mp nX .un [((s,0),())]))) (nx+1)
   |_=>U
  |.nxt x=>match dA e x with
   |some (.H id 0)=>(match h.get id with
    |some (.mp K' V es)=>(match itE K' V es with
     |some (s,p)=>aI (ef p (ah s)) (K (.qg [.f .bool J,.f (.int .i64) (aP p),.f (.int .i32) (rnP s p)]) (gf id) (0|||gf id) ((dL 0 h).set id (Z (.mp nX .un [((s,aP (p+wdP s p)),())]))) nx)
       (K (.qg [.f .bool aa]) (gf id) (0|||gf id) ((dL 0 h).set id (Z (.mp nX .un [((s,aP p),())]))) nx)
     |none=>U)
    |_=>U)
   |_=>U
  |.mkm=>K (.mp nx) 0 (0|||gf nx) ((dL 0 h).set nx (Z (.mp .un .un []))) (nx+1)
  |.jk str ok z x k=>match dA e x,dA e k with
   |some (.mp id),Z (.f KT L)=>(match h.get id with
    |some (.mp K' V es)=>if aan str KT&&Xe K' then (match mpE K' V es with
     |true=>(match cst z with|some v=>K (pkT ok v (.f .bool aa)) (gf id) 0 h nx|none=>U)
     |false=>(match tV (S:=KT) K' L,cst z with
      |some kv',Z (.f A zv)=>(match tV (S:=A) V zv with
       |some zv'=>K (pkT ok (.f V (Ai kv' es zv')) (.f .bool (aam kv' es))) (gf id) 0 h nx
       |none=>U)
      |_,_=>U)) else U
    |some (.C U l)=>(match tV (S:=KT) (.int .i64) L with
     |some n=>if !str&&(!ok&&uR z)&&(dg 0 n&&fQ n (l! l)) then (match l[aQ n]? with|some v=>K v (gf id) 0 h nx|none=>U) else U
     |none=>U)
    |_=>U)
   |_,_=>U
  |.jy str x k v=>match dA e x,dA e k,dA e v with
   |some (.mp id),Z (.f KT L),Z (.f VT vv)=>(match h.get id with
    |some (.mp K' V es)=>if (aan str KT&&VT.one)&&Xe K' then (match mpE K' V es with
     |true=>K .undef (gf id) (0|||gf id) ((dL 0 h).set id (Z (.mp KT VT [(L,vv)]))) nx
     |false=>(match tV (S:=KT) K' L,tV (S:=VT) V vv with
      |some kv',Z vv'=>K .undef (gf id) (0|||gf id) ((dL 0 h).set id (Z (.mp K' V (zB kv' vv' es)))) nx
      |_,_=>U)) else U
    |_=>U)
   |some (.mp id),Z (.f KT L),Z (.G i)=>(match h.get id with
    |some (.C U l)=>(match tV (S:=KT) (.int .i64) L with
     |some n=>if !str&&(dg 0 n&&fQ n (l! l)) then K .undef (gf id) (0|||gf id) ((dL 0 h).set id (Z (.C U (splice l (aQ n) [.G i])))) nx else U
     |none=>U)
    |_=>U)
   |_,_,_=>U
  |.jw x=>match dA e x with
   |some (.mp id)=>(match h.get id with
    |some (.mp K' _ es)=>if Xe K' then K (.f (.int .i64) (aP (l! es))) (gf id) 0 h nx else U
    |_=>U)
   |_=>U
  |.mkf f caps=>match K3 e caps with|some l=>K (.qy f l) 0 0 h nx|none=>U
  |_=>U
abbrev BZ (S:Ty):Type:=S.den×Y (Int×Bool)×Y (Int×Bool)
def dU (S:Ty) (xs:Y (BZ S)) (j:Int):BZ S:=xs.getD j.toNat (S.zero,[],[])
def qQ {S:Ty} (xs:Y (BZ S)) (j:Int) (o:BZ S):Y (BZ S):=xs.set j.toNat o
def uk (z:η) (j:Int):Int:=z.getD j.toNat 0
variable {T:Ty}
def xK (xss:Y (Y T.den)) (j:Int):Y T.den:=xss.getD j.toNat []
def DG (xss:Y (Y T.den)) (j:Int) (xs:Y T.den):Y (Y T.den):=xss.set j.toNat xs
def sA {S:Ty} (b:Nat) (o:BZ S):Y u?:=match b with|0=>o.2.1|_=>o.2.2
def vy {S:Ty} (b:Nat) (o:BZ S) (m:Y u?):BZ S:=match b with|0=>(o.1,m,o.2.2)|_=>(o.1,o.2.1,m)
def afc (v:TV):M ν:=if v.isC then U else match v.cs with
 |some [.f (.int .i64) a,.f (.int .i64) b]=>Z (a,b)
 |_=>U
def N7 (k z:ν):Bool:=decide (k.1=z.1)&&decide (k.2=z.2)
abbrev e!:=ν×Int
def uf (k:ν):Y e!->Bool
 |[]=>aa
 |e::r=>N7 k e.1||uf k r
def fm (k:ν):Y e!->Int
 |[]=>0
 |e::r=>match N7 k e.1 with|true=>e.2|false=>fm k r
def Bb (k:ν):Y e!->Y e!
 |[]=>[]
 |e::r=>match N7 k e.1 with|true=>r|false=>e::Bb k r
def stN:Ty->Nat
 |.st t=>stN t+1
 |_=>0
def isRr:M Ty->Bool
 |some (.pr .bool (.pr _ (.sl _)))=>J
 |_=>aa
def aff:ξ->Bool
 |[.slice U 0 0]=>J
 |_=>aa
def ar1:M TV->Bool
 |some (.sb _)=>J
 |_=>aa
def Xq:M eP->Bool
 |some (.I _ _ _)=>J
 |some (.qm _ _ _ _ _)=>J
 |_=>aa
def Bj (h:a_):M TV->Bool
 |some (.sb _)=>J
 |some (.ql id _ _ _)|some (.G id)=>Xq (h.get id)
 |_=>aa
def ar3 (cg:TypeId->M Ty) (e:hX) (h:a_):SI->Bool
 |.op (.load _ _ x)|.op (.store _ x _)|.op (.zh x)|.op (.jf _ x)|.op (.jg _ x _)|.op (.jk _ _ _ x _)|.op (.jy _ x _ _)=>Bj h (dA e x)
 |.op (.app _ _ _ s x)=>Bj h (dA e s)||ar1 (dA e x)
 |.op (.zg ty _ _ _ _ _)=>isRr (cg ty)
 |.op (.zl _ _)=>J
 |.op (.xz _ _ _ _)=>J
 |.op (.xq _ _ _ _)=>J
 |.op (.xx _ _ _)=>J
 |_=>aa
def pG (cg:TypeId->M Ty) (e:hX) (h:a_) (nx:Nat) (K:KO R):OT->M R
 |.load sz N x=>match dA e x with
  |some (.sb (.ob id j off))=>(match h.get id with
   |some (.I (.ar _ S) _ xs)=>chk (fA j (ah (α:=BZ S) xs)) λ_=>
     if N then U else if ef off S.size then (match nQ 40 S (dU S xs j).1 off sz aa with|some v=>K v (gf id) 0 h nx|none=>U)
     else if aA sz 1&&ef off (S.size+2) then K (.sb (.om id j (off-S.size))) (gf id) 0 h nx else U
   |_=>U)
  |some (.sb (.np id j s i off))=>(match h.get id with
   |some (.I (.ir _ T) _ xss)=>if aA s T.size then chk (fA j (ah (α:=Y T.den) xss)) λ_=>chk (fA i (ah (xK (T:=T) xss j))) λ_=>
     (match nQ 40 T (geti _ (xK (T:=T) xss j) i) off sz N with|some v=>K v (gf id) 0 h nx|none=>U) else U
   |_=>U)
  |some (.ql id s j off)=>if (aA sz 1&& !N)&&(aA s 1&&aA off 0) then (match h.get id with
   |some (.I (.qc _) a D)=>chk (fA j (ah (α:=Int) D)) λ_=>K (.sb (.ob a (uk D j) 0)) (gf id) 0 h nx
   |some (.I (.rr _ z) a L)=>chk (fA j (ah (α:=Int) L)) λ_=>K (.sb (.nr a j z (aQ (uk L j)))) (gf id) 0 h nx
   |_=>U) else U
  |_=>U
 |.store sz x v=>match dA e x,dA e v with
  |some (.sb (.ob id j off)),Z y=>(match h.get id with
   |some (.I (.ar ty S) a xs)=>chk (fA j (ah (α:=BZ S) xs)) λ_=>(match gO h y 40 S (dU S xs j).1 off sz with
    |some (z,m)=>if aA m 0 then K .undef (gf id) (0|||gf id) ((dL 0 h).set id (Z (.I (.ar ty S) a (qQ (S:=S) xs j (z,(dU S xs j).2))))) nx else U
    |none=>U)
   |_=>U)
  |some (.sb (.np id j s i off)),Z y=>(match h.get id with
   |some (.I (.ir ty T) a xss)=>if aA s T.size then chk (fA j (ah (α:=Y T.den) xss)) λ_=>chk (fA i (ah (xK (T:=T) xss j))) λ_=>(match gO h y 40 T (geti _ (xK (T:=T) xss j) i) off sz with
    |some (z,m)=>if aA m 0 then K .undef (gf id) (0|||gf id) ((dL 0 h).set id (Z (.I (.ir ty T) a (DG (T:=T) xss j (cN (xK (T:=T) xss j) i z))))) nx else U
    |none=>U) else U
   |_=>U)
  |some (.ql id s j off),Z (.G r)=>if aA sz 1&&(aA s 1&&aA off 0) then (match h.get id,h.get r with
   |some (.I (.rr ty z) a L),Z (.F _ p T xs)=>if aA z T.size then chk (fA j (ah (α:=Int) L)) λ_=>chk (p|| !(aA (ah xs) 0)) λ_=>K .undef (gf id) (0|||gf id) ((dL 0 h).set id (Z (.qm (.rr ty z) a L (j,0) (Z (r,J,ah xs))))) nx else U
   |_,_=>U) else U
  |_,_=>U
 |.zh x=>match dA e x with
  |some (.sb (.ob id j off))=>K (.sb (.ob id j off)) 0 0 h nx
  |some (.sb (.np id j s i off))=>K (.sb (.np id j s i off)) 0 0 h nx
  |_=>U
 |.jf off x=>match dA e x with
  |some (.sb (.ob id j o))=>K (.sb (.ob id j (o+off))) 0 0 h nx
  |some (.sb (.np id j s i o))=>K (.sb (.np id j s i (o+off))) 0 0 h nx
  |_=>U
 |.jg sz x i=>match dA e x,dA e i with
  |some (.G id),Z (.f (.int _) j)=>(match eE h id with
   |some (_,s,n)=>if aA s sz&&Xq (h.get id) then chk (fA j n) λ_=>K (.ql id sz j 0) 0 0 h nx else U
   |none=>U)
  |some (.sb (.nr id j s n)),Z (.f (.int _) i)=>if aA s sz then chk (fA i n) λ_=>K (.sb (.np id j sz i 0)) 0 0 h nx else U
  |_,_=>U
 |.jk str ok z x k=>match dA e x,dA e k with
  |some (.sb (.om id j b)),Z (.f (.int .i64) A)=>(match h.get id,z with
   |some (.I (.ar _ S) _ xs),.bool zb=>if !str&&ef b 2 then chk (fA j (ah (α:=BZ S) xs)) λ_=>
     K (pkT ok (.f .bool (Ai (K:=.int .i64) (V:=.bool) A (sA b (dU S xs j)) zb)) (.f .bool (aam (K:=.int .i64) (V:=.bool) A (sA b (dU S xs j))))) (gf id) 0 h nx else U
   |_,_=>U)
  |_,_=>U
 |.jy str x k v=>match dA e x,dA e k,dA e v with
  |some (.sb (.om id j b)),Z (.f (.int .i64) A),Z (.f .bool vv)=>(match h.get id with
   |some (.I (.ar ty S) a xs)=>if !str&&ef b 2 then chk (fA j (ah (α:=BZ S) xs)) λ_=>
     K .undef (gf id) (0|||gf id) ((dL 0 h).set id (Z (.I (.ar ty S) a (qQ (S:=S) xs j (vy b (dU S xs j) (zB (K:=.int .i64) (V:=.bool) A vv (sA b (dU S xs j)))))))) nx else U
   |_=>U)
  |_,_,_=>U
 |.app ty sz bytes s x=>match dA e s,dA e x with
  |some (.G id),Z (.qv id2 1 1)=>(match h.get id,h.get id2 with
   |some (.I (.qc ty') a D),Z (.C (Z _) [.sb (.ob a' j 0)])=>if (aA sz 1&&ty==ty')&&(aA a a'&& !(aA id id2)) then
     chk (be (ah (α:=Int) D+1) bytes) λ_=>K (.G nx) (gf id|||gf id2) (gf id|||gf nx) ((h.set id (Z (.qj J 1 (ah (α:=Int) D)))).set nx (Z (.I (.qc ty) a (sE (α:=Int) D [j])))) (nx+1) else U
   |_,_=>U)
  |some (.sb (.nr id j s n)),Z y=>(match h.get id with
   |some (.I (.ir ty' T) a xss)=>if aA s T.size&&(aA sz T.size&&ty==ty') then chk (fA j (ah (α:=Y T.den) xss)) λ_=>(match Ds h (.sl T) y with
    |some (ys,m)=>if aK m id then U else chk (aA n (ah (xK (T:=T) xss j))&&be (n+ah ys) bytes) λ_=>
      K (.G nx) (gf id|||m) (gf id|||gf nx) ((h.set id (Z (.I (.ir ty T) a (DG (T:=T) xss j [])))).set nx (Z (.F ty J T (xK (T:=T) xss j++ys)))) (nx+1)
    |none=>U) else U
   |_=>U)
  |some b,Z (.sb (.nr id j s n))=>(match h.get id with
   |some (.I (.ir _ T) _ xss)=>if aA s T.size&&aA sz T.size then chk (fA j (ah (α:=Y T.den) xss)) λ_=>chk (aA n (ah (xK (T:=T) xss j))) λ_=>akj ty sz bytes T b (xK (T:=T) xss j) (gf id) h nx K else U
   |_=>U)
  |_,_=>U
 |.zg ty sz bytes z l c=>match cg ty,dA e l,dA e c with
  |some (.pr .bool (.pr q (.sl T))),Z (.f (.int _) a),Z (.f (.int _) b)=>if aA sz 1&&aff z then
    chk (dg 0 a&&dg a b&&be (aQ b) bytes) λ_=>K (.G nx) 0 (gf nx) ((h.set nx (Z (.I (.rr ty T.size) (nx+1) (aF (aQ a) (0:Int))))).set (nx+1) (Z (.I (.ir (stN q) T) 0 (aF (aQ a) ([]:Y T.den))))) (nx+2) else U
  |_,_,_=>U
 |.zl neg x=>match dA e x with
  |some (.sb (.ob _ _ _))|some (.H _ _)=>K (.f .bool neg) 0 0 h nx
  |some .np=>K (.f .bool (!neg)) 0 0 h nx
  |_=>U
 |.xz [.int .i64,.int .i64] z x k=>match dA e x,(dA e k).bind afc,z with
  |some (.mp id),Z A,.pointer U=>(match h.get id with
   |some (.I .qh a es)=>aI (uf A es) (K (.sb (.ob a (fm A es) 0)) (gf id) 0 h nx) (K .np (gf id) 0 h nx)
   |_=>U)
  |_,_,_=>U
 |.xq [.int .i64,.int .i64] x k v=>match dA e x,(dA e k).bind afc,dA e v with
  |some (.mp id),Z A,Z (.H p 0)=>(match h.get id with
   |some (.I .qh a es)=>K .undef (gf id) (0|||gf id) ((dL 0 h).set id (Z (.qm .qh a es A (Z (p,aa,0))))) nx
   |_=>U)
  |_,_,_=>U
 |.xx [.int .i64,.int .i64] x k=>match dA e x,(dA e k).bind afc with
  |some (.mp id),Z A=>(match h.get id with
   |some (.I .qh a es)=>K (.qg []) (gf id) (0|||gf id) ((dL 0 h).set id (Z (.I .qh a (Bb A es)))) nx
   |_=>U)
  |_,_=>U
 |_=>U
def opK (con:FuncId->M cF) (cg:TypeId->M Ty) (o:SI) (e:hX) (h:a_) (nx:Nat) (K:KO R):M R:=match ar3 cg e h o with
 |true=>(match o with|.op s=>pG cg e h nx K s|_=>U)
 |false=>eC con cg o e h nx K
def adm (e:hX) (g:M (Nat×Bool)) (K:Bool->hX->M R):M R:=match g with
 |none=>K J e
 |some (t,want)=>match e.get t with
  |some (.f .bool b)=>(match want with
   |true=>aI b (K J (e.set t (Z (.f .bool J)))) (K aa (e.set t (Z (.f .bool aa))))
   |false=>aI b (K aa (e.set t (Z (.f .bool J)))) (K J (e.set t (Z (.f .bool aa)))))
  |some .undef=>K aa e
  |_=>U
def GP (e:hX) (d:M Nat) (v:TV):hX:=match d with
 |none=>e
 |some d=>e.set d (Z v)
structure TS where
 e:hX
 h:a_
 nx:Nat
def NX (con:FuncId->M cF) (cg:TypeId->M Ty):Y tX->TS->Y FPm->(TS->Y FPm->M R)->M R
 |[],s,z,K=>K s z.reverse
 |o::r,s,z,K=>adm s.e o.guard λrun e=>match run with
  |true=>opK con cg o.op e s.h s.nx λv rd A h nx=>if N0 h v then NX con cg r ⟨GP e o.dst v,h,nx⟩ (⟨rd,A⟩::z) K else U
  |false=>NX con cg r ⟨GP e o.dst .undef,s.h,s.nx⟩ (⟨0,0⟩::z) K
inductive Adj where
 |nil (k:Nat) (ty:TypeId) (T:Ty)
 |qp (k:Nat) (off:Nat) (ty:TypeId) (T:Ty)
 |mpt (k:Nat) (K V:Ty)
 |mz (k n:Nat)
 |pk (k:Nat) (off:Nat) (T:Ty)
 |qx (k:Nat) (off:Nat)
 |fmp (k off:Nat) (ty:TypeId) (S:Ty)
 |frw (k off off2:Nat) (ty:TypeId)
 |jd (k off:Nat)
mutual
def NP (id sz n:Nat):TV->TV
 |.qv i s m=>if aA i id&&aA s sz&&aA m n then .G id else .qv i s m
 |.agg l=>.agg (EJ id sz n l)
 |.qg l=>.qg (EJ id sz n l)
 |.qy g l=>.qy g (EJ id sz n l)
 |.f T v=>.f T v
 |.zk T xs j h off=>.zk T xs j h off
 |.ql a b c d=>.ql a b c d
 |.H a b=>.H a b
 |.G a=>.G a
 |.zm a j=>.zm a j
 |.qd T xs=>.qd T xs
 |.sb s=>.sb s
 |.emp=>.emp
 |.nil=>.nil
 |.mp a=>.mp a
 |.undef=>.undef
 |.np=>.np
 |.qw=>.qw
def EJ (id sz n:Nat):Y TV->Y TV
 |[]=>[]
 |x::r=>NP id sz n x::EJ id sz n r
end
def WP (id sz n:Nat):eP->eP
 |.C ty l=>.C ty (EJ id sz n l)
 |.F ty p T xs=>.F ty p T xs
 |.qj p s m=>.qj p s m
 |.mp K V es=>.mp K V es
 |.I F a x=>.I F a x
 |.qm F a x k p=>.qm F a x k p
def arj (s:TS) (k off:Nat):M (Nat×o?):=match s.e.get k with
 |some (.qv id sz n)=>Z (id,sz,n)
 |some (.agg l)=>(match l[off]? with|some (.qv id sz n)=>Z (id,sz,n)|_=>U)
 |some (.H a o)=>(match s.h.get a with
  |some (.C (Z _) l)=>(match l[o+off]? with|some (.qv id sz n)=>Z (id,sz,n)|_=>U)
  |_=>U)
 |_=>U
def pkS (s:TS) (T:Ty) (id sz n:Nat):M TS:=match s.h.get id with
 |some (.C (Z ty) l)=>if aA sz T.size then (match AY s.h T n l with
  |some (xs,m)=>if aK m id then U else Z ⟨PT.updI (λ_ v=>NP id sz n v) 1 0 s.e,(PT.updI (λ_ b=>WP id sz n b) 1 0 (dL m s.h)).set id (Z (.F ty aa T xs)),s.nx⟩
  |none=>U) else U
 |_=>U
def afe:TV->Bool
 |.nil=>J
 |.emp=>J
 |_=>aa
def am0:M TV->M o?
 |some (.H id o)=>Z (id,o)
 |some (.qv id _ _)|some (.mp id)=>Z (id,0)
 |_=>U
def ag5 (s:TS) (k off:Nat):M Nat:=match s.e.get k with
 |some (.mp id)|some (.G id)=>Z id
 |some (.H b o)=>(match s.h.get b with
  |some (.C (Z _) l)=>(match l[o+off]? with|some (.mp id)=>Z id|some (.G id)=>Z id|_=>U)
  |_=>U)
 |_=>U
def shf (n:Nat) (j:Int):Int:=if ef j.toNat n then j else aP (j.toNat+1)
def KK (n:Nat) (es:Y e!):Y e!:=es.map λe=>(e.1,shf n e.2)
def xV (k:ν) (v:Int):Y e!->Y e!
 |[]=>[(k,v)]
 |e::r=>match N7 k e.1 with|true=>(k,v)::r|false=>e::xV k v r
def rnX (len:Nat):(F:tZ)->F.ty.den->F.ty.den
 |.qc _,z=>fP (shf len) z
 |.qh,es=>KK len es
 |_,x=>x
def ar2:tZ->Bool
 |.qc _=>J
 |.qh=>J
 |_=>aa
def rnF (a n len:Nat):eP->eP
 |.I F b x=>if ar2 F&&aA b a then .I F n (rnX len F x) else .I F b x
 |b=>b
def aj9:M eP->M (Y u?)
 |some (.mp (.int .i64) .bool es)=>Z es
 |some (.mp .un .un [])=>Z []
 |_=>U
def ady (s:TS) (o a p:Nat) (kk:ν) (es:Y e!):M TS:=match s.h.get a,s.h.get p with
 |some (.I (.ar ty S) _ xs),Z (.C (Z ty') l)=>if ty'==ty then (match fc s.h 40 S l with
  |some (z,m,[.mp m1,.mp m2])=>(match aj9 (s.h.get m1),aj9 (s.h.get m2) with
   |some A,Z e2=>if aA m 0&& !(aA m1 m2) then
     Z ⟨s.e,((((((PT.updI (λ_ b=>rnF a s.nx (ah (α:=BZ S) xs) b) 1 0 s.h).set o (Z (.I .qh s.nx (xV kk (aP (ah (α:=BZ S) xs)) (KK (ah (α:=BZ S) xs) es))))).set a (Z (.qj J 0 0))).set p (Z (.qj J 0 0))).set m1 (Z (.qj J 0 0))).set m2 (Z (.qj J 0 0))).set s.nx (Z (.I (.ar ty S) 0 (sE (α:=BZ S) xs [(z,A,e2)]))),s.nx+1⟩ else U
   |_,_=>U)
  |_=>U) else U
 |_,_=>U
def an8 (s:TS) (o a r n:Nat) (j:Int) (ty:TypeId) (z:Nat) (A:η):M TS:=match s.h.get a,s.h.get r with
 |some (.I (.ir ty2 T) _ xss),Z (.F ty3 p S xs)=>(match tV (S:=.sl S) (.sl T) xs with
  |some xs'=>if ty3==ty2 then
    Z ⟨s.e,(((s.h.set o (Z (.I (.rr ty z) s.nx (wj (α:=Int) A j.toNat (aP n))))).set a (Z (.qj J 0 0))).set r (Z (.qj p S.size (ah xs)))).set s.nx (Z (.I (.ir ty2 T) 0 (DG (T:=T) xss j xs'))),s.nx+1⟩ else U
  |none=>U)
 |_,_=>U
def afg (F:tZ):Bool:=aA (F.aid 1) 0
def rnG (a n:Nat):eP->eP
 |.I F b x=>if !(afg F)&&aA b a then .I F n x else .I F b x
 |b=>b
def anb (s:TS) (a:Nat):M TS:=match s.h.get a with
 |some (.I F _ x)=>if afg F then Z ⟨s.e,((PT.updI (λ_ b=>rnG a s.nx b) 1 0 s.h).set a (Z (.qj J 0 0))).set s.nx (Z (.I F 0 x)),s.nx+1⟩ else U
 |_=>U
def an6 (s:TS) (o:Nat):M TS:=match s.h.get o with
 |some (.qm .qh a es kk (Z (p,aa,0)))=>ady s o a p kk es
 |some (.qm (.rr ty z) a A kk (Z (r,J,n)))=>an8 s o a r n kk.1 ty z A
 |some (.I F a _)=>if afg F then U else anb s a
 |_=>U
def HP (s:TS):Adj->M TS
 |.nil k ty T=>match s.e.get k with
  |some v=>if afe v then Z ⟨s.e.set k (Z (.G s.nx)),s.h.set s.nx (Z (.F ty J T [])),s.nx+1⟩ else Z s
  |none=>U
 |.qp k off ty T=>match am0 (s.e.get k) with
  |some (id,o)=>(match s.h.get id with
   |some (.C cty l)=>(match l[o+off]? with
    |some v=>if afe v then Z ⟨s.e,(s.h.set s.nx (Z (.F ty J T []))).set id (Z (.C cty (splice l (o+off) [.G s.nx]))),s.nx+1⟩ else Z s
    |none=>U)
   |_=>U)
  |_=>U
 |.mpt k K V=>match s.e.get k with
  |some (.mp id)=>(match s.h.get id with
   |some (.mp K' V' es)=>(match mpE K' V' es&&Xe K with
    |true=>Z ⟨s.e,s.h.set id (Z (.mp K V [])),s.nx⟩
    |false=>Z s)
   |_=>U)
  |_=>U
 |.mz k n=>match s.e.get k with
  |some (.mp id)=>(match s.h.get id with
   |some (.mp K' V' es)=>(match mpE K' V' es with
    |true=>Z ⟨s.e,s.h.set id (Z (.C U (aF n .nil))),s.nx⟩
    |false=>U)
   |_=>Z s)
  |_=>U
 |.pk k off T=>match arj s k off with
  |some (id,sz,n)=>pkS s T id sz n
  |none=>U
 |.qx k off=>match s.e.get k with
  |some (.H b o)=>(match s.h.get b with
   |some (.C (Z cty) l)=>(match l[o+off]? with
    |some (.G id)=>(match s.h.get id with
     |some (.F ty p T xs)=>Z ⟨s.e,((s.h.set id (Z (.qj p T.size (l! xs)))).set s.nx (Z (.F ty p T xs))).set b (Z (.C (Z cty) (splice l (o+off) [.G s.nx]))),s.nx+1⟩
     |some (.I (.qc ty) a z)=>Z ⟨s.e,((s.h.set id (Z (.qj J 1 (ah (α:=Int) z)))).set s.nx (Z (.I (.qc ty) a z))).set b (Z (.C (Z cty) (splice l (o+off) [.G s.nx]))),s.nx+1⟩
     |_=>U)
    |_=>U)
   |_=>U)
  |some (.G id)=>(match s.h.get id with
   |some (.F ty p T xs)=>Z ⟨s.e.set k (Z (.G s.nx)),(s.h.set id (Z (.qj p T.size (l! xs)))).set s.nx (Z (.F ty p T xs)),s.nx+1⟩
   |_=>U)
  |_=>U
 |.fmp k off ty S=>match ag5 s k off with
  |some id=>(match s.h.get id with
   |some (.mp K' V' es)=>if mpE K' V' es then Z ⟨s.e,(s.h.set id (Z (.I .qh s.nx []))).set s.nx (Z (.I (.ar ty S) 0 [])),s.nx+1⟩ else U
   |some (.I _ _ _)=>Z s
   |_=>U)
  |none=>U
 |.frw k off off2 ty=>match ag5 s k off2,am0 (s.e.get k) with
  |some o,Z (id,q)=>(match s.h.get o,s.h.get id with
   |some (.I .qh a _),Z (.C cty l)=>(match l[q+off]? with
    |some v=>if afe v then Z ⟨s.e,(s.h.set s.nx (Z (.I (.qc ty) a []))).set id (Z (.C cty (splice l (q+off) [.G s.nx]))),s.nx+1⟩ else Z s
    |none=>U)
   |_,_=>U)
  |_,_=>U
 |.jd k off=>match ag5 s k off with
  |some o=>an6 s o
  |none=>U
def V3 (s:TS):Y Adj->M TS
 |[]=>Z s
 |a::r=>match HP s a with|some s'=>V3 s' r|none=>U
structure Ann where
 zq:ι
 ks:ι
 t:Tm
 pre:List Adj
abbrev Ann.D (A:Ann):Type:=A.t.ty.den
mutual
def vO:TV->Bool
 |.f _ _=>J
 |.zk _ _ _ _ _=>J
 |.emp=>J
 |.nil=>J
 |.undef=>J
 |.np=>J
 |.qw=>J
 |.agg l|.qg l=>rO l
 |.ql _ _ _ _=>aa
 |.H _ _=>aa
 |.qv _ _ _=>aa
 |.G _=>aa
 |.zm _ _=>aa
 |.qd _ _=>aa
 |.sb _=>aa
 |.mp _=>aa
 |.qy _ _=>aa
def rO:Y TV->Bool
 |[]=>J
 |x::r=>vO x&&rO r
end
def Ff (am:Nat) (e:hX):ι->hX
 |[]=>PT.leaf
 |k::r=>match e.get k with|some v=>if vO v&& !(aK am k) then (Ff am e r).set k (Z v) else Ff am e r|none=>Ff am e r
def j9 (e:hX):ι->M (Y TV)
 |[]=>Z []
 |k::r=>match e.get k with|some v=>(match j9 e r with|some l=>Z (v::l)|none=>U)|none=>U
def aad (e:hX):ι->Y TV->hX
 |k::r,v::l=>(aad e r l).set k (Z v)
 |_,_=>e
def Kh (am:Nat) (e0 e:hX):ι->Bool
 |[]=>J
 |k::r=>(match e0.get k with
  |some v=> !(vO v)||aK am k||(match e.get k with|some _=>J|none=>aa)
  |none=>J)&&Kh am e0 e r
def Oq (np:Nat) (A:Ann) (am:Nat) (z s:TS):M A.D:=if dK np (l! A.t.bs)&&Kh am z.e s.e A.zq then (match V3 s A.pre with
 |some s=>(match j9 s.e A.ks with
  |some vs=>(match DY np A.t vs s.h with
   |some ⟨x,_,_,_⟩=>Z x
   |none=>U)
  |none=>U)
 |none=>U) else U
def Jj (A:Ann) (am:Nat) (s:TS) (x:A.D):M TS:=match C7 A.t x with
 |some (vs,h)=>if aA (l! vs) (l! A.ks) then Z ⟨aad (Ff am s.e A.zq) A.ks vs,h,l! A.t.bs⟩ else U
 |none=>U
inductive TC where
 |skip
 |jz (ops:List tX) (prs:List (Nat×Nat))
 |seq (a b:TC)
 |zn (A:Ann) (a b:TC)
 |cond (c:Nat) (a b:TC)
 |block (id:Nat) (b:TC)
 |zj (A:Ann) (id:Nat) (b:TC)
 |loop (A:Ann) (b:TC)
 |exit (id:Nat)
 |ret
 |defer (f:FuncId) (caps:List Operand) (t:Nat)
 |adj (l:List Adj) (c:TC)
 |split (k off lo n:Nat) (c:TC)
 |bsp (t:Nat) (a b:TC)
 |unl (n:Nat) (b:TC)
 |zd
def Sa:Y tX->Nat->Nat
 |[],acc=>acc
 |o::r,acc=>Sa r (match o.dst with|some d=>acc|||gf d|none=>acc)
def N3:ι->Nat->Nat
 |[],acc=>acc
 |k::r,acc=>N3 r (acc|||gf k)
def j_:Y Adj->Nat->Nat
 |[],acc=>acc
 |.nil k _ _::r,acc=>j_ r (acc|||gf k)
 |.qp _ _ _ _::r,acc|.mpt _ _ _::r,acc|.mz _ _::r,acc|.pk _ _ _::r,acc=>j_ r acc
 |.qx k _::r,acc=>j_ r (acc|||gf k)
 |.fmp _ _ _ _::r,acc|.frw _ _ _ _::r,acc|.jd _ _::r,acc=>j_ r acc
def TC.asg:TC->Nat->Nat
 |.jz ops _,acc=>Sa ops acc
 |.seq a b,acc=>b.asg (a.asg acc)
 |.zn A a b,acc=>b.asg (a.asg (N3 A.ks acc))
 |.cond _ a b,acc=>b.asg (a.asg acc)
 |.block _ b,acc=>b.asg acc
 |.zj A _ b,acc|.loop A b,acc=>b.asg (N3 A.ks acc)
 |.defer _ _ t,acc=>acc|||gf t
 |.adj l c,acc=>c.asg (j_ l acc)
 |.split _ _ _ _ c,acc=>c.asg acc
 |.bsp _ a b,acc=>b.asg (a.asg acc)
 |.unl _ b,acc=>b.asg acc
 |.skip,acc|.exit _,acc|.ret,acc|.zd,acc=>acc
inductive ahm where
 |j (A:Ann)
 |a (l:List Adj)
 |s (k off lo n:Nat)
 |b (t k off lo n:Nat)
 |u (n:Nat)
def Kx (H:PT ahm) (n:Nat) (c:TC):TC:=match H.get n with|some (.a l)=>.adj l c|some (.s k off z m)=>.split k off z m c|some (.b t k off z m)=>.bsp t (.split k off z m c) c|_=>c
def F7 (H:PT ahm):SC->Nat->TC×Nat
 |.skip,n=>(Kx H n .skip,n+1)
 |.jz o p,n=>(Kx H n (.jz o p),n+1)
 |.seq a b,n=>match F7 H a (n+1) with
  |(z,k)=>(match F7 H b k with|(b',D)=>((match H.get n with|some (.j A)=>.zn A z b'|_=>.seq z b'),D))
 |.cond c a b,n=>match F7 H a (n+1) with
  |(z,k)=>(match F7 H b k with|(b',D)=>(Kx H n (.cond c z b'),D))
 |.block id b,n=>match F7 H b (n+1) with|(b',k)=>((match H.get n with|some (.j A)=>.zj A id b'|_=>.block id b'),k)
 |.loop b,n=>match F7 H b (n+1) with|(b',k)=>((match H.get n with|some (.j A)=>.loop A b'|some (.u m)=>.unl m b'|_=>.zd),k)
 |.exit id,n=>(Kx H n (.exit id),n+1)
 |.ret,n=>(Kx H n .ret,n+1)
 |.defer f c t,n=>(.defer f c t,n+1)
 |.zd,n=>(.zd,n+1)
def afk (s:TS) (k off:Nat):M (IntKind×Int):=match s.e.get k with
 |some (.f (.int kd) v)=>Z (kd,v)
 |some (.H a o)=>(match s.h.get a with
  |some (.C (Z _) l)=>(match l[o+off]? with|some (.f (.int kd) v)=>Z (kd,v)|_=>U)
  |_=>U)
 |_=>U
def WY (s:TS) (k off:Nat) (kd:IntKind) (v:Int):M TS:=match s.e.get k with
 |some (.f (.int _) _)=>Z ⟨s.e.set k (Z (.f (.int kd) v)),s.h,s.nx⟩
 |some (.H a o)=>(match s.h.get a with
  |some (.C (Z ty) l)=>Z ⟨s.e,s.h.set a (Z (.C (Z ty) (splice l (o+off) [.f (.int kd) v]))),s.nx⟩
  |_=>U)
 |_=>U
def spl (v:Int) (f:Nat->M R):Nat->Nat->M R
 |_,0=>U
 |i,m+1=>aI (decide ((v:Int)=aP i)) (f i) (spl v f (i+1) m)
def ai5 (f:TS->(Ex->TS->M R)->M R):Nat->TS->(Ex->TS->M R)->M R
 |0,_,_=>U
 |m+1,s,K=>f s λex s'=>match ex with
  |.normal=>ai5 f m s' K
  |ex=>K ex s'
def oW {R:Type} (np:Nat) (con:FuncId->M cF) (cg:TypeId->M Ty) (inert:FuncId->Bool):TC->TS->(Ex->TS->M R)->M R
 |.skip,s,K=>K .normal s
 |.jz ops prs,s,K=>NX con cg ops s [] λs' D=>if Ia D prs then K .normal s' else U
 |.seq a b,s,K=>oW np con cg inert a s λex s'=>match ex with|.normal=>oW np con cg inert b s' K|ex=>K ex s'
 |.zn A a b,s,K=>jn (oW np con cg inert a s λex s'=>match ex with
   |.normal=>ay (Oq np A (a.asg 0) s s') λx=>Z (.inr x)
   |ex=>ay (K ex s') λr=>Z (.inl r)) λx=>(match Jj A (a.asg 0) s x with|some s'=>oW np con cg inert b s' K|none=>U)
 |.cond c a b,s,K=>match s.e.get c with
  |some (.f .bool t)=>aI t (oW np con cg inert a s K) (oW np con cg inert b s K)
  |some .qw=>HJ (oW np con cg inert a s K) (oW np con cg inert b s K)
  |_=>U
 |.block id b,s,K=>oW np con cg inert b s λex s'=>match ex with
  |.exit i=>if aA i id then K .normal s' else K (.exit i) s'
  |ex=>K ex s'
 |.zj A id b,s,K=>jn (oW np con cg inert b s λex s'=>match ex with
   |.normal=>ay (Oq np A (b.asg 0) s s') λx=>Z (.inr x)
   |.exit i=>if aA i id then ay (Oq np A (b.asg 0) s s') λx=>Z (.inr x) else ay (K (.exit i) s') λr=>Z (.inl r)
   |.ret=>ay (K .ret s') λr=>Z (.inl r)) λx=>(match Jj A (b.asg 0) s x with|some s'=>K .normal s'|none=>U)
 |.loop A b,s,K=>ay (Oq np A (b.asg 0) s s) λx=>iter (λx=>match Jj A (b.asg 0) s x with
   |some s'=>oW np con cg inert b s' λex s'=>(match ex with
    |.normal=>ay (Oq np A (b.asg 0) s s') λy=>Z (.inl y)
    |ex=>ay (K ex s') λr=>Z (.inr r))
   |none=>U) x
 |.exit id,s,K=>K (.exit id) s
 |.ret,s,K=>K .ret s
 |.defer _ _ _,_,_=>U
 |.adj l c,s,K=>match V3 s l with|some s'=>oW np con cg inert c s' K|none=>U
 |.split k off z n c,s,K=>match afk s k off with
  |some (kd,v)=>spl v (λi=>match WY s k off kd (aP i) with|some s'=>oW np con cg inert c s' K|none=>U) z n
  |none=>U
 |.bsp t a b,s,K=>match s.e.get t with
  |some (.f .bool v)=>aI v (oW np con cg inert a ⟨s.e.set t (Z (.f .bool J)),s.h,s.nx⟩ K) (oW np con cg inert b ⟨s.e.set t (Z (.f .bool aa)),s.h,s.nx⟩ K)
  |_=>U
 |.unl n b,s,K=>ai5 (λs K=>oW np con cg inert b s K) n s K
 |.zd,_,_=>U
def Nj:Nat->Y TV->hX
 |_,[]=>PT.leaf
 |k,x::r=>(Nj (k+1) r).set k (Z x)
def rvT (s:TS):RV->M TV
 |.tmp t=>s.e.get t
 |.cell a sz z=>match s.e.get a with
  |some (.H id off)=>(match s.h.get id with|some (.C (Z _) l)=>WN l off sz z|_=>U)
  |_=>U
def Ta (s:TS):Y RV->M (Y TV)
 |[]=>Z []
 |x::r=>match rvT s x with|some v=>(match Ta s r with|some l=>Z (v::l)|none=>U)|none=>U
structure FT where
 pre:Tm
 post:Tm
 hints:PT ahm
def arf (D:FT):Y Adj:=match D.hints.get 60000 with
 |some (.a l)=>l
 |_=>[]
def adx (con:FuncId->M cF) (cg:TypeId->M Ty) (inert:FuncId->Bool) (F:M SF) (D:FT) (x:D.pre.ty.den):M D.post.ty.den:=
 match F with
 |some z=>(match C7 D.pre x with
  |some (args,h)=>if dK (l! args) z.nt&&dK (l! D.pre.bs) (l! D.post.bs) then
    oW (l! D.pre.bs) con cg inert (F7 D.hints z.code 0).1 ⟨Nj 0 args,h,l! D.pre.bs⟩ λex s=>(match ex with
    |.exit _=>U
    |_=>(match V3 s (arf D) with
     |some s=>(match Ta s z.res with
      |some l=>(match DY (l! D.pre.bs) D.post l s.h with
       |some ⟨y,_,_,_⟩=>(match C7 D.post y with|some _=>Z y|none=>U)
       |none=>U)
      |none=>U)
     |none=>U)) else U
  |none=>U)
 |none=>U
abbrev Kd0:Ty:=(.st (.pr .bool .bool))
abbrev Yd0:=(Int×C!)
abbrev Yd1:=(Int×h?)
def nF (x:n?):M (Int):=
 (jn (bS x.2 0 (aH J) (aH (dg (bf x.1) x.2))) λz=>(aI z (Z 0) (pu x.2 x.1 (Z (geti aM x.1 x.2)))))
def wT (it:B7) (x:B!):M η:=
 (bT (dg 0 (mR (bf x.1) (bf x.2))&&dg (mR (bf x.1) (bf x.2)) (mR (bf x.1) (bf x.2))&&be (aQ (mR (bf x.1) (bf x.2))) 8) (it k! _ (λz=>(bS z.1 (aP (ah (aF (aQ (mR (bf x.1) (bf x.2))) (0:Int)))) (ay (nF (x.1,z.1)) λD=>(ay (nF (x.2,z.1)) λA=>(ck (fA z.1 (ah z.2)) (c5 ((cW z.1),(cN z.2 z.1 (mR D A))))))) (aH z.2))) (0,(aF (aQ (mR (bf x.1) (bf x.2))) (0:Int)))))
def Bd (x:B!):M η:=wT @iter x
def lB (x:B!):M η:=wT @gT x
def Cj (x:n?):M (Int):=
 (jn (bS x.2 0 (aH J) (aH (dg (bf x.1) x.2))) λz=>(aI z (Z 0) (pu x.2 x.1 (Z (geti aM x.1 x.2)))))
def Q2 (x:η):M η:=
 (aI (aA (ah x) 0) (HJ (Z ([]:η)) (bT (be (ah ([]:η)+ah x) 8) (Z (([]:η)++x)))) (bT (be (ah ([]:η)+ah x) 8) (Z (([]:η)++x))))
def Xh (x:η):M η:=chk (be (ah x) 8) λ_=>Z x
def Lj (x:η):M η:=
 (aI (aA (ah x) 0) (HJ (Z ([]:η)) (bT (be (ah ([]:η)+ah x) 8) (Z (([]:η)++x)))) (bT (be (ah ([]:η)+ah x) 8) (Z (([]:η)++x))))
def uQ (x:η):M η:=chk (be (ah x) 8) λ_=>Z x
def qV (x:n?):M η:=
 (jn (kq 0 x.2 (aH (fQ x.2 4)) (aH aa)) λD=>(jn (aI D (aH (mR (bf x.1) (cW x.2))) (aH (bf x.1))) λz=>(bT (dg 0 z&&dg z z&&be (aQ z) 8) (jn (jn (aI D (ck (fA x.2 (ah (Wz (aF (aQ z) (0:Int)) x.1))) (aH ((fQ (geti aM (Wz (aF (aQ z) (0:Int)) x.1) x.2) 9223372036854775807),(Wz (aF (aQ z) (0:Int)) x.1)))) (aH (aa,(Wz (aF (aQ z) (0:Int)) x.1)))) λA=>(aI A.1 (ck (fA x.2 (ah A.2)) (ck (fA x.2 (ah A.2)) (aH (cN A.2 x.2 (bA .i64 ((geti aM A.2 x.2)+1)))))) (aH A.2))) λL=>(Z L)))))
def Ft (it:B7) (x:B!):M (Bool):=
 (it (Int) _ (λz=>(bS z (mR (bf x.1) (bf x.2)) (ay (Cj (x.1,z)) λD=>(ay (Cj (x.2,z)) λA=>(bS A D (aH aa) (c5 (cW z))))) (aH J))) 0)
def Lb (x:B!):M (Bool):=Ft @iter x
def vD (x:B!):M (Bool):=Ft @gT x
def sV (it:B7) (x:ζ):M (Bool):=
 (lt (geti ((.st (.pr .str (.pr .str (.pr .str (.pr .str (.pr .str (.pr .str (.pr .str (.pr .str (.pr .str (.pr .str (.pr .str (.pr .str (.pr .str (.pr .str (.pr .str (.pr .str (.pr .str (.pr .str (.pr .str (.pr .str (.pr .str .str))))))))))))))))))))))) ([kwV]) 0) λz=>(it (Int) _ (λA=>(bS A 22 (bT (dg 0 A&&fQ A 22) (lt (geti (.str) [z.1,z.2.1,z.a,z.b,z.c,z.e,z.f,z.j,z.m,z.o,z.l,z.n,z.i,z.q,z.t,z.u,z.C,z.D,z.H,z.I,z.K,z.L] A) λD=>(aI (decide ((x:ζ)=D)) (aH J) (c5 (cW A))))) (aH aa))) 0))
def sH (x:ζ):M (Bool):=sV @iter x
def md (x:ζ):M (Bool):=sV @gT x
def xp (it:B7) (x:ζ):M (Bool):=
 (jn (bS (bf x) 1 (aH J) (bS 12 (bf x) (aH J) (ay (md x) λL=>(aH L)))) λx1=>(aI x1 (Z aa) (it (Y (kK×Unit)) _ (λz=>(aI (ef (Lw z) (ah (NG z))) (jn (α:=Y (kK×Unit)) (jn (α:=Bool×Y (kK×Unit)) (kq 97 (rnP (NG z) (Lw z)) (kq (rnP (NG z) (Lw z)) 122 (aH (J,[(((NG z),(aP ((Lw z)+wdP (NG z) (Lw z)))),())])) (kq 65 (rnP (NG z) (Lw z)) (aH ((dg (rnP (NG z) (Lw z)) 90),[(((NG z),(aP ((Lw z)+wdP (NG z) (Lw z)))),())])) (aH (aa,[(((NG z),(aP ((Lw z)+wdP (NG z) (Lw z)))),())])))) (kq 65 (rnP (NG z) (Lw z)) (aH ((dg (rnP (NG z) (Lw z)) 90),[(((NG z),(aP ((Lw z)+wdP (NG z) (Lw z)))),())])) (aH (aa,[(((NG z),(aP ((Lw z)+wdP (NG z) (Lw z)))),())])))) λA=>(aI A.1 (aH A.2) (jn (bS 0 (aP (Lw z)) (bq (rnP (NG z) (Lw z)) 95 (aH (J,A.2)) (kq 48 (rnP (NG z) (Lw z)) (aH ((dg (rnP (NG z) (Lw z)) 57),A.2)) (aH (aa,A.2)))) (aH (aa,A.2))) λD=>(aI D.1 (aH D.2) (c5 (cv aa)))))) λN=>(c5 N)) (aH J))) ([((x,0),())]))))
def xi (x:ζ):M (Bool):=xp @iter x
def pM (x:ζ):M (Bool):=xp @gT x
def zP (it:B7) (x:n?):M (Int):=
 (it (Int) _ (λz=>(bS z (bf x.1) (bX aM x.1 z λA=>(bq x.2 A (aH z) (c5 (cW z)))) (aH (-1)))) 0)
def DU (x:n?):M (Int):=zP @iter x
def sT (x:n?):M (Int):=zP @gT x
def lM (x:n?):M (Bool):=
 (ay (sT x) λz=>(Z (dg 0 z)))
def kh (x:η×i?):M (Bool):=
 (ay (nF (x.1,x.2.2)) λz=>(Z (dg x.2.1 z)))
def ui (x:ν):M (Bool):=
 (jn (kq 0 x.1 (aH (fQ x.1 x.2)) (aH aa)) λz=>(Z z))
def uj (x:eM×u?):M (Bool):=
 (jn (ay (ui (x.2.1,(bf x.1.2.1))) λA=>(aI A (bX tY x.1.2.1 x.2.1 λz=>(aH ((z.2==x.2.2) !=aa))) (aH aa))) λD=>(Z D))
def pF (it:B7) (x:Y V7):M (dz×Bool):=
 (it (Int×Y ζ) _ (λD=>(bS D.1 (bf x) (jn (α:=Int×Y ζ) (bX mA x D.1 λz=>(bT (be (ah D.2+ah ([z.1])) 16) (bq z.a 0 (i_ z.2.1 0 (c5 (cv (([]:Y ζ),aa))) (aH ((cW D.1),(D.2++([z.1]))))) (jn (α:=Bool×L!) (bS z.a 1 (aH (J,(D.2++([z.1])),z)) (bS 4 z.a (aH (J,(D.2++([z.1])),z)) (aI z.b (aH (J,(D.2++([z.1])),z)) (aH ((fQ (bA .i64 ((bf x)-D.1)) z.a),(D.2++([z.1])),z))))) λN=>(aI N.1 (c5 (cv (([]:Y ζ),aa))) (it (Int×L!) _ (λA=>(bS A.1 N.c (bX mA x (bA .i64 (D.1+A.1)) λL=>(aI (Sr (.pr .str (.pr aM (.pr aM (.pr .bool (.pr aM .un))))) (L.1,L.2.1,L.a,L.b,L.g,()) (A.a,A.1,A.c,A.e,A.k,()) !=J) (aH (wF (cv (([]:Y ζ),aa)))) (c5 ((cW A.1),A.2.1,A.a,A.1,A.g)))) (aH (cv ((bA .i64 (D.1+A.c)),A.2.1))))) (0,N.2))))))) λx2=>(c5 x2)) (aH (D.2,J)))) (0,([]:Y ζ)))
def pB (x:Y V7):M (dz×Bool):=pF @iter x
def im (x:Y V7):M (dz×Bool):=pF @gT x
def pE (it:B7) (x:eM×Y ζ):M (Bool):=
 (bT (be (ah (x.2:Y ζ)) 16) (it A! _ (λA=>(bS A.1 (bf x.1.2.1) (bX tY x.1.2.1 A.1 λz2=>(bT (be (ah A.2.2+ah ([z2.1])) 16) (c5 ((cW A.1),A.2.1,(A.2.2++([z2.1])))))) (ay (it A! _ (λz=>(bS z.1 (bf A.2.1.a) (bX nX A.2.1.a z.1 λz4=>(bT (be (ah z.2.2+ah ([z4.1])) 16) (c5 ((cW z.1),z.2.1,(z.2.2++([z4.1])))))) (ay (bT (be (ah z.2.2+ah z.2.1.b) 16) (bT (be (ah (z.2.2++z.2.1.b)+ah z.2.1.c) 16) (it (Int×nW×Y ζ) _ (λD=>(bS D.1 (aP (ah ((z.2.2++z.2.1.b)++z.2.1.c))) (ko (.str) D.2.2 D.1 λL=>(jn (ay (pM L) λy8=>(aI (!y8) (aH (J,D.2)) (aH ((Ai (K:=.str) (V:=.bool) L D.2.1 aa),D.2)))) λN=>(aI N.1 (aH aa) (c5 ((cW D.1),(zB (K:=.str) (V:=.bool) L J N.2.1),N.2.2))))) (aH J))) (0,([]:Y F!),((z.2.2++z.2.1.b)++z.2.1.c))))) λr=>Z (cv r)))) (0,A.2)) λr=>Z (cv r)))) (0,x)))
def pA (x:eM×Y ζ):M (Bool):=pE @iter x
def dZ (x:eM×Y ζ):M (Bool):=pE @gT x
def lX (it:B7) (x:b?):M (Bool):=
 (it (π×b?) _ (λz=>(bS z.1.2.2 (bf x.h) (bX qO x.h z.1.2.2 λL=>(jn (bS L.1 z.1.1 (aH (J,z.2,L)) (aH ((dg (bf z.e) L.1),z.2,L))) λD=>(aI D.1 (aH aa) (jn (α:=(ν)×eM×Int×i?) (bS z.1.1 D.a (aH ((D.a,0),D.2)) (aH ((z.1.1,z.1.2.1),D.2))) λA=>(i_ A.b A.1.2 (aH aa) (c5 ((A.1.1,(cW A.1.2),(cW z.1.2.2)),A.2.1))))))) (aH J))) ((0,0,0),x))
def py (x:b?):M (Bool):=lX @iter x
def gm (x:b?):M (Bool):=lX @gT x
def lY (it:B7) (x:b?):M (Bool):=
 (jn (bS 12 (bf x.1) (aH (J,x)) (bS 4 (bf x.2.1) (aH (J,x)) (bS 2 (bf x.a) (aH (J,x)) (bS 2 (bf x.b) (aH (J,x)) (aH ((fQ 60 (bf x.h)),x)))))) λD=>(aI D.1 (Z aa) (jn (bS (bf D.e) 1 (aH (J,D.2)) (aH ((fQ 4 (bf D.e)),D.2))) λA=>(aI A.1 (Z aa) (ay (im A.2.1) λN=>(jn (aI (!N.2) (aH (J,A.2)) (ay (dZ (A.2,N.1)) λy5=>(aH ((!y5),A.2)))) λL=>(aI L.1 (Z aa) (it D? _ (λz=>(bS z.1 (bf L.b) (bX nX L.b z.1 λz7=>(ay (uj (z.2,z7.2,aa)) λy8=>(aI (!y8) (aH aa) (c5 ((cW z.1),z.2))))) (ay (ay (gm z.2) λy9=>(Z y9)) λr=>Z (cv r)))) (0,L.2)))))))))
def pC (x:b?):M (Bool):=lY @iter x
def d_ (x:b?):M (Bool):=lY @gT x
def xr (it:B7) (x:b?):M ub:=
 (bT (dg 0 (bf x.2.1)&&dg (bf x.2.1) (bf x.2.1)&&be (aQ (bf x.2.1)) 32) (bT (dg 0 (bf x.b)&&dg (bf x.b) (bf x.b)&&be (aQ (bf x.b)) 1) (bT (dg 0 (bf x.c)&&dg (bf x.c) (bf x.c)&&be (aQ (bf x.c)) 24) (it U? _ (λz=>(bS z.1 (aP (ah (aF (aQ (bf x.2.1)) ((0,[]):k!)))) (ck (fA z.1 (ah z.b)) (c5 ((cW z.1),z.2.1,z.a,(cN z.b z.1 ((-1),(geti eA z.b z.1).2)),z.g))) (ay (jn (α:=q?) (bS 0 (bf z.h) (ck (fA 0 (ah z.h)) (aH (z.2.1,z.a,z.b,z.c,(cN z.h 0 (1,(geti iB z.h 0).2))))) (aH z.2)) λA=>(Z (A.a,A.2.1,A.d))) λr=>Z (cv r)))) (0,0,(-1),(aF (aQ (bf x.2.1)) ((0,[]):k!)),(aF (aQ (bf x.b)) (aa:Bool)),(aF (aQ (bf x.c)) ((0,(0,aa)):g?)))))))
def xl (x:b?):M ub:=xr @iter x
def pP (x:b?):M ub:=xr @gT x
def rP (it:B7) (x:b?):M gz:=
 (ay (pP x) λD=>(bT (dg 0 0&&dg 0 (bf x.1)&&be (aQ (bf x.1)) 8) (bT (dg 0 (bf x.b)&&dg (bf x.b) (bf x.b)&&be (aQ (bf x.b)) 8) (bT (dg 0 (bf x.c)&&dg (bf x.c) (bf x.c)&&be (aQ (bf x.c)) 8) (it (Int×Int×P!) _ (λz=>(bS z.1 (bf x.1) (bX mA x.1 z.1 λA=>(bT (be (ah z.b+ah ([A.g])) 8) (c5 ((cW z.1),z.2.1,z.a,(z.b++([A.g])),z.g)))) (aH z.2.2))) (0,0,D,(aF (aQ 0) (0:Int)),(aF (aQ (bf x.b)) (0:Int)),(aF (aQ (bf x.c)) (0:Int))))))))
def rz (x:b?):M gz:=rP @iter x
def dB (x:b?):M gz:=rP @gT x
def lE (it:B7) (x:θ×c?):M (Bool):=
 (it (Int) _ (λz=>(bS z 2 (bT (dg 0 z&&fQ z 2) (lt (geti ((.sl aM)) [x.f,x.p] z) λL=>(it (Int) _ (λD=>(bS D (bf L) (bX aM L D λA=>(jn (bS A 0 (aH J) (kq (bf x.1) A (aH J) (bX (.bool) x.1 A λN=>(aH (!N))))) λx5=>(aI x5 (aH (cv aa)) (c5 (cW D))))) (aH (wF (cW z))))) 0))) (aH J))) 0)
def og (x:θ×c?):M (Bool):=lE @iter x
def cC (x:θ×c?):M (Bool):=lE @gT x
def fo (x:ν):M (Bool):=
 (jn (kq 0 x.1 (aH (fQ x.1 x.2)) (aH aa)) λz=>(Z z))
def m8 (x:eM×i?):M (Bool):=
 (jn (bq x.2.1 1 (aH ((decide ((x.2.1:Int)=1)),x.1)) (bq x.2.1 2 (aH ((decide ((x.2.1:Int)=2)),x.1)) (bq x.2.1 5 (aH ((decide ((x.2.1:Int)=5)),x.1)) (bq x.2.1 12 (aH ((decide ((x.2.1:Int)=12)),x.1)) (bq x.2.1 13 (aH ((decide ((x.2.1:Int)=13)),x.1)) (bq x.2.1 14 (aH ((decide ((x.2.1:Int)=14)),x.1)) (aH ((decide ((x.2.1:Int)=15)),x.1)))))))) λx1=>(aI x1.1 (Z (decide ((x.2.2:Int)=(-1)))) (jn (bq x.2.1 3 (aH ((decide ((x.2.1:Int)=3)),x1.2)) (aH ((decide ((x.2.1:Int)=4)),x1.2))) λx2=>(aI x2.1 (ay (fo (x.2.2,(bf x2.2.1))) λy3=>(Z y3)) (jn (bq x.2.1 6 (aH ((decide ((x.2.1:Int)=6)),x2.2)) (aH ((decide ((x.2.1:Int)=7)),x2.2))) λL=>(aI L.1 (jn (ay (fo (x.2.2,(bf L.a))) λy6=>(aI y6 (bX tY L.a x.2.2 λz7=>(aH (!z7.2))) (aH aa))) λx5=>(Z x5)) (jn (bq x.2.1 8 (aH ((decide ((x.2.1:Int)=8)),L.2)) (bq x.2.1 9 (aH ((decide ((x.2.1:Int)=9)),L.2)) (bq x.2.1 10 (aH ((decide ((x.2.1:Int)=10)),L.2)) (aH ((decide ((x.2.1:Int)=11)),L.2))))) λD=>(aI D.1 (jn (ay (fo (x.2.2,(bf D.a))) λy10=>(aI y10 (bX tY D.a x.2.2 λz11=>(aH z11.2)) (aH aa))) λx9=>(Z x9)) (jn (bq x.2.1 16 (aH ((decide ((x.2.1:Int)=16)),D.2)) (bq x.2.1 17 (aH ((decide ((x.2.1:Int)=17)),D.2)) (bq x.2.1 18 (aH ((decide ((x.2.1:Int)=18)),D.2)) (aH ((decide ((x.2.1:Int)=19)),D.2))))) λA=>(aI A.1 (ay (fo (x.2.2,(bf A.b))) λy13=>(Z y13)) (jn (bq x.2.1 20 (aH ((decide ((x.2.1:Int)=20)),A.2)) (aH ((decide ((x.2.1:Int)=21)),A.2))) λz=>(aI z.1 (ay (fo (x.2.2,(bf z.e))) λy15=>(Z y15)) (jn (bq x.2.1 22 (aH ((decide ((x.2.1:Int)=22)),z.2)) (aH ((decide ((x.2.1:Int)=23)),z.2))) λN=>(aI N.1 (ay (fo (x.2.2,(bf N.c))) λy17=>(Z y17)) (Z aa)))))))))))))))
def uU (it:B7) (x:eM×v?):M (Bool):=
 (jn (i_ (bf x.2.1) (bf x.1.2.1) (aH (J,x.1)) (i_ (bf x.b) (bf x.1.b) (aH (J,x.1)) (aH ((!decide (((bf x.g):Int)=(bf x.1.c))),x.1)))) λA=>(aI A.1 (Z aa) (it D? _ (λz=>(bS z.1 (bf A.b) (bX nX A.b z.1 λD=>(ay (fo (D.2,(bf z.a))) λL=>(aI (!L) (aH aa) (c5 ((cW z.1),z.2))))) (aH J))) (0,A.2))))
def zu (x:eM×v?):M (Bool):=uU @iter x
def lz (x:eM×v?):M (Bool):=uU @gT x
def pO (x:N?):M (Bool):=
 (bq x.b 6 (bX eA x.2.1.1 x.g λz1=>(Z (decide ((z1.1:Int)=(-1))))) (bq x.b 10 (jn (α:=Bool) (bX eA x.2.1.1 x.g λz3=>(bq z3.1 (-1) (bX eA x.2.1.1 x.g λz4=>(aH (decide (((bf z4.2):Int)=0)))) (aH aa))) λx2=>(Z x2)) (bq x.b 8 (jn (α:=Bool) (bX eA x.2.1.1 x.g λz6=>(bq z6.1 (-1) (bX eA x.2.1.1 x.g λz7=>(ay (lM (z7.2,x.a)) λy8=>(aH (!y8)))) (aH aa))) λx5=>(Z x5)) (jn (bq x.b 7 (aH ((decide ((x.b:Int)=7)),x.1,x.2.1)) (aH ((decide ((x.b:Int)=11)),x.1,x.2.1))) λA=>(aI A.1 (bX eA A.a x.g λz10=>(Z (decide ((z10.1:Int)=x.a)))) (bq x.b 9 (bX eA A.a x.g λz11=>(ay (lM (z11.2,x.a)) λy12=>(Z y12))) (bq x.b 12 (Z (decide ((A.b:Int)=(-1)))) (bq x.b 13 (Z (decide ((A.b:Int)=x.a))) (bq x.b 14 (bX iB A.h x.a λz13=>(Z (!z13.2.2))) (bq x.b 15 (bX iB A.h x.a λz14=>(Z z14.2.2)) (jn (bq x.b 16 (aH ((decide ((x.b:Int)=16)),A.2)) (bq x.b 18 (aH ((decide ((x.b:Int)=18)),A.2)) (aH ((decide ((x.b:Int)=19)),A.2)))) λz=>(aI z.1 (bX nX z.2.1.a x.g λz16=>(bX eA z.a z16.2 λz17=>(Z (decide ((z17.1:Int)=x.a))))) (bq x.b 20 (jn (i_ x.g x.a (bX iB z.h x.g λz19=>(aH (decide ((z19.1:Int)=0)))) (aH aa)) λx18=>(Z x18)) (bq x.b 21 (jn (i_ x.g x.a (bX iB z.h x.g λN=>(aH (decide ((N.1:Int)=5)))) (aH aa)) λx20=>(Z x20)) (bq x.b 22 (bX (.bool) z.c x.g λL=>(Z (!L))) (bq x.b 23 (bX (.bool) z.c x.g λD=>(Z D)) (Z J)))))))))))))))))
def jO (x:N?):M (Bool):=
 (jn (ay (lz (x.1,x.2.1)) λy2=>(aI (!y2) (aH (J,x.1,x.2.1)) (ay (fo (x.a,(bf x.1.c))) λy3=>(aI (!y3) (aH (J,x.1,x.2.1)) (ay (m8 (x.1,x.d)) λy4=>(aH ((!y4),x.1,x.2.1))))))) λz=>(aI z.1 (Z aa) (bX iB z.h x.a λA=>(bq x.b 1 (Z (decide ((A.1:Int)=1))) (bq x.b 17 (jn (α:=Bool) (bq A.1 4 (bq A.2.1 x.g (bX nX z.2.1.a x.g λN=>(bX eA z.a N.2 λL=>(aH (decide ((L.1:Int)=(-1)))))) (aH aa)) (aH aa)) λx6=>(Z x6)) (jn (bq A.1 2 (ay (pO (z.2.1,z.2.2,x.2.2)) λD=>(aH D)) (aH aa)) λx9=>(Z x9)))))))
def ma (x:eM×P!):M (Bool):=
 (jn (ay (lz (x.1,x.2.1)) λz=>(aI z (bq (bf x.a) (bf x.1.1) (bq (bf x.b) (bf x.1.b) (aH (decide (((bf x.g):Int)=(bf x.1.c)))) (aH aa)) (aH aa)) (aH aa))) λA=>(Z A))
def kr (x:eM×c?):M (Bool):=
 (jn (bq x.a 1 (aH (J,x)) (aH ((decide ((x.a:Int)=2)),x))) λz=>(aI z.1 (Z (decide ((z.f:Int)=(-1)))) (jn (kq 0 z.f (bS z.f (bf z.2.1.h) (bX qO z.2.1.h z.f λA=>(aH (decide ((A.1:Int)=z.a)))) (aH aa)) (aH aa)) λD=>(Z D))))
def j8 (it:B7) (x:eM×K!):M (Bool):=
 (jn (bq x.b 3 (bX mA x.1.1 x.c λz2=>(aH ((!decide ((z2.2.2.1:Int)=0)),x.2))) (bq x.b 4 (bX mA x.1.1 x.c λz3=>(aH ((!decide ((z3.2.2.1:Int)=0)),x.2))) (aH (aa,x.2)))) λz=>(jn (bq z.b 5 (bq z.b 4 (aH (z.2.1,z.2.2,J,J)) (aH (z.2.1,z.2.2,J,(decide ((z.b:Int)=22))))) (bq z.b 4 (aH (z.2.1,z.2.2,z.1,J)) (aH (z.2.1,z.2.2,z.1,(decide ((z.b:Int)=22)))))) λx4=>(it (Int×gz×gx×J!) _ (λA=>(bS A.1 2 (bT (dg 0 A.1&&fQ A.1 2) (lt (geti ((.sl aM)) [x4.2.1.e,x4.2.1.k] A.1) λz6=>(jn (α:=Bool×gz×gx×J!) (bS 0 (bf z6) (bT (dg 0 A.1&&fQ A.1 2) (bT (fA A.1 2) (lt (geti (.bool) [A.b,A.g] A.1) λz8=>(aH ((!z8),A.2))))) (aH (aa,A.2))) λx7=>(aI x7.1 (aH aa) (it (ν×gz×gx×J!) _ (λD=>(bS D.1.2 (bf z6) (bX aM z6 D.1.2 λL=>(jn (kq L D.1.1 (aH (J,D.2)) (bX aM D.2.1.d D.a.1 λz12=>(aH ((dg z12 L),D.2)))) λN=>(aI N.1 (aH (cv aa)) (c5 ((L,(cW D.1.2)),N.2))))) (aH (wF ((cW A.1),D.2))))) ((0,0),x7.2)))))) (aH J))) (0,x4))))
def mL (x:eM×K!):M (Bool):=j8 @iter x
def fg (x:eM×K!):M (Bool):=j8 @gT x
def mS (it:B7) (x:K!):M (Bool):=
 (bq x.a 3 (bX aM x.1.2.1 x.b λz1=>(Z (decide ((x.c:Int)=z1)))) (bq x.a 23 (bX aM x.1.a x.b λz2=>(Z (decide ((x.c:Int)=z2)))) (bq x.a 5 (jn (bq x.c 0 (aH J) (aH (decide ((x.c:Int)=1)))) λx3=>(Z x3)) (jn (bq x.a 4 (aH ((decide ((x.a:Int)=4)),x)) (aH ((decide ((x.a:Int)=22)),x))) λD=>(aI D.1 (Z J) (bq x.a 18 (it ((Int×Bool×Int)×c?) _ (λA=>(bS A.1.2.2 (bf D.2.1.1.d) (jn (bX iB D.2.1.1.d A.1.2.2 λz7=>(jn (bq z7.1 3 (aH ((decide ((z7.2.1:Int)=A.b)),A.2)) (aH (aa,A.2))) λx8=>(aI x8.1 (aI A.1.2.1 (aH (((cW A.1.1),J),x8.2)) (aH (((cW A.1.1),(decide ((x8.c:Int)=A.1.2.2))),x8.2))) (aH ((A.1.1,A.1.2.1),x8.2))))) λx6=>(c5 ((x6.1.1,x6.1.2,(cW A.1.2.2)),x6.2))) (ay (jn (α:=Bool) (aI A.1.2.1 (aH J) (bq A.1.1 0 (aH (decide ((A.c:Int)=(-1)))) (aH aa))) λx9=>(Z x9)) λr=>Z (cv r)))) ((0,aa,0),D.2.2)) (bq x.a 19 (it (ν×c?) _ (λz=>(bS z.1.2 (bf D.2.1.1.d) (jn (bX iB D.2.1.1.d z.1.2 λN=>(jn (bq N.1 3 (aH ((decide ((N.2.1:Int)=z.b)),z.2)) (aH (aa,z.2))) λL=>(aI L.1 (aH ((cW z.1.1),L.2)) (aH (z.1.1,L.2))))) λx11=>(c5 ((x11.1,(cW z.1.2)),x11.2))) (aH (decide ((z.c:Int)=z.1.1))))) ((0,0),D.2.2)) (Z (decide ((D.e:Int)=0))))))))))
def qA (x:K!):M (Bool):=mS @iter x
def gJ (x:K!):M (Bool):=mS @gT x
def nD (x:ey×Int):M (Bool):=
 (jn (bq x.1.1 3 (aH (decide ((x.1.2.1:Int)=x.2))) (aH aa)) λz=>(Z z))
def Ll (x:θ):M θ:=
 (aI (aA (ah x) 0) (HJ (Z ([]:θ)) (bT (be (ah ([]:θ)+ah x) 1) (Z (([]:θ)++x)))) (bT (be (ah ([]:θ)+ah x) 1) (Z (([]:θ)++x))))
def Q1 (x:θ):M θ:=chk (be (ah x) 1) λ_=>Z x
def G4 (x:θ):M θ:=
 (aI (aA (ah x) 0) (HJ (Z ([]:θ)) (bT (be (ah ([]:θ)+ah x) 1) (Z (([]:θ)++x)))) (bT (be (ah ([]:θ)+ah x) 1) (Z (([]:θ)++x))))
def Lk (x:θ):M θ:=chk (be (ah x) 1) λ_=>Z x
def Li (x:Y ey):M (Y ey):=
 (aI (aA (ah x) 0) (HJ (Z ([]:Y ey)) (bT (be (ah ([]:Y ey)+ah x) 24) (Z (([]:Y ey)++x)))) (bT (be (ah ([]:Y ey)+ah x) 24) (Z (([]:Y ey)++x))))
def Q0 (x:Y ey):M (Y ey):=chk (be (ah x) 24) λ_=>Z x
def G2 (x:Y ey):M (Y ey):=
 (aI (aA (ah x) 0) (HJ (Z ([]:Y ey)) (bT (be (ah ([]:Y ey)+ah x) 24) (Z (([]:Y ey)++x)))) (bT (be (ah ([]:Y ey)+ah x) 24) (Z (([]:Y ey)++x))))
def Lh (x:Y ey):M (Y ey):=chk (be (ah x) 24) λ_=>Z x
def G3 (x:η):M η:=
 (aI (aA (ah x) 0) (HJ (Z ([]:η)) (bT (be (ah ([]:η)+ah x) 8) (Z (([]:η)++x)))) (bT (be (ah ([]:η)+ah x) 8) (Z (([]:η)++x))))
def Bg (x:η):M η:=chk (be (ah x) 8) λ_=>Z x
def tu (it:B7) (x:v?):M Yd0:=
 (bT (dg 0 (bf x.1)&&dg (bf x.1) (bf x.1)&&be (aQ (bf x.1)) 32) (it (Int×ub×Int×Y (Int×η)) _ (λz=>(bS z.1 (bf x.1) (bX eA x.1 z.1 λA=>(ay (Xh A.2) λN=>(ck (fA z.1 (ah z.d)) (c5 ((cW z.1),z.2.1,z.a,(cN z.d z.1 (A.1,N))))))) (ay (ay (Lk z.2.1.a) λL=>(ay (Lh z.2.1.d) λD=>(Z (z.2.1.2.1,z.d,L,D)))) λr=>Z (cv r)))) (0,x,0,(aF (aQ (bf x.1)) ((0,[]):k!)))))
def xk (x:v?):M Yd0:=tu @iter x
def lL (x:v?):M Yd0:=tu @gT x
abbrev H!:=jY×(θ)×(Y ey)×Int
def rU (it:B7) (x:π×C!):M Yd0:=
 (it (ν×H!) _ (λz=>(bS z.1.2 (bf x.d) (jn (ko iB z.b z.1.2 λL=>(jn (ay (nD (L,x.1.2.1)) λN=>(aI N (bS z.1.1 0 (aH (J,z.2)) (aH ((decide ((z.1.2:Int)=x.1.2.2)),z.2))) (aH (aa,z.2)))) λA=>(aI A.1 (aH (z.1.2,A.2)) (aH (z.1.1,A.2))))) λD=>(c5 ((D.1,(cW z.1.2)),D.2))) (ay (jn (α:=C!) (kq 0 z.1.1 (ck (fA z.1.1 (ah z.b)) (aH (z.2.1,z.a,(cN z.b z.1.1 (4,(geti iB z.b z.1.1).2))))) (aH (z.2.1,z.a,z.b))) λx6=>(Z (z.1.1,x6))) λr=>Z (cv r)))) (((-1),0),x.2.1,x.a,x.d,x.1.1))
def vB (x:π×C!):M Yd0:=rU @iter x
def kB (x:π×C!):M Yd0:=rU @gT x
def nN (it:B7) (x:ν×C!):M Yd0:=
 (it (ν×H!) _ (λz=>(bS z.1.2 (bf x.d) (jn (α:=Int×H!) (ko iB z.b z.1.2 λD=>(ay (nD (D,x.1.2)) λL=>(aI L (ck (fA z.1.2 (ah z.b)) (aH ((cW z.1.1),z.2.1,z.a,(cN z.b z.1.2 (4,(geti iB z.b z.1.2).2)),z.g))) (aH (z.1.1,z.2))))) λA=>(c5 ((A.1,(cW z.1.2)),A.2))) (aH (z.1.1,z.2.1,z.a,z.b)))) ((0,0),x.2.1,x.a,x.d,x.1.1))
def rB (x:ν×C!):M Yd0:=nN @iter x
def ia (x:ν×C!):M Yd0:=nN @gT x
def rM (x:Int):M (Bool):=
 (Z (!decide ((x:Int)=x)))
def xn (x:ν):M (Bool):=
 (jn (ay (rM x.1) λA=>(aI A (ay (rM x.2) λz=>(aI (!z) (aH J) (aH (fQ x.1 x.2)))) (aH (fQ x.1 x.2)))) λD=>(Z D))
def sQ (x:Int):M (Int):=
 (kq 4294967296 x U (kq 65536 x U (kq 256 x U (pu (bA .u8 x) ([0,1,2,2,3,3,3,3,4,4,4,4,4,4,4,4,5,5,5,5,5,5,5,5,5,5,5,5,5,5,5,5,6,6,6,6,6,6,6,6,6,6,6,6,6,6,6,6,6,6,6,6,6,6,6,6,6,6,6,6,6,6,6,6,7,7,7,7,7,7,7,7,7,7,7,7,7,7,7,7,7,7,7,7,7,7,7,7,7,7,7,7,7,7,7,7,7,7,7,7,7,7,7,7,7,7,7,7,7,7,7,7,7,7,7,7,7,7,7,7,7,7,7,7,7,7,7,7,8,8,8,8,8,8,8,8,8,8,8,8,8,8,8,8,8,8,8,8,8,8,8,8,8,8,8,8,8,8,8,8,8,8,8,8,8,8,8,8,8,8,8,8,8,8,8,8,8,8,8,8,8,8,8,8,8,8,8,8,8,8,8,8,8,8,8,8,8,8,8,8,8,8,8,8,8,8,8,8,8,8,8,8,8,8,8,8,8,8,8,8,8,8,8,8,8,8,8,8,8,8,8,8,8,8,8,8,8,8,8,8,8,8,8,8,8,8,8,8,8,8,8,8,8,8,8,8]) (Z (bA .i64 (0+(bA .i64 (aie ([0,1,2,2,3,3,3,3,4,4,4,4,4,4,4,4,5,5,5,5,5,5,5,5,5,5,5,5,5,5,5,5,6,6,6,6,6,6,6,6,6,6,6,6,6,6,6,6,6,6,6,6,6,6,6,6,6,6,6,6,6,6,6,6,7,7,7,7,7,7,7,7,7,7,7,7,7,7,7,7,7,7,7,7,7,7,7,7,7,7,7,7,7,7,7,7,7,7,7,7,7,7,7,7,7,7,7,7,7,7,7,7,7,7,7,7,7,7,7,7,7,7,7,7,7,7,7,7,8,8,8,8,8,8,8,8,8,8,8,8,8,8,8,8,8,8,8,8,8,8,8,8,8,8,8,8,8,8,8,8,8,8,8,8,8,8,8,8,8,8,8,8,8,8,8,8,8,8,8,8,8,8,8,8,8,8,8,8,8,8,8,8,8,8,8,8,8,8,8,8,8,8,8,8,8,8,8,8,8,8,8,8,8,8,8,8,8,8,8,8,8,8,8,8,8,8,8,8,8,8,8,8,8,8,8,8,8,8,8,8,8,8,8,8,8,8,8,8,8,8,8,8,8,8,8,8]) (bA .u8 x))))))))))
def vL (x:Int):M (Int):=
 (ay (sQ x) λz=>(Z z))
def kY (it:B7) (x:ν×η):M η:=
 (it k! _ (λD=>(bS D.1 x.1.2 (it k! _ (λz=>(jn (bS x.1.1 z.1 (ko aM z.2 z.1 λz4=>(ko aM z.2 (bA .i64 (z.1-1)) λz5=>(ay (xn (z4,z5)) λy6=>(aH (y6,z.2))))) (aH (aa,z.2))) λA=>(aI A.1 (ko aM A.2 (bA .i64 (z.1-1)) λL=>(ko aM A.2 z.1 λN=>(ck (fA z.1 (ah A.2)) (ck (fA (bA .i64 (z.1-1)) (ah (cN A.2 z.1 L))) (c5 ((bA .i64 (z.1-1)),(cN (cN A.2 z.1 L) (bA .i64 (z.1-1)) N))))))) (aH (wF ((cW D.1),A.2)))))) D) (aH D.2))) ((cW x.1.1),x.2))
def kX (x:ν×η):M η:=kY @iter x
def f_ (x:ν×η):M η:=kY @gT x
def pD (it:B7) (x:π×η):M η:=
 (it ((Int×Int×Int×Bool×Bool)×η) _ (λz=>(kq (bA .i64 (z.1.2.1-z.1.1)) 12 (ay (f_ ((z.1.1,z.1.2.1),z.2)) λA=>(bT (aA (ah z.2) (ah A)&&J) (aH A))) (bq z.1.a 0 U (aI (!z.1.b) U U)))) ((x.1.1,x.1.2.1,x.1.2.2,J,J),x.2))
def pw (x:π×η):M η:=pD @iter x
def jW (x:π×η):M η:=pD @gT x
def yd (x:η):M η:=
 (ay (vL (bA .u64 (bf x))) λA=>(ay (jW ((0,(bf x),A),x)) λz=>(bT (aA (ah x) (ah z)&&J) (Z z))))
def zQ (it:B7) (x:η):M η:=
 (bS (bf x) 2 (Z x) (it k! _ (λz=>(bS z.1 (bf z.2) (ko aM z.2 z.1 λD=>(ko aM z.2 (bA .i64 (z.1-1)) λA=>(bq D A (bT (dg 0 z.1&&fQ z.1 (ah z.2)) U) (c5 ((cW z.1),z.2))))) (aH z.2))) (1,x)))
def zA (x:η):M η:=zQ @iter x
def mP (x:η):M η:=zQ @gT x
def p_ (x:ν):M (Bool×Int):=
 (Z ((decide ((x.1:Int)=x.2)),x.2))
def vV (it:B7) (x:n?):M I!:=
 (it I! _ (λz=>(bS z.1 (bf x.1) (ko aM z.2.1 z.1 λD=>(ay (p_ (D,z.2.2)) λA=>(aI A.1 (aH (z.1,z.2.1,A.2)) (c5 ((cW z.1),z.2.1,A.2))))) (aH ((-1),z.2)))) (0,x))
def vC (x:n?):M I!:=vV @iter x
def oI (x:n?):M I!:=vV @gT x
def uo (it:B7) (x:n?):M k!:=
 (ay (oI x) λA=>(bT (aA (ah x.1) (ah A.2.1)&&J) (bq A.1 (-1) U (it (ν×t?) _ (λz=>(bS z.1.2 (bf z.2.1) (jn (ko aM z.2.1 z.1.2 λL=>(ay (p_ (L,z.2.2)) λD=>(aI (!D.1) (ck (fA z.1.1 (ah z.2.1)) (aH ((cW z.1.1),(cN z.2.1 z.1.1 L),D.2))) (aH (z.1.1,z.2.1,D.2))))) λN=>(c5 ((N.1,(cW z.1.2)),N.2))) (ay (ck (dg 0 z.1.1&&fQ z.1.1 (ah z.2.1)) (bT (dg 0 z.1.1&&fQ z.1.1 (ah (dF (aQ z.1.1) z.2.1++aF (ah z.2.1-aQ z.1.1) (0:Int)))) (Z (z.2.2,(dF (aQ z.1.1) (dF (aQ z.1.1) z.2.1++aF (ah z.2.1-aQ z.1.1) (0:Int))))))) λr=>Z (cv r)))) ((A.1,(cW A.1)),A.2)))))
def uh (x:n?):M k!:=uo @iter x
def jP (x:n?):M k!:=uo @gT x
def ic (x:Q!):M (ub×u?):=
 (ay (jO (x.1,x.2.1,x.a,x.b,x.c)) λy1=>(aI (!y1) (Z ((([]:Y k!),0,([]:θ),([]:Y ey)),0,aa)) (ay (lL x.2.1) λA=>(jn (α:=U?) (bq x.b 1 (ck (fA x.a (ah A.d)) (aH (0,A.1,0,A.2.1,A.a,(cN A.d x.a (2,(geti iB A.d x.a).2))))) (bq x.b 2 (ck (fA x.a (ah A.d)) (aH (0,A.1,0,A.2.1,A.a,(cN A.d x.a (5,(geti iB A.d x.a).2))))) (jn (α:=Bool×eM×U?) (bq x.b 6 (aH ((decide ((x.b:Int)=6)),x.1,A.1,x.a,0,A.2)) (aH ((decide ((x.b:Int)=10)),x.1,A.1,x.a,0,A.2))) λN=>(aI N.1 (ck (fA x.c (ah N.e)) (aH (0,N.a,N.c,(cN N.e x.c (N.b,(geti eA N.e x.c).2)),N.k))) (jn (bq x.b 7 (aH ((decide ((x.b:Int)=7)),N.2)) (aH ((decide ((x.b:Int)=11)),N.2))) λz=>(aI z.1 (ck (fA x.c (ah z.e)) (aH (0,z.a,z.c,(cN z.e x.c ((-1),(geti eA z.e x.c).2)),z.k))) (bq x.b 8 (ko eA z.e x.c λz6=>U) (bq x.b 9 (ko eA z.e x.c λz7=>U) (bq x.b 12 (aH (0,z.d)) (bq x.b 13 (aH (0,(-1),z.g)) (bq x.b 14 (ck (fA z.b (ah z.p)) (aH (0,z.a,z.c,z.e,z.f,(cN z.p z.b ((geti iB z.p z.b).1,((geti iB z.p z.b).2).1,J))))) (bq x.b 15 (ck (fA z.b (ah z.p)) (aH (0,z.a,z.c,z.e,z.f,(cN z.p z.b ((geti iB z.p z.b).1,((geti iB z.p z.b).2).1,aa))))) (bq x.b 16 (bX nX z.2.1.a x.c λz8=>(ck (fA z8.2 (ah z.e)) (ck (fA z.b (ah z.p)) (ck (fA z.b (ah (cN z.p z.b (3,(geti iB z.p z.b).2)))) (aH (0,z.a,z.c,(cN z.e z8.2 ((-1),(geti eA z.e z8.2).2)),z.f,(cN (cN z.p z.b (3,(geti iB z.p z.b).2)) z.b ((geti iB (cN z.p z.b (3,(geti iB z.p z.b).2)) z.b).1,x.c,((geti iB (cN z.p z.b (3,(geti iB z.p z.b).2)) z.b).2).2)))))))) (bq x.b 17 (bX nX z.2.1.a x.c λz9=>(ck (fA z9.2 (ah z.e)) (ck (fA z.b (ah z.p)) (ck (fA z.b (ah (cN z.p z.b (2,(geti iB z.p z.b).2)))) (aH (0,z.a,z.c,(cN z.e z9.2 (z.b,(geti eA z.e z9.2).2)),z.f,(cN (cN z.p z.b (2,(geti iB z.p z.b).2)) z.b ((geti iB (cN z.p z.b (2,(geti iB z.p z.b).2)) z.b).1,0,((geti iB (cN z.p z.b (2,(geti iB z.p z.b).2)) z.b).2).2)))))))) (bq x.b 18 (ay (kB ((z.a,x.g),z.h)) λL=>(bT (aA (ah z.p) (ah L.d)&&(aA (ah z.f) (ah L.a)&&(aA (ah z.e) (ah L.2.1)&&J))) (aH (L.1,z.a,z.c,L.2)))) (bq x.b 19 (ay (ia ((z.a,x.c),z.h)) λD=>(bT (aA (ah z.p) (ah D.d)&&(aA (ah z.f) (ah D.a)&&(aA (ah z.e) (ah D.2.1)&&J))) (aH (D.1,z.a,z.c,D.2)))) (bq x.b 20 (ck (fA x.c (ah z.p)) (aH (0,z.a,z.c,z.e,z.f,(cN z.p x.c (1,(geti iB z.p x.c).2))))) (bq x.b 22 (ck (fA x.c (ah z.f)) (aH (0,z.a,z.c,z.e,(cN z.f x.c J),z.p))) (aH (0,z.a,z.g)))))))))))))))))))) λx3=>(Z ((x3.b,x3.2.1,x3.g),x3.1,J))))))
def oH (x:v?):M (Yd1×(π)×e?):=
 (bT (dg 0 (bf x.1)&&dg (bf x.1) (bf x.1)&&be (aQ (bf x.1)) 32&&decide (((bf x.1):Int)=3)) (jn (α:=ub×Int×(π)×e?) (bS 0 (bf x.1) (bX eA x.1 0 λz=>(ay (uQ z.2) λL=>(bS 1 (bf x.1) (bX eA x.1 1 λD=>(ay (uQ D.2) λy5=>(bS 2 (bf x.1) (bX eA x.1 2 λz6=>(ay (uQ z6.2) λy7=>(bS 3 (bf x.1) (bX eA x.1 3 λz8=>(ay (uQ z8.2) λy9=>U)) (aH (x,0,(z.1,D.1,z6.1),L,y5,y7))))) (aH (x,0,(z.1,D.1,0),L,y5,([]:η)))))) (aH (x,0,(z.1,0,0),L,([]:η),([]:η)))))) (aH (x,0,(0,0,0),([]:η),([]:η),([]:η)))) λA=>(ay (Q1 A.1.a) λy10=>(ay (Q0 A.1.d) λN=>(Z ((A.1.2.1,y10,N),A.2.2))))))
def mg (x:Q!):M (ub×u?):=
 (ay (jO (x.1,x.2.1,x.a,x.b,x.c)) λy1=>(aI (!y1) (Z ((([]:Y k!),0,([]:θ),([]:Y ey)),0,aa)) (ay (oH x.2.1) λD=>(jn (α:=Int×Yd1×Int×((Int×η)×(Int×η)×Int)×Bool×η) (bq x.b 1 (pu x.a D.1.2.2 U) (bq x.b 2 (pu x.a D.1.2.2 U) (jn (α:=Bool×eM×Yd1×Int×Int×(π)×e?) (bq x.b 6 (aH ((decide ((x.b:Int)=6)),x.1,D.1,x.a,0,D.2)) (aH ((decide ((x.b:Int)=10)),x.1,D.1,x.a,0,D.2))) λA=>(aI A.1 U (jn (bq x.b 7 (aH ((decide ((x.b:Int)=7)),A.2.1,A.a,A.b,A.c,(A.e.1,A.f,A.e.2.1,A.j,A.e.2.2),A.s)) (aH ((decide ((x.b:Int)=11)),A.2.1,A.a,A.b,A.c,(A.e.1,A.f,A.e.2.1,A.j,A.e.2.2),A.s))) λz=>(aI z.1 U (bq x.b 8 (bq x.c 0 U (bq x.c 1 U (bq x.c 2 (bT (be (ah z.k+ah ([z.b])) 8) (ay (yd (z.k++([z.b]))) λN=>(bT (aA (ah (z.k++([z.b]))) (ah N)&&J) (ay (mP N) λy7=>(bT (aA (ah N) (ah y7)&&J) (aH (0,z.a,z.c,((z.e.1,z.e.2.1),(z.e.a,z.e.b),z.e.g),J,y7))))))) U))) (bq x.b 9 (bq x.c 0 U (bq x.c 1 U (bq x.c 2 (ay (jP (z.k,z.b)) λy8=>(bT (aA (ah z.k) (ah z.k)&&J) (aH (0,z.a,z.c,((z.e.1,z.e.2.1),(z.e.a,z.e.b),z.e.g),aa,y8.2)))) U))) (bq x.b 12 (aH (0,(z.b,z.a.2),z.c,((z.e.1,z.e.2.1),(z.e.a,z.e.b),z.e.g),J,z.k)) (bq x.b 13 (aH (0,((-1),z.a.2),z.c,((z.e.1,z.e.2.1),(z.e.a,z.e.b),z.e.g),J,z.k)) (bq x.b 14 (pu z.b z.a.2.2 U) (bq x.b 15 (pu z.b z.a.2.2 U) (bq x.b 16 U (bq x.b 17 U (bq x.b 18 U (bq x.b 19 U (bq x.b 20 (pu x.c z.a.2.2 U) (bq x.b 22 (pu x.c z.a.2.1 U) (aH (0,z.a,z.c,((z.e.1,z.e.2.1),(z.e.a,z.e.b),z.e.g),J,z.k)))))))))))))))))))) λL=>(Z (([L.b.1,L.b.2.1,(L.b.2.2,L.h)],L.2.1),L.1,J))))))
def s9 (x:Q!):M (ub×u?):=orE (ic x) (mg x)
def fX (x:eM×K!):M (gz×Bool):=
 (jn (α:=Bool×G?) (ay (ma (x.1,x.2.1)) λy2=>(aI (!y2) (aH (J,x.1,x.2.1,x.2.2,0)) (bS x.a 0 (aH (J,x.1,x.2.1,x.2.2,0)) (kq (bf x.1.c) x.a (aH (J,x.1,x.2.1,x.2.2,0)) (bS x.b 1 (aH (J,x.1,x.2.1,x.2.2,0)) (aH ((fQ 23 x.b),x.1,x.2.1,x.2.2,0))))))) λD=>(aI D.1 (Z (((([]:Y k!),0,([]:θ),([]:Y ey)),([]:η),([]:η),([]:η)),aa)) (jn (ay (jO (D.2.1,D.a.1,D.b.1,D.b.2.1,D.b.a)) λy4=>(aI (!y4) (aH (J,D.2)) (ay (kr (D.2.1,D.b)) λy5=>(aI (!y5) (aH (J,D.2)) (ay (fg (D.2.1,D.a,D.b)) λy6=>(aI (!y6) (aH (J,D.2)) (ay (gJ (D.a,D.b)) λy7=>(aH ((!y7),D.2))))))))) λx3=>(aI x3.1 (Z (((([]:Y k!),0,([]:θ),([]:Y ey)),([]:η),([]:η),([]:η)),aa)) (jn (α:=Int×G?) (bq x3.b.2.1 18 (aH (x3.b.b,x3.2)) (aH ((-1),x3.2))) λz=>(ay (s9 (z.2.1,z.a.1,z.b.1,z.b.2.1,z.b.a,z.1)) λy9=>(aI (!y9.2.2) (Z (((([]:Y k!),0,([]:θ),([]:Y ey)),([]:η),([]:η),([]:η)),aa)) (ay (Bg z.a.2.1) λN=>(ay (Bg z.a.a) λL=>(ay (uQ z.a.d) λy12=>(jn (bq z.b.2.1 4 (ck (fA z.b.a (ah N)) (aH (z.b,z.g,y9.1,(cN N z.b.a z.b.b),L,y12))) (bq z.b.2.1 22 (ck (fA z.b.a (ah L)) (aH (z.b,z.g,y9.1,N,(cN L z.b.a z.b.b),y12))) (aH (z.b,z.g,y9.1,N,L,y12)))) λA=>(ko aM A.h A.1.1 λz14=>(ck (fA A.1.1 (ah A.h)) (Z ((A.a,A.b,A.c,(cN A.h A.1.1 (cW z14))),J)))))))))))))))
def mT (it:B7) (x:n!):M ν:=
 (bS 400 (bf x.2) (Z (0,2)) (ay (d_ x.1) λy1=>(aI (!y1) (Z (0,1)) (ay (dB x.1) λy2=>(bT (dg 0 (bf x.1.c)&&dg (bf x.1.c) (bf x.1.c)&&be (aQ (bf x.1.c)) 24&&decide (((bf x.1.c):Int)=1)) (it (Int×(eM×Y gx)×gz×θ) _ (λA=>(bS A.1 (bf x.2) (bX jF x.2 A.1 λD=>(ay (fX (A.2.1.1,A.a,D)) λL=>(jn (α:=Bool×(eM×Y gx)×gz×gx×gz×θ) (bq D.1 0 (aI (!L.2) (aH (J,A.2.1,A.a,(0,D.2),L.1,A.d)) (ay (cC (A.d,0,D.2)) λy7=>(aH ((!y7),A.2.1,A.a,(0,D.2),L.1,A.d)))) U) λz=>(aI z.1 (aH (A.1,12)) (jn (α:=(eM×Y gx)×gz×gz×θ) (bq z.b.1 0 (bq z.b.2.1 3 (bT (be (ah z.h+ah ([J])) 1) (aH (z.2.1,z.a,z.c,(z.h++([J]))))) (bT (be (ah z.h+ah ([(decide ((z.b.2.1:Int)=23))])) 1) (aH (z.2.1,z.a,z.c,(z.h++([(decide ((z.b.2.1:Int)=23))])))))) U) λN=>(c5 ((cW A.1),N.1,N.2.2))))))) (aH (0,0)))) (0,x,y2,([]:θ))))))))
def qE (x:n!):M ν:=mT @iter x
def eL (x:n!):M ν:=mT @gT x
abbrev V!:=gz×(θ)×θ
def kG (it:B7) (x:n!):M ν:=
 (bS 400 (bf x.2) (Z (0,2)) (ay (d_ x.1) λy1=>(aI (!y1) (Z (0,1)) (ay (dB x.1) λy2=>(bT (dg 0 (bf x.1.c)&&dg (bf x.1.c) (bf x.1.c)&&be (aQ (bf x.1.c)) 24&&decide (((bf x.1.c):Int)=2)) (it (Int×(eM×Y gx)×V!) _ (λA=>(bS A.1 (bf x.2) (bX jF x.2 A.1 λD=>(ay (fX (A.2.1.1,A.a,D)) λL=>(jn (α:=Bool×(eM×Y gx)×gz×gx×V!) (bq D.1 0 (aI (!L.2) (aH (J,A.2.1,A.a,(0,D.2),L.1,A.d)) (ay (cC (A.b,0,D.2)) λy7=>(aH ((!y7),A.2.1,A.a,(0,D.2),L.1,A.d)))) (bq D.1 1 (aI (!L.2) (aH (J,A.2.1,A.a,(1,D.2),L.1,A.d)) (ay (cC (A.g,1,D.2)) λy8=>(aH ((!y8),A.2.1,A.a,(1,D.2),L.1,A.d)))) U)) λz=>(aI z.1 (aH (A.1,12)) (jn (α:=(eM×Y gx)×gz×V!) (bq z.b.1 0 (bq z.b.2.1 3 (bT (be (ah z.e+ah ([J])) 1) (aH (z.2.1,z.a,z.c,(z.e++([J])),z.k))) (bT (be (ah z.e+ah ([(decide ((z.b.2.1:Int)=23))])) 1) (aH (z.2.1,z.a,z.c,(z.e++([(decide ((z.b.2.1:Int)=23))])),z.k)))) (bq z.b.1 1 (bq z.b.2.1 3 (bT (be (ah z.k+ah ([J])) 1) (aH (z.2.1,z.a,z.c,z.e,(z.k++([J]))))) (bT (be (ah z.k+ah ([(decide ((z.b.2.1:Int)=23))])) 1) (aH (z.2.1,z.a,z.c,z.e,(z.k++([(decide ((z.b.2.1:Int)=23))])))))) U)) λN=>(c5 ((cW A.1),N.1,N.2.2))))))) (aH (0,0)))) (0,x,y2,([]:θ),([]:θ))))))))
def qD (x:n!):M ν:=kG @iter x
def dD (x:n!):M ν:=kG @gT x
abbrev z!:=(θ)×(θ)×θ
def kF (it:B7) (x:n!):M ν:=
 (bS 400 (bf x.2) (Z (0,2)) (ay (d_ x.1) λy1=>(aI (!y1) (Z (0,1)) (ay (dB x.1) λy2=>(bT (dg 0 (bf x.1.c)&&dg (bf x.1.c) (bf x.1.c)&&be (aQ (bf x.1.c)) 24&&decide (((bf x.1.c):Int)=3)) (it (Int×(eM×Y gx)×gz×z!) _ (λA=>(bS A.1 (bf x.2) (bX jF x.2 A.1 λD=>(ay (fX (A.2.1.1,A.a,D)) λL=>(jn (α:=Bool×(eM×Y gx)×gz×gx×gz×z!) (bq D.1 0 (aI (!L.2) (aH (J,A.2.1,A.a,(0,D.2),L.1,A.d)) (ay (cC (A.b,0,D.2)) λy7=>(aH ((!y7),A.2.1,A.a,(0,D.2),L.1,A.d)))) (bq D.1 1 (aI (!L.2) (aH (J,A.2.1,A.a,(1,D.2),L.1,A.d)) (ay (cC (A.c,1,D.2)) λy8=>(aH ((!y8),A.2.1,A.a,(1,D.2),L.1,A.d)))) (bq D.1 2 (aI (!L.2) (aH (J,A.2.1,A.a,(2,D.2),L.1,A.d)) (ay (cC (A.h,2,D.2)) λy9=>(aH ((!y9),A.2.1,A.a,(2,D.2),L.1,A.d)))) U))) λz=>(aI z.1 (aH (A.1,12)) (jn (α:=(eM×Y gx)×gz×gz×z!) (bq z.b.1 0 (bq z.b.2.1 3 (bT (be (ah z.e+ah ([J])) 1) (aH (z.2.1,z.a,z.c,(z.e++([J])),z.k))) (bT (be (ah z.e+ah ([(decide ((z.b.2.1:Int)=23))])) 1) (aH (z.2.1,z.a,z.c,(z.e++([(decide ((z.b.2.1:Int)=23))])),z.k)))) (bq z.b.1 1 (bq z.b.2.1 3 (bT (be (ah z.f+ah ([J])) 1) (aH (z.2.1,z.a,z.c,z.e,(z.f++([J])),z.p))) (bT (be (ah z.f+ah ([(decide ((z.b.2.1:Int)=23))])) 1) (aH (z.2.1,z.a,z.c,z.e,(z.f++([(decide ((z.b.2.1:Int)=23))])),z.p)))) (bq z.b.1 2 (bq z.b.2.1 3 (bT (be (ah z.p+ah ([J])) 1) (aH (z.2.1,z.a,z.c,z.e,z.f,(z.p++([J]))))) (bT (be (ah z.p+ah ([(decide ((z.b.2.1:Int)=23))])) 1) (aH (z.2.1,z.a,z.c,z.e,z.f,(z.p++([(decide ((z.b.2.1:Int)=23))])))))) U))) λN=>(c5 ((cW A.1),N.1,N.2.2))))))) (aH (0,0)))) (0,x,y2,([]:θ),([]:θ),([]:θ))))))))
def qC (x:n!):M ν:=kF @iter x
def dW (x:n!):M ν:=kF @gT x
abbrev V?:=gz×(θ)×z!
def kE (it:B7) (x:n!):M ν:=
 (bS 400 (bf x.2) (Z (0,2)) (ay (d_ x.1) λy1=>(aI (!y1) (Z (0,1)) (ay (dB x.1) λy2=>(bT (dg 0 (bf x.1.c)&&dg (bf x.1.c) (bf x.1.c)&&be (aQ (bf x.1.c)) 24&&decide (((bf x.1.c):Int)=4)) (it (Int×(eM×Y gx)×V?) _ (λA=>(bS A.1 (bf x.2) (bX jF x.2 A.1 λD=>(ay (fX (A.2.1.1,A.a,D)) λL=>(jn (α:=Bool×(eM×Y gx)×gz×gx×V?) (bq D.1 0 (aI (!L.2) (aH (J,A.2.1,A.a,(0,D.2),L.1,A.d)) (ay (cC (A.b,0,D.2)) λy7=>(aH ((!y7),A.2.1,A.a,(0,D.2),L.1,A.d)))) (bq D.1 1 (aI (!L.2) (aH (J,A.2.1,A.a,(1,D.2),L.1,A.d)) (ay (cC (A.c,1,D.2)) λy8=>(aH ((!y8),A.2.1,A.a,(1,D.2),L.1,A.d)))) (bq D.1 2 (aI (!L.2) (aH (J,A.2.1,A.a,(2,D.2),L.1,A.d)) (ay (cC (A.e,2,D.2)) λy9=>(aH ((!y9),A.2.1,A.a,(2,D.2),L.1,A.d)))) (bq D.1 3 (aI (!L.2) (aH (J,A.2.1,A.a,(3,D.2),L.1,A.d)) (ay (cC (A.k,3,D.2)) λy10=>(aH ((!y10),A.2.1,A.a,(3,D.2),L.1,A.d)))) U)))) λz=>(aI z.1 (aH (A.1,12)) (jn (α:=(eM×Y gx)×gz×V?) (bq z.b.1 0 (bq z.b.2.1 3 (bT (be (ah z.e+ah ([J])) 1) (aH (z.2.1,z.a,z.c,(z.e++([J])),z.k))) (bT (be (ah z.e+ah ([(decide ((z.b.2.1:Int)=23))])) 1) (aH (z.2.1,z.a,z.c,(z.e++([(decide ((z.b.2.1:Int)=23))])),z.k)))) (bq z.b.1 1 (bq z.b.2.1 3 (bT (be (ah z.f+ah ([J])) 1) (aH (z.2.1,z.a,z.c,z.e,(z.f++([J])),z.p))) (bT (be (ah z.f+ah ([(decide ((z.b.2.1:Int)=23))])) 1) (aH (z.2.1,z.a,z.c,z.e,(z.f++([(decide ((z.b.2.1:Int)=23))])),z.p)))) (bq z.b.1 2 (bq z.b.2.1 3 (bT (be (ah z.j+ah ([J])) 1) (aH (z.2.1,z.a,z.c,z.e,z.f,(z.j++([J])),z.s))) (bT (be (ah z.j+ah ([(decide ((z.b.2.1:Int)=23))])) 1) (aH (z.2.1,z.a,z.c,z.e,z.f,(z.j++([(decide ((z.b.2.1:Int)=23))])),z.s)))) (bq z.b.1 3 (bq z.b.2.1 3 (bT (be (ah z.s+ah ([J])) 1) (aH (z.2.1,z.a,z.c,z.e,z.f,z.j,(z.s++([J]))))) (bT (be (ah z.s+ah ([(decide ((z.b.2.1:Int)=23))])) 1) (aH (z.2.1,z.a,z.c,z.e,z.f,z.j,(z.s++([(decide ((z.b.2.1:Int)=23))])))))) U)))) λN=>(c5 ((cW A.1),N.1,N.2.2))))))) (aH (0,0)))) (0,x,y2,([]:θ),([]:θ),([]:θ),([]:θ))))))))
def qB (x:n!):M ν:=kE @iter x
def eK (x:n!):M ν:=kE @gT x
def lm (x:n!):M ν:=orE (eK x) (orE (dW x) (orE (dD x) (eL x)))
def Qr (a b:Int):fo (a,b)=Z (decide (0<=a/\a<b)):=by
 refine cI ?_;unfold fo kq aH;with_reducible repeat' first|apply OS.ok;constructor|refine IM.mk λ_=>?_
 .by_cases h:a<b<;>simp[*,fQ]
 .simp;omega
def Wv (l:η) (t:Int) (L:l! l<=1000):lM (l,t)=Z (l.contains t):=by
 refine cI ?_;unfold lM sT zP bq bS bX bf c5 aH cW;refine aw (P:=λy:Int=>0<=y↔t∈l) ?_ λy D=>aj ?_
 .refine g9 (l! l) (by omega) (λi x=>x=(i:Int)/\∀j,j<i->¬l.getD j 0=t) ?_ ?_ ⟨rfl,λj z=>by omega⟩
  .rintro i x hi ⟨rfl,A⟩;refine dy ?_;refine cY (aS (aJ (λh=>aj ?_) λh=>aj ?_))
   .refine ⟨λ_=>?_,λ_=>by omega⟩;have h:t=geti aM l (i:Int):=h;rw[h];exact b8 (T:=aM) (xs:=l) (by omega) (by omega)
   .refine ⟨gM,λj z=>?_⟩;have h:¬t=l.getD i 0:=h;by_cases e:j=i
    .subst e;exact λg=>h g.symm
    .exact A j (by omega)
  .rintro x ⟨rfl,A⟩;refine du (aj ?_);refine ⟨λg=>(by omega),λg=>?_⟩;obtain⟨j,z,e⟩:=List.getElem_of_mem g;exact (A j z (by rw[ax,aD z];exact e)).elim
 .by_cases h:t∈l
  .have:=D.2 h;simp[dg,h,this]
  .have:¬0<=y:=λg=>h (D.1 g)
   simp[dg,h,this]
def amz (w:WT) (s:SY) (D:l! w.2.2.1<=1000) (A:∀c∈w.2.2.1,0<=c.2/\c.2<l! w.2.1) (L:l! s.1=l! w.2.1) (e2:l! s.2.2.1=l! w.2.2.2.1) (z:l! s.2.2.2=l! w.2.2.2.2.1):lz (w,s)=Z J:=by
 refine cI ?_;unfold lz uU a8 bt bI dJ bS i_ bX bf c5 aH cW;refine aY (λx=>x=(aa,w)) ?_ ?_
 .refine cz (λh=>(h (by dsimp only[al];omega)).elim) λ_=>cz (λh=>(h (by dsimp only[al];omega)).elim) λ_=>aj ?_
  dsimp only[al];rw[z];simp
 rintro x rfl;refine gB (g9 (l! w.2.2.1) (by omega) (λi x=>x=((i:Int),w)) ?_ ?_ rfl)
 .rintro i x hi rfl;refine dy ?_;refine cY (aS (aV (Qr _ _) (cz (λh=>(h ?_).elim) λ_=>aj ?_)))
  .exact A _ (b8 (T:=nX) (xs:=w.2.2.1) (j:=(i:Int)) (by omega) (by omega))
  .dsimp only;rw[gM]
 .rintro x rfl;exact du (aj rfl)
def agw (w:WT) (k o:Int) (h:NM w k o):m8 (w,k,o)=Z J:=by
 refine cI ?_;obtain⟨k1,k2,L,lk,cn,th,D,no,z,rw_⟩:=h;unfold m8 a8 bt bI cA bq bX bf aH;cases kdI k
 case no A _=>omega
 all_goals simp only[bz,bB,uz,Qr]
 all_goals with_reducible repeat' first|apply OS.ok;constructor|refine IM.mk λ_=>?_
 all_goals try simp only[al,sw] at*
 all_goals first|omega|exact rw_ ⟨by decide,by decide⟩|(simp only[*,mw,decide_true];done)
variable {i:Nat}
def ane (w:WT) (s:SY) (hs:SB i s) (hn:i<=1000) (t k o:Int) (he:EN w s t k o) (hr:Z' w s t k o):pO (w,s,t,k,o)=Z J:=by
 refine cI ?_;obtain⟨nm,N,t1,cd,e1,e2,e3⟩:=id he;obtain⟨_,_,ce,lk,cn,th,fu,no,mu,rw_⟩:=nm;obtain⟨_,_,_,D,wr,ra,rl,rr,xb,xe,ab,ae,nt,sp,jo,se,ge⟩:=hr;have hm:16<=k/\k<=19->0<=(geti nX w.2.2.1 o).2/\(geti nX w.2.2.1 o).2<l! w.2.1:=λh=>cd _ (b8 (cn h).1 (cn h).2)
 have hH:6<=k/\k<=11->lM ((geti eA s.1 o).2,t)=Z ((geti eA s.1 o).2.contains t):=λh=>Wv _ _ (by
  have:=hs.rd _ (b8 (T:=eA) (lk h).1 (by have:=(lk h).2;omega));omega)
 have lk1:6<=k/\k<=11->0<=o/\o<(l! s.1:Int):=λh=>by have:=lk h;omega
 have L:t<(l! s.2.2.2:Int):=by omega
 have fu1:k=22\/k=23->0<=o/\o<(l! s.2.2.1:Int):=λh=>by have:=fu h;omega
 have th1:k=20\/k=21->0<=o/\o<(l! s.2.2.2:Int):=λh=>by have:=th h;omega
 have z:∀{p:Prop} [Decidable p],p->decide p=J:=λh=>aR h
 unfold pO a8 bt bI dJ dj bq i_ bX bf aH;refine aJ (λh=>?_) λn6=>?_
 .have h:k=6:=h;exact aN (lk1 (by omega)).1 (lk1 (by omega)).2 (aS (aj (z (D (.inl h)))))
 refine aJ (λh=>?_) λn10=>?_
 .have h:k=10:=h;refine h_ (aN (lk1 (by omega)).1 (lk1 (by omega)).2 (aS (aJ (λ_=>?_) λg=>(g (D (.inr (.inr h)))).elim)));refine aN (lk1 (by omega)).1 (lk1 (by omega)).2 (aS (aj (aj (z ?_))));have:=wr h;dsimp only[al]at this ⊢;omega
 refine aJ (λh=>?_) λn8=>?_
 .have h:k=8:=h;refine h_ (aN (lk1 (by omega)).1 (lk1 (by omega)).2 (aS (aJ (λ_=>?_) λg=>(g (D (.inr (.inl h)))).elim)));refine aN (lk1 (by omega)).1 (lk1 (by omega)).2 (aS (aV (hH (by omega)) (aj (aj ?_))));rw[ra h];rfl
 refine aY (λx=>x.2=(w,s)/\(x.1=J↔k=7\/k=11)) (aJ (λh=>aj ⟨rfl,λ_=>.inl h,λ_=>z h⟩) λh=>aj ⟨rfl,λA=>.inr (bD A),λA=>z (A.resolve_left h)⟩) ?_;rintro⟨b,x⟩ ⟨e,hb⟩;dsimp only at e hb;subst e;refine aO (λh=>?_) λ_=>?_
 .have h:=hb.1 h;exact aN (lk1 (by omega)).1 (lk1 (by omega)).2 (aS (aj (z (rl h))))
 refine aJ (λh=>?_) λn9=>?_
 .have h:k=9:=h;refine aN (lk1 (by omega)).1 (lk1 (by omega)).2 (aS (aV (hH (by omega)) (aj (rr h))))
 refine aJ (λh=>aj (z (xb h))) λ_=>aJ (λh=>aj (z (xe h))) λ_=>?_
 refine aJ (λh=>aN N L (aS (aj (by have:=ab h;dsimp only at this ⊢;rw[this];rfl)))) λ_=>aJ (λh=>aN N L (aS (aj (ae h)))) λ_=>?_
 refine aY (λx=>x.2=(w,s)/\(x.1=J->k=16\/k=18\/k=19)) (aJ (λh=>aj ⟨rfl,λ_=>.inl h⟩) λ_=>aJ (λh=>aj ⟨rfl,λ_=>.inr (.inl h)⟩) λ_=>aj ⟨rfl,λh=>.inr (.inr (bD h))⟩) ?_;rintro⟨c,x⟩ ⟨e,hc⟩;dsimp only at e hc;subst e;refine aO (λh=>?_) λ_=>?_
 .have h:=hc h;have hq:=hm (by omega);exact aN (cn (by omega)).1 (cn (by omega)).2 (aS (aN hq.1 (by rw[e1];exact hq.2) (aS (aj (z (nt h))))))
 refine aJ (λh=>?_) λ_=>?_
 .have h:k=20:=h;exact h_ (cz (λ_=>aN (th1 (.inl h)).1 (th1 (.inl h)).2 (aS (aj (aj (z (sp h).2))))) λg=>((sp h).1 g).elim)
 refine aJ (λh=>?_) λ_=>?_
 .have h:k=21:=h;exact h_ (cz (λ_=>aN (th1 (.inr h)).1 (th1 (.inr h)).2 (aS (aj (aj (z (jo h).2))))) λg=>((jo h).1 g).elim)
 refine aJ (λh=>aN (fu1 (.inl h)).1 (fu1 (.inl h)).2 (aS (aj (by have:=se h;dsimp only at this ⊢;rw[this];rfl)))) λ_=>aJ (λh=>aN (fu1 (.inr h)).1 (fu1 (.inr h)).2 (aS (aj (ge h)))) λ_=>aj rfl
def Gu (w:WT) (s:SY) (hs:SB i s) (hn:i<=1000) (hw:l! w.2.2.1<=1000) (t k o:Int) (he:EN w s t k o) (z:Z' w s t k o):jO (w,s,t,k,o)=Z J:=by
 refine cI ?_;obtain⟨nm,D,t1,cd,N,e2,e3⟩:=id he;have hrd:=ane w s hs hn t k o he z;have t2:t<(l! s.2.2.2:Int):=by omega
 unfold jO a8 bt bI b_ dJ dj bq bX bf aH;refine aY (λx=>x=(aa,w,s)) ?_ ?_
 .refine aV (amz w s hw cd N e2 e3) (fZ rfl (aV (Qr _ _) ?_));refine cz (λh=>(h ⟨D,t1⟩).elim) λ_=>aV (agw w k o nm) (aj rfl)
 rintro x rfl;refine gB (aN D t2 (aS ?_));refine aJ (λh=>aj (aR (z.b h))) λn1=>?_
 refine aJ (λh=>?_) λA=>?_
 .have h:k=17:=h;obtain⟨a1,a2,a3⟩:=z.wk h;obtain⟨c0,c1⟩:=nm.cd (by omega);have L:=cd _ (b8 (T:=nX) (xs:=w.2.2.1) (j:=o) c0 c1);refine h_ (aJ (λ_=>aJ (λ_=>?_) λg=>(g a2).elim) λg=>(g a1).elim);exact aN c0 c1 (aS (aN L.1 (by rw[N];exact L.2) (aS (aj (aj (aR a3))))))
 refine h_ (aJ (λ_=>aV hrd (aj (aj rfl))) λg=>(g (z.r n1 A)).elim)
def aio (w:WT) (e:ET) (h1:e.2.1=1\/e.2.1=2->e.2.2.2.2.1= -1) (z:¬(e.2.1=1\/e.2.1=2)->0<=e.2.2.2.2.1/\e.2.2.2.2.1<l! w.2.2.2.2.2/\(geti qO w.2.2.2.2.2 e.2.2.2.2.1).1=e.1):kr (w,e)=Z J:=by
 refine cI ?_;unfold kr a8 dO dj bq bS kq bX bf aH;refine aY (λx=>x.2=(w,e)/\(x.1=J↔e.2.1=1\/e.2.1=2)) (aJ (λh=>aj ⟨rfl,λ_=>.inl h,λ_=>rfl⟩) λh=>aj ⟨rfl,λz=>.inr (bD z),λz=>aR (z.resolve_left h)⟩) ?_;rintro⟨b,x⟩ ⟨D,A⟩;dsimp only at D A;subst D;refine aO (λh=>aj (aR (h1 (A.1 h)))) λh=>?_
 obtain⟨a1,N,L⟩:=z λg=>by rw[A.2 g]at h;cases h
 exact h_ (fF (λ_=>dy (aN a1 N (aS (aj (aj (aR L)))))) λg=>(by dsimp only at g;omega))
variable {c:η}
def agu (h:JZ c) (i:Nat) (hi:i<l! c):∀z∈c.drop (i+1),c.getD i 0<z:=by
 induction c generalizing i with
 |nil=>cases hi
 |cons a c A=>
  cases i with
  |zero=>exact λz D=>h.1 z (by simpa using D)
  |succ i=>exact A h.2 i (by simpa using hi)
def U3 (w:WT) (s:SN) (e:ET) (ce:e.2.1=3\/e.2.1=4->0<=e.2.2.1/\e.2.2.1<l! w.1) (de:0<l! e.2.2.2.2.2.1->e.2.1=5\/(e.2.1=3\/e.2.1=4)/\¬(geti mA w.1 e.2.2.1).2.2.1=0) (fr:0<l! e.2.2.2.2.2.2->e.2.1=4\/e.2.1=22) (t0:0<=e.1) (t1:e.1<l! s.2.2.2) (nd:AN (geti aM s.2.2.2 e.1) e.2.2.2.2.2.1) (nf:AN (geti aM s.2.2.2 e.1) e.2.2.2.2.2.2) (ld:l! e.2.2.2.2.2.1<=1000000) (lf:l! e.2.2.2.2.2.2<=1000000):fg (w,s,e)=Z J:=by
 refine cI ?_;unfold fg j8 a8 bt bI cA b_ dJ fD bq bS kq bT bX bf c5 aH cW;refine aY (λx=>x.2=(s,e)/\((e.2.1=3\/e.2.1=4)/\¬(geti mA w.1 e.2.2.1).2.2.1=0->x.1=J)) ?_ ?_
 .refine aJ (λh=>?_) λn3=>aJ (λh=>?_) λn4=>?_
  .exact aN (ce (.inl h)).1 (ce (.inl h)).2 (aS (aj ⟨rfl,λg=>by simpa using g.2⟩))
  .exact aN (ce (.inr h)).1 (ce (.inr h)).2 (aS (aj ⟨rfl,λg=>by simpa using g.2⟩))
  .exact aj ⟨rfl,λg=>(g.1.elim n3 n4).elim⟩
 rintro⟨b,x⟩ ⟨e1,hb⟩;dsimp only at e1 hb;subst e1;refine aY (λx=>x.1=s/\x.2.1=e/\(0<l! e.2.2.2.2.2.1->x.2.2.1=J)/\(0<l! e.2.2.2.2.2.2->x.2.2.2=J)) ?_ ?_
 .refine aJ (λh5=>aJ (λD=>aj ⟨rfl,rfl,λ_=>rfl,λ_=>rfl⟩) λD=>aj ⟨rfl,rfl,λ_=>rfl,λg=>?_⟩) λh5=>aJ (λD=>aj ⟨rfl,rfl,λg=>?_,λ_=>rfl⟩) λD=>aj ⟨rfl,rfl,λg=>?_,λg=>?_⟩
  .exact aR ((fr g).resolve_left D)
  .exact hb ((de g).resolve_left h5)
  .exact hb ((de g).resolve_left h5)
  .exact aR ((fr g).resolve_left D)
 rintro⟨s',e',a,b'⟩ ⟨e1,e2,h1,h2⟩;dsimp only at e1 e2 h1 h2;subst e1 e2;have key:∀(r:η),l! r<=1000000->AN (geti aM s'.2.2.2 e'.1) r->∀j:Nat,j<l! r->∀z∈r.drop (j+1),geti aM r (j:Int)<z:=λr _ h j A z hz=>agu h.a j A z hz
 refine g9 2 (by omega) (λi x=>x=((i:Int),s',e',a,b')) ?_ ?_ rfl
 .rintro i x hi rfl;refine dy ?_;refine db (a? (Ch (by dsimp only;omega) (aS ?_)));have hr:∃r:η,geti (.sl (.int .i64)) [e'.2.2.2.2.2.1,e'.2.2.2.2.2.2] (i:Int)=r/\AN (geti aM s'.2.2.2 e'.1) r/\l! r<=1000000/\(0<l! r->geti (.bool) [a,b'] (i:Int)=J):=by
   match i,hi with
   |0,_=>exact⟨_,rfl,nd,ld,h1⟩
   |1,_=>exact⟨_,rfl,nf,lf,h2⟩
  obtain⟨r,er,hA,hl,hb'⟩:=hr;have er':geti (.sl aM) [e'.2.2.2.2.2.1,e'.2.2.2.2.2.2] (i:Int)=r:=er;dsimp only at er' ⊢;rw[er'];refine aY (λx=>x=(aa,s',e',a,b')) ?_ ?_
  .refine bW (λg=>?_) λ_=>aj rfl
   have g':0<l! r:=by dsimp only[al]at g;omega
   refine db (a? (Ch (by omega) (cY (aS (aj ?_)))));rw[hb' g'];rfl
  rintro x rfl;refine gB ?_;refine g9 (l! r) (by omega) (λj x=>x.1.2=(j:Int)/\x.2=(s',e',a,b')/\∀z∈r.drop j,x.1.1<z) ?_ ?_ ⟨rfl,rfl,λz hz=>?_⟩
  .rintro j ⟨⟨la,ix⟩,x⟩ A ⟨N,L,g3⟩;dsimp only at N L g3;subst N L;have m:geti aM r (j:Int)∈r:=b8 (T:=aM) (xs:=r) (by omega) (by omega);have m2:geti aM r (j:Int)∈r.drop j:=by
    have:geti aM r (j:Int)=r[j]:=by
     show r.getD j 0=_;rw[ax,aD A];rfl
    rw[this,List.drop_eq_getElem_cons A];exact cR
   refine dy ?_;refine cY (aS (aY (λx=>x=(aa,s',e',a,b')) ?_ ?_))
   .refine fF (λg=>?_) λ_=>aN t0 t1 (aS (aj ?_))
    .have q1:=g3 _ m2;exact co q1 (by dsimp only at g;exact λq=>co (Int.lt_of_lt_of_le q g) (Int.lt_irrefl _))
    .have:=(hA.m _ m).2;rw[m_.2 (show geti aM r (j:Int)<geti aM s'.2.2.2 e'.1 from this)]
   rintro x rfl;exact gB (aj ⟨gM,rfl,key r hl hA j A⟩)
  .rintro⟨⟨la,ix⟩,x⟩ ⟨N,L,_⟩;dsimp only at N L;subst N L;exact du (aj (dT (·,s',e',a,b') gM))
  .have:=(hA.m z (by simpa using hz)).1;dsimp only;omega
 .rintro x rfl;exact du (aj rfl)
def are (w:WT) (s:SN) (z:l! w.2.2.1<=1000) (t k o:Int) (he:EN w s.1 t k o) (hf:F16 w s):ma (w,s)=Z J:=by
 obtain⟨_,_,_,L,D,e2,A⟩:=he;obtain⟨f1,f2,N⟩:=hf;refine cI ?_;unfold ma a8 bt bI dJ bq bf aH;refine h_ (aV (amz w s.1 z L D e2 A) (aet (aJ (λ_=>aJ (λ_=>aj (aj (aR ?_))) λg=>(g ?_).elim) λg=>(g ?_).elim)));all_goals dsimp only[al];omega
def J5 (th:Y g?) (c:Int) (i:Nat):wl th c (i+1)=if NK c (geti iB th (i:Int)) then wl th c i++[(i:Int)] else wl th c i:=rfl
def ai4 (w:WT) (s:SN) (hs:SB i s.1) (e:ET) (hf:F16 w s) (he:EN w s.1 e.1 e.2.1 e.2.2.1) (va:VA w s.1 s.2.1 s.2.2.1 e.1 e.2.1 e.2.2.1 e.2.2.2.1):gJ (s,e)=Z J:=by
 refine cI ?_;obtain⟨t,k,o,v,si,de,fr⟩:=e;obtain⟨z,s2,s3,s4⟩:=s;obtain⟨nm,t0,t1,cd,e1,e2,e3⟩:=he;obtain⟨_,_,ce,lk,cn,th,fu,_,_,_⟩:=nm;obtain⟨f1,f2,f3⟩:=hf;have hth:=hs.th;obtain⟨v3,v23,v5,vel⟩:=va;dsimp only at*
 unfold gJ mS a8 bt bI cA b_ bq bS bX bf c5 aH cW;refine aJ (λh=>?_) λn3=>?_
 .have h:k=3:=h;obtain⟨c0,c1⟩:=ce (.inl h);exact aN c0 (by rw[f1];exact c1) (aS (aj (aR (v3 h))))
 refine aJ (λh=>?_) λn23=>?_
 .have h:k=23:=h;obtain⟨c0,c1⟩:=fu (.inr h);exact aN c0 (by rw[f2];exact c1) (aS (aj (aR (v23 h))))
 refine aJ (λh=>?_) λn5=>?_
 .have h:k=5:=h;exact h_ (aJ (λ_=>aj (aj rfl)) λg=>aj (aj (aR ((v5 h).resolve_left g))))
 refine aY (λx=>x.2=((z,s2,s3,s4),t,k,o,v,si,de,fr)/\(x.1=aa->¬k=4/\¬k=22)) (aJ (λh=>aj ⟨rfl,λh2=>(by rw[aR h]at h2;cases h2)⟩) λh=>aj ⟨rfl,λh2=>⟨h,WD h2⟩⟩) ?_;rintro⟨b,x⟩ ⟨e,hb⟩;dsimp only at e hb;subst e;refine aO (λh=>aj rfl) λh=>?_
 obtain⟨n4,n22⟩:=hb h;have vel:=vel n3 n23 n5 n4 n22;have hWl:=xg z.2.2.2 o (l! z.2.2.2);refine aJ (λh=>?_) λn18=>?_
 .have h:k=18:=h;subst h;rw[HN]at vel;refine g9 (l! z.2.2.2) (by omega) (λn x=>x.1.2.2=(n:Int)/\x.2=(t,18,o,v,si,de,fr)/\x.1.1=(l! (wl z.2.2.2 o n):Int)/\(x.1.2.1=J↔v∈wl z.2.2.2 o n)) ?_ ?_ ⟨rfl,rfl,rfl,by simp[wl]⟩
  .rintro n ⟨⟨c,hit,ix⟩,x⟩ hi ⟨D,A,L,N⟩;dsimp only at D A L N;subst D A L;have hl:=xg z.2.2.2 o n;refine dy ?_;refine aY (λx=>x.2=(t,18,o,v,si,de,fr)/\x.1.1=(l! (wl z.2.2.2 o (n+1)):Int)/\(x.1.2=J↔v∈wl z.2.2.2 o (n+1))) ?_ ?_
   .refine cY (aS (aY (λx=>x=(NK o (geti iB z.2.2.2 (n:Int)),t,18,o,v,si,de,fr)) ?_ ?_))
    .unfold NK;refine aJ (λh=>aj ?_) λh=>aj ?_
     .dsimp only at h ⊢;rw[h];rfl
     .dsimp only at h ⊢;rw[cD h];rfl
    rintro x rfl;rw[J5];dsimp only;cases hw:NK o (geti iB z.2.2.2 (n:Int)) with
    |true=>
     refine aet (aO (λh=>aj ⟨rfl,?_,?_⟩) λh=>aj ⟨rfl,?_,?_⟩)
     .dsimp only;rw[gM];simp
     .simp[N.1 h]
     .dsimp only;rw[gM];simp
     .have:¬v∈wl z.2.2.2 o n:=λg=>by rw[N.2 g]at h;cases h
      simp[this]
    |false=>exact gB (aj ⟨rfl,rfl,N⟩)
   rintro⟨⟨c,hit'⟩,x⟩ ⟨D,A,L⟩;dsimp only at D A L;subst D A;exact aj ⟨gM,rfl,rfl,L⟩
  .rintro⟨⟨c,hit,ix⟩,x⟩ ⟨D,A,L,N⟩;dsimp only at D A L N;subst D A L;refine du (aw (P:=λy=>y=J) (h_ (aO (λ_=>aj (aj rfl)) λh=>?_)) λy hy=>aj hy);have hn:¬v∈wl z.2.2.2 o (l! z.2.2.2):=λg=>by rw[N.2 g]at h;cases h
   by_cases h0:l! (wl z.2.2.2 o (l! z.2.2.2))=0
   .rw[aC h0]at vel;refine aJ (λ_=>aj (aj (aR vel))) λg=>(g (by dsimp only;omega)).elim
   .rw[av h0]at vel;have vel:v=Dr (wl z.2.2.2 o (l! z.2.2.2)) v:=vel;exact (hn (vel▸Kq v h0)).elim
 refine aJ (λh=>?_) λn19=>?_
 .have h:k=19:=h;subst h;rw[ao4]at vel;refine g9 (l! z.2.2.2) (by omega) (λn x=>x.1.2=(n:Int)/\x.2=(t,19,o,v,si,de,fr)/\x.1.1=(l! (wl z.2.2.2 o n):Int)) ?_ ?_ ⟨rfl,rfl,rfl⟩
  .rintro n ⟨⟨c,ix⟩,x⟩ hi ⟨D,A,L⟩;dsimp only at D A L;subst D A L;have hl:=xg z.2.2.2 o n;refine dy ?_;refine aY (λx=>x.2=(t,19,o,v,si,de,fr)/\x.1=(l! (wl z.2.2.2 o (n+1)):Int)) ?_ ?_
   .refine cY (aS (aY (λx=>x=(NK o (geti iB z.2.2.2 (n:Int)),t,19,o,v,si,de,fr)) ?_ ?_))
    .unfold NK;refine aJ (λh=>aj ?_) λh=>aj ?_
     .dsimp only at h ⊢;rw[h];rfl
     .dsimp only at h ⊢;rw[cD h];rfl
    rintro x rfl;rw[J5];dsimp only;cases hw:NK o (geti iB z.2.2.2 (n:Int)) with
    |true=>
     refine aet (aj ⟨rfl,?_⟩);dsimp only;rw[gM];simp
    |false=>exact gB (aj ⟨rfl,rfl⟩)
   rintro⟨c,x⟩ ⟨D,A⟩;dsimp only at D A;subst D A;exact aj ⟨gM,rfl,rfl⟩
  .rintro⟨⟨c,ix⟩,x⟩ ⟨D,A,L⟩;dsimp only at D A L;subst D A L;exact du (aj (aR vel))
 exact aj (aR (by rw[amh _ _ _ _ _ _ n18 n19]at vel;exact vel))
def adn (x:g?) (c:Int):nD (x,c)=Z (NK c x):=by
 refine cI ?_;unfold nD NK bq aH;refine h_ (aJ (λh=>aj (aj ?_)) λh=>aj (aj ?_))
 .have h:x.1=3:=h;rw[h];rfl
 .have h:¬x.1=3:=h;rw[cD h];rfl
def agl (s:SY) (A:SB i s):lL s=Z (s.2.1,s.1,s.2.2.1,s.2.2.2):=by
 refine cI ?_;obtain⟨z,N,L,D⟩:=s;have hn:=A.n1;have hlk:=A.lk;have hdn:=A.dn;have hth:=A.th;have hrd:=A.rd;dsimp only at hlk hdn hth hrd;unfold lL tu a8 b_ ck bS bT bX bf c5 cW;dsimp only[al];refine db (db (a? (a? (a! ?_))));refine g9 (l! z) (by omega) (λn x=>∃c d,x=((n:Int),(z,N,L,D),c,d)/\l! d=l! z/\∀j,j<n->d.getD j (0,[])=z.getD j (0,[])) ?_ ?_ ⟨_,_,rfl,by simp,λj hj=>by omega⟩
 .rintro n x hi ⟨c,d,rfl,hd,he⟩;have hr:=hrd _ (b8 (T:=eA) (xs:=z) (j:=(n:Int)) (by omega) (by omega));refine dy ?_;refine cY (aS (aV (x:=(geti eA z (n:Int)).2) (cI ?_) ?_))
  .exact a! (aj rfl)
  refine cY (cY (aj ⟨c,d.set n (geti eA z (n:Int)),?_,by simp[hd],λj hj=>?_⟩))
  .dsimp only;rw[gM];rfl
  .by_cases e:n=j
   .subst e;rw[ax,List.getElem?_set_self (by omega)];rfl
   .rw[ax,List.getElem?_set_ne e,<-ax];exact he j (by omega)
 .rintro x ⟨c,d,rfl,hd,he⟩;have:d=z:=by
   refine sj hd λj g1 g2=>?_
   have:=he j g2;rw[ax,ax,aD g1,aD g2]at this;exact this
  subst this;refine du (aw (P:=λy=>y=(N,d,L,D)) ?_ λy hy=>aj hy);refine aV (x:=L) (cI (a! (aj rfl))) (aV (x:=D) (cI (a! (aj rfl))) (aj rfl))
def ZU (l:η) (i u:Int):Dr (l++[i]) u=if (l! l)=0 then i else if i=u then i else Dr l u:=by
 unfold Dr;cases l with
 |nil=>
  by_cases h:u=i
  .subst h;simp
  .simp[h];rfl
 |cons a r=>
  have z:¬l! (a::r++[i])=0:=by simp
  have e2:¬l! (a::r)=0:=by simp
  simp only[av z,av e2];by_cases h:i=u
  .subst h;simp
  .have h':¬u=i:=λg=>h g.symm
   rw[av h];have:(a::r++[i]).contains u=(a::r).contains u:=by simp[h']
   rw[this];rfl
variable {r:Y (Int×Int×Bool)} {a:Int}
def Kp {u:Int} (h:¬l! (wl r a i)=0):0<=Dr (wl r a i) u/\Dr (wl r a i) u<i:=by
 have:=xf.1 (Kq u h);exact⟨this.1,this.2.1⟩
def M_ {u:Int} (h:l! c=0):Dr c u= -1:=by unfold Dr;rw[aC h]
def aiw (s:SY) (o u:Int) (hs:l! s.2.2.2<=1000):kB ((s.2.1,o,u),s.1,s.2.2.1,s.2.2.2)=Z (Dr (wl s.2.2.2 o (l! s.2.2.2)) u,s.1,s.2.2.1,if (l! (wl s.2.2.2 o (l! s.2.2.2)))=0 then s.2.2.2 else Eu s.2.2.2 (Dr (wl s.2.2.2 o (l! s.2.2.2)) u) 4):=by
 refine cI ?_;obtain⟨D,L,A,z⟩:=s;dsimp only at hs ⊢;unfold kB rU a8 bt b_ ck bS kq ko bf c5 aH cW;dsimp only[al];refine g9 (l! z) (by omega) (λi x=>x=((Dr (wl z o i) u,(i:Int)),D,A,z,L)) ?_ ?_ rfl
 .rintro i x hi rfl;refine dy ?_;refine aY (λx=>x=(Dr (wl z o (i+1)) u,D,A,z,L)) ?_ ?_
  .refine cY (cY (aS ?_));refine aY (λx=>x=(decide (NK o (geti iB z (i:Int))=J/\(l! (wl z o i)=0\/(i:Int)=u)),D,A,z,L)) ?_ ?_
   .refine aV (adn _ _) (aO (λh=>?_) λh=>aj ?_)
    .have h:NK o (geti iB z (i:Int))=J:=h;refine bW (λg=>aj ?_) λg=>aj ?_
     .have:l! (wl z o i)=0:=xd λq=>by have:=(Kp (u:=u) q).1;dsimp only at g;omega
      simp[h,this]
     .have:¬l! (wl z o i)=0:=λq=>by have:=M_ (u:=u) q;dsimp only at g;omega
      simp[h,this]
    .have h:NK o (geti iB z (i:Int))=aa:=h;simp[h]
   rintro x rfl;rw[J5];refine aJ (λh=>aj ?_) λh=>aj ?_
   .rw[aC h.1,ZU];rcases h.2 with g|g
    .rw[aC g]
    .rw[aC g];simp
   .by_cases g:NK o (geti iB z (i:Int))=J
    .rw[aC g,ZU,av λq=>h ⟨g,.inl q⟩,av λq=>h ⟨g,.inr q⟩]
    .rw[av g]
  rintro x rfl;exact aj (by dsimp only;rw[gM])
 .rintro x rfl;refine du (aw (P:=λy=>y=(Dr (wl z o (l! z)) u,D,A,if (l! (wl z o (l! z)))=0 then z else Eu z (Dr (wl z o (l! z)) u) 4)) ?_ λy N=>aj N);refine aY (λx=>x=(D,A,if (l! (wl z o (l! z)))=0 then z else Eu z (Dr (wl z o (l! z)) u) 4)) ?_ ?_
  .refine fF (λg=>?_) λg=>aj ?_
   .have h0:¬l! (wl z o (l! z))=0:=λq=>by have:=M_ (u:=u) q;dsimp only at g;omega
    have hp:=Kp (u:=u) h0;refine aN hp.1 hp.2 (aN hp.1 hp.2 (aj ?_));rw[av h0];rfl
   .have:l! (wl z o (l! z))=0:=xd λq=>by have:=(Kp (u:=u) q).1;dsimp only at g;omega
    rw[aC this]
  rintro x rfl;exact aj rfl
def aj3 (th:Y g?) (l:η) (i:Int):Jm th (l++[i])=Eu (Jm th l) i 4:=by unfold Jm;rw[eO];rfl
def aj2 (l:η):∀(th:Y g?) (j:Int),0<=j->(∀z∈l,0<=z/\z<l! th/\¬z=j)->geti iB (Jm th l) j=geti iB th j:=by
 induction l with
 |nil=>intro th j _ _;rfl
 |cons x r L=>
  intro th j D h;have A:=h x (by simp);refine (L (Eu th x 4) j D λz N=>?_).trans ?_
  .have:=h z (by simp[N]);unfold Eu;rw[ca];exact this
  .unfold Eu;rw[vk (T:=iB) th x j _ A.1 A.2.1 D,av λq=>A.2.2 q.symm]
def Xc (s:SY) (o:Int) (hs:l! s.2.2.2<=1000):ia ((s.2.1,o),s.1,s.2.2.1,s.2.2.2)=Z ((l! (wl s.2.2.2 o (l! s.2.2.2)):Int),s.1,s.2.2.1,Jm s.2.2.2 (wl s.2.2.2 o (l! s.2.2.2))):=by
 refine cI ?_;obtain⟨N,L,D,A⟩:=s;dsimp only at hs ⊢;unfold ia nN a8 bt b_ dJ ck bS ko bf c5 aH cW;dsimp only[al];refine g9 (l! A) (by omega) (λi x=>x=(((l! (wl A o i):Int),(i:Int)),N,D,Jm A (wl A o i),L)) ?_ ?_ rfl
 .rintro i x hi rfl;have hl:=xg A o i;have hg:geti iB (Jm A (wl A o i)) (i:Int)=geti iB A (i:Int):=aj2 _ _ _ (by omega) λz hz=>by have:=xf.1 hz;exact⟨this.1,by omega,by omega⟩
  have hq:=Ke (wl A o i) A;refine dy ?_;refine aY (λx=>x=((l! (wl A o (i+1)):Int),N,D,Jm A (wl A o (i+1)),L)) ?_ ?_
  .refine cY (cY (aS (aV (adn _ _) ?_)));rw[J5];refine aO (λh=>?_) λh=>aj ?_
   .have h:NK o (geti iB A (i:Int))=J:=hg▸h;refine cY (cY (aj ?_));rw[aC h,aj3];dsimp only;rw[gM];simp only[bc,bK,kW];rfl
   .have h:NK o (geti iB A (i:Int))=aa:=hg▸h;rw[h];rfl
  rintro x rfl;exact aj (by dsimp only;rw[gM])
 .rintro x rfl;exact du (aj rfl)
def alm (w:WT) (s:SY) (z:SB i s) (hn:i<=1000) (N:l! w.2.2.1<=1000) (t k o u:Int) (he:EN w s t k o) (hr:Z' w s t k o) (D:¬k=8) (A:¬k=9):ic (w,s,t,k,o,u)=Z ((xy w s t k o u).1,(xy w s t k o u).2,J):=by
 refine cI ?_;unfold ic a8 bt bI cA dO b_ dJ dj fD pV ck bq bT bX ko aH;refine aV (Gu w s z hn N t k o he hr) (fZ rfl (aV (agl s z) ?_));suffices hmain:Ok _ _ from aY (λx=>((x.2.2.2.1,x.2.1,x.2.2.2.2),x.1)=xy w s t k o u) hmain λx L=>aj (by rw[<- L])
 obtain⟨nm,t0,t1,cd,e1,e2,e3⟩:=id he;obtain⟨_,_,ce,lk,cn,th,fu⟩:=nm;have hm:16<=k/\k<=19->0<=(geti nX w.2.2.1 o).2/\(geti nX w.2.2.1 o).2<l! w.2.1:=λh=>cd _ (b8 (cn h).1 (cn h).2)
 cases kdI k
 case no hk _=>omega
 all_goals first|exact (D rfl).elim|exact (A rfl).elim|skip
 all_goals simp only[bz,bB,uz]
 all_goals with_reducible repeat' first|apply OS.ok;constructor|refine IM.mk λ_=>?_
 all_goals try simp only[al,sw] at*
 all_goals try rw[ca]
 all_goals first|omega|exact (hm ⟨by decide,by decide⟩).1|exact e1▸(hm ⟨by decide,by decide⟩).2|exact rfl|skip
 .refine aV (aiw s o u z.th) (bh ?_ (aj ?_))
  .have:ah (if (l! (wl s.2.2.2 o (l! s.2.2.2)))=0 then s.2.2.2 else Eu s.2.2.2 (Dr (wl s.2.2.2 o (l! s.2.2.2)) u) 4)=l! s.2.2.2:=by
    split
    .rfl
    .exact ca ..
   dsimp only;rw[this];simp
  .rw[HN];by_cases h:l! (wl s.2.2.2 o (l! s.2.2.2))=0
   .rw[aC h,aC h,M_ h]
   .rw[av h,av h]
 .refine aV (Xc s o z.th) (bh ?_ (aj rfl));dsimp only;rw[Ke];simp
def C4:Nat->Y η
 |0=>[[]]
 |m+1=>C4 m++(C4 m).map ((3-(m:Int))::·)
def O6:∀m,[]∈C4 m
 |0=>by simp[C4]
 |m+1=>by simp[C4,O6 m]
def GA:∀(m:Nat) (l:η),JZ l->(∀z∈l,4-(m:Int)<=z/\z<4)->l∈C4 m
 |m,[],_,_=>O6 m
 |0,a::r,_,h=>by have:=h a (by simp);omega
 |m+1,a::r,hA,h=>by
  have D:=h a (by simp);rw[C4,bG];by_cases e:a=3-(m:Int)
  .refine .inr (ch.2 ⟨r,GA m r hA.2 λz A=>?_,by rw[e]⟩);have:=h z (by simp[A]);have:=hA.1 z A;omega
  .refine .inl (GA m (a::r) hA λz A=>?_);have:=h z A;rcases aZ.1 A with rfl|A
   .omega
   .have:=hA.1 z A;omega
def alt (h:JZ c) (D:∀z∈c,0<=z/\z<4):c∈C4 4:=GA 4 c h λz A=>by have:=D z A;omega
def in4:η:=[0,1,2,3]
def Zs (h0:0<=a) (h1:a<4):a∈in4:=by
 have:a=0\/a=1\/a=2\/a=3:=by omega
 rcases this with rfl|rfl|rfl|rfl<;>simp[in4]
def aqm (l:η) (t:Int):Bool:=l.contains t||((yd (l++[t])==Z (yW l [t]))&&(mP (yW l [t])==Z (yW l [t]))&&aA (l! (yW l [t])) (l! (l++[t])))
def ari (l:η) (t:Int):Bool:= !l.contains t||(jP (l,t)==Z (t,wo l t))
def ai8:((C4 4).all λl=>in4.all λt=>aqm l t)=J:=by kernel_rfl
def ajy:((C4 4).all λl=>in4.all λt=>ari l t)=J:=by kernel_rfl
def srt8 (h:JZ c) (L:∀z∈c,0<=z/\z<4) (h0:0<=a) (h1:a<4) (A:¬a∈c):yd (c++[a])=Z (yW c [a])/\mP (yW c [a])=Z (yW c [a])/\l! (yW c [a])=l! (c++[a]):=by
 have:=gH.1 (gH.1 ai8 c (alt h L)) a (Zs h0 h1);unfold aqm at this;have D:c.contains a=aa:=by simp[A]
 rw[D,EC,ak,ak]at this;exact⟨eq_of_beq this.1.1,eq_of_beq this.1.2,au this.2⟩
def del8 (h:JZ c) (D:∀z∈c,0<=z/\z<4) (h0:0<=a) (h1:a<4) (A:c.contains a=J):jP (c,a)=Z (a,wo c a):=by
 have:=gH.1 (gH.1 ajy c (alt h D)) a (Zs h0 h1);unfold ari at this;rw[A,yS,EC]at this;exact eq_of_beq this
def ak8 (N L D:Int) (r0 A z:η) (h:Int) (d:θ) (th:Y g?) (h0:l! r0<=1000) (h1:l! A<=1000) (h2:l! z<=1000) (hd:l! d<=1000) (ht:l! th<=1000):oH ([(N,r0),(L,A),(D,z)],h,d,th)=Z ((h,d,th),(N,L,D),r0,A,z):=by
 refine cI ?_;have cl:∀l:η,l! l<=1000->uQ l=Z l:=λl hl=>cI (a! (aj rfl))
 unfold oH a8 b_ bS bT bX bf aH;refine bh rfl (aY (λx=>x=(([(N,r0),(L,A),(D,z)],h,d,th),0,(N,L,D),r0,A,z)) ?_ ?_)
 .exact fT rfl (bh rfl (aS (aV (cl _ h0) (fT rfl (bh rfl (aS (aV (cl _ h1) (fT rfl (bh rfl (aS (aV (cl _ h2) (fZ rfl (aj rfl)))))))))))))
 rintro x rfl;refine aV (x:=d) (cI (a! (aj rfl))) (aV (x:=th) (cI (a! (aj rfl))) (aj rfl))
def aln (w:WT) (s:SY) (z:SB i s) (N:i<=1000) (D:l! w.2.2.1<=1000) (t k o u:Int) (he:EN w s t k o) (L:Z' w s t k o) (hk:k=8\/k=9):ic (w,s,t,k,o,u)=U:=by
 have h1:=Gu w s z N D t k o he L;have A:=agl s z;rcases hk with rfl|rfl
 .unfold ic a8 bt bI cA dO b_ dJ dj fD pV ck bq bT bX ko aH;simp only[h1,A,bz,bB,uz];cases fA o (ah s.1)<;>rfl
 .unfold ic a8 bt bI cA dO b_ dJ dj fD pV ck bq bT bX ko aH;simp only[h1,A,bz,bB,uz];cases fA o (ah s.1)<;>rfl
def alk (w:WT) (s:SY) (L:SB i s) (hn:i<=900) (hw:l! w.2.2.1<=1000) (t k u:Int) (he:EN w s t k 2) (hr:Z' w s t k 2) (hk:k=8\/k=9) (h3:l! s.1=3) (hA:JZ (geti eA s.1 2).2) (N:∀z∈(geti eA s.1 2).2,0<=z/\z<4) (t4:t<4):mg (w,s,t,k,2,u)=Z ((xy w s t k 2 u).1,(xy w s t k 2 u).2,J):=by
 have h1:=Gu w s L (by omega) hw t k 2 he hr;have t0:=he.t0;have ra:=hr.ra;have rr:=hr.rr;have hrd:=L.rd;have hdn:=L.dn;have hth:=L.th;obtain⟨s1,h,d,th⟩:=s
 match s1,h3 with
 |[(a0,r0),(a1,D),(a2,A)],_=>
  have g0:l! r0<=i:=hrd (a0,r0) (by simp);have g1:l! D<=i:=hrd (a1,D) (by simp);have g2:l! A<=i:=hrd (a2,A) (by simp);have hA:JZ A:=hA;have N:∀z∈A,0<=z/\z<4:=N;dsimp only at hdn hth;have hc:=ak8 a0 a1 a2 r0 D A h d th (by omega) (by omega) (by omega) hdn hth;refine cI ?_;unfold mg a8 bt bI cA dO iC dJ dj fD wG bq pu bT aH;rcases hk with rfl|rfl
  .have ra:A.contains t=aa:=ra rfl;obtain⟨q1,q2,q3⟩:=srt8 hA N t0 t4 (by simpa using ra);simp only[h1,hc,bz,bB,uz];refine aY (λx=>x=(0,(h,d,th),0,(((a0,r0),(a1,D),a2)),J,yW A [t])) ?_ ?_
   .refine a! (aV q1 (bh ?_ (aV q2 (bh ?_ (aj ?_)))))
    .rw[q3];simp
    .simp
    .rfl
   rintro x rfl;exact aj rfl
  .have rr:A.contains t=J:=rr rfl;have q1:=del8 hA N t0 t4 rr;simp only[h1,hc,bz,bB,uz];refine aY (λx=>x=(0,(h,d,th),0,(((a0,r0),(a1,D),a2)),aa,wo A t)) ?_ ?_
   .exact aV q1 (bh (by simp) (aj rfl))
   rintro x rfl;exact aj rfl
def aq5 (w:WT) (s:SY) (L:SB i s) (hn:i<=900) (D:l! w.2.2.1<=1000) (t k o u:Int) (he:EN w s t k o) (N:Z' w s t k o) (h2:k=8\/k=9->o=2) (h3:l! s.1=3) (hA:∀l∈s.1,JZ l.2/\∀z∈l.2,0<=z/\z<4) (t4:t<4):s9 (w,s,t,k,o,u)=Z ((xy w s t k o u).1,(xy w s t k o u).2,J):=by
 unfold s9;by_cases A:k=8\/k=9
 .have:=h2 A;subst this;have hg:=hA _ (b8 (T:=eA) (xs:=s.1) (j:=2) (by omega) (by omega));rw[aln w s L (by omega) D t k 2 u he N A,alk w s L hn D t k u he N A h3 hg.1 hg.2 t4];rfl
 .rw[alm w s L (by omega) D t k o u he N (λh=>A (.inl h)) λh=>A (.inr h)];rfl
def ZT (l:η) (h:l! l<=100000):Bg l=Z l:=cI (a! (aj rfl))
def ak9 (l:η) (h:l! l<=100000):uQ l=Z l:=cI (a! (aj rfl))
def as9 {n:Nat} (w:WT) (s:SN) (e:ET) (D:NB n s) (hn:n<=900) (hw:l! w.2.2.1<=1000) (hF:F16 w s) (N:EN w s.1 e.1 e.2.1 e.2.2.1) (hS:S16 w s e) (ld:l! e.2.2.2.2.2.1<=1000000) (lf:l! e.2.2.2.2.2.2<=1000000) (h2:e.2.1=8\/e.2.1=9->e.2.2.1=2) (h3:l! s.1.1=3) (hA:∀l∈s.1.1,JZ l.2/\∀z∈l.2,0<=z/\z<4) (t4:e.1<4):fX (w,s,e)=Z (nxP w s e,J):=by
 refine cI ?_;obtain⟨rd,q1,q2,de,fr,nd,nf,va⟩:=id hS;obtain⟨nm,L,t1,cd,e1,e2,e3⟩:=id N;obtain⟨k1,k2,ce,lk,cn,th,fu,_,_,_⟩:=nm;obtain⟨f1,f2,f3⟩:=id hF;have hsc:=D.c;have hsf:=D.f;have hsk:=D.k;unfold fX a8 bt bI b_ dJ dj ck bq bS kq ko bf aH cW;refine aY (λx=>x=(aa,w,s,e,0)) ?_ ?_
 .refine aV (are w s hw _ _ _ N hF) (fZ rfl (du (fF (λg=>(by dsimp only[al]at g;omega)) λ_=>du (aj ?_))));rw[gd.2 (show e.2.1<=23 by omega)]
 rintro x rfl;refine gB (aY (λx=>x=(aa,w,s,e,0)) ?_ ?_)
 .exact aV (Gu w s.1 D.sb (by omega) hw _ _ _ N rd) (fZ rfl (aV (aio w e q1 q2) (fZ rfl (aV (U3 w s e (λh=>ce h) de fr L (by rw[f3];exact t1) nd nf ld lf) (fZ rfl (aV (ai4 w s D.sb e hF N va) (aj rfl)))))))
 rintro x rfl;refine gB (aY (λx=>x.2=(w,s,e,0)/\xy w s.1 e.1 e.2.1 e.2.2.1 x.1=xy w s.1 e.1 e.2.1 e.2.2.1 e.2.2.2.1) ?_ ?_)
 .exact aJ (λ_=>aj ⟨rfl,rfl⟩) λh=>aj ⟨rfl,Z3 _ _ _ _ _ _ _ h⟩
 rintro⟨u,x⟩ ⟨hx,hu⟩;dsimp only at hx hu;subst hx;refine aV (aq5 w s.1 D.sb hn hw _ _ _ u N rd h2 h3 hA t4) (fZ rfl (aV (ZT _ (by dsimp only;omega)) (aV (ZT _ (by dsimp only;omega)) (aV (ak9 _ (by dsimp only;omega)) ?_))));rw[hu];refine aY (λx=>x.1=e/\x.2.2.1=(xy w s.1 e.1 e.2.1 e.2.2.1 e.2.2.2.1).1/\x.2.2.2.1=ceP s.2.1 e/\x.2.2.2.2.1=fuP s.2.2.1 e/\x.2.2.2.2.2=s.2.2.2) ?_ ?_
 .unfold ceP fuP;refine aJ (λh=>?_) λh=>aJ (λh'=>?_) λh'=>aj ⟨rfl,rfl,(av h).symm,(av h').symm,rfl⟩
  .have h:e.2.1=4:=h;have A:=ce (.inr h);exact aN A.1 (by rw[f1];exact A.2) (aN A.1 (by rw[f1];exact A.2) (aj ⟨rfl,rfl,(aC h).symm,(av (by omega)).symm,rfl⟩))
  .have h:e.2.1=22:=h';have A:=fu (.inl h);exact aN A.1 (by rw[f2];exact A.2) (aN A.1 (by rw[f2];exact A.2) (aj ⟨rfl,rfl,(av (by omega)).symm,(aC h).symm,rfl⟩))
 rintro⟨x1,x2,x3,x4,x5,x6⟩ ⟨h1,h2,h4,h5,h6⟩;simp only at h1 h2 h4 h5 h6;subst h1 h2 h4 h5 h6;have t2:x1.1<(l! s.2.2.2:Int):=by rw[f3];exact t1
 exact aN L t2 (aN L t2 (aS (aN L t2 (aN L t2 (aj rfl)))))
structure TP (t:η×Int):Prop where
 l0:l! t.1<=9223372036854775807
 by_:∀x∈t.1,0<=x/\x<=255
 a0:0<=t.2
 a1:t.2<=l! t.1
structure wC (t t':η×Int):Prop where
 e:t'.1=t.1
 m:t.2<=t'.2
 p:TP t'
def wC.refl {t:n?} (h:TP t):wC t t:=⟨rfl,dC _,h⟩
def wC.trans {a b c:n?} (h:wC a b) (g:wC b c):wC a c:=⟨g.e.trans h.e,s7 h.m g.m,g.p⟩
def gF (n:Int) (t:n?) (h:TP t):Ok (bP (n,t)) λy=>wC t y.2/\0<=y.1/\(1<=n->y.1<n)/\(t.2<l! t.1->1<=n->t.2<y.2.2):=by
 obtain⟨L,a⟩:=t;have hT:=h;obtain⟨l0,N,a0,a1⟩:=h;dsimp only at l0 N a0 a1;unfold bP kq bT bX bf aH cW;refine aY (λx=>x.2=(L,a)/\(x.1=J->a=l! L\/n<1)/\(x.1=aa->a<l! L/\1<=n)) ?_ ?_
 .refine fF (λh=>aj ⟨rfl,λ_=>?_,nofun⟩) λh=>aj ⟨rfl,λA=>?_,λA=>?_⟩
  .dsimp only[al]at h;omega
  .rw[te]at A;exact .inr A
  .rw[gd]at A;dsimp only[al]at h A;omega
 rintro⟨b,x⟩ ⟨e,h1,A⟩;dsimp only at e h1 A;subst e;refine aO (λh=>aj ⟨wC.refl hT,dC _,λh3=>(by dsimp only;omega),λh3 h4=>?_⟩) λh=>?_
 .have:=h1 h;dsimp only at h3;omega
 obtain⟨q1,q2⟩:=A h;refine aS ?_;have e1:bA .i64 (a+1)=a+1:=iW;dsimp only;rw[e1,iW (n:=a+1-1) (by omega) (by omega),show a+1-1=a by omega];have D:=N _ (b8 (T:=.int .u8) (xs:=L) (j:=a) a0 q1);refine aN a0 q1 (aS ?_);generalize (geti _ _ a)=z at D;have D:0<=z/\z<=255:=D;rw[iW (n:=z) (by omega) (by omega)];refine A_ (by omega) (aj ?_);dsimp only;refine ⟨⟨rfl,by dsimp only;omega,⟨l0,N,by dsimp only;omega,by dsimp only;omega⟩⟩,Int.tmod_nonneg _ D.1,λ_=>?_,λ_ _=>by omega⟩;exact Int.tmod_lt_of_pos _ (by omega)
def WG (s:SY) (D:l! s.2.2.2<=1000) (y:η×B!):Ok (me (s,y)) λl=>l! l<=l! s.2.2.2:=by
 unfold me b_ bq bS bT bX bf c5 aH cW;refine cH (l! s.2.2.2) (λi x=>x.1=(i:Int)/\l! x.2<=i) ?_ ?_ ⟨rfl,by simp⟩
 .rintro i ⟨a,b⟩ hi ⟨z,e2⟩;dsimp only at z e2;subst z;with_reducible repeat' first|apply OS.ok;constructor|refine IM.mk λ_=>?_
  all_goals try simp only[al,sw] at*
  all_goals first|omega|(simp;omega)|skip
  .exact⟨gM,by simp;omega⟩
  .exact⟨gM,by omega⟩
 .rintro⟨a,b⟩ ⟨z,e2⟩;dsimp only at z e2;subst z;refine bW (λA=>(by dsimp only[al]at A;omega)) λ_=>aj e2
def aak (k u:Int) (t:n?) (h:TP t):Ok (pN ((k,u),t)) λy=>wC t y.2/\(k=3\/k=4->0<=y.1/\y.1<5):=by
 unfold pN bq ko aH cW;cases kdI k
 case no D _=>
  simp only[D,bz,bB,uz];exact aj ⟨wC.refl h,λh=>(by first|omega|(simp at h;done)|(rcases h with h|h<;>cases h;done))⟩
 all_goals simp only[bz,bB,uz]
 all_goals first
  |exact aj ⟨wC.refl h,λh=>(by first|omega|(simp at h;done)|(rcases h with h|h<;>cases h;done))⟩
  |exact aw (gF 2 t h) λy A=>aj ⟨A.1,λh=>(by first|omega|(simp at h;done)|(rcases h with h|h<;>cases h;done))⟩
  |exact aw (gF 3 t h) λy A=>aj ⟨A.1,λh=>(by first|omega|(simp at h;done)|(rcases h with h|h<;>cases h;done))⟩
  |skip
 all_goals
  refine aw (gF 8 t h) λy A=>?_
  have h1:=A.2.1;have L:=A.2.2.1 (by omega);refine aN h1 (by simp;omega) (aN h1 (by simp;omega) (aS (aj ⟨A.1,λ_=>?_⟩)));have:∀z:Int,z∈([0,0,0,1,1,2,3,4]:η)->0<=z/\z<5:=by decide
  exact this _ (b8 (T:=aM) h1 (by simp;omega))
structure SZ (n:Nat) (s:SN):Prop where
 nb:NB n s
 c:l! s.2.1=5
 f:l! s.2.2.1=1
 k:l! s.2.2.2=4
def SZ.step {s y:SN} (h:SZ i s) (hp:SP i s y) (z:i+1<=100000):SZ (i+1) y:=
 ⟨hp.NB h.nb z,by rw[hp.c];exact h.c,by rw[hp.f];exact h.f,by rw[hp.k];exact h.k⟩
def aa9 (s:SN) (A:SZ i s) (k o:Int) (L:k=3->0<=o/\o<5) (t:n?) (h:TP t):Ok (rD ((s,k,o),t)) λy=>wC t y.2:=by
 obtain⟨s1,s2,s3,N⟩:=s;have hc:=A.c;have hf:=A.f;have hth:=A.nb.sb.th;dsimp only at hc hf hth;have D:=WG s1 hth (s2,s3,N);unfold rD a8 bq bS bX bf aH;cases kdI k
 case no hk _=>
  simp only[hk,bz,bB,uz];exact aj (wC.refl h)
 all_goals simp only[bz,bB,uz]
 all_goals first
  |exact aj (wC.refl h)
  |exact aw (gF 2 t h) λy z=>aj z.1
  |exact aw (gF 3 t h) λy z=>aj z.1
  |exact aw D λy z=>aj (wC.refl h)
  |exact aN (by decide) (by omega) (aS (aj (wC.refl h)))
  |exact aN (L rfl).1 (by have:=(L rfl).2;omega) (aS (aj (wC.refl h)))
  |skip
 refine aw D λl hl=>?_
 refine bW (λh1=>?_) λ_=>aj (wC.refl h)
 refine aw (gF _ t h) λy z=>?_
 dsimp only[al]at h1;have h2:=z.2.2.1 (by dsimp only[al];omega);exact aN z.2.1 h2 (aS (aj z.1))
def aib (t:n?) (h:TP t) (r:η) (hr:l! r<=1000000):Ok (gP (t,r)) λy=>l! y.1<=l! r/\wC t y.2.1/\y.2.2=r:=by
 unfold gP a8 b_ bS kq bT ko bf c5 aH cW;refine cH (l! r) (λi x=>x.1=(i:Int)/\wC t x.2.1/\x.2.2.1=r/\l! x.2.2.2<=i) ?_ ?_ ⟨rfl,wC.refl h,rfl,by simp⟩
 .rintro i ⟨a,b,c,d⟩ hi ⟨L,e2,D,e4⟩;dsimp only at L e2 D e4;subst L D;refine bW (λN=>?_) λN=>(by dsimp only[al]at N;omega)
  refine aY (λx=>wC t x.1/\x.2.1=c/\l! x.2.2<=i+1) ?_ ?_
  .refine cY (cY (aS ?_));refine aY (λx=>wC t x.2.1/\x.2.2=(c,d)) ?_ ?_
   .refine aO (λ_=>?_) λ_=>aj ⟨e2,rfl⟩
    exact aw (gF 2 b e2.p) λy hy=>aj ⟨e2.trans hy.1,rfl⟩
   .rintro⟨p,q,u⟩ ⟨z,A⟩;dsimp only at z A;subst A;refine aO (λ_=>?_) λ_=>aj ⟨z,rfl,by dsimp only;omega⟩
    exact a! (aj ⟨z,rfl,by simp;omega⟩)
  .rintro⟨p,q,u⟩ ⟨z,A,f3⟩;dsimp only at z A f3;subst A;refine aj ?_;dsimp only;exact⟨gM,z,rfl,f3⟩
 .rintro⟨a,b,c,d⟩ ⟨L,e2,D,e4⟩;dsimp only at L e2 D e4;subst L D;refine bW (λN=>(by dsimp only[al]at N;omega)) λ_=>aj ⟨e4,e2,rfl⟩
def afb:uO ()=Z [3,3,3,3,3,4,4,4,4,4,5,5,5,6,6,6,7,7,7,8,9,10,11,12,13,14,14,15,16,16,17,17,18,18,19,20,1,1,2,21,22,23,23]:=rfl
abbrev RR:Type:=η×η×B!
structure RB4 (m:Nat) (r:RR):Prop where
 r0:l! r.1<=m
 r1:l! r.2.1<=m
 r2:l! r.2.2.1<=m
 r3:l! r.2.2.2<=m
def ag6 (s:SN) (hs:SZ i s) (w:WT) (hw:l! w.1=5) (t:n?) (h:TP t) (r:RR) (hr:RB4 1000000 r):Ok (rE ((s,w),t,r)) λy=>wC t y.2.1/\y.2.2=r/\(t.2<l! t.1->t.2<y.2.1.2)/\l! y.1.2.2.2.2.2.1<=1000000/\l! y.1.2.2.2.2.2.2<=1000000:=by
 obtain⟨r0,r1,r2,r3⟩:=r;obtain⟨h0,h1,h2,h3⟩:=hr;dsimp only at h0 h1 h2 h3;unfold rE lG mq mo a8 bt bI cA dO iC mF nJ Prod.v Prod.y dj fD bq bT bX bf aH;refine aw (gF 4 t h) λy hy=>?_
 refine aV afb ?_;refine aw (gF _ y.2 hy.1.p) λz hz=>?_
 obtain⟨y1,yt⟩:=y;obtain⟨z1,zt⟩:=z;obtain⟨ty,yy0,yy1,yy2⟩:=hy;obtain⟨tz,zz0,zz1,_⟩:=hz;dsimp only at ty yy0 yy1 yy2 tz zz0 zz1;have yy1:=yy1 (by decide);have hzl:=zz1 (by decide);refine aN zz0 hzl (aS ?_);generalize (geti _ _ z1)=k;refine aw (gF 6 zt tz.p) λv D=>?_
 obtain⟨v1,vt⟩:=v;have tv:=D.1;dsimp only at tv;have tt:=(ty.trans tz).trans tv;have hadv:t.2<l! t.1->t.2<vt.2:=λh=>by
  have:=yy2 h (by decide);have:=tz.m;have:=tv.m;omega
 refine aY (λx=>x.1=vt/\x.2.1=r0/\x.2.2.1=r1/\x.2.2.2.1=r2/\x.2.2.2.2.1=r3/\x.2.2.2.2.2.1=s/\x.2.2.2.2.2.2.1=w) ?_ ?_
 .refine aY (λx=>x.2.1=vt/\x.2.2.1=r0/\x.2.2.2.1=r1/\x.2.2.2.2.1=r2/\x.2.2.2.2.2.1=r3/\x.2.2.2.2.2.2.1=s/\x.2.2.2.2.2.2.2.1=w) ?_ ?_
  .with_reducible repeat' first|apply OS.ok;constructor|refine IM.mk λ_=>?_
   all_goals exact⟨rfl,rfl,rfl,rfl,rfl,rfl,rfl⟩
  .rintro⟨p,q⟩ hq;dsimp only at hq;with_reducible repeat' first|apply OS.ok;constructor|refine IM.mk λ_=>?_
   all_goals exact hq
 rintro⟨x1,x2,x3,x4,x5,x6,x7,x8,x9,x10⟩ ⟨L,f2,f3,f4,f5,f6,f7⟩;dsimp only at L f2 f3 f4 f5 f6 f7;subst L f2 f3 f4 f5 f6 f7;refine aw (aak _ _ _ tv.p) λo ho=>?_
 obtain⟨o1,ot⟩:=o;obtain⟨to,ho⟩:=ho;dsimp only at to ho;refine aw (aa9 _ hs _ _ (λhk=>ho (.inl hk)) _ to.p) λq hq=>?_
 obtain⟨q1,qt⟩:=q;dsimp only at hq;have N:=(tt.trans to).trans hq;have hadv2:t.2<l! t.1->t.2<qt.2:=λh=>by have:=hadv h;have:=to.m;have:=hq.m;omega
 have row:∀(T:n?) (c:η) {R:Type} (k:η×((η×Int)×η)->M R) (Q:R->Prop),wC t T->l! c<=1000000->(∀v T',wC T T'->l! v<=1000000->Ok (k (v,T',c)) Q)->Ok (ay (gP (T,c)) k) Q:=λT c R k Q A hc hk=>by
  refine aw (aib T A.p c hc) λy hy=>?_
  obtain⟨a,b,d⟩:=y;obtain⟨g1,g2,g3⟩:=hy;dsimp only at g1 g2 g3;subst g3;exact hk a b g2 (by omega)
 refine aY (λx=>wC t x.1/\(t.2<l! t.1->t.2<x.1.2)/\x.2.1=x2/\x.2.2.1=x3/\x.2.2.2.1=x4/\x.2.2.2.2.1=x5/\l! x.2.2.2.2.2.2.2.2.2.2.2<=1000000) ?_ ?_
 .refine aY (λx=>x.2.1=qt/\x.2.2.1=x2/\x.2.2.2.1=x3/\x.2.2.2.2.1=x4/\x.2.2.2.2.2.1=x5) ?_ ?_
  .refine aJ (λ_=>aj ⟨rfl,rfl,rfl,rfl,rfl⟩) λ_=>?_
   refine aJ (λhk=>?_) λ_=>aJ (λhk=>?_) λ_=>aj ⟨rfl,rfl,rfl,rfl,rfl⟩
   .exact aN (ho (.inl hk)).1 (by dsimp only;rw[hw];exact (ho (.inl hk)).2) (aS (aj ⟨rfl,rfl,rfl,rfl,rfl⟩))
   .exact aN (ho (.inr hk)).1 (by dsimp only;rw[hw];exact (ho (.inr hk)).2) (aS (aj ⟨rfl,rfl,rfl,rfl,rfl⟩))
  .rintro⟨b,p1,p2,p3,p4,p5,p6⟩ ⟨L,f2,f3,f4,f5⟩;dsimp only at L f2 f3 f4 f5;subst L f2 f3 f4 f5;refine aO (λ_=>?_) λ_=>aj ⟨N,hadv2,rfl,rfl,rfl,rfl,by simp⟩
   have adv3:∀T',wC p1 T'->t.2<l! t.1->t.2<T'.2:=λT' A h=>by have:=hadv2 h;have:=A.m;omega
   refine aJ (λ_=>?_) λ_=>aJ (λ_=>?_) λ_=>aJ (λ_=>?_) λ_=>aJ (λ_=>?_) λ_=>?_
   .refine row p1 p2 _ _ N h0 λv T' A D=>?_
    refine db (mK rfl (C6 ?_));exact aj ⟨N.trans A,adv3 T' A,rfl,rfl,rfl,rfl,D⟩
   .refine row p1 p3 _ _ N h1 λv T' A D=>?_
    refine db (mK rfl (C6 ?_));exact aj ⟨N.trans A,adv3 T' A,rfl,rfl,rfl,rfl,D⟩
   .refine row p1 p4 _ _ N h2 λv T' A D=>?_
    refine db (mK rfl (C6 ?_));exact aj ⟨N.trans A,adv3 T' A,rfl,rfl,rfl,rfl,D⟩
   .refine row p1 p5 _ _ N h3 λv T' A D=>?_
    refine db (mK rfl (C6 ?_));exact aj ⟨N.trans A,adv3 T' A,rfl,rfl,rfl,rfl,D⟩
   .omega
 rintro⟨u1,u2,u3,u4,u5,u6,u7,u8,u9,u10,u11,u12⟩ ⟨L,f2,f3,f4,f5,f6,f7⟩;dsimp only at L f2 f3 f4 f5 f6 f7;subst f3 f4 f5 f6;refine aY (λx=>wC t x.1/\(t.2<l! t.1->t.2<x.1.2)/\x.2.1=u2/\x.2.2.1=u3/\x.2.2.2.1=u4/\x.2.2.2.2.1=u5/\l! x.2.2.2.2.2.2.2.2.2.2.2.1<=1000000/\l! x.2.2.2.2.2.2.2.2.2.2.2.2<=1000000) ?_ ?_
 .refine aY (λx=>x.2=(u1,u2,u3,u4,u5,u6,u7,u8,u9,u10,u11,u12)) ?_ ?_
  .with_reducible repeat' first|apply OS.ok;constructor|refine IM.mk λ_=>?_
   all_goals rfl
  .rintro⟨b,x⟩ e;dsimp only at e;subst e;refine aO (λ_=>?_) λ_=>aj ⟨L,f2,rfl,rfl,rfl,rfl,f7,by simp⟩
   have adv3:∀T',wC u1 T'->t.2<l! t.1->t.2<T'.2:=λT' A h=>by have:=f2 h;have:=A.m;omega
   refine aJ (λ_=>?_) λ_=>aJ (λ_=>?_) λ_=>aJ (λ_=>?_) λ_=>aJ (λ_=>?_) λ_=>?_
   .refine row u1 u2 _ _ L h0 λv T' A D=>?_
    refine db (mK rfl (C6 ?_));exact aj ⟨L.trans A,adv3 T' A,rfl,rfl,rfl,rfl,f7,D⟩
   .refine row u1 u3 _ _ L h1 λv T' A D=>?_
    refine db (mK rfl (C6 ?_));exact aj ⟨L.trans A,adv3 T' A,rfl,rfl,rfl,rfl,f7,D⟩
   .refine row u1 u4 _ _ L h2 λv T' A D=>?_
    refine db (mK rfl (C6 ?_));exact aj ⟨L.trans A,adv3 T' A,rfl,rfl,rfl,rfl,f7,D⟩
   .refine row u1 u5 _ _ L h3 λv T' A D=>?_
    refine db (mK rfl (C6 ?_));exact aj ⟨L.trans A,adv3 T' A,rfl,rfl,rfl,rfl,f7,D⟩
   .omega
 rintro⟨a1,a2,a3,a4,a5,a6,a7⟩ ⟨g1,g2,g3,g4,g5,g6,g7,g8⟩;dsimp only at g1 g2 g3 g4 g5 g6 g7 g8;subst g3 g4 g5 g6;exact aj ⟨g1,rfl,g2,g7,g8⟩
def EvS (e:ET):Prop:=l! e.2.2.2.2.2.1<=1000000/\l! e.2.2.2.2.2.2<=1000000
def ain (hm:i<=1000) (s:SN) (hs:SZ i s) (w:WT) (hw:l! w.1=5) (hwt:l! w.2.2.2.2.1=4) (hwc:l! w.2.2.1<=1000) (n:Int) (hn:n<=60) (t:n?) (h:TP t):Ok (tG ((s,w,n,aa),t)) λy=>(∀e∈y.1,EvS e)/\l! y.1<=60:=by
 unfold tG a8 bt bI cA dO iC mF nJ Prod.w b_ dj fD pV wG Prod.B bq bS bT bX bf c5 aH;refine db (db (db (eg (by dsimp only[al];omega) (eg (dC _) (bl (by dsimp only[al];omega) (by omega) (Zh (by dsimp only[al];omega) ?_))))));refine aY (λx=>x=(t,s,w,[],[],[],[])) ⟨_,rfl,rfl⟩ ?_;rintro x rfl;refine ru (λx=>((l! t.1:Int)-x.1.2).toNat) (λx=>wC t x.1/\x.2.2.1=w/\SZ (i+l! x.2.2.2.1) x.2.1/\l! x.2.2.2.1<=60/\(∀e∈x.2.2.2.1,EvS e)/\RB4 (l! x.2.2.2.1) x.2.2.2.2) ?_ ⟨wC.refl h,rfl,(by simpa using hs),by simp,λe he=>(by cases he),⟨by simp,by simp,by simp,by simp⟩⟩;rintro⟨A,s,w',out,r⟩ ⟨i1,i2,N,i4,i5,i6⟩;dsimp only at i1 i2 N i4 i5 i6;subst i2;refine aY (λx=>x.2=(A,s,w',out,r)/\(x.1=J->l! out<60/\A.2<l! A.1)) ?_ ?_
 .refine bW (λh1=>aj ⟨rfl,λh2=>?_⟩) λ_=>aj ⟨rfl,nofun⟩
  rw[te]at h2;dsimp only[al]at h1 h2;exact⟨by omega,h2⟩
 rintro⟨b,x⟩ ⟨e,hb⟩;dsimp only at e hb;subst e;refine aO (λh1=>?_) λ_=>aj ⟨i5,i4⟩
 obtain⟨ho,ht⟩:=hb h1;obtain⟨q0,q1,q2,q3⟩:=id i6;refine aY (λx=>wC A x.1/\A.2<x.1.2/\x.2.2.1=w'/\SZ (i+l! x.2.2.2.1) x.2.1/\l! x.2.2.2.1<=60/\(∀e∈x.2.2.2.1,EvS e)/\RB4 (l! x.2.2.2.1) x.2.2.2.2) ?_ ?_
 .refine aw (ag6 s N w' hw A i1.p r ⟨by omega,by omega,by omega,by omega⟩) λy hy=>?_
  obtain⟨ev,tp',r'⟩:=y;obtain⟨j1,j2,j3,L,D⟩:=hy;dsimp only at j1 j2 j3 L D;subst j2;have j3:=j3 ht;refine db (mK rfl (db (mK rfl (db (mK rfl (db (mK rfl (C6 ?_))))))));refine aw (HS w' s N.nb hwc ev (.inl (by omega)) (.inl (by omega))) λz hz=>?_
  refine eJ (λ_=>aj ⟨j1,j3,rfl,N,i4,i5,i6⟩) λh2=>?_
  obtain⟨z1,z2⟩:=z;obtain⟨hE,hS,_⟩:=hz.1 h2;have hS2:=N.step hS (by omega);refine aY (λx=>x.1=tp'/\x.2.2.1=w'/\x.2.2.2.1=out/\EvS x.2.2.2.2.1/\x.2.2.2.2.2.1=z1/\RB4 (l! out+1) x.2.2.2.2.2.2) ?_ ?_
  .refine aY (λx=>x.2=(tp',s,w',out,ev,z1,r')) ?_ ?_
   .refine aJ (λ_=>aj rfl) λ_=>aj rfl
   .rintro⟨b,x⟩ e;dsimp only at e;subst e;have hk:=N.k;obtain⟨ev1,ev2⟩:=ev;have t0:=hE.t0;have t1:=hE.t1;rw[hwt]at t1;dsimp only at t0 t1;refine aO (λ_=>?_) λ_=>aj ⟨rfl,rfl,rfl,⟨L,D⟩,rfl,⟨by dsimp only;omega,by dsimp only;omega,by dsimp only;omega,by dsimp only;omega⟩⟩
    refine aJ (λ_=>?_) λ_=>aJ (λ_=>?_) λ_=>aJ (λ_=>?_) λ_=>aJ (λ_=>?_) λ_=>?_
    .exact aN (by decide) (by dsimp only;omega) (aS (a! (aj ⟨rfl,rfl,rfl,⟨L,D⟩,rfl,⟨by simp;omega,by dsimp only;omega,by dsimp only;omega,by dsimp only;omega⟩⟩)))
    .exact aN (by decide) (by dsimp only;omega) (aS (a! (aj ⟨rfl,rfl,rfl,⟨L,D⟩,rfl,⟨by dsimp only;omega,by simp;omega,by dsimp only;omega,by dsimp only;omega⟩⟩)))
    .exact aN (by decide) (by dsimp only;omega) (aS (a! (aj ⟨rfl,rfl,rfl,⟨L,D⟩,rfl,⟨by dsimp only;omega,by dsimp only;omega,by simp;omega,by dsimp only;omega⟩⟩)))
    .exact aN (by decide) (by dsimp only;omega) (aS (a! (aj ⟨rfl,rfl,rfl,⟨L,D⟩,rfl,⟨by dsimp only;omega,by dsimp only;omega,by dsimp only;omega,by simp;omega⟩⟩)))
    .dsimp only at *;omega
  .rintro⟨x1,x2,x3,x4,x5,x6,x7⟩ ⟨k1,k2,k3,k4,k5,k6⟩;dsimp only at k1 k2 k3 k4 k5 k6;subst k1 k2 k3 k5;refine a! (aj ⟨j1,j3,rfl,?_,by simp;omega,λe he=>?_,?_⟩)
   .dsimp only;rw[bc,cj,<-qP];exact hS2
   .rcases bG.1 he with he|he
    .exact i5 e he
    .rw[aE]at he;subst he;exact k4
   .dsimp only;rw[bc,cj];exact k6
 rintro⟨tp',s',w'',out',r'⟩ ⟨k1,k2,k3,k4,k5,k6,k7⟩;dsimp only at k1 k2 k3 k4 k5 k6 k7;have e1:=i1.e;have a1:=k1.p.a1;have e2:=k1.e;refine aj ⟨⟨i1.trans k1,k3,k4,k5,k6,k7⟩,?_⟩;dsimp only;rw[e2,e1]at a1;omega
def C0:Y (ζ×r?):=[([120],0,0,aa,0),([121],0,0,aa,1),([118],0,0,J,0),([113],0,2,aa,0),([113],1,2,aa,0)]
def Jc:Y F!:=[([109],aa),([110],aa),([114],J)]
def O0:Y (ζ×Int):=[([99],0)]
def Wk:Y ζ:=[[102]]
def xL:Y ζ:=[[109,97,105,110],[116,49],[116,50],[116,51]]
structure WX (w:WT):Prop where
 c:w.1=C0
 l:w.2.1=Jc
 d:w.2.2.1=O0
 f:w.2.2.2.1=Wk
 t:∃n,1<=n/\n<=4/\w.2.2.2.2.1=xL.take n
 s:l! w.2.2.2.2.2<=60
 v:SV0 w
structure W0 (w:WT):Prop where
 c:l! w.1=5
 l:l! w.2.1=3
 d:l! w.2.2.1=1
 f:l! w.2.2.2.1=1
 t:l! w.2.2.2.2.1=4
 s:l! w.2.2.2.2.2<=24
 x:WX w
variable {k:WT}
def W0.vl (h:W0 k):VL k:=⟨by rw[h.c];decide,by rw[h.l];decide,by rw[h.d];decide,by rw[h.f];decide,by rw[h.t];decide,by rw[h.t];decide,by have:=h.s;omega⟩
def nxS (i j:Nat):ν:=if j=0 then (if i=0 then (0,0) else ((i:Int)-1,6)) else (i,j)
def Y1 {l:Y π} {s:π}:NF a (l++[s])=Wx a (NF a l) s:=by unfold NF;rw[eO];rfl
def V9:Ok (oY ()) W0:=by
 unfold oY a8 bt bI cA fD bS bT c5 aH cW;refine cH 4 (λi x=>x.1=(i:Int)/\x.2.1=C0/\x.2.2.1=Jc/\x.2.2.2.1=O0/\x.2.2.2.2.1=Wk/\x.2.2.2.2.2.1=xL/\l! x.2.2.2.2.2.2<=6*i/\NF 4 x.2.2.2.2.2.2=Z (nxS i 0)) ?_ ?_ ⟨rfl,rfl,rfl,rfl,rfl,rfl,by simp,rfl⟩
 .rintro i ⟨a,w1,w2,w3,w4,w5,w6⟩ hi ⟨e1,e2,e3,e4,N,z,e7,L⟩;dsimp only at e1 e2 e3 e4 N z e7 L;subst e1;have hl5:l! w5=4:=by rw[z];rfl
  refine bW (λ_=>?_) λg=>(by dsimp only[al]at g;simp at g;omega)
  refine cH 6 (λj x=>x.1=(j:Int)/\x.2.1=w1/\x.2.2.1=w2/\x.2.2.2.1=w3/\x.2.2.2.2.1=w4/\x.2.2.2.2.2.1=w5/\l! x.2.2.2.2.2.2<=6*i+j/\NF 4 x.2.2.2.2.2.2=Z (nxS i j)) ?_ ?_ ⟨rfl,rfl,rfl,rfl,rfl,rfl,by dsimp only;omega,L⟩
  .rintro j ⟨b,v1,v2,v3,v4,v5,v6⟩ hj ⟨d1,d2,d3,d4,d5,d6,d7,d8⟩;dsimp only at d1 d2 d3 d4 d5 d6 d7 d8;subst d1;refine dy ?_;refine a! (aj ?_);dsimp only;refine ⟨gM,d2,d3,d4,d5,d6,by simp;omega,?_⟩;rw[Y1,d8];by_cases A:j=0
   .subst A;by_cases D:i=0
    .subst D;rfl
    .rw[show nxS i 0=((i:Int)-1,6) by unfold nxS;simp[D],show nxS i (0+1)=((i:Int),1) by unfold nxS;simp];unfold Wx;dsimp only;rw[av (λh=>by have:=h.1;omega),aC ⟨by omega,by omega,rfl⟩]
   .rw[show nxS i j=((i:Int),(j:Int)) by unfold nxS;simp[A],show nxS i (j+1)=((i:Int),(j:Int)+1) by unfold nxS;simp];unfold Wx;dsimp only;rw[aC ⟨rfl,rfl⟩]
  .rintro⟨b,v1,v2,v3,v4,v5,v6⟩ ⟨d1,d2,d3,d4,d5,d6,d7,d8⟩;dsimp only at d1 d2 d3 d4 d5 d6 d7 d8;subst d1 d2 d3 d4 d5 d6;refine du (aj ?_);dsimp only;refine ⟨gM,e2,e3,e4,N,z,by omega,?_⟩;rw[d8];unfold nxS;simp
 .rintro⟨a,w1,w2,w3,w4,w5,w6⟩ ⟨e1,e2,e3,e4,N,z,e7,L⟩;dsimp only at e1 e2 e3 e4 N z e7 L;subst e1 e2 e3 e4 N z;refine bW (λg=>(by dsimp only[al]at g;simp[xL]at g)) λ_=>aj ?_
  refine ⟨rfl,rfl,rfl,rfl,rfl,by dsimp only;omega,rfl,rfl,rfl,rfl,⟨4,by decide,by decide,rfl⟩,by dsimp only;omega,?_⟩;unfold SV0;show NF 4 w6≠U;rw[L];simp
variable {j:Nat}
def SZ.mono {s:SN} (h:SZ i s) (hnm:i<=j) (hm:j<=100000):SZ j s:=
 ⟨⟨⟨hm,h.nb.sb.lk,λl z=>c8 (h.nb.sb.rd l z) hnm,h.nb.sb.dn,h.nb.sb.th⟩,h.nb.c,h.nb.f,h.nb.k⟩,h.c,h.f,h.k⟩
def YH (w:WT) (z:W0 w):Ok (oh w) λs=>SZ 0 s:=by
 refine (YI w z.vl).mono λs A=>⟨A.1,?_,?_,?_⟩
 .rw[A.2.1,z.c]
 .rw[A.2.2.1,z.f]
 .rw[A.2.2.2,z.t]
structure WB (w:WT):Prop where
 c:l! w.1<=12
 l:l! w.2.1<=4
 d:l! w.2.2.1<=2
 f:l! w.2.2.2.1<=2
 t:l! w.2.2.2.2.1<=4
 s:l! w.2.2.2.2.2<=60
def VL.wb (h:VL k):WB k:=⟨h.c,h.l,h.d,h.f,h.t,h.s⟩
structure TR (y:WT×List ET):Prop where
 wb:WB y.1
 vl:VL y.1
 ev:∀e∈y.2,WC y.1 e
 len:l! y.2<=400
 ls:∀e∈y.2,EvS e
 wx:WX y.1
 ac:∃sy ce fu,Acw y.1 y.2 sy ce fu
def KL (L:η) (n:Int) (hl:l! L<=9223372036854775807) (hb:∀x∈L,0<=x/\x<=255):Ok (rF (L,n)) TR:=by
 unfold rF a8 bt bI dJ dj bS kq i_ bT ko bf c5 aH cW;refine aY (λx=>l! x<=600/\∀z∈x,0<=z/\z<=255) ?_ ?_
 .refine bW (λg=>?_) λg=>?_
  .dsimp only[al]at g;refine db (a? (a? (aj ⟨by dsimp only;rw[bQ];simp;omega,λz A=>hb z (ij A)⟩)))
  .dsimp only[al]at g;exact aj ⟨by dsimp only;omega,hb⟩
 rintro L' ⟨hL,hB⟩;refine aw V9 λw D=>?_
 have hvl:=D.vl;refine aw (YH w D) λs hs=>?_
 refine aw (gF 3 (L',0) ⟨by dsimp only;omega,hB,by dsimp only;omega,by dsimp only;omega⟩) λy hy=>?_
 obtain⟨y1,yt⟩:=y;obtain⟨ty,yy0,yy1,_⟩:=hy;have yy1:=yy1 (by decide);dsimp only at ty yy0 yy1;have ew:bA .i64 (1+y1)=1+y1:=iW;refine ru (λx=>(1+y1+1-x.1).toNat) (λx=>1<=x.1/\x.1<=2+y1/\x.2.1=yt/\x.2.2.1=w/\x.2.2.2.1=s/\((l! x.2.2.2.2:Nat):Int)<=2*x.1/\∀e∈x.2.2.2.2,EvS e) ?_ ⟨by dsimp only;omega,by dsimp only;omega,rfl,rfl,rfl,by simp,λe he=>?_⟩
 .rintro⟨a,t,w',s',es⟩ ⟨e1,e2,e3,e4,e5,e6,e7⟩;dsimp only at e1 e2 e3 e4 e5 e6 e7;subst e3 e4 e5;refine fF (λg=>?_) λg=>?_
  .dsimp only at g;rw[ew]at g;refine a! (aj ?_);dsimp only;rw[iW (n:=a+1) (by omega) (by omega)];refine ⟨⟨by omega,by omega,rfl,rfl,rfl,by simp;omega,λe he=>?_⟩,by omega⟩;rcases bG.1 he with he|he
   .exact e7 e he
   .simp only[aZ,cu,fJ]at he;rcases he with he|he<;>subst he<;>exact⟨by simp,by simp⟩
  .refine aw (P:=TR) ?_ λr hr=>aj hr
   refine cH (l! es) (λi x=>x.1=(i:Int)/\TP x.2.1/\x.2.2.1=w'/\SZ i x.2.2.2.1/\x.2.2.2.2.1=es/\l! x.2.2.2.2.2<=i/\∀e∈x.2.2.2.2.2,EvS e) ?_ ?_ ⟨rfl,ty.p,rfl,hs,rfl,by simp,λe he=>(by cases he)⟩
   .rintro i ⟨b,t,w',s',es',out⟩ hi ⟨d1,d2,d3,N,d5,d6,d7⟩;dsimp only at d1 d2 d3 N d5 d6 d7;subst d1 d3 d5;refine dy ?_;refine aY (λx=>TP x.1/\x.2.1=w'/\SZ (i+1) x.2.2.1/\x.2.2.2.1=es'/\l! x.2.2.2.2<=i+1/\∀e∈x.2.2.2.2,EvS e) ?_ ?_
    .refine cY (cY (aS ?_));have A:=e7 _ (b8 (T:=.st (.pr (.int .i64) (.pr (.int .i64) (.pr (.int .i64) (.pr (.int .i64) (.pr (.int .i64) (.pr (.sl (.int .i64)) (.sl (.int .i64))))))))) (xs:=es') (j:=(i:Int)) (by omega) (by omega));revert A;generalize (geti _ _ _)=z;intro A;refine aw (HS w' s' N.nb (by rw[D.d];decide) z (.inl (by have:=A.1;omega)) (.inl (by have:=A.2;omega))) λv hv=>?_
     refine aO (λh=>?_) λh=>aj ⟨d2,rfl,N.mono (by omega) (by omega),rfl,by dsimp only;omega,d7⟩
     refine a! (aj ⟨d2,rfl,N.step (hv.1 h).2.1 (by omega),rfl,by simp;omega,λe he=>?_⟩);rcases bG.1 he with he|he
     .exact d7 e he
     .rw[aE]at he;subst he;exact A
    .rintro⟨t,w'',s'',es'',out'⟩ ⟨f1,f2,f3,f4,f5,f6⟩;dsimp only at f1 f2 f3 f4 f5 f6;refine aj ?_;dsimp only;exact⟨gM,f1,f2,f3,f4,f5,f6⟩
   .rintro⟨b,t,w',s',es',out⟩ ⟨d1,d2,d3,N,d5,d6,d7⟩;dsimp only at d1 d2 d3 N d5 d6 d7;subst d1 d3 d5;refine du ?_;refine aw (P:=TR) ?_ λr hr=>aj hr
    have hmin:Jr (mR n 0) 60<=60:=by
     unfold Jr;split
     .omega
     .rename_i h;simp[fQ]at h;exact h
    refine aw (ain (by omega) s' N w' D.c D.t (by rw[D.d];decide) _ hmin t d2) λv hv=>?_
    refine bl (by have:=hv.2;dsimp only;omega) (by omega) ?_;have hall:∀e∈out++v.1,EvS e:=λe he=>by
     rcases bG.1 he with he|he
     .exact d7 e he
     .exact hv.1 e he
    refine aw (ahp w' (out++v.1)) λc hc=>?_
    refine cz (λ_=>?_) λh=>?_
    .exact aw V9 λu hu=>aj ⟨hu.vl.wb,hu.vl,λe he=>(by cases he),by simp,λe he=>(by cases he),hu.x,_,_,_,.nil⟩
    .exact aj ⟨(hc h).1.1.wb,(hc h).1.1,(hc h).2.1,by have:=hv.2;simp;omega,hall,D.x,(hc h).2.2⟩
 .rw[aE]at he;subst he;exact⟨by simp,by simp⟩
def ac1 (r:θ) (e:ET) (h1:∀y∈e.2.2.2.2.2.1,0<=y/\r.getD y.toNat aa=J) (N:∀y∈e.2.2.2.2.2.2,0<=y/\r.getD y.toNat aa=J) (D:l! e.2.2.2.2.2.1<=1000000) (A:l! e.2.2.2.2.2.2<=1000000):cC (r,e)=Z J:=by
 refine cI ?_;unfold cC lE dO pV bS kq bT bX bf c5 aH cW;refine g9 2 (by omega) (λi x=>x=(i:Int)) ?_ ?_ rfl
 .rintro i x hi rfl;refine bW (λ_=>?_) λg=>(by omega)
  refine db (a? (Ch (by omega) (aS ?_)));have L:∃l:η,geti (.sl (.int .i64)) [e.2.2.2.2.2.1,e.2.2.2.2.2.2] (i:Int)=l/\(∀y∈l,0<=y/\r.getD y.toNat aa=J)/\l! l<=1000000:=by
   match i,hi with
   |0,_=>exact⟨_,rfl,h1,D⟩
   |1,_=>exact⟨_,rfl,N,A⟩
  obtain⟨l,er,hA,hl⟩:=L;have er':geti (.sl aM) [e.2.2.2.2.2.1,e.2.2.2.2.2.2] (i:Int)=l:=er;dsimp only at er' ⊢;rw[er'];refine g9 (l! l) (by omega) (λj x=>x=(j:Int)) ?_ ?_ rfl
  .rintro j x hj rfl;refine dy ?_;have m:=hA _ (b8 (T:=aM) (xs:=l) (j:=(j:Int)) (by omega) (by omega));refine cY (aS (aY (λx=>x=aa) ?_ ?_))
   .revert m;generalize geti aM l (j:Int)=z;intro m;have hz:z.toNat<l! r:=by
     rcases bx z.toNat (l! r) with g|g
     .exact g
     .have:=m.2;rw[ax,bJ g]at this;cases this
    refine bW (λg=>(by have:=m.1;omega)) λ_=>fF (λg=>(by have:=m.1;dsimp only[al]at g;omega)) λ_=>aN m.1 (by have:=m.1;omega) (aS (aj ?_))
    have:geti (.bool) r z=J:=m.2;show (!geti (.bool) r z)=aa;rw[this];rfl
   rintro x rfl;exact gB (aj gM)
  .rintro x rfl;exact du (aj gM)
 .rintro x rfl;exact bW (λg=>(by omega)) λ_=>aj rfl
abbrev W8 (n:Nat) (s:Y π):WT:=(C0,Jc,O0,Wk,xL.take n,s)
def WX.w8 (N:WX k):∃n,(n=1\/n=2\/n=3\/n=4)/\k=W8 n k.2.2.2.2.2:=by
 obtain⟨h1,L,D,A,⟨n,n1,n4,z⟩,_,_⟩:=N;obtain⟨c,l,d,f,t,s⟩:=k;dsimp only at h1 L D A z;subst h1 L D A z;exact⟨n,by omega,rfl⟩
abbrev sn8 (w:WT):SN:=(Sq w,ce0 w,fu0 w,aF (l! w.2.2.2.2.1) 0)
def KF (s:Y π):dB (W8 1 s)=Z (sn8 (W8 1 s)):=by kernel_rfl
def st2 (s:Y π):dB (W8 2 s)=Z (sn8 (W8 2 s)):=by kernel_rfl
def st3 (s:Y π):dB (W8 3 s)=Z (sn8 (W8 3 s)):=by kernel_rfl
def st4 (s:Y π):dB (W8 4 s)=Z (sn8 (W8 4 s)):=by kernel_rfl
def El (z:WX k):dB k=Z (sn8 k):=by
 obtain⟨n,A,e⟩:=z.w8;rw[e];rcases A with rfl|rfl|rfl|rfl
 .exact KF _
 .exact st2 _
 .exact st3 _
 .exact st4 _
abbrev VN4:Y ζ:=[[120],[121],[118],[113]]
def vc8:im C0=Z (VN4,J):=by kernel_rfl
def vn1 (s:Y π):dZ (W8 1 s,VN4)=Z J:=by kernel_rfl
def vn2 (s:Y π):dZ (W8 2 s,VN4)=Z J:=by kernel_rfl
def vn3 (s:Y π):dZ (W8 3 s,VN4)=Z J:=by kernel_rfl
def vn4 (s:Y π):dZ (W8 4 s,VN4)=Z J:=by kernel_rfl
def vs8 (N:WX k) (hb:VL k):gm k=Z J:=by
 have hv:=N.v;have hs:=N.s;have ht:=hb.t0;unfold SV0 at hv;refine cI ?_;unfold gm lX a8 bt cA dj bS i_ bX bf c5 aH cW;refine g9 (l! k.2.2.2.2.2) (by omega) (λi x=>∃t n:Int,x=((t,n,(i:Int)),k)/\NF (l! k.2.2.2.2.1) (k.2.2.2.2.2.take i)=Z (t,n)/\0<=t/\t<l! k.2.2.2.2.1/\0<=n/\n<=i) ?_ ?_ ⟨0,0,rfl,rfl,by omega,by omega,by omega,by omega⟩
 .rintro i x hi ⟨t,n,rfl,h1,t0,t1,n0,n1⟩;refine dy ?_;refine cY (aS ?_);have A:=Y0 hv (i+1);have D:NF (l! k.2.2.2.2.1) (k.2.2.2.2.2.take (i+1))=Wx (l! k.2.2.2.2.1) (Z (t,n)) (geti qO k.2.2.2.2.2 (i:Int)):=by rw[KJ hi,h1]
  rw[D]at A;dsimp only;revert A D;change _->_->Ok _ _;generalize geti qO k.2.2.2.2.2 (i:Int)=z;intro A D;obtain⟨(a:Int),(b:Int),(c:Int)⟩:=z;have h5:(a=t/\b=n)\/(t<a/\a<l! k.2.2.2.2.1/\b=0):=by
   simp only[Wx]at A;split at A
   .rename_i h;exact .inl h
   .split at A
    .rename_i h;exact .inr h
    .exact (A rfl).elim
  refine aY (λx=>x=(aa,k,a,b,c)) ?_ ?_
  .refine du (aj ?_);dsimp only;rw[m_.2 (by dsimp only[al];omega)]
  rintro x rfl;refine gB ?_;rcases h5 with ⟨rfl,rfl⟩|⟨q1,L,rfl⟩
  .refine aY (λx=>x=((a,b),k,a,b,c)) (du (aj rfl)) ?_;rintro x rfl;refine cz (λg=>(g rfl).elim) λ_=>aj ⟨a,b+1,?_,?_,t0,t1,by omega,by omega⟩
   .dsimp only;rw[iW (n:=b+1) (by omega) (by omega),gM]
   .rw[D];simp[Wx]
  .refine aY (λx=>x=((a,0),k,a,0,c)) (dy (aj rfl)) ?_;rintro x rfl;refine cz (λg=>(g rfl).elim) λ_=>aj ⟨a,1,?_,?_,by omega,L,by omega,by omega⟩
   .dsimp only;rw[iW (n:=0+1) (by omega) (by omega),gM];rfl
   .rw[D];show (if a=t/\(0:Int)=n then Z (t,n+1) else if t<a/\a<_/\(0:Int)=0 then Z (a,1) else U)=Z (a,1);rw[av (by omega),aC ⟨q1,L,rfl⟩]
 .rintro x ⟨t,n,rfl,_⟩;exact du (aj rfl)
def VW8 (D:WX k) (hb:VL k):d_ k=Z J:=by
 have hs:=vs8 D hb;have hvn:dZ (k,VN4)=Z J:=by
  obtain⟨n,hn,e⟩:=D.w8;rw[e];rcases hn with rfl|rfl|rfl|rfl
  .exact vn1 _
  .exact vn2 _
  .exact vn3 _
  .exact vn4 _
 have hc:=D.c;have hd:=D.d;have N:=D.l;obtain⟨w1,w2,w3,L,A,z⟩:=k;obtain⟨b1,b2,b3,b4,b0,b5,b6⟩:=hb;dsimp only at hc hd N b1 b2 b3 b4 b5 b6 b0;subst hc hd N;refine cI ?_;unfold d_ lY a8 bt cA dj bS bX bf c5 aH cW;have f:∀n m:Nat,n<=m->fQ (m:Int) (aP n)=aa:=λn m h=>gd.2 (by dsimp only[al];omega)
 refine aY (λx=>x=(aa,C0,Jc,O0,L,A,z)) ?_ ?_
 .refine fZ rfl (fZ rfl (fZ rfl (fZ (f _ 2 b4) (aj ?_))));rw[show fQ 60 (aP (ah z))=aa from f _ 60 b6]
 rintro x rfl;refine gB (aY (λx=>x=(aa,C0,Jc,O0,L,A,z)) ?_ ?_)
 .refine fZ (gd.2 (by dsimp only[al];omega)) (aj ?_);rw[show fQ 4 (aP (ah A))=aa from f _ 4 b5]
 rintro x rfl;refine gB (aV vc8 (aY (λx=>x=(aa,C0,Jc,O0,L,A,z)) ?_ ?_))
 .exact gB (aV hvn (aj rfl))
 rintro x rfl;refine gB (g9 1 (by omega) (λi x=>x=((i:Int),C0,Jc,O0,L,A,z)) ?_ ?_ rfl)
 .rintro i x hi rfl;have:i=0:=by omega
  subst this;refine fT rfl (bh rfl (aS (aV (x:=J) ?_ (gB (aj rfl)))));rfl
 .rintro x rfl;exact fZ rfl (aV (x:=J) (by rw[hs];rfl) (aj rfl))
abbrev eN (l:Y ET) (i:Nat):ET:=geti jF l (i:Int)
variable {L:Y ET}
def Mn (h:i<l! L):eN L i∈L:=b8 (T:=jF) (by omega) (by omega)
variable {e:ET}
def anu (h:i<l! L):eN (L++[e]) i=eN L i:=by
 unfold eN;rw[zM,zM,ax,ax,bj h]
def ajx (l:Y ET) (e:ET):eN (l++[e]) (l! l)=e:=by
 unfold eN;rw[zM,ax,bO (bV _),Ca];rfl
def Z7 (w:WT) (l:Y ET):SY×B!:=l.foldl (λs e=>((xy w s.1 e.1 e.2.1 e.2.2.1 e.2.2.2.1).1,ceP s.2.1 e,fuP s.2.2 e)) (Sq w,ce0 w,fu0 w)
def agz (w:WT) (h:i<l! L):Z7 w (L.take (i+1))=((xy w (Z7 w (L.take i)).1 (eN L i).1 (eN L i).2.1 (eN L i).2.2.1 (eN L i).2.2.2.1).1,ceP (Z7 w (L.take i)).2.1 (eN L i),fuP (Z7 w (L.take i)).2.2 (eN L i)):=by
 rw[pJ (T:=jF) h];unfold Z7;rw[eO];rfl
def Acw.all {z:SY} {A:η} (h:Acw k L z c A):Z7 k L=(z,c,A)/\∀i,i<l! L->SCx k (L.take i) (Z7 k (L.take i)).1 (Z7 k (L.take i)).2.1 (Z7 k (L.take i)).2.2 (eN L i):=by
 induction h with
 |nil=>exact⟨rfl,λi hi=>co hi (kU _)⟩
 |snoc h N l=>
  rename_i L z c A e;obtain⟨h1,h2⟩:=l;refine ⟨by unfold Z7 at h1 ⊢;rw[eO,h1];rfl,λi hi=>?_⟩;rw[bc,cj]at hi;rcases bx i (l! L) with g|g
  .rw[iU (by omega),anu g];exact h2 i g
  .have:i=l! L:=by omega
   subst this;rw[iU (bV _),cr,ajx,h1];exact N
def TR.sc (z:TR (k,L)) (h:i<l! L):SCx k (L.take i) (Z7 k (L.take i)).1 (Z7 k (L.take i)).2.1 (Z7 k (L.take i)).2.2 (eN L i):=by
 obtain⟨A,l,D,ac⟩:=z.ac;exact ac.all.2 i h
def Q8 (r:η):Prop:=JZ r/\∀z∈r,0<=z/\z<4
def P8 (s:Y k!):Prop:=∀x∈s,Q8 x.2
def P8.get {s:Y k!} (h:P8 s) (o:Int):Q8 (geti eA s o).2:=by
 unfold geti;rw[ax];cases e:s[o.toNat]? with
 |none=>exact⟨trivial,λz A=>by cases A⟩
 |some x=>exact h x (aX e)
def P8.set {s:Y k!} (h:P8 s) (o a:Int) (A:Q8 c):P8 (cN s o (a,c)):=λx z=>by
 rcases EO z with z|rfl
 .exact h x z
 .exact A
def Ek (p:Int->Bool):∀{l:η},JZ l->JZ (l.filter p)
 |[],_=>trivial
 |x::r,h=>by
  rw[List.filter_cons];split
  .exact⟨λy z=>h.1 y ((H0.1 z).1),Ek p h.2⟩
  .exact Ek p h.2
def P8.ite {c:Prop} [Decidable c] {a b:SY×Int} (A:P8 a.1.1) (z:P8 b.1.1):P8 (if c then a else b).1.1:=by by_cases h:c<;>simp[h,A,z]
def P8.ap {s:SY} (h:P8 s.1) (w o v:Int) (L:0<=a) (D:a<4):P8 (xy k s a w o v).1.1:=by
 have ow:∀t b,P8 (owP s.1 t b):=λt b=>h.set t b (h.get t)
 have un:P8 (rdP s.1 o (yW (geti eA s.1 o).2 [a])):=h.set _ _ ⟨SA _ _,λz A=>by
  rcases KA.1 A with A|A
  .exact (h.get o).2 z A
  .rw[aE]at A;subst A;exact⟨L,D⟩⟩
 have wt:P8 (rdP s.1 o (wo (geti eA s.1 o).2 a)):=h.set _ _ ⟨Ek _ (h.get o).1,λz A=>(h.get o).2 z (H0.1 A).1⟩;unfold xy;exact P8.ite h (P8.ite h (P8.ite (ow _ _) (P8.ite (ow _ _) (P8.ite un (P8.ite wt (P8.ite h (P8.ite h (P8.ite h (P8.ite h (P8.ite (ow _ _) (P8.ite (ow _ _) (P8.ite (P8.ite h h) (P8.ite h (P8.ite h (P8.ite h h)))))))))))))))
def iX (w:WT) (l:Y ET):SN:=l.foldl (nxP w) (sn8 w)
def O8 (w:WT) (h:i<l! L):iX w (L.take (i+1))=nxP w (iX w (L.take i)) (eN L i):=by
 rw[pJ (T:=jF) h];unfold iX;rw[eO];rfl
structure K8 (w:WT) (l:List ET) (i:Nat) (s:SN):Prop where
 a:(s.1,s.2.1,s.2.2.1)=Z7 w (l.take i)
 r:P8 s.1.1
 c:l! s.2.1=l! w.1
 f:l! s.2.2.1=l! w.2.2.2.1
 k:l! s.2.2.2=l! w.2.2.2.2.1
 n:CN (l.take i) s.2.2.2
def YX (A:TR (k,L)):∀i:Nat,i<=l! L->K8 k L i (iX k (L.take i))
 |0,_=>⟨rfl,λx l=>by rw[yR l];exact⟨trivial,λz D=>by cases D⟩,by simp[iX,ce0],by simp[iX,fu0],by simp[iX],λt t0 t1=>by
   have:(aF (l! k.2.2.2.2.1) (0:Int)).getD t.toNat 0=0:=by rw[ax,hP];split<;>rfl
   exact this⟩
 |i+1,h=>by
  obtain⟨a,r,c,f,w,n⟩:=YX A i (by omega);have sc:=A.sc (i:=i) (by omega);have N:=A.len;have ht:=A.wb.t;dsimp only at N ht;have en:=sc.en;have e1:=en.t1;have htk:=nu i L;rw[O8 k (by omega)];refine ⟨?_,r.ap _ _ _ en.t0 (by omega),?_,?_,?_,?_⟩
  .rw[agz k (by omega),<-a];rfl
  .unfold nxP ceP;dsimp only;split
   .rw[ca];exact c
   .exact c
  .unfold nxP fuP;dsimp only;split
   .rw[ca];exact f
   .exact f
  .unfold nxP;rw[ca];exact w
  .have:=n.next (eN L i) en.t0 (by rw[w];exact e1) (by omega);rw[pJ (T:=jF) (show i<l! L by omega)];exact this
def Qz (z:TR (k,L)) (hi:i<l! L):fX (k,iX k (L.take i),eN L i)=Z (iX k (L.take (i+1)),J):=by
 obtain⟨a,r,c,f,w,n⟩:=YX z i (by omega);have sc:=z.sc hi;have D:=z.wx;have ht:=z.wb.t;have hls:=z.ls _ (Mn hi);dsimp only at D ht hls;rw[O8 k hi];rw[<- a]at sc;generalize iX k (L.take i)=s at*
 generalize eN L i=e at*
 have en:=sc.en;have e1:=en.t1;have l3:l! k.2.1=3:=by rw[D.l];rfl
 have N:=n e.1 en.t0 (by rw[w];exact e1);have b1:=z.wb.c;have b4:=z.wb.f;have b3:=z.wb.d;dsimp only at b1 b4 b3;have q1:=en.e1;have q2:=en.e2;have q3:=en.e3;dsimp only at q1 q2 q3;refine as9 (n:=4) k s e ⟨⟨by omega,by omega,λx hx=>?_,by omega,by omega⟩,by omega,by omega,by omega⟩ (by omega) (by omega) ⟨c,f,w⟩ en ⟨sc.rd,sc.s1,sc.s2,sc.de,sc.fr,by rw[N];exact sc.nd,by rw[N];exact sc.nf,sc.va⟩ hls.1 hls.2 (λh=>?_) (by omega) r (by omega)
 .have:=Ks x.2 0 4 (r x hx).1 (r x hx).2;omega
 .have l:=en.nm.lk (by omega);have A:=en.nm.rw (by omega);generalize e.2.2.1=o at l A;rw[D.l]at l A;have:o=0\/o=1\/o=2:=by have:Jc.length=3:=rfl;omega
  rcases this with rfl|rfl|rfl
  .cases A
  .cases A
  .rfl
abbrev fN (l:Y ET) (i:Nat) (t:Int):θ:=fl (l.take i) t
def Rx (h:i<l! L) {t:Int} (e:(eN L i).1=t):fN L (i+1) t=fN L i t++[uM (eN L i)]:=by
 unfold fN;rw[pJ (T:=jF) h,vW,Bv e]
def Ry (h:i<l! L) {t:Int} (e:¬(eN L i).1=t):fN L (i+1) t=fN L i t:=by
 unfold fN;rw[pJ (T:=jF) h,vW,yo e,mZ]
def J9 (z:TR (k,L)) (hi:i<l! L) {t:Int} (e:(eN L i).1=t):cC (fN L i t,eN L i)=Z J:=by
 have sc:=z.sc hi;have hls:=z.ls _ (Mn hi);subst e;exact ac1 _ _ sc.rd1 sc.rd2 hls.1 hls.2
def Rz (l:Y ET) (i:Nat) (t:Int):l! (fN l i t)<=l! l:=c8 (UD _ _) (List.length_take_le' ..)
def ahq (z:TR (k,L)) (D:l! k.2.2.2.2.1=4):eK (k,L)=Z (0,0):=by
 have l:=z.len;dsimp only at l;refine cI ?_;unfold eK kE a8 bt bI cA dO iC b_ fD pV wG bq bS bT bX bf c5 aH cW;refine fZ (gd.2 (by dsimp only[al];omega)) (aV (VW8 z.wx z.vl) (gB (aV (El z.wx) (bh (by show (dg 0 (aP (l! k.2.2.2.2.1))&&dg (aP (l! k.2.2.2.2.1)) (aP (l! k.2.2.2.2.1))&&be (aQ (aP (l! k.2.2.2.2.1))) 24&&decide ((aP (l! k.2.2.2.2.1):Int)=4))=J;rw[D];rfl) ?_))));refine g9 (l! L) (by omega) (λi x=>x=((i:Int),(k,L),iX k (L.take i),fN L i 0,fN L i 1,fN L i 2,fN L i 3)) ?_ ?_ rfl
 .rintro i x hi rfl;have e1:=(z.sc hi).en.t1;have e0:=(z.sc hi).en.t0;have st:=Qz z hi;have A:=λt=>Rz L i t
  have rd:=λt=>J9 z hi (t:=t)
  have own:=λt=>Rx hi (t:=t)
  have oth:=λt=>Ry hi (t:=t)
  refine dy ?_;refine cY (aS ?_);have ht:(eN L i).1=0\/(eN L i).1=1\/(eN L i).1=2\/(eN L i).1=3:=by omega
  have N:geti jF L (i:Int)=eN L i:=rfl;dsimp only;rw[N];generalize eN L i=e at*
  refine aV st ?_;obtain⟨(t:Int),e⟩:=e;dsimp only at ht;rcases ht with rfl|rfl|rfl|rfl
  .refine aY (λx=>x=(aa,(k,L),iX k (L.take i),(0,e),iX k (L.take (i+1)),fN L i 0,fN L i 1,fN L i 2,fN L i 3)) ?_ ?_
   .simp only[bz,bB,uz];exact aV (rd 0 rfl) (aj rfl)
   rintro x rfl;refine gB (aY (λx=>x=((k,L),iX k (L.take i),iX k (L.take (i+1)),fN L (i+1) 0,fN L (i+1) 1,fN L (i+1) 2,fN L (i+1) 3)) ?_ ?_)
   .simp only[bz,bB,uz];rw[own 0 rfl,oth 1 (by show ¬(0:Int)=1;decide),oth 2 (by show ¬(0:Int)=2;decide),oth 3 (by show ¬(0:Int)=3;decide)];have:=A 0;refine aJ (λh=>a! (aj ?_)) λh=>a! (aj ?_)
    .have:uM (0,e)=J:=by unfold uM;rw[aR h];rfl
     rw[this]
    .have:uM (0,e)=decide (e.1=23):=by unfold uM;rw[cD h];rfl
     rw[this]
   rintro x rfl;exact aj (by rw[gM])
  .refine aY (λx=>x=(aa,(k,L),iX k (L.take i),(1,e),iX k (L.take (i+1)),fN L i 0,fN L i 1,fN L i 2,fN L i 3)) ?_ ?_
   .simp only[bz,bB,uz];exact aV (rd 1 rfl) (aj rfl)
   rintro x rfl;refine gB (aY (λx=>x=((k,L),iX k (L.take i),iX k (L.take (i+1)),fN L (i+1) 0,fN L (i+1) 1,fN L (i+1) 2,fN L (i+1) 3)) ?_ ?_)
   .simp only[bz,bB,uz];rw[own 1 rfl,oth 0 (by show ¬(1:Int)=0;decide),oth 2 (by show ¬(1:Int)=2;decide),oth 3 (by show ¬(1:Int)=3;decide)];have:=A 1;refine aJ (λh=>a! (aj ?_)) λh=>a! (aj ?_)
    .have:uM (1,e)=J:=by unfold uM;rw[aR h];rfl
     rw[this]
    .have:uM (1,e)=decide (e.1=23):=by unfold uM;rw[cD h];rfl
     rw[this]
   rintro x rfl;exact aj (by rw[gM])
  .refine aY (λx=>x=(aa,(k,L),iX k (L.take i),(2,e),iX k (L.take (i+1)),fN L i 0,fN L i 1,fN L i 2,fN L i 3)) ?_ ?_
   .simp only[bz,bB,uz];exact aV (rd 2 rfl) (aj rfl)
   rintro x rfl;refine gB (aY (λx=>x=((k,L),iX k (L.take i),iX k (L.take (i+1)),fN L (i+1) 0,fN L (i+1) 1,fN L (i+1) 2,fN L (i+1) 3)) ?_ ?_)
   .simp only[bz,bB,uz];rw[own 2 rfl,oth 0 (by show ¬(2:Int)=0;decide),oth 1 (by show ¬(2:Int)=1;decide),oth 3 (by show ¬(2:Int)=3;decide)];have:=A 2;refine aJ (λh=>a! (aj ?_)) λh=>a! (aj ?_)
    .have:uM (2,e)=J:=by unfold uM;rw[aR h];rfl
     rw[this]
    .have:uM (2,e)=decide (e.1=23):=by unfold uM;rw[cD h];rfl
     rw[this]
   rintro x rfl;exact aj (by rw[gM])
  .refine aY (λx=>x=(aa,(k,L),iX k (L.take i),(3,e),iX k (L.take (i+1)),fN L i 0,fN L i 1,fN L i 2,fN L i 3)) ?_ ?_
   .simp only[bz,bB,uz];exact aV (rd 3 rfl) (aj rfl)
   rintro x rfl;refine gB (aY (λx=>x=((k,L),iX k (L.take i),iX k (L.take (i+1)),fN L (i+1) 0,fN L (i+1) 1,fN L (i+1) 2,fN L (i+1) 3)) ?_ ?_)
   .simp only[bz,bB,uz];rw[own 3 rfl,oth 0 (by show ¬(3:Int)=0;decide),oth 1 (by show ¬(3:Int)=1;decide),oth 2 (by show ¬(3:Int)=2;decide)];have:=A 3;refine aJ (λh=>a! (aj ?_)) λh=>a! (aj ?_)
    .have:uM (3,e)=J:=by unfold uM;rw[aR h];rfl
     rw[this]
    .have:uM (3,e)=decide (e.1=23):=by unfold uM;rw[cD h];rfl
     rw[this]
   rintro x rfl;exact aj (by rw[gM])
 .rintro x rfl;exact du (aj rfl)
def HX (z:TR (k,L)) (D:¬l! k.2.2.2.2.1=4):eK (k,L)=U:=by
 have A:=z.len;dsimp only at A;unfold eK kE a8 bt bI cA dO iC b_ fD pV wG bq bS bT bX bf c5 aH cW;rw[show fQ 400 (aP (ah (k,L).2))=aa from gd.2 (by dsimp only[al];omega)];simp only[bz,bB,uz];rw[VW8 z.wx z.vl];simp only[bz,bB,uz];rw[El z.wx];simp only[bz,bB,uz];rw[show decide ((aP (l! k.2.2.2.2.1):Int)=4)=aa from cD (by dsimp only[al];omega),Bool.and_false];rfl
def ahr (z:TR (k,L)) (D:l! k.2.2.2.2.1=3):dW (k,L)=Z (0,0):=by
 have l:=z.len;dsimp only at l;refine cI ?_;unfold dW kF a8 bt bI cA dO b_ dj fD pV bq bS bT bX bf c5 aH cW;refine fZ (gd.2 (by dsimp only[al];omega)) (aV (VW8 z.wx z.vl) (gB (aV (El z.wx) (bh (by show (dg 0 (aP (l! k.2.2.2.2.1))&&dg (aP (l! k.2.2.2.2.1)) (aP (l! k.2.2.2.2.1))&&be (aQ (aP (l! k.2.2.2.2.1))) 24&&decide ((aP (l! k.2.2.2.2.1):Int)=3))=J;rw[D];rfl) ?_))));refine g9 (l! L) (by omega) (λi x=>x=((i:Int),(k,L),iX k (L.take i),fN L i 0,fN L i 1,fN L i 2)) ?_ ?_ rfl
 .rintro i x hi rfl;have e1:=(z.sc hi).en.t1;have e0:=(z.sc hi).en.t0;have st:=Qz z hi;have A:=λt=>Rz L i t
  have rd:=λt=>J9 z hi (t:=t)
  have own:=λt=>Rx hi (t:=t)
  have oth:=λt=>Ry hi (t:=t)
  refine dy ?_;refine cY (aS ?_);have ht:(eN L i).1=0\/(eN L i).1=1\/(eN L i).1=2:=by omega
  have N:geti jF L (i:Int)=eN L i:=rfl;dsimp only;rw[N];generalize eN L i=e at*
  refine aV st ?_;obtain⟨(t:Int),e⟩:=e;dsimp only at ht;rcases ht with rfl|rfl|rfl
  .refine aY (λx=>x=(aa,(k,L),iX k (L.take i),(0,e),iX k (L.take (i+1)),fN L i 0,fN L i 1,fN L i 2)) ?_ ?_
   .simp only[bz,bB,uz];exact aV (rd 0 rfl) (aj rfl)
   rintro x rfl;refine gB (aY (λx=>x=((k,L),iX k (L.take i),iX k (L.take (i+1)),fN L (i+1) 0,fN L (i+1) 1,fN L (i+1) 2)) ?_ ?_)
   .simp only[bz,bB,uz];rw[own 0 rfl,oth 1 (by show ¬(0:Int)=1;decide),oth 2 (by show ¬(0:Int)=2;decide)];have:=A 0;refine aJ (λh=>a! (aj ?_)) λh=>a! (aj ?_)
    .have:uM (0,e)=J:=by unfold uM;rw[aR h];rfl
     rw[this]
    .have:uM (0,e)=decide (e.1=23):=by unfold uM;rw[cD h];rfl
     rw[this]
   rintro x rfl;exact aj (by rw[gM])
  .refine aY (λx=>x=(aa,(k,L),iX k (L.take i),(1,e),iX k (L.take (i+1)),fN L i 0,fN L i 1,fN L i 2)) ?_ ?_
   .simp only[bz,bB,uz];exact aV (rd 1 rfl) (aj rfl)
   rintro x rfl;refine gB (aY (λx=>x=((k,L),iX k (L.take i),iX k (L.take (i+1)),fN L (i+1) 0,fN L (i+1) 1,fN L (i+1) 2)) ?_ ?_)
   .simp only[bz,bB,uz];rw[own 1 rfl,oth 0 (by show ¬(1:Int)=0;decide),oth 2 (by show ¬(1:Int)=2;decide)];have:=A 1;refine aJ (λh=>a! (aj ?_)) λh=>a! (aj ?_)
    .have:uM (1,e)=J:=by unfold uM;rw[aR h];rfl
     rw[this]
    .have:uM (1,e)=decide (e.1=23):=by unfold uM;rw[cD h];rfl
     rw[this]
   rintro x rfl;exact aj (by rw[gM])
  .refine aY (λx=>x=(aa,(k,L),iX k (L.take i),(2,e),iX k (L.take (i+1)),fN L i 0,fN L i 1,fN L i 2)) ?_ ?_
   .simp only[bz,bB,uz];exact aV (rd 2 rfl) (aj rfl)
   rintro x rfl;refine gB (aY (λx=>x=((k,L),iX k (L.take i),iX k (L.take (i+1)),fN L (i+1) 0,fN L (i+1) 1,fN L (i+1) 2)) ?_ ?_)
   .simp only[bz,bB,uz];rw[own 2 rfl,oth 0 (by show ¬(2:Int)=0;decide),oth 1 (by show ¬(2:Int)=1;decide)];have:=A 2;refine aJ (λh=>a! (aj ?_)) λh=>a! (aj ?_)
    .have:uM (2,e)=J:=by unfold uM;rw[aR h];rfl
     rw[this]
    .have:uM (2,e)=decide (e.1=23):=by unfold uM;rw[cD h];rfl
     rw[this]
   rintro x rfl;exact aj (by rw[gM])
 .rintro x rfl;exact du (aj rfl)
def Ql (z:TR (k,L)) (D:¬l! k.2.2.2.2.1=3):dW (k,L)=U:=by
 have A:=z.len;dsimp only at A;unfold dW kF a8 bt bI cA dO b_ dj fD pV bq bS bT bX bf c5 aH cW;rw[show fQ 400 (aP (ah (k,L).2))=aa from gd.2 (by dsimp only[al];omega)];simp only[bz,bB,uz];rw[VW8 z.wx z.vl];simp only[bz,bB,uz];rw[El z.wx];simp only[bz,bB,uz];rw[show decide ((aP (l! k.2.2.2.2.1):Int)=3)=aa from cD (by dsimp only[al];omega),Bool.and_false];rfl
def ahs (z:TR (k,L)) (D:l! k.2.2.2.2.1=2):dD (k,L)=Z (0,0):=by
 have l:=z.len;dsimp only at l;refine cI ?_;unfold dD kG a8 bt bI cA b_ dJ fD bq bS bT bX bf c5 aH cW;refine fZ (gd.2 (by dsimp only[al];omega)) (aV (VW8 z.wx z.vl) (gB (aV (El z.wx) (bh (by show (dg 0 (aP (l! k.2.2.2.2.1))&&dg (aP (l! k.2.2.2.2.1)) (aP (l! k.2.2.2.2.1))&&be (aQ (aP (l! k.2.2.2.2.1))) 24&&decide ((aP (l! k.2.2.2.2.1):Int)=2))=J;rw[D];rfl) ?_))));refine g9 (l! L) (by omega) (λi x=>x=((i:Int),(k,L),iX k (L.take i),fN L i 0,fN L i 1)) ?_ ?_ rfl
 .rintro i x hi rfl;have e1:=(z.sc hi).en.t1;have e0:=(z.sc hi).en.t0;have st:=Qz z hi;have A:=λt=>Rz L i t
  have rd:=λt=>J9 z hi (t:=t)
  have own:=λt=>Rx hi (t:=t)
  have oth:=λt=>Ry hi (t:=t)
  refine dy ?_;refine cY (aS ?_);have ht:(eN L i).1=0\/(eN L i).1=1:=by omega
  have N:geti jF L (i:Int)=eN L i:=rfl;dsimp only;rw[N];generalize eN L i=e at*
  refine aV st ?_;obtain⟨(t:Int),e⟩:=e;dsimp only at ht;rcases ht with rfl|rfl
  .refine aY (λx=>x=(aa,(k,L),iX k (L.take i),(0,e),iX k (L.take (i+1)),fN L i 0,fN L i 1)) ?_ ?_
   .simp only[bz,bB,uz];exact aV (rd 0 rfl) (aj rfl)
   rintro x rfl;refine gB (aY (λx=>x=((k,L),iX k (L.take i),iX k (L.take (i+1)),fN L (i+1) 0,fN L (i+1) 1)) ?_ ?_)
   .simp only[bz,bB,uz];rw[own 0 rfl,oth 1 (by show ¬(0:Int)=1;decide)];have:=A 0;refine aJ (λh=>a! (aj ?_)) λh=>a! (aj ?_)
    .have:uM (0,e)=J:=by unfold uM;rw[aR h];rfl
     rw[this]
    .have:uM (0,e)=decide (e.1=23):=by unfold uM;rw[cD h];rfl
     rw[this]
   rintro x rfl;exact aj (by rw[gM])
  .refine aY (λx=>x=(aa,(k,L),iX k (L.take i),(1,e),iX k (L.take (i+1)),fN L i 0,fN L i 1)) ?_ ?_
   .simp only[bz,bB,uz];exact aV (rd 1 rfl) (aj rfl)
   rintro x rfl;refine gB (aY (λx=>x=((k,L),iX k (L.take i),iX k (L.take (i+1)),fN L (i+1) 0,fN L (i+1) 1)) ?_ ?_)
   .simp only[bz,bB,uz];rw[own 1 rfl,oth 0 (by show ¬(1:Int)=0;decide)];have:=A 1;refine aJ (λh=>a! (aj ?_)) λh=>a! (aj ?_)
    .have:uM (1,e)=J:=by unfold uM;rw[aR h];rfl
     rw[this]
    .have:uM (1,e)=decide (e.1=23):=by unfold uM;rw[cD h];rfl
     rw[this]
   rintro x rfl;exact aj (by rw[gM])
 .rintro x rfl;exact du (aj rfl)
def ad7 (z:TR (k,L)) (D:¬l! k.2.2.2.2.1=2):dD (k,L)=U:=by
 have A:=z.len;dsimp only at A;unfold dD kG a8 bt bI cA b_ dJ fD bq bS bT bX bf c5 aH cW;rw[show fQ 400 (aP (ah (k,L).2))=aa from gd.2 (by dsimp only[al];omega)];simp only[bz,bB,uz];rw[VW8 z.wx z.vl];simp only[bz,bB,uz];rw[El z.wx];simp only[bz,bB,uz];rw[show decide ((aP (l! k.2.2.2.2.1):Int)=2)=aa from cD (by dsimp only[al];omega),Bool.and_false];rfl
def aht (z:TR (k,L)) (A:l! k.2.2.2.2.1=1):eL (k,L)=Z (0,0):=by
 have D:=z.len;dsimp only at D;refine cI ?_;unfold eL mT a8 bt bI b_ dj bq bS bT bX bf c5 aH cW;refine fZ (gd.2 (by dsimp only[al];omega)) (aV (VW8 z.wx z.vl) (gB (aV (El z.wx) (bh (by show (dg 0 (aP (l! k.2.2.2.2.1))&&dg (aP (l! k.2.2.2.2.1)) (aP (l! k.2.2.2.2.1))&&be (aQ (aP (l! k.2.2.2.2.1))) 24&&decide ((aP (l! k.2.2.2.2.1):Int)=1))=J;rw[A];rfl) ?_))));refine g9 (l! L) (by omega) (λi x=>x=((i:Int),(k,L),iX k (L.take i),fN L i 0)) ?_ ?_ rfl
 .rintro i x hi rfl;have e1:=(z.sc hi).en.t1;have e0:=(z.sc hi).en.t0;have st:=Qz z hi;have N:=λt=>Rz L i t
  have rd:=λt=>J9 z hi (t:=t)
  have own:=λt=>Rx hi (t:=t)
  have oth:=λt=>Ry hi (t:=t)
  refine dy ?_;refine cY (aS ?_);have ht:(eN L i).1=0:=by omega
  have l:geti jF L (i:Int)=eN L i:=rfl;dsimp only;rw[l];generalize eN L i=e at*
  refine aV st ?_;obtain⟨(t:Int),e⟩:=e;dsimp only at ht;subst ht
  .refine aY (λx=>x=(aa,(k,L),iX k (L.take i),(0,e),iX k (L.take (i+1)),fN L i 0)) ?_ ?_
   .simp only[bz,bB,uz];exact aV (rd 0 rfl) (aj rfl)
   rintro x rfl;refine gB (aY (λx=>x=((k,L),iX k (L.take i),iX k (L.take (i+1)),fN L (i+1) 0)) ?_ ?_)
   .simp only[bz,bB,uz];rw[own 0 rfl];have:=N 0;refine aJ (λh=>a! (aj ?_)) λh=>a! (aj ?_)
    .have:uM (0,e)=J:=by unfold uM;rw[aR h];rfl
     rw[this]
    .have:uM (0,e)=decide (e.1=23):=by unfold uM;rw[cD h];rfl
     rw[this]
   rintro x rfl;exact aj (by rw[gM])
 .rintro x rfl;exact du (aj rfl)
def aq4 (z:TR (k,L)):lm (k,L)=Z (0,0):=by
 have h1:=z.vl.t0;have A:=z.vl.t;dsimp only at h1 A;unfold lm;have:l! k.2.2.2.2.1=4\/l! k.2.2.2.2.1=3\/l! k.2.2.2.2.1=2\/l! k.2.2.2.2.1=1:=by omega
 rcases this with h|h|h|h
 .rw[ahq z h];rfl
 .rw[HX z (by omega),ahr z h];rfl
 .rw[HX z (by omega),Ql z (by omega),ahs z h];rfl
 .rw[HX z (by omega),Ql z (by omega),ad7 z (by omega),aht z h];rfl
abbrev lS:Ty:=(.pr aM (.pr aM ala))
abbrev Ke2:Ty:=(.st (.pr Gs (.pr Gs Gs)))
abbrev Aa:=((Int×Int×Int×Int×Bool)×(Y (Int×Bool))×Y (Int×Bool))
abbrev AO:=(Y e!)
abbrev xA:=(Y ν)
abbrev b!:=(eM×Y gx)×(Y η)×xA×(η)×(η)×(η)×(η)×(η)×(η)×AO×(η)×(Y Aa)×(Y η)×Y η
abbrev Ye4:=b!
abbrev d!:=(eM×Y gx)×(Y η)×xA×(η)×(η)×(η)×(η)×(η)×(η)×AO×(η)×(Y Aa)×(Y η)×(Y η)×(η)×Bool
abbrev Ye5:=d!
abbrev c!:=(eM×Y gx)×(Y η)×xA×(η)×(η)×(η)×(η)×(η)×(η)×AO×(η)×(Y Aa)×(Y η)×(Y η)×gx×η
abbrev Ye6:=c!
abbrev Ye7:=(Int×c?)
abbrev Ye8:=((eM×Y gx)×(η)×(η)×(η)×(η)×(η)×(η)×AO×(Y η)×xA×(η)×(Y Aa)×(Y η)×Y η)
abbrev W!:=Int×c!
abbrev Ye9:=W!
def zK (it:B7) (x:Int):M η:=
 (bT (dg 0 x&&dg x x&&be (aQ x) 8) (it k! _ (λz=>(bS z.1 (aP (ah (aF (aQ x) (0:Int)))) (ck (fA z.1 (ah z.2)) (c5 ((cW z.1),(cN z.2 z.1 (-1))))) (aH z.2))) (0,(aF (aQ x) (0:Int)))))
def DR (x:Int):M η:=zK @iter x
def lJ (x:Int):M η:=zK @gT x
def mN (x:c?):M (Bool):=
 (jn (bq x.2.1 3 (aH J) (aH (decide ((x.2.1:Int)=4)))) λz=>(Z z))
def mc (x:eM×c?):M (Int):=
 (jn (bq x.a 6 (aH ((decide ((x.a:Int)=6)),x)) (bq x.a 8 (aH ((decide ((x.a:Int)=8)),x)) (aH ((decide ((x.a:Int)=10)),x)))) λz=>(aI z.1 (Z z.c) (bq x.a 17 (bX nX z.2.1.a z.c λA=>(Z A.2)) (bq x.a 12 (Z (bf z.2.1.2.1)) (Z (-1))))))
def mb (x:eM×c?):M (Int):=
 (jn (bq x.a 7 (aH ((decide ((x.a:Int)=7)),x)) (bq x.a 9 (aH ((decide ((x.a:Int)=9)),x)) (aH ((decide ((x.a:Int)=11)),x)))) λz=>(aI z.1 (Z z.c) (bq x.a 16 (bX nX z.2.1.a z.c λA=>(Z A.2)) (bq x.a 13 (Z (bf z.2.1.2.1)) (Z (-1))))))
def ja (x:gx×b!):M (η×b!):=
 (ko aM x.c x.1.1 λA=>(jn (α:=(eM×Y gx)×(Y η)×xA×(η)×(η)×(η)×(η)×(η)×(η)×AO×(η)×(Y Aa)×(Y η)×(Y η)×η) (bq x.1.2.1 1 (ko aM x.e x.1.1 λN=>(bT (be (ah ([A])+ah ([N])) 8) (aH (x.2.1,x.a,x.b,x.c,x.e,x.f,x.j,x.m,x.o,x.l,x.n,x.i,x.q,x.r,(([A])++([N])))))) (bq x.1.2.1 21 (ko aM x.c x.1.a λL=>(bT (be (ah ([A])+ah ([L])) 8) (aH (x.2.1,x.a,x.b,x.c,x.e,x.f,x.j,x.m,x.o,x.l,x.n,x.i,x.q,x.r,(([A])++([L])))))) (bq x.1.2.1 23 (ck (fA x.1.a (ah x.o)) (pu x.1.a x.r (bT (aA (aQ (uk x.o x.1.a)) (ah (xK (T:=aM) x.r x.1.a))) (bT (be (ah ([A])+ah (xK (T:=aM) x.r x.1.a)) 8) (aH (x.2.1,x.a,x.b,x.c,x.e,x.f,x.j,x.m,x.o,x.l,x.n,x.i,x.q,x.r,(([A])++(xK (T:=aM) x.r x.1.a)))))))) (bq x.1.2.1 3 (bX mA x.2.1.1.1 x.1.a λz5=>(aI z5.2.2.2.1 (ck (fA x.1.a (ah x.m)) (pu x.1.a x.q (bT (aA (aQ (uk x.m x.1.a)) (ah (xK (T:=aM) x.q x.1.a))) (bT (be (ah ([A])+ah (xK (T:=aM) x.q x.1.a)) 8) (aH (x.2.1,x.a,x.b,x.c,x.e,x.f,x.j,x.m,x.o,x.l,x.n,x.i,x.q,x.r,(([A])++(xK (T:=aM) x.q x.1.a)))))))) (aH (x.2.1,x.a,x.b,x.c,x.e,x.f,x.j,x.m,x.o,x.l,x.n,x.i,x.q,x.r,[A])))) (bq x.1.2.1 17 (ko aM x.f x.1.1 λD=>(bT (be (ah ([A])+ah ([D])) 8) (aH (x.2.1,x.a,x.b,x.c,x.e,x.f,x.j,x.m,x.o,x.l,x.n,x.i,x.q,x.r,(([A])++([D])))))) (aH (x.2.1,x.a,x.b,x.c,x.e,x.f,x.j,x.m,x.o,x.l,x.n,x.i,x.q,x.r,[A]))))))) λz=>(Z (z.r,z.1,z.2.1,z.a,z.b,z.c,z.e,z.f,z.j,z.m,z.o,z.l,z.n,z.i,z.q))))
def jT (x:Ye7×Y Aa):M (Y Aa):=
 (bq x.1.a 4 (ck (fA x.1.1 (ah x.2)) (Z (qQ (S:=lS) x.2 x.1.1 (vy (S:=lS) 1 (dU lS x.2 x.1.1) (zB (K:=aM) (V:=.bool) x.1.b J (sA (S:=lS) 1 (dU lS x.2 x.1.1))))))) (ck (fA x.1.1 (ah x.2)) (Z (qQ (S:=lS) x.2 x.1.1 (vy (S:=lS) 0 (dU lS x.2 x.1.1) (zB (K:=aM) (V:=.bool) x.1.b J (sA (S:=lS) 0 (dU lS x.2 x.1.1))))))))
abbrev u!:=(eM×Y gx)×(Y η)×xA×(η)×(η)×(η)×(η)×(η)×(η)×AO×(η)×(Y Aa)×(Y η)×(Y η)×c?
abbrev M!:=Ye7×b!
def mU (it:B7) (x:M!):M Ye4:=
 (ck (fA x.1.2.1 (ah x.c)) (jn (α:=b!) (bq x.1.a 20 (ck (fA x.1.b (ah x.e)) (aH (x.2.1,x.a,x.b,(cN x.c x.1.2.1 x.1.1),(cN x.e x.1.b x.1.1),x.k))) (bq x.1.a 22 (ck (fA x.1.b (ah x.o)) (pu x.1.b x.r (bT (aA (aQ (uk x.o x.1.b)) (ah (xK (T:=aM) x.r x.1.b))&&be ((aQ (uk x.o x.1.b))+ah ([x.1.1]:η)) 8) (ck (fA x.1.b (ah x.o)) (aH (x.2.1,x.a,x.b,(cN x.c x.1.2.1 x.1.1),x.e,x.f,x.j,x.m,(wj x.o (aQ x.1.b) (aP (ah ((xK (T:=aM) x.r x.1.b)++([x.1.1]))))),x.l,x.n,x.i,x.q,(DG (T:=aM) (DG (T:=aM) x.r x.1.b []) x.1.b ((xK (T:=aM) x.r x.1.b)++([x.1.1]))))))))) (bq x.1.a 4 (ck (fA x.1.b (ah x.m)) (pu x.1.b x.q (bT (aA (aQ (uk x.m x.1.b)) (ah (xK (T:=aM) x.q x.1.b))&&be ((aQ (uk x.m x.1.b))+ah ([x.1.1]:η)) 8) (ck (fA x.1.b (ah x.m)) (aH (x.2.1,x.a,x.b,(cN x.c x.1.2.1 x.1.1),x.e,x.f,x.j,(wj x.m (aQ x.1.b) (aP (ah ((xK (T:=aM) x.q x.1.b)++([x.1.1]))))),x.o,x.l,x.n,x.i,(DG (T:=aM) (DG (T:=aM) x.q x.1.b []) x.1.b ((xK (T:=aM) x.q x.1.b)++([x.1.1]))),x.r)))))) (bq x.1.a 16 (ck (fA x.1.2.1 (ah x.j)) (aH (x.2.1,x.a,x.b,(cN x.c x.1.2.1 x.1.1),x.e,x.f,(cN x.j x.1.2.1 x.1.b),x.s))) (bq x.1.a 18 (kq 0 x.1.c (ck (fA x.1.c (ah x.f)) (ck (fA x.1.c (ah x.j)) (aH (x.2.1,x.a,x.b,(cN x.c x.1.2.1 x.1.1),x.e,(cN x.f x.1.c x.1.1),(cN x.j x.1.c (-1)),x.s)))) (aH (x.2.1,x.a,x.b,(cN x.c x.1.2.1 x.1.1),x.h))) (bq x.1.a 19 (it (Int×u!) _ (λz=>(bS z.1 (bf x.j) (jn (α:=u!) (ko aM z.j z.1 λA=>(bq A z.D (ck (fA z.1 (ah z.f)) (ck (fA z.1 (ah z.j)) (aH (z.2.1,z.a,z.b,z.c,z.e,(cN z.f z.1 x.1.1),(cN z.j z.1 (-1)),z.s)))) (aH z.2))) λD=>(c5 ((cW z.1),D))) (aH (cv (z.2.1,z.a,z.b,z.c,z.e,z.f,z.j,z.m,z.o,z.l,z.n,z.i,z.q,z.t))))) (0,x.2.1,x.a,x.b,(cN x.c x.1.2.1 x.1.1),x.e,x.f,x.j,x.m,x.o,x.l,x.n,x.i,x.q,x.r,x.1.2)) (aH (x.2.1,x.a,x.b,(cN x.c x.1.2.1 x.1.1),x.h)))))))) λL=>(Z L)))
def qF (x:M!):M Ye4:=mU @iter x
def gK (x:M!):M Ye4:=mU @gT x
def iH (x:M!):M ((eM×Y gx)×(Y η)×xA×(η)×(η)×(η)×(η)×(η)×(η)×AO×(Y η)×(Y η)×(η)×Y Aa):=
 (ay (mb (x.2.1.1,x.1.2)) λz=>(aI (uf (x.1.2.1,z) x.l) (pu (fm (x.1.2.1,z) x.l) x.i (bT (be (ah x.n+1) 8) (ay (mc (x.2.1.1,x.1.2)) λD=>(kq 0 D (Z (x.2.1,x.a,x.b,x.c,x.e,x.f,x.j,x.m,x.o,(xV (x.1.2.1,D) (aP (ah (qQ (S:=lS) x.i (fm (x.1.2.1,z) x.l) ((((dU lS x.i (fm (x.1.2.1,z) x.l)).1).1,(((dU lS x.i (fm (x.1.2.1,z) x.l)).1).2).1,((((dU lS x.i (fm (x.1.2.1,z) x.l)).1).2).2).1,x.1.1,(((((dU lS x.i (fm (x.1.2.1,z) x.l)).1).2).2).2).2),(dU lS x.i (fm (x.1.2.1,z) x.l)).2)))) (KK (ah (qQ (S:=lS) x.i (fm (x.1.2.1,z) x.l) ((((dU lS x.i (fm (x.1.2.1,z) x.l)).1).1,(((dU lS x.i (fm (x.1.2.1,z) x.l)).1).2).1,((((dU lS x.i (fm (x.1.2.1,z) x.l)).1).2).2).1,x.1.1,(((((dU lS x.i (fm (x.1.2.1,z) x.l)).1).2).2).2).2),(dU lS x.i (fm (x.1.2.1,z) x.l)).2))) (Bb (x.1.2.1,z) x.l))),x.q,x.r,(fP (shf (ah (qQ (S:=lS) x.i (fm (x.1.2.1,z) x.l) ((((dU lS x.i (fm (x.1.2.1,z) x.l)).1).1,(((dU lS x.i (fm (x.1.2.1,z) x.l)).1).2).1,((((dU lS x.i (fm (x.1.2.1,z) x.l)).1).2).2).1,x.1.1,(((((dU lS x.i (fm (x.1.2.1,z) x.l)).1).2).2).2).2),(dU lS x.i (fm (x.1.2.1,z) x.l)).2)))) (sE x.n [(fm (x.1.2.1,z) x.l)])),(sE (qQ (S:=lS) x.i (fm (x.1.2.1,z) x.l) ((((dU lS x.i (fm (x.1.2.1,z) x.l)).1).1,(((dU lS x.i (fm (x.1.2.1,z) x.l)).1).2).1,((((dU lS x.i (fm (x.1.2.1,z) x.l)).1).2).2).1,x.1.1,(((((dU lS x.i (fm (x.1.2.1,z) x.l)).1).2).2).2).2),(dU lS x.i (fm (x.1.2.1,z) x.l)).2)) [((x.1.2.1,D,x.1.1,(-1),(decide ((x.1.a:Int)=8))),[],[])]))) (Z (x.2.1,x.a,x.b,x.c,x.e,x.f,x.j,x.m,x.o,(Bb (x.1.2.1,z) x.l),x.q,x.r,(sE x.n [(fm (x.1.2.1,z) x.l)]),(qQ (S:=lS) x.i (fm (x.1.2.1,z) x.l) ((((dU lS x.i (fm (x.1.2.1,z) x.l)).1).1,(((dU lS x.i (fm (x.1.2.1,z) x.l)).1).2).1,((((dU lS x.i (fm (x.1.2.1,z) x.l)).1).2).2).1,x.1.1,(((((dU lS x.i (fm (x.1.2.1,z) x.l)).1).2).2).2).2),(dU lS x.i (fm (x.1.2.1,z) x.l)).2)))))))) (ay (mc (x.2.1.1,x.1.2)) λA=>(kq 0 A (Z (x.2.1,x.a,x.b,x.c,x.e,x.f,x.j,x.m,x.o,(xV (x.1.2.1,A) (bf x.i) (KK (ah x.i) x.l)),x.q,x.r,(fP (shf (ah x.i)) x.n),(sE x.i [((x.1.2.1,A,x.1.1,(-1),(decide ((x.1.a:Int)=8))),[],[])]))) (Z (x.2.1,x.a,x.b,x.c,x.e,x.f,x.j,x.m,x.o,x.l,x.q,x.r,x.n,x.i))))))
def jV (x:W!):M Ye6:=
 (jn (ck (fA x.1 (ah x.i)) (aI (Ai (K:=aM) (V:=.bool) x.u.a (sA (S:=lS) 1 (dU lS x.i x.1)) aa) (aH ((x.1,J),x.2)) (bq x.u.2.1 4 (ck (fA x.1 (ah x.i)) (aH ((x.1,(Ai (K:=aM) (V:=.bool) x.u.a (sA (S:=lS) 0 (dU lS x.i x.1)) aa)),x.2))) (aH ((x.1,aa),x.2))))) λz=>(aI z.1.2 (pu z.1.1 z.i (lt ((((((dU lS z.i z.1.1).1).2).2).2).1) λD=>(ko (.sl aM) z.a D λA=>(ay (lB (z.E,A)) λL=>(Z (z.2.1,z.a,z.b,z.c,z.e,z.f,z.j,z.m,z.o,z.l,z.n,z.i,z.q,z.t,z.u,L)))))) (Z z.2)))
def jU (x:Int×d!):M Ye5:=
 (jn (pu x.1 x.i (lt (((((dU lS x.i x.1).1).2).2).1) λz2=>(ko fO x.b z2 λz3=>(ay (kh (x.u,z3)) λy4=>(aI y4 (pu x.1 x.i (lt ((((((dU lS x.i x.1).1).2).2).2).1) λz5=>(ko fO x.b z5 λN=>(ay (kh (x.u,N)) λy7=>(aH ((x.1,(!y7)),x.2)))))) (aH ((x.1,aa),x.2))))))) λz=>(aI z.1.2 (pu z.1.1 z.i (lt ((((((dU lS z.i z.1.1).1).2).2).2).1) λL=>(ko (.sl aM) z.a L λD=>(ay (lB (z.u,D)) λA=>(Z (z.2.1,z.a,z.b,z.c,z.e,z.f,z.j,z.m,z.o,z.l,z.n,z.i,z.q,z.t,A,J)))))) (Z z.2)))
def rR (it:B7) (x:W!):M Ye6:=
 (it (ν×c!) _ (λz=>(bS z.1.2 (bf x.n) (jn (ck (fA z.1.2 (ah z.n)) (jn (pu (uk z.n z.1.2) z.i (lt ((((dU lS z.i (uk z.n z.1.2)).1).2).1) λz4=>(pu z.1.1 z.i (lt ((((dU lS z.i z.1.1).1).2).1) λz5=>(bq z4 z5 (pu (uk z.n z.1.2) z.i (lt (((dU lS z.i (uk z.n z.1.2)).1).1) λz6=>(pu z.1.1 z.i (lt (((dU lS z.i z.1.1).1).1) λz7=>(i_ z6 z7 (pu (uk z.n z.1.2) z.i (lt ((((((dU lS z.i (uk z.n z.1.2)).1).2).2).2).2) λz8=>(aI z8 (pu z.1.1 z.i (lt ((((((dU lS z.i z.1.1).1).2).2).2).2) λz9=>(aI (!z9) (pu (uk z.n z.1.2) z.i (lt ((((((dU lS z.i (uk z.n z.1.2)).1).2).2).2).1) λz10=>(pu z.1.1 z.i (lt (((((dU lS z.i z.1.1).1).2).2).1) λz11=>(aH ((z.1.1,(uk z.n z.1.2),(fQ z10 z11)),z.2)))))) (aH ((z.1.1,(uk z.n z.1.2),aa),z.2))))) (pu (uk z.n z.1.2) z.i (lt ((((((dU lS z.i (uk z.n z.1.2)).1).2).2).2).1) λN=>(pu z.1.1 z.i (lt (((((dU lS z.i z.1.1).1).2).2).1) λL=>(aH ((z.1.1,(uk z.n z.1.2),(fQ N L)),z.2))))))))) (aH ((z.1.1,(uk z.n z.1.2),aa),z.2))))))) (aH ((z.1.1,(uk z.n z.1.2),aa),z.2))))))) λD=>(aI D.1.2.2 (ay (jV (D.1.2.1,D.2)) λA=>(bT (aA (ah D.n) (ah A.l)&&(aA (ah D.o) (ah A.m)&&(aA (ah D.m) (ah A.j)&&(aA (ah D.j) (ah A.f)&&(aA (ah D.f) (ah A.e)&&(aA (ah D.e) (ah A.c)&&(aA (ah D.c) (ah A.b)&&(aA (ah D.b) (ah A.a)&&(aA (ah D.a) (ah A.2.1)&&J))))))))) (aH (D.1.1,A)))) (aH (D.1.1,D.2))))) λx2=>(c5 ((x2.1,(cW z.1.2)),x2.2))) (aH z.2))) ((x.1,0),x.2))
def vA (x:W!):M Ye6:=rR @iter x
def kw (x:W!):M Ye6:=rR @gT x
def rQ (it:B7) (x:Int×d!):M Ye5:=
 (it (ν×d!) _ (λz=>(bS z.1.2 (bf x.n) (jn (ck (fA z.1.2 (ah z.n)) (jn (pu (uk z.n z.1.2) z.i (lt ((((dU lS z.i (uk z.n z.1.2)).1).2).1) λz4=>(pu z.1.1 z.i (lt ((((dU lS z.i z.1.1).1).2).1) λz5=>(bq z4 z5 (pu (uk z.n z.1.2) z.i (lt (((dU lS z.i (uk z.n z.1.2)).1).1) λz6=>(pu z.1.1 z.i (lt (((dU lS z.i z.1.1).1).1) λz7=>(i_ z6 z7 (pu (uk z.n z.1.2) z.i (lt ((((((dU lS z.i (uk z.n z.1.2)).1).2).2).2).2) λz8=>(aI z8 (pu z.1.1 z.i (lt ((((((dU lS z.i z.1.1).1).2).2).2).2) λz9=>(aI (!z9) (pu (uk z.n z.1.2) z.i (lt ((((((dU lS z.i (uk z.n z.1.2)).1).2).2).2).1) λz10=>(pu z.1.1 z.i (lt (((((dU lS z.i z.1.1).1).2).2).1) λz11=>(aH ((z.1.1,(uk z.n z.1.2),(fQ z10 z11)),z.2)))))) (aH ((z.1.1,(uk z.n z.1.2),aa),z.2))))) (pu (uk z.n z.1.2) z.i (lt ((((((dU lS z.i (uk z.n z.1.2)).1).2).2).2).1) λN=>(pu z.1.1 z.i (lt (((((dU lS z.i z.1.1).1).2).2).1) λL=>(aH ((z.1.1,(uk z.n z.1.2),(fQ N L)),z.2))))))))) (aH ((z.1.1,(uk z.n z.1.2),aa),z.2))))))) (aH ((z.1.1,(uk z.n z.1.2),aa),z.2))))))) λD=>(aI D.1.2.2 (ay (jU (D.1.2.1,D.2)) λA=>(bT (aA (ah D.n) (ah A.l)&&(aA (ah D.o) (ah A.m)&&(aA (ah D.m) (ah A.j)&&(aA (ah D.j) (ah A.f)&&(aA (ah D.f) (ah A.e)&&(aA (ah D.e) (ah A.c)&&(aA (ah D.c) (ah A.b)&&(aA (ah D.b) (ah A.a)&&(aA (ah D.a) (ah A.2.1)&&J))))))))) (aH (D.1.1,A)))) (aH (D.1.1,D.2))))) λx2=>(c5 ((x2.1,(cW z.1.2)),x2.2))) (aH z.2))) ((x.1,0),x.2))
def vz (x:Int×d!):M Ye5:=rQ @iter x
def ku (x:Int×d!):M Ye5:=rQ @gT x
def nL (it:B7) (x:M!):M Ye8:=
 (bT (dg 0 (bf x.2.1.1.c)&&dg (bf x.2.1.1.c) (bf x.2.1.1.c)&&be (aQ (bf x.2.1.1.c)) 8) (ay (ja (x.1.2,x.2)) λy1=>(bT (aA (ah x.n) (ah y1.n)&&(aA (ah x.o) (ah y1.o)&&(aA (ah x.m) (ah y1.m)&&(aA (ah x.j) (ah y1.j)&&(aA (ah x.f) (ah y1.f)&&(aA (ah x.e) (ah y1.e)&&(aA (ah x.c) (ah y1.c)&&(aA (ah x.b) (ah y1.b)&&(aA (ah x.a) (ah y1.a)&&J))))))))) (it Ye9 _ (λx2=>(bS x2.1 (bf y1.1) (jn (bX aM y1.1 x2.1 λz4=>(kq 0 z4 (ko (.sl aM) x2.a z4 λz5=>(ay (lB (x2.E,z5)) λy6=>(aH (x2.2.1,x2.a,x2.b,x2.c,x2.e,x2.f,x2.j,x2.m,x2.o,x2.l,x2.n,x2.i,x2.q,x2.t,x2.u,y6)))) (aH x2.2))) λx3=>(c5 ((cW x2.1),x3))) (ay (jn (α:=c!) (ay (mN x2.u) λy8=>(aI y8 (it Ye9 _ (λx9=>(bS x9.1 (bA .i64 ((bf x2.2.1.1.2.1)+1)) (jn (aI (uf (x9.u.1,x9.1) x9.l) (ay (kw ((fm (x9.u.1,x9.1) x9.l),x9.2)) λN=>(bT (aA (ah x9.n) (ah N.l)&&(aA (ah x9.o) (ah N.m)&&(aA (ah x9.m) (ah N.j)&&(aA (ah x9.j) (ah N.f)&&(aA (ah x9.f) (ah N.e)&&(aA (ah x9.e) (ah N.c)&&(aA (ah x9.c) (ah N.b)&&(aA (ah x9.b) (ah N.a)&&(aA (ah x9.a) (ah N.2.1)&&J))))))))) (ay (jT (((fm (x9.u.1,x9.1) x9.l),N.t),N.n)) λy12=>(aH (N.1,N.2.1,N.a,N.b,N.c,N.e,N.f,N.j,N.m,N.o,N.l,y12,N.y))))) (aH x9.2)) λx10=>(c5 ((cW x9.1),x10))) (aH (cv x9.2)))) (0,x2.2)) (aH x2.2))) λx7=>(jn (ay (mb (x7.1.1,x7.t)) λy14=>(aI (uf (x7.t.1,y14) x7.o) (it (Int×(eM×Y gx)×(Y η)×xA×(η)×(η)×(η)×(η)×(η)×(η)×AO×(η)×(Y Aa)×(Y η)×(Y η)×gx×(η)×Bool) _ (λz=>(aI z.G (ay (ku (z.1,z.2.1,z.a,z.b,z.c,z.e,z.f,z.j,z.m,z.o,z.l,z.n,z.i,z.q,z.t,z.C,aa)) λL=>(bT (aA (ah z.n) (ah L.l)&&(aA (ah z.o) (ah L.m)&&(aA (ah z.m) (ah L.j)&&(aA (ah z.j) (ah L.f)&&(aA (ah z.f) (ah L.e)&&(aA (ah z.e) (ah L.c)&&(aA (ah z.c) (ah L.b)&&(aA (ah z.b) (ah L.a)&&(aA (ah z.a) (ah L.2.1)&&J))))))))) (c5 (z.1,L.1,L.2.1,L.a,L.b,L.c,L.e,L.f,L.j,L.m,L.o,L.l,L.n,L.i,L.q,z.u,L.r)))) (aH (cv (z.2.1,z.a,z.b,z.c,z.e,z.f,z.j,z.m,z.o,z.l,z.n,z.i,z.q,z.t,z.u,z.C))))) ((fm (x7.t.1,y14) x7.o),x7.1,x7.2.1,x7.a,x7.b,x7.c,x7.e,x7.f,x7.j,x7.m,x7.o,x7.l,x7.n,x7.i,x7.q,x7.t,x7.F,J)) (aH x7))) λA=>(ay (qV (A.F,A.t.1)) λy17=>(bT (be (ah A.2.1+ah ([y17])) 24) (bX aM y17 A.t.1 λz18=>(bT (be (ah A.a+ah ([(z18,A.t.1)])) 16) (ay (iH ((x.1.1,A.t),A.1,(A.2.1++([y17])),(A.a++([(z18,A.t.1)])),A.b,A.c,A.e,A.f,A.j,A.m,A.o,A.l,A.n,A.i,A.q)) λD=>(bT (aA (ah A.l) (ah A.l)&&(aA (ah A.m) (ah D.m)&&(aA (ah A.j) (ah D.j)&&(aA (ah A.f) (ah D.f)&&(aA (ah A.e) (ah D.e)&&(aA (ah A.c) (ah D.c)&&(aA (ah A.b) (ah D.b)&&(aA (ah (A.a++([(z18,A.t.1)]))) (ah D.a)&&(aA (ah (A.2.1++([y17]))) (ah D.2.1)&&J))))))))) (ay (gK ((x.1.1,A.t),D.1,D.2.1,D.a,D.b,D.c,D.e,D.f,D.j,D.m,D.o,D.i,D.z,D.l,D.n)) λy20=>(bT (aA (ah D.i) (ah y20.l)&&(aA (ah D.m) (ah y20.m)&&(aA (ah D.j) (ah y20.j)&&(aA (ah D.f) (ah y20.f)&&(aA (ah D.e) (ah y20.e)&&(aA (ah D.c) (ah y20.c)&&(aA (ah D.b) (ah y20.b)&&(aA (ah D.a) (ah y20.a)&&(aA (ah D.2.1) (ah y20.2.1)&&J))))))))) (Z (y20.1,y20.b,y20.c,y20.e,y20.f,y20.j,y20.m,y20.o,y20.2.1,y20.a,y20.w)))))))))))) λr=>Z (cv r)))) (0,y1.2.1,y1.a,y1.b,y1.c,y1.e,y1.f,y1.j,y1.m,y1.o,y1.l,y1.n,y1.i,y1.q,y1.r,x.1.2,(aF (aQ (bf x.2.1.1.c)) (0:Int)))))))
def rA (x:M!):M Ye8:=nL @iter x
def gq (x:M!):M Ye8:=nL @gT x
abbrev g!:=(Y η)×xA×(η)×(η)×(η)×(η)×(η)×(η)×AO×(η)×(Y η)×(Y η)×Y Aa
def uT (it:B7) (x:n!):M Ye4:=
 (ay (lJ (bf x.1.c)) λy1=>(ay (lJ (bf x.1.c)) λy2=>(ay (lJ (bf x.1.c)) λN=>(ay (lJ (bf x.1.c)) λL=>(bT (dg 0 (bf x.1.1)&&dg (bf x.1.1) (bf x.1.1)&&be (aQ (bf x.1.1)) 24) (bT (dg 0 (bf x.1.b)&&dg (bf x.1.b) (bf x.1.b)&&be (aQ (bf x.1.b)) 24) (it (Int×(eM×Y gx)×g!) _ (λz=>(bS z.1 (bf x.2) (bX jF x.2 z.1 λD=>(ay (gq ((z.1,D),z.2.1,z.a,z.b,z.c,z.e,z.f,z.j,z.m,z.o,z.l,z.n,z.r,z.i,z.q)) λA=>(bT (aA (ah z.n) (ah z.n)&&(aA (ah z.o) (ah A.f)&&(aA (ah z.m) (ah A.e)&&(aA (ah z.j) (ah A.c)&&(aA (ah z.f) (ah A.b)&&(aA (ah z.e) (ah A.a)&&(aA (ah z.c) (ah A.2.1)&&(aA (ah z.b) (ah z.b)&&(aA (ah z.a) (ah z.a)&&J))))))))) (c5 ((cW z.1),A.1,A.m,A.o,A.2.1,A.a,A.b,A.c,A.e,A.f,A.j,A.l,A.i,A.z,A.n))))) (aH (z.2.1,z.a,z.b,z.c,z.e,z.f,z.j,z.m,z.o,z.l,z.n,z.r,z.i,z.q)))) (0,x,([]:Y η),([]:Y ν),y1,y2,N,L,(aF (aQ (bf x.1.1)) (0:Int)),(aF (aQ (bf x.1.b)) (0:Int)),([]:Y e!),([]:η),(aF (aQ (bf x.1.1)) ([]:η)),(aF (aQ (bf x.1.b)) ([]:η)),([]:Y Aa)))))))))
def zo (x:n!):M Ye4:=uT @iter x
def lq (x:n!):M Ye4:=uT @gT x
def rC (x:n!):M ((Y η)×Int):=
 (ay (lm x) λA=>(i_ A.2 0 (Z (([]:Y η),12)) (ay (lq x) λz=>(Z (z.2.1,0)))))
abbrev K?:=(eM×Y gx)×(eM×Y gx)×xA×gx×g!
abbrev N!:=(eM×Y gx)×(eM×Y gx)×xA×g!
def Bq (it:B7) (x:n!):M (xA×Int):=
 (ay (lm x) λy1=>(i_ y1.2 0 (Z (([]:Y ν),12)) (ay (lq x) λN=>(it (Int×N!) _ (λD=>(bS D.1 (bf x.2) (jn (α:=N!) (bX jF x.2 D.1 λz5=>(jn (ay (mN z5) λy7=>(aI (!y7) (aH (J,D.2.1,D.a,D.b,z5,D.g)) (bX mA D.2.1.1.1 z5.a λz8=>(aH (z8.2.2.2.1,D.2.1,D.a,D.b,z5,D.g))))) λx6=>(aI x6.1 (aH (x6.2.1,x6.a,x6.b,x6.h)) (bT (dg 0 D.1&&dg D.1 (ah x6.2.1.2)) (it (Int×K?) _ (λA=>(bS A.1 (aP (ah (dF (aQ D.1) x6.2.1.2))) (jn (α:=K?) (bX jF (dF (aQ D.1) x6.2.1.2) A.1 λz11=>(jn (ay (mN z11) λy13=>(aI (!y13) (aH (J,A.2.1,A.a,A.b,A.c,z11,A.h)) (i_ z11.a A.c.a (aH (J,A.2.1,A.a,A.b,A.c,z11,A.h)) (aH ((decide ((z11.1:Int)=A.c.1)),A.2.1,A.a,A.b,A.c,z11,A.h))))) λz=>(aI z.1 (aH (z.2.1,z.a,z.b,z.c,z.k)) (jn (bq z.e.2.1 4 (aH (J,z.2.1,z.a,z.b,z.c,z.k)) (aH ((decide ((z.c.2.1:Int)=4)),z.2.1,z.a,z.b,z.c,z.k))) λx14=>(jn (aI x14.1 (ko (.sl aM) x14.e D.1 λz16=>(ko fO x14.f A.1 λz17=>(ay (kh (z16,z17)) λy18=>(aH ((!y18),x14.2))))) (aH (aa,x14.2))) λL=>(aI L.1 (bT (be (ah L.b+ah ([(A.1,D.1)])) 16) (aH (L.2.1,L.a,(L.b++([(A.1,D.1)])),L.g))) (aH L.2))))))) λx10=>(c5 ((cW A.1),x10))) (aH (cv (A.2.1,A.a,A.b,A.h))))) (0,x6.2)))))) λx4=>(c5 ((cW D.1),x4))) (aH (D.b,0)))) (0,x,N.1,([]:Y ν),N.2.1,N.a,N.b,N.c,N.e,N.f,N.j,N.m,N.o,N.l,N.i,N.z,N.n)))))
def Bc (x:n!):M (xA×Int):=Bq @iter x
def qR (x:n!):M (xA×Int):=Bq @gT x
def Rt (it:B7) (x:Unit):M eM:=
 (it D? _ (λA=>(bS A.1 (aP (ah ([[109,97,105,110],[116,49],[116,50],[116,51]]))) (it D? _ (λz=>(bS z.1 6 (bT (be (ah z.k+ah ([(A.1,z.1,(bA .i64 ((bA .i64 ((bA .i64 (10*A.1))+z.1))+1)))])) 24) (c5 ((cW z.1),z.2.1,z.a,z.b,z.c,z.e,(z.k++([(A.1,z.1,(bA .i64 ((bA .i64 ((bA .i64 (10*A.1))+z.1))+1)))]))))) (aH (wF ((cW A.1),z.2))))) (0,A.2)) (aH A.2))) (0,[([120],0,0,aa,0),([121],0,0,aa,1),([118],0,0,J,0),([113],0,2,aa,0),([113],1,2,aa,0)],[([109],aa),([110],aa),([114],J)],[([99],0)],[[102]],[[109,97,105,110],[116,49],[116,50],[116,51]],([]:Y π)))
def QX (x:Unit):M eM:=Rt @iter x
def E9 (x:Unit):M eM:=Rt @gT x
def qa (x:Bool):M n!:=
 (jn (aI x (aH 1) (aH 3)) λA=>(ay (E9 ()) λz=>(Z (z,[(0,1,(-1),0,(-1),([]:η),([]:η)),(0,20,1,0,0,([]:η),([]:η)),(1,1,(-1),0,(-1),([]:η),([]:η)),(0,4,0,5,0,([]:η),([]:η)),(0,6,0,0,0,([]:η),([]:η)),(0,4,1,6,0,([]:η),([]:η)),(0,7,0,0,0,([]:η),([]:η)),(1,6,0,0,6,([]:η),([]:η)),(1,4,A,7,6,([]:η),([]:η)),(1,7,0,0,6,([]:η),([]:η)),(1,4,0,8,6,([]:η),([]:η))]))))
def uP (x:Unit):M (Bool):=
 (ay (qa aa) λN=>(ay (qR N) λz=>(ay (qa J) λL=>(ay (qR L) λD=>(jn (α:=Bool) (bq z.2 0 (bq D.2 0 (bq (bf z.1) 1 (bX fO z.1 0 λA=>(aI (Sr (.pr aM (.pr aM .un)) (A.1,A.2,()) (3,10,()) !=aa) (aH (decide (((bf D.1):Int)=0))) (aH aa))) (aH aa)) (aH aa)) (aH aa)) λx5=>(Z x5))))))
def tH (x:(Y gx)×Int):M (Int):=
 (iter (σ:=ν) (λz=>(bS z.2 x.2 (jn (bX jF x.1 z.2 λD=>(bX jF x.1 x.2 λA=>(bq D.1 A.1 (aH (cW z.1)) (aH z.1)))) λL=>(c5 (L,(cW z.2)))) (aH z.1))) (0,0))
def tI (x:η×i?):M (Bool):=
 (ay (Cj (x.1,x.2.2)) λz=>(Z (dg x.2.1 z)))
def rG (x:(Y gx)×Int):M ν:=
 (ay (tH x) λA=>(bX jF x.1 x.2 λz=>(Z ((bA .i64 (1+A)),z.1))))
def lA (x:η×L?):M (Bool):=
 (ay (mf (x,30)) λL=>(ay (rC L) λD=>(jn (i_ D.2 0 (aH (J,L)) (aH ((!decide (((bf D.1):Int)=(bf L.2))),L))) λx3=>(aI x3.1 (Z aa) (iter (σ:=Int×n!) (λA=>(bS A.1 (bf x3.2.2) (iter (σ:=Int×n!) (λz=>(bS z.1 A.1 (jn (bX (.sl aM) D.1 A.1 λz7=>(ay (rG (z.2.2,z.1)) λy8=>(ay (tI (z7,y8)) λy9=>(aI y9 (bX (.sl aM) D.1 z.1 λz10=>(bX (.sl aM) D.1 A.1 λN=>(ay (vD (z10,N)) λy12=>(aH ((!y12),z.2))))) (aH (aa,z.2)))))) λx6=>(aI x6.1 (aH (cv aa)) (c5 ((cW z.1),x6.2)))) (aH (wF ((cW A.1),z.2))))) (0,A.2)) (ay (ay (uP ()) λy13=>(Z y13)) λr=>Z (cv r)))) (0,x3.2))))))
@[simp] theorem Ct (t f:M R):aI J t f=t:=Eq.trans rfl rfl
@[simp] theorem Gk (t f:M R):aI aa t f=f:=Eq.trans rfl rfl
@[simp] theorem chk_t (k:J=J->M R):chk J k=k rfl:=Eq.trans rfl rfl
variable {b:Bool}
def wd (h:b=J) (k:M R):chk b (λ_=>k)=k:=by cases b with|true=>rfl|false=>cases h
@[simp] theorem Kb {α:Type} (x:α) (k:α->M R):ay (Z x) k=k x:=Eq.trans rfl rfl
@[simp] theorem afd {α:Type} (x:α) (k:α->M R):jn (Z (.inr x)) k=k x:=Eq.trans rfl rfl
@[simp] theorem jn_l {α:Type} (r:R) (k:α->M R):jn (Z (.inl r)) k=Z r:=Eq.trans rfl rfl
def ajb {σ:Type} {f:σ->M (σ⊕R)} {x:σ} {r:R} (h:iterN f i x=Z r) (z:i<=18446744073709551616):gT f x=Z r:=yg h z
def TN {σ:Type} {f:σ->M (σ⊕R)} (n:Nat) (A:n<18446744073709551616) (st:Nat->σ) {r:R} (h0:∀i,i<n->f (st i)=Z (.inl (st (i+1)))) (h1:f (st n)=Z (.inr r)):gT f (st 0)=Z r:=by
 have key:∀k i,i+k=n->iterN f (k+1) (st i)=Z r:=by
  intro k;induction k with
  |zero=>intro i hi;have:i=n:=by omega
         subst this;simp only[iterN,h1]
  |succ k z=>intro i hi;rw[iterN,h0 i (by omega)];exact z (i+1) (by omega)
 exact ajb (key n 0 (by omega)) (by omega)
@[simp] theorem afo {b:Int}:dg a b=J↔a<=b:=by unfold dg;simp
@[simp] theorem afn {b:Int}:fQ a b=J↔a<b:=by unfold fQ;simp
def Fh {b:Int} (h:a<=b):dg a b=J:=afo.2 h
def Pu {b:Int} (h:a<b):fQ a b=J:=afn.2 h
def ar6 {b:Int} (h:b<a):dg a b=aa:=by unfold dg;simp;omega
def TU {b:Int} (h:b<=a):fQ a b=aa:=by unfold fQ;simp;omega
def ar4 (h0:0<=a) (h1:a<i):fA a i=J:=by unfold fA;rw[Fh h0,Pu h1];rfl
def uS (h1:j<i):fA (j:Int) i=J:=ar4 (by omega) (by omega)
def Y4 (h0:i<=1099511627776) (h1:i*j<=1099511627776):be i j=J:=by
 unfold be;rw[aW h0,aW h1];rfl
def alo (h0: -9223372036854775808<=a) (h1:a<=9223372036854775807):bA .i64 a=a:=by
 rw[J4];unfold O2;simp only[];rw[Fh h0,Fh h1];rfl
def Gy (h:i<j) (z:j<=1099511627776):bA .i64 ((i:Int)+1)=((i+1:Nat):Int):=by
 rw[alo (by omega) (by omega)];omega
def Bk (a b:Nat):mR (aP a) (aP b)=((max a b:Nat):Int):=by
 unfold mR;by_cases h:a<b
 .rw[Pu (by simp;omega),aC rfl];simp;omega
 .rw[TU (by simp;omega)];simp;omega
def Uv (xs:Y T.den) (i:Nat):geti _ xs (i:Int)=xs.getD i T.zero:=by unfold geti;simp
def vu (xs:Y R) (i:Nat) (x:R):cN xs (i:Int) x=xs.set i x:=by unfold cN;simp
def big:Nat:=1000000000
def jl (a b:η):η:=(iR (max (l! a) (l! b))).map λi=>mR (a.getD i 0) (b.getD i 0)
def G9 (a b:η):l! (jl a b)=max (l! a) (l! b):=by simp[jl]
def Q7 (a b:η) (i:Nat):(jl a b).getD i 0=mR (a.getD i 0) (b.getD i 0):=by
 unfold jl;simp only[ax,aT];by_cases h:i<max (l! a) (l! b)
 .rw[ri h];rfl
 .rw[bJ (by simp only[List.length_range];omega),bJ (l:=a) (by omega),bJ (l:=b) (by omega)];rfl
def HY (c:η) (i:Nat):nF (c,(i:Int))=Z (c.getD i 0):=by
 unfold nF bS pu bf aH;simp only[];rw[TU (by omega)];simp only[Gk,afd];by_cases h:i<l! c
 .rw[ar6 (by simp;omega)];simp only[Gk];rw[wd (uS h),Uv];rfl
 .rw[Fh (by simp;omega)];simp only[Ct];rw[ax,bJ (by omega)];rfl
def alz:Cj=nF:=rfl
def Sl (a b:η) (ha:l! a<=big) (N:l! b<=big):lB (a,b)=Z (jl a b):=by
 unfold big at ha N;unfold lB wT ck bS bT bf c5 aH cW;have hm:max (l! a) (l! b)<=1000000000:=by omega
 rw[wd (by simp only[Bk];rw[Fh (by omega),Fh (by omega),Y4 (by simp;omega) (by simp;omega)];rfl)];simp only[Bk,cf,c4];have:=TN (σ:=k!) (R:=η) (max (l! a) (l! b)) (by omega) (λi=>((i:Int),(iR (max (l! a) (l! b))).map λk=>if k<i then mR (a.getD k 0) (b.getD k 0) else 0)) (f:=(λz=>(aI (fQ z.1 (aP (max (l! a) (l! b)))) (ay (nF (a,z.1)) λD=>(ay (nF (b,z.1)) λA=>(chk (fA z.1 (ah z.2)) λ_=>(chk (fA z.1 (ah z.2)) λ_=>(Z (wF ((bA .i64 (z.1+1)),(cN z.2 z.1 (mR D A))))))))) (Z (cv z.2))))) (r:=jl a b) ?_ ?_
 .refine Eq.trans ?_ this;congr 1;simp only[Int.natCast_zero,kU,c7,aG,true_and];apply sj<;>simp
 .intro i hi;simp only[];rw[Pu (by simp;omega),Ct,HY,HY,Kb,Kb,wd (uS (by simpa using hi)),wd (uS (by simpa using hi)),Gy hi (by omega),vu];congr 3;apply sj
  .simp
  .intro k h1 h2;simp only[bH,List.length_range]at h2;simp only[List.getElem_set,List.getElem_map,List.getElem_range];by_cases e:i=k
   .subst e;simp
   .by_cases h:k<i
    .rw[av e,aC h,aC (by omega)]
    .rw[av e,av h,av (by omega)]
 .simp only[];rw[TU (by simp),Gk];congr 2;unfold jl;apply gI;intro k L;rw[aC (oT.1 L)]
def tk (c:η) (t:Nat):η:=(c++aF (t+1-l! c) 0).set t (c.getD t 0+1)
def O5 (c:η) (t:Nat):l! (tk c t)=max (l! c) (t+1):=by simp[tk];omega
def aqt (c:η) (n i:Nat):(c++aF n 0).getD i 0=c.getD i 0:=by
 simp only[ax];by_cases h:i<l! c
 .rw[bj h]
 .rw[bO (by omega),bJ (l:=c) (by omega),hP];split<;>rfl
def KB (c:η) (t i:Nat):(tk c t).getD i 0=if i=t then c.getD t 0+1 else c.getD i 0:=by
 unfold tk;rw[ax,c6];by_cases h:t=i
 .subst h;rw[aC rfl,aC (by simp;omega),aC rfl];rfl
 .rw[av h,av (λe=>h e.symm),<-ax,aqt]
def agf (c:η) (n:Nat) (h:l! c<=n):Wz (aF n 0) c=c++aF (n-l! c) 0:=by
 unfold Wz;rw[c4,gp h,List.drop_replicate]
def aku (c:η) (t:Nat) (A:l! c<=big) (ht:t<4) (h0:0<=c.getD t 0) (h1:c.getD t 0<9223372036854775807):qV (c,(t:Int))=Z (tk c t):=by
 unfold big at A;unfold qV ck kq bT bf aH cW;simp only[];rw[Fh (by omega),Ct,afd,Pu (by omega)];simp only[Ct,afd];have L:mR (aP (l! c)) (bA .i64 ((t:Int)+1))=((max (l! c) (t+1):Nat):Int):=by
  rw[Gy ht (by omega)];exact Bk _ _
 rw[L];rw[wd (by rw[Fh (by omega),Fh (by omega),Y4 (by simp;omega) (by simp;omega)];rfl)];rw[cf];have e2:Wz (aF (max (l! c) (t+1)) (0:Int)) c=c++aF (t+1-l! c) 0:=by
  rw[agf c _ (by omega)];rw[show max (l! c) (t+1)-l! c=t+1-l! c from by omega]
 rw[e2];have z:t<l! (c++aF (t+1-l! c) (0:Int)):=by simp;omega
 rw[wd (uS z),wd (uS z),afd];have D:geti aM (c++aF (t+1-l! c) (0:Int)) (t:Int)=c.getD t 0:=by
  rw[Uv];exact aqt c _ t
 simp only[];rw[D,Pu h1,Ct,wd (uS z),wd (uS z),wd (uS z),wd (uS z),afd,alo (by omega) (by omega),vu];rfl
abbrev WO:Type:=(Int×Int×Int×Int×Bool)×Y (Int×Bool)×Y (Int×Bool)
def l8 (l:Y ET) (i:Nat):Nat:=(eN l i).1.toNat
def ct (l:Y ET) (u:Nat):Nat->Nat
 |0=>0
 |n+1=>ct l u n+if l8 l n=u then 1 else 0
def ZQ (l:Y ET) (u:Nat):∀{n m:Nat},n<=m->ct l u n<=ct l u m:=by
 intro n m h;induction h with
 |refl=>exact bV _
 |step _ z=>exact c8 z (by simp only[ct];omega)
def ajz (l:Y ET) (u:Nat):∀n,ct l u n<=n
 |0=>bV _
 |n+1=>by have:=ajz l u n;simp only[ct];split<;>omega
def RE (l:Y ET) (i:Nat):ct l (l8 l i) (i+1)=ct l (l8 l i) i+1:=by simp only[ct,bk]
def Em (T j:Nat) (x:η):Prop:=l! x=T/\∀u:Nat,u<T-> -1<=x.getD u 0/\x.getD u 0<(j:Int)
def Em.up (h:Em i j c):Em i (j+1) c:=⟨h.1,λu z=>by have:=h.2 u z;omega⟩
def Em.set (h:Em i j c) (u:Nat) (h0: -1<=a) (h1:a<=(j:Int)):Em i (j+1) (cN c (u:Int) a):=by
 refine ⟨by rw[ca];exact h.1,λk z=>?_⟩;rw[vu,ax,c6];by_cases e:u=k
 .rw[aC e];split
  .simp only[nY];omega
  .rename_i A;have:=h.1;omega
 .rw[av e,<-ax];have:=h.2 k z;omega
def Em.geti {T:Nat} (h:Em T j c) (h0:0<=a) (h1:a<T): -1<=AI.geti (T:=aM) c a/\AI.geti (T:=aM) c a<(j:Int):=by
 have e:a=((a.toNat:Nat):Int):=by omega
 rw[e,CR];exact h.2 _ (by omega)
def NJ (n j:Nat) (st:η) (si:Y η):Prop:=l! st=n/\l! si=n/\∀o:Nat,o<n->st.getD o 0=(l! (si.getD o []):Int)/\l! (si.getD o [])<=j/\∀v∈si.getD o [],0<=v/\v<(j:Int)
def NJ.up {si:Y η} (h:NJ i j c si):NJ i (j+1) c si:=⟨h.1,h.2.1,λo A=>by obtain⟨a,b,st⟩:=h.2.2 o A;exact⟨a,by omega,λv z=>by have:=st v z;omega⟩⟩
def Kj (z:η) (o:Nat):uk z (o:Int)=z.getD o 0:=by unfold uk;rw[cf]
def yY (xss:Y η) (o:Nat):xK (T:=aM) xss (o:Int)=xss.getD o []:=by unfold xK;rw[cf]
def vq (w:WT) (la sp wa:η) (si ei:Y η) (e:ET):η:=[geti aM la e.1]++
 (if e.2.1=1 then [geti aM sp e.1] else if e.2.1=21 then [geti aM la e.2.2.1] else if e.2.1=23 then xK (T:=aM) ei e.2.2.1
  else if e.2.1=3 then (if (geti mA w.1 e.2.2.1).2.2.2.1=J then xK (T:=aM) si e.2.2.1 else []) else if e.2.1=17 then [geti aM wa e.1] else [])
def WU (hev:WC k e) (hj:j<=1000) {la:Y η} {tm:Y ν} {sp wa wt st se:η} {op:Y e!} {re:η} {ar:Y WO} {si ei:Y η}
 (h1:Em (l! k.2.2.2.2.1) j c) (h2:Em (l! k.2.2.2.2.1) j sp) (h3:Em (l! k.2.2.2.2.1) j wa) (h4:NJ (l! k.1) j st si) (h5:NJ (l! k.2.2.2.1) j se ei):
 ja (e,(k,L),la,tm,c,sp,wa,wt,st,se,op,re,ar,si,ei)=Z (vq k c sp wa si ei e,(k,L),la,tm,c,sp,wa,wt,st,se,op,re,ar,si,ei):=by
 refine cI ?_;obtain⟨nm,t0,t1,cd⟩:=hev;obtain⟨t,w,o,v,s,r1,r2⟩:=e;dsimp only at nm t0 t1;unfold ja lG mq mo B_ a8 bt bI cA dO iC mF nJ Prod.r ck bq pu bT bX ko aH;dsimp only;have l1:=h1.1;have l2:=h2.1;have l3:=h3.1;have gY:∀{R:Type} {Q:R->Prop} {x:η} {u:Int} {w:Int->M R},l! x=l! k.2.2.2.2.1->0<=u->u<l! k.2.2.2.2.1->Ok (w (geti aM x u)) Q->Ok (chk (fA u (l! x)) λ_=>chk (fA u (l! x)) λ_=>lt (geti aM x u) w) Q:=λhl h0 h1 hk=>aN h0 (by omega) (aN h0 (by omega) (aS hk))
 refine gY l1 t0 t1 ?_;refine aY (λx=>x=((k,L),la,tm,c,sp,wa,wt,st,se,op,re,ar,si,ei,vq k c sp wa si ei (t,w,o,v,s,r1,r2))) ?_ ?_
 .refine aJ (λg=>?_) λD=>?_
  .refine gY l2 t0 t1 (bl (by simp) (by omega) (aj ?_));dsimp only;unfold vq;dsimp only;rw[aC g]
  refine aJ (λg=>?_) λN=>?_
  .obtain⟨z,A⟩:=nm.th (.inr g);refine gY l1 z A (bl (by simp) (by omega) (aj ?_));dsimp only;unfold vq;dsimp only;rw[av D,aC g]
  have lst:∀{n:Nat} {xs:η} {xss:Y η},NJ n j xs xss->0<=o->o<n->aA (aQ (uk xs o)) (ah (xK (T:=aM) xss o))=J/\(ah (xK (T:=aM) xss o))<=j/\l! xs=n/\l! xss=n:=λ{n xs xss} h z A=>by
   have e:o=((o.toNat:Nat):Int):=by omega
   obtain⟨a,b,cc⟩:=h.2.2 o.toNat (by omega);rw[e,Kj,yY,a,cf];exact⟨eW _,b,h.1,h.2.1⟩
  refine aJ (λg=>?_) λg3=>?_
  .obtain⟨z,A⟩:=nm.fu (.inr g);obtain⟨q1,q2,q3,q4⟩:=lst h5 z A;refine aN z (by omega) (aN z (by omega) (aN z (by omega) (bh q1 (bl (by rw[cj];omega) (by omega) (aj ?_)))));dsimp only;unfold vq;dsimp only;rw[av D,av N,aC g]
  refine aJ (λg=>?_) λg4=>?_
  .obtain⟨z,A⟩:=nm.ce (.inl g);obtain⟨q1,q2,q3,q4⟩:=lst h4 z A;refine aN z A (aS ?_);refine aO (λl=>?_) λl=>?_
   .refine aN z (by omega) (aN z (by omega) (aN z (by omega) (bh q1 (bl (by rw[cj];omega) (by omega) (aj ?_)))));dsimp only;unfold vq;dsimp only;rw[av D,av N,av g3,aC g,aC l]
   .refine aj ?_;dsimp only;unfold vq;dsimp only;rw[av D,av N,av g3,aC g,av (by have l:(geti mA k.1 o).2.2.2.1=aa:=l;rw[l];simp)];rfl
  refine aJ (λg=>?_) λg5=>?_
  .refine gY l3 t0 t1 (bl (by simp) (by omega) (aj ?_));dsimp only;unfold vq;dsimp only;rw[av D,av N,av g3,av g4,aC g]
  .refine aj ?_;dsimp only;unfold vq;dsimp only;rw[av D,av N,av g3,av g4,av g5];rfl
 .rintro x rfl;exact aj rfl
def Xd (o j:Int) (n:Nat) (wt wa:η):η:=(iR (l! wa)).map λu=>if u<n/\wt.getD u 0=o then j else wa.getD u 0
def TA (o:Int) (n:Nat) (wt:η):η:=(iR (l! wt)).map λu=>if u<n/\wt.getD u 0=o then -1 else wt.getD u 0
def QW (o j:Int) (n:Nat) (wt wa:η):l! (Xd o j n wt wa)=l! wa:=by simp[Xd]
def QV (o:Int) (n:Nat) (wt:η):l! (TA o n wt)=l! wt:=by simp[TA]
def aj7 (o j:Int) (n:Nat) (wt wa:η) (z:i<l! wa):(Xd o j n wt wa).getD i 0=if i<n/\wt.getD i 0=o then j else wa.getD i 0:=by
 unfold Xd;rw[ax,aT,ri z];rfl
def aj5 (o:Int) (n:Nat) (wt:η) (z:i<l! wt):(TA o n wt).getD i 0=if i<n/\wt.getD i 0=o then -1 else wt.getD i 0:=by
 unfold TA;rw[ax,aT,ri z];rfl
def af1 (o j:Int) (wt wa:η):Xd o j 0 wt wa=wa:=by
 unfold Xd;apply sj
 .simp
 .intro k h1 z;simp[ax,aD z]
def af0 (o:Int) (wt:η):TA o 0 wt=wt:=by
 unfold TA;apply sj
 .simp
 .intro k h1 z;simp[ax,aD z]
def ani {j:Int} {wa:η} (h:c.getD i 0≠a):Xd a j (i+1) c wa=Xd a j i c wa:=by
 unfold Xd;refine gI λu _=>?_
 by_cases e:u=i
 .subst e;rw[av (λq=>h q.2),av (λq=>h q.2)]
 .by_cases q:u<i/\c.getD u 0=a
  .rw[aC q,aC ⟨by omega,q.2⟩]
  .rw[av q,av (λz=>q ⟨by omega,z.2⟩)]
def anh (h:c.getD i 0≠a):TA a (i+1) c=TA a i c:=by
 unfold TA;refine gI λu _=>?_
 by_cases e:u=i
 .subst e;rw[av (λq=>h q.2),av (λq=>h q.2)]
 .by_cases q:u<i/\c.getD u 0=a
  .rw[aC q,aC ⟨by omega,q.2⟩]
  .rw[av q,av (λz=>q ⟨by omega,z.2⟩)]
def aj6 {j:Int} {wa:η} (h:c.getD i 0=a):Xd a j (i+1) c wa=cN (Xd a j i c wa) (i:Int) j:=by
 rw[vu];unfold Xd;apply sj
 .simp
 .intro k h1 A;simp only[List.getElem_set,List.getElem_map,List.getElem_range];by_cases e:i=k
  .subst e;rw[aC rfl,aC ⟨by omega,h⟩]
  .rw[av e];by_cases q:k<i/\c.getD k 0=a
   .rw[aC q,aC ⟨by omega,q.2⟩]
   .rw[av q,av (λz=>q ⟨by omega,z.2⟩)]
def aj4 (h:c.getD i 0=a):TA a (i+1) c=cN (TA a i c) (i:Int) (-1):=by
 rw[vu];unfold TA;apply sj
 .simp
 .intro k h1 A;simp only[List.getElem_set,List.getElem_map,List.getElem_range];by_cases e:i=k
  .subst e;rw[aC rfl,aC ⟨by omega,h⟩]
  .rw[av e];by_cases q:k<i/\c.getD k 0=a
   .rw[aC q,aC ⟨by omega,q.2⟩]
   .rw[av q,av (λz=>q ⟨by omega,z.2⟩)]
def Jf (j:Int) (e:ET) (sp:η):η:=if e.2.1=20 then cN sp e.2.2.1 j else sp
def Je (j:Int) (e:ET) (wt wa:η):η:=if e.2.1=18 then (if 0<=e.2.2.2.1 then cN wa e.2.2.2.1 j else wa) else if e.2.1=19 then Xd e.2.2.1 j (l! wt) wt wa else wa
def NL (e:ET) (wt:η):η:=if e.2.1=16 then cN wt e.1 e.2.2.1 else if e.2.1=18 then (if 0<=e.2.2.2.1 then cN wt e.2.2.2.1 (-1) else wt) else if e.2.1=19 then TA e.2.2.1 (l! wt) wt else wt
def OP (k:Int) (j:Int) (e:ET) (st:η) (si:Y η):η:=if e.2.1=k then wj st (aQ e.2.2.1) (aP (ah (xK (T:=aM) si e.2.2.1++[j]))) else st
def Qe (k:Int) (j:Int) (e:ET) (si:Y η):Y η:=if e.2.1=k then DG (T:=aM) (DG (T:=aM) si e.2.2.1 []) e.2.2.1 (xK (T:=aM) si e.2.2.1++[j]) else si
def akl (k j:Int) (e:ET) (si:Y η) (D:i<l! si) (h0:e.2.1=k->0<=e.2.2.1):(Qe k j e si).getD i []=if e.2.1=k/\e.2.2.1=(i:Int) then si.getD i []++[j] else si.getD i []:=by
 unfold Qe;by_cases h:e.2.1=k
 .rw[aC h];have h0:=h0 h;have A:e.2.2.1=((e.2.2.1.toNat:Nat):Int):=by omega
  unfold DG;rw[ax,c6];by_cases q:e.2.2.1.toNat=i
  .rw[aC q,fL,aC (by omega),aC ⟨h,by omega⟩];simp only[nY];rw[A,yY,q]
  .rw[av q,c6,av q,av (λz=>q (by omega)),<-ax]
 .rw[av h,av (λz=>h z.1)]
def akk (k j:Int) (e:ET) (si:Y η):l! (Qe k j e si)=l! si:=by
 unfold Qe DG;split
 .simp
 .rfl
def akm (k j:Int) (e:ET) (st:η) (si:Y η) (D:i<l! st) (h0:e.2.1=k->0<=e.2.2.1):(OP k j e st si).getD i 0=if e.2.1=k/\e.2.2.1=(i:Int) then (l! (si.getD i []++[j]):Int) else st.getD i 0:=by
 unfold OP;by_cases h:e.2.1=k
 .rw[aC h];have h0:=h0 h;have A:e.2.2.1=((e.2.2.1.toNat:Nat):Int):=by omega
  rw[ax,c6];by_cases q:e.2.2.1.toNat=i
  .rw[aC q,aC (by omega),aC ⟨h,by omega⟩];simp only[nY];rw[A,yY,q];rfl
  .rw[av q,av (λz=>q (by omega)),<-ax]
 .rw[av h,av (λz=>h z.1)]
def NJ.ad {si:Y η} (h:NJ i j c si) (k:Int) (e:ET) (h0:e.2.1=k->0<=e.2.2.1):NJ i (j+1) (OP k (j:Int) e c si) (Qe k (j:Int) e si):=by
 obtain⟨a,b,st⟩:=h;refine ⟨by unfold OP;split<;>simp[a],by rw[akk,b],λo D=>?_⟩;obtain⟨A,L,q3⟩:=st o D;rw[akm _ _ _ _ _ (by omega) h0,akl _ _ _ _ (by omega) h0];split
 .refine ⟨rfl,by rw[bc,cj];omega,λv z=>?_⟩;rcases bG.1 z with z|z
  .have:=q3 v z;omega
  .simp only[aE]at z;omega
 .exact⟨A,by omega,λv z=>by have:=q3 v z;omega⟩
def Em.wa {wt:η} (h:Em i j c) (e:ET) (A:e.2.1=18->e.2.2.2.1<i):Em i (j+1) (Je (j:Int) e wt c):=by
 unfold Je;split
 .rename_i g;split
  .rename_i D;have e0:e.2.2.2.1=((e.2.2.2.1.toNat:Nat):Int):=by omega
   rw[e0];exact h.set _ (by omega) (dC _)
  .exact h.up
 .split
  .refine ⟨by rw[QW];exact h.1,λu z=>?_⟩;rw[aj7 _ _ _ _ _ (by rw[h.1];exact z)];split
   .omega
   .have:=h.2 u z;omega
  .exact h.up
def Ky (e:ET) (wt:η):l! (NL e wt)=l! wt:=by
 unfold NL;split
 .exact ca _ _ _
 .split
  .split
   .exact ca _ _ _
   .rfl
  .split
   .exact QV _ _ _
   .rfl
def Em.sp (h:Em i j c) (e:ET) (h0:e.2.1=20->0<=e.2.2.1):Em i (j+1) (Jf (j:Int) e c):=by
 unfold Jf;split
 .rename_i g;have e0:e.2.2.1=((e.2.2.1.toNat:Nat):Int):=by have:=h0 g;omega
  rw[e0];exact h.set _ (by omega) (dC _)
 .exact h.up
def ag8 (hev:WC k e) (hj:j<=1000) (hT:l! k.2.2.2.2.1<=4) (hv:e.2.1=18->e.2.2.2.1<l! k.2.2.2.2.1) {la:Y η} {tm:Y ν} {sp wa wt st se:η} {op:Y e!} {re:η} {ar:Y WO} {si ei:Y η}
 (h1:Em (l! k.2.2.2.2.1) j c) (h2:Em (l! k.2.2.2.2.1) j sp) (h3:Em (l! k.2.2.2.2.1) j wa) (hwt:l! wt=l! k.2.2.2.2.1) (h4:NJ (l! k.1) j st si) (h5:NJ (l! k.2.2.2.1) j se ei):
 gK (((j:Int),e),(k,L),la,tm,c,sp,wa,wt,st,se,op,re,ar,si,ei)=Z ((k,L),la,tm,cN c e.1 (j:Int),Jf (j:Int) e sp,Je (j:Int) e wt wa,NL e wt,OP 4 (j:Int) e st si,OP 22 (j:Int) e se ei,op,re,ar,Qe 4 (j:Int) e si,Qe 22 (j:Int) e ei):=by
 refine cI ?_;obtain⟨nm,N,t1,cd⟩:=hev;obtain⟨t,w,o,v,s,D,A⟩:=e;dsimp only at nm N t1 hv;unfold gK mU lG mq mo B_ Prod.t Prod.D a8 bt bI cA dO iC mF nJ Prod.r dj fD wG ck bq bS kq pu bT ko bf c5 aH cW;dsimp only;have l1:=h1.1;have l2:=h2.1;have l3:=h3.1;have cB:∀{R:Type} {Q:R->Prop} {n:Nat} {u:Int} {w:M R},0<=u->u<n->Ok w Q->Ok (ck (fA u n) w) Q:=λh0 h1 hk=>aN h0 h1 (aN h0 h1 hk)
 refine cB N (by omega) ?_;refine aY (λx=>x=((k,L),la,tm,cN c t (j:Int),Jf (j:Int) (t,w,o,v,s,D,A) sp,Je (j:Int) (t,w,o,v,s,D,A) wt wa,NL (t,w,o,v,s,D,A) wt,OP 4 (j:Int) (t,w,o,v,s,D,A) st si,OP 22 (j:Int) (t,w,o,v,s,D,A) se ei,op,re,ar,Qe 4 (j:Int) (t,w,o,v,s,D,A) si,Qe 22 (j:Int) (t,w,o,v,s,D,A) ei)) ?_ ?_
 .unfold Jf Je NL OP Qe;dsimp only;have lst:∀{n:Nat} {xs:η} {xss:Y η},NJ n j xs xss->0<=o->o<n->aA (aQ (uk xs o)) (ah (xK (T:=aM) xss o))=J/\(aQ (uk xs o))<=j/\l! xs=n/\l! xss=n:=λ{n xs xss} h z l=>by
   have e:o=((o.toNat:Nat):Int):=by omega
   obtain⟨a,b,cc⟩:=h.2.2 o.toNat (by omega);rw[e,Kj,yY,a,cf];exact⟨eW _,b,h.1,h.2.1⟩
  refine aJ (λg=>?_) λg1=>?_
  .obtain⟨z,l⟩:=nm.th (.inl g);refine cB z (by omega) (aj ?_);subst g;simp only[bz,bk,c7]
  refine aJ (λg=>?_) λg2=>?_
  .obtain⟨z,l⟩:=nm.fu (.inl g);obtain⟨q1,q2,q3,q4⟩:=lst h5 z l;refine cB z (by omega) (aN z (by omega) (db (bh q1 (bl (by rw[cj];omega) (by omega) (cB z (by omega) (aj ?_))))));subst g;simp only[bz,bk,c7]
  refine aJ (λg=>?_) λg3=>?_
  .obtain⟨z,l⟩:=nm.ce (.inr g);obtain⟨q1,q2,q3,q4⟩:=lst h4 z l;refine cB z (by omega) (aN z (by omega) (db (bh q1 (bl (by rw[cj];omega) (by omega) (cB z (by omega) (aj ?_))))));subst g;simp only[bz,bk,c7]
  refine aJ (λg=>?_) λg4=>?_
  .refine cB N (by omega) (aj ?_);subst g;simp only[bz,bk,c7]
  refine aJ (λg=>?_) λg5=>?_
  .subst g;refine fF (λv0=>?_) λv0=>?_
   .have v1:=hv rfl;refine cB v0 (by omega) (cB v0 (by omega) (aj ?_));simp only[bz,bk,c7,v0]
   .refine aj ?_;simp only[bz,bk,c7,Int.not_le.2 v0]
  refine aJ (λg=>?_) λg6=>?_
  .subst g;refine g9 (l! wt) (by omega) (λi x=>x=((i:Int),(k,L),la,tm,cN c t (j:Int),sp,Xd o (j:Int) i wt wa,TA o i wt,st,se,op,re,ar,si,ei,(t,19,o,v,s,D,A))) ?_ ?_ (by rw[af1,af0];simp only[Int.natCast_zero])
   .rintro i x hi rfl;refine dy ?_;refine aY (λx=>x=((k,L),la,tm,cN c t (j:Int),sp,Xd o (j:Int) (i+1) wt wa,TA o (i+1) wt,st,se,op,re,ar,si,ei,(t,19,o,v,s,D,A))) ?_ ?_
    .dsimp only;have ib:fA (i:Int) (l! (TA o i wt))=J:=Q_.2 ⟨by omega,by rw[QV];omega⟩;refine bh ib (bh ib (aS ?_));have gv:geti aM (TA o i wt) (i:Int)=wt.getD i 0:=by
      rw[CR,aj5 _ _ _ hi,av (by omega)]
     rw[gv];refine aJ (λh=>?_) λh=>?_
     .have h:wt.getD i 0=o:=h;refine cB (by omega) (by rw[QW];omega) (cB (by omega) (by rw[QV];omega) (aj ?_));rw[aj6 h,aj4 h]
     .have h:¬wt.getD i 0=o:=h;refine aj ?_;rw[ani h,anh h]
    .rintro x rfl;refine aj ?_;show _=_;rw[gM]
   .rintro x rfl;refine du (aj ?_);simp only[bz,bk,c7]
  .refine aj ?_;simp only[g1,g2,g3,g4,g5,g6,c7]
 .rintro x rfl;exact aj rfl
def nU (w:WT) (e:ET):Int:=if e.2.1=7\/e.2.1=9\/e.2.1=11 then e.2.2.1 else if e.2.1=16 then (geti nX w.2.2.1 e.2.2.1).2 else if e.2.1=13 then (l! w.2.1:Int) else -1
def OQ (w:WT) (e:ET):Int:=if e.2.1=6\/e.2.1=8\/e.2.1=10 then e.2.2.1 else if e.2.1=17 then (geti nX w.2.2.1 e.2.2.1).2 else if e.2.1=12 then (l! w.2.1:Int) else -1
def H8 (hev:WC k e):mb (k,e)=Z (nU k e):=by
 refine cI ?_;obtain⟨nm,L,D,cd⟩:=hev;obtain⟨t,w,o,v,s,r1,N⟩:=e;dsimp only at nm L D;unfold mb a8 bI bq bX bf aH;dsimp only;refine aY (λx=>x=(decide (w=7\/w=9\/w=11),k,t,w,o,v,s,r1,N)) ?_ ?_
 .refine aJ (λg=>aj ?_) λA=>aJ (λg=>aj ?_) λz=>aj ?_
  .dsimp only;rw[aR (show w=7 from g),aR (show w=7\/w=9\/w=11 from .inl g)]
  .dsimp only;rw[aR (show w=9 from g),aR (show w=7\/w=9\/w=11 from .inr (.inl g))]
  .have A:¬w=7:=A;have z:¬w=9:=z;dsimp only;have:decide (w=11)=decide (w=7\/w=9\/w=11):=by simp[A,z]
   rw[this]
 .rintro x rfl;unfold nU;dsimp only;refine aJ (λg=>aj ?_) λA=>?_
  .rw[aC g]
  rw[av A];refine aJ (λg=>?_) λz=>?_
  .have g:w=16:=g;obtain⟨o0,o1⟩:=nm.cd ⟨by omega,by omega⟩;rw[aC g];exact aN o0 o1 (aS (aj rfl))
  have z:¬w=16:=z;rw[av z];refine aJ (λg=>aj ?_) λg3=>aj ?_
  .rw[aC g];rfl
  .rw[av g3]
def Ja (hev:WC k e):mc (k,e)=Z (OQ k e):=by
 refine cI ?_;obtain⟨nm,L,D,cd⟩:=hev;obtain⟨t,w,o,v,s,r1,N⟩:=e;dsimp only at nm L D;unfold mc a8 bI bq bX bf aH;dsimp only;refine aY (λx=>x=(decide (w=6\/w=8\/w=10),k,t,w,o,v,s,r1,N)) ?_ ?_
 .refine aJ (λg=>aj ?_) λA=>aJ (λg=>aj ?_) λz=>aj ?_
  .dsimp only;rw[aR (show w=6 from g),aR (show w=6\/w=8\/w=10 from .inl g)]
  .dsimp only;rw[aR (show w=8 from g),aR (show w=6\/w=8\/w=10 from .inr (.inl g))]
  .have A:¬w=6:=A;have z:¬w=8:=z;dsimp only;have:decide (w=10)=decide (w=6\/w=8\/w=10):=by simp[A,z]
   rw[this]
 .rintro x rfl;unfold OQ;dsimp only;refine aJ (λg=>aj ?_) λA=>?_
  .rw[aC g]
  rw[av A];refine aJ (λg=>?_) λz=>?_
  .have g:w=17:=g;obtain⟨o0,o1⟩:=nm.cd ⟨by omega,by omega⟩;rw[aC g];exact aN o0 o1 (aS (aj rfl))
  have z:¬w=17:=z;rw[av z];refine aJ (λg=>aj ?_) λg3=>aj ?_
  .rw[aC g];rfl
  .rw[av g3]
def OpI (n:Nat) (op:Y e!):Prop:=∀x∈op,0<=x.2/\x.2<(n:Int)
def ReI (n:Nat) (re:η):Prop:=∀v∈re,0<=v/\v<(n:Int)
def ae3 (h0:0<=a) (h1:a<(i:Int)):shf i a=a:=by
 unfold shf;rw[aC (by exact aW (by omega))]
def ReI.shf (h:ReI i c):c.map (AI.shf i)=c:=by
 have:c.map (AI.shf i)=c.map id:=gI λv z=>ae3 (h v z).1 (h v z).2
 rw[this,List.map_id]
def OpI.shf {op:Y e!} (h:OpI i op):KK i op=op:=by
 unfold KK;have:op.map (λe=>(e.1,AI.shf i e.2))=op.map id:=gI λx z=>by rw[ae3 (h x z).1 (h x z).2];rfl
 rw[this,List.map_id]
def DZ {k z:ν}:N7 k z=J↔k=z:=by
 unfold N7;rw[ak,bR,bR];exact⟨λh=>oS h.1 h.2,λh=>by rw[h];exact⟨rfl,rfl⟩⟩
def ry (k:ν):∀{op:Y e!},uf k op=J->(k,fm k op)∈op
 |[],h=>by cases h
 |e::r,h=>by
  simp only[uf,fm]at h ⊢;cases z:N7 k e.1 with
  |true=>
   rw[DZ.1 z];exact cR ..
  |false=>
   rw[z,EC]at h;exact bM _ (ry k h)
def E7 (k:ν) {x:e!}:∀{op:Y e!},x∈Bb k op->x∈op
 |[],h=>by cases h
 |e::r,h=>by
  simp only[Bb]at h;cases z:N7 k e.1 with
  |true=>rw[z]at h;exact bM _ h
  |false=>
   rw[z]at h;rcases aZ.1 h with h|h
   .exact h▸cR ..
   .exact bM _ (E7 k h)
def OpI.del {op:Y e!} (h:OpI i op) (k:ν):OpI i (Bb k op):=λx z=>h x (E7 k z)
def UU (j:Int) (o:WO):WO:=((o.1.1,o.1.2.1,o.1.2.2.1,j,o.1.2.2.2.2),o.2)
abbrev bU (ar:Y WO) (i:Int):WO:=dU lS ar i
def scQ (w:WT) (e:ET) (op:Y e!):Bool:=uf (e.1,nU w e) op
def Ji (w:WT) (e:ET) (op:Y e!):Y e!:=if scQ w e op=J then Bb (e.1,nU w e) op else op
def EP (w:WT) (e:ET) (op:Y e!) (re:η):η:=if scQ w e op=J then re++[fm (e.1,nU w e) op] else re
def Cy (w:WT) (j:Int) (e:ET) (op:Y e!) (ar:Y WO):Y WO:=if scQ w e op=J then qQ (S:=lS) ar (fm (e.1,nU w e) op) (UU j (bU ar (fm (e.1,nU w e) op))) else ar
def scO (w:WT) (e:ET) (op:Y e!) (ar:Y WO):Y e!:=if 0<=OQ w e then xV (e.1,OQ w e) (l! ar:Int) (Ji w e op) else Ji w e op
def scA (w:WT) (j:Int) (e:ET) (op:Y e!) (ar:Y WO):Y WO:=if 0<=OQ w e then Cy w j e op ar++[((e.1,OQ w e,j,-1,decide (e.2.1=8)),[],[])] else Cy w j e op ar
def ae5 (w:WT) (j:Int) (e:ET) (op:Y e!) (ar:Y WO):l! (Cy w j e op ar)=l! ar:=by
 unfold Cy qQ;split
 .exact fL ..
 .rfl
def S5 (hev:WC k e) {la:Y η} {tm:Y ν} {sp wa wt st se:η} {op:Y e!} {re:η} {ar:Y WO} {si ei:Y η}
 (h1:OpI (l! ar) op) (h2:ReI (l! ar) re) (h3:l! re<=1000):
 iH (((j:Int),e),(k,L),la,tm,c,sp,wa,wt,st,se,op,re,ar,si,ei)=Z ((k,L),la,tm,c,sp,wa,wt,st,se,scO k e op ar,si,ei,EP k e op re,scA k (j:Int) e op ar):=by
 refine cI ?_;unfold iH lG mq mo B_ a8 bt bI cA dO iC mF nJ Prod.r kq pu bT bf;dsimp only;refine aV (H8 hev) ?_;refine aO (λl=>?_) λl=>?_
 .have hm:=ry _ l;have D:=h1 _ hm;dsimp only at D;have z:scQ k e op=J:=l;refine aN D.1 D.2 (a! (aV (Ja hev) ?_));have N:ah (qQ (S:=lS) ar (fm (e.1,nU k e) op) (UU (j:Int) (bU ar (fm (e.1,nU k e) op))))=l! ar:=by unfold qQ;exact fL ..
  have hR:ReI (l! ar) (re++[fm (e.1,nU k e) op]):=λv A=>by
   rcases bG.1 A with A|A
   .exact h2 v A
   .simp only[aE]at A;subst A;exact D
  refine fF (λg=>aj ?_) λg=>aj ?_
  .unfold scO scA EP Ji Cy;rw[aC g,aC g,aC z,aC z,aC z];have e1:=(h1.del (e.1,nU k e)).shf;have e2:=hR.shf;rw[<- N]at e1 e2;refine oS rfl (oS rfl (oS rfl (oS rfl (oS rfl (oS rfl (oS rfl (oS rfl (oS rfl (oS ?_ (oS rfl (oS rfl (oS ?_ rfl))))))))))))
   .show xV (e.1,OQ k e) (aP (ah (qQ (S:=lS) ar (fm (e.1,nU k e) op) (UU (j:Int) (bU ar (fm (e.1,nU k e) op)))))) (KK (ah (qQ (S:=lS) ar (fm (e.1,nU k e) op) (UU (j:Int) (bU ar (fm (e.1,nU k e) op))))) (Bb (e.1,nU k e) op))=_;rw[e1,N];rfl
   .exact e2
  .unfold scO scA EP Ji Cy;rw[av (Int.not_le.2 g),av (Int.not_le.2 g),aC z,aC z,aC z];rfl
 .have z:¬scQ k e op=J:=by unfold scQ;rw[l];simp
  refine aV (Ja hev) (fF (λg=>aj ?_) λg=>aj ?_)
  .unfold scO scA EP Ji Cy;rw[aC g,aC g,av z,av z,av z,h1.shf,h2.shf];rfl
  .unfold scO scA EP Ji Cy;rw[av (Int.not_le.2 g),av (Int.not_le.2 g),av z,av z,av z]
section
def ak6 (c:η) (a:Int) (u:Nat):kh (c,a,(u:Int))=Z (decide (a<=c.getD u 0)):=by
 unfold kh;dsimp only;rw[HY];rfl
def cvr (clk:η) (x:ν):Bool:=decide (x.1<=clk.getD x.2.toNat 0)
def agi (clk:η) {x:ν} (h:0<=x.2):kh (clk,x)=Z (cvr clk x):=by
 obtain⟨a,b⟩:=x;dsimp only at h;have e:b=((b.toNat:Nat):Int):=by omega
 unfold cvr;dsimp only;rw[e,ak6,cf]
def jc (c:Y η) (i:Int):η:=c.getD i.toNat []
def jt (tm:Y ν) (i:Int):ν:=tm.getD i.toNat (0,0)
abbrev WO.th (o:WO):Int:=o.1.1
abbrev WO.lk (o:WO):Int:=o.1.2.1
abbrev WO.bg (o:WO):Int:=o.1.2.2.1
abbrev WO.en (o:WO):Int:=o.1.2.2.2.1
abbrev WO.rd (o:WO):Bool:=o.1.2.2.2.2
def sS (P Q:WO):Bool:=decide (P.lk=Q.lk)&&(!decide (P.th=Q.th)&&(!(P.rd&&Q.rd)&&fQ P.en Q.bg))
abbrev mbg (o:Int) (m:Y u?):Bool:=Ai (K:=.int .i64) (V:=.bool) o m aa
def St (P:WO) (e:ET):Bool:=mbg e.2.2.1 P.2.2||(decide (e.2.1=4)&&mbg e.2.2.1 P.2.1)
def AF (c:Y η) (ar:Y WO) (q:Int) (e:ET) (clk:η) (p:Int):η:=if sS (bU ar p) (bU ar q)=J/\St (bU ar p) e=J then jl clk (jc c (bU ar p).en) else clk
def vo (c:Y η) (tm:Y ν) (ar:Y WO) (q:Int) (s:η×Bool) (p:Int):η×Bool:=if sS (bU ar p) (bU ar q)=J/\cvr s.1 (jt tm (bU ar p).bg)=J/\cvr s.1 (jt tm (bU ar p).en)=aa then (jl s.1 (jc c (bU ar p).en),J) else s
structure CkL (T j:Nat) (c:List η) (tm:List ν):Prop where
 cl:l! c=j
 tl:l! tm=j
 ln:∀i:Nat,i<j->l! (c.getD i [])=T
 th:∀i:Nat,i<j->0<=(tm.getD i (0,0)).2
def EnI (j:Nat) (ar:Y WO) (re:η):Prop:=∀p∈re,(0<=p/\p<(l! ar:Int))/\(0<=(bU ar p).bg/\(bU ar p).bg<(j:Int))/\(0<=(bU ar p).en/\(bU ar p).en<(j:Int))
def CkL.jc {c:Y η} {tm:Y ν} (h:CkL i j c tm) {T:Int} (h0:0<=T) (h1:T<(j:Int)):l! (AI.jc c T)=i:=h.ln _ (by omega)
def CkL.jt {c:Y η} {tm:Y ν} (h:CkL i j c tm) {T:Int} (h0:0<=T) (h1:T<(j:Int)):0<=(AI.jt tm T).2:=h.th _ (by omega)
def adp {clk:Y η} {tm:Y ν} (h:CkL i j clk tm) {ar:Y WO} (z:l! c=i) {p:Int} (h0:0<=(bU ar p).en) (h1:(bU ar p).en<(j:Int)):l! (AF clk ar a e c p)=i:=by
 unfold AF;split
 .rw[G9,z,h.jc h0 h1];exact Nat.max_self _
 .exact z
def ado {c:Y η} {tm:Y ν} (h:CkL i j c tm) {ar:Y WO} {s:η×Bool} (z:l! s.1=i) {p:Int} (h0:0<=(bU ar p).en) (h1:(bU ar p).en<(j:Int)):(vo c tm ar a s p).1.length=i:=by
 unfold vo;split
 .show (l! (jl s.1 _))=i;rw[G9,z,h.jc h0 h1];exact Nat.max_self _
 .exact z
variable {w:WT} {l:Y ET} {c:Y η} {tm:Y ν} {la sp wa wt st se:η} {op:Y e!} {re:η} {ar:Y WO} {si ei:Y η}
def aa8 (hT:i<=4) (h:CkL i j c tm) (hp:(0<=a/\a<(l! ar:Int))/\(0<=(bU ar a).bg/\(bU ar a).bg<(j:Int))/\(0<=(bU ar a).en/\(bU ar a).en<(j:Int))) {clk:η} (N:l! clk=i):
 jV (a,(w,l),c,tm,la,sp,wa,wt,st,se,op,re,ar,si,ei,e,clk)=Z ((w,l),c,tm,la,sp,wa,wt,st,se,op,re,ar,si,ei,e,if St (bU ar a) e=J then jl clk (jc c (bU ar a).en) else clk):=by
 refine cI ?_;obtain⟨⟨p0,z⟩,_,n0,A⟩:=hp;unfold jV lG mq mo B_ Prod.t Prod.u a8 bt bI cA dO iC mF nJ Prod.E ck bq pu ko aH;dsimp only;refine aY (λx=>x=((a,St (bU ar a) e),(w,l),c,tm,la,sp,wa,wt,st,se,op,re,ar,si,ei,e,clk)) ?_ ?_
 .refine aN p0 z (aN p0 z ?_);refine aO (λg=>aj ?_) λg=>?_
  .have g:mbg e.2.2.1 (bU ar a).2.2=J:=g;unfold St;rw[g];rfl
  have g:mbg e.2.2.1 (bU ar a).2.2=aa:=g;refine aJ (λD=>aN p0 z (aN p0 z (aj ?_))) λD=>aj ?_
  .unfold St;rw[g,aR (show e.2.1=4 from D)];rfl
  .unfold St;rw[g,cD (show ¬e.2.1=4 from D)];rfl
 .rintro x rfl;dsimp only;refine aO (λg=>?_) λg=>aj ?_
  .have L:=h.cl;refine aN p0 z (aS ?_);refine aN n0 (by have A:(bU ar a).en<(j:Int):=A;rw[L];exact A) (aN n0 (by rw[L];exact A) (aS ?_));refine aV (Sl clk (jc c (bU ar a).en) (by unfold big;omega) (by rw[h.jc n0 A];unfold big;omega)) (aj ?_);rw[aC g]
  .rw[av (by rw[g];simp)]
def aa7 (hT:i<=4) (h:CkL i j c tm) (hp:(0<=a/\a<(l! ar:Int))/\(0<=(bU ar a).bg/\(bU ar a).bg<(j:Int))/\(0<=(bU ar a).en/\(bU ar a).en<(j:Int))) {clk:η} (N:l! clk=i):
 jU (a,(w,l),c,tm,la,sp,wa,wt,st,se,op,re,ar,si,ei,clk,b)=Z ((w,l),c,tm,la,sp,wa,wt,st,se,op,re,ar,si,ei,if cvr clk (jt tm (bU ar a).bg)=J/\cvr clk (jt tm (bU ar a).en)=aa then (jl clk (jc c (bU ar a).en),J) else (clk,b)):=by
 refine cI ?_;obtain⟨⟨p0,A⟩,⟨b0,b1⟩,n0,z⟩:=hp;have L:=h.cl;have ht:=h.tl;unfold jU lG mq mo B_ Prod.t Prod.u a8 bt bI cA dO iC mF nJ pu ko aH;dsimp only;refine aY (λx=>x=((a,cvr clk (jt tm (bU ar a).bg)&& !cvr clk (jt tm (bU ar a).en)),(w,l),c,tm,la,sp,wa,wt,st,se,op,re,ar,si,ei,clk,b)) ?_ ?_
 .refine aN p0 A (aS (aN b0 (by rw[ht];exact b1) (aN b0 (by rw[ht];exact b1) (aS ?_))));refine aV (agi clk (h.jt b0 b1)) ?_;refine aO (λg=>?_) λg=>aj ?_
  .refine aN p0 A (aS (aN n0 (by rw[ht];exact z) (aN n0 (by rw[ht];exact z) (aS ?_))));refine aV (agi clk (h.jt n0 z)) (aj ?_);have g:cvr clk (jt tm (bU ar a).bg)=J:=g;dsimp only;rw[g,eh];rfl
  .have g:cvr clk (jt tm (bU ar a).bg)=aa:=g;dsimp only;rw[g,eV]
 .rintro x rfl;dsimp only;refine aO (λg=>?_) λg=>aj ?_
  .refine aN p0 A (aS ?_);refine aN n0 (by rw[L];exact z) (aN n0 (by rw[L];exact z) (aS ?_));refine aV (Sl clk (jc c (bU ar a).en) (by unfold big;omega) (by rw[h.jc n0 z];unfold big;omega)) (aj ?_);rw[aC (by simpa using g)]
  .rw[av (by simpa using g)]
def af6 {Q:R->Prop} {P S:WO} {q:Int} (p0:0<=a) (D:a<(i:Int)) (q0:0<=q) (A:q<(i:Int)) {k:Bool->M R} (z:Ok (k (sS P S)) Q):
 Ok (chk (fA a i) λ_=>lt P.lk λz4=>chk (fA q i) λ_=>lt S.lk λz5=>aI (decide (z4=z5)) (chk (fA a i) λ_=>lt P.th λz6=>chk (fA q i) λ_=>lt S.th λz7=>aI (!decide (z6=z7)) (chk (fA a i) λ_=>lt P.rd λz8=>aI z8 (chk (fA q i) λ_=>lt S.rd λz9=>aI (!z9) (chk (fA a i) λ_=>lt P.en λz10=>chk (fA q i) λ_=>lt S.bg λz11=>k (fQ z10 z11)) (k aa)) (chk (fA a i) λ_=>lt P.en λN=>chk (fA q i) λ_=>lt S.bg λL=>k (fQ N L))) (k aa)) (k aa)) Q:=by
 unfold sS at z;refine aN p0 D (aS (aN q0 A (aS ?_)));refine aJ (λg1=>?_) λg1=>?_
 .rw[aR g1,eh]at z;refine aN p0 D (aS (aN q0 A (aS ?_)));refine cz (λg2=>?_) λg2=>?_
  .rw[cD g2,mw,eh]at z;refine aN p0 D (aS ?_);refine aO (λg3=>?_) λg3=>?_
   .rw[g3,eh]at z;refine aN q0 A (aS ?_);refine eJ (λg4=>?_) λg4=>?_
    .rw[g4,mw,eh]at z;exact aN p0 D (aS (aN q0 A (aS z)))
    .rw[g4,yS,eV]at z;exact z
   .rw[g3,eV,mw,eh]at z;exact aN p0 D (aS (aN q0 A (aS z)))
  .rw[aR g2,yS,eV]at z;exact z
 .rw[cD g1,eV]at z;exact z
def xN (d:R) {xs:Y R} (h:i<l! xs):xs.take (i+1)=xs.take i++[xs.getD i d]:=by
 rw[List.take_add_one,aD h,ax,aD h];rfl
def Hj (d:R) {xs:Y R} (h:i<l! xs):xs.getD i d∈xs:=by
 rw[ax,aD h];exact Et h
def UY (hT:i<=4) (h:CkL i j c tm) (q0:0<=a) (N:a<(l! ar:Int)) (hr:EnI j ar re) (hrl:l! re<=1000) {clk:η} (hc:l! clk=i):
 kw (a,(w,l),c,tm,la,sp,wa,wt,st,se,op,re,ar,si,ei,e,clk)=Z ((w,l),c,tm,la,sp,wa,wt,st,se,op,re,ar,si,ei,e,re.foldl (AF c ar a e) clk):=by
 refine cI ?_;unfold kw rR lG mq mo a8 bt bI cA dO iC mF nJ ck bq bS i_ pu bT bf c5 aH cW;dsimp only;refine g9 (l! re) (by omega) (λT x=>x=((a,(T:Int)),(w,l),c,tm,la,sp,wa,wt,st,se,op,re,ar,si,ei,e,(re.take T).foldl (AF c ar a e) clk)/\l! ((re.take T).foldl (AF c ar a e) clk)=i) ?_ ?_ ⟨by simp,by simpa using hc⟩
 .rintro T x hi ⟨rfl,hcl⟩;refine dy ?_;have hpe:=hr _ (Hj 0 hi);have hiA:uk re (T:Int)=re.getD T 0:=Kj re T;generalize hp:re.getD T 0=p at*
  obtain⟨⟨p0,L⟩,hb,D⟩:=hpe;refine aY (λx=>x=(a,(w,l),c,tm,la,sp,wa,wt,st,se,op,re,ar,si,ei,e,AF c ar a e ((re.take T).foldl (AF c ar a e) clk) p)) ?_ ?_
  .refine cY (cY ?_);dsimp only;rw[hiA];refine aY (λx=>x=((a,p,sS (bU ar p) (bU ar a)),(w,l),c,tm,la,sp,wa,wt,st,se,op,re,ar,si,ei,e,(re.take T).foldl (AF c ar a e) clk)) ?_ ?_
   .with_reducible exact af6 (P:=bU ar p) (S:=bU ar a) (k:=λb=>Z (cv ((a,p,b),(w,l),c,tm,la,sp,wa,wt,st,se,op,re,ar,si,ei,e,(re.take T).foldl (AF c ar a e) clk))) p0 L q0 N (aj rfl)
   .rintro x rfl;dsimp only;refine aO (λg=>?_) λg=>aj ?_
    .refine aV (aa8 hT h ⟨⟨p0,L⟩,hb,D⟩ hcl) (bh (by simp only[eW,fC]) (aj ?_));dsimp only;unfold AF;by_cases A:St (bU ar p) e=J
     .rw[aC A,aC ⟨g,A⟩]
     .rw[av A,av (λz=>A z.2)]
    .unfold AF;rw[av (λz=>by rw[g]at z;cases z.1)]
  .rintro x rfl;refine aj ⟨?_,?_⟩
   .rw[xN 0 hi,eO,hp];show ((_,bA .i64 ((T:Int)+1)),_)=_;rw[gM];rfl
   .rw[xN 0 hi,eO,hp];exact adp h hcl D.1 D.2
 .rintro x ⟨rfl,_⟩;refine du (aj ?_);rw[cr]
def UX (hT:i<=4) (h:CkL i j c tm) (q0:0<=a) (q1:a<(l! ar:Int)) (hr:EnI j ar re) (hrl:l! re<=1000) {clk:η} (hc:l! clk=i):
 ku (a,(w,l),c,tm,la,sp,wa,wt,st,se,op,re,ar,si,ei,clk,b)=Z ((w,l),c,tm,la,sp,wa,wt,st,se,op,re,ar,si,ei,re.foldl (vo c tm ar a) (clk,b)):=by
 refine cI ?_;unfold ku rQ lG mq mo a8 bt bI cA dO iC mF nJ ck bq bS i_ pu bT bf c5 aH cW;dsimp only;refine g9 (l! re) (by omega) (λT x=>x=((a,(T:Int)),(w,l),c,tm,la,sp,wa,wt,st,se,op,re,ar,si,ei,(re.take T).foldl (vo c tm ar a) (clk,b))/\((re.take T).foldl (vo c tm ar a) (clk,b)).1.length=i) ?_ ?_ ⟨by simp,by simpa using hc⟩
 .rintro T x hi ⟨rfl,hcl⟩;refine dy ?_;have hpe:=hr _ (Hj 0 hi);have hiA:uk re (T:Int)=re.getD T 0:=Kj re T;generalize hp:re.getD T 0=p at*
  obtain⟨⟨p0,N⟩,hb,L⟩:=hpe;refine aY (λx=>x=(a,(w,l),c,tm,la,sp,wa,wt,st,se,op,re,ar,si,ei,vo c tm ar a ((re.take T).foldl (vo c tm ar a) (clk,b)) p)) ?_ ?_
  .refine cY (cY ?_);dsimp only;rw[hiA];refine aY (λx=>x=((a,p,sS (bU ar p) (bU ar a)),(w,l),c,tm,la,sp,wa,wt,st,se,op,re,ar,si,ei,(re.take T).foldl (vo c tm ar a) (clk,b))) ?_ ?_
   .with_reducible exact af6 (P:=bU ar p) (S:=bU ar a) (k:=λA=>Z (cv ((a,p,A),(w,l),c,tm,la,sp,wa,wt,st,se,op,re,ar,si,ei,(re.take T).foldl (vo c tm ar a) (clk,b)))) p0 N q0 q1 (aj rfl)
   .rintro x rfl;dsimp only;generalize (re.take T).foldl (vo c tm ar a) (clk,b)=s at*
    obtain⟨sc,sa⟩:=s;refine aO (λg=>?_) λg=>aj ?_
    .refine aV (aa7 hT h ⟨⟨p0,N⟩,hb,L⟩ hcl) (bh (by simp only[eW,fC]) (aj ?_));dsimp only;unfold vo;by_cases D:cvr sc (jt tm (bU ar p).bg)=J/\cvr sc (jt tm (bU ar p).en)=aa
     .rw[aC D,aC ⟨g,D⟩]
     .rw[av D,av (λz=>D z.2)]
    .unfold vo;rw[av (λz=>by rw[g]at z;cases z.1)]
  .rintro x rfl;refine aj ⟨?_,?_⟩
   .rw[xN 0 hi,eO,hp];show ((_,bA .i64 ((T:Int)+1)),_)=_;rw[gM];rfl
   .rw[xN 0 hi,eO,hp];exact ado h hcl L.1 L.2
 .rintro x ⟨rfl,_⟩;refine du (aj ?_);rw[cr]
end
def zF (a b:η):Prop:=∀u:Nat,a.getD u 0<=b.getD u 0
def zF.rfl {a:η}:zF a a:=λ_=>dC _
def zF.trans {a b c:η} (h:zF a b) (h':zF b c):zF a c:=λu=>s7 (h u) (h' u)
def ann (a b:Int):a<=mR a b:=by unfold mR;by_cases h:fQ a b=J<;>simp only[h,bk]<;>first|(have:=te.1 h;omega)|simp
def anm (a b:Int):b<=mR a b:=by
 unfold mR;by_cases h:fQ a b=J
 .rw[aC h];exact dC _
 .have:=gd.1 (Qq.2 h);rw[av h];omega
def Zt (a b:Int):mR a b=a\/mR a b=b:=by
 unfold mR;by_cases h:fQ a b=J
 .right;simp[h]
 .left;simp[h]
def Lo (a b:η):zF a (jl a b):=λu=>by rw[Q7];exact ann _ _
def Q3 (a b:η):zF b (jl a b):=λu=>by rw[Q7];exact anm _ _
def MT {a b:η} (h:zF a b) {x:ν} (z:cvr a x=J):cvr b x=J:=by
 unfold cvr at z ⊢;rw[bR]at z ⊢;exact s7 z (h _)
def RA (ar:Y WO) (q:Int) (e:ET):Y WO:=if e.2.1=4 then qQ (S:=lS) ar q (vy (S:=lS) 1 (bU ar q) (zB (K:=.int .i64) (V:=.bool) e.2.2.1 J (sA (S:=lS) 1 (bU ar q)))) else qQ (S:=lS) ar q (vy (S:=lS) 0 (bU ar q) (zB (K:=.int .i64) (V:=.bool) e.2.2.1 J (sA (S:=lS) 0 (bU ar q))))
def S6 {ar:Y WO} (q0:0<=a) (z:a<(l! ar:Int)):jT ((a,e),ar)=Z (RA ar a e):=by
 refine cI ?_;unfold jT RA a8 bt ck bq;dsimp only;refine aJ (λg=>?_) λg=>?_
 .exact aN q0 z (aN q0 z (aj (by rw[aC (show e.2.1=4 from g)])))
 .exact aN q0 z (aN q0 z (aj (by rw[av (show ¬e.2.1=4 from g)])))
def ac3 (e:ET):mN e=Z (decide (e.2.1=3\/e.2.1=4)):=by
 refine cI ?_;unfold mN bq aH;refine aY (λx=>x=decide (e.2.1=3\/e.2.1=4)) ?_ ?_
 .refine aJ (λg=>aj ?_) λg=>aj ?_
  .exact (aR (Or.inl g)).symm
  .have g:¬e.2.1=3:=g;show decide (e.2.1=4)=_;simp[g]
 .rintro x rfl;exact aj rfl
def QO {ar:Y WO} (o:WO) (i:Int) (h:a.toNat<l! ar):bU (qQ (S:=lS) ar a o) i=if i.toNat=a.toNat then o else bU ar i:=by
 unfold bU qQ dU;rw[ax,c6];by_cases e:a.toNat=i.toNat
 .rw[aC e,aC (by omega),aC e.symm];rfl
 .rw[av e,av (λz=>e z.symm),<-ax]
structure Z_ (ar ar':List WO):Prop where
 ln:l! ar'=l! ar
 hd:∀i:Int,(bU ar' i).1=(bU ar i).1
 eq:∀i:Int,(bU ar i).en≠ -1->bU ar' i=bU ar i
def Z_.rfl (ar:Y WO):Z_ ar ar:=⟨Eq.refl _,λ_=>Eq.refl _,λ_ _=>Eq.refl _⟩
def ag9 (ar:Y WO) (q:Int) (e:ET):l! (RA ar q e)=l! ar:=by
 unfold RA qQ;split<;>exact fL ..
def US {ar:Y WO} (e:ET) (i:Int) (h:a.toNat<l! ar):bU (RA ar a e) i=if i.toNat=a.toNat then (if e.2.1=4 then ((bU ar a).1,(bU ar a).2.1,zB (K:=.int .i64) (V:=.bool) e.2.2.1 J (bU ar a).2.2) else ((bU ar a).1,zB (K:=.int .i64) (V:=.bool) e.2.2.1 J (bU ar a).2.1,(bU ar a).2.2)) else bU ar i:=by
 unfold RA;by_cases g:e.2.1=4
 .rw[aC g,aC g,QO _ _ h];rfl
 .rw[av g,av g,QO _ _ h];rfl
def Z_.ent {ar ar':Y WO} (h:Z_ ar ar') (e:ET) (N:a.toNat<l! ar) (D:(bU ar a).en= -1):Z_ ar (RA ar' a e):=by
 obtain⟨h1,A,L⟩:=h;have hi:∀i:Int,i.toNat=a.toNat->bU ar i=bU ar a:=λi hi=>by unfold bU dU;rw[hi]
 refine ⟨by rw[ag9,h1],λi=>?_,λi z=>?_⟩
 .rw[US e i (by omega)];split
  .rename_i hiq;rw[hi i hiq];split<;>exact A a
  .exact A i
 .rw[US e i (by omega),av]
  .exact L i z
  .intro hiq;rw[hi i hiq]at z;exact z D
def Z_.mat {ar ar':Y WO} (h:Z_ ar ar') (p q:Int):sS (bU ar' p) (bU ar' q)=sS (bU ar p) (bU ar q):=by
 unfold sS WO.lk WO.th WO.rd WO.en WO.bg;rw[h.hd p,h.hd q]
def Z_.EnI {ar ar':Y WO} (h:Z_ ar ar') {re:η} (z:EnI j ar re):AI.EnI j ar' re:=λp hp=>by
 obtain⟨⟨a,b⟩,A,d,f⟩:=z p hp;have e:=h.eq p (by omega);rw[h.ln,e];exact⟨⟨a,b⟩,A,d,f⟩
def am1 {I:η->Prop} {c:Y η} {ar:Y WO} {q:Int} :∀(L:η) (clk:η),I clk->(∀clk p,p∈L->sS (bU ar p) (bU ar q)=J->St (bU ar p) e=J->I clk->I (jl clk (jc c (bU ar p).en)))->
 I (L.foldl (AF c ar q e) clk)/\zF clk (L.foldl (AF c ar q e) clk)/\∀p∈L,sS (bU ar p) (bU ar q)=J->St (bU ar p) e=J->zF (jc c (bU ar p).en) (L.foldl (AF c ar q e) clk)
 |[],clk,h,_=>⟨h,zF.rfl,λp hp=>by cases hp⟩
 |p::L,clk,h,A=>by
  have h1:I (AF c ar q e clk p)/\zF clk (AF c ar q e clk p)/\(sS (bU ar p) (bU ar q)=J->St (bU ar p) e=J->zF (jc c (bU ar p).en) (AF c ar q e clk p)):=by
   unfold AF;by_cases g:sS (bU ar p) (bU ar q)=J/\St (bU ar p) e=J
   .rw[aC g];exact⟨A clk p (cR ..) g.1 g.2 h,Lo _ _,λ_ _=>Q3 _ _⟩
   .rw[av g];exact⟨h,zF.rfl,λa b=>co ⟨a,b⟩ g⟩
  obtain⟨a,b,d⟩:=am1 L _ h1.1 λclk p hp=>A clk p (bM _ hp)
  refine ⟨a,h1.2.1.trans b,λD z m1 m2=>?_⟩;rcases aZ.1 z with rfl|z
  .exact (h1.2.2 m1 m2).trans b
  .exact d D z m1 m2
def SD (tm:Y ν) (ar:Y WO) (re:η) (clk:η):Nat:=l! (re.filter λp=> !cvr clk (jt tm (bU ar p).en))
def WI {tm:Y ν} {ar:Y WO} {re:η} {a b:η} (h:zF a b):SD tm ar re b<=SD tm ar re a:=by
 unfold SD;induction re with
 |nil=>exact bV _
 |cons p r z=>
  simp only[List.filter_cons];cases A:cvr a (jt tm (bU ar p).en) with
  |true=>rw[MT h A];exact z
  |false=>
   cases cvr b (jt tm (bU ar p).en) with
   |true=>simp only[yS,bY,c7,mw,bk,bK];omega
   |false=>simp only[mw,bk,bK];omega
def an1 {tm:Y ν} {ar:Y WO} {re:η} {p b:η} (h:zF p b) (hp:a∈re) (h0:cvr p (jt tm (bU ar a).en)=aa) (h1:cvr b (jt tm (bU ar a).en)=J):SD tm ar re b<SD tm ar re p:=by
 induction re with
 |nil=>cases hp
 |cons x r z=>
  have hle:=WI (tm:=tm) (ar:=ar) (re:=r) h;unfold SD at z hle ⊢;simp only[List.filter_cons];rcases aZ.1 hp with rfl|hp
  .rw[h0,h1];simp only[yS,bY,c7,mw,bk,bK];omega
  .have z:=z hp;cases A:cvr p (jt tm (bU ar x).en) with
   |true=>rw[MT h A];exact z
   |false=>
    cases cvr b (jt tm (bU ar x).en) with
    |true=>simp only[yS,bY,c7,mw,bk,bK];omega
    |false=>simp only[mw,bk,bK];omega
def aen {I:η->Prop} {c:Y η} {tm:Y ν} {ar:Y WO} {q:Int} {re:η} (htm:∀p∈re,cvr (jc c (bU ar p).en) (jt tm (bU ar p).en)=J):∀(L:η) (s:η×Bool),(∀p∈L,p∈re)->I s.1->(∀clk p,p∈L->sS (bU ar p) (bU ar q)=J->cvr clk (jt tm (bU ar p).bg)=J->I clk->I (jl clk (jc c (bU ar p).en)))->
 I (L.foldl (vo c tm ar q) s).1/\zF s.1 (L.foldl (vo c tm ar q) s).1/\((L.foldl (vo c tm ar q) s).2=J->s.2=J\/SD tm ar re (L.foldl (vo c tm ar q) s).1<SD tm ar re s.1)/\
 ((L.foldl (vo c tm ar q) s).2=aa->s.2=aa/\(L.foldl (vo c tm ar q) s).1=s.1/\∀p∈L,sS (bU ar p) (bU ar q)=J->cvr s.1 (jt tm (bU ar p).bg)=J->cvr s.1 (jt tm (bU ar p).en)=J)
 |[],s,_,h,_=>⟨h,zF.rfl,λh=>.inl h,λh=>⟨h,rfl,λp hp=>by cases hp⟩⟩
 |p::L,s,hL,h,A=>by
  have hpr:=hL p (cR ..);by_cases g:sS (bU ar p) (bU ar q)=J/\cvr s.1 (jt tm (bU ar p).bg)=J/\cvr s.1 (jt tm (bU ar p).en)=aa
  .have D:vo c tm ar q s p=(jl s.1 (jc c (bU ar p).en),J):=by unfold vo;rw[aC g]
   obtain⟨a,b,d,f⟩:=aen htm L (jl s.1 (jc c (bU ar p).en),J) (λp hp=>hL p (bM _ hp)) (A s.1 p (cR ..) g.1 g.2.1 h) λclk p hp=>A clk p (bM _ hp)
   simp only[t_,D];have hlt:SD tm ar re (jl s.1 (jc c (bU ar p).en))<SD tm ar re s.1:=an1 (Lo _ _) hpr g.2.2 (MT (Q3 _ _) (htm p hpr));refine ⟨a,(Lo _ _).trans b,λ_=>.inr (Nat.lt_of_le_of_lt (WI b) hlt),λhf=>?_⟩;have:=(f hf).1;cases this
  .have D:vo c tm ar q s p=s:=by unfold vo;rw[av g]
   obtain⟨a,b,d,f⟩:=aen htm L s (λp hp=>hL p (bM _ hp)) h λclk p hp=>A clk p (bM _ hp)
   simp only[t_,D];refine ⟨a,b,d,λhf=>?_⟩;obtain⟨f1,f2,f3⟩:=f hf;refine ⟨f1,f2,λN z m1 m2=>?_⟩;rcases aZ.1 z with rfl|z
   .cases hz:cvr s.1 (jt tm (bU ar N).en) with
    |true=>rfl
    |false=>exact co ⟨m1,m2,hz⟩ g
   .exact f3 N z m1 m2
def Sy (j:Int) (e:ET) (sp:η):l! (Jf j e sp)=l! sp:=by unfold Jf;split<;>simp only[ca]
def Sw (j:Int) (e:ET) (wt wa:η):l! (Je j e wt wa)=l! wa:=by
 unfold Je;split
 .split<;>simp only[ca]
 .split<;>simp only[QW]
def Z6 (k j:Int) (e:ET) (st:η) (si:Y η):l! (OP k j e st si)=l! st:=by unfold OP;split<;>simp only[fL]
def Gn (e:ET) (op:Y e!) (ar:Y WO):Nat->Y WO
 |0=>ar
 |n+1=>if uf (e.1,(n:Int)) op=J then RA (Gn e op ar n) (fm (e.1,(n:Int)) op) e else Gn e op ar n
def agy {op:Y e!} {ar:Y WO} (h:uf (e.1,(i:Int)) op=J):Gn e op ar (i+1)=RA (Gn e op ar i) (fm (e.1,(i:Int)) op) e:=aC h
def akn {op:Y e!} {ar:Y WO} (h:¬uf (e.1,(i:Int)) op=J):Gn e op ar (i+1)=Gn e op ar i:=av h
def sY (w:WT) (e:ET) (op:Y e!) (ar:Y WO):Y WO:=if e.2.1=3\/e.2.1=4 then Gn e op ar (l! w.2.1+1) else ar
def Nn {e:ET} {op:Y e!} {ar:Y WO} (h1:OpI (l! ar) op) (A:∀x∈op,(bU ar x.2).en= -1):∀n,Z_ ar (Gn e op ar n)
 |0=>Z_.rfl ar
 |n+1=>by
  have z:=Nn (e:=e) h1 A n;unfold Gn;split
  .rename_i D;have hm:=ry _ D;have:=h1 _ hm;exact z.ent e (by dsimp only at this;omega) (A _ hm)
  .exact z
def V6 {w:WT} {op:Y e!} {ar:Y WO} (h1:OpI (l! ar) op) (z:∀x∈op,(bU ar x.2).en= -1):Z_ ar (sY w e op ar):=by
 unfold sY;split
 .exact Nn h1 z _
 .exact Z_.rfl ar
structure JI (w:WT) (c:List η) (tm:List ν) (src:η) (op:List (ν×Int)) (re:η) (ar:List WO) (e:ET) (I:η->Prop):Prop where
 i0:I (aF (l! w.2.2.2.2.1) 0)
 i1:∀clk i,i∈src->0<=i->I clk->I (jl clk (jc c i))
 i2:∀clk (lk:Int) p,(e.2.1=3\/e.2.1=4)->0<=lk->lk<=(l! w.2.1:Int)->uf (e.1,lk) op=J->p∈re->sS (bU ar p) (bU ar (fm (e.1,lk) op))=J->St (bU ar p) e=J->I clk->I (jl clk (jc c (bU ar p).en))
 i3:∀clk p,uf (e.1,nU w e) op=J->p∈re->sS (bU ar p) (bU ar (fm (e.1,nU w e) op))=J->cvr clk (jt tm (bU ar p).bg)=J->I clk->I (jl clk (jc c (bU ar p).en))
 it:∀clk,I clk->l! clk=l! w.2.2.2.2.1/\0<=clk.getD e.1.toNat 0/\clk.getD e.1.toNat 0<1000000000
structure JR (w:WT) (c:List η) (tm:List ν) (src:η) (op:List (ν×Int)) (re:η) (ar:List WO) (e:ET) (clk:η):Prop where
 a:∀i∈src,0<=i->zF (jc c i) clk
 b:(e.2.1=3\/e.2.1=4)->∀lk:Int,0<=lk->lk<=(l! w.2.1:Int)->uf (e.1,lk) op=J->∀p∈re,sS (bU ar p) (bU ar (fm (e.1,lk) op))=J->St (bU ar p) e=J->zF (jc c (bU ar p).en) clk
 c:uf (e.1,nU w e) op=J->∀p∈re,sS (bU ar p) (bU ar (fm (e.1,nU w e) op))=J->cvr clk (jt tm (bU ar p).bg)=J->cvr clk (jt tm (bU ar p).en)=J
set_option maxRecDepth 10000 in
def ai7 {w:WT} {l:Y ET} {e:ET} (hev:WC w e) {j:Nat} (hj:j<=400) (hT:l! w.2.2.2.2.1<=4) (hL:l! w.2.1<=4) (hv:e.2.1=18->e.2.2.2.1<l! w.2.2.2.2.1) {c:Y η} {tm:Y ν} {la sp wa wt st se:η} {op:Y e!} {re:η} {ar:Y WO} {si ei:Y η}
 (h1:Em (l! w.2.2.2.2.1) j la) (h2:Em (l! w.2.2.2.2.1) j sp) (h3:Em (l! w.2.2.2.2.1) j wa) (hwt:l! wt=l! w.2.2.2.2.1) (h4:NJ (l! w.1) j st si) (h5:NJ (l! w.2.2.2.1) j se ei)
 (hc:CkL (l! w.2.2.2.2.1) j c tm) (ho:OpI (l! ar) op) (hoo:∀x∈op,(bU ar x.2).en= -1) (hr:EnI j ar re) (hrl:l! re<=400) (htm:∀p∈re,cvr (jc c (bU ar p).en) (jt tm (bU ar p).en)=J)
 {I:η->Prop} (hI:JI w c tm (vq w la sp wa si ei e) op re ar e I):
 Ok (gq (((j:Int),e),(w,l),c,tm,la,sp,wa,wt,st,se,op,re,ar,si,ei)) λy=>∃clk,(I clk/\JR w c tm (vq w la sp wa si ei e) op re ar e clk)/\y=((w,l),cN la e.1 (j:Int),Jf (j:Int) e sp,Je (j:Int) e wt wa,NL e wt,OP 4 (j:Int) e st si,OP 22 (j:Int) e se ei,scO w e op (sY w e op ar),c++[tk clk e.1.toNat],tm++[((tk clk e.1.toNat).getD e.1.toNat 0,e.1)],EP w e op re,scA w (j:Int) e op (sY w e op ar),Qe 4 (j:Int) e si,Qe 22 (j:Int) e ei):=by
 have t0:=hev.t0;have t1:=hev.t1;have hsl:l! (vq w la sp wa si ei e)<=401:=by
  have q:∀{n:Nat} {xs:η} {xss:Y η} {o:Int},NJ n j xs xss->0<=o->o<n->l! (xK (T:=aM) xss o)<=400:=λ{n xs xss o} h o0 o1=>by
   have e:o=((o.toNat:Nat):Int):=by omega
   obtain⟨a,b,cc⟩:=h.2.2 o.toNat (by omega);rw[e,yY];omega
  unfold vq;rw[bc,cj];split
  .simp
  .split
   .simp
   .split
    .rename_i g;have:=q h5 (hev.nm.fu (.inr g)).1 (hev.nm.fu (.inr g)).2;omega
    .split
     .rename_i g;split
      .have:=q h4 (hev.nm.ce (.inl g)).1 (hev.nm.ce (.inl g)).2;omega
      .simp
     .split<;>simp
 have hsv:∀v∈vq w la sp wa si ei e,v<(j:Int):=by
  have q:∀{n:Nat} {xs:η} {xss:Y η} {o:Int},NJ n j xs xss->0<=o->o<n->∀v∈xK (T:=aM) xss o,v<(j:Int):=λ{n xs xss o} h o0 o1 v hv=>by
   have e:o=((o.toNat:Nat):Int):=by omega
   rw[e,yY]at hv;exact ((h.2.2 o.toNat (by omega)).2.2 v hv).2
  intro v hv;unfold vq at hv;rcases bG.1 hv with hv|hv
  .rw[aE]at hv;rw[hv];exact (h1.geti t0 t1).2
  .split at hv
   .rw[aE]at hv;rw[hv];exact (h2.geti t0 t1).2
   .split at hv
    .rename_i g;rw[aE]at hv;rw[hv];exact (h1.geti (hev.nm.th (.inr g)).1 (hev.nm.th (.inr g)).2).2
    .split at hv
     .rename_i g;exact q h5 (hev.nm.fu (.inr g)).1 (hev.nm.fu (.inr g)).2 v hv
     .split at hv
      .rename_i g;split at hv
       .exact q h4 (hev.nm.ce (.inl g)).1 (hev.nm.ce (.inl g)).2 v hv
       .cases hv
      .split at hv
       .rw[aE]at hv;rw[hv];exact (h3.geti t0 t1).2
       .cases hv
 generalize hsrc:vq w la sp wa si ei e=src at*
 have hcl:=hc.cl;unfold gq nL lG mq mo B_ Prod.t Prod.u Prod.C a8 bt bI cA dO iC mF nJ Prod.w Prod.y Prod.z Prod.r Prod.F Prod.E Prod.G bS kq bT bX ko bf c5 aH cW;dsimp only;refine db (db (eg (by dsimp only[al];omega) (a? (bl (by simp only[al,cf];omega) (by omega) ?_))));refine aV (WU hev (by omega) h1 h2 h3 h4 h5) ?_;rw[hsrc];dsimp only;refine bh (by simp only[eW,fC]) ?_;refine g9 (l! src) (by omega) (λi x=>∃clk,x=((i:Int),(w,l),c,tm,la,sp,wa,wt,st,se,op,re,ar,si,ei,e,clk)/\I clk/\∀v∈src.take i,0<=v->zF (jc c v) clk) ?_ ?_ ⟨aF (l! w.2.2.2.2.1) 0,by simp only[al,cf];rfl,hI.i0,λv hv=>by simp at hv⟩
 .rintro i x hi ⟨clk,rfl,hk,hs⟩;refine dy ?_;have hvm:=Hj 0 hi;have hgv:geti aM src (i:Int)=src.getD i 0:=CR src i;have hlt:=hsv _ hvm;have htk:=xN 0 hi;generalize src.getD i 0=v at*
  refine aY (λx=>∃clk',x=((w,l),c,tm,la,sp,wa,wt,st,se,op,re,ar,si,ei,e,clk')/\I clk'/\∀v∈src.take (i+1),0<=v->zF (jc c v) clk') ?_ ?_
  .refine cY (aS ?_);dsimp only;have hgv':geti aM src (i:Int)=v:=hgv;rw[hgv'];refine fF (λv0=>?_) λv0=>?_
   .refine aN v0 (by omega) (aN v0 (by omega) (aS ?_));refine aV (Sl clk (jc c v) (by have:=(hI.it clk hk).1;unfold big;omega) (by rw[hc.jc v0 hlt];unfold big;omega)) (aj ⟨_,rfl,hI.i1 clk v hvm v0 hk,λu hu u0=>?_⟩);rw[htk]at hu;rcases bG.1 hu with hu|hu
    .exact (hs u hu u0).trans (Lo _ _)
    .rw[aE]at hu;rw[hu];exact Q3 _ _
   .refine aj ⟨clk,rfl,hk,λu hu u0=>?_⟩;rw[htk]at hu;rcases bG.1 hu with hu|hu
    .exact hs u hu u0
    .rw[aE]at hu;omega
  .rintro x ⟨clk',rfl,hk',hs'⟩;refine aj ⟨clk',?_,hk',hs'⟩;show (bA .i64 ((i:Int)+1),_)=_;rw[gM]
 rintro x ⟨clk,rfl,hk,hs⟩;rw[cr]at hs;refine du ?_;refine aw (P:=λy=>∃clk,(I clk/\JR w c tm src op re ar e clk)/\y=((w,l),cN la e.1 (j:Int),Jf (j:Int) e sp,Je (j:Int) e wt wa,NL e wt,OP 4 (j:Int) e st si,OP 22 (j:Int) e se ei,scO w e op (sY w e op ar),c++[tk clk e.1.toNat],tm++[((tk clk e.1.toNat).getD e.1.toNat 0,e.1)],EP w e op re,scA w (j:Int) e op (sY w e op ar),Qe 4 (j:Int) e si,Qe 22 (j:Int) e ei)) ?_ λy hy=>aj hy
 have sam:=V6 (w:=w) (e:=e) ho hoo;have hrl':l! re<=1000:=by omega
 refine aY (λx=>∃clk,x=((w,l),c,tm,la,sp,wa,wt,st,se,op,re,sY w e op ar,si,ei,e,clk)/\I clk/\(∀v∈src,0<=v->zF (jc c v) clk)/\((e.2.1=3\/e.2.1=4)->∀lk:Int,0<=lk->lk<=(l! w.2.1:Int)->uf (e.1,lk) op=J->∀p∈re,sS (bU ar p) (bU ar (fm (e.1,lk) op))=J->St (bU ar p) e=J->zF (jc c (bU ar p).en) clk)) ?_ ?_
 .dsimp only;refine aV (ac3 e) ?_;refine aJ (λhacc=>?_) λhacc=>?_
  .refine g9 (l! w.2.1+1) (by omega) (λi x=>∃clk,x=((i:Int),(w,l),c,tm,la,sp,wa,wt,st,se,op,re,Gn e op ar i,si,ei,e,clk)/\I clk/\(∀v∈src,0<=v->zF (jc c v) clk)/\∀lk:Int,0<=lk->lk<(i:Int)->uf (e.1,lk) op=J->∀p∈re,sS (bU ar p) (bU ar (fm (e.1,lk) op))=J->St (bU ar p) e=J->zF (jc c (bU ar p).en) clk) ?_ ?_ ⟨clk,rfl,hk,hs,λlk h0 h1=>by omega⟩
   .rintro i x hi ⟨clk,rfl,hk,hs,hb⟩;have hwr:bA .i64 (aP (l! w.2.1)+1)=((l! w.2.1+1:Nat):Int):=gM;refine dy ?_ (by dsimp only;rw[hwr];omega);have si_:=Nn (e:=e) ho hoo i;refine aY (λx=>∃clk',x=((w,l),c,tm,la,sp,wa,wt,st,se,op,re,Gn e op ar (i+1),si,ei,e,clk')/\I clk'/\(∀v∈src,0<=v->zF (jc c v) clk')/\∀lk:Int,0<=lk->lk<((i+1:Nat):Int)->uf (e.1,lk) op=J->∀p∈re,sS (bU ar p) (bU ar (fm (e.1,lk) op))=J->St (bU ar p) e=J->zF (jc c (bU ar p).en) clk') ?_ ?_
    .dsimp only;refine aO (λhq=>?_) λhq=>?_
     .have hm:=ry _ hq;have hqr:=ho _ hm;dsimp only at hqr;have q0:=hqr.1;have q1:fm (e.1,(i:Int)) op<(l! (Gn e op ar i):Int):=by rw[si_.ln];exact hqr.2
      refine aV (UY hT hc q0 q1 (si_.EnI hr) hrl' (hI.it clk hk).1) (bh (by simp only[eW,fC]) ?_);refine aV (S6 q0 q1) (aj ?_);have pe:∀p∈re,bU (Gn e op ar i) p=bU ar p:=λp hp=>si_.eq p (by have:=(hr p hp).2.2;omega)
      obtain⟨r1,r2,r3⟩:=am1 (I:=I) (c:=c) (ar:=Gn e op ar i) (q:=fm (e.1,(i:Int)) op) (e:=e) re clk hk (λclk p hp m1 m2 hk=>by
       rw[si_.mat]at m1;rw[pe p hp]at m2 ⊢;exact hI.i2 clk (i:Int) p hacc (by omega) (by omega) hq hp m1 m2 hk)
      refine ⟨_,by rw[agy hq],r1,λv hv v0=>(hs v hv v0).trans r2,λlk l0 l1 ho' p hp m1 m2=>?_⟩;by_cases hlk:lk=(i:Int)
      .subst hlk;have:=r3 p hp (by rw[si_.mat];exact m1) (by rw[pe p hp];exact m2);rw[pe p hp]at this;exact this
      .exact (hb lk l0 (by omega) ho' p hp m1 m2).trans r2
     .refine aj ⟨clk,by rw[akn (by rw[hq];simp)],hk,hs,λlk l0 l1 ho' p hp m1 m2=>?_⟩;by_cases hlk:lk=(i:Int)
      .subst hlk;have hq:uf (e.1,(i:Int)) op=aa:=hq;rw[hq]at ho';cases ho'
      .exact hb lk l0 (by omega) ho' p hp m1 m2
    .rintro x ⟨clk',rfl,a,b,d⟩;refine aj ⟨clk',?_,a,b,d⟩;show (bA .i64 ((i:Int)+1),_)=_;rw[gM]
   .rintro x ⟨clk,rfl,a,b,d⟩;have hwr:bA .i64 (aP (l! w.2.1)+1)=((l! w.2.1+1:Nat):Int):=gM;refine du (aj ⟨clk,by unfold sY;rw[aC hacc],a,b,λ_ lk l0 l1=>d lk l0 (by omega)⟩) (by dsimp only;rw[hwr];omega)
  .exact aj ⟨clk,by unfold sY;rw[av hacc],hk,hs,λh=>co h hacc⟩
 rintro x ⟨clk,rfl,hk,hs,hb⟩;dsimp only;refine aY (λx=>∃clk,x=((w,l),c,tm,la,sp,wa,wt,st,se,op,re,sY w e op ar,si,ei,e,clk)/\I clk/\JR w c tm src op re ar e clk) ?_ ?_
 .refine aV (H8 hev) ?_;refine aO (λhq=>?_) λhq=>?_
  .have hm:=ry _ hq;have hqr:=ho _ hm;dsimp only at hqr;have q0:=hqr.1;have q1:fm (e.1,nU w e) op<(l! (sY w e op ar):Int):=by rw[sam.ln];exact hqr.2
   have pe:∀p∈re,bU (sY w e op ar) p=bU ar p:=λp hp=>sam.eq p (by have:=(hr p hp).2.2;omega)
   have uncL:∀clk,SD tm (sY w e op ar) re clk<=l! re:=λclk=>by unfold SD;exact DA ..
   refine aes 1000 (λx=>2*SD tm (sY w e op ar) re x.2.2.2.2.2.2.2.2.2.2.2.2.2.2.2.2.1+if x.2.2.2.2.2.2.2.2.2.2.2.2.2.2.2.2.2=J then 1 else 0) (λx=>∃clk ag,x=(fm (e.1,nU w e) op,(w,l),c,tm,la,sp,wa,wt,st,se,op,re,sY w e op ar,si,ei,e,clk,ag)/\I clk/\(∀v∈src,0<=v->zF (jc c v) clk)/\((e.2.1=3\/e.2.1=4)->∀lk:Int,0<=lk->lk<=(l! w.2.1:Int)->uf (e.1,lk) op=J->∀p∈re,sS (bU ar p) (bU ar (fm (e.1,lk) op))=J->St (bU ar p) e=J->zF (jc c (bU ar p).en) clk)/\(ag=aa->∀p∈re,sS (bU ar p) (bU ar (fm (e.1,nU w e) op))=J->cvr clk (jt tm (bU ar p).bg)=J->cvr clk (jt tm (bU ar p).en)=J)) ?_ ?_ ⟨clk,J,rfl,hk,hs,hb,nofun⟩
   .rintro x ⟨clk,ag,rfl,hk,hs,hb,hd⟩;dsimp only;refine aO (λhag=>?_) λhag=>?_
    .refine aV (UX hT hc q0 q1 (sam.EnI hr) hrl' (hI.it clk hk).1) (bh (by simp only[eW,fC]) (aj ?_));obtain⟨r1,r2,r3,r4⟩:=aen (I:=I) (c:=c) (tm:=tm) (ar:=sY w e op ar) (q:=fm (e.1,nU w e) op) (re:=re) (λp hp=>by rw[pe p hp];exact htm p hp) re (clk,aa) (λp hp=>hp) hk (λclk p hp m1 m2 hk=>by
      rw[sam.mat]at m1;rw[pe p hp]at m2 ⊢;exact hI.i3 clk p hq hp m1 m2 hk)
     generalize List.foldl (vo c tm (sY w e op ar) (fm (e.1,nU w e) op)) (clk,aa) re=s at*
     obtain⟨sc,sa⟩:=s;dsimp only at r1 r2 r3 r4;refine ⟨⟨sc,sa,rfl,r1,λv hv v0=>(hs v hv v0).trans r2,λh lk l0 l1 ho' p hp m1 m2=>(hb h lk l0 l1 ho' p hp m1 m2).trans r2,λh p hp m1 m2=>?_⟩,?_⟩
     .obtain⟨_,f2,f3⟩:=r4 h;rw[f2]at m2 ⊢;have:=f3 p hp (by rw[sam.mat];exact m1) (by rw[pe p hp];exact m2);rw[pe p hp]at this;exact this
     .have hle:SD tm (sY w e op ar) re sc<=SD tm (sY w e op ar) re clk:=WI r2;have hag:ag=J:=hag;show 2*SD tm (sY w e op ar) re sc+(if sa=J then 1 else 0)<2*SD tm (sY w e op ar) re clk+(if ag=J then 1 else 0)
      rw[hag,aC rfl];cases sa with
      |false=>rw[av (by simp)];omega
      |true=>
       rcases r3 rfl with h|h
       .cases h
       .rw[aC rfl];omega
    .have hag:ag=aa:=hag;exact aj ⟨clk,rfl,hk,hs,hb,λ_=>hd hag⟩
   .dsimp only;have:=uncL clk;rw[aC rfl];omega
  .refine aj ⟨clk,rfl,hk,hs,hb,λh=>?_⟩;have hq:uf (e.1,nU w e) op=aa:=hq;rw[hq]at h;cases h
 rintro x ⟨clk,rfl,hk,hj'⟩;dsimp only;obtain⟨k1,k2,k3⟩:=hI.it clk hk;have et:e.1=((e.1.toNat:Nat):Int):=by omega
 have htick:qV (clk,e.1)=Z (tk clk e.1.toNat):=by
  rw[et,cf];exact aku clk e.1.toNat (by unfold big;omega) (by omega) k2 (by omega)
 refine aV htick ?_;have htl:=hc.tl;have hlt:l! (tk clk e.1.toNat)=l! w.2.2.2.2.1:=by rw[O5,k1];omega
 refine bl (by rw[cj];omega) (by omega) (aN t0 (by rw[hlt];exact t1) (aS (bl (by rw[cj];omega) (by omega) ?_)));have hgt:geti aM (tk clk e.1.toNat) e.1=(tk clk e.1.toNat).getD e.1.toNat 0:=by
  rw[et,CR,cf]
 have hgt':geti aM (tk clk e.1.toNat) e.1=(tk clk e.1.toNat).getD e.1.toNat 0:=hgt;rw[hgt'];refine aV (S5 hev (by rw[sam.ln];exact ho) (λv hv=>by rw[sam.ln];exact (hr v hv).1) hrl') ?_;dsimp only;refine bh (by simp only[eW,fC]) ?_;refine aV (ag8 hev (by omega) hT hv h1 h2 h3 hwt h4 h5) ?_;dsimp only;refine bh (by simp only[ca,Sy,Sw,Ky,Z6,eW,fC]) (aj ⟨clk,⟨hk,hj'⟩,rfl⟩)
def Tx {ar:Y WO} :bU ar a=bU ar (a.toNat:Int):=by unfold bU dU;rw[cf]
def QP {ar:Y WO} (o:WO) (h:a.toNat<l! ar):bU (ar++[o]) a=bU ar a:=by
 unfold bU dU;rw[ax,ax,bj h]
def aiu (ar:Y WO) (o:WO):bU (ar++[o]) (l! ar:Int)=o:=by
 unfold bU dU;rw[cf,ax,uK];rfl
def Ad (op:Y e!):Prop:=(op.map (·.1)).Nodup
def Zj (k:ν) {x:e!}:∀{op:Y e!},Ad op->x∈Bb k op->x.1≠k
 |[],_,h=>by cases h
 |e::r,A,h=>by
  unfold Ad at A;rw[bZ,t8]at A;simp only[Bb]at h;cases z:N7 k e.1 with
  |true=>
   rw[z]at h;intro he;exact A.1 (by rw[<- DZ.1 z,<-he];exact List.mem_map_of_mem h)
  |false=>
   rw[z]at h;rcases aZ.1 h with h|h
   .rw[h];intro he;rw[DZ.2 he.symm]at z;cases z
   .exact Zj k A.2 h
def Ad.del (k:ν):∀{op:Y e!},Ad op->Ad (Bb k op)
 |[],h=>h
 |e::r,z=>by
  unfold Ad at z ⊢;rw[bZ,t8]at z;simp only[Bb];cases D:N7 k e.1 with
  |true=>exact z.2
  |false=>
   show (fP (·.1) (e::Bb k r)).Nodup;rw[bZ,t8];refine ⟨λh=>z.1 ?_,Ad.del k z.2⟩;obtain⟨x,A,hxe⟩:=ch.1 h;rw[<- hxe];exact List.mem_map_of_mem (E7 k A)
def Tz {k:ν} {x:e!}:∀{op:Y e!},Ad op->x∈xV k a op->x=(k,a)\/(x∈op/\x.1≠k)
 |[],_,h=>.inl (aE.1 h)
 |e::r,A,h=>by
  unfold Ad at A;rw[bZ,t8]at A;simp only[xV]at h;cases z:N7 k e.1 with
  |true=>
   rw[z]at h;rcases aZ.1 h with h|h
   .exact .inl h
   .refine .inr ⟨bM _ h,λhe=>A.1 ?_⟩;rw[<- DZ.1 z,<-he];exact List.mem_map_of_mem h
  |false=>
   rw[z]at h;rcases aZ.1 h with h|h
   .rw[h];exact .inr ⟨cR ..,λhe=>by rw[DZ.2 he.symm]at z;cases z⟩
   .rcases Tz A.2 h with h|h
    .exact .inl h
    .exact .inr ⟨bM _ h.1,h.2⟩
def Pj {k:ν} {y:ν}:∀{op:Y e!},y∈(xV k a op).map (·.1)->y=k\/y∈op.map (·.1)
 |[],h=>.inl (by simpa[xV] using h)
 |e::r,h=>by
  simp only[xV]at h;cases z:N7 k e.1 with
  |true=>
   rw[z]at h;have h:y∈k::r.map (·.1):=h;rcases aZ.1 h with h|h
   .exact .inl h
   .exact .inr (bM _ h)
  |false=>
   rw[z]at h;have h:y∈e.1::(xV k a r).map (·.1):=h;rcases aZ.1 h with h|h
   .exact .inr (h▸cR ..)
   .rcases Pj h with h|h
    .exact .inl h
    .exact .inr (bM _ h)
def Ad.put (k:ν) (v:Int):∀{op:Y e!},Ad op->Ad (xV k v op)
 |[],_=>by simp[Ad,xV]
 |e::r,z=>by
  unfold Ad at z ⊢;rw[bZ,t8]at z;simp only[xV];cases A:N7 k e.1 with
  |true=>
   show (k::r.map (·.1)).Nodup;rw[DZ.1 A,t8];exact z
  |false=>
   show (e.1::(xV k v r).map (·.1)).Nodup;rw[t8];refine ⟨λh=>?_,Ad.put k v z.2⟩;rcases Pj h with h|h
   .rw[DZ.2 h.symm]at A;cases A
   .exact z.1 h
structure WS (j:Nat) (op:List (ν×Int)) (re:η) (ar:List WO):Prop where
 ks:Ad op
 o:∀x∈op,(0<=x.2/\x.2<(l! ar:Int))/\(bU ar x.2).th=x.1.1/\(bU ar x.2).lk=x.1.2/\(bU ar x.2).en= -1/\0<=x.1.2
 a:∀k:Nat,k<l! ar->(0<=(bU ar k).bg/\(bU ar k).bg<(j:Int))/\((bU ar k).en= -1\/((bU ar k).bg<(bU ar k).en/\(bU ar k).en<(j:Int)))
 r:∀p∈re,(0<=p/\p<(l! ar:Int))/\(bU ar p).en≠ -1
 rl:l! re<=j
def WS.op {op:Y e!} {re:η} {ar:Y WO} (h:WS j op re ar):OpI (l! ar) op:=λx z=>(h.o x z).1
def WS.oo {op:Y e!} {re:η} {ar:Y WO} (h:WS j op re ar):∀x∈op,(bU ar x.2).en= -1:=λx z=>(h.o x z).2.2.2.1
def WS.en {op:Y e!} {re:η} {ar:Y WO} (h:WS j op re ar):EnI j ar re:=λp hp=>by
 obtain⟨⟨p0,D⟩,p2⟩:=h.r p hp;obtain⟨A,z⟩:=h.a p.toNat (by omega);rw[<- Tx]at A z;refine ⟨⟨p0,D⟩,A,?_⟩;rcases z with z|z
 .exact co z p2
 .exact⟨by omega,z.2⟩
def WS.sam {op:Y e!} {re:η} {ar ar':Y WO} (h:WS j op re ar) (s:Z_ ar ar'):WS j op re ar':=by
 obtain⟨h1,h2,N,L,D⟩:=h;have e:∀i:Int,(bU ar' i).1=(bU ar i).1:=s.hd;refine ⟨h1,λx z=>?_,λk A=>?_,λp hp=>?_,D⟩
 .have:=h2 x z;unfold WO.th WO.lk WO.en at this ⊢;rw[e,s.ln];exact this
 .have:=N k (by rw[<- s.ln];exact A);unfold WO.bg WO.en at this ⊢;rw[e];exact this
 .have:=L p hp;unfold WO.en at this ⊢;rw[e,s.ln];exact this
def EQ {w:WT} {op:Y e!} {ar:Y WO} (hi:OpI (l! ar) op) (i:Int):bU (Cy w a e op ar) i=if scQ w e op=J/\i.toNat=(fm (e.1,nU w e) op).toNat then UU a (bU ar (fm (e.1,nU w e) op)) else bU ar i:=by
 unfold Cy;by_cases A:scQ w e op=J
 .rw[aC A];have:=hi _ (ry _ A);rw[QO _ _ (by dsimp only at this;omega)];by_cases D:i.toNat=(fm (e.1,nU w e) op).toNat
  .rw[aC D,aC ⟨A,D⟩]
  .rw[av D,av (λz=>D z.2)]
 .rw[av A,av (λz=>A z.1)]
def S7 {w:WT} {op:Y e!} (D:Ad op) {x:e!} (h:x∈Ji w e op):x∈op/\(scQ w e op=J->x.1≠(e.1,nU w e)):=by
 unfold Ji at h;split at h
 .exact⟨E7 _ h,λ_=>Zj _ D h⟩
 .rename_i A;exact⟨h,λz=>co z A⟩
def aae {w:WT} {op:Y e!} (z:Ad op):Ad (Ji w e op):=by
 unfold Ji;split
 .exact z.del _
 .exact z
def aih {w:WT} {op:Y e!} {re:η} {ar:Y WO} (h:WS j op re ar) {x:e!} (hx:x∈Ji w e op) (L:Int):bU (Cy w L e op ar) x.2=bU ar x.2:=by
 obtain⟨h1,h2⟩:=S7 h.ks hx;rw[EQ h.op,av];rintro⟨D,N⟩;have hm:=ry _ D;have A:=h.o _ h1;have z:=h.o _ hm;refine h2 D ?_;have e1:bU ar x.2=bU ar (fm (e.1,nU w e) op):=by unfold bU dU;rw[N]
 dsimp only at z;rw[e1]at A;exact oS (A.2.1.symm.trans z.2.1) (A.2.2.1.symm.trans z.2.2.1)
def WS.next {w:WT} {op:Y e!} {re:η} {ar:Y WO} (h:WS j op re ar):WS (j+1) (scO w e op ar) (EP w e op re) (scA w (j:Int) e op ar):=by
 have z:=ae5 w (j:Int) e op ar;have e0:nU w e=nU w e:=rfl;have m1:WS (j+1) (Ji w e op) (EP w e op re) (Cy w (j:Int) e op ar):=by
  refine ⟨aae h.ks,λx A=>?_,λk N=>?_,λp hp=>?_,?_⟩
  .rw[aih h A,z];exact h.o x (S7 h.ks A).1
  .rw[z]at N;rw[EQ h.op];split
   .rename_i hz;have hm:=h.o _ (ry _ hz.1);dsimp only at hm;have ha:=h.a (fm (e.1,nU w e) op).toNat (by omega);rw[<- Tx]at ha;unfold UU;dsimp only[WO.bg,WO.en];have:=ha.1;dsimp only[WO.bg]at this;omega
   .have ha:=h.a k N;omega
  .unfold EP at hp;have old:p∈re->(0<=p/\p<(l! (Cy w (j:Int) e op ar):Int))/\(bU (Cy w (j:Int) e op ar) p).en≠ -1:=λhp=>by
    obtain⟨L,D⟩:=h.r p hp;rw[z];refine ⟨L,?_⟩;rw[EQ h.op];split
    .unfold UU;dsimp only[WO.en];omega
    .exact D
   split at hp
   .rename_i hq;rcases bG.1 hp with hp|hp
    .exact old hp
    .rw[aE]at hp;subst hp;have hm:=h.o _ (ry _ hq);rw[z];refine ⟨hm.1,?_⟩;rw[EQ h.op,aC ⟨hq,rfl⟩];unfold UU;dsimp only[WO.en];omega
   .exact old hp
  .unfold EP;have:=h.rl;split
   .rw[bc,cj];omega
   .omega
 unfold scO scA;by_cases g:0<=OQ w e
 .rw[aC g,aC g];generalize hn:((e.1,OQ w e,(j:Int),-1,decide (e.2.1=8)),([],[]))=new;have hnew:new=((e.1,OQ w e,(j:Int),-1,decide (e.2.1=8)),[],[]):=hn.symm;have hlen:(l! (Cy w (j:Int) e op ar++[new]:Y WO):Int)=(l! ar:Int)+1:=by rw[bc,cj,z];omega
  have hat:bU (Cy w (j:Int) e op ar++[new]) (l! ar:Int)=new:=by rw[<- z];exact aiu _ _
  refine ⟨m1.ks.put _ _,λx A=>?_,λk N=>?_,λp hp=>?_,m1.rl⟩
  .rcases Tz m1.ks A with rfl|⟨A,_⟩
   .dsimp only;rw[hat,hlen,hnew];exact⟨⟨by omega,by omega⟩,rfl,rfl,rfl,g⟩
   .obtain⟨⟨q0,L⟩,D⟩:=m1.o x A;rw[z]at L;rw[QP _ (by rw[z];omega),hlen];exact⟨⟨q0,by omega⟩,D⟩
  .rw[bc,cj,z]at N;by_cases hz:k=l! ar
   .subst hz;rw[hat,hnew];exact⟨⟨by show (0:Int)<=(j:Int);omega,by show (j:Int)<_;omega⟩,.inl rfl⟩
   .rw[QP _ (by rw[z,cf];omega)];exact m1.a k (by rw[z];omega)
  .obtain⟨⟨q0,L⟩,D⟩:=m1.r p hp;rw[z]at L;rw[QP _ (by rw[z];omega),hlen];exact⟨⟨q0,by omega⟩,D⟩
 .rw[av g,av g];exact m1
structure JCw (w:WT) (l:List ET) (j:Nat) (c:List η) (clk:η):Prop where
 ln:l! clk=l! w.2.2.2.2.1
 b:∀u:Nat,0<=clk.getD u 0/\clk.getD u 0<=(ct l u j:Int)
 cl:∀i:Nat,i<j->(c.getD i []).getD (l8 l i) 0<=clk.getD (l8 l i) 0->zF (c.getD i []) clk
structure CI (w:WT) (l:List ET) (j:Nat) (c:List η) (tm:List ν) (la:η):Prop where
 k:CkL (l! w.2.2.2.2.1) j c tm
 tv:∀i:Nat,i<j->tm.getD i (0,0)=((c.getD i []).getD (l8 l i) 0,(l8 l i:Int))
 nn:∀i:Nat,i<j->∀u:Nat,0<=(c.getD i []).getD u 0/\(c.getD i []).getD u 0<=(ct l u (i+1):Int)
 own:∀i:Nat,i<j->(c.getD i []).getD (l8 l i) 0=(ct l (l8 l i) (i+1):Int)
 cls:∀i k:Nat,i<j->k<j->(c.getD i []).getD (l8 l i) 0<=(c.getD k []).getD (l8 l i) 0->zF (c.getD i []) (c.getD k [])
 lav:∀u:Nat,u<l! w.2.2.2.2.1->(0<=la.getD u 0->la.getD u 0<(j:Int)/\l8 l (la.getD u 0).toNat=u/\ct l u j=ct l u ((la.getD u 0).toNat+1))/\(la.getD u 0<0->ct l u j=0)
def CI.cvr {w:WT} {l:Y ET} {c:Y η} {tm:Y ν} {la:η} (h:CI w l j c tm la) (h0:0<=a) (h1:a<(j:Int)) (clk:η):AI.cvr clk (jt tm a)=J↔(jc c a).getD (l8 l a.toNat) 0<=clk.getD (l8 l a.toNat) 0:=by
 unfold AI.cvr jt jc;rw[h.tv a.toNat (by omega),bR,cf]
def JCw.join {w:WT} {l:Y ET} {c:Y η} {tm:Y ν} {la:η} (h:CI w l j c tm la) {clk:η} (z:JCw w l j c clk) (h0:0<=a) (h1:a<(j:Int)):JCw w l j c (jl clk (jc c a)):=by
 have hi:a.toNat<j:=by omega
 refine ⟨by rw[G9,z.ln,h.k.jc h0 h1];exact Nat.max_self _,λu=>?_,λk hkj hle=>?_⟩
 .rw[Q7];have i:=z.b u;have b:=h.nn a.toNat hi u;have d:=ZQ l u (show a.toNat+1<=j from hi);have e:jc c a=c.getD a.toNat []:=rfl;rw[e];rcases Zt (clk.getD u 0) ((c.getD a.toNat []).getD u 0) with h|h<;>rw[h]<;>omega
 .rw[Q7]at hle;rcases Zt (clk.getD (l8 l k) 0) ((jc c a).getD (l8 l k) 0) with e|e
  .rw[e]at hle;exact (z.cl k hkj hle).trans (Lo _ _)
  .rw[e]at hle;exact (h.cls k a.toNat hkj hi hle).trans (Q3 _ _)
def JCw.zero {w:WT} {l:Y ET} {c:Y η} {tm:Y ν} {la:η} (h:CI w l j c tm la):JCw w l j c (aF (l! w.2.2.2.2.1) 0):=by
 have z:∀u:Nat,(aF (l! w.2.2.2.2.1) (0:Int)).getD u 0=0:=λu=>by
  rw[ax,hP];split<;>rfl
 refine ⟨c4 ..,λu=>by rw[z];omega,λi hi hle=>?_⟩;rw[z,h.own i hi]at hle;have:=RE l i;omega
def adu (clk:η) (t:Nat):zF clk (tk clk t):=λu=>by
 rw[KB];split
 .rename_i h;rw[h];omega
 .exact dC _
def CI.next {w:WT} {l:Y ET} {c:Y η} {tm:Y ν} {la:η} (h:CI w l j c tm la) (hla:Em (l! w.2.2.2.2.1) j la) (t0:0<=(eN l j).1) (t1:(eN l j).1<l! w.2.2.2.2.1) {clk:η} (hk:JCw w l j c clk) (hp:0<=la.getD (l8 l j) 0->zF (jc c (la.getD (l8 l j) 0)) clk):
 CI w l (j+1) (c++[tk clk (l8 l j)]) (tm++[((tk clk (l8 l j)).getD (l8 l j) 0,(eN l j).1)]) (cN la (eN l j).1 (j:Int))/\zF clk ((c++[tk clk (l8 l j)]).getD j [])/\∀u,u≠l8 l j->((c++[tk clk (l8 l j)]).getD j []).getD u 0=clk.getD u 0:=by
 have hcl:=h.k.cl;have htl:=h.k.tl;have et:(eN l j).1=(l8 l j:Int):=by unfold l8;omega
 have tlt:l8 l j<l! w.2.2.2.2.1:=by omega
 have N:∀i:Nat,i<j->(c++[tk clk (l8 l j)]).getD i []=c.getD i []:=λi hi=>by
  rw[ax,ax,bj (by omega)]
 have gj:(c++[tk clk (l8 l j)]).getD j []=tk clk (l8 l j):=by
  rw[ax,<-hcl,uK];rfl
 have tl:∀i:Nat,i<j->(tm++[((tk clk (l8 l j)).getD (l8 l j) 0,(eN l j).1)]).getD i (0,0)=tm.getD i (0,0):=λi hi=>by
  simp only[ax,bj (show i<l! tm by omega)]
 have tj:(tm++[((tk clk (l8 l j)).getD (l8 l j) 0,(eN l j).1)]).getD j (0,0)=((tk clk (l8 l j)).getD (l8 l j) 0,(eN l j).1):=by
  rw[ax,<-htl,uK];rfl
 have hown:clk.getD (l8 l j) 0=(ct l (l8 l j) j:Int):=by
  have hb:=hk.b (l8 l j);obtain⟨a1,a2⟩:=h.lav (l8 l j) tlt;by_cases h0:0<=la.getD (l8 l j) 0
  .obtain⟨q1,q2,q3⟩:=a1 h0;have:=hp h0 (l8 l j);have ho:=h.own (la.getD (l8 l j) 0).toNat (by omega);rw[q2]at ho;have e:jc c (la.getD (l8 l j) 0)=c.getD (la.getD (l8 l j) 0).toNat []:=rfl;rw[e,ho,<-q3]at this;omega
  .have:=a2 (by omega);omega
 have htk:(tk clk (l8 l j)).getD (l8 l j) 0=(ct l (l8 l j) (j+1):Int):=by
  rw[KB,aC rfl,hown,RE];omega
 refine ⟨⟨⟨by simp[hcl],by simp[htl],λi hi=>?_,λi hi=>?_⟩,λi hi=>?_,λi hi u=>?_,λi hi=>?_,λi k hi hkk hle=>?_,λu D=>?_⟩,by rw[gj];exact adu _ _,λu D=>by rw[gj,KB,av D]⟩
 .rcases bx i j with z|z
  .rw[N i z];exact h.k.ln i z
  .have:i=j:=by omega
   subst this;rw[gj,O5,hk.ln];omega
 .rcases bx i j with z|z
  .rw[tl i z];exact h.k.th i z
  .have:i=j:=by omega
   subst this;rw[tj];exact t0
 .rcases bx i j with z|z
  .rw[tl i z,N i z];exact h.tv i z
  .have:i=j:=by omega
   subst this;rw[tj,gj,et]
 .rcases bx i j with z|z
  .rw[N i z];exact h.nn i z u
  .have:i=j:=by omega
   subst this;rw[gj];by_cases D:u=l8 l i
   .rw[D,htk];omega
   .rw[KB,av D];have:=hk.b u;have:=ZQ l u (show i<=i+1 by omega);omega
 .rcases bx i j with z|z
  .rw[N i z];exact h.own i z
  .have:i=j:=by omega
   subst this;rw[gj];exact htk
 .rcases bx i j with z|z
  .rcases bx k j with A|A
   .rw[N i z,N k A] at*
    exact h.cls i k z A hle
   .have:k=j:=by omega
    subst this;rw[N i z,gj] at*
    refine zF.trans (hk.cl i z ?_) (adu _ _);by_cases D:l8 l i=l8 l k
    .rw[D,hown];have ho:=h.own i z;rw[D]at ho;rw[ho];have:=ZQ l (l8 l k) (show i+1<=k from z);omega
    .rw[KB,av D]at hle;exact hle
  .have:i=j:=by omega
   subst this;rcases bx k i with A|A
   .rw[N k A,gj,htk]at hle;have:=(h.nn k A (l8 l i)).2;have:=ZQ l (l8 l i) (show k+1<=i from A);have:=RE l i;omega
   .have:k=i:=by omega
    subst this;exact zF.rfl
 .rw[et,vu];have hll:=hla.1;rw[ax,c6];by_cases L:l8 l j=u
  .rw[aC L,aC (by omega)];simp only[nY];refine ⟨λ_=>⟨by omega,by rw[cf];exact L,by rw[cf]⟩,λhz=>by omega⟩
  .rw[av L,<-ax];have hc:ct l u (j+1)=ct l u j:=by simp only[ct,av L,cX]
   rw[hc];obtain⟨a1,a2⟩:=h.lav u D;refine ⟨λhz=>?_,a2⟩;obtain⟨q1,q2,q3⟩:=a1 hz;exact⟨by omega,q2,q3⟩
structure WkG (w:WT) (l:List ET) (j:Nat) (c:List η) (tm:List ν) (la sp wa wt st se:η) (op:List (ν×Int)) (re:η) (ar:List WO) (si ei:List η):Prop where
 ci:CI w l j c tm la
 ws:WS j op re ar
 la:Em (l! w.2.2.2.2.1) j la
 sp:Em (l! w.2.2.2.2.1) j sp
 wa:Em (l! w.2.2.2.2.1) j wa
 wt:l! wt=l! w.2.2.2.2.1
 st:NJ (l! w.1) j st si
 se:NJ (l! w.2.2.2.1) j se ei
structure JK (w:WT) (c:List η) (tm:List ν) (src:η) (op:List (ν×Int)) (re:η) (ar:List WO) (e:ET) (I:η->Prop):Prop where
 i0:I (aF (l! w.2.2.2.2.1) 0)
 i1:∀clk i,i∈src->0<=i->I clk->I (jl clk (jc c i))
 i2:∀clk (lk:Int) p,(e.2.1=3\/e.2.1=4)->0<=lk->lk<=(l! w.2.1:Int)->uf (e.1,lk) op=J->p∈re->sS (bU ar p) (bU ar (fm (e.1,lk) op))=J->St (bU ar p) e=J->I clk->I (jl clk (jc c (bU ar p).en))
 i3:∀clk p,uf (e.1,nU w e) op=J->p∈re->sS (bU ar p) (bU ar (fm (e.1,nU w e) op))=J->cvr clk (jt tm (bU ar p).bg)=J->I clk->I (jl clk (jc c (bU ar p).en))
structure CKj (w:WT) (l:List ET) (j:Nat) (c:List η) (tm:List ν) (la sp wa:η) (op:List (ν×Int)) (re:η) (ar:List WO) (si ei:List η) (clk:η):Prop where
 jc:JCw w l j c clk
 jr:JR w c tm (vq w la sp wa si ei (eN l j)) op re ar (eN l j) clk
 js:∀I,JK w c tm (vq w la sp wa si ei (eN l j)) op re ar (eN l j) I->I clk
def TR.note {w:WT} {l:Y ET} (A:TR (w,l)) (L:j<l! l):(eN l j).2.1=18->(eN l j).2.2.2.1<l! w.2.2.2.2.1:=λh=>by
 have sc:=A.sc L;have en:=sc.en;have z:=sc.va.el (by omega) (by omega) (by omega) (by omega) (by omega);rw[h,HN]at z;split at z
 .have z:(eN l j).2.2.2.1= -1:=z;omega
 .rename_i D;have:=(Kp (u:=(eN l j).2.2.2.1) D).2;have e3:=en.e3;have z:(eN l j).2.2.2.1=Dr _ _:=z;rw[<- z]at this;omega
def aab (w:WT) (la sp wa:η) (si ei:Y η) (e:ET):geti aM la e.1∈vq w la sp wa si ei e:=by
 unfold vq;exact ik _ (aE.2 rfl)
def ai9 {w:WT} (hev:WC w e) {la sp wa st se:η} {si ei:Y η} (h1:Em (l! w.2.2.2.2.1) j la) (N:Em (l! w.2.2.2.2.1) j sp) (L:Em (l! w.2.2.2.2.1) j wa) (D:NJ (l! w.1) j st si) (A:NJ (l! w.2.2.2.1) j se ei):∀v∈vq w la sp wa si ei e,v<(j:Int):=by
 have t0:=hev.t0;have t1:=hev.t1;have q:∀{n:Nat} {xs:η} {xss:Y η} {o:Int},NJ n j xs xss->0<=o->o<n->∀v∈xK (T:=aM) xss o,v<(j:Int):=λ{n xs xss o} h o0 o1 v z=>by
  have e:o=((o.toNat:Nat):Int):=by omega
  rw[e,yY]at z;exact ((h.2.2 o.toNat (by omega)).2.2 v z).2
 intro v z;unfold vq at z;rcases bG.1 z with z|z
 .rw[aE]at z;rw[z];exact (h1.geti t0 t1).2
 .split at z
  .rw[aE]at z;rw[z];exact (N.geti t0 t1).2
  .split at z
   .rename_i g;rw[aE]at z;rw[z];exact (h1.geti (hev.nm.th (.inr g)).1 (hev.nm.th (.inr g)).2).2
   .split at z
    .rename_i g;exact q A (hev.nm.fu (.inr g)).1 (hev.nm.fu (.inr g)).2 v z
    .split at z
     .rename_i g;split at z
      .exact q D (hev.nm.ce (.inl g)).1 (hev.nm.ce (.inl g)).2 v z
      .cases z
     .split at z
      .rw[aE]at z;rw[z];exact (L.geti t0 t1).2
      .cases z
def WkG.step {w:WT} {l:Y ET} (D:TR (w,l)) (L:j<l! l) {c:Y η} {tm:Y ν} {la sp wa wt st se:η} {op:Y e!} {re:η} {ar:Y WO} {si ei:Y η} (g:WkG w l j c tm la sp wa wt st se op re ar si ei):
 Ok (gq (((j:Int),eN l j),(w,l),c,tm,la,sp,wa,wt,st,se,op,re,ar,si,ei)) λy=>∃clk,CKj w l j c tm la sp wa op re ar si ei clk/\y=((w,l),cN la (eN l j).1 (j:Int),Jf (j:Int) (eN l j) sp,Je (j:Int) (eN l j) wt wa,NL (eN l j) wt,OP 4 (j:Int) (eN l j) st si,OP 22 (j:Int) (eN l j) se ei,scO w (eN l j) op (sY w (eN l j) op ar),c++[tk clk (l8 l j)],tm++[((tk clk (l8 l j)).getD (l8 l j) 0,(eN l j).1)],EP w (eN l j) op re,scA w (j:Int) (eN l j) op (sY w (eN l j) op ar),Qe 4 (j:Int) (eN l j) si,Qe 22 (j:Int) (eN l j) ei):=by
 have hl:l! l<=400:=D.len;have wb:=D.wb;have hev:WC w (eN l j):=D.ev _ (Mn L);have hen:=g.ws.en;have hlt:=ai9 hev g.la g.sp g.wa g.st g.se;have htm:∀p∈re,cvr (jc c (bU ar p).en) (jt tm (bU ar p).en)=J:=λp hp=>by
  obtain⟨_,_,q0,A⟩:=hen p hp;exact (g.ci.cvr q0 A _).2 (dC _)
 have hrl:=g.ws.rl;refine Ok.mono (ai7 (I:=λclk=>JCw w l j c clk/\∀I,JK w c tm (vq w la sp wa si ei (eN l j)) op re ar (eN l j) I->I clk) hev (by omega) wb.t wb.l (D.note L) g.la g.sp g.wa g.wt g.st g.se g.ci.k g.ws.op g.ws.oo hen (by omega) htm ?_) ?_
 .refine ⟨⟨JCw.zero g.ci,λI h=>h.i0⟩,λclk i hi h0 z=>⟨z.1.join g.ci h0 (hlt i hi),λI h=>h.i1 clk i hi h0 (z.2 I h)⟩,λclk lk p a b d f hp m1 m2 z=>?_,λclk p a hp m1 m2 z=>?_,λclk z=>?_⟩
  .obtain⟨_,_,q0,A⟩:=hen p hp;exact⟨z.1.join g.ci q0 A,λI h=>h.i2 clk lk p a b d f hp m1 m2 (z.2 I h)⟩
  .obtain⟨_,_,q0,A⟩:=hen p hp;exact⟨z.1.join g.ci q0 A,λI h=>h.i3 clk p a hp m1 m2 (z.2 I h)⟩
  .have:=z.1.b (eN l j).1.toNat;have:=ajz l (eN l j).1.toNat j;exact⟨z.1.ln,by omega,by omega⟩
 .rintro y ⟨clk,⟨⟨k1,k2⟩,k3⟩,N⟩;exact⟨clk,⟨k1,k3,k2⟩,N⟩
def WkG.next {w:WT} {l:Y ET} (z:TR (w,l)) (D:j<l! l) {c:Y η} {tm:Y ν} {la sp wa wt st se:η} {op:Y e!} {re:η} {ar:Y WO} {si ei:Y η} (g:WkG w l j c tm la sp wa wt st se op re ar si ei) {clk:η} (A:CKj w l j c tm la sp wa op re ar si ei clk):
 WkG w l (j+1) (c++[tk clk (l8 l j)]) (tm++[((tk clk (l8 l j)).getD (l8 l j) 0,(eN l j).1)]) (cN la (eN l j).1 (j:Int)) (Jf (j:Int) (eN l j) sp) (Je (j:Int) (eN l j) wt wa) (NL (eN l j) wt) (OP 4 (j:Int) (eN l j) st si) (OP 22 (j:Int) (eN l j) se ei) (scO w (eN l j) op (sY w (eN l j) op ar)) (EP w (eN l j) op re) (scA w (j:Int) (eN l j) op (sY w (eN l j) op ar)) (Qe 4 (j:Int) (eN l j) si) (Qe 22 (j:Int) (eN l j) ei):=by
 have hev:WC w (eN l j):=z.ev _ (Mn D);have t0:=hev.t0;have t1:=hev.t1;have L:(eN l j).1=(l8 l j:Int):=by unfold l8;omega
 have sam:=V6 (w:=w) (e:=eN l j) g.ws.op g.ws.oo;have hlast:geti aM la (eN l j).1=la.getD (l8 l j) 0:=by rw[L,CR]
 refine ⟨(g.ci.next g.la t0 t1 A.jc λh0=>?_).1,(g.ws.sam sam).next,?_,g.sp.sp _ λh=>(hev.nm.th (.inl h)).1,g.wa.wa _ (z.note D),by rw[Ky];exact g.wt,g.st.ad 4 _ λh=>(hev.nm.ce (.inr h)).1,g.se.ad 22 _ λh=>(hev.nm.fu (.inl h)).1⟩
 .rw[<- hlast];exact A.jr.a _ (aab ..) (by rw[hlast];exact h0)
 .rw[L];exact g.la.set _ (by omega) (dC _)
def aiy {n:Nat} (A:n<=1000):lJ (n:Int)=Z (aF n (-1)):=by
 refine cI ?_;unfold lJ zK ck bS bT c5 aH cW;refine db (db (a? (a? (bl (by rw[cf];omega) (by omega) ?_))));rw[cf];refine g9 n (by omega) (λi x=>x=((i:Int),aF i (-1)++aF (n-i) 0)) ?_ ?_ (by simp)
 .rintro i x hi rfl;refine dy ?_ (by simp only[c4,al];omega);have z:fA (i:Int) (ah (aF i (-1:Int)++aF (n-i) 0))=J:=Q_.2 ⟨by omega,by simp;omega⟩;refine bh z (bh z (aj ?_));show (bA .i64 ((i:Int)+1),cN (aF i (-1:Int)++aF (n-i) 0) (i:Int) (-1))=_;rw[gM,vu];refine oS rfl ?_;show wj _ i (-1)=_;have h1:n-i=(n-(i+1))+1:=by omega
  rw[List.set_append_right _ _ (by simp),c4,Ca,h1,kR,List.set_cons_zero,wn (n:=i),iV];rfl
 .rintro x rfl;refine du (aj ?_) (by simp only[c4,al];omega);simp
def WkG.zero (w:WT) (l:Y ET):WkG w l 0 [] [] (aF (l! w.2.2.2.2.1) (-1)) (aF (l! w.2.2.2.2.1) (-1)) (aF (l! w.2.2.2.2.1) (-1)) (aF (l! w.2.2.2.2.1) (-1)) (aF (l! w.1) 0) (aF (l! w.2.2.2.1) 0) [] [] [] (aF (l! w.1) []) (aF (l! w.2.2.2.1) []):=by
 have m1:∀(n u:Nat),u<n->(aF n (-1:Int)).getD u 0= -1:=λn u h=>by
  rw[ax,hP,aC h];rfl
 have rw_:∀n:Nat,Em n 0 (aF n (-1)):=λn=>⟨c4 ..,λu z=>by rw[m1 n u z];omega⟩
 have A:∀n:Nat,NJ n 0 (aF n 0) (aF n []):=λn=>⟨c4 ..,c4 ..,λo D=>by
  rw[ax,ax,hP,hP,aC D,aC D];exact⟨rfl,bV _,λv N=>by cases N⟩⟩
 refine ⟨⟨⟨rfl,rfl,λi hi=>co hi (kU _),λi hi=>co hi (kU _)⟩,λi hi=>co hi (kU _),λi hi=>co hi (kU _),λi hi=>co hi (kU _),λi k hi=>co hi (kU _),λu z=>⟨λh=>by rw[m1 _ u z]at h;omega,λ_=>rfl⟩⟩,⟨List.nodup_nil,λx L=>(by cases L),λk hk=>co hk (kU _),λp hp=>(by cases hp),bV _⟩,rw_ _,rw_ _,rw_ _,c4 ..,A _,A _⟩
def WkH:Type:=Nat->Y η->Y ν->η->η->η->η->η->η->Y e!->η->Y WO->Y η->Y η->Prop
structure HK (w:WT) (l:List ET) (H:WkH):Prop where
 z:H 0 [] [] (aF (l! w.2.2.2.2.1) (-1)) (aF (l! w.2.2.2.2.1) (-1)) (aF (l! w.2.2.2.2.1) (-1)) (aF (l! w.2.2.2.2.1) (-1)) (aF (l! w.1) 0) (aF (l! w.2.2.2.1) 0) [] [] [] (aF (l! w.1) []) (aF (l! w.2.2.2.1) [])
 s:∀j c tm la sp wa wt st se op re ar si ei clk,j<l! l->WkG w l j c tm la sp wa wt st se op re ar si ei->H j c tm la sp wa wt st se op re ar si ei->CKj w l j c tm la sp wa op re ar si ei clk->
  H (j+1) (c++[tk clk (l8 l j)]) (tm++[((tk clk (l8 l j)).getD (l8 l j) 0,(eN l j).1)]) (cN la (eN l j).1 (j:Int)) (Jf (j:Int) (eN l j) sp) (Je (j:Int) (eN l j) wt wa) (NL (eN l j) wt) (OP 4 (j:Int) (eN l j) st si) (OP 22 (j:Int) (eN l j) se ei) (scO w (eN l j) op (sY w (eN l j) op ar)) (EP w (eN l j) op re) (scA w (j:Int) (eN l j) op (sY w (eN l j) op ar)) (Qe 4 (j:Int) (eN l j) si) (Qe 22 (j:Int) (eN l j) ei)
def ab8 {w:WT} {l:Y ET} (A:TR (w,l)) {H:WkH} (N:HK w l H):Ok (lq (w,l)) λy=>∃c tm la sp wa wt st se op re ar si ei,y=((w,l),c,tm,la,sp,wa,wt,st,se,op,re,ar,si,ei)/\WkG w l (l! l) c tm la sp wa wt st se op re ar si ei/\H (l! l) c tm la sp wa wt st se op re ar si ei:=by
 have hl:l! l<=400:=A.len;have wb:=A.wb;have hT:=wb.t;have hC:=wb.c;have hF:=wb.f;dsimp only at hT hC hF;unfold lq uT lG mq mo B_ a8 bt bI cA dO iC mF nJ Prod.z Prod.r bS bT bX bf c5 aH cW;dsimp only;have D:=aiy (n:=l! w.2.2.2.2.1) (by omega);refine aV D (aV D (aV D (aV D ?_)));refine db (db (eg (by dsimp only[al];omega) (a? (bl (by simp only[al,cf];omega) (by omega) ?_))));refine db (db (eg (by dsimp only[al];omega) (a? (bl (by simp only[al,cf];omega) (by omega) ?_))));refine g9 (l! l) (by omega) (λi x=>∃c tm la sp wa wt st se op re ar si ei,x=((i:Int),(w,l),c,tm,la,sp,wa,wt,st,se,op,re,si,ei,ar)/\WkG w l i c tm la sp wa wt st se op re ar si ei/\H i c tm la sp wa wt st se op re ar si ei) ?_ ?_ ⟨_,_,_,_,_,_,_,_,_,_,_,_,_,by simp only[al,cf];rfl,WkG.zero w l,N.z⟩
 .rintro i x hi ⟨c,tm,la,sp,wa,wt,st,se,op,re,ar,si,ei,rfl,g,h⟩;refine dy ?_;refine cY (aS ?_);refine aw (g.step A hi) ?_;rintro y ⟨clk,L,rfl⟩;dsimp only;refine bh (by simp only[ca,Sy,Sw,Ky,Z6,eW,fC]) (aj ⟨_,_,_,_,_,_,_,_,_,_,_,_,_,?_,g.next A hi L,N.s i c tm la sp wa wt st se op re ar si ei clk hi g h L⟩);show (bA .i64 ((i:Int)+1),_)=_;rw[gM]
 .rintro x ⟨c,tm,la,sp,wa,wt,st,se,op,re,ar,si,ei,rfl,g,h⟩;exact du (aj ⟨c,tm,la,sp,wa,wt,st,se,op,re,ar,si,ei,rfl,g,h⟩)
def aki:uP ()=Z J:=by kernel_rfl
abbrev IT:Type:=ω
abbrev CT:Type:=WT×Y (Int×Y IT)
def td (a b:Int):j6 (a,b)=Z (decide (0<=a/\a<b)):=by
 refine cI ?_;unfold j6 kq aH;with_reducible repeat' first|apply OS.ok;constructor|refine IM.mk λ_=>?_
 .by_cases h:a<b<;>simp[*,fQ]
 .simp;omega
def HU (k:Int):qS k=Z (decide (1<=k/\k<=5)):=by
 refine cI ?_;unfold qS kq aH;with_reducible repeat' first|apply OS.ok;constructor|refine IM.mk λ_=>?_
 .by_cases h:k<=5<;>simp[*,dg]
 .simp;omega
def jD (i:IT):η:=
 if i.1=1\/i.1=6\/i.1=10\/i.1=27 then [i.2.1]
 else if i.1=2\/i.1=3 then [i.2.1,i.2.2.1]
 else if i.1=4 then [i.2.1,i.2.2.1,i.2.2.2.1]
 else if i.1=7 then [i.2.1,i.2.2.2.1]
 else if i.1=8\/i.1=26 then [i.2.2.1]
 else if i.1=9 then [i.2.2.1,i.2.2.2.1]
 else []
def uZ (i:IT):kz i=Z (jD i):=by
 obtain⟨z,i2⟩:=i;unfold kz jD a8 bt bI bq aH;by_cases h1:z=1
 .subst h1;rfl
 by_cases h2:z=6
 .subst h2;rfl
 by_cases h3:z=10
 .subst h3;rfl
 by_cases h4:z=27
 .subst h4;rfl
 by_cases h5:z=2
 .subst h5;rfl
 by_cases h6:z=3
 .subst h6;rfl
 by_cases h7:z=4
 .subst h7;rfl
 by_cases N:z=7
 .subst N;rfl
 by_cases L:z=8
 .subst L;rfl
 by_cases D:z=26
 .subst D;rfl
 by_cases A:z=9
 .subst A;rfl
 simp only[h1,h2,h3,h4,h5,h6,h7,N,L,D,A,decide_false,bcF,jnr,fJ,c7]
def EX (z:IT):l! (jD z)<=3:=by
 unfold jD
 (repeat' split)<;>simp
def afa (l:Y IT) (a:Int) (L:l! l<=1000000):Ok (qJ (l,a)) λ_=>True:=by
 unfold qJ bq bS kq bX bf c5 aH cW;refine ru (λx=>((l! l:Int)+1-x.2).toNat) (λx=>0<=x.2/\x.2<=(l! l:Int)+1) ?_ ⟨by dsimp only;omega,by dsimp only;omega⟩;rintro⟨(a:Int),(n:Int)⟩ ⟨h0,h1⟩;dsimp only at h0 h1;refine fF (λg=>?_) λ_=>aj trivial
 dsimp only[al]at g;refine aY (λ_=>True) ?_ λb _=>aj ?_
 .refine aY (λb=>b=aa->0<=a/\a<(l! l:Int)) ?_ ?_
  .refine bW (λ_=>aj nofun) λz=>aj λh=>?_
   rw[m_]at h;dsimp only[al]at h z;exact⟨z,h⟩
  .intro b A;refine aO (λ_=>aj trivial) λh=>?_
   obtain⟨q0,D⟩:=A h;refine aN q0 (by dsimp only;omega) (aS ?_);refine aV (HU _) ?_;refine eJ (λ_=>aj trivial) λ_=>?_
   refine aN q0 (by dsimp only;omega) (aS ?_);refine aJ (λ_=>?_) λ_=>aj trivial
   exact aN q0 (by dsimp only;omega) (aS (aj trivial))
 .dsimp only;rw[iW];exact⟨⟨by omega,by omega⟩,by omega⟩
structure AR (w:WT) (b n:Int):Prop where
 b0:0<=b
 b1:b<l! w.1
 ix:(geti mA w.1 b).2.1=0
 sz:¬(geti mA w.1 b).2.2.1=0
 sn:(geti mA w.1 b).2.2.1=n
def VX (w:WT) (b n:Int):Ok (oG (w,b,n)) λr=>r=J->AR w b n:=by
 unfold oG bq i_ bX bf aH;refine h_ ?_;refine aV (td _ _) ?_;refine aJ (λh=>?_) λ_=>aj (aj nofun)
 refine aN h.1 h.2 (aS (aJ (λh1=>?_) λ_=>aj (aj nofun)));refine aN h.1 h.2 (aS (cz (λA=>?_) λ_=>aj (aj nofun)));exact aN h.1 h.2 (aS (aj (aj λz=>⟨h.1,h.2,h1,A,bD z⟩)))
def Xa (w:WT) (i:IT):Ok (mO (w,i)) λb=>b=J->(i.1=7->AR w i.2.2.1 i.2.2.2.2.1)/\(i.1=9->AR w i.2.1 i.2.2.2.2.1):=by
 have z:∀{b:Bool},¬i.1=7->¬i.1=9->b=J->(i.1=7->AR w i.2.2.1 i.2.2.2.2.1)/\(i.1=9->AR w i.2.1 i.2.2.2.2.1):=λh1 A _=>⟨λh=>(h1 h).elim,λh=>(A h).elim⟩
 unfold mO a8 bt bI cA dO bq kq bX bf aH;simp only[td,Zi];refine aJ (λN=>?_) λ_=>?_
 .refine aY (λ_=>True) ?_ λ_ _=>aj (z (by have N:i.1=6:=N;omega) (by have N:i.1=6:=N;omega))
  refine aJ (λh=>?_) λ_=>aj trivial
  exact aN h.1 h.2 (aS (aj trivial))
 refine aJ (λD=>?_) λ_=>?_
 .refine aY (λ_=>True) ?_ λ_ _=>aj (z (by have D:i.1=8:=D;omega) (by have D:i.1=8:=D;omega))
  refine aJ (λh=>?_) λ_=>aj trivial
  exact aN h.1 h.2 (aS (aj trivial))
 refine aJ (λL=>?_) λn7=>?_
 .exact aw (VX _ _ _) λ_ h=>aj λA=>⟨λ_=>h A,λh9=>by have L:i.1=7:=L;omega⟩
 refine aJ (λh9=>?_) λn9=>?_
 .exact aw (VX _ _ _) λ_ h=>aj λA=>⟨λL=>(n7 L).elim,λ_=>h A⟩
 have z:∀{b:Bool},b=J->(i.1=7->AR w i.2.2.1 i.2.2.2.2.1)/\(i.1=9->AR w i.2.1 i.2.2.2.2.1):=z n7 n9;refine aY (λx=>x.2=(w,i)) (aJ (λ_=>aj rfl) λ_=>aj rfl) ?_;rintro⟨b,x⟩ e;dsimp only at e;subst e;refine aO (λ_=>?_) λ_=>?_
 .refine aY (λ_=>True) ?_ λ_ _=>aj z
  refine aJ (λh=>?_) λ_=>aj trivial
  exact aN h.1 h.2 (aS (aj trivial))
 refine aY (λx=>x.2=(w,i)) (aJ (λ_=>aj rfl) λ_=>aJ (λ_=>aj rfl) λ_=>aJ (λ_=>aj rfl) λ_=>aj rfl) ?_;rintro⟨b,x⟩ e;dsimp only at e;subst e;refine aO (λ_=>?_) λ_=>?_
 .refine aY (λ_=>True) ?_ λ_ _=>aj z
  refine aJ (λh=>?_) λ_=>aj trivial
  exact aN h.1 h.2 (aS (aj trivial))
 refine aY (λx=>x.2=(w,i)) (aJ (λ_=>aj rfl) λ_=>aJ (λ_=>aj rfl) λ_=>aj rfl) ?_;rintro⟨b,x⟩ e;dsimp only at e;subst e;refine aO (λ_=>aj z) λ_=>?_
 refine aY (λx=>x.2=(w,i)) (aJ (λ_=>aj rfl) λ_=>aj rfl) ?_;rintro⟨b,x⟩ e;dsimp only at e;subst e;with_reducible repeat' first|apply OS.ok;constructor|refine IM.mk λ_=>?_
 all_goals exact z
structure VI (n:Int) (i:IT):Prop where
 o1:1<=i.1
 o2:i.1<=28
 r:∀j∈jD i,0<=j/\j<n
structure VT (t:Int×List IT):Prop where
 r0:0<=t.1
 r1:t.1<=32
 i:∀i∈t.2,VI t.1 i
structure VJ (w:WT) (k:Int) (i:IT):Prop where
 a7:i.1=7->AR w i.2.2.1 i.2.2.2.2.1
 a9:i.1=9->AR w i.2.1 i.2.2.2.2.1
 se:i.1=28->i.2.2.2.2.2= -1
 si:¬i.1=28->0<=i.2.2.2.2.2/\i.2.2.2.2.2<l! w.2.2.2.2.2/\(geti qO w.2.2.2.2.2 i.2.2.2.2.2).1=k
def Kz (w:WT) (k:Int) (c:Int×Y IT) (hc:l! c.2<=1000000):Ok (iL (w,k,c)) λb=>b=J->VT c/\∀i∈c.2,VJ w k i:=by
 unfold iL a8 bt bI cA b_ dj wG bq bS i_ bX bf c5 aH cW;refine aY (λx=>x.2=(w,c)/\(x.1=aa->0<=c.1/\c.1<=32)) ?_ ?_
 .refine bW (λ_=>aj ⟨rfl,nofun⟩) λh0=>bW (λ_=>aj ⟨rfl,nofun⟩) λh1=>aj ⟨rfl,λ_=>⟨h0,h1⟩⟩
 rintro⟨b,x⟩ ⟨e,L⟩;dsimp only at e L;subst e;refine aO (λ_=>aj nofun) λh=>?_
 obtain⟨r0,r1⟩:=L h;refine cH (l! c.2) (λi x=>x.1=(i:Int)/\x.2=(w,c)/\∀q:Nat,q<i->VI c.1 (geti sk c.2 (q:Int))/\VJ w k (geti sk c.2 (q:Int))) ?_ ?_ ⟨rfl,rfl,λk hk=>by omega⟩
 .rintro i ⟨a,x⟩ hi ⟨N,e2,D⟩;dsimp only at N e2 D;subst N e2;refine dy ?_;refine cY (aS ?_);generalize hz:(geti _ _ _)=z;refine aY (λx=>x.2=(w,c,z)/\(x.1=aa->(1<=z.1/\z.1<=28)/\(z.1=7->AR w z.2.2.1 z.2.2.2.2.1)/\(z.1=9->AR w z.2.1 z.2.2.2.2.1))) ?_ ?_
  .refine bW (λ_=>aj ⟨rfl,nofun⟩) λh0=>bW (λ_=>aj ⟨rfl,nofun⟩) λh1=>?_
   refine aO (λ_=>aj ⟨rfl,nofun⟩) λ_=>?_
   refine aw (Xa w z) λy hy=>?_
   refine eJ (λ_=>aj ⟨rfl,nofun⟩) λhyt=>?_
   exact aw (afa c.2 _ hc) λy _=>aj ⟨rfl,λ_=>⟨⟨h0,h1⟩,hy hyt⟩⟩
  rintro⟨b,x⟩ ⟨e,L⟩;dsimp only at e L;subst e;refine aO (λ_=>aj nofun) λh=>?_
  obtain⟨⟨o1,o2⟩,a7,a9⟩:=L h;refine aY (λx=>x.2=(w,c,z)/\(x.1=aa->(z.1=28->z.2.2.2.2.2= -1)/\(¬z.1=28->0<=z.2.2.2.2.2/\z.2.2.2.2.2<l! w.2.2.2.2.2/\(geti qO w.2.2.2.2.2 z.2.2.2.2.2).1=k))) ?_ ?_
  .simp only[td,Zi];refine aJ (λA=>?_) λA=>?_
   .refine cz (λ_=>aj ⟨rfl,nofun⟩) λhm=>?_
    exact cz (λh=>(h A).elim) λ_=>aj ⟨rfl,λ_=>⟨λ_=>hm,λh=>(h A).elim⟩⟩
   .refine cz (λ_=>?_) λh=>(A h).elim
    refine cz (λ_=>aj ⟨rfl,nofun⟩) λh=>?_
    exact aN h.1 h.2 (aS (aj ⟨rfl,λh2=>⟨λh3=>(A h3).elim,λ_=>⟨h.1,h.2,by simpa using h2⟩⟩⟩))
  rintro⟨b,x⟩ ⟨e,hsi⟩;dsimp only at e hsi;subst e;refine aO (λ_=>aj nofun) λhbs=>?_
  obtain⟨se,si⟩:=hsi hbs;refine aY (λx=>x.2=(w,c,z)) ?_ ?_
  .simp only[td,Zi];with_reducible repeat' first|apply OS.ok;constructor|refine IM.mk λ_=>?_
   all_goals rfl
  rintro⟨b,x⟩ e;dsimp only at e;subst e;refine aO (λ_=>aj nofun) λ_=>?_
  refine aV (uZ z) ?_;refine cH (l! (jD z)) (λj x=>x.1=(j:Int)/\x.2=(w,c)/\∀k:Nat,k<j->0<=geti aM (jD z) (k:Int)/\geti aM (jD z) (k:Int)<c.1) ?_ ?_ ⟨rfl,rfl,λk hk=>by omega⟩
  .rintro j ⟨a,x⟩ hj ⟨d1,d2,d3⟩;dsimp only at d1 d2 d3;subst d1 d2;refine dy ?_;refine cY (aS ?_);refine aV (td _ _) ?_;refine cz (λ_=>aj nofun) λh=>aj ?_
   dsimp only at h ⊢;have hj32:l! (jD z)<=3:=EX z;refine ⟨gM,rfl,λk hk=>?_⟩;rcases bx k j with h1|h1
   .exact d3 k h1
   .rw[show k=j by omega];exact h
  .rintro⟨a,x⟩ ⟨d1,d2,d3⟩;dsimp only at d1 d2 d3;subst d1 d2;refine du (aj ?_);dsimp only;refine ⟨gM,rfl,λk hk=>?_⟩;rcases bx k i with h1|h1
   .exact D k h1
   .rw[show k=i by omega,hz];exact⟨⟨o1,o2,iP (T:=aM) d3⟩,⟨a7,a9,se,si⟩⟩
 .rintro⟨a,x⟩ ⟨N,e2,D⟩;dsimp only at N e2 D;subst N e2;refine du (aj λ_=>⟨⟨r0,r1,iP (T:=sk) (p:=VI c.1) λq hq=>(D q hq).1⟩,iP (T:=sk) (p:=VJ w k) λq hq=>(D q hq).2⟩)
structure VC (c:CT):Prop where
 vl:VL c.1
 tl:l! c.2=l! c.1.2.2.2.2.1
 t:∀t∈c.2,VT t
 sv:SV0 c.1
 j:∀k:Nat,k<l! c.2->∀i∈(geti yO c.2 (k:Int)).2,VJ c.1 (k:Int) i
structure CB (c:CT):Prop where
 th:l! c.2<=1000000
 ins:∀t∈c.2,l! t.2<=1000000
 rg:∀t∈c.2,1<=t.1
 wx:WX c.1
 ok:ky c=Z J
def Wa (c:CT) (h1:l! c.2<=1000000) (h2:∀t∈c.2,l! t.2<=1000000):Ok (ky c) λb=>b=J->VC c:=by
 obtain⟨w,l⟩:=c;dsimp only at h1 h2;unfold ky bI bS bX bf c5 aH cW;refine aY (λx=>x.2=(w,l)/\(x.1=aa->(VL w/\SV0 w)/\l! l=l! w.2.2.2.2.1)) ?_ ?_
 .refine aw (Dt w) λb N=>?_
  refine eJ (λ_=>aj ⟨rfl,nofun⟩) λh=>aj ⟨rfl,λh3=>⟨N h,?_⟩⟩
  simp at h3;omega
 rintro⟨b,x⟩ ⟨e,hx⟩;dsimp only at e hx;subst e;refine aO (λ_=>aj nofun) λh=>?_
 obtain⟨⟨hv,hsv⟩,hl⟩:=hx h;refine cH (l! l) (λi x=>x.1=(i:Int)/\x.2=(w,l)/\∀k:Nat,k<i->VT (geti yO l (k:Int))/\∀q∈(geti yO l (k:Int)).2,VJ w (k:Int) q) ?_ ?_ ⟨rfl,rfl,λk D=>by omega⟩
 .rintro i ⟨a,x⟩ hi ⟨L,e2,A⟩;dsimp only at L e2 A;subst L e2;refine dy ?_;refine cY (aS ?_);have hm:=b8 (T:=yO) (xs:=l) (j:=(i:Int)) (by omega) (by omega);revert hm;generalize hz:(geti yO l (i:Int))=z;intro hm;refine aw (Kz w _ z (h2 z hm)) λb N=>?_
  refine eJ (λ_=>aj nofun) λh=>aj ?_
  dsimp only;refine ⟨gM,rfl,λk D=>?_⟩;rcases bx k i with h1|h1
  .exact A k h1
  .rw[show k=i by omega,hz];exact N h
 .rintro⟨a,x⟩ ⟨L,e2,A⟩;dsimp only at L e2 A;subst L e2;refine du (aj λ_=>⟨hv,hl,iP (T:=yO) (p:=VT) λk D=>(A k D).1,hsv,λk D=>(A k D).2⟩)
section
abbrev TT:Type:=Int×η×Y η×Int
structure TL (F:Int->Prop) (E:Nat) (l:η):Prop where
 a:JZ l
 m:∀y∈l,0<=y/\y<(E:Int)
 f:∀y∈l,F y
variable {F:Int->Prop}
def TL.len {l:η} (h:TL F i l):l! l<=i:=by
 have:=Ks l 0 i h.a h.m;omega
def TL.nil (E:Nat):TL F E []:=⟨trivial,λy z=>(by cases z),λy z=>(by cases z)⟩
def TL.uni {a b:η} (D:TL F i a) (A:TL F i b):TL F i (yW a b):=
 ⟨SA a b,λy z=>by
   rcases KA.1 z with h|h
   .exact D.m y h
   .exact A.m y h,λy z=>(KA.1 z).elim (D.f y) (A.f y)⟩
def TL.mono {A:Int->Prop} {l:η} (h:TL F i l) (hf:i<=j) (L:∀y,F y->A y):TL A j l:=⟨h.a,λy z=>⟨(h.m y z).1,by have:=(h.m y z).2;omega⟩,λy z=>L y (h.f y z)⟩
structure TH (F:Int->Prop) (E:Nat) (s:TT):Prop where
 r:l! s.2.1<=32
 t:l! s.2.2.1<=32
 l:∀l∈s.2.2.1,TL F E l
 e0:0<=s.2.2.2
 e1:s.2.2.2<=(E:Int)
def TH.zero (E:Nat):TH F E (0,[],[],0):=⟨by simp,by simp,λl z=>(by cases z),by simp,by simp⟩
def TH.mono {z:Int->Prop} {s:TT} (h:TH F i s) (hf:i<=j) (L:∀y,F y->z y):TH z j s:=⟨h.r,h.t,λl D=>(h.l l D).mono hf L,h.e0,by have:=h.e1;omega⟩
def dl (s:TT) (E:Nat) (hE:E<=100000) (h:TH F E s):cE s=Z ((s.1,s.2.2.2),s.2.1,s.2.2.1):=by
 obtain⟨h1,h2,h3,h4,h5⟩:=h;refine cI ?_;unfold cE a8 bt bI b_ dj bS bT bX bf c5 aH cW;refine a! ?_;refine cH (l! s.2.2.1) (λi x=>x.1=(i:Int)/\x.2.1=s/\x.2.2.2.1=(s.1,s.2.2.2)/\x.2.2.2.2.1=s.2.1/\x.2.2.2.2.2=s.2.2.1.take i) ?_ ?_ ⟨rfl,rfl,rfl,rfl,rfl⟩
 .rintro i ⟨a,b,c,d,e,f⟩ hi ⟨L,e2,D,A,z⟩;dsimp only at L e2 D A z;subst L e2 z;refine dy ?_;refine cY (aS ?_);have N:=(h3 _ (b8 (T:=.sl (.int .i64)) (xs:=b.2.2.1) (j:=(i:Int)) (by omega) (by omega))).len;refine bl (by simp only[kW,bF];exact c8 N (by omega)) (by omega) ?_;refine a! (aj ?_);dsimp only;refine ⟨gM,rfl,D,A,?_⟩;rw[pJ (T:=.sl (.int .i64)) hi];rfl
 .rintro⟨a,b,c,d,e,f⟩ ⟨L,e2,D,A,z⟩;dsimp only at L e2 D A z;subst L e2 z;refine du (aj ?_);show (d,e,_)=_;rw[D,A,cr]
def xM (b:Bool):Ok (gk b) λ_=>True:=by
 unfold gk;with_reducible repeat' first|apply OS.ok;constructor|refine IM.mk λ_=>?_
 all_goals trivial
def Ib (n:Int):Ok (nz n) λ_=>True:=by
 unfold nz bS aH;with_reducible repeat' first|apply OS.ok;constructor|refine IM.mk λ_=>?_
 all_goals trivial
def ah4 (x:ν):Ok (vK x) λ_=>True:=by
 unfold vK bq;refine aJ (λ_=>aj trivial) λ_=>aJ (λ_=>?_) λ_=>aj trivial
 exact aw (xM _) λ_ _=>aj trivial
def ad8 (x:π):Ok (tK x) λ_=>True:=by
 unfold tK bq i_ bT aH;have z:∀b,Ok (ay (gk b) λy=>Z (y,J)) λ_=>True:=λb=>aw (xM _) λ_ _=>aj trivial
 refine aJ (λ_=>aj trivial) λ_=>aJ (λ_=>aj trivial) λ_=>aJ (λ_=>aj trivial) λ_=>?_
 refine aJ (λ_=>aJ (λ_=>aj trivial) λh=>A_ h (aj trivial)) λ_=>?_
 refine aJ (λ_=>aJ (λ_=>aj trivial) λh=>A_ h (aj trivial)) λ_=>?_
 refine aJ (λ_=>z _) λ_=>aJ (λ_=>z _) λ_=>aJ (λ_=>z _) λ_=>aJ (λ_=>z _) λ_=>aJ (λ_=>z _) λ_=>aJ (λ_=>z _) λ_=>?_
 refine aJ (λ_=>aY (λ_=>True) (cz (λ_=>aw (xM _) λ_ _=>aj trivial) λ_=>aw (xM _) λ_ _=>aj trivial) λ_ _=>aj trivial) λ_=>?_
 exact aJ (λ_=>aY (λ_=>True) (cz (λ_=>aw (xM _) λ_ _=>aj trivial) λ_=>aw (xM _) λ_ _=>aj trivial) λ_ _=>aj trivial) λ_=>aj trivial
def aaa (E:Nat) (hE:E<=100000) (i:IT) (p:ν) (R:η) (T:Y η) (D:∀j∈jD i,0<=j/\j<(l! R:Int)) (o1:1<=i.1) (o2:i.1<=5) (hR:l! R<=32) (z:l! T=l! R) (hl:∀l∈T,TL F E l):Ok (x_ ((i,p),R,T)) λy=>y.1.1.2=p.2/\l! y.2.1=l! R/\l! y.2.2=l! T/\∀l∈y.2.2,TL F E l:=by
 unfold x_ a8 bt bI ck bq bS bT bX ko bf c5 aH cW;refine aV (uZ i) ?_;have h3:=EX i;refine cH (l! (jD i)) (λj x=>x.1=(j:Int)/\x.2.1=R/\x.2.2.1=T/\x.2.2.2.1=i/\x.2.2.2.2.1=p) ?_ ?_ ⟨rfl,rfl,rfl,rfl,rfl⟩
 .rintro j ⟨a,b,c,d,e⟩ hj ⟨e1,e2,e3,e4,L⟩;dsimp only at e1 e2 e3 e4 L;subst e1 e2 e3 e4;refine dy ?_;have hz:=D _ (b8 (T:=aM) (xs:=jD d) (j:=(j:Int)) (by omega) (by omega));refine aY (λx=>x.2=(b,c,d,e)/\x.1=aa) ?_ ?_
  .refine cY (aS ?_);refine bW (λg=>?_) λ_=>?_
   .dsimp only at g;omega
   refine cY (aS (aj ⟨rfl,?_⟩));dsimp only;rw[m_];exact hz.2
  rintro⟨b',x⟩ ⟨f1,N⟩;dsimp only at f1 N;subst f1 N;refine aO nofun λ_=>aj ?_
  dsimp only;exact⟨gM,rfl,rfl,rfl,L⟩
 .rintro⟨a,b,c,d,e⟩ ⟨e1,e2,e3,e4,L⟩;dsimp only at e1 e2 e3 e4 L;subst e1 e2 e3 e4;refine du ?_;obtain⟨e,e'⟩:=e;dsimp only at L;subst L;refine aw (P:=λy=>y.1.1.2=e.2/\l! y.2.1=l! b/\l! y.2.2=l! c/\∀l∈y.2.2,TL F E l) ?_ λr D=>aj D
  have hA:d.1≠5->0<=d.2.1/\d.2.1<(l! b:Int):=λh5=>D _ (by
   unfold jD;(repeat' split)<;>simp<;>omega)
  have hB:2<=d.1->d.1≠5->0<=d.2.2.1/\d.2.2.1<(l! b:Int):=λh2 h5=>D _ (by
   unfold jD;(repeat' split)<;>simp<;>omega)
  have hC:d.1=4->0<=d.2.2.2.1/\d.2.2.2.1<(l! b:Int):=λh5=>D _ (by
   unfold jD;(repeat' split)<;>simp<;>omega)
  have hg:∀{j:Int},0<=j->j<(l! b:Int)->TL F E (geti (.sl (.int .i64)) c j):=λh0 h1=>hl _ (b8 (T:=.sl (.int .i64)) (xs:=c) h0 (by rw[z];exact h1))
  refine aY (λx=>x.2.1=b/\x.2.2.1=c/\x.2.2.2.1=d/\x.2.2.2.2.1=e/\TL F E x.1.2.2/\d.1≠5) ?_ ?_
  .refine aJ (λ_=>aj ⟨rfl,rfl,rfl,hl⟩) λA=>?_
   refine aJ (λ_=>aj ⟨rfl,rfl,rfl,rfl,TL.nil E,A⟩) λn1=>?_
   dsimp only at n1 A;obtain⟨b0,b1⟩:=hB (by omega) A;refine aJ (λ_=>?_) λn2=>?_
   .refine aN b0 b1 (aN b0 b1 (aS ?_));refine aN b0 (by dsimp only;rw[z];exact b1) (aN b0 (by dsimp only;rw[z];exact b1) (aS ?_));exact aj ⟨rfl,rfl,rfl,rfl,hg b0 b1,A⟩
   refine aJ (λ_=>?_) λn3=>?_
   .refine aw (Ib _) λy _=>?_
    refine aN b0 b1 (aN b0 b1 (aS ?_));refine aw (ah4 _) λy _=>?_
    refine aN b0 (by dsimp only;rw[z];exact b1) (aN b0 (by dsimp only;rw[z];exact b1) (aS ?_));exact aj ⟨rfl,rfl,rfl,rfl,hg b0 b1,A⟩
   dsimp only at n2 n3;obtain⟨c0,c1⟩:=hC (by omega);refine aw (Ib _) λy _=>?_
   refine aN b0 b1 (aN b0 b1 (aS ?_));refine aN c0 c1 (aN c0 c1 (aS ?_));refine aw (ad8 _) λy _=>?_
   refine aN b0 (by dsimp only;rw[z];exact b1) (aN b0 (by dsimp only;rw[z];exact b1) (aS ?_));refine aN c0 (by dsimp only;rw[z];exact c1) (aN c0 (by dsimp only;rw[z];exact c1) (aS ?_));have g1:=hg b0 b1;have g2:=hg c0 c1;refine aV (Wb _ _ (c8 g1.len (by omega)) (c8 g2.len (by omega))) ?_;exact aj ⟨rfl,rfl,rfl,rfl,g1.uni g2,A⟩
  rintro⟨⟨v,ok,tn⟩,b',c',d',e',e''⟩ ⟨f1,N,f3,f4,f5,f6⟩;dsimp only at f1 N f3 f4 f5 f6;subst f1 N f3 f4;obtain⟨a0,a1⟩:=hA f6;have ht:=f5.len;refine a! ?_;refine aN a0 a1 (aN a0 a1 (aN a0 (by dsimp only;rw[z];exact a1) (aN a0 (by dsimp only;rw[z];exact a1) (aj ?_))));refine ⟨rfl,ca ..,ca ..,λl hm=>?_⟩;rcases EO hm with h|h
  .exact hl l h
  .rw[h];exact f5
def acj (E:Nat) (hE:E<=100000) (c:Int×Y IT) (hc:l! c.2<=1000000) (hv:VT c) (s:TT) (h:TH F E s):Ok (oF (c,s)) λy=>TH F E y.1/\(l! y.1.2.1=0\/y.1.2.2.2=s.2.2.2):=by
 unfold oF a8 bt bI b_ dJ dj bq bS kq i_ bT bX bf c5 aH cW;have N:=h;obtain⟨h1,h2,h3,h4,h5⟩:=h;refine aY (λx=>x.2.1=c/\x.2.2.1=s/\(x.1=aa->(l! s.2.1:Int)=c.1/\(l! s.2.2.1:Int)=c.1)) ?_ ?_
 .refine cz (λ_=>aj ⟨rfl,rfl,nofun⟩) λg=>aj ⟨rfl,rfl,λh=>?_⟩
  simp at h;exact⟨g,h⟩
 rintro⟨b,c',s',z⟩ ⟨D,e2,L⟩;dsimp only at D e2 L;subst D e2;refine aO (λ_=>aj ⟨TH.zero E,.inl rfl⟩) λhb=>?_
 obtain⟨q1,q2⟩:=L hb;refine aV (dl s' E hE N) ?_;refine ru (λx=>((l! c'.2:Int)+1-x.1).toNat) (λx=>0<=x.1/\x.1<=(l! c'.2:Int)+1/\x.2.1=c'/\x.2.2.1.2=s'.2.2.2/\l! x.2.2.2.2.1=l! s'.2.1/\l! x.2.2.2.2.2=l! s'.2.2.1/\∀l∈x.2.2.2.2.2,TL F E l) ?_ ⟨by dsimp only;omega,by dsimp only;omega,rfl,rfl,rfl,rfl,h3⟩;rintro⟨(n:Int),c,⟨(A:Int),ev⟩,z',R,T⟩ ⟨n0,n1,D,e2,L,e4,e5⟩;dsimp only at n0 n1 D e2 L e4 e5;subst D e2;refine fF (λg=>?_) λ_=>aj ⟨TH.zero E,.inl rfl⟩
 dsimp only[al]at g;refine aY (λx=>x.2=(c,(A,s'.2.2.2),z',R,T)/\(x.1=aa->0<=A/\A<(l! c.2:Int))) ?_ ?_
 .refine bW (λ_=>aj ⟨rfl,nofun⟩) λg1=>aj ⟨rfl,λh=>?_⟩
  dsimp only at g1 h;rw[m_]at h;exact⟨g1,h⟩
 rintro⟨b',x⟩ ⟨f1,f2⟩;dsimp only at f1 f2;subst f1;refine aO (λ_=>aj ⟨TH.zero E,.inl rfl⟩) λhb=>?_
 obtain⟨p0,p1⟩:=f2 hb;refine aN p0 p1 (aS ?_);have hi:=hv.i _ (b8 (T:=sk) (xs:=c.2) (j:=A) p0 p1);revert hi;generalize (geti sk _ _)=i;intro hi;refine aV (HU _) ?_;refine cz (λ_=>aj ⟨⟨by dsimp only;omega,by dsimp only;omega,e5,h4,h5⟩,.inr rfl⟩) λhsil=>?_
 refine aJ (λ_=>aj ⟨TH.zero E,.inl rfl⟩) λhn=>?_
 dsimp only[al]at hn;refine aw (aaa E hE i (A,s'.2.2.2) R T (λj hj=>by have:=hi.r j hj;omega) hsil.1 hsil.2 (by omega) (by omega) e5) λy hy=>?_
 obtain⟨⟨⟨pc',ev'⟩,ok⟩,R',T'⟩:=y;obtain⟨k1,k2,k3,k4⟩:=hy;dsimp only at k1 k2 k3 k4;refine db (mK k3.symm (db (mK k2.symm (C6 ?_))));refine eJ (λ_=>aj ⟨TH.zero E,.inl rfl⟩) λ_=>aj ?_
 dsimp only;rw[iW];exact⟨⟨by omega,by omega,rfl,k1,by omega,by omega,k4⟩,by omega⟩
end
abbrev ST:Type:=SY×η×η×Y TT
structure TF (c:Int×List IT) (t:TT):Prop where
 p0:0<=t.1
 p1:t.1<(l! c.2:Int)
 r:(l! t.2.1:Int)=c.1
 t:(l! t.2.2.1:Int)=c.1
structure FSx (c:CT) (s:ST):Prop where
 vc:VC c
 cd:∀d∈c.1.2.2.1,0<=d.2/\d.2<(l! c.1.2.1:Int)
 e3:l! s.1.2.2.2=l! c.1.2.2.2.2.1
 ce:l! s.2.1=l! c.1.1
 fu:l! s.2.2.1=l! c.1.2.2.2.1
 th:l! s.2.2.2=l! c.2
 t:∀k:Nat,k<l! c.2->TF (geti yO c.2 (k:Int)) (geti fe s.2.2.2 (k:Int))
def FQ (L:Y ET) (k:Int) (y:Int):Prop:=1<=y/\Ny L k y
structure SV (n:Nat) (L:List ET) (s:ST):Prop where
 sb:SB n s.1
 ln:l! L=n
 t:∀k:Nat,k<l! s.2.2.2->TH (FQ L k) n (geti fe s.2.2.2 (k:Int))
def SV.ti {s:ST} (h:SV i L s) (h0:0<=a) (h1:a<(l! s.2.2.2:Int)):TH (FQ L a) i (geti fe s.2.2.2 a):=by
 have:=h.t a.toNat (by omega);rw[show ((a.toNat:Nat):Int)=a by omega]at this;exact this
structure TG (c:CT) (L:List ET) (sy:SY) (k:Int) (t:TT):Prop where
 ev:t.2.2.2=(l! (fl L k):Int)
 wi:(geti iB sy.2.2.2 k).1=3\/(geti iB sy.2.2.2 k).1=4->(geti sk (geti yO c.2 k).2 t.1).1=21
 nw:l! (fl L k)=0->(geti iB sy.2.2.2 k).1=0\/(geti iB sy.2.2.2 k).1=1
structure NI (c:CT) (L:List ET) (s:ST):Prop where
 ac:Acw c.1 L s.1 s.2.1 s.2.2.1
 t:∀k:Nat,k<l! s.2.2.2->(geti fe s.2.2.2 (k:Int)).2.1.length=0\/TG c L s.1 (k:Int) (geti fe s.2.2.2 (k:Int))
def ajr (c:CT) (s:ST) (N:CB c):Ok (xZ (c,s)) λb=>b=J->FSx c s:=by
 unfold xZ a8 bt dJ dj bS kq i_ bX bf c5 aH cW;refine aY (λx=>x.2=(c,s)/\(x.1=aa->VC c/\(∀d∈c.1.2.2.1,0<=d.2/\d.2<(l! c.1.2.1:Int))/\l! s.1.2.2.2=l! c.1.2.2.2.2.1/\l! s.2.1=l! c.1.1/\l! s.2.2.1=l! c.1.2.2.2.1/\l! s.2.2.2=l! c.2)) ?_ ?_
 .refine aw (Wa c N.th N.ins) λb z=>?_
  refine eJ (λ_=>aj ⟨rfl,nofun⟩) λh=>?_
  have L:=z h;refine aw (So c.1 s.1 (by have:=L.vl.d;omega)) λb2 hb2=>?_
  refine eJ (λ_=>aj ⟨rfl,nofun⟩) λh2=>?_
  obtain⟨g1,_,_,g4⟩:=hb2 h2;refine cz (λ_=>aj ⟨rfl,nofun⟩) λk1=>?_
  refine cz (λ_=>aj ⟨rfl,nofun⟩) λk2=>aj ⟨rfl,λk3=>⟨L,g1,g4,?_,?_,?_⟩⟩
  .dsimp only[al]at k1;omega
  .dsimp only[al]at k2;omega
  .simp at k3;omega
 rintro⟨b,x⟩ ⟨e,z⟩;dsimp only at e z;subst e;refine aO (λ_=>aj nofun) λh=>?_
 obtain⟨L,hcd,h3,hce,hfu,hth⟩:=z h;have hcl:=N.th;refine cH (l! c.2) (λi x=>x.1=(i:Int)/\x.2=(c,s)/\∀k:Nat,k<i->TF (geti yO c.2 (k:Int)) (geti fe s.2.2.2 (k:Int))) ?_ ?_ ⟨rfl,rfl,λk hk=>by omega⟩
 .rintro i ⟨a,x⟩ hi ⟨D,e2,A⟩;dsimp only at D e2 A;subst D e2;refine dy ?_;have hin:((i:Nat):Int)<(l! c.2:Int):=by omega
  refine cY (aS ?_);refine aY (λx=>x.2=(c,s)/\(x.1=aa->TF (geti yO c.2 (i:Int)) (geti fe s.2.2.2 (i:Int)))) ?_ ?_
  .refine bW (λ_=>aj ⟨rfl,nofun⟩) λg0=>?_
   refine aN (by dsimp only;omega) hin (aS ?_);refine fF (λ_=>aj ⟨rfl,nofun⟩) λg1=>?_
   refine aN (by dsimp only;omega) hin (aS ?_);refine cz (λ_=>aj ⟨rfl,nofun⟩) λg2=>?_
   refine aN (by dsimp only;omega) hin (aS (aj ⟨rfl,λg3=>⟨g0,g1,g2,?_⟩⟩));simp at g3;exact g3
  rintro⟨b,x⟩ ⟨e,z⟩;dsimp only at e z;subst e;refine aO (λ_=>aj nofun) λh=>aj ?_
  dsimp only;refine ⟨gM,rfl,λk hk=>?_⟩;rcases bx k i with h1|h1
  .exact A k h1
  .rw[show k=i by omega];exact z h
 .rintro⟨a,x⟩ ⟨D,e2,A⟩;dsimp only at D e2 A;subst D e2;refine du (aj λ_=>⟨L,hcd,h3,hce,hfu,hth,A⟩)
def aly {i:IT} (h:i.1=6\/i.1=7\/i.1=27\/i.1=10):i.2.1∈jD i:=by
 unfold jD;(repeat' split)<;>simp<;>omega
def alx {i:IT} (h:i.1=8\/i.1=9\/i.1=26):i.2.2.1∈jD i:=by
 unfold jD;(repeat' split)<;>simp<;>omega
def aqp {i:IT} (h:i.1=7\/i.1=9):i.2.2.2.1∈jD i:=by
 unfold jD;(repeat' split)<;>simp<;>omega
structure KD (op k:Int):Prop where
 ld:k=3->op=6\/op=7
 st:k=4->op=8\/op=9
 br:k=5->op=10
 se:k=22->op=26
 ge:k=23->op=27
 e1:k=2->op=28
 n1:¬k=1
 n17:¬k=17
 wt:k=16->op=21
 e2:¬k=0->op=28->k=2
 d7:¬k=0->op=7->k=3
 d8:¬k=0->op=8->k=4
 d9:¬k=0->op=9->k=4
 d10:¬k=0->op=10->k=5
 d26:¬k=0->op=26->k=22
def aja (op:Int):Ok (xX op) λk=>KD op k:=by
 unfold xX bS ko aH;refine aY (λx=>x.2=[3,3,4,4,5,6,7,8,9,10,11,12,13,14,15,16,18,19,20,21,22,23,2]/\(x.1=aa->6<=op/\op<=28)) ?_ ?_
 .refine bW (λ_=>aj ⟨rfl,nofun⟩) λg=>aj ⟨rfl,λh=>?_⟩
  dsimp only at h;rw[gd]at h;exact⟨g,h⟩
 rintro⟨b,x⟩ ⟨e,z⟩;dsimp only at e z;subst e;refine aO (λ_=>aj (by constructor<;>first|decide|(intro h;first|(exact (h rfl).elim)|(cases h;done)))) λh=>?_
 obtain⟨h1,A⟩:=z h;dsimp only;rw[iW (n:=op-6) (by omega) (by omega)];refine aN (by omega) (by simp;omega) (aN (by omega) (by simp;omega) (aS (aj ?_)));have:op=6\/op=7\/op=8\/op=9\/op=10\/op=11\/op=12\/op=13\/op=14\/op=15\/op=16\/op=17\/op=18\/op=19\/op=20\/op=21\/op=22\/op=23\/op=24\/op=25\/op=26\/op=27\/op=28:=by omega
 rcases this with rfl|rfl|rfl|rfl|rfl|rfl|rfl|rfl|rfl|rfl|rfl|rfl|rfl|rfl|rfl|rfl|rfl|rfl|rfl|rfl|rfl|rfl|rfl;all_goals (constructor<;>decide)
def Wj (a n:Int):Ok (sN (a,n)) λr=>n=2->r=0\/r=1:=by
 unfold sN bS bT aH;refine bW (λ_=>aj λh=>(by dsimp only at *;omega)) λh=>?_
 dsimp only at h;refine A_ (by dsimp only;omega) ?_;have D:=Int.tmod_lt_of_pos a (b:=n) (by omega);have A:=Int.lt_tmod_of_pos a (b:=n) (by omega);refine aY (λr=>n=2->r=0\/r=1) (bW (λg=>aj λz=>?_) λg=>aj λz=>?_) λ_ h=>aj h
 .dsimp only at g ⊢;rw[iW];omega
 .dsimp only at g ⊢;omega
def Tw (i:IT) (t:TT) (hr:∀j∈jD i,0<=j/\j<(l! t.2.1:Int)):Ok (tJ (i,t)) λo=>(i.1=7->i.2.2.1=3->i.2.2.2.2.1=2->o=3\/o=4)/\(i.1=9->i.2.1=3->i.2.2.2.2.1=2->o=3\/o=4):=by
 unfold tJ a8 bt bI bq bX aH;have A:i.1=7\/i.1=9->0<=i.2.2.2.1/\i.2.2.2.1<(l! t.2.1:Int):=λh=>hr _ (by
  unfold jD;(repeat' split)<;>simp<;>omega)
 have D:∀{o:Int},¬i.1=7->¬i.1=9->(i.1=7->i.2.2.1=3->i.2.2.2.2.1=2->o=3\/o=4)/\(i.1=9->i.2.1=3->i.2.2.2.2.1=2->o=3\/o=4):=λh1 h2=>⟨λh=>(h1 h).elim,λh=>(h2 h).elim⟩
 have wk:∀{b r n:Int},b=3->n=2->(n=2->r=0\/r=1)->bA .i64 (b+r)=3\/bA .i64 (b+r)=4:=λh1 h2 z=>by
  have:=z h2;rw[iW];omega
 refine aY (λx=>x.2=(i,t)/\(x.1=J->i.1=6\/i.1=27)) (aJ (λh=>aj ⟨rfl,λ_=>.inl h⟩) λ_=>aj ⟨rfl,λh=>.inr (bD h)⟩) ?_;rintro⟨b,x⟩ ⟨e,hb⟩;dsimp only at e hb;subst e;refine aO (λh=>aj (D (by have:=hb h;omega) (by have:=hb h;omega))) λ_=>?_
 refine aJ (λh=>?_) λL=>?_
 .exact aN (A (.inl h)).1 (A (.inl h)).2 (aS (aw (Wj _ _) λy N=>aj ⟨λ_ z h4=>wk z h4 N,λh9=>by dsimp only at h;omega⟩))
 refine aJ (λh=>?_) λn9=>?_
 .exact aN (A (.inr h)).1 (A (.inr h)).2 (aS (aw (Wj _ _) λy N=>aj ⟨λh7=>(L h7).elim,λ_ z h4=>wk z h4 N⟩))
 refine aY (λ_=>True) ?_ λx _=>aO (λ_=>aj (D L n9)) λ_=>aj (D L n9)
 with_reducible repeat' first|apply OS.ok;constructor|refine IM.mk λ_=>?_
 all_goals trivial
def amg {w:WT} (A:w.1=C0) {n:Int} (h:AR w a n):a=3/\n=2:=by
 obtain⟨b0,b1,ix,sz,z⟩:=h;rw[A]at b1 ix sz z;have b1:a<5:=b1;rcases (by omega:a=0\/a=1\/a=2\/a=3\/a=4) with rfl|rfl|rfl|rfl|rfl
 .exact (sz rfl).elim
 .exact (sz rfl).elim
 .exact (sz rfl).elim
 .exact⟨rfl,z.symm⟩
 .exact co ix (by decide)
def als {w:WT} (z:w.1=C0) (h:a=3\/a=4):¬(geti mA w.1 a).2.2.1=0:=by
 rw[z];rcases h with rfl|rfl<;>decide
structure PE (n:Nat) (c:CT) (s:ST) (t:Int) (e:ET):Prop where
 fs:FSx c s
 t0:0<=t
 t1:t<(l! c.2:Int)
 et:e.1=t
 d:l! e.2.2.2.2.2.1<=n
 f:l! e.2.2.2.2.2.2<=n
 a:e.2.1=3\/e.2.1=23\/e.2.1=5->0<=(geti sk (geti yO c.2 t).2 (geti fe s.2.2.2 t).1).2.1/\(geti sk (geti yO c.2 t).2 (geti fe s.2.2.2 t).1).2.1<((geti fe s.2.2.2 t).2.1.length:Int)
 b:e.2.1=4\/e.2.1=22->0<=(geti sk (geti yO c.2 t).2 (geti fe s.2.2.2 t).1).2.2.1/\(geti sk (geti yO c.2 t).2 (geti fe s.2.2.2 t).1).2.2.1<((geti fe s.2.2.2 t).2.1.length:Int)
structure PS (c:CT) (L:List ET) (s:ST) (t:Int) (e:ET):Prop where
 tg:TG c L s.1 t (geti fe s.2.2.2 t)
 s1:e.2.1=1\/e.2.1=2->e.2.2.2.2.1= -1
 s2:¬(e.2.1=1\/e.2.1=2)->0<=e.2.2.2.2.1/\e.2.2.2.2.1<l! c.1.2.2.2.2.2/\(geti qO c.1.2.2.2.2.2 e.2.2.2.2.1).1=t
 de:0<l! e.2.2.2.2.2.1->e.2.1=5\/(e.2.1=3\/e.2.1=4)/\¬(geti mA c.1.1 e.2.2.1).2.2.1=0
 fr:0<l! e.2.2.2.2.2.2->e.2.1=4\/e.2.1=22
 da:JZ e.2.2.2.2.2.1
 dq:∀y∈e.2.2.2.2.2.1,FQ L t y
 fa:JZ e.2.2.2.2.2.2
 fq:∀y∈e.2.2.2.2.2.2,FQ L t y
 wt:e.2.1=16->(geti sk (geti yO c.2 t).2 (geti fe s.2.2.2 t).1).1=21
def YK (n:Nat) (hn:n<=100000) (c:CT) (L:Y ET) (s:ST) (hc:CB c) (hs:SV n L s) (hI:NI c L s) (t:Int):Ok (o6 (c,s,t)) λy=>y.2=J->PE n c s t y.1/\PS c L s t y.1:=by
 unfold o6 a8 bt bI b_ dJ dj bq bS bT bX bf aH;refine aY (λx=>x.2.1=c/\x.2.2.1=s/\(x.1=aa->FSx c s/\0<=t/\t<(l! c.2:Int))) ?_ ?_
 .refine aw (ajr c s hc) λb hb=>?_
  refine eJ (λ_=>aj ⟨rfl,rfl,nofun⟩) λh=>?_
  refine bW (λ_=>aj ⟨rfl,rfl,nofun⟩) λg0=>aj ⟨rfl,rfl,λg1=>?_⟩
  dsimp only at g0 g1;rw[m_]at g1;exact⟨hb h,g0,g1⟩
 rintro⟨b,D,s',z⟩ ⟨e1,e2,hb⟩;dsimp only at e1 e2 hb;subst e1 e2;refine aO (λ_=>aj nofun) λh=>?_
 obtain⟨hf,t0,t1⟩:=hb h;have hk:((t.toNat:Nat):Int)=t:=by omega
 have htf:=hf.t t.toNat (by omega);rw[hk]at htf;have hvt:=hf.vc.t _ (b8 (T:=yO) (xs:=D.2) (j:=t) t0 t1);have hth:=hs.ti t0 (by rw[hf.th];exact t1);have key:∀e:ET,e.1=t->l! e.2.2.2.2.2.1<=n->l! e.2.2.2.2.2.2<=n->(e.2.1=1\/e.2.1=17\/KD (geti sk (geti yO D.2 t).2 (geti fe s'.2.2.2 t).1).1 e.2.1)->PE n D s' t e:=by
  intro e h1 h2 h3 N;have hi:=hvt.i _ (b8 (T:=sk) (xs:=(geti yO D.2 t).2) (j:=(geti fe s'.2.2.2 t).1) htf.p0 htf.p1);refine ⟨hf,t0,t1,h1,h2,h3,λh5=>?_,λh5=>?_⟩
  .rw[htf.r];rcases N with N|N|N
   .omega
   .omega
   .refine hi.r _ ?_;have a1:=N.ld;have a2:=N.ge;have a3:=N.br;revert a1 a2 a3 h5;generalize (geti sk (geti yO D.2 t).2 (geti fe s'.2.2.2 t).1)=i;intro h5 a1 a2 a3;exact aly (by omega)
  .rw[htf.r];rcases N with N|N|N
   .omega
   .omega
   .refine hi.r _ ?_;have a1:=N.st;have a2:=N.se;revert a1 a2 h5;generalize (geti sk (geti yO D.2 t).2 (geti fe s'.2.2.2 t).1)=i;intro h5 a1 a2;exact alx (by omega)
 have hir:=(hvt.i _ (b8 (T:=sk) (xs:=(geti yO D.2 t).2) (j:=(geti fe s'.2.2.2 t).1) htf.p0 htf.p1)).r;rw[<- htf.r]at hir;have hrg:=hc.rg _ (b8 (T:=yO) (xs:=D.2) (j:=t) t0 t1);have htg:TG D L s'.1 t (geti fe s'.2.2.2 t):=by
  have:=hI.t t.toNat (by rw[hf.th];omega);rw[hk]at this;refine this.resolve_left λh=>?_
  have:=htf.r;omega
 have hvj:=hf.vc.j t.toNat (by omega);rw[hk]at hvj;have hvj:=hvj _ (b8 (T:=sk) (xs:=(geti yO D.2 t).2) (j:=(geti fe s'.2.2.2 t).1) htf.p0 htf.p1);have hC0:=hc.wx.c;refine aN t0 (by dsimp only;rw[hf.th];exact t1) (aS ?_);refine aN t0 t1 (aS ?_);refine aN htf.p0 htf.p1 (aS ?_);have t4:t<(l! s'.1.2.2.2:Int):=by rw[hf.e3,<-hf.vc.tl];exact t1
 have tz:(geti fe s'.2.2.2 t).2.2.1.length=(geti fe s'.2.2.2 t).2.1.length:=by have:=htf.r;have:=htf.t;omega
 refine aN t0 t4 (aS ?_);refine aJ (λ_=>aj λ_=>⟨key _ rfl (mr _) (mr _) (.inl rfl),⟨htg,λ_=>rfl,λh=>(h (.inl rfl)).elim,nofun,nofun,trivial,λy hy=>(by cases hy),trivial,λy hy=>(by cases hy),nofun⟩⟩) λ_=>?_
 refine aJ (λN=>aN t0 t4 (aS (aj λ_=>⟨key _ rfl (mr _) (mr _) (.inr (.inl rfl)),⟨htg,λh=>(by rcases h with h|h<;>cases h),λ_=>hvj.si (by rw[htg.wi (.inr N)];decide),nofun,nofun,trivial,λy hy=>(by cases hy),trivial,λy hy=>(by cases hy),nofun⟩⟩))) λ_=>?_
 refine aJ (λ_=>?_) λ_=>aj nofun
 refine aw (aja _) λk A=>?_
 refine aw (Tw _ _ hir) λo ho=>?_
 refine aJ (λ_=>aj nofun) λhk0=>?_
 have fin:∀e:ET,e.1=t->e.2.1=k->e.2.2.1=o->e.2.2.2.2.1=(geti sk (geti yO D.2 t).2 (geti fe s'.2.2.2 t).1).2.2.2.2.2->(0<l! e.2.2.2.2.2.1->(geti sk (geti yO D.2 t).2 (geti fe s'.2.2.2 t).1).1=10\/(geti sk (geti yO D.2 t).2 (geti fe s'.2.2.2 t).1).1=7\/(geti sk (geti yO D.2 t).2 (geti fe s'.2.2.2 t).1).1=9)->(0<l! e.2.2.2.2.2.2->(geti sk (geti yO D.2 t).2 (geti fe s'.2.2.2 t).1).1=8\/(geti sk (geti yO D.2 t).2 (geti fe s'.2.2.2 t).1).1=9\/(geti sk (geti yO D.2 t).2 (geti fe s'.2.2.2 t).1).1=26)->TL (FQ L t) n e.2.2.2.2.2.1->TL (FQ L t) n e.2.2.2.2.2.2->PE n D s' t e/\PS D L s' t e:=by
  intro e h1 h2 h3 N h5 h6 h7 h8;refine ⟨key e h1 h7.len h8.len (.inr (.inr (h2▸A))),htg,λh=>?_,λh=>?_,λh=>?_,λh=>?_,h7.a,h7.f,h8.a,h8.f,λh=>A.wt (h2▸h)⟩
  .rw[N];rw[h2]at h;exact hvj.se (A.e1 (h.resolve_left A.n1))
  .rw[N];rw[h2]at h;exact hvj.si λh9=>h (.inr (A.e2 hk0 h9))
  .rw[h2,h3];rcases h5 h with g|g|g
   .exact .inl (A.d10 hk0 g)
   .obtain⟨q1,q2⟩:=amg hC0 (hvj.a7 g);exact .inr ⟨.inl (A.d7 hk0 g),als hC0 (ho.1 g q1 q2)⟩
   .obtain⟨q1,q2⟩:=amg hC0 (hvj.a9 g);exact .inr ⟨.inr (A.d9 hk0 g),als hC0 (ho.2 g q1 q2)⟩
  .rw[h2];rcases h6 h with g|g|g
   .exact .inl (A.d8 hk0 g)
   .exact .inl (A.d9 hk0 g)
   .exact .inr (A.d26 hk0 g)
 clear key htg hvj ho hC0 hrg;revert fin htf hvt hth hir tz A;dsimp only;generalize (geti fe s'.2.2.2 t)=th;generalize (geti sk _ th.1)=i;intro htf hvt hth hir tz A fin;have hlen:∀{j:Int},0<=j->j<(l! th.2.2.1:Int)->TL (FQ L t) n (geti (.sl (.int .i64)) th.2.2.1 j):=λh0 h1=>hth.l _ (b8 (T:=.sl (.int .i64)) (xs:=th.2.2.1) h0 h1)
 have hA:i.1=10->0<=i.2.1/\i.2.1<(l! th.2.2.1:Int):=λh=>by
  rw[tz];exact hir _ (aly (.inr (.inr (.inr h))))
 have hB:i.1=8\/i.1=9\/i.1=26->0<=i.2.2.1/\i.2.2.1<(l! th.2.2.1:Int):=λh=>by
  rw[tz];exact hir _ (alx (h))
 have hC:i.1=7\/i.1=9->0<=i.2.2.2.1/\i.2.2.2.1<(l! th.2.2.1:Int):=λh=>by
  rw[tz];exact hir _ (aqp (h))
 refine aY (λx=>x.2.1=th/\x.2.2.1=i/\(x.2.2.2.1.1=t/\x.2.2.2.1.2.1=k/\x.2.2.2.1.2.2.1=o/\x.2.2.2.1.2.2.2.2=i.2.2.2.2.2)/\TL (FQ L t) n x.2.2.2.2/\(0<l! x.2.2.2.2->i.1=10\/i.1=7\/i.1=9)) ?_ ?_
 .refine aJ (λh=>?_) λ_=>?_
  .obtain⟨a0,a1⟩:=hA h;refine aN a0 a1 (aS ?_);have:=hlen a0 a1;exact bl (c8 this.len (by omega)) (by omega) (aj ⟨rfl,rfl,⟨rfl,rfl,rfl,rfl⟩,this,λ_=>.inl h⟩)
  refine aY (λx=>x.2.2.1=th/\x.2.2.2.1=i/\(x.2.2.2.2.1=t/\x.2.2.2.2.2.1=k/\x.2.2.2.2.2.2.1=o/\x.2.2.2.2.2.2.2.2=i.2.2.2.2.2)/\(x.1=J->i.1=7\/i.1=9)) ?_ ?_
  .refine aJ (λh=>aj ⟨rfl,rfl,⟨rfl,rfl,rfl,rfl⟩,λ_=>.inl h⟩) λ_=>aj ⟨rfl,rfl,⟨rfl,rfl,rfl,rfl⟩,λh=>.inr (bD h)⟩
  rintro⟨b,z0,th',i',t',k',z1⟩ ⟨e1,e2,e3,hb9⟩;dsimp only at e1 e2 e3 hb9;subst e1 e2;refine aO (λh=>?_) λ_=>aj ⟨rfl,rfl,e3,TL.nil n,nofun⟩
  obtain⟨a0,a1⟩:=hC (hb9 h);refine aN a0 a1 (aS ?_);have:=hlen a0 a1;exact bl (c8 this.len (by omega)) (by omega) (aj ⟨rfl,rfl,e3,this,λ_=>.inr (hb9 h)⟩)
 rintro⟨z0,th',i',⟨t',k',z1⟩,ds⟩ ⟨e1,e2,e3,hd,hd2⟩;dsimp only at e1 e2 e3 hd hd2;subst e1 e2;refine aY (λx=>(x.2.1.1=t/\x.2.1.2.1=k/\x.2.1.2.2.1=o/\x.2.1.2.2.2.2=i'.2.2.2.2.2)/\x.2.2.1=ds/\TL (FQ L t) n x.2.2.2/\(0<l! x.2.2.2->i'.1=8\/i'.1=9\/i'.1=26)) ?_ ?_
 .refine aY (λx=>x.2=(z0,th',i',(t',k',z1),ds)/\(x.1=J->i'.1=8\/i'.1=9\/i'.1=26)) ?_ ?_
  .exact aJ (λh=>aj ⟨rfl,λ_=>.inl h⟩) λ_=>aJ (λh=>aj ⟨rfl,λ_=>.inr (.inl h)⟩) λ_=>aj ⟨rfl,λh=>.inr (.inr (bD h))⟩
  rintro⟨b,x⟩ ⟨e,hb9⟩;dsimp only at e hb9;subst e;refine aO (λh=>?_) λ_=>aj ⟨e3,rfl,TL.nil n,nofun⟩
  obtain⟨a0,a1⟩:=hB (hb9 h);refine aN a0 a1 (aS ?_);have:=hlen a0 a1;exact bl (c8 this.len (by omega)) (by omega) (aj ⟨e3,rfl,this,λ_=>hb9 h⟩)
 rintro⟨z2,⟨t2,k2,o2,z3,si⟩,d2,f2⟩ ⟨e1,e2,h1,h2⟩;dsimp only at e1 e2 h1 h2;subst e2;obtain⟨g1,g2,g3,g4⟩:=e1;exact aj λ_=>fin _ g1 g2 g3 g4 hd2 h2 hd h1
def an4 {n:Nat} {k:Int} (h0:0<=k) (h1:k<n):(geti iB (thP n) k).1=0\/(geti iB (thP n) k).1=1:=by
 have hm:=b8 (T:=iB) (xs:=thP n) h0 (by rw[Qv];exact h1);revert hm;generalize geti iB (thP n) k=z;intro hm;cases n with
 |zero=>cases hm
 |succ n=>
  rcases aZ.1 hm with rfl|hm
  .exact .inr rfl
  .rw[yR hm];exact .inl rfl
def YJ (c:CT) (hvt:ky c=Z J) (hv:VC c):Ok (vG c) λs=>SV 0 [] s/\NI c [] s:=by
 unfold vG a8 bt bI cA b_ dJ dj fD bS pu bT bX bf c5 aH cW;refine aV hvt (eJ nofun λ_=>?_);obtain⟨vc,vl,vd,vf,_,vt,_⟩:=id hv.vl;have htl:=hv.tl;refine aV (Nq c.1 hv.vl) ?_;refine cH (l! c.1.1) (λi x=>x.1=(i:Int)/\x.2.1=c/\x.2.2.2.1=Sq c.1/\x.2.2.2.2=(c.1.1.take i).map λc=>c.2.2.2.2) ?_ ?_ ⟨rfl,rfl,rfl,rfl⟩
 .rintro i ⟨a,c',z,y',l⟩ hi ⟨L,e2,D,A⟩;dsimp only at L e2 D A;subst L e2 D A;refine dy ?_;refine cY (aS (a! (aj ?_)));dsimp only;exact⟨gM,rfl,rfl,by rw[pJ (T:=mA) hi,cJ];rfl⟩
 rintro⟨a,c',z,y',l⟩ ⟨L,e2,D,A⟩;dsimp only at L e2 D A;subst L e2 D;rw[cr]at A;subst A;refine du ?_;refine aw (P:=λs=>SV 0 [] s/\NI c' [] s) ?_ λr hr=>aj hr
 refine cH (l! c'.1.2.2.2.1) (λi x=>x.1=(i:Int)/\x.2.1=c'/\x.2.2.2.1=Sq c'.1/\x.2.2.2.2.1=ce0 c'.1/\x.2.2.2.2.2=aF i 0) ?_ ?_ ⟨rfl,rfl,rfl,rfl,rfl⟩
 .rintro i ⟨a,c,z,y,l,f⟩ hi ⟨L,e2,D,A,N⟩;dsimp only at L e2 D A N;subst L e2 D N;refine dy ?_;refine a! (aj ?_);dsimp only;exact⟨gM,rfl,rfl,A,by rw[wn]⟩
 rintro⟨a,c,z,y,l,f⟩ ⟨L,e2,D,A,N⟩;dsimp only at L e2 D A N;subst L e2 D A N;refine du ?_;refine aw (P:=λs=>SV 0 [] s/\NI c [] s) ?_ λr hr=>aj hr
 refine cH (l! c.2) (λi x=>x.1=(i:Int)/\x.2.1=c/\x.2.2.2.1=Sq c.1/\x.2.2.2.2.1=ce0 c.1/\x.2.2.2.2.2.1=fu0 c.1/\l! x.2.2.2.2.2.2=i/\∀t∈x.2.2.2.2.2.2,(∀F,TH F 0 t)/\t.2.2.2=0) ?_ ?_ ⟨rfl,rfl,rfl,rfl,rfl,rfl,λt ht=>(by cases ht)⟩
 .rintro i ⟨a,c,z,y,l,f,th⟩ hi ⟨L,e2,D,A,e4b,N,e6⟩;dsimp only at L e2 D A e4b N e6;subst L e2 D;refine dy ?_;have hin:((i:Nat):Int)<(l! c.2:Int):=by omega
  have hvt:=hv.t _ (b8 (T:=yO) (xs:=c.2) (j:=(i:Int)) (by omega) hin);have q0:=hvt.r0;have q1:=hvt.r1;refine aN (by dsimp only;omega) hin (aS ?_);refine db (db (eg q0 (eg (dC _) (a! ?_))));refine aN (by dsimp only;omega) hin (aS ?_);refine db (db (eg q0 (eg (dC _) (a! ?_))));refine a! (aj ?_);dsimp only;refine ⟨gM,rfl,rfl,A,e4b,by simp;omega,λt ht=>?_⟩;rcases bG.1 ht with h|h
  .exact e6 t h
  .rw[aE]at h;subst h;refine ⟨λF=>⟨?_,?_,λl hl=>?_,dC _,dC _⟩,rfl⟩
   .dsimp only;rw[c4];omega
   .dsimp only;rw[c4];omega
   .rw[yR hl];exact TL.nil 0
 .rintro⟨a,c,z,y,l,f,th⟩ ⟨L,e2,D,A,e4b,N,e6⟩;dsimp only at L e2 D A e4b N e6;subst L e2 D A e4b;refine du (aj ?_);have hm:∀k:Nat,k<l! th->_:=λk hk=>e6 _ (b8 (T:=fe) (xs:=th) (j:=(k:Int)) (by omega) (by omega))
  refine ⟨⟨W2 hv.vl,rfl,λk hk=>(hm k hk).1 _⟩,⟨.nil,λk hk=>.inr ?_⟩⟩;dsimp only at hk;have hst:=an4 (n:=l! c.1.2.2.2.2.1) (k:=(k:Int)) (by omega) (by omega);exact⟨(hm k hk).2,λh=>(by rcases hst with q|q<;>rcases h with h|h<;>exact co (q.symm.trans h) (by decide)),λ_=>hst⟩
def KE {x j:Int} (h0:0<=a) (h1:a<l! r) (z:0<=j):(geti iB (Eu r a x) j).1=if j=a then x else (geti iB r j).1:=by
 unfold Eu;rw[vk (T:=iB) _ _ _ _ h0 h1 z];split<;>rfl
def ama {x j:Int} (h0:0<=a) (h1:a<l! r) (z:0<=j):(geti iB (cdP r a x) j).1=(geti iB r j).1:=by
 unfold cdP;rw[vk (T:=iB) _ _ _ _ h0 h1 z];split
 .rename_i h;rw[h]
 .rfl
def amf {j:Int} (h0:0<=a) (h1:a<l! r) (z:0<=j):(geti iB (atP r a b) j).1=(geti iB r j).1:=by
 unfold atP;rw[vk (T:=iB) _ _ _ _ h0 h1 z];split
 .rename_i h;rw[h]
 .rfl
def am4 (D:0<=a):∀(l:η) (th:Y g?),(∀u:Int,u∈l->0<=u/\u<l! th)->(geti iB (Jm th l) a).1=if a∈l then 4 else (geti iB th a).1
 |[],th,_=>by simp[Jm]
 |x::r,th,h=>by
  have A:=h x (cR ..);have L:=am4 D r (Eu th x 4) λu N=>by unfold Eu;rw[ca];exact h u (bM _ N)
  have e:Jm th (x::r)=Jm (Eu th x 4) r:=rfl;rw[e,L,KE A.1 A.2 D];by_cases h1:a∈r
  .rw[aC h1,aC (bM _ h1)]
  .rw[av h1];by_cases z:a=x
   .rw[aC z,aC (by rw[z];exact cR ..)]
   .rw[av z,av λh=>(aZ.1 h).elim z h1]
def VY {w:WT} {s:SY} {k o u v:Int} {A:SY} (h:(A,v)=xy w s a k o u):xy w s a k o v=(A,v):=by
 by_cases D:k=18
 .subst D;rw[HN]at h ⊢;by_cases z:l! (wl s.2.2.2 o (l! s.2.2.2))=0
  .rw[aC z]at h ⊢;exact h.symm
  .rw[av z]at h ⊢;have hm:=Kq u z;generalize wl s.2.2.2 o (l! s.2.2.2)=l at h z hm ⊢;obtain⟨rfl,rfl⟩:=Prod.mk.inj h;have:Dr l (Dr l u)=Dr l u:=by
    rw[Dr,av z,aC (uv.2 hm)]
   rw[this]
 .rw[Z3 _ _ _ _ _ _ u D,<-h]
def ao3 {w:WT} {s:SY} {k o:Int} (u:Int) (he:EN w s a k o) (hr:Z' w s a k o) {j:Int} (h0:0<=j):(¬j=a->(geti iB (xy w s a k o u).1.2.2.2 j).1=(geti iB s.2.2.2 j).1\/((geti iB s.2.2.2 j).1=3/\(geti iB (xy w s a k o u).1.2.2.2 j).1=4)\/((geti iB s.2.2.2 j).1=0/\(geti iB (xy w s a k o u).1.2.2.2 j).1=1))/\(j=a->¬k=16->¬(geti iB (xy w s a k o u).1.2.2.2 j).1=3/\¬(geti iB (xy w s a k o u).1.2.2.2 j).1=4):=by
 have t0:=he.t0;have t1:a<l! s.2.2.2:=by have:=he.t1;have:=he.e3;omega
 have A:=hr.r;have hml:∀u:Int,u∈wl s.2.2.2 o (l! s.2.2.2)->0<=u/\u<l! s.2.2.2:=λu hu=>⟨(xf.1 hu).1,(xf.1 hu).2.1⟩
 have h3:∀u:Int,u∈wl s.2.2.2 o (l! s.2.2.2)->(geti iB s.2.2.2 u).1=3:=λu hu=>by
  have:=(xf.1 hu).2.2;unfold NK at this;rw[ak]at this;exact bD this.1
 have same:¬k=1->¬k=17->∀th:Y g?,(geti iB th j).1=(geti iB s.2.2.2 j).1->(¬j=a->(geti iB th j).1=(geti iB s.2.2.2 j).1\/((geti iB s.2.2.2 j).1=3/\(geti iB th j).1=4)\/((geti iB s.2.2.2 j).1=0/\(geti iB th j).1=1))/\(j=a->¬k=16->¬(geti iB th j).1=3/\¬(geti iB th j).1=4):=λt b th h=>⟨λ_=>.inl h,λh2 _=>by rw[h,h2,A t b];decide⟩
 have st:∀x:Int,¬x=3\/k=16->¬x=4->∀th:Y g?,(geti iB th j).1=(if j=a then x else (geti iB s.2.2.2 j).1)->(¬j=a->(geti iB th j).1=(geti iB s.2.2.2 j).1\/((geti iB s.2.2.2 j).1=3/\(geti iB th j).1=4)\/((geti iB s.2.2.2 j).1=0/\(geti iB th j).1=1))/\(j=a->¬k=16->¬(geti iB th j).1=3/\¬(geti iB th j).1=4):=λx hx hx4 th h=>⟨λhn=>.inl (by rw[h,av hn]),λh2 h16=>by rw[h,aC h2];exact⟨hx.resolve_right h16,hx4⟩⟩
 have L:∀x:Int,a<l! (Eu s.2.2.2 a x):=λx=>by unfold Eu;rw[ca];exact t1
 by_cases k1:k=1
 .subst k1;exact st 2 (.inl (by decide)) (by decide) _ (KE t0 t1 h0)
 by_cases k2:k=2
 .subst k2;exact st 5 (.inl (by decide)) (by decide) _ (KE t0 t1 h0)
 by_cases k16:k=16
 .subst k16;exact st 3 (.inr rfl) (by decide) _ ((ama t0 (L _) h0).trans (KE t0 t1 h0))
 by_cases k17:k=17
 .subst k17;exact st 2 (.inl (by decide)) (by decide) _ ((ama t0 (L _) h0).trans (KE t0 t1 h0))
 by_cases k14:k=14
 .subst k14;exact same k1 k17 _ (amf t0 t1 h0)
 by_cases k15:k=15
 .subst k15;exact same k1 k17 _ (amf t0 t1 h0)
 by_cases k18:k=18
 .subst k18;rw[HN];by_cases hl:l! (wl s.2.2.2 o (l! s.2.2.2))=0
  .rw[aC hl];exact same k1 k17 _ rfl
  .rw[av hl];have hc:=Kq u hl;have N:=hml _ hc;have z:=h3 _ hc;dsimp only;rw[KE N.1 N.2 h0];generalize Dr (wl s.2.2.2 o (l! s.2.2.2)) u=c at z;by_cases D:j=c
   .rw[aC D,D];exact⟨λ_=>.inr (.inl ⟨z,rfl⟩),λh _=>by rw[h,A k1 k17]at z;exact co z (by decide)⟩
   .rw[av D];exact⟨λ_=>.inl rfl,λh _=>by rw[h,A k1 k17];decide⟩
 by_cases k19:k=19
 .subst k19;show (_->(geti iB (Jm _ _) j).1=_\/_/\(geti iB (Jm _ _) j).1=_\/_/\(geti iB (Jm _ _) j).1=_)/\(_->_->¬(geti iB (Jm _ _) j).1=_/\¬(geti iB (Jm _ _) j).1=_)
  rw[am4 h0 _ _ hml];by_cases D:j∈wl s.2.2.2 o (l! s.2.2.2)
  .rw[aC D];have z:=h3 _ D;exact⟨λ_=>.inr (.inl ⟨z,rfl⟩),λh _=>by rw[h,A k1 k17]at z;exact co z (by decide)⟩
  .rw[av D];exact⟨λ_=>.inl rfl,λh _=>by rw[h,A k1 k17];decide⟩
 by_cases k20:k=20
 .subst k20;obtain⟨o0,o1⟩:=he.nm.th (.inl rfl);obtain⟨hot,ho0⟩:=hr.sp rfl;have o1':o<l! s.2.2.2:=by rw[he.e3];exact o1
  show (_->(geti iB (Eu _ _ _) j).1=_\/_/\(geti iB (Eu _ _ _) j).1=_\/_/\(geti iB (Eu _ _ _) j).1=_)/\(_->_->¬(geti iB (Eu _ _ _) j).1=_/\¬(geti iB (Eu _ _ _) j).1=_)
  rw[KE o0 o1' h0];by_cases D:j=o
  .rw[aC D,D];exact⟨λ_=>.inr (.inr ⟨ho0,rfl⟩),λh _=>(hot h).elim⟩
  .rw[av D];exact⟨λ_=>.inl rfl,λh _=>by rw[h,A k1 k17];decide⟩
 refine same k1 k17 _ ?_;unfold xy;rw[av k1,av k2];repeat' split
 all_goals first|rfl|omega
def ajq {e':ET} (h1:e'.1=e.1) (z:e'.2.1=e.2.1) (t:Int):fl [e'] t=fl [e] t:=by
 by_cases h:e.1=t
 .rw[Bv h,Bv (h1.trans h)];unfold uM;rw[z]
 .rw[yo h,yo (λg=>h (h1.symm.trans g))]
def alj {e':ET} (h1:e'.1=e.1) (z:e'.2.1=e.2.1) {y:Int} (h:FQ (L++[e]) a y):FQ (L++[e']) a y:=by
 unfold FQ Ny at h ⊢;rw[vW,ajq h1 z,<-vW];exact h
def LV (xs:Y T.den) (i k:Nat) (x:T.den) (hi:i<l! xs):geti _ (xs.set i x) (k:Int)=if k=i then x else geti _ xs (k:Int):=by
 refine (vk xs (i:Int) (k:Int) x (by omega) (by omega) (by omega)).trans ?_;by_cases h:k=i
 .rw[aC h,aC (by omega)]
 .rw[av h,av (by omega)]
abbrev G!:=ST×ET×Bool
def SQ (n:Nat) (c:CT) (L:Y ET) (y:G!):Prop:=y.2.2=J->SV (n+1) (L++[y.2.1]) y.1/\NI c (L++[y.2.1]) y.1/\WC c.1 y.2.1/\EvS y.2.1
def akx (hn:j+1<=100000) {c:CT} {s:ST} {o v0 si:Int} {ds fs:η} {sy:SY} (hs:SV j L s) (hI:NI c L s) (hp:PE j c s (i:Int) ((i:Int),a,o,v0,si,ds,fs)) (hm:PS c L s (i:Int) ((i:Int),a,o,v0,si,ds,fs)) (he:EN c.1 s.1 (i:Int) a o) (hr:Z' c.1 s.1 (i:Int) a o) (ha:AP j s.1 sy) (z:Int) (ce fu:η) (N:TT) (hap:(xy c.1 s.1 (i:Int) a o z).1=sy) (hva:VA c.1 s.1 s.2.1 s.2.2.1 (i:Int) a o z) (hce:ce=ceP s.2.1 ((i:Int),a,o,z,si,ds,fs)) (hfu:fu=fuP s.2.2.1 ((i:Int),a,o,z,si,ds,fs)) (ht:TH (FQ (L++[((i:Int),a,o,v0,si,ds,fs)]) (i:Int)) (j+1) N) (hg:l! N.2.1=0\/N.2.2.2=bA .i64 ((geti fe s.2.2.2 (i:Int)).2.2.2+1)/\(a=16->N.1=(geti fe s.2.2.2 (i:Int)).1)):SQ j c L ((sy,ce,fu,s.2.2.2.set i N),((i:Int),a,o,z,si,ds,fs),J):=by
 intro _;have q1:=hp.t1;have q2:=hp.fs.th;have q3:=hp.fs.e3;have q4:=hp.fs.vc.tl;have hil:i<l! s.2.2.2:=by omega
 have hln:=hs.ln;refine ⟨⟨ha.toSB hs.sb hn,by simp[hln],λk D=>?_⟩,⟨?_,λk D=>?_⟩,⟨he.nm,he.t0,he.t1,he.cd⟩,⟨c8 hp.d (by omega),c8 hp.f (by omega)⟩⟩
 .dsimp only at D ⊢;rw[fL]at D;rw[LV (T:=fe) _ _ _ _ hil];split
  .rename_i h;subst h;exact ht.mono (bV _) λy A=>alj (e:=((k:Int),a,o,v0,si,ds,fs)) (e':=((k:Int),a,o,z,si,ds,fs)) rfl rfl A
  .exact (hs.t k D).mono (by omega) λy A=>⟨A.1,A.2.app _⟩
 .rw[<- hap,hce,hfu];exact hI.ac.snoc (e:=((i:Int),a,o,z,si,ds,fs)) ⟨he,hr,hm.s1,hm.s2,hm.de,hm.fr,⟨hm.da,λx hx=>⟨(hm.dq x hx).1,(hm.dq x hx).2.lt⟩⟩,⟨hm.fa,λx hx=>⟨(hm.fq x hx).1,(hm.fq x hx).2.lt⟩⟩,λy A=>(hm.dq y A).2,λy A=>(hm.fq y A).2,hva⟩
 .dsimp only at D ⊢;rw[fL]at D;rw[LV (T:=fe) _ _ _ _ hil];obtain⟨KF,st2⟩:=ao3 z he hr (j:=(k:Int)) (by omega);rw[hap]at KF st2;have hfl:=UD L (i:Int);split
  .rename_i h;subst h;rcases hg with hg|⟨g1,g2⟩
   .exact .inl hg
   .refine .inr ⟨?_,λhw=>?_,λhz=>?_⟩
    .rw[g1,hm.tg.ev,vW,Bv rfl,gM];simp
    .have h16:a=16:=xd λh=>hw.elim (st2 rfl h).1 (st2 rfl h).2
     rw[g2 h16];exact hm.wt h16
    .rw[vW,Bv rfl]at hz;simp at hz
  .rename_i h;have hki:¬(k:Int)=(i:Int):=by omega
   have hfo:∀e:ET,e.1=(i:Int)->fl (L++[e]) (k:Int)=fl L (k:Int):=λe h=>by
    rw[vW,yo (by rw[h];exact λh=>hki h.symm),mZ]
   have KF:=KF hki;refine (hI.t k D).imp id λg=>⟨by rw[hfo _ rfl];exact g.ev,λhw=>g.wi (by
    rcases KF with h1|⟨h1,_⟩|⟨_,h1⟩
    .rw[<- h1];exact hw
    .exact .inl h1
    .exact hw.elim (λh=>co (h1.symm.trans h) (by decide)) λh=>co (h1.symm.trans h) (by decide)),λhz=>?_⟩
   rw[hfo _ rfl]at hz;have g2:=g.nw hz;rcases KF with h1|⟨h1,_⟩|⟨_,h1⟩
   .rw[h1];exact g2
   .exact (g2.elim (λh=>co (h1.symm.trans h) (by decide)) λh=>co (h1.symm.trans h) (by decide))
   .exact .inr h1
end
end Go.Proofs.YtcmnmakaoonfgaaGreatDoor.AI
