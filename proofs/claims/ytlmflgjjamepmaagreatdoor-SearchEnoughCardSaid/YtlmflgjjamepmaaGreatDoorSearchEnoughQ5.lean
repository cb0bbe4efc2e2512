/-
  Texts of the proof, part 6 of 6: what is used to prove the statement. No condition.
-/
import Derived.Test.YtlmflgjjamepmaaGreatDoorSearchEnoughQ4
import Derived.Shelf.Strings.Search1
import Derived.Test.YtlmflgjjamepmaaGreatDoorRows
import Derived.LaidMore
namespace Go.Proofs.YtlmflgjjamepmaaGreatDoor.AI
open Go.RowKit
set_option maxRecDepth 100000
set_option maxHeartbeats 4000000
set_option linter.unusedVariables false
set_option linter.unusedSimpArgs false
set_option linter.defProp false
open _root_.Bool renaming true→J,false→aa
open _root_.Int renaming ofNat_eq_natCast→ak,toNat→aS,ofNat→bC,tmod_eq_emod_of_nonneg→u_,emod_lt_of_pos→Mk
open _root_.List renaming length→l!,length→ah,length_singleton→aJ,length_nil→em,getElem?_cons_zero→gJ,nil_append→gW,getElem?_cons_succ→yT
open _root_.Nat renaming beq→ay,mul_one→yQ
open _root_.Option renaming some→Z,none→U,map_some→bw
open _root_.Prod renaming a→ba,d→bI,b→bQ,c→b_,f→dD,h→dP
open _root_.Sum renaming inr→bV,inl→kS
noncomputable section
def Y3:Nat->Nat
 |0=>1
 |d+1=>1+8*Y3 d
abbrev U?:=(WN×η)×Y η
def SpC (x:WN) (rr:U?->M (Y η)) (d:Nat):Prop:=∀(ns:η) (out:Y η),l! ns+d=4->1<=l! ns->(∀z∈ns,0<=z/\z<(l! x.2.2.2:Int))->l! out+Y3 d<=100000->Ok (rr ((x,ns),out)) λy=>l! y<=l! out+Y3 d
def Y2 (d:Nat):1<=Y3 d:=by cases d<;>simp[Y3]
def TY (x:WN) (h:oG x) (ns:η) (d:Nat) (hd:l! ns+d=4) (h1:1<=l! ns) (hr:∀z∈ns,0<=z/\z<(l! x.2.2.2:Int)) (rr:U?->M (Y η)) (hrr:∀c,d=c+1->SpC x rr c) (out:Y η) (ho:l! out+Y3 d<=100000) (o1:Y η) (ho1:l! o1<=l! out+1):
 Ok (aI (decide (bC (l! ns)=4)) (Z o1) (chk (gr 0 (l! ns)) λ_=>lt (aK aO ns 0) λz3=>iter (λA:Int×Y η×WN=>aI (fV A.1 (bC (l! A.2.2.2.2.2))) (jn (jn (aw (ma (ns,A.1)) λy7=>aI (!y7) (chk (gr (aZ .i64 (bC (l! ns)-1)) (l! ns)) λ_=>lt (aK aO ns (aZ .i64 (bC (l! ns)-1))) λz8=>aw (kw (A.2.2,A.1,z8)) λy9=>Z (bV (y9,A.2))) (Z (bV (aa,A.2)))) λI:Bool×Y η×WN=>aI I.1 (chk (bl (ah ([]:η)+ah ns) 8) λ_=>chk (bl (ah (([]:η)++ns)+ah ([A.1])) 8) λ_=>aw (rr ((I.2.2,((([]:η)++ns)++([A.1]))),I.2.1)) λy10=>chk (ay (ah I.2.1) (ah I.2.1)&&J) λ_=>Z (bV (y10,I.2.2))) (Z (bV I.2))) λx5=>Z (kS (aZ .i64 (A.1+1),x5))) (Z (bV A.2.1))) (aZ .i64 (z3+1),o1,x))) λy=>l! y<=l! out+Y3 d:=by
 have hln:=h.ln;refine aL (λq=>aj ?_) λq=>?_
 .have:=Y2 d;omega
 have hd0:¬d=0:=λe=>q (by dsimp only[ak];omega)
 obtain⟨c,rfl⟩:∃c,d=c+1:=⟨d-1,by omega⟩
 have hrr:=hrr c rfl;have D:=hr _ (bE (T:=aO) (xs:=ns) (j:=0) (by omega) (by omega));refine cG (aQ ?_);generalize aK aO ns 0=z at D;have hw:aZ .i64 (bC (l! ns)-1)=(l! ns:Int)-1:=by dsimp only[ak];rw[jA]
 rw[hw];have hl:=hr _ (bE (T:=aO) (xs:=ns) (j:=(l! ns:Int)-1) (by omega) (by omega));obtain⟨F,rfl,hzn⟩:∃F:Nat,z=(F:Int)/\F<l! x.2.2.2:=⟨aS z,(Int.toNat_of_nonneg D.1).symm,(Int.toNat_lt D.1).2 D.2⟩
 have hcw:Y3 (c+1)=1+8*Y3 c:=rfl;have N:∀k:Nat,k<=8->k*Y3 c<=8*Y3 c:=λk hk=>co _ hk
 refine bn (l! x.2.2.2-(F+1)) (λk y=>∃o,y=(((F+1+k:Nat):Int),o,x)/\l! o<=l! out+1+k*Y3 c) ?_ ?_ ⟨o1,by rw[jA];congr 1,by rw[Nat.zero_mul];omega⟩
 .rintro k y hk ⟨o,rfl,ho2⟩;have hkk:=N (k+1) (by omega);rw[pe]at hkk;refine dx (h:=by dsimp only[ak];omega) (aX (λz=>∃o,z=(o,x)/\l! o<=l! out+1+(k+1)*Y3 c) ?_ ?_)
  .refine aX (λz=>z.2=(o,x)) ?_ ?_
   .refine aV (Md _ _ (by omega)) (cH (λ_=>cG (aQ (av (O0 x h (by dsimp only;omega) hl) λ_ _=>aj rfl))) λ_=>aj rfl)
   rintro⟨b,z⟩ e;dsimp only at e;subst e;refine aM (λ_=>?_) λ_=>aj ⟨o,rfl,by rw[pe];omega⟩
   refine bg (by simp only[em];omega) (by decide) (bg (by simp only[gW,aJ];omega) (by decide) ?_);dsimp only;rw[gW];refine av (hrr (ns++[((F+1+k:Nat):Int)]) o (by rw[aD,aJ];omega) (by rw[aD];omega) (λz D=>?_) (by omega)) λy hy=>bt (cU rfl (ie (aj ⟨y,rfl,by rw[pe];omega⟩)))
   rcases bF.1 D with D|D
   .exact hr z D
   .rw[aA]at D;omega
  .rintro z ⟨o,rfl,ho3⟩;refine aj ⟨o,?_,ho3⟩;dsimp only;rw[fd];rfl
 .rintro y ⟨o,rfl,ho2⟩;have hkk:=N (l! x.2.2.2-(F+1)) (by omega);exact di (h:=by dsimp only[ak];omega) (aj (by dsimp only;omega))
def gcyc (x:WN) (h:oG x) (rr:U?->M (Y η)) (d:Nat) (hrr:∀q,d=q+1->SpC x rr q):SpC x (sJ rr) d:=λns out hd h1 D F=>by
 have:=Y2 d;unfold sJ dP bi bS bY bz bc cW aF cM;refine aX (λz=>z.2=x/\l! z.1<=l! out+1) ?_ ?_
 .refine av (Re x h _) λb _=>aM (λ_=>?_) λ_=>aj ⟨rfl,by dsimp only;omega⟩
  exact bg (by simp only[em];omega) (by decide) (bg (by simp only[aJ];omega) (by decide) (aj ⟨rfl,by simp⟩))
 rintro⟨A,y⟩ ⟨e,c⟩;dsimp only at e c;subst e;exact TY y h ns d hd h1 D rr hrr out F A c
def aqy (x:WN) (h:oG x):∀(d n:Nat),d<n->SpC x (nH n) d
 |d,0,c=>bO c (dE _)
 |d,n+1,c=>by
  rw[show nH (n+1)=sJ (nH n) from rfl];exact gcyc x h _ d λq e=>aqy x h q n (by omega)
variable {i:Nat}
def aa6 (x:WN) (h:oG x) (hi:i<l! x.2.2.2):Ok (qG (x,[(i:Int)])) λy=>l! y<=600:=by
 unfold qG dP bi bS bY bz bc cW aF cM;have D:∀z∈[(i:Int)],0<=z/\z<(l! x.2.2.2:Int):=λz q=>by rw[aA]at q;omega
 refine aX (λz=>z.2=x/\l! z.1<=1) ?_ ?_
 .refine av (Re x h _) λb _=>aM (λ_=>?_) λ_=>aj ⟨rfl,by simp⟩
  exact bg (by simp) (by decide) (bg (by simp) (by decide) (aj ⟨rfl,by simp⟩))
 rintro⟨A,y⟩ ⟨e,c⟩;dsimp only at e c;subst e;refine (TY y h [(i:Int)] 3 rfl (bL _) D zN (λF e=>aqy y h F fI (by rw[po];omega)) [] (by decide) A (by simpa using c)).mono λz q=>?_
 have:Y3 3=585:=rfl;rw[this]at q;simp only[em]at q;omega
def ad3 (x:WN) (h:oG x) (g:wc) (l:Y wc) (c:l! l<=100000):Ok (up ((x,g),l)) λy=>l! y<=l! l+1:=by
 unfold up bY;refine av (Re x h g) λb _=>aM (λ_=>bg (by simp only[aJ];omega) (by decide) (aj (by simp))) λ_=>aj (by dsimp only;omega)
def ao9 (x:WN) (h:oG x):Ok (wD x) λy=>l! y<=100000:=by
 unfold wD ba bI bS gF bY bz kQ bc cW aF cM;have I:=h.ln;refine bn (l! x.2.2.2) (λi y=>∃R,y=((i:Int),x,R)/\l! R<=i*8) ?_ ?_ ⟨[],rfl,by simp⟩
 .rintro i y hi ⟨R,rfl,q⟩;refine dx (bn (l! x.2.2.2) (λj y=>∃R,y=((j:Int),x,R)/\l! R<=i*8+j) ?_ ?_ ⟨R,rfl,by omega⟩)
  .rintro j y D ⟨R,rfl,q⟩;refine dx (av (ad3 x h _ R (by omega)) λy A=>bt (cU rfl (ie (aj ⟨y,?_,by omega⟩))));dsimp only;rw[fd]
  .rintro y ⟨R,rfl,q⟩;refine di (aj ⟨R,?_,by omega⟩);dsimp only;rw[fd]
 rintro y ⟨R,rfl,q⟩;refine di (av (P:=λy=>l! y<=100000) ?_ λy A=>aj A);refine bn (l! x.2.2.2) (λi y=>∃R,y=((i:Int),x,R)/\l! R<=64+i*600) ?_ ?_ ⟨R,rfl,by omega⟩
 .rintro i y hi ⟨R,rfl,q⟩;refine dx (av (aa6 x h hi) λF hcy=>?_);refine bn (l! F) (λk y=>∃R,y=((k:Int),x,R,F)/\l! R<=64+i*600+k) ?_ ?_ ⟨R,rfl,by omega⟩
  .rintro k y N ⟨R,rfl,q⟩;refine dx (cG (cG (aQ (bg (by simp only[aJ];omega) (by decide) (aj ?_)))));dsimp only;rw[fd];exact⟨_,rfl,by rw[aD,aJ];omega⟩
  .rintro y ⟨R,rfl,q⟩;refine di (aj ⟨R,?_,by omega⟩);dsimp only;rw[fd]
 rintro y ⟨R,rfl,q⟩;refine di (av (P:=λy=>l! y<=100000) ?_ λy A=>aj A);refine bn (l! x.2.2.2) (λi y=>∃R,y=((i:Int),x,R)/\l! R<=5000+i*8) ?_ ?_ ⟨R,rfl,by omega⟩
 .rintro i y hi ⟨R,rfl,q⟩;refine dx (bn (l! x.2.2.2) (λj y=>∃R,y=((j:Int),x,R)/\l! R<=5000+i*8+j) ?_ ?_ ⟨R,rfl,by omega⟩)
  .rintro j y D ⟨R,rfl,q⟩;refine dx (av (ad3 x h _ R (by omega)) λy A=>bt (cU rfl (ie (aj ⟨y,?_,by omega⟩))));dsimp only;rw[fd]
  .rintro y ⟨R,rfl,q⟩;refine di (aj ⟨R,?_,by omega⟩);dsimp only;rw[fd]
 rintro y ⟨R,rfl,q⟩;refine di (av (P:=λy=>l! y<=100000) ?_ λy A=>aj A);refine bn (l! x.2.2.2) (λi y=>∃R,y=((i:Int),x,R)/\l! R<=6000+i*512) ?_ ?_ ⟨R,rfl,by omega⟩
 .rintro i y hi ⟨R,rfl,q⟩;refine dx ?_;refine bn (l! x.2.2.2-(i+1)) (λj y=>∃R,y=(((i+1+j:Nat):Int),x,R)/\l! R<=6000+i*512+j*64) ?_ ?_ ⟨R,by dsimp only;rw[fd],by omega⟩
  .rintro j y D ⟨R,rfl,q⟩;refine dx (h:=by dsimp only[ak];omega) ?_;refine aX (λz=>∃R,z=(x,R)/\l! R<=6000+i*512+(j+1)*64) ?_ ?_
   .refine aX (λz=>z.2=(x,R)) ?_ ?_
    .refine cG (aQ (cG (aQ (bW (λ_=>aj rfl) λ_=>?_))));refine cG (aQ (aV (AO _) (cH (λ_=>aj rfl) λ_=>?_)));exact cG (aQ (aV (AO _) (aj rfl)))
    rintro⟨b,z⟩ e;dsimp only at e;subst e;refine aM (λ_=>aj ⟨R,rfl,by omega⟩) λ_=>?_
    refine bn (l! x.2.2.2) (λc y=>∃R,y=((c:Int),x,R)/\l! R<=6000+i*512+j*64+c*8) ?_ ?_ ⟨R,rfl,by omega⟩
    .rintro c y hc ⟨R,rfl,q⟩;refine dx ?_;refine bn (l! x.2.2.2-c) (λf y=>∃R,y=(((c+f:Nat):Int),x,R)/\l! R<=6000+i*512+j*64+c*8+f) ?_ ?_ ⟨R,rfl,by omega⟩
     .rintro f y hf ⟨R,rfl,q⟩;refine dx (h:=by dsimp only[ak];omega) (av (ad3 x h _ R (by omega)) λy A=>bt (cU rfl (ie (aj ⟨y,?_,by omega⟩))));dsimp only;rw[fd];rfl
     .rintro y ⟨R,rfl,q⟩;refine di (h:=by dsimp only[ak];omega) (aj ⟨R,?_,by omega⟩);dsimp only;rw[fd]
    .rintro y ⟨R,rfl,q⟩;exact di (aj ⟨R,rfl,by omega⟩)
   .rintro z ⟨R,rfl,q⟩;refine aj ⟨R,?_,q⟩;dsimp only;rw[fd];rfl
  .rintro y ⟨R,rfl,q⟩;refine di (h:=by dsimp only[ak];omega) (aj ⟨R,?_,by omega⟩);dsimp only;rw[fd]
 .rintro y ⟨R,rfl,q⟩;exact di (aj (by dsimp only;omega))
def amm (x:WN) (h:oG x) (k:Int) (z:0<=k/\k<=65535):Ok (gT (x,k)) λ_=>True:=by
 unfold gT bi bY bz bc;refine av (ao9 x h) λl I=>aL (λ_=>aj trivial) λq=>l8 q ?_
 have c:aZ .i64 k=k:=jA;dsimp only[ak]at q ⊢;rw[c];have F:=u_ (a:=k) (b:=(l! l:Int)) z.1;have D:=Int.emod_nonneg k q;have A:=Mk k (b:=(l! l:Int)) (by omega);rw[F];exact aG D A (aQ (aj trivial))
def oG.pre {x:WN} (h:oG x) (m:Nat):oG (x.1,x.2.1,x.2.2.1,x.2.2.2.take m):=by
 let⟨N,I,F,D,A,z,q,a8,c⟩:=h;refine ⟨N,I,F,D,A,z,?_,by rw[bD];omega,λe he=>c e (dF he)⟩;have:=q.slice 0 m;exact this
def F6 (v:VT8) (k:Int) (hv:VOK v) (hk:0<=k/\k<=65535):fk (v,k)=Z J:=by
 refine cF ?_;unfold fk ba bQ bI dD bi bS jO bY bz bc cW aF cM;refine av (anr v hv) λx h=>?_
 have hn:=h.ln;have hawake:mW ()=Z J:=rfl;refine aY (λ_=>aV hawake (aj rfl)) λq=>?_
 dsimp only[ak]at q ⊢;rw[jA];obtain⟨m,hm⟩:∃m:Nat,l! x.2.2.2=m+1:=⟨l! x.2.2.2-1,by omega⟩
 have D:(l! x.2.2.2:Int)-1=(m:Int):=by omega
 rw[D];refine cG (aQ ?_);refine bn m (λi y=>y=((i:Int),x)/\∀j,j<i->¬(eN x.2.2.2 j).1=(eN x.2.2.2 m).1) ?_ ?_ ⟨rfl,λj c=>bO c (dE _)⟩
 .rintro i y hi ⟨rfl,hp⟩;refine dx (cG (aQ (aL (λ_=>aV hawake (aj rfl)) λp=>aj ⟨by dsimp only;rw[fd],λj c=>?_⟩)));rcases bZ j i with g|g
  .exact hp j g
  .rw[show j=i by omega];exact p
 rintro y ⟨rfl,hp⟩;refine di (av (P:=λr=>r=J) ?_ λr A=>aj A);refine bt (a? (a? ?_));dsimp only;rw[show aS ((m:Nat):Int)=m from rfl];have z:=h.pre m;obtain⟨u,hue⟩:∃u:WN,u=(x.1,x.2.1,x.2.2.1,x.2.2.2.take m):=⟨_,rfl⟩
 rw[<- hue]at z;show Ok (aw (gT ((x.1,x.2.1,x.2.2.1,x.2.2.2.take m),k)) _) _;have htk:l! (x.2.2.2.take m)=m:=by rw[bD];omega
 have hX:XX u x (eN x.2.2.2 m):=by
  have I:x.2.2.2=x.2.2.2.take m++[eN x.2.2.2 m]:=by
   rw[<- uh (T:=fP) (xs:=x.2.2.2) (i:=m) (by omega),mQ (by omega)]
  subst hue;refine ⟨rfl,rfl,I,z,h,λj c=>?_⟩;dsimp only at c ⊢;rw[htk]at c;rw[<- (iQ (λl=>AI.eN l j) I).trans (anc _ _ (by rw[htk];exact c))];exact hp j c
 rw[<- hue];refine av (amm u z k hk) λp _=>cH (λ_=>aV hawake (aj rfl)) λ_=>?_
 let⟨a,b,ha,hb,N,lb,hab⟩:=hX.find p.1;have hul:l! u.2.2.2=m:=by rw[hue];exact htk
 rw[hul]at N;refine aV ha (aV hb ?_);refine aX (λr=>r=J) ?_ λr A=>aj A
 have tl:∀{R:Type},(l! b.1:Int)<=l! x.2.2.2/\(l! a.1:Int)<=m:=λ{R}=>by omega
 refine cH (λ_=>?_) λq=>?_
 .refine eh (λ_=>eh (λ_=>aV hawake (aj rfl)) λq=>?_) λq=>?_
  .have q:(m:Int)<(l! a.1:Int):=q;omega
  .have q:(l! x.2.2.2:Int)<(l! b.1:Int):=q;omega
 .have F:=hab q;refine eU F (eh (λ_=>eh (λ_=>aV hawake (aj rfl)) λq=>?_) λq=>?_)
  .have q:(m:Int)<(l! a.1:Int):=q;omega
  .have q:(l! x.2.2.2:Int)<(l! b.1:Int):=q;omega
variable {a:Int}
def I2 (h:(Lit.int .u8 a).wf=J):0<=a/\a<=255:=⟨bJ (lD.1 h).1,bJ (lD.1 h).2⟩
def agz (h:(Lit.int .u16 a).wf=J):0<=a/\a<=65535:=⟨bJ (lD.1 h).1,bJ (lD.1 h).2⟩
def SearchEnough_lawT (x:VT8×Int) (w:X3 (.pr (.st (.pr (.sl (.int .u8)) (.pr (.sl (.int .u8)) (.pr (.sl (.int .u8)) (.pr (.int .u8) (.int .u8)))))) (.int .u16)) x):fk x=Z J:=by
 let⟨⟨a,p,b,n,m⟩,z⟩:=x;let⟨⟨⟨N,w0⟩,_,⟨I,F⟩,A,D⟩,q⟩:=w;exact F6 (a,p,b,n,m) z ⟨N,λz c=>I2 (w0 z c),I,λz c=>I2 (F z c),I2 A,I2 D⟩ (agz q)
def ac0 (n:Nat)(k l:Y Nat)(a:Y PV)(b:Y PB):Nat×agf:=(n,.j ⟨k,l,⟨a,b⟩,[]⟩)
def ac1 (n:Nat)(k l:Y Nat)(a:Y PV)(b:Y PB)(z:Y Adj):Nat×agf:=(n,.j ⟨k,l,⟨a,b⟩,z⟩)
abbrev ac3 (a:Y PV)(b:Y PB)(c:Y PV)(d:Y PB)(h:PT agf):FT:=⟨⟨a,b⟩,⟨c,d⟩,h⟩
def ac4 (a:Y PV)(b:Y PB)(c:Y PV)(d:Y PB)(h:PT agf)(m:(ac3 a b c d h).pre.ty.den->M (ac3 a b c d h).post.ty.den):cu:=cn (ac3 a b c d h) m
def Z!:PV:=.d aO
def Z?:PV:=.d .bool
def À:PB:=.F 2 J aO
def Á:PV:=.H 0 0
def Â:PB:=.C 48 [.d fP]
def Ã:PB:=.F 39 J (.sl aO)
def Ä:PB:=.F 3 J aO
def Å:PV:=.d (.sl aO)
def Æ:PV:=.d eT
def Ç:PB:=.C 67 [.d uX]
def È:PB:=.C 87 [.d gZ]
def É:PV:=.H 1 0
def Ê:PB:=.F 4 J .bool
def Ë:PB:=.C 44 [.d o_]
def Ì:PV:=.nil
def Í:PB:=.C 32 [.d pK]
def Ï:PV:=.d (.sl .str)
def Ñ:PV:=.d (.sl fg)
def Ò:PB:=.F 152 J c_
def Ó:PB:=.F 154 J fg
def Ô:PV:=.H 2 0
def Õ:PV:=.d fP
def Ö:PV:=.d o_
def Ø:PV:=.d pK
def Ù:PB:=.C 200 [.d rq]
def Ú:PB:=.C 96 [.d yh]
def Û:PV:=.H 3 0
def Ü:PV:=.d uX
def Ý:PV:=.d (.sl c_)
def Þ:PB:=.C 41 [.d oJ]
def ß:PB:=.F 9 J .str
def à:PV:=.G 3
def á:PV:=.G 1
def â:PV:=.d gZ
def ã:PV:=.G 0
def ä:PV:=.d .str
def å:PB:=.F 5 J (.int .u8)
def æ:PB:=.C 79 [.d It]
def ç:PV:=.G 2
def è:PV:=.G 4
def é:PB:=.C 37 [.d oH]
def ê:PV:=.d oJ
def ë:PV:=.d oH
def ì:PV:=.G 6
def î:PV:=.d oI
def ï:PV:=.H 4 0
def ð:PV:=.G 7
def ñ:PB:=.C 115 [.d OW]
def ò:PB:=.C 228 [.d eT]
def ó:PV:=.d (.sl HK)
def ô:PV:=.d (.st (.pr EU (.pr EU (.pr EU (.pr (.int .u8) (.int .u8))))))
def õ:PV:=.d rq
def ö:PV:=.d (.sl rj)
def ø:PV:=.d (.sl itK)
def ù:PV:=.d It
def ú:PV:=.G 5
def û:PV:=.d (.sl mO)
def ü:PV:=.d (.sl rk)
def þ:PB:=.F 3 aa aO
def ÿ:PV:=.d .ex
def Ā:PV:=.d wb
def ā:PB:=.C 50 [.d F8]
def Ă:PB:=.qg 9 .str
def ă:PV:=.G 11
def Ą:PV:=.d OW
def ć:PB:=.C 50 [.d aO,.d aO,.d aO,.d aO,.d aO,.d (.sl aO)]
def Ĉ:PB:=.qf
def ĉ:PV:=.d yh
def Ċ:PB:=.C 149 [.qy 54 [(1,0)]]
def ċ:PV:=.d F8
def Č:PV:=.d (.sl tj)
def č:PV:=.d (.sl fP)
def Ď:PV:=.qy 17 [(0,0),(1,0),(4,0),(2,0),(5,0),(3,0)]
def ď:PB:=.C 67 [.nil,.nil,.nil,.nil,.nil,.nil,.nil]
def Đ:PB:=.C 37 [.G 4,.d aO,.G 5,.G 6]
def đ:PB:=.C 3 [.d aO]
def Ē:PB:=.mp .str .bool
def ē:PB:=.C 37 [.qk 4 2 3,.d aO,.d oI,.d (.sl fg)]
def Ĕ:PV:=.H 5 0
def ĕ:PV:=.H 6 0
def Ė:PV:=.d .sm
def ė:PB:=.qg 241 .sm
def ę:PB:=.F 140 J C3
def Ě:PB:=.C 241 [.d .sm]
def ě:PB:=.C 239 [.d .ex]
def Ĝ:PB:=.C 44 [.d pK,.d aO,.d oJ,.d (.sl fP)]
def ĝ:PB:=.F 9 aa .str
def ğ:PV:=.d (.sl .sm)
def ġ:PV:=.qy 99 [(1,0)]
def Ģ:PV:=.G 8
def Ĥ:PV:=.d (.sl gZ)
def ĥ:PB:=.C 59 [.d Nx]
def ħ:PB:=.F 241 J .sm
def Ĩ:PB:=.C 228 [.d aO,.G 3,.G 4,.d aO]
def ĩ:PB:=.F 2 aa aO
def ī:PB:=.F 152 aa c_
def Ĭ:PB:=.F 83 J VG
def ĭ:PB:=.C 37 [.G 2,.d aO,.G 3,.G 4]
def Į:PB:=.C 37 [.G 3,.d aO,.nil,.nil]
def į:PB:=.C 37 [.G 3,.d aO,.G 4,.nil]
def İ:PB:=.C 154 [.d fg]
def ı:PV:=.qy 54 [(1,0)]
def ĳ:PV:=.G 10
def Ĵ:PB:=.F 163 J rk
def ĵ:PV:=.qk 1 1 4
def Ķ:PV:=.d Kd4
def ķ:PB:=.C 72 [.d xi]
def ĸ:PB:=.C 85 [.mp 6]
def Ĺ:PV:=.G 12
def ĺ:PV:=.d Mc
def Ļ:PV:=.d Nx
def ļ:PV:=.H 7 0
def Ŀ:PV:=.qk 4 1 4
def ŀ:PB:=.C 126 [.d Kd4]
def Ł:PB:=.F 200 J rq
def ł:PV:=.d (.sl C3)
def Ń:PB:=.C 104 [.d wb]
def ń:PV:=.qy 56 [(2,0)]
def Ņ:PV:=.d Kd6
def ņ:PV:=.qy 52 [(0,0)]
def ŉ:PB:=.F 50 J F8
def Ŋ:PV:=.d (.int .u8)
def Ō:PB:=.F 161 J itK
def Ŏ:PB:=.C 22 [.G 2]
def Ő:PB:=.C 84 [.G 8]
def ő:PV:=.d EU
def Œ:PB:=.F 157 J mO
def œ:PB:=.F 159 J rj
def Ŷ:PB:=.C 67 [Ü]
def Ž:PB:=.C 87 [â]
def ų:PB:=.C 48 [Õ]
def Ź:PB:=.C 200 [õ]
def ř:Y PV:=[û,ö,ø,Ï,Ï,ü]
def ś:Y PV:=[Á,É,Ô]
def Ŝ:Y PV:=[Ý,Z!,î,Ñ]
def ŵ:PB:=.C 44 [Ö]
def ŝ:Y PB:=[ŵ,.C 50 [ċ]]
def Ş:Y PB:=[Ò,Ê,Ó,À,À]
def ş:Y PV:=[Ì,Ì,Ì,Ì,Ì,Ì]
def Š:Y PV:=[Z!,Z!]
def š:Y PB:=[À,Ã]
def Ÿ:PB:=.C 96 [ĉ]
def Ű:Y PB:=[Ä,Ä,Ä]
def ť:Y PB:=[Ò,Ê,Ó,À,ĩ,þ]
def Ŵ:PB:=.C 32 [Ø]
def ŧ:Y PV:=[Z!,Z!,Z!,Z!,Z!]
def ŷ:PB:=.C 41 [ê]
def Ũ:Y PB:=[Ÿ,ŷ,Ŵ]
def ž:PB:=.C 79 [ù]
def Ū:Y PB:=[ŵ,ž]
def ū:Y PV:=[É,Z!,Z!,Z?,Z?,Z?,Z?]
def ſ:PB:=.C 3 [Z!]
def ů:Y PV:=[Z!,Æ,Æ]
def ű:Y PB:=[Ò,Ê,Ó]
def ź:PB:=.C 37 [ë]
def Ż:PB:=.C 115 [Ą]
def ż:PB:=.C 228 [Æ]
def FS:PB:=.C 241 [Ė]
def abg:PB:=.C 239 [ÿ]
def abs:PB:=.C 37 [è,Z!,ú,ì]
def abu:PB:=.C 59 [Ļ]
def abw:PB:=.C 149 [ı]
def abx:PB:=.C 228 [Z!,à,è,Z!]
def aby:PB:=.C 104 [Ā]
def abz:PB:=.C 126 [Ķ]
abbrev vo:Y PV:=(ŧ++[Ì,Ì])
def Î:PB:=.C 48 vo
abbrev vb:Y PV:=[Ì,Z!,Ì,Ì,Ì,Ì,Ì]
def Ð:PB:=.C 104 vb
def Ħ:PB:=.C 41 vb
def ũ:Y PB:=[Ž,Ð,Î,ų]
abbrev am1:Y PV:=(ū++[è])
abbrev asc:Y PV:=[Z!,Z!,ä,ä,Ì,Z!,Z!,ä,Ì,Ì,Ì]
abbrev La2:Y PB:=[.C 235 am1,Ÿ,Ĉ,.C 241 asc,Ă]
abbrev OV:Y PV:=(ś++[Û,ï,Ĕ,ĕ,ļ,Z?])
abbrev La4:Y PB:=[.C 231 (ř++Ï::ç::Š),Ĉ,Ł]
abbrev La5:Y PB:=[.C 231 (ř++Ï::á::Š),Ł]
abbrev La6:Y PV:=[Z!,ă,Ĺ,Z!]
def ý:PB:=.C 228 La6
def ţ:Y PB:=[Ž,Ð,Î,ų,ý,Ź,À,À]
abbrev La7:Y PB:=[.C 115 [Ì,Ì],.C 235 [Ĕ,Z!,Z!,Z?,Z?,Z?,Z?,ì],.C 115 [ó,ð],ĝ,.C 196 [ä,Z!,Ģ,.G 9],Ÿ,Ă,.F 196 J tj,ĝ,ħ]
abbrev La8:Y PB:=[.C 287 [ó,Č,Z!,á,ì,ð],ė,Ĉ,Ĉ,FS,Ż,ß,ß]
abbrev La9:Y PV:=(Ŝ++[Ģ,.G 9,.qk 10 4 4])
def Ň:PB:=.C 104 La9
def ŗ:Y PB:=(Ŷ::Ň::ţ)
abbrev akl:Y PB:=[.C 104 (Ŝ++[ì,ð,.qk 8 4 4]),Ž,Ð,Î,ų,ż,À,À,.C 228 [Æ,Æ,Æ,Æ]]
abbrev am2:Y PV:=(ū++[ç])
abbrev Nr:Y PV:=[ő,Z!]
def Ğ:PB:=.C 96 Nr
abbrev X0:Y PB:=[.C 235 am2,Ğ,Ă]
abbrev Nw:Y PV:=(ś++[Û,ï,Ĕ,ĕ,ļ,Z!])
abbrev aok:Y PV:=(Ŝ++[Ģ,.G 9,.qk 10 4 3])
def Ř:Y PB:=(Ŷ::.C 104 aok::ţ)
abbrev ap5:Y PB:=(Ř++.C 228 (Z!::ă::Ĺ::ů)::š)
abbrev ap4:Y PB:=(Ř++.C 228 [Æ,Z!,ă,Ĺ,Z!,Æ]::š)
abbrev ap3:Y PB:=(Ř++.C 228 [Æ,Æ,Z!,ă,Ĺ,Z!]::š)
abbrev am4:Y PV:=(Ŝ++[Ģ,.G 9,.qk 10 4 2])
def Ţ:Y PB:=(Ŷ::.C 104 am4::ţ)
abbrev ap2:Y PB:=(Ţ++.C 228 [Z!,ă,Ĺ,Z!,Æ]::š)
abbrev ap1:Y PB:=(Ţ++.C 228 [Æ,Z!,ă,Ĺ,Z!]::š)
abbrev abf:Y PB:=[.C 287 [ó,Č,Z!,á,è,ú],ė,Ĉ,Ĉ,ß,ß]
abbrev Nv:Y PV:=(ś++[Û,ï,Ĕ,ĕ,Z?])
abbrev gg:Y PV:=[Á,Z?]
abbrev abe:Y PB:=[.C 287 [ó,Č,Z!,á,ç,à],ė,ß,ß]
abbrev ap0:Y PB:=(Ŷ::.C 104 (Ŝ++[Ģ,.G 9,.qk 10 4 1])::Ž::Ð::Î::ų::ý::Ź::À::À::ý::š)
abbrev Nu:Y PV:=(ś++[Û,ï,Ĕ,ĕ])
abbrev aoz:Y PB:=(ŗ++.C 228 [Z!,ă,Ĺ,Z!,Æ,Æ,Æ]::š)
abbrev aoy:Y PB:=(ŗ++.C 228 (Æ::Z!::ă::Ĺ::ů)::š)
abbrev aox:Y PB:=(ŗ++.C 228 [Æ,Æ,Z!,ă,Ĺ,Z!,Æ]::š)
abbrev aow:Y PB:=(ŗ++.C 228 [Æ,Æ,Æ,Z!,ă,Ĺ,Z!]::š)
abbrev Vc:Y PB:=[Ŵ,ŷ,ų,Ħ]
abbrev Is:Y PV:=(ś++[Û,ï,Ĕ])
abbrev aov:Y PB:=[.C 104 (Ŝ++[ì,ð,.qk 8 4 3]),Ž,Ð,Î,ų,ż,À,À,.C 228 [Æ,Æ,Æ]]
abbrev Vb:Y PV:=(Ŝ++[ð,Ģ,.qk 9 4 4])
def Ġ:PB:=.C 104 Vb
def ŕ:Y PB:=(Ŷ::Ġ::ũ)
abbrev pJ:Y PV:=[Á,É,Z?]
abbrev zC:Y PV:=(ś++[Û,Z?])
abbrev akb:Y PV:=ş
def ŋ:PB:=.C 32 akb
abbrev aou:Y PB:=[Ż,ŋ,.C 32 [è,ú,ì,ð,Ì,Ì],.C 253 [.d HK],Œ,œ,Ō,ß]
abbrev F7:Y PV:=[ã,Z!,á,ç]
def Ę:PV:=.agg F7
def ģ:PV:=.agg [.agg F7,.G 3,.G 4,.qk 5 4 2]
def abv:PV:=.agg [Ę,à,è,.qk 5 4 2]
abbrev asq:Y PB:=[Ż,.C 67 (Ì::ş),.C 67 (ř++[ú]),.C 231 (ř++Ï::ì::Š),.C 72 [Z!,ì],.F 72 J xi,Ł]
abbrev aot:Y PB:=(Ũ++.F 48 J fP::.C 39 [ú,ì,ð,Ģ]::Ä::Ű)
abbrev sT:Y PV:=(ś++[Z!])
abbrev Mb:Y PV:=[Z!,Å,ĺ,Z!]
def Ć:PB:=.C 228 Mb
abbrev abd:Y PV:=(Ŝ++[ð,Ģ,.qk 9 4 3])
def Ī:PB:=.C 104 abd
def Ŗ:Y PB:=(Ŷ::Ī::ũ)
abbrev aos:Y PB:=(Ũ++.C 39 [è,ú,ì,ð]::Ä::Ű)
abbrev ti:Y PV:=(ś++[Z?])
abbrev tY:Y PV:=[Á,É,Z!]
abbrev Ma:Y PV:=[Z!,ĳ,ă,Z!]
def ą:PB:=.C 228 Ma
abbrev aka:Y PV:=[Z!,ã,á,Z!]
abbrev Zo:Y PV:=[Z!,Ì,Ì,Z!]
def ō:PB:=.C 228 Zo
abbrev aor:Y PB:=[À,Ã,Ź,.C 228 aka,ō]
abbrev aoq:Y PB:=[.C 287 [ó,Č,Z!,è,ú,ì],Ĉ,Ĉ,Ĉ,ė,ß,ß]
abbrev yg:Y PV:=[Ì,Z!,Ì,Ì]
def í:PB:=.C 37 yg
def Ŧ:Y PB:=[Ŵ,í]
def Ŭ:Y PB:=[Ŵ,.C 37 [.qk 4 2 3,Z!,î,Ñ],ſ,í]
abbrev aoo:Y PB:=(.C 37 [ç,Z!,à,è]::í::ű)
abbrev L_:Y PV:=[Á,Û,Z?]
abbrev asp:Y PB:=[.C 104 (Ŝ++[ì,ð,.qk 8 4 2]),Ž,Ð,Î,ų,ż,À,À,.C 228 [Æ,Æ]]
abbrev tg:Y PB:=[Ŵ]
abbrev aso:Y PB:=(Ũ++.F 48 J fP::.C 39 [ð,Ģ,.G 9,ĳ]::ų::ŷ::Ä::Ű)
abbrev asn:Y PB:=[ŋ,.C 32 [ç,à,è,ú,ì,ð],.F 157 aa mO,.F 159 aa rj,.F 161 aa itK,ĝ,ĝ,Ĵ]
abbrev sS:Y PV:=[Á,Z!]
abbrev ag9:Y PV:=[ç,à,è,ú]
def ľ:PB:=.C 39 ag9
def Ť:Y PB:=(Ÿ::ľ::Ä::Ű)
abbrev asm:Y PB:=(Ť++[Î,.C 48 (ŧ++[Å,Ì])])
abbrev akk:Y PV:=(Ŝ++[ð,Ģ,.qk 9 4 2])
def ň:PB:=.C 104 akk
def Ś:Y PB:=(Ŷ::ň::ũ)
abbrev Nt:Y PV:=[Ā,Õ,Z?]
abbrev asl:Y PB:=(Ť++[ŷ,Ŵ,Î,Î])
abbrev ask:Y PB:=[Ż,ŋ,.C 32 [à,è,ú,ì,Ì,Ì],Œ,œ,Ō,ß]
abbrev aon:Y PV:=(Ŝ++[à,è,ú])
abbrev Ns:Y PV:=[Ü,Ā,â]
abbrev aom:Y PB:=[Ò,Ê,Ó,.C 37 F7,Ä]
abbrev Zn:Y PV:=[à,Z!,è,ú]
def Ŕ:PB:=.C 37 Zn
abbrev asj:Y PB:=(Ŵ::Ŕ::í::ű)
abbrev zB:Y PV:=Š
abbrev asi:Y PB:=(ķ::abx::ō::š)
abbrev aol:Y PB:=[.F 48 J fP,Ŷ,aby,Ð]
abbrev ash:Y PB:=[.C 235 am1,Ÿ,Ĉ,ħ,Ă]
abbrev aoj:Y PV:=(ū++[à])
abbrev asf:Y PB:=[Î,ż,Ź,.C 48 (ŧ++[è,Ì]),Ä]
abbrev Ri:Y PB:=[FS]
abbrev akj:Y PV:=[.agg [Ę,à,è,.qk 5 4 4]]
abbrev Va:Y PB:=[Ż]
abbrev aki:Y PB:=[Ż,.C 196 [.d tj]]
abbrev aoi:Y PB:=[Ŵ,ķ,Ź]
abbrev akh:Y PB:=[Ż,abg]
abbrev aoh:Y PB:=[Ŵ,ß,.C 157 [.d mO]]
abbrev akg:Y PB:=ű
abbrev akf:Y PB:=[Ŵ,Ź]
abbrev ake:Y PV:=[Á,ï,Ĕ,Z?]
abbrev akd:Y PV:=(ś++[Û,ï,Z!])
abbrev XZ:Y PB:=[Ŵ,ź]
abbrev aog:Y PB:=[Ÿ,Ä,Ä]
abbrev akc:Y PB:=[Ŵ,ß]
abbrev ase:Y PB:=[ų,Ħ,.C 41 aon,À,À,Ä]
abbrev asd:Y PB:=(Ğ::ľ::Ä::Ű)
abbrev U':Y PV:=[Å,Z!]
abbrev zA:Y PV:=[Á,á,Z!]
abbrev abc:Y PB:=[.C 253 [.d HK]]
abbrev abb:Y PB:=[Ÿ]
abbrev aof:Y PV:=[.agg [Ę,à,è,.qk 5 4 3]]
abbrev Nq:Y PB:=[Ğ]
abbrev wa:Y PV:=[Å]
def Ĳ:PB:=.C 39 wa
abbrev aoe:Y PB:=š
abbrev age:Y PB:=[Ŷ,aby]
abbrev agd:Y PB:=[Ŵ,ķ]
abbrev Zp:Y PV:=(ś++[Û])
abbrev am3:Y PV:=(Ŝ++[ð,Ģ,.qk 9 4 1])
def ŭ:Y PB:=[Ŷ,.C 104 am3,Ž,Ð,Î,ų]
abbrev agc:Y PB:=[ź,Ä]
abbrev Vd:Y PV:=(Á::Š)
def tyT:PT Ty:=dK [(2,aO),(3,aO),(4,.bool),(5,(.int .u8)),(9,.str),(37,oH),(39,(.sl aO)),(44,(.st (.pr pK (.pr aO (.pr oJ (.sl fP)))))),(48,fP),(50,(.st (.pr aO (.pr aO (.pr aO (.pr aO (.pr aO (.sl aO)))))))),(72,xi),(83,(.st (.pr (.st (.pr oH (.pr (.sl (.st (.pr aO .bool))) (.pr (.sl (.st (.pr aO .bool))) (.pr (.sl aO) (.pr oI (.sl aO))))))) (.sl gZ)))),(87,gZ),(140,(.st (.pr aO .bool))),(152,c_),(154,fg),(157,mO),(159,rj),(161,itK),(163,rk),(196,tj),(200,rq),(228,eT),(239,.ex),(241,.sm),(253,HK)]
def b9 (t:TypeId):M Ty:=tyT.get t
def Nc:=ac4 [] [] [Ï] [] .leaf oV
def Lz:=ac4 [ä] [] [Z?] [] (dK [ac0 8 [0,3] [4] [Z!] []]) qO
def UE:=ac4 [Ŋ] [] [Z?] [] (dK [ac0 2 [] [2] [Z?] []]) pR
def Xy:=ac4 [Ŋ] [] [Z?] [] (dK [ac0 2 [] [2] [Z?] []]) xB
def Xx:=ac4 [Ŋ] [] [Z?] [] (dK [ac0 2 [] [2] [Z?] []]) uE
def UF:=ac4 [ä] [] [Z?] [] (dK [ac0 3 [0] [21] [Z?] [],ac0 14 [0] [3] [Z!] []]) hJ
def Xo:=ac4 [Z?] [] [Z!] [] .leaf fU
def Xq:=ac4 zB [] [Z!,Z?] [] .leaf uC
def UA:=ac4 (Z!::Š) [] [Z!,Z?] [] (dK [ac0 91 [] [6,7] [Z!,Z?] [],ac0 97 [] [6,7] [Z!,Z?] []]) vB
def Xr:=ac4 zB [] [Z!] [] (dK [ac0 12 [] [5] [Z!] []]) rM
def Nb:=ac4 [Z!] [] [Z!] [] (dK [ac0 4 [0] [3] [Z?] [],ac0 10 [0] [10] [Z?] [],ac0 16 [] [17] [Z?] []]) oU
def pw:=ac3 [ÿ] [] [Z?] [] (dK [ac0 2 [] [1,3] gg [abg],ac0 5 [] [1,50] gg [abg],ac0 16 [] [1,4] sS [abg]])
def Ih:cu:=cn pw kj
def HX (n:Nat):cu:=cn pw (iV n)
def Xw:=ac4 [ÿ] [] [Z?] [] (dK [ac0 2 [] [2] [Z?] []]) rN
def td:=ac3 [Ė] [] [Z?] [] (dK [ac0 3 [] [1,13] gg Ri,ac0 10 [] [1,3] gg Ri,ac0 13 [] [1,47] gg Ri,ac0 21 [] [1,66] gg Ri,ac0 29 [] [1,95] gg Ri,ac0 36 [] [1,4] gg Ri,ac0 39 [] [1,130] gg Ri,ac0 46 [] [1,5] gg Ri,ac0 49 [] [1,157] gg Ri,ac0 56 [] [2] [Z?] []])
def HW (n:Nat):cu:=cn td (hP n)
def ov:=ac3 [ğ] [] [Z?] [] (dK [ac0 6 [0] [3] [Z!] []])
def FP:cu:=cn ov rO
def Fl (n:Nat):cu:=cn ov (fL n)
def Ig:=ac4 [.d HK] [] [Z?] [] (dK [ac0 3 [] [1,31] gg abc,ac0 11 [] [1,50] gg abc,ac0 18 [] [2] [Z?] []]) pi
def UD:=ac4 [Ą] [] [Z?] [] (dK [ac0 6 [] [1,3] sS Va,ac0 27 [] [1,4] sS Va,ac0 42 [4] [1,5,6] tY aki,ac0 59 [4] [1,56] gg Va]) sC
def ajc:=ac4 [Ï,ä] [] [Z!] [] (dK [ac0 6 [0,1] [5] [Z!] []]) kB
def UC:=ac4 [ó,ä] [] [Z!] [] (dK [ac0 6 [0,1] [5] [Z!] []]) iD
def Na:=ac4 [Č,ä] [] [Z!] [] (dK [ac0 6 [0,1] [5] [Z!] []]) iz
def UB:=ac4 [Ą,Z!,ä] [] [Z!] [] (dK [ac0 3 [2] [3,27] gg Va,ac0 52 [7] [3,56] gg Va]) vC
def aak:=ac4 (Ą::Z!::ä::Š) [] [Z!] [] (dK [ac0 13 [] [25] [Z?] []]) ip
def xU:=ac3 [ÿ] [] zB [] (dK [ac0 8 [] [1,4,5,6] (Á::Z!::Š) [abg]])
def Xu:cu:=cn xU JJ
def Wc (n:Nat):cu:=cn xU (pF n)
def xT:=ac3 [Ą,Z!,ÿ] [] [Z!] [] (dK [ac0 7 [1] [3,5,7] tY akh,ac0 21 [1] [3,5,7,8] (Á::É::Š) akh,ac0 23 [1,7,8] [3,5,33] pJ akh])
def Xs:cu:=cn xT JI
def Wb (n:Nat):cu:=cn xT (pE n)
def aal:=ac4 [Ą,Z!,ÿ] [] [Z!] [] (dK [ac0 13 [1] [3,5,22] pJ akh]) pQ
def QQ:=ac4 [Z?] [] [Z!] [] .leaf dz
def ajb:=ac4 zB [] [Z!] [] .leaf jC
def FO:=ac4 [Á,Z!,Z!,ä] abe [Z?] abe (dK [ac0 6 [1,2,3] [0,9] sS abe,ac0 17 [1,2,3,9] [0,46] gg abe]) eH
def M_:=ac4 [Á,Ė] abe [Z!] abf (dK [(1,(.a [.qx 0 4,.qx 0 5])),ac0 28 [6,7,8,9,30] [0,3,5,67] ake La8,ac0 41 [] [4] [Z!] abf,ac0 44 [6,7,8,9,30] [0,3,5,91] ake La8,ac0 51 [] [4] [Z!] abf,ac0 63 [] [4] [Z!] abf,ac0 66 [6,7,8,9,30] [0,3,5,119] ake La8,ac0 89 [] [4] [Z!] abf,ac0 108 [] [0,3,187] [Á,ï,Z?] [.C 287 [ó,Č,Z!,á,ú,ì],ė,Ĉ,Ĉ,FS,ß,ß],ac0 131 [] [4] [Z!] abf,ac0 137 [6] [0,3,5,14] [Á,ï,Ĕ,Z!] La8,ac0 139 [6] [0,3,5,14] [Á,ï,Ĕ,Z!] La8,ac0 140 [6,14] [0,3,5,253] ake La8]) oT
def sd:=ac3 [Á,ğ] abe zB aoq (dK [(1,(.a [.qx 0 3,.qx 0 4,.qx 0 5])),ac0 6 [1] [0,6] sS aoq,ac0 19 [1,6] [0,7,8] [Á,ï,Z!] [.C 287 [ó,Č,Z!,ú,ì,ð],Ĉ,Ĉ,Ĉ,FS,ė,ß,ß],ac0 37 [1,6] [0,8,9] Vd aoq])
def M':cu:=cn sd BL
def Mz (n:Nat):cu:=cn sd (mw n)
def xV:=ac3 [ğ] [] [Z!] [] (dK [ac0 8 [0] [3,4] zB []])
def Xv:cu:=cn xV JK
def Wd (n:Nat):cu:=cn xV (pG n)
def Xt:=ac4 [ó] [] zB [] (dK [ac0 8 [0] [4,5,6,7,8] (Z!::Z!::Z!::Š) [],ac0 16 [0,8] [4,5,6,7] (Z!::Z!::Š) [],ac0 38 [0,8] [4,5,6,7,9] [Z!,Z!,Z!,Z!,Á] abc,ac0 39 [0,4,5,6,7,8,36] [9,39] gg abc,ac0 47 [0,4,5,6,7,8,36] [9,47] gg abc,ac0 61 [0,4,5,6,7,8] [9,69] gg abc]) uD
def QP:=ac4 [Ą] [] zB [] (dK [ac0 6 [] [1,4] sS Va,ac0 17 [4] [1,5,37] pJ aki,ac0 29 [] [1,6] sS Va,ac0 51 [6] [1,7,8] tY aki,ac0 62 [6,8] [1,7,90] pJ aki]) qN
def QR:=ac4 [Ą] [] zB [] (dK [ac0 44 [] [1,8,9] Vd Va,(67,(.a [.qc 10 3 241 .sm,.qc 10 4 9 .str,.qc 10 5 9 .str])),ac0 69 [] [1,10,11] tY [Ż,.C 287 [ó,Č,Z!,ç,à,è],ė,ß,ß]]) kA
def xS:=ac3 [ã,Z!,Z!,ğ] [Ĵ] [á,Z!] [Ĉ,Ĵ] (dK [(1,(.a [.qx 0 0])),ac0 6 [1,3] [0,2,10] (á::Š) [Ĉ,Ĵ],(25,(.a [.nil 8 163 rk]))])
def Xi:cu:=cn xS JH
def Wa (n:Nat):cu:=cn xS (pD n)
def Ux:=ac4 [ö,ä] [] [Z!] [] (dK [ac0 6 [0,1] [5] [Z!] []]) lG
def Uz:=ac4 [Ø,ä] [] [Z!] [] (dK [ac0 6 [1] [2,5] sS tg]) lH
def Xm:=ac4 [Ą] [] [Ø] [] (dK [ac1 18 [] [1,2,3,6] sT ask [.qc 3 0 157 mO,.qc 3 1 159 rj,.qc 3 2 161 itK,.qc 3 3 9 .str],ac0 31 [6] [1,2,3] ś ask,ac0 32 [6,31] [1,2,3,7,39] zC aou,ac0 42 [6] [1,2,3,7,8] (ś++[Û,Z!]) aou,ac0 53 [6,31] [1,2,3,7,65] zC aou,(69,(.a [.qc 3 5 163 rk])),ac1 71 [] [1,2,3,9] sT [Ż,ŋ,.C 32 [à,è,ú,ì,ð,Ģ],Œ,œ,Ō,ß,ß,Ĵ] [.qc 3 4 9 .str]]) uB
def Xj:=ac4 [Ø] [] [Ï,Z?] [] (dK [ac1 8 [] [1,4,5] zA akc [.nil 4 9 .str],ac0 15 [] [1,4,5] zA akc,ac0 37 [5] [1,4,6,51] [Á,á,Ô,Z?] aoh,ac0 48 [5] [1,4,6,7] [Á,á,Ô,Z!] aoh,ac0 59 [5,7] [1,4,6,93] [Á,á,Ô,Z?] aoh,ac0 72 [] [1,4,9] zA akc,ac0 87 [] [1,4,10] zA akc]) uy
def If:=ac4 [Ø] [] [Z?] [] (dK [ac0 3 [] [1,49] gg tg,ac0 24 [3] [1,5] sS tg,ac0 33 [3,5] [1,79] gg tg,ac0 45 [] [1,6] sS tg,ac0 56 [6] [1,109] gg tg,ac0 68 [] [1,8] sS tg,ac0 76 [8] [1] [Á] tg,ac0 80 [8] [1,9,132] pJ [Ŵ,.C 163 [.d rk]],ac0 87 [8] [1,9,146] pJ [Ŵ,.C 163 [.d rk]],ac0 90 [8] [1,165] gg tg]) iR
def Ly:=ac4 [õ] [] wa [] (dK [ac0 6 [4] [1,5] gg [Ź],ac0 24 [4] [1,13] gg [Ź],ac0 46 [4] [1,37] gg [Ź]]) jT
def Uy:=ac4 [Z!] [] [Z?] [] (dK [ac0 2 [] [2] [Z?] []]) pP
def Xk:=ac4 [.d (.sl rq),Z!] [] [Z?] [] (dK [ac0 6 [0] [1,5] zB [],ac0 14 [0,5] [1] [Z!] [],ac0 16 [0,1,5] [19] [Z?] []]) uz
def aja:=ac4 zB [] [Z?] [] (dK [ac0 2 [] [4] [Z?] []]) jB
def Xl:=ac4 (Ø::Š) [] [Z?] [] (dK [ac0 2 [] [6] [Z?] []]) rL
def QM:=ac4 [Ø,õ] [] [Z?] [] (dK [ac0 9 [] [4] [Z?] [],ac0 15 [] [4] [Z?] [],ac0 30 [6] [2,3,59] pJ akf,ac0 37 [] [4] [Z?] [],ac0 40 [6] [2,3,78] pJ akf,ac0 55 [] [4] [Z?] [],ac0 58 [6] [2,3,98] pJ akf,ac0 72 [6] [2,3,108] pJ akf,ac0 97 [] [4] [Z?] [],ac0 103 [] [4] [Z?] []]) qL
def FN:=ac4 [Ø,Z!,.d xi] [] [Z?] [] (dK [ac0 5 [1,7] [3,5,26] pJ agd,ac0 16 [1,7] [3,5,8] tY agd,ac0 28 [1,7,8] [3,5,9,67] ti aoi,ac0 36 [1,7,8] [3,5,9,100] ti aoi,ac0 44 [1,7,8] [3,5,9,122] ti aoi,ac0 56 [1,7,8,10] [3,5,11] tY agd]) lh
def Xn:=ac4 [Ü] [] [Z?] [] (dK [ac0 3 [] [1,17] gg [Ŷ],ac0 14 [] [1,3] sS [Ŷ]]) pB
def QN:=ac4 [Á,õ] La5 [] La4 .leaf cQ
def q_:=ac3 [Á,ÿ,Z!] La5 [] La4 (dK [ac0 2 [] [] [] La4])
def Lw:cu:=cn q_ iC
def JU (n:Nat):cu:=cn q_ (iH n)
def Ie:=ac4 [Á,Ė] La5 [] La4 .leaf mb
def M9:=ac4 [Á,ä] La5 [Z!] La5 (dK [ac0 6 [1] [0,5] sS La5]) jL
def re:=ac3 [Á,ğ] La5 [] La4 (dK [(1,(.a [.qx 0 7])),ac0 3 [1] [0,4] sS La4])
def Lx:cu:=cn re uA
def JV (n:Nat):cu:=cn re (dW n)
def v7:=ac3 [Á,Ė] La5 [] La4 (dK [(1,(.a [.qx 0 7])),ac0 10 [] [] [] La4,ac0 15 [4,25] [0,3,31] [Á,Ô,Z?] [.C 231 (ř++Ï::à::Š),Ĉ,FS,Ł]])
def My (n:Nat):cu:=cn v7 (eP n)
def rf:=ac3 [Á,Ė] La5 [] La4 .leaf
def DE (n:Nat):cu:=cn rf (dv n)
def tb:=ac3 (Á::Ė::Z!::Š) La5 [] La4 .leaf
def HV (n:Nat):cu:=cn tb (dT n)
def QO:=ac4 [Ą] [] (Ü::Š) [] (dK [ac1 20 [] [1,2,7,8,9] (ś++Š) [Ż,.C 67 (Ì::ş),.C 67 (ř++[à]),.F 72 J xi] [.qc 7 6 72 xi],(32,(.a [.qc 10 7 200 rq])),ac0 45 [8,9] [1,2,7,10,11,12] akd asq,ac0 59 [8,9,12,13] [1,2,7,10,11,14] akd asq]) qM
def af3:=ac4 U' [] [Z?] [] (dK [ac0 6 [0,1] [5] [Z!] []]) ma
def af2:=ac4 U' [] wa [] (dK [ac0 6 [0,1] [5] [Z!] [],ac0 8 [0,1,5] [18] [Z?] [],ac0 16 [0,1,5] [32] [Z?] []]) wI
def Xh:=ac4 [Å,Å] [] wa [] (dK [ac0 8 [0,1] [5,6] U' [],ac0 23 [1] [5,7] U' []]) ux
def M8:=ac4 [Z!] [] [Z!] [] (dK [ac0 3 [0] [8] [Z?] []]) mm
def aaj:=ac4 [Æ] [] [.agg aka] aoe (dK [ac1 8 [] [1,2,3,4] sT (ż::ō::abx::š) [.qc 3 2 39 (.sl aO)]]) cD
def aai:=ac4 [õ,.agg aka] aoe [.agg aka,Z?] aoe (dK [ac0 8 [6] [2,3,4,7] [Ô,Û,ï,Z!] aor,ac0 17 [6,7] [2,3,4,33] [Ô,Û,ï,Z?] aor,ac0 32 [] [2,3,4,8,9,10] [Ô,Û,ï,Z!,Z?,Å] aor]) wH
def Uw:=ac4 [.d xi,Æ] [] [Æ,Z?] [] (dK [ac0 3 [] [2,3,4,23] ti [ķ,ż,ō],ac0 16 [] [2,3,4,6] sT asi,ac0 26 [6] [2,3,4,44] ti asi]) nB
def Xf:=ac4 [Ø] [] [ë] [] (dK [ac1 8 [] [1,2,3,4] sT (Ŧ++[.C 37 [à,Z!,Ì,Ì],Ò]) [.qc 3 0 152 c_],ac1 23 [] [1,2,3,5] sT (Ŧ++[.C 37 [à,Z!,è,Ì],Ò,Ê]) [.qc 3 2 4 .bool],ac1 38 [] [1,2,3,6] sT (Ŧ++Ŕ::ű) [.qc 3 3 154 fg],ac0 49 [6] [1,2,3,7] Zp (Ŧ++abs::İ::ű)]) pz
def aag:=ac4 [Ø,ë] [] [Z?] [] (dK [ac0 6 [] [2,3,5] tY XZ,ac0 15 [5] [2,3,31] pJ XZ,ac0 23 [] [4] [Z?] []]) rK
def aj9:=ac4 zB [] [Z?] [] (dK [ac0 2 [] [4] [Z?] []]) qK
def Xe:=ac4 (Ø::Š) [] [Z?] [] (dK [ac0 6 [2,7] [3,8] gg tg,ac0 36 [2,7] [3,18] gg tg,ac0 46 [2,7] [3,26] gg tg,ac0 53 [] [6] [Z?] [],ac0 56 [2,7] [3,43] gg tg,ac0 71 [] [6] [Z?] [],ac0 74 [2,7] [3,61] gg tg,ac0 92 [2,7] [3,71] gg tg,ac0 102 [2] [3,79] gg tg]) uw
def QL:=ac4 (Ø::ë::Z!::Š) [] [Z?] [] (dK [ac0 3 [2,3,4] [5,6,30] pJ XZ,ac0 25 [] [10] [Z?] [],ac0 50 [] [10] [Z?] [],ac0 56 [] [10] [Z?] [],ac0 59 [2,4,70] [5,6,11,119] ti [Ŵ,ź,İ],ac0 99 [2,4,70] [5,6,160] pJ XZ,ac0 116 [] [10] [Z?] [],ac0 122 [] [10] [Z?] []]) kz
def QK:=ac4 [ë,Z!] [] wa [] (dK [ac1 8 [1] [2,5,6] zA agc [.nil 5 3 aO],ac0 16 [1,6] [2,5] [Á,á] agc,ac0 17 [1,6] [2,5,30] [Á,á,Z?] agc]) nW
def QJ:=ac4 U' [] wa [] (dK [ac1 8 [0,1] [5,6] [ã,Z!] [Ä] [.nil 5 3 aO],ac0 16 [0,1,6] [5] [ã] [Ä]]) qJ
def aah:=ac4 [ë] [] [Ę] akg (dK [ac1 8 [] [1,2,3,4] sT (ź::í::Ŕ::ű) [.qc 3 0 152 c_]]) io
def my:=ac3 [Ę,Z!] akg wa akg (dK [ac1 8 [1] [2,5,6] [Û,è,Z!] aom [.nil 5 3 aO],ac0 16 [1,6] [2,5] [Û,è] aom,ac0 17 [1,6] [2,5,30] [Û,è,Z?] aom])
def M7:cu:=cn my ml
def Lv:cu:=⟨my.pre,⟨my.post.vs,[]⟩,lf⟩
def Xg:=ac4 (Ø::ë::Z!::Z!::Š) [] [ë,Z!,Z?] [] (dK [ac0 17 [] [7,12,15] tY aoo,ac0 26 [2,4,5,15,30] [6,7,12,45] ti asj,ac0 34 [2,4,5,15,30] [6,7,12,54] ti asj,ac0 90 [] [7,12,17] tY aoo,ac0 109 [18] [7,12,19] tY aoo]) pA
def Xd:=ac4 [Ü] [] [Ā] [] (dK [ac1 16 [] [1,2,3,4] sT [Ŷ,Ð,.C 104 (Ŝ++[à,Ì,Ì]),À] [.qc 3 4 2 aO],ac1 31 [] [1,2,3,5] sT [Ŷ,Ð,.C 104 (Ŝ++[à,è,Ì]),À,À] [.qc 3 5 2 aO],ac1 46 [] [1,2,3,6] sT [Ŷ,Ð,.C 104 aon,À,À,.F 228 J eT] [.qc 3 6 228 eT]]) uv
def aae:=ac4 [Ü,Ā] [] [Z?] [] (dK [ac0 3 [] [2,3,46] pJ age,ac0 14 [] [2,3,5] tY age,ac0 25 [5] [2,3,97] pJ age]) wG
def aac:=ac4 [Z!] [] [Z!] [] (dK [ac0 5 [0] [3,10] [ã,Z?] [þ]]) wE
def Ua:=ac4 [õ,Æ] [] [Z!] [] (dK [ac0 6 [6] [2,3,7] pJ [Ź,ż],ac0 28 [] [2,40] gg [Ź]]) sA
def QI:=ac4 [Ü,Ā,Z!] [] [Õ,Z?] [] (dK [ac0 3 [2] [3,4,6,25] ti [Ŷ,aby,Î],ac1 54 [] [6,8,9,10] Zp asf [.qc 10 5 3 aO],ac0 59 [] [6,8,9,10,98] zC [Î,ż,Ź,Î],ac1 68 [] [6,10] [Á,É] [Î,.C 48 (ŧ++[ç,à]),Ä,Ä] [.qc 10 6 3 aO],ac0 69 [] [6,8,9,10,123] zC asf]) nV
def Xb:=ac4 [Ø] [] [ê] [] (dK [ac1 8 [] [1,2,3,4] sT [Ŵ,Ħ,.C 41 aon,À,ĩ,þ] [.qc 3 4 2 aO]]) m8
def aab:=ac4 [Ø,ê] [] [Z?] [] (dK [ac0 2 [] [4] [Z?] []]) rJ
def aj8:=ac4 zB [] [Z?] [] (dK [ac0 2 [] [4] [Z?] []]) Dy
def QH:=ac4 U' [] [Z?] [] (dK [ac0 6 [0,1] [5] [Z!] [],ac0 15 [0,1,5] [40] [Z?] []]) qI
def W_:=ac4 [ê,Õ] [] [Z?] [] (dK [ac0 21 [] [4] [Z?] [],ac0 24 [7] [2,3,40] pJ [ŷ,ų],ac0 47 [] [4] [Z?] []]) xA
def aaa:=ac4 [Ø,ê,Õ] [] [ê,Z?] [] (dK [ac0 3 [] [3,4,5,6,46] zC Vc,ac0 10 [] [3,4,5,6] Zp Vc,ac0 11 [] [3,4,5,6,55] zC Vc,ac0 21 [] [3,4,5,6,78] zC Vc,ac0 28 [] [3,4,5,6,8] zC Vc,ac0 31 [] [3,4,5,6,110] zC Vc,ac0 39 [] [3,4,5,6,125] zC Vc,ac0 47 [] [3,4,5,6,154] zC Vc,ac0 58 [] [3,4,5,6,9,10] akd [Ŵ,ŷ,ų,Ħ,.C 41 [Ì,Z!,Ì,Ì,ú,ì,ð],À,À,Ä],ac0 66 [] [5,6,9] ś ase,ac0 72 [] [5,6,9] ś ase]) k_
def Xa:=ac4 [č,Z!,Z!,Å] [] [Z?] [] (dK [ac0 6 [0,1,2,3] [9] [Z!] [],ac0 23 [0,1,2,3,9] [10,11,12] [Z!,Z?,Z!] [],ac0 31 [0,1,2,3,9,12] [10,11] [Z!,Z?] [],ac0 38 [0,1,2,3,9,10,12] [11] [Z?] []]) rI
def Xc:=ac4 [Ļ] [] zB [] (dK [ac0 24 [] [1,4,5] tY [abu,ŷ],ac0 38 [5] [1,4,7,63] ti [abu,ŷ,ŷ]]) uu
def Uu:=ac4 [Ā] [] [.agg [Ę,à,è,.qk 5 4 1]] (Ş++.C 228 [Z!,ì,ð,Z!]::š) (dK [(8,(.u 2))]) nA
def Uk:=ac4 Ns [] Nt [] (dK [(27,(.s 5 0 0 1)),ac0 37 [] [3,4,5,6,7,9,14,15,16] Nw ap0,ac0 38 [16,77] [3,4,5,6,7,9,14,15,78] OV ap0,ac0 83 [16] [3,4,5,6,7,9,14] Nu (ŭ++ą::À::À::ą::š),ac0 84 [16] [3,4,5,6,7,9,14,15,154] OV ap0,ac0 95 [] [4,5,6,7,9,14] Is [.C 104 (Ŝ++[ì,ð,.qk 8 4 1]),Ž,Ð,Î,ų,ż,À,À,ż],ac0 96 [] [3,4,5,6,7,9,14,183] Nv (ŭ++[Ć,À,À,Ć]),(102,(.s 5 0 0 1)),(104,(.a [.pk 4 6 eT]))]) gd
def Ut:=ac4 [Ā] [] [abv] (Ş++.C 228 [Z!,ì,ð,Z!,Æ]::š) (dK [(8,(.u 3))]) nz
def Uj:=ac4 Ns [] Nt [] (dK [(27,(.s 5 0 0 1)),ac0 37 [] [3,4,5,6,7,9,14,15,16] Nw ap2,ac0 38 [16,77] [3,4,5,6,7,9,14,15,78] OV ap2,ac0 83 [16] [3,4,5,6,7,9,14] Nu (Ś++ą::À::À::.C 228 [Z!,ĳ,ă,Z!,Æ]::š),ac0 84 [16] [3,4,5,6,7,9,14,15,154] OV ap2,ac0 95 [] [4,5,6,7,9,14] Is asp,ac0 96 [] [3,4,5,6,7,9,14,183] Nv (Ś++[Ć,À,À,.C 228 [Z!,Å,ĺ,Z!,Æ]]),(102,(.s 5 0 0 1)),(104,(.a [.pk 4 6 eT]))]) gA
def Us:=ac4 [Ā] [] [abv] (Ş++.C 228 [Æ,Z!,ì,ð,Z!]::š) (dK [(8,(.u 3))]) ny
def Ui:=ac4 Ns [] Nt [] (dK [(27,(.s 5 0 1 1)),ac0 37 [] [3,4,5,6,7,9,14,15,16] Nw ap1,ac0 38 [16,77] [3,4,5,6,7,9,14,15,78] OV ap1,ac0 83 [16] [3,4,5,6,7,9,14] Nu (Ś++ą::À::À::.C 228 [Æ,Z!,ĳ,ă,Z!]::š),ac0 84 [16] [3,4,5,6,7,9,14,15,154] OV ap1,ac0 95 [] [4,5,6,7,9,14] Is asp,ac0 96 [] [3,4,5,6,7,9,14,183] Nv (Ś++[Ć,À,À,.C 228 [Æ,Z!,Å,ĺ,Z!]]),(102,(.s 5 0 1 1)),(104,(.a [.pk 4 6 eT]))]) f_
def Ur:=ac4 [Ā] [] aof (Ş++.C 228 (Z!::ì::ð::ů)::š) (dK [(8,(.u 4))]) nv
def Uh:=ac4 Ns [] Nt [] (dK [(27,(.s 5 0 0 1)),ac0 37 [] [3,4,5,6,7,9,14,15,16] Nw ap5,ac0 38 [16,77] [3,4,5,6,7,9,14,15,78] OV ap5,ac0 83 [16] [3,4,5,6,7,9,14] Nu (Ŗ++ą::À::À::.C 228 (Z!::ĳ::ă::ů)::š),ac0 84 [16] [3,4,5,6,7,9,14,15,154] OV ap5,ac0 95 [] [4,5,6,7,9,14] Is aov,ac0 96 [] [3,4,5,6,7,9,14,183] Nv (Ŗ++[Ć,À,À,.C 228 (Z!::Å::ĺ::ů)]),(102,(.s 5 0 0 1)),(104,(.a [.pk 4 6 eT]))]) jK
def Uq:=ac4 [Ā] [] aof (Ş++.C 228 [Æ,Z!,ì,ð,Z!,Æ]::š) (dK [(8,(.u 4))]) nu
def Ug:=ac4 Ns [] Nt [] (dK [(27,(.s 5 0 1 1)),ac0 37 [] [3,4,5,6,7,9,14,15,16] Nw ap4,ac0 38 [16,77] [3,4,5,6,7,9,14,15,78] OV ap4,ac0 83 [16] [3,4,5,6,7,9,14] Nu (Ŗ++ą::À::À::.C 228 [Æ,Z!,ĳ,ă,Z!,Æ]::š),ac0 84 [16] [3,4,5,6,7,9,14,15,154] OV ap4,ac0 95 [] [4,5,6,7,9,14] Is aov,ac0 96 [] [3,4,5,6,7,9,14,183] Nv (Ŗ++[Ć,À,À,.C 228 [Æ,Z!,Å,ĺ,Z!,Æ]]),(102,(.s 5 0 1 1)),(104,(.a [.pk 4 6 eT]))]) iB
def Up:=ac4 [Ā] [] aof (Ş++.C 228 [Æ,Æ,Z!,ì,ð,Z!]::š) (dK [(8,(.u 4))]) nk
def Uf:=ac4 Ns [] Nt [] (dK [(27,(.s 5 0 2 1)),ac0 37 [] [3,4,5,6,7,9,14,15,16] Nw ap3,ac0 38 [16,77] [3,4,5,6,7,9,14,15,78] OV ap3,ac0 83 [16] [3,4,5,6,7,9,14] Nu (Ŗ++ą::À::À::.C 228 [Æ,Æ,Z!,ĳ,ă,Z!]::š),ac0 84 [16] [3,4,5,6,7,9,14,15,154] OV ap3,ac0 95 [] [4,5,6,7,9,14] Is aov,ac0 96 [] [3,4,5,6,7,9,14,183] Nv (Ŗ++[Ć,À,À,.C 228 [Æ,Æ,Z!,Å,ĺ,Z!]]),(102,(.s 5 0 2 1)),(104,(.a [.pk 4 6 eT]))]) g_
def Uo:=ac4 [Ā] [] akj (Ş++.C 228 [Z!,ì,ð,Z!,Æ,Æ,Æ]::š) (dK [(8,(.u 5))]) nj
def dO:=ac3 Ns [] Nt [] (dK [(27,(.s 5 0 0 1)),ac0 37 [] [3,4,5,6,7,9,14,15,16] Nw aoz,ac0 38 [16,77] [3,4,5,6,7,9,14,15,78] OV aoz,ac0 83 [16] [3,4,5,6,7,9,14] Nu (ŕ++ą::À::À::.C 228 [Z!,ĳ,ă,Z!,Æ,Æ,Æ]::š),ac0 84 [16] [3,4,5,6,7,9,14,15,154] OV aoz,ac0 95 [] [4,5,6,7,9,14] Is akl,ac0 96 [] [3,4,5,6,7,9,14,183] Nv (ŕ++[Ć,À,À,.C 228 [Z!,Å,ĺ,Z!,Æ,Æ,Æ]]),(102,(.s 5 0 0 1)),(104,(.a [.pk 4 6 eT]))])
def Ue:cu:=cn dO na
def Un:=ac4 [Ā] [] akj (Ş++.C 228 (Æ::Z!::ì::ð::ů)::š) (dK [(8,(.u 5))]) nh
def Ud:=ac4 Ns [] Nt [] (dK [(27,(.s 5 0 1 1)),ac0 37 [] [3,4,5,6,7,9,14,15,16] Nw aoy,ac0 38 [16,77] [3,4,5,6,7,9,14,15,78] OV aoy,ac0 83 [16] [3,4,5,6,7,9,14] Nu (ŕ++ą::À::À::.C 228 (Æ::Z!::ĳ::ă::ů)::š),ac0 84 [16] [3,4,5,6,7,9,14,15,154] OV aoy,ac0 95 [] [4,5,6,7,9,14] Is akl,ac0 96 [] [3,4,5,6,7,9,14,183] Nv (ŕ++[Ć,À,À,.C 228 (Æ::Z!::Å::ĺ::ů)]),(102,(.s 5 0 1 1)),(104,(.a [.pk 4 6 eT]))]) m_
def Um:=ac4 [Ā] [] akj (Ş++.C 228 [Æ,Æ,Z!,ì,ð,Z!,Æ]::š) (dK [(8,(.u 5))]) ng
def Uc:=ac4 Ns [] Nt [] (dK [(27,(.s 5 0 2 1)),ac0 37 [] [3,4,5,6,7,9,14,15,16] Nw aox,ac0 38 [16,77] [3,4,5,6,7,9,14,15,78] OV aox,ac0 83 [16] [3,4,5,6,7,9,14] Nu (ŕ++ą::À::À::.C 228 [Æ,Æ,Z!,ĳ,ă,Z!,Æ]::š),ac0 84 [16] [3,4,5,6,7,9,14,15,154] OV aox,ac0 95 [] [4,5,6,7,9,14] Is akl,ac0 96 [] [3,4,5,6,7,9,14,183] Nv (ŕ++[Ć,À,À,.C 228 [Æ,Æ,Z!,Å,ĺ,Z!,Æ]]),(102,(.s 5 0 2 1)),(104,(.a [.pk 4 6 eT]))]) lF
def Ul:=ac4 [Ā] [] akj (Ş++.C 228 [Æ,Æ,Æ,Z!,ì,ð,Z!]::š) (dK [(8,(.u 5))]) nc
def Ub:=ac4 Ns [] Nt [] (dK [(27,(.s 5 0 3 1)),ac0 37 [] [3,4,5,6,7,9,14,15,16] Nw aow,ac0 38 [16,77] [3,4,5,6,7,9,14,15,78] OV aow,ac0 83 [16] [3,4,5,6,7,9,14] Nu (ŕ++ą::À::À::.C 228 [Æ,Æ,Æ,Z!,ĳ,ă,Z!]::š),ac0 84 [16] [3,4,5,6,7,9,14,15,154] OV aow,ac0 95 [] [4,5,6,7,9,14] Is akl,ac0 96 [] [3,4,5,6,7,9,14,183] Nv (ŕ++[Ć,À,À,.C 228 [Æ,Æ,Æ,Z!,Å,ĺ,Z!]]),(102,(.s 5 0 3 1)),(104,(.a [.pk 4 6 eT]))]) kx
def aaf:cu:=cn dO Bc
def aad:=ac4 [Ü,Ā,Ì,Ĥ] [] [č,Ā] [] (dK [(1,(.a [.nil 2 48 fP])),ac0 6 [3] [2,4,5,9,10] [ã,É,Ô,Û,Z!] aol,ac0 8 [3,10] [2,4,5,9,22] [ã,É,Ô,Û,Z?] aol,ac0 14 [3,10] [2,4,5,9] [ã,É,Ô,Û] aol]) wF
def af1:=ac4 [Ü,Ĥ] [] [Ļ,Ā] [] .leaf zP
def Im:=ac4 sS Nq [Z!] Nq (dK [ac0 3 [1] [0,18] gg abb]) bk
def aan:=ac4 [Z!] [] [ÿ] [] .leaf rQ
def XC:=ac4 [ä] [] [ÿ] [] .leaf pC
def QY:=ac4 [Z!,ÿ,ÿ] [] [ÿ] [] .leaf nZ
def QZ:=ac4 [ä,ÿ] [] [Ė] [] .leaf jE
def UK:=ac4 [] [] [ó] [] .leaf sF
def Nj:=ac4 [ő] [] [Ĥ] [] (dK [ac1 8 [0] [3,4] [ã,Z!] [.F 87 J gZ] [.nil 3 87 gZ]]) oX
def ox:=ac3 sS X0 [ÿ] X0 (dK [ac0 8 [1,6] [0,4,5,14] [Á,Û,è,Z?] [.C 235 am2,Ÿ,Ă,.C 239 [Z!,Z!,ä,Ì],ĝ]])
def FU:cu:=cn ox fc
def Fn (n:Nat):cu:=cn ox (iu n)
def EH:=ac4 [Á,ä] X0 [Z?] X0 .leaf eM
def mH:=ac3 Vd X0 [è] [.C 235 aoj,Ğ,Ĉ,Ă,ħ] (dK [(1,(.a [.qx 0 7])),ac1 8 [1,2] [0,7,8] [Á,à,Z!] ash [.nil 7 241 .sm],ac0 10 [1,2,8] [0,7,22] [Á,à,Z?] ash,(21,(.a [.nil 6 241 .sm]))])
def EG:cu:=cn mH qQ
def DF (n:Nat):cu:=cn mH (dU n)
def rU:=ac3 sS X0 [Ė] [.C 235 aoj,Ğ,Ĉ,Ă] (dK [(1,(.a [.qx 0 7])),ac0 6 [1,5] [0,4,6] L_ La2,ac0 28 [1,5,6] [0,4,74] L_ La2,ac1 33 [] [4,7] [Û,ï] [.C 235 (ū++[ú]),Ÿ,Ĉ,.C 241 asc,.C 241 [Z!,Z!,ä,ä,Ì,Z!,Z!,ä,.d (.sl .ex),ì,ð],Ă,ħ,ħ] [.qc 7 10 241 .sm],ac0 42 [1,5,6] [0,4,100] L_ La2,ac0 56 [1,5,6] [0,4,133] L_ La2,ac0 64 [1,5,6] [0,4,165] L_ La2,ac0 70 [1,5,6] [0,4,188] L_ La2,ac0 82 [1,5,6] [0,4,210] L_ La2,ac0 94 [5,6] [0,4,235] L_ La2,ac0 100 [5] [0,4,258] L_ La2,ac0 106 [5] [0,4,278] L_ La2,ac0 114 [] [0,4,308] L_ La2])
def Fm (n:Nat):cu:=cn rU (eJ n)
def rh:=ac3 [Á,ä,Z!] X0 [ğ] [.C 235 aoj,Ğ,Ĉ,Ă] .leaf
def DG (n:Nat):cu:=cn rh (er n)
def Ni:=ac4 [ő] [] [Ą] [] (dK [(5,(.a [.qc 3 7 9 .str])),ac1 14 [5] [2,3,4,6,7] (ś++[à,Z!]) [.C 115 [Ì,Ì],.C 235 [ï,Z!,Z!,Z?,Z?,Z?,Z?,ú],.C 115 [ó,ì],ĝ,Ÿ,Ă,.F 196 J tj] [.qc 4 1 196 tj],ac1 27 [5,7] [2,3,4,6,8] (ś++[à,ï]) La7 [.qc 8 3 241 .sm],ac1 34 [5,7] [2,3,4,6,8,9] (ś++[à,ï,Z!]) La7 [.qc 8 3 241 .sm],ac0 48 [5,7] [2,3,4,6,8] (ś++[à,ï]) La7,ac0 49 [5,7] [2,3,4,6,8,79] (ś++[à,ï,Z?]) La7]) oW
def XD:=ac4 [ő] [] [Ü] [] .leaf xC
def UL:=ac4 [ő,ő] [] [Ļ] [] .leaf sG
def QD:=ac4 [] [] [Ø] [] (dK [ac1 8 [21] [0,1,22] tY asn [.qc 1 5 163 rk],ac0 22 [2,21,22] [0,1,3] tY asn]) lP
def Lu:=ac4 [ê] [] wa [] (dK [ac1 8 [8,9] [3,10] [ã,Z!] [Ä] [.nil 3 3 aO],ac0 16 [8,9,10] [3] [ã] [Ä]]) mZ
def Qx:=ac4 [] [] wa [] .leaf tP
def M2:=ac4 Vd Nq [Z!] Nq (dK [ac0 6 [2,7] [0,8] gg abb,ac0 16 [2,7] [0,16] gg abb,ac0 26 [2,7] [0,21] gg abb,ac0 44 [2,7] [0,26] gg abb,ac0 70 [2] [0,33] gg abb]) oQ
def Qw:=ac4 (Á::ê::Š) Nq [Z!] Nq (dK [ac0 18 [10] [0,5,24] pJ [Ÿ,ŷ]]) qE
def T2:=ac4 [Á,á] [Ğ,Ä] wa [Ğ,Ä] (dK [ac1 8 [9] [0,1,5,8,10] [Á,á,ç,á,Z!] aog [.nil 5 3 aO],ac0 16 [9,10] [0,1,5,8] [Á,á,ç,á] aog,ac0 19 [7,9,10] [0,1,5,8,24] [Á,á,ç,á,Z?] aog]) g9
def Qy:=ac4 [Á,ê,Ø,ĵ] asd [Õ] asd (dK [ac0 8 [9] [0,3,5,6,8,11] [Á,ĵ,ĕ,ļ,.H 8 0,.H 9 0] asl,ac0 9 [9] [0,3,5,6,8,11,36] [Á,ĵ,ĕ,ļ,.H 8 0,.H 9 0,Z?] asl,ac0 18 [9] [0,3,8,11] [Á,ĵ,ĕ,ļ] asm,ac0 19 [9] [0,3,8,11,74] [Á,ĵ,ĕ,ļ,Z?] (Ť++[Î,Î]),(22,(.s 9 0 0 4)),ac0 24 [] [8,11] [ĕ,ļ] (Ť++[Î,.C 48 (ŧ++[Å,Å])]),ac0 25 [9] [0,3,8,11,89] [Á,ĵ,ĕ,ļ,Z?] asm,(28,(.s 9 0 0 4))]) qF
def T3:=ac4 [Á,ê,Ø,Z!,Z?] Nq [č] Nq (dK [(8,(.a [.qc 12 0 3 aO,.qc 12 1 3 aO,.qc 12 2 3 aO,.qc 12 3 3 aO])),ac0 9 [3,11] [0,6,7,12] (ś++[.qk 3 1 4]) aos,(10,(.u 5)),ac0 18 [3,4,11,22,23] [0,6,7,12] (ś++[.qk 3 1 4]) aos,ac0 21 [3,4,11,13,22,23] [0,6,7,12,39] (ś++[.qk 3 1 4,Z?]) aos,ac1 29 [3] [0,6,7,11,12] (ś++[à,Ŀ]) aot [.nil 11 48 fP],ac0 31 [3] [0,6,7,11,12,65] (ś++[à,Ŀ,Z?]) aot,ac0 36 [3] [0,6,7,11,12] (ś++[à,Ŀ]) aot,ac0 47 [3] [0,6,7,11,12,14,15] (ś++[à,Ŀ,Ĕ,ĕ]) aso,ac0 48 [3] [0,6,7,11,12,14,15,87] (ś++[à,Ŀ,Ĕ,ĕ,Z?]) aso,(51,(.s 14 0 0 4))]) su
def MO:aN Pg 235 Nc:=mk _ _ an b9
def Kb:aN Pg 172 Lz:=mk _ _ (ac MO an) b9
def Gx:aN Pg 171 UE:=mk _ _ an b9
def WG:aN Pg 236 Xy:=mk _ _ an b9
def WF:aN Pg 173 Xx:=mk _ _ (ac Gx (ac WG an)) b9
def sI:aN Pg 114 UF:=mk _ _ (ac Gx (ac Kb (ac WF an))) b9
def Ka:aN Pg 319 Xo:=mk _ _ an b9
def Wy:aN Pg 283 Xq:=mk _ _ (ac Ka an) b9
def SS:aN Pg 285 UA:=mk _ _ (ac Ka an) b9
def Wz:aN Pg 282 Xr:=mk _ _ an b9
def MN:aN Pg 341 Nb:=mk _ _ an b9
def wS:∀n:Nat,aN Pg 320 (HX n)
 |0=>Ff pw
 |n+1=>mk pw (pn (iV n)) (ac sI (ac (wS n) (ac MN an))) b9
def yz:aN Pg 320 Ih:=(wS fI)
def WE:aN Pg 321 Xw:=mk _ _ an b9
def rT:∀n:Nat,aN Pg 286 (HW n)/\aN Pg 245 (Fl n)
 |0=>⟨Ff td,Ff ov⟩
 |n+1=>⟨mk td (pm (hP n) (fL n)) (ac sI (ac (rT n).2 (ac yz (ac WE an)))) b9,mk ov (og (hP n) (fL n)) (ac (rT n).1 an) b9⟩
def Fu:aN Pg 245 FP:=(rT fI).2
def H0:aN Pg 244 Ig:=mk _ _ (ac sI an) b9
def SW:aN Pg 180 UD:=mk _ _ (ac sI (ac H0 (ac Fu an))) b9
def vJ:aN Pg 115 ajc:=mk _ _ an b9
def vI:aN Pg 246 UC:=mk _ _ an b9
def vY:aN Pg 247 Na:=mk _ _ an b9
def SU:aN Pg 322 UB:=mk _ _ (ac vJ (ac vI (ac vY an))) b9
def N7:aN Pg 289 aak:=mk _ _ (ac SU an) b9
def GA:∀n:Nat,aN Pg 323 (Wc n)
 |0=>Ff xU
 |n+1=>mk xU (xM (pF n)) (ac (GA n) an) b9
def WC:aN Pg 323 Xu:=(GA fI)
def Gz:∀n:Nat,aN Pg 324 (Wb n)
 |0=>Ff xT
 |n+1=>mk xT (xL (pE n)) (ac N7 (ac (Gz n) an)) b9
def WA:aN Pg 324 Xs:=(Gz fI)
def Z1:aN Pg 290 aal:=mk _ _ (ac yz (ac WC (ac WA an))) b9
def P_:aN Pg 291 QQ:=mk _ _ an b9
def aif:aN Pg 288 ajb:=mk _ _ an b9
def Ft:aN Pg 287 FO:=mk _ _ an b9
def ML:aN Pg 248 M_:=mk _ _ (ac vJ (ac vI (ac vY (ac Ft (ac aif (ac N7 (ac Z1 (ac P_ an)))))))) b9
def zZ:∀n:Nat,aN Pg 184 (Mz n)
 |0=>Ff sd
 |n+1=>mk sd (r8 (mw n)) (ac (zZ n) (ac ML an)) b9
def MM:aN Pg 184 M':=(zZ fI)
def GC:∀n:Nat,aN Pg 183 (Wd n)
 |0=>Ff xV
 |n+1=>mk xV (xN (pG n)) (ac (GC n) an) b9
def WD:aN Pg 183 Xv:=(GC fI)
def WB:aN Pg 181 Xt:=mk _ _ (ac vI an) b9
def P9:aN Pg 182 QP:=mk _ _ (ac vJ (ac vI (ac vY an))) b9
def xJ:aN Pg 122 QR:=mk _ _ (ac SW (ac WB (ac P9 (ac WD (ac MM an))))) b9
def Gy:∀n:Nat,aN Pg 186 (Wa n)
 |0=>Ff xS
 |n+1=>mk xS (xK (pD n)) (ac (Gy n) an) b9
def Wt:aN Pg 186 Xi:=(Gy fI)
def Gu:aN Pg 185 Ux:=mk _ _ an b9
def Gw:aN Pg 292 Uz:=mk _ _ an b9
def Wx:aN Pg 123 Xm:=mk _ _ (ac xJ (ac Gu (ac Wt an))) b9
def Wu:aN Pg 113 Xj:=mk _ _ an b9
def s7:aN Pg 61 If:=mk _ _ (ac Wu (ac sI (ac vJ an))) b9
def uK:aN Pg 126 Ly:=mk _ _ an b9
def Gv:aN Pg 238 Uy:=mk _ _ an b9
def Wv:aN Pg 175 Xk:=mk _ _ (ac Gv an) b9
def P4:aN Pg 176 aja:=mk _ _ an b9
def Ww:aN Pg 237 Xl:=mk _ _ (ac P4 an) b9
def P3:aN Pg 174 QM:=mk _ _ (ac P4 (ac Ww an)) b9
def Fs:aN Pg 120 FN:=mk _ _ (ac uK (ac P3 (ac Wv (ac P4 an)))) b9
def CQ:aN Pg 68 Xn:=mk _ _ (ac s7 (ac Fs an)) b9
def oe:aN Pg 125 QN:=mk _ _ an b9
def yB:∀n:Nat,aN Pg 253 (JU n)
 |0=>Ff q_
 |n+1=>mk q_ (qU (iH n)) (ac vJ (ac oe (ac (yB n) (ac Gw an)))) b9
def uJ:aN Pg 253 Lw:=(yB fI)
def HZ:aN Pg 249 Ie:=mk _ _ (ac vJ (ac oe (ac uJ (ac Gw an)))) b9
def MJ:aN Pg 252 M9:=mk _ _ an b9
def kl:∀n:Nat,aN Pg 124 (JV n)/\aN Pg 187 (My n)/\aN Pg 250 (DE n)/\aN Pg 251 (HV n)
 |0=>⟨Ff re,Ff v7,Ff rf,Ff tb⟩
 |n+1=>⟨mk re (qV (dW n) (eP n) (dv n) (dT n)) (ac (kl n).2.1 an) b9,mk v7 (r7 (dW n) (eP n) (dv n) (dT n)) (ac vJ (ac oe (ac Gu (ac HZ (ac (kl n).2.2.1 (ac (kl n).2.2.2 (ac MJ (ac uJ an)))))))) b9,mk rf (mC (dW n) (eP n) (dv n) (dT n)) (ac (kl n).1 (ac oe (ac uJ an))) b9,mk tb (pl (dW n) (eP n) (dv n) (dT n)) (ac (kl n).1 (ac oe an)) b9⟩
def J_:aN Pg 124 Lx:=(kl fI).1
def P5:aN Pg 71 QO:=mk _ _ (ac xJ (ac Wx (ac J_ (ac oe (ac uK an))))) b9
def wR:aN Pg 83 af3:=mk _ _ an b9
def aea:aN Pg 234 af2:=mk _ _ an b9
def J9:aN Pg 169 Xh:=mk _ _ (ac aea an) b9
def MI:aN Pg 284 M8:=mk _ _ an b9
def lm:aN Pg 242 aaj:=mk _ _ an b9
def Z0:aN Pg 243 aai:=mk _ _ (ac uK (ac J9 (ac Wy (ac MI (ac SS an))))) b9
def jM:aN Pg 179 Uw:=mk _ _ (ac Gv (ac lm (ac Z0 an))) b9
def J8:aN Pg 67 Xf:=mk _ _ an b9
def Fr:aN Pg 116 aag:=mk _ _ an b9
def YD:aN Pg 165 aj9:=mk _ _ an b9
def Ws:aN Pg 166 Xe:=mk _ _ (ac YD an) b9
def DN:aN Pg 109 QL:=mk _ _ (ac wR (ac Fr (ac YD (ac Ws an)))) b9
def P1:aN Pg 167 QK:=mk _ _ an b9
def P0:aN Pg 170 QJ:=mk _ _ an b9
def ll:aN Pg 168 aah:=mk _ _ an b9
def MH:aN Pg 167 M7:=mk my ml an b9
def J7:aN Pg 167 Lv:= @aN.ro Pg 167 my.pre my.post.vs ml lf (MH.holds rfl) rfl (λx _ h=>by rw[show lf x=aw (ml x) λy=>same y.2 x.2 (Z y.1) from rfl]at h;exact h)
def jV:aN Pg 112 Xg:=mk _ _ (ac wR (ac DN (ac J7 (ac ll (ac J9 (ac P0 an)))))) b9
def Wr:aN Pg 70 Xd:=mk _ _ (ac J8 (ac CQ an)) b9
def ZY:aN Pg 239 aae:=mk _ _ (ac CQ (ac Fr an)) b9
def ZW:aN Pg 240 aac:=mk _ _ an b9
def Sn:aN Pg 241 Ua:=mk _ _ (ac Wz an) b9
def iA:aN Pg 177 QI:=mk _ _ (ac ZY (ac ZW (ac Sn an))) b9
def CP:aN Pg 26 Xb:=mk _ _ (ac J8 an) b9
def N6:aN Pg 62 aab:=mk _ _ (ac Fr an) b9
def aie:aN Pg 108 aj8:=mk _ _ an b9
def PZ:aN Pg 110 QH:=mk _ _ an b9
def Wo:aN Pg 111 W_:=mk _ _ (ac wR (ac P1 an)) b9
def wQ:aN Pg 60 aaa:=mk _ _ (ac N6 (ac aie (ac DN (ac PZ (ac Wo (ac jV an)))))) b9
def Wp:aN Pg 73 Xa:=mk _ _ an b9
def Wq:aN Pg 30 Xc:=mk _ _ (ac CP (ac wQ (ac s7 (ac Wp an)))) b9
def NF (t:TypeId):M Ty:=if ay t 228 then Z (.pr .un eT) else b9 t
def SO:aN Pg 178 Uu:=mk _ _ (ac ll (ac lm an)) NF
def Sy:aN Pg 121 Uk:=mk _ _ (ac jV (ac iA (ac SO (ac jM an)))) NF
def SM:aN Pg 178 Ut:=mk _ _ (ac ll (ac lm an)) NF
def Sw:aN Pg 121 Uj:=mk _ _ (ac jV (ac iA (ac SM (ac jM an)))) NF
def SL:aN Pg 178 Us:=mk _ _ (ac ll (ac lm an)) NF
def Sv:aN Pg 121 Ui:=mk _ _ (ac jV (ac iA (ac SL (ac jM an)))) NF
def SK:aN Pg 178 Ur:=mk _ _ (ac ll (ac lm an)) NF
def Su:aN Pg 121 Uh:=mk _ _ (ac jV (ac iA (ac SK (ac jM an)))) NF
def SJ:aN Pg 178 Uq:=mk _ _ (ac ll (ac lm an)) NF
def St:aN Pg 121 Ug:=mk _ _ (ac jV (ac iA (ac SJ (ac jM an)))) NF
def SH:aN Pg 178 Up:=mk _ _ (ac ll (ac lm an)) NF
def Ss:aN Pg 121 Uf:=mk _ _ (ac jV (ac iA (ac SH (ac jM an)))) NF
def SE:aN Pg 178 Uo:=mk _ _ (ac ll (ac lm an)) NF
def Sr:aN Pg 121 Ue:=mk dO na (ac jV (ac iA (ac SE (ac jM an)))) NF
def SD:aN Pg 178 Un:=mk _ _ (ac ll (ac lm an)) NF
def Sq:aN Pg 121 Ud:=mk _ _ (ac jV (ac iA (ac SD (ac jM an)))) NF
def SA:aN Pg 178 Um:=mk _ _ (ac ll (ac lm an)) NF
def Sp:aN Pg 121 Uc:=mk _ _ (ac jV (ac iA (ac SA (ac jM an)))) NF
def Sz:aN Pg 178 Ul:=mk _ _ (ac ll (ac lm an)) NF
def So:aN Pg 121 Ub:=mk _ _ (ac jV (ac iA (ac Sz (ac jM an)))) NF
def ZZ:aN Pg 121 aaf:=(aN.orE (pre:=dO.pre) (post:=dO.post) (m:=na) (m':=(λx=>orE (m_ x) ((λx=>orE (lF x) ((λx=>orE (kx x) ((λx=>orE (jK x) ((λx=>orE (iB x) ((λx=>orE (g_ x) ((λx=>orE (gA x) ((λx=>orE (f_ x) (gd x)) x)) x)) x)) x)) x)) x)) x))) rfl Sr (aN.orE (pre:=dO.pre) (post:=dO.post) (m:=m_) (m':=(λx=>orE (lF x) ((λx=>orE (kx x) ((λx=>orE (jK x) ((λx=>orE (iB x) ((λx=>orE (g_ x) ((λx=>orE (gA x) ((λx=>orE (f_ x) (gd x)) x)) x)) x)) x)) x)) x))) rfl Sq (aN.orE (pre:=dO.pre) (post:=dO.post) (m:=lF) (m':=(λx=>orE (kx x) ((λx=>orE (jK x) ((λx=>orE (iB x) ((λx=>orE (g_ x) ((λx=>orE (gA x) ((λx=>orE (f_ x) (gd x)) x)) x)) x)) x)) x))) rfl Sp (aN.orE (pre:=dO.pre) (post:=dO.post) (m:=kx) (m':=(λx=>orE (jK x) ((λx=>orE (iB x) ((λx=>orE (g_ x) ((λx=>orE (gA x) ((λx=>orE (f_ x) (gd x)) x)) x)) x)) x))) rfl So (aN.orE (pre:=dO.pre) (post:=dO.post) (m:=jK) (m':=(λx=>orE (iB x) ((λx=>orE (g_ x) ((λx=>orE (gA x) ((λx=>orE (f_ x) (gd x)) x)) x)) x))) rfl Su (aN.orE (pre:=dO.pre) (post:=dO.post) (m:=iB) (m':=(λx=>orE (g_ x) ((λx=>orE (gA x) ((λx=>orE (f_ x) (gd x)) x)) x))) rfl St (aN.orE (pre:=dO.pre) (post:=dO.post) (m:=g_) (m':=(λx=>orE (gA x) ((λx=>orE (f_ x) (gd x)) x))) rfl Ss (aN.orE (pre:=dO.pre) (post:=dO.post) (m:=gA) (m':=(λx=>orE (f_ x) (gd x))) rfl Sw (aN.orE (pre:=dO.pre) (post:=dO.post) (m:=f_) (m':=gd) rfl Sv Sy)))))))))
def ZX:aN Pg 69 aad:=mk _ _ (ac ZZ an) b9
def ae9:aN Pg 27 af1:=mk _ _ (ac CQ (ac ZX (ac Wr an))) b9
def e9:aN Pg 57 Im:=mk _ _ an b9
def Fw:aN Pg 130 aan:=mk _ _ an b9
def Kh:aN Pg 256 XC:=mk _ _ an b9
def DU:aN Pg 255 QY:=mk _ _ an b9
def DV:aN Pg 129 QZ:=mk _ _ an b9
def S2:aN Pg 127 UK:=mk _ _ an b9
def MS:aN Pg 29 Nj:=mk _ _ an b9
def vL:∀n:Nat,aN Pg 254 (Fn n)
 |0=>Ff ox
 |n+1=>mk ox (ol (iu n)) (ac e9 (ac Fw (ac (vL n) (ac DU (ac Kh an))))) b9
def Fx:aN Pg 254 FU:=(vL fI)
def DS:aN Pg 257 EH:=mk _ _ (ac vJ an) b9
def jW:∀n:Nat,aN Pg 128 (DF n)/\aN Pg 188 (Fm n)/\aN Pg 258 (DG n)
 |0=>⟨Ff mH,Ff rU,Ff rh⟩
 |n+1=>⟨mk mH (mE (dU n) (eJ n) (er n)) (ac (jW n).2.1 an) b9,mk rU (oh (dU n) (eJ n) (er n)) (ac e9 (ac (jW n).1 (ac DV (ac Fw (ac Fx (ac DU (ac Kh (ac DS (ac (jW n).2.2 an))))))))) b9,mk rh (mF (dU n) (eJ n) (er n)) (ac e9 (ac (jW n).1 an)) b9⟩
def DR:aN Pg 128 EG:=(jW fI).1
def MR:aN Pg 72 Ni:=mk _ _ (ac e9 (ac xJ (ac S2 (ac DR (ac DV (ac Fw an)))))) b9
def WJ:aN Pg 28 XD:=mk _ _ (ac P5 (ac MR an)) b9
def S3:aN Pg 9 UL:=mk _ _ (ac ae9 (ac WJ (ac MS an))) b9
def PU:aN Pg 22 QD:=mk _ _ an b9
def J5:aN Pg 164 Lu:=mk _ _ an b9
def PQ:aN Pg 104 Qx:=mk _ _ an b9
def MC:aN Pg 105 M2:=mk _ _ (ac e9 an) b9
def PP:aN Pg 106 Qw:=mk _ _ (ac e9 (ac J5 an)) b9
def Sh:aN Pg 107 T2:=mk _ _ (ac e9 an) b9
def PR:aN Pg 59 Qy:=mk _ _ (ac e9 (ac PQ (ac MC (ac PP (ac Sh an))))) b9
def tv1 (t:TypeId):M Ty:=if ay t 39 then Z (.pr .un (.pr .un (.pr .un (.pr .un (.pr .un (.sl aO)))))) else b9 t
def Si:aN Pg 24 T3:=mk _ _ (ac e9 (ac PR (ac wQ an))) tv1
abbrev as1:Y PV:=[à,Z!,è,ú,ì,ð,Ģ]
abbrev Ld0:Y PB:=(Ÿ::Ħ::.C 41 as1::ť)
abbrev Ld1:Y PB:=[.C 79 [ë,ł,ł,Å,î,Å]]
abbrev Ld2:Y PB:=[ŵ,þ,.qw (.rr 39 1) 4,ų,.qw (.ir 3 aO) 0]
abbrev Ld3:Y PB:=[ī,Ê,Ó,.C 37 F7]
abbrev Ld4:Y PB:=[ī,Ê,Ó]
abbrev Ld5:Y PB:=[ž,.C 22 [à],abw,å]
abbrev VF:Y PB:=[ŵ]
abbrev Ld7:Y PB:=[ž,.C 22 [è],abw,.F 4 aa .bool,å]
abbrev Zm:Y PB:=[Ä]
abbrev Ld9:Y PV:=(Ì::Ì::Ì::Ì::Ì::Ì::Z!::Ì::Z!::Ì::ş)
def Ų:Y PB:=[ŵ,.C 126 Ld9]
abbrev ak9:Y PB:=[abz,ų,ų]
abbrev aba:Y PB:=[Ä,ſ]
abbrev asb:Y PB:=[Ŵ,abs,ſ,í,ī,Ê,Ó]
abbrev ak8:Y PV:=(Ì::Z!::Ì::ş)
def ŏ:PB:=.C 79 ak8
abbrev ak7:Y PV:=(ś++[ń,Z!])
abbrev aod:Y PB:=(Ū++[.F 87 J gZ,ų])
abbrev ag8:Y PB:=[ž,Ä]
abbrev Rh:Y PB:=[abz]
abbrev asa:Y PB:=(Ğ::ť)
abbrev aoc:Y PB:=[ŵ,ź,.C 152 [.d c_]]
abbrev ag7:Y PB:=[Ĉ,å]
abbrev ak6:Y PB:=[ŵ,ź]
abbrev ak5:Y PB:=Ū
abbrev aob:Y PB:=[å,.F 357 aa (.int .u8)]
abbrev as8:Y PV:=(Ì::Ì::Ì::Ì::Ì::Ì::Z!::Ì::Z!::ş)
abbrev as7:Y PV:=(Ŝ++[ì,ð,Å,Ģ,.G 9])
abbrev ag6:Y PB:=[å]
abbrev ag5:Y PV:=(Ķ::Š)
abbrev ak4:Y PV:=ś
abbrev as6:Y PB:=[ŵ,þ,.qw (.rr 39 1) 3,.qw (.ir 3 aO) 0]
abbrev as4:Y PB:=[.C 22 [ç],.C 149 [.qy 54 [(0,0)]],å]
abbrev XY:Y PV:=[Ĥ]
def Ľ:PB:=.C 53 XY
def Ů:Y PB:=[.C 44 [Ø,Z!,ê,č],.C 50 (ŧ++[Å]),Ľ,Ĳ,ĸ]
abbrev ak3:Y PV:=[Ö,ù,Z!]
abbrev as3:Y PV:=(ś++[ń,à,Z!])
abbrev as2:Y PB:=(Ū++[.F 87 J gZ])
abbrev as0:Y PB:=[ŵ,Ħ,ŷ]
def Uv:=ac4 [Ø] [] [Ę] akg (dK [ac1 8 [] [1,2,3,4] sT (Ŧ++[.C 37 [à,Z!,Ì,Ì],Ò]) [.qc 3 0 152 c_],ac1 23 [] [1,2,3,5] sT (Ŧ++[.C 37 [à,Z!,è,Ì],Ò,Ê]) [.qc 3 2 4 .bool],ac1 38 [] [1,2,3,6] sT (Ŧ++Ŕ::ű) [.qc 3 3 154 fg],ac0 49 [6] [1,2,3,7] Zp (Ŧ++abs::İ::ű)]) sB
def T_:=ac4 [Ø] [] [.agg [ã,Z!,á,ç,à,è,ú]] ť (dK [ac1 8 [] [1,2,3,4] sT (Ŵ::Ħ::.C 41 as1::ť) [.qc 3 4 2 aO]]) sx
def Qz:=ac4 [Á,.agg [á,Z!,ç,à,è,ú,ì]] asa [Z!] asa (dK [ac0 5 [5] [22] [Z?] (Ÿ::ť)]) nU
def FM:=ac4 [Á,Ø] Nq [ê] Nq (dK [ac0 8 [15] [0,4,5,16] sT Ld0,ac0 16 [15,16] [0,4,5] ak4 Ld0,ac0 21 [6,15,16] [0,4,5,7] sT Ld0,ac0 22 [6,7,15,16] [0,4,5,29] ti Ld0,ac0 29 [6,15,16] [0,4,5,42] ti Ld0,ac0 41 [63] [0,4,5,64] sT Ld0,ac0 54 [63,64] [0,4,5] ak4 Ld0,ac0 59 [8,9,63,64] [0,4,5,80] ti Ld0,ac0 63 [8,9,63,64] [0,4,5,96] ti Ld0,ac0 69 [] [0,4,5] ak4 Ld0,ac0 75 [] [0,4,5] ak4 Ld0,ac0 87 [142] [0,4,5,143] sT Ld0]) kZ
def W7:=ac4 [Ļ,Z!] [] [ê] [] (dK [ac0 8 [1] [2,4,5,6] sT [abu,Ħ,ŷ]]) uq
def W9:=ac4 [Ļ,Z!] [] [.d (.sl o_),Z!] [] (dK [ac0 13 [1] [2,22] gg [abu],ac1 26 [1] [2,8,9] zA [abu,.F 44 J o_] [.nil 8 44 o_]]) ut
def aj7:=ac4 zB [] [Z?] [] (dK [ac0 2 [] [4] [Z?] []]) Dx
def T8:=ac4 [Ö] [] [Z?] [] (dK [ac0 8 [] [1,3,4] Vd VF,ac0 18 [3,4] [1,28] gg VF,ac0 27 [] [2] [Z?] []]) sw
def M6:=ac4 [Ö] [] [Z?] [] (dK [ac0 8 [3] [1,4] sS VF,ac0 17 [3,4] [1,5] gg VF,ac0 19 [3,4,5] [1,6] gg VF,ac0 22 [3,4,6] [1,81] gg VF,ac0 29 [3,4] [1,107] gg VF]) oS
def W6:=ac4 [Ö,Z!] [] [Z?] [] (dK [ac0 2 [] [4] [Z?] []]) m6
def QF:=ac4 [Ö] [] [Z?] [] (dK [ac0 8 [] [1,3,4] tY ak6,ac0 20 [4] [1,3,5,54] ti aoc,ac0 30 [4] [1,3,5,6] sT aoc,ac0 39 [4,6] [1,3,5,87] ti aoc,ac0 49 [] [1,3,97] pJ ak6,ac0 60 [] [1,3,7] tY ak6,ac0 72 [7] [1,3,8,117] ti [ŵ,ź,İ],ac0 79 [7] [1,3,142] pJ ak6]) qH
def af0:=ac4 (Ö::Š) [] [Z!] [] (dK [ac0 6 [1] [2,3,7] [Z!,Á,Z!] VF,ac0 14 [1,7] [2,3] [Z!,Á] VF]) zO
def W5:=ac4 [Ö,Z!,Å] [] [Z?] [] (dK [ac0 6 [1,2] [3,7] sS VF,ac0 14 [1,2,7] [3] [Á] VF,ac0 23 [1,2,7] [3,59] gg VF]) rH
def W8:=ac4 [Ö] [] [Z?] [] (dK [ac0 3 [] [1,41] gg VF,ac0 14 [] [1,3] sS VF,ac0 23 [3] [1,66] gg VF,ac0 37 [] [1,4,5] tY [ŵ,ŷ],ac0 51 [5] [1,4,7,108] ti [ŵ,ŷ,ŷ]]) ur
def T9:=ac4 [Ö,Z!] [] [ê] [] (dK [ac0 8 [1] [2,4,5,6] sT as0,ac0 10 [1,6] [2,4,5,18] ti as0]) m7
def M3:=ac4 Nr [] [Ö] [] (dK [ac0 2 [1] [0,4] [ő,Á] [.C 44 as8],ac0 18 [1,26,27] [4,5,6,28] sT [.C 44 as8,Ÿ,.C 44 (ř++[Z!,Ý,Z!,î,Ñ,Å,Å,Å,Ì])]]) mj
def CW:=ac4 [ô,Z!] [] [Ö] [] .leaf jS
def EK:=ac4 wa [] wa [] .leaf PC
def ank:cu:=⟨EK.pre,EK.post,JR⟩
def AH:=ac4 wa [] [ã] Zm (dK [(8,(.a [.nil 2 3 aO])),(12,(.a [.nil 2 3 aO]))]) JP
def ajl:cu:=⟨AH.pre,AH.post,rZ⟩
def Lp:=ac3 U' [] [Z!] [] (dK [ac0 6 [0,1,7] [8] [Z!] []])
def XK:cu:=cn Lp iT
def Nn:=ac4 U' [] [Z?] [] .leaf eO
def LB:=ac4 zB [] [Z?] [] (dK [ac0 2 [] [4] [Z?] []]) eY
def Ii:=ac4 (Ø::Š) [] [Z?] [] (dK [ac0 6 [2,7] [3,8] gg tg,ac0 36 [2,7] [3,18] gg tg,ac0 46 [2,7] [3,26] gg tg,ac0 53 [] [6] [Z?] [],ac0 56 [2,7] [3,43] gg tg,ac0 71 [] [6] [Z?] [],ac0 74 [2,7] [3,61] gg tg,ac0 92 [2,7] [3,71] gg tg,ac0 102 [2] [3,79] gg tg]) iS
def Et:=ac3 [Ø,ë] [] [Z?] [] (dK [ac0 3 [] [2,31] gg tg,ac0 14 [33,34] [2,35] sS tg])
def QU:cu:=cn Et jD
def Nf:=ac4 (Ø::ë::Z!::Š) [] [Z?] [] (dK [ac0 15 [] [10] [Z?] [],ac0 21 [] [10] [Z?] [],ac0 24 [2,4,11] [5,6,60] pJ XZ,ac0 64 [2,4,11] [5,6,109] pJ XZ,ac0 81 [] [10] [Z?] [],ac0 87 [] [10] [Z?] []]) kI
def Ij:=ac4 (Ø::ë::Z!::Š) [] [Z?] [] (dK [ac0 3 [2,3,4] [5,6,30] pJ XZ,ac0 25 [] [10] [Z?] [],ac0 29 [] [10] [Z?] []]) fH
def Nd:=ac4 [.d fg,Z!] [] [Z?] [] (dK [ac0 2 [] [4] [Z?] []]) mn
def AJ:=ac4 [î] [] [î] [] .leaf JQ
def ajm:cu:=⟨AJ.pre,AJ.post,DA⟩
def xa:=ac4 [î] [] [ã] [Ê] (dK [(8,(.a [.nil 2 4 .bool])),(12,(.a [.nil 2 4 .bool]))]) Fk
def aff:cu:=⟨xa.pre,xa.post,wL⟩
def AG:=ac4 [Ñ] [] [Ñ] [] .leaf JO
def ajk:cu:=⟨AG.pre,AG.post,Dz⟩
def w9:=ac4 [Ñ] [] [ã] [Ó] (dK [(8,(.a [.nil 2 154 fg])),(12,(.a [.nil 2 154 fg]))]) Fi
def afd:cu:=⟨w9.pre,w9.post,JN⟩
def w_:=ac4 [ł] [] [ã] [ę] (dK [(8,(.a [.nil 2 140 C3])),(12,(.a [.nil 2 140 C3]))]) Fj
def afe:cu:=⟨w_.pre,w_.post,zS⟩
def Cg:=ac3 [ë] [] [Ę] Ld4 (dK [ac0 8 [11,12] [1,2,3,13] [Á,É,ç,Z!] [ź,í,ī]])
def Ng:cu:=cn Cg kJ
def As:=ac3 (Ę::Š) Ld4 [Z!] Ld4 (dK [ac0 8 [1,2,12] [3,7,11,13] [Û,Z!,ç,Z!] Ld3,ac0 16 [1,2,12,13] [3,7,11] [Û,Z!,ç] Ld3,ac0 19 [1,2,7,8,12,13] [3,11,29] [Û,ç,Z?] Ld3,ac0 25 [7] [] [] Ld4])
def LC:cu:=cn As jU
def vP:=ac3 [Ę,Z!] Ld4 [Z!] Ld4 (dK [ac0 8 [1,10] [2,5,9,11] [Û,Z!,ç,Z!] Ld3,ac0 16 [1,10,11] [2,5,9] [Û,Z!,ç] Ld3])
def EE:cu:=cn vP gN
def LM:=ac4 [Z!] [] [Z?] [] .leaf qR
def Nm:=ac4 zB [] [Z?] [] (dK [ac0 2 [] [4] [Z?] []]) vX
def FR:=ac4 [Ņ] [] [Z!] [] .leaf rP
def LI:=ac4 [Ņ] [] [Z!] [] .leaf uF
def oy:=ac3 (ã::Š) Zm [] Zm (dK [ac0 3 [1,2] [0,6] [ã,Z!] Zm,ac0 15 [1,2,6] [0,7] [ã,Z!] Zm,ac0 17 [1,2,6,7] [0,30] [ã,Z?] Zm])
def vm:cu:=cn oy fN
def tB:=ac3 (ã::Z!::Š) Zm [] Zm (dK [ac0 5 [] [0,1,2,3,8,9] [ã,Z!,Z!,Z!,Z?,Z?] Zm])
def BB:cu:=cn tB iZ
def aaq:=ac4 [ã] Zm [] Zm .leaf wK
def EB:=ac3 [ã] Zm [ã] Zm (dK [ac0 14 [] [0,3] [ã,Z!] Zm])
def Q6:cu:=cn EB lQ
def Ik:=ac4 [Z!,Á] [ſ] [Z?] [ſ] .leaf pj
def Az:=ac3 [ã,ġ] aba [Z!] aba (dK [ac0 6 [7] [0,1,8] [ã,ġ,Z!] aba])
def LN:cu:=cn Az nE
def yN:=ac3 [ã,ġ] aba [ç] [Ĉ,ſ,þ] (dK [ac0 16 [] [0,1,5,6] (ã::ġ::Š) aba,ac0 24 [6] [0,1,5] [ã,ġ,Z!] aba])
def Ip:cu:=cn yN iU
def nJ:=ac3 (Ø::ë::Z!::Z!::Š) [] [ë,Z!,Z?] [] (dK [ac0 17 [] [7,12,15] tY [.C 37 [ç,Z!,à,è],í,ī,Ê,Ó],ac0 26 [4,5,15,27] [6,7,8,12,42] zC asb,ac0 34 [4,5,15,27] [6,7,8,12,51] zC asb])
def LG:cu:=cn nJ gO
def LD:=ac4 [ë] [] [.agg [.qk 0 2 3,Z!,î,Ñ]] (.C 152 [Z!,á,Z!,ç,Z!,à]::Ű) (dK [ac1 7 [] [1,2,3] [Á,É,.qk 2 2 3] (ź::í::.C 152 [Z!,à,Z!,è,Z!,ú]::Ű) [.qc 3 1 3 aO,.qc 3 3 3 aO,.qc 3 5 3 aO],(8,(.u 4))]) nC
def LF:=ac4 (Ø::ë::Z!::Z!::Š) [] [ë,Z!,Z?] [] (dK [ac0 17 [] [7,12,15] tY [.C 37 [.qk 2 2 3,Z!,î,Ñ],í,.C 152 [.d c_,.d c_,Z!,à],.qg 3 aO],ac0 26 [4,5,15,27] [6,7,8,12,42] zC (Ŭ++.C 152 [Z!,ú,Z!,ì,Z!,ð]::Ű),(33,(.s 4 0 0 0)),ac0 34 [4,5,15,27] [6,7,8,12,51] zC (Ŭ++[.C 152 [Z!,Å,Z!,Å,Z!,ú],Ä]),(41,(.s 4 0 0 0)),(46,(.s 4 0 0 3)),(53,(.s 4 0 0 3)),(74,(.s 4 0 0 0)),(80,(.s 4 0 0 0)),(100,(.a [.pk 7 0 c_]))]) li
def Nh:cu:=cn nJ mo
def Il:=ac4 [ë] [] [ë] [] (dK [ac1 8 [16,17] [2,3,18] tY [í,.C 37 [ç,Z!,î,Ñ],Ò] [.qc 3 0 152 c_]]) mc
def QV:=ac4 wa [] [ł] [] (dK [ac0 8 [9,10] [3,11] [ã,Z!] [.F 140 aa C3]]) nX
def QW:=ac4 [Ö] [] [ù] [] .leaf qP
def UJ:=ac4 ak3 [] [Z!] [] (dK [ac0 3 [2] [3,4,18] pJ ak5,ac0 14 [2,20,21] [4,22] sS [ž],ac0 25 [2,7,20,21,22] [4,37] gg [ž]]) lI
def QX:=ac4 [Ö,ù,Z!,Å] [] [Z?] [] (dK [ac0 11 [2,3] [4,5,35] pJ ak5,ac1 26 [2,3,9,43,44] [5,10,45] zA ag8 [.nil 10 3 aO],ac0 34 [2,3,9,43,44,45] [5,10] [Á,á] ag8,ac0 47 [9,59,60] [5,10,61] zA ag8,ac0 55 [9,59,60,61] [5,10] [Á,á] ag8,ac0 66 [9,59,60,61] [5,10,99] [Á,á,Z?] ag8]) nY
def LH:=ac4 ak3 [] [Z?] [] (dK [ac0 14 [] [6] [Z?] []]) fF
def UH:=ac4 [Ö,ù] [] [Z?] [] (dK [ac0 2 [] [4] [Z?] []]) sD
def UI:=ac4 [Ö,ù,â] [] [ù,Z?] [] (dK [ac0 3 [] [3,4,5,6,27] zC (Ū++[Ž,ŏ]),ac0 24 [8,11] [3,4,5,6,9,13] Is (Ū++[Ž,ŏ,ų,.C 79 as7,ę,ę,Ê,Ä]),ac0 30 [8,11] [4,6,9,13,14,15] Is [ž,ŏ,ų,.C 79 as7,.C 140 [.d C3],.C 140 [.d C3],ę,ę,Ê,Ä],ac0 39 [] [6,13] [Á,É] [ŏ,.C 79 (Ŝ++[ç,à,Å,è,ú]),ę,ę,Ê,Ä]]) sE
def Q1:=ac4 [Õ] [] [Z?] [] (dK [ac0 2 [] [2] [Z?] []]) n_
def UN:=ac4 [Z!] [] [Z?] [] (dK [ac0 6 [] [4] [Z?] []]) sH
def Nl:=ac4 [Ö] [] [Ķ,Z?] [] (dK [ac0 5 [] [1,2,4,24] ti (Ų++[.C 126 (ř++[Z!,Ý,Z!,î,Ñ,Å,Å,Å,č,Ì])]),ac1 18 [30,31] [1,2,4,5,32] (ś++[Û,Z!]) (Ų++[.C 126 (ř++[Z!,Ý,Z!,î,Ñ,Å,Å,Å,č,è]),ź,.F 37 J oH]) [.qc 4 15 37 oH],ac0 33 [30,31,32] [1,2,4,5,7,8] akd (Ų++[.C 126 (ř++[Z!,Ý,Z!,î,Ñ,Å,Å,Å,č,ú]),ź,ų,.F 37 J oH])]) o6
def ze:=ac4 [Ķ,Å] [] [Z?] [] (dK [ac0 6 [7,8] [2,9] sS Rh,ac0 17 [7,8,9] [2,22] gg Rh]) eD
def w7:=ac4 ag5 [] [Z?] [] (dK [ac0 4 [] [6] [Z?] []]) eI
def BE:=ac4 ag5 [] [Z?] [] (dK [ac0 3 [1,2] [3,26] gg Rh,ac0 12 [] [6] [Z?] []]) i_
def zo:=ac4 ag5 [] [Z?] [] (dK [ac0 5 [1] [3,7,8,34] ti ak9,ac0 17 [1] [3,8,9,10] [Á,É,Z!,Z?] [abz,ų],ac0 18 [1,9,10,38] [3,7,8,39] ti ak9,ac0 45 [] [6] [Z?] []]) ii
def AD:=ac4 [Ķ,Å] [] [Z?] [] (dK [ac0 3 [1] [2,22] gg Rh,ac0 14 [1,23,24] [2,25] sS Rh,ac0 26 [1,5,6,23,24,25] [2,48] gg Rh,ac0 36 [1,6,23,24,25,51,52] [2,53] sS Rh]) iF
def BF:=ac4 ag5 [] [Z?] [] (dK [ac0 3 [1,2] [3,21] gg Rh,ac0 13 [1,2] [3,7,8,60] ti ak9,ac0 24 [1,67,68] [3,7,8,69] sT ak9,ac0 51 [] [6] [Z?] []]) ja
def AE:=ac4 ag5 [] [Z?] [] (dK [ac0 5 [1,2,7] [3,43] gg Rh,ac0 16 [7,50,51] [52] [Z!] [],ac0 27 [7,50,51,52] [64] [Z?] []]) iG
def zi:=ac4 [Ķ,ċ] [] [Z?] [] (dK [ac0 4 [] [4] [Z?] []]) ig
def AC:=ac4 [Ķ,ċ] [] [Z?] [] (dK [ac0 9 [] [4] [Z?] [],ac0 15 [] [4] [Z?] [],ac0 21 [] [4] [Z?] [],ac0 27 [] [4] [Z?] []]) iE
def UP:=ac4 [Ö,ċ] [] [Z?] [] (dK [ac0 4 [] [4] [Z?] []]) pS
def XF:=ac4 ak3 [] [Z?] [] (dK [ac0 2 [] [6] [Z?] []]) rR
def UO:=ac4 ak3 [] [Z?] [] (dK [ac0 2 [] [6] [Z?] []]) nD
def Nk:=ac4 [Ö,ù,ċ] [] [Z?] [] (dK [ac0 9 [] [6] [Z?] [],ac0 19 [31,32] [3,4,33] tY ak5,ac0 40 [31,32,33] [3,4,69] pJ ak5,ac0 56 [] [6] [Z?] [],ac0 64 [] [6] [Z?] []]) oZ
def UQ:=ac4 [Ö,ù,ċ] [] [Z?] [] (dK [ac0 2 [] [6] [Z?] []]) pT
def rW:=ac4 [Z!] [] [Z?] [] .leaf fK
def te:=ac4 [ã,Ņ,Z!,Z?,Z?] ag6 [á,ä] ag7 (dK [ac0 3 [1,2,3,4,10,11] [0,28] [ã,Z?] ag6,ac0 12 [2,3,4,10,11,13] [0,1,12] [ã,Ņ,É] aob,ac0 50 [3,4,10,11,17] [0,1,12,13] [ã,Ņ,É,Z!] aob,ac0 68 [4,10,11] [0,12,13] [ã,É,Z!] aob,(82,(.a [.nil 10 5 (.int .u8)]))]) eZ
def tf:=ac4 [ã,Ņ,Z!] ag6 [á] ag7 (dK [(28,(.a [.nil 6 5 (.int .u8)]))]) gp
def tV:=ac4 (ã::Š) ag6 [á] ag7 (dK [(1,(.a [.qx 0 0])),ac0 4 [2] [0,7] [á,Ņ] ag7,(14,(.a [.nil 6 5 (.int .u8)]))]) gG
def CV:=ac4 (ã::Š) ag6 [á] ag7 (dK [(4,(.a [.nil 6 5 (.int .u8)]))]) jR
def M1:=ac4 [Z!,Á] [.C 22 [á],å] [] [.C 22 [ç],Ĉ,å] .leaf d9
def M0:=ac4 [Z?,Á] [abw,.C 22 [ç],å] [] [abw,.C 22 [à],Ĉ,å] .leaf gh
def TZ:=ac4 [ù,Å] [] [ä] [] (dK [(5,(.a [.qc 5 0 5 (.int .u8)])),ac0 14 [1,31,32] [2,5,6,7,8,33] as3 Ld7,ac0 31 [41,42] [2,5,6,7,8,43] as3 Ld7,ac0 39 [41,42,43] [2,5,6,7,8] (ś++[ń,à]) Ld7,ac0 50 [75,76] [2,5,6,7,77] ak7 Ld5,ac0 68 [75,76,77,91,92] [2,5,6,7,93] ak7 Ld5,ac0 88 [109,110] [2,5,6,7,111] ak7 Ld5,ac0 105 [121,122] [2,5,6,7,123] ak7 Ld5,ac0 126 [144] [5,6,7,145] [Á,É,.qy 56 [(1,0)],Z!] as4,ac0 140 [144,145,148,149] [5,6,7,150] [Á,É,.qy 56 [(1,0)],Z!] as4]) sr
def FL:=ac4 [Z!,Á] Ld1 [Z?] Ld1 .leaf nT
def UT:=ac4 [Å,ņ] Ld1 [Z!] Ld1 (dK [ac0 6 [0,7] [1,8] [ņ,Z!] [ž]]) vD
def LO:=ac4 [Å,ņ] Ld1 [Z?] Ld1 .leaf nF
def Ls:=ac4 [ù,ċ] [] [Z?] [] (dK [ac0 13 [] [4] [Z?] [],ac0 25 [] [4] [Z?] [],ac0 31 [] [4] [Z?] []]) mX
def Ic:=ac4 [Ö,ù] [] XY [] (dK [ac1 8 [14] [2,3,5,15] [Á,É,ç,Z!] as2 [.nil 5 87 gZ],ac0 16 [14,15] [2,3,5] [Á,É,ç] as2,ac0 33 [6,14,15,33,34] [2,3,5,7,8,35] [Á,É,ç,Û,Z?,Z!] aod,ac0 41 [6,14,15,33,34,35] [2,3,5,7,8] [Á,É,ç,Û,Z?] aod,ac0 44 [6,8,9,14,15,33,34,35] [2,3,5,7,54] [Á,É,ç,Û,Z?] aod]) l_
def EC:=ac4 [Ö] [] wa [] (dK [ac0 8 [17] [1,3,18] zA [ŵ,þ],ac0 27 [31,32] [1,3,5,33] [Á,á,ç,Z!] as6,ac1 35 [31,32,33] [1,3,5] [Á,á,ç] as6 [.tak 5 0],ac0 39 [6,31,32,33] [1,3,5,7,56] [Á,á,ç,Û,Z?] Ld2,ac0 48 [6,31,32,33,61] [1,3,5,7,62] [Á,á,ç,Û,Z!] Ld2,ac0 62 [6,31,32,33,61,62,65,66] [1,3,5,7,67] [Á,á,ç,Û,Z!] Ld2,ac0 70 [6,31,32,33,61,62,65,66,67] [1,3,5,7] [Á,á,ç,Û] Ld2,ac0 75 [6,11,31,32,33,61,62,65,66,67] [1,3,5,7,91] [Á,á,ç,Û,Z?] Ld2]) kr
def Lt:=ac4 [.d VG,â,Á,É,Ô,Û,ï,Ĕ] (Ů++[.C 84 [ð],Ē,Ĭ]) [Z?] (Ů++[.C 84 [Ģ],Ē,Ĉ,Ĭ]) (dK [(1,(.a [.qx 7 0])),ac0 12 [] [2,3,4,5,6,7,11,13] (ś++[Û,ï,Ĕ,.H 8 0,Ĥ]) (ŝ++[Ľ,Ĳ,ĸ,.C 84 [.G 9],Ē,Ĉ,ž,Ĭ]),ac0 32 [] [] [] (ŝ++[Ľ,Ĳ,ĸ,.C 84 [Ģ],Ē,Ĉ,Ĭ])]) mY
def Qv:=ac4 [Ö,ċ] [] [Ĥ,Z?] [] (dK [ac0 26 [] [2,3,6,8] (ś++[à]) (ŝ++[Ĳ,.qg 83 VG]),(37,(.a [.qc 9 0 83 VG])),(41,(.a [.mpt 35 .str .bool])),ac0 46 [38] [2,3,6,9,10,12,37,39] (ś++[Û,ï,Ď,ì,Z!]) (ŝ++[Ĳ,.C 84 [ð],Ľ,.C 85 [.mp 8],.qg 83 VG,Ĭ,Ē]),ac0 60 [38,39,46,47] [2,3,6,9,10,12,14,37,48] (ś++[Û,ï,Ď,ĕ,ð,Z!]) (ŝ++[Ĳ,.C 84 [Ģ],Ľ,.C 85 [.mp 9],.C 83 [.d VG],.qg 83 VG,Ĭ,Ē])]) ku
def SR:aN Pg 67 Uv:=mk _ _ an b9
def Sm:aN Pg 26 T_:=mk _ _ (ac SR an) b9
def PS:aN Pg 58 Qz:=mk _ _ (ac e9 an) b9
def Fq:aN Pg 23 FM:=mk _ _ (ac Sm (ac e9 (ac PS an))) b9
def Wl:aN Pg 31 W7:=mk _ _ (ac CP (ac wQ an)) b9
def Wn:aN Pg 10 W9:=mk _ _ (ac Wq (ac Wl an)) b9
def YC:aN Pg 117 aj7:=mk _ _ an b9
def Sl:aN Pg 63 T8:=mk _ _ an b9
def MG:aN Pg 64 M6:=mk _ _ (ac YC an) b9
def Wk:aN Pg 118 W6:=mk _ _ (ac YC an) b9
def PY:aN Pg 65 QF:=mk _ _ (ac Wk an) b9
def ae8:aN Pg 119 af0:=mk _ _ an b9
def Wj:aN Pg 66 W5:=mk _ _ (ac ae8 an) b9
def Wm:aN Pg 25 W8:=mk _ _ (ac wQ (ac s7 (ac N6 (ac Sl (ac MG (ac PY (ac Wj an))))))) b9
def zY:aN Pg 153 T9:=mk _ _ (ac wQ an) b9
def MD:aN Pg 8 M3:=mk _ _ (ac PU (ac Fq (ac Si (ac Wm (ac CP an))))) b9
def CM:aN Pg 4 CW:=mk _ _ (ac MD (ac S3 (ac Wn an))) b9
def aig:aN Pg 48 EK:=mk _ _ an b9
def aeg:aN Pg 48 ank:= @aN.sub Pg 48 EK.pre EK.post PC JR aig rfl (λx y h=>rV (b:=8) x y h)
def aed:aN Pg 48 AH:=mk _ _ an b9
def YG:aN Pg 48 ajl:= @aN.sub Pg 48 AH.pre AH.post JP rZ aed rfl (λx y h=>rV (b:=8) x y h)
def V6 x:rF (iT x) (CH x):=by
 unfold iT CH uP bi bS bz bc cW aF cM;with_reducible repeat' first|apply OI.o;constructor|intro _
def CR:aN Pg 50 XK:=mkn Lp iT CH V6 an b9
def mr:aN Pg 53 Nn:=mk _ _ (ac CR an) b9
def uL:aN Pg 157 LB:=mk _ _ an b9
def H3:aN Pg 158 Ii:=mk _ _ (ac uL an) b9
def Pu x:rF (jD x) (xx x):=by
 unfold jD xx qX ba bQ b_ dD bS gF bz bc cW aF cM;with_reducible repeat' first|apply OI.o;constructor|intro _
def Qa:aN Pg 156 QU:=mkn Et jD xx Pu (ac uL an) b9
def MP:aN Pg 159 Nf:=mk _ _ (ac mr an) b9
def s8:aN Pg 94 Ij:=mk _ _ (ac Qa (ac uL (ac H3 (ac MP an)))) b9
def BT:aN Pg 162 Nd:=mk _ _ an b9
def aef:aN Pg 47 AJ:=mk _ _ an b9
def YH:aN Pg 47 ajm:= @aN.sub Pg 47 AJ.pre AJ.post JQ DA aef rfl (λx y h=>rV (b:=1) x y h)
def Z5:aN Pg 47 xa:=mk _ _ an b9
def S7:aN Pg 47 aff:= @aN.sub Pg 47 xa.pre xa.post Fk wL Z5 rfl (λx y h=>rV (b:=1) x y h)
def aec:aN Pg 91 AG:=mk _ _ an b9
def YF:aN Pg 91 ajk:= @aN.sub Pg 91 AG.pre AG.post JO Dz aec rfl (λx y h=>rV (b:=24) x y h)
def Z3:aN Pg 91 w9:=mk _ _ an b9
def aeb:aN Pg 91 afd:= @aN.sub Pg 91 w9.pre w9.post Fi JN Z3 rfl (λx y h=>rV (b:=24) x y h)
def Z4:aN Pg 46 w_:=mk _ _ an b9
def aee:aN Pg 46 afe:= @aN.sub Pg 46 w_.pre w_.post Fj zS Z4 rfl (λx y h=>rV (b:=16) x y h)
def Mu x:rF (kJ x) (vW x):=by
 unfold kJ vW r9 ba bI ck bS bY bz bc cW cM;with_reducible repeat' first|apply OI.o;constructor|intro _
def MQ:aN Pg 95 Ng:=mkn Cg kJ vW Mu (ac S7 (ac aeg (ac aeb an))) b9
def Jx x:rF (jU x) (um x):=by
 unfold jU um qW ba bQ bI ck bS jO kQ bc cW aF cM;with_reducible repeat' first|apply OI.o;constructor|intro _
def Kc:aN Pg 100 LC:=mkn As jU um Jx (ac BT an) b9
def Dv x:rF (gN x) (qD x):=by
 unfold gN qD mD ba bQ bI dD ck bS kQ bc cW aF cM;with_reducible repeat' first|apply OI.o;constructor|intro _
def DP:aN Pg 101 EE:=mkn vP gN qD Dv (ac BT an) b9
def Kj:aN Pg 277 LM:=mk _ _ an b9
def MV:aN Pg 225 Nm:=mk _ _ (ac Kj an) b9
def Fv:aN Pg 229 FR:=mk _ _ an b9
def Kg:aN Pg 161 LI:=mk _ _ (ac Fv an) b9
def vg x:rF (fN x) (kh x):=by
 unfold fN kh ki ck bS kQ cW aF cM;with_reducible repeat' first|apply OI.o;constructor|intro _
def vi:aN Pg 219 vm:=mkn oy fN kh vg (ac MV an) b9
def Bt x:rF (iZ x) (oB x):=by
 unfold iZ oB oD ba bQ bi jO bY aF;with_reducible repeat' first|apply OI.o;constructor|intro _
def Bw:aN Pg 160 BB:=mkn tB iZ oB Bt (ac vi an) b9
def Z2:aN Pg 96 aaq:=mk _ _ (ac Bw (ac Kg an)) b9
def Pw x:rF (lQ x) (xy x):=by
 unfold lQ xy xP bi bS bY kQ bc cW aF cM;with_reducible repeat' first|apply OI.o;constructor|intro _
def Qe:aN Pg 97 Q6:=mkn EB lQ xy Pw an b9
def yA:aN Pg 99 Ik:=mk _ _ an b9
def JC x:rF (nE x) (uo x):=by
 unfold nE uo uQ bS kQ bc cW aF cM;with_reducible repeat' first|apply OI.o;constructor|intro _
def Kk:aN Pg 102 LN:=mkn Az nE uo JC (ac yA an) b9
def HR x:rF (iU x) (s6 x):=by
 unfold iU s6 ta ck bi bS bY kQ bc cW aF cM;with_reducible repeat' first|apply OI.o;constructor|intro _
def H5:aN Pg 98 Ip:=mkn yN iU s6 HR (ac yA (ac Kk an)) b9
def Kf:aN Pg 45 LG:=mk nJ gO (ac s8 (ac MQ (ac Kc (ac DP an)))) b9
def tv2 (t:TypeId):M Ty:=if ay t 152 then Z (.pr .un (.pr .un (.pr .un (.pr .un c_)))) else b9 t
def Kd:aN Pg 95 LD:=mk _ _ (ac YH (ac YG (ac YF an))) tv2
def Ke:aN Pg 45 LF:=mk _ _ (ac s8 (ac Kd (ac Z2 (ac Qe (ac H5 an))))) tv2
def BU:aN Pg 45 Nh:=(aN.orE (pre:=nJ.pre) (post:=nJ.post) (m:=gO) (m':=li) rfl Kf Ke)
def H4:aN Pg 39 Il:=mk _ _ (ac YH (ac aeg (ac YF an))) b9
def Qb:aN Pg 40 QV:=mk _ _ an b9
def Qc:aN Pg 15 QW:=mk _ _ (ac H4 (ac Qb an)) b9
def vK:aN Pg 44 UJ:=mk _ _ (ac mr an) b9
def DQ:aN Pg 49 QX:=mk _ _ an b9
def uM:aN Pg 43 LH:=mk _ _ (ac vK (ac DQ (ac s8 an))) b9
def S0:aN Pg 42 UH:=mk _ _ an b9
def S1:aN Pg 18 UI:=mk _ _ (ac S0 (ac uM (ac vK (ac BU (ac aee (ac S7 (ac YG (ac DQ an)))))))) b9
def Qd:aN Pg 217 Q1:=mk _ _ an b9
def S4:aN Pg 218 UN:=mk _ _ an b9
def MU:aN Pg 37 Nl:=mk _ _ (ac BU an) b9
def j_:aN Pg 88 ze:=mk _ _ an b9
def pV:aN Pg 154 w7:=mk _ _ (ac Qd an) b9
def By:aN Pg 85 BE:=mk _ _ (ac j_ (ac pV an)) b9
def y_:aN Pg 155 zo:=mk _ _ (ac mr (ac S4 an)) b9
def Aa:aN Pg 86 AD:=mk _ _ (ac j_ (ac y_ an)) b9
def Bz:aN Pg 87 BF:=mk _ _ (ac j_ an) b9
def Ab:aN Pg 89 AE:=mk _ _ an b9
def yZ:aN Pg 90 zi:=mk _ _ (ac pV an) b9
def z_:aN Pg 38 AC:=mk _ _ (ac By (ac Aa (ac Bz (ac j_ (ac Ab (ac yZ an)))))) b9
def GD:aN Pg 13 UP:=mk _ _ (ac MU (ac z_ an)) b9
def Ki:aN Pg 93 XF:=mk _ _ (ac vK an) b9
def S5:aN Pg 92 UO:=mk _ _ (ac uM (ac Ki an)) b9
def MT:aN Pg 41 Nk:=mk _ _ (ac CR (ac mr (ac S5 (ac Ki an)))) b9
def GF:aN Pg 16 UQ:=mk _ _ (ac GD (ac MT an)) b9
def rS:aN Pg 280 rW:=mk _ _ an b9
def s9:aN Pg 233 te:=mk _ _ (ac rS an) b9
def s_:aN Pg 163 tf:=mk _ _ (ac s9 an) b9
def tS:aN Pg 103 tV:=mk _ _ (ac s_ an) b9
def CL:aN Pg 55 CV:=mk _ _ (ac tS an) b9
def BR:aN Pg 54 M1:=mk _ _ (ac CL an) b9
def MB:aN Pg 56 M0:=mk _ _ (ac BR an) b9
def Sg:aN Pg 20 TZ:=mk _ _ (ac BR (ac MB an)) b9
def Fp:aN Pg 52 FL:=mk _ _ (ac mr an) b9
def S6:aN Pg 102 UT:=mk _ _ (ac Fp an) b9
def Kl:aN Pg 51 LO:=mk _ _ (ac2 3473510 rfl S6 an) b9
def J3:aN Pg 19 Ls:=mk _ _ (ac CR (ac Kl (ac mr an))) b9
def HY:aN Pg 21 Ic:=mk _ _ (ac uM (ac vK an)) b9
def tv3 (t:TypeId):M Ty:=if ay t 39 then Z (.pr .bool (.pr (.st (.st (.st .un))) (.sl aO))) else b9 t
def DM:aN Pg 14 EC:=mk _ _ an tv3
def J4:aN Pg 17 Lt:=mk _ _ (ac GF (ac S1 (ac J3 (ac Sg an)))) b9
def PO:aN Pg 7 Qv:=mk _ _ (ac GD (ac DM (ac Qc (ac GF (ac J4 (ac HY an)))))) b9
abbrev Le0:Y PB:=[ŵ,ŉ]
abbrev Le1:Y PB:=ŝ
abbrev Le2:Y PB:=[Ĉ,Ã,ŵ]
abbrev Le3:Y PB:=[Ã,ŵ]
abbrev Le4:Y PB:=(ŝ++[ų])
abbrev Le5:Y PB:=(ŝ++[ų,ų])
abbrev Le6:Y PV:=[Ö,ċ]
def T7:=ac4 [Õ] [] [Z?] [] (dK [ac0 2 [] [2] [Z?] []]) lE
def M5:=ac4 [Õ,Õ] [] [Z?] [] (dK [ac0 2 [] [4] [Z?] []]) jJ
def T6:=ac4 (Ö::Š) [] [Z?] [] (dK [ac0 18 [30] [3,7,8,9,31] zC [ŵ,ų,ų,ź],ac0 25 [] [6] [Z?] []]) kw
def aj6:=ac4 zB [] [Z?] [] (dK [ac0 2 [] [4] [Z?] []]) vA
def aa7:=ac4 Le6 [] [Z?] [] (dK [ac0 4 [] [4] [Z?] []]) wB
def M4:=ac4 Le6 [] [Z?] [] (dK [ac0 5 [5] [2,3,37] pJ Le1,ac0 16 [5] [2,3,6] tY Le1,ac0 37 [5] [2,3,7] tY Le1,ac0 47 [5,7] [2,3,85] pJ Le1,ac0 57 [5,7] [2,3,8] tY Le1]) oR
def aa8:=ac4 Le6 [] [Z?] [] (dK [ac0 5 [] [2,3,5,6,70] zC Le5,ac0 16 [] [2,3,5,6,7] (ś++[Û,Z!]) Le5,ac0 35 [] [4] [Z?] []]) wC
def T5:=ac4 Le6 [] [Z?] [] (dK [ac0 3 [] [2,3,27] pJ Le1,ac0 13 [] [2,3,5,82] ti Le4,ac0 24 [] [2,3,5,9] sT Le4,ac0 33 [9] [2,3,5,108] ti Le4]) sv
def W4:=ac4 Le6 [] [Z?] [] (dK [ac0 13 [] [2,3,40] pJ Le1]) py
def vO:=ac3 [Ö,Å,ã] [Ã] [á] [Ĉ,Ã] (dK [(1,(.a [.qx 2 0])),ac0 2 [1] [2,3] [á,Ô] Le2,(14,(.a [.nil 6 39 (.sl aO)])),ac0 20 [1] [2,3,7] [á,Ô,Z!] Le2,ac0 28 [1,7] [2,3] [á,Ô] Le2,ac0 29 [1,7] [2,3,47] [á,Ô,Z?] Le2,(37,(.a [.nil 6 39 (.sl aO)]))])
def T4:cu:=cn vO zN
def Sc (n:Nat):cu:=cn vO (nH n)
def QE:=ac4 [Ö,Å,Ì] [] [ã] [Ã] (dK [(1,(.a [.nil 2 39 (.sl aO)])),ac0 2 [1] [2,3] [ã,É] Le3,(14,(.a [.nil 6 39 (.sl aO)])),ac0 20 [1] [2,3,7] [ã,É,Z!] Le3,ac0 28 [1,7] [2,3] [ã,É] Le3,ac0 29 [1,7] [2,3,47] [ã,É,Z?] Le3,(37,(.a [.nil 6 39 (.sl aO)]))]) qG
def aez:=ac4 [Ö,ã,ċ] [ŉ] [á] [Ĉ,ŉ] (dK [(1,(.a [.qx 1 0])),(8,(.a [.nil 6 50 F8])),(12,(.a [.nil 6 50 F8]))]) up
def aa9:=ac4 [Ö] [] [.d (.sl F8)] [] (dK [(5,(.a [.nil 3 50 F8])),ac0 10 [4] [1,3,5] zA Le0,ac0 22 [4,5] [1,3,6] zA Le0,ac0 38 [4] [1,3,7] zA Le0,ac0 52 [4,7] [1,3,8,9] [Á,á,ç,Z!] [ŵ,ŉ,Ã],ac0 68 [4] [1,3,10] zA Le0,ac0 80 [4,10] [1,3,11] zA Le0,ac0 96 [4] [1,3,12] zA Le0,ac0 108 [4,12] [1,3,13] zA Le0,ac0 116 [4,12,13] [1,3] [Á,á] Le0,ac0 118 [4,12,13] [1,3,116] [Á,á,Z?] Le0,ac0 126 [4,12,13] [1,3,14] zA Le0,ac0 138 [4,12,13,14] [1,3,15] zA Le0]) wD
def BD:=ac4 [Ö,.d (.int .u16)] [] [ċ,Z?] [] .leaf gT
def W2:cu:=⟨⟨[],[]⟩,⟨[Z?],[]⟩,mW⟩
def tW:=ac4 [ô,.d (.int .u16)] [] [Z?] [] (dK [ac0 20 [1,6,7] [5,8] sS VF,ac0 55 [] [4] [Z?] []]) fk
open Go.Shelf
def rnI:Ren:=⟨λk=>if ay k 217 then 259 else 293,λt=>t,λg=>g⟩
def Ys:Lays.n217 Pg rnI:=⟨by kernel_rfl,by kernel_rfl,by kernel_rfl,by kernel_rfl,Tryz.isAgg3,Tryz.sizeOf3,Tryz.zeroValue3,by kernel_rfl,Tryz.isAgg5,Tryz.sizeOf5,Tryz.zeroValue5,by kernel_rfl,Tryz.isAgg9,Tryz.sizeOf9,Tryz.zeroValue9⟩
def IX:uY:=λf args h nx=>match ay f 259 with
 |true=>(match args with
  |[.f (.raw (.string s)),.f (.raw (.int .u8 c))]=>Z ⟨raw (.int .i64 (Lib.indexByte s.data.toList c.toNat.toUInt8)),h,nx,0⟩
  |_=>U)
 |false=>U
def atg:yn Pg IX:=λf args h nx r q=>by
 unfold IX at q;split at q
 .rename_i hf;have hf:=au hf;subst hf;split at q
  .rename_i s c;cases q;refine ⟨⟨_,Ys.f217,rfl,by kernel_rfl⟩,λ_ _=>rfl,λi hi=>by simp at hi,bL _,λφ E w vs hrep hrel _=>?_⟩
   match vs,hrel with
   |[u,v],⟨h1,z,_⟩=>
    rw[dL h1,dL z];refine (Any.stringslite_IndexByte Ys s c w).mono ?_;rintro e w' ⟨rfl,rfl⟩;exact⟨_,φ,rfl,gR.refl _ _ _,hrep,.f (.raw _),λ_ _ h=>.inl h⟩
  .cases q
 .cases q
def awk:acu (yO Pg) IX inert 1000 50 5 [] PT.leaf 0=Z ⟨raw (.bool J),.leaf,0,0⟩:=by kernel_rfl
def Wi:aN Pg 5 W2:=(P' (T:=.bool) (v:=J) (Cz an0 (λ_ _ h=>LA h) atg J2 _ _ _ _ _ _ awk) mW (λ_ y h=>by cases h;rfl)).toC rfl
def Gt:aN Pg 36 T7:=mk _ _ an b9
def BS:aN Pg 216 M5:=mk _ _ (ac Gt an) b9
def zX:aN Pg 84 T6:=mk _ _ (ac wR (ac zY an)) b9
def YB:aN Pg 149 aj6:=mk _ _ an b9
def ZT:aN Pg 150 aa7:=mk _ _ (ac BS an) b9
def MF:aN Pg 148 M4:=mk _ _ (ac zX (ac YB an)) b9
def ZU:aN Pg 151 aa8:=mk _ _ (ac zY an) b9
def Sk:aN Pg 152 T5:=mk _ _ (ac zY (ac BS an)) b9
def CO:aN Pg 82 W4:=mk _ _ (ac MF (ac YB (ac ZT (ac ZU (ac Sk an))))) b9
def DW:∀n:Nat,aN Pg 35 (Sc n)
 |0=>Ff vO
 |n+1=>mk vO (sJ (nH n)) (ac (DW n) (ac CO (ac wR (ac zX an)))) b9
def Sj:aN Pg 35 T4:=(DW fI)
def PW:aN Pg 35 QE:=mk _ _ (ac Sj (ac CO (ac wR (ac zX an)))) b9
def ae7:aN Pg 34 aez:=mk _ _ (ac CO an) b9
def ZV:aN Pg 12 aa9:=mk _ _ (ac ae7 (ac Gt (ac2 3997696035 rfl PW an))) b9
def Bx:aN Pg 6 BD:=mk _ _ (ac ZV an) b9
def hinterleavetop_SearchEnough:aN Pg 3 tW:=mk _ _ (ac CM (ac Wi (ac Bx (ac PO an)))) b9
variable {P:Program} {f:FuncId} {N:Y AV} {w:World} {A:ξ}
def run_law {pre:Tm} {m:pre.ty.den->M (Tm.ty ⟨[.d .bool],[]⟩).den} (sp:pa P f ⟨pre,⟨[.d .bool],[]⟩,m⟩) (h0:l! pre.bs=0) {x:pre.ty.den} (hx:m x=Z J) {vs:Y TV} {hp:a_} (hi:BQ pre x=Z (vs,hp)) (hla:cN hp vs=Z N)
 (hg:∀g cells,G g=Z cells->lX (λ_=>False) w (.H cells 0) (.pointer (Z ⟨g,0,U⟩))) (hrel:ik (λ_=>U) (λ_=>False) w N A):
 Calls P f A.toArray w λe w'=>e= .returned (.bool J)/\Below w.heap.size w w':=by
 let⟨z,I⟩:=wP hi;let⟨F,y⟩:=wP (t:=⟨[.d .bool],[]⟩) (x:=J) (vs:=[.f .bool J]) (h1:=PT.leaf) rfl;have D:erHF hp=λ_=>U:=by
  funext n;cases hb:erHF hp n with
  |none=>rfl
  |some b=>
   let⟨c,h1,_⟩:=gV hb;have:=I.lt_len h1;omega
 have own0:∀(φ:PM) k,¬own φ (erHF hp) k:=by rintro φ k ⟨i,b,h1,_⟩;rw[D]at h1;cases h1
 have htot:tot (λ_=>False) (λ_=>U) (erHF hp)=λ_=>False:=by
  funext k;exact propext ⟨λh=>h.elim id λh=>bO h (own0 _ k),λh=>h.elim⟩
 refine Calls.mono (sp.calls x J hx vs hp z _ PT.leaf F N _ I y hla rfl (λ_=>U) (λ_=>False) w A ⟨(λi j b b' k h1=>by rw[D]at h1;cases h1),(λi b h1=>by rw[D]at h1;cases h1),(λk h=>h.elim),(λg cells h=>by rw[htot];exact hg g cells h)⟩ (by rw[htot];exact hrel) (λn k h=>by cases h)) ?_;rintro en w' ⟨v,φ',rfl,he,_,_,_,q⟩;refine ⟨?_,⟨he.os,he.tape,he.output,he.size,λk hk=>he.jg k hk (own0 _ k)⟩⟩;have q:cm φ' _ w' (.f (.raw (.bool J))) v:=q;cases q with
 |f h=>cases h;rfl
def gKw:Tryz.prog.globalNamed "interleave/token.keywords" =Z 1:=by kernel_rfl
def tKw:(Tryz.prog.globals[1]?).map (·.type)=Z 368:=by kernel_rfl
def kw_of_laid (h:laidMetH Tryz.prog [("interleave/token.keywords",Rows.laid_interleave_token_keywords)] w):∀g cells,G g=Z cells→lX (λ_=>False) w (.H cells 0) (.pointer (Z ⟨g,0,U⟩)):=by
 intro g cells F;unfold G at F;split at F
 .rename_i hg;have hg:=eq_of_beq hg;subst hg;cases F;rw[MakeChecks.laidMetH_plain _ _ _ (by kernel_rfl)]at h;let⟨ps,⟨g0,t0,cs0,f0,p0,q0,D,N,I,hd0,_,_⟩,_,_⟩:=h;obtain rfl:=eW (gKw.symm.trans D);obtain rfl:=eW (tKw.symm.trans N);obtain⟨xs,m1,rfl,z,hlen,hn,hel⟩:=DataW.trod_array Tryz.underlying368 hd0;have c1:Tryz.prog.cellsOf 9=1:=by kernel_rfl
  have c22:Tryz.prog.cellsOf 368=22:=by kernel_rfl
  rw[c22]at hlen;simp only[aU,Rows.laid_interleave_token_keywords,DataW.agg.injEq]at z;have hxs:=z.1;have hcell:∀j,j<22→∃l,(xs.map (·.1))[j]? =Z (.lit (.string l))∧w.cell? ⟨1,j,U⟩=Z (.string ⟨l.toArray⟩):=λj A=>by
   have h1:=hel j A;rw[c1,yQ]at h1;rw[aH (by omega)]at h1;let⟨s,e1,e2,_⟩:=DataW.trod_string Tryz.underlying9 h1;refine ⟨s.data.toList,?_,?_⟩
   .rw[bM,aH (by omega),bw,e2]
   .have:=World.var?_cell D I j;rw[this];have c:cs0.toList[j]? =Z (.string s):=by
     have:((cs0.toList.drop j).take 1)[0]? =Z (.string s):=by rw[e1];rfl
     rw[dM,aR (by omega),iX]at this;simpa using this
    rw[← c8,c]
  have hb:1<w.heap.size:=by
   let⟨l,_,c⟩:=hcell 0 (by omega);exact World.block_lt_of_cell? w _ c
  refine .H DC 0 1 0 (λj=>(w.cell? ⟨1,j,U⟩).getD undef) (λh=>h) hb (λx q=>?_) (λj A=>?_) (λj x q=>?_)
  .simp only[DC,bB,cO,gx]at q;rcases q with rfl|rfl|rfl|rfl|rfl|rfl|rfl|rfl|rfl|rfl|rfl|rfl|rfl|rfl|rfl|rfl|rfl|rfl|rfl|rfl|rfl|rfl<;>rfl
  .obtain⟨l,_,c⟩:=hcell j A;rw[b6,c];rfl
  .have A:j<22:=(bm.1 q).1;let⟨l,h1,c⟩:=hcell j A;rw[← hxs]at h1;have:x= .raw (.string ⟨l.toArray⟩):=by
    rcases j with _|_|_|_|_|_|_|_|_|_|_|_|_|_|_|_|_|_|_|_|_|_|j;all_goals first|(simp only[gJ,yT,af,DataW.lit.injEq,Lit.string.injEq,DC]at h1 q;subst h1 q;rfl)|omega
   rw[this,c];exact .raw _
 .cases F
end
end Go.Proofs.YtlmflgjjamepmaaGreatDoor.AI
