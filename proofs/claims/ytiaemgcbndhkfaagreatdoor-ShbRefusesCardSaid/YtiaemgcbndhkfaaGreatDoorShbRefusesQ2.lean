/-
  Texts of the proof, part 3 of 6: what is used to prove the statement. No condition.
-/
import Derived.Test.YtiaemgcbndhkfaaGreatDoorShbRefusesQ1
import Derived.WalkSpells
import Derived.Laws.CopyRow
import Derived.Deep.AppendSrc
import Derived.Laws.AppendOwn
namespace Go.Proofs.YtiaemgcbndhkfaaGreatDoor.AI
open Go.RowKit
set_option maxRecDepth 100000
set_option maxHeartbeats 4000000
set_option linter.unusedVariables false
set_option linter.unusedSimpArgs false
open _root_.Array renaming range→xL
open _root_.Bool renaming true→M,false→aa,and_false→uc,eq_iff_iff→ED
open Call renaming operands→dO
open _root_.Int renaming ofNat_eq_natCast→aj,reduceEq→aN,toNat→aP,reduceNeg→aS,ofNat→aU,tmod→bp,toNat_natCast→cO,le_trans→eX,max_le→xd
open _root_.Int.ofNat renaming inj→sk
open IntKind renaming wrap→oQ
open _root_.List renaming length→ah,replicate→aA,length_cons→cf,take→cM,length_singleton→cS,toArray→eT,range→fm,length_nil→jX,replicate_succ→pU,getElem_of_mem→ve,foldl_cons→EB
open _root_.Nat renaming beq→aw,add_zero→dh,blt→eS
open Oper renaming wp→G0
open _root_.Option renaming some→Z,none→U,bind_some→aD,map_some→bU,getD_some→uo
open _root_.Prod renaming p2→aV,p3→ba,p4→bk,q3→bn,p5→bO,q5→ci,q4→cC,p6→cU,q6→dx,p7→fM,q7→gI,q8→lB,p8→ry,p10→ub,p9→um,p11→ze,q9→GZ
open Result renaming andThen_ok→cJ
open Sem renaming run_bind→eA,run→ka,run_pure→oM
open _root_.Sum renaming inl→oL
open Utf8 renaming decode→xJ
open World renaming shape?→rx,cell?→M0
noncomputable section
abbrev DT:Type:=Int×Int×ζ×Int×Int×ζ
abbrev HT:Type:=ζ×Int×Y ζ×Y Sx
abbrev PG:Type:=Y DT×Y HT
structure PX (p:PG):Prop where
 d:p.1.length<=100
 t:p.2.length<=8
 l:∀t∈p.2,t.2.2.1.length<=100
 b:∀t∈p.2,t.2.2.2.length<=100
 s:∀t∈p.2,∀s∈t.2.2.2,GT 5 s
theorem XJ (p:PG) (h:PX p):Ok (rZ p) λ_=>True:=by
 obtain⟨hd,ht,hl,hb,hs⟩:=h;unfold rZ aV bk ci bx bG aY cI aB cu;refine cg p.1.length (λi x=>x.1=(i:Int)/\x.2=p) ?_ ?_ ⟨rfl,rfl⟩
 .rintro i ⟨a,x⟩ hi ⟨e1,e2⟩;dsimp only at e1 e2;subst e1;subst e2;refine aR (λ_=>?_) λg=>(by dsimp only[aj]at g;omega)
  refine aH (by dsimp only;omega) (by dsimp only;omega) (aW ?_);refine ar (Ky _) λ_ _=>?_
  exact cX (λ_=>ai trivial) λ_=>ai ⟨fx (by omega),rfl⟩
 rintro⟨a,x⟩ ⟨e1,e2⟩;dsimp only at e1 e2;subst e1;subst e2;refine aR (λg=>(by dsimp only[aj]at g;omega)) λ_=>?_
 refine ar (P:=λ_=>True) ?_ λ_ _=>ai trivial
 refine cg x.2.length (λi y=>y.1=(i:Int)/\y.2=x) ?_ ?_ ⟨rfl,rfl⟩
 .rintro i ⟨a,x⟩ hi ⟨e1,e2⟩;dsimp only at e1 e2;subst e1;have e2:=e2.symm;subst e2;refine aR (λ_=>?_) λg=>(by dsimp only[aj]at g;omega)
  refine aH (by dsimp only;omega) (by dsimp only;omega) (aW ?_);have hm:=bH (T:=Hx) (xs:=x.2) (j:=(i:Int)) (by omega) (by omega);have h1:=hl _ hm;have h2:=hb _ hm;have s:=hs _ hm;revert h1 h2 s;generalize (aG (T:=Hx) x.2 (i:Int))=t;intro h1 h2 s;refine cg t.2.2.1.length (λk y=>y.1=(k:Int)/\y.2=(x,t)) ?_ ?_ ⟨rfl,rfl⟩
  .rintro k ⟨a,z⟩ hk ⟨q,d⟩;dsimp only at q d;subst q;subst d;refine aR (λ_=>?_) λg=>(by dsimp only[aj]at g;omega)
   refine aH (by dsimp only;omega) (by dsimp only;omega) (aW ?_);refine ar (io _) λ_ _=>?_
   exact cX (λ_=>ai trivial) λ_=>ai ⟨fx (by omega),rfl⟩
  .rintro⟨a,z⟩ ⟨q,d⟩;dsimp only at q d;subst q;subst d;refine aR (λg=>(by dsimp only[aj]at g;omega)) λ_=>?_
   refine ar (P:=λr=>match r with|.inl y=>y.1=((i+1:Nat):Int)/\y.2=x|.inr _=>True) ?_ ?_
   .refine aX (λy=>y.2=x) ?_ ?_
    .refine ar (io _) λ_ _=>cX (λ_=>ai rfl) λ_=>?_
     exact ar (J7 5 (by omega) _ (by dsimp only;omega) s) λ_ _=>ai rfl
    rintro⟨b,y⟩ e;dsimp only at e;subst e;exact aK (λ_=>ai trivial) λ_=>ai ⟨fx (by omega),rfl⟩
   .rintro (y|y) A
    .exact ai A
    .exact ai trivial
 .rintro⟨a,y⟩ ⟨e1,e2⟩;dsimp only at e1 e2;subst e1;subst e2;exact aR (λg=>(by dsimp only[aj]at g;omega)) λ_=>ai trivial
theorem v9 (l:Y DT) (s:ζ) (hl:l.length<=1000):Ok (iF (l,s)) λr=> -1<=r/\r<(l.length:Int):=by
 unfold iF bx bG aY cI aB cu;refine cg l.length (λi x=>x=(i:Int)) ?_ ?_ rfl
 .rintro i x hi rfl;refine aR (λ_=>?_) λg=>(by dsimp only[aj]at g;omega)
  refine aH (by omega) (by dsimp only;omega) (aW ?_);exact aE (λ_=>ai ⟨by omega,by omega⟩) λ_=>ai (fx (by omega))
 .rintro x rfl;exact aR (λg=>(by dsimp only[aj]at g;omega)) λ_=>ai ⟨by omega,by omega⟩
theorem sh (l:Y HT) (s:ζ) (hl:l.length<=1000):Ok (iy (l,s)) λr=> -1<=r/\r<(l.length:Int):=by
 unfold iy bx bG aY cI aB cu;refine cg l.length (λi x=>x=(i:Int)) ?_ ?_ rfl
 .rintro i x hi rfl;refine aR (λ_=>?_) λg=>(by dsimp only[aj]at g;omega)
  refine aH (by omega) (by dsimp only;omega) (aW ?_);exact aE (λ_=>ai ⟨by omega,by omega⟩) λ_=>ai (fx (by omega))
 .rintro x rfl;exact aR (λg=>(by dsimp only[aj]at g;omega)) λ_=>ai ⟨by omega,by omega⟩
def DD (p:PG) (s:ζ):Prop:=∃v,iF (p.1,s)=Z v/\0<=v/\v<(p.1.length:Int)
theorem XV (p:PG) (h:PX p) (t:Int) (s:ζ):Ok (rY (p,t,s)) λk=>k≠0->k≠7->k≠8->DD p s:=by
 have hd:=h.d;have ht:=h.t;unfold rY bf bx jk ir l8 bG aY aB;refine aX (λx=>x.2=p) ?_ ?_
 .refine dX (λA=>aR (λz=>?_) λ_=>ai rfl) λ_=>ai rfl
  dsimp only[aj]at A z;refine aH A z (aW ?_);have hm:=h.l _ (bH (T:=Hx) (xs:=p.2) (j:=t) A z);exact ar (AB _ s (c6 hm (by omega))) λ_ _=>ai rfl
 rintro⟨b,x⟩ e;dsimp only at e;have e:=e.symm;subst e;refine aK (λ_=>ai λ_ _ h=>(h rfl).elim) λ_=>?_
 obtain⟨v,hv,v0,v1⟩:=v9 p.1 s (by omega);refine aQ hv ?_;refine aR (λ_=>?_) λg=>?_
 .exact ar (sh p.2 s (by omega)) λ_ _=>dX (λ_=>ai λ_ h=>(h rfl).elim) λ_=>ai λh=>(h rfl).elim
 have q:DD p s:=⟨v,hv,g,v1⟩
 refine aH g v1 (aW ?_);refine aE (λ_=>?_) λ_=>?_
 .exact aH g v1 (aW (bV (λ_=>ai λ_ _ _=>q) λ_=>ai λ_ _ _=>q))
 refine aE (λ_=>ai λ_ _ _=>q) λ_=>?_
 refine aX (λx=>x.2=p) (aE (λ_=>ai rfl) λ_=>aE (λ_=>ai rfl) λ_=>aE (λ_=>ai rfl) λ_=>ai rfl) ?_;rintro⟨b,x⟩ e;dsimp only at e;have e:=e.symm;subst e;exact aK (λ_=>aH g v1 (aW (ai λ_ _ _=>q))) λ_=>ai λ_ _ _=>q
theorem oS (p:PG) (h:PX p) (t:Int) (s:ζ) (a b:Int):Ok (gQ (p,t,s,a,b)) λr=>r=0->(a≠7/\a≠8)->(b≠7/\b≠8)->DD p s:=by
 unfold gQ aV ba cC bf ir aB;refine ar (XV p h t s) λk hk=>?_
 refine aE (λ_=>ai λh=>(by cases h)) λg=>?_
 refine aX (λx=>x=aa->k=a\/k=b) ?_ ?_
 .refine bV (λ_=>ai λh=>?_) λh=>ai λ_=>.inl h
  simp at h;exact .inr h
 rintro x d;refine aK (λ_=>ai λh=>(by cases h)) λh=>ai λ_ h1 h2=>hk g ?_ ?_
 .rcases d h with h|h<;>omega
 .rcases d h with h|h<;>omega
theorem Ml:∀(n d:Nat) (e:Xp),d<n->GX d e->Ok (pA n e) λ_=>True
 |0,_,_,h,_=>by omega
 |n+1,0,_,_,h=>h.elim
 |n+1,d+1,e,hn,h=>by
  obtain⟨h1,h2⟩:=h;rw[Gm];unfold wD bx bG cI aB cu;refine cg e.l.length (λi x=>x.1.2.2=(i:Int)/\x.2=e) ?_ ?_ ⟨rfl,e_ e⟩
  .rintro i ⟨⟨a,b,c⟩,z⟩ hi ⟨e1,e2⟩;dsimp only at e1 e2;subst e1;subst e2;refine aR (λ_=>?_) λg=>(by dsimp only[aj]at g;omega)
   refine aH (by dsimp only;omega) (by dsimp only;omega) (aW ?_);refine ar (Ml n d _ (by omega) (h2 _ (bH (T:=.ex) (xs:=z.l) (j:=(i:Int)) (by omega) (by omega)))) λ_ _=>ai ?_
   exact⟨fx (by omega),e_ z⟩
  .rintro⟨⟨a,b,c⟩,z⟩ ⟨e1,e2⟩;dsimp only at e1 e2;subst e1;subst e2;exact aR (λg=>(by dsimp only[aj]at g;omega)) λ_=>ai trivial
theorem E9 (p:PG) (hp:PX p) (t:Int):∀(n d:Nat) (e:Xp),d<n->GX d e->Ok (pz n (p,t,e)) λ_=>True
 |0,_,_,h,_=>by omega
 |n+1,0,_,_,h=>h.elim
 |n+1,d+1,e,hn,h=>by
  obtain⟨h1,h2⟩:=h;rw[Gl];unfold wC bf bx bG cI aB cu;refine aX (λx=>x.2.1=p/\x.2.2=e) ?_ ?_
  .refine aE (λ_=>ar (oS p hp t _ _ _) λ_ _=>ai ⟨rfl,e_ e⟩) λ_=>aE (λ_=>ar (oS p hp t _ _ _) λ_ _=>ai ⟨rfl,e_ e⟩) λ_=>ai ⟨rfl,e_ e⟩
  rintro⟨r,z,e'⟩ ⟨s,q⟩;dsimp only at s q;have s:=s.symm;subst s;have q:=q.symm;subst q;refine my (λx=>((e.l.length:Int)-x.1.2).toNat) (λx=>0<=x.1.2/\x.2.1=p/\x.2.2=e) ?_ ⟨gp _,rfl,e_ e⟩;rintro⟨⟨a,(b:Int)⟩,z,e'⟩ ⟨b0,s,q⟩;dsimp only at b0 s q;have s:=s.symm;subst s;have q:=q.symm;subst q;refine aX (λx=>x.2.1=p/\x.2.2=e/\(x.1=M->b<(e.l.length:Int))) ?_ ?_
  .exact aR (λg=>ai ⟨rfl,e_ e,λ_=>g⟩) λ_=>ai ⟨rfl,e_ e,λh=>(by cases h)⟩
  rintro⟨c,z,e'⟩ ⟨s,q,A⟩;dsimp only at s q A;have s:=s.symm;subst s;have q:=q.symm;subst q;refine aK (λhc=>?_) λ_=>ai trivial
  have g:=A hc;refine aH b0 g (aW ?_);refine ar (E9 p hp t n d _ (by omega) (h2 _ (bH (T:=.ex) (xs:=e.l) (j:=b) b0 g))) λ_ _=>ai ?_
  dsimp only;rw[gJ (n:=b+1) (by omega) (by omega)];exact⟨⟨by omega,rfl,e_ e⟩,by omega⟩
theorem v8 (p:PG) (hp:PX p) (t:Int) (e:Xp) (h:GX 4 e):Ok (nI (p,t,e)) λ_=>True:=by
 unfold nI bx aB;have s:GX 4 (d8 (Xp.op e,Xp.n e,Xp.name e,Xp.l e)):=by rw[e_];exact h
 refine ar (f_ _ s) λ_ _=>cX (λ_=>ai trivial) λ_=>?_
 refine ar (Ml fuel 4 _ (by rw[qu];omega) s) λ_ _=>?_
 refine aX (λx=>x.2.1=p/\x.2.2=e) (aR (λ_=>ai ⟨rfl,e_ e⟩) λ_=>ai ⟨rfl,e_ e⟩) ?_;rintro⟨r,z,e'⟩ ⟨q,d⟩;dsimp only at q d;have q:=q.symm;subst q;have d:=d.symm;subst d;exact aK (λ_=>ai trivial) λ_=>ar (E9 p hp t fuel 4 _ (by rw[qu];omega) s) λ_ _=>ai trivial
theorem fg (b:Bool):Ok (dg b) λ_=>True:=by
 unfold dg;exact aK (λ_=>ai trivial) λ_=>ai trivial
theorem tm (x:Γ):Ok (jp x) λr=>r=0->x.1=0/\x.2=0:=by
 unfold jp ir;exact bV (λh=>ai λh2=>(h h2).elim) λh=>ai λh2=>⟨h,h2⟩
abbrev WK:Type:=(Y DT×Y HT×Int)×(Bool×Y Sx)×Y ζ×Y ζ
theorem Wy (a b:Int) (s:ζ) (w:WK) (h:w.2.1.2.length<=100):Ok (ej ((a,b,s),w)) λy=>y.2=w:=by
 unfold ej aV bf bx j7 aY cI aB cu;refine cg w.2.1.2.length (λi x=>x.1=(i:Int)/\x.2=w) ?_ ?_ ⟨rfl,rfl⟩
 .rintro i ⟨c,x⟩ hi ⟨e1,e2⟩;dsimp only at e1 e2;subst e1;have e2:=e2.symm;subst e2;refine aR (λ_=>?_) λg=>(by dsimp only[aj]at g;omega)
  refine aH (by dsimp only;omega) (by dsimp only;omega) (aH (by dsimp only;omega) (by dsimp only;omega) (aW ?_));refine aX (λx=>x.2=w) ?_ ?_
  .refine aE (λ_=>aE (λ_=>ai rfl) λ_=>ai rfl) λ_=>aE (λ_=>aE (λ_=>ai rfl) λ_=>ai rfl) λ_=>ai rfl
  rintro⟨c,x⟩ e;dsimp only at e;have e:=e.symm;subst e;exact aK (λ_=>ai rfl) λ_=>ai ⟨fx (by omega),rfl⟩
 .rintro⟨c,x⟩ ⟨e1,e2⟩;dsimp only at e1 e2;subst e1;have e2:=e2.symm;subst e2;exact aR (λg=>(by dsimp only[aj]at g;omega)) λ_=>ai rfl
theorem D5:∀(n d:Nat) (l:Y Sx),d<n->l.length<=1000->(∀s∈l,GT d s)->Ok (pB n l) λ_=>True
 |0,_,_,h,_,_=>by omega
 |n+1,d,l,hn,hl,h=>by
  rw[Gn];unfold wE bx l8 aY cI aB cu;refine cg l.length (λi x=>x.2=(i:Int)) ?_ ?_ rfl
  .rintro i ⟨a,b⟩ hi e1;dsimp only at e1;subst e1;refine aR (λ_=>?_) λg=>(by dsimp only[aj]at g;omega)
   refine aH (by dsimp only;omega) (by dsimp only;omega) (aW ?_);have hm:=h _ (bH (T:=.sm) (xs:=l) (j:=(i:Int)) (by omega) (by omega));revert hm;generalize (aG (T:=.sm) l (i:Int))=s;intro hm;cases d with
   |zero=>exact hm.elim
   |succ d=>
    obtain⟨_,_,_,D,A,z,q⟩:=hm;refine ar (D5 n d _ (by omega) (by omega) z) λ_ _=>?_
    refine aH (by dsimp only;omega) (by dsimp only;omega) (aW ?_);exact ar (D5 n d _ (by omega) (by omega) q) λ_ _=>ai (fx (by omega))
  .rintro⟨a,b⟩ e1;dsimp only at e1;subst e1;exact aR (λg=>(by dsimp only[aj]at g;omega)) λ_=>ai trivial
theorem TO (l:Y DT) (hl:l.length<=100):Ok (tH l) λ_=>True:=by
 unfold tH aV ba bk bn cC dx bf bx jk ir bo bG aY cI aB cu;refine cg l.length (λi x=>x.2.2.2.2=(i:Int)) ?_ ?_ rfl
 .rintro i ⟨a,b,c,d,e⟩ hi e1;dsimp only at e1;subst e1;refine aR (λ_=>?_) λg=>(by dsimp only[aj]at g;omega)
  refine aX (λ_=>True) ?_ λx _=>ai (fx (by omega))
  refine aH (by dsimp only;omega) (by dsimp only;omega) (aW ?_);have htk:(cM (aP (i:Int)) l).length<=100:=by rw[b7];omega
  refine cK (cY (by dsimp only;omega) (cY (by dsimp only;omega) ?_));refine ar (v9 _ _ (c6 htk (by omega))) λv hv=>?_
  refine dX (λ_=>ai trivial) λ_=>aR (λ_=>ai trivial) λ_=>?_
  refine aX (λ_=>True) ?_ λx _=>?_
  .refine aX (λ_=>True) (aE (λ_=>ai trivial) λ_=>ai trivial) λx _=>aK (λ_=>ai trivial) λ_=>?_
   refine aX (λ_=>True) (aE (λ_=>ai trivial) λ_=>ai trivial) λx _=>aK (λ_=>ai trivial) λ_=>?_
   exact aE (λ_=>ai trivial) λ_=>ai trivial
  refine aX (λ_=>True) (aR (λ_=>ai trivial) λ_=>aR (λ_=>ai trivial) λ_=>aR (λ_=>ai trivial) λ_=>ai trivial) λx _=>aK (λ_=>ai trivial) λ_=>?_
  refine aE (λ_=>?_) λ_=>ai trivial
  refine cK (cY (by dsimp only;omega) (cY (by dsimp only;omega) ?_));refine ar (v9 _ _ (c6 htk (by omega))) λv hv=>?_
  refine aR (λ_=>ai trivial) λg=>?_
  have h2:=hv.2;rw[b7]at h2;exact aH g (by dsimp only at h2 ⊢;omega) (aW (bV (λ_=>ai trivial) λ_=>ai trivial))
 .rintro⟨a,b,c,d,e⟩ e1;dsimp only at e1;subst e1;exact aR (λg=>(by dsimp only[aj]at g;omega)) λ_=>ai trivial
theorem M5 (p:PG) (h:PX p):Ok (qi p) λ_=>True:=by
 have hd:=h.d;have ht:=h.t;unfold qi aV ba bk bx jk bo bG aY cI aB cu;refine cg p.2.length (λi x=>x.1=(i:Int)/\x.2=p) ?_ ?_ ⟨rfl,rfl⟩
 .rintro i ⟨a,x⟩ hi ⟨e1,e2⟩;dsimp only at e1 e2;subst e1;have e2:=e2.symm;subst e2;refine aR (λ_=>?_) λg=>(by dsimp only[aj]at g;omega)
  refine aH (by dsimp only;omega) (by dsimp only;omega) (aW ?_);refine aX (λx=>x.2.1=p) ?_ ?_
  .refine ar (v9 _ _ (by dsimp only;omega)) λv hv=>dX (λ_=>ai rfl) λ_=>?_
   refine cK (cY (by dsimp only;omega) (cY (by dsimp only;omega) ?_));exact ar (sh _ _ (by rw[b7];dsimp only;omega)) λ_ _=>ai rfl
  rintro⟨b,x,z⟩ e;dsimp only at e;have e:=e.symm;subst e;exact aK (λ_=>ai trivial) λ_=>ai ⟨fx (by omega),rfl⟩
 rintro⟨a,x⟩ ⟨e1,e2⟩;dsimp only at e1 e2;subst e1;have e2:=e2.symm;subst e2;refine aR (λg=>(by dsimp only[aj]at g;omega)) λ_=>?_
 refine ar (P:=λ_=>True) ?_ λ_ _=>ai trivial
 refine cg p.2.length (λi x=>x.1=(i:Int)/\x.2=p) ?_ ?_ ⟨rfl,rfl⟩
 .rintro i ⟨a,x⟩ hi ⟨e1,e2⟩;dsimp only at e1 e2;subst e1;have e2:=e2.symm;subst e2;refine aR (λ_=>?_) λg=>(by dsimp only[aj]at g;omega)
  refine aH (by dsimp only;omega) (by dsimp only;omega) (aW ?_);have hm:=h.l _ (bH (T:=Hx) (xs:=p.2) (j:=(i:Int)) (by omega) (by omega));revert hm;generalize (aG (T:=Hx) p.2 (i:Int))=t;intro hm;refine aR (λ_=>ai trivial) λ_=>?_
  refine cg t.2.2.1.length (λk y=>y.1=(k:Int)/\y.2=(p,t)) ?_ ?_ ⟨rfl,rfl⟩
  .rintro k ⟨a,z⟩ hk ⟨s,q⟩;dsimp only at s q;subst s;subst q;refine aR (λ_=>?_) λg=>(by dsimp only[aj]at g;omega)
   refine aH (by dsimp only;omega) (by dsimp only;omega) (aW ?_);refine aX (λx=>x.2=(p,t)) ?_ ?_
   .refine ar (v9 _ _ (by dsimp only;omega)) λv hv=>dX (λ_=>ai rfl) λ_=>?_
    refine ar (sh _ _ (by dsimp only;omega)) λv hv=>dX (λ_=>ai rfl) λ_=>?_
    refine cK (cY (by dsimp only;omega) (cY (by dsimp only;omega) ?_));exact ar (AB _ _ (by rw[b7];dsimp only;omega)) λ_ _=>ai rfl
   rintro⟨b,x⟩ e;dsimp only at e;subst e;exact aK (λ_=>ai trivial) λ_=>ai ⟨fx (by omega),rfl⟩
  .rintro⟨a,z⟩ ⟨s,q⟩;dsimp only at s q;subst s;subst q;exact aR (λg=>(by dsimp only[aj]at g;omega)) λ_=>ai ⟨fx (by omega),rfl⟩
 .rintro⟨a,x⟩ ⟨e1,e2⟩;dsimp only at e1 e2;subst e1;have e2:=e2.symm;subst e2;exact aR (λg=>(by dsimp only[aj]at g;omega)) λ_=>ai trivial
structure WQ (w:WK) (y:Int×WK):Prop where
 p:y.2.1=w.1
 a:y.2.2.1=w.2.1
 s:y.2.2.2.1.length<=w.2.2.1.length+1
 t:y.2.2.2.2.length<=w.2.2.2.length+1
theorem WQ.same (w:WK) (e:Int):WQ w (e,w):=⟨rfl,rfl,Nat.le_succ _,Nat.le_succ _⟩
theorem aff (s:Sx) (D:Y DT) (T:Y HT) (t:Int) (A:Bool×Y Sx) (sp se:Y ζ) (hp:PX (D,T)) (hA:A.2.length<=100) (h1:sp.length<=100000000) (h2:se.length<=100000000) (z:∀e∈s.index,GX 4 e) (he:GX 4 s.expr):Ok (oy (s,((D,T,t),A,sp,se))) (WQ ((D,T,t),A,sp,se)):=by
 have hex:GX 4 (d8 (Xp.op s.expr,Xp.n s.expr,Xp.name s.expr,Xp.l s.expr)):=by rw[e_];exact he
 have hin:∀(a b:Int) (n:ζ),Ok (ej ((a,b,n),((D,T,t),A,sp,se))) λy=>y.2=((D,T,t),A,sp,se):=λa b n=>Wy a b n _ hA
 have hth:T.length<=1000:=by have:=hp.t;dsimp only at this;omega
 have hdl:D.length<=1000:=by have:=hp.d;dsimp only at this;omega
 have sm:∀e,WQ ((D,T,t),A,sp,se) (e,((D,T,t),A,sp,se)):=WQ.same _;unfold oy aV ba bk bO bn cC ci dx bf jk ir bo bG aB dW;refine ar (hin _ _ _) λy q=>?_
 obtain⟨b1,F⟩:=y;dsimp only at q;subst q;refine a8 (by simp) ?_;refine ar (hin _ _ _) λy q=>?_
 obtain⟨b2,F⟩:=y;dsimp only at q;subst q;refine a8 (by simp) ?_;refine ar (hin _ _ _) λy q=>?_
 obtain⟨L,F⟩:=y;dsimp only at q;subst q;refine a8 (by simp) ?_;refine aE (λ_=>?_) λ_=>?_
 .refine aE (λ_=>?_) λg=>?_
  .exact ar (oS _ hp _ _ _ _) λ_ _=>ar (v8 _ hp _ _ hex) λ_ _=>ar (tm _) λ_ _=>ai (sm _)
  .refine ar (oS _ hp _ _ _ _) λ_ _=>?_
   dsimp only[aj]at g;refine aH (by omega) (by dsimp only;omega) (aW ?_);refine ar (v8 _ hp _ _ (z _ (bH (T:=.ex) (xs:=s.index) (j:=0) (by omega) (by omega)))) λ_ _=>?_
   exact ar (v8 _ hp _ _ hex) λ_ _=>ar (tm _) λ_ _=>ar (tm _) λ_ _=>ai (sm _)
 refine aX (λx=>x.2=((D,T,t),A,s,(D,T),sp,se)) (aE (λ_=>ai (by dsimp only;rw[xN])) λ_=>ai (by dsimp only;rw[xN])) ?_;rintro⟨b,x⟩ e;dsimp only at e;subst e;refine aK (λ_=>ar (v8 _ hp _ _ hex) λ_ _=>ai (sm _)) λ_=>?_
 refine aE (λ_=>?_) λ_=>?_
 .refine aX (λx=>WQ ((D,T,t),A,sp,se) x) ?_ λx z=>ai z
  refine ar (oS _ hp _ _ _ _) λ_ _=>aK (λ_=>?_) λ_=>?_
  .exact ar (fg _) λ_ _=>ar (tm _) λ_ _=>ai (sm _)
  .refine ar (hin _ _ _) λy q=>?_
   obtain⟨I,F⟩:=y;dsimp only at q;subst q;exact a8 (by simp) (ar (fg _) λ_ _=>ar (tm _) λ_ _=>ai (sm _))
 refine aX (λx=>x.2=((D,T,t),A,s,(D,T),sp,se)) (aE (λ_=>ai (by dsimp only;rw[xN])) λ_=>ai (by dsimp only;rw[xN])) ?_;rintro⟨b,x⟩ e;dsimp only at e;subst e;refine aK (λ_=>?_) λ_=>?_
 .refine aX (λx=>WQ ((D,T,t),A,sp,se) x) ?_ λx z=>ai z
  refine ar (oS _ hp _ _ _ _) λ_ _=>aK (λ_=>?_) λ_=>?_
  .exact ar (fg _) λ_ _=>ar (tm _) λ_ _=>ai (sm _)
  .refine ar (hin _ _ _) λy q=>?_
   obtain⟨I,F⟩:=y;dsimp only at q;subst q;exact a8 (by simp) (ar (fg _) λ_ _=>ar (tm _) λ_ _=>ai (sm _))
 refine aE (λ_=>ar (fg _) λ_ _=>ai (sm _)) λ_=>?_
 refine aE (λ_=>?_) λ_=>?_
 .refine aX (λx=>WQ ((D,T,t),A,sp,se) x) ?_ λx z=>ai z
  exact aK (λ_=>ar (fg _) λ_ _=>ai (sm _)) λ_=>ar (fg _) λ_ _=>ai (sm _)
 refine aX (λx=>x.2=((D,T,t),A,s,(D,T),sp,se)) (aE (λ_=>ai (by dsimp only;rw[xN])) λ_=>aE (λ_=>ai (by dsimp only;rw[xN])) λ_=>ai (by dsimp only;rw[xN])) ?_;rintro⟨b,x⟩ e;dsimp only at e;subst e;refine aK (λ_=>?_) λ_=>?_
 .refine ar (oS _ hp _ _ _ _) λr hr=>bV (λ_=>ai (sm _)) λg=>?_
  obtain⟨v,hv,v0,v1⟩:=hr g (by omega) (by omega);refine aQ hv (aH v0 v1 (aW ?_));refine ar (hin _ _ _) λy q=>?_
  obtain⟨I,F⟩:=y;dsimp only at q;subst q;refine a8 (by simp) ?_;refine aX (λx=>WQ ((D,T,t),A,sp,se) x) ?_ λx z=>ai z
  refine aK (λ_=>ar (fg _) λ_ _=>ai (sm _)) λ_=>cX (λ_=>ar (fg _) λ_ _=>ai (sm _)) λ_=>?_
  exact aE (λ_=>ar (fg _) λ_ _=>ai (sm _)) λ_=>ar (fg _) λ_ _=>ai (sm _)
 refine aE (λ_=>?_) λ_=>?_
 .refine ar (oS _ hp _ _ _ _) λr hr=>bV (λ_=>ai (sm _)) λg=>?_
  refine ar (sh T _ hth) λv hv=>?_
  refine aX (λx=>x.2=((D,T,t),A,s,sp,se)) ?_ ?_
  .refine aK (λ_=>ai (by dsimp only;rw[xN])) λ_=>aK (λ_=>ai (by dsimp only;rw[xN])) λ_=>aK (λ_=>ai (by dsimp only;rw[xN])) λ_=>aE (λ_=>ai (by dsimp only;rw[xN])) λ_=>ai (by dsimp only;rw[xN])
  rintro⟨b,x⟩ e;dsimp only at e;subst e;refine aK (λ_=>ai (sm _)) λ_=>?_
  refine ar (AB sp _ (by omega)) λ_ _=>dX (λ_=>ai (sm _)) λ_=>?_
  exact aZ (by simp;omega) (by omega) (ai ⟨rfl,rfl,by simp,Nat.le_succ _⟩)
 refine aE (λ_=>?_) λ_=>?_
 .refine aX (λx=>WQ ((D,T,t),A,sp,se) x) ?_ λx z=>ai z
  refine ar (oS _ hp _ _ _ _) λr hr=>?_
  refine aK (λ_=>ar (fg _) λ_ _=>ar (tm _) λ_ _=>ai (sm _)) λ_=>?_
  refine aK (λ_=>ar (fg _) λ_ _=>ar (tm _) λ_ _=>ai (sm _)) λ_=>?_
  exact ar (sh T _ hth) λv hv=>ar (fg _) λ_ _=>ar (tm _) λ_ _=>ai (sm _)
 refine aE (λ_=>?_) λ_=>?_
 .refine aX (λx=>x.2=((D,T,t),A,s,(D,T),sp,se)) ?_ ?_
  .refine ar (oS _ hp _ _ _ _) λr hr=>?_
   exact aK (λ_=>ar (fg _) λ_ _=>ar (tm _) λ_ _=>ai (by dsimp only;rw[xN])) λ_=>ar (fg _) λ_ _=>ar (tm _) λ_ _=>ai (by dsimp only;rw[xN])
  rintro⟨b,x⟩ e;dsimp only at e;subst e;refine aX (λx=>x.2=((D,T,t),A,s,(D,T),sp,se)) ?_ ?_
  .refine aX (λx=>x.2=((D,T,t),A,s,(D,T),sp,se)) ?_ ?_
   .exact aE (λ_=>ar (AB se _ (by omega)) λ_ _=>ai (by dsimp only;rw[xN])) λ_=>ai (by dsimp only;rw[xN])
   rintro⟨b,x⟩ e;dsimp only at e;subst e;exact aK (λ_=>ai (by dsimp only;rw[xN])) λ_=>ai (by dsimp only;rw[xN])
  rintro⟨b,x⟩ e;dsimp only at e;subst e;refine aZ (by simp;omega) (by omega) ?_;exact ar (v8 _ hp _ _ hex) λ_ _=>ar (tm _) λ_ _=>ai ⟨rfl,rfl,Nat.le_succ _,by simp⟩
 exact ar (oS _ hp _ _ _ _) λ_ _=>ar (oS _ hp _ _ _ _) λ_ _=>ar (fg _) λ_ _=>ar (tm _) λ_ _=>ar (tm _) λ_ _=>ai (sm _)
def KS:Nat->Nat
 |0=>0
 |d+1=>1+16*KS d
abbrev RA4:Type:=(Y Sx×WK)->J (Γ×WK)
structure QA (l:List Sx) (d:Nat) (w:WK) (y:Γ×WK):Prop where
 p:y.2.1=w.1
 a:y.2.2.1.2.length=w.2.1.2.length
 s:y.2.2.2.1.length<=w.2.2.1.length+l.length*KS d
 t:y.2.2.2.2.length<=w.2.2.2.length+l.length*KS d
def SpA (rr:RA4) (d:Nat):Prop:=∀(l:Y Sx) (w:WK),l.length<=100->(∀s∈l,GT d s)->PX (w.1.1,w.1.2.1)->w.2.1.2.length+d<=50->w.2.2.1.length+l.length*KS d<=100000000->w.2.2.2.length+l.length*KS d<=100000000->Ok (rr (l,w)) (QA l d w)
theorem ack (rr:RA4) (d:Nat) (hr:∀d',d=d'+1->SpA rr d'):SpA (rK rr) d:=by
 rintro l ⟨⟨D,T,t⟩,A,sp,se⟩ hl hg hp hA h1 h2;dsimp only at hp hA h1 h2;have hK:∀i:Nat,i<=l.length->i*KS d<=l.length*KS d:=λi hi=>cz _ hi
 unfold rK aV ba bk bn cC ci ck bf bx ir bo bG aY cI aB cu dW;refine cg l.length (λi x=>x.1=(i:Int)/\x.2.1=(D,T,t)/\x.2.2.1.2.length=A.2.length/\x.2.2.2.1.length<=sp.length+i*KS d/\x.2.2.2.2.length<=se.length+i*KS d) ?_ ?_ ⟨rfl,rfl,rfl,by simp,by simp⟩
 .rintro i ⟨a,P,A',sp',se'⟩ hi ⟨e1,e2,e3,F,z⟩;dsimp only at e1 e2 e3 F z;subst e1;subst e2;have hKi:=hK (i+1) (by omega);have hKs:=iN i (KS d);rw[Nat.succ_eq_add_one]at hKs;refine aR (λ_=>?_) λg=>(by dsimp only[aj]at g;omega)
  refine aH (by dsimp only;omega) (by dsimp only;omega) (aW ?_);have hm:=hg _ (bH (T:=.sm) (xs:=l) (j:=(i:Int)) (by omega) (by omega));revert hm;generalize (aG (T:=.sm) l (i:Int))=s;intro hm;cases d with
  |zero=>exact hm.elim
  |succ d=>
   have hR:=hr d rfl;obtain⟨_,g2,g3,g4,g5,g6,g7⟩:=hm;have hk:KS (d+1)=1+16*KS d:=rfl;have kb:s.body.length*KS d<=8*KS d:=cz _ g4;have ke:s.els.length*KS d<=8*KS d:=cz _ g5;dsimp only;rw[xN];refine ar (aff s D T t A' sp' se' hp (by omega) (by omega) (by omega) g2 g3) λy q=>?_
   obtain⟨e,P2,A2,sp2,se2⟩:=y;obtain⟨q1,q2,q3,q4⟩:=q;dsimp only at q1 q2 q3 q4;subst q1;subst q2;refine a8 (by simp) ?_;refine aX (λx=>x.2=((D,T,t),s,A2,sp2,se2)) (aR (λ_=>ai rfl) λ_=>ai rfl) ?_;rintro⟨e,x⟩ ex;dsimp only at ex;subst ex;refine bV (λ_=>ai ⟨rfl,e3,by dsimp only;omega,by dsimp only;omega⟩) λ_=>?_
   refine aZ (by simp;omega) (by omega) (aH (by simp) (by simp;omega) (aH (by simp) (by simp;omega) ?_));dsimp only;rw[xN];refine ar (hR s.body ((D,T,t),(A2.1,cj (A2.2++[_]) _ s),sp2,se2) (by omega) g6 hp ?_ ?_ ?_) λy q=>?_
   .dsimp only;rw[cL];simp;omega
   .dsimp only;omega
   .dsimp only;omega
   obtain⟨e6,P6,A6,sp6,se6⟩:=y;obtain⟨q1,q2,q5,q6⟩:=q;dsimp only at q1 q2 q5 q6;subst q1;rw[cL,b6,cS]at q2;refine a8 (by simp) ?_;refine aX (λx=>x.2.1=(D,T,t)/\x.2.2.1.2.length=A2.2.length+1/\x.2.2.2.1.length<=sp2.length+16*KS d/\x.2.2.2.2.length<=se2.length+16*KS d) ?_ ?_
   .refine aE (λ_=>?_) λ_=>ai ⟨rfl,q2,by dsimp only;omega,by dsimp only;omega⟩
    refine ar (hR s.els ((D,T,t),A6,sp6,se6) (by omega) g7 hp (by dsimp only;omega) (by dsimp only;omega) (by dsimp only;omega)) λy q=>?_
    obtain⟨e7,P7,A7,sp7,se7⟩:=y;obtain⟨r1,r2,L,I⟩:=q;dsimp only at r1 r2 L I;subst r1;exact a8 (by simp) (ai ⟨rfl,r2.trans q2,by dsimp only;omega,by dsimp only;omega⟩)
   rintro⟨e8,P8,A8,sp8,se8⟩ ⟨r1,r2,L,I⟩;dsimp only at r1 r2 L I;subst r1;have el:a9 .i64 ((aU A8.2.length)-1)=(A2.2.length:Int):=by
    rw[r2,gJ (by simp<;>omega) (by simp<;>omega)];simp<;>omega
   dsimp only;rw[el];have tk:(cM (aP (A2.2.length:Int)) A8.2).length=A2.2.length:=by rw[b7];omega
   refine cK (cY (by omega) (rE (by rw[r2];omega) ?_));refine bV (λ_=>ai ⟨rfl,by dsimp only;omega,by dsimp only;omega,by dsimp only;omega⟩) λ_=>ai ?_
   exact⟨fx (by omega),rfl,by dsimp only;omega,by dsimp only;omega,by dsimp only;omega⟩
 .rintro⟨a,P,A',sp',se'⟩ ⟨e1,e2,e3,F,z⟩;dsimp only at e1 e2 e3 F z;subst e1;subst e2;exact aR (λg=>(by dsimp only[aj]at g;omega)) λ_=>ai ⟨rfl,e3,F,z⟩
theorem Vv:∀(n d:Nat),d<n->SpA (mm n) d
 |0,_,h=>by omega
 |n+1,d,h=>ack (mm n) d λq hd=>Vv n q (by omega)
theorem C8 (p:PG) (h:PX p):Ok (kl p) λ_=>True:=by
 have hd:=h.d;have ht:=h.t;unfold kl aV ba bk bn ci bx ir bo bG aY cI aB cu;refine ar (XJ p h) λ_ _=>cX (λ_=>ai trivial) λ_=>?_
 refine ar (TO p.1 hd) λ_ _=>bV (λ_=>ai trivial) λ_=>aR (λ_=>ai trivial) λ_=>?_
 refine ar (M5 p h) λ_ _=>bV (λ_=>ai trivial) λ_=>?_
 refine cg p.2.length (λi x=>x.1.2=(i:Int)/\x.2=p) ?_ ?_ ⟨rfl,rfl⟩
 .rintro i ⟨⟨c,a⟩,x⟩ hi ⟨e1,e2⟩;dsimp only at e1 e2;subst e1;have e2:=e2.symm;subst e2;refine aR (λ_=>?_) λg=>(by dsimp only[aj]at g;omega)
  refine aH (by dsimp only;omega) (by dsimp only;omega) (aW ?_);have hm:=bH (T:=Hx) (xs:=p.2) (j:=(i:Int)) (by omega) (by omega);have hb:=h.b _ hm;exact ar (D5 fuel 5 _ (by rw[qu];omega) (c6 hb (by omega)) (h.s _ hm)) λ_ _=>ai ⟨fx (by omega),rfl⟩
 rintro⟨⟨c,a⟩,x⟩ ⟨e1,e2⟩;dsimp only at e1 e2;subst e1;have e2:=e2.symm;subst e2;refine aR (λg=>(by dsimp only[aj]at g;omega)) λ_=>?_
 refine ar (P:=λ_=>True) ?_ λ_ _=>ai trivial
 refine aR (λ_=>ai trivial) λ_=>?_
 refine cg p.2.length (λi x=>x.1=(i:Int)/\x.2.1=p/\x.2.2.1.1=p.1/\x.2.2.1.2.1=p.2/\x.2.2.2.1.2.length=0/\x.2.2.2.2.1.length<=i*6990500/\x.2.2.2.2.2.length<=i*6990500) ?_ ?_ ⟨rfl,rfl,rfl,rfl,rfl,by simp,by simp⟩
 .rintro i ⟨a,x,⟨D,T,t⟩,A,sp,se⟩ hi ⟨e1,e2,e3,q,L,I,F⟩;dsimp only at e1 e2 e3 q L I F;subst e1;have e2:=e2.symm;subst e2;subst e3;subst q;refine aR (λ_=>?_) λg=>(by dsimp only[aj]at g;omega)
  refine aH (by dsimp only;omega) (by dsimp only;omega) (aW ?_);have hm:=bH (T:=Hx) (xs:=p.2) (j:=(i:Int)) (by omega) (by omega);have hb:=h.b _ hm;have hs:=h.s _ hm;revert hb hs;dsimp only;generalize (aG (T:=Hx) p.2 (i:Int))=th;intro hb hs;have hk:KS 5=69905:=rfl;have hle:th.2.2.2.length*KS 5<=100*KS 5:=cz _ hb;rw[hk]at hle;refine ar (Vv fuel 5 (by rw[qu];omega) th.2.2.2 ((p.1,p.2,(i:Int)),A,sp,se) hb hs h (by dsimp only;omega) (by dsimp only;rw[hk];omega) (by dsimp only;rw[hk];omega)) λy z=>?_
  obtain⟨e,P2,A2,sp2,se2⟩:=y;obtain⟨q1,q2,q3,q4⟩:=z;dsimp only at q1 q2 q3 q4;subst q1;rw[hk]at q3 q4;refine a8 (by simp) (bV (λ_=>ai trivial) λ_=>ai ?_);exact⟨fx (by omega),rfl,rfl,rfl,by dsimp only;omega,by dsimp only;omega,by dsimp only;omega⟩
 .rintro⟨a,x,P,w⟩ ⟨e1,e2,_⟩;dsimp only at e1 e2;subst e1;have e2:=e2.symm;subst e2;exact aR (λg=>(by dsimp only[aj]at g;omega)) λ_=>ai trivial
def D0:Y DT:=[(1,0,[120],0,0,[]),(1,0,[121],0,1,[]),(2,0,[118],0,0,[]),(1,0,[113],2,0,[]),(3,0,[109],0,0,[]),(3,0,[110],0,0,[]),(4,0,[114],0,0,[]),(5,0,[99],0,0,[109]),(6,0,[102],0,0,[])]
def L0:Y ζ:=[[97],[98]]
structure TM (t:HT):Prop where
 l:t.2.2.1=L0
 b:t.2.2.2.length<=8
 s:∀s∈t.2.2.2,GS 3 s
structure PJ (p:PG):Prop where
 d:p.1=D0
 t:p.2.length<=4
 m:∀t∈p.2,TM t
theorem PJ.x {p:PG} (h:PJ p):PX p:=⟨by rw[h.d];decide,by have:=h.t;omega,λt ht=>by rw[(h.m t ht).l];decide,λt ht=>by have:=(h.m t ht).b;omega,λt ht s hs=>((h.m t ht).s s hs).le (by omega:3<=5) |>.t⟩
theorem QQ:r4 ()=Z D0:=rfl
theorem Pa (op:Int) (n:ζ) (q:4<=op/\op≠14):GS 3 (oD (op,0,n,[],[],d8 (0,0,[],[]),[],[])):=GS.wo q (by simp) λx d=>(by cases d)
theorem FZ (x:η) (hl:x.length<=9223372036854775807) (hx:∀z∈x,0<=z/\z<=255):Ok (oB x) PJ:=by
 unfold oB aV ba bk bO cU fM ry bn dx gI lB GZ bf bx ir bo j7 cI aB cu dW;refine aQ QQ ?_;refine ar (gj 3 (x,0) ⟨hl,hx,by dsimp only;omega,by dsimp only;omega⟩) λy hy=>?_
 obtain⟨n,t0⟩:=y;obtain⟨s0,n0,n1,_⟩:=hy;have n1:=n1 (by decide);dsimp only at s0 n0 n1;have ew:a9 .i64 (2+n)=2+n:=gJ (by omega) (by omega);refine cg (2+n).toNat (λi x=>x.1=(i:Int)/\x.2.2.1=D0/\x.2.2.2.1.length=4/\TP x.2.2.2.2.1/\x.2.2.2.2.2.1.2=[]/\x.2.2.2.2.2.2.length=i/\∀t∈x.2.2.2.2.2.2,TM t) ?_ ?_ ⟨rfl,rfl,rfl,s0.p,rfl,rfl,λt ht=>(by cases ht)⟩
 .rintro i ⟨a,m,D,N,t,h,th⟩ hi ⟨e1,e2,e3,e4,e5,e6,e7⟩;dsimp only at e1 e2 e3 e4 e5 e6 e7;subst e1;subst e2;refine aR (λg=>?_) λg=>(by dsimp only at g;rw[ew]at g;omega)
  refine aH (by dsimp only;omega) (by dsimp only;omega) (aH (by dsimp only;omega) (by dsimp only;omega) (aW ?_));refine aX (λx=>x.2.1=D0/\x.2.2.1.length=4/\TP x.2.2.2.2.1/\x.2.2.2.2.2.1.2=[]/\x.2.2.2.2.2.2.1=th/\x.2.2.2.2.2.2.2.1=L0/\x.2.2.2.2.2.2.2.2.length<=3/\∀s∈x.2.2.2.2.2.2.2.2,GS 3 s) ?_ ?_
  .refine aE (λ_=>?_) λ_=>ai ⟨rfl,e3,e4,e5,rfl,rfl,by simp,λs hs=>(by cases hs)⟩
   refine cg (1+n).toNat (λk x=>x.1=1+(k:Int)/\x.2.2.1=D0/\x.2.2.2.1.length=4/\TP x.2.2.2.2.2.1/\x.2.2.2.2.2.2.1.2=[]/\x.2.2.2.2.2.2.2.1=th/\x.2.2.2.2.2.2.2.2.1=L0/\x.2.2.2.2.2.2.2.2.2.length<=k/\∀s∈x.2.2.2.2.2.2.2.2.2,GS 3 s) ?_ ?_ ⟨rfl,rfl,e3,e4,e5,rfl,rfl,by simp,λs hs=>(by cases hs)⟩
   .rintro k ⟨c,m1,D1,N1,z1,t1,h1,th1,l1,b1⟩ hk ⟨f1,L,q,f4,d,I,F,f8,A⟩;dsimp only at f1 L q f4 d I F f8 A;subst f1;refine aR (λ_=>?_) λg=>(by dsimp only at g;rw[ew]at g;omega)
    refine aH (by dsimp only;omega) (by dsimp only;omega) (aH (by dsimp only;omega) (by dsimp only;omega) (aW ?_));refine aZ (by simp;omega) (by omega) (ai ?_);dsimp only;rw[gJ (n:=1+(k:Int)+1) (by omega) (by omega)];refine ⟨by omega,L,q,f4,d,I,F,by simp;omega,λs hs=>?_⟩;rcases bN.1 hs with hs|hs
    .exact A s hs
    .rw[aJ]at hs;rw[hs];exact Pa 12 _ (by omega)
   .rintro⟨c,m1,D1,N1,z1,t1,h1,th1,l1,b1⟩ ⟨f1,L,q,f4,d,I,F,f8,A⟩;dsimp only at f1 L q f4 d I F f8 A;subst f1;refine aR (λg=>(by dsimp only at g;rw[ew]at g;omega)) λ_=>ai ?_
    exact⟨L,q,f4,d,I,F,by dsimp only;omega,A⟩
  rintro⟨m1,D1,N1,z1,t1,h1,th1,l1,b1⟩ ⟨L,q,f4,d,I,F,f8,A⟩;dsimp only at L q f4 d I F f8 A;subst L;subst I;subst F;refine ar (gj 3 t1 f4) λy hy=>?_
  obtain⟨k2,t2⟩:=y;obtain⟨u1,u2,u3,_⟩:=hy;have u3:=u3 (by decide);dsimp only at u1 u2 u3;dsimp only;rw[gJ (n:=1+k2) (by omega) (by omega)];refine ar (Ws 2 (by omega) (1+k2) m1 t2 h1 (by omega) u1.p (by rw[d];simp)) λy hy=>?_
  obtain⟨m3,t3,h3,l3⟩:=y;obtain⟨w1,w2,w3,w4⟩:=hy;dsimp only at w1 w2 w3 w4;refine a8 (by simp) (aZ (by simp;omega) (by omega) ?_);have hbody:∀s∈b1++l3,GS 3 s:=λs hs=>by
   rcases bN.1 hs with hs|hs
   .exact A s hs
   .exact w2 s hs
  have hlen:(b1++l3).length<=6:=by rw[b6];omega
  refine aX (λx=>x.2.1=D0/\x.2.2.1.length=4/\TP x.2.2.2.2.1/\x.2.2.2.2.2.1.2=[]/\x.2.2.2.2.2.2.1=th1/\x.2.2.2.2.2.2.2.1=L0/\x.2.2.2.2.2.2.2.2.length<=8/\∀s∈x.2.2.2.2.2.2.2.2,GS 3 s) ?_ ?_
  .refine aX (λx=>x.2.2.1=D0/\x.2.2.2.1.length=4/\TP x.2.2.2.2.2.1/\x.2.2.2.2.2.2.1.2=[]/\x.2.2.2.2.2.2.2.1=th1/\x.2.2.2.2.2.2.2.2.1=L0/\x.2.2.2.2.2.2.2.2.2=b1++l3) ?_ ?_
   .refine aE (λ_=>?_) λ_=>ai ⟨rfl,q,w3.p,w4.trans d,rfl,rfl,rfl⟩
    exact ar (gj 3 t3 w3.p) λy hy=>ai ⟨rfl,q,hy.1.p,w4.trans d,rfl,rfl,rfl⟩
   rintro⟨b,m4,D4,N4,z4,t4,h4,th4,l4,b4⟩ ⟨p2,p3,p4,p5,p6,p7,p8⟩;dsimp only at p2 p3 p4 p5 p6 p7 p8;subst p2;subst p6;subst p7;subst p8;refine aK (λ_=>?_) λ_=>ai ⟨rfl,p3,p4,p5,rfl,rfl,by dsimp only;omega,hbody⟩
   refine aH (by omega) (by dsimp only;omega) (aH (by omega) (by dsimp only;omega) (aW ?_));refine aZ (by simp at hlen ⊢;omega) (by omega) (ai ⟨rfl,p3,p4,p5,rfl,rfl,by dsimp only;rw[b6,cS];omega,λs hs=>?_⟩);rcases bN.1 hs with hs|hs
   .exact hbody s hs
   .rw[aJ]at hs;rw[hs];exact Pa 13 _ (by omega)
  rintro⟨m4,D4,N4,z4,t4,h4,th4,l4,b4⟩ ⟨p2,p3,p4,p5,p6,p7,p8,p9⟩;dsimp only at p2 p3 p4 p5 p6 p7 p8 p9;subst p2;subst p6;subst p7;refine aZ (by simp;omega) (by omega) (ai ?_);dsimp only;refine ⟨fx (by omega),rfl,p3,p4,p5,by simp;omega,λt ht=>?_⟩;rcases bN.1 ht with ht|ht
  .exact e7 t ht
  .rw[aJ]at ht;rw[ht];exact⟨rfl,p8,p9⟩
 .rintro⟨a,m,D,N,t,h,th⟩ ⟨e1,e2,e3,e4,e5,e6,e7⟩;dsimp only at e1 e2 e3 e4 e5 e6 e7;subst e1;subst e2;refine aR (λg=>(by dsimp only at g;rw[ew]at g;omega)) λ_=>?_
  have hpm:PJ (D0,th):=⟨rfl,by dsimp only;omega,e7⟩
  refine ar (P:=PJ) ?_ λr hr=>ai hr
  refine ar (C8 (D0,th) hpm.x) λy _=>bV (λ_=>?_) λ_=>ai hpm
  refine aQ QQ (aQ (Np _) (aQ (tf _ _) (ai ?_)));refine ⟨rfl,by simp,λt ht=>?_⟩;simp only[aJ]at ht;rw[ht];refine ⟨rfl,by simp,λs hs=>?_⟩;simp only[aJ]at hs;rw[hs,e_,xZ];exact GS.asg _ (GE.num _ 3)
abbrev GN:Type:=Y (ζ×Int×Int×Bool×Int)×Y (ζ×Bool)×Y (ζ×Int)×Y ζ×Y ζ×Y ν×Y ζ×Int×Int
theorem zp (l:Y (ζ×Bool)) (s:ζ) (hl:l.length<=1000):Ok (ly (l,s)) λ_=>True:=by
 unfold ly bx bG aY cI aB cu;refine cg l.length (λi x=>x=(i:Int)) ?_ ?_ rfl
 .rintro i x hi rfl;refine aR (λ_=>?_) λg=>(by dsimp only[aj]at g;omega)
  refine aH (by omega) (by dsimp only;omega) (aW ?_);exact aE (λ_=>ai trivial) λ_=>ai (fx (by omega))
 .rintro x rfl;exact aR (λg=>(by dsimp only[aj]at g;omega)) λ_=>ai trivial
theorem zH (w:WT) (s:ζ) (hl:w.1.length<=1000):Ok (lz (w,s)) λr=>(∃c∈w.1,c.1=s)->0<=r/\r<(w.1.length:Int):=by
 unfold lz bx bG aY cI aB cu;refine cg w.1.length (λi x=>x.1=(i:Int)/\x.2=w/\∀k:Nat,k<i->(aG (T:=.st (.pr .str (.pr (.int .i64) (.pr (.int .i64) (.pr .bool (.int .i64)))))) w.1 (k:Int)).1≠s) ?_ ?_ ⟨rfl,rfl,λk hk=>by omega⟩
 .rintro i ⟨a,x⟩ hi ⟨e1,e2,e3⟩;dsimp only at e1 e2 e3;subst e1;have e2:=e2.symm;subst e2;refine aR (λ_=>?_) λg=>(by dsimp only[aj]at g;omega)
  refine aH (by dsimp only;omega) (by dsimp only;omega) (aW ?_);refine aE (λ_=>ai λ_=>⟨by dsimp only;omega,by dsimp only;omega⟩) λg=>ai ?_
  refine ⟨fx (by omega),rfl,λk hk=>?_⟩;rcases bM k i with h1|h1
  .exact e3 k h1
  .rw[show k=i by omega];exact g
 .rintro⟨a,x⟩ ⟨e1,e2,e3⟩;dsimp only at e1 e2 e3;subst e1;have e2:=e2.symm;subst e2;refine aR (λg=>(by dsimp only[aj]at g;omega)) λ_=>ai λ⟨c,hc,h⟩=>?_
  exact (il (T:=.st (.pr .str (.pr (.int .i64) (.pr (.int .i64) (.pr .bool (.int .i64)))))) (p:=λc=>c.1≠s) e3 c hc h).elim
theorem uQ (i:IT) (g:GN) (out:Y IT) (h:out.length<=100000000):Ok (cB (i,g,out)) λy=>y.1=g/\y.2.length=out.length+1:=by
 unfold cB aV ba bk fM bo;exact aZ (by simp;omega) (by omega) (ai ⟨rfl,by simp⟩)
def VE:Nat->Nat
 |0=>0
 |d+1=>1+2*VE d
structure GK (g:GN):Prop where
 c:g.1.length<=1000
 q:∃c∈g.1,c.1=[113]
 l:g.2.2.2.2.2.2.1.length<=1000
theorem Mi:∀(n d:Nat),d<n->∀(e:Xp) (k:Int) (g:GN) (out:Y IT),GE d e->GK g->out.length+VE d<=100000000->Ok (iH n ((e,k),g,out)) λy=>y.1=g/\out.length<=y.2.length/\y.2.length<=out.length+VE d
 |0,_,h,_,_,_,_,_,_,_=>by omega
 |n+1,0,_,e,_,_,_,h,_,_=>h.elim
 |n+1,d+1,hn,e,k,g,out,h,hg,hb=>by
  obtain⟨h1,h2,h3,h4⟩:=h;obtain⟨I,gq,gl⟩:=id hg;have hv:VE (d+1)=1+2*VE d:=rfl;rw[zS];unfold qn aV ba bk bO cU bf jk bo bG aB cu;refine aX (λy=>y.1=g/\out.length<=y.2.length/\y.2.length<=out.length+VE (d+1)) ?_ λx hx=>ai hx
  refine aE (λ_=>?_) λn1=>?_
  .refine ar (uQ _ g out (by omega)) λy q=>a8 (by simp) (ai ⟨q.1,by omega,by omega⟩)
  refine aE (λ_=>?_) λn2=>?_
  .refine ar (AB _ _ (by dsimp only;omega)) λv _=>dX (λ_=>?_) λ_=>?_
   .refine ar (uQ _ g out (by omega)) λy q=>a8 (by simp) (ai ⟨q.1,by omega,by omega⟩)
   .refine ar (zH _ _ I) λv _=>?_
    refine ar (uQ _ g out (by omega)) λy q=>a8 (by simp) (ai ⟨q.1,by omega,by omega⟩)
  have hl:=h2 n1 n2;have hrec:∀(j:Nat),j<e.l.length->∀(k':Int) (o:Y IT),o.length+VE d<=100000000->Ok (iH n ((aG (T:=.ex) e.l (j:Int),k'),g,o)) λy=>y.1=g/\o.length<=y.2.length/\y.2.length<=o.length+VE d:=λj hj k' o ho=>Mi n d (by omega) _ k' g o (h4 _ (bH (T:=.ex) (xs:=e.l) (j:=(j:Int)) (by omega) (by omega))) hg ho
  refine aE (λF=>?_) λF=>?_
  .refine aH (by omega) (by dsimp only;omega) (aW ?_);refine ar (hrec 0 hl k out (by omega)) λy q=>?_
   obtain⟨s,o2⟩:=y;obtain⟨q1,q2,q3⟩:=q;dsimp only at q1 q2 q3;subst q1;refine a8 (by simp) ?_;refine ar (zH _ _ I) λv z=>?_
   obtain⟨v0,v1⟩:=z (by dsimp only;rw[h1 F];exact gq);refine aH v0 v1 (aW ?_);refine ar (uQ _ s o2 (by omega)) λy q=>a8 (by simp) (ai ⟨q.1,by omega,by omega⟩)
  refine aE (λD=>?_) λD=>?_
  .refine aH (by omega) (by dsimp only;omega) (aW ?_);refine ar (hrec 0 hl k out (by omega)) λy q=>?_
   obtain⟨s,o2⟩:=y;obtain⟨q1,q2,q3⟩:=q;dsimp only at q1 q2 q3;subst q1;refine a8 (by simp) ?_;refine ar (uQ _ s o2 (by omega)) λy q=>a8 (by simp) (ai ⟨q.1,by omega,by omega⟩)
  .dsimp only[aj]at D;have A:1<e.l.length:=by omega
   refine aH (by omega) (by dsimp only;omega) (aW ?_);refine ar (hrec 0 hl k out (by omega)) λy q=>?_
   obtain⟨s,o2⟩:=y;obtain⟨q1,q2,q3⟩:=q;dsimp only at q1 q2 q3;subst q1;refine a8 (by simp) ?_;refine aH (by omega) (by dsimp only;omega) (aW ?_);refine ar (hrec 1 A _ o2 (by omega)) λy q=>?_
   obtain⟨g3,L⟩:=y;obtain⟨r1,r2,r3⟩:=q;dsimp only at r1 r2 r3;subst r1;refine a8 (by simp) ?_;refine ar (uQ _ g3 L (by omega)) λy q=>a8 (by simp) (ai ⟨q.1,by omega,by omega⟩)
theorem St (e:Xp) (k:Int) (g:GN) (out:Y IT) (he:GE 4 e) (hg:GK g) (h:out.length<=99999900):Ok (iE ((e,k),g,out)) λy=>y.1=g/\out.length<=y.2.length/\y.2.length<=out.length+15:=Mi fuel 4 (by rw[qu];omega) e k g out he hg (by have:VE 4=15:=rfl;omega)
structure GB (g:GN):Prop where
 k:GK g
 l:g.2.1.length<=1000
 d:g.2.2.1.length<=1000
 f:g.2.2.2.1.length<=1000
 t:g.2.2.2.2.1.length<=1000
structure GQ (g y:GN):Prop where
 a:y.1=g.1
 b:y.2.1=g.2.1
 c:y.2.2.1=g.2.2.1
 d:y.2.2.2.1=g.2.2.2.1
 e:y.2.2.2.2.1=g.2.2.2.2.1
 f:y.2.2.2.2.2.1=g.2.2.2.2.2.1
 h:y.2.2.2.2.2.2.1=g.2.2.2.2.2.2.1
theorem GQ.refl (g:GN):GQ g g:=⟨rfl,rfl,rfl,rfl,rfl,rfl,rfl⟩
theorem GQ.trans {a b c:GN} (h:GQ a b) (k:GQ b c):GQ a c:=⟨k.a.trans h.a,k.b.trans h.b,k.c.trans h.c,k.d.trans h.d,k.e.trans h.e,k.f.trans h.f,k.h.trans h.h⟩
theorem GB.of {g y:GN} (h:GB g) (q:GQ g y):GB y:=
 ⟨⟨by rw[q.a];exact h.k.c,by rw[q.a];exact h.k.q,by rw[q.h];exact h.k.l⟩,by rw[q.b];exact h.l,by rw[q.c];exact h.d,by rw[q.d];exact h.f,by rw[q.e];exact h.t⟩
theorem GQ.site (g:GN) (a b:Int):GQ g (g.1,g.2.1,g.2.2.1,g.2.2.2.1,g.2.2.2.2.1,g.2.2.2.2.2.1,g.2.2.2.2.2.2.1,a,b):=⟨rfl,rfl,rfl,rfl,rfl,rfl,rfl⟩
structure QG (n:Nat) (g:GN) (out:List IT) (y:GN×List IT):Prop where
 q:GQ g y.1
 l:out.length<=y.2.length
 u:y.2.length<=out.length+n
theorem uv (i:IT) (g:GN) (out:Y IT) (h:out.length<=100000000):Ok (cB (i,g,out)) (QG 1 g out):=(uQ i g out h).mono λy d=>⟨by rw[d.1];exact GQ.refl g,by omega,by omega⟩
theorem Bz (e:Xp) (k:Int) (g:GN) (out:Y IT) (he:GE 4 e) (hg:GB g) (h:out.length<=99999000):Ok (iE ((e,k),g,out)) (QG 15 g out):=(St e k g out he hg.k (by omega)).mono λy d=>⟨by rw[d.1];exact GQ.refl g,d.2.1,d.2.2⟩
theorem UD (s:Sx) (g:GN) (out:Y IT) (h1:s.index≠[]->s.name=[113]) (h2:∀e∈s.index,GE 4 e) (L:GE 4 s.expr) (hg:GB g) (h:out.length<=99990000):Ok (ma (s,g,out)) (QG 40 g out):=by
 have hex:GE 4 (d8 (Xp.op s.expr,Xp.n s.expr,Xp.name s.expr,Xp.l s.expr)):=by rw[e_];exact L
 unfold ma aV ba bk bO cU bx jk bo bG aY;refine aR (λF=>?_) λ_=>?_
 .dsimp only[aj]at F;refine aH (by omega) (by dsimp only;omega) (aW ?_);refine ar (Bz _ _ g out (h2 _ (bH (T:=.ex) (xs:=s.index) (j:=0) (by omega) (by omega))) hg (by omega)) λy d=>?_
  obtain⟨D,o2⟩:=y;obtain⟨q1,q2,q3⟩:=d;dsimp only at q1 q2 q3;refine a8 (by simp) ?_;refine ar (Bz _ _ D o2 hex (hg.of q1) (by omega)) λy d=>?_
  obtain⟨g3,I⟩:=y;obtain⟨r1,r2,r3⟩:=d;dsimp only at r1 r2 r3;refine a8 (by simp) ?_;have z:=hg.of (q1.trans r1);refine ar (zH _ _ z.k.c) λv hv=>?_
  obtain⟨v0,v1⟩:=hv (by
   have:s.name=[113]:=h1 (λh=>by rw[h]at F;simp at F);dsimp only;rw[this];exact z.k.q)
  refine aH v0 v1 (aW ?_);refine ar (uv _ g3 I (by omega)) λy d=>a8 (by simp) (ai ⟨q1.trans (r1.trans d.q),by have:=d.l;omega,by have:=d.u;omega⟩)
 .refine ar (Bz _ _ g out hex hg (by omega)) λy d=>?_
  obtain⟨D,o2⟩:=y;obtain⟨q1,q2,q3⟩:=d;dsimp only at q1 q2 q3;have A:=hg.of q1;refine a8 (by simp) ?_;refine ar (AB _ _ (c6 A.k.l (by omega))) λv _=>dX (λ_=>?_) λ_=>?_
  .refine ar (uv _ D o2 (by omega)) λy d=>a8 (by simp) (ai ⟨q1.trans d.q,by have:=d.l;omega,by have:=d.u;omega⟩)
  .refine ar (zH _ _ A.k.c) λv _=>?_
   refine ar (uv _ D o2 (by omega)) λy d=>a8 (by simp) (ai ⟨q1.trans d.q,by have:=d.l;omega,by have:=d.u;omega⟩)
theorem ZM (s:ζ) (g:GN) (out:Y IT) (hg:GB g):Ok (ju (s,g,out)) λy=>y.2=(g,out):=by
 have hd:=hg.d;unfold ju aV bx bG aY cI aB cu;refine cg g.2.2.1.length (λi x=>x.1=(i:Int)/\x.2=(g,out)) ?_ ?_ ⟨rfl,rfl⟩
 .rintro i ⟨a,x⟩ hi ⟨e1,e2⟩;dsimp only at e1 e2;subst e1;subst e2;refine aR (λ_=>?_) λg=>(by dsimp only[aj]at g;omega)
  refine aH (by dsimp only;omega) (by dsimp only;omega) (aW ?_);exact aE (λ_=>ai rfl) λ_=>ai ⟨fx (by omega),rfl⟩
 .rintro⟨a,x⟩ ⟨e1,e2⟩;dsimp only at e1 e2;subst e1;subst e2;exact aR (λg=>(by dsimp only[aj]at g;omega)) λ_=>ai rfl
def ME:Nat->Nat
 |0=>0
 |d+1=>50+16*ME d
def SpG (q:Sx×GN×Y IT->J (GN×Y IT)) (d:Nat):Prop:=∀(s:Sx) (g:GN) (out:Y IT),GS d s->GB g->out.length+ME d<=90000000->Ok (q (s,g,out)) (QG (ME d) g out)
def aa8 (rs:Y Sx×GN×Y IT->J (GN×Y IT)) (d:Nat):Prop:=∀(l:Y Sx) (g:GN) (out:Y IT),l.length<=100->(∀s∈l,GS d s)->GB g->out.length+l.length*ME d<=90000000->Ok (rs (l,g,out)) (QG (l.length*ME d) g out)
abbrev FS6:Type:=Y Sx×GN×Y IT->J (GN×Y IT)
abbrev FT6:Type:=Sx×GN×Y IT->J (GN×Y IT)
abbrev FA6:Type:=(Sx×Int×Int×Int)×GN×Y IT->J (GN×Y IT)
def age (q:FT6) (d:Nat):Prop:=∀(s:Sx) (g:GN) (out:Y IT),GE 4 s.expr->s.body.length<=8->s.els.length<=8->(∀x∈s.body,GS d x)->(∀x∈s.els,GS d x)->GB g->out.length+ME (d+1)<=90000000->Ok (q (s,g,out)) (QG (17+16*ME d) g out)
def agf (ra:FA6) (d:Nat):Prop:=∀(s:Sx) (a b c:Int) (g:GN) (out:Y IT),s.body.length<=8->(∀x∈s.body,GS d x)->GB g->out.length+ME (d+1)<=90000000->Ok (ra ((s,a,b,c),g,out)) (QG (17+16*ME d) g out)
theorem QG.trans {a b c:Nat} {g d:GN} {o o2:Y IT} {y:GN×Y IT} (h:GQ g d) (h1:o.length<=o2.length) (h2:o2.length<=o.length+a) (k:QG b d o2 y) (hc:a+b<=c):QG c g o y:=⟨h.trans k.q,by have:=k.l;omega,by have:=k.u;omega⟩
theorem QG.le {a b:Nat} {g:GN} {o:Y IT} {y:GN×Y IT} (k:QG a g o y) (h:a<=b):QG b g o y:=⟨k.q,k.l,by have:=k.u;omega⟩
theorem TI (rs:FS6) (s:FT6) (A:FT6) (ra:FA6) (d:Nat) (ht:SpG s d):aa8 (qo rs s A ra) d:=by
 intro l g out hl hs hg hb;unfold qo bx bo bG aY cI aB cu;refine cg l.length (λi x=>x.1=(i:Int)/\QG (i*ME d) g out x.2) ?_ ?_ ⟨rfl,GQ.refl g,by simp,by simp⟩
 .rintro i ⟨a,z,o2⟩ hi ⟨e1,q1,q2,q3⟩;dsimp only at e1 q1 q2 q3;subst e1;have F:(i+1)*ME d<=l.length*ME d:=cz _ (by omega);have hKs:=iN i (ME d);rw[Nat.succ_eq_add_one]at hKs;refine aR (λ_=>?_) λg=>(by dsimp only[aj]at g;omega)
  refine aH (by dsimp only;omega) (by dsimp only;omega) (aW ?_);refine ar (ht _ z o2 (hs _ (bH (T:=.sm) (xs:=l) (j:=(i:Int)) (by omega) (by omega))) (hg.of q1) (by omega)) λy D=>a8 (by simp) (ai ?_)
  exact⟨fx (by omega),QG.trans q1 q2 q3 D (by omega)⟩
 .rintro⟨a,z,o2⟩ ⟨e1,q⟩;dsimp only at e1;subst e1;exact aR (λg=>(by dsimp only[aj]at g;omega)) λ_=>ai q
theorem Qm (rs:FS6) (z:FT6) (A:FT6) (ra:FA6) (d:Nat) (F:aa8 rs d):agf (oY rs z A ra) d:=by
 intro s a b c g out h1 h2 hg hb;have hm:ME (d+1)=50+16*ME d:=rfl;have kb:s.body.length*ME d<=8*ME d:=cz _ h1;unfold oY aV ba bk bO cU fM bn lB bo;refine ar (uv _ g out (by omega)) λy q=>?_
 obtain⟨L,o2⟩:=y;obtain⟨q1,q2,q3⟩:=q;dsimp only at q1 q2 q3;refine a8 (by simp) ?_;refine ar (F s.body L o2 (by omega) h2 (hg.of q1) (by omega)) λy q=>?_
 obtain⟨I,D⟩:=y;obtain⟨r1,r2,r3⟩:=q;dsimp only at r1 r2 r3;refine a8 (by simp) ?_;refine ar (uv _ _ D (by omega)) λy q=>a8 (by simp) (ai ?_)
 exact QG.trans (a:=1+8*ME d) (q1.trans (r1.trans (GQ.site I _ _))) (by omega) (by omega) q (by omega)
theorem La (rs:FS6) (rt:FT6) (rb:FT6) (ra:FA6) (d:Nat) (hS:aa8 rs d):age (mE rs rt rb ra) d:=by
 intro s g out he h1 h2 h3 h4 hg hb;have hm:ME (d+1)=50+16*ME d:=rfl;have kb:s.body.length*ME d<=8*ME d:=cz _ h1;have ke:s.els.length*ME d<=8*ME d:=cz _ h2;have hex:GE 4 (d8 (Xp.op s.expr,Xp.n s.expr,Xp.name s.expr,Xp.l s.expr)):=by rw[e_];exact he
 unfold mE aV ba bk bO cU fM lB ck bf bo aY;refine ar (Bz _ _ g out hex hg (by omega)) λy q=>?_
 obtain⟨g1,o1⟩:=y;obtain⟨p1,p2,p3⟩:=q;dsimp only at p1 p2 p3;refine a8 (by simp) ?_;refine ar (uQ _ g1 o1 (by omega)) λy q=>?_
 obtain⟨g2,o2⟩:=y;obtain⟨q1,q2⟩:=q;dsimp only at q1 q2;subst q1;refine a8 (by simp) ?_;refine ar (hS s.body g2 o2 (by omega) h3 (hg.of p1) (by omega)) λy q=>?_
 obtain⟨g3,o3⟩:=y;obtain⟨r1,r2,r3⟩:=q;dsimp only at r1 r2 r3;refine a8 (by simp) ?_;have z:=p1.trans (r1.trans (GQ.site g3 g.2.2.2.2.2.2.2.1 g3.2.2.2.2.2.2.2.2));refine aE (λ_=>?_) λ_=>?_
 .refine ar (uQ _ _ o3 (by omega)) λy q=>?_
  obtain⟨A,L⟩:=y;obtain⟨w1,w2⟩:=q;dsimp only at w1 w2;refine a8 (by simp) (aH (ey _) (by dsimp only[aj];omega) (aH (ey _) (by dsimp only[aj];omega) (ai ⟨?_,?_,?_⟩)))
  .dsimp only;rw[w1];exact z
  .dsimp only;rw[cL];omega
  .dsimp only;rw[cL];omega
 refine aE (λ_=>?_) λ_=>?_
 .refine aH (ey _) (by dsimp only[aj];omega) (aH (ey _) (by dsimp only[aj];omega) (ai ⟨z,?_,?_⟩))
  .dsimp only;rw[cL];omega
  .dsimp only;rw[cL];omega
 .refine ar (uQ _ _ o3 (by omega)) λy q=>?_
  obtain⟨A,L⟩:=y;obtain⟨w1,w2⟩:=q;dsimp only at w1 w2;have qs4:GQ g A:=by rw[w1];exact z
  refine a8 (by simp) (aH (ey _) (by dsimp only[aj];omega) (aH (ey _) (by dsimp only[aj];omega) ?_));refine ar (hS s.els A (cj L _ _) (by omega) h4 (hg.of qs4) (by rw[cL];omega)) λy q=>?_
  obtain⟨g5,o5⟩:=y;obtain⟨I,F,D⟩:=q;dsimp only at I F D;rw[cL]at F D;refine a8 (by simp) (aH (ey _) (by dsimp only[aj];omega) (aH (ey _) (by dsimp only[aj];omega) (ai ⟨qs4.trans I,?_,?_⟩)))
  .dsimp only;rw[cL];omega
  .dsimp only;rw[cL];omega
theorem WO (rs:FS6) (rt:FT6) (rb:FT6) (ra:FA6) (d:Nat) (hB:age rb d) (hA:agf ra d):SpG (rJ rs rt rb ra) (d+1):=by
 intro s g out hs hg hb;have hm:ME (d+1)=50+16*ME d:=rfl;obtain⟨i1,i2,i3,I,i5,i6,i7,i8,i9⟩:=hs;have gs:=GQ.site g g.2.2.2.2.2.2.2.2 (a9 .i64 (g.2.2.2.2.2.2.2.2+1));unfold rJ aV ba bk bO cU bn lB bf bo aY aB cu dW;refine aX (λx=>QG (ME (d+1)) g out x) ?_ λx hx=>ai hx
 dsimp only;revert gs;generalize ((g.1,g.2.1,g.2.2.1,g.2.2.2.1,g.2.2.2.2.1,g.2.2.2.2.2.1,g.2.2.2.2.2.2.1,g.2.2.2.2.2.2.2.2,a9 .i64 (g.2.2.2.2.2.2.2.2+1)):GN)=A;intro gs;have z:=hg.of gs;have fin:∀(n:Nat) (y:GN×Y IT),QG n A out y->n<=ME (d+1)->QG (ME (d+1)) g out y:=λn y q hn=>QG.trans (a:=0) gs (cF _) (by omega) q (by omega)
 refine aE (λF=>?_) λ_=>?_
 .refine ar (UD (oD _) A out ?_ ?_ ?_ z (by omega)) λy q=>a8 (by simp) (ai (fin _ _ q (by omega)))
  .rw[xN];exact i1
  .rw[xN];exact i3
  .rw[xN];exact I (.inl F)
 refine aX (λx=>x.2=(A,s,out)/\(x.1=M->s.op=2\/s.op=3)) ?_ ?_
 .exact aE (λh=>ai ⟨by dsimp only;rw[xN],λ_=>.inl h⟩) λ_=>ai ⟨by dsimp only;rw[xN],λh=>.inr (bg h)⟩
 rintro⟨b,x⟩ ⟨e,D⟩;dsimp only at e D;subst e;refine aK (λL=>?_) λ_=>?_
 .dsimp only;rw[xN];refine ar (hB s A out (I (by rcases D L with h|h;exact .inr (.inl h);exact .inr (.inr (.inl h)))) i6 i7 i8 i9 z hb) λy q=>a8 (by simp) (ai (fin _ _ q (by omega)))
 have har:∀(a b c:Int),Ok (ra ((s,a,b,c),A,out)) (QG (17+16*ME d) A out):=λa b c=>hA s a b c A out i6 i8 z hb
 have hput:∀(i:IT),Ok (cB (i,A,out)) (QG 1 A out):=λi=>uv i A out (by omega)
 have hat:∀(l:Y ζ) (n:ζ),l.length<=1000->Ok (jU (l,n)) λ_=>True:=λl n h=>(AB l n (by omega)).mono λ_ _=>trivial
 dsimp only;rw[xN];refine aE (λ_=>ar (zp _ _ z.l) λ_ _=>ar (har _ _ _) λy q=>a8 (by simp) (ai (fin _ _ q (by omega)))) λ_=>?_
 refine aE (λ_=>ar (zp _ _ z.l) λ_ _=>ar (har _ _ _) λy q=>a8 (by simp) (ai (fin _ _ q (by omega)))) λ_=>?_
 refine aE (λ_=>ar (zp _ _ z.l) λ_ _=>ar (har _ _ _) λy q=>a8 (by simp) (ai (fin _ _ q (by omega)))) λ_=>?_
 refine aE (λ_=>ar (har _ _ _) λy q=>a8 (by simp) (ai (fin _ _ q (by omega)))) λ_=>?_
 refine aE (λ_=>ar (har _ _ _) λy q=>a8 (by simp) (ai (fin _ _ q (by omega)))) λ_=>?_
 have hcond:∀(n:ζ),Ok (ju (n,A,out)) λy=>y.2=(A,out):=λn=>ZM n A out z
 refine aE (λ_=>ar (hcond _) λy q=>?_) λ_=>?_
 .obtain⟨v,y2⟩:=y;dsimp only at q;subst q;exact a8 (by simp) (ar (hput _) λy q=>a8 (by simp) (ai (fin _ _ q (by omega))))
 refine aE (λ_=>ar (hcond _) λy q=>?_) λ_=>?_
 .obtain⟨v,y2⟩:=y;dsimp only at q;subst q;exact a8 (by simp) (ar (hput _) λy q=>a8 (by simp) (ai (fin _ _ q (by omega))))
 refine aE (λ_=>ar (hcond _) λy q=>?_) λ_=>?_
 .obtain⟨v,y2⟩:=y;dsimp only at q;subst q;exact a8 (by simp) (ar (hput _) λy q=>a8 (by simp) (ai (fin _ _ q (by omega))))
 refine aE (λ_=>ar (hat _ _ z.t) λ_ _=>ar (hput _) λy q=>a8 (by simp) (ai (fin _ _ q (by omega)))) λ_=>?_
 refine aE (λ_=>ar (hat _ _ z.t) λ_ _=>ar (hput _) λy q=>a8 (by simp) (ai (fin _ _ q (by omega)))) λ_=>?_
 refine aE (λF=>?_) λ_=>?_
 .have hex:GE 4 (d8 (Xp.op s.expr,Xp.n s.expr,Xp.name s.expr,Xp.l s.expr)):=by rw[e_];exact I (.inr (.inr (.inr F)))
  refine ar (Bz _ _ A out hex z (by omega)) λy q=>?_
  obtain⟨g2,o2⟩:=y;obtain⟨q1,q2,q3⟩:=q;dsimp only at q1 q2 q3;refine a8 (by simp) (ar (hat _ _ (z.of q1).f) λ_ _=>?_);exact ar (uv _ g2 o2 (by omega)) λy q=>a8 (by simp) (ai (fin 16 _ (QG.trans q1 q2 q3 q (by omega)) (by omega)))
 refine aE (λF=>?_) λ_=>ai (fin 0 _ ⟨GQ.refl _,cF _,by dsimp only;omega⟩ (by omega))
 exact ar (hat _ _ z.k.l) λ_ _=>ar (hat _ _ z.f) λ_ _=>ar (hput _) λy q=>a8 (by simp) (ai (fin _ _ q (by omega)))
theorem Vu:∀(n:Nat),(∀d:Nat,3*d<n->SpG (eD n) d)/\(∀d:Nat,3*d+1<n->aa8 (dH n) d)/\(∀d:Nat,3*d+2<n->age (c8 n) d)/\(∀d:Nat,3*d+2<n->agf (dC n) d)
 |0=>⟨λd h=>by omega,λd h=>by omega,λd h=>by omega,λd h=>by omega⟩
 |n+1=>by
  obtain⟨z,q,A,hA⟩:=Vu n;refine ⟨λd h=>?_,λd h=>?_,λd h=>?_,λd h=>?_⟩
  .cases d with
   |zero=>exact λs g out hs=>hs.elim
   |succ d=>exact WO (dH n) (eD n) (c8 n) (dC n) d (A d (by omega)) (hA d (by omega))
  .exact TI (dH n) (eD n) (c8 n) (dC n) d (z d (by omega))
  .exact La (dH n) (eD n) (c8 n) (dC n) d (q d (by omega))
  .exact Qm (dH n) (eD n) (c8 n) (dC n) d (q d (by omega))
theorem NR (d:Nat) (hd:d<=100):aa8 tD d:=(Vu fuel).2.1 d (by rw[qu];omega)
theorem DX:∀(n d:Nat),d<n->∀(t k:Int) (l:Y Sx) (out:Y ν),l.length<=100->(∀s∈l,GT d s)->out.length+l.length*KS d<=100000000->Ok (py n ((t,k,l),out)) λy=>y.2.length<=out.length+l.length*KS d
 |0,_,h,_,_,_,_,_,_,_=>by omega
 |n+1,d,hn,t,k,l,out,hl,hs,hb=>by
  rw[Gk];unfold wB bx l8 bo aY cI aB cu;refine cg l.length (λi x=>x.1.2=(i:Int)/\x.2.length<=out.length+i*KS d) ?_ ?_ ⟨rfl,by simp⟩
  .rintro i ⟨⟨a,b⟩,o⟩ hi ⟨e1,e2⟩;dsimp only at e1 e2;subst e1;have hKi:(i+1)*KS d<=l.length*KS d:=cz _ (by omega);have hKs:=iN i (KS d);rw[Nat.succ_eq_add_one]at hKs;refine aR (λ_=>?_) λg=>(by dsimp only[aj]at g;omega)
   have hin:((i:Nat):Int)<(l.length:Int):=by omega
   have hm:=hs _ (bH (T:=.sm) (xs:=l) (j:=(i:Int)) (by omega) (by omega));cases d with
   |zero=>exact hm.elim
   |succ d=>
    obtain⟨_,_,_,I,F,D,A⟩:=hm;have hk:KS (d+1)=1+16*KS d:=rfl;have kb:=cz (KS d) I;have L:=cz (KS d) F;dsimp only;refine aH (by omega) hin (aW (aZ (by simp;omega) (by omega) (aH (by omega) hin (aW ?_))));refine ar (DX n d (by omega) _ _ _ _ (by omega) D (by simp;omega)) λy z=>a8 (by simp) ?_
    obtain⟨a2,o2⟩:=y;simp only[b6,cS]at z;refine aH (by omega) hin (aW ?_);refine ar (DX n d (by omega) _ _ _ o2 (by omega) A (by omega)) λy q=>a8 (by simp) (ai ?_)
    exact⟨fx (by omega),by dsimp only at q ⊢;omega⟩
  .rintro⟨⟨a,b⟩,o⟩ ⟨e1,e2⟩;dsimp only at e1 e2;subst e1;exact aR (λg=>(by dsimp only[aj]at g;omega)) λ_=>ai e2
abbrev CE6:Type:=ζ×Int×Int×Bool×Int
structure J6 (i:Nat) (y:List CE6×List (ζ×Bool)×List (ζ×Int)×List ζ):Prop where
 c:y.1.length<=2*i
 q:3<i->∃c∈y.1,c.1=[113]
 l:y.2.1.length<=i
 d:y.2.2.1.length<=i
 f:y.2.2.2.length<=i
structure WW (w:WT):Prop where
 c:w.1.length<=18
 q:∃c∈w.1,c.1=[113]
 l:w.2.1.length<=9
 d:w.2.2.1.length<=9
 f:w.2.2.2.1.length<=9
 t:w.2.2.2.2.1.length<=4
theorem UI (p:PG) (hp:PJ p) (r:Γ) (hr:kl p=Z r) (h0:r.1=0):Ok (tF p) WW:=by
 have hpt:=hp.t;unfold tF aV ba bk bO cU bn cC ci dx gI bf bx ir bo bG aY cI aB cu;refine aQ hr (bV (λh=>(h h0).elim) λ_=>?_);have hD:p.1=D0:=hp.d;have hlen:p.1.length=9:=by rw[hD];rfl
 have hz:∀z∈p.1,z.2.2.2.1<=(2:Int):=by rw[hD];decide
 have h3:aG (T:=tDc) p.1 ((3:Nat):Int)=(1,0,[113],2,0,[]):=by rw[hD];rfl
 refine cg 9 (λi x=>x.1=(i:Int)/\x.2.1=p/\J6 i x.2.2) ?_ ?_ ⟨rfl,rfl,by simp,λh=>by omega,by simp,by simp,by simp⟩
 .rintro i ⟨a,p',cs,ls,ds,fs⟩ hi ⟨e1,e2,j1,D,j3,j4,j5⟩;dsimp only at e1 e2 j1 D j3 j4 j5;subst e1;have e2:=e2.symm;subst e2;refine aR (λ_=>?_) λg=>(by dsimp only[aj]at g;omega)
  refine aH (by dsimp only;omega) (by dsimp only;omega) (aW ?_);have hm:=hz _ (bH (T:=tDc) (xs:=p.1) (j:=(i:Int)) (by omega) (by omega));have h3i:i=3->(aG (T:=tDc) p.1 (i:Int))=(1,0,[113],2,0,[]):=λh=>by rw[h];exact h3
  revert hm h3i;generalize (aG (T:=tDc) p.1 (i:Int))=z;intro hm h3i;have hq:∀cs':Y CE6,(∀c∈cs,c∈cs')->i≠3->3<i+1->∃c∈cs',c.1=[113]:=λcs' h1 h2 h3=>by
   obtain⟨c,hc,e⟩:=D (by omega);exact⟨c,h1 c hc,e⟩
  refine aX (λx=>x.1=p/\J6 (i+1) x.2) ?_ ?_
  .refine aX (λx=>x.2=(p,z,cs,ls,ds,fs)/\(x.1=aa->i≠3)) ?_ ?_
   .refine aE (λh=>ai ⟨rfl,λh2=>?_⟩) λh=>ai ⟨rfl,λ_ h2=>h (by rw[h3i h2])⟩
    rw[be h]at h2;cases h2
   rintro⟨b,x⟩ ⟨e,hb⟩;dsimp only at e hb;subst e;refine aK (λ_=>?_) λhb2=>?_
   .refine my (λx=>(2-x.1).toNat) (λx=>0<=x.1/\x.1<=2/\x.2.1=p/\x.2.2.1=z/\(x.2.2.2.1.length:Int)<=2*i+x.1/\(∀c∈cs,c∈x.2.2.2.1)/\(1<=x.1->∃c∈x.2.2.2.1,c.1=z.2.2.1)/\x.2.2.2.2=(ls,ds,fs)) ?_ ⟨by dsimp only;omega,by dsimp only;omega,rfl,rfl,by dsimp only;omega,λc hc=>hc,λh=>by dsimp only at h;omega,rfl⟩;rintro⟨(k:Int),p2,z2,cs2,x⟩ ⟨k0,k1,A,q,f3,f4,f5,f6⟩;dsimp only at k0 k1 A q f3 f4 f5 f6;have A:=A.symm;subst A;have q:=q.symm;subst q;subst f6;refine aR (λg=>?_) λg=>?_
    .refine aZ (by simp;omega) (by omega) (ai ?_);have hg:k<lq (z.2.2.2.1) 1:=g;have hx:lq (z.2.2.2.1) 1<=2:=by unfold lq;split<;>omega
     dsimp only;rw[gJ (n:=k+1) (by omega) (by omega)];refine ⟨⟨by omega,by omega,rfl,rfl,by simp;omega,λc hc=>jh _ (f4 c hc),λ_=>⟨_,kx _ (aJ.2 rfl),rfl⟩,rfl⟩,by omega⟩
    .have hg:lq (z.2.2.2.1) 1<=k:=g;have hx:1<=lq (z.2.2.2.1) 1:=by
      unfold lq;split
      .omega
      .rename_i h;simp[fK]at h;omega
     refine ai ⟨rfl,⟨by dsimp only;omega,λh=>?_,by dsimp only;omega,by dsimp only;omega,by dsimp only;omega⟩⟩;by_cases F:i=3
     .obtain⟨c,hc,e⟩:=f5 (by omega);exact⟨c,hc,by rw[e,h3i F]⟩
     .exact hq _ f4 F h
   have ni:=hb hb2;refine aX (λx=>x.2=(p,z,cs,ls,ds,fs)) (aE (λ_=>ai rfl) λ_=>ai rfl) ?_;rintro⟨b,x⟩ e;dsimp only at e;subst e;have hqq:=hq cs (λc h=>h) ni;refine aK (λ_=>?_) λ_=>aE (λ_=>?_) λ_=>?_
   .exact aZ (by simp;omega) (by omega) (ai ⟨rfl,⟨by dsimp only;omega,hqq,by simp;omega,by dsimp only;omega,by dsimp only;omega⟩⟩)
   .refine ar (zp _ _ (by dsimp only;omega)) λ_ _=>?_
    exact aZ (by simp;omega) (by omega) (ai ⟨rfl,⟨by dsimp only;omega,hqq,by dsimp only;omega,by simp;omega,by dsimp only;omega⟩⟩)
   .exact aZ (by simp;omega) (by omega) (ai ⟨rfl,⟨by dsimp only;omega,hqq,by dsimp only;omega,by dsimp only;omega,by simp;omega⟩⟩)
  rintro⟨p2,y⟩ ⟨A,q⟩;dsimp only at A q;have A:=A.symm;subst A;exact ai ⟨fx (by omega),rfl,q⟩
 .rintro⟨a,p',y⟩ ⟨e1,e2,j⟩;dsimp only at e1 e2 j;subst e1;have e2:=e2.symm;subst e2;refine aR (λg=>(by dsimp only[aj]at g;omega)) λ_=>?_
  obtain⟨cs,ls,ds,fs⟩:=y;obtain⟨j1,D,j3,j4,j5⟩:=j;dsimp only at j1 D j3 j4 j5;refine ar (P:=WW) ?_ λr hr=>ai hr
  refine cg p.2.length (λi x=>x.1=(i:Int)/\x.2.1=p/\x.2.2.1=cs/\x.2.2.2.1=ls/\x.2.2.2.2.1=ds/\x.2.2.2.2.2.1=fs/\x.2.2.2.2.2.2.1.length=i/\x.2.2.2.2.2.2.2.length<=i*2184) ?_ ?_ ⟨rfl,rfl,rfl,rfl,rfl,rfl,rfl,by simp⟩
  .rintro i ⟨a,p2,c2,l2,d2,q,t2,s2⟩ hi ⟨e1,e2,e3,e4,L,I,e7,e8⟩;dsimp only at e1 e2 e3 e4 L I e7 e8;subst e1;have e2:=e2.symm;subst e2;refine aR (λ_=>?_) λg=>(by dsimp only[aj]at g;omega)
   have hin:((i:Nat):Int)<(p.2.length:Int):=by omega
   have hm:=hp.m _ (bH (T:=Hx) (xs:=p.2) (j:=(i:Int)) (by omega) hin);have hk:KS 3=273:=rfl;have hb:=hm.b;have hle:=cz (KS 3) hb;rw[hk]at hle;dsimp only;refine aH (by omega) hin (aW (aZ (by simp;omega) (by omega) (aH (by omega) hin (aW ?_))));refine ar (DX fuel 3 (by rw[qu];omega) _ _ _ s2 (by omega) (λs hs=>(hm.s s hs).t) (by rw[hk];omega)) λy hy=>a8 (by simp) (ai ?_)
   rw[hk]at hy;exact⟨fx (by omega),rfl,e3,e4,L,I,by simp;omega,by dsimp only;omega⟩
  .rintro⟨a,p2,c2,l2,d2,q,t2,s2⟩ ⟨e1,e2,e3,e4,L,I,e7,e8⟩;dsimp only at e1 e2 e3 e4 L I e7 e8;subst e1;have e2:=e2.symm;subst e2;subst e3;subst e4;subst L;subst I;refine aR (λg=>(by dsimp only[aj]at g;omega)) λ_=>ai ?_
   exact⟨j1,D (by omega),j3,j4,j5,by dsimp only;omega⟩
theorem OG (p:PG) (hp:PJ p):Ok (qh p) λy=>CB y.1:=by
 have hpt:=hp.t;unfold qh aV ba bk bO cU bn ci dx lB bx ir bo bG j7 aY cI aB cu;obtain⟨r,hr,_⟩:=C8 p hp.x;refine aQ hr (bV (λ_=>ai ⟨by simp,λt ht=>(by cases ht)⟩) λh0=>?_);refine ar (UI p hp r hr h0) λw L=>?_
 refine cg p.2.length (λi x=>x.1.2=(i:Int)/\x.2.1=p/\x.2.2.1=w/\x.2.2.2.length=i/\∀t∈x.2.2.2,t.2.length<=1000000) ?_ ?_ ⟨rfl,rfl,rfl,rfl,λt ht=>(by cases ht)⟩
 .rintro i ⟨⟨a,b⟩,p2,w2,cs⟩ hi ⟨e1,e2,e3,e4,e5⟩;dsimp only at e1 e2 e3 e4 e5;subst e1;have e2:=e2.symm;subst e2;have e3:=e3.symm;subst e3;have hin:((i:Nat):Int)<(p.2.length:Int):=by omega
  refine aR (λ_=>?_) λg=>(by dsimp only[aj]at g;omega)
  have hm:=hp.m _ (bH (T:=Hx) (xs:=p.2) (j:=(i:Int)) (by omega) hin);dsimp only;refine aH (by omega) hin (aW (aH (by omega) hin (aW ?_)));revert hm;generalize (aG (T:=Hx) p.2 (i:Int))=t;intro hm;have hk:ME 3=50+16*(50+16*50):=rfl;have hle:=cz (ME 3) hm.b;rw[hk]at hle;have hll:t.2.2.1.length=2:=by rw[hm.l];rfl
  refine ar (NR 3 (by omega) _ _ [] (by have:=hm.b;omega) hm.s ⟨⟨by have:=L.c;dsimp only;omega,L.q,by dsimp only;omega⟩,by have:=L.l;dsimp only;omega,by have:=L.d;dsimp only;omega,by have:=L.f;dsimp only;omega,by have:=L.t;dsimp only;omega⟩ (by rw[hk,jX];omega)) λy I=>a8 (by simp) ?_
  obtain⟨g2,o2⟩:=y;obtain⟨q1,q2,q3⟩:=I;rw[hk]at q3;dsimp only at q1 q2 q3;rw[jX]at q3;refine ar (uv _ _ o2 (by omega)) λy I=>a8 (by simp) ?_
  obtain⟨g3,o3⟩:=y;have o3l:=I.u;dsimp only at o3l;refine cg o3.length (λk x=>x.1=(k:Int)/\x.2.1=p/\x.2.2.1=w/\x.2.2.2.2.2.1=cs/\x.2.2.2.2.2.2=o3) ?_ ?_ ⟨rfl,rfl,rfl,rfl,rfl⟩
  .rintro k ⟨a,p2,w2,g4,rg,c2,o4⟩ hk2 ⟨F,D,A,f4,z⟩;dsimp only at F D A f4 z;subst F;have D:=D.symm;subst D;have A:=A.symm;subst A;have f4:=f4.symm;subst f4;have z:=z.symm;subst z;refine aR (λ_=>?_) λg=>(by dsimp only[aj]at g;omega)
   dsimp only;refine aH (by omega) (by omega) (aH (by omega) (by omega) (aW (aQ (xa _) ?_)));generalize (aG (T:=UZ) o3 (k:Int))=ins;have hrl:=HC ins;refine cg (sP ins).length (λj x=>x.1=(j:Int)/\x.2.1=p/\x.2.2.1=w/\x.2.2.2.2.2.1=cs/\x.2.2.2.2.2.2=o3) ?_ ?_ ⟨rfl,rfl,rfl,rfl,rfl⟩
   .rintro j ⟨a,p2,w2,g4,rg,c2,o4⟩ hj ⟨F,D,A,f4,z⟩;dsimp only at F D A f4 z;subst F;refine aR (λ_=>?_) λg=>(by dsimp only[aj]at g;omega)
    exact aH (by dsimp only;omega) (by dsimp only;omega) (aW (ai ⟨fx (by omega),D,A,f4,z⟩))
   .rintro⟨a,p2,w2,g4,rg,c2,o4⟩ ⟨F,D,A,f4,z⟩;dsimp only at F D A f4 z;subst F;exact aR (λg=>(by dsimp only[aj]at g;omega)) λ_=>ai ⟨fx (by omega),D,A,f4,z⟩
  .rintro⟨a,p2,w2,g4,rg,c2,o4⟩ ⟨F,D,A,f4,z⟩;dsimp only at F D A f4 z;subst F;have D:=D.symm;subst D;have A:=A.symm;subst A;have f4:=f4.symm;subst f4;have z:=z.symm;subst z;refine aR (λg=>(by dsimp only[aj]at g;omega)) λ_=>?_
   refine ar (P:=λr=>match r with|.inl y=>y.1.2=((i+1:Nat):Int)/\y.2.1=p/\y.2.2.1=w/\y.2.2.2.length=i+1/\∀t∈y.2.2.2,t.2.length<=1000000|.inr y=>CB y.1) ?_ ?_
   .refine aZ (by simp;omega) (by omega) (ai ⟨fx (by omega),rfl,rfl,by simp;omega,λt ht=>?_⟩);rcases bN.1 ht with ht|ht
    .exact e5 t ht
    .rw[aJ]at ht;rw[ht];dsimp only;omega
   .rintro (y|y) I
    .exact ai I
    .exact ai I
 .rintro⟨⟨a,b⟩,p2,w2,cs⟩ ⟨e1,e2,e3,e4,e5⟩;dsimp only at e1 e2 e3 e4 e5;subst e1;exact aR (λg=>(by dsimp only[aj]at g;rw[e2]at g;omega)) λ_=>ai ⟨by dsimp only;omega,e5⟩
theorem KI (a b:η) (s:a.length<=9223372036854775807) (q:∀z∈a,0<=z/\z<=255) (hb:b.length<=1000000):Ok (r7 (a,b)) TR:=by
 unfold r7;refine ar (P:=CB) ?_ λc hc=>ar (UV b hb) λl hl=>?_
 .unfold wx;exact ar (FZ a s q) λp hp=>ar (OG p hp) λy d=>ai d
 .exact ar (agh c l hc (by omega)) λy d=>ai d
theorem OF (a b c:η) (n:Int) (n0:0<=n) (n1:n<=1000000) (s:a.length<=9223372036854775807) (q:∀z∈a,0<=z/\z<=255) (hc:c.length<=9223372036854775807) (d:∀z∈c,0<=z/\z<=255):Ok (kX ((a,b,c),n)) TR:=by
 unfold kX bx bo aY;refine aR (λ_=>ar (HA c n hc d) λy h=>ai h) λ_=>?_
 have h0:0<=F4 (aU b.length) n/\F4 (aU b.length) n<=(b.length:Int)/\F4 (aU b.length) n<=n:=by
  unfold F4;split
  .rename_i h;rw[mB]at h;dsimp only[aj]at h;exact⟨n0,by omega,gp _⟩
  .rename_i h;have h:=fD.1 (Bool.eq_false_iff.2 h);dsimp only[aj]at h ⊢;exact⟨by omega,gp _,h⟩
 refine cK (cY h0.1 (cY h0.2.1 ?_));have h1:(cM (aP (F4 (aU b.length) n)) b).length<=1000000:=by rw[b7];have:=h0.1;have:=h0.2.2;omega
 exact ar (KI a _ s q h1) λy h=>ai h
def HS.zero (w:Bv):HS:=⟨aA w.2.2.2.2.1.length [],aA w.2.2.2.2.1.length [],aA w.2.1.length [],aA w.2.1.length [],aA w.1.length [],aA w.2.2.2.1.length [],[],aA w.2.2.2.2.1.length [],aA w.2.2.2.2.1.length (-1)⟩
theorem HS.zero_ok {w:Bv} (h1:w.1.length<=1000) (h2:w.2.1.length<=1000) (q:w.2.2.2.1.length<=1000) (d:w.2.2.2.2.1.length<=1000):OX 0 (HS.zero w):=by
 have z:(0:Int)<=0:=by omega
 exact⟨z,by omega,Az.repl z _,Az.repl z _,Az.repl z _,Az.repl z _,Az.repl z _,Az.repl z _,En.nil z,Az.repl z _,by simpa[HS.zero] using d,by simp[HS.zero],by simp[HS.zero],by simp[HS.zero],by simpa[HS.zero] using h2,by simp[HS.zero],by simpa[HS.zero] using h1,by simpa[HS.zero] using q⟩
structure Wa (w:Bv) (h:HS):Prop where
 T:h.T.length=w.2.2.2.2.1.length
 L:h.L.length=w.2.1.length
 C:h.C.length=w.1.length
 F:h.F.length=w.2.2.2.1.length
theorem Wa.zero (w:Bv):Wa w (HS.zero w):=⟨by simp[HS.zero],by simp[HS.zero],by simp[HS.zero],by simp[HS.zero]⟩
theorem Wa.ent {w:Bv} {h:HS} (f:Wa w h) (e:EV) (x:η):Wa w (pC w h e x):=by
 obtain⟨a,b,c,d,g,i,j,k⟩:=uH w h e x;exact⟨a.trans f.T,c.trans f.L,g.trans f.C,i.trans f.F⟩
theorem Wa.step {w:Bv} {h:HS} (f:Wa w h) (e:EV):Wa w (EI w h e).1:=f.ent e _
def evP (e:ET):EV:=⟨e.1.toNat,e.2.1.toNat,e.2.2.1.toNat,e.2.2.2.1⟩
theorem aiv {w:WT} {e:ET} (f:Ym w e):EvT (evP e) e:=by
 obtain⟨⟨k1,k2,ce,lk,cd,th,fu⟩,t0,_,_⟩:=f;refine ⟨(pV t0).symm,(pV (by omega)).symm,λh=>(pV ?_).symm,rfl⟩;unfold evP at h;simp only[bu,cE,gH]at h;by_cases h1:e.2.1=3\/e.2.1=4
 .exact (ce h1).1
 by_cases h2:6<=e.2.1/\e.2.1<=11
 .exact (lk h2).1
 by_cases s:16<=e.2.1/\e.2.1<=19
 .exact (cd s).1
 by_cases q:e.2.1=20\/e.2.1=21
 .exact (th q).1
 by_cases d:e.2.1=22\/e.2.1=23
 .exact (fu d).1
 omega
theorem N5 {w:WT} {e:ET} (f:Ym w e) (wb:WB w) {h:HS} (d:Wa w h):EOK w h (evP e):=by
 obtain⟨⟨k1,k2,ce,lk,cd,th,fu⟩,t0,t1,s⟩:=f;have I:=wb.t;have D:=d.T;have A:=d.L;have z:=d.C;have f4:=d.F;unfold evP;refine ⟨by dsimp only;omega,by dsimp only;omega,by dsimp only;omega,by dsimp only;omega,λq=>?_,λq=>?_,λq=>?_,λq=>?_,λq=>?_⟩<;>dsimp only at q ⊢
 .have:=th (by omega);omega
 .have:=lk (by omega);omega
 .have g:=cd (by omega);have hl:e.2.2.1.toNat<w.2.2.1.length:=by omega
  have hm:=s (w.2.2.1.getD e.2.2.1.toNat ([],0)) (by rw[ay,ax hl];exact qF hl);refine ⟨hl,hm.1,?_⟩;unfold mxP;have:=hm.2;have:=hm.1;omega
 .have:=ce (by omega);omega
 .have:=fu (by omega);omega
theorem zh (a b:Int):eQ (a,b)=Z (decide (0<=a/\a<b)):=by
 refine bY ?_;unfold eQ jk aB;with_reducible repeat' first|(refine OS.ok ?_;constructor)|refine IM.mk λ_=>?_
 .by_cases h:a<b<;>simp[*,fK]
 .simp;omega
theorem FR (l:η) (t:Int) (hl:l.length<=1000):jw (l,t)=Z (l.contains t):=by
 refine bY ?_;unfold jw re wJ bf bx bG aY cI aB cu;refine ar (P:=λy:Int=>0<=y↔t∈l) ?_ λy d=>ai ?_
 .refine dZ l.length (by omega) (λi x=>x=(i:Int)/\∀j,j<i->¬l.getD j 0=t) ?_ ?_ ⟨rfl,λj hj=>by omega⟩
  .rintro i x hi ⟨rfl,hn⟩;refine iC ?_;refine dV (aW (aE (λh=>ai ?_) λh=>ai ?_))
   .refine ⟨λ_=>?_,λ_=>by omega⟩;have h:t=aG (T:=.int .i64) l (i:Int):=h;rw[h];exact bH (T:=.int .i64) (xs:=l) (by omega) (by omega)
   .refine ⟨fx (by omega),λj hj=>?_⟩;have h:¬t=l.getD i 0:=h;by_cases e:j=i
    .subst e;exact λg=>h g.symm
    .exact hn j (by omega)
  .rintro x ⟨rfl,hn⟩;refine hX (ai ?_);refine ⟨λg=>(by omega),λg=>?_⟩;obtain⟨j,hj,e⟩:=ve g;exact (hn j hj (by rw[ay,ax hj];exact e)).elim
 .by_cases h:t∈l
  .have:=d.2 h;simp[cP,h,this]
  .have:¬0<=y:=λg=>h (d.1 g)
   simp[cP,h,this]
theorem af8 (w:WT) (s:SY) (d:w.2.2.1.length<=1000) (cd:∀c∈w.2.2.1,0<=c.2/\c.2<w.2.1.length) (e1:s.1.length=w.2.1.length) (e2:s.2.2.1.length=w.2.2.2.1.length) (e3:s.2.2.2.length=w.2.2.2.2.1.length):iz (w,s)=Z M:=by
 refine bY ?_;unfold iz qr aV ba bk cC bx ir bG aY cI aB cu;refine aX (λx=>x=(aa,w)) ?_ ?_
 .refine bV (λh=>(h (by dsimp only[aj];omega)).elim) λ_=>bV (λh=>(h (by dsimp only[aj];omega)).elim) λ_=>ai ?_
  dsimp only[aj];rw[e3];simp
 rintro x rfl;refine gw (dZ w.2.2.1.length (by omega) (λi x=>x=((i:Int),w)) ?_ ?_ rfl)
 .rintro i x hi rfl;refine iC ?_;refine dV (aW (aQ (zh _ _) (bV (λh=>(h ?_).elim) λ_=>ai ?_)))
  .exact cd _ (bH (T:=pT) (xs:=w.2.2.1) (j:=(i:Int)) (by omega) (by omega))
  .dsimp only;rw[fx (by omega)]
 .rintro x rfl;exact hX (ai rfl)
theorem Z6 (w:WT) (k o:Int) (h:NM w k o):ja (w,k,o)=Z M:=by
 refine bY ?_;obtain⟨k1,k2,ce,lk,cn,th,fu,no,mu,rw_⟩:=h;unfold ja aV ba bk bO bf bG aY aB;rcases @yo k with rfl|rfl|rfl|rfl|rfl|rfl|rfl|rfl|rfl|rfl|rfl|rfl|rfl|rfl|rfl|rfl|rfl|rfl|rfl|rfl|rfl|rfl|rfl|⟨hk,d⟩
 case inr.inr.inr.inr.inr.inr.inr.inr.inr.inr.inr.inr.inr.inr.inr.inr.inr.inr.inr.inr.inr.inr.inr=>omega
 all_goals simp only[aN,aS,kJ,zh]
 all_goals with_reducible repeat' first|(refine OS.ok ?_;constructor)|refine IM.mk λ_=>?_
 all_goals try simp only[aj,oq] at*
 all_goals first|omega|exact rw_ ⟨by decide,by decide⟩|(simp only[*,Bool.not_false,dJ];done)
theorem afd {n:Nat} (w:WT) (s:SY) (hs:SB n s) (hn:n<=1000) (t k o:Int) (he:EN w s t k o) (hr:FO w s t k o):kC (w,s,t,k,o)=Z M:=by
 refine bY ?_;obtain⟨nm,t0,t1,cd,e1,e2,e3⟩:=id he;obtain⟨_,_,ce,lk,cn,th,fu,no,mu,rw_⟩:=nm;obtain⟨_,_,_,aq,wr,ra,rl,rr,xb,xe,ab,ae,nt,sp,jo,se,ge⟩:=hr;have hm:16<=k/\k<=19->0<=(aG (T:=pT) w.2.2.1 o).2/\(aG (T:=pT) w.2.2.1 o).2<w.2.1.length:=λh=>cd _ (bH (cn h).1 (cn h).2)
 have q:6<=k/\k<=11->jw ((aG (T:=ti) s.1 o).2,t)=Z ((aG (T:=ti) s.1 o).2.contains t):=λh=>FR _ _ (by
  have:=hs.rd _ (bH (T:=ti) (lk h).1 (by have:=(lk h).2;omega));omega)
 have lk1:6<=k/\k<=11->0<=o/\o<(s.1.length:Int):=λh=>by have:=lk h;omega
 have d:t<(s.2.2.2.length:Int):=by omega
 have fu1:k=22\/k=23->0<=o/\o<(s.2.2.1.length:Int):=λh=>by have:=fu h;omega
 have th1:k=20\/k=21->0<=o/\o<(s.2.2.2.length:Int):=λh=>by have:=th h;omega
 have tr:∀{p:Prop} [Decidable p],p->decide p=M:=λh=>be h
 unfold kC aV ba bk cC ci bf ir bG aY aB;refine aE (λh=>?_) λF=>?_
 .have h:k=6:=h;exact aH (lk1 (by omega)).1 (lk1 (by omega)).2 (aW (ai (tr (aq (.inl h)))))
 refine aE (λh=>?_) λz=>?_
 .have h:k=10:=h;refine fO (aH (lk1 (by omega)).1 (lk1 (by omega)).2 (aW (aE (λ_=>?_) λg=>(g (aq (.inr (.inr h)))).elim)));refine aH (lk1 (by omega)).1 (lk1 (by omega)).2 (aW (ai (ai (tr ?_))));have:=wr h;dsimp only[aj]at this ⊢;omega
 refine aE (λh=>?_) λD=>?_
 .have h:k=8:=h;refine fO (aH (lk1 (by omega)).1 (lk1 (by omega)).2 (aW (aE (λ_=>?_) λg=>(g (aq (.inr (.inl h)))).elim)));refine aH (lk1 (by omega)).1 (lk1 (by omega)).2 (aW (aQ (q (by omega)) (ai (ai ?_))));rw[ra h];rfl
 refine aX (λx=>x.2=(w,s)/\(x.1=M↔k=7\/k=11)) (aE (λh=>ai ⟨rfl,λ_=>.inl h,λ_=>tr h⟩) λh=>ai ⟨rfl,λh2=>.inr (bg h2),λh2=>tr (h2.resolve_left h)⟩) ?_;rintro⟨b,x⟩ ⟨e,hb⟩;dsimp only at e hb;subst e;refine aK (λh=>?_) λ_=>?_
 .have h:=hb.1 h;exact aH (lk1 (by omega)).1 (lk1 (by omega)).2 (aW (ai (tr (rl h))))
 refine aE (λh=>?_) λA=>?_
 .have h:k=9:=h;refine aH (lk1 (by omega)).1 (lk1 (by omega)).2 (aW (aQ (q (by omega)) (ai (rr h))))
 refine aE (λh=>ai (tr (xb h))) λ_=>aE (λh=>ai (tr (xe h))) λ_=>?_
 refine aE (λh=>aH t0 d (aW (ai (by have:=ab h;dsimp only at this ⊢;rw[this];rfl)))) λ_=>aE (λh=>aH t0 d (aW (ai (ae h)))) λ_=>?_
 refine aX (λx=>x.2=(w,s)/\(x.1=M->k=16\/k=18\/k=19)) (aE (λh=>ai ⟨rfl,λ_=>.inl h⟩) λ_=>aE (λh=>ai ⟨rfl,λ_=>.inr (.inl h)⟩) λ_=>ai ⟨rfl,λh=>.inr (.inr (bg h))⟩) ?_;rintro⟨c,x⟩ ⟨e,hc⟩;dsimp only at e hc;subst e;refine aK (λh=>?_) λ_=>?_
 .have h:=hc h;have hq:=hm (by omega);exact aH (cn (by omega)).1 (cn (by omega)).2 (aW (aH hq.1 (by rw[e1];exact hq.2) (aW (ai (tr (nt h))))))
 refine aE (λh=>?_) λ_=>?_
 .have h:k=20:=h;exact fO (bV (λ_=>aH (th1 (.inl h)).1 (th1 (.inl h)).2 (aW (ai (ai (tr (sp h).2))))) λg=>((sp h).1 g).elim)
 refine aE (λh=>?_) λ_=>?_
 .have h:k=21:=h;exact fO (bV (λ_=>aH (th1 (.inr h)).1 (th1 (.inr h)).2 (aW (ai (ai (tr (jo h).2))))) λg=>((jo h).1 g).elim)
 refine aE (λh=>aH (fu1 (.inl h)).1 (fu1 (.inl h)).2 (aW (ai (by have:=se h;dsimp only at this ⊢;rw[this];rfl)))) λ_=>aE (λh=>aH (fu1 (.inr h)).1 (fu1 (.inr h)).2 (aW (ai (ge h)))) λ_=>ai rfl
theorem oK {n:Nat} (w:WT) (s:SY) (hs:SB n s) (hn:n<=1000) (D:w.2.2.1.length<=1000) (t k o:Int) (he:EN w s t k o) (hr:FO w s t k o):eg (w,s,t,k,o)=Z M:=by
 refine bY ?_;obtain⟨nm,t0,t1,cd,e1,e2,e3⟩:=id he;have hrd:=afd w s hs hn t k o he hr;have A:t<(s.2.2.2.length:Int):=by omega
 unfold eg aV ba bk bn cC ci bf bG aY aB;refine aX (λx=>x=(aa,w,s)) ?_ ?_
 .refine aQ (af8 w s D cd e1 e2 e3) (jr rfl (aQ (zh _ _) ?_));refine bV (λh=>(h ⟨t0,t1⟩).elim) λ_=>aQ (Z6 w k o nm) (ai rfl)
 rintro x rfl;refine gw (aH t0 A (aW ?_));refine aE (λh=>ai (be (hr.b h))) λn1=>?_
 refine aE (λh=>?_) λd=>?_
 .have h:k=17:=h;obtain⟨a1,a2,a3⟩:=hr.wk h;obtain⟨z,q⟩:=nm.cd (by omega);have hq:=cd _ (bH (T:=pT) (xs:=w.2.2.1) (j:=o) z q);refine fO (aE (λ_=>aE (λ_=>?_) λg=>(g a2).elim) λg=>(g a1).elim);exact aH z q (aW (aH hq.1 (by rw[e1];exact hq.2) (aW (ai (ai (be a3))))))
 refine fO (aE (λ_=>aQ hrd (ai (ai rfl))) λg=>(g (hr.r n1 d)).elim)
theorem abr (w:WT) (e:ET) (h1:e.2.1=1\/e.2.1=2->e.2.2.2.2.1= -1) (h2:¬(e.2.1=1\/e.2.1=2)->0<=e.2.2.2.2.1/\e.2.2.2.2.1<w.2.2.2.2.2.length/\(aG (T:=De) w.2.2.2.2.2 e.2.2.2.2.1).1=e.1):gr (w,e)=Z M:=by
 refine bY ?_;unfold gr aV cU ci bf bx jk bG aY aB;refine aX (λx=>x.2=(w,e)/\(x.1=M↔e.2.1=1\/e.2.1=2)) (aE (λh=>ai ⟨rfl,λ_=>.inl h,λ_=>rfl⟩) λh=>ai ⟨rfl,λh2=>.inr (bg h2),λh2=>be (h2.resolve_left h)⟩) ?_;rintro⟨b,x⟩ ⟨e1,hb⟩;dsimp only at e1 hb;subst e1;refine aK (λh=>ai (be (h1 (hb.1 h)))) λh=>?_
 obtain⟨a1,a2,a3⟩:=h2 λg=>by rw[hb.2 g]at h;cases h
 exact fO (dX (λ_=>iC (aH a1 a2 (aW (ai (ai (be a3)))))) λg=>(by dsimp only at g;omega))
theorem Z2 {l:η} (h:xR l) (i:Nat) (hi:i<l.length):∀z∈l.drop (i+1),l.getD i 0<z:=by
 induction l generalizing i with
 |nil=>cases hi
 |cons a l d=>
  cases i with
  |zero=>exact λz q=>h.1 z (by simpa using q)
  |succ i=>exact d h.2 i (by simpa using hi)
theorem QO (w:WT) (s:SN) (e:ET) (ce:e.2.1=3\/e.2.1=4->0<=e.2.2.1/\e.2.2.1<w.1.length) (de:0<e.2.2.2.2.2.1.length->e.2.1=5\/(e.2.1=3\/e.2.1=4)/\¬(aG (T:=OR) w.1 e.2.2.1).2.2.1=0) (fr:0<e.2.2.2.2.2.2.length->e.2.1=4\/e.2.1=22) (t0:0<=e.1) (t1:e.1<s.2.2.2.length) (nd:AN (aG (T:=.int .i64) s.2.2.2 e.1) e.2.2.2.2.2.1) (nf:AN (aG (T:=.int .i64) s.2.2.2 e.1) e.2.2.2.2.2.2) (ld:e.2.2.2.2.2.1.length<=1000000) (lf:e.2.2.2.2.2.2.length<=1000000):dy (w,s,e)=Z M:=by
 refine bY ?_;unfold dy gN aV ba bk bO bn cC dx bf bx jk bo bG aY cI aB cu;refine aX (λx=>x.2=(s,e)/\((e.2.1=3\/e.2.1=4)/\¬(aG (T:=OR) w.1 e.2.2.1).2.2.1=0->x.1=M)) ?_ ?_
 .refine aE (λh=>?_) λn3=>aE (λh=>?_) λn4=>?_
  .exact aH (ce (.inl h)).1 (ce (.inl h)).2 (aW (ai ⟨rfl,λg=>by simpa using g.2⟩))
  .exact aH (ce (.inr h)).1 (ce (.inr h)).2 (aW (ai ⟨rfl,λg=>by simpa using g.2⟩))
  .exact ai ⟨rfl,λg=>(g.1.elim n3 n4).elim⟩
 rintro⟨b,x⟩ ⟨e1,hb⟩;dsimp only at e1 hb;subst e1;refine aX (λx=>x.1=s/\x.2.1=e/\(0<e.2.2.2.2.2.1.length->x.2.2.1=M)/\(0<e.2.2.2.2.2.2.length->x.2.2.2=M)) ?_ ?_
 .refine aE (λL=>aE (λd=>ai ⟨rfl,rfl,λ_=>rfl,λ_=>rfl⟩) λd=>ai ⟨rfl,rfl,λ_=>rfl,λg=>?_⟩) λL=>aE (λd=>ai ⟨rfl,rfl,λg=>?_,λ_=>rfl⟩) λd=>ai ⟨rfl,rfl,λg=>?_,λg=>?_⟩
  .exact be ((fr g).resolve_left d)
  .exact hb ((de g).resolve_left L)
  .exact hb ((de g).resolve_left L)
  .exact be ((fr g).resolve_left d)
 rintro⟨s',e',a,b'⟩ ⟨e1,e2,h1,h2⟩;dsimp only at e1 e2 h1 h2;subst e1;subst e2;have key:∀(r:η),r.length<=1000000->AN (aG (T:=.int .i64) s'.2.2.2 e'.1) r->∀j:Nat,j<r.length->∀z∈r.drop (j+1),aG (T:=.int .i64) r (j:Int)<z:=λr _ h j hj z F=>Z2 h.a j hj z F
 refine dZ 2 (by omega) (λi x=>x=((i:Int),s',e',a,b')) ?_ ?_ rfl
 .rintro i x hi rfl;refine iC ?_;refine cK (cY (by dsimp only;omega) (rE (by dsimp only;omega) (aW ?_)));have hr:∃r:η,aG (T:=.sl (.int .i64)) [e'.2.2.2.2.2.1,e'.2.2.2.2.2.2] (i:Int)=r/\AN (aG (T:=.int .i64) s'.2.2.2 e'.1) r/\r.length<=1000000/\(0<r.length->aG (T:=.bool) [a,b'] (i:Int)=M):=by
   match i,hi with
   |0,_=>exact⟨_,rfl,nd,ld,h1⟩
   |1,_=>exact⟨_,rfl,nf,lf,h2⟩
  obtain⟨r,er,hA,hl,I⟩:=hr;have er':aG (T:=.sl aM) [e'.2.2.2.2.2.1,e'.2.2.2.2.2.2] (i:Int)=r:=er;dsimp only at er' ⊢;rw[er'];refine aX (λx=>x=(aa,s',e',a,b')) ?_ ?_
  .refine aR (λg=>?_) λ_=>ai rfl
   have g':0<r.length:=by dsimp only[aj]at g;omega
   refine cK (cY (by omega) (rE (by omega) (dV (aW (ai ?_)))));rw[I g'];rfl
  rintro x rfl;refine gw ?_;refine dZ r.length (by omega) (λj x=>x.1.2=(j:Int)/\x.2=(s',e',a,b')/\∀z∈r.drop j,x.1.1<z) ?_ ?_ ⟨rfl,rfl,λz F=>?_⟩
  .rintro j ⟨⟨la,ix⟩,x⟩ hj ⟨D,A,g3⟩;dsimp only at D A g3;subst D;subst A;have m:aG (T:=.int .i64) r (j:Int)∈r:=bH (T:=.int .i64) (xs:=r) (by omega) (by omega);have m2:aG (T:=.int .i64) r (j:Int)∈r.drop j:=by
    have:aG (T:=.int .i64) r (j:Int)=r[j]:=by
     show r.getD j 0=_;rw[ay,ax hj];rfl
    rw[this,List.drop_eq_getElem_cons hj];exact eo
   refine iC ?_;refine dV (aW (aX (λx=>x=(aa,s',e',a,b')) ?_ ?_))
   .refine dX (λg=>?_) λ_=>aH t0 t1 (aW (ai ?_))
    .have q1:=g3 _ m2;exact dP q1 (by dsimp only at g;exact λq=>dP (Int.lt_of_lt_of_le q g) (Int.lt_irrefl _))
    .have:=(hA.m _ m).2;rw[ko.2 (show aG (T:=.int .i64) r (j:Int)<aG (T:=.int .i64) s'.2.2.2 e'.1 from this)]
   rintro x rfl;exact gw (ai ⟨fx (by omega),rfl,key r hl hA j hj⟩)
  .rintro⟨⟨la,ix⟩,x⟩ ⟨D,A,_⟩;dsimp only at D A;subst D;subst A;exact hX (ai (iX (·,s',e',a,b') (fx (by omega))))
  .have:=(hA.m z (by simpa using F)).1;dsimp only;omega
 .rintro x rfl;exact hX (ai rfl)
theorem aiu (w:WT) (s:SN) (d:w.2.2.1.length<=1000) (t k o:Int) (he:EN w s.1 t k o) (hf:R6 w s):ie (w,s)=Z M:=by
 obtain⟨_,_,_,cd,e1,e2,e3⟩:=he;obtain⟨A,z,q⟩:=hf;refine bY ?_;unfold ie aV ba bk cC bf aY aB;refine fO (aQ (af8 w s.1 d cd e1 e2 e3) (rU (aE (λ_=>aE (λ_=>ai (ai (be ?_))) λg=>(g ?_).elim) λg=>(g ?_).elim)));all_goals dsimp only[aj];omega
theorem zg (th:Y (Int×Int×Bool)) (c:Int) (i:Nat):wl th c (i+1)=if EE c (aG (T:=uP) th (i:Int)) then wl th c i++[(i:Int)] else wl th c i:=rfl
theorem aba {n:Nat} (w:WT) (s:SN) (hs:SB n s.1) (e:ET) (hf:R6 w s) (he:EN w s.1 e.1 e.2.1 e.2.2.1) (va:VA w s.1 s.2.1 s.2.2.1 e.1 e.2.1 e.2.2.1 e.2.2.2.1):eK (s,e)=Z M:=by
 refine bY ?_;obtain⟨t,k,o,v,A,de,fr⟩:=e;obtain⟨s1,s2,s3,s4⟩:=s;obtain⟨nm,t0,t1,cd,e1,e2,e3⟩:=he;obtain⟨_,_,ce,lk,cn,th,fu,_,_,_⟩:=nm;obtain⟨f1,f2,f3⟩:=hf;have hth:=hs.th;obtain⟨v3,F,v5,vel⟩:=va;dsimp only at*
 unfold eK jL aV ba bk bO bn bf bx bG aY cI aB cu;refine aE (λh=>?_) λn3=>?_
 .have h:k=3:=h;obtain⟨c0,c1⟩:=ce (.inl h);exact aH c0 (by rw[f1];exact c1) (aW (ai (be (v3 h))))
 refine aE (λh=>?_) λI=>?_
 .have h:k=23:=h;obtain⟨c0,c1⟩:=fu (.inr h);exact aH c0 (by rw[f2];exact c1) (aW (ai (be (F h))))
 refine aE (λh=>?_) λn5=>?_
 .have h:k=5:=h;exact fO (aE (λ_=>ai (ai rfl)) λg=>ai (ai (be ((v5 h).resolve_left g))))
 refine aX (λx=>x.2=((s1,s2,s3,s4),t,k,o,v,A,de,fr)/\(x.1=aa->¬k=4/\¬k=22)) (aE (λh=>ai ⟨rfl,λh2=>(by rw[be h]at h2;cases h2)⟩) λh=>ai ⟨rfl,λh2=>⟨h,jE h2⟩⟩) ?_;rintro⟨b,x⟩ ⟨e,hb⟩;dsimp only at e hb;subst e;refine aK (λh=>ai rfl) λh=>?_
 obtain⟨n4,L⟩:=hb h;have vel:=vel n3 I n5 n4 L;have hWl:=pW s1.2.2.2 o s1.2.2.2.length;refine aE (λh=>?_) λn18=>?_
 .have h:k=18:=h;subst h;rw[JY]at vel;refine dZ s1.2.2.2.length (by omega) (λi x=>x.1.2.2=(i:Int)/\x.2=(t,18,o,v,A,de,fr)/\x.1.1=((wl s1.2.2.2 o i).length:Int)/\(x.1.2.1=M↔v∈wl s1.2.2.2 o i)) ?_ ?_ ⟨rfl,rfl,rfl,by simp[wl]⟩
  .rintro i ⟨⟨c,hit,ix⟩,x⟩ hi ⟨q,d,z,D⟩;dsimp only at q d z D;subst q;subst d;subst z;have hl:=pW s1.2.2.2 o i;refine iC ?_;refine aX (λx=>x.2=(t,18,o,v,A,de,fr)/\x.1.1=((wl s1.2.2.2 o (i+1)).length:Int)/\(x.1.2=M↔v∈wl s1.2.2.2 o (i+1))) ?_ ?_
   .refine dV (aW (aX (λx=>x=(EE o (aG (T:=uP) s1.2.2.2 (i:Int)),t,18,o,v,A,de,fr)) ?_ ?_))
    .unfold EE;refine aE (λh=>ai ?_) λh=>ai ?_
     .dsimp only at h ⊢;rw[h];rfl
     .dsimp only at h ⊢;rw[bD h];rfl
    rintro x rfl;rw[zg];dsimp only;cases hw:EE o (aG (T:=uP) s1.2.2.2 (i:Int)) with
    |true=>
     refine rU (aK (λh=>ai ⟨rfl,?_,?_⟩) λh=>ai ⟨rfl,?_,?_⟩)
     .dsimp only;rw[fx (by omega)];simp
     .simp[D.1 h]
     .dsimp only;rw[fx (by omega)];simp
     .have:¬v∈wl s1.2.2.2 o i:=λg=>by rw[D.2 g]at h;cases h
      simp[this]
    |false=>exact gw (ai ⟨rfl,rfl,D⟩)
   rintro⟨⟨c,hit'⟩,x⟩ ⟨q,d,z⟩;dsimp only at q d z;subst q;subst d;exact ai ⟨fx (by omega),rfl,rfl,z⟩
  .rintro⟨⟨c,hit,ix⟩,x⟩ ⟨q,d,z,D⟩;dsimp only at q d z D;subst q;subst d;subst z;refine hX (ar (P:=λy=>y=M) (fO (aK (λ_=>ai (ai rfl)) λh=>?_)) λy hy=>ai hy);have hn:¬v∈wl s1.2.2.2 o s1.2.2.2.length:=λg=>by rw[D.2 g]at h;cases h
   by_cases h0:(wl s1.2.2.2 o s1.2.2.2.length).length=0
   .rw[aT h0]at vel;refine aE (λ_=>ai (ai (be vel))) λg=>(g (by dsimp only;omega)).elim
   .rw[aL h0]at vel;have vel:v=Df (wl s1.2.2.2 o s1.2.2.2.length) v:=vel;exact (hn (vel▸VN v h0)).elim
 refine aE (λh=>?_) λn19=>?_
 .have h:k=19:=h;subst h;rw[UE]at vel;refine dZ s1.2.2.2.length (by omega) (λi x=>x.1.2=(i:Int)/\x.2=(t,19,o,v,A,de,fr)/\x.1.1=((wl s1.2.2.2 o i).length:Int)) ?_ ?_ ⟨rfl,rfl,rfl⟩
  .rintro i ⟨⟨c,ix⟩,x⟩ hi ⟨q,d,z⟩;dsimp only at q d z;subst q;subst d;subst z;have hl:=pW s1.2.2.2 o i;refine iC ?_;refine aX (λx=>x.2=(t,19,o,v,A,de,fr)/\x.1=((wl s1.2.2.2 o (i+1)).length:Int)) ?_ ?_
   .refine dV (aW (aX (λx=>x=(EE o (aG (T:=uP) s1.2.2.2 (i:Int)),t,19,o,v,A,de,fr)) ?_ ?_))
    .unfold EE;refine aE (λh=>ai ?_) λh=>ai ?_
     .dsimp only at h ⊢;rw[h];rfl
     .dsimp only at h ⊢;rw[bD h];rfl
    rintro x rfl;rw[zg];dsimp only;cases hw:EE o (aG (T:=uP) s1.2.2.2 (i:Int)) with
    |true=>
     refine rU (ai ⟨rfl,?_⟩);dsimp only;rw[fx (by omega)];simp
    |false=>exact gw (ai ⟨rfl,rfl⟩)
   rintro⟨c,x⟩ ⟨q,d⟩;dsimp only at q d;subst q;subst d;exact ai ⟨fx (by omega),rfl,rfl⟩
  .rintro⟨⟨c,ix⟩,x⟩ ⟨q,d,z⟩;dsimp only at q d z;subst q;subst d;subst z;exact hX (ai (be vel))
 exact ai (be (by rw[VX _ _ _ _ _ _ n18 n19]at vel;exact vel))
theorem Ys (x:Int×Int×Bool) (c:Int):ml (x,c)=Z (EE c x):=by
 refine bY ?_;unfold ml EE bf aB;refine fO (aE (λh=>ai (ai ?_)) λh=>ai (ai ?_))
 .have h:x.1=3:=h;rw[h];rfl
 .have h:¬x.1=3:=h;rw[bD h];rfl
theorem ZN {n:Nat} (s:SY) (hs:SB n s):kD s=Z (s.2.1,s.1,s.2.2.1,s.2.2.2):=by
 refine bY ?_;obtain⟨s1,s2,q,s4⟩:=s;have hn:=hs.n1;have hlk:=hs.lk;have hdn:=hs.dn;have hth:=hs.th;have hrd:=hs.rd;dsimp only at hlk hdn hth hrd;unfold kD rL aV bn ck bx bo bG aY cI cu;dsimp only[aj];refine cK (cK (cY (by omega) (cY (by omega) (aZ (by simp;omega) (by omega) ?_))));refine dZ s1.length (by omega) (λi x=>∃c d,x=((i:Int),(s1,s2,q,s4),c,d)/\d.length=s1.length/\∀j,j<i->d.getD j (0,[])=s1.getD j (0,[])) ?_ ?_ ⟨_,_,rfl,by simp,λj hj=>by omega⟩
 .rintro i x hi ⟨c,d,rfl,hd,he⟩;have hr:=hrd _ (bH (T:=ti) (xs:=s1) (j:=(i:Int)) (by omega) (by omega));refine iC ?_;refine dV (aW (aQ (x:=(aG (T:=ti) s1 (i:Int)).2) (bY ?_) ?_))
  .exact aZ (by dsimp only;omega) (by omega) (ai rfl)
  refine dV (dV (ai ⟨c,d.set i (aG (T:=ti) s1 (i:Int)),?_,by simp[hd],λj hj=>?_⟩))
  .dsimp only;rw[fx (by omega)];rfl
  .by_cases e:i=j
   .subst e;rw[ay,List.getElem?_set_self (by omega)];rfl
   .rw[ay,List.getElem?_set_ne e,<-ay];exact he j (by omega)
 .rintro x ⟨c,d,rfl,hd,he⟩;have:d=s1:=by
   refine dA hd λj D z=>?_
   have:=he j z;rw[ay,ay,ax D,ax z]at this;exact this
  subst this;refine hX (ar (P:=λy=>y=(s2,d,q,s4)) ?_ λy A=>ai A);refine aQ (x:=q) (bY (aZ (by dsimp only;omega) (by omega) (ai rfl))) (aQ (x:=s4) (bY (aZ (by dsimp only;omega) (by omega) (ai rfl))) (ai rfl))
theorem VO (l:η) (i u:Int):Df (l++[i]) u=if l.length=0 then i else if i=u then i else Df l u:=by
 unfold Df;cases l with
 |nil=>
  by_cases h:u=i
  .subst h;simp
  .simp[h];rfl
 |cons a r=>
  have e1:¬(a::r++[i]).length=0:=by simp
  have e2:¬(a::r).length=0:=by simp
  simp only[aL e1,aL e2];by_cases h:i=u
  .subst h;simp
  .have h':¬u=i:=λg=>h g.symm
   rw[aL h];have:(a::r++[i]).contains u=(a::r).contains u:=by simp[h']
   rw[this];rfl
theorem Ou {th:Y (Int×Int×Bool)} {c u:Int} {i:Nat} (h:¬(wl th c i).length=0):0<=Df (wl th c i) u/\Df (wl th c i) u<i:=by
 have:=xW.1 (VN u h);exact⟨this.1,this.2.1⟩
theorem JN {l:η} {u:Int} (h:l.length=0):Df l u= -1:=by unfold Df;rw[aT h]
theorem abw (s:SY) (o u:Int) (hs:s.2.2.2.length<=1000):jI ((s.2.1,o,u),s.1,s.2.2.1,s.2.2.2)=Z (Df (wl s.2.2.2 o s.2.2.2.length) u,s.1,s.2.2.1,if (wl s.2.2.2 o s.2.2.2.length).length=0 then s.2.2.2 else Kv s.2.2.2 (Df (wl s.2.2.2 o s.2.2.2.length) u) 4):=by
 refine bY ?_;obtain⟨s1,s2,d,s4⟩:=s;dsimp only at hs ⊢;unfold jI qp aV ba bn ck bx jk j7 aY cI aB cu;dsimp only[aj];refine dZ s4.length (by omega) (λi x=>x=((Df (wl s4 o i) u,(i:Int)),s1,d,s4,s2)) ?_ ?_ rfl
 .rintro i x hi rfl;refine iC ?_;refine aX (λx=>x=(Df (wl s4 o (i+1)) u,s1,d,s4,s2)) ?_ ?_
  .refine dV (dV (aW ?_));refine aX (λx=>x=(decide (EE o (aG (T:=uP) s4 (i:Int))=M/\((wl s4 o i).length=0\/(i:Int)=u)),s1,d,s4,s2)) ?_ ?_
   .refine aQ (Ys _ _) (aK (λh=>?_) λh=>ai ?_)
    .have h:EE o (aG (T:=uP) s4 (i:Int))=M:=h;refine aR (λg=>ai ?_) λg=>ai ?_
     .have:(wl s4 o i).length=0:=Classical.byContradiction λq=>by have:=(Ou (u:=u) q).1;dsimp only at g;omega
      simp[h,this]
     .have:¬(wl s4 o i).length=0:=λq=>by have:=JN (u:=u) q;dsimp only at g;omega
      simp[h,this]
    .have h:EE o (aG (T:=uP) s4 (i:Int))=aa:=h;simp[h]
   rintro x rfl;rw[zg];refine aE (λh=>ai ?_) λh=>ai ?_
   .rw[aT h.1,VO];rcases h.2 with g|g
    .rw[aT g]
    .rw[aT g];simp
   .by_cases g:EE o (aG (T:=uP) s4 (i:Int))=M
    .rw[aT g,VO,aL λq=>h ⟨g,.inl q⟩,aL λq=>h ⟨g,.inr q⟩]
    .rw[aL g]
  rintro x rfl;exact ai (by dsimp only;rw[fx (by omega)])
 .rintro x rfl;refine hX (ar (P:=λy=>y=(Df (wl s4 o s4.length) u,s1,d,if (wl s4 o s4.length).length=0 then s4 else Kv s4 (Df (wl s4 o s4.length) u) 4)) ?_ λy z=>ai z);refine aX (λx=>x=(s1,d,if (wl s4 o s4.length).length=0 then s4 else Kv s4 (Df (wl s4 o s4.length) u) 4)) ?_ ?_
  .refine dX (λg=>?_) λg=>ai ?_
   .have h0:¬(wl s4 o s4.length).length=0:=λq=>by have:=JN (u:=u) q;dsimp only at g;omega
    have hp:=Ou (u:=u) h0;refine aH hp.1 hp.2 (aH hp.1 hp.2 (ai ?_));rw[aL h0];rfl
   .have:(wl s4 o s4.length).length=0:=Classical.byContradiction λq=>by have:=(Ou (u:=u) q).1;dsimp only at g;omega
    rw[aT this]
  rintro x rfl;exact ai rfl
theorem ac1 (th:Y (Int×Int×Bool)) (l:η) (i:Int):OT th (l++[i])=Kv (OT th l) i 4:=by unfold OT;rw[jS];rfl
theorem ac0 (l:η):∀(th:Y (Int×Int×Bool)) (j:Int),0<=j->(∀z∈l,0<=z/\z<th.length/\¬z=j)->aG (T:=uP) (OT th l) j=aG (T:=uP) th j:=by
 induction l with
 |nil=>intro th j _ _;rfl
 |cons x r s=>
  intro th j hj h;have d:=h x (by simp);refine (s (Kv th x 4) j hj λz A=>?_).trans ?_
  .have:=h z (by simp[A]);unfold Kv;rw[cL];exact this
  .unfold Kv;rw[Mg (T:=uP) th x j _ d.1 d.2.1 hj,aL λq=>d.2.2 q.symm]
theorem S3 (s:SY) (o:Int) (hs:s.2.2.2.length<=1000):gL ((s.2.1,o),s.1,s.2.2.1,s.2.2.2)=Z (((wl s.2.2.2 o s.2.2.2.length).length:Int),s.1,s.2.2.1,OT s.2.2.2 (wl s.2.2.2 o s.2.2.2.length)):=by
 refine bY ?_;obtain⟨s1,s2,d,s4⟩:=s;dsimp only at hs ⊢;unfold gL mF aV ba bn cC ck bx j7 aY cI aB cu;dsimp only[aj];refine dZ s4.length (by omega) (λi x=>x=((((wl s4 o i).length:Int),(i:Int)),s1,d,OT s4 (wl s4 o i),s2)) ?_ ?_ rfl
 .rintro i x hi rfl;have hl:=pW s4 o i;have hg:aG (T:=uP) (OT s4 (wl s4 o i)) (i:Int)=aG (T:=uP) s4 (i:Int):=ac0 _ _ _ (by omega) λz q=>by have:=xW.1 q;exact⟨this.1,by omega,by omega⟩
  have hq:=G9 (wl s4 o i) s4;refine iC ?_;refine aX (λx=>x=(((wl s4 o (i+1)).length:Int),s1,d,OT s4 (wl s4 o (i+1)),s2)) ?_ ?_
  .refine dV (dV (aW (aQ (Ys _ _) ?_)));rw[zg];refine aK (λh=>?_) λh=>ai ?_
   .have h:EE o (aG (T:=uP) s4 (i:Int))=M:=hg▸h;refine dV (dV (ai ?_));rw[aT h,ac1];dsimp only;rw[fx (by omega)];simp only[b6,cf,jX];rfl
   .have h:EE o (aG (T:=uP) s4 (i:Int))=aa:=hg▸h;rw[h];rfl
  rintro x rfl;exact ai (by dsimp only;rw[fx (by omega)])
 .rintro x rfl;exact hX (ai rfl)
theorem ae3 {n:Nat} (w:WT) (s:SY) (hs:SB n s) (hn:n<=1000) (A:w.2.2.1.length<=1000) (t k o u:Int) (he:EN w s t k o) (hr:FO w s t k o) (q:¬k=8) (d:¬k=9):gM (w,s,t,k,o,u)=Z ((vW w s t k o u).1,(vW w s t k o u).2,M):=by
 refine bY ?_;unfold gM aV ba bk bO cU bn cC ci dx gI ck bf bo bG j7 aB;refine aQ (oK w s hs hn A t k o he hr) (jr rfl (aQ (ZN s hs) ?_));suffices hmain:Ok _ _ from aX (λx=>((x.2.2.2.1,x.2.1,x.2.2.2.2),x.1)=vW w s t k o u) hmain λx z=>ai (by rw[<- z])
 obtain⟨nm,t0,t1,cd,e1,e2,e3⟩:=id he;obtain⟨_,_,ce,lk,cn,th,fu⟩:=nm;have hm:16<=k/\k<=19->0<=(aG (T:=pT) w.2.2.1 o).2/\(aG (T:=pT) w.2.2.1 o).2<w.2.1.length:=λh=>cd _ (bH (cn h).1 (cn h).2)
 rcases @yo k with rfl|rfl|rfl|rfl|rfl|rfl|rfl|rfl|rfl|rfl|rfl|rfl|rfl|rfl|rfl|rfl|rfl|rfl|rfl|rfl|rfl|rfl|rfl|⟨hk,D⟩
 case inr.inr.inr.inr.inr.inr.inr.inr.inr.inr.inr.inr.inr.inr.inr.inr.inr.inr.inr.inr.inr.inr.inr=>omega
 all_goals first|exact (q rfl).elim|exact (d rfl).elim|skip
 all_goals simp only[aN,aS,kJ]
 all_goals with_reducible repeat' first|(refine OS.ok ?_;constructor)|refine IM.mk λ_=>?_
 all_goals try simp only[aj,oq] at*
 all_goals try rw[cL]
 all_goals first|omega|exact (hm ⟨by decide,by decide⟩).1|exact e1▸(hm ⟨by decide,by decide⟩).2|exact rfl|skip
 .refine aQ (abw s o u hs.th) (a8 ?_ (ai ?_))
  .have:ah (if (wl s.2.2.2 o s.2.2.2.length).length=0 then s.2.2.2 else Kv s.2.2.2 (Df (wl s.2.2.2 o s.2.2.2.length) u) 4)=s.2.2.2.length:=by
    split
    .rfl
    .exact cL ..
   dsimp only;rw[this];simp
  .rw[JY];by_cases h:(wl s.2.2.2 o s.2.2.2.length).length=0
   .rw[aT h,aT h,JN h]
   .rw[aL h,aL h]
 .refine aQ (S3 s o hs.th) (a8 ?_ (ai rfl));dsimp only;rw[G9];simp
def z_:Nat->Y η
 |0=>[[]]
 |m+1=>z_ m++(z_ m).map ((3-(m:Int))::·)
theorem LN:∀m,[]∈z_ m
 |0=>by simp[z_]
 |m+1=>by simp[z_,LN m]
theorem Dj:∀(m:Nat) (l:η),xR l->(∀z∈l,4-(m:Int)<=z/\z<4)->l∈z_ m
 |m,[],_,_=>LN m
 |0,a::r,_,h=>by have:=h a (by simp);omega
 |m+1,a::r,hA,h=>by
  have q:=h a (by simp);rw[z_,bN];by_cases e:a=3-(m:Int)
  .refine .inr (c7.2 ⟨r,Dj m r hA.2 λz d=>?_,by rw[e]⟩);have:=h z (by simp[d]);have:=hA.1 z d;omega
  .refine .inl (Dj m (a::r) hA λz d=>?_);have:=h z d;rcases bu.1 d with rfl|d
   .omega
   .have:=hA.1 z d;omega
theorem ae9 {l:η} (h:xR l) (h2:∀z∈l,0<=z/\z<4):l∈z_ 4:=Dj 4 l h λz d=>by have:=h2 z d;omega
def in4:η:=[0,1,2,3]
theorem Vl {t:Int} (h0:0<=t) (h1:t<4):t∈in4:=by
 have:t=0\/t=1\/t=2\/t=3:=by omega
 rcases this with rfl|rfl|rfl|rfl<;>simp[in4]
def ai9 (l:η) (t:Int):Bool:=l.contains t||((iT (l++[t])==Z (qI l [t]))&&(ec (qI l [t])==Z (qI l [t]))&&aw (qI l [t]).length (l++[t]).length)
def aiy (l:η) (t:Int):Bool:= !l.contains t||(db (l,t)==Z (t,wo l t))
theorem abe:((z_ 4).all λl=>in4.all λt=>ai9 l t)=M:=by kernel_rfl
theorem acq:((z_ 4).all λl=>in4.all λt=>aiy l t)=M:=by kernel_rfl
theorem Kw {l:η} {t:Int} (h:xR l) (h2:∀z∈l,0<=z/\z<4) (h0:0<=t) (h1:t<4) (hn:¬t∈l):iT (l++[t])=Z (qI l [t])/\ec (qI l [t])=Z (qI l [t])/\(qI l [t]).length=(l++[t]).length:=by
 have:=gk.1 (gk.1 abe l (ae9 h h2)) t (Vl h0 h1);unfold ai9 at this;have hc:l.contains t=aa:=by simp[hn]
 rw[hc,Bool.false_or,ak,ak]at this;exact⟨eq_of_beq this.1.1,eq_of_beq this.1.2,au this.2⟩
theorem Lc {l:η} {t:Int} (h:xR l) (h2:∀z∈l,0<=z/\z<4) (h0:0<=t) (h1:t<4) (hn:l.contains t=M):db (l,t)=Z (t,wo l t):=by
 have:=gk.1 (gk.1 acq l (ae9 h h2)) t (Vl h0 h1);unfold aiy at this;rw[hn,Bool.not_true,Bool.false_or]at this;exact eq_of_beq this
theorem RH (w:WT) (k o:Int):Ok (ja (w,k,o)) λb=>b=M->NM w k o:=by
 unfold ja aV ba bk bO bf bG aY aB;rcases @yo k with rfl|rfl|rfl|rfl|rfl|rfl|rfl|rfl|rfl|rfl|rfl|rfl|rfl|rfl|rfl|rfl|rfl|rfl|rfl|rfl|rfl|rfl|rfl|⟨hk,d⟩
 case inr.inr.inr.inr.inr.inr.inr.inr.inr.inr.inr.inr.inr.inr.inr.inr.inr.inr.inr.inr.inr.inr.inr=>
  simp only[hk 1 (by decide) (by decide),hk 2 (by decide) (by decide),hk 3 (by decide) (by decide),hk 4 (by decide) (by decide),hk 5 (by decide) (by decide),hk 6 (by decide) (by decide),hk 7 (by decide) (by decide),hk 8 (by decide) (by decide),hk 9 (by decide) (by decide),hk 10 (by decide) (by decide),hk 11 (by decide) (by decide),hk 12 (by decide) (by decide),hk 13 (by decide) (by decide),hk 14 (by decide) (by decide),hk 15 (by decide) (by decide),hk 16 (by decide) (by decide),hk 17 (by decide) (by decide),hk 18 (by decide) (by decide),hk 19 (by decide) (by decide),hk 20 (by decide) (by decide),hk 21 (by decide) (by decide),hk 22 (by decide) (by decide),hk 23 (by decide) (by decide),aN,aS,kJ];with_reducible repeat' first|(refine OS.ok ?_;constructor)|refine IM.mk λ_=>?_
  all_goals try simp only[aj,oq] at*
  all_goals first|omega|(intro h;cases h;done)|skip
 all_goals simp only[aN,aS,kJ,zh]
 all_goals with_reducible repeat' first|(refine OS.ok ?_;constructor)|refine IM.mk λ_=>?_
 all_goals try simp only[aj,oq] at*
 all_goals first|omega|(intro h;cases h;done)|(intro h;constructor<;>first|omega|(intro h2;first|omega|(simpa using h)))
theorem R4 (w:WT) (s:SY) (z:w.2.2.1.length<=1000):Ok (iz (w,s)) λb=>b=M->(∀c∈w.2.2.1,0<=c.2/\c.2<w.2.1.length)/\s.1.length=w.2.1.length/\s.2.2.1.length=w.2.2.2.1.length/\s.2.2.2.length=w.2.2.2.2.1.length:=by
 unfold iz qr aV ba bk cC bx ir bG aY cI aB cu;refine aX (λx=>x.2=w/\(x.1=aa->s.1.length=w.2.1.length/\s.2.2.1.length=w.2.2.2.1.length/\s.2.2.2.length=w.2.2.2.2.1.length)) ?_ ?_
 .refine bV (λ_=>ai ⟨rfl,λh=>(by cases h)⟩) λh1=>bV (λ_=>ai ⟨rfl,λh=>(by cases h)⟩) λh2=>ai ⟨rfl,λq=>?_⟩
  have q:aU s.2.2.2.length=aU w.2.2.2.2.1.length:=by simpa using q
  exact⟨sk h1,sk h2,sk q⟩
 rintro⟨b,x⟩ ⟨e,hb⟩;dsimp only at e hb;subst e;refine aK (λ_=>ai λh=>(by cases h)) λh=>?_
 have hl:=hb h;refine dZ x.2.2.1.length (by omega) (λi y=>y=((i:Int),x)/\∀k:Nat,k<i->0<=(aG (T:=pT) x.2.2.1 (k:Int)).2/\(aG (T:=pT) x.2.2.1 (k:Int)).2<x.2.1.length) ?_ ?_ ⟨rfl,λk hk=>(by omega)⟩
 .rintro i y hi ⟨rfl,d⟩;refine iC (dV (aW (aQ (zh _ _) (bV (λ_=>ai λh=>(by cases h)) λg=>ai ⟨?_,λk hk=>?_⟩))))
  .dsimp only;rw[fx (by omega)]
  .rcases bM k i with h1|h1
   .exact d k h1
   .rw[show k=i by omega];exact g
 .rintro y ⟨rfl,d⟩;exact hX (ai λ_=>⟨il (T:=pT) d,hl⟩)
theorem Wl {n:Nat} (w:WT) (s:SY) (hs:SB n s) (hn:n<=1000) (t k o:Int) (he:EN w s t k o) (n1:¬k=1) (d:¬k=17) (hst:(aG (T:=uP) s.2.2.2 t).1=2):Ok (kC (w,s,t,k,o)) λb=>b=M->FO w s t k o:=by
 obtain⟨nm,t0,t1,cd,e1,e2,e3⟩:=id he;obtain⟨_,_,ce,lk,cn,th,fu,_,_,_⟩:=nm;have hm:16<=k/\k<=19->0<=(aG (T:=pT) w.2.2.1 o).2/\(aG (T:=pT) w.2.2.1 o).2<w.2.1.length:=λh=>cd _ (bH (cn h).1 (cn h).2)
 have z:6<=k/\k<=11->jw ((aG (T:=ti) s.1 o).2,t)=Z ((aG (T:=ti) s.1 o).2.contains t):=λh=>FR _ _ (by
  have:=hs.rd _ (bH (T:=ti) (lk h).1 (by have:=(lk h).2;omega));omega)
 unfold kC aV ba bk cC ci bf ir bG aY aB;rcases @yo k with rfl|rfl|rfl|rfl|rfl|rfl|rfl|rfl|rfl|rfl|rfl|rfl|rfl|rfl|rfl|rfl|rfl|rfl|rfl|rfl|rfl|rfl|rfl|⟨hk,q⟩
 case inr.inr.inr.inr.inr.inr.inr.inr.inr.inr.inr.inr.inr.inr.inr.inr.inr.inr.inr.inr.inr.inr.inr=>omega
 all_goals first|omega|skip
 all_goals simp only[aN,aS,kJ]
 all_goals with_reducible repeat' first|(refine OS.ok ?_;constructor)|refine IM.mk λ_=>?_
 all_goals try simp only[z (by omega),Si]
 all_goals with_reducible repeat' first|(refine OS.ok ?_;constructor)|refine IM.mk λ_=>?_
 all_goals try simp only[aj,oq] at*
 all_goals first|omega|(intro h;cases h;done)|exact (hm ⟨by decide,by decide⟩).1|(rw [e1];exact (hm ⟨by decide,by decide⟩).2)|(intro h;constructor<;>first|omega|(intros;first|omega|assumption|(simpa using h)|exact⟨by assumption,by first|assumption|(simpa using h)⟩))|(constructor<;>(intros;first|omega|assumption))|skip
theorem FO.one {w:WT} {s:SY} {t o:Int} (h:(aG (T:=uP) s.2.2.2 t).1=1):FO w s t 1 o:=by
 constructor<;>(intros;first|omega|assumption)
theorem FO.wake {w:WT} {s:SY} {t o:Int} (h1:(aG (T:=uP) s.2.2.2 t).1=4) (h2:(aG (T:=uP) s.2.2.2 t).2.1=o) (d:(aG (T:=ti) s.1 (aG (T:=pT) w.2.2.1 o).2).1= -1):FO w s t 17 o:=by
 constructor<;>(intros;first|omega|exact⟨h1,h2,d⟩)
theorem R7 {n:Nat} (w:WT) (s:SY) (hs:SB n s) (hn:n<=1000) (F:w.2.2.1.length<=1000) (t k o:Int):Ok (eg (w,s,t,k,o)) λb=>b=M->EN w s t k o/\FO w s t k o:=by
 unfold eg aV ba bk bn cC ci bf bG aY aB;refine aX (λx=>x.2=(w,s)/\(x.1=aa->EN w s t k o)) ?_ ?_
 .refine ar (R4 w s F) λb hb=>cX (λ_=>ai ⟨rfl,λh=>(by cases h)⟩) λh1=>aQ (zh _ _) ?_
  refine bV (λ_=>ai ⟨rfl,λh=>(by cases h)⟩) λh2=>ar (RH w k o) λc hc=>ai ⟨rfl,λI=>?_⟩
  obtain⟨f1,f2,f3,f4⟩:=hb h1;exact⟨hc (by simpa using I),h2.1,h2.2,f1,f2,f3,f4⟩
 rintro⟨b,x⟩ ⟨e,q⟩;dsimp only at e q;subst e;refine aK (λ_=>ai λh=>(by cases h)) λh=>?_
 have he:=q h;obtain⟨nm,t0,t1,cd,e1,e2,e3⟩:=id he;have D:t<(s.2.2.2.length:Int):=by omega
 refine aH t0 D (aW ?_);refine aE (λh=>ai λg=>⟨he,?_⟩) λn1=>?_
 .have h:k=1:=h;subst h;exact FO.one (bg g)
 refine aE (λh=>?_) λd=>?_
 .have h:k=17:=h;subst h;obtain⟨A,z⟩:=nm.cd (by omega);have hq:=cd _ (bH (T:=pT) (xs:=w.2.2.1) (j:=o) A z);refine fO (aE (λg1=>aE (λg2=>?_) λ_=>ai (ai λh=>(by cases h))) λ_=>ai (ai λh=>(by cases h)));exact aH A z (aW (aH hq.1 (by rw[e1];exact hq.2) (aW (ai (ai λL=>⟨he,FO.wake g1 g2 (bg L)⟩)))))
 refine fO (aE (λg=>?_) λ_=>ai (ai λh=>(by cases h)));exact ar (Wl w s hs hn t k o he n1 d g) λc hc=>ai (ai λh=>⟨he,hc h⟩)
theorem HP {σ R:Type} {f:σ->J (σ⊕R)} {Q:R->Prop} (n:Nat) (μ:σ->Nat) (I:σ->Prop) (h:∀x,I x->Ok (f x) λr=>match r with|.inl y=>I y/\μ y<μ x|.inr r=>Q r) {x:σ} (hn:μ x<=n/\n<=1000000) (d:I x):Ok (fR f x) Q:=by
 have key:∀n x,μ x<n->I x->∃r,iterN f n x=Z r/\Q r:=by
  intro n;induction n with
  |zero=>intro x hm;omega
  |succ n q=>
   intro x hm d;obtain⟨r,h1,h2⟩:=h x d;cases r with
   |inl y=>
    obtain⟨r,z,s⟩:=q y (by have:=h2.2;omega) h2.1;exact⟨r,by rw[iterN,h1];exact z,s⟩
   |inr r=>exact⟨r,by rw[iterN,h1],h2⟩
 obtain⟨r,h1,h2⟩:=key (n+1) x (Nat.lt_succ_of_le hn.1) d;exact⟨r,vB h1 (by omega),h2⟩
def S7 (z:Int):Bool:=decide (97<=z/\z<=122\/65<=z/\z<=90)
def DF (z:Int):Bool:=decide (97<=z/\z<=122\/65<=z/\z<=90\/48<=z/\z<=57\/z=95)
def UR:Y ζ:=[[118,97,114],[118,111,108,97,116,105,108,101],[109,117,116,101,120],[114,119,108,111,99,107],[99,111,110,100],[102,117,116,117,114,101],[116,104,114,101,97,100],[105,102],[101,108,115,101],[119,104,105,108,101],[108,111,99,107],[114,101,97,100],[119,114,105,116,101],[116,114,97,110,115,97,99,116,105,111,110],[97,116,111,109,105,99],[119,97,105,116],[110,111,116,105,102,121],[110,111,116,105,102,121,97,108,108],[115,112,97,119,110],[106,111,105,110],[115,101,116],[103,101,116]]
structure t7 (s:ζ):Prop where
 l1:1<=s.length
 l2:s.length<=12
 lt:S7 (qJ s 0)=M
 kw:¬s∈UR
 al:∀k:Nat,k<s.length->DF (qJ s (k:Int))=M
theorem MT (c:Int):lA c=Z (S7 c):=by
 refine bY ?_;unfold lA jk aB;with_reducible repeat' first|(refine OS.ok ?_;constructor)|refine IM.mk λ_=>?_
 all_goals try simp only[aj,oq] at*
 all_goals (rw [ED];simp only[S7,oW,bz,true_iff,iff_true,bF,false_iff];omega)
theorem Ze (c:Int):pu c=Z (DF c):=by
 refine bY ?_;unfold pu tI jk aB;have hL:S7 c=M↔(97<=c/\c<=122\/65<=c/\c<=90):=by unfold S7;exact decide_eq_true_iff
 have d:DF c=M↔(97<=c/\c<=122\/65<=c/\c<=90\/48<=c/\c<=57\/c=95):=by unfold DF;exact decide_eq_true_iff
 refine fO (aQ (MT c) (aK (λh=>ai (ai ?_)) λh=>?_))
 .symm;rw[d];have:=hL.1 h;omega
 have h':¬(97<=c/\c<=122\/65<=c/\c<=90):=λg=>by rw[hL.2 g]at h;cases h
 refine ar (P:=λb=>b=decide (48<=c/\c<=57)) ?_ λb hb=>?_
 .refine fO (dX (λ_=>ai (ai ?_)) λ_=>ai (ai ?_))
  .rw[ED];simp only[oW,bz];omega
  .rw[ED];simp only[bz,bF,false_iff];omega
 subst hb;refine aE (λ_=>ai (ai ?_)) λ_=>ai (ai ?_)
 .symm;rw[d];omega
 .rw[ED,d];simp only[bz];omega
theorem BW {s:ζ}:s∈UR↔∃i:Nat,i<22/\UR.getD i []=s:=by
 constructor
 .intro h;obtain⟨i,hi,e⟩:=ve h;exact⟨i,hi,by rw[ay,ax hi];exact e⟩
 .rintro⟨i,hi,rfl⟩;have hi:i<UR.length:=hi;rw[ay,ax hi];exact qF _
theorem ON (s:ζ):jH s=Z (decide (s∈UR)):=by
 refine bY ?_;unfold jH bx bG aY cI aB cu;refine aQ (x:=UR) rfl ?_;refine cg 22 (λi x=>x=(i:Int)/\∀k:Nat,k<i->¬UR.getD k []=s) ?_ ?_ ⟨rfl,λk hk=>by omega⟩
 .rintro i x hi ⟨rfl,hn⟩;refine iC (dV (aW (aE (λh=>ai ?_) λh=>ai ⟨fx (by omega),λk hk=>?_⟩)) (by omega) (by show (i:Int)<((22:Nat):Int);omega)) (by show (i:Int)<((22:Nat):Int);omega)
  .have h:UR.getD i []=s:=h;exact (be (BW.2 ⟨i,hi,h⟩)).symm
  .have h:¬UR.getD i []=s:=h;rcases bM k i with g|g
   .exact hn k g
   .rw[show k=i by omega];exact h
 .rintro x ⟨rfl,hn⟩;refine hX (ai (Eq.symm (bD λh=>?_))) (by show ((22:Nat):Int)<=((22:Nat):Int);omega);obtain⟨i,hi,e⟩:=BW.1 h;exact hn i hi e
theorem US (s:ζ):ig s=Z (decide (s∈UR)):=by
 refine bY ?_;unfold ig nP ub ze Prod.p12 Prod.p13 Prod.p14 Prod.p15 Prod.p16 Prod.p17 Prod.p18 Prod.p19 aV Prod.p20 ba bk bO cU fM ry um Prod.q21 bx bo cI aB cu;refine aW ?_;refine dZ 22 (by omega) (λi x=>x=(i:Int)/\∀k:Nat,k<i->¬UR.getD k []=s) ?_ ?_ ⟨rfl,λk hk=>by omega⟩
 .rintro i x hi ⟨rfl,hn⟩;refine iC (cK (cY (by omega) (rE (by omega) (aW (aE (λh=>ai ?_) λh=>ai ⟨fx (by omega),λk hk=>?_⟩)))))
  .have h:s=UR.getD i []:=h;exact (be (BW.2 ⟨i,hi,h.symm⟩)).symm
  .have h:¬s=UR.getD i []:=h;rcases bM k i with g|g
   .exact hn k g
   .rw[show k=i by omega];exact λe=>h e.symm
 .rintro x ⟨rfl,hn⟩;refine hX (ai (Eq.symm (bD λh=>?_)));obtain⟨i,hi,e⟩:=BW.1 h;exact hn i hi e
theorem aan (s:ζ):Ok (fh s) λb=>b=M↔t7 s:=by
 unfold fh bx l8 aY cI aB cu;refine aX (λb=>(b=aa↔(1<=s.length/\s.length<=12)/\S7 (qJ s 0)=M/\¬s∈UR)) ?_ ?_
 .refine aR (λh=>ai ?_) λh=>aR (λh2=>ai ?_) λh2=>?_
  .dsimp only[aj]at h;constructor
   .intro h;cases h
   .intro h;omega
  .dsimp only[aj]at h2;constructor
   .intro h;cases h
   .intro h;omega
  dsimp only[aj]at h h2;refine dV (aQ (MT _) (cX (λhl=>ai ?_) λhl=>aQ (ON s) (ai ?_)))
  .rw[hl];simp
  .exact decide_eq_false_iff_not.trans ⟨λhk=>⟨⟨by omega,by omega⟩,hl,hk⟩,λhk=>hk.2.2⟩
 rintro b hb;refine aK (λh=>ai ?_) λh=>?_
 .subst h;constructor
  .intro h;cases h
  .intro d;have:=hb.2 ⟨⟨d.l1,d.l2⟩,d.lt,d.kw⟩;cases this
 obtain⟨⟨l1,l2⟩,lt,kw⟩:=hb.1 h;refine cg s.length (λi x=>x=(i:Int)/\∀k:Nat,k<i->DF (qJ s (k:Int))=M) ?_ ?_ ⟨rfl,λk hk=>by omega⟩
 .rintro i x hi ⟨rfl,hn⟩;refine iC (dV (aQ (Ze _) (cX (λhl=>ai ?_) λhl=>ai ⟨fx (by omega),λk hk=>?_⟩)))
  .constructor
   .intro h;cases h
   .intro d;have:=d.al i hi;rw[hl]at this;cases this
  .rcases bM k i with g|g
   .exact hn k g
   .rw[show k=i by omega];exact hl
 .rintro x ⟨rfl,hn⟩;exact hX (ai ⟨λ_=>⟨l1,l2,lt,kw,hn⟩,λ_=>rfl⟩)
theorem abj (s:ζ) (j:Int):0<=qJ s j/\qJ s j<256:=by
 unfold qJ;have:=(s.getD j.toNat 0).toNat_lt;constructor
 .exact ey _
 .have:(s.getD j.toNat 0).toNat<256:=this;show ((s.getD j.toNat 0).toNat:Int)<256;omega
theorem Pd (s:ζ) (i:Nat):qJ s (i:Int)=((s.getD i 0).toNat:Int):=rfl
theorem aib {s:ζ} {i:Nat} (h:qJ s (i:Int)<128):Nj s i=qJ s (i:Int)/\So s i=1:=by
 rw[Pd]at h ⊢;have hb:eS (s.getD i 0).toNat 128=M:=bt (by omega);unfold Nj So rnA wdA;rw[hb];exact⟨rfl,rfl⟩
theorem afq (s:ByteArray) (p:Nat) (h:¬(s.get! p).toNat<128):128<=(xJ s p).1:=by
 unfold xJ;simp only[dh];rw[aL h];split
 .split
  .assumption
  .decide
 split
 .split
  .rename_i h;simp only[ak,bz]at h;show 128<=_;have:=h.1;omega
  .decide
 split
 .split
  .rename_i h;simp only[ak,bz]at h;show 128<=_;have:=h.1;omega
  .decide
 .decide
theorem aic {s:ζ} {i:Nat} (hi:i<s.length) (h:¬qJ s (i:Int)<128):128<=Nj s i:=by
 rw[Pd]at h;have hb:eS (s.getD i 0).toNat 128=aa:=by
  cases e:eS (s.getD i 0).toNat 128 with
  |false=>rfl
  |true=>have:=a_ e;omega
 unfold Nj rnA;rw[hb];have hg:(⟨eT s⟩:ByteArray).get! i=s.getD i 0:=by
  show (eT s)[i]! =_;rw[getElem!_pos (eT s) i (by simpa using hi),ay,ax hi];rfl
 have:=afq ⟨eT s⟩ i (by rw[hg];omega);show (128:Int)<=((xJ ⟨eT s⟩ i).1:Int)
 omega
theorem ae1 (s:ζ):Ok (kA s) λb=>b=M↔t7 s:=by
 unfold kA rI bf bx jk aY cI aB;refine aX (λb=>(b=aa↔(1<=s.length/\s.length<=12)/\¬s∈UR)) ?_ ?_
 .refine aR (λh=>ai ?_) λh=>aR (λh2=>ai ?_) λh2=>?_
  .dsimp only[aj]at h;constructor
   .intro h;cases h
   .intro h;omega
  .dsimp only[aj]at h2;constructor
   .intro h;cases h
   .intro h;omega
  dsimp only[aj]at h h2;refine aQ (US s) (ai ?_);exact decide_eq_false_iff_not.trans ⟨λhk=>⟨⟨by omega,by omega⟩,hk⟩,λhk=>hk.2⟩
 rintro b hb;refine aK (λh=>ai ?_) λh=>?_
 .subst h;constructor
  .intro h;cases h
  .intro D;have:=hb.2 ⟨⟨D.l1,D.l2⟩,D.kw⟩;cases this
 obtain⟨⟨l1,l2⟩,kw⟩:=hb.1 h;refine dZ s.length (by omega) (λi x=>x=[((s,(i:Int)),())]/\∀k:Nat,k<i->DF (qJ s (k:Int))=M/\(k=0->S7 (qJ s 0)=M)) ?_ ?_ ⟨rfl,λk hk=>by omega⟩
 .rintro i x hi ⟨rfl,hn⟩;have I:G' [((s,(i:Int)),())]=s:=rfl;have L:F3 [((s,(i:Int)),())]=i:=rfl;rw[I,L];refine eO (bt hi) ?_;have hbad:¬DF (qJ s (i:Int))=M->(aa=M↔t7 s):=λhb=>⟨λh=>(by cases h),λD=>(hb (D.al i hi)).elim⟩
  have hbad0:¬S7 (qJ s 0)=M->(aa=M↔t7 s):=λhb=>⟨λh=>(by cases h),λD=>(hb D.lt).elim⟩
  have F:∀c,DF c=M↔(97<=c/\c<=122\/65<=c/\c<=90\/48<=c/\c<=57\/c=95):=λc=>by unfold DF;exact decide_eq_true_iff
  have hL:∀c,S7 c=M↔(97<=c/\c<=122\/65<=c/\c<=90):=λc=>by unfold S7;exact decide_eq_true_iff
  have hsg:=abj s (i:Int);have hrn:(qJ s (i:Int)<128/\Nj s i=qJ s (i:Int)/\So s i=1)\/(¬qJ s (i:Int)<128/\128<=Nj s i):=by
   by_cases g:qJ s (i:Int)<128
   .exact .inl ⟨g,aib g⟩
   .exact .inr ⟨g,aic hi g⟩
  have hno:128<=Nj s i->¬DF (qJ s (i:Int))=M:=λg h=>by
   rcases hrn with ⟨h1,h2,_⟩|⟨h1,_⟩
   .omega
   .rw[F]at h;omega
  generalize hz:Nj s i=z at hrn hno ⊢;have hnxt:z<128->[((s,(aU (i+So s i))),())]=[((s,((i+1:Nat):Int)),())]:=λg=>by
   rcases hrn with ⟨_,_,d⟩|⟨_,h2⟩
   .rw[d];rfl
   .omega
  have hgood:z<128->DF z=M->(i=0->S7 z=M)->∀k:Nat,k<i+1->DF (qJ s (k:Int))=M/\(k=0->S7 (qJ s 0)=M):=λg h1 h2 k hk=>by
   rcases hrn with ⟨_,d,_⟩|⟨_,d⟩
   .rcases bM k i with q|q
    .exact hn k q
    .have:k=i:=by omega
     subst this;refine ⟨by rw[<- d];exact h1,λe=>?_⟩;subst e;have:=h2 rfl;rw[d]at this;exact this
   .omega
  have heq:z<128->z=qJ s (i:Int):=λg=>by
   rcases hrn with ⟨_,d,_⟩|⟨_,d⟩
   .exact d
   .omega
  refine aX (λy=>y=[((s,(aU (i+So s i))),())]/\z<128/\DF z=M/\(i=0->S7 z=M)) ?_ ?_
  .refine aX (λy=>y.2=[((s,(aU (i+So s i))),())]/\(y.1=M↔S7 z=M)) ?_ ?_
   .refine dX (λ_=>dX (λ_=>ai ⟨rfl,?_⟩) λ_=>dX (λ_=>ai ⟨rfl,?_⟩) λ_=>ai ⟨rfl,?_⟩) λ_=>dX (λ_=>ai ⟨rfl,?_⟩) λ_=>ai ⟨rfl,?_⟩
    all_goals (rw [hL];simp only[oW,true_iff,bF,false_iff];omega)
   rintro⟨y1,y2⟩ ⟨e,A⟩;dsimp only at e A;subst e;refine aK (λh=>ai ⟨rfl,?_⟩) λh=>?_
   .have h:=A.1 h;have h':=(hL z).1 h;exact⟨by omega,(F z).2 (by omega),λ_=>h⟩
   have hl:¬S7 z=M:=λg=>by rw[A.2 g]at h;cases h
   have hl2:¬(97<=z/\z<=122\/65<=z/\z<=90):=λg=>hl ((hL z).2 g)
   refine aX (λy=>y.2=[((s,(aU (i+So s i))),())]/\(y.1=M↔0<i/\(z=95\/48<=z/\z<=57))) ?_ ?_
   .refine aR (λg=>aE (λg2=>ai ⟨rfl,?_⟩) λg2=>dX (λg3=>ai ⟨rfl,?_⟩) λg3=>ai ⟨rfl,?_⟩) λg=>ai ⟨rfl,?_⟩
    all_goals simp only[oW,true_iff,bF,false_iff]
    all_goals dsimp only[aj]at g
    all_goals omega
   rintro⟨y1,y2⟩ ⟨e,A⟩;dsimp only at e A;subst e;refine aK (λh=>ai ⟨rfl,?_⟩) λh=>?_
   .obtain⟨g1,g2⟩:=A.1 h;exact⟨by omega,(F z).2 (by omega),λe=>(by omega)⟩
   .have hn2:¬(0<i/\(z=95\/48<=z/\z<=57)):=λg=>by rw[A.2 g]at h;cases h
    by_cases h0:i=0
    .subst h0;refine ai (hbad0 λg=>hl ?_);rcases hrn with ⟨_,d,_⟩|⟨d,_⟩
     .rw[d];exact g
     .rw[hL]at g;have d:¬qJ s 0<128:=d;omega
    .refine ai (hbad λg=>?_);by_cases g1:z<128
     .rw[<- heq g1,F]at g;omega
     .exact hno (by omega) g
  .rintro y ⟨rfl,h1,h2,d⟩;exact ai ⟨hnxt h1,hgood h1 h2 d⟩
 .rintro x ⟨rfl,hn⟩;have I:G' [((s,(s.length:Int)),())]=s:=rfl;have L:F3 [((s,(s.length:Int)),())]=s.length:=rfl;rw[I,L];refine jr ?_ (ai ⟨λ_=>⟨l1,l2,(hn 0 (by omega)).2 rfl,kw,λk hk=>(hn k hk).1⟩,λ_=>rfl⟩);cases e:eS s.length s.length with
  |false=>rfl
  |true=>have:=a_ e;omega
theorem SR (w:WT) (e:ET):Ok (gr (w,e)) λb=>b=M->(e.2.1=1\/e.2.1=2->e.2.2.2.2.1= -1)/\(¬(e.2.1=1\/e.2.1=2)->0<=e.2.2.2.2.1/\e.2.2.2.2.1<w.2.2.2.2.2.length/\(aG (T:=De) w.2.2.2.2.2 e.2.2.2.2.1).1=e.1):=by
 unfold gr aV cU ci bf bx jk bG aY aB;refine aX (λx=>x.2=(w,e)/\(x.1=M↔e.2.1=1\/e.2.1=2)) (aE (λh=>ai ⟨rfl,λ_=>.inl h,λ_=>rfl⟩) λh=>ai ⟨rfl,λh2=>.inr (bg h2),λh2=>be (h2.resolve_left h)⟩) ?_;rintro⟨b,x⟩ ⟨e1,hb⟩;dsimp only at e1 hb;subst e1;refine aK (λh=>ai λg=>⟨λ_=>bg g,λd=>(d (hb.1 h)).elim⟩) λh=>?_
 have nb:¬(e.2.1=1\/e.2.1=2):=λg=>by have h:b=aa:=h;rw[hb.2 g]at h;cases h
 refine fO (dX (λq=>aR (λd=>aH q d (aW (ai (ai λg=>⟨λs=>(nb s).elim,λ_=>⟨q,d,bg g⟩⟩)))) λ_=>ai (ai λg=>(by cases g))) λ_=>ai (ai λg=>(by cases g)))
theorem ZB (w:WT) (s:SN) (q:w.2.2.1.length<=1000):Ok (ie (w,s)) λb=>b=M->R6 w s:=by
 unfold ie aV ba bk cC bf aY aB;refine fO (ar (R4 w s.1 q) λb hb=>aK (λh=>?_) λ_=>ai (ai λg=>(by cases g)));refine aE (λA=>aE (λz=>ai (ai λd=>?_)) λ_=>ai (ai λg=>(by cases g))) λ_=>ai (ai λg=>(by cases g))
 have d:aU s.2.2.2.length=aU w.2.2.2.2.1.length:=bg d;exact⟨sk A,sk z,sk d⟩
theorem Ju (w:WT) (s:SN) (e:ET) (ce:e.2.1=3\/e.2.1=4->0<=e.2.2.1/\e.2.2.1<w.1.length) (t0:0<=e.1) (t1:e.1<(s.2.2.2.length:Int)) (cb:(aG (T:=.int .i64) s.2.2.2 e.1:Int)<=1000):Ok (dy (w,s,e)) λb=>b=M->(0<e.2.2.2.2.2.1.length->e.2.1=5\/(e.2.1=3\/e.2.1=4)/\¬(aG (T:=OR) w.1 e.2.2.1).2.2.1=0)/\(0<e.2.2.2.2.2.2.length->e.2.1=4\/e.2.1=22)/\AN (aG (T:=.int .i64) s.2.2.2 e.1) e.2.2.2.2.2.1/\AN (aG (T:=.int .i64) s.2.2.2 e.1) e.2.2.2.2.2.2:=by
 unfold dy gN aV ba bk bO bn cC dx bf bx jk bo bG aY cI aB cu;refine aX (λx=>x.2=(s,e)/\(x.1=M->(e.2.1=3\/e.2.1=4)/\¬(aG (T:=OR) w.1 e.2.2.1).2.2.1=0)) ?_ ?_
 .refine aE (λh=>?_) λn3=>aE (λh=>?_) λn4=>?_
  .exact aH (ce (.inl h)).1 (ce (.inl h)).2 (aW (ai ⟨rfl,λg=>⟨.inl h,by simpa using g⟩⟩))
  .exact aH (ce (.inr h)).1 (ce (.inr h)).2 (aW (ai ⟨rfl,λg=>⟨.inr h,by simpa using g⟩⟩))
  .exact ai ⟨rfl,λg=>(by cases g)⟩
 rintro⟨b,x⟩ ⟨e1,hb⟩;dsimp only at e1 hb;subst e1;refine aX (λx=>x.1=s/\x.2.1=e/\(x.2.2.1=M->e.2.1=5\/(e.2.1=3\/e.2.1=4)/\¬(aG (T:=OR) w.1 e.2.2.1).2.2.1=0)/\(x.2.2.2=M->e.2.1=4\/e.2.1=22)) ?_ ?_
 .refine aE (λh5=>aE (λI=>ai ⟨rfl,rfl,λ_=>.inl h5,λ_=>.inl I⟩) λI=>ai ⟨rfl,rfl,λ_=>.inl h5,λg=>.inr (bg g)⟩) λh5=>aE (λI=>ai ⟨rfl,rfl,λg=>.inr (hb g),λ_=>.inl I⟩) λI=>ai ⟨rfl,rfl,λg=>.inr (hb g),λg=>.inr (bg g)⟩
 rintro⟨s',e',a,b'⟩ ⟨e1,e2,h1,h2⟩;dsimp only at e1 e2 h1 h2;subst e1;subst e2
 let P:η->Bool->Prop:=λr a=>(0<r.length->a=M)/\AN (aG (T:=.int .i64) s'.2.2.2 e'.1) r
 refine dZ 2 (by omega) (λi x=>x=((i:Int),s',e',a,b')/\(0<i->P e'.2.2.2.2.2.1 a)/\(1<i->P e'.2.2.2.2.2.2 b')) ?_ ?_ ⟨rfl,λh=>(by omega),λh=>(by omega)⟩
 .rintro i x hi ⟨rfl,p1,p2⟩;refine iC ?_;refine cK (cY (by dsimp only;omega) (rE (by dsimp only;omega) (aW ?_)));have hr:∃(r:η) (q:Bool),aG (T:=.sl (.int .i64)) [e'.2.2.2.2.2.1,e'.2.2.2.2.2.2] (i:Int)=r/\aG (T:=.bool) [a,b'] (i:Int)=q/\(P r q->(0<i+1->P e'.2.2.2.2.2.1 a)/\(1<i+1->P e'.2.2.2.2.2.2 b')):=by
   match i,hi with
   |0,_=>exact⟨_,_,rfl,rfl,λh=>⟨λ_=>h,λh=>(by omega)⟩⟩
   |1,_=>exact⟨_,_,rfl,rfl,λh=>⟨λ_=>p1 (by omega),λ_=>h⟩⟩
  obtain⟨r,q,er,eq,hP⟩:=hr;have er':aG (T:=.sl aM) [e'.2.2.2.2.2.1,e'.2.2.2.2.2.2] (i:Int)=r:=er;dsimp only at er' ⊢;rw[er'];refine aX (λx=>x.2=(s',e',a,b')/\(x.1=aa->0<r.length->q=M)) ?_ ?_
  .refine aR (λg=>?_) λg=>ai ⟨rfl,λ_ h=>?_⟩
   .have g':0<r.length:=by dsimp only[aj]at g;omega
    refine cK (cY (by omega) (rE (by omega) (dV (aW (ai ⟨rfl,λh _=>?_⟩)))));rw[<- eq];simpa using h
   .dsimp only[aj]at g;omega
  rintro⟨f,x⟩ ⟨e1,hq⟩;dsimp only at e1 hq;subst e1;refine aK (λ_=>ai λh=>(by cases h)) λhf=>?_
  have jb:∀j:Nat,(∀m:Nat,m<j->1<=aG (T:=.int .i64) r (m:Int)/\aG (T:=.int .i64) r (m:Int)<aG (T:=.int .i64) s'.2.2.2 e'.1)->(∀m:Nat,m+1<j->r.getD m 0<r.getD (m+1) 0)->j<=1000:=λj A g4=>by
   have h3:(j:Int)<=max (0:Int) (aG (T:=.int .i64) s'.2.2.2 e'.1):=Zj A g4;have:=eX h3 (xd.2 ⟨by decide,cb⟩);omega
  refine HP 1001 (λx=>(1001-x.1.2).toNat) (λx=>∃j:Nat,j<=r.length/\x.1.2=(j:Int)/\x.2=(s',e',a,b')/\(∀m:Nat,m<j->1<=aG (T:=.int .i64) r (m:Int)/\aG (T:=.int .i64) r (m:Int)<aG (T:=.int .i64) s'.2.2.2 e'.1)/\(∀m:Nat,m+1<j->r.getD m 0<r.getD (m+1) 0)/\(j=0->x.1.1=0)/\(0<j->x.1.1=r.getD (j-1) 0)) ?_ ⟨by dsimp only;omega,by omega⟩ ⟨0,oN _,rfl,rfl,λm h=>(by omega),λm h=>(by omega),λ_=>rfl,λh=>(by omega)⟩;rintro⟨⟨(la:Int),ix⟩,x⟩ ⟨j,hjl,g1,g2,A,g4,g5,L⟩;dsimp only at g1 g2 g5 L;subst g1;subst g2;have hjb:=jb j A g4;rcases bM j r.length with hj|hj
  .refine iC ?_;refine dV (aW (aX (λx=>x.2=(s',e',a,b')/\(x.1=aa->la<aG (T:=.int .i64) r (j:Int)/\aG (T:=.int .i64) r (j:Int)<aG (T:=.int .i64) s'.2.2.2 e'.1)) ?_ ?_))
   .refine dX (λg=>ai ⟨rfl,λh=>(by cases h)⟩) λg=>aH t0 t1 (aW (ai ⟨rfl,λh=>⟨g,ko.1 h⟩⟩))
   rintro⟨f2,x⟩ ⟨e1,F⟩;dsimp only at e1 F;subst e1;refine aK (λ_=>ai λh=>(by cases h)) λhf2=>ai ?_
   obtain⟨c1,c2⟩:=F hf2;obtain⟨D,d⟩:∃D:Int,D=la:=⟨la,rfl⟩
   replace c1:D<(r.getD j 0:Int):=by rw[d];exact c1
   replace c2:(r.getD j 0:Int)<(aG (T:=.int .i64) s'.2.2.2 e'.1:Int):=c2
   replace g5:j=0->D=(0:Int):=λh=>d.trans (g5 h)
   replace L:0<j->D=(r.getD (j-1) 0:Int):=λh=>d.trans (L h)
   have lo:(1:Int)<=r.getD j 0:=by
    rcases rz j with z|z
    .have:=g5 z;omega
    .have:=L z;have q:(1:Int)<=r.getD (j-1) 0:=(A (j-1) (by omega)).1;omega
   refine ⟨⟨j+1,hj,fx (by omega),rfl,λm hm=>?_,λm hm=>?_,λh=>(by omega),λ_=>rfl⟩,by dsimp only;rw[fx (by omega)];omega⟩
   .rcases bM m j with z|z
    .exact A m z
    .rw[show m=j by omega];exact⟨lo,c2⟩
   .rcases bM (m+1) j with z|z
    .exact g4 m z
    .have z2:m=j-1:=by omega
     have:=L (by omega);rw[z2,show j-1+1=j by omega];omega
  .have hjr:j=r.length:=by omega
   subst hjr;have hA:AN (aG (T:=.int .i64) s'.2.2.2 e'.1) r:=⟨OB r λk hk=>g4 k hk,il (T:=.int .i64) A⟩
   exact hX (ai ⟨iX (·,s',e',a,b') (fx (by omega)),hP ⟨hq hf,hA⟩⟩)
 .rintro x ⟨rfl,p1,p2⟩;refine hX (ai λ_=>?_);have p1:=p1 (by omega);have p2:=p2 (by omega);exact⟨λg=>h1 (p1.1 g),λg=>h2 (p2.1 g),p1.2,p2.2⟩
theorem Sr {n:Nat} (w:WT) (s:SN) (hs:SB n s.1) (e:ET) (hf:R6 w s) (he:EN w s.1 e.1 e.2.1 e.2.2.1):Ok (eK (s,e)) λb=>b=M->VA w s.1 s.2.1 s.2.2.1 e.1 e.2.1 e.2.2.1 e.2.2.2.1:=by
 obtain⟨t,k,o,v,F,de,fr⟩:=e;obtain⟨s1,s2,L,s4⟩:=s;obtain⟨nm,t0,t1,cd,e1,e2,e3⟩:=he;obtain⟨_,_,ce,lk,cn,th,fu,_,_,_⟩:=nm;obtain⟨f1,f2,f3⟩:=hf;have hth:=hs.th;dsimp only at*
 unfold eK jL aV ba bk bO bn bf bx bG aY cI aB cu;refine aE (λh=>?_) λn3=>?_
 .have h:k=3:=h;obtain⟨c0,c1⟩:=ce (.inl h);exact aH c0 (by rw[f1];exact c1) (aW (ai λh2=>⟨λ_=>bg h2,λd=>by omega,λd=>by omega,λd=>(d h).elim⟩))
 refine aE (λh=>?_) λI=>?_
 .have h:k=23:=h;obtain⟨c0,c1⟩:=fu (.inr h);exact aH c0 (by rw[f2];exact c1) (aW (ai λh2=>⟨λd=>by omega,λ_=>bg h2,λd=>by omega,λ_ d=>(d h).elim⟩))
 refine aE (λh=>?_) λn5=>?_
 .have h:k=5:=h;exact fO (aE (λh2=>ai (ai λ_=>⟨λd=>by omega,λd=>by omega,λ_=>.inl h2,λ_ _ d=>(d h).elim⟩)) λ_=>ai (ai λh2=>⟨λd=>by omega,λd=>by omega,λ_=>.inr (bg h2),λ_ _ d=>(d h).elim⟩))
 refine aX (λx=>x.2=((s1,s2,L,s4),t,k,o,v,F,de,fr)/\(x.1=M->k=4\/k=22)) (aE (λh=>ai ⟨rfl,λ_=>.inl h⟩) λ_=>ai ⟨rfl,λh=>.inr (bg h)⟩) ?_;rintro⟨b,x⟩ ⟨e,hb⟩;dsimp only at e hb;subst e;refine aK (λh=>ai λ_=>⟨λd=>(n3 d).elim,λd=>(I d).elim,λd=>(n5 d).elim,λ_ _ _ h4 h5=>(hb h).elim (λh=>(h4 h).elim) λh=>(h5 h).elim⟩) λ_=>?_
 have fin:v=(vW w s1 t k o v).2->VA w s1 s2 L t k o v:=λh=>⟨λd=>(n3 d).elim,λd=>(I d).elim,λd=>(n5 d).elim,λ_ _ _ _ _=>h⟩
 have hWl:=pW s1.2.2.2 o s1.2.2.2.length;refine aE (λh=>?_) λn18=>?_
 .have h:k=18:=h;subst h;rw[JY]at fin;refine dZ s1.2.2.2.length (by omega) (λi x=>x.1.2.2=(i:Int)/\x.2=(t,18,o,v,F,de,fr)/\x.1.1=((wl s1.2.2.2 o i).length:Int)/\(x.1.2.1=M↔v∈wl s1.2.2.2 o i)) ?_ ?_ ⟨rfl,rfl,rfl,by simp[wl]⟩
  .rintro i ⟨⟨c,hit,ix⟩,x⟩ hi ⟨z,q,A,D⟩;dsimp only at z q A D;subst z;subst q;subst A;have hl:=pW s1.2.2.2 o i;refine iC ?_;refine aX (λx=>x.2=(t,18,o,v,F,de,fr)/\x.1.1=((wl s1.2.2.2 o (i+1)).length:Int)/\(x.1.2=M↔v∈wl s1.2.2.2 o (i+1))) ?_ ?_
   .refine dV (aW (aX (λx=>x=(EE o (aG (T:=uP) s1.2.2.2 (i:Int)),t,18,o,v,F,de,fr)) ?_ ?_))
    .unfold EE;refine aE (λh=>ai ?_) λh=>ai ?_
     .dsimp only at h ⊢;rw[h];rfl
     .dsimp only at h ⊢;rw[bD h];rfl
    rintro x rfl;rw[zg];dsimp only;cases hw:EE o (aG (T:=uP) s1.2.2.2 (i:Int)) with
    |true=>
     refine rU (aK (λh=>ai ⟨rfl,?_,?_⟩) λh=>ai ⟨rfl,?_,?_⟩)
     .dsimp only;rw[fx (by omega)];simp
     .simp[D.1 h]
     .dsimp only;rw[fx (by omega)];simp
     .have:¬v∈wl s1.2.2.2 o i:=λg=>by rw[D.2 g]at h;cases h
      simp[this]
    |false=>exact gw (ai ⟨rfl,rfl,D⟩)
   rintro⟨⟨c,hit'⟩,x⟩ ⟨z,q,A⟩;dsimp only at z q A;subst z;subst q;exact ai ⟨fx (by omega),rfl,rfl,A⟩
  .rintro⟨⟨c,hit,ix⟩,x⟩ ⟨z,q,A,D⟩;dsimp only at z q A D;subst z;subst q;subst A;revert fin hWl D;generalize wl s1.2.2.2 o s1.2.2.2.length=l;intro hWl fin D;have hin:v∈l->VA w s1 s2 L t 18 o v:=λh=>fin (by
    have hne:¬l.length=0:=λh0=>by rw[ji.1 h0]at h;cases h
    rw[aL hne];unfold Df;rw[aL hne,aT (sC.2 h)])
   refine hX (ar (P:=λy=>y=M->VA w s1 s2 L t 18 o v) (fO (aK (λh=>ai (ai λ_=>hin (D.1 h))) λh=>?_)) λy hy=>ai hy);refine aE (λg=>ai (ai λh2=>fin ?_)) λg=>ai (ai λh=>(by cases h))
   dsimp only at g;rw[aT (by omega)];exact bg h2
 refine aE (λh=>?_) λn19=>?_
 .have h:k=19:=h;subst h;rw[UE]at fin;refine dZ s1.2.2.2.length (by omega) (λi x=>x.1.2=(i:Int)/\x.2=(t,19,o,v,F,de,fr)/\x.1.1=((wl s1.2.2.2 o i).length:Int)) ?_ ?_ ⟨rfl,rfl,rfl⟩
  .rintro i ⟨⟨c,ix⟩,x⟩ hi ⟨z,q,A⟩;dsimp only at z q A;subst z;subst q;subst A;have hl:=pW s1.2.2.2 o i;refine iC ?_;refine aX (λx=>x.2=(t,19,o,v,F,de,fr)/\x.1=((wl s1.2.2.2 o (i+1)).length:Int)) ?_ ?_
   .refine dV (aW (aX (λx=>x=(EE o (aG (T:=uP) s1.2.2.2 (i:Int)),t,19,o,v,F,de,fr)) ?_ ?_))
    .unfold EE;refine aE (λh=>ai ?_) λh=>ai ?_
     .dsimp only at h ⊢;rw[h];rfl
     .dsimp only at h ⊢;rw[bD h];rfl
    rintro x rfl;rw[zg];dsimp only;cases hw:EE o (aG (T:=uP) s1.2.2.2 (i:Int)) with
    |true=>
     refine rU (ai ⟨rfl,?_⟩);dsimp only;rw[fx (by omega)];simp
    |false=>exact gw (ai ⟨rfl,rfl⟩)
   rintro⟨c,x⟩ ⟨z,q⟩;dsimp only at z q;subst z;subst q;exact ai ⟨fx (by omega),rfl,rfl⟩
  .rintro⟨⟨c,ix⟩,x⟩ ⟨z,q,A⟩;dsimp only at z q A;subst z;subst q;subst A;exact hX (ai λh=>fin (bg h))
 exact ai λh2=>fin (by rw[VX _ _ _ _ _ _ n18 n19];exact bg h2)
theorem Wm (r:θ) (e:ET) (ld:e.2.2.2.2.2.1.length<=1000000) (A:e.2.2.2.2.2.2.length<=1000000):Ok (bT (r,e)) λb=>b=M->(∀y∈e.2.2.2.2.2.1,0<=y/\r.getD y.toNat aa=M)/\∀y∈e.2.2.2.2.2.2,0<=y/\r.getD y.toNat aa=M:=by
 unfold bT iG cU gI bx jk bo bG aY cI aB cu
 let P:η->Prop:=λl=>∀y∈l,0<=y/\r.getD y.toNat aa=M
 refine dZ 2 (by omega) (λi x=>x=(i:Int)/\(0<i->P e.2.2.2.2.2.1)/\(1<i->P e.2.2.2.2.2.2)) ?_ ?_ ⟨rfl,λh=>(by omega),λh=>(by omega)⟩
 .rintro i x hi ⟨rfl,p1,p2⟩;refine aR (λ_=>?_) λg=>(by omega)
  refine cK (cY (by omega) (rE (by omega) (aW ?_)));have hr:∃l:η,aG (T:=.sl (.int .i64)) [e.2.2.2.2.2.1,e.2.2.2.2.2.2] (i:Int)=l/\l.length<=1000000/\(P l->(0<i+1->P e.2.2.2.2.2.1)/\(1<i+1->P e.2.2.2.2.2.2)):=by
   match i,hi with
   |0,_=>exact⟨_,rfl,ld,λh=>⟨λ_=>h,λh=>(by omega)⟩⟩
   |1,_=>exact⟨_,rfl,A,λh=>⟨λ_=>p1 (by omega),λ_=>h⟩⟩
  obtain⟨l,F,hl,D⟩:=hr;have er':aG (T:=.sl aM) [e.2.2.2.2.2.1,e.2.2.2.2.2.2] (i:Int)=l:=F;dsimp only at er' ⊢;rw[er'];refine dZ l.length (by omega) (λj x=>x=(j:Int)/\∀m:Nat,m<j->(0:Int)<=aG (T:=.int .i64) l (m:Int)/\r.getD (aG (T:=.int .i64) l (m:Int)).toNat aa=M) ?_ ?_ ⟨rfl,λm hm=>(by omega)⟩
  .rintro j x hj ⟨rfl,hq⟩;refine iC (dV (aW ?_));obtain⟨z,d⟩:∃z:Int,aG (T:=.int .i64) l (j:Int)=z:=⟨_,rfl⟩
   rw[d];refine aX (λb=>b=aa->0<=z/\r.getD z.toNat aa=M) ?_ ?_
   .refine aR (λ_=>ai λh=>(by cases h)) λs=>dX (λ_=>ai λh=>(by cases h)) λq=>?_
    dsimp only[aj]at q;refine aH s q (aW (ai λh=>⟨s,?_⟩));have h:(!aG (T:=.bool) r z)=aa:=h;have:aG (T:=.bool) r z=M:=by cases hh:aG (T:=.bool) r z<;>rw[hh]at h<;>first|rfl|cases h
    exact this
   rintro b hb;refine aK (λ_=>ai λh=>(by cases h)) λh=>ai ⟨fx (by omega),λm hm=>?_⟩
   rcases bM m j with g|g
   .exact hq m g
   .rw[show m=j by omega,d];exact hb h
  .rintro x ⟨rfl,hq⟩;exact hX (ai ⟨fx (by omega),D (il (T:=.int .i64) (p:=λy:Int=>0<=y/\r.getD y.toNat aa=M) hq)⟩)
 .rintro x ⟨rfl,p1,p2⟩;exact aR (λg=>(by omega)) λ_=>ai λ_=>⟨p1 (by omega),p2 (by omega)⟩
theorem Xg (a0:Int) (r0:η) (h:Int) (d:θ) (th:Y (Int×Int×Bool)) (h0:r0.length<=1000) (hd:d.length<=1000) (ht:th.length<=1000):i_ ([(a0,r0)],h,d,th)=Z ((h,d,th),a0,r0):=by
 refine bY ?_;have cl:∀l:η,l.length<=1000->gg l=Z l:=λl hl=>bY (aZ (by omega) (by omega) (ai rfl))
 unfold i_ aV bn bx bo bG aY aB;refine a8 rfl (aX (λx=>x=(([(a0,r0)],h,d,th),0,a0,r0)) ?_ ?_)
 .exact eO rfl (a8 rfl (aW (aQ (cl _ h0) (jr rfl (ai rfl)))))
 rintro x rfl;refine aQ (x:=d) (bY (aZ (by dsimp only;omega) (by omega) (ai rfl))) (aQ (x:=th) (bY (aZ (by dsimp only;omega) (by omega) (ai rfl))) (ai rfl))
theorem Xj (s:SY) (h:¬s.1.length=1):i_ s=U:=by
 unfold i_ aV bn bx bo bG aY aB;rw[show decide ((aU (ah s.1):Int)=1)=aa from bD (by dsimp only[aj];omega),uc];rfl
theorem Yg {n:Nat} (w:WT) (s:SY) (hs:SB n s) (hn:n<=1000) (d:w.2.2.1.length<=1000) (t k o u:Int) (he:EN w s t k o) (hr:FO w s t k o) (h:¬s.1.length=1):gf (w,s,t,k,o,u)=U:=by
 have h1:=oK w s hs hn d t k o he hr;unfold gf aV ba bk bO bn cC dx bf l8 bo aB;simp only[h1,Xj s h,aN,aS,kJ];rfl
theorem Yd {n:Nat} (w:WT) (s:SY) (hs:SB n s) (hn:n<=900) (D:w.2.2.1.length<=1000) (t k o u:Int) (he:EN w s t k o) (hr:FO w s t k o) (hk:k=8\/k=9) (I:s.1.length=1) (hA:xR (aG (T:=ti) s.1 o).2) (q:∀z∈(aG (T:=ti) s.1 o).2,0<=z/\z<4) (A:t<4) (L:0<=o) (o1:o<1):gf (w,s,t,k,o,u)=Z ((vW w s t k o u).1,(vW w s t k o u).2,M):=by
 have h1:=oK w s hs (by omega) D t k o he hr;have t0:=he.t0;have ra:=hr.ra;have rr:=hr.rr;have hrd:=hs.rd;have hdn:=hs.dn;have hth:=hs.th;obtain⟨s1,h,d,th⟩:=s
 match s1,I with
 |[(a0,r0)],_=>
  have g0:r0.length<=n:=hrd (a0,r0) (by simp);dsimp only at hdn hth;have hc:=Xg a0 r0 h d th (by omega) hdn hth;refine bY ?_;unfold gf aV ba bk bO bn cC dx bf l8 bo aB;have F:o=0:=by omega
  subst F
  .have hA:xR r0:=hA;have q:∀z∈r0,0<=z/\z<4:=q;rcases hk with rfl|rfl
   .have ra:r0.contains t=aa:=ra rfl;obtain⟨q1,q2,q3⟩:=Kw hA q t0 A (by simpa using ra);simp only[h1,hc,aN,aS,kJ];refine aX (λx=>x=(0,(h,d,th),0,a0,qI r0 [t])) ?_ ?_
    .refine aZ (by simp;omega) (by omega) (aQ q1 (a8 ?_ (aQ q2 (a8 ?_ (ai ?_)))))
     .rw[q3];simp
     .simp
     .rfl
    rintro x rfl;exact ai rfl
   .have rr:r0.contains t=M:=rr rfl;have q1:=Lc hA q t0 A rr;simp only[h1,hc,aN,aS,kJ];refine aX (λx=>x=(0,(h,d,th),0,a0,wo r0 t)) ?_ ?_
    .exact aQ q1 (a8 (by simp) (ai rfl))
    rintro x rfl;exact ai rfl
theorem Xf (a0 a1:Int) (r0 r1:η) (h:Int) (d:θ) (th:Y (Int×Int×Bool)) (h0:r0.length<=1000) (h1:r1.length<=1000) (hd:d.length<=1000) (ht:th.length<=1000):iZ ([(a0,r0),(a1,r1)],h,d,th)=Z ((h,d,th),(a0,a1),r0,r1):=by
 refine bY ?_;have cl:∀l:η,l.length<=1000->gg l=Z l:=λl hl=>bY (aZ (by omega) (by omega) (ai rfl))
 unfold iZ aV bn bx bo bG aY aB;refine a8 rfl (aX (λx=>x=(([(a0,r0),(a1,r1)],h,d,th),0,(a0,a1),r0,r1)) ?_ ?_)
 .exact eO rfl (a8 rfl (aW (aQ (cl _ h0) (eO rfl (a8 rfl (aW (aQ (cl _ h1) (jr rfl (ai rfl)))))))))
 rintro x rfl;refine aQ (x:=d) (bY (aZ (by dsimp only;omega) (by omega) (ai rfl))) (aQ (x:=th) (bY (aZ (by dsimp only;omega) (by omega) (ai rfl))) (ai rfl))
theorem Xi (s:SY) (h:¬s.1.length=2):iZ s=U:=by
 unfold iZ aV bn bx bo bG aY aB;rw[show decide ((aU (ah s.1):Int)=2)=aa from bD (by dsimp only[aj];omega),uc];rfl
theorem Yf {n:Nat} (w:WT) (s:SY) (hs:SB n s) (hn:n<=1000) (d:w.2.2.1.length<=1000) (t k o u:Int) (he:EN w s t k o) (hr:FO w s t k o) (h:¬s.1.length=2):fo (w,s,t,k,o,u)=U:=by
 have h1:=oK w s hs hn d t k o he hr;unfold fo aV ba bk bO cU ci gI bf l8 bo aB;simp only[h1,Xi s h,aN,aS,kJ];rfl
theorem Yc {n:Nat} (w:WT) (s:SY) (hs:SB n s) (hn:n<=900) (D:w.2.2.1.length<=1000) (t k o u:Int) (he:EN w s t k o) (hr:FO w s t k o) (hk:k=8\/k=9) (I:s.1.length=2) (hA:xR (aG (T:=ti) s.1 o).2) (q:∀z∈(aG (T:=ti) s.1 o).2,0<=z/\z<4) (A:t<4) (L:0<=o) (o1:o<2):fo (w,s,t,k,o,u)=Z ((vW w s t k o u).1,(vW w s t k o u).2,M):=by
 have h1:=oK w s hs (by omega) D t k o he hr;have t0:=he.t0;have ra:=hr.ra;have rr:=hr.rr;have hrd:=hs.rd;have hdn:=hs.dn;have hth:=hs.th;obtain⟨s1,h,d,th⟩:=s
 match s1,I with
 |[(a0,r0),(a1,r1)],_=>
  have g0:r0.length<=n:=hrd (a0,r0) (by simp);have g1:r1.length<=n:=hrd (a1,r1) (by simp);dsimp only at hdn hth;have hc:=Xf a0 a1 r0 r1 h d th (by omega) (by omega) hdn hth;refine bY ?_;unfold fo aV ba bk bO cU ci gI bf l8 bo aB;have F:o=0\/o=1:=by omega
  rcases F with rfl|rfl
  .have hA:xR r0:=hA;have q:∀z∈r0,0<=z/\z<4:=q;rcases hk with rfl|rfl
   .have ra:r0.contains t=aa:=ra rfl;obtain⟨q1,q2,q3⟩:=Kw hA q t0 A (by simpa using ra);simp only[h1,hc,aN,aS,kJ];refine aX (λx=>x=(0,(h,d,th),0,a0,qI r0 [t],a1,r1)) ?_ ?_
    .refine aZ (by simp;omega) (by omega) (aQ q1 (a8 ?_ (aQ q2 (a8 ?_ (ai ?_)))))
     .rw[q3];simp
     .simp
     .rfl
    rintro x rfl;exact ai rfl
   .have rr:r0.contains t=M:=rr rfl;have q1:=Lc hA q t0 A rr;simp only[h1,hc,aN,aS,kJ];refine aX (λx=>x=(0,(h,d,th),0,a0,wo r0 t,a1,r1)) ?_ ?_
    .exact aQ q1 (a8 (by simp) (ai rfl))
    rintro x rfl;exact ai rfl
  .have hA:xR r1:=hA;have q:∀z∈r1,0<=z/\z<4:=q;rcases hk with rfl|rfl
   .have ra:r1.contains t=aa:=ra rfl;obtain⟨q1,q2,q3⟩:=Kw hA q t0 A (by simpa using ra);simp only[h1,hc,aN,aS,kJ];refine aX (λx=>x=(0,(h,d,th),0,a0,r0,a1,qI r1 [t])) ?_ ?_
    .refine aZ (by simp;omega) (by omega) (aQ q1 (a8 ?_ (aQ q2 (a8 ?_ (ai ?_)))))
     .rw[q3];simp
     .simp
     .rfl
    rintro x rfl;exact ai rfl
   .have rr:r1.contains t=M:=rr rfl;have q1:=Lc hA q t0 A rr;simp only[h1,hc,aN,aS,kJ];refine aX (λx=>x=(0,(h,d,th),0,a0,r0,a1,wo r1 t)) ?_ ?_
    .exact aQ q1 (a8 (by simp) (ai rfl))
    rintro x rfl;exact ai rfl
theorem Xe (a0 a1 a2:Int) (r0 r1 r2:η) (h:Int) (d:θ) (th:Y (Int×Int×Bool)) (h0:r0.length<=1000) (h1:r1.length<=1000) (h2:r2.length<=1000) (hd:d.length<=1000) (ht:th.length<=1000):iY ([(a0,r0),(a1,r1),(a2,r2)],h,d,th)=Z ((h,d,th),(a0,a1,a2),r0,r1,r2):=by
 refine bY ?_;have cl:∀l:η,l.length<=1000->gg l=Z l:=λl hl=>bY (aZ (by omega) (by omega) (ai rfl))
 unfold iY aV bn bx bo bG aY aB;refine a8 rfl (aX (λx=>x=(([(a0,r0),(a1,r1),(a2,r2)],h,d,th),0,(a0,a1,a2),r0,r1,r2)) ?_ ?_)
 .exact eO rfl (a8 rfl (aW (aQ (cl _ h0) (eO rfl (a8 rfl (aW (aQ (cl _ h1) (eO rfl (a8 rfl (aW (aQ (cl _ h2) (jr rfl (ai rfl)))))))))))))
 rintro x rfl;refine aQ (x:=d) (bY (aZ (by dsimp only;omega) (by omega) (ai rfl))) (aQ (x:=th) (bY (aZ (by dsimp only;omega) (by omega) (ai rfl))) (ai rfl))
theorem Xh (s:SY) (h:¬s.1.length=3):iY s=U:=by
 unfold iY aV bn bx bo bG aY aB;rw[show decide ((aU (ah s.1):Int)=3)=aa from bD (by dsimp only[aj];omega),uc];rfl
theorem Ye {n:Nat} (w:WT) (s:SY) (hs:SB n s) (hn:n<=1000) (d:w.2.2.1.length<=1000) (t k o u:Int) (he:EN w s t k o) (hr:FO w s t k o) (h:¬s.1.length=3):eR (w,s,t,k,o,u)=U:=by
 have h1:=oK w s hs hn d t k o he hr;unfold eR aV ba bk bO cU fM gI lB bf l8 bo aB;simp only[h1,Xh s h,aN,aS,kJ];rfl
theorem Yb {n:Nat} (w:WT) (s:SY) (hs:SB n s) (hn:n<=900) (D:w.2.2.1.length<=1000) (t k o u:Int) (he:EN w s t k o) (hr:FO w s t k o) (hk:k=8\/k=9) (I:s.1.length=3) (hA:xR (aG (T:=ti) s.1 o).2) (q:∀z∈(aG (T:=ti) s.1 o).2,0<=z/\z<4) (A:t<4) (L:0<=o) (o1:o<3):eR (w,s,t,k,o,u)=Z ((vW w s t k o u).1,(vW w s t k o u).2,M):=by
 have h1:=oK w s hs (by omega) D t k o he hr;have t0:=he.t0;have ra:=hr.ra;have rr:=hr.rr;have hrd:=hs.rd;have hdn:=hs.dn;have hth:=hs.th;obtain⟨s1,h,d,th⟩:=s
 match s1,I with
 |[(a0,r0),(a1,r1),(a2,r2)],_=>
  have g0:r0.length<=n:=hrd (a0,r0) (by simp);have g1:r1.length<=n:=hrd (a1,r1) (by simp);have g2:r2.length<=n:=hrd (a2,r2) (by simp);dsimp only at hdn hth;have hc:=Xe a0 a1 a2 r0 r1 r2 h d th (by omega) (by omega) (by omega) hdn hth;refine bY ?_;unfold eR aV ba bk bO cU fM gI lB bf l8 bo aB;have F:o=0\/o=1\/o=2:=by omega
  rcases F with rfl|rfl|rfl
  .have hA:xR r0:=hA;have q:∀z∈r0,0<=z/\z<4:=q;rcases hk with rfl|rfl
   .have ra:r0.contains t=aa:=ra rfl;obtain⟨q1,q2,q3⟩:=Kw hA q t0 A (by simpa using ra);simp only[h1,hc,aN,aS,kJ];refine aX (λx=>x=(0,(h,d,th),0,a0,qI r0 [t],a1,r1,a2,r2)) ?_ ?_
    .refine aZ (by simp;omega) (by omega) (aQ q1 (a8 ?_ (aQ q2 (a8 ?_ (ai ?_)))))
     .rw[q3];simp
     .simp
     .rfl
    rintro x rfl;exact ai rfl
   .have rr:r0.contains t=M:=rr rfl;have q1:=Lc hA q t0 A rr;simp only[h1,hc,aN,aS,kJ];refine aX (λx=>x=(0,(h,d,th),0,a0,wo r0 t,a1,r1,a2,r2)) ?_ ?_
    .exact aQ q1 (a8 (by simp) (ai rfl))
    rintro x rfl;exact ai rfl
  .have hA:xR r1:=hA;have q:∀z∈r1,0<=z/\z<4:=q;rcases hk with rfl|rfl
   .have ra:r1.contains t=aa:=ra rfl;obtain⟨q1,q2,q3⟩:=Kw hA q t0 A (by simpa using ra);simp only[h1,hc,aN,aS,kJ];refine aX (λx=>x=(0,(h,d,th),0,a0,r0,a1,qI r1 [t],a2,r2)) ?_ ?_
    .refine aZ (by simp;omega) (by omega) (aQ q1 (a8 ?_ (aQ q2 (a8 ?_ (ai ?_)))))
     .rw[q3];simp
     .simp
     .rfl
    rintro x rfl;exact ai rfl
   .have rr:r1.contains t=M:=rr rfl;have q1:=Lc hA q t0 A rr;simp only[h1,hc,aN,aS,kJ];refine aX (λx=>x=(0,(h,d,th),0,a0,r0,a1,wo r1 t,a2,r2)) ?_ ?_
    .exact aQ q1 (a8 (by simp) (ai rfl))
    rintro x rfl;exact ai rfl
  .have hA:xR r2:=hA;have q:∀z∈r2,0<=z/\z<4:=q;rcases hk with rfl|rfl
   .have ra:r2.contains t=aa:=ra rfl;obtain⟨q1,q2,q3⟩:=Kw hA q t0 A (by simpa using ra);simp only[h1,hc,aN,aS,kJ];refine aX (λx=>x=(0,(h,d,th),0,a0,r0,a1,r1,a2,qI r2 [t])) ?_ ?_
    .refine aZ (by simp;omega) (by omega) (aQ q1 (a8 ?_ (aQ q2 (a8 ?_ (ai ?_)))))
     .rw[q3];simp
     .simp
     .rfl
    rintro x rfl;exact ai rfl
   .have rr:r2.contains t=M:=rr rfl;have q1:=Lc hA q t0 A rr;simp only[h1,hc,aN,aS,kJ];refine aX (λx=>x=(0,(h,d,th),0,a0,r0,a1,r1,a2,wo r2 t)) ?_ ?_
    .exact aQ q1 (a8 (by simp) (ai rfl))
    rintro x rfl;exact ai rfl
theorem Xd (a0 a1 a2 a3:Int) (r0 r1 r2 r3:η) (h:Int) (d:θ) (th:Y (Int×Int×Bool)) (h0:r0.length<=1000) (h1:r1.length<=1000) (h2:r2.length<=1000) (q:r3.length<=1000) (hd:d.length<=1000) (ht:th.length<=1000):mc ([(a0,r0),(a1,r1),(a2,r2),(a3,r3)],h,d,th)=Z ((h,d,th),(a0,a1,a2,a3),r0,r1,r2,r3):=by
 refine bY ?_;have cl:∀l:η,l.length<=1000->gg l=Z l:=λl hl=>bY (aZ (by omega) (by omega) (ai rfl))
 unfold mc aV bn bx bo bG aY aB;refine a8 rfl (aX (λx=>x=(([(a0,r0),(a1,r1),(a2,r2),(a3,r3)],h,d,th),0,(a0,a1,a2,a3),r0,r1,r2,r3)) ?_ ?_)
 .exact eO rfl (a8 rfl (aW (aQ (cl _ h0) (eO rfl (a8 rfl (aW (aQ (cl _ h1) (eO rfl (a8 rfl (aW (aQ (cl _ h2) (eO rfl (a8 rfl (aW (aQ (cl _ q) (jr rfl (ai rfl)))))))))))))))))
 rintro x rfl;refine aQ (x:=d) (bY (aZ (by dsimp only;omega) (by omega) (ai rfl))) (aQ (x:=th) (bY (aZ (by dsimp only;omega) (by omega) (ai rfl))) (ai rfl))
theorem Ya {n:Nat} (w:WT) (s:SY) (hs:SB n s) (hn:n<=900) (D:w.2.2.1.length<=1000) (t k o u:Int) (he:EN w s t k o) (hr:FO w s t k o) (hk:k=8\/k=9) (I:s.1.length=4) (hA:xR (aG (T:=ti) s.1 o).2) (q:∀z∈(aG (T:=ti) s.1 o).2,0<=z/\z<4) (A:t<4) (L:0<=o) (o1:o<4):gd (w,s,t,k,o,u)=Z ((vW w s t k o u).1,(vW w s t k o u).2,M):=by
 have h1:=oK w s hs (by omega) D t k o he hr;have t0:=he.t0;have ra:=hr.ra;have rr:=hr.rr;have hrd:=hs.rd;have hdn:=hs.dn;have hth:=hs.th;obtain⟨s1,h,d,th⟩:=s
 match s1,I with
 |[(a0,r0),(a1,r1),(a2,r2),(a3,r3)],_=>
  have g0:r0.length<=n:=hrd (a0,r0) (by simp);have g1:r1.length<=n:=hrd (a1,r1) (by simp);have g2:r2.length<=n:=hrd (a2,r2) (by simp);have g3:r3.length<=n:=hrd (a3,r3) (by simp);dsimp only at hdn hth;have hc:=Xd a0 a1 a2 a3 r0 r1 r2 r3 h d th (by omega) (by omega) (by omega) (by omega) hdn hth;refine bY ?_;unfold gd aV ba bk bO cU fM ry bn GZ bf l8 bo aB;have F:o=0\/o=1\/o=2\/o=3:=by omega
  rcases F with rfl|rfl|rfl|rfl
  .have hA:xR r0:=hA;have q:∀z∈r0,0<=z/\z<4:=q;rcases hk with rfl|rfl
   .have ra:r0.contains t=aa:=ra rfl;obtain⟨q1,q2,q3⟩:=Kw hA q t0 A (by simpa using ra);simp only[h1,hc,aN,aS,kJ];refine aX (λx=>x=(0,(h,d,th),0,a0,qI r0 [t],a1,r1,a2,r2,a3,r3)) ?_ ?_
    .refine aZ (by simp;omega) (by omega) (aQ q1 (a8 ?_ (aQ q2 (a8 ?_ (ai ?_)))))
     .rw[q3];simp
     .simp
     .rfl
    rintro x rfl;exact ai rfl
   .have rr:r0.contains t=M:=rr rfl;have q1:=Lc hA q t0 A rr;simp only[h1,hc,aN,aS,kJ];refine aX (λx=>x=(0,(h,d,th),0,a0,wo r0 t,a1,r1,a2,r2,a3,r3)) ?_ ?_
    .exact aQ q1 (a8 (by simp) (ai rfl))
    rintro x rfl;exact ai rfl
  .have hA:xR r1:=hA;have q:∀z∈r1,0<=z/\z<4:=q;rcases hk with rfl|rfl
   .have ra:r1.contains t=aa:=ra rfl;obtain⟨q1,q2,q3⟩:=Kw hA q t0 A (by simpa using ra);simp only[h1,hc,aN,aS,kJ];refine aX (λx=>x=(0,(h,d,th),0,a0,r0,a1,qI r1 [t],a2,r2,a3,r3)) ?_ ?_
    .refine aZ (by simp;omega) (by omega) (aQ q1 (a8 ?_ (aQ q2 (a8 ?_ (ai ?_)))))
     .rw[q3];simp
     .simp
     .rfl
    rintro x rfl;exact ai rfl
   .have rr:r1.contains t=M:=rr rfl;have q1:=Lc hA q t0 A rr;simp only[h1,hc,aN,aS,kJ];refine aX (λx=>x=(0,(h,d,th),0,a0,r0,a1,wo r1 t,a2,r2,a3,r3)) ?_ ?_
    .exact aQ q1 (a8 (by simp) (ai rfl))
    rintro x rfl;exact ai rfl
  .have hA:xR r2:=hA;have q:∀z∈r2,0<=z/\z<4:=q;rcases hk with rfl|rfl
   .have ra:r2.contains t=aa:=ra rfl;obtain⟨q1,q2,q3⟩:=Kw hA q t0 A (by simpa using ra);simp only[h1,hc,aN,aS,kJ];refine aX (λx=>x=(0,(h,d,th),0,a0,r0,a1,r1,a2,qI r2 [t],a3,r3)) ?_ ?_
    .refine aZ (by simp;omega) (by omega) (aQ q1 (a8 ?_ (aQ q2 (a8 ?_ (ai ?_)))))
     .rw[q3];simp
     .simp
     .rfl
    rintro x rfl;exact ai rfl
   .have rr:r2.contains t=M:=rr rfl;have q1:=Lc hA q t0 A rr;simp only[h1,hc,aN,aS,kJ];refine aX (λx=>x=(0,(h,d,th),0,a0,r0,a1,r1,a2,wo r2 t,a3,r3)) ?_ ?_
    .exact aQ q1 (a8 (by simp) (ai rfl))
    rintro x rfl;exact ai rfl
  .have hA:xR r3:=hA;have q:∀z∈r3,0<=z/\z<4:=q;rcases hk with rfl|rfl
   .have ra:r3.contains t=aa:=ra rfl;obtain⟨q1,q2,q3⟩:=Kw hA q t0 A (by simpa using ra);simp only[h1,hc,aN,aS,kJ];refine aX (λx=>x=(0,(h,d,th),0,a0,r0,a1,r1,a2,r2,a3,qI r3 [t])) ?_ ?_
    .refine aZ (by simp;omega) (by omega) (aQ q1 (a8 ?_ (aQ q2 (a8 ?_ (ai ?_)))))
     .rw[q3];simp
     .simp
     .rfl
    rintro x rfl;exact ai rfl
   .have rr:r3.contains t=M:=rr rfl;have q1:=Lc hA q t0 A rr;simp only[h1,hc,aN,aS,kJ];refine aX (λx=>x=(0,(h,d,th),0,a0,r0,a1,r1,a2,r2,a3,wo r3 t)) ?_ ?_
    .exact aQ q1 (a8 (by simp) (ai rfl))
    rintro x rfl;exact ai rfl
theorem ab0 {n:Nat} (w:WT) (s:SY) (hs:SB n s) (hn:n<=1000) (d:w.2.2.1.length<=1000) (t k o u:Int) (he:EN w s t k o) (hr:FO w s t k o) (hk:k=8\/k=9):gM (w,s,t,k,o,u)=U:=by
 have h1:=oK w s hs hn d t k o he hr;have h2:=ZN s hs;rcases hk with rfl|rfl
 .unfold gM aV ba bk bO cU bn cC ci dx gI ck bf bo bG j7 aB;simp only[h1,h2,aN,aS,kJ];cases e9 o (ah s.1)<;>rfl
 .unfold gM aV ba bk bO cU bn cC ci dx gI ck bf bo bG j7 aB;simp only[h1,h2,aN,aS,kJ];cases e9 o (ah s.1)<;>rfl
theorem ae4 {n:Nat} (w:WT) (s:SY) (hs:SB n s) (hn:n<=900) (d:w.2.2.1.length<=1000) (t k o u:Int) (he:EN w s t k o) (hr:FO w s t k o) (hl:s.1.length<=4) (hA:∀l∈s.1,xR l.2/\∀z∈l.2,0<=z/\z<4) (q:t<4):rF (w,s,t,k,o,u)=Z ((vW w s t k o u).1,(vW w s t k o u).2,M):=by
 unfold rF;by_cases hk:k=8\/k=9
 .have lk:=he.nm.lk (by omega);have e1:=he.e1;have hg:=hA _ (bH (T:=ti) (xs:=s.1) (j:=o) (by omega) (by omega));have A:=Yg w s hs (by omega) d t k o u he hr;have D:=Yf w s hs (by omega) d t k o u he hr;have F:=Ye w s hs (by omega) d t k o u he hr;rw[ab0 w s hs (by omega) d t k o u he hr hk];have:s.1.length=1\/s.1.length=2\/s.1.length=3\/s.1.length=4:=by omega
  rcases this with h|h|h|h
  .rw[Yd w s hs hn d t k o u he hr hk h hg.1 hg.2 q (by omega) (by omega)];rfl
  .rw[A (by omega),Yc w s hs hn d t k o u he hr hk h hg.1 hg.2 q (by omega) (by omega)];rfl
  .rw[A (by omega),D (by omega),Yb w s hs hn d t k o u he hr hk h hg.1 hg.2 q (by omega) (by omega)];rfl
  .rw[A (by omega),D (by omega),F (by omega),Ya w s hs hn d t k o u he hr hk h hg.1 hg.2 q (by omega) (by omega)];rfl
 .rw[ae3 w s hs (by omega) d t k o u he hr (λh=>hk (.inl h)) λh=>hk (.inr h)];rfl
theorem VK (l:η) (h:l.length<=100000):yn l=Z l:=bY (aZ (by omega) (by omega) (ai rfl))
theorem acx (l:η) (h:l.length<=100000):gg l=Z l:=bY (aZ (by omega) (by omega) (ai rfl))
theorem aa5 {n:Nat} (w:WT) (s:SN) (e:ET) (hs:NB n s) (hn:n<=900) (D:w.2.2.1.length<=1000) (I:R6 w s) (q:EN w s.1 e.1 e.2.1 e.2.2.1) (F:Yl w s e) (hcb:(aG (T:=.int .i64) s.2.2.2 e.1:Int)<=1000) (hl:s.1.1.length<=4) (hA:∀l∈s.1.1,xR l.2/\∀z∈l.2,0<=z/\z<4) (t4:e.1<4):dR (w,s,e)=Z (Sj w s e,M):=by
 have ld:e.2.2.2.2.2.1.length<=1000000:=by
  have L:(e.2.2.2.2.2.1.length:Int)<=max (0:Int) (aG (T:=.int .i64) s.2.2.2 e.1):=F.nd.len;have:=eX L (xd.2 ⟨by decide,hcb⟩);omega
 have lf:e.2.2.2.2.2.2.length<=1000000:=by
  have L:(e.2.2.2.2.2.2.length:Int)<=max (0:Int) (aG (T:=.int .i64) s.2.2.2 e.1):=F.nf.len;have:=eX L (xd.2 ⟨by decide,hcb⟩);omega
 refine bY ?_;obtain⟨rd,q1,q2,de,fr,nd,nf,va⟩:=id F;obtain⟨nm,t0,t1,cd,e1,e2,e3⟩:=id q;obtain⟨k1,k2,ce,lk,cn,th,fu,_,_,_⟩:=nm;obtain⟨f1,f2,f3⟩:=id I;have hsc:=hs.c;have hsf:=hs.f;have hsk:=hs.k;unfold dR aV ba bk bn cC ci ck bf bx jk j7 aY aB cu;refine aX (λx=>x=(aa,w,s,e,0)) ?_ ?_
 .refine aQ (aiu w s D _ _ _ q I) (jr rfl (hX (dX (λg=>(by dsimp only[aj]at g;omega)) λ_=>hX (ai ?_))));rw[fD.2 (show e.2.1<=23 by omega)]
 rintro x rfl;refine gw (aX (λx=>x=(aa,w,s,e,0)) ?_ ?_)
 .exact aQ (oK w s.1 hs.sb (by omega) D _ _ _ q rd) (jr rfl (aQ (abr w e q1 q2) (jr rfl (aQ (QO w s e (λh=>ce h) de fr t0 (by rw[f3];exact t1) nd nf ld lf) (jr rfl (aQ (aba w s hs.sb e I q va) (ai rfl)))))))
 rintro x rfl;refine gw (aX (λx=>x.2=(w,s,e,0)/\vW w s.1 e.1 e.2.1 e.2.2.1 x.1=vW w s.1 e.1 e.2.1 e.2.2.1 e.2.2.2.1) ?_ ?_)
 .exact aE (λ_=>ai ⟨rfl,rfl⟩) λh=>ai ⟨rfl,aeq _ _ _ _ _ _ _ h⟩
 rintro⟨u,x⟩ ⟨hx,hu⟩;dsimp only at hx hu;subst hx;refine aQ (ae4 w s.1 hs.sb hn D _ _ _ u q rd hl hA t4) (jr rfl (aQ (VK _ (by dsimp only;omega)) (aQ (VK _ (by dsimp only;omega)) (aQ (acx _ (by dsimp only;omega)) ?_))));rw[hu];refine aX (λx=>x.1=e/\x.2.2.1=(vW w s.1 e.1 e.2.1 e.2.2.1 e.2.2.2.1).1/\x.2.2.2.1=ZT s.2.1 e/\x.2.2.2.2.1=fuP s.2.2.1 e/\x.2.2.2.2.2=s.2.2.2) ?_ ?_
 .unfold ZT fuP;refine aE (λh=>?_) λh=>aE (λh'=>?_) λh'=>ai ⟨rfl,rfl,(aL h).symm,(aL h').symm,rfl⟩
  .have h:e.2.1=4:=h;have d:=ce (.inr h);exact aH d.1 (by rw[f1];exact d.2) (aH d.1 (by rw[f1];exact d.2) (ai ⟨rfl,rfl,(aT h).symm,(aL (by omega)).symm,rfl⟩))
  .have h:e.2.1=22:=h';have d:=fu (.inl h);exact aH d.1 (by rw[f2];exact d.2) (aH d.1 (by rw[f2];exact d.2) (ai ⟨rfl,rfl,(aL (by omega)).symm,(aT h).symm,rfl⟩))
 rintro⟨x1,x2,x3,x4,x5,x6⟩ ⟨h1,h2,h4,h5,h6⟩;simp only at h1 h2 h4 h5 h6;subst h1;subst h2;subst h4;subst h5;subst h6;have A:x1.1<(s.2.2.2.length:Int):=by rw[f3];exact t1
 exact aH t0 A (aH t0 A (aW (aH t0 A (aH t0 A (ai rfl)))))
theorem aa6 {n:Nat} (w:WT) (s:SN) (e:ET) (hs:NB n s) (hn:n<=900) (A:w.2.2.1.length<=1000) (hcb:(aG (T:=.int .i64) s.2.2.2 e.1:Int)<=1000) (hl:s.1.1.length<=4) (hA:∀l∈s.1.1,xR l.2/\∀z∈l.2,0<=z/\z<4) (ht:w.2.2.2.2.1.length<=4):Ok (dR (w,s,e)) λy=>y.2=M->(R6 w s/\EN w s.1 e.1 e.2.1 e.2.2.1/\Yl w s e)/\y.1=Sj w s e:=by
 by_cases I:R6 w s/\EN w s.1 e.1 e.2.1 e.2.2.1/\Yl w s e
 .obtain⟨q,d,L⟩:=I;have t1:=d.t1;exact YU (aa5 w s e hs hn A q d L hcb hl hA (by omega)) λ_=>⟨⟨q,d,L⟩,rfl⟩
 have hno:∀{y:SN×Bool},y.2=aa->(y.2=M->(R6 w s/\EN w s.1 e.1 e.2.1 e.2.2.1/\Yl w s e)/\y.1=Sj w s e):=λh g=>by rw[h]at g;cases g
 unfold dR aV ba bk bn cC ci ck bf bx jk j7 aY aB cu;refine aX (λx=>x.2=(w,s,e,0)/\(x.1=aa->R6 w s/\0<=e.1/\e.1<w.2.2.2.2.1.length)) ?_ ?_
 .refine ar (ZB w s A) λb hb=>cX (λ_=>ai ⟨rfl,λh=>(by cases h)⟩) λD=>?_
  refine aR (λ_=>ai ⟨rfl,λh=>(by cases h)⟩) λg0=>dX (λ_=>ai ⟨rfl,λh=>(by cases h)⟩) λF=>aR (λ_=>ai ⟨rfl,λh=>(by cases h)⟩) λ_=>ai ⟨rfl,λ_=>⟨hb D,g0,F⟩⟩
 rintro⟨b,x⟩ ⟨e1,hb⟩;dsimp only at e1 hb;subst e1;refine aK (λ_=>ai (hno rfl)) λh=>?_
 obtain⟨q,t0,t1⟩:=hb h;clear hb;refine aX (λx=>x.2=(w,s,e,0)/\(x.1=aa->R6 w s/\EN w s.1 e.1 e.2.1 e.2.2.1/\Yl w s e)) ?_ ?_
 .have t2:e.1<(s.2.2.2.length:Int):=by have:=q.k;omega
  refine ar (R7 w s.1 hs.sb (by omega) A _ _ _) λb1 h1=>cX (λ_=>ai ⟨rfl,λh=>(by cases h)⟩) λF=>?_
  obtain⟨d,hR⟩:=h1 F;refine ar (SR w e) λb2 h2=>cX (λ_=>ai ⟨rfl,λh=>(by cases h)⟩) λg2=>?_
  obtain⟨p1,p2⟩:=h2 g2;refine ar (Ju w s e (λh=>d.nm.ce h) t0 t2 hcb) λb3 h3=>cX (λ_=>ai ⟨rfl,λh=>(by cases h)⟩) λg3=>?_
  obtain⟨d1,d2,d3,d4⟩:=h3 g3;refine ar (Sr w s hs.sb e q d) λb4 h4=>ai ⟨rfl,λg4=>⟨q,d,hR,p1,p2,d1,d2,d3,d4,h4 ?_⟩⟩
  cases b4 with
  |true=>rfl
  |false=>cases g4
 rintro⟨b,x⟩ ⟨e1,hb⟩;dsimp only at e1 hb;subst e1;exact aK (λ_=>ai (hno rfl)) λh=>(I (hb h)).elim
abbrev GV:Type:=ζ×Int×Int×Bool×Int
abbrev cG (l:Y GV) (j:Int):GV:=aG (T:=OR) l j
def bkE (c:GV) (k:Int):GV:=(c.1,k,c.2.2.1,aa,c.2.2.2.2)
structure BKA (l:List GV) (i:Nat):Prop where
 z:¬(cG l i).2.2.1=0
 s1:1<=(cG l i).2.2.1
 s4:(cG l i).2.2.1<=4
 le:(i:Int)+(cG l i).2.2.1<=l.length
 al:∀k:Nat,(k:Int)<(cG l i).2.2.1->cG l ((i:Int)+k)=bkE (cG l i) k
inductive Dg (l:List GV):Nat->List ζ->Prop
 |nil:Dg l l.length []
 |one {i:Nat} {ns:List ζ} (h:i<l.length) (z:(cG l i).2.2.1=0) (x:(cG l i).2.1=0) (r:Dg l (i+1) ns):Dg l i ((cG l i).1::ns)
 |arr {i:Nat} {ns:List ζ} (h:i<l.length) (b:BKA l i) (r:Dg l (i+(cG l i).2.2.1.toNat) ns):Dg l i ((cG l i).1::ns)
theorem Dg.inv {l:Y GV} {i:Nat} {ns:Y ζ} (h:Dg l i ns) (hi:i<l.length):∃r,ns=(cG l i).1::r/\(((cG l i).2.2.1=0/\(cG l i).2.1=0/\Dg l (i+1) r)\/(BKA l i/\Dg l (i+(cG l i).2.2.1.toNat) r)):=by
 cases h with
 |nil=>omega
 |one h z x r=>exact⟨_,rfl,.inl ⟨z,x,r⟩⟩
 |arr h b r=>exact⟨_,rfl,.inr ⟨b,r⟩⟩
def OV (l:Y GV) (i:Nat) (acc:Y ζ):Prop:=i<=l.length/\acc.length<=i/\∀ns,Dg l 0 ns↔∃r,ns=acc++r/\Dg l i r
theorem OV.zero (l:Y GV):OV l 0 []:=⟨oN _,cF _,λns=>⟨λh=>⟨ns,rfl,h⟩,λ⟨r,e,h⟩=>by subst e;exact h⟩⟩
theorem OV.no {l:Y GV} {i:Nat} {acc:Y ζ} (h:OV l i acc) (hi:i<l.length) (h1:¬((cG l i).2.2.1=0/\(cG l i).2.1=0)) (h2:¬BKA l i):∀ns,¬Dg l 0 ns:=λns hn=>by
 obtain⟨r,rfl,hr⟩:=(h.2.2 ns).1 hn;obtain⟨q,_,d⟩:=hr.inv hi;rcases d with ⟨a,b,_⟩|⟨a,_⟩
 .exact h1 ⟨a,b⟩
 .exact h2 a
theorem OV.one {l:Y GV} {i:Nat} {acc:Y ζ} (h:OV l i acc) (hi:i<l.length) (z:(cG l i).2.2.1=0) (x:(cG l i).2.1=0):OV l (i+1) (acc++[(cG l i).1]):=by
 refine ⟨by omega,by simp;exact h.2.1,λns=>(h.2.2 ns).trans ⟨?_,?_⟩⟩
 .rintro⟨r,rfl,hr⟩;obtain⟨q,rfl,s⟩:=hr.inv hi;rcases s with ⟨_,_,d⟩|⟨d,_⟩
  .exact⟨q,by simp,d⟩
  .exact (d.z z).elim
 .rintro⟨r,rfl,hr⟩;exact⟨_,by simp,.one hi z x hr⟩
theorem OV.arr {l:Y GV} {i:Nat} {acc:Y ζ} (h:OV l i acc) (hi:i<l.length) (b:BKA l i):OV l (i+(cG l i).2.2.1.toNat) (acc++[(cG l i).1]):=by
 have:=b.le;have:=b.s1;have:=h.2.1;refine ⟨by omega,by simp;omega,λns=>(h.2.2 ns).trans ⟨?_,?_⟩⟩
 .rintro⟨r,rfl,hr⟩;obtain⟨q,rfl,s⟩:=hr.inv hi;rcases s with ⟨d,_⟩|⟨_,d⟩
  .exact (b.z d).elim
  .exact⟨q,by simp,d⟩
 .rintro⟨r,rfl,hr⟩;exact⟨_,by simp,.arr hi b hr⟩
theorem OV.end_ {l:Y GV} {acc:Y ζ} (h:OV l l.length acc):Dg l 0 acc:=(h.2.2 acc).2 ⟨[],by simp,.nil⟩
theorem Dg.uniq {l:Y GV} {i:Nat} {a:Y ζ} (h:Dg l i a):∀{b:Y ζ},Dg l i b->a=b:=by
 induction h with
 |nil=>intro b hb;cases hb with
  |nil=>rfl
  |one h _ _ _=>omega
  |arr h _ _=>omega
 |one h z x r q=>
  intro b hb;obtain⟨A,rfl,s⟩:=hb.inv h;rcases s with ⟨_,_,d⟩|⟨d,_⟩
  .rw[q d]
  .exact (d.z z).elim
 |arr h b r q=>
  intro b' hb;obtain⟨A,rfl,s⟩:=hb.inv h;rcases s with ⟨d,_⟩|⟨_,d⟩
  .exact (b.z d).elim
  .rw[q d]
def VNo (l:Y GV) (y:Y ζ×Bool):Prop:=(y.2=M->Dg l 0 y.1)/\(y.2=aa->∀ns,¬Dg l 0 ns)
theorem eqCe (a b:GV):(Mo (.pr .str (.pr aM (.pr aM (.pr .bool (.pr aM .un))))) (a.1,a.2.1,a.2.2.1,a.2.2.2.1,a.2.2.2.2,()) (b.1,b.2.1,b.2.2.1,b.2.2.2.1,b.2.2.2.2,()) !=M)=decide (¬a=b):=by
 obtain⟨a1,a2,a3,L,I⟩:=a;obtain⟨b1,F,D,A,z⟩:=b;by_cases h1:a1=b1<;>by_cases h2:a2=F<;>by_cases s:a3=D<;>by_cases q:L=A<;>by_cases d:I=z<;>simp[Mo,h1,h2,s,q,d]
theorem Kt (l:Y GV) (hl:l.length<=12):Ok (fJ l) (VNo l):=by
 unfold fJ kS aV ba bk bO cC dx bf bx ir bo bG aY cI aB cu;refine HP 12 (λx:Int×Y ζ=>(((l.length:Int)-x.1).toNat)) (λx=>0<=x.1/\OV l x.1.toNat x.2) ?_ ⟨by simp;omega,by omega⟩ ⟨by simp,OV.zero l⟩;rintro⟨i,acc⟩ ⟨i0,hV⟩;dsimp only at i0 hV;obtain⟨i,rfl⟩:∃n:Nat,i=(n:Int):=⟨i.toNat,by omega⟩
 rw[cO]at hV;have hle:=hV.1;have hac:=hV.2.1;refine aR (λg=>?_) λg=>ai ⟨λ_=>?_,λh=>(by cases h)⟩
 .dsimp only[aj]at g;have hi:i<l.length:=by omega
  refine aX (λx=>((i:Int)<x.1/\x.1<=l.length)/\OV l x.1.toNat x.2) ?_ ?_
  .refine dV (aW (aZ (by simp;omega) (by omega) ?_));have hc:aG (T:=OR) l (i:Int)=cG l i:=rfl;generalize hz:aG (T:=OR) l (i:Int)=z at hc;have one:=hV.one hi;have arr:=hV.arr hi;have no:=hV.no hi;have hB1:BKA l i↔¬(z.2.2.1:Int)=0/\(1:Int)<=z.2.2.1/\(4:Int)≥z.2.2.1/\(l.length:Int)≥(i:Int)+z.2.2.1/\∀k:Nat,(k:Int)<(z.2.2.1:Int)->cG l ((i:Int)+k)=bkE z k:=by
    constructor
    .rintro⟨a,b,c,d,e⟩;rw[<- hc]at a b c d e;exact⟨a,b,c,d,e⟩
    .rintro⟨a,b,c,d,e⟩;rw[hc]at a b c d e;exact⟨a,b,c,d,e⟩
   rw[<- hc]at one arr no;clear hc;have hzz:z=cG l ((i:Int)):=hz.symm;clear hz;obtain⟨D,(z2:Int),(s:Int),z4,(L:Int)⟩:=z;dsimp only at one arr no hB1 ⊢;refine aE (λA=>bV (λh2=>ai ?_) λh2=>ai ?_) λA=>?_
   .exact⟨λh=>(by cases h),λ_=>no (λh=>h2 h.2) λh=>(hB1.1 h).1 A⟩
   .have:=one A h2;dsimp only;rw[fx (by omega)];exact⟨by omega,this⟩
   have no:=no λh=>A h.1
   refine aX (λx=>x.2=(acc++[D],D,z2,s,z4,L)/\(x.1=M->∀ns,¬Dg l 0 ns)/\(x.1=aa->1<=s/\s<=4/\z4=aa/\(i:Int)+s<=l.length)) ?_ ?_
   .refine aR (λh=>ai ⟨rfl,λ_=>no λhb=>(by have:=(hB1.1 hb).2.1;omega),λh=>(by cases h)⟩) λh1=>aR (λh=>ai ⟨rfl,λ_=>no λhb=>(by have:=(hB1.1 hb).2.2.1;omega),λh=>(by cases h)⟩) λh4=>aK (λh=>ai ⟨rfl,λ_=>no λhb=>?_,λh=>(by cases h)⟩) λhv=>ai ⟨rfl,λh=>no λhb=>?_,λh=>⟨h1,h4,hv,?_⟩⟩
    .have:=(hB1.1 hb).2.2.2.2 0 (by omega);rw[show ((i:Int)+((0:Nat):Int))=(i:Int) by omega,<-hzz]at this;have:=iX (λc:GV=>c.2.2.2.1) this;have:z4=aa:=this;rw[this]at h;cases h
    .have:=(hB1.1 hb).2.2.2.1;dsimp only[aj]at h;rw[mB,gJ (by omega) (by omega)]at h;omega
    .dsimp only[aj]at h;rw[fD,gJ (by omega) (by omega)]at h;omega
   rintro⟨b,x⟩ ⟨e,I,F⟩;dsimp only at e I F;subst e;refine aK (λh=>ai ⟨λh=>(by cases h),λ_=>I h⟩) λh=>?_
   obtain⟨q1,q2,q3,q4⟩:=F h;subst q3;refine HP 5 (λx:Int×Y ζ×GV=>(s-x.1).toNat) (λx=>(0<=x.1/\x.1<=s)/\(∃q,x.2=(acc++[D],D,q,s,aa,L))/\∀k:Nat,(k:Int)<x.1->cG l ((i:Int)+k)=bkE (D,z2,s,aa,L) k) ?_ ⟨by dsimp only;omega,by omega⟩ ⟨⟨by simp,by dsimp only;omega⟩,⟨z2,rfl⟩,λk hk=>(by dsimp only at hk;omega)⟩;rintro⟨k,x⟩ ⟨⟨k0,k1⟩,⟨q,e⟩,hal⟩;dsimp only at k0 k1 e hal;subst e;refine aR (λhk=>?_) λhk=>ai ?_
   .dsimp only at hk;have ew:a9 .i64 ((i:Int)+k)=(i:Int)+k:=gJ (by omega) (by omega);refine aH (by dsimp only;rw[ew];omega) (by dsimp only;rw[ew];omega) (aW ?_);dsimp only;rw[ew];have hq:=eqCe (aG (T:=OR) l ((i:Int)+k)) (D,k,s,aa,L);dsimp only at hq;refine aK (λhne=>ai ⟨λh=>(by cases h),λ_=>no λhb=>?_⟩) λhne=>ai ⟨⟨⟨?_,?_⟩,⟨k,rfl⟩,λm hm=>?_⟩,?_⟩
    .have hne:=bg (hq.symm.trans hne);have:=(hB1.1 hb).2.2.2.2 k.toNat (by omega);rw[show (((k.toNat:Nat):Int))=k by omega]at this;exact hne this
    .rw[gJ (by omega) (by omega)];omega
    .rw[gJ (by omega) (by omega)];omega
    .rw[gJ (by omega) (by omega)]at hm;have hne:=jE (hq.symm.trans hne);rcases Int.lt_or_le (m:Int) k with g|g
     .exact hal m g
     .have:(m:Int)=k:=by omega
      rw[this];exact Classical.not_not.1 hne
    .rw[gJ (by omega) (by omega)];omega
   .dsimp only at hk;have hkz:k=s:=by omega
    subst hkz;have hB:=hB1.2 ⟨A,q1,q2,q4,hal⟩;have:=arr hB;dsimp only;rw[gJ (by omega) (by omega),show ((i:Int)+k).toNat=i+k.toNat by omega];exact⟨⟨by omega,by omega⟩,this⟩
  .rintro⟨j,acc'⟩ ⟨⟨h1,h2⟩,A⟩;dsimp only at h1 h2 A;exact ai ⟨⟨by omega,A⟩,by dsimp only;omega⟩
 .dsimp only[aj]at g;have:i=l.length:=by omega
  subst this;exact hV.end_
def sA (w:WT) (ns:Y ζ):Y ζ:=((ns++w.2.1.map (·.1))++w.2.2.1.map (·.1))++w.2.2.2.1++w.2.2.2.2.1
structure Kq (w:WT):Prop where
 v:VL w
 ns:∃ns,Dg w.1 0 ns/\(∀s∈sA w ns,t7 s)/\(sA w ns).Nodup
 cd:∀c∈w.2.2.1,0<=c.2/\c.2<w.2.1.length/\(aG (T:=xM) w.2.1 c.2).2=aa
 s:SV0 w
theorem Dg.len {l:Y GV} {i:Nat} {ns:Y ζ} (h:Dg l i ns):i<=l.length/\ns.length+i<=l.length:=by
 induction h with
 |nil=>simp
 |one h _ _ _ d=>simp;omega
 |arr h b _ d=>have:=b.s1;have:=d;simp;omega
theorem abz (w:WT) (h:VL w):Ok (pq w) λy=>(y.2=M->∃ns,Dg w.1 0 ns/\y.1=sA w ns)/\(y.2=aa->∀ns,¬Dg w.1 0 ns):=by
 obtain⟨l,w2,q,F,D,A⟩:=w;obtain⟨h1,h2,I,h4,_,h5,h6⟩:=h;dsimp only at*
 unfold pq aV ba bk bO cC gI bf bx ir bo bG aY cI aB cu;refine my (λx=>((l.length:Int)-x.1).toNat) (λx=>(0<=x.1/\x.2.1=(l,w2,q,F,D,A))/\OV l x.1.toNat x.2.2) ?_ ⟨⟨by simp,rfl⟩,OV.zero l⟩;rintro⟨i,x,acc⟩ ⟨⟨i0,e⟩,hV⟩;dsimp only at e i0 hV;subst e;obtain⟨i,rfl⟩:∃n:Nat,i=(n:Int):=⟨i.toNat,by omega⟩
 rw[cO]at hV;have hle:=hV.1;have hac:=hV.2.1;refine aR (λg=>?_) λg=>?_
 .dsimp only[aj]at g;have hi:i<l.length:=by omega
  refine aX (λx=>(((i:Int)<x.1/\x.1<=l.length)/\x.2.1=(l,w2,q,F,D,A))/\OV l x.1.toNat x.2.2) ?_ ?_
  .refine dV (aW (aZ (by simp;omega) (by omega) ?_));have hc:aG (T:=OR) l (i:Int)=cG l i:=rfl;generalize hz:aG (T:=OR) l (i:Int)=z at hc;have one:=hV.one hi;have arr:=hV.arr hi;have no:=hV.no hi;have hB1:BKA l i↔¬(z.2.2.1:Int)=0/\(1:Int)<=z.2.2.1/\(4:Int)≥z.2.2.1/\(l.length:Int)≥(i:Int)+z.2.2.1/\∀k:Nat,(k:Int)<(z.2.2.1:Int)->cG l ((i:Int)+k)=bkE z k:=by
    constructor
    .rintro⟨a,b,c,d,e⟩;rw[<- hc]at a b c d e;exact⟨a,b,c,d,e⟩
    .rintro⟨a,b,c,d,e⟩;rw[hc]at a b c d e;exact⟨a,b,c,d,e⟩
   rw[<- hc]at one arr no;clear hc;have hzz:z=cG l ((i:Int)):=hz.symm;clear hz;obtain⟨L,(z2:Int),(s:Int),z4,(z5:Int)⟩:=z;dsimp only at one arr no hB1 ⊢;refine aE (λI=>bV (λh2=>ai ?_) λh2=>ai ?_) λI=>?_
   .exact⟨λh=>(by cases h),λ_=>no (λh=>h2 h.2) λh=>(hB1.1 h).1 I⟩
   .have:=one I h2;dsimp only;rw[fx (by omega)];exact⟨⟨by omega,rfl⟩,this⟩
   have no:=no λh=>I h.1
   refine aX (λx=>x.2=((l,w2,q,F,D,A),acc++[L],L,z2,s,z4,z5)/\(x.1=M->∀ns,¬Dg l 0 ns)/\(x.1=aa->1<=s/\s<=4/\(i:Int)+s<=l.length)) ?_ ?_
   .refine aR (λh=>ai ⟨rfl,λ_=>no λhb=>(by have:=(hB1.1 hb).2.1;omega),λh=>(by cases h)⟩) λh1=>aR (λh=>ai ⟨rfl,λ_=>no λhb=>(by have:=(hB1.1 hb).2.2.1;omega),λh=>(by cases h)⟩) λh4=>ai ⟨rfl,λh=>no λhb=>?_,λh=>⟨h1,h4,?_⟩⟩
    .have:=(hB1.1 hb).2.2.2.1;dsimp only[aj]at h;rw[mB,gJ (by omega) (by omega)]at h;omega
    .dsimp only[aj]at h;rw[fD,gJ (by omega) (by omega)]at h;omega
   rintro⟨b,x⟩ ⟨e,hb1,hb2⟩;dsimp only at e hb1 hb2;subst e;refine aK (λh=>ai ⟨λh=>(by cases h),λ_=>hb1 h⟩) λh=>?_
   obtain⟨q1,q2,q4⟩:=hb2 h;refine my (λx=>(s-x.1).toNat) (λx=>(0<=x.1/\x.1<=s)/\x.2=((l,w2,q,F,D,A),acc++[L],L,z2,s,z4,z5)/\∀k:Nat,(k:Int)<x.1->cG l ((i:Int)+k)=bkE (L,z2,s,z4,z5) k) ?_ ⟨⟨by simp,by dsimp only;omega⟩,rfl,λk hk=>(by dsimp only at hk;omega)⟩;rintro⟨k,x⟩ ⟨⟨k0,k1⟩,e,hal⟩;dsimp only at k0 k1 e hal;subst e;refine aR (λhk=>?_) λhk=>ai ?_
   .dsimp only at hk;have ew:a9 .i64 ((i:Int)+k)=(i:Int)+k:=gJ (by omega) (by omega);refine aH (by dsimp only;rw[ew];omega) (by dsimp only;rw[ew];omega) (aW ?_);dsimp only;rw[ew];refine aX (λx=>x.2=((l,w2,q,F,D,A),acc++[L],L,z2,s,z4,z5)/\(x.1=aa↔cG l ((i:Int)+k)=bkE (L,z2,s,z4,z5) k)) ?_ ?_
    .have hcg:cG l ((i:Int)+k)=aG (T:=OR) l ((i:Int)+k):=rfl;rw[hcg];generalize aG (T:=OR) l ((i:Int)+k)=c;obtain⟨c1,(c2:Int),(c3:Int),c4,(c5:Int)⟩:=c;dsimp only;refine bV (λg=>ai ⟨rfl,?_⟩) λg1=>bV (λg=>ai ⟨rfl,?_⟩) λg2=>bV (λg=>ai ⟨rfl,?_⟩) λg3=>bV (λg=>ai ⟨rfl,?_⟩) λg4=>ai ⟨rfl,?_⟩
     .exact⟨λh=>(by cases h),λh=>(g (iX (λc:GV=>c.2.1) h)).elim⟩
     .exact⟨λh=>(by cases h),λh=>(g (iX (λc:GV=>c.1) h)).elim⟩
     .exact⟨λh=>(by cases h),λh=>(g (iX (λc:GV=>c.2.2.1) h)).elim⟩
     .exact⟨λh=>(by cases h),λh=>(g (iX (λc:GV=>c.2.2.2.2) h)).elim⟩
     .constructor
      .intro hh;have h0:c4=aa:=hh;subst g1;subst g2;subst g3;subst g4;rw[h0];rfl
      .exact λh=>iX (λc:GV=>c.2.2.2.1) h
    rintro⟨b,x⟩ ⟨e,hb⟩;dsimp only at e hb;subst e;refine aK (λhne=>ai ⟨λh=>(by cases h),λ_=>no λhB=>?_⟩) λhne=>ai ⟨⟨⟨?_,?_⟩,rfl,λm hm=>?_⟩,?_⟩
    .have:=(hB1.1 hB).2.2.2.2 k.toNat (by omega);rw[show (((k.toNat:Nat):Int))=k by omega]at this;rw[hb.2 this]at hne;cases hne
    .dsimp only;rw[gJ (by omega) (by omega)];omega
    .dsimp only;rw[gJ (by omega) (by omega)];omega
    .dsimp only at hm;rw[gJ (by omega) (by omega)]at hm;rcases Int.lt_or_le (m:Int) k with g|g
     .exact hal m g
     .have:(m:Int)=k:=by omega
      rw[this];exact hb.1 hne
    .dsimp only;rw[gJ (by omega) (by omega)];omega
   .dsimp only at hk;have hkz:k=s:=by omega
    subst hkz;have hB:=hB1.2 ⟨I,q1,q2,q4,hal⟩;have:=arr hB;dsimp only;rw[gJ (by omega) (by omega),show ((i:Int)+k).toNat=i+k.toNat by omega];exact⟨⟨⟨by omega,by omega⟩,rfl⟩,this⟩
  .rintro⟨j,x,acc'⟩ ⟨⟨⟨h1,h2⟩,e⟩,I⟩;dsimp only at h1 h2 I e;subst e;exact ai ⟨⟨⟨by dsimp only;omega,rfl⟩,I⟩,by dsimp only;omega⟩
 .dsimp only[aj]at g;have:i=l.length:=by omega
  subst this;have hN:=hV.end_;refine ar (P:=λy=>y=(sA (l,w2,q,F,D,A) acc,M)) ?_ λy hy=>ai ?_
  .refine cg w2.length (λi x=>x=((i:Int),(l,w2,q,F,D,A),acc++(w2.take i).map (·.1))) ?_ ?_ (by simp)
   .rintro i x hi rfl;refine iC (dV (aW (aZ (by simp;omega) (by omega) (ai ?_))));dsimp only;rw[fx (by omega),pX (T:=xM) hi,da,iv];rfl
   .rintro x rfl;rw[bS];refine hX (ar (P:=λy=>y=(sA (l,w2,q,F,D,A) acc,M)) ?_ λy hy=>ai hy);refine cg q.length (λi x=>x=((i:Int),(l,w2,q,F,D,A),(acc++w2.map (·.1))++(q.take i).map (·.1))) ?_ ?_ (by simp)
    .rintro i x hi rfl;refine iC (dV (aW (aZ (by simp;omega) (by omega) (ai ?_))));dsimp only;rw[fx (by omega),pX (T:=pT) hi,da,iv (acc++w2.map (·.1))];rfl
    .rintro x rfl;rw[bS];refine hX (ar (P:=λy=>y=(sA (l,w2,q,F,D,A) acc,M)) ?_ λy hy=>ai hy);exact aZ (by simp;omega) (by omega) (aZ (by simp;omega) (by omega) (ai rfl))
  .subst hy;exact⟨λ_=>⟨acc,hN,rfl⟩,λh=>(by cases h)⟩
theorem U6 {T t n:Int} {z:ν}:siS T (Z (t,n)) z≠U↔(z.1=t/\z.2.1=n\/t<z.1/\z.1<T/\z.2.1=0):=by
 unfold siS;dsimp only;by_cases h1:z.1=t/\z.2.1=n
 .rw[aT h1];simp[h1]
 .rw[aL h1];by_cases h2:t<z.1/\z.1<T/\z.2.1=0
  .rw[aT h2];simp[h2]
  .rw[aL h2];simp only[ne_eq,not_true_eq_false,false_iff];exact λh=>h.elim h1 h2
theorem wu {α:Type} {l:Y α} {x:α}:(l++[x]).Nodup↔l.Nodup/\¬x∈l:=by
 rw[List.nodup_append];constructor
 .rintro⟨h1,_,q⟩;exact⟨h1,λh=>q x h x (by simp) rfl⟩
 .rintro⟨h1,h2⟩;exact⟨h1,by simp,λa d b hb e=>by simp at hb;subst hb;subst e;exact h2 d⟩
theorem HW {α:Type} {l:Y α} (h:l.Nodup) (i:Nat):(l.take i).Nodup:=h.sublist (List.take_sublist i l)
theorem Z7 {w:WT} {ns:Y ζ} (h:VL w) (hn:Dg w.1 0 ns):(sA w ns).length<=24:=by
 have:=hn.len.2;have:=h.c;have:=h.l;have:=h.d;have:=h.f;have:=h.t;unfold sA;simp;omega
theorem Kq.names {w:WT} (h:Kq w) {ns:Y ζ} (hn:Dg w.1 0 ns):(∀s∈sA w ns,t7 s)/\(sA w ns).Nodup:=by
 obtain⟨ns',h1,h2⟩:=h.ns;rw[hn.uniq h1];exact h2
structure SiI (T:Int) (l:List ν) (i:Nat) (t k:Int):Prop where
 f:Wh T (l.take i)=Z (t,k)
 t0:0<=t
 t1:t<T
 z:i=0->t=0/\k=0
 p:¬i=0->∀y:ν,aG (T:=De) l ((i-1:Nat):Int)=y->y.1=t/\y.2.1+1=k
 k0:0<=k
 k1:k<=i
theorem SiI.zero {T:Int} (l:Y ν) (h:0<T):SiI T l 0 0 0:=⟨rfl,by omega,h,λ_=>⟨rfl,rfl⟩,λh=>(h rfl).elim,by omega,by omega⟩
theorem SiI.no {T:Int} {l:Y ν} {i:Nat} {t k:Int} (h:SiI T l i t k) (hi:i<l.length) {y:ν} (e:aG (T:=De) l (i:Int)=y) (g:¬(y.1=t/\y.2.1=k\/t<y.1/\y.1<T/\y.2.1=0)):Wh T l=U:=by
 refine Classical.not_not.1 λhn=>?_
 have h2:=abi hn (i+1);rw[Hz hi,h.f,e]at h2;exact g (U6.1 h2)
theorem SiI.next {T:Int} {l:Y ν} {i:Nat} {t k:Int} (h:SiI T l i t k) (hi:i<l.length) {y:ν} (e:aG (T:=De) l (i:Int)=y) (g:y.1=t/\y.2.1=k\/t<y.1/\y.1<T/\y.2.1=0):SiI T l (i+1) y.1 (y.2.1+1):=by
 obtain⟨f,t0,t1,z,p,k0,k1⟩:=h;have h2:=YE (U6.2 g);rw[<- f,<-e,<-Hz hi]at h2;refine ⟨by rw[<- e];exact h2.1,?_,?_,λh=>by omega,λ_ d e'=>?_,?_,?_⟩
 case refine_3=>
  rw[show i+1-1=i by omega,e]at e';subst e';exact⟨rfl,rfl⟩
 all_goals omega
theorem Kr (w:WT) (h:VL w):Ok (fH w) λb=>b=M↔SV0 w:=by
 have hs:=h.s;have ht:=h.t0;have L:=h.t;unfold SV0;unfold fH kQ aV ba bO ci bx ir bG aY cI aB cu;refine dZ w.2.2.2.2.2.length (by omega) (λi x=>∃t n:Int,x=((t,n,(i:Int)),w)/\SiI w.2.2.2.2.1.length w.2.2.2.2.2 i t n) ?_ ?_ ⟨0,0,rfl,SiI.zero _ (by omega)⟩
 .rintro i x hi ⟨t,n,rfl,A⟩;refine iC (dV (aW ?_));obtain⟨⟨a,b,c⟩,D⟩:∃y:ν,aG (T:=De) w.2.2.2.2.2 (i:Int)=y:=⟨_,rfl⟩
  have no:=A.no hi D;have nx:=A.next hi D;obtain⟨_,t0,t1,z,p,k0,k1⟩:=A;rw[D];clear D;dsimp only at no nx ⊢;have no':=λg=>(⟨λh=>(by cases h),λh=>(h (no g)).elim⟩:aa=M↔Wh w.2.2.2.2.1.length w.2.2.2.2.2≠U)
  refine aX (λx=>x.2=(w,a,b,c)/\(x.1=aa↔t<=a/\a<w.2.2.2.2.1.length)) ?_ ?_
  .refine aR (λg=>ai ⟨rfl,λh=>(by cases h),λh=>(by omega)⟩) λg=>ai ⟨rfl,?_⟩
   dsimp only[aj];rw[ko];omega
  rintro⟨x1,x⟩ ⟨e,F⟩;dsimp only at e F;subst e;refine aK (λg=>ai (no' λh=>?_)) λg=>?_
  .have:¬(t<=a/\a<w.2.2.2.2.1.length):=λq=>by rw[F.2 q]at g;cases g
   omega
  obtain⟨g1,g2⟩:=F.1 g;refine aX (λx=>x.2=(w,a,b,c)/\x.1.1=a/\((x.1.2=b↔(a=t/\b=n\/t<a/\b=0))/\0<=x.1.2/\x.1.2<=i)) ?_ ?_
  .refine aR (λg=>ai ⟨rfl,rfl,?_⟩) λg=>ai ⟨rfl,?_,?_⟩
   .dsimp only at g ⊢;omega
   .dsimp only at g ⊢;omega
   .dsimp only at g ⊢;omega
  rintro⟨⟨x1,x2⟩,x⟩ ⟨e,e2,d,k2,I⟩;dsimp only at e e2 d k2 I;subst e;subst e2;refine bV (λg=>ai (no' λh=>?_)) λg=>ai ⟨_,_,?_,nx ?_⟩
  .dsimp only at g;have:¬x2=b:=λq=>g q.symm
   rw[d]at this;omega
  .dsimp only at g ⊢;have g:b=x2:=g;rw[fx (by omega),gJ (n:=x2+1) (by omega) (by omega),g]
  .dsimp only at g;have g:b=x2:=g;have:=d.1 g.symm;omega
 .rintro x ⟨t,n,rfl,A⟩;refine hX (ai ⟨λ_ h=>?_,λ_=>rfl⟩);have:=A.f;rw[bS,h]at this;cases this
theorem aiq {T:Ty} {l:Y T.den} {p:T.den->Prop} (h:∀k:Nat,k<ah l->p (aG l (k:Int))):∀c∈l,p c:=il h
theorem VW06 (w:WT):Ok (gV w) λb=>b=M↔Kq w:=by
 unfold gV aV ba bk bO ci dx bf bx jk ir bo bG aY cI aB cu;refine aX (λx=>x.2=w/\(x.1=aa->VL w)/\(x.1=M->¬VL w)) ?_ ?_
 .with_reducible repeat' first|(refine OS.ok ?_;constructor)|refine IM.mk λ_=>?_
  all_goals first|exact⟨rfl,λh=>(by cases h),λ_ hv=>(by have:=hv.c;have:=hv.l;have:=hv.d;have:=hv.f;have:=hv.t0;have:=hv.t;dsimp only[aj]at *;omega)⟩|skip
  dsimp only[aj] at*
  refine ⟨rfl,λh=>?_,λh hv=>?_⟩
  .rw[fD]at h;constructor<;>omega
  .rw[mB]at h;have:=hv.s;omega
 rintro⟨b,x⟩ ⟨e,hb,hb'⟩;dsimp only at e hb hb';subst e;refine aK (λh=>ai ⟨λg=>(by cases g),λg=>(hb' h g.v).elim⟩) λh=>?_
 have hv:=hb h;refine ar (abz _ hv) λy I=>?_
 refine cX (λh=>ai ⟨λg=>(by cases g),λg=>?_⟩) λh=>?_
 .obtain⟨ns,h1,_⟩:=g.ns;exact (I.2 h ns h1).elim
 obtain⟨ns,hns,hyn⟩:=I.1 h;have hlen:=Z7 hv hns;rw[hyn];clear hyn I;clear hb hb';have hN:Kq x->(∀s∈sA x ns,t7 s)/\(sA x ns).Nodup:=λg=>g.names hns
 generalize hL:sA x ns=L at hN hlen;refine cg L.length (λi x'=>x'=((i:Int),x)/\(∀s∈L.take i,t7 s)/\(L.take i).Nodup) ?_ ?_ ⟨rfl,λs hs=>(by simp at hs),by simp⟩
 .rintro i x' hi ⟨rfl,hq1,hq2⟩;refine iC ?_;have htk:=pX (T:=.str) hi;refine aX (λx'=>x'.2=x/\(x'.1=aa↔t7 (aG (T:=.str) L (i:Int))/\¬aG (T:=.str) L (i:Int)∈L.take i)) ?_ ?_
  .refine dV (aW (ar (aan _) λb hb=>?_));refine cX (λh=>ai ⟨rfl,λh=>(by cases h),λg=>?_⟩) λh=>?_
   .rw[hb.2 g.1]at h;cases h
   refine cK (cY (by omega) (cY (by dsimp only;omega) (dV (aW ?_))));refine ar (AB _ _ (by simp;omega)) λr hr=>ai ⟨rfl,?_⟩
   obtain⟨_,h2,h3,h4⟩:=hr;rw[ko];constructor
   .intro g;exact⟨hb.1 h,h4 g⟩
   .rintro⟨_,g⟩;refine Int.not_le.1 λh0=>g ?_
    have h3:=h3 h0;dsimp only at h3;rw[<- h3];exact bH (T:=.str) h0 h2
  rintro⟨b,x'⟩ ⟨e,hb⟩;dsimp only at e hb;subst e;refine aK (λh=>ai ⟨λg=>(by cases g),λg=>?_⟩) λh=>ai ⟨by dsimp only;rw[fx (by omega)],?_,?_⟩
  .obtain⟨g1,g2⟩:=hN g;have:b=aa:=hb.2 ⟨g1 _ (bH (T:=.str) (by omega) (by omega)),(wu.1 (by rw[<- htk];exact HW g2 _)).2⟩;rw[this]at h;cases h
  .rw[htk];intro s hs;rcases bN.1 hs with hs|hs
   .exact hq1 s hs
   .rw[aJ]at hs;subst hs;exact (hb.1 h).1
  .rw[htk];exact wu.2 ⟨hq2,(hb.1 h).2⟩
 rintro x' ⟨rfl,hq1,hq2⟩;rw[bS]at hq1 hq2;subst hL;obtain⟨w1,w2,q,F,D,A⟩:=x;have h6:=hv.s;have h3:=hv.d;have h2:=hv.l;have h50:=hv.t0;dsimp only at h6 h3 h2 h50;refine hX (ar (P:=λb=>b=M↔Kq (w1,w2,q,F,D,A)) ?_ λy I=>ai I);refine cg q.length (λi x=>x=((i:Int),(w1,w2,q,F,D,A))/\∀k:Nat,k<i->0<=(aG (T:=pT) q (k:Int)).2/\(aG (T:=pT) q (k:Int)).2<w2.length/\(aG (T:=xM) w2 (aG (T:=pT) q (k:Int)).2).2=aa) ?_ ?_ ⟨rfl,λk hk=>(by omega)⟩
 .rintro i x hi ⟨rfl,hq⟩;refine iC (dV (aW ?_));have hmem:aG (T:=pT) q (i:Int)∈q:=bH (T:=pT) (by omega) (by omega);have hVW:Kq (w1,w2,q,F,D,A)->0<=(aG (T:=pT) q (i:Int)).2/\(aG (T:=pT) q (i:Int)).2<w2.length/\(aG (T:=xM) w2 (aG (T:=pT) q (i:Int)).2).2=aa:=λg=>g.cd _ hmem
  have hq':(0<=(aG (T:=pT) q (i:Int)).2/\(aG (T:=pT) q (i:Int)).2<w2.length/\(aG (T:=xM) w2 (aG (T:=pT) q (i:Int)).2).2=aa)->∀k:Nat,k<i+1->0<=(aG (T:=pT) q (k:Int)).2/\(aG (T:=pT) q (k:Int)).2<w2.length/\(aG (T:=xM) w2 (aG (T:=pT) q (k:Int)).2).2=aa:=λg k hk=>by
   rcases bM k i with h1|h1
   .exact hq k h1
   .rw[show k=i by omega];exact g
  clear hq;obtain⟨⟨c1,c2⟩,hc⟩:∃c:ζ×Int,aG (T:=pT) q (i:Int)=c:=⟨_,rfl⟩
  rw[hc]at hVW hq' ⊢;dsimp only at hVW hq' ⊢;refine aX (λx=>x.2=(w1,w2,q,F,D,A)/\(x.1=aa↔0<=c2/\c2<w2.length/\(aG (T:=xM) w2 c2).2=aa)) ?_ ?_
  .refine aR (λg=>ai ⟨rfl,λh=>(by cases h),λh=>(by omega)⟩) λg=>dX (λg2=>ai ⟨rfl,λh=>(by cases h),λh=>(by dsimp only[aj]at g2;omega)⟩) λg2=>?_
   dsimp only[aj]at g2;exact dV (aW (ai ⟨rfl,λh=>⟨g,g2,h⟩,λh=>h.2.2⟩))
  rintro⟨b,x⟩ ⟨e,hb⟩;dsimp only at e hb;subst e;refine aK (λh=>ai ⟨λg=>(by cases g),λg=>?_⟩) λh=>ai ⟨by dsimp only;rw[fx (by omega)],hq' (hb.1 h)⟩
  rw[hb.2 (hVW g)]at h;cases h
 rintro x ⟨rfl,hq⟩;have hcd:∀c∈q,0<=c.2/\c.2<w2.length/\(aG (T:=xM) w2 c.2).2=aa:=aiq (T:=pT) hq;clear hq;refine hX (ar (P:=λb=>b=M↔Kq (w1,w2,q,F,D,A)) ?_ λy I=>ai I);have hno:Wh D.length A=U->(aa=M↔Kq (w1,w2,q,F,D,A)):=λg=>⟨λh=>(by cases h),λh=>(h.s g).elim⟩
 refine cg A.length (λi x=>x=((i:Int),(w1,w2,q,F,D,A))/\∃t k:Int,SiI D.length A i t k) ?_ ?_ ⟨rfl,0,0,SiI.zero _ (by omega)⟩
 .rintro i x hi ⟨rfl,t,k,hI⟩;have hw:¬(i:Int)=0->a9 .i64 ((i:Int)-1)=((i-1:Nat):Int):=λh=>by rw[gJ (by omega) (by omega)];omega
  refine iC ?_;obtain⟨⟨a,b,c⟩,I⟩:∃y:ν,aG (T:=De) A (i:Int)=y:=⟨_,rfl⟩
  have no:=hI.no hi I;have nx:=hI.next hi I;obtain⟨_,t0,t1,z,p,k0,k1⟩:=hI;obtain⟨⟨pa,pb,pc⟩,hp⟩:∃y:ν,aG (T:=De) A ((i-1:Nat):Int)=y:=⟨_,rfl⟩
  have p:=λh=>p h _ hp
  dsimp only at no nx p;refine aX (λx=>x=(w1,w2,q,F,D,A)/\(a=t/\b=k\/t<a/\a<D.length/\b=0)) ?_ ?_
  .refine dV (aW ?_);dsimp only;rw[I];dsimp only;refine aX (λx=>x.2=((w1,w2,q,F,D,A),a,b,c)/\(x.1=aa↔0<=a/\a<D.length)) ?_ ?_
   .refine aR (λ_=>ai ⟨rfl,λh=>(by cases h),λh=>(by omega)⟩) λg=>ai ⟨rfl,?_⟩
    dsimp only[aj];rw[ko];omega
   rintro⟨b1,x⟩ ⟨e,hx⟩;dsimp only at e hx;subst e;refine aK (λh=>ai (hno (no λg=>?_))) λh=>?_
   .rw[hx.2 (by omega)]at h;cases h
   obtain⟨a0,a1⟩:=hx.1 h;refine aX (λx=>x.2=((w1,w2,q,F,D,A),a,b,c)/\(x.1=aa↔¬i=0/\t=a)) ?_ ?_
   .refine aE (λh=>ai ⟨rfl,λh=>(by cases h),λg=>?_⟩) λh=>?_
    .have h:((i:Nat):Int)=0:=h;omega
    have h:¬((i:Nat):Int)=0:=h;have hpp:=p (by omega);dsimp only;rw[hw h];refine aH (by omega) (by first|omega|(dsimp only;omega)) (aW (ai ⟨rfl,?_⟩));rw[hp];dsimp only;rw[hpp.1];simp only[Bool.not_eq_false',bz];exact⟨λg=>⟨by omega,g⟩,λg=>g.2⟩
   rintro⟨c1,x⟩ ⟨e,hc⟩;dsimp only at e hc;subst e;refine aK (λhct=>?_) λhcf=>?_
   .have hne:¬(¬i=0/\t=a):=λg=>by rw[hc.2 g]at hct;cases hct
    refine aX (λx=>x.2=(w1,w2,q,F,D,A)/\(x.1=aa↔b=0/\(i=0\/t<=a))) ?_ ?_
    .refine bV (λg=>ai ⟨rfl,λh=>(by cases h),λh=>(g h.1).elim⟩) λhb0=>aR (λh=>?_) λh=>ai ⟨rfl,λ_=>⟨hb0,.inl ?_⟩,λ_=>rfl⟩
     .have h:(0:Int)<((i:Nat):Int):=h;have hpp:=p (by omega);dsimp only;rw[hw (by omega)];refine aH (by omega) (by first|omega|(dsimp only;omega)) (aW (ai ⟨rfl,?_⟩));rw[hp];dsimp only;rw[hpp.1,fD];exact⟨λg=>⟨hb0,.inr g⟩,λg=>g.2.elim (λg=>by omega) id⟩
     .have h:((i:Nat):Int)<=0:=h;omega
    rintro⟨b2,x⟩ ⟨e,hb2⟩;dsimp only at e hb2;subst e;refine aK (λh=>ai (hno (no λg=>?_))) λh=>ai ⟨rfl,?_⟩
    .have:¬(b=0/\(i=0\/t<=a)):=λg=>by rw[hb2.2 g]at h;cases h
     by_cases i0:i=0
     .have:=z i0;omega
     .omega
    .have g:=hb2.1 h;by_cases i0:i=0
     .have:=z i0;omega
     .omega
   .obtain⟨i0,ta⟩:=hc.1 hcf;have hpp:=p i0;dsimp only;rw[hw (by omega)];refine aH (by omega) (by first|omega|(dsimp only;omega)) (aW ?_);rw[hp];refine bV (λg=>ai (hno (no λg2=>?_))) λg=>ai ⟨rfl,?_⟩
    .dsimp only at g;rw[gJ (by omega) (by omega)]at g;omega
    .dsimp only at g;rw[gJ (by omega) (by omega)]at g;omega
  .rintro x ⟨rfl,g⟩;exact ai ⟨by dsimp only;rw[fx (by omega)],_,_,nx g⟩
 .rintro x ⟨rfl,t,k,hI⟩;refine hX (ai ⟨λ_=>⟨hv,⟨ns,hns,hq1,hq2⟩,hcd,λh=>?_⟩,λ_=>rfl⟩);have:=hI.f;rw[bS]at this;rw[this]at h;cases h
theorem Y3 (k j:ζ) (v:Bool):∀m:Y (ζ×Bool),mA (K:=.str) (V:=.bool) j (AU (K:=.str) (V:=.bool) k v m)=if j=k then Z v else mA (K:=.str) (V:=.bool) j m
 |[]=>by
  show (if decide (j=k)=M then Z v else U)=_;by_cases h:j=k<;>simp[h,mA]
 |(a,b)::r=>by
  have d:=Y3 k j v r;show mA (K:=.str) (V:=.bool) j (if decide (k=a)=M then (k,v)::r else (a,b)::AU (K:=.str) (V:=.bool) k v r)=if j=k then Z v else if decide (j=a)=M then Z b else mA (K:=.str) (V:=.bool) j r
  by_cases h:k=a
  .subst h;rw[aT (be rfl)];show (if decide (j=k)=M then Z v else mA (K:=.str) (V:=.bool) j r)=_;by_cases g:j=k<;>simp[g]
  .rw[aL (by simpa using h)];show (if decide (j=a)=M then Z b else mA (K:=.str) (V:=.bool) j (AU (K:=.str) (V:=.bool) k v r))=_;rw[d];by_cases g:j=a
   .subst g;rw[aT (be rfl),aL λq=>h q.symm,aT (be rfl)]
   .simp only[g,c9,bF,du]
def J8 (l:Y ζ) (m:Y (ζ×Bool)):Prop:=∀s,yl (K:=.str) (V:=.bool) s m aa=decide (s∈l)
theorem J8.nil:J8 [] []:=λs=>by simp[yl,mA]
theorem J8.snoc {l:Y ζ} {m:Y (ζ×Bool)} (h:J8 l m) (x:ζ):J8 (l++[x]) (AU (K:=.str) (V:=.bool) x M m):=λs=>by
 have:=h s;unfold yl at this ⊢;rw[Y3];by_cases e:s=x
 .subst e;simp
 .rw[aL e,this];simp[e]
theorem Ks (w:WT) (h:VL w) (ns:Y ζ) (hn:ns.length<=12):Ok (fI (w,ns)) λb=>b=M↔(∀s∈sA w ns,t7 s)/\(sA w ns).Nodup:=by
 obtain⟨l,w2,d,z,q,A⟩:=w;obtain⟨h1,h2,h3,h4,_,h5,h6⟩:=h;dsimp only at*
 unfold fI kR aV ba bk bx bo bG j7 aY cI aB cu;refine aZ (by dsimp only;omega) (by omega) ?_;refine dZ w2.length (by omega) (λi x=>x=((i:Int),(l,w2,d,z,q,A),ns++(w2.take i).map (·.1))) ?_ ?_ (by simp)
 .rintro i x hi rfl;refine iC (dV (aW (aZ (by simp;omega) (by omega) (ai ?_))));dsimp only;rw[fx (by omega),pX (T:=xM) hi,da,iv];rfl
 rintro x rfl;rw[bS];refine hX (ar (P:=λb=>b=M↔(∀s∈sA (l,w2,d,z,q,A) ns,t7 s)/\(sA (l,w2,d,z,q,A) ns).Nodup) ?_ λy I=>ai I);refine dZ d.length (by omega) (λi x=>x=((i:Int),(l,w2,d,z,q,A),(ns++w2.map (·.1))++(d.take i).map (·.1))) ?_ ?_ (by simp)
 .rintro i x hi rfl;refine iC (dV (aW (aZ (by simp;omega) (by omega) (ai ?_))));dsimp only;rw[fx (by omega),pX (T:=pT) hi,da,iv (ns++w2.map (·.1))];rfl
 rintro x rfl;rw[bS];refine hX (ar (P:=λb=>b=M↔(∀s∈sA (l,w2,d,z,q,A) ns,t7 s)/\(sA (l,w2,d,z,q,A) ns).Nodup) ?_ λy I=>ai I);refine aZ (by simp;omega) (by omega) (aZ (by simp;omega) (by omega) ?_);have hL:((ns++w2.map (·.1))++d.map (·.1)++z)++q=sA (l,w2,d,z,q,A) ns:=rfl;have hLl:(sA (l,w2,d,z,q,A) ns).length<=24:=by unfold sA;simp;omega
 dsimp only;rw[hL];generalize sA (l,w2,d,z,q,A) ns=L at hLl;refine dZ L.length (by omega) (λi x=>∃m,x=((i:Int),m,L)/\J8 (L.take i) m/\(∀s∈L.take i,t7 s)/\(L.take i).Nodup) ?_ ?_ ⟨[],rfl,J8.nil,λs hs=>(by simp at hs),by simp⟩
 .rintro i x hi ⟨m,rfl,hm,F,D⟩;refine iC (dV (dV (aW ?_)));have htk:=pX (T:=.str) hi;refine aX (λx=>x.2=(m,L)/\(x.1=aa↔t7 (aG (T:=.str) L (i:Int))/\¬aG (T:=.str) L (i:Int)∈L.take i)) ?_ ?_
  .refine ar (ae1 _) λb hb=>cX (λh=>ai ⟨rfl,λh=>(by cases h),λg=>?_⟩) λh=>ai ⟨rfl,?_⟩
   .rw[hb.2 g.1]at h;cases h
   .have:=hm (aG (T:=.str) L (i:Int));constructor
    .intro g;exact⟨hb.1 h,jE (this.symm.trans g)⟩
    .intro g;exact this.trans (bD g.2)
  rintro⟨b,x⟩ ⟨e,hb⟩;dsimp only at e hb;subst e;refine aK (λh=>ai ⟨λg=>(by cases g),λg=>?_⟩) λh=>ai ⟨_,by dsimp only;rw[fx (by omega)],?_,?_,?_⟩
  .have:b=aa:=hb.2 ⟨g.1 _ (bH (T:=.str) (by omega) (by omega)),(wu.1 (by rw[<- htk];exact HW g.2 _)).2⟩;rw[this]at h;cases h
  .rw[htk];exact hm.snoc _
  .rw[htk];intro s hs;rcases bN.1 hs with hs|hs
   .exact F s hs
   .rw[aJ]at hs;subst hs;exact (hb.1 h).1
  .rw[htk];exact wu.2 ⟨D,(hb.1 h).2⟩
 .rintro x ⟨m,rfl,hm,F,D⟩;rw[bS]at F D;exact hX (ai ⟨λ_=>⟨F,D⟩,λ_=>rfl⟩)
theorem ab9 (a b:Int):md (a,b)=Z (decide (0<=a/\a<b)):=by
 refine bY ?_;unfold md jk aB;with_reducible repeat' first|(refine OS.ok ?_;constructor)|refine IM.mk λ_=>?_
 .by_cases h:a<b<;>simp[*,fK]
 .simp;omega
theorem VWc (w:WT):Ok (dw w) λb=>b=M↔Kq w:=by
 unfold dw kT aV ba bO ci bx bG aY cI aB cu;refine aX (λx=>x.2=w/\(x.1=M->¬VL w)/\(x.1=aa->w.1.length<=12/\w.2.1.length<=4/\w.2.2.1.length<=2/\w.2.2.2.1.length<=2/\w.2.2.2.2.2.length<=60)) ?_ ?_
 .refine aR (λg=>ai ⟨rfl,λ_ hv=>(by have:=hv.c;dsimp only[aj]at g;omega),λh=>(by cases h)⟩) λg1=>aR (λg=>ai ⟨rfl,λ_ hv=>(by have:=hv.l;dsimp only[aj]at g;omega),λh=>(by cases h)⟩) λg2=>aR (λg=>ai ⟨rfl,λ_ hv=>(by have:=hv.d;dsimp only[aj]at g;omega),λh=>(by cases h)⟩) λg3=>aR (λg=>ai ⟨rfl,λ_ hv=>(by have:=hv.f;dsimp only[aj]at g;omega),λh=>(by cases h)⟩) λg4=>ai ⟨rfl,λg hv=>?_,λg=>?_⟩
  .have:=hv.s;dsimp only[aj]at g;rw[mB]at g;omega
  .dsimp only[aj]at g g1 g2 g3 g4;rw[fD]at g;omega
 rintro⟨b,x⟩ ⟨e,A,q⟩;dsimp only at e A q;subst e;refine aK (λh=>ai ⟨λg=>(by cases g),λg=>(A h g.v).elim⟩) λh=>?_
 obtain⟨q1,q2,q3,q4,q5⟩:=q h;clear A q;refine aX (λy=>y.2=x/\(y.1=M->¬VL x)/\(y.1=aa->VL x)) ?_ ?_
 .refine aR (λg=>ai ⟨rfl,λ_ hv=>(by have:=hv.t0;dsimp only[aj]at g;omega),λh=>(by cases h)⟩) λg1=>ai ⟨rfl,λg hv=>?_,λg=>?_⟩
  .have:=hv.t;dsimp only[aj]at g;rw[mB]at g;omega
  .dsimp only[aj]at g g1;rw[fD]at g;constructor<;>omega
 rintro⟨b,y⟩ ⟨e,A,q⟩;dsimp only at e A q;subst e;refine aK (λh=>ai ⟨λg=>(by cases g),λg=>(A h g.v).elim⟩) λh=>?_
 have hv:=q h;clear A q;refine ar (Kt _ q1) λz hz=>?_
 obtain⟨ns,zb⟩:=z;obtain⟨L,I⟩:=hz;dsimp only at L I;refine aX (λz=>z.2=y/\(z.1=M->¬Kq y)/\(z.1=aa->Dg y.1 0 ns/\(∀s∈sA y ns,t7 s)/\(sA y ns).Nodup)) ?_ ?_
 .refine cX (λh=>ai ⟨rfl,λ_ g=>?_,λh=>(by cases h)⟩) λh=>?_
  .obtain⟨ns',g1,_⟩:=g.ns;exact I h ns' g1
  .have hn:=L h;refine ar (Ks y hv ns (by have:=hn.len.2;omega)) λb hb=>ai ⟨rfl,λg g2=>?_,λg=>⟨hn,hb.1 ?_⟩⟩
   .have:=hb.2 (g2.names hn);rw[this]at g;cases g
   .cases b with
    |true=>rfl
    |false=>cases g
 rintro⟨b,z⟩ ⟨e,A,q⟩;dsimp only at e A q;subst e;refine aK (λh=>ai ⟨λg=>(by cases g),λg=>(A h g).elim⟩) λh=>?_
 obtain⟨n1,n2,n3⟩:=q h;clear A q;have hsi:=Kr z hv;obtain⟨w1,w2,D,w4,w5,w6⟩:=z;dsimp only at q1 q2 q3 q4 q5 n1;refine dZ D.length (by omega) (λi x=>x=((i:Int),(w1,w2,D,w4,w5,w6))/\∀k:Nat,k<i->0<=(aG (T:=pT) D (k:Int)).2/\(aG (T:=pT) D (k:Int)).2<w2.length/\(aG (T:=xM) w2 (aG (T:=pT) D (k:Int)).2).2=aa) ?_ ?_ ⟨rfl,λk hk=>(by omega)⟩
 .rintro i x hi ⟨rfl,hq⟩;refine iC (dV (aW ?_));have hmem:aG (T:=pT) D (i:Int)∈D:=bH (T:=pT) (by omega) (by omega);have hVW:Kq (w1,w2,D,w4,w5,w6)->0<=(aG (T:=pT) D (i:Int)).2/\(aG (T:=pT) D (i:Int)).2<w2.length/\(aG (T:=xM) w2 (aG (T:=pT) D (i:Int)).2).2=aa:=λg=>g.cd _ hmem
  have F:(0<=(aG (T:=pT) D (i:Int)).2/\(aG (T:=pT) D (i:Int)).2<w2.length/\(aG (T:=xM) w2 (aG (T:=pT) D (i:Int)).2).2=aa)->∀k:Nat,k<i+1->0<=(aG (T:=pT) D (k:Int)).2/\(aG (T:=pT) D (k:Int)).2<w2.length/\(aG (T:=xM) w2 (aG (T:=pT) D (k:Int)).2).2=aa:=λg k hk=>by
   rcases bM k i with h1|h1
   .exact hq k h1
   .rw[show k=i by omega];exact g
  clear hq;obtain⟨⟨c1,c2⟩,hc⟩:∃c:ζ×Int,aG (T:=pT) D (i:Int)=c:=⟨_,rfl⟩
  rw[hc]at hVW F ⊢;dsimp only at hVW F ⊢;refine ar (P:=λb=>b=M↔0<=c2/\c2<w2.length/\(aG (T:=xM) w2 c2).2=aa) ?_ λb hb=>?_
  .unfold oV bG aY aB;refine fO (aQ (ab9 _ _) (aE (λg=>?_) λg=>ai (ai ⟨λh=>(by cases h),λh=>(g ⟨h.1,h.2.1⟩).elim⟩)));dsimp only[aj]at g;refine aH g.1 g.2 (aW (ai (ai ?_)));dsimp only;obtain⟨⟨d1,d2⟩,hd⟩:∃d:ζ×Bool,aG (T:=xM) w2 c2=d:=⟨_,rfl⟩
   rw[hd];cases d2
   .exact⟨λ_=>⟨g.1,g.2,rfl⟩,λ_=>rfl⟩
   .exact⟨λh=>(by cases h),λh=>(by cases h.2.2)⟩
  .refine cX (λh=>ai ⟨λg=>(by cases g),λg=>?_⟩) λh=>ai ⟨by rw[fx (by omega)],F (hb.1 h)⟩
   rw[hb.2 (hVW g)]at h;cases h
 rintro x ⟨rfl,hq⟩;have hcd:∀c∈D,0<=c.2/\c.2<w2.length/\(aG (T:=xM) w2 c.2).2=aa:=aiq (T:=pT) hq;refine hX (ar (P:=λb=>b=M↔Kq (w1,w2,D,w4,w5,w6)) ?_ λy hy=>ai hy);refine ar hsi λb hb=>ai ?_
 exact⟨λh=>⟨hv,⟨ns,n1,n2,n3⟩,hcd,hb.1 h⟩,λh=>hb.2 h.s⟩
abbrev sn8 (w:WT):SN:=(KA w,ce0 w,fu0 w,aA w.2.2.2.2.1.length 0)
theorem aia {α:Type} (xs:Y α) (i:Nat) (x:α):cj xs (i:Int) x=xs.set i x:=by unfold cj;simp
theorem abl {α:Type} {a b:α} {n i:Nat} (h:i<n):(aA i a++aA (n-i) b).set i a=aA (i+1) a++aA (n-(i+1)) b:=by
 rw[show n-i=(n-(i+1))+1 by omega,pU];rw[List.set_append_right _ _ (by simp),cN,up,List.set_cons_zero,Dc];simp
theorem abm {T:Ty} {a b:T.den} {n i:Nat} (h:i<n):aG (T:=T) (aA i a++aA (n-i) b) (i:Int)=b:=by
 rw[K_,ay,bX (by simp),cN,up,lE,aT (by omega)];rfl
theorem Py (w:WT) (h:VL w):kE w=Z (KA w):=by
 have h2:=h.l;have A:=h.f;have z:=h.t;have s:=h.t0;have d:∀(n b:Nat),n<=4->b<=1024->(cP 0 (aU n)&&cP (aU n) (aU n)&&bc (aP (aU n)) b)=M:=λn b hn hb=>by
  rw[oW.2 (show (0:Int)<=aU n from ey n),oW.2 (gp _),zj.2 ⟨by simp;omega,by simp only[aj,cO];exact c6 (Nat.mul_le_mul (show n<=1073741824 by omega) hb) (by omega)⟩];rfl
 refine bY ?_;unfold kE rM aV ba bk bn cC ci ck bx bo aY cI aB cu;refine a8 (d _ _ h2 (by omega)) (a8 (d _ _ (by omega) (by omega)) (a8 (d _ _ z (by omega)) ?_));refine dZ w.2.1.length (by omega) (λi x=>x=((i:Int),0,(-1:Int),aA i ((-1:Int),([]:η))++aA (w.2.1.length-i) (0,[]),aA w.2.2.2.1.length aa,aA w.2.2.2.2.1.length (0,0,aa))) ?_ ?_ (by simp)
 .rintro i x hi rfl;refine aR (λ_=>?_) λg=>(by simp only[aj,cN,cO]at g;omega)
  have hin:e9 (i:Int) (ah (aA i (-1,([]:η))++aA (w.2.1.length-i) ((0:Int),([]:η))))=M:=Ny.2 ⟨by omega,by simp;omega⟩;refine a8 hin (a8 hin (ai ?_));dsimp only;rw[abm (T:=ti) hi,fx (by omega),aia,abl hi]
 .rintro x rfl;refine aR (λg=>(by simp only[aj,cN,cO]at g;omega)) λ_=>?_
  refine ar (P:=λy=>y=KA w) (aX (λx=>x=(0,-1,aA w.2.1.length (-1,[]),aA w.2.2.2.1.length aa,thP w.2.2.2.2.1.length)) ?_ ?_) λy q=>ai q
  .refine aR (λ_=>?_) λg=>(by simp only[aj,cN]at g;omega)
   have hin:e9 (0:Int) (ah (aA w.2.2.2.2.1.length ((0:Int),(0:Int),aa)))=M:=Ny.2 ⟨by omega,by simp;omega⟩;refine a8 hin (a8 hin (ai ?_));dsimp only;rw[up,List.replicate_zero,ol];obtain⟨n,hn⟩:∃n,w.2.2.2.2.1.length=n+1:=⟨w.2.2.2.2.1.length-1,by omega⟩
   rw[hn];rfl
  .rintro x rfl;exact ai rfl
theorem w9 (w:WT) (h:VL w):eB w=Z (sn8 w):=by
 have h1:=h.c;have s:=h.f;have q:=h.t;have d:∀(n b:Nat),n<=12->b<=1024->(cP 0 (aU n)&&cP (aU n) (aU n)&&bc (aP (aU n)) b)=M:=λn b hn hb=>by
  rw[oW.2 (show (0:Int)<=aU n from ey n),oW.2 (gp _),zj.2 ⟨by simp;omega,by simp only[aj,cO];exact c6 (Nat.mul_le_mul (show n<=1073741824 by omega) hb) (by omega)⟩];rfl
 refine bY ?_;unfold eB mD aV ba bk cC bx bo bG aY cI aB cu;refine aQ (Py w h) (a8 ?_ (a8 (d _ _ (by omega) (by omega)) (a8 (d _ _ (by omega) (by omega)) ?_)))
 .rw[oW.2 (gp 0),oW.2 (show (0:Int)<=aU w.1.length from ey _),zj.2 ⟨by simp;omega,by simp;omega⟩];rfl
 refine dZ w.1.length (by omega) (λi x=>x=((i:Int),0,KA w,(w.1.take i).map (λc=>c.2.2.2.2),aA w.2.2.2.1.length 0,aA w.2.2.2.2.1.length 0)) ?_ ?_ (by simp)
 .rintro i x hi rfl;refine iC (dV (aW (aZ (by simp;omega) (by omega) (ai ?_))));dsimp only;rw[fx (by omega),pX (T:=OR) hi,da];rfl
 .rintro x rfl;refine hX (ai ?_);dsimp only;rw[bS];rfl
theorem FQ (w:WT) (s:SY) (q:w.2.2.1.length<=1000) (cd:∀c∈w.2.2.1,0<=c.2/\c.2<w.2.1.length) (e1:s.1.length=w.2.1.length) (e2:s.2.2.1.length=w.2.2.2.1.length) (e3:s.2.2.2.length=w.2.2.2.2.1.length):nH (w,s)=Z M:=by
 refine bY ?_;unfold nH aV ba bk ci bf bx bG aY cI aB cu;refine cg w.2.2.1.length (λi x=>x=((i:Int),w,s)) ?_ ?_ rfl
 .rintro i x hi rfl;have hc:=cd _ (bH (T:=pT) (xs:=w.2.2.1) (j:=(i:Int)) (by omega) (by omega));with_reducible repeat' first|(refine OS.ok ?_;constructor)|refine IM.mk λ_=>?_
  all_goals try simp only[aj,oq] at*
  all_goals first|omega|skip
  rw[fx (by omega)]
 .rintro x rfl;refine hX (ar (P:=λb=>b=M) (aX (λx=>x=M) ?_ λx d=>ai d) λb hb=>ai hb);refine aE (λ_=>aE (λ_=>ai ?_) λg=>(g ?_).elim) λg=>(g ?_).elim
  .dsimp only[aj];rw[e3];simp
  .dsimp only[aj];omega
  .dsimp only[aj];omega
theorem S4 (w:WT) (k o:Int) (h:NM w k o):pm (w,k,o)=Z M:=by
 refine bY ?_;obtain⟨k1,k2,ce,lk,cn,th,fu,no,mu,rw_⟩:=h;unfold pm aV ba bk bO bf bG aY aB;rcases @yo k with rfl|rfl|rfl|rfl|rfl|rfl|rfl|rfl|rfl|rfl|rfl|rfl|rfl|rfl|rfl|rfl|rfl|rfl|rfl|rfl|rfl|rfl|rfl|⟨hk,d⟩
 case inr.inr.inr.inr.inr.inr.inr.inr.inr.inr.inr.inr.inr.inr.inr.inr.inr.inr.inr.inr.inr.inr.inr=>omega
 all_goals simp only[aN,aS,kJ,PL]
 all_goals with_reducible repeat' first|(refine OS.ok ?_;constructor)|refine IM.mk λ_=>?_
 all_goals try simp only[aj,oq] at*
 all_goals first|omega|exact rw_ ⟨by decide,by decide⟩|(simp only[*,Bool.not_false,dJ];done)
set_option maxHeartbeats 4000000 in
theorem OP {n:Nat} (w:WT) (s:SY) (hs:SB n s) (hw:w.2.2.1.length<=1000) (t k o:Int) (he:EN w s t k o) (hr:FO w s t k o):iw (w,s,t,k,o)=Z M:=by
 refine bY ?_;obtain⟨nm,t0,t1,cd,e1,e2,e3⟩:=id he;unfold iw aV ba bk bn cC ci bf ir bG aY aB;refine aX (λx=>x=(aa,w,s)) ?_ ?_
 .refine aQ (FQ w s hw cd e1 e2 e3) ?_;refine gw ?_;simp only[PL,Si];refine bV (λg=>(g ⟨t0,t1⟩).elim) λ_=>?_
  refine aQ (S4 w k o nm) (ai rfl)
 rintro x rfl;refine gw ?_;obtain⟨_,_,ce,lk,cn,th,fu,_,_,_⟩:=nm;have hm:16<=k/\k<=19->0<=(aG (T:=pT) w.2.2.1 o).2/\(aG (T:=pT) w.2.2.1 o).2<w.2.1.length:=λh=>cd _ (bH (cn h).1 (cn h).2)
 have hH:6<=k/\k<=11->ox ((aG (T:=ti) s.1 o).2,t)=Z ((aG (T:=ti) s.1 o).2.contains t):=λh=>Ke _ _ (by
  have:=hs.rd _ (bH (T:=ti) (lk h).1 (by have:=(lk h).2;omega));have:=hs.n1;omega)
 rcases @yo k with rfl|rfl|rfl|rfl|rfl|rfl|rfl|rfl|rfl|rfl|rfl|rfl|rfl|rfl|rfl|rfl|rfl|rfl|rfl|rfl|rfl|rfl|rfl|⟨hk,hk2⟩
 case inr.inr.inr.inr.inr.inr.inr.inr.inr.inr.inr.inr.inr.inr.inr.inr.inr.inr.inr.inr.inr.inr.inr=>omega
 all_goals simp only[aN,aS,kJ]
 all_goals with_reducible repeat' first|(refine OS.ok ?_;constructor)|refine IM.mk λ_=>?_
 all_goals try simp only[hH (by omega),Si]
 all_goals with_reducible repeat' first|(refine OS.ok ?_;constructor)|refine IM.mk λ_=>?_
 all_goals try simp only[aj,oq] at*
 all_goals first|omega|exact (hm ⟨by decide,by decide⟩).1|(rw [e1];exact (hm ⟨by decide,by decide⟩).2)|skip
 all_goals first|exact hr.b (by decide)|exact hr.aq (by decide)|exact hr.rl (by decide)|exact hr.rr (by decide)|(rw [hr.ra (by decide)];rfl)|(have:=hr.wr (by decide);omega)|exact hr.xb (by decide)|exact hr.xe (by decide)|(rw [hr.ab (by decide)];rfl)|exact hr.ae (by decide)|exact hr.nt (by decide)|exact (hr.sp (by decide)).2|exact (hr.jo (by decide)).2|(rw [hr.se (by decide)];rfl)|exact hr.ge (by decide)|exact (hr.wk (by decide)).2.2|(exfalso;first|(have:=hr.r (by decide) (by decide);contradiction)|(have:=hr.aq (by decide);contradiction)|(have:=(hr.wk (by decide)).1;contradiction)|(have:=(hr.wk (by decide)).2.1;contradiction)|(have:=(hr.sp (by decide)).1;contradiction)|(have:=(hr.jo (by decide)).1;contradiction))|skip
theorem R5 (w:WT) (s:SN) (q:w.2.2.1.length<=1000) (t k o:Int) (he:EN w s.1 t k o) (hf:R6 w s):qS (w,s)=Z M:=by
 refine bY ?_;unfold qS aV ba bk cC bf aY aB;refine aX (λx=>x=M) ?_ λx d=>ai d
 refine aQ (FQ w s.1 q he.cd he.e1 he.e2 he.e3) (rU ?_);have:=hf.c;have:=hf.f;have:=hf.k;refine aE (λ_=>aE (λ_=>ai ?_) λg=>(g ?_).elim) λg=>(g ?_).elim
 .dsimp only[aj];simp;omega
 .dsimp only[aj];omega
 .dsimp only[aj];omega
theorem Z3:∀{l:η},xR l->∀k:Nat,k+1<l.length->l.getD k 0<l.getD (k+1) 0
 |[],_,k,h=>by simp at h
 |[x],_,k,h=>by simp at h
 |x::y::r,h,0,_=>h.1 y (eo ..)
 |x::y::r,h,k+1,hk=>by have:=Z3 h.2 k (by simpa using hk);simpa using this
theorem BU (l:η) (c:Int) (hl:l.length<=1000000000) (h:AN c l):ki (l,c)=Z M:=by
 refine bY ?_;unfold ki bx jk bG aY cI aB cu;refine cg l.length (λi x=>x=(i:Int)) ?_ ?_ rfl
 .rintro i x hi rfl;have hm:=h.m _ (bH (T:=.int .i64) (xs:=l) (j:=(i:Int)) (by omega) (by omega));have q:0<(i:Int)->a9 .i64 ((i:Int)-1)=((i-1:Nat):Int):=λh=>by rw[gJ (by omega) (by omega)];omega
  refine iC (aX (λx=>x=aa) ?_ ?_)
  .refine dV (aW (aR (λg=>dP g (by dsimp only;omega)) λ_=>dV (aW (dX (λg=>dP g (by dsimp only;omega)) λ_=>aR (λg=>?_) λ_=>ai rfl))));have g:0<(i:Int):=g;refine dV (aW ?_);dsimp only;rw[q g];refine aH (by omega) (by omega) (aW (ai ?_));have d:=Z3 h.a (i-1) (by omega);rw[show i-1+1=i by omega]at d;rw[DV,DV];exact ko.2 d
  rintro x rfl;exact gw (ai (fx (by omega)))
 .rintro x rfl;exact hX (ai rfl)
theorem Ss {n:Nat} (w:WT) (s:SN) (hs:NB n s) (hf:R6 w s) (e:ET) (he:EN w s.1 e.1 e.2.1 e.2.2.1) (hv:VA w s.1 s.2.1 s.2.2.1 e.1 e.2.1 e.2.2.1 e.2.2.2.1):pl (s,e)=Z M:=by
 refine bY ?_;obtain⟨t,k,o,v,si,de,fr⟩:=e;obtain⟨s1,s2,s3,s4⟩:=s;obtain⟨nm,t0,t1,cd,e1,e2,e3⟩:=he;obtain⟨_,_,ce,lk,cn,th,fu,_,_,_⟩:=nm;obtain⟨f1,f2,f3⟩:=hf;obtain⟨v3,d,v5,vel⟩:=hv;have hth:=hs.sb.th;dsimp only at*
 unfold pl aV ba bk bO bn bf bx jk bG aY aB;have hW:=J2 s1 o hth;have hWl:=pW s1.2.2.2 o s1.2.2.2.length;refine aE (λh=>?_) λn3=>?_
 .have h:k=3:=h;obtain⟨L,I⟩:=ce (.inl h);exact aH L (by rw[f1];exact I) (aW (ai (be (v3 h))))
 refine aE (λh=>?_) λz=>?_
 .have h:k=23:=h;obtain⟨L,I⟩:=fu (.inr h);exact aH L (by rw[f2];exact I) (aW (ai (be (d h))))
 refine aE (λh=>?_) λn5=>?_
 .have h:k=5:=h;exact fO (aE (λh2=>ai (ai rfl)) λh2=>ai (ai (be ((v5 h).resolve_left h2))))
 refine aX (λx=>x.2=((s1,s2,s3,s4),t,k,o,v,si,de,fr)/\(x.1=aa->¬k=4/\¬k=22)) (aE (λh=>ai ⟨rfl,λg=>dP g (by dsimp only;rw[be h];decide)⟩) λh=>ai ⟨rfl,λg=>⟨h,jE g⟩⟩) ?_;rintro⟨b,x⟩ ⟨e,hb⟩;dsimp only at e hb;subst e;refine aK (λh=>ai rfl) λh=>?_
 obtain⟨n4,A⟩:=hb h;have val:=vel n3 z n5 n4 A;refine aE (λh=>?_) λF=>?_
 .have h:k=18:=h;subst h;rw[JY]at val;have hmem:¬(wl s1.2.2.2 o s1.2.2.2.length).length=0->0<=v/\v<s1.2.2.2.length/\(wl s1.2.2.2 o s1.2.2.2.length).contains v=M:=λg=>by
   rw[aL g]at val;dsimp only at val;unfold Df at val;rw[aL g]at val;by_cases c:(wl s1.2.2.2 o s1.2.2.2.length).contains v=M
   .have:=(xW (th:=s1.2.2.2) (c:=o)).1 (by simpa using c:v∈wl s1.2.2.2 o s1.2.2.2.length);exact⟨this.1,this.2.1,c⟩
   .exfalso;rw[aL c]at val;refine c ?_;rw[val];have hz:wl s1.2.2.2 o s1.2.2.2.length≠[]:=λq=>g (by rw[q];rfl)
    generalize wl s1.2.2.2 o s1.2.2.2.length=y at hz ⊢;cases y with
    |nil=>exact (hz rfl).elim
    |cons a r=>rw[show aG (T:=.int .i64) (a::r) 0=a from rfl];simp
  refine aQ hW ?_;refine aE (λg=>ai ?_) λg=>?_
  .dsimp only[aj]at g;rw[aT (by omega)]at val;exact be val
  .dsimp only[aj]at g;obtain⟨q0,q1,q2⟩:=hmem (by omega);refine fO (dX (λ_=>aR (λ_=>?_) λq=>dP q (by dsimp only[aj];omega)) λq=>dP q (by dsimp only;omega));exact aQ (Ke _ _ (by omega)) (ai (ai q2))
 refine aE (λh=>?_) λD=>?_
 .have h:k=19:=h;subst h;exact aQ hW (ai (be (by rw[UE]at val;exact val)))
 .rw[VX _ _ _ _ _ _ F D]at val;exact ai (be val)
theorem Kf {l:Y ET} {e:ET} {t y:Int}:Bp (l++[e]) t y->Bp l t y\/(e.1=t/\sQ e=M/\y=((fl l t).length:Int)):=by
 rintro⟨h0,h1⟩;rw[yF,ay]at h1;rcases bM y.toNat (fl l t).length with g|g
 .refine .inl ⟨h0,?_⟩;rw[bQ g]at h1;rw[ay];exact h1
 .rw[bX g]at h1;by_cases he:e.1=t
  .rw[D2 he]at h1;have d:y.toNat-(fl l t).length=0:=by
    rcases rz (y.toNat-(fl l t).length) with q|q
    .exact q
    .rw[bJ (by rw[cS];omega)]at h1;cases h1
   rw[d]at h1;exact .inr ⟨he,by simpa using h1,by omega⟩
  .rw[yE he]at h1;simp at h1
theorem HE (l:Y ET) (i t:Int) (ns:η) (hl:l.length<=1000000000) (hi:0<=i/\i<=l.length) (hn:ns.length<=1000000000) (h:∀y∈ns,Bp (l.take i.toNat) t y):mU (l,i,t,ns)=Z M:=by
 refine bY ?_;unfold mU aV bn bf bx ir bG aY cI aB cu;refine cg ns.length (λk x=>x=(k:Int)) ?_ ?_ rfl
 .rintro k x hk rfl;have D:=h _ (bH (T:=.int .i64) (xs:=ns) (j:=(k:Int)) (by omega) (by omega));refine aR (λs=>?_) λs=>(by dsimp only[aj]at s;omega)
  refine my (λx=>(i-x.2.2).toNat) (λx=>0<=x.2.2/\x.2.2<=i/\x.1=((fl (l.take x.2.2.toNat) t).length:Int)/\(Bp (l.take x.2.2.toNat) t (aG (T:=.int .i64) ns (k:Int))->x.2.1=M)) ?_ ⟨by simp,hi.1,by simp[fl],λq=>by have:=q.2;simp[fl]at this⟩;rintro⟨a,b,(c:Int)⟩ ⟨A,L,F,hb⟩;dsimp only at A L F hb;subst F;obtain⟨c,rfl⟩:∃n:Nat,c=(n:Int):=⟨c.toNat,by omega⟩
  rw[cO]at hb;dsimp only;rw[cO];have hfl:=Cj (l.take c) t;have htl:=gm c l;refine aR (λd=>?_) λd=>?_
  .have d:(c:Int)<i:=d;have htk:l.take (c+1)=l.take c++[aG (T:=tE) l (c:Int)]:=pX (T:=tE) (by omega);refine aX (λy=>y.1=((fl (l.take (c+1)) t).length:Int)/\(Bp (l.take (c+1)) t (aG (T:=.int .i64) ns (k:Int))->y.2=M)) ?_ ?_
   .rw[htk,yF];refine aH A (by first|omega|(dsimp only;omega)) (aW ?_);refine bV (λhne=>ai ⟨by rw[yE hne];simp,λq=>(Kf q).elim hb λz=>(hne z.1).elim⟩) λhe=>?_
    have he:(aG (T:=tE) l (c:Int)).1=t:=he;refine aX (λy=>Bp (l.take c++[aG (T:=tE) l (c:Int)]) t (aG (T:=.int .i64) ns (k:Int))->y=M) ?_ λy D=>ai ⟨?_,D⟩
    .refine aK (λq=>ai λ_=>rfl) λhbf=>?_
     have nb:¬Bp (l.take c) t (aG (T:=.int .i64) ns (k:Int)):=λq=>by have:=hb q;rw[this]at hbf;cases hbf
     refine aH (by omega) (by first|omega|(dsimp only;omega)) (aW ?_);refine aE (λ_=>?_) λhnn=>ai λq=>((Kf q).elim (λz=>(nb z).elim) λz=>(hnn z.2.2.symm).elim)
     refine aH A (by first|omega|(dsimp only;omega)) (aW ?_);refine aE (λ_=>ai λ_=>rfl) λI=>?_
     refine aH A (by first|omega|(dsimp only;omega)) (aW (ai λq=>?_));rcases Kf q with z|⟨_,z,_⟩
     .exact (nb z).elim
     .unfold sQ at z;rw[bD I,Bool.false_or]at z;exact z
    .dsimp only;rw[D2 he,fx (by omega)];simp
   .rintro⟨p,q⟩ ⟨hp,hq⟩;refine ai ?_;dsimp only at hp hq ⊢;rw[fx (by omega),cO];exact⟨⟨by omega,by omega,hp,hq⟩,by omega⟩
  .have d:i<=(c:Int):=d;have hci:c=i.toNat:=by omega
   rw[hci]at hb;refine ar (P:=λr=>r=oL (((k+1:Nat):Int))) ?_ λr hr=>by subst hr;exact ai rfl
   refine cX (λq=>?_) λ_=>ai (by rw[fx (by omega)])
   have:=hb D;rw[this]at q;cases q
 .rintro x rfl;refine aR (λs=>(by dsimp only[aj]at s;omega)) λ_=>ai rfl
theorem RP {n:Nat} (w:WT) (s:SN) (hs:NB n s) (hw:w.2.2.1.length<=1000) (e:ET) (hcb:(aG (T:=.int .i64) s.2.2.2 e.1:Int)<=1000000) (hF:R6 w s) (hE:EN w s.1 e.1 e.2.1 e.2.2.1) (z:Yl w s e):Ok (nE (w,s,e)) λy=>y.2=M:=by
 have hd:e.2.2.2.2.2.1.length<=1000000000:=by
  have D:(e.2.2.2.2.2.1.length:Int)<=max (0:Int) (aG (T:=.int .i64) s.2.2.2 e.1):=z.nd.len;have:=eX D (xd.2 ⟨by decide,hcb⟩);omega
 have hf:e.2.2.2.2.2.2.length<=1000000000:=by
  have D:(e.2.2.2.2.2.2.length:Int)<=max (0:Int) (aG (T:=.int .i64) s.2.2.2 e.1):=z.nf.len;have:=eX D (xd.2 ⟨by decide,hcb⟩);omega
 have hEn:=OP w s.1 hs.sb hw e.1 e.2.1 e.2.2.1 hE z.rd;obtain⟨nm,t0,t1,cd,e1,e2,e3⟩:=id hE;obtain⟨k1,k2,ce,lk,cn,th,fu,_,_,_⟩:=nm;obtain⟨f1,f2,f3⟩:=id hF;unfold nE aV ba bk bO cU bn cC ci dx gI ck bf bx ir bo bG j7 aY cI aB cu;refine aX (λx=>x=(aa,w,s,e,0)) ?_ ?_
 .refine aQ (R5 w s hw _ _ _ hE hF) (gw ?_);simp only[ac9,Si];refine bV (λg=>(g ⟨t0,t1⟩).elim) λ_=>aR (λg=>dP g (Int.not_lt.2 k1)) λ_=>aR (λg=>dP g (Int.not_lt.2 k2)) λ_=>aQ hEn (ai rfl)
 rintro x rfl;refine gw (aX (λx=>x=(w,s,e,0)) ?_ ?_)
 .refine aX (λx=>x.2=(w,s,e,0)/\(x.1=M->e.2.1=1\/e.2.1=2)/\(x.1=aa->¬(e.2.1=1\/e.2.1=2))) ?_ ?_
  .refine aE (λh=>ai ⟨rfl,λ_=>.inl h,λh=>(by cases h)⟩) λh=>ai ⟨rfl,λh2=>.inr (bg h2),λh2=>?_⟩
   have:=jE h2;exact λD=>D.elim h this
  rintro⟨x1,x2⟩ ⟨d,I,F⟩;dsimp only at d I F;subst d;refine aK (λhk=>?_) λhk=>?_
  .exact bV (λg=>(g (z.s1 (I hk))).elim) λ_=>ai rfl
  .obtain⟨q1,q2,q3⟩:=z.s2 (F hk);refine aX (λx=>x=(aa,w,s,e,0)) ?_ ?_
   .simp only[ac9,Si];refine bV (λg=>(g ⟨q1,q2⟩).elim) λ_=>aH q1 q2 (aW (ai ?_))
    dsimp only;rw[q3];simp
   rintro x rfl;exact gw (ai rfl)
 rintro x rfl;refine aX (λx=>x.2=(w,s,e,0)/\(x.1=M->e.2.1=3\/e.2.1=4)/\(x.1=aa->¬(e.2.1=3\/e.2.1=4))) ?_ ?_
 .refine aE (λh=>ai ⟨rfl,λ_=>.inl h,λh=>(by cases h)⟩) λh=>ai ⟨rfl,λh2=>.inr (bg h2),λh2=>?_⟩
  have:=jE h2;exact λD=>D.elim h this
 rintro⟨x1,x2⟩ ⟨d,A,L⟩;dsimp only at d A L;subst d;refine aX (λx=>x=(aa,w,s,e,0)) ?_ ?_
 .refine aR (λg=>bV (λn5=>?_) λ_=>ai rfl) λ_=>ai rfl
  have de:=(z.de (by dsimp only[aj]at g;omega)).resolve_left n5;refine aK (λh=>?_) λh=>(L h de.1).elim
  refine aH (ce (A h)).1 (ce (A h)).2 (aW (ai ?_));have:=de.2;dsimp only;simp[this]
 rintro x rfl;refine gw (aX (λx=>x=(aa,w,s,e,0)) ?_ ?_)
 .refine aR (λg=>bV (λn4=>ai ?_) λ_=>ai rfl) λ_=>ai rfl
  have fr:=(z.fr (by dsimp only[aj]at g;omega)).resolve_left n4;dsimp only;simp[fr]
 rintro x rfl;have hk:=hs.k;have hc:=hs.c;have hfu:=hs.f;refine gw (aX (λx=>x=(aa,w,s,e,0)) ?_ ?_)
 .refine aH t0 (by rw[f3];exact t1) (aW (aQ (BU _ _ hd z.nd) (gw ?_)));refine aH t0 (by rw[f3];exact t1) (aW (aQ (BU _ _ hf z.nf) (gw ?_)));exact aQ (Ss w s hs hF e hE z.va) (ai rfl)
 rintro x rfl;refine gw (aZ (by simp;omega) (by omega) (aZ (by simp;omega) (by omega) (aZ (by simp;omega) (by omega) ?_)));refine aX (λx=>x.2=(w,s,e,0,0,s.2.1,s.2.2.1,s.2.2.2)) ?_ ?_
 .exact aE (λ_=>ai rfl) λh=>ai rfl
 rintro⟨x1,x2⟩ d;dsimp only at d;subst d;refine ar (Ki w s.1 hs.sb hw e.1 e.2.1 e.2.2.1 x1) λy hy=>?_
 refine aX (λx=>x.1=e/\x.2.2.2.1.length=s.2.1.length/\x.2.2.2.2=(s.2.2.1,s.2.2.2)) ?_ ?_
 .refine aE (λh=>?_) λh=>ai ⟨rfl,rfl,rfl⟩
  have q:=ce (.inr h);refine aH q.1 (by dsimp only;omega) (aH q.1 (by dsimp only;omega) (ai ⟨rfl,?_,rfl⟩));dsimp only;rw[cL]
 rintro⟨x1,x2,x3,x4,x5,x6⟩ ⟨h1,h2,h4⟩;simp only[aC]at h1 h4;obtain⟨rfl,rfl⟩:=h4;subst h1;refine aX (λx=>x.1=x1/\x.2.2.2.2.2=s.2.2.2) ?_ ?_
 .refine aE (λh=>?_) λh=>ai ⟨rfl,rfl⟩
  have q:=fu (.inl h);exact aH q.1 (by dsimp only;omega) (aH q.1 (by dsimp only;omega) (ai ⟨rfl,rfl⟩))
 rintro⟨x1,x2,x3,x4,x5,x6⟩ ⟨h1,h6⟩;simp only at h1 h6;subst h1;subst h6;with_reducible repeat' first|(refine OS.ok ?_;constructor)|refine IM.mk λ_=>?_
 all_goals try simp only[aj,oq] at*
 all_goals first|omega|skip
theorem Xt (r:θ) (e:ET) (h1:∀y∈e.2.2.2.2.2.1,0<=y/\r.getD y.toNat aa=M) (h2:∀y∈e.2.2.2.2.2.2,0<=y/\r.getD y.toNat aa=M) (ld:e.2.2.2.2.2.1.length<=1000000) (d:e.2.2.2.2.2.2.length<=1000000):bT (r,e)=Z M:=by
 refine bY ?_;unfold bT iG cU gI bx jk bo bG aY cI aB cu;refine dZ 2 (by omega) (λi x=>x=(i:Int)) ?_ ?_ rfl
 .rintro i x hi rfl;refine aR (λ_=>?_) λg=>(by omega)
  refine cK (cY (by omega) (rE (by omega) (aW ?_)));have hr:∃l:η,aG (T:=.sl (.int .i64)) [e.2.2.2.2.2.1,e.2.2.2.2.2.2] (i:Int)=l/\(∀y∈l,0<=y/\r.getD y.toNat aa=M)/\l.length<=1000000:=by
   match i,hi with
   |0,_=>exact⟨_,rfl,h1,ld⟩
   |1,_=>exact⟨_,rfl,h2,d⟩
  obtain⟨l,q,hA,hl⟩:=hr;have er':aG (T:=.sl aM) [e.2.2.2.2.2.1,e.2.2.2.2.2.2] (i:Int)=l:=q;dsimp only at er' ⊢;rw[er'];refine dZ l.length (by omega) (λj x=>x=(j:Int)) ?_ ?_ rfl
  .rintro j x hj rfl;refine iC ?_;have m:=hA _ (bH (T:=.int .i64) (xs:=l) (j:=(j:Int)) (by omega) (by omega));refine dV (aW (aX (λx=>x=aa) ?_ ?_))
   .revert m;generalize aG (T:=.int .i64) l (j:Int)=z;intro m;have s:z.toNat<r.length:=by
     rcases bM z.toNat r.length with g|g
     .exact g
     .have:=m.2;rw[ay,bJ g]at this;cases this
    refine aR (λg=>(by have:=m.1;omega)) λ_=>dX (λg=>(by have:=m.1;dsimp only[aj]at g;omega)) λ_=>aH m.1 (by have:=m.1;omega) (aW (ai ?_))
    have:aG (T:=.bool) r z=M:=m.2;show (!aG (T:=.bool) r z)=aa;rw[this];rfl
   rintro x rfl;exact gw (ai (fx (by omega)))
  .rintro x rfl;exact hX (ai (fx (by omega)))
 .rintro x rfl;exact aR (λg=>(by omega)) λ_=>ai rfl
abbrev eN (l:Y ET) (i:Nat):ET:=aG (T:=tE) l (i:Int)
theorem Bf {l:Y ET} {i:Nat} (h:i<l.length):eN l i∈l:=bH (T:=tE) (by omega) (by omega)
theorem afp {l:Y ET} {e:ET} {i:Nat} (h:i<l.length):eN (l++[e]) i=eN l i:=by
 unfold eN;rw[K_,K_,ay,ay,bQ h]
theorem acp (l:Y ET) (e:ET):eN (l++[e]) l.length=e:=by
 unfold eN;rw[K_,ay,bX (cF _),up];rfl
def acS (w:WT) (l:Y ET):SY×η×η:=l.foldl (λs e=>((vW w s.1 e.1 e.2.1 e.2.2.1 e.2.2.2.1).1,ZT s.2.1 e,fuP s.2.2 e)) (KA w,ce0 w,fu0 w)
theorem Hq.all {w:WT} {l:Y ET} {sy:SY} {ce fu:η} (h:Hq w l sy ce fu):acS w l=(sy,ce,fu)/\∀i,i<l.length->Sl w (l.take i) (acS w (l.take i)).1 (acS w (l.take i)).2.1 (acS w (l.take i)).2.2 (eN l i):=by
 induction h with
 |nil=>exact⟨rfl,λi hi=>dP hi (wa _)⟩
 |snoc h hs d=>
  rename_i l sy ce fu e;obtain⟨h1,h2⟩:=d;refine ⟨by unfold acS at h1 ⊢;rw[jS,h1];rfl,λi hi=>?_⟩;rw[b6,cS]at hi;rcases bM i l.length with g|g
  .rw[ll (by omega),afp g];exact h2 i g
  .have:i=l.length:=by omega
   subst this;rw[ll (cF _),bS,acp,h1];exact hs
def Q8 (r:η):Prop:=xR r/\∀z∈r,0<=z/\z<4
def P8 (s:Y (Int×η)):Prop:=∀x∈s,Q8 x.2
theorem P8.get {s:Y (Int×η)} (h:P8 s) (o:Int):Q8 (aG (T:=ti) s o).2:=by
 unfold aG;rw[ay];cases e:s[o.toNat]? with
 |none=>exact⟨trivial,λz d=>by cases d⟩
 |some x=>exact h x (bh e)
theorem P8.set {s:Y (Int×η)} (h:P8 s) (o a:Int) {r:η} (hr:Q8 r):P8 (cj s o (a,r)):=λx d=>by
 rcases BG d with d|rfl
 .exact h x d
 .exact hr
theorem Bm (p:Int->Bool):∀{l:η},xR l->xR (l.filter p)
 |[],_=>trivial
 |x::r,h=>by
  rw[List.filter_cons];split
  .exact⟨λy d=>h.1 y ((Ez.1 d).1),Bm p h.2⟩
  .exact Bm p h.2
theorem P8.ite {c:Prop} [Decidable c] {a b:SY×Int} (d:P8 a.1.1) (hb:P8 b.1.1):P8 (if c then a else b).1.1:=by by_cases h:c<;>simp[h,d,hb]
theorem P8.ap {w:WT} {s:SY} (h:P8 s.1) {t:Int} (k o v:Int) (t0:0<=t) (A:t<4):P8 (vW w s t k o v).1.1:=by
 have ow:∀a b,P8 (owP s.1 a b):=λa b=>h.set a b (h.get a)
 have un:P8 (rdP s.1 o (qI (aG (T:=ti) s.1 o).2 [t])):=h.set _ _ ⟨O2 _ _,λz d=>by
  rcases O1.1 d with d|d
  .exact (h.get o).2 z d
  .rw[aJ]at d;subst d;exact⟨t0,A⟩⟩
 have q:P8 (rdP s.1 o (wo (aG (T:=ti) s.1 o).2 t)):=h.set _ _ ⟨Bm _ (h.get o).1,λz d=>(h.get o).2 z (Ez.1 d).1⟩;unfold vW;exact P8.ite h (P8.ite h (P8.ite (ow _ _) (P8.ite (ow _ _) (P8.ite un (P8.ite q (P8.ite h (P8.ite h (P8.ite h (P8.ite h (P8.ite (ow _ _) (P8.ite (ow _ _) (P8.ite (P8.ite h h) (P8.ite h (P8.ite h (P8.ite h h)))))))))))))))
def fZ (w:WT) (l:Y ET):SN:=l.foldl (Sj w) (sn8 w)
theorem LQ (w:WT) (l:Y ET) (e:ET):fZ w (l++[e])=Sj w (fZ w l) e:=by unfold fZ;rw[jS];rfl
structure KGs (w:WT) (l:List ET) (sy:SY) (ce fu:η) (s:SN):Prop where
 a:s.1=sy/\s.2.1=ce/\s.2.2.1=fu
 r:P8 s.1.1
 lk:s.1.1.length=w.2.1.length
 d:s.1.2.2.1.length=w.2.2.2.1.length
 h:s.1.2.2.2.length=w.2.2.2.2.1.length
 c:s.2.1.length=w.1.length
 f:s.2.2.1.length=w.2.2.2.1.length
 k:s.2.2.2.length=w.2.2.2.2.1.length
 n:CN l s.2.2.2
theorem Z5 (w:WT) (s:SY) (t k o v:Int):(vW w s t k o v).1.1.length=s.1.length/\(vW w s t k o v).1.2.2.1.length=s.2.2.1.length/\(vW w s t k o v).1.2.2.2.length=s.2.2.2.length:=by
 have st:∀(th:Y (Int×Int×Bool)) (a b:Int),(Kv th a b).length=th.length:=λth a b=>by unfold Kv;exact cL _ _ _
 have d:∀(l:η) (th:Y (Int×Int×Bool)),(OT th l).length=th.length:=by
  intro l;induction l with
  |nil=>intro th;rfl
  |cons x r q=>intro th;show (OT (Kv th x 4) r).length=_;rw[q,st]
 have ite:∀{c:Prop} [Decidable c] {a b:SY×Int},(a.1.1.length=s.1.length/\a.1.2.2.1.length=s.2.2.1.length/\a.1.2.2.2.length=s.2.2.2.length)->(b.1.1.length=s.1.length/\b.1.2.2.1.length=s.2.2.1.length/\b.1.2.2.2.length=s.2.2.2.length)->((if c then a else b).1.1.length=s.1.length/\(if c then a else b).1.2.2.1.length=s.2.2.1.length/\(if c then a else b).1.2.2.2.length=s.2.2.2.length):=λ{c} _ {a b} z hb=>by by_cases h:c<;>simp only[h,bE,du]<;>assumption
 unfold vW;repeat (first|refine ite ?_ ?_|(refine ⟨?_,?_,?_⟩<;>simp only[st,d,owP,rdP,cdP,atP,cL]))
theorem Hq.kg {w:WT} (vl:VL w):∀{l:Y ET} {sy:SY} {ce fu:η},Hq w l sy ce fu->l.length<=400->KGs w l sy ce fu (fZ w l):=by
 intro l sy ce fu h;induction h with
 |nil=>
  intro _;have tl:(KA w).2.2.2.length=w.2.2.2.2.1.length:=M6 _;refine ⟨⟨rfl,rfl,rfl⟩,λx s=>?_,by simp[fZ,KA],by simp[fZ,KA],tl,by simp[fZ,ce0],by simp[fZ,fu0],by simp[fZ],λt t0 t1=>?_⟩
  .rw[List.eq_of_mem_replicate s];exact⟨trivial,λz q=>by cases q⟩
  .have:(aA w.2.2.2.2.1.length (0:Int)).getD t.toNat 0=0:=by rw[ay,lE];split<;>rfl
   exact this
 |@snoc l sy ce fu e h hs d=>
  intro hl;rw[b6]at hl;obtain⟨⟨a1,a2,a3⟩,r,q1,q2,q3,c,f,k,n⟩:=d (by omega);have ht:=vl.t;have en:=hs.en;have e1:=en.t1;obtain⟨b1,D,A⟩:=Z5 w (fZ w l).1 e.1 e.2.1 e.2.2.1 e.2.2.2.1;rw[LQ];refine ⟨⟨by unfold Sj;rw[a1],by unfold Sj;rw[a2],by unfold Sj;rw[a3]⟩,r.ap _ _ _ en.t0 (by omega),b1.trans q1,D.trans q2,A.trans q3,?_,?_,?_,?_⟩
  .unfold Sj ZT;dsimp only;split
   .rw[cL];exact c
   .exact c
  .unfold Sj fuP;dsimp only;split
   .rw[cL];exact f
   .exact f
  .unfold Sj;rw[cL];exact k
  .exact n.next e en.t0 (by rw[k];exact e1) (by omega)
theorem KGs.nb {w:WT} {l:Y ET} {sy:SY} {ce fu:η} {s:SN} (h:KGs w l sy ce fu s) (vl:VL w):NB 4 s:=by
 obtain⟨_,r,q1,q2,q3,c,f,k,_⟩:=h;have:=vl.c;have:=vl.l;have:=vl.f;have:=vl.t;refine ⟨⟨by omega,by omega,λx d=>?_,by omega,by omega⟩,by omega,by omega,by omega⟩;have:=Hm x.2 0 4 (r x d).1 (r x d).2;omega
theorem KGs.f16 {w:WT} {l:Y ET} {sy:SY} {ce fu:η} {s:SN} (h:KGs w l sy ce fu s):R6 w s:=⟨h.c,h.f,h.k⟩
theorem KGs.cb {w:WT} {l:Y ET} {sy:SY} {ce fu:η} {s:SN} (h:KGs w l sy ce fu s) (hl:l.length<=400) (t:Int):(aG (T:=.int .i64) s.2.2.2 t:Int)<=1000:=eX (h.n.bd t) (by omega)
theorem Sl.s16 {w:WT} {l:Y ET} {sy:SY} {ce fu:η} {s:SN} {e:ET} (g:KGs w l sy ce fu s) (h:Sl w l sy ce fu e):Yl w s e:=by
 obtain⟨⟨a1,a2,a3⟩,_,_,_,_,_,_,k,n⟩:=g;have d:=n e.1 h.en.t0 (by rw[k];exact h.en.t1);exact⟨by rw[a1];exact h.rd,h.s1,h.s2,h.de,h.fr,by rw[d];exact h.nd,by rw[d];exact h.nf,by rw[a1,a2,a3];exact h.va⟩
theorem Yl.scx {w:WT} {l:Y ET} {sy:SY} {ce fu:η} {s:SN} {e:ET} (g:KGs w l sy ce fu s) (en:EN w s.1 e.1 e.2.1 e.2.2.1) (h:Yl w s e) (r1:∀y∈e.2.2.2.2.2.1,Bp l e.1 y) (r2:∀y∈e.2.2.2.2.2.2,Bp l e.1 y):Sl w l sy ce fu e:=by
 obtain⟨⟨a1,a2,a3⟩,_,_,_,_,_,_,k,n⟩:=g;have d:=n e.1 en.t0 (by rw[k];exact en.t1);exact⟨by rw[<- a1];exact en,by rw[<- a1];exact h.rd,h.s1,h.s2,h.de,h.fr,by rw[<- d];exact h.nd,by rw[<- d];exact h.nf,r1,r2,by rw[<- a1,<-a2,<-a3];exact h.va⟩
structure ue (y:WT×List ET):Prop where
 vw:Kq y.1
 len:y.2.length<=400
 ac:∃sy ce fu,Hq y.1 y.2 sy ce fu
theorem ue.vl {y:WT×Y ET} (h:ue y):VL y.1:=h.vw.v
theorem ue.wb {y:WT×Y ET} (h:ue y):WB y.1:=h.vw.v.wb
theorem ue.sc {w:WT} {l:Y ET} (tr:ue (w,l)) {i:Nat} (h:i<l.length):Sl w (l.take i) (acS w (l.take i)).1 (acS w (l.take i)).2.1 (acS w (l.take i)).2.2 (eN l i):=by
 obtain⟨sy,ce,fu,d⟩:=tr.ac;exact d.all.2 i h
theorem Y5 {l:Y ET} {e:ET} (h:e∈l):∃i,i<l.length/\eN l i=e:=by
 obtain⟨i,hi,he⟩:=ve h;refine ⟨i,hi,?_⟩;show aG (T:=tE) l (i:Int)=e;rw[K_,ay,ax hi];exact he
theorem ue.ev {y:WT×Y ET} (h:ue y):∀e∈y.2,Ym y.1 e:=λe he=>by
 obtain⟨w,l⟩:=y;obtain⟨i,hi,rfl⟩:=Y5 he;have en:=(h.sc hi).en;exact⟨en.nm,en.t0,en.t1,en.cd⟩
theorem ue.ls {y:WT×Y ET} (h:ue y):∀e∈y.2,UT e:=λe he=>by
 obtain⟨w,l⟩:=y;obtain⟨i,hi,rfl⟩:=Y5 he;have sc:=h.sc hi;have hl:l.length<=400:=h.len;have h1:=sc.nd.len;have h2:=sc.nf.len;have q:=Cj (l.take i) (eN l i).1;have d:=gm i l;dsimp only at hi ⊢;exact⟨by omega,by omega⟩
theorem Hq.det {w:WT} {l:Y ET} {sy:SY} {ce fu:η} (h:Hq w l sy ce fu) {i:Nat} (hi:i<l.length) {sy':SY} {ce' fu':η} (h':Hq w (l.take i) sy' ce' fu'):Sl w (l.take i) sy' ce' fu' (eN l i):=by
 have h1:=h.all.2 i hi;rw[h'.all.1]at h1;exact h1
theorem ue.no {w:WT} {l:Y ET} {i:Nat} (hi:i<l.length) {sy:SY} {ce fu:η} (d:Hq w (l.take i) sy ce fu) (h:¬Sl w (l.take i) sy ce fu (eN l i)):¬ue (w,l):=λg=>by
 obtain⟨_,_,_,g⟩:=g.ac;exact h (g.det hi d)
abbrev fN (l:Y ET) (i:Nat) (t:Int):θ:=fl (l.take i) t
theorem NX {l:Y ET} {i:Nat} (h:i<l.length) {t:Int} (e:(eN l i).1=t):fN l (i+1) t=fN l i t++[sQ (eN l i)]:=by
 unfold fN;rw[pX (T:=tE) h,yF,D2 e]
theorem NY {l:Y ET} {i:Nat} (h:i<l.length) {t:Int} (e:¬(eN l i).1=t):fN l (i+1) t=fN l i t:=by
 unfold fN;rw[pX (T:=tE) h,yF,yE e,ol]
theorem NZ (l:Y ET) (i:Nat) (t:Int):(fN l i t).length<=l.length:=c6 (Cj _ _) (List.length_take_le' ..)
theorem LP (w:WT) {l:Y ET} {i:Nat} (h:i<l.length):fZ w (l.take (i+1))=Sj w (fZ w (l.take i)) (eN l i):=by
 rw[pX (T:=tE) h];exact LQ w _ _
theorem Hq.take {w:WT} {l:Y ET} {i:Nat} (hi:i<l.length) {sy:SY} {ce fu:η} (d:Hq w (l.take i) sy ce fu) (hs:Sl w (l.take i) sy ce fu (eN l i)):∃sy ce fu,Hq w (l.take (i+1)) sy ce fu:=by
 rw[pX (T:=tE) hi];exact⟨_,_,_,d.snoc hs⟩
theorem U3 {w:WT} {l:Y ET} (vl:VL w) (hl:l.length<=400) {i:Nat} (hi:i<l.length) {sy:SY} {ce fu:η} (q:Hq w (l.take i) sy ce fu) (hs:Sl w (l.take i) sy ce fu (eN l i)):dR (w,fZ w (l.take i),eN l i)=Z (fZ w (l.take (i+1)),M)/\∀t:Int,(eN l i).1=t->bT (fN l i t,eN l i)=Z M:=by
 have htk:=gm i l;have g:=q.kg vl (by omega);have ht:=vl.t;have e1:=hs.en.t1;have h2:=vl.l;have F:=vl.d;have D:=g.lk;refine ⟨?_,λt e=>?_⟩
 .rw[LP w hi];exact aa5 w _ _ (g.nb vl) (by omega) (by omega) g.f16 (by rw[g.a.1];exact hs.en) (hs.s16 g) (g.cb (by omega) _) (by omega) g.r (by omega)
 .subst e;have A:=hs.nd.len;have z:=hs.nf.len;have s:=Cj (l.take i) (eN l i).1;exact Xt _ _ hs.rd1 hs.rd2 (by omega) (by omega)
theorem U4 {w:WT} {l:Y ET} (vl:VL w) (hl:l.length<=400) {i:Nat} (hi:i<l.length) {sy:SY} {ce fu:η} (D:Hq w (l.take i) sy ce fu) (hs:¬Sl w (l.take i) sy ce fu (eN l i)):Ok (dR (w,fZ w (l.take i),eN l i)) λy=>y.2=M->(0<=(eN l i).1/\(eN l i).1<w.2.2.2.2.1.length)/\∀t:Int,(eN l i).1=t->Ok (bT (fN l i t,eN l i)) λb=>b=aa:=by
 have htk:=gm i l;have g:=D.kg vl (by omega);have h2:=vl.l;have h3:=vl.d;have h4:=g.lk;refine (aa6 w _ _ (g.nb vl) (by omega) (by omega) (g.cb (by omega) _) (by omega) g.r vl.t).mono λy A h=>?_
 obtain⟨⟨F,q,s⟩,_⟩:=A h;refine ⟨⟨q.t0,q.t1⟩,λt e=>?_⟩;subst e;have z:=g.n (eN l i).1 q.t0 (by rw[g.k];exact q.t1);have h5:((eN l i).2.2.2.2.2.1.length:Int)<=max (0:Int) ((fl (l.take i) (eN l i).1).length:Int):=by have:=s.nd.len;rw[z]at this;exact this
 have L:((eN l i).2.2.2.2.2.2.length:Int)<=max (0:Int) ((fl (l.take i) (eN l i).1).length:Int):=by have:=s.nf.len;rw[z]at this;exact this
 have I:=Cj (l.take i) (eN l i).1;refine (Wm _ _ (by omega) (by omega)).mono λb hb=>?_
 cases b with
 |false=>rfl
 |true=>
  obtain⟨r1,r2⟩:=hb rfl;exact (hs (s.scx g q r1 r2)).elim
theorem tZ {w:WT} (h:Kq w):dw w=Z M:=by
 obtain⟨b,hb,hq⟩:=VWc w;rw[hb,hq.2 h]
theorem aas {w:WT} {l:Y ET} (vw:Kq w) (hl:l.length<=400) (hn:w.2.2.2.2.1.length=4):Ok (cV (w,l)) λy=>y.2=0↔ue (w,l):=by
 have vl:=vw.v;unfold cV gu aV ba bk bO cU fM bn dx gI lB bf bx bo bG aY cI aB cu;refine jr (fD.2 (by dsimp only[aj];omega)) (aQ (tZ vw) (gw (aQ (w9 w vl) (a8 (by show (cP 0 (aU w.2.2.2.2.1.length)&&cP (aU w.2.2.2.2.1.length) (aU w.2.2.2.2.1.length)&&bc (aP (aU w.2.2.2.2.1.length)) 24&&decide ((aU w.2.2.2.2.1.length:Int)=4))=M;rw[hn];rfl) ?_))));refine dZ l.length (by omega) (λi x=>x=((i:Int),(w,l),fZ w (l.take i),fN l i 0,fN l i 1,fN l i 2,fN l i 3)/\∃sy ce fu,Hq w (l.take i) sy ce fu) ?_ ?_ ⟨rfl,_,_,_,.nil⟩
 .rintro i x hi ⟨rfl,sy,ce,fu,d⟩;have q:=λt=>NZ l i t
  have own:=λt=>NX hi (t:=t)
  have oth:=λt=>NY hi (t:=t)
  refine aR (λ_=>?_) λg=>(by dsimp only[aj]at g;omega)
  refine aH (by dsimp only;omega) (by dsimp only;omega) (aW ?_);have hg:aG (T:=tE) l (i:Int)=eN l i:=rfl;dsimp only;rw[hg];by_cases hs:Sl w (l.take i) sy ce fu (eN l i)
  .obtain⟨st,rd⟩:=U3 vl hl hi d hs;have hnx:=d.take hi hs;have e1:=hs.en.t1;have e0:=hs.en.t0;have ht:(eN l i).1=0\/(eN l i).1=1\/(eN l i).1=2\/(eN l i).1=3:=by omega
   clear hs hg;generalize eN l i=e at*
   refine aQ st ?_;obtain⟨(t:Int),e⟩:=e;dsimp only at ht;rcases ht with rfl|rfl|rfl|rfl
   .refine aX (λx=>x=(aa,(w,l),fZ w (l.take i),(0,e),fZ w (l.take (i+1)),fN l i 0,fN l i 1,fN l i 2,fN l i 3)) ?_ ?_
    .simp only[aN,aS,kJ];exact aQ (rd 0 rfl) (ai rfl)
    rintro x rfl;refine gw (aX (λx=>x=((w,l),fZ w (l.take i),fZ w (l.take (i+1)),fN l (i+1) 0,fN l (i+1) 1,fN l (i+1) 2,fN l (i+1) 3)) ?_ ?_)
    .simp only[aN,aS,kJ];rw[own 0 rfl,oth 1 (by show ¬(0:Int)=1;decide),oth 2 (by show ¬(0:Int)=2;decide),oth 3 (by show ¬(0:Int)=3;decide)];have:=q 0;refine aE (λh=>aZ (by simp;omega) (by omega) (ai ?_)) λh=>aZ (by simp;omega) (by omega) (ai ?_)
     .have:sQ (0,e)=M:=by unfold sQ;rw[be h];rfl
      rw[this]
     .have:sQ (0,e)=decide (e.1=23):=by unfold sQ;rw[bD h];rfl
      rw[this]
    rintro x rfl;exact ai ⟨by rw[fx (by omega)],hnx⟩
   .refine aX (λx=>x=(aa,(w,l),fZ w (l.take i),(1,e),fZ w (l.take (i+1)),fN l i 0,fN l i 1,fN l i 2,fN l i 3)) ?_ ?_
    .simp only[aN,aS,kJ];exact aQ (rd 1 rfl) (ai rfl)
    rintro x rfl;refine gw (aX (λx=>x=((w,l),fZ w (l.take i),fZ w (l.take (i+1)),fN l (i+1) 0,fN l (i+1) 1,fN l (i+1) 2,fN l (i+1) 3)) ?_ ?_)
    .simp only[aN,aS,kJ];rw[own 1 rfl,oth 0 (by show ¬(1:Int)=0;decide),oth 2 (by show ¬(1:Int)=2;decide),oth 3 (by show ¬(1:Int)=3;decide)];have:=q 1;refine aE (λh=>aZ (by simp;omega) (by omega) (ai ?_)) λh=>aZ (by simp;omega) (by omega) (ai ?_)
     .have:sQ (1,e)=M:=by unfold sQ;rw[be h];rfl
      rw[this]
     .have:sQ (1,e)=decide (e.1=23):=by unfold sQ;rw[bD h];rfl
      rw[this]
    rintro x rfl;exact ai ⟨by rw[fx (by omega)],hnx⟩
   .refine aX (λx=>x=(aa,(w,l),fZ w (l.take i),(2,e),fZ w (l.take (i+1)),fN l i 0,fN l i 1,fN l i 2,fN l i 3)) ?_ ?_
    .simp only[aN,aS,kJ];exact aQ (rd 2 rfl) (ai rfl)
    rintro x rfl;refine gw (aX (λx=>x=((w,l),fZ w (l.take i),fZ w (l.take (i+1)),fN l (i+1) 0,fN l (i+1) 1,fN l (i+1) 2,fN l (i+1) 3)) ?_ ?_)
    .simp only[aN,aS,kJ];rw[own 2 rfl,oth 0 (by show ¬(2:Int)=0;decide),oth 1 (by show ¬(2:Int)=1;decide),oth 3 (by show ¬(2:Int)=3;decide)];have:=q 2;refine aE (λh=>aZ (by simp;omega) (by omega) (ai ?_)) λh=>aZ (by simp;omega) (by omega) (ai ?_)
     .have:sQ (2,e)=M:=by unfold sQ;rw[be h];rfl
      rw[this]
     .have:sQ (2,e)=decide (e.1=23):=by unfold sQ;rw[bD h];rfl
      rw[this]
    rintro x rfl;exact ai ⟨by rw[fx (by omega)],hnx⟩
   .refine aX (λx=>x=(aa,(w,l),fZ w (l.take i),(3,e),fZ w (l.take (i+1)),fN l i 0,fN l i 1,fN l i 2,fN l i 3)) ?_ ?_
    .simp only[aN,aS,kJ];exact aQ (rd 3 rfl) (ai rfl)
    rintro x rfl;refine gw (aX (λx=>x=((w,l),fZ w (l.take i),fZ w (l.take (i+1)),fN l (i+1) 0,fN l (i+1) 1,fN l (i+1) 2,fN l (i+1) 3)) ?_ ?_)
    .simp only[aN,aS,kJ];rw[own 3 rfl,oth 0 (by show ¬(3:Int)=0;decide),oth 1 (by show ¬(3:Int)=1;decide),oth 2 (by show ¬(3:Int)=2;decide)];have:=q 3;refine aE (λh=>aZ (by simp;omega) (by omega) (ai ?_)) λh=>aZ (by simp;omega) (by omega) (ai ?_)
     .have:sQ (3,e)=M:=by unfold sQ;rw[be h];rfl
      rw[this]
     .have:sQ (3,e)=decide (e.1=23):=by unfold sQ;rw[bD h];rfl
      rw[this]
    rintro x rfl;exact ai ⟨by rw[fx (by omega)],hnx⟩
  .have hno:=ue.no hi d hs;have hst:=U4 vl hl hi d hs;clear hs hg own oth;generalize eN l i=e at*
   refine ar hst λy s=>?_
   refine aX (λx=>x.1=M) ?_ ?_
   .refine aK (λh=>?_) λ_=>ai rfl
    obtain⟨⟨e0,e1⟩,rd⟩:=s h;obtain⟨(t:Int),e⟩:=e;dsimp only at e0 e1;have ht:t=0\/t=1\/t=2\/t=3:=by omega
    rcases ht with rfl|rfl|rfl|rfl
    .simp only[aN,aS,kJ];exact ar (rd 0 rfl) λb hb=>ai (by subst hb;rfl)
    .simp only[aN,aS,kJ];exact ar (rd 1 rfl) λb hb=>ai (by subst hb;rfl)
    .simp only[aN,aS,kJ];exact ar (rd 2 rfl) λb hb=>ai (by subst hb;rfl)
    .simp only[aN,aS,kJ];exact ar (rd 3 rfl) λb hb=>ai (by subst hb;rfl)
   rintro⟨b,x⟩ hb;dsimp only at hb;subst hb;exact rU (ai ⟨λh=>(by cases h),λh=>(hno h).elim⟩)
 .rintro x ⟨rfl,d⟩;rw[bS]at d;exact aR (λg=>(by dsimp only[aj]at g;omega)) λ_=>ai ⟨λ_=>⟨vw,hl,d⟩,λ_=>rfl⟩
theorem Ew {w:WT} {l:Y ET} (vw:Kq w) (hl:l.length<=400) (hn:¬w.2.2.2.2.1.length=4):cV (w,l)=U:=by
 unfold cV gu aV ba bk bO cU fM bn dx gI lB bf bx bo bG aY cI aB cu;rw[show fK 400 (aU (ah (w,l).2))=aa from fD.2 (by dsimp only[aj];omega)];simp only[aN,aS,kJ];rw[tZ vw];simp only[aN,aS,kJ];rw[w9 w vw.v];simp only[aN,aS,kJ];rw[show decide ((aU w.2.2.2.2.1.length:Int)=4)=aa from bD (by dsimp only[aj];omega),uc];rfl
theorem aat {w:WT} {l:Y ET} (vw:Kq w) (hl:l.length<=400) (hn:w.2.2.2.2.1.length=3):Ok (dG (w,l)) λy=>y.2=0↔ue (w,l):=by
 have vl:=vw.v;unfold dG jM aV ba bk bO cU bn ci dx gI bf bx bo bG aY cI aB cu;refine jr (fD.2 (by dsimp only[aj];omega)) (aQ (tZ vw) (gw (aQ (w9 w vl) (a8 (by show (cP 0 (aU w.2.2.2.2.1.length)&&cP (aU w.2.2.2.2.1.length) (aU w.2.2.2.2.1.length)&&bc (aP (aU w.2.2.2.2.1.length)) 24&&decide ((aU w.2.2.2.2.1.length:Int)=3))=M;rw[hn];rfl) ?_))));refine dZ l.length (by omega) (λi x=>x=((i:Int),(w,l),fZ w (l.take i),fN l i 0,fN l i 1,fN l i 2)/\∃sy ce fu,Hq w (l.take i) sy ce fu) ?_ ?_ ⟨rfl,_,_,_,.nil⟩
 .rintro i x hi ⟨rfl,sy,ce,fu,d⟩;have q:=λt=>NZ l i t
  have own:=λt=>NX hi (t:=t)
  have oth:=λt=>NY hi (t:=t)
  refine aR (λ_=>?_) λg=>(by dsimp only[aj]at g;omega)
  refine aH (by dsimp only;omega) (by dsimp only;omega) (aW ?_);have hg:aG (T:=tE) l (i:Int)=eN l i:=rfl;dsimp only;rw[hg];by_cases hs:Sl w (l.take i) sy ce fu (eN l i)
  .obtain⟨st,rd⟩:=U3 vl hl hi d hs;have hnx:=d.take hi hs;have e1:=hs.en.t1;have e0:=hs.en.t0;have ht:(eN l i).1=0\/(eN l i).1=1\/(eN l i).1=2:=by omega
   clear hs hg;generalize eN l i=e at*
   refine aQ st ?_;obtain⟨(t:Int),e⟩:=e;dsimp only at ht;rcases ht with rfl|rfl|rfl
   .refine aX (λx=>x=(aa,(w,l),fZ w (l.take i),(0,e),fZ w (l.take (i+1)),fN l i 0,fN l i 1,fN l i 2)) ?_ ?_
    .simp only[aN,aS,kJ];exact aQ (rd 0 rfl) (ai rfl)
    rintro x rfl;refine gw (aX (λx=>x=((w,l),fZ w (l.take i),fZ w (l.take (i+1)),fN l (i+1) 0,fN l (i+1) 1,fN l (i+1) 2)) ?_ ?_)
    .simp only[aN,aS,kJ];rw[own 0 rfl,oth 1 (by show ¬(0:Int)=1;decide),oth 2 (by show ¬(0:Int)=2;decide)];have:=q 0;refine aE (λh=>aZ (by simp;omega) (by omega) (ai ?_)) λh=>aZ (by simp;omega) (by omega) (ai ?_)
     .have:sQ (0,e)=M:=by unfold sQ;rw[be h];rfl
      rw[this]
     .have:sQ (0,e)=decide (e.1=23):=by unfold sQ;rw[bD h];rfl
      rw[this]
    rintro x rfl;exact ai ⟨by rw[fx (by omega)],hnx⟩
   .refine aX (λx=>x=(aa,(w,l),fZ w (l.take i),(1,e),fZ w (l.take (i+1)),fN l i 0,fN l i 1,fN l i 2)) ?_ ?_
    .simp only[aN,aS,kJ];exact aQ (rd 1 rfl) (ai rfl)
    rintro x rfl;refine gw (aX (λx=>x=((w,l),fZ w (l.take i),fZ w (l.take (i+1)),fN l (i+1) 0,fN l (i+1) 1,fN l (i+1) 2)) ?_ ?_)
    .simp only[aN,aS,kJ];rw[own 1 rfl,oth 0 (by show ¬(1:Int)=0;decide),oth 2 (by show ¬(1:Int)=2;decide)];have:=q 1;refine aE (λh=>aZ (by simp;omega) (by omega) (ai ?_)) λh=>aZ (by simp;omega) (by omega) (ai ?_)
     .have:sQ (1,e)=M:=by unfold sQ;rw[be h];rfl
      rw[this]
     .have:sQ (1,e)=decide (e.1=23):=by unfold sQ;rw[bD h];rfl
      rw[this]
    rintro x rfl;exact ai ⟨by rw[fx (by omega)],hnx⟩
   .refine aX (λx=>x=(aa,(w,l),fZ w (l.take i),(2,e),fZ w (l.take (i+1)),fN l i 0,fN l i 1,fN l i 2)) ?_ ?_
    .simp only[aN,aS,kJ];exact aQ (rd 2 rfl) (ai rfl)
    rintro x rfl;refine gw (aX (λx=>x=((w,l),fZ w (l.take i),fZ w (l.take (i+1)),fN l (i+1) 0,fN l (i+1) 1,fN l (i+1) 2)) ?_ ?_)
    .simp only[aN,aS,kJ];rw[own 2 rfl,oth 0 (by show ¬(2:Int)=0;decide),oth 1 (by show ¬(2:Int)=1;decide)];have:=q 2;refine aE (λh=>aZ (by simp;omega) (by omega) (ai ?_)) λh=>aZ (by simp;omega) (by omega) (ai ?_)
     .have:sQ (2,e)=M:=by unfold sQ;rw[be h];rfl
      rw[this]
     .have:sQ (2,e)=decide (e.1=23):=by unfold sQ;rw[bD h];rfl
      rw[this]
    rintro x rfl;exact ai ⟨by rw[fx (by omega)],hnx⟩
  .have hno:=ue.no hi d hs;have hst:=U4 vl hl hi d hs;clear hs hg own oth;generalize eN l i=e at*
   refine ar hst λy s=>?_
   refine aX (λx=>x.1=M) ?_ ?_
   .refine aK (λh=>?_) λ_=>ai rfl
    obtain⟨⟨e0,e1⟩,rd⟩:=s h;obtain⟨(t:Int),e⟩:=e;dsimp only at e0 e1;have ht:t=0\/t=1\/t=2:=by omega
    rcases ht with rfl|rfl|rfl
    .simp only[aN,aS,kJ];exact ar (rd 0 rfl) λb hb=>ai (by subst hb;rfl)
    .simp only[aN,aS,kJ];exact ar (rd 1 rfl) λb hb=>ai (by subst hb;rfl)
    .simp only[aN,aS,kJ];exact ar (rd 2 rfl) λb hb=>ai (by subst hb;rfl)
   rintro⟨b,x⟩ hb;dsimp only at hb;subst hb;exact rU (ai ⟨λh=>(by cases h),λh=>(hno h).elim⟩)
 .rintro x ⟨rfl,d⟩;rw[bS]at d;exact aR (λg=>(by dsimp only[aj]at g;omega)) λ_=>ai ⟨λ_=>⟨vw,hl,d⟩,λ_=>rfl⟩
theorem MZ {w:WT} {l:Y ET} (vw:Kq w) (hl:l.length<=400) (hn:¬w.2.2.2.2.1.length=3):dG (w,l)=U:=by
 unfold dG jM aV ba bk bO cU bn ci dx gI bf bx bo bG aY cI aB cu;rw[show fK 400 (aU (ah (w,l).2))=aa from fD.2 (by dsimp only[aj];omega)];simp only[aN,aS,kJ];rw[tZ vw];simp only[aN,aS,kJ];rw[w9 w vw.v];simp only[aN,aS,kJ];rw[show decide ((aU w.2.2.2.2.1.length:Int)=3)=aa from bD (by dsimp only[aj];omega),uc];rfl
theorem aau {w:WT} {l:Y ET} (vw:Kq w) (hl:l.length<=400) (hn:w.2.2.2.2.1.length=2):Ok (dl (w,l)) λy=>y.2=0↔ue (w,l):=by
 have vl:=vw.v;unfold dl jN aV ba bk bO bn cC dx bf bx bo bG aY cI aB cu;refine jr (fD.2 (by dsimp only[aj];omega)) (aQ (tZ vw) (gw (aQ (w9 w vl) (a8 (by show (cP 0 (aU w.2.2.2.2.1.length)&&cP (aU w.2.2.2.2.1.length) (aU w.2.2.2.2.1.length)&&bc (aP (aU w.2.2.2.2.1.length)) 24&&decide ((aU w.2.2.2.2.1.length:Int)=2))=M;rw[hn];rfl) ?_))));refine dZ l.length (by omega) (λi x=>x=((i:Int),(w,l),fZ w (l.take i),fN l i 0,fN l i 1)/\∃sy ce fu,Hq w (l.take i) sy ce fu) ?_ ?_ ⟨rfl,_,_,_,.nil⟩
 .rintro i x hi ⟨rfl,sy,ce,fu,d⟩;have q:=λt=>NZ l i t
  have own:=λt=>NX hi (t:=t)
  have oth:=λt=>NY hi (t:=t)
  refine aR (λ_=>?_) λg=>(by dsimp only[aj]at g;omega)
  refine aH (by dsimp only;omega) (by dsimp only;omega) (aW ?_);have hg:aG (T:=tE) l (i:Int)=eN l i:=rfl;dsimp only;rw[hg];by_cases hs:Sl w (l.take i) sy ce fu (eN l i)
  .obtain⟨st,rd⟩:=U3 vl hl hi d hs;have hnx:=d.take hi hs;have e1:=hs.en.t1;have e0:=hs.en.t0;have ht:(eN l i).1=0\/(eN l i).1=1:=by omega
   clear hs hg;generalize eN l i=e at*
   refine aQ st ?_;obtain⟨(t:Int),e⟩:=e;dsimp only at ht;rcases ht with rfl|rfl
   .refine aX (λx=>x=(aa,(w,l),fZ w (l.take i),(0,e),fZ w (l.take (i+1)),fN l i 0,fN l i 1)) ?_ ?_
    .simp only[aN,aS,kJ];exact aQ (rd 0 rfl) (ai rfl)
    rintro x rfl;refine gw (aX (λx=>x=((w,l),fZ w (l.take i),fZ w (l.take (i+1)),fN l (i+1) 0,fN l (i+1) 1)) ?_ ?_)
    .simp only[aN,aS,kJ];rw[own 0 rfl,oth 1 (by show ¬(0:Int)=1;decide)];have:=q 0;refine aE (λh=>aZ (by simp;omega) (by omega) (ai ?_)) λh=>aZ (by simp;omega) (by omega) (ai ?_)
     .have:sQ (0,e)=M:=by unfold sQ;rw[be h];rfl
      rw[this]
     .have:sQ (0,e)=decide (e.1=23):=by unfold sQ;rw[bD h];rfl
      rw[this]
    rintro x rfl;exact ai ⟨by rw[fx (by omega)],hnx⟩
   .refine aX (λx=>x=(aa,(w,l),fZ w (l.take i),(1,e),fZ w (l.take (i+1)),fN l i 0,fN l i 1)) ?_ ?_
    .simp only[aN,aS,kJ];exact aQ (rd 1 rfl) (ai rfl)
    rintro x rfl;refine gw (aX (λx=>x=((w,l),fZ w (l.take i),fZ w (l.take (i+1)),fN l (i+1) 0,fN l (i+1) 1)) ?_ ?_)
    .simp only[aN,aS,kJ];rw[own 1 rfl,oth 0 (by show ¬(1:Int)=0;decide)];have:=q 1;refine aE (λh=>aZ (by simp;omega) (by omega) (ai ?_)) λh=>aZ (by simp;omega) (by omega) (ai ?_)
     .have:sQ (1,e)=M:=by unfold sQ;rw[be h];rfl
      rw[this]
     .have:sQ (1,e)=decide (e.1=23):=by unfold sQ;rw[bD h];rfl
      rw[this]
    rintro x rfl;exact ai ⟨by rw[fx (by omega)],hnx⟩
  .have hno:=ue.no hi d hs;have hst:=U4 vl hl hi d hs;clear hs hg own oth;generalize eN l i=e at*
   refine ar hst λy s=>?_
   refine aX (λx=>x.1=M) ?_ ?_
   .refine aK (λh=>?_) λ_=>ai rfl
    obtain⟨⟨e0,e1⟩,rd⟩:=s h;obtain⟨(t:Int),e⟩:=e;dsimp only at e0 e1;have ht:t=0\/t=1:=by omega
    rcases ht with rfl|rfl
    .simp only[aN,aS,kJ];exact ar (rd 0 rfl) λb hb=>ai (by subst hb;rfl)
    .simp only[aN,aS,kJ];exact ar (rd 1 rfl) λb hb=>ai (by subst hb;rfl)
   rintro⟨b,x⟩ hb;dsimp only at hb;subst hb;exact rU (ai ⟨λh=>(by cases h),λh=>(hno h).elim⟩)
 .rintro x ⟨rfl,d⟩;rw[bS]at d;exact aR (λg=>(by dsimp only[aj]at g;omega)) λ_=>ai ⟨λ_=>⟨vw,hl,d⟩,λ_=>rfl⟩
theorem X_ {w:WT} {l:Y ET} (vw:Kq w) (hl:l.length<=400) (hn:¬w.2.2.2.2.1.length=2):dl (w,l)=U:=by
 unfold dl jN aV ba bk bO bn cC dx bf bx bo bG aY cI aB cu;rw[show fK 400 (aU (ah (w,l).2))=aa from fD.2 (by dsimp only[aj];omega)];simp only[aN,aS,kJ];rw[tZ vw];simp only[aN,aS,kJ];rw[w9 w vw.v];simp only[aN,aS,kJ];rw[show decide ((aU w.2.2.2.2.1.length:Int)=2)=aa from bD (by dsimp only[aj];omega),uc];rfl
theorem aav {w:WT} {l:Y ET} (vw:Kq w) (hl:l.length<=400) (hn:w.2.2.2.2.1.length=1):Ok (dY (w,l)) λy=>y.2=0↔ue (w,l):=by
 have vl:=vw.v;unfold dY lU aV ba bk bn ci bf bx bo bG aY cI aB cu;refine jr (fD.2 (by dsimp only[aj];omega)) (aQ (tZ vw) (gw (aQ (w9 w vl) (a8 (by show (cP 0 (aU w.2.2.2.2.1.length)&&cP (aU w.2.2.2.2.1.length) (aU w.2.2.2.2.1.length)&&bc (aP (aU w.2.2.2.2.1.length)) 24&&decide ((aU w.2.2.2.2.1.length:Int)=1))=M;rw[hn];rfl) ?_))));refine dZ l.length (by omega) (λi x=>x=((i:Int),(w,l),fZ w (l.take i),fN l i 0)/\∃sy ce fu,Hq w (l.take i) sy ce fu) ?_ ?_ ⟨rfl,_,_,_,.nil⟩
 .rintro i x hi ⟨rfl,sy,ce,fu,d⟩;have s:=λt=>NZ l i t
  have own:=λt=>NX hi (t:=t)
  have oth:=λt=>NY hi (t:=t)
  refine aR (λ_=>?_) λg=>(by dsimp only[aj]at g;omega)
  refine aH (by dsimp only;omega) (by dsimp only;omega) (aW ?_);have hg:aG (T:=tE) l (i:Int)=eN l i:=rfl;dsimp only;rw[hg];by_cases hs:Sl w (l.take i) sy ce fu (eN l i)
  .obtain⟨st,rd⟩:=U3 vl hl hi d hs;have hnx:=d.take hi hs;have e1:=hs.en.t1;have e0:=hs.en.t0;have ht:(eN l i).1=0:=by omega
   clear hs hg;generalize eN l i=e at*
   refine aQ st ?_;obtain⟨(t:Int),e⟩:=e;dsimp only at ht;subst ht
   .refine aX (λx=>x=(aa,(w,l),fZ w (l.take i),(0,e),fZ w (l.take (i+1)),fN l i 0)) ?_ ?_
    .simp only[aN,aS,kJ];exact aQ (rd 0 rfl) (ai rfl)
    rintro x rfl;refine gw (aX (λx=>x=((w,l),fZ w (l.take i),fZ w (l.take (i+1)),fN l (i+1) 0)) ?_ ?_)
    .simp only[aN,aS,kJ];rw[own 0 rfl];have:=s 0;refine aE (λh=>aZ (by simp;omega) (by omega) (ai ?_)) λh=>aZ (by simp;omega) (by omega) (ai ?_)
     .have:sQ (0,e)=M:=by unfold sQ;rw[be h];rfl
      rw[this]
     .have:sQ (0,e)=decide (e.1=23):=by unfold sQ;rw[bD h];rfl
      rw[this]
    rintro x rfl;exact ai ⟨by rw[fx (by omega)],hnx⟩
  .have hno:=ue.no hi d hs;have hst:=U4 vl hl hi d hs;clear hs hg own oth;generalize eN l i=e at*
   refine ar hst λy q=>?_
   refine aX (λx=>x.1=M) ?_ ?_
   .refine aK (λh=>?_) λ_=>ai rfl
    obtain⟨⟨e0,e1⟩,rd⟩:=q h;obtain⟨(t:Int),e⟩:=e;dsimp only at e0 e1;have ht:t=0:=by omega
    subst ht
    .simp only[aN,aS,kJ];exact ar (rd 0 rfl) λb hb=>ai (by subst hb;rfl)
   rintro⟨b,x⟩ hb;dsimp only at hb;subst hb;exact rU (ai ⟨λh=>(by cases h),λh=>(hno h).elim⟩)
 .rintro x ⟨rfl,d⟩;rw[bS]at d;exact aR (λg=>(by dsimp only[aj]at g;omega)) λ_=>ai ⟨λ_=>⟨vw,hl,d⟩,λ_=>rfl⟩
theorem aaw (w:WT) (l:Y ET):Ok (kh (w,l)) λy=>y.2=0↔ue (w,l):=by
 unfold kh;by_cases hl:l.length<=400
 .by_cases vw:Kq w
  .have h1:=vw.v.t0;have q:=vw.v.t;have:w.2.2.2.2.1.length=4\/w.2.2.2.2.1.length=3\/w.2.2.2.2.1.length=2\/w.2.2.2.2.1.length=1:=by omega
   rcases this with h|h|h|h
   .obtain⟨y,e,hq⟩:=aas vw hl h;rw[e];exact ai hq
   .obtain⟨y,e,hq⟩:=aat vw hl h;rw[Ew vw hl (by omega),e];exact ai hq
   .obtain⟨y,e,hq⟩:=aau vw hl h;rw[Ew vw hl (by omega),MZ vw hl (by omega),e];exact ai hq
   .obtain⟨y,e,hq⟩:=aav vw hl h;rw[Ew vw hl (by omega),MZ vw hl (by omega),X_ vw hl (by omega),e];exact ai hq
  .have:cV (w,l)=Z (0,1):=by
    obtain⟨b,hb,hq⟩:=VWc w;have d:b=aa:=by
     cases b with
     |false=>rfl
     |true=>exact (vw (hq.1 rfl)).elim
    refine bY ?_;unfold cV gu aV ba bk bO cU fM bn dx gI lB bf bx bo bG aY cI aB cu;exact jr (fD.2 (by dsimp only[aj];omega)) (aQ hb (by rw[d];exact rU (ai rfl)))
   rw[this];exact ai ⟨λh=>(by cases h),λh=>(vw h.vw).elim⟩
 .have:cV (w,l)=Z (0,2):=by
   refine bY ?_;unfold cV gu aV ba bk bO cU fM bn dx gI lB bf bx bo bG aY cI aB cu;exact eO (mB.2 (by dsimp only[aj];omega)) (ai rfl)
  rw[this];exact ai ⟨λh=>(by cases h),λh=>(hl h.len).elim⟩
theorem aht {w:WT} {l:Y ET} (tr:ue (w,l)):∃a,kh (w,l)=Z (a,0):=by
 obtain⟨⟨a,b⟩,e,hq⟩:=aaw w l;have:b=0:=hq.2 tr;subst this;exact⟨a,e⟩
theorem aax (w:WT) (l:Y ET):Ok (mW (w,l)) λy=>y.2=0↔ue (w,l):=by
 unfold mW bO bn dx bx bG aY cI aB cu;refine aR (λhl=>ai ⟨λh=>(by cases h),λh=>?_⟩) λhl=>?_
 .have:=h.len;dsimp only[aj]at hl this;omega
 dsimp only[aj]at hl;have hl:l.length<=400:=by omega
 refine ar (VW06 w) λb hb=>?_
 refine cX (λh=>ai ⟨λh=>(by cases h),λg=>?_⟩) λh=>?_
 .rw[hb.2 g.vw]at h;cases h
 have vw:=hb.1 h;have vl:=vw.v;have h3:=vl.d;refine aQ (Bo w vl) ?_;refine cg l.length (λi x=>x=((i:Int),(w,l),fZ w (l.take i))/\∃sy ce fu,Hq w (l.take i) sy ce fu) ?_ ?_ ⟨rfl,_,_,_,.nil⟩
 .rintro i x hi ⟨rfl,sy,ce,fu,s⟩;have htk:=gm i l;have g:=s.kg vl (by omega);have cb:=g.cb (by omega) (eN l i).1;refine aR (λ_=>?_) λg=>(by dsimp only[aj]at g;omega)
  refine aH (by dsimp only;omega) (by dsimp only;omega) (aW ?_);have hg:aG (T:=tE) l (i:Int)=eN l i:=rfl;dsimp only;rw[hg];have hst:=zG w (fZ w (l.take i)) (g.nb vl) (by omega) (eN l i) (.inr (eX cb (by decide))) (.inr (eX cb (by decide)));by_cases hs:Sl w (l.take i) sy ce fu (eN l i)
  .have hE:EN w (fZ w (l.take i)).1 (eN l i).1 (eN l i).2.1 (eN l i).2.2.1:=by rw[g.a.1];exact hs.en
   have ht:=RP w (fZ w (l.take i)) (g.nb vl) (by omega) (eN l i) (eX cb (by decide)) g.f16 hE (hs.s16 g);have hnx:=s.take hi hs;have h5:=hs.nd.len;have h6:=hs.nf.len;have h7:=Cj (l.take i) (eN l i).1;have r1:=HE l (i:Int) (eN l i).1 (eN l i).2.2.2.2.2.1 (by omega) ⟨by omega,by omega⟩ (by omega) hs.rd1;have r2:=HE l (i:Int) (eN l i).1 (eN l i).2.2.2.2.2.2 (by omega) ⟨by omega,by omega⟩ (by omega) hs.rd2;refine ar (hst.and ht) λy F=>?_
   obtain⟨I,A⟩:=F;have e:=(I.1 A).2.2.2;refine aX (λx=>x.1=aa/\x.2.1=(w,l)/\x.2.2.2=y.1) ?_ ?_
   .exact jr (by rw[A];rfl) (aQ r1 (gw (aQ r2 (ai ⟨rfl,rfl,rfl⟩))))
   .rintro⟨c,p,q,r⟩ ⟨f1,f2,f3⟩;dsimp only at f1 f2 f3;subst f1;subst f2;subst f3;exact gw (ai ⟨by rw[fx (by omega),e,LP w hi],hnx⟩)
  .have hno:=ue.no hi s hs;refine ar hst λy F=>?_
   have key:∀b1 D:Bool,y.2=M->(b1=M->∀z∈(eN l i).2.2.2.2.2.1,Bp (l.take i) (eN l i).1 z)->(D=M->∀z∈(eN l i).2.2.2.2.2.2,Bp (l.take i) (eN l i).1 z)->b1=M->D=M->False:=λb1 D h h1 h2 g1 g2=>by
    obtain⟨q1,_,q3,_⟩:=F.1 h;exact hs (q3.scx g q1 (h1 g1) (h2 g2))
   refine aX (λx=>x.1=M) ?_ ?_
   .refine cX (λ_=>ai rfl) λh=>?_
    obtain⟨q1,_,q3,_⟩:=F.1 h;have h5:((eN l i).2.2.2.2.2.1.length:Int)<=max (0:Int) (aG (T:=.int .i64) (fZ w (l.take i)).2.2.2 (eN l i).1):=q3.nd.len;have h6:((eN l i).2.2.2.2.2.2.length:Int)<=max (0:Int) (aG (T:=.int .i64) (fZ w (l.take i)).2.2.2 (eN l i).1):=q3.nf.len;have h7:=eX h5 (xd.2 ⟨by decide,cb⟩);have h8:=eX h6 (xd.2 ⟨by decide,cb⟩);refine ar (BN l _ _ _ (by omega) ⟨by omega,by omega⟩ (by omega)) λb1 hr1=>?_
    refine cX (λ_=>ai rfl) λhb1=>?_
    refine ar (BN l _ _ _ (by omega) ⟨by omega,by omega⟩ (by omega)) λD L=>ai ?_
    cases D with
    |false=>rfl
    |true=>exact (key b1 M h hr1 L hb1 rfl).elim
   rintro⟨b,x⟩ hb;dsimp only at hb;subst hb;exact rU (ai ⟨λh=>(by cases h),λh=>(hno h).elim⟩)
 .rintro x ⟨rfl,s⟩;rw[bS]at s;exact aR (λg=>(by dsimp only[aj]at g;omega)) λ_=>ai ⟨λ_=>⟨vw,hl,s⟩,λ_=>rfl⟩
def PP (w:WT) (l:Y ET):HS:=l.foldl (λh e=>(EI w h (evP e)).1) (HS.zero w)
def mN (l:Y ET) (i:Nat):EV:=evP (eN l i)
def OU (w:WT) (l:Y ET) (i:Nat):η:=wV w (PP w (l.take i)) (mN l i)
theorem Ik (w:WT) {l:Y ET} {i:Nat} (h:i<l.length):PP w (l.take (i+1))=pC w (PP w (l.take i)) (mN l i) (OU w l i):=by
 rw[pX (T:=tE) h];unfold PP;rw[jS];rfl
theorem Td {w:WT} {l:Y ET} (tr:ue (w,l)):∀i:Nat,i<=l.length->OX (i:Int) (PP w (l.take i))/\Wa w (PP w (l.take i))
 |0,_=>by
  have wb:=tr.wb;dsimp only at wb;exact⟨HS.zero_ok (by have:=wb.c;omega) (by have:=wb.l;omega) (by have:=wb.f;omega) (by have:=wb.t;omega),Wa.zero w⟩
 |i+1,h=>by
  obtain⟨o,d⟩:=Td tr i (by omega);have hl:=tr.len;dsimp only at hl;have ok:=N5 (tr.ev _ (Bf (l:=l) (i:=i) (by omega))) tr.wb d;rw[Ik w (by omega)];exact⟨YB (w:=w) (e:=mN l i) o (by omega) ok.th4,d.step (mN l i)⟩
theorem ZF {w:WT} {l:Y ET} (tr:ue (w,l)) {i:Nat} (h:i<l.length):EOK w (PP w (l.take i)) (mN l i):=N5 (tr.ev _ (Bf h)) tr.wb (Td tr i (by omega)).2
theorem ZD {w:WT} {l:Y ET} (tr:ue (w,l)) {i:Nat} (h:i<l.length):EvT (mN l i) (eN l i):=aiv (tr.ev _ (Bf h))
def LE (a b:η):Prop:=a.length<=b.length/\∀k,a.getD k 0<=b.getD k 0
theorem LE.refl (a:η):LE a a:=⟨cF _,λ_=>gp _⟩
theorem LE.trans {a b c:η} (h:LE a b) (g:LE b c):LE a c:=⟨c6 h.1 g.1,λk=>eX (h.2 k) (g.2 k)⟩
theorem LE.jl {a b:η} (h:LE a b):jl a b=b:=Wu (by rw[zr];have:=h.1;omega) λi=>by rw[AX,vE];have:=h.2 i;omega
theorem ahf (a b:η):LE a (jl a b):=⟨by rw[zr];omega,λk=>by rw[AX,vE];omega⟩
theorem LE_r (a b:η):LE b (jl a b):=⟨by rw[zr];omega,λk=>by rw[AX,vE];omega⟩
theorem af7 (a:η) (t:Nat):LE a (tk a t):=⟨by rw[LM];omega,λk=>by rw[Hw];split<;>(try subst k)<;>omega⟩
theorem OL:∀(l:Y η) (c:η),LE c (l.foldl jl c)
 |[],c=>LE.refl c
 |x::r,c=>(ahf c x).trans (OL r _)
theorem aj0 (w:Bv) (h:HS) (e:EV):LE (h.T.getD e.th []) (wV w h e):=(OL _ _).trans (af7 _ _)
theorem IF {α:Type} (l:Y α) (i j:Nat) (x d:α):(l.set i x).getD j d=if i=j/\i<l.length then x else l.getD j d:=by
 rw[ay,oP];by_cases e:i=j
 .subst e;by_cases g:i<l.length
  .rw[aT rfl,aT g,aT ⟨rfl,g⟩];rfl
  .rw[aT rfl,aL g,aL λq=>g q.2,ay,bJ (by omega)]
 .rw[aL e,aL λq=>e q.1,ay]
structure oJ (P:η->Prop) (h:HS):Prop where
 T:∀u,P (h.T.getD u [])
 S:∀u,P (h.S.getD u [])
 L:∀u,P (h.L.getD u [])
 R:∀u,P (h.R.getD u [])
 C:∀u,P (h.C.getD u [])
 F:∀u,P (h.F.getD u [])
 X:P h.X
 N:∀u,P (h.N.getD u [])
theorem oJ.mono {P Q:η->Prop} {h:HS} (a:oJ P h) (g:∀x,P x->Q x):oJ Q h:=⟨λu=>g _ (a.T u),λu=>g _ (a.S u),λu=>g _ (a.L u),λu=>g _ (a.R u),λu=>g _ (a.C u),λu=>g _ (a.F u),g _ a.X,λu=>g _ (a.N u)⟩
theorem oJ.set {P:η->Prop} {l:Y η} {c:η} (h:∀u,P (l.getD u [])) (hc:P c) (i:Nat):∀u,P ((l.set i c).getD u []):=λu=>by
 rw[IF];split
 .exact hc
 .exact h u
theorem oJ.repl {P:η->Prop} (h:P []) (n:Nat):∀u,P ((aA n []).getD u []):=λu=>by
 rw[ay,lE];split<;>exact h
theorem oJ.zero {P:η->Prop} (h:P []) (w:Bv):oJ P (HS.zero w):=⟨oJ.repl h _,oJ.repl h _,oJ.repl h _,oJ.repl h _,oJ.repl h _,oJ.repl h _,h,oJ.repl h _⟩
theorem oJ.step {P:η->Prop} (hj:∀a b,P a->P b->P (jl a b)) {w:Bv} {h:HS} (a:oJ P h) (e:EV) {c:η} (hc:P c):oJ P (pC w h e c):=by
 have b:oJ P {h with T:=h.T.set e.th c}:={a with T:=oJ.set a.T hc _}
 unfold pC;simp only[];repeat' split
 .exact {b with S:=oJ.set a.S hc _}
 .exact {b with L:=oJ.set a.L (hj _ _ (a.L _) hc) _}
 .exact {b with R:=oJ.set a.R (hj _ _ (a.R _) hc) _}
 .exact {b with L:=oJ.set a.L (hj _ _ (a.L _) hc) _}
 .exact {b with C:=oJ.set a.C (hj _ _ (a.C _) hc) _}
 .exact b
 .exact {b with F:=oJ.set a.F (hj _ _ (a.F _) hc) _}
 .exact {b with X:=hj _ _ a.X hc}
 .exact {b with N:=oJ.set a.N hc _}
 .exact b
 .refine {b with N:=λu=>?_};have:=a.N u;simp only[By];rw[ay]at this ⊢;rw[List.getElem?_mapIdx];cases d:h.N[u]? with
  |none=>rw[d]at this;exact this
  |some x=>
   rw[d]at this;simp only[bU,uo];split
   .exact hc
   .exact this
 .exact b
theorem oJ.src {P:η->Prop} {w:Bv} {h:HS} (a:oJ P h) (e:EV):∀x∈xX w h e,P x:=by
 intro c hc;unfold xX at hc;repeat' (split at hc)
 all_goals simp only[bu,cE,gH]at hc
 .subst hc;exact a.S _
 .subst hc;exact a.T _
 .rcases hc with rfl|rfl
  .exact a.L _
  .exact a.R _
 .subst hc;exact a.L _
 .rcases hc with rfl|rfl|rfl
  .exact a.L _
  .exact a.R _
  .exact a.N _
 .subst hc;exact a.C _
 .subst hc;exact a.F _
 .subst hc;exact a.X
theorem Zz {P:η->Prop} (hj:∀a b,P a->P b->P (jl a b)):∀(l:Y η) (c:η),P c->(∀x∈l,P x)->P (l.foldl jl c)
 |[],_,hc,_=>hc
 |x::r,_,hc,h=>Zz hj r _ (hj _ _ hc (h x (eo ..))) λy d=>h y (dk _ d)
theorem aiw (w:Bv) (h:HS) (e:EV) (c:η):(pC w h e c).T=h.T.set e.th c:=by
 unfold pC;simp only[];repeat' split
 all_goals rfl
def JI (l:Y ET) (u:Nat):Nat->Nat
 |0=>0
 |i+1=>if (mN l i).th=u then JI l u i+1 else JI l u i
theorem Rw (l:Y ET) (u i:Nat):∀j,JI l u i<=JI l u (i+j)
 |0=>cF _
 |j+1=>by
  have:=Rw l u i j;show JI l u i<=JI l u (i+j+1);rw[JI];split<;>omega
theorem Om (l:Y ET) (u:Nat) {i j:Nat} (h:i<=j):JI l u i<=JI l u j:=by
 obtain⟨k,rfl⟩:∃k,j=i+k:=⟨j-i,by omega⟩
 exact Rw l u i k
theorem Hk (l:Y ET) (i:Nat):JI l (mN l i).th (i+1)=JI l (mN l i).th i+1:=by rw[JI,aT rfl]
structure Gd (w:WT) (l:List ET) (i:Nat) (x:η):Prop where
 le:∀u,x.getD u 0<=(JI l u i:Int)
 dn:∀k,k<i->(JI l (mN l k).th k:Int)+1<=x.getD (mN l k).th 0->LE (OU w l k) x
theorem Gd.nil (w:WT) (l:Y ET) (i:Nat):Gd w l i []:=⟨λu=>by simp,λk _ h=>by simp at h;omega⟩
theorem Gd.jl {w:WT} {l:Y ET} {i:Nat} (a b:η) (d:Gd w l i a) (hb:Gd w l i b):Gd w l i (jl a b):=by
 refine ⟨λu=>?_,λk hk h=>?_⟩
 .rw[AX,vE];have:=d.le u;have:=hb.le u;omega
 .rw[AX,vE]at h;by_cases g:(JI l (mN l k).th k:Int)+1<=a.getD (mN l k).th 0
  .exact (d.dn k hk g).trans (ahf _ _)
  .exact (hb.dn k hk (by omega)).trans (LE_r _ _)
theorem Gd.succ {w:WT} {l:Y ET} {i:Nat} {x:η} (h:Gd w l i x):Gd w l (i+1) x:=by
 refine ⟨λu=>?_,λk hk g=>?_⟩
 .have:=h.le u;have:=Om l u (show i<=i+1 by omega);omega
 .by_cases e:k=i
  .subst e;have:=h.le (mN l k).th;omega
  .exact h.dn k (by omega) g
structure GS1 (w:WT) (l:List ET) (i:Nat) (h:HS):Prop where
 a:oJ (Gd w l i) h
 t:∀u,(h.T.getD u []).getD u 0=(JI l u i:Int)
theorem Ot {w:WT} {l:Y ET} {i:Nat} (g:GS1 w l i (PP w (l.take i))):Gd w l (i+1) (OU w l i)/\(OU w l i).getD (mN l i).th 0=(JI l (mN l i).th i:Int)+1:=by
 have s:Gd w l i ((xX w (PP w (l.take i)) (mN l i)).foldl AI.jl ((PP w (l.take i)).T.getD (mN l i).th [])):=Zz Gd.jl _ _ (g.a.T _) (g.a.src (w:=w) _);have z:=g.t (mN l i).th;have hL:=OL (xX w (PP w (l.take i)) (mN l i)) ((PP w (l.take i)).T.getD (mN l i).th []);have A:=(g.a.T (mN l i).th).dn;have d:=aj0 w (PP w (l.take i)) (mN l i);have e:(OU w l i).getD (mN l i).th 0=(JI l (mN l i).th i:Int)+1:=by
  unfold OU wV;rw[Hw,aT rfl];have:=hL.2 (mN l i).th;have:=s.le (mN l i).th;omega
 refine ⟨⟨λu=>?_,λk hk h=>?_⟩,e⟩
 .by_cases hu:(mN l i).th=u
  .subst hu;rw[e,Hk];omega
  .have:=s.le u;unfold OU wV;rw[Hw,aL λq=>hu q.symm,JI,aL hu];exact this
 .by_cases hki:k=i
  .subst hki;exact LE.refl _
  have hk:k<i:=by omega
  by_cases hu:(mN l k).th=(mN l i).th
  .refine (A k hk ?_).trans d;rw[hu,z];have:=Om l (mN l k).th (show k+1<=i from hk);rw[Hk,hu]at this;omega
  .refine (s.dn k hk ?_).trans (af7 _ _);unfold OU wV at h;rw[Hw,aL hu]at h;exact h
theorem Il {w:WT} {l:Y ET} (tr:ue (w,l)):∀i:Nat,i<=l.length->GS1 w l i (PP w (l.take i))
 |0,_=>⟨oJ.zero (Gd.nil w l 0) w,λu=>by have:=oJ.repl (P:=λx=>x.getD u 0=0) (by simp) w.2.2.2.2.1.length u;exact this⟩
 |i+1,h=>by
  have g:=Il tr i (by omega);obtain⟨s,d⟩:=Ot g;have ht:=(ZF tr (show i<l.length by omega)).th;rw[Ik w (by omega)];refine ⟨oJ.step Gd.jl (g.a.mono λx h=>h.succ) _ s,λu=>?_⟩;rw[aiw,IF];by_cases hu:(mN l i).th=u
  .subst hu;rw[aT ⟨rfl,ht⟩,d,Hk];omega
  .rw[aL λq=>hu q.1,g.t u,JI,aL hu]
theorem VM {w:WT} {l:Y ET} (tr:ue (w,l)) {i:Nat} (h:i<l.length):(OU w l i).getD (mN l i).th 0=(JI l (mN l i).th i:Int)+1:=(Ot (Il tr i (by omega))).2
theorem ZQ {w:WT} {l:Y ET} (tr:ue (w,l)) {i:Nat} (h:i<l.length):Gd w l (i+1) (OU w l i):=(Ot (Il tr i (by omega))).1
def Yn (w:WT) (l:Y ET) (k j:Nat):Prop:=(JI l (mN l k).th k:Int)+1<=(OU w l j).getD (mN l k).th 0
theorem Yn.le {w:WT} {l:Y ET} (tr:ue (w,l)) {k j:Nat} (hk:k<=j) (hj:j<l.length) (h:Yn w l k j):LE (OU w l k) (OU w l j):=(ZQ tr hj).dn k (by omega) h
theorem Yn.of {w:WT} {l:Y ET} (tr:ue (w,l)) {k j:Nat} (hk:k<l.length) (h:LE (OU w l k) (OU w l j)):Yn w l k j:=by
 have:=h.2 (mN l k).th;rw[VM tr hk]at this;exact this
theorem Yn.own {w:WT} {l:Y ET} (tr:ue (w,l)) {k j:Nat} (hk:k<j) (hj:j<l.length) (h:(mN l k).th=(mN l j).th):Yn w l k j:=by
 unfold Yn;rw[h,VM tr hj];have:=Om l (mN l k).th (show k+1<=j from hk);rw[Hk,h]at this;omega
theorem Yn.trans {w:WT} {l:Y ET} (tr:ue (w,l)) {i j k:Nat} (hi:i<=j) (hj:j<=k) (hk:k<l.length) (h:Yn w l i j) (g:Yn w l j k):Yn w l i k:=Yn.of tr (by omega) ((h.le tr hi (by omega)).trans (g.le tr hj hk))
theorem O5 {w:WT} {l:Y ET} (tr:ue (w,l)):nL w=Z (HS.zero w).t:=by
 have wb:=tr.wb;dsimp only at wb;exact aa7 w (by have:=wb.c;unfold xP;omega) (by have:=wb.l;unfold xP;omega) (by have:=wb.f;unfold xP;omega) (by have:=wb.t;unfold xP;omega)
theorem abd {w:WT} {l:Y ET} (tr:ue (w,l)) {i:Nat} (hi:i<l.length):r8 (w,(PP w (l.take i)).t,eN l i)=Z ((PP w (l.take (i+1))).t,OU w l i):=by
 have hl:=tr.len;dsimp only at hl;have:=adh (Td tr i (by omega)).1 (by omega) (ZF tr hi) (ZD tr hi);rw[Ik w hi];exact this
def tA {α:Type} (n:Nat) (f:Nat->α) (z:α) (i:Nat):Y α:=(fm n).map λk=>if k<i then f k else z
theorem M9 {α:Type} (n:Nat) (f:Nat->α) (z:α) (i:Nat):(tA n f z i).length=n:=by simp[tA]
theorem M8 {α:Type} {n:Nat} {f:Nat->α} {z:α} {i:Nat} (h:i<n):(tA n f z i).set i (f i)=tA n f z (i+1):=by
 unfold tA;apply dA
 .simp
 intro k h1 h2;simp only[EA,ca,lD]at h1;rw[ur];simp only[qG,nB];by_cases e:i=k
 .subst e;rw[aT rfl,aT (by omega)]
 .rw[aL e];by_cases g:k<i
  .rw[aT g,aT (by omega)]
  .rw[aL g,aL (by omega)]
theorem M7 {α:Type} (n:Nat) (f:Nat->α) (z:α):tA n f z 0=aA n z:=by unfold tA;simp[List.map_const']
theorem Sw {α:Type} (n:Nat) (f:Nat->α) (z:α):tA n f z n=(fm n).map f:=List.map_congr_left λk hk=>by rw[aT (nA.1 hk)]
abbrev csN (w:WT) (l:Y ET):Y η:=(fm l.length).map (OU w l)
theorem X9 {w:WT} {l:Y ET} (tr:ue (w,l)):lQ (w,l)=Z (csN w l,0):=by
 have hl:=tr.len;dsimp only at hl;obtain⟨ck0,hck⟩:=aht tr;refine bY ?_;unfold lQ tP aV bn ck bx ir bo bG aY cI aB cu;refine aQ hck (gw (aQ (O5 tr) (cK (cK (cY (by dsimp only[aj];omega) (cY (by omega) (aZ (by simp;omega) (by omega) ?_)))))));refine dZ l.length (by omega) (λi x=>x=((i:Int),(w,l),(PP w (l.take i)).t,tA l.length (OU w l) [] i)) ?_ ?_ ?_
 .rintro i x hi rfl;refine iC ?_;refine dV (aW ?_);refine aQ (abd tr hi) ?_;refine aH (by dsimp only;omega) (by dsimp only;rw[M9];omega) (aH (by dsimp only;omega) (by dsimp only;rw[M9];omega) (ai ?_));dsimp only;rw[fx (by omega),eG,M8 hi]
 .rintro x rfl;refine hX (ai ?_);dsimp only;rw[Sw]
 .show _=_;rw[M7];rfl
abbrev Ke0:Ty:=(.st (.pr (.int .u8) (.pr (.int .u8) (.int .i8))))
abbrev Ke1:Ty:=(.st (.pr C' (.pr C' C')))
def l_ (x:(η×(η)×η)×Int×Int×Int×Int):J (eP×Y jD):=
 (av (kX (x.1,x.2.1)) λd=>(bf (aY d.2) 0 (Z d) (bo (bc (ah (d.2:Y jD)) 88) (bo (!decide (((aY d.2):Int)=0)) (l8 (bp (a9 .i64 x.p2) (aY d.2)) d.2 (jn (α:=nz×mr×(Y jC)×dj×dj×(Y ν)×Y jD) (bf (bp x.p3 9) 0 (l8 (bp (a9 .i64 x.p2) (aY d.2)) d.2 (aB (d.1.1,d.1.2.1,d.1.p2,d.1.p3,d.1.p4,d.1.q5,(cj d.2 (bp (a9 .i64 x.p2) (aY d.2)) ((bp (a9 .i64 x.q4) 8),(aG (T:=gG) d.2 (bp (a9 .i64 x.p2) (aY d.2))).2))))) (bf (bp x.p3 9) 1 (l8 (bp (a9 .i64 x.p2) (aY d.2)) d.2 (aB (d.1.1,d.1.2.1,d.1.p2,d.1.p3,d.1.p4,d.1.q5,(cj d.2 (bp (a9 .i64 x.p2) (aY d.2)) ((aG (T:=gG) d.2 (bp (a9 .i64 x.p2) (aY d.2))).1,(a9 .i64 (1+(bp (a9 .i64 (a9 .u8 x.q4)) 24))),((aG (T:=gG) d.2 (bp (a9 .i64 x.p2) (aY d.2))).2).2))))) (bf (bp x.p3 9) 2 (l8 (bp (a9 .i64 x.p2) (aY d.2)) d.2 (aB (d.1.1,d.1.2.1,d.1.p2,d.1.p3,d.1.p4,d.1.q5,(cj d.2 (bp (a9 .i64 x.p2) (aY d.2)) ((aG (T:=gG) d.2 (bp (a9 .i64 x.p2) (aY d.2))).1,((aG (T:=gG) d.2 (bp (a9 .i64 x.p2) (aY d.2))).2).1,(bp (a9 .i64 x.q4) 8),(((aG (T:=gG) d.2 (bp (a9 .i64 x.p2) (aY d.2))).2).2).2))))) (bf (bp x.p3 9) 3 (l8 (bp (a9 .i64 x.p2) (aY d.2)) d.2 (aB (d.1.1,d.1.2.1,d.1.p2,d.1.p3,d.1.p4,d.1.q5,(cj d.2 (bp (a9 .i64 x.p2) (aY d.2)) ((aG (T:=gG) d.2 (bp (a9 .i64 x.p2) (aY d.2))).1,((aG (T:=gG) d.2 (bp (a9 .i64 x.p2) (aY d.2))).2).1,(((aG (T:=gG) d.2 (bp (a9 .i64 x.p2) (aY d.2))).2).2).1,(bp (a9 .i64 x.q4) 8),((((aG (T:=gG) d.2 (bp (a9 .i64 x.p2) (aY d.2))).2).2).2).2))))) (bf (bp x.p3 9) 4 (l8 (bp (a9 .i64 x.p2) (aY d.2)) d.2 (aB (d.1.1,d.1.2.1,d.1.p2,d.1.p3,d.1.p4,d.1.q5,(cj d.2 (bp (a9 .i64 x.p2) (aY d.2)) ((aG (T:=gG) d.2 (bp (a9 .i64 x.p2) (aY d.2))).1,((aG (T:=gG) d.2 (bp (a9 .i64 x.p2) (aY d.2))).2).1,(((aG (T:=gG) d.2 (bp (a9 .i64 x.p2) (aY d.2))).2).2).1,((((aG (T:=gG) d.2 (bp (a9 .i64 x.p2) (aY d.2))).2).2).2).1,(bp (a9 .i64 x.q4) 8),(((((aG (T:=gG) d.2 (bp (a9 .i64 x.p2) (aY d.2))).2).2).2).2).2))))) (bf (bp x.p3 9) 5 (bG gG d.2 (bp (a9 .i64 x.p2) (aY d.2)) λz=>(bo (bc (ah (z.2.2.2.2.2.1:η)) 8) (bo (bc (ah z.2.2.2.2.2.1+ah ([(bp (a9 .i64 x.q4) 8)])) 8) (l8 (bp (a9 .i64 x.p2) (aY d.2)) d.2 (aB (d.1.1,d.1.2.1,d.1.p2,d.1.p3,d.1.p4,d.1.q5,(cj d.2 (bp (a9 .i64 x.p2) (aY d.2)) ((aG (T:=gG) d.2 (bp (a9 .i64 x.p2) (aY d.2))).1,((aG (T:=gG) d.2 (bp (a9 .i64 x.p2) (aY d.2))).2).1,(((aG (T:=gG) d.2 (bp (a9 .i64 x.p2) (aY d.2))).2).2).1,((((aG (T:=gG) d.2 (bp (a9 .i64 x.p2) (aY d.2))).2).2).2).1,(((((aG (T:=gG) d.2 (bp (a9 .i64 x.p2) (aY d.2))).2).2).2).2).1,(z.2.2.2.2.2.1++([(bp (a9 .i64 x.q4) 8)])),((((((aG (T:=gG) d.2 (bp (a9 .i64 x.p2) (aY d.2))).2).2).2).2).2).2)))))))) (bf (bp x.p3 9) 6 (bG gG d.2 (bp (a9 .i64 x.p2) (aY d.2)) λs=>(bo (bc (ah (s.2.2.2.2.2.2:η)) 8) (bo (bc (ah s.2.2.2.2.2.2+ah ([(bp (a9 .i64 x.q4) 8)])) 8) (l8 (bp (a9 .i64 x.p2) (aY d.2)) d.2 (aB (d.1.1,d.1.2.1,d.1.p2,d.1.p3,d.1.p4,d.1.q5,(cj d.2 (bp (a9 .i64 x.p2) (aY d.2)) ((aG (T:=gG) d.2 (bp (a9 .i64 x.p2) (aY d.2))).1,((aG (T:=gG) d.2 (bp (a9 .i64 x.p2) (aY d.2))).2).1,(((aG (T:=gG) d.2 (bp (a9 .i64 x.p2) (aY d.2))).2).2).1,((((aG (T:=gG) d.2 (bp (a9 .i64 x.p2) (aY d.2))).2).2).2).1,(((((aG (T:=gG) d.2 (bp (a9 .i64 x.p2) (aY d.2))).2).2).2).2).1,((((((aG (T:=gG) d.2 (bp (a9 .i64 x.p2) (aY d.2))).2).2).2).2).2).1,(s.2.2.2.2.2.2++([(bp (a9 .i64 x.q4) 8)])))))))))) (jn (aB ((decide (((bp x.p3 9):Int)=7)),d.1.1,d.1.2.1,d.1.p2,d.1.p3,d.1.p4,d.1.q5,d.2)) λq=>(aF q.1 (bo ((decide ((bp (a9 .i64 x.p2) (aY d.2))=(bp (a9 .i64 x.p2) (aY d.2)))&&cP 0 (bp (a9 .i64 x.p2) (aY d.2)))&&cP (bp (a9 .i64 x.p2) (aY d.2)) (ah q.q7)) (bo (cP 0 (a9 .i64 ((bp (a9 .i64 x.p2) (aY d.2))+1))&&cP (a9 .i64 ((bp (a9 .i64 x.p2) (aY d.2))+1)) (ah q.q7)) (bo (bc (ah (cM (aP (bp (a9 .i64 x.p2) (aY d.2))) q.q7)+ah (List.drop (aP (a9 .i64 ((bp (a9 .i64 x.p2) (aY d.2))+1))) q.q7)) 88) (aF (aw (ah (List.drop (aP (a9 .i64 ((bp (a9 .i64 x.p2) (aY d.2))+1))) q.q7)) 0) (aB (q.2.1,q.p2,q.p3,q.p4,q.p5,q.p6,(cM (aP (bp (a9 .i64 x.p2) (aY d.2))) q.q7))) (aB (q.2.1,q.p2,q.p3,q.p4,q.p5,q.p6,((cM (aP (bp (a9 .i64 x.p2) (aY d.2))) q.q7)++(List.drop (aP (a9 .i64 ((bp (a9 .i64 x.p2) (aY d.2))+1))) q.q7)))))))) (aB q.2)))))))))) λx2=>(Z ((x2.1,x2.2.1,x2.p2,x2.p3,x2.p4,x2.p5),x2.q6))))))))
theorem L6 (k j v:Int):∀m:Y Γ,mA (K:=.int .i64) (V:=.int .i64) j (AU (K:=.int .i64) (V:=.int .i64) k v m)=if j=k then Z v else mA (K:=.int .i64) (V:=.int .i64) j m
 |[]=>by
  show (if decide (j=k)=M then Z v else U)=_;by_cases h:j=k<;>simp[h,mA]
 |(a,b)::r=>by
  have d:=L6 k j v r;show mA (K:=.int .i64) (V:=.int .i64) j (if decide (k=a)=M then (k,v)::r else (a,b)::AU (K:=.int .i64) (V:=.int .i64) k v r)=if j=k then Z v else if decide (j=a)=M then Z b else mA (K:=.int .i64) (V:=.int .i64) j r
  by_cases h:k=a
  .subst h;rw[aT (be rfl)];show (if decide (j=k)=M then Z v else mA (K:=.int .i64) (V:=.int .i64) j r)=_;by_cases g:j=k<;>simp[g]
  .rw[aL (by simpa using h)];show (if decide (j=a)=M then Z b else mA (K:=.int .i64) (V:=.int .i64) j (AU (K:=.int .i64) (V:=.int .i64) k v r))=_;rw[d];by_cases g:j=a
   .subst g;rw[aT (be rfl),aL λq=>h q.symm,aT (be rfl)]
   .simp only[g,c9,bF,du]
theorem eJ {φ:PM} {O:Nat->Prop} {w:World} {v u:Value} (h:cH φ O w (.f (.raw v)) u):u=v:=by
 cases h with
 |f h=>cases h;rfl
theorem tg (h:HF) (nw:HF):eF h [] nw=h:=by funext t;simp[eF]
theorem FK:∀{l:ξ},JO l=M->∀v∈l,v.oneCell'=M
 |[],_,v,hv=>by cases hv
 |x::r,h,v,hv=>by
  simp only[JO,ak]at h;rcases bu.1 hv with rfl|hv
  .exact h.1
  .exact FK h.2 v hv
theorem Um {φ:PM} {O:Nat->Prop} {w:World} (v:Value):cH φ O w (Eg v) v:=by
 unfold Eg;split
 .rename_i vs;split
  .rename_i h1;refine cH.agg (vs:=vs.toList) (by simp) (λx d=>?_) (λj x v d hv=>?_)
   .obtain⟨u,hu,rfl⟩:=c7.1 d;exact FK h1 u hu
   .rw[bi,hv]at d;simp only[bU,af]at d;subst d;exact .f (.raw _)
  .exact .f (.raw _)
 .exact .f (.raw _)
theorem rN {φ:PM} {E:Nat->Prop} {h':HF} {w:World} {e:y_} {a:Act} {xs:Array Operand} (hrep:qO φ E h' w) (h:∀t,.tmp t∈xs->∀y,e.get t=Z y->cH φ (tot E φ h') w y (a.tmps.getD t undef)) {x:Operand} {y:AV} (q:x∈xs) (d:mI e x=Z y):cH φ (tot E φ h') w y (a.eval x):=by
 cases x with
 |tmp t=>exact h t q y d
 |const v=>simp only[mI,af]at d;subst d;exact Um v
 |func g=>
  simp only[mI,af]at d;subst d;exact cH.clo (vs:=[]) (g:=g) (cells:=[]) rfl (by intro j x v q;simp at q)
 |global g=>
  simp only[mI]at d;cases hg:G g with
  |none=>rw[hg]at d;cases d
  |some cells=>rw[hg]at d;simp only[af]at d;subst d;exact .f (hrep.gl g cells hg)
abbrev Sm (φ:PM) (E:Nat->Prop) (h':HF) (w:World) (a:Act) (e:y_) (o:Oper):Prop:=∀x y,x∈o.op.operands->mI e x=Z y->cH φ (tot E φ h') w y (a.eval x)
theorem gB.reads {P:Program} {o:Oper} {e:y_} {h:HF} {val:AV} {rd:ι} {nw:HF}
 (hv:∀(φ:PM) (E:Nat->Prop) (h':HF) (w:World) (a:Act),(∀i∈rd,h' i=h i)->Sm φ E h' w a e o->qO φ E h' w->
   ∃v,(execOp a.eval o).run P w= .ok (.value v) w/\cH φ (tot E φ h') w val v):gB P o e.get h ⟨val,rd,[],nw,[]⟩:=by
 intro φ E h' w a h1 h2 z d A;obtain⟨v,r,rel⟩:=hv φ E h' w a h1 (λx y s q=>rN d z s q) d;unfold G0;rw[r];refine ⟨v,φ,rfl,?_,λ_ _ h=>.inl h,?_,?_⟩<;>rw[tg]
 .exact iW.refl _ _ _
 .exact d
 .exact rel
theorem dv {x:AV} {R:zZ} (h:rv x=Z R):R=⟨x,[],[],[],[]⟩:=by simp only[rv,af]at h;exact h.symm
section pure
variable {P:Program} {o:Oper} {e:y_} {h:nX} {nx:Nat} {R:zZ}
theorem aj7 {x:Operand} (d:o.op= .move x\/o.op= .assign x) (q:ef (.mv x) e h nx=Z R):gB P o e.get h.get R.eff:=by
 simp only[ef]at q;split at q
 .rename_i v hv;rw[dv q];exact gB.reads λφ E h' w a _ hop _=>⟨a.eval x,by unfold execOp;rcases d with d|d<;>rw[d]<;>rfl,hop x v (by rcases d with d|d<;>rw[d]<;>simp[Op.operands]) hv⟩
 .cases q
theorem ag4 {c x y:Operand} (q:o.op= .pick c x y) (d:ef (.pick c x y) e h nx=Z R):gB P o e.get h.get R.eff:=by
 simp only[ef]at d;split at d
 .rename_i t hc;split at d
  .rename_i v hv;rw[dv d];refine gB.reads λφ E h' w a _ hop _=>?_
   have hcv:=eJ (hop c _ (by rw[q];simp[Op.operands]) hc);refine ⟨a.eval (if t then x else y),?_,hop _ v (by rw[q];cases t<;>simp[Op.operands]) hv⟩;unfold execOp;rw[q];simp only[hcv];cases t<;>rfl
  .cases d
 .cases d
theorem ag5 {x:Operand} (d:o.op= .nilCheck x) (q:ef (.nilc x) e h nx=Z R):gB P o e.get h.get R.eff:=by
 simp only[ef]at q;split at q
 .rename_i id off A;rw[dv q];refine gB.reads λφ E h' w a _ hop _=>?_
  have h1:=hop x _ (by rw[d];simp[Op.operands]) A;generalize s:a.eval x=z at h1;cases h1 with
  |ptr hφ=>exact⟨_,by unfold execOp;rw[d];simp only[s];rfl,.ptr hφ⟩
 .rename_i cells off A;rw[dv q];refine gB.reads λφ E h' w a _ hop _=>?_
  have h1:=hop x _ (by rw[d];simp[Op.operands]) A;generalize s:a.eval x=z at h1;cases h1 with
  |f h1=>
   have h2:=h1;cases h2 with
   |ptr _ _ b base us hO hb hcl hu hr=>exact⟨_,by unfold execOp;rw[d];simp only[s];rfl,.f h1⟩
 .rename_i g cap A;rw[dv q];refine gB.reads λφ E h' w a _ hop _=>?_
  have h1:=hop x _ (by rw[d];simp[Op.operands]) A;generalize s:a.eval x=z at h1;cases h1 with
  |clo hl hr=>exact⟨_,by unfold execOp;rw[d];simp only[s];rfl,.clo hl hr⟩
 .cases q
theorem aj5 {x:Operand} {t:TypeId} (q:o.op= .unOp .not t x) (d:ef (.not x) e h nx=Z R):gB P o e.get h.get R.eff:=by
 simp only[ef]at d;split at d
 .rename_i b s;rw[dv d];refine gB.reads λφ E h' w a _ hop _=>?_
  have h1:=eJ (hop x _ (by rw[q];simp[Op.operands]) s);exact⟨_,by unfold execOp;rw[q];simp only[h1];rfl,.f (.raw _)⟩
 .cases d
theorem xV (k:IntKind) (n:Int):a9 k n=k.wrap n:=by
 rw[G3];unfold LJ;split
 .split
  .rename_i h;simp only[cP,ak,bz]at h;have:oQ .i64 n=if n%18446744073709551616≥9223372036854775808 then n%18446744073709551616-18446744073709551616 else n%18446744073709551616:=by
    simp[oQ,IntKind.bits,IntKind.signed]
   rw[this];split<;>omega
  .rfl
 .split
  .rename_i h;simp only[cP,ak,bz]at h;have:oQ .u8 n=n%256:=by
    simp[oQ,IntKind.bits,IntKind.signed]
   rw[this];omega
  .rfl
 .rfl
theorem agd {x:Operand} {s d:TypeId} {k k':IntKind} (z:o.op= .convert s d x) (hs:P.underlying s=Z (.int k')) (hd:P.underlying d=Z (.int k)) (q:ef (.conv k x) e h nx=Z R):gB P o e.get h.get R.eff:=by
 simp only[ef]at q;split at q
 .rename_i D n A;rw[dv q];refine gB.reads λφ E h' w a _ hop _=>?_
  have h1:=eJ (hop x _ (by rw[z];simp[Op.operands]) A);refine ⟨_,?_,.f (.raw _)⟩;unfold execOp;rw[z];simp[h1,convert,run_underlying hs,run_underlying hd,Conv.intToInt,xV]
 .cases q
theorem Oy (a:ByteArray):a.toList=a.data.toList:=by
 first|exact ByteArray.toList_eq a|simp[ByteArray.toList]|rfl
theorem YH {op:BinOp} {t:TypeId} {u v r:Value} (hr:sY op u v=Z r) (x y:Operand) (w:World):
 (do eqGuard op t x y u v;binOp op t u v:Sem Value).run P w= .ok r w:=by
 unfold sY at hr;split at hr
 .rename_i k a k' b;split at hr
  .rename_i hk;have d:k=k':=by simpa using hk
   subst d;split at hr<;>first|(simp only[af]at hr;subst hr;simp[eqGuard,binOp,Op.intCmp,Op.intArith,xV,cP,fK];done)|(split at hr<;>first|(cases hr;done)|(rename_i hb;simp only[af]at hr;subst hr;simp[eqGuard,binOp,Op.intDiv,xV,show b≠0 from by simpa using hb];done))|(cases hr;done)
  .cases hr
 .rename_i a b;split at hr<;>first|(simp only[af]at hr;subst hr;simp[eqGuard,binOp,Op.stringOp,rQ,Oy];done)|(cases hr;done)
 .cases hr
theorem aee {s:Sem Value} {r:Value} {w w':World} (hs:s.run P w= .ok r w'):(do let x<-s;pure (Next.value x):Sem Next).run P w= .ok (.value r) w':=by
 simp[hs]
theorem aew {op:BinOp} {x y:Operand} {t t':TypeId} (q:o.op= .binOp op t x y t') (d:ef (.bin op x y) e h nx=Z R):gB P o e.get h.get R.eff:=by
 simp only[ef]at d;split at d
 .rename_i u v z s;split at d
  .rename_i r hr;rw[dv d];refine gB.reads λφ E h' w a _ hop _=>?_
   have h1:=eJ (hop x _ (by rw[q];simp[Op.operands]) z);have h2:=eJ (hop y _ (by rw[q];simp[Op.operands]) s);refine ⟨r,?_,.f (.raw _)⟩;unfold execOp;rw[q];simp only[h1,h2];exact aee (YH (P:=P) (t:=t) hr x y w)
  .cases d
 .cases d
theorem TK {t:TypeId} (hu:P.underlying t=Z .bool) (u v:Bool) (w:World):(Op.equal t (.bool u) (.bool v)).run P w= .ok (u==v) w:=by
 have key:∀d,(Op.equalIn (d+1) t (.bool u) (.bool v)).run P w= .ok (u==v) w:=λd=>by simp[Op.equalIn,run_underlying hu]
 exact key 9999
theorem Qz {t el:TypeId} (hu:P.underlying t=Z (.slice el)) (A:J Addr) (n c:Nat) (w:World):(Op.equal t (.slice A n c) (.slice U 0 0)).run P w= .ok A.isNone w:=by
 have key:∀d,(Op.equalIn (d+1) t (.slice A n c) (.slice U 0 0)).run P w= .ok A.isNone w:=λd=>by cases A<;>simp[Op.equalIn,run_underlying hu]
 exact key 9999
theorem aev {neg:Bool} {op:BinOp} {x y:Operand} {t t':TypeId} (q:o.op= .binOp op t x y t') (hop:op=if neg then .neq else .eql) (hu:P.underlying t=Z .bool) (d:ef (.eqb neg x y) e h nx=Z R):gB P o e.get h.get R.eff:=by
 simp only[ef]at d;split at d
 .rename_i u v z s;rw[dv d];refine gB.reads λφ E h' w a _ hp _=>?_
  have h1:=eJ (hp x _ (by rw[q];simp[Op.operands]) z);have h2:=eJ (hp y _ (by rw[q];simp[Op.operands]) s);refine ⟨_,?_,.f (.raw _)⟩;unfold execOp;rw[q];simp only[h1,h2];subst hop;cases neg<;>simp[eqGuard,binOp,TK hu]
 .cases d
theorem V3 {neg:Bool} {op:BinOp} {x y:Operand} {t t' el:TypeId} (D:o.op= .binOp op t x y t') (hop:op=if neg then .neq else .eql) (F:y= .const (.slice U 0 0)) (hu:P.underlying t=Z (.slice el)) (q:ef (.isnil neg x) e h nx=Z R):gB P o e.get h.get R.eff:=by
 have key:∀(v:Value) (w:World) (ρ:Operand->Value) (A:J Addr) (n c:Nat),ρ x= .slice A n c->ρ y= .slice U 0 0->(execOp ρ o).run P w= .ok (.value (.bool (A.isNone !=neg))) w:=by
  intro v w ρ A n c h1 h2;unfold execOp;rw[D];simp only[h1,h2];subst hop;cases neg<;>simp[eqGuard,binOp,Qz hu]
 have hyv:∀a:Act,a.eval y= .slice U 0 0:=λa=>by rw[F];rfl
 simp only[ef]at q;split at q
 .rename_i id sz n d;rw[dv q];refine gB.reads λφ E h' w a _ hp _=>?_
  have h1:=hp x _ (by rw[D];simp[Op.operands]) d;generalize s:a.eval x=z at h1;cases h1 with
  |row hφ hn hc hs=>exact⟨_,key (.bool M) w a.eval _ _ _ s (hyv a),by simpa[raw] using cH.f (.raw _)⟩
 .rename_i id off n d;rw[dv q];refine gB.reads λφ E h' w a _ hp _=>?_
  have h1:=hp x _ (by rw[D];simp[Op.operands]) d;generalize s:a.eval x=z at h1;cases h1 with
  |sl hφ hn hc=>exact⟨_,key (.bool M) w a.eval _ _ _ s (hyv a),by simpa[raw] using cH.f (.raw _)⟩
 .rename_i cells n d;rw[dv q];refine gB.reads λφ E h' w a _ hp _=>?_
  have h1:=hp x _ (by rw[D];simp[Op.operands]) d;generalize s:a.eval x=z at h1;cases h1 with
  |f h1=>
   cases h1 with
   |sl=>exact⟨_,key (.bool M) w a.eval _ _ _ s (hyv a),by simpa[raw] using cH.f (.raw _)⟩
 .rename_i cells d;rw[dv q];refine gB.reads λφ E h' w a _ hp _=>?_
  have h1:=hp x _ (by rw[D];simp[Op.operands]) d;generalize s:a.eval x=z at h1;cases h1 with
  |f h1=>
   cases h1 with
   |nil=>exact⟨_,key (.bool M) w a.eval _ _ _ s (hyv a),.anyb⟩
   |sl=>exact⟨_,key (.bool M) w a.eval _ _ _ s (hyv a),.anyb⟩
 .rename_i d;rw[dv q];refine gB.reads λφ E h' w a _ hp _=>?_
  have h1:=hp x _ (by rw[D];simp[Op.operands]) d;generalize s:a.eval x=z at h1;cases h1 with
  |emp=>exact⟨_,key (.bool M) w a.eval _ _ _ s (hyv a),.anyb⟩
 .rename_i v d;split at q
  .rename_i hv;rw[dv q];refine gB.reads λφ E h' w a _ hp _=>?_
   have h1:=eJ (hp x _ (by rw[D];simp[Op.operands]) d);unfold sV at hv;split at hv
   .exact⟨_,key (.bool M) w a.eval _ _ _ h1 (hyv a),by simpa[raw] using cH.f (.raw _)⟩
   .cases hv
  .cases q
 .cases q
theorem fX {t:TypeId} {sz:Nat} (hs:fc P t=Z sz) (w:World):(sizeOf t).run P w= .ok sz w:=by
 unfold fc at hs;cases hi:P.info? t with
 |none=>rw[hi]at hs;cases hs
 |some i=>rw[hi]at hs;simp at hs;simp[sizeOf,typeInfo,program,hi,ka,hs]
theorem Pj {t:TypeId} {ag:Bool} (hs:C5 P t=Z ag) (w:World):(isAgg t).run P w= .ok ag w:=by
 unfold C5 at hs;cases hi:P.underlying t with
 |none=>rw[hi]at hs;cases hs
 |some d=>
  rw[hi]at hs;simp only[bU,af]at hs;rw[<- hs];simp only[isAgg,eA,run_underlying hi,cJ];cases d<;>rfl
theorem jP (b off i:Nat):(⟨b,off,U⟩:Addr).add i=⟨b,off+i,U⟩:=by
 unfold Addr.add;split<;>simp_all
theorem Ph {s:TypeId} {fs:Array Field} {k:Nat} {f:Field} {sz:Nat} (hu:P.underlying s=Z (.struct fs)) (hf:fs[k]? =Z f) (hs:fc P f.type=Z sz) (h0:sz≠0) (w:World) (b i:Nat):
 (Instr.fieldAt s (.pointer (Z ⟨b,i,U⟩)) k).run P w= .ok (.pointer (Z ⟨b,i+f.offset,U⟩)) w:=by
 have h1:=fX hs w;simp[Instr.fieldAt,run_underlying hu,hf,Instr.sureAddr,fieldPlace,h1,h0,jP]
theorem ajf {s:TypeId} {fs:Array Field} {k:Nat} {f:Field} {sz:Nat} {x:Operand} (D:o.op= .fieldAddr s x k) (hu:P.underlying s=Z (.struct fs)) (hf:fs[k]? =Z f) (hs:fc P f.type=Z sz) (h0:sz≠0) (d:ef (.fad f.offset x) e h nx=Z R):gB P o e.get h.get R.eff:=by
 have key:∀(w:World) (ρ:Operand->Value) (b i:Nat),ρ x= .pointer (Z ⟨b,i,U⟩)->(execOp ρ o).run P w= .ok (.value (.pointer (Z ⟨b,i+f.offset,U⟩))) w:=by
  intro w ρ b i h1;unfold execOp;rw[D];simp only[h1];exact aee (Ph hu hf hs h0 w b i)
 simp only[ef]at d;split at d
 .rename_i id off A;rw[dv d];refine gB.reads λφ E h' w a _ hp _=>?_
  have h1:=hp x _ (by rw[D];simp[Op.operands]) A;generalize q:a.eval x=z at h1;cases h1 with
  |ptr hφ=>exact⟨_,key w a.eval _ _ q,.ptr hφ⟩
 .rename_i cells off A;rw[dv d];refine gB.reads λφ E h' w a _ hp _=>?_
  have h1:=hp x _ (by rw[D];simp[Op.operands]) A;generalize q:a.eval x=z at h1;cases h1 with
  |f h1=>
   cases h1 with
   |ptr _ _ b base us hO hb hcl hu hr=>
    refine ⟨_,key w a.eval _ _ q,.f ?_⟩;rw[v_];exact .ptr cells _ b base us hO hb hcl hu hr
 .cases d
theorem IR {t el:TypeId} {x y:Operand} {sz b off n c:Nat} {k:IntKind} {i:Int} {ρ:Operand->Value} {w:World} (s:o.op= .indexAddr t x y) (hu:P.underlying t=Z (.slice el)) (hs:fc P el=Z sz) (q:ρ x= .slice (Z ⟨b,off,U⟩) n c) (d:ρ y= .int k i) (h0:0<=i) (h1:i<n):
 (execOp ρ o).run P w= .ok (.value (.pointer (Z ⟨b,off+i.toNat*sz,U⟩))) w:=by
 have h2:=fX hs w;unfold execOp;rw[s];simp[q,d,Instr.indexAt,asIntOf,run_underlying hu,h2,h0,h1,jP]
theorem ajd {t el:TypeId} {x y:Operand} {sz:Nat} (q:o.op= .indexAddr t x y) (hu:P.underlying t=Z (.slice el)) (hs:fc P el=Z sz) (d:ef (.iad sz x y) e h nx=Z R):gB P o e.get h.get R.eff:=by
 simp only[ef]at d;split at d
 .rename_i v k j D L;have hyv:∀{φ:PM} {E:Nat->Prop} {h':HF} {w:World} {a:Act},Sm φ E h' w a e o->a.eval y= .int k j:=λhp=>eJ (hp y _ (by rw[q];simp[Op.operands]) L)
  split at d
  .split at d
   .rename_i id sz' n hc;simp only[cP,fK,ak,bz,cR]at hc;obtain⟨⟨rfl,h0⟩,h1⟩:=hc;rw[dv d];refine gB.reads λφ E h' w a _ hp _=>?_
    have hr:=hp x _ (by rw[q];simp[Op.operands]) D;generalize s:a.eval x=z at hr;cases hr with
    |row hφ hn A hsh=>
     refine ⟨_,IR q hu hs s (hyv hp) h0 h1,?_⟩;rw[bL];exact .ptr hφ
   .cases d
  .split at d
   .rename_i id off n hc;simp only[cP,fK,ak,bz]at hc;obtain⟨h0,h1⟩:=hc;rw[dv d];refine gB.reads λφ E h' w a _ hp _=>?_
    have hr:=hp x _ (by rw[q];simp[Op.operands]) D;generalize s:a.eval x=z at hr;cases hr with
    |sl hφ hn A=>exact⟨_,IR q hu hs s (hyv hp) h0 h1,.ptr hφ⟩
   .cases d
  .split at d
   .rename_i cells n hc;simp only[cP,fK,ak,bz]at hc;obtain⟨h0,h1⟩:=hc;rw[dv d];refine gB.reads λφ E h' w a _ hp _=>?_
    have hr:=hp x _ (by rw[q];simp[Op.operands]) D;generalize s:a.eval x=z at hr;cases hr with
    |f hr=>
     cases hr with
     |nil=>omega
     |sl _ _ c b base us hn A hO hb hcl F I=>exact⟨_,IR q hu hs s (hyv hp) h0 h1,.f (.ptr cells _ b base us hO hb hcl F I)⟩
   .cases d
  .cases d
 .cases d
theorem agb {t el:TypeId} {x y:Operand} {n sz:Nat} (q:o.op= .indexAddr t x y) (hu:P.underlying t=Z (.array n el)) (hs:fc P el=Z sz) (d:ef (.iada n sz x y) e h nx=Z R):gB P o e.get h.get R.eff:=by
 have key:∀(w:World) (ρ:Operand->Value) (b off:Nat) (k:IntKind) (i:Int),ρ x= .pointer (Z ⟨b,off,U⟩)->ρ y= .int k i->0<=i->i<n->(execOp ρ o).run P w= .ok (.value (.pointer (Z ⟨b,off+i.toNat*sz,U⟩))) w:=by
  intro w ρ b off k i h1 h2 h3 h4;have L:=fX hs w;unfold execOp;rw[q];simp[h1,h2,Instr.indexAt,asIntOf,run_underlying hu,L,h3,h4,jP,Instr.sureAddr]
 simp only[ef]at d;split at d
 .rename_i v k j I F;split at d
  .rename_i hc;simp only[cP,fK,ak,bz]at hc;obtain⟨h0,h1⟩:=hc;split at d
   .rw[dv d];refine gB.reads λφ E h' w a _ hp _=>?_
    have hr:=hp x _ (by rw[q];simp[Op.operands]) I;have hyv:=eJ (hp y _ (by rw[q];simp[Op.operands]) F);generalize s:a.eval x=z at hr;cases hr with
    |ptr hφ=>exact⟨_,key w a.eval _ _ k j s hyv h0 h1,.ptr hφ⟩
   .rw[dv d];refine gB.reads λφ E h' w a _ hp _=>?_
    have hr:=hp x _ (by rw[q];simp[Op.operands]) I;have hyv:=eJ (hp y _ (by rw[q];simp[Op.operands]) F);generalize s:a.eval x=z at hr;cases hr with
    |f hr=>
     cases hr with
     |ptr _ _ b base us hO hb hcl A D=>
      refine ⟨_,key w a.eval _ _ k j s hyv h0 h1,.f ?_⟩;rw[v_];exact .ptr _ _ b base us hO hb hcl A D
   .cases d
  .cases d
 .cases d
theorem ajg {x:Operand} {i:Nat} (q:o.op= .extract x i) (d:ef (.ext x i) e h nx=Z R):gB P o e.get h.get R.eff:=by
 simp only[ef]at d;split at d
 .rename_i l A;split at d
  .rename_i v hv;rw[dv d];refine gB.reads λφ E h' w a _ hp _=>?_
   have hr:=hp x _ (by rw[q];simp[Op.operands]) A;generalize s:a.eval x=z at hr;cases hr with
   |@tup _ vs hl hrr=>
    have hlt:i<vs.length:=by
     rw[hl];exact (bm.1 hv).1
    refine ⟨vs[i],?_,hrr i v _ hv (ax hlt)⟩;unfold execOp;rw[q];simp[s,Instr.extract,hlt]
  .cases d
 .cases d
theorem ajb {x y:Operand} {s:Array TypeId} (q:o.op= .call {callee:=.builtin .max,args:=#[x,y],argTypes:=s}) (d:ef (.max x y) e h nx=Z R):gB P o e.get h.get R.eff:=by
 simp only[ef]at d;split at d
 .rename_i k a b k' A z;rw[dv d];refine gB.reads λφ E h' w a _ hp _=>?_
  have h1:=eJ (hp x _ (by rw[q];simp[Op.operands,dO]) A);have h2:=eJ (hp y _ (by rw[q];simp[Op.operands,dO]) z);refine ⟨_,?_,.f (.raw _)⟩;unfold execOp;rw[q];simp[resolve,invoke,builtin,Builtin.max_,Builtin.max2,h1,h2,fK]
 .cases d
theorem aja {x y:Operand} {s:Array TypeId} (q:o.op= .call {callee:=.builtin .min,args:=#[x,y],argTypes:=s}) (d:ef (.min x y) e h nx=Z R):gB P o e.get h.get R.eff:=by
 simp only[ef]at d;split at d
 .rename_i k a b k' A z;rw[dv d];refine gB.reads λφ E h' w a _ hp _=>?_
  have h1:=eJ (hp x _ (by rw[q];simp[Op.operands,dO]) A);have h2:=eJ (hp y _ (by rw[q];simp[Op.operands,dO]) z);refine ⟨_,?_,.f (.raw _)⟩;unfold execOp;rw[q];simp[resolve,invoke,builtin,Builtin.min_,Builtin.min2,h1,h2,fK]
 .cases d
theorem aj6 {x:Operand} {t:TypeId} {k:IntKind} (q:o.op= .unOp .neg t x) (d:ef (.bin .sub (.const (.int k 0)) x) e h nx=Z R):gB P o e.get h.get R.eff:=by
 simp only[ef,mI,Eg]at d;split at d
 .rename_i u v hu s;cases hu;split at d
  .rename_i r hb;rw[dv d];refine gB.reads λφ E h' w a _ hop _=>?_
   have h1:=eJ (hop x _ (by rw[q];simp[Op.operands]) s);refine ⟨r,?_,.f (.raw _)⟩;unfold execOp;rw[q];cases v<;>simp only[sY]at hb<;>try (cases hb;done)
   split at hb
   .rename_i hk;have hk:=eq_of_beq hk;subst hk;simp only[af]at hb;subst hb;simp[h1,Op.unary,Op.intArith,xV]
   .cases hb
  .cases d
 .cases d
theorem ag3 {x i:Operand} {t:TypeId} (q:o.op= .index t x i) (hu:P.underlying t=Z .string) (d:ef (.sidx x i) e h nx=Z R):gB P o e.get h.get R.eff:=by
 simp only[ef]at d;split at d
 .rename_i s k j z hi;split at d
  .rename_i h0;simp only[cP,bz]at h0;split at d
   .rename_i b hb;rw[dv d];refine gB.reads λφ E h' w a _ hop _=>?_
    have h1:=eJ (hop x _ (by rw[q];simp[Op.operands]) z);have h2:=eJ (hop i _ (by rw[q];simp[Op.operands]) hi);refine ⟨_,?_,.f (.raw _)⟩;have hs:s[j.toNat]? =Z b:=by
     rw[cq]at hb;obtain⟨hl,he⟩:=ct.1 hb;exact getElem?_pos s j.toNat hl▸iX Z he
    unfold execOp;rw[q];simp[Instr.index,run_underlying hu,h1,h2,asIntOf,h0,hs]
   .cases d
  .cases d
 .cases d
theorem aj9 {f:FuncId} {caps:Array Operand} (D:o.op= .makeFunc (.func f) #[] caps) (s:ef (.mkf f caps.toList) e h nx=Z R):gB P o e.get h.get R.eff:=by
 simp only[ef]at s;split at s
 .rename_i l hl;rw[dv s];refine gB.reads λφ E h' w a _ hp _=>?_
  refine ⟨_,by unfold execOp;rw[D];rfl,?_⟩;have key:∀(xs:Y Operand) (d:Y AV),(∀x∈xs,x∈o.op.operands)->Vw e xs=Z d->d.length=xs.length/\∀(j:Nat) x v,d[j]? =Z x->(xs.map a.eval)[j]? =Z v->cH φ (tot E φ h') w x v:=by
   intro xs;induction xs with
   |nil=>intro d _ h;simp only[Vw,af]at h;subst h;exact⟨rfl,λj x v q=>by simp at q⟩
   |cons x xs F=>
    intro d hm h;simp only[Vw]at h;split at h
    .rename_i y I;split at h
     .rename_i ys' hys;simp only[af]at h;subst h;obtain⟨h1,h2⟩:=F ys' (λx q=>hm x (dk _ q)) hys;refine ⟨by simp[h1],λj z v A hv=>?_⟩;cases j with
      |zero=>simp at A hv;subst A;subst hv;exact hp x _ (hm x (eo ..)) I
      |succ j=>exact h2 j z v (by simpa using A) (by simpa using hv)
     .cases h
    .cases h
  obtain⟨h1,h2⟩:=key caps.toList l (λx q=>by rw[D];simpa[Op.operands] using q) hl;have h3:(caps.map a.eval)=(caps.toList.map a.eval).toArray:=by
   apply Kl;simp
  have L:(#[]:Array Operand).map a.eval=#[]:=by simp
  rw[L,h3];exact .clo (by simp[h1]) h2
 .cases s
end pure
section
variable {P:Program} {o:Oper} {e:y_} {h:nX} {nx:Nat} {R:zZ}
theorem U1 {α:Type} {l cs:Y α} {off sz:Nat} (h:off+sz<=l.length) (he:(l.drop off).take sz=cs):cs.length=sz/\∀(j:Nat) x,cs[j]? =Z x->l[off+j]? =Z x:=by
 subst he;constructor
 .simp;omega
 .intro j x d;rw[cA]at d;split at d
  .rw[gP]at d;exact d
  .cases d
theorem wH (f:Nat->Value) (n j:Nat) (v:Value) (h:((fm n).map f)[j]? =Z v):v=f j/\j<n:=by
 rw[bi]at h;rcases bM j n with hj|hj
 .rw[vg hj]at h;simp at h;exact⟨h.symm,hj⟩
 .rw[bJ (by simpa using hj)]at h;cases h
def xc (φ:PM) (O:Nat->Prop) (w:World) (c:BC) (f:Nat->J Value):Prop:=∀j x,c.get j=Z x->x.isCell=M/\∃v,f j=Z v/\cH φ O w x v
theorem U0 {φ:PM} {O:Nat->Prop} {w:World} {c:BC} {off sz:Nat} {ag:Bool} {val:AV} (hs:c.sub? off sz ag=Z val) {f:Nat->J Value} (hc:xc φ O w c f):
 ∃cs:ξ,cs.length=sz/\(∀(j:Nat) v,cs[j]? =Z v->f (off+j)=Z v)/\(ag=aa->sz=1)/\cH φ O w val (if ag then .agg cs.toArray else cs.getD 0 undef):=by
 cases ag with
 |false=>
  simp only[BC.sub?]at hs;split at hs
  .obtain⟨h0,v,h1,h2⟩:=hc off val hs;exact⟨[v],rfl,λj u hu=>by cases j with|zero=>simp at hu;subst hu;exact h1|succ j=>simp at hu,λ_=>rfl,by simpa using h2⟩
  .cases hs
 |true=>
  have fin:∀(g:Nat->J AV),(∀j,j<sz->∃x,g j=Z x/\c.get (off+j)=Z x)->
   ∃cs:ξ,cs.length=sz/\(∀(j:Nat) v,cs[j]? =Z v->f (off+j)=Z v)/\∀(j:Nat) x v,g j=Z x->cs[j]? =Z v->cH φ O w x v:=by
   intro g hg;refine ⟨(fm sz).map λj=>(f (off+j)).getD undef,by simp,λj v hv=>?_,λj x v d hv=>?_⟩
   .obtain⟨rfl,hj⟩:=wH _ _ _ _ hv;obtain⟨x,_,h2⟩:=hg j hj;obtain⟨_,v,q,_⟩:=hc _ _ h2;rw[q];rfl
   .obtain⟨rfl,hj⟩:=wH _ _ _ _ hv;obtain⟨z,h1,h2⟩:=hg j hj;rw[d]at h1;cases h1;obtain⟨_,v,q,s⟩:=hc _ _ h2;rw[q];exact s
  simp only[BC.sub?]at hs;split at hs
  .rename_i l;split at hs
   .rename_i hle;simp only[af]at hs;subst hs;obtain⟨hl,hg⟩:=U1 (a_ hle) (rfl:(l.drop off).take sz=_);obtain⟨cs,h1,h2,q⟩:=fin (λj=>(((l.drop off).take sz)[j]?).map AV.f) (λj hj=>by
     have hlt:j<((l.drop off).take sz).length:=by rw[hl];exact hj
     refine ⟨.f ((l.drop off).take sz)[j],by simp only[ax hlt,bU],?_⟩;simp only[BC.get,hg j _ (ax hlt),bU])
    refine ⟨cs,h1,h2,(λh=>by cases h),.f (.agg _ _ (by rw[h1,hl]) ?_ ?_)⟩
    .intro x d;obtain⟨j,hj⟩:=eW d;exact (hc (off+j) (.f x) (by simp only[BC.get,hg j x hj,bU])).1
    .intro j x v d hv;have:=q j (.f x) v (by simp only[d,bU]) hv;cases this with
     |f h=>exact h
   .cases hs
  .rename_i l;split at hs
   .rename_i hle;simp only[af]at hs;subst hs;obtain⟨hl,hg⟩:=U1 (a_ hle) (rfl:(l.drop off).take sz=_);obtain⟨cs,h1,h2,q⟩:=fin (λj=>(((l.drop off).take sz)[j]?)) (λj hj=>by
     have hlt:j<((l.drop off).take sz).length:=by rw[hl];exact hj
     exact⟨_,ax hlt,hg j _ (ax hlt)⟩)
    refine ⟨cs,h1,h2,(λh=>by cases h),.agg (by rw[h1,hl]) ?_ ?_⟩
    .intro x d;obtain⟨j,hj⟩:=eW d;exact (hc (off+j) x (hg j x hj)).1
    .intro j x v d hv;exact q j x v d hv
   .cases hs
  .cases hs
theorem Nh {t:TypeId} {sz:Nat} {ag:Bool} (hs:fc P t=Z sz) (d:C5 P t=Z ag) (w:World) (b off:Nat) (cs:ξ) (hl:cs.length=sz) (hc:∀(j:Nat) v,cs[j]? =Z v->w.cell? ⟨b,off+j,U⟩=Z v) (h1:ag=aa->sz=1):
 (loadVar t ⟨b,off,U⟩).run P w= .ok (if ag then .agg cs.toArray else cs.getD 0 undef) w:=by
 unfold loadVar;simp only[eA,Pj d w,cJ];cases ag with
 |true=>
  simp only[bE,eA,fX hs w,cJ];rw[<- hl,run_loadCells_list (P:=P) w ⟨b,off,U⟩ cs (λj v hv=>by rw[jP];exact hc j v hv)];rfl
 |false=>
  have h1:=h1 rfl;cases cs with
  |nil=>simp at hl;omega
  |cons v r=>
   have:=hc 0 v rfl;simp only[dh]at this;simp[load,ka,this]
theorem Ia {φ:PM} {O:Nat->Prop} {w:World} {t:TypeId} {sz:Nat} {ag:Bool} (hs:fc P t=Z sz) (d:C5 P t=Z ag) {c:BC} {b base off:Nat} {val:AV} (hv:c.sub? off sz ag=Z val)
 (hc:xc φ O w c λj=>w.cell? ⟨b,base+j,U⟩):∃v,(loadVar t ⟨b,base+off,U⟩).run P w= .ok v w/\cH φ O w val v:=by
 obtain⟨cs,h1,h2,s,q⟩:=U0 hv hc;exact⟨_,Nh hs d w b (base+off) cs h1 (λj v hj=>by rw[v_];exact h2 j v hj) s,q⟩
theorem Rz {φ:PM} {E:Nat->Prop} {h':HF} {w:World} (hrep:qO φ E h' w) {id k:Nat} {b:u_} (hb:h' id=Z b) (hk:φ id=Z k) (hc:b.c.isCells=M):xc φ (tot E φ h') w b.c λj=>w.cell? ⟨k,0+j,U⟩:=by
 obtain⟨k',h1,_,h2⟩:=hrep.at_ id b hb;rw[hk]at h1;cases h1;obtain⟨arr,s,F,q⟩:=h2.cells hc;intro j x d;obtain⟨D,v,A,z⟩:=q j x d;exact⟨D,v,by simp[M0,s,A],z⟩
theorem Uv {φ:PM} {O:Nat->Prop} {w:World} {cells:Y FV} {b base:Nat} {us:Nat->Value} (hcl:∀x∈cells,x.isCell=M) (hu:∀j,j<cells.length->w.cell? ⟨b,base+j,U⟩=Z (us j)) (hr:∀(j:Nat) x,cells[j]? =Z x->mw O w x (us j)):
 xc φ O w (.fz cells) λj=>w.cell? ⟨b,base+j,U⟩:=by
 intro j y d;simp only[BC.get]at d;cases hc:cells[j]? with
 |none=>rw[hc]at d;cases d
 |some q=>
  rw[hc]at d;simp at d;subst d;have hj:j<cells.length:=(bm.1 hc).1;exact⟨hcl q (bh hc),us j,hu j hj,.f (hr j q hc)⟩
theorem O4 {c:BC} {off sz:Nat} {ag:Bool} {v:AV} (h:c.sub? off sz ag=Z v):c.isCells=M:=by
 cases c with
 |fz=>rfl
 |mx=>rfl
 |mp es=>cases ag<;>simp only[BC.sub?,BC.get]at h<;>(try split at h)<;>cases h
 |it s p=>cases ag<;>simp only[BC.sub?,BC.get]at h<;>(try split at h)<;>cases h
theorem RG {t:TypeId} {sz:Nat} {ag:Bool} (hs:fc P t=Z sz) (hag:C5 P t=Z ag) {p:AV} (d:C4 h sz ag p=Z R):
 R.wr=[]/\R.nw=[]/\R.N=[]/\∀(φ:PM) (E:Nat->Prop) (h':HF) (w:World) (pv:Value),(∀i∈R.rd,h' i=h.get i)->qO φ E h' w->cH φ (tot E φ h') w p pv->
  ∃q v,pv= .pointer (Z q)/\(loadVar t q).run P w= .ok v w/\cH φ (tot E φ h') w R.val v:=by
 unfold C4 at d;split at d
 .rename_i id off;split at d
  .rename_i b hb;split at d
   .rename_i v hv;simp only[af]at d;subst d;refine ⟨rfl,rfl,rfl,λφ E h' w pv hrd hrep hr=>?_⟩;have hh:h' id=Z b:=by rw[hrd id (by simp)];exact hb
    cases hr with
    |@ptr _ _ k hφ=>
     obtain⟨u,h1,h2⟩:=Ia hs hag (w:=w) (b:=k) (base:=0) hv (Rz hrep hh hφ (O4 hv));rw[bL]at h1;exact⟨_,u,rfl,h1,h2⟩
   .cases d
  .cases d
 .rename_i cells off;split at d
  .rename_i v hv;rw[dv d];refine ⟨rfl,rfl,rfl,λφ E h' w pv hrd hrep hr=>?_⟩;cases hr with
   |f hr=>
    cases hr with
    |ptr _ _ b base us hO hb hcl hu hr=>
     obtain⟨u,h1,h2⟩:=Ia (φ:=φ) (O:=tot E φ h') hs hag (w:=w) (b:=b) (base:=base) hv (Uv hcl hu hr);exact⟨_,u,rfl,h1,h2⟩
  .cases d
 .cases d
theorem ag7 {t:TypeId} {x:Operand} {sz:Nat} {ag:Bool} (q:o.op= .load t x) (hs:fc P t=Z sz) (hag:C5 P t=Z ag) (d:ef (.load sz ag x) e h nx=Z R):gB P o e.get h.get R.eff:=by
 simp only[ef]at d;split at d
 .rename_i p A;obtain⟨h1,h2,z,s⟩:=RG hs hag d;obtain⟨val,rd,wr,nw,N⟩:=R;simp only at h1 h2 z s;subst h1;subst h2;subst z;refine gB.reads λφ E h' w a hrd hp hrep=>?_
  obtain⟨L,v,I,F,D⟩:=s φ E h' w _ hrd hrep (hp x _ (by rw[q];simp[Op.operands]) A);refine ⟨v,?_,D⟩;unfold execOp;rw[q];simp[Instr.loadAt,I,Instr.sureAddr,F]
 .cases d
theorem Vb {φ:PM} {O:Nat->Prop} {w:World} {t:TypeId} {sz:Nat} {ag:Bool} (hs:fc P t=Z sz) (hag:C5 P t=Z ag) {c:BC} {off:Nat} {val:AV} (hv:c.sub? off sz ag=Z val) {vs:ξ}
 (hc:xc φ O w c λj=>vs[j]?):∃v,(part t vs.toArray off).run P w= .ok v w/\cH φ O w val v:=by
 obtain⟨cs,h1,h2,q,d⟩:=U0 hv hc;refine ⟨_,?_,d⟩;unfold part;simp only[eA,Pj hag w,cJ];cases ag with
 |true=>
  simp only[bE,eA,fX hs w,cJ];have:vs.toArray.extract off (off+sz)=cs.toArray:=by
   apply Kl;simp only[Array.toList_extract,List.extract_eq_take_drop];apply List.ext_getElem?;intro j;rw[show off+sz-off=sz from by omega,cA,gP];rcases bM j sz with hj|hj
   .rw[aT hj];have:=h2 j _ (ax (by omega:j<cs.length));rw[this,ax (by omega:j<cs.length)]
   .rw[aL (by omega),bJ (by omega)]
  rw[this];rfl
 |false=>
  have s:=q rfl;cases cs with
  |nil=>simp at h1;omega
  |cons v r=>
   have:=h2 0 v rfl;simp only[dh]at this;simp[this]
theorem RA {φ:PM} {O:Nat->Prop} {w:World} {l:Y AV} {vs:ξ} (hl:vs.length=l.length) (hcl:∀x∈l,x.isCell=M) (hr:∀(j:Nat) x v,l[j]? =Z x->vs[j]? =Z v->cH φ O w x v):xc φ O w (.mx l) λj=>vs[j]? :=by
 intro j x d;simp only[BC.get]at d;have hj:j<vs.length:=by rw[hl];exact (bm.1 d).1
 exact⟨hcl x (bh d),vs[j],ax hj,hr j x _ d (ax hj)⟩
theorem Ov {φ:PM} {O:Nat->Prop} {w:World} {l:Y FV} {vs:ξ} (hl:vs.length=l.length) (hcl:∀x∈l,x.isCell=M) (hr:∀(j:Nat) x v,l[j]? =Z x->vs[j]? =Z v->mw O w x v):xc φ O w (.fz l) λj=>vs[j]? :=by
 intro j x d;simp only[BC.get]at d;cases hc:l[j]? with
 |none=>rw[hc]at d;cases d
 |some q=>
  rw[hc]at d;simp at d;subst d;have hj:j<vs.length:=by rw[hl];exact (bm.1 hc).1
  exact⟨hcl q (bh hc),vs[j],ax hj,.f (hr j q _ hc (ax hj))⟩
theorem J0 {φ:PM} {O:Nat->Prop} {w:World} {t:TypeId} {sz:Nat} {ag:Bool} (hs:fc P t=Z sz) (hag:C5 P t=Z ag) {x:AV} {z:Value} (hr:cH φ O w x z) {off:Nat} {val:AV}
 (hv:(∃l,x= .agg l/\(BC.mx l).sub? off sz ag=Z val)\/(∃l,x= .f (.agg l)/\(BC.fz l).sub? off sz ag=Z val)):∃cs v,z= .agg cs/\(part t cs off).run P w= .ok v w/\cH φ O w val v:=by
 rcases hv with ⟨l,rfl,hv⟩|⟨l,rfl,hv⟩
 .cases hr with
  |agg hl hcl hr=>
   obtain⟨v,h1,h2⟩:=Vb hs hag hv (RA hl hcl hr);exact⟨_,v,rfl,h1,h2⟩
 .cases hr with
  |f hr=>
   cases hr with
   |agg _ vs hl hcl hr=>
    obtain⟨v,h1,h2⟩:=Vb (φ:=φ) hs hag hv (Ov hl hcl hr);exact⟨_,v,rfl,h1,h2⟩
theorem aje {s:TypeId} {fs:Array Field} {k:Nat} {f:Field} {sz:Nat} {ag:Bool} {x:Operand} (z:o.op= .field s x k) (hu:P.underlying s=Z (.struct fs)) (hf:fs[k]? =Z f) (hs:fc P f.type=Z sz) (hag:C5 P f.type=Z ag) (d:ef (.fld f.offset sz ag x) e h nx=Z R):gB P o e.get h.get R.eff:=by
 have fin:∀(y:AV) (val:AV),mI e x=Z y->((∃l,y= .agg l/\(BC.mx l).sub? f.offset sz ag=Z val)\/(∃l,y= .f (.agg l)/\(BC.fz l).sub? f.offset sz ag=Z val))->rv val=Z R->gB P o e.get h.get R.eff:=by
  intro y val q hv A;rw[dv A];refine gB.reads λφ E h' w a _ hp _=>?_
  obtain⟨cs,v,h1,h2,D⟩:=J0 hs hag (hp x _ (by rw[z];simp[Op.operands]) q) hv;refine ⟨v,?_,D⟩;unfold execOp;rw[z];simp[Instr.field,run_underlying hu,hf,h1,asAgg,h2]
 simp only[ef]at d;split at d
 .rename_i l q;split at d
  .rename_i v hv;exact fin _ v q (.inl ⟨l,rfl,hv⟩) d
  .cases d
 .rename_i l q;split at d
  .rename_i v hv;exact fin _ v q (.inr ⟨l,rfl,hv⟩) d
  .cases d
 .cases d
theorem ajc {t el:TypeId} {n sz:Nat} {ag:Bool} {x y:Operand} (q:o.op= .index t x y) (hu:P.underlying t=Z (.array n el)) (hs:fc P el=Z sz) (hag:C5 P el=Z ag) (d:ef (.idx n sz ag x y) e h nx=Z R):gB P o e.get h.get R.eff:=by
 simp only[ef]at d;split at d
 .rename_i v0 k j z s;split at d
  .rename_i hc;simp only[cP,fK,ak,bz]at hc;obtain⟨h0,h1⟩:=hc;have fin:∀(val:AV),((∃l,v0= .agg l/\(BC.mx l).sub? (j.toNat*sz) sz ag=Z val)\/(∃l,v0= .f (.agg l)/\(BC.fz l).sub? (j.toNat*sz) sz ag=Z val))->rv val=Z R->gB P o e.get h.get R.eff:=by
    intro val hv A;rw[dv A];refine gB.reads λφ E h' w a _ hp _=>?_
    have hyv:=eJ (hp y _ (by rw[q];simp[Op.operands]) s);obtain⟨cs,v,L,I,F⟩:=J0 hs hag (hp x _ (by rw[q];simp[Op.operands]) z) hv;refine ⟨v,?_,F⟩;have D:=fX hs w;unfold execOp;rw[q];simp[Instr.index,run_underlying hu,hyv,asIntOf,L,h0,h1,D,I]
   split at d
   .rename_i l;split at d
    .rename_i v hv;exact fin v (.inl ⟨l,rfl,hv⟩) d
    .cases d
   .rename_i l;split at d
    .rename_i v hv;exact fin v (.inr ⟨l,rfl,hv⟩) d
    .cases d
   .cases d
  .cases d
 .cases d
theorem aga {t el:TypeId} {x:Operand} (s:o.op= .call {callee:=.builtin .len,args:=#[x],argTypes:=#[t]}) (hu:P.underlying t=Z (.slice el)) (d:ef (.len x) e h nx=Z R):gB P o e.get h.get R.eff:=by
 simp only[ef]at d;split at d
 .rename_i y D;split at d
  .rename_i n hn;rw[dv d];refine gB.reads λφ E h' w a _ hp _=>?_
   have hr:=hp x _ (by rw[s];simp[Op.operands,dO]) D;refine ⟨_,?_,.f (.raw _)⟩;have q:∃A c,a.eval x= .slice A n c:=by
    generalize a.eval x=z at hr;unfold AV.slen at hn;split at hn<;>try (simp only[af]at hn;subst hn)
    .cases hr with
     |f hr=>cases hr with
      |nil=>exact⟨_,_,rfl⟩
      |sl=>exact⟨_,_,rfl⟩
    .cases eJ hr;exact⟨_,_,rfl⟩
    .cases hr;exact⟨_,_,rfl⟩
    .cases hr;exact⟨_,_,rfl⟩
    .cases hr;exact⟨_,_,rfl⟩
    .cases hn
   obtain⟨A,c,q⟩:=q;unfold execOp;rw[s];simp[resolve,invoke,builtin,Builtin.len_,run_underlying hu,q,goInt]
  .cases d
 .cases d
theorem ag9 {t:TypeId} {x:Operand} (q:o.op= .call {callee:=.builtin .len,args:=#[x],argTypes:=#[t]}) (hu:P.underlying t=Z .string) (d:ef (.lens x) e h nx=Z R):gB P o e.get h.get R.eff:=by
 simp only[ef]at d;split at d
 .rename_i s z;rw[dv d];refine gB.reads λφ E h' w a _ hp _=>?_
  have hr:=eJ (hp x _ (by rw[q];simp[Op.operands,dO]) z);refine ⟨_,?_,.f (.raw _)⟩;unfold execOp;rw[q];simp[resolve,invoke,builtin,Builtin.len_,run_underlying hu,hr,goInt]
 .cases d
theorem ag8 {t k v:TypeId} {x:Operand} (s:o.op= .call {callee:=.builtin .len,args:=#[x],argTypes:=#[t]}) (hu:P.underlying t=Z (.map k v)) (d:ef (.lenm x) e h nx=Z R):gB P o e.get h.get R.eff:=by
 simp only[ef]at d;split at d
 .rename_i id D;split at d
  .rename_i es hid;simp only[af]at d;subst d;refine gB.reads λφ E h' w a hrd hp hrep=>?_
   have hr:=hp x _ (by rw[s];simp[Op.operands,dO]) D;have hh:h' id=Z ⟨0,.mp es⟩:=by rw[hrd id (by simp)];exact hid
   generalize A:a.eval x=z at hr;cases hr with
   |@mp _ b hφ=>
    obtain⟨b',h1,_,ob,h2,I⟩:=hrep.at_ id _ hh;rw[hφ]at h1;cases h1;obtain⟨ents,clock,rfl,q,_⟩:=I;have F:ents.size=es.length:=by have q:ents.toList.map (·.key)=es.map (·.1):=q;have:=iX ah q;simpa using this
    refine ⟨_,?_,.f (.raw _)⟩;unfold execOp;rw[s];simp[resolve,invoke,builtin,Builtin.len_,run_underlying hu,A,goInt,getObj,ka,h2,F]
  .cases d
 .cases d
end
structure Es (w w':World) (k:Nat) (ob:Obj):Prop where
 os:w'.os=w.os
 tape:w'.tape=w.tape
 output:w'.output=w.output
 size:w'.heap.size=w.heap.size
 at_:w'.heap[k]? =Z ob
 other:∀j,j≠k->w'.heap[j]? =w.heap[j]?
 shp:∀j,w'.shape? j=w.shape? j
structure RM (w w':World) (ob:Obj):Prop where
 os:w'.os=w.os
 tape:w'.tape=w.tape
 output:w'.output=w.output
 size:w'.heap.size=w.heap.size+1
 at_:w'.heap[w.heap.size]? =Z ob
 other:∀j,j<w.heap.size->w'.heap[j]? =w.heap[j]?
theorem qO.wset {φ:PM} {E:Nat->Prop} {h:HF} {w w':World} (r:qO φ E h w) {id k:Nat} {b b':u_} {ob:Obj} (hb:h id=Z b) (hk:φ id=Z k) (d:Es w w' k ob) (hob:iV φ (tot E φ h) w b' ob) (nw:HF) (hnw:nw id=Z b'):
 iW φ φ h (eF h [id] nw) w w'/\qO φ E (eF h [id] nw) w':=by
 have hdom:∀i,(∃x,eF h [id] nw i=Z x)↔∃x,h i=Z x:=λi=>by
  unfold eF;by_cases hi:i=id
  .subst hi;simp[hnw,hb]
  .simp[hi]
 have hown:∀j,own φ (eF h [id] nw) j↔own φ h j:=λj=>by
  constructor
  .rintro⟨i,x,h1,h2⟩;obtain⟨y,s⟩:=(hdom i).1 ⟨x,h1⟩;exact⟨i,y,s,h2⟩
  .rintro⟨i,x,h1,h2⟩;obtain⟨y,s⟩:=(hdom i).2 ⟨x,h1⟩;exact⟨i,y,s,h2⟩
 have m:iW φ φ h (eF h [id] nw) w w':=by
  refine ⟨λ_ _ h=>h,⟨d.os,d.tape,d.output,by rw[d.size];exact cF _,λj hj L=>?_,λj _=>d.shp j⟩,λj _ h=>(hown j).1 h⟩;exact d.other j (λe=>L (e▸⟨id,b,hb,hk⟩))
 refine ⟨m,⟨λi j x y I hi hj h1 h2=>?_,λi x hi=>?_,λk hk=>dz (r.el k hk) m.ext.size,λg cells hg=>m.keepF (r.gl g cells hg)⟩⟩
 .obtain⟨F,z⟩:=(hdom i).1 ⟨x,hi⟩;obtain⟨D,q⟩:=(hdom j).1 ⟨y,hj⟩;exact r.inj i j F D I z q h1 h2
 .by_cases hid:i=id
  .subst hid;have:x=b':=by unfold eF at hi;simp[hnw]at hi;exact hi.symm
   subst this;obtain⟨k',h1,h2,_⟩:=r.at_ i b hb;rw[hk]at h1;cases h1;exact⟨k,hk,h2,ob,d.at_,hob.mono λ_ _ h=>m.keep h⟩
  .have A:h i=Z x:=by unfold eF at hi;simpa[hid] using hi
   obtain⟨k',h1,h2,ob',h3,h4⟩:=r.at_ i x A;have hne:k'≠k:=λe=>hid (r.inj i id x b k A hb (e▸h1) hk)
   exact⟨k',h1,h2,ob',by rw[d.other k' hne];exact h3,h4.mono λ_ _ h=>m.keep h⟩
theorem qO.wnew {φ:PM} {E:Nat->Prop} {h:HF} {w w':World} (r:qO φ E h w) {id:Nat} (hid:φ id=U) {b:u_} {ob:Obj} (s:RM w w' ob) (hob:iV φ (tot E φ h) w b ob) (del:ι) (nw:HF) (hnw:nw id=Z b) (hdel:∀i∈del,i≠id->nw i=U):
 ∃φ',φ' id=Z w.heap.size/\iW φ φ' h (eF h (id::del) nw) w w'/\(∀i k,φ' i=Z k->φ i=Z k\/i∈[id])/\qO φ' E (eF h (id::del) nw) w':=by
 have hsub:∀i x,eF h (id::del) nw i=Z x->i≠id->h i=Z x/\i∉del:=λi x z hi=>by
  unfold eF at z;by_cases hd:i∈del
  .rw[aT (by simp[hd]),hdel i hd hi]at z;cases z
  .rw[aL (by simp[hi,hd])]at z;exact⟨z,hd⟩
 have hlt:∀i x k,h i=Z x->φ i=Z k->k<w.heap.size:=λi x k hi hk=>by
  obtain⟨k',h1,_,ob',A,_⟩:=r.at_ i x hi;rw[hk]at h1;cases h1;exact (ct.1 A).1
 have hφ:∀i,i≠id->(if i=id then Z w.heap.size else φ i)=φ i:=λi hi=>by simp[hi]
 have m:iW φ (λi=>if i=id then Z w.heap.size else φ i) h (eF h (id::del) nw) w w':=by
  refine ⟨λi k hk=>?_,⟨s.os,s.tape,s.output,by rw[s.size];omega,λj hj _=>s.other j hj,λj hj=>?_⟩,?_⟩
  .have:i≠id:=λe=>by rw[e,hid]at hk;cases hk
   rw[hφ i this];exact hk
  .unfold rx;rw[s.other j hj]
  .rintro j hj ⟨i,x,h1,h2⟩;by_cases hi:i=id
   .simp[hi]at h2;omega
   .have A:φ i=Z j:=by simpa[hi] using h2
    exact⟨i,x,(hsub i x h1 hi).1,A⟩
 refine ⟨_,by simp,m,λi k hk=>?_,⟨λi j x y k hi hj h1 h2=>?_,λi x hi=>?_,λk hk=>dz (r.el k hk) m.ext.size,λg cells hg=>m.keepF (r.gl g cells hg)⟩⟩
 .by_cases hi:i=id
  .right;simp[hi]
  .left;rw[hφ i hi]at hk;exact hk
 .by_cases d:i=id
  .by_cases q:j=id
   .rw[d,q]
   .exfalso;rw[hφ j q]at h2;have:=hlt j y k (hsub j y hj q).1 h2;simp[d]at h1;omega
  .rw[hφ i d]at h1;have hix:=(hsub i x hi d).1;by_cases q:j=id
   .exfalso;have:=hlt i x k hix h1;simp[q]at h2;omega
   .rw[hφ j q]at h2;exact r.inj i j x y k hix (hsub j y hj q).1 h1 h2
 .by_cases d:i=id
  .subst d;have:x=b:=by unfold eF at hi;simp[hnw]at hi;exact hi.symm
   subst this;refine ⟨w.heap.size,by simp,λhe=>?_,ob,s.at_,hob.mono λ_ _ h=>m.keep h⟩;have:=r.el _ he;omega
  .obtain⟨k,h1,h2,ob',A,D⟩:=r.at_ i x (hsub i x hi d).1;refine ⟨k,by rw[hφ i d];exact h1,h2,ob',?_,D.mono λ_ _ h=>m.keep h⟩;rw[s.other k (hlt i x k (hsub i x hi d).1 h1)];exact A
theorem qP (w:World) (ob:Obj):RM w {w with heap:=w.heap.push ob} ob:=by
 refine ⟨rfl,rfl,rfl,by simp,by simp,λj hj=>?_⟩;rw[Array.getElem?_push,aL (by omega)]
theorem RM.drawn {w w':World} {ob:Obj} (d:Nat) (h:RM {w with drawn:=d} w' ob):RM w w' ob:=⟨h.os,h.tape,h.output,h.size,h.at_,h.other⟩
theorem gB.makes {P:Program} {o:Oper} {e:y_} {h:HF} {rd:ι} {nx:Nat} {b:u_} {val:AV}
 (hv:∀(φ:PM) (E:Nat->Prop) (h':HF) (w:World) (a:Act),(∀i∈rd,h' i=h i)->Sm φ E h' w a e o->qO φ E h' w->
   ∃v w' ob,(execOp a.eval o).run P w= .ok (.value v) w'/\RM w w' ob/\iV φ (tot E φ h') w b ob/\∀φ' O,φ' nx=Z w.heap.size->cH φ' O w' val v):
 gB P o e.get h ⟨val,rd,[nx],jf [(nx,b)],[nx]⟩:=by
 intro φ E h' w a h1 h2 D d A;obtain⟨v,w',ob,hrun,z,hob,hval⟩:=hv φ E h' w a h1 (λx y s q=>rN d D s q) d;obtain⟨φ',g1,L,I,F⟩:=d.wnew (id:=nx) (A nx (by simp)) z hob [] (jf [(nx,b)]) (by simp[jf]) (by simp);unfold G0;rw[hrun];exact⟨v,φ',rfl,L,I,F,hval φ' _ g1⟩
theorem gB.writes {P:Program} {o:Oper} {e:y_} {h:HF} {rd:ι} {id:Nat} {b b':u_} {val:AV} (hb:h id=Z b)
 (hv:∀(φ:PM) (E:Nat->Prop) (h':HF) (w:World) (a:Act),(∀i∈rd,h' i=h i)->h' id=Z b->Sm φ E h' w a e o->qO φ E h' w->
   ∃r w' k ob,(execOp a.eval o).run P w= .ok r w'/\φ id=Z k/\Es w w' k ob/\iV φ (tot E φ h') w b' ob/\(∃v,(r= .value v\/r= .skip/\v=undef)/\cH φ (tot E φ (eF h' [id] (jf [(id,b')]))) w' val v)):
 gB P o e.get h ⟨val,rd,[id],jf [(id,b')],[]⟩:=by
 intro φ E h' w a h1 h2 F d I;obtain⟨r,w',k,ob,hrun,hk,D,hob,v,hr,hval⟩:=hv φ E h' w a h1 (by rw[h2 id (by simp)];exact hb) (λx y A z=>rN d F A z) d;obtain⟨s,q⟩:=d.wset (id:=id) (by rw[h2 id (by simp)];exact hb) hk D hob (jf [(id,b')]) (by simp[jf]);unfold G0;rw[hrun];rcases hr with rfl|⟨rfl,rfl⟩
 .exact⟨v,φ,rfl,s,λ_ _ h=>.inl h,q,hval⟩
 .exact⟨undef,φ,rfl,s,λ_ _ h=>.inl h,q,hval⟩
theorem lY {l:Y AV} (h:gi l=M):∀x∈l,x.isCell=M:=by
 induction l with
 |nil=>intro x d;cases d
 |cons y l q=>
  simp only[gi,ak]at h;intro x d;rcases bu.1 d with rfl|d
  .exact h.1
  .exact q h.2 x d
theorem pN:∀{l:Y AV} {fs:Y FV},wY l=Z fs->l=fs.map .f
 |[],fs,h=>by simp only[wY,af]at h;subst h;rfl
 |.f x::r,fs,h=>by
  simp only[wY]at h;split at h
  .rename_i l hl;simp only[af]at h;subst h;rw[pN hl];rfl
  .cases h
 |.ptr _ _::_,_,h=>by simp[wY]at h
 |.sl _ _ _::_,_,h=>by simp[wY]at h
 |.row _ _ _::_,_,h=>by simp[wY]at h
 |.mp _::_,_,h=>by simp[wY]at h
 |.emp::_,_,h=>by simp[wY]at h
 |.agg _::_,_,h=>by simp[wY]at h
 |.tup _::_,_,h=>by simp[wY]at h
 |.clo _ _::_,_,h=>by simp[wY]at h
def Cs (φ:PM) (O:Nat->Prop) (w:World) (l:Y AV) (vs:ξ):Prop:=vs.length=l.length/\(∀x∈l,x.isCell=M)/\∀(j:Nat) x v,l[j]? =Z x->vs[j]? =Z v->cH φ O w x v
theorem BC.get_toMx {c:BC} (hc:c.isCells=M) (j:Nat):c.get j=c.toMx[j]? :=by
 cases c with
 |fz l=>simp[BC.get,BC.toMx]
 |mx l=>rfl
 |mp _=>cases hc
 |it _ _=>cases hc
theorem BC.len_toMx {c:BC} (hc:c.isCells=M):c.len=c.toMx.length:=by
 cases c with
 |fz l=>simp[BC.len,BC.toMx]
 |mx l=>rfl
 |mp _=>cases hc
 |it _ _=>cases hc
theorem nK (l:Y AV):(oE l).toMx=l/\(oE l).isCells=M:=by
 unfold oE;cases h:wY l with
 |none=>exact⟨rfl,rfl⟩
 |some fs=>exact⟨(pN h).symm,rfl⟩
theorem pZ {φ:PM} {O:Nat->Prop} {w:World} {ty:TypeId} {c:BC} (hc:c.isCells=M) {arr:Array Value} (hl:c.toMx.length<=arr.size)
 (h:∀(j:Nat) x,c.toMx[j]? =Z x->x.isCell=M/\∃v,arr[j]? =Z v/\cH φ O w x v):iV φ O w ⟨ty,c⟩ (.cells arr ty (0,0)):=by
 have h2:uO φ O w c arr:=⟨by rw[BC.len_toMx hc];exact hl,λj x d=>h j x (by rw[<- BC.get_toMx hc];exact d)⟩
 unfold iV;cases hb:c with
 |fz l=>rw[hb]at h2;exact⟨arr,rfl,h2⟩
 |mx l=>rw[hb]at h2;exact⟨arr,rfl,h2⟩
 |mp _=>rw[hb]at hc;cases hc
 |it _ _=>rw[hb]at hc;cases hc
theorem HR {φ:PM} {O:Nat->Prop} {w:World} {ty:TypeId} {l:Y AV} {vs:ξ} (h:Cs φ O w l vs):iV φ O w ⟨ty,oE l⟩ (.cells vs.toArray ty (0,0)):=by
 obtain⟨h1,h2⟩:=nK l;refine pZ h2 (by rw[h1];simp[h.1]) λj x d=>?_
 rw[h1]at d;have hj:j<vs.length:=by rw[h.1];exact (bm.1 d).1
 exact⟨h.2.1 x (bh d),vs[j],by simp[hj],h.2.2 j x _ d (ax hj)⟩
theorem TU {φ:PM} {O:Nat->Prop} {w:World} {x:AV} {v:Value} (h:cH φ O w x v) (hc:gi x.cs=M):Cs φ O w x.cs v.cells.toList:=by
 have one:x.cs=[x]->v.cells=#[v]->Cs φ O w x.cs v.cells.toList:=λh1 h2=>by
  rw[h1]at hc ⊢;rw[h2];exact⟨rfl,lY hc,λj y u d hu=>by cases j with|zero=>simp at d hu;subst d;subst hu;exact h|succ j=>simp at d⟩
 cases h with
 |ptr h=>exact one rfl rfl
 |sl h _ _=>exact one rfl rfl
 |row h _ _ _=>exact one rfl rfl
 |emp=>exact one rfl rfl
 |anyb=>exact one rfl rfl
 |ful _=>exact dP hc (by simp[AV.cs,gi,AV.isCell])
 |mp h=>exact one rfl rfl
 |clo _ _=>exact one rfl rfl
 |tup _ _=>exact dP hc (by simp[AV.cs,gi,AV.isCell])
 |@agg l vs hl hcl hr=>exact⟨hl,hcl,hr⟩
 |@f y u hf=>
  cases hf with
  |raw v=>
   have hv:v.oneCell'=M:=by
    have:(AV.f (.raw v)).cs=[.f (.raw v)]:=rfl;rw[this]at hc;simpa[gi,AV.isCell,FV.isCell] using hc
   refine one rfl ?_;cases v<;>first|rfl|simp[Value.oneCell']at hv
  |nil=>exact one rfl rfl
  |sl=>exact one rfl rfl
  |ptr=>exact one rfl rfl
  |agg l vs hl hcl hr=>
   refine ⟨by simp[AV.cs,Value.cells,hl],lY hc,λj y u d hu=>?_⟩;simp only[AV.cs,bi]at d;cases hq:l[j]? with
   |none=>rw[hq]at d;cases d
   |some q=>rw[hq]at d;simp at d;subst d;exact .f (hr j q u hq (by simpa[Value.cells] using hu))
theorem mw.one {O:Nat->Prop} {w:World} {x:FV} {v:Value} (h:mw O w x v) (hc:x.isCell=M):v.oneCell'=M:=by
 cases h with
 |raw v=>exact hc
 |nil=>rfl
 |sl=>rfl
 |ptr=>rfl
 |agg=>cases hc
theorem cH.one {φ:PM} {O:Nat->Prop} {w:World} {x:AV} {v:Value} (h:cH φ O w x v) (hc:x.isCell=M):v.oneCell'=M:=by
 cases h with
 |f h=>exact h.one hc
 |ptr=>rfl
 |sl=>rfl
 |row=>rfl
 |emp=>rfl
 |anyb=>rfl
 |ful=>cases hc
 |mp=>rfl
 |agg=>cases hc
 |tup=>cases hc
 |clo=>rfl
theorem Cs.one {φ:PM} {O:Nat->Prop} {w:World} {l:Y AV} {vs:ξ} (h:Cs φ O w l vs):∀v∈vs,v.oneCell'=M:=by
 intro v hv;obtain⟨j,hj⟩:=eW hv;have hlt:j<l.length:=by rw[<- h.1];exact (bm.1 hj).1
 exact (h.2.2 j _ v (ax hlt) hj).one (h.2.1 _ (qF hlt))
theorem Cs.append {φ:PM} {O:Nat->Prop} {w:World} {l q:Y AV} {vs vs':ξ} (h:Cs φ O w l vs) (h':Cs φ O w q vs'):Cs φ O w (l++q) (vs++vs'):=by
 refine ⟨by simp[h.1,h'.1],λx d=>(bN.1 d).elim (h.2.1 x) (h'.2.1 x),λj x v d hv=>?_⟩;rcases bM j l.length with hj|hj
 .rw[bQ hj]at d;rw[bQ (by rw[h.1];exact hj)]at hv;exact h.2.2 j x v d hv
 .rw[bX hj]at d;rw[bX (by rw[h.1];exact hj),h.1]at hv;exact h'.2.2 _ x v d hv
theorem Cs.take {φ:PM} {O:Nat->Prop} {w:World} {l:Y AV} {vs:ξ} (h:Cs φ O w l vs) (n:Nat):Cs φ O w (l.take n) (vs.take n):=by
 refine ⟨by simp[h.1],λx d=>h.2.1 x (eV d),λj x v d hv=>?_⟩;rw[cA]at d hv;split at d
 .rename_i hj;rw[aT hj]at hv;exact h.2.2 j x v d hv
 .cases d
theorem Cs.drop {φ:PM} {O:Nat->Prop} {w:World} {l:Y AV} {vs:ξ} (h:Cs φ O w l vs) (n:Nat):Cs φ O w (l.drop n) (vs.drop n):=by
 refine ⟨by simp[h.1],λx d=>h.2.1 x (List.mem_of_mem_drop d),λj x v d hv=>?_⟩;rw[gP]at d hv;exact h.2.2 _ x v d hv
theorem Cs.splice {φ:PM} {O:Nat->Prop} {w:World} {l d:Y AV} {vs vs':ξ} (h:Cs φ O w l vs) (h':Cs φ O w d vs') (off:Nat):Cs φ O w (splice l off d) (splice vs off vs'):=by
 unfold AI.splice;rw[h'.1];exact ((h.take off).append h').append (h.drop _)
theorem Cs.raws {φ:PM} {O:Nat->Prop} {w:World} (z:ξ) (q:mK z=M):Cs φ O w (z.map raw) z:=by
 refine ⟨by simp,λx d=>?_,λj x v d hv=>?_⟩
 .obtain⟨v,hv,rfl⟩:=c7.1 d;exact gk.1 q v hv
 .rw[bi]at d;rw[hv]at d;simp at d;subst d;exact .f (.raw v)
theorem Cs.mono {φ φ':PM} {O O':Nat->Prop} {w w':World} {l:Y AV} {vs:ξ} (h:Cs φ O w l vs) (hk:∀x v,cH φ O w x v->cH φ' O' w' x v):Cs φ' O' w' l vs:=⟨h.1,h.2.1,λj x v d hv=>hk _ _ (h.2.2 j x v d hv)⟩
theorem Es.setRow {w:World} {k:Nat} {arr arr':Array Value} {ty:TypeId} (d:w.heap[k]? =Z (.cells arr ty (0,0))) (hs:arr'.size=arr.size):Es w (w.setRow k arr') k (.cells arr' ty (0,0)):=by
 refine ⟨rfl,rfl,rfl,by simp,setRow_heap w k arr arr' ty (0,0) d,λj hj=>setRow_other w k j arr' hj,λj=>?_⟩;unfold rx;by_cases hj:j=k
 .subst hj;rw[setRow_heap w j arr arr' ty (0,0) d,d];simp[hs]
 .rw[setRow_other w k j arr' hj]
section
variable {P:Program} {o:Oper} {e:y_} {h:nX} {nx:Nat} {R:zZ}
theorem s7 {t:TypeId} {z:ξ} (d:sF P t=Z z) (w:World):∃v,(zeroValue t).run P w= .ok v w/\v.cells.toList=z/\∃i,P.info? t=Z i/\i.zero=Z v:=by
 unfold sF at d;cases hi:P.info? t with
 |none=>rw[hi]at d;cases d
 |some i=>
  rw[hi]at d;simp only[aD]at d;cases hv:i.zero with
  |none=>rw[hv]at d;cases d
  |some v=>
   rw[hv]at d;simp only[bU,af]at d;exact⟨v,by simp[zeroValue,typeInfo,hi,hv],d,i,rfl,hv⟩
theorem adg {t:TypeId} {z:ξ} (D:o.op= .alloc t) (A:sF P t=Z z) (hc:mK z=M) (s:ef (.alloc t z) e h nx=Z R):gB P o e.get h.get R.eff:=by
 simp only[ef,af]at s;subst s;refine gB.makes λφ E h' w a _ _ _=>?_
 obtain⟨v,h1,h2,_⟩:=s7 A w;refine ⟨.pointer (Z ⟨w.heap.size,0,U⟩),{w with heap:=w.heap.push (.cells v.cells t)},.cells v.cells t (0,0),?_,qP w _,?_,λφ' O hφ=>.ptr hφ⟩
 .unfold execOp;rw[D];simp[Instr.alloc,h1,newVar,newRow,newObj,ka]
 .have d:BC.toMx (.fz (z.map .raw))=z.map raw:=by simp[BC.toMx,raw]
  refine pZ rfl (by rw[d,<-h2];simp) λj x q=>?_
  rw[d]at q;have cs:=Cs.raws (φ:=φ) (O:=tot E φ h') (w:=w) z hc;have hj:j<z.length:=by have:=(bm.1 q).1;simpa using this
  refine ⟨cs.2.1 x (bh q),z[j],?_,cs.2.2 j x _ q (ax hj)⟩;have:v.cells.toList[j]? =Z z[j]:=by rw[h2];exact ax hj
  simpa using this
theorem ajj {t:TypeId} {x:Operand} (q:o.op= .box t x) (d:ef (.box t x) e h nx=Z R):gB P o e.get h.get R.eff:=by
 simp only[ef]at d;split at d
 .rename_i v s;split at d
  .rename_i hc;simp only[af]at d;subst d;refine gB.makes λφ E h' w a _ hp _=>?_
   have hr:=TU (hp x _ (by rw[q];simp[Op.operands]) s) hc;refine ⟨.pointer (Z ⟨w.heap.size,0,U⟩),{w with heap:=w.heap.push (.cells (a.eval x).cells t)},.cells (a.eval x).cells t (0,0),?_,qP w _,?_,λφ' O hφ=>.ptr hφ⟩
   .unfold execOp;rw[q];simp[Instr.box,newVar,newRow,newObj,ka]
   .have:=HR (ty:=t) hr;simpa using this
  .cases d
 .cases d
theorem mP {α:Type} {l vs:Y α} {off:Nat} (hle:off+vs.length<=l.length) (j:Nat):(splice l off vs)[j]? =if j<off then l[j]? else if j<off+vs.length then vs[j-off]? else l[j]? :=by
 unfold splice;rw[iv];have h1:(l.take off).length=off:=by simp;omega
 by_cases hj:j<off
 .rw[aT hj,bQ (by rw[h1];exact hj),cA,aT hj]
 .rw[aL hj,bX (by omega),h1];by_cases d:j<off+vs.length
  .rw[aT d,bQ (by omega)]
  .rw[aL d,bX (by omega),gP];congr 1;omega
theorem oo {α:Type} {l vs:Y α} {off:Nat} (hle:off+vs.length<=l.length):(splice l off vs).length=l.length:=by
 unfold splice;simp;omega
theorem Qs (off:Nat):∀(vs:ξ) (k:Nat) (arr:Array Value),off+k+vs.length<=arr.size->∀j:Nat,
 ((vs.zipIdx k).foldl (λcs (p:Value×Nat)=>cs.setIfInBounds (off+p.2) p.1) arr)[j]? =if j<off+k then arr[j]? else if j<off+k+vs.length then vs[j-(off+k)]? else arr[j]?
 |[],k,arr,_,j=>by
  simp only[List.zipIdx_nil,List.foldl_nil,jX,dh];split<;>rfl
 |v::vs,k,arr,hle,j=>by
  simp only[cf]at hle;rw[List.zipIdx_cons,EB,Qs off vs (k+1) _ (by simp;omega) j];simp only[cf];by_cases h1:j<off+k
  .rw[aT (by omega),aT h1,pP (by omega)]
  .by_cases h2:j=off+k
   .subst h2;rw[aT (by omega),aL (by omega),aT (by omega)];simp[show off+k<arr.size by omega]
   .rw[aL (by omega),aL h1];by_cases d:j<off+k+(vs.length+1)
    .rw[aT (by omega),aT d,show j-(off+k)=(j-(off+(k+1)))+1 from by omega];simp
    .rw[aL (by omega),aL d,pP (by omega)]
theorem Qr (off:Nat) (c:Array Value) (l:ξ) (hle:off+c.size<=l.length):(c.zipIdx.foldl (λcs (p:Value×Nat)=>cs.setIfInBounds (off+p.2) p.1) l.toArray)=(splice l off c.toList).toArray:=by
 rw[<- Array.foldl_toList,Array.toList_zipIdx];apply Array.ext_getElem?;intro j;rw[Qs off c.toList 0 l.toArray (by simpa using hle) j];simp only[dh,ky];rw[mP (by simpa using hle)]
theorem NV {φ:PM} {E:Nat->Prop} {h':HF} {w:World} {a:Act} (hp:Sm φ E h' w a e o) {place:Nat->J (Nat×Nat)}:∀(ps:Y (Nat×Operand)) (ps':Y (Nat×Nat×Operand)) (cells cs:Y AV) (vs:ξ),
 (ps'.length=ps.length)->(∀(j:Nat) i x,ps[j]? =Z (i,x)->∃of sz,ps'[j]? =Z (of,sz,x)/\place i=Z (of,sz))->(∀p∈ps,p.2∈o.op.operands)->Cs φ (tot E φ h') w cells vs->yG cells e ps'=Z cs->
 ∃vs',Instr.fill place vs.toArray (ps.map λp=>(p.1,a.eval p.2))=Z vs'.toArray/\Cs φ (tot E φ h') w cs vs'
 |[],ps',cells,cs,vs,hl,_,_,hcs,hf=>by
  cases ps' with
  |nil=>simp only[yG,af]at hf;subst hf;exact⟨vs,rfl,hcs⟩
  |cons _ _=>simp at hl
 |(i,x)::ps,ps',cells,cs,vs,hl,hpl,hm,hcs,hf=>by
  obtain⟨of,sz,h1,h2⟩:=hpl 0 i x rfl;cases ps' with
  |nil=>simp at h1
  |cons p ps'=>
   simp at h1;subst h1;simp only[yG]at hf;split at hf
   .rename_i v hv;split at hf
    .rename_i hc;simp only[ak,cR]at hc;obtain⟨⟨s,q⟩,d⟩:=hc;have hr:=TU (hp x v (hm _ (eo ..)) hv) d;have hsz:(a.eval x).cells.size=sz:=by have:=hr.1;simp at this;omega
     have hle:of+sz<=vs.length:=by rw[hcs.1];exact a_ q
     obtain⟨vs',A,z⟩:=NV hp ps ps' _ cs _ (by simpa using hl) (λj i x hj=>by have:=hpl (j+1) i x (by simpa using hj);simpa using this) (λp hp=>hm p (dk _ hp)) (hcs.splice hr of) hf;refine ⟨vs',?_,z⟩;simp only[fb,Instr.fill,h2];have hcd:((decide ((a.eval x).cells.size≠sz))||decide (of+(a.eval x).cells.size>vs.toArray.size))=aa:=by
      rw[hsz];simp;omega
     rw[aL (by rw[hcd];simp)];have:=Qr of (a.eval x).cells vs (by rw[hsz];exact hle);rw[<- A,<-this]
    .cases hf
   .cases hf
theorem Dp {t:TypeId}:∀(ps:Y (Nat×Operand)) (ps':Y (Nat×Nat×Operand)),wn P t ps=Z ps'->ps'.length=ps.length/\∀(j:Nat) i x,ps[j]? =Z (i,x)->∃of sz,ps'[j]? =Z (of,sz,x)/\AG P t i=Z (of,sz)
 |[],ps',h=>by simp only[wn,af]at h;subst h;exact⟨rfl,λj i x s=>by simp at s⟩
 |(i,x)::ps,ps',h=>by
  simp only[wn]at h;split at h
  .rename_i of sz l h1 h2;simp only[af]at h;subst h;obtain⟨A,z⟩:=Dp ps l h2;refine ⟨by simp[A],λj q d hj=>?_⟩;cases j with
   |zero=>simp at hj;obtain⟨rfl,rfl⟩:=hj;exact⟨of,sz,rfl,h1⟩
   |succ j=>simpa using z j q d (by simpa using hj)
  .cases h
theorem H4 (w:World):∀(fs:Y Field),(fs.all λf=>(fc P f.type).isSome)=M->(fs.mapM (λf=>do pure (f.offset,<-sizeOf f.type)):Sem (Y (Nat×Nat))).run P w= .ok (fs.map λf=>(f.offset,(fc P f.type).getD 0)) w
 |[],_=>by simp
 |f::fs,h=>by
  simp only[List.all_cons,ak]at h;obtain⟨sz,hs⟩:=iK.1 h.1;have h1:=fX hs w;have d:=H4 w fs h.2;simp only[List.mapM_cons,eA,h1,cJ,oM,d,fb,hs,uo]
theorem V4 {t:TypeId} {ps:Array (Nat×Operand)} {z:ξ} {ps':Y (Nat×Nat×Operand)} (s:o.op= .build t ps) (D:sF P t=Z z) (hc:mK z=M) (hps:wn P t ps.toList=Z ps')
 (hu:(∃fs,P.underlying t=Z (.struct fs)/\(fs.toList.all λf=>(fc P f.type).isSome)=M)\/∃n el sz,P.underlying t=Z (.array n el)/\fc P el=Z sz) (d:ef (.build z ps') e h nx=Z R):gB P o e.get h.get R.eff:=by
 simp only[ef]at d;split at d
 .rename_i cs hf;rw[dv d];refine gB.reads λφ E h' w a _ hp _=>?_
  obtain⟨v,h1,h2,_⟩:=s7 D w;have hcells:v.cells=z.toArray:=by rw[<- h2]
  obtain⟨L,I⟩:=Dp ps.toList ps' hps;have hops:∀p∈ps.toList,p.2∈o.op.operands:=λp hp=>by
   rw[s];simp only[Op.operands,List.mem_toArray,c7];exact⟨p,hp,rfl⟩
  have hmap:(ps.map λx:Nat×Operand=>(x.1,a.eval x.2)).toList=ps.toList.map λp=>(p.1,a.eval p.2):=by simp
  have fin:∀place:Nat->J (Nat×Nat),(∀i,AG P t i≠U->place i=AG P t i)->∃vs':ξ,Instr.fill place v.cells (ps.map λx:Nat×Operand=>(x.1,a.eval x.2)).toList=Z vs'.toArray/\cH φ (tot E φ h') w (L4 cs) (.agg vs'.toArray):=by
   intro place hpl;obtain⟨vs',k1,k2⟩:=NV (place:=place) hp ps.toList ps' _ cs z L (λj i x hj=>by
    obtain⟨of,sz,q1,q2⟩:=I j i x hj;exact⟨of,sz,q1,by rw[hpl i (by rw[q2];simp),q2]⟩) hops (Cs.raws z hc) hf
   refine ⟨vs',by rw[hmap,hcells];exact k1,?_⟩;unfold L4;cases hfs:wY cs with
   |none=>exact .agg k2.1 k2.2.1 k2.2.2
   |some fs=>
    have he:=pN hfs;refine .f (.agg fs vs' (by rw[k2.1,he];simp) (λx q=>k2.2.1 (.f x) (by rw[he];exact c7.2 ⟨x,q,rfl⟩)) λj x u q hu=>?_);have:=k2.2.2 j (.f x) u (by rw[he,bi,q];rfl) hu;cases this with
    |f h=>exact h
  rcases hu with ⟨fs,hu,hall⟩|⟨n,el,sz,hu,hs⟩
  .obtain⟨vs',k1,k2⟩:=fin (λi=>(fs.map λf=>(f.offset,(fc P f.type).getD 0))[i]?) (λi hi=>by
    unfold AG at hi ⊢;rw[hu]at hi ⊢;simp only[Array.getElem?_map]at hi ⊢;cases hf:fs[i]? with
    |none=>rw[hf]at hi;simp at hi
    |some f=>
     simp only[bU,aD];cases hs:fc P f.type with
     |none=>rw[hf]at hi;simp[hs]at hi
     |some sz=>simp)
   refine ⟨_,?_,k2⟩;have hm:=H4 w fs.toList hall;have A:(fs.mapM (λf=>do pure (f.offset,<-sizeOf f.type)):Sem (Array (Nat×Nat))).run P w= .ok (fs.map λf=>(f.offset,(fc P f.type).getD 0)) w:=by
    rw[Array.mapM_eq_mapM_toList];simp only[Sem.run_map,hm,cJ];congr 1;apply Kl;simp
   unfold execOp;rw[s];simp only[Instr.build,eA,h1,cJ,run_underlying hu,A,oM,k1]
  .obtain⟨vs',k1,k2⟩:=fin (λi=>Z (i*sz,sz)) (λi hi=>by
    unfold AG;rw[hu];simp[hs])
   refine ⟨_,?_,k2⟩;have F:=fX hs w;unfold execOp;rw[s];simp only[Instr.build,eA,h1,cJ,run_underlying hu,F,oM,k1]
 .cases d
end
section
variable {P:Program} {o:Oper} {e:y_} {h:nX} {nx:Nat} {R:zZ}
theorem sd {t el:TypeId} (h:Ae P t=Z el):P.underlying t=Z (.slice el):=by
 unfold Ae at h;split at h
 .rename_i e hu;simp only[af]at h;subst h;exact hu
 .cases h
theorem mQ (z:ξ):∀n,(repl z n).length=n*z.length
 |0=>by simp[repl]
 |n+1=>by simp[repl,mQ z n,iN];omega
theorem BI (z:ξ):∀(n j:Nat),j<n*z.length->(repl z n)[j]? =(z[j%z.length]?).map .raw
 |0,j,h=>by simp at h
 |n+1,j,h=>by
  have d:0<z.length:=by
   rcases rz z.length with h0|h0
   .rw[h0]at h;simp at h
   .exact h0
  rw[repl];rcases bM j z.length with hj|hj
  .rw[bQ (by simpa using hj),bi,Nat.mod_eq_of_lt hj]
  .rw[bX (by simpa using hj),ca,BI z n (j-z.length) (by rw[iN]at h;omega),Nat.mod_eq_sub_mod hj]
theorem Wd {v:Value} {z:ξ} (hv:v.cells.toList=z) (n sz:Nat) (hl:z.length=sz) (hsz:sz≠0) (j:Nat) (hj:j<n*sz):
 ((xL (n*sz)).map (λi=>v.cells[i%v.cells.size]!))[j]? =z[j%sz]? :=by
 have hs:v.cells.size=sz:=by rw[<- hl,<-hv];simp
 have hlt:j%sz<v.cells.size:=by rw[hs];exact Nat.mod_lt _ (by omega)
 rw[Array.getElem?_map,Array.getElem?_range];simp only[hj,bE,bU,hs];rw[<- hv,cq,getElem!_pos v.cells _ hlt,ib hlt]
theorem Cs.repl {φ:PM} {O:Nat->Prop} {w:World} {v:Value} {z:ξ} (hv:v.cells.toList=z) (n sz:Nat) (hl:z.length=sz) (hsz:sz≠0) (hc:mK z=M):
 Cs φ O w ((repl z n).map .f) ((xL (n*sz)).map (λi=>v.cells[i%v.cells.size]!)).toList:=by
 have key:∀(j:Nat) (x:AV),((AI.repl z n).map AV.f)[j]? =Z x->∃u,z[j%sz]? =Z u/\x=raw u/\j<n*sz:=by
  intro j x d;rw[bi]at d;have hj:j<n*z.length:=by
   rcases bM j (n*z.length) with h|h
   .exact h
   .rw[bJ (by rw[mQ];exact h)]at d;cases d
  rw[BI z n j hj,hl]at d;cases hu:z[j%sz]? with
  |none=>rw[hu]at d;cases d
  |some u=>rw[hu]at d;simp at d;exact⟨u,rfl,d.symm,by rw[<- hl];exact hj⟩
 refine ⟨by simp[mQ,hl],λx d=>?_,λj x u d hu=>?_⟩
 .obtain⟨j,hj⟩:=eW d;obtain⟨u,h1,rfl,_⟩:=key j x hj;exact gk.1 hc u (bh h1)
 .obtain⟨q,h1,rfl,hj⟩:=key j x d;rw[cq,Wd hv n sz hl hsz j hj,h1]at hu;cases hu;exact .f (.raw _)
theorem aji {t el:TypeId} {n sz:Nat} {ps:Array (Nat×Operand)} {z:ξ} {ps':Y (Nat×Nat×Operand)} (A:o.op= .buildSlice t n ps) (hu:P.underlying t=Z (.slice el)) (F:sF P el=Z z) (hs:fc P el=Z sz) (hc:mK z=M) (hl:z.length=sz) (hsz:sz≠0) (hb:n*sz<=65536)
 (hps:wn P t ps.toList=Z ps') (d:ef (.bsl el sz n z ps') e h nx=Z R):gB P o e.get h.get R.eff:=by
 simp only[ef]at d;split at d
 .rename_i cs hf;simp only[af]at d;subst d;refine gB.makes λφ E h' w a _ hp _=>?_
  obtain⟨v,h1,h2,_⟩:=s7 F w;obtain⟨g1,L⟩:=Dp ps.toList ps' hps;have hops:∀p∈ps.toList,p.2∈o.op.operands:=λp hp=>by
   rw[A];simp only[Op.operands,List.mem_toArray,c7];exact⟨p,hp,rfl⟩
  have hmap:(ps.map λx:Nat×Operand=>(x.1,a.eval x.2)).toList=ps.toList.map λp=>(p.1,a.eval p.2):=by simp
  obtain⟨vs',k1,k2⟩:=NV (place:=λi=>Z (i*sz,sz)) hp ps.toList ps' _ cs _ g1 (λj i x hj=>by
   obtain⟨of,s',q1,q2⟩:=L j i x hj;unfold AG at q2;rw[hu]at q2;simp[hs]at q2;obtain⟨rfl,rfl⟩:=q2;exact⟨_,_,q1,rfl⟩) hops (Cs.repl h2 n sz hl hsz hc) hf
  have hcells:(xL (n*sz)).map ((if n*sz=0 then #[] else v.cells)[·%(if n*sz=0 then #[] else v.cells).size]!)=((xL (n*sz)).map (λi=>v.cells[i%v.cells.size]!)).toList.toArray:=by
   by_cases h0:n*sz=0
   .simp[h0]
   .rw[Array.toArray_toList];simp only[aL h0]
  have hlen:vs'.length=n*sz:=by
   have e1:=k2.1;have e2:cs.length=((AI.repl z n).map AV.f).length:=by
    have:∀(ps':Y (Nat×Nat×Operand)) (s q:Y AV),yG s e ps'=Z q->q.length=s.length:=by
     intro ps';induction ps' with
     |nil=>intro s q h;simp only[yG,af]at h;rw[h]
     |cons p ps' D=>
      intro s q h;obtain⟨of,s',x⟩:=p;simp only[yG]at h;split at h
      .split at h
       .rename_i hcc;simp only[ak,cR]at hcc;rw[D _ _ h,oo (by rw[hcc.1.1];exact a_ hcc.1.2)]
       .cases h
      .cases h
    exact this ps' _ _ hf
   rw[e1,e2];simp[mQ,hl]
  refine ⟨.slice (Z ⟨w.heap.size,0,U⟩) n n,{w with heap:=w.heap.push (.cells vs'.toArray el)},.cells vs'.toArray el (0,0),?_,qP w _,HR k2,λφ' O hφ=>?_⟩
  .have I:=fX hs w;have hk:Instr.fill (λi=>Z (i*sz,sz)) ((xL (n*sz)).map ((if n*sz=0 then #[] else v.cells)[·%(if n*sz=0 then #[] else v.cells).size]!)) (ps.map λx:Nat×Operand=>(x.1,a.eval x.2)).toList=Z vs'.toArray:=by
    rw[hcells,hmap];exact k1
   unfold execOp;rw[A];simp only[Instr.buildSlice,eA,run_underlying hu,cJ,I];rw[aL (by omega)];by_cases h0:n*sz=0
   .simp only[aT h0]at hk ⊢;simp only[eA,oM,cJ,hk,newRow,newObj,ka]
   .simp only[aL h0]at hk ⊢;simp only[eA,oM,cJ,h1,hk,newRow,newObj,ka]
  .simp only[];split
   .rename_i h0;subst h0;exact .emp
   refine .row hφ (cF _) ?_ ⟨el,?_⟩
   .have:n<=n*sz:=Nat.le_mul_of_pos_right _ (by omega);unfold maxLen;omega
   .unfold rx;simp[hlen]
 .cases d
end
end
end Go.Proofs.YtiaemgcbndhkfaaGreatDoor.AI
