/-
  Texts of the proof, part 3 of 5: what is used to prove the statement. No condition.
-/
import Derived.Test.YtiaemgcbndhkfaaGreatDoorHBRefusesQ1
import Derived.KernelRfl
import Derived.WalkSpells
import Derived.Laws.CopyRow
import Derived.Deep.AppendSrc
import Derived.Laws.AppendOwn
namespace Go.Proofs.YtiaemgcbndhkfaaGreatDoor.AI
open Go.RowKit
set_option maxRecDepth 100000
set_option maxHeartbeats 4000000
set_option linter.unusedVariables false
set_option linter.unusedSimpArgs false
open _root_.Bool renaming true→M,false→aa,and_false→tZ,eq_iff_iff→Eo
open Call renaming operands→dO
open _root_.Int renaming ofNat_eq_natCast→aj,reduceEq→aN,toNat→aP,reduceNeg→aS,ofNat→aT,tmod→bo,toNat_natCast→cV,le_trans→eS,max_le→wW
open _root_.Int.ofNat renaming inj→r9
open IntKind renaming wrap→oI
open _root_.List renaming length→ah,replicate→aA,length_cons→ca,length_singleton→cP,take→dh,toArray→eQ,range→fd,length_nil→jW,replicate_succ→pJ,getElem_of_mem→uV,foldl_cons→El
open _root_.Nat renaming beq→ax,add_zero→db,blt→eP
open Oper renaming wp→Gy
open _root_.Option renaming some→Z,none→U,bind_some→aD,map_some→bU,getD_some→uh
open _root_.Prod renaming p2→aX,p3→bh,p4→bk,q3→bn,p5→bS,q5→cC,q4→cI,p6→da,q6→dI,q7→gG,p7→ip,q8→nl,p8→ug,p9→yR,p10→yS,p11→J2
open Result renaming andThen_ok→cF
open Sem renaming run_bind→ey,run→j_,run_pure→oE
open _root_.Sum renaming inl→nk
open Utf8 renaming decode→xy
open World renaming shape?→ri,cell?→MC
noncomputable section
abbrev DT:Type:=Int×Int×ζ×Int×Int×ζ
abbrev HT:Type:=ζ×Int×Y ζ×Y Sx
abbrev PG:Type:=Y DT×Y HT
structure PX (p:PG):Prop where
 d:p.1.length<=100
 t:p.2.length<=8
 l:∀t∈p.2,t.2.2.1.length<=100
 b:∀t∈p.2,t.2.2.2.length<=100
 s:∀t∈p.2,∀s∈t.2.2.2,GT 5 s
theorem Xf (p:PG) (h:PX p):Ok (rR p) λ_=>True:=by
 obtain⟨hd,ht,hl,hb,hs⟩:=h;unfold rR aX bk cC bx bF aY cH aB ct;refine cf p.1.length (λi x=>x.1=(i:Int)/\x.2=p) ?_ ?_ ⟨rfl,rfl⟩
 .rintro i ⟨a,x⟩ hi ⟨e1,e2⟩;dsimp only at e1 e2;subst e1;subst e2;refine aR (λ_=>?_) λg=>(by dsimp only[aj]at g;omega)
  refine aK (by dsimp only;omega) (by dsimp only;omega) (aV ?_);refine ar (Kf _) λ_ _=>?_
  exact cQ (λ_=>ai trivial) λ_=>ai ⟨fk (by omega),rfl⟩
 rintro⟨a,x⟩ ⟨e1,e2⟩;dsimp only at e1 e2;subst e1;subst e2;refine aR (λg=>(by dsimp only[aj]at g;omega)) λ_=>?_
 refine ar (P:=λ_=>True) ?_ λ_ _=>ai trivial
 refine cf x.2.length (λi y=>y.1=(i:Int)/\y.2=x) ?_ ?_ ⟨rfl,rfl⟩
 .rintro i ⟨a,x⟩ hi ⟨e1,e2⟩;dsimp only at e1 e2;subst e1;have e2:=e2.symm;subst e2;refine aR (λ_=>?_) λg=>(by dsimp only[aj]at g;omega)
  refine aK (by dsimp only;omega) (by dsimp only;omega) (aV ?_);have hm:=bH (T:=Hc) (xs:=x.2) (j:=(i:Int)) (by omega) (by omega);have h1:=hl _ hm;have h2:=hb _ hm;have h3:=hs _ hm;revert h1 h2 h3;generalize (aH (T:=Hc) x.2 (i:Int))=t;intro h1 h2 h3;refine cf t.2.2.1.length (λk y=>y.1=(k:Int)/\y.2=(x,t)) ?_ ?_ ⟨rfl,rfl⟩
  .rintro k ⟨a,z⟩ hk ⟨q,d⟩;dsimp only at q d;subst q;subst d;refine aR (λ_=>?_) λg=>(by dsimp only[aj]at g;omega)
   refine aK (by dsimp only;omega) (by dsimp only;omega) (aV ?_);refine ar (ik _) λ_ _=>?_
   exact cQ (λ_=>ai trivial) λ_=>ai ⟨fk (by omega),rfl⟩
  .rintro⟨a,z⟩ ⟨q,d⟩;dsimp only at q d;subst q;subst d;refine aR (λg=>(by dsimp only[aj]at g;omega)) λ_=>?_
   refine ar (P:=λr=>match r with|.inl y=>y.1=((i+1:Nat):Int)/\y.2=x|.inr _=>True) ?_ ?_
   .refine aW (λy=>y.2=x) ?_ ?_
    .refine ar (ik _) λ_ _=>cQ (λ_=>ai rfl) λ_=>?_
     exact ar (JO 5 (by omega) _ (by dsimp only;omega) h3) λ_ _=>ai rfl
    rintro⟨b,y⟩ e;dsimp only at e;subst e;exact aJ (λ_=>ai trivial) λ_=>ai ⟨fk (by omega),rfl⟩
   .rintro (y|y) s
    .exact ai s
    .exact ai trivial
 .rintro⟨a,y⟩ ⟨e1,e2⟩;dsimp only at e1 e2;subst e1;subst e2;exact aR (λg=>(by dsimp only[aj]at g;omega)) λ_=>ai trivial
theorem vU (l:Y DT) (s:ζ) (hl:l.length<=1000):Ok (iD (l,s)) λr=> -1<=r/\r<(l.length:Int):=by
 unfold iD bx bF aY cH aB ct;refine cf l.length (λi x=>x=(i:Int)) ?_ ?_ rfl
 .rintro i x hi rfl;refine aR (λ_=>?_) λg=>(by dsimp only[aj]at g;omega)
  refine aK (by omega) (by dsimp only;omega) (aV ?_);exact aF (λ_=>ai ⟨by omega,by omega⟩) λ_=>ai (fk (by omega))
 .rintro x rfl;exact aR (λg=>(by dsimp only[aj]at g;omega)) λ_=>ai ⟨by omega,by omega⟩
theorem r7 (l:Y HT) (s:ζ) (hl:l.length<=1000):Ok (iv (l,s)) λr=> -1<=r/\r<(l.length:Int):=by
 unfold iv bx bF aY cH aB ct;refine cf l.length (λi x=>x=(i:Int)) ?_ ?_ rfl
 .rintro i x hi rfl;refine aR (λ_=>?_) λg=>(by dsimp only[aj]at g;omega)
  refine aK (by omega) (by dsimp only;omega) (aV ?_);exact aF (λ_=>ai ⟨by omega,by omega⟩) λ_=>ai (fk (by omega))
 .rintro x rfl;exact aR (λg=>(by dsimp only[aj]at g;omega)) λ_=>ai ⟨by omega,by omega⟩
def DD (p:PG) (s:ζ):Prop:=∃v,iD (p.1,s)=Z v/\0<=v/\v<(p.1.length:Int)
theorem Xs (p:PG) (h:PX p) (t:Int) (s:ζ):Ok (rQ (p,t,s)) λk=>k≠0->k≠7->k≠8->DD p s:=by
 have hd:=h.d;have ht:=h.t;unfold rQ bi bx ja iA mF bF aY aB;refine aW (λx=>x.2=p) ?_ ?_
 .refine dT (λA=>aR (λz=>?_) λ_=>ai rfl) λ_=>ai rfl
  dsimp only[aj]at A z;refine aK A z (aV ?_);have hm:=h.l _ (bH (T:=Hc) (xs:=p.2) (j:=t) A z);exact ar (Ar _ s (cW hm (by omega))) λ_ _=>ai rfl
 rintro⟨b,x⟩ e;dsimp only at e;have e:=e.symm;subst e;refine aJ (λ_=>ai λ_ _ h=>(h rfl).elim) λ_=>?_
 obtain⟨v,hv,v0,v1⟩:=vU p.1 s (by omega);refine aQ hv ?_;refine aR (λ_=>?_) λg=>?_
 .exact ar (r7 p.2 s (by omega)) λ_ _=>dT (λ_=>ai λ_ h=>(h rfl).elim) λ_=>ai λh=>(h rfl).elim
 have q:DD p s:=⟨v,hv,g,v1⟩
 refine aK g v1 (aV ?_);refine aF (λ_=>?_) λ_=>?_
 .exact aK g v1 (aV (bW (λ_=>ai λ_ _ _=>q) λ_=>ai λ_ _ _=>q))
 refine aF (λ_=>ai λ_ _ _=>q) λ_=>?_
 refine aW (λx=>x.2=p) (aF (λ_=>ai rfl) λ_=>aF (λ_=>ai rfl) λ_=>aF (λ_=>ai rfl) λ_=>ai rfl) ?_;rintro⟨b,x⟩ e;dsimp only at e;have e:=e.symm;subst e;exact aJ (λ_=>aK g v1 (aV (ai λ_ _ _=>q))) λ_=>ai λ_ _ _=>q
theorem oK (p:PG) (h:PX p) (t:Int) (s:ζ) (a b:Int):Ok (gO (p,t,s,a,b)) λr=>r=0->(a≠7/\a≠8)->(b≠7/\b≠8)->DD p s:=by
 unfold gO aX bh cI bi iA aB;refine ar (Xs p h t s) λk hk=>?_
 refine aF (λ_=>ai λh=>(by cases h)) λg=>?_
 refine aW (λx=>x=aa->k=a\/k=b) ?_ ?_
 .refine bW (λ_=>ai λh=>?_) λh=>ai λ_=>.inl h
  simp at h;exact .inr h
 rintro x d;refine aJ (λ_=>ai λh=>(by cases h)) λh=>ai λ_ h1 h2=>hk g ?_ ?_
 .rcases d h with h|h<;>omega
 .rcases d h with h|h<;>omega
theorem LY:∀(n d:Nat) (e:Xp),d<n->GX d e->Ok (po n e) λ_=>True
 |0,_,_,h,_=>by omega
 |n+1,0,_,_,h=>h.elim
 |n+1,d+1,e,hn,h=>by
  obtain⟨h1,h2⟩:=h;rw[F4];unfold wv bx bF cH aB ct;refine cf e.l.length (λi x=>x.1.2.2=(i:Int)/\x.2=e) ?_ ?_ ⟨rfl,eV e⟩
  .rintro i ⟨⟨a,b,c⟩,z⟩ hi ⟨e1,e2⟩;dsimp only at e1 e2;subst e1;subst e2;refine aR (λ_=>?_) λg=>(by dsimp only[aj]at g;omega)
   refine aK (by dsimp only;omega) (by dsimp only;omega) (aV ?_);refine ar (LY n d _ (by omega) (h2 _ (bH (T:=.ex) (xs:=z.l) (j:=(i:Int)) (by omega) (by omega)))) λ_ _=>ai ?_
   exact⟨fk (by omega),eV z⟩
  .rintro⟨⟨a,b,c⟩,z⟩ ⟨e1,e2⟩;dsimp only at e1 e2;subst e1;subst e2;exact aR (λg=>(by dsimp only[aj]at g;omega)) λ_=>ai trivial
theorem EO (p:PG) (hp:PX p) (t:Int):∀(n d:Nat) (e:Xp),d<n->GX d e->Ok (pn n (p,t,e)) λ_=>True
 |0,_,_,h,_=>by omega
 |n+1,0,_,_,h=>h.elim
 |n+1,d+1,e,hn,h=>by
  obtain⟨h1,h2⟩:=h;rw[F3];unfold wu bi bx bF cH aB ct;refine aW (λx=>x.2.1=p/\x.2.2=e) ?_ ?_
  .refine aF (λ_=>ar (oK p hp t _ _ _) λ_ _=>ai ⟨rfl,eV e⟩) λ_=>aF (λ_=>ar (oK p hp t _ _ _) λ_ _=>ai ⟨rfl,eV e⟩) λ_=>ai ⟨rfl,eV e⟩
  rintro⟨r,z,e'⟩ ⟨s,q⟩;dsimp only at s q;have s:=s.symm;subst s;have q:=q.symm;subst q;refine ml (λx=>((e.l.length:Int)-x.1.2).toNat) (λx=>0<=x.1.2/\x.2.1=p/\x.2.2=e) ?_ ⟨gN _,rfl,eV e⟩;rintro⟨⟨a,(b:Int)⟩,z,e'⟩ ⟨b0,s,q⟩;dsimp only at b0 s q;have s:=s.symm;subst s;have q:=q.symm;subst q;refine aW (λx=>x.2.1=p/\x.2.2=e/\(x.1=M->b<(e.l.length:Int))) ?_ ?_
  .exact aR (λg=>ai ⟨rfl,eV e,λ_=>g⟩) λ_=>ai ⟨rfl,eV e,λh=>(by cases h)⟩
  rintro⟨c,z,e'⟩ ⟨s,q,f3⟩;dsimp only at s q f3;have s:=s.symm;subst s;have q:=q.symm;subst q;refine aJ (λhc=>?_) λ_=>ai trivial
  have g:=f3 hc;refine aK b0 g (aV ?_);refine ar (EO p hp t n d _ (by omega) (h2 _ (bH (T:=.ex) (xs:=e.l) (j:=b) b0 g))) λ_ _=>ai ?_
  dsimp only;rw[gF (n:=b+1) (by omega) (by omega)];exact⟨⟨by omega,rfl,eV e⟩,by omega⟩
theorem vT (p:PG) (hp:PX p) (t:Int) (e:Xp) (h:GX 4 e):Ok (nC (p,t,e)) λ_=>True:=by
 unfold nC bx aB;have s:GX 4 (d8 (Xp.op e,Xp.n e,Xp.name e,Xp.l e)):=by rw[eV];exact h
 refine ar (fY _ s) λ_ _=>cQ (λ_=>ai trivial) λ_=>?_
 refine ar (LY fuel 4 _ (by rw[qi];omega) s) λ_ _=>?_
 refine aW (λx=>x.2.1=p/\x.2.2=e) (aR (λ_=>ai ⟨rfl,eV e⟩) λ_=>ai ⟨rfl,eV e⟩) ?_;rintro⟨r,z,e'⟩ ⟨q,d⟩;dsimp only at q d;have q:=q.symm;subst q;have d:=d.symm;subst d;exact aJ (λ_=>ai trivial) λ_=>ar (EO p hp t fuel 4 _ (by rw[qi];omega) s) λ_ _=>ai trivial
theorem e_ (b:Bool):Ok (c9 b) λ_=>True:=by
 unfold c9;exact aJ (λ_=>ai trivial) λ_=>ai trivial
theorem tb (x:Γ):Ok (ji x) λr=>r=0->x.1=0/\x.2=0:=by
 unfold ji iA;exact bW (λh=>ai λh2=>(h h2).elim) λh=>ai λh2=>⟨h,h2⟩
abbrev WK:Type:=(Y DT×Y HT×Int)×(Bool×Y Sx)×Y ζ×Y ζ
theorem V4 (a b:Int) (s:ζ) (w:WK) (h:w.2.1.2.length<=100):Ok (ej ((a,b,s),w)) λy=>y.2=w:=by
 unfold ej aX bi bx kF aY cH aB ct;refine cf w.2.1.2.length (λi x=>x.1=(i:Int)/\x.2=w) ?_ ?_ ⟨rfl,rfl⟩
 .rintro i ⟨c,x⟩ hi ⟨e1,e2⟩;dsimp only at e1 e2;subst e1;have e2:=e2.symm;subst e2;refine aR (λ_=>?_) λg=>(by dsimp only[aj]at g;omega)
  refine aK (by dsimp only;omega) (by dsimp only;omega) (aK (by dsimp only;omega) (by dsimp only;omega) (aV ?_));refine aW (λx=>x.2=w) ?_ ?_
  .refine aF (λ_=>aF (λ_=>ai rfl) λ_=>ai rfl) λ_=>aF (λ_=>aF (λ_=>ai rfl) λ_=>ai rfl) λ_=>ai rfl
  rintro⟨c,x⟩ e;dsimp only at e;have e:=e.symm;subst e;exact aJ (λ_=>ai rfl) λ_=>ai ⟨fk (by omega),rfl⟩
 .rintro⟨c,x⟩ ⟨e1,e2⟩;dsimp only at e1 e2;subst e1;have e2:=e2.symm;subst e2;exact aR (λg=>(by dsimp only[aj]at g;omega)) λ_=>ai rfl
theorem DP:∀(n d:Nat) (l:Y Sx),d<n->l.length<=1000->(∀s∈l,GT d s)->Ok (pq n l) λ_=>True
 |0,_,_,h,_,_=>by omega
 |n+1,d,l,hn,hl,h=>by
  rw[F5];unfold ww bx mF aY cH aB ct;refine cf l.length (λi x=>x.2=(i:Int)) ?_ ?_ rfl
  .rintro i ⟨a,b⟩ hi e1;dsimp only at e1;subst e1;refine aR (λ_=>?_) λg=>(by dsimp only[aj]at g;omega)
   refine aK (by dsimp only;omega) (by dsimp only;omega) (aV ?_);have hm:=h _ (bH (T:=.sm) (xs:=l) (j:=(i:Int)) (by omega) (by omega));revert hm;generalize (aH (T:=.sm) l (i:Int))=s;intro hm;cases d with
   |zero=>exact hm.elim
   |succ d=>
    obtain⟨_,_,_,D,A,z,q⟩:=hm;refine ar (DP n d _ (by omega) (by omega) z) λ_ _=>?_
    refine aK (by dsimp only;omega) (by dsimp only;omega) (aV ?_);exact ar (DP n d _ (by omega) (by omega) q) λ_ _=>ai (fk (by omega))
  .rintro⟨a,b⟩ e1;dsimp only at e1;subst e1;exact aR (λg=>(by dsimp only[aj]at g;omega)) λ_=>ai trivial
theorem Tf (l:Y DT) (hl:l.length<=100):Ok (tu l) λ_=>True:=by
 unfold tu aX bh bk bn cI dI bi bx ja iA bp bF aY cH aB ct;refine cf l.length (λi x=>x.2.2.2.2=(i:Int)) ?_ ?_ rfl
 .rintro i ⟨a,b,c,d,e⟩ hi e1;dsimp only at e1;subst e1;refine aR (λ_=>?_) λg=>(by dsimp only[aj]at g;omega)
  refine aW (λ_=>True) ?_ λx _=>ai (fk (by omega))
  refine aK (by dsimp only;omega) (by dsimp only;omega) (aV ?_);have htk:(dh (aP (i:Int)) l).length<=100:=by rw[b_];omega
  refine cR (du (by dsimp only;omega) (du (by dsimp only;omega) ?_));refine ar (vU _ _ (cW htk (by omega))) λv hv=>?_
  refine dT (λ_=>ai trivial) λ_=>aR (λ_=>ai trivial) λ_=>?_
  refine aW (λ_=>True) ?_ λx _=>?_
  .refine aW (λ_=>True) (aF (λ_=>ai trivial) λ_=>ai trivial) λx _=>aJ (λ_=>ai trivial) λ_=>?_
   refine aW (λ_=>True) (aF (λ_=>ai trivial) λ_=>ai trivial) λx _=>aJ (λ_=>ai trivial) λ_=>?_
   exact aF (λ_=>ai trivial) λ_=>ai trivial
  refine aW (λ_=>True) (aR (λ_=>ai trivial) λ_=>aR (λ_=>ai trivial) λ_=>aR (λ_=>ai trivial) λ_=>ai trivial) λx _=>aJ (λ_=>ai trivial) λ_=>?_
  refine aF (λ_=>?_) λ_=>ai trivial
  refine cR (du (by dsimp only;omega) (du (by dsimp only;omega) ?_));refine ar (vU _ _ (cW htk (by omega))) λv hv=>?_
  refine aR (λ_=>ai trivial) λg=>?_
  have h2:=hv.2;rw[b_]at h2;exact aK g (by dsimp only at h2 ⊢;omega) (aV (bW (λ_=>ai trivial) λ_=>ai trivial))
 .rintro⟨a,b,c,d,e⟩ e1;dsimp only at e1;subst e1;exact aR (λg=>(by dsimp only[aj]at g;omega)) λ_=>ai trivial
theorem MI (p:PG) (h:PX p):Ok (pZ p) λ_=>True:=by
 have hd:=h.d;have ht:=h.t;unfold pZ aX bh bk bx ja bp bF aY cH aB ct;refine cf p.2.length (λi x=>x.1=(i:Int)/\x.2=p) ?_ ?_ ⟨rfl,rfl⟩
 .rintro i ⟨a,x⟩ hi ⟨e1,e2⟩;dsimp only at e1 e2;subst e1;have e2:=e2.symm;subst e2;refine aR (λ_=>?_) λg=>(by dsimp only[aj]at g;omega)
  refine aK (by dsimp only;omega) (by dsimp only;omega) (aV ?_);refine aW (λx=>x.2.1=p) ?_ ?_
  .refine ar (vU _ _ (by dsimp only;omega)) λv hv=>dT (λ_=>ai rfl) λ_=>?_
   refine cR (du (by dsimp only;omega) (du (by dsimp only;omega) ?_));exact ar (r7 _ _ (by rw[b_];dsimp only;omega)) λ_ _=>ai rfl
  rintro⟨b,x,z⟩ e;dsimp only at e;have e:=e.symm;subst e;exact aJ (λ_=>ai trivial) λ_=>ai ⟨fk (by omega),rfl⟩
 rintro⟨a,x⟩ ⟨e1,e2⟩;dsimp only at e1 e2;subst e1;have e2:=e2.symm;subst e2;refine aR (λg=>(by dsimp only[aj]at g;omega)) λ_=>?_
 refine ar (P:=λ_=>True) ?_ λ_ _=>ai trivial
 refine cf p.2.length (λi x=>x.1=(i:Int)/\x.2=p) ?_ ?_ ⟨rfl,rfl⟩
 .rintro i ⟨a,x⟩ hi ⟨e1,e2⟩;dsimp only at e1 e2;subst e1;have e2:=e2.symm;subst e2;refine aR (λ_=>?_) λg=>(by dsimp only[aj]at g;omega)
  refine aK (by dsimp only;omega) (by dsimp only;omega) (aV ?_);have hm:=h.l _ (bH (T:=Hc) (xs:=p.2) (j:=(i:Int)) (by omega) (by omega));revert hm;generalize (aH (T:=Hc) p.2 (i:Int))=t;intro hm;refine aR (λ_=>ai trivial) λ_=>?_
  refine cf t.2.2.1.length (λk y=>y.1=(k:Int)/\y.2=(p,t)) ?_ ?_ ⟨rfl,rfl⟩
  .rintro k ⟨a,z⟩ hk ⟨s,q⟩;dsimp only at s q;subst s;subst q;refine aR (λ_=>?_) λg=>(by dsimp only[aj]at g;omega)
   refine aK (by dsimp only;omega) (by dsimp only;omega) (aV ?_);refine aW (λx=>x.2=(p,t)) ?_ ?_
   .refine ar (vU _ _ (by dsimp only;omega)) λv hv=>dT (λ_=>ai rfl) λ_=>?_
    refine ar (r7 _ _ (by dsimp only;omega)) λv hv=>dT (λ_=>ai rfl) λ_=>?_
    refine cR (du (by dsimp only;omega) (du (by dsimp only;omega) ?_));exact ar (Ar _ _ (by rw[b_];dsimp only;omega)) λ_ _=>ai rfl
   rintro⟨b,x⟩ e;dsimp only at e;subst e;exact aJ (λ_=>ai trivial) λ_=>ai ⟨fk (by omega),rfl⟩
  .rintro⟨a,z⟩ ⟨s,q⟩;dsimp only at s q;subst s;subst q;exact aR (λg=>(by dsimp only[aj]at g;omega)) λ_=>ai ⟨fk (by omega),rfl⟩
 .rintro⟨a,x⟩ ⟨e1,e2⟩;dsimp only at e1 e2;subst e1;have e2:=e2.symm;subst e2;exact aR (λg=>(by dsimp only[aj]at g;omega)) λ_=>ai trivial
structure WQ (w:WK) (y:Int×WK):Prop where
 p:y.2.1=w.1
 a:y.2.2.1=w.2.1
 s:y.2.2.2.1.length<=w.2.2.1.length+1
 t:y.2.2.2.2.length<=w.2.2.2.length+1
theorem WQ.same (w:WK) (e:Int):WQ w (e,w):=⟨rfl,rfl,Nat.le_succ _,Nat.le_succ _⟩
theorem aeq (s:Sx) (D:Y DT) (T:Y HT) (t:Int) (A:Bool×Y Sx) (sp se:Y ζ) (hp:PX (D,T)) (hA:A.2.length<=100) (h1:sp.length<=100000000) (h2:se.length<=100000000) (z:∀e∈s.index,GX 4 e) (he:GX 4 s.expr):Ok (ol (s,((D,T,t),A,sp,se))) (WQ ((D,T,t),A,sp,se)):=by
 have hex:GX 4 (d8 (Xp.op s.expr,Xp.n s.expr,Xp.name s.expr,Xp.l s.expr)):=by rw[eV];exact he
 have hin:∀(a b:Int) (n:ζ),Ok (ej ((a,b,n),((D,T,t),A,sp,se))) λy=>y.2=((D,T,t),A,sp,se):=λa b n=>V4 a b n _ hA
 have hth:T.length<=1000:=by have:=hp.t;dsimp only at this;omega
 have hdl:D.length<=1000:=by have:=hp.d;dsimp only at this;omega
 have sm:∀e,WQ ((D,T,t),A,sp,se) (e,((D,T,t),A,sp,se)):=WQ.same _;unfold ol aX bh bk bS bn cI cC dI bi ja iA bp bF aB dW;refine ar (hin _ _ _) λy q=>?_
 obtain⟨b1,F⟩:=y;dsimp only at q;subst q;refine a8 (by simp) ?_;refine ar (hin _ _ _) λy q=>?_
 obtain⟨b2,F⟩:=y;dsimp only at q;subst q;refine a8 (by simp) ?_;refine ar (hin _ _ _) λy q=>?_
 obtain⟨L,F⟩:=y;dsimp only at q;subst q;refine a8 (by simp) ?_;refine aF (λ_=>?_) λ_=>?_
 .refine aF (λ_=>?_) λg=>?_
  .exact ar (oK _ hp _ _ _ _) λ_ _=>ar (vT _ hp _ _ hex) λ_ _=>ar (tb _) λ_ _=>ai (sm _)
  .refine ar (oK _ hp _ _ _ _) λ_ _=>?_
   dsimp only[aj]at g;refine aK (by omega) (by dsimp only;omega) (aV ?_);refine ar (vT _ hp _ _ (z _ (bH (T:=.ex) (xs:=s.index) (j:=0) (by omega) (by omega)))) λ_ _=>?_
   exact ar (vT _ hp _ _ hex) λ_ _=>ar (tb _) λ_ _=>ar (tb _) λ_ _=>ai (sm _)
 refine aW (λx=>x.2=((D,T,t),A,s,(D,T),sp,se)) (aF (λ_=>ai (by dsimp only;rw[xC])) λ_=>ai (by dsimp only;rw[xC])) ?_;rintro⟨b,x⟩ e;dsimp only at e;subst e;refine aJ (λ_=>ar (vT _ hp _ _ hex) λ_ _=>ai (sm _)) λ_=>?_
 refine aF (λ_=>?_) λ_=>?_
 .refine aW (λx=>WQ ((D,T,t),A,sp,se) x) ?_ λx z=>ai z
  refine ar (oK _ hp _ _ _ _) λ_ _=>aJ (λ_=>?_) λ_=>?_
  .exact ar (e_ _) λ_ _=>ar (tb _) λ_ _=>ai (sm _)
  .refine ar (hin _ _ _) λy q=>?_
   obtain⟨I,F⟩:=y;dsimp only at q;subst q;exact a8 (by simp) (ar (e_ _) λ_ _=>ar (tb _) λ_ _=>ai (sm _))
 refine aW (λx=>x.2=((D,T,t),A,s,(D,T),sp,se)) (aF (λ_=>ai (by dsimp only;rw[xC])) λ_=>ai (by dsimp only;rw[xC])) ?_;rintro⟨b,x⟩ e;dsimp only at e;subst e;refine aJ (λ_=>?_) λ_=>?_
 .refine aW (λx=>WQ ((D,T,t),A,sp,se) x) ?_ λx z=>ai z
  refine ar (oK _ hp _ _ _ _) λ_ _=>aJ (λ_=>?_) λ_=>?_
  .exact ar (e_ _) λ_ _=>ar (tb _) λ_ _=>ai (sm _)
  .refine ar (hin _ _ _) λy q=>?_
   obtain⟨I,F⟩:=y;dsimp only at q;subst q;exact a8 (by simp) (ar (e_ _) λ_ _=>ar (tb _) λ_ _=>ai (sm _))
 refine aF (λ_=>ar (e_ _) λ_ _=>ai (sm _)) λ_=>?_
 refine aF (λ_=>?_) λ_=>?_
 .refine aW (λx=>WQ ((D,T,t),A,sp,se) x) ?_ λx z=>ai z
  exact aJ (λ_=>ar (e_ _) λ_ _=>ai (sm _)) λ_=>ar (e_ _) λ_ _=>ai (sm _)
 refine aW (λx=>x.2=((D,T,t),A,s,(D,T),sp,se)) (aF (λ_=>ai (by dsimp only;rw[xC])) λ_=>aF (λ_=>ai (by dsimp only;rw[xC])) λ_=>ai (by dsimp only;rw[xC])) ?_;rintro⟨b,x⟩ e;dsimp only at e;subst e;refine aJ (λ_=>?_) λ_=>?_
 .refine ar (oK _ hp _ _ _ _) λr hr=>bW (λ_=>ai (sm _)) λg=>?_
  obtain⟨v,hv,v0,v1⟩:=hr g (by omega) (by omega);refine aQ hv (aK v0 v1 (aV ?_));refine ar (hin _ _ _) λy q=>?_
  obtain⟨I,F⟩:=y;dsimp only at q;subst q;refine a8 (by simp) ?_;refine aW (λx=>WQ ((D,T,t),A,sp,se) x) ?_ λx z=>ai z
  refine aJ (λ_=>ar (e_ _) λ_ _=>ai (sm _)) λ_=>cQ (λ_=>ar (e_ _) λ_ _=>ai (sm _)) λ_=>?_
  exact aF (λ_=>ar (e_ _) λ_ _=>ai (sm _)) λ_=>ar (e_ _) λ_ _=>ai (sm _)
 refine aF (λ_=>?_) λ_=>?_
 .refine ar (oK _ hp _ _ _ _) λr hr=>bW (λ_=>ai (sm _)) λg=>?_
  refine ar (r7 T _ hth) λv hv=>?_
  refine aW (λx=>x.2=((D,T,t),A,s,sp,se)) ?_ ?_
  .refine aJ (λ_=>ai (by dsimp only;rw[xC])) λ_=>aJ (λ_=>ai (by dsimp only;rw[xC])) λ_=>aJ (λ_=>ai (by dsimp only;rw[xC])) λ_=>aF (λ_=>ai (by dsimp only;rw[xC])) λ_=>ai (by dsimp only;rw[xC])
  rintro⟨b,x⟩ e;dsimp only at e;subst e;refine aJ (λ_=>ai (sm _)) λ_=>?_
  refine ar (Ar sp _ (by omega)) λ_ _=>dT (λ_=>ai (sm _)) λ_=>?_
  exact a_ (by simp;omega) (by omega) (ai ⟨rfl,rfl,by simp,Nat.le_succ _⟩)
 refine aF (λ_=>?_) λ_=>?_
 .refine aW (λx=>WQ ((D,T,t),A,sp,se) x) ?_ λx z=>ai z
  refine ar (oK _ hp _ _ _ _) λr hr=>?_
  refine aJ (λ_=>ar (e_ _) λ_ _=>ar (tb _) λ_ _=>ai (sm _)) λ_=>?_
  refine aJ (λ_=>ar (e_ _) λ_ _=>ar (tb _) λ_ _=>ai (sm _)) λ_=>?_
  exact ar (r7 T _ hth) λv hv=>ar (e_ _) λ_ _=>ar (tb _) λ_ _=>ai (sm _)
 refine aF (λ_=>?_) λ_=>?_
 .refine aW (λx=>x.2=((D,T,t),A,s,(D,T),sp,se)) ?_ ?_
  .refine ar (oK _ hp _ _ _ _) λr hr=>?_
   exact aJ (λ_=>ar (e_ _) λ_ _=>ar (tb _) λ_ _=>ai (by dsimp only;rw[xC])) λ_=>ar (e_ _) λ_ _=>ar (tb _) λ_ _=>ai (by dsimp only;rw[xC])
  rintro⟨b,x⟩ e;dsimp only at e;subst e;refine aW (λx=>x.2=((D,T,t),A,s,(D,T),sp,se)) ?_ ?_
  .refine aW (λx=>x.2=((D,T,t),A,s,(D,T),sp,se)) ?_ ?_
   .exact aF (λ_=>ar (Ar se _ (by omega)) λ_ _=>ai (by dsimp only;rw[xC])) λ_=>ai (by dsimp only;rw[xC])
   rintro⟨b,x⟩ e;dsimp only at e;subst e;exact aJ (λ_=>ai (by dsimp only;rw[xC])) λ_=>ai (by dsimp only;rw[xC])
  rintro⟨b,x⟩ e;dsimp only at e;subst e;refine a_ (by simp;omega) (by omega) ?_;exact ar (vT _ hp _ _ hex) λ_ _=>ar (tb _) λ_ _=>ai ⟨rfl,rfl,Nat.le_succ _,by simp⟩
 exact ar (oK _ hp _ _ _ _) λ_ _=>ar (oK _ hp _ _ _ _) λ_ _=>ar (e_ _) λ_ _=>ar (tb _) λ_ _=>ar (tb _) λ_ _=>ai (sm _)
def KS:Nat->Nat
 |0=>0
 |d+1=>1+16*KS d
abbrev RA4:Type:=(Y Sx×WK)->J (Γ×WK)
structure QA (l:List Sx) (d:Nat) (w:WK) (y:Γ×WK):Prop where
 p:y.2.1=w.1
 a:y.2.2.1.2.length=w.2.1.2.length
 s:y.2.2.2.1.length<=w.2.2.1.length+l.length*KS d
 t:y.2.2.2.2.length<=w.2.2.2.length+l.length*KS d
def SpA (rr:RA4) (d:Nat):Prop:=∀(l:Y Sx) (w:WK),l.length<=100->(∀s∈l,GT d s)->PX (w.1.1,w.1.2.1)->w.2.1.2.length+d<=50->w.2.2.1.length+l.length*KS d<=100000000->w.2.2.2.length+l.length*KS d<=100000000->Ok (rr (l,w)) (QA l d w)
theorem abq (rr:RA4) (d:Nat) (hr:∀d',d=d'+1->SpA rr d'):SpA (rD rr) d:=by
 rintro l ⟨⟨D,T,t⟩,A,sp,se⟩ hl hg hp hA h1 h2;dsimp only at hp hA h1 h2;have hK:∀i:Nat,i<=l.length->i*KS d<=l.length*KS d:=λi hi=>cr _ hi
 unfold rD aX bh bk bn cI cC ck bi bx iA bp bF aY cH aB ct dW;refine cf l.length (λi x=>x.1=(i:Int)/\x.2.1=(D,T,t)/\x.2.2.1.2.length=A.2.length/\x.2.2.2.1.length<=sp.length+i*KS d/\x.2.2.2.2.length<=se.length+i*KS d) ?_ ?_ ⟨rfl,rfl,rfl,by simp,by simp⟩
 .rintro i ⟨a,P,A',sp',se'⟩ hi ⟨e1,e2,e3,e4,z⟩;dsimp only at e1 e2 e3 e4 z;subst e1;subst e2;have hKi:=hK (i+1) (by omega);have hKs:=iL i (KS d);rw[Nat.succ_eq_add_one]at hKs;refine aR (λ_=>?_) λg=>(by dsimp only[aj]at g;omega)
  refine aK (by dsimp only;omega) (by dsimp only;omega) (aV ?_);have hm:=hg _ (bH (T:=.sm) (xs:=l) (j:=(i:Int)) (by omega) (by omega));revert hm;generalize (aH (T:=.sm) l (i:Int))=s;intro hm;cases d with
  |zero=>exact hm.elim
  |succ d=>
   have L:=hr d rfl;obtain⟨_,g2,g3,g4,g5,g6,g7⟩:=hm;have hk:KS (d+1)=1+16*KS d:=rfl;have kb:s.body.length*KS d<=8*KS d:=cr _ g4;have ke:s.els.length*KS d<=8*KS d:=cr _ g5;dsimp only;rw[xC];refine ar (aeq s D T t A' sp' se' hp (by omega) (by omega) (by omega) g2 g3) λy q=>?_
   obtain⟨e,P2,A2,sp2,se2⟩:=y;obtain⟨q1,q2,q3,q4⟩:=q;dsimp only at q1 q2 q3 q4;subst q1;subst q2;refine a8 (by simp) ?_;refine aW (λx=>x.2=((D,T,t),s,A2,sp2,se2)) (aR (λ_=>ai rfl) λ_=>ai rfl) ?_;rintro⟨e,x⟩ ex;dsimp only at ex;subst ex;refine bW (λ_=>ai ⟨rfl,e3,by dsimp only;omega,by dsimp only;omega⟩) λ_=>?_
   refine a_ (by simp;omega) (by omega) (aK (by simp) (by simp;omega) (aK (by simp) (by simp;omega) ?_));dsimp only;rw[xC];refine ar (L s.body ((D,T,t),(A2.1,cJ (A2.2++[_]) _ s),sp2,se2) (by omega) g6 hp ?_ ?_ ?_) λy q=>?_
   .dsimp only;rw[cM];simp;omega
   .dsimp only;omega
   .dsimp only;omega
   obtain⟨e6,P6,A6,sp6,se6⟩:=y;obtain⟨q1,q2,q5,q6⟩:=q;dsimp only at q1 q2 q5 q6;subst q1;rw[cM,bY,cP]at q2;refine a8 (by simp) ?_;refine aW (λx=>x.2.1=(D,T,t)/\x.2.2.1.2.length=A2.2.length+1/\x.2.2.2.1.length<=sp2.length+16*KS d/\x.2.2.2.2.length<=se2.length+16*KS d) ?_ ?_
   .refine aF (λ_=>?_) λ_=>ai ⟨rfl,q2,by dsimp only;omega,by dsimp only;omega⟩
    refine ar (L s.els ((D,T,t),A6,sp6,se6) (by omega) g7 hp (by dsimp only;omega) (by dsimp only;omega) (by dsimp only;omega)) λy q=>?_
    obtain⟨e7,P7,A7,sp7,se7⟩:=y;obtain⟨r1,r2,I,F⟩:=q;dsimp only at r1 r2 I F;subst r1;exact a8 (by simp) (ai ⟨rfl,r2.trans q2,by dsimp only;omega,by dsimp only;omega⟩)
   rintro⟨e8,P8,A8,sp8,se8⟩ ⟨r1,r2,I,F⟩;dsimp only at r1 r2 I F;subst r1;have el:aZ .i64 ((aT A8.2.length)-1)=(A2.2.length:Int):=by
    rw[r2,gF (by simp<;>omega) (by simp<;>omega)];simp<;>omega
   dsimp only;rw[el];have tk:(dh (aP (A2.2.length:Int)) A8.2).length=A2.2.length:=by rw[b_];omega
   refine cR (du (by omega) (rx (by rw[r2];omega) ?_));refine bW (λ_=>ai ⟨rfl,by dsimp only;omega,by dsimp only;omega,by dsimp only;omega⟩) λ_=>ai ?_
   exact⟨fk (by omega),rfl,by dsimp only;omega,by dsimp only;omega,by dsimp only;omega⟩
 .rintro⟨a,P,A',sp',se'⟩ ⟨e1,e2,e3,e4,z⟩;dsimp only at e1 e2 e3 e4 z;subst e1;subst e2;exact aR (λg=>(by dsimp only[aj]at g;omega)) λ_=>ai ⟨rfl,e3,e4,z⟩
theorem U8:∀(n d:Nat),d<n->SpA (me n) d
 |0,_,h=>by omega
 |n+1,d,h=>abq (me n) d λq hd=>U8 n q (by omega)
theorem CW (p:PG) (h:PX p):Ok (ki p) λ_=>True:=by
 have hd:=h.d;have ht:=h.t;unfold ki aX bh bk bn cC bx iA bp bF aY cH aB ct;refine ar (Xf p h) λ_ _=>cQ (λ_=>ai trivial) λ_=>?_
 refine ar (Tf p.1 hd) λ_ _=>bW (λ_=>ai trivial) λ_=>aR (λ_=>ai trivial) λ_=>?_
 refine ar (MI p h) λ_ _=>bW (λ_=>ai trivial) λ_=>?_
 refine cf p.2.length (λi x=>x.1.2=(i:Int)/\x.2=p) ?_ ?_ ⟨rfl,rfl⟩
 .rintro i ⟨⟨c,a⟩,x⟩ hi ⟨e1,e2⟩;dsimp only at e1 e2;subst e1;have e2:=e2.symm;subst e2;refine aR (λ_=>?_) λg=>(by dsimp only[aj]at g;omega)
  refine aK (by dsimp only;omega) (by dsimp only;omega) (aV ?_);have hm:=bH (T:=Hc) (xs:=p.2) (j:=(i:Int)) (by omega) (by omega);have hb:=h.b _ hm;exact ar (DP fuel 5 _ (by rw[qi];omega) (cW hb (by omega)) (h.s _ hm)) λ_ _=>ai ⟨fk (by omega),rfl⟩
 rintro⟨⟨c,a⟩,x⟩ ⟨e1,e2⟩;dsimp only at e1 e2;subst e1;have e2:=e2.symm;subst e2;refine aR (λg=>(by dsimp only[aj]at g;omega)) λ_=>?_
 refine ar (P:=λ_=>True) ?_ λ_ _=>ai trivial
 refine aR (λ_=>ai trivial) λ_=>?_
 refine cf p.2.length (λi x=>x.1=(i:Int)/\x.2.1=p/\x.2.2.1.1=p.1/\x.2.2.1.2.1=p.2/\x.2.2.2.1.2.length=0/\x.2.2.2.2.1.length<=i*6990500/\x.2.2.2.2.2.length<=i*6990500) ?_ ?_ ⟨rfl,rfl,rfl,rfl,rfl,by simp,by simp⟩
 .rintro i ⟨a,x,⟨D,T,t⟩,A,sp,se⟩ hi ⟨e1,e2,e3,e4,I,F,z⟩;dsimp only at e1 e2 e3 e4 I F z;subst e1;have e2:=e2.symm;subst e2;subst e3;subst e4;refine aR (λ_=>?_) λg=>(by dsimp only[aj]at g;omega)
  refine aK (by dsimp only;omega) (by dsimp only;omega) (aV ?_);have hm:=bH (T:=Hc) (xs:=p.2) (j:=(i:Int)) (by omega) (by omega);have hb:=h.b _ hm;have hs:=h.s _ hm;revert hb hs;dsimp only;generalize (aH (T:=Hc) p.2 (i:Int))=th;intro hb hs;have hk:KS 5=69905:=rfl;have hle:th.2.2.2.length*KS 5<=100*KS 5:=cr _ hb;rw[hk]at hle;refine ar (U8 fuel 5 (by rw[qi];omega) th.2.2.2 ((p.1,p.2,(i:Int)),A,sp,se) hb hs h (by dsimp only;omega) (by dsimp only;rw[hk];omega) (by dsimp only;rw[hk];omega)) λy q=>?_
  obtain⟨e,L,A2,sp2,se2⟩:=y;obtain⟨q1,q2,q3,q4⟩:=q;dsimp only at q1 q2 q3 q4;subst q1;rw[hk]at q3 q4;refine a8 (by simp) (bW (λ_=>ai trivial) λ_=>ai ?_);exact⟨fk (by omega),rfl,rfl,rfl,by dsimp only;omega,by dsimp only;omega,by dsimp only;omega⟩
 .rintro⟨a,x,P,w⟩ ⟨e1,e2,_⟩;dsimp only at e1 e2;subst e1;have e2:=e2.symm;subst e2;exact aR (λg=>(by dsimp only[aj]at g;omega)) λ_=>ai trivial
def D0:Y DT:=[(1,0,[120],0,0,[]),(1,0,[121],0,1,[]),(2,0,[118],0,0,[]),(1,0,[113],2,0,[]),(3,0,[109],0,0,[]),(3,0,[110],0,0,[]),(4,0,[114],0,0,[]),(5,0,[99],0,0,[109]),(6,0,[102],0,0,[])]
def L0:Y ζ:=[[97],[98]]
structure TM (t:HT):Prop where
 l:t.2.2.1=L0
 b:t.2.2.2.length<=8
 s:∀s∈t.2.2.2,GS 3 s
structure PJ (p:PG):Prop where
 d:p.1=D0
 t:p.2.length<=4
 m:∀t∈p.2,TM t
theorem PJ.x {p:PG} (h:PJ p):PX p:=⟨by rw[h.d];decide,by have:=h.t;omega,λt ht=>by rw[(h.m t ht).l];decide,λt ht=>by have:=(h.m t ht).b;omega,λt ht s hs=>((h.m t ht).s s hs).le (by omega:3<=5) |>.t⟩
theorem Qj:rS ()=Z D0:=rfl
theorem OG (op:Int) (n:ζ) (q:4<=op/\op≠14):GS 3 (ov (op,0,n,[],[],d8 (0,0,[],[]),[],[])):=GS.wo q (by simp) λx d=>(by cases d)
theorem FE (x:η) (hl:x.length<=9223372036854775807) (hx:∀z∈x,0<=z/\z<=255):Ok (oq x) PJ:=by
 unfold oq aX bh bk bS da ip ug bn dI gG nl Prod.q9 bi bx iA bp kF cH aB ct dW;refine aQ Qj ?_;refine ar (gi 3 (x,0) ⟨hl,hx,by dsimp only;omega,by dsimp only;omega⟩) λy hy=>?_
 obtain⟨n,t0⟩:=y;obtain⟨s0,n0,n1,_⟩:=hy;have n1:=n1 (by decide);dsimp only at s0 n0 n1;have ew:aZ .i64 (2+n)=2+n:=gF (by omega) (by omega);refine cf (2+n).toNat (λi x=>x.1=(i:Int)/\x.2.2.1=D0/\x.2.2.2.1.length=4/\TP x.2.2.2.2.1/\x.2.2.2.2.2.1.2=[]/\x.2.2.2.2.2.2.length=i/\∀t∈x.2.2.2.2.2.2,TM t) ?_ ?_ ⟨rfl,rfl,rfl,s0.p,rfl,rfl,λt ht=>(by cases ht)⟩
 .rintro i ⟨a,m,D,N,t,h,th⟩ hi ⟨e1,e2,e3,e4,e5,e6,e7⟩;dsimp only at e1 e2 e3 e4 e5 e6 e7;subst e1;subst e2;refine aR (λg=>?_) λg=>(by dsimp only at g;rw[ew]at g;omega)
  refine aK (by dsimp only;omega) (by dsimp only;omega) (aK (by dsimp only;omega) (by dsimp only;omega) (aV ?_));refine aW (λx=>x.2.1=D0/\x.2.2.1.length=4/\TP x.2.2.2.2.1/\x.2.2.2.2.2.1.2=[]/\x.2.2.2.2.2.2.1=th/\x.2.2.2.2.2.2.2.1=L0/\x.2.2.2.2.2.2.2.2.length<=3/\∀s∈x.2.2.2.2.2.2.2.2,GS 3 s) ?_ ?_
  .refine aF (λ_=>?_) λ_=>ai ⟨rfl,e3,e4,e5,rfl,rfl,by simp,λs hs=>(by cases hs)⟩
   refine cf (1+n).toNat (λk x=>x.1=1+(k:Int)/\x.2.2.1=D0/\x.2.2.2.1.length=4/\TP x.2.2.2.2.2.1/\x.2.2.2.2.2.2.1.2=[]/\x.2.2.2.2.2.2.2.1=th/\x.2.2.2.2.2.2.2.2.1=L0/\x.2.2.2.2.2.2.2.2.2.length<=k/\∀s∈x.2.2.2.2.2.2.2.2.2,GS 3 s) ?_ ?_ ⟨rfl,rfl,e3,e4,e5,rfl,rfl,by simp,λs hs=>(by cases hs)⟩
   .rintro k ⟨c,m1,D1,N1,z1,t1,h1,th1,l1,b1⟩ hk ⟨f1,L,f3,I,d,F,A,f8,q⟩;dsimp only at f1 L f3 I d F A f8 q;subst f1;refine aR (λ_=>?_) λg=>(by dsimp only at g;rw[ew]at g;omega)
    refine aK (by dsimp only;omega) (by dsimp only;omega) (aK (by dsimp only;omega) (by dsimp only;omega) (aV ?_));refine a_ (by simp;omega) (by omega) (ai ?_);dsimp only;rw[gF (n:=1+(k:Int)+1) (by omega) (by omega)];refine ⟨by omega,L,f3,I,d,F,A,by simp;omega,λs hs=>?_⟩;rcases bN.1 hs with hs|hs
    .exact q s hs
    .rw[aI]at hs;rw[hs];exact OG 12 _ (by omega)
   .rintro⟨c,m1,D1,N1,z1,t1,h1,th1,l1,b1⟩ ⟨f1,L,f3,I,d,F,A,f8,q⟩;dsimp only at f1 L f3 I d F A f8 q;subst f1;refine aR (λg=>(by dsimp only at g;rw[ew]at g;omega)) λ_=>ai ?_
    exact⟨L,f3,I,d,F,A,by dsimp only;omega,q⟩
  rintro⟨m1,D1,N1,z1,t1,h1,th1,l1,b1⟩ ⟨L,f3,I,d,F,A,f8,q⟩;dsimp only at L f3 I d F A f8 q;subst L;subst F;subst A;refine ar (gi 3 t1 I) λy hy=>?_
  obtain⟨k2,t2⟩:=y;obtain⟨u1,u2,u3,_⟩:=hy;have u3:=u3 (by decide);dsimp only at u1 u2 u3;dsimp only;rw[gF (n:=1+k2) (by omega) (by omega)];refine ar (VX 2 (by omega) (1+k2) m1 t2 h1 (by omega) u1.p (by rw[d];simp)) λy hy=>?_
  obtain⟨m3,t3,h3,l3⟩:=y;obtain⟨w1,w2,w3,w4⟩:=hy;dsimp only at w1 w2 w3 w4;refine a8 (by simp) (a_ (by simp;omega) (by omega) ?_);have hbody:∀s∈b1++l3,GS 3 s:=λs hs=>by
   rcases bN.1 hs with hs|hs
   .exact q s hs
   .exact w2 s hs
  have hlen:(b1++l3).length<=6:=by rw[bY];omega
  refine aW (λx=>x.2.1=D0/\x.2.2.1.length=4/\TP x.2.2.2.2.1/\x.2.2.2.2.2.1.2=[]/\x.2.2.2.2.2.2.1=th1/\x.2.2.2.2.2.2.2.1=L0/\x.2.2.2.2.2.2.2.2.length<=8/\∀s∈x.2.2.2.2.2.2.2.2,GS 3 s) ?_ ?_
  .refine aW (λx=>x.2.2.1=D0/\x.2.2.2.1.length=4/\TP x.2.2.2.2.2.1/\x.2.2.2.2.2.2.1.2=[]/\x.2.2.2.2.2.2.2.1=th1/\x.2.2.2.2.2.2.2.2.1=L0/\x.2.2.2.2.2.2.2.2.2=b1++l3) ?_ ?_
   .refine aF (λ_=>?_) λ_=>ai ⟨rfl,f3,w3.p,w4.trans d,rfl,rfl,rfl⟩
    exact ar (gi 3 t3 w3.p) λy hy=>ai ⟨rfl,f3,hy.1.p,w4.trans d,rfl,rfl,rfl⟩
   rintro⟨b,m4,D4,N4,z4,t4,h4,th4,l4,b4⟩ ⟨p2,p3,p4,p5,p6,p7,p8⟩;dsimp only at p2 p3 p4 p5 p6 p7 p8;subst p2;subst p6;subst p7;subst p8;refine aJ (λ_=>?_) λ_=>ai ⟨rfl,p3,p4,p5,rfl,rfl,by dsimp only;omega,hbody⟩
   refine aK (by omega) (by dsimp only;omega) (aK (by omega) (by dsimp only;omega) (aV ?_));refine a_ (by simp at hlen ⊢;omega) (by omega) (ai ⟨rfl,p3,p4,p5,rfl,rfl,by dsimp only;rw[bY,cP];omega,λs hs=>?_⟩);rcases bN.1 hs with hs|hs
   .exact hbody s hs
   .rw[aI]at hs;rw[hs];exact OG 13 _ (by omega)
  rintro⟨m4,D4,N4,z4,t4,h4,th4,l4,b4⟩ ⟨p2,p3,p4,p5,p6,p7,p8,p9⟩;dsimp only at p2 p3 p4 p5 p6 p7 p8 p9;subst p2;subst p6;subst p7;refine a_ (by simp;omega) (by omega) (ai ?_);dsimp only;refine ⟨fk (by omega),rfl,p3,p4,p5,by simp;omega,λt ht=>?_⟩;rcases bN.1 ht with ht|ht
  .exact e7 t ht
  .rw[aI]at ht;rw[ht];exact⟨rfl,p8,p9⟩
 .rintro⟨a,m,D,N,t,h,th⟩ ⟨e1,e2,e3,e4,e5,e6,e7⟩;dsimp only at e1 e2 e3 e4 e5 e6 e7;subst e1;subst e2;refine aR (λg=>(by dsimp only at g;rw[ew]at g;omega)) λ_=>?_
  have hpm:PJ (D0,th):=⟨rfl,by dsimp only;omega,e7⟩
  refine ar (P:=PJ) ?_ λr hr=>ai hr
  refine ar (CW (D0,th) hpm.x) λy _=>bW (λ_=>?_) λ_=>ai hpm
  refine aQ Qj (aQ (MX _) (aQ (s7 _ _) (ai ?_)));refine ⟨rfl,by simp,λt ht=>?_⟩;simp only[aI]at ht;rw[ht];refine ⟨rfl,by simp,λs hs=>?_⟩;simp only[aI]at hs;rw[hs,eV,xL];exact GS.asg _ (GE.num _ 3)
abbrev GN:Type:=Y (ζ×Int×Int×Bool×Int)×Y (ζ×Bool)×Y (ζ×Int)×Y ζ×Y ζ×Y ν×Y ζ×Int×Int
theorem zf (l:Y (ζ×Bool)) (s:ζ) (hl:l.length<=1000):Ok (lq (l,s)) λ_=>True:=by
 unfold lq bx bF aY cH aB ct;refine cf l.length (λi x=>x=(i:Int)) ?_ ?_ rfl
 .rintro i x hi rfl;refine aR (λ_=>?_) λg=>(by dsimp only[aj]at g;omega)
  refine aK (by omega) (by dsimp only;omega) (aV ?_);exact aF (λ_=>ai trivial) λ_=>ai (fk (by omega))
 .rintro x rfl;exact aR (λg=>(by dsimp only[aj]at g;omega)) λ_=>ai trivial
theorem zq (w:WT) (s:ζ) (hl:w.1.length<=1000):Ok (lw (w,s)) λr=>(∃c∈w.1,c.1=s)->0<=r/\r<(w.1.length:Int):=by
 unfold lw bx bF aY cH aB ct;refine cf w.1.length (λi x=>x.1=(i:Int)/\x.2=w/\∀k:Nat,k<i->(aH (T:=.st (.pr .str (.pr (.int .i64) (.pr (.int .i64) (.pr .bool (.int .i64)))))) w.1 (k:Int)).1≠s) ?_ ?_ ⟨rfl,rfl,λk hk=>by omega⟩
 .rintro i ⟨a,x⟩ hi ⟨e1,e2,e3⟩;dsimp only at e1 e2 e3;subst e1;have e2:=e2.symm;subst e2;refine aR (λ_=>?_) λg=>(by dsimp only[aj]at g;omega)
  refine aK (by dsimp only;omega) (by dsimp only;omega) (aV ?_);refine aF (λ_=>ai λ_=>⟨by dsimp only;omega,by dsimp only;omega⟩) λg=>ai ?_
  refine ⟨fk (by omega),rfl,λk hk=>?_⟩;rcases bM k i with h1|h1
  .exact e3 k h1
  .rw[show k=i by omega];exact g
 .rintro⟨a,x⟩ ⟨e1,e2,e3⟩;dsimp only at e1 e2 e3;subst e1;have e2:=e2.symm;subst e2;refine aR (λg=>(by dsimp only[aj]at g;omega)) λ_=>ai λ⟨c,hc,h⟩=>?_
  exact (ii (T:=.st (.pr .str (.pr (.int .i64) (.pr (.int .i64) (.pr .bool (.int .i64)))))) (p:=λc=>c.1≠s) e3 c hc h).elim
theorem uH (i:IT) (g:GN) (out:Y IT) (h:out.length<=100000000):Ok (cw (i,g,out)) λy=>y.1=g/\y.2.length=out.length+1:=by
 unfold cw aX bh bk ip bp;exact a_ (by simp;omega) (by omega) (ai ⟨rfl,by simp⟩)
def VE:Nat->Nat
 |0=>0
 |d+1=>1+2*VE d
structure GK (g:GN):Prop where
 c:g.1.length<=1000
 q:∃c∈g.1,c.1=[113]
 l:g.2.2.2.2.2.2.1.length<=1000
theorem LV:∀(n d:Nat),d<n->∀(e:Xp) (k:Int) (g:GN) (out:Y IT),GE d e->GK g->out.length+VE d<=100000000->Ok (iF n ((e,k),g,out)) λy=>y.1=g/\out.length<=y.2.length/\y.2.length<=out.length+VE d
 |0,_,h,_,_,_,_,_,_,_=>by omega
 |n+1,0,_,e,_,_,_,h,_,_=>h.elim
 |n+1,d+1,hn,e,k,g,out,h,hg,hb=>by
  obtain⟨h1,h2,h3,h4⟩:=h;obtain⟨I,gq,gl⟩:=id hg;have hv:VE (d+1)=1+2*VE d:=rfl;rw[zH];unfold qe aX bh bk bS da bi ja bp bF aB ct;refine aW (λy=>y.1=g/\out.length<=y.2.length/\y.2.length<=out.length+VE (d+1)) ?_ λx hx=>ai hx
  refine aF (λ_=>?_) λn1=>?_
  .refine ar (uH _ g out (by omega)) λy q=>a8 (by simp) (ai ⟨q.1,by omega,by omega⟩)
  refine aF (λ_=>?_) λn2=>?_
  .refine ar (Ar _ _ (by dsimp only;omega)) λv _=>dT (λ_=>?_) λ_=>?_
   .refine ar (uH _ g out (by omega)) λy q=>a8 (by simp) (ai ⟨q.1,by omega,by omega⟩)
   .refine ar (zq _ _ I) λv _=>?_
    refine ar (uH _ g out (by omega)) λy q=>a8 (by simp) (ai ⟨q.1,by omega,by omega⟩)
  have hl:=h2 n1 n2;have hrec:∀(j:Nat),j<e.l.length->∀(k':Int) (o:Y IT),o.length+VE d<=100000000->Ok (iF n ((aH (T:=.ex) e.l (j:Int),k'),g,o)) λy=>y.1=g/\o.length<=y.2.length/\y.2.length<=o.length+VE d:=λj hj k' o ho=>LV n d (by omega) _ k' g o (h4 _ (bH (T:=.ex) (xs:=e.l) (j:=(j:Int)) (by omega) (by omega))) hg ho
  refine aF (λF=>?_) λF=>?_
  .refine aK (by omega) (by dsimp only;omega) (aV ?_);refine ar (hrec 0 hl k out (by omega)) λy q=>?_
   obtain⟨s,o2⟩:=y;obtain⟨q1,q2,q3⟩:=q;dsimp only at q1 q2 q3;subst q1;refine a8 (by simp) ?_;refine ar (zq _ _ I) λv z=>?_
   obtain⟨v0,v1⟩:=z (by dsimp only;rw[h1 F];exact gq);refine aK v0 v1 (aV ?_);refine ar (uH _ s o2 (by omega)) λy q=>a8 (by simp) (ai ⟨q.1,by omega,by omega⟩)
  refine aF (λD=>?_) λD=>?_
  .refine aK (by omega) (by dsimp only;omega) (aV ?_);refine ar (hrec 0 hl k out (by omega)) λy q=>?_
   obtain⟨s,o2⟩:=y;obtain⟨q1,q2,q3⟩:=q;dsimp only at q1 q2 q3;subst q1;refine a8 (by simp) ?_;refine ar (uH _ s o2 (by omega)) λy q=>a8 (by simp) (ai ⟨q.1,by omega,by omega⟩)
  .dsimp only[aj]at D;have A:1<e.l.length:=by omega
   refine aK (by omega) (by dsimp only;omega) (aV ?_);refine ar (hrec 0 hl k out (by omega)) λy q=>?_
   obtain⟨s,o2⟩:=y;obtain⟨q1,q2,q3⟩:=q;dsimp only at q1 q2 q3;subst q1;refine a8 (by simp) ?_;refine aK (by omega) (by dsimp only;omega) (aV ?_);refine ar (hrec 1 A _ o2 (by omega)) λy q=>?_
   obtain⟨g3,L⟩:=y;obtain⟨r1,r2,r3⟩:=q;dsimp only at r1 r2 r3;subst r1;refine a8 (by simp) ?_;refine ar (uH _ g3 L (by omega)) λy q=>a8 (by simp) (ai ⟨q.1,by omega,by omega⟩)
theorem R1 (e:Xp) (k:Int) (g:GN) (out:Y IT) (he:GE 4 e) (hg:GK g) (h:out.length<=99999900):Ok (iC ((e,k),g,out)) λy=>y.1=g/\out.length<=y.2.length/\y.2.length<=out.length+15:=LV fuel 4 (by rw[qi];omega) e k g out he hg (by have:VE 4=15:=rfl;omega)
structure GB (g:GN):Prop where
 k:GK g
 l:g.2.1.length<=1000
 d:g.2.2.1.length<=1000
 f:g.2.2.2.1.length<=1000
 t:g.2.2.2.2.1.length<=1000
structure GQ (g y:GN):Prop where
 a:y.1=g.1
 b:y.2.1=g.2.1
 c:y.2.2.1=g.2.2.1
 d:y.2.2.2.1=g.2.2.2.1
 e:y.2.2.2.2.1=g.2.2.2.2.1
 f:y.2.2.2.2.2.1=g.2.2.2.2.2.1
 h:y.2.2.2.2.2.2.1=g.2.2.2.2.2.2.1
theorem GQ.refl (g:GN):GQ g g:=⟨rfl,rfl,rfl,rfl,rfl,rfl,rfl⟩
theorem GQ.trans {a b c:GN} (h:GQ a b) (k:GQ b c):GQ a c:=⟨k.a.trans h.a,k.b.trans h.b,k.c.trans h.c,k.d.trans h.d,k.e.trans h.e,k.f.trans h.f,k.h.trans h.h⟩
theorem GB.of {g y:GN} (h:GB g) (q:GQ g y):GB y:=
 ⟨⟨by rw[q.a];exact h.k.c,by rw[q.a];exact h.k.q,by rw[q.h];exact h.k.l⟩,by rw[q.b];exact h.l,by rw[q.c];exact h.d,by rw[q.d];exact h.f,by rw[q.e];exact h.t⟩
theorem GQ.site (g:GN) (a b:Int):GQ g (g.1,g.2.1,g.2.2.1,g.2.2.2.1,g.2.2.2.2.1,g.2.2.2.2.2.1,g.2.2.2.2.2.2.1,a,b):=⟨rfl,rfl,rfl,rfl,rfl,rfl,rfl⟩
structure QG (n:Nat) (g:GN) (out:List IT) (y:GN×List IT):Prop where
 q:GQ g y.1
 l:out.length<=y.2.length
 u:y.2.length<=out.length+n
theorem um (i:IT) (g:GN) (out:Y IT) (h:out.length<=100000000):Ok (cw (i,g,out)) (QG 1 g out):=(uH i g out h).mono λy d=>⟨by rw[d.1];exact GQ.refl g,by omega,by omega⟩
theorem Bp (e:Xp) (k:Int) (g:GN) (out:Y IT) (he:GE 4 e) (hg:GB g) (h:out.length<=99999000):Ok (iC ((e,k),g,out)) (QG 15 g out):=(R1 e k g out he hg.k (by omega)).mono λy d=>⟨by rw[d.1];exact GQ.refl g,d.2.1,d.2.2⟩
theorem Ue (s:Sx) (g:GN) (out:Y IT) (h1:s.index≠[]->s.name=[113]) (h2:∀e∈s.index,GE 4 e) (h3:GE 4 s.expr) (hg:GB g) (h:out.length<=99990000):Ok (lV (s,g,out)) (QG 40 g out):=by
 have hex:GE 4 (d8 (Xp.op s.expr,Xp.n s.expr,Xp.name s.expr,Xp.l s.expr)):=by rw[eV];exact h3
 unfold lV aX bh bk bS da bx ja bp bF aY;refine aR (λF=>?_) λ_=>?_
 .dsimp only[aj]at F;refine aK (by omega) (by dsimp only;omega) (aV ?_);refine ar (Bp _ _ g out (h2 _ (bH (T:=.ex) (xs:=s.index) (j:=0) (by omega) (by omega))) hg (by omega)) λy d=>?_
  obtain⟨D,o2⟩:=y;obtain⟨q1,q2,q3⟩:=d;dsimp only at q1 q2 q3;refine a8 (by simp) ?_;refine ar (Bp _ _ D o2 hex (hg.of q1) (by omega)) λy d=>?_
  obtain⟨L,I⟩:=y;obtain⟨r1,r2,r3⟩:=d;dsimp only at r1 r2 r3;refine a8 (by simp) ?_;have z:=hg.of (q1.trans r1);refine ar (zq _ _ z.k.c) λv hv=>?_
  obtain⟨v0,v1⟩:=hv (by
   have:s.name=[113]:=h1 (λh=>by rw[h]at F;simp at F);dsimp only;rw[this];exact z.k.q)
  refine aK v0 v1 (aV ?_);refine ar (um _ L I (by omega)) λy d=>a8 (by simp) (ai ⟨q1.trans (r1.trans d.q),by have:=d.l;omega,by have:=d.u;omega⟩)
 .refine ar (Bp _ _ g out hex hg (by omega)) λy d=>?_
  obtain⟨D,o2⟩:=y;obtain⟨q1,q2,q3⟩:=d;dsimp only at q1 q2 q3;have A:=hg.of q1;refine a8 (by simp) ?_;refine ar (Ar _ _ (cW A.k.l (by omega))) λv _=>dT (λ_=>?_) λ_=>?_
  .refine ar (um _ D o2 (by omega)) λy d=>a8 (by simp) (ai ⟨q1.trans d.q,by have:=d.l;omega,by have:=d.u;omega⟩)
  .refine ar (zq _ _ A.k.c) λv _=>?_
   refine ar (um _ D o2 (by omega)) λy d=>a8 (by simp) (ai ⟨q1.trans d.q,by have:=d.l;omega,by have:=d.u;omega⟩)
theorem Zh (s:ζ) (g:GN) (out:Y IT) (hg:GB g):Ok (jp (s,g,out)) λy=>y.2=(g,out):=by
 have hd:=hg.d;unfold jp aX bx bF aY cH aB ct;refine cf g.2.2.1.length (λi x=>x.1=(i:Int)/\x.2=(g,out)) ?_ ?_ ⟨rfl,rfl⟩
 .rintro i ⟨a,x⟩ hi ⟨e1,e2⟩;dsimp only at e1 e2;subst e1;subst e2;refine aR (λ_=>?_) λg=>(by dsimp only[aj]at g;omega)
  refine aK (by dsimp only;omega) (by dsimp only;omega) (aV ?_);exact aF (λ_=>ai rfl) λ_=>ai ⟨fk (by omega),rfl⟩
 .rintro⟨a,x⟩ ⟨e1,e2⟩;dsimp only at e1 e2;subst e1;subst e2;exact aR (λg=>(by dsimp only[aj]at g;omega)) λ_=>ai rfl
def ME:Nat->Nat
 |0=>0
 |d+1=>50+16*ME d
def SpG (q:Sx×GN×Y IT->J (GN×Y IT)) (d:Nat):Prop:=∀(s:Sx) (g:GN) (out:Y IT),GS d s->GB g->out.length+ME d<=90000000->Ok (q (s,g,out)) (QG (ME d) g out)
def ZQ (rs:Y Sx×GN×Y IT->J (GN×Y IT)) (d:Nat):Prop:=∀(l:Y Sx) (g:GN) (out:Y IT),l.length<=100->(∀s∈l,GS d s)->GB g->out.length+l.length*ME d<=90000000->Ok (rs (l,g,out)) (QG (l.length*ME d) g out)
abbrev FS6:Type:=Y Sx×GN×Y IT->J (GN×Y IT)
abbrev FT6:Type:=Sx×GN×Y IT->J (GN×Y IT)
abbrev FA6:Type:=(Sx×Int×Int×Int)×GN×Y IT->J (GN×Y IT)
def afq (q:FT6) (d:Nat):Prop:=∀(s:Sx) (g:GN) (out:Y IT),GE 4 s.expr->s.body.length<=8->s.els.length<=8->(∀x∈s.body,GS d x)->(∀x∈s.els,GS d x)->GB g->out.length+ME (d+1)<=90000000->Ok (q (s,g,out)) (QG (17+16*ME d) g out)
def afr (ra:FA6) (d:Nat):Prop:=∀(s:Sx) (a b c:Int) (g:GN) (out:Y IT),s.body.length<=8->(∀x∈s.body,GS d x)->GB g->out.length+ME (d+1)<=90000000->Ok (ra ((s,a,b,c),g,out)) (QG (17+16*ME d) g out)
theorem QG.trans {a b c:Nat} {g d:GN} {o o2:Y IT} {y:GN×Y IT} (h:GQ g d) (h1:o.length<=o2.length) (h2:o2.length<=o.length+a) (k:QG b d o2 y) (hc:a+b<=c):QG c g o y:=⟨h.trans k.q,by have:=k.l;omega,by have:=k.u;omega⟩
theorem QG.le {a b:Nat} {g:GN} {o:Y IT} {y:GN×Y IT} (k:QG a g o y) (h:a<=b):QG b g o y:=⟨k.q,k.l,by have:=k.u;omega⟩
theorem Tb (rs:FS6) (s:FT6) (A:FT6) (ra:FA6) (d:Nat) (ht:SpG s d):ZQ (qf rs s A ra) d:=by
 intro l g out hl hs hg hb;unfold qf bx bp bF aY cH aB ct;refine cf l.length (λi x=>x.1=(i:Int)/\QG (i*ME d) g out x.2) ?_ ?_ ⟨rfl,GQ.refl g,by simp,by simp⟩
 .rintro i ⟨a,z,o2⟩ hi ⟨e1,q1,q2,q3⟩;dsimp only at e1 q1 q2 q3;subst e1;have F:(i+1)*ME d<=l.length*ME d:=cr _ (by omega);have hKs:=iL i (ME d);rw[Nat.succ_eq_add_one]at hKs;refine aR (λ_=>?_) λg=>(by dsimp only[aj]at g;omega)
  refine aK (by dsimp only;omega) (by dsimp only;omega) (aV ?_);refine ar (ht _ z o2 (hs _ (bH (T:=.sm) (xs:=l) (j:=(i:Int)) (by omega) (by omega))) (hg.of q1) (by omega)) λy D=>a8 (by simp) (ai ?_)
  exact⟨fk (by omega),QG.trans q1 q2 q3 D (by omega)⟩
 .rintro⟨a,z,o2⟩ ⟨e1,q⟩;dsimp only at e1;subst e1;exact aR (λg=>(by dsimp only[aj]at g;omega)) λ_=>ai q
theorem PP (rs:FS6) (z:FT6) (A:FT6) (ra:FA6) (d:Nat) (F:ZQ rs d):afr (oP rs z A ra) d:=by
 intro s a b c g out h1 h2 hg hb;have hm:ME (d+1)=50+16*ME d:=rfl;have kb:s.body.length*ME d<=8*ME d:=cr _ h1;unfold oP aX bh bk bS da ip bn nl bp;refine ar (um _ g out (by omega)) λy q=>?_
 obtain⟨L,o2⟩:=y;obtain⟨q1,q2,q3⟩:=q;dsimp only at q1 q2 q3;refine a8 (by simp) ?_;refine ar (F s.body L o2 (by omega) h2 (hg.of q1) (by omega)) λy q=>?_
 obtain⟨I,D⟩:=y;obtain⟨r1,r2,r3⟩:=q;dsimp only at r1 r2 r3;refine a8 (by simp) ?_;refine ar (um _ _ D (by omega)) λy q=>a8 (by simp) (ai ?_)
 exact QG.trans (a:=1+8*ME d) (q1.trans (r1.trans (GQ.site I _ _))) (by omega) (by omega) q (by omega)
theorem KL (rs:FS6) (rt:FT6) (rb:FT6) (ra:FA6) (d:Nat) (hS:ZQ rs d):afq (mq rs rt rb ra) d:=by
 intro s g out he h1 h2 h3 h4 hg hb;have hm:ME (d+1)=50+16*ME d:=rfl;have kb:s.body.length*ME d<=8*ME d:=cr _ h1;have ke:s.els.length*ME d<=8*ME d:=cr _ h2;have hex:GE 4 (d8 (Xp.op s.expr,Xp.n s.expr,Xp.name s.expr,Xp.l s.expr)):=by rw[eV];exact he
 unfold mq aX bh bk bS da ip nl ck bi bp aY;refine ar (Bp _ _ g out hex hg (by omega)) λy q=>?_
 obtain⟨g1,o1⟩:=y;obtain⟨p1,p2,p3⟩:=q;dsimp only at p1 p2 p3;refine a8 (by simp) ?_;refine ar (uH _ g1 o1 (by omega)) λy q=>?_
 obtain⟨g2,o2⟩:=y;obtain⟨q1,q2⟩:=q;dsimp only at q1 q2;subst q1;refine a8 (by simp) ?_;refine ar (hS s.body g2 o2 (by omega) h3 (hg.of p1) (by omega)) λy q=>?_
 obtain⟨g3,o3⟩:=y;obtain⟨r1,r2,r3⟩:=q;dsimp only at r1 r2 r3;refine a8 (by simp) ?_;have z:=p1.trans (r1.trans (GQ.site g3 g.2.2.2.2.2.2.2.1 g3.2.2.2.2.2.2.2.2));refine aF (λ_=>?_) λ_=>?_
 .refine ar (uH _ _ o3 (by omega)) λy q=>?_
  obtain⟨A,L⟩:=y;obtain⟨w1,w2⟩:=q;dsimp only at w1 w2;refine a8 (by simp) (aK (ep _) (by dsimp only[aj];omega) (aK (ep _) (by dsimp only[aj];omega) (ai ⟨?_,?_,?_⟩)))
  .dsimp only;rw[w1];exact z
  .dsimp only;rw[cM];omega
  .dsimp only;rw[cM];omega
 refine aF (λ_=>?_) λ_=>?_
 .refine aK (ep _) (by dsimp only[aj];omega) (aK (ep _) (by dsimp only[aj];omega) (ai ⟨z,?_,?_⟩))
  .dsimp only;rw[cM];omega
  .dsimp only;rw[cM];omega
 .refine ar (uH _ _ o3 (by omega)) λy q=>?_
  obtain⟨A,L⟩:=y;obtain⟨w1,w2⟩:=q;dsimp only at w1 w2;have qs4:GQ g A:=by rw[w1];exact z
  refine a8 (by simp) (aK (ep _) (by dsimp only[aj];omega) (aK (ep _) (by dsimp only[aj];omega) ?_));refine ar (hS s.els A (cJ L _ _) (by omega) h4 (hg.of qs4) (by rw[cM];omega)) λy q=>?_
  obtain⟨g5,o5⟩:=y;obtain⟨I,F,D⟩:=q;dsimp only at I F D;rw[cM]at F D;refine a8 (by simp) (aK (ep _) (by dsimp only[aj];omega) (aK (ep _) (by dsimp only[aj];omega) (ai ⟨qs4.trans I,?_,?_⟩)))
  .dsimp only;rw[cM];omega
  .dsimp only;rw[cM];omega
theorem Wi (rs:FS6) (rt:FT6) (rb:FT6) (ra:FA6) (d:Nat) (hB:afq rb d) (hA:afr ra d):SpG (rC rs rt rb ra) (d+1):=by
 intro s g out hs hg hb;have hm:ME (d+1)=50+16*ME d:=rfl;obtain⟨i1,i2,i3,I,i5,i6,i7,i8,i9⟩:=hs;have gs:=GQ.site g g.2.2.2.2.2.2.2.2 (aZ .i64 (g.2.2.2.2.2.2.2.2+1));unfold rC aX bh bk bS da bn nl bi bp aY aB ct dW;refine aW (λx=>QG (ME (d+1)) g out x) ?_ λx hx=>ai hx
 dsimp only;revert gs;generalize ((g.1,g.2.1,g.2.2.1,g.2.2.2.1,g.2.2.2.2.1,g.2.2.2.2.2.1,g.2.2.2.2.2.2.1,g.2.2.2.2.2.2.2.2,aZ .i64 (g.2.2.2.2.2.2.2.2+1)):GN)=A;intro gs;have z:=hg.of gs;have fin:∀(n:Nat) (y:GN×Y IT),QG n A out y->n<=ME (d+1)->QG (ME (d+1)) g out y:=λn y q hn=>QG.trans (a:=0) gs (cB _) (by omega) q (by omega)
 refine aF (λF=>?_) λ_=>?_
 .refine ar (Ue (ov _) A out ?_ ?_ ?_ z (by omega)) λy q=>a8 (by simp) (ai (fin _ _ q (by omega)))
  .rw[xC];exact i1
  .rw[xC];exact i3
  .rw[xC];exact I (.inl F)
 refine aW (λx=>x.2=(A,s,out)/\(x.1=M->s.op=2\/s.op=3)) ?_ ?_
 .exact aF (λh=>ai ⟨by dsimp only;rw[xC],λ_=>.inl h⟩) λ_=>ai ⟨by dsimp only;rw[xC],λh=>.inr (ba h)⟩
 rintro⟨b,x⟩ ⟨e,D⟩;dsimp only at e D;subst e;refine aJ (λL=>?_) λ_=>?_
 .dsimp only;rw[xC];refine ar (hB s A out (I (by rcases D L with h|h;exact .inr (.inl h);exact .inr (.inr (.inl h)))) i6 i7 i8 i9 z hb) λy q=>a8 (by simp) (ai (fin _ _ q (by omega)))
 have har:∀(a b c:Int),Ok (ra ((s,a,b,c),A,out)) (QG (17+16*ME d) A out):=λa b c=>hA s a b c A out i6 i8 z hb
 have hput:∀(i:IT),Ok (cw (i,A,out)) (QG 1 A out):=λi=>um i A out (by omega)
 have hat:∀(l:Y ζ) (n:ζ),l.length<=1000->Ok (jT (l,n)) λ_=>True:=λl n h=>(Ar l n (by omega)).mono λ_ _=>trivial
 dsimp only;rw[xC];refine aF (λ_=>ar (zf _ _ z.l) λ_ _=>ar (har _ _ _) λy q=>a8 (by simp) (ai (fin _ _ q (by omega)))) λ_=>?_
 refine aF (λ_=>ar (zf _ _ z.l) λ_ _=>ar (har _ _ _) λy q=>a8 (by simp) (ai (fin _ _ q (by omega)))) λ_=>?_
 refine aF (λ_=>ar (zf _ _ z.l) λ_ _=>ar (har _ _ _) λy q=>a8 (by simp) (ai (fin _ _ q (by omega)))) λ_=>?_
 refine aF (λ_=>ar (har _ _ _) λy q=>a8 (by simp) (ai (fin _ _ q (by omega)))) λ_=>?_
 refine aF (λ_=>ar (har _ _ _) λy q=>a8 (by simp) (ai (fin _ _ q (by omega)))) λ_=>?_
 have hcond:∀(n:ζ),Ok (jp (n,A,out)) λy=>y.2=(A,out):=λn=>Zh n A out z
 refine aF (λ_=>ar (hcond _) λy q=>?_) λ_=>?_
 .obtain⟨v,y2⟩:=y;dsimp only at q;subst q;exact a8 (by simp) (ar (hput _) λy q=>a8 (by simp) (ai (fin _ _ q (by omega))))
 refine aF (λ_=>ar (hcond _) λy q=>?_) λ_=>?_
 .obtain⟨v,y2⟩:=y;dsimp only at q;subst q;exact a8 (by simp) (ar (hput _) λy q=>a8 (by simp) (ai (fin _ _ q (by omega))))
 refine aF (λ_=>ar (hcond _) λy q=>?_) λ_=>?_
 .obtain⟨v,y2⟩:=y;dsimp only at q;subst q;exact a8 (by simp) (ar (hput _) λy q=>a8 (by simp) (ai (fin _ _ q (by omega))))
 refine aF (λ_=>ar (hat _ _ z.t) λ_ _=>ar (hput _) λy q=>a8 (by simp) (ai (fin _ _ q (by omega)))) λ_=>?_
 refine aF (λ_=>ar (hat _ _ z.t) λ_ _=>ar (hput _) λy q=>a8 (by simp) (ai (fin _ _ q (by omega)))) λ_=>?_
 refine aF (λF=>?_) λ_=>?_
 .have hex:GE 4 (d8 (Xp.op s.expr,Xp.n s.expr,Xp.name s.expr,Xp.l s.expr)):=by rw[eV];exact I (.inr (.inr (.inr F)))
  refine ar (Bp _ _ A out hex z (by omega)) λy q=>?_
  obtain⟨g2,o2⟩:=y;obtain⟨q1,q2,q3⟩:=q;dsimp only at q1 q2 q3;refine a8 (by simp) (ar (hat _ _ (z.of q1).f) λ_ _=>?_);exact ar (um _ g2 o2 (by omega)) λy q=>a8 (by simp) (ai (fin 16 _ (QG.trans q1 q2 q3 q (by omega)) (by omega)))
 refine aF (λF=>?_) λ_=>ai (fin 0 _ ⟨GQ.refl _,cB _,by dsimp only;omega⟩ (by omega))
 exact ar (hat _ _ z.k.l) λ_ _=>ar (hat _ _ z.f) λ_ _=>ar (hput _) λy q=>a8 (by simp) (ai (fin _ _ q (by omega)))
theorem U7:∀(n:Nat),(∀d:Nat,3*d<n->SpG (eC n) d)/\(∀d:Nat,3*d+1<n->ZQ (dF n) d)/\(∀d:Nat,3*d+2<n->afq (cY n) d)/\(∀d:Nat,3*d+2<n->afr (dB n) d)
 |0=>⟨λd h=>by omega,λd h=>by omega,λd h=>by omega,λd h=>by omega⟩
 |n+1=>by
  obtain⟨z,q,A,hA⟩:=U7 n;refine ⟨λd h=>?_,λd h=>?_,λd h=>?_,λd h=>?_⟩
  .cases d with
   |zero=>exact λs g out hs=>hs.elim
   |succ d=>exact Wi (dF n) (eC n) (cY n) (dB n) d (A d (by omega)) (hA d (by omega))
  .exact Tb (dF n) (eC n) (cY n) (dB n) d (z d (by omega))
  .exact KL (dF n) (eC n) (cY n) (dB n) d (q d (by omega))
  .exact PP (dF n) (eC n) (cY n) (dB n) d (q d (by omega))
theorem Nl (d:Nat) (hd:d<=100):ZQ ti d:=(U7 fuel).2.1 d (by rw[qi];omega)
theorem DK:∀(n d:Nat),d<n->∀(t k:Int) (l:Y Sx) (out:Y ν),l.length<=100->(∀s∈l,GT d s)->out.length+l.length*KS d<=100000000->Ok (pm n ((t,k,l),out)) λy=>y.2.length<=out.length+l.length*KS d
 |0,_,h,_,_,_,_,_,_,_=>by omega
 |n+1,d,hn,t,k,l,out,hl,hs,hb=>by
  rw[F2];unfold wq bx mF bp aY cH aB ct;refine cf l.length (λi x=>x.1.2=(i:Int)/\x.2.length<=out.length+i*KS d) ?_ ?_ ⟨rfl,by simp⟩
  .rintro i ⟨⟨a,b⟩,o⟩ hi ⟨e1,e2⟩;dsimp only at e1 e2;subst e1;have hKi:(i+1)*KS d<=l.length*KS d:=cr _ (by omega);have hKs:=iL i (KS d);rw[Nat.succ_eq_add_one]at hKs;refine aR (λ_=>?_) λg=>(by dsimp only[aj]at g;omega)
   have hin:((i:Nat):Int)<(l.length:Int):=by omega
   have hm:=hs _ (bH (T:=.sm) (xs:=l) (j:=(i:Int)) (by omega) (by omega));cases d with
   |zero=>exact hm.elim
   |succ d=>
    obtain⟨_,_,_,I,F,D,A⟩:=hm;have hk:KS (d+1)=1+16*KS d:=rfl;have kb:=cr (KS d) I;have L:=cr (KS d) F;dsimp only;refine aK (by omega) hin (aV (a_ (by simp;omega) (by omega) (aK (by omega) hin (aV ?_))));refine ar (DK n d (by omega) _ _ _ _ (by omega) D (by simp;omega)) λy z=>a8 (by simp) ?_
    obtain⟨a2,o2⟩:=y;simp only[bY,cP]at z;refine aK (by omega) hin (aV ?_);refine ar (DK n d (by omega) _ _ _ o2 (by omega) A (by omega)) λy q=>a8 (by simp) (ai ?_)
    exact⟨fk (by omega),by dsimp only at q ⊢;omega⟩
  .rintro⟨⟨a,b⟩,o⟩ ⟨e1,e2⟩;dsimp only at e1 e2;subst e1;exact aR (λg=>(by dsimp only[aj]at g;omega)) λ_=>ai e2
abbrev CE6:Type:=ζ×Int×Int×Bool×Int
structure J6 (i:Nat) (y:List CE6×List (ζ×Bool)×List (ζ×Int)×List ζ):Prop where
 c:y.1.length<=2*i
 q:3<i->∃c∈y.1,c.1=[113]
 l:y.2.1.length<=i
 d:y.2.2.1.length<=i
 f:y.2.2.2.length<=i
structure WW (w:WT):Prop where
 c:w.1.length<=18
 q:∃c∈w.1,c.1=[113]
 l:w.2.1.length<=9
 d:w.2.2.1.length<=9
 f:w.2.2.2.1.length<=9
 t:w.2.2.2.2.1.length<=4
theorem Uj (p:PG) (hp:PJ p) (r:Γ) (hr:ki p=Z r) (h0:r.1=0):Ok (tj p) WW:=by
 have hpt:=hp.t;unfold tj aX bh bk bS da bn cI cC dI gG bi bx iA bp bF aY cH aB ct;refine aQ hr (bW (λh=>(h h0).elim) λ_=>?_);have hD:p.1=D0:=hp.d;have hlen:p.1.length=9:=by rw[hD];rfl
 have hz:∀z∈p.1,z.2.2.2.1<=(2:Int):=by rw[hD];decide
 have h3:aH (T:=tDc) p.1 ((3:Nat):Int)=(1,0,[113],2,0,[]):=by rw[hD];rfl
 refine cf 9 (λi x=>x.1=(i:Int)/\x.2.1=p/\J6 i x.2.2) ?_ ?_ ⟨rfl,rfl,by simp,λh=>by omega,by simp,by simp,by simp⟩
 .rintro i ⟨a,p',cs,ls,ds,fs⟩ hi ⟨e1,e2,j1,D,j3,j4,j5⟩;dsimp only at e1 e2 j1 D j3 j4 j5;subst e1;have e2:=e2.symm;subst e2;refine aR (λ_=>?_) λg=>(by dsimp only[aj]at g;omega)
  refine aK (by dsimp only;omega) (by dsimp only;omega) (aV ?_);have hm:=hz _ (bH (T:=tDc) (xs:=p.1) (j:=(i:Int)) (by omega) (by omega));have h3i:i=3->(aH (T:=tDc) p.1 (i:Int))=(1,0,[113],2,0,[]):=λh=>by rw[h];exact h3
  revert hm h3i;generalize (aH (T:=tDc) p.1 (i:Int))=z;intro hm h3i;have hq:∀cs':Y CE6,(∀c∈cs,c∈cs')->i≠3->3<i+1->∃c∈cs',c.1=[113]:=λcs' h1 h2 h3=>by
   obtain⟨c,hc,e⟩:=D (by omega);exact⟨c,h1 c hc,e⟩
  refine aW (λx=>x.1=p/\J6 (i+1) x.2) ?_ ?_
  .refine aW (λx=>x.2=(p,z,cs,ls,ds,fs)/\(x.1=aa->i≠3)) ?_ ?_
   .refine aF (λh=>ai ⟨rfl,λh2=>?_⟩) λh=>ai ⟨rfl,λ_ h2=>h (by rw[h3i h2])⟩
    rw[bc h]at h2;cases h2
   rintro⟨b,x⟩ ⟨e,hb⟩;dsimp only at e hb;subst e;refine aJ (λ_=>?_) λhb2=>?_
   .refine ml (λx=>(2-x.1).toNat) (λx=>0<=x.1/\x.1<=2/\x.2.1=p/\x.2.2.1=z/\(x.2.2.2.1.length:Int)<=2*i+x.1/\(∀c∈cs,c∈x.2.2.2.1)/\(1<=x.1->∃c∈x.2.2.2.1,c.1=z.2.2.1)/\x.2.2.2.2=(ls,ds,fs)) ?_ ⟨by dsimp only;omega,by dsimp only;omega,rfl,rfl,by dsimp only;omega,λc hc=>hc,λh=>by dsimp only at h;omega,rfl⟩;rintro⟨(k:Int),p2,z2,cs2,x⟩ ⟨k0,k1,A,q,f3,f4,f5,f6⟩;dsimp only at k0 k1 A q f3 f4 f5 f6;have A:=A.symm;subst A;have q:=q.symm;subst q;subst f6;refine aR (λg=>?_) λg=>?_
    .refine a_ (by simp;omega) (by omega) (ai ?_);have hg:k<lh (z.2.2.2.1) 1:=g;have hx:lh (z.2.2.2.1) 1<=2:=by unfold lh;split<;>omega
     dsimp only;rw[gF (n:=k+1) (by omega) (by omega)];refine ⟨⟨by omega,by omega,rfl,rfl,by simp;omega,λc hc=>jf _ (f4 c hc),λ_=>⟨_,ko _ (aI.2 rfl),rfl⟩,rfl⟩,by omega⟩
    .have hg:lh (z.2.2.2.1) 1<=k:=g;have hx:1<=lh (z.2.2.2.1) 1:=by
      unfold lh;split
      .omega
      .rename_i h;simp[fI]at h;omega
     refine ai ⟨rfl,⟨by dsimp only;omega,λh=>?_,by dsimp only;omega,by dsimp only;omega,by dsimp only;omega⟩⟩;by_cases F:i=3
     .obtain⟨c,hc,e⟩:=f5 (by omega);exact⟨c,hc,by rw[e,h3i F]⟩
     .exact hq _ f4 F h
   have ni:=hb hb2;refine aW (λx=>x.2=(p,z,cs,ls,ds,fs)) (aF (λ_=>ai rfl) λ_=>ai rfl) ?_;rintro⟨b,x⟩ e;dsimp only at e;subst e;have hqq:=hq cs (λc h=>h) ni;refine aJ (λ_=>?_) λ_=>aF (λ_=>?_) λ_=>?_
   .exact a_ (by simp;omega) (by omega) (ai ⟨rfl,⟨by dsimp only;omega,hqq,by simp;omega,by dsimp only;omega,by dsimp only;omega⟩⟩)
   .refine ar (zf _ _ (by dsimp only;omega)) λ_ _=>?_
    exact a_ (by simp;omega) (by omega) (ai ⟨rfl,⟨by dsimp only;omega,hqq,by dsimp only;omega,by simp;omega,by dsimp only;omega⟩⟩)
   .exact a_ (by simp;omega) (by omega) (ai ⟨rfl,⟨by dsimp only;omega,hqq,by dsimp only;omega,by dsimp only;omega,by simp;omega⟩⟩)
  rintro⟨p2,y⟩ ⟨A,q⟩;dsimp only at A q;have A:=A.symm;subst A;exact ai ⟨fk (by omega),rfl,q⟩
 .rintro⟨a,p',y⟩ ⟨e1,e2,j⟩;dsimp only at e1 e2 j;subst e1;have e2:=e2.symm;subst e2;refine aR (λg=>(by dsimp only[aj]at g;omega)) λ_=>?_
  obtain⟨cs,ls,ds,fs⟩:=y;obtain⟨j1,D,j3,j4,j5⟩:=j;dsimp only at j1 D j3 j4 j5;refine ar (P:=WW) ?_ λr hr=>ai hr
  refine cf p.2.length (λi x=>x.1=(i:Int)/\x.2.1=p/\x.2.2.1=cs/\x.2.2.2.1=ls/\x.2.2.2.2.1=ds/\x.2.2.2.2.2.1=fs/\x.2.2.2.2.2.2.1.length=i/\x.2.2.2.2.2.2.2.length<=i*2184) ?_ ?_ ⟨rfl,rfl,rfl,rfl,rfl,rfl,rfl,by simp⟩
  .rintro i ⟨a,p2,c2,l2,d2,q,t2,s2⟩ hi ⟨e1,e2,e3,e4,L,I,e7,e8⟩;dsimp only at e1 e2 e3 e4 L I e7 e8;subst e1;have e2:=e2.symm;subst e2;refine aR (λ_=>?_) λg=>(by dsimp only[aj]at g;omega)
   have hin:((i:Nat):Int)<(p.2.length:Int):=by omega
   have hm:=hp.m _ (bH (T:=Hc) (xs:=p.2) (j:=(i:Int)) (by omega) hin);have hk:KS 3=273:=rfl;have hb:=hm.b;have hle:=cr (KS 3) hb;rw[hk]at hle;dsimp only;refine aK (by omega) hin (aV (a_ (by simp;omega) (by omega) (aK (by omega) hin (aV ?_))));refine ar (DK fuel 3 (by rw[qi];omega) _ _ _ s2 (by omega) (λs hs=>(hm.s s hs).t) (by rw[hk];omega)) λy hy=>a8 (by simp) (ai ?_)
   rw[hk]at hy;exact⟨fk (by omega),rfl,e3,e4,L,I,by simp;omega,by dsimp only;omega⟩
  .rintro⟨a,p2,c2,l2,d2,q,t2,s2⟩ ⟨e1,e2,e3,e4,L,I,e7,e8⟩;dsimp only at e1 e2 e3 e4 L I e7 e8;subst e1;have e2:=e2.symm;subst e2;subst e3;subst e4;subst L;subst I;refine aR (λg=>(by dsimp only[aj]at g;omega)) λ_=>ai ?_
   exact⟨j1,D (by omega),j3,j4,j5,by dsimp only;omega⟩
theorem Oa (p:PG) (hp:PJ p):Ok (pY p) λy=>CB y.1:=by
 have hpt:=hp.t;unfold pY aX bh bk bS da bn cC dI nl bx iA bp bF kF aY cH aB ct;obtain⟨r,hr,_⟩:=CW p hp.x;refine aQ hr (bW (λ_=>ai ⟨by simp,λt ht=>(by cases ht)⟩) λh0=>?_);refine ar (Uj p hp r hr h0) λw L=>?_
 refine cf p.2.length (λi x=>x.1.2=(i:Int)/\x.2.1=p/\x.2.2.1=w/\x.2.2.2.length=i/\∀t∈x.2.2.2,t.2.length<=1000000) ?_ ?_ ⟨rfl,rfl,rfl,rfl,λt ht=>(by cases ht)⟩
 .rintro i ⟨⟨a,b⟩,p2,w2,cs⟩ hi ⟨e1,e2,e3,e4,e5⟩;dsimp only at e1 e2 e3 e4 e5;subst e1;have e2:=e2.symm;subst e2;have e3:=e3.symm;subst e3;have hin:((i:Nat):Int)<(p.2.length:Int):=by omega
  refine aR (λ_=>?_) λg=>(by dsimp only[aj]at g;omega)
  have hm:=hp.m _ (bH (T:=Hc) (xs:=p.2) (j:=(i:Int)) (by omega) hin);dsimp only;refine aK (by omega) hin (aV (aK (by omega) hin (aV ?_)));revert hm;generalize (aH (T:=Hc) p.2 (i:Int))=t;intro hm;have hk:ME 3=50+16*(50+16*50):=rfl;have hle:=cr (ME 3) hm.b;rw[hk]at hle;have hll:t.2.2.1.length=2:=by rw[hm.l];rfl
  refine ar (Nl 3 (by omega) _ _ [] (by have:=hm.b;omega) hm.s ⟨⟨by have:=L.c;dsimp only;omega,L.q,by dsimp only;omega⟩,by have:=L.l;dsimp only;omega,by have:=L.d;dsimp only;omega,by have:=L.f;dsimp only;omega,by have:=L.t;dsimp only;omega⟩ (by rw[hk,jW];omega)) λy I=>a8 (by simp) ?_
  obtain⟨g2,o2⟩:=y;obtain⟨q1,q2,q3⟩:=I;rw[hk]at q3;dsimp only at q1 q2 q3;rw[jW]at q3;refine ar (um _ _ o2 (by omega)) λy I=>a8 (by simp) ?_
  obtain⟨g3,o3⟩:=y;have o3l:=I.u;dsimp only at o3l;refine cf o3.length (λk x=>x.1=(k:Int)/\x.2.1=p/\x.2.2.1=w/\x.2.2.2.2.2.1=cs/\x.2.2.2.2.2.2=o3) ?_ ?_ ⟨rfl,rfl,rfl,rfl,rfl⟩
  .rintro k ⟨a,p2,w2,g4,rg,c2,o4⟩ hk2 ⟨F,D,f3,A,z⟩;dsimp only at F D f3 A z;subst F;have D:=D.symm;subst D;have f3:=f3.symm;subst f3;have A:=A.symm;subst A;have z:=z.symm;subst z;refine aR (λ_=>?_) λg=>(by dsimp only[aj]at g;omega)
   dsimp only;refine aK (by omega) (by omega) (aK (by omega) (by omega) (aV (aQ (wU _) ?_)));generalize (aH (T:=UB) o3 (k:Int))=ins;have hrl:=Hh ins;refine cf (sI ins).length (λj x=>x.1=(j:Int)/\x.2.1=p/\x.2.2.1=w/\x.2.2.2.2.2.1=cs/\x.2.2.2.2.2.2=o3) ?_ ?_ ⟨rfl,rfl,rfl,rfl,rfl⟩
   .rintro j ⟨a,p2,w2,g4,rg,c2,o4⟩ hj ⟨F,D,f3,A,z⟩;dsimp only at F D f3 A z;subst F;refine aR (λ_=>?_) λg=>(by dsimp only[aj]at g;omega)
    exact aK (by dsimp only;omega) (by dsimp only;omega) (aV (ai ⟨fk (by omega),D,f3,A,z⟩))
   .rintro⟨a,p2,w2,g4,rg,c2,o4⟩ ⟨F,D,f3,A,z⟩;dsimp only at F D f3 A z;subst F;exact aR (λg=>(by dsimp only[aj]at g;omega)) λ_=>ai ⟨fk (by omega),D,f3,A,z⟩
  .rintro⟨a,p2,w2,g4,rg,c2,o4⟩ ⟨F,D,f3,A,z⟩;dsimp only at F D f3 A z;subst F;have D:=D.symm;subst D;have f3:=f3.symm;subst f3;have A:=A.symm;subst A;have z:=z.symm;subst z;refine aR (λg=>(by dsimp only[aj]at g;omega)) λ_=>?_
   refine ar (P:=λr=>match r with|.inl y=>y.1.2=((i+1:Nat):Int)/\y.2.1=p/\y.2.2.1=w/\y.2.2.2.length=i+1/\∀t∈y.2.2.2,t.2.length<=1000000|.inr y=>CB y.1) ?_ ?_
   .refine a_ (by simp;omega) (by omega) (ai ⟨fk (by omega),rfl,rfl,by simp;omega,λt ht=>?_⟩);rcases bN.1 ht with ht|ht
    .exact e5 t ht
    .rw[aI]at ht;rw[ht];dsimp only;omega
   .rintro (y|y) I
    .exact ai I
    .exact ai I
 .rintro⟨⟨a,b⟩,p2,w2,cs⟩ ⟨e1,e2,e3,e4,e5⟩;dsimp only at e1 e2 e3 e4 e5;subst e1;exact aR (λg=>(by dsimp only[aj]at g;rw[e2]at g;omega)) λ_=>ai ⟨by dsimp only;omega,e5⟩
theorem Kn (a b:η) (s:a.length<=9223372036854775807) (q:∀z∈a,0<=z/\z<=255) (hb:b.length<=1000000):Ok (rT (a,b)) TR:=by
 unfold rT;refine ar (P:=CB) ?_ λc hc=>ar (Ux b hb) λl hl=>?_
 .unfold wh;exact ar (FE a s q) λp hp=>ar (Oa p hp) λy d=>ai d
 .exact ar (afs c l hc (by omega)) λy d=>ai d
theorem N' (a b c:η) (n:Int) (n0:0<=n) (n1:n<=1000000) (s:a.length<=9223372036854775807) (q:∀z∈a,0<=z/\z<=255) (hc:c.length<=9223372036854775807) (d:∀z∈c,0<=z/\z<=255):Ok (kR ((a,b,c),n)) TR:=by
 unfold kR bx bp aY;refine aR (λ_=>ar (Hf c n hc d) λy h=>ai h) λ_=>?_
 have h0:0<=FJ (aT b.length) n/\FJ (aT b.length) n<=(b.length:Int)/\FJ (aT b.length) n<=n:=by
  unfold FJ;split
  .rename_i h;rw[mm]at h;dsimp only[aj]at h;exact⟨n0,by omega,gN _⟩
  .rename_i h;have h:=fy.1 (Bool.eq_false_iff.2 h);dsimp only[aj]at h ⊢;exact⟨by omega,gN _,h⟩
 refine cR (du h0.1 (du h0.2.1 ?_));have h1:(dh (aP (FJ (aT b.length) n)) b).length<=1000000:=by rw[b_];have:=h0.1;have:=h0.2.2;omega
 exact ar (Kn a _ s q h1) λy h=>ai h
def HS.zero (w:C5):HS:=⟨aA w.2.2.2.2.1.length [],aA w.2.2.2.2.1.length [],aA w.2.1.length [],aA w.2.1.length [],aA w.1.length [],aA w.2.2.2.1.length [],[],aA w.2.2.2.2.1.length [],aA w.2.2.2.2.1.length (-1)⟩
theorem HS.zero_ok {w:C5} (h1:w.1.length<=1000) (h2:w.2.1.length<=1000) (h3:w.2.2.2.1.length<=1000) (h4:w.2.2.2.2.1.length<=1000):Uu 0 (HS.zero w):=by
 have z:(0:Int)<=0:=by omega
 exact⟨z,by omega,Ap.repl z _,Ap.repl z _,Ap.repl z _,Ap.repl z _,Ap.repl z _,Ap.repl z _,En.nil z,Ap.repl z _,by simpa[HS.zero] using h4,by simp[HS.zero],by simp[HS.zero],by simp[HS.zero],by simpa[HS.zero] using h2,by simp[HS.zero],by simpa[HS.zero] using h1,by simpa[HS.zero] using h3⟩
structure Z9 (w:C5) (h:HS):Prop where
 T:h.T.length=w.2.2.2.2.1.length
 L:h.L.length=w.2.1.length
 C:h.C.length=w.1.length
 F:h.F.length=w.2.2.2.1.length
theorem Z9.zero (w:C5):Z9 w (HS.zero w):=⟨by simp[HS.zero],by simp[HS.zero],by simp[HS.zero],by simp[HS.zero]⟩
theorem Z9.ent {w:C5} {h:HS} (f:Z9 w h) (e:EV) (x:η):Z9 w (ub w h e x):=by
 obtain⟨a,b,c,d,g,i,j,k⟩:=EP w h e x;exact⟨a.trans f.T,c.trans f.L,g.trans f.C,i.trans f.F⟩
theorem Z9.step {w:C5} {h:HS} (f:Z9 w h) (e:EV):Z9 w (Oz w h e).1:=f.ent e _
def evP (e:ET):EV:=⟨e.1.toNat,e.2.1.toNat,e.2.2.1.toNat,e.2.2.2.1⟩
theorem ai1 {w:WT} {e:ET} (f:EvF w e):EvT (evP e) e:=by
 obtain⟨⟨k1,k2,ce,lk,cd,th,fu⟩,t0,_,_⟩:=f;refine ⟨(pL t0).symm,(pL (by omega)).symm,λh=>(pL ?_).symm,rfl⟩;unfold evP at h;simp only[bu,cA,gE]at h;by_cases h1:e.2.1=3\/e.2.1=4
 .exact (ce h1).1
 by_cases h2:6<=e.2.1/\e.2.1<=11
 .exact (lk h2).1
 by_cases h3:16<=e.2.1/\e.2.1<=19
 .exact (cd h3).1
 by_cases h4:e.2.1=20\/e.2.1=21
 .exact (th h4).1
 by_cases d:e.2.1=22\/e.2.1=23
 .exact (fu d).1
 omega
theorem Y8 {w:WT} {e:ET} (f:EvF w e) (wb:WB w) {h:HS} (d:Z9 w h):EOK w h (evP e):=by
 obtain⟨⟨k1,k2,ce,lk,cd,th,fu⟩,t0,t1,s⟩:=f;have I:=wb.t;have D:=d.T;have A:=d.L;have f3:=d.C;have z:=d.F;unfold evP;refine ⟨by dsimp only;omega,by dsimp only;omega,by dsimp only;omega,by dsimp only;omega,λq=>?_,λq=>?_,λq=>?_,λq=>?_,λq=>?_⟩<;>dsimp only at q ⊢
 .have:=th (by omega);omega
 .have:=lk (by omega);omega
 .have g:=cd (by omega);have hl:e.2.2.1.toNat<w.2.2.1.length:=by omega
  have hm:=s (w.2.2.1.getD e.2.2.1.toNat ([],0)) (by rw[ay,aw hl];exact qx hl);refine ⟨hl,hm.1,?_⟩;unfold mxP;have:=hm.2;have:=hm.1;omega
 .have:=ce (by omega);omega
 .have:=fu (by omega);omega
theorem yW (a b:Int):eM (a,b)=Z (decide (0<=a/\a<b)):=by
 refine bX ?_;unfold eM ja aB;with_reducible repeat' first|(refine OS.ok ?_;constructor)|refine IM.mk λ_=>?_
 .by_cases h:a<b<;>simp[*,fI]
 .simp;omega
theorem Fz (l:η) (t:Int) (hl:l.length<=1000):jq (l,t)=Z (l.contains t):=by
 refine bX ?_;unfold jq qW wC bi bx bF aY cH aB ct;refine ar (P:=λy:Int=>0<=y↔t∈l) ?_ λy d=>ai ?_
 .refine dY l.length (by omega) (λi x=>x=(i:Int)/\∀j,j<i->¬l.getD j 0=t) ?_ ?_ ⟨rfl,λj hj=>by omega⟩
  .rintro i x hi ⟨rfl,hn⟩;refine io ?_;refine dV (aV (aF (λh=>ai ?_) λh=>ai ?_))
   .refine ⟨λ_=>?_,λ_=>by omega⟩;have h:t=aH (T:=.int .i64) l (i:Int):=h;rw[h];exact bH (T:=.int .i64) (xs:=l) (by omega) (by omega)
   .refine ⟨fk (by omega),λj hj=>?_⟩;have h:¬t=l.getD i 0:=h;by_cases e:j=i
    .subst e;exact λg=>h g.symm
    .exact hn j (by omega)
  .rintro x ⟨rfl,hn⟩;refine gS (ai ?_);refine ⟨λg=>(by omega),λg=>?_⟩;obtain⟨j,hj,e⟩:=uV g;exact (hn j hj (by rw[ay,aw hj];exact e)).elim
 .by_cases h:t∈l
  .have:=d.2 h;simp[cL,h,this]
  .have:¬0<=y:=λg=>h (d.1 g)
   simp[cL,h,this]
theorem aej (w:WT) (s:SY) (d:w.2.2.1.length<=1000) (cd:∀c∈w.2.2.1,0<=c.2/\c.2<w.2.1.length) (e1:s.1.length=w.2.1.length) (e2:s.2.2.1.length=w.2.2.2.1.length) (e3:s.2.2.2.length=w.2.2.2.2.1.length):iw (w,s)=Z M:=by
 refine bX ?_;unfold iw qh aX bh bk cI bx iA bF aY cH aB ct;refine aW (λx=>x=(aa,w)) ?_ ?_
 .refine bW (λh=>(h (by dsimp only[aj];omega)).elim) λ_=>bW (λh=>(h (by dsimp only[aj];omega)).elim) λ_=>ai ?_
  dsimp only[aj];rw[e3];simp
 rintro x rfl;refine gD (dY w.2.2.1.length (by omega) (λi x=>x=((i:Int),w)) ?_ ?_ rfl)
 .rintro i x hi rfl;refine io ?_;refine dV (aV (aQ (yW _ _) (bW (λh=>(h ?_).elim) λ_=>ai ?_)))
  .exact cd _ (bH (T:=pI) (xs:=w.2.2.1) (j:=(i:Int)) (by omega) (by omega))
  .dsimp only;rw[fk (by omega)]
 .rintro x rfl;exact gS (ai rfl)
theorem ZB (w:WT) (k o:Int) (h:NM w k o):iY (w,k,o)=Z M:=by
 refine bX ?_;obtain⟨k1,k2,ce,lk,cn,th,fu,no,mu,rw_⟩:=h;unfold iY aX bh bk bS bi bF aY aB;rcases @xZ k with rfl|rfl|rfl|rfl|rfl|rfl|rfl|rfl|rfl|rfl|rfl|rfl|rfl|rfl|rfl|rfl|rfl|rfl|rfl|rfl|rfl|rfl|rfl|⟨hk,d⟩
 case inr.inr.inr.inr.inr.inr.inr.inr.inr.inr.inr.inr.inr.inr.inr.inr.inr.inr.inr.inr.inr.inr.inr=>omega
 all_goals simp only[aN,aS,kD,yW]
 all_goals with_reducible repeat' first|(refine OS.ok ?_;constructor)|refine IM.mk λ_=>?_
 all_goals try simp only[aj,od] at*
 all_goals first|omega|exact rw_ ⟨by decide,by decide⟩|(simp only[*,Bool.not_false,dH];done)
theorem aeo {n:Nat} (w:WT) (s:SY) (hs:SB n s) (hn:n<=1000) (t k o:Int) (he:EN w s t k o) (hr:Fw w s t k o):kx (w,s,t,k,o)=Z M:=by
 refine bX ?_;obtain⟨nm,t0,t1,cd,e1,e2,e3⟩:=id he;obtain⟨_,_,ce,lk,cn,th,fu,no,mu,rw_⟩:=nm;obtain⟨_,_,_,aq,wr,ra,rl,rr,xb,xe,ab,ae,nt,sp,jo,se,ge⟩:=hr;have hm:16<=k/\k<=19->0<=(aH (T:=pI) w.2.2.1 o).2/\(aH (T:=pI) w.2.2.1 o).2<w.2.1.length:=λh=>cd _ (bH (cn h).1 (cn h).2)
 have z:6<=k/\k<=11->jq ((aH (T:=s9) s.1 o).2,t)=Z ((aH (T:=s9) s.1 o).2.contains t):=λh=>Fz _ _ (by
  have:=hs.rd _ (bH (T:=s9) (lk h).1 (by have:=(lk h).2;omega));omega)
 have lk1:6<=k/\k<=11->0<=o/\o<(s.1.length:Int):=λh=>by have:=lk h;omega
 have q:t<(s.2.2.2.length:Int):=by omega
 have fu1:k=22\/k=23->0<=o/\o<(s.2.2.1.length:Int):=λh=>by have:=fu h;omega
 have th1:k=20\/k=21->0<=o/\o<(s.2.2.2.length:Int):=λh=>by have:=th h;omega
 have d:∀{p:Prop} [Decidable p],p->decide p=M:=λh=>bc h
 unfold kx aX bh bk cI cC bi iA bF aY aB;refine aF (λh=>?_) λI=>?_
 .have h:k=6:=h;exact aK (lk1 (by omega)).1 (lk1 (by omega)).2 (aV (ai (d (aq (.inl h)))))
 refine aF (λh=>?_) λA=>?_
 .have h:k=10:=h;refine fw (aK (lk1 (by omega)).1 (lk1 (by omega)).2 (aV (aF (λ_=>?_) λg=>(g (aq (.inr (.inr h)))).elim)));refine aK (lk1 (by omega)).1 (lk1 (by omega)).2 (aV (ai (ai (d ?_))));have:=wr h;dsimp only[aj]at this ⊢;omega
 refine aF (λh=>?_) λF=>?_
 .have h:k=8:=h;refine fw (aK (lk1 (by omega)).1 (lk1 (by omega)).2 (aV (aF (λ_=>?_) λg=>(g (aq (.inr (.inl h)))).elim)));refine aK (lk1 (by omega)).1 (lk1 (by omega)).2 (aV (aQ (z (by omega)) (ai (ai ?_))));rw[ra h];rfl
 refine aW (λx=>x.2=(w,s)/\(x.1=M↔k=7\/k=11)) (aF (λh=>ai ⟨rfl,λ_=>.inl h,λ_=>d h⟩) λh=>ai ⟨rfl,λh2=>.inr (ba h2),λh2=>d (h2.resolve_left h)⟩) ?_;rintro⟨b,x⟩ ⟨e,hb⟩;dsimp only at e hb;subst e;refine aJ (λh=>?_) λ_=>?_
 .have h:=hb.1 h;exact aK (lk1 (by omega)).1 (lk1 (by omega)).2 (aV (ai (d (rl h))))
 refine aF (λh=>?_) λD=>?_
 .have h:k=9:=h;refine aK (lk1 (by omega)).1 (lk1 (by omega)).2 (aV (aQ (z (by omega)) (ai (rr h))))
 refine aF (λh=>ai (d (xb h))) λ_=>aF (λh=>ai (d (xe h))) λ_=>?_
 refine aF (λh=>aK t0 q (aV (ai (by have:=ab h;dsimp only at this ⊢;rw[this];rfl)))) λ_=>aF (λh=>aK t0 q (aV (ai (ae h)))) λ_=>?_
 refine aW (λx=>x.2=(w,s)/\(x.1=M->k=16\/k=18\/k=19)) (aF (λh=>ai ⟨rfl,λ_=>.inl h⟩) λ_=>aF (λh=>ai ⟨rfl,λ_=>.inr (.inl h)⟩) λ_=>ai ⟨rfl,λh=>.inr (.inr (ba h))⟩) ?_;rintro⟨c,x⟩ ⟨e,hc⟩;dsimp only at e hc;subst e;refine aJ (λh=>?_) λ_=>?_
 .have h:=hc h;have hq:=hm (by omega);exact aK (cn (by omega)).1 (cn (by omega)).2 (aV (aK hq.1 (by rw[e1];exact hq.2) (aV (ai (d (nt h))))))
 refine aF (λh=>?_) λ_=>?_
 .have h:k=20:=h;exact fw (bW (λ_=>aK (th1 (.inl h)).1 (th1 (.inl h)).2 (aV (ai (ai (d (sp h).2))))) λg=>((sp h).1 g).elim)
 refine aF (λh=>?_) λ_=>?_
 .have h:k=21:=h;exact fw (bW (λ_=>aK (th1 (.inr h)).1 (th1 (.inr h)).2 (aV (ai (ai (d (jo h).2))))) λg=>((jo h).1 g).elim)
 refine aF (λh=>aK (fu1 (.inl h)).1 (fu1 (.inl h)).2 (aV (ai (by have:=se h;dsimp only at this ⊢;rw[this];rfl)))) λ_=>aF (λh=>aK (fu1 (.inr h)).1 (fu1 (.inr h)).2 (aV (ai (ge h)))) λ_=>ai rfl
theorem oD {n:Nat} (w:WT) (s:SY) (hs:SB n s) (hn:n<=1000) (D:w.2.2.1.length<=1000) (t k o:Int) (he:EN w s t k o) (hr:Fw w s t k o):eg (w,s,t,k,o)=Z M:=by
 refine bX ?_;obtain⟨nm,t0,t1,cd,e1,e2,e3⟩:=id he;have hrd:=aeo w s hs hn t k o he hr;have A:t<(s.2.2.2.length:Int):=by omega
 unfold eg aX bh bk bn cI cC bi bF aY aB;refine aW (λx=>x=(aa,w,s)) ?_ ?_
 .refine aQ (aej w s D cd e1 e2 e3) (jz rfl (aQ (yW _ _) ?_));refine bW (λh=>(h ⟨t0,t1⟩).elim) λ_=>aQ (ZB w k o nm) (ai rfl)
 rintro x rfl;refine gD (aK t0 A (aV ?_));refine aF (λh=>ai (bc (hr.b h))) λn1=>?_
 refine aF (λh=>?_) λd=>?_
 .have h:k=17:=h;obtain⟨a1,a2,a3⟩:=hr.wk h;obtain⟨z,q⟩:=nm.cd (by omega);have hq:=cd _ (bH (T:=pI) (xs:=w.2.2.1) (j:=o) z q);refine fw (aF (λ_=>aF (λ_=>?_) λg=>(g a2).elim) λg=>(g a1).elim);exact aK z q (aV (aK hq.1 (by rw[e1];exact hq.2) (aV (ai (ai (bc a3))))))
 refine fw (aF (λ_=>aQ hrd (ai (ai rfl))) λg=>(g (hr.r n1 d)).elim)
theorem aaz (w:WT) (e:ET) (h1:e.2.1=1\/e.2.1=2->e.2.2.2.2.1= -1) (h2:¬(e.2.1=1\/e.2.1=2)->0<=e.2.2.2.2.1/\e.2.2.2.2.1<w.2.2.2.2.2.length/\(aH (T:=C2) w.2.2.2.2.2 e.2.2.2.2.1).1=e.1):gm (w,e)=Z M:=by
 refine bX ?_;unfold gm aX da cC bi bx ja bF aY aB;refine aW (λx=>x.2=(w,e)/\(x.1=M↔e.2.1=1\/e.2.1=2)) (aF (λh=>ai ⟨rfl,λ_=>.inl h,λ_=>rfl⟩) λh=>ai ⟨rfl,λh2=>.inr (ba h2),λh2=>bc (h2.resolve_left h)⟩) ?_;rintro⟨b,x⟩ ⟨e1,hb⟩;dsimp only at e1 hb;subst e1;refine aJ (λh=>ai (bc (h1 (hb.1 h)))) λh=>?_
 obtain⟨a1,a2,a3⟩:=h2 λg=>by rw[hb.2 g]at h;cases h
 exact fw (dT (λ_=>io (aK a1 a2 (aV (ai (ai (bc a3)))))) λg=>(by dsimp only at g;omega))
theorem Zx {l:η} (h:xG l) (i:Nat) (hi:i<l.length):∀z∈l.drop (i+1),l.getD i 0<z:=by
 induction l generalizing i with
 |nil=>cases hi
 |cons a l d=>
  cases i with
  |zero=>exact λz q=>h.1 z (by simpa using q)
  |succ i=>exact d h.2 i (by simpa using hi)
theorem Qh (w:WT) (s:SN) (e:ET) (ce:e.2.1=3\/e.2.1=4->0<=e.2.2.1/\e.2.2.1<w.1.length) (de:0<e.2.2.2.2.2.1.length->e.2.1=5\/(e.2.1=3\/e.2.1=4)/\¬(aH (T:=Ol) w.1 e.2.2.1).2.2.1=0) (fr:0<e.2.2.2.2.2.2.length->e.2.1=4\/e.2.1=22) (t0:0<=e.1) (t1:e.1<s.2.2.2.length) (nd:AN (aH (T:=.int .i64) s.2.2.2 e.1) e.2.2.2.2.2.1) (nf:AN (aH (T:=.int .i64) s.2.2.2 e.1) e.2.2.2.2.2.2) (ld:e.2.2.2.2.2.1.length<=1000000) (lf:e.2.2.2.2.2.2.length<=1000000):dw (w,s,e)=Z M:=by
 refine bX ?_;unfold dw gK aX bh bk bS bn cI dI bi bx ja bp bF aY cH aB ct;refine aW (λx=>x.2=(s,e)/\((e.2.1=3\/e.2.1=4)/\¬(aH (T:=Ol) w.1 e.2.2.1).2.2.1=0->x.1=M)) ?_ ?_
 .refine aF (λh=>?_) λn3=>aF (λh=>?_) λn4=>?_
  .exact aK (ce (.inl h)).1 (ce (.inl h)).2 (aV (ai ⟨rfl,λg=>by simpa using g.2⟩))
  .exact aK (ce (.inr h)).1 (ce (.inr h)).2 (aV (ai ⟨rfl,λg=>by simpa using g.2⟩))
  .exact ai ⟨rfl,λg=>(g.1.elim n3 n4).elim⟩
 rintro⟨b,x⟩ ⟨e1,hb⟩;dsimp only at e1 hb;subst e1;refine aW (λx=>x.1=s/\x.2.1=e/\(0<e.2.2.2.2.2.1.length->x.2.2.1=M)/\(0<e.2.2.2.2.2.2.length->x.2.2.2=M)) ?_ ?_
 .refine aF (λI=>aF (λh4=>ai ⟨rfl,rfl,λ_=>rfl,λ_=>rfl⟩) λh4=>ai ⟨rfl,rfl,λ_=>rfl,λg=>?_⟩) λI=>aF (λh4=>ai ⟨rfl,rfl,λg=>?_,λ_=>rfl⟩) λh4=>ai ⟨rfl,rfl,λg=>?_,λg=>?_⟩
  .exact bc ((fr g).resolve_left h4)
  .exact hb ((de g).resolve_left I)
  .exact hb ((de g).resolve_left I)
  .exact bc ((fr g).resolve_left h4)
 rintro⟨s',e',a,b'⟩ ⟨e1,e2,h1,h2⟩;dsimp only at e1 e2 h1 h2;subst e1;subst e2;have key:∀(r:η),r.length<=1000000->AN (aH (T:=.int .i64) s'.2.2.2 e'.1) r->∀j:Nat,j<r.length->∀z∈r.drop (j+1),aH (T:=.int .i64) r (j:Int)<z:=λr _ h j hj z D=>Zx h.a j hj z D
 refine dY 2 (by omega) (λi x=>x=((i:Int),s',e',a,b')) ?_ ?_ rfl
 .rintro i x hi rfl;refine io ?_;refine cR (du (by dsimp only;omega) (rx (by dsimp only;omega) (aV ?_)));have hr:∃r:η,aH (T:=.sl (.int .i64)) [e'.2.2.2.2.2.1,e'.2.2.2.2.2.2] (i:Int)=r/\AN (aH (T:=.int .i64) s'.2.2.2 e'.1) r/\r.length<=1000000/\(0<r.length->aH (T:=.bool) [a,b'] (i:Int)=M):=by
   match i,hi with
   |0,_=>exact⟨_,rfl,nd,ld,h1⟩
   |1,_=>exact⟨_,rfl,nf,lf,h2⟩
  obtain⟨r,er,hA,hl,F⟩:=hr;have er':aH (T:=.sl aM) [e'.2.2.2.2.2.1,e'.2.2.2.2.2.2] (i:Int)=r:=er;dsimp only at er' ⊢;rw[er'];refine aW (λx=>x=(aa,s',e',a,b')) ?_ ?_
  .refine aR (λg=>?_) λ_=>ai rfl
   have g':0<r.length:=by dsimp only[aj]at g;omega
   refine cR (du (by omega) (rx (by omega) (dV (aV (ai ?_)))));rw[F g'];rfl
  rintro x rfl;refine gD ?_;refine dY r.length (by omega) (λj x=>x.1.2=(j:Int)/\x.2=(s',e',a,b')/\∀z∈r.drop j,x.1.1<z) ?_ ?_ ⟨rfl,rfl,λz D=>?_⟩
  .rintro j ⟨⟨la,ix⟩,x⟩ hj ⟨A,d,L⟩;dsimp only at A d L;subst A;subst d;have m:aH (T:=.int .i64) r (j:Int)∈r:=bH (T:=.int .i64) (xs:=r) (by omega) (by omega);have m2:aH (T:=.int .i64) r (j:Int)∈r.drop j:=by
    have:aH (T:=.int .i64) r (j:Int)=r[j]:=by
     show r.getD j 0=_;rw[ay,aw hj];rfl
    rw[this,List.drop_eq_getElem_cons hj];exact eo
   refine io ?_;refine dV (aV (aW (λx=>x=(aa,s',e',a,b')) ?_ ?_))
   .refine dT (λg=>?_) λ_=>aK t0 t1 (aV (ai ?_))
    .have q1:=L _ m2;exact dP q1 (by dsimp only at g;exact λq=>dP (Int.lt_of_lt_of_le q g) (Int.lt_irrefl _))
    .have:=(hA.m _ m).2;rw[kV.2 (show aH (T:=.int .i64) r (j:Int)<aH (T:=.int .i64) s'.2.2.2 e'.1 from this)]
   rintro x rfl;exact gD (ai ⟨fk (by omega),rfl,key r hl hA j hj⟩)
  .rintro⟨⟨la,ix⟩,x⟩ ⟨A,d,_⟩;dsimp only at A d;subst A;subst d;exact gS (ai (iU (·,s',e',a,b') (fk (by omega))))
  .have:=(hA.m z (by simpa using D)).1;dsimp only;omega
 .rintro x rfl;exact gS (ai rfl)
theorem ai0 (w:WT) (s:SN) (d:w.2.2.1.length<=1000) (t k o:Int) (he:EN w s.1 t k o) (hf:Rw w s):ia (w,s)=Z M:=by
 obtain⟨_,_,_,cd,e1,e2,e3⟩:=he;obtain⟨z,q,f3⟩:=hf;refine bX ?_;unfold ia aX bh bk cI bi aY aB;refine fw (aQ (aej w s.1 d cd e1 e2 e3) (pu (aF (λ_=>aF (λ_=>ai (ai (bc ?_))) λg=>(g ?_).elim) λg=>(g ?_).elim)));all_goals dsimp only[aj];omega
theorem yV (th:Y (Int×Int×Bool)) (c:Int) (i:Nat):wl th c (i+1)=if Ep c (aH (T:=uG) th (i:Int)) then wl th c i++[(i:Int)] else wl th c i:=rfl
theorem aai {n:Nat} (w:WT) (s:SN) (hs:SB n s.1) (e:ET) (hf:Rw w s) (he:EN w s.1 e.1 e.2.1 e.2.2.1) (va:VA w s.1 s.2.1 s.2.2.1 e.1 e.2.1 e.2.2.1 e.2.2.2.1):eI (s,e)=Z M:=by
 refine bX ?_;obtain⟨t,k,o,v,A,de,fr⟩:=e;obtain⟨s1,s2,s3,s4⟩:=s;obtain⟨nm,t0,t1,cd,e1,e2,e3⟩:=he;obtain⟨_,_,ce,lk,cn,th,fu,_,_,_⟩:=nm;obtain⟨f1,f2,f3⟩:=hf;have hth:=hs.th;obtain⟨v3,F,v5,vel⟩:=va;dsimp only at*
 unfold eI jI aX bh bk bS bn bi bx bF aY cH aB ct;refine aF (λh=>?_) λn3=>?_
 .have h:k=3:=h;obtain⟨c0,c1⟩:=ce (.inl h);exact aK c0 (by rw[f1];exact c1) (aV (ai (bc (v3 h))))
 refine aF (λh=>?_) λI=>?_
 .have h:k=23:=h;obtain⟨c0,c1⟩:=fu (.inr h);exact aK c0 (by rw[f2];exact c1) (aV (ai (bc (F h))))
 refine aF (λh=>?_) λn5=>?_
 .have h:k=5:=h;exact fw (aF (λ_=>ai (ai rfl)) λg=>ai (ai (bc ((v5 h).resolve_left g))))
 refine aW (λx=>x.2=((s1,s2,s3,s4),t,k,o,v,A,de,fr)/\(x.1=aa->¬k=4/\¬k=22)) (aF (λh=>ai ⟨rfl,λh2=>(by rw[bc h]at h2;cases h2)⟩) λh=>ai ⟨rfl,λh2=>⟨h,jy h2⟩⟩) ?_;rintro⟨b,x⟩ ⟨e,hb⟩;dsimp only at e hb;subst e;refine aJ (λh=>ai rfl) λh=>?_
 obtain⟨n4,L⟩:=hb h;have vel:=vel n3 I n5 n4 L;have hWl:=pM s1.2.2.2 o s1.2.2.2.length;refine aF (λh=>?_) λn18=>?_
 .have h:k=18:=h;subst h;rw[JF]at vel;refine dY s1.2.2.2.length (by omega) (λi x=>x.1.2.2=(i:Int)/\x.2=(t,18,o,v,A,de,fr)/\x.1.1=((wl s1.2.2.2 o i).length:Int)/\(x.1.2.1=M↔v∈wl s1.2.2.2 o i)) ?_ ?_ ⟨rfl,rfl,rfl,by simp[wl]⟩
  .rintro i ⟨⟨c,hit,ix⟩,x⟩ hi ⟨q,d,z,D⟩;dsimp only at q d z D;subst q;subst d;subst z;have hl:=pM s1.2.2.2 o i;refine io ?_;refine aW (λx=>x.2=(t,18,o,v,A,de,fr)/\x.1.1=((wl s1.2.2.2 o (i+1)).length:Int)/\(x.1.2=M↔v∈wl s1.2.2.2 o (i+1))) ?_ ?_
   .refine dV (aV (aW (λx=>x=(Ep o (aH (T:=uG) s1.2.2.2 (i:Int)),t,18,o,v,A,de,fr)) ?_ ?_))
    .unfold Ep;refine aF (λh=>ai ?_) λh=>ai ?_
     .dsimp only at h ⊢;rw[h];rfl
     .dsimp only at h ⊢;rw[bD h];rfl
    rintro x rfl;rw[yV];dsimp only;cases hw:Ep o (aH (T:=uG) s1.2.2.2 (i:Int)) with
    |true=>
     refine pu (aJ (λh=>ai ⟨rfl,?_,?_⟩) λh=>ai ⟨rfl,?_,?_⟩)
     .dsimp only;rw[fk (by omega)];simp
     .simp[D.1 h]
     .dsimp only;rw[fk (by omega)];simp
     .have:¬v∈wl s1.2.2.2 o i:=λg=>by rw[D.2 g]at h;cases h
      simp[this]
    |false=>exact gD (ai ⟨rfl,rfl,D⟩)
   rintro⟨⟨c,hit'⟩,x⟩ ⟨q,d,z⟩;dsimp only at q d z;subst q;subst d;exact ai ⟨fk (by omega),rfl,rfl,z⟩
  .rintro⟨⟨c,hit,ix⟩,x⟩ ⟨q,d,z,D⟩;dsimp only at q d z D;subst q;subst d;subst z;refine gS (ar (P:=λy=>y=M) (fw (aJ (λ_=>ai (ai rfl)) λh=>?_)) λy hy=>ai hy);have hn:¬v∈wl s1.2.2.2 o s1.2.2.2.length:=λg=>by rw[D.2 g]at h;cases h
   by_cases h0:(wl s1.2.2.2 o s1.2.2.2.length).length=0
   .rw[aU h0]at vel;refine aF (λ_=>ai (ai (bc vel))) λg=>(g (by dsimp only;omega)).elim
   .rw[aL h0]at vel;have vel:v=C4 (wl s1.2.2.2 o s1.2.2.2.length) v:=vel;exact (hn (vel▸Vi v h0)).elim
 refine aF (λh=>?_) λn19=>?_
 .have h:k=19:=h;subst h;rw[Uf]at vel;refine dY s1.2.2.2.length (by omega) (λi x=>x.1.2=(i:Int)/\x.2=(t,19,o,v,A,de,fr)/\x.1.1=((wl s1.2.2.2 o i).length:Int)) ?_ ?_ ⟨rfl,rfl,rfl⟩
  .rintro i ⟨⟨c,ix⟩,x⟩ hi ⟨q,d,z⟩;dsimp only at q d z;subst q;subst d;subst z;have hl:=pM s1.2.2.2 o i;refine io ?_;refine aW (λx=>x.2=(t,19,o,v,A,de,fr)/\x.1=((wl s1.2.2.2 o (i+1)).length:Int)) ?_ ?_
   .refine dV (aV (aW (λx=>x=(Ep o (aH (T:=uG) s1.2.2.2 (i:Int)),t,19,o,v,A,de,fr)) ?_ ?_))
    .unfold Ep;refine aF (λh=>ai ?_) λh=>ai ?_
     .dsimp only at h ⊢;rw[h];rfl
     .dsimp only at h ⊢;rw[bD h];rfl
    rintro x rfl;rw[yV];dsimp only;cases hw:Ep o (aH (T:=uG) s1.2.2.2 (i:Int)) with
    |true=>
     refine pu (ai ⟨rfl,?_⟩);dsimp only;rw[fk (by omega)];simp
    |false=>exact gD (ai ⟨rfl,rfl⟩)
   rintro⟨c,x⟩ ⟨q,d⟩;dsimp only at q d;subst q;subst d;exact ai ⟨fk (by omega),rfl,rfl⟩
  .rintro⟨⟨c,ix⟩,x⟩ ⟨q,d,z⟩;dsimp only at q d z;subst q;subst d;subst z;exact gS (ai (bc vel))
 exact ai (bc (by rw[Vq _ _ _ _ _ _ n18 n19]at vel;exact vel))
theorem XX (x:Int×Int×Bool) (c:Int):mc (x,c)=Z (Ep c x):=by
 refine bX ?_;unfold mc Ep bi aB;refine fw (aF (λh=>ai (ai ?_)) λh=>ai (ai ?_))
 .have h:x.1=3:=h;rw[h];rfl
 .have h:¬x.1=3:=h;rw[bD h];rfl
theorem Zi {n:Nat} (s:SY) (hs:SB n s):ky s=Z (s.2.1,s.1,s.2.2.1,s.2.2.2):=by
 refine bX ?_;obtain⟨s1,s2,q,s4⟩:=s;have hn:=hs.n1;have hlk:=hs.lk;have hdn:=hs.dn;have hth:=hs.th;have hrd:=hs.rd;dsimp only at hlk hdn hth hrd;unfold ky rE aX bn ck bx bp bF aY cH ct;dsimp only[aj];refine cR (cR (du (by omega) (du (by omega) (a_ (by simp;omega) (by omega) ?_))));refine dY s1.length (by omega) (λi x=>∃c d,x=((i:Int),(s1,s2,q,s4),c,d)/\d.length=s1.length/\∀j,j<i->d.getD j (0,[])=s1.getD j (0,[])) ?_ ?_ ⟨_,_,rfl,by simp,λj hj=>by omega⟩
 .rintro i x hi ⟨c,d,rfl,hd,he⟩;have hr:=hrd _ (bH (T:=s9) (xs:=s1) (j:=(i:Int)) (by omega) (by omega));refine io ?_;refine dV (aV (aQ (x:=(aH (T:=s9) s1 (i:Int)).2) (bX ?_) ?_))
  .exact a_ (by dsimp only;omega) (by omega) (ai rfl)
  refine dV (dV (ai ⟨c,d.set i (aH (T:=s9) s1 (i:Int)),?_,by simp[hd],λj hj=>?_⟩))
  .dsimp only;rw[fk (by omega)];rfl
  .by_cases e:i=j
   .subst e;rw[ay,List.getElem?_set_self (by omega)];rfl
   .rw[ay,List.getElem?_set_ne e,<-ay];exact he j (by omega)
 .rintro x ⟨c,d,rfl,hd,he⟩;have:d=s1:=by
   refine dy hd λj D z=>?_
   have:=he j z;rw[ay,ay,aw D,aw z]at this;exact this
  subst this;refine gS (ar (P:=λy=>y=(s2,d,q,s4)) ?_ λy A=>ai A);refine aQ (x:=q) (bX (a_ (by dsimp only;omega) (by omega) (ai rfl))) (aQ (x:=s4) (bX (a_ (by dsimp only;omega) (by omega) (ai rfl))) (ai rfl))
theorem Vj (l:η) (i u:Int):C4 (l++[i]) u=if l.length=0 then i else if i=u then i else C4 l u:=by
 unfold C4;cases l with
 |nil=>
  by_cases h:u=i
  .subst h;simp
  .simp[h];rfl
 |cons a r=>
  have e1:¬(a::r++[i]).length=0:=by simp
  have e2:¬(a::r).length=0:=by simp
  simp only[aL e1,aL e2];by_cases h:i=u
  .subst h;simp
  .have h':¬u=i:=λg=>h g.symm
   rw[aL h];have:(a::r++[i]).contains u=(a::r).contains u:=by simp[h']
   rw[this];rfl
theorem NV {th:Y (Int×Int×Bool)} {c u:Int} {i:Nat} (h:¬(wl th c i).length=0):0<=C4 (wl th c i) u/\C4 (wl th c i) u<i:=by
 have:=xJ.1 (Vi u h);exact⟨this.1,this.2.1⟩
theorem Jt {l:η} {u:Int} (h:l.length=0):C4 l u= -1:=by unfold C4;rw[aU h]
theorem ab4 (s:SY) (o u:Int) (hs:s.2.2.2.length<=1000):jD ((s.2.1,o,u),s.1,s.2.2.1,s.2.2.2)=Z (C4 (wl s.2.2.2 o s.2.2.2.length) u,s.1,s.2.2.1,if (wl s.2.2.2 o s.2.2.2.length).length=0 then s.2.2.2 else Kc s.2.2.2 (C4 (wl s.2.2.2 o s.2.2.2.length) u) 4):=by
 refine bX ?_;obtain⟨s1,s2,d,s4⟩:=s;dsimp only at hs ⊢;unfold jD qg aX bh bn ck bx ja kF aY cH aB ct;dsimp only[aj];refine dY s4.length (by omega) (λi x=>x=((C4 (wl s4 o i) u,(i:Int)),s1,d,s4,s2)) ?_ ?_ rfl
 .rintro i x hi rfl;refine io ?_;refine aW (λx=>x=(C4 (wl s4 o (i+1)) u,s1,d,s4,s2)) ?_ ?_
  .refine dV (dV (aV ?_));refine aW (λx=>x=(decide (Ep o (aH (T:=uG) s4 (i:Int))=M/\((wl s4 o i).length=0\/(i:Int)=u)),s1,d,s4,s2)) ?_ ?_
   .refine aQ (XX _ _) (aJ (λh=>?_) λh=>ai ?_)
    .have h:Ep o (aH (T:=uG) s4 (i:Int))=M:=h;refine aR (λg=>ai ?_) λg=>ai ?_
     .have:(wl s4 o i).length=0:=Classical.byContradiction λq=>by have:=(NV (u:=u) q).1;dsimp only at g;omega
      simp[h,this]
     .have:¬(wl s4 o i).length=0:=λq=>by have:=Jt (u:=u) q;dsimp only at g;omega
      simp[h,this]
    .have h:Ep o (aH (T:=uG) s4 (i:Int))=aa:=h;simp[h]
   rintro x rfl;rw[yV];refine aF (λh=>ai ?_) λh=>ai ?_
   .rw[aU h.1,Vj];rcases h.2 with g|g
    .rw[aU g]
    .rw[aU g];simp
   .by_cases g:Ep o (aH (T:=uG) s4 (i:Int))=M
    .rw[aU g,Vj,aL λq=>h ⟨g,.inl q⟩,aL λq=>h ⟨g,.inr q⟩]
    .rw[aL g]
  rintro x rfl;exact ai (by dsimp only;rw[fk (by omega)])
 .rintro x rfl;refine gS (ar (P:=λy=>y=(C4 (wl s4 o s4.length) u,s1,d,if (wl s4 o s4.length).length=0 then s4 else Kc s4 (C4 (wl s4 o s4.length) u) 4)) ?_ λy z=>ai z);refine aW (λx=>x=(s1,d,if (wl s4 o s4.length).length=0 then s4 else Kc s4 (C4 (wl s4 o s4.length) u) 4)) ?_ ?_
  .refine dT (λg=>?_) λg=>ai ?_
   .have h0:¬(wl s4 o s4.length).length=0:=λq=>by have:=Jt (u:=u) q;dsimp only at g;omega
    have hp:=NV (u:=u) h0;refine aK hp.1 hp.2 (aK hp.1 hp.2 (ai ?_));rw[aL h0];rfl
   .have:(wl s4 o s4.length).length=0:=Classical.byContradiction λq=>by have:=(NV (u:=u) q).1;dsimp only at g;omega
    rw[aU this]
  rintro x rfl;exact ai rfl
theorem ab9 (th:Y (Int×Int×Bool)) (l:η) (i:Int):Om th (l++[i])=Kc (Om th l) i 4:=by unfold Om;rw[jR];rfl
theorem ab8 (l:η):∀(th:Y (Int×Int×Bool)) (j:Int),0<=j->(∀z∈l,0<=z/\z<th.length/\¬z=j)->aH (T:=uG) (Om th l) j=aH (T:=uG) th j:=by
 induction l with
 |nil=>intro th j _ _;rfl
 |cons x r s=>
  intro th j hj h;have d:=h x (by simp);refine (s (Kc th x 4) j hj λz A=>?_).trans ?_
  .have:=h z (by simp[A]);unfold Kc;rw[cM];exact this
  .unfold Kc;rw[LS (T:=uG) th x j _ d.1 d.2.1 hj,aL λq=>d.2.2 q.symm]
theorem Sl (s:SY) (o:Int) (hs:s.2.2.2.length<=1000):gI ((s.2.1,o),s.1,s.2.2.1,s.2.2.2)=Z (((wl s.2.2.2 o s.2.2.2.length).length:Int),s.1,s.2.2.1,Om s.2.2.2 (wl s.2.2.2 o s.2.2.2.length)):=by
 refine bX ?_;obtain⟨s1,s2,d,s4⟩:=s;dsimp only at hs ⊢;unfold gI mr aX bh bn cI ck bx kF aY cH aB ct;dsimp only[aj];refine dY s4.length (by omega) (λi x=>x=((((wl s4 o i).length:Int),(i:Int)),s1,d,Om s4 (wl s4 o i),s2)) ?_ ?_ rfl
 .rintro i x hi rfl;have hl:=pM s4 o i;have hg:aH (T:=uG) (Om s4 (wl s4 o i)) (i:Int)=aH (T:=uG) s4 (i:Int):=ab8 _ _ _ (by omega) λz q=>by have:=xJ.1 q;exact⟨this.1,by omega,by omega⟩
  have hq:=GJ (wl s4 o i) s4;refine io ?_;refine aW (λx=>x=(((wl s4 o (i+1)).length:Int),s1,d,Om s4 (wl s4 o (i+1)),s2)) ?_ ?_
  .refine dV (dV (aV (aQ (XX _ _) ?_)));rw[yV];refine aJ (λh=>?_) λh=>ai ?_
   .have h:Ep o (aH (T:=uG) s4 (i:Int))=M:=hg▸h;refine dV (dV (ai ?_));rw[aU h,ab9];dsimp only;rw[fk (by omega)];simp only[bY,ca,jW];rfl
   .have h:Ep o (aH (T:=uG) s4 (i:Int))=aa:=hg▸h;rw[h];rfl
  rintro x rfl;exact ai (by dsimp only;rw[fk (by omega)])
 .rintro x rfl;exact gS (ai rfl)
theorem adc {n:Nat} (w:WT) (s:SY) (hs:SB n s) (hn:n<=1000) (A:w.2.2.1.length<=1000) (t k o u:Int) (he:EN w s t k o) (hr:Fw w s t k o) (q:¬k=8) (d:¬k=9):gJ (w,s,t,k,o,u)=Z ((vO w s t k o u).1,(vO w s t k o u).2,M):=by
 refine bX ?_;unfold gJ aX bh bk bS da bn cI cC dI gG ck bi bp bF kF aB;refine aQ (oD w s hs hn A t k o he hr) (jz rfl (aQ (Zi s hs) ?_));suffices hmain:Ok _ _ from aW (λx=>((x.2.2.2.1,x.2.1,x.2.2.2.2),x.1)=vO w s t k o u) hmain λx z=>ai (by rw[<- z])
 obtain⟨nm,t0,t1,cd,e1,e2,e3⟩:=id he;obtain⟨_,_,ce,lk,cn,th,fu⟩:=nm;have hm:16<=k/\k<=19->0<=(aH (T:=pI) w.2.2.1 o).2/\(aH (T:=pI) w.2.2.1 o).2<w.2.1.length:=λh=>cd _ (bH (cn h).1 (cn h).2)
 rcases @xZ k with rfl|rfl|rfl|rfl|rfl|rfl|rfl|rfl|rfl|rfl|rfl|rfl|rfl|rfl|rfl|rfl|rfl|rfl|rfl|rfl|rfl|rfl|rfl|⟨hk,D⟩
 case inr.inr.inr.inr.inr.inr.inr.inr.inr.inr.inr.inr.inr.inr.inr.inr.inr.inr.inr.inr.inr.inr.inr=>omega
 all_goals first|exact (q rfl).elim|exact (d rfl).elim|skip
 all_goals simp only[aN,aS,kD]
 all_goals with_reducible repeat' first|(refine OS.ok ?_;constructor)|refine IM.mk λ_=>?_
 all_goals try simp only[aj,od] at*
 all_goals try rw[cM]
 all_goals first|omega|exact (hm ⟨by decide,by decide⟩).1|exact e1▸(hm ⟨by decide,by decide⟩).2|exact rfl|skip
 .refine aQ (ab4 s o u hs.th) (a8 ?_ (ai ?_))
  .have:ah (if (wl s.2.2.2 o s.2.2.2.length).length=0 then s.2.2.2 else Kc s.2.2.2 (C4 (wl s.2.2.2 o s.2.2.2.length) u) 4)=s.2.2.2.length:=by
    split
    .rfl
    .exact cM ..
   dsimp only;rw[this];simp
  .rw[JF];by_cases h:(wl s.2.2.2 o s.2.2.2.length).length=0
   .rw[aU h,aU h,Jt h]
   .rw[aL h,aL h]
 .refine aQ (Sl s o hs.th) (a8 ?_ (ai rfl));dsimp only;rw[GJ];simp
def zO:Nat->Y η
 |0=>[[]]
 |m+1=>zO m++(zO m).map ((3-(m:Int))::·)
theorem Lr:∀m,[]∈zO m
 |0=>by simp[zO]
 |m+1=>by simp[zO,Lr m]
theorem C9:∀(m:Nat) (l:η),xG l->(∀z∈l,4-(m:Int)<=z/\z<4)->l∈zO m
 |m,[],_,_=>Lr m
 |0,a::r,_,h=>by have:=h a (by simp);omega
 |m+1,a::r,hA,h=>by
  have q:=h a (by simp);rw[zO,bN];by_cases e:a=3-(m:Int)
  .refine .inr (cX.2 ⟨r,C9 m r hA.2 λz d=>?_,by rw[e]⟩);have:=h z (by simp[d]);have:=hA.1 z d;omega
  .refine .inl (C9 m (a::r) hA λz d=>?_);have:=h z d;rcases bu.1 d with rfl|d
   .omega
   .have:=hA.1 z d;omega
theorem adk {l:η} (h:xG l) (h2:∀z∈l,0<=z/\z<4):l∈zO 4:=C9 4 l h λz d=>by have:=h2 z d;omega
def in4:η:=[0,1,2,3]
theorem UY {t:Int} (h0:0<=t) (h1:t<4):t∈in4:=by
 have:t=0\/t=1\/t=2\/t=3:=by omega
 rcases this with rfl|rfl|rfl|rfl<;>simp[in4]
def ahg (l:η) (t:Int):Bool:=l.contains t||((iQ (l++[t])==Z (qA l [t]))&&(ec (qA l [t])==Z (qA l [t]))&&ax (qA l [t]).length (l++[t]).length)
def ai4 (l:η) (t:Int):Bool:= !l.contains t||(c8 (l,t)==Z (t,wo l t))
theorem aam:((zO 4).all λl=>in4.all λt=>ahg l t)=M:=by kernel_rfl
theorem abx:((zO 4).all λl=>in4.all λt=>ai4 l t)=M:=by kernel_rfl
theorem Kd {l:η} {t:Int} (h:xG l) (h2:∀z∈l,0<=z/\z<4) (h0:0<=t) (h1:t<4) (hn:¬t∈l):iQ (l++[t])=Z (qA l [t])/\ec (qA l [t])=Z (qA l [t])/\(qA l [t]).length=(l++[t]).length:=by
 have:=gj.1 (gj.1 aam l (adk h h2)) t (UY h0 h1);unfold ahg at this;have hc:l.contains t=aa:=by simp[hn]
 rw[hc,Bool.false_or,ak,ak]at this;exact⟨eq_of_beq this.1.1,eq_of_beq this.1.2,au this.2⟩
theorem KN {l:η} {t:Int} (h:xG l) (h2:∀z∈l,0<=z/\z<4) (h0:0<=t) (h1:t<4) (hn:l.contains t=M):c8 (l,t)=Z (t,wo l t):=by
 have:=gj.1 (gj.1 abx l (adk h h2)) t (UY h0 h1);unfold ai4 at this;rw[hn,Bool.not_true,Bool.false_or]at this;exact eq_of_beq this
theorem Rd (w:WT) (k o:Int):Ok (iY (w,k,o)) λb=>b=M->NM w k o:=by
 unfold iY aX bh bk bS bi bF aY aB;rcases @xZ k with rfl|rfl|rfl|rfl|rfl|rfl|rfl|rfl|rfl|rfl|rfl|rfl|rfl|rfl|rfl|rfl|rfl|rfl|rfl|rfl|rfl|rfl|rfl|⟨hk,d⟩
 case inr.inr.inr.inr.inr.inr.inr.inr.inr.inr.inr.inr.inr.inr.inr.inr.inr.inr.inr.inr.inr.inr.inr=>
  simp only[hk 1 (by decide) (by decide),hk 2 (by decide) (by decide),hk 3 (by decide) (by decide),hk 4 (by decide) (by decide),hk 5 (by decide) (by decide),hk 6 (by decide) (by decide),hk 7 (by decide) (by decide),hk 8 (by decide) (by decide),hk 9 (by decide) (by decide),hk 10 (by decide) (by decide),hk 11 (by decide) (by decide),hk 12 (by decide) (by decide),hk 13 (by decide) (by decide),hk 14 (by decide) (by decide),hk 15 (by decide) (by decide),hk 16 (by decide) (by decide),hk 17 (by decide) (by decide),hk 18 (by decide) (by decide),hk 19 (by decide) (by decide),hk 20 (by decide) (by decide),hk 21 (by decide) (by decide),hk 22 (by decide) (by decide),hk 23 (by decide) (by decide),aN,aS,kD];with_reducible repeat' first|(refine OS.ok ?_;constructor)|refine IM.mk λ_=>?_
  all_goals try simp only[aj,od] at*
  all_goals first|omega|(intro h;cases h;done)|skip
 all_goals simp only[aN,aS,kD,yW]
 all_goals with_reducible repeat' first|(refine OS.ok ?_;constructor)|refine IM.mk λ_=>?_
 all_goals try simp only[aj,od] at*
 all_goals first|omega|(intro h;cases h;done)|(intro h;constructor<;>first|omega|(intro h2;first|omega|(simpa using h)))
theorem Ru (w:WT) (s:SY) (q:w.2.2.1.length<=1000):Ok (iw (w,s)) λb=>b=M->(∀c∈w.2.2.1,0<=c.2/\c.2<w.2.1.length)/\s.1.length=w.2.1.length/\s.2.2.1.length=w.2.2.2.1.length/\s.2.2.2.length=w.2.2.2.2.1.length:=by
 unfold iw qh aX bh bk cI bx iA bF aY cH aB ct;refine aW (λx=>x.2=w/\(x.1=aa->s.1.length=w.2.1.length/\s.2.2.1.length=w.2.2.2.1.length/\s.2.2.2.length=w.2.2.2.2.1.length)) ?_ ?_
 .refine bW (λ_=>ai ⟨rfl,λh=>(by cases h)⟩) λh1=>bW (λ_=>ai ⟨rfl,λh=>(by cases h)⟩) λh2=>ai ⟨rfl,λh3=>?_⟩
  have h3:aT s.2.2.2.length=aT w.2.2.2.2.1.length:=by simpa using h3
  exact⟨r9 h1,r9 h2,r9 h3⟩
 rintro⟨b,x⟩ ⟨e,hb⟩;dsimp only at e hb;subst e;refine aJ (λ_=>ai λh=>(by cases h)) λh=>?_
 have hl:=hb h;refine dY x.2.2.1.length (by omega) (λi y=>y=((i:Int),x)/\∀k:Nat,k<i->0<=(aH (T:=pI) x.2.2.1 (k:Int)).2/\(aH (T:=pI) x.2.2.1 (k:Int)).2<x.2.1.length) ?_ ?_ ⟨rfl,λk hk=>(by omega)⟩
 .rintro i y hi ⟨rfl,d⟩;refine io (dV (aV (aQ (yW _ _) (bW (λ_=>ai λh=>(by cases h)) λg=>ai ⟨?_,λk hk=>?_⟩))))
  .dsimp only;rw[fk (by omega)]
  .rcases bM k i with h1|h1
   .exact d k h1
   .rw[show k=i by omega];exact g
 .rintro y ⟨rfl,d⟩;exact gS (ai λ_=>⟨ii (T:=pI) d,hl⟩)
theorem VP {n:Nat} (w:WT) (s:SY) (hs:SB n s) (hn:n<=1000) (t k o:Int) (he:EN w s t k o) (n1:¬k=1) (d:¬k=17) (hst:(aH (T:=uG) s.2.2.2 t).1=2):Ok (kx (w,s,t,k,o)) λb=>b=M->Fw w s t k o:=by
 obtain⟨nm,t0,t1,cd,e1,e2,e3⟩:=id he;obtain⟨_,_,ce,lk,cn,th,fu,_,_,_⟩:=nm;have hm:16<=k/\k<=19->0<=(aH (T:=pI) w.2.2.1 o).2/\(aH (T:=pI) w.2.2.1 o).2<w.2.1.length:=λh=>cd _ (bH (cn h).1 (cn h).2)
 have z:6<=k/\k<=11->jq ((aH (T:=s9) s.1 o).2,t)=Z ((aH (T:=s9) s.1 o).2.contains t):=λh=>Fz _ _ (by
  have:=hs.rd _ (bH (T:=s9) (lk h).1 (by have:=(lk h).2;omega));omega)
 unfold kx aX bh bk cI cC bi iA bF aY aB;rcases @xZ k with rfl|rfl|rfl|rfl|rfl|rfl|rfl|rfl|rfl|rfl|rfl|rfl|rfl|rfl|rfl|rfl|rfl|rfl|rfl|rfl|rfl|rfl|rfl|⟨hk,q⟩
 case inr.inr.inr.inr.inr.inr.inr.inr.inr.inr.inr.inr.inr.inr.inr.inr.inr.inr.inr.inr.inr.inr.inr=>omega
 all_goals first|omega|skip
 all_goals simp only[aN,aS,kD]
 all_goals with_reducible repeat' first|(refine OS.ok ?_;constructor)|refine IM.mk λ_=>?_
 all_goals try simp only[z (by omega),RL]
 all_goals with_reducible repeat' first|(refine OS.ok ?_;constructor)|refine IM.mk λ_=>?_
 all_goals try simp only[aj,od] at*
 all_goals first|omega|(intro h;cases h;done)|exact (hm ⟨by decide,by decide⟩).1|(rw [e1];exact (hm ⟨by decide,by decide⟩).2)|(intro h;constructor<;>first|omega|(intros;first|omega|assumption|(simpa using h)|exact⟨by assumption,by first|assumption|(simpa using h)⟩))|(constructor<;>(intros;first|omega|assumption))|skip
theorem Fw.one {w:WT} {s:SY} {t o:Int} (h:(aH (T:=uG) s.2.2.2 t).1=1):Fw w s t 1 o:=by
 constructor<;>(intros;first|omega|assumption)
theorem Fw.wake {w:WT} {s:SY} {t o:Int} (h1:(aH (T:=uG) s.2.2.2 t).1=4) (h2:(aH (T:=uG) s.2.2.2 t).2.1=o) (h3:(aH (T:=s9) s.1 (aH (T:=pI) w.2.2.1 o).2).1= -1):Fw w s t 17 o:=by
 constructor<;>(intros;first|omega|exact⟨h1,h2,h3⟩)
theorem Rx {n:Nat} (w:WT) (s:SY) (hs:SB n s) (hn:n<=1000) (F:w.2.2.1.length<=1000) (t k o:Int):Ok (eg (w,s,t,k,o)) λb=>b=M->EN w s t k o/\Fw w s t k o:=by
 unfold eg aX bh bk bn cI cC bi bF aY aB;refine aW (λx=>x.2=(w,s)/\(x.1=aa->EN w s t k o)) ?_ ?_
 .refine ar (Ru w s F) λb hb=>cQ (λ_=>ai ⟨rfl,λh=>(by cases h)⟩) λh1=>aQ (yW _ _) ?_
  refine bW (λ_=>ai ⟨rfl,λh=>(by cases h)⟩) λh2=>ar (Rd w k o) λc hc=>ai ⟨rfl,λh3=>?_⟩
  obtain⟨f1,f2,f3,f4⟩:=hb h1;exact⟨hc (by simpa using h3),h2.1,h2.2,f1,f2,f3,f4⟩
 rintro⟨b,x⟩ ⟨e,q⟩;dsimp only at e q;subst e;refine aJ (λ_=>ai λh=>(by cases h)) λh=>?_
 have he:=q h;obtain⟨nm,t0,t1,cd,e1,e2,e3⟩:=id he;have D:t<(s.2.2.2.length:Int):=by omega
 refine aK t0 D (aV ?_);refine aF (λh=>ai λg=>⟨he,?_⟩) λn1=>?_
 .have h:k=1:=h;subst h;exact Fw.one (ba g)
 refine aF (λh=>?_) λd=>?_
 .have h:k=17:=h;subst h;obtain⟨A,z⟩:=nm.cd (by omega);have hq:=cd _ (bH (T:=pI) (xs:=w.2.2.1) (j:=o) A z);refine fw (aF (λg1=>aF (λL=>?_) λ_=>ai (ai λh=>(by cases h))) λ_=>ai (ai λh=>(by cases h)));exact aK A z (aV (aK hq.1 (by rw[e1];exact hq.2) (aV (ai (ai λI=>⟨he,Fw.wake g1 L (ba I)⟩)))))
 refine fw (aF (λg=>?_) λ_=>ai (ai λh=>(by cases h)));exact ar (VP w s hs hn t k o he n1 d g) λc hc=>ai (ai λh=>⟨he,hc h⟩)
theorem Hs {σ R:Type} {f:σ->J (σ⊕R)} {Q:R->Prop} (n:Nat) (μ:σ->Nat) (I:σ->Prop) (h:∀x,I x->Ok (f x) λr=>match r with|.inl y=>I y/\μ y<μ x|.inr r=>Q r) {x:σ} (hn:μ x<=n/\n<=1000000) (d:I x):Ok (fX f x) Q:=by
 have key:∀n x,μ x<n->I x->∃r,iterN f n x=Z r/\Q r:=by
  intro n;induction n with
  |zero=>intro x hm;omega
  |succ n q=>
   intro x hm d;obtain⟨r,h1,h2⟩:=h x d;cases r with
   |inl y=>
    obtain⟨r,h3,h4⟩:=q y (by have:=h2.2;omega) h2.1;exact⟨r,by rw[iterN,h1];exact h3,h4⟩
   |inr r=>exact⟨r,by rw[iterN,h1],h2⟩
 obtain⟨r,h1,h2⟩:=key (n+1) x (Nat.lt_succ_of_le hn.1) d;exact⟨r,vo h1 (by omega),h2⟩
def Sp (z:Int):Bool:=decide (97<=z/\z<=122\/65<=z/\z<=90)
def Dt (z:Int):Bool:=decide (97<=z/\z<=122\/65<=z/\z<=90\/48<=z/\z<=57\/z=95)
def Us:Y ζ:=[[118,97,114],[118,111,108,97,116,105,108,101],[109,117,116,101,120],[114,119,108,111,99,107],[99,111,110,100],[102,117,116,117,114,101],[116,104,114,101,97,100],[105,102],[101,108,115,101],[119,104,105,108,101],[108,111,99,107],[114,101,97,100],[119,114,105,116,101],[116,114,97,110,115,97,99,116,105,111,110],[97,116,111,109,105,99],[119,97,105,116],[110,111,116,105,102,121],[110,111,116,105,102,121,97,108,108],[115,112,97,119,110],[106,111,105,110],[115,101,116],[103,101,116]]
structure tV (s:ζ):Prop where
 l1:1<=s.length
 l2:s.length<=12
 lt:Sp (qB s 0)=M
 kw:¬s∈Us
 al:∀k:Nat,k<s.length->Dt (qB s (k:Int))=M
theorem Mu (c:Int):lx c=Z (Sp c):=by
 refine bX ?_;unfold lx ja aB;with_reducible repeat' first|(refine OS.ok ?_;constructor)|refine IM.mk λ_=>?_
 all_goals try simp only[aj,od] at*
 all_goals (rw [Eo];simp only[Sp,oN,bz,true_iff,iff_true,bG,false_iff];omega)
theorem YJ (c:Int):pi c=Z (Dt c):=by
 refine bX ?_;unfold pi tw ja aB;have hL:Sp c=M↔(97<=c/\c<=122\/65<=c/\c<=90):=by unfold Sp;exact decide_eq_true_iff
 have d:Dt c=M↔(97<=c/\c<=122\/65<=c/\c<=90\/48<=c/\c<=57\/c=95):=by unfold Dt;exact decide_eq_true_iff
 refine fw (aQ (Mu c) (aJ (λh=>ai (ai ?_)) λh=>?_))
 .symm;rw[d];have:=hL.1 h;omega
 have h':¬(97<=c/\c<=122\/65<=c/\c<=90):=λg=>by rw[hL.2 g]at h;cases h
 refine ar (P:=λb=>b=decide (48<=c/\c<=57)) ?_ λb hb=>?_
 .refine fw (dT (λ_=>ai (ai ?_)) λ_=>ai (ai ?_))
  .rw[Eo];simp only[oN,bz];omega
  .rw[Eo];simp only[bz,bG,false_iff];omega
 subst hb;refine aF (λ_=>ai (ai ?_)) λ_=>ai (ai ?_)
 .symm;rw[d];omega
 .rw[Eo,d];simp only[bz];omega
theorem BL {s:ζ}:s∈Us↔∃i:Nat,i<22/\Us.getD i []=s:=by
 constructor
 .intro h;obtain⟨i,hi,e⟩:=uV h;exact⟨i,hi,by rw[ay,aw hi];exact e⟩
 .rintro⟨i,hi,rfl⟩;have hi:i<Us.length:=hi;rw[ay,aw hi];exact qx _
theorem Oh (s:ζ):jC s=Z (decide (s∈Us)):=by
 refine bX ?_;unfold jC bx bF aY cH aB ct;refine aQ (x:=Us) rfl ?_;refine cf 22 (λi x=>x=(i:Int)/\∀k:Nat,k<i->¬Us.getD k []=s) ?_ ?_ ⟨rfl,λk hk=>by omega⟩
 .rintro i x hi ⟨rfl,hn⟩;refine io (dV (aV (aF (λh=>ai ?_) λh=>ai ⟨fk (by omega),λk hk=>?_⟩)) (by omega) (by show (i:Int)<((22:Nat):Int);omega)) (by show (i:Int)<((22:Nat):Int);omega)
  .have h:Us.getD i []=s:=h;exact (bc (BL.2 ⟨i,hi,h⟩)).symm
  .have h:¬Us.getD i []=s:=h;rcases bM k i with g|g
   .exact hn k g
   .rw[show k=i by omega];exact h
 .rintro x ⟨rfl,hn⟩;refine gS (ai (Eq.symm (bD λh=>?_))) (by show ((22:Nat):Int)<=((22:Nat):Int);omega);obtain⟨i,hi,e⟩:=BL.1 h;exact hn i hi e
theorem Ut (s:ζ):ib s=Z (decide (s∈Us)):=by
 refine bX ?_;unfold ib nI yS J2 Prod.p12 Prod.p13 Prod.p14 Prod.p15 Prod.p16 Prod.p17 Prod.p18 Prod.p19 aX Prod.p20 bh bk bS da ip ug yR Prod.q21 bx bp cH aB ct;refine aV ?_;refine dY 22 (by omega) (λi x=>x=(i:Int)/\∀k:Nat,k<i->¬Us.getD k []=s) ?_ ?_ ⟨rfl,λk hk=>by omega⟩
 .rintro i x hi ⟨rfl,hn⟩;refine io (cR (du (by omega) (rx (by omega) (aV (aF (λh=>ai ?_) λh=>ai ⟨fk (by omega),λk hk=>?_⟩)))))
  .have h:s=Us.getD i []:=h;exact (bc (BL.2 ⟨i,hi,h.symm⟩)).symm
  .have h:¬s=Us.getD i []:=h;rcases bM k i with g|g
   .exact hn k g
   .rw[show k=i by omega];exact λe=>h e.symm
 .rintro x ⟨rfl,hn⟩;refine gS (ai (Eq.symm (bD λh=>?_)));obtain⟨i,hi,e⟩:=BL.1 h;exact hn i hi e
theorem Z6 (s:ζ):Ok (fb s) λb=>b=M↔tV s:=by
 unfold fb bx mF aY cH aB ct;refine aW (λb=>(b=aa↔(1<=s.length/\s.length<=12)/\Sp (qB s 0)=M/\¬s∈Us)) ?_ ?_
 .refine aR (λh=>ai ?_) λh=>aR (λh2=>ai ?_) λh2=>?_
  .dsimp only[aj]at h;constructor
   .intro h;cases h
   .intro h;omega
  .dsimp only[aj]at h2;constructor
   .intro h;cases h
   .intro h;omega
  dsimp only[aj]at h h2;refine dV (aQ (Mu _) (cQ (λhl=>ai ?_) λhl=>aQ (Oh s) (ai ?_)))
  .rw[hl];simp
  .exact decide_eq_false_iff_not.trans ⟨λhk=>⟨⟨by omega,by omega⟩,hl,hk⟩,λhk=>hk.2.2⟩
 rintro b hb;refine aJ (λh=>ai ?_) λh=>?_
 .subst h;constructor
  .intro h;cases h
  .intro d;have:=hb.2 ⟨⟨d.l1,d.l2⟩,d.lt,d.kw⟩;cases this
 obtain⟨⟨l1,l2⟩,lt,kw⟩:=hb.1 h;refine cf s.length (λi x=>x=(i:Int)/\∀k:Nat,k<i->Dt (qB s (k:Int))=M) ?_ ?_ ⟨rfl,λk hk=>by omega⟩
 .rintro i x hi ⟨rfl,hn⟩;refine io (dV (aQ (YJ _) (cQ (λhl=>ai ?_) λhl=>ai ⟨fk (by omega),λk hk=>?_⟩)))
  .constructor
   .intro h;cases h
   .intro d;have:=d.al i hi;rw[hl]at this;cases this
  .rcases bM k i with g|g
   .exact hn k g
   .rw[show k=i by omega];exact hl
 .rintro x ⟨rfl,hn⟩;exact gS (ai ⟨λ_=>⟨l1,l2,lt,kw,hn⟩,λ_=>rfl⟩)
theorem aar (s:ζ) (j:Int):0<=qB s j/\qB s j<256:=by
 unfold qB;have:=(s.getD j.toNat 0).toNat_lt;constructor
 .exact ep _
 .have:(s.getD j.toNat 0).toNat<256:=this;show ((s.getD j.toNat 0).toNat:Int)<256;omega
theorem OJ (s:ζ) (i:Nat):qB s (i:Int)=((s.getD i 0).toNat:Int):=rfl
theorem ahi {s:ζ} {i:Nat} (h:qB s (i:Int)<128):MR s i=qB s (i:Int)/\RU s i=1:=by
 rw[OJ]at h ⊢;have hb:eP (s.getD i 0).toNat 128=M:=bt (by omega);unfold MR RU rnA wdA;rw[hb];exact⟨rfl,rfl⟩
theorem af1 (s:ByteArray) (p:Nat) (h:¬(s.get! p).toNat<128):128<=(xy s p).1:=by
 unfold xy;simp only[db];rw[aL h];split
 .split
  .assumption
  .decide
 split
 .split
  .rename_i h;simp only[ak,bz]at h;show 128<=_;have:=h.1;omega
  .decide
 split
 .split
  .rename_i h;simp only[ak,bz]at h;show 128<=_;have:=h.1;omega
  .decide
 .decide
theorem ahj {s:ζ} {i:Nat} (hi:i<s.length) (h:¬qB s (i:Int)<128):128<=MR s i:=by
 rw[OJ]at h;have hb:eP (s.getD i 0).toNat 128=aa:=by
  cases e:eP (s.getD i 0).toNat 128 with
  |false=>rfl
  |true=>have:=a9 e;omega
 unfold MR rnA;rw[hb];have hg:(⟨eQ s⟩:ByteArray).get! i=s.getD i 0:=by
  show (eQ s)[i]! =_;rw[getElem!_pos (eQ s) i (by simpa using hi),ay,aw hi];rfl
 have:=af1 ⟨eQ s⟩ i (by rw[hg];omega);show (128:Int)<=((xy ⟨eQ s⟩ i).1:Int)
 omega
theorem ada (s:ζ):Ok (ku s) λb=>b=M↔tV s:=by
 unfold ku rB bi bx ja aY cH aB;refine aW (λb=>(b=aa↔(1<=s.length/\s.length<=12)/\¬s∈Us)) ?_ ?_
 .refine aR (λh=>ai ?_) λh=>aR (λh2=>ai ?_) λh2=>?_
  .dsimp only[aj]at h;constructor
   .intro h;cases h
   .intro h;omega
  .dsimp only[aj]at h2;constructor
   .intro h;cases h
   .intro h;omega
  dsimp only[aj]at h h2;refine aQ (Ut s) (ai ?_);exact decide_eq_false_iff_not.trans ⟨λhk=>⟨⟨by omega,by omega⟩,hk⟩,λhk=>hk.2⟩
 rintro b hb;refine aJ (λh=>ai ?_) λh=>?_
 .subst h;constructor
  .intro h;cases h
  .intro A;have:=hb.2 ⟨⟨A.l1,A.l2⟩,A.kw⟩;cases this
 obtain⟨⟨l1,l2⟩,kw⟩:=hb.1 h;refine dY s.length (by omega) (λi x=>x=[((s,(i:Int)),())]/\∀k:Nat,k<i->Dt (qB s (k:Int))=M/\(k=0->Sp (qB s 0)=M)) ?_ ?_ ⟨rfl,λk hk=>by omega⟩
 .rintro i x hi ⟨rfl,hn⟩;have F:GO [((s,(i:Int)),())]=s:=rfl;have I:FI [((s,(i:Int)),())]=i:=rfl;rw[F,I];refine eL (bt hi) ?_;have hbad:¬Dt (qB s (i:Int))=M->(aa=M↔tV s):=λhb=>⟨λh=>(by cases h),λA=>(hb (A.al i hi)).elim⟩
  have hbad0:¬Sp (qB s 0)=M->(aa=M↔tV s):=λhb=>⟨λh=>(by cases h),λA=>(hb A.lt).elim⟩
  have D:∀c,Dt c=M↔(97<=c/\c<=122\/65<=c/\c<=90\/48<=c/\c<=57\/c=95):=λc=>by unfold Dt;exact decide_eq_true_iff
  have hL:∀c,Sp c=M↔(97<=c/\c<=122\/65<=c/\c<=90):=λc=>by unfold Sp;exact decide_eq_true_iff
  have hsg:=aar s (i:Int);have hrn:(qB s (i:Int)<128/\MR s i=qB s (i:Int)/\RU s i=1)\/(¬qB s (i:Int)<128/\128<=MR s i):=by
   by_cases g:qB s (i:Int)<128
   .exact .inl ⟨g,ahi g⟩
   .exact .inr ⟨g,ahj hi g⟩
  have hno:128<=MR s i->¬Dt (qB s (i:Int))=M:=λg h=>by
   rcases hrn with ⟨h1,h2,_⟩|⟨h1,_⟩
   .omega
   .rw[D]at h;omega
  generalize hz:MR s i=z at hrn hno ⊢;have hnxt:z<128->[((s,(aT (i+RU s i))),())]=[((s,((i+1:Nat):Int)),())]:=λg=>by
   rcases hrn with ⟨_,_,h3⟩|⟨_,h2⟩
   .rw[h3];rfl
   .omega
  have hgood:z<128->Dt z=M->(i=0->Sp z=M)->∀k:Nat,k<i+1->Dt (qB s (k:Int))=M/\(k=0->Sp (qB s 0)=M):=λg h1 h2 k hk=>by
   rcases hrn with ⟨_,h3,_⟩|⟨_,h3⟩
   .rcases bM k i with q|q
    .exact hn k q
    .have:k=i:=by omega
     subst this;refine ⟨by rw[<- h3];exact h1,λe=>?_⟩;subst e;have:=h2 rfl;rw[h3]at this;exact this
   .omega
  have heq:z<128->z=qB s (i:Int):=λg=>by
   rcases hrn with ⟨_,h3,_⟩|⟨_,h3⟩
   .exact h3
   .omega
  refine aW (λy=>y=[((s,(aT (i+RU s i))),())]/\z<128/\Dt z=M/\(i=0->Sp z=M)) ?_ ?_
  .refine aW (λy=>y.2=[((s,(aT (i+RU s i))),())]/\(y.1=M↔Sp z=M)) ?_ ?_
   .refine dT (λ_=>dT (λ_=>ai ⟨rfl,?_⟩) λ_=>dT (λ_=>ai ⟨rfl,?_⟩) λ_=>ai ⟨rfl,?_⟩) λ_=>dT (λ_=>ai ⟨rfl,?_⟩) λ_=>ai ⟨rfl,?_⟩
    all_goals (rw [hL];simp only[oN,true_iff,bG,false_iff];omega)
   rintro⟨y1,y2⟩ ⟨e,d⟩;dsimp only at e d;subst e;refine aJ (λh=>ai ⟨rfl,?_⟩) λh=>?_
   .have h:=d.1 h;have h':=(hL z).1 h;exact⟨by omega,(D z).2 (by omega),λ_=>h⟩
   have hl:¬Sp z=M:=λg=>by rw[d.2 g]at h;cases h
   have hl2:¬(97<=z/\z<=122\/65<=z/\z<=90):=λg=>hl ((hL z).2 g)
   refine aW (λy=>y.2=[((s,(aT (i+RU s i))),())]/\(y.1=M↔0<i/\(z=95\/48<=z/\z<=57))) ?_ ?_
   .refine aR (λg=>aF (λL=>ai ⟨rfl,?_⟩) λL=>dT (λg3=>ai ⟨rfl,?_⟩) λg3=>ai ⟨rfl,?_⟩) λg=>ai ⟨rfl,?_⟩
    all_goals simp only[oN,true_iff,bG,false_iff]
    all_goals dsimp only[aj]at g
    all_goals omega
   rintro⟨y1,y2⟩ ⟨e,d⟩;dsimp only at e d;subst e;refine aJ (λh=>ai ⟨rfl,?_⟩) λh=>?_
   .obtain⟨g1,L⟩:=d.1 h;exact⟨by omega,(D z).2 (by omega),λe=>(by omega)⟩
   .have hn2:¬(0<i/\(z=95\/48<=z/\z<=57)):=λg=>by rw[d.2 g]at h;cases h
    by_cases h0:i=0
    .subst h0;refine ai (hbad0 λg=>hl ?_);rcases hrn with ⟨_,h3,_⟩|⟨h3,_⟩
     .rw[h3];exact g
     .rw[hL]at g;have h3:¬qB s 0<128:=h3;omega
    .refine ai (hbad λg=>?_);by_cases g1:z<128
     .rw[<- heq g1,D]at g;omega
     .exact hno (by omega) g
  .rintro y ⟨rfl,h1,h2,h3⟩;exact ai ⟨hnxt h1,hgood h1 h2 h3⟩
 .rintro x ⟨rfl,hn⟩;have F:GO [((s,(s.length:Int)),())]=s:=rfl;have I:FI [((s,(s.length:Int)),())]=s.length:=rfl;rw[F,I];refine jz ?_ (ai ⟨λ_=>⟨l1,l2,(hn 0 (by omega)).2 rfl,kw,λk hk=>(hn k hk).1⟩,λ_=>rfl⟩);cases e:eP s.length s.length with
  |false=>rfl
  |true=>have:=a9 e;omega
theorem Sd (w:WT) (e:ET):Ok (gm (w,e)) λb=>b=M->(e.2.1=1\/e.2.1=2->e.2.2.2.2.1= -1)/\(¬(e.2.1=1\/e.2.1=2)->0<=e.2.2.2.2.1/\e.2.2.2.2.1<w.2.2.2.2.2.length/\(aH (T:=C2) w.2.2.2.2.2 e.2.2.2.2.1).1=e.1):=by
 unfold gm aX da cC bi bx ja bF aY aB;refine aW (λx=>x.2=(w,e)/\(x.1=M↔e.2.1=1\/e.2.1=2)) (aF (λh=>ai ⟨rfl,λ_=>.inl h,λ_=>rfl⟩) λh=>ai ⟨rfl,λh2=>.inr (ba h2),λh2=>bc (h2.resolve_left h)⟩) ?_;rintro⟨b,x⟩ ⟨e1,hb⟩;dsimp only at e1 hb;subst e1;refine aJ (λh=>ai λg=>⟨λ_=>ba g,λd=>(d (hb.1 h)).elim⟩) λh=>?_
 have nb:¬(e.2.1=1\/e.2.1=2):=λg=>by have h:b=aa:=h;rw[hb.2 g]at h;cases h
 refine fw (dT (λq=>aR (λd=>aK q d (aV (ai (ai λg=>⟨λs=>(nb s).elim,λ_=>⟨q,d,ba g⟩⟩)))) λ_=>ai (ai λg=>(by cases g))) λ_=>ai (ai λg=>(by cases g)))
theorem Y6 (w:WT) (s:SN) (q:w.2.2.1.length<=1000):Ok (ia (w,s)) λb=>b=M->Rw w s:=by
 unfold ia aX bh bk cI bi aY aB;refine fw (ar (Ru w s.1 q) λb hb=>aJ (λh=>?_) λ_=>ai (ai λg=>(by cases g)));refine aF (λA=>aF (λz=>ai (ai λd=>?_)) λ_=>ai (ai λg=>(by cases g))) λ_=>ai (ai λg=>(by cases g))
 have d:aT s.2.2.2.length=aT w.2.2.2.2.1.length:=ba d;exact⟨r9 A,r9 z,r9 d⟩
theorem Jb (w:WT) (s:SN) (e:ET) (ce:e.2.1=3\/e.2.1=4->0<=e.2.2.1/\e.2.2.1<w.1.length) (t0:0<=e.1) (t1:e.1<(s.2.2.2.length:Int)) (cb:(aH (T:=.int .i64) s.2.2.2 e.1:Int)<=1000):Ok (dw (w,s,e)) λb=>b=M->(0<e.2.2.2.2.2.1.length->e.2.1=5\/(e.2.1=3\/e.2.1=4)/\¬(aH (T:=Ol) w.1 e.2.2.1).2.2.1=0)/\(0<e.2.2.2.2.2.2.length->e.2.1=4\/e.2.1=22)/\AN (aH (T:=.int .i64) s.2.2.2 e.1) e.2.2.2.2.2.1/\AN (aH (T:=.int .i64) s.2.2.2 e.1) e.2.2.2.2.2.2:=by
 unfold dw gK aX bh bk bS bn cI dI bi bx ja bp bF aY cH aB ct;refine aW (λx=>x.2=(s,e)/\(x.1=M->(e.2.1=3\/e.2.1=4)/\¬(aH (T:=Ol) w.1 e.2.2.1).2.2.1=0)) ?_ ?_
 .refine aF (λh=>?_) λn3=>aF (λh=>?_) λn4=>?_
  .exact aK (ce (.inl h)).1 (ce (.inl h)).2 (aV (ai ⟨rfl,λg=>⟨.inl h,by simpa using g⟩⟩))
  .exact aK (ce (.inr h)).1 (ce (.inr h)).2 (aV (ai ⟨rfl,λg=>⟨.inr h,by simpa using g⟩⟩))
  .exact ai ⟨rfl,λg=>(by cases g)⟩
 rintro⟨b,x⟩ ⟨e1,hb⟩;dsimp only at e1 hb;subst e1;refine aW (λx=>x.1=s/\x.2.1=e/\(x.2.2.1=M->e.2.1=5\/(e.2.1=3\/e.2.1=4)/\¬(aH (T:=Ol) w.1 e.2.2.1).2.2.1=0)/\(x.2.2.2=M->e.2.1=4\/e.2.1=22)) ?_ ?_
 .refine aF (λh5=>aF (λh4=>ai ⟨rfl,rfl,λ_=>.inl h5,λ_=>.inl h4⟩) λh4=>ai ⟨rfl,rfl,λ_=>.inl h5,λg=>.inr (ba g)⟩) λh5=>aF (λh4=>ai ⟨rfl,rfl,λg=>.inr (hb g),λ_=>.inl h4⟩) λh4=>ai ⟨rfl,rfl,λg=>.inr (hb g),λg=>.inr (ba g)⟩
 rintro⟨s',e',a,b'⟩ ⟨e1,e2,h1,h2⟩;dsimp only at e1 e2 h1 h2;subst e1;subst e2
 let P:η->Bool->Prop:=λr a=>(0<r.length->a=M)/\AN (aH (T:=.int .i64) s'.2.2.2 e'.1) r
 refine dY 2 (by omega) (λi x=>x=((i:Int),s',e',a,b')/\(0<i->P e'.2.2.2.2.2.1 a)/\(1<i->P e'.2.2.2.2.2.2 b')) ?_ ?_ ⟨rfl,λh=>(by omega),λh=>(by omega)⟩
 .rintro i x hi ⟨rfl,p1,p2⟩;refine io ?_;refine cR (du (by dsimp only;omega) (rx (by dsimp only;omega) (aV ?_)));have hr:∃(r:η) (q:Bool),aH (T:=.sl (.int .i64)) [e'.2.2.2.2.2.1,e'.2.2.2.2.2.2] (i:Int)=r/\aH (T:=.bool) [a,b'] (i:Int)=q/\(P r q->(0<i+1->P e'.2.2.2.2.2.1 a)/\(1<i+1->P e'.2.2.2.2.2.2 b')):=by
   match i,hi with
   |0,_=>exact⟨_,_,rfl,rfl,λh=>⟨λ_=>h,λh=>(by omega)⟩⟩
   |1,_=>exact⟨_,_,rfl,rfl,λh=>⟨λ_=>p1 (by omega),λ_=>h⟩⟩
  obtain⟨r,q,er,eq,hP⟩:=hr;have er':aH (T:=.sl aM) [e'.2.2.2.2.2.1,e'.2.2.2.2.2.2] (i:Int)=r:=er;dsimp only at er' ⊢;rw[er'];refine aW (λx=>x.2=(s',e',a,b')/\(x.1=aa->0<r.length->q=M)) ?_ ?_
  .refine aR (λg=>?_) λg=>ai ⟨rfl,λ_ h=>?_⟩
   .have g':0<r.length:=by dsimp only[aj]at g;omega
    refine cR (du (by omega) (rx (by omega) (dV (aV (ai ⟨rfl,λh _=>?_⟩)))));rw[<- eq];simpa using h
   .dsimp only[aj]at g;omega
  rintro⟨f,x⟩ ⟨e1,hq⟩;dsimp only at e1 hq;subst e1;refine aJ (λ_=>ai λh=>(by cases h)) λhf=>?_
  have jb:∀j:Nat,(∀m:Nat,m<j->1<=aH (T:=.int .i64) r (m:Int)/\aH (T:=.int .i64) r (m:Int)<aH (T:=.int .i64) s'.2.2.2 e'.1)->(∀m:Nat,m+1<j->r.getD m 0<r.getD (m+1) 0)->j<=1000:=λj A L=>by
   have h3:(j:Int)<=max (0:Int) (aH (T:=.int .i64) s'.2.2.2 e'.1):=YO A L;have:=eS h3 (wW.2 ⟨by decide,cb⟩);omega
  refine Hs 1001 (λx=>(1001-x.1.2).toNat) (λx=>∃j:Nat,j<=r.length/\x.1.2=(j:Int)/\x.2=(s',e',a,b')/\(∀m:Nat,m<j->1<=aH (T:=.int .i64) r (m:Int)/\aH (T:=.int .i64) r (m:Int)<aH (T:=.int .i64) s'.2.2.2 e'.1)/\(∀m:Nat,m+1<j->r.getD m 0<r.getD (m+1) 0)/\(j=0->x.1.1=0)/\(0<j->x.1.1=r.getD (j-1) 0)) ?_ ⟨by dsimp only;omega,by omega⟩ ⟨0,oF _,rfl,rfl,λm h=>(by omega),λm h=>(by omega),λ_=>rfl,λh=>(by omega)⟩;rintro⟨⟨(la:Int),ix⟩,x⟩ ⟨j,hjl,g1,g2,A,L,g5,I⟩;dsimp only at g1 g2 g5 I;subst g1;subst g2;have hjb:=jb j A L;rcases bM j r.length with hj|hj
  .refine io ?_;refine dV (aV (aW (λx=>x.2=(s',e',a,b')/\(x.1=aa->la<aH (T:=.int .i64) r (j:Int)/\aH (T:=.int .i64) r (j:Int)<aH (T:=.int .i64) s'.2.2.2 e'.1)) ?_ ?_))
   .refine dT (λg=>ai ⟨rfl,λh=>(by cases h)⟩) λg=>aK t0 t1 (aV (ai ⟨rfl,λh=>⟨g,kV.1 h⟩⟩))
   rintro⟨f2,x⟩ ⟨e1,F⟩;dsimp only at e1 F;subst e1;refine aJ (λ_=>ai λh=>(by cases h)) λhf2=>ai ?_
   obtain⟨c1,c2⟩:=F hf2;obtain⟨D,d⟩:∃D:Int,D=la:=⟨la,rfl⟩
   replace c1:D<(r.getD j 0:Int):=by rw[d];exact c1
   replace c2:(r.getD j 0:Int)<(aH (T:=.int .i64) s'.2.2.2 e'.1:Int):=c2
   replace g5:j=0->D=(0:Int):=λh=>d.trans (g5 h)
   replace I:0<j->D=(r.getD (j-1) 0:Int):=λh=>d.trans (I h)
   have lo:(1:Int)<=r.getD j 0:=by
    rcases rj j with z|z
    .have:=g5 z;omega
    .have:=I z;have q:(1:Int)<=r.getD (j-1) 0:=(A (j-1) (by omega)).1;omega
   refine ⟨⟨j+1,hj,fk (by omega),rfl,λm hm=>?_,λm hm=>?_,λh=>(by omega),λ_=>rfl⟩,by dsimp only;rw[fk (by omega)];omega⟩
   .rcases bM m j with z|z
    .exact A m z
    .rw[show m=j by omega];exact⟨lo,c2⟩
   .rcases bM (m+1) j with z|z
    .exact L m z
    .have z2:m=j-1:=by omega
     have:=I (by omega);rw[z2,show j-1+1=j by omega];omega
  .have hjr:j=r.length:=by omega
   subst hjr;have hA:AN (aH (T:=.int .i64) s'.2.2.2 e'.1) r:=⟨N7 r λk hk=>L k hk,ii (T:=.int .i64) A⟩
   exact gS (ai ⟨iU (·,s',e',a,b') (fk (by omega)),hP ⟨hq hf,hA⟩⟩)
 .rintro x ⟨rfl,p1,p2⟩;refine gS (ai λ_=>?_);have p1:=p1 (by omega);have p2:=p2 (by omega);exact⟨λg=>h1 (p1.1 g),λg=>h2 (p2.1 g),p1.2,p2.2⟩
theorem RY {n:Nat} (w:WT) (s:SN) (hs:SB n s.1) (e:ET) (hf:Rw w s) (he:EN w s.1 e.1 e.2.1 e.2.2.1):Ok (eI (s,e)) λb=>b=M->VA w s.1 s.2.1 s.2.2.1 e.1 e.2.1 e.2.2.1 e.2.2.2.1:=by
 obtain⟨t,k,o,v,D,de,fr⟩:=e;obtain⟨s1,s2,I,s4⟩:=s;obtain⟨nm,t0,t1,cd,e1,e2,e3⟩:=he;obtain⟨_,_,ce,lk,cn,th,fu,_,_,_⟩:=nm;obtain⟨f1,f2,f3⟩:=hf;have hth:=hs.th;dsimp only at*
 unfold eI jI aX bh bk bS bn bi bx bF aY cH aB ct;refine aF (λh=>?_) λn3=>?_
 .have h:k=3:=h;obtain⟨c0,c1⟩:=ce (.inl h);exact aK c0 (by rw[f1];exact c1) (aV (ai λh2=>⟨λ_=>ba h2,λh3=>by omega,λh3=>by omega,λh3=>(h3 h).elim⟩))
 refine aF (λh=>?_) λF=>?_
 .have h:k=23:=h;obtain⟨c0,c1⟩:=fu (.inr h);exact aK c0 (by rw[f2];exact c1) (aV (ai λh2=>⟨λh3=>by omega,λ_=>ba h2,λh3=>by omega,λ_ h3=>(h3 h).elim⟩))
 refine aF (λh=>?_) λn5=>?_
 .have h:k=5:=h;exact fw (aF (λh2=>ai (ai λ_=>⟨λh3=>by omega,λh3=>by omega,λ_=>.inl h2,λ_ _ h3=>(h3 h).elim⟩)) λ_=>ai (ai λh2=>⟨λh3=>by omega,λh3=>by omega,λ_=>.inr (ba h2),λ_ _ h3=>(h3 h).elim⟩))
 refine aW (λx=>x.2=((s1,s2,I,s4),t,k,o,v,D,de,fr)/\(x.1=M->k=4\/k=22)) (aF (λh=>ai ⟨rfl,λ_=>.inl h⟩) λ_=>ai ⟨rfl,λh=>.inr (ba h)⟩) ?_;rintro⟨b,x⟩ ⟨e,hb⟩;dsimp only at e hb;subst e;refine aJ (λh=>ai λ_=>⟨λh3=>(n3 h3).elim,λh3=>(F h3).elim,λh3=>(n5 h3).elim,λ_ _ _ h4 h5=>(hb h).elim (λh=>(h4 h).elim) λh=>(h5 h).elim⟩) λ_=>?_
 have fin:v=(vO w s1 t k o v).2->VA w s1 s2 I t k o v:=λh=>⟨λh3=>(n3 h3).elim,λh3=>(F h3).elim,λh3=>(n5 h3).elim,λ_ _ _ _ _=>h⟩
 have hWl:=pM s1.2.2.2 o s1.2.2.2.length;refine aF (λh=>?_) λn18=>?_
 .have h:k=18:=h;subst h;rw[JF]at fin;refine dY s1.2.2.2.length (by omega) (λi x=>x.1.2.2=(i:Int)/\x.2=(t,18,o,v,D,de,fr)/\x.1.1=((wl s1.2.2.2 o i).length:Int)/\(x.1.2.1=M↔v∈wl s1.2.2.2 o i)) ?_ ?_ ⟨rfl,rfl,rfl,by simp[wl]⟩
  .rintro i ⟨⟨c,hit,ix⟩,x⟩ hi ⟨q,d,z,A⟩;dsimp only at q d z A;subst q;subst d;subst z;have hl:=pM s1.2.2.2 o i;refine io ?_;refine aW (λx=>x.2=(t,18,o,v,D,de,fr)/\x.1.1=((wl s1.2.2.2 o (i+1)).length:Int)/\(x.1.2=M↔v∈wl s1.2.2.2 o (i+1))) ?_ ?_
   .refine dV (aV (aW (λx=>x=(Ep o (aH (T:=uG) s1.2.2.2 (i:Int)),t,18,o,v,D,de,fr)) ?_ ?_))
    .unfold Ep;refine aF (λh=>ai ?_) λh=>ai ?_
     .dsimp only at h ⊢;rw[h];rfl
     .dsimp only at h ⊢;rw[bD h];rfl
    rintro x rfl;rw[yV];dsimp only;cases hw:Ep o (aH (T:=uG) s1.2.2.2 (i:Int)) with
    |true=>
     refine pu (aJ (λh=>ai ⟨rfl,?_,?_⟩) λh=>ai ⟨rfl,?_,?_⟩)
     .dsimp only;rw[fk (by omega)];simp
     .simp[A.1 h]
     .dsimp only;rw[fk (by omega)];simp
     .have:¬v∈wl s1.2.2.2 o i:=λg=>by rw[A.2 g]at h;cases h
      simp[this]
    |false=>exact gD (ai ⟨rfl,rfl,A⟩)
   rintro⟨⟨c,hit'⟩,x⟩ ⟨q,d,z⟩;dsimp only at q d z;subst q;subst d;exact ai ⟨fk (by omega),rfl,rfl,z⟩
  .rintro⟨⟨c,hit,ix⟩,x⟩ ⟨q,d,z,A⟩;dsimp only at q d z A;subst q;subst d;subst z;revert fin hWl A;generalize wl s1.2.2.2 o s1.2.2.2.length=l;intro hWl fin A;have hin:v∈l->VA w s1 s2 I t 18 o v:=λh=>fin (by
    have hne:¬l.length=0:=λh0=>by rw[jg.1 h0]at h;cases h
    rw[aL hne];unfold C4;rw[aL hne,aU (sr.2 h)])
   refine gS (ar (P:=λy=>y=M->VA w s1 s2 I t 18 o v) (fw (aJ (λh=>ai (ai λ_=>hin (A.1 h))) λh=>?_)) λy hy=>ai hy);refine aF (λg=>ai (ai λh2=>fin ?_)) λg=>ai (ai λh=>(by cases h))
   dsimp only at g;rw[aU (by omega)];exact ba h2
 refine aF (λh=>?_) λL=>?_
 .have h:k=19:=h;subst h;rw[Uf]at fin;refine dY s1.2.2.2.length (by omega) (λi x=>x.1.2=(i:Int)/\x.2=(t,19,o,v,D,de,fr)/\x.1.1=((wl s1.2.2.2 o i).length:Int)) ?_ ?_ ⟨rfl,rfl,rfl⟩
  .rintro i ⟨⟨c,ix⟩,x⟩ hi ⟨q,d,z⟩;dsimp only at q d z;subst q;subst d;subst z;have hl:=pM s1.2.2.2 o i;refine io ?_;refine aW (λx=>x.2=(t,19,o,v,D,de,fr)/\x.1=((wl s1.2.2.2 o (i+1)).length:Int)) ?_ ?_
   .refine dV (aV (aW (λx=>x=(Ep o (aH (T:=uG) s1.2.2.2 (i:Int)),t,19,o,v,D,de,fr)) ?_ ?_))
    .unfold Ep;refine aF (λh=>ai ?_) λh=>ai ?_
     .dsimp only at h ⊢;rw[h];rfl
     .dsimp only at h ⊢;rw[bD h];rfl
    rintro x rfl;rw[yV];dsimp only;cases hw:Ep o (aH (T:=uG) s1.2.2.2 (i:Int)) with
    |true=>
     refine pu (ai ⟨rfl,?_⟩);dsimp only;rw[fk (by omega)];simp
    |false=>exact gD (ai ⟨rfl,rfl⟩)
   rintro⟨c,x⟩ ⟨q,d⟩;dsimp only at q d;subst q;subst d;exact ai ⟨fk (by omega),rfl,rfl⟩
  .rintro⟨⟨c,ix⟩,x⟩ ⟨q,d,z⟩;dsimp only at q d z;subst q;subst d;subst z;exact gS (ai λh=>fin (ba h))
 exact ai λh2=>fin (by rw[Vq _ _ _ _ _ _ n18 L];exact ba h2)
theorem VQ (r:θ) (e:ET) (ld:e.2.2.2.2.2.1.length<=1000000) (A:e.2.2.2.2.2.2.length<=1000000):Ok (bR (r,e)) λb=>b=M->(∀y∈e.2.2.2.2.2.1,0<=y/\r.getD y.toNat aa=M)/\∀y∈e.2.2.2.2.2.2,0<=y/\r.getD y.toNat aa=M:=by
 unfold bR iE da gG bx ja bp bF aY cH aB ct
 let P:η->Prop:=λl=>∀y∈l,0<=y/\r.getD y.toNat aa=M
 refine dY 2 (by omega) (λi x=>x=(i:Int)/\(0<i->P e.2.2.2.2.2.1)/\(1<i->P e.2.2.2.2.2.2)) ?_ ?_ ⟨rfl,λh=>(by omega),λh=>(by omega)⟩
 .rintro i x hi ⟨rfl,p1,p2⟩;refine aR (λ_=>?_) λg=>(by omega)
  refine cR (du (by omega) (rx (by omega) (aV ?_)));have hr:∃l:η,aH (T:=.sl (.int .i64)) [e.2.2.2.2.2.1,e.2.2.2.2.2.2] (i:Int)=l/\l.length<=1000000/\(P l->(0<i+1->P e.2.2.2.2.2.1)/\(1<i+1->P e.2.2.2.2.2.2)):=by
   match i,hi with
   |0,_=>exact⟨_,rfl,ld,λh=>⟨λ_=>h,λh=>(by omega)⟩⟩
   |1,_=>exact⟨_,rfl,A,λh=>⟨λ_=>p1 (by omega),λ_=>h⟩⟩
  obtain⟨l,F,hl,D⟩:=hr;have er':aH (T:=.sl aM) [e.2.2.2.2.2.1,e.2.2.2.2.2.2] (i:Int)=l:=F;dsimp only at er' ⊢;rw[er'];refine dY l.length (by omega) (λj x=>x=(j:Int)/\∀m:Nat,m<j->(0:Int)<=aH (T:=.int .i64) l (m:Int)/\r.getD (aH (T:=.int .i64) l (m:Int)).toNat aa=M) ?_ ?_ ⟨rfl,λm hm=>(by omega)⟩
  .rintro j x hj ⟨rfl,hq⟩;refine io (dV (aV ?_));obtain⟨z,d⟩:∃z:Int,aH (T:=.int .i64) l (j:Int)=z:=⟨_,rfl⟩
   rw[d];refine aW (λb=>b=aa->0<=z/\r.getD z.toNat aa=M) ?_ ?_
   .refine aR (λ_=>ai λh=>(by cases h)) λs=>dT (λ_=>ai λh=>(by cases h)) λq=>?_
    dsimp only[aj]at q;refine aK s q (aV (ai λh=>⟨s,?_⟩));have h:(!aH (T:=.bool) r z)=aa:=h;have:aH (T:=.bool) r z=M:=by cases hh:aH (T:=.bool) r z<;>rw[hh]at h<;>first|rfl|cases h
    exact this
   rintro b hb;refine aJ (λ_=>ai λh=>(by cases h)) λh=>ai ⟨fk (by omega),λm hm=>?_⟩
   rcases bM m j with g|g
   .exact hq m g
   .rw[show m=j by omega,d];exact hb h
  .rintro x ⟨rfl,hq⟩;exact gS (ai ⟨fk (by omega),D (ii (T:=.int .i64) (p:=λy:Int=>0<=y/\r.getD y.toNat aa=M) hq)⟩)
 .rintro x ⟨rfl,p1,p2⟩;exact aR (λg=>(by omega)) λ_=>ai λ_=>⟨p1 (by omega),p2 (by omega)⟩
theorem WL (a0:Int) (r0:η) (h:Int) (d:θ) (th:Y (Int×Int×Bool)) (h0:r0.length<=1000) (hd:d.length<=1000) (ht:th.length<=1000):iX ([(a0,r0)],h,d,th)=Z ((h,d,th),a0,r0):=by
 refine bX ?_;have q:∀l:η,l.length<=1000->gf l=Z l:=λl hl=>bX (a_ (by omega) (by omega) (ai rfl))
 unfold iX aX bn bx bp bF aY aB;refine a8 rfl (aW (λx=>x=(([(a0,r0)],h,d,th),0,a0,r0)) ?_ ?_)
 .exact eL rfl (a8 rfl (aV (aQ (q _ h0) (jz rfl (ai rfl)))))
 rintro x rfl;refine aQ (x:=d) (bX (a_ (by dsimp only;omega) (by omega) (ai rfl))) (aQ (x:=th) (bX (a_ (by dsimp only;omega) (by omega) (ai rfl))) (ai rfl))
theorem WO (s:SY) (h:¬s.1.length=1):iX s=U:=by
 unfold iX aX bn bx bp bF aY aB;rw[show decide ((aT (ah s.1):Int)=1)=aa from bD (by dsimp only[aj];omega),tZ];rfl
theorem XO {n:Nat} (w:WT) (s:SY) (hs:SB n s) (hn:n<=1000) (d:w.2.2.1.length<=1000) (t k o u:Int) (he:EN w s t k o) (hr:Fw w s t k o) (h:¬s.1.length=1):gd (w,s,t,k,o,u)=U:=by
 have h1:=oD w s hs hn d t k o he hr;unfold gd aX bh bk bS bn cI dI bi mF bp aB;simp only[h1,WO s h,aN,aS,kD];rfl
theorem XL {n:Nat} (w:WT) (s:SY) (hs:SB n s) (hn:n<=900) (A:w.2.2.1.length<=1000) (t k o u:Int) (he:EN w s t k o) (hr:Fw w s t k o) (hk:k=8\/k=9) (h3:s.1.length=1) (hA:xG (aH (T:=s9) s.1 o).2) (h4:∀z∈(aH (T:=s9) s.1 o).2,0<=z/\z<4) (q:t<4) (F:0<=o) (o1:o<1):gd (w,s,t,k,o,u)=Z ((vO w s t k o u).1,(vO w s t k o u).2,M):=by
 have h1:=oD w s hs (by omega) A t k o he hr;have t0:=he.t0;have ra:=hr.ra;have rr:=hr.rr;have hrd:=hs.rd;have hdn:=hs.dn;have hth:=hs.th;obtain⟨s1,h,d,th⟩:=s
 match s1,h3 with
 |[(a0,r0)],_=>
  have I:r0.length<=n:=hrd (a0,r0) (by simp);dsimp only at hdn hth;have hc:=WL a0 r0 h d th (by omega) hdn hth;refine bX ?_;unfold gd aX bh bk bS bn cI dI bi mF bp aB;have D:o=0:=by omega
  subst D
  .have hA:xG r0:=hA;have h4:∀z∈r0,0<=z/\z<4:=h4;rcases hk with rfl|rfl
   .have ra:r0.contains t=aa:=ra rfl;obtain⟨q1,q2,q3⟩:=Kd hA h4 t0 q (by simpa using ra);simp only[h1,hc,aN,aS,kD];refine aW (λx=>x=(0,(h,d,th),0,a0,qA r0 [t])) ?_ ?_
    .refine a_ (by simp;omega) (by omega) (aQ q1 (a8 ?_ (aQ q2 (a8 ?_ (ai ?_)))))
     .rw[q3];simp
     .simp
     .rfl
    rintro x rfl;exact ai rfl
   .have rr:r0.contains t=M:=rr rfl;have q1:=KN hA h4 t0 q rr;simp only[h1,hc,aN,aS,kD];refine aW (λx=>x=(0,(h,d,th),0,a0,wo r0 t)) ?_ ?_
    .exact aQ q1 (a8 (by simp) (ai rfl))
    rintro x rfl;exact ai rfl
theorem WJ (a0 a1:Int) (r0 r1:η) (h:Int) (d:θ) (th:Y (Int×Int×Bool)) (h0:r0.length<=1000) (h1:r1.length<=1000) (hd:d.length<=1000) (ht:th.length<=1000):iW ([(a0,r0),(a1,r1)],h,d,th)=Z ((h,d,th),(a0,a1),r0,r1):=by
 refine bX ?_;have q:∀l:η,l.length<=1000->gf l=Z l:=λl hl=>bX (a_ (by omega) (by omega) (ai rfl))
 unfold iW aX bn bx bp bF aY aB;refine a8 rfl (aW (λx=>x=(([(a0,r0),(a1,r1)],h,d,th),0,(a0,a1),r0,r1)) ?_ ?_)
 .exact eL rfl (a8 rfl (aV (aQ (q _ h0) (eL rfl (a8 rfl (aV (aQ (q _ h1) (jz rfl (ai rfl)))))))))
 rintro x rfl;refine aQ (x:=d) (bX (a_ (by dsimp only;omega) (by omega) (ai rfl))) (aQ (x:=th) (bX (a_ (by dsimp only;omega) (by omega) (ai rfl))) (ai rfl))
theorem WN (s:SY) (h:¬s.1.length=2):iW s=U:=by
 unfold iW aX bn bx bp bF aY aB;rw[show decide ((aT (ah s.1):Int)=2)=aa from bD (by dsimp only[aj];omega),tZ];rfl
theorem XN {n:Nat} (w:WT) (s:SY) (hs:SB n s) (hn:n<=1000) (d:w.2.2.1.length<=1000) (t k o u:Int) (he:EN w s t k o) (hr:Fw w s t k o) (h:¬s.1.length=2):fe (w,s,t,k,o,u)=U:=by
 have h1:=oD w s hs hn d t k o he hr;unfold fe aX bh bk bS da cC gG bi mF bp aB;simp only[h1,WN s h,aN,aS,kD];rfl
theorem XK {n:Nat} (w:WT) (s:SY) (hs:SB n s) (hn:n<=900) (A:w.2.2.1.length<=1000) (t k o u:Int) (he:EN w s t k o) (hr:Fw w s t k o) (hk:k=8\/k=9) (h3:s.1.length=2) (hA:xG (aH (T:=s9) s.1 o).2) (h4:∀z∈(aH (T:=s9) s.1 o).2,0<=z/\z<4) (q:t<4) (F:0<=o) (o1:o<2):fe (w,s,t,k,o,u)=Z ((vO w s t k o u).1,(vO w s t k o u).2,M):=by
 have h1:=oD w s hs (by omega) A t k o he hr;have t0:=he.t0;have ra:=hr.ra;have rr:=hr.rr;have hrd:=hs.rd;have hdn:=hs.dn;have hth:=hs.th;obtain⟨s1,h,d,th⟩:=s
 match s1,h3 with
 |[(a0,r0),(a1,r1)],_=>
  have L:r0.length<=n:=hrd (a0,r0) (by simp);have I:r1.length<=n:=hrd (a1,r1) (by simp);dsimp only at hdn hth;have hc:=WJ a0 a1 r0 r1 h d th (by omega) (by omega) hdn hth;refine bX ?_;unfold fe aX bh bk bS da cC gG bi mF bp aB;have D:o=0\/o=1:=by omega
  rcases D with rfl|rfl
  .have hA:xG r0:=hA;have h4:∀z∈r0,0<=z/\z<4:=h4;rcases hk with rfl|rfl
   .have ra:r0.contains t=aa:=ra rfl;obtain⟨q1,q2,q3⟩:=Kd hA h4 t0 q (by simpa using ra);simp only[h1,hc,aN,aS,kD];refine aW (λx=>x=(0,(h,d,th),0,a0,qA r0 [t],a1,r1)) ?_ ?_
    .refine a_ (by simp;omega) (by omega) (aQ q1 (a8 ?_ (aQ q2 (a8 ?_ (ai ?_)))))
     .rw[q3];simp
     .simp
     .rfl
    rintro x rfl;exact ai rfl
   .have rr:r0.contains t=M:=rr rfl;have q1:=KN hA h4 t0 q rr;simp only[h1,hc,aN,aS,kD];refine aW (λx=>x=(0,(h,d,th),0,a0,wo r0 t,a1,r1)) ?_ ?_
    .exact aQ q1 (a8 (by simp) (ai rfl))
    rintro x rfl;exact ai rfl
  .have hA:xG r1:=hA;have h4:∀z∈r1,0<=z/\z<4:=h4;rcases hk with rfl|rfl
   .have ra:r1.contains t=aa:=ra rfl;obtain⟨q1,q2,q3⟩:=Kd hA h4 t0 q (by simpa using ra);simp only[h1,hc,aN,aS,kD];refine aW (λx=>x=(0,(h,d,th),0,a0,r0,a1,qA r1 [t])) ?_ ?_
    .refine a_ (by simp;omega) (by omega) (aQ q1 (a8 ?_ (aQ q2 (a8 ?_ (ai ?_)))))
     .rw[q3];simp
     .simp
     .rfl
    rintro x rfl;exact ai rfl
   .have rr:r1.contains t=M:=rr rfl;have q1:=KN hA h4 t0 q rr;simp only[h1,hc,aN,aS,kD];refine aW (λx=>x=(0,(h,d,th),0,a0,r0,a1,wo r1 t)) ?_ ?_
    .exact aQ q1 (a8 (by simp) (ai rfl))
    rintro x rfl;exact ai rfl
theorem WI (a0 a1 a2:Int) (r0 r1 r2:η) (h:Int) (d:θ) (th:Y (Int×Int×Bool)) (h0:r0.length<=1000) (h1:r1.length<=1000) (h2:r2.length<=1000) (hd:d.length<=1000) (ht:th.length<=1000):iV ([(a0,r0),(a1,r1),(a2,r2)],h,d,th)=Z ((h,d,th),(a0,a1,a2),r0,r1,r2):=by
 refine bX ?_;have q:∀l:η,l.length<=1000->gf l=Z l:=λl hl=>bX (a_ (by omega) (by omega) (ai rfl))
 unfold iV aX bn bx bp bF aY aB;refine a8 rfl (aW (λx=>x=(([(a0,r0),(a1,r1),(a2,r2)],h,d,th),0,(a0,a1,a2),r0,r1,r2)) ?_ ?_)
 .exact eL rfl (a8 rfl (aV (aQ (q _ h0) (eL rfl (a8 rfl (aV (aQ (q _ h1) (eL rfl (a8 rfl (aV (aQ (q _ h2) (jz rfl (ai rfl)))))))))))))
 rintro x rfl;refine aQ (x:=d) (bX (a_ (by dsimp only;omega) (by omega) (ai rfl))) (aQ (x:=th) (bX (a_ (by dsimp only;omega) (by omega) (ai rfl))) (ai rfl))
theorem WM (s:SY) (h:¬s.1.length=3):iV s=U:=by
 unfold iV aX bn bx bp bF aY aB;rw[show decide ((aT (ah s.1):Int)=3)=aa from bD (by dsimp only[aj];omega),tZ];rfl
theorem XM {n:Nat} (w:WT) (s:SY) (hs:SB n s) (hn:n<=1000) (d:w.2.2.1.length<=1000) (t k o u:Int) (he:EN w s t k o) (hr:Fw w s t k o) (h:¬s.1.length=3):eO (w,s,t,k,o,u)=U:=by
 have h1:=oD w s hs hn d t k o he hr;unfold eO aX bh bk bS da ip gG nl bi mF bp aB;simp only[h1,WM s h,aN,aS,kD];rfl
theorem XJ {n:Nat} (w:WT) (s:SY) (hs:SB n s) (hn:n<=900) (A:w.2.2.1.length<=1000) (t k o u:Int) (he:EN w s t k o) (hr:Fw w s t k o) (hk:k=8\/k=9) (h3:s.1.length=3) (hA:xG (aH (T:=s9) s.1 o).2) (h4:∀z∈(aH (T:=s9) s.1 o).2,0<=z/\z<4) (q:t<4) (F:0<=o) (o1:o<3):eO (w,s,t,k,o,u)=Z ((vO w s t k o u).1,(vO w s t k o u).2,M):=by
 have h1:=oD w s hs (by omega) A t k o he hr;have t0:=he.t0;have ra:=hr.ra;have rr:=hr.rr;have hrd:=hs.rd;have hdn:=hs.dn;have hth:=hs.th;obtain⟨s1,h,d,th⟩:=s
 match s1,h3 with
 |[(a0,r0),(a1,r1),(a2,r2)],_=>
  have g0:r0.length<=n:=hrd (a0,r0) (by simp);have L:r1.length<=n:=hrd (a1,r1) (by simp);have I:r2.length<=n:=hrd (a2,r2) (by simp);dsimp only at hdn hth;have hc:=WI a0 a1 a2 r0 r1 r2 h d th (by omega) (by omega) (by omega) hdn hth;refine bX ?_;unfold eO aX bh bk bS da ip gG nl bi mF bp aB;have D:o=0\/o=1\/o=2:=by omega
  rcases D with rfl|rfl|rfl
  .have hA:xG r0:=hA;have h4:∀z∈r0,0<=z/\z<4:=h4;rcases hk with rfl|rfl
   .have ra:r0.contains t=aa:=ra rfl;obtain⟨q1,q2,q3⟩:=Kd hA h4 t0 q (by simpa using ra);simp only[h1,hc,aN,aS,kD];refine aW (λx=>x=(0,(h,d,th),0,a0,qA r0 [t],a1,r1,a2,r2)) ?_ ?_
    .refine a_ (by simp;omega) (by omega) (aQ q1 (a8 ?_ (aQ q2 (a8 ?_ (ai ?_)))))
     .rw[q3];simp
     .simp
     .rfl
    rintro x rfl;exact ai rfl
   .have rr:r0.contains t=M:=rr rfl;have q1:=KN hA h4 t0 q rr;simp only[h1,hc,aN,aS,kD];refine aW (λx=>x=(0,(h,d,th),0,a0,wo r0 t,a1,r1,a2,r2)) ?_ ?_
    .exact aQ q1 (a8 (by simp) (ai rfl))
    rintro x rfl;exact ai rfl
  .have hA:xG r1:=hA;have h4:∀z∈r1,0<=z/\z<4:=h4;rcases hk with rfl|rfl
   .have ra:r1.contains t=aa:=ra rfl;obtain⟨q1,q2,q3⟩:=Kd hA h4 t0 q (by simpa using ra);simp only[h1,hc,aN,aS,kD];refine aW (λx=>x=(0,(h,d,th),0,a0,r0,a1,qA r1 [t],a2,r2)) ?_ ?_
    .refine a_ (by simp;omega) (by omega) (aQ q1 (a8 ?_ (aQ q2 (a8 ?_ (ai ?_)))))
     .rw[q3];simp
     .simp
     .rfl
    rintro x rfl;exact ai rfl
   .have rr:r1.contains t=M:=rr rfl;have q1:=KN hA h4 t0 q rr;simp only[h1,hc,aN,aS,kD];refine aW (λx=>x=(0,(h,d,th),0,a0,r0,a1,wo r1 t,a2,r2)) ?_ ?_
    .exact aQ q1 (a8 (by simp) (ai rfl))
    rintro x rfl;exact ai rfl
  .have hA:xG r2:=hA;have h4:∀z∈r2,0<=z/\z<4:=h4;rcases hk with rfl|rfl
   .have ra:r2.contains t=aa:=ra rfl;obtain⟨q1,q2,q3⟩:=Kd hA h4 t0 q (by simpa using ra);simp only[h1,hc,aN,aS,kD];refine aW (λx=>x=(0,(h,d,th),0,a0,r0,a1,r1,a2,qA r2 [t])) ?_ ?_
    .refine a_ (by simp;omega) (by omega) (aQ q1 (a8 ?_ (aQ q2 (a8 ?_ (ai ?_)))))
     .rw[q3];simp
     .simp
     .rfl
    rintro x rfl;exact ai rfl
   .have rr:r2.contains t=M:=rr rfl;have q1:=KN hA h4 t0 q rr;simp only[h1,hc,aN,aS,kD];refine aW (λx=>x=(0,(h,d,th),0,a0,r0,a1,r1,a2,wo r2 t)) ?_ ?_
    .exact aQ q1 (a8 (by simp) (ai rfl))
    rintro x rfl;exact ai rfl
theorem WH (a0 a1 a2 a3:Int) (r0 r1 r2 r3:η) (h:Int) (d:θ) (th:Y (Int×Int×Bool)) (h0:r0.length<=1000) (h1:r1.length<=1000) (h2:r2.length<=1000) (h3:r3.length<=1000) (hd:d.length<=1000) (ht:th.length<=1000):lY ([(a0,r0),(a1,r1),(a2,r2),(a3,r3)],h,d,th)=Z ((h,d,th),(a0,a1,a2,a3),r0,r1,r2,r3):=by
 refine bX ?_;have q:∀l:η,l.length<=1000->gf l=Z l:=λl hl=>bX (a_ (by omega) (by omega) (ai rfl))
 unfold lY aX bn bx bp bF aY aB;refine a8 rfl (aW (λx=>x=(([(a0,r0),(a1,r1),(a2,r2),(a3,r3)],h,d,th),0,(a0,a1,a2,a3),r0,r1,r2,r3)) ?_ ?_)
 .exact eL rfl (a8 rfl (aV (aQ (q _ h0) (eL rfl (a8 rfl (aV (aQ (q _ h1) (eL rfl (a8 rfl (aV (aQ (q _ h2) (eL rfl (a8 rfl (aV (aQ (q _ h3) (jz rfl (ai rfl)))))))))))))))))
 rintro x rfl;refine aQ (x:=d) (bX (a_ (by dsimp only;omega) (by omega) (ai rfl))) (aQ (x:=th) (bX (a_ (by dsimp only;omega) (by omega) (ai rfl))) (ai rfl))
theorem XI {n:Nat} (w:WT) (s:SY) (hs:SB n s) (hn:n<=900) (A:w.2.2.1.length<=1000) (t k o u:Int) (he:EN w s t k o) (hr:Fw w s t k o) (hk:k=8\/k=9) (h3:s.1.length=4) (hA:xG (aH (T:=s9) s.1 o).2) (h4:∀z∈(aH (T:=s9) s.1 o).2,0<=z/\z<4) (q:t<4) (F:0<=o) (o1:o<4):f_ (w,s,t,k,o,u)=Z ((vO w s t k o u).1,(vO w s t k o u).2,M):=by
 have h1:=oD w s hs (by omega) A t k o he hr;have t0:=he.t0;have ra:=hr.ra;have rr:=hr.rr;have hrd:=hs.rd;have hdn:=hs.dn;have hth:=hs.th;obtain⟨s1,h,d,th⟩:=s
 match s1,h3 with
 |[(a0,r0),(a1,r1),(a2,r2),(a3,r3)],_=>
  have g0:r0.length<=n:=hrd (a0,r0) (by simp);have g1:r1.length<=n:=hrd (a1,r1) (by simp);have L:r2.length<=n:=hrd (a2,r2) (by simp);have I:r3.length<=n:=hrd (a3,r3) (by simp);dsimp only at hdn hth;have hc:=WH a0 a1 a2 a3 r0 r1 r2 r3 h d th (by omega) (by omega) (by omega) (by omega) hdn hth;refine bX ?_;unfold f_ aX bh bk bS da ip ug bn Prod.q9 bi mF bp aB;have D:o=0\/o=1\/o=2\/o=3:=by omega
  rcases D with rfl|rfl|rfl|rfl
  .have hA:xG r0:=hA;have h4:∀z∈r0,0<=z/\z<4:=h4;rcases hk with rfl|rfl
   .have ra:r0.contains t=aa:=ra rfl;obtain⟨q1,q2,q3⟩:=Kd hA h4 t0 q (by simpa using ra);simp only[h1,hc,aN,aS,kD];refine aW (λx=>x=(0,(h,d,th),0,a0,qA r0 [t],a1,r1,a2,r2,a3,r3)) ?_ ?_
    .refine a_ (by simp;omega) (by omega) (aQ q1 (a8 ?_ (aQ q2 (a8 ?_ (ai ?_)))))
     .rw[q3];simp
     .simp
     .rfl
    rintro x rfl;exact ai rfl
   .have rr:r0.contains t=M:=rr rfl;have q1:=KN hA h4 t0 q rr;simp only[h1,hc,aN,aS,kD];refine aW (λx=>x=(0,(h,d,th),0,a0,wo r0 t,a1,r1,a2,r2,a3,r3)) ?_ ?_
    .exact aQ q1 (a8 (by simp) (ai rfl))
    rintro x rfl;exact ai rfl
  .have hA:xG r1:=hA;have h4:∀z∈r1,0<=z/\z<4:=h4;rcases hk with rfl|rfl
   .have ra:r1.contains t=aa:=ra rfl;obtain⟨q1,q2,q3⟩:=Kd hA h4 t0 q (by simpa using ra);simp only[h1,hc,aN,aS,kD];refine aW (λx=>x=(0,(h,d,th),0,a0,r0,a1,qA r1 [t],a2,r2,a3,r3)) ?_ ?_
    .refine a_ (by simp;omega) (by omega) (aQ q1 (a8 ?_ (aQ q2 (a8 ?_ (ai ?_)))))
     .rw[q3];simp
     .simp
     .rfl
    rintro x rfl;exact ai rfl
   .have rr:r1.contains t=M:=rr rfl;have q1:=KN hA h4 t0 q rr;simp only[h1,hc,aN,aS,kD];refine aW (λx=>x=(0,(h,d,th),0,a0,r0,a1,wo r1 t,a2,r2,a3,r3)) ?_ ?_
    .exact aQ q1 (a8 (by simp) (ai rfl))
    rintro x rfl;exact ai rfl
  .have hA:xG r2:=hA;have h4:∀z∈r2,0<=z/\z<4:=h4;rcases hk with rfl|rfl
   .have ra:r2.contains t=aa:=ra rfl;obtain⟨q1,q2,q3⟩:=Kd hA h4 t0 q (by simpa using ra);simp only[h1,hc,aN,aS,kD];refine aW (λx=>x=(0,(h,d,th),0,a0,r0,a1,r1,a2,qA r2 [t],a3,r3)) ?_ ?_
    .refine a_ (by simp;omega) (by omega) (aQ q1 (a8 ?_ (aQ q2 (a8 ?_ (ai ?_)))))
     .rw[q3];simp
     .simp
     .rfl
    rintro x rfl;exact ai rfl
   .have rr:r2.contains t=M:=rr rfl;have q1:=KN hA h4 t0 q rr;simp only[h1,hc,aN,aS,kD];refine aW (λx=>x=(0,(h,d,th),0,a0,r0,a1,r1,a2,wo r2 t,a3,r3)) ?_ ?_
    .exact aQ q1 (a8 (by simp) (ai rfl))
    rintro x rfl;exact ai rfl
  .have hA:xG r3:=hA;have h4:∀z∈r3,0<=z/\z<4:=h4;rcases hk with rfl|rfl
   .have ra:r3.contains t=aa:=ra rfl;obtain⟨q1,q2,q3⟩:=Kd hA h4 t0 q (by simpa using ra);simp only[h1,hc,aN,aS,kD];refine aW (λx=>x=(0,(h,d,th),0,a0,r0,a1,r1,a2,r2,a3,qA r3 [t])) ?_ ?_
    .refine a_ (by simp;omega) (by omega) (aQ q1 (a8 ?_ (aQ q2 (a8 ?_ (ai ?_)))))
     .rw[q3];simp
     .simp
     .rfl
    rintro x rfl;exact ai rfl
   .have rr:r3.contains t=M:=rr rfl;have q1:=KN hA h4 t0 q rr;simp only[h1,hc,aN,aS,kD];refine aW (λx=>x=(0,(h,d,th),0,a0,r0,a1,r1,a2,r2,a3,wo r3 t)) ?_ ?_
    .exact aQ q1 (a8 (by simp) (ai rfl))
    rintro x rfl;exact ai rfl
theorem aa7 {n:Nat} (w:WT) (s:SY) (hs:SB n s) (hn:n<=1000) (d:w.2.2.1.length<=1000) (t k o u:Int) (he:EN w s t k o) (hr:Fw w s t k o) (hk:k=8\/k=9):gJ (w,s,t,k,o,u)=U:=by
 have h1:=oD w s hs hn d t k o he hr;have h2:=Zi s hs;rcases hk with rfl|rfl
 .unfold gJ aX bh bk bS da bn cI cC dI gG ck bi bp bF kF aB;simp only[h1,h2,aN,aS,kD];cases fm o (ah s.1)<;>rfl
 .unfold gJ aX bh bk bS da bn cI cC dI gG ck bi bp bF kF aB;simp only[h1,h2,aN,aS,kD];cases fm o (ah s.1)<;>rfl
theorem ade {n:Nat} (w:WT) (s:SY) (hs:SB n s) (hn:n<=900) (d:w.2.2.1.length<=1000) (t k o u:Int) (he:EN w s t k o) (hr:Fw w s t k o) (hl:s.1.length<=4) (hA:∀l∈s.1,xG l.2/\∀z∈l.2,0<=z/\z<4) (q:t<4):ry (w,s,t,k,o,u)=Z ((vO w s t k o u).1,(vO w s t k o u).2,M):=by
 unfold ry;by_cases hk:k=8\/k=9
 .have lk:=he.nm.lk (by omega);have e1:=he.e1;have hg:=hA _ (bH (T:=s9) (xs:=s.1) (j:=o) (by omega) (by omega));have A:=XO w s hs (by omega) d t k o u he hr;have D:=XN w s hs (by omega) d t k o u he hr;have F:=XM w s hs (by omega) d t k o u he hr;rw[aa7 w s hs (by omega) d t k o u he hr hk];have:s.1.length=1\/s.1.length=2\/s.1.length=3\/s.1.length=4:=by omega
  rcases this with h|h|h|h
  .rw[XL w s hs hn d t k o u he hr hk h hg.1 hg.2 q (by omega) (by omega)];rfl
  .rw[A (by omega),XK w s hs hn d t k o u he hr hk h hg.1 hg.2 q (by omega) (by omega)];rfl
  .rw[A (by omega),D (by omega),XJ w s hs hn d t k o u he hr hk h hg.1 hg.2 q (by omega) (by omega)];rfl
  .rw[A (by omega),D (by omega),F (by omega),XI w s hs hn d t k o u he hr hk h hg.1 hg.2 q (by omega) (by omega)];rfl
 .rw[adc w s hs (by omega) d t k o u he hr (λh=>hk (.inl h)) λh=>hk (.inr h)];rfl
theorem Vg (l:η) (h:l.length<=100000):xY l=Z l:=bX (a_ (by omega) (by omega) (ai rfl))
theorem ac5 (l:η) (h:l.length<=100000):gf l=Z l:=bX (a_ (by omega) (by omega) (ai rfl))
theorem ZM {n:Nat} (w:WT) (s:SN) (e:ET) (hs:NB n s) (hn:n<=900) (D:w.2.2.1.length<=1000) (I:Rw w s) (q:EN w s.1 e.1 e.2.1 e.2.2.1) (F:XR w s e) (hcb:(aH (T:=.int .i64) s.2.2.2 e.1:Int)<=1000) (hl:s.1.1.length<=4) (hA:∀l∈s.1.1,xG l.2/\∀z∈l.2,0<=z/\z<4) (t4:e.1<4):dR (w,s,e)=Z (RM w s e,M):=by
 have ld:e.2.2.2.2.2.1.length<=1000000:=by
  have h3:(e.2.2.2.2.2.1.length:Int)<=max (0:Int) (aH (T:=.int .i64) s.2.2.2 e.1):=F.nd.len;have:=eS h3 (wW.2 ⟨by decide,hcb⟩);omega
 have lf:e.2.2.2.2.2.2.length<=1000000:=by
  have h3:(e.2.2.2.2.2.2.length:Int)<=max (0:Int) (aH (T:=.int .i64) s.2.2.2 e.1):=F.nf.len;have:=eS h3 (wW.2 ⟨by decide,hcb⟩);omega
 refine bX ?_;obtain⟨rd,q1,q2,de,fr,nd,nf,va⟩:=id F;obtain⟨nm,t0,t1,cd,e1,e2,e3⟩:=id q;obtain⟨k1,k2,ce,lk,cn,th,fu,_,_,_⟩:=nm;obtain⟨f1,f2,f3⟩:=id I;have hsc:=hs.c;have hsf:=hs.f;have hsk:=hs.k;unfold dR aX bh bk bn cI cC ck bi bx ja kF aY aB ct;refine aW (λx=>x=(aa,w,s,e,0)) ?_ ?_
 .refine aQ (ai0 w s D _ _ _ q I) (jz rfl (gS (dT (λg=>(by dsimp only[aj]at g;omega)) λ_=>gS (ai ?_))));rw[fy.2 (show e.2.1<=23 by omega)]
 rintro x rfl;refine gD (aW (λx=>x=(aa,w,s,e,0)) ?_ ?_)
 .exact aQ (oD w s.1 hs.sb (by omega) D _ _ _ q rd) (jz rfl (aQ (aaz w e q1 q2) (jz rfl (aQ (Qh w s e (λh=>ce h) de fr t0 (by rw[f3];exact t1) nd nf ld lf) (jz rfl (aQ (aai w s hs.sb e I q va) (ai rfl)))))))
 rintro x rfl;refine gD (aW (λx=>x.2=(w,s,e,0)/\vO w s.1 e.1 e.2.1 e.2.2.1 x.1=vO w s.1 e.1 e.2.1 e.2.2.1 e.2.2.2.1) ?_ ?_)
 .exact aF (λ_=>ai ⟨rfl,rfl⟩) λh=>ai ⟨rfl,ae1 _ _ _ _ _ _ _ h⟩
 rintro⟨u,x⟩ ⟨L,hu⟩;dsimp only at L hu;subst L;refine aQ (ade w s.1 hs.sb hn D _ _ _ u q rd hl hA t4) (jz rfl (aQ (Vg _ (by dsimp only;omega)) (aQ (Vg _ (by dsimp only;omega)) (aQ (ac5 _ (by dsimp only;omega)) ?_))));rw[hu];refine aW (λx=>x.1=e/\x.2.2.1=(vO w s.1 e.1 e.2.1 e.2.2.1 e.2.2.2.1).1/\x.2.2.2.1=Zn s.2.1 e/\x.2.2.2.2.1=fuP s.2.2.1 e/\x.2.2.2.2.2=s.2.2.2) ?_ ?_
 .unfold Zn fuP;refine aF (λh=>?_) λh=>aF (λh'=>?_) λh'=>ai ⟨rfl,rfl,(aL h).symm,(aL h').symm,rfl⟩
  .have h:e.2.1=4:=h;have d:=ce (.inr h);exact aK d.1 (by rw[f1];exact d.2) (aK d.1 (by rw[f1];exact d.2) (ai ⟨rfl,rfl,(aU h).symm,(aL (by omega)).symm,rfl⟩))
  .have h:e.2.1=22:=h';have d:=fu (.inl h);exact aK d.1 (by rw[f2];exact d.2) (aK d.1 (by rw[f2];exact d.2) (ai ⟨rfl,rfl,(aL (by omega)).symm,(aU h).symm,rfl⟩))
 rintro⟨x1,x2,x3,x4,x5,x6⟩ ⟨h1,h2,h4,h5,h6⟩;simp only at h1 h2 h4 h5 h6;subst h1;subst h2;subst h4;subst h5;subst h6;have A:x1.1<(s.2.2.2.length:Int):=by rw[f3];exact t1
 exact aK t0 A (aK t0 A (aV (aK t0 A (aK t0 A (ai rfl)))))
theorem ZN {n:Nat} (w:WT) (s:SN) (e:ET) (hs:NB n s) (hn:n<=900) (A:w.2.2.1.length<=1000) (hcb:(aH (T:=.int .i64) s.2.2.2 e.1:Int)<=1000) (hl:s.1.1.length<=4) (hA:∀l∈s.1.1,xG l.2/\∀z∈l.2,0<=z/\z<4) (ht:w.2.2.2.2.1.length<=4):Ok (dR (w,s,e)) λy=>y.2=M->(Rw w s/\EN w s.1 e.1 e.2.1 e.2.2.1/\XR w s e)/\y.1=RM w s e:=by
 by_cases I:Rw w s/\EN w s.1 e.1 e.2.1 e.2.2.1/\XR w s e
 .obtain⟨q,d,L⟩:=I;have t1:=d.t1;exact Yo (ZM w s e hs hn A q d L hcb hl hA (by omega)) λ_=>⟨⟨q,d,L⟩,rfl⟩
 have hno:∀{y:SN×Bool},y.2=aa->(y.2=M->(Rw w s/\EN w s.1 e.1 e.2.1 e.2.2.1/\XR w s e)/\y.1=RM w s e):=λh g=>by rw[h]at g;cases g
 unfold dR aX bh bk bn cI cC ck bi bx ja kF aY aB ct;refine aW (λx=>x.2=(w,s,e,0)/\(x.1=aa->Rw w s/\0<=e.1/\e.1<w.2.2.2.2.1.length)) ?_ ?_
 .refine ar (Y6 w s A) λb hb=>cQ (λ_=>ai ⟨rfl,λh=>(by cases h)⟩) λD=>?_
  refine aR (λ_=>ai ⟨rfl,λh=>(by cases h)⟩) λg0=>dT (λ_=>ai ⟨rfl,λh=>(by cases h)⟩) λF=>aR (λ_=>ai ⟨rfl,λh=>(by cases h)⟩) λ_=>ai ⟨rfl,λ_=>⟨hb D,g0,F⟩⟩
 rintro⟨b,x⟩ ⟨e1,hb⟩;dsimp only at e1 hb;subst e1;refine aJ (λ_=>ai (hno rfl)) λh=>?_
 obtain⟨q,t0,t1⟩:=hb h;clear hb;refine aW (λx=>x.2=(w,s,e,0)/\(x.1=aa->Rw w s/\EN w s.1 e.1 e.2.1 e.2.2.1/\XR w s e)) ?_ ?_
 .have t2:e.1<(s.2.2.2.length:Int):=by have:=q.k;omega
  refine ar (Rx w s.1 hs.sb (by omega) A _ _ _) λb1 h1=>cQ (λ_=>ai ⟨rfl,λh=>(by cases h)⟩) λF=>?_
  obtain⟨d,hR⟩:=h1 F;refine ar (Sd w e) λb2 h2=>cQ (λ_=>ai ⟨rfl,λh=>(by cases h)⟩) λg2=>?_
  obtain⟨p1,p2⟩:=h2 g2;refine ar (Jb w s e (λh=>d.nm.ce h) t0 t2 hcb) λb3 h3=>cQ (λ_=>ai ⟨rfl,λh=>(by cases h)⟩) λg3=>?_
  obtain⟨d1,d2,d3,d4⟩:=h3 g3;refine ar (RY w s hs.sb e q d) λb4 h4=>ai ⟨rfl,λg4=>⟨q,d,hR,p1,p2,d1,d2,d3,d4,h4 ?_⟩⟩
  cases b4 with
  |true=>rfl
  |false=>cases g4
 rintro⟨b,x⟩ ⟨e1,hb⟩;dsimp only at e1 hb;subst e1;exact aJ (λ_=>ai (hno rfl)) λh=>(I (hb h)).elim
abbrev Gv:Type:=ζ×Int×Int×Bool×Int
abbrev cG (l:Y Gv) (j:Int):Gv:=aH (T:=Ol) l j
def bkE (c:Gv) (k:Int):Gv:=(c.1,k,c.2.2.1,aa,c.2.2.2.2)
structure BKA (l:List Gv) (i:Nat):Prop where
 z:¬(cG l i).2.2.1=0
 s1:1<=(cG l i).2.2.1
 s4:(cG l i).2.2.1<=4
 le:(i:Int)+(cG l i).2.2.1<=l.length
 al:∀k:Nat,(k:Int)<(cG l i).2.2.1->cG l ((i:Int)+k)=bkE (cG l i) k
inductive C6 (l:List Gv):Nat->List ζ->Prop
 |nil:C6 l l.length []
 |one {i:Nat} {ns:List ζ} (h:i<l.length) (z:(cG l i).2.2.1=0) (x:(cG l i).2.1=0) (r:C6 l (i+1) ns):C6 l i ((cG l i).1::ns)
 |arr {i:Nat} {ns:List ζ} (h:i<l.length) (b:BKA l i) (r:C6 l (i+(cG l i).2.2.1.toNat) ns):C6 l i ((cG l i).1::ns)
theorem C6.inv {l:Y Gv} {i:Nat} {ns:Y ζ} (h:C6 l i ns) (hi:i<l.length):∃r,ns=(cG l i).1::r/\(((cG l i).2.2.1=0/\(cG l i).2.1=0/\C6 l (i+1) r)\/(BKA l i/\C6 l (i+(cG l i).2.2.1.toNat) r)):=by
 cases h with
 |nil=>omega
 |one h z x r=>exact⟨_,rfl,.inl ⟨z,x,r⟩⟩
 |arr h b r=>exact⟨_,rfl,.inr ⟨b,r⟩⟩
def On (l:Y Gv) (i:Nat) (acc:Y ζ):Prop:=i<=l.length/\acc.length<=i/\∀ns,C6 l 0 ns↔∃r,ns=acc++r/\C6 l i r
theorem On.zero (l:Y Gv):On l 0 []:=⟨oF _,cB _,λns=>⟨λh=>⟨ns,rfl,h⟩,λ⟨r,e,h⟩=>by subst e;exact h⟩⟩
theorem On.no {l:Y Gv} {i:Nat} {acc:Y ζ} (h:On l i acc) (hi:i<l.length) (h1:¬((cG l i).2.2.1=0/\(cG l i).2.1=0)) (h2:¬BKA l i):∀ns,¬C6 l 0 ns:=λns hn=>by
 obtain⟨r,rfl,hr⟩:=(h.2.2 ns).1 hn;obtain⟨d,_,h3⟩:=hr.inv hi;rcases h3 with ⟨a,b,_⟩|⟨a,_⟩
 .exact h1 ⟨a,b⟩
 .exact h2 a
theorem On.one {l:Y Gv} {i:Nat} {acc:Y ζ} (h:On l i acc) (hi:i<l.length) (z:(cG l i).2.2.1=0) (x:(cG l i).2.1=0):On l (i+1) (acc++[(cG l i).1]):=by
 refine ⟨by omega,by simp;exact h.2.1,λns=>(h.2.2 ns).trans ⟨?_,?_⟩⟩
 .rintro⟨r,rfl,hr⟩;obtain⟨d,rfl,h3⟩:=hr.inv hi;rcases h3 with ⟨_,_,h4⟩|⟨h4,_⟩
  .exact⟨d,by simp,h4⟩
  .exact (h4.z z).elim
 .rintro⟨r,rfl,hr⟩;exact⟨_,by simp,.one hi z x hr⟩
theorem On.arr {l:Y Gv} {i:Nat} {acc:Y ζ} (h:On l i acc) (hi:i<l.length) (b:BKA l i):On l (i+(cG l i).2.2.1.toNat) (acc++[(cG l i).1]):=by
 have:=b.le;have:=b.s1;have:=h.2.1;refine ⟨by omega,by simp;omega,λns=>(h.2.2 ns).trans ⟨?_,?_⟩⟩
 .rintro⟨r,rfl,hr⟩;obtain⟨d,rfl,h3⟩:=hr.inv hi;rcases h3 with ⟨h4,_⟩|⟨_,h4⟩
  .exact (b.z h4).elim
  .exact⟨d,by simp,h4⟩
 .rintro⟨r,rfl,hr⟩;exact⟨_,by simp,.arr hi b hr⟩
theorem On.end_ {l:Y Gv} {acc:Y ζ} (h:On l l.length acc):C6 l 0 acc:=(h.2.2 acc).2 ⟨[],by simp,.nil⟩
theorem C6.uniq {l:Y Gv} {i:Nat} {a:Y ζ} (h:C6 l i a):∀{b:Y ζ},C6 l i b->a=b:=by
 induction h with
 |nil=>intro b hb;cases hb with
  |nil=>rfl
  |one h _ _ _=>omega
  |arr h _ _=>omega
 |one h z x r d=>
  intro b hb;obtain⟨q,rfl,h3⟩:=hb.inv h;rcases h3 with ⟨_,_,h4⟩|⟨h4,_⟩
  .rw[d h4]
  .exact (h4.z z).elim
 |arr h b r d=>
  intro b' hb;obtain⟨q,rfl,h3⟩:=hb.inv h;rcases h3 with ⟨h4,_⟩|⟨_,h4⟩
  .exact (b.z h4).elim
  .rw[d h4]
def VNo (l:Y Gv) (y:Y ζ×Bool):Prop:=(y.2=M->C6 l 0 y.1)/\(y.2=aa->∀ns,¬C6 l 0 ns)
theorem eqCe (a b:Gv):(L2 (.pr .str (.pr aM (.pr aM (.pr .bool (.pr aM .un))))) (a.1,a.2.1,a.2.2.1,a.2.2.2.1,a.2.2.2.2,()) (b.1,b.2.1,b.2.2.1,b.2.2.2.1,b.2.2.2.2,()) !=M)=decide (¬a=b):=by
 obtain⟨a1,a2,a3,F,D⟩:=a;obtain⟨b1,A,z,s,q⟩:=b;by_cases h1:a1=b1<;>by_cases h2:a2=A<;>by_cases h3:a3=z<;>by_cases h4:F=s<;>by_cases d:D=q<;>simp[L2,h1,h2,h3,h4,d]
theorem Ka (l:Y Gv) (hl:l.length<=12):Ok (fH l) (VNo l):=by
 unfold fH kM aX bh bk bS cI dI bi bx iA bp bF aY cH aB ct;refine Hs 12 (λx:Int×Y ζ=>(((l.length:Int)-x.1).toNat)) (λx=>0<=x.1/\On l x.1.toNat x.2) ?_ ⟨by simp;omega,by omega⟩ ⟨by simp,On.zero l⟩;rintro⟨i,acc⟩ ⟨i0,hV⟩;dsimp only at i0 hV;obtain⟨i,rfl⟩:∃n:Nat,i=(n:Int):=⟨i.toNat,by omega⟩
 rw[cV]at hV;have hle:=hV.1;have hac:=hV.2.1;refine aR (λg=>?_) λg=>ai ⟨λ_=>?_,λh=>(by cases h)⟩
 .dsimp only[aj]at g;have hi:i<l.length:=by omega
  refine aW (λx=>((i:Int)<x.1/\x.1<=l.length)/\On l x.1.toNat x.2) ?_ ?_
  .refine dV (aV (a_ (by simp;omega) (by omega) ?_));have hc:aH (T:=Ol) l (i:Int)=cG l i:=rfl;generalize hz:aH (T:=Ol) l (i:Int)=z at hc;have one:=hV.one hi;have arr:=hV.arr hi;have no:=hV.no hi;have hB1:BKA l i↔¬(z.2.2.1:Int)=0/\(1:Int)<=z.2.2.1/\(4:Int)≥z.2.2.1/\(l.length:Int)≥(i:Int)+z.2.2.1/\∀k:Nat,(k:Int)<(z.2.2.1:Int)->cG l ((i:Int)+k)=bkE z k:=by
    constructor
    .rintro⟨a,b,c,d,e⟩;rw[<- hc]at a b c d e;exact⟨a,b,c,d,e⟩
    .rintro⟨a,b,c,d,e⟩;rw[hc]at a b c d e;exact⟨a,b,c,d,e⟩
   rw[<- hc]at one arr no;clear hc;have hzz:z=cG l ((i:Int)):=hz.symm;clear hz;obtain⟨A,(z2:Int),(s:Int),L,(I:Int)⟩:=z;dsimp only at one arr no hB1 ⊢;refine aF (λh3=>bW (λh2=>ai ?_) λh2=>ai ?_) λh3=>?_
   .exact⟨λh=>(by cases h),λ_=>no (λh=>h2 h.2) λh=>(hB1.1 h).1 h3⟩
   .have:=one h3 h2;dsimp only;rw[fk (by omega)];exact⟨by omega,this⟩
   have no:=no λh=>h3 h.1
   refine aW (λx=>x.2=(acc++[A],A,z2,s,L,I)/\(x.1=M->∀ns,¬C6 l 0 ns)/\(x.1=aa->1<=s/\s<=4/\L=aa/\(i:Int)+s<=l.length)) ?_ ?_
   .refine aR (λh=>ai ⟨rfl,λ_=>no λhb=>(by have:=(hB1.1 hb).2.1;omega),λh=>(by cases h)⟩) λh1=>aR (λh=>ai ⟨rfl,λ_=>no λhb=>(by have:=(hB1.1 hb).2.2.1;omega),λh=>(by cases h)⟩) λh4=>aJ (λh=>ai ⟨rfl,λ_=>no λhb=>?_,λh=>(by cases h)⟩) λhv=>ai ⟨rfl,λh=>no λhb=>?_,λh=>⟨h1,h4,hv,?_⟩⟩
    .have:=(hB1.1 hb).2.2.2.2 0 (by omega);rw[show ((i:Int)+((0:Nat):Int))=(i:Int) by omega,<-hzz]at this;have:=iU (λc:Gv=>c.2.2.2.1) this;have:L=aa:=this;rw[this]at h;cases h
    .have:=(hB1.1 hb).2.2.2.1;dsimp only[aj]at h;rw[mm,gF (by omega) (by omega)]at h;omega
    .dsimp only[aj]at h;rw[fy,gF (by omega) (by omega)]at h;omega
   rintro⟨b,x⟩ ⟨e,F,D⟩;dsimp only at e F D;subst e;refine aJ (λh=>ai ⟨λh=>(by cases h),λ_=>F h⟩) λh=>?_
   obtain⟨q1,q2,q3,q4⟩:=D h;subst q3;refine Hs 5 (λx:Int×Y ζ×Gv=>(s-x.1).toNat) (λx=>(0<=x.1/\x.1<=s)/\(∃q,x.2=(acc++[A],A,q,s,aa,I))/\∀k:Nat,(k:Int)<x.1->cG l ((i:Int)+k)=bkE (A,z2,s,aa,I) k) ?_ ⟨by dsimp only;omega,by omega⟩ ⟨⟨by simp,by dsimp only;omega⟩,⟨z2,rfl⟩,λk hk=>(by dsimp only at hk;omega)⟩;rintro⟨k,x⟩ ⟨⟨k0,k1⟩,⟨q,e⟩,hal⟩;dsimp only at k0 k1 e hal;subst e;refine aR (λhk=>?_) λhk=>ai ?_
   .dsimp only at hk;have ew:aZ .i64 ((i:Int)+k)=(i:Int)+k:=gF (by omega) (by omega);refine aK (by dsimp only;rw[ew];omega) (by dsimp only;rw[ew];omega) (aV ?_);dsimp only;rw[ew];have hq:=eqCe (aH (T:=Ol) l ((i:Int)+k)) (A,k,s,aa,I);dsimp only at hq;refine aJ (λhne=>ai ⟨λh=>(by cases h),λ_=>no λhb=>?_⟩) λhne=>ai ⟨⟨⟨?_,?_⟩,⟨k,rfl⟩,λm hm=>?_⟩,?_⟩
    .have hne:=ba (hq.symm.trans hne);have:=(hB1.1 hb).2.2.2.2 k.toNat (by omega);rw[show (((k.toNat:Nat):Int))=k by omega]at this;exact hne this
    .rw[gF (by omega) (by omega)];omega
    .rw[gF (by omega) (by omega)];omega
    .rw[gF (by omega) (by omega)]at hm;have hne:=jy (hq.symm.trans hne);rcases Int.lt_or_le (m:Int) k with g|g
     .exact hal m g
     .have:(m:Int)=k:=by omega
      rw[this];exact Classical.not_not.1 hne
    .rw[gF (by omega) (by omega)];omega
   .dsimp only at hk;have hkz:k=s:=by omega
    subst hkz;have hB:=hB1.2 ⟨h3,q1,q2,q4,hal⟩;have:=arr hB;dsimp only;rw[gF (by omega) (by omega),show ((i:Int)+k).toNat=i+k.toNat by omega];exact⟨⟨by omega,by omega⟩,this⟩
  .rintro⟨j,acc'⟩ ⟨⟨h1,h2⟩,h3⟩;dsimp only at h1 h2 h3;exact ai ⟨⟨by omega,h3⟩,by dsimp only;omega⟩
 .dsimp only[aj]at g;have:i=l.length:=by omega
  subst this;exact hV.end_
def sn (w:WT) (ns:Y ζ):Y ζ:=((ns++w.2.1.map (·.1))++w.2.2.1.map (·.1))++w.2.2.2.1++w.2.2.2.2.1
structure J8 (w:WT):Prop where
 v:VL w
 ns:∃ns,C6 w.1 0 ns/\(∀s∈sn w ns,tV s)/\(sn w ns).Nodup
 cd:∀c∈w.2.2.1,0<=c.2/\c.2<w.2.1.length/\(aH (T:=xB) w.2.1 c.2).2=aa
 s:SV0 w
theorem C6.len {l:Y Gv} {i:Nat} {ns:Y ζ} (h:C6 l i ns):i<=l.length/\ns.length+i<=l.length:=by
 induction h with
 |nil=>simp
 |one h _ _ _ d=>simp;omega
 |arr h b _ d=>have:=b.s1;have:=d;simp;omega
theorem ab7 (w:WT) (h:VL w):Ok (pg w) λy=>(y.2=M->∃ns,C6 w.1 0 ns/\y.1=sn w ns)/\(y.2=aa->∀ns,¬C6 w.1 0 ns):=by
 obtain⟨l,w2,w3,w4,A,s⟩:=w;obtain⟨h1,h2,h3,h4,_,h5,h6⟩:=h;dsimp only at*
 unfold pg aX bh bk bS cI gG bi bx iA bp bF aY cH aB ct;refine ml (λx=>((l.length:Int)-x.1).toNat) (λx=>(0<=x.1/\x.2.1=(l,w2,w3,w4,A,s))/\On l x.1.toNat x.2.2) ?_ ⟨⟨by simp,rfl⟩,On.zero l⟩;rintro⟨i,x,acc⟩ ⟨⟨i0,e⟩,hV⟩;dsimp only at e i0 hV;subst e;obtain⟨i,rfl⟩:∃n:Nat,i=(n:Int):=⟨i.toNat,by omega⟩
 rw[cV]at hV;have hle:=hV.1;have hac:=hV.2.1;refine aR (λg=>?_) λg=>?_
 .dsimp only[aj]at g;have hi:i<l.length:=by omega
  refine aW (λx=>(((i:Int)<x.1/\x.1<=l.length)/\x.2.1=(l,w2,w3,w4,A,s))/\On l x.1.toNat x.2.2) ?_ ?_
  .refine dV (aV (a_ (by simp;omega) (by omega) ?_));have hc:aH (T:=Ol) l (i:Int)=cG l i:=rfl;generalize hz:aH (T:=Ol) l (i:Int)=z at hc;have one:=hV.one hi;have arr:=hV.arr hi;have no:=hV.no hi;have hB1:BKA l i↔¬(z.2.2.1:Int)=0/\(1:Int)<=z.2.2.1/\(4:Int)≥z.2.2.1/\(l.length:Int)≥(i:Int)+z.2.2.1/\∀k:Nat,(k:Int)<(z.2.2.1:Int)->cG l ((i:Int)+k)=bkE z k:=by
    constructor
    .rintro⟨a,b,c,d,e⟩;rw[<- hc]at a b c d e;exact⟨a,b,c,d,e⟩
    .rintro⟨a,b,c,d,e⟩;rw[hc]at a b c d e;exact⟨a,b,c,d,e⟩
   rw[<- hc]at one arr no;clear hc;have hzz:z=cG l ((i:Int)):=hz.symm;clear hz;obtain⟨D,(L:Int),(q:Int),I,(F:Int)⟩:=z;dsimp only at one arr no hB1 ⊢;refine aF (λh3=>bW (λh2=>ai ?_) λh2=>ai ?_) λh3=>?_
   .exact⟨λh=>(by cases h),λ_=>no (λh=>h2 h.2) λh=>(hB1.1 h).1 h3⟩
   .have:=one h3 h2;dsimp only;rw[fk (by omega)];exact⟨⟨by omega,rfl⟩,this⟩
   have no:=no λh=>h3 h.1
   refine aW (λx=>x.2=((l,w2,w3,w4,A,s),acc++[D],D,L,q,I,F)/\(x.1=M->∀ns,¬C6 l 0 ns)/\(x.1=aa->1<=q/\q<=4/\(i:Int)+q<=l.length)) ?_ ?_
   .refine aR (λh=>ai ⟨rfl,λ_=>no λhb=>(by have:=(hB1.1 hb).2.1;omega),λh=>(by cases h)⟩) λh1=>aR (λh=>ai ⟨rfl,λ_=>no λhb=>(by have:=(hB1.1 hb).2.2.1;omega),λh=>(by cases h)⟩) λh4=>ai ⟨rfl,λh=>no λhb=>?_,λh=>⟨h1,h4,?_⟩⟩
    .have:=(hB1.1 hb).2.2.2.1;dsimp only[aj]at h;rw[mm,gF (by omega) (by omega)]at h;omega
    .dsimp only[aj]at h;rw[fy,gF (by omega) (by omega)]at h;omega
   rintro⟨b,x⟩ ⟨e,hb1,hb2⟩;dsimp only at e hb1 hb2;subst e;refine aJ (λh=>ai ⟨λh=>(by cases h),λ_=>hb1 h⟩) λh=>?_
   obtain⟨q1,q2,q4⟩:=hb2 h;refine ml (λx=>(q-x.1).toNat) (λx=>(0<=x.1/\x.1<=q)/\x.2=((l,w2,w3,w4,A,s),acc++[D],D,L,q,I,F)/\∀k:Nat,(k:Int)<x.1->cG l ((i:Int)+k)=bkE (D,L,q,I,F) k) ?_ ⟨⟨by simp,by dsimp only;omega⟩,rfl,λk hk=>(by dsimp only at hk;omega)⟩;rintro⟨k,x⟩ ⟨⟨k0,k1⟩,e,hal⟩;dsimp only at k0 k1 e hal;subst e;refine aR (λhk=>?_) λhk=>ai ?_
   .dsimp only at hk;have ew:aZ .i64 ((i:Int)+k)=(i:Int)+k:=gF (by omega) (by omega);refine aK (by dsimp only;rw[ew];omega) (by dsimp only;rw[ew];omega) (aV ?_);dsimp only;rw[ew];refine aW (λx=>x.2=((l,w2,w3,w4,A,s),acc++[D],D,L,q,I,F)/\(x.1=aa↔cG l ((i:Int)+k)=bkE (D,L,q,I,F) k)) ?_ ?_
    .have hcg:cG l ((i:Int)+k)=aH (T:=Ol) l ((i:Int)+k):=rfl;rw[hcg];generalize aH (T:=Ol) l ((i:Int)+k)=c;obtain⟨c1,(c2:Int),(c3:Int),c4,(c5:Int)⟩:=c;dsimp only;refine bW (λg=>ai ⟨rfl,?_⟩) λg1=>bW (λg=>ai ⟨rfl,?_⟩) λg2=>bW (λg=>ai ⟨rfl,?_⟩) λg3=>bW (λg=>ai ⟨rfl,?_⟩) λg4=>ai ⟨rfl,?_⟩
     .exact⟨λh=>(by cases h),λh=>(g (iU (λc:Gv=>c.2.1) h)).elim⟩
     .exact⟨λh=>(by cases h),λh=>(g (iU (λc:Gv=>c.1) h)).elim⟩
     .exact⟨λh=>(by cases h),λh=>(g (iU (λc:Gv=>c.2.2.1) h)).elim⟩
     .exact⟨λh=>(by cases h),λh=>(g (iU (λc:Gv=>c.2.2.2.2) h)).elim⟩
     .constructor
      .intro hh;have h0:c4=aa:=hh;subst g1;subst g2;subst g3;subst g4;rw[h0];rfl
      .exact λh=>iU (λc:Gv=>c.2.2.2.1) h
    rintro⟨b,x⟩ ⟨e,hb⟩;dsimp only at e hb;subst e;refine aJ (λhne=>ai ⟨λh=>(by cases h),λ_=>no λhB=>?_⟩) λhne=>ai ⟨⟨⟨?_,?_⟩,rfl,λm hm=>?_⟩,?_⟩
    .have:=(hB1.1 hB).2.2.2.2 k.toNat (by omega);rw[show (((k.toNat:Nat):Int))=k by omega]at this;rw[hb.2 this]at hne;cases hne
    .dsimp only;rw[gF (by omega) (by omega)];omega
    .dsimp only;rw[gF (by omega) (by omega)];omega
    .dsimp only at hm;rw[gF (by omega) (by omega)]at hm;rcases Int.lt_or_le (m:Int) k with g|g
     .exact hal m g
     .have:(m:Int)=k:=by omega
      rw[this];exact hb.1 hne
    .dsimp only;rw[gF (by omega) (by omega)];omega
   .dsimp only at hk;have hkz:k=q:=by omega
    subst hkz;have hB:=hB1.2 ⟨h3,q1,q2,q4,hal⟩;have:=arr hB;dsimp only;rw[gF (by omega) (by omega),show ((i:Int)+k).toNat=i+k.toNat by omega];exact⟨⟨⟨by omega,by omega⟩,rfl⟩,this⟩
  .rintro⟨j,x,acc'⟩ ⟨⟨⟨h1,h2⟩,e⟩,h3⟩;dsimp only at h1 h2 h3 e;subst e;exact ai ⟨⟨⟨by dsimp only;omega,rfl⟩,h3⟩,by dsimp only;omega⟩
 .dsimp only[aj]at g;have:i=l.length:=by omega
  subst this;have hN:=hV.end_;refine ar (P:=λy=>y=(sn (l,w2,w3,w4,A,s) acc,M)) ?_ λy hy=>ai ?_
  .refine cf w2.length (λi x=>x=((i:Int),(l,w2,w3,w4,A,s),acc++(w2.take i).map (·.1))) ?_ ?_ (by simp)
   .rintro i x hi rfl;refine io (dV (aV (a_ (by simp;omega) (by omega) (ai ?_))));dsimp only;rw[fk (by omega),pN (T:=xB) hi,c7,ir];rfl
   .rintro x rfl;rw[bQ];refine gS (ar (P:=λy=>y=(sn (l,w2,w3,w4,A,s) acc,M)) ?_ λy hy=>ai hy);refine cf w3.length (λi x=>x=((i:Int),(l,w2,w3,w4,A,s),(acc++w2.map (·.1))++(w3.take i).map (·.1))) ?_ ?_ (by simp)
    .rintro i x hi rfl;refine io (dV (aV (a_ (by simp;omega) (by omega) (ai ?_))));dsimp only;rw[fk (by omega),pN (T:=pI) hi,c7,ir (acc++w2.map (·.1))];rfl
    .rintro x rfl;rw[bQ];refine gS (ar (P:=λy=>y=(sn (l,w2,w3,w4,A,s) acc,M)) ?_ λy hy=>ai hy);exact a_ (by simp;omega) (by omega) (a_ (by simp;omega) (by omega) (ai rfl))
  .subst hy;exact⟨λ_=>⟨acc,hN,rfl⟩,λh=>(by cases h)⟩
theorem UJ {T t n:Int} {z:ν}:siS T (Z (t,n)) z≠U↔(z.1=t/\z.2.1=n\/t<z.1/\z.1<T/\z.2.1=0):=by
 unfold siS;dsimp only;by_cases h1:z.1=t/\z.2.1=n
 .rw[aU h1];simp[h1]
 .rw[aL h1];by_cases h2:t<z.1/\z.1<T/\z.2.1=0
  .rw[aU h2];simp[h2]
  .rw[aL h2];simp only[ne_eq,not_true_eq_false,false_iff];exact λh=>h.elim h1 h2
theorem v_ {α:Type} {l:Y α} {x:α}:(l++[x]).Nodup↔l.Nodup/\¬x∈l:=by
 rw[List.nodup_append];constructor
 .rintro⟨h1,_,h3⟩;exact⟨h1,λh=>h3 x h x (by simp) rfl⟩
 .rintro⟨h1,h2⟩;exact⟨h1,by simp,λa d b hb e=>by simp at hb;subst hb;subst e;exact h2 d⟩
theorem Hy {α:Type} {l:Y α} (h:l.Nodup) (i:Nat):(l.take i).Nodup:=h.sublist (List.take_sublist i l)
theorem ZC {w:WT} {ns:Y ζ} (h:VL w) (hn:C6 w.1 0 ns):(sn w ns).length<=24:=by
 have:=hn.len.2;have:=h.c;have:=h.l;have:=h.d;have:=h.f;have:=h.t;unfold sn;simp;omega
theorem J8.names {w:WT} (h:J8 w) {ns:Y ζ} (hn:C6 w.1 0 ns):(∀s∈sn w ns,tV s)/\(sn w ns).Nodup:=by
 obtain⟨ns',h1,h2⟩:=h.ns;rw[hn.uniq h1];exact h2
structure ZR (T:Int) (l:List ν) (i:Nat) (t k:Int):Prop where
 f:VK T (l.take i)=Z (t,k)
 t0:0<=t
 t1:t<T
 z:i=0->t=0/\k=0
 p:¬i=0->∀y:ν,aH (T:=C2) l ((i-1:Nat):Int)=y->y.1=t/\y.2.1+1=k
 k0:0<=k
 k1:k<=i
theorem ZR.zero {T:Int} (l:Y ν) (h:0<T):ZR T l 0 0 0:=⟨rfl,by omega,h,λ_=>⟨rfl,rfl⟩,λh=>(h rfl).elim,by omega,by omega⟩
theorem ZR.no {T:Int} {l:Y ν} {i:Nat} {t k:Int} (h:ZR T l i t k) (hi:i<l.length) {y:ν} (e:aH (T:=C2) l (i:Int)=y) (g:¬(y.1=t/\y.2.1=k\/t<y.1/\y.1<T/\y.2.1=0)):VK T l=U:=by
 refine Classical.not_not.1 λhn=>?_
 have h2:=aaq hn (i+1);rw[He hi,h.f,e]at h2;exact g (UJ.1 h2)
theorem ZR.next {T:Int} {l:Y ν} {i:Nat} {t k:Int} (h:ZR T l i t k) (hi:i<l.length) {y:ν} (e:aH (T:=C2) l (i:Int)=y) (g:y.1=t/\y.2.1=k\/t<y.1/\y.1<T/\y.2.1=0):ZR T l (i+1) y.1 (y.2.1+1):=by
 obtain⟨f,t0,t1,z,p,k0,k1⟩:=h;have h2:=X' (UJ.2 g);rw[<- f,<-e,<-He hi]at h2;refine ⟨by rw[<- e];exact h2.1,?_,?_,λh=>by omega,λ_ d e'=>?_,?_,?_⟩
 case refine_3=>
  rw[show i+1-1=i by omega,e]at e';subst e';exact⟨rfl,rfl⟩
 all_goals omega
theorem J9 (w:WT) (h:VL w):Ok (fE w) λb=>b=M↔SV0 w:=by
 have hs:=h.s;have ht:=h.t0;have L:=h.t;unfold SV0;unfold fE kK aX bh bS cC bx iA bF aY cH aB ct;refine dY w.2.2.2.2.2.length (by omega) (λi x=>∃t n:Int,x=((t,n,(i:Int)),w)/\ZR w.2.2.2.2.1.length w.2.2.2.2.2 i t n) ?_ ?_ ⟨0,0,rfl,ZR.zero _ (by omega)⟩
 .rintro i x hi ⟨t,n,rfl,A⟩;refine io (dV (aV ?_));obtain⟨⟨a,b,c⟩,D⟩:∃y:ν,aH (T:=C2) w.2.2.2.2.2 (i:Int)=y:=⟨_,rfl⟩
  have no:=A.no hi D;have nx:=A.next hi D;obtain⟨_,t0,t1,z,p,k0,k1⟩:=A;rw[D];clear D;dsimp only at no nx ⊢;have no':=λg=>(⟨λh=>(by cases h),λh=>(h (no g)).elim⟩:aa=M↔VK w.2.2.2.2.1.length w.2.2.2.2.2≠U)
  refine aW (λx=>x.2=(w,a,b,c)/\(x.1=aa↔t<=a/\a<w.2.2.2.2.1.length)) ?_ ?_
  .refine aR (λg=>ai ⟨rfl,λh=>(by cases h),λh=>(by omega)⟩) λg=>ai ⟨rfl,?_⟩
   dsimp only[aj];rw[kV];omega
  rintro⟨x1,x⟩ ⟨e,F⟩;dsimp only at e F;subst e;refine aJ (λg=>ai (no' λh=>?_)) λg=>?_
  .have:¬(t<=a/\a<w.2.2.2.2.1.length):=λq=>by rw[F.2 q]at g;cases g
   omega
  obtain⟨g1,g2⟩:=F.1 g;refine aW (λx=>x.2=(w,a,b,c)/\x.1.1=a/\((x.1.2=b↔(a=t/\b=n\/t<a/\b=0))/\0<=x.1.2/\x.1.2<=i)) ?_ ?_
  .refine aR (λg=>ai ⟨rfl,rfl,?_⟩) λg=>ai ⟨rfl,?_,?_⟩
   .dsimp only at g ⊢;omega
   .dsimp only at g ⊢;omega
   .dsimp only at g ⊢;omega
  rintro⟨⟨x1,x2⟩,x⟩ ⟨e,e2,d,k2,I⟩;dsimp only at e e2 d k2 I;subst e;subst e2;refine bW (λg=>ai (no' λh=>?_)) λg=>ai ⟨_,_,?_,nx ?_⟩
  .dsimp only at g;have:¬x2=b:=λq=>g q.symm
   rw[d]at this;omega
  .dsimp only at g ⊢;have g:b=x2:=g;rw[fk (by omega),gF (n:=x2+1) (by omega) (by omega),g]
  .dsimp only at g;have g:b=x2:=g;have:=d.1 g.symm;omega
 .rintro x ⟨t,n,rfl,A⟩;refine gS (ai ⟨λ_ h=>?_,λ_=>rfl⟩);have:=A.f;rw[bQ,h]at this;cases this
theorem ahw {T:Ty} {l:Y T.den} {p:T.den->Prop} (h:∀k:Nat,k<ah l->p (aH l (k:Int))):∀c∈l,p c:=ii h
theorem VW06 (w:WT):Ok (gU w) λb=>b=M↔J8 w:=by
 unfold gU aX bh bk bS cC dI bi bx ja iA bp bF aY cH aB ct;refine aW (λx=>x.2=w/\(x.1=aa->VL w)/\(x.1=M->¬VL w)) ?_ ?_
 .with_reducible repeat' first|(refine OS.ok ?_;constructor)|refine IM.mk λ_=>?_
  all_goals first|exact⟨rfl,λh=>(by cases h),λ_ hv=>(by have:=hv.c;have:=hv.l;have:=hv.d;have:=hv.f;have:=hv.t0;have:=hv.t;dsimp only[aj]at *;omega)⟩|skip
  dsimp only[aj] at*
  refine ⟨rfl,λh=>?_,λh hv=>?_⟩
  .rw[fy]at h;constructor<;>omega
  .rw[mm]at h;have:=hv.s;omega
 rintro⟨b,x⟩ ⟨e,hb,hb'⟩;dsimp only at e hb hb';subst e;refine aJ (λh=>ai ⟨λg=>(by cases g),λg=>(hb' h g.v).elim⟩) λh=>?_
 have hv:=hb h;refine ar (ab7 _ hv) λy D=>?_
 refine cQ (λh=>ai ⟨λg=>(by cases g),λg=>?_⟩) λh=>?_
 .obtain⟨ns,h1,_⟩:=g.ns;exact (D.2 h ns h1).elim
 obtain⟨ns,hns,hyn⟩:=D.1 h;have hlen:=ZC hv hns;rw[hyn];clear hyn D;clear hb hb';have hN:J8 x->(∀s∈sn x ns,tV s)/\(sn x ns).Nodup:=λg=>g.names hns
 generalize hL:sn x ns=L at hN hlen;refine cf L.length (λi x'=>x'=((i:Int),x)/\(∀s∈L.take i,tV s)/\(L.take i).Nodup) ?_ ?_ ⟨rfl,λs hs=>(by simp at hs),by simp⟩
 .rintro i x' hi ⟨rfl,I,F⟩;refine io ?_;have htk:=pN (T:=.str) hi;refine aW (λx'=>x'.2=x/\(x'.1=aa↔tV (aH (T:=.str) L (i:Int))/\¬aH (T:=.str) L (i:Int)∈L.take i)) ?_ ?_
  .refine dV (aV (ar (Z6 _) λb hb=>?_));refine cQ (λh=>ai ⟨rfl,λh=>(by cases h),λg=>?_⟩) λh=>?_
   .rw[hb.2 g.1]at h;cases h
   refine cR (du (by omega) (du (by dsimp only;omega) (dV (aV ?_))));refine ar (Ar _ _ (by simp;omega)) λr hr=>ai ⟨rfl,?_⟩
   obtain⟨_,h2,h3,h4⟩:=hr;rw[kV];constructor
   .intro g;exact⟨hb.1 h,h4 g⟩
   .rintro⟨_,g⟩;refine Int.not_le.1 λh0=>g ?_
    have h3:=h3 h0;dsimp only at h3;rw[<- h3];exact bH (T:=.str) h0 h2
  rintro⟨b,x'⟩ ⟨e,hb⟩;dsimp only at e hb;subst e;refine aJ (λh=>ai ⟨λg=>(by cases g),λg=>?_⟩) λh=>ai ⟨by dsimp only;rw[fk (by omega)],?_,?_⟩
  .obtain⟨g1,g2⟩:=hN g;have:b=aa:=hb.2 ⟨g1 _ (bH (T:=.str) (by omega) (by omega)),(v_.1 (by rw[<- htk];exact Hy g2 _)).2⟩;rw[this]at h;cases h
  .rw[htk];intro s hs;rcases bN.1 hs with hs|hs
   .exact I s hs
   .rw[aI]at hs;subst hs;exact (hb.1 h).1
  .rw[htk];exact v_.2 ⟨F,(hb.1 h).2⟩
 rintro x' ⟨rfl,I,F⟩;rw[bQ]at I F;subst hL;obtain⟨w1,w2,w3,w4,A,q⟩:=x;have h6:=hv.s;have h3:=hv.d;have h2:=hv.l;have h50:=hv.t0;dsimp only at h6 h3 h2 h50;refine gS (ar (P:=λb=>b=M↔J8 (w1,w2,w3,w4,A,q)) ?_ λy D=>ai D);refine cf w3.length (λi x=>x=((i:Int),(w1,w2,w3,w4,A,q))/\∀k:Nat,k<i->0<=(aH (T:=pI) w3 (k:Int)).2/\(aH (T:=pI) w3 (k:Int)).2<w2.length/\(aH (T:=xB) w2 (aH (T:=pI) w3 (k:Int)).2).2=aa) ?_ ?_ ⟨rfl,λk hk=>(by omega)⟩
 .rintro i x hi ⟨rfl,hq⟩;refine io (dV (aV ?_));have hmem:aH (T:=pI) w3 (i:Int)∈w3:=bH (T:=pI) (by omega) (by omega);have hVW:J8 (w1,w2,w3,w4,A,q)->0<=(aH (T:=pI) w3 (i:Int)).2/\(aH (T:=pI) w3 (i:Int)).2<w2.length/\(aH (T:=xB) w2 (aH (T:=pI) w3 (i:Int)).2).2=aa:=λg=>g.cd _ hmem
  have hq':(0<=(aH (T:=pI) w3 (i:Int)).2/\(aH (T:=pI) w3 (i:Int)).2<w2.length/\(aH (T:=xB) w2 (aH (T:=pI) w3 (i:Int)).2).2=aa)->∀k:Nat,k<i+1->0<=(aH (T:=pI) w3 (k:Int)).2/\(aH (T:=pI) w3 (k:Int)).2<w2.length/\(aH (T:=xB) w2 (aH (T:=pI) w3 (k:Int)).2).2=aa:=λg k hk=>by
   rcases bM k i with h1|h1
   .exact hq k h1
   .rw[show k=i by omega];exact g
  clear hq;obtain⟨⟨c1,c2⟩,hc⟩:∃c:ζ×Int,aH (T:=pI) w3 (i:Int)=c:=⟨_,rfl⟩
  rw[hc]at hVW hq' ⊢;dsimp only at hVW hq' ⊢;refine aW (λx=>x.2=(w1,w2,w3,w4,A,q)/\(x.1=aa↔0<=c2/\c2<w2.length/\(aH (T:=xB) w2 c2).2=aa)) ?_ ?_
  .refine aR (λg=>ai ⟨rfl,λh=>(by cases h),λh=>(by omega)⟩) λg=>dT (λg2=>ai ⟨rfl,λh=>(by cases h),λh=>(by dsimp only[aj]at g2;omega)⟩) λg2=>?_
   dsimp only[aj]at g2;exact dV (aV (ai ⟨rfl,λh=>⟨g,g2,h⟩,λh=>h.2.2⟩))
  rintro⟨b,x⟩ ⟨e,hb⟩;dsimp only at e hb;subst e;refine aJ (λh=>ai ⟨λg=>(by cases g),λg=>?_⟩) λh=>ai ⟨by dsimp only;rw[fk (by omega)],hq' (hb.1 h)⟩
  rw[hb.2 (hVW g)]at h;cases h
 rintro x ⟨rfl,hq⟩;have hcd:∀c∈w3,0<=c.2/\c.2<w2.length/\(aH (T:=xB) w2 c.2).2=aa:=ahw (T:=pI) hq;clear hq;refine gS (ar (P:=λb=>b=M↔J8 (w1,w2,w3,w4,A,q)) ?_ λy D=>ai D);have hno:VK A.length q=U->(aa=M↔J8 (w1,w2,w3,w4,A,q)):=λg=>⟨λh=>(by cases h),λh=>(h.s g).elim⟩
 refine cf q.length (λi x=>x=((i:Int),(w1,w2,w3,w4,A,q))/\∃t k:Int,ZR A.length q i t k) ?_ ?_ ⟨rfl,0,0,ZR.zero _ (by omega)⟩
 .rintro i x hi ⟨rfl,t,k,hI⟩;have hw:¬(i:Int)=0->aZ .i64 ((i:Int)-1)=((i-1:Nat):Int):=λh=>by rw[gF (by omega) (by omega)];omega
  refine io ?_;obtain⟨⟨a,b,c⟩,D⟩:∃y:ν,aH (T:=C2) q (i:Int)=y:=⟨_,rfl⟩
  have no:=hI.no hi D;have nx:=hI.next hi D;obtain⟨_,t0,t1,z,p,k0,k1⟩:=hI;obtain⟨⟨pa,pb,pc⟩,hp⟩:∃y:ν,aH (T:=C2) q ((i-1:Nat):Int)=y:=⟨_,rfl⟩
  have p:=λh=>p h _ hp
  dsimp only at no nx p;refine aW (λx=>x=(w1,w2,w3,w4,A,q)/\(a=t/\b=k\/t<a/\a<A.length/\b=0)) ?_ ?_
  .refine dV (aV ?_);dsimp only;rw[D];dsimp only;refine aW (λx=>x.2=((w1,w2,w3,w4,A,q),a,b,c)/\(x.1=aa↔0<=a/\a<A.length)) ?_ ?_
   .refine aR (λ_=>ai ⟨rfl,λh=>(by cases h),λh=>(by omega)⟩) λg=>ai ⟨rfl,?_⟩
    dsimp only[aj];rw[kV];omega
   rintro⟨b1,x⟩ ⟨e,hx⟩;dsimp only at e hx;subst e;refine aJ (λh=>ai (hno (no λg=>?_))) λh=>?_
   .rw[hx.2 (by omega)]at h;cases h
   obtain⟨a0,a1⟩:=hx.1 h;refine aW (λx=>x.2=((w1,w2,w3,w4,A,q),a,b,c)/\(x.1=aa↔¬i=0/\t=a)) ?_ ?_
   .refine aF (λh=>ai ⟨rfl,λh=>(by cases h),λg=>?_⟩) λh=>?_
    .have h:((i:Nat):Int)=0:=h;omega
    have h:¬((i:Nat):Int)=0:=h;have hpp:=p (by omega);dsimp only;rw[hw h];refine aK (by omega) (by first|omega|(dsimp only;omega)) (aV (ai ⟨rfl,?_⟩));rw[hp];dsimp only;rw[hpp.1];simp only[Bool.not_eq_false',bz];exact⟨λg=>⟨by omega,g⟩,λg=>g.2⟩
   rintro⟨c1,x⟩ ⟨e,hc⟩;dsimp only at e hc;subst e;refine aJ (λhct=>?_) λhcf=>?_
   .have hne:¬(¬i=0/\t=a):=λg=>by rw[hc.2 g]at hct;cases hct
    refine aW (λx=>x.2=(w1,w2,w3,w4,A,q)/\(x.1=aa↔b=0/\(i=0\/t<=a))) ?_ ?_
    .refine bW (λg=>ai ⟨rfl,λh=>(by cases h),λh=>(g h.1).elim⟩) λhb0=>aR (λh=>?_) λh=>ai ⟨rfl,λ_=>⟨hb0,.inl ?_⟩,λ_=>rfl⟩
     .have h:(0:Int)<((i:Nat):Int):=h;have hpp:=p (by omega);dsimp only;rw[hw (by omega)];refine aK (by omega) (by first|omega|(dsimp only;omega)) (aV (ai ⟨rfl,?_⟩));rw[hp];dsimp only;rw[hpp.1,fy];exact⟨λg=>⟨hb0,.inr g⟩,λg=>g.2.elim (λg=>by omega) id⟩
     .have h:((i:Nat):Int)<=0:=h;omega
    rintro⟨b2,x⟩ ⟨e,hb2⟩;dsimp only at e hb2;subst e;refine aJ (λh=>ai (hno (no λg=>?_))) λh=>ai ⟨rfl,?_⟩
    .have:¬(b=0/\(i=0\/t<=a)):=λg=>by rw[hb2.2 g]at h;cases h
     by_cases i0:i=0
     .have:=z i0;omega
     .omega
    .have g:=hb2.1 h;by_cases i0:i=0
     .have:=z i0;omega
     .omega
   .obtain⟨i0,ta⟩:=hc.1 hcf;have hpp:=p i0;dsimp only;rw[hw (by omega)];refine aK (by omega) (by first|omega|(dsimp only;omega)) (aV ?_);rw[hp];refine bW (λg=>ai (hno (no λg2=>?_))) λg=>ai ⟨rfl,?_⟩
    .dsimp only at g;rw[gF (by omega) (by omega)]at g;omega
    .dsimp only at g;rw[gF (by omega) (by omega)]at g;omega
  .rintro x ⟨rfl,g⟩;exact ai ⟨by dsimp only;rw[fk (by omega)],_,_,nx g⟩
 .rintro x ⟨rfl,t,k,hI⟩;refine gS (ai ⟨λ_=>⟨hv,⟨ns,hns,I,F⟩,hcd,λh=>?_⟩,λ_=>rfl⟩);have:=hI.f;rw[bQ]at this;rw[this]at h;cases h
theorem Yx (k j:ζ) (v:Bool):∀m:Y (ζ×Bool),oy (K:=.str) (V:=.bool) j (xT (K:=.str) (V:=.bool) k v m)=if j=k then Z v else oy (K:=.str) (V:=.bool) j m
 |[]=>by
  show (if decide (j=k)=M then Z v else U)=_;by_cases h:j=k<;>simp[h,oy]
 |(a,b)::r=>by
  have d:=Yx k j v r;show oy (K:=.str) (V:=.bool) j (if decide (k=a)=M then (k,v)::r else (a,b)::xT (K:=.str) (V:=.bool) k v r)=if j=k then Z v else if decide (j=a)=M then Z b else oy (K:=.str) (V:=.bool) j r
  by_cases h:k=a
  .subst h;rw[aU (bc rfl)];show (if decide (j=k)=M then Z v else oy (K:=.str) (V:=.bool) j r)=_;by_cases g:j=k<;>simp[g]
  .rw[aL (by simpa using h)];show (if decide (j=a)=M then Z b else oy (K:=.str) (V:=.bool) j (xT (K:=.str) (V:=.bool) k v r))=_;rw[d];by_cases g:j=a
   .subst g;rw[aU (bc rfl),aL λq=>h q.symm,aU (bc rfl)]
   .simp only[g,cZ,bG,dq]
def JP (l:Y ζ) (m:Y (ζ×Bool)):Prop:=∀s,sw (K:=.str) (V:=.bool) s m aa=decide (s∈l)
theorem JP.nil:JP [] []:=λs=>by simp[sw,oy]
theorem JP.snoc {l:Y ζ} {m:Y (ζ×Bool)} (h:JP l m) (x:ζ):JP (l++[x]) (xT (K:=.str) (V:=.bool) x M m):=λs=>by
 have:=h s;unfold sw at this ⊢;rw[Yx];by_cases e:s=x
 .subst e;simp
 .rw[aL e,this];simp[e]
theorem J_ (w:WT) (h:VL w) (ns:Y ζ) (hn:ns.length<=12):Ok (fG (w,ns)) λb=>b=M↔(∀s∈sn w ns,tV s)/\(sn w ns).Nodup:=by
 obtain⟨l,w2,w3,w4,d,q⟩:=w;obtain⟨h1,h2,h3,h4,_,I,F⟩:=h;dsimp only at*
 unfold fG kL aX bh bk bx bp bF kF aY cH aB ct;refine a_ (by dsimp only;omega) (by omega) ?_;refine dY w2.length (by omega) (λi x=>x=((i:Int),(l,w2,w3,w4,d,q),ns++(w2.take i).map (·.1))) ?_ ?_ (by simp)
 .rintro i x hi rfl;refine io (dV (aV (a_ (by simp;omega) (by omega) (ai ?_))));dsimp only;rw[fk (by omega),pN (T:=xB) hi,c7,ir];rfl
 rintro x rfl;rw[bQ];refine gS (ar (P:=λb=>b=M↔(∀s∈sn (l,w2,w3,w4,d,q) ns,tV s)/\(sn (l,w2,w3,w4,d,q) ns).Nodup) ?_ λy D=>ai D);refine dY w3.length (by omega) (λi x=>x=((i:Int),(l,w2,w3,w4,d,q),(ns++w2.map (·.1))++(w3.take i).map (·.1))) ?_ ?_ (by simp)
 .rintro i x hi rfl;refine io (dV (aV (a_ (by simp;omega) (by omega) (ai ?_))));dsimp only;rw[fk (by omega),pN (T:=pI) hi,c7,ir (ns++w2.map (·.1))];rfl
 rintro x rfl;rw[bQ];refine gS (ar (P:=λb=>b=M↔(∀s∈sn (l,w2,w3,w4,d,q) ns,tV s)/\(sn (l,w2,w3,w4,d,q) ns).Nodup) ?_ λy D=>ai D);refine a_ (by simp;omega) (by omega) (a_ (by simp;omega) (by omega) ?_);have hL:((ns++w2.map (·.1))++w3.map (·.1)++w4)++d=sn (l,w2,w3,w4,d,q) ns:=rfl;have hLl:(sn (l,w2,w3,w4,d,q) ns).length<=24:=by unfold sn;simp;omega
 dsimp only;rw[hL];generalize sn (l,w2,w3,w4,d,q) ns=L at hLl;refine dY L.length (by omega) (λi x=>∃m,x=((i:Int),m,L)/\JP (L.take i) m/\(∀s∈L.take i,tV s)/\(L.take i).Nodup) ?_ ?_ ⟨[],rfl,JP.nil,λs hs=>(by simp at hs),by simp⟩
 .rintro i x hi ⟨m,rfl,hm,A,z⟩;refine io (dV (dV (aV ?_)));have htk:=pN (T:=.str) hi;refine aW (λx=>x.2=(m,L)/\(x.1=aa↔tV (aH (T:=.str) L (i:Int))/\¬aH (T:=.str) L (i:Int)∈L.take i)) ?_ ?_
  .refine ar (ada _) λb hb=>cQ (λh=>ai ⟨rfl,λh=>(by cases h),λg=>?_⟩) λh=>ai ⟨rfl,?_⟩
   .rw[hb.2 g.1]at h;cases h
   .have:=hm (aH (T:=.str) L (i:Int));constructor
    .intro g;exact⟨hb.1 h,jy (this.symm.trans g)⟩
    .intro g;exact this.trans (bD g.2)
  rintro⟨b,x⟩ ⟨e,hb⟩;dsimp only at e hb;subst e;refine aJ (λh=>ai ⟨λg=>(by cases g),λg=>?_⟩) λh=>ai ⟨_,by dsimp only;rw[fk (by omega)],?_,?_,?_⟩
  .have:b=aa:=hb.2 ⟨g.1 _ (bH (T:=.str) (by omega) (by omega)),(v_.1 (by rw[<- htk];exact Hy g.2 _)).2⟩;rw[this]at h;cases h
  .rw[htk];exact hm.snoc _
  .rw[htk];intro s hs;rcases bN.1 hs with hs|hs
   .exact A s hs
   .rw[aI]at hs;subst hs;exact (hb.1 h).1
  .rw[htk];exact v_.2 ⟨z,(hb.1 h).2⟩
 .rintro x ⟨m,rfl,hm,A,z⟩;rw[bQ]at A z;exact gS (ai ⟨λ_=>⟨A,z⟩,λ_=>rfl⟩)
theorem aah (a b:Int):lZ (a,b)=Z (decide (0<=a/\a<b)):=by
 refine bX ?_;unfold lZ ja aB;with_reducible repeat' first|(refine OS.ok ?_;constructor)|refine IM.mk λ_=>?_
 .by_cases h:a<b<;>simp[*,fI]
 .simp;omega
theorem VWc (w:WT):Ok (dv w) λb=>b=M↔J8 w:=by
 unfold dv kN aX bh bS cC bx bF aY cH aB ct;refine aW (λx=>x.2=w/\(x.1=M->¬VL w)/\(x.1=aa->w.1.length<=12/\w.2.1.length<=4/\w.2.2.1.length<=2/\w.2.2.2.1.length<=2/\w.2.2.2.2.2.length<=60)) ?_ ?_
 .refine aR (λg=>ai ⟨rfl,λ_ hv=>(by have:=hv.c;dsimp only[aj]at g;omega),λh=>(by cases h)⟩) λL=>aR (λg=>ai ⟨rfl,λ_ hv=>(by have:=hv.l;dsimp only[aj]at g;omega),λh=>(by cases h)⟩) λg2=>aR (λg=>ai ⟨rfl,λ_ hv=>(by have:=hv.d;dsimp only[aj]at g;omega),λh=>(by cases h)⟩) λg3=>aR (λg=>ai ⟨rfl,λ_ hv=>(by have:=hv.f;dsimp only[aj]at g;omega),λh=>(by cases h)⟩) λg4=>ai ⟨rfl,λg hv=>?_,λg=>?_⟩
  .have:=hv.s;dsimp only[aj]at g;rw[mm]at g;omega
  .dsimp only[aj]at g L g2 g3 g4;rw[fy]at g;omega
 rintro⟨b,x⟩ ⟨e,A,q⟩;dsimp only at e A q;subst e;refine aJ (λh=>ai ⟨λg=>(by cases g),λg=>(A h g.v).elim⟩) λh=>?_
 obtain⟨q1,q2,q3,q4,q5⟩:=q h;clear A q;refine aW (λy=>y.2=x/\(y.1=M->¬VL x)/\(y.1=aa->VL x)) ?_ ?_
 .refine aR (λg=>ai ⟨rfl,λ_ hv=>(by have:=hv.t0;dsimp only[aj]at g;omega),λh=>(by cases h)⟩) λL=>ai ⟨rfl,λg hv=>?_,λg=>?_⟩
  .have:=hv.t;dsimp only[aj]at g;rw[mm]at g;omega
  .dsimp only[aj]at g L;rw[fy]at g;constructor<;>omega
 rintro⟨b,y⟩ ⟨e,A,q⟩;dsimp only at e A q;subst e;refine aJ (λh=>ai ⟨λg=>(by cases g),λg=>(A h g.v).elim⟩) λh=>?_
 have hv:=q h;clear A q;refine ar (Ka _ q1) λz hz=>?_
 obtain⟨ns,zb⟩:=z;obtain⟨I,F⟩:=hz;dsimp only at I F;refine aW (λz=>z.2=y/\(z.1=M->¬J8 y)/\(z.1=aa->C6 y.1 0 ns/\(∀s∈sn y ns,tV s)/\(sn y ns).Nodup)) ?_ ?_
 .refine cQ (λh=>ai ⟨rfl,λ_ g=>?_,λh=>(by cases h)⟩) λh=>?_
  .obtain⟨ns',L,_⟩:=g.ns;exact F h ns' L
  .have hn:=I h;refine ar (J_ y hv ns (by have:=hn.len.2;omega)) λb hb=>ai ⟨rfl,λg g2=>?_,λg=>⟨hn,hb.1 ?_⟩⟩
   .have:=hb.2 (g2.names hn);rw[this]at g;cases g
   .cases b with
    |true=>rfl
    |false=>cases g
 rintro⟨b,z⟩ ⟨e,A,q⟩;dsimp only at e A q;subst e;refine aJ (λh=>ai ⟨λg=>(by cases g),λg=>(A h g).elim⟩) λh=>?_
 obtain⟨n1,n2,n3⟩:=q h;clear A q;have hsi:=J9 z hv;obtain⟨w1,w2,w3,w4,w5,w6⟩:=z;dsimp only at q1 q2 q3 q4 q5 n1;refine dY w3.length (by omega) (λi x=>x=((i:Int),(w1,w2,w3,w4,w5,w6))/\∀k:Nat,k<i->0<=(aH (T:=pI) w3 (k:Int)).2/\(aH (T:=pI) w3 (k:Int)).2<w2.length/\(aH (T:=xB) w2 (aH (T:=pI) w3 (k:Int)).2).2=aa) ?_ ?_ ⟨rfl,λk hk=>(by omega)⟩
 .rintro i x hi ⟨rfl,hq⟩;refine io (dV (aV ?_));have hmem:aH (T:=pI) w3 (i:Int)∈w3:=bH (T:=pI) (by omega) (by omega);have hVW:J8 (w1,w2,w3,w4,w5,w6)->0<=(aH (T:=pI) w3 (i:Int)).2/\(aH (T:=pI) w3 (i:Int)).2<w2.length/\(aH (T:=xB) w2 (aH (T:=pI) w3 (i:Int)).2).2=aa:=λg=>g.cd _ hmem
  have D:(0<=(aH (T:=pI) w3 (i:Int)).2/\(aH (T:=pI) w3 (i:Int)).2<w2.length/\(aH (T:=xB) w2 (aH (T:=pI) w3 (i:Int)).2).2=aa)->∀k:Nat,k<i+1->0<=(aH (T:=pI) w3 (k:Int)).2/\(aH (T:=pI) w3 (k:Int)).2<w2.length/\(aH (T:=xB) w2 (aH (T:=pI) w3 (k:Int)).2).2=aa:=λg k hk=>by
   rcases bM k i with h1|h1
   .exact hq k h1
   .rw[show k=i by omega];exact g
  clear hq;obtain⟨⟨c1,c2⟩,hc⟩:∃c:ζ×Int,aH (T:=pI) w3 (i:Int)=c:=⟨_,rfl⟩
  rw[hc]at hVW D ⊢;dsimp only at hVW D ⊢;refine ar (P:=λb=>b=M↔0<=c2/\c2<w2.length/\(aH (T:=xB) w2 c2).2=aa) ?_ λb hb=>?_
  .unfold oM bF aY aB;refine fw (aQ (aah _ _) (aF (λg=>?_) λg=>ai (ai ⟨λh=>(by cases h),λh=>(g ⟨h.1,h.2.1⟩).elim⟩)));dsimp only[aj]at g;refine aK g.1 g.2 (aV (ai (ai ?_)));dsimp only;obtain⟨⟨d1,d2⟩,hd⟩:∃d:ζ×Bool,aH (T:=xB) w2 c2=d:=⟨_,rfl⟩
   rw[hd];cases d2
   .exact⟨λ_=>⟨g.1,g.2,rfl⟩,λ_=>rfl⟩
   .exact⟨λh=>(by cases h),λh=>(by cases h.2.2)⟩
  .refine cQ (λh=>ai ⟨λg=>(by cases g),λg=>?_⟩) λh=>ai ⟨by rw[fk (by omega)],D (hb.1 h)⟩
   rw[hb.2 (hVW g)]at h;cases h
 rintro x ⟨rfl,hq⟩;have hcd:∀c∈w3,0<=c.2/\c.2<w2.length/\(aH (T:=xB) w2 c.2).2=aa:=ahw (T:=pI) hq;refine gS (ar (P:=λb=>b=M↔J8 (w1,w2,w3,w4,w5,w6)) ?_ λy hy=>ai hy);refine ar hsi λb hb=>ai ?_
 exact⟨λh=>⟨hv,⟨ns,n1,n2,n3⟩,hcd,hb.1 h⟩,λh=>hb.2 h.s⟩
abbrev sn8 (w:WT):SN:=(Kh w,ce0 w,fu0 w,aA w.2.2.2.2.1.length 0)
theorem ahh {α:Type} (xs:Y α) (i:Nat) (x:α):cJ xs (i:Int) x=xs.set i x:=by unfold cJ;simp
theorem aat {α:Type} {a b:α} {n i:Nat} (h:i<n):(aA i a++aA (n-i) b).set i a=aA (i+1) a++aA (n-(i+1)) b:=by
 rw[show n-i=(n-(i+1))+1 by omega,pJ];rw[List.set_append_right _ _ (by simp),cK,yT,List.set_cons_zero,C0];simp
theorem aau {T:Ty} {a b:T.den} {n i:Nat} (h:i<n):aH (T:=T) (aA i a++aA (n-i) b) (i:Int)=b:=by
 rw[Nk,ay,b8 (by simp),cK,yT,lz,aU (by omega)];rfl
theorem O1 (w:WT) (h:VL w):kz w=Z (Kh w):=by
 have h2:=h.l;have h4:=h.f;have z:=h.t;have s:=h.t0;have d:∀(n b:Nat),n<=4->b<=1024->(cL 0 (aT n)&&cL (aT n) (aT n)&&be (aP (aT n)) b)=M:=λn b hn hb=>by
  rw[oN.2 (show (0:Int)<=aT n from ep n),oN.2 (gN _),yY.2 ⟨by simp;omega,by simp only[aj,cV];exact cW (Nat.mul_le_mul (show n<=1073741824 by omega) hb) (by omega)⟩];rfl
 refine bX ?_;unfold kz rF aX bh bk bn cI cC ck bx bp aY cH aB ct;refine a8 (d _ _ h2 (by omega)) (a8 (d _ _ (by omega) (by omega)) (a8 (d _ _ z (by omega)) ?_));refine dY w.2.1.length (by omega) (λi x=>x=((i:Int),0,(-1:Int),aA i ((-1:Int),([]:η))++aA (w.2.1.length-i) (0,[]),aA w.2.2.2.1.length aa,aA w.2.2.2.2.1.length (0,0,aa))) ?_ ?_ (by simp)
 .rintro i x hi rfl;refine aR (λ_=>?_) λg=>(by simp only[aj,cK,cV]at g;omega)
  have hin:fm (i:Int) (ah (aA i (-1,([]:η))++aA (w.2.1.length-i) ((0:Int),([]:η))))=M:=M5.2 ⟨by omega,by simp;omega⟩;refine a8 hin (a8 hin (ai ?_));dsimp only;rw[aau (T:=s9) hi,fk (by omega),ahh,aat hi]
 .rintro x rfl;refine aR (λg=>(by simp only[aj,cK,cV]at g;omega)) λ_=>?_
  refine ar (P:=λy=>y=Kh w) (aW (λx=>x=(0,-1,aA w.2.1.length (-1,[]),aA w.2.2.2.1.length aa,thP w.2.2.2.2.1.length)) ?_ ?_) λy q=>ai q
  .refine aR (λ_=>?_) λg=>(by simp only[aj,cK]at g;omega)
   have hin:fm (0:Int) (ah (aA w.2.2.2.2.1.length ((0:Int),(0:Int),aa)))=M:=M5.2 ⟨by omega,by simp;omega⟩;refine a8 hin (a8 hin (ai ?_));dsimp only;rw[yT,List.replicate_zero,n_];obtain⟨n,hn⟩:∃n,w.2.2.2.2.1.length=n+1:=⟨w.2.2.2.2.1.length-1,by omega⟩
   rw[hn];rfl
  .rintro x rfl;exact ai rfl
theorem wS (w:WT) (h:VL w):eA w=Z (sn8 w):=by
 have h1:=h.c;have h4:=h.f;have q:=h.t;have d:∀(n b:Nat),n<=12->b<=1024->(cL 0 (aT n)&&cL (aT n) (aT n)&&be (aP (aT n)) b)=M:=λn b hn hb=>by
  rw[oN.2 (show (0:Int)<=aT n from ep n),oN.2 (gN _),yY.2 ⟨by simp;omega,by simp only[aj,cV];exact cW (Nat.mul_le_mul (show n<=1073741824 by omega) hb) (by omega)⟩];rfl
 refine bX ?_;unfold eA mo aX bh bk cI bx bp bF aY cH aB ct;refine aQ (O1 w h) (a8 ?_ (a8 (d _ _ (by omega) (by omega)) (a8 (d _ _ (by omega) (by omega)) ?_)))
 .rw[oN.2 (gN 0),oN.2 (show (0:Int)<=aT w.1.length from ep _),yY.2 ⟨by simp;omega,by simp;omega⟩];rfl
 refine dY w.1.length (by omega) (λi x=>x=((i:Int),0,Kh w,(w.1.take i).map (λc=>c.2.2.2.2),aA w.2.2.2.1.length 0,aA w.2.2.2.2.1.length 0)) ?_ ?_ (by simp)
 .rintro i x hi rfl;refine io (dV (aV (a_ (by simp;omega) (by omega) (ai ?_))));dsimp only;rw[fk (by omega),pN (T:=Ol) hi,c7];rfl
 .rintro x rfl;refine gS (ai ?_);dsimp only;rw[bQ];rfl
theorem Fy (w:WT) (s:SY) (q:w.2.2.1.length<=1000) (cd:∀c∈w.2.2.1,0<=c.2/\c.2<w.2.1.length) (e1:s.1.length=w.2.1.length) (e2:s.2.2.1.length=w.2.2.2.1.length) (e3:s.2.2.2.length=w.2.2.2.2.1.length):nB (w,s)=Z M:=by
 refine bX ?_;unfold nB aX bh bk cC bi bx bF aY cH aB ct;refine cf w.2.2.1.length (λi x=>x=((i:Int),w,s)) ?_ ?_ rfl
 .rintro i x hi rfl;have hc:=cd _ (bH (T:=pI) (xs:=w.2.2.1) (j:=(i:Int)) (by omega) (by omega));with_reducible repeat' first|(refine OS.ok ?_;constructor)|refine IM.mk λ_=>?_
  all_goals try simp only[aj,od] at*
  all_goals first|omega|skip
  rw[fk (by omega)]
 .rintro x rfl;refine gS (ar (P:=λb=>b=M) (aW (λx=>x=M) ?_ λx d=>ai d) λb hb=>ai hb);refine aF (λ_=>aF (λ_=>ai ?_) λg=>(g ?_).elim) λg=>(g ?_).elim
  .dsimp only[aj];rw[e3];simp
  .dsimp only[aj];omega
  .dsimp only[aj];omega
theorem Sm (w:WT) (k o:Int) (h:NM w k o):pd (w,k,o)=Z M:=by
 refine bX ?_;obtain⟨k1,k2,ce,lk,cn,th,fu,no,mu,rw_⟩:=h;unfold pd aX bh bk bS bi bF aY aB;rcases @xZ k with rfl|rfl|rfl|rfl|rfl|rfl|rfl|rfl|rfl|rfl|rfl|rfl|rfl|rfl|rfl|rfl|rfl|rfl|rfl|rfl|rfl|rfl|rfl|⟨hk,d⟩
 case inr.inr.inr.inr.inr.inr.inr.inr.inr.inr.inr.inr.inr.inr.inr.inr.inr.inr.inr.inr.inr.inr.inr=>omega
 all_goals simp only[aN,aS,kD,O_]
 all_goals with_reducible repeat' first|(refine OS.ok ?_;constructor)|refine IM.mk λ_=>?_
 all_goals try simp only[aj,od] at*
 all_goals first|omega|exact rw_ ⟨by decide,by decide⟩|(simp only[*,Bool.not_false,dH];done)
set_option maxHeartbeats 4000000 in
theorem Oj {n:Nat} (w:WT) (s:SY) (hs:SB n s) (hw:w.2.2.1.length<=1000) (t k o:Int) (he:EN w s t k o) (hr:Fw w s t k o):iu (w,s,t,k,o)=Z M:=by
 refine bX ?_;obtain⟨nm,t0,t1,cd,e1,e2,e3⟩:=id he;unfold iu aX bh bk bn cI cC bi iA bF aY aB;refine aW (λx=>x=(aa,w,s)) ?_ ?_
 .refine aQ (Fy w s hw cd e1 e2 e3) ?_;refine gD ?_;simp only[O_,RL];refine bW (λg=>(g ⟨t0,t1⟩).elim) λ_=>?_
  refine aQ (Sm w k o nm) (ai rfl)
 rintro x rfl;refine gD ?_;obtain⟨_,_,ce,lk,cn,th,fu,_,_,_⟩:=nm;have hm:16<=k/\k<=19->0<=(aH (T:=pI) w.2.2.1 o).2/\(aH (T:=pI) w.2.2.1 o).2<w.2.1.length:=λh=>cd _ (bH (cn h).1 (cn h).2)
 have hH:6<=k/\k<=11->oh ((aH (T:=s9) s.1 o).2,t)=Z ((aH (T:=s9) s.1 o).2.contains t):=λh=>JW _ _ (by
  have:=hs.rd _ (bH (T:=s9) (lk h).1 (by have:=(lk h).2;omega));have:=hs.n1;omega)
 rcases @xZ k with rfl|rfl|rfl|rfl|rfl|rfl|rfl|rfl|rfl|rfl|rfl|rfl|rfl|rfl|rfl|rfl|rfl|rfl|rfl|rfl|rfl|rfl|rfl|⟨hk,hk2⟩
 case inr.inr.inr.inr.inr.inr.inr.inr.inr.inr.inr.inr.inr.inr.inr.inr.inr.inr.inr.inr.inr.inr.inr=>omega
 all_goals simp only[aN,aS,kD]
 all_goals with_reducible repeat' first|(refine OS.ok ?_;constructor)|refine IM.mk λ_=>?_
 all_goals try simp only[hH (by omega),RL]
 all_goals with_reducible repeat' first|(refine OS.ok ?_;constructor)|refine IM.mk λ_=>?_
 all_goals try simp only[aj,od] at*
 all_goals first|omega|exact (hm ⟨by decide,by decide⟩).1|(rw [e1];exact (hm ⟨by decide,by decide⟩).2)|skip
 all_goals first|exact hr.b (by decide)|exact hr.aq (by decide)|exact hr.rl (by decide)|exact hr.rr (by decide)|(rw [hr.ra (by decide)];rfl)|(have:=hr.wr (by decide);omega)|exact hr.xb (by decide)|exact hr.xe (by decide)|(rw [hr.ab (by decide)];rfl)|exact hr.ae (by decide)|exact hr.nt (by decide)|exact (hr.sp (by decide)).2|exact (hr.jo (by decide)).2|(rw [hr.se (by decide)];rfl)|exact hr.ge (by decide)|exact (hr.wk (by decide)).2.2|(exfalso;first|(have:=hr.r (by decide) (by decide);contradiction)|(have:=hr.aq (by decide);contradiction)|(have:=(hr.wk (by decide)).1;contradiction)|(have:=(hr.wk (by decide)).2.1;contradiction)|(have:=(hr.sp (by decide)).1;contradiction)|(have:=(hr.jo (by decide)).1;contradiction))|skip
theorem Rv (w:WT) (s:SN) (q:w.2.2.1.length<=1000) (t k o:Int) (he:EN w s.1 t k o) (hf:Rw w s):qM (w,s)=Z M:=by
 refine bX ?_;unfold qM aX bh bk cI bi aY aB;refine aW (λx=>x=M) ?_ λx d=>ai d
 refine aQ (Fy w s.1 q he.cd he.e1 he.e2 he.e3) (pu ?_);have:=hf.c;have:=hf.f;have:=hf.k;refine aF (λ_=>aF (λ_=>ai ?_) λg=>(g ?_).elim) λg=>(g ?_).elim
 .dsimp only[aj];simp;omega
 .dsimp only[aj];omega
 .dsimp only[aj];omega
theorem Zy:∀{l:η},xG l->∀k:Nat,k+1<l.length->l.getD k 0<l.getD (k+1) 0
 |[],_,k,h=>by simp at h
 |[x],_,k,h=>by simp at h
 |x::y::r,h,0,_=>h.1 y (eo ..)
 |x::y::r,h,k+1,hk=>by have:=Zy h.2 k (by simpa using hk);simpa using this
theorem BJ (l:η) (c:Int) (hl:l.length<=1000000000) (h:AN c l):kf (l,c)=Z M:=by
 refine bX ?_;unfold kf bx ja bF aY cH aB ct;refine cf l.length (λi x=>x=(i:Int)) ?_ ?_ rfl
 .rintro i x hi rfl;have hm:=h.m _ (bH (T:=.int .i64) (xs:=l) (j:=(i:Int)) (by omega) (by omega));have q:0<(i:Int)->aZ .i64 ((i:Int)-1)=((i-1:Nat):Int):=λh=>by rw[gF (by omega) (by omega)];omega
  refine io (aW (λx=>x=aa) ?_ ?_)
  .refine dV (aV (aR (λg=>dP g (by dsimp only;omega)) λ_=>dV (aV (dT (λg=>dP g (by dsimp only;omega)) λ_=>aR (λg=>?_) λ_=>ai rfl))));have g:0<(i:Int):=g;refine dV (aV ?_);dsimp only;rw[q g];refine aK (by omega) (by omega) (aV (ai ?_));have d:=Zy h.a (i-1) (by omega);rw[show i-1+1=i by omega]at d;rw[DI,DI];exact kV.2 d
  rintro x rfl;exact gD (ai (fk (by omega)))
 .rintro x rfl;exact gS (ai rfl)
theorem RZ {n:Nat} (w:WT) (s:SN) (hs:NB n s) (hf:Rw w s) (e:ET) (he:EN w s.1 e.1 e.2.1 e.2.2.1) (hv:VA w s.1 s.2.1 s.2.2.1 e.1 e.2.1 e.2.2.1 e.2.2.2.1):o_ (s,e)=Z M:=by
 refine bX ?_;obtain⟨t,k,o,v,si,de,fr⟩:=e;obtain⟨s1,s2,s3,s4⟩:=s;obtain⟨nm,t0,t1,cd,e1,e2,e3⟩:=he;obtain⟨_,_,ce,lk,cn,th,fu,_,_,_⟩:=nm;obtain⟨f1,f2,f3⟩:=hf;obtain⟨v3,d,v5,vel⟩:=hv;have hth:=hs.sb.th;dsimp only at*
 unfold o_ aX bh bk bS bn bi bx ja bF aY aB;have hW:=JK s1 o hth;have hWl:=pM s1.2.2.2 o s1.2.2.2.length;refine aF (λh=>?_) λn3=>?_
 .have h:k=3:=h;obtain⟨L,I⟩:=ce (.inl h);exact aK L (by rw[f1];exact I) (aV (ai (bc (v3 h))))
 refine aF (λh=>?_) λz=>?_
 .have h:k=23:=h;obtain⟨L,I⟩:=fu (.inr h);exact aK L (by rw[f2];exact I) (aV (ai (bc (d h))))
 refine aF (λh=>?_) λn5=>?_
 .have h:k=5:=h;exact fw (aF (λh2=>ai (ai rfl)) λh2=>ai (ai (bc ((v5 h).resolve_left h2))))
 refine aW (λx=>x.2=((s1,s2,s3,s4),t,k,o,v,si,de,fr)/\(x.1=aa->¬k=4/\¬k=22)) (aF (λh=>ai ⟨rfl,λg=>dP g (by dsimp only;rw[bc h];decide)⟩) λh=>ai ⟨rfl,λg=>⟨h,jy g⟩⟩) ?_;rintro⟨b,x⟩ ⟨e,hb⟩;dsimp only at e hb;subst e;refine aJ (λh=>ai rfl) λh=>?_
 obtain⟨n4,A⟩:=hb h;have val:=vel n3 z n5 n4 A;refine aF (λh=>?_) λF=>?_
 .have h:k=18:=h;subst h;rw[JF]at val;have hmem:¬(wl s1.2.2.2 o s1.2.2.2.length).length=0->0<=v/\v<s1.2.2.2.length/\(wl s1.2.2.2 o s1.2.2.2.length).contains v=M:=λg=>by
   rw[aL g]at val;dsimp only at val;unfold C4 at val;rw[aL g]at val;by_cases c:(wl s1.2.2.2 o s1.2.2.2.length).contains v=M
   .have:=(xJ (th:=s1.2.2.2) (c:=o)).1 (by simpa using c:v∈wl s1.2.2.2 o s1.2.2.2.length);exact⟨this.1,this.2.1,c⟩
   .exfalso;rw[aL c]at val;refine c ?_;rw[val];have hz:wl s1.2.2.2 o s1.2.2.2.length≠[]:=λq=>g (by rw[q];rfl)
    generalize wl s1.2.2.2 o s1.2.2.2.length=y at hz ⊢;cases y with
    |nil=>exact (hz rfl).elim
    |cons a r=>rw[show aH (T:=.int .i64) (a::r) 0=a from rfl];simp
  refine aQ hW ?_;refine aF (λg=>ai ?_) λg=>?_
  .dsimp only[aj]at g;rw[aU (by omega)]at val;exact bc val
  .dsimp only[aj]at g;obtain⟨q0,q1,q2⟩:=hmem (by omega);refine fw (dT (λ_=>aR (λ_=>?_) λq=>dP q (by dsimp only[aj];omega)) λq=>dP q (by dsimp only;omega));exact aQ (JW _ _ (by omega)) (ai (ai q2))
 refine aF (λh=>?_) λD=>?_
 .have h:k=19:=h;subst h;exact aQ hW (ai (bc (by rw[Uf]at val;exact val)))
 .rw[Vq _ _ _ _ _ _ F D]at val;exact ai (bc val)
theorem JX {l:Y ET} {e:ET} {t y:Int}:Bg (l++[e]) t y->Bg l t y\/(e.1=t/\sJ e=M/\y=((fl l t).length:Int)):=by
 rintro⟨h0,h1⟩;rw[ym,ay]at h1;rcases bM y.toNat (fl l t).length with g|g
 .refine .inl ⟨h0,?_⟩;rw[bT g]at h1;rw[ay];exact h1
 .rw[b8 g]at h1;by_cases he:e.1=t
  .rw[DN he]at h1;have d:y.toNat-(fl l t).length=0:=by
    rcases rj (y.toNat-(fl l t).length) with q|q
    .exact q
    .rw[bJ (by rw[cP];omega)]at h1;cases h1
   rw[d]at h1;exact .inr ⟨he,by simpa using h1,by omega⟩
  .rw[yl he]at h1;simp at h1
theorem Hi (l:Y ET) (i t:Int) (ns:η) (hl:l.length<=1000000000) (hi:0<=i/\i<=l.length) (hn:ns.length<=1000000000) (h:∀y∈ns,Bg (l.take i.toNat) t y):mL (l,i,t,ns)=Z M:=by
 refine bX ?_;unfold mL aX bn bi bx iA bF aY cH aB ct;refine cf ns.length (λk x=>x=(k:Int)) ?_ ?_ rfl
 .rintro k x hk rfl;have D:=h _ (bH (T:=.int .i64) (xs:=ns) (j:=(k:Int)) (by omega) (by omega));refine aR (λs=>?_) λs=>(by dsimp only[aj]at s;omega)
  refine ml (λx=>(i-x.2.2).toNat) (λx=>0<=x.2.2/\x.2.2<=i/\x.1=((fl (l.take x.2.2.toNat) t).length:Int)/\(Bg (l.take x.2.2.toNat) t (aH (T:=.int .i64) ns (k:Int))->x.2.1=M)) ?_ ⟨by simp,hi.1,by simp[fl],λq=>by have:=q.2;simp[fl]at this⟩;rintro⟨a,b,(c:Int)⟩ ⟨A,L,F,hb⟩;dsimp only at A L F hb;subst F;obtain⟨c,rfl⟩:∃n:Nat,c=(n:Int):=⟨c.toNat,by omega⟩
  rw[cV]at hb;dsimp only;rw[cV];have hfl:=B' (l.take c) t;have htl:=gk c l;refine aR (λd=>?_) λd=>?_
  .have d:(c:Int)<i:=d;have htk:l.take (c+1)=l.take c++[aH (T:=tE) l (c:Int)]:=pN (T:=tE) (by omega);refine aW (λy=>y.1=((fl (l.take (c+1)) t).length:Int)/\(Bg (l.take (c+1)) t (aH (T:=.int .i64) ns (k:Int))->y.2=M)) ?_ ?_
   .rw[htk,ym];refine aK A (by first|omega|(dsimp only;omega)) (aV ?_);refine bW (λhne=>ai ⟨by rw[yl hne];simp,λq=>(JX q).elim hb λz=>(hne z.1).elim⟩) λhe=>?_
    have he:(aH (T:=tE) l (c:Int)).1=t:=he;refine aW (λy=>Bg (l.take c++[aH (T:=tE) l (c:Int)]) t (aH (T:=.int .i64) ns (k:Int))->y=M) ?_ λy D=>ai ⟨?_,D⟩
    .refine aJ (λq=>ai λ_=>rfl) λhbf=>?_
     have nb:¬Bg (l.take c) t (aH (T:=.int .i64) ns (k:Int)):=λq=>by have:=hb q;rw[this]at hbf;cases hbf
     refine aK (by omega) (by first|omega|(dsimp only;omega)) (aV ?_);refine aF (λ_=>?_) λhnn=>ai λq=>((JX q).elim (λz=>(nb z).elim) λz=>(hnn z.2.2.symm).elim)
     refine aK A (by first|omega|(dsimp only;omega)) (aV ?_);refine aF (λ_=>ai λ_=>rfl) λI=>?_
     refine aK A (by first|omega|(dsimp only;omega)) (aV (ai λq=>?_));rcases JX q with z|⟨_,z,_⟩
     .exact (nb z).elim
     .unfold sJ at z;rw[bD I,Bool.false_or]at z;exact z
    .dsimp only;rw[DN he,fk (by omega)];simp
   .rintro⟨p,q⟩ ⟨hp,hq⟩;refine ai ?_;dsimp only at hp hq ⊢;rw[fk (by omega),cV];exact⟨⟨by omega,by omega,hp,hq⟩,by omega⟩
  .have d:i<=(c:Int):=d;have hci:c=i.toNat:=by omega
   rw[hci]at hb;refine ar (P:=λr=>r=nk (((k+1:Nat):Int))) ?_ λr hr=>by subst hr;exact ai rfl
   refine cQ (λq=>?_) λ_=>ai (by rw[fk (by omega)])
   have:=hb D;rw[this]at q;cases q
 .rintro x rfl;refine aR (λs=>(by dsimp only[aj]at s;omega)) λ_=>ai rfl
theorem Rk {n:Nat} (w:WT) (s:SN) (hs:NB n s) (hw:w.2.2.1.length<=1000) (e:ET) (hcb:(aH (T:=.int .i64) s.2.2.2 e.1:Int)<=1000000) (hF:Rw w s) (L:EN w s.1 e.1 e.2.1 e.2.2.1) (z:XR w s e):Ok (ny (w,s,e)) λy=>y.2=M:=by
 have hd:e.2.2.2.2.2.1.length<=1000000000:=by
  have h3:(e.2.2.2.2.2.1.length:Int)<=max (0:Int) (aH (T:=.int .i64) s.2.2.2 e.1):=z.nd.len;have:=eS h3 (wW.2 ⟨by decide,hcb⟩);omega
 have hf:e.2.2.2.2.2.2.length<=1000000000:=by
  have h3:(e.2.2.2.2.2.2.length:Int)<=max (0:Int) (aH (T:=.int .i64) s.2.2.2 e.1):=z.nf.len;have:=eS h3 (wW.2 ⟨by decide,hcb⟩);omega
 have hEn:=Oj w s.1 hs.sb hw e.1 e.2.1 e.2.2.1 L z.rd;obtain⟨nm,t0,t1,cd,e1,e2,e3⟩:=id L;obtain⟨k1,k2,ce,lk,cn,th,fu,_,_,_⟩:=nm;obtain⟨f1,f2,f3⟩:=id hF;unfold ny aX bh bk bS da bn cI cC dI gG ck bi bx iA bp bF kF aY cH aB ct;refine aW (λx=>x=(aa,w,s,e,0)) ?_ ?_
 .refine aQ (Rv w s hw _ _ _ L hF) (gD ?_);simp only[abg,RL];refine bW (λg=>(g ⟨t0,t1⟩).elim) λ_=>aR (λg=>dP g (Int.not_lt.2 k1)) λ_=>aR (λg=>dP g (Int.not_lt.2 k2)) λ_=>aQ hEn (ai rfl)
 rintro x rfl;refine gD (aW (λx=>x=(w,s,e,0)) ?_ ?_)
 .refine aW (λx=>x.2=(w,s,e,0)/\(x.1=M->e.2.1=1\/e.2.1=2)/\(x.1=aa->¬(e.2.1=1\/e.2.1=2))) ?_ ?_
  .refine aF (λh=>ai ⟨rfl,λ_=>.inl h,λh=>(by cases h)⟩) λh=>ai ⟨rfl,λh2=>.inr (ba h2),λh2=>?_⟩
   have:=jy h2;exact λh3=>h3.elim h this
  rintro⟨x1,x2⟩ ⟨d,F,D⟩;dsimp only at d F D;subst d;refine aJ (λhk=>?_) λhk=>?_
  .exact bW (λg=>(g (z.s1 (F hk))).elim) λ_=>ai rfl
  .obtain⟨q1,q2,q3⟩:=z.s2 (D hk);refine aW (λx=>x=(aa,w,s,e,0)) ?_ ?_
   .simp only[abg,RL];refine bW (λg=>(g ⟨q1,q2⟩).elim) λ_=>aK q1 q2 (aV (ai ?_))
    dsimp only;rw[q3];simp
   rintro x rfl;exact gD (ai rfl)
 rintro x rfl;refine aW (λx=>x.2=(w,s,e,0)/\(x.1=M->e.2.1=3\/e.2.1=4)/\(x.1=aa->¬(e.2.1=3\/e.2.1=4))) ?_ ?_
 .refine aF (λh=>ai ⟨rfl,λ_=>.inl h,λh=>(by cases h)⟩) λh=>ai ⟨rfl,λh2=>.inr (ba h2),λh2=>?_⟩
  have:=jy h2;exact λh3=>h3.elim h this
 rintro⟨x1,x2⟩ ⟨d,A,I⟩;dsimp only at d A I;subst d;refine aW (λx=>x=(aa,w,s,e,0)) ?_ ?_
 .refine aR (λg=>bW (λn5=>?_) λ_=>ai rfl) λ_=>ai rfl
  have de:=(z.de (by dsimp only[aj]at g;omega)).resolve_left n5;refine aJ (λh=>?_) λh=>(I h de.1).elim
  refine aK (ce (A h)).1 (ce (A h)).2 (aV (ai ?_));have:=de.2;dsimp only;simp[this]
 rintro x rfl;refine gD (aW (λx=>x=(aa,w,s,e,0)) ?_ ?_)
 .refine aR (λg=>bW (λn4=>ai ?_) λ_=>ai rfl) λ_=>ai rfl
  have fr:=(z.fr (by dsimp only[aj]at g;omega)).resolve_left n4;dsimp only;simp[fr]
 rintro x rfl;have hk:=hs.k;have hc:=hs.c;have hfu:=hs.f;refine gD (aW (λx=>x=(aa,w,s,e,0)) ?_ ?_)
 .refine aK t0 (by rw[f3];exact t1) (aV (aQ (BJ _ _ hd z.nd) (gD ?_)));refine aK t0 (by rw[f3];exact t1) (aV (aQ (BJ _ _ hf z.nf) (gD ?_)));exact aQ (RZ w s hs hF e L z.va) (ai rfl)
 rintro x rfl;refine gD (a_ (by simp;omega) (by omega) (a_ (by simp;omega) (by omega) (a_ (by simp;omega) (by omega) ?_)));refine aW (λx=>x.2=(w,s,e,0,0,s.2.1,s.2.2.1,s.2.2.2)) ?_ ?_
 .exact aF (λ_=>ai rfl) λh=>ai rfl
 rintro⟨x1,x2⟩ d;dsimp only at d;subst d;refine ar (J1 w s.1 hs.sb hw e.1 e.2.1 e.2.2.1 x1) λy hy=>?_
 refine aW (λx=>x.1=e/\x.2.2.2.1.length=s.2.1.length/\x.2.2.2.2=(s.2.2.1,s.2.2.2)) ?_ ?_
 .refine aF (λh=>?_) λh=>ai ⟨rfl,rfl,rfl⟩
  have q:=ce (.inr h);refine aK q.1 (by dsimp only;omega) (aK q.1 (by dsimp only;omega) (ai ⟨rfl,?_,rfl⟩));dsimp only;rw[cM]
 rintro⟨x1,x2,x3,x4,x5,x6⟩ ⟨h1,h2,h4⟩;simp only[aC]at h1 h4;obtain⟨rfl,rfl⟩:=h4;subst h1;refine aW (λx=>x.1=x1/\x.2.2.2.2.2=s.2.2.2) ?_ ?_
 .refine aF (λh=>?_) λh=>ai ⟨rfl,rfl⟩
  have q:=fu (.inl h);exact aK q.1 (by dsimp only;omega) (aK q.1 (by dsimp only;omega) (ai ⟨rfl,rfl⟩))
 rintro⟨x1,x2,x3,x4,x5,x6⟩ ⟨h1,h6⟩;simp only at h1 h6;subst h1;subst h6;with_reducible repeat' first|(refine OS.ok ?_;constructor)|refine IM.mk λ_=>?_
 all_goals try simp only[aj,od] at*
 all_goals first|omega|skip
theorem W1 (r:θ) (e:ET) (h1:∀y∈e.2.2.2.2.2.1,0<=y/\r.getD y.toNat aa=M) (h2:∀y∈e.2.2.2.2.2.2,0<=y/\r.getD y.toNat aa=M) (ld:e.2.2.2.2.2.1.length<=1000000) (d:e.2.2.2.2.2.2.length<=1000000):bR (r,e)=Z M:=by
 refine bX ?_;unfold bR iE da gG bx ja bp bF aY cH aB ct;refine dY 2 (by omega) (λi x=>x=(i:Int)) ?_ ?_ rfl
 .rintro i x hi rfl;refine aR (λ_=>?_) λg=>(by omega)
  refine cR (du (by omega) (rx (by omega) (aV ?_)));have hr:∃l:η,aH (T:=.sl (.int .i64)) [e.2.2.2.2.2.1,e.2.2.2.2.2.2] (i:Int)=l/\(∀y∈l,0<=y/\r.getD y.toNat aa=M)/\l.length<=1000000:=by
   match i,hi with
   |0,_=>exact⟨_,rfl,h1,ld⟩
   |1,_=>exact⟨_,rfl,h2,d⟩
  obtain⟨l,q,hA,hl⟩:=hr;have er':aH (T:=.sl aM) [e.2.2.2.2.2.1,e.2.2.2.2.2.2] (i:Int)=l:=q;dsimp only at er' ⊢;rw[er'];refine dY l.length (by omega) (λj x=>x=(j:Int)) ?_ ?_ rfl
  .rintro j x hj rfl;refine io ?_;have m:=hA _ (bH (T:=.int .i64) (xs:=l) (j:=(j:Int)) (by omega) (by omega));refine dV (aV (aW (λx=>x=aa) ?_ ?_))
   .revert m;generalize aH (T:=.int .i64) l (j:Int)=z;intro m;have s:z.toNat<r.length:=by
     rcases bM z.toNat r.length with g|g
     .exact g
     .have:=m.2;rw[ay,bJ g]at this;cases this
    refine aR (λg=>(by have:=m.1;omega)) λ_=>dT (λg=>(by have:=m.1;dsimp only[aj]at g;omega)) λ_=>aK m.1 (by have:=m.1;omega) (aV (ai ?_))
    have:aH (T:=.bool) r z=M:=m.2;show (!aH (T:=.bool) r z)=aa;rw[this];rfl
   rintro x rfl;exact gD (ai (fk (by omega)))
  .rintro x rfl;exact gS (ai (fk (by omega)))
 .rintro x rfl;exact aR (λg=>(by omega)) λ_=>ai rfl
abbrev eN (l:Y ET) (i:Nat):ET:=aH (T:=tE) l (i:Int)
theorem IB {l:Y ET} {i:Nat} (h:i<l.length):eN l i∈l:=bH (T:=tE) (by omega) (by omega)
theorem af0 {l:Y ET} {e:ET} {i:Nat} (h:i<l.length):eN (l++[e]) i=eN l i:=by
 unfold eN;rw[Nk,Nk,ay,ay,bT h]
theorem abw (l:Y ET) (e:ET):eN (l++[e]) l.length=e:=by
 unfold eN;rw[Nk,ay,b8 (cB _),yT];rfl
def acS (w:WT) (l:Y ET):SY×η×η:=l.foldl (λs e=>((vO w s.1 e.1 e.2.1 e.2.2.1 e.2.2.2.1).1,Zn s.2.1 e,fuP s.2.2 e)) (Kh w,ce0 w,fu0 w)
theorem G8.all {w:WT} {l:Y ET} {sy:SY} {ce fu:η} (h:G8 w l sy ce fu):acS w l=(sy,ce,fu)/\∀i,i<l.length->RO w (l.take i) (acS w (l.take i)).1 (acS w (l.take i)).2.1 (acS w (l.take i)).2.2 (eN l i):=by
 induction h with
 |nil=>exact⟨rfl,λi hi=>dP hi (vW _)⟩
 |snoc h hs d=>
  rename_i l sy ce fu e;obtain⟨h1,h2⟩:=d;refine ⟨by unfold acS at h1 ⊢;rw[jR,h1];rfl,λi hi=>?_⟩;rw[bY,cP]at hi;rcases bM i l.length with g|g
  .rw[k_ (by omega),af0 g];exact h2 i g
  .have:i=l.length:=by omega
   subst this;rw[k_ (cB _),bQ,abw,h1];exact hs
def Q8 (r:η):Prop:=xG r/\∀z∈r,0<=z/\z<4
def P8 (s:Y (Int×η)):Prop:=∀x∈s,Q8 x.2
theorem P8.get {s:Y (Int×η)} (h:P8 s) (o:Int):Q8 (aH (T:=s9) s o).2:=by
 unfold aH;rw[ay];cases e:s[o.toNat]? with
 |none=>exact⟨trivial,λz d=>by cases d⟩
 |some x=>exact h x (bg e)
theorem P8.set {s:Y (Int×η)} (h:P8 s) (o a:Int) {r:η} (hr:Q8 r):P8 (cJ s o (a,r)):=λx d=>by
 rcases Bv d with d|rfl
 .exact h x d
 .exact hr
theorem Bc (p:Int->Bool):∀{l:η},xG l->xG (l.filter p)
 |[],_=>trivial
 |x::r,h=>by
  rw[List.filter_cons];split
  .exact⟨λy d=>h.1 y ((Ej.1 d).1),Bc p h.2⟩
  .exact Bc p h.2
theorem P8.ite {c:Prop} [Decidable c] {a b:SY×Int} (d:P8 a.1.1) (hb:P8 b.1.1):P8 (if c then a else b).1.1:=by by_cases h:c<;>simp[h,d,hb]
theorem P8.ap {w:WT} {s:SY} (h:P8 s.1) {t:Int} (k o v:Int) (t0:0<=t) (A:t<4):P8 (vO w s t k o v).1.1:=by
 have ow:∀a b,P8 (owP s.1 a b):=λa b=>h.set a b (h.get a)
 have un:P8 (rdP s.1 o (qA (aH (T:=s9) s.1 o).2 [t])):=h.set _ _ ⟨Ow _ _,λz d=>by
  rcases Ov.1 d with d|d
  .exact (h.get o).2 z d
  .rw[aI]at d;subst d;exact⟨t0,A⟩⟩
 have q:P8 (rdP s.1 o (wo (aH (T:=s9) s.1 o).2 t)):=h.set _ _ ⟨Bc _ (h.get o).1,λz d=>(h.get o).2 z (Ej.1 d).1⟩;unfold vO;exact P8.ite h (P8.ite h (P8.ite (ow _ _) (P8.ite (ow _ _) (P8.ite un (P8.ite q (P8.ite h (P8.ite h (P8.ite h (P8.ite h (P8.ite (ow _ _) (P8.ite (ow _ _) (P8.ite (P8.ite h h) (P8.ite h (P8.ite h (P8.ite h h)))))))))))))))
def fU (w:WT) (l:Y ET):SN:=l.foldl (RM w) (sn8 w)
theorem Lu (w:WT) (l:Y ET) (e:ET):fU w (l++[e])=RM w (fU w l) e:=by unfold fU;rw[jR];rfl
structure KGs (w:WT) (l:List ET) (sy:SY) (ce fu:η) (s:SN):Prop where
 a:s.1=sy/\s.2.1=ce/\s.2.2.1=fu
 r:P8 s.1.1
 lk:s.1.1.length=w.2.1.length
 d:s.1.2.2.1.length=w.2.2.2.1.length
 h:s.1.2.2.2.length=w.2.2.2.2.1.length
 c:s.2.1.length=w.1.length
 f:s.2.2.1.length=w.2.2.2.1.length
 k:s.2.2.2.length=w.2.2.2.2.1.length
 n:CN l s.2.2.2
theorem ZA (w:WT) (s:SY) (t k o v:Int):(vO w s t k o v).1.1.length=s.1.length/\(vO w s t k o v).1.2.2.1.length=s.2.2.1.length/\(vO w s t k o v).1.2.2.2.length=s.2.2.2.length:=by
 have st:∀(th:Y (Int×Int×Bool)) (a b:Int),(Kc th a b).length=th.length:=λth a b=>by unfold Kc;exact cM _ _ _
 have d:∀(l:η) (th:Y (Int×Int×Bool)),(Om th l).length=th.length:=by
  intro l;induction l with
  |nil=>intro th;rfl
  |cons x r q=>intro th;show (Om (Kc th x 4) r).length=_;rw[q,st]
 have ite:∀{c:Prop} [Decidable c] {a b:SY×Int},(a.1.1.length=s.1.length/\a.1.2.2.1.length=s.2.2.1.length/\a.1.2.2.2.length=s.2.2.2.length)->(b.1.1.length=s.1.length/\b.1.2.2.1.length=s.2.2.1.length/\b.1.2.2.2.length=s.2.2.2.length)->((if c then a else b).1.1.length=s.1.length/\(if c then a else b).1.2.2.1.length=s.2.2.1.length/\(if c then a else b).1.2.2.2.length=s.2.2.2.length):=λ{c} _ {a b} z hb=>by by_cases h:c<;>simp only[h,bE,dq]<;>assumption
 unfold vO;repeat (first|refine ite ?_ ?_|(refine ⟨?_,?_,?_⟩<;>simp only[st,d,owP,rdP,cdP,atP,cM]))
theorem G8.kg {w:WT} (vl:VL w):∀{l:Y ET} {sy:SY} {ce fu:η},G8 w l sy ce fu->l.length<=400->KGs w l sy ce fu (fU w l):=by
 intro l sy ce fu h;induction h with
 |nil=>
  intro _;have tl:(Kh w).2.2.2.length=w.2.2.2.2.1.length:=MJ _;refine ⟨⟨rfl,rfl,rfl⟩,λx s=>?_,by simp[fU,Kh],by simp[fU,Kh],tl,by simp[fU,ce0],by simp[fU,fu0],by simp[fU],λt t0 t1=>?_⟩
  .rw[List.eq_of_mem_replicate s];exact⟨trivial,λz q=>by cases q⟩
  .have:(aA w.2.2.2.2.1.length (0:Int)).getD t.toNat 0=0:=by rw[ay,lz];split<;>rfl
   exact this
 |@snoc l sy ce fu e h hs d=>
  intro hl;rw[bY]at hl;obtain⟨⟨a1,a2,a3⟩,r,q1,q2,q3,c,f,k,n⟩:=d (by omega);have ht:=vl.t;have en:=hs.en;have e1:=en.t1;obtain⟨b1,D,A⟩:=ZA w (fU w l).1 e.1 e.2.1 e.2.2.1 e.2.2.2.1;rw[Lu];refine ⟨⟨by unfold RM;rw[a1],by unfold RM;rw[a2],by unfold RM;rw[a3]⟩,r.ap _ _ _ en.t0 (by omega),b1.trans q1,D.trans q2,A.trans q3,?_,?_,?_,?_⟩
  .unfold RM Zn;dsimp only;split
   .rw[cM];exact c
   .exact c
  .unfold RM fuP;dsimp only;split
   .rw[cM];exact f
   .exact f
  .unfold RM;rw[cM];exact k
  .exact n.next e en.t0 (by rw[k];exact e1) (by omega)
theorem KGs.nb {w:WT} {l:Y ET} {sy:SY} {ce fu:η} {s:SN} (h:KGs w l sy ce fu s) (vl:VL w):NB 4 s:=by
 obtain⟨_,r,q1,q2,q3,c,f,k,_⟩:=h;have:=vl.c;have:=vl.l;have:=vl.f;have:=vl.t;refine ⟨⟨by omega,by omega,λx d=>?_,by omega,by omega⟩,by omega,by omega,by omega⟩;have:=G4 x.2 0 4 (r x d).1 (r x d).2;omega
theorem KGs.f16 {w:WT} {l:Y ET} {sy:SY} {ce fu:η} {s:SN} (h:KGs w l sy ce fu s):Rw w s:=⟨h.c,h.f,h.k⟩
theorem KGs.cb {w:WT} {l:Y ET} {sy:SY} {ce fu:η} {s:SN} (h:KGs w l sy ce fu s) (hl:l.length<=400) (t:Int):(aH (T:=.int .i64) s.2.2.2 t:Int)<=1000:=eS (h.n.bd t) (by omega)
theorem RO.s16 {w:WT} {l:Y ET} {sy:SY} {ce fu:η} {s:SN} {e:ET} (g:KGs w l sy ce fu s) (h:RO w l sy ce fu e):XR w s e:=by
 obtain⟨⟨a1,a2,a3⟩,_,_,_,_,_,_,k,n⟩:=g;have d:=n e.1 h.en.t0 (by rw[k];exact h.en.t1);exact⟨by rw[a1];exact h.rd,h.s1,h.s2,h.de,h.fr,by rw[d];exact h.nd,by rw[d];exact h.nf,by rw[a1,a2,a3];exact h.va⟩
theorem XR.scx {w:WT} {l:Y ET} {sy:SY} {ce fu:η} {s:SN} {e:ET} (g:KGs w l sy ce fu s) (en:EN w s.1 e.1 e.2.1 e.2.2.1) (h:XR w s e) (r1:∀y∈e.2.2.2.2.2.1,Bg l e.1 y) (r2:∀y∈e.2.2.2.2.2.2,Bg l e.1 y):RO w l sy ce fu e:=by
 obtain⟨⟨a1,a2,a3⟩,_,_,_,_,_,_,k,n⟩:=g;have d:=n e.1 en.t0 (by rw[k];exact en.t1);exact⟨by rw[<- a1];exact en,by rw[<- a1];exact h.rd,h.s1,h.s2,h.de,h.fr,by rw[<- d];exact h.nd,by rw[<- d];exact h.nf,r1,r2,by rw[<- a1,<-a2,<-a3];exact h.va⟩
structure uE (y:WT×List ET):Prop where
 vw:J8 y.1
 len:y.2.length<=400
 ac:∃sy ce fu,G8 y.1 y.2 sy ce fu
theorem uE.vl {y:WT×Y ET} (h:uE y):VL y.1:=h.vw.v
theorem uE.wb {y:WT×Y ET} (h:uE y):WB y.1:=h.vw.v.wb
theorem uE.sc {w:WT} {l:Y ET} (d:uE (w,l)) {i:Nat} (h:i<l.length):RO w (l.take i) (acS w (l.take i)).1 (acS w (l.take i)).2.1 (acS w (l.take i)).2.2 (eN l i):=by
 obtain⟨sy,ce,fu,q⟩:=d.ac;exact q.all.2 i h
theorem Yz {l:Y ET} {e:ET} (h:e∈l):∃i,i<l.length/\eN l i=e:=by
 obtain⟨i,hi,he⟩:=uV h;refine ⟨i,hi,?_⟩;show aH (T:=tE) l (i:Int)=e;rw[Nk,ay,aw hi];exact he
theorem uE.ev {y:WT×Y ET} (h:uE y):∀e∈y.2,EvF y.1 e:=λe he=>by
 obtain⟨w,l⟩:=y;obtain⟨i,hi,rfl⟩:=Yz he;have en:=(h.sc hi).en;exact⟨en.nm,en.t0,en.t1,en.cd⟩
theorem uE.ls {y:WT×Y ET} (h:uE y):∀e∈y.2,Uv e:=λe he=>by
 obtain⟨w,l⟩:=y;obtain⟨i,hi,rfl⟩:=Yz he;have sc:=h.sc hi;have hl:l.length<=400:=h.len;have h1:=sc.nd.len;have h2:=sc.nf.len;have h3:=B' (l.take i) (eN l i).1;have h4:=gk i l;dsimp only at hi ⊢;exact⟨by omega,by omega⟩
theorem G8.det {w:WT} {l:Y ET} {sy:SY} {ce fu:η} (h:G8 w l sy ce fu) {i:Nat} (hi:i<l.length) {sy':SY} {ce' fu':η} (h':G8 w (l.take i) sy' ce' fu'):RO w (l.take i) sy' ce' fu' (eN l i):=by
 have h1:=h.all.2 i hi;rw[h'.all.1]at h1;exact h1
theorem uE.no {w:WT} {l:Y ET} {i:Nat} (hi:i<l.length) {sy:SY} {ce fu:η} (d:G8 w (l.take i) sy ce fu) (h:¬RO w (l.take i) sy ce fu (eN l i)):¬uE (w,l):=λg=>by
 obtain⟨_,_,_,g⟩:=g.ac;exact h (g.det hi d)
abbrev fN (l:Y ET) (i:Nat) (t:Int):θ:=fl (l.take i) t
theorem Nq {l:Y ET} {i:Nat} (h:i<l.length) {t:Int} (e:(eN l i).1=t):fN l (i+1) t=fN l i t++[sJ (eN l i)]:=by
 unfold fN;rw[pN (T:=tE) h,ym,DN e]
theorem Nr {l:Y ET} {i:Nat} (h:i<l.length) {t:Int} (e:¬(eN l i).1=t):fN l (i+1) t=fN l i t:=by
 unfold fN;rw[pN (T:=tE) h,ym,yl e,n_]
theorem Ns (l:Y ET) (i:Nat) (t:Int):(fN l i t).length<=l.length:=cW (B' _ _) (List.length_take_le' ..)
theorem Lt (w:WT) {l:Y ET} {i:Nat} (h:i<l.length):fU w (l.take (i+1))=RM w (fU w (l.take i)) (eN l i):=by
 rw[pN (T:=tE) h];exact Lu w _ _
theorem G8.take {w:WT} {l:Y ET} {i:Nat} (hi:i<l.length) {sy:SY} {ce fu:η} (d:G8 w (l.take i) sy ce fu) (hs:RO w (l.take i) sy ce fu (eN l i)):∃sy ce fu,G8 w (l.take (i+1)) sy ce fu:=by
 rw[pN (T:=tE) hi];exact⟨_,_,_,d.snoc hs⟩
theorem UG {w:WT} {l:Y ET} (vl:VL w) (hl:l.length<=400) {i:Nat} (hi:i<l.length) {sy:SY} {ce fu:η} (q:G8 w (l.take i) sy ce fu) (hs:RO w (l.take i) sy ce fu (eN l i)):dR (w,fU w (l.take i),eN l i)=Z (fU w (l.take (i+1)),M)/\∀t:Int,(eN l i).1=t->bR (fN l i t,eN l i)=Z M:=by
 have htk:=gk i l;have g:=q.kg vl (by omega);have ht:=vl.t;have e1:=hs.en.t1;have h2:=vl.l;have h3:=vl.d;have h4:=g.lk;refine ⟨?_,λt e=>?_⟩
 .rw[Lt w hi];exact ZM w _ _ (g.nb vl) (by omega) (by omega) g.f16 (by rw[g.a.1];exact hs.en) (hs.s16 g) (g.cb (by omega) _) (by omega) g.r (by omega)
 .subst e;have A:=hs.nd.len;have z:=hs.nf.len;have s:=B' (l.take i) (eN l i).1;exact W1 _ _ hs.rd1 hs.rd2 (by omega) (by omega)
theorem UH {w:WT} {l:Y ET} (vl:VL w) (hl:l.length<=400) {i:Nat} (hi:i<l.length) {sy:SY} {ce fu:η} (D:G8 w (l.take i) sy ce fu) (hs:¬RO w (l.take i) sy ce fu (eN l i)):Ok (dR (w,fU w (l.take i),eN l i)) λy=>y.2=M->(0<=(eN l i).1/\(eN l i).1<w.2.2.2.2.1.length)/\∀t:Int,(eN l i).1=t->Ok (bR (fN l i t,eN l i)) λb=>b=aa:=by
 have htk:=gk i l;have g:=D.kg vl (by omega);have h2:=vl.l;have h3:=vl.d;have h4:=g.lk;refine (ZN w _ _ (g.nb vl) (by omega) (by omega) (g.cb (by omega) _) (by omega) g.r vl.t).mono λy A h=>?_
 obtain⟨⟨F,q,s⟩,_⟩:=A h;refine ⟨⟨q.t0,q.t1⟩,λt e=>?_⟩;subst e;have z:=g.n (eN l i).1 q.t0 (by rw[g.k];exact q.t1);have h5:((eN l i).2.2.2.2.2.1.length:Int)<=max (0:Int) ((fl (l.take i) (eN l i).1).length:Int):=by have:=s.nd.len;rw[z]at this;exact this
 have L:((eN l i).2.2.2.2.2.2.length:Int)<=max (0:Int) ((fl (l.take i) (eN l i).1).length:Int):=by have:=s.nf.len;rw[z]at this;exact this
 have I:=B' (l.take i) (eN l i).1;refine (VQ _ _ (by omega) (by omega)).mono λb hb=>?_
 cases b with
 |false=>rfl
 |true=>
  obtain⟨r1,r2⟩:=hb rfl;exact (hs (s.scx g q r1 r2)).elim
theorem tU {w:WT} (h:J8 w):dv w=Z M:=by
 obtain⟨b,hb,hq⟩:=VWc w;rw[hb,hq.2 h]
theorem aa0 {w:WT} {l:Y ET} (vw:J8 w) (hl:l.length<=400) (hn:w.2.2.2.2.1.length=4):Ok (cS (w,l)) λy=>y.2=0↔uE (w,l):=by
 have vl:=vw.v;unfold cS gp aX bh bk bS da ip bn dI gG nl bi bx bp bF aY cH aB ct;refine jz (fy.2 (by dsimp only[aj];omega)) (aQ (tU vw) (gD (aQ (wS w vl) (a8 (by show (cL 0 (aT w.2.2.2.2.1.length)&&cL (aT w.2.2.2.2.1.length) (aT w.2.2.2.2.1.length)&&be (aP (aT w.2.2.2.2.1.length)) 24&&decide ((aT w.2.2.2.2.1.length:Int)=4))=M;rw[hn];rfl) ?_))));refine dY l.length (by omega) (λi x=>x=((i:Int),(w,l),fU w (l.take i),fN l i 0,fN l i 1,fN l i 2,fN l i 3)/\∃sy ce fu,G8 w (l.take i) sy ce fu) ?_ ?_ ⟨rfl,_,_,_,.nil⟩
 .rintro i x hi ⟨rfl,sy,ce,fu,d⟩;have q:=λt=>Ns l i t
  have own:=λt=>Nq hi (t:=t)
  have oth:=λt=>Nr hi (t:=t)
  refine aR (λ_=>?_) λg=>(by dsimp only[aj]at g;omega)
  refine aK (by dsimp only;omega) (by dsimp only;omega) (aV ?_);have hg:aH (T:=tE) l (i:Int)=eN l i:=rfl;dsimp only;rw[hg];by_cases hs:RO w (l.take i) sy ce fu (eN l i)
  .obtain⟨st,rd⟩:=UG vl hl hi d hs;have hnx:=d.take hi hs;have e1:=hs.en.t1;have e0:=hs.en.t0;have ht:(eN l i).1=0\/(eN l i).1=1\/(eN l i).1=2\/(eN l i).1=3:=by omega
   clear hs hg;generalize eN l i=e at*
   refine aQ st ?_;obtain⟨(t:Int),e⟩:=e;dsimp only at ht;rcases ht with rfl|rfl|rfl|rfl
   .refine aW (λx=>x=(aa,(w,l),fU w (l.take i),(0,e),fU w (l.take (i+1)),fN l i 0,fN l i 1,fN l i 2,fN l i 3)) ?_ ?_
    .simp only[aN,aS,kD];exact aQ (rd 0 rfl) (ai rfl)
    rintro x rfl;refine gD (aW (λx=>x=((w,l),fU w (l.take i),fU w (l.take (i+1)),fN l (i+1) 0,fN l (i+1) 1,fN l (i+1) 2,fN l (i+1) 3)) ?_ ?_)
    .simp only[aN,aS,kD];rw[own 0 rfl,oth 1 (by show ¬(0:Int)=1;decide),oth 2 (by show ¬(0:Int)=2;decide),oth 3 (by show ¬(0:Int)=3;decide)];have:=q 0;refine aF (λh=>a_ (by simp;omega) (by omega) (ai ?_)) λh=>a_ (by simp;omega) (by omega) (ai ?_)
     .have:sJ (0,e)=M:=by unfold sJ;rw[bc h];rfl
      rw[this]
     .have:sJ (0,e)=decide (e.1=23):=by unfold sJ;rw[bD h];rfl
      rw[this]
    rintro x rfl;exact ai ⟨by rw[fk (by omega)],hnx⟩
   .refine aW (λx=>x=(aa,(w,l),fU w (l.take i),(1,e),fU w (l.take (i+1)),fN l i 0,fN l i 1,fN l i 2,fN l i 3)) ?_ ?_
    .simp only[aN,aS,kD];exact aQ (rd 1 rfl) (ai rfl)
    rintro x rfl;refine gD (aW (λx=>x=((w,l),fU w (l.take i),fU w (l.take (i+1)),fN l (i+1) 0,fN l (i+1) 1,fN l (i+1) 2,fN l (i+1) 3)) ?_ ?_)
    .simp only[aN,aS,kD];rw[own 1 rfl,oth 0 (by show ¬(1:Int)=0;decide),oth 2 (by show ¬(1:Int)=2;decide),oth 3 (by show ¬(1:Int)=3;decide)];have:=q 1;refine aF (λh=>a_ (by simp;omega) (by omega) (ai ?_)) λh=>a_ (by simp;omega) (by omega) (ai ?_)
     .have:sJ (1,e)=M:=by unfold sJ;rw[bc h];rfl
      rw[this]
     .have:sJ (1,e)=decide (e.1=23):=by unfold sJ;rw[bD h];rfl
      rw[this]
    rintro x rfl;exact ai ⟨by rw[fk (by omega)],hnx⟩
   .refine aW (λx=>x=(aa,(w,l),fU w (l.take i),(2,e),fU w (l.take (i+1)),fN l i 0,fN l i 1,fN l i 2,fN l i 3)) ?_ ?_
    .simp only[aN,aS,kD];exact aQ (rd 2 rfl) (ai rfl)
    rintro x rfl;refine gD (aW (λx=>x=((w,l),fU w (l.take i),fU w (l.take (i+1)),fN l (i+1) 0,fN l (i+1) 1,fN l (i+1) 2,fN l (i+1) 3)) ?_ ?_)
    .simp only[aN,aS,kD];rw[own 2 rfl,oth 0 (by show ¬(2:Int)=0;decide),oth 1 (by show ¬(2:Int)=1;decide),oth 3 (by show ¬(2:Int)=3;decide)];have:=q 2;refine aF (λh=>a_ (by simp;omega) (by omega) (ai ?_)) λh=>a_ (by simp;omega) (by omega) (ai ?_)
     .have:sJ (2,e)=M:=by unfold sJ;rw[bc h];rfl
      rw[this]
     .have:sJ (2,e)=decide (e.1=23):=by unfold sJ;rw[bD h];rfl
      rw[this]
    rintro x rfl;exact ai ⟨by rw[fk (by omega)],hnx⟩
   .refine aW (λx=>x=(aa,(w,l),fU w (l.take i),(3,e),fU w (l.take (i+1)),fN l i 0,fN l i 1,fN l i 2,fN l i 3)) ?_ ?_
    .simp only[aN,aS,kD];exact aQ (rd 3 rfl) (ai rfl)
    rintro x rfl;refine gD (aW (λx=>x=((w,l),fU w (l.take i),fU w (l.take (i+1)),fN l (i+1) 0,fN l (i+1) 1,fN l (i+1) 2,fN l (i+1) 3)) ?_ ?_)
    .simp only[aN,aS,kD];rw[own 3 rfl,oth 0 (by show ¬(3:Int)=0;decide),oth 1 (by show ¬(3:Int)=1;decide),oth 2 (by show ¬(3:Int)=2;decide)];have:=q 3;refine aF (λh=>a_ (by simp;omega) (by omega) (ai ?_)) λh=>a_ (by simp;omega) (by omega) (ai ?_)
     .have:sJ (3,e)=M:=by unfold sJ;rw[bc h];rfl
      rw[this]
     .have:sJ (3,e)=decide (e.1=23):=by unfold sJ;rw[bD h];rfl
      rw[this]
    rintro x rfl;exact ai ⟨by rw[fk (by omega)],hnx⟩
  .have hno:=uE.no hi d hs;have hst:=UH vl hl hi d hs;clear hs hg own oth;generalize eN l i=e at*
   refine ar hst λy s=>?_
   refine aW (λx=>x.1=M) ?_ ?_
   .refine aJ (λh=>?_) λ_=>ai rfl
    obtain⟨⟨e0,e1⟩,rd⟩:=s h;obtain⟨(t:Int),e⟩:=e;dsimp only at e0 e1;have ht:t=0\/t=1\/t=2\/t=3:=by omega
    rcases ht with rfl|rfl|rfl|rfl
    .simp only[aN,aS,kD];exact ar (rd 0 rfl) λb hb=>ai (by subst hb;rfl)
    .simp only[aN,aS,kD];exact ar (rd 1 rfl) λb hb=>ai (by subst hb;rfl)
    .simp only[aN,aS,kD];exact ar (rd 2 rfl) λb hb=>ai (by subst hb;rfl)
    .simp only[aN,aS,kD];exact ar (rd 3 rfl) λb hb=>ai (by subst hb;rfl)
   rintro⟨b,x⟩ hb;dsimp only at hb;subst hb;exact pu (ai ⟨λh=>(by cases h),λh=>(hno h).elim⟩)
 .rintro x ⟨rfl,d⟩;rw[bQ]at d;exact aR (λg=>(by dsimp only[aj]at g;omega)) λ_=>ai ⟨λ_=>⟨vw,hl,d⟩,λ_=>rfl⟩
theorem Eh {w:WT} {l:Y ET} (vw:J8 w) (hl:l.length<=400) (hn:¬w.2.2.2.2.1.length=4):cS (w,l)=U:=by
 unfold cS gp aX bh bk bS da ip bn dI gG nl bi bx bp bF aY cH aB ct;rw[show fI 400 (aT (ah (w,l).2))=aa from fy.2 (by dsimp only[aj];omega)];simp only[aN,aS,kD];rw[tU vw];simp only[aN,aS,kD];rw[wS w vw.v];simp only[aN,aS,kD];rw[show decide ((aT w.2.2.2.2.1.length:Int)=4)=aa from bD (by dsimp only[aj];omega),tZ];rfl
theorem aa1 {w:WT} {l:Y ET} (vw:J8 w) (hl:l.length<=400) (hn:w.2.2.2.2.1.length=3):Ok (dE (w,l)) λy=>y.2=0↔uE (w,l):=by
 have vl:=vw.v;unfold dE jJ aX bh bk bS da bn cC dI gG bi bx bp bF aY cH aB ct;refine jz (fy.2 (by dsimp only[aj];omega)) (aQ (tU vw) (gD (aQ (wS w vl) (a8 (by show (cL 0 (aT w.2.2.2.2.1.length)&&cL (aT w.2.2.2.2.1.length) (aT w.2.2.2.2.1.length)&&be (aP (aT w.2.2.2.2.1.length)) 24&&decide ((aT w.2.2.2.2.1.length:Int)=3))=M;rw[hn];rfl) ?_))));refine dY l.length (by omega) (λi x=>x=((i:Int),(w,l),fU w (l.take i),fN l i 0,fN l i 1,fN l i 2)/\∃sy ce fu,G8 w (l.take i) sy ce fu) ?_ ?_ ⟨rfl,_,_,_,.nil⟩
 .rintro i x hi ⟨rfl,sy,ce,fu,d⟩;have q:=λt=>Ns l i t
  have own:=λt=>Nq hi (t:=t)
  have oth:=λt=>Nr hi (t:=t)
  refine aR (λ_=>?_) λg=>(by dsimp only[aj]at g;omega)
  refine aK (by dsimp only;omega) (by dsimp only;omega) (aV ?_);have hg:aH (T:=tE) l (i:Int)=eN l i:=rfl;dsimp only;rw[hg];by_cases hs:RO w (l.take i) sy ce fu (eN l i)
  .obtain⟨st,rd⟩:=UG vl hl hi d hs;have hnx:=d.take hi hs;have e1:=hs.en.t1;have e0:=hs.en.t0;have ht:(eN l i).1=0\/(eN l i).1=1\/(eN l i).1=2:=by omega
   clear hs hg;generalize eN l i=e at*
   refine aQ st ?_;obtain⟨(t:Int),e⟩:=e;dsimp only at ht;rcases ht with rfl|rfl|rfl
   .refine aW (λx=>x=(aa,(w,l),fU w (l.take i),(0,e),fU w (l.take (i+1)),fN l i 0,fN l i 1,fN l i 2)) ?_ ?_
    .simp only[aN,aS,kD];exact aQ (rd 0 rfl) (ai rfl)
    rintro x rfl;refine gD (aW (λx=>x=((w,l),fU w (l.take i),fU w (l.take (i+1)),fN l (i+1) 0,fN l (i+1) 1,fN l (i+1) 2)) ?_ ?_)
    .simp only[aN,aS,kD];rw[own 0 rfl,oth 1 (by show ¬(0:Int)=1;decide),oth 2 (by show ¬(0:Int)=2;decide)];have:=q 0;refine aF (λh=>a_ (by simp;omega) (by omega) (ai ?_)) λh=>a_ (by simp;omega) (by omega) (ai ?_)
     .have:sJ (0,e)=M:=by unfold sJ;rw[bc h];rfl
      rw[this]
     .have:sJ (0,e)=decide (e.1=23):=by unfold sJ;rw[bD h];rfl
      rw[this]
    rintro x rfl;exact ai ⟨by rw[fk (by omega)],hnx⟩
   .refine aW (λx=>x=(aa,(w,l),fU w (l.take i),(1,e),fU w (l.take (i+1)),fN l i 0,fN l i 1,fN l i 2)) ?_ ?_
    .simp only[aN,aS,kD];exact aQ (rd 1 rfl) (ai rfl)
    rintro x rfl;refine gD (aW (λx=>x=((w,l),fU w (l.take i),fU w (l.take (i+1)),fN l (i+1) 0,fN l (i+1) 1,fN l (i+1) 2)) ?_ ?_)
    .simp only[aN,aS,kD];rw[own 1 rfl,oth 0 (by show ¬(1:Int)=0;decide),oth 2 (by show ¬(1:Int)=2;decide)];have:=q 1;refine aF (λh=>a_ (by simp;omega) (by omega) (ai ?_)) λh=>a_ (by simp;omega) (by omega) (ai ?_)
     .have:sJ (1,e)=M:=by unfold sJ;rw[bc h];rfl
      rw[this]
     .have:sJ (1,e)=decide (e.1=23):=by unfold sJ;rw[bD h];rfl
      rw[this]
    rintro x rfl;exact ai ⟨by rw[fk (by omega)],hnx⟩
   .refine aW (λx=>x=(aa,(w,l),fU w (l.take i),(2,e),fU w (l.take (i+1)),fN l i 0,fN l i 1,fN l i 2)) ?_ ?_
    .simp only[aN,aS,kD];exact aQ (rd 2 rfl) (ai rfl)
    rintro x rfl;refine gD (aW (λx=>x=((w,l),fU w (l.take i),fU w (l.take (i+1)),fN l (i+1) 0,fN l (i+1) 1,fN l (i+1) 2)) ?_ ?_)
    .simp only[aN,aS,kD];rw[own 2 rfl,oth 0 (by show ¬(2:Int)=0;decide),oth 1 (by show ¬(2:Int)=1;decide)];have:=q 2;refine aF (λh=>a_ (by simp;omega) (by omega) (ai ?_)) λh=>a_ (by simp;omega) (by omega) (ai ?_)
     .have:sJ (2,e)=M:=by unfold sJ;rw[bc h];rfl
      rw[this]
     .have:sJ (2,e)=decide (e.1=23):=by unfold sJ;rw[bD h];rfl
      rw[this]
    rintro x rfl;exact ai ⟨by rw[fk (by omega)],hnx⟩
  .have hno:=uE.no hi d hs;have hst:=UH vl hl hi d hs;clear hs hg own oth;generalize eN l i=e at*
   refine ar hst λy s=>?_
   refine aW (λx=>x.1=M) ?_ ?_
   .refine aJ (λh=>?_) λ_=>ai rfl
    obtain⟨⟨e0,e1⟩,rd⟩:=s h;obtain⟨(t:Int),e⟩:=e;dsimp only at e0 e1;have ht:t=0\/t=1\/t=2:=by omega
    rcases ht with rfl|rfl|rfl
    .simp only[aN,aS,kD];exact ar (rd 0 rfl) λb hb=>ai (by subst hb;rfl)
    .simp only[aN,aS,kD];exact ar (rd 1 rfl) λb hb=>ai (by subst hb;rfl)
    .simp only[aN,aS,kD];exact ar (rd 2 rfl) λb hb=>ai (by subst hb;rfl)
   rintro⟨b,x⟩ hb;dsimp only at hb;subst hb;exact pu (ai ⟨λh=>(by cases h),λh=>(hno h).elim⟩)
 .rintro x ⟨rfl,d⟩;rw[bQ]at d;exact aR (λg=>(by dsimp only[aj]at g;omega)) λ_=>ai ⟨λ_=>⟨vw,hl,d⟩,λ_=>rfl⟩
theorem MB {w:WT} {l:Y ET} (vw:J8 w) (hl:l.length<=400) (hn:¬w.2.2.2.2.1.length=3):dE (w,l)=U:=by
 unfold dE jJ aX bh bk bS da bn cC dI gG bi bx bp bF aY cH aB ct;rw[show fI 400 (aT (ah (w,l).2))=aa from fy.2 (by dsimp only[aj];omega)];simp only[aN,aS,kD];rw[tU vw];simp only[aN,aS,kD];rw[wS w vw.v];simp only[aN,aS,kD];rw[show decide ((aT w.2.2.2.2.1.length:Int)=3)=aa from bD (by dsimp only[aj];omega),tZ];rfl
theorem aa2 {w:WT} {l:Y ET} (vw:J8 w) (hl:l.length<=400) (hn:w.2.2.2.2.1.length=2):Ok (dj (w,l)) λy=>y.2=0↔uE (w,l):=by
 have vl:=vw.v;unfold dj jK aX bh bk bS bn cI dI bi bx bp bF aY cH aB ct;refine jz (fy.2 (by dsimp only[aj];omega)) (aQ (tU vw) (gD (aQ (wS w vl) (a8 (by show (cL 0 (aT w.2.2.2.2.1.length)&&cL (aT w.2.2.2.2.1.length) (aT w.2.2.2.2.1.length)&&be (aP (aT w.2.2.2.2.1.length)) 24&&decide ((aT w.2.2.2.2.1.length:Int)=2))=M;rw[hn];rfl) ?_))));refine dY l.length (by omega) (λi x=>x=((i:Int),(w,l),fU w (l.take i),fN l i 0,fN l i 1)/\∃sy ce fu,G8 w (l.take i) sy ce fu) ?_ ?_ ⟨rfl,_,_,_,.nil⟩
 .rintro i x hi ⟨rfl,sy,ce,fu,d⟩;have q:=λt=>Ns l i t
  have own:=λt=>Nq hi (t:=t)
  have oth:=λt=>Nr hi (t:=t)
  refine aR (λ_=>?_) λg=>(by dsimp only[aj]at g;omega)
  refine aK (by dsimp only;omega) (by dsimp only;omega) (aV ?_);have hg:aH (T:=tE) l (i:Int)=eN l i:=rfl;dsimp only;rw[hg];by_cases hs:RO w (l.take i) sy ce fu (eN l i)
  .obtain⟨st,rd⟩:=UG vl hl hi d hs;have hnx:=d.take hi hs;have e1:=hs.en.t1;have e0:=hs.en.t0;have ht:(eN l i).1=0\/(eN l i).1=1:=by omega
   clear hs hg;generalize eN l i=e at*
   refine aQ st ?_;obtain⟨(t:Int),e⟩:=e;dsimp only at ht;rcases ht with rfl|rfl
   .refine aW (λx=>x=(aa,(w,l),fU w (l.take i),(0,e),fU w (l.take (i+1)),fN l i 0,fN l i 1)) ?_ ?_
    .simp only[aN,aS,kD];exact aQ (rd 0 rfl) (ai rfl)
    rintro x rfl;refine gD (aW (λx=>x=((w,l),fU w (l.take i),fU w (l.take (i+1)),fN l (i+1) 0,fN l (i+1) 1)) ?_ ?_)
    .simp only[aN,aS,kD];rw[own 0 rfl,oth 1 (by show ¬(0:Int)=1;decide)];have:=q 0;refine aF (λh=>a_ (by simp;omega) (by omega) (ai ?_)) λh=>a_ (by simp;omega) (by omega) (ai ?_)
     .have:sJ (0,e)=M:=by unfold sJ;rw[bc h];rfl
      rw[this]
     .have:sJ (0,e)=decide (e.1=23):=by unfold sJ;rw[bD h];rfl
      rw[this]
    rintro x rfl;exact ai ⟨by rw[fk (by omega)],hnx⟩
   .refine aW (λx=>x=(aa,(w,l),fU w (l.take i),(1,e),fU w (l.take (i+1)),fN l i 0,fN l i 1)) ?_ ?_
    .simp only[aN,aS,kD];exact aQ (rd 1 rfl) (ai rfl)
    rintro x rfl;refine gD (aW (λx=>x=((w,l),fU w (l.take i),fU w (l.take (i+1)),fN l (i+1) 0,fN l (i+1) 1)) ?_ ?_)
    .simp only[aN,aS,kD];rw[own 1 rfl,oth 0 (by show ¬(1:Int)=0;decide)];have:=q 1;refine aF (λh=>a_ (by simp;omega) (by omega) (ai ?_)) λh=>a_ (by simp;omega) (by omega) (ai ?_)
     .have:sJ (1,e)=M:=by unfold sJ;rw[bc h];rfl
      rw[this]
     .have:sJ (1,e)=decide (e.1=23):=by unfold sJ;rw[bD h];rfl
      rw[this]
    rintro x rfl;exact ai ⟨by rw[fk (by omega)],hnx⟩
  .have hno:=uE.no hi d hs;have hst:=UH vl hl hi d hs;clear hs hg own oth;generalize eN l i=e at*
   refine ar hst λy s=>?_
   refine aW (λx=>x.1=M) ?_ ?_
   .refine aJ (λh=>?_) λ_=>ai rfl
    obtain⟨⟨e0,e1⟩,rd⟩:=s h;obtain⟨(t:Int),e⟩:=e;dsimp only at e0 e1;have ht:t=0\/t=1:=by omega
    rcases ht with rfl|rfl
    .simp only[aN,aS,kD];exact ar (rd 0 rfl) λb hb=>ai (by subst hb;rfl)
    .simp only[aN,aS,kD];exact ar (rd 1 rfl) λb hb=>ai (by subst hb;rfl)
   rintro⟨b,x⟩ hb;dsimp only at hb;subst hb;exact pu (ai ⟨λh=>(by cases h),λh=>(hno h).elim⟩)
 .rintro x ⟨rfl,d⟩;rw[bQ]at d;exact aR (λg=>(by dsimp only[aj]at g;omega)) λ_=>ai ⟨λ_=>⟨vw,hl,d⟩,λ_=>rfl⟩
theorem XF {w:WT} {l:Y ET} (vw:J8 w) (hl:l.length<=400) (hn:¬w.2.2.2.2.1.length=2):dj (w,l)=U:=by
 unfold dj jK aX bh bk bS bn cI dI bi bx bp bF aY cH aB ct;rw[show fI 400 (aT (ah (w,l).2))=aa from fy.2 (by dsimp only[aj];omega)];simp only[aN,aS,kD];rw[tU vw];simp only[aN,aS,kD];rw[wS w vw.v];simp only[aN,aS,kD];rw[show decide ((aT w.2.2.2.2.1.length:Int)=2)=aa from bD (by dsimp only[aj];omega),tZ];rfl
theorem aa3 {w:WT} {l:Y ET} (vw:J8 w) (hl:l.length<=400) (hn:w.2.2.2.2.1.length=1):Ok (dX (w,l)) λy=>y.2=0↔uE (w,l):=by
 have vl:=vw.v;unfold dX lK aX bh bk bn cC bi bx bp bF aY cH aB ct;refine jz (fy.2 (by dsimp only[aj];omega)) (aQ (tU vw) (gD (aQ (wS w vl) (a8 (by show (cL 0 (aT w.2.2.2.2.1.length)&&cL (aT w.2.2.2.2.1.length) (aT w.2.2.2.2.1.length)&&be (aP (aT w.2.2.2.2.1.length)) 24&&decide ((aT w.2.2.2.2.1.length:Int)=1))=M;rw[hn];rfl) ?_))));refine dY l.length (by omega) (λi x=>x=((i:Int),(w,l),fU w (l.take i),fN l i 0)/\∃sy ce fu,G8 w (l.take i) sy ce fu) ?_ ?_ ⟨rfl,_,_,_,.nil⟩
 .rintro i x hi ⟨rfl,sy,ce,fu,d⟩;have s:=λt=>Ns l i t
  have own:=λt=>Nq hi (t:=t)
  have oth:=λt=>Nr hi (t:=t)
  refine aR (λ_=>?_) λg=>(by dsimp only[aj]at g;omega)
  refine aK (by dsimp only;omega) (by dsimp only;omega) (aV ?_);have hg:aH (T:=tE) l (i:Int)=eN l i:=rfl;dsimp only;rw[hg];by_cases hs:RO w (l.take i) sy ce fu (eN l i)
  .obtain⟨st,rd⟩:=UG vl hl hi d hs;have hnx:=d.take hi hs;have e1:=hs.en.t1;have e0:=hs.en.t0;have ht:(eN l i).1=0:=by omega
   clear hs hg;generalize eN l i=e at*
   refine aQ st ?_;obtain⟨(t:Int),e⟩:=e;dsimp only at ht;subst ht
   .refine aW (λx=>x=(aa,(w,l),fU w (l.take i),(0,e),fU w (l.take (i+1)),fN l i 0)) ?_ ?_
    .simp only[aN,aS,kD];exact aQ (rd 0 rfl) (ai rfl)
    rintro x rfl;refine gD (aW (λx=>x=((w,l),fU w (l.take i),fU w (l.take (i+1)),fN l (i+1) 0)) ?_ ?_)
    .simp only[aN,aS,kD];rw[own 0 rfl];have:=s 0;refine aF (λh=>a_ (by simp;omega) (by omega) (ai ?_)) λh=>a_ (by simp;omega) (by omega) (ai ?_)
     .have:sJ (0,e)=M:=by unfold sJ;rw[bc h];rfl
      rw[this]
     .have:sJ (0,e)=decide (e.1=23):=by unfold sJ;rw[bD h];rfl
      rw[this]
    rintro x rfl;exact ai ⟨by rw[fk (by omega)],hnx⟩
  .have hno:=uE.no hi d hs;have hst:=UH vl hl hi d hs;clear hs hg own oth;generalize eN l i=e at*
   refine ar hst λy q=>?_
   refine aW (λx=>x.1=M) ?_ ?_
   .refine aJ (λh=>?_) λ_=>ai rfl
    obtain⟨⟨e0,e1⟩,rd⟩:=q h;obtain⟨(t:Int),e⟩:=e;dsimp only at e0 e1;have ht:t=0:=by omega
    subst ht
    .simp only[aN,aS,kD];exact ar (rd 0 rfl) λb hb=>ai (by subst hb;rfl)
   rintro⟨b,x⟩ hb;dsimp only at hb;subst hb;exact pu (ai ⟨λh=>(by cases h),λh=>(hno h).elim⟩)
 .rintro x ⟨rfl,d⟩;rw[bQ]at d;exact aR (λg=>(by dsimp only[aj]at g;omega)) λ_=>ai ⟨λ_=>⟨vw,hl,d⟩,λ_=>rfl⟩
theorem aa4 (w:WT) (l:Y ET):Ok (kc (w,l)) λy=>y.2=0↔uE (w,l):=by
 unfold kc;by_cases hl:l.length<=400
 .by_cases vw:J8 w
  .have h1:=vw.v.t0;have h4:=vw.v.t;have:w.2.2.2.2.1.length=4\/w.2.2.2.2.1.length=3\/w.2.2.2.2.1.length=2\/w.2.2.2.2.1.length=1:=by omega
   rcases this with h|h|h|h
   .obtain⟨y,e,hq⟩:=aa0 vw hl h;rw[e];exact ai hq
   .obtain⟨y,e,hq⟩:=aa1 vw hl h;rw[Eh vw hl (by omega),e];exact ai hq
   .obtain⟨y,e,hq⟩:=aa2 vw hl h;rw[Eh vw hl (by omega),MB vw hl (by omega),e];exact ai hq
   .obtain⟨y,e,hq⟩:=aa3 vw hl h;rw[Eh vw hl (by omega),MB vw hl (by omega),XF vw hl (by omega),e];exact ai hq
  .have:cS (w,l)=Z (0,1):=by
    obtain⟨b,hb,hq⟩:=VWc w;have d:b=aa:=by
     cases b with
     |false=>rfl
     |true=>exact (vw (hq.1 rfl)).elim
    refine bX ?_;unfold cS gp aX bh bk bS da ip bn dI gG nl bi bx bp bF aY cH aB ct;exact jz (fy.2 (by dsimp only[aj];omega)) (aQ hb (by rw[d];exact pu (ai rfl)))
   rw[this];exact ai ⟨λh=>(by cases h),λh=>(vw h.vw).elim⟩
 .have:cS (w,l)=Z (0,2):=by
   refine bX ?_;unfold cS gp aX bh bk bS da ip bn dI gG nl bi bx bp bF aY cH aB ct;exact eL (mm.2 (by dsimp only[aj];omega)) (ai rfl)
  rw[this];exact ai ⟨λh=>(by cases h),λh=>(hl h.len).elim⟩
theorem ah4 {w:WT} {l:Y ET} (d:uE (w,l)):∃a,kc (w,l)=Z (a,0):=by
 obtain⟨⟨a,b⟩,e,hq⟩:=aa4 w l;have:b=0:=hq.2 d;subst this;exact⟨a,e⟩
theorem aa5 (w:WT) (l:Y ET):Ok (mN (w,l)) λy=>y.2=0↔uE (w,l):=by
 unfold mN bS bn dI bx bF aY cH aB ct;refine aR (λhl=>ai ⟨λh=>(by cases h),λh=>?_⟩) λhl=>?_
 .have:=h.len;dsimp only[aj]at hl this;omega
 dsimp only[aj]at hl;have hl:l.length<=400:=by omega
 refine ar (VW06 w) λb hb=>?_
 refine cQ (λh=>ai ⟨λh=>(by cases h),λg=>?_⟩) λh=>?_
 .rw[hb.2 g.vw]at h;cases h
 have vw:=hb.1 h;have vl:=vw.v;have h3:=vl.d;refine aQ (Be w vl) ?_;refine cf l.length (λi x=>x=((i:Int),(w,l),fU w (l.take i))/\∃sy ce fu,G8 w (l.take i) sy ce fu) ?_ ?_ ⟨rfl,_,_,_,.nil⟩
 .rintro i x hi ⟨rfl,sy,ce,fu,s⟩;have htk:=gk i l;have g:=s.kg vl (by omega);have cb:=g.cb (by omega) (eN l i).1;refine aR (λ_=>?_) λg=>(by dsimp only[aj]at g;omega)
  refine aK (by dsimp only;omega) (by dsimp only;omega) (aV ?_);have hg:aH (T:=tE) l (i:Int)=eN l i:=rfl;dsimp only;rw[hg];have hst:=zp w (fU w (l.take i)) (g.nb vl) (by omega) (eN l i) (.inr (eS cb (by decide))) (.inr (eS cb (by decide)));by_cases hs:RO w (l.take i) sy ce fu (eN l i)
  .have hE:EN w (fU w (l.take i)).1 (eN l i).1 (eN l i).2.1 (eN l i).2.2.1:=by rw[g.a.1];exact hs.en
   have ht:=Rk w (fU w (l.take i)) (g.nb vl) (by omega) (eN l i) (eS cb (by decide)) g.f16 hE (hs.s16 g);have hnx:=s.take hi hs;have h5:=hs.nd.len;have h6:=hs.nf.len;have h7:=B' (l.take i) (eN l i).1;have r1:=Hi l (i:Int) (eN l i).1 (eN l i).2.2.2.2.2.1 (by omega) ⟨by omega,by omega⟩ (by omega) hs.rd1;have r2:=Hi l (i:Int) (eN l i).1 (eN l i).2.2.2.2.2.2 (by omega) ⟨by omega,by omega⟩ (by omega) hs.rd2;refine ar (hst.and ht) λy F=>?_
   obtain⟨I,A⟩:=F;have e:=(I.1 A).2.2.2;refine aW (λx=>x.1=aa/\x.2.1=(w,l)/\x.2.2.2=y.1) ?_ ?_
   .exact jz (by rw[A];rfl) (aQ r1 (gD (aQ r2 (ai ⟨rfl,rfl,rfl⟩))))
   .rintro⟨c,p,q,r⟩ ⟨f1,f2,f3⟩;dsimp only at f1 f2 f3;subst f1;subst f2;subst f3;exact gD (ai ⟨by rw[fk (by omega),e,Lt w hi],hnx⟩)
  .have hno:=uE.no hi s hs;refine ar hst λy F=>?_
   have key:∀b1 D:Bool,y.2=M->(b1=M->∀z∈(eN l i).2.2.2.2.2.1,Bg (l.take i) (eN l i).1 z)->(D=M->∀z∈(eN l i).2.2.2.2.2.2,Bg (l.take i) (eN l i).1 z)->b1=M->D=M->False:=λb1 D h h1 h2 g1 g2=>by
    obtain⟨q1,_,q3,_⟩:=F.1 h;exact hs (q3.scx g q1 (h1 g1) (h2 g2))
   refine aW (λx=>x.1=M) ?_ ?_
   .refine cQ (λ_=>ai rfl) λh=>?_
    obtain⟨q1,_,q3,_⟩:=F.1 h;have h5:((eN l i).2.2.2.2.2.1.length:Int)<=max (0:Int) (aH (T:=.int .i64) (fU w (l.take i)).2.2.2 (eN l i).1):=q3.nd.len;have h6:((eN l i).2.2.2.2.2.2.length:Int)<=max (0:Int) (aH (T:=.int .i64) (fU w (l.take i)).2.2.2 (eN l i).1):=q3.nf.len;have h7:=eS h5 (wW.2 ⟨by decide,cb⟩);have h8:=eS h6 (wW.2 ⟨by decide,cb⟩);refine ar (BB l _ _ _ (by omega) ⟨by omega,by omega⟩ (by omega)) λb1 hr1=>?_
    refine cQ (λ_=>ai rfl) λhb1=>?_
    refine ar (BB l _ _ _ (by omega) ⟨by omega,by omega⟩ (by omega)) λD L=>ai ?_
    cases D with
    |false=>rfl
    |true=>exact (key b1 M h hr1 L hb1 rfl).elim
   rintro⟨b,x⟩ hb;dsimp only at hb;subst hb;exact pu (ai ⟨λh=>(by cases h),λh=>(hno h).elim⟩)
 .rintro x ⟨rfl,s⟩;rw[bQ]at s;exact aR (λg=>(by dsimp only[aj]at g;omega)) λ_=>ai ⟨λ_=>⟨vw,hl,s⟩,λ_=>rfl⟩
def Pc (w:WT) (l:Y ET):HS:=l.foldl (λh e=>(Oz w h (evP e)).1) (HS.zero w)
def tO (l:Y ET) (i:Nat):EV:=evP (eN l i)
def Mn (w:WT) (l:Y ET) (i:Nat):η:=Jq w (Pc w (l.take i)) (tO l i)
theorem HX (w:WT) {l:Y ET} {i:Nat} (h:i<l.length):Pc w (l.take (i+1))=ub w (Pc w (l.take i)) (tO l i) (Mn w l i):=by
 rw[pN (T:=tE) h];unfold Pc;rw[jR];rfl
theorem Sw {w:WT} {l:Y ET} (d:uE (w,l)):∀i:Nat,i<=l.length->Uu (i:Int) (Pc w (l.take i))/\Z9 w (Pc w (l.take i))
 |0,_=>by
  have wb:=d.wb;dsimp only at wb;exact⟨HS.zero_ok (by have:=wb.c;omega) (by have:=wb.l;omega) (by have:=wb.f;omega) (by have:=wb.t;omega),Z9.zero w⟩
 |i+1,h=>by
  obtain⟨o,q⟩:=Sw d i (by omega);have hl:=d.len;dsimp only at hl;have ok:=Y8 (d.ev _ (IB (l:=l) (i:=i) (by omega))) d.wb q;rw[HX w (by omega)];exact⟨X8 (w:=w) (e:=tO l i) o (by omega) ok.th4,q.step (tO l i)⟩
theorem Y9 {w:WT} {l:Y ET} (d:uE (w,l)) {i:Nat} (h:i<l.length):EOK w (Pc w (l.take i)) (tO l i):=Y8 (d.ev _ (IB h)) d.wb (Sw d i (by omega)).2
theorem adw {w:WT} {l:Y ET} (d:uE (w,l)) {i:Nat} (h:i<l.length):EvT (tO l i) (eN l i):=ai1 (d.ev _ (IB h))
def LE (a b:η):Prop:=a.length<=b.length/\∀k,a.getD k 0<=b.getD k 0
theorem LE.refl (a:η):LE a a:=⟨cB _,λ_=>gN _⟩
theorem LE.trans {a b c:η} (h:LE a b) (g:LE b c):LE a c:=⟨cW h.1 g.1,λk=>eS (h.2 k) (g.2 k)⟩
theorem LE.jl {a b:η} (h:LE a b):jl a b=b:=VZ (by rw[zh];have:=h.1;omega) λi=>by rw[Ds,yd];have:=h.2 i;omega
theorem ajd (a b:η):LE a (jl a b):=⟨by rw[zh];omega,λk=>by rw[Ds,yd];omega⟩
theorem LE_r (a b:η):LE b (jl a b):=⟨by rw[zh];omega,λk=>by rw[Ds,yd];omega⟩
theorem aei (a:η) (t:Nat):LE a (tk a t):=⟨by rw[Lq];omega,λk=>by rw[Hb];split<;>(try subst k)<;>omega⟩
theorem Of:∀(l:Y η) (c:η),LE c (l.foldl jl c)
 |[],c=>LE.refl c
 |x::r,c=>(ajd c x).trans (Of r _)
theorem ai6 (w:C5) (h:HS) (e:EV):LE (h.T.getD e.th []) (Jq w h e):=(Of _ _).trans (aei _ _)
theorem PO {α:Type} (l:Y α) (i j:Nat) (x d:α):(l.set i x).getD j d=if i=j/\i<l.length then x else l.getD j d:=by
 rw[ay,oH];by_cases e:i=j
 .subst e;by_cases g:i<l.length
  .rw[aU rfl,aU g,aU ⟨rfl,g⟩];rfl
  .rw[aU rfl,aL g,aL λq=>g q.2,ay,bJ (by omega)]
 .rw[aL e,aL λq=>e q.1,ay]
structure oC (P:η->Prop) (h:HS):Prop where
 T:∀u,P (h.T.getD u [])
 S:∀u,P (h.S.getD u [])
 L:∀u,P (h.L.getD u [])
 R:∀u,P (h.R.getD u [])
 C:∀u,P (h.C.getD u [])
 F:∀u,P (h.F.getD u [])
 X:P h.X
 N:∀u,P (h.N.getD u [])
theorem oC.mono {P Q:η->Prop} {h:HS} (a:oC P h) (g:∀x,P x->Q x):oC Q h:=⟨λu=>g _ (a.T u),λu=>g _ (a.S u),λu=>g _ (a.L u),λu=>g _ (a.R u),λu=>g _ (a.C u),λu=>g _ (a.F u),g _ a.X,λu=>g _ (a.N u)⟩
theorem oC.set {P:η->Prop} {l:Y η} {c:η} (h:∀u,P (l.getD u [])) (hc:P c) (i:Nat):∀u,P ((l.set i c).getD u []):=λu=>by
 rw[PO];split
 .exact hc
 .exact h u
theorem oC.repl {P:η->Prop} (h:P []) (n:Nat):∀u,P ((aA n []).getD u []):=λu=>by
 rw[ay,lz];split<;>exact h
theorem oC.zero {P:η->Prop} (h:P []) (w:C5):oC P (HS.zero w):=⟨oC.repl h _,oC.repl h _,oC.repl h _,oC.repl h _,oC.repl h _,oC.repl h _,h,oC.repl h _⟩
theorem oC.step {P:η->Prop} (hj:∀a b,P a->P b->P (jl a b)) {w:C5} {h:HS} (a:oC P h) (e:EV) {c:η} (hc:P c):oC P (ub w h e c):=by
 have b:oC P {h with T:=h.T.set e.th c}:={a with T:=oC.set a.T hc _}
 unfold ub;simp only[];repeat' split
 .exact {b with S:=oC.set a.S hc _}
 .exact {b with L:=oC.set a.L (hj _ _ (a.L _) hc) _}
 .exact {b with R:=oC.set a.R (hj _ _ (a.R _) hc) _}
 .exact {b with L:=oC.set a.L (hj _ _ (a.L _) hc) _}
 .exact {b with C:=oC.set a.C (hj _ _ (a.C _) hc) _}
 .exact b
 .exact {b with F:=oC.set a.F (hj _ _ (a.F _) hc) _}
 .exact {b with X:=hj _ _ a.X hc}
 .exact {b with N:=oC.set a.N hc _}
 .exact b
 .refine {b with N:=λu=>?_};have:=a.N u;simp only[Bo];rw[ay]at this ⊢;rw[List.getElem?_mapIdx];cases d:h.N[u]? with
  |none=>rw[d]at this;exact this
  |some x=>
   rw[d]at this;simp only[bU,uh];split
   .exact hc
   .exact this
 .exact b
theorem oC.src {P:η->Prop} {w:C5} {h:HS} (a:oC P h) (e:EV):∀x∈Av w h e,P x:=by
 intro c hc;unfold Av at hc;repeat' (split at hc)
 all_goals simp only[bu,cA,gE]at hc
 .subst hc;exact a.S _
 .subst hc;exact a.T _
 .rcases hc with rfl|rfl
  .exact a.L _
  .exact a.R _
 .subst hc;exact a.L _
 .rcases hc with rfl|rfl|rfl
  .exact a.L _
  .exact a.R _
  .exact a.N _
 .subst hc;exact a.C _
 .subst hc;exact a.F _
 .subst hc;exact a.X
theorem Y4 {P:η->Prop} (hj:∀a b,P a->P b->P (jl a b)):∀(l:Y η) (c:η),P c->(∀x∈l,P x)->P (l.foldl jl c)
 |[],_,hc,_=>hc
 |x::r,_,hc,h=>Y4 hj r _ (hj _ _ hc (h x (eo ..))) λy d=>h y (di _ d)
theorem ai3 (w:C5) (h:HS) (e:EV) (c:η):(ub w h e c).T=h.T.set e.th c:=by
 unfold ub;simp only[];repeat' split
 all_goals rfl
def C3 (l:Y ET) (u:Nat):Nat->Nat
 |0=>0
 |i+1=>if (tO l i).th=u then C3 l u i+1 else C3 l u i
theorem Q1 (l:Y ET) (u i:Nat):∀j,C3 l u i<=C3 l u (i+j)
 |0=>cB _
 |j+1=>by
  have:=Q1 l u i j;show C3 l u i<=C3 l u (i+j+1);rw[C3];split<;>omega
theorem TQ (l:Y ET) (u:Nat) {i j:Nat} (h:i<=j):C3 l u i<=C3 l u j:=by
 obtain⟨k,rfl⟩:∃k,j=i+k:=⟨j-i,by omega⟩
 exact Q1 l u i k
theorem G2 (l:Y ET) (i:Nat):C3 l (tO l i).th (i+1)=C3 l (tO l i).th i+1:=by rw[C3,aU rfl]
structure Gd (w:WT) (l:List ET) (i:Nat) (x:η):Prop where
 le:∀u,x.getD u 0<=(C3 l u i:Int)
 dn:∀k,k<i->(C3 l (tO l k).th k:Int)+1<=x.getD (tO l k).th 0->LE (Mn w l k) x
theorem Gd.nil (w:WT) (l:Y ET) (i:Nat):Gd w l i []:=⟨λu=>by simp,λk _ h=>by simp at h;omega⟩
theorem Gd.jl {w:WT} {l:Y ET} {i:Nat} (a b:η) (d:Gd w l i a) (hb:Gd w l i b):Gd w l i (jl a b):=by
 refine ⟨λu=>?_,λk hk h=>?_⟩
 .rw[Ds,yd];have:=d.le u;have:=hb.le u;omega
 .rw[Ds,yd]at h;by_cases g:(C3 l (tO l k).th k:Int)+1<=a.getD (tO l k).th 0
  .exact (d.dn k hk g).trans (ajd _ _)
  .exact (hb.dn k hk (by omega)).trans (LE_r _ _)
theorem Gd.succ {w:WT} {l:Y ET} {i:Nat} {x:η} (h:Gd w l i x):Gd w l (i+1) x:=by
 refine ⟨λu=>?_,λk hk g=>?_⟩
 .have:=h.le u;have:=TQ l u (show i<=i+1 by omega);omega
 .by_cases e:k=i
  .subst e;have:=h.le (tO l k).th;omega
  .exact h.dn k (by omega) g
structure GS1 (w:WT) (l:List ET) (i:Nat) (h:HS):Prop where
 a:oC (Gd w l i) h
 t:∀u,(h.T.getD u []).getD u 0=(C3 l u i:Int)
theorem NT {w:WT} {l:Y ET} {i:Nat} (g:GS1 w l i (Pc w (l.take i))):Gd w l (i+1) (Mn w l i)/\(Mn w l i).getD (tO l i).th 0=(C3 l (tO l i).th i:Int)+1:=by
 have s:Gd w l i ((Av w (Pc w (l.take i)) (tO l i)).foldl AI.jl ((Pc w (l.take i)).T.getD (tO l i).th [])):=Y4 Gd.jl _ _ (g.a.T _) (g.a.src (w:=w) _);have z:=g.t (tO l i).th;have hL:=Of (Av w (Pc w (l.take i)) (tO l i)) ((Pc w (l.take i)).T.getD (tO l i).th []);have A:=(g.a.T (tO l i).th).dn;have d:=ai6 w (Pc w (l.take i)) (tO l i);have e:(Mn w l i).getD (tO l i).th 0=(C3 l (tO l i).th i:Int)+1:=by
  unfold Mn Jq;rw[Hb,aU rfl];have:=hL.2 (tO l i).th;have:=s.le (tO l i).th;omega
 refine ⟨⟨λu=>?_,λk hk h=>?_⟩,e⟩
 .by_cases hu:(tO l i).th=u
  .subst hu;rw[e,G2];omega
  .have:=s.le u;unfold Mn Jq;rw[Hb,aL λq=>hu q.symm,C3,aL hu];exact this
 .by_cases hki:k=i
  .subst hki;exact LE.refl _
  have hk:k<i:=by omega
  by_cases hu:(tO l k).th=(tO l i).th
  .refine (A k hk ?_).trans d;rw[hu,z];have:=TQ l (tO l k).th (show k+1<=i from hk);rw[G2,hu]at this;omega
  .refine (s.dn k hk ?_).trans (aei _ _);unfold Mn Jq at h;rw[Hb,aL hu]at h;exact h
theorem HY {w:WT} {l:Y ET} (d:uE (w,l)):∀i:Nat,i<=l.length->GS1 w l i (Pc w (l.take i))
 |0,_=>⟨oC.zero (Gd.nil w l 0) w,λu=>by have:=oC.repl (P:=λx=>x.getD u 0=0) (by simp) w.2.2.2.2.1.length u;exact this⟩
 |i+1,h=>by
  have g:=HY d i (by omega);obtain⟨z,s⟩:=NT g;have ht:=(Y9 d (show i<l.length by omega)).th;rw[HX w (by omega)];refine ⟨oC.step Gd.jl (g.a.mono λx h=>h.succ) _ z,λu=>?_⟩;rw[ai3,PO];by_cases hu:(tO l i).th=u
  .subst hu;rw[aU ⟨rfl,ht⟩,s,G2];omega
  .rw[aL λq=>hu q.1,g.t u,C3,aL hu]
theorem Vh {w:WT} {l:Y ET} (d:uE (w,l)) {i:Nat} (h:i<l.length):(Mn w l i).getD (tO l i).th 0=(C3 l (tO l i).th i:Int)+1:=(NT (HY d i (by omega))).2
theorem Zk {w:WT} {l:Y ET} (d:uE (w,l)) {i:Nat} (h:i<l.length):Gd w l (i+1) (Mn w l i):=(NT (HY d i (by omega))).1
def XS (w:WT) (l:Y ET) (k j:Nat):Prop:=(C3 l (tO l k).th k:Int)+1<=(Mn w l j).getD (tO l k).th 0
theorem XS.le {w:WT} {l:Y ET} (d:uE (w,l)) {k j:Nat} (hk:k<=j) (hj:j<l.length) (h:XS w l k j):LE (Mn w l k) (Mn w l j):=(Zk d hj).dn k (by omega) h
theorem XS.of {w:WT} {l:Y ET} (d:uE (w,l)) {k j:Nat} (hk:k<l.length) (h:LE (Mn w l k) (Mn w l j)):XS w l k j:=by
 have:=h.2 (tO l k).th;rw[Vh d hk]at this;exact this
theorem XS.own {w:WT} {l:Y ET} (d:uE (w,l)) {k j:Nat} (hk:k<j) (hj:j<l.length) (h:(tO l k).th=(tO l j).th):XS w l k j:=by
 unfold XS;rw[h,Vh d hj];have:=TQ l (tO l k).th (show k+1<=j from hk);rw[G2,h]at this;omega
theorem XS.trans {w:WT} {l:Y ET} (d:uE (w,l)) {i j k:Nat} (hi:i<=j) (hj:j<=k) (hk:k<l.length) (h:XS w l i j) (g:XS w l j k):XS w l i k:=XS.of d (by omega) ((h.le d hi (by omega)).trans (g.le d hj hk))
theorem X9 {w:WT} {l:Y ET} (d:uE (w,l)):py w=Z (HS.zero w).t:=by
 have wb:=d.wb;dsimp only at wb;exact ZP w (by have:=wb.c;unfold xE;omega) (by have:=wb.l;unfold xE;omega) (by have:=wb.f;unfold xE;omega) (by have:=wb.t;unfold xE;omega)
theorem aal {w:WT} {l:Y ET} (d:uE (w,l)) {i:Nat} (hi:i<l.length):rU (w,(Pc w (l.take i)).t,eN l i)=Z ((Pc w (l.take (i+1))).t,Mn w l i):=by
 have hl:=d.len;dsimp only at hl;have:=acq (Sw d i (by omega)).1 (by omega) (Y9 d hi) (adw d hi);rw[HX w hi];exact this
def tA {α:Type} (n:Nat) (f:Nat->α) (z:α) (i:Nat):Y α:=(fd n).map λk=>if k<i then f k else z
theorem ML {α:Type} (n:Nat) (f:Nat->α) (z:α) (i:Nat):(tA n f z i).length=n:=by simp[tA]
theorem X6 {α:Type} {n:Nat} {f:Nat->α} {z:α} {i:Nat} (h:i<n):(tA n f z i).set i (f i)=tA n f z (i+1):=by
 unfold tA;apply dy
 .simp
 intro k h1 h2;simp only[Ek,co,jQ]at h1;rw[uj];simp only[qy,nh];by_cases e:i=k
 .subst e;rw[aU rfl,aU (by omega)]
 .rw[aL e];by_cases g:k<i
  .rw[aU g,aU (by omega)]
  .rw[aL g,aL (by omega)]
theorem UC {α:Type} (n:Nat) (f:Nat->α) (z:α):tA n f z 0=aA n z:=by unfold tA;simp[List.map_const']
theorem X7 {α:Type} (n:Nat) (f:Nat->α) (z:α):tA n f z n=(fd n).map f:=List.map_congr_left λk hk=>by rw[aU (ng.1 hk)]
abbrev csN (w:WT) (l:Y ET):Y η:=(fd l.length).map (Mn w l)
theorem abz {w:WT} {l:Y ET} {i:Nat} (h:i<l.length):(csN w l).getD i []=Mn w l i:=by
 rw[ay,bf,pK h];rfl
theorem Zb {w:WT} {l:Y ET} {i:Nat} (h:i<l.length):aH (T:=.sl (.int .i64)) (csN w l) (i:Int)=Mn w l i:=by rw[q_];exact abz h
theorem MA {w:WT} {l:Y ET} (d:uE (w,l)):jF (w,l)=Z (csN w l,0):=by
 have hl:=d.len;dsimp only at hl;obtain⟨ck0,hck⟩:=ah4 d;refine bX ?_;unfold jF tK aX bn ck bx iA bp bF aY cH aB ct;refine aQ hck (gD (aQ (X9 d) (cR (cR (du (by dsimp only[aj];omega) (du (by omega) (a_ (by simp;omega) (by omega) ?_)))))));refine dY l.length (by omega) (λi x=>x=((i:Int),(w,l),(Pc w (l.take i)).t,tA l.length (Mn w l) [] i)) ?_ ?_ ?_
 .rintro i x hi rfl;refine io ?_;refine dV (aV ?_);refine aQ (aal d hi) ?_;refine aK (by dsimp only;omega) (by dsimp only;rw[ML];omega) (aK (by dsimp only;omega) (by dsimp only;rw[ML];omega) (ai ?_));dsimp only;rw[fk (by omega),fV,X6 hi]
 .rintro x rfl;refine gS (ai ?_);dsimp only;rw[X7]
 .show _=_;rw[UC];rfl
abbrev Ke0:Ty:=(.st (.pr (.int .u8) (.pr (.int .u8) (.int .i8))))
abbrev Ke1:Ty:=(.st (.pr CY (.pr CY CY)))
def tF (x:(eX×Y jN)×Int×Int):J (Bool):=
 (jn (bx x.2.1 0 (aB (M,x.1)) (ja x.2.2 x.2.1 (aB (M,x.1)) (aB ((cL (aY x.1.2) x.2.2),x.1)))) λx1=>(aE x1.1 (Z aa) (av (jF x1.2) λd=>(iA d.2 0 (Z aa) (bF (.sl aM) d.1 x.2.2 λs=>(av (m7 x1.2.2) λA=>(bF ij A x.2.1 λq=>(av (md (s,q)) λz=>(Z z)))))))))
def j6 (x:(η×(η)×η)×Int×Int×Int×Int):J (eX×Y jN):=
 (av (kR (x.1,x.2.1)) λd=>(bi (aY d.2) 0 (Z d) (bp (be (ah (d.2:Y jN)) 88) (bp (!decide (((aY d.2):Int)=0)) (mF (bo (aZ .i64 x.p2) (aY d.2)) d.2 (jn (α:=ne×mi×(Y jw)×dg×dg×(Y ν)×Y jN) (bi (bo x.p3 9) 0 (mF (bo (aZ .i64 x.p2) (aY d.2)) d.2 (aB (d.1.1,d.1.2.1,d.1.p2,d.1.p3,d.1.p4,d.1.q5,(cJ d.2 (bo (aZ .i64 x.p2) (aY d.2)) ((bo (aZ .i64 x.q4) 8),(aH (T:=fZ) d.2 (bo (aZ .i64 x.p2) (aY d.2))).2))))) (bi (bo x.p3 9) 1 (mF (bo (aZ .i64 x.p2) (aY d.2)) d.2 (aB (d.1.1,d.1.2.1,d.1.p2,d.1.p3,d.1.p4,d.1.q5,(cJ d.2 (bo (aZ .i64 x.p2) (aY d.2)) ((aH (T:=fZ) d.2 (bo (aZ .i64 x.p2) (aY d.2))).1,(aZ .i64 (1+(bo (aZ .i64 (aZ .u8 x.q4)) 24))),((aH (T:=fZ) d.2 (bo (aZ .i64 x.p2) (aY d.2))).2).2))))) (bi (bo x.p3 9) 2 (mF (bo (aZ .i64 x.p2) (aY d.2)) d.2 (aB (d.1.1,d.1.2.1,d.1.p2,d.1.p3,d.1.p4,d.1.q5,(cJ d.2 (bo (aZ .i64 x.p2) (aY d.2)) ((aH (T:=fZ) d.2 (bo (aZ .i64 x.p2) (aY d.2))).1,((aH (T:=fZ) d.2 (bo (aZ .i64 x.p2) (aY d.2))).2).1,(bo (aZ .i64 x.q4) 8),(((aH (T:=fZ) d.2 (bo (aZ .i64 x.p2) (aY d.2))).2).2).2))))) (bi (bo x.p3 9) 3 (mF (bo (aZ .i64 x.p2) (aY d.2)) d.2 (aB (d.1.1,d.1.2.1,d.1.p2,d.1.p3,d.1.p4,d.1.q5,(cJ d.2 (bo (aZ .i64 x.p2) (aY d.2)) ((aH (T:=fZ) d.2 (bo (aZ .i64 x.p2) (aY d.2))).1,((aH (T:=fZ) d.2 (bo (aZ .i64 x.p2) (aY d.2))).2).1,(((aH (T:=fZ) d.2 (bo (aZ .i64 x.p2) (aY d.2))).2).2).1,(bo (aZ .i64 x.q4) 8),((((aH (T:=fZ) d.2 (bo (aZ .i64 x.p2) (aY d.2))).2).2).2).2))))) (bi (bo x.p3 9) 4 (mF (bo (aZ .i64 x.p2) (aY d.2)) d.2 (aB (d.1.1,d.1.2.1,d.1.p2,d.1.p3,d.1.p4,d.1.q5,(cJ d.2 (bo (aZ .i64 x.p2) (aY d.2)) ((aH (T:=fZ) d.2 (bo (aZ .i64 x.p2) (aY d.2))).1,((aH (T:=fZ) d.2 (bo (aZ .i64 x.p2) (aY d.2))).2).1,(((aH (T:=fZ) d.2 (bo (aZ .i64 x.p2) (aY d.2))).2).2).1,((((aH (T:=fZ) d.2 (bo (aZ .i64 x.p2) (aY d.2))).2).2).2).1,(bo (aZ .i64 x.q4) 8),(((((aH (T:=fZ) d.2 (bo (aZ .i64 x.p2) (aY d.2))).2).2).2).2).2))))) (bi (bo x.p3 9) 5 (bF fZ d.2 (bo (aZ .i64 x.p2) (aY d.2)) λz=>(bp (be (ah (z.2.2.2.2.2.1:η)) 8) (bp (be (ah z.2.2.2.2.2.1+ah ([(bo (aZ .i64 x.q4) 8)])) 8) (mF (bo (aZ .i64 x.p2) (aY d.2)) d.2 (aB (d.1.1,d.1.2.1,d.1.p2,d.1.p3,d.1.p4,d.1.q5,(cJ d.2 (bo (aZ .i64 x.p2) (aY d.2)) ((aH (T:=fZ) d.2 (bo (aZ .i64 x.p2) (aY d.2))).1,((aH (T:=fZ) d.2 (bo (aZ .i64 x.p2) (aY d.2))).2).1,(((aH (T:=fZ) d.2 (bo (aZ .i64 x.p2) (aY d.2))).2).2).1,((((aH (T:=fZ) d.2 (bo (aZ .i64 x.p2) (aY d.2))).2).2).2).1,(((((aH (T:=fZ) d.2 (bo (aZ .i64 x.p2) (aY d.2))).2).2).2).2).1,(z.2.2.2.2.2.1++([(bo (aZ .i64 x.q4) 8)])),((((((aH (T:=fZ) d.2 (bo (aZ .i64 x.p2) (aY d.2))).2).2).2).2).2).2)))))))) (bi (bo x.p3 9) 6 (bF fZ d.2 (bo (aZ .i64 x.p2) (aY d.2)) λs=>(bp (be (ah (s.2.2.2.2.2.2:η)) 8) (bp (be (ah s.2.2.2.2.2.2+ah ([(bo (aZ .i64 x.q4) 8)])) 8) (mF (bo (aZ .i64 x.p2) (aY d.2)) d.2 (aB (d.1.1,d.1.2.1,d.1.p2,d.1.p3,d.1.p4,d.1.q5,(cJ d.2 (bo (aZ .i64 x.p2) (aY d.2)) ((aH (T:=fZ) d.2 (bo (aZ .i64 x.p2) (aY d.2))).1,((aH (T:=fZ) d.2 (bo (aZ .i64 x.p2) (aY d.2))).2).1,(((aH (T:=fZ) d.2 (bo (aZ .i64 x.p2) (aY d.2))).2).2).1,((((aH (T:=fZ) d.2 (bo (aZ .i64 x.p2) (aY d.2))).2).2).2).1,(((((aH (T:=fZ) d.2 (bo (aZ .i64 x.p2) (aY d.2))).2).2).2).2).1,((((((aH (T:=fZ) d.2 (bo (aZ .i64 x.p2) (aY d.2))).2).2).2).2).2).1,(s.2.2.2.2.2.2++([(bo (aZ .i64 x.q4) 8)])))))))))) (jn (aB ((decide (((bo x.p3 9):Int)=7)),d.1.1,d.1.2.1,d.1.p2,d.1.p3,d.1.p4,d.1.q5,d.2)) λq=>(aE q.1 (bp ((decide ((bo (aZ .i64 x.p2) (aY d.2))=(bo (aZ .i64 x.p2) (aY d.2)))&&cL 0 (bo (aZ .i64 x.p2) (aY d.2)))&&cL (bo (aZ .i64 x.p2) (aY d.2)) (ah q.q7)) (bp (cL 0 (aZ .i64 ((bo (aZ .i64 x.p2) (aY d.2))+1))&&cL (aZ .i64 ((bo (aZ .i64 x.p2) (aY d.2))+1)) (ah q.q7)) (bp (be (ah (dh (aP (bo (aZ .i64 x.p2) (aY d.2))) q.q7)+ah (List.drop (aP (aZ .i64 ((bo (aZ .i64 x.p2) (aY d.2))+1))) q.q7)) 88) (aE (ax (ah (List.drop (aP (aZ .i64 ((bo (aZ .i64 x.p2) (aY d.2))+1))) q.q7)) 0) (aB (q.2.1,q.p2,q.p3,q.p4,q.p5,q.p6,(dh (aP (bo (aZ .i64 x.p2) (aY d.2))) q.q7))) (aB (q.2.1,q.p2,q.p3,q.p4,q.p5,q.p6,((dh (aP (bo (aZ .i64 x.p2) (aY d.2))) q.q7)++(List.drop (aP (aZ .i64 ((bo (aZ .i64 x.p2) (aY d.2))+1))) q.q7)))))))) (aB q.2)))))))))) λx2=>(Z ((x2.1,x2.2.1,x2.p2,x2.p3,x2.p4,x2.p5),x2.q6))))))))
def jE (x:(eX×Y jN)×Int×Int):J (Bool):=
 (av (mN x.1) λz=>(av (jF x.1) λd=>(av (kU x.1) λq=>(bi z.2 0 (jn (bi d.2 0 (bi q.2 0 (aB (decide (((aY d.1):Int)=(aY x.1.2)))) (aB aa)) (aB aa)) λx4=>(Z x4)) (jn (bi d.2 12 (bi q.2 12 (bi (aY d.1) 0 (bi (aY q.1) 0 (av (tF x) λs=>(aB (!s))) (aB aa)) (aB aa)) (aB aa)) (aB aa)) λA=>(Z A))))))
def kT (x:(eX×Y jN)×(η×(η)×η)×(ν)×Int×Int):J (Bool):=
 (jn (bx 60 (aY x.1.2) (aB (M,x.1,x.2.1,x.p2)) (bx 60 (aZ .i64 ((aZ .i64 ((aZ .i64 ((aZ .i64 ((aY x.1.1.1)+(aY x.1.1.2.1)))+(aY x.1.1.p2)))+(aY x.1.1.p3)))+(aY x.1.1.p4))) (aB (M,x.1,x.2.1,x.p2)) (aB ((fI 300 (aY x.1.1.q5)),x.1,x.2.1,x.p2)))) λx1=>(aE x1.1 (av (qa ()) λF=>(Z F)) (jn (α:=Bool) (av (jE (x1.2.1,x.q3)) λD=>(aE D (av (j6 (x1.p2,30,x1.q3)) λA=>(av (jE (A,x.q3)) λz=>(aE z (av (j6 (x1.p2,30,x1.q3)) λs=>(av (jE (s,0,1)) λq=>(aE q (av (qa ()) λd=>(aB d)) (aB aa)))) (aB aa)))) (aB aa))) λx3=>(Z x3))))
theorem LI (k j v:Int):∀m:Y Γ,oy (K:=.int .i64) (V:=.int .i64) j (xT (K:=.int .i64) (V:=.int .i64) k v m)=if j=k then Z v else oy (K:=.int .i64) (V:=.int .i64) j m
 |[]=>by
  show (if decide (j=k)=M then Z v else U)=_;by_cases h:j=k<;>simp[h,oy]
 |(a,b)::r=>by
  have d:=LI k j v r;show oy (K:=.int .i64) (V:=.int .i64) j (if decide (k=a)=M then (k,v)::r else (a,b)::xT (K:=.int .i64) (V:=.int .i64) k v r)=if j=k then Z v else if decide (j=a)=M then Z b else oy (K:=.int .i64) (V:=.int .i64) j r
  by_cases h:k=a
  .subst h;rw[aU (bc rfl)];show (if decide (j=k)=M then Z v else oy (K:=.int .i64) (V:=.int .i64) j r)=_;by_cases g:j=k<;>simp[g]
  .rw[aL (by simpa using h)];show (if decide (j=a)=M then Z b else oy (K:=.int .i64) (V:=.int .i64) j (xT (K:=.int .i64) (V:=.int .i64) k v r))=_;rw[d];by_cases g:j=a
   .subst g;rw[aU (bc rfl),aL λq=>h q.symm,aU (bc rfl)]
   .simp only[g,cZ,bG,dq]
theorem LH (k j v d:Int) (m:Y Γ):sw (K:=.int .i64) (V:=.int .i64) j (xT (K:=.int .i64) (V:=.int .i64) k v m) d=if j=k then v else sw (K:=.int .i64) (V:=.int .i64) j m d:=by
 unfold sw;rw[LI];by_cases h:j=k<;>simp[h]
def epN (l:Y ET) (i:Nat):Γ:=((C3 l (tO l i).th i:Int)+1,((tO l i).th:Int))
theorem Q2 (l:Y ET) (u:Nat):∀i,C3 l u i<=i
 |0=>cB _
 |i+1=>by have:=Q2 l u i;rw[C3];split<;>omega
theorem Wo {w:WT} {l:Y ET} (d:uE (w,l)):m7 l=Z ((fd l.length).map (epN l)):=by
 have hl:=d.len;dsimp only at hl;refine bX ?_;unfold m7 wx ck bx bp bF aY cH aB ct;refine cR (cR (du (by dsimp only[aj];omega) (du (by omega) (a_ (by simp;omega) (by omega) ?_))));refine dY l.length (by omega) (λi x=>x.1=(i:Int)/\(∀u:Nat,sw (K:=.int .i64) (V:=.int .i64) (u:Int) x.2.1 0=(C3 l u i:Int))/\x.2.2=tA l.length (epN l) (0,0) i) ?_ ?_ ⟨rfl,λu=>rfl,by rw[UC];rfl⟩
 .rintro i ⟨x,m,r⟩ hi ⟨e1,hm,e2⟩;dsimp only at e1 hm e2;subst e1;subst e2;refine io ?_;refine dV (aV ?_);have et:=adw d hi;refine aK (by dsimp only;omega) (by dsimp only;rw[ML];omega) (aK (by dsimp only;omega) (by dsimp only;rw[ML];omega) (ai ?_));have hc:=Q2 l (tO l i).th i;have s:(aH (T:=tE) l (i:Int)).1=((tO l i).th:Int):=et.th;have z:aZ .i64 (sw (K:=.int .i64) (V:=.int .i64) ((tO l i).th:Int) m 0+1)=(C3 l (tO l i).th i:Int)+1:=by rw[hm];exact gF (by omega) (by omega)
  dsimp only;refine ⟨fk (by omega),λu=>?_,?_⟩
  .rw[s,z,LH,C3];by_cases q:(tO l i).th=u
   .subst q;rw[aU rfl,aU rfl];rfl
   .rw[aL (by omega),aL q];exact hm u
  .rw[s,z,LH,aU rfl,fV];exact X6 (f:=epN l) hi
 .rintro⟨x,m,r⟩ ⟨e1,hm,e2⟩;dsimp only at e1 hm e2;subst e1;subst e2;refine gS (ai ?_);dsimp only;rw[X7]
theorem Y' {l:Y ET} {i:Nat} (h:i<l.length):aH (T:=.st (.pr (.int .i64) (.int .i64))) ((fd l.length).map (epN l)) (i:Int)=epN l i:=by
 rw[Nk,ay,bf,pK h];rfl
theorem Uw (c:η) (a:Int) (u:Nat):md (c,a,(u:Int))=Z (decide (a<=c.getD u 0)):=by
 unfold md;dsimp only;rw[J0];rfl
theorem JA:qa ()=Z M:=by kernel_rfl
theorem eH {φ:PM} {O:Nat->Prop} {w:World} {v u:Value} (h:cE φ O w (.f (.raw v)) u):u=v:=by
 cases h with
 |f h=>cases h;rfl
theorem s8 (h:HF) (nw:HF):eE h [] nw=h:=by funext t;simp[eE]
theorem Fs:∀{l:ξ},Ju l=M->∀v∈l,v.oneCell'=M
 |[],_,v,hv=>by cases hv
 |x::r,h,v,hv=>by
  simp only[Ju,ak]at h;rcases bu.1 hv with rfl|hv
  .exact h.1
  .exact Fs h.2 v hv
theorem TN {φ:PM} {O:Nat->Prop} {w:World} (v:Value):cE φ O w (D5 v) v:=by
 unfold D5;split
 .rename_i vs;split
  .rename_i h1;refine cE.agg (vs:=vs.toList) (by simp) (λx d=>?_) (λj x v d hv=>?_)
   .obtain⟨u,hu,rfl⟩:=cX.1 d;exact Fs h1 u hu
   .rw[bf,hv]at d;simp only[bU,af]at d;subst d;exact .f (.raw _)
  .exact .f (.raw _)
 .exact .f (.raw _)
theorem rG {φ:PM} {E:Nat->Prop} {h':HF} {w:World} {e:yO} {a:Act} {xs:Array Operand} (hrep:qG φ E h' w) (h:∀t,.tmp t∈xs->∀y,e.get t=Z y->cE φ (tot E φ h') w y (a.tmps.getD t undef)) {x:Operand} {y:AV} (q:x∈xs) (d:mA e x=Z y):cE φ (tot E φ h') w y (a.eval x):=by
 cases x with
 |tmp t=>exact h t q y d
 |const v=>simp only[mA,af]at d;subst d;exact TN v
 |func g=>
  simp only[mA,af]at d;subst d;exact cE.clo (vs:=[]) (g:=g) (cells:=[]) rfl (by intro j x v q;simp at q)
 |global g=>
  simp only[mA]at d;cases hg:G g with
  |none=>rw[hg]at d;cases d
  |some cells=>rw[hg]at d;simp only[af]at d;subst d;exact .f (hrep.gl g cells hg)
abbrev RP (φ:PM) (E:Nat->Prop) (h':HF) (w:World) (a:Act) (e:yO) (o:Oper):Prop:=∀x y,x∈o.op.operands->mA e x=Z y->cE φ (tot E φ h') w y (a.eval x)
theorem gy.reads {P:Program} {o:Oper} {e:yO} {h:HF} {val:AV} {rd:ι} {nw:HF}
 (hv:∀(φ:PM) (E:Nat->Prop) (h':HF) (w:World) (a:Act),(∀i∈rd,h' i=h i)->RP φ E h' w a e o->qG φ E h' w->
   ∃v,(execOp a.eval o).run P w= .ok (.value v) w/\cE φ (tot E φ h') w val v):gy P o e.get h ⟨val,rd,[],nw,[]⟩:=by
 intro φ E h' w a h1 h2 h3 h4 s;obtain⟨v,r,rel⟩:=hv φ E h' w a h1 (λx y q d=>rG h4 h3 q d) h4;unfold Gy;rw[r];refine ⟨v,φ,rfl,?_,λ_ _ h=>.inl h,?_,?_⟩<;>rw[s8]
 .exact iT.refl _ _ _
 .exact h4
 .exact rel
theorem dt {x:AV} {R:zN} (h:rv x=Z R):R=⟨x,[],[],[],[]⟩:=by simp only[rv,af]at h;exact h.symm
section pure
variable {P:Program} {o:Oper} {e:yO} {h:nR} {nx:Nat} {R:zN}
theorem aid {x:Operand} (d:o.op= .move x\/o.op= .assign x) (q:ef (.mv x) e h nx=Z R):gy P o e.get h.get R.eff:=by
 simp only[ef]at q;split at q
 .rename_i v hv;rw[dt q];exact gy.reads λφ E h' w a _ hop _=>⟨a.eval x,by unfold execOp;rcases d with d|d<;>rw[d]<;>rfl,hop x v (by rcases d with d|d<;>rw[d]<;>simp[Op.operands]) hv⟩
 .cases q
theorem afg {c x y:Operand} (q:o.op= .pick c x y) (d:ef (.pick c x y) e h nx=Z R):gy P o e.get h.get R.eff:=by
 simp only[ef]at d;split at d
 .rename_i t hc;split at d
  .rename_i v hv;rw[dt d];refine gy.reads λφ E h' w a _ hop _=>?_
   have hcv:=eH (hop c _ (by rw[q];simp[Op.operands]) hc);refine ⟨a.eval (if t then x else y),?_,hop _ v (by rw[q];cases t<;>simp[Op.operands]) hv⟩;unfold execOp;rw[q];simp only[hcv];cases t<;>rfl
  .cases d
 .cases d
theorem afh {x:Operand} (d:o.op= .nilCheck x) (q:ef (.nilc x) e h nx=Z R):gy P o e.get h.get R.eff:=by
 simp only[ef]at q;split at q
 .rename_i id off A;rw[dt q];refine gy.reads λφ E h' w a _ hop _=>?_
  have h1:=hop x _ (by rw[d];simp[Op.operands]) A;generalize s:a.eval x=z at h1;cases h1 with
  |ptr hφ=>exact⟨_,by unfold execOp;rw[d];simp only[s];rfl,.ptr hφ⟩
 .rename_i cells off A;rw[dt q];refine gy.reads λφ E h' w a _ hop _=>?_
  have h1:=hop x _ (by rw[d];simp[Op.operands]) A;generalize s:a.eval x=z at h1;cases h1 with
  |f h1=>
   have h2:=h1;cases h2 with
   |ptr _ _ b base us hO hb hcl hu hr=>exact⟨_,by unfold execOp;rw[d];simp only[s];rfl,.f h1⟩
 .rename_i g cap A;rw[dt q];refine gy.reads λφ E h' w a _ hop _=>?_
  have h1:=hop x _ (by rw[d];simp[Op.operands]) A;generalize s:a.eval x=z at h1;cases h1 with
  |clo hl hr=>exact⟨_,by unfold execOp;rw[d];simp only[s];rfl,.clo hl hr⟩
 .cases q
theorem aib {x:Operand} {t:TypeId} (q:o.op= .unOp .not t x) (d:ef (.not x) e h nx=Z R):gy P o e.get h.get R.eff:=by
 simp only[ef]at d;split at d
 .rename_i b s;rw[dt d];refine gy.reads λφ E h' w a _ hop _=>?_
  have h1:=eH (hop x _ (by rw[q];simp[Op.operands]) s);exact⟨_,by unfold execOp;rw[q];simp only[h1];rfl,.f (.raw _)⟩
 .cases d
theorem xI (k:IntKind) (n:Int):aZ k n=k.wrap n:=by
 rw[GC];unfold Ln;split
 .split
  .rename_i h;simp only[cL,ak,bz]at h;have:oI .i64 n=if n%18446744073709551616≥9223372036854775808 then n%18446744073709551616-18446744073709551616 else n%18446744073709551616:=by
    simp[oI,IntKind.bits,IntKind.signed]
   rw[this];split<;>omega
  .rfl
 .split
  .rename_i h;simp only[cL,ak,bz]at h;have:oI .u8 n=n%256:=by
    simp[oI,IntKind.bits,IntKind.signed]
   rw[this];omega
  .rfl
 .rfl
theorem afp {x:Operand} {s d:TypeId} {k k':IntKind} (z:o.op= .convert s d x) (hs:P.underlying s=Z (.int k')) (hd:P.underlying d=Z (.int k)) (q:ef (.conv k x) e h nx=Z R):gy P o e.get h.get R.eff:=by
 simp only[ef]at q;split at q
 .rename_i D n A;rw[dt q];refine gy.reads λφ E h' w a _ hop _=>?_
  have h1:=eH (hop x _ (by rw[z];simp[Op.operands]) A);refine ⟨_,?_,.f (.raw _)⟩;unfold execOp;rw[z];simp[h1,convert,run_underlying hs,run_underlying hd,Conv.intToInt,xI]
 .cases q
theorem N0 (a:ByteArray):a.toList=a.data.toList:=by
 first|exact ByteArray.toList_eq a|simp[ByteArray.toList]|rfl
theorem Yb {op:BinOp} {t:TypeId} {u v r:Value} (hr:sR op u v=Z r) (x y:Operand) (w:World):
 (do eqGuard op t x y u v;binOp op t u v:Sem Value).run P w= .ok r w:=by
 unfold sR at hr;split at hr
 .rename_i k a k' b;split at hr
  .rename_i hk;have d:k=k':=by simpa using hk
   subst d;split at hr<;>first|(simp only[af]at hr;subst hr;simp[eqGuard,binOp,Op.intCmp,Op.intArith,xI,cL,fI];done)|(split at hr<;>first|(cases hr;done)|(rename_i hb;simp only[af]at hr;subst hr;simp[eqGuard,binOp,Op.intDiv,xI,show b≠0 from by simpa using hb];done))|(cases hr;done)
  .cases hr
 .rename_i a b;split at hr<;>first|(simp only[af]at hr;subst hr;simp[eqGuard,binOp,Op.stringOp,rJ,N0];done)|(cases hr;done)
 .cases hr
theorem ado {s:Sem Value} {r:Value} {w w':World} (hs:s.run P w= .ok r w'):(do let x<-s;pure (Next.value x):Sem Next).run P w= .ok (.value r) w':=by
 simp[hs]
theorem ae7 {op:BinOp} {x y:Operand} {t t':TypeId} (q:o.op= .binOp op t x y t') (d:ef (.bin op x y) e h nx=Z R):gy P o e.get h.get R.eff:=by
 simp only[ef]at d;split at d
 .rename_i u v z s;split at d
  .rename_i r hr;rw[dt d];refine gy.reads λφ E h' w a _ hop _=>?_
   have h1:=eH (hop x _ (by rw[q];simp[Op.operands]) z);have h2:=eH (hop y _ (by rw[q];simp[Op.operands]) s);refine ⟨r,?_,.f (.raw _)⟩;unfold execOp;rw[q];simp only[h1,h2];exact ado (Yb (P:=P) (t:=t) hr x y w)
  .cases d
 .cases d
theorem Td {t:TypeId} (hu:P.underlying t=Z .bool) (u v:Bool) (w:World):(Op.equal t (.bool u) (.bool v)).run P w= .ok (u==v) w:=by
 have key:∀d,(Op.equalIn (d+1) t (.bool u) (.bool v)).run P w= .ok (u==v) w:=λd=>by simp[Op.equalIn,run_underlying hu]
 exact key 9999
theorem P9 {t el:TypeId} (hu:P.underlying t=Z (.slice el)) (A:J Addr) (n c:Nat) (w:World):(Op.equal t (.slice A n c) (.slice U 0 0)).run P w= .ok A.isNone w:=by
 have key:∀d,(Op.equalIn (d+1) t (.slice A n c) (.slice U 0 0)).run P w= .ok A.isNone w:=λd=>by cases A<;>simp[Op.equalIn,run_underlying hu]
 exact key 9999
theorem ae6 {neg:Bool} {op:BinOp} {x y:Operand} {t t':TypeId} (q:o.op= .binOp op t x y t') (hop:op=if neg then .neq else .eql) (hu:P.underlying t=Z .bool) (d:ef (.eqb neg x y) e h nx=Z R):gy P o e.get h.get R.eff:=by
 simp only[ef]at d;split at d
 .rename_i u v z s;rw[dt d];refine gy.reads λφ E h' w a _ hp _=>?_
  have h1:=eH (hp x _ (by rw[q];simp[Op.operands]) z);have h2:=eH (hp y _ (by rw[q];simp[Op.operands]) s);refine ⟨_,?_,.f (.raw _)⟩;unfold execOp;rw[q];simp only[h1,h2];subst hop;cases neg<;>simp[eqGuard,binOp,Td hu]
 .cases d
theorem Vt {neg:Bool} {op:BinOp} {x y:Operand} {t t' el:TypeId} (D:o.op= .binOp op t x y t') (hop:op=if neg then .neq else .eql) (F:y= .const (.slice U 0 0)) (hu:P.underlying t=Z (.slice el)) (q:ef (.isnil neg x) e h nx=Z R):gy P o e.get h.get R.eff:=by
 have key:∀(v:Value) (w:World) (ρ:Operand->Value) (A:J Addr) (n c:Nat),ρ x= .slice A n c->ρ y= .slice U 0 0->(execOp ρ o).run P w= .ok (.value (.bool (A.isNone !=neg))) w:=by
  intro v w ρ A n c h1 h2;unfold execOp;rw[D];simp only[h1,h2];subst hop;cases neg<;>simp[eqGuard,binOp,P9 hu]
 have hyv:∀a:Act,a.eval y= .slice U 0 0:=λa=>by rw[F];rfl
 simp only[ef]at q;split at q
 .rename_i id sz n d;rw[dt q];refine gy.reads λφ E h' w a _ hp _=>?_
  have h1:=hp x _ (by rw[D];simp[Op.operands]) d;generalize s:a.eval x=z at h1;cases h1 with
  |row hφ hn hc hs=>exact⟨_,key (.bool M) w a.eval _ _ _ s (hyv a),by simpa[raw] using cE.f (.raw _)⟩
 .rename_i id off n d;rw[dt q];refine gy.reads λφ E h' w a _ hp _=>?_
  have h1:=hp x _ (by rw[D];simp[Op.operands]) d;generalize s:a.eval x=z at h1;cases h1 with
  |sl hφ hn hc=>exact⟨_,key (.bool M) w a.eval _ _ _ s (hyv a),by simpa[raw] using cE.f (.raw _)⟩
 .rename_i cells n d;rw[dt q];refine gy.reads λφ E h' w a _ hp _=>?_
  have h1:=hp x _ (by rw[D];simp[Op.operands]) d;generalize s:a.eval x=z at h1;cases h1 with
  |f h1=>
   cases h1 with
   |sl=>exact⟨_,key (.bool M) w a.eval _ _ _ s (hyv a),by simpa[raw] using cE.f (.raw _)⟩
 .rename_i cells d;rw[dt q];refine gy.reads λφ E h' w a _ hp _=>?_
  have h1:=hp x _ (by rw[D];simp[Op.operands]) d;generalize s:a.eval x=z at h1;cases h1 with
  |f h1=>
   cases h1 with
   |nil=>exact⟨_,key (.bool M) w a.eval _ _ _ s (hyv a),.anyb⟩
   |sl=>exact⟨_,key (.bool M) w a.eval _ _ _ s (hyv a),.anyb⟩
 .rename_i d;rw[dt q];refine gy.reads λφ E h' w a _ hp _=>?_
  have h1:=hp x _ (by rw[D];simp[Op.operands]) d;generalize s:a.eval x=z at h1;cases h1 with
  |emp=>exact⟨_,key (.bool M) w a.eval _ _ _ s (hyv a),.anyb⟩
 .rename_i v d;split at q
  .rename_i hv;rw[dt q];refine gy.reads λφ E h' w a _ hp _=>?_
   have h1:=eH (hp x _ (by rw[D];simp[Op.operands]) d);unfold sO at hv;split at hv
   .exact⟨_,key (.bool M) w a.eval _ _ _ h1 (hyv a),by simpa[raw] using cE.f (.raw _)⟩
   .cases hv
  .cases q
 .cases q
theorem fQ {t:TypeId} {sz:Nat} (hs:eY P t=Z sz) (w:World):(sizeOf t).run P w= .ok sz w:=by
 unfold eY at hs;cases hi:P.info? t with
 |none=>rw[hi]at hs;cases hs
 |some i=>rw[hi]at hs;simp at hs;simp[sizeOf,typeInfo,program,hi,j_,hs]
theorem ON {t:TypeId} {ag:Bool} (hs:CS P t=Z ag) (w:World):(isAgg t).run P w= .ok ag w:=by
 unfold CS at hs;cases hi:P.underlying t with
 |none=>rw[hi]at hs;cases hs
 |some d=>
  rw[hi]at hs;simp only[bU,af]at hs;rw[<- hs];simp only[isAgg,ey,run_underlying hi,cF];cases d<;>rfl
theorem jM (b off i:Nat):(⟨b,off,U⟩:Addr).add i=⟨b,off+i,U⟩:=by
 unfold Addr.add;split<;>simp_all
theorem OM {s:TypeId} {fs:Array Field} {k:Nat} {f:Field} {sz:Nat} (hu:P.underlying s=Z (.struct fs)) (hf:fs[k]? =Z f) (hs:eY P f.type=Z sz) (h0:sz≠0) (w:World) (b i:Nat):
 (Instr.fieldAt s (.pointer (Z ⟨b,i,U⟩)) k).run P w= .ok (.pointer (Z ⟨b,i+f.offset,U⟩)) w:=by
 have h1:=fQ hs w;simp[Instr.fieldAt,run_underlying hu,hf,Instr.sureAddr,fieldPlace,h1,h0,jM]
theorem ail {s:TypeId} {fs:Array Field} {k:Nat} {f:Field} {sz:Nat} {x:Operand} (D:o.op= .fieldAddr s x k) (hu:P.underlying s=Z (.struct fs)) (hf:fs[k]? =Z f) (hs:eY P f.type=Z sz) (h0:sz≠0) (d:ef (.fad f.offset x) e h nx=Z R):gy P o e.get h.get R.eff:=by
 have key:∀(w:World) (ρ:Operand->Value) (b i:Nat),ρ x= .pointer (Z ⟨b,i,U⟩)->(execOp ρ o).run P w= .ok (.value (.pointer (Z ⟨b,i+f.offset,U⟩))) w:=by
  intro w ρ b i h1;unfold execOp;rw[D];simp only[h1];exact ado (OM hu hf hs h0 w b i)
 simp only[ef]at d;split at d
 .rename_i id off A;rw[dt d];refine gy.reads λφ E h' w a _ hp _=>?_
  have h1:=hp x _ (by rw[D];simp[Op.operands]) A;generalize q:a.eval x=z at h1;cases h1 with
  |ptr hφ=>exact⟨_,key w a.eval _ _ q,.ptr hφ⟩
 .rename_i cells off A;rw[dt d];refine gy.reads λφ E h' w a _ hp _=>?_
  have h1:=hp x _ (by rw[D];simp[Op.operands]) A;generalize q:a.eval x=z at h1;cases h1 with
  |f h1=>
   cases h1 with
   |ptr _ _ b base us hO hb hcl hu hr=>
    refine ⟨_,key w a.eval _ _ q,.f ?_⟩;rw[vV];exact .ptr cells _ b base us hO hb hcl hu hr
 .cases d
theorem Is {t el:TypeId} {x y:Operand} {sz b off n c:Nat} {k:IntKind} {i:Int} {ρ:Operand->Value} {w:World} (s:o.op= .indexAddr t x y) (hu:P.underlying t=Z (.slice el)) (hs:eY P el=Z sz) (q:ρ x= .slice (Z ⟨b,off,U⟩) n c) (d:ρ y= .int k i) (h0:0<=i) (h1:i<n):
 (execOp ρ o).run P w= .ok (.value (.pointer (Z ⟨b,off+i.toNat*sz,U⟩))) w:=by
 have h2:=fQ hs w;unfold execOp;rw[s];simp[q,d,Instr.indexAt,asIntOf,run_underlying hu,h2,h0,h1,jM]
theorem aij {t el:TypeId} {x y:Operand} {sz:Nat} (q:o.op= .indexAddr t x y) (hu:P.underlying t=Z (.slice el)) (hs:eY P el=Z sz) (d:ef (.iad sz x y) e h nx=Z R):gy P o e.get h.get R.eff:=by
 simp only[ef]at d;split at d
 .rename_i v k j D L;have hyv:∀{φ:PM} {E:Nat->Prop} {h':HF} {w:World} {a:Act},RP φ E h' w a e o->a.eval y= .int k j:=λhp=>eH (hp y _ (by rw[q];simp[Op.operands]) L)
  split at d
  .split at d
   .rename_i id sz' n hc;simp only[cL,fI,ak,bz,cO]at hc;obtain⟨⟨rfl,h0⟩,h1⟩:=hc;rw[dt d];refine gy.reads λφ E h' w a _ hp _=>?_
    have hr:=hp x _ (by rw[q];simp[Op.operands]) D;generalize s:a.eval x=z at hr;cases hr with
    |row hφ hn A hsh=>
     refine ⟨_,Is q hu hs s (hyv hp) h0 h1,?_⟩;rw[bL];exact .ptr hφ
   .cases d
  .split at d
   .rename_i id off n hc;simp only[cL,fI,ak,bz]at hc;obtain⟨h0,h1⟩:=hc;rw[dt d];refine gy.reads λφ E h' w a _ hp _=>?_
    have hr:=hp x _ (by rw[q];simp[Op.operands]) D;generalize s:a.eval x=z at hr;cases hr with
    |sl hφ hn A=>exact⟨_,Is q hu hs s (hyv hp) h0 h1,.ptr hφ⟩
   .cases d
  .split at d
   .rename_i cells n hc;simp only[cL,fI,ak,bz]at hc;obtain⟨h0,h1⟩:=hc;rw[dt d];refine gy.reads λφ E h' w a _ hp _=>?_
    have hr:=hp x _ (by rw[q];simp[Op.operands]) D;generalize s:a.eval x=z at hr;cases hr with
    |f hr=>
     cases hr with
     |nil=>omega
     |sl _ _ c b base us hn A hO hb hcl F I=>exact⟨_,Is q hu hs s (hyv hp) h0 h1,.f (.ptr cells _ b base us hO hb hcl F I)⟩
   .cases d
  .cases d
 .cases d
theorem afn {t el:TypeId} {x y:Operand} {n sz:Nat} (q:o.op= .indexAddr t x y) (hu:P.underlying t=Z (.array n el)) (hs:eY P el=Z sz) (d:ef (.iada n sz x y) e h nx=Z R):gy P o e.get h.get R.eff:=by
 have key:∀(w:World) (ρ:Operand->Value) (b off:Nat) (k:IntKind) (i:Int),ρ x= .pointer (Z ⟨b,off,U⟩)->ρ y= .int k i->0<=i->i<n->(execOp ρ o).run P w= .ok (.value (.pointer (Z ⟨b,off+i.toNat*sz,U⟩))) w:=by
  intro w ρ b off k i h1 h2 h3 h4;have L:=fQ hs w;unfold execOp;rw[q];simp[h1,h2,Instr.indexAt,asIntOf,run_underlying hu,L,h3,h4,jM,Instr.sureAddr]
 simp only[ef]at d;split at d
 .rename_i v k j I F;split at d
  .rename_i hc;simp only[cL,fI,ak,bz]at hc;obtain⟨h0,h1⟩:=hc;split at d
   .rw[dt d];refine gy.reads λφ E h' w a _ hp _=>?_
    have hr:=hp x _ (by rw[q];simp[Op.operands]) I;have hyv:=eH (hp y _ (by rw[q];simp[Op.operands]) F);generalize s:a.eval x=z at hr;cases hr with
    |ptr hφ=>exact⟨_,key w a.eval _ _ k j s hyv h0 h1,.ptr hφ⟩
   .rw[dt d];refine gy.reads λφ E h' w a _ hp _=>?_
    have hr:=hp x _ (by rw[q];simp[Op.operands]) I;have hyv:=eH (hp y _ (by rw[q];simp[Op.operands]) F);generalize s:a.eval x=z at hr;cases hr with
    |f hr=>
     cases hr with
     |ptr _ _ b base us hO hb hcl A D=>
      refine ⟨_,key w a.eval _ _ k j s hyv h0 h1,.f ?_⟩;rw[vV];exact .ptr _ _ b base us hO hb hcl A D
   .cases d
  .cases d
 .cases d
theorem aim {x:Operand} {i:Nat} (q:o.op= .extract x i) (d:ef (.ext x i) e h nx=Z R):gy P o e.get h.get R.eff:=by
 simp only[ef]at d;split at d
 .rename_i l A;split at d
  .rename_i v hv;rw[dt d];refine gy.reads λφ E h' w a _ hp _=>?_
   have hr:=hp x _ (by rw[q];simp[Op.operands]) A;generalize s:a.eval x=z at hr;cases hr with
   |@tup _ vs hl hrr=>
    have hlt:i<vs.length:=by
     rw[hl];exact (bm.1 hv).1
    refine ⟨vs[i],?_,hrr i v _ hv (aw hlt)⟩;unfold execOp;rw[q];simp[s,Instr.extract,hlt]
  .cases d
 .cases d
theorem aih {x y:Operand} {s:Array TypeId} (q:o.op= .call {callee:=.builtin .max,args:=#[x,y],argTypes:=s}) (d:ef (.max x y) e h nx=Z R):gy P o e.get h.get R.eff:=by
 simp only[ef]at d;split at d
 .rename_i k a b k' A z;rw[dt d];refine gy.reads λφ E h' w a _ hp _=>?_
  have h1:=eH (hp x _ (by rw[q];simp[Op.operands,dO]) A);have h2:=eH (hp y _ (by rw[q];simp[Op.operands,dO]) z);refine ⟨_,?_,.f (.raw _)⟩;unfold execOp;rw[q];simp[resolve,invoke,builtin,Builtin.max_,Builtin.max2,h1,h2,fI]
 .cases d
theorem aig {x y:Operand} {s:Array TypeId} (q:o.op= .call {callee:=.builtin .min,args:=#[x,y],argTypes:=s}) (d:ef (.min x y) e h nx=Z R):gy P o e.get h.get R.eff:=by
 simp only[ef]at d;split at d
 .rename_i k a b k' A z;rw[dt d];refine gy.reads λφ E h' w a _ hp _=>?_
  have h1:=eH (hp x _ (by rw[q];simp[Op.operands,dO]) A);have h2:=eH (hp y _ (by rw[q];simp[Op.operands,dO]) z);refine ⟨_,?_,.f (.raw _)⟩;unfold execOp;rw[q];simp[resolve,invoke,builtin,Builtin.min_,Builtin.min2,h1,h2,fI]
 .cases d
theorem aic {x:Operand} {t:TypeId} {k:IntKind} (q:o.op= .unOp .neg t x) (d:ef (.bin .sub (.const (.int k 0)) x) e h nx=Z R):gy P o e.get h.get R.eff:=by
 simp only[ef,mA,D5]at d;split at d
 .rename_i u v hu s;cases hu;split at d
  .rename_i r hb;rw[dt d];refine gy.reads λφ E h' w a _ hop _=>?_
   have h1:=eH (hop x _ (by rw[q];simp[Op.operands]) s);refine ⟨r,?_,.f (.raw _)⟩;unfold execOp;rw[q];cases v<;>simp only[sR]at hb<;>try (cases hb;done)
   split at hb
   .rename_i hk;have hk:=eq_of_beq hk;subst hk;simp only[af]at hb;subst hb;simp[h1,Op.unary,Op.intArith,xI]
   .cases hb
  .cases d
 .cases d
theorem aff {x i:Operand} {t:TypeId} (q:o.op= .index t x i) (hu:P.underlying t=Z .string) (d:ef (.sidx x i) e h nx=Z R):gy P o e.get h.get R.eff:=by
 simp only[ef]at d;split at d
 .rename_i s k j z hi;split at d
  .rename_i h0;simp only[cL,bz]at h0;split at d
   .rename_i b hb;rw[dt d];refine gy.reads λφ E h' w a _ hop _=>?_
    have h1:=eH (hop x _ (by rw[q];simp[Op.operands]) z);have h2:=eH (hop i _ (by rw[q];simp[Op.operands]) hi);refine ⟨_,?_,.f (.raw _)⟩;have hs:s[j.toNat]? =Z b:=by
     rw[cj]at hb;obtain⟨hl,he⟩:=cq.1 hb;exact getElem?_pos s j.toNat hl▸iU Z he
    unfold execOp;rw[q];simp[Instr.index,run_underlying hu,h1,h2,asIntOf,h0,hs]
   .cases d
  .cases d
 .cases d
theorem aif {f:FuncId} {caps:Array Operand} (D:o.op= .makeFunc (.func f) #[] caps) (s:ef (.mkf f caps.toList) e h nx=Z R):gy P o e.get h.get R.eff:=by
 simp only[ef]at s;split at s
 .rename_i l hl;rw[dt s];refine gy.reads λφ E h' w a _ hp _=>?_
  refine ⟨_,by unfold execOp;rw[D];rfl,?_⟩;have key:∀(xs:Y Operand) (d:Y AV),(∀x∈xs,x∈o.op.operands)->U9 e xs=Z d->d.length=xs.length/\∀(j:Nat) x v,d[j]? =Z x->(xs.map a.eval)[j]? =Z v->cE φ (tot E φ h') w x v:=by
   intro xs;induction xs with
   |nil=>intro d _ h;simp only[U9,af]at h;subst h;exact⟨rfl,λj x v q=>by simp at q⟩
   |cons x xs F=>
    intro d hm h;simp only[U9]at h;split at h
    .rename_i y I;split at h
     .rename_i ys' hys;simp only[af]at h;subst h;obtain⟨h1,h2⟩:=F ys' (λx q=>hm x (di _ q)) hys;refine ⟨by simp[h1],λj z v A hv=>?_⟩;cases j with
      |zero=>simp at A hv;subst A;subst hv;exact hp x _ (hm x (eo ..)) I
      |succ j=>exact h2 j z v (by simpa using A) (by simpa using hv)
     .cases h
    .cases h
  obtain⟨h1,h2⟩:=key caps.toList l (λx q=>by rw[D];simpa[Op.operands] using q) hl;have h3:(caps.map a.eval)=(caps.toList.map a.eval).toArray:=by
   apply J4;simp
  have h4:(#[]:Array Operand).map a.eval=#[]:=by simp
  rw[h4,h3];exact .clo (by simp[h1]) h2
 .cases s
end pure
section
variable {P:Program} {o:Oper} {e:yO} {h:nR} {nx:Nat} {R:zN}
theorem UE {α:Type} {l cs:Y α} {off sz:Nat} (h:off+sz<=l.length) (he:(l.drop off).take sz=cs):cs.length=sz/\∀(j:Nat) x,cs[j]? =Z x->l[off+j]? =Z x:=by
 subst he;constructor
 .simp;omega
 .intro j x d;rw[cu]at d;split at d
  .rw[gM]at d;exact d
  .cases d
theorem wA (f:Nat->Value) (n j:Nat) (v:Value) (h:((fd n).map f)[j]? =Z v):v=f j/\j<n:=by
 rw[bf]at h;rcases bM j n with hj|hj
 .rw[pK hj]at h;simp at h;exact⟨h.symm,hj⟩
 .rw[bJ (by simpa using hj)]at h;cases h
def wV (φ:PM) (O:Nat->Prop) (w:World) (c:BC) (f:Nat->J Value):Prop:=∀j x,c.get j=Z x->x.isCell=M/\∃v,f j=Z v/\cE φ O w x v
theorem UD {φ:PM} {O:Nat->Prop} {w:World} {c:BC} {off sz:Nat} {ag:Bool} {val:AV} (hs:c.sub? off sz ag=Z val) {f:Nat->J Value} (hc:wV φ O w c f):
 ∃cs:ξ,cs.length=sz/\(∀(j:Nat) v,cs[j]? =Z v->f (off+j)=Z v)/\(ag=aa->sz=1)/\cE φ O w val (if ag then .agg cs.toArray else cs.getD 0 undef):=by
 cases ag with
 |false=>
  simp only[BC.sub?]at hs;split at hs
  .obtain⟨h0,v,h1,h2⟩:=hc off val hs;exact⟨[v],rfl,λj u hu=>by cases j with|zero=>simp at hu;subst hu;exact h1|succ j=>simp at hu,λ_=>rfl,by simpa using h2⟩
  .cases hs
 |true=>
  have fin:∀(g:Nat->J AV),(∀j,j<sz->∃x,g j=Z x/\c.get (off+j)=Z x)->
   ∃cs:ξ,cs.length=sz/\(∀(j:Nat) v,cs[j]? =Z v->f (off+j)=Z v)/\∀(j:Nat) x v,g j=Z x->cs[j]? =Z v->cE φ O w x v:=by
   intro g hg;refine ⟨(fd sz).map λj=>(f (off+j)).getD undef,by simp,λj v hv=>?_,λj x v d hv=>?_⟩
   .obtain⟨rfl,hj⟩:=wA _ _ _ _ hv;obtain⟨x,_,h2⟩:=hg j hj;obtain⟨_,v,h3,_⟩:=hc _ _ h2;rw[h3];rfl
   .obtain⟨rfl,hj⟩:=wA _ _ _ _ hv;obtain⟨q,h1,h2⟩:=hg j hj;rw[d]at h1;cases h1;obtain⟨_,v,h3,h4⟩:=hc _ _ h2;rw[h3];exact h4
  simp only[BC.sub?]at hs;split at hs
  .rename_i l;split at hs
   .rename_i hle;simp only[af]at hs;subst hs;obtain⟨hl,hg⟩:=UE (a9 hle) (rfl:(l.drop off).take sz=_);obtain⟨cs,h1,h2,h3⟩:=fin (λj=>(((l.drop off).take sz)[j]?).map AV.f) (λj hj=>by
     have hlt:j<((l.drop off).take sz).length:=by rw[hl];exact hj
     refine ⟨.f ((l.drop off).take sz)[j],by simp only[aw hlt,bU],?_⟩;simp only[BC.get,hg j _ (aw hlt),bU])
    refine ⟨cs,h1,h2,(λh=>by cases h),.f (.agg _ _ (by rw[h1,hl]) ?_ ?_)⟩
    .intro x d;obtain⟨j,hj⟩:=eR d;exact (hc (off+j) (.f x) (by simp only[BC.get,hg j x hj,bU])).1
    .intro j x v d hv;have:=h3 j (.f x) v (by simp only[d,bU]) hv;cases this with
     |f h=>exact h
   .cases hs
  .rename_i l;split at hs
   .rename_i hle;simp only[af]at hs;subst hs;obtain⟨hl,hg⟩:=UE (a9 hle) (rfl:(l.drop off).take sz=_);obtain⟨cs,h1,h2,h3⟩:=fin (λj=>(((l.drop off).take sz)[j]?)) (λj hj=>by
     have hlt:j<((l.drop off).take sz).length:=by rw[hl];exact hj
     exact⟨_,aw hlt,hg j _ (aw hlt)⟩)
    refine ⟨cs,h1,h2,(λh=>by cases h),.agg (by rw[h1,hl]) ?_ ?_⟩
    .intro x d;obtain⟨j,hj⟩:=eR d;exact (hc (off+j) x (hg j x hj)).1
    .intro j x v d hv;exact h3 j x v d hv
   .cases hs
  .cases hs
theorem MQ {t:TypeId} {sz:Nat} {ag:Bool} (hs:eY P t=Z sz) (d:CS P t=Z ag) (w:World) (b off:Nat) (cs:ξ) (hl:cs.length=sz) (hc:∀(j:Nat) v,cs[j]? =Z v->w.cell? ⟨b,off+j,U⟩=Z v) (h1:ag=aa->sz=1):
 (loadVar t ⟨b,off,U⟩).run P w= .ok (if ag then .agg cs.toArray else cs.getD 0 undef) w:=by
 unfold loadVar;simp only[ey,ON d w,cF];cases ag with
 |true=>
  simp only[bE,ey,fQ hs w,cF];rw[<- hl,run_loadCells_list (P:=P) w ⟨b,off,U⟩ cs (λj v hv=>by rw[jM];exact hc j v hv)];rfl
 |false=>
  have h1:=h1 rfl;cases cs with
  |nil=>simp at hl;omega
  |cons v r=>
   have:=hc 0 v rfl;simp only[db]at this;simp[load,j_,this]
theorem HN {φ:PM} {O:Nat->Prop} {w:World} {t:TypeId} {sz:Nat} {ag:Bool} (hs:eY P t=Z sz) (d:CS P t=Z ag) {c:BC} {b base off:Nat} {val:AV} (hv:c.sub? off sz ag=Z val)
 (hc:wV φ O w c λj=>w.cell? ⟨b,base+j,U⟩):∃v,(loadVar t ⟨b,base+off,U⟩).run P w= .ok v w/\cE φ O w val v:=by
 obtain⟨cs,h1,h2,h3,h4⟩:=UD hv hc;exact⟨_,MQ hs d w b (base+off) cs h1 (λj v hj=>by rw[vV];exact h2 j v hj) h3,h4⟩
theorem Q5 {φ:PM} {E:Nat->Prop} {h':HF} {w:World} (hrep:qG φ E h' w) {id k:Nat} {b:uT} (hb:h' id=Z b) (hk:φ id=Z k) (hc:b.c.isCells=M):wV φ (tot E φ h') w b.c λj=>w.cell? ⟨k,0+j,U⟩:=by
 obtain⟨k',h1,_,h2⟩:=hrep.at_ id b hb;rw[hk]at h1;cases h1;obtain⟨arr,h3,h4,q⟩:=h2.cells hc;intro j x d;obtain⟨A,v,z,s⟩:=q j x d;exact⟨A,v,by simp[MC,h3,z],s⟩
theorem T8 {φ:PM} {O:Nat->Prop} {w:World} {cells:Y FV} {b base:Nat} {us:Nat->Value} (hcl:∀x∈cells,x.isCell=M) (hu:∀j,j<cells.length->w.cell? ⟨b,base+j,U⟩=Z (us j)) (hr:∀(j:Nat) x,cells[j]? =Z x->mj O w x (us j)):
 wV φ O w (.fz cells) λj=>w.cell? ⟨b,base+j,U⟩:=by
 intro j y d;simp only[BC.get]at d;cases hc:cells[j]? with
 |none=>rw[hc]at d;cases d
 |some q=>
  rw[hc]at d;simp at d;subst d;have hj:j<cells.length:=(bm.1 hc).1;exact⟨hcl q (bg hc),us j,hu j hj,.f (hr j q hc)⟩
theorem Oy {c:BC} {off sz:Nat} {ag:Bool} {v:AV} (h:c.sub? off sz ag=Z v):c.isCells=M:=by
 cases c with
 |fz=>rfl
 |mx=>rfl
 |mp es=>cases ag<;>simp only[BC.sub?,BC.get]at h<;>(try split at h)<;>cases h
 |it s p=>cases ag<;>simp only[BC.sub?,BC.get]at h<;>(try split at h)<;>cases h
theorem Rc {t:TypeId} {sz:Nat} {ag:Bool} (hs:eY P t=Z sz) (hag:CS P t=Z ag) {p:AV} (d:CR h sz ag p=Z R):
 R.wr=[]/\R.nw=[]/\R.N=[]/\∀(φ:PM) (E:Nat->Prop) (h':HF) (w:World) (pv:Value),(∀i∈R.rd,h' i=h.get i)->qG φ E h' w->cE φ (tot E φ h') w p pv->
  ∃q v,pv= .pointer (Z q)/\(loadVar t q).run P w= .ok v w/\cE φ (tot E φ h') w R.val v:=by
 unfold CR at d;split at d
 .rename_i id off;split at d
  .rename_i b hb;split at d
   .rename_i v hv;simp only[af]at d;subst d;refine ⟨rfl,rfl,rfl,λφ E h' w pv hrd hrep hr=>?_⟩;have hh:h' id=Z b:=by rw[hrd id (by simp)];exact hb
    cases hr with
    |@ptr _ _ k hφ=>
     obtain⟨u,h1,h2⟩:=HN hs hag (w:=w) (b:=k) (base:=0) hv (Q5 hrep hh hφ (Oy hv));rw[bL]at h1;exact⟨_,u,rfl,h1,h2⟩
   .cases d
  .cases d
 .rename_i cells off;split at d
  .rename_i v hv;rw[dt d];refine ⟨rfl,rfl,rfl,λφ E h' w pv hrd hrep hr=>?_⟩;cases hr with
   |f hr=>
    cases hr with
    |ptr _ _ b base us hO hb hcl hu hr=>
     obtain⟨u,h1,h2⟩:=HN (φ:=φ) (O:=tot E φ h') hs hag (w:=w) (b:=b) (base:=base) hv (T8 hcl hu hr);exact⟨_,u,rfl,h1,h2⟩
  .cases d
 .cases d
theorem afj {t:TypeId} {x:Operand} {sz:Nat} {ag:Bool} (q:o.op= .load t x) (hs:eY P t=Z sz) (hag:CS P t=Z ag) (d:ef (.load sz ag x) e h nx=Z R):gy P o e.get h.get R.eff:=by
 simp only[ef]at d;split at d
 .rename_i p s;obtain⟨h1,h2,h3,h4⟩:=Rc hs hag d;obtain⟨val,rd,wr,nw,N⟩:=R;simp only at h1 h2 h3 h4;subst h1;subst h2;subst h3;refine gy.reads λφ E h' w a hrd hp hrep=>?_
  obtain⟨F,v,D,A,z⟩:=h4 φ E h' w _ hrd hrep (hp x _ (by rw[q];simp[Op.operands]) s);refine ⟨v,?_,z⟩;unfold execOp;rw[q];simp[Instr.loadAt,D,Instr.sureAddr,A]
 .cases d
theorem UP {φ:PM} {O:Nat->Prop} {w:World} {t:TypeId} {sz:Nat} {ag:Bool} (hs:eY P t=Z sz) (hag:CS P t=Z ag) {c:BC} {off:Nat} {val:AV} (hv:c.sub? off sz ag=Z val) {vs:ξ}
 (hc:wV φ O w c λj=>vs[j]?):∃v,(part t vs.toArray off).run P w= .ok v w/\cE φ O w val v:=by
 obtain⟨cs,h1,h2,h3,h4⟩:=UD hv hc;refine ⟨_,?_,h4⟩;unfold part;simp only[ey,ON hag w,cF];cases ag with
 |true=>
  simp only[bE,ey,fQ hs w,cF];have:vs.toArray.extract off (off+sz)=cs.toArray:=by
   apply J4;simp only[Array.toList_extract,List.extract_eq_take_drop];apply List.ext_getElem?;intro j;rw[show off+sz-off=sz from by omega,cu,gM];rcases bM j sz with hj|hj
   .rw[aU hj];have:=h2 j _ (aw (by omega:j<cs.length));rw[this,aw (by omega:j<cs.length)]
   .rw[aL (by omega),bJ (by omega)]
  rw[this];rfl
 |false=>
  have d:=h3 rfl;cases cs with
  |nil=>simp at h1;omega
  |cons v r=>
   have:=h2 0 v rfl;simp only[db]at this;simp[this]
theorem Q6 {φ:PM} {O:Nat->Prop} {w:World} {l:Y AV} {vs:ξ} (hl:vs.length=l.length) (hcl:∀x∈l,x.isCell=M) (hr:∀(j:Nat) x v,l[j]? =Z x->vs[j]? =Z v->cE φ O w x v):wV φ O w (.mx l) λj=>vs[j]? :=by
 intro j x d;simp only[BC.get]at d;have hj:j<vs.length:=by rw[hl];exact (bm.1 d).1
 exact⟨hcl x (bg d),vs[j],aw hj,hr j x _ d (aw hj)⟩
theorem NX {φ:PM} {O:Nat->Prop} {w:World} {l:Y FV} {vs:ξ} (hl:vs.length=l.length) (hcl:∀x∈l,x.isCell=M) (hr:∀(j:Nat) x v,l[j]? =Z x->vs[j]? =Z v->mj O w x v):wV φ O w (.fz l) λj=>vs[j]? :=by
 intro j x d;simp only[BC.get]at d;cases hc:l[j]? with
 |none=>rw[hc]at d;cases d
 |some q=>
  rw[hc]at d;simp at d;subst d;have hj:j<vs.length:=by rw[hl];exact (bm.1 hc).1
  exact⟨hcl q (bg hc),vs[j],aw hj,.f (hr j q _ hc (aw hj))⟩
theorem JH {φ:PM} {O:Nat->Prop} {w:World} {t:TypeId} {sz:Nat} {ag:Bool} (hs:eY P t=Z sz) (hag:CS P t=Z ag) {x:AV} {z:Value} (hr:cE φ O w x z) {off:Nat} {val:AV}
 (hv:(∃l,x= .agg l/\(BC.mx l).sub? off sz ag=Z val)\/(∃l,x= .f (.agg l)/\(BC.fz l).sub? off sz ag=Z val)):∃cs v,z= .agg cs/\(part t cs off).run P w= .ok v w/\cE φ O w val v:=by
 rcases hv with ⟨l,rfl,hv⟩|⟨l,rfl,hv⟩
 .cases hr with
  |agg hl hcl hr=>
   obtain⟨v,h1,h2⟩:=UP hs hag hv (Q6 hl hcl hr);exact⟨_,v,rfl,h1,h2⟩
 .cases hr with
  |f hr=>
   cases hr with
   |agg _ vs hl hcl hr=>
    obtain⟨v,h1,h2⟩:=UP (φ:=φ) hs hag hv (NX hl hcl hr);exact⟨_,v,rfl,h1,h2⟩
theorem aik {s:TypeId} {fs:Array Field} {k:Nat} {f:Field} {sz:Nat} {ag:Bool} {x:Operand} (z:o.op= .field s x k) (hu:P.underlying s=Z (.struct fs)) (hf:fs[k]? =Z f) (hs:eY P f.type=Z sz) (hag:CS P f.type=Z ag) (d:ef (.fld f.offset sz ag x) e h nx=Z R):gy P o e.get h.get R.eff:=by
 have fin:∀(y:AV) (val:AV),mA e x=Z y->((∃l,y= .agg l/\(BC.mx l).sub? f.offset sz ag=Z val)\/(∃l,y= .f (.agg l)/\(BC.fz l).sub? f.offset sz ag=Z val))->rv val=Z R->gy P o e.get h.get R.eff:=by
  intro y val q hv A;rw[dt A];refine gy.reads λφ E h' w a _ hp _=>?_
  obtain⟨cs,v,h1,h2,h3⟩:=JH hs hag (hp x _ (by rw[z];simp[Op.operands]) q) hv;refine ⟨v,?_,h3⟩;unfold execOp;rw[z];simp[Instr.field,run_underlying hu,hf,h1,asAgg,h2]
 simp only[ef]at d;split at d
 .rename_i l q;split at d
  .rename_i v hv;exact fin _ v q (.inl ⟨l,rfl,hv⟩) d
  .cases d
 .rename_i l q;split at d
  .rename_i v hv;exact fin _ v q (.inr ⟨l,rfl,hv⟩) d
  .cases d
 .cases d
theorem aii {t el:TypeId} {n sz:Nat} {ag:Bool} {x y:Operand} (q:o.op= .index t x y) (hu:P.underlying t=Z (.array n el)) (hs:eY P el=Z sz) (hag:CS P el=Z ag) (d:ef (.idx n sz ag x y) e h nx=Z R):gy P o e.get h.get R.eff:=by
 simp only[ef]at d;split at d
 .rename_i v0 k j z s;split at d
  .rename_i hc;simp only[cL,fI,ak,bz]at hc;obtain⟨h0,h1⟩:=hc;have fin:∀(val:AV),((∃l,v0= .agg l/\(BC.mx l).sub? (j.toNat*sz) sz ag=Z val)\/(∃l,v0= .f (.agg l)/\(BC.fz l).sub? (j.toNat*sz) sz ag=Z val))->rv val=Z R->gy P o e.get h.get R.eff:=by
    intro val hv A;rw[dt A];refine gy.reads λφ E h' w a _ hp _=>?_
    have hyv:=eH (hp y _ (by rw[q];simp[Op.operands]) s);obtain⟨cs,v,h3,h4,F⟩:=JH hs hag (hp x _ (by rw[q];simp[Op.operands]) z) hv;refine ⟨v,?_,F⟩;have D:=fQ hs w;unfold execOp;rw[q];simp[Instr.index,run_underlying hu,hyv,asIntOf,h3,h0,h1,D,h4]
   split at d
   .rename_i l;split at d
    .rename_i v hv;exact fin v (.inl ⟨l,rfl,hv⟩) d
    .cases d
   .rename_i l;split at d
    .rename_i v hv;exact fin v (.inr ⟨l,rfl,hv⟩) d
    .cases d
   .cases d
  .cases d
 .cases d
theorem afm {t el:TypeId} {x:Operand} (s:o.op= .call {callee:=.builtin .len,args:=#[x],argTypes:=#[t]}) (hu:P.underlying t=Z (.slice el)) (d:ef (.len x) e h nx=Z R):gy P o e.get h.get R.eff:=by
 simp only[ef]at d;split at d
 .rename_i y D;split at d
  .rename_i n hn;rw[dt d];refine gy.reads λφ E h' w a _ hp _=>?_
   have hr:=hp x _ (by rw[s];simp[Op.operands,dO]) D;refine ⟨_,?_,.f (.raw _)⟩;have q:∃A c,a.eval x= .slice A n c:=by
    generalize a.eval x=z at hr;unfold AV.slen at hn;split at hn<;>try (simp only[af]at hn;subst hn)
    .cases hr with
     |f hr=>cases hr with
      |nil=>exact⟨_,_,rfl⟩
      |sl=>exact⟨_,_,rfl⟩
    .cases eH hr;exact⟨_,_,rfl⟩
    .cases hr;exact⟨_,_,rfl⟩
    .cases hr;exact⟨_,_,rfl⟩
    .cases hr;exact⟨_,_,rfl⟩
    .cases hn
   obtain⟨A,c,q⟩:=q;unfold execOp;rw[s];simp[resolve,invoke,builtin,Builtin.len_,run_underlying hu,q,goInt]
  .cases d
 .cases d
theorem afl {t:TypeId} {x:Operand} (q:o.op= .call {callee:=.builtin .len,args:=#[x],argTypes:=#[t]}) (hu:P.underlying t=Z .string) (d:ef (.lens x) e h nx=Z R):gy P o e.get h.get R.eff:=by
 simp only[ef]at d;split at d
 .rename_i s z;rw[dt d];refine gy.reads λφ E h' w a _ hp _=>?_
  have hr:=eH (hp x _ (by rw[q];simp[Op.operands,dO]) z);refine ⟨_,?_,.f (.raw _)⟩;unfold execOp;rw[q];simp[resolve,invoke,builtin,Builtin.len_,run_underlying hu,hr,goInt]
 .cases d
theorem afk {t k v:TypeId} {x:Operand} (q:o.op= .call {callee:=.builtin .len,args:=#[x],argTypes:=#[t]}) (hu:P.underlying t=Z (.map k v)) (d:ef (.lenm x) e h nx=Z R):gy P o e.get h.get R.eff:=by
 simp only[ef]at d;split at d
 .rename_i id A;split at d
  .rename_i es hid;simp only[af]at d;subst d;refine gy.reads λφ E h' w a hrd hp hrep=>?_
   have hr:=hp x _ (by rw[q];simp[Op.operands,dO]) A;have hh:h' id=Z ⟨0,.mp es⟩:=by rw[hrd id (by simp)];exact hid
   generalize s:a.eval x=z at hr;cases hr with
   |@mp _ b hφ=>
    obtain⟨b',h1,_,ob,h2,h3⟩:=hrep.at_ id _ hh;rw[hφ]at h1;cases h1;obtain⟨ents,clock,rfl,h4,_⟩:=h3;have D:ents.size=es.length:=by have h4:ents.toList.map (·.key)=es.map (·.1):=h4;have:=iU ah h4;simpa using this
    refine ⟨_,?_,.f (.raw _)⟩;unfold execOp;rw[q];simp[resolve,invoke,builtin,Builtin.len_,run_underlying hu,s,goInt,getObj,j_,h2,D]
  .cases d
 .cases d
end
structure Ed (w w':World) (k:Nat) (ob:Obj):Prop where
 os:w'.os=w.os
 tape:w'.tape=w.tape
 output:w'.output=w.output
 size:w'.heap.size=w.heap.size
 at_:w'.heap[k]? =Z ob
 other:∀j,j≠k->w'.heap[j]? =w.heap[j]?
 shp:∀j,w'.shape? j=w.shape? j
structure Ri (w w':World) (ob:Obj):Prop where
 os:w'.os=w.os
 tape:w'.tape=w.tape
 output:w'.output=w.output
 size:w'.heap.size=w.heap.size+1
 at_:w'.heap[w.heap.size]? =Z ob
 other:∀j,j<w.heap.size->w'.heap[j]? =w.heap[j]?
theorem qG.wset {φ:PM} {E:Nat->Prop} {h:HF} {w w':World} (r:qG φ E h w) {id k:Nat} {b b':uT} {ob:Obj} (hb:h id=Z b) (hk:φ id=Z k) (d:Ed w w' k ob) (hob:iS φ (tot E φ h) w b' ob) (nw:HF) (hnw:nw id=Z b'):
 iT φ φ h (eE h [id] nw) w w'/\qG φ E (eE h [id] nw) w':=by
 have hdom:∀i,(∃x,eE h [id] nw i=Z x)↔∃x,h i=Z x:=λi=>by
  unfold eE;by_cases hi:i=id
  .subst hi;simp[hnw,hb]
  .simp[hi]
 have hown:∀j,own φ (eE h [id] nw) j↔own φ h j:=λj=>by
  constructor
  .rintro⟨i,x,h1,h2⟩;obtain⟨y,s⟩:=(hdom i).1 ⟨x,h1⟩;exact⟨i,y,s,h2⟩
  .rintro⟨i,x,h1,h2⟩;obtain⟨y,s⟩:=(hdom i).2 ⟨x,h1⟩;exact⟨i,y,s,h2⟩
 have m:iT φ φ h (eE h [id] nw) w w':=by
  refine ⟨λ_ _ h=>h,⟨d.os,d.tape,d.output,by rw[d.size];exact cB _,λj hj L=>?_,λj _=>d.shp j⟩,λj _ h=>(hown j).1 h⟩;exact d.other j (λe=>L (e▸⟨id,b,hb,hk⟩))
 refine ⟨m,⟨λi j x y I hi hj h1 h2=>?_,λi x hi=>?_,λk hk=>dx (r.el k hk) m.ext.size,λg cells hg=>m.keepF (r.gl g cells hg)⟩⟩
 .obtain⟨F,z⟩:=(hdom i).1 ⟨x,hi⟩;obtain⟨D,q⟩:=(hdom j).1 ⟨y,hj⟩;exact r.inj i j F D I z q h1 h2
 .by_cases hid:i=id
  .subst hid;have:x=b':=by unfold eE at hi;simp[hnw]at hi;exact hi.symm
   subst this;obtain⟨k',h1,h2,_⟩:=r.at_ i b hb;rw[hk]at h1;cases h1;exact⟨k,hk,h2,ob,d.at_,hob.mono λ_ _ h=>m.keep h⟩
  .have A:h i=Z x:=by unfold eE at hi;simpa[hid] using hi
   obtain⟨k',h1,h2,ob',h3,h4⟩:=r.at_ i x A;have hne:k'≠k:=λe=>hid (r.inj i id x b k A hb (e▸h1) hk)
   exact⟨k',h1,h2,ob',by rw[d.other k' hne];exact h3,h4.mono λ_ _ h=>m.keep h⟩
theorem qG.wnew {φ:PM} {E:Nat->Prop} {h:HF} {w w':World} (r:qG φ E h w) {id:Nat} (hid:φ id=U) {b:uT} {ob:Obj} (s:Ri w w' ob) (hob:iS φ (tot E φ h) w b ob) (del:ι) (nw:HF) (hnw:nw id=Z b) (hdel:∀i∈del,i≠id->nw i=U):
 ∃φ',φ' id=Z w.heap.size/\iT φ φ' h (eE h (id::del) nw) w w'/\(∀i k,φ' i=Z k->φ i=Z k\/i∈[id])/\qG φ' E (eE h (id::del) nw) w':=by
 have hsub:∀i x,eE h (id::del) nw i=Z x->i≠id->h i=Z x/\i∉del:=λi x z hi=>by
  unfold eE at z;by_cases hd:i∈del
  .rw[aU (by simp[hd]),hdel i hd hi]at z;cases z
  .rw[aL (by simp[hi,hd])]at z;exact⟨z,hd⟩
 have hlt:∀i x k,h i=Z x->φ i=Z k->k<w.heap.size:=λi x k hi hk=>by
  obtain⟨k',h1,_,ob',h3,_⟩:=r.at_ i x hi;rw[hk]at h1;cases h1;exact (cq.1 h3).1
 have hφ:∀i,i≠id->(if i=id then Z w.heap.size else φ i)=φ i:=λi hi=>by simp[hi]
 have m:iT φ (λi=>if i=id then Z w.heap.size else φ i) h (eE h (id::del) nw) w w':=by
  refine ⟨λi k hk=>?_,⟨s.os,s.tape,s.output,by rw[s.size];omega,λj hj _=>s.other j hj,λj hj=>?_⟩,?_⟩
  .have:i≠id:=λe=>by rw[e,hid]at hk;cases hk
   rw[hφ i this];exact hk
  .unfold ri;rw[s.other j hj]
  .rintro j hj ⟨i,x,h1,h2⟩;by_cases hi:i=id
   .simp[hi]at h2;omega
   .have h3:φ i=Z j:=by simpa[hi] using h2
    exact⟨i,x,(hsub i x h1 hi).1,h3⟩
 refine ⟨_,by simp,m,λi k hk=>?_,⟨λi j x y k hi hj h1 h2=>?_,λi x hi=>?_,λk hk=>dx (r.el k hk) m.ext.size,λg cells hg=>m.keepF (r.gl g cells hg)⟩⟩
 .by_cases hi:i=id
  .right;simp[hi]
  .left;rw[hφ i hi]at hk;exact hk
 .by_cases d:i=id
  .by_cases q:j=id
   .rw[d,q]
   .exfalso;rw[hφ j q]at h2;have:=hlt j y k (hsub j y hj q).1 h2;simp[d]at h1;omega
  .rw[hφ i d]at h1;have hix:=(hsub i x hi d).1;by_cases q:j=id
   .exfalso;have:=hlt i x k hix h1;simp[q]at h2;omega
   .rw[hφ j q]at h2;exact r.inj i j x y k hix (hsub j y hj q).1 h1 h2
 .by_cases d:i=id
  .subst d;have:x=b:=by unfold eE at hi;simp[hnw]at hi;exact hi.symm
   subst this;refine ⟨w.heap.size,by simp,λhe=>?_,ob,s.at_,hob.mono λ_ _ h=>m.keep h⟩;have:=r.el _ he;omega
  .obtain⟨k,h1,h2,ob',h3,h4⟩:=r.at_ i x (hsub i x hi d).1;refine ⟨k,by rw[hφ i d];exact h1,h2,ob',?_,h4.mono λ_ _ h=>m.keep h⟩;rw[s.other k (hlt i x k (hsub i x hi d).1 h1)];exact h3
theorem qJ (w:World) (ob:Obj):Ri w {w with heap:=w.heap.push ob} ob:=by
 refine ⟨rfl,rfl,rfl,by simp,by simp,λj hj=>?_⟩;rw[Array.getElem?_push,aL (by omega)]
theorem Ri.drawn {w w':World} {ob:Obj} (d:Nat) (h:Ri {w with drawn:=d} w' ob):Ri w w' ob:=⟨h.os,h.tape,h.output,h.size,h.at_,h.other⟩
theorem gy.makes {P:Program} {o:Oper} {e:yO} {h:HF} {rd:ι} {nx:Nat} {b:uT} {val:AV}
 (hv:∀(φ:PM) (E:Nat->Prop) (h':HF) (w:World) (a:Act),(∀i∈rd,h' i=h i)->RP φ E h' w a e o->qG φ E h' w->
   ∃v w' ob,(execOp a.eval o).run P w= .ok (.value v) w'/\Ri w w' ob/\iS φ (tot E φ h') w b ob/\∀φ' O,φ' nx=Z w.heap.size->cE φ' O w' val v):
 gy P o e.get h ⟨val,rd,[nx],jd [(nx,b)],[nx]⟩:=by
 intro φ E h' w a h1 h2 h3 h4 z;obtain⟨v,w',ob,hrun,s,hob,hval⟩:=hv φ E h' w a h1 (λx y q d=>rG h4 h3 q d) h4;obtain⟨φ',I,F,D,A⟩:=h4.wnew (id:=nx) (z nx (by simp)) s hob [] (jd [(nx,b)]) (by simp[jd]) (by simp);unfold Gy;rw[hrun];exact⟨v,φ',rfl,F,D,A,hval φ' _ I⟩
theorem gy.writes {P:Program} {o:Oper} {e:yO} {h:HF} {rd:ι} {id:Nat} {b b':uT} {val:AV} (hb:h id=Z b)
 (hv:∀(φ:PM) (E:Nat->Prop) (h':HF) (w:World) (a:Act),(∀i∈rd,h' i=h i)->h' id=Z b->RP φ E h' w a e o->qG φ E h' w->
   ∃r w' k ob,(execOp a.eval o).run P w= .ok r w'/\φ id=Z k/\Ed w w' k ob/\iS φ (tot E φ h') w b' ob/\(∃v,(r= .value v\/r= .skip/\v=undef)/\cE φ (tot E φ (eE h' [id] (jd [(id,b')]))) w' val v)):
 gy P o e.get h ⟨val,rd,[id],jd [(id,b')],[]⟩:=by
 intro φ E h' w a h1 h2 h3 h4 D;obtain⟨r,w',k,ob,hrun,hk,A,hob,v,hr,hval⟩:=hv φ E h' w a h1 (by rw[h2 id (by simp)];exact hb) (λx y z s=>rG h4 h3 z s) h4;obtain⟨q,d⟩:=h4.wset (id:=id) (by rw[h2 id (by simp)];exact hb) hk A hob (jd [(id,b')]) (by simp[jd]);unfold Gy;rw[hrun];rcases hr with rfl|⟨rfl,rfl⟩
 .exact⟨v,φ,rfl,q,λ_ _ h=>.inl h,d,hval⟩
 .exact⟨undef,φ,rfl,q,λ_ _ h=>.inl h,d,hval⟩
theorem lP {l:Y AV} (h:gh l=M):∀x∈l,x.isCell=M:=by
 induction l with
 |nil=>intro x d;cases d
 |cons y l q=>
  simp only[gh,ak]at h;intro x d;rcases bu.1 d with rfl|d
  .exact h.1
  .exact q h.2 x d
theorem pC:∀{l:Y AV} {fs:Y FV},wP l=Z fs->l=fs.map .f
 |[],fs,h=>by simp only[wP,af]at h;subst h;rfl
 |.f x::r,fs,h=>by
  simp only[wP]at h;split at h
  .rename_i l hl;simp only[af]at h;subst h;rw[pC hl];rfl
  .cases h
 |.ptr _ _::_,_,h=>by simp[wP]at h
 |.sl _ _ _::_,_,h=>by simp[wP]at h
 |.row _ _ _::_,_,h=>by simp[wP]at h
 |.mp _::_,_,h=>by simp[wP]at h
 |.emp::_,_,h=>by simp[wP]at h
 |.agg _::_,_,h=>by simp[wP]at h
 |.tup _::_,_,h=>by simp[wP]at h
 |.clo _ _::_,_,h=>by simp[wP]at h
def Cs (φ:PM) (O:Nat->Prop) (w:World) (l:Y AV) (vs:ξ):Prop:=vs.length=l.length/\(∀x∈l,x.isCell=M)/\∀(j:Nat) x v,l[j]? =Z x->vs[j]? =Z v->cE φ O w x v
theorem BC.get_toMx {c:BC} (hc:c.isCells=M) (j:Nat):c.get j=c.toMx[j]? :=by
 cases c with
 |fz l=>simp[BC.get,BC.toMx]
 |mx l=>rfl
 |mp _=>cases hc
 |it _ _=>cases hc
theorem BC.len_toMx {c:BC} (hc:c.isCells=M):c.len=c.toMx.length:=by
 cases c with
 |fz l=>simp[BC.len,BC.toMx]
 |mx l=>rfl
 |mp _=>cases hc
 |it _ _=>cases hc
theorem nE (l:Y AV):(ox l).toMx=l/\(ox l).isCells=M:=by
 unfold ox;cases h:wP l with
 |none=>exact⟨rfl,rfl⟩
 |some fs=>exact⟨(pC h).symm,rfl⟩
theorem pP {φ:PM} {O:Nat->Prop} {w:World} {ty:TypeId} {c:BC} (hc:c.isCells=M) {arr:Array Value} (hl:c.toMx.length<=arr.size)
 (h:∀(j:Nat) x,c.toMx[j]? =Z x->x.isCell=M/\∃v,arr[j]? =Z v/\cE φ O w x v):iS φ O w ⟨ty,c⟩ (.cells arr ty (0,0)):=by
 have h2:uF φ O w c arr:=⟨by rw[BC.len_toMx hc];exact hl,λj x d=>h j x (by rw[<- BC.get_toMx hc];exact d)⟩
 unfold iS;cases hb:c with
 |fz l=>rw[hb]at h2;exact⟨arr,rfl,h2⟩
 |mx l=>rw[hb]at h2;exact⟨arr,rfl,h2⟩
 |mp _=>rw[hb]at hc;cases hc
 |it _ _=>rw[hb]at hc;cases hc
theorem Hu {φ:PM} {O:Nat->Prop} {w:World} {ty:TypeId} {l:Y AV} {vs:ξ} (h:Cs φ O w l vs):iS φ O w ⟨ty,ox l⟩ (.cells vs.toArray ty (0,0)):=by
 obtain⟨h1,h2⟩:=nE l;refine pP h2 (by rw[h1];simp[h.1]) λj x d=>?_
 rw[h1]at d;have hj:j<vs.length:=by rw[h.1];exact (bm.1 d).1
 exact⟨h.2.1 x (bg d),vs[j],by simp[hj],h.2.2 j x _ d (aw hj)⟩
theorem Tg {φ:PM} {O:Nat->Prop} {w:World} {x:AV} {v:Value} (h:cE φ O w x v) (hc:gh x.cs=M):Cs φ O w x.cs v.cells.toList:=by
 have one:x.cs=[x]->v.cells=#[v]->Cs φ O w x.cs v.cells.toList:=λh1 h2=>by
  rw[h1]at hc ⊢;rw[h2];exact⟨rfl,lP hc,λj y u d hu=>by cases j with|zero=>simp at d hu;subst d;subst hu;exact h|succ j=>simp at d⟩
 cases h with
 |ptr h=>exact one rfl rfl
 |sl h _ _=>exact one rfl rfl
 |row h _ _ _=>exact one rfl rfl
 |emp=>exact one rfl rfl
 |anyb=>exact one rfl rfl
 |ful _=>exact dP hc (by simp[AV.cs,gh,AV.isCell])
 |mp h=>exact one rfl rfl
 |clo _ _=>exact one rfl rfl
 |tup _ _=>exact dP hc (by simp[AV.cs,gh,AV.isCell])
 |@agg l vs hl hcl hr=>exact⟨hl,hcl,hr⟩
 |@f y u hf=>
  cases hf with
  |raw v=>
   have hv:v.oneCell'=M:=by
    have:(AV.f (.raw v)).cs=[.f (.raw v)]:=rfl;rw[this]at hc;simpa[gh,AV.isCell,FV.isCell] using hc
   refine one rfl ?_;cases v<;>first|rfl|simp[Value.oneCell']at hv
  |nil=>exact one rfl rfl
  |sl=>exact one rfl rfl
  |ptr=>exact one rfl rfl
  |agg l vs hl hcl hr=>
   refine ⟨by simp[AV.cs,Value.cells,hl],lP hc,λj y u d hu=>?_⟩;simp only[AV.cs,bf]at d;cases hq:l[j]? with
   |none=>rw[hq]at d;cases d
   |some q=>rw[hq]at d;simp at d;subst d;exact .f (hr j q u hq (by simpa[Value.cells] using hu))
theorem mj.one {O:Nat->Prop} {w:World} {x:FV} {v:Value} (h:mj O w x v) (hc:x.isCell=M):v.oneCell'=M:=by
 cases h with
 |raw v=>exact hc
 |nil=>rfl
 |sl=>rfl
 |ptr=>rfl
 |agg=>cases hc
theorem cE.one {φ:PM} {O:Nat->Prop} {w:World} {x:AV} {v:Value} (h:cE φ O w x v) (hc:x.isCell=M):v.oneCell'=M:=by
 cases h with
 |f h=>exact h.one hc
 |ptr=>rfl
 |sl=>rfl
 |row=>rfl
 |emp=>rfl
 |anyb=>rfl
 |ful=>cases hc
 |mp=>rfl
 |agg=>cases hc
 |tup=>cases hc
 |clo=>rfl
theorem Cs.one {φ:PM} {O:Nat->Prop} {w:World} {l:Y AV} {vs:ξ} (h:Cs φ O w l vs):∀v∈vs,v.oneCell'=M:=by
 intro v hv;obtain⟨j,hj⟩:=eR hv;have hlt:j<l.length:=by rw[<- h.1];exact (bm.1 hj).1
 exact (h.2.2 j _ v (aw hlt) hj).one (h.2.1 _ (qx hlt))
theorem Cs.append {φ:PM} {O:Nat->Prop} {w:World} {l q:Y AV} {vs vs':ξ} (h:Cs φ O w l vs) (h':Cs φ O w q vs'):Cs φ O w (l++q) (vs++vs'):=by
 refine ⟨by simp[h.1,h'.1],λx d=>(bN.1 d).elim (h.2.1 x) (h'.2.1 x),λj x v d hv=>?_⟩;rcases bM j l.length with hj|hj
 .rw[bT hj]at d;rw[bT (by rw[h.1];exact hj)]at hv;exact h.2.2 j x v d hv
 .rw[b8 hj]at d;rw[b8 (by rw[h.1];exact hj),h.1]at hv;exact h'.2.2 _ x v d hv
theorem Cs.take {φ:PM} {O:Nat->Prop} {w:World} {l:Y AV} {vs:ξ} (h:Cs φ O w l vs) (n:Nat):Cs φ O w (l.take n) (vs.take n):=by
 refine ⟨by simp[h.1],λx d=>h.2.1 x (fB d),λj x v d hv=>?_⟩;rw[cu]at d hv;split at d
 .rename_i hj;rw[aU hj]at hv;exact h.2.2 j x v d hv
 .cases d
theorem Cs.drop {φ:PM} {O:Nat->Prop} {w:World} {l:Y AV} {vs:ξ} (h:Cs φ O w l vs) (n:Nat):Cs φ O w (l.drop n) (vs.drop n):=by
 refine ⟨by simp[h.1],λx d=>h.2.1 x (List.mem_of_mem_drop d),λj x v d hv=>?_⟩;rw[gM]at d hv;exact h.2.2 _ x v d hv
theorem Cs.splice {φ:PM} {O:Nat->Prop} {w:World} {l d:Y AV} {vs vs':ξ} (h:Cs φ O w l vs) (h':Cs φ O w d vs') (off:Nat):Cs φ O w (splice l off d) (splice vs off vs'):=by
 unfold AI.splice;rw[h'.1];exact ((h.take off).append h').append (h.drop _)
theorem Cs.raws {φ:PM} {O:Nat->Prop} {w:World} (z:ξ) (q:mC z=M):Cs φ O w (z.map raw) z:=by
 refine ⟨by simp,λx d=>?_,λj x v d hv=>?_⟩
 .obtain⟨v,hv,rfl⟩:=cX.1 d;exact gj.1 q v hv
 .rw[bf]at d;rw[hv]at d;simp at d;subst d;exact .f (.raw v)
theorem Cs.mono {φ φ':PM} {O O':Nat->Prop} {w w':World} {l:Y AV} {vs:ξ} (h:Cs φ O w l vs) (hk:∀x v,cE φ O w x v->cE φ' O' w' x v):Cs φ' O' w' l vs:=⟨h.1,h.2.1,λj x v d hv=>hk _ _ (h.2.2 j x v d hv)⟩
theorem Ed.setRow {w:World} {k:Nat} {arr arr':Array Value} {ty:TypeId} (d:w.heap[k]? =Z (.cells arr ty (0,0))) (hs:arr'.size=arr.size):Ed w (w.setRow k arr') k (.cells arr' ty (0,0)):=by
 refine ⟨rfl,rfl,rfl,by simp,setRow_heap w k arr arr' ty (0,0) d,λj hj=>setRow_other w k j arr' hj,λj=>?_⟩;unfold ri;by_cases hj:j=k
 .subst hj;rw[setRow_heap w j arr arr' ty (0,0) d,d];simp[hs]
 .rw[setRow_other w k j arr' hj]
section
variable {P:Program} {o:Oper} {e:yO} {h:nR} {nx:Nat} {R:zN}
theorem sV {t:TypeId} {z:ξ} (d:sv P t=Z z) (w:World):∃v,(zeroValue t).run P w= .ok v w/\v.cells.toList=z/\∃i,P.info? t=Z i/\i.zero=Z v:=by
 unfold sv at d;cases hi:P.info? t with
 |none=>rw[hi]at d;cases d
 |some i=>
  rw[hi]at d;simp only[aD]at d;cases hv:i.zero with
  |none=>rw[hv]at d;cases d
  |some v=>
   rw[hv]at d;simp only[bU,af]at d;exact⟨v,by simp[zeroValue,typeInfo,hi,hv],d,i,rfl,hv⟩
theorem acp {t:TypeId} {z:ξ} (D:o.op= .alloc t) (A:sv P t=Z z) (hc:mC z=M) (s:ef (.alloc t z) e h nx=Z R):gy P o e.get h.get R.eff:=by
 simp only[ef,af]at s;subst s;refine gy.makes λφ E h' w a _ _ _=>?_
 obtain⟨v,h1,h2,_⟩:=sV A w;refine ⟨.pointer (Z ⟨w.heap.size,0,U⟩),{w with heap:=w.heap.push (.cells v.cells t)},.cells v.cells t (0,0),?_,qJ w _,?_,λφ' O hφ=>.ptr hφ⟩
 .unfold execOp;rw[D];simp[Instr.alloc,h1,newVar,newRow,newObj,j_]
 .have d:BC.toMx (.fz (z.map .raw))=z.map raw:=by simp[BC.toMx,raw]
  refine pP rfl (by rw[d,<-h2];simp) λj x q=>?_
  rw[d]at q;have cs:=Cs.raws (φ:=φ) (O:=tot E φ h') (w:=w) z hc;have hj:j<z.length:=by have:=(bm.1 q).1;simpa using this
  refine ⟨cs.2.1 x (bg q),z[j],?_,cs.2.2 j x _ q (aw hj)⟩;have:v.cells.toList[j]? =Z z[j]:=by rw[h2];exact aw hj
  simpa using this
theorem aip {t:TypeId} {x:Operand} (q:o.op= .box t x) (d:ef (.box t x) e h nx=Z R):gy P o e.get h.get R.eff:=by
 simp only[ef]at d;split at d
 .rename_i v s;split at d
  .rename_i hc;simp only[af]at d;subst d;refine gy.makes λφ E h' w a _ hp _=>?_
   have hr:=Tg (hp x _ (by rw[q];simp[Op.operands]) s) hc;refine ⟨.pointer (Z ⟨w.heap.size,0,U⟩),{w with heap:=w.heap.push (.cells (a.eval x).cells t)},.cells (a.eval x).cells t (0,0),?_,qJ w _,?_,λφ' O hφ=>.ptr hφ⟩
   .unfold execOp;rw[q];simp[Instr.box,newVar,newRow,newObj,j_]
   .have:=Hu (ty:=t) hr;simpa using this
  .cases d
 .cases d
theorem mG {α:Type} {l vs:Y α} {off:Nat} (hle:off+vs.length<=l.length) (j:Nat):(splice l off vs)[j]? =if j<off then l[j]? else if j<off+vs.length then vs[j-off]? else l[j]? :=by
 unfold splice;rw[ir];have h1:(l.take off).length=off:=by simp;omega
 by_cases hj:j<off
 .rw[aU hj,bT (by rw[h1];exact hj),cu,aU hj]
 .rw[aL hj,b8 (by omega),h1];by_cases d:j<off+vs.length
  .rw[aU d,bT (by omega)]
  .rw[aL d,b8 (by omega),gM];congr 1;omega
theorem oc {α:Type} {l vs:Y α} {off:Nat} (hle:off+vs.length<=l.length):(splice l off vs).length=l.length:=by
 unfold splice;simp;omega
theorem PY (off:Nat):∀(vs:ξ) (k:Nat) (arr:Array Value),off+k+vs.length<=arr.size->∀j:Nat,
 ((vs.zipIdx k).foldl (λcs (p:Value×Nat)=>cs.setIfInBounds (off+p.2) p.1) arr)[j]? =if j<off+k then arr[j]? else if j<off+k+vs.length then vs[j-(off+k)]? else arr[j]?
 |[],k,arr,_,j=>by
  simp only[List.zipIdx_nil,List.foldl_nil,jW,db];split<;>rfl
 |v::vs,k,arr,hle,j=>by
  simp only[ca]at hle;rw[List.zipIdx_cons,El,PY off vs (k+1) _ (by simp;omega) j];simp only[ca];by_cases h1:j<off+k
  .rw[aU (by omega),aU h1,pE (by omega)]
  .by_cases h2:j=off+k
   .subst h2;rw[aU (by omega),aL (by omega),aU (by omega)];simp[show off+k<arr.size by omega]
   .rw[aL (by omega),aL h1];by_cases h3:j<off+k+(vs.length+1)
    .rw[aU (by omega),aU h3,show j-(off+k)=(j-(off+(k+1)))+1 from by omega];simp
    .rw[aL (by omega),aL h3,pE (by omega)]
theorem PW (off:Nat) (c:Array Value) (l:ξ) (hle:off+c.size<=l.length):(c.zipIdx.foldl (λcs (p:Value×Nat)=>cs.setIfInBounds (off+p.2) p.1) l.toArray)=(splice l off c.toList).toArray:=by
 rw[<- Array.foldl_toList,Array.toList_zipIdx];apply Array.ext_getElem?;intro j;rw[PY off c.toList 0 l.toArray (by simpa using hle) j];simp only[db,kq];rw[mG (by simpa using hle)]
theorem Np {φ:PM} {E:Nat->Prop} {h':HF} {w:World} {a:Act} (hp:RP φ E h' w a e o) {place:Nat->J (Nat×Nat)}:∀(ps:Y (Nat×Operand)) (ps':Y (Nat×Nat×Operand)) (cells cs:Y AV) (vs:ξ),
 (ps'.length=ps.length)->(∀(j:Nat) i x,ps[j]? =Z (i,x)->∃of sz,ps'[j]? =Z (of,sz,x)/\place i=Z (of,sz))->(∀p∈ps,p.2∈o.op.operands)->Cs φ (tot E φ h') w cells vs->yn cells e ps'=Z cs->
 ∃vs',Instr.fill place vs.toArray (ps.map λp=>(p.1,a.eval p.2))=Z vs'.toArray/\Cs φ (tot E φ h') w cs vs'
 |[],ps',cells,cs,vs,hl,_,_,hcs,hf=>by
  cases ps' with
  |nil=>simp only[yn,af]at hf;subst hf;exact⟨vs,rfl,hcs⟩
  |cons _ _=>simp at hl
 |(i,x)::ps,ps',cells,cs,vs,hl,hpl,hm,hcs,hf=>by
  obtain⟨of,sz,h1,h2⟩:=hpl 0 i x rfl;cases ps' with
  |nil=>simp at h1
  |cons p ps'=>
   simp at h1;subst h1;simp only[yn]at hf;split at hf
   .rename_i v hv;split at hf
    .rename_i hc;simp only[ak,cO]at hc;obtain⟨⟨s,q⟩,d⟩:=hc;have hr:=Tg (hp x v (hm _ (eo ..)) hv) d;have hsz:(a.eval x).cells.size=sz:=by have:=hr.1;simp at this;omega
     have hle:of+sz<=vs.length:=by rw[hcs.1];exact a9 q
     obtain⟨vs',A,z⟩:=Np hp ps ps' _ cs _ (by simpa using hl) (λj i x hj=>by have:=hpl (j+1) i x (by simpa using hj);simpa using this) (λp hp=>hm p (di _ hp)) (hcs.splice hr of) hf;refine ⟨vs',?_,z⟩;simp only[eW,Instr.fill,h2];have hcd:((decide ((a.eval x).cells.size≠sz))||decide (of+(a.eval x).cells.size>vs.toArray.size))=aa:=by
      rw[hsz];simp;omega
     rw[aL (by rw[hcd];simp)];have:=PW of (a.eval x).cells vs (by rw[hsz];exact hle);rw[<- A,<-this]
    .cases hf
   .cases hf
theorem De {t:TypeId}:∀(ps:Y (Nat×Operand)) (ps':Y (Nat×Nat×Operand)),v8 P t ps=Z ps'->ps'.length=ps.length/\∀(j:Nat) i x,ps[j]? =Z (i,x)->∃of sz,ps'[j]? =Z (of,sz,x)/\Ax P t i=Z (of,sz)
 |[],ps',h=>by simp only[v8,af]at h;subst h;exact⟨rfl,λj i x s=>by simp at s⟩
 |(i,x)::ps,ps',h=>by
  simp only[v8]at h;split at h
  .rename_i of sz l h1 h2;simp only[af]at h;subst h;obtain⟨A,z⟩:=De ps l h2;refine ⟨by simp[A],λj q d hj=>?_⟩;cases j with
   |zero=>simp at hj;obtain⟨rfl,rfl⟩:=hj;exact⟨of,sz,rfl,h1⟩
   |succ j=>simpa using z j q d (by simpa using hj)
  .cases h
theorem HG (w:World):∀(fs:Y Field),(fs.all λf=>(eY P f.type).isSome)=M->(fs.mapM (λf=>do pure (f.offset,<-sizeOf f.type)):Sem (Y (Nat×Nat))).run P w= .ok (fs.map λf=>(f.offset,(eY P f.type).getD 0)) w
 |[],_=>by simp
 |f::fs,h=>by
  simp only[List.all_cons,ak]at h;obtain⟨sz,hs⟩:=iI.1 h.1;have h1:=fQ hs w;have d:=HG w fs h.2;simp only[List.mapM_cons,ey,h1,cF,oE,d,eW,hs,uh]
theorem Vu {t:TypeId} {ps:Array (Nat×Operand)} {z:ξ} {ps':Y (Nat×Nat×Operand)} (s:o.op= .build t ps) (D:sv P t=Z z) (hc:mC z=M) (hps:v8 P t ps.toList=Z ps')
 (hu:(∃fs,P.underlying t=Z (.struct fs)/\(fs.toList.all λf=>(eY P f.type).isSome)=M)\/∃n el sz,P.underlying t=Z (.array n el)/\eY P el=Z sz) (d:ef (.build z ps') e h nx=Z R):gy P o e.get h.get R.eff:=by
 simp only[ef]at d;split at d
 .rename_i cs hf;rw[dt d];refine gy.reads λφ E h' w a _ hp _=>?_
  obtain⟨v,h1,h2,_⟩:=sV D w;have hcells:v.cells=z.toArray:=by rw[<- h2]
  obtain⟨I,F⟩:=De ps.toList ps' hps;have hops:∀p∈ps.toList,p.2∈o.op.operands:=λp hp=>by
   rw[s];simp only[Op.operands,List.mem_toArray,cX];exact⟨p,hp,rfl⟩
  have hmap:(ps.map λx:Nat×Operand=>(x.1,a.eval x.2)).toList=ps.toList.map λp=>(p.1,a.eval p.2):=by simp
  have fin:∀place:Nat->J (Nat×Nat),(∀i,Ax P t i≠U->place i=Ax P t i)->∃vs':ξ,Instr.fill place v.cells (ps.map λx:Nat×Operand=>(x.1,a.eval x.2)).toList=Z vs'.toArray/\cE φ (tot E φ h') w (LF cs) (.agg vs'.toArray):=by
   intro place hpl;obtain⟨vs',k1,k2⟩:=Np (place:=place) hp ps.toList ps' _ cs z I (λj i x hj=>by
    obtain⟨of,sz,q1,q2⟩:=F j i x hj;exact⟨of,sz,q1,by rw[hpl i (by rw[q2];simp),q2]⟩) hops (Cs.raws z hc) hf
   refine ⟨vs',by rw[hmap,hcells];exact k1,?_⟩;unfold LF;cases hfs:wP cs with
   |none=>exact .agg k2.1 k2.2.1 k2.2.2
   |some fs=>
    have he:=pC hfs;refine .f (.agg fs vs' (by rw[k2.1,he];simp) (λx q=>k2.2.1 (.f x) (by rw[he];exact cX.2 ⟨x,q,rfl⟩)) λj x u q hu=>?_);have:=k2.2.2 j (.f x) u (by rw[he,bf,q];rfl) hu;cases this with
    |f h=>exact h
  rcases hu with ⟨fs,hu,hall⟩|⟨n,el,sz,hu,hs⟩
  .obtain⟨vs',k1,k2⟩:=fin (λi=>(fs.map λf=>(f.offset,(eY P f.type).getD 0))[i]?) (λi hi=>by
    unfold Ax at hi ⊢;rw[hu]at hi ⊢;simp only[Array.getElem?_map]at hi ⊢;cases hf:fs[i]? with
    |none=>rw[hf]at hi;simp at hi
    |some f=>
     simp only[bU,aD];cases hs:eY P f.type with
     |none=>rw[hf]at hi;simp[hs]at hi
     |some sz=>simp)
   refine ⟨_,?_,k2⟩;have hm:=HG w fs.toList hall;have A:(fs.mapM (λf=>do pure (f.offset,<-sizeOf f.type)):Sem (Array (Nat×Nat))).run P w= .ok (fs.map λf=>(f.offset,(eY P f.type).getD 0)) w:=by
    rw[Array.mapM_eq_mapM_toList];simp only[Sem.run_map,hm,cF];congr 1;apply J4;simp
   unfold execOp;rw[s];simp only[Instr.build,ey,h1,cF,run_underlying hu,A,oE,k1]
  .obtain⟨vs',k1,k2⟩:=fin (λi=>Z (i*sz,sz)) (λi hi=>by
    unfold Ax;rw[hu];simp[hs])
   refine ⟨_,?_,k2⟩;have h3:=fQ hs w;unfold execOp;rw[s];simp only[Instr.build,ey,h1,cF,run_underlying hu,h3,oE,k1]
 .cases d
end
end
end Go.Proofs.YtiaemgcbndhkfaaGreatDoor.AI
