/-
  Texts of the proof, part 3 of 6: what is used to prove the statement. No condition.
-/
import Derived.Test.YtiaemgcbndhkfaaGreatDoorEpochRefusesQ1
import Derived.WalkSpells
import Derived.Laws.CopyRow
import Derived.Deep.AppendSrc
import Derived.Laws.AppendOwn
namespace Go.Proofs.YtiaemgcbndhkfaaGreatDoor.AI
open Go.RowKit
set_option maxRecDepth 100000
set_option maxHeartbeats 4000000
set_option linter.unusedVariables false
set_option linter.unusedSimpArgs false
open _root_.Array renaming range→xL
open _root_.Bool renaming true→M,false→aa,and_false→ub,eq_iff_iff→ED
open Call renaming operands→dQ
open _root_.Int renaming ofNat_eq_natCast→aj,reduceEq→aN,toNat→aO,reduceNeg→aR,ofNat→aT,tmod→bu,toNat_natCast→cW,le_trans→eT,max_le→xg
open _root_.Int.ofNat renaming inj→sa
open IntKind renaming wrap→oL
open _root_.List renaming length→ah,replicate→aA,length_cons→ch,length_singleton→c9,take→dj,toArray→eR,range→gx,length_nil→j6,replicate_succ→pN,getElem_of_mem→ve,foldl_cons→EB
open _root_.Nat renaming beq→ax,add_zero→dc,blt→eQ
open Oper renaming wp→GY
open _root_.Option renaming some→Z,none→U,bind_some→aD,map_some→bW,getD_some→uo
open _root_.Prod renaming p2→aX,p3→bh,p4→bm,q3→bp,p5→bT,q5→cD,q4→cI,p6→cX,q6→dC,q7→gd,p7→gN,q8→lz,p8→rn,p10→ua,p9→um,p11→yZ,q9→GW,p12→Kk
open Result renaming andThen_ok→cL
open Sem renaming run_bind→eA,run→kf,run_pure→oI
open _root_.Sum renaming inl→pM
open Utf8 renaming decode→xJ
open World renaming shape?→rk,cell?→MW
noncomputable section
abbrev DT:Type:=Int×Int×ζ×Int×Int×ζ
abbrev HT:Type:=ζ×Int×Y ζ×Y Sx
abbrev PG:Type:=Y DT×Y HT
structure PX (p:PG):Prop where
 d:p.1.length<=100
 t:p.2.length<=8
 l:∀t∈p.2,t.2.2.1.length<=100
 b:∀t∈p.2,t.2.2.2.length<=100
 s:∀t∈p.2,∀s∈t.2.2.2,GT 5 s
theorem Xv (p:PG) (h:PX p):Ok (rU p) λ_=>True:=by
 obtain⟨hd,ht,hl,hb,hs⟩:=h;unfold rU aX bm cD bA bJ aY cM aB cw;refine b9 p.1.length (λi x=>x.1=(i:Int)/\x.2=p) ?_ ?_ ⟨rfl,rfl⟩
 .rintro i ⟨a,x⟩ hi ⟨e1,e2⟩;dsimp only at e1 e2;subst e1;subst e2;refine aQ (λ_=>?_) λg=>(by dsimp only[aj]at g;omega)
  refine aK (by dsimp only;omega) (by dsimp only;omega) (aV ?_);refine ar (Ky _) λ_ _=>?_
  exact cV (λ_=>ai trivial) λ_=>ai ⟨fo (by omega),rfl⟩
 rintro⟨a,x⟩ ⟨e1,e2⟩;dsimp only at e1 e2;subst e1;subst e2;refine aQ (λg=>(by dsimp only[aj]at g;omega)) λ_=>?_
 refine ar (P:=λ_=>True) ?_ λ_ _=>ai trivial
 refine b9 x.2.length (λi y=>y.1=(i:Int)/\y.2=x) ?_ ?_ ⟨rfl,rfl⟩
 .rintro i ⟨a,x⟩ hi ⟨e1,e2⟩;dsimp only at e1 e2;subst e1;have e2:=e2.symm;subst e2;refine aQ (λ_=>?_) λg=>(by dsimp only[aj]at g;omega)
  refine aK (by dsimp only;omega) (by dsimp only;omega) (aV ?_);have hm:=bG (T:=Ht) (xs:=x.2) (j:=(i:Int)) (by omega) (by omega);have h1:=hl _ hm;have h2:=hb _ hm;have s:=hs _ hm;revert h1 h2 s;generalize (aH (T:=Ht) x.2 (i:Int))=t;intro h1 h2 s;refine b9 t.2.2.1.length (λk y=>y.1=(k:Int)/\y.2=(x,t)) ?_ ?_ ⟨rfl,rfl⟩
  .rintro k ⟨a,z⟩ hk ⟨q,d⟩;dsimp only at q d;subst q;subst d;refine aQ (λ_=>?_) λg=>(by dsimp only[aj]at g;omega)
   refine aK (by dsimp only;omega) (by dsimp only;omega) (aV ?_);refine ar (iu _) λ_ _=>?_
   exact cV (λ_=>ai trivial) λ_=>ai ⟨fo (by omega),rfl⟩
  .rintro⟨a,z⟩ ⟨q,d⟩;dsimp only at q d;subst q;subst d;refine aQ (λg=>(by dsimp only[aj]at g;omega)) λ_=>?_
   refine ar (P:=λr=>match r with|.inl y=>y.1=((i+1:Nat):Int)/\y.2=x|.inr _=>True) ?_ ?_
   .refine aU (λy=>y.2=x) ?_ ?_
    .refine ar (iu _) λ_ _=>cV (λ_=>ai rfl) λ_=>?_
     exact ar (J4 5 (by omega) _ (by dsimp only;omega) s) λ_ _=>ai rfl
    rintro⟨b,y⟩ e;dsimp only at e;subst e;exact aJ (λ_=>ai trivial) λ_=>ai ⟨fo (by omega),rfl⟩
   .rintro (y|y) A
    .exact ai A
    .exact ai trivial
 .rintro⟨a,y⟩ ⟨e1,e2⟩;dsimp only at e1 e2;subst e1;subst e2;exact aQ (λg=>(by dsimp only[aj]at g;omega)) λ_=>ai trivial
theorem wa (l:Y DT) (s:ζ) (hl:l.length<=1000):Ok (iH (l,s)) λr=> -1<=r/\r<(l.length:Int):=by
 unfold iH bA bJ aY cM aB cw;refine b9 l.length (λi x=>x=(i:Int)) ?_ ?_ rfl
 .rintro i x hi rfl;refine aQ (λ_=>?_) λg=>(by dsimp only[aj]at g;omega)
  refine aK (by omega) (by dsimp only;omega) (aV ?_);exact aE (λ_=>ai ⟨by omega,by omega⟩) λ_=>ai (fo (by omega))
 .rintro x rfl;exact aQ (λg=>(by dsimp only[aj]at g;omega)) λ_=>ai ⟨by omega,by omega⟩
theorem r9 (l:Y HT) (s:ζ) (hl:l.length<=1000):Ok (iB (l,s)) λr=> -1<=r/\r<(l.length:Int):=by
 unfold iB bA bJ aY cM aB cw;refine b9 l.length (λi x=>x=(i:Int)) ?_ ?_ rfl
 .rintro i x hi rfl;refine aQ (λ_=>?_) λg=>(by dsimp only[aj]at g;omega)
  refine aK (by omega) (by dsimp only;omega) (aV ?_);exact aE (λ_=>ai ⟨by omega,by omega⟩) λ_=>ai (fo (by omega))
 .rintro x rfl;exact aQ (λg=>(by dsimp only[aj]at g;omega)) λ_=>ai ⟨by omega,by omega⟩
def DD (p:PG) (s:ζ):Prop:=∃v,iH (p.1,s)=Z v/\0<=v/\v<(p.1.length:Int)
theorem XH (p:PG) (h:PX p) (t:Int) (s:ζ):Ok (rT (p,t,s)) λk=>k≠0->k≠7->k≠8->DD p s:=by
 have hd:=h.d;have ht:=h.t;unfold rT bg bA ji iT mq bJ aY aB;refine aU (λx=>x.2=p) ?_ ?_
 .refine dV (λA=>aQ (λz=>?_) λ_=>ai rfl) λ_=>ai rfl
  dsimp only[aj]at A z;refine aK A z (aV ?_);have hm:=h.l _ (bG (T:=Ht) (xs:=p.2) (j:=t) A z);exact ar (AG _ s (cY hm (by omega))) λ_ _=>ai rfl
 rintro⟨b,x⟩ e;dsimp only at e;have e:=e.symm;subst e;refine aJ (λ_=>ai λ_ _ h=>(h rfl).elim) λ_=>?_
 obtain⟨v,hv,v0,v1⟩:=wa p.1 s (by omega);refine aS hv ?_;refine aQ (λ_=>?_) λg=>?_
 .exact ar (r9 p.2 s (by omega)) λ_ _=>dV (λ_=>ai λ_ h=>(h rfl).elim) λ_=>ai λh=>(h rfl).elim
 have q:DD p s:=⟨v,hv,g,v1⟩
 refine aK g v1 (aV ?_);refine aE (λ_=>?_) λ_=>?_
 .exact aK g v1 (aV (bY (λ_=>ai λ_ _ _=>q) λ_=>ai λ_ _ _=>q))
 refine aE (λ_=>ai λ_ _ _=>q) λ_=>?_
 refine aU (λx=>x.2=p) (aE (λ_=>ai rfl) λ_=>aE (λ_=>ai rfl) λ_=>aE (λ_=>ai rfl) λ_=>ai rfl) ?_;rintro⟨b,x⟩ e;dsimp only at e;have e:=e.symm;subst e;exact aJ (λ_=>aK g v1 (aV (ai λ_ _ _=>q))) λ_=>ai λ_ _ _=>q
theorem oN (p:PG) (h:PX p) (t:Int) (s:ζ) (a b:Int):Ok (gX (p,t,s,a,b)) λr=>r=0->(a≠7/\a≠8)->(b≠7/\b≠8)->DD p s:=by
 unfold gX aX bh cI bg iT aB;refine ar (XH p h t s) λk hk=>?_
 refine aE (λ_=>ai λh=>(by cases h)) λg=>?_
 refine aU (λx=>x=aa->k=a\/k=b) ?_ ?_
 .refine bY (λ_=>ai λh=>?_) λh=>ai λ_=>.inl h
  simp at h;exact .inr h
 rintro x d;refine aJ (λ_=>ai λh=>(by cases h)) λh=>ai λ_ h1 h2=>hk g ?_ ?_
 .rcases d h with h|h<;>omega
 .rcases d h with h|h<;>omega
theorem Mi:∀(n d:Nat) (e:Xp),d<n->GX d e->Ok (pw n e) λ_=>True
 |0,_,_,h,_=>by omega
 |n+1,0,_,_,h=>h.elim
 |n+1,d+1,e,hn,h=>by
  obtain⟨h1,h2⟩:=h;rw[Gj];unfold wG bA bJ cM aB cw;refine b9 e.l.length (λi x=>x.1.2.2=(i:Int)/\x.2=e) ?_ ?_ ⟨rfl,eX e⟩
  .rintro i ⟨⟨a,b,c⟩,z⟩ hi ⟨e1,e2⟩;dsimp only at e1 e2;subst e1;subst e2;refine aQ (λ_=>?_) λg=>(by dsimp only[aj]at g;omega)
   refine aK (by dsimp only;omega) (by dsimp only;omega) (aV ?_);refine ar (Mi n d _ (by omega) (h2 _ (bG (T:=.ex) (xs:=z.l) (j:=(i:Int)) (by omega) (by omega)))) λ_ _=>ai ?_
   exact⟨fo (by omega),eX z⟩
  .rintro⟨⟨a,b,c⟩,z⟩ ⟨e1,e2⟩;dsimp only at e1 e2;subst e1;subst e2;exact aQ (λg=>(by dsimp only[aj]at g;omega)) λ_=>ai trivial
theorem E5 (p:PG) (hp:PX p) (t:Int):∀(n d:Nat) (e:Xp),d<n->GX d e->Ok (pu n (p,t,e)) λ_=>True
 |0,_,_,h,_=>by omega
 |n+1,0,_,_,h=>h.elim
 |n+1,d+1,e,hn,h=>by
  obtain⟨h1,h2⟩:=h;rw[Gi];unfold wF bg bA bJ cM aB cw;refine aU (λx=>x.2.1=p/\x.2.2=e) ?_ ?_
  .refine aE (λ_=>ar (oN p hp t _ _ _) λ_ _=>ai ⟨rfl,eX e⟩) λ_=>aE (λ_=>ar (oN p hp t _ _ _) λ_ _=>ai ⟨rfl,eX e⟩) λ_=>ai ⟨rfl,eX e⟩
  rintro⟨r,z,e'⟩ ⟨s,q⟩;dsimp only at s q;have s:=s.symm;subst s;have q:=q.symm;subst q;refine mB (λx=>((e.l.length:Int)-x.1.2).toNat) (λx=>0<=x.1.2/\x.2.1=p/\x.2.2=e) ?_ ⟨fb _,rfl,eX e⟩;rintro⟨⟨a,(b:Int)⟩,z,e'⟩ ⟨b0,s,q⟩;dsimp only at b0 s q;have s:=s.symm;subst s;have q:=q.symm;subst q;refine aU (λx=>x.2.1=p/\x.2.2=e/\(x.1=M->b<(e.l.length:Int))) ?_ ?_
  .exact aQ (λg=>ai ⟨rfl,eX e,λ_=>g⟩) λ_=>ai ⟨rfl,eX e,λh=>(by cases h)⟩
  rintro⟨c,z,e'⟩ ⟨s,q,A⟩;dsimp only at s q A;have s:=s.symm;subst s;have q:=q.symm;subst q;refine aJ (λhc=>?_) λ_=>ai trivial
  have g:=A hc;refine aK b0 g (aV ?_);refine ar (E5 p hp t n d _ (by omega) (h2 _ (bG (T:=.ex) (xs:=e.l) (j:=b) b0 g))) λ_ _=>ai ?_
  dsimp only;rw[gI (n:=b+1) (by omega) (by omega)];exact⟨⟨by omega,rfl,eX e⟩,by omega⟩
theorem v_ (p:PG) (hp:PX p) (t:Int) (e:Xp) (h:GX 4 e):Ok (nH (p,t,e)) λ_=>True:=by
 unfold nH bA aB;have s:GX 4 (d9 (Xp.op e,Xp.n e,Xp.name e,Xp.l e)):=by rw[eX];exact h
 refine ar (f_ _ s) λ_ _=>cV (λ_=>ai trivial) λ_=>?_
 refine ar (Mi fuel 4 _ (by rw[qk];omega) s) λ_ _=>?_
 refine aU (λx=>x.2.1=p/\x.2.2=e) (aQ (λ_=>ai ⟨rfl,eX e⟩) λ_=>ai ⟨rfl,eX e⟩) ?_;rintro⟨r,z,e'⟩ ⟨q,d⟩;dsimp only at q d;have q:=q.symm;subst q;have d:=d.symm;subst d;exact aJ (λ_=>ai trivial) λ_=>ar (E5 p hp t fuel 4 _ (by rw[qk];omega) s) λ_ _=>ai trivial
theorem fe (b:Bool):Ok (da b) λ_=>True:=by
 unfold da;exact aJ (λ_=>ai trivial) λ_=>ai trivial
theorem ti (x:Γ):Ok (js x) λr=>r=0->x.1=0/\x.2=0:=by
 unfold js iT;exact bY (λh=>ai λh2=>(h h2).elim) λh=>ai λh2=>⟨h,h2⟩
abbrev WK:Type:=(Y DT×Y HT×Int)×(Bool×Y Sx)×Y ζ×Y ζ
theorem Wf (a b:Int) (s:ζ) (w:WK) (h:w.2.1.2.length<=100):Ok (em ((a,b,s),w)) λy=>y.2=w:=by
 unfold em aX bg bA kM aY cM aB cw;refine b9 w.2.1.2.length (λi x=>x.1=(i:Int)/\x.2=w) ?_ ?_ ⟨rfl,rfl⟩
 .rintro i ⟨c,x⟩ hi ⟨e1,e2⟩;dsimp only at e1 e2;subst e1;have e2:=e2.symm;subst e2;refine aQ (λ_=>?_) λg=>(by dsimp only[aj]at g;omega)
  refine aK (by dsimp only;omega) (by dsimp only;omega) (aK (by dsimp only;omega) (by dsimp only;omega) (aV ?_));refine aU (λx=>x.2=w) ?_ ?_
  .refine aE (λ_=>aE (λ_=>ai rfl) λ_=>ai rfl) λ_=>aE (λ_=>aE (λ_=>ai rfl) λ_=>ai rfl) λ_=>ai rfl
  rintro⟨c,x⟩ e;dsimp only at e;have e:=e.symm;subst e;exact aJ (λ_=>ai rfl) λ_=>ai ⟨fo (by omega),rfl⟩
 .rintro⟨c,x⟩ ⟨e1,e2⟩;dsimp only at e1 e2;subst e1;have e2:=e2.symm;subst e2;exact aQ (λg=>(by dsimp only[aj]at g;omega)) λ_=>ai rfl
theorem D7:∀(n d:Nat) (l:Y Sx),d<n->l.length<=1000->(∀s∈l,GT d s)->Ok (px n l) λ_=>True
 |0,_,_,h,_,_=>by omega
 |n+1,d,l,hn,hl,h=>by
  rw[Gk];unfold wH bA mq aY cM aB cw;refine b9 l.length (λi x=>x.2=(i:Int)) ?_ ?_ rfl
  .rintro i ⟨a,b⟩ hi e1;dsimp only at e1;subst e1;refine aQ (λ_=>?_) λg=>(by dsimp only[aj]at g;omega)
   refine aK (by dsimp only;omega) (by dsimp only;omega) (aV ?_);have hm:=h _ (bG (T:=.sm) (xs:=l) (j:=(i:Int)) (by omega) (by omega));revert hm;generalize (aH (T:=.sm) l (i:Int))=s;intro hm;cases d with
   |zero=>exact hm.elim
   |succ d=>
    obtain⟨_,_,_,D,A,z,q⟩:=hm;refine ar (D7 n d _ (by omega) (by omega) z) λ_ _=>?_
    refine aK (by dsimp only;omega) (by dsimp only;omega) (aV ?_);exact ar (D7 n d _ (by omega) (by omega) q) λ_ _=>ai (fo (by omega))
  .rintro⟨a,b⟩ e1;dsimp only at e1;subst e1;exact aQ (λg=>(by dsimp only[aj]at g;omega)) λ_=>ai trivial
theorem Tv (l:Y DT) (hl:l.length<=100):Ok (tF l) λ_=>True:=by
 unfold tF aX bh bm bp cI dC bg bA ji iT bt bJ aY cM aB cw;refine b9 l.length (λi x=>x.2.2.2.2=(i:Int)) ?_ ?_ rfl
 .rintro i ⟨a,b,c,d,e⟩ hi e1;dsimp only at e1;subst e1;refine aQ (λ_=>?_) λg=>(by dsimp only[aj]at g;omega)
  refine aU (λ_=>True) ?_ λx _=>ai (fo (by omega))
  refine aK (by dsimp only;omega) (by dsimp only;omega) (aV ?_);have htk:(dj (aO (i:Int)) l).length<=100:=by rw[cg];omega
  refine cR (dv (by dsimp only;omega) (dv (by dsimp only;omega) ?_));refine ar (wa _ _ (cY htk (by omega))) λv hv=>?_
  refine dV (λ_=>ai trivial) λ_=>aQ (λ_=>ai trivial) λ_=>?_
  refine aU (λ_=>True) ?_ λx _=>?_
  .refine aU (λ_=>True) (aE (λ_=>ai trivial) λ_=>ai trivial) λx _=>aJ (λ_=>ai trivial) λ_=>?_
   refine aU (λ_=>True) (aE (λ_=>ai trivial) λ_=>ai trivial) λx _=>aJ (λ_=>ai trivial) λ_=>?_
   exact aE (λ_=>ai trivial) λ_=>ai trivial
  refine aU (λ_=>True) (aQ (λ_=>ai trivial) λ_=>aQ (λ_=>ai trivial) λ_=>aQ (λ_=>ai trivial) λ_=>ai trivial) λx _=>aJ (λ_=>ai trivial) λ_=>?_
  refine aE (λ_=>?_) λ_=>ai trivial
  refine cR (dv (by dsimp only;omega) (dv (by dsimp only;omega) ?_));refine ar (wa _ _ (cY htk (by omega))) λv hv=>?_
  refine aQ (λ_=>ai trivial) λg=>?_
  have h2:=hv.2;rw[cg]at h2;exact aK g (by dsimp only at h2 ⊢;omega) (aV (bY (λ_=>ai trivial) λ_=>ai trivial))
 .rintro⟨a,b,c,d,e⟩ e1;dsimp only at e1;subst e1;exact aQ (λg=>(by dsimp only[aj]at g;omega)) λ_=>ai trivial
theorem M1 (p:PG) (h:PX p):Ok (qa p) λ_=>True:=by
 have hd:=h.d;have ht:=h.t;unfold qa aX bh bm bA ji bt bJ aY cM aB cw;refine b9 p.2.length (λi x=>x.1=(i:Int)/\x.2=p) ?_ ?_ ⟨rfl,rfl⟩
 .rintro i ⟨a,x⟩ hi ⟨e1,e2⟩;dsimp only at e1 e2;subst e1;have e2:=e2.symm;subst e2;refine aQ (λ_=>?_) λg=>(by dsimp only[aj]at g;omega)
  refine aK (by dsimp only;omega) (by dsimp only;omega) (aV ?_);refine aU (λx=>x.2.1=p) ?_ ?_
  .refine ar (wa _ _ (by dsimp only;omega)) λv hv=>dV (λ_=>ai rfl) λ_=>?_
   refine cR (dv (by dsimp only;omega) (dv (by dsimp only;omega) ?_));exact ar (r9 _ _ (by rw[cg];dsimp only;omega)) λ_ _=>ai rfl
  rintro⟨b,x,z⟩ e;dsimp only at e;have e:=e.symm;subst e;exact aJ (λ_=>ai trivial) λ_=>ai ⟨fo (by omega),rfl⟩
 rintro⟨a,x⟩ ⟨e1,e2⟩;dsimp only at e1 e2;subst e1;have e2:=e2.symm;subst e2;refine aQ (λg=>(by dsimp only[aj]at g;omega)) λ_=>?_
 refine ar (P:=λ_=>True) ?_ λ_ _=>ai trivial
 refine b9 p.2.length (λi x=>x.1=(i:Int)/\x.2=p) ?_ ?_ ⟨rfl,rfl⟩
 .rintro i ⟨a,x⟩ hi ⟨e1,e2⟩;dsimp only at e1 e2;subst e1;have e2:=e2.symm;subst e2;refine aQ (λ_=>?_) λg=>(by dsimp only[aj]at g;omega)
  refine aK (by dsimp only;omega) (by dsimp only;omega) (aV ?_);have hm:=h.l _ (bG (T:=Ht) (xs:=p.2) (j:=(i:Int)) (by omega) (by omega));revert hm;generalize (aH (T:=Ht) p.2 (i:Int))=t;intro hm;refine aQ (λ_=>ai trivial) λ_=>?_
  refine b9 t.2.2.1.length (λk y=>y.1=(k:Int)/\y.2=(p,t)) ?_ ?_ ⟨rfl,rfl⟩
  .rintro k ⟨a,z⟩ hk ⟨s,q⟩;dsimp only at s q;subst s;subst q;refine aQ (λ_=>?_) λg=>(by dsimp only[aj]at g;omega)
   refine aK (by dsimp only;omega) (by dsimp only;omega) (aV ?_);refine aU (λx=>x.2=(p,t)) ?_ ?_
   .refine ar (wa _ _ (by dsimp only;omega)) λv hv=>dV (λ_=>ai rfl) λ_=>?_
    refine ar (r9 _ _ (by dsimp only;omega)) λv hv=>dV (λ_=>ai rfl) λ_=>?_
    refine cR (dv (by dsimp only;omega) (dv (by dsimp only;omega) ?_));exact ar (AG _ _ (by rw[cg];dsimp only;omega)) λ_ _=>ai rfl
   rintro⟨b,x⟩ e;dsimp only at e;subst e;exact aJ (λ_=>ai trivial) λ_=>ai ⟨fo (by omega),rfl⟩
  .rintro⟨a,z⟩ ⟨s,q⟩;dsimp only at s q;subst s;subst q;exact aQ (λg=>(by dsimp only[aj]at g;omega)) λ_=>ai ⟨fo (by omega),rfl⟩
 .rintro⟨a,x⟩ ⟨e1,e2⟩;dsimp only at e1 e2;subst e1;have e2:=e2.symm;subst e2;exact aQ (λg=>(by dsimp only[aj]at g;omega)) λ_=>ai trivial
structure WQ (w:WK) (y:Int×WK):Prop where
 p:y.2.1=w.1
 a:y.2.2.1=w.2.1
 s:y.2.2.2.1.length<=w.2.2.1.length+1
 t:y.2.2.2.2.length<=w.2.2.2.length+1
theorem WQ.same (w:WK) (e:Int):WQ w (e,w):=⟨rfl,rfl,Nat.le_succ _,Nat.le_succ _⟩
theorem af8 (s:Sx) (D:Y DT) (T:Y HT) (t:Int) (A:Bool×Y Sx) (sp se:Y ζ) (hp:PX (D,T)) (hA:A.2.length<=100) (h1:sp.length<=100000000) (h2:se.length<=100000000) (z:∀e∈s.index,GX 4 e) (he:GX 4 s.expr):Ok (ou (s,((D,T,t),A,sp,se))) (WQ ((D,T,t),A,sp,se)):=by
 have hex:GX 4 (d9 (Xp.op s.expr,Xp.n s.expr,Xp.name s.expr,Xp.l s.expr)):=by rw[eX];exact he
 have hin:∀(a b:Int) (n:ζ),Ok (em ((a,b,n),((D,T,t),A,sp,se))) λy=>y.2=((D,T,t),A,sp,se):=λa b n=>Wf a b n _ hA
 have hth:T.length<=1000:=by have:=hp.t;dsimp only at this;omega
 have hdl:D.length<=1000:=by have:=hp.d;dsimp only at this;omega
 have sm:∀e,WQ ((D,T,t),A,sp,se) (e,((D,T,t),A,sp,se)):=WQ.same _;unfold ou aX bh bm bT bp cI cD dC bg ji iT bt bJ aB dY;refine ar (hin _ _ _) λy q=>?_
 obtain⟨b1,F⟩:=y;dsimp only at q;subst q;refine a_ (by simp) ?_;refine ar (hin _ _ _) λy q=>?_
 obtain⟨b2,F⟩:=y;dsimp only at q;subst q;refine a_ (by simp) ?_;refine ar (hin _ _ _) λy q=>?_
 obtain⟨L,F⟩:=y;dsimp only at q;subst q;refine a_ (by simp) ?_;refine aE (λ_=>?_) λ_=>?_
 .refine aE (λ_=>?_) λg=>?_
  .exact ar (oN _ hp _ _ _ _) λ_ _=>ar (v_ _ hp _ _ hex) λ_ _=>ar (ti _) λ_ _=>ai (sm _)
  .refine ar (oN _ hp _ _ _ _) λ_ _=>?_
   dsimp only[aj]at g;refine aK (by omega) (by dsimp only;omega) (aV ?_);refine ar (v_ _ hp _ _ (z _ (bG (T:=.ex) (xs:=s.index) (j:=0) (by omega) (by omega)))) λ_ _=>?_
   exact ar (v_ _ hp _ _ hex) λ_ _=>ar (ti _) λ_ _=>ar (ti _) λ_ _=>ai (sm _)
 refine aU (λx=>x.2=((D,T,t),A,s,(D,T),sp,se)) (aE (λ_=>ai (by dsimp only;rw[xN])) λ_=>ai (by dsimp only;rw[xN])) ?_;rintro⟨b,x⟩ e;dsimp only at e;subst e;refine aJ (λ_=>ar (v_ _ hp _ _ hex) λ_ _=>ai (sm _)) λ_=>?_
 refine aE (λ_=>?_) λ_=>?_
 .refine aU (λx=>WQ ((D,T,t),A,sp,se) x) ?_ λx z=>ai z
  refine ar (oN _ hp _ _ _ _) λ_ _=>aJ (λ_=>?_) λ_=>?_
  .exact ar (fe _) λ_ _=>ar (ti _) λ_ _=>ai (sm _)
  .refine ar (hin _ _ _) λy q=>?_
   obtain⟨I,F⟩:=y;dsimp only at q;subst q;exact a_ (by simp) (ar (fe _) λ_ _=>ar (ti _) λ_ _=>ai (sm _))
 refine aU (λx=>x.2=((D,T,t),A,s,(D,T),sp,se)) (aE (λ_=>ai (by dsimp only;rw[xN])) λ_=>ai (by dsimp only;rw[xN])) ?_;rintro⟨b,x⟩ e;dsimp only at e;subst e;refine aJ (λ_=>?_) λ_=>?_
 .refine aU (λx=>WQ ((D,T,t),A,sp,se) x) ?_ λx z=>ai z
  refine ar (oN _ hp _ _ _ _) λ_ _=>aJ (λ_=>?_) λ_=>?_
  .exact ar (fe _) λ_ _=>ar (ti _) λ_ _=>ai (sm _)
  .refine ar (hin _ _ _) λy q=>?_
   obtain⟨I,F⟩:=y;dsimp only at q;subst q;exact a_ (by simp) (ar (fe _) λ_ _=>ar (ti _) λ_ _=>ai (sm _))
 refine aE (λ_=>ar (fe _) λ_ _=>ai (sm _)) λ_=>?_
 refine aE (λ_=>?_) λ_=>?_
 .refine aU (λx=>WQ ((D,T,t),A,sp,se) x) ?_ λx z=>ai z
  exact aJ (λ_=>ar (fe _) λ_ _=>ai (sm _)) λ_=>ar (fe _) λ_ _=>ai (sm _)
 refine aU (λx=>x.2=((D,T,t),A,s,(D,T),sp,se)) (aE (λ_=>ai (by dsimp only;rw[xN])) λ_=>aE (λ_=>ai (by dsimp only;rw[xN])) λ_=>ai (by dsimp only;rw[xN])) ?_;rintro⟨b,x⟩ e;dsimp only at e;subst e;refine aJ (λ_=>?_) λ_=>?_
 .refine ar (oN _ hp _ _ _ _) λr hr=>bY (λ_=>ai (sm _)) λg=>?_
  obtain⟨v,hv,v0,v1⟩:=hr g (by omega) (by omega);refine aS hv (aK v0 v1 (aV ?_));refine ar (hin _ _ _) λy q=>?_
  obtain⟨I,F⟩:=y;dsimp only at q;subst q;refine a_ (by simp) ?_;refine aU (λx=>WQ ((D,T,t),A,sp,se) x) ?_ λx z=>ai z
  refine aJ (λ_=>ar (fe _) λ_ _=>ai (sm _)) λ_=>cV (λ_=>ar (fe _) λ_ _=>ai (sm _)) λ_=>?_
  exact aE (λ_=>ar (fe _) λ_ _=>ai (sm _)) λ_=>ar (fe _) λ_ _=>ai (sm _)
 refine aE (λ_=>?_) λ_=>?_
 .refine ar (oN _ hp _ _ _ _) λr hr=>bY (λ_=>ai (sm _)) λg=>?_
  refine ar (r9 T _ hth) λv hv=>?_
  refine aU (λx=>x.2=((D,T,t),A,s,sp,se)) ?_ ?_
  .refine aJ (λ_=>ai (by dsimp only;rw[xN])) λ_=>aJ (λ_=>ai (by dsimp only;rw[xN])) λ_=>aJ (λ_=>ai (by dsimp only;rw[xN])) λ_=>aE (λ_=>ai (by dsimp only;rw[xN])) λ_=>ai (by dsimp only;rw[xN])
  rintro⟨b,x⟩ e;dsimp only at e;subst e;refine aJ (λ_=>ai (sm _)) λ_=>?_
  refine ar (AG sp _ (by omega)) λ_ _=>dV (λ_=>ai (sm _)) λ_=>?_
  exact aZ (by simp;omega) (by omega) (ai ⟨rfl,rfl,by simp,Nat.le_succ _⟩)
 refine aE (λ_=>?_) λ_=>?_
 .refine aU (λx=>WQ ((D,T,t),A,sp,se) x) ?_ λx z=>ai z
  refine ar (oN _ hp _ _ _ _) λr hr=>?_
  refine aJ (λ_=>ar (fe _) λ_ _=>ar (ti _) λ_ _=>ai (sm _)) λ_=>?_
  refine aJ (λ_=>ar (fe _) λ_ _=>ar (ti _) λ_ _=>ai (sm _)) λ_=>?_
  exact ar (r9 T _ hth) λv hv=>ar (fe _) λ_ _=>ar (ti _) λ_ _=>ai (sm _)
 refine aE (λ_=>?_) λ_=>?_
 .refine aU (λx=>x.2=((D,T,t),A,s,(D,T),sp,se)) ?_ ?_
  .refine ar (oN _ hp _ _ _ _) λr hr=>?_
   exact aJ (λ_=>ar (fe _) λ_ _=>ar (ti _) λ_ _=>ai (by dsimp only;rw[xN])) λ_=>ar (fe _) λ_ _=>ar (ti _) λ_ _=>ai (by dsimp only;rw[xN])
  rintro⟨b,x⟩ e;dsimp only at e;subst e;refine aU (λx=>x.2=((D,T,t),A,s,(D,T),sp,se)) ?_ ?_
  .refine aU (λx=>x.2=((D,T,t),A,s,(D,T),sp,se)) ?_ ?_
   .exact aE (λ_=>ar (AG se _ (by omega)) λ_ _=>ai (by dsimp only;rw[xN])) λ_=>ai (by dsimp only;rw[xN])
   rintro⟨b,x⟩ e;dsimp only at e;subst e;exact aJ (λ_=>ai (by dsimp only;rw[xN])) λ_=>ai (by dsimp only;rw[xN])
  rintro⟨b,x⟩ e;dsimp only at e;subst e;refine aZ (by simp;omega) (by omega) ?_;exact ar (v_ _ hp _ _ hex) λ_ _=>ar (ti _) λ_ _=>ai ⟨rfl,rfl,Nat.le_succ _,by simp⟩
 exact ar (oN _ hp _ _ _ _) λ_ _=>ar (oN _ hp _ _ _ _) λ_ _=>ar (fe _) λ_ _=>ar (ti _) λ_ _=>ar (ti _) λ_ _=>ai (sm _)
def KS:Nat->Nat
 |0=>0
 |d+1=>1+16*KS d
abbrev RA4:Type:=(Y Sx×WK)->J (Γ×WK)
structure QA (l:List Sx) (d:Nat) (w:WK) (y:Γ×WK):Prop where
 p:y.2.1=w.1
 a:y.2.2.1.2.length=w.2.1.2.length
 s:y.2.2.2.1.length<=w.2.2.1.length+l.length*KS d
 t:y.2.2.2.2.length<=w.2.2.2.length+l.length*KS d
def SpA (rr:RA4) (d:Nat):Prop:=∀(l:Y Sx) (w:WK),l.length<=100->(∀s∈l,GT d s)->PX (w.1.1,w.1.2.1)->w.2.1.2.length+d<=50->w.2.2.1.length+l.length*KS d<=100000000->w.2.2.2.length+l.length*KS d<=100000000->Ok (rr (l,w)) (QA l d w)
theorem ac7 (rr:RA4) (d:Nat) (hr:∀d',d=d'+1->SpA rr d'):SpA (rG rr) d:=by
 rintro l ⟨⟨D,T,t⟩,A,sp,se⟩ hl hg hp hA h1 h2;dsimp only at hp hA h1 h2;have hK:∀i:Nat,i<=l.length->i*KS d<=l.length*KS d:=λi hi=>cA _ hi
 unfold rG aX bh bm bp cI cD ck bg bA iT bt bJ aY cM aB cw dY;refine b9 l.length (λi x=>x.1=(i:Int)/\x.2.1=(D,T,t)/\x.2.2.1.2.length=A.2.length/\x.2.2.2.1.length<=sp.length+i*KS d/\x.2.2.2.2.length<=se.length+i*KS d) ?_ ?_ ⟨rfl,rfl,rfl,by simp,by simp⟩
 .rintro i ⟨a,P,A',sp',se'⟩ hi ⟨e1,e2,e3,F,z⟩;dsimp only at e1 e2 e3 F z;subst e1;subst e2;have hKi:=hK (i+1) (by omega);have hKs:=iP i (KS d);rw[Nat.succ_eq_add_one]at hKs;refine aQ (λ_=>?_) λg=>(by dsimp only[aj]at g;omega)
  refine aK (by dsimp only;omega) (by dsimp only;omega) (aV ?_);have hm:=hg _ (bG (T:=.sm) (xs:=l) (j:=(i:Int)) (by omega) (by omega));revert hm;generalize (aH (T:=.sm) l (i:Int))=s;intro hm;cases d with
  |zero=>exact hm.elim
  |succ d=>
   have hR:=hr d rfl;obtain⟨_,g2,g3,g4,g5,g6,g7⟩:=hm;have hk:KS (d+1)=1+16*KS d:=rfl;have kb:s.body.length*KS d<=8*KS d:=cA _ g4;have ke:s.els.length*KS d<=8*KS d:=cA _ g5;dsimp only;rw[xN];refine ar (af8 s D T t A' sp' se' hp (by omega) (by omega) (by omega) g2 g3) λy q=>?_
   obtain⟨e,P2,A2,sp2,se2⟩:=y;obtain⟨q1,q2,q3,q4⟩:=q;dsimp only at q1 q2 q3 q4;subst q1;subst q2;refine a_ (by simp) ?_;refine aU (λx=>x.2=((D,T,t),s,A2,sp2,se2)) (aQ (λ_=>ai rfl) λ_=>ai rfl) ?_;rintro⟨e,x⟩ ex;dsimp only at ex;subst ex;refine bY (λ_=>ai ⟨rfl,e3,by dsimp only;omega,by dsimp only;omega⟩) λ_=>?_
   refine aZ (by simp;omega) (by omega) (aK (by simp) (by simp;omega) (aK (by simp) (by simp;omega) ?_));dsimp only;rw[xN];refine ar (hR s.body ((D,T,t),(A2.1,ct (A2.2++[_]) _ s),sp2,se2) (by omega) g6 hp ?_ ?_ ?_) λy q=>?_
   .dsimp only;rw[cu];simp;omega
   .dsimp only;omega
   .dsimp only;omega
   obtain⟨e6,P6,A6,sp6,se6⟩:=y;obtain⟨q1,q2,q5,q6⟩:=q;dsimp only at q1 q2 q5 q6;subst q1;rw[cu,b7,c9]at q2;refine a_ (by simp) ?_;refine aU (λx=>x.2.1=(D,T,t)/\x.2.2.1.2.length=A2.2.length+1/\x.2.2.2.1.length<=sp2.length+16*KS d/\x.2.2.2.2.length<=se2.length+16*KS d) ?_ ?_
   .refine aE (λ_=>?_) λ_=>ai ⟨rfl,q2,by dsimp only;omega,by dsimp only;omega⟩
    refine ar (hR s.els ((D,T,t),A6,sp6,se6) (by omega) g7 hp (by dsimp only;omega) (by dsimp only;omega) (by dsimp only;omega)) λy q=>?_
    obtain⟨e7,P7,A7,sp7,se7⟩:=y;obtain⟨r1,r2,L,I⟩:=q;dsimp only at r1 r2 L I;subst r1;exact a_ (by simp) (ai ⟨rfl,r2.trans q2,by dsimp only;omega,by dsimp only;omega⟩)
   rintro⟨e8,P8,A8,sp8,se8⟩ ⟨r1,r2,L,I⟩;dsimp only at r1 r2 L I;subst r1;have el:ba .i64 ((aT A8.2.length)-1)=(A2.2.length:Int):=by
    rw[r2,gI (by simp<;>omega) (by simp<;>omega)];simp<;>omega
   dsimp only;rw[el];have tk:(dj (aO (A2.2.length:Int)) A8.2).length=A2.2.length:=by rw[cg];omega
   refine cR (dv (by omega) (rA (by rw[r2];omega) ?_));refine bY (λ_=>ai ⟨rfl,by dsimp only;omega,by dsimp only;omega,by dsimp only;omega⟩) λ_=>ai ?_
   exact⟨fo (by omega),rfl,by dsimp only;omega,by dsimp only;omega,by dsimp only;omega⟩
 .rintro⟨a,P,A',sp',se'⟩ ⟨e1,e2,e3,F,z⟩;dsimp only at e1 e2 e3 F z;subst e1;subst e2;exact aQ (λg=>(by dsimp only[aj]at g;omega)) λ_=>ai ⟨rfl,e3,F,z⟩
theorem Vh:∀(n d:Nat),d<n->SpA (mn n) d
 |0,_,h=>by omega
 |n+1,d,h=>ac7 (mn n) d λq hd=>Vh n q (by omega)
theorem Da (p:PG) (h:PX p):Ok (km p) λ_=>True:=by
 have hd:=h.d;have ht:=h.t;unfold km aX bh bm bp cD bA iT bt bJ aY cM aB cw;refine ar (Xv p h) λ_ _=>cV (λ_=>ai trivial) λ_=>?_
 refine ar (Tv p.1 hd) λ_ _=>bY (λ_=>ai trivial) λ_=>aQ (λ_=>ai trivial) λ_=>?_
 refine ar (M1 p h) λ_ _=>bY (λ_=>ai trivial) λ_=>?_
 refine b9 p.2.length (λi x=>x.1.2=(i:Int)/\x.2=p) ?_ ?_ ⟨rfl,rfl⟩
 .rintro i ⟨⟨c,a⟩,x⟩ hi ⟨e1,e2⟩;dsimp only at e1 e2;subst e1;have e2:=e2.symm;subst e2;refine aQ (λ_=>?_) λg=>(by dsimp only[aj]at g;omega)
  refine aK (by dsimp only;omega) (by dsimp only;omega) (aV ?_);have hm:=bG (T:=Ht) (xs:=p.2) (j:=(i:Int)) (by omega) (by omega);have hb:=h.b _ hm;exact ar (D7 fuel 5 _ (by rw[qk];omega) (cY hb (by omega)) (h.s _ hm)) λ_ _=>ai ⟨fo (by omega),rfl⟩
 rintro⟨⟨c,a⟩,x⟩ ⟨e1,e2⟩;dsimp only at e1 e2;subst e1;have e2:=e2.symm;subst e2;refine aQ (λg=>(by dsimp only[aj]at g;omega)) λ_=>?_
 refine ar (P:=λ_=>True) ?_ λ_ _=>ai trivial
 refine aQ (λ_=>ai trivial) λ_=>?_
 refine b9 p.2.length (λi x=>x.1=(i:Int)/\x.2.1=p/\x.2.2.1.1=p.1/\x.2.2.1.2.1=p.2/\x.2.2.2.1.2.length=0/\x.2.2.2.2.1.length<=i*6990500/\x.2.2.2.2.2.length<=i*6990500) ?_ ?_ ⟨rfl,rfl,rfl,rfl,rfl,by simp,by simp⟩
 .rintro i ⟨a,x,⟨D,T,t⟩,A,sp,se⟩ hi ⟨e1,e2,e3,q,L,I,F⟩;dsimp only at e1 e2 e3 q L I F;subst e1;have e2:=e2.symm;subst e2;subst e3;subst q;refine aQ (λ_=>?_) λg=>(by dsimp only[aj]at g;omega)
  refine aK (by dsimp only;omega) (by dsimp only;omega) (aV ?_);have hm:=bG (T:=Ht) (xs:=p.2) (j:=(i:Int)) (by omega) (by omega);have hb:=h.b _ hm;have hs:=h.s _ hm;revert hb hs;dsimp only;generalize (aH (T:=Ht) p.2 (i:Int))=th;intro hb hs;have hk:KS 5=69905:=rfl;have hle:th.2.2.2.length*KS 5<=100*KS 5:=cA _ hb;rw[hk]at hle;refine ar (Vh fuel 5 (by rw[qk];omega) th.2.2.2 ((p.1,p.2,(i:Int)),A,sp,se) hb hs h (by dsimp only;omega) (by dsimp only;rw[hk];omega) (by dsimp only;rw[hk];omega)) λy z=>?_
  obtain⟨e,P2,A2,sp2,se2⟩:=y;obtain⟨q1,q2,q3,q4⟩:=z;dsimp only at q1 q2 q3 q4;subst q1;rw[hk]at q3 q4;refine a_ (by simp) (bY (λ_=>ai trivial) λ_=>ai ?_);exact⟨fo (by omega),rfl,rfl,rfl,by dsimp only;omega,by dsimp only;omega,by dsimp only;omega⟩
 .rintro⟨a,x,P,w⟩ ⟨e1,e2,_⟩;dsimp only at e1 e2;subst e1;have e2:=e2.symm;subst e2;exact aQ (λg=>(by dsimp only[aj]at g;omega)) λ_=>ai trivial
def D0:Y DT:=[(1,0,[120],0,0,[]),(1,0,[121],0,1,[]),(2,0,[118],0,0,[]),(1,0,[113],2,0,[]),(3,0,[109],0,0,[]),(3,0,[110],0,0,[]),(4,0,[114],0,0,[]),(5,0,[99],0,0,[109]),(6,0,[102],0,0,[])]
def L0:Y ζ:=[[97],[98]]
structure TM (t:HT):Prop where
 l:t.2.2.1=L0
 b:t.2.2.2.length<=8
 s:∀s∈t.2.2.2,GS 3 s
structure PJ (p:PG):Prop where
 d:p.1=D0
 t:p.2.length<=4
 m:∀t∈p.2,TM t
theorem PJ.x {p:PG} (h:PJ p):PX p:=⟨by rw[h.d];decide,by have:=h.t;omega,λt ht=>by rw[(h.m t ht).l];decide,λt ht=>by have:=(h.m t ht).b;omega,λt ht s hs=>((h.m t ht).s s hs).le (by omega:3<=5) |>.t⟩
theorem QC:rV ()=Z D0:=rfl
theorem OX (op:Int) (n:ζ) (q:4<=op/\op≠14):GS 3 (oA (op,0,n,[],[],d9 (0,0,[],[]),[],[])):=GS.wo q (by simp) λx d=>(by cases d)
theorem FW (x:η) (hl:x.length<=9223372036854775807) (hx:∀z∈x,0<=z/\z<=255):Ok (oy x) PJ:=by
 unfold oy aX bh bm bT cX gN rn bp dC gd lz GW bg bA iT bt kM cM aB cw dY;refine aS QC ?_;refine ar (gk 3 (x,0) ⟨hl,hx,by dsimp only;omega,by dsimp only;omega⟩) λy hy=>?_
 obtain⟨n,t0⟩:=y;obtain⟨s0,n0,n1,_⟩:=hy;have n1:=n1 (by decide);dsimp only at s0 n0 n1;have ew:ba .i64 (2+n)=2+n:=gI (by omega) (by omega);refine b9 (2+n).toNat (λi x=>x.1=(i:Int)/\x.2.2.1=D0/\x.2.2.2.1.length=4/\TP x.2.2.2.2.1/\x.2.2.2.2.2.1.2=[]/\x.2.2.2.2.2.2.length=i/\∀t∈x.2.2.2.2.2.2,TM t) ?_ ?_ ⟨rfl,rfl,rfl,s0.p,rfl,rfl,λt ht=>(by cases ht)⟩
 .rintro i ⟨a,m,D,N,t,h,th⟩ hi ⟨e1,e2,e3,e4,e5,e6,e7⟩;dsimp only at e1 e2 e3 e4 e5 e6 e7;subst e1;subst e2;refine aQ (λg=>?_) λg=>(by dsimp only at g;rw[ew]at g;omega)
  refine aK (by dsimp only;omega) (by dsimp only;omega) (aK (by dsimp only;omega) (by dsimp only;omega) (aV ?_));refine aU (λx=>x.2.1=D0/\x.2.2.1.length=4/\TP x.2.2.2.2.1/\x.2.2.2.2.2.1.2=[]/\x.2.2.2.2.2.2.1=th/\x.2.2.2.2.2.2.2.1=L0/\x.2.2.2.2.2.2.2.2.length<=3/\∀s∈x.2.2.2.2.2.2.2.2,GS 3 s) ?_ ?_
  .refine aE (λ_=>?_) λ_=>ai ⟨rfl,e3,e4,e5,rfl,rfl,by simp,λs hs=>(by cases hs)⟩
   refine b9 (1+n).toNat (λk x=>x.1=1+(k:Int)/\x.2.2.1=D0/\x.2.2.2.1.length=4/\TP x.2.2.2.2.2.1/\x.2.2.2.2.2.2.1.2=[]/\x.2.2.2.2.2.2.2.1=th/\x.2.2.2.2.2.2.2.2.1=L0/\x.2.2.2.2.2.2.2.2.2.length<=k/\∀s∈x.2.2.2.2.2.2.2.2.2,GS 3 s) ?_ ?_ ⟨rfl,rfl,e3,e4,e5,rfl,rfl,by simp,λs hs=>(by cases hs)⟩
   .rintro k ⟨c,m1,D1,N1,z1,t1,h1,th1,l1,b1⟩ hk ⟨f1,L,d,I,f5,F,A,f8,q⟩;dsimp only at f1 L d I f5 F A f8 q;subst f1;refine aQ (λ_=>?_) λg=>(by dsimp only at g;rw[ew]at g;omega)
    refine aK (by dsimp only;omega) (by dsimp only;omega) (aK (by dsimp only;omega) (by dsimp only;omega) (aV ?_));refine aZ (by simp;omega) (by omega) (ai ?_);dsimp only;rw[gI (n:=1+(k:Int)+1) (by omega) (by omega)];refine ⟨by omega,L,d,I,f5,F,A,by simp;omega,λs hs=>?_⟩;rcases bP.1 hs with hs|hs
    .exact q s hs
    .rw[aI]at hs;rw[hs];exact OX 12 _ (by omega)
   .rintro⟨c,m1,D1,N1,z1,t1,h1,th1,l1,b1⟩ ⟨f1,L,d,I,f5,F,A,f8,q⟩;dsimp only at f1 L d I f5 F A f8 q;subst f1;refine aQ (λg=>(by dsimp only at g;rw[ew]at g;omega)) λ_=>ai ?_
    exact⟨L,d,I,f5,F,A,by dsimp only;omega,q⟩
  rintro⟨m1,D1,N1,z1,t1,h1,th1,l1,b1⟩ ⟨L,d,I,f5,F,A,f8,q⟩;dsimp only at L d I f5 F A f8 q;subst L;subst F;subst A;refine ar (gk 3 t1 I) λy hy=>?_
  obtain⟨k2,t2⟩:=y;obtain⟨u1,u2,u3,_⟩:=hy;have u3:=u3 (by decide);dsimp only at u1 u2 u3;dsimp only;rw[gI (n:=1+k2) (by omega) (by omega)];refine ar (V_ 2 (by omega) (1+k2) m1 t2 h1 (by omega) u1.p (by rw[f5];simp)) λy hy=>?_
  obtain⟨m3,t3,h3,l3⟩:=y;obtain⟨w1,w2,w3,w4⟩:=hy;dsimp only at w1 w2 w3 w4;refine a_ (by simp) (aZ (by simp;omega) (by omega) ?_);have hbody:∀s∈b1++l3,GS 3 s:=λs hs=>by
   rcases bP.1 hs with hs|hs
   .exact q s hs
   .exact w2 s hs
  have hlen:(b1++l3).length<=6:=by rw[b7];omega
  refine aU (λx=>x.2.1=D0/\x.2.2.1.length=4/\TP x.2.2.2.2.1/\x.2.2.2.2.2.1.2=[]/\x.2.2.2.2.2.2.1=th1/\x.2.2.2.2.2.2.2.1=L0/\x.2.2.2.2.2.2.2.2.length<=8/\∀s∈x.2.2.2.2.2.2.2.2,GS 3 s) ?_ ?_
  .refine aU (λx=>x.2.2.1=D0/\x.2.2.2.1.length=4/\TP x.2.2.2.2.2.1/\x.2.2.2.2.2.2.1.2=[]/\x.2.2.2.2.2.2.2.1=th1/\x.2.2.2.2.2.2.2.2.1=L0/\x.2.2.2.2.2.2.2.2.2=b1++l3) ?_ ?_
   .refine aE (λ_=>?_) λ_=>ai ⟨rfl,d,w3.p,w4.trans f5,rfl,rfl,rfl⟩
    exact ar (gk 3 t3 w3.p) λy hy=>ai ⟨rfl,d,hy.1.p,w4.trans f5,rfl,rfl,rfl⟩
   rintro⟨b,m4,D4,N4,z4,t4,h4,th4,l4,b4⟩ ⟨p2,p3,p4,p5,p6,p7,p8⟩;dsimp only at p2 p3 p4 p5 p6 p7 p8;subst p2;subst p6;subst p7;subst p8;refine aJ (λ_=>?_) λ_=>ai ⟨rfl,p3,p4,p5,rfl,rfl,by dsimp only;omega,hbody⟩
   refine aK (by omega) (by dsimp only;omega) (aK (by omega) (by dsimp only;omega) (aV ?_));refine aZ (by simp at hlen ⊢;omega) (by omega) (ai ⟨rfl,p3,p4,p5,rfl,rfl,by dsimp only;rw[b7,c9];omega,λs hs=>?_⟩);rcases bP.1 hs with hs|hs
   .exact hbody s hs
   .rw[aI]at hs;rw[hs];exact OX 13 _ (by omega)
  rintro⟨m4,D4,N4,z4,t4,h4,th4,l4,b4⟩ ⟨p2,p3,p4,p5,p6,p7,p8,p9⟩;dsimp only at p2 p3 p4 p5 p6 p7 p8 p9;subst p2;subst p6;subst p7;refine aZ (by simp;omega) (by omega) (ai ?_);dsimp only;refine ⟨fo (by omega),rfl,p3,p4,p5,by simp;omega,λt ht=>?_⟩;rcases bP.1 ht with ht|ht
  .exact e7 t ht
  .rw[aI]at ht;rw[ht];exact⟨rfl,p8,p9⟩
 .rintro⟨a,m,D,N,t,h,th⟩ ⟨e1,e2,e3,e4,e5,e6,e7⟩;dsimp only at e1 e2 e3 e4 e5 e6 e7;subst e1;subst e2;refine aQ (λg=>(by dsimp only at g;rw[ew]at g;omega)) λ_=>?_
  have hpm:PJ (D0,th):=⟨rfl,by dsimp only;omega,e7⟩
  refine ar (P:=PJ) ?_ λr hr=>ai hr
  refine ar (Da (D0,th) hpm.x) λy _=>bY (λ_=>?_) λ_=>ai hpm
  refine aS QC (aS (Nc _) (aS (td _ _) (ai ?_)));refine ⟨rfl,by simp,λt ht=>?_⟩;simp only[aI]at ht;rw[ht];refine ⟨rfl,by simp,λs hs=>?_⟩;simp only[aI]at hs;rw[hs,eX,xW];exact GS.asg _ (GE.num _ 3)
abbrev GN:Type:=Y (ζ×Int×Int×Bool×Int)×Y (ζ×Bool)×Y (ζ×Int)×Y ζ×Y ζ×Y ν×Y ζ×Int×Int
theorem zn (l:Y (ζ×Bool)) (s:ζ) (hl:l.length<=1000):Ok (lm (l,s)) λ_=>True:=by
 unfold lm bA bJ aY cM aB cw;refine b9 l.length (λi x=>x=(i:Int)) ?_ ?_ rfl
 .rintro i x hi rfl;refine aQ (λ_=>?_) λg=>(by dsimp only[aj]at g;omega)
  refine aK (by omega) (by dsimp only;omega) (aV ?_);exact aE (λ_=>ai trivial) λ_=>ai (fo (by omega))
 .rintro x rfl;exact aQ (λg=>(by dsimp only[aj]at g;omega)) λ_=>ai trivial
theorem zG (w:WT) (s:ζ) (hl:w.1.length<=1000):Ok (lq (w,s)) λr=>(∃c∈w.1,c.1=s)->0<=r/\r<(w.1.length:Int):=by
 unfold lq bA bJ aY cM aB cw;refine b9 w.1.length (λi x=>x.1=(i:Int)/\x.2=w/\∀k:Nat,k<i->(aH (T:=.st (.pr .str (.pr (.int .i64) (.pr (.int .i64) (.pr .bool (.int .i64)))))) w.1 (k:Int)).1≠s) ?_ ?_ ⟨rfl,rfl,λk hk=>by omega⟩
 .rintro i ⟨a,x⟩ hi ⟨e1,e2,e3⟩;dsimp only at e1 e2 e3;subst e1;have e2:=e2.symm;subst e2;refine aQ (λ_=>?_) λg=>(by dsimp only[aj]at g;omega)
  refine aK (by dsimp only;omega) (by dsimp only;omega) (aV ?_);refine aE (λ_=>ai λ_=>⟨by dsimp only;omega,by dsimp only;omega⟩) λg=>ai ?_
  refine ⟨fo (by omega),rfl,λk hk=>?_⟩;rcases bN k i with h1|h1
  .exact e3 k h1
  .rw[show k=i by omega];exact g
 .rintro⟨a,x⟩ ⟨e1,e2,e3⟩;dsimp only at e1 e2 e3;subst e1;have e2:=e2.symm;subst e2;refine aQ (λg=>(by dsimp only[aj]at g;omega)) λ_=>ai λ⟨c,hc,h⟩=>?_
  exact (ir (T:=.st (.pr .str (.pr (.int .i64) (.pr (.int .i64) (.pr .bool (.int .i64)))))) (p:=λc=>c.1≠s) e3 c hc h).elim
theorem uP (i:IT) (g:GN) (out:Y IT) (h:out.length<=100000000):Ok (cE (i,g,out)) λy=>y.1=g/\y.2.length=out.length+1:=by
 unfold cE aX bh bm gN bt;exact aZ (by simp;omega) (by omega) (ai ⟨rfl,by simp⟩)
def VE:Nat->Nat
 |0=>0
 |d+1=>1+2*VE d
structure GK (g:GN):Prop where
 c:g.1.length<=1000
 q:∃c∈g.1,c.1=[113]
 l:g.2.2.2.2.2.2.1.length<=1000
theorem Mf:∀(n d:Nat),d<n->∀(e:Xp) (k:Int) (g:GN) (out:Y IT),GE d e->GK g->out.length+VE d<=100000000->Ok (iJ n ((e,k),g,out)) λy=>y.1=g/\out.length<=y.2.length/\y.2.length<=out.length+VE d
 |0,_,h,_,_,_,_,_,_,_=>by omega
 |n+1,0,_,e,_,_,_,h,_,_=>h.elim
 |n+1,d+1,hn,e,k,g,out,h,hg,hb=>by
  obtain⟨h1,h2,h3,h4⟩:=h;obtain⟨I,gq,gl⟩:=id hg;have hv:VE (d+1)=1+2*VE d:=rfl;rw[zR];unfold qg aX bh bm bT cX bg ji bt bJ aB cw;refine aU (λy=>y.1=g/\out.length<=y.2.length/\y.2.length<=out.length+VE (d+1)) ?_ λx hx=>ai hx
  refine aE (λ_=>?_) λn1=>?_
  .refine ar (uP _ g out (by omega)) λy q=>a_ (by simp) (ai ⟨q.1,by omega,by omega⟩)
  refine aE (λ_=>?_) λn2=>?_
  .refine ar (AG _ _ (by dsimp only;omega)) λv _=>dV (λ_=>?_) λ_=>?_
   .refine ar (uP _ g out (by omega)) λy q=>a_ (by simp) (ai ⟨q.1,by omega,by omega⟩)
   .refine ar (zG _ _ I) λv _=>?_
    refine ar (uP _ g out (by omega)) λy q=>a_ (by simp) (ai ⟨q.1,by omega,by omega⟩)
  have hl:=h2 n1 n2;have hrec:∀(j:Nat),j<e.l.length->∀(k':Int) (o:Y IT),o.length+VE d<=100000000->Ok (iJ n ((aH (T:=.ex) e.l (j:Int),k'),g,o)) λy=>y.1=g/\o.length<=y.2.length/\y.2.length<=o.length+VE d:=λj hj k' o ho=>Mf n d (by omega) _ k' g o (h4 _ (bG (T:=.ex) (xs:=e.l) (j:=(j:Int)) (by omega) (by omega))) hg ho
  refine aE (λF=>?_) λF=>?_
  .refine aK (by omega) (by dsimp only;omega) (aV ?_);refine ar (hrec 0 hl k out (by omega)) λy q=>?_
   obtain⟨s,o2⟩:=y;obtain⟨q1,q2,q3⟩:=q;dsimp only at q1 q2 q3;subst q1;refine a_ (by simp) ?_;refine ar (zG _ _ I) λv z=>?_
   obtain⟨v0,v1⟩:=z (by dsimp only;rw[h1 F];exact gq);refine aK v0 v1 (aV ?_);refine ar (uP _ s o2 (by omega)) λy q=>a_ (by simp) (ai ⟨q.1,by omega,by omega⟩)
  refine aE (λD=>?_) λD=>?_
  .refine aK (by omega) (by dsimp only;omega) (aV ?_);refine ar (hrec 0 hl k out (by omega)) λy q=>?_
   obtain⟨s,o2⟩:=y;obtain⟨q1,q2,q3⟩:=q;dsimp only at q1 q2 q3;subst q1;refine a_ (by simp) ?_;refine ar (uP _ s o2 (by omega)) λy q=>a_ (by simp) (ai ⟨q.1,by omega,by omega⟩)
  .dsimp only[aj]at D;have A:1<e.l.length:=by omega
   refine aK (by omega) (by dsimp only;omega) (aV ?_);refine ar (hrec 0 hl k out (by omega)) λy q=>?_
   obtain⟨s,o2⟩:=y;obtain⟨q1,q2,q3⟩:=q;dsimp only at q1 q2 q3;subst q1;refine a_ (by simp) ?_;refine aK (by omega) (by dsimp only;omega) (aV ?_);refine ar (hrec 1 A _ o2 (by omega)) λy q=>?_
   obtain⟨g3,L⟩:=y;obtain⟨r1,r2,r3⟩:=q;dsimp only at r1 r2 r3;subst r1;refine a_ (by simp) ?_;refine ar (uP _ g3 L (by omega)) λy q=>a_ (by simp) (ai ⟨q.1,by omega,by omega⟩)
theorem Sf (e:Xp) (k:Int) (g:GN) (out:Y IT) (he:GE 4 e) (hg:GK g) (h:out.length<=99999900):Ok (iG ((e,k),g,out)) λy=>y.1=g/\out.length<=y.2.length/\y.2.length<=out.length+15:=Mf fuel 4 (by rw[qk];omega) e k g out he hg (by have:VE 4=15:=rfl;omega)
structure GB (g:GN):Prop where
 k:GK g
 l:g.2.1.length<=1000
 d:g.2.2.1.length<=1000
 f:g.2.2.2.1.length<=1000
 t:g.2.2.2.2.1.length<=1000
structure GQ (g y:GN):Prop where
 a:y.1=g.1
 b:y.2.1=g.2.1
 c:y.2.2.1=g.2.2.1
 d:y.2.2.2.1=g.2.2.2.1
 e:y.2.2.2.2.1=g.2.2.2.2.1
 f:y.2.2.2.2.2.1=g.2.2.2.2.2.1
 h:y.2.2.2.2.2.2.1=g.2.2.2.2.2.2.1
theorem GQ.refl (g:GN):GQ g g:=⟨rfl,rfl,rfl,rfl,rfl,rfl,rfl⟩
theorem GQ.trans {a b c:GN} (h:GQ a b) (k:GQ b c):GQ a c:=⟨k.a.trans h.a,k.b.trans h.b,k.c.trans h.c,k.d.trans h.d,k.e.trans h.e,k.f.trans h.f,k.h.trans h.h⟩
theorem GB.of {g y:GN} (h:GB g) (q:GQ g y):GB y:=
 ⟨⟨by rw[q.a];exact h.k.c,by rw[q.a];exact h.k.q,by rw[q.h];exact h.k.l⟩,by rw[q.b];exact h.l,by rw[q.c];exact h.d,by rw[q.d];exact h.f,by rw[q.e];exact h.t⟩
theorem GQ.site (g:GN) (a b:Int):GQ g (g.1,g.2.1,g.2.2.1,g.2.2.2.1,g.2.2.2.2.1,g.2.2.2.2.2.1,g.2.2.2.2.2.2.1,a,b):=⟨rfl,rfl,rfl,rfl,rfl,rfl,rfl⟩
structure QG (n:Nat) (g:GN) (out:List IT) (y:GN×List IT):Prop where
 q:GQ g y.1
 l:out.length<=y.2.length
 u:y.2.length<=out.length+n
theorem uv (i:IT) (g:GN) (out:Y IT) (h:out.length<=100000000):Ok (cE (i,g,out)) (QG 1 g out):=(uP i g out h).mono λy d=>⟨by rw[d.1];exact GQ.refl g,by omega,by omega⟩
theorem BG (e:Xp) (k:Int) (g:GN) (out:Y IT) (he:GE 4 e) (hg:GB g) (h:out.length<=99999000):Ok (iG ((e,k),g,out)) (QG 15 g out):=(Sf e k g out he hg.k (by omega)).mono λy d=>⟨by rw[d.1];exact GQ.refl g,d.2.1,d.2.2⟩
theorem Ur (s:Sx) (g:GN) (out:Y IT) (h1:s.index≠[]->s.name=[113]) (h2:∀e∈s.index,GE 4 e) (L:GE 4 s.expr) (hg:GB g) (h:out.length<=99990000):Ok (l_ (s,g,out)) (QG 40 g out):=by
 have hex:GE 4 (d9 (Xp.op s.expr,Xp.n s.expr,Xp.name s.expr,Xp.l s.expr)):=by rw[eX];exact L
 unfold l_ aX bh bm bT cX bA ji bt bJ aY;refine aQ (λF=>?_) λ_=>?_
 .dsimp only[aj]at F;refine aK (by omega) (by dsimp only;omega) (aV ?_);refine ar (BG _ _ g out (h2 _ (bG (T:=.ex) (xs:=s.index) (j:=0) (by omega) (by omega))) hg (by omega)) λy d=>?_
  obtain⟨D,o2⟩:=y;obtain⟨q1,q2,q3⟩:=d;dsimp only at q1 q2 q3;refine a_ (by simp) ?_;refine ar (BG _ _ D o2 hex (hg.of q1) (by omega)) λy d=>?_
  obtain⟨g3,I⟩:=y;obtain⟨r1,r2,r3⟩:=d;dsimp only at r1 r2 r3;refine a_ (by simp) ?_;have z:=hg.of (q1.trans r1);refine ar (zG _ _ z.k.c) λv hv=>?_
  obtain⟨v0,v1⟩:=hv (by
   have:s.name=[113]:=h1 (λh=>by rw[h]at F;simp at F);dsimp only;rw[this];exact z.k.q)
  refine aK v0 v1 (aV ?_);refine ar (uv _ g3 I (by omega)) λy d=>a_ (by simp) (ai ⟨q1.trans (r1.trans d.q),by have:=d.l;omega,by have:=d.u;omega⟩)
 .refine ar (BG _ _ g out hex hg (by omega)) λy d=>?_
  obtain⟨D,o2⟩:=y;obtain⟨q1,q2,q3⟩:=d;dsimp only at q1 q2 q3;have A:=hg.of q1;refine a_ (by simp) ?_;refine ar (AG _ _ (cY A.k.l (by omega))) λv _=>dV (λ_=>?_) λ_=>?_
  .refine ar (uv _ D o2 (by omega)) λy d=>a_ (by simp) (ai ⟨q1.trans d.q,by have:=d.l;omega,by have:=d.u;omega⟩)
  .refine ar (zG _ _ A.k.c) λv _=>?_
   refine ar (uv _ D o2 (by omega)) λy d=>a_ (by simp) (ai ⟨q1.trans d.q,by have:=d.l;omega,by have:=d.u;omega⟩)
theorem Zz (s:ζ) (g:GN) (out:Y IT) (hg:GB g):Ok (jw (s,g,out)) λy=>y.2=(g,out):=by
 have hd:=hg.d;unfold jw aX bA bJ aY cM aB cw;refine b9 g.2.2.1.length (λi x=>x.1=(i:Int)/\x.2=(g,out)) ?_ ?_ ⟨rfl,rfl⟩
 .rintro i ⟨a,x⟩ hi ⟨e1,e2⟩;dsimp only at e1 e2;subst e1;subst e2;refine aQ (λ_=>?_) λg=>(by dsimp only[aj]at g;omega)
  refine aK (by dsimp only;omega) (by dsimp only;omega) (aV ?_);exact aE (λ_=>ai rfl) λ_=>ai ⟨fo (by omega),rfl⟩
 .rintro⟨a,x⟩ ⟨e1,e2⟩;dsimp only at e1 e2;subst e1;subst e2;exact aQ (λg=>(by dsimp only[aj]at g;omega)) λ_=>ai rfl
def ME:Nat->Nat
 |0=>0
 |d+1=>50+16*ME d
def SpG (q:Sx×GN×Y IT->J (GN×Y IT)) (d:Nat):Prop:=∀(s:Sx) (g:GN) (out:Y IT),GS d s->GB g->out.length+ME d<=90000000->Ok (q (s,g,out)) (QG (ME d) g out)
def Z7 (rs:Y Sx×GN×Y IT->J (GN×Y IT)) (d:Nat):Prop:=∀(l:Y Sx) (g:GN) (out:Y IT),l.length<=100->(∀s∈l,GS d s)->GB g->out.length+l.length*ME d<=90000000->Ok (rs (l,g,out)) (QG (l.length*ME d) g out)
abbrev FS6:Type:=Y Sx×GN×Y IT->J (GN×Y IT)
abbrev FT6:Type:=Sx×GN×Y IT->J (GN×Y IT)
abbrev FA6:Type:=(Sx×Int×Int×Int)×GN×Y IT->J (GN×Y IT)
def ag8 (q:FT6) (d:Nat):Prop:=∀(s:Sx) (g:GN) (out:Y IT),GE 4 s.expr->s.body.length<=8->s.els.length<=8->(∀x∈s.body,GS d x)->(∀x∈s.els,GS d x)->GB g->out.length+ME (d+1)<=90000000->Ok (q (s,g,out)) (QG (17+16*ME d) g out)
def ag9 (ra:FA6) (d:Nat):Prop:=∀(s:Sx) (a b c:Int) (g:GN) (out:Y IT),s.body.length<=8->(∀x∈s.body,GS d x)->GB g->out.length+ME (d+1)<=90000000->Ok (ra ((s,a,b,c),g,out)) (QG (17+16*ME d) g out)
theorem QG.trans {a b c:Nat} {g d:GN} {o o2:Y IT} {y:GN×Y IT} (h:GQ g d) (h1:o.length<=o2.length) (h2:o2.length<=o.length+a) (k:QG b d o2 y) (hc:a+b<=c):QG c g o y:=⟨h.trans k.q,by have:=k.l;omega,by have:=k.u;omega⟩
theorem QG.le {a b:Nat} {g:GN} {o:Y IT} {y:GN×Y IT} (k:QG a g o y) (h:a<=b):QG b g o y:=⟨k.q,k.l,by have:=k.u;omega⟩
theorem Tp (rs:FS6) (s:FT6) (A:FT6) (ra:FA6) (d:Nat) (ht:SpG s d):Z7 (qh rs s A ra) d:=by
 intro l g out hl hs hg hb;unfold qh bA bt bJ aY cM aB cw;refine b9 l.length (λi x=>x.1=(i:Int)/\QG (i*ME d) g out x.2) ?_ ?_ ⟨rfl,GQ.refl g,by simp,by simp⟩
 .rintro i ⟨a,z,o2⟩ hi ⟨e1,q1,q2,q3⟩;dsimp only at e1 q1 q2 q3;subst e1;have F:(i+1)*ME d<=l.length*ME d:=cA _ (by omega);have hKs:=iP i (ME d);rw[Nat.succ_eq_add_one]at hKs;refine aQ (λ_=>?_) λg=>(by dsimp only[aj]at g;omega)
  refine aK (by dsimp only;omega) (by dsimp only;omega) (aV ?_);refine ar (ht _ z o2 (hs _ (bG (T:=.sm) (xs:=l) (j:=(i:Int)) (by omega) (by omega))) (hg.of q1) (by omega)) λy D=>a_ (by simp) (ai ?_)
  exact⟨fo (by omega),QG.trans q1 q2 q3 D (by omega)⟩
 .rintro⟨a,z,o2⟩ ⟨e1,q⟩;dsimp only at e1;subst e1;exact aQ (λg=>(by dsimp only[aj]at g;omega)) λ_=>ai q
theorem Qa (rs:FS6) (z:FT6) (A:FT6) (ra:FA6) (d:Nat) (F:Z7 rs d):ag9 (oS rs z A ra) d:=by
 intro s a b c g out h1 h2 hg hb;have hm:ME (d+1)=50+16*ME d:=rfl;have kb:s.body.length*ME d<=8*ME d:=cA _ h1;unfold oS aX bh bm bT cX gN bp lz bt;refine ar (uv _ g out (by omega)) λy q=>?_
 obtain⟨L,o2⟩:=y;obtain⟨q1,q2,q3⟩:=q;dsimp only at q1 q2 q3;refine a_ (by simp) ?_;refine ar (F s.body L o2 (by omega) h2 (hg.of q1) (by omega)) λy q=>?_
 obtain⟨I,D⟩:=y;obtain⟨r1,r2,r3⟩:=q;dsimp only at r1 r2 r3;refine a_ (by simp) ?_;refine ar (uv _ _ D (by omega)) λy q=>a_ (by simp) (ai ?_)
 exact QG.trans (a:=1+8*ME d) (q1.trans (r1.trans (GQ.site I _ _))) (by omega) (by omega) q (by omega)
theorem K9 (rs:FS6) (rt:FT6) (rb:FT6) (ra:FA6) (d:Nat) (hS:Z7 rs d):ag8 (mE rs rt rb ra) d:=by
 intro s g out he h1 h2 h3 h4 hg hb;have hm:ME (d+1)=50+16*ME d:=rfl;have kb:s.body.length*ME d<=8*ME d:=cA _ h1;have ke:s.els.length*ME d<=8*ME d:=cA _ h2;have hex:GE 4 (d9 (Xp.op s.expr,Xp.n s.expr,Xp.name s.expr,Xp.l s.expr)):=by rw[eX];exact he
 unfold mE aX bh bm bT cX gN lz ck bg bt aY;refine ar (BG _ _ g out hex hg (by omega)) λy q=>?_
 obtain⟨g1,o1⟩:=y;obtain⟨p1,p2,p3⟩:=q;dsimp only at p1 p2 p3;refine a_ (by simp) ?_;refine ar (uP _ g1 o1 (by omega)) λy q=>?_
 obtain⟨g2,o2⟩:=y;obtain⟨q1,q2⟩:=q;dsimp only at q1 q2;subst q1;refine a_ (by simp) ?_;refine ar (hS s.body g2 o2 (by omega) h3 (hg.of p1) (by omega)) λy q=>?_
 obtain⟨g3,o3⟩:=y;obtain⟨r1,r2,r3⟩:=q;dsimp only at r1 r2 r3;refine a_ (by simp) ?_;have z:=p1.trans (r1.trans (GQ.site g3 g.2.2.2.2.2.2.2.1 g3.2.2.2.2.2.2.2.2));refine aE (λ_=>?_) λ_=>?_
 .refine ar (uP _ _ o3 (by omega)) λy q=>?_
  obtain⟨A,L⟩:=y;obtain⟨w1,w2⟩:=q;dsimp only at w1 w2;refine a_ (by simp) (aK (ey _) (by dsimp only[aj];omega) (aK (ey _) (by dsimp only[aj];omega) (ai ⟨?_,?_,?_⟩)))
  .dsimp only;rw[w1];exact z
  .dsimp only;rw[cu];omega
  .dsimp only;rw[cu];omega
 refine aE (λ_=>?_) λ_=>?_
 .refine aK (ey _) (by dsimp only[aj];omega) (aK (ey _) (by dsimp only[aj];omega) (ai ⟨z,?_,?_⟩))
  .dsimp only;rw[cu];omega
  .dsimp only;rw[cu];omega
 .refine ar (uP _ _ o3 (by omega)) λy q=>?_
  obtain⟨A,L⟩:=y;obtain⟨w1,w2⟩:=q;dsimp only at w1 w2;have qs4:GQ g A:=by rw[w1];exact z
  refine a_ (by simp) (aK (ey _) (by dsimp only[aj];omega) (aK (ey _) (by dsimp only[aj];omega) ?_));refine ar (hS s.els A (ct L _ _) (by omega) h4 (hg.of qs4) (by rw[cu];omega)) λy q=>?_
  obtain⟨g5,o5⟩:=y;obtain⟨I,F,D⟩:=q;dsimp only at I F D;rw[cu]at F D;refine a_ (by simp) (aK (ey _) (by dsimp only[aj];omega) (aK (ey _) (by dsimp only[aj];omega) (ai ⟨qs4.trans I,?_,?_⟩)))
  .dsimp only;rw[cu];omega
  .dsimp only;rw[cu];omega
theorem Wv (rs:FS6) (rt:FT6) (rb:FT6) (ra:FA6) (d:Nat) (hB:ag8 rb d) (hA:ag9 ra d):SpG (rF rs rt rb ra) (d+1):=by
 intro s g out hs hg hb;have hm:ME (d+1)=50+16*ME d:=rfl;obtain⟨i1,i2,i3,I,i5,i6,i7,i8,i9⟩:=hs;have gs:=GQ.site g g.2.2.2.2.2.2.2.2 (ba .i64 (g.2.2.2.2.2.2.2.2+1));unfold rF aX bh bm bT cX bp lz bg bt aY aB cw dY;refine aU (λx=>QG (ME (d+1)) g out x) ?_ λx hx=>ai hx
 dsimp only;revert gs;generalize ((g.1,g.2.1,g.2.2.1,g.2.2.2.1,g.2.2.2.2.1,g.2.2.2.2.2.1,g.2.2.2.2.2.2.1,g.2.2.2.2.2.2.2.2,ba .i64 (g.2.2.2.2.2.2.2.2+1)):GN)=A;intro gs;have z:=hg.of gs;have fin:∀(n:Nat) (y:GN×Y IT),QG n A out y->n<=ME (d+1)->QG (ME (d+1)) g out y:=λn y q hn=>QG.trans (a:=0) gs (cN _) (by omega) q (by omega)
 refine aE (λF=>?_) λ_=>?_
 .refine ar (Ur (oA _) A out ?_ ?_ ?_ z (by omega)) λy q=>a_ (by simp) (ai (fin _ _ q (by omega)))
  .rw[xN];exact i1
  .rw[xN];exact i3
  .rw[xN];exact I (.inl F)
 refine aU (λx=>x.2=(A,s,out)/\(x.1=M->s.op=2\/s.op=3)) ?_ ?_
 .exact aE (λh=>ai ⟨by dsimp only;rw[xN],λ_=>.inl h⟩) λ_=>ai ⟨by dsimp only;rw[xN],λh=>.inr (bf h)⟩
 rintro⟨b,x⟩ ⟨e,D⟩;dsimp only at e D;subst e;refine aJ (λL=>?_) λ_=>?_
 .dsimp only;rw[xN];refine ar (hB s A out (I (by rcases D L with h|h;exact .inr (.inl h);exact .inr (.inr (.inl h)))) i6 i7 i8 i9 z hb) λy q=>a_ (by simp) (ai (fin _ _ q (by omega)))
 have har:∀(a b c:Int),Ok (ra ((s,a,b,c),A,out)) (QG (17+16*ME d) A out):=λa b c=>hA s a b c A out i6 i8 z hb
 have hput:∀(i:IT),Ok (cE (i,A,out)) (QG 1 A out):=λi=>uv i A out (by omega)
 have hat:∀(l:Y ζ) (n:ζ),l.length<=1000->Ok (jW (l,n)) λ_=>True:=λl n h=>(AG l n (by omega)).mono λ_ _=>trivial
 dsimp only;rw[xN];refine aE (λ_=>ar (zn _ _ z.l) λ_ _=>ar (har _ _ _) λy q=>a_ (by simp) (ai (fin _ _ q (by omega)))) λ_=>?_
 refine aE (λ_=>ar (zn _ _ z.l) λ_ _=>ar (har _ _ _) λy q=>a_ (by simp) (ai (fin _ _ q (by omega)))) λ_=>?_
 refine aE (λ_=>ar (zn _ _ z.l) λ_ _=>ar (har _ _ _) λy q=>a_ (by simp) (ai (fin _ _ q (by omega)))) λ_=>?_
 refine aE (λ_=>ar (har _ _ _) λy q=>a_ (by simp) (ai (fin _ _ q (by omega)))) λ_=>?_
 refine aE (λ_=>ar (har _ _ _) λy q=>a_ (by simp) (ai (fin _ _ q (by omega)))) λ_=>?_
 have hcond:∀(n:ζ),Ok (jw (n,A,out)) λy=>y.2=(A,out):=λn=>Zz n A out z
 refine aE (λ_=>ar (hcond _) λy q=>?_) λ_=>?_
 .obtain⟨v,y2⟩:=y;dsimp only at q;subst q;exact a_ (by simp) (ar (hput _) λy q=>a_ (by simp) (ai (fin _ _ q (by omega))))
 refine aE (λ_=>ar (hcond _) λy q=>?_) λ_=>?_
 .obtain⟨v,y2⟩:=y;dsimp only at q;subst q;exact a_ (by simp) (ar (hput _) λy q=>a_ (by simp) (ai (fin _ _ q (by omega))))
 refine aE (λ_=>ar (hcond _) λy q=>?_) λ_=>?_
 .obtain⟨v,y2⟩:=y;dsimp only at q;subst q;exact a_ (by simp) (ar (hput _) λy q=>a_ (by simp) (ai (fin _ _ q (by omega))))
 refine aE (λ_=>ar (hat _ _ z.t) λ_ _=>ar (hput _) λy q=>a_ (by simp) (ai (fin _ _ q (by omega)))) λ_=>?_
 refine aE (λ_=>ar (hat _ _ z.t) λ_ _=>ar (hput _) λy q=>a_ (by simp) (ai (fin _ _ q (by omega)))) λ_=>?_
 refine aE (λF=>?_) λ_=>?_
 .have hex:GE 4 (d9 (Xp.op s.expr,Xp.n s.expr,Xp.name s.expr,Xp.l s.expr)):=by rw[eX];exact I (.inr (.inr (.inr F)))
  refine ar (BG _ _ A out hex z (by omega)) λy q=>?_
  obtain⟨g2,o2⟩:=y;obtain⟨q1,q2,q3⟩:=q;dsimp only at q1 q2 q3;refine a_ (by simp) (ar (hat _ _ (z.of q1).f) λ_ _=>?_);exact ar (uv _ g2 o2 (by omega)) λy q=>a_ (by simp) (ai (fin 16 _ (QG.trans q1 q2 q3 q (by omega)) (by omega)))
 refine aE (λF=>?_) λ_=>ai (fin 0 _ ⟨GQ.refl _,cN _,by dsimp only;omega⟩ (by omega))
 exact ar (hat _ _ z.k.l) λ_ _=>ar (hat _ _ z.f) λ_ _=>ar (hput _) λy q=>a_ (by simp) (ai (fin _ _ q (by omega)))
theorem Vg:∀(n:Nat),(∀d:Nat,3*d<n->SpG (eE n) d)/\(∀d:Nat,3*d+1<n->Z7 (dI n) d)/\(∀d:Nat,3*d+2<n->ag8 (c6 n) d)/\(∀d:Nat,3*d+2<n->ag9 (dE n) d)
 |0=>⟨λd h=>by omega,λd h=>by omega,λd h=>by omega,λd h=>by omega⟩
 |n+1=>by
  obtain⟨z,q,A,hA⟩:=Vg n;refine ⟨λd h=>?_,λd h=>?_,λd h=>?_,λd h=>?_⟩
  .cases d with
   |zero=>exact λs g out hs=>hs.elim
   |succ d=>exact Wv (dI n) (eE n) (c6 n) (dE n) d (A d (by omega)) (hA d (by omega))
  .exact Tp (dI n) (eE n) (c6 n) (dE n) d (z d (by omega))
  .exact K9 (dI n) (eE n) (c6 n) (dE n) d (q d (by omega))
  .exact Qa (dI n) (eE n) (c6 n) (dE n) d (q d (by omega))
theorem NC (d:Nat) (hd:d<=100):Z7 tB d:=(Vg fuel).2.1 d (by rw[qk];omega)
theorem DZ:∀(n d:Nat),d<n->∀(t k:Int) (l:Y Sx) (out:Y ν),l.length<=100->(∀s∈l,GT d s)->out.length+l.length*KS d<=100000000->Ok (pt n ((t,k,l),out)) λy=>y.2.length<=out.length+l.length*KS d
 |0,_,h,_,_,_,_,_,_,_=>by omega
 |n+1,d,hn,t,k,l,out,hl,hs,hb=>by
  rw[Gh];unfold wE bA mq bt aY cM aB cw;refine b9 l.length (λi x=>x.1.2=(i:Int)/\x.2.length<=out.length+i*KS d) ?_ ?_ ⟨rfl,by simp⟩
  .rintro i ⟨⟨a,b⟩,o⟩ hi ⟨e1,e2⟩;dsimp only at e1 e2;subst e1;have hKi:(i+1)*KS d<=l.length*KS d:=cA _ (by omega);have hKs:=iP i (KS d);rw[Nat.succ_eq_add_one]at hKs;refine aQ (λ_=>?_) λg=>(by dsimp only[aj]at g;omega)
   have hin:((i:Nat):Int)<(l.length:Int):=by omega
   have hm:=hs _ (bG (T:=.sm) (xs:=l) (j:=(i:Int)) (by omega) (by omega));cases d with
   |zero=>exact hm.elim
   |succ d=>
    obtain⟨_,_,_,I,F,D,A⟩:=hm;have hk:KS (d+1)=1+16*KS d:=rfl;have kb:=cA (KS d) I;have L:=cA (KS d) F;dsimp only;refine aK (by omega) hin (aV (aZ (by simp;omega) (by omega) (aK (by omega) hin (aV ?_))));refine ar (DZ n d (by omega) _ _ _ _ (by omega) D (by simp;omega)) λy z=>a_ (by simp) ?_
    obtain⟨a2,o2⟩:=y;simp only[b7,c9]at z;refine aK (by omega) hin (aV ?_);refine ar (DZ n d (by omega) _ _ _ o2 (by omega) A (by omega)) λy q=>a_ (by simp) (ai ?_)
    exact⟨fo (by omega),by dsimp only at q ⊢;omega⟩
  .rintro⟨⟨a,b⟩,o⟩ ⟨e1,e2⟩;dsimp only at e1 e2;subst e1;exact aQ (λg=>(by dsimp only[aj]at g;omega)) λ_=>ai e2
abbrev CE6:Type:=ζ×Int×Int×Bool×Int
structure J6 (i:Nat) (y:List CE6×List (ζ×Bool)×List (ζ×Int)×List ζ):Prop where
 c:y.1.length<=2*i
 q:3<i->∃c∈y.1,c.1=[113]
 l:y.2.1.length<=i
 d:y.2.2.1.length<=i
 f:y.2.2.2.length<=i
structure WW (w:WT):Prop where
 c:w.1.length<=18
 q:∃c∈w.1,c.1=[113]
 l:w.2.1.length<=9
 d:w.2.2.1.length<=9
 f:w.2.2.2.1.length<=9
 t:w.2.2.2.2.1.length<=4
theorem Uw (p:PG) (hp:PJ p) (r:Γ) (hr:km p=Z r) (h0:r.1=0):Ok (tC p) WW:=by
 have hpt:=hp.t;unfold tC aX bh bm bT cX bp cI cD dC gd bg bA iT bt bJ aY cM aB cw;refine aS hr (bY (λh=>(h h0).elim) λ_=>?_);have hD:p.1=D0:=hp.d;have hlen:p.1.length=9:=by rw[hD];rfl
 have hz:∀z∈p.1,z.2.2.2.1<=(2:Int):=by rw[hD];decide
 have h3:aH (T:=tDc) p.1 ((3:Nat):Int)=(1,0,[113],2,0,[]):=by rw[hD];rfl
 refine b9 9 (λi x=>x.1=(i:Int)/\x.2.1=p/\J6 i x.2.2) ?_ ?_ ⟨rfl,rfl,by simp,λh=>by omega,by simp,by simp,by simp⟩
 .rintro i ⟨a,p',cs,ls,ds,fs⟩ hi ⟨e1,e2,j1,D,j3,j4,j5⟩;dsimp only at e1 e2 j1 D j3 j4 j5;subst e1;have e2:=e2.symm;subst e2;refine aQ (λ_=>?_) λg=>(by dsimp only[aj]at g;omega)
  refine aK (by dsimp only;omega) (by dsimp only;omega) (aV ?_);have hm:=hz _ (bG (T:=tDc) (xs:=p.1) (j:=(i:Int)) (by omega) (by omega));have h3i:i=3->(aH (T:=tDc) p.1 (i:Int))=(1,0,[113],2,0,[]):=λh=>by rw[h];exact h3
  revert hm h3i;generalize (aH (T:=tDc) p.1 (i:Int))=z;intro hm h3i;have hq:∀cs':Y CE6,(∀c∈cs,c∈cs')->i≠3->3<i+1->∃c∈cs',c.1=[113]:=λcs' h1 h2 h3=>by
   obtain⟨c,hc,e⟩:=D (by omega);exact⟨c,h1 c hc,e⟩
  refine aU (λx=>x.1=p/\J6 (i+1) x.2) ?_ ?_
  .refine aU (λx=>x.2=(p,z,cs,ls,ds,fs)/\(x.1=aa->i≠3)) ?_ ?_
   .refine aE (λh=>ai ⟨rfl,λh2=>?_⟩) λh=>ai ⟨rfl,λ_ h2=>h (by rw[h3i h2])⟩
    rw[bl h]at h2;cases h2
   rintro⟨b,x⟩ ⟨e,hb⟩;dsimp only at e hb;subst e;refine aJ (λ_=>?_) λhb2=>?_
   .refine mB (λx=>(2-x.1).toNat) (λx=>0<=x.1/\x.1<=2/\x.2.1=p/\x.2.2.1=z/\(x.2.2.2.1.length:Int)<=2*i+x.1/\(∀c∈cs,c∈x.2.2.2.1)/\(1<=x.1->∃c∈x.2.2.2.1,c.1=z.2.2.1)/\x.2.2.2.2=(ls,ds,fs)) ?_ ⟨by dsimp only;omega,by dsimp only;omega,rfl,rfl,by dsimp only;omega,λc hc=>hc,λh=>by dsimp only at h;omega,rfl⟩;rintro⟨(k:Int),p2,z2,cs2,x⟩ ⟨k0,k1,A,q,f3,f4,f5,f6⟩;dsimp only at k0 k1 A q f3 f4 f5 f6;have A:=A.symm;subst A;have q:=q.symm;subst q;subst f6;refine aQ (λg=>?_) λg=>?_
    .refine aZ (by simp;omega) (by omega) (ai ?_);have hg:k<gJ (z.2.2.2.1) 1:=g;have hx:gJ (z.2.2.2.1) 1<=2:=by unfold gJ;split<;>omega
     dsimp only;rw[gI (n:=k+1) (by omega) (by omega)];refine ⟨⟨by omega,by omega,rfl,rfl,by simp;omega,λc hc=>jp _ (f4 c hc),λ_=>⟨_,kx _ (aI.2 rfl),rfl⟩,rfl⟩,by omega⟩
    .have hg:gJ (z.2.2.2.1) 1<=k:=g;have hx:1<=gJ (z.2.2.2.1) 1:=by
      unfold gJ;split
      .omega
      .rename_i h;simp[fE]at h;omega
     refine ai ⟨rfl,⟨by dsimp only;omega,λh=>?_,by dsimp only;omega,by dsimp only;omega,by dsimp only;omega⟩⟩;by_cases F:i=3
     .obtain⟨c,hc,e⟩:=f5 (by omega);exact⟨c,hc,by rw[e,h3i F]⟩
     .exact hq _ f4 F h
   have ni:=hb hb2;refine aU (λx=>x.2=(p,z,cs,ls,ds,fs)) (aE (λ_=>ai rfl) λ_=>ai rfl) ?_;rintro⟨b,x⟩ e;dsimp only at e;subst e;have hqq:=hq cs (λc h=>h) ni;refine aJ (λ_=>?_) λ_=>aE (λ_=>?_) λ_=>?_
   .exact aZ (by simp;omega) (by omega) (ai ⟨rfl,⟨by dsimp only;omega,hqq,by simp;omega,by dsimp only;omega,by dsimp only;omega⟩⟩)
   .refine ar (zn _ _ (by dsimp only;omega)) λ_ _=>?_
    exact aZ (by simp;omega) (by omega) (ai ⟨rfl,⟨by dsimp only;omega,hqq,by dsimp only;omega,by simp;omega,by dsimp only;omega⟩⟩)
   .exact aZ (by simp;omega) (by omega) (ai ⟨rfl,⟨by dsimp only;omega,hqq,by dsimp only;omega,by dsimp only;omega,by simp;omega⟩⟩)
  rintro⟨p2,y⟩ ⟨A,q⟩;dsimp only at A q;have A:=A.symm;subst A;exact ai ⟨fo (by omega),rfl,q⟩
 .rintro⟨a,p',y⟩ ⟨e1,e2,j⟩;dsimp only at e1 e2 j;subst e1;have e2:=e2.symm;subst e2;refine aQ (λg=>(by dsimp only[aj]at g;omega)) λ_=>?_
  obtain⟨cs,ls,ds,fs⟩:=y;obtain⟨j1,D,j3,j4,j5⟩:=j;dsimp only at j1 D j3 j4 j5;refine ar (P:=WW) ?_ λr hr=>ai hr
  refine b9 p.2.length (λi x=>x.1=(i:Int)/\x.2.1=p/\x.2.2.1=cs/\x.2.2.2.1=ls/\x.2.2.2.2.1=ds/\x.2.2.2.2.2.1=fs/\x.2.2.2.2.2.2.1.length=i/\x.2.2.2.2.2.2.2.length<=i*2184) ?_ ?_ ⟨rfl,rfl,rfl,rfl,rfl,rfl,rfl,by simp⟩
  .rintro i ⟨a,p2,c2,l2,d2,q,t2,s2⟩ hi ⟨e1,e2,e3,e4,L,I,e7,e8⟩;dsimp only at e1 e2 e3 e4 L I e7 e8;subst e1;have e2:=e2.symm;subst e2;refine aQ (λ_=>?_) λg=>(by dsimp only[aj]at g;omega)
   have hin:((i:Nat):Int)<(p.2.length:Int):=by omega
   have hm:=hp.m _ (bG (T:=Ht) (xs:=p.2) (j:=(i:Int)) (by omega) hin);have hk:KS 3=273:=rfl;have hb:=hm.b;have hle:=cA (KS 3) hb;rw[hk]at hle;dsimp only;refine aK (by omega) hin (aV (aZ (by simp;omega) (by omega) (aK (by omega) hin (aV ?_))));refine ar (DZ fuel 3 (by rw[qk];omega) _ _ _ s2 (by omega) (λs hs=>(hm.s s hs).t) (by rw[hk];omega)) λy hy=>a_ (by simp) (ai ?_)
   rw[hk]at hy;exact⟨fo (by omega),rfl,e3,e4,L,I,by simp;omega,by dsimp only;omega⟩
  .rintro⟨a,p2,c2,l2,d2,q,t2,s2⟩ ⟨e1,e2,e3,e4,L,I,e7,e8⟩;dsimp only at e1 e2 e3 e4 L I e7 e8;subst e1;have e2:=e2.symm;subst e2;subst e3;subst e4;subst L;subst I;refine aQ (λg=>(by dsimp only[aj]at g;omega)) λ_=>ai ?_
   exact⟨j1,D (by omega),j3,j4,j5,by dsimp only;omega⟩
theorem Ot (p:PG) (hp:PJ p):Ok (p_ p) λy=>CB y.1:=by
 have hpt:=hp.t;unfold p_ aX bh bm bT cX bp cD dC lz bA iT bt bJ kM aY cM aB cw;obtain⟨r,hr,_⟩:=Da p hp.x;refine aS hr (bY (λ_=>ai ⟨by simp,λt ht=>(by cases ht)⟩) λh0=>?_);refine ar (Uw p hp r hr h0) λw L=>?_
 refine b9 p.2.length (λi x=>x.1.2=(i:Int)/\x.2.1=p/\x.2.2.1=w/\x.2.2.2.length=i/\∀t∈x.2.2.2,t.2.length<=1000000) ?_ ?_ ⟨rfl,rfl,rfl,rfl,λt ht=>(by cases ht)⟩
 .rintro i ⟨⟨a,b⟩,p2,w2,cs⟩ hi ⟨e1,e2,e3,e4,e5⟩;dsimp only at e1 e2 e3 e4 e5;subst e1;have e2:=e2.symm;subst e2;have e3:=e3.symm;subst e3;have hin:((i:Nat):Int)<(p.2.length:Int):=by omega
  refine aQ (λ_=>?_) λg=>(by dsimp only[aj]at g;omega)
  have hm:=hp.m _ (bG (T:=Ht) (xs:=p.2) (j:=(i:Int)) (by omega) hin);dsimp only;refine aK (by omega) hin (aV (aK (by omega) hin (aV ?_)));revert hm;generalize (aH (T:=Ht) p.2 (i:Int))=t;intro hm;have hk:ME 3=50+16*(50+16*50):=rfl;have hle:=cA (ME 3) hm.b;rw[hk]at hle;have hll:t.2.2.1.length=2:=by rw[hm.l];rfl
  refine ar (NC 3 (by omega) _ _ [] (by have:=hm.b;omega) hm.s ⟨⟨by have:=L.c;dsimp only;omega,L.q,by dsimp only;omega⟩,by have:=L.l;dsimp only;omega,by have:=L.d;dsimp only;omega,by have:=L.f;dsimp only;omega,by have:=L.t;dsimp only;omega⟩ (by rw[hk,j6];omega)) λy I=>a_ (by simp) ?_
  obtain⟨g2,o2⟩:=y;obtain⟨q1,q2,q3⟩:=I;rw[hk]at q3;dsimp only at q1 q2 q3;rw[j6]at q3;refine ar (uv _ _ o2 (by omega)) λy I=>a_ (by simp) ?_
  obtain⟨g3,o3⟩:=y;have o3l:=I.u;dsimp only at o3l;refine b9 o3.length (λk x=>x.1=(k:Int)/\x.2.1=p/\x.2.2.1=w/\x.2.2.2.2.2.1=cs/\x.2.2.2.2.2.2=o3) ?_ ?_ ⟨rfl,rfl,rfl,rfl,rfl⟩
  .rintro k ⟨a,p2,w2,g4,rg,c2,o4⟩ hk2 ⟨F,D,A,z,f5⟩;dsimp only at F D A z f5;subst F;have D:=D.symm;subst D;have A:=A.symm;subst A;have z:=z.symm;subst z;have f5:=f5.symm;subst f5;refine aQ (λ_=>?_) λg=>(by dsimp only[aj]at g;omega)
   dsimp only;refine aK (by omega) (by omega) (aK (by omega) (by omega) (aV (aS (xd _) ?_)));generalize (aH (T:=UN) o3 (k:Int))=ins;have hrl:=Hz ins;refine b9 (sL ins).length (λj x=>x.1=(j:Int)/\x.2.1=p/\x.2.2.1=w/\x.2.2.2.2.2.1=cs/\x.2.2.2.2.2.2=o3) ?_ ?_ ⟨rfl,rfl,rfl,rfl,rfl⟩
   .rintro j ⟨a,p2,w2,g4,rg,c2,o4⟩ hj ⟨F,D,A,z,f5⟩;dsimp only at F D A z f5;subst F;refine aQ (λ_=>?_) λg=>(by dsimp only[aj]at g;omega)
    exact aK (by dsimp only;omega) (by dsimp only;omega) (aV (ai ⟨fo (by omega),D,A,z,f5⟩))
   .rintro⟨a,p2,w2,g4,rg,c2,o4⟩ ⟨F,D,A,z,f5⟩;dsimp only at F D A z f5;subst F;exact aQ (λg=>(by dsimp only[aj]at g;omega)) λ_=>ai ⟨fo (by omega),D,A,z,f5⟩
  .rintro⟨a,p2,w2,g4,rg,c2,o4⟩ ⟨F,D,A,z,f5⟩;dsimp only at F D A z f5;subst F;have D:=D.symm;subst D;have A:=A.symm;subst A;have z:=z.symm;subst z;have f5:=f5.symm;subst f5;refine aQ (λg=>(by dsimp only[aj]at g;omega)) λ_=>?_
   refine ar (P:=λr=>match r with|.inl y=>y.1.2=((i+1:Nat):Int)/\y.2.1=p/\y.2.2.1=w/\y.2.2.2.length=i+1/\∀t∈y.2.2.2,t.2.length<=1000000|.inr y=>CB y.1) ?_ ?_
   .refine aZ (by simp;omega) (by omega) (ai ⟨fo (by omega),rfl,rfl,by simp;omega,λt ht=>?_⟩);rcases bP.1 ht with ht|ht
    .exact e5 t ht
    .rw[aI]at ht;rw[ht];dsimp only;omega
   .rintro (y|y) I
    .exact ai I
    .exact ai I
 .rintro⟨⟨a,b⟩,p2,w2,cs⟩ ⟨e1,e2,e3,e4,e5⟩;dsimp only at e1 e2 e3 e4 e5;subst e1;exact aQ (λg=>(by dsimp only[aj]at g;rw[e2]at g;omega)) λ_=>ai ⟨by dsimp only;omega,e5⟩
theorem KI (a b:η) (s:a.length<=9223372036854775807) (q:∀z∈a,0<=z/\z<=255) (hb:b.length<=1000000):Ok (rW (a,b)) TR:=by
 unfold rW;refine ar (P:=CB) ?_ λc hc=>ar (UJ b hb) λl hl=>?_
 .unfold wB;exact ar (FW a s q) λp hp=>ar (Ot p hp) λy d=>ai d
 .exact ar (aga c l hc (by omega)) λy d=>ai d
theorem Oq (a b c:η) (n:Int) (n0:0<=n) (n1:n<=1000000) (s:a.length<=9223372036854775807) (q:∀z∈a,0<=z/\z<=255) (hc:c.length<=9223372036854775807) (d:∀z∈c,0<=z/\z<=255):Ok (kV ((a,b,c),n)) TR:=by
 unfold kV bA bt aY;refine aQ (λ_=>ar (Hx c n hc d) λy h=>ai h) λ_=>?_
 have h0:0<=F1 (aT b.length) n/\F1 (aT b.length) n<=(b.length:Int)/\F1 (aT b.length) n<=n:=by
  unfold F1;split
  .rename_i h;rw[lQ]at h;dsimp only[aj]at h;exact⟨n0,by omega,fb _⟩
  .rename_i h;have h:=fD.1 (Bool.eq_false_iff.2 h);dsimp only[aj]at h ⊢;exact⟨by omega,fb _,h⟩
 refine cR (dv h0.1 (dv h0.2.1 ?_));have h1:(dj (aO (F1 (aT b.length) n)) b).length<=1000000:=by rw[cg];have:=h0.1;have:=h0.2.2;omega
 exact ar (KI a _ s q h1) λy h=>ai h
def HS.zero (w:Dj):HS:=⟨aA w.2.2.2.2.1.length [],aA w.2.2.2.2.1.length [],aA w.2.1.length [],aA w.2.1.length [],aA w.1.length [],aA w.2.2.2.1.length [],[],aA w.2.2.2.2.1.length [],aA w.2.2.2.2.1.length (-1)⟩
theorem HS.zero_ok {w:Dj} (h1:w.1.length<=1000) (h2:w.2.1.length<=1000) (q:w.2.2.2.1.length<=1000) (d:w.2.2.2.2.1.length<=1000):UH 0 (HS.zero w):=by
 have z:(0:Int)<=0:=by omega
 exact⟨z,by omega,AE.repl z _,AE.repl z _,AE.repl z _,AE.repl z _,AE.repl z _,AE.repl z _,En.nil z,AE.repl z _,by simpa[HS.zero] using d,by simp[HS.zero],by simp[HS.zero],by simp[HS.zero],by simpa[HS.zero] using h2,by simp[HS.zero],by simpa[HS.zero] using h1,by simpa[HS.zero] using q⟩
structure Fit (w:Dj) (h:HS):Prop where
 T:h.T.length=w.2.2.2.2.1.length
 L:h.L.length=w.2.1.length
 C:h.C.length=w.1.length
 F:h.F.length=w.2.2.2.1.length
theorem Fit.zero (w:Dj):Fit w (HS.zero w):=⟨by simp[HS.zero],by simp[HS.zero],by simp[HS.zero],by simp[HS.zero]⟩
theorem Fit.ent {w:Dj} {h:HS} (f:Fit w h) (e:EV) (x:η):Fit w (ug w h e x):=by
 obtain⟨a,b,c,d,g,i,j,k⟩:=E6 w h e x;exact⟨a.trans f.T,c.trans f.L,g.trans f.C,i.trans f.F⟩
theorem Fit.step {w:Dj} {h:HS} (f:Fit w h) (e:EV):Fit w (OP w h e).1:=f.ent e _
def evP (e:ET):EV:=⟨e.1.toNat,e.2.1.toNat,e.2.2.1.toNat,e.2.2.2.1⟩
theorem aik {w:WT} {e:ET} (f:X9 w e):EvT (evP e) e:=by
 obtain⟨⟨k1,k2,ce,lk,cd,th,fu⟩,t0,_,_⟩:=f;refine ⟨(mi t0).symm,(mi (by omega)).symm,λh=>(mi ?_).symm,rfl⟩;unfold evP at h;simp only[bx,cH,gK]at h;by_cases h1:e.2.1=3\/e.2.1=4
 .exact (ce h1).1
 by_cases h2:6<=e.2.1/\e.2.1<=11
 .exact (lk h2).1
 by_cases s:16<=e.2.1/\e.2.1<=19
 .exact (cd s).1
 by_cases q:e.2.1=20\/e.2.1=21
 .exact (th q).1
 by_cases d:e.2.1=22\/e.2.1=23
 .exact (fu d).1
 omega
theorem Zp {w:WT} {e:ET} (f:X9 w e) (wb:WB w) {h:HS} (d:Fit w h):EOK w h (evP e):=by
 obtain⟨⟨k1,k2,ce,lk,cd,th,fu⟩,t0,t1,s⟩:=f;have b5:=wb.t;have I:=d.T;have D:=d.L;have A:=d.C;have z:=d.F;unfold evP;refine ⟨by dsimp only;omega,by dsimp only;omega,by dsimp only;omega,by dsimp only;omega,λq=>?_,λq=>?_,λq=>?_,λq=>?_,λq=>?_⟩<;>dsimp only at q ⊢
 .have:=th (by omega);omega
 .have:=lk (by omega);omega
 .have g:=cd (by omega);have hl:e.2.2.1.toNat<w.2.2.1.length:=by omega
  have hm:=s (w.2.2.1.getD e.2.2.1.toNat ([],0)) (by rw[ay,aw hl];exact qz hl);refine ⟨hl,hm.1,?_⟩;unfold mxP;have:=hm.2;have:=hm.1;omega
 .have:=ce (by omega);omega
 .have:=fu (by omega);omega
theorem ze (a b:Int):eO (a,b)=Z (decide (0<=a/\a<b)):=by
 refine b6 ?_;unfold eO ji aB;with_reducible repeat' first|(refine OS.ok ?_;constructor)|refine IM.mk λ_=>?_
 .by_cases h:a<b<;>simp[*,fE]
 .simp;omega
theorem FO (l:η) (t:Int) (hl:l.length<=1000):jy (l,t)=Z (l.contains t):=by
 refine b6 ?_;unfold jy qY wN bg bA bJ aY cM aB cw;refine ar (P:=λy:Int=>0<=y↔t∈l) ?_ λy d=>ai ?_
 .refine eB l.length (by omega) (λi x=>x=(i:Int)/\∀j,j<i->¬l.getD j 0=t) ?_ ?_ ⟨rfl,λj hj=>by omega⟩
  .rintro i x hi ⟨rfl,hn⟩;refine ic ?_;refine dW (aV (aE (λh=>ai ?_) λh=>ai ?_))
   .refine ⟨λ_=>?_,λ_=>by omega⟩;have h:t=aH (T:=.int .i64) l (i:Int):=h;rw[h];exact bG (T:=.int .i64) (xs:=l) (by omega) (by omega)
   .refine ⟨fo (by omega),λj hj=>?_⟩;have h:¬t=l.getD i 0:=h;by_cases e:j=i
    .subst e;exact λg=>h g.symm
    .exact hn j (by omega)
  .rintro x ⟨rfl,hn⟩;refine gP (ai ?_);refine ⟨λg=>(by omega),λg=>?_⟩;obtain⟨j,hj,e⟩:=ve g;exact (hn j hj (by rw[ay,aw hj];exact e)).elim
 .by_cases h:t∈l
  .have:=d.2 h;simp[cO,h,this]
  .have:¬0<=y:=λg=>h (d.1 g)
   simp[cO,h,this]
theorem aez (w:WT) (s:SY) (d:w.2.2.1.length<=1000) (cd:∀c∈w.2.2.1,0<=c.2/\c.2<w.2.1.length) (e1:s.1.length=w.2.1.length) (e2:s.2.2.1.length=w.2.2.2.1.length) (e3:s.2.2.2.length=w.2.2.2.2.1.length):iC (w,s)=Z M:=by
 refine b6 ?_;unfold iC qj aX bh bm cI bA iT bJ aY cM aB cw;refine aU (λx=>x=(aa,w)) ?_ ?_
 .refine bY (λh=>(h (by dsimp only[aj];omega)).elim) λ_=>bY (λh=>(h (by dsimp only[aj];omega)).elim) λ_=>ai ?_
  dsimp only[aj];rw[e3];simp
 rintro x rfl;refine fw (eB w.2.2.1.length (by omega) (λi x=>x=((i:Int),w)) ?_ ?_ rfl)
 .rintro i x hi rfl;refine ic ?_;refine dW (aV (aS (ze _ _) (bY (λh=>(h ?_).elim) λ_=>ai ?_)))
  .exact cd _ (bG (T:=pL) (xs:=w.2.2.1) (j:=(i:Int)) (by omega) (by omega))
  .dsimp only;rw[fo (by omega)]
 .rintro x rfl;exact gP (ai rfl)
theorem ZT (w:WT) (k o:Int) (h:NM w k o):jf (w,k,o)=Z M:=by
 refine b6 ?_;obtain⟨k1,k2,ce,lk,cn,th,fu,no,mu,rw_⟩:=h;unfold jf aX bh bm bT bg bJ aY aB;rcases @yk k with rfl|rfl|rfl|rfl|rfl|rfl|rfl|rfl|rfl|rfl|rfl|rfl|rfl|rfl|rfl|rfl|rfl|rfl|rfl|rfl|rfl|rfl|rfl|⟨hk,d⟩
 case inr.inr.inr.inr.inr.inr.inr.inr.inr.inr.inr.inr.inr.inr.inr.inr.inr.inr.inr.inr.inr.inr.inr=>omega
 all_goals simp only[aN,aR,kG,ze]
 all_goals with_reducible repeat' first|(refine OS.ok ?_;constructor)|refine IM.mk λ_=>?_
 all_goals try simp only[aj,ol] at*
 all_goals first|omega|exact rw_ ⟨by decide,by decide⟩|(simp only[*,Bool.not_false,dK];done)
theorem af6 {n:Nat} (w:WT) (s:SY) (hs:SB n s) (hn:n<=1000) (t k o:Int) (he:EN w s t k o) (hr:FL w s t k o):kB (w,s,t,k,o)=Z M:=by
 refine b6 ?_;obtain⟨nm,t0,t1,cd,e1,e2,e3⟩:=id he;obtain⟨_,_,ce,lk,cn,th,fu,no,mu,rw_⟩:=nm;obtain⟨_,_,_,aq,wr,ra,rl,rr,xb,xe,ab,ae,nt,sp,jo,se,ge⟩:=hr;have hm:16<=k/\k<=19->0<=(aH (T:=pL) w.2.2.1 o).2/\(aH (T:=pL) w.2.2.1 o).2<w.2.1.length:=λh=>cd _ (bG (cn h).1 (cn h).2)
 have z:6<=k/\k<=11->jy ((aH (T:=tf) s.1 o).2,t)=Z ((aH (T:=tf) s.1 o).2.contains t):=λh=>FO _ _ (by
  have:=hs.rd _ (bG (T:=tf) (lk h).1 (by have:=(lk h).2;omega));omega)
 have lk1:6<=k/\k<=11->0<=o/\o<(s.1.length:Int):=λh=>by have:=lk h;omega
 have q:t<(s.2.2.2.length:Int):=by omega
 have fu1:k=22\/k=23->0<=o/\o<(s.2.2.1.length:Int):=λh=>by have:=fu h;omega
 have th1:k=20\/k=21->0<=o/\o<(s.2.2.2.length:Int):=λh=>by have:=th h;omega
 have d:∀{p:Prop} [Decidable p],p->decide p=M:=λh=>bl h
 unfold kB aX bh bm cI cD bg iT bJ aY aB;refine aE (λh=>?_) λI=>?_
 .have h:k=6:=h;exact aK (lk1 (by omega)).1 (lk1 (by omega)).2 (aV (ai (d (aq (.inl h)))))
 refine aE (λh=>?_) λA=>?_
 .have h:k=10:=h;refine fP (aK (lk1 (by omega)).1 (lk1 (by omega)).2 (aV (aE (λ_=>?_) λg=>(g (aq (.inr (.inr h)))).elim)));refine aK (lk1 (by omega)).1 (lk1 (by omega)).2 (aV (ai (ai (d ?_))));have:=wr h;dsimp only[aj]at this ⊢;omega
 refine aE (λh=>?_) λF=>?_
 .have h:k=8:=h;refine fP (aK (lk1 (by omega)).1 (lk1 (by omega)).2 (aV (aE (λ_=>?_) λg=>(g (aq (.inr (.inl h)))).elim)));refine aK (lk1 (by omega)).1 (lk1 (by omega)).2 (aV (aS (z (by omega)) (ai (ai ?_))));rw[ra h];rfl
 refine aU (λx=>x.2=(w,s)/\(x.1=M↔k=7\/k=11)) (aE (λh=>ai ⟨rfl,λ_=>.inl h,λ_=>d h⟩) λh=>ai ⟨rfl,λh2=>.inr (bf h2),λh2=>d (h2.resolve_left h)⟩) ?_;rintro⟨b,x⟩ ⟨e,hb⟩;dsimp only at e hb;subst e;refine aJ (λh=>?_) λ_=>?_
 .have h:=hb.1 h;exact aK (lk1 (by omega)).1 (lk1 (by omega)).2 (aV (ai (d (rl h))))
 refine aE (λh=>?_) λD=>?_
 .have h:k=9:=h;refine aK (lk1 (by omega)).1 (lk1 (by omega)).2 (aV (aS (z (by omega)) (ai (rr h))))
 refine aE (λh=>ai (d (xb h))) λ_=>aE (λh=>ai (d (xe h))) λ_=>?_
 refine aE (λh=>aK t0 q (aV (ai (by have:=ab h;dsimp only at this ⊢;rw[this];rfl)))) λ_=>aE (λh=>aK t0 q (aV (ai (ae h)))) λ_=>?_
 refine aU (λx=>x.2=(w,s)/\(x.1=M->k=16\/k=18\/k=19)) (aE (λh=>ai ⟨rfl,λ_=>.inl h⟩) λ_=>aE (λh=>ai ⟨rfl,λ_=>.inr (.inl h)⟩) λ_=>ai ⟨rfl,λh=>.inr (.inr (bf h))⟩) ?_;rintro⟨c,x⟩ ⟨e,hc⟩;dsimp only at e hc;subst e;refine aJ (λh=>?_) λ_=>?_
 .have h:=hc h;have hq:=hm (by omega);exact aK (cn (by omega)).1 (cn (by omega)).2 (aV (aK hq.1 (by rw[e1];exact hq.2) (aV (ai (d (nt h))))))
 refine aE (λh=>?_) λ_=>?_
 .have h:k=20:=h;exact fP (bY (λ_=>aK (th1 (.inl h)).1 (th1 (.inl h)).2 (aV (ai (ai (d (sp h).2))))) λg=>((sp h).1 g).elim)
 refine aE (λh=>?_) λ_=>?_
 .have h:k=21:=h;exact fP (bY (λ_=>aK (th1 (.inr h)).1 (th1 (.inr h)).2 (aV (ai (ai (d (jo h).2))))) λg=>((jo h).1 g).elim)
 refine aE (λh=>aK (fu1 (.inl h)).1 (fu1 (.inl h)).2 (aV (ai (by have:=se h;dsimp only at this ⊢;rw[this];rfl)))) λ_=>aE (λh=>aK (fu1 (.inr h)).1 (fu1 (.inr h)).2 (aV (ai (ge h)))) λ_=>ai rfl
theorem oH {n:Nat} (w:WT) (s:SY) (hs:SB n s) (hn:n<=1000) (D:w.2.2.1.length<=1000) (t k o:Int) (he:EN w s t k o) (hr:FL w s t k o):eh (w,s,t,k,o)=Z M:=by
 refine b6 ?_;obtain⟨nm,t0,t1,cd,e1,e2,e3⟩:=id he;have hrd:=af6 w s hs hn t k o he hr;have A:t<(s.2.2.2.length:Int):=by omega
 unfold eh aX bh bm bp cI cD bg bJ aY aB;refine aU (λx=>x=(aa,w,s)) ?_ ?_
 .refine aS (aez w s D cd e1 e2 e3) (jG rfl (aS (ze _ _) ?_));refine bY (λh=>(h ⟨t0,t1⟩).elim) λ_=>aS (ZT w k o nm) (ai rfl)
 rintro x rfl;refine fw (aK t0 A (aV ?_));refine aE (λh=>ai (bl (hr.b h))) λn1=>?_
 refine aE (λh=>?_) λd=>?_
 .have h:k=17:=h;obtain⟨a1,a2,a3⟩:=hr.wk h;obtain⟨z,q⟩:=nm.cd (by omega);have hq:=cd _ (bG (T:=pL) (xs:=w.2.2.1) (j:=o) z q);refine fP (aE (λ_=>aE (λ_=>?_) λg=>(g a2).elim) λg=>(g a1).elim);exact aK z q (aV (aK hq.1 (by rw[e1];exact hq.2) (aV (ai (ai (bl a3))))))
 refine fP (aE (λ_=>aS hrd (ai (ai rfl))) λg=>(g (hr.r n1 d)).elim)
theorem abh (w:WT) (e:ET) (h1:e.2.1=1\/e.2.1=2->e.2.2.2.2.1= -1) (h2:¬(e.2.1=1\/e.2.1=2)->0<=e.2.2.2.2.1/\e.2.2.2.2.1<w.2.2.2.2.2.length/\(aH (T:=Dh) w.2.2.2.2.2 e.2.2.2.2.1).1=e.1):gu (w,e)=Z M:=by
 refine b6 ?_;unfold gu aX cX cD bg bA ji bJ aY aB;refine aU (λx=>x.2=(w,e)/\(x.1=M↔e.2.1=1\/e.2.1=2)) (aE (λh=>ai ⟨rfl,λ_=>.inl h,λ_=>rfl⟩) λh=>ai ⟨rfl,λh2=>.inr (bf h2),λh2=>bl (h2.resolve_left h)⟩) ?_;rintro⟨b,x⟩ ⟨e1,hb⟩;dsimp only at e1 hb;subst e1;refine aJ (λh=>ai (bl (h1 (hb.1 h)))) λh=>?_
 obtain⟨a1,a2,a3⟩:=h2 λg=>by rw[hb.2 g]at h;cases h
 exact fP (dV (λ_=>ic (aK a1 a2 (aV (ai (ai (bl a3)))))) λg=>(by dsimp only at g;omega))
theorem ZP {l:η} (h:xR l) (i:Nat) (hi:i<l.length):∀z∈l.drop (i+1),l.getD i 0<z:=by
 induction l generalizing i with
 |nil=>cases hi
 |cons a l d=>
  cases i with
  |zero=>exact λz q=>h.1 z (by simpa using q)
  |succ i=>exact d h.2 i (by simpa using hi)
theorem Qy (w:WT) (s:SN) (e:ET) (ce:e.2.1=3\/e.2.1=4->0<=e.2.2.1/\e.2.2.1<w.1.length) (de:0<e.2.2.2.2.2.1.length->e.2.1=5\/(e.2.1=3\/e.2.1=4)/\¬(aH (T:=OD) w.1 e.2.2.1).2.2.1=0) (fr:0<e.2.2.2.2.2.2.length->e.2.1=4\/e.2.1=22) (t0:0<=e.1) (t1:e.1<s.2.2.2.length) (nd:AN (aH (T:=.int .i64) s.2.2.2 e.1) e.2.2.2.2.2.1) (nf:AN (aH (T:=.int .i64) s.2.2.2 e.1) e.2.2.2.2.2.2) (ld:e.2.2.2.2.2.1.length<=1000000) (lf:e.2.2.2.2.2.2.length<=1000000):dy (w,s,e)=Z M:=by
 refine b6 ?_;unfold dy gS aX bh bm bT bp cI dC bg bA ji bt bJ aY cM aB cw;refine aU (λx=>x.2=(s,e)/\((e.2.1=3\/e.2.1=4)/\¬(aH (T:=OD) w.1 e.2.2.1).2.2.1=0->x.1=M)) ?_ ?_
 .refine aE (λh=>?_) λn3=>aE (λh=>?_) λn4=>?_
  .exact aK (ce (.inl h)).1 (ce (.inl h)).2 (aV (ai ⟨rfl,λg=>by simpa using g.2⟩))
  .exact aK (ce (.inr h)).1 (ce (.inr h)).2 (aV (ai ⟨rfl,λg=>by simpa using g.2⟩))
  .exact ai ⟨rfl,λg=>(g.1.elim n3 n4).elim⟩
 rintro⟨b,x⟩ ⟨e1,hb⟩;dsimp only at e1 hb;subst e1;refine aU (λx=>x.1=s/\x.2.1=e/\(0<e.2.2.2.2.2.1.length->x.2.2.1=M)/\(0<e.2.2.2.2.2.2.length->x.2.2.2=M)) ?_ ?_
 .refine aE (λL=>aE (λd=>ai ⟨rfl,rfl,λ_=>rfl,λ_=>rfl⟩) λd=>ai ⟨rfl,rfl,λ_=>rfl,λg=>?_⟩) λL=>aE (λd=>ai ⟨rfl,rfl,λg=>?_,λ_=>rfl⟩) λd=>ai ⟨rfl,rfl,λg=>?_,λg=>?_⟩
  .exact bl ((fr g).resolve_left d)
  .exact hb ((de g).resolve_left L)
  .exact hb ((de g).resolve_left L)
  .exact bl ((fr g).resolve_left d)
 rintro⟨s',e',a,b'⟩ ⟨e1,e2,h1,h2⟩;dsimp only at e1 e2 h1 h2;subst e1;subst e2;have key:∀(r:η),r.length<=1000000->AN (aH (T:=.int .i64) s'.2.2.2 e'.1) r->∀j:Nat,j<r.length->∀z∈r.drop (j+1),aH (T:=.int .i64) r (j:Int)<z:=λr _ h j hj z F=>ZP h.a j hj z F
 refine eB 2 (by omega) (λi x=>x=((i:Int),s',e',a,b')) ?_ ?_ rfl
 .rintro i x hi rfl;refine ic ?_;refine cR (dv (by dsimp only;omega) (rA (by dsimp only;omega) (aV ?_)));have hr:∃r:η,aH (T:=.sl (.int .i64)) [e'.2.2.2.2.2.1,e'.2.2.2.2.2.2] (i:Int)=r/\AN (aH (T:=.int .i64) s'.2.2.2 e'.1) r/\r.length<=1000000/\(0<r.length->aH (T:=.bool) [a,b'] (i:Int)=M):=by
   match i,hi with
   |0,_=>exact⟨_,rfl,nd,ld,h1⟩
   |1,_=>exact⟨_,rfl,nf,lf,h2⟩
  obtain⟨r,er,hA,hl,I⟩:=hr;have er':aH (T:=.sl aL) [e'.2.2.2.2.2.1,e'.2.2.2.2.2.2] (i:Int)=r:=er;dsimp only at er' ⊢;rw[er'];refine aU (λx=>x=(aa,s',e',a,b')) ?_ ?_
  .refine aQ (λg=>?_) λ_=>ai rfl
   have g':0<r.length:=by dsimp only[aj]at g;omega
   refine cR (dv (by omega) (rA (by omega) (dW (aV (ai ?_)))));rw[I g'];rfl
  rintro x rfl;refine fw ?_;refine eB r.length (by omega) (λj x=>x.1.2=(j:Int)/\x.2=(s',e',a,b')/\∀z∈r.drop j,x.1.1<z) ?_ ?_ ⟨rfl,rfl,λz F=>?_⟩
  .rintro j ⟨⟨la,ix⟩,x⟩ hj ⟨D,A,g3⟩;dsimp only at D A g3;subst D;subst A;have m:aH (T:=.int .i64) r (j:Int)∈r:=bG (T:=.int .i64) (xs:=r) (by omega) (by omega);have m2:aH (T:=.int .i64) r (j:Int)∈r.drop j:=by
    have:aH (T:=.int .i64) r (j:Int)=r[j]:=by
     show r.getD j 0=_;rw[ay,aw hj];rfl
    rw[this,List.drop_eq_getElem_cons hj];exact ep
   refine ic ?_;refine dW (aV (aU (λx=>x=(aa,s',e',a,b')) ?_ ?_))
   .refine dV (λg=>?_) λ_=>aK t0 t1 (aV (ai ?_))
    .have q1:=g3 _ m2;exact dR q1 (by dsimp only at g;exact λq=>dR (Int.lt_of_lt_of_le q g) (Int.lt_irrefl _))
    .have:=(hA.m _ m).2;rw[ko.2 (show aH (T:=.int .i64) r (j:Int)<aH (T:=.int .i64) s'.2.2.2 e'.1 from this)]
   rintro x rfl;exact fw (ai ⟨fo (by omega),rfl,key r hl hA j hj⟩)
  .rintro⟨⟨la,ix⟩,x⟩ ⟨D,A,_⟩;dsimp only at D A;subst D;subst A;exact gP (ai (i_ (·,s',e',a,b') (fo (by omega))))
  .have:=(hA.m z (by simpa using F)).1;dsimp only;omega
 .rintro x rfl;exact gP (ai rfl)
theorem aij (w:WT) (s:SN) (d:w.2.2.1.length<=1000) (t k o:Int) (he:EN w s.1 t k o) (hf:RN w s):il (w,s)=Z M:=by
 obtain⟨_,_,_,cd,e1,e2,e3⟩:=he;obtain⟨A,z,q⟩:=hf;refine b6 ?_;unfold il aX bh bm cI bg aY aB;refine fP (aS (aez w s.1 d cd e1 e2 e3) (ux (aE (λ_=>aE (λ_=>ai (ai (bl ?_))) λg=>(g ?_).elim) λg=>(g ?_).elim)));all_goals dsimp only[aj];omega
theorem zd (th:Y (Int×Int×Bool)) (c:Int) (i:Nat):wl th c (i+1)=if EE c (aH (T:=uO) th (i:Int)) then wl th c i++[(i:Int)] else wl th c i:=rfl
theorem aaz {n:Nat} (w:WT) (s:SN) (hs:SB n s.1) (e:ET) (hf:RN w s) (he:EN w s.1 e.1 e.2.1 e.2.2.1) (va:VA w s.1 s.2.1 s.2.2.1 e.1 e.2.1 e.2.2.1 e.2.2.2.1):eK (s,e)=Z M:=by
 refine b6 ?_;obtain⟨t,k,o,v,A,de,fr⟩:=e;obtain⟨s1,s2,s3,s4⟩:=s;obtain⟨nm,t0,t1,cd,e1,e2,e3⟩:=he;obtain⟨_,_,ce,lk,cn,th,fu,_,_,_⟩:=nm;obtain⟨f1,f2,f3⟩:=hf;have hth:=hs.th;obtain⟨v3,F,v5,vel⟩:=va;dsimp only at*
 unfold eK jN aX bh bm bT bp bg bA bJ aY cM aB cw;refine aE (λh=>?_) λn3=>?_
 .have h:k=3:=h;obtain⟨c0,c1⟩:=ce (.inl h);exact aK c0 (by rw[f1];exact c1) (aV (ai (bl (v3 h))))
 refine aE (λh=>?_) λI=>?_
 .have h:k=23:=h;obtain⟨c0,c1⟩:=fu (.inr h);exact aK c0 (by rw[f2];exact c1) (aV (ai (bl (F h))))
 refine aE (λh=>?_) λn5=>?_
 .have h:k=5:=h;exact fP (aE (λ_=>ai (ai rfl)) λg=>ai (ai (bl ((v5 h).resolve_left g))))
 refine aU (λx=>x.2=((s1,s2,s3,s4),t,k,o,v,A,de,fr)/\(x.1=aa->¬k=4/\¬k=22)) (aE (λh=>ai ⟨rfl,λh2=>(by rw[bl h]at h2;cases h2)⟩) λh=>ai ⟨rfl,λh2=>⟨h,jF h2⟩⟩) ?_;rintro⟨b,x⟩ ⟨e,hb⟩;dsimp only at e hb;subst e;refine aJ (λh=>ai rfl) λh=>?_
 obtain⟨n4,L⟩:=hb h;have vel:=vel n3 I n5 n4 L;have hWl:=pO s1.2.2.2 o s1.2.2.2.length;refine aE (λh=>?_) λn18=>?_
 .have h:k=18:=h;subst h;rw[JW]at vel;refine eB s1.2.2.2.length (by omega) (λi x=>x.1.2.2=(i:Int)/\x.2=(t,18,o,v,A,de,fr)/\x.1.1=((wl s1.2.2.2 o i).length:Int)/\(x.1.2.1=M↔v∈wl s1.2.2.2 o i)) ?_ ?_ ⟨rfl,rfl,rfl,by simp[wl]⟩
  .rintro i ⟨⟨c,hit,ix⟩,x⟩ hi ⟨q,d,z,D⟩;dsimp only at q d z D;subst q;subst d;subst z;have hl:=pO s1.2.2.2 o i;refine ic ?_;refine aU (λx=>x.2=(t,18,o,v,A,de,fr)/\x.1.1=((wl s1.2.2.2 o (i+1)).length:Int)/\(x.1.2=M↔v∈wl s1.2.2.2 o (i+1))) ?_ ?_
   .refine dW (aV (aU (λx=>x=(EE o (aH (T:=uO) s1.2.2.2 (i:Int)),t,18,o,v,A,de,fr)) ?_ ?_))
    .unfold EE;refine aE (λh=>ai ?_) λh=>ai ?_
     .dsimp only at h ⊢;rw[h];rfl
     .dsimp only at h ⊢;rw[bF h];rfl
    rintro x rfl;rw[zd];dsimp only;cases hw:EE o (aH (T:=uO) s1.2.2.2 (i:Int)) with
    |true=>
     refine ux (aJ (λh=>ai ⟨rfl,?_,?_⟩) λh=>ai ⟨rfl,?_,?_⟩)
     .dsimp only;rw[fo (by omega)];simp
     .simp[D.1 h]
     .dsimp only;rw[fo (by omega)];simp
     .have:¬v∈wl s1.2.2.2 o i:=λg=>by rw[D.2 g]at h;cases h
      simp[this]
    |false=>exact fw (ai ⟨rfl,rfl,D⟩)
   rintro⟨⟨c,hit'⟩,x⟩ ⟨q,d,z⟩;dsimp only at q d z;subst q;subst d;exact ai ⟨fo (by omega),rfl,rfl,z⟩
  .rintro⟨⟨c,hit,ix⟩,x⟩ ⟨q,d,z,D⟩;dsimp only at q d z D;subst q;subst d;subst z;refine gP (ar (P:=λy=>y=M) (fP (aJ (λ_=>ai (ai rfl)) λh=>?_)) λy hy=>ai hy);have hn:¬v∈wl s1.2.2.2 o s1.2.2.2.length:=λg=>by rw[D.2 g]at h;cases h
   by_cases h0:(wl s1.2.2.2 o s1.2.2.2.length).length=0
   .rw[aW h0]at vel;refine aE (λ_=>ai (ai (bl vel))) λg=>(g (by dsimp only;omega)).elim
   .rw[aM h0]at vel;have vel:v=Di (wl s1.2.2.2 o s1.2.2.2.length) v:=vel;exact (hn (vel▸Vt v h0)).elim
 refine aE (λh=>?_) λn19=>?_
 .have h:k=19:=h;subst h;rw[Us]at vel;refine eB s1.2.2.2.length (by omega) (λi x=>x.1.2=(i:Int)/\x.2=(t,19,o,v,A,de,fr)/\x.1.1=((wl s1.2.2.2 o i).length:Int)) ?_ ?_ ⟨rfl,rfl,rfl⟩
  .rintro i ⟨⟨c,ix⟩,x⟩ hi ⟨q,d,z⟩;dsimp only at q d z;subst q;subst d;subst z;have hl:=pO s1.2.2.2 o i;refine ic ?_;refine aU (λx=>x.2=(t,19,o,v,A,de,fr)/\x.1=((wl s1.2.2.2 o (i+1)).length:Int)) ?_ ?_
   .refine dW (aV (aU (λx=>x=(EE o (aH (T:=uO) s1.2.2.2 (i:Int)),t,19,o,v,A,de,fr)) ?_ ?_))
    .unfold EE;refine aE (λh=>ai ?_) λh=>ai ?_
     .dsimp only at h ⊢;rw[h];rfl
     .dsimp only at h ⊢;rw[bF h];rfl
    rintro x rfl;rw[zd];dsimp only;cases hw:EE o (aH (T:=uO) s1.2.2.2 (i:Int)) with
    |true=>
     refine ux (ai ⟨rfl,?_⟩);dsimp only;rw[fo (by omega)];simp
    |false=>exact fw (ai ⟨rfl,rfl⟩)
   rintro⟨c,x⟩ ⟨q,d⟩;dsimp only at q d;subst q;subst d;exact ai ⟨fo (by omega),rfl,rfl⟩
  .rintro⟨⟨c,ix⟩,x⟩ ⟨q,d,z⟩;dsimp only at q d z;subst q;subst d;subst z;exact gP (ai (bl vel))
 exact ai (bl (by rw[VF _ _ _ _ _ _ n18 n19]at vel;exact vel))
theorem Yd (x:Int×Int×Bool) (c:Int):mm (x,c)=Z (EE c x):=by
 refine b6 ?_;unfold mm EE bg aB;refine fP (aE (λh=>ai (ai ?_)) λh=>ai (ai ?_))
 .have h:x.1=3:=h;rw[h];rfl
 .have h:¬x.1=3:=h;rw[bF h];rfl
theorem ZA {n:Nat} (s:SY) (hs:SB n s):kC s=Z (s.2.1,s.1,s.2.2.1,s.2.2.2):=by
 refine b6 ?_;obtain⟨s1,s2,q,s4⟩:=s;have hn:=hs.n1;have hlk:=hs.lk;have hdn:=hs.dn;have hth:=hs.th;have hrd:=hs.rd;dsimp only at hlk hdn hth hrd;unfold kC rH aX bp ck bA bt bJ aY cM cw;dsimp only[aj];refine cR (cR (dv (by omega) (dv (by omega) (aZ (by simp;omega) (by omega) ?_))));refine eB s1.length (by omega) (λi x=>∃c d,x=((i:Int),(s1,s2,q,s4),c,d)/\d.length=s1.length/\∀j,j<i->d.getD j (0,[])=s1.getD j (0,[])) ?_ ?_ ⟨_,_,rfl,by simp,λj hj=>by omega⟩
 .rintro i x hi ⟨c,d,rfl,hd,he⟩;have hr:=hrd _ (bG (T:=tf) (xs:=s1) (j:=(i:Int)) (by omega) (by omega));refine ic ?_;refine dW (aV (aS (x:=(aH (T:=tf) s1 (i:Int)).2) (b6 ?_) ?_))
  .exact aZ (by dsimp only;omega) (by omega) (ai rfl)
  refine dW (dW (ai ⟨c,d.set i (aH (T:=tf) s1 (i:Int)),?_,by simp[hd],λj hj=>?_⟩))
  .dsimp only;rw[fo (by omega)];rfl
  .by_cases e:i=j
   .subst e;rw[ay,List.getElem?_set_self (by omega)];rfl
   .rw[ay,List.getElem?_set_ne e,<-ay];exact he j (by omega)
 .rintro x ⟨c,d,rfl,hd,he⟩;have:d=s1:=by
   refine dA hd λj D z=>?_
   have:=he j z;rw[ay,ay,aw D,aw z]at this;exact this
  subst this;refine gP (ar (P:=λy=>y=(s2,d,q,s4)) ?_ λy A=>ai A);refine aS (x:=q) (b6 (aZ (by dsimp only;omega) (by omega) (ai rfl))) (aS (x:=s4) (b6 (aZ (by dsimp only;omega) (by omega) (ai rfl))) (ai rfl))
theorem Vu (l:η) (i u:Int):Di (l++[i]) u=if l.length=0 then i else if i=u then i else Di l u:=by
 unfold Di;cases l with
 |nil=>
  by_cases h:u=i
  .subst h;simp
  .simp[h];rfl
 |cons a r=>
  have e1:¬(a::r++[i]).length=0:=by simp
  have e2:¬(a::r).length=0:=by simp
  simp only[aM e1,aM e2];by_cases h:i=u
  .subst h;simp
  .have h':¬u=i:=λg=>h g.symm
   rw[aM h];have:(a::r++[i]).contains u=(a::r).contains u:=by simp[h']
   rw[this];rfl
theorem Ob {th:Y (Int×Int×Bool)} {c u:Int} {i:Nat} (h:¬(wl th c i).length=0):0<=Di (wl th c i) u/\Di (wl th c i) u<i:=by
 have:=xU.1 (Vt u h);exact⟨this.1,this.2.1⟩
theorem JK {l:η} {u:Int} (h:l.length=0):Di l u= -1:=by unfold Di;rw[aW h]
theorem abl (s:SY) (o u:Int) (hs:s.2.2.2.length<=1000):jK ((s.2.1,o,u),s.1,s.2.2.1,s.2.2.2)=Z (Di (wl s.2.2.2 o s.2.2.2.length) u,s.1,s.2.2.1,if (wl s.2.2.2 o s.2.2.2.length).length=0 then s.2.2.2 else Kv s.2.2.2 (Di (wl s.2.2.2 o s.2.2.2.length) u) 4):=by
 refine b6 ?_;obtain⟨s1,s2,d,s4⟩:=s;dsimp only at hs ⊢;unfold jK qi aX bh bp ck bA ji kM aY cM aB cw;dsimp only[aj];refine eB s4.length (by omega) (λi x=>x=((Di (wl s4 o i) u,(i:Int)),s1,d,s4,s2)) ?_ ?_ rfl
 .rintro i x hi rfl;refine ic ?_;refine aU (λx=>x=(Di (wl s4 o (i+1)) u,s1,d,s4,s2)) ?_ ?_
  .refine dW (dW (aV ?_));refine aU (λx=>x=(decide (EE o (aH (T:=uO) s4 (i:Int))=M/\((wl s4 o i).length=0\/(i:Int)=u)),s1,d,s4,s2)) ?_ ?_
   .refine aS (Yd _ _) (aJ (λh=>?_) λh=>ai ?_)
    .have h:EE o (aH (T:=uO) s4 (i:Int))=M:=h;refine aQ (λg=>ai ?_) λg=>ai ?_
     .have:(wl s4 o i).length=0:=Classical.byContradiction λq=>by have:=(Ob (u:=u) q).1;dsimp only at g;omega
      simp[h,this]
     .have:¬(wl s4 o i).length=0:=λq=>by have:=JK (u:=u) q;dsimp only at g;omega
      simp[h,this]
    .have h:EE o (aH (T:=uO) s4 (i:Int))=aa:=h;simp[h]
   rintro x rfl;rw[zd];refine aE (λh=>ai ?_) λh=>ai ?_
   .rw[aW h.1,Vu];rcases h.2 with g|g
    .rw[aW g]
    .rw[aW g];simp
   .by_cases g:EE o (aH (T:=uO) s4 (i:Int))=M
    .rw[aW g,Vu,aM λq=>h ⟨g,.inl q⟩,aM λq=>h ⟨g,.inr q⟩]
    .rw[aM g]
  rintro x rfl;exact ai (by dsimp only;rw[fo (by omega)])
 .rintro x rfl;refine gP (ar (P:=λy=>y=(Di (wl s4 o s4.length) u,s1,d,if (wl s4 o s4.length).length=0 then s4 else Kv s4 (Di (wl s4 o s4.length) u) 4)) ?_ λy z=>ai z);refine aU (λx=>x=(s1,d,if (wl s4 o s4.length).length=0 then s4 else Kv s4 (Di (wl s4 o s4.length) u) 4)) ?_ ?_
  .refine dV (λg=>?_) λg=>ai ?_
   .have h0:¬(wl s4 o s4.length).length=0:=λq=>by have:=JK (u:=u) q;dsimp only at g;omega
    have hp:=Ob (u:=u) h0;refine aK hp.1 hp.2 (aK hp.1 hp.2 (ai ?_));rw[aM h0];rfl
   .have:(wl s4 o s4.length).length=0:=Classical.byContradiction λq=>by have:=(Ob (u:=u) q).1;dsimp only at g;omega
    rw[aW this]
  rintro x rfl;exact ai rfl
theorem abq (th:Y (Int×Int×Bool)) (l:η) (i:Int):OE th (l++[i])=Kv (OE th l) i 4:=by unfold OE;rw[jU];rfl
theorem abp (l:η):∀(th:Y (Int×Int×Bool)) (j:Int),0<=j->(∀z∈l,0<=z/\z<th.length/\¬z=j)->aH (T:=uO) (OE th l) j=aH (T:=uO) th j:=by
 induction l with
 |nil=>intro th j _ _;rfl
 |cons x r s=>
  intro th j hj h;have d:=h x (by simp);refine (s (Kv th x 4) j hj λz A=>?_).trans ?_
  .have:=h z (by simp[A]);unfold Kv;rw[cu];exact this
  .unfold Kv;rw[Md (T:=uO) th x j _ d.1 d.2.1 hj,aM λq=>d.2.2 q.symm]
theorem SD (s:SY) (o:Int) (hs:s.2.2.2.length<=1000):gQ ((s.2.1,o),s.1,s.2.2.1,s.2.2.2)=Z (((wl s.2.2.2 o s.2.2.2.length).length:Int),s.1,s.2.2.1,OE s.2.2.2 (wl s.2.2.2 o s.2.2.2.length)):=by
 refine b6 ?_;obtain⟨s1,s2,d,s4⟩:=s;dsimp only at hs ⊢;unfold gQ mF aX bh bp cI ck bA kM aY cM aB cw;dsimp only[aj];refine eB s4.length (by omega) (λi x=>x=((((wl s4 o i).length:Int),(i:Int)),s1,d,OE s4 (wl s4 o i),s2)) ?_ ?_ rfl
 .rintro i x hi rfl;have hl:=pO s4 o i;have hg:aH (T:=uO) (OE s4 (wl s4 o i)) (i:Int)=aH (T:=uO) s4 (i:Int):=abp _ _ _ (by omega) λz q=>by have:=xU.1 q;exact⟨this.1,by omega,by omega⟩
  have hq:=G6 (wl s4 o i) s4;refine ic ?_;refine aU (λx=>x=(((wl s4 o (i+1)).length:Int),s1,d,OE s4 (wl s4 o (i+1)),s2)) ?_ ?_
  .refine dW (dW (aV (aS (Yd _ _) ?_)));rw[zd];refine aJ (λh=>?_) λh=>ai ?_
   .have h:EE o (aH (T:=uO) s4 (i:Int))=M:=hg▸h;refine dW (dW (ai ?_));rw[aW h,abq];dsimp only;rw[fo (by omega)];simp only[b7,ch,j6];rfl
   .have h:EE o (aH (T:=uO) s4 (i:Int))=aa:=hg▸h;rw[h];rfl
  rintro x rfl;exact ai (by dsimp only;rw[fo (by omega)])
 .rintro x rfl;exact gP (ai rfl)
theorem adv {n:Nat} (w:WT) (s:SY) (hs:SB n s) (hn:n<=1000) (A:w.2.2.1.length<=1000) (t k o u:Int) (he:EN w s t k o) (hr:FL w s t k o) (q:¬k=8) (d:¬k=9):gR (w,s,t,k,o,u)=Z ((vY w s t k o u).1,(vY w s t k o u).2,M):=by
 refine b6 ?_;unfold gR aX bh bm bT cX bp cI cD dC gd ck bg bt bJ kM aB;refine aS (oH w s hs hn A t k o he hr) (jG rfl (aS (ZA s hs) ?_));suffices hmain:Ok _ _ from aU (λx=>((x.2.2.2.1,x.2.1,x.2.2.2.2),x.1)=vY w s t k o u) hmain λx z=>ai (by rw[<- z])
 obtain⟨nm,t0,t1,cd,e1,e2,e3⟩:=id he;obtain⟨_,_,ce,lk,cn,th,fu⟩:=nm;have hm:16<=k/\k<=19->0<=(aH (T:=pL) w.2.2.1 o).2/\(aH (T:=pL) w.2.2.1 o).2<w.2.1.length:=λh=>cd _ (bG (cn h).1 (cn h).2)
 rcases @yk k with rfl|rfl|rfl|rfl|rfl|rfl|rfl|rfl|rfl|rfl|rfl|rfl|rfl|rfl|rfl|rfl|rfl|rfl|rfl|rfl|rfl|rfl|rfl|⟨hk,D⟩
 case inr.inr.inr.inr.inr.inr.inr.inr.inr.inr.inr.inr.inr.inr.inr.inr.inr.inr.inr.inr.inr.inr.inr=>omega
 all_goals first|exact (q rfl).elim|exact (d rfl).elim|skip
 all_goals simp only[aN,aR,kG]
 all_goals with_reducible repeat' first|(refine OS.ok ?_;constructor)|refine IM.mk λ_=>?_
 all_goals try simp only[aj,ol] at*
 all_goals try rw[cu]
 all_goals first|omega|exact (hm ⟨by decide,by decide⟩).1|exact e1▸(hm ⟨by decide,by decide⟩).2|exact rfl|skip
 .refine aS (abl s o u hs.th) (a_ ?_ (ai ?_))
  .have:ah (if (wl s.2.2.2 o s.2.2.2.length).length=0 then s.2.2.2 else Kv s.2.2.2 (Di (wl s.2.2.2 o s.2.2.2.length) u) 4)=s.2.2.2.length:=by
    split
    .rfl
    .exact cu ..
   dsimp only;rw[this];simp
  .rw[JW];by_cases h:(wl s.2.2.2 o s.2.2.2.length).length=0
   .rw[aW h,aW h,JK h]
   .rw[aM h,aM h]
 .refine aS (SD s o hs.th) (a_ ?_ (ai rfl));dsimp only;rw[G6];simp
def z_:Nat->Y η
 |0=>[[]]
 |m+1=>z_ m++(z_ m).map ((3-(m:Int))::·)
theorem LO:∀m,[]∈z_ m
 |0=>by simp[z_]
 |m+1=>by simp[z_,LO m]
theorem Dn:∀(m:Nat) (l:η),xR l->(∀z∈l,4-(m:Int)<=z/\z<4)->l∈z_ m
 |m,[],_,_=>LO m
 |0,a::r,_,h=>by have:=h a (by simp);omega
 |m+1,a::r,hA,h=>by
  have q:=h a (by simp);rw[z_,bP];by_cases e:a=3-(m:Int)
  .refine .inr (cZ.2 ⟨r,Dn m r hA.2 λz d=>?_,by rw[e]⟩);have:=h z (by simp[d]);have:=hA.1 z d;omega
  .refine .inl (Dn m (a::r) hA λz d=>?_);have:=h z d;rcases bx.1 d with rfl|d
   .omega
   .have:=hA.1 z d;omega
theorem ae1 {l:η} (h:xR l) (h2:∀z∈l,0<=z/\z<4):l∈z_ 4:=Dn 4 l h λz d=>by have:=h2 z d;omega
def in4:η:=[0,1,2,3]
theorem U9 {t:Int} (h0:0<=t) (h1:t<4):t∈in4:=by
 have:t=0\/t=1\/t=2\/t=3:=by omega
 rcases this with rfl|rfl|rfl|rfl<;>simp[in4]
def ahz (l:η) (t:Int):Bool:=l.contains t||((iW (l++[t])==Z (qC l [t]))&&(ef (qC l [t])==Z (qC l [t]))&&ax (qC l [t]).length (l++[t]).length)
def ain (l:η) (t:Int):Bool:= !l.contains t||(c_ (l,t)==Z (t,wo l t))
theorem ab4:((z_ 4).all λl=>in4.all λt=>ahz l t)=M:=by kernel_rfl
theorem acf:((z_ 4).all λl=>in4.all λt=>ain l t)=M:=by kernel_rfl
theorem Kw {l:η} {t:Int} (h:xR l) (h2:∀z∈l,0<=z/\z<4) (h0:0<=t) (h1:t<4) (hn:¬t∈l):iW (l++[t])=Z (qC l [t])/\ef (qC l [t])=Z (qC l [t])/\(qC l [t]).length=(l++[t]).length:=by
 have:=gm.1 (gm.1 ab4 l (ae1 h h2)) t (U9 h0 h1);unfold ahz at this;have hc:l.contains t=aa:=by simp[hn]
 rw[hc,Bool.false_or,ak,ak]at this;exact⟨eq_of_beq this.1.1,eq_of_beq this.1.2,au this.2⟩
theorem La {l:η} {t:Int} (h:xR l) (h2:∀z∈l,0<=z/\z<4) (h0:0<=t) (h1:t<4) (hn:l.contains t=M):c_ (l,t)=Z (t,wo l t):=by
 have:=gm.1 (gm.1 acf l (ae1 h h2)) t (U9 h0 h1);unfold ain at this;rw[hn,Bool.not_true,Bool.false_or]at this;exact eq_of_beq this
theorem Ru (w:WT) (k o:Int):Ok (jf (w,k,o)) λb=>b=M->NM w k o:=by
 unfold jf aX bh bm bT bg bJ aY aB;rcases @yk k with rfl|rfl|rfl|rfl|rfl|rfl|rfl|rfl|rfl|rfl|rfl|rfl|rfl|rfl|rfl|rfl|rfl|rfl|rfl|rfl|rfl|rfl|rfl|⟨hk,d⟩
 case inr.inr.inr.inr.inr.inr.inr.inr.inr.inr.inr.inr.inr.inr.inr.inr.inr.inr.inr.inr.inr.inr.inr=>
  simp only[hk 1 (by decide) (by decide),hk 2 (by decide) (by decide),hk 3 (by decide) (by decide),hk 4 (by decide) (by decide),hk 5 (by decide) (by decide),hk 6 (by decide) (by decide),hk 7 (by decide) (by decide),hk 8 (by decide) (by decide),hk 9 (by decide) (by decide),hk 10 (by decide) (by decide),hk 11 (by decide) (by decide),hk 12 (by decide) (by decide),hk 13 (by decide) (by decide),hk 14 (by decide) (by decide),hk 15 (by decide) (by decide),hk 16 (by decide) (by decide),hk 17 (by decide) (by decide),hk 18 (by decide) (by decide),hk 19 (by decide) (by decide),hk 20 (by decide) (by decide),hk 21 (by decide) (by decide),hk 22 (by decide) (by decide),hk 23 (by decide) (by decide),aN,aR,kG];with_reducible repeat' first|(refine OS.ok ?_;constructor)|refine IM.mk λ_=>?_
  all_goals try simp only[aj,ol] at*
  all_goals first|omega|(intro h;cases h;done)|skip
 all_goals simp only[aN,aR,kG,ze]
 all_goals with_reducible repeat' first|(refine OS.ok ?_;constructor)|refine IM.mk λ_=>?_
 all_goals try simp only[aj,ol] at*
 all_goals first|omega|(intro h;cases h;done)|(intro h;constructor<;>first|omega|(intro h2;first|omega|(simpa using h)))
theorem RL (w:WT) (s:SY) (z:w.2.2.1.length<=1000):Ok (iC (w,s)) λb=>b=M->(∀c∈w.2.2.1,0<=c.2/\c.2<w.2.1.length)/\s.1.length=w.2.1.length/\s.2.2.1.length=w.2.2.2.1.length/\s.2.2.2.length=w.2.2.2.2.1.length:=by
 unfold iC qj aX bh bm cI bA iT bJ aY cM aB cw;refine aU (λx=>x.2=w/\(x.1=aa->s.1.length=w.2.1.length/\s.2.2.1.length=w.2.2.2.1.length/\s.2.2.2.length=w.2.2.2.2.1.length)) ?_ ?_
 .refine bY (λ_=>ai ⟨rfl,λh=>(by cases h)⟩) λh1=>bY (λ_=>ai ⟨rfl,λh=>(by cases h)⟩) λh2=>ai ⟨rfl,λq=>?_⟩
  have q:aT s.2.2.2.length=aT w.2.2.2.2.1.length:=by simpa using q
  exact⟨sa h1,sa h2,sa q⟩
 rintro⟨b,x⟩ ⟨e,hb⟩;dsimp only at e hb;subst e;refine aJ (λ_=>ai λh=>(by cases h)) λh=>?_
 have hl:=hb h;refine eB x.2.2.1.length (by omega) (λi y=>y=((i:Int),x)/\∀k:Nat,k<i->0<=(aH (T:=pL) x.2.2.1 (k:Int)).2/\(aH (T:=pL) x.2.2.1 (k:Int)).2<x.2.1.length) ?_ ?_ ⟨rfl,λk hk=>(by omega)⟩
 .rintro i y hi ⟨rfl,d⟩;refine ic (dW (aV (aS (ze _ _) (bY (λ_=>ai λh=>(by cases h)) λg=>ai ⟨?_,λk hk=>?_⟩))))
  .dsimp only;rw[fo (by omega)]
  .rcases bN k i with h1|h1
   .exact d k h1
   .rw[show k=i by omega];exact g
 .rintro y ⟨rfl,d⟩;exact gP (ai λ_=>⟨ir (T:=pL) d,hl⟩)
theorem V4 {n:Nat} (w:WT) (s:SY) (hs:SB n s) (hn:n<=1000) (t k o:Int) (he:EN w s t k o) (n1:¬k=1) (d:¬k=17) (hst:(aH (T:=uO) s.2.2.2 t).1=2):Ok (kB (w,s,t,k,o)) λb=>b=M->FL w s t k o:=by
 obtain⟨nm,t0,t1,cd,e1,e2,e3⟩:=id he;obtain⟨_,_,ce,lk,cn,th,fu,_,_,_⟩:=nm;have hm:16<=k/\k<=19->0<=(aH (T:=pL) w.2.2.1 o).2/\(aH (T:=pL) w.2.2.1 o).2<w.2.1.length:=λh=>cd _ (bG (cn h).1 (cn h).2)
 have z:6<=k/\k<=11->jy ((aH (T:=tf) s.1 o).2,t)=Z ((aH (T:=tf) s.1 o).2.contains t):=λh=>FO _ _ (by
  have:=hs.rd _ (bG (T:=tf) (lk h).1 (by have:=(lk h).2;omega));omega)
 unfold kB aX bh bm cI cD bg iT bJ aY aB;rcases @yk k with rfl|rfl|rfl|rfl|rfl|rfl|rfl|rfl|rfl|rfl|rfl|rfl|rfl|rfl|rfl|rfl|rfl|rfl|rfl|rfl|rfl|rfl|rfl|⟨hk,q⟩
 case inr.inr.inr.inr.inr.inr.inr.inr.inr.inr.inr.inr.inr.inr.inr.inr.inr.inr.inr.inr.inr.inr.inr=>omega
 all_goals first|omega|skip
 all_goals simp only[aN,aR,kG]
 all_goals with_reducible repeat' first|(refine OS.ok ?_;constructor)|refine IM.mk λ_=>?_
 all_goals try simp only[z (by omega),R6]
 all_goals with_reducible repeat' first|(refine OS.ok ?_;constructor)|refine IM.mk λ_=>?_
 all_goals try simp only[aj,ol] at*
 all_goals first|omega|(intro h;cases h;done)|exact (hm ⟨by decide,by decide⟩).1|(rw [e1];exact (hm ⟨by decide,by decide⟩).2)|(intro h;constructor<;>first|omega|(intros;first|omega|assumption|(simpa using h)|exact⟨by assumption,by first|assumption|(simpa using h)⟩))|(constructor<;>(intros;first|omega|assumption))|skip
theorem FL.one {w:WT} {s:SY} {t o:Int} (h:(aH (T:=uO) s.2.2.2 t).1=1):FL w s t 1 o:=by
 constructor<;>(intros;first|omega|assumption)
theorem FL.wake {w:WT} {s:SY} {t o:Int} (h1:(aH (T:=uO) s.2.2.2 t).1=4) (h2:(aH (T:=uO) s.2.2.2 t).2.1=o) (d:(aH (T:=tf) s.1 (aH (T:=pL) w.2.2.1 o).2).1= -1):FL w s t 17 o:=by
 constructor<;>(intros;first|omega|exact⟨h1,h2,d⟩)
theorem RO {n:Nat} (w:WT) (s:SY) (hs:SB n s) (hn:n<=1000) (F:w.2.2.1.length<=1000) (t k o:Int):Ok (eh (w,s,t,k,o)) λb=>b=M->EN w s t k o/\FL w s t k o:=by
 unfold eh aX bh bm bp cI cD bg bJ aY aB;refine aU (λx=>x.2=(w,s)/\(x.1=aa->EN w s t k o)) ?_ ?_
 .refine ar (RL w s F) λb hb=>cV (λ_=>ai ⟨rfl,λh=>(by cases h)⟩) λh1=>aS (ze _ _) ?_
  refine bY (λ_=>ai ⟨rfl,λh=>(by cases h)⟩) λh2=>ar (Ru w k o) λc hc=>ai ⟨rfl,λI=>?_⟩
  obtain⟨f1,f2,f3,f4⟩:=hb h1;exact⟨hc (by simpa using I),h2.1,h2.2,f1,f2,f3,f4⟩
 rintro⟨b,x⟩ ⟨e,q⟩;dsimp only at e q;subst e;refine aJ (λ_=>ai λh=>(by cases h)) λh=>?_
 have he:=q h;obtain⟨nm,t0,t1,cd,e1,e2,e3⟩:=id he;have D:t<(s.2.2.2.length:Int):=by omega
 refine aK t0 D (aV ?_);refine aE (λh=>ai λg=>⟨he,?_⟩) λn1=>?_
 .have h:k=1:=h;subst h;exact FL.one (bf g)
 refine aE (λh=>?_) λd=>?_
 .have h:k=17:=h;subst h;obtain⟨A,z⟩:=nm.cd (by omega);have hq:=cd _ (bG (T:=pL) (xs:=w.2.2.1) (j:=o) A z);refine fP (aE (λg1=>aE (λg2=>?_) λ_=>ai (ai λh=>(by cases h))) λ_=>ai (ai λh=>(by cases h)));exact aK A z (aV (aK hq.1 (by rw[e1];exact hq.2) (aV (ai (ai λL=>⟨he,FL.wake g1 g2 (bf L)⟩)))))
 refine fP (aE (λg=>?_) λ_=>ai (ai λh=>(by cases h)));exact ar (V4 w s hs hn t k o he n1 d g) λc hc=>ai (ai λh=>⟨he,hc h⟩)
theorem HM {σ R:Type} {f:σ->J (σ⊕R)} {Q:R->Prop} (n:Nat) (μ:σ->Nat) (I:σ->Prop) (h:∀x,I x->Ok (f x) λr=>match r with|.inl y=>I y/\μ y<μ x|.inr r=>Q r) {x:σ} (hn:μ x<=n/\n<=1000000) (d:I x):Ok (gp f x) Q:=by
 have key:∀n x,μ x<n->I x->∃r,iterN f n x=Z r/\Q r:=by
  intro n;induction n with
  |zero=>intro x hm;omega
  |succ n q=>
   intro x hm d;obtain⟨r,h1,h2⟩:=h x d;cases r with
   |inl y=>
    obtain⟨r,z,s⟩:=q y (by have:=h2.2;omega) h2.1;exact⟨r,by rw[iterN,h1];exact z,s⟩
   |inr r=>exact⟨r,by rw[iterN,h1],h2⟩
 obtain⟨r,h1,h2⟩:=key (n+1) x (Nat.lt_succ_of_le hn.1) d;exact⟨r,vD h1 (by omega),h2⟩
def SK (z:Int):Bool:=decide (97<=z/\z<=122\/65<=z/\z<=90)
def DJ (z:Int):Bool:=decide (97<=z/\z<=122\/65<=z/\z<=90\/48<=z/\z<=57\/z=95)
def UF:Y ζ:=[[118,97,114],[118,111,108,97,116,105,108,101],[109,117,116,101,120],[114,119,108,111,99,107],[99,111,110,100],[102,117,116,117,114,101],[116,104,114,101,97,100],[105,102],[101,108,115,101],[119,104,105,108,101],[108,111,99,107],[114,101,97,100],[119,114,105,116,101],[116,114,97,110,115,97,99,116,105,111,110],[97,116,111,109,105,99],[119,97,105,116],[110,111,116,105,102,121],[110,111,116,105,102,121,97,108,108],[115,112,97,119,110],[106,111,105,110],[115,101,116],[103,101,116]]
structure tZ (s:ζ):Prop where
 l1:1<=s.length
 l2:s.length<=12
 lt:SK (qD s 0)=M
 kw:¬s∈UF
 al:∀k:Nat,k<s.length->DJ (qD s (k:Int))=M
theorem MP (c:Int):lw c=Z (SK c):=by
 refine b6 ?_;unfold lw ji aB;with_reducible repeat' first|(refine OS.ok ?_;constructor)|refine IM.mk λ_=>?_
 all_goals try simp only[aj,ol] at*
 all_goals (rw [ED];simp only[SK,oQ,bB,true_iff,iff_true,bO,false_iff];omega)
theorem Y1 (c:Int):pm c=Z (DJ c):=by
 refine b6 ?_;unfold pm tG ji aB;have hL:SK c=M↔(97<=c/\c<=122\/65<=c/\c<=90):=by unfold SK;exact decide_eq_true_iff
 have d:DJ c=M↔(97<=c/\c<=122\/65<=c/\c<=90\/48<=c/\c<=57\/c=95):=by unfold DJ;exact decide_eq_true_iff
 refine fP (aS (MP c) (aJ (λh=>ai (ai ?_)) λh=>?_))
 .symm;rw[d];have:=hL.1 h;omega
 have h':¬(97<=c/\c<=122\/65<=c/\c<=90):=λg=>by rw[hL.2 g]at h;cases h
 refine ar (P:=λb=>b=decide (48<=c/\c<=57)) ?_ λb hb=>?_
 .refine fP (dV (λ_=>ai (ai ?_)) λ_=>ai (ai ?_))
  .rw[ED];simp only[oQ,bB];omega
  .rw[ED];simp only[bB,bO,false_iff];omega
 subst hb;refine aE (λ_=>ai (ai ?_)) λ_=>ai (ai ?_)
 .symm;rw[d];omega
 .rw[ED,d];simp only[bB];omega
theorem B2 {s:ζ}:s∈UF↔∃i:Nat,i<22/\UF.getD i []=s:=by
 constructor
 .intro h;obtain⟨i,hi,e⟩:=ve h;exact⟨i,hi,by rw[ay,aw hi];exact e⟩
 .rintro⟨i,hi,rfl⟩;have hi:i<UF.length:=hi;rw[ay,aw hi];exact qz _
theorem Oz (s:ζ):jJ s=Z (decide (s∈UF)):=by
 refine b6 ?_;unfold jJ bA bJ aY cM aB cw;refine aS (x:=UF) rfl ?_;refine b9 22 (λi x=>x=(i:Int)/\∀k:Nat,k<i->¬UF.getD k []=s) ?_ ?_ ⟨rfl,λk hk=>by omega⟩
 .rintro i x hi ⟨rfl,hn⟩;refine ic (dW (aV (aE (λh=>ai ?_) λh=>ai ⟨fo (by omega),λk hk=>?_⟩)) (by omega) (by show (i:Int)<((22:Nat):Int);omega)) (by show (i:Int)<((22:Nat):Int);omega)
  .have h:UF.getD i []=s:=h;exact (bl (B2.2 ⟨i,hi,h⟩)).symm
  .have h:¬UF.getD i []=s:=h;rcases bN k i with g|g
   .exact hn k g
   .rw[show k=i by omega];exact h
 .rintro x ⟨rfl,hn⟩;refine gP (ai (Eq.symm (bF λh=>?_))) (by show ((22:Nat):Int)<=((22:Nat):Int);omega);obtain⟨i,hi,e⟩:=B2.1 h;exact hn i hi e
theorem UG (s:ζ):im s=Z (decide (s∈UF)):=by
 refine b6 ?_;unfold im nN ua yZ Kk Prod.p13 Prod.p14 Prod.p15 Prod.p16 Prod.p17 Prod.p18 Prod.p19 aX Prod.p20 bh bm bT cX gN rn um Prod.q21 bA bt cM aB cw;refine aV ?_;refine eB 22 (by omega) (λi x=>x=(i:Int)/\∀k:Nat,k<i->¬UF.getD k []=s) ?_ ?_ ⟨rfl,λk hk=>by omega⟩
 .rintro i x hi ⟨rfl,hn⟩;refine ic (cR (dv (by omega) (rA (by omega) (aV (aE (λh=>ai ?_) λh=>ai ⟨fo (by omega),λk hk=>?_⟩)))))
  .have h:s=UF.getD i []:=h;exact (bl (B2.2 ⟨i,hi,h.symm⟩)).symm
  .have h:¬s=UF.getD i []:=h;rcases bN k i with g|g
   .exact hn k g
   .rw[show k=i by omega];exact λe=>h e.symm
 .rintro x ⟨rfl,hn⟩;refine gP (ai (Eq.symm (bF λh=>?_)));obtain⟨i,hi,e⟩:=B2.1 h;exact hn i hi e
theorem aab (s:ζ):Ok (fg s) λb=>b=M↔tZ s:=by
 unfold fg bA mq aY cM aB cw;refine aU (λb=>(b=aa↔(1<=s.length/\s.length<=12)/\SK (qD s 0)=M/\¬s∈UF)) ?_ ?_
 .refine aQ (λh=>ai ?_) λh=>aQ (λh2=>ai ?_) λh2=>?_
  .dsimp only[aj]at h;constructor
   .intro h;cases h
   .intro h;omega
  .dsimp only[aj]at h2;constructor
   .intro h;cases h
   .intro h;omega
  dsimp only[aj]at h h2;refine dW (aS (MP _) (cV (λhl=>ai ?_) λhl=>aS (Oz s) (ai ?_)))
  .rw[hl];simp
  .exact decide_eq_false_iff_not.trans ⟨λhk=>⟨⟨by omega,by omega⟩,hl,hk⟩,λhk=>hk.2.2⟩
 rintro b hb;refine aJ (λh=>ai ?_) λh=>?_
 .subst h;constructor
  .intro h;cases h
  .intro d;have:=hb.2 ⟨⟨d.l1,d.l2⟩,d.lt,d.kw⟩;cases this
 obtain⟨⟨l1,l2⟩,lt,kw⟩:=hb.1 h;refine b9 s.length (λi x=>x=(i:Int)/\∀k:Nat,k<i->DJ (qD s (k:Int))=M) ?_ ?_ ⟨rfl,λk hk=>by omega⟩
 .rintro i x hi ⟨rfl,hn⟩;refine ic (dW (aS (Y1 _) (cV (λhl=>ai ?_) λhl=>ai ⟨fo (by omega),λk hk=>?_⟩)))
  .constructor
   .intro h;cases h
   .intro d;have:=d.al i hi;rw[hl]at this;cases this
  .rcases bN k i with g|g
   .exact hn k g
   .rw[show k=i by omega];exact hl
 .rintro x ⟨rfl,hn⟩;exact gP (ai ⟨λ_=>⟨l1,l2,lt,kw,hn⟩,λ_=>rfl⟩)
theorem ab9 (s:ζ) (j:Int):0<=qD s j/\qD s j<256:=by
 unfold qD;have:=(s.getD j.toNat 0).toNat_lt;constructor
 .exact ey _
 .have:(s.getD j.toNat 0).toNat<256:=this;show ((s.getD j.toNat 0).toNat:Int)<256;omega
theorem OZ (s:ζ) (i:Nat):qD s (i:Int)=((s.getD i 0).toNat:Int):=rfl
theorem ai1 {s:ζ} {i:Nat} (h:qD s (i:Int)<128):M8 s i=qD s (i:Int)/\Sa s i=1:=by
 rw[OZ]at h ⊢;have hb:eQ (s.getD i 0).toNat 128=M:=bw (by omega);unfold M8 Sa rnA wdA;rw[hb];exact⟨rfl,rfl⟩
theorem afj (s:ByteArray) (p:Nat) (h:¬(s.get! p).toNat<128):128<=(xJ s p).1:=by
 unfold xJ;simp only[dc];rw[aM h];split
 .split
  .assumption
  .decide
 split
 .split
  .rename_i h;simp only[ak,bB]at h;show 128<=_;have:=h.1;omega
  .decide
 split
 .split
  .rename_i h;simp only[ak,bB]at h;show 128<=_;have:=h.1;omega
  .decide
 .decide
theorem ai2 {s:ζ} {i:Nat} (hi:i<s.length) (h:¬qD s (i:Int)<128):128<=M8 s i:=by
 rw[OZ]at h;have hb:eQ (s.getD i 0).toNat 128=aa:=by
  cases e:eQ (s.getD i 0).toNat 128 with
  |false=>rfl
  |true=>have:=bc e;omega
 unfold M8 rnA;rw[hb];have hg:(⟨eR s⟩:ByteArray).get! i=s.getD i 0:=by
  show (eR s)[i]! =_;rw[getElem!_pos (eR s) i (by simpa using hi),ay,aw hi];rfl
 have:=afj ⟨eR s⟩ i (by rw[hg];omega);show (128:Int)<=((xJ ⟨eR s⟩ i).1:Int)
 omega
theorem adt (s:ζ):Ok (kA s) λb=>b=M↔tZ s:=by
 unfold kA rE bg bA ji aY cM aB;refine aU (λb=>(b=aa↔(1<=s.length/\s.length<=12)/\¬s∈UF)) ?_ ?_
 .refine aQ (λh=>ai ?_) λh=>aQ (λh2=>ai ?_) λh2=>?_
  .dsimp only[aj]at h;constructor
   .intro h;cases h
   .intro h;omega
  .dsimp only[aj]at h2;constructor
   .intro h;cases h
   .intro h;omega
  dsimp only[aj]at h h2;refine aS (UG s) (ai ?_);exact decide_eq_false_iff_not.trans ⟨λhk=>⟨⟨by omega,by omega⟩,hk⟩,λhk=>hk.2⟩
 rintro b hb;refine aJ (λh=>ai ?_) λh=>?_
 .subst h;constructor
  .intro h;cases h
  .intro D;have:=hb.2 ⟨⟨D.l1,D.l2⟩,D.kw⟩;cases this
 obtain⟨⟨l1,l2⟩,kw⟩:=hb.1 h;refine eB s.length (by omega) (λi x=>x=[((s,(i:Int)),())]/\∀k:Nat,k<i->DJ (qD s (k:Int))=M/\(k=0->SK (qD s 0)=M)) ?_ ?_ ⟨rfl,λk hk=>by omega⟩
 .rintro i x hi ⟨rfl,hn⟩;have I:G9 [((s,(i:Int)),())]=s:=rfl;have L:F0 [((s,(i:Int)),())]=i:=rfl;rw[I,L];refine eW (bw hi) ?_;have hbad:¬DJ (qD s (i:Int))=M->(aa=M↔tZ s):=λhb=>⟨λh=>(by cases h),λD=>(hb (D.al i hi)).elim⟩
  have hbad0:¬SK (qD s 0)=M->(aa=M↔tZ s):=λhb=>⟨λh=>(by cases h),λD=>(hb D.lt).elim⟩
  have F:∀c,DJ c=M↔(97<=c/\c<=122\/65<=c/\c<=90\/48<=c/\c<=57\/c=95):=λc=>by unfold DJ;exact decide_eq_true_iff
  have hL:∀c,SK c=M↔(97<=c/\c<=122\/65<=c/\c<=90):=λc=>by unfold SK;exact decide_eq_true_iff
  have hsg:=ab9 s (i:Int);have hrn:(qD s (i:Int)<128/\M8 s i=qD s (i:Int)/\Sa s i=1)\/(¬qD s (i:Int)<128/\128<=M8 s i):=by
   by_cases g:qD s (i:Int)<128
   .exact .inl ⟨g,ai1 g⟩
   .exact .inr ⟨g,ai2 hi g⟩
  have hno:128<=M8 s i->¬DJ (qD s (i:Int))=M:=λg h=>by
   rcases hrn with ⟨h1,h2,_⟩|⟨h1,_⟩
   .omega
   .rw[F]at h;omega
  generalize hz:M8 s i=z at hrn hno ⊢;have hnxt:z<128->[((s,(aT (i+Sa s i))),())]=[((s,((i+1:Nat):Int)),())]:=λg=>by
   rcases hrn with ⟨_,_,d⟩|⟨_,h2⟩
   .rw[d];rfl
   .omega
  have hgood:z<128->DJ z=M->(i=0->SK z=M)->∀k:Nat,k<i+1->DJ (qD s (k:Int))=M/\(k=0->SK (qD s 0)=M):=λg h1 h2 k hk=>by
   rcases hrn with ⟨_,d,_⟩|⟨_,d⟩
   .rcases bN k i with q|q
    .exact hn k q
    .have:k=i:=by omega
     subst this;refine ⟨by rw[<- d];exact h1,λe=>?_⟩;subst e;have:=h2 rfl;rw[d]at this;exact this
   .omega
  have heq:z<128->z=qD s (i:Int):=λg=>by
   rcases hrn with ⟨_,d,_⟩|⟨_,d⟩
   .exact d
   .omega
  refine aU (λy=>y=[((s,(aT (i+Sa s i))),())]/\z<128/\DJ z=M/\(i=0->SK z=M)) ?_ ?_
  .refine aU (λy=>y.2=[((s,(aT (i+Sa s i))),())]/\(y.1=M↔SK z=M)) ?_ ?_
   .refine dV (λ_=>dV (λ_=>ai ⟨rfl,?_⟩) λ_=>dV (λ_=>ai ⟨rfl,?_⟩) λ_=>ai ⟨rfl,?_⟩) λ_=>dV (λ_=>ai ⟨rfl,?_⟩) λ_=>ai ⟨rfl,?_⟩
    all_goals (rw [hL];simp only[oQ,true_iff,bO,false_iff];omega)
   rintro⟨y1,y2⟩ ⟨e,A⟩;dsimp only at e A;subst e;refine aJ (λh=>ai ⟨rfl,?_⟩) λh=>?_
   .have h:=A.1 h;have h':=(hL z).1 h;exact⟨by omega,(F z).2 (by omega),λ_=>h⟩
   have hl:¬SK z=M:=λg=>by rw[A.2 g]at h;cases h
   have hl2:¬(97<=z/\z<=122\/65<=z/\z<=90):=λg=>hl ((hL z).2 g)
   refine aU (λy=>y.2=[((s,(aT (i+Sa s i))),())]/\(y.1=M↔0<i/\(z=95\/48<=z/\z<=57))) ?_ ?_
   .refine aQ (λg=>aE (λg2=>ai ⟨rfl,?_⟩) λg2=>dV (λg3=>ai ⟨rfl,?_⟩) λg3=>ai ⟨rfl,?_⟩) λg=>ai ⟨rfl,?_⟩
    all_goals simp only[oQ,true_iff,bO,false_iff]
    all_goals dsimp only[aj]at g
    all_goals omega
   rintro⟨y1,y2⟩ ⟨e,A⟩;dsimp only at e A;subst e;refine aJ (λh=>ai ⟨rfl,?_⟩) λh=>?_
   .obtain⟨g1,g2⟩:=A.1 h;exact⟨by omega,(F z).2 (by omega),λe=>(by omega)⟩
   .have hn2:¬(0<i/\(z=95\/48<=z/\z<=57)):=λg=>by rw[A.2 g]at h;cases h
    by_cases h0:i=0
    .subst h0;refine ai (hbad0 λg=>hl ?_);rcases hrn with ⟨_,d,_⟩|⟨d,_⟩
     .rw[d];exact g
     .rw[hL]at g;have d:¬qD s 0<128:=d;omega
    .refine ai (hbad λg=>?_);by_cases g1:z<128
     .rw[<- heq g1,F]at g;omega
     .exact hno (by omega) g
  .rintro y ⟨rfl,h1,h2,d⟩;exact ai ⟨hnxt h1,hgood h1 h2 d⟩
 .rintro x ⟨rfl,hn⟩;have I:G9 [((s,(s.length:Int)),())]=s:=rfl;have L:F0 [((s,(s.length:Int)),())]=s.length:=rfl;rw[I,L];refine jG ?_ (ai ⟨λ_=>⟨l1,l2,(hn 0 (by omega)).2 rfl,kw,λk hk=>(hn k hk).1⟩,λ_=>rfl⟩);cases e:eQ s.length s.length with
  |false=>rfl
  |true=>have:=bc e;omega
theorem Ss (w:WT) (e:ET):Ok (gu (w,e)) λb=>b=M->(e.2.1=1\/e.2.1=2->e.2.2.2.2.1= -1)/\(¬(e.2.1=1\/e.2.1=2)->0<=e.2.2.2.2.1/\e.2.2.2.2.1<w.2.2.2.2.2.length/\(aH (T:=Dh) w.2.2.2.2.2 e.2.2.2.2.1).1=e.1):=by
 unfold gu aX cX cD bg bA ji bJ aY aB;refine aU (λx=>x.2=(w,e)/\(x.1=M↔e.2.1=1\/e.2.1=2)) (aE (λh=>ai ⟨rfl,λ_=>.inl h,λ_=>rfl⟩) λh=>ai ⟨rfl,λh2=>.inr (bf h2),λh2=>bl (h2.resolve_left h)⟩) ?_;rintro⟨b,x⟩ ⟨e1,hb⟩;dsimp only at e1 hb;subst e1;refine aJ (λh=>ai λg=>⟨λ_=>bf g,λd=>(d (hb.1 h)).elim⟩) λh=>?_
 have nb:¬(e.2.1=1\/e.2.1=2):=λg=>by have h:b=aa:=h;rw[hb.2 g]at h;cases h
 refine fP (dV (λq=>aQ (λd=>aK q d (aV (ai (ai λg=>⟨λs=>(nb s).elim,λ_=>⟨q,d,bf g⟩⟩)))) λ_=>ai (ai λg=>(by cases g))) λ_=>ai (ai λg=>(by cases g)))
theorem Zn (w:WT) (s:SN) (q:w.2.2.1.length<=1000):Ok (il (w,s)) λb=>b=M->RN w s:=by
 unfold il aX bh bm cI bg aY aB;refine fP (ar (RL w s.1 q) λb hb=>aJ (λh=>?_) λ_=>ai (ai λg=>(by cases g)));refine aE (λA=>aE (λz=>ai (ai λd=>?_)) λ_=>ai (ai λg=>(by cases g))) λ_=>ai (ai λg=>(by cases g))
 have d:aT s.2.2.2.length=aT w.2.2.2.2.1.length:=bf d;exact⟨sa A,sa z,sa d⟩
theorem Jr (w:WT) (s:SN) (e:ET) (ce:e.2.1=3\/e.2.1=4->0<=e.2.2.1/\e.2.2.1<w.1.length) (t0:0<=e.1) (t1:e.1<(s.2.2.2.length:Int)) (cb:(aH (T:=.int .i64) s.2.2.2 e.1:Int)<=1000):Ok (dy (w,s,e)) λb=>b=M->(0<e.2.2.2.2.2.1.length->e.2.1=5\/(e.2.1=3\/e.2.1=4)/\¬(aH (T:=OD) w.1 e.2.2.1).2.2.1=0)/\(0<e.2.2.2.2.2.2.length->e.2.1=4\/e.2.1=22)/\AN (aH (T:=.int .i64) s.2.2.2 e.1) e.2.2.2.2.2.1/\AN (aH (T:=.int .i64) s.2.2.2 e.1) e.2.2.2.2.2.2:=by
 unfold dy gS aX bh bm bT bp cI dC bg bA ji bt bJ aY cM aB cw;refine aU (λx=>x.2=(s,e)/\(x.1=M->(e.2.1=3\/e.2.1=4)/\¬(aH (T:=OD) w.1 e.2.2.1).2.2.1=0)) ?_ ?_
 .refine aE (λh=>?_) λn3=>aE (λh=>?_) λn4=>?_
  .exact aK (ce (.inl h)).1 (ce (.inl h)).2 (aV (ai ⟨rfl,λg=>⟨.inl h,by simpa using g⟩⟩))
  .exact aK (ce (.inr h)).1 (ce (.inr h)).2 (aV (ai ⟨rfl,λg=>⟨.inr h,by simpa using g⟩⟩))
  .exact ai ⟨rfl,λg=>(by cases g)⟩
 rintro⟨b,x⟩ ⟨e1,hb⟩;dsimp only at e1 hb;subst e1;refine aU (λx=>x.1=s/\x.2.1=e/\(x.2.2.1=M->e.2.1=5\/(e.2.1=3\/e.2.1=4)/\¬(aH (T:=OD) w.1 e.2.2.1).2.2.1=0)/\(x.2.2.2=M->e.2.1=4\/e.2.1=22)) ?_ ?_
 .refine aE (λh5=>aE (λI=>ai ⟨rfl,rfl,λ_=>.inl h5,λ_=>.inl I⟩) λI=>ai ⟨rfl,rfl,λ_=>.inl h5,λg=>.inr (bf g)⟩) λh5=>aE (λI=>ai ⟨rfl,rfl,λg=>.inr (hb g),λ_=>.inl I⟩) λI=>ai ⟨rfl,rfl,λg=>.inr (hb g),λg=>.inr (bf g)⟩
 rintro⟨s',e',a,b'⟩ ⟨e1,e2,h1,h2⟩;dsimp only at e1 e2 h1 h2;subst e1;subst e2
 let P:η->Bool->Prop:=λr a=>(0<r.length->a=M)/\AN (aH (T:=.int .i64) s'.2.2.2 e'.1) r
 refine eB 2 (by omega) (λi x=>x=((i:Int),s',e',a,b')/\(0<i->P e'.2.2.2.2.2.1 a)/\(1<i->P e'.2.2.2.2.2.2 b')) ?_ ?_ ⟨rfl,λh=>(by omega),λh=>(by omega)⟩
 .rintro i x hi ⟨rfl,p1,p2⟩;refine ic ?_;refine cR (dv (by dsimp only;omega) (rA (by dsimp only;omega) (aV ?_)));have hr:∃(r:η) (q:Bool),aH (T:=.sl (.int .i64)) [e'.2.2.2.2.2.1,e'.2.2.2.2.2.2] (i:Int)=r/\aH (T:=.bool) [a,b'] (i:Int)=q/\(P r q->(0<i+1->P e'.2.2.2.2.2.1 a)/\(1<i+1->P e'.2.2.2.2.2.2 b')):=by
   match i,hi with
   |0,_=>exact⟨_,_,rfl,rfl,λh=>⟨λ_=>h,λh=>(by omega)⟩⟩
   |1,_=>exact⟨_,_,rfl,rfl,λh=>⟨λ_=>p1 (by omega),λ_=>h⟩⟩
  obtain⟨r,q,er,eq,hP⟩:=hr;have er':aH (T:=.sl aL) [e'.2.2.2.2.2.1,e'.2.2.2.2.2.2] (i:Int)=r:=er;dsimp only at er' ⊢;rw[er'];refine aU (λx=>x.2=(s',e',a,b')/\(x.1=aa->0<r.length->q=M)) ?_ ?_
  .refine aQ (λg=>?_) λg=>ai ⟨rfl,λ_ h=>?_⟩
   .have g':0<r.length:=by dsimp only[aj]at g;omega
    refine cR (dv (by omega) (rA (by omega) (dW (aV (ai ⟨rfl,λh _=>?_⟩)))));rw[<- eq];simpa using h
   .dsimp only[aj]at g;omega
  rintro⟨f,x⟩ ⟨e1,hq⟩;dsimp only at e1 hq;subst e1;refine aJ (λ_=>ai λh=>(by cases h)) λhf=>?_
  have jb:∀j:Nat,(∀m:Nat,m<j->1<=aH (T:=.int .i64) r (m:Int)/\aH (T:=.int .i64) r (m:Int)<aH (T:=.int .i64) s'.2.2.2 e'.1)->(∀m:Nat,m+1<j->r.getD m 0<r.getD (m+1) 0)->j<=1000:=λj A g4=>by
   have h3:(j:Int)<=max (0:Int) (aH (T:=.int .i64) s'.2.2.2 e'.1):=Y6 A g4;have:=eT h3 (xg.2 ⟨by decide,cb⟩);omega
  refine HM 1001 (λx=>(1001-x.1.2).toNat) (λx=>∃j:Nat,j<=r.length/\x.1.2=(j:Int)/\x.2=(s',e',a,b')/\(∀m:Nat,m<j->1<=aH (T:=.int .i64) r (m:Int)/\aH (T:=.int .i64) r (m:Int)<aH (T:=.int .i64) s'.2.2.2 e'.1)/\(∀m:Nat,m+1<j->r.getD m 0<r.getD (m+1) 0)/\(j=0->x.1.1=0)/\(0<j->x.1.1=r.getD (j-1) 0)) ?_ ⟨by dsimp only;omega,by omega⟩ ⟨0,mM _,rfl,rfl,λm h=>(by omega),λm h=>(by omega),λ_=>rfl,λh=>(by omega)⟩;rintro⟨⟨(la:Int),ix⟩,x⟩ ⟨j,hjl,g1,g2,A,g4,g5,L⟩;dsimp only at g1 g2 g5 L;subst g1;subst g2;have hjb:=jb j A g4;rcases bN j r.length with hj|hj
  .refine ic ?_;refine dW (aV (aU (λx=>x.2=(s',e',a,b')/\(x.1=aa->la<aH (T:=.int .i64) r (j:Int)/\aH (T:=.int .i64) r (j:Int)<aH (T:=.int .i64) s'.2.2.2 e'.1)) ?_ ?_))
   .refine dV (λg=>ai ⟨rfl,λh=>(by cases h)⟩) λg=>aK t0 t1 (aV (ai ⟨rfl,λh=>⟨g,ko.1 h⟩⟩))
   rintro⟨f2,x⟩ ⟨e1,F⟩;dsimp only at e1 F;subst e1;refine aJ (λ_=>ai λh=>(by cases h)) λhf2=>ai ?_
   obtain⟨c1,c2⟩:=F hf2;obtain⟨D,d⟩:∃D:Int,D=la:=⟨la,rfl⟩
   replace c1:D<(r.getD j 0:Int):=by rw[d];exact c1
   replace c2:(r.getD j 0:Int)<(aH (T:=.int .i64) s'.2.2.2 e'.1:Int):=c2
   replace g5:j=0->D=(0:Int):=λh=>d.trans (g5 h)
   replace L:0<j->D=(r.getD (j-1) 0:Int):=λh=>d.trans (L h)
   have lo:(1:Int)<=r.getD j 0:=by
    rcases rq j with z|z
    .have:=g5 z;omega
    .have:=L z;have q:(1:Int)<=r.getD (j-1) 0:=(A (j-1) (by omega)).1;omega
   refine ⟨⟨j+1,hj,fo (by omega),rfl,λm hm=>?_,λm hm=>?_,λh=>(by omega),λ_=>rfl⟩,by dsimp only;rw[fo (by omega)];omega⟩
   .rcases bN m j with z|z
    .exact A m z
    .rw[show m=j by omega];exact⟨lo,c2⟩
   .rcases bN (m+1) j with z|z
    .exact g4 m z
    .have z2:m=j-1:=by omega
     have:=L (by omega);rw[z2,show j-1+1=j by omega];omega
  .have hjr:j=r.length:=by omega
   subst hjr;have hA:AN (aH (T:=.int .i64) s'.2.2.2 e'.1) r:=⟨Ol r λk hk=>g4 k hk,ir (T:=.int .i64) A⟩
   exact gP (ai ⟨i_ (·,s',e',a,b') (fo (by omega)),hP ⟨hq hf,hA⟩⟩)
 .rintro x ⟨rfl,p1,p2⟩;refine gP (ai λ_=>?_);have p1:=p1 (by omega);have p2:=p2 (by omega);exact⟨λg=>h1 (p1.1 g),λg=>h2 (p2.1 g),p1.2,p2.2⟩
theorem Sd {n:Nat} (w:WT) (s:SN) (hs:SB n s.1) (e:ET) (hf:RN w s) (he:EN w s.1 e.1 e.2.1 e.2.2.1):Ok (eK (s,e)) λb=>b=M->VA w s.1 s.2.1 s.2.2.1 e.1 e.2.1 e.2.2.1 e.2.2.2.1:=by
 obtain⟨t,k,o,v,F,de,fr⟩:=e;obtain⟨s1,s2,L,s4⟩:=s;obtain⟨nm,t0,t1,cd,e1,e2,e3⟩:=he;obtain⟨_,_,ce,lk,cn,th,fu,_,_,_⟩:=nm;obtain⟨f1,f2,f3⟩:=hf;have hth:=hs.th;dsimp only at*
 unfold eK jN aX bh bm bT bp bg bA bJ aY cM aB cw;refine aE (λh=>?_) λn3=>?_
 .have h:k=3:=h;obtain⟨c0,c1⟩:=ce (.inl h);exact aK c0 (by rw[f1];exact c1) (aV (ai λh2=>⟨λ_=>bf h2,λd=>by omega,λd=>by omega,λd=>(d h).elim⟩))
 refine aE (λh=>?_) λI=>?_
 .have h:k=23:=h;obtain⟨c0,c1⟩:=fu (.inr h);exact aK c0 (by rw[f2];exact c1) (aV (ai λh2=>⟨λd=>by omega,λ_=>bf h2,λd=>by omega,λ_ d=>(d h).elim⟩))
 refine aE (λh=>?_) λn5=>?_
 .have h:k=5:=h;exact fP (aE (λh2=>ai (ai λ_=>⟨λd=>by omega,λd=>by omega,λ_=>.inl h2,λ_ _ d=>(d h).elim⟩)) λ_=>ai (ai λh2=>⟨λd=>by omega,λd=>by omega,λ_=>.inr (bf h2),λ_ _ d=>(d h).elim⟩))
 refine aU (λx=>x.2=((s1,s2,L,s4),t,k,o,v,F,de,fr)/\(x.1=M->k=4\/k=22)) (aE (λh=>ai ⟨rfl,λ_=>.inl h⟩) λ_=>ai ⟨rfl,λh=>.inr (bf h)⟩) ?_;rintro⟨b,x⟩ ⟨e,hb⟩;dsimp only at e hb;subst e;refine aJ (λh=>ai λ_=>⟨λd=>(n3 d).elim,λd=>(I d).elim,λd=>(n5 d).elim,λ_ _ _ h4 h5=>(hb h).elim (λh=>(h4 h).elim) λh=>(h5 h).elim⟩) λ_=>?_
 have fin:v=(vY w s1 t k o v).2->VA w s1 s2 L t k o v:=λh=>⟨λd=>(n3 d).elim,λd=>(I d).elim,λd=>(n5 d).elim,λ_ _ _ _ _=>h⟩
 have hWl:=pO s1.2.2.2 o s1.2.2.2.length;refine aE (λh=>?_) λn18=>?_
 .have h:k=18:=h;subst h;rw[JW]at fin;refine eB s1.2.2.2.length (by omega) (λi x=>x.1.2.2=(i:Int)/\x.2=(t,18,o,v,F,de,fr)/\x.1.1=((wl s1.2.2.2 o i).length:Int)/\(x.1.2.1=M↔v∈wl s1.2.2.2 o i)) ?_ ?_ ⟨rfl,rfl,rfl,by simp[wl]⟩
  .rintro i ⟨⟨c,hit,ix⟩,x⟩ hi ⟨z,q,A,D⟩;dsimp only at z q A D;subst z;subst q;subst A;have hl:=pO s1.2.2.2 o i;refine ic ?_;refine aU (λx=>x.2=(t,18,o,v,F,de,fr)/\x.1.1=((wl s1.2.2.2 o (i+1)).length:Int)/\(x.1.2=M↔v∈wl s1.2.2.2 o (i+1))) ?_ ?_
   .refine dW (aV (aU (λx=>x=(EE o (aH (T:=uO) s1.2.2.2 (i:Int)),t,18,o,v,F,de,fr)) ?_ ?_))
    .unfold EE;refine aE (λh=>ai ?_) λh=>ai ?_
     .dsimp only at h ⊢;rw[h];rfl
     .dsimp only at h ⊢;rw[bF h];rfl
    rintro x rfl;rw[zd];dsimp only;cases hw:EE o (aH (T:=uO) s1.2.2.2 (i:Int)) with
    |true=>
     refine ux (aJ (λh=>ai ⟨rfl,?_,?_⟩) λh=>ai ⟨rfl,?_,?_⟩)
     .dsimp only;rw[fo (by omega)];simp
     .simp[D.1 h]
     .dsimp only;rw[fo (by omega)];simp
     .have:¬v∈wl s1.2.2.2 o i:=λg=>by rw[D.2 g]at h;cases h
      simp[this]
    |false=>exact fw (ai ⟨rfl,rfl,D⟩)
   rintro⟨⟨c,hit'⟩,x⟩ ⟨z,q,A⟩;dsimp only at z q A;subst z;subst q;exact ai ⟨fo (by omega),rfl,rfl,A⟩
  .rintro⟨⟨c,hit,ix⟩,x⟩ ⟨z,q,A,D⟩;dsimp only at z q A D;subst z;subst q;subst A;revert fin hWl D;generalize wl s1.2.2.2 o s1.2.2.2.length=l;intro hWl fin D;have hin:v∈l->VA w s1 s2 L t 18 o v:=λh=>fin (by
    have hne:¬l.length=0:=λh0=>by rw[jq.1 h0]at h;cases h
    rw[aM hne];unfold Di;rw[aM hne,aW (sw.2 h)])
   refine gP (ar (P:=λy=>y=M->VA w s1 s2 L t 18 o v) (fP (aJ (λh=>ai (ai λ_=>hin (D.1 h))) λh=>?_)) λy hy=>ai hy);refine aE (λg=>ai (ai λh2=>fin ?_)) λg=>ai (ai λh=>(by cases h))
   dsimp only at g;rw[aW (by omega)];exact bf h2
 refine aE (λh=>?_) λn19=>?_
 .have h:k=19:=h;subst h;rw[Us]at fin;refine eB s1.2.2.2.length (by omega) (λi x=>x.1.2=(i:Int)/\x.2=(t,19,o,v,F,de,fr)/\x.1.1=((wl s1.2.2.2 o i).length:Int)) ?_ ?_ ⟨rfl,rfl,rfl⟩
  .rintro i ⟨⟨c,ix⟩,x⟩ hi ⟨z,q,A⟩;dsimp only at z q A;subst z;subst q;subst A;have hl:=pO s1.2.2.2 o i;refine ic ?_;refine aU (λx=>x.2=(t,19,o,v,F,de,fr)/\x.1=((wl s1.2.2.2 o (i+1)).length:Int)) ?_ ?_
   .refine dW (aV (aU (λx=>x=(EE o (aH (T:=uO) s1.2.2.2 (i:Int)),t,19,o,v,F,de,fr)) ?_ ?_))
    .unfold EE;refine aE (λh=>ai ?_) λh=>ai ?_
     .dsimp only at h ⊢;rw[h];rfl
     .dsimp only at h ⊢;rw[bF h];rfl
    rintro x rfl;rw[zd];dsimp only;cases hw:EE o (aH (T:=uO) s1.2.2.2 (i:Int)) with
    |true=>
     refine ux (ai ⟨rfl,?_⟩);dsimp only;rw[fo (by omega)];simp
    |false=>exact fw (ai ⟨rfl,rfl⟩)
   rintro⟨c,x⟩ ⟨z,q⟩;dsimp only at z q;subst z;subst q;exact ai ⟨fo (by omega),rfl,rfl⟩
  .rintro⟨⟨c,ix⟩,x⟩ ⟨z,q,A⟩;dsimp only at z q A;subst z;subst q;subst A;exact gP (ai λh=>fin (bf h))
 exact ai λh2=>fin (by rw[VF _ _ _ _ _ _ n18 n19];exact bf h2)
theorem V5 (r:θ) (e:ET) (ld:e.2.2.2.2.2.1.length<=1000000) (A:e.2.2.2.2.2.2.length<=1000000):Ok (bU (r,e)) λb=>b=M->(∀y∈e.2.2.2.2.2.1,0<=y/\r.getD y.toNat aa=M)/\∀y∈e.2.2.2.2.2.2,0<=y/\r.getD y.toNat aa=M:=by
 unfold bU iI cX gd bA ji bt bJ aY cM aB cw
 let P:η->Prop:=λl=>∀y∈l,0<=y/\r.getD y.toNat aa=M
 refine eB 2 (by omega) (λi x=>x=(i:Int)/\(0<i->P e.2.2.2.2.2.1)/\(1<i->P e.2.2.2.2.2.2)) ?_ ?_ ⟨rfl,λh=>(by omega),λh=>(by omega)⟩
 .rintro i x hi ⟨rfl,p1,p2⟩;refine aQ (λ_=>?_) λg=>(by omega)
  refine cR (dv (by omega) (rA (by omega) (aV ?_)));have hr:∃l:η,aH (T:=.sl (.int .i64)) [e.2.2.2.2.2.1,e.2.2.2.2.2.2] (i:Int)=l/\l.length<=1000000/\(P l->(0<i+1->P e.2.2.2.2.2.1)/\(1<i+1->P e.2.2.2.2.2.2)):=by
   match i,hi with
   |0,_=>exact⟨_,rfl,ld,λh=>⟨λ_=>h,λh=>(by omega)⟩⟩
   |1,_=>exact⟨_,rfl,A,λh=>⟨λ_=>p1 (by omega),λ_=>h⟩⟩
  obtain⟨l,F,hl,D⟩:=hr;have er':aH (T:=.sl aL) [e.2.2.2.2.2.1,e.2.2.2.2.2.2] (i:Int)=l:=F;dsimp only at er' ⊢;rw[er'];refine eB l.length (by omega) (λj x=>x=(j:Int)/\∀m:Nat,m<j->(0:Int)<=aH (T:=.int .i64) l (m:Int)/\r.getD (aH (T:=.int .i64) l (m:Int)).toNat aa=M) ?_ ?_ ⟨rfl,λm hm=>(by omega)⟩
  .rintro j x hj ⟨rfl,hq⟩;refine ic (dW (aV ?_));obtain⟨z,d⟩:∃z:Int,aH (T:=.int .i64) l (j:Int)=z:=⟨_,rfl⟩
   rw[d];refine aU (λb=>b=aa->0<=z/\r.getD z.toNat aa=M) ?_ ?_
   .refine aQ (λ_=>ai λh=>(by cases h)) λs=>dV (λ_=>ai λh=>(by cases h)) λq=>?_
    dsimp only[aj]at q;refine aK s q (aV (ai λh=>⟨s,?_⟩));have h:(!aH (T:=.bool) r z)=aa:=h;have:aH (T:=.bool) r z=M:=by cases hh:aH (T:=.bool) r z<;>rw[hh]at h<;>first|rfl|cases h
    exact this
   rintro b hb;refine aJ (λ_=>ai λh=>(by cases h)) λh=>ai ⟨fo (by omega),λm hm=>?_⟩
   rcases bN m j with g|g
   .exact hq m g
   .rw[show m=j by omega,d];exact hb h
  .rintro x ⟨rfl,hq⟩;exact gP (ai ⟨fo (by omega),D (ir (T:=.int .i64) (p:=λy:Int=>0<=y/\r.getD y.toNat aa=M) hq)⟩)
 .rintro x ⟨rfl,p1,p2⟩;exact aQ (λg=>(by omega)) λ_=>ai λ_=>⟨p1 (by omega),p2 (by omega)⟩
theorem W3 (a0:Int) (r0:η) (h:Int) (d:θ) (th:Y (Int×Int×Bool)) (h0:r0.length<=1000) (hd:d.length<=1000) (ht:th.length<=1000):je ([(a0,r0)],h,d,th)=Z ((h,d,th),a0,r0):=by
 refine b6 ?_;have q:∀l:η,l.length<=1000->gh l=Z l:=λl hl=>b6 (aZ (by omega) (by omega) (ai rfl))
 unfold je aX bp bA bt bJ aY aB;refine a_ rfl (aU (λx=>x=(([(a0,r0)],h,d,th),0,a0,r0)) ?_ ?_)
 .exact eW rfl (a_ rfl (aV (aS (q _ h0) (jG rfl (ai rfl)))))
 rintro x rfl;refine aS (x:=d) (b6 (aZ (by dsimp only;omega) (by omega) (ai rfl))) (aS (x:=th) (b6 (aZ (by dsimp only;omega) (by omega) (ai rfl))) (ai rfl))
theorem W6 (s:SY) (h:¬s.1.length=1):je s=U:=by
 unfold je aX bp bA bt bJ aY aB;rw[show decide ((aT (ah s.1):Int)=1)=aa from bF (by dsimp only[aj];omega),ub];rfl
theorem X4 {n:Nat} (w:WT) (s:SY) (hs:SB n s) (hn:n<=1000) (d:w.2.2.1.length<=1000) (t k o u:Int) (he:EN w s t k o) (hr:FL w s t k o) (h:¬s.1.length=1):gg (w,s,t,k,o,u)=U:=by
 have h1:=oH w s hs hn d t k o he hr;unfold gg aX bh bm bT bp cI dC bg mq bt aB;simp only[h1,W6 s h,aN,aR,kG];rfl
theorem X1 {n:Nat} (w:WT) (s:SY) (hs:SB n s) (hn:n<=900) (D:w.2.2.1.length<=1000) (t k o u:Int) (he:EN w s t k o) (hr:FL w s t k o) (hk:k=8\/k=9) (I:s.1.length=1) (hA:xR (aH (T:=tf) s.1 o).2) (q:∀z∈(aH (T:=tf) s.1 o).2,0<=z/\z<4) (A:t<4) (L:0<=o) (o1:o<1):gg (w,s,t,k,o,u)=Z ((vY w s t k o u).1,(vY w s t k o u).2,M):=by
 have h1:=oH w s hs (by omega) D t k o he hr;have t0:=he.t0;have ra:=hr.ra;have rr:=hr.rr;have hrd:=hs.rd;have hdn:=hs.dn;have hth:=hs.th;obtain⟨s1,h,d,th⟩:=s
 match s1,I with
 |[(a0,r0)],_=>
  have g0:r0.length<=n:=hrd (a0,r0) (by simp);dsimp only at hdn hth;have hc:=W3 a0 r0 h d th (by omega) hdn hth;refine b6 ?_;unfold gg aX bh bm bT bp cI dC bg mq bt aB;have F:o=0:=by omega
  subst F
  .have hA:xR r0:=hA;have q:∀z∈r0,0<=z/\z<4:=q;rcases hk with rfl|rfl
   .have ra:r0.contains t=aa:=ra rfl;obtain⟨q1,q2,q3⟩:=Kw hA q t0 A (by simpa using ra);simp only[h1,hc,aN,aR,kG];refine aU (λx=>x=(0,(h,d,th),0,a0,qC r0 [t])) ?_ ?_
    .refine aZ (by simp;omega) (by omega) (aS q1 (a_ ?_ (aS q2 (a_ ?_ (ai ?_)))))
     .rw[q3];simp
     .simp
     .rfl
    rintro x rfl;exact ai rfl
   .have rr:r0.contains t=M:=rr rfl;have q1:=La hA q t0 A rr;simp only[h1,hc,aN,aR,kG];refine aU (λx=>x=(0,(h,d,th),0,a0,wo r0 t)) ?_ ?_
    .exact aS q1 (a_ (by simp) (ai rfl))
    rintro x rfl;exact ai rfl
theorem W2 (a0 a1:Int) (r0 r1:η) (h:Int) (d:θ) (th:Y (Int×Int×Bool)) (h0:r0.length<=1000) (h1:r1.length<=1000) (hd:d.length<=1000) (ht:th.length<=1000):jd ([(a0,r0),(a1,r1)],h,d,th)=Z ((h,d,th),(a0,a1),r0,r1):=by
 refine b6 ?_;have q:∀l:η,l.length<=1000->gh l=Z l:=λl hl=>b6 (aZ (by omega) (by omega) (ai rfl))
 unfold jd aX bp bA bt bJ aY aB;refine a_ rfl (aU (λx=>x=(([(a0,r0),(a1,r1)],h,d,th),0,(a0,a1),r0,r1)) ?_ ?_)
 .exact eW rfl (a_ rfl (aV (aS (q _ h0) (eW rfl (a_ rfl (aV (aS (q _ h1) (jG rfl (ai rfl)))))))))
 rintro x rfl;refine aS (x:=d) (b6 (aZ (by dsimp only;omega) (by omega) (ai rfl))) (aS (x:=th) (b6 (aZ (by dsimp only;omega) (by omega) (ai rfl))) (ai rfl))
theorem W5 (s:SY) (h:¬s.1.length=2):jd s=U:=by
 unfold jd aX bp bA bt bJ aY aB;rw[show decide ((aT (ah s.1):Int)=2)=aa from bF (by dsimp only[aj];omega),ub];rfl
theorem X3 {n:Nat} (w:WT) (s:SY) (hs:SB n s) (hn:n<=1000) (d:w.2.2.1.length<=1000) (t k o u:Int) (he:EN w s t k o) (hr:FL w s t k o) (h:¬s.1.length=2):fk (w,s,t,k,o,u)=U:=by
 have h1:=oH w s hs hn d t k o he hr;unfold fk aX bh bm bT cX cD gd bg mq bt aB;simp only[h1,W5 s h,aN,aR,kG];rfl
theorem X0 {n:Nat} (w:WT) (s:SY) (hs:SB n s) (hn:n<=900) (D:w.2.2.1.length<=1000) (t k o u:Int) (he:EN w s t k o) (hr:FL w s t k o) (hk:k=8\/k=9) (I:s.1.length=2) (hA:xR (aH (T:=tf) s.1 o).2) (q:∀z∈(aH (T:=tf) s.1 o).2,0<=z/\z<4) (A:t<4) (L:0<=o) (o1:o<2):fk (w,s,t,k,o,u)=Z ((vY w s t k o u).1,(vY w s t k o u).2,M):=by
 have h1:=oH w s hs (by omega) D t k o he hr;have t0:=he.t0;have ra:=hr.ra;have rr:=hr.rr;have hrd:=hs.rd;have hdn:=hs.dn;have hth:=hs.th;obtain⟨s1,h,d,th⟩:=s
 match s1,I with
 |[(a0,r0),(a1,r1)],_=>
  have g0:r0.length<=n:=hrd (a0,r0) (by simp);have g1:r1.length<=n:=hrd (a1,r1) (by simp);dsimp only at hdn hth;have hc:=W2 a0 a1 r0 r1 h d th (by omega) (by omega) hdn hth;refine b6 ?_;unfold fk aX bh bm bT cX cD gd bg mq bt aB;have F:o=0\/o=1:=by omega
  rcases F with rfl|rfl
  .have hA:xR r0:=hA;have q:∀z∈r0,0<=z/\z<4:=q;rcases hk with rfl|rfl
   .have ra:r0.contains t=aa:=ra rfl;obtain⟨q1,q2,q3⟩:=Kw hA q t0 A (by simpa using ra);simp only[h1,hc,aN,aR,kG];refine aU (λx=>x=(0,(h,d,th),0,a0,qC r0 [t],a1,r1)) ?_ ?_
    .refine aZ (by simp;omega) (by omega) (aS q1 (a_ ?_ (aS q2 (a_ ?_ (ai ?_)))))
     .rw[q3];simp
     .simp
     .rfl
    rintro x rfl;exact ai rfl
   .have rr:r0.contains t=M:=rr rfl;have q1:=La hA q t0 A rr;simp only[h1,hc,aN,aR,kG];refine aU (λx=>x=(0,(h,d,th),0,a0,wo r0 t,a1,r1)) ?_ ?_
    .exact aS q1 (a_ (by simp) (ai rfl))
    rintro x rfl;exact ai rfl
  .have hA:xR r1:=hA;have q:∀z∈r1,0<=z/\z<4:=q;rcases hk with rfl|rfl
   .have ra:r1.contains t=aa:=ra rfl;obtain⟨q1,q2,q3⟩:=Kw hA q t0 A (by simpa using ra);simp only[h1,hc,aN,aR,kG];refine aU (λx=>x=(0,(h,d,th),0,a0,r0,a1,qC r1 [t])) ?_ ?_
    .refine aZ (by simp;omega) (by omega) (aS q1 (a_ ?_ (aS q2 (a_ ?_ (ai ?_)))))
     .rw[q3];simp
     .simp
     .rfl
    rintro x rfl;exact ai rfl
   .have rr:r1.contains t=M:=rr rfl;have q1:=La hA q t0 A rr;simp only[h1,hc,aN,aR,kG];refine aU (λx=>x=(0,(h,d,th),0,a0,r0,a1,wo r1 t)) ?_ ?_
    .exact aS q1 (a_ (by simp) (ai rfl))
    rintro x rfl;exact ai rfl
theorem W1 (a0 a1 a2:Int) (r0 r1 r2:η) (h:Int) (d:θ) (th:Y (Int×Int×Bool)) (h0:r0.length<=1000) (h1:r1.length<=1000) (h2:r2.length<=1000) (hd:d.length<=1000) (ht:th.length<=1000):ja ([(a0,r0),(a1,r1),(a2,r2)],h,d,th)=Z ((h,d,th),(a0,a1,a2),r0,r1,r2):=by
 refine b6 ?_;have q:∀l:η,l.length<=1000->gh l=Z l:=λl hl=>b6 (aZ (by omega) (by omega) (ai rfl))
 unfold ja aX bp bA bt bJ aY aB;refine a_ rfl (aU (λx=>x=(([(a0,r0),(a1,r1),(a2,r2)],h,d,th),0,(a0,a1,a2),r0,r1,r2)) ?_ ?_)
 .exact eW rfl (a_ rfl (aV (aS (q _ h0) (eW rfl (a_ rfl (aV (aS (q _ h1) (eW rfl (a_ rfl (aV (aS (q _ h2) (jG rfl (ai rfl)))))))))))))
 rintro x rfl;refine aS (x:=d) (b6 (aZ (by dsimp only;omega) (by omega) (ai rfl))) (aS (x:=th) (b6 (aZ (by dsimp only;omega) (by omega) (ai rfl))) (ai rfl))
theorem W4 (s:SY) (h:¬s.1.length=3):ja s=U:=by
 unfold ja aX bp bA bt bJ aY aB;rw[show decide ((aT (ah s.1):Int)=3)=aa from bF (by dsimp only[aj];omega),ub];rfl
theorem X2 {n:Nat} (w:WT) (s:SY) (hs:SB n s) (hn:n<=1000) (d:w.2.2.1.length<=1000) (t k o u:Int) (he:EN w s t k o) (hr:FL w s t k o) (h:¬s.1.length=3):eP (w,s,t,k,o,u)=U:=by
 have h1:=oH w s hs hn d t k o he hr;unfold eP aX bh bm bT cX gN gd lz bg mq bt aB;simp only[h1,W4 s h,aN,aR,kG];rfl
theorem XZ {n:Nat} (w:WT) (s:SY) (hs:SB n s) (hn:n<=900) (D:w.2.2.1.length<=1000) (t k o u:Int) (he:EN w s t k o) (hr:FL w s t k o) (hk:k=8\/k=9) (I:s.1.length=3) (hA:xR (aH (T:=tf) s.1 o).2) (q:∀z∈(aH (T:=tf) s.1 o).2,0<=z/\z<4) (A:t<4) (L:0<=o) (o1:o<3):eP (w,s,t,k,o,u)=Z ((vY w s t k o u).1,(vY w s t k o u).2,M):=by
 have h1:=oH w s hs (by omega) D t k o he hr;have t0:=he.t0;have ra:=hr.ra;have rr:=hr.rr;have hrd:=hs.rd;have hdn:=hs.dn;have hth:=hs.th;obtain⟨s1,h,d,th⟩:=s
 match s1,I with
 |[(a0,r0),(a1,r1),(a2,r2)],_=>
  have g0:r0.length<=n:=hrd (a0,r0) (by simp);have g1:r1.length<=n:=hrd (a1,r1) (by simp);have g2:r2.length<=n:=hrd (a2,r2) (by simp);dsimp only at hdn hth;have hc:=W1 a0 a1 a2 r0 r1 r2 h d th (by omega) (by omega) (by omega) hdn hth;refine b6 ?_;unfold eP aX bh bm bT cX gN gd lz bg mq bt aB;have F:o=0\/o=1\/o=2:=by omega
  rcases F with rfl|rfl|rfl
  .have hA:xR r0:=hA;have q:∀z∈r0,0<=z/\z<4:=q;rcases hk with rfl|rfl
   .have ra:r0.contains t=aa:=ra rfl;obtain⟨q1,q2,q3⟩:=Kw hA q t0 A (by simpa using ra);simp only[h1,hc,aN,aR,kG];refine aU (λx=>x=(0,(h,d,th),0,a0,qC r0 [t],a1,r1,a2,r2)) ?_ ?_
    .refine aZ (by simp;omega) (by omega) (aS q1 (a_ ?_ (aS q2 (a_ ?_ (ai ?_)))))
     .rw[q3];simp
     .simp
     .rfl
    rintro x rfl;exact ai rfl
   .have rr:r0.contains t=M:=rr rfl;have q1:=La hA q t0 A rr;simp only[h1,hc,aN,aR,kG];refine aU (λx=>x=(0,(h,d,th),0,a0,wo r0 t,a1,r1,a2,r2)) ?_ ?_
    .exact aS q1 (a_ (by simp) (ai rfl))
    rintro x rfl;exact ai rfl
  .have hA:xR r1:=hA;have q:∀z∈r1,0<=z/\z<4:=q;rcases hk with rfl|rfl
   .have ra:r1.contains t=aa:=ra rfl;obtain⟨q1,q2,q3⟩:=Kw hA q t0 A (by simpa using ra);simp only[h1,hc,aN,aR,kG];refine aU (λx=>x=(0,(h,d,th),0,a0,r0,a1,qC r1 [t],a2,r2)) ?_ ?_
    .refine aZ (by simp;omega) (by omega) (aS q1 (a_ ?_ (aS q2 (a_ ?_ (ai ?_)))))
     .rw[q3];simp
     .simp
     .rfl
    rintro x rfl;exact ai rfl
   .have rr:r1.contains t=M:=rr rfl;have q1:=La hA q t0 A rr;simp only[h1,hc,aN,aR,kG];refine aU (λx=>x=(0,(h,d,th),0,a0,r0,a1,wo r1 t,a2,r2)) ?_ ?_
    .exact aS q1 (a_ (by simp) (ai rfl))
    rintro x rfl;exact ai rfl
  .have hA:xR r2:=hA;have q:∀z∈r2,0<=z/\z<4:=q;rcases hk with rfl|rfl
   .have ra:r2.contains t=aa:=ra rfl;obtain⟨q1,q2,q3⟩:=Kw hA q t0 A (by simpa using ra);simp only[h1,hc,aN,aR,kG];refine aU (λx=>x=(0,(h,d,th),0,a0,r0,a1,r1,a2,qC r2 [t])) ?_ ?_
    .refine aZ (by simp;omega) (by omega) (aS q1 (a_ ?_ (aS q2 (a_ ?_ (ai ?_)))))
     .rw[q3];simp
     .simp
     .rfl
    rintro x rfl;exact ai rfl
   .have rr:r2.contains t=M:=rr rfl;have q1:=La hA q t0 A rr;simp only[h1,hc,aN,aR,kG];refine aU (λx=>x=(0,(h,d,th),0,a0,r0,a1,r1,a2,wo r2 t)) ?_ ?_
    .exact aS q1 (a_ (by simp) (ai rfl))
    rintro x rfl;exact ai rfl
theorem WZ (a0 a1 a2 a3:Int) (r0 r1 r2 r3:η) (h:Int) (d:θ) (th:Y (Int×Int×Bool)) (h0:r0.length<=1000) (h1:r1.length<=1000) (h2:r2.length<=1000) (s:r3.length<=1000) (hd:d.length<=1000) (ht:th.length<=1000):mb ([(a0,r0),(a1,r1),(a2,r2),(a3,r3)],h,d,th)=Z ((h,d,th),(a0,a1,a2,a3),r0,r1,r2,r3):=by
 refine b6 ?_;have q:∀l:η,l.length<=1000->gh l=Z l:=λl hl=>b6 (aZ (by omega) (by omega) (ai rfl))
 unfold mb aX bp bA bt bJ aY aB;refine a_ rfl (aU (λx=>x=(([(a0,r0),(a1,r1),(a2,r2),(a3,r3)],h,d,th),0,(a0,a1,a2,a3),r0,r1,r2,r3)) ?_ ?_)
 .exact eW rfl (a_ rfl (aV (aS (q _ h0) (eW rfl (a_ rfl (aV (aS (q _ h1) (eW rfl (a_ rfl (aV (aS (q _ h2) (eW rfl (a_ rfl (aV (aS (q _ s) (jG rfl (ai rfl)))))))))))))))))
 rintro x rfl;refine aS (x:=d) (b6 (aZ (by dsimp only;omega) (by omega) (ai rfl))) (aS (x:=th) (b6 (aZ (by dsimp only;omega) (by omega) (ai rfl))) (ai rfl))
theorem XY {n:Nat} (w:WT) (s:SY) (hs:SB n s) (hn:n<=900) (D:w.2.2.1.length<=1000) (t k o u:Int) (he:EN w s t k o) (hr:FL w s t k o) (hk:k=8\/k=9) (I:s.1.length=4) (hA:xR (aH (T:=tf) s.1 o).2) (q:∀z∈(aH (T:=tf) s.1 o).2,0<=z/\z<4) (A:t<4) (L:0<=o) (o1:o<4):gf (w,s,t,k,o,u)=Z ((vY w s t k o u).1,(vY w s t k o u).2,M):=by
 have h1:=oH w s hs (by omega) D t k o he hr;have t0:=he.t0;have ra:=hr.ra;have rr:=hr.rr;have hrd:=hs.rd;have hdn:=hs.dn;have hth:=hs.th;obtain⟨s1,h,d,th⟩:=s
 match s1,I with
 |[(a0,r0),(a1,r1),(a2,r2),(a3,r3)],_=>
  have g0:r0.length<=n:=hrd (a0,r0) (by simp);have g1:r1.length<=n:=hrd (a1,r1) (by simp);have g2:r2.length<=n:=hrd (a2,r2) (by simp);have g3:r3.length<=n:=hrd (a3,r3) (by simp);dsimp only at hdn hth;have hc:=WZ a0 a1 a2 a3 r0 r1 r2 r3 h d th (by omega) (by omega) (by omega) (by omega) hdn hth;refine b6 ?_;unfold gf aX bh bm bT cX gN rn bp GW bg mq bt aB;have F:o=0\/o=1\/o=2\/o=3:=by omega
  rcases F with rfl|rfl|rfl|rfl
  .have hA:xR r0:=hA;have q:∀z∈r0,0<=z/\z<4:=q;rcases hk with rfl|rfl
   .have ra:r0.contains t=aa:=ra rfl;obtain⟨q1,q2,q3⟩:=Kw hA q t0 A (by simpa using ra);simp only[h1,hc,aN,aR,kG];refine aU (λx=>x=(0,(h,d,th),0,a0,qC r0 [t],a1,r1,a2,r2,a3,r3)) ?_ ?_
    .refine aZ (by simp;omega) (by omega) (aS q1 (a_ ?_ (aS q2 (a_ ?_ (ai ?_)))))
     .rw[q3];simp
     .simp
     .rfl
    rintro x rfl;exact ai rfl
   .have rr:r0.contains t=M:=rr rfl;have q1:=La hA q t0 A rr;simp only[h1,hc,aN,aR,kG];refine aU (λx=>x=(0,(h,d,th),0,a0,wo r0 t,a1,r1,a2,r2,a3,r3)) ?_ ?_
    .exact aS q1 (a_ (by simp) (ai rfl))
    rintro x rfl;exact ai rfl
  .have hA:xR r1:=hA;have q:∀z∈r1,0<=z/\z<4:=q;rcases hk with rfl|rfl
   .have ra:r1.contains t=aa:=ra rfl;obtain⟨q1,q2,q3⟩:=Kw hA q t0 A (by simpa using ra);simp only[h1,hc,aN,aR,kG];refine aU (λx=>x=(0,(h,d,th),0,a0,r0,a1,qC r1 [t],a2,r2,a3,r3)) ?_ ?_
    .refine aZ (by simp;omega) (by omega) (aS q1 (a_ ?_ (aS q2 (a_ ?_ (ai ?_)))))
     .rw[q3];simp
     .simp
     .rfl
    rintro x rfl;exact ai rfl
   .have rr:r1.contains t=M:=rr rfl;have q1:=La hA q t0 A rr;simp only[h1,hc,aN,aR,kG];refine aU (λx=>x=(0,(h,d,th),0,a0,r0,a1,wo r1 t,a2,r2,a3,r3)) ?_ ?_
    .exact aS q1 (a_ (by simp) (ai rfl))
    rintro x rfl;exact ai rfl
  .have hA:xR r2:=hA;have q:∀z∈r2,0<=z/\z<4:=q;rcases hk with rfl|rfl
   .have ra:r2.contains t=aa:=ra rfl;obtain⟨q1,q2,q3⟩:=Kw hA q t0 A (by simpa using ra);simp only[h1,hc,aN,aR,kG];refine aU (λx=>x=(0,(h,d,th),0,a0,r0,a1,r1,a2,qC r2 [t],a3,r3)) ?_ ?_
    .refine aZ (by simp;omega) (by omega) (aS q1 (a_ ?_ (aS q2 (a_ ?_ (ai ?_)))))
     .rw[q3];simp
     .simp
     .rfl
    rintro x rfl;exact ai rfl
   .have rr:r2.contains t=M:=rr rfl;have q1:=La hA q t0 A rr;simp only[h1,hc,aN,aR,kG];refine aU (λx=>x=(0,(h,d,th),0,a0,r0,a1,r1,a2,wo r2 t,a3,r3)) ?_ ?_
    .exact aS q1 (a_ (by simp) (ai rfl))
    rintro x rfl;exact ai rfl
  .have hA:xR r3:=hA;have q:∀z∈r3,0<=z/\z<4:=q;rcases hk with rfl|rfl
   .have ra:r3.contains t=aa:=ra rfl;obtain⟨q1,q2,q3⟩:=Kw hA q t0 A (by simpa using ra);simp only[h1,hc,aN,aR,kG];refine aU (λx=>x=(0,(h,d,th),0,a0,r0,a1,r1,a2,r2,a3,qC r3 [t])) ?_ ?_
    .refine aZ (by simp;omega) (by omega) (aS q1 (a_ ?_ (aS q2 (a_ ?_ (ai ?_)))))
     .rw[q3];simp
     .simp
     .rfl
    rintro x rfl;exact ai rfl
   .have rr:r3.contains t=M:=rr rfl;have q1:=La hA q t0 A rr;simp only[h1,hc,aN,aR,kG];refine aU (λx=>x=(0,(h,d,th),0,a0,r0,a1,r1,a2,r2,a3,wo r3 t)) ?_ ?_
    .exact aS q1 (a_ (by simp) (ai rfl))
    rintro x rfl;exact ai rfl
theorem aap {n:Nat} (w:WT) (s:SY) (hs:SB n s) (hn:n<=1000) (d:w.2.2.1.length<=1000) (t k o u:Int) (he:EN w s t k o) (hr:FL w s t k o) (hk:k=8\/k=9):gR (w,s,t,k,o,u)=U:=by
 have h1:=oH w s hs hn d t k o he hr;have h2:=ZA s hs;rcases hk with rfl|rfl
 .unfold gR aX bh bm bT cX bp cI cD dC gd ck bg bt bJ kM aB;simp only[h1,h2,aN,aR,kG];cases eZ o (ah s.1)<;>rfl
 .unfold gR aX bh bm bT cX bp cI cD dC gd ck bg bt bJ kM aB;simp only[h1,h2,aN,aR,kG];cases eZ o (ah s.1)<;>rfl
theorem adw {n:Nat} (w:WT) (s:SY) (hs:SB n s) (hn:n<=900) (d:w.2.2.1.length<=1000) (t k o u:Int) (he:EN w s t k o) (hr:FL w s t k o) (hl:s.1.length<=4) (hA:∀l∈s.1,xR l.2/\∀z∈l.2,0<=z/\z<4) (q:t<4):rB (w,s,t,k,o,u)=Z ((vY w s t k o u).1,(vY w s t k o u).2,M):=by
 unfold rB;by_cases hk:k=8\/k=9
 .have lk:=he.nm.lk (by omega);have e1:=he.e1;have hg:=hA _ (bG (T:=tf) (xs:=s.1) (j:=o) (by omega) (by omega));have A:=X4 w s hs (by omega) d t k o u he hr;have D:=X3 w s hs (by omega) d t k o u he hr;have F:=X2 w s hs (by omega) d t k o u he hr;rw[aap w s hs (by omega) d t k o u he hr hk];have:s.1.length=1\/s.1.length=2\/s.1.length=3\/s.1.length=4:=by omega
  rcases this with h|h|h|h
  .rw[X1 w s hs hn d t k o u he hr hk h hg.1 hg.2 q (by omega) (by omega)];rfl
  .rw[A (by omega),X0 w s hs hn d t k o u he hr hk h hg.1 hg.2 q (by omega) (by omega)];rfl
  .rw[A (by omega),D (by omega),XZ w s hs hn d t k o u he hr hk h hg.1 hg.2 q (by omega) (by omega)];rfl
  .rw[A (by omega),D (by omega),F (by omega),XY w s hs hn d t k o u he hr hk h hg.1 hg.2 q (by omega) (by omega)];rfl
 .rw[adv w s hs (by omega) d t k o u he hr (λh=>hk (.inl h)) λh=>hk (.inr h)];rfl
theorem Vr (l:η) (h:l.length<=100000):yi l=Z l:=b6 (aZ (by omega) (by omega) (ai rfl))
theorem acp (l:η) (h:l.length<=100000):gh l=Z l:=b6 (aZ (by omega) (by omega) (ai rfl))
theorem Z3 {n:Nat} (w:WT) (s:SN) (e:ET) (hs:NB n s) (hn:n<=900) (D:w.2.2.1.length<=1000) (I:RN w s) (q:EN w s.1 e.1 e.2.1 e.2.2.1) (F:X8 w s e) (hcb:(aH (T:=.int .i64) s.2.2.2 e.1:Int)<=1000) (hl:s.1.1.length<=4) (hA:∀l∈s.1.1,xR l.2/\∀z∈l.2,0<=z/\z<4) (t4:e.1<4):dT (w,s,e)=Z (R7 w s e,M):=by
 have ld:e.2.2.2.2.2.1.length<=1000000:=by
  have L:(e.2.2.2.2.2.1.length:Int)<=max (0:Int) (aH (T:=.int .i64) s.2.2.2 e.1):=F.nd.len;have:=eT L (xg.2 ⟨by decide,hcb⟩);omega
 have lf:e.2.2.2.2.2.2.length<=1000000:=by
  have L:(e.2.2.2.2.2.2.length:Int)<=max (0:Int) (aH (T:=.int .i64) s.2.2.2 e.1):=F.nf.len;have:=eT L (xg.2 ⟨by decide,hcb⟩);omega
 refine b6 ?_;obtain⟨rd,q1,q2,de,fr,nd,nf,va⟩:=id F;obtain⟨nm,t0,t1,cd,e1,e2,e3⟩:=id q;obtain⟨k1,k2,ce,lk,cn,th,fu,_,_,_⟩:=nm;obtain⟨f1,f2,f3⟩:=id I;have hsc:=hs.c;have hsf:=hs.f;have hsk:=hs.k;unfold dT aX bh bm bp cI cD ck bg bA ji kM aY aB cw;refine aU (λx=>x=(aa,w,s,e,0)) ?_ ?_
 .refine aS (aij w s D _ _ _ q I) (jG rfl (gP (dV (λg=>(by dsimp only[aj]at g;omega)) λ_=>gP (ai ?_))));rw[fD.2 (show e.2.1<=23 by omega)]
 rintro x rfl;refine fw (aU (λx=>x=(aa,w,s,e,0)) ?_ ?_)
 .exact aS (oH w s.1 hs.sb (by omega) D _ _ _ q rd) (jG rfl (aS (abh w e q1 q2) (jG rfl (aS (Qy w s e (λh=>ce h) de fr t0 (by rw[f3];exact t1) nd nf ld lf) (jG rfl (aS (aaz w s hs.sb e I q va) (ai rfl)))))))
 rintro x rfl;refine fw (aU (λx=>x.2=(w,s,e,0)/\vY w s.1 e.1 e.2.1 e.2.2.1 x.1=vY w s.1 e.1 e.2.1 e.2.2.1 e.2.2.2.1) ?_ ?_)
 .exact aE (λ_=>ai ⟨rfl,rfl⟩) λh=>ai ⟨rfl,aeh _ _ _ _ _ _ _ h⟩
 rintro⟨u,x⟩ ⟨hx,hu⟩;dsimp only at hx hu;subst hx;refine aS (adw w s.1 hs.sb hn D _ _ _ u q rd hl hA t4) (jG rfl (aS (Vr _ (by dsimp only;omega)) (aS (Vr _ (by dsimp only;omega)) (aS (acp _ (by dsimp only;omega)) ?_))));rw[hu];refine aU (λx=>x.1=e/\x.2.2.1=(vY w s.1 e.1 e.2.1 e.2.2.1 e.2.2.2.1).1/\x.2.2.2.1=ZF s.2.1 e/\x.2.2.2.2.1=fuP s.2.2.1 e/\x.2.2.2.2.2=s.2.2.2) ?_ ?_
 .unfold ZF fuP;refine aE (λh=>?_) λh=>aE (λh'=>?_) λh'=>ai ⟨rfl,rfl,(aM h).symm,(aM h').symm,rfl⟩
  .have h:e.2.1=4:=h;have d:=ce (.inr h);exact aK d.1 (by rw[f1];exact d.2) (aK d.1 (by rw[f1];exact d.2) (ai ⟨rfl,rfl,(aW h).symm,(aM (by omega)).symm,rfl⟩))
  .have h:e.2.1=22:=h';have d:=fu (.inl h);exact aK d.1 (by rw[f2];exact d.2) (aK d.1 (by rw[f2];exact d.2) (ai ⟨rfl,rfl,(aM (by omega)).symm,(aW h).symm,rfl⟩))
 rintro⟨x1,x2,x3,x4,x5,x6⟩ ⟨h1,h2,h4,h5,h6⟩;simp only at h1 h2 h4 h5 h6;subst h1;subst h2;subst h4;subst h5;subst h6;have A:x1.1<(s.2.2.2.length:Int):=by rw[f3];exact t1
 exact aK t0 A (aK t0 A (aV (aK t0 A (aK t0 A (ai rfl)))))
theorem Z4 {n:Nat} (w:WT) (s:SN) (e:ET) (hs:NB n s) (hn:n<=900) (A:w.2.2.1.length<=1000) (hcb:(aH (T:=.int .i64) s.2.2.2 e.1:Int)<=1000) (hl:s.1.1.length<=4) (hA:∀l∈s.1.1,xR l.2/\∀z∈l.2,0<=z/\z<4) (ht:w.2.2.2.2.1.length<=4):Ok (dT (w,s,e)) λy=>y.2=M->(RN w s/\EN w s.1 e.1 e.2.1 e.2.2.1/\X8 w s e)/\y.1=R7 w s e:=by
 by_cases I:RN w s/\EN w s.1 e.1 e.2.1 e.2.2.1/\X8 w s e
 .obtain⟨q,d,L⟩:=I;have t1:=d.t1;exact YG (Z3 w s e hs hn A q d L hcb hl hA (by omega)) λ_=>⟨⟨q,d,L⟩,rfl⟩
 have hno:∀{y:SN×Bool},y.2=aa->(y.2=M->(RN w s/\EN w s.1 e.1 e.2.1 e.2.2.1/\X8 w s e)/\y.1=R7 w s e):=λh g=>by rw[h]at g;cases g
 unfold dT aX bh bm bp cI cD ck bg bA ji kM aY aB cw;refine aU (λx=>x.2=(w,s,e,0)/\(x.1=aa->RN w s/\0<=e.1/\e.1<w.2.2.2.2.1.length)) ?_ ?_
 .refine ar (Zn w s A) λb hb=>cV (λ_=>ai ⟨rfl,λh=>(by cases h)⟩) λD=>?_
  refine aQ (λ_=>ai ⟨rfl,λh=>(by cases h)⟩) λg0=>dV (λ_=>ai ⟨rfl,λh=>(by cases h)⟩) λF=>aQ (λ_=>ai ⟨rfl,λh=>(by cases h)⟩) λ_=>ai ⟨rfl,λ_=>⟨hb D,g0,F⟩⟩
 rintro⟨b,x⟩ ⟨e1,hb⟩;dsimp only at e1 hb;subst e1;refine aJ (λ_=>ai (hno rfl)) λh=>?_
 obtain⟨q,t0,t1⟩:=hb h;clear hb;refine aU (λx=>x.2=(w,s,e,0)/\(x.1=aa->RN w s/\EN w s.1 e.1 e.2.1 e.2.2.1/\X8 w s e)) ?_ ?_
 .have t2:e.1<(s.2.2.2.length:Int):=by have:=q.k;omega
  refine ar (RO w s.1 hs.sb (by omega) A _ _ _) λb1 h1=>cV (λ_=>ai ⟨rfl,λh=>(by cases h)⟩) λF=>?_
  obtain⟨d,hR⟩:=h1 F;refine ar (Ss w e) λb2 h2=>cV (λ_=>ai ⟨rfl,λh=>(by cases h)⟩) λg2=>?_
  obtain⟨p1,p2⟩:=h2 g2;refine ar (Jr w s e (λh=>d.nm.ce h) t0 t2 hcb) λb3 h3=>cV (λ_=>ai ⟨rfl,λh=>(by cases h)⟩) λg3=>?_
  obtain⟨d1,d2,d3,d4⟩:=h3 g3;refine ar (Sd w s hs.sb e q d) λb4 h4=>ai ⟨rfl,λg4=>⟨q,d,hR,p1,p2,d1,d2,d3,d4,h4 ?_⟩⟩
  cases b4 with
  |true=>rfl
  |false=>cases g4
 rintro⟨b,x⟩ ⟨e1,hb⟩;dsimp only at e1 hb;subst e1;exact aJ (λ_=>ai (hno rfl)) λh=>(I (hb h)).elim
abbrev GR:Type:=ζ×Int×Int×Bool×Int
abbrev cG (l:Y GR) (j:Int):GR:=aH (T:=OD) l j
def bkE (c:GR) (k:Int):GR:=(c.1,k,c.2.2.1,aa,c.2.2.2.2)
structure BKA (l:List GR) (i:Nat):Prop where
 z:¬(cG l i).2.2.1=0
 s1:1<=(cG l i).2.2.1
 s4:(cG l i).2.2.1<=4
 le:(i:Int)+(cG l i).2.2.1<=l.length
 al:∀k:Nat,(k:Int)<(cG l i).2.2.1->cG l ((i:Int)+k)=bkE (cG l i) k
inductive Dk (l:List GR):Nat->List ζ->Prop
 |nil:Dk l l.length []
 |one {i:Nat} {ns:List ζ} (h:i<l.length) (z:(cG l i).2.2.1=0) (x:(cG l i).2.1=0) (r:Dk l (i+1) ns):Dk l i ((cG l i).1::ns)
 |arr {i:Nat} {ns:List ζ} (h:i<l.length) (b:BKA l i) (r:Dk l (i+(cG l i).2.2.1.toNat) ns):Dk l i ((cG l i).1::ns)
theorem Dk.inv {l:Y GR} {i:Nat} {ns:Y ζ} (h:Dk l i ns) (hi:i<l.length):∃r,ns=(cG l i).1::r/\(((cG l i).2.2.1=0/\(cG l i).2.1=0/\Dk l (i+1) r)\/(BKA l i/\Dk l (i+(cG l i).2.2.1.toNat) r)):=by
 cases h with
 |nil=>omega
 |one h z x r=>exact⟨_,rfl,.inl ⟨z,x,r⟩⟩
 |arr h b r=>exact⟨_,rfl,.inr ⟨b,r⟩⟩
def OF (l:Y GR) (i:Nat) (acc:Y ζ):Prop:=i<=l.length/\acc.length<=i/\∀ns,Dk l 0 ns↔∃r,ns=acc++r/\Dk l i r
theorem OF.zero (l:Y GR):OF l 0 []:=⟨mM _,cN _,λns=>⟨λh=>⟨ns,rfl,h⟩,λ⟨r,e,h⟩=>by subst e;exact h⟩⟩
theorem OF.no {l:Y GR} {i:Nat} {acc:Y ζ} (h:OF l i acc) (hi:i<l.length) (h1:¬((cG l i).2.2.1=0/\(cG l i).2.1=0)) (h2:¬BKA l i):∀ns,¬Dk l 0 ns:=λns hn=>by
 obtain⟨r,rfl,hr⟩:=(h.2.2 ns).1 hn;obtain⟨q,_,d⟩:=hr.inv hi;rcases d with ⟨a,b,_⟩|⟨a,_⟩
 .exact h1 ⟨a,b⟩
 .exact h2 a
theorem OF.one {l:Y GR} {i:Nat} {acc:Y ζ} (h:OF l i acc) (hi:i<l.length) (z:(cG l i).2.2.1=0) (x:(cG l i).2.1=0):OF l (i+1) (acc++[(cG l i).1]):=by
 refine ⟨by omega,by simp;exact h.2.1,λns=>(h.2.2 ns).trans ⟨?_,?_⟩⟩
 .rintro⟨r,rfl,hr⟩;obtain⟨q,rfl,s⟩:=hr.inv hi;rcases s with ⟨_,_,d⟩|⟨d,_⟩
  .exact⟨q,by simp,d⟩
  .exact (d.z z).elim
 .rintro⟨r,rfl,hr⟩;exact⟨_,by simp,.one hi z x hr⟩
theorem OF.arr {l:Y GR} {i:Nat} {acc:Y ζ} (h:OF l i acc) (hi:i<l.length) (b:BKA l i):OF l (i+(cG l i).2.2.1.toNat) (acc++[(cG l i).1]):=by
 have:=b.le;have:=b.s1;have:=h.2.1;refine ⟨by omega,by simp;omega,λns=>(h.2.2 ns).trans ⟨?_,?_⟩⟩
 .rintro⟨r,rfl,hr⟩;obtain⟨q,rfl,s⟩:=hr.inv hi;rcases s with ⟨d,_⟩|⟨_,d⟩
  .exact (b.z d).elim
  .exact⟨q,by simp,d⟩
 .rintro⟨r,rfl,hr⟩;exact⟨_,by simp,.arr hi b hr⟩
theorem OF.end_ {l:Y GR} {acc:Y ζ} (h:OF l l.length acc):Dk l 0 acc:=(h.2.2 acc).2 ⟨[],by simp,.nil⟩
theorem Dk.uniq {l:Y GR} {i:Nat} {a:Y ζ} (h:Dk l i a):∀{b:Y ζ},Dk l i b->a=b:=by
 induction h with
 |nil=>intro b hb;cases hb with
  |nil=>rfl
  |one h _ _ _=>omega
  |arr h _ _=>omega
 |one h z x r q=>
  intro b hb;obtain⟨A,rfl,s⟩:=hb.inv h;rcases s with ⟨_,_,d⟩|⟨d,_⟩
  .rw[q d]
  .exact (d.z z).elim
 |arr h b r q=>
  intro b' hb;obtain⟨A,rfl,s⟩:=hb.inv h;rcases s with ⟨d,_⟩|⟨_,d⟩
  .exact (b.z d).elim
  .rw[q d]
def VNo (l:Y GR) (y:Y ζ×Bool):Prop:=(y.2=M->Dk l 0 y.1)/\(y.2=aa->∀ns,¬Dk l 0 ns)
theorem eqCe (a b:GR):(Ml (.pr .str (.pr aL (.pr aL (.pr .bool (.pr aL .un))))) (a.1,a.2.1,a.2.2.1,a.2.2.2.1,a.2.2.2.2,()) (b.1,b.2.1,b.2.2.1,b.2.2.2.1,b.2.2.2.2,()) !=M)=decide (¬a=b):=by
 obtain⟨a1,a2,a3,L,I⟩:=a;obtain⟨b1,F,D,A,z⟩:=b;by_cases h1:a1=b1<;>by_cases h2:a2=F<;>by_cases s:a3=D<;>by_cases q:L=A<;>by_cases d:I=z<;>simp[Ml,h1,h2,s,q,d]
theorem Kt (l:Y GR) (hl:l.length<=12):Ok (fM l) (VNo l):=by
 unfold fM kQ aX bh bm bT cI dC bg bA iT bt bJ aY cM aB cw;refine HM 12 (λx:Int×Y ζ=>(((l.length:Int)-x.1).toNat)) (λx=>0<=x.1/\OF l x.1.toNat x.2) ?_ ⟨by simp;omega,by omega⟩ ⟨by simp,OF.zero l⟩;rintro⟨i,acc⟩ ⟨i0,hV⟩;dsimp only at i0 hV;obtain⟨i,rfl⟩:∃n:Nat,i=(n:Int):=⟨i.toNat,by omega⟩
 rw[cW]at hV;have hle:=hV.1;have hac:=hV.2.1;refine aQ (λg=>?_) λg=>ai ⟨λ_=>?_,λh=>(by cases h)⟩
 .dsimp only[aj]at g;have hi:i<l.length:=by omega
  refine aU (λx=>((i:Int)<x.1/\x.1<=l.length)/\OF l x.1.toNat x.2) ?_ ?_
  .refine dW (aV (aZ (by simp;omega) (by omega) ?_));have hc:aH (T:=OD) l (i:Int)=cG l i:=rfl;generalize hz:aH (T:=OD) l (i:Int)=z at hc;have one:=hV.one hi;have arr:=hV.arr hi;have no:=hV.no hi;have hB1:BKA l i↔¬(z.2.2.1:Int)=0/\(1:Int)<=z.2.2.1/\(4:Int)≥z.2.2.1/\(l.length:Int)≥(i:Int)+z.2.2.1/\∀k:Nat,(k:Int)<(z.2.2.1:Int)->cG l ((i:Int)+k)=bkE z k:=by
    constructor
    .rintro⟨a,b,c,d,e⟩;rw[<- hc]at a b c d e;exact⟨a,b,c,d,e⟩
    .rintro⟨a,b,c,d,e⟩;rw[hc]at a b c d e;exact⟨a,b,c,d,e⟩
   rw[<- hc]at one arr no;clear hc;have hzz:z=cG l ((i:Int)):=hz.symm;clear hz;obtain⟨D,(z2:Int),(s:Int),z4,(L:Int)⟩:=z;dsimp only at one arr no hB1 ⊢;refine aE (λA=>bY (λh2=>ai ?_) λh2=>ai ?_) λA=>?_
   .exact⟨λh=>(by cases h),λ_=>no (λh=>h2 h.2) λh=>(hB1.1 h).1 A⟩
   .have:=one A h2;dsimp only;rw[fo (by omega)];exact⟨by omega,this⟩
   have no:=no λh=>A h.1
   refine aU (λx=>x.2=(acc++[D],D,z2,s,z4,L)/\(x.1=M->∀ns,¬Dk l 0 ns)/\(x.1=aa->1<=s/\s<=4/\z4=aa/\(i:Int)+s<=l.length)) ?_ ?_
   .refine aQ (λh=>ai ⟨rfl,λ_=>no λhb=>(by have:=(hB1.1 hb).2.1;omega),λh=>(by cases h)⟩) λh1=>aQ (λh=>ai ⟨rfl,λ_=>no λhb=>(by have:=(hB1.1 hb).2.2.1;omega),λh=>(by cases h)⟩) λh4=>aJ (λh=>ai ⟨rfl,λ_=>no λhb=>?_,λh=>(by cases h)⟩) λhv=>ai ⟨rfl,λh=>no λhb=>?_,λh=>⟨h1,h4,hv,?_⟩⟩
    .have:=(hB1.1 hb).2.2.2.2 0 (by omega);rw[show ((i:Int)+((0:Nat):Int))=(i:Int) by omega,<-hzz]at this;have:=i_ (λc:GR=>c.2.2.2.1) this;have:z4=aa:=this;rw[this]at h;cases h
    .have:=(hB1.1 hb).2.2.2.1;dsimp only[aj]at h;rw[lQ,gI (by omega) (by omega)]at h;omega
    .dsimp only[aj]at h;rw[fD,gI (by omega) (by omega)]at h;omega
   rintro⟨b,x⟩ ⟨e,I,F⟩;dsimp only at e I F;subst e;refine aJ (λh=>ai ⟨λh=>(by cases h),λ_=>I h⟩) λh=>?_
   obtain⟨q1,q2,q3,q4⟩:=F h;subst q3;refine HM 5 (λx:Int×Y ζ×GR=>(s-x.1).toNat) (λx=>(0<=x.1/\x.1<=s)/\(∃q,x.2=(acc++[D],D,q,s,aa,L))/\∀k:Nat,(k:Int)<x.1->cG l ((i:Int)+k)=bkE (D,z2,s,aa,L) k) ?_ ⟨by dsimp only;omega,by omega⟩ ⟨⟨by simp,by dsimp only;omega⟩,⟨z2,rfl⟩,λk hk=>(by dsimp only at hk;omega)⟩;rintro⟨k,x⟩ ⟨⟨k0,k1⟩,⟨q,e⟩,hal⟩;dsimp only at k0 k1 e hal;subst e;refine aQ (λhk=>?_) λhk=>ai ?_
   .dsimp only at hk;have ew:ba .i64 ((i:Int)+k)=(i:Int)+k:=gI (by omega) (by omega);refine aK (by dsimp only;rw[ew];omega) (by dsimp only;rw[ew];omega) (aV ?_);dsimp only;rw[ew];have hq:=eqCe (aH (T:=OD) l ((i:Int)+k)) (D,k,s,aa,L);dsimp only at hq;refine aJ (λhne=>ai ⟨λh=>(by cases h),λ_=>no λhb=>?_⟩) λhne=>ai ⟨⟨⟨?_,?_⟩,⟨k,rfl⟩,λm hm=>?_⟩,?_⟩
    .have hne:=bf (hq.symm.trans hne);have:=(hB1.1 hb).2.2.2.2 k.toNat (by omega);rw[show (((k.toNat:Nat):Int))=k by omega]at this;exact hne this
    .rw[gI (by omega) (by omega)];omega
    .rw[gI (by omega) (by omega)];omega
    .rw[gI (by omega) (by omega)]at hm;have hne:=jF (hq.symm.trans hne);rcases Int.lt_or_le (m:Int) k with g|g
     .exact hal m g
     .have:(m:Int)=k:=by omega
      rw[this];exact Classical.not_not.1 hne
    .rw[gI (by omega) (by omega)];omega
   .dsimp only at hk;have hkz:k=s:=by omega
    subst hkz;have hB:=hB1.2 ⟨A,q1,q2,q4,hal⟩;have:=arr hB;dsimp only;rw[gI (by omega) (by omega),show ((i:Int)+k).toNat=i+k.toNat by omega];exact⟨⟨by omega,by omega⟩,this⟩
  .rintro⟨j,acc'⟩ ⟨⟨h1,h2⟩,A⟩;dsimp only at h1 h2 A;exact ai ⟨⟨by omega,A⟩,by dsimp only;omega⟩
 .dsimp only[aj]at g;have:i=l.length:=by omega
  subst this;exact hV.end_
def su (w:WT) (ns:Y ζ):Y ζ:=((ns++w.2.1.map (·.1))++w.2.2.1.map (·.1))++w.2.2.2.1++w.2.2.2.2.1
structure Kq (w:WT):Prop where
 v:VL w
 ns:∃ns,Dk w.1 0 ns/\(∀s∈su w ns,tZ s)/\(su w ns).Nodup
 cd:∀c∈w.2.2.1,0<=c.2/\c.2<w.2.1.length/\(aH (T:=xM) w.2.1 c.2).2=aa
 s:SV0 w
theorem Dk.len {l:Y GR} {i:Nat} {ns:Y ζ} (h:Dk l i ns):i<=l.length/\ns.length+i<=l.length:=by
 induction h with
 |nil=>simp
 |one h _ _ _ d=>simp;omega
 |arr h b _ d=>have:=b.s1;have:=d;simp;omega
theorem abo (w:WT) (h:VL w):Ok (pj w) λy=>(y.2=M->∃ns,Dk w.1 0 ns/\y.1=su w ns)/\(y.2=aa->∀ns,¬Dk w.1 0 ns):=by
 obtain⟨l,w2,q,F,D,A⟩:=w;obtain⟨h1,h2,I,h4,_,h5,h6⟩:=h;dsimp only at*
 unfold pj aX bh bm bT cI gd bg bA iT bt bJ aY cM aB cw;refine mB (λx=>((l.length:Int)-x.1).toNat) (λx=>(0<=x.1/\x.2.1=(l,w2,q,F,D,A))/\OF l x.1.toNat x.2.2) ?_ ⟨⟨by simp,rfl⟩,OF.zero l⟩;rintro⟨i,x,acc⟩ ⟨⟨i0,e⟩,hV⟩;dsimp only at e i0 hV;subst e;obtain⟨i,rfl⟩:∃n:Nat,i=(n:Int):=⟨i.toNat,by omega⟩
 rw[cW]at hV;have hle:=hV.1;have hac:=hV.2.1;refine aQ (λg=>?_) λg=>?_
 .dsimp only[aj]at g;have hi:i<l.length:=by omega
  refine aU (λx=>(((i:Int)<x.1/\x.1<=l.length)/\x.2.1=(l,w2,q,F,D,A))/\OF l x.1.toNat x.2.2) ?_ ?_
  .refine dW (aV (aZ (by simp;omega) (by omega) ?_));have hc:aH (T:=OD) l (i:Int)=cG l i:=rfl;generalize hz:aH (T:=OD) l (i:Int)=z at hc;have one:=hV.one hi;have arr:=hV.arr hi;have no:=hV.no hi;have hB1:BKA l i↔¬(z.2.2.1:Int)=0/\(1:Int)<=z.2.2.1/\(4:Int)≥z.2.2.1/\(l.length:Int)≥(i:Int)+z.2.2.1/\∀k:Nat,(k:Int)<(z.2.2.1:Int)->cG l ((i:Int)+k)=bkE z k:=by
    constructor
    .rintro⟨a,b,c,d,e⟩;rw[<- hc]at a b c d e;exact⟨a,b,c,d,e⟩
    .rintro⟨a,b,c,d,e⟩;rw[hc]at a b c d e;exact⟨a,b,c,d,e⟩
   rw[<- hc]at one arr no;clear hc;have hzz:z=cG l ((i:Int)):=hz.symm;clear hz;obtain⟨L,(z2:Int),(s:Int),z4,(z5:Int)⟩:=z;dsimp only at one arr no hB1 ⊢;refine aE (λI=>bY (λh2=>ai ?_) λh2=>ai ?_) λI=>?_
   .exact⟨λh=>(by cases h),λ_=>no (λh=>h2 h.2) λh=>(hB1.1 h).1 I⟩
   .have:=one I h2;dsimp only;rw[fo (by omega)];exact⟨⟨by omega,rfl⟩,this⟩
   have no:=no λh=>I h.1
   refine aU (λx=>x.2=((l,w2,q,F,D,A),acc++[L],L,z2,s,z4,z5)/\(x.1=M->∀ns,¬Dk l 0 ns)/\(x.1=aa->1<=s/\s<=4/\(i:Int)+s<=l.length)) ?_ ?_
   .refine aQ (λh=>ai ⟨rfl,λ_=>no λhb=>(by have:=(hB1.1 hb).2.1;omega),λh=>(by cases h)⟩) λh1=>aQ (λh=>ai ⟨rfl,λ_=>no λhb=>(by have:=(hB1.1 hb).2.2.1;omega),λh=>(by cases h)⟩) λh4=>ai ⟨rfl,λh=>no λhb=>?_,λh=>⟨h1,h4,?_⟩⟩
    .have:=(hB1.1 hb).2.2.2.1;dsimp only[aj]at h;rw[lQ,gI (by omega) (by omega)]at h;omega
    .dsimp only[aj]at h;rw[fD,gI (by omega) (by omega)]at h;omega
   rintro⟨b,x⟩ ⟨e,hb1,hb2⟩;dsimp only at e hb1 hb2;subst e;refine aJ (λh=>ai ⟨λh=>(by cases h),λ_=>hb1 h⟩) λh=>?_
   obtain⟨q1,q2,q4⟩:=hb2 h;refine mB (λx=>(s-x.1).toNat) (λx=>(0<=x.1/\x.1<=s)/\x.2=((l,w2,q,F,D,A),acc++[L],L,z2,s,z4,z5)/\∀k:Nat,(k:Int)<x.1->cG l ((i:Int)+k)=bkE (L,z2,s,z4,z5) k) ?_ ⟨⟨by simp,by dsimp only;omega⟩,rfl,λk hk=>(by dsimp only at hk;omega)⟩;rintro⟨k,x⟩ ⟨⟨k0,k1⟩,e,hal⟩;dsimp only at k0 k1 e hal;subst e;refine aQ (λhk=>?_) λhk=>ai ?_
   .dsimp only at hk;have ew:ba .i64 ((i:Int)+k)=(i:Int)+k:=gI (by omega) (by omega);refine aK (by dsimp only;rw[ew];omega) (by dsimp only;rw[ew];omega) (aV ?_);dsimp only;rw[ew];refine aU (λx=>x.2=((l,w2,q,F,D,A),acc++[L],L,z2,s,z4,z5)/\(x.1=aa↔cG l ((i:Int)+k)=bkE (L,z2,s,z4,z5) k)) ?_ ?_
    .have hcg:cG l ((i:Int)+k)=aH (T:=OD) l ((i:Int)+k):=rfl;rw[hcg];generalize aH (T:=OD) l ((i:Int)+k)=c;obtain⟨c1,(c2:Int),(c3:Int),c4,(c5:Int)⟩:=c;dsimp only;refine bY (λg=>ai ⟨rfl,?_⟩) λg1=>bY (λg=>ai ⟨rfl,?_⟩) λg2=>bY (λg=>ai ⟨rfl,?_⟩) λg3=>bY (λg=>ai ⟨rfl,?_⟩) λg4=>ai ⟨rfl,?_⟩
     .exact⟨λh=>(by cases h),λh=>(g (i_ (λc:GR=>c.2.1) h)).elim⟩
     .exact⟨λh=>(by cases h),λh=>(g (i_ (λc:GR=>c.1) h)).elim⟩
     .exact⟨λh=>(by cases h),λh=>(g (i_ (λc:GR=>c.2.2.1) h)).elim⟩
     .exact⟨λh=>(by cases h),λh=>(g (i_ (λc:GR=>c.2.2.2.2) h)).elim⟩
     .constructor
      .intro hh;have h0:c4=aa:=hh;subst g1;subst g2;subst g3;subst g4;rw[h0];rfl
      .exact λh=>i_ (λc:GR=>c.2.2.2.1) h
    rintro⟨b,x⟩ ⟨e,hb⟩;dsimp only at e hb;subst e;refine aJ (λhne=>ai ⟨λh=>(by cases h),λ_=>no λhB=>?_⟩) λhne=>ai ⟨⟨⟨?_,?_⟩,rfl,λm hm=>?_⟩,?_⟩
    .have:=(hB1.1 hB).2.2.2.2 k.toNat (by omega);rw[show (((k.toNat:Nat):Int))=k by omega]at this;rw[hb.2 this]at hne;cases hne
    .dsimp only;rw[gI (by omega) (by omega)];omega
    .dsimp only;rw[gI (by omega) (by omega)];omega
    .dsimp only at hm;rw[gI (by omega) (by omega)]at hm;rcases Int.lt_or_le (m:Int) k with g|g
     .exact hal m g
     .have:(m:Int)=k:=by omega
      rw[this];exact hb.1 hne
    .dsimp only;rw[gI (by omega) (by omega)];omega
   .dsimp only at hk;have hkz:k=s:=by omega
    subst hkz;have hB:=hB1.2 ⟨I,q1,q2,q4,hal⟩;have:=arr hB;dsimp only;rw[gI (by omega) (by omega),show ((i:Int)+k).toNat=i+k.toNat by omega];exact⟨⟨⟨by omega,by omega⟩,rfl⟩,this⟩
  .rintro⟨j,x,acc'⟩ ⟨⟨⟨h1,h2⟩,e⟩,I⟩;dsimp only at h1 h2 I e;subst e;exact ai ⟨⟨⟨by dsimp only;omega,rfl⟩,I⟩,by dsimp only;omega⟩
 .dsimp only[aj]at g;have:i=l.length:=by omega
  subst this;have hN:=hV.end_;refine ar (P:=λy=>y=(su (l,w2,q,F,D,A) acc,M)) ?_ λy hy=>ai ?_
  .refine b9 w2.length (λi x=>x=((i:Int),(l,w2,q,F,D,A),acc++(w2.take i).map (·.1))) ?_ ?_ (by simp)
   .rintro i x hi rfl;refine ic (dW (aV (aZ (by simp;omega) (by omega) (ai ?_))));dsimp only;rw[fo (by omega),pP (T:=xM) hi,c8,iz];rfl
   .rintro x rfl;rw[bS];refine gP (ar (P:=λy=>y=(su (l,w2,q,F,D,A) acc,M)) ?_ λy hy=>ai hy);refine b9 q.length (λi x=>x=((i:Int),(l,w2,q,F,D,A),(acc++w2.map (·.1))++(q.take i).map (·.1))) ?_ ?_ (by simp)
    .rintro i x hi rfl;refine ic (dW (aV (aZ (by simp;omega) (by omega) (ai ?_))));dsimp only;rw[fo (by omega),pP (T:=pL) hi,c8,iz (acc++w2.map (·.1))];rfl
    .rintro x rfl;rw[bS];refine gP (ar (P:=λy=>y=(su (l,w2,q,F,D,A) acc,M)) ?_ λy hy=>ai hy);exact aZ (by simp;omega) (by omega) (aZ (by simp;omega) (by omega) (ai rfl))
  .subst hy;exact⟨λ_=>⟨acc,hN,rfl⟩,λh=>(by cases h)⟩
theorem UU {T t n:Int} {z:ν}:siS T (Z (t,n)) z≠U↔(z.1=t/\z.2.1=n\/t<z.1/\z.1<T/\z.2.1=0):=by
 unfold siS;dsimp only;by_cases h1:z.1=t/\z.2.1=n
 .rw[aW h1];simp[h1]
 .rw[aM h1];by_cases h2:t<z.1/\z.1<T/\z.2.1=0
  .rw[aW h2];simp[h2]
  .rw[aM h2];simp only[ne_eq,not_true_eq_false,false_iff];exact λh=>h.elim h1 h2
theorem wy {α:Type} {l:Y α} {x:α}:(l++[x]).Nodup↔l.Nodup/\¬x∈l:=by
 rw[List.nodup_append];constructor
 .rintro⟨h1,_,q⟩;exact⟨h1,λh=>q x h x (by simp) rfl⟩
 .rintro⟨h1,h2⟩;exact⟨h1,by simp,λa d b hb e=>by simp at hb;subst hb;subst e;exact h2 d⟩
theorem HU {α:Type} {l:Y α} (h:l.Nodup) (i:Nat):(l.take i).Nodup:=h.sublist (List.take_sublist i l)
theorem ZU {w:WT} {ns:Y ζ} (h:VL w) (hn:Dk w.1 0 ns):(su w ns).length<=24:=by
 have:=hn.len.2;have:=h.c;have:=h.l;have:=h.d;have:=h.f;have:=h.t;unfold su;simp;omega
theorem Kq.names {w:WT} (h:Kq w) {ns:Y ζ} (hn:Dk w.1 0 ns):(∀s∈su w ns,tZ s)/\(su w ns).Nodup:=by
 obtain⟨ns',h1,h2⟩:=h.ns;rw[hn.uniq h1];exact h2
structure Z8 (T:Int) (l:List ν) (i:Nat) (t k:Int):Prop where
 f:VZ T (l.take i)=Z (t,k)
 t0:0<=t
 t1:t<T
 z:i=0->t=0/\k=0
 p:¬i=0->∀y:ν,aH (T:=Dh) l ((i-1:Nat):Int)=y->y.1=t/\y.2.1+1=k
 k0:0<=k
 k1:k<=i
theorem Z8.zero {T:Int} (l:Y ν) (h:0<T):Z8 T l 0 0 0:=⟨rfl,by omega,h,λ_=>⟨rfl,rfl⟩,λh=>(h rfl).elim,by omega,by omega⟩
theorem Z8.no {T:Int} {l:Y ν} {i:Nat} {t k:Int} (h:Z8 T l i t k) (hi:i<l.length) {y:ν} (e:aH (T:=Dh) l (i:Int)=y) (g:¬(y.1=t/\y.2.1=k\/t<y.1/\y.1<T/\y.2.1=0)):VZ T l=U:=by
 refine Classical.not_not.1 λhn=>?_
 have h2:=ab8 hn (i+1);rw[Hw hi,h.f,e]at h2;exact g (UU.1 h2)
theorem Z8.next {T:Int} {l:Y ν} {i:Nat} {t k:Int} (h:Z8 T l i t k) (hi:i<l.length) {y:ν} (e:aH (T:=Dh) l (i:Int)=y) (g:y.1=t/\y.2.1=k\/t<y.1/\y.1<T/\y.2.1=0):Z8 T l (i+1) y.1 (y.2.1+1):=by
 obtain⟨f,t0,t1,z,p,k0,k1⟩:=h;have h2:=Yq (UU.2 g);rw[<- f,<-e,<-Hw hi]at h2;refine ⟨by rw[<- e];exact h2.1,?_,?_,λh=>by omega,λ_ d e'=>?_,?_,?_⟩
 case refine_3=>
  rw[show i+1-1=i by omega,e]at e';subst e';exact⟨rfl,rfl⟩
 all_goals omega
theorem Kr (w:WT) (h:VL w):Ok (fJ w) λb=>b=M↔SV0 w:=by
 have hs:=h.s;have ht:=h.t0;have L:=h.t;unfold SV0;unfold fJ kO aX bh bT cD bA iT bJ aY cM aB cw;refine eB w.2.2.2.2.2.length (by omega) (λi x=>∃t n:Int,x=((t,n,(i:Int)),w)/\Z8 w.2.2.2.2.1.length w.2.2.2.2.2 i t n) ?_ ?_ ⟨0,0,rfl,Z8.zero _ (by omega)⟩
 .rintro i x hi ⟨t,n,rfl,A⟩;refine ic (dW (aV ?_));obtain⟨⟨a,b,c⟩,D⟩:∃y:ν,aH (T:=Dh) w.2.2.2.2.2 (i:Int)=y:=⟨_,rfl⟩
  have no:=A.no hi D;have nx:=A.next hi D;obtain⟨_,t0,t1,z,p,k0,k1⟩:=A;rw[D];clear D;dsimp only at no nx ⊢;have no':=λg=>(⟨λh=>(by cases h),λh=>(h (no g)).elim⟩:aa=M↔VZ w.2.2.2.2.1.length w.2.2.2.2.2≠U)
  refine aU (λx=>x.2=(w,a,b,c)/\(x.1=aa↔t<=a/\a<w.2.2.2.2.1.length)) ?_ ?_
  .refine aQ (λg=>ai ⟨rfl,λh=>(by cases h),λh=>(by omega)⟩) λg=>ai ⟨rfl,?_⟩
   dsimp only[aj];rw[ko];omega
  rintro⟨x1,x⟩ ⟨e,F⟩;dsimp only at e F;subst e;refine aJ (λg=>ai (no' λh=>?_)) λg=>?_
  .have:¬(t<=a/\a<w.2.2.2.2.1.length):=λq=>by rw[F.2 q]at g;cases g
   omega
  obtain⟨g1,g2⟩:=F.1 g;refine aU (λx=>x.2=(w,a,b,c)/\x.1.1=a/\((x.1.2=b↔(a=t/\b=n\/t<a/\b=0))/\0<=x.1.2/\x.1.2<=i)) ?_ ?_
  .refine aQ (λg=>ai ⟨rfl,rfl,?_⟩) λg=>ai ⟨rfl,?_,?_⟩
   .dsimp only at g ⊢;omega
   .dsimp only at g ⊢;omega
   .dsimp only at g ⊢;omega
  rintro⟨⟨x1,x2⟩,x⟩ ⟨e,e2,d,k2,I⟩;dsimp only at e e2 d k2 I;subst e;subst e2;refine bY (λg=>ai (no' λh=>?_)) λg=>ai ⟨_,_,?_,nx ?_⟩
  .dsimp only at g;have:¬x2=b:=λq=>g q.symm
   rw[d]at this;omega
  .dsimp only at g ⊢;have g:b=x2:=g;rw[fo (by omega),gI (n:=x2+1) (by omega) (by omega),g]
  .dsimp only at g;have g:b=x2:=g;have:=d.1 g.symm;omega
 .rintro x ⟨t,n,rfl,A⟩;refine gP (ai ⟨λ_ h=>?_,λ_=>rfl⟩);have:=A.f;rw[bS,h]at this;cases this
theorem aif {T:Ty} {l:Y T.den} {p:T.den->Prop} (h:∀k:Nat,k<ah l->p (aH l (k:Int))):∀c∈l,p c:=ir h
theorem VW06 (w:WT):Ok (hX w) λb=>b=M↔Kq w:=by
 unfold hX aX bh bm bT cD dC bg bA ji iT bt bJ aY cM aB cw;refine aU (λx=>x.2=w/\(x.1=aa->VL w)/\(x.1=M->¬VL w)) ?_ ?_
 .with_reducible repeat' first|(refine OS.ok ?_;constructor)|refine IM.mk λ_=>?_
  all_goals first|exact⟨rfl,λh=>(by cases h),λ_ hv=>(by have:=hv.c;have:=hv.l;have:=hv.d;have:=hv.f;have:=hv.t0;have:=hv.t;dsimp only[aj]at *;omega)⟩|skip
  dsimp only[aj] at*
  refine ⟨rfl,λh=>?_,λh hv=>?_⟩
  .rw[fD]at h;constructor<;>omega
  .rw[lQ]at h;have:=hv.s;omega
 rintro⟨b,x⟩ ⟨e,hb,hb'⟩;dsimp only at e hb hb';subst e;refine aJ (λh=>ai ⟨λg=>(by cases g),λg=>(hb' h g.v).elim⟩) λh=>?_
 have hv:=hb h;refine ar (abo _ hv) λy I=>?_
 refine cV (λh=>ai ⟨λg=>(by cases g),λg=>?_⟩) λh=>?_
 .obtain⟨ns,h1,_⟩:=g.ns;exact (I.2 h ns h1).elim
 obtain⟨ns,hns,hyn⟩:=I.1 h;have hlen:=ZU hv hns;rw[hyn];clear hyn I;clear hb hb';have hN:Kq x->(∀s∈su x ns,tZ s)/\(su x ns).Nodup:=λg=>g.names hns
 generalize hL:su x ns=L at hN hlen;refine b9 L.length (λi x'=>x'=((i:Int),x)/\(∀s∈L.take i,tZ s)/\(L.take i).Nodup) ?_ ?_ ⟨rfl,λs hs=>(by simp at hs),by simp⟩
 .rintro i x' hi ⟨rfl,hq1,hq2⟩;refine ic ?_;have htk:=pP (T:=.str) hi;refine aU (λx'=>x'.2=x/\(x'.1=aa↔tZ (aH (T:=.str) L (i:Int))/\¬aH (T:=.str) L (i:Int)∈L.take i)) ?_ ?_
  .refine dW (aV (ar (aab _) λb hb=>?_));refine cV (λh=>ai ⟨rfl,λh=>(by cases h),λg=>?_⟩) λh=>?_
   .rw[hb.2 g.1]at h;cases h
   refine cR (dv (by omega) (dv (by dsimp only;omega) (dW (aV ?_))));refine ar (AG _ _ (by simp;omega)) λr hr=>ai ⟨rfl,?_⟩
   obtain⟨_,h2,h3,h4⟩:=hr;rw[ko];constructor
   .intro g;exact⟨hb.1 h,h4 g⟩
   .rintro⟨_,g⟩;refine Int.not_le.1 λh0=>g ?_
    have h3:=h3 h0;dsimp only at h3;rw[<- h3];exact bG (T:=.str) h0 h2
  rintro⟨b,x'⟩ ⟨e,hb⟩;dsimp only at e hb;subst e;refine aJ (λh=>ai ⟨λg=>(by cases g),λg=>?_⟩) λh=>ai ⟨by dsimp only;rw[fo (by omega)],?_,?_⟩
  .obtain⟨g1,g2⟩:=hN g;have:b=aa:=hb.2 ⟨g1 _ (bG (T:=.str) (by omega) (by omega)),(wy.1 (by rw[<- htk];exact HU g2 _)).2⟩;rw[this]at h;cases h
  .rw[htk];intro s hs;rcases bP.1 hs with hs|hs
   .exact hq1 s hs
   .rw[aI]at hs;subst hs;exact (hb.1 h).1
  .rw[htk];exact wy.2 ⟨hq2,(hb.1 h).2⟩
 rintro x' ⟨rfl,hq1,hq2⟩;rw[bS]at hq1 hq2;subst hL;obtain⟨w1,w2,q,F,D,A⟩:=x;have h6:=hv.s;have h3:=hv.d;have h2:=hv.l;have h50:=hv.t0;dsimp only at h6 h3 h2 h50;refine gP (ar (P:=λb=>b=M↔Kq (w1,w2,q,F,D,A)) ?_ λy I=>ai I);refine b9 q.length (λi x=>x=((i:Int),(w1,w2,q,F,D,A))/\∀k:Nat,k<i->0<=(aH (T:=pL) q (k:Int)).2/\(aH (T:=pL) q (k:Int)).2<w2.length/\(aH (T:=xM) w2 (aH (T:=pL) q (k:Int)).2).2=aa) ?_ ?_ ⟨rfl,λk hk=>(by omega)⟩
 .rintro i x hi ⟨rfl,hq⟩;refine ic (dW (aV ?_));have hmem:aH (T:=pL) q (i:Int)∈q:=bG (T:=pL) (by omega) (by omega);have hVW:Kq (w1,w2,q,F,D,A)->0<=(aH (T:=pL) q (i:Int)).2/\(aH (T:=pL) q (i:Int)).2<w2.length/\(aH (T:=xM) w2 (aH (T:=pL) q (i:Int)).2).2=aa:=λg=>g.cd _ hmem
  have hq':(0<=(aH (T:=pL) q (i:Int)).2/\(aH (T:=pL) q (i:Int)).2<w2.length/\(aH (T:=xM) w2 (aH (T:=pL) q (i:Int)).2).2=aa)->∀k:Nat,k<i+1->0<=(aH (T:=pL) q (k:Int)).2/\(aH (T:=pL) q (k:Int)).2<w2.length/\(aH (T:=xM) w2 (aH (T:=pL) q (k:Int)).2).2=aa:=λg k hk=>by
   rcases bN k i with h1|h1
   .exact hq k h1
   .rw[show k=i by omega];exact g
  clear hq;obtain⟨⟨c1,c2⟩,hc⟩:∃c:ζ×Int,aH (T:=pL) q (i:Int)=c:=⟨_,rfl⟩
  rw[hc]at hVW hq' ⊢;dsimp only at hVW hq' ⊢;refine aU (λx=>x.2=(w1,w2,q,F,D,A)/\(x.1=aa↔0<=c2/\c2<w2.length/\(aH (T:=xM) w2 c2).2=aa)) ?_ ?_
  .refine aQ (λg=>ai ⟨rfl,λh=>(by cases h),λh=>(by omega)⟩) λg=>dV (λg2=>ai ⟨rfl,λh=>(by cases h),λh=>(by dsimp only[aj]at g2;omega)⟩) λg2=>?_
   dsimp only[aj]at g2;exact dW (aV (ai ⟨rfl,λh=>⟨g,g2,h⟩,λh=>h.2.2⟩))
  rintro⟨b,x⟩ ⟨e,hb⟩;dsimp only at e hb;subst e;refine aJ (λh=>ai ⟨λg=>(by cases g),λg=>?_⟩) λh=>ai ⟨by dsimp only;rw[fo (by omega)],hq' (hb.1 h)⟩
  rw[hb.2 (hVW g)]at h;cases h
 rintro x ⟨rfl,hq⟩;have hcd:∀c∈q,0<=c.2/\c.2<w2.length/\(aH (T:=xM) w2 c.2).2=aa:=aif (T:=pL) hq;clear hq;refine gP (ar (P:=λb=>b=M↔Kq (w1,w2,q,F,D,A)) ?_ λy I=>ai I);have hno:VZ D.length A=U->(aa=M↔Kq (w1,w2,q,F,D,A)):=λg=>⟨λh=>(by cases h),λh=>(h.s g).elim⟩
 refine b9 A.length (λi x=>x=((i:Int),(w1,w2,q,F,D,A))/\∃t k:Int,Z8 D.length A i t k) ?_ ?_ ⟨rfl,0,0,Z8.zero _ (by omega)⟩
 .rintro i x hi ⟨rfl,t,k,hI⟩;have hw:¬(i:Int)=0->ba .i64 ((i:Int)-1)=((i-1:Nat):Int):=λh=>by rw[gI (by omega) (by omega)];omega
  refine ic ?_;obtain⟨⟨a,b,c⟩,I⟩:∃y:ν,aH (T:=Dh) A (i:Int)=y:=⟨_,rfl⟩
  have no:=hI.no hi I;have nx:=hI.next hi I;obtain⟨_,t0,t1,z,p,k0,k1⟩:=hI;obtain⟨⟨pa,pb,pc⟩,hp⟩:∃y:ν,aH (T:=Dh) A ((i-1:Nat):Int)=y:=⟨_,rfl⟩
  have p:=λh=>p h _ hp
  dsimp only at no nx p;refine aU (λx=>x=(w1,w2,q,F,D,A)/\(a=t/\b=k\/t<a/\a<D.length/\b=0)) ?_ ?_
  .refine dW (aV ?_);dsimp only;rw[I];dsimp only;refine aU (λx=>x.2=((w1,w2,q,F,D,A),a,b,c)/\(x.1=aa↔0<=a/\a<D.length)) ?_ ?_
   .refine aQ (λ_=>ai ⟨rfl,λh=>(by cases h),λh=>(by omega)⟩) λg=>ai ⟨rfl,?_⟩
    dsimp only[aj];rw[ko];omega
   rintro⟨b1,x⟩ ⟨e,hx⟩;dsimp only at e hx;subst e;refine aJ (λh=>ai (hno (no λg=>?_))) λh=>?_
   .rw[hx.2 (by omega)]at h;cases h
   obtain⟨a0,a1⟩:=hx.1 h;refine aU (λx=>x.2=((w1,w2,q,F,D,A),a,b,c)/\(x.1=aa↔¬i=0/\t=a)) ?_ ?_
   .refine aE (λh=>ai ⟨rfl,λh=>(by cases h),λg=>?_⟩) λh=>?_
    .have h:((i:Nat):Int)=0:=h;omega
    have h:¬((i:Nat):Int)=0:=h;have hpp:=p (by omega);dsimp only;rw[hw h];refine aK (by omega) (by first|omega|(dsimp only;omega)) (aV (ai ⟨rfl,?_⟩));rw[hp];dsimp only;rw[hpp.1];simp only[Bool.not_eq_false',bB];exact⟨λg=>⟨by omega,g⟩,λg=>g.2⟩
   rintro⟨c1,x⟩ ⟨e,hc⟩;dsimp only at e hc;subst e;refine aJ (λhct=>?_) λhcf=>?_
   .have hne:¬(¬i=0/\t=a):=λg=>by rw[hc.2 g]at hct;cases hct
    refine aU (λx=>x.2=(w1,w2,q,F,D,A)/\(x.1=aa↔b=0/\(i=0\/t<=a))) ?_ ?_
    .refine bY (λg=>ai ⟨rfl,λh=>(by cases h),λh=>(g h.1).elim⟩) λhb0=>aQ (λh=>?_) λh=>ai ⟨rfl,λ_=>⟨hb0,.inl ?_⟩,λ_=>rfl⟩
     .have h:(0:Int)<((i:Nat):Int):=h;have hpp:=p (by omega);dsimp only;rw[hw (by omega)];refine aK (by omega) (by first|omega|(dsimp only;omega)) (aV (ai ⟨rfl,?_⟩));rw[hp];dsimp only;rw[hpp.1,fD];exact⟨λg=>⟨hb0,.inr g⟩,λg=>g.2.elim (λg=>by omega) id⟩
     .have h:((i:Nat):Int)<=0:=h;omega
    rintro⟨b2,x⟩ ⟨e,hb2⟩;dsimp only at e hb2;subst e;refine aJ (λh=>ai (hno (no λg=>?_))) λh=>ai ⟨rfl,?_⟩
    .have:¬(b=0/\(i=0\/t<=a)):=λg=>by rw[hb2.2 g]at h;cases h
     by_cases i0:i=0
     .have:=z i0;omega
     .omega
    .have g:=hb2.1 h;by_cases i0:i=0
     .have:=z i0;omega
     .omega
   .obtain⟨i0,ta⟩:=hc.1 hcf;have hpp:=p i0;dsimp only;rw[hw (by omega)];refine aK (by omega) (by first|omega|(dsimp only;omega)) (aV ?_);rw[hp];refine bY (λg=>ai (hno (no λg2=>?_))) λg=>ai ⟨rfl,?_⟩
    .dsimp only at g;rw[gI (by omega) (by omega)]at g;omega
    .dsimp only at g;rw[gI (by omega) (by omega)]at g;omega
  .rintro x ⟨rfl,g⟩;exact ai ⟨by dsimp only;rw[fo (by omega)],_,_,nx g⟩
 .rintro x ⟨rfl,t,k,hI⟩;refine gP (ai ⟨λ_=>⟨hv,⟨ns,hns,hq1,hq2⟩,hcd,λh=>?_⟩,λ_=>rfl⟩);have:=hI.f;rw[bS]at this;rw[this]at h;cases h
theorem YP (k j:ζ) (v:Bool):∀m:Y (ζ×Bool),uy (K:=.str) (V:=.bool) j (H0 (K:=.str) (V:=.bool) k v m)=if j=k then Z v else uy (K:=.str) (V:=.bool) j m
 |[]=>by
  show (if decide (j=k)=M then Z v else U)=_;by_cases h:j=k<;>simp[h,uy]
 |(a,b)::r=>by
  have d:=YP k j v r;show uy (K:=.str) (V:=.bool) j (if decide (k=a)=M then (k,v)::r else (a,b)::H0 (K:=.str) (V:=.bool) k v r)=if j=k then Z v else if decide (j=a)=M then Z b else uy (K:=.str) (V:=.bool) j r
  by_cases h:k=a
  .subst h;rw[aW (bl rfl)];show (if decide (j=k)=M then Z v else uy (K:=.str) (V:=.bool) j r)=_;by_cases g:j=k<;>simp[g]
  .rw[aM (by simpa using h)];show (if decide (j=a)=M then Z b else uy (K:=.str) (V:=.bool) j (H0 (K:=.str) (V:=.bool) k v r))=_;rw[d];by_cases g:j=a
   .subst g;rw[aW (bl rfl),aM λq=>h q.symm,aW (bl rfl)]
   .simp only[g,dh,bO,dx]
def J5 (l:Y ζ) (m:Y (ζ×Bool)):Prop:=∀s,ER (K:=.str) (V:=.bool) s m aa=decide (s∈l)
theorem J5.nil:J5 [] []:=λs=>by simp[ER,uy]
theorem J5.snoc {l:Y ζ} {m:Y (ζ×Bool)} (h:J5 l m) (x:ζ):J5 (l++[x]) (H0 (K:=.str) (V:=.bool) x M m):=λs=>by
 have:=h s;unfold ER at this ⊢;rw[YP];by_cases e:s=x
 .subst e;simp
 .rw[aM e,this];simp[e]
theorem Ks (w:WT) (h:VL w) (ns:Y ζ) (hn:ns.length<=12):Ok (fK (w,ns)) λb=>b=M↔(∀s∈su w ns,tZ s)/\(su w ns).Nodup:=by
 obtain⟨l,w2,d,z,q,A⟩:=w;obtain⟨h1,h2,h3,h4,_,h5,h6⟩:=h;dsimp only at*
 unfold fK kP aX bh bm bA bt bJ kM aY cM aB cw;refine aZ (by dsimp only;omega) (by omega) ?_;refine eB w2.length (by omega) (λi x=>x=((i:Int),(l,w2,d,z,q,A),ns++(w2.take i).map (·.1))) ?_ ?_ (by simp)
 .rintro i x hi rfl;refine ic (dW (aV (aZ (by simp;omega) (by omega) (ai ?_))));dsimp only;rw[fo (by omega),pP (T:=xM) hi,c8,iz];rfl
 rintro x rfl;rw[bS];refine gP (ar (P:=λb=>b=M↔(∀s∈su (l,w2,d,z,q,A) ns,tZ s)/\(su (l,w2,d,z,q,A) ns).Nodup) ?_ λy I=>ai I);refine eB d.length (by omega) (λi x=>x=((i:Int),(l,w2,d,z,q,A),(ns++w2.map (·.1))++(d.take i).map (·.1))) ?_ ?_ (by simp)
 .rintro i x hi rfl;refine ic (dW (aV (aZ (by simp;omega) (by omega) (ai ?_))));dsimp only;rw[fo (by omega),pP (T:=pL) hi,c8,iz (ns++w2.map (·.1))];rfl
 rintro x rfl;rw[bS];refine gP (ar (P:=λb=>b=M↔(∀s∈su (l,w2,d,z,q,A) ns,tZ s)/\(su (l,w2,d,z,q,A) ns).Nodup) ?_ λy I=>ai I);refine aZ (by simp;omega) (by omega) (aZ (by simp;omega) (by omega) ?_);have hL:((ns++w2.map (·.1))++d.map (·.1)++z)++q=su (l,w2,d,z,q,A) ns:=rfl;have hLl:(su (l,w2,d,z,q,A) ns).length<=24:=by unfold su;simp;omega
 dsimp only;rw[hL];generalize su (l,w2,d,z,q,A) ns=L at hLl;refine eB L.length (by omega) (λi x=>∃m,x=((i:Int),m,L)/\J5 (L.take i) m/\(∀s∈L.take i,tZ s)/\(L.take i).Nodup) ?_ ?_ ⟨[],rfl,J5.nil,λs hs=>(by simp at hs),by simp⟩
 .rintro i x hi ⟨m,rfl,hm,F,D⟩;refine ic (dW (dW (aV ?_)));have htk:=pP (T:=.str) hi;refine aU (λx=>x.2=(m,L)/\(x.1=aa↔tZ (aH (T:=.str) L (i:Int))/\¬aH (T:=.str) L (i:Int)∈L.take i)) ?_ ?_
  .refine ar (adt _) λb hb=>cV (λh=>ai ⟨rfl,λh=>(by cases h),λg=>?_⟩) λh=>ai ⟨rfl,?_⟩
   .rw[hb.2 g.1]at h;cases h
   .have:=hm (aH (T:=.str) L (i:Int));constructor
    .intro g;exact⟨hb.1 h,jF (this.symm.trans g)⟩
    .intro g;exact this.trans (bF g.2)
  rintro⟨b,x⟩ ⟨e,hb⟩;dsimp only at e hb;subst e;refine aJ (λh=>ai ⟨λg=>(by cases g),λg=>?_⟩) λh=>ai ⟨_,by dsimp only;rw[fo (by omega)],?_,?_,?_⟩
  .have:b=aa:=hb.2 ⟨g.1 _ (bG (T:=.str) (by omega) (by omega)),(wy.1 (by rw[<- htk];exact HU g.2 _)).2⟩;rw[this]at h;cases h
  .rw[htk];exact hm.snoc _
  .rw[htk];intro s hs;rcases bP.1 hs with hs|hs
   .exact F s hs
   .rw[aI]at hs;subst hs;exact (hb.1 h).1
  .rw[htk];exact wy.2 ⟨D,(hb.1 h).2⟩
 .rintro x ⟨m,rfl,hm,F,D⟩;rw[bS]at F D;exact gP (ai ⟨λ_=>⟨F,D⟩,λ_=>rfl⟩)
theorem aay (a b:Int):mc (a,b)=Z (decide (0<=a/\a<b)):=by
 refine b6 ?_;unfold mc ji aB;with_reducible repeat' first|(refine OS.ok ?_;constructor)|refine IM.mk λ_=>?_
 .by_cases h:a<b<;>simp[*,fE]
 .simp;omega
theorem VWc (w:WT):Ok (dw w) λb=>b=M↔Kq w:=by
 unfold dw kR aX bh bT cD bA bJ aY cM aB cw;refine aU (λx=>x.2=w/\(x.1=M->¬VL w)/\(x.1=aa->w.1.length<=12/\w.2.1.length<=4/\w.2.2.1.length<=2/\w.2.2.2.1.length<=2/\w.2.2.2.2.2.length<=60)) ?_ ?_
 .refine aQ (λg=>ai ⟨rfl,λ_ hv=>(by have:=hv.c;dsimp only[aj]at g;omega),λh=>(by cases h)⟩) λg1=>aQ (λg=>ai ⟨rfl,λ_ hv=>(by have:=hv.l;dsimp only[aj]at g;omega),λh=>(by cases h)⟩) λg2=>aQ (λg=>ai ⟨rfl,λ_ hv=>(by have:=hv.d;dsimp only[aj]at g;omega),λh=>(by cases h)⟩) λg3=>aQ (λg=>ai ⟨rfl,λ_ hv=>(by have:=hv.f;dsimp only[aj]at g;omega),λh=>(by cases h)⟩) λg4=>ai ⟨rfl,λg hv=>?_,λg=>?_⟩
  .have:=hv.s;dsimp only[aj]at g;rw[lQ]at g;omega
  .dsimp only[aj]at g g1 g2 g3 g4;rw[fD]at g;omega
 rintro⟨b,x⟩ ⟨e,A,q⟩;dsimp only at e A q;subst e;refine aJ (λh=>ai ⟨λg=>(by cases g),λg=>(A h g.v).elim⟩) λh=>?_
 obtain⟨q1,q2,q3,q4,q5⟩:=q h;clear A q;refine aU (λy=>y.2=x/\(y.1=M->¬VL x)/\(y.1=aa->VL x)) ?_ ?_
 .refine aQ (λg=>ai ⟨rfl,λ_ hv=>(by have:=hv.t0;dsimp only[aj]at g;omega),λh=>(by cases h)⟩) λg1=>ai ⟨rfl,λg hv=>?_,λg=>?_⟩
  .have:=hv.t;dsimp only[aj]at g;rw[lQ]at g;omega
  .dsimp only[aj]at g g1;rw[fD]at g;constructor<;>omega
 rintro⟨b,y⟩ ⟨e,A,q⟩;dsimp only at e A q;subst e;refine aJ (λh=>ai ⟨λg=>(by cases g),λg=>(A h g.v).elim⟩) λh=>?_
 have hv:=q h;clear A q;refine ar (Kt _ q1) λz hz=>?_
 obtain⟨ns,zb⟩:=z;obtain⟨L,I⟩:=hz;dsimp only at L I;refine aU (λz=>z.2=y/\(z.1=M->¬Kq y)/\(z.1=aa->Dk y.1 0 ns/\(∀s∈su y ns,tZ s)/\(su y ns).Nodup)) ?_ ?_
 .refine cV (λh=>ai ⟨rfl,λ_ g=>?_,λh=>(by cases h)⟩) λh=>?_
  .obtain⟨ns',g1,_⟩:=g.ns;exact I h ns' g1
  .have hn:=L h;refine ar (Ks y hv ns (by have:=hn.len.2;omega)) λb hb=>ai ⟨rfl,λg g2=>?_,λg=>⟨hn,hb.1 ?_⟩⟩
   .have:=hb.2 (g2.names hn);rw[this]at g;cases g
   .cases b with
    |true=>rfl
    |false=>cases g
 rintro⟨b,z⟩ ⟨e,A,q⟩;dsimp only at e A q;subst e;refine aJ (λh=>ai ⟨λg=>(by cases g),λg=>(A h g).elim⟩) λh=>?_
 obtain⟨n1,n2,n3⟩:=q h;clear A q;have hsi:=Kr z hv;obtain⟨w1,w2,D,w4,w5,w6⟩:=z;dsimp only at q1 q2 q3 q4 q5 n1;refine eB D.length (by omega) (λi x=>x=((i:Int),(w1,w2,D,w4,w5,w6))/\∀k:Nat,k<i->0<=(aH (T:=pL) D (k:Int)).2/\(aH (T:=pL) D (k:Int)).2<w2.length/\(aH (T:=xM) w2 (aH (T:=pL) D (k:Int)).2).2=aa) ?_ ?_ ⟨rfl,λk hk=>(by omega)⟩
 .rintro i x hi ⟨rfl,hq⟩;refine ic (dW (aV ?_));have hmem:aH (T:=pL) D (i:Int)∈D:=bG (T:=pL) (by omega) (by omega);have hVW:Kq (w1,w2,D,w4,w5,w6)->0<=(aH (T:=pL) D (i:Int)).2/\(aH (T:=pL) D (i:Int)).2<w2.length/\(aH (T:=xM) w2 (aH (T:=pL) D (i:Int)).2).2=aa:=λg=>g.cd _ hmem
  have F:(0<=(aH (T:=pL) D (i:Int)).2/\(aH (T:=pL) D (i:Int)).2<w2.length/\(aH (T:=xM) w2 (aH (T:=pL) D (i:Int)).2).2=aa)->∀k:Nat,k<i+1->0<=(aH (T:=pL) D (k:Int)).2/\(aH (T:=pL) D (k:Int)).2<w2.length/\(aH (T:=xM) w2 (aH (T:=pL) D (k:Int)).2).2=aa:=λg k hk=>by
   rcases bN k i with h1|h1
   .exact hq k h1
   .rw[show k=i by omega];exact g
  clear hq;obtain⟨⟨c1,c2⟩,hc⟩:∃c:ζ×Int,aH (T:=pL) D (i:Int)=c:=⟨_,rfl⟩
  rw[hc]at hVW F ⊢;dsimp only at hVW F ⊢;refine ar (P:=λb=>b=M↔0<=c2/\c2<w2.length/\(aH (T:=xM) w2 c2).2=aa) ?_ λb hb=>?_
  .unfold oP bJ aY aB;refine fP (aS (aay _ _) (aE (λg=>?_) λg=>ai (ai ⟨λh=>(by cases h),λh=>(g ⟨h.1,h.2.1⟩).elim⟩)));dsimp only[aj]at g;refine aK g.1 g.2 (aV (ai (ai ?_)));dsimp only;obtain⟨⟨d1,d2⟩,hd⟩:∃d:ζ×Bool,aH (T:=xM) w2 c2=d:=⟨_,rfl⟩
   rw[hd];cases d2
   .exact⟨λ_=>⟨g.1,g.2,rfl⟩,λ_=>rfl⟩
   .exact⟨λh=>(by cases h),λh=>(by cases h.2.2)⟩
  .refine cV (λh=>ai ⟨λg=>(by cases g),λg=>?_⟩) λh=>ai ⟨by rw[fo (by omega)],F (hb.1 h)⟩
   rw[hb.2 (hVW g)]at h;cases h
 rintro x ⟨rfl,hq⟩;have hcd:∀c∈D,0<=c.2/\c.2<w2.length/\(aH (T:=xM) w2 c.2).2=aa:=aif (T:=pL) hq;refine gP (ar (P:=λb=>b=M↔Kq (w1,w2,D,w4,w5,w6)) ?_ λy hy=>ai hy);refine ar hsi λb hb=>ai ?_
 exact⟨λh=>⟨hv,⟨ns,n1,n2,n3⟩,hcd,hb.1 h⟩,λh=>hb.2 h.s⟩
abbrev sn8 (w:WT):SN:=(KA w,ce0 w,fu0 w,aA w.2.2.2.2.1.length 0)
theorem ai0 {α:Type} (xs:Y α) (i:Nat) (x:α):ct xs (i:Int) x=xs.set i x:=by unfold ct;simp
theorem abb {α:Type} {a b:α} {n i:Nat} (h:i<n):(aA i a++aA (n-i) b).set i a=aA (i+1) a++aA (n-(i+1)) b:=by
 rw[show n-i=(n-(i+1))+1 by omega,pN];rw[List.set_append_right _ _ (by simp),cB,y_,List.set_cons_zero,Df];simp
theorem abc {T:Ty} {a b:T.den} {n i:Nat} (h:i<n):aH (T:=T) (aA i a++aA (n-i) b) (i:Int)=b:=by
 rw[P_,ay,ca (by simp),cB,y_,lB,aW (by omega)];rfl
theorem Pf (w:WT) (h:VL w):kD w=Z (KA w):=by
 have h2:=h.l;have A:=h.f;have z:=h.t;have s:=h.t0;have d:∀(n b:Nat),n<=4->b<=1024->(cO 0 (aT n)&&cO (aT n) (aT n)&&be (aO (aT n)) b)=M:=λn b hn hb=>by
  rw[oQ.2 (show (0:Int)<=aT n from ey n),oQ.2 (fb _),zg.2 ⟨by simp;omega,by simp only[aj,cW];exact cY (Nat.mul_le_mul (show n<=1073741824 by omega) hb) (by omega)⟩];rfl
 refine b6 ?_;unfold kD rI aX bh bm bp cI cD ck bA bt aY cM aB cw;refine a_ (d _ _ h2 (by omega)) (a_ (d _ _ (by omega) (by omega)) (a_ (d _ _ z (by omega)) ?_));refine eB w.2.1.length (by omega) (λi x=>x=((i:Int),0,(-1:Int),aA i ((-1:Int),([]:η))++aA (w.2.1.length-i) (0,[]),aA w.2.2.2.1.length aa,aA w.2.2.2.2.1.length (0,0,aa))) ?_ ?_ (by simp)
 .rintro i x hi rfl;refine aQ (λ_=>?_) λg=>(by simp only[aj,cB,cW]at g;omega)
  have hin:eZ (i:Int) (ah (aA i (-1,([]:η))++aA (w.2.1.length-i) ((0:Int),([]:η))))=M:=Nk.2 ⟨by omega,by simp;omega⟩;refine a_ hin (a_ hin (ai ?_));dsimp only;rw[abc (T:=tf) hi,fo (by omega),ai0,abb hi]
 .rintro x rfl;refine aQ (λg=>(by simp only[aj,cB,cW]at g;omega)) λ_=>?_
  refine ar (P:=λy=>y=KA w) (aU (λx=>x=(0,-1,aA w.2.1.length (-1,[]),aA w.2.2.2.1.length aa,thP w.2.2.2.2.1.length)) ?_ ?_) λy q=>ai q
  .refine aQ (λ_=>?_) λg=>(by simp only[aj,cB]at g;omega)
   have hin:eZ (0:Int) (ah (aA w.2.2.2.2.1.length ((0:Int),(0:Int),aa)))=M:=Nk.2 ⟨by omega,by simp;omega⟩;refine a_ hin (a_ hin (ai ?_));dsimp only;rw[y_,List.replicate_zero,oe];obtain⟨n,hn⟩:∃n,w.2.2.2.2.1.length=n+1:=⟨w.2.2.2.2.1.length-1,by omega⟩
   rw[hn];rfl
  .rintro x rfl;exact ai rfl
theorem xa (w:WT) (h:VL w):eC w=Z (sn8 w):=by
 have h1:=h.c;have s:=h.f;have q:=h.t;have d:∀(n b:Nat),n<=12->b<=1024->(cO 0 (aT n)&&cO (aT n) (aT n)&&be (aO (aT n)) b)=M:=λn b hn hb=>by
  rw[oQ.2 (show (0:Int)<=aT n from ey n),oQ.2 (fb _),zg.2 ⟨by simp;omega,by simp only[aj,cW];exact cY (Nat.mul_le_mul (show n<=1073741824 by omega) hb) (by omega)⟩];rfl
 refine b6 ?_;unfold eC mD aX bh bm cI bA bt bJ aY cM aB cw;refine aS (Pf w h) (a_ ?_ (a_ (d _ _ (by omega) (by omega)) (a_ (d _ _ (by omega) (by omega)) ?_)))
 .rw[oQ.2 (fb 0),oQ.2 (show (0:Int)<=aT w.1.length from ey _),zg.2 ⟨by simp;omega,by simp;omega⟩];rfl
 refine eB w.1.length (by omega) (λi x=>x=((i:Int),0,KA w,(w.1.take i).map (λc=>c.2.2.2.2),aA w.2.2.2.1.length 0,aA w.2.2.2.2.1.length 0)) ?_ ?_ (by simp)
 .rintro i x hi rfl;refine ic (dW (aV (aZ (by simp;omega) (by omega) (ai ?_))));dsimp only;rw[fo (by omega),pP (T:=OD) hi,c8];rfl
 .rintro x rfl;refine gP (ai ?_);dsimp only;rw[bS];rfl
theorem FN (w:WT) (s:SY) (q:w.2.2.1.length<=1000) (cd:∀c∈w.2.2.1,0<=c.2/\c.2<w.2.1.length) (e1:s.1.length=w.2.1.length) (e2:s.2.2.1.length=w.2.2.2.1.length) (e3:s.2.2.2.length=w.2.2.2.2.1.length):nG (w,s)=Z M:=by
 refine b6 ?_;unfold nG aX bh bm cD bg bA bJ aY cM aB cw;refine b9 w.2.2.1.length (λi x=>x=((i:Int),w,s)) ?_ ?_ rfl
 .rintro i x hi rfl;have hc:=cd _ (bG (T:=pL) (xs:=w.2.2.1) (j:=(i:Int)) (by omega) (by omega));with_reducible repeat' first|(refine OS.ok ?_;constructor)|refine IM.mk λ_=>?_
  all_goals try simp only[aj,ol] at*
  all_goals first|omega|skip
  rw[fo (by omega)]
 .rintro x rfl;refine gP (ar (P:=λb=>b=M) (aU (λx=>x=M) ?_ λx d=>ai d) λb hb=>ai hb);refine aE (λ_=>aE (λ_=>ai ?_) λg=>(g ?_).elim) λg=>(g ?_).elim
  .dsimp only[aj];rw[e3];simp
  .dsimp only[aj];omega
  .dsimp only[aj];omega
theorem SE (w:WT) (k o:Int) (h:NM w k o):pg (w,k,o)=Z M:=by
 refine b6 ?_;obtain⟨k1,k2,ce,lk,cn,th,fu,no,mu,rw_⟩:=h;unfold pg aX bh bm bT bg bJ aY aB;rcases @yk k with rfl|rfl|rfl|rfl|rfl|rfl|rfl|rfl|rfl|rfl|rfl|rfl|rfl|rfl|rfl|rfl|rfl|rfl|rfl|rfl|rfl|rfl|rfl|⟨hk,d⟩
 case inr.inr.inr.inr.inr.inr.inr.inr.inr.inr.inr.inr.inr.inr.inr.inr.inr.inr.inr.inr.inr.inr.inr=>omega
 all_goals simp only[aN,aR,kG,Pr]
 all_goals with_reducible repeat' first|(refine OS.ok ?_;constructor)|refine IM.mk λ_=>?_
 all_goals try simp only[aj,ol] at*
 all_goals first|omega|exact rw_ ⟨by decide,by decide⟩|(simp only[*,Bool.not_false,dK];done)
set_option maxHeartbeats 4000000 in
theorem OB {n:Nat} (w:WT) (s:SY) (hs:SB n s) (hw:w.2.2.1.length<=1000) (t k o:Int) (he:EN w s t k o) (hr:FL w s t k o):iA (w,s,t,k,o)=Z M:=by
 refine b6 ?_;obtain⟨nm,t0,t1,cd,e1,e2,e3⟩:=id he;unfold iA aX bh bm bp cI cD bg iT bJ aY aB;refine aU (λx=>x=(aa,w,s)) ?_ ?_
 .refine aS (FN w s hw cd e1 e2 e3) ?_;refine fw ?_;simp only[Pr,R6];refine bY (λg=>(g ⟨t0,t1⟩).elim) λ_=>?_
  refine aS (SE w k o nm) (ai rfl)
 rintro x rfl;refine fw ?_;obtain⟨_,_,ce,lk,cn,th,fu,_,_,_⟩:=nm;have hm:16<=k/\k<=19->0<=(aH (T:=pL) w.2.2.1 o).2/\(aH (T:=pL) w.2.2.1 o).2<w.2.1.length:=λh=>cd _ (bG (cn h).1 (cn h).2)
 have hH:6<=k/\k<=11->oq ((aH (T:=tf) s.1 o).2,t)=Z ((aH (T:=tf) s.1 o).2.contains t):=λh=>Kc _ _ (by
  have:=hs.rd _ (bG (T:=tf) (lk h).1 (by have:=(lk h).2;omega));have:=hs.n1;omega)
 rcases @yk k with rfl|rfl|rfl|rfl|rfl|rfl|rfl|rfl|rfl|rfl|rfl|rfl|rfl|rfl|rfl|rfl|rfl|rfl|rfl|rfl|rfl|rfl|rfl|⟨hk,hk2⟩
 case inr.inr.inr.inr.inr.inr.inr.inr.inr.inr.inr.inr.inr.inr.inr.inr.inr.inr.inr.inr.inr.inr.inr=>omega
 all_goals simp only[aN,aR,kG]
 all_goals with_reducible repeat' first|(refine OS.ok ?_;constructor)|refine IM.mk λ_=>?_
 all_goals try simp only[hH (by omega),R6]
 all_goals with_reducible repeat' first|(refine OS.ok ?_;constructor)|refine IM.mk λ_=>?_
 all_goals try simp only[aj,ol] at*
 all_goals first|omega|exact (hm ⟨by decide,by decide⟩).1|(rw [e1];exact (hm ⟨by decide,by decide⟩).2)|skip
 all_goals first|exact hr.b (by decide)|exact hr.aq (by decide)|exact hr.rl (by decide)|exact hr.rr (by decide)|(rw [hr.ra (by decide)];rfl)|(have:=hr.wr (by decide);omega)|exact hr.xb (by decide)|exact hr.xe (by decide)|(rw [hr.ab (by decide)];rfl)|exact hr.ae (by decide)|exact hr.nt (by decide)|exact (hr.sp (by decide)).2|exact (hr.jo (by decide)).2|(rw [hr.se (by decide)];rfl)|exact hr.ge (by decide)|exact (hr.wk (by decide)).2.2|(exfalso;first|(have:=hr.r (by decide) (by decide);contradiction)|(have:=hr.aq (by decide);contradiction)|(have:=(hr.wk (by decide)).1;contradiction)|(have:=(hr.wk (by decide)).2.1;contradiction)|(have:=(hr.sp (by decide)).1;contradiction)|(have:=(hr.jo (by decide)).1;contradiction))|skip
theorem RM (w:WT) (s:SN) (q:w.2.2.1.length<=1000) (t k o:Int) (he:EN w s.1 t k o) (hf:RN w s):qP (w,s)=Z M:=by
 refine b6 ?_;unfold qP aX bh bm cI bg aY aB;refine aU (λx=>x=M) ?_ λx d=>ai d
 refine aS (FN w s.1 q he.cd he.e1 he.e2 he.e3) (ux ?_);have:=hf.c;have:=hf.f;have:=hf.k;refine aE (λ_=>aE (λ_=>ai ?_) λg=>(g ?_).elim) λg=>(g ?_).elim
 .dsimp only[aj];simp;omega
 .dsimp only[aj];omega
 .dsimp only[aj];omega
theorem ZQ:∀{l:η},xR l->∀k:Nat,k+1<l.length->l.getD k 0<l.getD (k+1) 0
 |[],_,k,h=>by simp at h
 |[x],_,k,h=>by simp at h
 |x::y::r,h,0,_=>h.1 y (ep ..)
 |x::y::r,h,k+1,hk=>by have:=ZQ h.2 k (by simpa using hk);simpa using this
theorem BZ (l:η) (c:Int) (hl:l.length<=1000000000) (h:AN c l):kj (l,c)=Z M:=by
 refine b6 ?_;unfold kj bA ji bJ aY cM aB cw;refine b9 l.length (λi x=>x=(i:Int)) ?_ ?_ rfl
 .rintro i x hi rfl;have hm:=h.m _ (bG (T:=.int .i64) (xs:=l) (j:=(i:Int)) (by omega) (by omega));have q:0<(i:Int)->ba .i64 ((i:Int)-1)=((i-1:Nat):Int):=λh=>by rw[gI (by omega) (by omega)];omega
  refine ic (aU (λx=>x=aa) ?_ ?_)
  .refine dW (aV (aQ (λg=>dR g (by dsimp only;omega)) λ_=>dW (aV (dV (λg=>dR g (by dsimp only;omega)) λ_=>aQ (λg=>?_) λ_=>ai rfl))));have g:0<(i:Int):=g;refine dW (aV ?_);dsimp only;rw[q g];refine aK (by omega) (by omega) (aV (ai ?_));have d:=ZQ h.a (i-1) (by omega);rw[show i-1+1=i by omega]at d;rw[DX,DX];exact ko.2 d
  rintro x rfl;exact fw (ai (fo (by omega)))
 .rintro x rfl;exact gP (ai rfl)
theorem Se {n:Nat} (w:WT) (s:SN) (hs:NB n s) (hf:RN w s) (e:ET) (he:EN w s.1 e.1 e.2.1 e.2.2.1) (hv:VA w s.1 s.2.1 s.2.2.1 e.1 e.2.1 e.2.2.1 e.2.2.2.1):pf (s,e)=Z M:=by
 refine b6 ?_;obtain⟨t,k,o,v,si,de,fr⟩:=e;obtain⟨s1,s2,s3,s4⟩:=s;obtain⟨nm,t0,t1,cd,e1,e2,e3⟩:=he;obtain⟨_,_,ce,lk,cn,th,fu,_,_,_⟩:=nm;obtain⟨f1,f2,f3⟩:=hf;obtain⟨v3,d,v5,vel⟩:=hv;have hth:=hs.sb.th;dsimp only at*
 unfold pf aX bh bm bT bp bg bA ji bJ aY aB;have hW:=J0 s1 o hth;have hWl:=pO s1.2.2.2 o s1.2.2.2.length;refine aE (λh=>?_) λn3=>?_
 .have h:k=3:=h;obtain⟨L,I⟩:=ce (.inl h);exact aK L (by rw[f1];exact I) (aV (ai (bl (v3 h))))
 refine aE (λh=>?_) λz=>?_
 .have h:k=23:=h;obtain⟨L,I⟩:=fu (.inr h);exact aK L (by rw[f2];exact I) (aV (ai (bl (d h))))
 refine aE (λh=>?_) λn5=>?_
 .have h:k=5:=h;exact fP (aE (λh2=>ai (ai rfl)) λh2=>ai (ai (bl ((v5 h).resolve_left h2))))
 refine aU (λx=>x.2=((s1,s2,s3,s4),t,k,o,v,si,de,fr)/\(x.1=aa->¬k=4/\¬k=22)) (aE (λh=>ai ⟨rfl,λg=>dR g (by dsimp only;rw[bl h];decide)⟩) λh=>ai ⟨rfl,λg=>⟨h,jF g⟩⟩) ?_;rintro⟨b,x⟩ ⟨e,hb⟩;dsimp only at e hb;subst e;refine aJ (λh=>ai rfl) λh=>?_
 obtain⟨n4,A⟩:=hb h;have val:=vel n3 z n5 n4 A;refine aE (λh=>?_) λF=>?_
 .have h:k=18:=h;subst h;rw[JW]at val;have hmem:¬(wl s1.2.2.2 o s1.2.2.2.length).length=0->0<=v/\v<s1.2.2.2.length/\(wl s1.2.2.2 o s1.2.2.2.length).contains v=M:=λg=>by
   rw[aM g]at val;dsimp only at val;unfold Di at val;rw[aM g]at val;by_cases c:(wl s1.2.2.2 o s1.2.2.2.length).contains v=M
   .have:=(xU (th:=s1.2.2.2) (c:=o)).1 (by simpa using c:v∈wl s1.2.2.2 o s1.2.2.2.length);exact⟨this.1,this.2.1,c⟩
   .exfalso;rw[aM c]at val;refine c ?_;rw[val];have hz:wl s1.2.2.2 o s1.2.2.2.length≠[]:=λq=>g (by rw[q];rfl)
    generalize wl s1.2.2.2 o s1.2.2.2.length=y at hz ⊢;cases y with
    |nil=>exact (hz rfl).elim
    |cons a r=>rw[show aH (T:=.int .i64) (a::r) 0=a from rfl];simp
  refine aS hW ?_;refine aE (λg=>ai ?_) λg=>?_
  .dsimp only[aj]at g;rw[aW (by omega)]at val;exact bl val
  .dsimp only[aj]at g;obtain⟨q0,q1,q2⟩:=hmem (by omega);refine fP (dV (λ_=>aQ (λ_=>?_) λq=>dR q (by dsimp only[aj];omega)) λq=>dR q (by dsimp only;omega));exact aS (Kc _ _ (by omega)) (ai (ai q2))
 refine aE (λh=>?_) λD=>?_
 .have h:k=19:=h;subst h;exact aS hW (ai (bl (by rw[Us]at val;exact val)))
 .rw[VF _ _ _ _ _ _ F D]at val;exact ai (bl val)
theorem Kd {l:Y ET} {e:ET} {t y:Int}:Bv (l++[e]) t y->Bv l t y\/(e.1=t/\sM e=M/\y=((fl l t).length:Int)):=by
 rintro⟨h0,h1⟩;rw[yA,ay]at h1;rcases bN y.toNat (fl l t).length with g|g
 .refine .inl ⟨h0,?_⟩;rw[bV g]at h1;rw[ay];exact h1
 .rw[ca g]at h1;by_cases he:e.1=t
  .rw[D5 he]at h1;have d:y.toNat-(fl l t).length=0:=by
    rcases rq (y.toNat-(fl l t).length) with q|q
    .exact q
    .rw[bK (by rw[c9];omega)]at h1;cases h1
   rw[d]at h1;exact .inr ⟨he,by simpa using h1,by omega⟩
  .rw[yz he]at h1;simp at h1
theorem HA (l:Y ET) (i t:Int) (ns:η) (hl:l.length<=1000000000) (hi:0<=i/\i<=l.length) (hn:ns.length<=1000000000) (h:∀y∈ns,Bv (l.take i.toNat) t y):mT (l,i,t,ns)=Z M:=by
 refine b6 ?_;unfold mT aX bp bg bA iT bJ aY cM aB cw;refine b9 ns.length (λk x=>x=(k:Int)) ?_ ?_ rfl
 .rintro k x hk rfl;have D:=h _ (bG (T:=.int .i64) (xs:=ns) (j:=(k:Int)) (by omega) (by omega));refine aQ (λs=>?_) λs=>(by dsimp only[aj]at s;omega)
  refine mB (λx=>(i-x.2.2).toNat) (λx=>0<=x.2.2/\x.2.2<=i/\x.1=((fl (l.take x.2.2.toNat) t).length:Int)/\(Bv (l.take x.2.2.toNat) t (aH (T:=.int .i64) ns (k:Int))->x.2.1=M)) ?_ ⟨by simp,hi.1,by simp[fl],λq=>by have:=q.2;simp[fl]at this⟩;rintro⟨a,b,(c:Int)⟩ ⟨A,L,F,hb⟩;dsimp only at A L F hb;subst F;obtain⟨c,rfl⟩:∃n:Nat,c=(n:Int):=⟨c.toNat,by omega⟩
  rw[cW]at hb;dsimp only;rw[cW];have hfl:=Co (l.take c) t;have htl:=gr c l;refine aQ (λd=>?_) λd=>?_
  .have d:(c:Int)<i:=d;have htk:l.take (c+1)=l.take c++[aH (T:=tE) l (c:Int)]:=pP (T:=tE) (by omega);refine aU (λy=>y.1=((fl (l.take (c+1)) t).length:Int)/\(Bv (l.take (c+1)) t (aH (T:=.int .i64) ns (k:Int))->y.2=M)) ?_ ?_
   .rw[htk,yA];refine aK A (by first|omega|(dsimp only;omega)) (aV ?_);refine bY (λhne=>ai ⟨by rw[yz hne];simp,λq=>(Kd q).elim hb λz=>(hne z.1).elim⟩) λhe=>?_
    have he:(aH (T:=tE) l (c:Int)).1=t:=he;refine aU (λy=>Bv (l.take c++[aH (T:=tE) l (c:Int)]) t (aH (T:=.int .i64) ns (k:Int))->y=M) ?_ λy D=>ai ⟨?_,D⟩
    .refine aJ (λq=>ai λ_=>rfl) λhbf=>?_
     have nb:¬Bv (l.take c) t (aH (T:=.int .i64) ns (k:Int)):=λq=>by have:=hb q;rw[this]at hbf;cases hbf
     refine aK (by omega) (by first|omega|(dsimp only;omega)) (aV ?_);refine aE (λ_=>?_) λhnn=>ai λq=>((Kd q).elim (λz=>(nb z).elim) λz=>(hnn z.2.2.symm).elim)
     refine aK A (by first|omega|(dsimp only;omega)) (aV ?_);refine aE (λ_=>ai λ_=>rfl) λI=>?_
     refine aK A (by first|omega|(dsimp only;omega)) (aV (ai λq=>?_));rcases Kd q with z|⟨_,z,_⟩
     .exact (nb z).elim
     .unfold sM at z;rw[bF I,Bool.false_or]at z;exact z
    .dsimp only;rw[D5 he,fo (by omega)];simp
   .rintro⟨p,q⟩ ⟨hp,hq⟩;refine ai ?_;dsimp only at hp hq ⊢;rw[fo (by omega),cW];exact⟨⟨by omega,by omega,hp,hq⟩,by omega⟩
  .have d:i<=(c:Int):=d;have hci:c=i.toNat:=by omega
   rw[hci]at hb;refine ar (P:=λr=>r=pM (((k+1:Nat):Int))) ?_ λr hr=>by subst hr;exact ai rfl
   refine cV (λq=>?_) λ_=>ai (by rw[fo (by omega)])
   have:=hb D;rw[this]at q;cases q
 .rintro x rfl;refine aQ (λs=>(by dsimp only[aj]at s;omega)) λ_=>ai rfl
theorem RB {n:Nat} (w:WT) (s:SN) (hs:NB n s) (hw:w.2.2.1.length<=1000) (e:ET) (hcb:(aH (T:=.int .i64) s.2.2.2 e.1:Int)<=1000000) (hF:RN w s) (hE:EN w s.1 e.1 e.2.1 e.2.2.1) (z:X8 w s e):Ok (nD (w,s,e)) λy=>y.2=M:=by
 have hd:e.2.2.2.2.2.1.length<=1000000000:=by
  have D:(e.2.2.2.2.2.1.length:Int)<=max (0:Int) (aH (T:=.int .i64) s.2.2.2 e.1):=z.nd.len;have:=eT D (xg.2 ⟨by decide,hcb⟩);omega
 have hf:e.2.2.2.2.2.2.length<=1000000000:=by
  have D:(e.2.2.2.2.2.2.length:Int)<=max (0:Int) (aH (T:=.int .i64) s.2.2.2 e.1):=z.nf.len;have:=eT D (xg.2 ⟨by decide,hcb⟩);omega
 have hEn:=OB w s.1 hs.sb hw e.1 e.2.1 e.2.2.1 hE z.rd;obtain⟨nm,t0,t1,cd,e1,e2,e3⟩:=id hE;obtain⟨k1,k2,ce,lk,cn,th,fu,_,_,_⟩:=nm;obtain⟨f1,f2,f3⟩:=id hF;unfold nD aX bh bm bT cX bp cI cD dC gd ck bg bA iT bt bJ kM aY cM aB cw;refine aU (λx=>x=(aa,w,s,e,0)) ?_ ?_
 .refine aS (RM w s hw _ _ _ hE hF) (fw ?_);simp only[abx,R6];refine bY (λg=>(g ⟨t0,t1⟩).elim) λ_=>aQ (λg=>dR g (Int.not_lt.2 k1)) λ_=>aQ (λg=>dR g (Int.not_lt.2 k2)) λ_=>aS hEn (ai rfl)
 rintro x rfl;refine fw (aU (λx=>x=(w,s,e,0)) ?_ ?_)
 .refine aU (λx=>x.2=(w,s,e,0)/\(x.1=M->e.2.1=1\/e.2.1=2)/\(x.1=aa->¬(e.2.1=1\/e.2.1=2))) ?_ ?_
  .refine aE (λh=>ai ⟨rfl,λ_=>.inl h,λh=>(by cases h)⟩) λh=>ai ⟨rfl,λh2=>.inr (bf h2),λh2=>?_⟩
   have:=jF h2;exact λD=>D.elim h this
  rintro⟨x1,x2⟩ ⟨d,I,F⟩;dsimp only at d I F;subst d;refine aJ (λhk=>?_) λhk=>?_
  .exact bY (λg=>(g (z.s1 (I hk))).elim) λ_=>ai rfl
  .obtain⟨q1,q2,q3⟩:=z.s2 (F hk);refine aU (λx=>x=(aa,w,s,e,0)) ?_ ?_
   .simp only[abx,R6];refine bY (λg=>(g ⟨q1,q2⟩).elim) λ_=>aK q1 q2 (aV (ai ?_))
    dsimp only;rw[q3];simp
   rintro x rfl;exact fw (ai rfl)
 rintro x rfl;refine aU (λx=>x.2=(w,s,e,0)/\(x.1=M->e.2.1=3\/e.2.1=4)/\(x.1=aa->¬(e.2.1=3\/e.2.1=4))) ?_ ?_
 .refine aE (λh=>ai ⟨rfl,λ_=>.inl h,λh=>(by cases h)⟩) λh=>ai ⟨rfl,λh2=>.inr (bf h2),λh2=>?_⟩
  have:=jF h2;exact λD=>D.elim h this
 rintro⟨x1,x2⟩ ⟨d,A,L⟩;dsimp only at d A L;subst d;refine aU (λx=>x=(aa,w,s,e,0)) ?_ ?_
 .refine aQ (λg=>bY (λn5=>?_) λ_=>ai rfl) λ_=>ai rfl
  have de:=(z.de (by dsimp only[aj]at g;omega)).resolve_left n5;refine aJ (λh=>?_) λh=>(L h de.1).elim
  refine aK (ce (A h)).1 (ce (A h)).2 (aV (ai ?_));have:=de.2;dsimp only;simp[this]
 rintro x rfl;refine fw (aU (λx=>x=(aa,w,s,e,0)) ?_ ?_)
 .refine aQ (λg=>bY (λn4=>ai ?_) λ_=>ai rfl) λ_=>ai rfl
  have fr:=(z.fr (by dsimp only[aj]at g;omega)).resolve_left n4;dsimp only;simp[fr]
 rintro x rfl;have hk:=hs.k;have hc:=hs.c;have hfu:=hs.f;refine fw (aU (λx=>x=(aa,w,s,e,0)) ?_ ?_)
 .refine aK t0 (by rw[f3];exact t1) (aV (aS (BZ _ _ hd z.nd) (fw ?_)));refine aK t0 (by rw[f3];exact t1) (aV (aS (BZ _ _ hf z.nf) (fw ?_)));exact aS (Se w s hs hF e hE z.va) (ai rfl)
 rintro x rfl;refine fw (aZ (by simp;omega) (by omega) (aZ (by simp;omega) (by omega) (aZ (by simp;omega) (by omega) ?_)));refine aU (λx=>x.2=(w,s,e,0,0,s.2.1,s.2.2.1,s.2.2.2)) ?_ ?_
 .exact aE (λ_=>ai rfl) λh=>ai rfl
 rintro⟨x1,x2⟩ d;dsimp only at d;subst d;refine ar (Kh w s.1 hs.sb hw e.1 e.2.1 e.2.2.1 x1) λy hy=>?_
 refine aU (λx=>x.1=e/\x.2.2.2.1.length=s.2.1.length/\x.2.2.2.2=(s.2.2.1,s.2.2.2)) ?_ ?_
 .refine aE (λh=>?_) λh=>ai ⟨rfl,rfl,rfl⟩
  have q:=ce (.inr h);refine aK q.1 (by dsimp only;omega) (aK q.1 (by dsimp only;omega) (ai ⟨rfl,?_,rfl⟩));dsimp only;rw[cu]
 rintro⟨x1,x2,x3,x4,x5,x6⟩ ⟨h1,h2,h4⟩;simp only[aC]at h1 h4;obtain⟨rfl,rfl⟩:=h4;subst h1;refine aU (λx=>x.1=x1/\x.2.2.2.2.2=s.2.2.2) ?_ ?_
 .refine aE (λh=>?_) λh=>ai ⟨rfl,rfl⟩
  have q:=fu (.inl h);exact aK q.1 (by dsimp only;omega) (aK q.1 (by dsimp only;omega) (ai ⟨rfl,rfl⟩))
 rintro⟨x1,x2,x3,x4,x5,x6⟩ ⟨h1,h6⟩;simp only at h1 h6;subst h1;subst h6;with_reducible repeat' first|(refine OS.ok ?_;constructor)|refine IM.mk λ_=>?_
 all_goals try simp only[aj,ol] at*
 all_goals first|omega|skip
theorem Xd (r:θ) (e:ET) (h1:∀y∈e.2.2.2.2.2.1,0<=y/\r.getD y.toNat aa=M) (h2:∀y∈e.2.2.2.2.2.2,0<=y/\r.getD y.toNat aa=M) (ld:e.2.2.2.2.2.1.length<=1000000) (d:e.2.2.2.2.2.2.length<=1000000):bU (r,e)=Z M:=by
 refine b6 ?_;unfold bU iI cX gd bA ji bt bJ aY cM aB cw;refine eB 2 (by omega) (λi x=>x=(i:Int)) ?_ ?_ rfl
 .rintro i x hi rfl;refine aQ (λ_=>?_) λg=>(by omega)
  refine cR (dv (by omega) (rA (by omega) (aV ?_)));have hr:∃l:η,aH (T:=.sl (.int .i64)) [e.2.2.2.2.2.1,e.2.2.2.2.2.2] (i:Int)=l/\(∀y∈l,0<=y/\r.getD y.toNat aa=M)/\l.length<=1000000:=by
   match i,hi with
   |0,_=>exact⟨_,rfl,h1,ld⟩
   |1,_=>exact⟨_,rfl,h2,d⟩
  obtain⟨l,q,hA,hl⟩:=hr;have er':aH (T:=.sl aL) [e.2.2.2.2.2.1,e.2.2.2.2.2.2] (i:Int)=l:=q;dsimp only at er' ⊢;rw[er'];refine eB l.length (by omega) (λj x=>x=(j:Int)) ?_ ?_ rfl
  .rintro j x hj rfl;refine ic ?_;have m:=hA _ (bG (T:=.int .i64) (xs:=l) (j:=(j:Int)) (by omega) (by omega));refine dW (aV (aU (λx=>x=aa) ?_ ?_))
   .revert m;generalize aH (T:=.int .i64) l (j:Int)=z;intro m;have s:z.toNat<r.length:=by
     rcases bN z.toNat r.length with g|g
     .exact g
     .have:=m.2;rw[ay,bK g]at this;cases this
    refine aQ (λg=>(by have:=m.1;omega)) λ_=>dV (λg=>(by have:=m.1;dsimp only[aj]at g;omega)) λ_=>aK m.1 (by have:=m.1;omega) (aV (ai ?_))
    have:aH (T:=.bool) r z=M:=m.2;show (!aH (T:=.bool) r z)=aa;rw[this];rfl
   rintro x rfl;exact fw (ai (fo (by omega)))
  .rintro x rfl;exact gP (ai (fo (by omega)))
 .rintro x rfl;exact aQ (λg=>(by omega)) λ_=>ai rfl
abbrev eN (l:Y ET) (i:Nat):ET:=aH (T:=tE) l (i:Int)
theorem IZ {l:Y ET} {i:Nat} (h:i<l.length):eN l i∈l:=bG (T:=tE) (by omega) (by omega)
theorem afi {l:Y ET} {e:ET} {i:Nat} (h:i<l.length):eN (l++[e]) i=eN l i:=by
 unfold eN;rw[P_,P_,ay,ay,bV h]
theorem ace (l:Y ET) (e:ET):eN (l++[e]) l.length=e:=by
 unfold eN;rw[P_,ay,ca (cN _),y_];rfl
def acS (w:WT) (l:Y ET):SY×η×η:=l.foldl (λs e=>((vY w s.1 e.1 e.2.1 e.2.2.1 e.2.2.2.1).1,ZF s.2.1 e,fuP s.2.2 e)) (KA w,ce0 w,fu0 w)
theorem Hn.all {w:WT} {l:Y ET} {sy:SY} {ce fu:η} (h:Hn w l sy ce fu):acS w l=(sy,ce,fu)/\∀i,i<l.length->R8 w (l.take i) (acS w (l.take i)).1 (acS w (l.take i)).2.1 (acS w (l.take i)).2.2 (eN l i):=by
 induction h with
 |nil=>exact⟨rfl,λi hi=>dR hi (wj _)⟩
 |snoc h hs d=>
  rename_i l sy ce fu e;obtain⟨h1,h2⟩:=d;refine ⟨by unfold acS at h1 ⊢;rw[jU,h1];rfl,λi hi=>?_⟩;rw[b7,c9]at hi;rcases bN i l.length with g|g
  .rw[li (by omega),afi g];exact h2 i g
  .have:i=l.length:=by omega
   subst this;rw[li (cN _),bS,ace,h1];exact hs
def Q8 (r:η):Prop:=xR r/\∀z∈r,0<=z/\z<4
def P8 (s:Y (Int×η)):Prop:=∀x∈s,Q8 x.2
theorem P8.get {s:Y (Int×η)} (h:P8 s) (o:Int):Q8 (aH (T:=tf) s o).2:=by
 unfold aH;rw[ay];cases e:s[o.toNat]? with
 |none=>exact⟨trivial,λz d=>by cases d⟩
 |some x=>exact h x (bi e)
theorem P8.set {s:Y (Int×η)} (h:P8 s) (o a:Int) {r:η} (hr:Q8 r):P8 (ct s o (a,r)):=λx d=>by
 rcases xX d with d|rfl
 .exact h x d
 .exact hr
theorem Br (p:Int->Bool):∀{l:η},xR l->xR (l.filter p)
 |[],_=>trivial
 |x::r,h=>by
  rw[List.filter_cons];split
  .exact⟨λy d=>h.1 y ((Ez.1 d).1),Br p h.2⟩
  .exact Br p h.2
theorem P8.ite {c:Prop} [Decidable c] {a b:SY×Int} (d:P8 a.1.1) (hb:P8 b.1.1):P8 (if c then a else b).1.1:=by by_cases h:c<;>simp[h,d,hb]
theorem P8.ap {w:WT} {s:SY} (h:P8 s.1) {t:Int} (k o v:Int) (t0:0<=t) (A:t<4):P8 (vY w s t k o v).1.1:=by
 have ow:∀a b,P8 (owP s.1 a b):=λa b=>h.set a b (h.get a)
 have un:P8 (rdP s.1 o (qC (aH (T:=tf) s.1 o).2 [t])):=h.set _ _ ⟨OM _ _,λz d=>by
  rcases OL.1 d with d|d
  .exact (h.get o).2 z d
  .rw[aI]at d;subst d;exact⟨t0,A⟩⟩
 have q:P8 (rdP s.1 o (wo (aH (T:=tf) s.1 o).2 t)):=h.set _ _ ⟨Br _ (h.get o).1,λz d=>(h.get o).2 z (Ez.1 d).1⟩;unfold vY;exact P8.ite h (P8.ite h (P8.ite (ow _ _) (P8.ite (ow _ _) (P8.ite un (P8.ite q (P8.ite h (P8.ite h (P8.ite h (P8.ite h (P8.ite (ow _ _) (P8.ite (ow _ _) (P8.ite (P8.ite h h) (P8.ite h (P8.ite h (P8.ite h h)))))))))))))))
def fZ (w:WT) (l:Y ET):SN:=l.foldl (R7 w) (sn8 w)
theorem LR (w:WT) (l:Y ET) (e:ET):fZ w (l++[e])=R7 w (fZ w l) e:=by unfold fZ;rw[jU];rfl
structure KGs (w:WT) (l:List ET) (sy:SY) (ce fu:η) (s:SN):Prop where
 a:s.1=sy/\s.2.1=ce/\s.2.2.1=fu
 r:P8 s.1.1
 lk:s.1.1.length=w.2.1.length
 d:s.1.2.2.1.length=w.2.2.2.1.length
 h:s.1.2.2.2.length=w.2.2.2.2.1.length
 c:s.2.1.length=w.1.length
 f:s.2.2.1.length=w.2.2.2.1.length
 k:s.2.2.2.length=w.2.2.2.2.1.length
 n:CN l s.2.2.2
theorem ZS (w:WT) (s:SY) (t k o v:Int):(vY w s t k o v).1.1.length=s.1.length/\(vY w s t k o v).1.2.2.1.length=s.2.2.1.length/\(vY w s t k o v).1.2.2.2.length=s.2.2.2.length:=by
 have st:∀(th:Y (Int×Int×Bool)) (a b:Int),(Kv th a b).length=th.length:=λth a b=>by unfold Kv;exact cu _ _ _
 have d:∀(l:η) (th:Y (Int×Int×Bool)),(OE th l).length=th.length:=by
  intro l;induction l with
  |nil=>intro th;rfl
  |cons x r q=>intro th;show (OE (Kv th x 4) r).length=_;rw[q,st]
 have ite:∀{c:Prop} [Decidable c] {a b:SY×Int},(a.1.1.length=s.1.length/\a.1.2.2.1.length=s.2.2.1.length/\a.1.2.2.2.length=s.2.2.2.length)->(b.1.1.length=s.1.length/\b.1.2.2.1.length=s.2.2.1.length/\b.1.2.2.2.length=s.2.2.2.length)->((if c then a else b).1.1.length=s.1.length/\(if c then a else b).1.2.2.1.length=s.2.2.1.length/\(if c then a else b).1.2.2.2.length=s.2.2.2.length):=λ{c} _ {a b} z hb=>by by_cases h:c<;>simp only[h,bH,dx]<;>assumption
 unfold vY;repeat (first|refine ite ?_ ?_|(refine ⟨?_,?_,?_⟩<;>simp only[st,d,owP,rdP,cdP,atP,cu]))
theorem Hn.kg {w:WT} (vl:VL w):∀{l:Y ET} {sy:SY} {ce fu:η},Hn w l sy ce fu->l.length<=400->KGs w l sy ce fu (fZ w l):=by
 intro l sy ce fu h;induction h with
 |nil=>
  intro _;have tl:(KA w).2.2.2.length=w.2.2.2.2.1.length:=M2 _;refine ⟨⟨rfl,rfl,rfl⟩,λx s=>?_,by simp[fZ,KA],by simp[fZ,KA],tl,by simp[fZ,ce0],by simp[fZ,fu0],by simp[fZ],λt t0 t1=>?_⟩
  .rw[wh s];exact⟨trivial,λz q=>by cases q⟩
  .have:(aA w.2.2.2.2.1.length (0:Int)).getD t.toNat 0=0:=by rw[ay,lB];split<;>rfl
   exact this
 |@snoc l sy ce fu e h hs d=>
  intro hl;rw[b7]at hl;obtain⟨⟨a1,a2,a3⟩,r,q1,q2,q3,c,f,k,n⟩:=d (by omega);have ht:=vl.t;have en:=hs.en;have e1:=en.t1;obtain⟨b1,D,A⟩:=ZS w (fZ w l).1 e.1 e.2.1 e.2.2.1 e.2.2.2.1;rw[LR];refine ⟨⟨by unfold R7;rw[a1],by unfold R7;rw[a2],by unfold R7;rw[a3]⟩,r.ap _ _ _ en.t0 (by omega),b1.trans q1,D.trans q2,A.trans q3,?_,?_,?_,?_⟩
  .unfold R7 ZF;dsimp only;split
   .rw[cu];exact c
   .exact c
  .unfold R7 fuP;dsimp only;split
   .rw[cu];exact f
   .exact f
  .unfold R7;rw[cu];exact k
  .exact n.next e en.t0 (by rw[k];exact e1) (by omega)
theorem KGs.nb {w:WT} {l:Y ET} {sy:SY} {ce fu:η} {s:SN} (h:KGs w l sy ce fu s) (vl:VL w):NB 4 s:=by
 obtain⟨_,r,q1,q2,q3,c,f,k,_⟩:=h;have:=vl.c;have:=vl.l;have:=vl.f;have:=vl.t;refine ⟨⟨by omega,by omega,λx d=>?_,by omega,by omega⟩,by omega,by omega,by omega⟩;have:=Hj x.2 0 4 (r x d).1 (r x d).2;omega
theorem KGs.f16 {w:WT} {l:Y ET} {sy:SY} {ce fu:η} {s:SN} (h:KGs w l sy ce fu s):RN w s:=⟨h.c,h.f,h.k⟩
theorem KGs.cb {w:WT} {l:Y ET} {sy:SY} {ce fu:η} {s:SN} (h:KGs w l sy ce fu s) (hl:l.length<=400) (t:Int):(aH (T:=.int .i64) s.2.2.2 t:Int)<=1000:=eT (h.n.bd t) (by omega)
theorem R8.s16 {w:WT} {l:Y ET} {sy:SY} {ce fu:η} {s:SN} {e:ET} (g:KGs w l sy ce fu s) (h:R8 w l sy ce fu e):X8 w s e:=by
 obtain⟨⟨a1,a2,a3⟩,_,_,_,_,_,_,k,n⟩:=g;have d:=n e.1 h.en.t0 (by rw[k];exact h.en.t1);exact⟨by rw[a1];exact h.rd,h.s1,h.s2,h.de,h.fr,by rw[d];exact h.nd,by rw[d];exact h.nf,by rw[a1,a2,a3];exact h.va⟩
theorem X8.scx {w:WT} {l:Y ET} {sy:SY} {ce fu:η} {s:SN} {e:ET} (g:KGs w l sy ce fu s) (en:EN w s.1 e.1 e.2.1 e.2.2.1) (h:X8 w s e) (r1:∀y∈e.2.2.2.2.2.1,Bv l e.1 y) (r2:∀y∈e.2.2.2.2.2.2,Bv l e.1 y):R8 w l sy ce fu e:=by
 obtain⟨⟨a1,a2,a3⟩,_,_,_,_,_,_,k,n⟩:=g;have d:=n e.1 en.t0 (by rw[k];exact en.t1);exact⟨by rw[<- a1];exact en,by rw[<- a1];exact h.rd,h.s1,h.s2,h.de,h.fr,by rw[<- d];exact h.nd,by rw[<- d];exact h.nf,r1,r2,by rw[<- a1,<-a2,<-a3];exact h.va⟩
structure vi (y:WT×List ET):Prop where
 vw:Kq y.1
 len:y.2.length<=400
 ac:∃sy ce fu,Hn y.1 y.2 sy ce fu
theorem vi.vl {y:WT×Y ET} (h:vi y):VL y.1:=h.vw.v
theorem vi.wb {y:WT×Y ET} (h:vi y):WB y.1:=h.vw.v.wb
theorem vi.sc {w:WT} {l:Y ET} (d:vi (w,l)) {i:Nat} (h:i<l.length):R8 w (l.take i) (acS w (l.take i)).1 (acS w (l.take i)).2.1 (acS w (l.take i)).2.2 (eN l i):=by
 obtain⟨sy,ce,fu,q⟩:=d.ac;exact q.all.2 i h
theorem YR {l:Y ET} {e:ET} (h:e∈l):∃i,i<l.length/\eN l i=e:=by
 obtain⟨i,hi,he⟩:=ve h;refine ⟨i,hi,?_⟩;show aH (T:=tE) l (i:Int)=e;rw[P_,ay,aw hi];exact he
theorem vi.ev {y:WT×Y ET} (h:vi y):∀e∈y.2,X9 y.1 e:=λe he=>by
 obtain⟨w,l⟩:=y;obtain⟨i,hi,rfl⟩:=YR he;have en:=(h.sc hi).en;exact⟨en.nm,en.t0,en.t1,en.cd⟩
theorem vi.ls {y:WT×Y ET} (h:vi y):∀e∈y.2,UI e:=λe he=>by
 obtain⟨w,l⟩:=y;obtain⟨i,hi,rfl⟩:=YR he;have sc:=h.sc hi;have hl:l.length<=400:=h.len;have h1:=sc.nd.len;have h2:=sc.nf.len;have q:=Co (l.take i) (eN l i).1;have d:=gr i l;dsimp only at hi ⊢;exact⟨by omega,by omega⟩
theorem Hn.det {w:WT} {l:Y ET} {sy:SY} {ce fu:η} (h:Hn w l sy ce fu) {i:Nat} (hi:i<l.length) {sy':SY} {ce' fu':η} (h':Hn w (l.take i) sy' ce' fu'):R8 w (l.take i) sy' ce' fu' (eN l i):=by
 have h1:=h.all.2 i hi;rw[h'.all.1]at h1;exact h1
theorem vi.no {w:WT} {l:Y ET} {i:Nat} (hi:i<l.length) {sy:SY} {ce fu:η} (d:Hn w (l.take i) sy ce fu) (h:¬R8 w (l.take i) sy ce fu (eN l i)):¬vi (w,l):=λg=>by
 obtain⟨_,_,_,g⟩:=g.ac;exact h (g.det hi d)
abbrev fN (l:Y ET) (i:Nat) (t:Int):θ:=fl (l.take i) t
theorem NH {l:Y ET} {i:Nat} (h:i<l.length) {t:Int} (e:(eN l i).1=t):fN l (i+1) t=fN l i t++[sM (eN l i)]:=by
 unfold fN;rw[pP (T:=tE) h,yA,D5 e]
theorem NI {l:Y ET} {i:Nat} (h:i<l.length) {t:Int} (e:¬(eN l i).1=t):fN l (i+1) t=fN l i t:=by
 unfold fN;rw[pP (T:=tE) h,yA,yz e,oe]
theorem NJ (l:Y ET) (i:Nat) (t:Int):(fN l i t).length<=l.length:=cY (Co _ _) (List.length_take_le' ..)
theorem LQ (w:WT) {l:Y ET} {i:Nat} (h:i<l.length):fZ w (l.take (i+1))=R7 w (fZ w (l.take i)) (eN l i):=by
 rw[pP (T:=tE) h];exact LR w _ _
theorem Hn.take {w:WT} {l:Y ET} {i:Nat} (hi:i<l.length) {sy:SY} {ce fu:η} (d:Hn w (l.take i) sy ce fu) (hs:R8 w (l.take i) sy ce fu (eN l i)):∃sy ce fu,Hn w (l.take (i+1)) sy ce fu:=by
 rw[pP (T:=tE) hi];exact⟨_,_,_,d.snoc hs⟩
theorem UR {w:WT} {l:Y ET} (vl:VL w) (hl:l.length<=400) {i:Nat} (hi:i<l.length) {sy:SY} {ce fu:η} (q:Hn w (l.take i) sy ce fu) (hs:R8 w (l.take i) sy ce fu (eN l i)):dT (w,fZ w (l.take i),eN l i)=Z (fZ w (l.take (i+1)),M)/\∀t:Int,(eN l i).1=t->bU (fN l i t,eN l i)=Z M:=by
 have htk:=gr i l;have g:=q.kg vl (by omega);have ht:=vl.t;have e1:=hs.en.t1;have h2:=vl.l;have F:=vl.d;have D:=g.lk;refine ⟨?_,λt e=>?_⟩
 .rw[LQ w hi];exact Z3 w _ _ (g.nb vl) (by omega) (by omega) g.f16 (by rw[g.a.1];exact hs.en) (hs.s16 g) (g.cb (by omega) _) (by omega) g.r (by omega)
 .subst e;have A:=hs.nd.len;have z:=hs.nf.len;have s:=Co (l.take i) (eN l i).1;exact Xd _ _ hs.rd1 hs.rd2 (by omega) (by omega)
theorem US {w:WT} {l:Y ET} (vl:VL w) (hl:l.length<=400) {i:Nat} (hi:i<l.length) {sy:SY} {ce fu:η} (D:Hn w (l.take i) sy ce fu) (hs:¬R8 w (l.take i) sy ce fu (eN l i)):Ok (dT (w,fZ w (l.take i),eN l i)) λy=>y.2=M->(0<=(eN l i).1/\(eN l i).1<w.2.2.2.2.1.length)/\∀t:Int,(eN l i).1=t->Ok (bU (fN l i t,eN l i)) λb=>b=aa:=by
 have htk:=gr i l;have g:=D.kg vl (by omega);have h2:=vl.l;have h3:=vl.d;have h4:=g.lk;refine (Z4 w _ _ (g.nb vl) (by omega) (by omega) (g.cb (by omega) _) (by omega) g.r vl.t).mono λy A h=>?_
 obtain⟨⟨F,q,s⟩,_⟩:=A h;refine ⟨⟨q.t0,q.t1⟩,λt e=>?_⟩;subst e;have z:=g.n (eN l i).1 q.t0 (by rw[g.k];exact q.t1);have h5:((eN l i).2.2.2.2.2.1.length:Int)<=max (0:Int) ((fl (l.take i) (eN l i).1).length:Int):=by have:=s.nd.len;rw[z]at this;exact this
 have L:((eN l i).2.2.2.2.2.2.length:Int)<=max (0:Int) ((fl (l.take i) (eN l i).1).length:Int):=by have:=s.nf.len;rw[z]at this;exact this
 have I:=Co (l.take i) (eN l i).1;refine (V5 _ _ (by omega) (by omega)).mono λb hb=>?_
 cases b with
 |false=>rfl
 |true=>
  obtain⟨r1,r2⟩:=hb rfl;exact (hs (s.scx g q r1 r2)).elim
theorem tY {w:WT} (h:Kq w):dw w=Z M:=by
 obtain⟨b,hb,hq⟩:=VWc w;rw[hb,hq.2 h]
theorem aah {w:WT} {l:Y ET} (vw:Kq w) (hl:l.length<=400) (hn:w.2.2.2.2.1.length=4):Ok (cS (w,l)) λy=>y.2=0↔vi (w,l):=by
 have vl:=vw.v;unfold cS gw aX bh bm bT cX gN bp dC gd lz bg bA bt bJ aY cM aB cw;refine jG (fD.2 (by dsimp only[aj];omega)) (aS (tY vw) (fw (aS (xa w vl) (a_ (by show (cO 0 (aT w.2.2.2.2.1.length)&&cO (aT w.2.2.2.2.1.length) (aT w.2.2.2.2.1.length)&&be (aO (aT w.2.2.2.2.1.length)) 24&&decide ((aT w.2.2.2.2.1.length:Int)=4))=M;rw[hn];rfl) ?_))));refine eB l.length (by omega) (λi x=>x=((i:Int),(w,l),fZ w (l.take i),fN l i 0,fN l i 1,fN l i 2,fN l i 3)/\∃sy ce fu,Hn w (l.take i) sy ce fu) ?_ ?_ ⟨rfl,_,_,_,.nil⟩
 .rintro i x hi ⟨rfl,sy,ce,fu,d⟩;have q:=λt=>NJ l i t
  have own:=λt=>NH hi (t:=t)
  have oth:=λt=>NI hi (t:=t)
  refine aQ (λ_=>?_) λg=>(by dsimp only[aj]at g;omega)
  refine aK (by dsimp only;omega) (by dsimp only;omega) (aV ?_);have hg:aH (T:=tE) l (i:Int)=eN l i:=rfl;dsimp only;rw[hg];by_cases hs:R8 w (l.take i) sy ce fu (eN l i)
  .obtain⟨st,rd⟩:=UR vl hl hi d hs;have hnx:=d.take hi hs;have e1:=hs.en.t1;have e0:=hs.en.t0;have ht:(eN l i).1=0\/(eN l i).1=1\/(eN l i).1=2\/(eN l i).1=3:=by omega
   clear hs hg;generalize eN l i=e at*
   refine aS st ?_;obtain⟨(t:Int),e⟩:=e;dsimp only at ht;rcases ht with rfl|rfl|rfl|rfl
   .refine aU (λx=>x=(aa,(w,l),fZ w (l.take i),(0,e),fZ w (l.take (i+1)),fN l i 0,fN l i 1,fN l i 2,fN l i 3)) ?_ ?_
    .simp only[aN,aR,kG];exact aS (rd 0 rfl) (ai rfl)
    rintro x rfl;refine fw (aU (λx=>x=((w,l),fZ w (l.take i),fZ w (l.take (i+1)),fN l (i+1) 0,fN l (i+1) 1,fN l (i+1) 2,fN l (i+1) 3)) ?_ ?_)
    .simp only[aN,aR,kG];rw[own 0 rfl,oth 1 (by show ¬(0:Int)=1;decide),oth 2 (by show ¬(0:Int)=2;decide),oth 3 (by show ¬(0:Int)=3;decide)];have:=q 0;refine aE (λh=>aZ (by simp;omega) (by omega) (ai ?_)) λh=>aZ (by simp;omega) (by omega) (ai ?_)
     .have:sM (0,e)=M:=by unfold sM;rw[bl h];rfl
      rw[this]
     .have:sM (0,e)=decide (e.1=23):=by unfold sM;rw[bF h];rfl
      rw[this]
    rintro x rfl;exact ai ⟨by rw[fo (by omega)],hnx⟩
   .refine aU (λx=>x=(aa,(w,l),fZ w (l.take i),(1,e),fZ w (l.take (i+1)),fN l i 0,fN l i 1,fN l i 2,fN l i 3)) ?_ ?_
    .simp only[aN,aR,kG];exact aS (rd 1 rfl) (ai rfl)
    rintro x rfl;refine fw (aU (λx=>x=((w,l),fZ w (l.take i),fZ w (l.take (i+1)),fN l (i+1) 0,fN l (i+1) 1,fN l (i+1) 2,fN l (i+1) 3)) ?_ ?_)
    .simp only[aN,aR,kG];rw[own 1 rfl,oth 0 (by show ¬(1:Int)=0;decide),oth 2 (by show ¬(1:Int)=2;decide),oth 3 (by show ¬(1:Int)=3;decide)];have:=q 1;refine aE (λh=>aZ (by simp;omega) (by omega) (ai ?_)) λh=>aZ (by simp;omega) (by omega) (ai ?_)
     .have:sM (1,e)=M:=by unfold sM;rw[bl h];rfl
      rw[this]
     .have:sM (1,e)=decide (e.1=23):=by unfold sM;rw[bF h];rfl
      rw[this]
    rintro x rfl;exact ai ⟨by rw[fo (by omega)],hnx⟩
   .refine aU (λx=>x=(aa,(w,l),fZ w (l.take i),(2,e),fZ w (l.take (i+1)),fN l i 0,fN l i 1,fN l i 2,fN l i 3)) ?_ ?_
    .simp only[aN,aR,kG];exact aS (rd 2 rfl) (ai rfl)
    rintro x rfl;refine fw (aU (λx=>x=((w,l),fZ w (l.take i),fZ w (l.take (i+1)),fN l (i+1) 0,fN l (i+1) 1,fN l (i+1) 2,fN l (i+1) 3)) ?_ ?_)
    .simp only[aN,aR,kG];rw[own 2 rfl,oth 0 (by show ¬(2:Int)=0;decide),oth 1 (by show ¬(2:Int)=1;decide),oth 3 (by show ¬(2:Int)=3;decide)];have:=q 2;refine aE (λh=>aZ (by simp;omega) (by omega) (ai ?_)) λh=>aZ (by simp;omega) (by omega) (ai ?_)
     .have:sM (2,e)=M:=by unfold sM;rw[bl h];rfl
      rw[this]
     .have:sM (2,e)=decide (e.1=23):=by unfold sM;rw[bF h];rfl
      rw[this]
    rintro x rfl;exact ai ⟨by rw[fo (by omega)],hnx⟩
   .refine aU (λx=>x=(aa,(w,l),fZ w (l.take i),(3,e),fZ w (l.take (i+1)),fN l i 0,fN l i 1,fN l i 2,fN l i 3)) ?_ ?_
    .simp only[aN,aR,kG];exact aS (rd 3 rfl) (ai rfl)
    rintro x rfl;refine fw (aU (λx=>x=((w,l),fZ w (l.take i),fZ w (l.take (i+1)),fN l (i+1) 0,fN l (i+1) 1,fN l (i+1) 2,fN l (i+1) 3)) ?_ ?_)
    .simp only[aN,aR,kG];rw[own 3 rfl,oth 0 (by show ¬(3:Int)=0;decide),oth 1 (by show ¬(3:Int)=1;decide),oth 2 (by show ¬(3:Int)=2;decide)];have:=q 3;refine aE (λh=>aZ (by simp;omega) (by omega) (ai ?_)) λh=>aZ (by simp;omega) (by omega) (ai ?_)
     .have:sM (3,e)=M:=by unfold sM;rw[bl h];rfl
      rw[this]
     .have:sM (3,e)=decide (e.1=23):=by unfold sM;rw[bF h];rfl
      rw[this]
    rintro x rfl;exact ai ⟨by rw[fo (by omega)],hnx⟩
  .have hno:=vi.no hi d hs;have hst:=US vl hl hi d hs;clear hs hg own oth;generalize eN l i=e at*
   refine ar hst λy s=>?_
   refine aU (λx=>x.1=M) ?_ ?_
   .refine aJ (λh=>?_) λ_=>ai rfl
    obtain⟨⟨e0,e1⟩,rd⟩:=s h;obtain⟨(t:Int),e⟩:=e;dsimp only at e0 e1;have ht:t=0\/t=1\/t=2\/t=3:=by omega
    rcases ht with rfl|rfl|rfl|rfl
    .simp only[aN,aR,kG];exact ar (rd 0 rfl) λb hb=>ai (by subst hb;rfl)
    .simp only[aN,aR,kG];exact ar (rd 1 rfl) λb hb=>ai (by subst hb;rfl)
    .simp only[aN,aR,kG];exact ar (rd 2 rfl) λb hb=>ai (by subst hb;rfl)
    .simp only[aN,aR,kG];exact ar (rd 3 rfl) λb hb=>ai (by subst hb;rfl)
   rintro⟨b,x⟩ hb;dsimp only at hb;subst hb;exact ux (ai ⟨λh=>(by cases h),λh=>(hno h).elim⟩)
 .rintro x ⟨rfl,d⟩;rw[bS]at d;exact aQ (λg=>(by dsimp only[aj]at g;omega)) λ_=>ai ⟨λ_=>⟨vw,hl,d⟩,λ_=>rfl⟩
theorem Ew {w:WT} {l:Y ET} (vw:Kq w) (hl:l.length<=400) (hn:¬w.2.2.2.2.1.length=4):cS (w,l)=U:=by
 unfold cS gw aX bh bm bT cX gN bp dC gd lz bg bA bt bJ aY cM aB cw;rw[show fE 400 (aT (ah (w,l).2))=aa from fD.2 (by dsimp only[aj];omega)];simp only[aN,aR,kG];rw[tY vw];simp only[aN,aR,kG];rw[xa w vw.v];simp only[aN,aR,kG];rw[show decide ((aT w.2.2.2.2.1.length:Int)=4)=aa from bF (by dsimp only[aj];omega),ub];rfl
theorem aai {w:WT} {l:Y ET} (vw:Kq w) (hl:l.length<=400) (hn:w.2.2.2.2.1.length=3):Ok (dH (w,l)) λy=>y.2=0↔vi (w,l):=by
 have vl:=vw.v;unfold dH jO aX bh bm bT cX bp cD dC gd bg bA bt bJ aY cM aB cw;refine jG (fD.2 (by dsimp only[aj];omega)) (aS (tY vw) (fw (aS (xa w vl) (a_ (by show (cO 0 (aT w.2.2.2.2.1.length)&&cO (aT w.2.2.2.2.1.length) (aT w.2.2.2.2.1.length)&&be (aO (aT w.2.2.2.2.1.length)) 24&&decide ((aT w.2.2.2.2.1.length:Int)=3))=M;rw[hn];rfl) ?_))));refine eB l.length (by omega) (λi x=>x=((i:Int),(w,l),fZ w (l.take i),fN l i 0,fN l i 1,fN l i 2)/\∃sy ce fu,Hn w (l.take i) sy ce fu) ?_ ?_ ⟨rfl,_,_,_,.nil⟩
 .rintro i x hi ⟨rfl,sy,ce,fu,d⟩;have q:=λt=>NJ l i t
  have own:=λt=>NH hi (t:=t)
  have oth:=λt=>NI hi (t:=t)
  refine aQ (λ_=>?_) λg=>(by dsimp only[aj]at g;omega)
  refine aK (by dsimp only;omega) (by dsimp only;omega) (aV ?_);have hg:aH (T:=tE) l (i:Int)=eN l i:=rfl;dsimp only;rw[hg];by_cases hs:R8 w (l.take i) sy ce fu (eN l i)
  .obtain⟨st,rd⟩:=UR vl hl hi d hs;have hnx:=d.take hi hs;have e1:=hs.en.t1;have e0:=hs.en.t0;have ht:(eN l i).1=0\/(eN l i).1=1\/(eN l i).1=2:=by omega
   clear hs hg;generalize eN l i=e at*
   refine aS st ?_;obtain⟨(t:Int),e⟩:=e;dsimp only at ht;rcases ht with rfl|rfl|rfl
   .refine aU (λx=>x=(aa,(w,l),fZ w (l.take i),(0,e),fZ w (l.take (i+1)),fN l i 0,fN l i 1,fN l i 2)) ?_ ?_
    .simp only[aN,aR,kG];exact aS (rd 0 rfl) (ai rfl)
    rintro x rfl;refine fw (aU (λx=>x=((w,l),fZ w (l.take i),fZ w (l.take (i+1)),fN l (i+1) 0,fN l (i+1) 1,fN l (i+1) 2)) ?_ ?_)
    .simp only[aN,aR,kG];rw[own 0 rfl,oth 1 (by show ¬(0:Int)=1;decide),oth 2 (by show ¬(0:Int)=2;decide)];have:=q 0;refine aE (λh=>aZ (by simp;omega) (by omega) (ai ?_)) λh=>aZ (by simp;omega) (by omega) (ai ?_)
     .have:sM (0,e)=M:=by unfold sM;rw[bl h];rfl
      rw[this]
     .have:sM (0,e)=decide (e.1=23):=by unfold sM;rw[bF h];rfl
      rw[this]
    rintro x rfl;exact ai ⟨by rw[fo (by omega)],hnx⟩
   .refine aU (λx=>x=(aa,(w,l),fZ w (l.take i),(1,e),fZ w (l.take (i+1)),fN l i 0,fN l i 1,fN l i 2)) ?_ ?_
    .simp only[aN,aR,kG];exact aS (rd 1 rfl) (ai rfl)
    rintro x rfl;refine fw (aU (λx=>x=((w,l),fZ w (l.take i),fZ w (l.take (i+1)),fN l (i+1) 0,fN l (i+1) 1,fN l (i+1) 2)) ?_ ?_)
    .simp only[aN,aR,kG];rw[own 1 rfl,oth 0 (by show ¬(1:Int)=0;decide),oth 2 (by show ¬(1:Int)=2;decide)];have:=q 1;refine aE (λh=>aZ (by simp;omega) (by omega) (ai ?_)) λh=>aZ (by simp;omega) (by omega) (ai ?_)
     .have:sM (1,e)=M:=by unfold sM;rw[bl h];rfl
      rw[this]
     .have:sM (1,e)=decide (e.1=23):=by unfold sM;rw[bF h];rfl
      rw[this]
    rintro x rfl;exact ai ⟨by rw[fo (by omega)],hnx⟩
   .refine aU (λx=>x=(aa,(w,l),fZ w (l.take i),(2,e),fZ w (l.take (i+1)),fN l i 0,fN l i 1,fN l i 2)) ?_ ?_
    .simp only[aN,aR,kG];exact aS (rd 2 rfl) (ai rfl)
    rintro x rfl;refine fw (aU (λx=>x=((w,l),fZ w (l.take i),fZ w (l.take (i+1)),fN l (i+1) 0,fN l (i+1) 1,fN l (i+1) 2)) ?_ ?_)
    .simp only[aN,aR,kG];rw[own 2 rfl,oth 0 (by show ¬(2:Int)=0;decide),oth 1 (by show ¬(2:Int)=1;decide)];have:=q 2;refine aE (λh=>aZ (by simp;omega) (by omega) (ai ?_)) λh=>aZ (by simp;omega) (by omega) (ai ?_)
     .have:sM (2,e)=M:=by unfold sM;rw[bl h];rfl
      rw[this]
     .have:sM (2,e)=decide (e.1=23):=by unfold sM;rw[bF h];rfl
      rw[this]
    rintro x rfl;exact ai ⟨by rw[fo (by omega)],hnx⟩
  .have hno:=vi.no hi d hs;have hst:=US vl hl hi d hs;clear hs hg own oth;generalize eN l i=e at*
   refine ar hst λy s=>?_
   refine aU (λx=>x.1=M) ?_ ?_
   .refine aJ (λh=>?_) λ_=>ai rfl
    obtain⟨⟨e0,e1⟩,rd⟩:=s h;obtain⟨(t:Int),e⟩:=e;dsimp only at e0 e1;have ht:t=0\/t=1\/t=2:=by omega
    rcases ht with rfl|rfl|rfl
    .simp only[aN,aR,kG];exact ar (rd 0 rfl) λb hb=>ai (by subst hb;rfl)
    .simp only[aN,aR,kG];exact ar (rd 1 rfl) λb hb=>ai (by subst hb;rfl)
    .simp only[aN,aR,kG];exact ar (rd 2 rfl) λb hb=>ai (by subst hb;rfl)
   rintro⟨b,x⟩ hb;dsimp only at hb;subst hb;exact ux (ai ⟨λh=>(by cases h),λh=>(hno h).elim⟩)
 .rintro x ⟨rfl,d⟩;rw[bS]at d;exact aQ (λg=>(by dsimp only[aj]at g;omega)) λ_=>ai ⟨λ_=>⟨vw,hl,d⟩,λ_=>rfl⟩
theorem MV {w:WT} {l:Y ET} (vw:Kq w) (hl:l.length<=400) (hn:¬w.2.2.2.2.1.length=3):dH (w,l)=U:=by
 unfold dH jO aX bh bm bT cX bp cD dC gd bg bA bt bJ aY cM aB cw;rw[show fE 400 (aT (ah (w,l).2))=aa from fD.2 (by dsimp only[aj];omega)];simp only[aN,aR,kG];rw[tY vw];simp only[aN,aR,kG];rw[xa w vw.v];simp only[aN,aR,kG];rw[show decide ((aT w.2.2.2.2.1.length:Int)=3)=aa from bF (by dsimp only[aj];omega),ub];rfl
theorem aaj {w:WT} {l:Y ET} (vw:Kq w) (hl:l.length<=400) (hn:w.2.2.2.2.1.length=2):Ok (dl (w,l)) λy=>y.2=0↔vi (w,l):=by
 have vl:=vw.v;unfold dl jP aX bh bm bT bp cI dC bg bA bt bJ aY cM aB cw;refine jG (fD.2 (by dsimp only[aj];omega)) (aS (tY vw) (fw (aS (xa w vl) (a_ (by show (cO 0 (aT w.2.2.2.2.1.length)&&cO (aT w.2.2.2.2.1.length) (aT w.2.2.2.2.1.length)&&be (aO (aT w.2.2.2.2.1.length)) 24&&decide ((aT w.2.2.2.2.1.length:Int)=2))=M;rw[hn];rfl) ?_))));refine eB l.length (by omega) (λi x=>x=((i:Int),(w,l),fZ w (l.take i),fN l i 0,fN l i 1)/\∃sy ce fu,Hn w (l.take i) sy ce fu) ?_ ?_ ⟨rfl,_,_,_,.nil⟩
 .rintro i x hi ⟨rfl,sy,ce,fu,d⟩;have q:=λt=>NJ l i t
  have own:=λt=>NH hi (t:=t)
  have oth:=λt=>NI hi (t:=t)
  refine aQ (λ_=>?_) λg=>(by dsimp only[aj]at g;omega)
  refine aK (by dsimp only;omega) (by dsimp only;omega) (aV ?_);have hg:aH (T:=tE) l (i:Int)=eN l i:=rfl;dsimp only;rw[hg];by_cases hs:R8 w (l.take i) sy ce fu (eN l i)
  .obtain⟨st,rd⟩:=UR vl hl hi d hs;have hnx:=d.take hi hs;have e1:=hs.en.t1;have e0:=hs.en.t0;have ht:(eN l i).1=0\/(eN l i).1=1:=by omega
   clear hs hg;generalize eN l i=e at*
   refine aS st ?_;obtain⟨(t:Int),e⟩:=e;dsimp only at ht;rcases ht with rfl|rfl
   .refine aU (λx=>x=(aa,(w,l),fZ w (l.take i),(0,e),fZ w (l.take (i+1)),fN l i 0,fN l i 1)) ?_ ?_
    .simp only[aN,aR,kG];exact aS (rd 0 rfl) (ai rfl)
    rintro x rfl;refine fw (aU (λx=>x=((w,l),fZ w (l.take i),fZ w (l.take (i+1)),fN l (i+1) 0,fN l (i+1) 1)) ?_ ?_)
    .simp only[aN,aR,kG];rw[own 0 rfl,oth 1 (by show ¬(0:Int)=1;decide)];have:=q 0;refine aE (λh=>aZ (by simp;omega) (by omega) (ai ?_)) λh=>aZ (by simp;omega) (by omega) (ai ?_)
     .have:sM (0,e)=M:=by unfold sM;rw[bl h];rfl
      rw[this]
     .have:sM (0,e)=decide (e.1=23):=by unfold sM;rw[bF h];rfl
      rw[this]
    rintro x rfl;exact ai ⟨by rw[fo (by omega)],hnx⟩
   .refine aU (λx=>x=(aa,(w,l),fZ w (l.take i),(1,e),fZ w (l.take (i+1)),fN l i 0,fN l i 1)) ?_ ?_
    .simp only[aN,aR,kG];exact aS (rd 1 rfl) (ai rfl)
    rintro x rfl;refine fw (aU (λx=>x=((w,l),fZ w (l.take i),fZ w (l.take (i+1)),fN l (i+1) 0,fN l (i+1) 1)) ?_ ?_)
    .simp only[aN,aR,kG];rw[own 1 rfl,oth 0 (by show ¬(1:Int)=0;decide)];have:=q 1;refine aE (λh=>aZ (by simp;omega) (by omega) (ai ?_)) λh=>aZ (by simp;omega) (by omega) (ai ?_)
     .have:sM (1,e)=M:=by unfold sM;rw[bl h];rfl
      rw[this]
     .have:sM (1,e)=decide (e.1=23):=by unfold sM;rw[bF h];rfl
      rw[this]
    rintro x rfl;exact ai ⟨by rw[fo (by omega)],hnx⟩
  .have hno:=vi.no hi d hs;have hst:=US vl hl hi d hs;clear hs hg own oth;generalize eN l i=e at*
   refine ar hst λy s=>?_
   refine aU (λx=>x.1=M) ?_ ?_
   .refine aJ (λh=>?_) λ_=>ai rfl
    obtain⟨⟨e0,e1⟩,rd⟩:=s h;obtain⟨(t:Int),e⟩:=e;dsimp only at e0 e1;have ht:t=0\/t=1:=by omega
    rcases ht with rfl|rfl
    .simp only[aN,aR,kG];exact ar (rd 0 rfl) λb hb=>ai (by subst hb;rfl)
    .simp only[aN,aR,kG];exact ar (rd 1 rfl) λb hb=>ai (by subst hb;rfl)
   rintro⟨b,x⟩ hb;dsimp only at hb;subst hb;exact ux (ai ⟨λh=>(by cases h),λh=>(hno h).elim⟩)
 .rintro x ⟨rfl,d⟩;rw[bS]at d;exact aQ (λg=>(by dsimp only[aj]at g;omega)) λ_=>ai ⟨λ_=>⟨vw,hl,d⟩,λ_=>rfl⟩
theorem XW {w:WT} {l:Y ET} (vw:Kq w) (hl:l.length<=400) (hn:¬w.2.2.2.2.1.length=2):dl (w,l)=U:=by
 unfold dl jP aX bh bm bT bp cI dC bg bA bt bJ aY cM aB cw;rw[show fE 400 (aT (ah (w,l).2))=aa from fD.2 (by dsimp only[aj];omega)];simp only[aN,aR,kG];rw[tY vw];simp only[aN,aR,kG];rw[xa w vw.v];simp only[aN,aR,kG];rw[show decide ((aT w.2.2.2.2.1.length:Int)=2)=aa from bF (by dsimp only[aj];omega),ub];rfl
theorem aak {w:WT} {l:Y ET} (vw:Kq w) (hl:l.length<=400) (hn:w.2.2.2.2.1.length=1):Ok (dZ (w,l)) λy=>y.2=0↔vi (w,l):=by
 have vl:=vw.v;unfold dZ lU aX bh bm bp cD bg bA bt bJ aY cM aB cw;refine jG (fD.2 (by dsimp only[aj];omega)) (aS (tY vw) (fw (aS (xa w vl) (a_ (by show (cO 0 (aT w.2.2.2.2.1.length)&&cO (aT w.2.2.2.2.1.length) (aT w.2.2.2.2.1.length)&&be (aO (aT w.2.2.2.2.1.length)) 24&&decide ((aT w.2.2.2.2.1.length:Int)=1))=M;rw[hn];rfl) ?_))));refine eB l.length (by omega) (λi x=>x=((i:Int),(w,l),fZ w (l.take i),fN l i 0)/\∃sy ce fu,Hn w (l.take i) sy ce fu) ?_ ?_ ⟨rfl,_,_,_,.nil⟩
 .rintro i x hi ⟨rfl,sy,ce,fu,d⟩;have s:=λt=>NJ l i t
  have own:=λt=>NH hi (t:=t)
  have oth:=λt=>NI hi (t:=t)
  refine aQ (λ_=>?_) λg=>(by dsimp only[aj]at g;omega)
  refine aK (by dsimp only;omega) (by dsimp only;omega) (aV ?_);have hg:aH (T:=tE) l (i:Int)=eN l i:=rfl;dsimp only;rw[hg];by_cases hs:R8 w (l.take i) sy ce fu (eN l i)
  .obtain⟨st,rd⟩:=UR vl hl hi d hs;have hnx:=d.take hi hs;have e1:=hs.en.t1;have e0:=hs.en.t0;have ht:(eN l i).1=0:=by omega
   clear hs hg;generalize eN l i=e at*
   refine aS st ?_;obtain⟨(t:Int),e⟩:=e;dsimp only at ht;subst ht
   .refine aU (λx=>x=(aa,(w,l),fZ w (l.take i),(0,e),fZ w (l.take (i+1)),fN l i 0)) ?_ ?_
    .simp only[aN,aR,kG];exact aS (rd 0 rfl) (ai rfl)
    rintro x rfl;refine fw (aU (λx=>x=((w,l),fZ w (l.take i),fZ w (l.take (i+1)),fN l (i+1) 0)) ?_ ?_)
    .simp only[aN,aR,kG];rw[own 0 rfl];have:=s 0;refine aE (λh=>aZ (by simp;omega) (by omega) (ai ?_)) λh=>aZ (by simp;omega) (by omega) (ai ?_)
     .have:sM (0,e)=M:=by unfold sM;rw[bl h];rfl
      rw[this]
     .have:sM (0,e)=decide (e.1=23):=by unfold sM;rw[bF h];rfl
      rw[this]
    rintro x rfl;exact ai ⟨by rw[fo (by omega)],hnx⟩
  .have hno:=vi.no hi d hs;have hst:=US vl hl hi d hs;clear hs hg own oth;generalize eN l i=e at*
   refine ar hst λy q=>?_
   refine aU (λx=>x.1=M) ?_ ?_
   .refine aJ (λh=>?_) λ_=>ai rfl
    obtain⟨⟨e0,e1⟩,rd⟩:=q h;obtain⟨(t:Int),e⟩:=e;dsimp only at e0 e1;have ht:t=0:=by omega
    subst ht
    .simp only[aN,aR,kG];exact ar (rd 0 rfl) λb hb=>ai (by subst hb;rfl)
   rintro⟨b,x⟩ hb;dsimp only at hb;subst hb;exact ux (ai ⟨λh=>(by cases h),λh=>(hno h).elim⟩)
 .rintro x ⟨rfl,d⟩;rw[bS]at d;exact aQ (λg=>(by dsimp only[aj]at g;omega)) λ_=>ai ⟨λ_=>⟨vw,hl,d⟩,λ_=>rfl⟩
theorem aal (w:WT) (l:Y ET):Ok (ki (w,l)) λy=>y.2=0↔vi (w,l):=by
 unfold ki;by_cases hl:l.length<=400
 .by_cases vw:Kq w
  .have h1:=vw.v.t0;have q:=vw.v.t;have:w.2.2.2.2.1.length=4\/w.2.2.2.2.1.length=3\/w.2.2.2.2.1.length=2\/w.2.2.2.2.1.length=1:=by omega
   rcases this with h|h|h|h
   .obtain⟨y,e,hq⟩:=aah vw hl h;rw[e];exact ai hq
   .obtain⟨y,e,hq⟩:=aai vw hl h;rw[Ew vw hl (by omega),e];exact ai hq
   .obtain⟨y,e,hq⟩:=aaj vw hl h;rw[Ew vw hl (by omega),MV vw hl (by omega),e];exact ai hq
   .obtain⟨y,e,hq⟩:=aak vw hl h;rw[Ew vw hl (by omega),MV vw hl (by omega),XW vw hl (by omega),e];exact ai hq
  .have:cS (w,l)=Z (0,1):=by
    obtain⟨b,hb,hq⟩:=VWc w;have d:b=aa:=by
     cases b with
     |false=>rfl
     |true=>exact (vw (hq.1 rfl)).elim
    refine b6 ?_;unfold cS gw aX bh bm bT cX gN bp dC gd lz bg bA bt bJ aY cM aB cw;exact jG (fD.2 (by dsimp only[aj];omega)) (aS hb (by rw[d];exact ux (ai rfl)))
   rw[this];exact ai ⟨λh=>(by cases h),λh=>(vw h.vw).elim⟩
 .have:cS (w,l)=Z (0,2):=by
   refine b6 ?_;unfold cS gw aX bh bm bT cX gN bp dC gd lz bg bA bt bJ aY cM aB cw;exact eW (lQ.2 (by dsimp only[aj];omega)) (ai rfl)
  rw[this];exact ai ⟨λh=>(by cases h),λh=>(hl h.len).elim⟩
theorem ahn {w:WT} {l:Y ET} (d:vi (w,l)):∃a,ki (w,l)=Z (a,0):=by
 obtain⟨⟨a,b⟩,e,hq⟩:=aal w l;have:b=0:=hq.2 d;subst this;exact⟨a,e⟩
theorem aam (w:WT) (l:Y ET):Ok (mV (w,l)) λy=>y.2=0↔vi (w,l):=by
 unfold mV bT bp dC bA bJ aY cM aB cw;refine aQ (λhl=>ai ⟨λh=>(by cases h),λh=>?_⟩) λhl=>?_
 .have:=h.len;dsimp only[aj]at hl this;omega
 dsimp only[aj]at hl;have hl:l.length<=400:=by omega
 refine ar (VW06 w) λb hb=>?_
 refine cV (λh=>ai ⟨λh=>(by cases h),λg=>?_⟩) λh=>?_
 .rw[hb.2 g.vw]at h;cases h
 have vw:=hb.1 h;have vl:=vw.v;have h3:=vl.d;refine aS (Bt w vl) ?_;refine b9 l.length (λi x=>x=((i:Int),(w,l),fZ w (l.take i))/\∃sy ce fu,Hn w (l.take i) sy ce fu) ?_ ?_ ⟨rfl,_,_,_,.nil⟩
 .rintro i x hi ⟨rfl,sy,ce,fu,s⟩;have htk:=gr i l;have g:=s.kg vl (by omega);have cb:=g.cb (by omega) (eN l i).1;refine aQ (λ_=>?_) λg=>(by dsimp only[aj]at g;omega)
  refine aK (by dsimp only;omega) (by dsimp only;omega) (aV ?_);have hg:aH (T:=tE) l (i:Int)=eN l i:=rfl;dsimp only;rw[hg];have hst:=zD w (fZ w (l.take i)) (g.nb vl) (by omega) (eN l i) (.inr (eT cb (by decide))) (.inr (eT cb (by decide)));by_cases hs:R8 w (l.take i) sy ce fu (eN l i)
  .have hE:EN w (fZ w (l.take i)).1 (eN l i).1 (eN l i).2.1 (eN l i).2.2.1:=by rw[g.a.1];exact hs.en
   have ht:=RB w (fZ w (l.take i)) (g.nb vl) (by omega) (eN l i) (eT cb (by decide)) g.f16 hE (hs.s16 g);have hnx:=s.take hi hs;have h5:=hs.nd.len;have h6:=hs.nf.len;have h7:=Co (l.take i) (eN l i).1;have r1:=HA l (i:Int) (eN l i).1 (eN l i).2.2.2.2.2.1 (by omega) ⟨by omega,by omega⟩ (by omega) hs.rd1;have r2:=HA l (i:Int) (eN l i).1 (eN l i).2.2.2.2.2.2 (by omega) ⟨by omega,by omega⟩ (by omega) hs.rd2;refine ar (hst.and ht) λy F=>?_
   obtain⟨I,A⟩:=F;have e:=(I.1 A).2.2.2;refine aU (λx=>x.1=aa/\x.2.1=(w,l)/\x.2.2.2=y.1) ?_ ?_
   .exact jG (by rw[A];rfl) (aS r1 (fw (aS r2 (ai ⟨rfl,rfl,rfl⟩))))
   .rintro⟨c,p,q,r⟩ ⟨f1,f2,f3⟩;dsimp only at f1 f2 f3;subst f1;subst f2;subst f3;exact fw (ai ⟨by rw[fo (by omega),e,LQ w hi],hnx⟩)
  .have hno:=vi.no hi s hs;refine ar hst λy F=>?_
   have key:∀b1 D:Bool,y.2=M->(b1=M->∀z∈(eN l i).2.2.2.2.2.1,Bv (l.take i) (eN l i).1 z)->(D=M->∀z∈(eN l i).2.2.2.2.2.2,Bv (l.take i) (eN l i).1 z)->b1=M->D=M->False:=λb1 D h h1 h2 g1 g2=>by
    obtain⟨q1,_,q3,_⟩:=F.1 h;exact hs (q3.scx g q1 (h1 g1) (h2 g2))
   refine aU (λx=>x.1=M) ?_ ?_
   .refine cV (λ_=>ai rfl) λh=>?_
    obtain⟨q1,_,q3,_⟩:=F.1 h;have h5:((eN l i).2.2.2.2.2.1.length:Int)<=max (0:Int) (aH (T:=.int .i64) (fZ w (l.take i)).2.2.2 (eN l i).1):=q3.nd.len;have h6:((eN l i).2.2.2.2.2.2.length:Int)<=max (0:Int) (aH (T:=.int .i64) (fZ w (l.take i)).2.2.2 (eN l i).1):=q3.nf.len;have h7:=eT h5 (xg.2 ⟨by decide,cb⟩);have h8:=eT h6 (xg.2 ⟨by decide,cb⟩);refine ar (BS l _ _ _ (by omega) ⟨by omega,by omega⟩ (by omega)) λb1 hr1=>?_
    refine cV (λ_=>ai rfl) λhb1=>?_
    refine ar (BS l _ _ _ (by omega) ⟨by omega,by omega⟩ (by omega)) λD L=>ai ?_
    cases D with
    |false=>rfl
    |true=>exact (key b1 M h hr1 L hb1 rfl).elim
   rintro⟨b,x⟩ hb;dsimp only at hb;subst hb;exact ux (ai ⟨λh=>(by cases h),λh=>(hno h).elim⟩)
 .rintro x ⟨rfl,s⟩;rw[bS]at s;exact aQ (λg=>(by dsimp only[aj]at g;omega)) λ_=>ai ⟨λ_=>⟨vw,hl,s⟩,λ_=>rfl⟩
def Pu (w:WT) (l:Y ET):HS:=l.foldl (λh e=>(OP w h (evP e)).1) (HS.zero w)
def wi (l:Y ET) (i:Nat):EV:=evP (eN l i)
def Lu (w:WT) (l:Y ET) (i:Nat):η:=JH w (Pu w (l.take i)) (wi l i)
theorem Ii (w:WT) {l:Y ET} {i:Nat} (h:i<l.length):Pu w (l.take (i+1))=ug w (Pu w (l.take i)) (wi l i) (Lu w l i):=by
 rw[pP (T:=tE) h];unfold Pu;rw[jU];rfl
theorem Nq {w:WT} {l:Y ET} (d:vi (w,l)):∀i:Nat,i<=l.length->UH (i:Int) (Pu w (l.take i))/\Fit w (Pu w (l.take i))
 |0,_=>by
  have wb:=d.wb;dsimp only at wb;exact⟨HS.zero_ok (by have:=wb.c;omega) (by have:=wb.l;omega) (by have:=wb.f;omega) (by have:=wb.t;omega),Fit.zero w⟩
 |i+1,h=>by
  obtain⟨o,q⟩:=Nq d i (by omega);have hl:=d.len;dsimp only at hl;have ok:=Zp (d.ev _ (IZ (l:=l) (i:=i) (by omega))) d.wb q;rw[Ii w (by omega)];exact⟨Yn (w:=w) (e:=wi l i) o (by omega) ok.th4,q.step (wi l i)⟩
theorem Ts {w:WT} {l:Y ET} (d:vi (w,l)) {i:Nat} (h:i<l.length):EOK w (Pu w (l.take i)) (wi l i):=Zp (d.ev _ (IZ h)) d.wb (Nq d i (by omega)).2
theorem ail {w:WT} {l:Y ET} (d:vi (w,l)) {i:Nat} (h:i<l.length):EvT (wi l i) (eN l i):=aik (d.ev _ (IZ h))
theorem afn {w:WT} {l:Y ET} (d:vi (w,l)) {i:Nat} (h:i<l.length):En ((i:Int)+1) (Lu w l i):=Ud (Nq d i (by omega)).1 (Ts d h).th4
def LE (a b:η):Prop:=a.length<=b.length/\∀k,a.getD k 0<=b.getD k 0
theorem LE.refl (a:η):LE a a:=⟨cN _,λ_=>fb _⟩
theorem LE.trans {a b c:η} (h:LE a b) (g:LE b c):LE a c:=⟨cY h.1 g.1,λk=>eT (h.2 k) (g.2 k)⟩
theorem LE.jl {a b:η} (h:LE a b):jl a b=b:=Wb (by rw[zp];have:=h.1;omega) λi=>by rw[DI,vG];have:=h.2 i;omega
theorem ajy (a b:η):LE a (jl a b):=⟨by rw[zp];omega,λk=>by rw[DI,vG];omega⟩
theorem LE_r (a b:η):LE b (jl a b):=⟨by rw[zp];omega,λk=>by rw[DI,vG];omega⟩
theorem aey (a:η) (t:Nat):LE a (tk a t):=⟨by rw[LN];omega,λk=>by rw[Hs];split<;>(try subst k)<;>omega⟩
theorem Ox:∀(l:Y η) (c:η),LE c (l.foldl jl c)
 |[],c=>LE.refl c
 |x::r,c=>(ajy c x).trans (Ox r _)
theorem aip (w:Dj) (h:HS) (e:EV):LE (h.T.getD e.th []) (JH w h e):=(Ox _ _).trans (aey _ _)
theorem P' {α:Type} (l:Y α) (i j:Nat) (x d:α):(l.set i x).getD j d=if i=j/\i<l.length then x else l.getD j d:=by
 rw[ay,oK];by_cases e:i=j
 .subst e;by_cases g:i<l.length
  .rw[aW rfl,aW g,aW ⟨rfl,g⟩];rfl
  .rw[aW rfl,aM g,aM λq=>g q.2,ay,bK (by omega)]
 .rw[aM e,aM λq=>e q.1,ay]
structure oG (P:η->Prop) (h:HS):Prop where
 T:∀u,P (h.T.getD u [])
 S:∀u,P (h.S.getD u [])
 L:∀u,P (h.L.getD u [])
 R:∀u,P (h.R.getD u [])
 C:∀u,P (h.C.getD u [])
 F:∀u,P (h.F.getD u [])
 X:P h.X
 N:∀u,P (h.N.getD u [])
theorem oG.mono {P Q:η->Prop} {h:HS} (a:oG P h) (g:∀x,P x->Q x):oG Q h:=⟨λu=>g _ (a.T u),λu=>g _ (a.S u),λu=>g _ (a.L u),λu=>g _ (a.R u),λu=>g _ (a.C u),λu=>g _ (a.F u),g _ a.X,λu=>g _ (a.N u)⟩
theorem oG.set {P:η->Prop} {l:Y η} {c:η} (h:∀u,P (l.getD u [])) (hc:P c) (i:Nat):∀u,P ((l.set i c).getD u []):=λu=>by
 rw[P'];split
 .exact hc
 .exact h u
theorem oG.repl {P:η->Prop} (h:P []) (n:Nat):∀u,P ((aA n []).getD u []):=λu=>by
 rw[ay,lB];split<;>exact h
theorem oG.zero {P:η->Prop} (h:P []) (w:Dj):oG P (HS.zero w):=⟨oG.repl h _,oG.repl h _,oG.repl h _,oG.repl h _,oG.repl h _,oG.repl h _,h,oG.repl h _⟩
theorem oG.step {P:η->Prop} (hj:∀a b,P a->P b->P (jl a b)) {w:Dj} {h:HS} (a:oG P h) (e:EV) {c:η} (hc:P c):oG P (ug w h e c):=by
 have b:oG P {h with T:=h.T.set e.th c}:={a with T:=oG.set a.T hc _}
 unfold ug;simp only[];repeat' split
 .exact {b with S:=oG.set a.S hc _}
 .exact {b with L:=oG.set a.L (hj _ _ (a.L _) hc) _}
 .exact {b with R:=oG.set a.R (hj _ _ (a.R _) hc) _}
 .exact {b with L:=oG.set a.L (hj _ _ (a.L _) hc) _}
 .exact {b with C:=oG.set a.C (hj _ _ (a.C _) hc) _}
 .exact b
 .exact {b with F:=oG.set a.F (hj _ _ (a.F _) hc) _}
 .exact {b with X:=hj _ _ a.X hc}
 .exact {b with N:=oG.set a.N hc _}
 .exact b
 .refine {b with N:=λu=>?_};have:=a.N u;simp only[BF];rw[ay]at this ⊢;rw[List.getElem?_mapIdx];cases d:h.N[u]? with
  |none=>rw[d]at this;exact this
  |some x=>
   rw[d]at this;simp only[bW,uo];split
   .exact hc
   .exact this
 .exact b
theorem oG.src {P:η->Prop} {w:Dj} {h:HS} (a:oG P h) (e:EV):∀x∈AM w h e,P x:=by
 intro c hc;unfold AM at hc;repeat' (split at hc)
 all_goals simp only[bx,cH,gK]at hc
 .subst hc;exact a.S _
 .subst hc;exact a.T _
 .rcases hc with rfl|rfl
  .exact a.L _
  .exact a.R _
 .subst hc;exact a.L _
 .rcases hc with rfl|rfl|rfl
  .exact a.L _
  .exact a.R _
  .exact a.N _
 .subst hc;exact a.C _
 .subst hc;exact a.F _
 .subst hc;exact a.X
theorem Zl {P:η->Prop} (hj:∀a b,P a->P b->P (jl a b)):∀(l:Y η) (c:η),P c->(∀x∈l,P x)->P (l.foldl jl c)
 |[],_,hc,_=>hc
 |x::r,_,hc,h=>Zl hj r _ (hj _ _ hc (h x (ep ..))) λy d=>h y (dk _ d)
theorem aim (w:Dj) (h:HS) (e:EV) (c:η):(ug w h e c).T=h.T.set e.th c:=by
 unfold ug;simp only[];repeat' split
 all_goals rfl
def Kp (l:Y ET) (u:Nat):Nat->Nat
 |0=>0
 |i+1=>if (wi l i).th=u then Kp l u i+1 else Kp l u i
theorem Ri (l:Y ET) (u i:Nat):∀j,Kp l u i<=Kp l u (i+j)
 |0=>cN _
 |j+1=>by
  have:=Ri l u i j;show Kp l u i<=Kp l u (i+j+1);rw[Kp];split<;>omega
theorem Ua (l:Y ET) (u:Nat) {i j:Nat} (h:i<=j):Kp l u i<=Kp l u j:=by
 obtain⟨k,rfl⟩:∃k,j=i+k:=⟨j-i,by omega⟩
 exact Ri l u i k
theorem Hh (l:Y ET) (i:Nat):Kp l (wi l i).th (i+1)=Kp l (wi l i).th i+1:=by rw[Kp,aW rfl]
structure Gd (w:WT) (l:List ET) (i:Nat) (x:η):Prop where
 le:∀u,x.getD u 0<=(Kp l u i:Int)
 dn:∀k,k<i->(Kp l (wi l k).th k:Int)+1<=x.getD (wi l k).th 0->LE (Lu w l k) x
theorem Gd.nil (w:WT) (l:Y ET) (i:Nat):Gd w l i []:=⟨λu=>by simp,λk _ h=>by simp at h;omega⟩
theorem Gd.jl {w:WT} {l:Y ET} {i:Nat} (a b:η) (d:Gd w l i a) (hb:Gd w l i b):Gd w l i (jl a b):=by
 refine ⟨λu=>?_,λk hk h=>?_⟩
 .rw[DI,vG];have:=d.le u;have:=hb.le u;omega
 .rw[DI,vG]at h;by_cases g:(Kp l (wi l k).th k:Int)+1<=a.getD (wi l k).th 0
  .exact (d.dn k hk g).trans (ajy _ _)
  .exact (hb.dn k hk (by omega)).trans (LE_r _ _)
theorem Gd.succ {w:WT} {l:Y ET} {i:Nat} {x:η} (h:Gd w l i x):Gd w l (i+1) x:=by
 refine ⟨λu=>?_,λk hk g=>?_⟩
 .have:=h.le u;have:=Ua l u (show i<=i+1 by omega);omega
 .by_cases e:k=i
  .subst e;have:=h.le (wi l k).th;omega
  .exact h.dn k (by omega) g
structure GS1 (w:WT) (l:List ET) (i:Nat) (h:HS):Prop where
 a:oG (Gd w l i) h
 t:∀u,(h.T.getD u []).getD u 0=(Kp l u i:Int)
theorem Oa {w:WT} {l:Y ET} {i:Nat} (g:GS1 w l i (Pu w (l.take i))):Gd w l (i+1) (Lu w l i)/\(Lu w l i).getD (wi l i).th 0=(Kp l (wi l i).th i:Int)+1:=by
 have s:Gd w l i ((AM w (Pu w (l.take i)) (wi l i)).foldl AI.jl ((Pu w (l.take i)).T.getD (wi l i).th [])):=Zl Gd.jl _ _ (g.a.T _) (g.a.src (w:=w) _);have z:=g.t (wi l i).th;have hL:=Ox (AM w (Pu w (l.take i)) (wi l i)) ((Pu w (l.take i)).T.getD (wi l i).th []);have A:=(g.a.T (wi l i).th).dn;have d:=aip w (Pu w (l.take i)) (wi l i);have e:(Lu w l i).getD (wi l i).th 0=(Kp l (wi l i).th i:Int)+1:=by
  unfold Lu JH;rw[Hs,aW rfl];have:=hL.2 (wi l i).th;have:=s.le (wi l i).th;omega
 refine ⟨⟨λu=>?_,λk hk h=>?_⟩,e⟩
 .by_cases hu:(wi l i).th=u
  .subst hu;rw[e,Hh];omega
  .have:=s.le u;unfold Lu JH;rw[Hs,aM λq=>hu q.symm,Kp,aM hu];exact this
 .by_cases hki:k=i
  .subst hki;exact LE.refl _
  have hk:k<i:=by omega
  by_cases hu:(wi l k).th=(wi l i).th
  .refine (A k hk ?_).trans d;rw[hu,z];have:=Ua l (wi l k).th (show k+1<=i from hk);rw[Hh,hu]at this;omega
  .refine (s.dn k hk ?_).trans (aey _ _);unfold Lu JH at h;rw[Hs,aM hu]at h;exact h
theorem Ij {w:WT} {l:Y ET} (d:vi (w,l)):∀i:Nat,i<=l.length->GS1 w l i (Pu w (l.take i))
 |0,_=>⟨oG.zero (Gd.nil w l 0) w,λu=>by have:=oG.repl (P:=λx=>x.getD u 0=0) (by simp) w.2.2.2.2.1.length u;exact this⟩
 |i+1,h=>by
  have g:=Ij d i (by omega);obtain⟨z,s⟩:=Oa g;have ht:=(Ts d (show i<l.length by omega)).th;rw[Ii w (by omega)];refine ⟨oG.step Gd.jl (g.a.mono λx h=>h.succ) _ z,λu=>?_⟩;rw[aim,P'];by_cases hu:(wi l i).th=u
  .subst hu;rw[aW ⟨rfl,ht⟩,s,Hh];omega
  .rw[aM λq=>hu q.1,g.t u,Kp,aM hu]
theorem Vs {w:WT} {l:Y ET} (d:vi (w,l)) {i:Nat} (h:i<l.length):(Lu w l i).getD (wi l i).th 0=(Kp l (wi l i).th i:Int)+1:=(Oa (Ij d i (by omega))).2
theorem ZB {w:WT} {l:Y ET} (d:vi (w,l)) {i:Nat} (h:i<l.length):Gd w l (i+1) (Lu w l i):=(Oa (Ij d i (by omega))).1
def X_ (w:WT) (l:Y ET) (k j:Nat):Prop:=(Kp l (wi l k).th k:Int)+1<=(Lu w l j).getD (wi l k).th 0
theorem X_.le {w:WT} {l:Y ET} (d:vi (w,l)) {k j:Nat} (hk:k<=j) (hj:j<l.length) (h:X_ w l k j):LE (Lu w l k) (Lu w l j):=(ZB d hj).dn k (by omega) h
theorem X_.of {w:WT} {l:Y ET} (d:vi (w,l)) {k j:Nat} (hk:k<l.length) (h:LE (Lu w l k) (Lu w l j)):X_ w l k j:=by
 have:=h.2 (wi l k).th;rw[Vs d hk]at this;exact this
theorem X_.own {w:WT} {l:Y ET} (d:vi (w,l)) {k j:Nat} (hk:k<j) (hj:j<l.length) (h:(wi l k).th=(wi l j).th):X_ w l k j:=by
 unfold X_;rw[h,Vs d hj];have:=Ua l (wi l k).th (show k+1<=j from hk);rw[Hh,h]at this;omega
theorem X_.trans {w:WT} {l:Y ET} (d:vi (w,l)) {i j k:Nat} (hi:i<=j) (hj:j<=k) (hk:k<l.length) (h:X_ w l i j) (g:X_ w l j k):X_ w l i k:=X_.of d (by omega) ((h.le d hi (by omega)).trans (g.le d hj hk))
theorem Yo {w:WT} {l:Y ET} (d:vi (w,l)):pB w=Z (HS.zero w).t:=by
 have wb:=d.wb;dsimp only at wb;exact Z6 w (by have:=wb.c;unfold xP;omega) (by have:=wb.l;unfold xP;omega) (by have:=wb.f;unfold xP;omega) (by have:=wb.t;unfold xP;omega)
theorem ab3 {w:WT} {l:Y ET} (d:vi (w,l)) {i:Nat} (hi:i<l.length):rX (w,(Pu w (l.take i)).t,eN l i)=Z ((Pu w (l.take (i+1))).t,Lu w l i):=by
 have hl:=d.len;dsimp only at hl;have:=ad8 (Nq d i (by omega)).1 (by omega) (Ts d hi) (ail d hi);rw[Ii w hi];exact this
def tA {α:Type} (n:Nat) (f:Nat->α) (z:α) (i:Nat):Y α:=(gx n).map λk=>if k<i then f k else z
theorem Ym {α:Type} (n:Nat) (f:Nat->α) (z:α) (i:Nat):(tA n f z i).length=n:=by simp[tA]
theorem af4 {α:Type} {n:Nat} {f:Nat->α} {z:α} {i:Nat} (h:i<n):(tA n f z i).set i (f i)=tA n f z (i+1):=by
 unfold tA;apply dA
 .simp
 intro k h1 h2;simp only[EA,cz,lA]at h1;rw[ur];simp only[qA,nA];by_cases e:i=k
 .subst e;rw[aW rfl,aW (by omega)]
 .rw[aM e];by_cases g:k<i
  .rw[aW g,aW (by omega)]
  .rw[aM g,aM (by omega)]
theorem ab2 {α:Type} (n:Nat) (f:Nat->α) (z:α):tA n f z 0=aA n z:=by unfold tA;simp[List.map_const']
theorem af5 {α:Type} (n:Nat) (f:Nat->α) (z:α):tA n f z n=(gx n).map f:=List.map_congr_left λk hk=>by rw[aW (nz.1 hk)]
abbrev csN (w:WT) (l:Y ET):Y η:=(gx l.length).map (Lu w l)
theorem ach {w:WT} {l:Y ET} {i:Nat} (h:i<l.length):(csN w l).getD i []=Lu w l i:=by
 rw[ay,bk,vg h];rfl
theorem Zs {w:WT} {l:Y ET} {i:Nat} (h:i<l.length):aH (T:=.sl (.int .i64)) (csN w l) (i:Int)=Lu w l i:=by rw[re];exact ach h
theorem XV {w:WT} {l:Y ET} (d:vi (w,l)):lO (w,l)=Z (csN w l,0):=by
 have hl:=d.len;dsimp only at hl;obtain⟨ck0,hck⟩:=ahn d;refine b6 ?_;unfold lO tP aX bp ck bA iT bt bJ aY cM aB cw;refine aS hck (fw (aS (Yo d) (cR (cR (dv (by dsimp only[aj];omega) (dv (by omega) (aZ (by simp;omega) (by omega) ?_)))))));refine eB l.length (by omega) (λi x=>x=((i:Int),(w,l),(Pu w (l.take i)).t,tA l.length (Lu w l) [] i)) ?_ ?_ ?_
 .rintro i x hi rfl;refine ic ?_;refine dW (aV ?_);refine aS (ab3 d hi) ?_;refine aK (by dsimp only;omega) (by dsimp only;rw[Ym];omega) (aK (by dsimp only;omega) (by dsimp only;rw[Ym];omega) (ai ?_));dsimp only;rw[fo (by omega),gy,af4 hi]
 .rintro x rfl;refine gP (ai ?_);dsimp only;rw[af5]
 .show _=_;rw[ab2];rfl
abbrev Ke0:Ty:=(.st (.pr (.int .u8) (.pr (.int .u8) (.int .i8))))
abbrev Ke1:Ty:=(.st (.pr Dc (.pr Dc Dc)))
def l9 (x:(η×(η)×η)×Int×Int×Int×Int):J (fc×Y jY):=
 (av (kV (x.1,x.2.1)) λd=>(bg (aY d.2) 0 (Z d) (bt (be (ah (d.2:Y jY)) 88) (bt (!decide (((aY d.2):Int)=0)) (mq (bu (ba .i64 x.p2) (aY d.2)) d.2 (jn (α:=ny×my×(Y jD)×di×di×(Y ν)×Y jY) (bg (bu x.p3 9) 0 (mq (bu (ba .i64 x.p2) (aY d.2)) d.2 (aB (d.1.1,d.1.2.1,d.1.p2,d.1.p3,d.1.p4,d.1.q5,(ct d.2 (bu (ba .i64 x.p2) (aY d.2)) ((bu (ba .i64 x.q4) 8),(aH (T:=gV) d.2 (bu (ba .i64 x.p2) (aY d.2))).2))))) (bg (bu x.p3 9) 1 (mq (bu (ba .i64 x.p2) (aY d.2)) d.2 (aB (d.1.1,d.1.2.1,d.1.p2,d.1.p3,d.1.p4,d.1.q5,(ct d.2 (bu (ba .i64 x.p2) (aY d.2)) ((aH (T:=gV) d.2 (bu (ba .i64 x.p2) (aY d.2))).1,(ba .i64 (1+(bu (ba .i64 (ba .u8 x.q4)) 24))),((aH (T:=gV) d.2 (bu (ba .i64 x.p2) (aY d.2))).2).2))))) (bg (bu x.p3 9) 2 (mq (bu (ba .i64 x.p2) (aY d.2)) d.2 (aB (d.1.1,d.1.2.1,d.1.p2,d.1.p3,d.1.p4,d.1.q5,(ct d.2 (bu (ba .i64 x.p2) (aY d.2)) ((aH (T:=gV) d.2 (bu (ba .i64 x.p2) (aY d.2))).1,((aH (T:=gV) d.2 (bu (ba .i64 x.p2) (aY d.2))).2).1,(bu (ba .i64 x.q4) 8),(((aH (T:=gV) d.2 (bu (ba .i64 x.p2) (aY d.2))).2).2).2))))) (bg (bu x.p3 9) 3 (mq (bu (ba .i64 x.p2) (aY d.2)) d.2 (aB (d.1.1,d.1.2.1,d.1.p2,d.1.p3,d.1.p4,d.1.q5,(ct d.2 (bu (ba .i64 x.p2) (aY d.2)) ((aH (T:=gV) d.2 (bu (ba .i64 x.p2) (aY d.2))).1,((aH (T:=gV) d.2 (bu (ba .i64 x.p2) (aY d.2))).2).1,(((aH (T:=gV) d.2 (bu (ba .i64 x.p2) (aY d.2))).2).2).1,(bu (ba .i64 x.q4) 8),((((aH (T:=gV) d.2 (bu (ba .i64 x.p2) (aY d.2))).2).2).2).2))))) (bg (bu x.p3 9) 4 (mq (bu (ba .i64 x.p2) (aY d.2)) d.2 (aB (d.1.1,d.1.2.1,d.1.p2,d.1.p3,d.1.p4,d.1.q5,(ct d.2 (bu (ba .i64 x.p2) (aY d.2)) ((aH (T:=gV) d.2 (bu (ba .i64 x.p2) (aY d.2))).1,((aH (T:=gV) d.2 (bu (ba .i64 x.p2) (aY d.2))).2).1,(((aH (T:=gV) d.2 (bu (ba .i64 x.p2) (aY d.2))).2).2).1,((((aH (T:=gV) d.2 (bu (ba .i64 x.p2) (aY d.2))).2).2).2).1,(bu (ba .i64 x.q4) 8),(((((aH (T:=gV) d.2 (bu (ba .i64 x.p2) (aY d.2))).2).2).2).2).2))))) (bg (bu x.p3 9) 5 (bJ gV d.2 (bu (ba .i64 x.p2) (aY d.2)) λz=>(bt (be (ah (z.2.2.2.2.2.1:η)) 8) (bt (be (ah z.2.2.2.2.2.1+ah ([(bu (ba .i64 x.q4) 8)])) 8) (mq (bu (ba .i64 x.p2) (aY d.2)) d.2 (aB (d.1.1,d.1.2.1,d.1.p2,d.1.p3,d.1.p4,d.1.q5,(ct d.2 (bu (ba .i64 x.p2) (aY d.2)) ((aH (T:=gV) d.2 (bu (ba .i64 x.p2) (aY d.2))).1,((aH (T:=gV) d.2 (bu (ba .i64 x.p2) (aY d.2))).2).1,(((aH (T:=gV) d.2 (bu (ba .i64 x.p2) (aY d.2))).2).2).1,((((aH (T:=gV) d.2 (bu (ba .i64 x.p2) (aY d.2))).2).2).2).1,(((((aH (T:=gV) d.2 (bu (ba .i64 x.p2) (aY d.2))).2).2).2).2).1,(z.2.2.2.2.2.1++([(bu (ba .i64 x.q4) 8)])),((((((aH (T:=gV) d.2 (bu (ba .i64 x.p2) (aY d.2))).2).2).2).2).2).2)))))))) (bg (bu x.p3 9) 6 (bJ gV d.2 (bu (ba .i64 x.p2) (aY d.2)) λs=>(bt (be (ah (s.2.2.2.2.2.2:η)) 8) (bt (be (ah s.2.2.2.2.2.2+ah ([(bu (ba .i64 x.q4) 8)])) 8) (mq (bu (ba .i64 x.p2) (aY d.2)) d.2 (aB (d.1.1,d.1.2.1,d.1.p2,d.1.p3,d.1.p4,d.1.q5,(ct d.2 (bu (ba .i64 x.p2) (aY d.2)) ((aH (T:=gV) d.2 (bu (ba .i64 x.p2) (aY d.2))).1,((aH (T:=gV) d.2 (bu (ba .i64 x.p2) (aY d.2))).2).1,(((aH (T:=gV) d.2 (bu (ba .i64 x.p2) (aY d.2))).2).2).1,((((aH (T:=gV) d.2 (bu (ba .i64 x.p2) (aY d.2))).2).2).2).1,(((((aH (T:=gV) d.2 (bu (ba .i64 x.p2) (aY d.2))).2).2).2).2).1,((((((aH (T:=gV) d.2 (bu (ba .i64 x.p2) (aY d.2))).2).2).2).2).2).1,(s.2.2.2.2.2.2++([(bu (ba .i64 x.q4) 8)])))))))))) (jn (aB ((decide (((bu x.p3 9):Int)=7)),d.1.1,d.1.2.1,d.1.p2,d.1.p3,d.1.p4,d.1.q5,d.2)) λq=>(aF q.1 (bt ((decide ((bu (ba .i64 x.p2) (aY d.2))=(bu (ba .i64 x.p2) (aY d.2)))&&cO 0 (bu (ba .i64 x.p2) (aY d.2)))&&cO (bu (ba .i64 x.p2) (aY d.2)) (ah q.q7)) (bt (cO 0 (ba .i64 ((bu (ba .i64 x.p2) (aY d.2))+1))&&cO (ba .i64 ((bu (ba .i64 x.p2) (aY d.2))+1)) (ah q.q7)) (bt (be (ah (dj (aO (bu (ba .i64 x.p2) (aY d.2))) q.q7)+ah (List.drop (aO (ba .i64 ((bu (ba .i64 x.p2) (aY d.2))+1))) q.q7)) 88) (aF (ax (ah (List.drop (aO (ba .i64 ((bu (ba .i64 x.p2) (aY d.2))+1))) q.q7)) 0) (aB (q.2.1,q.p2,q.p3,q.p4,q.p5,q.p6,(dj (aO (bu (ba .i64 x.p2) (aY d.2))) q.q7))) (aB (q.2.1,q.p2,q.p3,q.p4,q.p5,q.p6,((dj (aO (bu (ba .i64 x.p2) (aY d.2))) q.q7)++(List.drop (aO (ba .i64 ((bu (ba .i64 x.p2) (aY d.2))+1))) q.q7)))))))) (aB q.2)))))))))) λx2=>(Z ((x2.1,x2.2.1,x2.p2,x2.p3,x2.p4,x2.p5),x2.q6))))))))
theorem eJ {φ:PM} {O:Nat->Prop} {w:World} {v u:Value} (h:cK φ O w (.f (.raw v)) u):u=v:=by
 cases h with
 |f h=>cases h;rfl
theorem te (h:HF) (nw:HF):eG h [] nw=h:=by funext t;simp[eG]
theorem FH:∀{l:ξ},JM l=M->∀v∈l,v.oneCell'=M
 |[],_,v,hv=>by cases hv
 |x::r,h,v,hv=>by
  simp only[JM,ak]at h;rcases bx.1 hv with rfl|hv
  .exact h.1
  .exact FH h.2 v hv
theorem T9 {φ:PM} {O:Nat->Prop} {w:World} (v:Value):cK φ O w (Eh v) v:=by
 unfold Eh;split
 .rename_i vs;split
  .rename_i h1;refine cK.agg (vs:=vs.toList) (by simp) (λx d=>?_) (λj x v d hv=>?_)
   .obtain⟨u,hu,rfl⟩:=cZ.1 d;exact FH h1 u hu
   .rw[bk,hv]at d;simp only[bW,af]at d;subst d;exact .f (.raw _)
  .exact .f (.raw _)
 .exact .f (.raw _)
theorem rJ {φ:PM} {E:Nat->Prop} {h':HF} {w:World} {e:yW} {a:Act} {xs:Array Operand} (hrep:qI φ E h' w) (h:∀t,.tmp t∈xs->∀y,e.get t=Z y->cK φ (tot E φ h') w y (a.tmps.getD t undef)) {x:Operand} {y:AV} (q:x∈xs) (d:mI e x=Z y):cK φ (tot E φ h') w y (a.eval x):=by
 cases x with
 |tmp t=>exact h t q y d
 |const v=>simp only[mI,af]at d;subst d;exact T9 v
 |func g=>
  simp only[mI,af]at d;subst d;exact cK.clo (vs:=[]) (g:=g) (cells:=[]) rfl (by intro j x v q;simp at q)
 |global g=>
  simp only[mI]at d;cases hg:G g with
  |none=>rw[hg]at d;cases d
  |some cells=>rw[hg]at d;simp only[af]at d;subst d;exact .f (hrep.gl g cells hg)
abbrev R9 (φ:PM) (E:Nat->Prop) (h':HF) (w:World) (a:Act) (e:yW) (o:Oper):Prop:=∀x y,x∈o.op.operands->mI e x=Z y->cK φ (tot E φ h') w y (a.eval x)
theorem gD.reads {P:Program} {o:Oper} {e:yW} {h:HF} {val:AV} {rd:ι} {nw:HF}
 (hv:∀(φ:PM) (E:Nat->Prop) (h':HF) (w:World) (a:Act),(∀i∈rd,h' i=h i)->R9 φ E h' w a e o->qI φ E h' w->
   ∃v,(execOp a.eval o).run P w= .ok (.value v) w/\cK φ (tot E φ h') w val v):gD P o e.get h ⟨val,rd,[],nw,[]⟩:=by
 intro φ E h' w a h1 h2 z d A;obtain⟨v,r,rel⟩:=hv φ E h' w a h1 (λx y s q=>rJ d z s q) d;unfold GY;rw[r];refine ⟨v,φ,rfl,?_,λ_ _ h=>.inl h,?_,?_⟩<;>rw[te]
 .exact iZ.refl _ _ _
 .exact d
 .exact rel
theorem du {x:AV} {R:zZ} (h:rv x=Z R):R=⟨x,[],[],[],[]⟩:=by simp only[rv,af]at h;exact h.symm
section pure
variable {P:Program} {o:Oper} {e:yW} {h:mh} {nx:Nat} {R:zZ}
theorem aiw {x:Operand} (d:o.op= .move x\/o.op= .assign x) (q:eg (.mv x) e h nx=Z R):gD P o e.get h.get R.eff:=by
 simp only[eg]at q;split at q
 .rename_i v hv;rw[du q];exact gD.reads λφ E h' w a _ hop _=>⟨a.eval x,by unfold execOp;rcases d with d|d<;>rw[d]<;>rfl,hop x v (by rcases d with d|d<;>rw[d]<;>simp[Op.operands]) hv⟩
 .cases q
theorem afy {c x y:Operand} (q:o.op= .pick c x y) (d:eg (.pick c x y) e h nx=Z R):gD P o e.get h.get R.eff:=by
 simp only[eg]at d;split at d
 .rename_i t hc;split at d
  .rename_i v hv;rw[du d];refine gD.reads λφ E h' w a _ hop _=>?_
   have hcv:=eJ (hop c _ (by rw[q];simp[Op.operands]) hc);refine ⟨a.eval (if t then x else y),?_,hop _ v (by rw[q];cases t<;>simp[Op.operands]) hv⟩;unfold execOp;rw[q];simp only[hcv];cases t<;>rfl
  .cases d
 .cases d
theorem afz {x:Operand} (d:o.op= .nilCheck x) (q:eg (.nilc x) e h nx=Z R):gD P o e.get h.get R.eff:=by
 simp only[eg]at q;split at q
 .rename_i id off A;rw[du q];refine gD.reads λφ E h' w a _ hop _=>?_
  have h1:=hop x _ (by rw[d];simp[Op.operands]) A;generalize s:a.eval x=z at h1;cases h1 with
  |ptr hφ=>exact⟨_,by unfold execOp;rw[d];simp only[s];rfl,.ptr hφ⟩
 .rename_i cells off A;rw[du q];refine gD.reads λφ E h' w a _ hop _=>?_
  have h1:=hop x _ (by rw[d];simp[Op.operands]) A;generalize s:a.eval x=z at h1;cases h1 with
  |f h1=>
   have h2:=h1;cases h2 with
   |ptr _ _ b base us hO hb hcl hu hr=>exact⟨_,by unfold execOp;rw[d];simp only[s];rfl,.f h1⟩
 .rename_i g cap A;rw[du q];refine gD.reads λφ E h' w a _ hop _=>?_
  have h1:=hop x _ (by rw[d];simp[Op.operands]) A;generalize s:a.eval x=z at h1;cases h1 with
  |clo hl hr=>exact⟨_,by unfold execOp;rw[d];simp only[s];rfl,.clo hl hr⟩
 .cases q
theorem aiu {x:Operand} {t:TypeId} (q:o.op= .unOp .not t x) (d:eg (.not x) e h nx=Z R):gD P o e.get h.get R.eff:=by
 simp only[eg]at d;split at d
 .rename_i b s;rw[du d];refine gD.reads λφ E h' w a _ hop _=>?_
  have h1:=eJ (hop x _ (by rw[q];simp[Op.operands]) s);exact⟨_,by unfold execOp;rw[q];simp only[h1];rfl,.f (.raw _)⟩
 .cases d
theorem xT (k:IntKind) (n:Int):ba k n=k.wrap n:=by
 rw[G1];unfold LK;split
 .split
  .rename_i h;simp only[cO,ak,bB]at h;have:oL .i64 n=if n%18446744073709551616≥9223372036854775808 then n%18446744073709551616-18446744073709551616 else n%18446744073709551616:=by
    simp[oL,IntKind.bits,IntKind.signed]
   rw[this];split<;>omega
  .rfl
 .split
  .rename_i h;simp only[cO,ak,bB]at h;have:oL .u8 n=n%256:=by
    simp[oL,IntKind.bits,IntKind.signed]
   rw[this];omega
  .rfl
 .rfl
theorem ag7 {x:Operand} {s d:TypeId} {k k':IntKind} (z:o.op= .convert s d x) (hs:P.underlying s=Z (.int k')) (hd:P.underlying d=Z (.int k)) (q:eg (.conv k x) e h nx=Z R):gD P o e.get h.get R.eff:=by
 simp only[eg]at q;split at q
 .rename_i D n A;rw[du q];refine gD.reads λφ E h' w a _ hop _=>?_
  have h1:=eJ (hop x _ (by rw[z];simp[Op.operands]) A);refine ⟨_,?_,.f (.raw _)⟩;unfold execOp;rw[z];simp[h1,convert,run_underlying hs,run_underlying hd,Conv.intToInt,xT]
 .cases q
theorem Oh (a:ByteArray):a.toList=a.data.toList:=by
 first|exact ByteArray.toList_eq a|simp[ByteArray.toList]|rfl
theorem Ys {op:BinOp} {t:TypeId} {u v r:Value} (hr:sV op u v=Z r) (x y:Operand) (w:World):
 (do eqGuard op t x y u v;binOp op t u v:Sem Value).run P w= .ok r w:=by
 unfold sV at hr;split at hr
 .rename_i k a k' b;split at hr
  .rename_i hk;have d:k=k':=by simpa using hk
   subst d;split at hr<;>first|(simp only[af]at hr;subst hr;simp[eqGuard,binOp,Op.intCmp,Op.intArith,xT,cO,fE];done)|(split at hr<;>first|(cases hr;done)|(rename_i hb;simp only[af]at hr;subst hr;simp[eqGuard,binOp,Op.intDiv,xT,show b≠0 from by simpa using hb];done))|(cases hr;done)
  .cases hr
 .rename_i a b;split at hr<;>first|(simp only[af]at hr;subst hr;simp[eqGuard,binOp,Op.stringOp,rM,Oh];done)|(cases hr;done)
 .cases hr
theorem ae5 {s:Sem Value} {r:Value} {w w':World} (hs:s.run P w= .ok r w'):(do let x<-s;pure (Next.value x):Sem Next).run P w= .ok (.value r) w':=by
 simp[hs]
theorem aen {op:BinOp} {x y:Operand} {t t':TypeId} (q:o.op= .binOp op t x y t') (d:eg (.bin op x y) e h nx=Z R):gD P o e.get h.get R.eff:=by
 simp only[eg]at d;split at d
 .rename_i u v z s;split at d
  .rename_i r hr;rw[du d];refine gD.reads λφ E h' w a _ hop _=>?_
   have h1:=eJ (hop x _ (by rw[q];simp[Op.operands]) z);have h2:=eJ (hop y _ (by rw[q];simp[Op.operands]) s);refine ⟨r,?_,.f (.raw _)⟩;unfold execOp;rw[q];simp only[h1,h2];exact ae5 (Ys (P:=P) (t:=t) hr x y w)
  .cases d
 .cases d
theorem Tt {t:TypeId} (hu:P.underlying t=Z .bool) (u v:Bool) (w:World):(Op.equal t (.bool u) (.bool v)).run P w= .ok (u==v) w:=by
 have key:∀d,(Op.equalIn (d+1) t (.bool u) (.bool v)).run P w= .ok (u==v) w:=λd=>by simp[Op.equalIn,run_underlying hu]
 exact key 9999
theorem Qn {t el:TypeId} (hu:P.underlying t=Z (.slice el)) (A:J Addr) (n c:Nat) (w:World):(Op.equal t (.slice A n c) (.slice U 0 0)).run P w= .ok A.isNone w:=by
 have key:∀d,(Op.equalIn (d+1) t (.slice A n c) (.slice U 0 0)).run P w= .ok A.isNone w:=λd=>by cases A<;>simp[Op.equalIn,run_underlying hu]
 exact key 9999
theorem aem {neg:Bool} {op:BinOp} {x y:Operand} {t t':TypeId} (q:o.op= .binOp op t x y t') (hop:op=if neg then .neq else .eql) (hu:P.underlying t=Z .bool) (d:eg (.eqb neg x y) e h nx=Z R):gD P o e.get h.get R.eff:=by
 simp only[eg]at d;split at d
 .rename_i u v z s;rw[du d];refine gD.reads λφ E h' w a _ hp _=>?_
  have h1:=eJ (hp x _ (by rw[q];simp[Op.operands]) z);have h2:=eJ (hp y _ (by rw[q];simp[Op.operands]) s);refine ⟨_,?_,.f (.raw _)⟩;unfold execOp;rw[q];simp only[h1,h2];subst hop;cases neg<;>simp[eqGuard,binOp,Tt hu]
 .cases d
theorem VJ {neg:Bool} {op:BinOp} {x y:Operand} {t t' el:TypeId} (D:o.op= .binOp op t x y t') (hop:op=if neg then .neq else .eql) (F:y= .const (.slice U 0 0)) (hu:P.underlying t=Z (.slice el)) (q:eg (.isnil neg x) e h nx=Z R):gD P o e.get h.get R.eff:=by
 have key:∀(v:Value) (w:World) (ρ:Operand->Value) (A:J Addr) (n c:Nat),ρ x= .slice A n c->ρ y= .slice U 0 0->(execOp ρ o).run P w= .ok (.value (.bool (A.isNone !=neg))) w:=by
  intro v w ρ A n c h1 h2;unfold execOp;rw[D];simp only[h1,h2];subst hop;cases neg<;>simp[eqGuard,binOp,Qn hu]
 have hyv:∀a:Act,a.eval y= .slice U 0 0:=λa=>by rw[F];rfl
 simp only[eg]at q;split at q
 .rename_i id sz n d;rw[du q];refine gD.reads λφ E h' w a _ hp _=>?_
  have h1:=hp x _ (by rw[D];simp[Op.operands]) d;generalize s:a.eval x=z at h1;cases h1 with
  |row hφ hn hc hs=>exact⟨_,key (.bool M) w a.eval _ _ _ s (hyv a),by simpa[raw] using cK.f (.raw _)⟩
 .rename_i id off n d;rw[du q];refine gD.reads λφ E h' w a _ hp _=>?_
  have h1:=hp x _ (by rw[D];simp[Op.operands]) d;generalize s:a.eval x=z at h1;cases h1 with
  |sl hφ hn hc=>exact⟨_,key (.bool M) w a.eval _ _ _ s (hyv a),by simpa[raw] using cK.f (.raw _)⟩
 .rename_i cells n d;rw[du q];refine gD.reads λφ E h' w a _ hp _=>?_
  have h1:=hp x _ (by rw[D];simp[Op.operands]) d;generalize s:a.eval x=z at h1;cases h1 with
  |f h1=>
   cases h1 with
   |sl=>exact⟨_,key (.bool M) w a.eval _ _ _ s (hyv a),by simpa[raw] using cK.f (.raw _)⟩
 .rename_i cells d;rw[du q];refine gD.reads λφ E h' w a _ hp _=>?_
  have h1:=hp x _ (by rw[D];simp[Op.operands]) d;generalize s:a.eval x=z at h1;cases h1 with
  |f h1=>
   cases h1 with
   |nil=>exact⟨_,key (.bool M) w a.eval _ _ _ s (hyv a),.anyb⟩
   |sl=>exact⟨_,key (.bool M) w a.eval _ _ _ s (hyv a),.anyb⟩
 .rename_i d;rw[du q];refine gD.reads λφ E h' w a _ hp _=>?_
  have h1:=hp x _ (by rw[D];simp[Op.operands]) d;generalize s:a.eval x=z at h1;cases h1 with
  |emp=>exact⟨_,key (.bool M) w a.eval _ _ _ s (hyv a),.anyb⟩
 .rename_i v d;split at q
  .rename_i hv;rw[du q];refine gD.reads λφ E h' w a _ hp _=>?_
   have h1:=eJ (hp x _ (by rw[D];simp[Op.operands]) d);unfold sS at hv;split at hv
   .exact⟨_,key (.bool M) w a.eval _ _ _ h1 (hyv a),by simpa[raw] using cK.f (.raw _)⟩
   .cases hv
  .cases q
 .cases q
theorem fX {t:TypeId} {sz:Nat} (hs:e9 P t=Z sz) (w:World):(sizeOf t).run P w= .ok sz w:=by
 unfold e9 at hs;cases hi:P.info? t with
 |none=>rw[hi]at hs;cases hs
 |some i=>rw[hi]at hs;simp at hs;simp[sizeOf,typeInfo,program,hi,kf,hs]
theorem O3 {t:TypeId} {ag:Bool} (hs:C9 P t=Z ag) (w:World):(isAgg t).run P w= .ok ag w:=by
 unfold C9 at hs;cases hi:P.underlying t with
 |none=>rw[hi]at hs;cases hs
 |some d=>
  rw[hi]at hs;simp only[bW,af]at hs;rw[<- hs];simp only[isAgg,eA,run_underlying hi,cL];cases d<;>rfl
theorem jR (b off i:Nat):(⟨b,off,U⟩:Addr).add i=⟨b,off+i,U⟩:=by
 unfold Addr.add;split<;>simp_all
theorem O2 {s:TypeId} {fs:Array Field} {k:Nat} {f:Field} {sz:Nat} (hu:P.underlying s=Z (.struct fs)) (hf:fs[k]? =Z f) (hs:e9 P f.type=Z sz) (h0:sz≠0) (w:World) (b i:Nat):
 (Instr.fieldAt s (.pointer (Z ⟨b,i,U⟩)) k).run P w= .ok (.pointer (Z ⟨b,i+f.offset,U⟩)) w:=by
 have h1:=fX hs w;simp[Instr.fieldAt,run_underlying hu,hf,Instr.sureAddr,fieldPlace,h1,h0,jR]
theorem aj5 {s:TypeId} {fs:Array Field} {k:Nat} {f:Field} {sz:Nat} {x:Operand} (D:o.op= .fieldAddr s x k) (hu:P.underlying s=Z (.struct fs)) (hf:fs[k]? =Z f) (hs:e9 P f.type=Z sz) (h0:sz≠0) (d:eg (.fad f.offset x) e h nx=Z R):gD P o e.get h.get R.eff:=by
 have key:∀(w:World) (ρ:Operand->Value) (b i:Nat),ρ x= .pointer (Z ⟨b,i,U⟩)->(execOp ρ o).run P w= .ok (.value (.pointer (Z ⟨b,i+f.offset,U⟩))) w:=by
  intro w ρ b i h1;unfold execOp;rw[D];simp only[h1];exact ae5 (O2 hu hf hs h0 w b i)
 simp only[eg]at d;split at d
 .rename_i id off A;rw[du d];refine gD.reads λφ E h' w a _ hp _=>?_
  have h1:=hp x _ (by rw[D];simp[Op.operands]) A;generalize q:a.eval x=z at h1;cases h1 with
  |ptr hφ=>exact⟨_,key w a.eval _ _ q,.ptr hφ⟩
 .rename_i cells off A;rw[du d];refine gD.reads λφ E h' w a _ hp _=>?_
  have h1:=hp x _ (by rw[D];simp[Op.operands]) A;generalize q:a.eval x=z at h1;cases h1 with
  |f h1=>
   cases h1 with
   |ptr _ _ b base us hO hb hcl hu hr=>
    refine ⟨_,key w a.eval _ _ q,.f ?_⟩;rw[wg];exact .ptr cells _ b base us hO hb hcl hu hr
 .cases d
theorem IN {t el:TypeId} {x y:Operand} {sz b off n c:Nat} {k:IntKind} {i:Int} {ρ:Operand->Value} {w:World} (s:o.op= .indexAddr t x y) (hu:P.underlying t=Z (.slice el)) (hs:e9 P el=Z sz) (q:ρ x= .slice (Z ⟨b,off,U⟩) n c) (d:ρ y= .int k i) (h0:0<=i) (h1:i<n):
 (execOp ρ o).run P w= .ok (.value (.pointer (Z ⟨b,off+i.toNat*sz,U⟩))) w:=by
 have h2:=fX hs w;unfold execOp;rw[s];simp[q,d,Instr.indexAt,asIntOf,run_underlying hu,h2,h0,h1,jR]
theorem aj3 {t el:TypeId} {x y:Operand} {sz:Nat} (q:o.op= .indexAddr t x y) (hu:P.underlying t=Z (.slice el)) (hs:e9 P el=Z sz) (d:eg (.iad sz x y) e h nx=Z R):gD P o e.get h.get R.eff:=by
 simp only[eg]at d;split at d
 .rename_i v k j D L;have hyv:∀{φ:PM} {E:Nat->Prop} {h':HF} {w:World} {a:Act},R9 φ E h' w a e o->a.eval y= .int k j:=λhp=>eJ (hp y _ (by rw[q];simp[Op.operands]) L)
  split at d
  .split at d
   .rename_i id sz' n hc;simp only[cO,fE,ak,bB,cQ]at hc;obtain⟨⟨rfl,h0⟩,h1⟩:=hc;rw[du d];refine gD.reads λφ E h' w a _ hp _=>?_
    have hr:=hp x _ (by rw[q];simp[Op.operands]) D;generalize s:a.eval x=z at hr;cases hr with
    |row hφ hn A hsh=>
     refine ⟨_,IN q hu hs s (hyv hp) h0 h1,?_⟩;rw[bM];exact .ptr hφ
   .cases d
  .split at d
   .rename_i id off n hc;simp only[cO,fE,ak,bB]at hc;obtain⟨h0,h1⟩:=hc;rw[du d];refine gD.reads λφ E h' w a _ hp _=>?_
    have hr:=hp x _ (by rw[q];simp[Op.operands]) D;generalize s:a.eval x=z at hr;cases hr with
    |sl hφ hn A=>exact⟨_,IN q hu hs s (hyv hp) h0 h1,.ptr hφ⟩
   .cases d
  .split at d
   .rename_i cells n hc;simp only[cO,fE,ak,bB]at hc;obtain⟨h0,h1⟩:=hc;rw[du d];refine gD.reads λφ E h' w a _ hp _=>?_
    have hr:=hp x _ (by rw[q];simp[Op.operands]) D;generalize s:a.eval x=z at hr;cases hr with
    |f hr=>
     cases hr with
     |nil=>omega
     |sl _ _ c b base us hn A hO hb hcl F I=>exact⟨_,IN q hu hs s (hyv hp) h0 h1,.f (.ptr cells _ b base us hO hb hcl F I)⟩
   .cases d
  .cases d
 .cases d
theorem ag5 {t el:TypeId} {x y:Operand} {n sz:Nat} (q:o.op= .indexAddr t x y) (hu:P.underlying t=Z (.array n el)) (hs:e9 P el=Z sz) (d:eg (.iada n sz x y) e h nx=Z R):gD P o e.get h.get R.eff:=by
 have key:∀(w:World) (ρ:Operand->Value) (b off:Nat) (k:IntKind) (i:Int),ρ x= .pointer (Z ⟨b,off,U⟩)->ρ y= .int k i->0<=i->i<n->(execOp ρ o).run P w= .ok (.value (.pointer (Z ⟨b,off+i.toNat*sz,U⟩))) w:=by
  intro w ρ b off k i h1 h2 h3 h4;have L:=fX hs w;unfold execOp;rw[q];simp[h1,h2,Instr.indexAt,asIntOf,run_underlying hu,L,h3,h4,jR,Instr.sureAddr]
 simp only[eg]at d;split at d
 .rename_i v k j I F;split at d
  .rename_i hc;simp only[cO,fE,ak,bB]at hc;obtain⟨h0,h1⟩:=hc;split at d
   .rw[du d];refine gD.reads λφ E h' w a _ hp _=>?_
    have hr:=hp x _ (by rw[q];simp[Op.operands]) I;have hyv:=eJ (hp y _ (by rw[q];simp[Op.operands]) F);generalize s:a.eval x=z at hr;cases hr with
    |ptr hφ=>exact⟨_,key w a.eval _ _ k j s hyv h0 h1,.ptr hφ⟩
   .rw[du d];refine gD.reads λφ E h' w a _ hp _=>?_
    have hr:=hp x _ (by rw[q];simp[Op.operands]) I;have hyv:=eJ (hp y _ (by rw[q];simp[Op.operands]) F);generalize s:a.eval x=z at hr;cases hr with
    |f hr=>
     cases hr with
     |ptr _ _ b base us hO hb hcl A D=>
      refine ⟨_,key w a.eval _ _ k j s hyv h0 h1,.f ?_⟩;rw[wg];exact .ptr _ _ b base us hO hb hcl A D
   .cases d
  .cases d
 .cases d
theorem aj6 {x:Operand} {i:Nat} (q:o.op= .extract x i) (d:eg (.ext x i) e h nx=Z R):gD P o e.get h.get R.eff:=by
 simp only[eg]at d;split at d
 .rename_i l A;split at d
  .rename_i v hv;rw[du d];refine gD.reads λφ E h' w a _ hp _=>?_
   have hr:=hp x _ (by rw[q];simp[Op.operands]) A;generalize s:a.eval x=z at hr;cases hr with
   |@tup _ vs hl hrr=>
    have hlt:i<vs.length:=by
     rw[hl];exact (bo.1 hv).1
    refine ⟨vs[i],?_,hrr i v _ hv (aw hlt)⟩;unfold execOp;rw[q];simp[s,Instr.extract,hlt]
  .cases d
 .cases d
theorem aj1 {x y:Operand} {s:Array TypeId} (q:o.op= .call {callee:=.builtin .max,args:=#[x,y],argTypes:=s}) (d:eg (.max x y) e h nx=Z R):gD P o e.get h.get R.eff:=by
 simp only[eg]at d;split at d
 .rename_i k a b k' A z;rw[du d];refine gD.reads λφ E h' w a _ hp _=>?_
  have h1:=eJ (hp x _ (by rw[q];simp[Op.operands,dQ]) A);have h2:=eJ (hp y _ (by rw[q];simp[Op.operands,dQ]) z);refine ⟨_,?_,.f (.raw _)⟩;unfold execOp;rw[q];simp[resolve,invoke,builtin,Builtin.max_,Builtin.max2,h1,h2,fE]
 .cases d
theorem aj0 {x y:Operand} {s:Array TypeId} (q:o.op= .call {callee:=.builtin .min,args:=#[x,y],argTypes:=s}) (d:eg (.min x y) e h nx=Z R):gD P o e.get h.get R.eff:=by
 simp only[eg]at d;split at d
 .rename_i k a b k' A z;rw[du d];refine gD.reads λφ E h' w a _ hp _=>?_
  have h1:=eJ (hp x _ (by rw[q];simp[Op.operands,dQ]) A);have h2:=eJ (hp y _ (by rw[q];simp[Op.operands,dQ]) z);refine ⟨_,?_,.f (.raw _)⟩;unfold execOp;rw[q];simp[resolve,invoke,builtin,Builtin.min_,Builtin.min2,h1,h2,fE]
 .cases d
theorem aiv {x:Operand} {t:TypeId} {k:IntKind} (q:o.op= .unOp .neg t x) (d:eg (.bin .sub (.const (.int k 0)) x) e h nx=Z R):gD P o e.get h.get R.eff:=by
 simp only[eg,mI,Eh]at d;split at d
 .rename_i u v hu s;cases hu;split at d
  .rename_i r hb;rw[du d];refine gD.reads λφ E h' w a _ hop _=>?_
   have h1:=eJ (hop x _ (by rw[q];simp[Op.operands]) s);refine ⟨r,?_,.f (.raw _)⟩;unfold execOp;rw[q];cases v<;>simp only[sV]at hb<;>try (cases hb;done)
   split at hb
   .rename_i hk;have hk:=eq_of_beq hk;subst hk;simp only[af]at hb;subst hb;simp[h1,Op.unary,Op.intArith,xT]
   .cases hb
  .cases d
 .cases d
theorem afx {x i:Operand} {t:TypeId} (q:o.op= .index t x i) (hu:P.underlying t=Z .string) (d:eg (.sidx x i) e h nx=Z R):gD P o e.get h.get R.eff:=by
 simp only[eg]at d;split at d
 .rename_i s k j z hi;split at d
  .rename_i h0;simp only[cO,bB]at h0;split at d
   .rename_i b hb;rw[du d];refine gD.reads λφ E h' w a _ hop _=>?_
    have h1:=eJ (hop x _ (by rw[q];simp[Op.operands]) z);have h2:=eJ (hop i _ (by rw[q];simp[Op.operands]) hi);refine ⟨_,?_,.f (.raw _)⟩;have hs:s[j.toNat]? =Z b:=by
     rw[cq]at hb;obtain⟨hl,he⟩:=cr.1 hb;exact getElem?_pos s j.toNat hl▸i_ Z he
    unfold execOp;rw[q];simp[Instr.index,run_underlying hu,h1,h2,asIntOf,h0,hs]
   .cases d
  .cases d
 .cases d
theorem aiz {f:FuncId} {caps:Array Operand} (D:o.op= .makeFunc (.func f) #[] caps) (s:eg (.mkf f caps.toList) e h nx=Z R):gD P o e.get h.get R.eff:=by
 simp only[eg]at s;split at s
 .rename_i l hl;rw[du s];refine gD.reads λφ E h' w a _ hp _=>?_
  refine ⟨_,by unfold execOp;rw[D];rfl,?_⟩;have key:∀(xs:Y Operand) (d:Y AV),(∀x∈xs,x∈o.op.operands)->Vi e xs=Z d->d.length=xs.length/\∀(j:Nat) x v,d[j]? =Z x->(xs.map a.eval)[j]? =Z v->cK φ (tot E φ h') w x v:=by
   intro xs;induction xs with
   |nil=>intro d _ h;simp only[Vi,af]at h;subst h;exact⟨rfl,λj x v q=>by simp at q⟩
   |cons x xs F=>
    intro d hm h;simp only[Vi]at h;split at h
    .rename_i y I;split at h
     .rename_i ys' hys;simp only[af]at h;subst h;obtain⟨h1,h2⟩:=F ys' (λx q=>hm x (dk _ q)) hys;refine ⟨by simp[h1],λj z v A hv=>?_⟩;cases j with
      |zero=>simp at A hv;subst A;subst hv;exact hp x _ (hm x (ep ..)) I
      |succ j=>exact h2 j z v (by simpa using A) (by simpa using hv)
     .cases h
    .cases h
  obtain⟨h1,h2⟩:=key caps.toList l (λx q=>by rw[D];simpa[Op.operands] using q) hl;have h3:(caps.map a.eval)=(caps.toList.map a.eval).toArray:=by
   apply Km;simp
  have L:(#[]:Array Operand).map a.eval=#[]:=by simp
  rw[L,h3];exact .clo (by simp[h1]) h2
 .cases s
end pure
section
variable {P:Program} {o:Oper} {e:yW} {h:mh} {nx:Nat} {R:zZ}
theorem UP {α:Type} {l cs:Y α} {off sz:Nat} (h:off+sz<=l.length) (he:(l.drop off).take sz=cs):cs.length=sz/\∀(j:Nat) x,cs[j]? =Z x->l[off+j]? =Z x:=by
 subst he;constructor
 .simp;omega
 .intro j x d;rw[cC]at d;split at d
  .rw[gW]at d;exact d
  .cases d
theorem wK (f:Nat->Value) (n j:Nat) (v:Value) (h:((gx n).map f)[j]? =Z v):v=f j/\j<n:=by
 rw[bk]at h;rcases bN j n with hj|hj
 .rw[vg hj]at h;simp at h;exact⟨h.symm,hj⟩
 .rw[bK (by simpa using hj)]at h;cases h
def xf (φ:PM) (O:Nat->Prop) (w:World) (c:BC) (f:Nat->J Value):Prop:=∀j x,c.get j=Z x->x.isCell=M/\∃v,f j=Z v/\cK φ O w x v
theorem UO {φ:PM} {O:Nat->Prop} {w:World} {c:BC} {off sz:Nat} {ag:Bool} {val:AV} (hs:c.sub? off sz ag=Z val) {f:Nat->J Value} (hc:xf φ O w c f):
 ∃cs:ξ,cs.length=sz/\(∀(j:Nat) v,cs[j]? =Z v->f (off+j)=Z v)/\(ag=aa->sz=1)/\cK φ O w val (if ag then .agg cs.toArray else cs.getD 0 undef):=by
 cases ag with
 |false=>
  simp only[BC.sub?]at hs;split at hs
  .obtain⟨h0,v,h1,h2⟩:=hc off val hs;exact⟨[v],rfl,λj u hu=>by cases j with|zero=>simp at hu;subst hu;exact h1|succ j=>simp at hu,λ_=>rfl,by simpa using h2⟩
  .cases hs
 |true=>
  have fin:∀(g:Nat->J AV),(∀j,j<sz->∃x,g j=Z x/\c.get (off+j)=Z x)->
   ∃cs:ξ,cs.length=sz/\(∀(j:Nat) v,cs[j]? =Z v->f (off+j)=Z v)/\∀(j:Nat) x v,g j=Z x->cs[j]? =Z v->cK φ O w x v:=by
   intro g hg;refine ⟨(gx sz).map λj=>(f (off+j)).getD undef,by simp,λj v hv=>?_,λj x v d hv=>?_⟩
   .obtain⟨rfl,hj⟩:=wK _ _ _ _ hv;obtain⟨x,_,h2⟩:=hg j hj;obtain⟨_,v,q,_⟩:=hc _ _ h2;rw[q];rfl
   .obtain⟨rfl,hj⟩:=wK _ _ _ _ hv;obtain⟨z,h1,h2⟩:=hg j hj;rw[d]at h1;cases h1;obtain⟨_,v,q,s⟩:=hc _ _ h2;rw[q];exact s
  simp only[BC.sub?]at hs;split at hs
  .rename_i l;split at hs
   .rename_i hle;simp only[af]at hs;subst hs;obtain⟨hl,hg⟩:=UP (bc hle) (rfl:(l.drop off).take sz=_);obtain⟨cs,h1,h2,q⟩:=fin (λj=>(((l.drop off).take sz)[j]?).map AV.f) (λj hj=>by
     have hlt:j<((l.drop off).take sz).length:=by rw[hl];exact hj
     refine ⟨.f ((l.drop off).take sz)[j],by simp only[aw hlt,bW],?_⟩;simp only[BC.get,hg j _ (aw hlt),bW])
    refine ⟨cs,h1,h2,(λh=>by cases h),.f (.agg _ _ (by rw[h1,hl]) ?_ ?_)⟩
    .intro x d;obtain⟨j,hj⟩:=eS d;exact (hc (off+j) (.f x) (by simp only[BC.get,hg j x hj,bW])).1
    .intro j x v d hv;have:=q j (.f x) v (by simp only[d,bW]) hv;cases this with
     |f h=>exact h
   .cases hs
  .rename_i l;split at hs
   .rename_i hle;simp only[af]at hs;subst hs;obtain⟨hl,hg⟩:=UP (bc hle) (rfl:(l.drop off).take sz=_);obtain⟨cs,h1,h2,q⟩:=fin (λj=>(((l.drop off).take sz)[j]?)) (λj hj=>by
     have hlt:j<((l.drop off).take sz).length:=by rw[hl];exact hj
     exact⟨_,aw hlt,hg j _ (aw hlt)⟩)
    refine ⟨cs,h1,h2,(λh=>by cases h),.agg (by rw[h1,hl]) ?_ ?_⟩
    .intro x d;obtain⟨j,hj⟩:=eS d;exact (hc (off+j) x (hg j x hj)).1
    .intro j x v d hv;exact q j x v d hv
   .cases hs
  .cases hs
theorem M7 {t:TypeId} {sz:Nat} {ag:Bool} (hs:e9 P t=Z sz) (d:C9 P t=Z ag) (w:World) (b off:Nat) (cs:ξ) (hl:cs.length=sz) (hc:∀(j:Nat) v,cs[j]? =Z v->w.cell? ⟨b,off+j,U⟩=Z v) (h1:ag=aa->sz=1):
 (loadVar t ⟨b,off,U⟩).run P w= .ok (if ag then .agg cs.toArray else cs.getD 0 undef) w:=by
 unfold loadVar;simp only[eA,O3 d w,cL];cases ag with
 |true=>
  simp only[bH,eA,fX hs w,cL];rw[<- hl,run_loadCells_list (P:=P) w ⟨b,off,U⟩ cs (λj v hv=>by rw[jR];exact hc j v hv)];rfl
 |false=>
  have h1:=h1 rfl;cases cs with
  |nil=>simp at hl;omega
  |cons v r=>
   have:=hc 0 v rfl;simp only[dc]at this;simp[load,kf,this]
theorem H_ {φ:PM} {O:Nat->Prop} {w:World} {t:TypeId} {sz:Nat} {ag:Bool} (hs:e9 P t=Z sz) (d:C9 P t=Z ag) {c:BC} {b base off:Nat} {val:AV} (hv:c.sub? off sz ag=Z val)
 (hc:xf φ O w c λj=>w.cell? ⟨b,base+j,U⟩):∃v,(loadVar t ⟨b,base+off,U⟩).run P w= .ok v w/\cK φ O w val v:=by
 obtain⟨cs,h1,h2,s,q⟩:=UO hv hc;exact⟨_,M7 hs d w b (base+off) cs h1 (λj v hj=>by rw[wg];exact h2 j v hj) s,q⟩
theorem Rm {φ:PM} {E:Nat->Prop} {h':HF} {w:World} (hrep:qI φ E h' w) {id k:Nat} {b:u_} (hb:h' id=Z b) (hk:φ id=Z k) (hc:b.c.isCells=M):xf φ (tot E φ h') w b.c λj=>w.cell? ⟨k,0+j,U⟩:=by
 obtain⟨k',h1,_,h2⟩:=hrep.at_ id b hb;rw[hk]at h1;cases h1;obtain⟨arr,s,F,q⟩:=h2.cells hc;intro j x d;obtain⟨D,v,A,z⟩:=q j x d;exact⟨D,v,by simp[MW,s,A],z⟩
theorem Uj {φ:PM} {O:Nat->Prop} {w:World} {cells:Y FV} {b base:Nat} {us:Nat->Value} (hcl:∀x∈cells,x.isCell=M) (hu:∀j,j<cells.length->w.cell? ⟨b,base+j,U⟩=Z (us j)) (hr:∀(j:Nat) x,cells[j]? =Z x->mA O w x (us j)):
 xf φ O w (.fz cells) λj=>w.cell? ⟨b,base+j,U⟩:=by
 intro j y d;simp only[BC.get]at d;cases hc:cells[j]? with
 |none=>rw[hc]at d;cases d
 |some q=>
  rw[hc]at d;simp at d;subst d;have hj:j<cells.length:=(bo.1 hc).1;exact⟨hcl q (bi hc),us j,hu j hj,.f (hr j q hc)⟩
theorem OO {c:BC} {off sz:Nat} {ag:Bool} {v:AV} (h:c.sub? off sz ag=Z v):c.isCells=M:=by
 cases c with
 |fz=>rfl
 |mx=>rfl
 |mp es=>cases ag<;>simp only[BC.sub?,BC.get]at h<;>(try split at h)<;>cases h
 |it s p=>cases ag<;>simp only[BC.sub?,BC.get]at h<;>(try split at h)<;>cases h
theorem Rt {t:TypeId} {sz:Nat} {ag:Bool} (hs:e9 P t=Z sz) (hag:C9 P t=Z ag) {p:AV} (d:C8 h sz ag p=Z R):
 R.wr=[]/\R.nw=[]/\R.N=[]/\∀(φ:PM) (E:Nat->Prop) (h':HF) (w:World) (pv:Value),(∀i∈R.rd,h' i=h.get i)->qI φ E h' w->cK φ (tot E φ h') w p pv->
  ∃q v,pv= .pointer (Z q)/\(loadVar t q).run P w= .ok v w/\cK φ (tot E φ h') w R.val v:=by
 unfold C8 at d;split at d
 .rename_i id off;split at d
  .rename_i b hb;split at d
   .rename_i v hv;simp only[af]at d;subst d;refine ⟨rfl,rfl,rfl,λφ E h' w pv hrd hrep hr=>?_⟩;have hh:h' id=Z b:=by rw[hrd id (by simp)];exact hb
    cases hr with
    |@ptr _ _ k hφ=>
     obtain⟨u,h1,h2⟩:=H_ hs hag (w:=w) (b:=k) (base:=0) hv (Rm hrep hh hφ (OO hv));rw[bM]at h1;exact⟨_,u,rfl,h1,h2⟩
   .cases d
  .cases d
 .rename_i cells off;split at d
  .rename_i v hv;rw[du d];refine ⟨rfl,rfl,rfl,λφ E h' w pv hrd hrep hr=>?_⟩;cases hr with
   |f hr=>
    cases hr with
    |ptr _ _ b base us hO hb hcl hu hr=>
     obtain⟨u,h1,h2⟩:=H_ (φ:=φ) (O:=tot E φ h') hs hag (w:=w) (b:=b) (base:=base) hv (Uj hcl hu hr);exact⟨_,u,rfl,h1,h2⟩
  .cases d
 .cases d
theorem ag1 {t:TypeId} {x:Operand} {sz:Nat} {ag:Bool} (q:o.op= .load t x) (hs:e9 P t=Z sz) (hag:C9 P t=Z ag) (d:eg (.load sz ag x) e h nx=Z R):gD P o e.get h.get R.eff:=by
 simp only[eg]at d;split at d
 .rename_i p A;obtain⟨h1,h2,z,s⟩:=Rt hs hag d;obtain⟨val,rd,wr,nw,N⟩:=R;simp only at h1 h2 z s;subst h1;subst h2;subst z;refine gD.reads λφ E h' w a hrd hp hrep=>?_
  obtain⟨L,v,I,F,D⟩:=s φ E h' w _ hrd hrep (hp x _ (by rw[q];simp[Op.operands]) A);refine ⟨v,?_,D⟩;unfold execOp;rw[q];simp[Instr.loadAt,I,Instr.sureAddr,F]
 .cases d
theorem U0 {φ:PM} {O:Nat->Prop} {w:World} {t:TypeId} {sz:Nat} {ag:Bool} (hs:e9 P t=Z sz) (hag:C9 P t=Z ag) {c:BC} {off:Nat} {val:AV} (hv:c.sub? off sz ag=Z val) {vs:ξ}
 (hc:xf φ O w c λj=>vs[j]?):∃v,(part t vs.toArray off).run P w= .ok v w/\cK φ O w val v:=by
 obtain⟨cs,h1,h2,q,d⟩:=UO hv hc;refine ⟨_,?_,d⟩;unfold part;simp only[eA,O3 hag w,cL];cases ag with
 |true=>
  simp only[bH,eA,fX hs w,cL];have:vs.toArray.extract off (off+sz)=cs.toArray:=by
   apply Km;simp only[Array.toList_extract,List.extract_eq_take_drop];apply List.ext_getElem?;intro j;rw[show off+sz-off=sz from by omega,cC,gW];rcases bN j sz with hj|hj
   .rw[aW hj];have:=h2 j _ (aw (by omega:j<cs.length));rw[this,aw (by omega:j<cs.length)]
   .rw[aM (by omega),bK (by omega)]
  rw[this];rfl
 |false=>
  have s:=q rfl;cases cs with
  |nil=>simp at h1;omega
  |cons v r=>
   have:=h2 0 v rfl;simp only[dc]at this;simp[this]
theorem Rn {φ:PM} {O:Nat->Prop} {w:World} {l:Y AV} {vs:ξ} (hl:vs.length=l.length) (hcl:∀x∈l,x.isCell=M) (hr:∀(j:Nat) x v,l[j]? =Z x->vs[j]? =Z v->cK φ O w x v):xf φ O w (.mx l) λj=>vs[j]? :=by
 intro j x d;simp only[BC.get]at d;have hj:j<vs.length:=by rw[hl];exact (bo.1 d).1
 exact⟨hcl x (bi d),vs[j],aw hj,hr j x _ d (aw hj)⟩
theorem Oe {φ:PM} {O:Nat->Prop} {w:World} {l:Y FV} {vs:ξ} (hl:vs.length=l.length) (hcl:∀x∈l,x.isCell=M) (hr:∀(j:Nat) x v,l[j]? =Z x->vs[j]? =Z v->mA O w x v):xf φ O w (.fz l) λj=>vs[j]? :=by
 intro j x d;simp only[BC.get]at d;cases hc:l[j]? with
 |none=>rw[hc]at d;cases d
 |some q=>
  rw[hc]at d;simp at d;subst d;have hj:j<vs.length:=by rw[hl];exact (bo.1 hc).1
  exact⟨hcl q (bi hc),vs[j],aw hj,.f (hr j q _ hc (aw hj))⟩
theorem JY {φ:PM} {O:Nat->Prop} {w:World} {t:TypeId} {sz:Nat} {ag:Bool} (hs:e9 P t=Z sz) (hag:C9 P t=Z ag) {x:AV} {z:Value} (hr:cK φ O w x z) {off:Nat} {val:AV}
 (hv:(∃l,x= .agg l/\(BC.mx l).sub? off sz ag=Z val)\/(∃l,x= .f (.agg l)/\(BC.fz l).sub? off sz ag=Z val)):∃cs v,z= .agg cs/\(part t cs off).run P w= .ok v w/\cK φ O w val v:=by
 rcases hv with ⟨l,rfl,hv⟩|⟨l,rfl,hv⟩
 .cases hr with
  |agg hl hcl hr=>
   obtain⟨v,h1,h2⟩:=U0 hs hag hv (Rn hl hcl hr);exact⟨_,v,rfl,h1,h2⟩
 .cases hr with
  |f hr=>
   cases hr with
   |agg _ vs hl hcl hr=>
    obtain⟨v,h1,h2⟩:=U0 (φ:=φ) hs hag hv (Oe hl hcl hr);exact⟨_,v,rfl,h1,h2⟩
theorem aj4 {s:TypeId} {fs:Array Field} {k:Nat} {f:Field} {sz:Nat} {ag:Bool} {x:Operand} (z:o.op= .field s x k) (hu:P.underlying s=Z (.struct fs)) (hf:fs[k]? =Z f) (hs:e9 P f.type=Z sz) (hag:C9 P f.type=Z ag) (d:eg (.fld f.offset sz ag x) e h nx=Z R):gD P o e.get h.get R.eff:=by
 have fin:∀(y:AV) (val:AV),mI e x=Z y->((∃l,y= .agg l/\(BC.mx l).sub? f.offset sz ag=Z val)\/(∃l,y= .f (.agg l)/\(BC.fz l).sub? f.offset sz ag=Z val))->rv val=Z R->gD P o e.get h.get R.eff:=by
  intro y val q hv A;rw[du A];refine gD.reads λφ E h' w a _ hp _=>?_
  obtain⟨cs,v,h1,h2,D⟩:=JY hs hag (hp x _ (by rw[z];simp[Op.operands]) q) hv;refine ⟨v,?_,D⟩;unfold execOp;rw[z];simp[Instr.field,run_underlying hu,hf,h1,asAgg,h2]
 simp only[eg]at d;split at d
 .rename_i l q;split at d
  .rename_i v hv;exact fin _ v q (.inl ⟨l,rfl,hv⟩) d
  .cases d
 .rename_i l q;split at d
  .rename_i v hv;exact fin _ v q (.inr ⟨l,rfl,hv⟩) d
  .cases d
 .cases d
theorem aj2 {t el:TypeId} {n sz:Nat} {ag:Bool} {x y:Operand} (q:o.op= .index t x y) (hu:P.underlying t=Z (.array n el)) (hs:e9 P el=Z sz) (hag:C9 P el=Z ag) (d:eg (.idx n sz ag x y) e h nx=Z R):gD P o e.get h.get R.eff:=by
 simp only[eg]at d;split at d
 .rename_i v0 k j z s;split at d
  .rename_i hc;simp only[cO,fE,ak,bB]at hc;obtain⟨h0,h1⟩:=hc;have fin:∀(val:AV),((∃l,v0= .agg l/\(BC.mx l).sub? (j.toNat*sz) sz ag=Z val)\/(∃l,v0= .f (.agg l)/\(BC.fz l).sub? (j.toNat*sz) sz ag=Z val))->rv val=Z R->gD P o e.get h.get R.eff:=by
    intro val hv A;rw[du A];refine gD.reads λφ E h' w a _ hp _=>?_
    have hyv:=eJ (hp y _ (by rw[q];simp[Op.operands]) s);obtain⟨cs,v,L,I,F⟩:=JY hs hag (hp x _ (by rw[q];simp[Op.operands]) z) hv;refine ⟨v,?_,F⟩;have D:=fX hs w;unfold execOp;rw[q];simp[Instr.index,run_underlying hu,hyv,asIntOf,L,h0,h1,D,I]
   split at d
   .rename_i l;split at d
    .rename_i v hv;exact fin v (.inl ⟨l,rfl,hv⟩) d
    .cases d
   .rename_i l;split at d
    .rename_i v hv;exact fin v (.inr ⟨l,rfl,hv⟩) d
    .cases d
   .cases d
  .cases d
 .cases d
theorem ag4 {t el:TypeId} {x:Operand} (s:o.op= .call {callee:=.builtin .len,args:=#[x],argTypes:=#[t]}) (hu:P.underlying t=Z (.slice el)) (d:eg (.len x) e h nx=Z R):gD P o e.get h.get R.eff:=by
 simp only[eg]at d;split at d
 .rename_i y D;split at d
  .rename_i n hn;rw[du d];refine gD.reads λφ E h' w a _ hp _=>?_
   have hr:=hp x _ (by rw[s];simp[Op.operands,dQ]) D;refine ⟨_,?_,.f (.raw _)⟩;have q:∃A c,a.eval x= .slice A n c:=by
    generalize a.eval x=z at hr;unfold AV.slen at hn;split at hn<;>try (simp only[af]at hn;subst hn)
    .cases hr with
     |f hr=>cases hr with
      |nil=>exact⟨_,_,rfl⟩
      |sl=>exact⟨_,_,rfl⟩
    .cases eJ hr;exact⟨_,_,rfl⟩
    .cases hr;exact⟨_,_,rfl⟩
    .cases hr;exact⟨_,_,rfl⟩
    .cases hr;exact⟨_,_,rfl⟩
    .cases hn
   obtain⟨A,c,q⟩:=q;unfold execOp;rw[s];simp[resolve,invoke,builtin,Builtin.len_,run_underlying hu,q,goInt]
  .cases d
 .cases d
theorem ag3 {t:TypeId} {x:Operand} (q:o.op= .call {callee:=.builtin .len,args:=#[x],argTypes:=#[t]}) (hu:P.underlying t=Z .string) (d:eg (.lens x) e h nx=Z R):gD P o e.get h.get R.eff:=by
 simp only[eg]at d;split at d
 .rename_i s z;rw[du d];refine gD.reads λφ E h' w a _ hp _=>?_
  have hr:=eJ (hp x _ (by rw[q];simp[Op.operands,dQ]) z);refine ⟨_,?_,.f (.raw _)⟩;unfold execOp;rw[q];simp[resolve,invoke,builtin,Builtin.len_,run_underlying hu,hr,goInt]
 .cases d
theorem ag2 {t k v:TypeId} {x:Operand} (s:o.op= .call {callee:=.builtin .len,args:=#[x],argTypes:=#[t]}) (hu:P.underlying t=Z (.map k v)) (d:eg (.lenm x) e h nx=Z R):gD P o e.get h.get R.eff:=by
 simp only[eg]at d;split at d
 .rename_i id D;split at d
  .rename_i es hid;simp only[af]at d;subst d;refine gD.reads λφ E h' w a hrd hp hrep=>?_
   have hr:=hp x _ (by rw[s];simp[Op.operands,dQ]) D;have hh:h' id=Z ⟨0,.mp es⟩:=by rw[hrd id (by simp)];exact hid
   generalize A:a.eval x=z at hr;cases hr with
   |@mp _ b hφ=>
    obtain⟨b',h1,_,ob,h2,I⟩:=hrep.at_ id _ hh;rw[hφ]at h1;cases h1;obtain⟨ents,clock,rfl,q,_⟩:=I;have F:ents.size=es.length:=by have q:ents.toList.map (·.key)=es.map (·.1):=q;have:=i_ ah q;simpa using this
    refine ⟨_,?_,.f (.raw _)⟩;unfold execOp;rw[s];simp[resolve,invoke,builtin,Builtin.len_,run_underlying hu,A,goInt,getObj,kf,h2,F]
  .cases d
 .cases d
end
structure Et (w w':World) (k:Nat) (ob:Obj):Prop where
 os:w'.os=w.os
 tape:w'.tape=w.tape
 output:w'.output=w.output
 size:w'.heap.size=w.heap.size
 at_:w'.heap[k]? =Z ob
 other:∀j,j≠k->w'.heap[j]? =w.heap[j]?
 shp:∀j,w'.shape? j=w.shape? j
structure Rz (w w':World) (ob:Obj):Prop where
 os:w'.os=w.os
 tape:w'.tape=w.tape
 output:w'.output=w.output
 size:w'.heap.size=w.heap.size+1
 at_:w'.heap[w.heap.size]? =Z ob
 other:∀j,j<w.heap.size->w'.heap[j]? =w.heap[j]?
theorem qI.wset {φ:PM} {E:Nat->Prop} {h:HF} {w w':World} (r:qI φ E h w) {id k:Nat} {b b':u_} {ob:Obj} (hb:h id=Z b) (hk:φ id=Z k) (d:Et w w' k ob) (hob:iY φ (tot E φ h) w b' ob) (nw:HF) (hnw:nw id=Z b'):
 iZ φ φ h (eG h [id] nw) w w'/\qI φ E (eG h [id] nw) w':=by
 have hdom:∀i,(∃x,eG h [id] nw i=Z x)↔∃x,h i=Z x:=λi=>by
  unfold eG;by_cases hi:i=id
  .subst hi;simp[hnw,hb]
  .simp[hi]
 have hown:∀j,own φ (eG h [id] nw) j↔own φ h j:=λj=>by
  constructor
  .rintro⟨i,x,h1,h2⟩;obtain⟨y,s⟩:=(hdom i).1 ⟨x,h1⟩;exact⟨i,y,s,h2⟩
  .rintro⟨i,x,h1,h2⟩;obtain⟨y,s⟩:=(hdom i).2 ⟨x,h1⟩;exact⟨i,y,s,h2⟩
 have m:iZ φ φ h (eG h [id] nw) w w':=by
  refine ⟨λ_ _ h=>h,⟨d.os,d.tape,d.output,by rw[d.size];exact cN _,λj hj L=>?_,λj _=>d.shp j⟩,λj _ h=>(hown j).1 h⟩;exact d.other j (λe=>L (e▸⟨id,b,hb,hk⟩))
 refine ⟨m,⟨λi j x y I hi hj h1 h2=>?_,λi x hi=>?_,λk hk=>dz (r.el k hk) m.ext.size,λg cells hg=>m.keepF (r.gl g cells hg)⟩⟩
 .obtain⟨F,z⟩:=(hdom i).1 ⟨x,hi⟩;obtain⟨D,q⟩:=(hdom j).1 ⟨y,hj⟩;exact r.inj i j F D I z q h1 h2
 .by_cases hid:i=id
  .subst hid;have:x=b':=by unfold eG at hi;simp[hnw]at hi;exact hi.symm
   subst this;obtain⟨k',h1,h2,_⟩:=r.at_ i b hb;rw[hk]at h1;cases h1;exact⟨k,hk,h2,ob,d.at_,hob.mono λ_ _ h=>m.keep h⟩
  .have A:h i=Z x:=by unfold eG at hi;simpa[hid] using hi
   obtain⟨k',h1,h2,ob',h3,h4⟩:=r.at_ i x A;have hne:k'≠k:=λe=>hid (r.inj i id x b k A hb (e▸h1) hk)
   exact⟨k',h1,h2,ob',by rw[d.other k' hne];exact h3,h4.mono λ_ _ h=>m.keep h⟩
theorem qI.wnew {φ:PM} {E:Nat->Prop} {h:HF} {w w':World} (r:qI φ E h w) {id:Nat} (hid:φ id=U) {b:u_} {ob:Obj} (s:Rz w w' ob) (hob:iY φ (tot E φ h) w b ob) (del:ι) (nw:HF) (hnw:nw id=Z b) (hdel:∀i∈del,i≠id->nw i=U):
 ∃φ',φ' id=Z w.heap.size/\iZ φ φ' h (eG h (id::del) nw) w w'/\(∀i k,φ' i=Z k->φ i=Z k\/i∈[id])/\qI φ' E (eG h (id::del) nw) w':=by
 have hsub:∀i x,eG h (id::del) nw i=Z x->i≠id->h i=Z x/\i∉del:=λi x z hi=>by
  unfold eG at z;by_cases hd:i∈del
  .rw[aW (by simp[hd]),hdel i hd hi]at z;cases z
  .rw[aM (by simp[hi,hd])]at z;exact⟨z,hd⟩
 have hlt:∀i x k,h i=Z x->φ i=Z k->k<w.heap.size:=λi x k hi hk=>by
  obtain⟨k',h1,_,ob',A,_⟩:=r.at_ i x hi;rw[hk]at h1;cases h1;exact (cr.1 A).1
 have hφ:∀i,i≠id->(if i=id then Z w.heap.size else φ i)=φ i:=λi hi=>by simp[hi]
 have m:iZ φ (λi=>if i=id then Z w.heap.size else φ i) h (eG h (id::del) nw) w w':=by
  refine ⟨λi k hk=>?_,⟨s.os,s.tape,s.output,by rw[s.size];omega,λj hj _=>s.other j hj,λj hj=>?_⟩,?_⟩
  .have:i≠id:=λe=>by rw[e,hid]at hk;cases hk
   rw[hφ i this];exact hk
  .unfold rk;rw[s.other j hj]
  .rintro j hj ⟨i,x,h1,h2⟩;by_cases hi:i=id
   .simp[hi]at h2;omega
   .have A:φ i=Z j:=by simpa[hi] using h2
    exact⟨i,x,(hsub i x h1 hi).1,A⟩
 refine ⟨_,by simp,m,λi k hk=>?_,⟨λi j x y k hi hj h1 h2=>?_,λi x hi=>?_,λk hk=>dz (r.el k hk) m.ext.size,λg cells hg=>m.keepF (r.gl g cells hg)⟩⟩
 .by_cases hi:i=id
  .right;simp[hi]
  .left;rw[hφ i hi]at hk;exact hk
 .by_cases d:i=id
  .by_cases q:j=id
   .rw[d,q]
   .exfalso;rw[hφ j q]at h2;have:=hlt j y k (hsub j y hj q).1 h2;simp[d]at h1;omega
  .rw[hφ i d]at h1;have hix:=(hsub i x hi d).1;by_cases q:j=id
   .exfalso;have:=hlt i x k hix h1;simp[q]at h2;omega
   .rw[hφ j q]at h2;exact r.inj i j x y k hix (hsub j y hj q).1 h1 h2
 .by_cases d:i=id
  .subst d;have:x=b:=by unfold eG at hi;simp[hnw]at hi;exact hi.symm
   subst this;refine ⟨w.heap.size,by simp,λhe=>?_,ob,s.at_,hob.mono λ_ _ h=>m.keep h⟩;have:=r.el _ he;omega
  .obtain⟨k,h1,h2,ob',A,D⟩:=r.at_ i x (hsub i x hi d).1;refine ⟨k,by rw[hφ i d];exact h1,h2,ob',?_,D.mono λ_ _ h=>m.keep h⟩;rw[s.other k (hlt i x k (hsub i x hi d).1 h1)];exact A
theorem qL (w:World) (ob:Obj):Rz w {w with heap:=w.heap.push ob} ob:=by
 refine ⟨rfl,rfl,rfl,by simp,by simp,λj hj=>?_⟩;rw[Array.getElem?_push,aM (by omega)]
theorem Rz.drawn {w w':World} {ob:Obj} (d:Nat) (h:Rz {w with drawn:=d} w' ob):Rz w w' ob:=⟨h.os,h.tape,h.output,h.size,h.at_,h.other⟩
theorem gD.makes {P:Program} {o:Oper} {e:yW} {h:HF} {rd:ι} {nx:Nat} {b:u_} {val:AV}
 (hv:∀(φ:PM) (E:Nat->Prop) (h':HF) (w:World) (a:Act),(∀i∈rd,h' i=h i)->R9 φ E h' w a e o->qI φ E h' w->
   ∃v w' ob,(execOp a.eval o).run P w= .ok (.value v) w'/\Rz w w' ob/\iY φ (tot E φ h') w b ob/\∀φ' O,φ' nx=Z w.heap.size->cK φ' O w' val v):
 gD P o e.get h ⟨val,rd,[nx],iV [(nx,b)],[nx]⟩:=by
 intro φ E h' w a h1 h2 D d A;obtain⟨v,w',ob,hrun,z,hob,hval⟩:=hv φ E h' w a h1 (λx y s q=>rJ d D s q) d;obtain⟨φ',g1,L,I,F⟩:=d.wnew (id:=nx) (A nx (by simp)) z hob [] (iV [(nx,b)]) (by simp[iV]) (by simp);unfold GY;rw[hrun];exact⟨v,φ',rfl,L,I,F,hval φ' _ g1⟩
theorem gD.writes {P:Program} {o:Oper} {e:yW} {h:HF} {rd:ι} {id:Nat} {b b':u_} {val:AV} (hb:h id=Z b)
 (hv:∀(φ:PM) (E:Nat->Prop) (h':HF) (w:World) (a:Act),(∀i∈rd,h' i=h i)->h' id=Z b->R9 φ E h' w a e o->qI φ E h' w->
   ∃r w' k ob,(execOp a.eval o).run P w= .ok r w'/\φ id=Z k/\Et w w' k ob/\iY φ (tot E φ h') w b' ob/\(∃v,(r= .value v\/r= .skip/\v=undef)/\cK φ (tot E φ (eG h' [id] (iV [(id,b')]))) w' val v)):
 gD P o e.get h ⟨val,rd,[id],iV [(id,b')],[]⟩:=by
 intro φ E h' w a h1 h2 F d I;obtain⟨r,w',k,ob,hrun,hk,D,hob,v,hr,hval⟩:=hv φ E h' w a h1 (by rw[h2 id (by simp)];exact hb) (λx y A z=>rJ d F A z) d;obtain⟨s,q⟩:=d.wset (id:=id) (by rw[h2 id (by simp)];exact hb) hk D hob (iV [(id,b')]) (by simp[iV]);unfold GY;rw[hrun];rcases hr with rfl|⟨rfl,rfl⟩
 .exact⟨v,φ,rfl,s,λ_ _ h=>.inl h,q,hval⟩
 .exact⟨undef,φ,rfl,s,λ_ _ h=>.inl h,q,hval⟩
theorem lY {l:Y AV} (h:gj l=M):∀x∈l,x.isCell=M:=by
 induction l with
 |nil=>intro x d;cases d
 |cons y l q=>
  simp only[gj,ak]at h;intro x d;rcases bx.1 d with rfl|d
  .exact h.1
  .exact q h.2 x d
theorem pF:∀{l:Y AV} {fs:Y FV},w7 l=Z fs->l=fs.map .f
 |[],fs,h=>by simp only[w7,af]at h;subst h;rfl
 |.f x::r,fs,h=>by
  simp only[w7]at h;split at h
  .rename_i l hl;simp only[af]at h;subst h;rw[pF hl];rfl
  .cases h
 |.ptr _ _::_,_,h=>by simp[w7]at h
 |.sl _ _ _::_,_,h=>by simp[w7]at h
 |.row _ _ _::_,_,h=>by simp[w7]at h
 |.mp _::_,_,h=>by simp[w7]at h
 |.emp::_,_,h=>by simp[w7]at h
 |.agg _::_,_,h=>by simp[w7]at h
 |.tup _::_,_,h=>by simp[w7]at h
 |.clo _ _::_,_,h=>by simp[w7]at h
def Cs (φ:PM) (O:Nat->Prop) (w:World) (l:Y AV) (vs:ξ):Prop:=vs.length=l.length/\(∀x∈l,x.isCell=M)/\∀(j:Nat) x v,l[j]? =Z x->vs[j]? =Z v->cK φ O w x v
theorem BC.get_toMx {c:BC} (hc:c.isCells=M) (j:Nat):c.get j=c.toMx[j]? :=by
 cases c with
 |fz l=>simp[BC.get,BC.toMx]
 |mx l=>rfl
 |mp _=>cases hc
 |it _ _=>cases hc
theorem BC.len_toMx {c:BC} (hc:c.isCells=M):c.len=c.toMx.length:=by
 cases c with
 |fz l=>simp[BC.len,BC.toMx]
 |mx l=>rfl
 |mp _=>cases hc
 |it _ _=>cases hc
theorem nJ (l:Y AV):(oB l).toMx=l/\(oB l).isCells=M:=by
 unfold oB;cases h:w7 l with
 |none=>exact⟨rfl,rfl⟩
 |some fs=>exact⟨(pF h).symm,rfl⟩
theorem pR {φ:PM} {O:Nat->Prop} {w:World} {ty:TypeId} {c:BC} (hc:c.isCells=M) {arr:Array Value} (hl:c.toMx.length<=arr.size)
 (h:∀(j:Nat) x,c.toMx[j]? =Z x->x.isCell=M/\∃v,arr[j]? =Z v/\cK φ O w x v):iY φ O w ⟨ty,c⟩ (.cells arr ty (0,0)):=by
 have h2:uN φ O w c arr:=⟨by rw[BC.len_toMx hc];exact hl,λj x d=>h j x (by rw[<- BC.get_toMx hc];exact d)⟩
 unfold iY;cases hb:c with
 |fz l=>rw[hb]at h2;exact⟨arr,rfl,h2⟩
 |mx l=>rw[hb]at h2;exact⟨arr,rfl,h2⟩
 |mp _=>rw[hb]at hc;cases hc
 |it _ _=>rw[hb]at hc;cases hc
theorem HO {φ:PM} {O:Nat->Prop} {w:World} {ty:TypeId} {l:Y AV} {vs:ξ} (h:Cs φ O w l vs):iY φ O w ⟨ty,oB l⟩ (.cells vs.toArray ty (0,0)):=by
 obtain⟨h1,h2⟩:=nJ l;refine pR h2 (by rw[h1];simp[h.1]) λj x d=>?_
 rw[h1]at d;have hj:j<vs.length:=by rw[h.1];exact (bo.1 d).1
 exact⟨h.2.1 x (bi d),vs[j],by simp[hj],h.2.2 j x _ d (aw hj)⟩
theorem Tw {φ:PM} {O:Nat->Prop} {w:World} {x:AV} {v:Value} (h:cK φ O w x v) (hc:gj x.cs=M):Cs φ O w x.cs v.cells.toList:=by
 have one:x.cs=[x]->v.cells=#[v]->Cs φ O w x.cs v.cells.toList:=λh1 h2=>by
  rw[h1]at hc ⊢;rw[h2];exact⟨rfl,lY hc,λj y u d hu=>by cases j with|zero=>simp at d hu;subst d;subst hu;exact h|succ j=>simp at d⟩
 cases h with
 |ptr h=>exact one rfl rfl
 |sl h _ _=>exact one rfl rfl
 |row h _ _ _=>exact one rfl rfl
 |emp=>exact one rfl rfl
 |anyb=>exact one rfl rfl
 |ful _=>exact dR hc (by simp[AV.cs,gj,AV.isCell])
 |mp h=>exact one rfl rfl
 |clo _ _=>exact one rfl rfl
 |tup _ _=>exact dR hc (by simp[AV.cs,gj,AV.isCell])
 |@agg l vs hl hcl hr=>exact⟨hl,hcl,hr⟩
 |@f y u hf=>
  cases hf with
  |raw v=>
   have hv:v.oneCell'=M:=by
    have:(AV.f (.raw v)).cs=[.f (.raw v)]:=rfl;rw[this]at hc;simpa[gj,AV.isCell,FV.isCell] using hc
   refine one rfl ?_;cases v<;>first|rfl|simp[Value.oneCell']at hv
  |nil=>exact one rfl rfl
  |sl=>exact one rfl rfl
  |ptr=>exact one rfl rfl
  |agg l vs hl hcl hr=>
   refine ⟨by simp[AV.cs,Value.cells,hl],lY hc,λj y u d hu=>?_⟩;simp only[AV.cs,bk]at d;cases hq:l[j]? with
   |none=>rw[hq]at d;cases d
   |some q=>rw[hq]at d;simp at d;subst d;exact .f (hr j q u hq (by simpa[Value.cells] using hu))
theorem mA.one {O:Nat->Prop} {w:World} {x:FV} {v:Value} (h:mA O w x v) (hc:x.isCell=M):v.oneCell'=M:=by
 cases h with
 |raw v=>exact hc
 |nil=>rfl
 |sl=>rfl
 |ptr=>rfl
 |agg=>cases hc
theorem cK.one {φ:PM} {O:Nat->Prop} {w:World} {x:AV} {v:Value} (h:cK φ O w x v) (hc:x.isCell=M):v.oneCell'=M:=by
 cases h with
 |f h=>exact h.one hc
 |ptr=>rfl
 |sl=>rfl
 |row=>rfl
 |emp=>rfl
 |anyb=>rfl
 |ful=>cases hc
 |mp=>rfl
 |agg=>cases hc
 |tup=>cases hc
 |clo=>rfl
theorem Cs.one {φ:PM} {O:Nat->Prop} {w:World} {l:Y AV} {vs:ξ} (h:Cs φ O w l vs):∀v∈vs,v.oneCell'=M:=by
 intro v hv;obtain⟨j,hj⟩:=eS hv;have hlt:j<l.length:=by rw[<- h.1];exact (bo.1 hj).1
 exact (h.2.2 j _ v (aw hlt) hj).one (h.2.1 _ (qz hlt))
theorem Cs.append {φ:PM} {O:Nat->Prop} {w:World} {l q:Y AV} {vs vs':ξ} (h:Cs φ O w l vs) (h':Cs φ O w q vs'):Cs φ O w (l++q) (vs++vs'):=by
 refine ⟨by simp[h.1,h'.1],λx d=>(bP.1 d).elim (h.2.1 x) (h'.2.1 x),λj x v d hv=>?_⟩;rcases bN j l.length with hj|hj
 .rw[bV hj]at d;rw[bV (by rw[h.1];exact hj)]at hv;exact h.2.2 j x v d hv
 .rw[ca hj]at d;rw[ca (by rw[h.1];exact hj),h.1]at hv;exact h'.2.2 _ x v d hv
theorem Cs.take {φ:PM} {O:Nat->Prop} {w:World} {l:Y AV} {vs:ξ} (h:Cs φ O w l vs) (n:Nat):Cs φ O w (l.take n) (vs.take n):=by
 refine ⟨by simp[h.1],λx d=>h.2.1 x (fH d),λj x v d hv=>?_⟩;rw[cC]at d hv;split at d
 .rename_i hj;rw[aW hj]at hv;exact h.2.2 j x v d hv
 .cases d
theorem Cs.drop {φ:PM} {O:Nat->Prop} {w:World} {l:Y AV} {vs:ξ} (h:Cs φ O w l vs) (n:Nat):Cs φ O w (l.drop n) (vs.drop n):=by
 refine ⟨by simp[h.1],λx d=>h.2.1 x (List.mem_of_mem_drop d),λj x v d hv=>?_⟩;rw[gW]at d hv;exact h.2.2 _ x v d hv
theorem Cs.splice {φ:PM} {O:Nat->Prop} {w:World} {l d:Y AV} {vs vs':ξ} (h:Cs φ O w l vs) (h':Cs φ O w d vs') (off:Nat):Cs φ O w (splice l off d) (splice vs off vs'):=by
 unfold AI.splice;rw[h'.1];exact ((h.take off).append h').append (h.drop _)
theorem Cs.raws {φ:PM} {O:Nat->Prop} {w:World} (z:ξ) (q:mK z=M):Cs φ O w (z.map raw) z:=by
 refine ⟨by simp,λx d=>?_,λj x v d hv=>?_⟩
 .obtain⟨v,hv,rfl⟩:=cZ.1 d;exact gm.1 q v hv
 .rw[bk]at d;rw[hv]at d;simp at d;subst d;exact .f (.raw v)
theorem Cs.mono {φ φ':PM} {O O':Nat->Prop} {w w':World} {l:Y AV} {vs:ξ} (h:Cs φ O w l vs) (hk:∀x v,cK φ O w x v->cK φ' O' w' x v):Cs φ' O' w' l vs:=⟨h.1,h.2.1,λj x v d hv=>hk _ _ (h.2.2 j x v d hv)⟩
theorem Et.setRow {w:World} {k:Nat} {arr arr':Array Value} {ty:TypeId} (d:w.heap[k]? =Z (.cells arr ty (0,0))) (hs:arr'.size=arr.size):Et w (w.setRow k arr') k (.cells arr' ty (0,0)):=by
 refine ⟨rfl,rfl,rfl,by simp,setRow_heap w k arr arr' ty (0,0) d,λj hj=>setRow_other w k j arr' hj,λj=>?_⟩;unfold rk;by_cases hj:j=k
 .subst hj;rw[setRow_heap w j arr arr' ty (0,0) d,d];simp[hs]
 .rw[setRow_other w k j arr' hj]
section
variable {P:Program} {o:Oper} {e:yW} {h:mh} {nx:Nat} {R:zZ}
theorem sY {t:TypeId} {z:ξ} (d:sA P t=Z z) (w:World):∃v,(zeroValue t).run P w= .ok v w/\v.cells.toList=z/\∃i,P.info? t=Z i/\i.zero=Z v:=by
 unfold sA at d;cases hi:P.info? t with
 |none=>rw[hi]at d;cases d
 |some i=>
  rw[hi]at d;simp only[aD]at d;cases hv:i.zero with
  |none=>rw[hv]at d;cases d
  |some v=>
   rw[hv]at d;simp only[bW,af]at d;exact⟨v,by simp[zeroValue,typeInfo,hi,hv],d,i,rfl,hv⟩
theorem ad7 {t:TypeId} {z:ξ} (D:o.op= .alloc t) (A:sA P t=Z z) (hc:mK z=M) (s:eg (.alloc t z) e h nx=Z R):gD P o e.get h.get R.eff:=by
 simp only[eg,af]at s;subst s;refine gD.makes λφ E h' w a _ _ _=>?_
 obtain⟨v,h1,h2,_⟩:=sY A w;refine ⟨.pointer (Z ⟨w.heap.size,0,U⟩),{w with heap:=w.heap.push (.cells v.cells t)},.cells v.cells t (0,0),?_,qL w _,?_,λφ' O hφ=>.ptr hφ⟩
 .unfold execOp;rw[D];simp[Instr.alloc,h1,newVar,newRow,newObj,kf]
 .have d:BC.toMx (.fz (z.map .raw))=z.map raw:=by simp[BC.toMx,raw]
  refine pR rfl (by rw[d,<-h2];simp) λj x q=>?_
  rw[d]at q;have cs:=Cs.raws (φ:=φ) (O:=tot E φ h') (w:=w) z hc;have hj:j<z.length:=by have:=(bo.1 q).1;simpa using this
  refine ⟨cs.2.1 x (bi q),z[j],?_,cs.2.2 j x _ q (aw hj)⟩;have:v.cells.toList[j]? =Z z[j]:=by rw[h2];exact aw hj
  simpa using this
theorem aj9 {t:TypeId} {x:Operand} (q:o.op= .box t x) (d:eg (.box t x) e h nx=Z R):gD P o e.get h.get R.eff:=by
 simp only[eg]at d;split at d
 .rename_i v s;split at d
  .rename_i hc;simp only[af]at d;subst d;refine gD.makes λφ E h' w a _ hp _=>?_
   have hr:=Tw (hp x _ (by rw[q];simp[Op.operands]) s) hc;refine ⟨.pointer (Z ⟨w.heap.size,0,U⟩),{w with heap:=w.heap.push (.cells (a.eval x).cells t)},.cells (a.eval x).cells t (0,0),?_,qL w _,?_,λφ' O hφ=>.ptr hφ⟩
   .unfold execOp;rw[q];simp[Instr.box,newVar,newRow,newObj,kf]
   .have:=HO (ty:=t) hr;simpa using this
  .cases d
 .cases d
theorem mO {α:Type} {l vs:Y α} {off:Nat} (hle:off+vs.length<=l.length) (j:Nat):(splice l off vs)[j]? =if j<off then l[j]? else if j<off+vs.length then vs[j-off]? else l[j]? :=by
 unfold splice;rw[iz];have h1:(l.take off).length=off:=by simp;omega
 by_cases hj:j<off
 .rw[aW hj,bV (by rw[h1];exact hj),cC,aW hj]
 .rw[aM hj,ca (by omega),h1];by_cases d:j<off+vs.length
  .rw[aW d,bV (by omega)]
  .rw[aM d,ca (by omega),gW];congr 1;omega
theorem oh {α:Type} {l vs:Y α} {off:Nat} (hle:off+vs.length<=l.length):(splice l off vs).length=l.length:=by
 unfold splice;simp;omega
theorem Qg (off:Nat):∀(vs:ξ) (k:Nat) (arr:Array Value),off+k+vs.length<=arr.size->∀j:Nat,
 ((vs.zipIdx k).foldl (λcs (p:Value×Nat)=>cs.setIfInBounds (off+p.2) p.1) arr)[j]? =if j<off+k then arr[j]? else if j<off+k+vs.length then vs[j-(off+k)]? else arr[j]?
 |[],k,arr,_,j=>by
  simp only[List.zipIdx_nil,List.foldl_nil,j6,dc];split<;>rfl
 |v::vs,k,arr,hle,j=>by
  simp only[ch]at hle;rw[List.zipIdx_cons,EB,Qg off vs (k+1) _ (by simp;omega) j];simp only[ch];by_cases h1:j<off+k
  .rw[aW (by omega),aW h1,pH (by omega)]
  .by_cases h2:j=off+k
   .subst h2;rw[aW (by omega),aM (by omega),aW (by omega)];simp[show off+k<arr.size by omega]
   .rw[aM (by omega),aM h1];by_cases d:j<off+k+(vs.length+1)
    .rw[aW (by omega),aW d,show j-(off+k)=(j-(off+(k+1)))+1 from by omega];simp
    .rw[aM (by omega),aM d,pH (by omega)]
theorem Qf (off:Nat) (c:Array Value) (l:ξ) (hle:off+c.size<=l.length):(c.zipIdx.foldl (λcs (p:Value×Nat)=>cs.setIfInBounds (off+p.2) p.1) l.toArray)=(splice l off c.toList).toArray:=by
 rw[<- Array.foldl_toList,Array.toList_zipIdx];apply Array.ext_getElem?;intro j;rw[Qg off c.toList 0 l.toArray (by simpa using hle) j];simp only[dc,ky];rw[mO (by simpa using hle)]
theorem NG {φ:PM} {E:Nat->Prop} {h':HF} {w:World} {a:Act} (hp:R9 φ E h' w a e o) {place:Nat->J (Nat×Nat)}:∀(ps:Y (Nat×Operand)) (ps':Y (Nat×Nat×Operand)) (cells cs:Y AV) (vs:ξ),
 (ps'.length=ps.length)->(∀(j:Nat) i x,ps[j]? =Z (i,x)->∃of sz,ps'[j]? =Z (of,sz,x)/\place i=Z (of,sz))->(∀p∈ps,p.2∈o.op.operands)->Cs φ (tot E φ h') w cells vs->yB cells e ps'=Z cs->
 ∃vs',Instr.fill place vs.toArray (ps.map λp=>(p.1,a.eval p.2))=Z vs'.toArray/\Cs φ (tot E φ h') w cs vs'
 |[],ps',cells,cs,vs,hl,_,_,hcs,hf=>by
  cases ps' with
  |nil=>simp only[yB,af]at hf;subst hf;exact⟨vs,rfl,hcs⟩
  |cons _ _=>simp at hl
 |(i,x)::ps,ps',cells,cs,vs,hl,hpl,hm,hcs,hf=>by
  obtain⟨of,sz,h1,h2⟩:=hpl 0 i x rfl;cases ps' with
  |nil=>simp at h1
  |cons p ps'=>
   simp at h1;subst h1;simp only[yB]at hf;split at hf
   .rename_i v hv;split at hf
    .rename_i hc;simp only[ak,cQ]at hc;obtain⟨⟨s,q⟩,d⟩:=hc;have hr:=Tw (hp x v (hm _ (ep ..)) hv) d;have hsz:(a.eval x).cells.size=sz:=by have:=hr.1;simp at this;omega
     have hle:of+sz<=vs.length:=by rw[hcs.1];exact bc q
     obtain⟨vs',A,z⟩:=NG hp ps ps' _ cs _ (by simpa using hl) (λj i x hj=>by have:=hpl (j+1) i x (by simpa using hj);simpa using this) (λp hp=>hm p (dk _ hp)) (hcs.splice hr of) hf;refine ⟨vs',?_,z⟩;simp only[eY,Instr.fill,h2];have hcd:((decide ((a.eval x).cells.size≠sz))||decide (of+(a.eval x).cells.size>vs.toArray.size))=aa:=by
      rw[hsz];simp;omega
     rw[aM (by rw[hcd];simp)];have:=Qf of (a.eval x).cells vs (by rw[hsz];exact hle);rw[<- A,<-this]
    .cases hf
   .cases hf
theorem Dt {t:TypeId}:∀(ps:Y (Nat×Operand)) (ps':Y (Nat×Nat×Operand)),ww P t ps=Z ps'->ps'.length=ps.length/\∀(j:Nat) i x,ps[j]? =Z (i,x)->∃of sz,ps'[j]? =Z (of,sz,x)/\AQ P t i=Z (of,sz)
 |[],ps',h=>by simp only[ww,af]at h;subst h;exact⟨rfl,λj i x s=>by simp at s⟩
 |(i,x)::ps,ps',h=>by
  simp only[ww]at h;split at h
  .rename_i of sz l h1 h2;simp only[af]at h;subst h;obtain⟨A,z⟩:=Dt ps l h2;refine ⟨by simp[A],λj q d hj=>?_⟩;cases j with
   |zero=>simp at hj;obtain⟨rfl,rfl⟩:=hj;exact⟨of,sz,rfl,h1⟩
   |succ j=>simpa using z j q d (by simpa using hj)
  .cases h
theorem H3 (w:World):∀(fs:Y Field),(fs.all λf=>(e9 P f.type).isSome)=M->(fs.mapM (λf=>do pure (f.offset,<-sizeOf f.type)):Sem (Y (Nat×Nat))).run P w= .ok (fs.map λf=>(f.offset,(e9 P f.type).getD 0)) w
 |[],_=>by simp
 |f::fs,h=>by
  simp only[List.all_cons,ak]at h;obtain⟨sz,hs⟩:=iM.1 h.1;have h1:=fX hs w;have d:=H3 w fs h.2;simp only[List.mapM_cons,eA,h1,cL,oI,d,eY,hs,uo]
theorem VK {t:TypeId} {ps:Array (Nat×Operand)} {z:ξ} {ps':Y (Nat×Nat×Operand)} (s:o.op= .build t ps) (D:sA P t=Z z) (hc:mK z=M) (hps:ww P t ps.toList=Z ps')
 (hu:(∃fs,P.underlying t=Z (.struct fs)/\(fs.toList.all λf=>(e9 P f.type).isSome)=M)\/∃n el sz,P.underlying t=Z (.array n el)/\e9 P el=Z sz) (d:eg (.build z ps') e h nx=Z R):gD P o e.get h.get R.eff:=by
 simp only[eg]at d;split at d
 .rename_i cs hf;rw[du d];refine gD.reads λφ E h' w a _ hp _=>?_
  obtain⟨v,h1,h2,_⟩:=sY D w;have hcells:v.cells=z.toArray:=by rw[<- h2]
  obtain⟨L,I⟩:=Dt ps.toList ps' hps;have hops:∀p∈ps.toList,p.2∈o.op.operands:=λp hp=>by
   rw[s];simp only[Op.operands,List.mem_toArray,cZ];exact⟨p,hp,rfl⟩
  have hmap:(ps.map λx:Nat×Operand=>(x.1,a.eval x.2)).toList=ps.toList.map λp=>(p.1,a.eval p.2):=by simp
  have fin:∀place:Nat->J (Nat×Nat),(∀i,AQ P t i≠U->place i=AQ P t i)->∃vs':ξ,Instr.fill place v.cells (ps.map λx:Nat×Operand=>(x.1,a.eval x.2)).toList=Z vs'.toArray/\cK φ (tot E φ h') w (L4 cs) (.agg vs'.toArray):=by
   intro place hpl;obtain⟨vs',k1,k2⟩:=NG (place:=place) hp ps.toList ps' _ cs z L (λj i x hj=>by
    obtain⟨of,sz,q1,q2⟩:=I j i x hj;exact⟨of,sz,q1,by rw[hpl i (by rw[q2];simp),q2]⟩) hops (Cs.raws z hc) hf
   refine ⟨vs',by rw[hmap,hcells];exact k1,?_⟩;unfold L4;cases hfs:w7 cs with
   |none=>exact .agg k2.1 k2.2.1 k2.2.2
   |some fs=>
    have he:=pF hfs;refine .f (.agg fs vs' (by rw[k2.1,he];simp) (λx q=>k2.2.1 (.f x) (by rw[he];exact cZ.2 ⟨x,q,rfl⟩)) λj x u q hu=>?_);have:=k2.2.2 j (.f x) u (by rw[he,bk,q];rfl) hu;cases this with
    |f h=>exact h
  rcases hu with ⟨fs,hu,hall⟩|⟨n,el,sz,hu,hs⟩
  .obtain⟨vs',k1,k2⟩:=fin (λi=>(fs.map λf=>(f.offset,(e9 P f.type).getD 0))[i]?) (λi hi=>by
    unfold AQ at hi ⊢;rw[hu]at hi ⊢;simp only[Array.getElem?_map]at hi ⊢;cases hf:fs[i]? with
    |none=>rw[hf]at hi;simp at hi
    |some f=>
     simp only[bW,aD];cases hs:e9 P f.type with
     |none=>rw[hf]at hi;simp[hs]at hi
     |some sz=>simp)
   refine ⟨_,?_,k2⟩;have hm:=H3 w fs.toList hall;have A:(fs.mapM (λf=>do pure (f.offset,<-sizeOf f.type)):Sem (Array (Nat×Nat))).run P w= .ok (fs.map λf=>(f.offset,(e9 P f.type).getD 0)) w:=by
    rw[Array.mapM_eq_mapM_toList];simp only[Sem.run_map,hm,cL];congr 1;apply Km;simp
   unfold execOp;rw[s];simp only[Instr.build,eA,h1,cL,run_underlying hu,A,oI,k1]
  .obtain⟨vs',k1,k2⟩:=fin (λi=>Z (i*sz,sz)) (λi hi=>by
    unfold AQ;rw[hu];simp[hs])
   refine ⟨_,?_,k2⟩;have F:=fX hs w;unfold execOp;rw[s];simp only[Instr.build,eA,h1,cL,run_underlying hu,F,oI,k1]
 .cases d
end
section
variable {P:Program} {o:Oper} {e:yW} {h:mh} {nx:Nat} {R:zZ}
theorem r7 {t el:TypeId} (h:Ah P t=Z el):P.underlying t=Z (.slice el):=by
 unfold Ah at h;split at h
 .rename_i e hu;simp only[af]at h;subst h;exact hu
 .cases h
theorem mP (z:ξ):∀n,(repl z n).length=n*z.length
 |0=>by simp[repl]
 |n+1=>by simp[repl,mP z n,iP];omega
theorem BO (z:ξ):∀(n j:Nat),j<n*z.length->(repl z n)[j]? =(z[j%z.length]?).map .raw
 |0,j,h=>by simp at h
 |n+1,j,h=>by
  have d:0<z.length:=by
   rcases rq z.length with h0|h0
   .rw[h0]at h;simp at h
   .exact h0
  rw[repl];rcases bN j z.length with hj|hj
  .rw[bV (by simpa using hj),bk,Nat.mod_eq_of_lt hj]
  .rw[ca (by simpa using hj),cz,BO z n (j-z.length) (by rw[iP]at h;omega),Nat.mod_eq_sub_mod hj]
theorem VV {v:Value} {z:ξ} (hv:v.cells.toList=z) (n sz:Nat) (hl:z.length=sz) (hsz:sz≠0) (j:Nat) (hj:j<n*sz):
 ((xL (n*sz)).map (λi=>v.cells[i%v.cells.size]!))[j]? =z[j%sz]? :=by
 have hs:v.cells.size=sz:=by rw[<- hl,<-hv];simp
 have hlt:j%sz<v.cells.size:=by rw[hs];exact Nat.mod_lt _ (by omega)
 rw[Array.getElem?_map,Array.getElem?_range];simp only[hj,bH,bW,hs];rw[<- hv,cq,getElem!_pos v.cells _ hlt,ij hlt]
theorem Cs.repl {φ:PM} {O:Nat->Prop} {w:World} {v:Value} {z:ξ} (hv:v.cells.toList=z) (n sz:Nat) (hl:z.length=sz) (hsz:sz≠0) (hc:mK z=M):
 Cs φ O w ((repl z n).map .f) ((xL (n*sz)).map (λi=>v.cells[i%v.cells.size]!)).toList:=by
 have key:∀(j:Nat) (x:AV),((AI.repl z n).map AV.f)[j]? =Z x->∃u,z[j%sz]? =Z u/\x=raw u/\j<n*sz:=by
  intro j x d;rw[bk]at d;have hj:j<n*z.length:=by
   rcases bN j (n*z.length) with h|h
   .exact h
   .rw[bK (by rw[mP];exact h)]at d;cases d
  rw[BO z n j hj,hl]at d;cases hu:z[j%sz]? with
  |none=>rw[hu]at d;cases d
  |some u=>rw[hu]at d;simp at d;exact⟨u,rfl,d.symm,by rw[<- hl];exact hj⟩
 refine ⟨by simp[mP,hl],λx d=>?_,λj x u d hu=>?_⟩
 .obtain⟨j,hj⟩:=eS d;obtain⟨u,h1,rfl,_⟩:=key j x hj;exact gm.1 hc u (bi h1)
 .obtain⟨q,h1,rfl,hj⟩:=key j x d;rw[cq,VV hv n sz hl hsz j hj,h1]at hu;cases hu;exact .f (.raw _)
theorem aj8 {t el:TypeId} {n sz:Nat} {ps:Array (Nat×Operand)} {z:ξ} {ps':Y (Nat×Nat×Operand)} (A:o.op= .buildSlice t n ps) (hu:P.underlying t=Z (.slice el)) (F:sA P el=Z z) (hs:e9 P el=Z sz) (hc:mK z=M) (hl:z.length=sz) (hsz:sz≠0) (hb:n*sz<=65536)
 (hps:ww P t ps.toList=Z ps') (d:eg (.bsl el sz n z ps') e h nx=Z R):gD P o e.get h.get R.eff:=by
 simp only[eg]at d;split at d
 .rename_i cs hf;simp only[af]at d;subst d;refine gD.makes λφ E h' w a _ hp _=>?_
  obtain⟨v,h1,h2,_⟩:=sY F w;obtain⟨g1,L⟩:=Dt ps.toList ps' hps;have hops:∀p∈ps.toList,p.2∈o.op.operands:=λp hp=>by
   rw[A];simp only[Op.operands,List.mem_toArray,cZ];exact⟨p,hp,rfl⟩
  have hmap:(ps.map λx:Nat×Operand=>(x.1,a.eval x.2)).toList=ps.toList.map λp=>(p.1,a.eval p.2):=by simp
  obtain⟨vs',k1,k2⟩:=NG (place:=λi=>Z (i*sz,sz)) hp ps.toList ps' _ cs _ g1 (λj i x hj=>by
   obtain⟨of,s',q1,q2⟩:=L j i x hj;unfold AQ at q2;rw[hu]at q2;simp[hs]at q2;obtain⟨rfl,rfl⟩:=q2;exact⟨_,_,q1,rfl⟩) hops (Cs.repl h2 n sz hl hsz hc) hf
  have hcells:(xL (n*sz)).map ((if n*sz=0 then #[] else v.cells)[·%(if n*sz=0 then #[] else v.cells).size]!)=((xL (n*sz)).map (λi=>v.cells[i%v.cells.size]!)).toList.toArray:=by
   by_cases h0:n*sz=0
   .simp[h0]
   .rw[Array.toArray_toList];simp only[aM h0]
  have hlen:vs'.length=n*sz:=by
   have e1:=k2.1;have e2:cs.length=((AI.repl z n).map AV.f).length:=by
    have:∀(ps':Y (Nat×Nat×Operand)) (s q:Y AV),yB s e ps'=Z q->q.length=s.length:=by
     intro ps';induction ps' with
     |nil=>intro s q h;simp only[yB,af]at h;rw[h]
     |cons p ps' D=>
      intro s q h;obtain⟨of,s',x⟩:=p;simp only[yB]at h;split at h
      .split at h
       .rename_i hcc;simp only[ak,cQ]at hcc;rw[D _ _ h,oh (by rw[hcc.1.1];exact bc hcc.1.2)]
       .cases h
      .cases h
    exact this ps' _ _ hf
   rw[e1,e2];simp[mP,hl]
  refine ⟨.slice (Z ⟨w.heap.size,0,U⟩) n n,{w with heap:=w.heap.push (.cells vs'.toArray el)},.cells vs'.toArray el (0,0),?_,qL w _,HO k2,λφ' O hφ=>?_⟩
  .have I:=fX hs w;have hk:Instr.fill (λi=>Z (i*sz,sz)) ((xL (n*sz)).map ((if n*sz=0 then #[] else v.cells)[·%(if n*sz=0 then #[] else v.cells).size]!)) (ps.map λx:Nat×Operand=>(x.1,a.eval x.2)).toList=Z vs'.toArray:=by
    rw[hcells,hmap];exact k1
   unfold execOp;rw[A];simp only[Instr.buildSlice,eA,run_underlying hu,cL,I];rw[aM (by omega)];by_cases h0:n*sz=0
   .simp only[aW h0]at hk ⊢;simp only[eA,oI,cL,hk,newRow,newObj,kf]
   .simp only[aM h0]at hk ⊢;simp only[eA,oI,cL,h1,hk,newRow,newObj,kf]
  .simp only[];split
   .rename_i h0;subst h0;exact .emp
   refine .row hφ (cN _) ?_ ⟨el,?_⟩
   .have:n<=n*sz:=Nat.le_mul_of_pos_right _ (by omega);unfold maxLen;omega
   .unfold rk;simp[hlen]
 .cases d
end
end
end Go.Proofs.YtiaemgcbndhkfaaGreatDoor.AI
