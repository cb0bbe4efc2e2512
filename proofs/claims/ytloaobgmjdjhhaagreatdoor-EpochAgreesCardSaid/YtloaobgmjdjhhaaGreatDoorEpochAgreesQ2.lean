/-
  Texts of the proof, part 3 of 6: what is used to prove the statement. No condition.
-/
import Derived.Test.YtloaobgmjdjhhaaGreatDoorEpochAgreesQ1
import Derived.WalkSpells
import Derived.Laws.CopyRow
import Derived.Deep.AppendSrc
import Derived.Laws.AppendOwn
namespace Go.Proofs.YtloaobgmjdjhhaaGreatDoor.AI
open Go.RowKit
set_option maxRecDepth 100000
set_option maxHeartbeats 4000000
set_option linter.unusedVariables false
set_option linter.unusedSimpArgs false
open _root_.Array renaming length_toList→iF,range→yH
open _root_.Bool renaming true→J,false→af,and_false→Lf
open Call renaming operands→eU
open _root_.Int renaming ofNat_eq_natCast→ak,ofNat→aN,toNat→aQ,reduceEq→aZ,reduceNeg→bn,toNat_natCast→bY
open IntKind renaming wrap→o6
open _root_.List renaming length→ai,replicate→aB,length_cons→b7,length_singleton→dB,take→dJ,range→dN,cons_append→fI,length_nil→gw,nil_append→j_,foldl_cons→FG
open _root_.Nat renaming beq→aA,add_zero→c8
open Oper renaming wp→HC
open _root_.Option renaming some→M,none→D,bind_some→aF,map_some→cj,getD_some→uW
open _root_.Prod renaming p2→aY,p3→bm,p4→bz,q3→bL,p5→cH,q5→cY,q4→dx,p6→eC,q6→fo,p7→kP,q7→lP,q8→qf,p8→Ae
open Result renaming andThen_ok→cO
open Sem renaming run_bind→eM,run→kn,run_pure→oY
open World renaming shape?→rU,cell?→NK
noncomputable section
def GX:Nat->Xp->Prop
 |0,_=>False
 |d+1,e=>e.l.length<=2/\∀x∈e.l,GX d x
theorem GE.x:∀{d:Nat} {e:Xp},GE d e->GX d e
 |0,_,h=>h.elim
 |_+1,_,h=>⟨h.2.2.1,λx a=>(h.2.2.2.1 x a).x⟩
theorem ZE.x {e:Xp} (h:ZE e):GX 4 e:=by
 rcases h with h|rfl
 .exact h.x
 .exact⟨by simp[Xp.l],λx a=>(by cases a)⟩
def GT:Nat->Sx->Prop
 |0,_=>False
 |d+1,s=>s.index.length<=1/\(∀e∈s.index,GX 4 e)/\GX 4 s.expr/\s.body.length<=8/\s.els.length<=8/\(∀x∈s.body,GT d x)/\(∀x∈s.els,GT d x)
theorem GS.t {nT:Nat}:∀{d:Nat} {s:Sx},GS nT d s->GT d s
 |0,_,h=>h.elim
 |_+1,_,⟨_,b,c,_,f,g,i,j,k,_⟩=>⟨b,λe he=>(c e he).x,f.x,g,i,λx a=>(j x a).t,λx a=>(k x a).t⟩
theorem yd (s:Sx):nY (Sx.op s,Sx.line s,Sx.name s,Sx.arg s,Sx.index s,em (Xp.op (Sx.expr s),Xp.n (Sx.expr s),Xp.name (Sx.expr s),Xp.l (Sx.expr s)),Sx.body s,Sx.els s)=s:=by
 rw[fm,yV]
theorem Tb (k:Int):Ok (mB k) λ_=>True:=by
 unfold mB bg jI aE;with_reducible repeat' first|(refine OS.ok ?_;constructor)|refine IM.mk λ_=>?_
 all_goals trivial
theorem qQ (e:Xp):Ok (pw e) λ_=>True:=by
 unfold pw bg aE;with_reducible repeat' first|(refine OS.ok ?_;constructor)|refine IM.mk λ_=>?_
 all_goals trivial
theorem zF:∀(n d:Nat) (e:Xp),d<n->GX d e->Ok (ij n e) λ_=>True
 |0,_,_,h,_=>by omega
 |n+1,0,_,_,h=>h.elim
 |n+1,d+1,e,hn,h=>by
  obtain⟨h1,h2⟩:=h;rw[sI];unfold ml bg bx iU bM cP aE cG;refine aU (λx=>x.2=e) (aK (λ_=>aj (fm e)) λ_=>aj (fm e)) ?_;rintro⟨b,x⟩ q;dsimp only at q;subst q;refine aU (λy=>y.2=x) ?_ ?_
  .refine aw (Tb _) λ_ _=>?_
   with_reducible repeat' first|refine cg (λ_=>?_) λ_=>?_|refine bK (λ_=>?_) λ_=>?_|refine dZ (λ_=>?_) λ_=>?_|refine aP (λ_=>?_) λ_=>?_|exact aj (fm x)|refine aw (iE _) λ_ _=>?_
  rintro⟨s,y⟩ c;dsimp only at c;subst c;refine aP (λ_=>aj trivial) λ_=>?_
  refine ch y.l.length (λi x=>x.1=(i:Int)/\x.2=y) ?_ ?_ ⟨rfl,fm y⟩
  .rintro i ⟨a,z⟩ hi ⟨e1,e2⟩;dsimp only at e1 e2;subst e1;subst e2;refine dg ?_;refine cE (aT ?_);refine aw (zF n d _ (by omega) (h2 _ (bN (T:=.ex) (xs:=z.l) (j:=(i:Int)) (by omega) (by omega)))) λ_ _=>?_
   refine dZ (λ_=>aj trivial) λ_=>aj ?_
   dsimp only;exact⟨gD (by omega),fm z⟩
  .rintro⟨a,z⟩ ⟨e1,e2⟩;dsimp only at e1 e2;subst e1;subst e2;exact dc (aj trivial)
theorem gu (e:Xp) (h:GX 4 e):Ok (jk e) λ_=>True:=zF fuel 4 e (by rw[j7];omega) h
theorem Lq (d:Int×Int×ζ×Int×Int×ζ):Ok (ki d) λ_=>True:=by
 unfold ki aY bm cH fo bg bx iU aE;refine aU (λ_=>True) ?_ λx _=>aP (λ_=>aj trivial) λ_=>?_
 .with_reducible repeat' first|refine cg (λ_=>?_) λ_=>?_|refine bK (λ_=>?_) λ_=>?_|refine dZ (λ_=>?_) λ_=>?_|exact aj trivial|refine aw (iE _) λ_ _=>?_
 refine aU (λ_=>True) ?_ λx _=>aP (λ_=>aj trivial) λ_=>?_
 .with_reducible repeat' first|refine cg (λ_=>?_) λ_=>?_|refine aK (λ_=>?_) λ_=>?_|refine dZ (λ_=>?_) λ_=>?_|exact aj trivial|refine aw (iE _) λ_ _=>?_
 with_reducible repeat' first|(refine OS.ok ?_;constructor)|refine IM.mk λ_=>?_
 all_goals trivial
theorem Hg (a:Sx->I Bool) (rs:Y Sx->I Bool) (l:Y Sx) (hl:l.length<=1000) (h:∀s∈l,Ok (a s) λ_=>True):Ok (jC a rs l) λ_=>True:=by
 unfold jC bx xi aV cP aE cG;refine ch l.length (λi x=>x=(i:Int)) ?_ ?_ rfl
 .rintro i x hi rfl;refine dg ?_;refine cE ?_;refine aw (h _ (bN (T:=.sm) (xs:=l) (j:=(i:Int)) (by omega) (by omega))) λ_ _=>?_
  exact dZ (λ_=>aj trivial) λ_=>aj (gD (by omega))
 .rintro x rfl;exact dc (aj trivial)
theorem Ju (c:Sx->I Bool) (rs:Y Sx->I Bool) (s:Sx) (h1:∀e∈s.index,GX 4 e) (h2:GX 4 s.expr) (hb:Ok (rs s.body) λ_=>True) (he:Ok (rs s.els) λ_=>True):Ok (km c rs s) λ_=>True:=by
 unfold km bg bx jI iU bM aE eo;refine aU (λx=>x.2=s) ?_ ?_
 .with_reducible repeat' first|refine cg (λ_=>?_) λ_=>?_|refine aK (λ_=>?_) λ_=>?_|refine bK (λ_=>?_) λ_=>?_|refine fU (λ_=>?_) λ_=>?_|refine dZ (λ_=>?_) λ_=>?_|refine aP (λ_=>?_) λ_=>?_|exact aj (yd _)|refine aw (iE _) λ_ _=>?_|refine aw (qQ _) λ_ _=>?_|refine aw (gu _ h2x) λ_ _=>?_
 rintro⟨b,x⟩ a;dsimp only at a;have a:=a.symm;subst a;refine aP (λ_=>aj trivial) λ_=>?_
 refine aU (λx=>x.2=s) ?_ ?_
 .with_reducible repeat' first|refine cg (λ_=>?_) λ_=>?_|refine aK (λ_=>?_) λ_=>?_|refine bK (λ_=>?_) λ_=>?_|refine fU (λ_=>?_) λ_=>?_|refine dZ (λ_=>?_) λ_=>?_|refine aP (λ_=>?_) λ_=>?_|exact aj (yd _)|refine aw (iE _) λ_ _=>?_|refine aw (qQ _) λ_ _=>?_|refine aw (gu _ h2x) λ_ _=>?_
 rintro⟨b,x⟩ a;dsimp only at a;have a:=a.symm;subst a;refine aU (λx=>x.2=s) ?_ ?_
 .with_reducible repeat' first|refine cg (λ_=>?_) λ_=>?_|refine aK (λ_=>?_) λ_=>?_|refine bK (λ_=>?_) λ_=>?_|refine fU (λ_=>?_) λ_=>?_|refine dZ (λ_=>?_) λ_=>?_|refine aP (λ_=>?_) λ_=>?_|exact aj (yd _)|refine aw (iE _) λ_ _=>?_|refine aw (qQ _) λ_ _=>?_|refine aw (gu _ h2x) λ_ _=>?_
 rintro⟨b,x⟩ a;dsimp only at a;have a:=a.symm;subst a;refine aP (λ_=>aj trivial) λ_=>?_
 refine aU (λx=>x.2=s) ?_ ?_
 .with_reducible repeat' first|refine cg (λ_=>?_) λ_=>?_|refine aK (λ_=>?_) λ_=>?_|refine bK (λ_=>?_) λ_=>?_|refine fU (λ_=>?_) λ_=>?_|refine dZ (λ_=>?_) λ_=>?_|refine aP (λ_=>?_) λ_=>?_|exact aj (yd _)|refine aw (iE _) λ_ _=>?_|refine aw (qQ _) λ_ _=>?_|refine aw (gu _ h2x) λ_ _=>?_
 rintro⟨b,x⟩ a;dsimp only at a;have a:=a.symm;subst a;refine aP (λ_=>aj trivial) λ_=>?_
 refine aU (λx=>x.2=s) ?_ ?_
 .with_reducible repeat' first|refine cg (λ_=>?_) λ_=>?_|refine aK (λ_=>?_) λ_=>?_|refine bK (λ_=>?_) λ_=>?_|refine fU (λ_=>?_) λ_=>?_|refine dZ (λ_=>?_) λ_=>?_|refine aP (λ_=>?_) λ_=>?_|exact aj (yd _)|refine aw (iE _) λ_ _=>?_|refine aw (qQ _) λ_ _=>?_|refine aw (gu _ h2x) λ_ _=>?_
  all_goals
   rename_i g;dsimp only[ak]at g;refine cE (aT ?_);refine aw (gu _ (h1 _ (bN (T:=.ex) (xs:=Sx.index _) (j:=0) (by omega) (by omega)))) λ_ _=>aj (yd _)
 rintro⟨b,x⟩ a;dsimp only at a;have a:=a.symm;subst a;refine aP (λ_=>aj trivial) λ_=>?_
 refine aU (λx=>x.2=s) ?_ ?_
 .with_reducible repeat' first|refine cg (λ_=>?_) λ_=>?_|refine aK (λ_=>?_) λ_=>?_|refine bK (λ_=>?_) λ_=>?_|refine fU (λ_=>?_) λ_=>?_|refine dZ (λ_=>?_) λ_=>?_|refine aP (λ_=>?_) λ_=>?_|exact aj (yd _)|refine aw (iE _) λ_ _=>?_|refine aw (qQ _) λ_ _=>?_|refine aw (gu _ h2x) λ_ _=>?_
 rintro⟨b,x⟩ a;dsimp only at a;have a:=a.symm;subst a;refine aU (λx=>x.2=s) ?_ ?_
 .have h2x:GX 4 (em (Xp.op (Sx.expr s),Xp.n (Sx.expr s),Xp.name (Sx.expr s),Xp.l (Sx.expr s))):=by rw[fm];exact h2
  with_reducible repeat' first|refine cg (λ_=>?_) λ_=>?_|refine aK (λ_=>?_) λ_=>?_|refine bK (λ_=>?_) λ_=>?_|refine fU (λ_=>?_) λ_=>?_|refine dZ (λ_=>?_) λ_=>?_|refine aP (λ_=>?_) λ_=>?_|exact aj (yd _)|refine aw (iE _) λ_ _=>?_|refine aw (qQ _) λ_ _=>?_|refine aw (gu _ h2x) λ_ _=>?_
 rintro⟨b,x⟩ a;dsimp only at a;have a:=a.symm;subst a;refine aP (λ_=>aj trivial) λ_=>?_
 refine aU (λx=>x.2=s) ?_ ?_
 .with_reducible repeat' first|refine cg (λ_=>?_) λ_=>?_|refine aK (λ_=>?_) λ_=>?_|refine bK (λ_=>?_) λ_=>?_|refine fU (λ_=>?_) λ_=>?_|refine dZ (λ_=>?_) λ_=>?_|refine aP (λ_=>?_) λ_=>?_|exact aj (yd _)|refine aw (iE _) λ_ _=>?_|refine aw (qQ _) λ_ _=>?_|refine aw (gu _ h2x) λ_ _=>?_
 rintro⟨b,x⟩ a;dsimp only at a;have a:=a.symm;subst a;refine aU (λx=>x.2=s) ?_ ?_
 .with_reducible repeat' first|refine cg (λ_=>?_) λ_=>?_|refine aK (λ_=>?_) λ_=>?_|refine bK (λ_=>?_) λ_=>?_|refine fU (λ_=>?_) λ_=>?_|refine dZ (λ_=>?_) λ_=>?_|refine aP (λ_=>?_) λ_=>?_|exact aj (yd _)|refine aw (iE _) λ_ _=>?_|refine aw (qQ _) λ_ _=>?_|refine aw (gu _ h2x) λ_ _=>?_
 rintro⟨b,x⟩ a;dsimp only at a;have a:=a.symm;subst a;refine aP (λ_=>aj trivial) λ_=>?_
 refine aU (λ_=>True) ?_ λ_ _=>aj trivial
 refine aw hb λ_ _=>aP (λ_=>aw he λ_ _=>aj trivial) λ_=>aj trivial
theorem JB:∀(n:Nat),(∀(d:Nat) (s:Sx),2*d<n->GT d s->Ok (eE n s) λ_=>True)/\(∀(d:Nat) (l:Y Sx),2*d+1<n->l.length<=1000->(∀s∈l,GT d s)->Ok (dF n l) λ_=>True)
 |0=>⟨λd _ h=>by omega,λd _ h=>by omega⟩
 |n+1=>by
  obtain⟨c,a⟩:=JB n;refine ⟨λd s hd h=>?_,λd l hd hl h=>?_⟩
  .cases d with
   |zero=>exact h.elim
   |succ d=>
    obtain⟨_,L,A,Z,U,z,q⟩:=h;exact Ju (eE n) (dF n) s L A (a d _ (by omega) (by omega) z) (a d _ (by omega) (by omega) q)
  .exact Hg (eE n) (dF n) l hl λs hs=>c d s (by omega) (h s hs)
theorem KZ (d:Nat) (hd:d<=100) (l:Y Sx) (hl:l.length<=1000) (h:∀s∈l,GT d s):Ok (nW l) λ_=>True:=(JB fuel).2 d l (by rw[j7];omega) hl h
abbrev DT:Type:=Int×Int×ζ×Int×Int×ζ
abbrev HT:Type:=ζ×Int×Y ζ×Y Sx
abbrev PG:Type:=Y DT×Y HT
structure PX (p:PG):Prop where
 d:p.1.length<=100
 t:p.2.length<=8
 l:∀t∈p.2,t.2.2.1.length<=100
 b:∀t∈p.2,t.2.2.2.length<=100
 s:∀t∈p.2,∀s∈t.2.2.2,GT 5 s
theorem Ze (p:PG) (h:PX p):Ok (pQ p) λ_=>True:=by
 obtain⟨hd,ht,hl,hb,hs⟩:=h;unfold pQ aY bz cY bx bM aV cP aE cG;refine ch p.1.length (λi x=>x.1=(i:Int)/\x.2=p) ?_ ?_ ⟨rfl,rfl⟩
 .rintro i ⟨a,x⟩ hi ⟨e1,e2⟩;dsimp only at e1 e2;subst e1;subst e2;refine dg ?_;refine cE (aT ?_);refine aw (Lq _) λ_ _=>?_
  exact dZ (λ_=>aj trivial) λ_=>aj ⟨gD (by omega),rfl⟩
 rintro⟨a,x⟩ ⟨e1,e2⟩;dsimp only at e1 e2;subst e1;subst e2;refine dc ?_;refine aw (P:=λ_=>True) ?_ λ_ _=>aj trivial
 refine ch x.2.length (λi y=>y.1=(i:Int)/\y.2=x) ?_ ?_ ⟨rfl,rfl⟩
 .rintro i ⟨a,x⟩ hi ⟨e1,e2⟩;dsimp only at e1 e2;subst e1;have e2:=e2.symm;subst e2;refine dg ?_;refine cE (aT ?_);have hm:=bN (T:=yT) (xs:=x.2) (j:=(i:Int)) (by omega) (by omega);have h1:=hl _ hm;have h2:=hb _ hm;have s:=hs _ hm;revert h1 h2 s;generalize (aJ (T:=yT) x.2 (i:Int))=t;intro h1 h2 s;refine ch t.2.2.1.length (λk y=>y.1=(k:Int)/\y.2=(x,t)) ?_ ?_ ⟨rfl,rfl⟩
  .rintro k ⟨a,z⟩ hk ⟨q,c⟩;dsimp only at q c;subst q;subst c;refine dg ?_;refine cE (aT ?_);refine aw (iE _) λ_ _=>?_
   exact dZ (λ_=>aj trivial) λ_=>aj ⟨gD (by omega),rfl⟩
  .rintro⟨a,z⟩ ⟨q,c⟩;dsimp only at q c;subst q;subst c;refine dc ?_;refine aw (P:=λr=>match r with|.inl y=>y.1=((i+1:Nat):Int)/\y.2=x|.inr _=>True) ?_ ?_
   .refine aU (λy=>y.2=x) ?_ ?_
    .refine aw (iE _) λ_ _=>dZ (λ_=>aj rfl) λ_=>?_
     exact aw (KZ 5 (by omega) _ (by dsimp only;omega) s) λ_ _=>aj rfl
    rintro⟨b,y⟩ e;dsimp only at e;subst e;exact aP (λ_=>aj trivial) λ_=>aj ⟨gD (by omega),rfl⟩
   .rintro (y|y) A
    .exact aj A
    .exact aj trivial
 .rintro⟨a,y⟩ ⟨e1,e2⟩;dsimp only at e1 e2;subst e1;subst e2;exact dc (aj trivial)
theorem xg (l:Y DT) (s:ζ) (hl:l.length<=1000):Ok (ii (l,s)) λr=> -1<=r/\r<(l.length:Int):=by
 unfold ii bx bM aV cP aE cG;refine ch l.length (λi x=>x=(i:Int)) ?_ ?_ rfl
 .rintro i x hi rfl;refine dg ?_;refine cE (aT ?_);exact aK (λ_=>aj ⟨by omega,by omega⟩) λ_=>aj (gD (by omega))
 .rintro x rfl;exact dc (aj ⟨by omega,by omega⟩)
theorem sN (l:Y HT) (s:ζ) (hl:l.length<=1000):Ok (gU (l,s)) λr=> -1<=r/\r<(l.length:Int):=by
 unfold gU bx bM aV cP aE cG;refine ch l.length (λi x=>x=(i:Int)) ?_ ?_ rfl
 .rintro i x hi rfl;refine dg ?_;refine cE (aT ?_);exact aK (λ_=>aj ⟨by omega,by omega⟩) λ_=>aj (gD (by omega))
 .rintro x rfl;exact dc (aj ⟨by omega,by omega⟩)
def DD (p:PG) (s:ζ):Prop:=∃v,ii (p.1,s)=M v/\0<=v/\v<(p.1.length:Int)
theorem Zp (p:PG) (h:PX p) (t:Int) (s:ζ):Ok (pP (p,t,s)) λk=>k≠0->k≠7->k≠8->DD p s:=by
 have hd:=h.d;have ht:=h.t;unfold pP bg bx jI iU xi bM aV aE;refine aU (λx=>x.2=p) ?_ ?_
 .refine fU (λz=>bK (λq=>?_) λ_=>aj rfl) λ_=>aj rfl
  dsimp only[ak]at z q;refine aR z q (aT ?_);have hm:=h.l _ (bN (T:=yT) (xs:=p.2) (j:=t) z q);exact aw (yF _ s (dy hm (by omega))) λ_ _=>aj rfl
 rintro⟨b,x⟩ e;dsimp only at e;have e:=e.symm;subst e;refine aP (λ_=>aj λ_ _ h=>(h rfl).elim) λ_=>?_
 obtain⟨v,hv,v0,c⟩:=xg p.1 s (by omega);refine aS hv ?_;refine bK (λ_=>?_) λg=>?_
 .exact aw (sN p.2 s (by omega)) λ_ _=>fU (λ_=>aj λ_ h=>(h rfl).elim) λ_=>aj λh=>(h rfl).elim
 have a:DD p s:=⟨v,hv,g,c⟩
 refine aR g c (aT ?_);refine aK (λ_=>?_) λ_=>?_
 .exact aR g c (aT (cg (λ_=>aj λ_ _ _=>a) λ_=>aj λ_ _ _=>a))
 refine aK (λ_=>aj λ_ _ _=>a) λ_=>?_
 refine aU (λx=>x.2=p) (aK (λ_=>aj rfl) λ_=>aK (λ_=>aj rfl) λ_=>aK (λ_=>aj rfl) λ_=>aj rfl) ?_;rintro⟨b,x⟩ e;dsimp only at e;have e:=e.symm;subst e;exact aP (λ_=>aR g c (aT (aj λ_ _ _=>a))) λ_=>aj λ_ _ _=>a
theorem o7 (p:PG) (h:PX p) (t:Int) (s:ζ) (a b:Int):Ok (gI (p,t,s,a,b)) λr=>r=0->(a≠7/\a≠8)->(b≠7/\b≠8)->DD p s:=by
 unfold gI aY bm dx bg iU aE;refine aw (Zp p h t s) λk hk=>?_
 refine aK (λ_=>aj λh=>(by cases h)) λg=>?_
 refine aU (λx=>x=af->k=a\/k=b) ?_ ?_
 .refine cg (λ_=>aj λh=>?_) λh=>aj λ_=>.inl h
  simp at h;exact .inr h
 rintro x c;refine aP (λ_=>aj λh=>(by cases h)) λh=>aj λ_ h1 h2=>hk g ?_ ?_
 .rcases c h with h|h<;>omega
 .rcases c h with h|h<;>omega
theorem M5:∀(n d:Nat) (e:Xp),d<n->GX d e->Ok (nH n e) λ_=>True
 |0,_,_,h,_=>by omega
 |n+1,0,_,_,h=>h.elim
 |n+1,d+1,e,hn,h=>by
  obtain⟨h1,h2⟩:=h;rw[yl];unfold uy bx bM cP aE cG;refine ch e.l.length (λi x=>x.1.2.2=(i:Int)/\x.2=e) ?_ ?_ ⟨rfl,fm e⟩
  .rintro i ⟨⟨a,b,c⟩,z⟩ hi ⟨e1,e2⟩;dsimp only at e1 e2;subst e1;subst e2;refine dg ?_;refine cE (aT ?_);refine aw (M5 n d _ (by omega) (h2 _ (bN (T:=.ex) (xs:=z.l) (j:=(i:Int)) (by omega) (by omega)))) λ_ _=>aj ?_
   exact⟨gD (by omega),fm z⟩
  .rintro⟨⟨a,b,c⟩,z⟩ ⟨e1,e2⟩;dsimp only at e1 e2;subst e1;subst e2;exact dc (aj trivial)
theorem F6 (p:PG) (hp:PX p) (t:Int):∀(n d:Nat) (e:Xp),d<n->GX d e->Ok (nG n (p,t,e)) λ_=>True
 |0,_,_,h,_=>by omega
 |n+1,0,_,_,h=>h.elim
 |n+1,d+1,e,hn,h=>by
  obtain⟨h1,h2⟩:=h;rw[yk];unfold ux bg bx bM cP aE cG;refine aU (λx=>x.2.1=p/\x.2.2=e) ?_ ?_
  .refine aK (λ_=>aw (o7 p hp t _ _ _) λ_ _=>aj ⟨rfl,fm e⟩) λ_=>aK (λ_=>aw (o7 p hp t _ _ _) λ_ _=>aj ⟨rfl,fm e⟩) λ_=>aj ⟨rfl,fm e⟩
  rintro⟨r,z,e'⟩ ⟨s,q⟩;dsimp only at s q;have s:=s.symm;subst s;have q:=q.symm;subst q;refine qi (λx=>((e.l.length:Int)-x.1.2).toNat) (λx=>0<=x.1.2/\x.2.1=p/\x.2.2=e) ?_ ⟨du _,rfl,fm e⟩;rintro⟨⟨a,(b:Int)⟩,z,e'⟩ ⟨b0,s,q⟩;dsimp only at b0 s q;have s:=s.symm;subst s;have q:=q.symm;subst q;refine aU (λx=>x.2.1=p/\x.2.2=e/\(x.1=J->b<(e.l.length:Int))) ?_ ?_
  .exact bK (λg=>aj ⟨rfl,fm e,λ_=>g⟩) λ_=>aj ⟨rfl,fm e,λh=>(by cases h)⟩
  rintro⟨c,z,e'⟩ ⟨s,q,A⟩;dsimp only at s q A;have s:=s.symm;subst s;have q:=q.symm;subst q;refine aP (λhc=>?_) λ_=>aj trivial
  have g:=A hc;refine aR b0 g (aT ?_);refine aw (F6 p hp t n d _ (by omega) (h2 _ (bN (T:=.ex) (xs:=e.l) (j:=b) b0 g))) λ_ _=>aj ?_
  dsimp only;rw[iI (n:=b+1) (by omega) (by omega)];exact⟨⟨by omega,rfl,fm e⟩,by omega⟩
theorem xf (p:PG) (hp:PX p) (t:Int) (e:Xp) (h:GX 4 e):Ok (mA (p,t,e)) λ_=>True:=by
 unfold mA bx aE;have q:GX 4 (em (Xp.op e,Xp.n e,Xp.name e,Xp.l e)):=by rw[fm];exact h
 refine aw (gu _ q) λ_ _=>dZ (λ_=>aj trivial) λ_=>?_
 refine aw (M5 fuel 4 _ (by rw[j7];omega) q) λ_ _=>?_
 refine aU (λx=>x.2.1=p/\x.2.2=e) (bK (λ_=>aj ⟨rfl,fm e⟩) λ_=>aj ⟨rfl,fm e⟩) ?_;rintro⟨r,s,e'⟩ ⟨c,a⟩;dsimp only at c a;have c:=c.symm;subst c;have a:=a.symm;subst a;exact aP (λ_=>aj trivial) λ_=>aw (F6 p hp t fuel 4 _ (by rw[j7];omega) q) λ_ _=>aj trivial
theorem fG (b:Bool):Ok (c5 b) λ_=>True:=by
 unfold c5;exact aP (λ_=>aj trivial) λ_=>aj trivial
theorem uc (x:ν):Ok (je x) λr=>r=0->x.1=0/\x.2=0:=by
 unfold je iU;exact cg (λh=>aj λh2=>(h h2).elim) λh=>aj λh2=>⟨h,h2⟩
abbrev WK:Type:=(Y DT×Y HT×Int)×(Bool×Y Sx)×Y ζ×Y ζ
theorem X9 (a b:Int) (s:ζ) (w:WK) (h:w.2.1.2.length<=100):Ok (dW ((a,b,s),w)) λy=>y.2=w:=by
 unfold dW aY bg bx lG aV cP aE cG;refine ch w.2.1.2.length (λi x=>x.1=(i:Int)/\x.2=w) ?_ ?_ ⟨rfl,rfl⟩
 .rintro i ⟨c,x⟩ hi ⟨e1,e2⟩;dsimp only at e1 e2;subst e1;have e2:=e2.symm;subst e2;refine dg ?_;refine cE (cE (aT ?_));refine aU (λx=>x.2=w) ?_ ?_
  .refine aK (λ_=>aK (λ_=>aj rfl) λ_=>aj rfl) λ_=>aK (λ_=>aK (λ_=>aj rfl) λ_=>aj rfl) λ_=>aj rfl
  rintro⟨c,x⟩ e;dsimp only at e;have e:=e.symm;subst e;exact aP (λ_=>aj rfl) λ_=>aj ⟨gD (by omega),rfl⟩
 .rintro⟨c,x⟩ ⟨e1,e2⟩;dsimp only at e1 e2;subst e1;have e2:=e2.symm;subst e2;exact dc (aj rfl)
def P0:Nat->Sx->Nat
 |0,_=>0
 |d+1,s=>1+(s.body.map (P0 d)).sum+(s.els.map (P0 d)).sum
def nO (d:Nat) (l:Y Sx):Nat:=(l.map (P0 d)).sum
def KS:Nat->Nat
 |0=>0
 |d+1=>1+16*KS d
theorem NY {α:Type} {f:α->Nat} {k:Nat}:∀{l:Y α},(∀x∈l,f x<=k)->(l.map f).sum<=l.length*k
 |[],_=>by simp
 |x::r,h=>by
  have:=NY (l:=r) λy a=>h y (bV _ a)
  have:=h x (cQ ..);rw[eS,List.sum_cons,b7,iZ];omega
theorem Vz:∀{d:Nat} {s:Sx},GT d s->P0 d s<=KS d
 |0,_,h=>h.elim
 |d+1,s,⟨_,_,_,U,L,A,z⟩=>by
  have a:=NY (f:=P0 d) (l:=s.body) λx q=>Vz (A x q)
  have b:=NY (f:=P0 d) (l:=s.els) λx q=>Vz (z x q)
  have c:=cL (KS d) U;have e:=cL (KS d) L;show 1+_+_<=1+16*KS d;omega
theorem Pd:∀{d:Nat} {s:Sx},GT d s->P0 (d+1) s=P0 d s
 |0,_,h=>h.elim
 |d+1,s,⟨_,_,_,_,_,q,c⟩=>by
  show 1+(s.body.map (P0 (d+1))).sum+(s.els.map (P0 (d+1))).sum=1+(s.body.map (P0 d)).sum+(s.els.map (P0 d)).sum;rw[mq λx a=>Pd (q x a),mq λx a=>Pd (c x a)]
theorem abx {d:Nat} {l:Y Sx} (h:∀s∈l,GT d s):nO d l<=l.length*KS d:=NY λx a=>Vz (h x a)
theorem wX {d:Nat} {l:Y Sx} {i:Nat} (hi:i<l.length):nO d (l.take (i+1))=nO d (l.take i)+P0 d (aJ (T:=.sm) l (i:Int)):=by
 unfold nO;rw[ou (T:=.sm) hi,cS,FE];simp
theorem Pe {d:Nat} (l:Y Sx) (i:Nat):nO d (l.take i)<=nO d l:=by
 conv=>rhs;rw[<- BA i l]
 unfold nO;rw[cS,FE];omega
theorem E_:∀(n d:Nat) (l:Y Sx),d<n->l.length<=1000->(∀s∈l,GT d s)->KS d<=100000->nI n l=M ((nO d l:Nat):Int)
 |0,_,_,h,_,_,_=>by omega
 |n+1,d,l,hn,hl,h,q=>by
  refine cD ?_;rw[ym];unfold uz bx xi aV cP aE cG;have hb:=abx h;have c:=Nat.mul_le_mul hl q;refine ch l.length (λi x=>x.2=(i:Int)/\x.1=(l.length:Int)-i+(nO d (l.take i):Nat)) ?_ ?_ ⟨rfl,by simp[nO]⟩
  .rintro i ⟨a,b⟩ hi ⟨e1,e2⟩;dsimp only at e1 e2;subst e1;subst e2;have hp:=Pe (d:=d) l (i+1);rw[wX hi]at hp;refine dg ?_;refine cE (aT ?_);rw[wX hi];have hm:=h _ (bN (T:=.sm) (xs:=l) (j:=(i:Int)) (by omega) (by omega));revert hm hp;generalize (aJ (T:=.sm) l (i:Int))=s;intro hp hm;cases d with
   |zero=>exact hm.elim
   |succ d=>
    obtain⟨_,_,_,U,L,A,z⟩:=hm;have hk:KS (d+1)=1+16*KS d:=rfl;have hc:P0 (d+1) s=1+nO d s.body+nO d s.els:=rfl;rw[hc]at hp ⊢;refine aS (E_ n d _ (by omega) (by omega) A (by omega)) ?_;refine cE (aT ?_);refine aS (E_ n d _ (by omega) (by omega) z (by omega)) (aj ⟨gD (by omega),?_⟩);dsimp only;rw[iI (n:=(l.length:Int)-i+(nO (d+1) (l.take i):Nat)+(nO d s.body:Nat)) (by omega) (by omega),iI (by omega) (by omega)];omega
  .rintro⟨a,b⟩ ⟨e1,e2⟩;dsimp only at e1 e2;subst e1;subst e2;rw[cK];exact dc (aj (by dsimp only;omega))
theorem U7 (l:Y DT) (hl:l.length<=100):Ok (rA l) λ_=>True:=by
 unfold rA aY bm bz bL dx fo bg bx jI iU bH bM aV cP aE cG;refine ch l.length (λi x=>x.2.2.2.2=(i:Int)) ?_ ?_ rfl
 .rintro i ⟨a,b,c,d,e⟩ hi e1;dsimp only at e1;subst e1;refine dg ?_;refine aU (λ_=>True) ?_ λx _=>aj (gD (by omega))
  refine cE (aT ?_);have htk:(dJ (aQ (i:Int)) l).length<=100:=by rw[bA];omega
  refine cX (dA (by dsimp only;omega) (dA (by dsimp only;omega) ?_));refine aw (xg _ _ (dy htk (by omega))) λv hv=>?_
  refine fU (λ_=>aj trivial) λ_=>bK (λ_=>aj trivial) λ_=>?_
  refine aU (λ_=>True) ?_ λx _=>?_
  .refine aU (λ_=>True) (aK (λ_=>aj trivial) λ_=>aj trivial) λx _=>aP (λ_=>aj trivial) λ_=>?_
   refine aU (λ_=>True) (aK (λ_=>aj trivial) λ_=>aj trivial) λx _=>aP (λ_=>aj trivial) λ_=>?_
   exact aK (λ_=>aj trivial) λ_=>aj trivial
  refine aU (λ_=>True) (bK (λ_=>aj trivial) λ_=>bK (λ_=>aj trivial) λ_=>bK (λ_=>aj trivial) λ_=>aj trivial) λx _=>aP (λ_=>aj trivial) λ_=>?_
  refine aK (λ_=>?_) λ_=>aj trivial
  refine cX (dA (by dsimp only;omega) (dA (by dsimp only;omega) ?_));refine aw (xg _ _ (dy htk (by omega))) λv hv=>?_
  refine bK (λ_=>aj trivial) λg=>?_
  have h2:=hv.2;rw[bA]at h2;exact aR g (by dsimp only at h2 ⊢;omega) (aT (cg (λ_=>aj trivial) λ_=>aj trivial))
 .rintro⟨a,b,c,d,e⟩ e1;dsimp only at e1;subst e1;exact dc (aj trivial)
theorem NU (p:PG) (h:PX p):Ok (nV p) λ_=>True:=by
 have hd:=h.d;have ht:=h.t;unfold nV aY bm bz bx jI bH bM aV cP aE cG;refine ch p.2.length (λi x=>x.1=(i:Int)/\x.2=p) ?_ ?_ ⟨rfl,rfl⟩
 .rintro i ⟨a,x⟩ hi ⟨e1,e2⟩;dsimp only at e1 e2;subst e1;have e2:=e2.symm;subst e2;refine dg ?_;refine cE (aT ?_);refine aU (λx=>x.2.1=p) ?_ ?_
  .refine aw (xg _ _ (by dsimp only;omega)) λv hv=>fU (λ_=>aj rfl) λ_=>?_
   refine cX (dA (by dsimp only;omega) (dA (by dsimp only;omega) ?_));exact aw (sN _ _ (by rw[bA];dsimp only;omega)) λ_ _=>aj rfl
  rintro⟨b,x,z⟩ e;dsimp only at e;have e:=e.symm;subst e;exact aP (λ_=>aj trivial) λ_=>aj ⟨gD (by omega),rfl⟩
 rintro⟨a,x⟩ ⟨e1,e2⟩;dsimp only at e1 e2;subst e1;have e2:=e2.symm;subst e2;refine dc ?_;refine aw (P:=λ_=>True) ?_ λ_ _=>aj trivial
 refine ch p.2.length (λi x=>x.1=(i:Int)/\x.2=p) ?_ ?_ ⟨rfl,rfl⟩
 .rintro i ⟨a,x⟩ hi ⟨e1,e2⟩;dsimp only at e1 e2;subst e1;have e2:=e2.symm;subst e2;refine dg ?_;refine cE (aT ?_);have hm:=h.l _ (bN (T:=yT) (xs:=p.2) (j:=(i:Int)) (by omega) (by omega));revert hm;generalize (aJ (T:=yT) p.2 (i:Int))=t;intro hm;refine bK (λ_=>aj trivial) λ_=>?_
  refine ch t.2.2.1.length (λk y=>y.1=(k:Int)/\y.2=(p,t)) ?_ ?_ ⟨rfl,rfl⟩
  .rintro k ⟨a,z⟩ hk ⟨q,c⟩;dsimp only at q c;subst q;subst c;refine dg ?_;refine cE (aT ?_);refine aU (λx=>x.2=(p,t)) ?_ ?_
   .refine aw (xg _ _ (by dsimp only;omega)) λv hv=>fU (λ_=>aj rfl) λ_=>?_
    refine aw (sN _ _ (by dsimp only;omega)) λv hv=>fU (λ_=>aj rfl) λ_=>?_
    refine cX (dA (by dsimp only;omega) (dA (by dsimp only;omega) ?_));exact aw (yF _ _ (by rw[bA];dsimp only;omega)) λ_ _=>aj rfl
   rintro⟨b,x⟩ e;dsimp only at e;subst e;exact aP (λ_=>aj trivial) λ_=>aj ⟨gD (by omega),rfl⟩
  .rintro⟨a,z⟩ ⟨q,c⟩;dsimp only at q c;subst q;subst c;exact dc (aj ⟨gD (by omega),rfl⟩)
 .rintro⟨a,x⟩ ⟨e1,e2⟩;dsimp only at e1 e2;subst e1;have e2:=e2.symm;subst e2;exact dc (aj trivial)
structure WQ (w:WK) (y:Int×WK):Prop where
 p:y.2.1=w.1
 a:y.2.2.1=w.2.1
 s:y.2.2.2.1.length<=w.2.2.1.length+1
 t:y.2.2.2.2.length<=w.2.2.2.length+1
theorem WQ.same (w:WK) (e:Int):WQ w (e,w):=⟨rfl,rfl,Nat.le_succ _,Nat.le_succ _⟩
theorem aiz (s:Sx) (z:Y DT) (T:Y HT) (t:Int) (A:Bool×Y Sx) (sp se:Y ζ) (hp:PX (z,T)) (hA:A.2.length<=100) (h1:sp.length<=100000000) (h2:se.length<=100000000) (q:∀e∈s.index,GX 4 e) (he:GX 4 s.expr):Ok (my (s,((z,T,t),A,sp,se))) (WQ ((z,T,t),A,sp,se)):=by
 have hex:GX 4 (em (Xp.op s.expr,Xp.n s.expr,Xp.name s.expr,Xp.l s.expr)):=by rw[fm];exact he
 have hin:∀(a b:Int) (n:ζ),Ok (dW ((a,b,n),((z,T,t),A,sp,se))) λy=>y.2=((z,T,t),A,sp,se):=λa b n=>X9 a b n _ hA
 have hth:T.length<=1000:=by have:=hp.t;dsimp only at this;omega
 have hdl:z.length<=1000:=by have:=hp.d;dsimp only at this;omega
 have sm:∀e,WQ ((z,T,t),A,sp,se) (e,((z,T,t),A,sp,se)):=WQ.same _;unfold my aY bm bz cH bL dx cY fo bg jI iU bH bM aE eo;refine aw (hin _ _ _) λy c=>?_
 obtain⟨b1,L⟩:=y;dsimp only at c;subst c;refine bf (by simp) ?_;refine aw (hin _ _ _) λy c=>?_
 obtain⟨b2,L⟩:=y;dsimp only at c;subst c;refine bf (by simp) ?_;refine aw (hin _ _ _) λy c=>?_
 obtain⟨b3,L⟩:=y;dsimp only at c;subst c;refine bf (by simp) ?_;refine aK (λ_=>?_) λ_=>?_
 .refine aK (λ_=>?_) λg=>?_
  .exact aw (o7 _ hp _ _ _ _) λ_ _=>aw (xf _ hp _ _ hex) λ_ _=>aw (uc _) λ_ _=>aj (sm _)
  .refine aw (o7 _ hp _ _ _ _) λ_ _=>?_
   dsimp only[ak]at g;refine cE (aT ?_);refine aw (xf _ hp _ _ (q _ (bN (T:=.ex) (xs:=s.index) (j:=0) (by omega) (by omega)))) λ_ _=>?_
   exact aw (xf _ hp _ _ hex) λ_ _=>aw (uc _) λ_ _=>aw (uc _) λ_ _=>aj (sm _)
 refine aU (λx=>x.2=((z,T,t),A,s,(z,T),sp,se)) (aK (λ_=>aj (by dsimp only;rw[yd])) λ_=>aj (by dsimp only;rw[yd])) ?_;rintro⟨b,x⟩ e;dsimp only at e;subst e;refine aP (λ_=>aw (xf _ hp _ _ hex) λ_ _=>aj (sm _)) λ_=>?_
 refine aK (λ_=>?_) λ_=>?_
 .refine aU (λx=>WQ ((z,T,t),A,sp,se) x) ?_ λx q=>aj q
  refine aw (o7 _ hp _ _ _ _) λ_ _=>aP (λ_=>?_) λ_=>?_
  .exact aw (fG _) λ_ _=>aw (uc _) λ_ _=>aj (sm _)
  .refine aw (hin _ _ _) λy c=>?_
   obtain⟨U,L⟩:=y;dsimp only at c;subst c;exact bf (by simp) (aw (fG _) λ_ _=>aw (uc _) λ_ _=>aj (sm _))
 refine aU (λx=>x.2=((z,T,t),A,s,(z,T),sp,se)) (aK (λ_=>aj (by dsimp only;rw[yd])) λ_=>aj (by dsimp only;rw[yd])) ?_;rintro⟨b,x⟩ e;dsimp only at e;subst e;refine aP (λ_=>?_) λ_=>?_
 .refine aU (λx=>WQ ((z,T,t),A,sp,se) x) ?_ λx q=>aj q
  refine aw (o7 _ hp _ _ _ _) λ_ _=>aP (λ_=>?_) λ_=>?_
  .exact aw (fG _) λ_ _=>aw (uc _) λ_ _=>aj (sm _)
  .refine aw (hin _ _ _) λy c=>?_
   obtain⟨U,L⟩:=y;dsimp only at c;subst c;exact bf (by simp) (aw (fG _) λ_ _=>aw (uc _) λ_ _=>aj (sm _))
 refine aK (λ_=>aw (fG _) λ_ _=>aj (sm _)) λ_=>?_
 refine aK (λ_=>?_) λ_=>?_
 .refine aU (λx=>WQ ((z,T,t),A,sp,se) x) ?_ λx q=>aj q
  exact aP (λ_=>aw (fG _) λ_ _=>aj (sm _)) λ_=>aw (fG _) λ_ _=>aj (sm _)
 refine aU (λx=>x.2=((z,T,t),A,s,(z,T),sp,se)) (aK (λ_=>aj (by dsimp only;rw[yd])) λ_=>aK (λ_=>aj (by dsimp only;rw[yd])) λ_=>aj (by dsimp only;rw[yd])) ?_;rintro⟨b,x⟩ e;dsimp only at e;subst e;refine aP (λ_=>?_) λ_=>?_
 .refine aw (o7 _ hp _ _ _ _) λr hr=>cg (λ_=>aj (sm _)) λg=>?_
  obtain⟨v,hv,v0,Z⟩:=hr g (by omega) (by omega);refine aS hv (aR v0 Z (aT ?_));refine aw (hin _ _ _) λy c=>?_
  obtain⟨U,L⟩:=y;dsimp only at c;subst c;refine bf (by simp) ?_;refine aU (λx=>WQ ((z,T,t),A,sp,se) x) ?_ λx q=>aj q
  refine aP (λ_=>aw (fG _) λ_ _=>aj (sm _)) λ_=>dZ (λ_=>aw (fG _) λ_ _=>aj (sm _)) λ_=>?_
  exact aK (λ_=>aw (fG _) λ_ _=>aj (sm _)) λ_=>aw (fG _) λ_ _=>aj (sm _)
 refine aK (λ_=>?_) λ_=>?_
 .refine aw (o7 _ hp _ _ _ _) λr hr=>cg (λ_=>aj (sm _)) λg=>?_
  refine aw (sN T _ hth) λv hv=>?_
  refine aU (λx=>x.2=((z,T,t),A,s,sp,se)) ?_ ?_
  .refine aP (λ_=>aj (by dsimp only;rw[yd])) λ_=>aP (λ_=>aj (by dsimp only;rw[yd])) λ_=>aP (λ_=>aj (by dsimp only;rw[yd])) λ_=>aK (λ_=>aj (by dsimp only;rw[yd])) λ_=>aj (by dsimp only;rw[yd])
  rintro⟨b,x⟩ e;dsimp only at e;subst e;refine aP (λ_=>aj (sm _)) λ_=>?_
  refine aw (yF sp _ (by omega)) λ_ _=>fU (λ_=>aj (sm _)) λ_=>?_
  exact bd (by simp;omega) (by omega) (aj ⟨rfl,rfl,by simp,Nat.le_succ _⟩)
 refine aK (λ_=>?_) λ_=>?_
 .refine aU (λx=>WQ ((z,T,t),A,sp,se) x) ?_ λx q=>aj q
  refine aw (o7 _ hp _ _ _ _) λr hr=>?_
  refine aP (λ_=>aw (fG _) λ_ _=>aw (uc _) λ_ _=>aj (sm _)) λ_=>?_
  refine aP (λ_=>aw (fG _) λ_ _=>aw (uc _) λ_ _=>aj (sm _)) λ_=>?_
  exact aw (sN T _ hth) λv hv=>aw (fG _) λ_ _=>aw (uc _) λ_ _=>aj (sm _)
 refine aK (λ_=>?_) λ_=>?_
 .refine aU (λx=>x.2=((z,T,t),A,s,(z,T),sp,se)) ?_ ?_
  .refine aw (o7 _ hp _ _ _ _) λr hr=>?_
   exact aP (λ_=>aw (fG _) λ_ _=>aw (uc _) λ_ _=>aj (by dsimp only;rw[yd])) λ_=>aw (fG _) λ_ _=>aw (uc _) λ_ _=>aj (by dsimp only;rw[yd])
  rintro⟨b,x⟩ e;dsimp only at e;subst e;refine aU (λx=>x.2=((z,T,t),A,s,(z,T),sp,se)) ?_ ?_
  .refine aU (λx=>x.2=((z,T,t),A,s,(z,T),sp,se)) ?_ ?_
   .exact aK (λ_=>aw (yF se _ (by omega)) λ_ _=>aj (by dsimp only;rw[yd])) λ_=>aj (by dsimp only;rw[yd])
   rintro⟨b,x⟩ e;dsimp only at e;subst e;exact aP (λ_=>aj (by dsimp only;rw[yd])) λ_=>aj (by dsimp only;rw[yd])
  rintro⟨b,x⟩ e;dsimp only at e;subst e;refine bd (by simp;omega) (by omega) ?_;exact aw (xf _ hp _ _ hex) λ_ _=>aw (uc _) λ_ _=>aj ⟨rfl,rfl,Nat.le_succ _,by simp⟩
 exact aw (o7 _ hp _ _ _ _) λ_ _=>aw (o7 _ hp _ _ _ _) λ_ _=>aw (fG _) λ_ _=>aw (uc _) λ_ _=>aw (uc _) λ_ _=>aj (sm _)
abbrev RA4:Type:=(Y Sx×WK)->I (ν×WK)
structure QA (l:List Sx) (d:Nat) (w:WK) (y:ν×WK):Prop where
 p:y.2.1=w.1
 a:y.2.2.1.2.length=w.2.1.2.length
 s:y.2.2.2.1.length<=w.2.2.1.length+l.length*KS d
 t:y.2.2.2.2.length<=w.2.2.2.length+l.length*KS d
def SpA (rr:RA4) (d:Nat):Prop:=∀(l:Y Sx) (w:WK),l.length<=100->(∀s∈l,GT d s)->PX (w.1.1,w.1.2.1)->w.2.1.2.length+d<=50->w.2.2.1.length+l.length*KS d<=100000000->w.2.2.2.length+l.length*KS d<=100000000->Ok (rr (l,w)) (QA l d w)
theorem afc (rr:RA4) (d:Nat) (hr:∀d',d=d'+1->SpA rr d'):SpA (mD rr) d:=by
 rintro l ⟨⟨z,T,t⟩,A,sp,se⟩ hl hg hp hA h1 h2;dsimp only at hp hA h1 h2;have hK:∀i:Nat,i<=l.length->i*KS d<=l.length*KS d:=λi hi=>cL _ hi
 unfold mD aY bm bz bL dx cY ck bg bx iU bH bM aV cP aE cG eo;refine ch l.length (λi x=>x.1=(i:Int)/\x.2.1=(z,T,t)/\x.2.2.1.2.length=A.2.length/\x.2.2.2.1.length<=sp.length+i*KS d/\x.2.2.2.2.length<=se.length+i*KS d) ?_ ?_ ⟨rfl,rfl,rfl,by simp,by simp⟩
 .rintro i ⟨a,P,A',sp',se'⟩ hi ⟨e1,e2,e3,Z,U⟩;dsimp only at e1 e2 e3 Z U;subst e1;subst e2;have hKi:=hK (i+1) (by omega);have hKs:=iZ i (KS d);rw[Nat.succ_eq_add_one]at hKs;refine dg ?_;refine cE (aT ?_);have hm:=hg _ (bN (T:=.sm) (xs:=l) (j:=(i:Int)) (by omega) (by omega));revert hm;generalize (aJ (T:=.sm) l (i:Int))=s;intro hm;cases d with
  |zero=>exact hm.elim
  |succ d=>
   have hR:=hr d rfl;obtain⟨_,g2,g3,g4,g5,g6,g7⟩:=hm;have hk:KS (d+1)=1+16*KS d:=rfl;have kb:s.body.length*KS d<=8*KS d:=cL _ g4;have ke:s.els.length*KS d<=8*KS d:=cL _ g5;dsimp only;rw[yd];refine aw (aiz s z T t A' sp' se' hp (by omega) (by omega) (by omega) g2 g3) λy L=>?_
   obtain⟨e,P2,A2,sp2,se2⟩:=y;obtain⟨q,c,q3,q4⟩:=L;dsimp only at q c q3 q4;subst q;subst c;refine bf (by simp) ?_;refine aU (λx=>x.2=((z,T,t),s,A2,sp2,se2)) (bK (λ_=>aj rfl) λ_=>aj rfl) ?_;rintro⟨e,x⟩ ex;dsimp only at ex;subst ex;refine cg (λ_=>aj ⟨rfl,e3,by dsimp only;omega,by dsimp only;omega⟩) λ_=>?_
   refine bd (by simp;omega) (by omega) (aR (by simp) (by simp;omega) (aR (by simp) (by simp;omega) ?_));dsimp only;rw[yd];refine aw (hR s.body ((z,T,t),(A2.1,cI (A2.2++[_]) _ s),sp2,se2) (by omega) g6 hp ?_ ?_ ?_) λy L=>?_
   .dsimp only;rw[bU];simp;omega
   .dsimp only;omega
   .dsimp only;omega
   obtain⟨e6,P6,A6,sp6,se6⟩:=y;obtain⟨q,c,q5,q6⟩:=L;dsimp only at q c q5 q6;subst q;rw[bU,be,dB]at c;refine bf (by simp) ?_;refine aU (λx=>x.2.1=(z,T,t)/\x.2.2.1.2.length=A2.2.length+1/\x.2.2.2.1.length<=sp2.length+16*KS d/\x.2.2.2.2.length<=se2.length+16*KS d) ?_ ?_
   .refine aK (λ_=>?_) λ_=>aj ⟨rfl,c,by dsimp only;omega,by dsimp only;omega⟩
    refine aw (hR s.els ((z,T,t),A6,sp6,se6) (by omega) g7 hp (by dsimp only;omega) (by dsimp only;omega) (by dsimp only;omega)) λy L=>?_
    obtain⟨e7,P7,A7,sp7,se7⟩:=y;obtain⟨r1,r2,r5,r6⟩:=L;dsimp only at r1 r2 r5 r6;subst r1;exact bf (by simp) (aj ⟨rfl,r2.trans c,by dsimp only;omega,by dsimp only;omega⟩)
   rintro⟨e8,P8,A8,sp8,se8⟩ ⟨r1,r2,r5,r6⟩;dsimp only at r1 r2 r5 r6;subst r1;have el:bl .i64 ((aN A8.2.length)-1)=(A2.2.length:Int):=by
    rw[r2,iI (by simp<;>omega) (by simp<;>omega)];simp<;>omega
   dsimp only;rw[el];have tk:(dJ (aQ (A2.2.length:Int)) A8.2).length=A2.2.length:=by rw[bA];omega
   refine cX (dA (by omega) (Am (by rw[r2];omega) ?_));refine cg (λ_=>aj ⟨rfl,by dsimp only;omega,by dsimp only;omega,by dsimp only;omega⟩) λ_=>aj ?_
   exact⟨gD (by omega),rfl,by dsimp only;omega,by dsimp only;omega,by dsimp only;omega⟩
 .rintro⟨a,P,A',sp',se'⟩ ⟨e1,e2,e3,Z,U⟩;dsimp only at e1 e2 e3 Z U;subst e1;subst e2;exact dc (aj ⟨rfl,e3,Z,U⟩)
theorem Xi:∀(n d:Nat),d<n->SpA (iL n) d
 |0,_,h=>by omega
 |n+1,d,h=>afc (iL n) d λa hd=>Xi n a (by omega)
theorem D_ (p:PG) (h:PX p):Ok (fw p) λr=>r.1=0->(p.2.map λt=>nO 5 t.2.2.2).sum<=60:=by
 have hd:=h.d;have ht:=h.t;unfold fw aY bm bz bL cY bx iU bH bM aV cP aE cG;refine aw (Ze p h) λ_ _=>dZ (λ_=>aj λh=>(by cases h)) λ_=>?_
 refine aw (U7 p.1 hd) λ_ _=>cg (λhn=>aj λh=>(hn h).elim) λ_=>bK (λ_=>aj λh=>(by cases h)) λ_=>?_
 refine aw (NU p h) λ_ _=>cg (λhn=>aj λh=>(hn h).elim) λ_=>?_
 have L:KS 5=69905:=rfl;refine ch p.2.length (λi x=>x.1.2=(i:Int)/\x.2=p/\x.1.1=((((p.2.take i).map λt=>nO 5 t.2.2.2).sum:Nat):Int)/\(x.1.1:Int)<=((i*6990500:Nat):Int)) ?_ ?_ ⟨rfl,rfl,by simp,by simp⟩
 .rintro i ⟨⟨(c:Int),a⟩,x⟩ hi ⟨e1,e2,e3,q⟩;dsimp only at e1 e2 e3 q;subst e1;have e2:=e2.symm;subst e2;refine dg ?_;refine cE (aT ?_);have hm:=bN (T:=yT) (xs:=p.2) (j:=(i:Int)) (by omega) (by omega);have hb:=h.b _ hm;have hcb:=abx (h.s _ hm);have hcb2:=cL (KS 5) hb;rw[L]at hcb hcb2;refine aS (E_ fuel 5 _ (by rw[j7];omega) (dy hb (by omega)) (h.s _ hm) (by rw[L];omega)) (aj ⟨gD (by omega),rfl,?_,?_⟩)
  .dsimp only;rw[ou (T:=yT) hi,cS,FE,iI (by omega) (by omega),e3];simp
  .dsimp only;rw[iI (by omega) (by omega)];omega
 rintro⟨⟨(c:Int),a⟩,x⟩ ⟨e1,e2,e3,q⟩;dsimp only at e1 e2 e3 q;subst e1;have e2:=e2.symm;subst e2;rw[cK]at e3;refine dc ?_;refine aw (P:=λr=>r.1=0->(p.2.map λt=>nO 5 t.2.2.2).sum<=60) ?_ λ_ h=>aj h
 refine bK (λ_=>aj λh=>(by cases h)) λU=>?_
 have U:c<=60:=U;refine ch p.2.length (λi x=>x.1=(i:Int)/\x.2.1=p/\x.2.2.1.1=p.1/\x.2.2.1.2.1=p.2/\x.2.2.2.1.2.length=0/\x.2.2.2.2.1.length<=i*6990500/\x.2.2.2.2.2.length<=i*6990500) ?_ ?_ ⟨rfl,rfl,rfl,rfl,rfl,by simp,by simp⟩
 .rintro i ⟨a,x,⟨z,T,t⟩,A,sp,se⟩ hi ⟨e1,e2,e3,q,e5,e6,e7⟩;dsimp only at e1 e2 e3 q e5 e6 e7;subst e1;have e2:=e2.symm;subst e2;subst e3;subst q;refine dg ?_;refine cE (aT ?_);have hm:=bN (T:=yT) (xs:=p.2) (j:=(i:Int)) (by omega) (by omega);have hb:=h.b _ hm;have hs:=h.s _ hm;revert hb hs;dsimp only;generalize (aJ (T:=yT) p.2 (i:Int))=th;intro hb hs;have hk:KS 5=69905:=rfl;have hle:th.2.2.2.length*KS 5<=100*KS 5:=cL _ hb;rw[hk]at hle;refine aw (Xi fuel 5 (by rw[j7];omega) th.2.2.2 ((p.1,p.2,(i:Int)),A,sp,se) hb hs h (by dsimp only;omega) (by dsimp only;rw[hk];omega) (by dsimp only;rw[hk];omega)) λy hy=>?_
  obtain⟨e,P2,A2,sp2,se2⟩:=y;obtain⟨Z,q2,q3,q4⟩:=hy;dsimp only at Z q2 q3 q4;subst Z;rw[hk]at q3 q4;refine bf (by simp) (cg (λhn=>aj λh=>(hn h).elim) λ_=>aj ?_);exact⟨gD (by omega),rfl,rfl,rfl,by dsimp only;omega,by dsimp only;omega,by dsimp only;omega⟩
 .rintro⟨a,x,P,w⟩ ⟨e1,e2,_⟩;dsimp only at e1 e2;subst e1;have e2:=e2.symm;subst e2;exact dc (aj λ_=>by omega)
theorem c7 {R:Type} {o o':I R} {Q:R->Prop} (h:o=o') (hk:Ok o' Q):Ok o Q:=h▸hk
def D0:Y DT:=[(1,0,[120],0,0,[]),(1,0,[121],0,1,[]),(2,0,[118],0,0,[]),(1,0,[113],2,0,[]),(3,0,[109],0,0,[]),(3,0,[110],0,0,[]),(4,0,[114],0,0,[]),(5,0,[99],0,0,[109]),(6,0,[102],0,0,[])]
def L0:Y ζ:=[[97],[98]]
set_option maxHeartbeats 20000000 in
theorem amr:∃r,fw (D0,[([109,97,105,110],0,L0,[nY (1,0,[120],[],[],em (1,1,[],[]),[],[])])])=M r/\r.1=0:=by
 suffices h:Ok (fw (D0,[([109,97,105,110],0,L0,[nY (1,0,[120],[],[],em (1,1,[],[]),[],[])])])) λr=>r.1=0 by
  obtain⟨y,h1,h2⟩:=h;exact⟨y,h1,h2⟩
 unfold fw aY bm bz bL cY bx iU bH bM aV cP aE cG;with_reducible repeat' first|exact aj rfl|refine WO ?_|refine WN ?_|refine WM ?_|refine WJ ?_|refine Qx ?_|refine aen ?_|refine aT ?_|refine fO rfl ?_|refine fX rfl ?_|refine bf rfl ?_|refine WL ?_|refine Qy ?_|refine c7 (pQ.eq_1 ..) ?_|refine c7 (ki.eq_1 ..) ?_|refine c7 (fh.eq_1 ..) ?_|refine c7 (jN.eq_1 ..) ?_|refine c7 (kG.eq_1 ..) ?_|refine c7 (lJ.eq_1 ..) ?_|refine c7 (px.eq_1 ..) ?_|refine c7 (rB.eq_1 ..) ?_|refine c7 (nW.eq_1 ..) ?_|refine c7 (jC.eq_1 ..) ?_|refine c7 (km.eq_1 ..) ?_|refine c7 (ml.eq_1 ..) ?_|refine c7 (jk.eq_1 ..) ?_|refine c7 (mB.eq_1 ..) ?_|refine c7 (pw.eq_1 ..) ?_|refine c7 (rA.eq_1 ..) ?_|refine c7 (ii.eq_1 ..) ?_|refine c7 (nV.eq_1 ..) ?_|refine c7 (gU.eq_1 ..) ?_|refine c7 (jf.eq_1 ..) ?_|refine c7 (BY.eq_1 ..) ?_|refine c7 (uz.eq_1 ..) ?_|refine c7 (vH.eq_1 ..) ?_|refine c7 (mD.eq_1 ..) ?_|refine c7 (my.eq_1 ..) ?_|refine c7 (dW.eq_1 ..) ?_|refine c7 (gI.eq_1 ..) ?_|refine c7 (pP.eq_1 ..) ?_|refine c7 (mA.eq_1 ..) ?_|refine c7 (BX.eq_1 ..) ?_|refine c7 (uy.eq_1 ..) ?_|refine c7 (BW.eq_1 ..) ?_|refine c7 (ux.eq_1 ..) ?_|refine c7 (je.eq_1 ..) ?_|refine c7 (c5.eq_1 ..) ?_|refine c7 (ck.eq_1 ..) ?_|refine c7 (congrFun (gR dF j7) _) ?_|refine c7 (yK _ _) ?_|refine c7 (congrFun (gR eE j7) _) ?_|refine c7 (zC _ _) ?_|refine c7 (congrFun (gR ij j7) _) ?_|refine c7 (sI _ _) ?_|refine c7 (congrFun (gR nI j7) _) ?_|refine c7 (ym _ _) ?_|refine c7 (congrFun (gR iL j7) _) ?_|refine c7 (B_ _ _) ?_|refine c7 (congrFun (gR nH j7) _) ?_|refine c7 (yl _ _) ?_|refine c7 (congrFun (gR nG j7) _) ?_|refine c7 (yk _ _) ?_
 all_goals trace_state
structure TM (nT:Nat) (t:HT):Prop where
 l:t.2.2.1=L0
 b:t.2.2.2.length<=8
 s:∀s∈t.2.2.2,GS nT 3 s
structure PJ (p:PG):Prop where
 d:p.1=D0
 t0:1<=p.2.length
 t:p.2.length<=4
 m:∀t∈p.2,TM p.2.length t
 n:p.2.map Prod.fst=vZ.take p.2.length
theorem PJ.x {p:PG} (h:PJ p):PX p:=⟨by rw[h.d];decide,by have:=h.t;omega,λt ht=>by rw[(h.m t ht).l];decide,λt ht=>by have:=(h.m t ht).b;omega,λt ht s hs=>((h.m t ht).s s hs).le (by omega:3<=5) |>.t⟩
theorem RM:sC ()=M D0:=rfl
theorem acq:∀m:Nat,m<5->∀j:Nat,j<m->aJ (T:=.str) vZ (j:Int)∈vZ.take m:=by decide
theorem Qh {nT:Nat} (op:Int) {n:ζ} (c:op=12\/op=13) (hn:n∈vZ.take nT):GS nT 3 (nY (op,0,n,[],[],em (0,0,[],[]),[],[])):=GS.wo (by omega) (by simp) (λx a=>(by cases a)) (by rcases c with rfl|rfl<;>(constructor<;>simp[Sx.op,Sx.name,Sx.index,Sx.arg,Sx.els,Sx.body]<;>exact hn))
theorem G7 (x:η) (hl:x.length<=9223372036854775807) (hx:∀z∈x,0<=z/\z<=255):Ok (oP x) λp=>PJ p/\∃r,fw p=M r/\r.1=0:=by
 unfold oP aY bm bz cH eC kP Ae bL fo lP qf Prod.q9 bg bx iU bH lG cP aE cG eo;refine aS RM ?_;refine aw (gy 3 (x,0) ⟨hl,hx,by dsimp only;omega,by dsimp only;omega⟩) λy L=>?_
 obtain⟨n,t0⟩:=y;obtain⟨s0,n0,n1,_⟩:=L;have n1:=n1 (by decide);dsimp only at s0 n0 n1;have ew:bl .i64 (2+n)=2+n:=iI (by omega) (by omega);obtain⟨nT,hnT⟩:∃m:Nat,2+n=(m:Int):=⟨(2+n).toNat,by omega⟩
 refine ch nT (λi x=>x.1=(i:Int)/\x.2.2.1=D0/\x.2.2.2.1=vZ/\TP x.2.2.2.2.1/\x.2.2.2.2.2.1.2=[]/\x.2.2.2.2.2.2.map Prod.fst=vZ.take i/\∀t∈x.2.2.2.2.2.2,TM nT t) ?_ ?_ ⟨rfl,rfl,rfl,s0.p,rfl,rfl,λt ht=>(by cases ht)⟩
 .rintro i ⟨a,m,A,N,t,h,th⟩ hi ⟨e1,e2,e3,e4,e5,e6,e7⟩;dsimp only at e1 e2 e3 e4 e5 e6 e7;subst e1;subst e2;refine bK (λg=>?_) λg=>(by dsimp only at g;rw[ew]at g;omega)
  have l4:N.length=4:=by rw[e3];rfl
  refine cE (cE (aT ?_));have hthl:th.length=i:=by have:=gR ai e6;rw[bR,bA]at this;have q4:vZ.length=4:=rfl;omega
  refine aU (λx=>x.2.2.2.1.1=aJ (T:=.str) N (i:Int)/\x.2.1=D0/\x.2.2.1=vZ/\TP x.2.2.2.2.1/\x.2.2.2.2.2.1.2=[]/\x.2.2.2.2.2.2.1=th/\x.2.2.2.2.2.2.2.1=L0/\x.2.2.2.2.2.2.2.2.length<=3/\∀s∈x.2.2.2.2.2.2.2.2,GS nT 3 s) ?_ ?_
  .refine aK (λ_=>?_) λ_=>aj ⟨rfl,rfl,e3,e4,e5,rfl,rfl,by simp,λs hs=>(by cases hs)⟩
   refine ch (1+n).toNat (λk x=>x.2.2.2.2.1.1=aJ (T:=.str) N (i:Int)/\x.1=1+(k:Int)/\x.2.2.1=D0/\x.2.2.2.1=vZ/\TP x.2.2.2.2.2.1/\x.2.2.2.2.2.2.1.2=[]/\x.2.2.2.2.2.2.2.1=th/\x.2.2.2.2.2.2.2.2.1=L0/\x.2.2.2.2.2.2.2.2.2.length<=k/\∀s∈x.2.2.2.2.2.2.2.2.2,GS nT 3 s) ?_ ?_ ⟨rfl,rfl,rfl,e3,e4,e5,rfl,rfl,by simp,λs hs=>(by cases hs)⟩
   .rintro k ⟨c,m1,D1,N1,z1,t1,h1,th1,l1,b1⟩ hk ⟨fz,f1,f2,q,f4,U,f6,f7,f8,Z⟩;dsimp only at fz f1 f2 q f4 U f6 f7 f8 Z;subst f1;refine bK (λ_=>?_) λg=>(by dsimp only at g;rw[ew]at g;omega)
    have l41:N1.length=4:=by rw[q];rfl
    refine cE (cE (aT ?_));refine bd (by simp;omega) (by omega) (aj ?_);dsimp only;rw[iI (n:=1+(k:Int)+1) (by omega) (by omega)];refine ⟨fz,by omega,f2,q,f4,U,f6,f7,by simp;omega,λs hs=>?_⟩;rcases bO.1 hs with hs|hs
    .exact Z s hs
    .rw[aI]at hs;rw[hs];refine Qh 12 (.inl rfl) ?_;rw[q,show 1+(k:Int)=((1+k:Nat):Int) by omega];exact acq nT (by omega) (1+k) (by omega)
   .rintro⟨c,m1,D1,N1,z1,t1,h1,th1,l1,b1⟩ ⟨fz,f1,f2,q,f4,U,f6,f7,f8,Z⟩;dsimp only at fz f1 f2 q f4 U f6 f7 f8 Z;subst f1;refine bK (λg=>(by dsimp only at g;rw[ew]at g;omega)) λ_=>aj ?_
    exact⟨fz,f2,q,f4,U,f6,f7,by dsimp only;omega,Z⟩
  rintro⟨m1,D1,N1,z1,t1,h1,th1,l1,b1⟩ ⟨fz,f2,q,f4,U,f6,f7,f8,Z⟩;dsimp only at fz f2 q f4 U f6 f7 f8 Z;subst f2;subst f6;subst f7;refine aw (gy 3 t1 f4) λy L=>?_
  obtain⟨k2,t2⟩:=y;obtain⟨u1,u2,u3,_⟩:=L;have u3:=u3 (by decide);dsimp only at u1 u2 u3;dsimp only;rw[iI (n:=1+k2) (by omega) (by omega)];refine aw (X5 (nT:=nT) 2 (by omega) (1+k2) m1 t2 h1 (by omega) u1.p (by rw[U];simp)) λy L=>?_
  obtain⟨m3,t3,h3,l3⟩:=y;obtain⟨w1,w2,w3,w4⟩:=L;dsimp only at w1 w2 w3 w4;refine bf (by simp) (bd (by simp;omega) (by omega) ?_);have hbody:∀s∈b1++l3,GS nT 3 s:=λs hs=>by
   rcases bO.1 hs with hs|hs
   .exact Z s hs
   .exact w2 s hs
  have hlen:(b1++l3).length<=6:=by rw[be];omega
  refine aU (λx=>x.2.2.2.1.1=aJ (T:=.str) N (i:Int)/\x.2.1=D0/\x.2.2.1=vZ/\TP x.2.2.2.2.1/\x.2.2.2.2.2.1.2=[]/\x.2.2.2.2.2.2.1=th1/\x.2.2.2.2.2.2.2.1=L0/\x.2.2.2.2.2.2.2.2.length<=8/\∀s∈x.2.2.2.2.2.2.2.2,GS nT 3 s) ?_ ?_
  .refine aU (λx=>x.2.2.2.2.1.1=aJ (T:=.str) N (i:Int)/\x.2.2.1=D0/\x.2.2.2.1=vZ/\TP x.2.2.2.2.2.1/\x.2.2.2.2.2.2.1.2=[]/\x.2.2.2.2.2.2.2.1=th1/\x.2.2.2.2.2.2.2.2.1=L0/\x.2.2.2.2.2.2.2.2.2=b1++l3) ?_ ?_
   .refine aK (λ_=>?_) λ_=>aj ⟨fz,rfl,q,w3.p,w4.trans U,rfl,rfl,rfl⟩
    exact aw (gy 3 t3 w3.p) λy L=>aj ⟨fz,rfl,q,L.1.p,w4.trans U,rfl,rfl,rfl⟩
   rintro⟨b,m4,D4,N4,z4,t4,h4,th4,l4,b4⟩ ⟨pz,p2,p3,p4,p5,p6,p7,p8⟩;dsimp only at pz p2 p3 p4 p5 p6 p7 p8;subst p2;subst p6;subst p7;subst p8;have l44:N4.length=4:=by rw[p3];rfl
   refine aP (λ_=>?_) λ_=>aj ⟨pz,rfl,p3,p4,p5,rfl,rfl,by dsimp only;omega,hbody⟩
   refine cE (cE (aT ?_));refine bd (by simp at hlen ⊢;omega) (by omega) (aj ⟨pz,rfl,p3,p4,p5,rfl,rfl,by dsimp only;rw[be,dB];omega,λs hs=>?_⟩);rcases bO.1 hs with hs|hs
   .exact hbody s hs
   .rw[aI]at hs;rw[hs];refine Qh 13 (.inr rfl) ?_;rw[p3];exact acq nT (by omega) 1 (by omega)
  rintro⟨m4,D4,N4,z4,t4,h4,th4,l4,b4⟩ ⟨pz,p2,p3,p4,p5,p6,p7,p8,p9⟩;dsimp only at pz p2 p3 p4 p5 p6 p7 p8 p9;subst p2;subst p6;subst p7;refine bd (by simp;omega) (by omega) (aj ?_);dsimp only;refine ⟨gD (by omega),rfl,p3,p4,p5,by rw[ou (T:=.str) (xs:=vZ) (i:=i) (by have q4:vZ.length=4:=rfl;omega),cS,e6,<-e3];show _++[z4.1]=_;rw[pz],λt ht=>?_⟩;rcases bO.1 ht with ht|ht
  .exact e7 t ht
  .rw[aI]at ht;rw[ht];exact⟨rfl,p8,p9⟩
 .rintro⟨a,m,A,N,t,h,th⟩ ⟨e1,e2,e3,e4,e5,e6,e7⟩;dsimp only at e1 e2 e3 e4 e5 e6 e7;subst e1;subst e2;refine bK (λg=>(by dsimp only at g;rw[ew]at g;omega)) λ_=>?_
  have hthl:th.length=nT:=by have:=gR ai e6;rw[bR,bA]at this;have q4:vZ.length=4:=rfl;omega
  have hpm:PJ (D0,th):=⟨rfl,by dsimp only;omega,by dsimp only;omega,by dsimp only;rw[hthl];exact e7,by dsimp only;rw[hthl];exact e6⟩
  refine aw (P:=λp=>PJ p/\∃r,fw p=M r/\r.1=0) ?_ λr hr=>aj hr
  obtain⟨y,L,_⟩:=D_ (D0,th) hpm.x;refine aS L (cg (λ_=>?_) λh=>aj ⟨hpm,y,L,h⟩);refine aS RM (aS (Ob _) (aS (t8 _ _) (aj ?_)));refine ⟨⟨rfl,by simp,by simp,λt ht=>?_,rfl⟩,amr⟩;simp only[aI]at ht;rw[ht];refine ⟨rfl,by simp,λs hs=>?_⟩;simp only[aI]at hs;rw[hs,fm,yV];exact GS.asg (by decide) (GE.num _ 3)
abbrev iA (l:Y IT) (k:Nat):IT:=aJ (T:=BE) l (k:Int)
def JT (l:Y IT) (ρ:Nat->Nat) (a e k:Nat):Prop:=(iA l k).1=5->∃k':Nat,(iA l k).2.1=(k':Int)/\(k'=e\/a<=k'/\k'<e/\ρ k'<ρ k)
def qT (l:Y IT) (a e:Nat):Prop:=a<=e/\∃ρ:Nat->Nat,∀k,a<=k->k<e->1<=ρ k/\ρ k<=e-a/\JT l ρ a e k/\((iA l k).1<5->k+1=e\/ρ (k+1)<ρ k)
theorem qT.nil (l:Y IT) (a:Nat):qT l a a:=⟨bP _,λ_=>0,λk h1 h2=>by omega⟩
theorem qT.one {l:Y IT} {a:Nat} (h:¬(iA l a).1=5):qT l a (a+1):=⟨by omega,λ_=>1,λk h1 h2=>⟨bP 1,by show 1<=a+1-a;omega,λc=>by rw[show k=a by omega]at c;exact (h c).elim,λ_=>.inl (by omega)⟩⟩
theorem qT.congr {l c:Y IT} {a e:Nat} (h:qT l a e) (hc:∀k,a<=k->k<e->iA c k=iA l k):qT c a e:=by
 obtain⟨h1,ρ,h2⟩:=h;exact⟨h1,ρ,λk s q=>by unfold JT;rw[hc k s q];exact h2 k s q⟩
theorem qT.app {l:Y IT} {a b c:Nat} (h:qT l a b) (k:qT l b c):qT l a c:=by
 obtain⟨h1,ρ,h2⟩:=h;obtain⟨k1,σ,k2⟩:=k;refine ⟨by omega,λk=>if k<b then ρ k+(c-b) else σ k,λk L A=>?_⟩;by_cases hk:k<b
 .obtain⟨s,z,q3,q4⟩:=h2 k L hk;simp only[aC hk];refine ⟨by omega,by omega,?_,λq=>?_⟩
  .intro q;simp only[aC hk];obtain⟨k',e,r⟩:=q3 q;refine ⟨k',e,?_⟩;rcases r with r|⟨r1,r2,r3⟩
   .subst r;by_cases hc:k'=c
    .exact .inl hc
    .have:=(k2 k' (bP _) (by omega)).2.1;rw[ax (xh _)];exact .inr ⟨by omega,by omega,by omega⟩
   .rw[aC r2];exact .inr ⟨r1,by omega,by omega⟩
  .rcases q4 q with r|r
   .by_cases hc:k+1=c
    .exact .inl hc
    .have:=(k2 (k+1) (by omega) (by omega)).2.1;rw[ax (by omega)];exact .inr (by omega)
   .by_cases hb:k+1<b
    .rw[aC hb];exact .inr (by omega)
    .rw[ax hb];by_cases hc:k+1=c
     .exact .inl hc
     .have:=(k2 (k+1) (by omega) (by omega)).2.1;exact .inr (by omega)
 .obtain⟨s,z,q3,q4⟩:=k2 k (by omega) A;simp only[ax hk];refine ⟨s,by omega,?_,λq=>?_⟩
  .intro q;simp only[ax hk];obtain⟨k',e,r⟩:=q3 q;refine ⟨k',e,r.imp id λ⟨r1,r2,r3⟩=>⟨by omega,r2,?_⟩⟩;rw[ax (by omega)];exact r3
  .rw[ax (by omega)];exact q4 q
theorem qT.ite {l:Y IT} {a j e:Nat} (h:qT l a j) (hj:(iA l j).1=5) (z:(iA l j).2.1=(e:Int)) (k:qT l (j+1) e):qT l a e:=by
 obtain⟨h1,ρ,h2⟩:=h;obtain⟨k1,σ,k2⟩:=k;refine ⟨by omega,λk=>if k<j then ρ k+(e-j) else if k=j then e-j else σ k,λk L A=>?_⟩;by_cases hk:k<j
 .obtain⟨q,s,q3,q4⟩:=h2 k L hk;simp only[aC hk];refine ⟨by omega,by omega,?_,λc=>?_⟩
  .intro c;simp only[aC hk];obtain⟨k',e',r⟩:=q3 c;refine ⟨k',e',.inr ?_⟩;rcases r with r|⟨r1,r2,r3⟩
   .rw[r,ax (xh _),aC rfl];exact⟨by omega,by omega,by omega⟩
   .rw[aC r2];exact⟨r1,by omega,by omega⟩
  .refine .inr ?_;by_cases hb:k+1<j
   .rw[aC hb];rcases q4 c with r|r<;>omega
   .rw[ax hb,aC (by omega)];omega
 .by_cases hkj:k=j
  .subst hkj;simp only[ax hk,aC];exact⟨by omega,by omega,λ_=>⟨e,z,.inl rfl⟩,λc=>by rw[hj]at c;omega⟩
  .obtain⟨q,s,q3,q4⟩:=k2 k (by omega) A;simp only[ax hk,ax hkj];refine ⟨q,by omega,?_,λc=>?_⟩
   .intro c;simp only[ax hk,ax hkj];obtain⟨k',e',r⟩:=q3 c;refine ⟨k',e',r.imp id λ⟨r1,r2,r3⟩=>⟨by omega,r2,?_⟩⟩;rw[ax (by omega),ax (by omega)];exact r3
   .rw[ax (by omega),ax (by omega)];exact q4 c
theorem qT.whl {l:Y IT} {a c j:Nat} (h:qT l a c) (hc:(iA l c).1=10) (k:qT l (c+1) j) (hj:(iA l j).1=5) (L:(iA l j).2.1=(a:Int)):qT l a (j+1):=by
 obtain⟨h1,ρ,h2⟩:=h;obtain⟨k1,σ,k2⟩:=k;refine ⟨by omega,λk=>if k<c then ρ k+1 else if k=c then 1 else if k<j then σ k+(c-a)+2 else c-a+2,λk U Z=>?_⟩;by_cases hk:k<c
 .obtain⟨A,z,q3,q4⟩:=h2 k U hk;simp only[aC hk];refine ⟨by omega,by omega,?_,λq=>?_⟩
  .intro q;simp only[aC hk];obtain⟨k',e',r⟩:=q3 q;refine ⟨k',e',.inr ?_⟩;rcases r with r|⟨r1,r2,r3⟩
   .rw[r,ax (xh _),aC rfl];exact⟨by omega,by omega,by omega⟩
   .rw[aC r2];exact⟨r1,by omega,by omega⟩
  .refine .inr ?_;by_cases hb:k+1<c
   .rw[aC hb];rcases q4 q with r|r<;>omega
   .rw[ax hb,aC (by omega)];omega
 .by_cases hkc:k=c
  .subst hkc;simp only[ax hk,aC];exact⟨by omega,by omega,λq=>by rw[hc]at q;omega,λq=>by rw[hc]at q;omega⟩
  .simp only[ax hk,ax hkc];by_cases hkj:k<j
   .obtain⟨A,z,q3,q4⟩:=k2 k (by omega) hkj;simp only[aC hkj];refine ⟨by omega,by omega,?_,λq=>?_⟩
    .intro q;simp only[ax hk,ax hkc,aC hkj];obtain⟨k',e',r⟩:=q3 q;refine ⟨k',e',.inr ?_⟩;rcases r with r|⟨r1,r2,r3⟩
     .rw[r,ax (by omega),ax (by omega),ax (xh _)];exact⟨by omega,by omega,by omega⟩
     .rw[ax (by omega),ax (by omega),aC r2];exact⟨by omega,by omega,by omega⟩
    .refine .inr ?_;rw[ax (by omega),ax (by omega)];by_cases hb:k+1<j
     .rw[aC hb];rcases q4 q with r|r<;>omega
     .rw[ax hb];omega
   .have hkj:k=j:=by omega
    subst hkj;simp only[ax (xh _)];refine ⟨by omega,by omega,λ_=>⟨a,L,.inr ⟨bP _,by omega,?_⟩⟩,λq=>by rw[hj]at q;omega⟩;simp only[ax hk,ax hkc,ax (xh _)];by_cases s:a<c
    .rw[aC s];have:=(h2 a (bP _) s).2.1;omega
    .rw[ax s,aC (by omega)];omega
def OB (nT:Nat) (i:IT):Prop:=
 if i.1=6 then 0<=i.2.2.1/\i.2.2.1<=2 else if i.1=8 then 0<=i.2.1/\i.2.1<=2 else if i.1=7 then i.2.2.1=3/\i.2.2.2.2.1=2 else if i.1=9 then i.2.1=3/\i.2.2.2.2.1=2 else if i.1=11\/i.1=12 then i.2.1=0\/i.2.1=1 else if 13<=i.1/\i.1<=16 then i.2.1=2 else if 21<=i.1/\i.1<=23 then i.2.1=0 else if i.1=24\/i.1=25 then 0<=i.2.1/\i.2.1<(nT:Int) else if i.1=26 then i.2.1=0 else if i.1=27 then i.2.2.1=0 else if i.1=4 then 6<=i.2.2.2.2.1/\i.2.2.2.2.1<=18 else ¬i.1=3
structure GO (nT:Nat) (i:IT):Prop where
 o1:1<=i.1
 o2:i.1<=27
 r:∀j:Int,j∈iV i->0<=j/\j<32
 b:OB nT i
def SO (ss:Y π) (t s:Int):Prop:=0<=s/\s<ss.length/\(aJ (T:=ya) ss s).1=t
structure GI (nT:Nat) (ss:List π) (t:Int) (i:IT):Prop where
 o:GO nT i
 s:SO ss t i.2.2.2.2.2
theorem Us (l:Y IT) (hl:l.length<=1000000) (h1:1<=l.length) (hb:qT l 0 (l.length-1)) (he:(iA l (l.length-1)).1=28) (k:Nat) (hk:k<l.length):pu (l,(k:Int))=M J:=by
 obtain⟨_,ρ,hρ⟩:=hb;refine cD ?_;unfold pu bg bx jI bM aV cP aE cG;refine qi (λx=>((l.length:Int)+1-x.2).toNat) (λx=>0<=x.2/\∃q:Nat,x.1=(q:Int)/\q<l.length/\((if q<l.length-1 then ρ q else 0:Nat):Int)+x.2<=(l.length:Int)) ?_ ⟨by dsimp only;omega,k,rfl,hk,?_⟩
 .rintro⟨a,(n:Int)⟩ ⟨n0,q,e,hq,hr⟩;dsimp only at n0 e hr;subst e;refine fU (λ_=>?_) λg=>(by dsimp only[ak]at g;omega)
  refine gF ?_;refine gF (bK (λg=>by dsimp only at g;omega) λ_=>aj ?_);refine fX (by rw[mj];dsimp only[ak];omega) ?_;refine cE (aT ?_);refine aS (Fz _) ?_;refine dZ (λ_=>aj rfl) λhs=>?_
  have hs:1<=(iA l q).1/\(iA l q).1<=5:=a8 hs;have s:q<l.length-1:=vB λh=>by rw[show q=l.length-1 by omega]at hs;rw[he]at hs;omega
  obtain⟨r1,r2,r3,U⟩:=hρ q (hX _) s;rw[aC s]at hr;refine cE (aT ?_);have fin:∀c:Nat,c=l.length-1\/c<l.length-1/\ρ c<ρ q->0<=n+1/\∃z:Nat,(c:Int)=(z:Int)/\z<l.length/\((if z<l.length-1 then ρ z else 0:Nat):Int)+(n+1)<=(l.length:Int):=λc h=>⟨by omega,c,rfl,by omega,by
   rcases h with h|⟨h,h'⟩
   .rw[ax (by omega)];omega
   .rw[aC h];omega⟩
  refine aK (λA=>?_) λA=>aj (aj ?_)
  .obtain⟨c,e,L⟩:=r3 A;refine aR (eK _) (by dsimp only;omega) (aT (aj (aj ?_)));dsimp only;rw[iI (n:=n+1) (by omega) (by omega)];have:=fin c (L.imp id λh=>⟨h.2.1,h.2.2⟩);rw[<- e]at this;exact⟨this,by omega⟩
  .dsimp only;have A:¬(iA l q).1=5:=A;rw[iI (n:=n+1) (by omega) (by omega),gD (by omega)];refine ⟨fin (q+1) ?_,by omega⟩;rcases U (by omega) with h|h
   .exact .inl h
   .by_cases hb:q+1=l.length-1
    .exact .inl hb
    .exact .inr ⟨by omega,h⟩
 .dsimp only;split
  .rename_i h;have:=(hρ k (hX _) h).2.1;omega
  .omega
theorem KN (w:WT) (a:w.1=C0):nC (w,3,2)=M J:=by
 refine cD ?_;have h0:(0:Int)<=3:=by decide
 have h1:(3:Int)<(w.1.length:Int):=by rw[a];decide
 have c:aJ (T:=My) w.1 3=([113],0,2,af,0):=by rw[a];rfl
 unfold nC bg iU bM aV aE;refine gF (aS (r9 _ _) (aK (λ_=>?_) λh=>(h ⟨h0,h1⟩).elim));dsimp only;rw[c];refine aR h0 h1 (aT (aK (λ_=>?_) λh=>(h rfl).elim));refine aR h0 h1 (aT (cg (λ_=>?_) λh=>bZ h (by decide)));exact aR h0 h1 (aT (aj (aj rfl)))
theorem N' {nT:Nat} (w:WT) (i:IT) (Z:WX w) (hT:w.2.2.2.2.1.length=nT) (hb:OB nT i):l8 (w,i)=M J:=by
 obtain⟨hc,hl,hd,hf,_,_,_⟩:=Z;refine cD ?_;unfold l8 aY bm bz cH eC bg jI bM aV aE;unfold OB at hb;simp only[r9,WR];refine aK (λh=>?_) λU=>?_
 .rw[aC h]at hb;have c:(aJ (T:=My) w.1 i.2.2.1).2.2.1=(0:Int):=by
   rw[hc];rcases (by omega:i.2.2.1=0\/i.2.2.1=1\/i.2.2.1=2) with h|h|h<;>rw[h]<;>rfl
  have hi:0<=i.2.2.1/\i.2.2.1<(w.1.length:Int):=⟨hb.1,by rw[hc];have:=hb.2;show i.2.2.1<5;omega⟩
  exact gF (aK (λ_=>aR hi.1 hi.2 (aT (aj (aj (aO c))))) λh=>(h hi).elim)
 rw[ax U]at hb;refine aK (λh=>?_) λA=>?_
 .rw[aC h]at hb;have c:(aJ (T:=My) w.1 i.2.1).2.2.1=(0:Int):=by
   rw[hc];rcases (by omega:i.2.1=0\/i.2.1=1\/i.2.1=2) with h|h|h<;>rw[h]<;>rfl
  have hi:0<=i.2.1/\i.2.1<(w.1.length:Int):=⟨hb.1,by rw[hc];have:=hb.2;show i.2.1<5;omega⟩
  exact gF (aK (λ_=>aR hi.1 hi.2 (aT (aj (aj (aO c))))) λh=>(h hi).elim)
 rw[ax A]at hb;refine aK (λh=>?_) λL=>?_
 .rw[aC h]at hb;rw[hb.1,hb.2];exact aS (KN w hc) (aj rfl)
 rw[ax L]at hb;refine aK (λh=>?_) λz=>?_
 .rw[aC h]at hb;rw[hb.1,hb.2];exact aS (KN w hc) (aj rfl)
 rw[ax z]at hb;refine aU (λx=>x.2=(w,i)/\(x.1=J↔i.1=11\/i.1=12)) (aK (λh=>aj ⟨rfl,λ_=>.inl h,λ_=>aO h⟩) λh=>aj ⟨rfl,λh2=>.inr (a8 h2),λh2=>aO (h2.resolve_left h)⟩) ?_;rintro⟨b,x⟩ ⟨e,q⟩;dsimp only at e q;subst e;refine aP (λh=>?_) λh=>?_
 .rw[aC (q.1 h)]at hb;have c:(aJ (T:=TZ) w.2.1 i.2.1).2=af:=by
   rw[hl];rcases hb with h|h<;>rw[h]<;>rfl
  have hi:0<=i.2.1/\i.2.1<(w.2.1.length:Int):=⟨by omega,by rw[hl];show i.2.1<3;omega⟩
  exact gF (aK (λ_=>aR hi.1 hi.2 (aT (aj (aj (by dsimp only;rw[c];rfl))))) λh=>(h hi).elim)
 rw[ax λh2=>by rw[q.2 h2]at h;cases h]at hb;have hj:∀{p:Prop} {b:Bool},(b=J->p)->(p->b=J)->b=af->¬p:=λ_ h2 s a=>by rw[h2 a]at s;cases s
 refine aU (λx=>x.2=(w,i)/\(x.1=J->13<=i.1/\i.1<=16)/\(13<=i.1/\i.1<=16->x.1=J)) (aK (λh=>aj ⟨rfl,λ_=>by first|omega|(dsimp only at h;omega),λ_=>aO h⟩) λ_=>aK (λh=>aj ⟨rfl,λ_=>by first|omega|(dsimp only at h;omega),λ_=>aO h⟩) λ_=>aK (λh=>aj ⟨rfl,λ_=>by first|omega|(dsimp only at h;omega),λ_=>aO h⟩) λ_=>aj ⟨rfl,λh=>by have:=a8 h;first|omega|(dsimp only at this;omega),λh=>aO (by first|omega|(dsimp only at *;omega))⟩) ?_;rintro⟨b,x⟩ ⟨e,h1,h2⟩;dsimp only at e h1 h2;subst e;refine aP (λh=>?_) λh=>?_
 .rw[aC (h1 h)]at hb;have hi:0<=i.2.1/\i.2.1<(w.2.1.length:Int):=⟨by omega,by rw[hl];show i.2.1<3;omega⟩
  exact gF (aK (λ_=>aR hi.1 hi.2 (aT (aj (aj (by dsimp only;rw[hb,hl];rfl))))) λh=>(h hi).elim)
 rw[ax (hj h1 h2 h)]at hb;refine aU (λx=>x.2=(w,i)/\(x.1=J->21<=i.1/\i.1<=23)/\(21<=i.1/\i.1<=23->x.1=J)) (aK (λh=>aj ⟨rfl,λ_=>by first|omega|(dsimp only at h;omega),λ_=>aO h⟩) λ_=>aK (λh=>aj ⟨rfl,λ_=>by first|omega|(dsimp only at h;omega),λ_=>aO h⟩) λ_=>aj ⟨rfl,λh=>by have:=a8 h;first|omega|(dsimp only at this;omega),λh=>aO (by first|omega|(dsimp only at *;omega))⟩) ?_;rintro⟨b,x⟩ ⟨e,h1,h2⟩;dsimp only at e h1 h2;subst e;refine aP (λh=>?_) λh=>?_
 .rw[aC (h1 h)]at hb;exact aj (aO ⟨by dsimp only;omega,by dsimp only;rw[hd];show i.2.1<1;omega⟩)
 rw[ax (hj h1 h2 h)]at hb;refine aU (λx=>x.2=(w,i)/\(x.1=J->i.1=24\/i.1=25)/\(i.1=24\/i.1=25->x.1=J)) (aK (λh=>aj ⟨rfl,λ_=>.inl h,λ_=>aO h⟩) λh=>aj ⟨rfl,λh2=>.inr (a8 h2),λh2=>aO (h2.resolve_left h)⟩) ?_;rintro⟨b,x⟩ ⟨e,h1,h2⟩;dsimp only at e h1 h2;subst e;refine aP (λh=>?_) λh=>?_
 .rw[aC (h1 h)]at hb;exact aj (aO ⟨hb.1,by dsimp only;rw[hT];exact hb.2⟩)
 rw[ax (hj h1 h2 h)]at hb;refine aK (λh=>?_) λn=>?_
 .rw[aC h]at hb;exact aj (aO ⟨by dsimp only;omega,by dsimp only;rw[hf];show i.2.1<1;omega⟩)
 rw[ax n]at hb;refine aK (λh=>?_) λn=>?_
 .rw[aC h]at hb;exact aj (aO ⟨by dsimp only;omega,by dsimp only;rw[hf];show i.2.2.1<1;omega⟩)
 rw[ax n]at hb;by_cases a:i.1=4
 .rw[aC a]at hb;refine aK (λh=>by have h:i.1=3:=h;omega) λ_=>aK (λ_=>?_) λh=>(h a).elim
  refine gF (fU (λ_=>aj (aj (Om.2 hb.2))) λh=>by dsimp only at h;omega)
 .rw[ax a]at hb;exact aK (λh=>(hb h).elim) λ_=>aK (λh=>(a h).elim) λ_=>aj rfl
structure GC (nT:Nat) (ss:List π) (k:Int) (c:Int×List IT):Prop where
 r0:1<=c.1
 r1:c.1<=32
 n:1<=c.2.length
 u:c.2.length<=1000000
 e:(iA c.2 (c.2.length-1)).1=28/\(iA c.2 (c.2.length-1)).2.2.2.2.2= -1
 b:qT c.2 0 (c.2.length-1)
 i:∀q:Nat,q<c.2.length-1->GI nT ss k (iA c.2 q)
 r:∀q:Nat,q<c.2.length-1->(iA c.2 q).1=10->0<=(iA c.2 q).2.2.1/\(iA c.2 q).2.2.1<(c.2.length:Int)
 g:∀q:Nat,q<c.2.length-1->∀j:Int,j∈iV (iA c.2 q)->j<c.1
theorem Ei {nT:Nat} {w:WT} {k:Int} {c:Int×Y IT} (hw:WX w) (hT:w.2.2.2.2.1.length=nT) (hc:GC nT w.2.2.2.2.2 k c):iz (w,k,c)=M J:=by
 obtain⟨r0,r1,n1,hu,he,hb,hi,hr,hg⟩:=hc;refine cD ?_;unfold iz aY bm bz cH bL cY qf bg bx iU bM aV cP aE cG;refine aU (λx=>x.2=(w,c)/\x.1=af) ?_ ?_
 .refine bK (λh=>by have h:c.1<0:=h;omega) λ_=>bK (λh=>by have h:32<c.1:=h;omega) λ_=>aj ⟨rfl,bt λh=>by have h:aN c.2.length=0:=h;dsimp only[ak]at h;omega⟩
 rintro⟨b,x⟩ ⟨e,Z⟩;dsimp only at e Z;subst e;subst Z;refine dh ?_;refine ch c.2.length (λi x=>x.1=(i:Int)/\x.2=(w,c)) ?_ ?_ ⟨rfl,rfl⟩
 .rintro i ⟨a,x⟩ hi2 ⟨e1,e2⟩;dsimp only at e1 e2;subst e1;subst e2;have hla:=Us c.2 hu n1 hb he.1 i hi2;have hz:∀z:IT,z=iA c.2 i->(i<c.2.length-1->GI nT w.2.2.2.2.2 k z/\(z.1=10->0<=z.2.2.1/\z.2.2.1<(c.2.length:Int))/\(z.1=5->0<=z.2.1/\z.2.1<(c.2.length:Int))/\∀j:Int,j∈iV z->j<c.1)/\(i=c.2.length-1->z.1=28/\z.2.2.2.2.2= -1):=λz hz=>by
   subst hz;refine ⟨λh=>⟨hi i h,hr i h,λh5=>?_,hg i h⟩,λh=>by rw[h];exact he⟩;obtain⟨_,ρ,hρ⟩:=hb;obtain⟨q',e,hq'⟩:=(hρ i (hX _) h).2.2.1 h5;rw[e];omega
  refine dg ?_;refine cE (aT ?_);generalize hzz:(aJ (T:=BE) c.2 (i:Int))=z;obtain⟨q,A⟩:=hz z hzz.symm;have hcs:i<c.2.length-1\/i=c.2.length-1:=by omega
  have o1:1<=z.1:=by
   rcases hcs with h|h
   .exact (q h).1.o.o1
   .rw[(A h).1];decide
  have o2:z.1<=28:=by
   rcases hcs with h|h
   .exact Int.le_trans (q h).1.o.o2 (by decide)
   .rw[(A h).1];decide
  have L:z.1=28->i=c.2.length-1:=λh=>hcs.resolve_left λg=>by have:=(q g).1.o.o2;rw[h]at this;exact bZ this (by decide)
  have hob:OB nT z:=by
   rcases hcs with h|h
   .exact (q h).1.o.b
   .unfold OB;rw[(A h).1];simp
  have hrg:∀j:Int,j∈iV z->0<=j/\j<c.1:=λj hj=>by
   rcases hcs with h|h
   .exact⟨((q h).1.o.r j hj).1,(q h).2.2.2 j hj⟩
   .unfold iV at hj;rw[(A h).1]at hj;simp at hj
  have hwr:bl .i64 (aN c.2.length-1)=((c.2.length-1:Nat):Int):=by rw[iI (by dsimp only[ak];omega) (by dsimp only[ak];omega)];dsimp only[ak];omega
  have hcd:((decide (z.1=28)==decide ((i:Int)=bl .i64 (aN c.2.length-1))) !=J)=af:=by
   rw[hwr];rcases hcs with h|h
   .rw[bt λh2=>by have:=L h2;omega,bt (by omega:¬(i:Int)=((c.2.length-1:Nat):Int))];rfl
   .rw[aO (A h).1,aO (by omega:(i:Int)=((c.2.length-1:Nat):Int))];rfl
  refine aU (λx=>x=(af,w,c,z)) ?_ ?_
  .refine bK (λh=>bZ h (x_.2 o1)) λ_=>bK (λh=>bZ h (x_.2 o2)) λ_=>fX hcd ?_
   refine aS (N' w z hw hT hob) (fX rfl (aS hla (aj rfl)))
  rintro x rfl;refine dh (aU (λx=>x=(af,w,c,z)) ?_ ?_)
  .simp only[r9,WR];refine aK (λh=>?_) λh=>?_
   .have h5:=(A (L h)).2;exact cg (λg=>(g h5).elim) λ_=>cg (λg=>(g h).elim) λ_=>aj rfl
   .have hsi:=(q (hcs.resolve_right λg=>h (A g).1)).1.s;refine cg (λ_=>cg (λg=>(g ⟨hsi.1,hsi.2.1⟩).elim) λg=>aR g.1 g.2 (aT (aj ?_))) λg=>(h g).elim
    rw[aO hsi.2.2];rfl
  rintro x rfl;refine dh (aU (λx=>x=(af,w,c,z)) ?_ ?_)
  .simp only[r9,WR];have U:z.1=5\/z.1=10->i<c.2.length-1:=λh=>hcs.resolve_right λg=>by rw[(A g).1]at h;exact bZ h (by decide)
   refine aK (λh=>?_) λh=>?_
   .have h2:=(q (U (.inl h))).2.2.1 h;refine cg (λg=>(g h2).elim) λ_=>aK (λg=>?_) λ_=>aj rfl
    rw[h]at g;exact bZ g (by decide)
   .refine aK (λg=>aj ?_) λ_=>aj rfl
    have h2:=(q (U (.inr g))).2.1 g;rw[aO (show 0<=z.2.2.1/\z.2.2.1<aN c.2.length from h2)];rfl
  rintro x rfl;refine dh (aS (tQ z) ?_);have hrl:=CK z;refine ch (iV z).length (λj x=>x=((j:Int),w,c)) ?_ ?_ rfl
  .rintro j x hj rfl;refine dg ?_;refine cE (aT ?_);refine aS (r9 _ _) (cg (λg=>(g (hrg _ (bN (T:=.int .i64) (xs:=iV z) (j:=(j:Int)) (by omega) (by omega)))).elim) λ_=>aj ?_);dsimp only;rw[gD (by omega)]
  .rintro x rfl;exact dc (aj ⟨gD (by omega),rfl⟩)
 .rintro⟨a,x⟩ ⟨e1,e2⟩;dsimp only at e1 e2;subst e1;subst e2;exact dc (aj rfl)
abbrev GN:Type:=Y (ζ×Int×Int×Bool×Int)×Y (ζ×Bool)×Y (ζ×Int)×Y ζ×Y ζ×Y π×Y ζ×Int×Int
theorem MT (l:Y (ζ×Bool)) (s:ζ) (hl:l.length<=1000):Ok (ku (l,s)) λr=> -1<=r/\r<l.length/\(0<=r->(aJ (T:=TZ) l r).1=s)/\(r<0->∀c∈l,c.1≠s):=by
 unfold ku bx bM aV cP aE cG;refine ch l.length (λi x=>x=(i:Int)/\∀k:Nat,k<i->(aJ (T:=TZ) l (k:Int)).1≠s) ?_ ?_ ⟨rfl,λk hk=>by omega⟩
 .rintro i x hi ⟨rfl,a⟩;refine dg ?_;refine cE (aT ?_);refine aK (λh=>aj ⟨by omega,by omega,λ_=>h,λh=>by omega⟩) λh=>aj ⟨gD (by omega),λk hk=>?_⟩
  rcases ca k i with h1|h1
  .exact a k h1
  .rw[show k=i by omega];exact h
 .rintro x ⟨rfl,a⟩;exact dc (aj ⟨by omega,by omega,λh=>by omega,λ_=>iD (T:=TZ) (p:=λc=>c.1≠s) a⟩)
theorem aho {r:Int} {s:ζ} (h: -1<=r/\r<G1.length/\(0<=r->(aJ (T:=TZ) G1 r).1=s)/\(r<0->∀c∈G1,c.1≠s)):(s=[109]->r=0)/\(s=[110]->r=1)/\(s=[114]->r=2):=by
 obtain⟨h0,h1,h2,a⟩:=h;have h1:r<3:=h1;rcases (by omega:r= -1\/r=0\/r=1\/r=2) with rfl|rfl|rfl|rfl
 .have a:=a (by decide);exact⟨λh=>(a ([109],af) (by decide) h.symm).elim,λh=>(a ([110],af) (by decide) h.symm).elim,λh=>(a ([114],J) (by decide) h.symm).elim⟩
 .have h2:[109]=s:=h2 (by decide);subst h2;exact⟨λ_=>rfl,λh=>(by cases h),λh=>(by cases h)⟩
 .have h2:[110]=s:=h2 (by decide);subst h2;exact⟨λh=>(by cases h),λ_=>rfl,λh=>(by cases h)⟩
 .have h2:[114]=s:=h2 (by decide);subst h2;exact⟨λh=>(by cases h),λh=>(by cases h),λ_=>rfl⟩
theorem Ay (w:WT) (s:ζ) (z:w.1=C0):Ok (lI (w,s)) λr=>(s∈NV->s∉L0->0<=r/\r<=2)/\(s=[113]->r=3):=by
 have hl:w.1.length=5:=by rw[z];rfl
 unfold lI bx bM aV cP aE cG;refine ch w.1.length (λi x=>x.1=(i:Int)/\x.2=w/\∀k:Nat,k<i->(aJ (T:=My) w.1 (k:Int)).1≠s) ?_ ?_ ⟨rfl,rfl,λk hk=>by omega⟩
 .rintro i ⟨a,x⟩ hi ⟨e1,e2,e3⟩;dsimp only at e1 e2 e3;subst e1;have e2:=e2.symm;subst e2;refine dg ?_;refine cE (aT ?_);refine aK (λh=>aj ?_) λg=>aj ?_
  .rw[z]at h e3;rw[hl]at hi;rcases (by omega:i=0\/i=1\/i=2\/i=3\/i=4) with rfl|rfl|rfl|rfl|rfl
   .have h:[120]=s:=h;subst h;exact⟨λ_ _=>⟨by dsimp only;omega,by dsimp only;omega⟩,λh=>(by cases h)⟩
   .have h:[121]=s:=h;subst h;exact⟨λ_ _=>⟨by dsimp only;omega,by dsimp only;omega⟩,λh=>(by cases h)⟩
   .have h:[118]=s:=h;subst h;exact⟨λ_ _=>⟨by dsimp only;omega,by dsimp only;omega⟩,λh=>(by cases h)⟩
   .have h:[113]=s:=h;subst h;exact⟨λh=>bZ h (by decide),λ_=>rfl⟩
   .have h:[113]=s:=h;exact (e3 3 (by omega) h).elim
  .refine ⟨gD (by omega),rfl,λk hk=>?_⟩;rcases ca k i with h1|h1
   .exact e3 k h1
   .rw[show k=i by omega];exact g
 .rintro⟨a,x⟩ ⟨e1,e2,e3⟩;dsimp only at e1 e2 e3;subst e1;have e2:=e2.symm;subst e2;refine dc (aj ?_);have hn:=iD (T:=My) (p:=λc=>c.1≠s) e3;rw[z]at hn;have a1:=hn ([120],0,0,af,0) (by decide);have a2:=hn ([121],0,0,af,1) (by decide);have a3:=hn ([118],0,0,J,0) (by decide);have A:=hn ([113],0,2,af,0) (by decide);refine ⟨λh q=>?_,λh=>(A h.symm).elim⟩;simp only[bk,cB,gj,L0]at h q;rcases h with rfl|rfl|rfl|rfl|rfl
  .exact (q (.inl rfl)).elim
  .exact (q (.inr rfl)).elim
  .exact (a1 rfl).elim
  .exact (a2 rfl).elim
  .exact (a3 rfl).elim
theorem It (i:IT) (g:GN) (out:Y IT) (h:out.length<=100000000):Ok (cF (i,g,out)) λy=>y.1=g/\y.2=out++[(i.1,i.2.1,i.2.2.1,i.2.2.2.1,i.2.2.2.2.1,g.2.2.2.2.2.2.2.1)]:=by
 unfold cF aY bm bz kP bH;exact bd (by simp;omega) (by omega) (aj ⟨rfl,rfl⟩)
def VE:Nat->Nat
 |0=>0
 |d+1=>1+2*VE d
theorem I3 {l m:Y IT} {k:Nat} (h:k<l.length):iA (l++m) k=iA l k:=by
 unfold iA;rw[yJ,yJ,au,au,bQ h]
theorem xx (l:Y IT) (x:IT):iA (l++[x]) l.length=x:=by
 unfold iA;rw[yJ,au,cf (bP _)];simp
structure QC (nT:Nat) (ss:List π) (t:Int) (n:Nat) (out o:List IT):Prop where
 l:out.length<=o.length
 u:o.length<=out.length+n
 p:∀k:Nat,k<out.length->iA o k=iA out k
 b:qT o out.length o.length
 i:∀k:Nat,out.length<=k->k<o.length->GI nT ss t (iA o k)
 r:∀k:Nat,out.length<=k->k<o.length->(iA o k).1=10->0<=(iA o k).2.2.1/\(iA o k).2.2.1<=(o.length:Int)
variable {nT:Nat} {ss:Y π} {t:Int}
theorem QC.nil (n:Nat) (out:Y IT):QC nT ss t n out out:=⟨bP _,by omega,λ_ _=>rfl,qT.nil _ _,λk h1 h2=>by omega,λk h1 h2=>by omega⟩
theorem QC.trans {a b c:Nat} {x y z:Y IT} (h:QC nT ss t a x y) (k:QC nT ss t b y z) (hc:a+b<=c):QC nT ss t c x z:=by
 obtain⟨h1,h2,h3,h4,h5,h6⟩:=h;obtain⟨k1,k2,s,k4,k5,Z⟩:=k;refine ⟨by omega,by omega,λq hq=>(s q (by omega)).trans (h3 q hq),(h4.congr λq _ hq=>s q hq).app k4,λq U L=>?_,λq U L A=>?_⟩
 .by_cases hq:q<y.length
  .rw[s q hq];exact h5 q U hq
  .exact k5 q (by omega) L
 .by_cases hq:q<y.length
  .rw[s q hq]at A ⊢;have:=h6 q U hq A;omega
  .exact Z q (by omega) L A
theorem QC.one {out:Y IT} {i:IT} (h:GI nT ss t i) (a:¬i.1=5/\¬i.1=10):QC nT ss t 1 out (out++[i]):=by
 have hl:(out++[i]).length=out.length+1:=by rw[be];rfl
 refine ⟨by omega,by omega,λk hk=>I3 hk,?_,λk h1 h2=>?_,λk h1 h2 c=>?_⟩
 .rw[hl];exact qT.one (by rw[xx];exact a.1)
 .rw[show k=out.length by omega,xx];exact h
 .rw[show k=out.length by omega,xx]at c;exact (a.2 c).elim
structure GK (ss:List π) (t:Int) (g:GN):Prop where
 c:g.1=C0
 l:g.2.2.2.2.2.2.1=L0
 s:SO ss t g.2.2.2.2.2.2.2.1
theorem Yq {nT:Nat} {op A B C N Z:Int} (h1:1<=op) (h2:op<=27) (hr:∀j:Int,j∈iV (op,A,B,C,N,Z)->0<=j/\j<32) (hb:OB nT (op,A,B,C,N,Z)):GO nT (op,A,B,C,N,Z):=⟨h1,h2,hr,hb⟩
theorem Es {op:Int} {r:υ} {g:GN} {out:Y IT} (h:out.length<=100000000) (hg:GK ss t g) (hi:GO nT (op,r)) (c:¬op=5/\¬op=10):Ok (cF ((op,r),g,out)) λy=>y.1=g/\QC nT ss t 1 out y.2:=(It (op,r) g out h).mono λy a=>⟨a.1,by rw[a.2];exact QC.one ⟨⟨hi.o1,hi.o2,hi.r,hi.b⟩,hg.s⟩ c⟩
theorem M2:∀(n d:Nat),d<n->∀(e:Xp) (k:Int) (g:GN) (out:Y IT),GE d e->GK ss t g->0<=k->k+d<=31->out.length+VE d<=100000000->Ok (iQ n ((e,k),g,out)) λy=>y.1=g/\QC nT ss t (VE d) out y.2
 |0,_,h,_,_,_,_,_,_,_,_,_=>by omega
 |n+1,0,_,e,_,_,_,h,_,_,_,_=>h.elim
 |n+1,d+1,hn,e,k,g,out,h,hg,k0,k1,hb=>by
  obtain⟨h1,h2,h3,h4,h5,h6⟩:=h;obtain⟨L,gl,gs⟩:=id hg;have hv:VE (d+1)=1+2*VE d:=rfl;rw[AM];unfold qG aY bm bz cH eC bg jI bH bM aE cG;refine aU (λy=>y.1=g/\QC nT ss t (VE (d+1)) out y.2) ?_ λx hx=>aj hx
  have fin:∀{y:GN×Y IT},(y.1=g/\QC nT ss t 1 out y.2)->y.1=g/\QC nT ss t (VE (d+1)) out y.2:=λh=>⟨h.1,(QC.nil 0 out).trans h.2 (by omega)⟩
  refine aK (λ_=>?_) λn1=>?_
  .refine aw (Es (nT:=nT) (by omega) hg (Yq (by decide) (by decide) (by simp[iV];omega) ((by decide:¬(1:Int)=3))) (by decide)) λy a=>bf (by simp) (aj (fin a))
  refine aK (λA=>?_) λA=>?_
  .refine aw (yF _ _ (by dsimp only;rw[gl];decide)) λv hv=>fU (λg0=>?_) λg0=>?_
   .have c:=hv.2.1;dsimp only at c g0;rw[gl]at c;have c:v<2:=c;refine aw (Es (nT:=nT) (by omega) hg (Yq (by decide) (by decide) (by simp[iV];omega) ((by decide:¬(2:Int)=3))) (by decide)) λy a=>bf (by simp) (aj (fin a))
   .have c:=hv.2.2.2 g0;dsimp only at c;rw[gl]at c;refine aw (Ay _ _ L) λv z=>?_
    have v2:=z.1 (h5 A) c;refine aw (Es (nT:=nT) (by omega) hg (Yq (by decide) (by decide) (by simp[iV];omega) (v2)) (by decide)) λy a=>bf (by simp) (aj (fin a))
  have hl:=h2 n1 A;have hrec:∀(j:Nat),j<e.l.length->∀(k':Int) (o:Y IT),0<=k'->k'+d<=31->o.length+VE d<=100000000->Ok (iQ n ((aJ (T:=.ex) e.l (j:Int),k'),g,o)) λy=>y.1=g/\QC nT ss t (VE d) o y.2:=λj hj k' o q0 s ho=>M2 n d (by omega) _ k' g o (h4 _ (bN (T:=.ex) (xs:=e.l) (j:=(j:Int)) (by omega) (by omega))) hg q0 s ho
  refine aK (λZ=>?_) λZ=>?_
  .refine cE (aT ?_);refine aw (hrec 0 hl k out k0 (by omega) (by omega)) λy a=>?_
   obtain⟨g2,o2⟩:=y;obtain⟨s,q⟩:=a;dsimp only at s q;subst s;have q3:=q.u;refine bf (by simp) ?_;refine aw (Ay _ _ L) λv z=>?_
   have U:=z.2 (h1 Z);have U:v=3:=U;subst U;refine aR (by decide) (by dsimp only;rw[L];decide) (aT ?_);refine aw (Es (nT:=nT) (by omega) hg (Yq (by decide) (by decide) (by simp[iV];omega) (⟨rfl,by dsimp only;rw[L];rfl⟩)) (by decide)) λy a=>bf (by simp) (aj ⟨a.1,q.trans a.2 (by omega)⟩)
  obtain⟨h7,h8,h9⟩:=h6 n1 A Z;refine aK (λn4=>?_) λn4=>?_
  .dsimp only[ak]at n4;omega
  .have hl2:1<e.l.length:=by omega
   refine cE (aT ?_);refine aw (hrec 0 hl k out k0 (by omega) (by omega)) λy a=>?_
   obtain⟨g2,o2⟩:=y;obtain⟨s,q⟩:=a;dsimp only at s q;subst s;have q3:=q.u;refine bf (by simp) ?_;refine cE (aT ?_);dsimp only;rw[iI (n:=k+1) (by omega) (by omega)];refine aw (hrec 1 hl2 _ o2 (by omega) (by omega) (by omega)) λy a=>?_
   obtain⟨g3,o3⟩:=y;obtain⟨r1,r2⟩:=a;dsimp only at r1 r2;subst r1;have r3:=r2.u;refine bf (by simp) ?_;refine aw (Es (nT:=nT) (by omega) hg (Yq (by decide) (by decide) (by simp[iV];omega) (⟨h8,h9⟩)) (by decide)) λy a=>bf (by simp) (aj ⟨a.1,(q.trans r2 (bP _)).trans a.2 (by omega)⟩)
theorem TU (e:Xp) (k:Int) (g:GN) (out:Y IT) (he:GE 4 e) (hg:GK ss t g) (a:0<=k) (k1:k<=27) (h:out.length<=99999900):Ok (iP ((e,k),g,out)) λy=>y.1=g/\QC nT ss t 15 out y.2:=M2 fuel 4 (by rw[j7];omega) e k g out he hg a (by omega) (by have:VE 4=15:=rfl;omega)
structure GB (nT:Nat) (g:GN):Prop where
 c:g.1=C0
 l:g.2.1=G1
 d:g.2.2.1=Mt
 f:g.2.2.2.1=Tl
 t:g.2.2.2.2.1=vZ.take nT
 h:g.2.2.2.2.2.2.1=L0
structure GQ (g y:GN):Prop where
 a:y.1=g.1
 b:y.2.1=g.2.1
 c:y.2.2.1=g.2.2.1
 d:y.2.2.2.1=g.2.2.2.1
 e:y.2.2.2.2.1=g.2.2.2.2.1
 h:y.2.2.2.2.2.2.1=g.2.2.2.2.2.2.1
theorem GQ.refl (g:GN):GQ g g:=⟨rfl,rfl,rfl,rfl,rfl,rfl⟩
theorem GQ.trans {a b c:GN} (h:GQ a b) (k:GQ b c):GQ a c:=⟨k.a.trans h.a,k.b.trans h.b,k.c.trans h.c,k.d.trans h.d,k.e.trans h.e,k.h.trans h.h⟩
variable {nT:Nat} {ss:Y π} {t:Int}
theorem GB.of {g y:GN} (h:GB nT g) (q:GQ g y):GB nT y:=⟨q.a.trans h.c,q.b.trans h.l,q.c.trans h.d,q.d.trans h.f,q.e.trans h.t,q.h.trans h.h⟩
theorem GQ.site (g:GN) (x:Y π) (a b:Int):GQ g (g.1,g.2.1,g.2.2.1,g.2.2.2.1,g.2.2.2.2.1,x,g.2.2.2.2.2.2.1,a,b):=⟨rfl,rfl,rfl,rfl,rfl,rfl⟩
abbrev gS (g:GN):Int:=g.2.2.2.2.2.2.2.1
abbrev gN (g:GN):Int:=g.2.2.2.2.2.2.2.2
structure QG (nT:Nat) (ss:List π) (t:Int) (n m:Nat) (g:GN) (out:List IT) (y:GN×List IT):Prop where
 q:GQ g y.1
 c:QC nT ss t n out y.2
 x:gN y.1=gN g+(m:Int)
theorem xq {op:Int} {r:υ} {g:GN} {out:Y IT} (h:out.length<=100000000) (hg:GB nT g) (hs:SO ss t (gS g)) (hi:GO nT (op,r)) (a:¬op=5/\¬op=10):Ok (cF ((op,r),g,out)) λy=>y.1=g/\QC nT ss t 1 out y.2:=Es h ⟨hg.c,hg.h,hs⟩ hi a
theorem Cx (e:Xp) (k:Int) (g:GN) (out:Y IT) (he:GE 4 e) (hg:GB nT g) (hs:SO ss t (gS g)) (a:0<=k) (k1:k<=27) (h:out.length<=99999000):Ok (iP ((e,k),g,out)) λy=>y.1=g/\QC nT ss t 15 out y.2:=TU e k g out he ⟨hg.c,hg.h,hs⟩ a k1 (by omega)
theorem GB.len {g:GN} (h:GB nT g):aN (ai g.2.2.2.2.2.2.1)=2:=by rw[h.h];rfl
theorem V0 (s:Sx) (g:GN) (out:Y IT) (h1:s.index≠[]->s.name=[113]) (h2:∀e∈s.index,GE 4 e) (h3:GE 4 s.expr) (h4:s.index=[]->s.name∈NV) (hg:GB nT g) (hs:SO ss t (gS g)) (h:out.length<=99990000):Ok (mg (s,g,out)) λy=>y.1=g/\QC nT ss t 40 out y.2:=by
 have hex:GE 4 (em (Xp.op s.expr,Xp.n s.expr,Xp.name s.expr,Xp.l s.expr)):=by rw[fm];exact h3
 have e3:bl .i64 ((2:Int)+1)=3:=iI (by decide) (by decide);unfold mg aY bm bz cH eC bx jI bH bM aV;refine bK (λq=>?_) λq=>?_
 .dsimp only[ak]at q;refine cE (aT ?_);refine aw (Cx _ _ g out (h2 _ (bN (T:=.ex) (xs:=s.index) (j:=0) (by omega) (by omega))) hg hs (by rw[hg.len];decide) (by rw[hg.len];decide) (by omega)) λy a=>?_
  obtain⟨g2,o2⟩:=y;obtain⟨L,A⟩:=a;dsimp only at L A;subst L;have q3:=A.u;refine bf (by simp) ?_;dsimp only;rw[hg.len,e3];refine aw (Cx _ _ g2 o2 hex hg hs (by decide) (by decide) (by omega)) λy a=>?_
  obtain⟨g3,o3⟩:=y;obtain⟨r1,r2⟩:=a;dsimp only at r1 r2;subst r1;have r3:=r2.u;refine bf (by simp) ?_;refine aw (Ay _ _ hg.c) λv hv=>?_
  have U:=hv.2 (h1 (λh=>by rw[h]at q;simp at q));have U:v=3:=U;subst U;refine aR (by decide) (by dsimp only;rw[hg.c];decide) (aT ?_);refine aw (xq (by omega) hg hs (Yq (by decide) (by decide) (by simp[iV,hg.h,L0]) (⟨rfl,by dsimp only;rw[hg.c];rfl⟩)) (by decide)) λy a=>bf (by simp) (aj ⟨a.1,(A.trans r2 (bP _)).trans a.2 (by omega)⟩)
 .have hi0:s.index=[]:=gQ.1 (by dsimp only[ak]at q;omega);refine aw (Cx _ _ g out hex hg hs (by rw[hg.len];decide) (by rw[hg.len];decide) (by omega)) λy a=>?_
  obtain⟨g2,o2⟩:=y;obtain⟨L,A⟩:=a;dsimp only at L A;subst L;have q3:=A.u;refine bf (by simp) ?_;refine aw (yF _ _ (by dsimp only;rw[hg.h];decide)) λv hv=>fU (λq=>?_) λq=>?_
  .have z:=hv.2.1;dsimp only at z q;rw[hg.h]at z;have z:v<2:=z;refine aw (xq (by omega) hg hs (Yq (by decide) (by decide) (by simp[iV,hg.h,L0];omega) ((by decide:¬(2:Int)=3))) (by decide)) λy a=>bf (by simp) (aj ⟨a.1,A.trans a.2 (by omega)⟩)
  .have z:=hv.2.2.2 q;dsimp only at z;rw[hg.h]at z;refine aw (Ay _ _ hg.c) λv Z=>?_
   have v2:=Z.1 (h4 hi0) z;refine aw (xq (by omega) hg hs (Yq (by decide) (by decide) (by simp[iV,hg.h,L0]) (v2)) (by decide)) λy a=>bf (by simp) (aj ⟨a.1,A.trans a.2 (by omega)⟩)
theorem abw (s:ζ) (g:GN) (out:Y IT) (hg:GB nT g):Ok (jz (s,g,out)) λy=>y.2=(g,out)/\(s=[99]->y.1=0):=by
 have hd:g.2.2.1.length=1:=by rw[hg.d];rfl
 unfold jz aY bx bM aV cP aE cG;refine ch 1 (λi x=>x.1=(i:Int)/\x.2=(g,out)/\(s=[99]->i=0)) ?_ ?_ ⟨rfl,rfl,λ_=>rfl⟩
 .rintro i ⟨a,x⟩ hi ⟨e1,e2,e3⟩;dsimp only at e1 e2 e3;subst e1;subst e2;refine dg ?_;refine cE (aT ?_);refine aK (λ_=>aj ⟨rfl,λ_=>by dsimp only;omega⟩) λh=>aj ⟨gD (by omega),rfl,λh2=>?_⟩
  refine (h ?_).elim;dsimp only;rw[hg.d,show i=0 by omega,h2];rfl
 .rintro⟨a,x⟩ ⟨e1,e2,e3⟩;dsimp only at e1 e2 e3;subst e1;subst e2;exact dc (aj ⟨rfl,λh=>by have:=e3 h;omega⟩)
def ME:Nat->Nat
 |0=>0
 |d+1=>50+16*ME d
def SR (ss:Y π) (t a:Int) (m:Nat):Prop:=0<=a/\a+m<=1000/\∀i:Int,a<=i->i<a+m->SO ss t i
def SpG (nT:Nat) (ss:Y π) (t:Int) (a:Sx×GN×Y IT->I (GN×Y IT)) (d:Nat):Prop:=∀(s:Sx) (g:GN) (out:Y IT),GS nT d s->GB nT g->SR ss t (gN g) (P0 d s)->out.length+ME d<=90000000->Ok (a (s,g,out)) (QG nT ss t (ME d) (P0 d s) g out)
def acu (nT:Nat) (ss:Y π) (t:Int) (rs:Y Sx×GN×Y IT->I (GN×Y IT)) (d:Nat):Prop:=∀(l:Y Sx) (g:GN) (out:Y IT),l.length<=100->(∀s∈l,GS nT d s)->GB nT g->SR ss t (gN g) (nO d l)->out.length+l.length*ME d<=90000000->Ok (rs (l,g,out)) (QG nT ss t (l.length*ME d) (nO d l) g out)
abbrev FS6:Type:=Y Sx×GN×Y IT->I (GN×Y IT)
abbrev FT6:Type:=Sx×GN×Y IT->I (GN×Y IT)
abbrev FA6:Type:=(Sx×Int×Int×Int)×GN×Y IT->I (GN×Y IT)
variable {nT:Nat} {ss:Y π} {t:Int}
def ak6 (nT:Nat) (ss:Y π) (t:Int) (a:FT6) (d:Nat):Prop:=∀(s:Sx) (g:GN) (out:Y IT),s.op=2\/s.op=3->GE 4 s.expr->s.body.length<=8->s.els.length<=8->(∀x∈s.body,GS nT d x)->(∀x∈s.els,GS nT d x)->(¬s.op=2->s.els=[])->GB nT g->SO ss t (gS g)->SR ss t (gN g) (nO d s.body+nO d s.els)->out.length+ME (d+1)<=90000000->Ok (a (s,g,out)) (QG nT ss t (17+16*ME d) (nO d s.body+nO d s.els) g out)
def ak7 (nT:Nat) (ss:Y π) (t:Int) (ra:FA6) (d:Nat):Prop:=∀(s:Sx) (a b c:Int) (g:GN) (out:Y IT),s.body.length<=8->(∀x∈s.body,GS nT d x)->GO nT (a,c,0,0,0,0)->GO nT (b,c,0,0,0,0)->¬a=5/\¬a=10->¬b=5/\¬b=10->GB nT g->SO ss t (gS g)->SR ss t (gN g) (nO d s.body)->out.length+ME (d+1)<=90000000->Ok (ra ((s,a,b,c),g,out)) (QG nT ss t (17+16*ME d) (nO d s.body) g out)
theorem SR.sub {a b:Int} {m n:Nat} (h:SR ss t a m) (h1:a<=b) (h2:b+n<=a+m):SR ss t b n:=⟨by have:=h.1;omega,by have:=h.2.1;omega,λi q c=>h.2.2 i (by omega) (by omega)⟩
theorem U2 (rs:FS6) (L:FT6) (Z:FT6) (ra:FA6) (d:Nat) (ht:SpG nT ss t L d):acu nT ss t (qH rs L Z ra) d:=by
 intro l g out hl hs hg hso hb;unfold qH bx bH bM aV cP aE cG;refine ch l.length (λi x=>x.1=(i:Int)/\QG nT ss t (i*ME d) (nO d (l.take i)) g out x.2) ?_ ?_ ⟨rfl,GQ.refl g,QC.nil _ _,by simp[nO]⟩
 .rintro i ⟨a,U,o2⟩ hi ⟨e1,z,s,q3⟩;dsimp only at e1 z s q3;subst e1;have hK:(i+1)*ME d<=l.length*ME d:=cL _ (by omega);have hKs:=iZ i (ME d);rw[Nat.succ_eq_add_one]at hKs;have hp:=Pe (d:=d) l (i+1);rw[wX hi]at hp;have q4:=s.u;refine dg ?_;refine cE (aT ?_);refine aw (ht _ U o2 (hs _ (bN (T:=.sm) (xs:=l) (j:=(i:Int)) (by omega) (by omega))) (hg.of z) (hso.sub (by rw[q3];omega) (by rw[q3];dsimp only;omega)) (by omega)) λy A=>bf (by simp) (aj ?_)
  rw[wX hi];exact⟨gD (by omega),z.trans A.q,s.trans A.c (by omega),by rw[A.x,q3];dsimp only;omega⟩
 .rintro⟨a,U,o2⟩ ⟨e1,q⟩;dsimp only at e1;subst e1;rw[cK]at q;exact dc (aj q)
theorem Rl (rs:FS6) (rt:FT6) (rb:FT6) (ra:FA6) (d:Nat) (hS:acu nT ss t rs d):ak7 nT ss t (o_ rs rt rb ra) d:=by
 intro s a b c g out h1 h2 ga gb na nb hg hs hso hb;have hm:ME (d+1)=50+16*ME d:=rfl;have kb:s.body.length*ME d<=8*ME d:=cL _ h1;unfold o_ aY bm bz cH eC kP bL qf bH;refine aw (xq (by omega) hg hs ga na) λy q=>?_
 obtain⟨Z,o2⟩:=y;obtain⟨U,z⟩:=q;dsimp only at U z;subst U;have q3:=z.u;refine bf (by simp) ?_;refine aw (hS s.body Z o2 (by omega) h2 hg hso (by omega)) λy q=>?_
 obtain⟨A,o3⟩:=y;obtain⟨r1,r2,r3⟩:=q;dsimp only at r1 r2 r3;have r4:=r2.u;refine bf (by simp) ?_;have L:=r1.trans (GQ.site A A.2.2.2.2.2.1 Z.2.2.2.2.2.2.2.1 A.2.2.2.2.2.2.2.2);refine aw (xq (by dsimp only;omega) (hg.of L) hs gb nb) λy q=>bf (by simp) (aj ⟨?_,?_,?_⟩)
 .rw[q.1];exact L
 .exact (z.trans r2 (bP _)).trans q.2 (by omega)
 .rw[q.1];exact r3
theorem zq {l:Y IT} {j k:Nat} {x:IT} (h:j<l.length):iA (cI l (j:Int) x) k=if k=j then x else iA l k:=Jo (T:=BE) l j k x h
abbrev ptB (l:Y IT) (j:Nat) (b:Int):Y IT:=cI l (j:Int) ((iA l j).1,(iA l j).2.1,b,(iA l j).2.2.2.1,(iA l j).2.2.2.2.1,(iA l j).2.2.2.2.2)
abbrev ptA (l:Y IT) (j:Nat) (a:Int):Y IT:=cI l (j:Int) ((iA l j).1,a,(iA l j).2.2.1,(iA l j).2.2.2.1,(iA l j).2.2.2.2.1,(iA l j).2.2.2.2.2)
theorem GI.pb {i:IT} {b:Int} (h:GI nT ss t i) (h1:i.1=10):GI nT ss t (i.1,i.2.1,b,i.2.2.2.1,i.2.2.2.2.1,i.2.2.2.2.2):=by
 obtain⟨L,A,z,q,c,a⟩:=i;dsimp only at h1;subst h1;exact⟨⟨h.o.o1,h.o.o2,h.o.r,(by decide:¬(10:Int)=3)⟩,h.s⟩
theorem QC.cbr {n m:Nat} {out o1 o2 a:Y IT} {br:IT} (h1:QC nT ss t n out o1) (h2:o2=o1++[br]) (hb:GI nT ss t br) (s:br.1=10) (q:QC nT ss t m o2 a) (F:Y IT) (hl:a.length<=F.length) (z:∀k:Nat,k<a.length->¬k=o1.length->iA F k=iA a k) (hFb:∃b:Int,(0<=b/\b<=(F.length:Int))/\iA F o1.length=(br.1,br.2.1,b,br.2.2.2.1,br.2.2.2.2.1,br.2.2.2.2.2)):(∀k:Nat,k<out.length->iA F k=iA out k)/\qT F out.length o1.length/\(iA F o1.length).1=10/\qT F (o1.length+1) a.length/\(∀k:Nat,out.length<=k->k<a.length->GI nT ss t (iA F k))/\∀k:Nat,out.length<=k->k<a.length->(iA F k).1=10->0<=(iA F k).2.2.1/\(iA F k).2.2.1<=(F.length:Int):=by
 have l2:o2.length=o1.length+1:=by rw[h2,be];rfl
 have l1:=h1.l;have l3:=q.l;have e1:∀k:Nat,k<o1.length->iA F k=iA o1 k:=λk hk=>by rw[z k (by omega) (by omega),q.p k (by omega),h2,I3 hk]
 obtain⟨b,U,Z⟩:=hFb;refine ⟨λk hk=>(e1 k (by omega)).trans (h1.p k hk),h1.b.congr λk _ hk=>e1 k hk,by rw[Z];exact s,?_,λk L c=>?_,λk L c A=>?_⟩
 .have:=q.b;rw[l2]at this;exact this.congr λk L c=>z k c (by omega)
 .rcases NL k o1.length with hk|hk|hk
  .rw[e1 k hk];exact h1.i k L hk
  .rw[hk,Z];exact hb.pb s
  .rw[z k c (by omega)];exact q.i k (by omega) c
 .rcases NL k o1.length with hk|hk|hk
  .rw[e1 k hk]at A ⊢;have:=h1.r k L hk A;omega
  .rw[hk,Z];exact U
  .rw[z k c (by omega)]at A ⊢;have:=q.r k (by omega) c A;omega
theorem LX (rs:FS6) (rt:FT6) (rb:FT6) (ra:FA6) (d:Nat) (hS:acu nT ss t rs d):ak6 nT ss t (mK rs rt rb ra) d:=by
 intro s g out hop he h1 h2 h3 h4 hel hg hs hso hb;have hm:ME (d+1)=50+16*ME d:=rfl;have kb:s.body.length*ME d<=8*ME d:=cL _ h1;have ke:s.els.length*ME d<=8*ME d:=cL _ h2;have hex:GE 4 (em (Xp.op s.expr,Xp.n s.expr,Xp.name s.expr,Xp.l s.expr)):=by rw[fm];exact he
 unfold mK aY bm bz cH eC kP qf ck bg bH aV;refine aw (Cx _ _ g out hex hg hs (by rw[hg.len];decide) (by rw[hg.len];decide) (by omega)) λy Z=>?_
 obtain⟨L,o1⟩:=y;obtain⟨p1,p2⟩:=Z;dsimp only at p1 p2;subst p1;have p3:=p2.u;have p4:=p2.l;refine bf (by simp) ?_;refine aw (It _ L o1 (by omega)) λy Z=>?_
 obtain⟨c,o2⟩:=y;obtain⟨q1,q2⟩:=Z;dsimp only at q1 q2;subst q1;rw[hg.len]at q2;have hbr:GI nT ss t ((10,2,0,0,0,c.2.2.2.2.2.2.2.1):IT):=⟨Yq (by decide) (by decide) (by simp[iV]) (by decide:¬(10:Int)=3),hs⟩
 have l2:o2.length=o1.length+1:=by rw[q2,be];rfl
 refine bf (by simp) ?_;refine aw (hS s.body c o2 (by omega) h3 hg (hso.sub (du _) (by omega)) (by omega)) λy Z=>?_
 obtain⟨A,a⟩:=y;obtain⟨r1,r2,r3⟩:=Z;dsimp only at r1 r2 r3;have r4:=r2.u;have r5:=r2.l;have ebr:iA a o1.length=(10,2,0,0,0,c.2.2.2.2.2.2.2.1):=by rw[r2.p _ (by omega),q2,xx]
 refine bf (by simp) ?_;have qs:=r1.trans (GQ.site A A.2.2.2.2.2.1 c.2.2.2.2.2.2.2.1 A.2.2.2.2.2.2.2.2);refine aK (λh3w=>?_) λh3w=>?_
 .have hels:nO d s.els=0:=by rw[hel (by have h3w:s.op=3:=h3w;omega)];rfl
  rw[hels,c8];refine aw (It _ _ a (by omega)) λy Z=>?_
  obtain⟨g4,q⟩:=y;obtain⟨w1,w2⟩:=Z;dsimp only at w1 w2;have l4:q.length=a.length+1:=by rw[w2,be];rfl
  refine bf (by simp) (aR (eK _) (by dsimp only[ak];omega) (aR (eK _) (by dsimp only[ak];omega) (aj ?_)));have hat:o1.length<q.length:=by omega
  have ej:iA q a.length=(5,(out.length:Int),0,0,0,c.2.2.2.2.2.2.2.1):=by rw[w2,xx];rfl
  have e43:∀k:Nat,k<a.length->iA q k=iA a k:=λk hk=>by rw[w2,I3 hk]
  refine ⟨by dsimp only;rw[w1];exact qs,?_,by dsimp only;rw[w1];exact r3⟩;dsimp only;have eF:∀{z:IT} {k:Nat},¬k=o1.length->iA (cI q ((o1.length:Nat):Int) z) k=iA q k:=λh=>by rw[zq hat,ax h]
  obtain⟨f1,f2,f3,f4,f5,f6⟩:=p2.cbr q2 hbr rfl r2 (ptB q o1.length (aN q.length)) (by rw[bU];omega) (λk hk hn=>(eF hn).trans (e43 k hk)) ⟨_,⟨eK _,by rw[bU];exact du _⟩,by rw[zq hat,aC rfl,e43 _ (by omega),ebr];rfl⟩;show QC nT ss t _ out (ptB q o1.length (aN q.length));have ejF:iA (ptB q o1.length (aN q.length)) a.length=(5,(out.length:Int),0,0,0,c.2.2.2.2.2.2.2.1):=(eF (by omega:¬a.length=o1.length)).trans ej;refine ⟨by rw[bU];omega,by rw[bU];omega,f1,?_,λk L c=>?_,λk L c A=>?_⟩
  .rw[(bU _ _ _).trans l4];exact f2.whl f3 f4 (by rw[ejF]) (by rw[ejF])
  .rw[bU,l4]at c;by_cases hk:k<a.length
   .exact f5 k L hk
   .rw[show k=a.length by omega,ejF];exact⟨Yq (by decide) (by decide) (by simp[iV]) (by decide:¬(5:Int)=3),hs⟩
  .have g2':=c;rw[bU,l4]at g2';by_cases hk:k<a.length
   .exact f6 k L hk A
   .rw[show k=a.length by omega,ejF]at A;cases A
 refine aK (λhz=>?_) λ_=>?_
 .have hels:nO d s.els=0:=by rw[gQ.1 (by dsimp only[ak]at hz;omega:s.els.length=0)];rfl
  rw[hels,c8];refine aR (eK _) (by dsimp only[ak];omega) (aR (eK _) (by dsimp only[ak];omega) (aj ⟨qs,?_,r3⟩));dsimp only;have hat:o1.length<a.length:=by omega
  obtain⟨f1,f2,f3,f4,f5,f6⟩:=p2.cbr q2 hbr rfl r2 (ptB a o1.length (aN a.length)) (by rw[bU];omega) (λk hk hn=>by rw[zq hat,ax hn]) ⟨_,⟨eK _,by rw[bU];exact du _⟩,by rw[zq hat,aC rfl,ebr];rfl⟩;show QC nT ss t _ out (ptB a o1.length (aN a.length));refine ⟨by rw[bU];omega,by rw[bU];omega,f1,?_,λk L c=>?_,λk L c A=>?_⟩
  .rw[bU];exact (f2.app (qT.one (by rw[f3];decide))).app f4
  .rw[bU]at c;exact f5 k L c
  .exact f6 k L (by rw[bU]at c;exact c) A
 .refine aw (It _ _ a (by omega)) λy Z=>?_
  obtain⟨g4,q⟩:=y;obtain⟨w1,w2⟩:=Z;dsimp only at w1 w2;have l4:q.length=a.length+1:=by rw[w2,be];rfl
  have qs4:GQ c g4:=by rw[w1];exact qs
  have x4:gN g4=gN c+(nO d s.body:Nat):=by rw[w1];exact r3
  have hat:o1.length<q.length:=by omega
  have ej:iA q a.length=(5,0,0,0,0,c.2.2.2.2.2.2.2.1):=by rw[w2,xx]
  have e43:∀k:Nat,k<a.length->iA q k=iA a k:=λk hk=>by rw[w2,I3 hk]
  refine bf (by simp) (aR (eK _) (by dsimp only[ak];omega) (aR (eK _) (by dsimp only[ak];omega) ?_));have eF:∀{z:IT} {k:Nat},¬k=o1.length->iA (cI q ((o1.length:Nat):Int) z) k=iA q k:=λh=>by rw[zq hat,ax h]
  refine aw (hS s.els g4 (ptB q o1.length (aN q.length)) (by omega) h4 (hg.of qs4) (hso.sub (by rw[x4];omega) (by rw[x4];omega)) (by rw[bU];omega)) λy Z=>?_
  obtain⟨g5,U⟩:=y;obtain⟨z1,z2,z3⟩:=Z;dsimp only at z1 z2 z3;have z4:=z2.l;have z5:=z2.u;have zp:=z2.p;have zb:=z2.b;have zi:=z2.i;have zr:=z2.r;rw[bU]at z4 z5 zp zb zi zr;have hj5:a.length<U.length:=by omega
  refine bf (by simp) (aR (eK _) (by dsimp only[ak];omega) (aR (eK _) (by dsimp only[ak];omega) (aj ⟨qs4.trans z1,?_,by dsimp only;rw[z3,x4];omega⟩)));dsimp only;show QC nT ss t _ out (ptA U a.length (aN U.length));have eG:∀{z:IT} {k:Nat},¬k=a.length->iA (cI U ((a.length:Nat):Int) z) k=iA U k:=λh=>by rw[zq hj5,ax h]
  have ej5:iA U a.length=(5,0,0,0,0,c.2.2.2.2.2.2.2.1):=by rw[zp _ (by omega),eF (by omega),ej]
  obtain⟨f1,f2,f3,f4,f5,f6⟩:=p2.cbr q2 hbr rfl r2 (ptA U a.length (aN U.length)) (by rw[bU];omega) (λk hk hn=>by rw[eG (by omega),zp k (by omega),eF hn,e43 k hk]) ⟨aN q.length,⟨eK _,by rw[bU];dsimp only[ak];omega⟩,by rw[eG (by omega),zp _ (by omega),zq hat,aC rfl,e43 _ (by omega),ebr]⟩;have ejF:iA (ptA U a.length (aN U.length)) a.length=(5,aN U.length,0,0,0,c.2.2.2.2.2.2.2.1):=by rw[zq hj5,aC rfl,ej5]
  refine ⟨by rw[bU];omega,by rw[bU];omega,f1,?_,λk L c=>?_,λk L c A=>?_⟩
  .rw[bU];refine ((f2.app (qT.one (by rw[f3];decide))).app f4).ite (by rw[ejF]) (by rw[ejF];rfl) ?_;rw[l4]at zb;exact zb.congr λk L c=>eG (by omega)
  .rw[bU]at c;rcases NL k a.length with hk|hk|hk
   .exact f5 k L hk
   .rw[hk,ejF];exact⟨Yq (by decide) (by decide) (by simp[iV]) (by decide:¬(5:Int)=3),hs⟩
   .rw[eG (by omega)];exact zi k (by omega) c
  .have g2':=c;rw[bU]at g2';rcases NL k a.length with hk|hk|hk
   .exact f6 k L hk A
   .rw[hk,ejF]at A;cases A
   .rw[eG (by omega)]at A ⊢;rw[bU];exact zr k (by omega) g2' A
theorem Yp (rs:FS6) (rt:FT6) (rb:FT6) (ra:FA6) (d:Nat) (hB:ak6 nT ss t rb d) (hA:ak7 nT ss t ra d):SpG nT ss t (sa rs rt rb ra) (d+1):=by
 intro s g out hs hg hso hb;have hm:ME (d+1)=50+16*ME d:=rfl;obtain⟨i1,i2,i3,i4,i5,i6,i7,i8,i9,Z⟩:=hs;have hcn:P0 (d+1) s=1+nO d s.body+nO d s.els:=rfl;rw[hcn]at hso ⊢;obtain⟨so0,so1,so2⟩:=id hso;have so0:0<=g.2.2.2.2.2.2.2.2:=so0;have so1:g.2.2.2.2.2.2.2.2+((1+nO d s.body+nO d s.els:Nat):Int)<=1000:=so1;have ew:bl .i64 (g.2.2.2.2.2.2.2.2+1)=g.2.2.2.2.2.2.2.2+1:=iI (by omega) (by omega);have gs:=GQ.site g g.2.2.2.2.2.1 g.2.2.2.2.2.2.2.2 (bl .i64 (g.2.2.2.2.2.2.2.2+1));unfold sa aY bm bz cH eC bL qf bg bH aV aE cG eo;refine aU (λx=>QG nT ss t (ME (d+1)) (1+nO d s.body+nO d s.els) g out x) ?_ λx hx=>aj hx
 dsimp only;have hs1:SO ss t (gS ((g.1,g.2.1,g.2.2.1,g.2.2.2.1,g.2.2.2.2.1,g.2.2.2.2.2.1,g.2.2.2.2.2.2.1,g.2.2.2.2.2.2.2.2,bl .i64 (g.2.2.2.2.2.2.2.2+1)):GN)):=so2 _ (du _) (by show g.2.2.2.2.2.2.2.2<g.2.2.2.2.2.2.2.2+((1+nO d s.body+nO d s.els:Nat):Int);omega);have hn1:gN ((g.1,g.2.1,g.2.2.1,g.2.2.2.1,g.2.2.2.2.1,g.2.2.2.2.2.1,g.2.2.2.2.2.2.1,g.2.2.2.2.2.2.2.2,bl .i64 (g.2.2.2.2.2.2.2.2+1)):GN)=gN g+1:=ew;revert gs hs1 hn1;generalize ((g.1,g.2.1,g.2.2.1,g.2.2.2.1,g.2.2.2.2.1,g.2.2.2.2.2.1,g.2.2.2.2.2.2.1,g.2.2.2.2.2.2.2.2,bl .i64 (g.2.2.2.2.2.2.2.2+1)):GN)=U;intro gs hs1 hn1;have L:=hg.of gs;have hso1:=hso.sub (b:=gN U) (n:=nO d s.body+nO d s.els) (by rw[hn1];omega) (by rw[hn1];omega);have fin:∀(n m:Nat) (y:GN×Y IT),QG nT ss t n m U out y->n<=ME (d+1)->m=nO d s.body+nO d s.els->QG nT ss t (ME (d+1)) (1+nO d s.body+nO d s.els) g out y:=λn m y A hn hm=>⟨gs.trans A.q,(QC.nil 0 out).trans A.c (by omega),by rw[A.x,hn1];omega⟩
 have fin0:s.op=1\/9<=s.op->∀(n:Nat) (y:GN×Y IT),y.1=U/\QC nT ss t n out y.2->n<=ME (d+1)->QG nT ss t (ME (d+1)) (1+nO d s.body+nO d s.els) g out y:=λz n y A hn=>fin n 0 y ⟨by rw[A.1];exact GQ.refl U,A.2,by rw[A.1];simp⟩ hn (by rw[Z.bo z,Z.el (by omega)];rfl)
 refine aK (λz=>?_) λ_=>?_
 .refine aw (V0 (nY _) U out ?_ ?_ ?_ ?_ L hs1 (by omega)) λy A=>bf (by simp) (aj (fin0 (.inl z) _ _ A (by omega)))
  .rw[yd];exact i1
  .rw[yd];exact i3
  .rw[yd];exact i4 (.inl z)
  .rw[yd];exact Z.vr z
 refine aU (λx=>x.2=(U,s,out)/\(x.1=J↔s.op=2\/s.op=3)) ?_ ?_
 .exact aK (λh=>aj ⟨by dsimp only;rw[yd],λ_=>.inl h,λ_=>aO h⟩) λh=>aj ⟨by dsimp only;rw[yd],λh2=>.inr (a8 h2),λh2=>aO (h2.resolve_left h)⟩
 rintro⟨b,x⟩ ⟨e,hb2⟩;dsimp only at e hb2;subst e;refine aP (λhb3=>?_) λhbf=>?_
 .dsimp only;rw[yd];refine aw (hB s U out (hb2.1 hb3) (i4 (by rcases hb2.1 hb3 with h|h;exact .inr (.inl h);exact .inr (.inr (.inl h)))) i6 i7 i8 i9 Z.el L hs1 hso1 hb) λy A=>bf (by simp) (aj (fin _ _ _ A (by omega) rfl))
 have har:∀(a b c:Int),4<=s.op->GO nT (a,c,0,0,0,0)->GO nT (b,c,0,0,0,0)->¬a=5/\¬a=10->¬b=5/\¬b=10->Ok (ra ((s,a,b,c),U,out)) λy=>QG nT ss t (ME (d+1)) (1+nO d s.body+nO d s.els) g out y:=λa b c h4 ga gb na nb=>(hA s a b c U out i6 i8 ga gb na nb L hs1 (hso1.sub (du _) (by omega)) hb).mono λy A=>fin _ _ _ A (by omega) (by rw[Z.el (by omega)];rfl)
 have hput:∀{op:Int} {r:υ},9<=s.op->GO nT (op,r)->¬op=5/\¬op=10->Ok (cF ((op,r),U,out)) (QG nT ss t (ME (d+1)) (1+nO d s.body+nO d s.els) g out):=λh9 hi h5=>(xq (by omega) L hs1 hi h5).mono λy A=>fin0 (.inr h9) _ _ A (by omega)
 have hlk:∀n:ζ,Ok (ku (U.2.1,n)) λr=>(n=[109]->r=0)/\(n=[110]->r=1)/\(n=[114]->r=2):=λn=>(MT U.2.1 n (by rw[L.l];decide)).mono λr h=>aho (by rw[L.l]at h;exact h)
 have hcond:∀(n:ζ),Ok (jz (n,U,out)) λy=>y.2=(U,out)/\(n=[99]->y.1=0):=λn=>abw n U out L
 have hth:Ok (jf (U.2.2.2.2.1,s.name)) λr=>s.op=12\/s.op=13->0<=r/\r<(nT:Int):=(yF U.2.2.2.2.1 s.name (by rw[L.t,bA];have q4:vZ.length=4:=rfl;omega)).mono λr hr z=>by
  have hn:=Z.sp z;have hl:(vZ.take nT).length<=nT:=qg ..;obtain⟨_,h2,_,h4⟩:=hr;rw[L.t]at h2 h4;exact⟨x_.1 λh=>h4 h hn,by omega⟩
 have hft:∀n:ζ,Ok (jf (U.2.2.2.1,n)) λr=>n=[102]->r=0:=λn=>(yF U.2.2.2.1 n (by rw[L.f];decide)).mono λr hr hn=>by
  obtain⟨h1,h2,_,h4⟩:=hr;rw[L.f]at h2 h4;have h2:r<1:=h2;have:¬r<0:=λh=>h4 h (by rw[hn];decide)
  omega
 dsimp only;rw[yd];have gor:∀{a c:Int},1<=a->a<=27->iV (a,c,0,0,0,0)=[]->OB nT (a,c,0,0,0,0)->GO nT (a,c,0,0,0,0):=λh1 h2 h3 h4=>⟨h1,h2,by rw[h3];exact λj hj=>(by cases hj),h4⟩
 refine aK (λz=>aw (hlk _) λv hv=>aw (har _ _ _ (by have z:s.op=4:=z;omega) (gor (by decide) (by decide) rfl ?_) (gor (by decide) (by decide) rfl ?_) (by decide) (by decide)) λy A=>bf (by simp) (aj A)) λ_=>?_
 .exact (Z.lk z).imp hv.1 hv.2.1
 .exact (Z.lk z).imp hv.1 hv.2.1
 refine aK (λz=>aw (hlk _) λv hv=>aw (har _ _ _ (by have z:s.op=5:=z;omega) (gor (by decide) (by decide) rfl ?_) (gor (by decide) (by decide) rfl ?_) (by decide) (by decide)) λy A=>bf (by simp) (aj A)) λ_=>?_
 .exact hv.2.2 (Z.rw (.inl z))
 .exact hv.2.2 (Z.rw (.inl z))
 refine aK (λz=>aw (hlk _) λv hv=>aw (har _ _ _ (by have z:s.op=6:=z;omega) (gor (by decide) (by decide) rfl ?_) (gor (by decide) (by decide) rfl ?_) (by decide) (by decide)) λy A=>bf (by simp) (aj A)) λ_=>?_
 .exact hv.2.2 (Z.rw (.inr z))
 .exact hv.2.2 (Z.rw (.inr z))
 refine aK (λz=>aw (har _ _ _ (by have z:s.op=7:=z;omega) (gor (by decide) (by decide) rfl (by decide:¬(17:Int)=3)) (gor (by decide) (by decide) rfl (by decide:¬(18:Int)=3)) (by decide) (by decide)) λy A=>bf (by simp) (aj A)) λ_=>?_
 refine aK (λz=>aw (har _ _ _ (by have z:s.op=8:=z;omega) (gor (by decide) (by decide) rfl (by decide:¬(19:Int)=3)) (gor (by decide) (by decide) rfl (by decide:¬(20:Int)=3)) (by decide) (by decide)) λy A=>bf (by simp) (aj A)) λ_=>?_
 refine aK (λz=>aw (hcond _) λy A=>?_) λ_=>?_
 .obtain⟨v,y2⟩:=y;obtain⟨y3,y4⟩:=A;dsimp only at y3;subst y3;exact bf (by simp) (aw (hput (by have z:s.op=9:=z;omega) (gor (by decide) (by decide) rfl (y4 (Z.cn (.inl z)))) (by decide)) λy A=>bf (by simp) (aj A))
 refine aK (λz=>aw (hcond _) λy A=>?_) λ_=>?_
 .obtain⟨v,y2⟩:=y;obtain⟨y3,y4⟩:=A;dsimp only at y3;subst y3;exact bf (by simp) (aw (hput (by have z:s.op=10:=z;omega) (gor (by decide) (by decide) rfl (y4 (Z.cn (.inr (.inl z))))) (by decide)) λy A=>bf (by simp) (aj A))
 refine aK (λz=>aw (hcond _) λy A=>?_) λ_=>?_
 .obtain⟨v,y2⟩:=y;obtain⟨y3,y4⟩:=A;dsimp only at y3;subst y3;exact bf (by simp) (aw (hput (by have z:s.op=11:=z;omega) (gor (by decide) (by decide) rfl (y4 (Z.cn (.inr (.inr z))))) (by decide)) λy A=>bf (by simp) (aj A))
 refine aK (λz=>aw hth λv hv=>aw (hput (by have z:s.op=12:=z;omega) (gor (by decide) (by decide) rfl (hv (.inl z))) (by decide)) λy A=>bf (by simp) (aj A)) λ_=>?_
 refine aK (λz=>aw hth λv hv=>aw (hput (by have z:s.op=13:=z;omega) (gor (by decide) (by decide) rfl (hv (.inr z))) (by decide)) λy A=>bf (by simp) (aj A)) λ_=>?_
 refine aK (λz=>?_) λn14=>?_
 .have hex:GE 4 (em (Xp.op s.expr,Xp.n s.expr,Xp.name s.expr,Xp.l s.expr)):=by rw[fm];exact i4 (.inr (.inr (.inr z)))
  refine aw (Cx _ _ U out hex L hs1 (by rw[hg.len];decide) (by rw[hg.len];decide) (by omega)) λy A=>?_
  obtain⟨g2,o2⟩:=y;obtain⟨q1,q2⟩:=A;dsimp only at q1 q2;subst q1;have q3:=q2.u;refine bf (by simp) (aw (hft _) λv hv=>?_);refine aw (xq (by omega) L hs1 (Yq (by decide) (by decide) (by simp[iV,hg.h,L0]) (hv (Z.se z))) (by decide)) λy A=>bf (by simp) (aj (fin0 (.inr (by have z:s.op=14:=z;omega)) 16 _ ⟨A.1,q2.trans A.2 (bP _)⟩ (by omega)))
 refine aK (λz=>?_) λn15=>?_
 .refine aw (yF _ _ (by rw[L.h];decide)) λv hv=>aw (hft _) λv2 hv2=>?_
  have hge:=Z.ge z;have hl:(0:Int)<=v/\v<2:=by
   obtain⟨_,h2,_,h4⟩:=hv;rw[L.h]at h2 h4;exact⟨x_.1 λh=>h4 h (by rw[hge.1];decide),h2⟩
  exact aw (hput (by have z:s.op=15:=z;omega) (Yq (by decide) (by decide) (by simp[iV];omega) (hv2 hge.2)) (by decide)) λy A=>bf (by simp) (aj A)
 .exfalso;have h1:=Z.o0;have h2:=Z.o1;have h3:¬(s.op=2\/s.op=3):=λh=>by have hbf:b=af:=hbf;rw[hb2.2 h]at hbf;cases hbf
  omega
variable {nT:Nat} {ss:Y π} {t:Int}
theorem Xh:∀(n:Nat),(∀d:Nat,3*d<n->SpG nT ss t (eR n) d)/\(∀d:Nat,3*d+1<n->acu nT ss t (dM n) d)/\(∀d:Nat,3*d+2<n->ak6 nT ss t (c9 n) d)/\(∀d:Nat,3*d+2<n->ak7 nT ss t (dH n) d)
 |0=>⟨λd h=>by omega,λd h=>by omega,λd h=>by omega,λd h=>by omega⟩
 |n+1=>by
  obtain⟨c,a,q,hA⟩:=Xh n;refine ⟨λd h=>?_,λd h=>?_,λd h=>?_,λd h=>?_⟩
  .cases d with
   |zero=>exact λs g out hs=>hs.elim
   |succ d=>exact Yp (dM n) (eR n) (c9 n) (dH n) d (q d (by omega)) (hA d (by omega))
  .exact U2 (dM n) (eR n) (c9 n) (dH n) d (c d (by omega))
  .exact LX (dM n) (eR n) (c9 n) (dH n) d (a d (by omega))
  .exact Rl (dM n) (eR n) (c9 n) (dH n) d (a d (by omega))
theorem ON (d:Nat) (hd:d<=100):acu nT ss t uj d:=(Xh fuel).2.1 d (by rw[j7];omega)
structure SL (t k:Int) (m:Nat) (S:List π):Prop where
 l:S.length=m
 v:∀i:Nat,i<m->(aJ (T:=ya) S (i:Int)).1=t/\(aJ (T:=ya) S (i:Int)).2.1=k+i
theorem Jq {T:Ty} {l m:Y T.den} {k:Nat} (h:k<l.length):aJ (l++m) (k:Int)=aJ l (k:Int):=by
 rw[yJ,yJ,au,au,bQ h]
theorem Jp {T:Ty} {l m:Y T.den} {k:Nat} (h:l.length<=k):aJ (l++m) (k:Int)=aJ m ((k-l.length:Nat):Int):=by
 rw[yJ,yJ,au,au,cf h]
theorem SL.nil (t k:Int):SL t k 0 []:=⟨rfl,λi h=>by omega⟩
theorem SL.one (t k z:Int):SL t k 1 [(t,k,z)]:=⟨rfl,λi h=>by rw[show i=0 by omega];exact⟨rfl,by show k=k+((0:Nat):Int);omega⟩⟩
theorem SL.app {k k':Int} {a b:Nat} {S S':Y π} (h:SL t k a S) (h':SL t k' b S') (hk:k'=k+a):SL t k (a+b) (S++S'):=by
 obtain⟨h1,h2⟩:=h;obtain⟨q,c⟩:=h';refine ⟨by rw[be];omega,λi hi=>?_⟩;by_cases hl:i<S.length
 .rw[Jq (T:=ya) hl];exact h2 i (by omega)
 .rw[Jp (T:=ya) (by omega)];have:=c (i-S.length) (by omega);exact⟨this.1,this.2.trans (show k'+((i-S.length:Nat):Int)=k+(i:Int) by omega)⟩
theorem E6:∀(n d:Nat),d<n->∀(t k:Int) (l:Y Sx) (out:Y π),l.length<=100->(∀s∈l,GT d s)->0<=k->k+nO d l<=100000000->out.length+nO d l<=100000000->Ok (pG n ((t,k,l),out)) λy=>y.1=k+nO d l/\∃S,y.2=out++S/\SL t k (nO d l) S
 |0,_,h,_,_,_,_,_,_,_,_,_=>by omega
 |n+1,d,hn,t,k,l,out,hl,hs,k0,hkb,hb=>by
  rw[Hh];unfold xA bx xi bH aV cP aE cG;refine ch l.length (λi x=>x.1.2=(i:Int)/\x.1.1=k+nO d (l.take i)/\∃S,x.2=out++S/\SL t k (nO d (l.take i)) S) ?_ ?_ ⟨rfl,by simp[nO],[],by simp,by simp[nO];exact SL.nil t k⟩
  .rintro i ⟨⟨a,b⟩,o⟩ hi ⟨e1,e2,S,e3,Z⟩;dsimp only at e1 e2 e3;subst e1;subst e2;subst e3;have hp:=Pe (d:=d) l (i+1);rw[wX hi]at hp;rw[wX hi];refine dg ?_;have hin:((i:Nat):Int)<(l.length:Int):=by omega
   have hm:=hs _ (bN (T:=.sm) (xs:=l) (j:=(i:Int)) (by omega) (by omega));have hSl:=Z.l;cases d with
   |zero=>exact hm.elim
   |succ d=>
    obtain⟨_,_,_,g4,g5,g6,g7⟩:=hm;have hc:P0 (d+1) (aJ (T:=.sm) l (i:Int))=1+nO d (Sx.body (aJ (T:=.sm) l (i:Int)))+nO d (Sx.els (aJ (T:=.sm) l (i:Int))):=rfl;rw[hc]at hp ⊢;dsimp only;refine aR (by omega) hin (aT (bd (by simp;omega) (by omega) (aR (by omega) hin (aT ?_))));rw[iI (n:=k+(nO (d+1) (l.take i):Nat)+1) (by omega) (by omega)];refine aw (E6 n d (by omega) _ _ _ _ (by omega) g6 (by omega) (by omega) (by simp;omega)) λy c=>bf (by simp) ?_
    obtain⟨a2,o2⟩:=y;obtain⟨U,S2,L,A⟩:=c;dsimp only at U L;subst U;subst L;have hSl2:=A.l;refine aR (by omega) hin (aT ?_);refine aw (E6 n d (by omega) _ _ _ _ (by omega) g7 (by omega) (by omega) (by simp;omega)) λy c=>bf (by simp) (aj ?_)
    obtain⟨a3,o3⟩:=y;obtain⟨z,S3,q,z3⟩:=c;dsimp only at z q;subst z;subst q;refine ⟨gD (by omega),by dsimp only;omega,S++([_]++(S2++S3)),by simp only[iH];rfl,?_⟩;refine Z.app ?_ rfl;rw[sR];exact (SL.one t _ _).app (A.app z3 rfl) (by simp)
  .rintro⟨⟨a,b⟩,o⟩ ⟨e1,e2,e3⟩;dsimp only at e1 e2 e3;subst e1;subst e2;rw[cK]at e3 ⊢;exact dc (aj ⟨rfl,e3⟩)
theorem Wt {T k' s k:Int} {l S:Y π} {m:Nat} (h:Lj T l=M (k',s)) (z:SL t k m S) (hk:(k'=t/\s=k)\/(k'<t/\t<T/\k=0)):∀i:Nat,i<=m->Lj T (l++S.take i)=M (if i=0 then (k',s) else (t,k+i))
 |0,_=>by rw[List.take_zero,kc,aC rfl];exact h
 |i+1,hi=>by
  have L:=Wt h z hk i (by omega);rw[ou (T:=ya) (xs:=S) (i:=i) (by rw[z.l];omega),<-iH,Wv,L];obtain⟨a,q⟩:=z.v i (by omega);rw[ax (Nat.succ_ne_zero i)];by_cases c:i=0
  .subst c;rw[aC rfl];unfold TJ;dsimp only;rcases hk with ⟨h1,h2⟩|⟨h1,h2,A⟩
   .rw[aC ⟨by rw[a,h1],by rw[q,h2];simp⟩,h1,h2];simp
   .rw[ax (λh=>by rw[a]at h;omega),aC ⟨by rw[a];exact h1,by rw[a];exact h2,by rw[q,A];rfl⟩,a,A];simp
  .rw[ax c];unfold TJ;dsimp only;rw[aC ⟨a,q⟩];congr 2;omega
abbrev CE6:Type:=ζ×Int×Int×Bool×Int
abbrev W4T:Type:=Y CE6×Y (ζ×Bool)×Y (ζ×Int)×Y ζ
def ceD (z:DT):Y CE6:=(dN (aQ (gO z.2.2.2.1 1))).map λ(k:Nat)=>(z.2.2.1,(k:Int),z.2.2.2.1,decide (z.1=2),z.2.2.2.2.1)
def adD (y:W4T) (z:DT):W4T:=
 if z.1=1\/z.1=2 then (y.1++ceD z,y.2) else if z.1=3\/z.1=4 then (y.1,y.2.1++[(z.2.2.1,decide (z.1=4))],y.2.2) else if z.1=5 then (y.1,y.2.1,y.2.2.1++[(z.2.2.1,0)],y.2.2.2) else (y.1,y.2.1,y.2.2.1,y.2.2.2++[z.2.2.1])
def W4 (i:Nat):W4T:=(D0.take i).foldl adD ([],[],[],[])
theorem W4_9:W4 9=(C0,G1,Mt,Tl):=rfl
theorem W4_s {i:Nat} (hi:i<9):W4 (i+1)=adD (W4 i) (aJ (T:=tDc) D0 (i:Int)):=by
 unfold W4;rw[ou (T:=tDc) (xs:=D0) hi,eD];rfl
theorem D0_c:∀i:Nat,i<9->(aJ (T:=tDc) D0 (i:Int)).1=5->i=7:=by decide
theorem an5:∀i:Nat,i<9->(W4 i).1.length<=5/\(W4 i).2.1.length<=3/\(W4 i).2.2.1.length<=1/\(W4 i).2.2.2.length<=1/\gO (aJ (T:=tDc) D0 (i:Int)).2.2.2.1 1<=2/\1<=gO (aJ (T:=tDc) D0 (i:Int)).2.2.2.1 1:=by decide
def bsN (p:PG) (i:Nat):Nat:=((p.2.take i).map λt=>nO 5 t.2.2.2).sum
def boN (p:PG) (i:Nat):Nat:=nO 5 (aJ (T:=yT) p.2 (i:Int)).2.2.2
theorem ahz {p:PG} {i:Nat} (hi:i<p.2.length):bsN p (i+1)=bsN p i+boN p i:=by
 unfold bsN boN;rw[ou (T:=yT) hi,cS,FE];simp
theorem VW {p:PG} (i:Nat) (h:(p.2.map λt=>nO 5 t.2.2.2).sum<=60):bsN p i<=60:=by
 refine dy ?_ h
 conv=>rhs;rw[<- BA i p.2]
 unfold bsN;rw[cS,FE];omega
structure SW (p:PG) (i:Nat) (S:List π):Prop where
 l:S.length=bsN p i
 f:∃a b,Lj p.2.length S=M (a,b)/\(a<i\/a=0/\b=0)
 s:∀j:Nat,j<i->SR S (j:Int) (bsN p j:Nat) (boN p j)
structure WW (p:PG) (w:WT):Prop where
 x:WX w
 t:w.2.2.2.2.1=vZ.take p.2.length
 s:∀j:Nat,j<p.2.length->SR w.2.2.2.2.2 (j:Int) (bsN p j:Nat) (boN p j)
theorem SO.app {S S':Y π} {t s:Int} (h:SO S t s):SO (S++S') t s:=by
 obtain⟨h0,h1,h2⟩:=h;obtain⟨s,rfl⟩:∃n:Nat,s=(n:Int):=⟨s.toNat,by omega⟩
 exact⟨h0,by rw[be];omega,by rw[Jq (T:=ya) (by omega)];exact h2⟩
theorem V6 (p:PG) (hp:PJ p) (r:ν) (hr:fw p=M r) (h0:r.1=0) (hc:(p.2.map λt=>nO 5 t.2.2.2).sum<=60):Ok (uk p) (WW p):=by
 have hpt:=hp.t;unfold uk aY bm bz cH eC bL dx cY fo lP bg bx iU bH bM aV cP aE cG;refine aS hr (cg (λh=>(h h0).elim) λ_=>?_);have hD:p.1=D0:=hp.d;have hlen:p.1.length=9:=by rw[hD];rfl
 refine ch 9 (λi x=>x.1=(i:Int)/\x.2.1=p/\x.2.2=W4 i) ?_ ?_ ⟨rfl,rfl,rfl⟩
 .rintro i ⟨a,p',y⟩ hi ⟨e1,e2,e3⟩;dsimp only at e1 e2 e3;subst e1;have e2:=e2.symm;subst e2;obtain⟨b1,b2,b3,b4,b5,b6⟩:=an5 i hi;rw[<- e3]at b1 b2 b3 b4;have hW:=W4_s hi;rw[<- e3]at hW;have hcd:=D0_c i hi;have hlk:i=7->y.2.1=G1/\(aJ (T:=tDc) D0 (i:Int)).2.2.2.2.2=[109]:=λh=>by subst h;rw[e3];exact⟨rfl,rfl⟩
  refine dg ?_;refine cE (aT ?_);dsimp only;rw[hD];revert hW hcd hlk b5 b6;generalize (aJ (T:=tDc) D0 (i:Int))=z;intro b5 b6 hW hcd hlk;refine aU (λx=>x=(p,W4 (i+1))) ?_ ?_
  .rw[hW];unfold adD;refine aU (λx=>x.2=(p,z,y)/\(x.1=J↔(z.1=1\/z.1=2))) ?_ ?_
   .exact aK (λh=>aj ⟨rfl,λ_=>.inl h,λ_=>aO h⟩) λh=>aj ⟨rfl,λh2=>.inr (a8 h2),λh2=>aO (h2.resolve_left h)⟩
   rintro⟨b,x⟩ ⟨e,hb⟩;dsimp only at e hb;subst e;refine aP (λA=>?_) λA=>?_
   .rw[aC (hb.1 A)];unfold ceD;obtain⟨m,hm⟩:∃m:Nat,gO z.2.2.2.1 1=(m:Int):=⟨(gO z.2.2.2.1 1).toNat,by omega⟩
    rw[hm,bY];refine ch m (λk x=>x=((k:Int),p,z,y.1++(dN k).map (λ(k:Nat)=>(z.2.2.1,(k:Int),z.2.2.2.1,decide (z.1=2),z.2.2.2.2.1)),y.2)) ?_ ?_ (by simp)
    .rintro k x hk rfl;refine bK (λ_=>?_) λg=>(by dsimp only at g;rw[hm]at g;omega)
     refine bd (by simp;omega) (by omega) (aj ?_);dsimp only;rw[gD (by omega),List.range_succ,cS,<-iH];rfl
    .rintro x rfl;exact bK (λg=>(by dsimp only at g;rw[hm]at g;omega)) λ_=>aj rfl
   rw[ax λh=>by have A:b=af:=A;rw[hb.2 h]at A;cases A];refine aU (λx=>x.2=(p,z,y)/\(x.1=J↔(z.1=3\/z.1=4))) ?_ ?_
   .exact aK (λh=>aj ⟨rfl,λ_=>.inl h,λ_=>aO h⟩) λh=>aj ⟨rfl,λh2=>.inr (a8 h2),λh2=>aO (h2.resolve_left h)⟩
   rintro⟨c,x⟩ ⟨e,Z⟩;dsimp only at e Z;subst e;refine aP (λh=>?_) λh=>?_
   .rw[aC (Z.1 h)];exact bd (by simp;omega) (by omega) (aj rfl)
   rw[ax λh2=>by have h:c=af:=h;rw[Z.2 h2]at h;cases h];refine aK (λh5=>?_) λh5=>?_
   .obtain⟨l1,l2⟩:=hlk (hcd h5);rw[aC h5];refine aw (MT _ _ (by dsimp only;rw[l1];decide)) λv hv=>?_
    have hv:=(aho (by dsimp only at hv;rw[l1]at hv;exact hv)).1 l2;subst hv;exact bd (by simp;omega) (by omega) (aj rfl)
   .rw[ax h5];exact bd (by simp;omega) (by omega) (aj rfl)
  rintro x rfl;exact aj ⟨gD (by omega),rfl,rfl⟩
 .rintro⟨a,p',y⟩ ⟨e1,e2,j⟩;dsimp only at e1 e2 j;subst e1;have e2:=e2.symm;subst e2;rw[W4_9]at j;subst j;refine dc ?_;refine aw (P:=WW p) ?_ λr hr=>aj hr
  refine ch p.2.length (λi x=>x.1=(i:Int)/\x.2.1=p/\x.2.2.1=C0/\x.2.2.2.1=G1/\x.2.2.2.2.1=Mt/\x.2.2.2.2.2.1=Tl/\x.2.2.2.2.2.2.1=vZ.take i/\SW p i x.2.2.2.2.2.2.2) ?_ ?_ ⟨rfl,rfl,rfl,rfl,rfl,rfl,rfl,rfl,⟨0,0,rfl,.inr ⟨rfl,rfl⟩⟩,λj hj=>by omega⟩
  .rintro i ⟨a,p2,c2,l2,d2,f2,t2,s2⟩ hi ⟨e1,e2,e3,e4,e5,e6,e7,U,⟨fa,fb,f8,f9⟩,L⟩;dsimp only at e1 e2 e3 e4 e5 e6 e7 U f8 L;subst e1;have e2:=e2.symm;subst e2;have hb8:=VW (i+1) hc;have hbs:=ahz hi;refine dg ?_;have hin:((i:Nat):Int)<(p.2.length:Int):=by omega
   have hm:=hp.m _ (bN (T:=yT) (xs:=p.2) (j:=(i:Int)) (by omega) hin);have hnm:(aJ (T:=yT) p.2 (i:Int)).1=aJ (T:=.str) vZ (i:Int):=by
    have h1:=ou (T:=yT) hi;have h2:=gR (List.map Prod.fst) h1;rw[cS,kS,kS,hp.n,List.take_take,List.take_take,sP (by omega),sP (by omega),ou (T:=.str) (xs:=vZ) (i:=i) (by have q4:vZ.length=4:=rfl;omega)]at h2;exact ((List.cons.inj (List.append_cancel_left h2)).1).symm
   have htl:t2.length=i:=by rw[e7,bA];have q4:vZ.length=4:=rfl;omega
   dsimp only;refine aR (by omega) hin (aT (bd (by simp;omega) (by omega) (aR (by omega) hin (aT ?_))));refine aw (E6 fuel 5 (by rw[j7];omega) _ _ _ s2 (by have:=hm.b;omega) (λs hs=>((hm.s s hs).le (by omega:3<=5)).t) (du _) ?_ ?_) λy hy=>bf (by simp) (aj ?_)
   .show (0:Int)+(boN p i:Nat)<=_;omega
   .show s2.length+boN p i<=_;omega
   obtain⟨_,S,h2,h3⟩:=hy;have h3:SL (i:Int) 0 (boN p i) S:=h3;refine ⟨gD (by omega),rfl,e3,e4,e5,e6,?_,?_⟩
   .dsimp only;rw[e7,hnm,<-ou (T:=.str) (xs:=vZ) (i:=i) (by have q4:vZ.length=4:=rfl;omega)]
   .dsimp only;rw[h2];refine ⟨by rw[be,h3.l,U,hbs],?_,λj hj=>?_⟩
    .have hr:=Wt f8 h3 (by rcases f9 with h|⟨h,h'⟩;exact .inr ⟨h,by omega,rfl⟩;rcases Lb i with hi0|hi0;exact .inl ⟨by omega,h'⟩;exact .inr ⟨by omega,by omega,rfl⟩) (boN p i) (bP _);rw[<- h3.l,cK]at hr;rw[hr];split
     .exact⟨_,_,rfl,f9.imp (λh=>by omega) id⟩
     .exact⟨_,_,rfl,.inl (by omega)⟩
    .rcases ca j i with h1|h1
     .obtain⟨g1,g2,g3⟩:=L j h1;exact⟨g1,g2,λq q1 q2=>(g3 q q1 q2).app⟩
     .have hj:j=i:=by omega
      subst hj;refine ⟨by omega,by omega,λq q1 q2=>?_⟩;obtain⟨q,rfl⟩:∃n:Nat,q=(n:Int):=⟨q.toNat,by omega⟩
      refine ⟨by omega,by rw[be,h3.l];omega,?_⟩;rw[Jp (T:=ya) (by omega)];exact (h3.v _ (by omega)).1
  .rintro⟨a,p2,c2,l2,d2,f2,t2,s2⟩ ⟨e1,e2,e3,e4,e5,e6,e7,U,⟨fa,fb,f8,f9⟩,L⟩;dsimp only at e1 e2 e3 e4 e5 e6 e7 U f8 L;subst e1;have e2:=e2.symm;subst e2;subst e3;subst e4;subst e5;subst e6;subst e7;refine dc (aj ?_);have hb8:=VW p.2.length hc;refine ⟨⟨rfl,rfl,rfl,rfl,⟨p.2.length,hp.t0,hp.t,rfl⟩,by dsimp only;omega,?_⟩,rfl,L⟩;unfold SV0;have hTl:(vZ.take p.2.length).length=p.2.length:=by rw[bA];have q4:vZ.length=4:=rfl;omega
   dsimp only;rw[hTl,f8];simp
def Zh:Y ζ:=[[120],[121],[118],[113],[109],[110],[114],[99],[102]]
set_option maxHeartbeats 20000000 in
theorem aad (t:Y ζ) (ht:t.length<=4) (s:Y π):pt (C0,G1,Mt,Tl,t,s)=M (Zh++t,J):=by
 refine cD ?_;unfold pt aY bm bz cH dx lP bg bx iU bH bM aV cP aE cG;with_reducible repeat' first|exact aj rfl|refine WO ?_|refine WN ?_|refine WM ?_|refine WJ ?_|refine aen ?_|refine aT ?_|refine fO rfl ?_|refine fX rfl ?_|refine bf rfl ?_|refine WL ?_|refine Qy ?_|refine Qx ?_
 refine bd (by show 9+t.length<=1073741824;omega) (by decide) ?_;with_reducible repeat' first|exact aj rfl|refine WO ?_|refine WN ?_|refine WM ?_|refine WJ ?_|refine aen ?_|refine aT ?_|refine fO rfl ?_|refine fX rfl ?_|refine bf rfl ?_|refine WL ?_|refine Qy ?_|refine Qx ?_
theorem Tj:∀x∈Zh++vZ,Ok (fh x) λb=>b=J:=by
 intro x a;simp only[Zh,vZ,fI,j_,bk,cB,gj]at a;rcases a with rfl|rfl|rfl|rfl|rfl|rfl|rfl|rfl|rfl|rfl|rfl|rfl|rfl;all_goals with_reducible repeat' first|exact aj rfl|refine WO ?_|refine WN ?_|refine WM ?_|refine WJ ?_|refine Qx ?_|refine aen ?_|refine aT ?_|refine fO rfl ?_|refine fX rfl ?_|refine bf rfl ?_|refine WL ?_|refine Qy ?_|refine c7 (fh.eq_1 ..) ?_|refine c7 (jN.eq_1 ..) ?_|refine c7 (kG.eq_1 ..) ?_|refine c7 (lJ.eq_1 ..) ?_|refine c7 (px.eq_1 ..) ?_|refine c7 (rB.eq_1 ..) ?_
theorem GT.up:∀{d:Nat} {s:Sx},GT d s->GT (d+1) s
 |0,_,h=>h.elim
 |_+1,_,⟨a,b,c,e,f,g,i⟩=>⟨a,b,c,e,f,λx q=>GT.up (g x q),λx q=>GT.up (i x q)⟩
theorem aje {l:Y Sx} (h:∀s∈l,GT 3 s):nO 5 l=nO 3 l:=by
 unfold nO;rw[mq λx a=>(Pd (GT.up (h x a))).trans (Pd (h x a))]
theorem ak9:∀i:Nat,i<13->∀r:Nat,r<i->aJ (T:=.str) (Zh++vZ) (r:Int)≠aJ (T:=.str) (Zh++vZ) (i:Int):=by decide
theorem Qi (T:Int):∀l:Y π,l.foldl (TJ T) D=D
 |[]=>rfl
 |_::r=>Qi T r
theorem Wu {T:Int} {l:Y π} (h:Lj T l≠D) (i:Nat):Lj T (l.take i)≠D:=λhn=>h (by
 unfold Lj at hn ⊢;rw[<- BA i l,eD,hn,Qi])
theorem Z2 {T t n:Int} {z:π} (h:TJ T (M (t,n)) z≠D):TJ T (M (t,n)) z=M (z.1,z.2.1+1)/\(z.1=t/\z.2.1=n\/t<z.1/\z.1<T/\z.2.1=0):=by
 unfold TJ at h ⊢;dsimp only at h ⊢;by_cases h1:z.1=t/\z.2.1=n
 .rw[aC h1];exact⟨by rw[h1.1,h1.2],.inl h1⟩
 .rw[ax h1]at h ⊢;by_cases h2:t<z.1/\z.1<T/\z.2.1=0
  .rw[aC h2];exact⟨by rw[h2.2.2];rfl,.inr h2⟩
  .rw[ax h2]at h;exact (h rfl).elim
theorem BP {R:Type} {a b:Int} {t f:I R} {Q:R->Prop} (h:b<=a) (hf:Ok f Q):Ok (aG (fJ a b) t f) Q:=fX (fZ.2 h) hf
theorem Hu {w:WT} (hx:WX w):ig w=M J:=by
 obtain⟨w1,w2,w3,w4,a,q⟩:=w;obtain⟨hc,hl,hd,hf,⟨n,n1,n4,ht⟩,hs,hv⟩:=hx;dsimp only at hc hl hd hf ht hs;subst hc;subst hl;subst hd;subst hf;have hT:a.length=n:=by rw[ht,bA];have q4:vZ.length=4:=rfl;omega
 have hv:Lj a.length q≠D:=hv;refine cD ?_;unfold ig aY bm bz cH cY fo bg bx jI iU bH bM aV cP aE cG;refine aU (λx=>x=(af,C0,G1,Mt,Tl,a,q)) ?_ ?_
 .refine BP (show (5:Int)<=12 by decide) (BP (show (3:Int)<=4 by decide) (BP (show (1:Int)<=2 by decide) (BP (show (1:Int)<=2 by decide) (BP (show (1:Int)<=(a.length:Int) by omega) (BP (show (a.length:Int)<=4 by omega) (aj ?_))))));dsimp only[ak];rw[fZ.2 (show (q.length:Int)<=60 by omega)]
 rintro x rfl;refine dh (aS (aad a (by omega) q) (fX rfl ?_));have hN:Zh++a=(Zh++vZ).take (9+n):=by rw[ht];rcases (by omega:n=1\/n=2\/n=3\/n=4) with rfl|rfl|rfl|rfl<;>rfl
 have hNl:(Zh++a).length=9+n:=by rw[be,hT];rfl
 have hNg:∀i:Nat,i<9+n->aJ (T:=.str) (Zh++a) (i:Int)=aJ (T:=.str) (Zh++vZ) (i:Int):=λi hi=>by
  rw[hN,yJ,yJ,au,au,List.getElem?_take_of_lt hi]
 refine ch (9+n) (λi x=>x=((i:Int),C0,G1,Mt,Tl,a,q)) ?_ ?_ rfl
 .rintro i x hi rfl;refine bK (λ_=>?_) λg=>(by dsimp only[ak]at g;rw[hNl]at g;omega)
  refine aU (λx=>x=(af,C0,G1,Mt,Tl,a,q)) ?_ ?_
  .refine aR (by dsimp only;omega) (by dsimp only;rw[hNl];omega) (aT ?_);have hmem:aJ (T:=.str) (Zh++a) (i:Int)∈Zh++vZ:=by rw[hNg i hi];exact bN (T:=.str) (by omega) (by have:(Zh++vZ).length=13:=rfl;omega)
   refine aw (Tj _ hmem) λb hb=>?_
   refine fX (by rw[hb];rfl) (cX (dA (by dsimp only;omega) (dA (by dsimp only;rw[hNl];omega) ?_)));refine aR (by dsimp only;omega) (by dsimp only;rw[hNl];omega) (aT ?_);refine aw (yF _ _ (by dsimp only;rw[bA,hNl];omega)) λr hr=>aj ?_
   obtain⟨_,h2,U,_⟩:=hr;dsimp only at h2 U;rw[bA,hNl]at h2;have hr0:¬0<=r:=λh0=>by
    have U:=U h0;obtain⟨r,rfl⟩:∃m:Nat,r=(m:Int):=⟨r.toNat,by omega⟩
    rw[yJ,au,List.getElem?_take_of_lt (by omega),<-au,<-yJ (T:=.str),hNg r (by omega),hNg i hi]at U;exact ak9 i (by omega) r (by omega) U
   rw[mj.2 (by omega)]
  .rintro x rfl;exact dh (aj (by dsimp only;rw[gD (by omega)]))
 rintro x rfl;refine bK (λg=>(by dsimp only[ak]at g;rw[hNl]at g;omega)) λ_=>?_
 refine aw (P:=λb=>b=J) ?_ λy hy=>aj hy
 refine ch 1 (λi x=>x=((i:Int),C0,G1,Mt,Tl,a,q)) ?_ ?_ rfl
 .rintro i x hi rfl;have hi0:i=0:=by omega
  subst hi0;refine fO rfl (bf rfl (aT (aU (λx=>x=(af,C0,G1,Mt,Tl,a,q)) ?_ ?_)))
  .exact fX rfl (fX rfl (bf rfl (aT (aj rfl))))
  .rintro x rfl;exact dh (aj (by dsimp only;rw[gD (by omega)]))
 rintro x rfl;refine bK (λg=>(by have g:(1:Int)<1:=g;omega)) λ_=>?_
 refine aw (P:=λb=>b=J) ?_ λy hy=>aj hy
 refine ch q.length (λi x=>x=((i:Int),C0,G1,Mt,Tl,a,q)/\∃t k:Int,Lj a.length (q.take i)=M (t,k)/\0<=t/\t<(a.length:Int)/\(i=0->t=0/\k=0)/\(¬i=0->(aJ (T:=ya) q ((i-1:Nat):Int)).1=t/\(aJ (T:=ya) q ((i-1:Nat):Int)).2.1+1=k/\0<k/\k<=i)) ?_ ?_ ⟨rfl,0,0,rfl,by omega,by omega,λ_=>⟨rfl,rfl⟩,λh=>(h rfl).elim⟩
 .rintro i x hi ⟨rfl,t,k,hF,t0,tT,hz,hp⟩;have hw:¬(i:Int)=0->bl .i64 ((i:Int)-1)=((i-1:Nat):Int):=λh=>by rw[iI (by omega) (by omega)];omega
  have hnx:=Io (T:=a.length) hi;have hne:=Wu hv (i+1);rw[hnx,hF]at hne;obtain⟨hs1,s⟩:=Z2 hne;rw[hF,hs1]at hnx;refine dg ?_;refine aU (λx=>x=(C0,G1,Mt,Tl,a,q)) ?_ ?_
  .refine cE (aT ?_);revert s;generalize (aJ (T:=ya) q (i:Int))=z;obtain⟨(A:Int),(Z:Int),z3⟩:=z;intro s;dsimp only at s;refine aU (λx=>x=(af,(C0,G1,Mt,Tl,a,q),A,Z,z3)) ?_ ?_
   .refine BP (show (0:Int)<=A by omega) (aj ?_);dsimp only[ak];rw[mj.2 (show A<(a.length:Int) by omega)]
   rintro x rfl;refine dh (aU (λx=>x.2=((C0,G1,Mt,Tl,a,q),A,Z,z3)/\(x.1=J->i=0\/¬t=A)/\(x.1=af->¬i=0/\t=A)) ?_ ?_)
   .refine aK (λh=>aj ⟨rfl,λ_=>.inl (by have h:((i:Nat):Int)=0:=h;omega),λh=>(by cases h)⟩) λh=>?_
    have h:¬((i:Nat):Int)=0:=h;dsimp only;rw[hw h];have hq:=(hp (by omega)).1;exact aR (by omega) (by first|omega|(dsimp only;omega)) (aT (aj ⟨rfl,λh2=>.inr (by rw[<- hq];simpa using h2),λh2=>⟨by omega,by rw[<- hq];simpa using h2⟩⟩))
   rintro⟨c,x⟩ ⟨e,L,hc⟩;dsimp only at e L hc;subst e;refine aP (λhct=>?_) λhcf=>?_
   .have hz2:Z=0:=by
     rcases L hct with h|h
     .have:=hz h;omega
     .omega
    refine aU (λx=>x=(af,C0,G1,Mt,Tl,a,q)) ?_ ?_
    .refine cg (λh=>(h hz2).elim) λ_=>bK (λh=>?_) λ_=>aj rfl
     have h:(0:Int)<((i:Nat):Int):=h;dsimp only;rw[hw (by omega)];have hq:=(hp (by omega)).1;refine aR (by omega) (by first|omega|(dsimp only;omega)) (aT (aj ?_));dsimp only;rw[hq,fZ.2 (show t<=A by omega)]
    rintro x rfl;exact dh (aj rfl)
   .obtain⟨h1,h2⟩:=hc hcf;obtain⟨_,p2,p3,p4⟩:=hp h1;dsimp only;rw[hw (by omega)];refine aR (by omega) (by first|omega|(dsimp only;omega)) (aT ?_);refine cg (λh=>(h ?_).elim) λ_=>aj rfl
    try dsimp only
    rw[p2,iI (by omega) (by omega)];omega
  .rintro x rfl;refine aj ⟨by dsimp only;rw[gD (by omega)],_,_,hnx,?_⟩;revert s;rw[show i+1-1=i by omega];generalize (aJ (T:=ya) q (i:Int))=z;obtain⟨(A:Int),(Z:Int),z3⟩:=z;intro s;dsimp only at s ⊢;refine ⟨by omega,by omega,λh=>by omega,λ_=>⟨rfl,rfl,?_,?_⟩⟩
   .by_cases h0:i=0
    .have:=hz h0;omega
    .have:=hp h0;omega
   .by_cases h0:i=0
    .have:=hz h0;omega
    .have:=hp h0;omega
 .rintro x ⟨rfl,_⟩;exact dc (aj rfl)
theorem V8 {c:CT} (a:WX c.1) (hl:c.2.length=c.1.2.2.2.2.1.length) (h:∀k:Nat,k<c.2.length->GC c.2.length c.1.2.2.2.2.2 (k:Int) (aJ (T:=vY) c.2 (k:Int))):jL c=M J:=by
 obtain⟨w,l⟩:=c;dsimp only at a hl h;have s:l.length<=4:=by
  obtain⟨n,_,q,ht⟩:=a.t;rw[hl,ht,bA];omega
 refine cD ?_;unfold jL bz bx bM aV cP aE cG;refine aU (λx=>x=(af,w,l)) ?_ ?_
 .refine aS (Hu a) (fX rfl (aj ?_));dsimp only;rw[hl];simp
 rintro x rfl;refine dh (ch l.length (λi x=>x=((i:Int),w,l)) ?_ ?_ rfl)
 .rintro i x hi rfl;refine dg ?_;refine cE (aT (aS (Ei a hl.symm (h i hi)) (fX rfl (aj ?_))));dsimp only;rw[gD (by omega)]
 .rintro x rfl;exact dc (aj rfl)
theorem PF (p:PG) (hp:PJ p) (hr4:∃r,fw p=M r/\r.1=0):Ok (qy p) λy=>CB y.1:=by
 have hpt:=hp.t;obtain⟨r,hr,h0⟩:=hr4;obtain⟨r',hr',h60⟩:=D_ p hp.x;rw[hr]at hr';cases hr';have h60:=h60 h0;unfold qy aY bm bz cH eC bL cY fo qf bx iU bH bM lG aV cP aE cG;refine aS hr (cg (λh=>(h h0).elim) λ_=>?_);refine aw (V6 p hp r hr h0 h60) λw U=>?_
 have hwT:w.2.2.2.2.1.length=p.2.length:=by rw[U.t,bA];have q4:vZ.length=4:=rfl;omega
 refine ch p.2.length (λi x=>x.1.1=((bsN p i:Nat):Int)/\x.1.2=(i:Int)/\x.2.1=p/\x.2.2.1=w/\x.2.2.2.length=i/\∀j:Nat,j<i->GC p.2.length w.2.2.2.2.2 (j:Int) (aJ (T:=vY) x.2.2.2 (j:Int))) ?_ ?_ ⟨rfl,rfl,rfl,rfl,rfl,λj hj=>by omega⟩
 .rintro i ⟨⟨a,b⟩,p2,w2,cs⟩ hi ⟨e0,e1,e2,e3,e4,e5⟩;dsimp only at e0 e1 e2 e3 e4 e5;subst e0;subst e1;have e2:=e2.symm;subst e2;have e3:=e3.symm;subst e3;have hin:((i:Nat):Int)<(p.2.length:Int):=by omega
  refine dg ?_;have hm:=hp.m _ (bN (T:=yT) (xs:=p.2) (j:=(i:Int)) (by omega) hin);have hsr:=U.s i hi;have hbs:=ahz hi;have hb1:=VW (i+1) h60;have hbo:boN p i=nO 3 (aJ (T:=yT) p.2 (i:Int)).2.2.2:=aje λs hs=>(hm.s s hs).t
  rw[hbo]at hsr hbs;dsimp only;refine aR (by omega) hin (aT (aR (by omega) hin (aT ?_)));revert hm hsr hbs;generalize (aJ (T:=yT) p.2 (i:Int))=t;intro hm hsr hbs;have hk:ME 3=50+16*(50+16*50):=rfl;have hle:=cL (ME 3) hm.b;rw[hk]at hle;have hll:t.2.2.1.length=2:=by rw[hm.l];rfl
  refine aw (ON (nT:=p.2.length) (ss:=w.2.2.2.2.2) (t:=(i:Int)) 3 (by omega) _ _ [] (by have:=hm.b;omega) hm.s ⟨U.x.c,U.x.l,U.x.d,U.x.f,U.t,hm.l⟩ hsr (by rw[hk,gw];omega)) λy hy=>bf (by simp) ?_
  obtain⟨g2,o2⟩:=y;obtain⟨q1,q2,q3⟩:=hy;dsimp only at q1 q2 q3;have q4:=q2.u;rw[hk,gw]at q4;refine aw (It _ _ o2 (by omega)) λy hy=>bf (by simp) ?_
  obtain⟨g3,A⟩:=y;obtain⟨hg3,Z⟩:=hy;dsimp only at hg3 Z;have hL:aN (ai g3.2.2.2.2.2.2.1)=2:=by
   rw[hg3];show aN (ai g2.2.2.2.2.2.2.1)=2;rw[q1.h];show aN (ai t.2.2.1)=2;rw[hll];rfl
  have l3:A.length=o2.length+1:=by rw[Z,be];rfl
  have L:A.length-1=o2.length:=by omega
  have iq:∀q:Nat,q<o2.length->iA A q=iA o2 q:=λq hq=>by rw[Z,I3 hq]
  have iend:iA A o2.length=(28,0,0,0,0,-1):=by rw[Z,xx]
  have hreg:∀q:Nat,q<A.length->∀j:Int,j∈iV (iA A q)->0<=j/\j<32:=λq hq j hj=>by
   by_cases h:q<o2.length
   .rw[iq q h]at hj;exact (q2.i q (hX _) h).o.r j hj
   .rw[show q=o2.length by omega,iend]at hj;simp[iV]at hj
  dsimp only;rw[hL];refine ch A.length (λk x=>∃rg:Int,x=((k:Int),p,w,g3,rg,cs,A)/\2<=rg/\rg<=32/\∀q:Nat,q<k->∀j:Int,j∈iV (iA A q)->j<rg) ?_ ?_ ⟨2,rfl,by omega,by omega,λq hq=>by omega⟩
  .rintro k x hk2 ⟨rg,rfl,r0,r1,r2⟩;refine dg ?_;dsimp only;refine cE (cE (aT (aS (tQ _) ?_)));have hrk:=hreg k hk2;have hrl:=CK (iA A k);revert hrk hrl;generalize hins:(aJ (T:=BE) A (k:Int))=ins;rw[show iA A k=ins from hins];intro hrk hrl;refine ch (iV ins).length (λj x=>∃rg':Int,x=((j:Int),p,w,g3,rg',cs,A)/\rg<=rg'/\rg'<=32/\∀q:Nat,q<j->rg'>aJ (T:=.int .i64) (iV ins) (q:Int)) ?_ ?_ ⟨rg,rfl,du _,r1,λq hq=>by omega⟩
   .rintro j x hj ⟨rg',rfl,s0,s1,s2⟩;refine dg ?_;refine cE (aT (aj ?_));have hz:=hrk _ (bN (T:=.int .i64) (xs:=iV ins) (j:=(j:Int)) (by omega) (by omega));dsimp only;obtain⟨z,hzj⟩:∃z:Int,aJ (T:=.int .i64) (iV ins) (j:Int)=z:=⟨_,rfl⟩
    rw[hzj]at hz ⊢;have hz0:(0:Int)<=z:=hz.1;have hz1:(32:Int)>z:=hz.2;rw[gD (by omega),iI (n:=z+1) (by omega) (by omega)];have him:rg'<=gO rg' (z+1)/\z+1<=gO rg' (z+1)/\gO rg' (z+1)<=32:=by
     unfold gO;split
     .rename_i h;have h:=r_.1 h;omega
     .rename_i h;have h:=fZ.1 (Ai.2 h);omega
    refine ⟨_,rfl,by omega,him.2.2,λq hq=>?_⟩;rcases ca q j with h1|h1
    .have:=s2 q h1;omega
    .rw[show q=j by omega,hzj];exact Int.lt_of_lt_of_le (show z<z+1 by omega) him.2.1
   .rintro x ⟨rg',rfl,s0,s1,s2⟩;refine dc (aj ?_);refine ⟨rg',by dsimp only;rw[gD (by omega)],by omega,s1,λq hq j hj=>?_⟩;rcases ca q k with h1|h1
    .have:=r2 q h1 j hj;omega
    .rw[show q=k by omega,show iA A k=ins from hins]at hj;exact iD (T:=.int .i64) (p:=λc=>rg'>c) s2 j hj
  .rintro x ⟨rg,rfl,r0,r1,r2⟩;refine dc (Qy (bd (by simp;omega) (by omega) (Qx (aj ?_))));dsimp only;have q3':(g2.2.2.2.2.2.2.2.2:Int)=(bsN p i:Nat)+(nO 3 t.2.2.2:Nat):=q3;refine ⟨by rw[q3',hbs];omega,gD (by omega),rfl,rfl,by simp;omega,λj hj=>?_⟩;rcases ca j i with h1|h1
   .rw[Jq (T:=vY) (by rw[e4];exact h1)];exact e5 j h1
   .rw[show j=i by omega,Jp (T:=vY) (by rw[e4];omega),e4,Nat.sub_self];refine ⟨show (1:Int)<=rg by omega,r1,show 1<=A.length by omega,show A.length<=1000000 by omega,?_,?_,?_,?_,?_⟩
    .show (iA A (A.length-1)).1=28/\(iA A (A.length-1)).2.2.2.2.2= -1;rw[L,iend];exact⟨rfl,rfl⟩
    .show qT A 0 (A.length-1);rw[L];exact q2.b.congr λq _ hq=>iq q hq
    .show ∀q:Nat,q<A.length-1->GI p.2.length w.2.2.2.2.2 (i:Int) (iA A q);rw[L];exact λq hq=>by rw[iq q hq];exact q2.i q (hX _) hq
    .show ∀q:Nat,q<A.length-1->(iA A q).1=10->0<=(iA A q).2.2.1/\(iA A q).2.2.1<(A.length:Int)
     rw[L];intro q hq h10;rw[iq q hq]at h10 ⊢;have:=q2.r q (hX _) hq h10;omega
    .exact λq hq j hj=>r2 q (show q<A.length by have hq:q<A.length-1:=hq;omega) j hj
 .rintro⟨⟨a,b⟩,p2,w2,cs⟩ ⟨e0,e1,e2,e3,e4,e5⟩;dsimp only at e0 e1 e2 e3 e4 e5;subst e1;subst e2;subst e3;refine dc (aj ?_);have hgc:∀t∈cs,∃k:Nat,GC p2.2.length w2.2.2.2.2.2 (k:Int) t:=iD (T:=vY) λk hk=>⟨k,e5 k (by omega)⟩
  refine ⟨by dsimp only;omega,λt ht=>?_,λt ht=>?_,U.x,V8 U.x ?_ ?_⟩
  .obtain⟨k,hk⟩:=hgc t ht;exact hk.u
  .obtain⟨k,hk⟩:=hgc t ht;exact hk.r0
  .dsimp only;rw[e4,hwT]
  .dsimp only;rw[e4];exact e5
theorem Ly (a b:η) (A:a.length<=9223372036854775807) (s:∀z∈a,0<=z/\z<=255) (hb:b.length<=1000000):Ok (sD (a,b)) TR:=by
 unfold sD;refine aw (P:=CB) ?_ λc hc=>aw (Wk b hb) λl hl=>?_
 .unfold xw;exact aw (G7 a A s) λp hp=>aw (PF p hp.1 hp.2) λy q=>aj q
 .exact aw (ak8 c l hc (by omega)) λy q=>aj q
theorem PD (a b c:η) (n:Int) (n0:0<=n) (n1:n<=1000000) (A:a.length<=9223372036854775807) (s:∀z∈a,0<=z/\z<=255) (hc:c.length<=9223372036854775807) (q:∀z∈c,0<=z/\z<=255):Ok (lh ((a,b,c),n)) TR:=by
 unfold lh bx bH aV;refine bK (λ_=>aw (Ip c n hc q) λy h=>aj h) λ_=>?_
 have h0:0<=G' (aN b.length) n/\G' (aN b.length) n<=(b.length:Int)/\G' (aN b.length) n<=n:=by
  unfold G';split
  .rename_i h;rw[r_]at h;dsimp only[ak]at h;exact⟨n0,by omega,du _⟩
  .rename_i h;have h:=fZ.1 (Ai.2 h);dsimp only[ak]at h ⊢;exact⟨by omega,du _,h⟩
 refine cX (dA h0.1 (dA h0.2.1 ?_));have h1:(dJ (aQ (G' (aN b.length) n)) b).length<=1000000:=by rw[bA];have:=h0.1;have:=h0.2.2;omega
 exact aw (Ly a _ A s h1) λy h=>aj h
def HS.zero (w:xc):HS:=⟨aB w.2.2.2.2.1.length [],aB w.2.2.2.2.1.length [],aB w.2.1.length [],aB w.2.1.length [],aB w.1.length [],aB w.2.2.2.1.length [],[],aB w.2.2.2.2.1.length [],aB w.2.2.2.2.1.length (-1)⟩
theorem HS.zero_ok {w:xc} (h1:w.1.length<=1000) (h2:w.2.1.length<=1000) (c:w.2.2.2.1.length<=1000) (a:w.2.2.2.2.1.length<=1000):TK 0 (HS.zero w):=by
 have z:(0:Int)<=0:=by omega
 exact⟨z,by omega,By.repl z _,By.repl z _,By.repl z _,By.repl z _,By.repl z _,By.repl z _,En.nil z,By.repl z _,by simpa[HS.zero] using a,by simp[HS.zero],by simp[HS.zero],by simp[HS.zero],by simpa[HS.zero] using h2,by simp[HS.zero],by simpa[HS.zero] using h1,by simpa[HS.zero] using c⟩
structure Fit (w:xc) (h:HS):Prop where
 T:h.T.length=w.2.2.2.2.1.length
 L:h.L.length=w.2.1.length
 C:h.C.length=w.1.length
 F:h.F.length=w.2.2.2.1.length
theorem Fit.zero (w:xc):Fit w (HS.zero w):=⟨by simp[HS.zero],by simp[HS.zero],by simp[HS.zero],by simp[HS.zero]⟩
theorem Fit.ent {w:xc} {h:HS} (f:Fit w h) (e:EV) (x:η):Fit w (jW w h e x):=by
 obtain⟨a,b,c,d,g,i,j,k⟩:=F7 w h e x;exact⟨a.trans f.T,c.trans f.L,g.trans f.C,i.trans f.F⟩
theorem Fit.step {w:xc} {h:HS} (f:Fit w h) (e:EV):Fit w (Qa w h e).1:=f.ent e _
def evP (e:ET):EV:=⟨e.1.toNat,e.2.1.toNat,e.2.2.1.toNat,e.2.2.2.1⟩
theorem ams {w:WT} {e:ET} (f:EvF w e):EvT (evP e) e:=by
 obtain⟨⟨k1,k2,ce,lk,cd,th,fu⟩,t0,_,_⟩:=f;refine ⟨(fA t0).symm,(fA (by omega)).symm,λh=>(fA ?_).symm,rfl⟩;unfold evP at h;simp only[bk,cB,gj]at h;by_cases h1:e.2.1=3\/e.2.1=4
 .exact (ce h1).1
 by_cases h2:6<=e.2.1/\e.2.1<=11
 .exact (lk h2).1
 by_cases q:16<=e.2.1/\e.2.1<=19
 .exact (cd q).1
 by_cases c:e.2.1=20\/e.2.1=21
 .exact (th c).1
 by_cases a:e.2.1=22\/e.2.1=23
 .exact (fu a).1
 omega
theorem abn {w:WT} {e:ET} (f:EvF w e) (wb:WB w) {h:HS} (a:Fit w h):EOK w h (evP e):=by
 obtain⟨⟨k1,k2,ce,lk,cd,th,fu⟩,t0,t1,c⟩:=f;have Z:=wb.t;have U:=a.T;have A:=a.L;have z:=a.C;have s:=a.F;unfold evP;refine ⟨by dsimp only;omega,by dsimp only;omega,by dsimp only;omega,by dsimp only;omega,λq=>?_,λq=>?_,λq=>?_,λq=>?_,λq=>?_⟩<;>dsimp only at q ⊢
 .have:=th (by omega);omega
 .have:=lk (by omega);omega
 .have g:=cd (by omega);have hl:e.2.2.1.toNat<w.2.2.1.length:=by omega
  have hm:=c (w.2.2.1.getD e.2.2.1.toNat ([],0)) (by rw[au,ay hl];exact uY hl);refine ⟨hl,hm.1,?_⟩;unfold WS;have:=hm.2;have:=hm.1;omega
 .have:=ce (by omega);omega
 .have:=fu (by omega);omega
theorem io {σ R:Type} {f:σ->I (σ⊕R)} {Q:R->Prop} (n:Nat) (hn:n<=1000000) (z:Nat->σ->Prop) (h0:∀i x,i<n->z i x->Ok (f x) λr=>match r with|.inl y=>z (i+1) y|.inr r=>Q r) (h1:∀x,z n x->Ok (f x) λr=>match r with|.inl _=>False|.inr r=>Q r) {x:σ} (q:z 0 x):Ok (gq f x) Q:=by
 have key:∀m i x,i+m=n->z i x->∃r,iterN f (m+1) x=M r/\Q r:=by
  intro m;induction m with
  |zero=>
   intro i x hi q;have:i=n:=by omega
   subst this;obtain⟨r,c,a⟩:=h1 x q;cases r with
   |inl y=>exact a.elim
   |inr r=>exact⟨r,by rw[iterN,c],a⟩
  |succ m s=>
   intro i x hi q;obtain⟨r,c,a⟩:=h0 i x (by omega) q;cases r with
   |inl y=>
    obtain⟨r,L,A⟩:=s (i+1) y (by omega) a;exact⟨r,by rw[iterN,c];exact L,A⟩
   |inr r=>exact⟨r,zn (n:=1) (by rw[iterN,c]) (by omega),a⟩
 obtain⟨r,c,a⟩:=key n 0 x (by omega) q;exact⟨r,zn c (by omega),a⟩
theorem NR (a b:Int):e_ (a,b)=M (decide (0<=a/\a<b)):=by
 refine cD ?_;unfold e_ jI aE;with_reducible repeat' first|(refine OS.ok ?_;constructor)|refine IM.mk λ_=>?_
 .by_cases h:a<b<;>simp[*,fJ]
 .simp;omega
theorem Tx (l:η) (t:Int) (hl:l.length<=1000):kJ (l,t)=M (l.contains t):=by
 refine cD ?_;unfold kJ rG xI bg bx bM aV cP aE cG;refine aw (P:=λy:Int=>0<=y↔t∈l) ?_ λy a=>aj ?_
 .refine io l.length (by omega) (λi x=>x=(i:Int)/\∀j,j<i->¬l.getD j 0=t) ?_ ?_ ⟨rfl,λj hj=>by omega⟩
  .rintro i x hi ⟨rfl,hn⟩;refine dg ?_;refine cE (aT (aK (λh=>aj ?_) λh=>aj ?_))
   .refine ⟨λ_=>?_,λ_=>by omega⟩;have h:t=aJ (T:=.int .i64) l (i:Int):=h;rw[h];exact bN (T:=.int .i64) (xs:=l) (by omega) (by omega)
   .refine ⟨gD (by omega),λj hj=>?_⟩;have h:¬t=l.getD i 0:=h;by_cases e:j=i
    .subst e;exact λg=>h g.symm
    .exact hn j (by omega)
  .rintro x ⟨rfl,hn⟩;refine dc (aj ?_);refine ⟨λg=>(by omega),λg=>?_⟩;obtain⟨j,hj,e⟩:=List.getElem_of_mem g;exact (hn j hj (by rw[au,ay hj];exact e)).elim
 .by_cases h:t∈l
  .have:=a.2 h;simp[cZ,h,this]
  .have:¬0<=y:=λg=>h (a.1 g)
   simp[cZ,h,this]
theorem aik (w:WT) (s:SY) (a:w.2.2.1.length<=1000) (cd:∀c∈w.2.2.1,0<=c.2/\c.2<w.2.1.length) (e1:s.1.length=w.2.1.length) (e2:s.2.2.1.length=w.2.2.2.1.length) (e3:s.2.2.2.length=w.2.2.2.2.1.length):kw (w,s)=M J:=by
 refine cD ?_;unfold kw tM aY bm bz dx bx iU bM aV cP aE cG;refine aU (λx=>x=(af,w)) ?_ ?_
 .refine cg (λh=>(h (by dsimp only[ak];omega)).elim) λ_=>cg (λh=>(h (by dsimp only[ak];omega)).elim) λ_=>aj ?_
  dsimp only[ak];rw[e3];simp
 rintro x rfl;refine dh (io w.2.2.1.length (by omega) (λi x=>x=((i:Int),w)) ?_ ?_ rfl)
 .rintro i x hi rfl;refine dg ?_;refine cE (aT (aS (NR _ _) (cg (λh=>(h ?_).elim) λ_=>aj ?_)))
  .exact cd _ (bN (T:=TE) (xs:=w.2.2.1) (j:=(i:Int)) (by omega) (by omega))
  .dsimp only;rw[gD (by omega)]
 .rintro x rfl;exact dc (aj rfl)
theorem acf (w:WT) (k o:Int) (h:NM w k o):mh (w,k,o)=M J:=by
 refine cD ?_;obtain⟨k1,k2,ce,lk,cn,th,fu,no,mu,rw_⟩:=h;unfold mh aY bm bz cH bg bM aV aE;rcases @IZ k with rfl|rfl|rfl|rfl|rfl|rfl|rfl|rfl|rfl|rfl|rfl|rfl|rfl|rfl|rfl|rfl|rfl|rfl|rfl|rfl|rfl|rfl|rfl|⟨hk,a⟩
 case inr.inr.inr.inr.inr.inr.inr.inr.inr.inr.inr.inr.inr.inr.inr.inr.inr.inr.inr.inr.inr.inr.inr=>omega
 all_goals simp only[aZ,bn,tf,NR]
 all_goals with_reducible repeat' first|(refine OS.ok ?_;constructor)|refine IM.mk λ_=>?_
 all_goals try simp only[ak,qX] at*
 all_goals first|omega|exact rw_ ⟨by decide,by decide⟩|(simp only[*,Bool.not_false,dV];done)
theorem aiv {n:Nat} (w:WT) (s:SY) (hs:SB n s) (hn:n<=1000) (t k o:Int) (he:EN w s t k o) (hr:We w s t k o):oN (w,s,t,k,o)=M J:=by
 refine cD ?_;obtain⟨nm,t0,t1,cd,e1,e2,e3⟩:=id he;obtain⟨_,_,ce,lk,cn,th,fu,no,mu,rw_⟩:=nm;obtain⟨_,_,_,aq,wr,ra,rl,rr,xb,xe,ab,ae,nt,sp,jo,se,ge⟩:=hr;have hm:16<=k/\k<=19->0<=(aJ (T:=TE) w.2.2.1 o).2/\(aJ (T:=TE) w.2.2.1 o).2<w.2.1.length:=λh=>cd _ (bN (cn h).1 (cn h).2)
 have z:6<=k/\k<=11->kJ ((aJ (T:=Az) s.1 o).2,t)=M ((aJ (T:=Az) s.1 o).2.contains t):=λh=>Tx _ _ (by
  have:=hs.rd _ (bN (T:=Az) (lk h).1 (by have:=(lk h).2;omega));omega)
 have lk1:6<=k/\k<=11->0<=o/\o<(s.1.length:Int):=λh=>by have:=lk h;omega
 have q:t<(s.2.2.2.length:Int):=by omega
 have fu1:k=22\/k=23->0<=o/\o<(s.2.2.1.length:Int):=λh=>by have:=fu h;omega
 have th1:k=20\/k=21->0<=o/\o<(s.2.2.2.length:Int):=λh=>by have:=th h;omega
 have a:∀{p:Prop} [Decidable p],p->decide p=J:=λh=>aO h
 unfold oN aY bm bz dx cY bg iU bM aV aE;refine aK (λh=>?_) λZ=>?_
 .have h:k=6:=h;exact aR (lk1 (by omega)).1 (lk1 (by omega)).2 (aT (aj (a (aq (.inl h)))))
 refine aK (λh=>?_) λA=>?_
 .have h:k=10:=h;refine gF (aR (lk1 (by omega)).1 (lk1 (by omega)).2 (aT (aK (λ_=>?_) λg=>(g (aq (.inr (.inr h)))).elim)));refine aR (lk1 (by omega)).1 (lk1 (by omega)).2 (aT (aj (aj (a ?_))));have:=wr h;dsimp only[ak]at this ⊢;omega
 refine aK (λh=>?_) λU=>?_
 .have h:k=8:=h;refine gF (aR (lk1 (by omega)).1 (lk1 (by omega)).2 (aT (aK (λ_=>?_) λg=>(g (aq (.inr (.inl h)))).elim)));refine aR (lk1 (by omega)).1 (lk1 (by omega)).2 (aT (aS (z (by omega)) (aj (aj ?_))));rw[ra h];rfl
 refine aU (λx=>x.2=(w,s)/\(x.1=J↔k=7\/k=11)) (aK (λh=>aj ⟨rfl,λ_=>.inl h,λ_=>a h⟩) λh=>aj ⟨rfl,λh2=>.inr (a8 h2),λh2=>a (h2.resolve_left h)⟩) ?_;rintro⟨b,x⟩ ⟨e,hb⟩;dsimp only at e hb;subst e;refine aP (λh=>?_) λ_=>?_
 .have h:=hb.1 h;exact aR (lk1 (by omega)).1 (lk1 (by omega)).2 (aT (aj (a (rl h))))
 refine aK (λh=>?_) λL=>?_
 .have h:k=9:=h;refine aR (lk1 (by omega)).1 (lk1 (by omega)).2 (aT (aS (z (by omega)) (aj (rr h))))
 refine aK (λh=>aj (a (xb h))) λ_=>aK (λh=>aj (a (xe h))) λ_=>?_
 refine aK (λh=>aR t0 q (aT (aj (by have:=ab h;dsimp only at this ⊢;rw[this];rfl)))) λ_=>aK (λh=>aR t0 q (aT (aj (ae h)))) λ_=>?_
 refine aU (λx=>x.2=(w,s)/\(x.1=J->k=16\/k=18\/k=19)) (aK (λh=>aj ⟨rfl,λ_=>.inl h⟩) λ_=>aK (λh=>aj ⟨rfl,λ_=>.inr (.inl h)⟩) λ_=>aj ⟨rfl,λh=>.inr (.inr (a8 h))⟩) ?_;rintro⟨c,x⟩ ⟨e,hc⟩;dsimp only at e hc;subst e;refine aP (λh=>?_) λ_=>?_
 .have h:=hc h;have hq:=hm (by omega);exact aR (cn (by omega)).1 (cn (by omega)).2 (aT (aR hq.1 (by rw[e1];exact hq.2) (aT (aj (a (nt h))))))
 refine aK (λh=>?_) λ_=>?_
 .have h:k=20:=h;exact gF (cg (λ_=>aR (th1 (.inl h)).1 (th1 (.inl h)).2 (aT (aj (aj (a (sp h).2))))) λg=>((sp h).1 g).elim)
 refine aK (λh=>?_) λ_=>?_
 .have h:k=21:=h;exact gF (cg (λ_=>aR (th1 (.inr h)).1 (th1 (.inr h)).2 (aT (aj (aj (a (jo h).2))))) λg=>((jo h).1 g).elim)
 refine aK (λh=>aR (fu1 (.inl h)).1 (fu1 (.inl h)).2 (aT (aj (by have:=se h;dsimp only at this ⊢;rw[this];rfl)))) λ_=>aK (λh=>aR (fu1 (.inr h)).1 (fu1 (.inr h)).2 (aT (aj (ge h)))) λ_=>aj rfl
theorem Eb {n:Nat} (w:WT) (s:SY) (hs:SB n s) (hn:n<=1000) (z:w.2.2.1.length<=1000) (t k o:Int) (he:EN w s t k o) (hr:We w s t k o):jm (w,s,t,k,o)=M J:=by
 refine cD ?_;obtain⟨nm,t0,t1,cd,e1,e2,e3⟩:=id he;have hrd:=aiv w s hs hn t k o he hr;have q:t<(s.2.2.2.length:Int):=by omega
 unfold jm aY bm bz bL dx cY bg bM aV aE;refine aU (λx=>x=(af,w,s)) ?_ ?_
 .refine aS (aik w s z cd e1 e2 e3) (fX rfl (aS (NR _ _) ?_));refine cg (λh=>(h ⟨t0,t1⟩).elim) λ_=>aS (acf w k o nm) (aj rfl)
 rintro x rfl;refine dh (aR t0 q (aT ?_));refine aK (λh=>aj (aO (hr.b h))) λn1=>?_
 refine aK (λh=>?_) λn17=>?_
 .have h:k=17:=h;obtain⟨a1,a2,a3⟩:=hr.wk h;obtain⟨c,a⟩:=nm.cd (by omega);have hq:=cd _ (bN (T:=TE) (xs:=w.2.2.1) (j:=o) c a);refine gF (aK (λ_=>aK (λ_=>?_) λg=>(g a2).elim) λg=>(g a1).elim);exact aR c a (aT (aR hq.1 (by rw[e1];exact hq.2) (aT (aj (aj (aO a3))))))
 refine gF (aK (λ_=>aS hrd (aj (aj rfl))) λg=>(g (hr.r n1 n17)).elim)
theorem ael (w:WT) (e:ET) (h1:e.2.1=1\/e.2.1=2->e.2.2.2.2.1= -1) (h2:¬(e.2.1=1\/e.2.1=2)->0<=e.2.2.2.2.1/\e.2.2.2.2.1<w.2.2.2.2.2.length/\(aJ (T:=ya) w.2.2.2.2.2 e.2.2.2.2.1).1=e.1):jJ (w,e)=M J:=by
 refine cD ?_;unfold jJ aY eC cY bg bx jI bM aV aE;refine aU (λx=>x.2=(w,e)/\(x.1=J↔e.2.1=1\/e.2.1=2)) (aK (λh=>aj ⟨rfl,λ_=>.inl h,λ_=>rfl⟩) λh=>aj ⟨rfl,λh2=>.inr (a8 h2),λh2=>aO (h2.resolve_left h)⟩) ?_;rintro⟨b,x⟩ ⟨e1,hb⟩;dsimp only at e1 hb;subst e1;refine aP (λh=>aj (aO (h1 (hb.1 h)))) λh=>?_
 obtain⟨a1,a2,a3⟩:=h2 λg=>by rw[hb.2 g]at h;cases h
 exact gF (fU (λ_=>dg (aR a1 a2 (aT (aj (aj (aO a3)))))) λg=>(by dsimp only at g;omega))
theorem acd {l:η} (h:Hz l) (i:Nat) (hi:i<l.length):∀z∈l.drop (i+1),l.getD i 0<z:=by
 induction l generalizing i with
 |nil=>cases hi
 |cons a l c=>
  cases i with
  |zero=>exact λz q=>h.1 z (by simpa using q)
  |succ i=>exact c h.2 i (by simpa using hi)
theorem RK (w:WT) (s:SN) (e:ET) (ce:e.2.1=3\/e.2.1=4->0<=e.2.2.1/\e.2.2.1<w.1.length) (de:0<e.2.2.2.2.2.1.length->e.2.1=5\/(e.2.1=3\/e.2.1=4)/\¬(aJ (T:=My) w.1 e.2.2.1).2.2.1=0) (fr:0<e.2.2.2.2.2.2.length->e.2.1=4\/e.2.1=22) (t0:0<=e.1) (t1:e.1<s.2.2.2.length) (nd:AN (aJ (T:=.int .i64) s.2.2.2 e.1) e.2.2.2.2.2.1) (nf:AN (aJ (T:=.int .i64) s.2.2.2 e.1) e.2.2.2.2.2.2) (ld:e.2.2.2.2.2.1.length<=1000000) (lf:e.2.2.2.2.2.2.length<=1000000):eY (w,s,e)=M J:=by
 refine cD ?_;unfold eY jx aY bm bz cH bL dx fo bg bx jI bH bM aV cP aE cG;refine aU (λx=>x.2=(s,e)/\((e.2.1=3\/e.2.1=4)/\¬(aJ (T:=My) w.1 e.2.2.1).2.2.1=0->x.1=J)) ?_ ?_
 .refine aK (λh=>?_) λn3=>aK (λh=>?_) λn4=>?_
  .exact aR (ce (.inl h)).1 (ce (.inl h)).2 (aT (aj ⟨rfl,λg=>by simpa using g.2⟩))
  .exact aR (ce (.inr h)).1 (ce (.inr h)).2 (aT (aj ⟨rfl,λg=>by simpa using g.2⟩))
  .exact aj ⟨rfl,λg=>(g.1.elim n3 n4).elim⟩
 rintro⟨b,x⟩ ⟨e1,hb⟩;dsimp only at e1 hb;subst e1;refine aU (λx=>x.1=s/\x.2.1=e/\(0<e.2.2.2.2.2.1.length->x.2.2.1=J)/\(0<e.2.2.2.2.2.2.length->x.2.2.2=J)) ?_ ?_
 .refine aK (λh5=>aK (λc=>aj ⟨rfl,rfl,λ_=>rfl,λ_=>rfl⟩) λc=>aj ⟨rfl,rfl,λ_=>rfl,λg=>?_⟩) λh5=>aK (λc=>aj ⟨rfl,rfl,λg=>?_,λ_=>rfl⟩) λc=>aj ⟨rfl,rfl,λg=>?_,λg=>?_⟩
  .exact aO ((fr g).resolve_left c)
  .exact hb ((de g).resolve_left h5)
  .exact hb ((de g).resolve_left h5)
  .exact aO ((fr g).resolve_left c)
 rintro⟨s',e',a,b'⟩ ⟨e1,e2,h1,h2⟩;dsimp only at e1 e2 h1 h2;subst e1;subst e2;have key:∀(r:η),r.length<=1000000->AN (aJ (T:=.int .i64) s'.2.2.2 e'.1) r->∀j:Nat,j<r.length->∀z∈r.drop (j+1),aJ (T:=.int .i64) r (j:Int)<z:=λr _ h j hj z U=>acd h.a j hj z U
 refine io 2 (by omega) (λi x=>x=((i:Int),s',e',a,b')) ?_ ?_ rfl
 .rintro i x hi rfl;refine dg ?_;refine cX (dA (by dsimp only;omega) (Am (by dsimp only;omega) (aT ?_)));have hr:∃r:η,aJ (T:=.sl (.int .i64)) [e'.2.2.2.2.2.1,e'.2.2.2.2.2.2] (i:Int)=r/\AN (aJ (T:=.int .i64) s'.2.2.2 e'.1) r/\r.length<=1000000/\(0<r.length->aJ (T:=.bool) [a,b'] (i:Int)=J):=by
   match i,hi with
   |0,_=>exact⟨_,rfl,nd,ld,h1⟩
   |1,_=>exact⟨_,rfl,nf,lf,h2⟩
  obtain⟨r,er,hA,hl,Z⟩:=hr;have er':aJ (T:=.sl aL) [e'.2.2.2.2.2.1,e'.2.2.2.2.2.2] (i:Int)=r:=er;dsimp only at er' ⊢;rw[er'];refine aU (λx=>x=(af,s',e',a,b')) ?_ ?_
  .refine bK (λg=>?_) λ_=>aj rfl
   have g':0<r.length:=by dsimp only[ak]at g;omega
   refine cX (dA (by omega) (Am (by omega) (cE (aT (aj ?_)))));rw[Z g'];rfl
  rintro x rfl;refine dh ?_;refine io r.length (by omega) (λj x=>x.1.2=(j:Int)/\x.2=(s',e',a,b')/\∀z∈r.drop j,x.1.1<z) ?_ ?_ ⟨rfl,rfl,λz U=>?_⟩
  .rintro j ⟨⟨la,ix⟩,x⟩ hj ⟨L,A,g3⟩;dsimp only at L A g3;subst L;subst A;have m:aJ (T:=.int .i64) r (j:Int)∈r:=bN (T:=.int .i64) (xs:=r) (by omega) (by omega);have m2:aJ (T:=.int .i64) r (j:Int)∈r.drop j:=by
    have:aJ (T:=.int .i64) r (j:Int)=r[j]:=by
     show r.getD j 0=_;rw[au,ay hj];rfl
    rw[this,List.drop_eq_getElem_cons hj];exact cQ
   refine dg ?_;refine cE (aT (aU (λx=>x=(af,s',e',a,b')) ?_ ?_))
   .refine fU (λg=>?_) λ_=>aR t0 t1 (aT (aj ?_))
    .have q1:=g3 _ m2;exact bZ q1 (by dsimp only at g;exact λq=>bZ (Int.lt_of_lt_of_le q g) (Int.lt_irrefl _))
    .have:=(hA.m _ m).2;rw[mj.2 (show aJ (T:=.int .i64) r (j:Int)<aJ (T:=.int .i64) s'.2.2.2 e'.1 from this)]
   rintro x rfl;exact dh (aj ⟨gD (by omega),rfl,key r hl hA j hj⟩)
  .rintro⟨⟨la,ix⟩,x⟩ ⟨L,A,_⟩;dsimp only at L A;subst L;subst A;exact dc (aj (gR (·,s',e',a,b') (gD (by omega))))
  .have:=(hA.m z (by simpa using U)).1;dsimp only;omega
 .rintro x rfl;exact dc (aj rfl)
theorem amq (w:WT) (s:SN) (a:w.2.2.1.length<=1000) (t k o:Int) (he:EN w s.1 t k o) (hf:F16 w s):kZ (w,s)=M J:=by
 obtain⟨_,_,_,cd,e1,e2,e3⟩:=he;obtain⟨z,q,c⟩:=hf;refine cD ?_;unfold kZ aY bm bz dx bg aV aE;refine gF (aS (aik w s.1 a cd e1 e2 e3) (wa (aK (λ_=>aK (λ_=>aj (aj (aO ?_))) λg=>(g ?_).elim) λg=>(g ?_).elim)));all_goals dsimp only[ak];omega
theorem HI (th:Y (Int×Int×Bool)) (c:Int) (i:Nat):wl th c (i+1)=if Ie c (aJ (T:=jH) th (i:Int)) then wl th c i++[(i:Int)] else wl th c i:=rfl
theorem ae2 {n:Nat} (w:WT) (s:SN) (hs:SB n s.1) (e:ET) (hf:F16 w s) (he:EN w s.1 e.1 e.2.1 e.2.2.1) (va:VA w s.1 s.2.1 s.2.2.1 e.1 e.2.1 e.2.2.1 e.2.2.2.1):gB (s,e)=M J:=by
 refine cD ?_;obtain⟨t,k,o,v,si,de,fr⟩:=e;obtain⟨s1,s2,s3,s4⟩:=s;obtain⟨nm,t0,t1,cd,e1,e2,e3⟩:=he;obtain⟨_,_,ce,lk,cn,th,fu,_,_,_⟩:=nm;obtain⟨f1,f2,f3⟩:=hf;have hth:=hs.th;obtain⟨v3,L,v5,vel⟩:=va;dsimp only at*
 unfold gB ma aY bm bz cH bL bg bx bM aV cP aE cG;refine aK (λh=>?_) λn3=>?_
 .have h:k=3:=h;obtain⟨c0,c1⟩:=ce (.inl h);exact aR c0 (by rw[f1];exact c1) (aT (aj (aO (v3 h))))
 refine aK (λh=>?_) λU=>?_
 .have h:k=23:=h;obtain⟨c0,c1⟩:=fu (.inr h);exact aR c0 (by rw[f2];exact c1) (aT (aj (aO (L h))))
 refine aK (λh=>?_) λn5=>?_
 .have h:k=5:=h;exact gF (aK (λ_=>aj (aj rfl)) λg=>aj (aj (aO ((v5 h).resolve_left g))))
 refine aU (λx=>x.2=((s1,s2,s3,s4),t,k,o,v,si,de,fr)/\(x.1=af->¬k=4/\¬k=22)) (aK (λh=>aj ⟨rfl,λh2=>(by rw[aO h]at h2;cases h2)⟩) λh=>aj ⟨rfl,λh2=>⟨h,t_ h2⟩⟩) ?_;rintro⟨b,x⟩ ⟨e,hb⟩;dsimp only at e hb;subst e;refine aP (λh=>aj rfl) λh=>?_
 obtain⟨n4,Z⟩:=hb h;have vel:=vel n3 U n5 n4 Z;have hWl:=vC s1.2.2.2 o s1.2.2.2.length;refine aK (λh=>?_) λn18=>?_
 .have h:k=18:=h;subst h;rw[Fu]at vel;refine io s1.2.2.2.length (by omega) (λi x=>x.1.2.2=(i:Int)/\x.2=(t,18,o,v,si,de,fr)/\x.1.1=((wl s1.2.2.2 o i).length:Int)/\(x.1.2.1=J↔v∈wl s1.2.2.2 o i)) ?_ ?_ ⟨rfl,rfl,rfl,by simp[wl]⟩
  .rintro i ⟨⟨c,hit,ix⟩,x⟩ hi ⟨q,a,z,A⟩;dsimp only at q a z A;subst q;subst a;subst z;have hl:=vC s1.2.2.2 o i;refine dg ?_;refine aU (λx=>x.2=(t,18,o,v,si,de,fr)/\x.1.1=((wl s1.2.2.2 o (i+1)).length:Int)/\(x.1.2=J↔v∈wl s1.2.2.2 o (i+1))) ?_ ?_
   .refine cE (aT (aU (λx=>x=(Ie o (aJ (T:=jH) s1.2.2.2 (i:Int)),t,18,o,v,si,de,fr)) ?_ ?_))
    .unfold Ie;refine aK (λh=>aj ?_) λh=>aj ?_
     .dsimp only at h ⊢;rw[h];rfl
     .dsimp only at h ⊢;rw[bt h];rfl
    rintro x rfl;rw[HI];dsimp only;cases hw:Ie o (aJ (T:=jH) s1.2.2.2 (i:Int)) with
    |true=>
     refine wa (aP (λh=>aj ⟨rfl,?_,?_⟩) λh=>aj ⟨rfl,?_,?_⟩)
     .dsimp only;rw[gD (by omega)];simp
     .simp[A.1 h]
     .dsimp only;rw[gD (by omega)];simp
     .have:¬v∈wl s1.2.2.2 o i:=λg=>by rw[A.2 g]at h;cases h
      simp[this]
    |false=>exact dh (aj ⟨rfl,rfl,A⟩)
   rintro⟨⟨c,hit'⟩,x⟩ ⟨q,a,z⟩;dsimp only at q a z;subst q;subst a;exact aj ⟨gD (by omega),rfl,rfl,z⟩
  .rintro⟨⟨c,hit,ix⟩,x⟩ ⟨q,a,z,A⟩;dsimp only at q a z A;subst q;subst a;subst z;refine dc (aw (P:=λy=>y=J) (gF (aP (λ_=>aj (aj rfl)) λh=>?_)) λy hy=>aj hy);have hn:¬v∈wl s1.2.2.2 o s1.2.2.2.length:=λg=>by rw[A.2 g]at h;cases h
   by_cases h0:(wl s1.2.2.2 o s1.2.2.2.length).length=0
   .rw[aC h0]at vel;refine aK (λ_=>aj (aj (aO vel))) λg=>(g (by dsimp only;omega)).elim
   .rw[ax h0]at vel;have vel:v=Bu (wl s1.2.2.2 o s1.2.2.2.length) v:=vel;exact (hn (vel▸H6 v h0)).elim
 refine aK (λh=>?_) λn19=>?_
 .have h:k=19:=h;subst h;rw[ajn]at vel;refine io s1.2.2.2.length (by omega) (λi x=>x.1.2=(i:Int)/\x.2=(t,19,o,v,si,de,fr)/\x.1.1=((wl s1.2.2.2 o i).length:Int)) ?_ ?_ ⟨rfl,rfl,rfl⟩
  .rintro i ⟨⟨c,ix⟩,x⟩ hi ⟨q,a,z⟩;dsimp only at q a z;subst q;subst a;subst z;have hl:=vC s1.2.2.2 o i;refine dg ?_;refine aU (λx=>x.2=(t,19,o,v,si,de,fr)/\x.1=((wl s1.2.2.2 o (i+1)).length:Int)) ?_ ?_
   .refine cE (aT (aU (λx=>x=(Ie o (aJ (T:=jH) s1.2.2.2 (i:Int)),t,19,o,v,si,de,fr)) ?_ ?_))
    .unfold Ie;refine aK (λh=>aj ?_) λh=>aj ?_
     .dsimp only at h ⊢;rw[h];rfl
     .dsimp only at h ⊢;rw[bt h];rfl
    rintro x rfl;rw[HI];dsimp only;cases hw:Ie o (aJ (T:=jH) s1.2.2.2 (i:Int)) with
    |true=>
     refine wa (aj ⟨rfl,?_⟩);dsimp only;rw[gD (by omega)];simp
    |false=>exact dh (aj ⟨rfl,rfl⟩)
   rintro⟨c,x⟩ ⟨q,a⟩;dsimp only at q a;subst q;subst a;exact aj ⟨gD (by omega),rfl,rfl⟩
  .rintro⟨⟨c,ix⟩,x⟩ ⟨q,a,z⟩;dsimp only at q a z;subst q;subst a;subst z;exact dc (aj (aO vel))
 exact aj (aO (by rw[ai3 _ _ _ _ _ _ n18 n19]at vel;exact vel))
theorem ZP (x:Int×Int×Bool) (c:Int):mC (x,c)=M (Ie c x):=by
 refine cD ?_;unfold mC Ie bg aE;refine gF (aK (λh=>aj (aj ?_)) λh=>aj (aj ?_))
 .have h:x.1=3:=h;rw[h];rfl
 .have h:¬x.1=3:=h;rw[bt h];rfl
theorem aby {n:Nat} (s:SY) (hs:SB n s):kH s=M (s.2.1,s.1,s.2.2.1,s.2.2.2):=by
 refine cD ?_;obtain⟨s1,s2,q,a⟩:=s;have hn:=hs.n1;have hlk:=hs.lk;have hdn:=hs.dn;have hth:=hs.th;have hrd:=hs.rd;dsimp only at hlk hdn hth hrd;unfold kH sd aY bL ck bx bH bM aV cP cG;dsimp only[ak];refine cX (cX (dA (by omega) (dA (by omega) (bd (by simp;omega) (by omega) ?_))));refine io s1.length (by omega) (λi x=>∃c d,x=((i:Int),(s1,s2,q,a),c,d)/\d.length=s1.length/\∀j,j<i->d.getD j (0,[])=s1.getD j (0,[])) ?_ ?_ ⟨_,_,rfl,by simp,λj hj=>by omega⟩
 .rintro i x hi ⟨c,d,rfl,hd,he⟩;have hr:=hrd _ (bN (T:=Az) (xs:=s1) (j:=(i:Int)) (by omega) (by omega));refine dg ?_;refine cE (aT (aS (x:=(aJ (T:=Az) s1 (i:Int)).2) (cD ?_) ?_))
  .exact bd (by dsimp only;omega) (by omega) (aj rfl)
  refine cE (cE (aj ⟨c,d.set i (aJ (T:=Az) s1 (i:Int)),?_,by simp[hd],λj hj=>?_⟩))
  .dsimp only;rw[gD (by omega)];rfl
  .by_cases e:i=j
   .subst e;rw[au,List.getElem?_set_self (by omega)];rfl
   .rw[au,List.getElem?_set_ne e,<-au];exact he j (by omega)
 .rintro x ⟨c,d,rfl,hd,he⟩;have:d=s1:=by
   refine dk hd λj L z=>?_
   have:=he j z;rw[au,au,ay L,ay z]at this;exact this
  subst this;refine dc (aw (P:=λy=>y=(s2,d,q,a)) ?_ λy A=>aj A);refine aS (x:=q) (cD (bd (by dsimp only;omega) (by omega) (aj rfl))) (aS (x:=a) (cD (bd (by dsimp only;omega) (by omega) (aj rfl))) (aj rfl))
theorem Xu (l:η) (i u:Int):Bu (l++[i]) u=if l.length=0 then i else if i=u then i else Bu l u:=by
 unfold Bu;cases l with
 |nil=>
  by_cases h:u=i
  .subst h;simp
  .simp[h];rfl
 |cons a r=>
  have e1:¬(a::r++[i]).length=0:=by simp
  have e2:¬(a::r).length=0:=by simp
  simp only[ax e1,ax e2];by_cases h:i=u
  .subst h;simp
  .have h':¬u=i:=λg=>h g.symm
   rw[ax h];have:(a::r++[i]).contains u=(a::r).contains u:=by simp[h']
   rw[this];rfl
theorem Po {th:Y (Int×Int×Bool)} {c u:Int} {i:Nat} (h:¬(wl th c i).length=0):0<=Bu (wl th c i) u/\Bu (wl th c i) u<i:=by
 have:=rj.1 (H6 u h);exact⟨this.1,this.2.1⟩
theorem KC {l:η} {u:Int} (h:l.length=0):Bu l u= -1:=by unfold Bu;rw[aC h]
theorem aeq (s:SY) (o u:Int) (hs:s.2.2.2.length<=1000):jO ((s.2.1,o,u),s.1,s.2.2.1,s.2.2.2)=M (Bu (wl s.2.2.2 o s.2.2.2.length) u,s.1,s.2.2.1,if (wl s.2.2.2 o s.2.2.2.length).length=0 then s.2.2.2 else yc s.2.2.2 (Bu (wl s.2.2.2 o s.2.2.2.length) u) 4):=by
 refine cD ?_;obtain⟨s1,s2,c,a⟩:=s;dsimp only at hs ⊢;unfold jO qI aY bm bL ck bx jI lG aV cP aE cG;dsimp only[ak];refine io a.length (by omega) (λi x=>x=((Bu (wl a o i) u,(i:Int)),s1,c,a,s2)) ?_ ?_ rfl
 .rintro i x hi rfl;refine dg ?_;refine aU (λx=>x=(Bu (wl a o (i+1)) u,s1,c,a,s2)) ?_ ?_
  .refine cE (cE (aT ?_));refine aU (λx=>x=(decide (Ie o (aJ (T:=jH) a (i:Int))=J/\((wl a o i).length=0\/(i:Int)=u)),s1,c,a,s2)) ?_ ?_
   .refine aS (ZP _ _) (aP (λh=>?_) λh=>aj ?_)
    .have h:Ie o (aJ (T:=jH) a (i:Int))=J:=h;refine bK (λg=>aj ?_) λg=>aj ?_
     .have:(wl a o i).length=0:=vB λq=>by have:=(Po (u:=u) q).1;dsimp only at g;omega
      simp[h,this]
     .have:¬(wl a o i).length=0:=λq=>by have:=KC (u:=u) q;dsimp only at g;omega
      simp[h,this]
    .have h:Ie o (aJ (T:=jH) a (i:Int))=af:=h;simp[h]
   rintro x rfl;rw[HI];refine aK (λh=>aj ?_) λh=>aj ?_
   .rw[aC h.1,Xu];rcases h.2 with g|g
    .rw[aC g]
    .rw[aC g];simp
   .by_cases g:Ie o (aJ (T:=jH) a (i:Int))=J
    .rw[aC g,Xu,ax λq=>h ⟨g,.inl q⟩,ax λq=>h ⟨g,.inr q⟩]
    .rw[ax g]
  rintro x rfl;exact aj (by dsimp only;rw[gD (by omega)])
 .rintro x rfl;refine dc (aw (P:=λy=>y=(Bu (wl a o a.length) u,s1,c,if (wl a o a.length).length=0 then a else yc a (Bu (wl a o a.length) u) 4)) ?_ λy z=>aj z);refine aU (λx=>x=(s1,c,if (wl a o a.length).length=0 then a else yc a (Bu (wl a o a.length) u) 4)) ?_ ?_
  .refine fU (λg=>?_) λg=>aj ?_
   .have h0:¬(wl a o a.length).length=0:=λq=>by have:=KC (u:=u) q;dsimp only at g;omega
    have hp:=Po (u:=u) h0;refine aR hp.1 hp.2 (aR hp.1 hp.2 (aj ?_));rw[ax h0];rfl
   .have:(wl a o a.length).length=0:=vB λq=>by have:=(Po (u:=u) q).1;dsimp only at g;omega
    rw[aC this]
  rintro x rfl;exact aj rfl
theorem aeu (th:Y (Int×Int×Bool)) (l:η) (i:Int):CS th (l++[i])=yc (CS th l) i 4:=by unfold CS;rw[eD];rfl
theorem aet (l:η):∀(th:Y (Int×Int×Bool)) (j:Int),0<=j->(∀z∈l,0<=z/\z<th.length/\¬z=j)->aJ (T:=jH) (CS th l) j=aJ (T:=jH) th j:=by
 induction l with
 |nil=>intro th j _ _;rfl
 |cons x r c=>
  intro th j hj h;have a:=h x (by simp);refine (c (yc th x 4) j hj λz s=>?_).trans ?_
  .have:=h z (by simp[s]);unfold yc;rw[bU];exact this
  .unfold yc;rw[rM (T:=jH) th x j _ a.1 a.2.1 hj,ax λq=>a.2.2 q.symm]
theorem Uo (s:SY) (o:Int) (hs:s.2.2.2.length<=1000):gX ((s.2.1,o),s.1,s.2.2.1,s.2.2.2)=M (((wl s.2.2.2 o s.2.2.2.length).length:Int),s.1,s.2.2.1,CS s.2.2.2 (wl s.2.2.2 o s.2.2.2.length)):=by
 refine cD ?_;obtain⟨s1,s2,c,a⟩:=s;dsimp only at hs ⊢;unfold gX mL aY bm bL dx ck bx lG aV cP aE cG;dsimp only[ak];refine io a.length (by omega) (λi x=>x=((((wl a o i).length:Int),(i:Int)),s1,c,CS a (wl a o i),s2)) ?_ ?_ rfl
 .rintro i x hi rfl;have hl:=vC a o i;have hg:aJ (T:=jH) (CS a (wl a o i)) (i:Int)=aJ (T:=jH) a (i:Int):=aet _ _ _ (by omega) λz q=>by have:=rj.1 q;exact⟨this.1,by omega,by omega⟩
  have hq:=HQ (wl a o i) a;refine dg ?_;refine aU (λx=>x=(((wl a o (i+1)).length:Int),s1,c,CS a (wl a o (i+1)),s2)) ?_ ?_
  .refine cE (cE (aT (aS (ZP _ _) ?_)));rw[HI];refine aP (λh=>?_) λh=>aj ?_
   .have h:Ie o (aJ (T:=jH) a (i:Int))=J:=hg▸h;refine cE (cE (aj ?_));rw[aC h,aeu];dsimp only;rw[gD (by omega)];simp only[be,b7,gw];rfl
   .have h:Ie o (aJ (T:=jH) a (i:Int))=af:=hg▸h;rw[h];rfl
  rintro x rfl;exact aj (by dsimp only;rw[gD (by omega)])
 .rintro x rfl;exact dc (aj rfl)
theorem ah5 {n:Nat} (w:WT) (s:SY) (hs:SB n s) (hn:n<=1000) (z:w.2.2.1.length<=1000) (t k o u:Int) (he:EN w s t k o) (hr:We w s t k o) (c:¬k=8) (a:¬k=9):gY (w,s,t,k,o,u)=M ((rc w s t k o u).1,(rc w s t k o u).2,J):=by
 refine cD ?_;unfold gY aY bm bz cH eC bL dx cY fo lP ck bg bH bM lG aE;refine aS (Eb w s hs hn z t k o he hr) (fX rfl (aS (aby s hs) ?_));suffices hmain:Ok _ _ from aU (λx=>((x.2.2.2.1,x.2.1,x.2.2.2.2),x.1)=rc w s t k o u) hmain λx q=>aj (by rw[<- q])
 obtain⟨nm,t0,t1,cd,e1,e2,e3⟩:=id he;obtain⟨_,_,ce,lk,cn,th,fu⟩:=nm;have hm:16<=k/\k<=19->0<=(aJ (T:=TE) w.2.2.1 o).2/\(aJ (T:=TE) w.2.2.1 o).2<w.2.1.length:=λh=>cd _ (bN (cn h).1 (cn h).2)
 rcases @IZ k with rfl|rfl|rfl|rfl|rfl|rfl|rfl|rfl|rfl|rfl|rfl|rfl|rfl|rfl|rfl|rfl|rfl|rfl|rfl|rfl|rfl|rfl|rfl|⟨hk,A⟩
 case inr.inr.inr.inr.inr.inr.inr.inr.inr.inr.inr.inr.inr.inr.inr.inr.inr.inr.inr.inr.inr.inr.inr=>omega
 all_goals first|exact (c rfl).elim|exact (a rfl).elim|skip
 all_goals simp only[aZ,bn,tf]
 all_goals with_reducible repeat' first|(refine OS.ok ?_;constructor)|refine IM.mk λ_=>?_
 all_goals try simp only[ak,qX] at*
 all_goals try rw[bU]
 all_goals first|omega|exact (hm ⟨by decide,by decide⟩).1|exact e1▸(hm ⟨by decide,by decide⟩).2|exact rfl|skip
 .refine aS (aeq s o u hs.th) (bf ?_ (aj ?_))
  .have:ai (if (wl s.2.2.2 o s.2.2.2.length).length=0 then s.2.2.2 else yc s.2.2.2 (Bu (wl s.2.2.2 o s.2.2.2.length) u) 4)=s.2.2.2.length:=by
    split
    .rfl
    .exact bU ..
   dsimp only;rw[this];simp
  .rw[Fu];by_cases h:(wl s.2.2.2 o s.2.2.2.length).length=0
   .rw[aC h,aC h,KC h]
   .rw[ax h,ax h]
 .refine aS (Uo s o hs.th) (bf ?_ (aj rfl));dsimp only;rw[HQ];simp
def AW:Nat->Y η
 |0=>[[]]
 |m+1=>AW m++(AW m).map ((3-(m:Int))::·)
theorem Mz:∀m,[]∈AW m
 |0=>by simp[AW]
 |m+1=>by simp[AW,Mz m]
theorem Ek:∀(m:Nat) (l:η),Hz l->(∀z∈l,4-(m:Int)<=z/\z<4)->l∈AW m
 |m,[],_,_=>Mz m
 |0,a::r,_,h=>by have:=h a (by simp);omega
 |m+1,a::r,hA,h=>by
  have q:=h a (by simp);rw[AW,bO];by_cases e:a=3-(m:Int)
  .refine .inr (di.2 ⟨r,Ek m r hA.2 λz c=>?_,by rw[e]⟩);have:=h z (by simp[c]);have:=hA.1 z c;omega
  .refine .inl (Ek m (a::r) hA λz c=>?_);have:=h z c;rcases bk.1 c with rfl|c
   .omega
   .have:=hA.1 z c;omega
theorem ahb {l:η} (h:Hz l) (h2:∀z∈l,0<=z/\z<4):l∈AW 4:=Ek 4 l h λz a=>by have:=h2 z a;omega
def in4:η:=[0,1,2,3]
theorem W5 {t:Int} (h0:0<=t) (h1:t<4):t∈in4:=by
 have:t=0\/t=1\/t=2\/t=3:=by omega
 rcases this with rfl|rfl|rfl|rfl<;>simp[in4]
def am6 (l:η) (t:Int):Bool:=l.contains t||((wB (l++[t])==M (xl l [t]))&&(l_ (xl l [t])==M (xl l [t]))&&aA (xl l [t]).length (l++[t]).length)
def an1 (l:η) (t:Int):Bool:= !l.contains t||(jp (l,t)==M (t,wo l t))
theorem ae9:((AW 4).all λl=>in4.all λt=>am6 l t)=J:=by kernel_rfl
theorem afj:((AW 4).all λl=>in4.all λt=>an1 l t)=J:=by kernel_rfl
theorem srt8 {l:η} {t:Int} (h:Hz l) (h2:∀z∈l,0<=z/\z<4) (h0:0<=t) (h1:t<4) (hn:¬t∈l):wB (l++[t])=M (xl l [t])/\l_ (xl l [t])=M (xl l [t])/\(xl l [t]).length=(l++[t]).length:=by
 have:=gA.1 (gA.1 ae9 l (ahb h h2)) t (W5 h0 h1);unfold am6 at this;have hc:l.contains t=af:=by simp[hn]
 rw[hc,Bool.false_or,al,al]at this;exact⟨eq_of_beq this.1.1,eq_of_beq this.1.2,ar this.2⟩
theorem del8 {l:η} {t:Int} (h:Hz l) (h2:∀z∈l,0<=z/\z<4) (h0:0<=t) (h1:t<4) (hn:l.contains t=J):jp (l,t)=M (t,wo l t):=by
 have:=gA.1 (gA.1 afj l (ahb h h2)) t (W5 h0 h1);unfold an1 at this;rw[hn,Bool.not_true,Bool.false_or]at this;exact eq_of_beq this
theorem aft (a0 a1 a2:Int) (r0 r1 r2:η) (h:Int) (d:θ) (th:Y (Int×Int×Bool)) (h0:r0.length<=1000) (h1:r1.length<=1000) (h2:r2.length<=1000) (hd:d.length<=1000) (ht:th.length<=1000):nD ([(a0,r0),(a1,r1),(a2,r2)],h,d,th)=M ((h,d,th),(a0,a1,a2),r0,r1,r2):=by
 refine cD ?_;have a:∀l:η,l.length<=1000->o9 l=M l:=λl hl=>cD (bd (by omega) (by omega) (aj rfl))
 unfold nD aY bL bx bH bM aV aE;refine bf rfl (aU (λx=>x=(([(a0,r0),(a1,r1),(a2,r2)],h,d,th),0,(a0,a1,a2),r0,r1,r2)) ?_ ?_)
 .exact fO rfl (bf rfl (aT (aS (a _ h0) (fO rfl (bf rfl (aT (aS (a _ h1) (fO rfl (bf rfl (aT (aS (a _ h2) (fX rfl (aj rfl)))))))))))))
 rintro x rfl;refine aS (x:=d) (cD (bd (by dsimp only;omega) (by omega) (aj rfl))) (aS (x:=th) (cD (bd (by dsimp only;omega) (by omega) (aj rfl))) (aj rfl))
theorem ah6 {n:Nat} (w:WT) (s:SY) (hs:SB n s) (hn:n<=1000) (a:w.2.2.1.length<=1000) (t k o u:Int) (he:EN w s t k o) (hr:We w s t k o) (hk:k=8\/k=9):gY (w,s,t,k,o,u)=D:=by
 have h1:=Eb w s hs hn a t k o he hr;have h2:=aby s hs;rcases hk with rfl|rfl
 .unfold gY aY bm bz cH eC bL dx cY fo lP ck bg bH bM lG aE;simp only[h1,h2,aZ,bn,tf];cases fy o (ai s.1)<;>rfl
 .unfold gY aY bm bz cH eC bL dx cY fo lP ck bg bH bM lG aE;simp only[h1,h2,aZ,bn,tf];cases fy o (ai s.1)<;>rfl
theorem ah4 {n:Nat} (w:WT) (s:SY) (hs:SB n s) (hn:n<=900) (L:w.2.2.1.length<=1000) (t k u:Int) (he:EN w s t k 2) (hr:We w s t k 2) (hk:k=8\/k=9) (U:s.1.length=3) (hA:Hz (aJ (T:=Az) s.1 2).2) (a:∀z∈(aJ (T:=Az) s.1 2).2,0<=z/\z<4) (q:t<4):li (w,s,t,k,2,u)=M ((rc w s t k 2 u).1,(rc w s t k 2 u).2,J):=by
 have h1:=Eb w s hs (by omega) L t k 2 he hr;have t0:=he.t0;have ra:=hr.ra;have rr:=hr.rr;have hrd:=hs.rd;have hdn:=hs.dn;have hth:=hs.th;obtain⟨s1,h,d,th⟩:=s
 match s1,U with
 |[(a0,r0),(a1,r1),(a2,r2)],_=>
  have g0:r0.length<=n:=hrd (a0,r0) (by simp);have g1:r1.length<=n:=hrd (a1,r1) (by simp);have Z:r2.length<=n:=hrd (a2,r2) (by simp);have hA:Hz r2:=hA;have a:∀z∈r2,0<=z/\z<4:=a;dsimp only at hdn hth;have hc:=aft a0 a1 a2 r0 r1 r2 h d th (by omega) (by omega) (by omega) hdn hth;refine cD ?_;unfold li aY bm bz cH eC kP dx cY fo qf bg xi bH aE;rcases hk with rfl|rfl
  .have ra:r2.contains t=af:=ra rfl;obtain⟨c,A,q3⟩:=srt8 hA a t0 q (by simpa using ra);simp only[h1,hc,aZ,bn,tf];refine aU (λx=>x=(0,(h,d,th),0,(((a0,r0),(a1,r1),a2)),J,xl r2 [t])) ?_ ?_
   .refine bd (by simp;omega) (by omega) (aS c (bf ?_ (aS A (bf ?_ (aj ?_)))))
    .rw[q3];simp
    .simp
    .rfl
   rintro x rfl;exact aj rfl
  .have rr:r2.contains t=J:=rr rfl;have c:=del8 hA a t0 q rr;simp only[h1,hc,aZ,bn,tf];refine aU (λx=>x=(0,(h,d,th),0,(((a0,r0),(a1,r1),a2)),af,wo r2 t)) ?_ ?_
   .exact aS c (bf (by simp) (aj rfl))
   rintro x rfl;exact aj rfl
theorem aln {n:Nat} (w:WT) (s:SY) (hs:SB n s) (hn:n<=900) (a:w.2.2.1.length<=1000) (t k o u:Int) (he:EN w s t k o) (hr:We w s t k o) (h2:k=8\/k=9->o=2) (q:s.1.length=3) (hA:∀l∈s.1,Hz l.2/\∀z∈l.2,0<=z/\z<4) (c:t<4):rZ (w,s,t,k,o,u)=M ((rc w s t k o u).1,(rc w s t k o u).2,J):=by
 unfold rZ;by_cases hk:k=8\/k=9
 .have:=h2 hk;subst this;have hg:=hA _ (bN (T:=Az) (xs:=s.1) (j:=2) (by omega) (by omega));rw[ah6 w s hs (by omega) a t k 2 u he hr hk,ah4 w s hs hn a t k u he hr hk q hg.1 hg.2 c];rfl
 .rw[ah5 w s hs (by omega) a t k o u he hr (λh=>hk (.inl h)) λh=>hk (.inr h)];rfl
theorem Xt (l:η) (h:l.length<=100000):zj l=M l:=cD (bd (by omega) (by omega) (aj rfl))
theorem afu (l:η) (h:l.length<=100000):o9 l=M l:=cD (bd (by omega) (by omega) (aj rfl))
theorem anp {n:Nat} (w:WT) (s:SN) (e:ET) (hs:NB n s) (hn:n<=900) (L:w.2.2.1.length<=1000) (U:F16 w s) (q:EN w s.1 e.1 e.2.1 e.2.2.1) (hS:S16 w s e) (ld:e.2.2.2.2.2.1.length<=1000000) (lf:e.2.2.2.2.2.2.length<=1000000) (h2:e.2.1=8\/e.2.1=9->e.2.2.1=2) (h3:s.1.1.length=3) (hA:∀l∈s.1.1,Hz l.2/\∀z∈l.2,0<=z/\z<4) (t4:e.1<4):fV (w,s,e)=M (nxP w s e,J):=by
 refine cD ?_;obtain⟨rd,q1,q2,de,fr,nd,nf,va⟩:=id hS;obtain⟨nm,t0,t1,cd,e1,e2,e3⟩:=id q;obtain⟨k1,k2,ce,lk,cn,th,fu,_,_,_⟩:=nm;obtain⟨f1,f2,f3⟩:=id U;have hsc:=hs.c;have hsf:=hs.f;have hsk:=hs.k;unfold fV aY bm bz bL dx cY ck bg bx jI lG aV aE cG;refine aU (λx=>x=(af,w,s,e,0)) ?_ ?_
 .refine aS (amq w s L _ _ _ q U) (fX rfl (dc (fU (λg=>(by dsimp only[ak]at g;omega)) λ_=>dc (aj ?_))));rw[fZ.2 (show e.2.1<=23 by omega)]
 rintro x rfl;refine dh (aU (λx=>x=(af,w,s,e,0)) ?_ ?_)
 .exact aS (Eb w s.1 hs.sb (by omega) L _ _ _ q rd) (fX rfl (aS (ael w e q1 q2) (fX rfl (aS (RK w s e (λh=>ce h) de fr t0 (by rw[f3];exact t1) nd nf ld lf) (fX rfl (aS (ae2 w s hs.sb e U q va) (aj rfl)))))))
 rintro x rfl;refine dh (aU (λx=>x.2=(w,s,e,0)/\rc w s.1 e.1 e.2.1 e.2.2.1 x.1=rc w s.1 e.1 e.2.1 e.2.2.1 e.2.2.2.1) ?_ ?_)
 .exact aK (λ_=>aj ⟨rfl,rfl⟩) λh=>aj ⟨rfl,XF _ _ _ _ _ _ _ h⟩
 rintro⟨u,x⟩ ⟨Z,hu⟩;dsimp only at Z hu;subst Z;refine aS (aln w s.1 hs.sb hn L _ _ _ u q rd h2 h3 hA t4) (fX rfl (aS (Xt _ (by dsimp only;omega)) (aS (Xt _ (by dsimp only;omega)) (aS (afu _ (by dsimp only;omega)) ?_))));rw[hu];refine aU (λx=>x.1=e/\x.2.2.1=(rc w s.1 e.1 e.2.1 e.2.2.1 e.2.2.2.1).1/\x.2.2.2.1=YW s.2.1 e/\x.2.2.2.2.1=ZI s.2.2.1 e/\x.2.2.2.2.2=s.2.2.2) ?_ ?_
 .unfold YW ZI;refine aK (λh=>?_) λh=>aK (λh'=>?_) λh'=>aj ⟨rfl,rfl,(ax h).symm,(ax h').symm,rfl⟩
  .have h:e.2.1=4:=h;have a:=ce (.inr h);exact aR a.1 (by rw[f1];exact a.2) (aR a.1 (by rw[f1];exact a.2) (aj ⟨rfl,rfl,(aC h).symm,(ax (by omega)).symm,rfl⟩))
  .have h:e.2.1=22:=h';have a:=fu (.inl h);exact aR a.1 (by rw[f2];exact a.2) (aR a.1 (by rw[f2];exact a.2) (aj ⟨rfl,rfl,(ax (by omega)).symm,(aC h).symm,rfl⟩))
 rintro⟨x1,x2,x3,x4,x5,x6⟩ ⟨h1,h2,h4,h5,h6⟩;simp only at h1 h2 h4 h5 h6;subst h1;subst h2;subst h4;subst h5;subst h6;have A:x1.1<(s.2.2.2.length:Int):=by rw[f3];exact t1
 exact aR t0 A (aR t0 A (aT (aR t0 A (aR t0 A (aj rfl)))))
theorem Y0 (r:θ) (e:ET) (h1:∀y∈e.2.2.2.2.2.1,0<=y/\r.getD y.toNat af=J) (h2:∀y∈e.2.2.2.2.2.2,0<=y/\r.getD y.toNat af=J) (ld:e.2.2.2.2.2.1.length<=1000000) (a:e.2.2.2.2.2.2.length<=1000000):co (r,e)=M J:=by
 refine cD ?_;unfold co kA eC lP bx jI bH bM aV cP aE cG;refine io 2 (by omega) (λi x=>x=(i:Int)) ?_ ?_ rfl
 .rintro i x hi rfl;refine bK (λ_=>?_) λg=>(by omega)
  refine cX (dA (by omega) (Am (by omega) (aT ?_)));have hr:∃l:η,aJ (T:=.sl (.int .i64)) [e.2.2.2.2.2.1,e.2.2.2.2.2.2] (i:Int)=l/\(∀y∈l,0<=y/\r.getD y.toNat af=J)/\l.length<=1000000:=by
   match i,hi with
   |0,_=>exact⟨_,rfl,h1,ld⟩
   |1,_=>exact⟨_,rfl,h2,a⟩
  obtain⟨l,c,hA,hl⟩:=hr;have er':aJ (T:=.sl aL) [e.2.2.2.2.2.1,e.2.2.2.2.2.2] (i:Int)=l:=c;dsimp only at er' ⊢;rw[er'];refine io l.length (by omega) (λj x=>x=(j:Int)) ?_ ?_ rfl
  .rintro j x hj rfl;refine dg ?_;have m:=hA _ (bN (T:=.int .i64) (xs:=l) (j:=(j:Int)) (by omega) (by omega));refine cE (aT (aU (λx=>x=af) ?_ ?_))
   .revert m;generalize aJ (T:=.int .i64) l (j:Int)=z;intro m;have q:z.toNat<r.length:=by
     rcases ca z.toNat r.length with g|g
     .exact g
     .have:=m.2;rw[au,bE g]at this;cases this
    refine bK (λg=>(by have:=m.1;omega)) λ_=>fU (λg=>(by have:=m.1;dsimp only[ak]at g;omega)) λ_=>aR m.1 (by have:=m.1;omega) (aT (aj ?_))
    have:aJ (T:=.bool) r z=J:=m.2;show (!aJ (T:=.bool) r z)=af;rw[this];rfl
   rintro x rfl;exact dh (aj (gD (by omega)))
  .rintro x rfl;exact dc (aj (gD (by omega)))
 .rintro x rfl;exact bK (λg=>(by omega)) λ_=>aj rfl
abbrev W8 (n:Nat) (s:Y π):WT:=(C0,G1,Mt,Tl,vZ.take n,s)
theorem WX.w8 {w:WT} (A:WX w):∃n,(n=1\/n=2\/n=3\/n=4)/\w=W8 n w.2.2.2.2.2:=by
 obtain⟨h1,h2,z,q,⟨n,n1,L,a⟩,_,_⟩:=A;obtain⟨c,l,d,f,t,s⟩:=w;dsimp only at h1 h2 z q a;subst h1;subst h2;subst z;subst q;subst a;exact⟨n,by omega,rfl⟩
abbrev sn8 (w:WT):SN:=(PU w,ce0 w,fu0 w,aB w.2.2.2.2.1.length 0)
theorem In (s:Y π):dt (W8 1 s)=M (sn8 (W8 1 s)):=by kernel_rfl
theorem Z0 (s:Y π):dt (W8 2 s)=M (sn8 (W8 2 s)):=by kernel_rfl
theorem st3 (s:Y π):dt (W8 3 s)=M (sn8 (W8 3 s)):=by kernel_rfl
theorem st4 (s:Y π):dt (W8 4 s)=M (sn8 (W8 4 s)):=by kernel_rfl
theorem Cj {w:WT} (a:WX w):dt w=M (sn8 w):=by
 obtain⟨n,hn,e⟩:=a.w8;rw[e];rcases hn with rfl|rfl|rfl|rfl
 .exact In _
 .exact Z0 _
 .exact st3 _
 .exact st4 _
abbrev VN4:Y ζ:=[[120],[121],[118],[113]]
theorem vc8:h_ C0=M (VN4,J):=by kernel_rfl
theorem vn1 (s:Y π):dQ (W8 1 s,VN4)=M J:=by kernel_rfl
theorem vn2 (s:Y π):dQ (W8 2 s,VN4)=M J:=by kernel_rfl
theorem vn3 (s:Y π):dQ (W8 3 s,VN4)=M J:=by kernel_rfl
theorem vn4 (s:Y π):dQ (W8 4 s,VN4)=M J:=by kernel_rfl
theorem vs8 {w:WT} (L:WX w) (hb:VL w):gd w=M J:=by
 have hv:=L.v;have hs:=L.s;have ht:=hb.t0;unfold SV0 at hv;refine cD ?_;unfold gd kU aY bm cH cY bx iU bM aV cP aE cG;refine io w.2.2.2.2.2.length (by omega) (λi x=>∃t n:Int,x=((t,n,(i:Int)),w)/\Lj w.2.2.2.2.1.length (w.2.2.2.2.2.take i)=M (t,n)/\0<=t/\t<w.2.2.2.2.1.length/\0<=n/\n<=i) ?_ ?_ ⟨0,0,rfl,rfl,by omega,by omega,by omega,by omega⟩
 .rintro i x hi ⟨t,n,rfl,h1,t0,t1,n0,n1⟩;refine dg ?_;refine cE (aT ?_);have h2:=Wu hv (i+1);have q:Lj w.2.2.2.2.1.length (w.2.2.2.2.2.take (i+1))=TJ w.2.2.2.2.1.length (M (t,n)) (aJ (T:=ya) w.2.2.2.2.2 (i:Int)):=by rw[Io hi,h1]
  rw[q]at h2;dsimp only;revert h2 q;change _->_->Ok _ _;generalize aJ (T:=ya) w.2.2.2.2.2 (i:Int)=z;intro h2 q;obtain⟨(a:Int),(b:Int),(c:Int)⟩:=z;have Z:(a=t/\b=n)\/(t<a/\a<w.2.2.2.2.1.length/\b=0):=by
   simp only[TJ]at h2;split at h2
   .rename_i h;exact .inl h
   .split at h2
    .rename_i h;exact .inr h
    .exact (h2 rfl).elim
  refine aU (λx=>x=(af,w,a,b,c)) ?_ ?_
  .refine dc (aj ?_);dsimp only;rw[mj.2 (by dsimp only[ak];omega)]
  rintro x rfl;refine dh ?_;rcases Z with ⟨rfl,rfl⟩|⟨U,A,rfl⟩
  .refine aU (λx=>x=((a,b),w,a,b,c)) (dc (aj rfl)) ?_;rintro x rfl;refine cg (λg=>(g rfl).elim) λ_=>aj ⟨a,b+1,?_,?_,t0,t1,by omega,by omega⟩
   .dsimp only;rw[iI (n:=b+1) (by omega) (by omega),gD (by omega)]
   .rw[q];simp[TJ]
  .refine aU (λx=>x=((a,0),w,a,0,c)) (dg (aj rfl)) ?_;rintro x rfl;refine cg (λg=>(g rfl).elim) λ_=>aj ⟨a,1,?_,?_,by omega,A,by omega,by omega⟩
   .dsimp only;rw[iI (n:=0+1) (by omega) (by omega),gD (by omega)];rfl
   .rw[q];show (if a=t/\(0:Int)=n then M (t,n+1) else if t<a/\a<_/\(0:Int)=0 then M (a,1) else D)=M (a,1);rw[ax (by omega),aC ⟨U,A,rfl⟩]
 .rintro x ⟨t,n,rfl,_⟩;exact dc (aj rfl)
theorem VW8 {w:WT} (s:WX w) (hb:VL w):dR w=M J:=by
 have hs:=vs8 s hb;have hvn:dQ (w,VN4)=M J:=by
  obtain⟨n,hn,e⟩:=s.w8;rw[e];rcases hn with rfl|rfl|rfl|rfl
  .exact vn1 _
  .exact vn2 _
  .exact vn3 _
  .exact vn4 _
 have hc:=s.c;have hd:=s.d;have hl:=s.l;obtain⟨w1,w2,w3,z,q,a⟩:=w;obtain⟨b1,b2,Z,U,b0,L,A⟩:=hb;dsimp only at hc hd hl b1 b2 Z U L A b0;subst hc;subst hd;subst hl;refine cD ?_;unfold dR kV aY bm cH cY bx bM aV cP aE cG;have f:∀n m:Nat,n<=m->fJ (m:Int) (aN n)=af:=λn m h=>fZ.2 (by dsimp only[ak];omega)
 refine aU (λx=>x=(af,C0,G1,Mt,z,q,a)) ?_ ?_
 .refine fX rfl (fX rfl (fX rfl (fX (f _ 2 U) (aj ?_))));rw[show fJ 60 (aN (ai a))=af from f _ 60 A]
 rintro x rfl;refine dh (aU (λx=>x=(af,C0,G1,Mt,z,q,a)) ?_ ?_)
 .refine fX (fZ.2 (by dsimp only[ak];omega)) (aj ?_);rw[show fJ 4 (aN (ai q))=af from f _ 4 L]
 rintro x rfl;refine dh (aS vc8 (aU (λx=>x=(af,C0,G1,Mt,z,q,a)) ?_ ?_))
 .exact dh (aS hvn (aj rfl))
 rintro x rfl;refine dh (io 1 (by omega) (λi x=>x=((i:Int),C0,G1,Mt,z,q,a)) ?_ ?_ rfl)
 .rintro i x hi rfl;have:i=0:=by omega
  subst this;refine fO rfl (bf rfl (aT (aS (x:=J) ?_ (dh (aj rfl)))));rfl
 .rintro x rfl;exact fX rfl (aS (x:=J) (by rw[hs];rfl) (aj rfl))
abbrev eN (l:Y ET) (i:Nat):ET:=aJ (T:=tE) l (i:Int)
theorem JM {l:Y ET} {i:Nat} (h:i<l.length):eN l i∈l:=bN (T:=tE) (by omega) (by omega)
theorem ajb {l:Y ET} {e:ET} {i:Nat} (h:i<l.length):eN (l++[e]) i=eN l i:=by
 unfold eN;rw[yJ,yJ,au,au,bQ h]
theorem afi (l:Y ET) (e:ET):eN (l++[e]) l.length=e:=by
 unfold eN;rw[yJ,au,cf (bP _),Nat.sub_self];rfl
def Ny (w:WT) (l:Y ET):SY×η×η:=l.foldl (λs e=>((rc w s.1 e.1 e.2.1 e.2.2.1 e.2.2.2.1).1,YW s.2.1 e,ZI s.2.2 e)) (PU w,ce0 w,fu0 w)
theorem S4 (w:WT) {l:Y ET} {i:Nat} (h:i<l.length):Ny w (l.take (i+1))=((rc w (Ny w (l.take i)).1 (eN l i).1 (eN l i).2.1 (eN l i).2.2.1 (eN l i).2.2.2.1).1,YW (Ny w (l.take i)).2.1 (eN l i),ZI (Ny w (l.take i)).2.2 (eN l i)):=by
 rw[ou (T:=tE) h];unfold Ny;rw[eD];rfl
theorem Acw.all {w:WT} {l:Y ET} {sy:SY} {ce fu:η} (h:Acw w l sy ce fu):Ny w l=(sy,ce,fu)/\∀i,i<l.length->SCx w (l.take i) (Ny w (l.take i)).1 (Ny w (l.take i)).2.1 (Ny w (l.take i)).2.2 (eN l i):=by
 induction h with
 |nil=>exact⟨rfl,λi hi=>bZ hi (xj _)⟩
 |snoc h hs a=>
  rename_i l sy ce fu e;obtain⟨h1,h2⟩:=a;refine ⟨by unfold Ny at h1 ⊢;rw[eD,h1];rfl,λi hi=>?_⟩;rw[be,dB]at hi;rcases ca i l.length with g|g
  .rw[lz (by omega),ajb g];exact h2 i g
  .have:i=l.length:=by omega
   subst this;rw[lz (bP _),cK,afi,h1];exact hs
theorem TR.sc {w:WT} {l:Y ET} (a:TR (w,l)) {i:Nat} (h:i<l.length):SCx w (l.take i) (Ny w (l.take i)).1 (Ny w (l.take i)).2.1 (Ny w (l.take i)).2.2 (eN l i):=by
 obtain⟨sy,ce,fu,ac⟩:=a.ac;exact ac.all.2 i h
def PY (w:WT) (l:Y ET):HS:=l.foldl (λh e=>(Qa w h (evP e)).1) (HS.zero w)
def c6 (l:Y ET) (i:Nat):EV:=evP (eN l i)
def qe (w:WT) (l:Y ET) (i:Nat):η:=KA w (PY w (l.take i)) (c6 l i)
theorem I5 (w:WT) {l:Y ET} {i:Nat} (h:i<l.length):PY w (l.take (i+1))=jW w (PY w (l.take i)) (c6 l i) (qe w l i):=by
 rw[ou (T:=tE) h];unfold PY;rw[eD];rfl
theorem Ov {w:WT} {l:Y ET} (a:TR (w,l)):∀i:Nat,i<=l.length->TK (i:Int) (PY w (l.take i))/\Fit w (PY w (l.take i))
 |0,_=>by
  have wb:=a.wb;dsimp only at wb;exact⟨HS.zero_ok (by have:=wb.c;omega) (by have:=wb.l;omega) (by have:=wb.f;omega) (by have:=wb.t;omega),Fit.zero w⟩
 |i+1,h=>by
  obtain⟨o,q⟩:=Ov a i (by omega);have hl:=a.len;dsimp only at hl;have ok:=abn (a.ev _ (JM (l:=l) (i:=i) (by omega))) a.wb q;rw[I5 w (by omega)];exact⟨ZY (w:=w) (e:=c6 l i) o (by omega) ok.th4,q.step (c6 l i)⟩
theorem Fa {w:WT} {l:Y ET} (a:TR (w,l)) {i:Nat} (h:i<l.length):EOK w (PY w (l.take i)) (c6 l i):=abn (a.ev _ (JM h)) a.wb (Ov a i (by omega)).2
theorem wM {w:WT} {l:Y ET} (a:TR (w,l)) {i:Nat} (h:i<l.length):EvT (c6 l i) (eN l i):=ams (a.ev _ (JM h))
theorem VF {w:WT} {l:Y ET} (a:TR (w,l)) {i:Nat} (h:i<l.length):En ((i:Int)+1) (qe w l i):=Pj (Ov a i (by omega)).1 (Fa a h).th4
def LE (a b:η):Prop:=a.length<=b.length/\∀k,a.getD k 0<=b.getD k 0
theorem LE.refl (a:η):LE a a:=⟨bP _,λ_=>du _⟩
theorem LE.trans {a b c:η} (h:LE a b) (g:LE b c):LE a c:=⟨dy h.1 g.1,λk=>Int.le_trans (h.2 k) (g.2 k)⟩
theorem LE.jl {a b:η} (h:LE a b):jl a b=b:=MU (by rw[wE];have:=h.1;omega) λi=>by rw[B2,wH];have:=h.2 i;omega
theorem aoc (a b:η):LE a (jl a b):=⟨by rw[wE];omega,λk=>by rw[B2,wH];omega⟩
theorem LE_r (a b:η):LE b (jl a b):=⟨by rw[wE];omega,λk=>by rw[B2,wH];omega⟩
theorem aij (a:η) (t:Nat):LE a (tk a t):=⟨by rw[Mx];omega,λk=>by rw[Ij];split<;>(try subst k)<;>omega⟩
theorem PN:∀(l:Y η) (c:η),LE c (l.foldl jl c)
 |[],c=>LE.refl c
 |x::r,c=>(aoc c x).trans (PN r _)
theorem ahu (w:xc) (h:HS) (e:EV):LE (h.T.getD e.th []) (KA w h e):=(PN _ _).trans (aij _ _)
theorem qJ {α:Type} (l:Y α) (i j:Nat) (x d:α):(l.set i x).getD j d=if i=j/\i<l.length then x else l.getD j d:=by
 rw[au,jZ];by_cases e:i=j
 .subst e;by_cases g:i<l.length
  .rw[aC rfl,aC g,aC ⟨rfl,g⟩];rfl
  .rw[aC rfl,ax g,ax λq=>g q.2,au,bE (by omega)]
 .rw[ax e,ax λq=>e q.1,au]
structure oH (P:η->Prop) (h:HS):Prop where
 T:∀u,P (h.T.getD u [])
 S:∀u,P (h.S.getD u [])
 L:∀u,P (h.L.getD u [])
 R:∀u,P (h.R.getD u [])
 C:∀u,P (h.C.getD u [])
 F:∀u,P (h.F.getD u [])
 X:P h.X
 N:∀u,P (h.N.getD u [])
theorem oH.mono {P Q:η->Prop} {h:HS} (a:oH P h) (g:∀x,P x->Q x):oH Q h:=⟨λu=>g _ (a.T u),λu=>g _ (a.S u),λu=>g _ (a.L u),λu=>g _ (a.R u),λu=>g _ (a.C u),λu=>g _ (a.F u),g _ a.X,λu=>g _ (a.N u)⟩
theorem oH.set {P:η->Prop} {l:Y η} {c:η} (h:∀u,P (l.getD u [])) (hc:P c) (i:Nat):∀u,P ((l.set i c).getD u []):=λu=>by
 rw[qJ];split
 .exact hc
 .exact h u
theorem oH.repl {P:η->Prop} (h:P []) (n:Nat):∀u,P ((aB n []).getD u []):=λu=>by
 rw[au,ju];split<;>exact h
theorem oH.zero {P:η->Prop} (h:P []) (w:xc):oH P (HS.zero w):=⟨oH.repl h _,oH.repl h _,oH.repl h _,oH.repl h _,oH.repl h _,oH.repl h _,h,oH.repl h _⟩
theorem oH.step {P:η->Prop} (hj:∀a b,P a->P b->P (jl a b)) {w:xc} {h:HS} (a:oH P h) (e:EV) {c:η} (hc:P c):oH P (jW w h e c):=by
 have b:oH P {h with T:=h.T.set e.th c}:={a with T:=oH.set a.T hc _}
 unfold jW;simp only[];repeat' split
 .exact {b with S:=oH.set a.S hc _}
 .exact {b with L:=oH.set a.L (hj _ _ (a.L _) hc) _}
 .exact {b with R:=oH.set a.R (hj _ _ (a.R _) hc) _}
 .exact {b with L:=oH.set a.L (hj _ _ (a.L _) hc) _}
 .exact {b with C:=oH.set a.C (hj _ _ (a.C _) hc) _}
 .exact b
 .exact {b with F:=oH.set a.F (hj _ _ (a.F _) hc) _}
 .exact {b with X:=hj _ _ a.X hc}
 .exact {b with N:=oH.set a.N hc _}
 .exact b
 .refine {b with N:=λu=>?_};have:=a.N u;simp only[Cw];rw[au]at this ⊢;rw[Ef];cases q:h.N[u]? with
  |none=>rw[q]at this;exact this
  |some x=>
   rw[q]at this;simp only[cj,uW];split
   .exact hc
   .exact this
 .exact b
theorem oH.src {P:η->Prop} {w:xc} {h:HS} (a:oH P h) (e:EV):∀x∈BG w h e,P x:=by
 intro c hc;unfold BG at hc;repeat' (split at hc)
 all_goals simp only[bk,cB,gj]at hc
 .subst hc;exact a.S _
 .subst hc;exact a.T _
 .rcases hc with rfl|rfl
  .exact a.L _
  .exact a.R _
 .subst hc;exact a.L _
 .rcases hc with rfl|rfl|rfl
  .exact a.L _
  .exact a.R _
  .exact a.N _
 .subst hc;exact a.C _
 .subst hc;exact a.F _
 .subst hc;exact a.X
theorem abi {P:η->Prop} (hj:∀a b,P a->P b->P (jl a b)):∀(l:Y η) (c:η),P c->(∀x∈l,P x)->P (l.foldl jl c)
 |[],_,hc,_=>hc
 |x::r,_,hc,h=>abi hj r _ (hj _ _ hc (h x (cQ ..))) λy q=>h y (bV _ q)
theorem ahs (w:xc) (h:HS) (e:EV) (c:η):(jW w h e c).T=h.T.set e.th c:=by
 unfold jW;simp only[];repeat' split
 all_goals rfl
def zV (l:Y ET) (u:Nat):Nat->Nat
 |0=>0
 |i+1=>if (c6 l i).th=u then zV l u i+1 else zV l u i
theorem Sv (l:Y ET) (u i:Nat):∀j,zV l u i<=zV l u (i+j)
 |0=>bP _
 |j+1=>by
  have:=Sv l u i j;show zV l u i<=zV l u (i+j+1);rw[zV];split<;>omega
theorem Vy (l:Y ET) (u:Nat) {i j:Nat} (h:i<=j):zV l u i<=zV l u j:=by
 obtain⟨k,rfl⟩:∃k,j=i+k:=⟨j-i,by omega⟩
 exact Sv l u i k
theorem H4 (l:Y ET) (i:Nat):zV l (c6 l i).th (i+1)=zV l (c6 l i).th i+1:=by rw[zV,aC rfl]
structure Gd (w:WT) (l:List ET) (i:Nat) (x:η):Prop where
 le:∀u,x.getD u 0<=(zV l u i:Int)
 dn:∀k,k<i->(zV l (c6 l k).th k:Int)+1<=x.getD (c6 l k).th 0->LE (qe w l k) x
theorem Gd.nil (w:WT) (l:Y ET) (i:Nat):Gd w l i []:=⟨λu=>by simp,λk _ h=>by simp at h;omega⟩
theorem Gd.jl {w:WT} {l:Y ET} {i:Nat} (a b:η) (c:Gd w l i a) (hb:Gd w l i b):Gd w l i (jl a b):=by
 refine ⟨λu=>?_,λk hk h=>?_⟩
 .rw[B2,wH];have:=c.le u;have:=hb.le u;omega
 .rw[B2,wH]at h;by_cases g:(zV l (c6 l k).th k:Int)+1<=a.getD (c6 l k).th 0
  .exact (c.dn k hk g).trans (aoc _ _)
  .exact (hb.dn k hk (by omega)).trans (LE_r _ _)
theorem Gd.succ {w:WT} {l:Y ET} {i:Nat} {x:η} (h:Gd w l i x):Gd w l (i+1) x:=by
 refine ⟨λu=>?_,λk hk g=>?_⟩
 .have:=h.le u;have:=Vy l u (show i<=i+1 by omega);omega
 .by_cases e:k=i
  .subst e;have:=h.le (c6 l k).th;omega
  .exact h.dn k (by omega) g
structure GS1 (w:WT) (l:List ET) (i:Nat) (h:HS):Prop where
 a:oH (Gd w l i) h
 t:∀u,(h.T.getD u []).getD u 0=(zV l u i:Int)
theorem Pm {w:WT} {l:Y ET} {i:Nat} (g:GS1 w l i (PY w (l.take i))):Gd w l (i+1) (qe w l i)/\(qe w l i).getD (c6 l i).th 0=(zV l (c6 l i).th i:Int)+1:=by
 have s:Gd w l i ((BG w (PY w (l.take i)) (c6 l i)).foldl AI.jl ((PY w (l.take i)).T.getD (c6 l i).th [])):=abi Gd.jl _ _ (g.a.T _) (g.a.src (w:=w) _);have z:=g.t (c6 l i).th;have hL:=PN (BG w (PY w (l.take i)) (c6 l i)) ((PY w (l.take i)).T.getD (c6 l i).th []);have A:=(g.a.T (c6 l i).th).dn;have c:=ahu w (PY w (l.take i)) (c6 l i);have e:(qe w l i).getD (c6 l i).th 0=(zV l (c6 l i).th i:Int)+1:=by
  unfold qe KA;rw[Ij,aC rfl];have:=hL.2 (c6 l i).th;have:=s.le (c6 l i).th;omega
 refine ⟨⟨λu=>?_,λk hk h=>?_⟩,e⟩
 .by_cases hu:(c6 l i).th=u
  .subst hu;rw[e,H4];omega
  .have:=s.le u;unfold qe KA;rw[Ij,ax λq=>hu q.symm,zV,ax hu];exact this
 .by_cases hki:k=i
  .subst hki;exact LE.refl _
  have hk:k<i:=by omega
  by_cases hu:(c6 l k).th=(c6 l i).th
  .refine (A k hk ?_).trans c;rw[hu,z];have:=Vy l (c6 l k).th (show k+1<=i from hk);rw[H4,hu]at this;omega
  .refine (s.dn k hk ?_).trans (aij _ _);unfold qe KA at h;rw[Ij,ax hu]at h;exact h
theorem I6 {w:WT} {l:Y ET} (c:TR (w,l)):∀i:Nat,i<=l.length->GS1 w l i (PY w (l.take i))
 |0,_=>⟨oH.zero (Gd.nil w l 0) w,λu=>by have:=oH.repl (P:=λx=>x.getD u 0=0) (by simp) w.2.2.2.2.1.length u;exact this⟩
 |i+1,h=>by
  have g:=I6 c i (by omega);obtain⟨z,s⟩:=Pm g;have ht:=(Fa c (show i<l.length by omega)).th;rw[I5 w (by omega)];refine ⟨oH.step Gd.jl (g.a.mono λx h=>h.succ) _ z,λu=>?_⟩;rw[ahs,qJ];by_cases hu:(c6 l i).th=u
  .subst hu;rw[aC ⟨rfl,ht⟩,s,H4];omega
  .rw[ax λq=>hu q.1,g.t u,zV,ax hu]
theorem H5 {w:WT} {l:Y ET} (a:TR (w,l)) {i:Nat} (h:i<l.length):(qe w l i).getD (c6 l i).th 0=(zV l (c6 l i).th i:Int)+1:=(Pm (I6 a i (by omega))).2
theorem abz {w:WT} {l:Y ET} (a:TR (w,l)) {i:Nat} (h:i<l.length):Gd w l (i+1) (qe w l i):=(Pm (I6 a i (by omega))).1
def Cr (w:WT) (l:Y ET) (k j:Nat):Prop:=(zV l (c6 l k).th k:Int)+1<=(qe w l j).getD (c6 l k).th 0
theorem Cr.le {w:WT} {l:Y ET} (a:TR (w,l)) {k j:Nat} (hk:k<=j) (hj:j<l.length) (h:Cr w l k j):LE (qe w l k) (qe w l j):=(abz a hj).dn k (by omega) h
theorem Cr.of {w:WT} {l:Y ET} (a:TR (w,l)) {k j:Nat} (hk:k<l.length) (h:LE (qe w l k) (qe w l j)):Cr w l k j:=by
 have:=h.2 (c6 l k).th;rw[H5 a hk]at this;exact this
theorem Cr.own {w:WT} {l:Y ET} (a:TR (w,l)) {k j:Nat} (hk:k<j) (hj:j<l.length) (h:(c6 l k).th=(c6 l j).th):Cr w l k j:=by
 unfold Cr;rw[h,H5 a hj];have:=Vy l (c6 l k).th (show k+1<=j from hk);rw[H4,h]at this;omega
theorem Cr.trans {w:WT} {l:Y ET} (a:TR (w,l)) {i j k:Nat} (hi:i<=j) (hj:j<=k) (hk:k<l.length) (h:Cr w l i j) (g:Cr w l j k):Cr w l i k:=Cr.of a (by omega) ((h.le a hi (by omega)).trans (g.le a hj hk))
def Q8 (r:η):Prop:=Hz r/\∀z∈r,0<=z/\z<4
def P8 (s:Y (Int×η)):Prop:=∀x∈s,Q8 x.2
theorem P8.get {s:Y (Int×η)} (h:P8 s) (o:Int):Q8 (aJ (T:=Az) s o).2:=by
 unfold aJ;rw[au];cases e:s[o.toNat]? with
 |none=>exact⟨trivial,λz a=>by cases a⟩
 |some x=>exact h x (aX e)
theorem P8.set {s:Y (Int×η)} (h:P8 s) (o a:Int) {r:η} (hr:Q8 r):P8 (cI s o (a,r)):=λx c=>by
 rcases CE c with c|rfl
 .exact h x c
 .exact hr
theorem Ch (p:Int->Bool):∀{l:η},Hz l->Hz (l.filter p)
 |[],_=>trivial
 |x::r,h=>by
  rw[List.filter_cons];split
  .exact⟨λy a=>h.1 y ((FF.1 a).1),Ch p h.2⟩
  .exact Ch p h.2
theorem P8.ite {c:Prop} [Decidable c] {a b:SY×Int} (q:P8 a.1.1) (hb:P8 b.1.1):P8 (if c then a else b).1.1:=by by_cases h:c<;>simp[h,q,hb]
theorem P8.ap {w:WT} {s:SY} (h:P8 s.1) {t:Int} (k o v:Int) (t0:0<=t) (q:t<4):P8 (rc w s t k o v).1.1:=by
 have ow:∀a b,P8 (owP s.1 a b):=λa b=>h.set a b (h.get a)
 have un:P8 (rdP s.1 o (xl (aJ (T:=Az) s.1 o).2 [t])):=h.set _ _ ⟨P9 _ _,λz c=>by
  rcases Ii.1 c with c|c
  .exact (h.get o).2 z c
  .rw[aI]at c;subst c;exact⟨t0,q⟩⟩
 have wt:P8 (rdP s.1 o (wo (aJ (T:=Az) s.1 o).2 t)):=h.set _ _ ⟨Ch _ (h.get o).1,λz c=>(h.get o).2 z (FF.1 c).1⟩;unfold rc;exact P8.ite h (P8.ite h (P8.ite (ow _ _) (P8.ite (ow _ _) (P8.ite un (P8.ite wt (P8.ite h (P8.ite h (P8.ite h (P8.ite h (P8.ite (ow _ _) (P8.ite (ow _ _) (P8.ite (P8.ite h h) (P8.ite h (P8.ite h (P8.ite h h)))))))))))))))
def iJ (w:WT) (l:Y ET):SN:=l.foldl (nxP w) (sn8 w)
theorem MB (w:WT) {l:Y ET} {i:Nat} (h:i<l.length):iJ w (l.take (i+1))=nxP w (iJ w (l.take i)) (eN l i):=by
 rw[ou (T:=tE) h];unfold iJ;rw[eD];rfl
structure K8 (w:WT) (l:List ET) (i:Nat) (s:SN):Prop where
 a:(s.1,s.2.1,s.2.2.1)=Ny w (l.take i)
 r:P8 s.1.1
 c:s.2.1.length=w.1.length
 f:s.2.2.1.length=w.2.2.2.1.length
 k:s.2.2.2.length=w.2.2.2.2.1.length
 n:CN (l.take i) s.2.2.2
theorem Wr {w:WT} {l:Y ET} (q:TR (w,l)):∀i:Nat,i<=l.length->K8 w l i (iJ w (l.take i))
 |0,_=>⟨rfl,λx A=>by rw[pJ A];exact⟨trivial,λz s=>by cases s⟩,by simp[iJ,ce0],by simp[iJ,fu0],by simp[iJ],λt t0 t1=>by
   have:(aB w.2.2.2.2.1.length (0:Int)).getD t.toNat 0=0:=by rw[au,ju];split<;>rfl
   exact this⟩
 |i+1,h=>by
  obtain⟨a,r,c,f,k,n⟩:=Wr q i (by omega);have sc:=q.sc (i:=i) (by omega);have hl:=q.len;have ht:=q.wb.t;dsimp only at hl ht;have en:=sc.en;have e1:=en.t1;have htk:=qg i l;rw[MB w (by omega)];refine ⟨?_,r.ap _ _ _ en.t0 (by omega),?_,?_,?_,?_⟩
  .rw[S4 w (by omega),<-a];rfl
  .unfold nxP YW;dsimp only;split
   .rw[bU];exact c
   .exact c
  .unfold nxP ZI;dsimp only;split
   .rw[bU];exact f
   .exact f
  .unfold nxP;rw[bU];exact k
  .have:=n.next (eN l i) en.t0 (by rw[k];exact e1) (by omega);rw[ou (T:=tE) (show i<l.length by omega)];exact this
theorem N0 {w:WT} {l:Y ET} (q:TR (w,l)) {i:Nat} (hi:i<l.length):fV (w,iJ w (l.take i),eN l i)=M (iJ w (l.take (i+1)),J):=by
 obtain⟨a,r,c,f,k,n⟩:=Wr q i (by omega);have sc:=q.sc hi;have z:=q.wx;have ht:=q.wb.t;have hls:=q.ls _ (JM hi);dsimp only at z ht hls;rw[MB w hi];rw[<- a]at sc;generalize iJ w (l.take i)=s at*
 generalize eN l i=e at*
 have en:=sc.en;have e1:=en.t1;have l3:w.2.1.length=3:=by rw[z.l];rfl
 have A:=n e.1 en.t0 (by rw[k];exact e1);have b1:=q.wb.c;have b4:=q.wb.f;have b3:=q.wb.d;dsimp only at b1 b4 b3;have Z:=en.e1;have U:=en.e2;have q3:=en.e3;dsimp only at Z U q3;refine anp (n:=4) w s e ⟨⟨by omega,by omega,λx L=>?_,by omega,by omega⟩,by omega,by omega,by omega⟩ (by omega) (by omega) ⟨c,f,k⟩ en ⟨sc.rd,sc.s1,sc.s2,sc.de,sc.fr,by rw[A];exact sc.nd,by rw[A];exact sc.nf,sc.va⟩ hls.1 hls.2 (λh=>?_) (by omega) r (by omega)
 .have:=Pw x.2 0 4 (r x L).1 (r x L).2;omega
 .have o1:=en.nm.lk (by omega);have o2:=en.nm.rw (by omega);generalize e.2.2.1=o at o1 o2;rw[z.l]at o1 o2;have:o=0\/o=1\/o=2:=by have:G1.length=3:=rfl;omega
  rcases this with rfl|rfl|rfl
  .cases o2
  .cases o2
  .rfl
abbrev fN (l:Y ET) (i:Nat) (t:Int):θ:=fl (l.take i) t
theorem OR {l:Y ET} {i:Nat} (h:i<l.length) {t:Int} (e:(eN l i).1=t):fN l (i+1) t=fN l i t++[tF (eN l i)]:=by
 unfold fN;rw[ou (T:=tE) h,uD,zD e]
theorem OT {l:Y ET} {i:Nat} (h:i<l.length) {t:Int} (e:¬(eN l i).1=t):fN l (i+1) t=fN l i t:=by
 unfold fN;rw[ou (T:=tE) h,uD,wL e,kc]
theorem HN {w:WT} {l:Y ET} (a:TR (w,l)) {i:Nat} (hi:i<l.length) {t:Int} (e:(eN l i).1=t):co (fN l i t,eN l i)=M J:=by
 have sc:=a.sc hi;have hls:=a.ls _ (JM hi);subst e;exact Y0 _ _ sc.rd1 sc.rd2 hls.1 hls.2
theorem OU (l:Y ET) (i:Nat) (t:Int):(fN l i t).length<=l.length:=dy (Xd _ _) (List.length_take_le' ..)
theorem adh {w:WT} {l:Y ET} (a:TR (w,l)) (hn:w.2.2.2.2.1.length=4):ep (w,l)=M (0,0):=by
 have hl:=a.len;dsimp only at hl;refine cD ?_;unfold ep jS aY bm bz cH eC kP bL fo lP qf bg bx bH bM aV cP aE cG;refine fX (fZ.2 (by dsimp only[ak];omega)) (aS (VW8 a.wx a.vl) (dh (aS (Cj a.wx) (bf (by show (cZ 0 (aN w.2.2.2.2.1.length)&&cZ (aN w.2.2.2.2.1.length) (aN w.2.2.2.2.1.length)&&bc (aQ (aN w.2.2.2.2.1.length)) 24&&decide ((aN w.2.2.2.2.1.length:Int)=4))=J;rw[hn];rfl) ?_))));refine io l.length (by omega) (λi x=>x=((i:Int),(w,l),iJ w (l.take i),fN l i 0,fN l i 1,fN l i 2,fN l i 3)) ?_ ?_ rfl
 .rintro i x hi rfl;have e1:=(a.sc hi).en.t1;have e0:=(a.sc hi).en.t0;have st:=N0 a hi;have fa:=λt=>OU l i t
  have rd:=λt=>HN a hi (t:=t)
  have own:=λt=>OR hi (t:=t)
  have oth:=λt=>OT hi (t:=t)
  refine dg ?_;refine cE (aT ?_);have ht:(eN l i).1=0\/(eN l i).1=1\/(eN l i).1=2\/(eN l i).1=3:=by omega
  have hg:aJ (T:=tE) l (i:Int)=eN l i:=rfl;dsimp only;rw[hg];generalize eN l i=e at*
  refine aS st ?_;obtain⟨(t:Int),e⟩:=e;dsimp only at ht;rcases ht with rfl|rfl|rfl|rfl
  .refine aU (λx=>x=(af,(w,l),iJ w (l.take i),(0,e),iJ w (l.take (i+1)),fN l i 0,fN l i 1,fN l i 2,fN l i 3)) ?_ ?_
   .simp only[aZ,bn,tf];exact aS (rd 0 rfl) (aj rfl)
   rintro x rfl;refine dh (aU (λx=>x=((w,l),iJ w (l.take i),iJ w (l.take (i+1)),fN l (i+1) 0,fN l (i+1) 1,fN l (i+1) 2,fN l (i+1) 3)) ?_ ?_)
   .simp only[aZ,bn,tf];rw[own 0 rfl,oth 1 (by show ¬(0:Int)=1;decide),oth 2 (by show ¬(0:Int)=2;decide),oth 3 (by show ¬(0:Int)=3;decide)];have:=fa 0;refine aK (λh=>bd (by simp;omega) (by omega) (aj ?_)) λh=>bd (by simp;omega) (by omega) (aj ?_)
    .have:tF (0,e)=J:=by unfold tF;rw[aO h];rfl
     rw[this]
    .have:tF (0,e)=decide (e.1=23):=by unfold tF;rw[bt h];rfl
     rw[this]
   rintro x rfl;exact aj (by rw[gD (by omega)])
  .refine aU (λx=>x=(af,(w,l),iJ w (l.take i),(1,e),iJ w (l.take (i+1)),fN l i 0,fN l i 1,fN l i 2,fN l i 3)) ?_ ?_
   .simp only[aZ,bn,tf];exact aS (rd 1 rfl) (aj rfl)
   rintro x rfl;refine dh (aU (λx=>x=((w,l),iJ w (l.take i),iJ w (l.take (i+1)),fN l (i+1) 0,fN l (i+1) 1,fN l (i+1) 2,fN l (i+1) 3)) ?_ ?_)
   .simp only[aZ,bn,tf];rw[own 1 rfl,oth 0 (by show ¬(1:Int)=0;decide),oth 2 (by show ¬(1:Int)=2;decide),oth 3 (by show ¬(1:Int)=3;decide)];have:=fa 1;refine aK (λh=>bd (by simp;omega) (by omega) (aj ?_)) λh=>bd (by simp;omega) (by omega) (aj ?_)
    .have:tF (1,e)=J:=by unfold tF;rw[aO h];rfl
     rw[this]
    .have:tF (1,e)=decide (e.1=23):=by unfold tF;rw[bt h];rfl
     rw[this]
   rintro x rfl;exact aj (by rw[gD (by omega)])
  .refine aU (λx=>x=(af,(w,l),iJ w (l.take i),(2,e),iJ w (l.take (i+1)),fN l i 0,fN l i 1,fN l i 2,fN l i 3)) ?_ ?_
   .simp only[aZ,bn,tf];exact aS (rd 2 rfl) (aj rfl)
   rintro x rfl;refine dh (aU (λx=>x=((w,l),iJ w (l.take i),iJ w (l.take (i+1)),fN l (i+1) 0,fN l (i+1) 1,fN l (i+1) 2,fN l (i+1) 3)) ?_ ?_)
   .simp only[aZ,bn,tf];rw[own 2 rfl,oth 0 (by show ¬(2:Int)=0;decide),oth 1 (by show ¬(2:Int)=1;decide),oth 3 (by show ¬(2:Int)=3;decide)];have:=fa 2;refine aK (λh=>bd (by simp;omega) (by omega) (aj ?_)) λh=>bd (by simp;omega) (by omega) (aj ?_)
    .have:tF (2,e)=J:=by unfold tF;rw[aO h];rfl
     rw[this]
    .have:tF (2,e)=decide (e.1=23):=by unfold tF;rw[bt h];rfl
     rw[this]
   rintro x rfl;exact aj (by rw[gD (by omega)])
  .refine aU (λx=>x=(af,(w,l),iJ w (l.take i),(3,e),iJ w (l.take (i+1)),fN l i 0,fN l i 1,fN l i 2,fN l i 3)) ?_ ?_
   .simp only[aZ,bn,tf];exact aS (rd 3 rfl) (aj rfl)
   rintro x rfl;refine dh (aU (λx=>x=((w,l),iJ w (l.take i),iJ w (l.take (i+1)),fN l (i+1) 0,fN l (i+1) 1,fN l (i+1) 2,fN l (i+1) 3)) ?_ ?_)
   .simp only[aZ,bn,tf];rw[own 3 rfl,oth 0 (by show ¬(3:Int)=0;decide),oth 1 (by show ¬(3:Int)=1;decide),oth 2 (by show ¬(3:Int)=2;decide)];have:=fa 3;refine aK (λh=>bd (by simp;omega) (by omega) (aj ?_)) λh=>bd (by simp;omega) (by omega) (aj ?_)
    .have:tF (3,e)=J:=by unfold tF;rw[aO h];rfl
     rw[this]
    .have:tF (3,e)=decide (e.1=23):=by unfold tF;rw[bt h];rfl
     rw[this]
   rintro x rfl;exact aj (by rw[gD (by omega)])
 .rintro x rfl;exact dc (aj rfl)
theorem FD {w:WT} {l:Y ET} (a:TR (w,l)) (hn:¬w.2.2.2.2.1.length=4):ep (w,l)=D:=by
 have hl:=a.len;dsimp only at hl;unfold ep jS aY bm bz cH eC kP bL fo lP qf bg bx bH bM aV cP aE cG;rw[show fJ 400 (aN (ai (w,l).2))=af from fZ.2 (by dsimp only[ak];omega)];simp only[aZ,bn,tf];rw[VW8 a.wx a.vl];simp only[aZ,bn,tf];rw[Cj a.wx];simp only[aZ,bn,tf];rw[show decide ((aN w.2.2.2.2.1.length:Int)=4)=af from bt (by dsimp only[ak];omega),Lf];rfl
theorem adi {w:WT} {l:Y ET} (a:TR (w,l)) (hn:w.2.2.2.2.1.length=3):dL (w,l)=M (0,0):=by
 have hl:=a.len;dsimp only at hl;refine cD ?_;unfold dL jT aY bm bz cH eC bL cY fo lP bg bx bH bM aV cP aE cG;refine fX (fZ.2 (by dsimp only[ak];omega)) (aS (VW8 a.wx a.vl) (dh (aS (Cj a.wx) (bf (by show (cZ 0 (aN w.2.2.2.2.1.length)&&cZ (aN w.2.2.2.2.1.length) (aN w.2.2.2.2.1.length)&&bc (aQ (aN w.2.2.2.2.1.length)) 24&&decide ((aN w.2.2.2.2.1.length:Int)=3))=J;rw[hn];rfl) ?_))));refine io l.length (by omega) (λi x=>x=((i:Int),(w,l),iJ w (l.take i),fN l i 0,fN l i 1,fN l i 2)) ?_ ?_ rfl
 .rintro i x hi rfl;have e1:=(a.sc hi).en.t1;have e0:=(a.sc hi).en.t0;have st:=N0 a hi;have fa:=λt=>OU l i t
  have rd:=λt=>HN a hi (t:=t)
  have own:=λt=>OR hi (t:=t)
  have oth:=λt=>OT hi (t:=t)
  refine dg ?_;refine cE (aT ?_);have ht:(eN l i).1=0\/(eN l i).1=1\/(eN l i).1=2:=by omega
  have hg:aJ (T:=tE) l (i:Int)=eN l i:=rfl;dsimp only;rw[hg];generalize eN l i=e at*
  refine aS st ?_;obtain⟨(t:Int),e⟩:=e;dsimp only at ht;rcases ht with rfl|rfl|rfl
  .refine aU (λx=>x=(af,(w,l),iJ w (l.take i),(0,e),iJ w (l.take (i+1)),fN l i 0,fN l i 1,fN l i 2)) ?_ ?_
   .simp only[aZ,bn,tf];exact aS (rd 0 rfl) (aj rfl)
   rintro x rfl;refine dh (aU (λx=>x=((w,l),iJ w (l.take i),iJ w (l.take (i+1)),fN l (i+1) 0,fN l (i+1) 1,fN l (i+1) 2)) ?_ ?_)
   .simp only[aZ,bn,tf];rw[own 0 rfl,oth 1 (by show ¬(0:Int)=1;decide),oth 2 (by show ¬(0:Int)=2;decide)];have:=fa 0;refine aK (λh=>bd (by simp;omega) (by omega) (aj ?_)) λh=>bd (by simp;omega) (by omega) (aj ?_)
    .have:tF (0,e)=J:=by unfold tF;rw[aO h];rfl
     rw[this]
    .have:tF (0,e)=decide (e.1=23):=by unfold tF;rw[bt h];rfl
     rw[this]
   rintro x rfl;exact aj (by rw[gD (by omega)])
  .refine aU (λx=>x=(af,(w,l),iJ w (l.take i),(1,e),iJ w (l.take (i+1)),fN l i 0,fN l i 1,fN l i 2)) ?_ ?_
   .simp only[aZ,bn,tf];exact aS (rd 1 rfl) (aj rfl)
   rintro x rfl;refine dh (aU (λx=>x=((w,l),iJ w (l.take i),iJ w (l.take (i+1)),fN l (i+1) 0,fN l (i+1) 1,fN l (i+1) 2)) ?_ ?_)
   .simp only[aZ,bn,tf];rw[own 1 rfl,oth 0 (by show ¬(1:Int)=0;decide),oth 2 (by show ¬(1:Int)=2;decide)];have:=fa 1;refine aK (λh=>bd (by simp;omega) (by omega) (aj ?_)) λh=>bd (by simp;omega) (by omega) (aj ?_)
    .have:tF (1,e)=J:=by unfold tF;rw[aO h];rfl
     rw[this]
    .have:tF (1,e)=decide (e.1=23):=by unfold tF;rw[bt h];rfl
     rw[this]
   rintro x rfl;exact aj (by rw[gD (by omega)])
  .refine aU (λx=>x=(af,(w,l),iJ w (l.take i),(2,e),iJ w (l.take (i+1)),fN l i 0,fN l i 1,fN l i 2)) ?_ ?_
   .simp only[aZ,bn,tf];exact aS (rd 2 rfl) (aj rfl)
   rintro x rfl;refine dh (aU (λx=>x=((w,l),iJ w (l.take i),iJ w (l.take (i+1)),fN l (i+1) 0,fN l (i+1) 1,fN l (i+1) 2)) ?_ ?_)
   .simp only[aZ,bn,tf];rw[own 2 rfl,oth 0 (by show ¬(2:Int)=0;decide),oth 1 (by show ¬(2:Int)=1;decide)];have:=fa 2;refine aK (λh=>bd (by simp;omega) (by omega) (aj ?_)) λh=>bd (by simp;omega) (by omega) (aj ?_)
    .have:tF (2,e)=J:=by unfold tF;rw[aO h];rfl
     rw[this]
    .have:tF (2,e)=decide (e.1=23):=by unfold tF;rw[bt h];rfl
     rw[this]
   rintro x rfl;exact aj (by rw[gD (by omega)])
 .rintro x rfl;exact dc (aj rfl)
theorem NJ {w:WT} {l:Y ET} (a:TR (w,l)) (hn:¬w.2.2.2.2.1.length=3):dL (w,l)=D:=by
 have hl:=a.len;dsimp only at hl;unfold dL jT aY bm bz cH eC bL cY fo lP bg bx bH bM aV cP aE cG;rw[show fJ 400 (aN (ai (w,l).2))=af from fZ.2 (by dsimp only[ak];omega)];simp only[aZ,bn,tf];rw[VW8 a.wx a.vl];simp only[aZ,bn,tf];rw[Cj a.wx];simp only[aZ,bn,tf];rw[show decide ((aN w.2.2.2.2.1.length:Int)=3)=af from bt (by dsimp only[ak];omega),Lf];rfl
theorem adk {w:WT} {l:Y ET} (a:TR (w,l)) (hn:w.2.2.2.2.1.length=2):dv (w,l)=M (0,0):=by
 have hl:=a.len;dsimp only at hl;refine cD ?_;unfold dv jU aY bm bz cH bL dx fo bg bx bH bM aV cP aE cG;refine fX (fZ.2 (by dsimp only[ak];omega)) (aS (VW8 a.wx a.vl) (dh (aS (Cj a.wx) (bf (by show (cZ 0 (aN w.2.2.2.2.1.length)&&cZ (aN w.2.2.2.2.1.length) (aN w.2.2.2.2.1.length)&&bc (aQ (aN w.2.2.2.2.1.length)) 24&&decide ((aN w.2.2.2.2.1.length:Int)=2))=J;rw[hn];rfl) ?_))));refine io l.length (by omega) (λi x=>x=((i:Int),(w,l),iJ w (l.take i),fN l i 0,fN l i 1)) ?_ ?_ rfl
 .rintro i x hi rfl;have e1:=(a.sc hi).en.t1;have e0:=(a.sc hi).en.t0;have st:=N0 a hi;have fa:=λt=>OU l i t
  have rd:=λt=>HN a hi (t:=t)
  have own:=λt=>OR hi (t:=t)
  have oth:=λt=>OT hi (t:=t)
  refine dg ?_;refine cE (aT ?_);have ht:(eN l i).1=0\/(eN l i).1=1:=by omega
  have hg:aJ (T:=tE) l (i:Int)=eN l i:=rfl;dsimp only;rw[hg];generalize eN l i=e at*
  refine aS st ?_;obtain⟨(t:Int),e⟩:=e;dsimp only at ht;rcases ht with rfl|rfl
  .refine aU (λx=>x=(af,(w,l),iJ w (l.take i),(0,e),iJ w (l.take (i+1)),fN l i 0,fN l i 1)) ?_ ?_
   .simp only[aZ,bn,tf];exact aS (rd 0 rfl) (aj rfl)
   rintro x rfl;refine dh (aU (λx=>x=((w,l),iJ w (l.take i),iJ w (l.take (i+1)),fN l (i+1) 0,fN l (i+1) 1)) ?_ ?_)
   .simp only[aZ,bn,tf];rw[own 0 rfl,oth 1 (by show ¬(0:Int)=1;decide)];have:=fa 0;refine aK (λh=>bd (by simp;omega) (by omega) (aj ?_)) λh=>bd (by simp;omega) (by omega) (aj ?_)
    .have:tF (0,e)=J:=by unfold tF;rw[aO h];rfl
     rw[this]
    .have:tF (0,e)=decide (e.1=23):=by unfold tF;rw[bt h];rfl
     rw[this]
   rintro x rfl;exact aj (by rw[gD (by omega)])
  .refine aU (λx=>x=(af,(w,l),iJ w (l.take i),(1,e),iJ w (l.take (i+1)),fN l i 0,fN l i 1)) ?_ ?_
   .simp only[aZ,bn,tf];exact aS (rd 1 rfl) (aj rfl)
   rintro x rfl;refine dh (aU (λx=>x=((w,l),iJ w (l.take i),iJ w (l.take (i+1)),fN l (i+1) 0,fN l (i+1) 1)) ?_ ?_)
   .simp only[aZ,bn,tf];rw[own 1 rfl,oth 0 (by show ¬(1:Int)=0;decide)];have:=fa 1;refine aK (λh=>bd (by simp;omega) (by omega) (aj ?_)) λh=>bd (by simp;omega) (by omega) (aj ?_)
    .have:tF (1,e)=J:=by unfold tF;rw[aO h];rfl
     rw[this]
    .have:tF (1,e)=decide (e.1=23):=by unfold tF;rw[bt h];rfl
     rw[this]
   rintro x rfl;exact aj (by rw[gD (by omega)])
 .rintro x rfl;exact dc (aj rfl)
theorem ZD {w:WT} {l:Y ET} (a:TR (w,l)) (hn:¬w.2.2.2.2.1.length=2):dv (w,l)=D:=by
 have hl:=a.len;dsimp only at hl;unfold dv jU aY bm bz cH bL dx fo bg bx bH bM aV cP aE cG;rw[show fJ 400 (aN (ai (w,l).2))=af from fZ.2 (by dsimp only[ak];omega)];simp only[aZ,bn,tf];rw[VW8 a.wx a.vl];simp only[aZ,bn,tf];rw[Cj a.wx];simp only[aZ,bn,tf];rw[show decide ((aN w.2.2.2.2.1.length:Int)=2)=af from bt (by dsimp only[ak];omega),Lf];rfl
theorem adl {w:WT} {l:Y ET} (a:TR (w,l)) (hn:w.2.2.2.2.1.length=1):ey (w,l)=M (0,0):=by
 have hl:=a.len;dsimp only at hl;refine cD ?_;unfold ey mb aY bm bz bL cY bg bx bH bM aV cP aE cG;refine fX (fZ.2 (by dsimp only[ak];omega)) (aS (VW8 a.wx a.vl) (dh (aS (Cj a.wx) (bf (by show (cZ 0 (aN w.2.2.2.2.1.length)&&cZ (aN w.2.2.2.2.1.length) (aN w.2.2.2.2.1.length)&&bc (aQ (aN w.2.2.2.2.1.length)) 24&&decide ((aN w.2.2.2.2.1.length:Int)=1))=J;rw[hn];rfl) ?_))));refine io l.length (by omega) (λi x=>x=((i:Int),(w,l),iJ w (l.take i),fN l i 0)) ?_ ?_ rfl
 .rintro i x hi rfl;have e1:=(a.sc hi).en.t1;have e0:=(a.sc hi).en.t0;have st:=N0 a hi;have fa:=λt=>OU l i t
  have rd:=λt=>HN a hi (t:=t)
  have own:=λt=>OR hi (t:=t)
  have oth:=λt=>OT hi (t:=t)
  refine dg ?_;refine cE (aT ?_);have ht:(eN l i).1=0:=by omega
  have hg:aJ (T:=tE) l (i:Int)=eN l i:=rfl;dsimp only;rw[hg];generalize eN l i=e at*
  refine aS st ?_;obtain⟨(t:Int),e⟩:=e;dsimp only at ht;subst ht
  .refine aU (λx=>x=(af,(w,l),iJ w (l.take i),(0,e),iJ w (l.take (i+1)),fN l i 0)) ?_ ?_
   .simp only[aZ,bn,tf];exact aS (rd 0 rfl) (aj rfl)
   rintro x rfl;refine dh (aU (λx=>x=((w,l),iJ w (l.take i),iJ w (l.take (i+1)),fN l (i+1) 0)) ?_ ?_)
   .simp only[aZ,bn,tf];rw[own 0 rfl];have:=fa 0;refine aK (λh=>bd (by simp;omega) (by omega) (aj ?_)) λh=>bd (by simp;omega) (by omega) (aj ?_)
    .have:tF (0,e)=J:=by unfold tF;rw[aO h];rfl
     rw[this]
    .have:tF (0,e)=decide (e.1=23):=by unfold tF;rw[bt h];rfl
     rw[this]
   rintro x rfl;exact aj (by rw[gD (by omega)])
 .rintro x rfl;exact dc (aj rfl)
theorem alm {w:WT} {l:Y ET} (a:TR (w,l)):mI (w,l)=M (0,0):=by
 have h1:=a.vl.t0;have c:=a.vl.t;dsimp only at h1 c;unfold mI;have:w.2.2.2.2.1.length=4\/w.2.2.2.2.1.length=3\/w.2.2.2.2.1.length=2\/w.2.2.2.2.1.length=1:=by omega
 rcases this with h|h|h|h
 .rw[adh a h];rfl
 .rw[FD a (by omega),adi a h];rfl
 .rw[FD a (by omega),NJ a (by omega),adk a h];rfl
 .rw[FD a (by omega),NJ a (by omega),ZD a (by omega),adl a h];rfl
theorem ZZ {w:WT} {l:Y ET} (a:TR (w,l)):pR w=M (HS.zero w).t:=by
 have wb:=a.wb;dsimp only at wb;exact act w (by have:=wb.c;unfold yM;omega) (by have:=wb.l;unfold yM;omega) (by have:=wb.f;unfold yM;omega) (by have:=wb.t;unfold yM;omega)
theorem ae7 {w:WT} {l:Y ET} (a:TR (w,l)) {i:Nat} (hi:i<l.length):sF (w,(PY w (l.take i)).t,eN l i)=M ((PY w (l.take (i+1))).t,qe w l i):=by
 have hl:=a.len;dsimp only at hl;have:=agf (Ov a i (by omega)).1 (by omega) (Fa a hi) (wM a hi);rw[I5 w hi];exact this
def tA {α:Type} (n:Nat) (f:Nat->α) (z:α) (i:Nat):Y α:=(dN n).map λk=>if k<i then f k else z
theorem vD {α:Type} (n:Nat) (f:Nat->α) (z:α) (i:Nat):(tA n f z i).length=n:=by simp[tA]
theorem Ik {α:Type} {n:Nat} {f:Nat->α} {z:α} {i:Nat} (h:i<n):(tA n f z i).set i (f i)=tA n f z (i+1):=by
 unfold tA;apply dk
 .simp
 intro k h1 h2;simp only[ia,bR,fP]at h1;rw[qV];simp only[mS,kL];by_cases e:i=k
 .subst e;rw[aC rfl,aC (by omega)]
 .rw[ax e];by_cases g:k<i
  .rw[aC g,aC (by omega)]
  .rw[ax g,ax (by omega)]
theorem HK {α:Type} (n:Nat) (f:Nat->α) (z:α):tA n f z 0=aB n z:=by unfold tA;simp[List.map_const']
theorem NX {α:Type} (n:Nat) (f:Nat->α) (z:α):tA n f z n=(dN n).map f:=mq λk hk=>by rw[aC (nN.1 hk)]
abbrev csN (w:WT) (l:Y ET):Y η:=(dN l.length).map (qe w l)
theorem afl {w:WT} {l:Y ET} {i:Nat} (h:i<l.length):(csN w l).getD i []=qe w l i:=by
 rw[au,ba,vW h];rfl
theorem Kn {w:WT} {l:Y ET} {i:Nat} (h:i<l.length):aJ (T:=.sl (.int .i64)) (csN w l) (i:Int)=qe w l i:=by rw[rN];exact afl h
theorem NI {w:WT} {l:Y ET} (a:TR (w,l)):nE (w,l)=M (csN w l,0):=by
 have hl:=a.len;dsimp only at hl;refine cD ?_;unfold nE xD aY bL ck bx iU bH bM aV cP aE cG;refine aS (alm a) (dh (aS (ZZ a) (cX (cX (dA (by dsimp only[ak];omega) (dA (by omega) (bd (by simp;omega) (by omega) ?_)))))));refine io l.length (by omega) (λi x=>x=((i:Int),(w,l),(PY w (l.take i)).t,tA l.length (qe w l) [] i)) ?_ ?_ ?_
 .rintro i x hi rfl;refine dg ?_;refine cE (aT ?_);refine aS (ae7 a hi) ?_;refine aR (by dsimp only;omega) (by dsimp only;rw[vD];omega) (aR (by dsimp only;omega) (by dsimp only;rw[vD];omega) (aj ?_));dsimp only;rw[gD (by omega),dY,Ik hi]
 .rintro x rfl;refine dc (aj ?_);dsimp only;rw[NX]
 .show _=_;rw[HK];rfl
def ve (x:Int×Int×Int×Int×Int×(η)×η):I (Bool):=
 (jn (bg x.2.1 3 (aE J) (aE (decide ((x.2.1:Int)=4)))) λa=>(M a))
theorem MQ (k j v:Int):∀m:Y ν,wz (K:=.int .i64) (V:=.int .i64) j (ED (K:=.int .i64) (V:=.int .i64) k v m)=if j=k then M v else wz (K:=.int .i64) (V:=.int .i64) j m
 |[]=>by
  show (if decide (j=k)=J then M v else D)=_;by_cases h:j=k<;>simp[h,wz]
 |(a,b)::r=>by
  have c:=MQ k j v r;show wz (K:=.int .i64) (V:=.int .i64) j (if decide (k=a)=J then (k,v)::r else (a,b)::ED (K:=.int .i64) (V:=.int .i64) k v r)=if j=k then M v else if decide (j=a)=J then M b else wz (K:=.int .i64) (V:=.int .i64) j r
  by_cases h:k=a
  .subst h;rw[aC (aO rfl)];show (if decide (j=k)=J then M v else wz (K:=.int .i64) (V:=.int .i64) j r)=_;by_cases g:j=k<;>simp[g]
  .rw[ax (by simpa using h)];show (if decide (j=a)=J then M b else wz (K:=.int .i64) (V:=.int .i64) j (ED (K:=.int .i64) (V:=.int .i64) k v r))=_;rw[c];by_cases g:j=a
   .subst g;rw[aC (aO rfl),ax λq=>h q.symm,aC (aO rfl)]
   .simp only[g,dj,ci,dP]
theorem MP (k j v d:Int) (m:Y ν):wy (K:=.int .i64) (V:=.int .i64) j (ED (K:=.int .i64) (V:=.int .i64) k v m) d=if j=k then v else wy (K:=.int .i64) (V:=.int .i64) j m d:=by
 unfold wy;rw[MQ];by_cases h:j=k<;>simp[h]
def ZJ (l:Y ET) (i:Nat):ν:=((zV l (c6 l i).th i:Int)+1,((c6 l i).th:Int))
theorem Sw (l:Y ET) (u:Nat):∀i,zV l u i<=i
 |0=>bP _
 |i+1=>by have:=Sw l u i;rw[zV];split<;>omega
theorem Yy {w:WT} {l:Y ET} (a:TR (w,l)):pB l=M ((dN l.length).map (ZJ l)):=by
 have hl:=a.len;dsimp only at hl;refine cD ?_;unfold pB xB ck bx bH bM aV cP aE cG;refine cX (cX (dA (by dsimp only[ak];omega) (dA (by omega) (bd (by simp;omega) (by omega) ?_))));refine io l.length (by omega) (λi x=>x.1=(i:Int)/\(∀u:Nat,wy (K:=.int .i64) (V:=.int .i64) (u:Int) x.2.1 0=(zV l u i:Int))/\x.2.2=tA l.length (ZJ l) (0,0) i) ?_ ?_ ⟨rfl,λu=>rfl,by rw[HK];rfl⟩
 .rintro i ⟨x,m,r⟩ hi ⟨e1,hm,e2⟩;dsimp only at e1 hm e2;subst e1;subst e2;refine dg ?_;refine cE (aT ?_);have et:=wM a hi;refine aR (by dsimp only;omega) (by dsimp only;rw[vD];omega) (aR (by dsimp only;omega) (by dsimp only;rw[vD];omega) (aj ?_));have hc:=Sw l (c6 l i).th i;have c:(aJ (T:=tE) l (i:Int)).1=((c6 l i).th:Int):=et.th;have s:bl .i64 (wy (K:=.int .i64) (V:=.int .i64) ((c6 l i).th:Int) m 0+1)=(zV l (c6 l i).th i:Int)+1:=by rw[hm];exact iI (by omega) (by omega)
  dsimp only;refine ⟨gD (by omega),λu=>?_,?_⟩
  .rw[c,s,MP,zV];by_cases q:(c6 l i).th=u
   .subst q;rw[aC rfl,aC rfl];rfl
   .rw[ax (by omega),ax q];exact hm u
  .rw[c,s,MP,aC rfl,dY];exact Ik (f:=ZJ l) hi
 .rintro⟨x,m,r⟩ ⟨e1,hm,e2⟩;dsimp only at e1 hm e2;subst e1;subst e2;refine dc (aj ?_);dsimp only;rw[NX]
theorem abp {l:Y ET} {i:Nat} (h:i<l.length):aJ (T:=.st (.pr (.int .i64) (.int .i64))) ((dN l.length).map (ZJ l)) (i:Int)=ZJ l i:=by
 rw[yJ,au,ba,vW h];rfl
theorem K_ (c:η) (a:Int) (u:Nat):eQ (c,a,(u:Int))=M (decide (a<=c.getD u 0)):=by
 unfold eQ;dsimp only;rw[xZ];rfl
def Ls (w:xc) (e:EV):Int×Bool:=if e.k=7\/e.k=11 then ((e.ob:Int),af) else if e.k=9 then ((e.ob:Int),J) else if e.k=16 then ((WS w.2.2.1 e.ob:Nat),af) else (-1,af)
def JC (c:Nat->η) (p:Nat->Bool):Nat->η
 |0=>[]
 |i+1=>if p i=J then jl (JC c p i) (c i) else JC c p i
theorem ad9 (c:Nat->η) (p:Nat->Bool):∀i,(∀k,k<i->p k=af)->JC c p i=[]
 |0,_=>rfl
 |i+1,h=>by rw[JC,h i (by omega),ax (by simp)];exact ad9 c p i λk hk=>h k (by omega)
theorem Ti {c:Nat->η} {p:Nat->Bool} {i:Nat} (h:p i=J):JC c p (i+1)=jl (JC c p i) (c i):=by rw[JC,aC h]
theorem FB {c:Nat->η} {p:Nat->Bool} {i:Nat} (h:p i=af):JC c p (i+1)=JC c p i:=by rw[JC,ax (by rw[h];simp)]
theorem amv (w:xc) (h:HS) (e:EV) (c:η):(jW w h e c).S=if e.k=20 then h.S.set e.ob c else h.S:=by
 unfold jW;simp only[];repeat' split
 all_goals first|rfl|omega
theorem amy (w:xc) (h:HS) (e:EV) (c:η):(jW w h e c).L=if (e.k=7\/e.k=11) then jat h.L e.ob c else if e.k=16 then jat h.L (WS w.2.2.1 e.ob) c else h.L:=by
 unfold jW;simp only[];repeat' split
 all_goals first|rfl|omega
theorem amw (w:xc) (h:HS) (e:EV) (c:η):(jW w h e c).R=if e.k=9 then jat h.R e.ob c else h.R:=by
 unfold jW;simp only[];repeat' split
 all_goals first|rfl|omega
theorem an0 (w:xc) (h:HS) (e:EV) (c:η):(jW w h e c).C=if e.k=4/\su w.1 e.ob=J then jat h.C e.ob c else h.C:=by
 unfold jW;simp only[];repeat' split
 all_goals first|rfl|omega|(rename_i h1 h2;exact bZ ⟨by assumption,by assumption⟩ h2)|(rename_i h1 h2;exact bZ h2.2 h1)|(rename_i h1;exact bZ h1.1 (by assumption))
theorem amz (w:xc) (h:HS) (e:EV) (c:η):(jW w h e c).F=if e.k=22 then jat h.F e.ob c else h.F:=by
 unfold jW;simp only[];repeat' split
 all_goals first|rfl|omega
theorem amt (w:xc) (h:HS) (e:EV) (c:η):(jW w h e c).X=if e.k=13 then jl h.X c else h.X:=by
 unfold jW;simp only[];repeat' split
 all_goals first|rfl|omega
theorem C4 (l:Y η) (i:Nat) (c:η) (o:Nat) (h:i<l.length):(jat l i c).getD o []=if i=o then jl (l.getD o []) c else l.getD o []:=by
 unfold jat;rw[qJ];by_cases e:i=o
 .subst e;rw[aC ⟨rfl,h⟩,aC rfl]
 .rw[ax λq=>e q.1,ax e]
abbrev pT (l:Y ET) (u k:Nat):Bool:=decide ((c6 l k).th=u)
abbrev pS (l:Y ET) (u k:Nat):Bool:=decide ((c6 l k).k=20/\(c6 l k).ob=u)
abbrev pL (w:WT) (l:Y ET) (x:Int×Bool) (k:Nat):Bool:=decide (Ls w (c6 l k)=x)
abbrev pC (w:WT) (l:Y ET) (o k:Nat):Bool:=decide ((c6 l k).k=4/\(c6 l k).ob=o/\su w.1 o=J)
abbrev pF (l:Y ET) (o k:Nat):Bool:=decide ((c6 l k).k=22/\(c6 l k).ob=o)
abbrev pX (l:Y ET) (k:Nat):Bool:=decide ((c6 l k).k=13)
structure IN (w:WT) (l:List ET) (i:Nat) (h:HS):Prop where
 T:∀u,h.T.getD u []=JC (qe w l) (pT l u) i
 S:∀u,h.S.getD u []=JC (qe w l) (pS l u) i
 L:∀o:Nat,h.L.getD o []=JC (qe w l) (pL w l ((o:Int),af)) i
 R:∀o:Nat,h.R.getD o []=JC (qe w l) (pL w l ((o:Int),J)) i
 C:∀o,h.C.getD o []=JC (qe w l) (pC w l o) i
 F:∀o,h.F.getD o []=JC (qe w l) (pF l o) i
 X:h.X=JC (qe w l) (pX l) i
theorem Z6 {w:xc} {e:EV} (h:e.k=7\/e.k=11):Ls w e=((e.ob:Int),af):=by unfold Ls;rw[aC h]
theorem Uc {w:xc} {e:EV} (h:e.k=9):Ls w e=((e.ob:Int),J):=by unfold Ls;rw[ax (by omega),aC h]
theorem WA {w:xc} {e:EV} (h:e.k=16):Ls w e=((WS w.2.2.1 e.ob:Int),af):=by unfold Ls;rw[ax (by omega),ax (by omega),aC h]
theorem aiu {w:xc} {e:EV} (h:¬(e.k=7\/e.k=11)) (h1:¬e.k=9) (h2:¬e.k=16):Ls w e=(-1,af):=by unfold Ls;rw[ax h,ax h1,ax h2]
theorem IN.zero (w:WT) (l:Y ET):IN w l 0 (HS.zero w):=
 have r:∀n:Nat,∀u,(aB n ([]:η)).getD u []=[]:=λn=>oH.repl (P:=λx=>x=[]) rfl n
 ⟨r _,r _,λ_=>r _ _,λ_=>r _ _,r _,r _,rfl⟩
theorem IN.step {w:WT} {l:Y ET} {i:Nat} {h:HS} (a:IN w l i h) (n:Int) (o:TK n h) (hh:h=PY w (l.take i)) (hi:i<l.length) (ok:EOK w h (c6 l i)) (s:(c6 l i).k=20->∀k,k<i->pS l (c6 l i).ob k=af):IN w l (i+1) (jW w h (c6 l i) (qe w l i)):=by
 have hcT:LE (h.T.getD (c6 l i).th []) (qe w l i):=by rw[hh];exact ahu w _ _
 have hc:En (n+1) (qe w l i):=by unfold qe;rw[<- hh];exact Pj o ok.th4
 refine ⟨λu=>?_,λu=>?_,λx=>?_,λx=>?_,λx=>?_,λx=>?_,?_⟩
 .rw[ahs,qJ];by_cases e:(c6 l i).th=u
  .rw[aC ⟨e,ok.th⟩,Ti (by simpa using e),<-a.T u,LE.jl (by rw[<- e];exact hcT)]
  .rw[ax λq=>e q.1,FB (by simpa using e)];exact a.T u
 .rw[amv];by_cases k:(c6 l i).k=20
  .rw[aC k,qJ];by_cases e:(c6 l i).ob=u
   .rw[aC ⟨e,by rw[o.lS];exact ok.sp (.inl k)⟩,Ti (by simp[k,e]),ad9 _ _ i (by rw[<- e];exact s k),aj0 hc]
   .rw[ax λq=>e q.1,FB (by simp[e])];exact a.S u
  .rw[ax k,FB (by simp[k])];exact a.S u
 .rw[amy];by_cases k:(c6 l i).k=7\/(c6 l i).k=11
  .rw[aC k,C4 _ _ _ _ (ok.lk (by omega))];by_cases e:(c6 l i).ob=x
   .rw[aC e,Ti (by simp[Z6 k,e]),<-a.L x]
   .rw[ax e,FB (by simp[Z6 k];omega)];exact a.L x
  rw[ax k];by_cases k2:(c6 l i).k=16
  .rw[aC k2,C4 _ _ _ _ (ok.cd (.inl k2)).2.2];by_cases e:WS w.2.2.1 (c6 l i).ob=x
   .rw[aC e,Ti (by simp[WA k2,e]),<-a.L x]
   .rw[ax e,FB (by simp[WA k2];omega)];exact a.L x
  rw[ax k2,FB]
  .exact a.L x
  .by_cases c:(c6 l i).k=9
   .simp[Uc c]
   .simp[aiu k c k2]
 .rw[amw];by_cases k:(c6 l i).k=9
  .rw[aC k,C4 _ _ _ _ (by rw[o.lR];exact ok.lk (by omega))];by_cases e:(c6 l i).ob=x
   .rw[aC e,Ti (by simp[Uc k,e]),<-a.R x]
   .rw[ax e,FB (by simp[Uc k];omega)];exact a.R x
  rw[ax k,FB]
  .exact a.R x
  .unfold pL Ls;repeat' split
   all_goals first|omega|simp
 .rw[an0];by_cases k:(c6 l i).k=4/\su w.1 (c6 l i).ob=J
  .rw[aC k,C4 _ _ _ _ (ok.ce (.inr k.1)).1];by_cases e:(c6 l i).ob=x
   .rw[aC e,Ti (by simp[k.1,e];rw[<- e];exact k.2),<-a.C x]
   .rw[ax e,FB (by simp[e])];exact a.C x
  .rw[ax k,FB]
   .exact a.C x
   .refine bt λq=>k ⟨q.1,by rw[q.2.1];exact q.2.2⟩
 .rw[amz];by_cases k:(c6 l i).k=22
  .rw[aC k,C4 _ _ _ _ (ok.fu (.inl k))];by_cases e:(c6 l i).ob=x
   .rw[aC e,Ti (by simp[k,e]),<-a.F x]
   .rw[ax e,FB (by simp[e])];exact a.F x
  .rw[ax k,FB (by simp[k])];exact a.F x
 .rw[amt];by_cases k:(c6 l i).k=13
  .rw[aC k,Ti (by simp[k]),<-a.X]
  .rw[ax k,FB (by simp[k])];exact a.X
abbrev gT (th:Y (Int×Int×Bool)) (u:Int):Int×Int×Bool:=aJ (T:=jH) th u
theorem E4 {T:Ty} (xs:Y T.den) (j k:Int) (x:T.den) (hj:0<=j) (hk:0<=k) (h2:k<xs.length):aJ (cI xs j x) k=if k=j then x else aJ xs k:=by
 by_cases h:j<xs.length
 .exact rM xs j k x hj h hk
 .rw[ax (by omega)];unfold aJ cI;rw[au,au,jZ,ax (by omega)]
theorem xm {th:Y (Int×Int×Bool)} {t u:Int} (s:Int) (t0:0<=t) (c:0<=u) (a:u<th.length):gT (yc th t s) u=if u=t then (s,(gT th u).2) else gT th u:=by
 unfold yc gT;rw[E4 _ _ _ _ t0 c a];split
 .rename_i h;subst h;rfl
 .rfl
theorem Xw {th:Y (Int×Int×Bool)} {t u:Int} (s:Int) (t0:0<=t) (c:0<=u) (a:u<th.length):gT (cdP th t s) u=if u=t then ((gT th u).1,s,(gT th u).2.2) else gT th u:=by
 unfold cdP gT;rw[E4 _ _ _ _ t0 c a];split
 .rename_i h;subst h;rfl
 .rfl
theorem XA {th:Y (Int×Int×Bool)} {t u:Int} (s:Bool) (t0:0<=t) (c:0<=u) (a:u<th.length):gT (atP th t s) u=if u=t then ((gT th u).1,(gT th u).2.1,s) else gT th u:=by
 unfold atP gT;rw[E4 _ _ _ _ t0 c a];split
 .rename_i h;subst h;rfl
 .rfl
theorem amh {u:Int} (c:0<=u):∀(l:η) (th:Y (Int×Int×Bool)),(∀x∈l,0<=x)->u<th.length->gT (CS th l) u=if u∈l then (4,(gT th u).2) else gT th u
 |[],th,_,_=>by simp[CS]
 |x::r,th,h,h2=>by
  have e:CS th (x::r)=CS (yc th x 4) r:=rfl;rw[e,amh c r _ (λy q=>h y (bV _ q)) (by unfold yc;rw[bU];exact h2),xm 4 (h x (cQ ..)) c h2];by_cases a:u=x
  .subst a;simp
  .simp[a]
structure TH1 (k o v t u:Int) (g g':Int×Int×Bool):Prop where
 a:u=t->g.1≠0/\g.1≠3/\(k=16->g'.1=3/\g'.2.1=o)/\(k≠16->g'.1≠0/\g'.1≠3/\g'.1≠4)/\(k≠1->k≠17->g.1=2)
 b:u≠t->k=18->v=u->g.1=3/\g.2.1=o/\g'.1=4/\g'.2.1=o
 c:u≠t->k=19->g.1=3->g.2.1=o->g'.1=4/\g'.2.1=o
 d:u≠t->¬(k=18/\v=u)->¬(k=19/\g.1=3/\g.2.1=o)->g'.2.1=g.2.1/\(g'.1=g.1\/k=20/\o=u/\g.1=0/\g'.1=1)
 e:k=20->o=u->g'.1≠0
theorem TH1.same {k o v t u:Int} {g g':Int×Int×Bool} (h2:k≠1->k≠17->u=t->g.1=2) (e1:g'.1=g.1) (e2:g'.2.1=g.2.1) (n1:k≠1) (z:k≠17) (L:k≠16) (c:k≠20) (s:k=18->v=u->u=t) (q:k=19->g.1=3->g.2.1=o->u=t):TH1 k o v t u g g':=
 ⟨λh=>(by have:=h2 n1 z h;rw[e1];omega),λh h1 a=>(h (s h1 a)).elim,λh h1 a A=>(h (q h1 a A)).elim,λ_ _ _=>⟨e2,.inl e1⟩,λh=>(c h).elim⟩
theorem ajl (w:WT) (s:SY) (t k o v:Int) (en:EN w s t k o) (rd:We w s t k o) (va:k=18->v=(rc w s t k o v).2) (u:Int) (c:0<=u) (a:u<s.2.2.2.length):TH1 k o v t u (gT s.2.2.2 u) (gT (rc w s t k o v).1.2.2.2 u):=by
 have t0:=en.t0;have r2:k≠1->k≠17->u=t->(gT s.2.2.2 u).1=2:=λh1 h2 L=>by subst L;exact rd.r h1 h2
 have nm:=en.nm;have k1:=nm.k1;have k2:=nm.k2;obtain⟨s1,s2,z,th⟩:=s;dsimp only at a r2;change TH1 k o v t u (gT th u) (gT (rc w (s1,s2,z,th) t k o v).1.2.2.2 u);by_cases a1:k=1
 .subst a1;have e:gT (rc w (s1,s2,z,th) t 1 o v).1.2.2.2 u=if u=t then (2,(gT th u).2) else gT th u:=xm 2 t0 c a
  rw[e];refine ⟨λh=>?_,λ_ h=>by omega,λ_ h=>by omega,λh _ _=>by rw[ax h];exact⟨rfl,.inl rfl⟩,λh=>by omega⟩;have b:=rd.b rfl;rw[aC h];subst h;have b:(gT th u).1=1:=b;dsimp only;omega
 by_cases a2:k=2
 .subst a2;have e:gT (rc w (s1,s2,z,th) t 2 o v).1.2.2.2 u=if u=t then (5,(gT th u).2) else gT th u:=xm 5 t0 c a
  rw[e];refine ⟨λh=>?_,λ_ h=>by omega,λ_ h=>by omega,λh _ _=>by rw[ax h];exact⟨rfl,.inl rfl⟩,λh=>by omega⟩;have:=r2 (by omega) (by omega) h;rw[aC h];dsimp only;omega
 by_cases a14:k=14\/k=15
 .have e:∃b,gT (rc w (s1,s2,z,th) t k o v).1.2.2.2 u=if u=t then ((gT th u).1,(gT th u).2.1,b) else gT th u:=by
   rcases a14 with rfl|rfl
   .exact⟨J,XA J t0 c a⟩
   .exact⟨af,XA af t0 c a⟩
  obtain⟨b,e⟩:=e;rw[e];refine TH1.same r2 (by split<;>rfl) (by split<;>rfl) a1 (by omega) (by omega) (by omega) (λh=>by omega) λh=>by omega
 by_cases a16:k=16
 .subst a16;have e:gT (rc w (s1,s2,z,th) t 16 o v).1.2.2.2 u=if u=t then (3,o,(gT th u).2.2) else gT th u:=by
   have:gT (cdP (yc th t 3) t o) u=_:=Xw o t0 c (by unfold yc;rw[bU];exact a);refine Eq.trans this ?_;rw[xm 3 t0 c a];split<;>rfl
  rw[e];refine ⟨λh=>?_,λ_ h=>by omega,λ_ h=>by omega,λh _ _=>by rw[ax h];exact⟨rfl,.inl rfl⟩,λh=>by omega⟩;have:=r2 (by omega) (by omega) h;rw[aC h];exact⟨by omega,by omega,λ_=>⟨rfl,rfl⟩,λh=>(h rfl).elim,λ_ _=>this⟩
 by_cases a17:k=17
 .subst a17;have e:gT (rc w (s1,s2,z,th) t 17 o v).1.2.2.2 u=if u=t then (2,0,(gT th u).2.2) else gT th u:=by
   have:gT (cdP (yc th t 2) t 0) u=_:=Xw 0 t0 c (by unfold yc;rw[bU];exact a);refine Eq.trans this ?_;rw[xm 2 t0 c a];split<;>rfl
  rw[e];refine ⟨λh=>?_,λ_ h=>by omega,λ_ h=>by omega,λh _ _=>by rw[ax h];exact⟨rfl,.inl rfl⟩,λh=>by omega⟩;have b:=(rd.wk rfl).1;rw[aC h];subst h;have b:(gT th u).1=4:=b;dsimp only;omega
 by_cases a18:k=18
 .subst a18;have va:=va rfl;rw[Fu]at va ⊢;dsimp only at va ⊢;by_cases hl:(wl th o th.length).length=0
  .rw[aC hl]at va ⊢;dsimp only at va ⊢;exact TH1.same r2 rfl rfl a1 (by omega) (by omega) (by omega) (λ_ h=>by omega) λh=>by omega
  .rw[ax hl]at va ⊢;dsimp only at va ⊢;have hv:v∈wl th o th.length:=by
    unfold Bu at va;rw[ax hl]at va;split at va
    .rename_i h;simpa using h
    .rw[va];exact bN (T:=.int .i64) (by omega) (by omega)
   rw[<- va];obtain⟨v0,v1,A⟩:=rj.1 hv;unfold Ie at A;simp only[al,bB]at A;rw[xm 4 v0 c a];refine ⟨λh=>?_,λh _ h2=>?_,λ_ h=>by omega,λh h2 _=>?_,λh=>by omega⟩
   .have:=r2 (by omega) (by omega) h;rw[ax (λq=>by rw[q]at this;exact bZ (this.symm.trans A.1) (by decide))];omega
   .subst h2;rw[aC rfl];exact⟨A.1,A.2,rfl,A.2⟩
   .rw[ax λq=>h2 ⟨rfl,q.symm⟩];exact⟨rfl,.inl rfl⟩
 by_cases Z:k=19
 .subst Z;have e:gT (rc w (s1,s2,z,th) t 19 o v).1.2.2.2 u=if u∈wl th o th.length then (4,(gT th u).2) else gT th u:=amh c _ th (λx hx=>(rj.1 hx).1) a
  rw[e];have hm:u∈wl th o th.length↔(gT th u).1=3/\(gT th u).2.1=o:=by
   rw[rj];unfold Ie;simp only[al,bB];exact⟨λh=>h.2.2,λh=>⟨c,a,h⟩⟩
  refine ⟨λh=>?_,λ_ h=>by omega,λh _ L h4=>?_,λh _ L=>?_,λh=>by omega⟩
  .have:=r2 (by omega) (by omega) h;rw[ax (λq=>by have:=(hm.1 q).1;omega)];omega
  .rw[aC (hm.2 ⟨L,h4⟩)];exact⟨rfl,h4⟩
  .rw[ax λq=>L ⟨rfl,hm.1 q⟩];exact⟨rfl,.inl rfl⟩
 by_cases U:k=20
 .subst U;have sp:=rd.sp rfl;have o0:=(nm.th (.inl rfl)).1;have e:gT (rc w (s1,s2,z,th) t 20 o v).1.2.2.2 u=if u=o then (1,(gT th u).2) else gT th u:=xm 1 o0 c a
  rw[e];refine ⟨λh=>?_,λ_ h=>by omega,λ_ h=>by omega,λh _ _=>?_,λ_ h=>?_⟩
  .have:=r2 (by omega) (by omega) h;rw[ax (λq=>sp.1 (by omega))];omega
  .by_cases q:u=o
   .subst q;rw[aC rfl];exact⟨rfl,.inr ⟨rfl,rfl,sp.2,rfl⟩⟩
   .rw[ax q];exact⟨rfl,.inl rfl⟩
  .rw[aC h.symm];show (1:Int)≠0;omega
 have e:(rc w (s1,s2,z,th) t k o v).1.2.2.2=th:=by
  unfold rc;rw[ax a1,ax a2];repeat' split
  all_goals first|rfl|omega
 rw[e];exact TH1.same r2 rfl rfl a1 a17 a16 U (λh=>(a18 h).elim) λh=>(Z h).elim
def pvN (l:Y ET) (u:Nat):Nat->Int
 |0=> -1
 |i+1=>if (c6 l i).th=u then (i:Int) else pvN l u i
def mtN (l:Y ET) (u i:Nat) (p:Int):Prop:=0<=p/\(c6 l p.toNat).k=16/\((c6 l i).k=18/\(c6 l i).va=u\/(c6 l i).k=19/\(c6 l i).ob=(c6 l p.toNat).ob)
def PR (l:Y ET) (u:Nat):Nat->Int
 |0=> -1
 |i+1=>if (c6 l i).th=u then -1 else if 0<=PR l u i then PR l u i else @ite _ (mtN l u i (pvN l u i)) (Classical.propDecidable _) (i:Int) (-1)
theorem ady {l:Y ET} {u i:Nat} (h:(c6 l i).th=u):PR l u (i+1)= -1:=by rw[PR,aC h]
theorem adz {l:Y ET} {u i:Nat} (h:¬(c6 l i).th=u) (g:0<=PR l u i):PR l u (i+1)=PR l u i:=by rw[PR,ax h,aC g]
theorem ae1 {l:Y ET} {u i:Nat} (h:¬(c6 l i).th=u) (g:PR l u i= -1) (m:mtN l u i (pvN l u i)):PR l u (i+1)=i:=by rw[PR,ax h,ax (by omega),aC m]
theorem ae0 {l:Y ET} {u i:Nat} (h:¬(c6 l i).th=u) (g:PR l u i= -1) (m:¬mtN l u i (pvN l u i)):PR l u (i+1)= -1:=by rw[PR,ax h,ax (by omega),ax m]
theorem F5 {α:Type} (l:Y α) (f:Nat->α->α) (u:Nat) (d:α) (h:u<l.length):(l.mapIdx f).getD u d=f u (l.getD u d):=by
 rw[au,Ef,ay h,au,ay h];rfl
theorem amu (w:xc) (h:HS) (e:EV) (c:η) (u:Nat) (hu:u<h.W.length) (A:h.N.length=h.W.length):(jW w h e c).W.getD u 0=if e.k=16/\e.th=u then (e.ob:Int) else if e.k=18/\e.va=u\/e.k=19/\h.W.getD u 0=e.ob then -1 else h.W.getD u 0:=by
 obtain⟨th,k,ob,va⟩:=e;dsimp only;by_cases a:k=16
 .subst a;have e:(jW w h ⟨th,16,ob,va⟩ c).W=h.W.set th ob:=rfl;rw[e,qJ];by_cases q:th=u
  .rw[aC ⟨q,by omega⟩,aC ⟨rfl,q⟩]
  .rw[ax λx=>q x.1,ax λx=>q x.2,ax (by omega)]
 rw[ax λx=>a x.1];by_cases z:k=18
 .subst z;have e:jW w h ⟨th,18,ob,va⟩ c=if 0<=va/\va<h.N.length then {h with T:=h.T.set th c,N:=h.N.set va.toNat c,W:=h.W.set va.toNat (-1)} else {h with T:=h.T.set th c}:=rfl
  rw[e];split
  .show (h.W.set va.toNat (-1)).getD u 0=_;rw[qJ];by_cases q:va=u
   .rw[aC ⟨by omega,by omega⟩,aC (.inl ⟨rfl,q⟩)]
   .rw[ax (by omega),ax (by omega)]
  .rw[ax (by omega)]
 by_cases s:k=19
 .subst s;have e:(jW w h ⟨th,19,ob,va⟩ c).W=h.W.mapIdx λu x=>if decide (h.W.getD u 0=(ob:Int))=J then -1 else x:=rfl
  rw[e,F5 _ _ _ _ hu];by_cases q:h.W.getD u 0=ob
  .rw[aC (aO q),aC (.inr ⟨rfl,q⟩)]
  .rw[ax (by simpa using q),ax (by omega)]
 rw[ax (by omega)];have e:(jW w h ⟨th,k,ob,va⟩ c).W=h.W:=by
  unfold jW;simp only[];repeat' split
  all_goals first|rfl|omega
 rw[e]
theorem amx (w:xc) (h:HS) (e:EV) (c:η) (u:Nat) (hu:u<h.N.length):(jW w h e c).N.getD u []=if e.k=18/\e.va=u\/e.k=19/\h.W.getD u 0=e.ob then c else h.N.getD u []:=by
 obtain⟨th,k,ob,va⟩:=e;dsimp only;by_cases s:k=18
 .subst s;have e:jW w h ⟨th,18,ob,va⟩ c=if 0<=va/\va<h.N.length then {h with T:=h.T.set th c,N:=h.N.set va.toNat c,W:=h.W.set va.toNat (-1)} else {h with T:=h.T.set th c}:=rfl
  rw[e];split
  .show (h.N.set va.toNat c).getD u []=_;rw[qJ];by_cases q:va=u
   .rw[aC ⟨by omega,by omega⟩,aC (.inl ⟨rfl,q⟩)]
   .rw[ax (by omega),ax (by omega)]
  .rw[ax (by omega)]
 by_cases a:k=19
 .subst a;have e:(jW w h ⟨th,19,ob,va⟩ c).N=h.N.mapIdx λu x=>if decide (h.W.getD u 0=(ob:Int))=J then c else x:=rfl
  rw[e,F5 _ _ _ _ hu];by_cases q:h.W.getD u 0=ob
  .rw[aC (aO q),aC (.inr ⟨rfl,q⟩)]
  .rw[ax (by simpa using q),ax (by omega)]
 rw[ax (by omega)];have e:(jW w h ⟨th,k,ob,va⟩ c).N=h.N:=by
  unfold jW;simp only[];repeat' split
  all_goals first|rfl|omega
 rw[e]
abbrev gN9 (w:WT) (l:Y ET) (i u:Nat):Int×Int×Bool:=gT (Ny w (l.take i)).1.2.2.2 (u:Int)
structure WI (w:WT) (l:List ET) (i:Nat) (h:HS) (u:Nat) (g:Int×Int×Bool):Prop where
 W:h.W.getD u 0=if g.1=3 then g.2.1 else -1
 p:g.1=3\/g.1=4->0<=pvN l u i/\(c6 l (pvN l u i).toNat).k=16/\((c6 l (pvN l u i).toNat).ob:Int)=g.2.1
 a:g.1=3->PR l u i= -1
 n:g.1=4->0<=PR l u i/\h.N.getD u []=qe w l (PR l u i).toNat
 s:g.1=0->∀k,k<i->pS l u k=af
theorem aiq:∀n,∀x∈XS n,x.1=0\/x.1=1
 |0,x,h=>by cases h
 |n+1,x,h=>by
  rcases bk.1 h with rfl|h
  .exact .inr rfl
  .rw[pJ h];exact .inl rfl
theorem WI.zero (w:WT) (l:Y ET) (u:Nat) (hu:u<w.2.2.2.2.1.length):WI w l 0 (HS.zero w) u (gN9 w l 0 u):=by
 have h1:(gN9 w l 0 u).1=0\/(gN9 w l 0 u).1=1:=aiq _ _ (bN (T:=jH) (xs:=XS w.2.2.2.2.1.length) (j:=(u:Int)) (by omega) (by rw[HJ];omega));have hW:(HS.zero w).W.getD u 0= -1:=by
  have:(aB w.2.2.2.2.1.length (-1:Int)).getD u 0= -1:=by rw[au,ju,aC hu];rfl
  exact this
 exact⟨by rw[hW,ax (by omega)],λh=>by omega,λh=>by omega,λh=>by omega,λ_ k hk=>by omega⟩
theorem WI.step {w:WT} {l:Y ET} {i:Nat} {h:HS} {u:Nat} (a:WI w l i h u (gN9 w l i u)) (hi:i<l.length) (sc:SCx w (l.take i) (Ny w (l.take i)).1 (Ny w (l.take i)).2.1 (Ny w (l.take i)).2.2 (eN l i)) (et:EvT (c6 l i) (eN l i)) (hu:u<w.2.2.2.2.1.length) (h1:h.W.length=w.2.2.2.2.1.length) (h2:h.N.length=w.2.2.2.2.1.length):WI w l (i+1) (jW w h (c6 l i) (qe w l i)) u (gN9 w l (i+1) u):=by
 have en:=sc.en;have eg:gN9 w l (i+1) u=gT (rc w (Ny w (l.take i)).1 (eN l i).1 (eN l i).2.1 (eN l i).2.2.1 (eN l i).2.2.2.1).1.2.2.2 (u:Int):=by unfold gN9;rw[S4 w hi]
 have T1:TH1 (eN l i).2.1 (eN l i).2.2.1 (eN l i).2.2.2.1 (eN l i).1 (u:Int) (gN9 w l i u) (gN9 w l (i+1) u):=by
  rw[eg];exact ajl w (Ny w (l.take i)).1 (eN l i).1 (eN l i).2.1 (eN l i).2.2.1 (eN l i).2.2.2.1 en sc.rd (λh=>sc.va.el (by omega) (by omega) (by omega) (by omega) (by omega)) (u:Int) (by omega) (by rw[en.e3];omega)
 clear eg;have eW:=amu w h (c6 l i) (qe w l i) u (by omega) (by omega);have eN9:=amx w h (c6 l i) (qe w l i) u (by omega);have qt:=et.th;have Z:=et.k;have qv:=et.va;have U:(c6 l i).k=16\/(c6 l i).k=19\/(c6 l i).k=20->(eN l i).2.2.1=((c6 l i).ob:Int):=λh=>et.ob (by rcases h with h|h|h<;>rw[h]<;>decide)
 have pv':pvN l u (i+1)=if (c6 l i).th=u then (i:Int) else pvN l u i:=rfl
 have ps:pS l u i=decide ((c6 l i).k=20/\(c6 l i).ob=u):=rfl;clear en sc;obtain⟨aW,ap,aa,an,as'⟩:=a;obtain⟨ta,tb,tc,td,te⟩:=T1;generalize gN9 w l (i+1) u=g' at*
 generalize gN9 w l i u=g at*
 by_cases c:(c6 l i).th=u
 .obtain⟨b1,b2,b3,b4,_⟩:=ta (by rw[qt,c]);have w0:PR l u (i+1)= -1:=ady c;have hW':h.W.getD u 0= -1:=by rw[aW,ax b2]
  by_cases s:(c6 l i).k=16
  .obtain⟨c1,c2⟩:=b3 (by rw[Z,s];rfl);refine ⟨by rw[eW,aC ⟨s,c⟩,aC c1,c2,U (.inl s)],λ_=>?_,λ_=>w0,λh=>by omega,λh=>by omega⟩;rw[pv',aC c,bY];exact⟨by omega,s,by rw[c2,U (.inl s)]⟩
  .obtain⟨c1,c2,c3⟩:=b4 (by rw[Z];omega);refine ⟨?_,λh=>by omega,λh=>by omega,λh=>by omega,λh=>by omega⟩;rw[eW,ax (λx=>s x.1),ax c2,hW'];split<;>rfl
 have hut:(u:Int)≠(eN l i).1:=by rw[qt];omega
 rw[ax c]at pv';rw[ax (λx=>c x.2)]at eW;by_cases A:(c6 l i).k=18/\(c6 l i).va=u\/(c6 l i).k=19/\h.W.getD u 0=(c6 l i).ob
 .have B:g.1=3/\g'.1=4/\g'.2.1=g.2.1/\((c6 l i).k=19->g.2.1=(c6 l i).ob):=by
   rcases A with ⟨k,v⟩|⟨k,v⟩
   .obtain⟨L,z,d3,d4⟩:=tb hut (by rw[Z,k];rfl) (by rw[qv,v]);exact⟨L,d3,by rw[z,d4],λq=>by omega⟩
   .have g3:g.1=3:=by
     rw[aW]at v;split at v
     .assumption
     .omega
    rw[aW,aC g3]at v;obtain⟨L,z⟩:=tc hut (by rw[Z,k];rfl) g3 (by rw[v,U (.inr (.inl k))]);exact⟨g3,L,by rw[z,v,U (.inr (.inl k))],λ_=>v⟩
  obtain⟨L,z,d3,d4⟩:=B;obtain⟨p1,p2,p3⟩:=ap (.inl L);have hw:=ae1 c (aa L) ⟨p1,p2,by
   rcases A with A|⟨k,_⟩
   .exact .inl A
   .exact .inr ⟨k,by have:=d4 k;omega⟩⟩
  rw[aC A]at eW eN9;refine ⟨by rw[eW,ax (by omega)],λ_=>by rw[pv',d3];exact⟨p1,p2,p3⟩,λh=>by omega,λ_=>by rw[hw,bY];exact⟨by omega,eN9⟩,λh=>by omega⟩
 rw[ax A]at eW eN9;have nv:¬((eN l i).2.1=18/\(eN l i).2.2.2.1=(u:Int)):=λq=>A (.inl ⟨by omega,by rw[<- qv];exact q.2⟩)
 have nw:¬((eN l i).2.1=19/\g.1=3/\g.2.1=(eN l i).2.2.1):=λq=>A (.inr ⟨by omega,by rw[aW,aC q.2.1,q.2.2,U (.inr (.inl (by omega)))]⟩)
 obtain⟨L,z⟩:=td hut nv nw;have nm:g.1=3->¬mtN l u i (pvN l u i):=λq ⟨_,_,m⟩=>by
  obtain⟨_,_,p3⟩:=ap (.inl q);rcases m with m|⟨k,m⟩
  .exact A (.inl m)
  .exact nw ⟨by omega,q,by rw[U (.inr (.inl k)),m,p3]⟩
 refine ⟨?_,λq=>?_,λq=>?_,λq=>?_,λq k hk=>?_⟩
 .rw[eW,aW,L];rcases z with z|z
  .rw[z]
  .rw[ax (by omega),ax (by omega)]
 .rw[pv',L];exact ap (by omega)
 .have q:g.1=3:=by omega
  exact ae0 c (aa q) (nm q)
 .have q:g.1=4:=by omega
  obtain⟨n1,n2⟩:=an q;rw[adz c n1,eN9];exact⟨n1,n2⟩
 .have q0:g.1=0:=by omega
  by_cases e:k=i
  .subst e;rw[ps];exact bt λr=>te (by rw[Z,r.1];rfl) (by rw[U (.inr (.inr r.1)),r.2]) q
  .exact as' q0 k (by omega)
theorem ZV {w:WT} {l:Y ET} (c:TR (w,l)) {a b:Nat} (q:a<l.length) (hb:b<l.length):(eN l a).1=(eN l b).1↔(c6 l a).th=(c6 l b).th:=by
 have:=(wM c q).th;have:=(wM c hb).th;omega
theorem ZH (x:ET):ve x=M (decide (x.2.1=3\/x.2.1=4)):=by
 refine cD ?_;unfold ve bg aE;refine gF (aK (λh=>aj (aj ?_)) λh=>aj (aj ?_))
 .exact (aO (.inl h)).symm
 .by_cases q:x.2.1=4<;>simp[h,q]
def S5 (e:EV):Bool:=decide (e.k=3\/e.k=4)
theorem TD {w:WT} {l:Y ET} (a:TR (w,l)) {j:Nat} (hj:j<l.length):ve (eN l j)=M (S5 (c6 l j)):=by
 rw[ZH,(wM a hj).k];unfold S5;congr 1;rw[decide_eq_decide];omega
def fL (p:Nat->Bool) (i:Nat):η:=((dN i).filter p).map aN
theorem fk {φ:PM} {O:Nat->Prop} {w:World} {v u:Value} (h:cN φ O w (.f (.raw v)) u):u=v:=by
 cases h with
 |f h=>cases h;rfl
theorem ua (h:HF) (nw:HF):eV h [] nw=h:=by funext t;simp[eV]
theorem GW:∀{l:ξ},KE l=J->∀v∈l,v.oneCell'=J
 |[],_,v,hv=>by cases hv
 |x::r,h,v,hv=>by
  simp only[KE,al]at h;rcases bk.1 hv with rfl|hv
  .exact h.1
  .exact GW h.2 v hv
theorem Vw {φ:PM} {O:Nat->Prop} {w:World} (v:Value):cN φ O w (Fm v) v:=by
 unfold Fm;split
 .rename_i vs;split
  .rename_i h1;refine cN.agg (vs:=vs.toList) (by simp) (λx a=>?_) (λj x v a hv=>?_)
   .obtain⟨u,hu,rfl⟩:=di.1 a;exact GW h1 u hu
   .rw[ba,hv]at a;simp only[cj,ah]at a;subst a;exact .f (.raw _)
  .exact .f (.raw _)
 .exact .f (.raw _)
theorem tO {φ:PM} {E:Nat->Prop} {h':HF} {w:World} {e:Ab} {a:Act} {xs:Array Operand} (hrep:re φ E h' w) (h:∀t,.tmp t∈xs->∀y,e.get t=M y->cN φ (tot E φ h') w y (a.tmps.getD t undef)) {x:Operand} {y:AV} (q:x∈xs) (c:mT e x=M y):cN φ (tot E φ h') w y (a.eval x):=by
 cases x with
 |tmp t=>exact h t q y c
 |const v=>simp only[mT,ah]at c;subst c;exact Vw v
 |func g=>
  simp only[mT,ah]at c;subst c;exact cN.clo (vs:=[]) (g:=g) (cells:=[]) rfl (by intro j x v q;simp at q)
 |global g=>
  simp only[mT]at c;cases hg:G g with
  |none=>rw[hg]at c;cases c
  |some cells=>rw[hg]at c;simp only[ah]at c;subst c;exact .f (hrep.gl g cells hg)
abbrev Wd (φ:PM) (E:Nat->Prop) (h':HF) (w:World) (a:Act) (e:Ab) (o:Oper):Prop:=∀x y,x∈o.op.operands->mT e x=M y->cN φ (tot E φ h') w y (a.eval x)
theorem gP.reads {P:Program} {o:Oper} {e:Ab} {h:HF} {val:AV} {rd:ι} {nw:HF}
 (hv:∀(φ:PM) (E:Nat->Prop) (h':HF) (w:World) (a:Act),(∀i∈rd,h' i=h i)->Wd φ E h' w a e o->re φ E h' w->
   ∃v,(execOp a.eval o).run P w= .ok (.value v) w/\cN φ (tot E φ h') w val v):gP P o e.get h ⟨val,rd,[],nw,[]⟩:=by
 intro φ E h' w a h1 h2 z c A;obtain⟨v,r,rel⟩:=hv φ E h' w a h1 (λx y s q=>tO c z s q) c;unfold HC;rw[r];refine ⟨v,φ,rfl,?_,λ_ _ h=>.inl h,?_,?_⟩<;>rw[ua]
 .exact ji.refl _ _ _
 .exact c
 .exact rel
theorem dC {x:AV} {R:Ck} (h:rv x=M R):R=⟨x,[],[],[],[]⟩:=by simp only[rv,ah]at h;exact h.symm
section pure
variable {P:Program} {o:Oper} {e:Ab} {h:oq} {nx:Nat} {R:Ck}
theorem anb {x:Operand} (c:o.op= .move x\/o.op= .assign x) (q:eL (.mv x) e h nx=M R):gP P o e.get h.get R.eff:=by
 simp only[eL]at q;split at q
 .rename_i v hv;rw[dC q];exact gP.reads λφ E h' w a _ hop _=>⟨a.eval x,by unfold execOp;rcases c with c|c<;>rw[c]<;>rfl,hop x v (by rcases c with c|c<;>rw[c]<;>simp[Op.operands]) hv⟩
 .cases q
theorem ajw {c x y:Operand} (s:o.op= .pick c x y) (q:eL (.pick c x y) e h nx=M R):gP P o e.get h.get R.eff:=by
 simp only[eL]at q;split at q
 .rename_i t hc;split at q
  .rename_i v hv;rw[dC q];refine gP.reads λφ E h' w a _ hop _=>?_
   have hcv:=fk (hop c _ (by rw[s];simp[Op.operands]) hc);refine ⟨a.eval (if t then x else y),?_,hop _ v (by rw[s];cases t<;>simp[Op.operands]) hv⟩;unfold execOp;rw[s];simp only[hcv];cases t<;>rfl
  .cases q
 .cases q
theorem ajx {x:Operand} (c:o.op= .nilCheck x) (q:eL (.nilc x) e h nx=M R):gP P o e.get h.get R.eff:=by
 simp only[eL]at q;split at q
 .rename_i id off A;rw[dC q];refine gP.reads λφ E h' w a _ hop _=>?_
  have h1:=hop x _ (by rw[c];simp[Op.operands]) A;generalize s:a.eval x=z at h1;cases h1 with
  |ptr hφ=>exact⟨_,by unfold execOp;rw[c];simp only[s];rfl,.ptr hφ⟩
 .rename_i cells off A;rw[dC q];refine gP.reads λφ E h' w a _ hop _=>?_
  have h1:=hop x _ (by rw[c];simp[Op.operands]) A;generalize s:a.eval x=z at h1;cases h1 with
  |f h1=>
   have h2:=h1;cases h2 with
   |ptr _ _ b base us hO hb hcl hu hr=>exact⟨_,by unfold execOp;rw[c];simp only[s];rfl,.f h1⟩
 .rename_i g cap A;rw[dC q];refine gP.reads λφ E h' w a _ hop _=>?_
  have h1:=hop x _ (by rw[c];simp[Op.operands]) A;generalize s:a.eval x=z at h1;cases h1 with
  |clo hl hr=>exact⟨_,by unfold execOp;rw[c];simp only[s];rfl,.clo hl hr⟩
 .cases q
theorem an9 {x:Operand} {t:TypeId} (q:o.op= .unOp .not t x) (c:eL (.not x) e h nx=M R):gP P o e.get h.get R.eff:=by
 simp only[eL]at c;split at c
 .rename_i b s;rw[dC c];refine gP.reads λφ E h' w a _ hop _=>?_
  have h1:=fk (hop x _ (by rw[q];simp[Op.operands]) s);exact⟨_,by unfold execOp;rw[q];simp only[h1];rfl,.f (.raw _)⟩
 .cases c
theorem yS (k:IntKind) (n:Int):bl k n=k.wrap n:=by
 rw[HH];unfold Mu;split
 .split
  .rename_i h;simp only[cZ,al,bB]at h;have:o6 .i64 n=if n%18446744073709551616≥9223372036854775808 then n%18446744073709551616-18446744073709551616 else n%18446744073709551616:=by
    simp[o6,IntKind.bits,IntKind.signed]
   rw[this];split<;>omega
  .rfl
 .split
  .rename_i h;simp only[cZ,al,bB]at h;have:o6 .u8 n=n%256:=by
    simp[o6,IntKind.bits,IntKind.signed]
   rw[this];omega
  .rfl
 .rfl
theorem ak5 {x:Operand} {s d:TypeId} {k k':IntKind} (q:o.op= .convert s d x) (hs:P.underlying s=M (.int k')) (hd:P.underlying d=M (.int k)) (c:eL (.conv k x) e h nx=M R):gP P o e.get h.get R.eff:=by
 simp only[eL]at c;split at c
 .rename_i A n z;rw[dC c];refine gP.reads λφ E h' w a _ hop _=>?_
  have h1:=fk (hop x _ (by rw[q];simp[Op.operands]) z);refine ⟨_,?_,.f (.raw _)⟩;unfold execOp;rw[q];simp[h1,convert,run_underlying hs,run_underlying hd,Conv.intToInt,yS]
 .cases c
theorem Pu (a:ByteArray):a.toList=a.data.toList:=by
 first|exact ByteArray.toList_eq a|simp[ByteArray.toList]|rfl
theorem Z4 {op:BinOp} {t:TypeId} {u v r:Value} (hr:tP op u v=M r) (x y:Operand) (w:World):
 (do eqGuard op t x y u v;binOp op t u v:Sem Value).run P w= .ok r w:=by
 unfold tP at hr;split at hr
 .rename_i k a k' b;split at hr
  .rename_i hk;have c:k=k':=by simpa using hk
   subst c;split at hr<;>first|(simp only[ah]at hr;subst hr;simp[eqGuard,binOp,Op.intCmp,Op.intArith,yS,cZ,fJ];done)|(split at hr<;>first|(cases hr;done)|(rename_i hb;simp only[ah]at hr;subst hr;simp[eqGuard,binOp,Op.intDiv,yS,show b≠0 from by simpa using hb];done))|(cases hr;done)
  .cases hr
 .rename_i a b;split at hr<;>first|(simp only[ah]at hr;subst hr;simp[eqGuard,binOp,Op.stringOp,sk,Pu];done)|(cases hr;done)
 .cases hr
theorem ahf {s:Sem Value} {r:Value} {w w':World} (hs:s.run P w= .ok r w'):(do let x<-s;pure (Next.value x):Sem Next).run P w= .ok (.value r) w':=by
 simp[hs]
theorem ai8 {op:BinOp} {x y:Operand} {t t':TypeId} (q:o.op= .binOp op t x y t') (c:eL (.bin op x y) e h nx=M R):gP P o e.get h.get R.eff:=by
 simp only[eL]at c;split at c
 .rename_i u v z s;split at c
  .rename_i r hr;rw[dC c];refine gP.reads λφ E h' w a _ hop _=>?_
   have h1:=fk (hop x _ (by rw[q];simp[Op.operands]) z);have h2:=fk (hop y _ (by rw[q];simp[Op.operands]) s);refine ⟨r,?_,.f (.raw _)⟩;unfold execOp;rw[q];simp only[h1,h2];exact ahf (Z4 (P:=P) (t:=t) hr x y w)
  .cases c
 .cases c
theorem U5 {t:TypeId} (hu:P.underlying t=M .bool) (u v:Bool) (w:World):(Op.equal t (.bool u) (.bool v)).run P w= .ok (u==v) w:=by
 have key:∀d,(Op.equalIn (d+1) t (.bool u) (.bool v)).run P w= .ok (u==v) w:=λd=>by simp[Op.equalIn,run_underlying hu]
 exact key 9999
theorem Rz {t el:TypeId} (hu:P.underlying t=M (.slice el)) (A:I Addr) (n c:Nat) (w:World):(Op.equal t (.slice A n c) (.slice D 0 0)).run P w= .ok A.isNone w:=by
 have key:∀d,(Op.equalIn (d+1) t (.slice A n c) (.slice D 0 0)).run P w= .ok A.isNone w:=λd=>by cases A<;>simp[Op.equalIn,run_underlying hu]
 exact key 9999
theorem ai7 {neg:Bool} {op:BinOp} {x y:Operand} {t t':TypeId} (q:o.op= .binOp op t x y t') (hop:op=if neg then .neq else .eql) (hu:P.underlying t=M .bool) (c:eL (.eqb neg x y) e h nx=M R):gP P o e.get h.get R.eff:=by
 simp only[eL]at c;split at c
 .rename_i u v z s;rw[dC c];refine gP.reads λφ E h' w a _ hp _=>?_
  have h1:=fk (hp x _ (by rw[q];simp[Op.operands]) z);have h2:=fk (hp y _ (by rw[q];simp[Op.operands]) s);refine ⟨_,?_,.f (.raw _)⟩;unfold execOp;rw[q];simp only[h1,h2];subst hop;cases neg<;>simp[eqGuard,binOp,U5 hu]
 .cases c
theorem XI {neg:Bool} {op:BinOp} {x y:Operand} {t t' el:TypeId} (U:o.op= .binOp op t x y t') (hop:op=if neg then .neq else .eql) (Z:y= .const (.slice D 0 0)) (hu:P.underlying t=M (.slice el)) (s:eL (.isnil neg x) e h nx=M R):gP P o e.get h.get R.eff:=by
 have key:∀(v:Value) (w:World) (ρ:Operand->Value) (A:I Addr) (n c:Nat),ρ x= .slice A n c->ρ y= .slice D 0 0->(execOp ρ o).run P w= .ok (.value (.bool (A.isNone !=neg))) w:=by
  intro v w ρ A n c h1 h2;unfold execOp;rw[U];simp only[h1,h2];subst hop;cases neg<;>simp[eqGuard,binOp,Rz hu]
 have hyv:∀a:Act,a.eval y= .slice D 0 0:=λa=>by rw[Z];rfl
 simp only[eL]at s;split at s
 .rename_i id sz n q;rw[dC s];refine gP.reads λφ E h' w a _ hp _=>?_
  have h1:=hp x _ (by rw[U];simp[Op.operands]) q;generalize L:a.eval x=z at h1;cases h1 with
  |row hφ hn hc hs=>exact⟨_,key (.bool J) w a.eval _ _ _ L (hyv a),by simpa[raw] using cN.f (.raw _)⟩
 .rename_i id off n q;rw[dC s];refine gP.reads λφ E h' w a _ hp _=>?_
  have h1:=hp x _ (by rw[U];simp[Op.operands]) q;generalize L:a.eval x=z at h1;cases h1 with
  |sl hφ hn hc=>exact⟨_,key (.bool J) w a.eval _ _ _ L (hyv a),by simpa[raw] using cN.f (.raw _)⟩
 .rename_i cells n q;rw[dC s];refine gP.reads λφ E h' w a _ hp _=>?_
  have h1:=hp x _ (by rw[U];simp[Op.operands]) q;generalize L:a.eval x=z at h1;cases h1 with
  |f h1=>
   cases h1 with
   |sl=>exact⟨_,key (.bool J) w a.eval _ _ _ L (hyv a),by simpa[raw] using cN.f (.raw _)⟩
 .rename_i cells q;rw[dC s];refine gP.reads λφ E h' w a _ hp _=>?_
  have h1:=hp x _ (by rw[U];simp[Op.operands]) q;generalize L:a.eval x=z at h1;cases h1 with
  |f h1=>
   cases h1 with
   |nil=>exact⟨_,key (.bool J) w a.eval _ _ _ L (hyv a),.anyb⟩
   |sl=>exact⟨_,key (.bool J) w a.eval _ _ _ L (hyv a),.anyb⟩
 .rename_i q;rw[dC s];refine gP.reads λφ E h' w a _ hp _=>?_
  have h1:=hp x _ (by rw[U];simp[Op.operands]) q;generalize L:a.eval x=z at h1;cases h1 with
  |emp=>exact⟨_,key (.bool J) w a.eval _ _ _ L (hyv a),.anyb⟩
 .rename_i v q;split at s
  .rename_i hv;rw[dC s];refine gP.reads λφ E h' w a _ hp _=>?_
   have h1:=fk (hp x _ (by rw[U];simp[Op.operands]) q);unfold tL at hv;split at hv
   .exact⟨_,key (.bool J) w a.eval _ _ _ h1 (hyv a),by simpa[raw] using cN.f (.raw _)⟩
   .cases hv
  .cases s
 .cases s
theorem gE {t:TypeId} {sz:Nat} (hs:fx P t=M sz) (w:World):(sizeOf t).run P w= .ok sz w:=by
 unfold fx at hs;cases hi:P.info? t with
 |none=>rw[hi]at hs;cases hs
 |some i=>rw[hi]at hs;simp at hs;simp[sizeOf,typeInfo,program,hi,kn,hs]
theorem Qm {t:TypeId} {ag:Bool} (hs:D7 P t=M ag) (w:World):(isAgg t).run P w= .ok ag w:=by
 unfold D7 at hs;cases hi:P.underlying t with
 |none=>rw[hi]at hs;cases hs
 |some d=>
  rw[hi]at hs;simp only[cj,ah]at hs;rw[<- hs];simp only[isAgg,eM,run_underlying hi,cO];cases d<;>rfl
theorem lx (b off i:Nat):(⟨b,off,D⟩:Addr).add i=⟨b,off+i,D⟩:=by
 unfold Addr.add;split<;>simp_all
theorem Ql {s:TypeId} {fs:Array Field} {k:Nat} {f:Field} {sz:Nat} (hu:P.underlying s=M (.struct fs)) (hf:fs[k]? =M f) (hs:fx P f.type=M sz) (h0:sz≠0) (w:World) (b i:Nat):
 (Instr.fieldAt s (.pointer (M ⟨b,i,D⟩)) k).run P w= .ok (.pointer (M ⟨b,i+f.offset,D⟩)) w:=by
 have h1:=gE hs w;simp[Instr.fieldAt,run_underlying hu,hf,Instr.sureAddr,fieldPlace,h1,h0,lx]
theorem anj {s:TypeId} {fs:Array Field} {k:Nat} {f:Field} {sz:Nat} {x:Operand} (L:o.op= .fieldAddr s x k) (hu:P.underlying s=M (.struct fs)) (hf:fs[k]? =M f) (hs:fx P f.type=M sz) (h0:sz≠0) (c:eL (.fad f.offset x) e h nx=M R):gP P o e.get h.get R.eff:=by
 have key:∀(w:World) (ρ:Operand->Value) (b i:Nat),ρ x= .pointer (M ⟨b,i,D⟩)->(execOp ρ o).run P w= .ok (.value (.pointer (M ⟨b,i+f.offset,D⟩))) w:=by
  intro w ρ b i h1;unfold execOp;rw[L];simp only[h1];exact ahf (Ql hu hf hs h0 w b i)
 simp only[eL]at c;split at c
 .rename_i id off A;rw[dC c];refine gP.reads λφ E h' w a _ hp _=>?_
  have h1:=hp x _ (by rw[L];simp[Op.operands]) A;generalize q:a.eval x=z at h1;cases h1 with
  |ptr hφ=>exact⟨_,key w a.eval _ _ q,.ptr hφ⟩
 .rename_i cells off A;rw[dC c];refine gP.reads λφ E h' w a _ hp _=>?_
  have h1:=hp x _ (by rw[L];simp[Op.operands]) A;generalize q:a.eval x=z at h1;cases h1 with
  |f h1=>
   cases h1 with
   |ptr _ _ b base us hO hb hcl hu hr=>
    refine ⟨_,key w a.eval _ _ q,.f ?_⟩;rw[sR];exact .ptr cells _ b base us hO hb hcl hu hr
 .cases c
theorem JD {t el:TypeId} {x y:Operand} {sz b off n c:Nat} {k:IntKind} {i:Int} {ρ:Operand->Value} {w:World} (s:o.op= .indexAddr t x y) (hu:P.underlying t=M (.slice el)) (hs:fx P el=M sz) (q:ρ x= .slice (M ⟨b,off,D⟩) n c) (a:ρ y= .int k i) (h0:0<=i) (h1:i<n):
 (execOp ρ o).run P w= .ok (.value (.pointer (M ⟨b,off+i.toNat*sz,D⟩))) w:=by
 have h2:=gE hs w;unfold execOp;rw[s];simp[q,a,Instr.indexAt,asIntOf,run_underlying hu,h2,h0,h1,lx]
theorem anh {t el:TypeId} {x y:Operand} {sz:Nat} (s:o.op= .indexAddr t x y) (hu:P.underlying t=M (.slice el)) (hs:fx P el=M sz) (q:eL (.iad sz x y) e h nx=M R):gP P o e.get h.get R.eff:=by
 simp only[eL]at q;split at q
 .rename_i v k j U hy;have hyv:∀{φ:PM} {E:Nat->Prop} {h':HF} {w:World} {a:Act},Wd φ E h' w a e o->a.eval y= .int k j:=λhp=>fk (hp y _ (by rw[s];simp[Op.operands]) hy)
  split at q
  .split at q
   .rename_i id sz' n hc;simp only[cZ,fJ,al,bB,cV]at hc;obtain⟨⟨rfl,h0⟩,h1⟩:=hc;rw[dC q];refine gP.reads λφ E h' w a _ hp _=>?_
    have hr:=hp x _ (by rw[s];simp[Op.operands]) U;generalize A:a.eval x=z at hr;cases hr with
    |row hφ hn L hsh=>
     refine ⟨_,JD s hu hs A (hyv hp) h0 h1,?_⟩;rw[bI];exact .ptr hφ
   .cases q
  .split at q
   .rename_i id off n hc;simp only[cZ,fJ,al,bB]at hc;obtain⟨h0,h1⟩:=hc;rw[dC q];refine gP.reads λφ E h' w a _ hp _=>?_
    have hr:=hp x _ (by rw[s];simp[Op.operands]) U;generalize A:a.eval x=z at hr;cases hr with
    |sl hφ hn L=>exact⟨_,JD s hu hs A (hyv hp) h0 h1,.ptr hφ⟩
   .cases q
  .split at q
   .rename_i cells n hc;simp only[cZ,fJ,al,bB]at hc;obtain⟨h0,h1⟩:=hc;rw[dC q];refine gP.reads λφ E h' w a _ hp _=>?_
    have hr:=hp x _ (by rw[s];simp[Op.operands]) U;generalize A:a.eval x=z at hr;cases hr with
    |f hr=>
     cases hr with
     |nil=>omega
     |sl _ _ c b base us hn L hO hb hcl Z hr'=>exact⟨_,JD s hu hs A (hyv hp) h0 h1,.f (.ptr cells _ b base us hO hb hcl Z hr')⟩
   .cases q
  .cases q
 .cases q
theorem ak3 {t el:TypeId} {x y:Operand} {n sz:Nat} (q:o.op= .indexAddr t x y) (hu:P.underlying t=M (.array n el)) (hs:fx P el=M sz) (c:eL (.iada n sz x y) e h nx=M R):gP P o e.get h.get R.eff:=by
 have key:∀(w:World) (ρ:Operand->Value) (b off:Nat) (k:IntKind) (i:Int),ρ x= .pointer (M ⟨b,off,D⟩)->ρ y= .int k i->0<=i->i<n->(execOp ρ o).run P w= .ok (.value (.pointer (M ⟨b,off+i.toNat*sz,D⟩))) w:=by
  intro w ρ b off k i h1 h2 h3 h4;have h5:=gE hs w;unfold execOp;rw[q];simp[h1,h2,Instr.indexAt,asIntOf,run_underlying hu,h5,h3,h4,lx,Instr.sureAddr]
 simp only[eL]at c;split at c
 .rename_i v k j Z U;split at c
  .rename_i hc;simp only[cZ,fJ,al,bB]at hc;obtain⟨h0,h1⟩:=hc;split at c
   .rw[dC c];refine gP.reads λφ E h' w a _ hp _=>?_
    have hr:=hp x _ (by rw[q];simp[Op.operands]) Z;have hyv:=fk (hp y _ (by rw[q];simp[Op.operands]) U);generalize s:a.eval x=z at hr;cases hr with
    |ptr hφ=>exact⟨_,key w a.eval _ _ k j s hyv h0 h1,.ptr hφ⟩
   .rw[dC c];refine gP.reads λφ E h' w a _ hp _=>?_
    have hr:=hp x _ (by rw[q];simp[Op.operands]) Z;have hyv:=fk (hp y _ (by rw[q];simp[Op.operands]) U);generalize s:a.eval x=z at hr;cases hr with
    |f hr=>
     cases hr with
     |ptr _ _ b base us hO hb hcl A L=>
      refine ⟨_,key w a.eval _ _ k j s hyv h0 h1,.f ?_⟩;rw[sR];exact .ptr _ _ b base us hO hb hcl A L
   .cases c
  .cases c
 .cases c
theorem ank {x:Operand} {i:Nat} (q:o.op= .extract x i) (c:eL (.ext x i) e h nx=M R):gP P o e.get h.get R.eff:=by
 simp only[eL]at c;split at c
 .rename_i l A;split at c
  .rename_i v hv;rw[dC c];refine gP.reads λφ E h' w a _ hp _=>?_
   have hr:=hp x _ (by rw[q];simp[Op.operands]) A;generalize s:a.eval x=z at hr;cases hr with
   |@tup _ vs hl hrr=>
    have hlt:i<vs.length:=by
     rw[hl];exact (bh.1 hv).1
    refine ⟨vs[i],?_,hrr i v _ hv (ay hlt)⟩;unfold execOp;rw[q];simp[s,Instr.extract,hlt]
  .cases c
 .cases c
theorem anf {x y:Operand} {s:Array TypeId} (q:o.op= .call {callee:=.builtin .max,args:=#[x,y],argTypes:=s}) (c:eL (.max x y) e h nx=M R):gP P o e.get h.get R.eff:=by
 simp only[eL]at c;split at c
 .rename_i k a b k' A z;rw[dC c];refine gP.reads λφ E h' w a _ hp _=>?_
  have h1:=fk (hp x _ (by rw[q];simp[Op.operands,eU]) A);have h2:=fk (hp y _ (by rw[q];simp[Op.operands,eU]) z);refine ⟨_,?_,.f (.raw _)⟩;unfold execOp;rw[q];simp[resolve,invoke,builtin,Builtin.max_,Builtin.max2,h1,h2,fJ]
 .cases c
theorem ane {x y:Operand} {s:Array TypeId} (q:o.op= .call {callee:=.builtin .min,args:=#[x,y],argTypes:=s}) (c:eL (.min x y) e h nx=M R):gP P o e.get h.get R.eff:=by
 simp only[eL]at c;split at c
 .rename_i k a b k' A z;rw[dC c];refine gP.reads λφ E h' w a _ hp _=>?_
  have h1:=fk (hp x _ (by rw[q];simp[Op.operands,eU]) A);have h2:=fk (hp y _ (by rw[q];simp[Op.operands,eU]) z);refine ⟨_,?_,.f (.raw _)⟩;unfold execOp;rw[q];simp[resolve,invoke,builtin,Builtin.min_,Builtin.min2,h1,h2,fJ]
 .cases c
theorem ana {x:Operand} {t:TypeId} {k:IntKind} (q:o.op= .unOp .neg t x) (c:eL (.bin .sub (.const (.int k 0)) x) e h nx=M R):gP P o e.get h.get R.eff:=by
 simp only[eL,mT,Fm]at c;split at c
 .rename_i u v hu s;cases hu;split at c
  .rename_i r hb;rw[dC c];refine gP.reads λφ E h' w a _ hop _=>?_
   have h1:=fk (hop x _ (by rw[q];simp[Op.operands]) s);refine ⟨r,?_,.f (.raw _)⟩;unfold execOp;rw[q];cases v<;>simp only[tP]at hb<;>try (cases hb;done)
   split at hb
   .rename_i hk;have hk:=eq_of_beq hk;subst hk;simp only[ah]at hb;subst hb;simp[h1,Op.unary,Op.intArith,yS]
   .cases hb
  .cases c
 .cases c
theorem ajv {x i:Operand} {t:TypeId} (q:o.op= .index t x i) (hu:P.underlying t=M .string) (c:eL (.sidx x i) e h nx=M R):gP P o e.get h.get R.eff:=by
 simp only[eL]at c;split at c
 .rename_i s k j z hi;split at c
  .rename_i h0;simp only[cZ,bB]at h0;split at c
   .rename_i b hb;rw[dC c];refine gP.reads λφ E h' w a _ hop _=>?_
    have h1:=fk (hop x _ (by rw[q];simp[Op.operands]) z);have h2:=fk (hop i _ (by rw[q];simp[Op.operands]) hi);refine ⟨_,?_,.f (.raw _)⟩;have hs:s[j.toNat]? =M b:=by
     rw[cz]at hb;obtain⟨hl,he⟩:=cC.1 hb;exact getElem?_pos s j.toNat hl▸gR M he
    unfold execOp;rw[q];simp[Instr.index,run_underlying hu,h1,h2,asIntOf,h0,hs]
   .cases c
  .cases c
 .cases c
theorem and {f:FuncId} {caps:Array Operand} (L:o.op= .makeFunc (.func f) #[] caps) (s:eL (.mkf f caps.toList) e h nx=M R):gP P o e.get h.get R.eff:=by
 simp only[eL]at s;split at s
 .rename_i l hl;rw[dC s];refine gP.reads λφ E h' w a _ hp _=>?_
  refine ⟨_,by unfold execOp;rw[L];rfl,?_⟩;have key:∀(xs:Y Operand) (c:Y AV),(∀x∈xs,x∈o.op.operands)->Xj e xs=M c->c.length=xs.length/\∀(j:Nat) x v,c[j]? =M x->(xs.map a.eval)[j]? =M v->cN φ (tot E φ h') w x v:=by
   intro xs;induction xs with
   |nil=>intro c _ h;simp only[Xj,ah]at h;subst h;exact⟨rfl,λj x v q=>by simp at q⟩
   |cons x xs U=>
    intro c hm h;simp only[Xj]at h;split at h
    .rename_i y Z;split at h
     .rename_i ys' hys;simp only[ah]at h;subst h;obtain⟨h1,h2⟩:=U ys' (λx q=>hm x (bV _ q)) hys;refine ⟨by simp[h1],λj z v A hv=>?_⟩;cases j with
      |zero=>simp at A hv;subst A;subst hv;exact hp x _ (hm x (cQ ..)) Z
      |succ j=>exact h2 j z v (by simpa using A) (by simpa using hv)
     .cases h
    .cases h
  obtain⟨h1,h2⟩:=key caps.toList l (λx q=>by rw[L];simpa[Op.operands] using q) hl;have h3:(caps.map a.eval)=(caps.toList.map a.eval).toArray:=by
   apply Lg;simp
  have h4:(#[]:Array Operand).map a.eval=#[]:=by simp
  rw[h4,h3];exact .clo (by simp[h1]) h2
 .cases s
end pure
section
variable {P:Program} {o:Oper} {e:Ab} {h:oq} {nx:Nat} {R:Ck}
theorem Wp {α:Type} {l cs:Y α} {off sz:Nat} (h:off+sz<=l.length) (he:(l.drop off).take sz=cs):cs.length=sz/\∀(j:Nat) x,cs[j]? =M x->l[off+j]? =M x:=by
 subst he;constructor
 .simp;omega
 .intro j x a;rw[cR]at a;split at a
  .rw[hZ]at a;exact a
  .cases a
theorem xF (f:Nat->Value) (n j:Nat) (v:Value) (h:((dN n).map f)[j]? =M v):v=f j/\j<n:=by
 rw[ba]at h;rcases ca j n with hj|hj
 .rw[vW hj]at h;simp at h;exact⟨h.symm,hj⟩
 .rw[bE (by simpa using hj)]at h;cases h
def xY (φ:PM) (O:Nat->Prop) (w:World) (c:BC) (f:Nat->I Value):Prop:=∀j x,c.get j=M x->x.isCell=J/\∃v,f j=M v/\cN φ O w x v
theorem Wo {φ:PM} {O:Nat->Prop} {w:World} {c:BC} {off sz:Nat} {ag:Bool} {val:AV} (hs:c.sub? off sz ag=M val) {f:Nat->I Value} (hc:xY φ O w c f):
 ∃cs:ξ,cs.length=sz/\(∀(j:Nat) v,cs[j]? =M v->f (off+j)=M v)/\(ag=af->sz=1)/\cN φ O w val (if ag then .agg cs.toArray else cs.getD 0 undef):=by
 cases ag with
 |false=>
  simp only[BC.sub?]at hs;split at hs
  .obtain⟨h0,v,h1,h2⟩:=hc off val hs;exact⟨[v],rfl,λj u hu=>by cases j with|zero=>simp at hu;subst hu;exact h1|succ j=>simp at hu,λ_=>rfl,by simpa using h2⟩
  .cases hs
 |true=>
  have fin:∀(g:Nat->I AV),(∀j,j<sz->∃x,g j=M x/\c.get (off+j)=M x)->
   ∃cs:ξ,cs.length=sz/\(∀(j:Nat) v,cs[j]? =M v->f (off+j)=M v)/\∀(j:Nat) x v,g j=M x->cs[j]? =M v->cN φ O w x v:=by
   intro g hg;refine ⟨(dN sz).map λj=>(f (off+j)).getD undef,by simp,λj v hv=>?_,λj x v a hv=>?_⟩
   .obtain⟨rfl,hj⟩:=xF _ _ _ _ hv;obtain⟨x,_,h2⟩:=hg j hj;obtain⟨_,v,q,_⟩:=hc _ _ h2;rw[q];rfl
   .obtain⟨rfl,hj⟩:=xF _ _ _ _ hv;obtain⟨z,h1,h2⟩:=hg j hj;rw[a]at h1;cases h1;obtain⟨_,v,q,s⟩:=hc _ _ h2;rw[q];exact s
  simp only[BC.sub?]at hs;split at hs
  .rename_i l;split at hs
   .rename_i hle;simp only[ah]at hs;subst hs;obtain⟨hl,hg⟩:=Wp (a_ hle) (rfl:(l.drop off).take sz=_);obtain⟨cs,h1,h2,q⟩:=fin (λj=>(((l.drop off).take sz)[j]?).map AV.f) (λj hj=>by
     have hlt:j<((l.drop off).take sz).length:=by rw[hl];exact hj
     refine ⟨.f ((l.drop off).take sz)[j],by simp only[ay hlt,cj],?_⟩;simp only[BC.get,hg j _ (ay hlt),cj])
    refine ⟨cs,h1,h2,(λh=>by cases h),.f (.agg _ _ (by rw[h1,hl]) ?_ ?_)⟩
    .intro x a;obtain⟨j,hj⟩:=fc a;exact (hc (off+j) (.f x) (by simp only[BC.get,hg j x hj,cj])).1
    .intro j x v a hv;have:=q j (.f x) v (by simp only[a,cj]) hv;cases this with
     |f h=>exact h
   .cases hs
  .rename_i l;split at hs
   .rename_i hle;simp only[ah]at hs;subst hs;obtain⟨hl,hg⟩:=Wp (a_ hle) (rfl:(l.drop off).take sz=_);obtain⟨cs,h1,h2,q⟩:=fin (λj=>(((l.drop off).take sz)[j]?)) (λj hj=>by
     have hlt:j<((l.drop off).take sz).length:=by rw[hl];exact hj
     exact⟨_,ay hlt,hg j _ (ay hlt)⟩)
    refine ⟨cs,h1,h2,(λh=>by cases h),.agg (by rw[h1,hl]) ?_ ?_⟩
    .intro x a;obtain⟨j,hj⟩:=fc a;exact (hc (off+j) x (hg j x hj)).1
    .intro j x v a hv;exact q j x v a hv
   .cases hs
  .cases hs
theorem N6 {t:TypeId} {sz:Nat} {ag:Bool} (hs:fx P t=M sz) (a:D7 P t=M ag) (w:World) (b off:Nat) (cs:ξ) (hl:cs.length=sz) (hc:∀(j:Nat) v,cs[j]? =M v->w.cell? ⟨b,off+j,D⟩=M v) (h1:ag=af->sz=1):
 (loadVar t ⟨b,off,D⟩).run P w= .ok (if ag then .agg cs.toArray else cs.getD 0 undef) w:=by
 unfold loadVar;simp only[eM,Qm a w,cO];cases ag with
 |true=>
  simp only[bG,eM,gE hs w,cO];rw[<- hl,run_loadCells_list (P:=P) w ⟨b,off,D⟩ cs (λj v hv=>by rw[lx];exact hc j v hv)];rfl
 |false=>
  have h1:=h1 rfl;cases cs with
  |nil=>simp at hl;omega
  |cons v r=>
   have:=hc 0 v rfl;simp only[c8]at this;simp[load,kn,this]
theorem IW {φ:PM} {O:Nat->Prop} {w:World} {t:TypeId} {sz:Nat} {ag:Bool} (hs:fx P t=M sz) (a:D7 P t=M ag) {c:BC} {b base off:Nat} {val:AV} (hv:c.sub? off sz ag=M val)
 (hc:xY φ O w c λj=>w.cell? ⟨b,base+j,D⟩):∃v,(loadVar t ⟨b,base+off,D⟩).run P w= .ok v w/\cN φ O w val v:=by
 obtain⟨cs,h1,h2,s,q⟩:=Wo hv hc;exact⟨_,N6 hs a w b (base+off) cs h1 (λj v hj=>by rw[sR];exact h2 j v hj) s,q⟩
theorem SD {φ:PM} {E:Nat->Prop} {h':HF} {w:World} (hrep:re φ E h' w) {id k:Nat} {b:vT} (hb:h' id=M b) (hk:φ id=M k) (hc:b.c.isCells=J):xY φ (tot E φ h') w b.c λj=>w.cell? ⟨k,0+j,D⟩:=by
 obtain⟨k',h1,_,h2⟩:=hrep.at_ id b hb;rw[hk]at h1;cases h1;obtain⟨arr,s,U,q⟩:=h2.cells hc;intro j x a;obtain⟨L,v,A,z⟩:=q j x a;exact⟨L,v,by simp[NK,s,A],z⟩
theorem VQ {φ:PM} {O:Nat->Prop} {w:World} {cells:Y FV} {b base:Nat} {us:Nat->Value} (hcl:∀x∈cells,x.isCell=J) (hu:∀j,j<cells.length->w.cell? ⟨b,base+j,D⟩=M (us j)) (hr:∀(j:Nat) x,cells[j]? =M x->nM O w x (us j)):
 xY φ O w (.fz cells) λj=>w.cell? ⟨b,base+j,D⟩:=by
 intro j y a;simp only[BC.get]at a;cases hc:cells[j]? with
 |none=>rw[hc]at a;cases a
 |some q=>
  rw[hc]at a;simp at a;subst a;have hj:j<cells.length:=(bh.1 hc).1;exact⟨hcl q (aX hc),us j,hu j hj,.f (hr j q hc)⟩
theorem P' {c:BC} {off sz:Nat} {ag:Bool} {v:AV} (h:c.sub? off sz ag=M v):c.isCells=J:=by
 cases c with
 |fz=>rfl
 |mx=>rfl
 |mp es=>cases ag<;>simp only[BC.sub?,BC.get]at h<;>(try split at h)<;>cases h
 |it s p=>cases ag<;>simp only[BC.sub?,BC.get]at h<;>(try split at h)<;>cases h
theorem S0 {t:TypeId} {sz:Nat} {ag:Bool} (hs:fx P t=M sz) (hag:D7 P t=M ag) {p:AV} (a:D6 h sz ag p=M R):
 R.wr=[]/\R.nw=[]/\R.N=[]/\∀(φ:PM) (E:Nat->Prop) (h':HF) (w:World) (pv:Value),(∀i∈R.rd,h' i=h.get i)->re φ E h' w->cN φ (tot E φ h') w p pv->
  ∃c v,pv= .pointer (M c)/\(loadVar t c).run P w= .ok v w/\cN φ (tot E φ h') w R.val v:=by
 unfold D6 at a;split at a
 .rename_i id off;split at a
  .rename_i b hb;split at a
   .rename_i v hv;simp only[ah]at a;subst a;refine ⟨rfl,rfl,rfl,λφ E h' w pv hrd hrep hr=>?_⟩;have hh:h' id=M b:=by rw[hrd id (by simp)];exact hb
    cases hr with
    |@ptr _ _ k hφ=>
     obtain⟨u,h1,h2⟩:=IW hs hag (w:=w) (b:=k) (base:=0) hv (SD hrep hh hφ (P' hv));rw[bI]at h1;exact⟨_,u,rfl,h1,h2⟩
   .cases a
  .cases a
 .rename_i cells off;split at a
  .rename_i v hv;rw[dC a];refine ⟨rfl,rfl,rfl,λφ E h' w pv hrd hrep hr=>?_⟩;cases hr with
   |f hr=>
    cases hr with
    |ptr _ _ b base us hO hb hcl hu hr=>
     obtain⟨u,h1,h2⟩:=IW (φ:=φ) (O:=tot E φ h') hs hag (w:=w) (b:=b) (base:=base) hv (VQ hcl hu hr);exact⟨_,u,rfl,h1,h2⟩
  .cases a
 .cases a
theorem ajz {t:TypeId} {x:Operand} {sz:Nat} {ag:Bool} (q:o.op= .load t x) (hs:fx P t=M sz) (hag:D7 P t=M ag) (c:eL (.load sz ag x) e h nx=M R):gP P o e.get h.get R.eff:=by
 simp only[eL]at c;split at c
 .rename_i p A;obtain⟨h1,h2,z,s⟩:=S0 hs hag c;obtain⟨val,rd,wr,nw,N⟩:=R;simp only at h1 h2 z s;subst h1;subst h2;subst z;refine gP.reads λφ E h' w a hrd hp hrep=>?_
  obtain⟨ad,v,Z,U,L⟩:=s φ E h' w _ hrd hrep (hp x _ (by rw[q];simp[Op.operands]) A);refine ⟨v,?_,L⟩;unfold execOp;rw[q];simp[Instr.loadAt,Z,Instr.sureAddr,U]
 .cases c
theorem WF {φ:PM} {O:Nat->Prop} {w:World} {t:TypeId} {sz:Nat} {ag:Bool} (hs:fx P t=M sz) (hag:D7 P t=M ag) {c:BC} {off:Nat} {val:AV} (hv:c.sub? off sz ag=M val) {vs:ξ}
 (hc:xY φ O w c λj=>vs[j]?):∃v,(part t vs.toArray off).run P w= .ok v w/\cN φ O w val v:=by
 obtain⟨cs,h1,h2,q,a⟩:=Wo hv hc;refine ⟨_,?_,a⟩;unfold part;simp only[eM,Qm hag w,cO];cases ag with
 |true=>
  simp only[bG,eM,gE hs w,cO];have:vs.toArray.extract off (off+sz)=cs.toArray:=by
   apply Lg;simp only[Array.toList_extract,List.extract_eq_take_drop];apply List.ext_getElem?;intro j;rw[show off+sz-off=sz from by omega,cR,hZ];rcases ca j sz with hj|hj
   .rw[aC hj];have:=h2 j _ (ay (by omega:j<cs.length));rw[this,ay (by omega:j<cs.length)]
   .rw[ax (by omega),bE (by omega)]
  rw[this];rfl
 |false=>
  have s:=q rfl;cases cs with
  |nil=>simp at h1;omega
  |cons v r=>
   have:=h2 0 v rfl;simp only[c8]at this;simp[this]
theorem SE {φ:PM} {O:Nat->Prop} {w:World} {l:Y AV} {vs:ξ} (hl:vs.length=l.length) (hcl:∀x∈l,x.isCell=J) (hr:∀(j:Nat) x v,l[j]? =M x->vs[j]? =M v->cN φ O w x v):xY φ O w (.mx l) λj=>vs[j]? :=by
 intro j x a;simp only[BC.get]at a;have hj:j<vs.length:=by rw[hl];exact (bh.1 a).1
 exact⟨hcl x (aX a),vs[j],ay hj,hr j x _ a (ay hj)⟩
theorem Pr {φ:PM} {O:Nat->Prop} {w:World} {l:Y FV} {vs:ξ} (hl:vs.length=l.length) (hcl:∀x∈l,x.isCell=J) (hr:∀(j:Nat) x v,l[j]? =M x->vs[j]? =M v->nM O w x v):xY φ O w (.fz l) λj=>vs[j]? :=by
 intro j x a;simp only[BC.get]at a;cases hc:l[j]? with
 |none=>rw[hc]at a;cases a
 |some q=>
  rw[hc]at a;simp at a;subst a;have hj:j<vs.length:=by rw[hl];exact (bh.1 hc).1
  exact⟨hcl q (aX hc),vs[j],ay hj,.f (hr j q _ hc (ay hj))⟩
theorem KU {φ:PM} {O:Nat->Prop} {w:World} {t:TypeId} {sz:Nat} {ag:Bool} (hs:fx P t=M sz) (hag:D7 P t=M ag) {x:AV} {z:Value} (hr:cN φ O w x z) {off:Nat} {val:AV}
 (hv:(∃l,x= .agg l/\(BC.mx l).sub? off sz ag=M val)\/(∃l,x= .f (.agg l)/\(BC.fz l).sub? off sz ag=M val)):∃cs v,z= .agg cs/\(part t cs off).run P w= .ok v w/\cN φ O w val v:=by
 rcases hv with ⟨l,rfl,hv⟩|⟨l,rfl,hv⟩
 .cases hr with
  |agg hl hcl hr=>
   obtain⟨v,h1,h2⟩:=WF hs hag hv (SE hl hcl hr);exact⟨_,v,rfl,h1,h2⟩
 .cases hr with
  |f hr=>
   cases hr with
   |agg _ vs hl hcl hr=>
    obtain⟨v,h1,h2⟩:=WF (φ:=φ) hs hag hv (Pr hl hcl hr);exact⟨_,v,rfl,h1,h2⟩
theorem ani {s:TypeId} {fs:Array Field} {k:Nat} {f:Field} {sz:Nat} {ag:Bool} {x:Operand} (z:o.op= .field s x k) (hu:P.underlying s=M (.struct fs)) (hf:fs[k]? =M f) (hs:fx P f.type=M sz) (hag:D7 P f.type=M ag) (c:eL (.fld f.offset sz ag x) e h nx=M R):gP P o e.get h.get R.eff:=by
 have fin:∀(y:AV) (val:AV),mT e x=M y->((∃l,y= .agg l/\(BC.mx l).sub? f.offset sz ag=M val)\/(∃l,y= .f (.agg l)/\(BC.fz l).sub? f.offset sz ag=M val))->rv val=M R->gP P o e.get h.get R.eff:=by
  intro y val q hv A;rw[dC A];refine gP.reads λφ E h' w a _ hp _=>?_
  obtain⟨cs,v,h1,h2,L⟩:=KU hs hag (hp x _ (by rw[z];simp[Op.operands]) q) hv;refine ⟨v,?_,L⟩;unfold execOp;rw[z];simp[Instr.field,run_underlying hu,hf,h1,asAgg,h2]
 simp only[eL]at c;split at c
 .rename_i l q;split at c
  .rename_i v hv;exact fin _ v q (.inl ⟨l,rfl,hv⟩) c
  .cases c
 .rename_i l q;split at c
  .rename_i v hv;exact fin _ v q (.inr ⟨l,rfl,hv⟩) c
  .cases c
 .cases c
theorem ang {t el:TypeId} {n sz:Nat} {ag:Bool} {x y:Operand} (q:o.op= .index t x y) (hu:P.underlying t=M (.array n el)) (hs:fx P el=M sz) (hag:D7 P el=M ag) (c:eL (.idx n sz ag x y) e h nx=M R):gP P o e.get h.get R.eff:=by
 simp only[eL]at c;split at c
 .rename_i v0 k j z s;split at c
  .rename_i hc;simp only[cZ,fJ,al,bB]at hc;obtain⟨h0,h1⟩:=hc;have fin:∀(val:AV),((∃l,v0= .agg l/\(BC.mx l).sub? (j.toNat*sz) sz ag=M val)\/(∃l,v0= .f (.agg l)/\(BC.fz l).sub? (j.toNat*sz) sz ag=M val))->rv val=M R->gP P o e.get h.get R.eff:=by
    intro val hv A;rw[dC A];refine gP.reads λφ E h' w a _ hp _=>?_
    have hyv:=fk (hp y _ (by rw[q];simp[Op.operands]) s);obtain⟨cs,v,h3,Z,U⟩:=KU hs hag (hp x _ (by rw[q];simp[Op.operands]) z) hv;refine ⟨v,?_,U⟩;have L:=gE hs w;unfold execOp;rw[q];simp[Instr.index,run_underlying hu,hyv,asIntOf,h3,h0,h1,L,Z]
   split at c
   .rename_i l;split at c
    .rename_i v hv;exact fin v (.inl ⟨l,rfl,hv⟩) c
    .cases c
   .rename_i l;split at c
    .rename_i v hv;exact fin v (.inr ⟨l,rfl,hv⟩) c
    .cases c
   .cases c
  .cases c
 .cases c
theorem ak2 {t el:TypeId} {x:Operand} (L:o.op= .call {callee:=.builtin .len,args:=#[x],argTypes:=#[t]}) (hu:P.underlying t=M (.slice el)) (q:eL (.len x) e h nx=M R):gP P o e.get h.get R.eff:=by
 simp only[eL]at q;split at q
 .rename_i y U;split at q
  .rename_i n hn;rw[dC q];refine gP.reads λφ E h' w a _ hp _=>?_
   have hr:=hp x _ (by rw[L];simp[Op.operands,eU]) U;refine ⟨_,?_,.f (.raw _)⟩;have s:∃A c,a.eval x= .slice A n c:=by
    generalize a.eval x=z at hr;unfold AV.slen at hn;split at hn<;>try (simp only[ah]at hn;subst hn)
    .cases hr with
     |f hr=>cases hr with
      |nil=>exact⟨_,_,rfl⟩
      |sl=>exact⟨_,_,rfl⟩
    .cases fk hr;exact⟨_,_,rfl⟩
    .cases hr;exact⟨_,_,rfl⟩
    .cases hr;exact⟨_,_,rfl⟩
    .cases hr;exact⟨_,_,rfl⟩
    .cases hn
   obtain⟨A,c,s⟩:=s;unfold execOp;rw[L];simp[resolve,invoke,builtin,Builtin.len_,run_underlying hu,s,goInt]
  .cases q
 .cases q
theorem ak1 {t:TypeId} {x:Operand} (q:o.op= .call {callee:=.builtin .len,args:=#[x],argTypes:=#[t]}) (hu:P.underlying t=M .string) (c:eL (.lens x) e h nx=M R):gP P o e.get h.get R.eff:=by
 simp only[eL]at c;split at c
 .rename_i s z;rw[dC c];refine gP.reads λφ E h' w a _ hp _=>?_
  have hr:=fk (hp x _ (by rw[q];simp[Op.operands,eU]) z);refine ⟨_,?_,.f (.raw _)⟩;unfold execOp;rw[q];simp[resolve,invoke,builtin,Builtin.len_,run_underlying hu,hr,goInt]
 .cases c
theorem ak0 {t k v:TypeId} {x:Operand} (s:o.op= .call {callee:=.builtin .len,args:=#[x],argTypes:=#[t]}) (hu:P.underlying t=M (.map k v)) (c:eL (.lenm x) e h nx=M R):gP P o e.get h.get R.eff:=by
 simp only[eL]at c;split at c
 .rename_i id L;split at c
  .rename_i es hid;simp only[ah]at c;subst c;refine gP.reads λφ E h' w a hrd hp hrep=>?_
   have hr:=hp x _ (by rw[s];simp[Op.operands,eU]) L;have hh:h' id=M ⟨0,.mp es⟩:=by rw[hrd id (by simp)];exact hid
   generalize A:a.eval x=z at hr;cases hr with
   |@mp _ b hφ=>
    obtain⟨b',h1,_,ob,h2,Z⟩:=hrep.at_ id _ hh;rw[hφ]at h1;cases h1;obtain⟨ents,clock,rfl,q,_⟩:=Z;have U:ents.size=es.length:=by have q:ents.toList.map (·.key)=es.map (·.1):=q;have:=gR ai q;simpa using this
    refine ⟨_,?_,.f (.raw _)⟩;unfold execOp;rw[s];simp[resolve,invoke,builtin,Builtin.len_,run_underlying hu,A,goInt,getObj,kn,h2,U]
  .cases c
 .cases c
end
structure Fx (w w':World) (k:Nat) (ob:Obj):Prop where
 os:w'.os=w.os
 tape:w'.tape=w.tape
 output:w'.output=w.output
 size:w'.heap.size=w.heap.size
 at_:w'.heap[k]? =M ob
 other:∀j,j≠k->w'.heap[j]? =w.heap[j]?
 shp:∀j,w'.shape? j=w.shape? j
structure S9 (w w':World) (ob:Obj):Prop where
 os:w'.os=w.os
 tape:w'.tape=w.tape
 output:w'.output=w.output
 size:w'.heap.size=w.heap.size+1
 at_:w'.heap[w.heap.size]? =M ob
 other:∀j,j<w.heap.size->w'.heap[j]? =w.heap[j]?
theorem re.wset {φ:PM} {E:Nat->Prop} {h:HF} {w w':World} (r:re φ E h w) {id k:Nat} {b b':vT} {ob:Obj} (hb:h id=M b) (hk:φ id=M k) (a:Fx w w' k ob) (hob:jh φ (tot E φ h) w b' ob) (nw:HF) (hnw:nw id=M b'):
 ji φ φ h (eV h [id] nw) w w'/\re φ E (eV h [id] nw) w':=by
 have hdom:∀i,(∃x,eV h [id] nw i=M x)↔∃x,h i=M x:=λi=>by
  unfold eV;by_cases hi:i=id
  .subst hi;simp[hnw,hb]
  .simp[hi]
 have hown:∀j,own φ (eV h [id] nw) j↔own φ h j:=λj=>by
  constructor
  .rintro⟨i,x,h1,h2⟩;obtain⟨y,q⟩:=(hdom i).1 ⟨x,h1⟩;exact⟨i,y,q,h2⟩
  .rintro⟨i,x,h1,h2⟩;obtain⟨y,q⟩:=(hdom i).2 ⟨x,h1⟩;exact⟨i,y,q,h2⟩
 have m:ji φ φ h (eV h [id] nw) w w':=by
  refine ⟨λ_ _ h=>h,⟨a.os,a.tape,a.output,by rw[a.size];exact bP _,λj hj Z=>?_,λj _=>a.shp j⟩,λj _ h=>(hown j).1 h⟩;exact a.other j (λe=>Z (e▸⟨id,b,hb,hk⟩))
 refine ⟨m,⟨λi j x y U hi hj h1 h2=>?_,λi x hi=>?_,λk hk=>dD (r.el k hk) m.ext.size,λg cells hg=>m.keepF (r.gl g cells hg)⟩⟩
 .obtain⟨L,s⟩:=(hdom i).1 ⟨x,hi⟩;obtain⟨A,c⟩:=(hdom j).1 ⟨y,hj⟩;exact r.inj i j L A U s c h1 h2
 .by_cases hid:i=id
  .subst hid;have:x=b':=by unfold eV at hi;simp[hnw]at hi;exact hi.symm
   subst this;obtain⟨k',h1,h2,_⟩:=r.at_ i b hb;rw[hk]at h1;cases h1;exact⟨k,hk,h2,ob,a.at_,hob.mono λ_ _ h=>m.keep h⟩
  .have z:h i=M x:=by unfold eV at hi;simpa[hid] using hi
   obtain⟨k',h1,h2,ob',h3,h4⟩:=r.at_ i x z;have hne:k'≠k:=λe=>hid (r.inj i id x b k z hb (e▸h1) hk)
   exact⟨k',h1,h2,ob',by rw[a.other k' hne];exact h3,h4.mono λ_ _ h=>m.keep h⟩
theorem re.wnew {φ:PM} {E:Nat->Prop} {h:HF} {w w':World} (r:re φ E h w) {id:Nat} (hid:φ id=D) {b:vT} {ob:Obj} (q:S9 w w' ob) (hob:jh φ (tot E φ h) w b ob) (del:ι) (nw:HF) (hnw:nw id=M b) (hdel:∀i∈del,i≠id->nw i=D):
 ∃φ',φ' id=M w.heap.size/\ji φ φ' h (eV h (id::del) nw) w w'/\(∀i k,φ' i=M k->φ i=M k\/i∈[id])/\re φ' E (eV h (id::del) nw) w':=by
 have hsub:∀i x,eV h (id::del) nw i=M x->i≠id->h i=M x/\i∉del:=λi x s hi=>by
  unfold eV at s;by_cases hd:i∈del
  .rw[aC (by simp[hd]),hdel i hd hi]at s;cases s
  .rw[ax (by simp[hi,hd])]at s;exact⟨s,hd⟩
 have hlt:∀i x k,h i=M x->φ i=M k->k<w.heap.size:=λi x k hi hk=>by
  obtain⟨k',h1,_,ob',z,_⟩:=r.at_ i x hi;rw[hk]at h1;cases h1;exact (cC.1 z).1
 have hφ:∀i,i≠id->(if i=id then M w.heap.size else φ i)=φ i:=λi hi=>by simp[hi]
 have m:ji φ (λi=>if i=id then M w.heap.size else φ i) h (eV h (id::del) nw) w w':=by
  refine ⟨λi k hk=>?_,⟨q.os,q.tape,q.output,by rw[q.size];omega,λj hj _=>q.other j hj,λj hj=>?_⟩,?_⟩
  .have:i≠id:=λe=>by rw[e,hid]at hk;cases hk
   rw[hφ i this];exact hk
  .unfold rU;rw[q.other j hj]
  .rintro j hj ⟨i,x,h1,h2⟩;by_cases hi:i=id
   .simp[hi]at h2;omega
   .have z:φ i=M j:=by simpa[hi] using h2
    exact⟨i,x,(hsub i x h1 hi).1,z⟩
 refine ⟨_,by simp,m,λi k hk=>?_,⟨λi j x y k hi hj h1 h2=>?_,λi x hi=>?_,λk hk=>dD (r.el k hk) m.ext.size,λg cells hg=>m.keepF (r.gl g cells hg)⟩⟩
 .by_cases hi:i=id
  .right;simp[hi]
  .left;rw[hφ i hi]at hk;exact hk
 .by_cases a:i=id
  .by_cases c:j=id
   .rw[a,c]
   .exfalso;rw[hφ j c]at h2;have:=hlt j y k (hsub j y hj c).1 h2;simp[a]at h1;omega
  .rw[hφ i a]at h1;have hix:=(hsub i x hi a).1;by_cases c:j=id
   .exfalso;have:=hlt i x k hix h1;simp[c]at h2;omega
   .rw[hφ j c]at h2;exact r.inj i j x y k hix (hsub j y hj c).1 h1 h2
 .by_cases a:i=id
  .subst a;have:x=b:=by unfold eV at hi;simp[hnw]at hi;exact hi.symm
   subst this;refine ⟨w.heap.size,by simp,λhe=>?_,ob,q.at_,hob.mono λ_ _ h=>m.keep h⟩;have:=r.el _ he;omega
  .obtain⟨k,h1,h2,ob',z,A⟩:=r.at_ i x (hsub i x hi a).1;refine ⟨k,by rw[hφ i a];exact h1,h2,ob',?_,A.mono λ_ _ h=>m.keep h⟩;rw[q.other k (hlt i x k (hsub i x hi a).1 h1)];exact z
theorem ri (w:World) (ob:Obj):S9 w {w with heap:=w.heap.push ob} ob:=by
 refine ⟨rfl,rfl,rfl,by simp,by simp,λj hj=>?_⟩;rw[Array.getElem?_push,ax (by omega)]
theorem S9.drawn {w w':World} {ob:Obj} (d:Nat) (h:S9 {w with drawn:=d} w' ob):S9 w w' ob:=⟨h.os,h.tape,h.output,h.size,h.at_,h.other⟩
theorem gP.makes {P:Program} {o:Oper} {e:Ab} {h:HF} {rd:ι} {nx:Nat} {b:vT} {val:AV}
 (hv:∀(φ:PM) (E:Nat->Prop) (h':HF) (w:World) (a:Act),(∀i∈rd,h' i=h i)->Wd φ E h' w a e o->re φ E h' w->
   ∃v w' ob,(execOp a.eval o).run P w= .ok (.value v) w'/\S9 w w' ob/\jh φ (tot E φ h') w b ob/\∀φ' O,φ' nx=M w.heap.size->cN φ' O w' val v):
 gP P o e.get h ⟨val,rd,[nx],jr [(nx,b)],[nx]⟩:=by
 intro φ E h' w a h1 h2 L c A;obtain⟨v,w',ob,hrun,z,hob,hval⟩:=hv φ E h' w a h1 (λx y s q=>tO c L s q) c;obtain⟨φ',g1,g2,Z,U⟩:=c.wnew (id:=nx) (A nx (by simp)) z hob [] (jr [(nx,b)]) (by simp[jr]) (by simp);unfold HC;rw[hrun];exact⟨v,φ',rfl,g2,Z,U,hval φ' _ g1⟩
theorem gP.writes {P:Program} {o:Oper} {e:Ab} {h:HF} {rd:ι} {id:Nat} {b b':vT} {val:AV} (hb:h id=M b)
 (hv:∀(φ:PM) (E:Nat->Prop) (h':HF) (w:World) (a:Act),(∀i∈rd,h' i=h i)->h' id=M b->Wd φ E h' w a e o->re φ E h' w->
   ∃r w' k ob,(execOp a.eval o).run P w= .ok r w'/\φ id=M k/\Fx w w' k ob/\jh φ (tot E φ h') w b' ob/\(∃v,(r= .value v\/r= .skip/\v=undef)/\cN φ (tot E φ (eV h' [id] (jr [(id,b')]))) w' val v)):
 gP P o e.get h ⟨val,rd,[id],jr [(id,b')],[]⟩:=by
 intro φ E h' w a h1 h2 U c Z;obtain⟨r,w',k,ob,hrun,hk,L,hob,v,hr,hval⟩:=hv φ E h' w a h1 (by rw[h2 id (by simp)];exact hb) (λx y A z=>tO c U A z) c;obtain⟨s,q⟩:=c.wset (id:=id) (by rw[h2 id (by simp)];exact hb) hk L hob (jr [(id,b')]) (by simp[jr]);unfold HC;rw[hrun];rcases hr with rfl|⟨rfl,rfl⟩
 .exact⟨v,φ,rfl,s,λ_ _ h=>.inl h,q,hval⟩
 .exact⟨undef,φ,rfl,s,λ_ _ h=>.inl h,q,hval⟩
theorem md {l:Y AV} (h:gM l=J):∀x∈l,x.isCell=J:=by
 induction l with
 |nil=>intro x a;cases a
 |cons y l c=>
  simp only[gM,al]at h;intro x a;rcases bk.1 a with rfl|a
  .exact h.1
  .exact c h.2 x a
theorem pY:∀{l:Y AV} {fs:Y FV},xU l=M fs->l=fs.map .f
 |[],fs,h=>by simp only[xU,ah]at h;subst h;rfl
 |.f x::r,fs,h=>by
  simp only[xU]at h;split at h
  .rename_i l hl;simp only[ah]at h;subst h;rw[pY hl];rfl
  .cases h
 |.ptr _ _::_,_,h=>by simp[xU]at h
 |.sl _ _ _::_,_,h=>by simp[xU]at h
 |.row _ _ _::_,_,h=>by simp[xU]at h
 |.mp _::_,_,h=>by simp[xU]at h
 |.emp::_,_,h=>by simp[xU]at h
 |.agg _::_,_,h=>by simp[xU]at h
 |.tup _::_,_,h=>by simp[xU]at h
 |.clo _ _::_,_,h=>by simp[xU]at h
def Cs (φ:PM) (O:Nat->Prop) (w:World) (l:Y AV) (vs:ξ):Prop:=vs.length=l.length/\(∀x∈l,x.isCell=J)/\∀(j:Nat) x v,l[j]? =M x->vs[j]? =M v->cN φ O w x v
theorem BC.get_toMx {c:BC} (hc:c.isCells=J) (j:Nat):c.get j=c.toMx[j]? :=by
 cases c with
 |fz l=>simp[BC.get,BC.toMx]
 |mx l=>rfl
 |mp _=>cases hc
 |it _ _=>cases hc
theorem BC.len_toMx {c:BC} (hc:c.isCells=J):c.len=c.toMx.length:=by
 cases c with
 |fz l=>simp[BC.len,BC.toMx]
 |mx l=>rfl
 |mp _=>cases hc
 |it _ _=>cases hc
theorem nZ (l:Y AV):(pA l).toMx=l/\(pA l).isCells=J:=by
 unfold pA;cases h:xU l with
 |none=>exact⟨rfl,rfl⟩
 |some fs=>exact⟨(pY h).symm,rfl⟩
theorem qj {φ:PM} {O:Nat->Prop} {w:World} {ty:TypeId} {c:BC} (hc:c.isCells=J) {arr:Array Value} (hl:c.toMx.length<=arr.size)
 (h:∀(j:Nat) x,c.toMx[j]? =M x->x.isCell=J/\∃v,arr[j]? =M v/\cN φ O w x v):jh φ O w ⟨ty,c⟩ (.cells arr ty (0,0)):=by
 have h2:vA φ O w c arr:=⟨by rw[BC.len_toMx hc];exact hl,λj x a=>h j x (by rw[<- BC.get_toMx hc];exact a)⟩
 unfold jh;cases hb:c with
 |fz l=>rw[hb]at h2;exact⟨arr,rfl,h2⟩
 |mx l=>rw[hb]at h2;exact⟨arr,rfl,h2⟩
 |mp _=>rw[hb]at hc;cases hc
 |it _ _=>rw[hb]at hc;cases hc
theorem IE {φ:PM} {O:Nat->Prop} {w:World} {ty:TypeId} {l:Y AV} {vs:ξ} (h:Cs φ O w l vs):jh φ O w ⟨ty,pA l⟩ (.cells vs.toArray ty (0,0)):=by
 obtain⟨h1,h2⟩:=nZ l;refine qj h2 (by rw[h1];simp[h.1]) λj x a=>?_
 rw[h1]at a;have hj:j<vs.length:=by rw[h.1];exact (bh.1 a).1
 exact⟨h.2.1 x (aX a),vs[j],by simp[hj],h.2.2 j x _ a (ay hj)⟩
theorem U8 {φ:PM} {O:Nat->Prop} {w:World} {x:AV} {v:Value} (h:cN φ O w x v) (hc:gM x.cs=J):Cs φ O w x.cs v.cells.toList:=by
 have one:x.cs=[x]->v.cells=#[v]->Cs φ O w x.cs v.cells.toList:=λh1 h2=>by
  rw[h1]at hc ⊢;rw[h2];exact⟨rfl,md hc,λj y u a hu=>by cases j with|zero=>simp at a hu;subst a;subst hu;exact h|succ j=>simp at a⟩
 cases h with
 |ptr h=>exact one rfl rfl
 |sl h _ _=>exact one rfl rfl
 |row h _ _ _=>exact one rfl rfl
 |emp=>exact one rfl rfl
 |anyb=>exact one rfl rfl
 |mp h=>exact one rfl rfl
 |clo _ _=>exact one rfl rfl
 |tup _ _=>exact bZ hc (by simp[AV.cs,gM,AV.isCell])
 |@agg l vs hl hcl hr=>exact⟨hl,hcl,hr⟩
 |@f y u hf=>
  cases hf with
  |raw v=>
   have hv:v.oneCell'=J:=by
    have:(AV.f (.raw v)).cs=[.f (.raw v)]:=rfl;rw[this]at hc;simpa[gM,AV.isCell,FV.isCell] using hc
   refine one rfl ?_;cases v<;>first|rfl|simp[Value.oneCell']at hv
  |nil=>exact one rfl rfl
  |sl=>exact one rfl rfl
  |ptr=>exact one rfl rfl
  |agg l vs hl hcl hr=>
   refine ⟨by simp[AV.cs,Value.cells,hl],md hc,λj y u a hu=>?_⟩;simp only[AV.cs,ba]at a;cases hq:l[j]? with
   |none=>rw[hq]at a;cases a
   |some q=>rw[hq]at a;simp at a;subst a;exact .f (hr j q u hq (by simpa[Value.cells] using hu))
theorem nM.one {O:Nat->Prop} {w:World} {x:FV} {v:Value} (h:nM O w x v) (hc:x.isCell=J):v.oneCell'=J:=by
 cases h with
 |raw v=>exact hc
 |nil=>rfl
 |sl=>rfl
 |ptr=>rfl
 |agg=>cases hc
theorem cN.one {φ:PM} {O:Nat->Prop} {w:World} {x:AV} {v:Value} (h:cN φ O w x v) (hc:x.isCell=J):v.oneCell'=J:=by
 cases h with
 |f h=>exact h.one hc
 |ptr=>rfl
 |sl=>rfl
 |row=>rfl
 |emp=>rfl
 |anyb=>rfl
 |mp=>rfl
 |agg=>cases hc
 |tup=>cases hc
 |clo=>rfl
theorem Cs.one {φ:PM} {O:Nat->Prop} {w:World} {l:Y AV} {vs:ξ} (h:Cs φ O w l vs):∀v∈vs,v.oneCell'=J:=by
 intro v hv;obtain⟨j,hj⟩:=fc hv;have hlt:j<l.length:=by rw[<- h.1];exact (bh.1 hj).1
 exact (h.2.2 j _ v (ay hlt) hj).one (h.2.1 _ (uY hlt))
theorem Cs.append {φ:PM} {O:Nat->Prop} {w:World} {l c:Y AV} {vs vs':ξ} (h:Cs φ O w l vs) (h':Cs φ O w c vs'):Cs φ O w (l++c) (vs++vs'):=by
 refine ⟨by simp[h.1,h'.1],λx a=>(bO.1 a).elim (h.2.1 x) (h'.2.1 x),λj x v a hv=>?_⟩;rcases ca j l.length with hj|hj
 .rw[bQ hj]at a;rw[bQ (by rw[h.1];exact hj)]at hv;exact h.2.2 j x v a hv
 .rw[cf hj]at a;rw[cf (by rw[h.1];exact hj),h.1]at hv;exact h'.2.2 _ x v a hv
theorem Cs.take {φ:PM} {O:Nat->Prop} {w:World} {l:Y AV} {vs:ξ} (h:Cs φ O w l vs) (n:Nat):Cs φ O w (l.take n) (vs.take n):=by
 refine ⟨by simp[h.1],λx a=>h.2.1 x (hY a),λj x v a hv=>?_⟩;rw[cR]at a hv;split at a
 .rename_i hj;rw[aC hj]at hv;exact h.2.2 j x v a hv
 .cases a
theorem Cs.drop {φ:PM} {O:Nat->Prop} {w:World} {l:Y AV} {vs:ξ} (h:Cs φ O w l vs) (n:Nat):Cs φ O w (l.drop n) (vs.drop n):=by
 refine ⟨by simp[h.1],λx a=>h.2.1 x (List.mem_of_mem_drop a),λj x v a hv=>?_⟩;rw[hZ]at a hv;exact h.2.2 _ x v a hv
theorem Cs.splice {φ:PM} {O:Nat->Prop} {w:World} {l a:Y AV} {vs vs':ξ} (h:Cs φ O w l vs) (h':Cs φ O w a vs') (off:Nat):Cs φ O w (splice l off a) (splice vs off vs'):=by
 unfold AI.splice;rw[h'.1];exact ((h.take off).append h').append (h.drop _)
theorem Cs.raws {φ:PM} {O:Nat->Prop} {w:World} (z:ξ) (c:mP z=J):Cs φ O w (z.map raw) z:=by
 refine ⟨by simp,λx a=>?_,λj x v a hv=>?_⟩
 .obtain⟨v,hv,rfl⟩:=di.1 a;exact gA.1 c v hv
 .rw[ba]at a;rw[hv]at a;simp at a;subst a;exact .f (.raw v)
theorem Cs.mono {φ φ':PM} {O O':Nat->Prop} {w w':World} {l:Y AV} {vs:ξ} (h:Cs φ O w l vs) (hk:∀x v,cN φ O w x v->cN φ' O' w' x v):Cs φ' O' w' l vs:=⟨h.1,h.2.1,λj x v a hv=>hk _ _ (h.2.2 j x v a hv)⟩
theorem Fx.setRow {w:World} {k:Nat} {arr arr':Array Value} {ty:TypeId} (a:w.heap[k]? =M (.cells arr ty (0,0))) (hs:arr'.size=arr.size):Fx w (w.setRow k arr') k (.cells arr' ty (0,0)):=by
 refine ⟨rfl,rfl,rfl,by simp,setRow_heap w k arr arr' ty (0,0) a,λj hj=>setRow_other w k j arr' hj,λj=>?_⟩;unfold rU;by_cases hj:j=k
 .subst hj;rw[setRow_heap w j arr arr' ty (0,0) a,a];simp[hs]
 .rw[setRow_other w k j arr' hj]
section
variable {P:Program} {o:Oper} {e:Ab} {h:oq} {nx:Nat} {R:Ck}
theorem tS {t:TypeId} {z:ξ} (a:s_ P t=M z) (w:World):∃v,(zeroValue t).run P w= .ok v w/\v.cells.toList=z/\∃i,P.info? t=M i/\i.zero=M v:=by
 unfold s_ at a;cases hi:P.info? t with
 |none=>rw[hi]at a;cases a
 |some i=>
  rw[hi]at a;simp only[aF]at a;cases hv:i.zero with
  |none=>rw[hv]at a;cases a
  |some v=>
   rw[hv]at a;simp only[cj,ah]at a;exact⟨v,by simp[zeroValue,typeInfo,hi,hv],a,i,rfl,hv⟩
theorem age {t:TypeId} {z:ξ} (L:o.op= .alloc t) (A:s_ P t=M z) (hc:mP z=J) (s:eL (.alloc t z) e h nx=M R):gP P o e.get h.get R.eff:=by
 simp only[eL,ah]at s;subst s;refine gP.makes λφ E h' w a _ _ _=>?_
 obtain⟨v,h1,h2,_⟩:=tS A w;refine ⟨.pointer (M ⟨w.heap.size,0,D⟩),{w with heap:=w.heap.push (.cells v.cells t)},.cells v.cells t (0,0),?_,ri w _,?_,λφ' O hφ=>.ptr hφ⟩
 .unfold execOp;rw[L];simp[Instr.alloc,h1,newVar,newRow,newObj,kn]
 .have c:BC.toMx (.fz (z.map .raw))=z.map raw:=by simp[BC.toMx,raw]
  refine qj rfl (by rw[c,<-h2];simp) λj x q=>?_
  rw[c]at q;have cs:=Cs.raws (φ:=φ) (O:=tot E φ h') (w:=w) z hc;have hj:j<z.length:=by have:=(bh.1 q).1;simpa using this
  refine ⟨cs.2.1 x (aX q),z[j],?_,cs.2.2 j x _ q (ay hj)⟩;have:v.cells.toList[j]? =M z[j]:=by rw[h2];exact ay hj
  simpa using this
theorem ann {t:TypeId} {x:Operand} (q:o.op= .box t x) (c:eL (.box t x) e h nx=M R):gP P o e.get h.get R.eff:=by
 simp only[eL]at c;split at c
 .rename_i v s;split at c
  .rename_i hc;simp only[ah]at c;subst c;refine gP.makes λφ E h' w a _ hp _=>?_
   have hr:=U8 (hp x _ (by rw[q];simp[Op.operands]) s) hc;refine ⟨.pointer (M ⟨w.heap.size,0,D⟩),{w with heap:=w.heap.push (.cells (a.eval x).cells t)},.cells (a.eval x).cells t (0,0),?_,ri w _,?_,λφ' O hφ=>.ptr hφ⟩
   .unfold execOp;rw[q];simp[Instr.box,newVar,newRow,newObj,kn]
   .have:=IE (ty:=t) hr;simpa using this
  .cases c
 .cases c
theorem mU {α:Type} {l vs:Y α} {off:Nat} (hle:off+vs.length<=l.length) (j:Nat):(splice l off vs)[j]? =if j<off then l[j]? else if j<off+vs.length then vs[j-off]? else l[j]? :=by
 unfold splice;rw[iH];have h1:(l.take off).length=off:=by simp;omega
 by_cases hj:j<off
 .rw[aC hj,bQ (by rw[h1];exact hj),cR,aC hj]
 .rw[ax hj,cf (by omega),h1];by_cases a:j<off+vs.length
  .rw[aC a,bQ (by omega)]
  .rw[ax a,cf (by omega),hZ];congr 1;omega
theorem oJ {α:Type} {l vs:Y α} {off:Nat} (hle:off+vs.length<=l.length):(splice l off vs).length=l.length:=by
 unfold splice;simp;omega
theorem Rr (off:Nat):∀(vs:ξ) (k:Nat) (arr:Array Value),off+k+vs.length<=arr.size->∀j:Nat,
 ((vs.zipIdx k).foldl (λcs (p:Value×Nat)=>cs.setIfInBounds (off+p.2) p.1) arr)[j]? =if j<off+k then arr[j]? else if j<off+k+vs.length then vs[j-(off+k)]? else arr[j]?
 |[],k,arr,_,j=>by
  simp only[List.zipIdx_nil,List.foldl_nil,gw,c8];split<;>rfl
 |v::vs,k,arr,hle,j=>by
  simp only[b7]at hle;rw[List.zipIdx_cons,FG,Rr off vs (k+1) _ (by simp;omega) j];simp only[b7];by_cases h1:j<off+k
  .rw[aC (by omega),aC h1,p_ (by omega)]
  .by_cases h2:j=off+k
   .subst h2;rw[aC (by omega),ax (by omega),aC (by omega)];simp[show off+k<arr.size by omega]
   .rw[ax (by omega),ax h1];by_cases a:j<off+k+(vs.length+1)
    .rw[aC (by omega),aC a,show j-(off+k)=(j-(off+(k+1)))+1 from by omega];simp
    .rw[ax (by omega),ax a,p_ (by omega)]
theorem Rq (off:Nat) (c:Array Value) (l:ξ) (hle:off+c.size<=l.length):(c.zipIdx.foldl (λcs (p:Value×Nat)=>cs.setIfInBounds (off+p.2) p.1) l.toArray)=(splice l off c.toList).toArray:=by
 rw[<- Array.foldl_toList,Array.toList_zipIdx];apply Array.ext_getElem?;intro j;rw[Rr off c.toList 0 l.toArray (by simpa using hle) j];simp only[c8,kD];rw[mU (by simpa using hle)]
theorem OQ {φ:PM} {E:Nat->Prop} {h':HF} {w:World} {a:Act} (hp:Wd φ E h' w a e o) {place:Nat->I (Nat×Nat)}:∀(ps:Y (Nat×Operand)) (ps':Y (Nat×Nat×Operand)) (cells cs:Y AV) (vs:ξ),
 (ps'.length=ps.length)->(∀(j:Nat) i x,ps[j]? =M (i,x)->∃of sz,ps'[j]? =M (of,sz,x)/\place i=M (of,sz))->(∀p∈ps,p.2∈o.op.operands)->Cs φ (tot E φ h') w cells vs->zE cells e ps'=M cs->
 ∃vs',Instr.fill place vs.toArray (ps.map λp=>(p.1,a.eval p.2))=M vs'.toArray/\Cs φ (tot E φ h') w cs vs'
 |[],ps',cells,cs,vs,hl,_,_,hcs,hf=>by
  cases ps' with
  |nil=>simp only[zE,ah]at hf;subst hf;exact⟨vs,rfl,hcs⟩
  |cons _ _=>simp at hl
 |(i,x)::ps,ps',cells,cs,vs,hl,hpl,hm,hcs,hf=>by
  obtain⟨of,sz,h1,h2⟩:=hpl 0 i x rfl;cases ps' with
  |nil=>simp at h1
  |cons p ps'=>
   simp at h1;subst h1;simp only[zE]at hf;split at hf
   .rename_i v hv;split at hf
    .rename_i hc;simp only[al,cV]at hc;obtain⟨⟨s,q⟩,c⟩:=hc;have hr:=U8 (hp x v (hm _ (cQ ..)) hv) c;have hsz:(a.eval x).cells.size=sz:=by have:=hr.1;simp at this;omega
     have hle:of+sz<=vs.length:=by rw[hcs.1];exact a_ q
     obtain⟨vs',A,z⟩:=OQ hp ps ps' _ cs _ (by simpa using hl) (λj i x hj=>by have:=hpl (j+1) i x (by simpa using hj);simpa using this) (λp hp=>hm p (bV _ hp)) (hcs.splice hr of) hf;refine ⟨vs',?_,z⟩;simp only[eS,Instr.fill,h2];have hcd:((decide ((a.eval x).cells.size≠sz))||decide (of+(a.eval x).cells.size>vs.toArray.size))=af:=by
      rw[hsz];simp;omega
     rw[ax (by rw[hcd];simp)];have:=Rq of (a.eval x).cells vs (by rw[hsz];exact hle);rw[<- A,<-this]
    .cases hf
   .cases hf
theorem Ev {t:TypeId}:∀(ps:Y (Nat×Operand)) (ps':Y (Nat×Nat×Operand)),xr P t ps=M ps'->ps'.length=ps.length/\∀(j:Nat) i x,ps[j]? =M (i,x)->∃of sz,ps'[j]? =M (of,sz,x)/\BI P t i=M (of,sz)
 |[],ps',h=>by simp only[xr,ah]at h;subst h;exact⟨rfl,λj i x q=>by simp at q⟩
 |(i,x)::ps,ps',h=>by
  simp only[xr]at h;split at h
  .rename_i of sz l h1 h2;simp only[ah]at h;subst h;obtain⟨z,s⟩:=Ev ps l h2;refine ⟨by simp[z],λj c a hj=>?_⟩;cases j with
   |zero=>simp at hj;obtain⟨rfl,rfl⟩:=hj;exact⟨of,sz,rfl,h1⟩
   |succ j=>simpa using s j c a (by simpa using hj)
  .cases h
theorem IK (w:World):∀(fs:Y Field),(fs.all λf=>(fx P f.type).isSome)=J->(fs.mapM (λf=>do pure (f.offset,<-sizeOf f.type)):Sem (Y (Nat×Nat))).run P w= .ok (fs.map λf=>(f.offset,(fx P f.type).getD 0)) w
 |[],_=>by simp
 |f::fs,h=>by
  simp only[List.all_cons,al]at h;obtain⟨sz,hs⟩:=iT.1 h.1;have h1:=gE hs w;have a:=IK w fs h.2;simp only[List.mapM_cons,eM,h1,cO,oY,a,eS,hs,uW]
theorem XJ {t:TypeId} {ps:Array (Nat×Operand)} {z:ξ} {ps':Y (Nat×Nat×Operand)} (s:o.op= .build t ps) (Z:s_ P t=M z) (hc:mP z=J) (hps:xr P t ps.toList=M ps')
 (hu:(∃fs,P.underlying t=M (.struct fs)/\(fs.toList.all λf=>(fx P f.type).isSome)=J)\/∃n el sz,P.underlying t=M (.array n el)/\fx P el=M sz) (c:eL (.build z ps') e h nx=M R):gP P o e.get h.get R.eff:=by
 simp only[eL]at c;split at c
 .rename_i cs hf;rw[dC c];refine gP.reads λφ E h' w a _ hp _=>?_
  obtain⟨v,h1,h2,_⟩:=tS Z w;have hcells:v.cells=z.toArray:=by rw[<- h2]
  obtain⟨g1,g2⟩:=Ev ps.toList ps' hps;have hops:∀p∈ps.toList,p.2∈o.op.operands:=λp hp=>by
   rw[s];simp only[Op.operands,List.mem_toArray,di];exact⟨p,hp,rfl⟩
  have hmap:(ps.map λx:Nat×Operand=>(x.1,a.eval x.2)).toList=ps.toList.map λp=>(p.1,a.eval p.2):=by simp
  have fin:∀place:Nat->I (Nat×Nat),(∀i,BI P t i≠D->place i=BI P t i)->∃vs':ξ,Instr.fill place v.cells (ps.map λx:Nat×Operand=>(x.1,a.eval x.2)).toList=M vs'.toArray/\cN φ (tot E φ h') w (MN cs) (.agg vs'.toArray):=by
   intro place hpl;obtain⟨vs',k1,k2⟩:=OQ (place:=place) hp ps.toList ps' _ cs z g1 (λj i x hj=>by
    obtain⟨of,sz,U,L⟩:=g2 j i x hj;exact⟨of,sz,U,by rw[hpl i (by rw[L];simp),L]⟩) hops (Cs.raws z hc) hf
   refine ⟨vs',by rw[hmap,hcells];exact k1,?_⟩;unfold MN;cases hfs:xU cs with
   |none=>exact .agg k2.1 k2.2.1 k2.2.2
   |some fs=>
    have he:=pY hfs;refine .f (.agg fs vs' (by rw[k2.1,he];simp) (λx q=>k2.2.1 (.f x) (by rw[he];exact di.2 ⟨x,q,rfl⟩)) λj x u q hu=>?_);have:=k2.2.2 j (.f x) u (by rw[he,ba,q];rfl) hu;cases this with
    |f h=>exact h
  rcases hu with ⟨fs,hu,hall⟩|⟨n,el,sz,hu,hs⟩
  .obtain⟨vs',k1,k2⟩:=fin (λi=>(fs.map λf=>(f.offset,(fx P f.type).getD 0))[i]?) (λi hi=>by
    unfold BI at hi ⊢;rw[hu]at hi ⊢;simp only[Array.getElem?_map]at hi ⊢;cases hf:fs[i]? with
    |none=>rw[hf]at hi;simp at hi
    |some f=>
     simp only[cj,aF];cases hs:fx P f.type with
     |none=>rw[hf]at hi;simp[hs]at hi
     |some sz=>simp)
   refine ⟨_,?_,k2⟩;have hm:=IK w fs.toList hall;have A:(fs.mapM (λf=>do pure (f.offset,<-sizeOf f.type)):Sem (Array (Nat×Nat))).run P w= .ok (fs.map λf=>(f.offset,(fx P f.type).getD 0)) w:=by
    rw[Array.mapM_eq_mapM_toList];simp only[Sem.run_map,hm,cO];congr 1;apply Lg;simp
   unfold execOp;rw[s];simp only[Instr.build,eM,h1,cO,run_underlying hu,A,oY,k1]
  .obtain⟨vs',k1,k2⟩:=fin (λi=>M (i*sz,sz)) (λi hi=>by
    unfold BI;rw[hu];simp[hs])
   refine ⟨_,?_,k2⟩;have h3:=gE hs w;unfold execOp;rw[s];simp only[Instr.build,eM,h1,cO,run_underlying hu,h3,oY,k1]
 .cases c
end
section
variable {P:Program} {o:Oper} {e:Ab} {h:oq} {nx:Nat} {R:Ck}
theorem sK {t el:TypeId} (h:Ba P t=M el):P.underlying t=M (.slice el):=by
 unfold Ba at h;split at h
 .rename_i e hu;simp only[ah]at h;subst h;exact hu
 .cases h
theorem mW (z:ξ):∀n,(repl z n).length=n*z.length
 |0=>by simp[repl]
 |n+1=>by simp[repl,mW z n,iZ];omega
theorem CG (z:ξ):∀(n j:Nat),j<n*z.length->(repl z n)[j]? =(z[j%z.length]?).map .raw
 |0,j,h=>by simp at h
 |n+1,j,h=>by
  have a:0<z.length:=by
   rcases Lb z.length with h0|h0
   .rw[h0]at h;simp at h
   .exact h0
  rw[repl];rcases ca j z.length with hj|hj
  .rw[bQ (by simpa using hj),ba,Nat.mod_eq_of_lt hj]
  .rw[cf (by simpa using hj),bR,CG z n (j-z.length) (by rw[iZ]at h;omega),Nat.mod_eq_sub_mod hj]
theorem XR {v:Value} {z:ξ} (hv:v.cells.toList=z) (n sz:Nat) (hl:z.length=sz) (hsz:sz≠0) (j:Nat) (hj:j<n*sz):
 ((yH (n*sz)).map (λi=>v.cells[i%v.cells.size]!))[j]? =z[j%sz]? :=by
 have hs:v.cells.size=sz:=by rw[<- hl,<-hv];simp
 have hlt:j%sz<v.cells.size:=by rw[hs];exact Nat.mod_lt _ (by omega)
 rw[Array.getElem?_map,Array.getElem?_range];simp only[hj,bG,cj,hs];rw[<- hv,cz,getElem!_pos v.cells _ hlt,iv hlt]
theorem Cs.repl {φ:PM} {O:Nat->Prop} {w:World} {v:Value} {z:ξ} (hv:v.cells.toList=z) (n sz:Nat) (hl:z.length=sz) (hsz:sz≠0) (hc:mP z=J):
 Cs φ O w ((repl z n).map .f) ((yH (n*sz)).map (λi=>v.cells[i%v.cells.size]!)).toList:=by
 have key:∀(j:Nat) (x:AV),((AI.repl z n).map AV.f)[j]? =M x->∃u,z[j%sz]? =M u/\x=raw u/\j<n*sz:=by
  intro j x a;rw[ba]at a;have hj:j<n*z.length:=by
   rcases ca j (n*z.length) with h|h
   .exact h
   .rw[bE (by rw[mW];exact h)]at a;cases a
  rw[CG z n j hj,hl]at a;cases hu:z[j%sz]? with
  |none=>rw[hu]at a;cases a
  |some u=>rw[hu]at a;simp at a;exact⟨u,rfl,a.symm,by rw[<- hl];exact hj⟩
 refine ⟨by simp[mW,hl],λx a=>?_,λj x u a hu=>?_⟩
 .obtain⟨j,hj⟩:=fc a;obtain⟨u,h1,rfl,_⟩:=key j x hj;exact gA.1 hc u (aX h1)
 .obtain⟨c,h1,rfl,hj⟩:=key j x a;rw[cz,XR hv n sz hl hsz j hj,h1]at hu;cases hu;exact .f (.raw _)
theorem anm {t el:TypeId} {n sz:Nat} {ps:Array (Nat×Operand)} {z:ξ} {ps':Y (Nat×Nat×Operand)} (L:o.op= .buildSlice t n ps) (hu:P.underlying t=M (.slice el)) (hz:s_ P el=M z) (hs:fx P el=M sz) (hc:mP z=J) (hl:z.length=sz) (hsz:sz≠0) (hb:n*sz<=65536)
 (hps:xr P t ps.toList=M ps') (c:eL (.bsl el sz n z ps') e h nx=M R):gP P o e.get h.get R.eff:=by
 simp only[eL]at c;split at c
 .rename_i cs hf;simp only[ah]at c;subst c;refine gP.makes λφ E h' w a _ hp _=>?_
  obtain⟨v,h1,h2,_⟩:=tS hz w;obtain⟨g1,g2⟩:=Ev ps.toList ps' hps;have hops:∀p∈ps.toList,p.2∈o.op.operands:=λp hp=>by
   rw[L];simp only[Op.operands,List.mem_toArray,di];exact⟨p,hp,rfl⟩
  have hmap:(ps.map λx:Nat×Operand=>(x.1,a.eval x.2)).toList=ps.toList.map λp=>(p.1,a.eval p.2):=by simp
  obtain⟨vs',k1,k2⟩:=OQ (place:=λi=>M (i*sz,sz)) hp ps.toList ps' _ cs _ g1 (λj i x hj=>by
   obtain⟨of,s',U,q⟩:=g2 j i x hj;unfold BI at q;rw[hu]at q;simp[hs]at q;obtain⟨rfl,rfl⟩:=q;exact⟨_,_,U,rfl⟩) hops (Cs.repl h2 n sz hl hsz hc) hf
  have hcells:(yH (n*sz)).map ((if n*sz=0 then #[] else v.cells)[·%(if n*sz=0 then #[] else v.cells).size]!)=((yH (n*sz)).map (λi=>v.cells[i%v.cells.size]!)).toList.toArray:=by
   by_cases h0:n*sz=0
   .simp[h0]
   .rw[Array.toArray_toList];simp only[ax h0]
  have hlen:vs'.length=n*sz:=by
   have e1:=k2.1;have e2:cs.length=((AI.repl z n).map AV.f).length:=by
    have:∀(ps':Y (Nat×Nat×Operand)) (A s:Y AV),zE A e ps'=M s->s.length=A.length:=by
     intro ps';induction ps' with
     |nil=>intro A s h;simp only[zE,ah]at h;rw[h]
     |cons p ps' Z=>
      intro A s h;obtain⟨of,s',x⟩:=p;simp only[zE]at h;split at h
      .split at h
       .rename_i hcc;simp only[al,cV]at hcc;rw[Z _ _ h,oJ (by rw[hcc.1.1];exact a_ hcc.1.2)]
       .cases h
      .cases h
    exact this ps' _ _ hf
   rw[e1,e2];simp[mW,hl]
  refine ⟨.slice (M ⟨w.heap.size,0,D⟩) n n,{w with heap:=w.heap.push (.cells vs'.toArray el)},.cells vs'.toArray el (0,0),?_,ri w _,IE k2,λφ' O hφ=>?_⟩
  .have h3:=gE hs w;have hk:Instr.fill (λi=>M (i*sz,sz)) ((yH (n*sz)).map ((if n*sz=0 then #[] else v.cells)[·%(if n*sz=0 then #[] else v.cells).size]!)) (ps.map λx:Nat×Operand=>(x.1,a.eval x.2)).toList=M vs'.toArray:=by
    rw[hcells,hmap];exact k1
   unfold execOp;rw[L];simp only[Instr.buildSlice,eM,run_underlying hu,cO,h3];rw[ax (by omega)];by_cases h0:n*sz=0
   .simp only[aC h0]at hk ⊢;simp only[eM,oY,cO,hk,newRow,newObj,kn]
   .simp only[ax h0]at hk ⊢;simp only[eM,oY,cO,h1,hk,newRow,newObj,kn]
  .simp only[];split
   .rename_i h0;subst h0;exact .emp
   refine .row hφ (bP _) ?_ ⟨el,?_⟩
   .have:n<=n*sz:=Nat.le_mul_of_pos_right _ (by omega);unfold maxLen;omega
   .unfold rU;simp[hlen]
 .cases c
end
theorem re.wren {φ:PM} {E:Nat->Prop} {h:HF} {w w':World} (r:re φ E h w) {id nx k:Nat} {b b':vT} {ob:Obj} (hb:h id=M b) (hk:φ id=M k) (hnx:φ nx=D) (s:Fx w w' k ob) (hob:jh φ (tot E φ h) w b' ob) (nw:HF) (hnw:nw nx=M b') (hnid:nw id=D):
 ∃φ',φ' nx=M k/\ji φ φ' h (eV h [nx,id] nw) w w'/\(∀i k,φ' i=M k->φ i=M k\/i∈[nx])/\re φ' E (eV h [nx,id] nw) w':=by
 have hne:nx≠id:=λe=>by rw[e,hk]at hnx;cases hnx
 have hsub:∀i x,eV h [nx,id] nw i=M x->i≠nx->h i=M x/\i≠id:=λi x z hi=>by
  unfold eV at z;by_cases hd:i=id
  .subst hd;simp[hnid]at z
  .simp[hi,hd]at z;exact⟨z,hd⟩
 have hφ:∀i,i≠nx->(if i=nx then M k else φ i)=φ i:=λi hi=>by simp[hi]
 have m:ji φ (λi=>if i=nx then M k else φ i) h (eV h [nx,id] nw) w w':=by
  refine ⟨λi k' q=>?_,⟨s.os,s.tape,s.output,by rw[s.size];exact bP _,λj hj ho=>?_,λj _=>s.shp j⟩,?_⟩
  .have:i≠nx:=λe=>by rw[e,hnx]at q;cases q
   rw[hφ i this];exact q
  .exact s.other j (λe=>ho (e▸⟨id,b,hb,hk⟩))
  .rintro j hj ⟨i,x,h1,h2⟩;by_cases hi:i=nx
   .simp[hi]at h2;subst h2;exact⟨id,b,hb,hk⟩
   .have A:φ i=M j:=by simpa[hi] using h2
    exact⟨i,x,(hsub i x h1 hi).1,A⟩
 refine ⟨_,by simp,m,λi k' q=>?_,⟨λi j x y Z hi hj h1 h2=>?_,λi x hi=>?_,λk hk=>dD (r.el k hk) m.ext.size,λg cells hg=>m.keepF (r.gl g cells hg)⟩⟩
 .by_cases hi:i=nx
  .right;simp[hi]
  .left;rw[hφ i hi]at q;exact q
 .by_cases a:i=nx
  .by_cases c:j=nx
   .rw[a,c]
   .exfalso;rw[hφ j c]at h2;simp[a]at h1;subst h1;obtain⟨U,L⟩:=hsub j y hj c;exact L (r.inj j id y b k U hb h2 hk)
  .rw[hφ i a]at h1;obtain⟨p1,p2⟩:=hsub i x hi a;by_cases c:j=nx
   .exfalso;simp[c]at h2;subst h2;exact p2 (r.inj i id x b k p1 hb h1 hk)
   .rw[hφ j c]at h2;exact r.inj i j x y Z p1 (hsub j y hj c).1 h1 h2
 .by_cases a:i=nx
  .subst a;have:x=b':=by unfold eV at hi;simp[hnw]at hi;exact hi.symm
   subst this;obtain⟨k',h1,h2,_⟩:=r.at_ id b hb;rw[hk]at h1;cases h1;exact⟨k,by simp,h2,ob,s.at_,hob.mono λ_ _ h=>m.keep h⟩
  .obtain⟨p1,p2⟩:=hsub i x hi a;obtain⟨k',h1,h2,ob',A,h4⟩:=r.at_ i x p1;have hne':k'≠k:=λe=>p2 (r.inj i id x b k p1 hb (e▸h1) hk)
   exact⟨k',by rw[hφ i a];exact h1,h2,ob',by rw[s.other k' hne'];exact A,h4.mono λ_ _ h=>m.keep h⟩
theorem re.cs {φ:PM} {E:Nat->Prop} {h':HF} {w:World} (hrep:re φ E h' w) {id k:Nat} {b:vT} (hb:h' id=M b) (hk:φ id=M k) (hc:b.c.isCells=J):
 ∃arr,w.heap[k]? =M (.cells arr b.ty (0,0))/\Cs φ (tot E φ h') w b.c.toMx (arr.toList.take b.c.toMx.length)/\b.c.toMx.length<=arr.size:=by
 obtain⟨k',h1,_,h2⟩:=hrep.at_ id b hb;rw[hk]at h1;cases h1;obtain⟨arr,L,s,q⟩:=h2.cells hc;rw[BC.len_toMx hc]at s;refine ⟨arr,L,⟨by simp;omega,λx a=>?_,λj x v a hv=>?_⟩,s⟩
 .obtain⟨j,hj⟩:=fc a;exact (q j x (by rw[BC.get_toMx hc];exact hj)).1
 .obtain⟨_,u,A,z⟩:=q j x (by rw[BC.get_toMx hc];exact a);rw[cR]at hv;split at hv
  .rw[cz,A]at hv;cases hv;exact z
  .cases hv
section
variable {P:Program} {o:Oper} {e:Ab} {h:oq} {nx:Nat} {R:Ck}
theorem Nu {t:TypeId} {b:Nat} (hb:Fq P t=M b):∃i,P.info? t=M i/\i.bytes=b:=by
 unfold Fq at hb;cases hi:P.info? t with
 |none=>rw[hi]at hb;cases hb
 |some i=>rw[hi]at hb;simp at hb;exact⟨i,rfl,hb⟩
theorem Ir {n b:Nat} (h:bc n b=J):n<=1099511627776/\n*b<=1099511627776:=by
 simp only[bc,al]at h;exact⟨a_ h.1,a_ h.2⟩
theorem ZM {n:Int} (h1: -9223372036854775808<=n) (h2:n<=9223372036854775807):o6 .i64 n=n:=by
 rw[<- yS];have:(cZ (-9223372036854775808) n&&cZ n 9223372036854775807)=J:=by simp[cZ,h1,h2]
 simp only[HH,Mu,this,bG]
theorem ajy {t el:TypeId} {sz bytes:Nat} {z:ξ} {l c:Operand} (ho:o.op= .makeSlice t l c) (hu:P.underlying t=M (.slice el)) (hz:s_ P el=M z) (hs:fx P el=M sz) (hb:Fq P el=M bytes) (hc:mP z=J) (hl:z.length=sz) (hsz:sz≠0)
 (s:eL (.mksl el sz bytes z l c) e h nx=M R):gP P o e.get h.get R.eff:=by
 simp only[eL]at s;split at s
 .rename_i k1 n k2 m q hy;split at s
  .rename_i hcd;simp only[cZ,al,bB]at hcd;obtain⟨⟨h0,h1⟩,h2⟩:=hcd;obtain⟨r1,r2⟩:=Ir h2;simp only[ah]at s;subst s;refine gP.makes λφ E h' w a _ hp _=>?_
   have e1:=fk (hp l _ (by rw[ho];simp[Op.operands]) q);have e2:=fk (hp c _ (by rw[ho];simp[Op.operands]) hy);obtain⟨v,z1,z2,_⟩:=tS hz w;obtain⟨i,i1,i2⟩:=Nu hb;have s1:=gE hs w;have w1:o6 .i64 n=n:=ZM (by omega) (by omega);have w2:o6 .i64 m=m:=ZM (by omega) (by omega);have hbm:(bytes:Int)*m=((m.toNat*bytes:Nat):Int):=by
    rw[Int.natCast_mul,fA (by omega),Int.mul_comm]
   have t1:¬(m<0\/(281474976710656:Int)<bytes*m):=by rw[hbm];omega
   have hr:¬(m.toNat*bytes>roomBytes):=by unfold roomBytes;omega
   have hn0:m.toNat*sz=0->m.toNat=0:=λh=>(Nat.mul_eq_zero.1 h).resolve_right hsz
   let cells:Array Value:=(yH (m.toNat*sz)).map (λi=>v.cells[i%v.cells.size]!)
   refine ⟨.slice (M ⟨w.heap.size,0,D⟩) n.toNat m.toNat,{w with heap:=w.heap.push (.cells cells el)},.cells cells el (0,0),?_,ri w _,?_,λφ' O hφ=>?_⟩
   .unfold execOp;rw[ho];by_cases L:m.toNat*sz=0
    .obtain rfl:m=0:=by have:=hn0 L;omega
     obtain rfl:n=0:=by omega
     simp[Instr.makeSlice,run_underlying hu,e1,e2,asInt,asIntOf,typeInfo,i1,w1,askRoom,s1,newRow,newObj,kn,cells];rw[show yH 0=#[] from rfl];simp
    .simp[Instr.makeSlice,run_underlying hu,e1,e2,asInt,asIntOf,typeInfo,i1,i2,w1,w2,t1,show ¬n<0 by omega,show ¬m<n by omega,askRoom,hr,s1,L,z1,newRow,newObj,kn,cells]
   .have cs:=Cs.repl (φ:=φ) (O:=tot E φ h') (w:=w) z2 m.toNat sz hl hsz hc;have hle:n.toNat<=m.toNat:=by omega
    have hlen:n.toNat*sz<=m.toNat*sz:=cL _ hle;refine qj rfl (by simp[BC.toMx,mW,hl,cells];exact hlen) λj x q=>?_
    simp only[BC.toMx,ba]at q;have hj:j<n.toNat*z.length:=by
     rcases ca j (n.toNat*z.length) with h|h
     .exact h
     .rw[bE (by rw[mW];exact h)]at q;cases q
    have Z:j<m.toNat*z.length:=by rw[hl]at hj ⊢;omega
    rw[CG z _ j hj,<-CG z m.toNat j Z]at q;have A:((repl z m.toNat).map AV.f)[j]? =M x:=by rw[ba];exact q
    have U:j<cells.toList.length:=by simp[cells];rw[<- hl];exact Z
    exact⟨cs.2.1 x (aX A),cells.toList[j],by rw[<- cz];exact ay U,cs.2.2 j x _ A (ay U)⟩
   .refine .row hφ (by omega) (by unfold maxLen;omega) ⟨el,?_⟩;unfold rU;simp[cells]
  .cases s
 .cases s
theorem agd {t:TypeId} {x y:Operand} {sz:Nat} (U:o.op= .store t x y) (hs:fx P t=M sz) (s:eL (.store sz x y) e h nx=M R):gP P o e.get h.get R.eff:=by
 simp only[eL]at s;split at s
 .rename_i p v hx hy;unfold KL at s;split at s
  .rename_i id off;split at s
   .rename_i b hb;split at s
    .rename_i hl;split at s
     .rename_i c' hput;simp only[ah]at s;subst s;unfold BC.put at hput;split at hput
      .rename_i hcc;simp only[al]at hcc;obtain⟨⟨c1,c2⟩,c3⟩:=hcc;have c2:=a_ c2;have hl:v.cs.length=sz:=by simpa using hl
       have z:c'.toMx=splice b.c.toMx off v.cs/\c'.isCells=J:=by
        split at hput
        .rename_i l ys hbl hys;simp only[ah]at hput;subst hput;refine ⟨?_,rfl⟩;have hv:=pY hys;rw[hv,hbl];simp only[BC.toMx];unfold splice;simp[kS,List.map_drop]
        .simp only[ah]at hput;subst hput;exact⟨rfl,rfl⟩
       refine gP.writes hb λφ E h' w a hrd Z hp hrep=>?_
       have hr:=U8 (hp y _ (by rw[U];simp[Op.operands]) hy) c3;have hpx:=hp x _ (by rw[U];simp[Op.operands]) hx;generalize hz:a.eval x=pv at hpx;cases hpx with
       |@ptr _ _ k hφ=>
        obtain⟨arr,g1,g2,g3⟩:=hrep.cs Z hφ c1;have hvl:(a.eval y).cells.toList.length=sz:=by rw[hr.1];exact hl
        rw[BC.len_toMx c1]at c2;have hst:=run_storeCells_at (P:=P) k off b.ty (a.eval y).cells.toList 0 arr w g1 (by rw[hvl];omega) hr.one
        let arr':Array Value:=(arr.toList.take off++(a.eval y).cells.toList++arr.toList.drop (off+sz)).toArray
        have hsize:arr'.size=arr.size:=by simp only[arr',tC,be,bA,mR,iF,hvl];omega
        refine ⟨.skip,w.setRow k arr',k,.cells arr' b.ty (0,0),?_,hφ,Fx.setRow g1 hsize,?_,undef,.inr ⟨rfl,rfl⟩,.f (.raw _)⟩
        .have s1:=gE hs w;have hvs:(a.eval y).cells.size=sz:=by simpa using hvl
         simp only[c8,hvl]at hst;unfold execOp;rw[U];simp[Instr.storeAt,hz,Instr.sureAddr,storeVar,s1,hvs,hst,arr']
        .refine qj z.2 (by rw[z.1,oJ (by omega),hsize];exact g3) λj q hq=>?_
         rw[z.1,mU (by omega)]at hq;have ha':arr'[j]? =if j<off then arr.toList[j]? else if j<off+sz then (a.eval y).cells.toList[j-off]? else arr.toList[j]? :=by
          have:=mU (l:=arr.toList) (vs:=(a.eval y).cells.toList) (off:=off) (by have:=hvl;simp only[iF]at this ⊢;omega) j;unfold splice at this;rw[hvl]at this;simp only[arr',kD];exact this
         have old:b.c.toMx[j]? =M q->q.isCell=J/\∃u,arr.toList[j]? =M u/\cN φ (tot E φ h') w q u:=λhq=>by
          have hj:j<b.c.toMx.length:=(bh.1 hq).1;have L:j<arr.toList.length:=by simp;omega
          refine ⟨g2.2.1 q (aX hq),arr.toList[j],ay L,g2.2.2 j q _ hq ?_⟩;rw[cR,aC hj,ay L]
         rw[ha'];by_cases h1:j<off
         .rw[aC h1]at hq ⊢;exact old hq
         .rw[ax h1]at hq ⊢;by_cases h2:j<off+sz
          .rw[aC (by omega)]at hq;rw[aC h2];have A:j-off<(a.eval y).cells.toList.length:=by omega
           exact⟨hr.2.1 q (aX hq),_,ay A,hr.2.2 _ q _ hq (ay A)⟩
          .rw[ax (by omega)]at hq;rw[ax h2];exact old hq
      .cases hput
     .cases s
    .cases s
   .cases s
  .cases s
 .cases s
end
end
end Go.Proofs.YtloaobgmjdjhhaaGreatDoor.AI
