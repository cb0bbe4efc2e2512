/-
  Texts of the proof, part 3 of 5: what is used to prove the statement. No condition.
-/
import Derived.Test.YtloaobgmjdjhhaaGreatDoorEpochQuietQ1
import Derived.WalkSpells
import Derived.Laws.CopyRow
import Derived.Deep.AppendSrc
import Derived.Laws.AppendOwn
namespace Go.Proofs.YtloaobgmjdjhhaaGreatDoor.AI
open Go.RowKit
set_option maxRecDepth 100000
set_option maxHeartbeats 4000000
set_option linter.unusedVariables false
set_option linter.unusedSimpArgs false
open _root_.Array renaming length_toList→iC,range→yi
open _root_.Bool renaming true→J,false→af,and_false→KI
open Builtin renaming zeroCells→lM,firstCells→KH
open Call renaming operands→eU
open Instr renaming findNow→eT,sliceBounds→jY,sliceBound→kL,sliceAt→pD,findKey→sJ,slice→uA,sameBits→KF
open _root_.Int renaming ofNat_eq_natCast→ak,ofNat→aN,toNat→aP,reduceEq→aY,reduceNeg→bn,toNat_natCast→cB
open IntKind renaming wrap→oV
open _root_.List renaming length→ai,replicate→aB,length_cons→bX,take→dI,range→dR,length_singleton→eP,length_nil→gr,cons_append→gx,nil_append→j8,getElem?_cons_zero→lK,foldl_cons→Fk
open _root_.Nat renaming beq→aA,add_zero→cZ,min→iW
open Oper renaming wp→Hh
open _root_.Option renaming some→M,none→D,bind_some→aF,map_some→ca,getD_some→uK
open _root_.Prod renaming p2→aX,p3→bm,p4→bw,q3→bN,p5→cC,q5→cW,q4→du,p6→eB,q6→fw,p7→kO,q7→lJ,q8→pZ
open Result renaming andThen_ok→cN
open Sem renaming run_bind→eM,run→ki,run_pure→oS
open Value.bool renaming injEq→B5
open World renaming shape?→rM,cell?→Nc
noncomputable section
abbrev iA (l:Y IT) (k:Nat):IT:=aI (T:=Bm) l (k:Int)
def JT (l:Y IT) (ρ:Nat->Nat) (a e k:Nat):Prop:=(iA l k).1=5->∃k':Nat,(iA l k).2.1=(k':Int)/\(k'=e\/a<=k'/\k'<e/\ρ k'<ρ k)
def qM (l:Y IT) (a e:Nat):Prop:=a<=e/\∃ρ:Nat->Nat,∀k,a<=k->k<e->1<=ρ k/\ρ k<=e-a/\JT l ρ a e k/\((iA l k).1<5->k+1=e\/ρ (k+1)<ρ k)
theorem qM.nil (l:Y IT) (a:Nat):qM l a a:=⟨bU _,λ_=>0,λk h1 h2=>by omega⟩
theorem qM.one {l:Y IT} {a:Nat} (h:¬(iA l a).1=5):qM l a (a+1):=⟨by omega,λ_=>1,λk h1 h2=>⟨bU 1,by show 1<=a+1-a;omega,λc=>by rw[show k=a by omega]at c;exact (h c).elim,λ_=>.inl (by omega)⟩⟩
theorem qM.congr {l c:Y IT} {a e:Nat} (h:qM l a e) (hc:∀k,a<=k->k<e->iA c k=iA l k):qM c a e:=by
 obtain⟨h1,ρ,h2⟩:=h;exact⟨h1,ρ,λk s q=>by unfold JT;rw[hc k s q];exact h2 k s q⟩
theorem qM.app {l:Y IT} {a b c:Nat} (h:qM l a b) (k:qM l b c):qM l a c:=by
 obtain⟨h1,ρ,h2⟩:=h;obtain⟨k1,σ,k2⟩:=k;refine ⟨by omega,λk=>if k<b then ρ k+(c-b) else σ k,λk L A=>?_⟩;by_cases hk:k<b
 .obtain⟨s,z,q3,q4⟩:=h2 k L hk;simp only[aC hk];refine ⟨by omega,by omega,?_,λq=>?_⟩
  .intro q;simp only[aC hk];obtain⟨k',e,r⟩:=q3 q;refine ⟨k',e,?_⟩;rcases r with r|⟨r1,r2,r3⟩
   .subst r;by_cases hc:k'=c
    .exact .inl hc
    .have:=(k2 k' (bU _) (by omega)).2.1;rw[ay (wR _)];exact .inr ⟨by omega,by omega,by omega⟩
   .rw[aC r2];exact .inr ⟨r1,by omega,by omega⟩
  .rcases q4 q with r|r
   .by_cases hc:k+1=c
    .exact .inl hc
    .have:=(k2 (k+1) (by omega) (by omega)).2.1;rw[ay (by omega)];exact .inr (by omega)
   .by_cases hb:k+1<b
    .rw[aC hb];exact .inr (by omega)
    .rw[ay hb];by_cases hc:k+1=c
     .exact .inl hc
     .have:=(k2 (k+1) (by omega) (by omega)).2.1;exact .inr (by omega)
 .obtain⟨s,z,q3,q4⟩:=k2 k (by omega) A;simp only[ay hk];refine ⟨s,by omega,?_,λq=>?_⟩
  .intro q;simp only[ay hk];obtain⟨k',e,r⟩:=q3 q;refine ⟨k',e,r.imp id λ⟨r1,r2,r3⟩=>⟨by omega,r2,?_⟩⟩;rw[ay (by omega)];exact r3
  .rw[ay (by omega)];exact q4 q
theorem qM.ite {l:Y IT} {a j e:Nat} (h:qM l a j) (hj:(iA l j).1=5) (z:(iA l j).2.1=(e:Int)) (k:qM l (j+1) e):qM l a e:=by
 obtain⟨h1,ρ,h2⟩:=h;obtain⟨k1,σ,k2⟩:=k;refine ⟨by omega,λk=>if k<j then ρ k+(e-j) else if k=j then e-j else σ k,λk L A=>?_⟩;by_cases hk:k<j
 .obtain⟨q,s,q3,q4⟩:=h2 k L hk;simp only[aC hk];refine ⟨by omega,by omega,?_,λc=>?_⟩
  .intro c;simp only[aC hk];obtain⟨k',e',r⟩:=q3 c;refine ⟨k',e',.inr ?_⟩;rcases r with r|⟨r1,r2,r3⟩
   .rw[r,ay (wR _),aC rfl];exact⟨by omega,by omega,by omega⟩
   .rw[aC r2];exact⟨r1,by omega,by omega⟩
  .refine .inr ?_;by_cases hb:k+1<j
   .rw[aC hb];rcases q4 c with r|r<;>omega
   .rw[ay hb,aC (by omega)];omega
 .by_cases hkj:k=j
  .subst hkj;simp only[ay hk,aC];exact⟨by omega,by omega,λ_=>⟨e,z,.inl rfl⟩,λc=>by rw[hj]at c;omega⟩
  .obtain⟨q,s,q3,q4⟩:=k2 k (by omega) A;simp only[ay hk,ay hkj];refine ⟨q,by omega,?_,λc=>?_⟩
   .intro c;simp only[ay hk,ay hkj];obtain⟨k',e',r⟩:=q3 c;refine ⟨k',e',r.imp id λ⟨r1,r2,r3⟩=>⟨by omega,r2,?_⟩⟩;rw[ay (by omega),ay (by omega)];exact r3
   .rw[ay (by omega),ay (by omega)];exact q4 c
theorem qM.whl {l:Y IT} {a c j:Nat} (h:qM l a c) (hc:(iA l c).1=10) (k:qM l (c+1) j) (hj:(iA l j).1=5) (L:(iA l j).2.1=(a:Int)):qM l a (j+1):=by
 obtain⟨h1,ρ,h2⟩:=h;obtain⟨k1,σ,k2⟩:=k;refine ⟨by omega,λk=>if k<c then ρ k+1 else if k=c then 1 else if k<j then σ k+(c-a)+2 else c-a+2,λk U Z=>?_⟩;by_cases hk:k<c
 .obtain⟨A,z,q3,q4⟩:=h2 k U hk;simp only[aC hk];refine ⟨by omega,by omega,?_,λq=>?_⟩
  .intro q;simp only[aC hk];obtain⟨k',e',r⟩:=q3 q;refine ⟨k',e',.inr ?_⟩;rcases r with r|⟨r1,r2,r3⟩
   .rw[r,ay (wR _),aC rfl];exact⟨by omega,by omega,by omega⟩
   .rw[aC r2];exact⟨r1,by omega,by omega⟩
  .refine .inr ?_;by_cases hb:k+1<c
   .rw[aC hb];rcases q4 q with r|r<;>omega
   .rw[ay hb,aC (by omega)];omega
 .by_cases hkc:k=c
  .subst hkc;simp only[ay hk,aC];exact⟨by omega,by omega,λq=>by rw[hc]at q;omega,λq=>by rw[hc]at q;omega⟩
  .simp only[ay hk,ay hkc];by_cases hkj:k<j
   .obtain⟨A,z,q3,q4⟩:=k2 k (by omega) hkj;simp only[aC hkj];refine ⟨by omega,by omega,?_,λq=>?_⟩
    .intro q;simp only[ay hk,ay hkc,aC hkj];obtain⟨k',e',r⟩:=q3 q;refine ⟨k',e',.inr ?_⟩;rcases r with r|⟨r1,r2,r3⟩
     .rw[r,ay (by omega),ay (by omega),ay (wR _)];exact⟨by omega,by omega,by omega⟩
     .rw[ay (by omega),ay (by omega),aC r2];exact⟨by omega,by omega,by omega⟩
    .refine .inr ?_;rw[ay (by omega),ay (by omega)];by_cases hb:k+1<j
     .rw[aC hb];rcases q4 q with r|r<;>omega
     .rw[ay hb];omega
   .have hkj:k=j:=by omega
    subst hkj;simp only[ay (wR _)];refine ⟨by omega,by omega,λ_=>⟨a,L,.inr ⟨bU _,by omega,?_⟩⟩,λq=>by rw[hj]at q;omega⟩;simp only[ay hk,ay hkc,ay (wR _)];by_cases s:a<c
    .rw[aC s];have:=(h2 a (bU _) s).2.1;omega
    .rw[ay s,aC (by omega)];omega
def OB (nT:Nat) (i:IT):Prop:=
 if i.1=6 then 0<=i.2.2.1/\i.2.2.1<=2 else if i.1=8 then 0<=i.2.1/\i.2.1<=2 else if i.1=7 then i.2.2.1=3/\i.2.2.2.2.1=2 else if i.1=9 then i.2.1=3/\i.2.2.2.2.1=2 else if i.1=11\/i.1=12 then i.2.1=0\/i.2.1=1 else if 13<=i.1/\i.1<=16 then i.2.1=2 else if 21<=i.1/\i.1<=23 then i.2.1=0 else if i.1=24\/i.1=25 then 0<=i.2.1/\i.2.1<(nT:Int) else if i.1=26 then i.2.1=0 else if i.1=27 then i.2.2.1=0 else if i.1=4 then 6<=i.2.2.2.2.1/\i.2.2.2.2.1<=18 else ¬i.1=3
structure GO (nT:Nat) (i:IT):Prop where
 o1:1<=i.1
 o2:i.1<=27
 r:∀j:Int,j∈iR i->0<=j/\j<32
 b:OB nT i
def SO (ss:Y π) (t s:Int):Prop:=0<=s/\s<ss.length/\(aI (T:=xJ) ss s).1=t
structure GI (nT:Nat) (ss:List π) (t:Int) (i:IT):Prop where
 o:GO nT i
 s:SO ss t i.2.2.2.2.2
theorem TQ (l:Y IT) (hl:l.length<=1000000) (h1:1<=l.length) (hb:qM l 0 (l.length-1)) (he:(iA l (l.length-1)).1=28) (k:Nat) (hk:k<l.length):pm (l,(k:Int))=M J:=by
 obtain⟨_,ρ,hρ⟩:=hb;refine cG ?_;unfold pm bf bA jG bO aV cR aE cH;refine qb (λx=>((l.length:Int)+1-x.2).toNat) (λx=>0<=x.2/\∃q:Nat,x.1=(q:Int)/\q<l.length/\((if q<l.length-1 then ρ q else 0:Nat):Int)+x.2<=(l.length:Int)) ?_ ⟨by dsimp only;omega,k,rfl,hk,?_⟩
 .rintro⟨a,(n:Int)⟩ ⟨n0,q,e,hq,hr⟩;dsimp only at n0 e hr;subst e;refine fH (λ_=>?_) λg=>(by dsimp only[ak]at g;omega)
  refine gO ?_;refine gO (bK (λg=>by dsimp only at g;omega) λ_=>aj ?_);refine fA (by rw[mg];dsimp only[ak];omega) ?_;refine cI (aT ?_);refine aS (Fc _) ?_;refine ey (λ_=>aj rfl) λhs=>?_
  have hs:1<=(iA l q).1/\(iA l q).1<=5:=be hs;have s:q<l.length-1:=vm λh=>by rw[show q=l.length-1 by omega]at hs;rw[he]at hs;omega
  obtain⟨r1,r2,r3,U⟩:=hρ q (iD _) s;rw[aC s]at hr;refine cI (aT ?_);have fin:∀c:Nat,c=l.length-1\/c<l.length-1/\ρ c<ρ q->0<=n+1/\∃z:Nat,(c:Int)=(z:Int)/\z<l.length/\((if z<l.length-1 then ρ z else 0:Nat):Int)+(n+1)<=(l.length:Int):=λc h=>⟨by omega,c,rfl,by omega,by
   rcases h with h|⟨h,h'⟩
   .rw[ay (by omega)];omega
   .rw[aC h];omega⟩
  refine aK (λA=>?_) λA=>aj (aj ?_)
  .obtain⟨c,e,L⟩:=r3 A;refine aO (eK _) (by dsimp only;omega) (aT (aj (aj ?_)));dsimp only;rw[iK (n:=n+1) (by omega) (by omega)];have:=fin c (L.imp id λh=>⟨h.2.1,h.2.2⟩);rw[<- e]at this;exact⟨this,by omega⟩
  .dsimp only;have A:¬(iA l q).1=5:=A;rw[iK (n:=n+1) (by omega) (by omega),gU (by omega)];refine ⟨fin (q+1) ?_,by omega⟩;rcases U (by omega) with h|h
   .exact .inl h
   .by_cases hb:q+1=l.length-1
    .exact .inl hb
    .exact .inr ⟨by omega,h⟩
 .dsimp only;split
  .rename_i h;have:=(hρ k (iD _) h).2.1;omega
  .omega
theorem Kl (w:WT) (a:w.1=C0):nu (w,3,2)=M J:=by
 refine cG ?_;have h0:(0:Int)<=3:=by decide
 have h1:(3:Int)<(w.1.length:Int):=by rw[a];decide
 have c:aI (T:=L6) w.1 3=([113],0,2,af,0):=by rw[a];rfl
 unfold nu bf jf bO aV aE;refine gO (aS (rV _ _) (aK (λ_=>?_) λh=>(h ⟨h0,h1⟩).elim));dsimp only;rw[c];refine aO h0 h1 (aT (aK (λ_=>?_) λh=>(h rfl).elim));refine aO h0 h1 (aT (b9 (λ_=>?_) λh=>ct h (by decide)));exact aO h0 h1 (aT (aj (aj rfl)))
theorem NA {nT:Nat} (w:WT) (i:IT) (Z:WX w) (hT:w.2.2.2.2.1.length=nT) (hb:OB nT i):lX (w,i)=M J:=by
 obtain⟨hc,hl,hd,hf,_,_,_⟩:=Z;refine cG ?_;unfold lX aX bm bw cC eB bf jG bO aV aE;unfold OB at hb;simp only[rV,V_];refine aK (λh=>?_) λU=>?_
 .rw[aC h]at hb;have c:(aI (T:=L6) w.1 i.2.2.1).2.2.1=(0:Int):=by
   rw[hc];rcases (by omega:i.2.2.1=0\/i.2.2.1=1\/i.2.2.1=2) with h|h|h<;>rw[h]<;>rfl
  have hi:0<=i.2.2.1/\i.2.2.1<(w.1.length:Int):=⟨hb.1,by rw[hc];have:=hb.2;show i.2.2.1<5;omega⟩
  exact gO (aK (λ_=>aO hi.1 hi.2 (aT (aj (aj (aR c))))) λh=>(h hi).elim)
 rw[ay U]at hb;refine aK (λh=>?_) λA=>?_
 .rw[aC h]at hb;have c:(aI (T:=L6) w.1 i.2.1).2.2.1=(0:Int):=by
   rw[hc];rcases (by omega:i.2.1=0\/i.2.1=1\/i.2.1=2) with h|h|h<;>rw[h]<;>rfl
  have hi:0<=i.2.1/\i.2.1<(w.1.length:Int):=⟨hb.1,by rw[hc];have:=hb.2;show i.2.1<5;omega⟩
  exact gO (aK (λ_=>aO hi.1 hi.2 (aT (aj (aj (aR c))))) λh=>(h hi).elim)
 rw[ay A]at hb;refine aK (λh=>?_) λL=>?_
 .rw[aC h]at hb;rw[hb.1,hb.2];exact aS (Kl w hc) (aj rfl)
 rw[ay L]at hb;refine aK (λh=>?_) λz=>?_
 .rw[aC h]at hb;rw[hb.1,hb.2];exact aS (Kl w hc) (aj rfl)
 rw[ay z]at hb;refine aU (λx=>x.2=(w,i)/\(x.1=J↔i.1=11\/i.1=12)) (aK (λh=>aj ⟨rfl,λ_=>.inl h,λ_=>aR h⟩) λh=>aj ⟨rfl,λh2=>.inr (be h2),λh2=>aR (h2.resolve_left h)⟩) ?_;rintro⟨b,x⟩ ⟨e,q⟩;dsimp only at e q;subst e;refine aQ (λh=>?_) λh=>?_
 .rw[aC (q.1 h)]at hb;have c:(aI (T:=Ti) w.2.1 i.2.1).2=af:=by
   rw[hl];rcases hb with h|h<;>rw[h]<;>rfl
  have hi:0<=i.2.1/\i.2.1<(w.2.1.length:Int):=⟨by omega,by rw[hl];show i.2.1<3;omega⟩
  exact gO (aK (λ_=>aO hi.1 hi.2 (aT (aj (aj (by dsimp only;rw[c];rfl))))) λh=>(h hi).elim)
 rw[ay λh2=>by rw[q.2 h2]at h;cases h]at hb;have hj:∀{p:Prop} {b:Bool},(b=J->p)->(p->b=J)->b=af->¬p:=λ_ h2 s a=>by rw[h2 a]at s;cases s
 refine aU (λx=>x.2=(w,i)/\(x.1=J->13<=i.1/\i.1<=16)/\(13<=i.1/\i.1<=16->x.1=J)) (aK (λh=>aj ⟨rfl,λ_=>by first|omega|(dsimp only at h;omega),λ_=>aR h⟩) λ_=>aK (λh=>aj ⟨rfl,λ_=>by first|omega|(dsimp only at h;omega),λ_=>aR h⟩) λ_=>aK (λh=>aj ⟨rfl,λ_=>by first|omega|(dsimp only at h;omega),λ_=>aR h⟩) λ_=>aj ⟨rfl,λh=>by have:=be h;first|omega|(dsimp only at this;omega),λh=>aR (by first|omega|(dsimp only at *;omega))⟩) ?_;rintro⟨b,x⟩ ⟨e,h1,h2⟩;dsimp only at e h1 h2;subst e;refine aQ (λh=>?_) λh=>?_
 .rw[aC (h1 h)]at hb;have hi:0<=i.2.1/\i.2.1<(w.2.1.length:Int):=⟨by omega,by rw[hl];show i.2.1<3;omega⟩
  exact gO (aK (λ_=>aO hi.1 hi.2 (aT (aj (aj (by dsimp only;rw[hb,hl];rfl))))) λh=>(h hi).elim)
 rw[ay (hj h1 h2 h)]at hb;refine aU (λx=>x.2=(w,i)/\(x.1=J->21<=i.1/\i.1<=23)/\(21<=i.1/\i.1<=23->x.1=J)) (aK (λh=>aj ⟨rfl,λ_=>by first|omega|(dsimp only at h;omega),λ_=>aR h⟩) λ_=>aK (λh=>aj ⟨rfl,λ_=>by first|omega|(dsimp only at h;omega),λ_=>aR h⟩) λ_=>aj ⟨rfl,λh=>by have:=be h;first|omega|(dsimp only at this;omega),λh=>aR (by first|omega|(dsimp only at *;omega))⟩) ?_;rintro⟨b,x⟩ ⟨e,h1,h2⟩;dsimp only at e h1 h2;subst e;refine aQ (λh=>?_) λh=>?_
 .rw[aC (h1 h)]at hb;exact aj (aR ⟨by dsimp only;omega,by dsimp only;rw[hd];show i.2.1<1;omega⟩)
 rw[ay (hj h1 h2 h)]at hb;refine aU (λx=>x.2=(w,i)/\(x.1=J->i.1=24\/i.1=25)/\(i.1=24\/i.1=25->x.1=J)) (aK (λh=>aj ⟨rfl,λ_=>.inl h,λ_=>aR h⟩) λh=>aj ⟨rfl,λh2=>.inr (be h2),λh2=>aR (h2.resolve_left h)⟩) ?_;rintro⟨b,x⟩ ⟨e,h1,h2⟩;dsimp only at e h1 h2;subst e;refine aQ (λh=>?_) λh=>?_
 .rw[aC (h1 h)]at hb;exact aj (aR ⟨hb.1,by dsimp only;rw[hT];exact hb.2⟩)
 rw[ay (hj h1 h2 h)]at hb;refine aK (λh=>?_) λn=>?_
 .rw[aC h]at hb;exact aj (aR ⟨by dsimp only;omega,by dsimp only;rw[hf];show i.2.1<1;omega⟩)
 rw[ay n]at hb;refine aK (λh=>?_) λn=>?_
 .rw[aC h]at hb;exact aj (aR ⟨by dsimp only;omega,by dsimp only;rw[hf];show i.2.2.1<1;omega⟩)
 rw[ay n]at hb;by_cases a:i.1=4
 .rw[aC a]at hb;refine aK (λh=>by have h:i.1=3:=h;omega) λ_=>aK (λ_=>?_) λh=>(h a).elim
  refine gO (fH (λ_=>aj (aj (NS.2 hb.2))) λh=>by dsimp only at h;omega)
 .rw[ay a]at hb;exact aK (λh=>(hb h).elim) λ_=>aK (λh=>(a h).elim) λ_=>aj rfl
structure GC (nT:Nat) (ss:List π) (k:Int) (c:Int×List IT):Prop where
 r0:1<=c.1
 r1:c.1<=32
 n:1<=c.2.length
 u:c.2.length<=1000000
 e:(iA c.2 (c.2.length-1)).1=28/\(iA c.2 (c.2.length-1)).2.2.2.2.2= -1
 b:qM c.2 0 (c.2.length-1)
 i:∀q:Nat,q<c.2.length-1->GI nT ss k (iA c.2 q)
 r:∀q:Nat,q<c.2.length-1->(iA c.2 q).1=10->0<=(iA c.2 q).2.2.1/\(iA c.2 q).2.2.1<(c.2.length:Int)
 g:∀q:Nat,q<c.2.length-1->∀j:Int,j∈iR (iA c.2 q)->j<c.1
theorem DY {nT:Nat} {w:WT} {k:Int} {c:Int×Y IT} (hw:WX w) (hT:w.2.2.2.2.1.length=nT) (hc:GC nT w.2.2.2.2.2 k c):iv (w,k,c)=M J:=by
 obtain⟨r0,r1,n1,hu,he,hb,hi,hr,hg⟩:=hc;refine cG ?_;unfold iv aX bm bw cC bN cW pZ bf bA jf bO aV cR aE cH;refine aU (λx=>x.2=(w,c)/\x.1=af) ?_ ?_
 .refine bK (λh=>by have h:c.1<0:=h;omega) λ_=>bK (λh=>by have h:32<c.1:=h;omega) λ_=>aj ⟨rfl,bz λh=>by have h:aN c.2.length=0:=h;dsimp only[ak]at h;omega⟩
 rintro⟨b,x⟩ ⟨e,Z⟩;dsimp only at e Z;subst e;subst Z;refine c7 ?_;refine cf c.2.length (λi x=>x.1=(i:Int)/\x.2=(w,c)) ?_ ?_ ⟨rfl,rfl⟩
 .rintro i ⟨a,x⟩ hi2 ⟨e1,e2⟩;dsimp only at e1 e2;subst e1;subst e2;have hla:=TQ c.2 hu n1 hb he.1 i hi2;have hz:∀z:IT,z=iA c.2 i->(i<c.2.length-1->GI nT w.2.2.2.2.2 k z/\(z.1=10->0<=z.2.2.1/\z.2.2.1<(c.2.length:Int))/\(z.1=5->0<=z.2.1/\z.2.1<(c.2.length:Int))/\∀j:Int,j∈iR z->j<c.1)/\(i=c.2.length-1->z.1=28/\z.2.2.2.2.2= -1):=λz hz=>by
   subst hz;refine ⟨λh=>⟨hi i h,hr i h,λh5=>?_,hg i h⟩,λh=>by rw[h];exact he⟩;obtain⟨_,ρ,hρ⟩:=hb;obtain⟨q',e,hq'⟩:=(hρ i (iD _) h).2.2.1 h5;rw[e];omega
  refine dz ?_;refine cI (aT ?_);generalize hzz:(aI (T:=Bm) c.2 (i:Int))=z;obtain⟨q,A⟩:=hz z hzz.symm;have hcs:i<c.2.length-1\/i=c.2.length-1:=by omega
  have o1:1<=z.1:=by
   rcases hcs with h|h
   .exact (q h).1.o.o1
   .rw[(A h).1];decide
  have o2:z.1<=28:=by
   rcases hcs with h|h
   .exact Int.le_trans (q h).1.o.o2 (by decide)
   .rw[(A h).1];decide
  have L:z.1=28->i=c.2.length-1:=λh=>hcs.resolve_left λg=>by have:=(q g).1.o.o2;rw[h]at this;exact ct this (by decide)
  have hob:OB nT z:=by
   rcases hcs with h|h
   .exact (q h).1.o.b
   .unfold OB;rw[(A h).1];simp
  have hrg:∀j:Int,j∈iR z->0<=j/\j<c.1:=λj hj=>by
   rcases hcs with h|h
   .exact⟨((q h).1.o.r j hj).1,(q h).2.2.2 j hj⟩
   .unfold iR at hj;rw[(A h).1]at hj;simp at hj
  have hwr:bl .i64 (aN c.2.length-1)=((c.2.length-1:Nat):Int):=by rw[iK (by dsimp only[ak];omega) (by dsimp only[ak];omega)];dsimp only[ak];omega
  have hcd:((decide (z.1=28)==decide ((i:Int)=bl .i64 (aN c.2.length-1))) !=J)=af:=by
   rw[hwr];rcases hcs with h|h
   .rw[bz λh2=>by have:=L h2;omega,bz (by omega:¬(i:Int)=((c.2.length-1:Nat):Int))];rfl
   .rw[aR (A h).1,aR (by omega:(i:Int)=((c.2.length-1:Nat):Int))];rfl
  refine aU (λx=>x=(af,w,c,z)) ?_ ?_
  .refine bK (λh=>ct h (B6.2 o1)) λ_=>bK (λh=>ct h (B6.2 o2)) λ_=>fA hcd ?_
   refine aS (NA w z hw hT hob) (fA rfl (aS hla (aj rfl)))
  rintro x rfl;refine c7 (aU (λx=>x=(af,w,c,z)) ?_ ?_)
  .simp only[rV,V_];refine aK (λh=>?_) λh=>?_
   .have h5:=(A (L h)).2;exact b9 (λg=>(g h5).elim) λ_=>b9 (λg=>(g h).elim) λ_=>aj rfl
   .have hsi:=(q (hcs.resolve_right λg=>h (A g).1)).1.s;refine b9 (λ_=>b9 (λg=>(g ⟨hsi.1,hsi.2.1⟩).elim) λg=>aO g.1 g.2 (aT (aj ?_))) λg=>(h g).elim
    rw[aR hsi.2.2];rfl
  rintro x rfl;refine c7 (aU (λx=>x=(af,w,c,z)) ?_ ?_)
  .simp only[rV,V_];have U:z.1=5\/z.1=10->i<c.2.length-1:=λh=>hcs.resolve_right λg=>by rw[(A g).1]at h;exact ct h (by decide)
   refine aK (λh=>?_) λh=>?_
   .have h2:=(q (U (.inl h))).2.2.1 h;refine b9 (λg=>(g h2).elim) λ_=>aK (λg=>?_) λ_=>aj rfl
    rw[h]at g;exact ct g (by decide)
   .refine aK (λg=>aj ?_) λ_=>aj rfl
    have h2:=(q (U (.inr g))).2.1 g;rw[aR (show 0<=z.2.2.1/\z.2.2.1<aN c.2.length from h2)];rfl
  rintro x rfl;refine c7 (aS (tH z) ?_);have hrl:=Co z;refine cf (iR z).length (λj x=>x=((j:Int),w,c)) ?_ ?_ rfl
  .rintro j x hj rfl;refine dz ?_;refine cI (aT ?_);refine aS (rV _ _) (b9 (λg=>(g (hrg _ (bM (T:=.int .i64) (xs:=iR z) (j:=(j:Int)) (by omega) (by omega)))).elim) λ_=>aj ?_);dsimp only;rw[gU (by omega)]
  .rintro x rfl;exact dt (aj ⟨gU (by omega),rfl⟩)
 .rintro⟨a,x⟩ ⟨e1,e2⟩;dsimp only at e1 e2;subst e1;subst e2;exact dt (aj rfl)
abbrev GN:Type:=Y (ζ×Int×Int×Bool×Int)×Y (ζ×Bool)×Y (ζ×Int)×Y ζ×Y ζ×Y π×Y ζ×Int×Int
theorem Mn (l:Y (ζ×Bool)) (s:ζ) (hl:l.length<=1000):Ok (ko (l,s)) λr=> -1<=r/\r<l.length/\(0<=r->(aI (T:=Ti) l r).1=s)/\(r<0->∀c∈l,c.1≠s):=by
 unfold ko bA bO aV cR aE cH;refine cf l.length (λi x=>x=(i:Int)/\∀k:Nat,k<i->(aI (T:=Ti) l (k:Int)).1≠s) ?_ ?_ ⟨rfl,λk hk=>by omega⟩
 .rintro i x hi ⟨rfl,a⟩;refine dz ?_;refine cI (aT ?_);refine aK (λh=>aj ⟨by omega,by omega,λ_=>h,λh=>by omega⟩) λh=>aj ⟨gU (by omega),λk hk=>?_⟩
  rcases b7 k i with h1|h1
  .exact a k h1
  .rw[show k=i by omega];exact h
 .rintro x ⟨rfl,a⟩;exact dt (aj ⟨by omega,by omega,λh=>by omega,λ_=>iz (T:=Ti) (p:=λc=>c.1≠s) a⟩)
theorem ag9 {r:Int} {s:ζ} (h: -1<=r/\r<Gt.length/\(0<=r->(aI (T:=Ti) Gt r).1=s)/\(r<0->∀c∈Gt,c.1≠s)):(s=[109]->r=0)/\(s=[110]->r=1)/\(s=[114]->r=2):=by
 obtain⟨h0,h1,h2,a⟩:=h;have h1:r<3:=h1;rcases (by omega:r= -1\/r=0\/r=1\/r=2) with rfl|rfl|rfl|rfl
 .have a:=a (by decide);exact⟨λh=>(a ([109],af) (by decide) h.symm).elim,λh=>(a ([110],af) (by decide) h.symm).elim,λh=>(a ([114],J) (by decide) h.symm).elim⟩
 .have h2:[109]=s:=h2 (by decide);subst h2;exact⟨λ_=>rfl,λh=>(by cases h),λh=>(by cases h)⟩
 .have h2:[110]=s:=h2 (by decide);subst h2;exact⟨λh=>(by cases h),λ_=>rfl,λh=>(by cases h)⟩
 .have h2:[114]=s:=h2 (by decide);subst h2;exact⟨λh=>(by cases h),λh=>(by cases h),λ_=>rfl⟩
theorem Af (w:WT) (s:ζ) (z:w.1=C0):Ok (lD (w,s)) λr=>(s∈NV->s∉L0->0<=r/\r<=2)/\(s=[113]->r=3):=by
 have hl:w.1.length=5:=by rw[z];rfl
 unfold lD bA bO aV cR aE cH;refine cf w.1.length (λi x=>x.1=(i:Int)/\x.2=w/\∀k:Nat,k<i->(aI (T:=L6) w.1 (k:Int)).1≠s) ?_ ?_ ⟨rfl,rfl,λk hk=>by omega⟩
 .rintro i ⟨a,x⟩ hi ⟨e1,e2,e3⟩;dsimp only at e1 e2 e3;subst e1;have e2:=e2.symm;subst e2;refine dz ?_;refine cI (aT ?_);refine aK (λh=>aj ?_) λg=>aj ?_
  .rw[z]at h e3;rw[hl]at hi;rcases (by omega:i=0\/i=1\/i=2\/i=3\/i=4) with rfl|rfl|rfl|rfl|rfl
   .have h:[120]=s:=h;subst h;exact⟨λ_ _=>⟨by dsimp only;omega,by dsimp only;omega⟩,λh=>(by cases h)⟩
   .have h:[121]=s:=h;subst h;exact⟨λ_ _=>⟨by dsimp only;omega,by dsimp only;omega⟩,λh=>(by cases h)⟩
   .have h:[118]=s:=h;subst h;exact⟨λ_ _=>⟨by dsimp only;omega,by dsimp only;omega⟩,λh=>(by cases h)⟩
   .have h:[113]=s:=h;subst h;exact⟨λh=>ct h (by decide),λ_=>rfl⟩
   .have h:[113]=s:=h;exact (e3 3 (by omega) h).elim
  .refine ⟨gU (by omega),rfl,λk hk=>?_⟩;rcases b7 k i with h1|h1
   .exact e3 k h1
   .rw[show k=i by omega];exact g
 .rintro⟨a,x⟩ ⟨e1,e2,e3⟩;dsimp only at e1 e2 e3;subst e1;have e2:=e2.symm;subst e2;refine dt (aj ?_);have hn:=iz (T:=L6) (p:=λc=>c.1≠s) e3;rw[z]at hn;have a1:=hn ([120],0,0,af,0) (by decide);have a2:=hn ([121],0,0,af,1) (by decide);have a3:=hn ([118],0,0,J,0) (by decide);have A:=hn ([113],0,2,af,0) (by decide);refine ⟨λh q=>?_,λh=>(A h.symm).elim⟩;simp only[bh,cu,gj,L0]at h q;rcases h with rfl|rfl|rfl|rfl|rfl
  .exact (q (.inl rfl)).elim
  .exact (q (.inr rfl)).elim
  .exact (a1 rfl).elim
  .exact (a2 rfl).elim
  .exact (a3 rfl).elim
theorem H5 (i:IT) (g:GN) (out:Y IT) (h:out.length<=100000000):Ok (cD (i,g,out)) λy=>y.1=g/\y.2=out++[(i.1,i.2.1,i.2.2.1,i.2.2.2.1,i.2.2.2.2.1,g.2.2.2.2.2.2.2.1)]:=by
 unfold cD aX bm bw kO bH;exact bc (by simp;omega) (by omega) (aj ⟨rfl,rfl⟩)
def VE:Nat->Nat
 |0=>0
 |d+1=>1+2*VE d
theorem IA {l m:Y IT} {k:Nat} (h:k<l.length):iA (l++m) k=iA l k:=by
 unfold iA;rw[yY,yY,au,au,bP h]
theorem xf (l:Y IT) (x:IT):iA (l++[x]) l.length=x:=by
 unfold iA;rw[yY,au,b8 (bU _)];simp
structure QC (nT:Nat) (ss:List π) (t:Int) (n:Nat) (out o:List IT):Prop where
 l:out.length<=o.length
 u:o.length<=out.length+n
 p:∀k:Nat,k<out.length->iA o k=iA out k
 b:qM o out.length o.length
 i:∀k:Nat,out.length<=k->k<o.length->GI nT ss t (iA o k)
 r:∀k:Nat,out.length<=k->k<o.length->(iA o k).1=10->0<=(iA o k).2.2.1/\(iA o k).2.2.1<=(o.length:Int)
variable {nT:Nat} {ss:Y π} {t:Int}
theorem QC.nil (n:Nat) (out:Y IT):QC nT ss t n out out:=⟨bU _,by omega,λ_ _=>rfl,qM.nil _ _,λk h1 h2=>by omega,λk h1 h2=>by omega⟩
theorem QC.trans {a b c:Nat} {x y z:Y IT} (h:QC nT ss t a x y) (k:QC nT ss t b y z) (hc:a+b<=c):QC nT ss t c x z:=by
 obtain⟨h1,h2,h3,h4,h5,h6⟩:=h;obtain⟨k1,k2,s,k4,k5,Z⟩:=k;refine ⟨by omega,by omega,λq hq=>(s q (by omega)).trans (h3 q hq),(h4.congr λq _ hq=>s q hq).app k4,λq U L=>?_,λq U L A=>?_⟩
 .by_cases hq:q<y.length
  .rw[s q hq];exact h5 q U hq
  .exact k5 q (by omega) L
 .by_cases hq:q<y.length
  .rw[s q hq]at A ⊢;have:=h6 q U hq A;omega
  .exact Z q (by omega) L A
theorem QC.one {out:Y IT} {i:IT} (h:GI nT ss t i) (a:¬i.1=5/\¬i.1=10):QC nT ss t 1 out (out++[i]):=by
 have hl:(out++[i]).length=out.length+1:=by rw[bk];rfl
 refine ⟨by omega,by omega,λk hk=>IA hk,?_,λk h1 h2=>?_,λk h1 h2 c=>?_⟩
 .rw[hl];exact qM.one (by rw[xf];exact a.1)
 .rw[show k=out.length by omega,xf];exact h
 .rw[show k=out.length by omega,xf]at c;exact (a.2 c).elim
structure GK (ss:List π) (t:Int) (g:GN):Prop where
 c:g.1=C0
 l:g.2.2.2.2.2.2.1=L0
 s:SO ss t g.2.2.2.2.2.2.2.1
theorem XL {nT:Nat} {op A B C N Z:Int} (h1:1<=op) (h2:op<=27) (hr:∀j:Int,j∈iR (op,A,B,C,N,Z)->0<=j/\j<32) (hb:OB nT (op,A,B,C,N,Z)):GO nT (op,A,B,C,N,Z):=⟨h1,h2,hr,hb⟩
theorem D8 {op:Int} {r:υ} {g:GN} {out:Y IT} (h:out.length<=100000000) (hg:GK ss t g) (hi:GO nT (op,r)) (c:¬op=5/\¬op=10):Ok (cD ((op,r),g,out)) λy=>y.1=g/\QC nT ss t 1 out y.2:=(H5 (op,r) g out h).mono λy a=>⟨a.1,by rw[a.2];exact QC.one ⟨⟨hi.o1,hi.o2,hi.r,hi.b⟩,hg.s⟩ c⟩
theorem Mw:∀(n d:Nat),d<n->∀(e:Xp) (k:Int) (g:GN) (out:Y IT),GE d e->GK ss t g->0<=k->k+d<=31->out.length+VE d<=100000000->Ok (iN n ((e,k),g,out)) λy=>y.1=g/\QC nT ss t (VE d) out y.2
 |0,_,h,_,_,_,_,_,_,_,_,_=>by omega
 |n+1,0,_,e,_,_,_,h,_,_,_,_=>h.elim
 |n+1,d+1,hn,e,k,g,out,h,hg,k0,k1,hb=>by
  obtain⟨h1,h2,h3,h4,h5,h6⟩:=h;obtain⟨L,gl,gs⟩:=id hg;have hv:VE (d+1)=1+2*VE d:=rfl;rw[As];unfold qz aX bm bw cC eB bf jG bH bO aE cH;refine aU (λy=>y.1=g/\QC nT ss t (VE (d+1)) out y.2) ?_ λx hx=>aj hx
  have fin:∀{y:GN×Y IT},(y.1=g/\QC nT ss t 1 out y.2)->y.1=g/\QC nT ss t (VE (d+1)) out y.2:=λh=>⟨h.1,(QC.nil 0 out).trans h.2 (by omega)⟩
  refine aK (λ_=>?_) λn1=>?_
  .refine aw (D8 (nT:=nT) (by omega) hg (XL (by decide) (by decide) (by simp[iR];omega) ((by decide:¬(1:Int)=3))) (by decide)) λy a=>bd (by simp) (aj (fin a))
  refine aK (λA=>?_) λA=>?_
  .refine aw (yg _ _ (by dsimp only;rw[gl];decide)) λv hv=>fH (λg0=>?_) λg0=>?_
   .have c:=hv.2.1;dsimp only at c g0;rw[gl]at c;have c:v<2:=c;refine aw (D8 (nT:=nT) (by omega) hg (XL (by decide) (by decide) (by simp[iR];omega) ((by decide:¬(2:Int)=3))) (by decide)) λy a=>bd (by simp) (aj (fin a))
   .have c:=hv.2.2.2 g0;dsimp only at c;rw[gl]at c;refine aw (Af _ _ L) λv z=>?_
    have v2:=z.1 (h5 A) c;refine aw (D8 (nT:=nT) (by omega) hg (XL (by decide) (by decide) (by simp[iR];omega) (v2)) (by decide)) λy a=>bd (by simp) (aj (fin a))
  have hl:=h2 n1 A;have hrec:∀(j:Nat),j<e.l.length->∀(k':Int) (o:Y IT),0<=k'->k'+d<=31->o.length+VE d<=100000000->Ok (iN n ((aI (T:=.ex) e.l (j:Int),k'),g,o)) λy=>y.1=g/\QC nT ss t (VE d) o y.2:=λj hj k' o q0 s ho=>Mw n d (by omega) _ k' g o (h4 _ (bM (T:=.ex) (xs:=e.l) (j:=(j:Int)) (by omega) (by omega))) hg q0 s ho
  refine aK (λZ=>?_) λZ=>?_
  .refine cI (aT ?_);refine aw (hrec 0 hl k out k0 (by omega) (by omega)) λy a=>?_
   obtain⟨g2,o2⟩:=y;obtain⟨s,q⟩:=a;dsimp only at s q;subst s;have q3:=q.u;refine bd (by simp) ?_;refine aw (Af _ _ L) λv z=>?_
   have U:=z.2 (h1 Z);have U:v=3:=U;subst U;refine aO (by decide) (by dsimp only;rw[L];decide) (aT ?_);refine aw (D8 (nT:=nT) (by omega) hg (XL (by decide) (by decide) (by simp[iR];omega) (⟨rfl,by dsimp only;rw[L];rfl⟩)) (by decide)) λy a=>bd (by simp) (aj ⟨a.1,q.trans a.2 (by omega)⟩)
  obtain⟨h7,h8,h9⟩:=h6 n1 A Z;refine aK (λn4=>?_) λn4=>?_
  .dsimp only[ak]at n4;omega
  .have hl2:1<e.l.length:=by omega
   refine cI (aT ?_);refine aw (hrec 0 hl k out k0 (by omega) (by omega)) λy a=>?_
   obtain⟨g2,o2⟩:=y;obtain⟨s,q⟩:=a;dsimp only at s q;subst s;have q3:=q.u;refine bd (by simp) ?_;refine cI (aT ?_);dsimp only;rw[iK (n:=k+1) (by omega) (by omega)];refine aw (hrec 1 hl2 _ o2 (by omega) (by omega) (by omega)) λy a=>?_
   obtain⟨g3,o3⟩:=y;obtain⟨r1,r2⟩:=a;dsimp only at r1 r2;subst r1;have r3:=r2.u;refine bd (by simp) ?_;refine aw (D8 (nT:=nT) (by omega) hg (XL (by decide) (by decide) (by simp[iR];omega) (⟨h8,h9⟩)) (by decide)) λy a=>bd (by simp) (aj ⟨a.1,(q.trans r2 (bU _)).trans a.2 (by omega)⟩)
theorem Tf (e:Xp) (k:Int) (g:GN) (out:Y IT) (he:GE 4 e) (hg:GK ss t g) (a:0<=k) (k1:k<=27) (h:out.length<=99999900):Ok (iM ((e,k),g,out)) λy=>y.1=g/\QC nT ss t 15 out y.2:=Mw fuel 4 (by rw[jZ];omega) e k g out he hg a (by omega) (by have:VE 4=15:=rfl;omega)
structure GB (nT:Nat) (g:GN):Prop where
 c:g.1=C0
 l:g.2.1=Gt
 d:g.2.2.1=L1
 f:g.2.2.2.1=SE
 t:g.2.2.2.2.1=vL.take nT
 h:g.2.2.2.2.2.2.1=L0
structure GQ (g y:GN):Prop where
 a:y.1=g.1
 b:y.2.1=g.2.1
 c:y.2.2.1=g.2.2.1
 d:y.2.2.2.1=g.2.2.2.1
 e:y.2.2.2.2.1=g.2.2.2.2.1
 h:y.2.2.2.2.2.2.1=g.2.2.2.2.2.2.1
theorem GQ.refl (g:GN):GQ g g:=⟨rfl,rfl,rfl,rfl,rfl,rfl⟩
theorem GQ.trans {a b c:GN} (h:GQ a b) (k:GQ b c):GQ a c:=⟨k.a.trans h.a,k.b.trans h.b,k.c.trans h.c,k.d.trans h.d,k.e.trans h.e,k.h.trans h.h⟩
variable {nT:Nat} {ss:Y π} {t:Int}
theorem GB.of {g y:GN} (h:GB nT g) (q:GQ g y):GB nT y:=⟨q.a.trans h.c,q.b.trans h.l,q.c.trans h.d,q.d.trans h.f,q.e.trans h.t,q.h.trans h.h⟩
theorem GQ.site (g:GN) (x:Y π) (a b:Int):GQ g (g.1,g.2.1,g.2.2.1,g.2.2.2.1,g.2.2.2.2.1,x,g.2.2.2.2.2.2.1,a,b):=⟨rfl,rfl,rfl,rfl,rfl,rfl⟩
abbrev gS (g:GN):Int:=g.2.2.2.2.2.2.2.1
abbrev gN (g:GN):Int:=g.2.2.2.2.2.2.2.2
structure QG (nT:Nat) (ss:List π) (t:Int) (n m:Nat) (g:GN) (out:List IT) (y:GN×List IT):Prop where
 q:GQ g y.1
 c:QC nT ss t n out y.2
 x:gN y.1=gN g+(m:Int)
theorem w7 {op:Int} {r:υ} {g:GN} {out:Y IT} (h:out.length<=100000000) (hg:GB nT g) (hs:SO ss t (gS g)) (hi:GO nT (op,r)) (a:¬op=5/\¬op=10):Ok (cD ((op,r),g,out)) λy=>y.1=g/\QC nT ss t 1 out y.2:=D8 h ⟨hg.c,hg.h,hs⟩ hi a
theorem Cc (e:Xp) (k:Int) (g:GN) (out:Y IT) (he:GE 4 e) (hg:GB nT g) (hs:SO ss t (gS g)) (a:0<=k) (k1:k<=27) (h:out.length<=99999000):Ok (iM ((e,k),g,out)) λy=>y.1=g/\QC nT ss t 15 out y.2:=Tf e k g out he ⟨hg.c,hg.h,hs⟩ a k1 (by omega)
theorem GB.len {g:GN} (h:GB nT g):aN (ai g.2.2.2.2.2.2.1)=2:=by rw[h.h];rfl
theorem Vg (s:Sx) (g:GN) (out:Y IT) (h1:s.index≠[]->s.name=[113]) (h2:∀e∈s.index,GE 4 e) (h3:GE 4 s.expr) (h4:s.index=[]->s.name∈NV) (hg:GB nT g) (hs:SO ss t (gS g)) (h:out.length<=99990000):Ok (md (s,g,out)) λy=>y.1=g/\QC nT ss t 40 out y.2:=by
 have hex:GE 4 (ef (Xp.op s.expr,Xp.n s.expr,Xp.name s.expr,Xp.l s.expr)):=by rw[fo];exact h3
 have e3:bl .i64 ((2:Int)+1)=3:=iK (by decide) (by decide);unfold md aX bm bw cC eB bA jG bH bO aV;refine bK (λq=>?_) λq=>?_
 .dsimp only[ak]at q;refine cI (aT ?_);refine aw (Cc _ _ g out (h2 _ (bM (T:=.ex) (xs:=s.index) (j:=0) (by omega) (by omega))) hg hs (by rw[hg.len];decide) (by rw[hg.len];decide) (by omega)) λy a=>?_
  obtain⟨g2,o2⟩:=y;obtain⟨L,A⟩:=a;dsimp only at L A;subst L;have q3:=A.u;refine bd (by simp) ?_;dsimp only;rw[hg.len,e3];refine aw (Cc _ _ g2 o2 hex hg hs (by decide) (by decide) (by omega)) λy a=>?_
  obtain⟨g3,o3⟩:=y;obtain⟨r1,r2⟩:=a;dsimp only at r1 r2;subst r1;have r3:=r2.u;refine bd (by simp) ?_;refine aw (Af _ _ hg.c) λv hv=>?_
  have U:=hv.2 (h1 (λh=>by rw[h]at q;simp at q));have U:v=3:=U;subst U;refine aO (by decide) (by dsimp only;rw[hg.c];decide) (aT ?_);refine aw (w7 (by omega) hg hs (XL (by decide) (by decide) (by simp[iR,hg.h,L0]) (⟨rfl,by dsimp only;rw[hg.c];rfl⟩)) (by decide)) λy a=>bd (by simp) (aj ⟨a.1,(A.trans r2 (bU _)).trans a.2 (by omega)⟩)
 .have hi0:s.index=[]:=gP.1 (by dsimp only[ak]at q;omega);refine aw (Cc _ _ g out hex hg hs (by rw[hg.len];decide) (by rw[hg.len];decide) (by omega)) λy a=>?_
  obtain⟨g2,o2⟩:=y;obtain⟨L,A⟩:=a;dsimp only at L A;subst L;have q3:=A.u;refine bd (by simp) ?_;refine aw (yg _ _ (by dsimp only;rw[hg.h];decide)) λv hv=>fH (λq=>?_) λq=>?_
  .have z:=hv.2.1;dsimp only at z q;rw[hg.h]at z;have z:v<2:=z;refine aw (w7 (by omega) hg hs (XL (by decide) (by decide) (by simp[iR,hg.h,L0];omega) ((by decide:¬(2:Int)=3))) (by decide)) λy a=>bd (by simp) (aj ⟨a.1,A.trans a.2 (by omega)⟩)
  .have z:=hv.2.2.2 q;dsimp only at z;rw[hg.h]at z;refine aw (Af _ _ hg.c) λv Z=>?_
   have v2:=Z.1 (h4 hi0) z;refine aw (w7 (by omega) hg hs (XL (by decide) (by decide) (by simp[iR,hg.h,L0]) (v2)) (by decide)) λy a=>bd (by simp) (aj ⟨a.1,A.trans a.2 (by omega)⟩)
theorem aaj (s:ζ) (g:GN) (out:Y IT) (hg:GB nT g):Ok (jy (s,g,out)) λy=>y.2=(g,out)/\(s=[99]->y.1=0):=by
 have hd:g.2.2.1.length=1:=by rw[hg.d];rfl
 unfold jy aX bA bO aV cR aE cH;refine cf 1 (λi x=>x.1=(i:Int)/\x.2=(g,out)/\(s=[99]->i=0)) ?_ ?_ ⟨rfl,rfl,λ_=>rfl⟩
 .rintro i ⟨a,x⟩ hi ⟨e1,e2,e3⟩;dsimp only at e1 e2 e3;subst e1;subst e2;refine dz ?_;refine cI (aT ?_);refine aK (λ_=>aj ⟨rfl,λ_=>by dsimp only;omega⟩) λh=>aj ⟨gU (by omega),rfl,λh2=>?_⟩
  refine (h ?_).elim;dsimp only;rw[hg.d,show i=0 by omega,h2];rfl
 .rintro⟨a,x⟩ ⟨e1,e2,e3⟩;dsimp only at e1 e2 e3;subst e1;subst e2;exact dt (aj ⟨rfl,λh=>by have:=e3 h;omega⟩)
def ME:Nat->Nat
 |0=>0
 |d+1=>50+16*ME d
def SR (ss:Y π) (t a:Int) (m:Nat):Prop:=0<=a/\a+m<=1000/\∀i:Int,a<=i->i<a+m->SO ss t i
def SpG (nT:Nat) (ss:Y π) (t:Int) (a:Sx×GN×Y IT->I (GN×Y IT)) (d:Nat):Prop:=∀(s:Sx) (g:GN) (out:Y IT),GS nT d s->GB nT g->SR ss t (gN g) (Pm d s)->out.length+ME d<=90000000->Ok (a (s,g,out)) (QG nT ss t (ME d) (Pm d s) g out)
def abh (nT:Nat) (ss:Y π) (t:Int) (rs:Y Sx×GN×Y IT->I (GN×Y IT)) (d:Nat):Prop:=∀(l:Y Sx) (g:GN) (out:Y IT),l.length<=100->(∀s∈l,GS nT d s)->GB nT g->SR ss t (gN g) (nJ d l)->out.length+l.length*ME d<=90000000->Ok (rs (l,g,out)) (QG nT ss t (l.length*ME d) (nJ d l) g out)
abbrev FS6:Type:=Y Sx×GN×Y IT->I (GN×Y IT)
abbrev FT6:Type:=Sx×GN×Y IT->I (GN×Y IT)
abbrev FA6:Type:=(Sx×Int×Int×Int)×GN×Y IT->I (GN×Y IT)
variable {nT:Nat} {ss:Y π} {t:Int}
def aiq (nT:Nat) (ss:Y π) (t:Int) (a:FT6) (d:Nat):Prop:=∀(s:Sx) (g:GN) (out:Y IT),s.op=2\/s.op=3->GE 4 s.expr->s.body.length<=8->s.els.length<=8->(∀x∈s.body,GS nT d x)->(∀x∈s.els,GS nT d x)->(¬s.op=2->s.els=[])->GB nT g->SO ss t (gS g)->SR ss t (gN g) (nJ d s.body+nJ d s.els)->out.length+ME (d+1)<=90000000->Ok (a (s,g,out)) (QG nT ss t (17+16*ME d) (nJ d s.body+nJ d s.els) g out)
def air (nT:Nat) (ss:Y π) (t:Int) (ra:FA6) (d:Nat):Prop:=∀(s:Sx) (a b c:Int) (g:GN) (out:Y IT),s.body.length<=8->(∀x∈s.body,GS nT d x)->GO nT (a,c,0,0,0,0)->GO nT (b,c,0,0,0,0)->¬a=5/\¬a=10->¬b=5/\¬b=10->GB nT g->SO ss t (gS g)->SR ss t (gN g) (nJ d s.body)->out.length+ME (d+1)<=90000000->Ok (ra ((s,a,b,c),g,out)) (QG nT ss t (17+16*ME d) (nJ d s.body) g out)
theorem SR.sub {a b:Int} {m n:Nat} (h:SR ss t a m) (h1:a<=b) (h2:b+n<=a+m):SR ss t b n:=⟨by have:=h.1;omega,by have:=h.2.1;omega,λi q c=>h.2.2 i (by omega) (by omega)⟩
theorem Ut (rs:FS6) (L:FT6) (Z:FT6) (ra:FA6) (d:Nat) (ht:SpG nT ss t L d):abh nT ss t (qA rs L Z ra) d:=by
 intro l g out hl hs hg hso hb;unfold qA bA bH bO aV cR aE cH;refine cf l.length (λi x=>x.1=(i:Int)/\QG nT ss t (i*ME d) (nJ d (l.take i)) g out x.2) ?_ ?_ ⟨rfl,GQ.refl g,QC.nil _ _,by simp[nJ]⟩
 .rintro i ⟨a,U,o2⟩ hi ⟨e1,z,s,q3⟩;dsimp only at e1 z s q3;subst e1;have hK:(i+1)*ME d<=l.length*ME d:=cK _ (by omega);have hKs:=iV i (ME d);rw[Nat.succ_eq_add_one]at hKs;have hp:=OM (d:=d) l (i+1);rw[wF hi]at hp;have q4:=s.u;refine dz ?_;refine cI (aT ?_);refine aw (ht _ U o2 (hs _ (bM (T:=.sm) (xs:=l) (j:=(i:Int)) (by omega) (by omega))) (hg.of z) (hso.sub (by rw[q3];omega) (by rw[q3];dsimp only;omega)) (by omega)) λy A=>bd (by simp) (aj ?_)
  rw[wF hi];exact⟨gU (by omega),z.trans A.q,s.trans A.c (by omega),by rw[A.x,q3];dsimp only;omega⟩
 .rintro⟨a,U,o2⟩ ⟨e1,q⟩;dsimp only at e1;subst e1;rw[cO]at q;exact dt (aj q)
theorem QQ (rs:FS6) (rt:FT6) (rb:FT6) (ra:FA6) (d:Nat) (hS:abh nT ss t rs d):air nT ss t (oZ rs rt rb ra) d:=by
 intro s a b c g out h1 h2 ga gb na nb hg hs hso hb;have hm:ME (d+1)=50+16*ME d:=rfl;have kb:s.body.length*ME d<=8*ME d:=cK _ h1;unfold oZ aX bm bw cC eB kO bN pZ bH;refine aw (w7 (by omega) hg hs ga na) λy q=>?_
 obtain⟨Z,o2⟩:=y;obtain⟨U,z⟩:=q;dsimp only at U z;subst U;have q3:=z.u;refine bd (by simp) ?_;refine aw (hS s.body Z o2 (by omega) h2 hg hso (by omega)) λy q=>?_
 obtain⟨A,o3⟩:=y;obtain⟨r1,r2,r3⟩:=q;dsimp only at r1 r2 r3;have r4:=r2.u;refine bd (by simp) ?_;have L:=r1.trans (GQ.site A A.2.2.2.2.2.1 Z.2.2.2.2.2.2.2.1 A.2.2.2.2.2.2.2.2);refine aw (w7 (by dsimp only;omega) (hg.of L) hs gb nb) λy q=>bd (by simp) (aj ⟨?_,?_,?_⟩)
 .rw[q.1];exact L
 .exact (z.trans r2 (bU _)).trans q.2 (by omega)
 .rw[q.1];exact r3
theorem yU {l:Y IT} {j k:Nat} {x:IT} (h:j<l.length):iA (cF l (j:Int) x) k=if k=j then x else iA l k:=I1 (T:=Bm) l j k x h
abbrev ptB (l:Y IT) (j:Nat) (b:Int):Y IT:=cF l (j:Int) ((iA l j).1,(iA l j).2.1,b,(iA l j).2.2.2.1,(iA l j).2.2.2.2.1,(iA l j).2.2.2.2.2)
abbrev ptA (l:Y IT) (j:Nat) (a:Int):Y IT:=cF l (j:Int) ((iA l j).1,a,(iA l j).2.2.1,(iA l j).2.2.2.1,(iA l j).2.2.2.2.1,(iA l j).2.2.2.2.2)
theorem GI.pb {i:IT} {b:Int} (h:GI nT ss t i) (h1:i.1=10):GI nT ss t (i.1,i.2.1,b,i.2.2.2.1,i.2.2.2.2.1,i.2.2.2.2.2):=by
 obtain⟨L,A,z,q,c,a⟩:=i;dsimp only at h1;subst h1;exact⟨⟨h.o.o1,h.o.o2,h.o.r,(by decide:¬(10:Int)=3)⟩,h.s⟩
theorem QC.cbr {n m:Nat} {out o1 o2 a:Y IT} {br:IT} (h1:QC nT ss t n out o1) (h2:o2=o1++[br]) (hb:GI nT ss t br) (s:br.1=10) (q:QC nT ss t m o2 a) (F:Y IT) (hl:a.length<=F.length) (z:∀k:Nat,k<a.length->¬k=o1.length->iA F k=iA a k) (hFb:∃b:Int,(0<=b/\b<=(F.length:Int))/\iA F o1.length=(br.1,br.2.1,b,br.2.2.2.1,br.2.2.2.2.1,br.2.2.2.2.2)):(∀k:Nat,k<out.length->iA F k=iA out k)/\qM F out.length o1.length/\(iA F o1.length).1=10/\qM F (o1.length+1) a.length/\(∀k:Nat,out.length<=k->k<a.length->GI nT ss t (iA F k))/\∀k:Nat,out.length<=k->k<a.length->(iA F k).1=10->0<=(iA F k).2.2.1/\(iA F k).2.2.1<=(F.length:Int):=by
 have l2:o2.length=o1.length+1:=by rw[h2,bk];rfl
 have l1:=h1.l;have l3:=q.l;have e1:∀k:Nat,k<o1.length->iA F k=iA o1 k:=λk hk=>by rw[z k (by omega) (by omega),q.p k (by omega),h2,IA hk]
 obtain⟨b,U,Z⟩:=hFb;refine ⟨λk hk=>(e1 k (by omega)).trans (h1.p k hk),h1.b.congr λk _ hk=>e1 k hk,by rw[Z];exact s,?_,λk L c=>?_,λk L c A=>?_⟩
 .have:=q.b;rw[l2]at this;exact this.congr λk L c=>z k c (by omega)
 .rcases Nd k o1.length with hk|hk|hk
  .rw[e1 k hk];exact h1.i k L hk
  .rw[hk,Z];exact hb.pb s
  .rw[z k c (by omega)];exact q.i k (by omega) c
 .rcases Nd k o1.length with hk|hk|hk
  .rw[e1 k hk]at A ⊢;have:=h1.r k L hk A;omega
  .rw[hk,Z];exact U
  .rw[z k c (by omega)]at A ⊢;have:=q.r k (by omega) c A;omega
theorem Ls (rs:FS6) (rt:FT6) (rb:FT6) (ra:FA6) (d:Nat) (hS:abh nT ss t rs d):aiq nT ss t (mG rs rt rb ra) d:=by
 intro s g out hop he h1 h2 h3 h4 hel hg hs hso hb;have hm:ME (d+1)=50+16*ME d:=rfl;have kb:s.body.length*ME d<=8*ME d:=cK _ h1;have ke:s.els.length*ME d<=8*ME d:=cK _ h2;have hex:GE 4 (ef (Xp.op s.expr,Xp.n s.expr,Xp.name s.expr,Xp.l s.expr)):=by rw[fo];exact he
 unfold mG aX bm bw cC eB kO pZ ck bf bH aV;refine aw (Cc _ _ g out hex hg hs (by rw[hg.len];decide) (by rw[hg.len];decide) (by omega)) λy Z=>?_
 obtain⟨L,o1⟩:=y;obtain⟨p1,p2⟩:=Z;dsimp only at p1 p2;subst p1;have p3:=p2.u;have p4:=p2.l;refine bd (by simp) ?_;refine aw (H5 _ L o1 (by omega)) λy Z=>?_
 obtain⟨c,o2⟩:=y;obtain⟨q1,q2⟩:=Z;dsimp only at q1 q2;subst q1;rw[hg.len]at q2;have hbr:GI nT ss t ((10,2,0,0,0,c.2.2.2.2.2.2.2.1):IT):=⟨XL (by decide) (by decide) (by simp[iR]) (by decide:¬(10:Int)=3),hs⟩
 have l2:o2.length=o1.length+1:=by rw[q2,bk];rfl
 refine bd (by simp) ?_;refine aw (hS s.body c o2 (by omega) h3 hg (hso.sub (dj _) (by omega)) (by omega)) λy Z=>?_
 obtain⟨A,a⟩:=y;obtain⟨r1,r2,r3⟩:=Z;dsimp only at r1 r2 r3;have r4:=r2.u;have r5:=r2.l;have ebr:iA a o1.length=(10,2,0,0,0,c.2.2.2.2.2.2.2.1):=by rw[r2.p _ (by omega),q2,xf]
 refine bd (by simp) ?_;have qs:=r1.trans (GQ.site A A.2.2.2.2.2.1 c.2.2.2.2.2.2.2.1 A.2.2.2.2.2.2.2.2);refine aK (λh3w=>?_) λh3w=>?_
 .have hels:nJ d s.els=0:=by rw[hel (by have h3w:s.op=3:=h3w;omega)];rfl
  rw[hels,cZ];refine aw (H5 _ _ a (by omega)) λy Z=>?_
  obtain⟨g4,q⟩:=y;obtain⟨w1,w2⟩:=Z;dsimp only at w1 w2;have l4:q.length=a.length+1:=by rw[w2,bk];rfl
  refine bd (by simp) (aO (eK _) (by dsimp only[ak];omega) (aO (eK _) (by dsimp only[ak];omega) (aj ?_)));have hat:o1.length<q.length:=by omega
  have ej:iA q a.length=(5,(out.length:Int),0,0,0,c.2.2.2.2.2.2.2.1):=by rw[w2,xf];rfl
  have e43:∀k:Nat,k<a.length->iA q k=iA a k:=λk hk=>by rw[w2,IA hk]
  refine ⟨by dsimp only;rw[w1];exact qs,?_,by dsimp only;rw[w1];exact r3⟩;dsimp only;have eF:∀{z:IT} {k:Nat},¬k=o1.length->iA (cF q ((o1.length:Nat):Int) z) k=iA q k:=λh=>by rw[yU hat,ay h]
  obtain⟨f1,f2,f3,f4,f5,f6⟩:=p2.cbr q2 hbr rfl r2 (ptB q o1.length (aN q.length)) (by rw[bT];omega) (λk hk hn=>(eF hn).trans (e43 k hk)) ⟨_,⟨eK _,by rw[bT];exact dj _⟩,by rw[yU hat,aC rfl,e43 _ (by omega),ebr];rfl⟩;show QC nT ss t _ out (ptB q o1.length (aN q.length));have ejF:iA (ptB q o1.length (aN q.length)) a.length=(5,(out.length:Int),0,0,0,c.2.2.2.2.2.2.2.1):=(eF (by omega:¬a.length=o1.length)).trans ej;refine ⟨by rw[bT];omega,by rw[bT];omega,f1,?_,λk L c=>?_,λk L c A=>?_⟩
  .rw[(bT _ _ _).trans l4];exact f2.whl f3 f4 (by rw[ejF]) (by rw[ejF])
  .rw[bT,l4]at c;by_cases hk:k<a.length
   .exact f5 k L hk
   .rw[show k=a.length by omega,ejF];exact⟨XL (by decide) (by decide) (by simp[iR]) (by decide:¬(5:Int)=3),hs⟩
  .have g2':=c;rw[bT,l4]at g2';by_cases hk:k<a.length
   .exact f6 k L hk A
   .rw[show k=a.length by omega,ejF]at A;cases A
 refine aK (λhz=>?_) λ_=>?_
 .have hels:nJ d s.els=0:=by rw[gP.1 (by dsimp only[ak]at hz;omega:s.els.length=0)];rfl
  rw[hels,cZ];refine aO (eK _) (by dsimp only[ak];omega) (aO (eK _) (by dsimp only[ak];omega) (aj ⟨qs,?_,r3⟩));dsimp only;have hat:o1.length<a.length:=by omega
  obtain⟨f1,f2,f3,f4,f5,f6⟩:=p2.cbr q2 hbr rfl r2 (ptB a o1.length (aN a.length)) (by rw[bT];omega) (λk hk hn=>by rw[yU hat,ay hn]) ⟨_,⟨eK _,by rw[bT];exact dj _⟩,by rw[yU hat,aC rfl,ebr];rfl⟩;show QC nT ss t _ out (ptB a o1.length (aN a.length));refine ⟨by rw[bT];omega,by rw[bT];omega,f1,?_,λk L c=>?_,λk L c A=>?_⟩
  .rw[bT];exact (f2.app (qM.one (by rw[f3];decide))).app f4
  .rw[bT]at c;exact f5 k L c
  .exact f6 k L (by rw[bT]at c;exact c) A
 .refine aw (H5 _ _ a (by omega)) λy Z=>?_
  obtain⟨g4,q⟩:=y;obtain⟨w1,w2⟩:=Z;dsimp only at w1 w2;have l4:q.length=a.length+1:=by rw[w2,bk];rfl
  have qs4:GQ c g4:=by rw[w1];exact qs
  have x4:gN g4=gN c+(nJ d s.body:Nat):=by rw[w1];exact r3
  have hat:o1.length<q.length:=by omega
  have ej:iA q a.length=(5,0,0,0,0,c.2.2.2.2.2.2.2.1):=by rw[w2,xf]
  have e43:∀k:Nat,k<a.length->iA q k=iA a k:=λk hk=>by rw[w2,IA hk]
  refine bd (by simp) (aO (eK _) (by dsimp only[ak];omega) (aO (eK _) (by dsimp only[ak];omega) ?_));have eF:∀{z:IT} {k:Nat},¬k=o1.length->iA (cF q ((o1.length:Nat):Int) z) k=iA q k:=λh=>by rw[yU hat,ay h]
  refine aw (hS s.els g4 (ptB q o1.length (aN q.length)) (by omega) h4 (hg.of qs4) (hso.sub (by rw[x4];omega) (by rw[x4];omega)) (by rw[bT];omega)) λy Z=>?_
  obtain⟨g5,U⟩:=y;obtain⟨z1,z2,z3⟩:=Z;dsimp only at z1 z2 z3;have z4:=z2.l;have z5:=z2.u;have zp:=z2.p;have zb:=z2.b;have zi:=z2.i;have zr:=z2.r;rw[bT]at z4 z5 zp zb zi zr;have hj5:a.length<U.length:=by omega
  refine bd (by simp) (aO (eK _) (by dsimp only[ak];omega) (aO (eK _) (by dsimp only[ak];omega) (aj ⟨qs4.trans z1,?_,by dsimp only;rw[z3,x4];omega⟩)));dsimp only;show QC nT ss t _ out (ptA U a.length (aN U.length));have eG:∀{z:IT} {k:Nat},¬k=a.length->iA (cF U ((a.length:Nat):Int) z) k=iA U k:=λh=>by rw[yU hj5,ay h]
  have ej5:iA U a.length=(5,0,0,0,0,c.2.2.2.2.2.2.2.1):=by rw[zp _ (by omega),eF (by omega),ej]
  obtain⟨f1,f2,f3,f4,f5,f6⟩:=p2.cbr q2 hbr rfl r2 (ptA U a.length (aN U.length)) (by rw[bT];omega) (λk hk hn=>by rw[eG (by omega),zp k (by omega),eF hn,e43 k hk]) ⟨aN q.length,⟨eK _,by rw[bT];dsimp only[ak];omega⟩,by rw[eG (by omega),zp _ (by omega),yU hat,aC rfl,e43 _ (by omega),ebr]⟩;have ejF:iA (ptA U a.length (aN U.length)) a.length=(5,aN U.length,0,0,0,c.2.2.2.2.2.2.2.1):=by rw[yU hj5,aC rfl,ej5]
  refine ⟨by rw[bT];omega,by rw[bT];omega,f1,?_,λk L c=>?_,λk L c A=>?_⟩
  .rw[bT];refine ((f2.app (qM.one (by rw[f3];decide))).app f4).ite (by rw[ejF]) (by rw[ejF];rfl) ?_;rw[l4]at zb;exact zb.congr λk L c=>eG (by omega)
  .rw[bT]at c;rcases Nd k a.length with hk|hk|hk
   .exact f5 k L hk
   .rw[hk,ejF];exact⟨XL (by decide) (by decide) (by simp[iR]) (by decide:¬(5:Int)=3),hs⟩
   .rw[eG (by omega)];exact zi k (by omega) c
  .have g2':=c;rw[bT]at g2';rcases Nd k a.length with hk|hk|hk
   .exact f6 k L hk A
   .rw[hk,ejF]at A;cases A
   .rw[eG (by omega)]at A ⊢;rw[bT];exact zr k (by omega) g2' A
theorem XK (rs:FS6) (rt:FT6) (rb:FT6) (ra:FA6) (d:Nat) (hB:aiq nT ss t rb d) (hA:air nT ss t ra d):SpG nT ss t (rW rs rt rb ra) (d+1):=by
 intro s g out hs hg hso hb;have hm:ME (d+1)=50+16*ME d:=rfl;obtain⟨i1,i2,i3,i4,i5,i6,i7,i8,i9,Z⟩:=hs;have hcn:Pm (d+1) s=1+nJ d s.body+nJ d s.els:=rfl;rw[hcn]at hso ⊢;obtain⟨so0,so1,so2⟩:=id hso;have so0:0<=g.2.2.2.2.2.2.2.2:=so0;have so1:g.2.2.2.2.2.2.2.2+((1+nJ d s.body+nJ d s.els:Nat):Int)<=1000:=so1;have ew:bl .i64 (g.2.2.2.2.2.2.2.2+1)=g.2.2.2.2.2.2.2.2+1:=iK (by omega) (by omega);have gs:=GQ.site g g.2.2.2.2.2.1 g.2.2.2.2.2.2.2.2 (bl .i64 (g.2.2.2.2.2.2.2.2+1));unfold rW aX bm bw cC eB bN pZ bf bH aV aE cH eh;refine aU (λx=>QG nT ss t (ME (d+1)) (1+nJ d s.body+nJ d s.els) g out x) ?_ λx hx=>aj hx
 dsimp only;have hs1:SO ss t (gS ((g.1,g.2.1,g.2.2.1,g.2.2.2.1,g.2.2.2.2.1,g.2.2.2.2.2.1,g.2.2.2.2.2.2.1,g.2.2.2.2.2.2.2.2,bl .i64 (g.2.2.2.2.2.2.2.2+1)):GN)):=so2 _ (dj _) (by show g.2.2.2.2.2.2.2.2<g.2.2.2.2.2.2.2.2+((1+nJ d s.body+nJ d s.els:Nat):Int);omega);have hn1:gN ((g.1,g.2.1,g.2.2.1,g.2.2.2.1,g.2.2.2.2.1,g.2.2.2.2.2.1,g.2.2.2.2.2.2.1,g.2.2.2.2.2.2.2.2,bl .i64 (g.2.2.2.2.2.2.2.2+1)):GN)=gN g+1:=ew;revert gs hs1 hn1;generalize ((g.1,g.2.1,g.2.2.1,g.2.2.2.1,g.2.2.2.2.1,g.2.2.2.2.2.1,g.2.2.2.2.2.2.1,g.2.2.2.2.2.2.2.2,bl .i64 (g.2.2.2.2.2.2.2.2+1)):GN)=U;intro gs hs1 hn1;have L:=hg.of gs;have hso1:=hso.sub (b:=gN U) (n:=nJ d s.body+nJ d s.els) (by rw[hn1];omega) (by rw[hn1];omega);have fin:∀(n m:Nat) (y:GN×Y IT),QG nT ss t n m U out y->n<=ME (d+1)->m=nJ d s.body+nJ d s.els->QG nT ss t (ME (d+1)) (1+nJ d s.body+nJ d s.els) g out y:=λn m y A hn hm=>⟨gs.trans A.q,(QC.nil 0 out).trans A.c (by omega),by rw[A.x,hn1];omega⟩
 have fin0:s.op=1\/9<=s.op->∀(n:Nat) (y:GN×Y IT),y.1=U/\QC nT ss t n out y.2->n<=ME (d+1)->QG nT ss t (ME (d+1)) (1+nJ d s.body+nJ d s.els) g out y:=λz n y A hn=>fin n 0 y ⟨by rw[A.1];exact GQ.refl U,A.2,by rw[A.1];simp⟩ hn (by rw[Z.bo z,Z.el (by omega)];rfl)
 refine aK (λz=>?_) λ_=>?_
 .refine aw (Vg (nS _) U out ?_ ?_ ?_ ?_ L hs1 (by omega)) λy A=>bd (by simp) (aj (fin0 (.inl z) _ _ A (by omega)))
  .rw[xL];exact i1
  .rw[xL];exact i3
  .rw[xL];exact i4 (.inl z)
  .rw[xL];exact Z.vr z
 refine aU (λx=>x.2=(U,s,out)/\(x.1=J↔s.op=2\/s.op=3)) ?_ ?_
 .exact aK (λh=>aj ⟨by dsimp only;rw[xL],λ_=>.inl h,λ_=>aR h⟩) λh=>aj ⟨by dsimp only;rw[xL],λh2=>.inr (be h2),λh2=>aR (h2.resolve_left h)⟩
 rintro⟨b,x⟩ ⟨e,hb2⟩;dsimp only at e hb2;subst e;refine aQ (λhb3=>?_) λhbf=>?_
 .dsimp only;rw[xL];refine aw (hB s U out (hb2.1 hb3) (i4 (by rcases hb2.1 hb3 with h|h;exact .inr (.inl h);exact .inr (.inr (.inl h)))) i6 i7 i8 i9 Z.el L hs1 hso1 hb) λy A=>bd (by simp) (aj (fin _ _ _ A (by omega) rfl))
 have har:∀(a b c:Int),4<=s.op->GO nT (a,c,0,0,0,0)->GO nT (b,c,0,0,0,0)->¬a=5/\¬a=10->¬b=5/\¬b=10->Ok (ra ((s,a,b,c),U,out)) λy=>QG nT ss t (ME (d+1)) (1+nJ d s.body+nJ d s.els) g out y:=λa b c h4 ga gb na nb=>(hA s a b c U out i6 i8 ga gb na nb L hs1 (hso1.sub (dj _) (by omega)) hb).mono λy A=>fin _ _ _ A (by omega) (by rw[Z.el (by omega)];rfl)
 have hput:∀{op:Int} {r:υ},9<=s.op->GO nT (op,r)->¬op=5/\¬op=10->Ok (cD ((op,r),U,out)) (QG nT ss t (ME (d+1)) (1+nJ d s.body+nJ d s.els) g out):=λh9 hi h5=>(w7 (by omega) L hs1 hi h5).mono λy A=>fin0 (.inr h9) _ _ A (by omega)
 have hlk:∀n:ζ,Ok (ko (U.2.1,n)) λr=>(n=[109]->r=0)/\(n=[110]->r=1)/\(n=[114]->r=2):=λn=>(Mn U.2.1 n (by rw[L.l];decide)).mono λr h=>ag9 (by rw[L.l]at h;exact h)
 have hcond:∀(n:ζ),Ok (jy (n,U,out)) λy=>y.2=(U,out)/\(n=[99]->y.1=0):=λn=>aaj n U out L
 have hth:Ok (ja (U.2.2.2.2.1,s.name)) λr=>s.op=12\/s.op=13->0<=r/\r<(nT:Int):=(yg U.2.2.2.2.1 s.name (by rw[L.t,bJ];have q4:vL.length=4:=rfl;omega)).mono λr hr z=>by
  have hn:=Z.sp z;have hl:(vL.take nT).length<=nT:=p_ ..;obtain⟨_,h2,_,h4⟩:=hr;rw[L.t]at h2 h4;exact⟨B6.1 λh=>h4 h hn,by omega⟩
 have hft:∀n:ζ,Ok (ja (U.2.2.2.1,n)) λr=>n=[102]->r=0:=λn=>(yg U.2.2.2.1 n (by rw[L.f];decide)).mono λr hr hn=>by
  obtain⟨h1,h2,_,h4⟩:=hr;rw[L.f]at h2 h4;have h2:r<1:=h2;have:¬r<0:=λh=>h4 h (by rw[hn];decide)
  omega
 dsimp only;rw[xL];have gor:∀{a c:Int},1<=a->a<=27->iR (a,c,0,0,0,0)=[]->OB nT (a,c,0,0,0,0)->GO nT (a,c,0,0,0,0):=λh1 h2 h3 h4=>⟨h1,h2,by rw[h3];exact λj hj=>(by cases hj),h4⟩
 refine aK (λz=>aw (hlk _) λv hv=>aw (har _ _ _ (by have z:s.op=4:=z;omega) (gor (by decide) (by decide) rfl ?_) (gor (by decide) (by decide) rfl ?_) (by decide) (by decide)) λy A=>bd (by simp) (aj A)) λ_=>?_
 .exact (Z.lk z).imp hv.1 hv.2.1
 .exact (Z.lk z).imp hv.1 hv.2.1
 refine aK (λz=>aw (hlk _) λv hv=>aw (har _ _ _ (by have z:s.op=5:=z;omega) (gor (by decide) (by decide) rfl ?_) (gor (by decide) (by decide) rfl ?_) (by decide) (by decide)) λy A=>bd (by simp) (aj A)) λ_=>?_
 .exact hv.2.2 (Z.rw (.inl z))
 .exact hv.2.2 (Z.rw (.inl z))
 refine aK (λz=>aw (hlk _) λv hv=>aw (har _ _ _ (by have z:s.op=6:=z;omega) (gor (by decide) (by decide) rfl ?_) (gor (by decide) (by decide) rfl ?_) (by decide) (by decide)) λy A=>bd (by simp) (aj A)) λ_=>?_
 .exact hv.2.2 (Z.rw (.inr z))
 .exact hv.2.2 (Z.rw (.inr z))
 refine aK (λz=>aw (har _ _ _ (by have z:s.op=7:=z;omega) (gor (by decide) (by decide) rfl (by decide:¬(17:Int)=3)) (gor (by decide) (by decide) rfl (by decide:¬(18:Int)=3)) (by decide) (by decide)) λy A=>bd (by simp) (aj A)) λ_=>?_
 refine aK (λz=>aw (har _ _ _ (by have z:s.op=8:=z;omega) (gor (by decide) (by decide) rfl (by decide:¬(19:Int)=3)) (gor (by decide) (by decide) rfl (by decide:¬(20:Int)=3)) (by decide) (by decide)) λy A=>bd (by simp) (aj A)) λ_=>?_
 refine aK (λz=>aw (hcond _) λy A=>?_) λ_=>?_
 .obtain⟨v,y2⟩:=y;obtain⟨y3,y4⟩:=A;dsimp only at y3;subst y3;exact bd (by simp) (aw (hput (by have z:s.op=9:=z;omega) (gor (by decide) (by decide) rfl (y4 (Z.cn (.inl z)))) (by decide)) λy A=>bd (by simp) (aj A))
 refine aK (λz=>aw (hcond _) λy A=>?_) λ_=>?_
 .obtain⟨v,y2⟩:=y;obtain⟨y3,y4⟩:=A;dsimp only at y3;subst y3;exact bd (by simp) (aw (hput (by have z:s.op=10:=z;omega) (gor (by decide) (by decide) rfl (y4 (Z.cn (.inr (.inl z))))) (by decide)) λy A=>bd (by simp) (aj A))
 refine aK (λz=>aw (hcond _) λy A=>?_) λ_=>?_
 .obtain⟨v,y2⟩:=y;obtain⟨y3,y4⟩:=A;dsimp only at y3;subst y3;exact bd (by simp) (aw (hput (by have z:s.op=11:=z;omega) (gor (by decide) (by decide) rfl (y4 (Z.cn (.inr (.inr z))))) (by decide)) λy A=>bd (by simp) (aj A))
 refine aK (λz=>aw hth λv hv=>aw (hput (by have z:s.op=12:=z;omega) (gor (by decide) (by decide) rfl (hv (.inl z))) (by decide)) λy A=>bd (by simp) (aj A)) λ_=>?_
 refine aK (λz=>aw hth λv hv=>aw (hput (by have z:s.op=13:=z;omega) (gor (by decide) (by decide) rfl (hv (.inr z))) (by decide)) λy A=>bd (by simp) (aj A)) λ_=>?_
 refine aK (λz=>?_) λn14=>?_
 .have hex:GE 4 (ef (Xp.op s.expr,Xp.n s.expr,Xp.name s.expr,Xp.l s.expr)):=by rw[fo];exact i4 (.inr (.inr (.inr z)))
  refine aw (Cc _ _ U out hex L hs1 (by rw[hg.len];decide) (by rw[hg.len];decide) (by omega)) λy A=>?_
  obtain⟨g2,o2⟩:=y;obtain⟨q1,q2⟩:=A;dsimp only at q1 q2;subst q1;have q3:=q2.u;refine bd (by simp) (aw (hft _) λv hv=>?_);refine aw (w7 (by omega) L hs1 (XL (by decide) (by decide) (by simp[iR,hg.h,L0]) (hv (Z.se z))) (by decide)) λy A=>bd (by simp) (aj (fin0 (.inr (by have z:s.op=14:=z;omega)) 16 _ ⟨A.1,q2.trans A.2 (bU _)⟩ (by omega)))
 refine aK (λz=>?_) λn15=>?_
 .refine aw (yg _ _ (by rw[L.h];decide)) λv hv=>aw (hft _) λv2 hv2=>?_
  have hge:=Z.ge z;have hl:(0:Int)<=v/\v<2:=by
   obtain⟨_,h2,_,h4⟩:=hv;rw[L.h]at h2 h4;exact⟨B6.1 λh=>h4 h (by rw[hge.1];decide),h2⟩
  exact aw (hput (by have z:s.op=15:=z;omega) (XL (by decide) (by decide) (by simp[iR];omega) (hv2 hge.2)) (by decide)) λy A=>bd (by simp) (aj A)
 .exfalso;have h1:=Z.o0;have h2:=Z.o1;have h3:¬(s.op=2\/s.op=3):=λh=>by have hbf:b=af:=hbf;rw[hb2.2 h]at hbf;cases hbf
  omega
variable {nT:Nat} {ss:Y π} {t:Int}
theorem Wr:∀(n:Nat),(∀d:Nat,3*d<n->SpG nT ss t (eR n) d)/\(∀d:Nat,3*d+1<n->abh nT ss t (dL n) d)/\(∀d:Nat,3*d+2<n->aiq nT ss t (c8 n) d)/\(∀d:Nat,3*d+2<n->air nT ss t (dG n) d)
 |0=>⟨λd h=>by omega,λd h=>by omega,λd h=>by omega,λd h=>by omega⟩
 |n+1=>by
  obtain⟨c,a,q,hA⟩:=Wr n;refine ⟨λd h=>?_,λd h=>?_,λd h=>?_,λd h=>?_⟩
  .cases d with
   |zero=>exact λs g out hs=>hs.elim
   |succ d=>exact XK (dL n) (eR n) (c8 n) (dG n) d (q d (by omega)) (hA d (by omega))
  .exact Ut (dL n) (eR n) (c8 n) (dG n) d (c d (by omega))
  .exact Ls (dL n) (eR n) (c8 n) (dG n) d (a d (by omega))
  .exact QQ (dL n) (eR n) (c8 n) (dG n) d (a d (by omega))
theorem Of (d:Nat) (hd:d<=100):abh nT ss t t_ d:=(Wr fuel).2.1 d (by rw[jZ];omega)
structure SL (t k:Int) (m:Nat) (S:List π):Prop where
 l:S.length=m
 v:∀i:Nat,i<m->(aI (T:=xJ) S (i:Int)).1=t/\(aI (T:=xJ) S (i:Int)).2.1=k+i
theorem I3 {T:Ty} {l m:Y T.den} {k:Nat} (h:k<l.length):aI (l++m) (k:Int)=aI l (k:Int):=by
 rw[yY,yY,au,au,bP h]
theorem I2 {T:Ty} {l m:Y T.den} {k:Nat} (h:l.length<=k):aI (l++m) (k:Int)=aI m ((k-l.length:Nat):Int):=by
 rw[yY,yY,au,au,b8 h]
theorem SL.nil (t k:Int):SL t k 0 []:=⟨rfl,λi h=>by omega⟩
theorem SL.one (t k z:Int):SL t k 1 [(t,k,z)]:=⟨rfl,λi h=>by rw[show i=0 by omega];exact⟨rfl,by show k=k+((0:Nat):Int);omega⟩⟩
theorem SL.app {k k':Int} {a b:Nat} {S S':Y π} (h:SL t k a S) (h':SL t k' b S') (hk:k'=k+a):SL t k (a+b) (S++S'):=by
 obtain⟨h1,h2⟩:=h;obtain⟨q,c⟩:=h';refine ⟨by rw[bk];omega,λi hi=>?_⟩;by_cases hl:i<S.length
 .rw[I3 (T:=xJ) hl];exact h2 i (by omega)
 .rw[I2 (T:=xJ) (by omega)];have:=c (i-S.length) (by omega);exact⟨this.1,this.2.trans (show k'+((i-S.length:Nat):Int)=k+(i:Int) by omega)⟩
theorem EG:∀(n d:Nat),d<n->∀(t k:Int) (l:Y Sx) (out:Y π),l.length<=100->(∀s∈l,GT d s)->0<=k->k+nJ d l<=100000000->out.length+nJ d l<=100000000->Ok (px n ((t,k,l),out)) λy=>y.1=k+nJ d l/\∃S,y.2=out++S/\SL t k (nJ d l) S
 |0,_,h,_,_,_,_,_,_,_,_,_=>by omega
 |n+1,d,hn,t,k,l,out,hl,hs,k0,hkb,hb=>by
  rw[GY];unfold xj bA wS bH aV cR aE cH;refine cf l.length (λi x=>x.1.2=(i:Int)/\x.1.1=k+nJ d (l.take i)/\∃S,x.2=out++S/\SL t k (nJ d (l.take i)) S) ?_ ?_ ⟨rfl,by simp[nJ],[],by simp,by simp[nJ];exact SL.nil t k⟩
  .rintro i ⟨⟨a,b⟩,o⟩ hi ⟨e1,e2,S,e3,Z⟩;dsimp only at e1 e2 e3;subst e1;subst e2;subst e3;have hp:=OM (d:=d) l (i+1);rw[wF hi]at hp;rw[wF hi];refine dz ?_;have hin:((i:Nat):Int)<(l.length:Int):=by omega
   have hm:=hs _ (bM (T:=.sm) (xs:=l) (j:=(i:Int)) (by omega) (by omega));have hSl:=Z.l;cases d with
   |zero=>exact hm.elim
   |succ d=>
    obtain⟨_,_,_,g4,g5,g6,g7⟩:=hm;have hc:Pm (d+1) (aI (T:=.sm) l (i:Int))=1+nJ d (Sx.body (aI (T:=.sm) l (i:Int)))+nJ d (Sx.els (aI (T:=.sm) l (i:Int))):=rfl;rw[hc]at hp ⊢;dsimp only;refine aO (by omega) hin (aT (bc (by simp;omega) (by omega) (aO (by omega) hin (aT ?_))));rw[iK (n:=k+(nJ (d+1) (l.take i):Nat)+1) (by omega) (by omega)];refine aw (EG n d (by omega) _ _ _ _ (by omega) g6 (by omega) (by omega) (by simp;omega)) λy c=>bd (by simp) ?_
    obtain⟨a2,o2⟩:=y;obtain⟨U,S2,L,A⟩:=c;dsimp only at U L;subst U;subst L;have hSl2:=A.l;refine aO (by omega) hin (aT ?_);refine aw (EG n d (by omega) _ _ _ _ (by omega) g7 (by omega) (by omega) (by simp;omega)) λy c=>bd (by simp) (aj ?_)
    obtain⟨a3,o3⟩:=y;obtain⟨z,S3,q,z3⟩:=c;dsimp only at z q;subst z;subst q;refine ⟨gU (by omega),by dsimp only;omega,S++([_]++(S2++S3)),by simp only[jX];rfl,?_⟩;refine Z.app ?_ rfl;rw[sI];exact (SL.one t _ _).app (A.app z3 rfl) (by simp)
  .rintro⟨⟨a,b⟩,o⟩ ⟨e1,e2,e3⟩;dsimp only at e1 e2 e3;subst e1;subst e2;rw[cO]at e3 ⊢;exact dt (aj ⟨rfl,e3⟩)
theorem VO {T k' s k:Int} {l S:Y π} {m:Nat} (h:KM T l=M (k',s)) (z:SL t k m S) (hk:(k'=t/\s=k)\/(k'<t/\t<T/\k=0)):∀i:Nat,i<=m->KM T (l++S.take i)=M (if i=0 then (k',s) else (t,k+i))
 |0,_=>by rw[List.take_zero,mb,aC rfl];exact h
 |i+1,hi=>by
  have L:=VO h z hk i (by omega);rw[ol (T:=xJ) (xs:=S) (i:=i) (by rw[z.l];omega),<-jX,VQ,L];obtain⟨a,q⟩:=z.v i (by omega);rw[ay (Nat.succ_ne_zero i)];by_cases c:i=0
  .subst c;rw[aC rfl];unfold S_;dsimp only;rcases hk with ⟨h1,h2⟩|⟨h1,h2,A⟩
   .rw[aC ⟨by rw[a,h1],by rw[q,h2];simp⟩,h1,h2];simp
   .rw[ay (λh=>by rw[a]at h;omega),aC ⟨by rw[a];exact h1,by rw[a];exact h2,by rw[q,A];rfl⟩,a,A];simp
  .rw[ay c];unfold S_;dsimp only;rw[aC ⟨a,q⟩];congr 2;omega
abbrev CE6:Type:=ζ×Int×Int×Bool×Int
abbrev W4T:Type:=Y CE6×Y (ζ×Bool)×Y (ζ×Int)×Y ζ
def ceD (z:DT):Y CE6:=(dR (aP (gL z.2.2.2.1 1))).map λ(k:Nat)=>(z.2.2.1,(k:Int),z.2.2.2.1,decide (z.1=2),z.2.2.2.2.1)
def adD (y:W4T) (z:DT):W4T:=
 if z.1=1\/z.1=2 then (y.1++ceD z,y.2) else if z.1=3\/z.1=4 then (y.1,y.2.1++[(z.2.2.1,decide (z.1=4))],y.2.2) else if z.1=5 then (y.1,y.2.1,y.2.2.1++[(z.2.2.1,0)],y.2.2.2) else (y.1,y.2.1,y.2.2.1,y.2.2.2++[z.2.2.1])
def W4 (i:Nat):W4T:=(D0.take i).foldl adD ([],[],[],[])
theorem W4_9:W4 9=(C0,Gt,L1,SE):=rfl
theorem W4_s {i:Nat} (hi:i<9):W4 (i+1)=adD (W4 i) (aI (T:=tDc) D0 (i:Int)):=by
 unfold W4;rw[ol (T:=tDc) (xs:=D0) hi,eC];rfl
theorem D0_c:∀i:Nat,i<9->(aI (T:=tDc) D0 (i:Int)).1=5->i=7:=by decide
theorem alq:∀i:Nat,i<9->(W4 i).1.length<=5/\(W4 i).2.1.length<=3/\(W4 i).2.2.1.length<=1/\(W4 i).2.2.2.length<=1/\gL (aI (T:=tDc) D0 (i:Int)).2.2.2.1 1<=2/\1<=gL (aI (T:=tDc) D0 (i:Int)).2.2.2.1 1:=by decide
def bsN (p:PG) (i:Nat):Nat:=((p.2.take i).map λt=>nJ 5 t.2.2.2).sum
def boN (p:PG) (i:Nat):Nat:=nJ 5 (aI (T:=yz) p.2 (i:Int)).2.2.2
theorem agk {p:PG} {i:Nat} (hi:i<p.2.length):bsN p (i+1)=bsN p i+boN p i:=by
 unfold bsN boN;rw[ol (T:=yz) hi,cQ,Fi];simp
theorem Vc {p:PG} (i:Nat) (h:(p.2.map λt=>nJ 5 t.2.2.2).sum<=60):bsN p i<=60:=by
 refine dv ?_ h
 conv=>rhs;rw[<- Bi i p.2]
 unfold bsN;rw[cQ,Fi];omega
structure SW (p:PG) (i:Nat) (S:List π):Prop where
 l:S.length=bsN p i
 f:∃a b,KM p.2.length S=M (a,b)/\(a<i\/a=0/\b=0)
 s:∀j:Nat,j<i->SR S (j:Int) (bsN p j:Nat) (boN p j)
structure WW (p:PG) (w:WT):Prop where
 x:WX w
 t:w.2.2.2.2.1=vL.take p.2.length
 s:∀j:Nat,j<p.2.length->SR w.2.2.2.2.2 (j:Int) (bsN p j:Nat) (boN p j)
theorem SO.app {S S':Y π} {t s:Int} (h:SO S t s):SO (S++S') t s:=by
 obtain⟨h0,h1,h2⟩:=h;obtain⟨s,rfl⟩:∃n:Nat,s=(n:Int):=⟨s.toNat,by omega⟩
 exact⟨h0,by rw[bk];omega,by rw[I3 (T:=xJ) (by omega)];exact h2⟩
theorem Vl (p:PG) (hp:PJ p) (r:ν) (hr:fx p=M r) (h0:r.1=0) (hc:(p.2.map λt=>nJ 5 t.2.2.2).sum<=60):Ok (ua p) (WW p):=by
 have hpt:=hp.t;unfold ua aX bm bw cC eB bN du cW fw lJ bf bA jf bH bO aV cR aE cH;refine aS hr (b9 (λh=>(h h0).elim) λ_=>?_);have hD:p.1=D0:=hp.d;have hlen:p.1.length=9:=by rw[hD];rfl
 refine cf 9 (λi x=>x.1=(i:Int)/\x.2.1=p/\x.2.2=W4 i) ?_ ?_ ⟨rfl,rfl,rfl⟩
 .rintro i ⟨a,p',y⟩ hi ⟨e1,e2,e3⟩;dsimp only at e1 e2 e3;subst e1;have e2:=e2.symm;subst e2;obtain⟨b1,b2,b3,b4,b5,b6⟩:=alq i hi;rw[<- e3]at b1 b2 b3 b4;have hW:=W4_s hi;rw[<- e3]at hW;have hcd:=D0_c i hi;have hlk:i=7->y.2.1=Gt/\(aI (T:=tDc) D0 (i:Int)).2.2.2.2.2=[109]:=λh=>by subst h;rw[e3];exact⟨rfl,rfl⟩
  refine dz ?_;refine cI (aT ?_);dsimp only;rw[hD];revert hW hcd hlk b5 b6;generalize (aI (T:=tDc) D0 (i:Int))=z;intro b5 b6 hW hcd hlk;refine aU (λx=>x=(p,W4 (i+1))) ?_ ?_
  .rw[hW];unfold adD;refine aU (λx=>x.2=(p,z,y)/\(x.1=J↔(z.1=1\/z.1=2))) ?_ ?_
   .exact aK (λh=>aj ⟨rfl,λ_=>.inl h,λ_=>aR h⟩) λh=>aj ⟨rfl,λh2=>.inr (be h2),λh2=>aR (h2.resolve_left h)⟩
   rintro⟨b,x⟩ ⟨e,hb⟩;dsimp only at e hb;subst e;refine aQ (λA=>?_) λA=>?_
   .rw[aC (hb.1 A)];unfold ceD;obtain⟨m,hm⟩:∃m:Nat,gL z.2.2.2.1 1=(m:Int):=⟨(gL z.2.2.2.1 1).toNat,by omega⟩
    rw[hm,cB];refine cf m (λk x=>x=((k:Int),p,z,y.1++(dR k).map (λ(k:Nat)=>(z.2.2.1,(k:Int),z.2.2.2.1,decide (z.1=2),z.2.2.2.2.1)),y.2)) ?_ ?_ (by simp)
    .rintro k x hk rfl;refine bK (λ_=>?_) λg=>(by dsimp only at g;rw[hm]at g;omega)
     refine bc (by simp;omega) (by omega) (aj ?_);dsimp only;rw[gU (by omega),List.range_succ,cQ,<-jX];rfl
    .rintro x rfl;exact bK (λg=>(by dsimp only at g;rw[hm]at g;omega)) λ_=>aj rfl
   rw[ay λh=>by have A:b=af:=A;rw[hb.2 h]at A;cases A];refine aU (λx=>x.2=(p,z,y)/\(x.1=J↔(z.1=3\/z.1=4))) ?_ ?_
   .exact aK (λh=>aj ⟨rfl,λ_=>.inl h,λ_=>aR h⟩) λh=>aj ⟨rfl,λh2=>.inr (be h2),λh2=>aR (h2.resolve_left h)⟩
   rintro⟨c,x⟩ ⟨e,Z⟩;dsimp only at e Z;subst e;refine aQ (λh=>?_) λh=>?_
   .rw[aC (Z.1 h)];exact bc (by simp;omega) (by omega) (aj rfl)
   rw[ay λh2=>by have h:c=af:=h;rw[Z.2 h2]at h;cases h];refine aK (λh5=>?_) λh5=>?_
   .obtain⟨l1,l2⟩:=hlk (hcd h5);rw[aC h5];refine aw (Mn _ _ (by dsimp only;rw[l1];decide)) λv hv=>?_
    have hv:=(ag9 (by dsimp only at hv;rw[l1]at hv;exact hv)).1 l2;subst hv;exact bc (by simp;omega) (by omega) (aj rfl)
   .rw[ay h5];exact bc (by simp;omega) (by omega) (aj rfl)
  rintro x rfl;exact aj ⟨gU (by omega),rfl,rfl⟩
 .rintro⟨a,p',y⟩ ⟨e1,e2,j⟩;dsimp only at e1 e2 j;subst e1;have e2:=e2.symm;subst e2;rw[W4_9]at j;subst j;refine dt ?_;refine aw (P:=WW p) ?_ λr hr=>aj hr
  refine cf p.2.length (λi x=>x.1=(i:Int)/\x.2.1=p/\x.2.2.1=C0/\x.2.2.2.1=Gt/\x.2.2.2.2.1=L1/\x.2.2.2.2.2.1=SE/\x.2.2.2.2.2.2.1=vL.take i/\SW p i x.2.2.2.2.2.2.2) ?_ ?_ ⟨rfl,rfl,rfl,rfl,rfl,rfl,rfl,rfl,⟨0,0,rfl,.inr ⟨rfl,rfl⟩⟩,λj hj=>by omega⟩
  .rintro i ⟨a,p2,c2,l2,d2,f2,t2,s2⟩ hi ⟨e1,e2,e3,e4,e5,e6,e7,U,⟨fa,fb,f8,f9⟩,L⟩;dsimp only at e1 e2 e3 e4 e5 e6 e7 U f8 L;subst e1;have e2:=e2.symm;subst e2;have hb8:=Vc (i+1) hc;have hbs:=agk hi;refine dz ?_;have hin:((i:Nat):Int)<(p.2.length:Int):=by omega
   have hm:=hp.m _ (bM (T:=yz) (xs:=p.2) (j:=(i:Int)) (by omega) hin);have hnm:(aI (T:=yz) p.2 (i:Int)).1=aI (T:=.str) vL (i:Int):=by
    have h1:=ol (T:=yz) hi;have h2:=gR (List.map Prod.fst) h1;rw[cQ,kR,kR,hp.n,List.take_take,List.take_take,sG (by omega),sG (by omega),ol (T:=.str) (xs:=vL) (i:=i) (by have q4:vL.length=4:=rfl;omega)]at h2;exact ((List.cons.inj (List.append_cancel_left h2)).1).symm
   have htl:t2.length=i:=by rw[e7,bJ];have q4:vL.length=4:=rfl;omega
   dsimp only;refine aO (by omega) hin (aT (bc (by simp;omega) (by omega) (aO (by omega) hin (aT ?_))));refine aw (EG fuel 5 (by rw[jZ];omega) _ _ _ s2 (by have:=hm.b;omega) (λs hs=>((hm.s s hs).le (by omega:3<=5)).t) (dj _) ?_ ?_) λy hy=>bd (by simp) (aj ?_)
   .show (0:Int)+(boN p i:Nat)<=_;omega
   .show s2.length+boN p i<=_;omega
   obtain⟨_,S,h2,h3⟩:=hy;have h3:SL (i:Int) 0 (boN p i) S:=h3;refine ⟨gU (by omega),rfl,e3,e4,e5,e6,?_,?_⟩
   .dsimp only;rw[e7,hnm,<-ol (T:=.str) (xs:=vL) (i:=i) (by have q4:vL.length=4:=rfl;omega)]
   .dsimp only;rw[h2];refine ⟨by rw[bk,h3.l,U,hbs],?_,λj hj=>?_⟩
    .have hr:=VO f8 h3 (by rcases f9 with h|⟨h,h'⟩;exact .inr ⟨h,by omega,rfl⟩;rcases KE i with hi0|hi0;exact .inl ⟨by omega,h'⟩;exact .inr ⟨by omega,by omega,rfl⟩) (boN p i) (bU _);rw[<- h3.l,cO]at hr;rw[hr];split
     .exact⟨_,_,rfl,f9.imp (λh=>by omega) id⟩
     .exact⟨_,_,rfl,.inl (by omega)⟩
    .rcases b7 j i with h1|h1
     .obtain⟨g1,g2,g3⟩:=L j h1;exact⟨g1,g2,λq q1 q2=>(g3 q q1 q2).app⟩
     .have hj:j=i:=by omega
      subst hj;refine ⟨by omega,by omega,λq q1 q2=>?_⟩;obtain⟨q,rfl⟩:∃n:Nat,q=(n:Int):=⟨q.toNat,by omega⟩
      refine ⟨by omega,by rw[bk,h3.l];omega,?_⟩;rw[I2 (T:=xJ) (by omega)];exact (h3.v _ (by omega)).1
  .rintro⟨a,p2,c2,l2,d2,f2,t2,s2⟩ ⟨e1,e2,e3,e4,e5,e6,e7,U,⟨fa,fb,f8,f9⟩,L⟩;dsimp only at e1 e2 e3 e4 e5 e6 e7 U f8 L;subst e1;have e2:=e2.symm;subst e2;subst e3;subst e4;subst e5;subst e6;subst e7;refine dt (aj ?_);have hb8:=Vc p.2.length hc;refine ⟨⟨rfl,rfl,rfl,rfl,⟨p.2.length,hp.t0,hp.t,rfl⟩,by dsimp only;omega,?_⟩,rfl,L⟩;unfold SV0;have hTl:(vL.take p.2.length).length=p.2.length:=by rw[bJ];have q4:vL.length=4:=rfl;omega
   dsimp only;rw[hTl,f8];simp
def YA:Y ζ:=[[120],[121],[118],[113],[109],[110],[114],[99],[102]]
set_option maxHeartbeats 20000000 in
theorem ZF (t:Y ζ) (ht:t.length<=4) (s:Y π):pl (C0,Gt,L1,SE,t,s)=M (YA++t,J):=by
 refine cG ?_;unfold pl aX bm bw cC du lJ bf bA jf bH bO aV cR aE cH;with_reducible repeat' first|exact aj rfl|refine V8 ?_|refine V7 ?_|refine V6 ?_|refine V4 ?_|refine ad6 ?_|refine aT ?_|refine fP rfl ?_|refine fA rfl ?_|refine bd rfl ?_|refine V5 ?_|refine P1 ?_|refine P0 ?_
 refine bc (by show 9+t.length<=1073741824;omega) (by decide) ?_;with_reducible repeat' first|exact aj rfl|refine V8 ?_|refine V7 ?_|refine V6 ?_|refine V4 ?_|refine ad6 ?_|refine aT ?_|refine fP rfl ?_|refine fA rfl ?_|refine bd rfl ?_|refine V5 ?_|refine P1 ?_|refine P0 ?_
theorem SA:∀x∈YA++vL,Ok (fk x) λb=>b=J:=by
 intro x a;simp only[YA,vL,gx,j8,bh,cu,gj]at a;rcases a with rfl|rfl|rfl|rfl|rfl|rfl|rfl|rfl|rfl|rfl|rfl|rfl|rfl;all_goals with_reducible repeat' first|exact aj rfl|refine V8 ?_|refine V7 ?_|refine V6 ?_|refine V4 ?_|refine P0 ?_|refine ad6 ?_|refine aT ?_|refine fP rfl ?_|refine fA rfl ?_|refine bd rfl ?_|refine V5 ?_|refine P1 ?_|refine c6 (fk.eq_1 ..) ?_|refine c6 (jL.eq_1 ..) ?_|refine c6 (kE.eq_1 ..) ?_|refine c6 (lE.eq_1 ..) ?_|refine c6 (po.eq_1 ..) ?_|refine c6 (ru.eq_1 ..) ?_
theorem GT.up:∀{d:Nat} {s:Sx},GT d s->GT (d+1) s
 |0,_,h=>h.elim
 |_+1,_,⟨a,b,c,e,f,g,i⟩=>⟨a,b,c,e,f,λx q=>GT.up (g x q),λx q=>GT.up (i x q)⟩
theorem ahy {l:Y Sx} (h:∀s∈l,GT 3 s):nJ 5 l=nJ 3 l:=by
 unfold nJ;rw[mm λx a=>(OL (GT.up (h x a))).trans (OL (h x a))]
theorem ait:∀i:Nat,i<13->∀r:Nat,r<i->aI (T:=.str) (YA++vL) (r:Int)≠aI (T:=.str) (YA++vL) (i:Int):=by decide
theorem PD (T:Int):∀l:Y π,l.foldl (S_ T) D=D
 |[]=>rfl
 |_::r=>PD T r
theorem VP {T:Int} {l:Y π} (h:KM T l≠D) (i:Nat):KM T (l.take i)≠D:=λhn=>h (by
 unfold KM at hn ⊢;rw[<- Bi i l,eC,hn,PD])
theorem Zi {T t n:Int} {z:π} (h:S_ T (M (t,n)) z≠D):S_ T (M (t,n)) z=M (z.1,z.2.1+1)/\(z.1=t/\z.2.1=n\/t<z.1/\z.1<T/\z.2.1=0):=by
 unfold S_ at h ⊢;dsimp only at h ⊢;by_cases h1:z.1=t/\z.2.1=n
 .rw[aC h1];exact⟨by rw[h1.1,h1.2],.inl h1⟩
 .rw[ay h1]at h ⊢;by_cases h2:t<z.1/\z.1<T/\z.2.1=0
  .rw[aC h2];exact⟨by rw[h2.2.2];rfl,.inr h2⟩
  .rw[ay h2]at h;exact (h rfl).elim
theorem Bw {R:Type} {a b:Int} {t f:I R} {Q:R->Prop} (h:b<=a) (hf:Ok f Q):Ok (aG (fK a b) t f) Q:=fA (fY.2 h) hf
theorem Ha {w:WT} (hx:WX w):ie w=M J:=by
 obtain⟨w1,w2,w3,w4,a,q⟩:=w;obtain⟨hc,hl,hd,hf,⟨n,n1,n4,ht⟩,hs,hv⟩:=hx;dsimp only at hc hl hd hf ht hs;subst hc;subst hl;subst hd;subst hf;have hT:a.length=n:=by rw[ht,bJ];have q4:vL.length=4:=rfl;omega
 have hv:KM a.length q≠D:=hv;refine cG ?_;unfold ie aX bm bw cC cW fw bf bA jG jf bH bO aV cR aE cH;refine aU (λx=>x=(af,C0,Gt,L1,SE,a,q)) ?_ ?_
 .refine Bw (show (5:Int)<=12 by decide) (Bw (show (3:Int)<=4 by decide) (Bw (show (1:Int)<=2 by decide) (Bw (show (1:Int)<=2 by decide) (Bw (show (1:Int)<=(a.length:Int) by omega) (Bw (show (a.length:Int)<=4 by omega) (aj ?_))))));dsimp only[ak];rw[fY.2 (show (q.length:Int)<=60 by omega)]
 rintro x rfl;refine c7 (aS (ZF a (by omega) q) (fA rfl ?_));have hN:YA++a=(YA++vL).take (9+n):=by rw[ht];rcases (by omega:n=1\/n=2\/n=3\/n=4) with rfl|rfl|rfl|rfl<;>rfl
 have hNl:(YA++a).length=9+n:=by rw[bk,hT];rfl
 have hNg:∀i:Nat,i<9+n->aI (T:=.str) (YA++a) (i:Int)=aI (T:=.str) (YA++vL) (i:Int):=λi hi=>by
  rw[hN,yY,yY,au,au,List.getElem?_take_of_lt hi]
 refine cf (9+n) (λi x=>x=((i:Int),C0,Gt,L1,SE,a,q)) ?_ ?_ rfl
 .rintro i x hi rfl;refine bK (λ_=>?_) λg=>(by dsimp only[ak]at g;rw[hNl]at g;omega)
  refine aU (λx=>x=(af,C0,Gt,L1,SE,a,q)) ?_ ?_
  .refine aO (by dsimp only;omega) (by dsimp only;rw[hNl];omega) (aT ?_);have hmem:aI (T:=.str) (YA++a) (i:Int)∈YA++vL:=by rw[hNg i hi];exact bM (T:=.str) (by omega) (by have:(YA++vL).length=13:=rfl;omega)
   refine aw (SA _ hmem) λb hb=>?_
   refine fA (by rw[hb];rfl) (cV (dx (by dsimp only;omega) (dx (by dsimp only;rw[hNl];omega) ?_)));refine aO (by dsimp only;omega) (by dsimp only;rw[hNl];omega) (aT ?_);refine aw (yg _ _ (by dsimp only;rw[bJ,hNl];omega)) λr hr=>aj ?_
   obtain⟨_,h2,U,_⟩:=hr;dsimp only at h2 U;rw[bJ,hNl]at h2;have hr0:¬0<=r:=λh0=>by
    have U:=U h0;obtain⟨r,rfl⟩:∃m:Nat,r=(m:Int):=⟨r.toNat,by omega⟩
    rw[yY,au,List.getElem?_take_of_lt (by omega),<-au,<-yY (T:=.str),hNg r (by omega),hNg i hi]at U;exact ait i (by omega) r (by omega) U
   rw[mg.2 (by omega)]
  .rintro x rfl;exact c7 (aj (by dsimp only;rw[gU (by omega)]))
 rintro x rfl;refine bK (λg=>(by dsimp only[ak]at g;rw[hNl]at g;omega)) λ_=>?_
 refine aw (P:=λb=>b=J) ?_ λy hy=>aj hy
 refine cf 1 (λi x=>x=((i:Int),C0,Gt,L1,SE,a,q)) ?_ ?_ rfl
 .rintro i x hi rfl;have hi0:i=0:=by omega
  subst hi0;refine fP rfl (bd rfl (aT (aU (λx=>x=(af,C0,Gt,L1,SE,a,q)) ?_ ?_)))
  .exact fA rfl (fA rfl (bd rfl (aT (aj rfl))))
  .rintro x rfl;exact c7 (aj (by dsimp only;rw[gU (by omega)]))
 rintro x rfl;refine bK (λg=>(by have g:(1:Int)<1:=g;omega)) λ_=>?_
 refine aw (P:=λb=>b=J) ?_ λy hy=>aj hy
 refine cf q.length (λi x=>x=((i:Int),C0,Gt,L1,SE,a,q)/\∃t k:Int,KM a.length (q.take i)=M (t,k)/\0<=t/\t<(a.length:Int)/\(i=0->t=0/\k=0)/\(¬i=0->(aI (T:=xJ) q ((i-1:Nat):Int)).1=t/\(aI (T:=xJ) q ((i-1:Nat):Int)).2.1+1=k/\0<k/\k<=i)) ?_ ?_ ⟨rfl,0,0,rfl,by omega,by omega,λ_=>⟨rfl,rfl⟩,λh=>(h rfl).elim⟩
 .rintro i x hi ⟨rfl,t,k,hF,t0,tT,hz,hp⟩;have hw:¬(i:Int)=0->bl .i64 ((i:Int)-1)=((i-1:Nat):Int):=λh=>by rw[iK (by omega) (by omega)];omega
  have hnx:=HZ (T:=a.length) hi;have hne:=VP hv (i+1);rw[hnx,hF]at hne;obtain⟨hs1,s⟩:=Zi hne;rw[hF,hs1]at hnx;refine dz ?_;refine aU (λx=>x=(C0,Gt,L1,SE,a,q)) ?_ ?_
  .refine cI (aT ?_);revert s;generalize (aI (T:=xJ) q (i:Int))=z;obtain⟨(A:Int),(Z:Int),z3⟩:=z;intro s;dsimp only at s;refine aU (λx=>x=(af,(C0,Gt,L1,SE,a,q),A,Z,z3)) ?_ ?_
   .refine Bw (show (0:Int)<=A by omega) (aj ?_);dsimp only[ak];rw[mg.2 (show A<(a.length:Int) by omega)]
   rintro x rfl;refine c7 (aU (λx=>x.2=((C0,Gt,L1,SE,a,q),A,Z,z3)/\(x.1=J->i=0\/¬t=A)/\(x.1=af->¬i=0/\t=A)) ?_ ?_)
   .refine aK (λh=>aj ⟨rfl,λ_=>.inl (by have h:((i:Nat):Int)=0:=h;omega),λh=>(by cases h)⟩) λh=>?_
    have h:¬((i:Nat):Int)=0:=h;dsimp only;rw[hw h];have hq:=(hp (by omega)).1;exact aO (by omega) (by first|omega|(dsimp only;omega)) (aT (aj ⟨rfl,λh2=>.inr (by rw[<- hq];simpa using h2),λh2=>⟨by omega,by rw[<- hq];simpa using h2⟩⟩))
   rintro⟨c,x⟩ ⟨e,L,hc⟩;dsimp only at e L hc;subst e;refine aQ (λhct=>?_) λhcf=>?_
   .have hz2:Z=0:=by
     rcases L hct with h|h
     .have:=hz h;omega
     .omega
    refine aU (λx=>x=(af,C0,Gt,L1,SE,a,q)) ?_ ?_
    .refine b9 (λh=>(h hz2).elim) λ_=>bK (λh=>?_) λ_=>aj rfl
     have h:(0:Int)<((i:Nat):Int):=h;dsimp only;rw[hw (by omega)];have hq:=(hp (by omega)).1;refine aO (by omega) (by first|omega|(dsimp only;omega)) (aT (aj ?_));dsimp only;rw[hq,fY.2 (show t<=A by omega)]
    rintro x rfl;exact c7 (aj rfl)
   .obtain⟨h1,h2⟩:=hc hcf;obtain⟨_,p2,p3,p4⟩:=hp h1;dsimp only;rw[hw (by omega)];refine aO (by omega) (by first|omega|(dsimp only;omega)) (aT ?_);refine b9 (λh=>(h ?_).elim) λ_=>aj rfl
    try dsimp only
    rw[p2,iK (by omega) (by omega)];omega
  .rintro x rfl;refine aj ⟨by dsimp only;rw[gU (by omega)],_,_,hnx,?_⟩;revert s;rw[show i+1-1=i by omega];generalize (aI (T:=xJ) q (i:Int))=z;obtain⟨(A:Int),(Z:Int),z3⟩:=z;intro s;dsimp only at s ⊢;refine ⟨by omega,by omega,λh=>by omega,λ_=>⟨rfl,rfl,?_,?_⟩⟩
   .by_cases h0:i=0
    .have:=hz h0;omega
    .have:=hp h0;omega
   .by_cases h0:i=0
    .have:=hz h0;omega
    .have:=hp h0;omega
 .rintro x ⟨rfl,_⟩;exact dt (aj rfl)
theorem Vn {c:CT} (a:WX c.1) (hl:c.2.length=c.1.2.2.2.2.1.length) (h:∀k:Nat,k<c.2.length->GC c.2.length c.1.2.2.2.2.2 (k:Int) (aI (T:=vK) c.2 (k:Int))):jJ c=M J:=by
 obtain⟨w,l⟩:=c;dsimp only at a hl h;have s:l.length<=4:=by
  obtain⟨n,_,q,ht⟩:=a.t;rw[hl,ht,bJ];omega
 refine cG ?_;unfold jJ bw bA bO aV cR aE cH;refine aU (λx=>x=(af,w,l)) ?_ ?_
 .refine aS (Ha a) (fA rfl (aj ?_));dsimp only;rw[hl];simp
 rintro x rfl;refine c7 (cf l.length (λi x=>x=((i:Int),w,l)) ?_ ?_ rfl)
 .rintro i x hi rfl;refine dz ?_;refine cI (aT (aS (DY a hl.symm (h i hi)) (fA rfl (aj ?_))));dsimp only;rw[gU (by omega)]
 .rintro x rfl;exact dt (aj rfl)
theorem O8 (p:PG) (hp:PJ p) (hr4:∃r,fx p=M r/\r.1=0):Ok (qm p) λy=>CB y.1:=by
 have hpt:=hp.t;obtain⟨r,hr,h0⟩:=hr4;obtain⟨r',hr',h60⟩:=DL p hp.x;rw[hr]at hr';cases hr';have h60:=h60 h0;unfold qm aX bm bw cC eB bN cW fw pZ bA jf bH bO kW aV cR aE cH;refine aS hr (b9 (λh=>(h h0).elim) λ_=>?_);refine aw (Vl p hp r hr h0 h60) λw U=>?_
 have hwT:w.2.2.2.2.1.length=p.2.length:=by rw[U.t,bJ];have q4:vL.length=4:=rfl;omega
 refine cf p.2.length (λi x=>x.1.1=((bsN p i:Nat):Int)/\x.1.2=(i:Int)/\x.2.1=p/\x.2.2.1=w/\x.2.2.2.length=i/\∀j:Nat,j<i->GC p.2.length w.2.2.2.2.2 (j:Int) (aI (T:=vK) x.2.2.2 (j:Int))) ?_ ?_ ⟨rfl,rfl,rfl,rfl,rfl,λj hj=>by omega⟩
 .rintro i ⟨⟨a,b⟩,p2,w2,cs⟩ hi ⟨e0,e1,e2,e3,e4,e5⟩;dsimp only at e0 e1 e2 e3 e4 e5;subst e0;subst e1;have e2:=e2.symm;subst e2;have e3:=e3.symm;subst e3;have hin:((i:Nat):Int)<(p.2.length:Int):=by omega
  refine dz ?_;have hm:=hp.m _ (bM (T:=yz) (xs:=p.2) (j:=(i:Int)) (by omega) hin);have hsr:=U.s i hi;have hbs:=agk hi;have hb1:=Vc (i+1) h60;have hbo:boN p i=nJ 3 (aI (T:=yz) p.2 (i:Int)).2.2.2:=ahy λs hs=>(hm.s s hs).t
  rw[hbo]at hsr hbs;dsimp only;refine aO (by omega) hin (aT (aO (by omega) hin (aT ?_)));revert hm hsr hbs;generalize (aI (T:=yz) p.2 (i:Int))=t;intro hm hsr hbs;have hk:ME 3=50+16*(50+16*50):=rfl;have hle:=cK (ME 3) hm.b;rw[hk]at hle;have hll:t.2.2.1.length=2:=by rw[hm.l];rfl
  refine aw (Of (nT:=p.2.length) (ss:=w.2.2.2.2.2) (t:=(i:Int)) 3 (by omega) _ _ [] (by have:=hm.b;omega) hm.s ⟨U.x.c,U.x.l,U.x.d,U.x.f,U.t,hm.l⟩ hsr (by rw[hk,gr];omega)) λy hy=>bd (by simp) ?_
  obtain⟨g2,o2⟩:=y;obtain⟨q1,q2,q3⟩:=hy;dsimp only at q1 q2 q3;have q4:=q2.u;rw[hk,gr]at q4;refine aw (H5 _ _ o2 (by omega)) λy hy=>bd (by simp) ?_
  obtain⟨g3,A⟩:=y;obtain⟨hg3,Z⟩:=hy;dsimp only at hg3 Z;have hL:aN (ai g3.2.2.2.2.2.2.1)=2:=by
   rw[hg3];show aN (ai g2.2.2.2.2.2.2.1)=2;rw[q1.h];show aN (ai t.2.2.1)=2;rw[hll];rfl
  have l3:A.length=o2.length+1:=by rw[Z,bk];rfl
  have L:A.length-1=o2.length:=by omega
  have iq:∀q:Nat,q<o2.length->iA A q=iA o2 q:=λq hq=>by rw[Z,IA hq]
  have iend:iA A o2.length=(28,0,0,0,0,-1):=by rw[Z,xf]
  have hreg:∀q:Nat,q<A.length->∀j:Int,j∈iR (iA A q)->0<=j/\j<32:=λq hq j hj=>by
   by_cases h:q<o2.length
   .rw[iq q h]at hj;exact (q2.i q (iD _) h).o.r j hj
   .rw[show q=o2.length by omega,iend]at hj;simp[iR]at hj
  dsimp only;rw[hL];refine cf A.length (λk x=>∃rg:Int,x=((k:Int),p,w,g3,rg,cs,A)/\2<=rg/\rg<=32/\∀q:Nat,q<k->∀j:Int,j∈iR (iA A q)->j<rg) ?_ ?_ ⟨2,rfl,by omega,by omega,λq hq=>by omega⟩
  .rintro k x hk2 ⟨rg,rfl,r0,r1,r2⟩;refine dz ?_;dsimp only;refine cI (cI (aT (aS (tH _) ?_)));have hrk:=hreg k hk2;have hrl:=Co (iA A k);revert hrk hrl;generalize hins:(aI (T:=Bm) A (k:Int))=ins;rw[show iA A k=ins from hins];intro hrk hrl;refine cf (iR ins).length (λj x=>∃rg':Int,x=((j:Int),p,w,g3,rg',cs,A)/\rg<=rg'/\rg'<=32/\∀q:Nat,q<j->rg'>aI (T:=.int .i64) (iR ins) (q:Int)) ?_ ?_ ⟨rg,rfl,dj _,r1,λq hq=>by omega⟩
   .rintro j x hj ⟨rg',rfl,s0,s1,s2⟩;refine dz ?_;refine cI (aT (aj ?_));have hz:=hrk _ (bM (T:=.int .i64) (xs:=iR ins) (j:=(j:Int)) (by omega) (by omega));dsimp only;obtain⟨z,hzj⟩:∃z:Int,aI (T:=.int .i64) (iR ins) (j:Int)=z:=⟨_,rfl⟩
    rw[hzj]at hz ⊢;have hz0:(0:Int)<=z:=hz.1;have hz1:(32:Int)>z:=hz.2;rw[gU (by omega),iK (n:=z+1) (by omega) (by omega)];have him:rg'<=gL rg' (z+1)/\z+1<=gL rg' (z+1)/\gL rg' (z+1)<=32:=by
     unfold gL;split
     .rename_i h;have h:=qw.1 h;omega
     .rename_i h;have h:=fY.1 (Ng.2 h);omega
    refine ⟨_,rfl,by omega,him.2.2,λq hq=>?_⟩;rcases b7 q j with h1|h1
    .have:=s2 q h1;omega
    .rw[show q=j by omega,hzj];exact Int.lt_of_lt_of_le (show z<z+1 by omega) him.2.1
   .rintro x ⟨rg',rfl,s0,s1,s2⟩;refine dt (aj ?_);refine ⟨rg',by dsimp only;rw[gU (by omega)],by omega,s1,λq hq j hj=>?_⟩;rcases b7 q k with h1|h1
    .have:=r2 q h1 j hj;omega
    .rw[show q=k by omega,show iA A k=ins from hins]at hj;exact iz (T:=.int .i64) (p:=λc=>rg'>c) s2 j hj
  .rintro x ⟨rg,rfl,r0,r1,r2⟩;refine dt (P1 (bc (by simp;omega) (by omega) (P0 (aj ?_))));dsimp only;have q3':(g2.2.2.2.2.2.2.2.2:Int)=(bsN p i:Nat)+(nJ 3 t.2.2.2:Nat):=q3;refine ⟨by rw[q3',hbs];omega,gU (by omega),rfl,rfl,by simp;omega,λj hj=>?_⟩;rcases b7 j i with h1|h1
   .rw[I3 (T:=vK) (by rw[e4];exact h1)];exact e5 j h1
   .rw[show j=i by omega,I2 (T:=vK) (by rw[e4];omega),e4,Nat.sub_self];refine ⟨show (1:Int)<=rg by omega,r1,show 1<=A.length by omega,show A.length<=1000000 by omega,?_,?_,?_,?_,?_⟩
    .show (iA A (A.length-1)).1=28/\(iA A (A.length-1)).2.2.2.2.2= -1;rw[L,iend];exact⟨rfl,rfl⟩
    .show qM A 0 (A.length-1);rw[L];exact q2.b.congr λq _ hq=>iq q hq
    .show ∀q:Nat,q<A.length-1->GI p.2.length w.2.2.2.2.2 (i:Int) (iA A q);rw[L];exact λq hq=>by rw[iq q hq];exact q2.i q (iD _) hq
    .show ∀q:Nat,q<A.length-1->(iA A q).1=10->0<=(iA A q).2.2.1/\(iA A q).2.2.1<(A.length:Int)
     rw[L];intro q hq h10;rw[iq q hq]at h10 ⊢;have:=q2.r q (iD _) hq h10;omega
    .exact λq hq j hj=>r2 q (show q<A.length by have hq:q<A.length-1:=hq;omega) j hj
 .rintro⟨⟨a,b⟩,p2,w2,cs⟩ ⟨e0,e1,e2,e3,e4,e5⟩;dsimp only at e0 e1 e2 e3 e4 e5;subst e1;subst e2;subst e3;refine dt (aj ?_);have hgc:∀t∈cs,∃k:Nat,GC p2.2.length w2.2.2.2.2.2 (k:Int) t:=iz (T:=vK) λk hk=>⟨k,e5 k (by omega)⟩
  refine ⟨by dsimp only;omega,λt ht=>?_,λt ht=>?_,U.x,Vn U.x ?_ ?_⟩
  .obtain⟨k,hk⟩:=hgc t ht;exact hk.u
  .obtain⟨k,hk⟩:=hgc t ht;exact hk.r0
  .dsimp only;rw[e4,hwT]
  .dsimp only;rw[e4];exact e5
theorem K4 (a b:η) (A:a.length<=9223372036854775807) (s:∀z∈a,0<=z/\z<=255) (hb:b.length<=1000000):Ok (sq (a,b)) TR:=by
 unfold sq;refine aw (P:=CB) ?_ λc hc=>aw (Vz b hb) λl hl=>?_
 .unfold xd;exact aw (Gz a A s) λp hp=>aw (O8 p hp.1 hp.2) λy q=>aj q
 .exact aw (ais c l hc (by omega)) λy q=>aj q
theorem O7 (a b c:η) (n:Int) (n0:0<=n) (n1:n<=1000000) (A:a.length<=9223372036854775807) (s:∀z∈a,0<=z/\z<=255) (hc:c.length<=9223372036854775807) (q:∀z∈c,0<=z/\z<=255):Ok (lh ((a,b,c),n)) TR:=by
 unfold lh bA bH aV;refine bK (λ_=>aw (H0 c n hc q) λy h=>aj h) λ_=>?_
 have h0:0<=GG (aN b.length) n/\GG (aN b.length) n<=(b.length:Int)/\GG (aN b.length) n<=n:=by
  unfold GG;split
  .rename_i h;rw[qw]at h;dsimp only[ak]at h;exact⟨n0,by omega,dj _⟩
  .rename_i h;have h:=fY.1 (Ng.2 h);dsimp only[ak]at h ⊢;exact⟨by omega,dj _,h⟩
 refine cV (dx h0.1 (dx h0.2.1 ?_));have h1:(dI (aP (GG (aN b.length) n)) b).length<=1000000:=by rw[bJ];have:=h0.1;have:=h0.2.2;omega
 exact aw (K4 a _ A s h1) λy h=>aj h
def HS.zero (w:wM):HS:=⟨aB w.2.2.2.2.1.length [],aB w.2.2.2.2.1.length [],aB w.2.1.length [],aB w.2.1.length [],aB w.1.length [],aB w.2.2.2.1.length [],[],aB w.2.2.2.2.1.length [],aB w.2.2.2.2.1.length (-1)⟩
theorem HS.zero_ok {w:wM} (h1:w.1.length<=1000) (h2:w.2.1.length<=1000) (c:w.2.2.2.1.length<=1000) (a:w.2.2.2.2.1.length<=1000):Tb 0 (HS.zero w):=by
 have z:(0:Int)<=0:=by omega
 exact⟨z,by omega,Bg.repl z _,Bg.repl z _,Bg.repl z _,Bg.repl z _,Bg.repl z _,Bg.repl z _,En.nil z,Bg.repl z _,by simpa[HS.zero] using a,by simp[HS.zero],by simp[HS.zero],by simp[HS.zero],by simpa[HS.zero] using h2,by simp[HS.zero],by simpa[HS.zero] using h1,by simpa[HS.zero] using c⟩
structure Fit (w:wM) (h:HS):Prop where
 T:h.T.length=w.2.2.2.2.1.length
 L:h.L.length=w.2.1.length
 C:h.C.length=w.1.length
 F:h.F.length=w.2.2.2.1.length
theorem Fit.zero (w:wM):Fit w (HS.zero w):=⟨by simp[HS.zero],by simp[HS.zero],by simp[HS.zero],by simp[HS.zero]⟩
theorem Fit.ent {w:wM} {h:HS} (f:Fit w h) (e:EV) (x:η):Fit w (jT w h e x):=by
 obtain⟨a,b,c,d,g,i,j,k⟩:=FG w h e x;exact⟨a.trans f.T,c.trans f.L,g.trans f.C,i.trans f.F⟩
theorem Fit.step {w:wM} {h:HS} (f:Fit w h) (e:EV):Fit w (Pu w h e).1:=f.ent e _
def evP (e:ET):EV:=⟨e.1.toNat,e.2.1.toNat,e.2.2.1.toNat,e.2.2.2.1⟩
theorem alb {w:WT} {e:ET} (f:EvF w e):EvT (evP e) e:=by
 obtain⟨⟨k1,k2,ce,lk,cd,th,fu⟩,t0,_,_⟩:=f;refine ⟨(fE t0).symm,(fE (by omega)).symm,λh=>(fE ?_).symm,rfl⟩;unfold evP at h;simp only[bh,cu,gj]at h;by_cases h1:e.2.1=3\/e.2.1=4
 .exact (ce h1).1
 by_cases h2:6<=e.2.1/\e.2.1<=11
 .exact (lk h2).1
 by_cases q:16<=e.2.1/\e.2.1<=19
 .exact (cd q).1
 by_cases c:e.2.1=20\/e.2.1=21
 .exact (th c).1
 by_cases a:e.2.1=22\/e.2.1=23
 .exact (fu a).1
 omega
theorem aaa {w:WT} {e:ET} (f:EvF w e) (wb:WB w) {h:HS} (a:Fit w h):EOK w h (evP e):=by
 obtain⟨⟨k1,k2,ce,lk,cd,th,fu⟩,t0,t1,c⟩:=f;have Z:=wb.t;have U:=a.T;have A:=a.L;have z:=a.C;have s:=a.F;unfold evP;refine ⟨by dsimp only;omega,by dsimp only;omega,by dsimp only;omega,by dsimp only;omega,λq=>?_,λq=>?_,λq=>?_,λq=>?_,λq=>?_⟩<;>dsimp only at q ⊢
 .have:=th (by omega);omega
 .have:=lk (by omega);omega
 .have g:=cd (by omega);have hl:e.2.2.1.toNat<w.2.2.1.length:=by omega
  have hm:=c (w.2.2.1.getD e.2.2.1.toNat ([],0)) (by rw[au,ax hl];exact uM hl);refine ⟨hl,hm.1,?_⟩;unfold Wa;have:=hm.2;have:=hm.1;omega
 .have:=ce (by omega);omega
 .have:=fu (by omega);omega
theorem jr {σ R:Type} {f:σ->I (σ⊕R)} {Q:R->Prop} (n:Nat) (hn:n<=1000000) (z:Nat->σ->Prop) (h0:∀i x,i<n->z i x->Ok (f x) λr=>match r with|.inl y=>z (i+1) y|.inr r=>Q r) (h1:∀x,z n x->Ok (f x) λr=>match r with|.inl _=>False|.inr r=>Q r) {x:σ} (q:z 0 x):Ok (gH f x) Q:=by
 have key:∀m i x,i+m=n->z i x->∃r,iterN f (m+1) x=M r/\Q r:=by
  intro m;induction m with
  |zero=>
   intro i x hi q;have:i=n:=by omega
   subst this;obtain⟨r,c,a⟩:=h1 x q;cases r with
   |inl y=>exact a.elim
   |inr r=>exact⟨r,by rw[iterN,c],a⟩
  |succ m s=>
   intro i x hi q;obtain⟨r,c,a⟩:=h0 i x (by omega) q;cases r with
   |inl y=>
    obtain⟨r,L,A⟩:=s (i+1) y (by omega) a;exact⟨r,by rw[iterN,c];exact L,A⟩
   |inr r=>exact⟨r,yS (n:=1) (by rw[iterN,c]) (by omega),a⟩
 obtain⟨r,c,a⟩:=key n 0 x (by omega) q;exact⟨r,yS c (by omega),a⟩
theorem Nj (a b:Int):e_ (a,b)=M (decide (0<=a/\a<b)):=by
 refine cG ?_;unfold e_ jG aE;with_reducible repeat' first|(refine OS.ok ?_;constructor)|refine IM.mk λ_=>?_
 .by_cases h:a<b<;>simp[*,fK]
 .simp;omega
theorem S5 (l:η) (t:Int) (hl:l.length<=1000):kG (l,t)=M (l.contains t):=by
 refine cG ?_;unfold kG rA xq bf bA bO aV cR aE cH;refine aw (P:=λy:Int=>0<=y↔t∈l) ?_ λy a=>aj ?_
 .refine jr l.length (by omega) (λi x=>x=(i:Int)/\∀j,j<i->¬l.getD j 0=t) ?_ ?_ ⟨rfl,λj hj=>by omega⟩
  .rintro i x hi ⟨rfl,hn⟩;refine dz ?_;refine cI (aT (aK (λh=>aj ?_) λh=>aj ?_))
   .refine ⟨λ_=>?_,λ_=>by omega⟩;have h:t=aI (T:=.int .i64) l (i:Int):=h;rw[h];exact bM (T:=.int .i64) (xs:=l) (by omega) (by omega)
   .refine ⟨gU (by omega),λj hj=>?_⟩;have h:¬t=l.getD i 0:=h;by_cases e:j=i
    .subst e;exact λg=>h g.symm
    .exact hn j (by omega)
  .rintro x ⟨rfl,hn⟩;refine dt (aj ?_);refine ⟨λg=>(by omega),λg=>?_⟩;obtain⟨j,hj,e⟩:=List.getElem_of_mem g;exact (hn j hj (by rw[au,ax hj];exact e)).elim
 .by_cases h:t∈l
  .have:=a.2 h;simp[cX,h,this]
  .have:¬0<=y:=λg=>h (a.1 g)
   simp[cX,h,this]
theorem ah6 (w:WT) (s:SY) (a:w.2.2.1.length<=1000) (cd:∀c∈w.2.2.1,0<=c.2/\c.2<w.2.1.length) (e1:s.1.length=w.2.1.length) (e2:s.2.2.1.length=w.2.2.2.1.length) (e3:s.2.2.2.length=w.2.2.2.2.1.length):kq (w,s)=M J:=by
 refine cG ?_;unfold kq tC aX bm bw du bA jf bO aV cR aE cH;refine aU (λx=>x=(af,w)) ?_ ?_
 .refine b9 (λh=>(h (by dsimp only[ak];omega)).elim) λ_=>b9 (λh=>(h (by dsimp only[ak];omega)).elim) λ_=>aj ?_
  dsimp only[ak];rw[e3];simp
 rintro x rfl;refine c7 (jr w.2.2.1.length (by omega) (λi x=>x=((i:Int),w)) ?_ ?_ rfl)
 .rintro i x hi rfl;refine dz ?_;refine cI (aT (aS (Nj _ _) (b9 (λh=>(h ?_).elim) λ_=>aj ?_)))
  .exact cd _ (bM (T:=S9) (xs:=w.2.2.1) (j:=(i:Int)) (by omega) (by omega))
  .dsimp only;rw[gU (by omega)]
 .rintro x rfl;exact dt (aj rfl)
theorem ab2 (w:WT) (k o:Int) (h:NM w k o):me (w,k,o)=M J:=by
 refine cG ?_;obtain⟨k1,k2,ce,lk,cn,th,fu,no,mu,rw_⟩:=h;unfold me aX bm bw cC bf bO aV aE;rcases @Iw k with rfl|rfl|rfl|rfl|rfl|rfl|rfl|rfl|rfl|rfl|rfl|rfl|rfl|rfl|rfl|rfl|rfl|rfl|rfl|rfl|rfl|rfl|rfl|⟨hk,a⟩
 case inr.inr.inr.inr.inr.inr.inr.inr.inr.inr.inr.inr.inr.inr.inr.inr.inr.inr.inr.inr.inr.inr.inr=>omega
 all_goals simp only[aY,bn,sX,Nj]
 all_goals with_reducible repeat' first|(refine OS.ok ?_;constructor)|refine IM.mk λ_=>?_
 all_goals try simp only[ak,qR] at*
 all_goals first|omega|exact rw_ ⟨by decide,by decide⟩|(simp only[*,Bool.not_false,dU];done)
theorem ahf {n:Nat} (w:WT) (s:SY) (hs:SB n s) (hn:n<=1000) (t k o:Int) (he:EN w s t k o) (hr:Vt w s t k o):oJ (w,s,t,k,o)=M J:=by
 refine cG ?_;obtain⟨nm,t0,t1,cd,e1,e2,e3⟩:=id he;obtain⟨_,_,ce,lk,cn,th,fu,no,mu,rw_⟩:=nm;obtain⟨_,_,_,aq,wr,ra,rl,rr,xb,xe,ab,ae,nt,sp,jo,se,ge⟩:=hr;have hm:16<=k/\k<=19->0<=(aI (T:=S9) w.2.2.1 o).2/\(aI (T:=S9) w.2.2.1 o).2<w.2.1.length:=λh=>cd _ (bM (cn h).1 (cn h).2)
 have z:6<=k/\k<=11->kG ((aI (T:=Ag) s.1 o).2,t)=M ((aI (T:=Ag) s.1 o).2.contains t):=λh=>S5 _ _ (by
  have:=hs.rd _ (bM (T:=Ag) (lk h).1 (by have:=(lk h).2;omega));omega)
 have lk1:6<=k/\k<=11->0<=o/\o<(s.1.length:Int):=λh=>by have:=lk h;omega
 have q:t<(s.2.2.2.length:Int):=by omega
 have fu1:k=22\/k=23->0<=o/\o<(s.2.2.1.length:Int):=λh=>by have:=fu h;omega
 have th1:k=20\/k=21->0<=o/\o<(s.2.2.2.length:Int):=λh=>by have:=th h;omega
 have a:∀{p:Prop} [Decidable p],p->decide p=J:=λh=>aR h
 unfold oJ aX bm bw du cW bf jf bO aV aE;refine aK (λh=>?_) λZ=>?_
 .have h:k=6:=h;exact aO (lk1 (by omega)).1 (lk1 (by omega)).2 (aT (aj (a (aq (.inl h)))))
 refine aK (λh=>?_) λA=>?_
 .have h:k=10:=h;refine gO (aO (lk1 (by omega)).1 (lk1 (by omega)).2 (aT (aK (λ_=>?_) λg=>(g (aq (.inr (.inr h)))).elim)));refine aO (lk1 (by omega)).1 (lk1 (by omega)).2 (aT (aj (aj (a ?_))));have:=wr h;dsimp only[ak]at this ⊢;omega
 refine aK (λh=>?_) λU=>?_
 .have h:k=8:=h;refine gO (aO (lk1 (by omega)).1 (lk1 (by omega)).2 (aT (aK (λ_=>?_) λg=>(g (aq (.inr (.inl h)))).elim)));refine aO (lk1 (by omega)).1 (lk1 (by omega)).2 (aT (aS (z (by omega)) (aj (aj ?_))));rw[ra h];rfl
 refine aU (λx=>x.2=(w,s)/\(x.1=J↔k=7\/k=11)) (aK (λh=>aj ⟨rfl,λ_=>.inl h,λ_=>a h⟩) λh=>aj ⟨rfl,λh2=>.inr (be h2),λh2=>a (h2.resolve_left h)⟩) ?_;rintro⟨b,x⟩ ⟨e,hb⟩;dsimp only at e hb;subst e;refine aQ (λh=>?_) λ_=>?_
 .have h:=hb.1 h;exact aO (lk1 (by omega)).1 (lk1 (by omega)).2 (aT (aj (a (rl h))))
 refine aK (λh=>?_) λL=>?_
 .have h:k=9:=h;refine aO (lk1 (by omega)).1 (lk1 (by omega)).2 (aT (aS (z (by omega)) (aj (rr h))))
 refine aK (λh=>aj (a (xb h))) λ_=>aK (λh=>aj (a (xe h))) λ_=>?_
 refine aK (λh=>aO t0 q (aT (aj (by have:=ab h;dsimp only at this ⊢;rw[this];rfl)))) λ_=>aK (λh=>aO t0 q (aT (aj (ae h)))) λ_=>?_
 refine aU (λx=>x.2=(w,s)/\(x.1=J->k=16\/k=18\/k=19)) (aK (λh=>aj ⟨rfl,λ_=>.inl h⟩) λ_=>aK (λh=>aj ⟨rfl,λ_=>.inr (.inl h)⟩) λ_=>aj ⟨rfl,λh=>.inr (.inr (be h))⟩) ?_;rintro⟨c,x⟩ ⟨e,hc⟩;dsimp only at e hc;subst e;refine aQ (λh=>?_) λ_=>?_
 .have h:=hc h;have hq:=hm (by omega);exact aO (cn (by omega)).1 (cn (by omega)).2 (aT (aO hq.1 (by rw[e1];exact hq.2) (aT (aj (a (nt h))))))
 refine aK (λh=>?_) λ_=>?_
 .have h:k=20:=h;exact gO (b9 (λ_=>aO (th1 (.inl h)).1 (th1 (.inl h)).2 (aT (aj (aj (a (sp h).2))))) λg=>((sp h).1 g).elim)
 refine aK (λh=>?_) λ_=>?_
 .have h:k=21:=h;exact gO (b9 (λ_=>aO (th1 (.inr h)).1 (th1 (.inr h)).2 (aT (aj (aj (a (jo h).2))))) λg=>((jo h).1 g).elim)
 refine aK (λh=>aO (fu1 (.inl h)).1 (fu1 (.inl h)).2 (aT (aj (by have:=se h;dsimp only at this ⊢;rw[this];rfl)))) λ_=>aK (λh=>aO (fu1 (.inr h)).1 (fu1 (.inr h)).2 (aT (aj (ge h)))) λ_=>aj rfl
theorem DO {n:Nat} (w:WT) (s:SY) (hs:SB n s) (hn:n<=1000) (z:w.2.2.1.length<=1000) (t k o:Int) (he:EN w s t k o) (hr:Vt w s t k o):jh (w,s,t,k,o)=M J:=by
 refine cG ?_;obtain⟨nm,t0,t1,cd,e1,e2,e3⟩:=id he;have hrd:=ahf w s hs hn t k o he hr;have q:t<(s.2.2.2.length:Int):=by omega
 unfold jh aX bm bw bN du cW bf bO aV aE;refine aU (λx=>x=(af,w,s)) ?_ ?_
 .refine aS (ah6 w s z cd e1 e2 e3) (fA rfl (aS (Nj _ _) ?_));refine b9 (λh=>(h ⟨t0,t1⟩).elim) λ_=>aS (ab2 w k o nm) (aj rfl)
 rintro x rfl;refine c7 (aO t0 q (aT ?_));refine aK (λh=>aj (aR (hr.b h))) λn1=>?_
 refine aK (λh=>?_) λn17=>?_
 .have h:k=17:=h;obtain⟨a1,a2,a3⟩:=hr.wk h;obtain⟨c,a⟩:=nm.cd (by omega);have hq:=cd _ (bM (T:=S9) (xs:=w.2.2.1) (j:=o) c a);refine gO (aK (λ_=>aK (λ_=>?_) λg=>(g a2).elim) λg=>(g a1).elim);exact aO c a (aT (aO hq.1 (by rw[e1];exact hq.2) (aT (aj (aj (aR a3))))))
 refine gO (aK (λ_=>aS hrd (aj (aj rfl))) λg=>(g (hr.r n1 n17)).elim)
theorem ad4 (w:WT) (e:ET) (h1:e.2.1=1\/e.2.1=2->e.2.2.2.2.1= -1) (h2:¬(e.2.1=1\/e.2.1=2)->0<=e.2.2.2.2.1/\e.2.2.2.2.1<w.2.2.2.2.2.length/\(aI (T:=xJ) w.2.2.2.2.2 e.2.2.2.2.1).1=e.1):jH (w,e)=M J:=by
 refine cG ?_;unfold jH aX eB cW bf bA jG bO aV aE;refine aU (λx=>x.2=(w,e)/\(x.1=J↔e.2.1=1\/e.2.1=2)) (aK (λh=>aj ⟨rfl,λ_=>.inl h,λ_=>rfl⟩) λh=>aj ⟨rfl,λh2=>.inr (be h2),λh2=>aR (h2.resolve_left h)⟩) ?_;rintro⟨b,x⟩ ⟨e1,hb⟩;dsimp only at e1 hb;subst e1;refine aQ (λh=>aj (aR (h1 (hb.1 h)))) λh=>?_
 obtain⟨a1,a2,a3⟩:=h2 λg=>by rw[hb.2 g]at h;cases h
 exact gO (fH (λ_=>dz (aO a1 a2 (aT (aj (aj (aR a3)))))) λg=>(by dsimp only at g;omega))
theorem ab0 {l:η} (h:He l) (i:Nat) (hi:i<l.length):∀z∈l.drop (i+1),l.getD i 0<z:=by
 induction l generalizing i with
 |nil=>cases hi
 |cons a l c=>
  cases i with
  |zero=>exact λz q=>h.1 z (by simpa using q)
  |succ i=>exact c h.2 i (by simpa using hi)
theorem Rh (w:WT) (s:SN) (e:ET) (ce:e.2.1=3\/e.2.1=4->0<=e.2.2.1/\e.2.2.1<w.1.length) (de:0<e.2.2.2.2.2.1.length->e.2.1=5\/(e.2.1=3\/e.2.1=4)/\¬(aI (T:=L6) w.1 e.2.2.1).2.2.1=0) (fr:0<e.2.2.2.2.2.2.length->e.2.1=4\/e.2.1=22) (t0:0<=e.1) (t1:e.1<s.2.2.2.length) (nd:AN (aI (T:=.int .i64) s.2.2.2 e.1) e.2.2.2.2.2.1) (nf:AN (aI (T:=.int .i64) s.2.2.2 e.1) e.2.2.2.2.2.2) (ld:e.2.2.2.2.2.1.length<=1000000) (lf:e.2.2.2.2.2.2.length<=1000000):eY (w,s,e)=M J:=by
 refine cG ?_;unfold eY jv aX bm bw cC bN du fw bf bA jG bH bO aV cR aE cH;refine aU (λx=>x.2=(s,e)/\((e.2.1=3\/e.2.1=4)/\¬(aI (T:=L6) w.1 e.2.2.1).2.2.1=0->x.1=J)) ?_ ?_
 .refine aK (λh=>?_) λn3=>aK (λh=>?_) λn4=>?_
  .exact aO (ce (.inl h)).1 (ce (.inl h)).2 (aT (aj ⟨rfl,λg=>by simpa using g.2⟩))
  .exact aO (ce (.inr h)).1 (ce (.inr h)).2 (aT (aj ⟨rfl,λg=>by simpa using g.2⟩))
  .exact aj ⟨rfl,λg=>(g.1.elim n3 n4).elim⟩
 rintro⟨b,x⟩ ⟨e1,hb⟩;dsimp only at e1 hb;subst e1;refine aU (λx=>x.1=s/\x.2.1=e/\(0<e.2.2.2.2.2.1.length->x.2.2.1=J)/\(0<e.2.2.2.2.2.2.length->x.2.2.2=J)) ?_ ?_
 .refine aK (λh5=>aK (λc=>aj ⟨rfl,rfl,λ_=>rfl,λ_=>rfl⟩) λc=>aj ⟨rfl,rfl,λ_=>rfl,λg=>?_⟩) λh5=>aK (λc=>aj ⟨rfl,rfl,λg=>?_,λ_=>rfl⟩) λc=>aj ⟨rfl,rfl,λg=>?_,λg=>?_⟩
  .exact aR ((fr g).resolve_left c)
  .exact hb ((de g).resolve_left h5)
  .exact hb ((de g).resolve_left h5)
  .exact aR ((fr g).resolve_left c)
 rintro⟨s',e',a,b'⟩ ⟨e1,e2,h1,h2⟩;dsimp only at e1 e2 h1 h2;subst e1;subst e2;have key:∀(r:η),r.length<=1000000->AN (aI (T:=.int .i64) s'.2.2.2 e'.1) r->∀j:Nat,j<r.length->∀z∈r.drop (j+1),aI (T:=.int .i64) r (j:Int)<z:=λr _ h j hj z U=>ab0 h.a j hj z U
 refine jr 2 (by omega) (λi x=>x=((i:Int),s',e',a,b')) ?_ ?_ rfl
 .rintro i x hi rfl;refine dz ?_;refine cV (dx (by dsimp only;omega) (zS (by dsimp only;omega) (aT ?_)));have hr:∃r:η,aI (T:=.sl (.int .i64)) [e'.2.2.2.2.2.1,e'.2.2.2.2.2.2] (i:Int)=r/\AN (aI (T:=.int .i64) s'.2.2.2 e'.1) r/\r.length<=1000000/\(0<r.length->aI (T:=.bool) [a,b'] (i:Int)=J):=by
   match i,hi with
   |0,_=>exact⟨_,rfl,nd,ld,h1⟩
   |1,_=>exact⟨_,rfl,nf,lf,h2⟩
  obtain⟨r,er,hA,hl,Z⟩:=hr;have er':aI (T:=.sl aL) [e'.2.2.2.2.2.1,e'.2.2.2.2.2.2] (i:Int)=r:=er;dsimp only at er' ⊢;rw[er'];refine aU (λx=>x=(af,s',e',a,b')) ?_ ?_
  .refine bK (λg=>?_) λ_=>aj rfl
   have g':0<r.length:=by dsimp only[ak]at g;omega
   refine cV (dx (by omega) (zS (by omega) (cI (aT (aj ?_)))));rw[Z g'];rfl
  rintro x rfl;refine c7 ?_;refine jr r.length (by omega) (λj x=>x.1.2=(j:Int)/\x.2=(s',e',a,b')/\∀z∈r.drop j,x.1.1<z) ?_ ?_ ⟨rfl,rfl,λz U=>?_⟩
  .rintro j ⟨⟨la,ix⟩,x⟩ hj ⟨L,A,g3⟩;dsimp only at L A g3;subst L;subst A;have m:aI (T:=.int .i64) r (j:Int)∈r:=bM (T:=.int .i64) (xs:=r) (by omega) (by omega);have m2:aI (T:=.int .i64) r (j:Int)∈r.drop j:=by
    have:aI (T:=.int .i64) r (j:Int)=r[j]:=by
     show r.getD j 0=_;rw[au,ax hj];rfl
    rw[this,List.drop_eq_getElem_cons hj];exact c4
   refine dz ?_;refine cI (aT (aU (λx=>x=(af,s',e',a,b')) ?_ ?_))
   .refine fH (λg=>?_) λ_=>aO t0 t1 (aT (aj ?_))
    .have q1:=g3 _ m2;exact ct q1 (by dsimp only at g;exact λq=>ct (Int.lt_of_lt_of_le q g) (Int.lt_irrefl _))
    .have:=(hA.m _ m).2;rw[mg.2 (show aI (T:=.int .i64) r (j:Int)<aI (T:=.int .i64) s'.2.2.2 e'.1 from this)]
   rintro x rfl;exact c7 (aj ⟨gU (by omega),rfl,key r hl hA j hj⟩)
  .rintro⟨⟨la,ix⟩,x⟩ ⟨L,A,_⟩;dsimp only at L A;subst L;subst A;exact dt (aj (gR (·,s',e',a,b') (gU (by omega))))
  .have:=(hA.m z (by simpa using U)).1;dsimp only;omega
 .rintro x rfl;exact dt (aj rfl)
theorem al9 (w:WT) (s:SN) (a:w.2.2.1.length<=1000) (t k o:Int) (he:EN w s.1 t k o) (hf:F16 w s):kZ (w,s)=M J:=by
 obtain⟨_,_,_,cd,e1,e2,e3⟩:=he;obtain⟨z,q,c⟩:=hf;refine cG ?_;unfold kZ aX bm bw du bf aV aE;refine gO (aS (ah6 w s.1 a cd e1 e2 e3) (qT (aK (λ_=>aK (λ_=>aj (aj (aR ?_))) λg=>(g ?_).elim) λg=>(g ?_).elim)));all_goals dsimp only[ak];omega
theorem Hl (th:Y (Int×Int×Bool)) (c:Int) (i:Nat):wl th c (i+1)=if HO c (aI (T:=jF) th (i:Int)) then wl th c i++[(i:Int)] else wl th c i:=rfl
theorem acn {n:Nat} (w:WT) (s:SN) (hs:SB n s.1) (e:ET) (hf:F16 w s) (he:EN w s.1 e.1 e.2.1 e.2.2.1) (va:VA w s.1 s.2.1 s.2.2.1 e.1 e.2.1 e.2.2.1 e.2.2.2.1):gA (s,e)=M J:=by
 refine cG ?_;obtain⟨t,k,o,v,si,de,fr⟩:=e;obtain⟨s1,s2,s3,s4⟩:=s;obtain⟨nm,t0,t1,cd,e1,e2,e3⟩:=he;obtain⟨_,_,ce,lk,cn,th,fu,_,_,_⟩:=nm;obtain⟨f1,f2,f3⟩:=hf;have hth:=hs.th;obtain⟨v3,L,v5,vel⟩:=va;dsimp only at*
 unfold gA l7 aX bm bw cC bN bf bA bO aV cR aE cH;refine aK (λh=>?_) λn3=>?_
 .have h:k=3:=h;obtain⟨c0,c1⟩:=ce (.inl h);exact aO c0 (by rw[f1];exact c1) (aT (aj (aR (v3 h))))
 refine aK (λh=>?_) λU=>?_
 .have h:k=23:=h;obtain⟨c0,c1⟩:=fu (.inr h);exact aO c0 (by rw[f2];exact c1) (aT (aj (aR (L h))))
 refine aK (λh=>?_) λn5=>?_
 .have h:k=5:=h;exact gO (aK (λ_=>aj (aj rfl)) λg=>aj (aj (aR ((v5 h).resolve_left g))))
 refine aU (λx=>x.2=((s1,s2,s3,s4),t,k,o,v,si,de,fr)/\(x.1=af->¬k=4/\¬k=22)) (aK (λh=>aj ⟨rfl,λh2=>(by rw[aR h]at h2;cases h2)⟩) λh=>aj ⟨rfl,λh2=>⟨h,Bk h2⟩⟩) ?_;rintro⟨b,x⟩ ⟨e,hb⟩;dsimp only at e hb;subst e;refine aQ (λh=>aj rfl) λh=>?_
 obtain⟨n4,Z⟩:=hb h;have vel:=vel n3 U n5 n4 Z;have hWl:=vn s1.2.2.2 o s1.2.2.2.length;refine aK (λh=>?_) λn18=>?_
 .have h:k=18:=h;subst h;rw[E9]at vel;refine jr s1.2.2.2.length (by omega) (λi x=>x.1.2.2=(i:Int)/\x.2=(t,18,o,v,si,de,fr)/\x.1.1=((wl s1.2.2.2 o i).length:Int)/\(x.1.2.1=J↔v∈wl s1.2.2.2 o i)) ?_ ?_ ⟨rfl,rfl,rfl,by simp[wl]⟩
  .rintro i ⟨⟨c,hit,ix⟩,x⟩ hi ⟨q,a,z,A⟩;dsimp only at q a z A;subst q;subst a;subst z;have hl:=vn s1.2.2.2 o i;refine dz ?_;refine aU (λx=>x.2=(t,18,o,v,si,de,fr)/\x.1.1=((wl s1.2.2.2 o (i+1)).length:Int)/\(x.1.2=J↔v∈wl s1.2.2.2 o (i+1))) ?_ ?_
   .refine cI (aT (aU (λx=>x=(HO o (aI (T:=jF) s1.2.2.2 (i:Int)),t,18,o,v,si,de,fr)) ?_ ?_))
    .unfold HO;refine aK (λh=>aj ?_) λh=>aj ?_
     .dsimp only at h ⊢;rw[h];rfl
     .dsimp only at h ⊢;rw[bz h];rfl
    rintro x rfl;rw[Hl];dsimp only;cases hw:HO o (aI (T:=jF) s1.2.2.2 (i:Int)) with
    |true=>
     refine qT (aQ (λh=>aj ⟨rfl,?_,?_⟩) λh=>aj ⟨rfl,?_,?_⟩)
     .dsimp only;rw[gU (by omega)];simp
     .simp[A.1 h]
     .dsimp only;rw[gU (by omega)];simp
     .have:¬v∈wl s1.2.2.2 o i:=λg=>by rw[A.2 g]at h;cases h
      simp[this]
    |false=>exact c7 (aj ⟨rfl,rfl,A⟩)
   rintro⟨⟨c,hit'⟩,x⟩ ⟨q,a,z⟩;dsimp only at q a z;subst q;subst a;exact aj ⟨gU (by omega),rfl,rfl,z⟩
  .rintro⟨⟨c,hit,ix⟩,x⟩ ⟨q,a,z,A⟩;dsimp only at q a z A;subst q;subst a;subst z;refine dt (aw (P:=λy=>y=J) (gO (aQ (λ_=>aj (aj rfl)) λh=>?_)) λy hy=>aj hy);have hn:¬v∈wl s1.2.2.2 o s1.2.2.2.length:=λg=>by rw[A.2 g]at h;cases h
   by_cases h0:(wl s1.2.2.2 o s1.2.2.2.length).length=0
   .rw[aC h0]at vel;refine aK (λ_=>aj (aj (aR vel))) λg=>(g (by dsimp only;omega)).elim
   .rw[ay h0]at vel;have vel:v=Bc (wl s1.2.2.2 o s1.2.2.2.length) v:=vel;exact (hn (vel▸HG v h0)).elim
 refine aK (λh=>?_) λn19=>?_
 .have h:k=19:=h;subst h;rw[ai7]at vel;refine jr s1.2.2.2.length (by omega) (λi x=>x.1.2=(i:Int)/\x.2=(t,19,o,v,si,de,fr)/\x.1.1=((wl s1.2.2.2 o i).length:Int)) ?_ ?_ ⟨rfl,rfl,rfl⟩
  .rintro i ⟨⟨c,ix⟩,x⟩ hi ⟨q,a,z⟩;dsimp only at q a z;subst q;subst a;subst z;have hl:=vn s1.2.2.2 o i;refine dz ?_;refine aU (λx=>x.2=(t,19,o,v,si,de,fr)/\x.1=((wl s1.2.2.2 o (i+1)).length:Int)) ?_ ?_
   .refine cI (aT (aU (λx=>x=(HO o (aI (T:=jF) s1.2.2.2 (i:Int)),t,19,o,v,si,de,fr)) ?_ ?_))
    .unfold HO;refine aK (λh=>aj ?_) λh=>aj ?_
     .dsimp only at h ⊢;rw[h];rfl
     .dsimp only at h ⊢;rw[bz h];rfl
    rintro x rfl;rw[Hl];dsimp only;cases hw:HO o (aI (T:=jF) s1.2.2.2 (i:Int)) with
    |true=>
     refine qT (aj ⟨rfl,?_⟩);dsimp only;rw[gU (by omega)];simp
    |false=>exact c7 (aj ⟨rfl,rfl⟩)
   rintro⟨c,x⟩ ⟨q,a⟩;dsimp only at q a;subst q;subst a;exact aj ⟨gU (by omega),rfl,rfl⟩
  .rintro⟨⟨c,ix⟩,x⟩ ⟨q,a,z⟩;dsimp only at q a z;subst q;subst a;subst z;exact dt (aj (aR vel))
 exact aj (aR (by rw[ago _ _ _ _ _ _ n18 n19]at vel;exact vel))
theorem Y6 (x:Int×Int×Bool) (c:Int):my (x,c)=M (HO c x):=by
 refine cG ?_;unfold my HO bf aE;refine gO (aK (λh=>aj (aj ?_)) λh=>aj (aj ?_))
 .have h:x.1=3:=h;rw[h];rfl
 .have h:¬x.1=3:=h;rw[bz h];rfl
theorem aal {n:Nat} (s:SY) (hs:SB n s):kF s=M (s.2.1,s.1,s.2.2.1,s.2.2.2):=by
 refine cG ?_;obtain⟨s1,s2,q,a⟩:=s;have hn:=hs.n1;have hlk:=hs.lk;have hdn:=hs.dn;have hth:=hs.th;have hrd:=hs.rd;dsimp only at hlk hdn hth hrd;unfold kF rX aX bN ck bA bH bO aV cR cH;dsimp only[ak];refine cV (cV (dx (by omega) (dx (by omega) (bc (by simp;omega) (by omega) ?_))));refine jr s1.length (by omega) (λi x=>∃c d,x=((i:Int),(s1,s2,q,a),c,d)/\d.length=s1.length/\∀j,j<i->d.getD j (0,[])=s1.getD j (0,[])) ?_ ?_ ⟨_,_,rfl,by simp,λj hj=>by omega⟩
 .rintro i x hi ⟨c,d,rfl,hd,he⟩;have hr:=hrd _ (bM (T:=Ag) (xs:=s1) (j:=(i:Int)) (by omega) (by omega));refine dz ?_;refine cI (aT (aS (x:=(aI (T:=Ag) s1 (i:Int)).2) (cG ?_) ?_))
  .exact bc (by dsimp only;omega) (by omega) (aj rfl)
  refine cI (cI (aj ⟨c,d.set i (aI (T:=Ag) s1 (i:Int)),?_,by simp[hd],λj hj=>?_⟩))
  .dsimp only;rw[gU (by omega)];rfl
  .by_cases e:i=j
   .subst e;rw[au,List.getElem?_set_self (by omega)];rfl
   .rw[au,List.getElem?_set_ne e,<-au];exact he j (by omega)
 .rintro x ⟨c,d,rfl,hd,he⟩;have:d=s1:=by
   refine dg hd λj L z=>?_
   have:=he j z;rw[au,au,ax L,ax z]at this;exact this
  subst this;refine dt (aw (P:=λy=>y=(s2,d,q,a)) ?_ λy A=>aj A);refine aS (x:=q) (cG (bc (by dsimp only;omega) (by omega) (aj rfl))) (aS (x:=a) (cG (bc (by dsimp only;omega) (by omega) (aj rfl))) (aj rfl))
theorem WE (l:η) (i u:Int):Bc (l++[i]) u=if l.length=0 then i else if i=u then i else Bc l u:=by
 unfold Bc;cases l with
 |nil=>
  by_cases h:u=i
  .subst h;simp
  .simp[h];rfl
 |cons a r=>
  have e1:¬(a::r++[i]).length=0:=by simp
  have e2:¬(a::r).length=0:=by simp
  simp only[ay e1,ay e2];by_cases h:i=u
  .subst h;simp
  .have h':¬u=i:=λg=>h g.symm
   rw[ay h];have:(a::r++[i]).contains u=(a::r).contains u:=by simp[h']
   rw[this];rfl
theorem OT {th:Y (Int×Int×Bool)} {c u:Int} {i:Nat} (h:¬(wl th c i).length=0):0<=Bc (wl th c i) u/\Bc (wl th c i) u<i:=by
 have:=rc.1 (HG u h);exact⟨this.1,this.2.1⟩
theorem Kc {l:η} {u:Int} (h:l.length=0):Bc l u= -1:=by unfold Bc;rw[aC h]
theorem ad9 (s:SY) (o u:Int) (hs:s.2.2.2.length<=1000):jM ((s.2.1,o,u),s.1,s.2.2.1,s.2.2.2)=M (Bc (wl s.2.2.2 o s.2.2.2.length) u,s.1,s.2.2.1,if (wl s.2.2.2 o s.2.2.2.length).length=0 then s.2.2.2 else xK s.2.2.2 (Bc (wl s.2.2.2 o s.2.2.2.length) u) 4):=by
 refine cG ?_;obtain⟨s1,s2,c,a⟩:=s;dsimp only at hs ⊢;unfold jM qB aX bm bN ck bA jG kW aV cR aE cH;dsimp only[ak];refine jr a.length (by omega) (λi x=>x=((Bc (wl a o i) u,(i:Int)),s1,c,a,s2)) ?_ ?_ rfl
 .rintro i x hi rfl;refine dz ?_;refine aU (λx=>x=(Bc (wl a o (i+1)) u,s1,c,a,s2)) ?_ ?_
  .refine cI (cI (aT ?_));refine aU (λx=>x=(decide (HO o (aI (T:=jF) a (i:Int))=J/\((wl a o i).length=0\/(i:Int)=u)),s1,c,a,s2)) ?_ ?_
   .refine aS (Y6 _ _) (aQ (λh=>?_) λh=>aj ?_)
    .have h:HO o (aI (T:=jF) a (i:Int))=J:=h;refine bK (λg=>aj ?_) λg=>aj ?_
     .have:(wl a o i).length=0:=vm λq=>by have:=(OT (u:=u) q).1;dsimp only at g;omega
      simp[h,this]
     .have:¬(wl a o i).length=0:=λq=>by have:=Kc (u:=u) q;dsimp only at g;omega
      simp[h,this]
    .have h:HO o (aI (T:=jF) a (i:Int))=af:=h;simp[h]
   rintro x rfl;rw[Hl];refine aK (λh=>aj ?_) λh=>aj ?_
   .rw[aC h.1,WE];rcases h.2 with g|g
    .rw[aC g]
    .rw[aC g];simp
   .by_cases g:HO o (aI (T:=jF) a (i:Int))=J
    .rw[aC g,WE,ay λq=>h ⟨g,.inl q⟩,ay λq=>h ⟨g,.inr q⟩]
    .rw[ay g]
  rintro x rfl;exact aj (by dsimp only;rw[gU (by omega)])
 .rintro x rfl;refine dt (aw (P:=λy=>y=(Bc (wl a o a.length) u,s1,c,if (wl a o a.length).length=0 then a else xK a (Bc (wl a o a.length) u) 4)) ?_ λy z=>aj z);refine aU (λx=>x=(s1,c,if (wl a o a.length).length=0 then a else xK a (Bc (wl a o a.length) u) 4)) ?_ ?_
  .refine fH (λg=>?_) λg=>aj ?_
   .have h0:¬(wl a o a.length).length=0:=λq=>by have:=Kc (u:=u) q;dsimp only at g;omega
    have hp:=OT (u:=u) h0;refine aO hp.1 hp.2 (aO hp.1 hp.2 (aj ?_));rw[ay h0];rfl
   .have:(wl a o a.length).length=0:=vm λq=>by have:=(OT (u:=u) q).1;dsimp only at g;omega
    rw[aC this]
  rintro x rfl;exact aj rfl
theorem ade (th:Y (Int×Int×Bool)) (l:η) (i:Int):Cw th (l++[i])=xK (Cw th l) i 4:=by unfold Cw;rw[eC];rfl
theorem adc (l:η):∀(th:Y (Int×Int×Bool)) (j:Int),0<=j->(∀z∈l,0<=z/\z<th.length/\¬z=j)->aI (T:=jF) (Cw th l) j=aI (T:=jF) th j:=by
 induction l with
 |nil=>intro th j _ _;rfl
 |cons x r c=>
  intro th j hj h;have a:=h x (by simp);refine (c (xK th x 4) j hj λz s=>?_).trans ?_
  .have:=h z (by simp[s]);unfold xK;rw[bT];exact this
  .unfold xK;rw[rF (T:=jF) th x j _ a.1 a.2.1 hj,ay λq=>a.2.2 q.symm]
theorem TI (s:SY) (o:Int) (hs:s.2.2.2.length<=1000):gY ((s.2.1,o),s.1,s.2.2.1,s.2.2.2)=M (((wl s.2.2.2 o s.2.2.2.length).length:Int),s.1,s.2.2.1,Cw s.2.2.2 (wl s.2.2.2 o s.2.2.2.length)):=by
 refine cG ?_;obtain⟨s1,s2,c,a⟩:=s;dsimp only at hs ⊢;unfold gY mH aX bm bN du ck bA kW aV cR aE cH;dsimp only[ak];refine jr a.length (by omega) (λi x=>x=((((wl a o i).length:Int),(i:Int)),s1,c,Cw a (wl a o i),s2)) ?_ ?_ rfl
 .rintro i x hi rfl;have hl:=vn a o i;have hg:aI (T:=jF) (Cw a (wl a o i)) (i:Int)=aI (T:=jF) a (i:Int):=adc _ _ _ (by omega) λz q=>by have:=rc.1 q;exact⟨this.1,by omega,by omega⟩
  have hq:=Hr (wl a o i) a;refine dz ?_;refine aU (λx=>x=(((wl a o (i+1)).length:Int),s1,c,Cw a (wl a o (i+1)),s2)) ?_ ?_
  .refine cI (cI (aT (aS (Y6 _ _) ?_)));rw[Hl];refine aQ (λh=>?_) λh=>aj ?_
   .have h:HO o (aI (T:=jF) a (i:Int))=J:=hg▸h;refine cI (cI (aj ?_));rw[aC h,ade];dsimp only;rw[gU (by omega)];simp only[bk,bX,gr];rfl
   .have h:HO o (aI (T:=jF) a (i:Int))=af:=hg▸h;rw[h];rfl
  rintro x rfl;exact aj (by dsimp only;rw[gU (by omega)])
 .rintro x rfl;exact dt (aj rfl)
theorem afo {n:Nat} (w:WT) (s:SY) (hs:SB n s) (hn:n<=1000) (z:w.2.2.1.length<=1000) (t k o u:Int) (he:EN w s t k o) (hr:Vt w s t k o) (c:¬k=8) (a:¬k=9):gZ (w,s,t,k,o,u)=M ((qW w s t k o u).1,(qW w s t k o u).2,J):=by
 refine cG ?_;unfold gZ aX bm bw cC eB bN du cW fw lJ ck bf bH bO kW aE;refine aS (DO w s hs hn z t k o he hr) (fA rfl (aS (aal s hs) ?_));suffices hmain:Ok _ _ from aU (λx=>((x.2.2.2.1,x.2.1,x.2.2.2.2),x.1)=qW w s t k o u) hmain λx q=>aj (by rw[<- q])
 obtain⟨nm,t0,t1,cd,e1,e2,e3⟩:=id he;obtain⟨_,_,ce,lk,cn,th,fu⟩:=nm;have hm:16<=k/\k<=19->0<=(aI (T:=S9) w.2.2.1 o).2/\(aI (T:=S9) w.2.2.1 o).2<w.2.1.length:=λh=>cd _ (bM (cn h).1 (cn h).2)
 rcases @Iw k with rfl|rfl|rfl|rfl|rfl|rfl|rfl|rfl|rfl|rfl|rfl|rfl|rfl|rfl|rfl|rfl|rfl|rfl|rfl|rfl|rfl|rfl|rfl|⟨hk,A⟩
 case inr.inr.inr.inr.inr.inr.inr.inr.inr.inr.inr.inr.inr.inr.inr.inr.inr.inr.inr.inr.inr.inr.inr=>omega
 all_goals first|exact (c rfl).elim|exact (a rfl).elim|skip
 all_goals simp only[aY,bn,sX]
 all_goals with_reducible repeat' first|(refine OS.ok ?_;constructor)|refine IM.mk λ_=>?_
 all_goals try simp only[ak,qR] at*
 all_goals try rw[bT]
 all_goals first|omega|exact (hm ⟨by decide,by decide⟩).1|exact e1▸(hm ⟨by decide,by decide⟩).2|exact rfl|skip
 .refine aS (ad9 s o u hs.th) (bd ?_ (aj ?_))
  .have:ai (if (wl s.2.2.2 o s.2.2.2.length).length=0 then s.2.2.2 else xK s.2.2.2 (Bc (wl s.2.2.2 o s.2.2.2.length) u) 4)=s.2.2.2.length:=by
    split
    .rfl
    .exact bT ..
   dsimp only;rw[this];simp
  .rw[E9];by_cases h:(wl s.2.2.2 o s.2.2.2.length).length=0
   .rw[aC h,aC h,Kc h]
   .rw[ay h,ay h]
 .refine aS (TI s o hs.th) (bd ?_ (aj rfl));dsimp only;rw[Hr];simp
def Ay:Nat->Y η
 |0=>[[]]
 |m+1=>Ay m++(Ay m).map ((3-(m:Int))::·)
theorem L7:∀m,[]∈Ay m
 |0=>by simp[Ay]
 |m+1=>by simp[Ay,L7 m]
theorem D2:∀(m:Nat) (l:η),He l->(∀z∈l,4-(m:Int)<=z/\z<4)->l∈Ay m
 |m,[],_,_=>L7 m
 |0,a::r,_,h=>by have:=h a (by simp);omega
 |m+1,a::r,hA,h=>by
  have q:=h a (by simp);rw[Ay,bQ];by_cases e:a=3-(m:Int)
  .refine .inr (db.2 ⟨r,D2 m r hA.2 λz c=>?_,by rw[e]⟩);have:=h z (by simp[c]);have:=hA.1 z c;omega
  .refine .inl (D2 m (a::r) hA λz c=>?_);have:=h z c;rcases bh.1 c with rfl|c
   .omega
   .have:=hA.1 z c;omega
theorem afu {l:η} (h:He l) (h2:∀z∈l,0<=z/\z<4):l∈Ay 4:=D2 4 l h λz a=>by have:=h2 z a;omega
def in4:η:=[0,1,2,3]
theorem Wh {t:Int} (h0:0<=t) (h1:t<4):t∈in4:=by
 have:t=0\/t=1\/t=2\/t=3:=by omega
 rcases this with rfl|rfl|rfl|rfl<;>simp[in4]
def ako (l:η) (t:Int):Bool:=l.contains t||((vZ (l++[t])==M (wV l [t]))&&(lZ (wV l [t])==M (wV l [t]))&&aA (wV l [t]).length (l++[t]).length)
def alk (l:η) (t:Int):Bool:= !l.contains t||(ji (l,t)==M (t,wo l t))
theorem acu:((Ay 4).all λl=>in4.all λt=>ako l t)=J:=by kernel_rfl
theorem ae4:((Ay 4).all λl=>in4.all λt=>alk l t)=J:=by kernel_rfl
theorem srt8 {l:η} {t:Int} (h:He l) (h2:∀z∈l,0<=z/\z<4) (h0:0<=t) (h1:t<4) (hn:¬t∈l):vZ (l++[t])=M (wV l [t])/\lZ (wV l [t])=M (wV l [t])/\(wV l [t]).length=(l++[t]).length:=by
 have:=gy.1 (gy.1 acu l (afu h h2)) t (Wh h0 h1);unfold ako at this;have hc:l.contains t=af:=by simp[hn]
 rw[hc,Bool.false_or,al,al]at this;exact⟨eq_of_beq this.1.1,eq_of_beq this.1.2,ar this.2⟩
theorem del8 {l:η} {t:Int} (h:He l) (h2:∀z∈l,0<=z/\z<4) (h0:0<=t) (h1:t<4) (hn:l.contains t=J):ji (l,t)=M (t,wo l t):=by
 have:=gy.1 (gy.1 ae4 l (afu h h2)) t (Wh h0 h1);unfold alk at this;rw[hn,Bool.not_true,Bool.false_or]at this;exact eq_of_beq this
theorem aee (a0 a1 a2:Int) (r0 r1 r2:η) (h:Int) (d:θ) (th:Y (Int×Int×Bool)) (h0:r0.length<=1000) (h1:r1.length<=1000) (h2:r2.length<=1000) (hd:d.length<=1000) (ht:th.length<=1000):ny ([(a0,r0),(a1,r1),(a2,r2)],h,d,th)=M ((h,d,th),(a0,a1,a2),r0,r1,r2):=by
 refine cG ?_;have a:∀l:η,l.length<=1000->oY l=M l:=λl hl=>cG (bc (by omega) (by omega) (aj rfl))
 unfold ny aX bN bA bH bO aV aE;refine bd rfl (aU (λx=>x=(([(a0,r0),(a1,r1),(a2,r2)],h,d,th),0,(a0,a1,a2),r0,r1,r2)) ?_ ?_)
 .exact fP rfl (bd rfl (aT (aS (a _ h0) (fP rfl (bd rfl (aT (aS (a _ h1) (fP rfl (bd rfl (aT (aS (a _ h2) (fA rfl (aj rfl)))))))))))))
 rintro x rfl;refine aS (x:=d) (cG (bc (by dsimp only;omega) (by omega) (aj rfl))) (aS (x:=th) (cG (bc (by dsimp only;omega) (by omega) (aj rfl))) (aj rfl))
theorem afp {n:Nat} (w:WT) (s:SY) (hs:SB n s) (hn:n<=1000) (a:w.2.2.1.length<=1000) (t k o u:Int) (he:EN w s t k o) (hr:Vt w s t k o) (hk:k=8\/k=9):gZ (w,s,t,k,o,u)=D:=by
 have h1:=DO w s hs hn a t k o he hr;have h2:=aal s hs;rcases hk with rfl|rfl
 .unfold gZ aX bm bw cC eB bN du cW fw lJ ck bf bH bO kW aE;simp only[h1,h2,aY,bn,sX];cases fD o (ai s.1)<;>rfl
 .unfold gZ aX bm bw cC eB bN du cW fw lJ ck bf bH bO kW aE;simp only[h1,h2,aY,bn,sX];cases fD o (ai s.1)<;>rfl
theorem afn {n:Nat} (w:WT) (s:SY) (hs:SB n s) (hn:n<=900) (L:w.2.2.1.length<=1000) (t k u:Int) (he:EN w s t k 2) (hr:Vt w s t k 2) (hk:k=8\/k=9) (U:s.1.length=3) (hA:He (aI (T:=Ag) s.1 2).2) (a:∀z∈(aI (T:=Ag) s.1 2).2,0<=z/\z<4) (q:t<4):li (w,s,t,k,2,u)=M ((qW w s t k 2 u).1,(qW w s t k 2 u).2,J):=by
 have h1:=DO w s hs (by omega) L t k 2 he hr;have t0:=he.t0;have ra:=hr.ra;have rr:=hr.rr;have hrd:=hs.rd;have hdn:=hs.dn;have hth:=hs.th;obtain⟨s1,h,d,th⟩:=s
 match s1,U with
 |[(a0,r0),(a1,r1),(a2,r2)],_=>
  have g0:r0.length<=n:=hrd (a0,r0) (by simp);have g1:r1.length<=n:=hrd (a1,r1) (by simp);have Z:r2.length<=n:=hrd (a2,r2) (by simp);have hA:He r2:=hA;have a:∀z∈r2,0<=z/\z<4:=a;dsimp only at hdn hth;have hc:=aee a0 a1 a2 r0 r1 r2 h d th (by omega) (by omega) (by omega) hdn hth;refine cG ?_;unfold li aX bm bw cC eB kO du cW fw pZ bf wS bH aE;rcases hk with rfl|rfl
  .have ra:r2.contains t=af:=ra rfl;obtain⟨c,A,q3⟩:=srt8 hA a t0 q (by simpa using ra);simp only[h1,hc,aY,bn,sX];refine aU (λx=>x=(0,(h,d,th),0,(((a0,r0),(a1,r1),a2)),J,wV r2 [t])) ?_ ?_
   .refine bc (by simp;omega) (by omega) (aS c (bd ?_ (aS A (bd ?_ (aj ?_)))))
    .rw[q3];simp
    .simp
    .rfl
   rintro x rfl;exact aj rfl
  .have rr:r2.contains t=J:=rr rfl;have c:=del8 hA a t0 q rr;simp only[h1,hc,aY,bn,sX];refine aU (λx=>x=(0,(h,d,th),0,(((a0,r0),(a1,r1),a2)),af,wo r2 t)) ?_ ?_
   .exact aS c (bd (by simp) (aj rfl))
   rintro x rfl;exact aj rfl
theorem ak7 {n:Nat} (w:WT) (s:SY) (hs:SB n s) (hn:n<=900) (a:w.2.2.1.length<=1000) (t k o u:Int) (he:EN w s t k o) (hr:Vt w s t k o) (h2:k=8\/k=9->o=2) (q:s.1.length=3) (hA:∀l∈s.1,He l.2/\∀z∈l.2,0<=z/\z<4) (c:t<4):rS (w,s,t,k,o,u)=M ((qW w s t k o u).1,(qW w s t k o u).2,J):=by
 unfold rS;by_cases hk:k=8\/k=9
 .have:=h2 hk;subst this;have hg:=hA _ (bM (T:=Ag) (xs:=s.1) (j:=2) (by omega) (by omega));rw[afp w s hs (by omega) a t k 2 u he hr hk,afn w s hs hn a t k u he hr hk q hg.1 hg.2 c];rfl
 .rw[afo w s hs (by omega) a t k o u he hr (λh=>hk (.inl h)) λh=>hk (.inr h)];rfl
theorem WD (l:η) (h:l.length<=100000):yO l=M l:=cG (bc (by omega) (by omega) (aj rfl))
theorem aef (l:η) (h:l.length<=100000):oY l=M l:=cG (bc (by omega) (by omega) (aj rfl))
theorem ama {n:Nat} (w:WT) (s:SN) (e:ET) (hs:NB n s) (hn:n<=900) (L:w.2.2.1.length<=1000) (U:F16 w s) (q:EN w s.1 e.1 e.2.1 e.2.2.1) (hS:S16 w s e) (ld:e.2.2.2.2.2.1.length<=1000000) (lf:e.2.2.2.2.2.2.length<=1000000) (h2:e.2.1=8\/e.2.1=9->e.2.2.1=2) (h3:s.1.1.length=3) (hA:∀l∈s.1.1,He l.2/\∀z∈l.2,0<=z/\z<4) (t4:e.1<4):fU (w,s,e)=M (nxP w s e,J):=by
 refine cG ?_;obtain⟨rd,q1,q2,de,fr,nd,nf,va⟩:=id hS;obtain⟨nm,t0,t1,cd,e1,e2,e3⟩:=id q;obtain⟨k1,k2,ce,lk,cn,th,fu,_,_,_⟩:=nm;obtain⟨f1,f2,f3⟩:=id U;have hsc:=hs.c;have hsf:=hs.f;have hsk:=hs.k;unfold fU aX bm bw bN du cW ck bf bA jG kW aV aE cH;refine aU (λx=>x=(af,w,s,e,0)) ?_ ?_
 .refine aS (al9 w s L _ _ _ q U) (fA rfl (dt (fH (λg=>(by dsimp only[ak]at g;omega)) λ_=>dt (aj ?_))));rw[fY.2 (show e.2.1<=23 by omega)]
 rintro x rfl;refine c7 (aU (λx=>x=(af,w,s,e,0)) ?_ ?_)
 .exact aS (DO w s.1 hs.sb (by omega) L _ _ _ q rd) (fA rfl (aS (ad4 w e q1 q2) (fA rfl (aS (Rh w s e (λh=>ce h) de fr t0 (by rw[f3];exact t1) nd nf ld lf) (fA rfl (aS (acn w s hs.sb e U q va) (aj rfl)))))))
 rintro x rfl;refine c7 (aU (λx=>x.2=(w,s,e,0)/\qW w s.1 e.1 e.2.1 e.2.2.1 x.1=qW w s.1 e.1 e.2.1 e.2.2.1 e.2.2.2.1) ?_ ?_)
 .exact aK (λ_=>aj ⟨rfl,rfl⟩) λh=>aj ⟨rfl,WS _ _ _ _ _ _ _ h⟩
 rintro⟨u,x⟩ ⟨Z,hu⟩;dsimp only at Z hu;subst Z;refine aS (ak7 w s.1 hs.sb hn L _ _ _ u q rd h2 h3 hA t4) (fA rfl (aS (WD _ (by dsimp only;omega)) (aS (WD _ (by dsimp only;omega)) (aS (aef _ (by dsimp only;omega)) ?_))));rw[hu];refine aU (λx=>x.1=e/\x.2.2.1=(qW w s.1 e.1 e.2.1 e.2.2.1 e.2.2.2.1).1/\x.2.2.2.1=Yd s.2.1 e/\x.2.2.2.2.1=Y1 s.2.2.1 e/\x.2.2.2.2.2=s.2.2.2) ?_ ?_
 .unfold Yd Y1;refine aK (λh=>?_) λh=>aK (λh'=>?_) λh'=>aj ⟨rfl,rfl,(ay h).symm,(ay h').symm,rfl⟩
  .have h:e.2.1=4:=h;have a:=ce (.inr h);exact aO a.1 (by rw[f1];exact a.2) (aO a.1 (by rw[f1];exact a.2) (aj ⟨rfl,rfl,(aC h).symm,(ay (by omega)).symm,rfl⟩))
  .have h:e.2.1=22:=h';have a:=fu (.inl h);exact aO a.1 (by rw[f2];exact a.2) (aO a.1 (by rw[f2];exact a.2) (aj ⟨rfl,rfl,(ay (by omega)).symm,(aC h).symm,rfl⟩))
 rintro⟨x1,x2,x3,x4,x5,x6⟩ ⟨h1,h2,h4,h5,h6⟩;simp only at h1 h2 h4 h5 h6;subst h1;subst h2;subst h4;subst h5;subst h6;have A:x1.1<(s.2.2.2.length:Int):=by rw[f3];exact t1
 exact aO t0 A (aO t0 A (aT (aO t0 A (aO t0 A (aj rfl)))))
theorem Yh (r:θ) (e:ET) (h1:∀y∈e.2.2.2.2.2.1,0<=y/\r.getD y.toNat af=J) (h2:∀y∈e.2.2.2.2.2.2,0<=y/\r.getD y.toNat af=J) (ld:e.2.2.2.2.2.1.length<=1000000) (a:e.2.2.2.2.2.2.length<=1000000):cg (r,e)=M J:=by
 refine cG ?_;unfold cg ky eB lJ bA jG bH bO aV cR aE cH;refine jr 2 (by omega) (λi x=>x=(i:Int)) ?_ ?_ rfl
 .rintro i x hi rfl;refine bK (λ_=>?_) λg=>(by omega)
  refine cV (dx (by omega) (zS (by omega) (aT ?_)));have hr:∃l:η,aI (T:=.sl (.int .i64)) [e.2.2.2.2.2.1,e.2.2.2.2.2.2] (i:Int)=l/\(∀y∈l,0<=y/\r.getD y.toNat af=J)/\l.length<=1000000:=by
   match i,hi with
   |0,_=>exact⟨_,rfl,h1,ld⟩
   |1,_=>exact⟨_,rfl,h2,a⟩
  obtain⟨l,c,hA,hl⟩:=hr;have er':aI (T:=.sl aL) [e.2.2.2.2.2.1,e.2.2.2.2.2.2] (i:Int)=l:=c;dsimp only at er' ⊢;rw[er'];refine jr l.length (by omega) (λj x=>x=(j:Int)) ?_ ?_ rfl
  .rintro j x hj rfl;refine dz ?_;have m:=hA _ (bM (T:=.int .i64) (xs:=l) (j:=(j:Int)) (by omega) (by omega));refine cI (aT (aU (λx=>x=af) ?_ ?_))
   .revert m;generalize aI (T:=.int .i64) l (j:Int)=z;intro m;have q:z.toNat<r.length:=by
     rcases b7 z.toNat r.length with g|g
     .exact g
     .have:=m.2;rw[au,bD g]at this;cases this
    refine bK (λg=>(by have:=m.1;omega)) λ_=>fH (λg=>(by have:=m.1;dsimp only[ak]at g;omega)) λ_=>aO m.1 (by have:=m.1;omega) (aT (aj ?_))
    have:aI (T:=.bool) r z=J:=m.2;show (!aI (T:=.bool) r z)=af;rw[this];rfl
   rintro x rfl;exact c7 (aj (gU (by omega)))
  .rintro x rfl;exact dt (aj (gU (by omega)))
 .rintro x rfl;exact bK (λg=>(by omega)) λ_=>aj rfl
abbrev W8 (n:Nat) (s:Y π):WT:=(C0,Gt,L1,SE,vL.take n,s)
theorem WX.w8 {w:WT} (A:WX w):∃n,(n=1\/n=2\/n=3\/n=4)/\w=W8 n w.2.2.2.2.2:=by
 obtain⟨h1,h2,z,q,⟨n,n1,L,a⟩,_,_⟩:=A;obtain⟨c,l,d,f,t,s⟩:=w;dsimp only at h1 h2 z q a;subst h1;subst h2;subst z;subst q;subst a;exact⟨n,by omega,rfl⟩
abbrev sn8 (w:WT):SN:=(Pf w,ce0 w,fu0 w,aB w.2.2.2.2.1.length 0)
theorem HY (s:Y π):di (W8 1 s)=M (sn8 (W8 1 s)):=by kernel_rfl
theorem Zg (s:Y π):di (W8 2 s)=M (sn8 (W8 2 s)):=by kernel_rfl
theorem st3 (s:Y π):di (W8 3 s)=M (sn8 (W8 3 s)):=by kernel_rfl
theorem st4 (s:Y π):di (W8 4 s)=M (sn8 (W8 4 s)):=by kernel_rfl
theorem B2 {w:WT} (a:WX w):di w=M (sn8 w):=by
 obtain⟨n,hn,e⟩:=a.w8;rw[e];rcases hn with rfl|rfl|rfl|rfl
 .exact HY _
 .exact Zg _
 .exact st3 _
 .exact st4 _
abbrev VN4:Y ζ:=[[120],[121],[118],[113]]
theorem vc8:h_ C0=M (VN4,J):=by kernel_rfl
theorem vn1 (s:Y π):dN (W8 1 s,VN4)=M J:=by kernel_rfl
theorem vn2 (s:Y π):dN (W8 2 s,VN4)=M J:=by kernel_rfl
theorem vn3 (s:Y π):dN (W8 3 s,VN4)=M J:=by kernel_rfl
theorem vn4 (s:Y π):dN (W8 4 s,VN4)=M J:=by kernel_rfl
theorem vs8 {w:WT} (L:WX w) (hb:VL w):gd w=M J:=by
 have hv:=L.v;have hs:=L.s;have ht:=hb.t0;unfold SV0 at hv;refine cG ?_;unfold gd kT aX bm cC cW bA jf bO aV cR aE cH;refine jr w.2.2.2.2.2.length (by omega) (λi x=>∃t n:Int,x=((t,n,(i:Int)),w)/\KM w.2.2.2.2.1.length (w.2.2.2.2.2.take i)=M (t,n)/\0<=t/\t<w.2.2.2.2.1.length/\0<=n/\n<=i) ?_ ?_ ⟨0,0,rfl,rfl,by omega,by omega,by omega,by omega⟩
 .rintro i x hi ⟨t,n,rfl,h1,t0,t1,n0,n1⟩;refine dz ?_;refine cI (aT ?_);have h2:=VP hv (i+1);have q:KM w.2.2.2.2.1.length (w.2.2.2.2.2.take (i+1))=S_ w.2.2.2.2.1.length (M (t,n)) (aI (T:=xJ) w.2.2.2.2.2 (i:Int)):=by rw[HZ hi,h1]
  rw[q]at h2;dsimp only;revert h2 q;change _->_->Ok _ _;generalize aI (T:=xJ) w.2.2.2.2.2 (i:Int)=z;intro h2 q;obtain⟨(a:Int),(b:Int),(c:Int)⟩:=z;have Z:(a=t/\b=n)\/(t<a/\a<w.2.2.2.2.1.length/\b=0):=by
   simp only[S_]at h2;split at h2
   .rename_i h;exact .inl h
   .split at h2
    .rename_i h;exact .inr h
    .exact (h2 rfl).elim
  refine aU (λx=>x=(af,w,a,b,c)) ?_ ?_
  .refine dt (aj ?_);dsimp only;rw[mg.2 (by dsimp only[ak];omega)]
  rintro x rfl;refine c7 ?_;rcases Z with ⟨rfl,rfl⟩|⟨U,A,rfl⟩
  .refine aU (λx=>x=((a,b),w,a,b,c)) (dt (aj rfl)) ?_;rintro x rfl;refine b9 (λg=>(g rfl).elim) λ_=>aj ⟨a,b+1,?_,?_,t0,t1,by omega,by omega⟩
   .dsimp only;rw[iK (n:=b+1) (by omega) (by omega),gU (by omega)]
   .rw[q];simp[S_]
  .refine aU (λx=>x=((a,0),w,a,0,c)) (dz (aj rfl)) ?_;rintro x rfl;refine b9 (λg=>(g rfl).elim) λ_=>aj ⟨a,1,?_,?_,by omega,A,by omega,by omega⟩
   .dsimp only;rw[iK (n:=0+1) (by omega) (by omega),gU (by omega)];rfl
   .rw[q];show (if a=t/\(0:Int)=n then M (t,n+1) else if t<a/\a<_/\(0:Int)=0 then M (a,1) else D)=M (a,1);rw[ay (by omega),aC ⟨U,A,rfl⟩]
 .rintro x ⟨t,n,rfl,_⟩;exact dt (aj rfl)
theorem VW8 {w:WT} (s:WX w) (hb:VL w):dO w=M J:=by
 have hs:=vs8 s hb;have hvn:dN (w,VN4)=M J:=by
  obtain⟨n,hn,e⟩:=s.w8;rw[e];rcases hn with rfl|rfl|rfl|rfl
  .exact vn1 _
  .exact vn2 _
  .exact vn3 _
  .exact vn4 _
 have hc:=s.c;have hd:=s.d;have hl:=s.l;obtain⟨w1,w2,w3,z,q,a⟩:=w;obtain⟨b1,b2,Z,U,b0,L,A⟩:=hb;dsimp only at hc hd hl b1 b2 Z U L A b0;subst hc;subst hd;subst hl;refine cG ?_;unfold dO kU aX bm cC cW bA bO aV cR aE cH;have f:∀n m:Nat,n<=m->fK (m:Int) (aN n)=af:=λn m h=>fY.2 (by dsimp only[ak];omega)
 refine aU (λx=>x=(af,C0,Gt,L1,z,q,a)) ?_ ?_
 .refine fA rfl (fA rfl (fA rfl (fA (f _ 2 U) (aj ?_))));rw[show fK 60 (aN (ai a))=af from f _ 60 A]
 rintro x rfl;refine c7 (aU (λx=>x=(af,C0,Gt,L1,z,q,a)) ?_ ?_)
 .refine fA (fY.2 (by dsimp only[ak];omega)) (aj ?_);rw[show fK 4 (aN (ai q))=af from f _ 4 L]
 rintro x rfl;refine c7 (aS vc8 (aU (λx=>x=(af,C0,Gt,L1,z,q,a)) ?_ ?_))
 .exact c7 (aS hvn (aj rfl))
 rintro x rfl;refine c7 (jr 1 (by omega) (λi x=>x=((i:Int),C0,Gt,L1,z,q,a)) ?_ ?_ rfl)
 .rintro i x hi rfl;have:i=0:=by omega
  subst this;refine fP rfl (bd rfl (aT (aS (x:=J) ?_ (c7 (aj rfl)))));rfl
 .rintro x rfl;exact fA rfl (aS (x:=J) (by rw[hs];rfl) (aj rfl))
abbrev eN (l:Y ET) (i:Nat):ET:=aI (T:=tE) l (i:Int)
theorem Jo {l:Y ET} {i:Nat} (h:i<l.length):eN l i∈l:=bM (T:=tE) (by omega) (by omega)
theorem ahv {l:Y ET} {e:ET} {i:Nat} (h:i<l.length):eN (l++[e]) i=eN l i:=by
 unfold eN;rw[yY,yY,au,au,bP h]
theorem ae3 (l:Y ET) (e:ET):eN (l++[e]) l.length=e:=by
 unfold eN;rw[yY,au,b8 (bU _),Nat.sub_self];rfl
def M4 (w:WT) (l:Y ET):SY×η×η:=l.foldl (λs e=>((qW w s.1 e.1 e.2.1 e.2.2.1 e.2.2.2.1).1,Yd s.2.1 e,Y1 s.2.2 e)) (Pf w,ce0 w,fu0 w)
theorem Sg (w:WT) {l:Y ET} {i:Nat} (h:i<l.length):M4 w (l.take (i+1))=((qW w (M4 w (l.take i)).1 (eN l i).1 (eN l i).2.1 (eN l i).2.2.1 (eN l i).2.2.2.1).1,Yd (M4 w (l.take i)).2.1 (eN l i),Y1 (M4 w (l.take i)).2.2 (eN l i)):=by
 rw[ol (T:=tE) h];unfold M4;rw[eC];rfl
theorem Acw.all {w:WT} {l:Y ET} {sy:SY} {ce fu:η} (h:Acw w l sy ce fu):M4 w l=(sy,ce,fu)/\∀i,i<l.length->SCx w (l.take i) (M4 w (l.take i)).1 (M4 w (l.take i)).2.1 (M4 w (l.take i)).2.2 (eN l i):=by
 induction h with
 |nil=>exact⟨rfl,λi hi=>ct hi (wT _)⟩
 |snoc h hs a=>
  rename_i l sy ce fu e;obtain⟨h1,h2⟩:=a;refine ⟨by unfold M4 at h1 ⊢;rw[eC,h1];rfl,λi hi=>?_⟩;rw[bk,eP]at hi;rcases b7 i l.length with g|g
  .rw[ly (by omega),ahv g];exact h2 i g
  .have:i=l.length:=by omega
   subst this;rw[ly (bU _),cO,ae3,h1];exact hs
theorem TR.sc {w:WT} {l:Y ET} (a:TR (w,l)) {i:Nat} (h:i<l.length):SCx w (l.take i) (M4 w (l.take i)).1 (M4 w (l.take i)).2.1 (M4 w (l.take i)).2.2 (eN l i):=by
 obtain⟨sy,ce,fu,ac⟩:=a.ac;exact ac.all.2 i h
def Pj (w:WT) (l:Y ET):HS:=l.foldl (λh e=>(Pu w h (evP e)).1) (HS.zero w)
def dE (l:Y ET) (i:Nat):EV:=evP (eN l i)
def vi (w:WT) (l:Y ET) (i:Nat):η:=Ka w (Pj w (l.take i)) (dE l i)
theorem IC (w:WT) {l:Y ET} {i:Nat} (h:i<l.length):Pj w (l.take (i+1))=jT w (Pj w (l.take i)) (dE l i) (vi w l i):=by
 rw[ol (T:=tE) h];unfold Pj;rw[eC];rfl
theorem N0 {w:WT} {l:Y ET} (a:TR (w,l)):∀i:Nat,i<=l.length->Tb (i:Int) (Pj w (l.take i))/\Fit w (Pj w (l.take i))
 |0,_=>by
  have wb:=a.wb;dsimp only at wb;exact⟨HS.zero_ok (by have:=wb.c;omega) (by have:=wb.l;omega) (by have:=wb.f;omega) (by have:=wb.t;omega),Fit.zero w⟩
 |i+1,h=>by
  obtain⟨o,q⟩:=N0 a i (by omega);have hl:=a.len;dsimp only at hl;have ok:=aaa (a.ev _ (Jo (l:=l) (i:=i) (by omega))) a.wb q;rw[IC w (by omega)];exact⟨Zc (w:=w) (e:=dE l i) o (by omega) ok.th4,q.step (dE l i)⟩
theorem Jf {w:WT} {l:Y ET} (a:TR (w,l)) {i:Nat} (h:i<l.length):EOK w (Pj w (l.take i)) (dE l i):=aaa (a.ev _ (Jo h)) a.wb (N0 a i (by omega)).2
theorem FF {w:WT} {l:Y ET} (a:TR (w,l)) {i:Nat} (h:i<l.length):EvT (dE l i) (eN l i):=alb (a.ev _ (Jo h))
theorem aan {w:WT} {l:Y ET} (a:TR (w,l)) {i:Nat} (h:i<l.length):En ((i:Int)+1) (vi w l i):=OP (N0 a i (by omega)).1 (Jf a h).th4
def LE (a b:η):Prop:=a.length<=b.length/\∀k,a.getD k 0<=b.getD k 0
theorem LE.refl (a:η):LE a a:=⟨bU _,λ_=>dj _⟩
theorem LE.trans {a b c:η} (h:LE a b) (g:LE b c):LE a c:=⟨dv h.1 g.1,λk=>Int.le_trans (h.2 k) (g.2 k)⟩
theorem LE.jl {a b:η} (h:LE a b):jl a b=b:=Mo (by rw[v9];have:=h.1;omega) λi=>by rw[BI,wg];have:=h.2 i;omega
theorem amw (a b:η):LE a (jl a b):=⟨by rw[v9];omega,λk=>by rw[BI,wg];omega⟩
theorem LE_r (a b:η):LE b (jl a b):=⟨by rw[v9];omega,λk=>by rw[BI,wg];omega⟩
theorem ah5 (a:η) (t:Nat):LE a (tk a t):=⟨by rw[L5];omega,λk=>by rw[HV];split<;>(try subst k)<;>omega⟩
theorem Pb:∀(l:Y η) (c:η),LE c (l.foldl jl c)
 |[],c=>LE.refl c
 |x::r,c=>(amw c x).trans (Pb r _)
theorem age (w:wM) (h:HS) (e:EV):LE (h.T.getD e.th []) (Ka w h e):=(Pb _ _).trans (ah5 _ _)
theorem qC {α:Type} (l:Y α) (i j:Nat) (x d:α):(l.set i x).getD j d=if i=j/\i<l.length then x else l.getD j d:=by
 rw[au,jW];by_cases e:i=j
 .subst e;by_cases g:i<l.length
  .rw[aC rfl,aC g,aC ⟨rfl,g⟩];rfl
  .rw[aC rfl,ay g,ay λq=>g q.2,au,bD (by omega)]
 .rw[ay e,ay λq=>e q.1,au]
structure oD (P:η->Prop) (h:HS):Prop where
 T:∀u,P (h.T.getD u [])
 S:∀u,P (h.S.getD u [])
 L:∀u,P (h.L.getD u [])
 R:∀u,P (h.R.getD u [])
 C:∀u,P (h.C.getD u [])
 F:∀u,P (h.F.getD u [])
 X:P h.X
 N:∀u,P (h.N.getD u [])
theorem oD.mono {P Q:η->Prop} {h:HS} (a:oD P h) (g:∀x,P x->Q x):oD Q h:=⟨λu=>g _ (a.T u),λu=>g _ (a.S u),λu=>g _ (a.L u),λu=>g _ (a.R u),λu=>g _ (a.C u),λu=>g _ (a.F u),g _ a.X,λu=>g _ (a.N u)⟩
theorem oD.set {P:η->Prop} {l:Y η} {c:η} (h:∀u,P (l.getD u [])) (hc:P c) (i:Nat):∀u,P ((l.set i c).getD u []):=λu=>by
 rw[qC];split
 .exact hc
 .exact h u
theorem oD.repl {P:η->Prop} (h:P []) (n:Nat):∀u,P ((aB n []).getD u []):=λu=>by
 rw[au,gQ];split<;>exact h
theorem oD.zero {P:η->Prop} (h:P []) (w:wM):oD P (HS.zero w):=⟨oD.repl h _,oD.repl h _,oD.repl h _,oD.repl h _,oD.repl h _,oD.repl h _,h,oD.repl h _⟩
theorem oD.step {P:η->Prop} (hj:∀a b,P a->P b->P (jl a b)) {w:wM} {h:HS} (a:oD P h) (e:EV) {c:η} (hc:P c):oD P (jT w h e c):=by
 have b:oD P {h with T:=h.T.set e.th c}:={a with T:=oD.set a.T hc _}
 unfold jT;simp only[];repeat' split
 .exact {b with S:=oD.set a.S hc _}
 .exact {b with L:=oD.set a.L (hj _ _ (a.L _) hc) _}
 .exact {b with R:=oD.set a.R (hj _ _ (a.R _) hc) _}
 .exact {b with L:=oD.set a.L (hj _ _ (a.L _) hc) _}
 .exact {b with C:=oD.set a.C (hj _ _ (a.C _) hc) _}
 .exact b
 .exact {b with F:=oD.set a.F (hj _ _ (a.F _) hc) _}
 .exact {b with X:=hj _ _ a.X hc}
 .exact {b with N:=oD.set a.N hc _}
 .exact b
 .refine {b with N:=λu=>?_};have:=a.N u;simp only[Cb];rw[au]at this ⊢;rw[DU];cases q:h.N[u]? with
  |none=>rw[q]at this;exact this
  |some x=>
   rw[q]at this;simp only[ca,uK];split
   .exact hc
   .exact this
 .exact b
theorem oD.src {P:η->Prop} {w:wM} {h:HS} (a:oD P h) (e:EV):∀x∈Bo w h e,P x:=by
 intro c hc;unfold Bo at hc;repeat' (split at hc)
 all_goals simp only[bh,cu,gj]at hc
 .subst hc;exact a.S _
 .subst hc;exact a.T _
 .rcases hc with rfl|rfl
  .exact a.L _
  .exact a.R _
 .subst hc;exact a.L _
 .rcases hc with rfl|rfl|rfl
  .exact a.L _
  .exact a.R _
  .exact a.N _
 .subst hc;exact a.C _
 .subst hc;exact a.F _
 .subst hc;exact a.X
theorem aa5 {P:η->Prop} (hj:∀a b,P a->P b->P (jl a b)):∀(l:Y η) (c:η),P c->(∀x∈l,P x)->P (l.foldl jl c)
 |[],_,hc,_=>hc
 |x::r,_,hc,h=>aa5 hj r _ (hj _ _ hc (h x (c4 ..))) λy q=>h y (cE _ q)
theorem agc (w:wM) (h:HS) (e:EV) (c:η):(jT w h e c).T=h.T.set e.th c:=by
 unfold jT;simp only[];repeat' split
 all_goals rfl
def Dy (l:Y ET) (u:Nat):Nat->Nat
 |0=>0
 |i+1=>if (dE l i).th=u then Dy l u i+1 else Dy l u i
theorem R2 (l:Y ET) (u i:Nat):∀j,Dy l u i<=Dy l u (i+j)
 |0=>bU _
 |j+1=>by
  have:=R2 l u i j;show Dy l u i<=Dy l u (i+j+1);rw[Dy];split<;>omega
theorem U0 (l:Y ET) (u:Nat) {i j:Nat} (h:i<=j):Dy l u i<=Dy l u j:=by
 obtain⟨k,rfl⟩:∃k,j=i+k:=⟨j-i,by omega⟩
 exact R2 l u i k
theorem HC (l:Y ET) (i:Nat):Dy l (dE l i).th (i+1)=Dy l (dE l i).th i+1:=by rw[Dy,aC rfl]
structure Gd (w:WT) (l:List ET) (i:Nat) (x:η):Prop where
 le:∀u,x.getD u 0<=(Dy l u i:Int)
 dn:∀k,k<i->(Dy l (dE l k).th k:Int)+1<=x.getD (dE l k).th 0->LE (vi w l k) x
theorem Gd.nil (w:WT) (l:Y ET) (i:Nat):Gd w l i []:=⟨λu=>by simp,λk _ h=>by simp at h;omega⟩
theorem Gd.jl {w:WT} {l:Y ET} {i:Nat} (a b:η) (c:Gd w l i a) (hb:Gd w l i b):Gd w l i (jl a b):=by
 refine ⟨λu=>?_,λk hk h=>?_⟩
 .rw[BI,wg];have:=c.le u;have:=hb.le u;omega
 .rw[BI,wg]at h;by_cases g:(Dy l (dE l k).th k:Int)+1<=a.getD (dE l k).th 0
  .exact (c.dn k hk g).trans (amw _ _)
  .exact (hb.dn k hk (by omega)).trans (LE_r _ _)
theorem Gd.succ {w:WT} {l:Y ET} {i:Nat} {x:η} (h:Gd w l i x):Gd w l (i+1) x:=by
 refine ⟨λu=>?_,λk hk g=>?_⟩
 .have:=h.le u;have:=U0 l u (show i<=i+1 by omega);omega
 .by_cases e:k=i
  .subst e;have:=h.le (dE l k).th;omega
  .exact h.dn k (by omega) g
structure GS1 (w:WT) (l:List ET) (i:Nat) (h:HS):Prop where
 a:oD (Gd w l i) h
 t:∀u,(h.T.getD u []).getD u 0=(Dy l u i:Int)
theorem OR {w:WT} {l:Y ET} {i:Nat} (g:GS1 w l i (Pj w (l.take i))):Gd w l (i+1) (vi w l i)/\(vi w l i).getD (dE l i).th 0=(Dy l (dE l i).th i:Int)+1:=by
 have s:Gd w l i ((Bo w (Pj w (l.take i)) (dE l i)).foldl AI.jl ((Pj w (l.take i)).T.getD (dE l i).th [])):=aa5 Gd.jl _ _ (g.a.T _) (g.a.src (w:=w) _);have z:=g.t (dE l i).th;have hL:=Pb (Bo w (Pj w (l.take i)) (dE l i)) ((Pj w (l.take i)).T.getD (dE l i).th []);have A:=(g.a.T (dE l i).th).dn;have c:=age w (Pj w (l.take i)) (dE l i);have e:(vi w l i).getD (dE l i).th 0=(Dy l (dE l i).th i:Int)+1:=by
  unfold vi Ka;rw[HV,aC rfl];have:=hL.2 (dE l i).th;have:=s.le (dE l i).th;omega
 refine ⟨⟨λu=>?_,λk hk h=>?_⟩,e⟩
 .by_cases hu:(dE l i).th=u
  .subst hu;rw[e,HC];omega
  .have:=s.le u;unfold vi Ka;rw[HV,ay λq=>hu q.symm,Dy,ay hu];exact this
 .by_cases hki:k=i
  .subst hki;exact LE.refl _
  have hk:k<i:=by omega
  by_cases hu:(dE l k).th=(dE l i).th
  .refine (A k hk ?_).trans c;rw[hu,z];have:=U0 l (dE l k).th (show k+1<=i from hk);rw[HC,hu]at this;omega
  .refine (s.dn k hk ?_).trans (ah5 _ _);unfold vi Ka at h;rw[HV,ay hu]at h;exact h
theorem ID {w:WT} {l:Y ET} (c:TR (w,l)):∀i:Nat,i<=l.length->GS1 w l i (Pj w (l.take i))
 |0,_=>⟨oD.zero (Gd.nil w l 0) w,λu=>by have:=oD.repl (P:=λx=>x.getD u 0=0) (by simp) w.2.2.2.2.1.length u;exact this⟩
 |i+1,h=>by
  have g:=ID c i (by omega);obtain⟨z,s⟩:=OR g;have ht:=(Jf c (show i<l.length by omega)).th;rw[IC w (by omega)];refine ⟨oD.step Gd.jl (g.a.mono λx h=>h.succ) _ z,λu=>?_⟩;rw[agc,qC];by_cases hu:(dE l i).th=u
  .subst hu;rw[aC ⟨rfl,ht⟩,s,HC];omega
  .rw[ay λq=>hu q.1,g.t u,Dy,ay hu]
theorem HE {w:WT} {l:Y ET} (a:TR (w,l)) {i:Nat} (h:i<l.length):(vi w l i).getD (dE l i).th 0=(Dy l (dE l i).th i:Int)+1:=(OR (ID a i (by omega))).2
theorem aam {w:WT} {l:Y ET} (a:TR (w,l)) {i:Nat} (h:i<l.length):Gd w l (i+1) (vi w l i):=(OR (ID a i (by omega))).1
def M9 (w:WT) (l:Y ET) (k j:Nat):Prop:=(Dy l (dE l k).th k:Int)+1<=(vi w l j).getD (dE l k).th 0
theorem M9.le {w:WT} {l:Y ET} (a:TR (w,l)) {k j:Nat} (hk:k<=j) (hj:j<l.length) (h:M9 w l k j):LE (vi w l k) (vi w l j):=(aam a hj).dn k (by omega) h
theorem M9.of {w:WT} {l:Y ET} (a:TR (w,l)) {k j:Nat} (hk:k<l.length) (h:LE (vi w l k) (vi w l j)):M9 w l k j:=by
 have:=h.2 (dE l k).th;rw[HE a hk]at this;exact this
theorem M9.own {w:WT} {l:Y ET} (a:TR (w,l)) {k j:Nat} (hk:k<j) (hj:j<l.length) (h:(dE l k).th=(dE l j).th):M9 w l k j:=by
 unfold M9;rw[h,HE a hj];have:=U0 l (dE l k).th (show k+1<=j from hk);rw[HC,h]at this;omega
theorem M9.trans {w:WT} {l:Y ET} (a:TR (w,l)) {i j k:Nat} (hi:i<=j) (hj:j<=k) (hk:k<l.length) (h:M9 w l i j) (g:M9 w l j k):M9 w l i k:=M9.of a (by omega) ((h.le a hi (by omega)).trans (g.le a hj hk))
def Q8 (r:η):Prop:=He r/\∀z∈r,0<=z/\z<4
def P8 (s:Y (Int×η)):Prop:=∀x∈s,Q8 x.2
theorem P8.get {s:Y (Int×η)} (h:P8 s) (o:Int):Q8 (aI (T:=Ag) s o).2:=by
 unfold aI;rw[au];cases e:s[o.toNat]? with
 |none=>exact⟨trivial,λz a=>by cases a⟩
 |some x=>exact h x (aZ e)
theorem P8.set {s:Y (Int×η)} (h:P8 s) (o a:Int) {r:η} (hr:Q8 r):P8 (cF s o (a,r)):=λx c=>by
 rcases Ci c with c|rfl
 .exact h x c
 .exact hr
theorem BZ (p:Int->Bool):∀{l:η},He l->He (l.filter p)
 |[],_=>trivial
 |x::r,h=>by
  rw[List.filter_cons];split
  .exact⟨λy a=>h.1 y ((Fj.1 a).1),BZ p h.2⟩
  .exact BZ p h.2
theorem P8.ite {c:Prop} [Decidable c] {a b:SY×Int} (q:P8 a.1.1) (hb:P8 b.1.1):P8 (if c then a else b).1.1:=by by_cases h:c<;>simp[h,q,hb]
theorem P8.ap {w:WT} {s:SY} (h:P8 s.1) {t:Int} (k o v:Int) (t0:0<=t) (q:t<4):P8 (qW w s t k o v).1.1:=by
 have ow:∀a b,P8 (owP s.1 a b):=λa b=>h.set a b (h.get a)
 have un:P8 (rdP s.1 o (wV (aI (T:=Ag) s.1 o).2 [t])):=h.set _ _ ⟨Pr _ _,λz c=>by
  rcases HU.1 c with c|c
  .exact (h.get o).2 z c
  .rw[aJ]at c;subst c;exact⟨t0,q⟩⟩
 have wt:P8 (rdP s.1 o (wo (aI (T:=Ag) s.1 o).2 t)):=h.set _ _ ⟨BZ _ (h.get o).1,λz c=>(h.get o).2 z (Fj.1 c).1⟩;unfold qW;exact P8.ite h (P8.ite h (P8.ite (ow _ _) (P8.ite (ow _ _) (P8.ite un (P8.ite wt (P8.ite h (P8.ite h (P8.ite h (P8.ite h (P8.ite (ow _ _) (P8.ite (ow _ _) (P8.ite (P8.ite h h) (P8.ite h (P8.ite h (P8.ite h h)))))))))))))))
def iF (w:WT) (l:Y ET):SN:=l.foldl (nxP w) (sn8 w)
theorem L9 (w:WT) {l:Y ET} {i:Nat} (h:i<l.length):iF w (l.take (i+1))=nxP w (iF w (l.take i)) (eN l i):=by
 rw[ol (T:=tE) h];unfold iF;rw[eC];rfl
structure K8 (w:WT) (l:List ET) (i:Nat) (s:SN):Prop where
 a:(s.1,s.2.1,s.2.2.1)=M4 w (l.take i)
 r:P8 s.1.1
 c:s.2.1.length=w.1.length
 f:s.2.2.1.length=w.2.2.2.1.length
 k:s.2.2.2.length=w.2.2.2.2.1.length
 n:CN (l.take i) s.2.2.2
theorem VM {w:WT} {l:Y ET} (q:TR (w,l)):∀i:Nat,i<=l.length->K8 w l i (iF w (l.take i))
 |0,_=>⟨rfl,λx A=>by rw[pB A];exact⟨trivial,λz s=>by cases s⟩,by simp[iF,ce0],by simp[iF,fu0],by simp[iF],λt t0 t1=>by
   have:(aB w.2.2.2.2.1.length (0:Int)).getD t.toNat 0=0:=by rw[au,gQ];split<;>rfl
   exact this⟩
 |i+1,h=>by
  obtain⟨a,r,c,f,k,n⟩:=VM q i (by omega);have sc:=q.sc (i:=i) (by omega);have hl:=q.len;have ht:=q.wb.t;dsimp only at hl ht;have en:=sc.en;have e1:=en.t1;have htk:=p_ i l;rw[L9 w (by omega)];refine ⟨?_,r.ap _ _ _ en.t0 (by omega),?_,?_,?_,?_⟩
  .rw[Sg w (by omega),<-a];rfl
  .unfold nxP Yd;dsimp only;split
   .rw[bT];exact c
   .exact c
  .unfold nxP Y1;dsimp only;split
   .rw[bT];exact f
   .exact f
  .unfold nxP;rw[bT];exact k
  .have:=n.next (eN l i) en.t0 (by rw[k];exact e1) (by omega);rw[ol (T:=tE) (show i<l.length by omega)];exact this
theorem Ns {w:WT} {l:Y ET} (q:TR (w,l)) {i:Nat} (hi:i<l.length):fU (w,iF w (l.take i),eN l i)=M (iF w (l.take (i+1)),J):=by
 obtain⟨a,r,c,f,k,n⟩:=VM q i (by omega);have sc:=q.sc hi;have z:=q.wx;have ht:=q.wb.t;have hls:=q.ls _ (Jo hi);dsimp only at z ht hls;rw[L9 w hi];rw[<- a]at sc;generalize iF w (l.take i)=s at*
 generalize eN l i=e at*
 have en:=sc.en;have e1:=en.t1;have l3:w.2.1.length=3:=by rw[z.l];rfl
 have A:=n e.1 en.t0 (by rw[k];exact e1);have b1:=q.wb.c;have b4:=q.wb.f;have b3:=q.wb.d;dsimp only at b1 b4 b3;have Z:=en.e1;have U:=en.e2;have q3:=en.e3;dsimp only at Z U q3;refine ama (n:=4) w s e ⟨⟨by omega,by omega,λx L=>?_,by omega,by omega⟩,by omega,by omega,by omega⟩ (by omega) (by omega) ⟨c,f,k⟩ en ⟨sc.rd,sc.s1,sc.s2,sc.de,sc.fr,by rw[A];exact sc.nd,by rw[A];exact sc.nf,sc.va⟩ hls.1 hls.2 (λh=>?_) (by omega) r (by omega)
 .have:=O1 x.2 0 4 (r x L).1 (r x L).2;omega
 .have o1:=en.nm.lk (by omega);have o2:=en.nm.rw (by omega);generalize e.2.2.1=o at o1 o2;rw[z.l]at o1 o2;have:o=0\/o=1\/o=2:=by have:Gt.length=3:=rfl;omega
  rcases this with rfl|rfl|rfl
  .cases o2
  .cases o2
  .rfl
abbrev fN (l:Y ET) (i:Nat) (t:Int):θ:=fl (l.take i) t
theorem Oj {l:Y ET} {i:Nat} (h:i<l.length) {t:Int} (e:(eN l i).1=t):fN l (i+1) t=fN l i t++[s_ (eN l i)]:=by
 unfold fN;rw[ol (T:=tE) h,ur,zd e]
theorem Ol {l:Y ET} {i:Nat} (h:i<l.length) {t:Int} (e:¬(eN l i).1=t):fN l (i+1) t=fN l i t:=by
 unfold fN;rw[ol (T:=tE) h,ur,wq e,mb]
theorem Ho {w:WT} {l:Y ET} (a:TR (w,l)) {i:Nat} (hi:i<l.length) {t:Int} (e:(eN l i).1=t):cg (fN l i t,eN l i)=M J:=by
 have sc:=a.sc hi;have hls:=a.ls _ (Jo hi);subst e;exact Yh _ _ sc.rd1 sc.rd2 hls.1 hls.2
theorem Om (l:Y ET) (i:Nat) (t:Int):(fN l i t).length<=l.length:=dv (Wo _ _) (List.length_take_le' ..)
theorem ac2 {w:WT} {l:Y ET} (a:TR (w,l)) (hn:w.2.2.2.2.1.length=4):em (w,l)=M (0,0):=by
 have hl:=a.len;dsimp only at hl;refine cG ?_;unfold em jP aX bm bw cC eB kO bN fw lJ pZ bf bA bH bO aV cR aE cH;refine fA (fY.2 (by dsimp only[ak];omega)) (aS (VW8 a.wx a.vl) (c7 (aS (B2 a.wx) (bd (by show (cX 0 (aN w.2.2.2.2.1.length)&&cX (aN w.2.2.2.2.1.length) (aN w.2.2.2.2.1.length)&&a_ (aP (aN w.2.2.2.2.1.length)) 24&&decide ((aN w.2.2.2.2.1.length:Int)=4))=J;rw[hn];rfl) ?_))));refine jr l.length (by omega) (λi x=>x=((i:Int),(w,l),iF w (l.take i),fN l i 0,fN l i 1,fN l i 2,fN l i 3)) ?_ ?_ rfl
 .rintro i x hi rfl;have e1:=(a.sc hi).en.t1;have e0:=(a.sc hi).en.t0;have st:=Ns a hi;have fa:=λt=>Om l i t
  have rd:=λt=>Ho a hi (t:=t)
  have own:=λt=>Oj hi (t:=t)
  have oth:=λt=>Ol hi (t:=t)
  refine dz ?_;refine cI (aT ?_);have ht:(eN l i).1=0\/(eN l i).1=1\/(eN l i).1=2\/(eN l i).1=3:=by omega
  have hg:aI (T:=tE) l (i:Int)=eN l i:=rfl;dsimp only;rw[hg];generalize eN l i=e at*
  refine aS st ?_;obtain⟨(t:Int),e⟩:=e;dsimp only at ht;rcases ht with rfl|rfl|rfl|rfl
  .refine aU (λx=>x=(af,(w,l),iF w (l.take i),(0,e),iF w (l.take (i+1)),fN l i 0,fN l i 1,fN l i 2,fN l i 3)) ?_ ?_
   .simp only[aY,bn,sX];exact aS (rd 0 rfl) (aj rfl)
   rintro x rfl;refine c7 (aU (λx=>x=((w,l),iF w (l.take i),iF w (l.take (i+1)),fN l (i+1) 0,fN l (i+1) 1,fN l (i+1) 2,fN l (i+1) 3)) ?_ ?_)
   .simp only[aY,bn,sX];rw[own 0 rfl,oth 1 (by show ¬(0:Int)=1;decide),oth 2 (by show ¬(0:Int)=2;decide),oth 3 (by show ¬(0:Int)=3;decide)];have:=fa 0;refine aK (λh=>bc (by simp;omega) (by omega) (aj ?_)) λh=>bc (by simp;omega) (by omega) (aj ?_)
    .have:s_ (0,e)=J:=by unfold s_;rw[aR h];rfl
     rw[this]
    .have:s_ (0,e)=decide (e.1=23):=by unfold s_;rw[bz h];rfl
     rw[this]
   rintro x rfl;exact aj (by rw[gU (by omega)])
  .refine aU (λx=>x=(af,(w,l),iF w (l.take i),(1,e),iF w (l.take (i+1)),fN l i 0,fN l i 1,fN l i 2,fN l i 3)) ?_ ?_
   .simp only[aY,bn,sX];exact aS (rd 1 rfl) (aj rfl)
   rintro x rfl;refine c7 (aU (λx=>x=((w,l),iF w (l.take i),iF w (l.take (i+1)),fN l (i+1) 0,fN l (i+1) 1,fN l (i+1) 2,fN l (i+1) 3)) ?_ ?_)
   .simp only[aY,bn,sX];rw[own 1 rfl,oth 0 (by show ¬(1:Int)=0;decide),oth 2 (by show ¬(1:Int)=2;decide),oth 3 (by show ¬(1:Int)=3;decide)];have:=fa 1;refine aK (λh=>bc (by simp;omega) (by omega) (aj ?_)) λh=>bc (by simp;omega) (by omega) (aj ?_)
    .have:s_ (1,e)=J:=by unfold s_;rw[aR h];rfl
     rw[this]
    .have:s_ (1,e)=decide (e.1=23):=by unfold s_;rw[bz h];rfl
     rw[this]
   rintro x rfl;exact aj (by rw[gU (by omega)])
  .refine aU (λx=>x=(af,(w,l),iF w (l.take i),(2,e),iF w (l.take (i+1)),fN l i 0,fN l i 1,fN l i 2,fN l i 3)) ?_ ?_
   .simp only[aY,bn,sX];exact aS (rd 2 rfl) (aj rfl)
   rintro x rfl;refine c7 (aU (λx=>x=((w,l),iF w (l.take i),iF w (l.take (i+1)),fN l (i+1) 0,fN l (i+1) 1,fN l (i+1) 2,fN l (i+1) 3)) ?_ ?_)
   .simp only[aY,bn,sX];rw[own 2 rfl,oth 0 (by show ¬(2:Int)=0;decide),oth 1 (by show ¬(2:Int)=1;decide),oth 3 (by show ¬(2:Int)=3;decide)];have:=fa 2;refine aK (λh=>bc (by simp;omega) (by omega) (aj ?_)) λh=>bc (by simp;omega) (by omega) (aj ?_)
    .have:s_ (2,e)=J:=by unfold s_;rw[aR h];rfl
     rw[this]
    .have:s_ (2,e)=decide (e.1=23):=by unfold s_;rw[bz h];rfl
     rw[this]
   rintro x rfl;exact aj (by rw[gU (by omega)])
  .refine aU (λx=>x=(af,(w,l),iF w (l.take i),(3,e),iF w (l.take (i+1)),fN l i 0,fN l i 1,fN l i 2,fN l i 3)) ?_ ?_
   .simp only[aY,bn,sX];exact aS (rd 3 rfl) (aj rfl)
   rintro x rfl;refine c7 (aU (λx=>x=((w,l),iF w (l.take i),iF w (l.take (i+1)),fN l (i+1) 0,fN l (i+1) 1,fN l (i+1) 2,fN l (i+1) 3)) ?_ ?_)
   .simp only[aY,bn,sX];rw[own 3 rfl,oth 0 (by show ¬(3:Int)=0;decide),oth 1 (by show ¬(3:Int)=1;decide),oth 2 (by show ¬(3:Int)=2;decide)];have:=fa 3;refine aK (λh=>bc (by simp;omega) (by omega) (aj ?_)) λh=>bc (by simp;omega) (by omega) (aj ?_)
    .have:s_ (3,e)=J:=by unfold s_;rw[aR h];rfl
     rw[this]
    .have:s_ (3,e)=decide (e.1=23):=by unfold s_;rw[bz h];rfl
     rw[this]
   rintro x rfl;exact aj (by rw[gU (by omega)])
 .rintro x rfl;exact dt (aj rfl)
theorem Fh {w:WT} {l:Y ET} (a:TR (w,l)) (hn:¬w.2.2.2.2.1.length=4):em (w,l)=D:=by
 have hl:=a.len;dsimp only at hl;unfold em jP aX bm bw cC eB kO bN fw lJ pZ bf bA bH bO aV cR aE cH;rw[show fK 400 (aN (ai (w,l).2))=af from fY.2 (by dsimp only[ak];omega)];simp only[aY,bn,sX];rw[VW8 a.wx a.vl];simp only[aY,bn,sX];rw[B2 a.wx];simp only[aY,bn,sX];rw[show decide ((aN w.2.2.2.2.1.length:Int)=4)=af from bz (by dsimp only[ak];omega),KI];rfl
theorem ac3 {w:WT} {l:Y ET} (a:TR (w,l)) (hn:w.2.2.2.2.1.length=3):dK (w,l)=M (0,0):=by
 have hl:=a.len;dsimp only at hl;refine cG ?_;unfold dK jQ aX bm bw cC eB bN cW fw lJ bf bA bH bO aV cR aE cH;refine fA (fY.2 (by dsimp only[ak];omega)) (aS (VW8 a.wx a.vl) (c7 (aS (B2 a.wx) (bd (by show (cX 0 (aN w.2.2.2.2.1.length)&&cX (aN w.2.2.2.2.1.length) (aN w.2.2.2.2.1.length)&&a_ (aP (aN w.2.2.2.2.1.length)) 24&&decide ((aN w.2.2.2.2.1.length:Int)=3))=J;rw[hn];rfl) ?_))));refine jr l.length (by omega) (λi x=>x=((i:Int),(w,l),iF w (l.take i),fN l i 0,fN l i 1,fN l i 2)) ?_ ?_ rfl
 .rintro i x hi rfl;have e1:=(a.sc hi).en.t1;have e0:=(a.sc hi).en.t0;have st:=Ns a hi;have fa:=λt=>Om l i t
  have rd:=λt=>Ho a hi (t:=t)
  have own:=λt=>Oj hi (t:=t)
  have oth:=λt=>Ol hi (t:=t)
  refine dz ?_;refine cI (aT ?_);have ht:(eN l i).1=0\/(eN l i).1=1\/(eN l i).1=2:=by omega
  have hg:aI (T:=tE) l (i:Int)=eN l i:=rfl;dsimp only;rw[hg];generalize eN l i=e at*
  refine aS st ?_;obtain⟨(t:Int),e⟩:=e;dsimp only at ht;rcases ht with rfl|rfl|rfl
  .refine aU (λx=>x=(af,(w,l),iF w (l.take i),(0,e),iF w (l.take (i+1)),fN l i 0,fN l i 1,fN l i 2)) ?_ ?_
   .simp only[aY,bn,sX];exact aS (rd 0 rfl) (aj rfl)
   rintro x rfl;refine c7 (aU (λx=>x=((w,l),iF w (l.take i),iF w (l.take (i+1)),fN l (i+1) 0,fN l (i+1) 1,fN l (i+1) 2)) ?_ ?_)
   .simp only[aY,bn,sX];rw[own 0 rfl,oth 1 (by show ¬(0:Int)=1;decide),oth 2 (by show ¬(0:Int)=2;decide)];have:=fa 0;refine aK (λh=>bc (by simp;omega) (by omega) (aj ?_)) λh=>bc (by simp;omega) (by omega) (aj ?_)
    .have:s_ (0,e)=J:=by unfold s_;rw[aR h];rfl
     rw[this]
    .have:s_ (0,e)=decide (e.1=23):=by unfold s_;rw[bz h];rfl
     rw[this]
   rintro x rfl;exact aj (by rw[gU (by omega)])
  .refine aU (λx=>x=(af,(w,l),iF w (l.take i),(1,e),iF w (l.take (i+1)),fN l i 0,fN l i 1,fN l i 2)) ?_ ?_
   .simp only[aY,bn,sX];exact aS (rd 1 rfl) (aj rfl)
   rintro x rfl;refine c7 (aU (λx=>x=((w,l),iF w (l.take i),iF w (l.take (i+1)),fN l (i+1) 0,fN l (i+1) 1,fN l (i+1) 2)) ?_ ?_)
   .simp only[aY,bn,sX];rw[own 1 rfl,oth 0 (by show ¬(1:Int)=0;decide),oth 2 (by show ¬(1:Int)=2;decide)];have:=fa 1;refine aK (λh=>bc (by simp;omega) (by omega) (aj ?_)) λh=>bc (by simp;omega) (by omega) (aj ?_)
    .have:s_ (1,e)=J:=by unfold s_;rw[aR h];rfl
     rw[this]
    .have:s_ (1,e)=decide (e.1=23):=by unfold s_;rw[bz h];rfl
     rw[this]
   rintro x rfl;exact aj (by rw[gU (by omega)])
  .refine aU (λx=>x=(af,(w,l),iF w (l.take i),(2,e),iF w (l.take (i+1)),fN l i 0,fN l i 1,fN l i 2)) ?_ ?_
   .simp only[aY,bn,sX];exact aS (rd 2 rfl) (aj rfl)
   rintro x rfl;refine c7 (aU (λx=>x=((w,l),iF w (l.take i),iF w (l.take (i+1)),fN l (i+1) 0,fN l (i+1) 1,fN l (i+1) 2)) ?_ ?_)
   .simp only[aY,bn,sX];rw[own 2 rfl,oth 0 (by show ¬(2:Int)=0;decide),oth 1 (by show ¬(2:Int)=1;decide)];have:=fa 2;refine aK (λh=>bc (by simp;omega) (by omega) (aj ?_)) λh=>bc (by simp;omega) (by omega) (aj ?_)
    .have:s_ (2,e)=J:=by unfold s_;rw[aR h];rfl
     rw[this]
    .have:s_ (2,e)=decide (e.1=23):=by unfold s_;rw[bz h];rfl
     rw[this]
   rintro x rfl;exact aj (by rw[gU (by omega)])
 .rintro x rfl;exact dt (aj rfl)
theorem Nb {w:WT} {l:Y ET} (a:TR (w,l)) (hn:¬w.2.2.2.2.1.length=3):dK (w,l)=D:=by
 have hl:=a.len;dsimp only at hl;unfold dK jQ aX bm bw cC eB bN cW fw lJ bf bA bH bO aV cR aE cH;rw[show fK 400 (aN (ai (w,l).2))=af from fY.2 (by dsimp only[ak];omega)];simp only[aY,bn,sX];rw[VW8 a.wx a.vl];simp only[aY,bn,sX];rw[B2 a.wx];simp only[aY,bn,sX];rw[show decide ((aN w.2.2.2.2.1.length:Int)=3)=af from bz (by dsimp only[ak];omega),KI];rfl
theorem ac4 {w:WT} {l:Y ET} (a:TR (w,l)) (hn:w.2.2.2.2.1.length=2):dk (w,l)=M (0,0):=by
 have hl:=a.len;dsimp only at hl;refine cG ?_;unfold dk jR aX bm bw cC bN du fw bf bA bH bO aV cR aE cH;refine fA (fY.2 (by dsimp only[ak];omega)) (aS (VW8 a.wx a.vl) (c7 (aS (B2 a.wx) (bd (by show (cX 0 (aN w.2.2.2.2.1.length)&&cX (aN w.2.2.2.2.1.length) (aN w.2.2.2.2.1.length)&&a_ (aP (aN w.2.2.2.2.1.length)) 24&&decide ((aN w.2.2.2.2.1.length:Int)=2))=J;rw[hn];rfl) ?_))));refine jr l.length (by omega) (λi x=>x=((i:Int),(w,l),iF w (l.take i),fN l i 0,fN l i 1)) ?_ ?_ rfl
 .rintro i x hi rfl;have e1:=(a.sc hi).en.t1;have e0:=(a.sc hi).en.t0;have st:=Ns a hi;have fa:=λt=>Om l i t
  have rd:=λt=>Ho a hi (t:=t)
  have own:=λt=>Oj hi (t:=t)
  have oth:=λt=>Ol hi (t:=t)
  refine dz ?_;refine cI (aT ?_);have ht:(eN l i).1=0\/(eN l i).1=1:=by omega
  have hg:aI (T:=tE) l (i:Int)=eN l i:=rfl;dsimp only;rw[hg];generalize eN l i=e at*
  refine aS st ?_;obtain⟨(t:Int),e⟩:=e;dsimp only at ht;rcases ht with rfl|rfl
  .refine aU (λx=>x=(af,(w,l),iF w (l.take i),(0,e),iF w (l.take (i+1)),fN l i 0,fN l i 1)) ?_ ?_
   .simp only[aY,bn,sX];exact aS (rd 0 rfl) (aj rfl)
   rintro x rfl;refine c7 (aU (λx=>x=((w,l),iF w (l.take i),iF w (l.take (i+1)),fN l (i+1) 0,fN l (i+1) 1)) ?_ ?_)
   .simp only[aY,bn,sX];rw[own 0 rfl,oth 1 (by show ¬(0:Int)=1;decide)];have:=fa 0;refine aK (λh=>bc (by simp;omega) (by omega) (aj ?_)) λh=>bc (by simp;omega) (by omega) (aj ?_)
    .have:s_ (0,e)=J:=by unfold s_;rw[aR h];rfl
     rw[this]
    .have:s_ (0,e)=decide (e.1=23):=by unfold s_;rw[bz h];rfl
     rw[this]
   rintro x rfl;exact aj (by rw[gU (by omega)])
  .refine aU (λx=>x=(af,(w,l),iF w (l.take i),(1,e),iF w (l.take (i+1)),fN l i 0,fN l i 1)) ?_ ?_
   .simp only[aY,bn,sX];exact aS (rd 1 rfl) (aj rfl)
   rintro x rfl;refine c7 (aU (λx=>x=((w,l),iF w (l.take i),iF w (l.take (i+1)),fN l (i+1) 0,fN l (i+1) 1)) ?_ ?_)
   .simp only[aY,bn,sX];rw[own 1 rfl,oth 0 (by show ¬(1:Int)=0;decide)];have:=fa 1;refine aK (λh=>bc (by simp;omega) (by omega) (aj ?_)) λh=>bc (by simp;omega) (by omega) (aj ?_)
    .have:s_ (1,e)=J:=by unfold s_;rw[aR h];rfl
     rw[this]
    .have:s_ (1,e)=decide (e.1=23):=by unfold s_;rw[bz h];rfl
     rw[this]
   rintro x rfl;exact aj (by rw[gU (by omega)])
 .rintro x rfl;exact dt (aj rfl)
theorem YW {w:WT} {l:Y ET} (a:TR (w,l)) (hn:¬w.2.2.2.2.1.length=2):dk (w,l)=D:=by
 have hl:=a.len;dsimp only at hl;unfold dk jR aX bm bw cC bN du fw bf bA bH bO aV cR aE cH;rw[show fK 400 (aN (ai (w,l).2))=af from fY.2 (by dsimp only[ak];omega)];simp only[aY,bn,sX];rw[VW8 a.wx a.vl];simp only[aY,bn,sX];rw[B2 a.wx];simp only[aY,bn,sX];rw[show decide ((aN w.2.2.2.2.1.length:Int)=2)=af from bz (by dsimp only[ak];omega),KI];rfl
theorem ac5 {w:WT} {l:Y ET} (a:TR (w,l)) (hn:w.2.2.2.2.1.length=1):eo (w,l)=M (0,0):=by
 have hl:=a.len;dsimp only at hl;refine cG ?_;unfold eo l8 aX bm bw bN cW bf bA bH bO aV cR aE cH;refine fA (fY.2 (by dsimp only[ak];omega)) (aS (VW8 a.wx a.vl) (c7 (aS (B2 a.wx) (bd (by show (cX 0 (aN w.2.2.2.2.1.length)&&cX (aN w.2.2.2.2.1.length) (aN w.2.2.2.2.1.length)&&a_ (aP (aN w.2.2.2.2.1.length)) 24&&decide ((aN w.2.2.2.2.1.length:Int)=1))=J;rw[hn];rfl) ?_))));refine jr l.length (by omega) (λi x=>x=((i:Int),(w,l),iF w (l.take i),fN l i 0)) ?_ ?_ rfl
 .rintro i x hi rfl;have e1:=(a.sc hi).en.t1;have e0:=(a.sc hi).en.t0;have st:=Ns a hi;have fa:=λt=>Om l i t
  have rd:=λt=>Ho a hi (t:=t)
  have own:=λt=>Oj hi (t:=t)
  have oth:=λt=>Ol hi (t:=t)
  refine dz ?_;refine cI (aT ?_);have ht:(eN l i).1=0:=by omega
  have hg:aI (T:=tE) l (i:Int)=eN l i:=rfl;dsimp only;rw[hg];generalize eN l i=e at*
  refine aS st ?_;obtain⟨(t:Int),e⟩:=e;dsimp only at ht;subst ht
  .refine aU (λx=>x=(af,(w,l),iF w (l.take i),(0,e),iF w (l.take (i+1)),fN l i 0)) ?_ ?_
   .simp only[aY,bn,sX];exact aS (rd 0 rfl) (aj rfl)
   rintro x rfl;refine c7 (aU (λx=>x=((w,l),iF w (l.take i),iF w (l.take (i+1)),fN l (i+1) 0)) ?_ ?_)
   .simp only[aY,bn,sX];rw[own 0 rfl];have:=fa 0;refine aK (λh=>bc (by simp;omega) (by omega) (aj ?_)) λh=>bc (by simp;omega) (by omega) (aj ?_)
    .have:s_ (0,e)=J:=by unfold s_;rw[aR h];rfl
     rw[this]
    .have:s_ (0,e)=decide (e.1=23):=by unfold s_;rw[bz h];rfl
     rw[this]
   rintro x rfl;exact aj (by rw[gU (by omega)])
 .rintro x rfl;exact dt (aj rfl)
theorem ak6 {w:WT} {l:Y ET} (a:TR (w,l)):mE (w,l)=M (0,0):=by
 have h1:=a.vl.t0;have c:=a.vl.t;dsimp only at h1 c;unfold mE;have:w.2.2.2.2.1.length=4\/w.2.2.2.2.1.length=3\/w.2.2.2.2.1.length=2\/w.2.2.2.2.1.length=1:=by omega
 rcases this with h|h|h|h
 .rw[ac2 a h];rfl
 .rw[Fh a (by omega),ac3 a h];rfl
 .rw[Fh a (by omega),Nb a (by omega),ac4 a h];rfl
 .rw[Fh a (by omega),Nb a (by omega),YW a (by omega),ac5 a h];rfl
theorem Zd {w:WT} {l:Y ET} (a:TR (w,l)):pM w=M (HS.zero w).t:=by
 have wb:=a.wb;dsimp only at wb;exact abg w (by have:=wb.c;unfold yn;omega) (by have:=wb.l;unfold yn;omega) (by have:=wb.f;unfold yn;omega) (by have:=wb.t;unfold yn;omega)
theorem acs {w:WT} {l:Y ET} (a:TR (w,l)) {i:Nat} (hi:i<l.length):sr (w,(Pj w (l.take i)).t,eN l i)=M ((Pj w (l.take (i+1))).t,vi w l i):=by
 have hl:=a.len;dsimp only at hl;have:=af0 (N0 a i (by omega)).1 (by omega) (Jf a hi) (FF a hi);rw[IC w hi];exact this
def tA {α:Type} (n:Nat) (f:Nat->α) (z:α) (i:Nat):Y α:=(dR n).map λk=>if k<i then f k else z
theorem yA {α:Type} (n:Nat) (f:Nat->α) (z:α) (i:Nat):(tA n f z i).length=n:=by simp[tA]
theorem Np {α:Type} {n:Nat} {f:Nat->α} {z:α} {i:Nat} (h:i<n):(tA n f z i).set i (f i)=tA n f z (i+1):=by
 unfold tA;apply dg
 .simp
 intro k h1 h2;simp only[ia,bx,dc]at h1;rw[qO];simp only[mO,kK];by_cases e:i=k
 .subst e;rw[aC rfl,aC (by omega)]
 .rw[ay e];by_cases g:k<i
  .rw[aC g,aC (by omega)]
  .rw[ay g,ay (by omega)]
theorem No {α:Type} (n:Nat) (f:Nat->α) (z:α):tA n f z 0=aB n z:=by unfold tA;simp[List.map_const']
theorem Tj {α:Type} (n:Nat) (f:Nat->α) (z:α):tA n f z n=(dR n).map f:=mm λk hk=>by rw[aC (nI.1 hk)]
abbrev csN (w:WT) (l:Y ET):Y η:=(dR l.length).map (vi w l)
theorem ae6 {w:WT} {l:Y ET} {i:Nat} (h:i<l.length):(csN w l).getD i []=vi w l i:=by
 rw[au,ba,Gv h];rfl
theorem Dv {w:WT} {l:Y ET} {i:Nat} (h:i<l.length):aI (T:=.sl (.int .i64)) (csN w l) (i:Int)=vi w l i:=by rw[rG];exact ae6 h
theorem Na {w:WT} {l:Y ET} (a:TR (w,l)):nz (w,l)=M (csN w l,0):=by
 have hl:=a.len;dsimp only at hl;refine cG ?_;unfold nz xl aX bN ck bA jf bH bO aV cR aE cH;refine aS (ak6 a) (c7 (aS (Zd a) (cV (cV (dx (by dsimp only[ak];omega) (dx (by omega) (bc (by simp;omega) (by omega) ?_)))))));refine jr l.length (by omega) (λi x=>x=((i:Int),(w,l),(Pj w (l.take i)).t,tA l.length (vi w l) [] i)) ?_ ?_ ?_
 .rintro i x hi rfl;refine dz ?_;refine cI (aT ?_);refine aS (acs a hi) ?_;refine aO (by dsimp only;omega) (by dsimp only;rw[yA];omega) (aO (by dsimp only;omega) (by dsimp only;rw[yA];omega) (aj ?_));dsimp only;rw[gU (by omega),dP,Np hi]
 .rintro x rfl;refine dt (aj ?_);dsimp only;rw[Tj]
 .show _=_;rw[No];rfl
def pH (x:Int×Int×Int×Int×Int×(η)×η):I (Bool):=
 (jn (bf x.2.1 3 (aE J) (aE (decide ((x.2.1:Int)=4)))) λa=>(M a))
def epN (l:Y ET) (i:Nat):ν:=((Dy l (dE l i).th i:Int)+1,((dE l i).th:Int))
theorem Vy (c:η) (a:Int) (u:Nat):fh (c,a,(u:Int))=M (decide (a<=c.getD u 0)):=by
 unfold fh;dsimp only;rw[xI];rfl
def KX (w:wM) (e:EV):Int×Bool:=if e.k=7\/e.k=11 then ((e.ob:Int),af) else if e.k=9 then ((e.ob:Int),J) else if e.k=16 then ((Wa w.2.2.1 e.ob:Nat),af) else (-1,af)
def JC (c:Nat->η) (p:Nat->Bool):Nat->η
 |0=>[]
 |i+1=>if p i=J then jl (JC c p i) (c i) else JC c p i
theorem abv (c:Nat->η) (p:Nat->Bool):∀i,(∀k,k<i->p k=af)->JC c p i=[]
 |0,_=>rfl
 |i+1,h=>by rw[JC,h i (by omega),ay (by simp)];exact abv c p i λk hk=>h k (by omega)
theorem Sz {c:Nat->η} {p:Nat->Bool} {i:Nat} (h:p i=J):JC c p (i+1)=jl (JC c p i) (c i):=by rw[JC,aC h]
theorem Fe {c:Nat->η} {p:Nat->Bool} {i:Nat} (h:p i=af):JC c p (i+1)=JC c p i:=by rw[JC,ay (by rw[h];simp)]
theorem ale (w:wM) (h:HS) (e:EV) (c:η):(jT w h e c).S=if e.k=20 then h.S.set e.ob c else h.S:=by
 unfold jT;simp only[];repeat' split
 all_goals first|rfl|omega
theorem alh (w:wM) (h:HS) (e:EV) (c:η):(jT w h e c).L=if (e.k=7\/e.k=11) then jat h.L e.ob c else if e.k=16 then jat h.L (Wa w.2.2.1 e.ob) c else h.L:=by
 unfold jT;simp only[];repeat' split
 all_goals first|rfl|omega
theorem alf (w:wM) (h:HS) (e:EV) (c:η):(jT w h e c).R=if e.k=9 then jat h.R e.ob c else h.R:=by
 unfold jT;simp only[];repeat' split
 all_goals first|rfl|omega
theorem alj (w:wM) (h:HS) (e:EV) (c:η):(jT w h e c).C=if e.k=4/\yw w.1 e.ob=J then jat h.C e.ob c else h.C:=by
 unfold jT;simp only[];repeat' split
 all_goals first|rfl|omega|(rename_i h1 h2;exact ct ⟨by assumption,by assumption⟩ h2)|(rename_i h1 h2;exact ct h2.2 h1)|(rename_i h1;exact ct h1.1 (by assumption))
theorem ali (w:wM) (h:HS) (e:EV) (c:η):(jT w h e c).F=if e.k=22 then jat h.F e.ob c else h.F:=by
 unfold jT;simp only[];repeat' split
 all_goals first|rfl|omega
theorem alc (w:wM) (h:HS) (e:EV) (c:η):(jT w h e c).X=if e.k=13 then jl h.X c else h.X:=by
 unfold jT;simp only[];repeat' split
 all_goals first|rfl|omega
theorem CH (l:Y η) (i:Nat) (c:η) (o:Nat) (h:i<l.length):(jat l i c).getD o []=if i=o then jl (l.getD o []) c else l.getD o []:=by
 unfold jat;rw[qC];by_cases e:i=o
 .subst e;rw[aC ⟨rfl,h⟩,aC rfl]
 .rw[ay λq=>e q.1,ay e]
abbrev pT (l:Y ET) (u k:Nat):Bool:=decide ((dE l k).th=u)
abbrev pS (l:Y ET) (u k:Nat):Bool:=decide ((dE l k).k=20/\(dE l k).ob=u)
abbrev pL (w:WT) (l:Y ET) (x:Int×Bool) (k:Nat):Bool:=decide (KX w (dE l k)=x)
abbrev pC (w:WT) (l:Y ET) (o k:Nat):Bool:=decide ((dE l k).k=4/\(dE l k).ob=o/\yw w.1 o=J)
abbrev pF (l:Y ET) (o k:Nat):Bool:=decide ((dE l k).k=22/\(dE l k).ob=o)
abbrev pX (l:Y ET) (k:Nat):Bool:=decide ((dE l k).k=13)
structure IN (w:WT) (l:List ET) (i:Nat) (h:HS):Prop where
 T:∀u,h.T.getD u []=JC (vi w l) (pT l u) i
 S:∀u,h.S.getD u []=JC (vi w l) (pS l u) i
 L:∀o:Nat,h.L.getD o []=JC (vi w l) (pL w l ((o:Int),af)) i
 R:∀o:Nat,h.R.getD o []=JC (vi w l) (pL w l ((o:Int),J)) i
 C:∀o,h.C.getD o []=JC (vi w l) (pC w l o) i
 F:∀o,h.F.getD o []=JC (vi w l) (pF l o) i
 X:h.X=JC (vi w l) (pX l) i
theorem Zn {w:wM} {e:EV} (h:e.k=7\/e.k=11):KX w e=((e.ob:Int),af):=by unfold KX;rw[aC h]
theorem Tv {w:wM} {e:EV} (h:e.k=9):KX w e=((e.ob:Int),J):=by unfold KX;rw[ay (by omega),aC h]
theorem VW {w:wM} {e:EV} (h:e.k=16):KX w e=((Wa w.2.2.1 e.ob:Int),af):=by unfold KX;rw[ay (by omega),ay (by omega),aC h]
theorem ahe {w:wM} {e:EV} (h:¬(e.k=7\/e.k=11)) (h1:¬e.k=9) (h2:¬e.k=16):KX w e=(-1,af):=by unfold KX;rw[ay h,ay h1,ay h2]
theorem IN.zero (w:WT) (l:Y ET):IN w l 0 (HS.zero w):=
 have r:∀n:Nat,∀u,(aB n ([]:η)).getD u []=[]:=λn=>oD.repl (P:=λx=>x=[]) rfl n
 ⟨r _,r _,λ_=>r _ _,λ_=>r _ _,r _,r _,rfl⟩
theorem IN.step {w:WT} {l:Y ET} {i:Nat} {h:HS} (a:IN w l i h) (n:Int) (o:Tb n h) (hh:h=Pj w (l.take i)) (hi:i<l.length) (ok:EOK w h (dE l i)) (s:(dE l i).k=20->∀k,k<i->pS l (dE l i).ob k=af):IN w l (i+1) (jT w h (dE l i) (vi w l i)):=by
 have hcT:LE (h.T.getD (dE l i).th []) (vi w l i):=by rw[hh];exact age w _ _
 have hc:En (n+1) (vi w l i):=by unfold vi;rw[<- hh];exact OP o ok.th4
 refine ⟨λu=>?_,λu=>?_,λx=>?_,λx=>?_,λx=>?_,λx=>?_,?_⟩
 .rw[agc,qC];by_cases e:(dE l i).th=u
  .rw[aC ⟨e,ok.th⟩,Sz (by simpa using e),<-a.T u,LE.jl (by rw[<- e];exact hcT)]
  .rw[ay λq=>e q.1,Fe (by simpa using e)];exact a.T u
 .rw[ale];by_cases k:(dE l i).k=20
  .rw[aC k,qC];by_cases e:(dE l i).ob=u
   .rw[aC ⟨e,by rw[o.lS];exact ok.sp (.inl k)⟩,Sz (by simp[k,e]),abv _ _ i (by rw[<- e];exact s k),ahi hc]
   .rw[ay λq=>e q.1,Fe (by simp[e])];exact a.S u
  .rw[ay k,Fe (by simp[k])];exact a.S u
 .rw[alh];by_cases k:(dE l i).k=7\/(dE l i).k=11
  .rw[aC k,CH _ _ _ _ (ok.lk (by omega))];by_cases e:(dE l i).ob=x
   .rw[aC e,Sz (by simp[Zn k,e]),<-a.L x]
   .rw[ay e,Fe (by simp[Zn k];omega)];exact a.L x
  rw[ay k];by_cases k2:(dE l i).k=16
  .rw[aC k2,CH _ _ _ _ (ok.cd (.inl k2)).2.2];by_cases e:Wa w.2.2.1 (dE l i).ob=x
   .rw[aC e,Sz (by simp[VW k2,e]),<-a.L x]
   .rw[ay e,Fe (by simp[VW k2];omega)];exact a.L x
  rw[ay k2,Fe]
  .exact a.L x
  .by_cases c:(dE l i).k=9
   .simp[Tv c]
   .simp[ahe k c k2]
 .rw[alf];by_cases k:(dE l i).k=9
  .rw[aC k,CH _ _ _ _ (by rw[o.lR];exact ok.lk (by omega))];by_cases e:(dE l i).ob=x
   .rw[aC e,Sz (by simp[Tv k,e]),<-a.R x]
   .rw[ay e,Fe (by simp[Tv k];omega)];exact a.R x
  rw[ay k,Fe]
  .exact a.R x
  .unfold pL KX;repeat' split
   all_goals first|omega|simp
 .rw[alj];by_cases k:(dE l i).k=4/\yw w.1 (dE l i).ob=J
  .rw[aC k,CH _ _ _ _ (ok.ce (.inr k.1)).1];by_cases e:(dE l i).ob=x
   .rw[aC e,Sz (by simp[k.1,e];rw[<- e];exact k.2),<-a.C x]
   .rw[ay e,Fe (by simp[e])];exact a.C x
  .rw[ay k,Fe]
   .exact a.C x
   .refine bz λq=>k ⟨q.1,by rw[q.2.1];exact q.2.2⟩
 .rw[ali];by_cases k:(dE l i).k=22
  .rw[aC k,CH _ _ _ _ (ok.fu (.inl k))];by_cases e:(dE l i).ob=x
   .rw[aC e,Sz (by simp[k,e]),<-a.F x]
   .rw[ay e,Fe (by simp[e])];exact a.F x
  .rw[ay k,Fe (by simp[k])];exact a.F x
 .rw[alc];by_cases k:(dE l i).k=13
  .rw[aC k,Sz (by simp[k]),<-a.X]
  .rw[ay k,Fe (by simp[k])];exact a.X
abbrev gT (th:Y (Int×Int×Bool)) (u:Int):Int×Int×Bool:=aI (T:=jF) th u
theorem ED {T:Ty} (xs:Y T.den) (j k:Int) (x:T.den) (hj:0<=j) (hk:0<=k) (h2:k<xs.length):aI (cF xs j x) k=if k=j then x else aI xs k:=by
 by_cases h:j<xs.length
 .exact rF xs j k x hj h hk
 .rw[ay (by omega)];unfold aI cF;rw[au,au,jW,ay (by omega)]
theorem wW {th:Y (Int×Int×Bool)} {t u:Int} (s:Int) (t0:0<=t) (c:0<=u) (a:u<th.length):gT (xK th t s) u=if u=t then (s,(gT th u).2) else gT th u:=by
 unfold xK gT;rw[ED _ _ _ _ t0 c a];split
 .rename_i h;subst h;rfl
 .rfl
theorem WG {th:Y (Int×Int×Bool)} {t u:Int} (s:Int) (t0:0<=t) (c:0<=u) (a:u<th.length):gT (cdP th t s) u=if u=t then ((gT th u).1,s,(gT th u).2.2) else gT th u:=by
 unfold cdP gT;rw[ED _ _ _ _ t0 c a];split
 .rename_i h;subst h;rfl
 .rfl
theorem WM {th:Y (Int×Int×Bool)} {t u:Int} (s:Bool) (t0:0<=t) (c:0<=u) (a:u<th.length):gT (atP th t s) u=if u=t then ((gT th u).1,(gT th u).2.1,s) else gT th u:=by
 unfold atP gT;rw[ED _ _ _ _ t0 c a];split
 .rename_i h;subst h;rfl
 .rfl
theorem al0 {u:Int} (c:0<=u):∀(l:η) (th:Y (Int×Int×Bool)),(∀x∈l,0<=x)->u<th.length->gT (Cw th l) u=if u∈l then (4,(gT th u).2) else gT th u
 |[],th,_,_=>by simp[Cw]
 |x::r,th,h,h2=>by
  have e:Cw th (x::r)=Cw (xK th x 4) r:=rfl;rw[e,al0 c r _ (λy q=>h y (cE _ q)) (by unfold xK;rw[bT];exact h2),wW 4 (h x (c4 ..)) c h2];by_cases a:u=x
  .subst a;simp
  .simp[a]
structure TH1 (k o v t u:Int) (g g':Int×Int×Bool):Prop where
 a:u=t->g.1≠0/\g.1≠3/\(k=16->g'.1=3/\g'.2.1=o)/\(k≠16->g'.1≠0/\g'.1≠3/\g'.1≠4)/\(k≠1->k≠17->g.1=2)
 b:u≠t->k=18->v=u->g.1=3/\g.2.1=o/\g'.1=4/\g'.2.1=o
 c:u≠t->k=19->g.1=3->g.2.1=o->g'.1=4/\g'.2.1=o
 d:u≠t->¬(k=18/\v=u)->¬(k=19/\g.1=3/\g.2.1=o)->g'.2.1=g.2.1/\(g'.1=g.1\/k=20/\o=u/\g.1=0/\g'.1=1)
 e:k=20->o=u->g'.1≠0
theorem TH1.same {k o v t u:Int} {g g':Int×Int×Bool} (h2:k≠1->k≠17->u=t->g.1=2) (e1:g'.1=g.1) (e2:g'.2.1=g.2.1) (n1:k≠1) (z:k≠17) (L:k≠16) (c:k≠20) (s:k=18->v=u->u=t) (q:k=19->g.1=3->g.2.1=o->u=t):TH1 k o v t u g g':=
 ⟨λh=>(by have:=h2 n1 z h;rw[e1];omega),λh h1 a=>(h (s h1 a)).elim,λh h1 a A=>(h (q h1 a A)).elim,λ_ _ _=>⟨e2,.inl e1⟩,λh=>(c h).elim⟩
theorem ai5 (w:WT) (s:SY) (t k o v:Int) (en:EN w s t k o) (rd:Vt w s t k o) (va:k=18->v=(qW w s t k o v).2) (u:Int) (c:0<=u) (a:u<s.2.2.2.length):TH1 k o v t u (gT s.2.2.2 u) (gT (qW w s t k o v).1.2.2.2 u):=by
 have t0:=en.t0;have r2:k≠1->k≠17->u=t->(gT s.2.2.2 u).1=2:=λh1 h2 L=>by subst L;exact rd.r h1 h2
 have nm:=en.nm;have k1:=nm.k1;have k2:=nm.k2;obtain⟨s1,s2,z,th⟩:=s;dsimp only at a r2;change TH1 k o v t u (gT th u) (gT (qW w (s1,s2,z,th) t k o v).1.2.2.2 u);by_cases a1:k=1
 .subst a1;have e:gT (qW w (s1,s2,z,th) t 1 o v).1.2.2.2 u=if u=t then (2,(gT th u).2) else gT th u:=wW 2 t0 c a
  rw[e];refine ⟨λh=>?_,λ_ h=>by omega,λ_ h=>by omega,λh _ _=>by rw[ay h];exact⟨rfl,.inl rfl⟩,λh=>by omega⟩;have b:=rd.b rfl;rw[aC h];subst h;have b:(gT th u).1=1:=b;dsimp only;omega
 by_cases a2:k=2
 .subst a2;have e:gT (qW w (s1,s2,z,th) t 2 o v).1.2.2.2 u=if u=t then (5,(gT th u).2) else gT th u:=wW 5 t0 c a
  rw[e];refine ⟨λh=>?_,λ_ h=>by omega,λ_ h=>by omega,λh _ _=>by rw[ay h];exact⟨rfl,.inl rfl⟩,λh=>by omega⟩;have:=r2 (by omega) (by omega) h;rw[aC h];dsimp only;omega
 by_cases a14:k=14\/k=15
 .have e:∃b,gT (qW w (s1,s2,z,th) t k o v).1.2.2.2 u=if u=t then ((gT th u).1,(gT th u).2.1,b) else gT th u:=by
   rcases a14 with rfl|rfl
   .exact⟨J,WM J t0 c a⟩
   .exact⟨af,WM af t0 c a⟩
  obtain⟨b,e⟩:=e;rw[e];refine TH1.same r2 (by split<;>rfl) (by split<;>rfl) a1 (by omega) (by omega) (by omega) (λh=>by omega) λh=>by omega
 by_cases a16:k=16
 .subst a16;have e:gT (qW w (s1,s2,z,th) t 16 o v).1.2.2.2 u=if u=t then (3,o,(gT th u).2.2) else gT th u:=by
   have:gT (cdP (xK th t 3) t o) u=_:=WG o t0 c (by unfold xK;rw[bT];exact a);refine Eq.trans this ?_;rw[wW 3 t0 c a];split<;>rfl
  rw[e];refine ⟨λh=>?_,λ_ h=>by omega,λ_ h=>by omega,λh _ _=>by rw[ay h];exact⟨rfl,.inl rfl⟩,λh=>by omega⟩;have:=r2 (by omega) (by omega) h;rw[aC h];exact⟨by omega,by omega,λ_=>⟨rfl,rfl⟩,λh=>(h rfl).elim,λ_ _=>this⟩
 by_cases a17:k=17
 .subst a17;have e:gT (qW w (s1,s2,z,th) t 17 o v).1.2.2.2 u=if u=t then (2,0,(gT th u).2.2) else gT th u:=by
   have:gT (cdP (xK th t 2) t 0) u=_:=WG 0 t0 c (by unfold xK;rw[bT];exact a);refine Eq.trans this ?_;rw[wW 2 t0 c a];split<;>rfl
  rw[e];refine ⟨λh=>?_,λ_ h=>by omega,λ_ h=>by omega,λh _ _=>by rw[ay h];exact⟨rfl,.inl rfl⟩,λh=>by omega⟩;have b:=(rd.wk rfl).1;rw[aC h];subst h;have b:(gT th u).1=4:=b;dsimp only;omega
 by_cases a18:k=18
 .subst a18;have va:=va rfl;rw[E9]at va ⊢;dsimp only at va ⊢;by_cases hl:(wl th o th.length).length=0
  .rw[aC hl]at va ⊢;dsimp only at va ⊢;exact TH1.same r2 rfl rfl a1 (by omega) (by omega) (by omega) (λ_ h=>by omega) λh=>by omega
  .rw[ay hl]at va ⊢;dsimp only at va ⊢;have hv:v∈wl th o th.length:=by
    unfold Bc at va;rw[ay hl]at va;split at va
    .rename_i h;simpa using h
    .rw[va];exact bM (T:=.int .i64) (by omega) (by omega)
   rw[<- va];obtain⟨v0,v1,A⟩:=rc.1 hv;unfold HO at A;simp only[al,bL]at A;rw[wW 4 v0 c a];refine ⟨λh=>?_,λh _ h2=>?_,λ_ h=>by omega,λh h2 _=>?_,λh=>by omega⟩
   .have:=r2 (by omega) (by omega) h;rw[ay (λq=>by rw[q]at this;exact ct (this.symm.trans A.1) (by decide))];omega
   .subst h2;rw[aC rfl];exact⟨A.1,A.2,rfl,A.2⟩
   .rw[ay λq=>h2 ⟨rfl,q.symm⟩];exact⟨rfl,.inl rfl⟩
 by_cases Z:k=19
 .subst Z;have e:gT (qW w (s1,s2,z,th) t 19 o v).1.2.2.2 u=if u∈wl th o th.length then (4,(gT th u).2) else gT th u:=al0 c _ th (λx hx=>(rc.1 hx).1) a
  rw[e];have hm:u∈wl th o th.length↔(gT th u).1=3/\(gT th u).2.1=o:=by
   rw[rc];unfold HO;simp only[al,bL];exact⟨λh=>h.2.2,λh=>⟨c,a,h⟩⟩
  refine ⟨λh=>?_,λ_ h=>by omega,λh _ L h4=>?_,λh _ L=>?_,λh=>by omega⟩
  .have:=r2 (by omega) (by omega) h;rw[ay (λq=>by have:=(hm.1 q).1;omega)];omega
  .rw[aC (hm.2 ⟨L,h4⟩)];exact⟨rfl,h4⟩
  .rw[ay λq=>L ⟨rfl,hm.1 q⟩];exact⟨rfl,.inl rfl⟩
 by_cases U:k=20
 .subst U;have sp:=rd.sp rfl;have o0:=(nm.th (.inl rfl)).1;have e:gT (qW w (s1,s2,z,th) t 20 o v).1.2.2.2 u=if u=o then (1,(gT th u).2) else gT th u:=wW 1 o0 c a
  rw[e];refine ⟨λh=>?_,λ_ h=>by omega,λ_ h=>by omega,λh _ _=>?_,λ_ h=>?_⟩
  .have:=r2 (by omega) (by omega) h;rw[ay (λq=>sp.1 (by omega))];omega
  .by_cases q:u=o
   .subst q;rw[aC rfl];exact⟨rfl,.inr ⟨rfl,rfl,sp.2,rfl⟩⟩
   .rw[ay q];exact⟨rfl,.inl rfl⟩
  .rw[aC h.symm];show (1:Int)≠0;omega
 have e:(qW w (s1,s2,z,th) t k o v).1.2.2.2=th:=by
  unfold qW;rw[ay a1,ay a2];repeat' split
  all_goals first|rfl|omega
 rw[e];exact TH1.same r2 rfl rfl a1 a17 a16 U (λh=>(a18 h).elim) λh=>(Z h).elim
def pvN (l:Y ET) (u:Nat):Nat->Int
 |0=> -1
 |i+1=>if (dE l i).th=u then (i:Int) else pvN l u i
def mtN (l:Y ET) (u i:Nat) (p:Int):Prop:=0<=p/\(dE l p.toNat).k=16/\((dE l i).k=18/\(dE l i).va=u\/(dE l i).k=19/\(dE l i).ob=(dE l p.toNat).ob)
def Pe (l:Y ET) (u:Nat):Nat->Int
 |0=> -1
 |i+1=>if (dE l i).th=u then -1 else if 0<=Pe l u i then Pe l u i else @ite _ (mtN l u i (pvN l u i)) (Classical.propDecidable _) (i:Int) (-1)
theorem acj {l:Y ET} {u i:Nat} (h:(dE l i).th=u):Pe l u (i+1)= -1:=by rw[Pe,aC h]
theorem ack {l:Y ET} {u i:Nat} (h:¬(dE l i).th=u) (g:0<=Pe l u i):Pe l u (i+1)=Pe l u i:=by rw[Pe,ay h,aC g]
theorem acm {l:Y ET} {u i:Nat} (h:¬(dE l i).th=u) (g:Pe l u i= -1) (m:mtN l u i (pvN l u i)):Pe l u (i+1)=i:=by rw[Pe,ay h,ay (by omega),aC m]
theorem acl {l:Y ET} {u i:Nat} (h:¬(dE l i).th=u) (g:Pe l u i= -1) (m:¬mtN l u i (pvN l u i)):Pe l u (i+1)= -1:=by rw[Pe,ay h,ay (by omega),ay m]
theorem FD {α:Type} (l:Y α) (f:Nat->α->α) (u:Nat) (d:α) (h:u<l.length):(l.mapIdx f).getD u d=f u (l.getD u d):=by
 rw[au,DU,ax h,au,ax h];rfl
theorem ald (w:wM) (h:HS) (e:EV) (c:η) (u:Nat) (hu:u<h.W.length) (A:h.N.length=h.W.length):(jT w h e c).W.getD u 0=if e.k=16/\e.th=u then (e.ob:Int) else if e.k=18/\e.va=u\/e.k=19/\h.W.getD u 0=e.ob then -1 else h.W.getD u 0:=by
 obtain⟨th,k,ob,va⟩:=e;dsimp only;by_cases a:k=16
 .subst a;have e:(jT w h ⟨th,16,ob,va⟩ c).W=h.W.set th ob:=rfl;rw[e,qC];by_cases q:th=u
  .rw[aC ⟨q,by omega⟩,aC ⟨rfl,q⟩]
  .rw[ay λx=>q x.1,ay λx=>q x.2,ay (by omega)]
 rw[ay λx=>a x.1];by_cases z:k=18
 .subst z;have e:jT w h ⟨th,18,ob,va⟩ c=if 0<=va/\va<h.N.length then {h with T:=h.T.set th c,N:=h.N.set va.toNat c,W:=h.W.set va.toNat (-1)} else {h with T:=h.T.set th c}:=rfl
  rw[e];split
  .show (h.W.set va.toNat (-1)).getD u 0=_;rw[qC];by_cases q:va=u
   .rw[aC ⟨by omega,by omega⟩,aC (.inl ⟨rfl,q⟩)]
   .rw[ay (by omega),ay (by omega)]
  .rw[ay (by omega)]
 by_cases s:k=19
 .subst s;have e:(jT w h ⟨th,19,ob,va⟩ c).W=h.W.mapIdx λu x=>if decide (h.W.getD u 0=(ob:Int))=J then -1 else x:=rfl
  rw[e,FD _ _ _ _ hu];by_cases q:h.W.getD u 0=ob
  .rw[aC (aR q),aC (.inr ⟨rfl,q⟩)]
  .rw[ay (by simpa using q),ay (by omega)]
 rw[ay (by omega)];have e:(jT w h ⟨th,k,ob,va⟩ c).W=h.W:=by
  unfold jT;simp only[];repeat' split
  all_goals first|rfl|omega
 rw[e]
theorem alg (w:wM) (h:HS) (e:EV) (c:η) (u:Nat) (hu:u<h.N.length):(jT w h e c).N.getD u []=if e.k=18/\e.va=u\/e.k=19/\h.W.getD u 0=e.ob then c else h.N.getD u []:=by
 obtain⟨th,k,ob,va⟩:=e;dsimp only;by_cases s:k=18
 .subst s;have e:jT w h ⟨th,18,ob,va⟩ c=if 0<=va/\va<h.N.length then {h with T:=h.T.set th c,N:=h.N.set va.toNat c,W:=h.W.set va.toNat (-1)} else {h with T:=h.T.set th c}:=rfl
  rw[e];split
  .show (h.N.set va.toNat c).getD u []=_;rw[qC];by_cases q:va=u
   .rw[aC ⟨by omega,by omega⟩,aC (.inl ⟨rfl,q⟩)]
   .rw[ay (by omega),ay (by omega)]
  .rw[ay (by omega)]
 by_cases a:k=19
 .subst a;have e:(jT w h ⟨th,19,ob,va⟩ c).N=h.N.mapIdx λu x=>if decide (h.W.getD u 0=(ob:Int))=J then c else x:=rfl
  rw[e,FD _ _ _ _ hu];by_cases q:h.W.getD u 0=ob
  .rw[aC (aR q),aC (.inr ⟨rfl,q⟩)]
  .rw[ay (by simpa using q),ay (by omega)]
 rw[ay (by omega)];have e:(jT w h ⟨th,k,ob,va⟩ c).N=h.N:=by
  unfold jT;simp only[];repeat' split
  all_goals first|rfl|omega
 rw[e]
abbrev gN9 (w:WT) (l:Y ET) (i u:Nat):Int×Int×Bool:=gT (M4 w (l.take i)).1.2.2.2 (u:Int)
structure WI (w:WT) (l:List ET) (i:Nat) (h:HS) (u:Nat) (g:Int×Int×Bool):Prop where
 W:h.W.getD u 0=if g.1=3 then g.2.1 else -1
 p:g.1=3\/g.1=4->0<=pvN l u i/\(dE l (pvN l u i).toNat).k=16/\((dE l (pvN l u i).toNat).ob:Int)=g.2.1
 a:g.1=3->Pe l u i= -1
 n:g.1=4->0<=Pe l u i/\h.N.getD u []=vi w l (Pe l u i).toNat
 s:g.1=0->∀k,k<i->pS l u k=af
theorem ahc:∀n,∀x∈Xc n,x.1=0\/x.1=1
 |0,x,h=>by cases h
 |n+1,x,h=>by
  rcases bh.1 h with rfl|h
  .exact .inr rfl
  .rw[pB h];exact .inl rfl
theorem WI.zero (w:WT) (l:Y ET) (u:Nat) (hu:u<w.2.2.2.2.1.length):WI w l 0 (HS.zero w) u (gN9 w l 0 u):=by
 have h1:(gN9 w l 0 u).1=0\/(gN9 w l 0 u).1=1:=ahc _ _ (bM (T:=jF) (xs:=Xc w.2.2.2.2.1.length) (j:=(u:Int)) (by omega) (by rw[Hm];omega));have hW:(HS.zero w).W.getD u 0= -1:=by
  have:(aB w.2.2.2.2.1.length (-1:Int)).getD u 0= -1:=by rw[au,gQ,aC hu];rfl
  exact this
 exact⟨by rw[hW,ay (by omega)],λh=>by omega,λh=>by omega,λh=>by omega,λ_ k hk=>by omega⟩
theorem WI.step {w:WT} {l:Y ET} {i:Nat} {h:HS} {u:Nat} (a:WI w l i h u (gN9 w l i u)) (hi:i<l.length) (sc:SCx w (l.take i) (M4 w (l.take i)).1 (M4 w (l.take i)).2.1 (M4 w (l.take i)).2.2 (eN l i)) (et:EvT (dE l i) (eN l i)) (hu:u<w.2.2.2.2.1.length) (h1:h.W.length=w.2.2.2.2.1.length) (h2:h.N.length=w.2.2.2.2.1.length):WI w l (i+1) (jT w h (dE l i) (vi w l i)) u (gN9 w l (i+1) u):=by
 have en:=sc.en;have eg:gN9 w l (i+1) u=gT (qW w (M4 w (l.take i)).1 (eN l i).1 (eN l i).2.1 (eN l i).2.2.1 (eN l i).2.2.2.1).1.2.2.2 (u:Int):=by unfold gN9;rw[Sg w hi]
 have T1:TH1 (eN l i).2.1 (eN l i).2.2.1 (eN l i).2.2.2.1 (eN l i).1 (u:Int) (gN9 w l i u) (gN9 w l (i+1) u):=by
  rw[eg];exact ai5 w (M4 w (l.take i)).1 (eN l i).1 (eN l i).2.1 (eN l i).2.2.1 (eN l i).2.2.2.1 en sc.rd (λh=>sc.va.el (by omega) (by omega) (by omega) (by omega) (by omega)) (u:Int) (by omega) (by rw[en.e3];omega)
 clear eg;have eW:=ald w h (dE l i) (vi w l i) u (by omega) (by omega);have eN9:=alg w h (dE l i) (vi w l i) u (by omega);have qt:=et.th;have Z:=et.k;have qv:=et.va;have U:(dE l i).k=16\/(dE l i).k=19\/(dE l i).k=20->(eN l i).2.2.1=((dE l i).ob:Int):=λh=>et.ob (by rcases h with h|h|h<;>rw[h]<;>decide)
 have pv':pvN l u (i+1)=if (dE l i).th=u then (i:Int) else pvN l u i:=rfl
 have ps:pS l u i=decide ((dE l i).k=20/\(dE l i).ob=u):=rfl;clear en sc;obtain⟨aW,ap,aa,an,as'⟩:=a;obtain⟨ta,tb,tc,td,te⟩:=T1;generalize gN9 w l (i+1) u=g' at*
 generalize gN9 w l i u=g at*
 by_cases c:(dE l i).th=u
 .obtain⟨b1,b2,b3,b4,_⟩:=ta (by rw[qt,c]);have w0:Pe l u (i+1)= -1:=acj c;have hW':h.W.getD u 0= -1:=by rw[aW,ay b2]
  by_cases s:(dE l i).k=16
  .obtain⟨c1,c2⟩:=b3 (by rw[Z,s];rfl);refine ⟨by rw[eW,aC ⟨s,c⟩,aC c1,c2,U (.inl s)],λ_=>?_,λ_=>w0,λh=>by omega,λh=>by omega⟩;rw[pv',aC c,cB];exact⟨by omega,s,by rw[c2,U (.inl s)]⟩
  .obtain⟨c1,c2,c3⟩:=b4 (by rw[Z];omega);refine ⟨?_,λh=>by omega,λh=>by omega,λh=>by omega,λh=>by omega⟩;rw[eW,ay (λx=>s x.1),ay c2,hW'];split<;>rfl
 have hut:(u:Int)≠(eN l i).1:=by rw[qt];omega
 rw[ay c]at pv';rw[ay (λx=>c x.2)]at eW;by_cases A:(dE l i).k=18/\(dE l i).va=u\/(dE l i).k=19/\h.W.getD u 0=(dE l i).ob
 .have B:g.1=3/\g'.1=4/\g'.2.1=g.2.1/\((dE l i).k=19->g.2.1=(dE l i).ob):=by
   rcases A with ⟨k,v⟩|⟨k,v⟩
   .obtain⟨L,z,d3,d4⟩:=tb hut (by rw[Z,k];rfl) (by rw[qv,v]);exact⟨L,d3,by rw[z,d4],λq=>by omega⟩
   .have g3:g.1=3:=by
     rw[aW]at v;split at v
     .assumption
     .omega
    rw[aW,aC g3]at v;obtain⟨L,z⟩:=tc hut (by rw[Z,k];rfl) g3 (by rw[v,U (.inr (.inl k))]);exact⟨g3,L,by rw[z,v,U (.inr (.inl k))],λ_=>v⟩
  obtain⟨L,z,d3,d4⟩:=B;obtain⟨p1,p2,p3⟩:=ap (.inl L);have hw:=acm c (aa L) ⟨p1,p2,by
   rcases A with A|⟨k,_⟩
   .exact .inl A
   .exact .inr ⟨k,by have:=d4 k;omega⟩⟩
  rw[aC A]at eW eN9;refine ⟨by rw[eW,ay (by omega)],λ_=>by rw[pv',d3];exact⟨p1,p2,p3⟩,λh=>by omega,λ_=>by rw[hw,cB];exact⟨by omega,eN9⟩,λh=>by omega⟩
 rw[ay A]at eW eN9;have nv:¬((eN l i).2.1=18/\(eN l i).2.2.2.1=(u:Int)):=λq=>A (.inl ⟨by omega,by rw[<- qv];exact q.2⟩)
 have nw:¬((eN l i).2.1=19/\g.1=3/\g.2.1=(eN l i).2.2.1):=λq=>A (.inr ⟨by omega,by rw[aW,aC q.2.1,q.2.2,U (.inr (.inl (by omega)))]⟩)
 obtain⟨L,z⟩:=td hut nv nw;have nm:g.1=3->¬mtN l u i (pvN l u i):=λq ⟨_,_,m⟩=>by
  obtain⟨_,_,p3⟩:=ap (.inl q);rcases m with m|⟨k,m⟩
  .exact A (.inl m)
  .exact nw ⟨by omega,q,by rw[U (.inr (.inl k)),m,p3]⟩
 refine ⟨?_,λq=>?_,λq=>?_,λq=>?_,λq k hk=>?_⟩
 .rw[eW,aW,L];rcases z with z|z
  .rw[z]
  .rw[ay (by omega),ay (by omega)]
 .rw[pv',L];exact ap (by omega)
 .have q:g.1=3:=by omega
  exact acl c (aa q) (nm q)
 .have q:g.1=4:=by omega
  obtain⟨n1,n2⟩:=an q;rw[ack c n1,eN9];exact⟨n1,n2⟩
 .have q0:g.1=0:=by omega
  by_cases e:k=i
  .subst e;rw[ps];exact bz λr=>te (by rw[Z,r.1];rfl) (by rw[U (.inr (.inr r.1)),r.2]) q
  .exact as' q0 k (by omega)
theorem YZ (x:ET):pH x=M (decide (x.2.1=3\/x.2.1=4)):=by
 refine cG ?_;unfold pH bf aE;refine gO (aK (λh=>aj (aj ?_)) λh=>aj (aj ?_))
 .exact (aR (.inl h)).symm
 .by_cases q:x.2.1=4<;>simp[h,q]
def Vj (e:EV):Bool:=decide (e.k=3\/e.k=4)
theorem DQ {w:WT} {l:Y ET} (a:TR (w,l)) {j:Nat} (hj:j<l.length):pH (eN l j)=M (Vj (dE l j)):=by
 rw[YZ,(FF a hj).k];unfold Vj;congr 1;rw[decide_eq_decide];omega
def fL (p:Nat->Bool) (i:Nat):η:=((dR i).filter p).map aN
theorem fm {φ:PM} {O:Nat->Prop} {w:World} {v u:Value} (h:cM φ O w (.f (.raw v)) u):u=v:=by
 cases h with
 |f h=>cases h;rfl
theorem tS (h:HF) (nw:HF):eV h [] nw=h:=by funext t;simp[eV]
theorem Gp:∀{l:ξ},Kd l=J->∀v∈l,v.oneCell'=J
 |[],_,v,hv=>by cases hv
 |x::r,h,v,hv=>by
  simp only[Kd,al]at h;rcases bh.1 hv with rfl|hv
  .exact h.1
  .exact Gp h.2 v hv
theorem UY {φ:PM} {O:Nat->Prop} {w:World} (v:Value):cM φ O w (EZ v) v:=by
 unfold EZ;split
 .rename_i vs;split
  .rename_i h1;refine cM.agg (vs:=vs.toList) (by simp) (λx a=>?_) (λj x v a hv=>?_)
   .obtain⟨u,hu,rfl⟩:=db.1 a;exact Gp h1 u hu
   .rw[ba,hv]at a;simp only[ca,ah]at a;subst a;exact .f (.raw _)
  .exact .f (.raw _)
 .exact .f (.raw _)
theorem tF {φ:PM} {E:Nat->Prop} {h':HF} {w:World} {e:zJ} {a:Act} {xs:Array Operand} (hrep:qX φ E h' w) (h:∀t,.tmp t∈xs->∀y,e.get t=M y->cM φ (tot E φ h') w y (a.tmps.getD t undef)) {x:Operand} {y:AV} (q:x∈xs) (c:mP e x=M y):cM φ (tot E φ h') w y (a.eval x):=by
 cases x with
 |tmp t=>exact h t q y c
 |const v=>simp only[mP,ah]at c;subst c;exact UY v
 |func g=>
  simp only[mP,ah]at c;subst c;exact cM.clo (vs:=[]) (g:=g) (cells:=[]) rfl (by intro j x v q;simp at q)
 |global g=>
  simp only[mP]at c;cases hg:G g with
  |none=>rw[hg]at c;cases c
  |some cells=>rw[hg]at c;simp only[ah]at c;subst c;exact .f (hrep.gl g cells hg)
abbrev Vs (φ:PM) (E:Nat->Prop) (h':HF) (w:World) (a:Act) (e:zJ) (o:Oper):Prop:=∀x y,x∈o.op.operands->mP e x=M y->cM φ (tot E φ h') w y (a.eval x)
theorem gM.reads {P:Program} {o:Oper} {e:zJ} {h:HF} {val:AV} {rd:ι} {nw:HF}
 (hv:∀(φ:PM) (E:Nat->Prop) (h':HF) (w:World) (a:Act),(∀i∈rd,h' i=h i)->Vs φ E h' w a e o->qX φ E h' w->
   ∃v,(execOp a.eval o).run P w= .ok (.value v) w/\cM φ (tot E φ h') w val v):gM P o e.get h ⟨val,rd,[],nw,[]⟩:=by
 intro φ E h' w a h1 h2 z c A;obtain⟨v,r,rel⟩:=hv φ E h' w a h1 (λx y s q=>tF c z s q) c;unfold Hh;rw[r];refine ⟨v,φ,rfl,?_,λ_ _ h=>.inl h,?_,?_⟩<;>rw[tS]
 .exact je.refl _ _ _
 .exact c
 .exact rel
theorem dA {x:AV} {R:B3} (h:rv x=M R):R=⟨x,[],[],[],[]⟩:=by simp only[rv,ah]at h;exact h.symm
section pure
variable {P:Program} {o:Oper} {e:zJ} {h:oh} {nx:Nat} {R:B3}
theorem alw {x:Operand} (c:o.op= .move x\/o.op= .assign x) (q:eL (.mv x) e h nx=M R):gM P o e.get h.get R.eff:=by
 simp only[eL]at q;split at q
 .rename_i v hv;rw[dA q];exact gM.reads λφ E h' w a _ hop _=>⟨a.eval x,by unfold execOp;rcases c with c|c<;>rw[c]<;>rfl,hop x v (by rcases c with c|c<;>rw[c]<;>simp[Op.operands]) hv⟩
 .cases q
theorem aig {c x y:Operand} (s:o.op= .pick c x y) (q:eL (.pick c x y) e h nx=M R):gM P o e.get h.get R.eff:=by
 simp only[eL]at q;split at q
 .rename_i t hc;split at q
  .rename_i v hv;rw[dA q];refine gM.reads λφ E h' w a _ hop _=>?_
   have hcv:=fm (hop c _ (by rw[s];simp[Op.operands]) hc);refine ⟨a.eval (if t then x else y),?_,hop _ v (by rw[s];cases t<;>simp[Op.operands]) hv⟩;unfold execOp;rw[s];simp only[hcv];cases t<;>rfl
  .cases q
 .cases q
theorem aih {x:Operand} (c:o.op= .nilCheck x) (q:eL (.nilc x) e h nx=M R):gM P o e.get h.get R.eff:=by
 simp only[eL]at q;split at q
 .rename_i id off A;rw[dA q];refine gM.reads λφ E h' w a _ hop _=>?_
  have h1:=hop x _ (by rw[c];simp[Op.operands]) A;generalize s:a.eval x=z at h1;cases h1 with
  |ptr hφ=>exact⟨_,by unfold execOp;rw[c];simp only[s];rfl,.ptr hφ⟩
 .rename_i cells off A;rw[dA q];refine gM.reads λφ E h' w a _ hop _=>?_
  have h1:=hop x _ (by rw[c];simp[Op.operands]) A;generalize s:a.eval x=z at h1;cases h1 with
  |f h1=>
   have h2:=h1;cases h2 with
   |ptr _ _ b base us hO hb hcl hu hr=>exact⟨_,by unfold execOp;rw[c];simp only[s];rfl,.f h1⟩
 .rename_i g cap A;rw[dA q];refine gM.reads λφ E h' w a _ hop _=>?_
  have h1:=hop x _ (by rw[c];simp[Op.operands]) A;generalize s:a.eval x=z at h1;cases h1 with
  |clo hl hr=>exact⟨_,by unfold execOp;rw[c];simp only[s];rfl,.clo hl hr⟩
 .cases q
theorem alu {x:Operand} {t:TypeId} (q:o.op= .unOp .not t x) (c:eL (.not x) e h nx=M R):gM P o e.get h.get R.eff:=by
 simp only[eL]at c;split at c
 .rename_i b s;rw[dA c];refine gM.reads λφ E h' w a _ hop _=>?_
  have h1:=fm (hop x _ (by rw[q];simp[Op.operands]) s);exact⟨_,by unfold execOp;rw[q];simp only[h1];rfl,.f (.raw _)⟩
 .cases c
theorem yr (k:IntKind) (n:Int):bl k n=k.wrap n:=by
 rw[Hk];unfold L2;split
 .split
  .rename_i h;simp only[cX,al,bL]at h;have:oV .i64 n=if n%18446744073709551616≥9223372036854775808 then n%18446744073709551616-18446744073709551616 else n%18446744073709551616:=by
    simp[oV,IntKind.bits,IntKind.signed]
   rw[this];split<;>omega
  .rfl
 .split
  .rename_i h;simp only[cX,al,bL]at h;have:oV .u8 n=n%256:=by
    simp[oV,IntKind.bits,IntKind.signed]
   rw[this];omega
  .rfl
 .rfl
theorem aip {x:Operand} {s d:TypeId} {k k':IntKind} (q:o.op= .convert s d x) (hs:P.underlying s=M (.int k')) (hd:P.underlying d=M (.int k)) (c:eL (.conv k x) e h nx=M R):gM P o e.get h.get R.eff:=by
 simp only[eL]at c;split at c
 .rename_i A n z;rw[dA c];refine gM.reads λφ E h' w a _ hop _=>?_
  have h1:=fm (hop x _ (by rw[q];simp[Op.operands]) z);refine ⟨_,?_,.f (.raw _)⟩;unfold execOp;rw[q];simp[h1,convert,run_underlying hs,run_underlying hd,Conv.intToInt,yr]
 .cases c
theorem OZ (a:ByteArray):a.toList=a.data.toList:=by
 first|exact ByteArray.toList_eq a|simp[ByteArray.toList]|rfl
theorem Zl {op:BinOp} {t:TypeId} {u v r:Value} (hr:tG op u v=M r) (x y:Operand) (w:World):
 (do eqGuard op t x y u v;binOp op t u v:Sem Value).run P w= .ok r w:=by
 unfold tG at hr;split at hr
 .rename_i k a k' b;split at hr
  .rename_i hk;have c:k=k':=by simpa using hk
   subst c;split at hr<;>first|(simp only[ah]at hr;subst hr;simp[eqGuard,binOp,Op.intCmp,Op.intArith,yr,cX,fK];done)|(split at hr<;>first|(cases hr;done)|(rename_i hb;simp only[ah]at hr;subst hr;simp[eqGuard,binOp,Op.intDiv,yr,show b≠0 from by simpa using hb];done))|(cases hr;done)
  .cases hr
 .rename_i a b;split at hr<;>first|(simp only[ah]at hr;subst hr;simp[eqGuard,binOp,Op.stringOp,r7,OZ];done)|(cases hr;done)
 .cases hr
theorem afz {s:Sem Value} {r:Value} {w w':World} (hs:s.run P w= .ok r w'):(do let x<-s;pure (Next.value x):Sem Next).run P w= .ok (.value r) w':=by
 simp[hs]
theorem agt {op:BinOp} {x y:Operand} {t t':TypeId} (q:o.op= .binOp op t x y t') (c:eL (.bin op x y) e h nx=M R):gM P o e.get h.get R.eff:=by
 simp only[eL]at c;split at c
 .rename_i u v z s;split at c
  .rename_i r hr;rw[dA c];refine gM.reads λφ E h' w a _ hop _=>?_
   have h1:=fm (hop x _ (by rw[q];simp[Op.operands]) z);have h2:=fm (hop y _ (by rw[q];simp[Op.operands]) s);refine ⟨r,?_,.f (.raw _)⟩;unfold execOp;rw[q];simp only[h1,h2];exact afz (Zl (P:=P) (t:=t) hr x y w)
  .cases c
 .cases c
theorem Uv {t:TypeId} (hu:P.underlying t=M .bool) (u v:Bool) (w:World):(Op.equal t (.bool u) (.bool v)).run P w= .ok (u==v) w:=by
 have key:∀d,(Op.equalIn (d+1) t (.bool u) (.bool v)).run P w= .ok (u==v) w:=λd=>by simp[Op.equalIn,run_underlying hu]
 exact key 9999
theorem Q6 {t el:TypeId} (hu:P.underlying t=M (.slice el)) (A:I Addr) (n c:Nat) (w:World):(Op.equal t (.slice A n c) (.slice D 0 0)).run P w= .ok A.isNone w:=by
 have key:∀d,(Op.equalIn (d+1) t (.slice A n c) (.slice D 0 0)).run P w= .ok A.isNone w:=λd=>by cases A<;>simp[Op.equalIn,run_underlying hu]
 exact key 9999
theorem ags {neg:Bool} {op:BinOp} {x y:Operand} {t t':TypeId} (q:o.op= .binOp op t x y t') (hop:op=if neg then .neq else .eql) (hu:P.underlying t=M .bool) (c:eL (.eqb neg x y) e h nx=M R):gM P o e.get h.get R.eff:=by
 simp only[eL]at c;split at c
 .rename_i u v z s;rw[dA c];refine gM.reads λφ E h' w a _ hp _=>?_
  have h1:=fm (hp x _ (by rw[q];simp[Op.operands]) z);have h2:=fm (hp y _ (by rw[q];simp[Op.operands]) s);refine ⟨_,?_,.f (.raw _)⟩;unfold execOp;rw[q];simp only[h1,h2];subst hop;cases neg<;>simp[eqGuard,binOp,Uv hu]
 .cases c
theorem WZ {neg:Bool} {op:BinOp} {x y:Operand} {t t' el:TypeId} (U:o.op= .binOp op t x y t') (hop:op=if neg then .neq else .eql) (Z:y= .const (.slice D 0 0)) (hu:P.underlying t=M (.slice el)) (s:eL (.isnil neg x) e h nx=M R):gM P o e.get h.get R.eff:=by
 have key:∀(v:Value) (w:World) (ρ:Operand->Value) (A:I Addr) (n c:Nat),ρ x= .slice A n c->ρ y= .slice D 0 0->(execOp ρ o).run P w= .ok (.value (.bool (A.isNone !=neg))) w:=by
  intro v w ρ A n c h1 h2;unfold execOp;rw[U];simp only[h1,h2];subst hop;cases neg<;>simp[eqGuard,binOp,Q6 hu]
 have hyv:∀a:Act,a.eval y= .slice D 0 0:=λa=>by rw[Z];rfl
 simp only[eL]at s;split at s
 .rename_i id sz n q;rw[dA s];refine gM.reads λφ E h' w a _ hp _=>?_
  have h1:=hp x _ (by rw[U];simp[Op.operands]) q;generalize L:a.eval x=z at h1;cases h1 with
  |row hφ hn hc hs=>exact⟨_,key (.bool J) w a.eval _ _ _ L (hyv a),by simpa[raw] using cM.f (.raw _)⟩
 .rename_i id off n q;rw[dA s];refine gM.reads λφ E h' w a _ hp _=>?_
  have h1:=hp x _ (by rw[U];simp[Op.operands]) q;generalize L:a.eval x=z at h1;cases h1 with
  |sl hφ hn hc=>exact⟨_,key (.bool J) w a.eval _ _ _ L (hyv a),by simpa[raw] using cM.f (.raw _)⟩
 .rename_i cells n q;rw[dA s];refine gM.reads λφ E h' w a _ hp _=>?_
  have h1:=hp x _ (by rw[U];simp[Op.operands]) q;generalize L:a.eval x=z at h1;cases h1 with
  |f h1=>
   cases h1 with
   |sl=>exact⟨_,key (.bool J) w a.eval _ _ _ L (hyv a),by simpa[raw] using cM.f (.raw _)⟩
 .rename_i cells q;rw[dA s];refine gM.reads λφ E h' w a _ hp _=>?_
  have h1:=hp x _ (by rw[U];simp[Op.operands]) q;generalize L:a.eval x=z at h1;cases h1 with
  |f h1=>
   cases h1 with
   |nil=>exact⟨_,key (.bool J) w a.eval _ _ _ L (hyv a),.anyb⟩
   |sl=>exact⟨_,key (.bool J) w a.eval _ _ _ L (hyv a),.anyb⟩
 .rename_i q;rw[dA s];refine gM.reads λφ E h' w a _ hp _=>?_
  have h1:=hp x _ (by rw[U];simp[Op.operands]) q;generalize L:a.eval x=z at h1;cases h1 with
  |emp=>exact⟨_,key (.bool J) w a.eval _ _ _ L (hyv a),.anyb⟩
 .rename_i v q;split at s
  .rename_i hv;rw[dA s];refine gM.reads λφ E h' w a _ hp _=>?_
   have h1:=fm (hp x _ (by rw[U];simp[Op.operands]) q);unfold tB at hv;split at hv
   .exact⟨_,key (.bool J) w a.eval _ _ _ h1 (hyv a),by simpa[raw] using cM.f (.raw _)⟩
   .cases hv
  .cases s
 .cases s
theorem gC {t:TypeId} {sz:Nat} (hs:fy P t=M sz) (w:World):(sizeOf t).run P w= .ok sz w:=by
 unfold fy at hs;cases hi:P.info? t with
 |none=>rw[hi]at hs;cases hs
 |some i=>rw[hi]at hs;simp at hs;simp[sizeOf,typeInfo,program,hi,ki,hs]
theorem PK {t:TypeId} {ag:Bool} (hs:DI P t=M ag) (w:World):(isAgg t).run P w= .ok ag w:=by
 unfold DI at hs;cases hi:P.underlying t with
 |none=>rw[hi]at hs;cases hs
 |some d=>
  rw[hi]at hs;simp only[ca,ah]at hs;rw[<- hs];simp only[isAgg,eM,run_underlying hi,cN];cases d<;>rfl
theorem lw (b off i:Nat):(⟨b,off,D⟩:Addr).add i=⟨b,off+i,D⟩:=by
 unfold Addr.add;split<;>simp_all
theorem PI {s:TypeId} {fs:Array Field} {k:Nat} {f:Field} {sz:Nat} (hu:P.underlying s=M (.struct fs)) (hf:fs[k]? =M f) (hs:fy P f.type=M sz) (h0:sz≠0) (w:World) (b i:Nat):
 (Instr.fieldAt s (.pointer (M ⟨b,i,D⟩)) k).run P w= .ok (.pointer (M ⟨b,i+f.offset,D⟩)) w:=by
 have h1:=gC hs w;simp[Instr.fieldAt,run_underlying hu,hf,Instr.sureAddr,fieldPlace,h1,h0,lw]
theorem am4 {s:TypeId} {fs:Array Field} {k:Nat} {f:Field} {sz:Nat} {x:Operand} (L:o.op= .fieldAddr s x k) (hu:P.underlying s=M (.struct fs)) (hf:fs[k]? =M f) (hs:fy P f.type=M sz) (h0:sz≠0) (c:eL (.fad f.offset x) e h nx=M R):gM P o e.get h.get R.eff:=by
 have key:∀(w:World) (ρ:Operand->Value) (b i:Nat),ρ x= .pointer (M ⟨b,i,D⟩)->(execOp ρ o).run P w= .ok (.value (.pointer (M ⟨b,i+f.offset,D⟩))) w:=by
  intro w ρ b i h1;unfold execOp;rw[L];simp only[h1];exact afz (PI hu hf hs h0 w b i)
 simp only[eL]at c;split at c
 .rename_i id off A;rw[dA c];refine gM.reads λφ E h' w a _ hp _=>?_
  have h1:=hp x _ (by rw[L];simp[Op.operands]) A;generalize q:a.eval x=z at h1;cases h1 with
  |ptr hφ=>exact⟨_,key w a.eval _ _ q,.ptr hφ⟩
 .rename_i cells off A;rw[dA c];refine gM.reads λφ E h' w a _ hp _=>?_
  have h1:=hp x _ (by rw[L];simp[Op.operands]) A;generalize q:a.eval x=z at h1;cases h1 with
  |f h1=>
   cases h1 with
   |ptr _ _ b base us hO hb hcl hu hr=>
    refine ⟨_,key w a.eval _ _ q,.f ?_⟩;rw[sI];exact .ptr cells _ b base us hO hb hcl hu hr
 .cases c
theorem Je {t el:TypeId} {x y:Operand} {sz b off n c:Nat} {k:IntKind} {i:Int} {ρ:Operand->Value} {w:World} (s:o.op= .indexAddr t x y) (hu:P.underlying t=M (.slice el)) (hs:fy P el=M sz) (q:ρ x= .slice (M ⟨b,off,D⟩) n c) (a:ρ y= .int k i) (h0:0<=i) (h1:i<n):
 (execOp ρ o).run P w= .ok (.value (.pointer (M ⟨b,off+i.toNat*sz,D⟩))) w:=by
 have h2:=gC hs w;unfold execOp;rw[s];simp[q,a,Instr.indexAt,asIntOf,run_underlying hu,h2,h0,h1,lw]
theorem am2 {t el:TypeId} {x y:Operand} {sz:Nat} (s:o.op= .indexAddr t x y) (hu:P.underlying t=M (.slice el)) (hs:fy P el=M sz) (q:eL (.iad sz x y) e h nx=M R):gM P o e.get h.get R.eff:=by
 simp only[eL]at q;split at q
 .rename_i v k j U hy;have hyv:∀{φ:PM} {E:Nat->Prop} {h':HF} {w:World} {a:Act},Vs φ E h' w a e o->a.eval y= .int k j:=λhp=>fm (hp y _ (by rw[s];simp[Op.operands]) hy)
  split at q
  .split at q
   .rename_i id sz' n hc;simp only[cX,fK,al,bL,cU]at hc;obtain⟨⟨rfl,h0⟩,h1⟩:=hc;rw[dA q];refine gM.reads λφ E h' w a _ hp _=>?_
    have hr:=hp x _ (by rw[s];simp[Op.operands]) U;generalize A:a.eval x=z at hr;cases hr with
    |row hφ hn L hsh=>
     refine ⟨_,Je s hu hs A (hyv hp) h0 h1,?_⟩;rw[bG];exact .ptr hφ
   .cases q
  .split at q
   .rename_i id off n hc;simp only[cX,fK,al,bL]at hc;obtain⟨h0,h1⟩:=hc;rw[dA q];refine gM.reads λφ E h' w a _ hp _=>?_
    have hr:=hp x _ (by rw[s];simp[Op.operands]) U;generalize A:a.eval x=z at hr;cases hr with
    |sl hφ hn L=>exact⟨_,Je s hu hs A (hyv hp) h0 h1,.ptr hφ⟩
   .cases q
  .split at q
   .rename_i cells n hc;simp only[cX,fK,al,bL]at hc;obtain⟨h0,h1⟩:=hc;rw[dA q];refine gM.reads λφ E h' w a _ hp _=>?_
    have hr:=hp x _ (by rw[s];simp[Op.operands]) U;generalize A:a.eval x=z at hr;cases hr with
    |f hr=>
     cases hr with
     |nil=>omega
     |sl _ _ c b base us hn L hO hb hcl Z hr'=>exact⟨_,Je s hu hs A (hyv hp) h0 h1,.f (.ptr cells _ b base us hO hb hcl Z hr')⟩
   .cases q
  .cases q
 .cases q
theorem ain {t el:TypeId} {x y:Operand} {n sz:Nat} (q:o.op= .indexAddr t x y) (hu:P.underlying t=M (.array n el)) (hs:fy P el=M sz) (c:eL (.iada n sz x y) e h nx=M R):gM P o e.get h.get R.eff:=by
 have key:∀(w:World) (ρ:Operand->Value) (b off:Nat) (k:IntKind) (i:Int),ρ x= .pointer (M ⟨b,off,D⟩)->ρ y= .int k i->0<=i->i<n->(execOp ρ o).run P w= .ok (.value (.pointer (M ⟨b,off+i.toNat*sz,D⟩))) w:=by
  intro w ρ b off k i h1 h2 h3 h4;have h5:=gC hs w;unfold execOp;rw[q];simp[h1,h2,Instr.indexAt,asIntOf,run_underlying hu,h5,h3,h4,lw,Instr.sureAddr]
 simp only[eL]at c;split at c
 .rename_i v k j Z U;split at c
  .rename_i hc;simp only[cX,fK,al,bL]at hc;obtain⟨h0,h1⟩:=hc;split at c
   .rw[dA c];refine gM.reads λφ E h' w a _ hp _=>?_
    have hr:=hp x _ (by rw[q];simp[Op.operands]) Z;have hyv:=fm (hp y _ (by rw[q];simp[Op.operands]) U);generalize s:a.eval x=z at hr;cases hr with
    |ptr hφ=>exact⟨_,key w a.eval _ _ k j s hyv h0 h1,.ptr hφ⟩
   .rw[dA c];refine gM.reads λφ E h' w a _ hp _=>?_
    have hr:=hp x _ (by rw[q];simp[Op.operands]) Z;have hyv:=fm (hp y _ (by rw[q];simp[Op.operands]) U);generalize s:a.eval x=z at hr;cases hr with
    |f hr=>
     cases hr with
     |ptr _ _ b base us hO hb hcl A L=>
      refine ⟨_,key w a.eval _ _ k j s hyv h0 h1,.f ?_⟩;rw[sI];exact .ptr _ _ b base us hO hb hcl A L
   .cases c
  .cases c
 .cases c
theorem am5 {x:Operand} {i:Nat} (q:o.op= .extract x i) (c:eL (.ext x i) e h nx=M R):gM P o e.get h.get R.eff:=by
 simp only[eL]at c;split at c
 .rename_i l A;split at c
  .rename_i v hv;rw[dA c];refine gM.reads λφ E h' w a _ hp _=>?_
   have hr:=hp x _ (by rw[q];simp[Op.operands]) A;generalize s:a.eval x=z at hr;cases hr with
   |@tup _ vs hl hrr=>
    have hlt:i<vs.length:=by
     rw[hl];exact (bi.1 hv).1
    refine ⟨vs[i],?_,hrr i v _ hv (ax hlt)⟩;unfold execOp;rw[q];simp[s,Instr.extract,hlt]
  .cases c
 .cases c
theorem am0 {x y:Operand} {s:Array TypeId} (q:o.op= .call {callee:=.builtin .max,args:=#[x,y],argTypes:=s}) (c:eL (.max x y) e h nx=M R):gM P o e.get h.get R.eff:=by
 simp only[eL]at c;split at c
 .rename_i k a b k' A z;rw[dA c];refine gM.reads λφ E h' w a _ hp _=>?_
  have h1:=fm (hp x _ (by rw[q];simp[Op.operands,eU]) A);have h2:=fm (hp y _ (by rw[q];simp[Op.operands,eU]) z);refine ⟨_,?_,.f (.raw _)⟩;unfold execOp;rw[q];simp[resolve,invoke,builtin,Builtin.max_,Builtin.max2,h1,h2,fK]
 .cases c
theorem alz {x y:Operand} {s:Array TypeId} (q:o.op= .call {callee:=.builtin .min,args:=#[x,y],argTypes:=s}) (c:eL (.min x y) e h nx=M R):gM P o e.get h.get R.eff:=by
 simp only[eL]at c;split at c
 .rename_i k a b k' A z;rw[dA c];refine gM.reads λφ E h' w a _ hp _=>?_
  have h1:=fm (hp x _ (by rw[q];simp[Op.operands,eU]) A);have h2:=fm (hp y _ (by rw[q];simp[Op.operands,eU]) z);refine ⟨_,?_,.f (.raw _)⟩;unfold execOp;rw[q];simp[resolve,invoke,builtin,Builtin.min_,Builtin.min2,h1,h2,fK]
 .cases c
theorem alv {x:Operand} {t:TypeId} {k:IntKind} (q:o.op= .unOp .neg t x) (c:eL (.bin .sub (.const (.int k 0)) x) e h nx=M R):gM P o e.get h.get R.eff:=by
 simp only[eL,mP,EZ]at c;split at c
 .rename_i u v hu s;cases hu;split at c
  .rename_i r hb;rw[dA c];refine gM.reads λφ E h' w a _ hop _=>?_
   have h1:=fm (hop x _ (by rw[q];simp[Op.operands]) s);refine ⟨r,?_,.f (.raw _)⟩;unfold execOp;rw[q];cases v<;>simp only[tG]at hb<;>try (cases hb;done)
   split at hb
   .rename_i hk;have hk:=eq_of_beq hk;subst hk;simp only[ah]at hb;subst hb;simp[h1,Op.unary,Op.intArith,yr]
   .cases hb
  .cases c
 .cases c
theorem aif {x i:Operand} {t:TypeId} (q:o.op= .index t x i) (hu:P.underlying t=M .string) (c:eL (.sidx x i) e h nx=M R):gM P o e.get h.get R.eff:=by
 simp only[eL]at c;split at c
 .rename_i s k j z hi;split at c
  .rename_i h0;simp only[cX,bL]at h0;split at c
   .rename_i b hb;rw[dA c];refine gM.reads λφ E h' w a _ hop _=>?_
    have h1:=fm (hop x _ (by rw[q];simp[Op.operands]) z);have h2:=fm (hop i _ (by rw[q];simp[Op.operands]) hi);refine ⟨_,?_,.f (.raw _)⟩;have hs:s[j.toNat]? =M b:=by
     rw[co]at hb;obtain⟨hl,he⟩:=cA.1 hb;exact getElem?_pos s j.toNat hl▸gR M he
    unfold execOp;rw[q];simp[Instr.index,run_underlying hu,h1,h2,asIntOf,h0,hs]
   .cases c
  .cases c
 .cases c
theorem aly {f:FuncId} {caps:Array Operand} (L:o.op= .makeFunc (.func f) #[] caps) (s:eL (.mkf f caps.toList) e h nx=M R):gM P o e.get h.get R.eff:=by
 simp only[eL]at s;split at s
 .rename_i l hl;rw[dA s];refine gM.reads λφ E h' w a _ hp _=>?_
  refine ⟨_,by unfold execOp;rw[L];rfl,?_⟩;have key:∀(xs:Y Operand) (c:Y AV),(∀x∈xs,x∈o.op.operands)->Wt e xs=M c->c.length=xs.length/\∀(j:Nat) x v,c[j]? =M x->(xs.map a.eval)[j]? =M v->cM φ (tot E φ h') w x v:=by
   intro xs;induction xs with
   |nil=>intro c _ h;simp only[Wt,ah]at h;subst h;exact⟨rfl,λj x v q=>by simp at q⟩
   |cons x xs U=>
    intro c hm h;simp only[Wt]at h;split at h
    .rename_i y Z;split at h
     .rename_i ys' hys;simp only[ah]at h;subst h;obtain⟨h1,h2⟩:=U ys' (λx q=>hm x (cE _ q)) hys;refine ⟨by simp[h1],λj z v A hv=>?_⟩;cases j with
      |zero=>simp at A hv;subst A;subst hv;exact hp x _ (hm x (c4 ..)) Z
      |succ j=>exact h2 j z v (by simpa using A) (by simpa using hv)
     .cases h
    .cases h
  obtain⟨h1,h2⟩:=key caps.toList l (λx q=>by rw[L];simpa[Op.operands] using q) hl;have h3:(caps.map a.eval)=(caps.toList.map a.eval).toArray:=by
   apply KJ;simp
  have h4:(#[]:Array Operand).map a.eval=#[]:=by simp
  rw[h4,h3];exact .clo (by simp[h1]) h2
 .cases s
end pure
section
variable {P:Program} {o:Oper} {e:zJ} {h:oh} {nx:Nat} {R:B3}
theorem VH {α:Type} {l cs:Y α} {off sz:Nat} (h:off+sz<=l.length) (he:(l.drop off).take sz=cs):cs.length=sz/\∀(j:Nat) x,cs[j]? =M x->l[off+j]? =M x:=by
 subst he;constructor
 .simp;omega
 .intro j x a;rw[cP]at a;split at a
  .rw[hZ]at a;exact a
  .cases a
theorem xn (f:Nat->Value) (n j:Nat) (v:Value) (h:((dR n).map f)[j]? =M v):v=f j/\j<n:=by
 rw[ba]at h;rcases b7 j n with hj|hj
 .rw[Gv hj]at h;simp at h;exact⟨h.symm,hj⟩
 .rw[bD (by simpa using hj)]at h;cases h
def xH (φ:PM) (O:Nat->Prop) (w:World) (c:BC) (f:Nat->I Value):Prop:=∀j x,c.get j=M x->x.isCell=J/\∃v,f j=M v/\cM φ O w x v
theorem VG {φ:PM} {O:Nat->Prop} {w:World} {c:BC} {off sz:Nat} {ag:Bool} {val:AV} (hs:c.sub? off sz ag=M val) {f:Nat->I Value} (hc:xH φ O w c f):
 ∃cs:ξ,cs.length=sz/\(∀(j:Nat) v,cs[j]? =M v->f (off+j)=M v)/\(ag=af->sz=1)/\cM φ O w val (if ag then .agg cs.toArray else cs.getD 0 undef):=by
 cases ag with
 |false=>
  simp only[BC.sub?]at hs;split at hs
  .obtain⟨h0,v,h1,h2⟩:=hc off val hs;exact⟨[v],rfl,λj u hu=>by cases j with|zero=>simp at hu;subst hu;exact h1|succ j=>simp at hu,λ_=>rfl,by simpa using h2⟩
  .cases hs
 |true=>
  have fin:∀(g:Nat->I AV),(∀j,j<sz->∃x,g j=M x/\c.get (off+j)=M x)->
   ∃cs:ξ,cs.length=sz/\(∀(j:Nat) v,cs[j]? =M v->f (off+j)=M v)/\∀(j:Nat) x v,g j=M x->cs[j]? =M v->cM φ O w x v:=by
   intro g hg;refine ⟨(dR sz).map λj=>(f (off+j)).getD undef,by simp,λj v hv=>?_,λj x v a hv=>?_⟩
   .obtain⟨rfl,hj⟩:=xn _ _ _ _ hv;obtain⟨x,_,h2⟩:=hg j hj;obtain⟨_,v,q,_⟩:=hc _ _ h2;rw[q];rfl
   .obtain⟨rfl,hj⟩:=xn _ _ _ _ hv;obtain⟨z,h1,h2⟩:=hg j hj;rw[a]at h1;cases h1;obtain⟨_,v,q,s⟩:=hc _ _ h2;rw[q];exact s
  simp only[BC.sub?]at hs;split at hs
  .rename_i l;split at hs
   .rename_i hle;simp only[ah]at hs;subst hs;obtain⟨hl,hg⟩:=VH (a8 hle) (rfl:(l.drop off).take sz=_);obtain⟨cs,h1,h2,q⟩:=fin (λj=>(((l.drop off).take sz)[j]?).map AV.f) (λj hj=>by
     have hlt:j<((l.drop off).take sz).length:=by rw[hl];exact hj
     refine ⟨.f ((l.drop off).take sz)[j],by simp only[ax hlt,ca],?_⟩;simp only[BC.get,hg j _ (ax hlt),ca])
    refine ⟨cs,h1,h2,(λh=>by cases h),.f (.agg _ _ (by rw[h1,hl]) ?_ ?_)⟩
    .intro x a;obtain⟨j,hj⟩:=fc a;exact (hc (off+j) (.f x) (by simp only[BC.get,hg j x hj,ca])).1
    .intro j x v a hv;have:=q j (.f x) v (by simp only[a,ca]) hv;cases this with
     |f h=>exact h
   .cases hs
  .rename_i l;split at hs
   .rename_i hle;simp only[ah]at hs;subst hs;obtain⟨hl,hg⟩:=VH (a8 hle) (rfl:(l.drop off).take sz=_);obtain⟨cs,h1,h2,q⟩:=fin (λj=>(((l.drop off).take sz)[j]?)) (λj hj=>by
     have hlt:j<((l.drop off).take sz).length:=by rw[hl];exact hj
     exact⟨_,ax hlt,hg j _ (ax hlt)⟩)
    refine ⟨cs,h1,h2,(λh=>by cases h),.agg (by rw[h1,hl]) ?_ ?_⟩
    .intro x a;obtain⟨j,hj⟩:=fc a;exact (hc (off+j) x (hg j x hj)).1
    .intro j x v a hv;exact q j x v a hv
   .cases hs
  .cases hs
theorem Nw {t:TypeId} {sz:Nat} {ag:Bool} (hs:fy P t=M sz) (a:DI P t=M ag) (w:World) (b off:Nat) (cs:ξ) (hl:cs.length=sz) (hc:∀(j:Nat) v,cs[j]? =M v->w.cell? ⟨b,off+j,D⟩=M v) (h1:ag=af->sz=1):
 (loadVar t ⟨b,off,D⟩).run P w= .ok (if ag then .agg cs.toArray else cs.getD 0 undef) w:=by
 unfold loadVar;simp only[eM,PK a w,cN];cases ag with
 |true=>
  simp only[bF,eM,gC hs w,cN];rw[<- hl,run_loadCells_list (P:=P) w ⟨b,off,D⟩ cs (λj v hv=>by rw[lw];exact hc j v hv)];rfl
 |false=>
  have h1:=h1 rfl;cases cs with
  |nil=>simp at hl;omega
  |cons v r=>
   have:=hc 0 v rfl;simp only[cZ]at this;simp[load,ki,this]
theorem It {φ:PM} {O:Nat->Prop} {w:World} {t:TypeId} {sz:Nat} {ag:Bool} (hs:fy P t=M sz) (a:DI P t=M ag) {c:BC} {b base off:Nat} {val:AV} (hv:c.sub? off sz ag=M val)
 (hc:xH φ O w c λj=>w.cell? ⟨b,base+j,D⟩):∃v,(loadVar t ⟨b,base+off,D⟩).run P w= .ok v w/\cM φ O w val v:=by
 obtain⟨cs,h1,h2,s,q⟩:=VG hv hc;exact⟨_,Nw hs a w b (base+off) cs h1 (λj v hj=>by rw[sI];exact h2 j v hj) s,q⟩
theorem R6 {φ:PM} {E:Nat->Prop} {h':HF} {w:World} (hrep:qX φ E h' w) {id k:Nat} {b:vG} (hb:h' id=M b) (hk:φ id=M k) (hc:b.c.isCells=J):xH φ (tot E φ h') w b.c λj=>w.cell? ⟨k,0+j,D⟩:=by
 obtain⟨k',h1,_,h2⟩:=hrep.at_ id b hb;rw[hk]at h1;cases h1;obtain⟨arr,s,U,q⟩:=h2.cells hc;intro j x a;obtain⟨L,v,A,z⟩:=q j x a;exact⟨L,v,by simp[Nc,s,A],z⟩
theorem U9 {φ:PM} {O:Nat->Prop} {w:World} {cells:Y FV} {b base:Nat} {us:Nat->Value} (hcl:∀x∈cells,x.isCell=J) (hu:∀j,j<cells.length->w.cell? ⟨b,base+j,D⟩=M (us j)) (hr:∀(j:Nat) x,cells[j]? =M x->nH O w x (us j)):
 xH φ O w (.fz cells) λj=>w.cell? ⟨b,base+j,D⟩:=by
 intro j y a;simp only[BC.get]at a;cases hc:cells[j]? with
 |none=>rw[hc]at a;cases a
 |some q=>
  rw[hc]at a;simp at a;subst a;have hj:j<cells.length:=(bi.1 hc).1;exact⟨hcl q (aZ hc),us j,hu j hj,.f (hr j q hc)⟩
theorem Pt {c:BC} {off sz:Nat} {ag:Bool} {v:AV} (h:c.sub? off sz ag=M v):c.isCells=J:=by
 cases c with
 |fz=>rfl
 |mx=>rfl
 |mp es=>cases ag<;>simp only[BC.sub?,BC.get]at h<;>(try split at h)<;>cases h
 |it s p=>cases ag<;>simp only[BC.sub?,BC.get]at h<;>(try split at h)<;>cases h
theorem Se {t:TypeId} {sz:Nat} {ag:Bool} (hs:fy P t=M sz) (hag:DI P t=M ag) {p:AV} (a:DH h sz ag p=M R):
 R.wr=[]/\R.nw=[]/\R.N=[]/\∀(φ:PM) (E:Nat->Prop) (h':HF) (w:World) (pv:Value),(∀i∈R.rd,h' i=h.get i)->qX φ E h' w->cM φ (tot E φ h') w p pv->
  ∃c v,pv= .pointer (M c)/\(loadVar t c).run P w= .ok v w/\cM φ (tot E φ h') w R.val v:=by
 unfold DH at a;split at a
 .rename_i id off;split at a
  .rename_i b hb;split at a
   .rename_i v hv;simp only[ah]at a;subst a;refine ⟨rfl,rfl,rfl,λφ E h' w pv hrd hrep hr=>?_⟩;have hh:h' id=M b:=by rw[hrd id (by simp)];exact hb
    cases hr with
    |@ptr _ _ k hφ=>
     obtain⟨u,h1,h2⟩:=It hs hag (w:=w) (b:=k) (base:=0) hv (R6 hrep hh hφ (Pt hv));rw[bG]at h1;exact⟨_,u,rfl,h1,h2⟩
   .cases a
  .cases a
 .rename_i cells off;split at a
  .rename_i v hv;rw[dA a];refine ⟨rfl,rfl,rfl,λφ E h' w pv hrd hrep hr=>?_⟩;cases hr with
   |f hr=>
    cases hr with
    |ptr _ _ b base us hO hb hcl hu hr=>
     obtain⟨u,h1,h2⟩:=It (φ:=φ) (O:=tot E φ h') hs hag (w:=w) (b:=b) (base:=base) hv (U9 hcl hu hr);exact⟨_,u,rfl,h1,h2⟩
  .cases a
 .cases a
theorem aij {t:TypeId} {x:Operand} {sz:Nat} {ag:Bool} (q:o.op= .load t x) (hs:fy P t=M sz) (hag:DI P t=M ag) (c:eL (.load sz ag x) e h nx=M R):gM P o e.get h.get R.eff:=by
 simp only[eL]at c;split at c
 .rename_i p A;obtain⟨h1,h2,z,s⟩:=Se hs hag c;obtain⟨val,rd,wr,nw,N⟩:=R;simp only at h1 h2 z s;subst h1;subst h2;subst z;refine gM.reads λφ E h' w a hrd hp hrep=>?_
  obtain⟨ad,v,Z,U,L⟩:=s φ E h' w _ hrd hrep (hp x _ (by rw[q];simp[Op.operands]) A);refine ⟨v,?_,L⟩;unfold execOp;rw[q];simp[Instr.loadAt,Z,Instr.sureAddr,U]
 .cases c
theorem V0 {φ:PM} {O:Nat->Prop} {w:World} {t:TypeId} {sz:Nat} {ag:Bool} (hs:fy P t=M sz) (hag:DI P t=M ag) {c:BC} {off:Nat} {val:AV} (hv:c.sub? off sz ag=M val) {vs:ξ}
 (hc:xH φ O w c λj=>vs[j]?):∃v,(part t vs.toArray off).run P w= .ok v w/\cM φ O w val v:=by
 obtain⟨cs,h1,h2,q,a⟩:=VG hv hc;refine ⟨_,?_,a⟩;unfold part;simp only[eM,PK hag w,cN];cases ag with
 |true=>
  simp only[bF,eM,gC hs w,cN];have:vs.toArray.extract off (off+sz)=cs.toArray:=by
   apply KJ;simp only[Array.toList_extract,List.extract_eq_take_drop];apply List.ext_getElem?;intro j;rw[show off+sz-off=sz from by omega,cP,hZ];rcases b7 j sz with hj|hj
   .rw[aC hj];have:=h2 j _ (ax (by omega:j<cs.length));rw[this,ax (by omega:j<cs.length)]
   .rw[ay (by omega),bD (by omega)]
  rw[this];rfl
 |false=>
  have s:=q rfl;cases cs with
  |nil=>simp at h1;omega
  |cons v r=>
   have:=h2 0 v rfl;simp only[cZ]at this;simp[this]
theorem R7 {φ:PM} {O:Nat->Prop} {w:World} {l:Y AV} {vs:ξ} (hl:vs.length=l.length) (hcl:∀x∈l,x.isCell=J) (hr:∀(j:Nat) x v,l[j]? =M x->vs[j]? =M v->cM φ O w x v):xH φ O w (.mx l) λj=>vs[j]? :=by
 intro j x a;simp only[BC.get]at a;have hj:j<vs.length:=by rw[hl];exact (bi.1 a).1
 exact⟨hcl x (aZ a),vs[j],ax hj,hr j x _ a (ax hj)⟩
theorem OW {φ:PM} {O:Nat->Prop} {w:World} {l:Y FV} {vs:ξ} (hl:vs.length=l.length) (hcl:∀x∈l,x.isCell=J) (hr:∀(j:Nat) x v,l[j]? =M x->vs[j]? =M v->nH O w x v):xH φ O w (.fz l) λj=>vs[j]? :=by
 intro j x a;simp only[BC.get]at a;cases hc:l[j]? with
 |none=>rw[hc]at a;cases a
 |some q=>
  rw[hc]at a;simp at a;subst a;have hj:j<vs.length:=by rw[hl];exact (bi.1 hc).1
  exact⟨hcl q (aZ hc),vs[j],ax hj,.f (hr j q _ hc (ax hj))⟩
theorem Ko {φ:PM} {O:Nat->Prop} {w:World} {t:TypeId} {sz:Nat} {ag:Bool} (hs:fy P t=M sz) (hag:DI P t=M ag) {x:AV} {z:Value} (hr:cM φ O w x z) {off:Nat} {val:AV}
 (hv:(∃l,x= .agg l/\(BC.mx l).sub? off sz ag=M val)\/(∃l,x= .f (.agg l)/\(BC.fz l).sub? off sz ag=M val)):∃cs v,z= .agg cs/\(part t cs off).run P w= .ok v w/\cM φ O w val v:=by
 rcases hv with ⟨l,rfl,hv⟩|⟨l,rfl,hv⟩
 .cases hr with
  |agg hl hcl hr=>
   obtain⟨v,h1,h2⟩:=V0 hs hag hv (R7 hl hcl hr);exact⟨_,v,rfl,h1,h2⟩
 .cases hr with
  |f hr=>
   cases hr with
   |agg _ vs hl hcl hr=>
    obtain⟨v,h1,h2⟩:=V0 (φ:=φ) hs hag hv (OW hl hcl hr);exact⟨_,v,rfl,h1,h2⟩
theorem am3 {s:TypeId} {fs:Array Field} {k:Nat} {f:Field} {sz:Nat} {ag:Bool} {x:Operand} (z:o.op= .field s x k) (hu:P.underlying s=M (.struct fs)) (hf:fs[k]? =M f) (hs:fy P f.type=M sz) (hag:DI P f.type=M ag) (c:eL (.fld f.offset sz ag x) e h nx=M R):gM P o e.get h.get R.eff:=by
 have fin:∀(y:AV) (val:AV),mP e x=M y->((∃l,y= .agg l/\(BC.mx l).sub? f.offset sz ag=M val)\/(∃l,y= .f (.agg l)/\(BC.fz l).sub? f.offset sz ag=M val))->rv val=M R->gM P o e.get h.get R.eff:=by
  intro y val q hv A;rw[dA A];refine gM.reads λφ E h' w a _ hp _=>?_
  obtain⟨cs,v,h1,h2,L⟩:=Ko hs hag (hp x _ (by rw[z];simp[Op.operands]) q) hv;refine ⟨v,?_,L⟩;unfold execOp;rw[z];simp[Instr.field,run_underlying hu,hf,h1,asAgg,h2]
 simp only[eL]at c;split at c
 .rename_i l q;split at c
  .rename_i v hv;exact fin _ v q (.inl ⟨l,rfl,hv⟩) c
  .cases c
 .rename_i l q;split at c
  .rename_i v hv;exact fin _ v q (.inr ⟨l,rfl,hv⟩) c
  .cases c
 .cases c
theorem am1 {t el:TypeId} {n sz:Nat} {ag:Bool} {x y:Operand} (q:o.op= .index t x y) (hu:P.underlying t=M (.array n el)) (hs:fy P el=M sz) (hag:DI P el=M ag) (c:eL (.idx n sz ag x y) e h nx=M R):gM P o e.get h.get R.eff:=by
 simp only[eL]at c;split at c
 .rename_i v0 k j z s;split at c
  .rename_i hc;simp only[cX,fK,al,bL]at hc;obtain⟨h0,h1⟩:=hc;have fin:∀(val:AV),((∃l,v0= .agg l/\(BC.mx l).sub? (j.toNat*sz) sz ag=M val)\/(∃l,v0= .f (.agg l)/\(BC.fz l).sub? (j.toNat*sz) sz ag=M val))->rv val=M R->gM P o e.get h.get R.eff:=by
    intro val hv A;rw[dA A];refine gM.reads λφ E h' w a _ hp _=>?_
    have hyv:=fm (hp y _ (by rw[q];simp[Op.operands]) s);obtain⟨cs,v,h3,Z,U⟩:=Ko hs hag (hp x _ (by rw[q];simp[Op.operands]) z) hv;refine ⟨v,?_,U⟩;have L:=gC hs w;unfold execOp;rw[q];simp[Instr.index,run_underlying hu,hyv,asIntOf,h3,h0,h1,L,Z]
   split at c
   .rename_i l;split at c
    .rename_i v hv;exact fin v (.inl ⟨l,rfl,hv⟩) c
    .cases c
   .rename_i l;split at c
    .rename_i v hv;exact fin v (.inr ⟨l,rfl,hv⟩) c
    .cases c
   .cases c
  .cases c
 .cases c
theorem aim {t el:TypeId} {x:Operand} (L:o.op= .call {callee:=.builtin .len,args:=#[x],argTypes:=#[t]}) (hu:P.underlying t=M (.slice el)) (q:eL (.len x) e h nx=M R):gM P o e.get h.get R.eff:=by
 simp only[eL]at q;split at q
 .rename_i y U;split at q
  .rename_i n hn;rw[dA q];refine gM.reads λφ E h' w a _ hp _=>?_
   have hr:=hp x _ (by rw[L];simp[Op.operands,eU]) U;refine ⟨_,?_,.f (.raw _)⟩;have s:∃A c,a.eval x= .slice A n c:=by
    generalize a.eval x=z at hr;unfold AV.slen at hn;split at hn<;>try (simp only[ah]at hn;subst hn)
    .cases hr with
     |f hr=>cases hr with
      |nil=>exact⟨_,_,rfl⟩
      |sl=>exact⟨_,_,rfl⟩
    .cases fm hr;exact⟨_,_,rfl⟩
    .cases hr;exact⟨_,_,rfl⟩
    .cases hr;exact⟨_,_,rfl⟩
    .cases hr;exact⟨_,_,rfl⟩
    .cases hn
   obtain⟨A,c,s⟩:=s;unfold execOp;rw[L];simp[resolve,invoke,builtin,Builtin.len_,run_underlying hu,s,goInt]
  .cases q
 .cases q
theorem ail {t:TypeId} {x:Operand} (q:o.op= .call {callee:=.builtin .len,args:=#[x],argTypes:=#[t]}) (hu:P.underlying t=M .string) (c:eL (.lens x) e h nx=M R):gM P o e.get h.get R.eff:=by
 simp only[eL]at c;split at c
 .rename_i s z;rw[dA c];refine gM.reads λφ E h' w a _ hp _=>?_
  have hr:=fm (hp x _ (by rw[q];simp[Op.operands,eU]) z);refine ⟨_,?_,.f (.raw _)⟩;unfold execOp;rw[q];simp[resolve,invoke,builtin,Builtin.len_,run_underlying hu,hr,goInt]
 .cases c
theorem aik {t k v:TypeId} {x:Operand} (s:o.op= .call {callee:=.builtin .len,args:=#[x],argTypes:=#[t]}) (hu:P.underlying t=M (.map k v)) (c:eL (.lenm x) e h nx=M R):gM P o e.get h.get R.eff:=by
 simp only[eL]at c;split at c
 .rename_i id L;split at c
  .rename_i es hid;simp only[ah]at c;subst c;refine gM.reads λφ E h' w a hrd hp hrep=>?_
   have hr:=hp x _ (by rw[s];simp[Op.operands,eU]) L;have hh:h' id=M ⟨0,.mp es⟩:=by rw[hrd id (by simp)];exact hid
   generalize A:a.eval x=z at hr;cases hr with
   |@mp _ b hφ=>
    obtain⟨b',h1,_,ob,h2,Z⟩:=hrep.at_ id _ hh;rw[hφ]at h1;cases h1;obtain⟨ents,clock,rfl,q,_⟩:=Z;have U:ents.size=es.length:=by have q:ents.toList.map (·.key)=es.map (·.1):=q;have:=gR ai q;simpa using this
    refine ⟨_,?_,.f (.raw _)⟩;unfold execOp;rw[s];simp[resolve,invoke,builtin,Builtin.len_,run_underlying hu,A,goInt,getObj,ki,h2,U]
  .cases c
 .cases c
end
structure Fa (w w':World) (k:Nat) (ob:Obj):Prop where
 os:w'.os=w.os
 tape:w'.tape=w.tape
 output:w'.output=w.output
 size:w'.heap.size=w.heap.size
 at_:w'.heap[k]? =M ob
 other:∀j,j≠k->w'.heap[j]? =w.heap[j]?
 shp:∀j,w'.shape? j=w.shape? j
structure Sl (w w':World) (ob:Obj):Prop where
 os:w'.os=w.os
 tape:w'.tape=w.tape
 output:w'.output=w.output
 size:w'.heap.size=w.heap.size+1
 at_:w'.heap[w.heap.size]? =M ob
 other:∀j,j<w.heap.size->w'.heap[j]? =w.heap[j]?
theorem qX.wset {φ:PM} {E:Nat->Prop} {h:HF} {w w':World} (r:qX φ E h w) {id k:Nat} {b b':vG} {ob:Obj} (hb:h id=M b) (hk:φ id=M k) (a:Fa w w' k ob) (hob:jd φ (tot E φ h) w b' ob) (nw:HF) (hnw:nw id=M b'):
 je φ φ h (eV h [id] nw) w w'/\qX φ E (eV h [id] nw) w':=by
 have hdom:∀i,(∃x,eV h [id] nw i=M x)↔∃x,h i=M x:=λi=>by
  unfold eV;by_cases hi:i=id
  .subst hi;simp[hnw,hb]
  .simp[hi]
 have hown:∀j,own φ (eV h [id] nw) j↔own φ h j:=λj=>by
  constructor
  .rintro⟨i,x,h1,h2⟩;obtain⟨y,q⟩:=(hdom i).1 ⟨x,h1⟩;exact⟨i,y,q,h2⟩
  .rintro⟨i,x,h1,h2⟩;obtain⟨y,q⟩:=(hdom i).2 ⟨x,h1⟩;exact⟨i,y,q,h2⟩
 have m:je φ φ h (eV h [id] nw) w w':=by
  refine ⟨λ_ _ h=>h,⟨a.os,a.tape,a.output,by rw[a.size];exact bU _,λj hj Z=>?_,λj _=>a.shp j⟩,λj _ h=>(hown j).1 h⟩;exact a.other j (λe=>Z (e▸⟨id,b,hb,hk⟩))
 refine ⟨m,⟨λi j x y U hi hj h1 h2=>?_,λi x hi=>?_,λk hk=>dB (r.el k hk) m.ext.size,λg cells hg=>m.keepF (r.gl g cells hg)⟩⟩
 .obtain⟨L,s⟩:=(hdom i).1 ⟨x,hi⟩;obtain⟨A,c⟩:=(hdom j).1 ⟨y,hj⟩;exact r.inj i j L A U s c h1 h2
 .by_cases hid:i=id
  .subst hid;have:x=b':=by unfold eV at hi;simp[hnw]at hi;exact hi.symm
   subst this;obtain⟨k',h1,h2,_⟩:=r.at_ i b hb;rw[hk]at h1;cases h1;exact⟨k,hk,h2,ob,a.at_,hob.mono λ_ _ h=>m.keep h⟩
  .have z:h i=M x:=by unfold eV at hi;simpa[hid] using hi
   obtain⟨k',h1,h2,ob',h3,h4⟩:=r.at_ i x z;have hne:k'≠k:=λe=>hid (r.inj i id x b k z hb (e▸h1) hk)
   exact⟨k',h1,h2,ob',by rw[a.other k' hne];exact h3,h4.mono λ_ _ h=>m.keep h⟩
theorem qX.wnew {φ:PM} {E:Nat->Prop} {h:HF} {w w':World} (r:qX φ E h w) {id:Nat} (hid:φ id=D) {b:vG} {ob:Obj} (q:Sl w w' ob) (hob:jd φ (tot E φ h) w b ob) (del:ι) (nw:HF) (hnw:nw id=M b) (hdel:∀i∈del,i≠id->nw i=D):
 ∃φ',φ' id=M w.heap.size/\je φ φ' h (eV h (id::del) nw) w w'/\(∀i k,φ' i=M k->φ i=M k\/i∈[id])/\qX φ' E (eV h (id::del) nw) w':=by
 have hsub:∀i x,eV h (id::del) nw i=M x->i≠id->h i=M x/\i∉del:=λi x s hi=>by
  unfold eV at s;by_cases hd:i∈del
  .rw[aC (by simp[hd]),hdel i hd hi]at s;cases s
  .rw[ay (by simp[hi,hd])]at s;exact⟨s,hd⟩
 have hlt:∀i x k,h i=M x->φ i=M k->k<w.heap.size:=λi x k hi hk=>by
  obtain⟨k',h1,_,ob',z,_⟩:=r.at_ i x hi;rw[hk]at h1;cases h1;exact (cA.1 z).1
 have hφ:∀i,i≠id->(if i=id then M w.heap.size else φ i)=φ i:=λi hi=>by simp[hi]
 have m:je φ (λi=>if i=id then M w.heap.size else φ i) h (eV h (id::del) nw) w w':=by
  refine ⟨λi k hk=>?_,⟨q.os,q.tape,q.output,by rw[q.size];omega,λj hj _=>q.other j hj,λj hj=>?_⟩,?_⟩
  .have:i≠id:=λe=>by rw[e,hid]at hk;cases hk
   rw[hφ i this];exact hk
  .unfold rM;rw[q.other j hj]
  .rintro j hj ⟨i,x,h1,h2⟩;by_cases hi:i=id
   .simp[hi]at h2;omega
   .have z:φ i=M j:=by simpa[hi] using h2
    exact⟨i,x,(hsub i x h1 hi).1,z⟩
 refine ⟨_,by simp,m,λi k hk=>?_,⟨λi j x y k hi hj h1 h2=>?_,λi x hi=>?_,λk hk=>dB (r.el k hk) m.ext.size,λg cells hg=>m.keepF (r.gl g cells hg)⟩⟩
 .by_cases hi:i=id
  .right;simp[hi]
  .left;rw[hφ i hi]at hk;exact hk
 .by_cases a:i=id
  .by_cases c:j=id
   .rw[a,c]
   .exfalso;rw[hφ j c]at h2;have:=hlt j y k (hsub j y hj c).1 h2;simp[a]at h1;omega
  .rw[hφ i a]at h1;have hix:=(hsub i x hi a).1;by_cases c:j=id
   .exfalso;have:=hlt i x k hix h1;simp[c]at h2;omega
   .rw[hφ j c]at h2;exact r.inj i j x y k hix (hsub j y hj c).1 h1 h2
 .by_cases a:i=id
  .subst a;have:x=b:=by unfold eV at hi;simp[hnw]at hi;exact hi.symm
   subst this;refine ⟨w.heap.size,by simp,λhe=>?_,ob,q.at_,hob.mono λ_ _ h=>m.keep h⟩;have:=r.el _ he;omega
  .obtain⟨k,h1,h2,ob',z,A⟩:=r.at_ i x (hsub i x hi a).1;refine ⟨k,by rw[hφ i a];exact h1,h2,ob',?_,A.mono λ_ _ h=>m.keep h⟩;rw[q.other k (hlt i x k (hsub i x hi a).1 h1)];exact z
theorem q_ (w:World) (ob:Obj):Sl w {w with heap:=w.heap.push ob} ob:=by
 refine ⟨rfl,rfl,rfl,by simp,by simp,λj hj=>?_⟩;rw[Array.getElem?_push,ay (by omega)]
theorem Sl.drawn {w w':World} {ob:Obj} (d:Nat) (h:Sl {w with drawn:=d} w' ob):Sl w w' ob:=⟨h.os,h.tape,h.output,h.size,h.at_,h.other⟩
theorem gM.makes {P:Program} {o:Oper} {e:zJ} {h:HF} {rd:ι} {nx:Nat} {b:vG} {val:AV}
 (hv:∀(φ:PM) (E:Nat->Prop) (h':HF) (w:World) (a:Act),(∀i∈rd,h' i=h i)->Vs φ E h' w a e o->qX φ E h' w->
   ∃v w' ob,(execOp a.eval o).run P w= .ok (.value v) w'/\Sl w w' ob/\jd φ (tot E φ h') w b ob/\∀φ' O,φ' nx=M w.heap.size->cM φ' O w' val v):
 gM P o e.get h ⟨val,rd,[nx],jm [(nx,b)],[nx]⟩:=by
 intro φ E h' w a h1 h2 L c A;obtain⟨v,w',ob,hrun,z,hob,hval⟩:=hv φ E h' w a h1 (λx y s q=>tF c L s q) c;obtain⟨φ',g1,g2,Z,U⟩:=c.wnew (id:=nx) (A nx (by simp)) z hob [] (jm [(nx,b)]) (by simp[jm]) (by simp);unfold Hh;rw[hrun];exact⟨v,φ',rfl,g2,Z,U,hval φ' _ g1⟩
theorem gM.writes {P:Program} {o:Oper} {e:zJ} {h:HF} {rd:ι} {id:Nat} {b b':vG} {val:AV} (hb:h id=M b)
 (hv:∀(φ:PM) (E:Nat->Prop) (h':HF) (w:World) (a:Act),(∀i∈rd,h' i=h i)->h' id=M b->Vs φ E h' w a e o->qX φ E h' w->
   ∃r w' k ob,(execOp a.eval o).run P w= .ok r w'/\φ id=M k/\Fa w w' k ob/\jd φ (tot E φ h') w b' ob/\(∃v,(r= .value v\/r= .skip/\v=undef)/\cM φ (tot E φ (eV h' [id] (jm [(id,b')]))) w' val v)):
 gM P o e.get h ⟨val,rd,[id],jm [(id,b')],[]⟩:=by
 intro φ E h' w a h1 h2 U c Z;obtain⟨r,w',k,ob,hrun,hk,L,hob,v,hr,hval⟩:=hv φ E h' w a h1 (by rw[h2 id (by simp)];exact hb) (λx y A z=>tF c U A z) c;obtain⟨s,q⟩:=c.wset (id:=id) (by rw[h2 id (by simp)];exact hb) hk L hob (jm [(id,b')]) (by simp[jm]);unfold Hh;rw[hrun];rcases hr with rfl|⟨rfl,rfl⟩
 .exact⟨v,φ,rfl,s,λ_ _ h=>.inl h,q,hval⟩
 .exact⟨undef,φ,rfl,s,λ_ _ h=>.inl h,q,hval⟩
theorem l_ {l:Y AV} (h:gK l=J):∀x∈l,x.isCell=J:=by
 induction l with
 |nil=>intro x a;cases a
 |cons y l c=>
  simp only[gK,al]at h;intro x a;rcases bh.1 a with rfl|a
  .exact h.1
  .exact c h.2 x a
theorem pQ:∀{l:Y AV} {fs:Y FV},xD l=M fs->l=fs.map .f
 |[],fs,h=>by simp only[xD,ah]at h;subst h;rfl
 |.f x::r,fs,h=>by
  simp only[xD]at h;split at h
  .rename_i l hl;simp only[ah]at h;subst h;rw[pQ hl];rfl
  .cases h
 |.ptr _ _::_,_,h=>by simp[xD]at h
 |.sl _ _ _::_,_,h=>by simp[xD]at h
 |.row _ _ _::_,_,h=>by simp[xD]at h
 |.mp _::_,_,h=>by simp[xD]at h
 |.emp::_,_,h=>by simp[xD]at h
 |.agg _::_,_,h=>by simp[xD]at h
 |.tup _::_,_,h=>by simp[xD]at h
 |.clo _ _::_,_,h=>by simp[xD]at h
def Cs (φ:PM) (O:Nat->Prop) (w:World) (l:Y AV) (vs:ξ):Prop:=vs.length=l.length/\(∀x∈l,x.isCell=J)/\∀(j:Nat) x v,l[j]? =M x->vs[j]? =M v->cM φ O w x v
theorem BC.get_toMx {c:BC} (hc:c.isCells=J) (j:Nat):c.get j=c.toMx[j]? :=by
 cases c with
 |fz l=>simp[BC.get,BC.toMx]
 |mx l=>rfl
 |mp _=>cases hc
 |it _ _=>cases hc
theorem BC.len_toMx {c:BC} (hc:c.isCells=J):c.len=c.toMx.length:=by
 cases c with
 |fz l=>simp[BC.len,BC.toMx]
 |mx l=>rfl
 |mp _=>cases hc
 |it _ _=>cases hc
theorem nU (l:Y AV):(pt l).toMx=l/\(pt l).isCells=J:=by
 unfold pt;cases h:xD l with
 |none=>exact⟨rfl,rfl⟩
 |some fs=>exact⟨(pQ h).symm,rfl⟩
theorem qc {φ:PM} {O:Nat->Prop} {w:World} {ty:TypeId} {c:BC} (hc:c.isCells=J) {arr:Array Value} (hl:c.toMx.length<=arr.size)
 (h:∀(j:Nat) x,c.toMx[j]? =M x->x.isCell=J/\∃v,arr[j]? =M v/\cM φ O w x v):jd φ O w ⟨ty,c⟩ (.cells arr ty (0,0)):=by
 have h2:vk φ O w c arr:=⟨by rw[BC.len_toMx hc];exact hl,λj x a=>h j x (by rw[<- BC.get_toMx hc];exact a)⟩
 unfold jd;cases hb:c with
 |fz l=>rw[hb]at h2;exact⟨arr,rfl,h2⟩
 |mx l=>rw[hb]at h2;exact⟨arr,rfl,h2⟩
 |mp _=>rw[hb]at hc;cases hc
 |it _ _=>rw[hb]at hc;cases hc
theorem Ig {φ:PM} {O:Nat->Prop} {w:World} {ty:TypeId} {l:Y AV} {vs:ξ} (h:Cs φ O w l vs):jd φ O w ⟨ty,pt l⟩ (.cells vs.toArray ty (0,0)):=by
 obtain⟨h1,h2⟩:=nU l;refine qc h2 (by rw[h1];simp[h.1]) λj x a=>?_
 rw[h1]at a;have hj:j<vs.length:=by rw[h.1];exact (bi.1 a).1
 exact⟨h.2.1 x (aZ a),vs[j],by simp[hj],h.2.2 j x _ a (ax hj)⟩
theorem Uy {φ:PM} {O:Nat->Prop} {w:World} {x:AV} {v:Value} (h:cM φ O w x v) (hc:gK x.cs=J):Cs φ O w x.cs v.cells.toList:=by
 have one:x.cs=[x]->v.cells=#[v]->Cs φ O w x.cs v.cells.toList:=λh1 h2=>by
  rw[h1]at hc ⊢;rw[h2];exact⟨rfl,l_ hc,λj y u a hu=>by cases j with|zero=>simp at a hu;subst a;subst hu;exact h|succ j=>simp at a⟩
 cases h with
 |ptr h=>exact one rfl rfl
 |sl h _ _=>exact one rfl rfl
 |row h _ _ _=>exact one rfl rfl
 |emp=>exact one rfl rfl
 |anyb=>exact one rfl rfl
 |mp h=>exact one rfl rfl
 |clo _ _=>exact one rfl rfl
 |tup _ _=>exact ct hc (by simp[AV.cs,gK,AV.isCell])
 |@agg l vs hl hcl hr=>exact⟨hl,hcl,hr⟩
 |@f y u hf=>
  cases hf with
  |raw v=>
   have hv:v.oneCell'=J:=by
    have:(AV.f (.raw v)).cs=[.f (.raw v)]:=rfl;rw[this]at hc;simpa[gK,AV.isCell,FV.isCell] using hc
   refine one rfl ?_;cases v<;>first|rfl|simp[Value.oneCell']at hv
  |nil=>exact one rfl rfl
  |sl=>exact one rfl rfl
  |ptr=>exact one rfl rfl
  |agg l vs hl hcl hr=>
   refine ⟨by simp[AV.cs,Value.cells,hl],l_ hc,λj y u a hu=>?_⟩;simp only[AV.cs,ba]at a;cases hq:l[j]? with
   |none=>rw[hq]at a;cases a
   |some q=>rw[hq]at a;simp at a;subst a;exact .f (hr j q u hq (by simpa[Value.cells] using hu))
theorem nH.one {O:Nat->Prop} {w:World} {x:FV} {v:Value} (h:nH O w x v) (hc:x.isCell=J):v.oneCell'=J:=by
 cases h with
 |raw v=>exact hc
 |nil=>rfl
 |sl=>rfl
 |ptr=>rfl
 |agg=>cases hc
theorem cM.one {φ:PM} {O:Nat->Prop} {w:World} {x:AV} {v:Value} (h:cM φ O w x v) (hc:x.isCell=J):v.oneCell'=J:=by
 cases h with
 |f h=>exact h.one hc
 |ptr=>rfl
 |sl=>rfl
 |row=>rfl
 |emp=>rfl
 |anyb=>rfl
 |mp=>rfl
 |agg=>cases hc
 |tup=>cases hc
 |clo=>rfl
theorem Cs.one {φ:PM} {O:Nat->Prop} {w:World} {l:Y AV} {vs:ξ} (h:Cs φ O w l vs):∀v∈vs,v.oneCell'=J:=by
 intro v hv;obtain⟨j,hj⟩:=fc hv;have hlt:j<l.length:=by rw[<- h.1];exact (bi.1 hj).1
 exact (h.2.2 j _ v (ax hlt) hj).one (h.2.1 _ (uM hlt))
theorem Cs.append {φ:PM} {O:Nat->Prop} {w:World} {l c:Y AV} {vs vs':ξ} (h:Cs φ O w l vs) (h':Cs φ O w c vs'):Cs φ O w (l++c) (vs++vs'):=by
 refine ⟨by simp[h.1,h'.1],λx a=>(bQ.1 a).elim (h.2.1 x) (h'.2.1 x),λj x v a hv=>?_⟩;rcases b7 j l.length with hj|hj
 .rw[bP hj]at a;rw[bP (by rw[h.1];exact hj)]at hv;exact h.2.2 j x v a hv
 .rw[b8 hj]at a;rw[b8 (by rw[h.1];exact hj),h.1]at hv;exact h'.2.2 _ x v a hv
theorem Cs.take {φ:PM} {O:Nat->Prop} {w:World} {l:Y AV} {vs:ξ} (h:Cs φ O w l vs) (n:Nat):Cs φ O w (l.take n) (vs.take n):=by
 refine ⟨by simp[h.1],λx a=>h.2.1 x (hY a),λj x v a hv=>?_⟩;rw[cP]at a hv;split at a
 .rename_i hj;rw[aC hj]at hv;exact h.2.2 j x v a hv
 .cases a
theorem Cs.drop {φ:PM} {O:Nat->Prop} {w:World} {l:Y AV} {vs:ξ} (h:Cs φ O w l vs) (n:Nat):Cs φ O w (l.drop n) (vs.drop n):=by
 refine ⟨by simp[h.1],λx a=>h.2.1 x (List.mem_of_mem_drop a),λj x v a hv=>?_⟩;rw[hZ]at a hv;exact h.2.2 _ x v a hv
theorem Cs.splice {φ:PM} {O:Nat->Prop} {w:World} {l a:Y AV} {vs vs':ξ} (h:Cs φ O w l vs) (h':Cs φ O w a vs') (off:Nat):Cs φ O w (splice l off a) (splice vs off vs'):=by
 unfold AI.splice;rw[h'.1];exact ((h.take off).append h').append (h.drop _)
theorem Cs.raws {φ:PM} {O:Nat->Prop} {w:World} (z:ξ) (c:mL z=J):Cs φ O w (z.map raw) z:=by
 refine ⟨by simp,λx a=>?_,λj x v a hv=>?_⟩
 .obtain⟨v,hv,rfl⟩:=db.1 a;exact gy.1 c v hv
 .rw[ba]at a;rw[hv]at a;simp at a;subst a;exact .f (.raw v)
theorem Cs.mono {φ φ':PM} {O O':Nat->Prop} {w w':World} {l:Y AV} {vs:ξ} (h:Cs φ O w l vs) (hk:∀x v,cM φ O w x v->cM φ' O' w' x v):Cs φ' O' w' l vs:=⟨h.1,h.2.1,λj x v a hv=>hk _ _ (h.2.2 j x v a hv)⟩
theorem Fa.setRow {w:World} {k:Nat} {arr arr':Array Value} {ty:TypeId} (a:w.heap[k]? =M (.cells arr ty (0,0))) (hs:arr'.size=arr.size):Fa w (w.setRow k arr') k (.cells arr' ty (0,0)):=by
 refine ⟨rfl,rfl,rfl,by simp,setRow_heap w k arr arr' ty (0,0) a,λj hj=>setRow_other w k j arr' hj,λj=>?_⟩;unfold rM;by_cases hj:j=k
 .subst hj;rw[setRow_heap w j arr arr' ty (0,0) a,a];simp[hs]
 .rw[setRow_other w k j arr' hj]
section
variable {P:Program} {o:Oper} {e:zJ} {h:oh} {nx:Nat} {R:B3}
theorem tJ {t:TypeId} {z:ξ} (a:sW P t=M z) (w:World):∃v,(zeroValue t).run P w= .ok v w/\v.cells.toList=z/\∃i,P.info? t=M i/\i.zero=M v:=by
 unfold sW at a;cases hi:P.info? t with
 |none=>rw[hi]at a;cases a
 |some i=>
  rw[hi]at a;simp only[aF]at a;cases hv:i.zero with
  |none=>rw[hv]at a;cases a
  |some v=>
   rw[hv]at a;simp only[ca,ah]at a;exact⟨v,by simp[zeroValue,typeInfo,hi,hv],a,i,rfl,hv⟩
theorem aez {t:TypeId} {z:ξ} (L:o.op= .alloc t) (A:sW P t=M z) (hc:mL z=J) (s:eL (.alloc t z) e h nx=M R):gM P o e.get h.get R.eff:=by
 simp only[eL,ah]at s;subst s;refine gM.makes λφ E h' w a _ _ _=>?_
 obtain⟨v,h1,h2,_⟩:=tJ A w;refine ⟨.pointer (M ⟨w.heap.size,0,D⟩),{w with heap:=w.heap.push (.cells v.cells t)},.cells v.cells t (0,0),?_,q_ w _,?_,λφ' O hφ=>.ptr hφ⟩
 .unfold execOp;rw[L];simp[Instr.alloc,h1,newVar,newRow,newObj,ki]
 .have c:BC.toMx (.fz (z.map .raw))=z.map raw:=by simp[BC.toMx,raw]
  refine qc rfl (by rw[c,<-h2];simp) λj x q=>?_
  rw[c]at q;have cs:=Cs.raws (φ:=φ) (O:=tot E φ h') (w:=w) z hc;have hj:j<z.length:=by have:=(bi.1 q).1;simpa using this
  refine ⟨cs.2.1 x (aZ q),z[j],?_,cs.2.2 j x _ q (ax hj)⟩;have:v.cells.toList[j]? =M z[j]:=by rw[h2];exact ax hj
  simpa using this
theorem am8 {t:TypeId} {x:Operand} (q:o.op= .box t x) (c:eL (.box t x) e h nx=M R):gM P o e.get h.get R.eff:=by
 simp only[eL]at c;split at c
 .rename_i v s;split at c
  .rename_i hc;simp only[ah]at c;subst c;refine gM.makes λφ E h' w a _ hp _=>?_
   have hr:=Uy (hp x _ (by rw[q];simp[Op.operands]) s) hc;refine ⟨.pointer (M ⟨w.heap.size,0,D⟩),{w with heap:=w.heap.push (.cells (a.eval x).cells t)},.cells (a.eval x).cells t (0,0),?_,q_ w _,?_,λφ' O hφ=>.ptr hφ⟩
   .unfold execOp;rw[q];simp[Instr.box,newVar,newRow,newObj,ki]
   .have:=Ig (ty:=t) hr;simpa using this
  .cases c
 .cases c
theorem mQ {α:Type} {l vs:Y α} {off:Nat} (hle:off+vs.length<=l.length) (j:Nat):(splice l off vs)[j]? =if j<off then l[j]? else if j<off+vs.length then vs[j-off]? else l[j]? :=by
 unfold splice;rw[jX];have h1:(l.take off).length=off:=by simp;omega
 by_cases hj:j<off
 .rw[aC hj,bP (by rw[h1];exact hj),cP,aC hj]
 .rw[ay hj,b8 (by omega),h1];by_cases a:j<off+vs.length
  .rw[aC a,bP (by omega)]
  .rw[ay a,b8 (by omega),hZ];congr 1;omega
theorem oF {α:Type} {l vs:Y α} {off:Nat} (hle:off+vs.length<=l.length):(splice l off vs).length=l.length:=by
 unfold splice;simp;omega
theorem QY (off:Nat):∀(vs:ξ) (k:Nat) (arr:Array Value),off+k+vs.length<=arr.size->∀j:Nat,
 ((vs.zipIdx k).foldl (λcs (p:Value×Nat)=>cs.setIfInBounds (off+p.2) p.1) arr)[j]? =if j<off+k then arr[j]? else if j<off+k+vs.length then vs[j-(off+k)]? else arr[j]?
 |[],k,arr,_,j=>by
  simp only[List.zipIdx_nil,List.foldl_nil,gr,cZ];split<;>rfl
 |v::vs,k,arr,hle,j=>by
  simp only[bX]at hle;rw[List.zipIdx_cons,Fk,QY off vs (k+1) _ (by simp;omega) j];simp only[bX];by_cases h1:j<off+k
  .rw[aC (by omega),aC h1,pU (by omega)]
  .by_cases h2:j=off+k
   .subst h2;rw[aC (by omega),ay (by omega),aC (by omega)];simp[show off+k<arr.size by omega]
   .rw[ay (by omega),ay h1];by_cases a:j<off+k+(vs.length+1)
    .rw[aC (by omega),aC a,show j-(off+k)=(j-(off+(k+1)))+1 from by omega];simp
    .rw[ay (by omega),ay a,pU (by omega)]
theorem QX (off:Nat) (c:Array Value) (l:ξ) (hle:off+c.size<=l.length):(c.zipIdx.foldl (λcs (p:Value×Nat)=>cs.setIfInBounds (off+p.2) p.1) l.toArray)=(splice l off c.toList).toArray:=by
 rw[<- Array.foldl_toList,Array.toList_zipIdx];apply Array.ext_getElem?;intro j;rw[QY off c.toList 0 l.toArray (by simpa using hle) j];simp only[cZ,kB];rw[mQ (by simpa using hle)]
theorem Oi {φ:PM} {E:Nat->Prop} {h':HF} {w:World} {a:Act} (hp:Vs φ E h' w a e o) {place:Nat->I (Nat×Nat)}:∀(ps:Y (Nat×Operand)) (ps':Y (Nat×Nat×Operand)) (cells cs:Y AV) (vs:ξ),
 (ps'.length=ps.length)->(∀(j:Nat) i x,ps[j]? =M (i,x)->∃of sz,ps'[j]? =M (of,sz,x)/\place i=M (of,sz))->(∀p∈ps,p.2∈o.op.operands)->Cs φ (tot E φ h') w cells vs->ze cells e ps'=M cs->
 ∃vs',Instr.fill place vs.toArray (ps.map λp=>(p.1,a.eval p.2))=M vs'.toArray/\Cs φ (tot E φ h') w cs vs'
 |[],ps',cells,cs,vs,hl,_,_,hcs,hf=>by
  cases ps' with
  |nil=>simp only[ze,ah]at hf;subst hf;exact⟨vs,rfl,hcs⟩
  |cons _ _=>simp at hl
 |(i,x)::ps,ps',cells,cs,vs,hl,hpl,hm,hcs,hf=>by
  obtain⟨of,sz,h1,h2⟩:=hpl 0 i x rfl;cases ps' with
  |nil=>simp at h1
  |cons p ps'=>
   simp at h1;subst h1;simp only[ze]at hf;split at hf
   .rename_i v hv;split at hf
    .rename_i hc;simp only[al,cU]at hc;obtain⟨⟨s,q⟩,c⟩:=hc;have hr:=Uy (hp x v (hm _ (c4 ..)) hv) c;have hsz:(a.eval x).cells.size=sz:=by have:=hr.1;simp at this;omega
     have hle:of+sz<=vs.length:=by rw[hcs.1];exact a8 q
     obtain⟨vs',A,z⟩:=Oi hp ps ps' _ cs _ (by simpa using hl) (λj i x hj=>by have:=hpl (j+1) i x (by simpa using hj);simpa using this) (λp hp=>hm p (cE _ hp)) (hcs.splice hr of) hf;refine ⟨vs',?_,z⟩;simp only[eS,Instr.fill,h2];have hcd:((decide ((a.eval x).cells.size≠sz))||decide (of+(a.eval x).cells.size>vs.toArray.size))=af:=by
      rw[hsz];simp;omega
     rw[ay (by rw[hcd];simp)];have:=QX of (a.eval x).cells vs (by rw[hsz];exact hle);rw[<- A,<-this]
    .cases hf
   .cases hf
theorem D' {t:TypeId}:∀(ps:Y (Nat×Operand)) (ps':Y (Nat×Nat×Operand)),w9 P t ps=M ps'->ps'.length=ps.length/\∀(j:Nat) i x,ps[j]? =M (i,x)->∃of sz,ps'[j]? =M (of,sz,x)/\Bq P t i=M (of,sz)
 |[],ps',h=>by simp only[w9,ah]at h;subst h;exact⟨rfl,λj i x q=>by simp at q⟩
 |(i,x)::ps,ps',h=>by
  simp only[w9]at h;split at h
  .rename_i of sz l h1 h2;simp only[ah]at h;subst h;obtain⟨z,s⟩:=D' ps l h2;refine ⟨by simp[z],λj c a hj=>?_⟩;cases j with
   |zero=>simp at hj;obtain⟨rfl,rfl⟩:=hj;exact⟨of,sz,rfl,h1⟩
   |succ j=>simpa using s j c a (by simpa using hj)
  .cases h
theorem Im (w:World):∀(fs:Y Field),(fs.all λf=>(fy P f.type).isSome)=J->(fs.mapM (λf=>do pure (f.offset,<-sizeOf f.type)):Sem (Y (Nat×Nat))).run P w= .ok (fs.map λf=>(f.offset,(fy P f.type).getD 0)) w
 |[],_=>by simp
 |f::fs,h=>by
  simp only[List.all_cons,al]at h;obtain⟨sz,hs⟩:=iQ.1 h.1;have h1:=gC hs w;have a:=Im w fs h.2;simp only[List.mapM_cons,eM,h1,cN,oS,a,eS,hs,uK]
theorem W1 {t:TypeId} {ps:Array (Nat×Operand)} {z:ξ} {ps':Y (Nat×Nat×Operand)} (s:o.op= .build t ps) (Z:sW P t=M z) (hc:mL z=J) (hps:w9 P t ps.toList=M ps')
 (hu:(∃fs,P.underlying t=M (.struct fs)/\(fs.toList.all λf=>(fy P f.type).isSome)=J)\/∃n el sz,P.underlying t=M (.array n el)/\fy P el=M sz) (c:eL (.build z ps') e h nx=M R):gM P o e.get h.get R.eff:=by
 simp only[eL]at c;split at c
 .rename_i cs hf;rw[dA c];refine gM.reads λφ E h' w a _ hp _=>?_
  obtain⟨v,h1,h2,_⟩:=tJ Z w;have hcells:v.cells=z.toArray:=by rw[<- h2]
  obtain⟨g1,g2⟩:=D' ps.toList ps' hps;have hops:∀p∈ps.toList,p.2∈o.op.operands:=λp hp=>by
   rw[s];simp only[Op.operands,List.mem_toArray,db];exact⟨p,hp,rfl⟩
  have hmap:(ps.map λx:Nat×Operand=>(x.1,a.eval x.2)).toList=ps.toList.map λp=>(p.1,a.eval p.2):=by simp
  have fin:∀place:Nat->I (Nat×Nat),(∀i,Bq P t i≠D->place i=Bq P t i)->∃vs':ξ,Instr.fill place v.cells (ps.map λx:Nat×Operand=>(x.1,a.eval x.2)).toList=M vs'.toArray/\cM φ (tot E φ h') w (Mi cs) (.agg vs'.toArray):=by
   intro place hpl;obtain⟨vs',k1,k2⟩:=Oi (place:=place) hp ps.toList ps' _ cs z g1 (λj i x hj=>by
    obtain⟨of,sz,U,L⟩:=g2 j i x hj;exact⟨of,sz,U,by rw[hpl i (by rw[L];simp),L]⟩) hops (Cs.raws z hc) hf
   refine ⟨vs',by rw[hmap,hcells];exact k1,?_⟩;unfold Mi;cases hfs:xD cs with
   |none=>exact .agg k2.1 k2.2.1 k2.2.2
   |some fs=>
    have he:=pQ hfs;refine .f (.agg fs vs' (by rw[k2.1,he];simp) (λx q=>k2.2.1 (.f x) (by rw[he];exact db.2 ⟨x,q,rfl⟩)) λj x u q hu=>?_);have:=k2.2.2 j (.f x) u (by rw[he,ba,q];rfl) hu;cases this with
    |f h=>exact h
  rcases hu with ⟨fs,hu,hall⟩|⟨n,el,sz,hu,hs⟩
  .obtain⟨vs',k1,k2⟩:=fin (λi=>(fs.map λf=>(f.offset,(fy P f.type).getD 0))[i]?) (λi hi=>by
    unfold Bq at hi ⊢;rw[hu]at hi ⊢;simp only[Array.getElem?_map]at hi ⊢;cases hf:fs[i]? with
    |none=>rw[hf]at hi;simp at hi
    |some f=>
     simp only[ca,aF];cases hs:fy P f.type with
     |none=>rw[hf]at hi;simp[hs]at hi
     |some sz=>simp)
   refine ⟨_,?_,k2⟩;have hm:=Im w fs.toList hall;have A:(fs.mapM (λf=>do pure (f.offset,<-sizeOf f.type)):Sem (Array (Nat×Nat))).run P w= .ok (fs.map λf=>(f.offset,(fy P f.type).getD 0)) w:=by
    rw[Array.mapM_eq_mapM_toList];simp only[Sem.run_map,hm,cN];congr 1;apply KJ;simp
   unfold execOp;rw[s];simp only[Instr.build,eM,h1,cN,run_underlying hu,A,oS,k1]
  .obtain⟨vs',k1,k2⟩:=fin (λi=>M (i*sz,sz)) (λi hi=>by
    unfold Bq;rw[hu];simp[hs])
   refine ⟨_,?_,k2⟩;have h3:=gC hs w;unfold execOp;rw[s];simp only[Instr.build,eM,h1,cN,run_underlying hu,h3,oS,k1]
 .cases c
end
section
variable {P:Program} {o:Oper} {e:zJ} {h:oh} {nx:Nat} {R:B3}
theorem sB {t el:TypeId} (h:AE P t=M el):P.underlying t=M (.slice el):=by
 unfold AE at h;split at h
 .rename_i e hu;simp only[ah]at h;subst h;exact hu
 .cases h
theorem mS (z:ξ):∀n,(repl z n).length=n*z.length
 |0=>by simp[repl]
 |n+1=>by simp[repl,mS z n,iV];omega
theorem Ck (z:ξ):∀(n j:Nat),j<n*z.length->(repl z n)[j]? =(z[j%z.length]?).map .raw
 |0,j,h=>by simp at h
 |n+1,j,h=>by
  have a:0<z.length:=by
   rcases KE z.length with h0|h0
   .rw[h0]at h;simp at h
   .exact h0
  rw[repl];rcases b7 j z.length with hj|hj
  .rw[bP (by simpa using hj),ba,Nat.mod_eq_of_lt hj]
  .rw[b8 (by simpa using hj),bx,Ck z n (j-z.length) (by rw[iV]at h;omega),Nat.mod_eq_sub_mod hj]
theorem Xb {v:Value} {z:ξ} (hv:v.cells.toList=z) (n sz:Nat) (hl:z.length=sz) (hsz:sz≠0) (j:Nat) (hj:j<n*sz):
 ((yi (n*sz)).map (λi=>v.cells[i%v.cells.size]!))[j]? =z[j%sz]? :=by
 have hs:v.cells.size=sz:=by rw[<- hl,<-hv];simp
 have hlt:j%sz<v.cells.size:=by rw[hs];exact Nat.mod_lt _ (by omega)
 rw[Array.getElem?_map,Array.getElem?_range];simp only[hj,bF,ca,hs];rw[<- hv,co,getElem!_pos v.cells _ hlt,ip hlt]
theorem Cs.repl {φ:PM} {O:Nat->Prop} {w:World} {v:Value} {z:ξ} (hv:v.cells.toList=z) (n sz:Nat) (hl:z.length=sz) (hsz:sz≠0) (hc:mL z=J):
 Cs φ O w ((repl z n).map .f) ((yi (n*sz)).map (λi=>v.cells[i%v.cells.size]!)).toList:=by
 have key:∀(j:Nat) (x:AV),((AI.repl z n).map AV.f)[j]? =M x->∃u,z[j%sz]? =M u/\x=raw u/\j<n*sz:=by
  intro j x a;rw[ba]at a;have hj:j<n*z.length:=by
   rcases b7 j (n*z.length) with h|h
   .exact h
   .rw[bD (by rw[mS];exact h)]at a;cases a
  rw[Ck z n j hj,hl]at a;cases hu:z[j%sz]? with
  |none=>rw[hu]at a;cases a
  |some u=>rw[hu]at a;simp at a;exact⟨u,rfl,a.symm,by rw[<- hl];exact hj⟩
 refine ⟨by simp[mS,hl],λx a=>?_,λj x u a hu=>?_⟩
 .obtain⟨j,hj⟩:=fc a;obtain⟨u,h1,rfl,_⟩:=key j x hj;exact gy.1 hc u (aZ h1)
 .obtain⟨c,h1,rfl,hj⟩:=key j x a;rw[co,Xb hv n sz hl hsz j hj,h1]at hu;cases hu;exact .f (.raw _)
theorem am7 {t el:TypeId} {n sz:Nat} {ps:Array (Nat×Operand)} {z:ξ} {ps':Y (Nat×Nat×Operand)} (L:o.op= .buildSlice t n ps) (hu:P.underlying t=M (.slice el)) (hz:sW P el=M z) (hs:fy P el=M sz) (hc:mL z=J) (hl:z.length=sz) (hsz:sz≠0) (hb:n*sz<=65536)
 (hps:w9 P t ps.toList=M ps') (c:eL (.bsl el sz n z ps') e h nx=M R):gM P o e.get h.get R.eff:=by
 simp only[eL]at c;split at c
 .rename_i cs hf;simp only[ah]at c;subst c;refine gM.makes λφ E h' w a _ hp _=>?_
  obtain⟨v,h1,h2,_⟩:=tJ hz w;obtain⟨g1,g2⟩:=D' ps.toList ps' hps;have hops:∀p∈ps.toList,p.2∈o.op.operands:=λp hp=>by
   rw[L];simp only[Op.operands,List.mem_toArray,db];exact⟨p,hp,rfl⟩
  have hmap:(ps.map λx:Nat×Operand=>(x.1,a.eval x.2)).toList=ps.toList.map λp=>(p.1,a.eval p.2):=by simp
  obtain⟨vs',k1,k2⟩:=Oi (place:=λi=>M (i*sz,sz)) hp ps.toList ps' _ cs _ g1 (λj i x hj=>by
   obtain⟨of,s',U,q⟩:=g2 j i x hj;unfold Bq at q;rw[hu]at q;simp[hs]at q;obtain⟨rfl,rfl⟩:=q;exact⟨_,_,U,rfl⟩) hops (Cs.repl h2 n sz hl hsz hc) hf
  have hcells:(yi (n*sz)).map ((if n*sz=0 then #[] else v.cells)[·%(if n*sz=0 then #[] else v.cells).size]!)=((yi (n*sz)).map (λi=>v.cells[i%v.cells.size]!)).toList.toArray:=by
   by_cases h0:n*sz=0
   .simp[h0]
   .rw[Array.toArray_toList];simp only[ay h0]
  have hlen:vs'.length=n*sz:=by
   have e1:=k2.1;have e2:cs.length=((AI.repl z n).map AV.f).length:=by
    have:∀(ps':Y (Nat×Nat×Operand)) (A s:Y AV),ze A e ps'=M s->s.length=A.length:=by
     intro ps';induction ps' with
     |nil=>intro A s h;simp only[ze,ah]at h;rw[h]
     |cons p ps' Z=>
      intro A s h;obtain⟨of,s',x⟩:=p;simp only[ze]at h;split at h
      .split at h
       .rename_i hcc;simp only[al,cU]at hcc;rw[Z _ _ h,oF (by rw[hcc.1.1];exact a8 hcc.1.2)]
       .cases h
      .cases h
    exact this ps' _ _ hf
   rw[e1,e2];simp[mS,hl]
  refine ⟨.slice (M ⟨w.heap.size,0,D⟩) n n,{w with heap:=w.heap.push (.cells vs'.toArray el)},.cells vs'.toArray el (0,0),?_,q_ w _,Ig k2,λφ' O hφ=>?_⟩
  .have h3:=gC hs w;have hk:Instr.fill (λi=>M (i*sz,sz)) ((yi (n*sz)).map ((if n*sz=0 then #[] else v.cells)[·%(if n*sz=0 then #[] else v.cells).size]!)) (ps.map λx:Nat×Operand=>(x.1,a.eval x.2)).toList=M vs'.toArray:=by
    rw[hcells,hmap];exact k1
   unfold execOp;rw[L];simp only[Instr.buildSlice,eM,run_underlying hu,cN,h3];rw[ay (by omega)];by_cases h0:n*sz=0
   .simp only[aC h0]at hk ⊢;simp only[eM,oS,cN,hk,newRow,newObj,ki]
   .simp only[ay h0]at hk ⊢;simp only[eM,oS,cN,h1,hk,newRow,newObj,ki]
  .simp only[];split
   .rename_i h0;subst h0;exact .emp
   refine .row hφ (bU _) ?_ ⟨el,?_⟩
   .have:n<=n*sz:=Nat.le_mul_of_pos_right _ (by omega);unfold maxLen;omega
   .unfold rM;simp[hlen]
 .cases c
end
theorem qX.wren {φ:PM} {E:Nat->Prop} {h:HF} {w w':World} (r:qX φ E h w) {id nx k:Nat} {b b':vG} {ob:Obj} (hb:h id=M b) (hk:φ id=M k) (hnx:φ nx=D) (s:Fa w w' k ob) (hob:jd φ (tot E φ h) w b' ob) (nw:HF) (hnw:nw nx=M b') (hnid:nw id=D):
 ∃φ',φ' nx=M k/\je φ φ' h (eV h [nx,id] nw) w w'/\(∀i k,φ' i=M k->φ i=M k\/i∈[nx])/\qX φ' E (eV h [nx,id] nw) w':=by
 have hne:nx≠id:=λe=>by rw[e,hk]at hnx;cases hnx
 have hsub:∀i x,eV h [nx,id] nw i=M x->i≠nx->h i=M x/\i≠id:=λi x z hi=>by
  unfold eV at z;by_cases hd:i=id
  .subst hd;simp[hnid]at z
  .simp[hi,hd]at z;exact⟨z,hd⟩
 have hφ:∀i,i≠nx->(if i=nx then M k else φ i)=φ i:=λi hi=>by simp[hi]
 have m:je φ (λi=>if i=nx then M k else φ i) h (eV h [nx,id] nw) w w':=by
  refine ⟨λi k' q=>?_,⟨s.os,s.tape,s.output,by rw[s.size];exact bU _,λj hj ho=>?_,λj _=>s.shp j⟩,?_⟩
  .have:i≠nx:=λe=>by rw[e,hnx]at q;cases q
   rw[hφ i this];exact q
  .exact s.other j (λe=>ho (e▸⟨id,b,hb,hk⟩))
  .rintro j hj ⟨i,x,h1,h2⟩;by_cases hi:i=nx
   .simp[hi]at h2;subst h2;exact⟨id,b,hb,hk⟩
   .have A:φ i=M j:=by simpa[hi] using h2
    exact⟨i,x,(hsub i x h1 hi).1,A⟩
 refine ⟨_,by simp,m,λi k' q=>?_,⟨λi j x y Z hi hj h1 h2=>?_,λi x hi=>?_,λk hk=>dB (r.el k hk) m.ext.size,λg cells hg=>m.keepF (r.gl g cells hg)⟩⟩
 .by_cases hi:i=nx
  .right;simp[hi]
  .left;rw[hφ i hi]at q;exact q
 .by_cases a:i=nx
  .by_cases c:j=nx
   .rw[a,c]
   .exfalso;rw[hφ j c]at h2;simp[a]at h1;subst h1;obtain⟨U,L⟩:=hsub j y hj c;exact L (r.inj j id y b k U hb h2 hk)
  .rw[hφ i a]at h1;obtain⟨p1,p2⟩:=hsub i x hi a;by_cases c:j=nx
   .exfalso;simp[c]at h2;subst h2;exact p2 (r.inj i id x b k p1 hb h1 hk)
   .rw[hφ j c]at h2;exact r.inj i j x y Z p1 (hsub j y hj c).1 h1 h2
 .by_cases a:i=nx
  .subst a;have:x=b':=by unfold eV at hi;simp[hnw]at hi;exact hi.symm
   subst this;obtain⟨k',h1,h2,_⟩:=r.at_ id b hb;rw[hk]at h1;cases h1;exact⟨k,by simp,h2,ob,s.at_,hob.mono λ_ _ h=>m.keep h⟩
  .obtain⟨p1,p2⟩:=hsub i x hi a;obtain⟨k',h1,h2,ob',A,h4⟩:=r.at_ i x p1;have hne':k'≠k:=λe=>p2 (r.inj i id x b k p1 hb (e▸h1) hk)
   exact⟨k',by rw[hφ i a];exact h1,h2,ob',by rw[s.other k' hne'];exact A,h4.mono λ_ _ h=>m.keep h⟩
theorem qX.cs {φ:PM} {E:Nat->Prop} {h':HF} {w:World} (hrep:qX φ E h' w) {id k:Nat} {b:vG} (hb:h' id=M b) (hk:φ id=M k) (hc:b.c.isCells=J):
 ∃arr,w.heap[k]? =M (.cells arr b.ty (0,0))/\Cs φ (tot E φ h') w b.c.toMx (arr.toList.take b.c.toMx.length)/\b.c.toMx.length<=arr.size:=by
 obtain⟨k',h1,_,h2⟩:=hrep.at_ id b hb;rw[hk]at h1;cases h1;obtain⟨arr,L,s,q⟩:=h2.cells hc;rw[BC.len_toMx hc]at s;refine ⟨arr,L,⟨by simp;omega,λx a=>?_,λj x v a hv=>?_⟩,s⟩
 .obtain⟨j,hj⟩:=fc a;exact (q j x (by rw[BC.get_toMx hc];exact hj)).1
 .obtain⟨_,u,A,z⟩:=q j x (by rw[BC.get_toMx hc];exact a);rw[cP]at hv;split at hv
  .rw[co,A]at hv;cases hv;exact z
  .cases hv
section
variable {P:Program} {o:Oper} {e:zJ} {h:oh} {nx:Nat} {R:B3}
theorem M0 {t:TypeId} {b:Nat} (hb:E5 P t=M b):∃i,P.info? t=M i/\i.bytes=b:=by
 unfold E5 at hb;cases hi:P.info? t with
 |none=>rw[hi]at hb;cases hb
 |some i=>rw[hi]at hb;simp at hb;exact⟨i,rfl,hb⟩
theorem H4 {n b:Nat} (h:a_ n b=J):n<=1099511627776/\n*b<=1099511627776:=by
 simp only[a_,al]at h;exact⟨a8 h.1,a8 h.2⟩
theorem Y3 {n:Int} (h1: -9223372036854775808<=n) (h2:n<=9223372036854775807):oV .i64 n=n:=by
 rw[<- yr];have:(cX (-9223372036854775808) n&&cX n 9223372036854775807)=J:=by simp[cX,h1,h2]
 simp only[Hk,L2,this,bF]
theorem aii {t el:TypeId} {sz bytes:Nat} {z:ξ} {l c:Operand} (ho:o.op= .makeSlice t l c) (hu:P.underlying t=M (.slice el)) (hz:sW P el=M z) (hs:fy P el=M sz) (hb:E5 P el=M bytes) (hc:mL z=J) (hl:z.length=sz) (hsz:sz≠0)
 (s:eL (.mksl el sz bytes z l c) e h nx=M R):gM P o e.get h.get R.eff:=by
 simp only[eL]at s;split at s
 .rename_i k1 n k2 m q hy;split at s
  .rename_i hcd;simp only[cX,al,bL]at hcd;obtain⟨⟨h0,h1⟩,h2⟩:=hcd;obtain⟨r1,r2⟩:=H4 h2;simp only[ah]at s;subst s;refine gM.makes λφ E h' w a _ hp _=>?_
   have e1:=fm (hp l _ (by rw[ho];simp[Op.operands]) q);have e2:=fm (hp c _ (by rw[ho];simp[Op.operands]) hy);obtain⟨v,z1,z2,_⟩:=tJ hz w;obtain⟨i,i1,i2⟩:=M0 hb;have s1:=gC hs w;have w1:oV .i64 n=n:=Y3 (by omega) (by omega);have w2:oV .i64 m=m:=Y3 (by omega) (by omega);have hbm:(bytes:Int)*m=((m.toNat*bytes:Nat):Int):=by
    rw[Int.natCast_mul,fE (by omega),Int.mul_comm]
   have t1:¬(m<0\/(281474976710656:Int)<bytes*m):=by rw[hbm];omega
   have hr:¬(m.toNat*bytes>roomBytes):=by unfold roomBytes;omega
   have hn0:m.toNat*sz=0->m.toNat=0:=λh=>(Nat.mul_eq_zero.1 h).resolve_right hsz
   let cells:Array Value:=(yi (m.toNat*sz)).map (λi=>v.cells[i%v.cells.size]!)
   refine ⟨.slice (M ⟨w.heap.size,0,D⟩) n.toNat m.toNat,{w with heap:=w.heap.push (.cells cells el)},.cells cells el (0,0),?_,q_ w _,?_,λφ' O hφ=>?_⟩
   .unfold execOp;rw[ho];by_cases L:m.toNat*sz=0
    .obtain rfl:m=0:=by have:=hn0 L;omega
     obtain rfl:n=0:=by omega
     simp[Instr.makeSlice,run_underlying hu,e1,e2,asInt,asIntOf,typeInfo,i1,w1,askRoom,s1,newRow,newObj,ki,cells];rw[show yi 0=#[] from rfl];simp
    .simp[Instr.makeSlice,run_underlying hu,e1,e2,asInt,asIntOf,typeInfo,i1,i2,w1,w2,t1,show ¬n<0 by omega,show ¬m<n by omega,askRoom,hr,s1,L,z1,newRow,newObj,ki,cells]
   .have cs:=Cs.repl (φ:=φ) (O:=tot E φ h') (w:=w) z2 m.toNat sz hl hsz hc;have hle:n.toNat<=m.toNat:=by omega
    have hlen:n.toNat*sz<=m.toNat*sz:=cK _ hle;refine qc rfl (by simp[BC.toMx,mS,hl,cells];exact hlen) λj x q=>?_
    simp only[BC.toMx,ba]at q;have hj:j<n.toNat*z.length:=by
     rcases b7 j (n.toNat*z.length) with h|h
     .exact h
     .rw[bD (by rw[mS];exact h)]at q;cases q
    have Z:j<m.toNat*z.length:=by rw[hl]at hj ⊢;omega
    rw[Ck z _ j hj,<-Ck z m.toNat j Z]at q;have A:((repl z m.toNat).map AV.f)[j]? =M x:=by rw[ba];exact q
    have U:j<cells.toList.length:=by simp[cells];rw[<- hl];exact Z
    exact⟨cs.2.1 x (aZ A),cells.toList[j],by rw[<- co];exact ax U,cs.2.2 j x _ A (ax U)⟩
   .refine .row hφ (by omega) (by unfold maxLen;omega) ⟨el,?_⟩;unfold rM;simp[cells]
  .cases s
 .cases s
theorem aey {t:TypeId} {x y:Operand} {sz:Nat} (U:o.op= .store t x y) (hs:fy P t=M sz) (s:eL (.store sz x y) e h nx=M R):gM P o e.get h.get R.eff:=by
 simp only[eL]at s;split at s
 .rename_i p v hx hy;unfold Kj at s;split at s
  .rename_i id off;split at s
   .rename_i b hb;split at s
    .rename_i hl;split at s
     .rename_i c' hput;simp only[ah]at s;subst s;unfold BC.put at hput;split at hput
      .rename_i hcc;simp only[al]at hcc;obtain⟨⟨c1,c2⟩,c3⟩:=hcc;have c2:=a8 c2;have hl:v.cs.length=sz:=by simpa using hl
       have z:c'.toMx=splice b.c.toMx off v.cs/\c'.isCells=J:=by
        split at hput
        .rename_i l ys hbl hys;simp only[ah]at hput;subst hput;refine ⟨?_,rfl⟩;have hv:=pQ hys;rw[hv,hbl];simp only[BC.toMx];unfold splice;simp[kR,List.map_drop]
        .simp only[ah]at hput;subst hput;exact⟨rfl,rfl⟩
       refine gM.writes hb λφ E h' w a hrd Z hp hrep=>?_
       have hr:=Uy (hp y _ (by rw[U];simp[Op.operands]) hy) c3;have hpx:=hp x _ (by rw[U];simp[Op.operands]) hx;generalize hz:a.eval x=pv at hpx;cases hpx with
       |@ptr _ _ k hφ=>
        obtain⟨arr,g1,g2,g3⟩:=hrep.cs Z hφ c1;have hvl:(a.eval y).cells.toList.length=sz:=by rw[hr.1];exact hl
        rw[BC.len_toMx c1]at c2;have hst:=run_storeCells_at (P:=P) k off b.ty (a.eval y).cells.toList 0 arr w g1 (by rw[hvl];omega) hr.one
        let arr':Array Value:=(arr.toList.take off++(a.eval y).cells.toList++arr.toList.drop (off+sz)).toArray
        have hsize:arr'.size=arr.size:=by simp only[arr',s8,bk,bJ,mN,iC,hvl];omega
        refine ⟨.skip,w.setRow k arr',k,.cells arr' b.ty (0,0),?_,hφ,Fa.setRow g1 hsize,?_,undef,.inr ⟨rfl,rfl⟩,.f (.raw _)⟩
        .have s1:=gC hs w;have hvs:(a.eval y).cells.size=sz:=by simpa using hvl
         simp only[cZ,hvl]at hst;unfold execOp;rw[U];simp[Instr.storeAt,hz,Instr.sureAddr,storeVar,s1,hvs,hst,arr']
        .refine qc z.2 (by rw[z.1,oF (by omega),hsize];exact g3) λj q hq=>?_
         rw[z.1,mQ (by omega)]at hq;have ha':arr'[j]? =if j<off then arr.toList[j]? else if j<off+sz then (a.eval y).cells.toList[j-off]? else arr.toList[j]? :=by
          have:=mQ (l:=arr.toList) (vs:=(a.eval y).cells.toList) (off:=off) (by have:=hvl;simp only[iC]at this ⊢;omega) j;unfold splice at this;rw[hvl]at this;simp only[arr',kB];exact this
         have old:b.c.toMx[j]? =M q->q.isCell=J/\∃u,arr.toList[j]? =M u/\cM φ (tot E φ h') w q u:=λhq=>by
          have hj:j<b.c.toMx.length:=(bi.1 hq).1;have L:j<arr.toList.length:=by simp;omega
          refine ⟨g2.2.1 q (aZ hq),arr.toList[j],ax L,g2.2.2 j q _ hq ?_⟩;rw[cP,aC hj,ax L]
         rw[ha'];by_cases h1:j<off
         .rw[aC h1]at hq ⊢;exact old hq
         .rw[ay h1]at hq ⊢;by_cases h2:j<off+sz
          .rw[aC (by omega)]at hq;rw[aC h2];have A:j-off<(a.eval y).cells.toList.length:=by omega
           exact⟨hr.2.1 q (aZ hq),_,ax A,hr.2.2 _ q _ hq (ax A)⟩
          .rw[ay (by omega)]at hq;rw[ay h2];exact old hq
      .cases hput
     .cases s
    .cases s
   .cases s
  .cases s
 .cases s
end
section
variable {P:Program} {o:Oper} {e:zJ} {h:oh} {nx:Nat} {R:B3}
theorem alo (A:Addr):A.add 0=A:=by cases A;simp[Addr.add]
theorem alr {t el:TypeId} {sz:Nat} {x:Operand} {lo hi mx:I Operand} (L:o.op= .slice t x lo hi mx) (hu:P.underlying t=M (.slice el)) (hs:fy P el=M sz) (s:eL (.slc sz x lo hi mx) e h nx=M R):gM P o e.get h.get R.eff:=by
 simp only[eL]at s;split at s
 .rename_i v hx;split at s
  ·
   rename_i k k';split at s
   .rename_i hsl;rw[dA s];refine gM.reads λφ E h' w a _ hp _=>?_
    have hr:=hp x _ (by rw[L];simp[Op.operands]) hx;have Z:∃A n c,a.eval x= .slice A n c:=by
     generalize a.eval x=z at hr;obtain⟨n,hn⟩:=iQ.1 hsl;unfold AV.slen at hn;split at hn
     .cases hr with
      |f hr=>cases hr with
       |nil=>exact⟨_,_,_,rfl⟩
       |sl=>exact⟨_,_,_,rfl⟩
     .cases fm hr;exact⟨_,_,_,rfl⟩
     .cases hr;exact⟨_,_,_,rfl⟩
     .cases hr;exact⟨_,_,_,rfl⟩
     .cases hr;exact⟨_,_,_,rfl⟩
     .cases hn
    obtain⟨A,n,c,Z⟩:=Z;have s1:=gC hs w;refine ⟨.slice A 0 0,?_,.emp⟩;unfold execOp;rw[L];have z0:∀k,a.eval (.const (.int k 0))= .int k 0:=λ_=>rfl
    simp[pD,uA,run_underlying hu,Z,jY,kL,asIntOf,s1,z0]
   .cases s
  ·
   rename_i b;split at s
   .rename_i id sz' n k j hb;split at s
    .rename_i hc;simp only[cX,al,bL,cU]at hc;obtain⟨⟨rfl,h0⟩,h1⟩:=hc;split at s
     .rename_i blk hblk;split at s
      .rename_i hcl;simp only[al]at hcl;obtain⟨hcells,hlen⟩:=hcl;have hlen:=a8 hlen;rw[BC.len_toMx hcells]at hlen;simp only[ah]at s;subst s;intro φ E h' w a g1 g2 g3 hrep g5;have hp:Vs φ E h' w a e o:=λx y hx U=>tF hrep g3 hx U
       have hb':h' id=M blk:=by rw[g1 id (by simp[B3.eff])];exact hblk
       have hr:=hp x _ (by rw[L];simp[Op.operands]) hx;have hbv:=fm (hp b _ (by rw[L];simp[Op.operands]) hb);have hnx:φ nx=D:=g5 nx (by simp[B3.eff]);generalize Z:a.eval x=z at hr;cases hr with
       |@row _ _ _ c q hφ hn hcap hsh=>
        obtain⟨arr,a1,a2,a3⟩:=hrep.cs hb' hφ hcells;have s1:=gC hs w;have hne:nx≠id:=λe=>by rw[e,hφ]at hnx;cases hnx
        have hnw1:jm [(nx,⟨blk.ty,pt (blk.c.toMx.take (j.toNat*sz'))⟩)] nx=M (⟨blk.ty,pt (blk.c.toMx.take (j.toNat*sz'))⟩:vG):=by simp[jm]
        have hnw2:jm [(nx,⟨blk.ty,pt (blk.c.toMx.take (j.toNat*sz'))⟩)] id=D:=by
         simp only[jm];rw[ay];intro hb;exact hne (ar hb)
        have a4:=a2.take (j.toNat*sz');obtain⟨φ',p1,p2,p3,p4⟩:=hrep.wren hb' hφ hnx (w':=w) ⟨rfl,rfl,rfl,rfl,a1,λ_ _=>rfl,λ_=>rfl⟩ (b':=⟨blk.ty,pt (blk.c.toMx.take (j.toNat*sz'))⟩) (by
         obtain⟨q1,q2⟩:=nU (blk.c.toMx.take (j.toNat*sz'));refine qc q2 (by rw[q1,bJ];omega) λi x hx=>?_
         rw[q1]at hx;have hi:i<((arr.toList.take blk.c.toMx.length).take (j.toNat*sz')).length:=by rw[a4.1];exact (bi.1 hx).1
         refine ⟨a4.2.1 x (aZ hx),_,?_,a4.2.2 i x _ hx (ax hi)⟩;have hi':i<arr.size:=by simp at hi;omega
         simp[hi']) _ hnw1 hnw2
        have hrun:(execOp a.eval o).run P w= .ok (.value (.slice (M ⟨q,0,D⟩) j.toNat c)) w:=by
         unfold execOp;rw[L];simp[pD,uA,run_underlying hu,Z,jY,kL,asIntOf,s1,hbv,h0,show j<=c by omega,lw]
        unfold Hh;rw[hrun];exact⟨_,φ',rfl,p2,p3,p4,.row p1 (by omega) hcap hsh⟩
      .cases s
     .cases s
    .cases s
   .rename_i cells n k j hb;split at s
    .rename_i hc;simp only[cX,al,bL]at hc;obtain⟨⟨h0,h1⟩,h2⟩:=hc;have h2:=a8 h2;rw[dA s];refine gM.reads λφ E h' w a _ hp _=>?_
     have hr:=hp x _ (by rw[L];simp[Op.operands]) hx;have hbv:=fm (hp b _ (by rw[L];simp[Op.operands]) hb);generalize Z:a.eval x=z at hr;have s1:=gC hs w;cases hr with
     |f hr=>
      cases hr with
      |nil A c hc=>
       have hj:j=0:=by omega
       subst hj;refine ⟨.slice A 0 c,?_,by simpa using cM.f (.nil A c hc)⟩;unfold execOp;rw[L];cases A<;>simp[pD,uA,run_underlying hu,Z,jY,kL,asIntOf,s1,hbv,alo]
      |sl _ _ c q off us hn hc hO hq hcl hu' hr=>
       refine ⟨.slice (M ⟨q,off,D⟩) j.toNat c,?_,.f (.sl _ _ _ _ _ us (by omega) hc hO hq (λy U=>hcl y (hY U)) (λi hi=>hu' i (by rw[bJ]at hi;omega)) λi y U=>?_)⟩
       .unfold execOp;rw[L];simp[pD,uA,run_underlying hu,Z,jY,kL,asIntOf,s1,hbv,h0,show j<=c by omega,lw]
       .rw[cP]at U;split at U
        .exact hr i y U
        .cases U
    .cases s
   .cases s
  ·
   rename_i b;split at s
   .rename_i id sz' n k j hb;split at s
    .rename_i hc;simp only[cX,fK,al,bL,cU]at hc;obtain⟨⟨rfl,h0⟩,h1⟩:=hc;rw[dA s];refine gM.reads λφ E h' w a _ hp _=>?_
     have hr:=hp x _ (by rw[L];simp[Op.operands]) hx;have hbv:=fm (hp b _ (by rw[L];simp[Op.operands]) hb);generalize Z:a.eval x=z at hr;cases hr with
     |@row _ _ _ c q hφ hn hc hsh=>
      have s1:=gC hs w;refine ⟨.slice (M ⟨q,0+j.toNat*sz',D⟩) (n-j.toNat) (c-j.toNat),?_,?_⟩
      .unfold execOp;rw[L];simp[pD,uA,run_underlying hu,Z,jY,kL,asIntOf,s1,hbv,h0,show j<=n by omega,show ¬c=j.toNat by omega,lw]
      .rw[bG];exact .sl hφ (by omega) (by omega)
    .cases s
   .rename_i cells n k j hb;split at s
    .rename_i hc;simp only[cX,al,bL]at hc;obtain⟨⟨h0,h1⟩,h2⟩:=hc;have h2:=a8 h2;rw[dA s];refine gM.reads λφ E h' w a _ hp _=>?_
     have hr:=hp x _ (by rw[L];simp[Op.operands]) hx;have hbv:=fm (hp b _ (by rw[L];simp[Op.operands]) hb);generalize Z:a.eval x=z at hr;have s1:=gC hs w;cases hr with
     |f hr=>
      cases hr with
      |nil A c hc=>
       have hj:j=0:=by omega
       subst hj;have hex:∃A',(execOp a.eval o).run P w= .ok (.value (.slice A' 0 c)) w:=by
        unfold execOp;rw[L];cases A with
        |none=>exact⟨D,by simp[pD,uA,run_underlying hu,Z,jY,kL,asIntOf,s1,hbv]⟩
        |some A=>exact⟨M A,by simp[pD,uA,run_underlying hu,Z,jY,kL,asIntOf,s1,hbv,alo]⟩
       obtain⟨A',hex⟩:=hex;exact⟨.slice A' 0 c,hex,by simpa using cM.f (.nil A' c hc)⟩
      |sl _ _ c q off us hn hc hO hq hcl hu' hr=>
       by_cases hcj:c=j.toNat
       .refine ⟨.slice (M ⟨q,off,D⟩) 0 0,?_,?_⟩
        .unfold execOp;rw[L];simp[pD,uA,run_underlying hu,Z,jY,kL,asIntOf,s1,hbv,h0,show j<=n by omega,hcj,show n-j.toNat=0 by omega,lw]
        .rw[show n-j.toNat=0 by omega];simpa using cM.f (.nil (M ⟨q,off,D⟩) 0 (by unfold maxLen;omega))
       .refine ⟨.slice (M ⟨q,off+j.toNat*sz,D⟩) (n-j.toNat) (c-j.toNat),?_,.f (.sl _ _ _ _ _ (λi=>us (j.toNat*sz+i)) (by omega) (by omega) hO hq (λy U=>hcl y (List.mem_of_mem_drop (hY U))) (λi hi=>?_) λi y U=>?_)⟩
        .unfold execOp;rw[L];simp[pD,uA,run_underlying hu,Z,jY,kL,asIntOf,s1,hbv,h0,show j<=n by omega,hcj,lw]
        .rw[sI];refine hu' _ ?_;rw[bJ,mN]at hi;omega
        .rw[cP]at U;split at U
         .rw[hZ]at U;exact hr _ y U
         .cases U
    .cases s
   .cases s
  .cases s
 .cases s
theorem Zm {sz:Nat} {x:AV} {src:Y AV} {m:Nat} {rd:ι} (hrow:x.row? h sz=M (src,m,rd)) {φ:PM} {E:Nat->Prop} {h':HF} {w:World} (hrd:∀i∈rd,h' i=h.get i) (hrep:qX φ E h' w) {v:Value} (hr:cM φ (tot E φ h') w x v):
 ∃A c vs,v= .slice A m c/\Cs φ (tot E φ h') w src vs/\vs.length=m*sz/\(A=D->vs=[])/\(∀z,A=M z->∀(j:Nat) u,vs[j]? =M u->w.cell? (z.add j)=M u):=by
 have emp:∀A c,v= .slice A 0 c->src=[]->m=0->∃A c vs,v= .slice A m c/\Cs φ (tot E φ h') w src vs/\vs.length=m*sz/\(A=D->vs=[])/\(∀z,A=M z->∀(j:Nat) u,vs[j]? =M u->w.cell? (z.add j)=M u):=by
  rintro A c rfl rfl rfl;exact⟨A,c,[],rfl,⟨rfl,(by intro x s;cases s),(by intro j x v s;simp at s)⟩,by simp,λ_=>rfl,by intro z _ j u hu;simp at hu⟩
 have own:∀(id off n c k:Nat) (b:vG),φ id=M k->h' id=M b->b.c.isCells=J->off+n*sz<=b.c.len->v= .slice (M ⟨k,off,D⟩) n c->src=(b.c.toMx.drop off).take (n*sz)->m=n->
  ∃A c vs,v= .slice A m c/\Cs φ (tot E φ h') w src vs/\vs.length=m*sz/\(A=D->vs=[])/\(∀z,A=M z->∀(j:Nat) u,vs[j]? =M u->w.cell? (z.add j)=M u):=by
  rintro id off n c k b hφ hb hc hle rfl rfl rfl;obtain⟨arr,g1,g2,g3⟩:=hrep.cs hb hφ hc;rw[BC.len_toMx hc]at hle;refine ⟨_,c,((arr.toList.take b.c.toMx.length).drop off).take (m*sz),rfl,(g2.drop off).take _,?_,(λh=>by cases h),?_⟩
  .simp;omega
  .intro z had j u hu;cases had;rw[lw];rw[cP]at hu;split at hu
   .rw[hZ,cP]at hu;split at hu
    .rw[co]at hu;simp[Nc,g1,hu]
    .cases hu
   .cases hu
 unfold AV.row? at hrow;split at hrow
 .rename_i cells n;split at hrow
  .rename_i hle;have hle:=a8 hle;simp only[ah,aD]at hrow;obtain⟨rfl,rfl,rfl⟩:=hrow;cases hr with
   |f hr=>
    cases hr with
    |nil a c hc=>exact emp a c rfl (by simp) rfl
    |sl _ _ c b off us hn hc hO hb hcl hu hr=>
     refine ⟨_,c,(dR (n*sz)).map us,rfl,⟨by simp;omega,λx s=>?_,λj x u s L=>?_⟩,by simp,(λh=>by cases h),?_⟩
     .obtain⟨y,Z,rfl⟩:=db.1 s;exact hcl y (hY Z)
     .obtain⟨rfl,hj⟩:=xn us _ _ _ L;rw[ba,cP,aC hj]at s;cases hq:cells[j]? with
      |none=>rw[hq]at s;cases s
      |some q=>rw[hq]at s;simp at s;subst s;exact .f (hr j q hq)
     .intro z had j u L;cases had;obtain⟨rfl,hj⟩:=xn us _ _ _ L;rw[lw];exact hu j (by omega)
  .cases hrow
 .simp only[ah,aD]at hrow;obtain⟨rfl,rfl,rfl⟩:=hrow;exact emp D 0 (fm hr) rfl rfl
 .simp only[ah,aD]at hrow;obtain⟨rfl,rfl,rfl⟩:=hrow;cases hr with
  |@emp a=>exact emp a 0 rfl rfl rfl
 .rename_i id sz' n;split at hrow
  .rename_i hsz;split at hrow
   .rename_i b hb;split at hrow
    .rename_i hc;simp only[al]at hc;simp only[ah,aD]at hrow;obtain⟨rfl,rfl,rfl⟩:=hrow;cases hr with
     |@row _ _ _ c k hφ hn U hsh=>
      exact own id 0 n c k b hφ (by rw[hrd id (by simp)];exact hb) hc.1 (by rw[bG];exact a8 hc.2) rfl (by simp) rfl
    .cases hrow
   .cases hrow
  .cases hrow
 .rename_i id off n;split at hrow
  .rename_i b hb;split at hrow
   .rename_i hc;simp only[al]at hc;simp only[ah,aD]at hrow;obtain⟨rfl,rfl,rfl⟩:=hrow;cases hr with
    |@sl _ _ _ c k hφ hn U=>exact own id off n c k b hφ (by rw[hrd id (by simp)];exact hb) hc.1 (a8 hc.2) rfl rfl rfl
   .cases hrow
  .cases hrow
 .cases hrow
theorem acz {sz:Nat} {x:AV} {src:Y AV} {m:Nat} {rd:ι} (hrow:x.row? h sz=M (src,m,rd)) {φ:PM} {E:Nat->Prop} {h':HF} {w:World} (hrd:∀i∈rd,h' i=h.get i) (hrep:qX φ E h' w) {v:Value} (hr:cM φ (tot E φ h') w x v) {a el:TypeId} (hk:P.underlying a=M (.slice el)):
 ∃vs,Src P sz a v m vs w/\Cs φ (tot E φ h') w src vs:=by
 obtain⟨A,c,vs,rfl,h1,h2,z,s⟩:=Zm hrow hrd hrep hr;refine ⟨vs,?_,h1⟩;cases A with
 |none=>
  have:=z rfl;subst this;have hm:m*sz=0:=by simpa using h2.symm
  refine ⟨.inl ⟨el,hk⟩,λ_=>rfl,run_firstCells_none w sz m m c,run_firstCells_none w.drew sz m m c,by simp[hm],λ_ h=>by cases h⟩
 |some q=>exact Src.ofSlice w hk q m c vs h2 (s q rfl) h1.one
theorem ahk {x:Nat}:∀{l:ι},TO x l=J↔x∈l
 |[]=>by simp[TO]
 |y::r=>by
  simp only[TO,iY,ahk (l:=r),bh];constructor
  .rintro (h|h)
   .exact .inl (ar h).symm
   .exact .inr h
  .rintro (h|h)
   .subst h;exact .inl (rO x)
   .exact .inr h
theorem aio {t u el el':TypeId} {d x:Operand} {sz:Nat} (ho:o.op= .call {callee:=.builtin .copy,args:=#[d,x],argTypes:=#[t,u]}) (hu:P.underlying t=M (.slice el)) (hu':P.underlying u=M (.slice el')) (hs:fy P el=M sz) (z:eL (.copy sz d x) e h nx=M R):gM P o e.get h.get R.eff:=by
 simp only[eL]at z;split at z
 .rename_i id sz' n y hd hx;split at z
  .rename_i blk src m rd hblk hrow;split at z
   .rename_i hc;simp only[al,cU,eD]at hc;obtain⟨⟨rfl,hmem⟩,hlen⟩:=hc;split at z
    .rename_i c' hput;simp only[ah]at z;subst z;unfold BC.put at hput;split at hput
     .rename_i hcc;simp only[al]at hcc;obtain⟨⟨c1,c2⟩,c3⟩:=hcc;have c2:=a8 c2;rw[bG]at c2;have L:c'.toMx=splice blk.c.toMx 0 (src.take (iW m n*sz'))/\c'.isCells=J:=by
       split at hput
       .rename_i l ys hbl hys;simp only[ah]at hput;subst hput;refine ⟨?_,rfl⟩;have hv:=pQ hys;rw[hv,hbl];simp only[BC.toMx];unfold splice;simp[kR,List.map_drop]
       .simp only[ah]at hput;subst hput;exact⟨rfl,rfl⟩
      refine gM.writes hblk λφ E h' w a hrd hb' hp hrep=>?_
      have hpd:=hp d _ (by rw[ho];simp[Op.operands,eU]) hd;have hpx:=hp x _ (by rw[ho];simp[Op.operands,eU]) hx;obtain⟨A,c,vs,hv,q1,q2,q3,q4⟩:=Zm hrow (λi hi=>hrd i (by simp[hi])) hrep hpx;generalize hz:a.eval d=pv at hpd;cases hpd with
      |@row _ _ _ cap k hφ hn hcap hsh=>
       obtain⟨arr,g1,g2,g3⟩:=hrep.cs hb' hφ c1;rw[BC.len_toMx c1]at c2;have hmn:iW m n<=m:=Nat.min_le_left _ _;have hle:iW m n*sz'<=m*sz':=cK _ hmn
       let s:=vs.take (iW m n*sz')
       have hnl:s.length=iW m n*sz':=by simp only[s,bJ,q2];omega
       have hsl:(src.take (iW m n*sz')).length=iW m n*sz':=by rw[bJ,<-q1.1,q2];omega
       have csn:=q1.take (iW m n*sz');rw[hsl]at c2;have hst:=run_storeCells_at (P:=P) k 0 blk.ty s 0 arr w g1 (by rw[hnl];omega) csn.one
       let arr':Array Value:=(arr.toList.take 0++s++arr.toList.drop (0+iW m n*sz')).toArray
       have hsize:arr'.size=arr.size:=by simp only[arr',s8,bk,bJ,mN,iC,hnl];omega
       have hfc:(KH sz' (iW m n) (.slice A m c)).run P w= .ok s.toArray w:=by
        cases A with
        |none=>
         have:s=[]:=by simp[s,q3 rfl]
         rw[this];exact run_firstCells_none w sz' _ _ _
        |some ad=>exact run_firstCells_some w sz' _ ad m c s hnl (λj u hu=>q4 ad rfl j u (by
          simp only[s,cP]at hu;split at hu
          .exact hu
          .cases hu))
       refine ⟨.value (.int .i64 (iW m n)),w.setRow k arr',k,.cells arr' blk.ty (0,0),?_,hφ,Fa.setRow g1 hsize,?_,_,.inl rfl,.f (.raw _)⟩
       .have s1:=gC hs w;simp only[cZ,hnl]at hst;unfold execOp;rw[ho];simp[resolve,invoke,builtin,Builtin.copy_,run_underlying hu,hz,hv,Builtin.lenOf,s1,hfc,hst,goInt,arr']
       .refine qc L.2 (by rw[L.1,oF (by rw[hsl];omega),hsize];exact g3) λj q hq=>?_
        rw[L.1,mQ (by rw[hsl];omega)]at hq;have ha':arr'[j]? =if j<0 then arr.toList[j]? else if j<0+s.length then s[j-0]? else arr.toList[j]? :=by
         have:=mQ (l:=arr.toList) (vs:=s) (off:=0) (by simp only[iC];omega) j;unfold splice at this;simp only[arr',kB];rw[<- this,hnl]
        rw[ha',ay (by omega)];rw[ay (by omega),hsl]at hq;rw[hnl];by_cases h2:j<0+iW m n*sz'
        .rw[aC h2]at hq ⊢;have U:j-0<s.length:=by rw[hnl];omega
         exact⟨csn.2.1 q (aZ hq),_,ax U,csn.2.2 _ q _ hq (ax U)⟩
        .rw[ay h2]at hq ⊢;have hj:j<blk.c.toMx.length:=(bi.1 hq).1;have Z:j<arr.toList.length:=by simp;omega
         refine ⟨g2.2.1 q (aZ hq),arr.toList[j],ax Z,g2.2.2 j q _ hq ?_⟩;rw[cP,aC hj,ax Z]
     .cases hput
    .cases z
   .cases z
  .cases z
 .cases z
theorem am6 {t el:TypeId} {sz:Nat} {z:ξ} {x:Operand} (ho:o.op= .call {callee:=.builtin .clear,args:=#[x],argTypes:=#[t]}) (hu:P.underlying t=M (.slice el)) (hz:sW P el=M z) (hc:mL z=J) (hl:z.length=sz) (hsz:sz≠0) (A:eL (.clr sz z x) e h nx=M R):gM P o e.get h.get R.eff:=by
 simp only[eL]at A;split at A
 .rename_i id off n hx;split at A
  .rename_i blk hblk;split at A
   .rename_i hn;have hn:=a8 hn;obtain⟨m,rfl⟩:∃m,n=m+1:=⟨n-1,by omega⟩
    split at A
    .rename_i c' hput;simp only[ah]at A;subst A;unfold BC.put at hput;split at hput
     .rename_i hcc;simp only[al]at hcc;obtain⟨⟨c1,c2⟩,c3⟩:=hcc;have c2:=a8 c2;have hsrc:((repl z (m+1)).map AV.f).length=(m+1)*sz:=by rw[bx,mS,hl]
      rw[hsrc]at c2;have U:c'.toMx=splice blk.c.toMx off ((repl z (m+1)).map AV.f)/\c'.isCells=J:=by
       split at hput
       .rename_i l ys hbl hys;simp only[ah]at hput;subst hput;refine ⟨?_,rfl⟩;have hv:=pQ hys;rw[hv,hbl];simp only[BC.toMx];unfold splice;simp[kR,List.map_drop]
       .simp only[ah]at hput;subst hput;exact⟨rfl,rfl⟩
      refine gM.writes hblk λφ E h' w a hrd hb' hp hrep=>?_
      have hpx:=hp x _ (by rw[ho];simp[Op.operands,eU]) hx;generalize hzv:a.eval x=pv at hpx;cases hpx with
      |@sl _ _ _ cap k hφ hn2 hcap=>
       obtain⟨arr,g1,g2,g3⟩:=hrep.cs hb' hφ c1;rw[BC.len_toMx c1]at c2;obtain⟨v,z1,z2,_⟩:=tJ hz w;have csn:=Cs.repl (φ:=φ) (O:=tot E φ h') (w:=w) z2 (m+1) sz hl hsz hc
       let L:=(lM v.cells (m+1)).toList
       have hvs:v.cells.size=sz:=by rw[<- hl,<-z2];simp
       have hns:L=((yi ((m+1)*sz)).map (λi=>v.cells[i%v.cells.size]!)).toList:=by simp only[L,lM,hvs]
       have hnl:L.length=(m+1)*sz:=by rw[hns];simp
       rw[<- hns]at csn;have hst:=run_storeCells_at (P:=P) k off blk.ty L 0 arr w g1 (by rw[hnl];omega) csn.one
       let arr':Array Value:=(arr.toList.take (off+0)++L++arr.toList.drop (off+0+L.length)).toArray
       have hsize:arr'.size=arr.size:=by simp only[arr',s8,bk,bJ,mN,iC,hnl];omega
       refine ⟨.value (.tuple #[]),w.setRow k arr',k,.cells arr' blk.ty (0,0),?_,hφ,Fa.setRow g1 hsize,?_,_,.inl rfl,.tup (vs:=[]) rfl λj y v hy=>by simp at hy⟩
       .unfold execOp;rw[ho];have hst2:(storeCells ⟨k,off,D⟩ (lM v.cells (m+1)).toList).run P w= .ok () (w.setRow k arr'):=hst;simp[resolve,invoke,builtin,Builtin.clear_,run_underlying hu,hzv,z1,hst2]
       .refine qc U.2 (by rw[U.1,oF (by rw[hsrc];omega),hsize];exact g3) λj q hq=>?_
        rw[U.1,mQ (by rw[hsrc];omega)]at hq;have ha':arr'[j]? =if j<off then arr.toList[j]? else if j<off+L.length then L[j-off]? else arr.toList[j]? :=by
         have:=mQ (l:=arr.toList) (vs:=L) (off:=off) (by simp only[iC];omega) j;unfold splice at this;simp only[arr',kB,cZ];rw[<- this]
        rw[ha'];rw[hsrc]at hq;rw[hnl];by_cases h1:j<off
        .rw[aC h1]at hq ⊢;have hj:j<blk.c.toMx.length:=(bi.1 hq).1;have s:j<arr.toList.length:=by simp;omega
         refine ⟨g2.2.1 q (aZ hq),arr.toList[j],ax s,g2.2.2 j q _ hq ?_⟩;rw[cP,aC hj,ax s]
        rw[ay h1]at hq ⊢;by_cases h2:j<off+(m+1)*sz
        .rw[aC h2]at hq ⊢;have Z:j-off<L.length:=by rw[hnl];omega
         exact⟨csn.2.1 q (aZ hq),_,ax Z,csn.2.2 _ q _ hq (ax Z)⟩
        .rw[ay h2]at hq ⊢;have hj:j<blk.c.toMx.length:=(bi.1 hq).1;have s:j<arr.toList.length:=by simp;omega
         refine ⟨g2.2.1 q (aZ hq),arr.toList[j],ax s,g2.2.2 j q _ hq ?_⟩;rw[cP,aC hj,ax s]
     .cases hput
    .cases A
   .cases A
  .cases A
 .cases A
end
theorem L3 (w:World) (ob:Obj):Sl w (w.drew.alloc ob) ob:=Sl.drawn (w.drawn+1) (q_ {w with drawn:=w.drawn+1} ob)
section
variable {P:Program} {o:Oper} {e:zJ} {h:oh} {nx:Nat} {R:B3}
theorem HN {v:Value} {z:ξ} {sz:Nat} (hv:v.cells.toList=z) (hl:z.length=sz) (n:Nat):(lM v.cells n).size=n*sz:=by
 have:v.cells.size=sz:=by rw[<- hl,<-hv];simp
 simp[lM,this]
theorem Sc {t u el:TypeId} {s x:Operand} {i:TypeInfo} {z:ξ} (ho:o.op= .call {callee:=.builtin .append,args:=#[s,x],argTypes:=#[t,u]}) (hu:P.underlying t=M (.slice el)) (Z:P.info? el=M i) (hz:sW P el=M z) (hzl:z.length=i.size)
 {φ:PM} {E:Nat->Prop} {h':HF} {w:World} {a:Act} (hrep:qX φ E h' w) (hnx:φ nx=D) {A:I Addr} {n cap m:Nat} {olds vs:ξ} {oldA src:Y AV} (hsl:a.eval s= .slice A n cap)
 (hold:(KH i.size n (.slice A n cap)).run P w.drew= .ok olds.toArray w.drew) (csold:Cs φ (tot E φ h') w oldA olds) (hol:olds.length=n*i.size) (hsrc:Src P i.size u (a.eval x) m vs w) (hcs:Cs φ (tot E φ h') w src vs)
 (hg:cap<n+m) (r1:n+m<=1099511627776) (r2:(n+m)*i.bytes<=1099511627776) (del:ι) (hdel:∀j∈del,j≠nx):
 o.wp P a w (λa' w'=>∃v φ',a'=a.put o.dst v/\je φ φ' h' (eV h' (nx::del) (jm [(nx,⟨el,pt (oldA++src)⟩)])) w w'/\(∀i k,φ' i=M k->φ i=M k\/i∈[nx])/\
  qX φ' E (eV h' (nx::del) (jm [(nx,⟨el,pt (oldA++src)⟩)])) w'/\cM φ' (tot E φ' (eV h' (nx::del) (jm [(nx,⟨el,pt (oldA++src)⟩)]))) w' (.row nx i.size (n+m)) v) (λ_ _ _=>False):=by
 obtain⟨L,z1,z2,i',c,z3⟩:=tJ hz w;rw[Z]at c;cases c;have hfb:=growslice_fits (need:=n+m) (old:=cap) (bytes:=i.bytes) hg (by omega);have hrun:=run_append_grow_src w t u o.type el i L hu Z z3 A n cap olds hold (a.eval x) m vs hsrc hg (by omega) hfb;have hgc:=grownCap_ge w (n+m) cap el;have hgm:=grownCap_le_maxLen w (n+m) cap el (by unfold maxLen;omega);generalize grownCap w (n+m) cap el=Gc at hrun hgc hgm;have cs:=csold.append hcs;have hnl:=hsrc.newsLen;obtain⟨φ',p1,p2,p3,p4⟩:=hrep.wnew hnx (L3 w _) (b:=⟨el,pt (oldA++src)⟩) (ob:=.cells ((olds++vs).toArray++lM L.cells (Gc-(n+m))) el (0,0)) (by
  obtain⟨U,q2⟩:=nU (oldA++src);refine qc q2 (by rw[U,<-cs.1];simp) λj q hq=>?_
  rw[U]at hq;have hj:j<(olds++vs).length:=by rw[cs.1];exact (bi.1 hq).1
  refine ⟨cs.2.1 q (aZ hq),_,?_,cs.2.2 j q _ hq (ax hj)⟩;rw[Array.getElem?_append_left (by simpa using hj),kB,ax hj]) del (jm [(nx,⟨el,pt (oldA++src)⟩)]) (by simp[jm]) (λj hj hne=>by
   simp only[jm];rw[ay];intro hb;exact hne (ar hb).symm)
 have hexec:(execOp a.eval o).run P w= .ok (.value (.slice (M ⟨w.heap.size,0,D⟩) (n+m) Gc)) (w.drew.alloc (.cells ((olds++vs).toArray++lM L.cells (Gc-(n+m))) el)):=by
  unfold execOp;rw[ho];simp only[resolve,invoke,builtin,eM,oS,cN,List.map_toArray,eS,List.map_nil,hsl,hrun]
 unfold Hh;rw[hexec];refine ⟨_,φ',rfl,p2,p3,p4,.row p1 hgc hgm ⟨el,?_⟩⟩;have:=(L3 w (.cells ((olds++vs).toArray++lM L.cells (Gc-(n+m))) el (0,0))).at_;unfold rM;rw[this];have hzs:=HN z2 hzl (Gc-(n+m));have e1:(n+m)*i.size+(Gc-(n+m))*i.size=Gc*i.size:=by rw[<- Nf];congr 1;omega
 simp only[Array.size_append,s8,bk,hol,hnl,hzs];congr 2;rw[<- e1,Nf]
theorem am9 {t u el el':TypeId} {s x:Operand} {sz bytes:Nat} {z:ξ} (ho:o.op= .call {callee:=.builtin .append,args:=#[s,x],argTypes:=#[t,u]}) (hu:P.underlying t=M (.slice el)) (hu':P.underlying u=M (.slice el')) (hs:fy P el=M sz) (hb:E5 P el=M bytes) (hz:sW P el=M z) (hzl:z.length=sz) (hsz:sz≠0)
 (L:eL (.app el sz bytes s x) e h nx=M R):gM P o e.get h.get R.eff:=by
 obtain⟨i,i1,i2⟩:=M0 hb;have i3:i.size=sz:=by unfold fy at hs;rw[i1]at hs;simpa using hs
 subst i2;subst i3;simp only[eL]at L;split at L
 .rename_i bv y hsv Z;split at L
  .rename_i src m rd hrow;have common:∀{φ:PM} {E:Nat->Prop} {h':HF} {w:World} {a:Act},(∀i∈rd,h' i=h.get i)->Vs φ E h' w a e o->qX φ E h' w->∃vs,Src P i.size u (a.eval x) m vs w/\Cs φ (tot E φ h') w src vs:=
    λhrd hp hrep=>acz hrow hrd hrep (hp x _ (by rw[ho];simp[Op.operands,eU]) Z) hu'
   have exec:∀{w w':World} {a:Act} {v:Value},(Builtin.append_ #[t,u] o.type #[a.eval s,a.eval x]).run P w= .ok v w'->(execOp a.eval o).run P w= .ok (.value v) w':=by
    intro w w' a v hrun;unfold execOp;rw[ho];simp[resolve,invoke,builtin,hrun]
   split at L
   .rename_i id sz' n;split at L
    .rename_i blk hblk;split at L
     .rename_i hc;simp only[al,cU,eD]at hc;obtain⟨⟨⟨⟨⟨rfl,hmem⟩,hcells⟩,hlen⟩,hty⟩,hroom⟩:=hc;have hlen:=a8 hlen;rw[BC.len_toMx hcells]at hlen;obtain⟨r1,r2⟩:=H4 hroom;simp only[ah]at L;subst L;subst hty;intro φ E h' w a h1 h2 h3 hrep h5;have hp:Vs φ E h' w a e o:=λx y Z hy=>tF hrep h3 Z hy
      have hb':h' id=M blk:=by rw[h1 id (by simp[B3.eff])];exact hblk
      obtain⟨vs,hsrc,hcs⟩:=common (λi hi=>h1 i (by simp[B3.eff,hi])) hp hrep;have hpd:=hp s _ (by rw[ho];simp[Op.operands,eU]) hsv;have hnx:φ nx=D:=h5 nx (by simp[B3.eff]);have hwv:=hp s _ (by rw[ho];simp[Op.operands,eU]) hsv;generalize hzv:a.eval s=pv at hpd;cases hpd with
      |@row _ _ _ cap k hφ hn hcap hsh=>
       obtain⟨arr,g1,g2,g3⟩:=hrep.cs hb' hφ hcells;have hne:nx≠id:=λe=>by rw[e,hφ]at hnx;cases hnx
       have harr:arr.size=cap*i.size:=by
        obtain⟨ty,hty⟩:=hsh;unfold rM at hty;rw[g1]at hty;simp at hty;exact hty.2
       have hnl:=hsrc.newsLen;have hnn:n*i.size<=arr.size:=by omega
       have csnew:Cs φ (tot E φ h') w (blk.c.toMx.take (n*i.size)++src) (arr.toList.take (n*i.size)++vs):=by
        have:=(g2.take (n*i.size)).append hcs
        rwa [List.take_take,sG hlen]at this
       have hnw1:jm [(nx,⟨blk.ty,pt (blk.c.toMx.take (n*i.size)++src)⟩)] nx=M ⟨blk.ty,pt (blk.c.toMx.take (n*i.size)++src)⟩:=by simp[jm]
       have hnw2:jm [(nx,⟨blk.ty,pt (blk.c.toMx.take (n*i.size)++src)⟩)] id=D:=by
        simp only[jm];rw[ay];intro hb;exact hne (ar hb)
       by_cases hfit:n+m<=cap
       ·
        have hend:n*i.size+vs.length<=arr.size:=by
         rw[hnl,harr,<-Nf];exact cK _ hfit
        have hst:=run_storeCells_at (P:=P) k (n*i.size) blk.ty vs 0 arr w g1 (by omega) hsrc.one;simp only[cZ]at hst
        let arr':Array Value:=(arr.toList.take (n*i.size)++vs++arr.toList.drop (n*i.size+vs.length)).toArray
        have hsize:arr'.size=arr.size:=by simp only[arr',s8,bk,bJ,mN,iC];omega
        have hrun:(Builtin.append_ #[t,u] o.type #[a.eval s,a.eval x]).run P w= .ok (.slice (M ⟨k,0,D⟩) (n+m) cap) (w.setRow k arr'):=by
         rw[hzv];rcases hsrc.kind with ⟨e',hk⟩|hk<;>simp[Builtin.append_,run_underlying hu,run_underlying hk,sizeOf,typeInfo,i1,hsrc.len,hfit,hsrc.cells,lw,hst,arr']
        obtain⟨φ',p1,p2,p3,p4⟩:=hrep.wren hb' hφ hnx (Fa.setRow g1 hsize) (b':=⟨blk.ty,pt (blk.c.toMx.take (n*i.size)++src)⟩) (by
         obtain⟨q1,q2⟩:=nU (blk.c.toMx.take (n*i.size)++src);refine qc q2 (by rw[q1,<-csnew.1,hsize];simp;omega) λj q hq=>?_
         rw[q1]at hq;have hj:j<(arr.toList.take (n*i.size)++vs).length:=by rw[csnew.1];exact (bi.1 hq).1
         refine ⟨csnew.2.1 q (aZ hq),_,?_,csnew.2.2 j q _ hq (ax hj)⟩;simp only[arr',kB];rw[bP hj,ax hj]) _ hnw1 hnw2
        unfold Hh;rw[exec hrun];refine ⟨_,φ',rfl,p2,p3,p4,.row p1 hfit hcap ⟨blk.ty,?_⟩⟩;unfold rM;rw[setRow_heap w k arr arr' blk.ty (0,0) g1];simp[hsize,harr]
       ·
        have hold:(KH i.size n (.slice (M ⟨k,0,D⟩) n cap)).run P w.drew= .ok (arr.toList.take (n*i.size)).toArray w.drew:=by
         refine run_firstCells_some w.drew i.size n _ n cap _ (by simp;omega) λj v hv=>?_
         rw[cP]at hv;split at hv
         .rw[co]at hv;rw[lw,bG];have hcl:w.cell? ⟨k,j,D⟩=M v:=by simp[Nc,g1,hv]
          simpa using hcl
         .cases hv
        exact Sc ho hu i1 hz hzl hrep hnx hzv hold (by
         have:=g2.take (n*i.size)
         rwa [List.take_take,sG hlen]at this) (by simp;omega) hsrc hcs (by omega) r1 r2 [id] (λj hj=>by simp at hj;subst hj;exact λe=>hne e.symm)
     .cases L
    .cases L
   .split at L
    .rename_i hc;simp only[al]at hc;obtain⟨U,hroom⟩:=hc;obtain⟨r1,r2⟩:=H4 hroom;have hbase:∀{φ:PM} {O:Nat->Prop} {w:World} {v:Value},cM φ O w bv v->∃A,v= .slice A 0 0:=by
      intro φ O w v hr;unfold Iz at U;split at U
      .cases hr;exact⟨_,rfl⟩
      .rename_i q;cases fm hr;unfold tB at U;split at U
       .exact⟨_,rfl⟩
       .cases U
      .cases U
     split at L
     .rename_i hm;have hm:m=0:=by simpa using hm
      subst hm;simp only[ah]at L;subst L;refine gM.reads λφ E h' w a hrd hp hrep=>?_
      obtain⟨vs,hsrc,hcs⟩:=common hrd hp hrep;have hr:=hp s _ (by rw[ho];simp[Op.operands,eU]) hsv;obtain⟨A,hA⟩:=hbase hr;refine ⟨a.eval s,exec ?_,hr⟩;rw[hA];have hvs:vs=[]:=by have:=hsrc.newsLen;simpa using this
      have hc0:=hsrc.cells;rw[hvs]at hc0;rcases hsrc.kind with ⟨e',hk⟩|hk<;>cases A<;>simp[Builtin.append_,run_underlying hu,run_underlying hk,sizeOf,typeInfo,i1,hsrc.len,hc0,storeCells]
     .rename_i hm;have hm:m≠0:=by simpa using hm
      simp only[ah]at L;subst L;intro φ E h' w a h1 h2 h3 hrep h5;have hp:Vs φ E h' w a e o:=λx y Z hy=>tF hrep h3 Z hy
      obtain⟨vs,hsrc,hcs⟩:=common (λi hi=>h1 i hi) hp hrep;obtain⟨A,hA⟩:=hbase (hp s _ (by rw[ho];simp[Op.operands,eU]) hsv);have hold:(KH i.size 0 (.slice A 0 0)).run P w.drew= .ok ([]:ξ).toArray w.drew:=by
       cases A with
       |none=>exact run_firstCells_none w.drew i.size 0 0 0
       |some ad=>exact run_firstCells_some w.drew i.size 0 ad 0 0 [] (by simp) (by intro j v hv;simp at hv)
      have:=Sc (nx:=nx) (n:=0) (cap:=0) (olds:=[]) (oldA:=[]) ho hu i1 hz hzl hrep (h5 nx (by simp[B3.eff])) hA hold ⟨rfl,(by intro x Z;cases Z),(by intro j x v Z;simp at Z)⟩ (by simp) hsrc hcs (by omega) (by omega) (by simpa using r2) [] (by simp);simpa[B3.eff] using this
    .cases L
  .cases L
 .cases L
end
section
variable {P:Program} {o:Oper} {e:zJ} {h:oh} {nx:Nat} {R:B3}
theorem alx {t:TypeId} (s:o.op= .makeMap t D) (c:eL .mkm e h nx=M R):gM P o e.get h.get R.eff:=by
 simp only[eL,ah]at c;subst c;refine gM.makes λφ E h' w a _ _ _=>?_
 refine ⟨.map (M w.heap.size),{w with heap:=w.heap.push (.map #[] 0)},.map #[] 0,?_,q_ w _,⟨#[],0,rfl,by unfold W5;rw[aC rfl];rfl,by intro j x q;simp at q⟩,λφ' O hφ=>.mp hφ⟩;unfold execOp;rw[s];simp[Instr.makeMap,newObj,ki]
theorem als {t:TypeId} {x:Operand} (q:o.op= .range t x) (hu:P.underlying t=M .string) (c:eL (.rng x) e h nx=M R):gM P o e.get h.get R.eff:=by
 simp only[eL]at c;split at c
 .rename_i s z;simp only[ah]at c;subst c;refine gM.makes λφ E h' w a _ hp _=>?_
  have hr:=fm (hp x _ (by rw[q];simp[Op.operands]) z);refine ⟨.pointer (M ⟨w.heap.size,0,D⟩),{w with heap:=w.heap.push (.stringIter s 0)},.stringIter s 0,?_,q_ w _,rfl,λφ' O hφ=>.ptr hφ⟩;unfold execOp;rw[q];simp[Instr.range,run_underlying hu,hr,newObj,ki]
 .cases c
theorem yq {w:World} {k:Nat} {ob ob':Obj} (hk:w.heap[k]? =M ob) (h1:∀c t f,ob≠ .cells c t f) (h2:∀c t f,ob'≠ .cells c t f):Fa w {w with heap:=w.heap.setIfInBounds k ob'} k ob':=by
 have hlt:k<w.heap.size:=(cA.1 hk).1;have hat:(w.heap.setIfInBounds k ob')[k]? =M ob':=by simp[hlt]
 have hot:∀j,j≠k->(w.heap.setIfInBounds k ob')[j]? =w.heap[j]? :=λj hj=>pU (λe=>hj e.symm)
 refine ⟨rfl,rfl,rfl,by simp,hat,hot,λj=>?_⟩;unfold rM;by_cases hj:j=k
 .subst hj;simp only[hat,hk];cases ob<;>cases ob'<;>first|rfl|exact ct rfl (h1 _ _ _)|exact ct rfl (h2 _ _ _)
 .simp only[hot j hj]
theorem alt {x:Operand} (Z:o.op= .next x J) (c:eL (.nxt x) e h nx=M R):gM P o e.get h.get R.eff:=by
 simp only[eL]at c;split at c
 .rename_i id hx;split at c
  .rename_i ty s p hid;split at c
   .rename_i b hb;split at c
    .rename_i hlt;have hlt:=a8 hlt;simp only[ah]at c;subst c;refine gM.writes hid λφ E h' w a hrd A hp hrep=>?_
     have hr:=hp x _ (by rw[Z];simp[Op.operands]) hx;generalize hz:a.eval x=z at hr;cases hr with
     |@ptr _ _ k hφ=>
      obtain⟨k',U,_,ob,L,q3⟩:=hrep.at_ id _ A;rw[hφ]at U;cases U;have q3:ob= .stringIter s p:=q3;subst q3;have hps:p<s.size:=by
       have:=(bi.1 hb).1;simpa using this
      have hget:s.get! p=b:=by
       have:s.data[p]? =M b:=by rw[<- co];exact hb
       have hpd:p<s.data.size:=(cA.1 this).1;have h2:s.data[p]! =s.data[p]:=getElem!_pos s.data p hpd;rw[ip hpd]at this;simp only[ByteArray.get!,h2];exact j7 this
      have hdec:Utf8.decode s p=(b.toNat,1):=by
       unfold Utf8.decode;simp only[cZ,hget];rw[aC (by omega)]
      refine ⟨.value (.tuple #[.bool J,.int .i64 p,.int .i32 b.toNat]),_,k,.stringIter s (p+1),?_,hφ,yq L (by simp) (by simp),rfl,_,.inl rfl,?_⟩
      .unfold execOp;rw[Z];simp[Instr.next,hz,getObj,ki,L,hps,hdec,setObj,goInt]
      .refine cM.tup (vs:=[.bool J,.int .i64 p,.int .i32 b.toNat]) rfl λj y v q hv=>?_
       rcases j with _|_|_|j<;>simp at q hv
       .subst q;subst hv;exact .f (.raw _)
       .subst q;subst hv;exact .f (.raw _)
       .subst q;subst hv;exact .f (.raw _)
    .cases c
   .rename_i hb;simp only[ah]at c;subst c;refine gM.writes hid λφ E h' w a hrd A hp hrep=>?_
    have hr:=hp x _ (by rw[Z];simp[Op.operands]) hx;generalize hz:a.eval x=z at hr;cases hr with
    |@ptr _ _ k hφ=>
     obtain⟨k',U,_,ob,L,q3⟩:=hrep.at_ id _ A;rw[hφ]at U;cases U;have q3:ob= .stringIter s p:=q3;subst q3;have hps:¬p<s.size:=by
      have:=List.getElem?_eq_none_iff.1 hb;have e:s.data.toList.length=s.size:=by simp
      omega
     refine ⟨.value (.tuple #[.bool af]),w,k,.stringIter s p,?_,hφ,⟨rfl,rfl,rfl,rfl,L,λ_ _=>rfl,λ_=>rfl⟩,rfl,_,.inl rfl,?_⟩
     .unfold execOp;rw[Z];simp[Instr.next,hz,getObj,ki,L,hps]
     .refine cM.tup (vs:=[.bool af]) rfl λj y v q hv=>?_
      rcases j with _|j<;>simp at q hv;subst q;subst hv;exact .f (.raw _)
  .cases c
 .cases c
theorem zG {a b:ByteArray}:r7 a b=J↔a=b:=by
 unfold r7;constructor
 .intro h;have h1:a.data.toList=b.data.toList:=by simpa using h
  cases a;cases b;congr 1;exact KJ h1
 .rintro rfl;simp
theorem E4 (a b:ByteArray):(a==b)=r7 a b:=by
 have h1:(a==b)=(a.data==b.data):=rfl;rw[h1,Bool.eq_iff_iff,zG,cU];constructor
 .intro h;cases a;cases b;congr 1
 .rintro rfl;rfl
def kd (str:Bool) (d:TypeDesc):Prop:=if str then d= .string else ∃k,d= .int k
theorem yE {str:Bool} {d:TypeDesc} (hd:kd str d) {k k':Value} (hk:yP str k=J) {b:Bool} (hb:tG .eql k k'=M (.bool b)):Instr.sameNow d k k'=M b:=by
 unfold kd at hd;cases str with
 |true=>
  simp only[bF]at hd;subst hd;cases k<;>simp[yP]at hk;cases k'<;>simp only[tG]at hb<;>try (simp at hb;done)
  simp only[ah,B5]at hb;simp[Instr.sameNow,E4,hb]
 |false=>
  simp only[cz,dT]at hd;obtain⟨q,rfl⟩:=hd;cases k<;>simp[yP]at hk;cases k'<;>simp only[tG]at hb<;>try (simp at hb;done)
  split at hb
  .rename_i hkk;have hkk':=eq_of_beq hkk;subst hkk';simp only[ah,B5]at hb;simp[Instr.sameNow,<-hb]
  .cases hb
theorem Q2 {str:Bool} {d:TypeDesc} (hd:kd str d) {k:Value} (hk:yP str k=J):∀(es:Y (Value×AV)) (ents:Y MapEntry) (i:Nat),ents.map (·.key)=es.map (·.1)->∀r,tu k es=M r->
 (r=D/\eT d k ents i=M D)\/∃(j:Nat) (v:AV) (m:MapEntry) (k':Value),r=M v/\es[j]? =M (k',v)/\ents[j]? =M m/\eT d k ents i=M (M (i+j,m.val))/\tG .eql k k'=M (.bool J)
 |[],ents,i,he,r,h=>by
  cases ents with
  |nil=>simp only[tu,ah]at h;exact .inl ⟨h.symm,rfl⟩
  |cons _ _=>simp at he
 |(k',v)::es,ents,i,he,r,h=>by
  cases ents with
  |nil=>simp at he
  |cons m ents=>
   simp only[eS,iX]at he;obtain⟨a,c⟩:=he;simp only[tu]at h;split at h
   .rename_i hb;simp only[ah]at h;refine .inr ⟨0,v,m,k',h.symm,rfl,rfl,?_,hb⟩;simp only[eT];rw[a,yE hd hk hb];rfl
   .rename_i hb;have hs:=yE hd hk hb;rcases Q2 hd hk es ents (i+1) c r h with ⟨h1,h2⟩|⟨j,q,m',k'',h1,h2,A,z,s⟩
    .refine .inl ⟨h1,?_⟩;simp only[eT];rw[a,hs];exact h2
    .refine .inr ⟨j+1,q,m',k'',h1,by simpa using h2,by simpa using A,?_,s⟩;simp only[eT];rw[a,hs];show eT d k ents (i+1)=_;rw[z,show i+1+j=i+(j+1) from by omega]
   .cases h
theorem s9 {a:TypeId} {str:Bool} {d:TypeDesc} (hu:P.underlying a=M d) (hd:kd str d) (b:Bool) (v:Value) (w:World):(Instr.checkKey b 10000 a v).run P w= .ok () w:=by
 have key:∀n,(Instr.checkKey b (n+1) a v).run P w= .ok () w:=λn=>by
  unfold kd at hd;cases str with
  |true=>simp only[bF]at hd;subst hd;simp[Instr.checkKey,run_underlying hu]
  |false=>simp only[cz,dT]at hd;obtain⟨q,rfl⟩:=hd;simp[Instr.checkKey,run_underlying hu]
 exact key 9999
theorem Zv {φ:PM} {O:Nat->Prop} {w:World} {ok b:Bool} {x:AV} {v:Value} (h:cM φ O w x v):cM φ O w (pkV ok x b) (if ok then .tuple #[v,.bool b] else v):=by
 cases ok with
 |false=>exact h
 |true=>
  refine cM.tup (vs:=[v,.bool b]) rfl λj y u a hv=>?_
  rcases j with _|_|j<;>simp at a hv
  .subst a;subst hv;exact h
  .subst a;subst hv;exact .f (.raw _)
theorem Ps {n:Int} {v:AV}:∀{es:Y (Value×AV)},told n es=M v->∃j:Nat,es[j]? =M (.int .i64 n,v)
 |(.int .i64 k,a)::r,h=>by
  simp only[told]at h;split at h
  .rename_i e;subst e;cases h;exact⟨0,rfl⟩
  .obtain⟨j,hj⟩:=Ps h;exact⟨j+1,hj⟩
theorem jk {k:Value} {m:MapEntry} {r:Y MapEntry} (hm:v_ m.key) (hk:v_ k):(m.key=k->kw k (m::r)=m.val)/\(m.key≠k->kw k (m::r)=kw k r):=by
 obtain⟨a,c⟩:=hm;obtain⟨b,rfl⟩:=hk;have e0:kw (.int .i64 b) (m::r)=if a=b then m.val else kw (.int .i64 b) r:=by simp only[kw,c]
 rw[e0];exact⟨λe=>by rw[c]at e;cases e;rw[aC rfl],λe=>by rw[ay λq=>e (by rw[c,q])]⟩
theorem EJ {d:TypeDesc} (hd:kd af d) (n:Int):∀(ents:Y MapEntry) (i:Nat),(∀m∈ents,v_ m.key)->
 (eT d (.int .i64 n) ents i=M D/\kw (.int .i64 n) ents= .slice D 0 0/\∀(k:Value) (m':MapEntry),m'.key= .int .i64 n->v_ k->(k= .int .i64 n->kw k (ents++[m'])=m'.val)/\(k≠ .int .i64 n->kw k (ents++[m'])=kw k ents))\/
 ∃(j:Nat) (m:MapEntry),ents[j]? =M m/\eT d (.int .i64 n) ents i=M (M (i+j,m.val))/\kw (.int .i64 n) ents=m.val/\m.key= .int .i64 n/\∀(k:Value) (m':MapEntry),m'.key= .int .i64 n->v_ k->(k= .int .i64 n->kw k (ents.set j m')=m'.val)/\(k≠ .int .i64 n->kw k (ents.set j m')=kw k ents)
 |[],i,_=>by
  refine .inl ⟨rfl,rfl,λk m' hm hk=>⟨λe=>?_,λe=>?_⟩⟩
  .exact (jk (r:=[]) ⟨n,hm⟩ hk).1 (hm.trans e.symm)
  .exact (jk (r:=[]) ⟨n,hm⟩ hk).2 (λq=>e (q.symm.trans hm))
 |m::r,i,h=>by
  have hmk:=h m (c4 ..);obtain⟨a,c⟩:=hmk;have hb:tG .eql (.int .i64 n) (.int .i64 a)=M (.bool (n==a)):=by simp[tG]
  have hs:=yE hd (k:=.int .i64 n) rfl hb;by_cases e:n=a
  .subst e;refine .inr ⟨0,m,rfl,?_,(jk ⟨n,c⟩ ⟨n,rfl⟩).1 c,c,λk m' hm hk=>⟨λe=>?_,λe=>?_⟩⟩
   .simp only[eT];rw[c,hs];simp
   .exact (jk (r:=r) ⟨n,hm⟩ hk).1 (hm.trans e.symm)
   .show kw k (m'::r)=_;rw[(jk (r:=r) ⟨n,hm⟩ hk).2 (λq=>e (q.symm.trans hm)),(jk (r:=r) ⟨n,c⟩ hk).2 (λq=>e (q.symm.trans c))]
  .have z:Instr.sameNow d (.int .i64 n) m.key=M af:=by rw[c,hs];simp[e]
   have hne:¬m.key= .int .i64 n:=λq=>by rw[c]at q;cases q;exact e rfl
   have hl:=(jk (r:=r) ⟨a,c⟩ ⟨n,rfl⟩).2 hne;have step:∀(k:Value) (s:Y MapEntry) (m':MapEntry),v_ k->m'.key= .int .i64 n->(k= .int .i64 n->kw k s=m'.val)/\(k≠ .int .i64 n->kw k s=kw k r)->(k= .int .i64 n->kw k (m::s)=m'.val)/\(k≠ .int .i64 n->kw k (m::s)=kw k (m::r)):=λk s m' hk _ g=>by
    refine ⟨λq=>?_,λq=>?_⟩
    .rw[(jk (r:=s) ⟨a,c⟩ hk).2 (λx=>hne (x.trans q))];exact g.1 q
    .by_cases x:m.key=k
     .rw[(jk (r:=s) ⟨a,c⟩ hk).1 x,(jk (r:=r) ⟨a,c⟩ hk).1 x]
     .rw[(jk (r:=s) ⟨a,c⟩ hk).2 x,(jk (r:=r) ⟨a,c⟩ hk).2 x];exact g.2 q
   rcases EJ hd n r (i+1) (λq hq=>h q (cE _ hq)) with ⟨h1,h2,A⟩|⟨j,q,h1,h2,A,U,L⟩
   .refine .inl ⟨?_,by rw[hl];exact h2,λk m' hm hk=>step k _ m' hk hm (A k m' hm hk)⟩;simp only[eT];rw[z];exact h1
   .refine .inr ⟨j+1,q,by simpa using h1,?_,by rw[hl];exact A,U,λk m' hm hk=>step k _ m' hk hm (L k m' hm hk)⟩;simp only[eT];rw[z];show eT d _ r (i+1)=_;rw[h2,show i+1+j=i+(j+1) from by omega]
theorem Fl {n:Int} {y:AV}:∀{es:Y (Value×AV)} {j:Nat} {q:Value×AV},(lO n y es)[j]? =M q->∃p,es[j]? =M p/\q.1=p.1/\(p.1= .int .i64 n->q.2=y)/\(p.1≠ .int .i64 n->q.2=p.2)
 |[],j,q,h=>by simp[lO]at h
 |p::r,0,q,h=>by
  simp only[lO,lK,ah]at h;subst h;refine ⟨p,rfl,rfl,λe=>?_,λe=>?_⟩
  .show (match p.1 with|.int .i64 k=>if k=n then y else p.2|_=>p.2)=y;rw[e];dsimp only;rw[aC rfl]
  .show (match p.1 with|.int .i64 k=>if k=n then y else p.2|_=>p.2)=p.2;split
   .rename_i k hk;rw[ay λq=>e (by rw[hk,q])]
   .rfl
 |p::r,j+1,q,h=>by
  simp only[lO,List.getElem?_cons_succ]at h;obtain⟨a,h1,h2⟩:=Fl h;exact⟨a,by simpa using h1,h2⟩
theorem Cd (n:Int) (y:AV):∀es:Y (Value×AV),(lO n y es).map (·.1)=es.map (·.1)
 |[]=>rfl
 |p::r=>by simp only[lO,eS];rw[Cd n y r]
theorem agq {t kt el:TypeId} {x k:Operand} {str ok:Bool} {d:TypeDesc} {z:Value} (L:o.op= .lookup t x k ok) (hu:P.underlying t=M (.map kt el)) (hk:P.underlying kt=M d) (hd:kd str d) (s:(P.info? el).bind (·.zero)=M z) (c:eL (.lku str ok z x k) e h nx=M R):gM P o e.get h.get R.eff:=by
 simp only[eL]at c;split at c
 .rename_i id key hx hkx;split at c
  .rename_i es hid;split at c
   .rename_i hko;have fin:∀val:AV,(∀(φ:PM) (E:Nat->Prop) (h':HF) (w:World) (a:Act),h' id=M ⟨0,.mp es⟩->Vs φ E h' w a e o->qX φ E h' w->∃v,(execOp a.eval o).run P w= .ok (.value v) w/\cM φ (tot E φ h') w val v)->R=⟨val,[id],[],[],[]⟩->gM P o e.get h.get R.eff:=by
     rintro val hv rfl;exact gM.reads λφ E h' w a hrd hp hrep=>hv φ E h' w a (by rw[hrd id (by simp)];exact hid) hp hrep
    have zrun:∀w:World,(zeroValue el).run P w= .ok z w:=λw=>by
     cases hi:P.info? el with
     |none=>rw[hi]at s;cases s
     |some i=>rw[hi]at s;simp only[aF]at s;simp[zeroValue,typeInfo,hi,s]
    have main:∀r,tu key es=M r->∀(φ:PM) (E:Nat->Prop) (h':HF) (w:World) (a:Act),h' id=M ⟨0,.mp es⟩->Vs φ E h' w a e o->qX φ E h' w->
     ∃v,(execOp a.eval o).run P w= .ok (.value v) w/\cM φ (tot E φ h') w (match r with|some v=>pkV ok v J|none=>pkV ok (raw z) af) v:=by
     intro r hr φ E h' w a U hp hrep;have hrx:=hp x _ (by rw[L];simp[Op.operands]) hx;have hrk:=fm (hp k _ (by rw[L];simp[Op.operands]) hkx);generalize q:a.eval x=zz at hrx;cases hrx with
     |@mp _ b hφ=>
      obtain⟨k',q1,_,ob,q2,q3⟩:=hrep.at_ id _ U;rw[hφ]at q1;cases q1;obtain⟨ents,clock,rfl,q4,q5⟩:=q3;have q4:ents.toList.map (·.key)=es.map (·.1):=by unfold W5 at q4;rw[aC rfl]at q4;exact q4
      have hck:=s9 (P:=P) hk hd ents.isEmpty key w;rcases Q2 hd hko es ents.toList 0 q4 r hr with ⟨h1,h2⟩|⟨j,v,m,k',h1,h2,h3,h4,_⟩
      .subst h1;refine ⟨_,?_,Zv (.f (.raw z))⟩;unfold execOp;rw[L];cases ok<;>simp[Instr.lookup,run_underlying hu,q,hrk,getObj,ki,q2,hck,sJ,run_underlying hk,h2,zrun]
      .subst h1;obtain⟨_,A,Z⟩:=q5 j _ h2;unfold MpV at A;rw[aC rfl]at A;obtain⟨m',A,rfl⟩:=A;rw[co]at h3;rw[h3]at A;cases A;refine ⟨_,?_,Zv Z⟩;unfold execOp;rw[L];cases ok<;>simp[Instr.lookup,run_underlying hu,q,hrk,getObj,ki,q2,hck,sJ,run_underlying hk,h4]
    split at c
    .rename_i v hf;simp only[ah]at c;exact fin _ (main _ hf) c.symm
    .rename_i hf;simp only[ah]at c;exact fin _ (main _ hf) c.symm
    .cases c
   .cases c
  .rename_i ty es hid;split at c
   .rename_i n;split at c
    .rename_i hc;split at c
     .rename_i v hv;simp only[ah]at c;subst c;cases str with
      |true=>simp at hc
      |false=>
      cases ok with
      |true=>simp at hc
      |false=>
      have hz0:z= .slice D 0 0:=by
       simp only[Bool.not_false,jD]at hc;unfold tB at hc;split at hc
       .rfl
       .cases hc
      subst hz0;have zrun:∀w:World,(zeroValue el).run P w= .ok (.slice D 0 0) w:=λw=>by
       cases hi:P.info? el with
       |none=>rw[hi]at s;cases s
       |some i=>rw[hi]at s;simp only[aF]at s;simp[zeroValue,typeInfo,hi,s]
      refine gM.reads λφ E h' w a hrd hp hrep=>?_
      have U:h' id=M ⟨ty+1,.mp es⟩:=by rw[hrd id (by simp)];exact hid
      have hrx:=hp x _ (by rw[L];simp[Op.operands]) hx;have hrk:=fm (hp k _ (by rw[L];simp[Op.operands]) hkx);generalize q:a.eval x=zz at hrx;cases hrx with
      |@mp _ b hφ=>
       obtain⟨k',q1,_,ob,q2,q3⟩:=hrep.at_ id _ U;rw[hφ]at q1;cases q1;obtain⟨ents,clock,rfl,q4,q5⟩:=q3;unfold W5 at q4;rw[ay (by simp)]at q4;obtain⟨j,hj⟩:=Ps hv;obtain⟨v',A,Z⟩:=q5 j _ hj;unfold MpV at A;rw[ay (by simp)]at A;subst A;have hck:=s9 (P:=P) hk hd ents.isEmpty (.int .i64 n) w;rcases EJ hd n ents.toList 0 q4.1 with ⟨h1,h2,_⟩|⟨i,m,h1,h2,h3,_⟩
       .rw[h2]at Z;refine ⟨_,?_,Z⟩;unfold execOp;rw[L];simp[Instr.lookup,run_underlying hu,q,hrk,getObj,ki,q2,hck,sJ,run_underlying hk,h1,zrun]
       .rw[h3]at Z;refine ⟨_,?_,Z⟩;unfold execOp;rw[L];simp[Instr.lookup,run_underlying hu,q,hrk,getObj,ki,q2,hck,sJ,run_underlying hk,h2]
     .cases c
    .cases c
   .cases c
  .cases c
 .cases c
theorem VY {str:Bool} {d:TypeDesc} (hd:kd str d) {k:Value} (hk:yP str k=J) {v:AV}:∀(es es':Y (Value×AV)) (ents:Y MapEntry) (i:Nat),ents.map (·.key)=es.map (·.1)->yN k v es=M es'->
 (eT d k ents i=M D/\es'=es++[(k,v)])\/∃(j:Nat) (m:MapEntry) (k':Value) (c:AV),es[j]? =M (k',c)/\ents[j]? =M m/\eT d k ents i=M (M (i+j,m.val))/\tG .eql k k'=M (.bool J)/\es'=es.set j (k,v)
 |[],es',ents,i,he,h=>by
  cases ents with
  |nil=>simp only[yN,ah]at h;exact .inl ⟨rfl,by simp[h]⟩
  |cons _ _=>simp at he
 |(k',c)::es,es',ents,i,he,h=>by
  cases ents with
  |nil=>simp at he
  |cons m ents=>
   simp only[eS,iX]at he;obtain⟨a,q⟩:=he;simp only[yN]at h;split at h
   .rename_i hb;simp only[ah]at h;refine .inr ⟨0,m,k',c,rfl,rfl,?_,hb,by simp[h]⟩;simp only[eT];rw[a,yE hd hk hb];rfl
   .rename_i hb;have hs:=yE hd hk hb;split at h
    .rename_i es2 hes2;simp only[ah]at h;subst h;rcases VY hd hk es es2 ents (i+1) q hes2 with ⟨h1,h2⟩|⟨j,m',k'',v'',h1,h2,A,z,s⟩
     .refine .inl ⟨?_,by simp[h2]⟩;simp only[eT];rw[a,hs];exact h1
     .refine .inr ⟨j+1,m',k'',v'',by simpa using h1,by simpa using h2,?_,z,by simp[s]⟩;simp only[eT];rw[a,hs];show eT d k ents (i+1)=_;rw[A,show i+1+j=i+(j+1) from by omega]
    .cases h
   .cases h
theorem aab {str:Bool} {k k':Value} (hk:yP str k=J) (hb:tG .eql k k'=M (.bool J)):KF 10000 k' k=J/\k'=k:=by
 cases str with
 |true=>
  cases k<;>simp[yP]at hk;cases k'<;>simp only[tG]at hb<;>try (simp at hb;done)
  simp only[ah,B5]at hb;have:=zG.1 hb;subst this;exact⟨by simp[KF,E4,hb],rfl⟩
 |false=>
  cases k<;>simp[yP]at hk;cases k'<;>simp only[tG]at hb<;>try (simp at hb;done)
  split at hb
  .rename_i hkk;have hkk':=eq_of_beq hkk;subst hkk';simp only[ah,B5,cU]at hb;subst hb;exact⟨by simp[KF],rfl⟩
  .cases hb
theorem agp {t kt el:TypeId} {x k y:Operand} {str:Bool} {d:TypeDesc} (L:o.op= .mapUpdate t x k y) (hu:P.underlying t=M (.map kt el)) (hk:P.underlying kt=M d) (hd:kd str d) (c:eL (.mup str x k y) e h nx=M R):gM P o e.get h.get R.eff:=by
 simp only[eL]at c;split at c
 .rename_i id key v A hkx hy;split at c
  .rename_i es hid;split at c
   .rename_i hko;split at c
    .rename_i es' hput;simp only[ah]at c;subst c;refine gM.writes hid λφ E h' w a hrd hb' hp hrep=>?_
     have hrx:=hp x _ (by rw[L];simp[Op.operands]) A;have hrk:=fm (hp k _ (by rw[L];simp[Op.operands]) hkx);have hry:=hp y _ (by rw[L];simp[Op.operands]) hy;generalize z:a.eval x=zz at hrx;cases hrx with
     |@mp _ b hφ=>
      obtain⟨k',q1,_,ob,Z,q3⟩:=hrep.at_ id _ hb';rw[hφ]at q1;cases q1;obtain⟨ents,clock,rfl,q4,q5⟩:=q3;have q4:ents.toList.map (·.key)=es.map (·.1):=by unfold W5 at q4;rw[aC rfl]at q4;exact q4
      have q5:∀(j:Nat) x,es[j]? =M x->∃m,ents[j]? =M m/\cM φ (tot E φ h') w x.2 m.val:=λj x A=>by
       obtain⟨_,s,U⟩:=q5 j x A;unfold MpV at s;rw[aC rfl]at s;obtain⟨m,s,rfl⟩:=s;exact⟨m,s,U⟩
      have Mj:∀(es:Y (Value×AV)) (ents:Array MapEntry) (clock:Nat),ents.toList.map (·.key)=es.map (·.1)->(∀(j:Nat) x,es[j]? =M x->∃m,ents[j]? =M m/\cM φ (tot E φ h') w x.2 m.val)->jd φ (tot E φ h') w ⟨0,.mp es⟩ (.map ents clock):=λes ents clock s U=>⟨ents,clock,rfl,by unfold W5;rw[aC rfl];exact s,λj x A=>by
       obtain⟨m,g3,g4⟩:=U j x A;exact⟨_,by unfold MpV;rw[aC rfl];exact⟨m,g3,rfl⟩,g4⟩⟩
      have hck:=s9 (P:=P) hk hd af key w;have hlen:ents.size=es.length:=by have:=gR ai q4;simpa using this
      rcases VY hd hko es es' ents.toList 0 q4 hput with ⟨h1,rfl⟩|⟨j,m,k',v',h1,h2,h3,h4,rfl⟩
      .refine ⟨.skip,_,b,.map (ents.push {key,val:=a.eval y,born:=clock}) (clock+1),?_,hφ,yq Z (by simp) (by simp),Mj _ _ _ (by simp[q4]) λj q hq=>?_,undef,.inr ⟨rfl,rfl⟩,.f (.raw _)⟩
       .unfold execOp;rw[L];simp[Instr.mapUpdate,run_underlying hu,z,hrk,getObj,ki,Z,hck,sJ,run_underlying hk,h1,setObj]
       .rcases b7 j es.length with hj|hj
        .rw[bP hj]at hq;obtain⟨m,s,U⟩:=q5 j q hq;exact⟨m,by rw[Array.getElem?_push,ay (by omega)];exact s,U⟩
        .rw[b8 hj]at hq;have hj0:j-es.length=0:=by
          rcases KE (j-es.length) with h0|h0
          .exact h0
          .rw[bD (by simp;omega)]at hq;cases hq
         rw[hj0]at hq;simp at hq;subst hq;exact⟨_,by rw[Array.getElem?_push,aC (by omega)],hry⟩
      .obtain⟨s1,s2⟩:=aab hko h4;subst s2;rw[co]at h2;rw[bG]at h3;have hjl:j<ents.size:=(cA.1 h2).1;have hmk:m.key=k':=by
        have e1:(ents.toList.map (·.key))[j]? =M m.key:=by rw[ba,co,h2];rfl
        rw[q4,ba,h1]at e1;simpa using e1.symm
       refine ⟨.skip,_,b,.map (ents.modify j λe=>{e with key:=k',val:=a.eval y}) clock,?_,hφ,yq Z (by simp) (by simp),Mj _ _ _ ?_ λi q hq=>?_,undef,.inr ⟨rfl,rfl⟩,.f (.raw _)⟩
       .unfold execOp;rw[L];simp[Instr.mapUpdate,run_underlying hu,z,hrk,getObj,ki,Z,hck,sJ,run_underlying hk,h3,setObj,h2,hmk,Instr.keyThatStays,s1]
       .apply List.ext_getElem?;intro i;simp only[ba,co,jW,Array.getElem?_modify];have e2:∀i:Nat,(ents[i]?).map (λm:MapEntry=>m.key)=(es[i]?).map (λp:Value×AV=>p.1):=λi=>by
         have:=gR (λl=>l[i]?) q4;simpa[ba,co] using this
        by_cases hij:j=i
        .subst hij;simp[h2,show j<es.length by omega]
        .simp only[hij,dT];exact e2 i
       .rw[jW]at hq;rw[Array.getElem?_modify];by_cases hij:j=i
        .subst hij;simp[show j<es.length by omega]at hq;subst hq;exact⟨{m with key:=k',val:=a.eval y},by simp[h2],hry⟩
        .simp only[hij,dT]at hq ⊢;exact q5 i q hq
    .cases c
   .cases c
  .rename_i ty es hid;split at c
   .rename_i n;split at c
    .cases c
    .rename_i hstr;have hstr:str=af:=by simpa using hstr
     subst hstr;simp only[ah]at c;subst c;refine gM.writes hid λφ E h' w a hrd hb' hp hrep=>?_
     have hrx:=hp x _ (by rw[L];simp[Op.operands]) A;have hrk:=fm (hp k _ (by rw[L];simp[Op.operands]) hkx);have hry:=hp y _ (by rw[L];simp[Op.operands]) hy;generalize z:a.eval x=zz at hrx;cases hrx with
     |@mp _ b hφ=>
      obtain⟨k',q1,_,ob,Z,q3⟩:=hrep.at_ id _ hb';rw[hφ]at q1;cases q1;obtain⟨ents,clock,rfl,q4,q5⟩:=q3;unfold W5 at q4;rw[ay (by simp)]at q4;have q5:∀(j:Nat) x,es[j]? =M x->cM φ (tot E φ h') w x.2 (kw x.1 ents.toList):=λj x A=>by
       obtain⟨_,s,U⟩:=q5 j x A;unfold MpV at s;rw[ay (by simp)]at s;subst s;exact U
      have mk1:∀(ents':Array MapEntry) (clock:Nat),(∀m∈ents'.toList,v_ m.key)->(∀k,v_ k->(k= .int .i64 n->kw k ents'.toList=a.eval y)/\(k≠ .int .i64 n->kw k ents'.toList=kw k ents.toList))->jd φ (tot E φ h') w ⟨ty+1,.mp (lO n v es)⟩ (.map ents' clock):=λents' clock s U=>⟨ents',clock,rfl,by unfold W5;rw[ay (by simp),Cd];exact⟨s,q4.2⟩,λj x A=>by
       obtain⟨p,g3,g4,g5,g6⟩:=Fl A;have hI:=q4.2 p.1 (db.2 ⟨p,aZ g3,rfl⟩);refine ⟨_,by unfold MpV;rw[ay (by simp)],?_⟩;rw[g4];by_cases e:p.1= .int .i64 n
       .rw[(U _ hI).1 e,g5 e];exact hry
       .rw[(U _ hI).2 e,g6 e];exact q5 j p g3⟩
      have hck:=s9 (P:=P) hk hd af (.int .i64 n) w;rcases EJ hd n ents.toList 0 q4.1 with ⟨h1,_,h3⟩|⟨j,m,h2,h3,_,h4,h5⟩
      .refine ⟨.skip,_,b,.map (ents.push {key:=.int .i64 n,val:=a.eval y,born:=clock}) (clock+1),?_,hφ,yq Z (by simp) (by simp),mk1 _ _ (λm hm=>?_) λk hk=>?_,undef,.inr ⟨rfl,rfl⟩,.f (.raw _)⟩
       .unfold execOp;rw[L];simp[Instr.mapUpdate,run_underlying hu,z,hrk,getObj,ki,Z,hck,sJ,run_underlying hk,h1,setObj]
       .rw[Array.toList_push]at hm;rcases bQ.1 hm with hm|hm
        .exact q4.1 m hm
        .rw[aJ.1 hm];exact⟨n,rfl⟩
       .rw[Array.toList_push];exact h3 k _ rfl hk
      .rw[co]at h2;rw[bG]at h3;obtain⟨hjl,hjm⟩:=cA.1 h2;have s1:KF 10000 (.int .i64 n) (.int .i64 n)=J:=by simp[KF]
       have hl:(ents.modify j λe=>{e with key:=.int .i64 n,val:=a.eval y}).toList=ents.toList.set j {m with key:=.int .i64 n,val:=a.eval y}:=by
        apply List.ext_getElem?;intro i;simp only[co,jW,Array.getElem?_modify];by_cases hij:j=i
        .subst hij;simp[h2,hjl,hjm]
        .simp[hij]
       refine ⟨.skip,_,b,.map (ents.modify j λe=>{e with key:=.int .i64 n,val:=a.eval y}) clock,?_,hφ,yq Z (by simp) (by simp),mk1 _ _ (λq hm=>?_) λk hk=>?_,undef,.inr ⟨rfl,rfl⟩,.f (.raw _)⟩
       .unfold execOp;rw[L];simp[Instr.mapUpdate,run_underlying hu,z,hrk,getObj,ki,Z,hck,sJ,run_underlying hk,h3,setObj,h2,h4,Instr.keyThatStays,s1]
       .rw[hl]at hm;rcases List.mem_or_eq_of_mem_set hm with hm|rfl
        .exact q4.1 q hm
        .exact⟨n,rfl⟩
       .rw[hl];exact h5 k _ rfl hk
   .cases c
  .cases c
 .cases c
end
section
variable {P:Program} {o:Oper} {e:zJ} {h:oh} {nx:Nat} {R:B3}
theorem PY {t:TypeId} {d:TypeDesc} (hu:P.underlying t=M d) (hd:(match d with|.int _=>J|.bool=>J|.string=>J|_=>af)=J) (cs:Array Value) (j:Nat) (v:Value) (hv:cs[j]? =M v) (w:World):(part t cs j).run P w= .ok v w:=by
 unfold part;simp only[isAgg,eM,run_underlying hu,cN];cases d<;>simp at hd<;>simp[hv]
theorem XS {t:TypeId} {d:TypeDesc} (hu:P.underlying t=M d) (hd:(match d with|.int _=>J|.bool=>J|.string=>J|_=>af)=J) {x y:FV} {b:Bool} (hxy:xt d x y=M b) {u v:Value} (q:x= .raw u) (c:y= .raw v) (n:Nat) (w:World):(Op.equalIn (n+1) t u v).run P w= .ok b w:=by
 subst q;subst c;cases d<;>simp at hd<;>cases u<;>cases v<;>simp only[xt]at hxy<;>first|(cases hxy;done)|skip
 .simp only[ah]at hxy;subst hxy;simp[Op.equalIn,run_underlying hu]
 .split at hxy
  .rename_i hk;have a:=eq_of_beq hk;subst a;simp only[ah]at hxy;subst hxy;simp[Op.equalIn,run_underlying hu]
  .cases hxy
 .simp only[ah]at hxy;subst hxy;simp[Op.equalIn,run_underlying hu,E4]
abbrev Ji (n:Nat) (xs q:Array Value) (f:Field) (_:I Bool×Unit):Sem (ForInStep (I Bool×Unit)):=
 if f.name≠ "_" then do
  let a←part f.type xs f.offset
  let b←part f.type q f.offset
  let c←Op.equalIn (n+1) f.type a b
  if (!c)=J then pure (ForInStep.done (M af,())) else pure (ForInStep.yield (D,()))
 else pure (ForInStep.yield (D,()))
theorem MB (n:Nat) (w:World) (xs c:Array Value):∀(fs:Y Field) (ds:Y TypeDesc) (a b:Y FV) (k:Nat) (r:Bool),rR P k fs=M ds->
 (∀(j:Nat) x u,a[j]? =M x->xs[k+j]? =M u->x= .raw u\/∀v,x≠ .raw v)->(∀(j:Nat) x u,b[j]? =M x->c[k+j]? =M u->x= .raw u\/∀v,x≠ .raw v)->(∀(j:Nat),j<a.length->k+j<xs.size)->(∀(j:Nat),j<b.length->k+j<c.size)->o8 ds a b=M r->
 (forIn fs (D,()) (Ji n xs c)).run P w= .ok (if r then (D,()) else (M af,())) w
 |[],ds,a,b,k,r,hp,_,_,_,_,he=>by
  simp only[rR,ah]at hp;subst hp;cases a<;>cases b<;>simp[o8]at he;subst he;simp
 |f::fs,ds,a,b,k,r,hp,Z,hb,hla,hlb,he=>by
  simp only[rR]at hp;split at hp
  .rename_i d ds' hu U;split at hp
   .rename_i hc;simp only[al,bne_iff_ne,ne_eq,cU]at hc;obtain⟨⟨hn,hof⟩,hd⟩:=hc;simp only[ah]at hp;subst hp;cases a with
    |nil=>cases b<;>simp[o8]at he
    |cons x a=>
     cases b with
     |nil=>simp[o8]at he
     |cons y b=>
      simp only[o8]at he;have L:k<xs.size:=by have:=hla 0 (by simp);omega
      have A:k<c.size:=by have:=hlb 0 (by simp);omega
      have hraw:∀(z:FV) (q:Value),(z= .raw q\/∀v,z≠ .raw v)->(∃v,z= .raw v)->z= .raw q:=by
       rintro z q (h|h) ⟨v,hv⟩
       .exact h
       .exact ct hv (h v)
      have hxr:∀s,xt d x y=M s->x= .raw xs[k]/\y= .raw c[k]:=by
       intro s hbb;have hrr:(∃v,x= .raw v)/\∃v,y= .raw v:=by
        unfold xt at hbb;split at hbb
        .exact⟨⟨_,rfl⟩,⟨_,rfl⟩⟩
        .exact⟨⟨_,rfl⟩,⟨_,rfl⟩⟩
        .exact⟨⟨_,rfl⟩,⟨_,rfl⟩⟩
        .cases hbb
       exact⟨hraw x _ (Z 0 x _ rfl (by simp[L])) hrr.1,hraw y _ (hb 0 y _ rfl (by simp[A])) hrr.2⟩
      have hstep:∀s,xt d x y=M s->(Ji n xs c f (D,())).run P w= .ok (if s then ForInStep.yield (D,()) else ForInStep.done (M af,())) w:=by
       intro s hbb;obtain⟨h1,h2⟩:=hxr s hbb;have p1:=PY hu (by cases d<;>simp[H_]at hd<;>rfl) xs k xs[k] (by simp[L]) w;have p2:=PY hu (by cases d<;>simp[H_]at hd<;>rfl) c k c[k] (by simp[A]) w;have p3:=XS hu (by cases d<;>simp[H_]at hd<;>rfl) hbb h1 h2 n w;unfold Ji;rw[aC hn,hof];simp only[eM,p1,p2,p3,cN];cases s<;>simp
      rw[List.forIn_cons];simp only[eM];split at he
      .rename_i hbb;rw[hstep J hbb];simp only[cN,bF];exact MB n w xs c fs ds' a b (k+1) r U (λj x u h1 h2=>Z (j+1) x u (by simpa using h1) (by rw[<- h2];congr 1;omega)) (λj x u h1 h2=>hb (j+1) x u (by simpa using h1) (by rw[<- h2];congr 1;omega))
        (λj hj=>by have:=hla (j+1) (by simpa using hj);omega) (λj hj=>by have:=hlb (j+1) (by simpa using hj);omega) he
      .rename_i hbb;rw[hstep af hbb];simp only[ah]at he;subst he;simp
      .cases he
   .cases hp
  .cases hp
theorem XR {t:TypeId} {fs:Array Field} (hu:P.underlying t=M (.struct fs)) (hs:P.stoodInHeld t=af) {ds:Y TypeDesc} (hp:rR P 0 fs.toList=M ds) (xs c:Array Value) {a b:Y FV} {r:Bool}
 (q:∀(j:Nat) x u,a[j]? =M x->xs[j]? =M u->x= .raw u\/∀v,x≠ .raw v) (hb:∀(j:Nat) x u,b[j]? =M x->c[j]? =M u->x= .raw u\/∀v,x≠ .raw v) (hla:a.length=xs.size) (hlb:b.length=c.size) (he:o8 ds a b=M r) (w:World):
 (Op.equal t (.agg xs) (.agg c)).run P w= .ok r w:=by
 have key:∀n,(Op.equalIn (n+2) t (.agg xs) (.agg c)).run P w= .ok r w:=by
  intro n;rw[Op.equalIn];have h1:=MB (P:=P) n w xs c fs.toList ds a b 0 r hp (λj x u h1 h2=>q j x u h1 (by simpa using h2)) (λj x u h1 h2=>hb j x u h1 (by simpa using h2)) (λj hj=>by omega) (λj hj=>by omega) he;rw[Array.forIn_toList]at h1;simp only[eM,run_underlying hu,cN,program,ki,hs,cz,dT];have h2:(forIn fs (D,()) (λf __s=>Ji n xs c f __s)).run P w= .ok (if r then (D,()) else (M af,())) w:=h1;unfold Ji at h2;rw[h2];cases r<;>simp
 exact key 9998
theorem Q7 {t:TypeId} {fs:Array Field} (hu:P.underlying t=M (.struct fs)) {ds:Y TypeDesc} (hp:rR P 0 fs.toList=M ds):P.eqGuardType P.depth t=af:=by
 have key:∀(fs:Y Field) (k:Nat) (ds:Y TypeDesc),rR P k fs=M ds→∀d,(fs.any λf=>f.name != "_" &&P.eqGuardType (d+1) f.type)=af:=by
  intro fs;induction fs with
  |nil=>intros;rfl
  |cons f fs q=>
   intro k ds hp d;simp only[rR]at hp;split at hp
   .rename_i s ds' a c;split at hp
    .rename_i hc;simp only[al]at hc;have:P.eqGuardType (d+1) f.type=af:=by
      unfold Program.eqGuardType;rw[a];have:=hc.2;cases s<;>simp[H_]at this<;>rfl
     simp only[List.any_cons,this,KI,Bool.false_or];exact q (k+1) ds' c d
    .cases hp
   .cases hp
 unfold Program.depth Program.eqGuardType;rw[hu];simp only[];rw[← Array.any_toList];exact key fs.toList 0 ds hp _
theorem agr {t t':TypeId} {op:BinOp} {neg:Bool} {x y:Operand} {fs:Array Field} {ds:Y TypeDesc} (A:o.op= .binOp op t x y t') (hop:op=if neg then .neq else .eql) (hu:P.underlying t=M (.struct fs)) (hs:P.stoodInHeld t=af) (hp:rR P 0 fs.toList=M ds) (c:eL (.eqs neg ds x y) e h nx=M R):gM P o e.get h.get R.eff:=by
 simp only[eL]at c;split at c
 .rename_i a b q U;split at c
  .rename_i r hr;rw[dA c];refine gM.reads λφ E h' w ac _ hpp _=>?_
   have h1:=hpp x _ (by rw[A];simp[Op.operands]) q;have h2:=hpp y _ (by rw[A];simp[Op.operands]) U;generalize hzx:ac.eval x=zx at h1;generalize hzy:ac.eval y=zy at h2;have rawOr:∀(l:Y FV) (vs:ξ),(∀(j:Nat) x v,l[j]? =M x->vs[j]? =M v->nH (tot E φ h') w x v)->∀(j:Nat) x u,l[j]? =M x->vs.toArray[j]? =M u->x= .raw u\/∀v,x≠ .raw v:=by
    intro l vs hr j x u q hu;have:=hr j x u q (by simpa using hu);cases this with
    |raw v=>exact .inl rfl
    |nil=>exact .inr (by simp)
    |sl=>exact .inr (by simp)
    |ptr=>exact .inr (by simp)
    |agg=>exact .inr (by simp)
   cases h1 with
   |f h1=>
    cases h1 with
    |agg _ vs hl hcl z=>
     cases h2 with
     |f h2=>
      cases h2 with
      |agg _ us L hcl' s=>
       have heq:=XR hu hs hp vs.toArray us.toArray (rawOr a vs z) (rawOr b us s) (by simp[hl]) (by simp[L]) hr w;refine ⟨_,?_,.f (.raw _)⟩;have hg:=Q7 hu hp;unfold execOp;rw[A];simp only[hzx,hzy];subst hop;cases neg<;>simp[eqGuard,program,ki,hg,binOp,heq]
  .cases c
 .cases c
end
end
end Go.Proofs.YtloaobgmjdjhhaaGreatDoor.AI
