/-
  Texts of the proof, part 4 of 6: what is used to prove the statement. No condition.
-/
import Derived.Test.YtkagidinekdnoaaGreatDoorHBClocksQ2
import Derived.KernelRfl
import Derived.WalkSpells
import Derived.Laws.CopyRow
import Derived.Deep.AppendSrc
import Derived.Laws.AppendOwn
import Derived.Defers
namespace Go.Proofs.YtkagidinekdnoaaGreatDoor.AI
open Go.RowKit
set_option maxRecDepth 100000
set_option maxHeartbeats 4000000
set_option linter.unusedVariables false
set_option linter.unusedSimpArgs false
open Act renaming put→Nw
open _root_.Array renaming length_toList→ir,range→yE
open _root_.Bool renaming true→ai,false→aj
open Builtin renaming zeroCells→lq,firstCells→KW
open Call renaming operands→eR
open Instr renaming findNow→jw,sliceBounds→jN,sliceBound→kx,sliceAt→pu,slice→uM
open _root_.Int renaming ofNat_eq_natCast→au,ofNat→aO,toNat→aT,toNat_natCast→dQ
open IntKind renaming wrap→oO
open _root_.List renaming length→al,replicate→aG,length_cons→bY,range→c4,length_singleton→dR,cons_append→gm,length_nil→jS,toArray→kE,take_succ_cons→vX,foldl_cons→xd
open _root_.Nat renaming testBit→aN,add_zero→dl,min→iN
open Oper renaming wp→Ho
open _root_.Option renaming some→af,none→ah,bind_some→aI,map_some→cg,getD_some→uW
open _root_.Prod renaming p2→aY,p3→bi,p4→bw,q3→bK,p5→cu,p6→dU
open Region renaming wanted→iG
open Result renaming andThen_ok→cM
open Sem renaming run_bind→eH,run→ny,run_pure→oL
open _root_.Sum renaming inr→bQ
open Value.bool renaming injEq→Cd
open World renaming shape?→rL,cell?→Nt
noncomputable section
theorem ZW {w:WT} {l:List ET} (I:TR (w,l)) {a b:Nat} (J:a<l.length) (hb:b<l.length):(eN l a).1=(eN l b).1↔(cO l a).th=(cO l b).th:=by
 have:=(qC I J).th;have:=(qC I hb).th;omega
theorem TZ (l:List ET) (u:Nat):∀ i:Nat,-1<=t8 l u i/\t8 l u i<i
 |0=>⟨eP _,by show (-1:Int)<0;omega⟩
 |i+1=>by have:=TZ l u i;rw[t8];split<;>omega
theorem NK {l:List ET} {u:Nat}:∀ (j k:Nat),t8 l u j<k->k<j->¬(cO l k).th=u
 |j+1,k,h,hk=>by
  rw[t8] at h;by_cases q:(cO l j).th=u
  .rw[aF q] at h;omega
  .rw[ay q] at h;by_cases e:k=j
   .subst e;exact q
   .exact NK j k h (by omega)
theorem Wr {l:List ET} {u:Nat}:∀ j:Nat,0<=t8 l u j->(cO l (t8 l u j).toNat).th=u
 |0,h=>cV h (by show ¬(0:Int)<= -1;omega)
 |j+1,h=>by
  rw[t8] at h ⊢;by_cases q:(cO l j).th=u
  .rw[aF q];exact q
  .rw[ay q] at h ⊢;exact Wr j h
theorem Qe {l:List ET} {u:Nat}:∀ (j k:Nat),t8 l u j<k->k<=j->t8 l u k=t8 l u j
 |0,k,_,hk=>by rw[show k=0 by omega]
 |j+1,k,h,hk=>by
  by_cases e:k=j+1
  .rw[e]
  .have q:¬(cO l j).th=u:=NK (j+1) j (by omega) (by omega);rw[t8,ay q] at h ⊢;exact Qe j k h (by omega)
theorem Gz {w:WT} {l:List ET} (I:TR (w,l)) {j:Nat} (hj:j<l.length):mb (l,(j:Int))=af (t8 l (cO l j).th j):=by
 have hl:=I.len;dsimp only at hl;refine cE ?_;unfold mb bd iR bD cL aE;refine b9 j (λi x=>x=((j:Int)-1-i)/\t8 l (cO l j).th (j-i)=t8 l (cO l j).th j) ?_ ?_ ⟨?_,by rw[Nat.sub_zero]⟩
 .rintro i x hi ⟨rfl,e⟩;refine eY (λ_=>?_) λg=>by omega
  rw[show (j:Int)-1-i=((j-i-1:Nat):Int) by omega];refine ch (aS (ch (aS (aK (λg=>ar ?_) λg=>ar ?_))))
  .have g:=(ZW I (show j-i-1<l.length by omega) hj).1 g;dsimp only;rw[<- e,show j-i=j-i-1+1 by omega,t8,Nat.add_sub_cancel,aF g]
  .have g:¬_:=λq=>g ((ZW I (show j-i-1<l.length by omega) hj).2 q)
   dsimp only;refine ⟨by rw[ic (by omega) (by omega)];omega,?_⟩;rw[<- e,show j-i=j-(i+1)+1 by omega,t8,show j-(i+1)=j-i-1 by omega,ay g]
 .rintro x ⟨rfl,e⟩;refine eY (λg=>by omega) λ_=>ar ?_
  rw[Hp] at e;exact e
 .dsimp only;rw[ic (by omega) (by omega)];omega
theorem ZG (x:ET):pB x=af (decide (x.2.1=3\/x.2.1=4)):=by
 refine cE ?_;unfold pB bd aE;refine gy (aK (λh=>ar (ar ?_)) λh=>ar (ar ?_))
 .exact (aQ (.inl h)).symm
 .by_cases q:x.2.1=4<;>simp[h,q]
def acB (e:EV):Bool:=decide (e.k=3\/e.k=4)
theorem ada {w:WT} {l:List ET} (I:TR (w,l)) {j:Nat} (hj:j<l.length):pB (eN l j)=af (acB (cO l j)):=by
 rw[ZG,(qC I hj).k];unfold acB;congr 1;rw[decide_eq_decide];omega
theorem SK {w:WT} {l:List ET} (I:TR (w,l)) {j:Nat} (hj:j<l.length):oA (w,eN l j)=af (acB (cO l j)&&HZ w.1 (cO l j).ob):=by
 refine cE ?_;unfold oA bi bx iR bD aX aE;refine gy (aV (ada I hj) (aP (λh=>?_) λh=>ar (ar ?_)))
 .have hk:=bt h;have ce:=((uD I hj).ce hk).2;have ob:(eN l j).2.2.1=((cO l j).ob:Int):=(qC I hj).ob (by rcases hk with h|h<;>rw[h]<;>decide);rw[ob];refine eY (λ_=>du (ch (aS (ar (ar ?_))))) λg=>(by omega)
  rw[h,WU];rfl
 .rw[h];rfl
def fL (p:Nat->Bool) (i:Nat):List Int:=((c4 i).filter p).map aO
theorem alz {p:Nat->Bool} {i:Nat} (h:p i=ai):fL p (i+1)=fL p i++[(i:Int)]:=by
 unfold fL;rw[Fs,xW,cA,List.filter_cons_of_pos h];rfl
theorem am0 {p:Nat->Bool} {i:Nat} (h:p i=aj):fL p (i+1)=fL p i:=by
 unfold fL;rw[Fs,xW,cA,List.filter_cons_of_neg (by rw[h];decide)];simp
theorem Jm (p:Nat->Bool) (i:Nat):(fL p i).length<=i:=by
 unfold fL;rw[bX];exact dg (Bt p _) (Nat.le_of_eq jM)
theorem Jl {p:Nat->Bool} {i:Nat} {z:Int} (h:z∈fL p i):0<=z/\z<i:=by
 obtain⟨k,hk,rfl⟩:=c_.1 h;have:=jL.1 (xc.1 hk).1;exact⟨dS k,Int.ofNat_lt.2 this⟩
theorem afu {w:WT} {l:List ET} (J:TR (w,l)) {j:Nat} (hj:j<l.length):wg (w,l,(j:Int))=af (fL (dB (Pz w l j)) j):=by
 have hl:=J.len;dsimp only at hl;refine cE ?_;unfold wg bd bx iR bB bD cL aE cC;refine ch (aS (aV (akx (uD J hj) (qC J hj)) ?_));have Y:=(qC J hj).k;refine b9 j (λi x=>x=((i:Int),w,fL (dB (Pz w l j)) i)) ?_ ?_ rfl
 .rintro i x hi rfl;have M:i<l.length:=by omega
  have Z:=(qC J M).k;refine du ?_;refine aZ (λx=>x=(w,fL (dB (Pz w l j)) (i+1))) ?_ ?_
  .refine ch (aS (aV (ajl (uD J M) (qC J M)) ?_));refine aZ (λx=>x.2=(w,fL (dB (Pz w l j)) i)/\(x.1=ai↔Pz w l j i)) ?_ ?_
   .unfold Pz;generalize B' w (cO l j)=A;generalize Ap w (cO l i)=R;obtain⟨A,a⟩:=A;obtain⟨R,r⟩:=R;refine eY (λU=>aK (λhr=>aP (λhb=>ec (λhs=>ar ⟨rfl,λ_=>.inl ⟨U,hr,λq=>by dsimp only at q hs;rw[hs] at q;cases q.2⟩,λ_=>rfl⟩) λhs=>?_) λhb=>ar ⟨rfl,λ_=>.inl ⟨U,hr,λq=>by dsimp only at q hb;rw[hb] at q;cases q.1⟩,λ_=>rfl⟩) λhr=>?_) λU=>?_
    all_goals refine ch (aS (aK (λI=>ch (aS (ar ⟨rfl,?_⟩))) λI=>ar ⟨rfl,?_⟩))
    all_goals dsimp only at I U ⊢
    all_goals rw[Y] at I
    all_goals try rw[be,Z]
    all_goals try change ((cO l i).k:Int)=13↔_
    all_goals first|(have I:((cO l j).k:Int)=12:=I)|(have I:¬((cO l j).k:Int)=12:=I)
    all_goals
     have hn:¬(0<=A/\R=A/\¬(a=ai/\r=ai)):=λq=>by first|exact q.2.2 ⟨hb,hs⟩|exact hr q.2.1|exact cV q.1 (by omega)
     rw[or_iff_right hn];first|exact⟨λq=>(by cases q),λq=>by omega⟩|omega
   rintro⟨x,y⟩ ⟨e,h⟩;dsimp only at e h;subst e;refine aP (λhb=>?_) λhb=>ar ?_
   .have hn:=Jm (dB (Pz w l j)) i;refine bg (by dsimp only[dR];omega) (by omega) (ar ?_);dsimp only;rw[alz (aez.2 (h.1 hb))]
   .dsimp only;rw[am0 (af0.2 λq=>cV (h.2 q) (by rw[show x=aj from hb];decide))]
  rintro x rfl;refine ar ?_;dsimp only;rw[gM (by omega)]
 .rintro x rfl;exact dv (ar rfl)
theorem PN {l:List ET} {u k:Nat} (h:0<=Cm l u k):∀ m:Nat,(∀ n,k<=n->n<k+m->¬(cO l n).th=u)->Cm l u (k+m)=Cm l u k
 |0,_=>rfl
 |m+1,hn=>by
  have I:=PN h m λn h1 h2=>hn n h1 (by omega)
  rw[<- pq,Wa (hn (k+m) (by omega) (by omega)) (by rw[I];exact h)];exact I
theorem acf {w:WT} {l:List ET} (J:TR (w,l)) {j:Nat} (hj:j<l.length) (h0:0<=t8 l (cO l j).th j) (I:(cO l (t8 l (cO l j).th j).toNat).k=16) (hw:0<=Cm l (cO l j).th j):uc (l,(j:Int))=af (Cm l (cO l j).th j):=by
 have hl:=J.len;dsimp only at hl;have hlt:=(TZ l (cO l j).th j).2;have hown:=Wr j h0;have hnot:=λk=>NK (l:=l) (u:=(cO l j).th) j k
 have hsame:=λk=>Qe (l:=l) (u:=(cO l j).th) j k
 refine cE ?_;unfold uc bd bx bD cL aE cC;refine aV (Gz J hj) ?_;generalize t8 l (cO l j).th j=p at*
 obtain⟨p,rfl⟩:∃ k:Nat,p=k:=⟨p.toNat,by omega⟩
 rw[dQ] at I hown;have hp:p<l.length:=by omega
 have Z:=qC J hp;have ej:=qC J hj;have op:(eN l p).2.2.1=((cO l p).ob:Int):=Z.ob (by rw[I];decide);refine aZ (λx=>x=aj) (bF (λg=>by omega) λ_=>ch (aS (ar ?_))) ?_
 .show (!decide ((eN l p).2.1=16))=aj;rw[Z.k,I];rfl
 rintro x rfl;refine gz ?_;rw[gM (show p<9223372036854775807 by omega)];refine b9 (j-(p+1)) (λi x=>x=((p+1+i:Nat):Int)/\Cm l (cO l j).th (p+1+i)= -1) ?_ ?_ ⟨rfl,V_ hown⟩
 .rintro i x hi ⟨rfl,e⟩;have hk:p+1+i<l.length:=by omega
  have hu:=hnot (p+1+i) (by omega) (by omega);have hs:=hsame (p+1+i) (by omega) (by omega);have U:=qC J hk;refine du ?_;generalize hkk:p+1+i=k at*
  have ok':(cO l k).k=19->(eN l k).2.2.1=((cO l k).ob:Int):=λh=>U.ob (by rw[h];decide)
  have ekk:=U.k;have ekv:=U.va;have ejt:=ej.th;refine aZ (λx=>x=ai↔(cO l k).k=18/\(cO l k).va=(cO l j).th\/(cO l k).k=19/\(cO l k).ob=(cO l p).ob) ?_ ?_
  .have M:∀ {R:Type} {Q:R⊕Bool->Prop},¬((cO l k).k=18/\(cO l k).va=(cO l j).th)->(∀ x,(x=ai↔(cO l k).k=18/\(cO l k).va=(cO l j).th\/(cO l k).k=19/\(cO l k).ob=(cO l p).ob)->Q (.inr x))->Ok (chk (fe (k:Int) (al l)) λ_=>lt (aJ (T:=tE) l (k:Int)) λz=>bcase (decide ((z.2.1:Int)=19)) (chk (fe (k:Int) (al l)) λ_=>lt (aJ (T:=tE) l (k:Int)) λz=>chk (fe (p:Int) (al l)) λ_=>lt (aJ (T:=tE) l (p:Int)) λy=>af (bQ (decide ((z.2.2.1:Int)=y.2.2.1)))) (af (bQ aj))) Q:=λhn Y=>by
    refine ch (aS (aK (λh=>?_) λh=>ar (Y _ ?_)))
    .have h:(eN l k).2.1=19:=h;refine ch (aS (ch (aS (ar (Y _ ?_)))));have o2:=ok' (by omega);change decide ((eN l k).2.2.1=(eN l p).2.2.1)=ai↔_;rw[o2,op,be,or_iff_right hn];omega
    .have h:¬(eN l k).2.1=19:=h;rw[or_iff_right hn];exact⟨λq=>(by cases q),λq=>by omega⟩
   refine ch (aS (aK (λh=>?_) λh=>?_))
   .have h:(eN l k).2.1=18:=h;refine ch (aS (ch (aS (aK (λg=>ar ?_) λg=>?_))))
    .have g:(eN l k).2.2.2.1=(eN l j).1:=g;exact⟨λ_=>.inl ⟨by omega,by omega⟩,λ_=>rfl⟩
    .have g:¬(eN l k).2.2.2.1=(eN l j).1:=g;exact M (λq=>g (by omega)) λx h=>h
   .have h:¬(eN l k).2.1=18:=h;exact M (λq=>h (by omega)) λx h=>h
  rintro x hx;have hm:mtN l (cO l j).th k (t8 l (cO l j).th k)↔x=ai:=by
   rw[hx,hs];unfold mtN;rw[dQ];exact⟨λq=>q.2.2,λq=>⟨by omega,I,q⟩⟩
  refine aP (λhb=>ar ?_) λhb=>ar ?_
  .have e2:=Wc hu e (hm.2 hb);have e3:=PN (k:=k+1) (by omega) (j-(k+1)) λn h1 h2=>hnot n (by omega) (by omega)
   rw[show k+1+(j-(k+1))=j by omega,e2] at e3;exact e3.symm
  .have e2:=Wb hu e λq=>by rw[hm.1 q] at hb;cases hb
   exact⟨by rw[gM (by omega)];omega,by rw[<- e2];congr 1;omega⟩
 .rintro x ⟨rfl,e⟩;rw[show p+1+(j-(p+1))=j by omega] at e;omega
def Yf (w:WT) (l:List ET) (j:Nat):List Int:=fL (dB (HE w l j)) j++if (cO l j).k=17 then [Cm l (cO l j).th j] else []
theorem ZN {w:WT} {l:List ET} (I:TR (w,l)) {j:Nat} (hj:j<l.length) (h:(cO l j).k=17):0<=t8 l (cO l j).th j/\(cO l (t8 l (cO l j).th j).toNat).k=16/\0<=Cm l (cO l j).th j:=by
 have b:=(Uk I j (by omega)).2 (cO l j).th (by rw[<- (zd I j (by omega)).2.T];exact (uD I hj).th);have wk:=((I.sc hj).rd.wk (by rw[(qC I hj).k,h];rfl)).1;rw[(qC I hj).th] at wk;have g:=b.p (.inr wk);exact⟨g.1,g.2.1,(b.n wk).1⟩
theorem age {w:WT} {l:List ET} (J:TR (w,l)) {j:Nat} (hj:j<l.length):wh (w,l,(j:Int))=af (Yf w l j):=by
 have hl:=J.len;dsimp only at hl;refine cE ?_;unfold wh aY bi bw cu dU bK bd bx iR bB bD cL aE cC;refine ch (aS ?_);have Y:=qC J hj;have kj:(eN l j).2.1=(cO l j).k:=Y.k;refine b9 j (λi x=>x=((i:Int),w,fL (dB (HE w l j)) i,eN l j)) ?_ ?_ rfl
 .rintro i x hi rfl;have hi':i<l.length:=by omega
  have Z:=qC J hi';have ki:(eN l i).2.1=(cO l i).k:=Z.k;have hn:=Jm (dB (HE w l j)) i;have ad:∀ {R:Type} {Q:(R⊕(WT×List Int×ET))->Prop},HE w l j i->Q (.inr (w,fL (dB (HE w l j)) (i+1),eN l j))->Ok (chk (a_ ((fL (dB (HE w l j)) i).length+[(i:Int)].length) 8) λ_=>af (bQ (w,fL (dB (HE w l j)) i++[(i:Int)],eN l j))) Q:=λh q=>by
   refine bg (by rw[dR];omega) (by omega) (ar ?_);rw[<- alz (aez.2 h)];exact q
  refine du ?_;refine ch (aS ?_);refine aZ (λx=>x=(w,fL (dB (HE w l j)) (i+1),eN l j)) ?_ ?_
  .refine aZ (λx=>x.2=(w,fL (dB (HE w l j)) i,eN l j,eN l i)/\(x.1=ai↔(cO l j).k=1/\(cO l i).k=20/\(cO l i).ob=(cO l j).th)) ?_ ?_
   .refine aK (λh=>aK (λg=>ar ⟨rfl,?_⟩) λg=>ar ⟨rfl,?_⟩) λh=>ar ⟨rfl,?_⟩
    .have h:(eN l j).2.1=1:=h;have g:(eN l i).2.1=20:=g;have o:(eN l i).2.2.1=(cO l i).ob:=Z.ob (by rw[show (cO l i).k=20 by omega];decide);have t:(eN l j).1=(cO l j).th:=Y.th;change decide ((eN l i).2.2.1=(eN l j).1)=ai↔_;rw[be];omega
    .have g:¬(eN l i).2.1=20:=g;exact⟨λq=>(by cases q),λq=>by omega⟩
    .have h:¬(eN l j).2.1=1:=h;exact⟨λq=>(by cases q),λq=>by omega⟩
   rintro⟨x,y⟩ ⟨e,h1⟩;dsimp only at e h1;subst e;refine aP (λhb=>ad (.inl (h1.1 hb)) rfl) λI=>?_
   have h1:¬_:=λq=>cV (h1.2 q) (by rw[show x=aj from I];decide)
   clear I;refine aZ (λx=>x.2=(w,fL (dB (HE w l j)) i,eN l j,eN l i)/\(x.1=ai↔(cO l j).k=21/\(cO l i).th=(cO l j).ob)) ?_ ?_
   .refine aK (λh=>ar ⟨rfl,?_⟩) λh=>ar ⟨rfl,?_⟩
    .have h:(eN l j).2.1=21:=h;have o:(eN l j).2.2.1=(cO l j).ob:=Y.ob (by rw[show (cO l j).k=21 by omega];decide);have t:(eN l i).1=(cO l i).th:=Z.th;change decide ((eN l i).1=(eN l j).2.2.1)=ai↔_;rw[be];omega
    .have h:¬(eN l j).2.1=21:=h;exact⟨λq=>(by cases q),λq=>by omega⟩
   rintro⟨x,y⟩ ⟨e,h2⟩;dsimp only at e h2;subst e;refine aP (λhb=>ad (.inr (.inl (h2.1 hb))) rfl) λI=>?_
   have h2:¬_:=λq=>cV (h2.2 q) (by rw[show x=aj from I];decide)
   clear I;refine aZ (λx=>x.2=(w,fL (dB (HE w l j)) i,eN l j,eN l i)/\(x.1=ai↔(cO l j).k=3/\HZ w.1 (cO l j).ob=ai/\(cO l i).k=4/\(cO l i).ob=(cO l j).ob)) ?_ ?_
   .refine aK (λh=>?_) λh=>ar ⟨rfl,?_⟩
    .have h:(eN l j).2.1=3:=h;have h:(cO l j).k=3:=by omega
     have o:(eN l j).2.2.1=(cO l j).ob:=Y.ob (by rw[h];decide);refine aV (SK J hj) (aP (λhv=>aK (λg=>ar ⟨rfl,?_⟩) λg=>ar ⟨rfl,?_⟩) λhv=>ar ⟨rfl,?_⟩)
     .have hv:=(oP.1 hv).2;have g:(eN l i).2.1=4:=g;have o':(eN l i).2.2.1=(cO l i).ob:=Z.ob (by rw[show (cO l i).k=4 by omega];decide);change decide ((eN l i).2.2.1=(eN l j).2.2.1)=ai↔_;rw[be];exact⟨λq=>⟨h,hv,by omega,by omega⟩,λq=>by omega⟩
     .have g:¬(eN l i).2.1=4:=g;exact⟨λq=>(by cases q),λq=>by omega⟩
     .refine ⟨λq=>(by cases q),λq=>?_⟩;rw[q.2.1] at hv;unfold acB at hv;rw[aQ (.inl h)] at hv;cases hv
    .have h:¬(eN l j).2.1=3:=h;exact⟨λq=>(by cases q),λq=>by omega⟩
   rintro⟨x,y⟩ ⟨e,U⟩;dsimp only at e U;subst e;refine aP (λhb=>ad (.inr (.inr (.inl (U.1 hb)))) rfl) λI=>?_
   have U:¬_:=λq=>cV (U.2 q) (by rw[show x=aj from I];decide)
   clear I;refine aZ (λx=>x.2=(w,fL (dB (HE w l j)) i,eN l j)/\(x.1=ai↔(cO l j).k=23/\(cO l i).k=22/\(cO l i).ob=(cO l j).ob)) ?_ ?_
   .refine aK (λh=>aK (λg=>ar ⟨rfl,?_⟩) λg=>ar ⟨rfl,?_⟩) λh=>ar ⟨rfl,?_⟩
    .have h:(eN l j).2.1=23:=h;have g:(eN l i).2.1=22:=g;have o:(eN l i).2.2.1=(cO l i).ob:=Z.ob (by rw[show (cO l i).k=22 by omega];decide);have o':(eN l j).2.2.1=(cO l j).ob:=Y.ob (by rw[show (cO l j).k=23 by omega];decide);change decide ((eN l i).2.2.1=(eN l j).2.2.1)=ai↔_;rw[be];omega
    .have g:¬(eN l i).2.1=22:=g;exact⟨λq=>(by cases q),λq=>by omega⟩
    .have h:¬(eN l j).2.1=23:=h;exact⟨λq=>(by cases q),λq=>by omega⟩
   rintro⟨x,y⟩ ⟨e,M⟩;dsimp only at e M;subst e;refine aP (λhb=>ad (.inr (.inr (.inr (M.1 hb)))) rfl) λI=>?_
   have M:¬_:=λq=>cV (M.2 q) (by rw[show x=aj from I];decide)
   refine ar ?_;dsimp only;rw[am0 (af0.2 λq=>q.elim h1 λq=>q.elim h2 λq=>q.elim U M)]
  rintro x rfl;refine ar ?_;dsimp only;rw[gM (by omega)]
 .rintro x rfl;refine dv ?_;have hn:=Jm (dB (HE w l j)) j;refine ax (P:=λy=>y=Yf w l j) (aZ (λx=>x=Yf w l j) ?_ λx hx=>ar hx) λx hx=>ar hx
  unfold Yf;refine aK (λh=>?_) λh=>ar ?_
  .have h:(eN l j).2.1=17:=h;have h:(cO l j).k=17:=by omega
   obtain⟨h0,h1,h2⟩:=ZN J hj h;refine aV (acf J hj h0 h1 h2) (eY (λ_=>bg (by dsimp only[dR];omega) (by omega) (ar ?_)) λg=>(by omega));dsimp only;rw[aF h]
  .have h:¬(eN l j).2.1=17:=h;dsimp only;rw[ay (by omega),iP]
theorem VO:tu ()=af ai:=by kernel_rfl
theorem fy {φ:PM} {O:Nat->Prop} {w:World} {v u:Value} (h:cW φ O w (.f (.raw v)) u):u=v:=by
 cases h with
 |f h=>cases h;rfl
theorem tZ (h:HF) (nw:HF):eS h [] nw=h:=by funext t;simp[eS]
theorem Gv:∀ {l:List Value},Km l=ai->∀ v∈l,v.oneCell'=ai
 |[],_,v,hv=>by cases hv
 |x::r,h,v,hv=>by
  simp only[Km,av] at h;rcases bm.1 hv with rfl|hv
  .exact h.1
  .exact Gv h.2 v hv
theorem Vm {φ:PM} {O:Nat->Prop} {w:World} (v:Value):cW φ O w (Fa v) v:=by
 unfold Fa;split
 .rename_i vs;split
  .rename_i h1;refine cW.agg (vs:=vs.toList) (by simp) (λx I=>?_) (λj x v I hv=>?_)
   .obtain⟨u,hu,rfl⟩:=c_.1 I;exact Gv h1 u hu
   .rw[bc,hv] at I;simp only[cg,ak] at I;subst I;exact .f (.raw _)
  .exact .f (.raw _)
 .exact .f (.raw _)
theorem tI {φ:PM} {E:Nat->Prop} {h':HF} {w:World} {e:zR} {a:Act} {xs:Array Operand} (hrep:qY φ E h' w) (h:∀ t,.tmp t∈xs->∀ y,e.get t=af y->cW φ (tot E φ h') w y (a.tmps.getD t undef)) {x:Operand} {y:AV} (J:x∈xs) (I:mC e x=af y):cW φ (tot E φ h') w y (a.eval x):=by
 cases x with
 |tmp t=>exact h t J y I
 |const v=>simp only[mC,ak] at I;subst I;exact Vm v
 |func g=>
  simp only[mC,ak] at I;subst I;exact cW.clo (vs:=[]) (g:=g) (cells:=[]) rfl (by intro j x v J;simp at J)
 |global g=>
  simp only[mC] at I;cases hg:G g with
  |none=>rw[hg] at I;cases I
  |some cells=>rw[hg] at I;simp only[ak] at I;subst I;exact .f (hrep.gl g cells hg)
abbrev V0 (φ:PM) (E:Nat->Prop) (h':HF) (w:World) (a:Act) (e:zR) (o:Oper):Prop:=∀ x y,x∈o.op.operands->mC e x=af y->cW φ (tot E φ h') w y (a.eval x)
theorem gL.reads {P:Program} {o:Oper} {e:zR} {h:HF} {val:AV} {rd:List Nat} {nw:HF}
 (hv:∀ (φ:PM) (E:Nat->Prop) (h':HF) (w:World) (a:Act),(∀ i∈rd,h' i=h i)->V0 φ E h' w a e o->qY φ E h' w->
   ∃ v,(execOp a.eval o).run P w= .ok (.value v) w/\cW φ (tot E φ h') w val v):gL P o e.get h ⟨val,rd,[],nw,[]⟩:=by
 intro φ E h' w a h1 h2 U I Y;obtain⟨v,r,rel⟩:=hv φ E h' w a h1 (λx y M J=>tI I U M J) I;unfold Ho;rw[r];refine ⟨v,φ,rfl,?_,λ_ _ h=>.inl h,?_,?_⟩<;>rw[tZ]
 .exact iY.refl _ _ _
 .exact I
 .exact rel
theorem dy {x:AV} {R:Cb} (h:rv x=af R):R=⟨x,[],[],[],[]⟩:=by simp only[rv,ak] at h;exact h.symm
section pure
variable {P:Program} {o:Oper} {e:zR} {h:nV} {nx:Nat} {R:Cb}
theorem amm {x:Operand} (I:o.op= .move x\/o.op= .assign x) (J:eQ (.mv x) e h nx=af R):gL P o e.get h.get R.eff:=by
 simp only[eQ] at J;split at J
 .rename_i v hv;rw[dy J];exact gL.reads λφ E h' w a _ hop _=>⟨a.eval x,by unfold execOp;rcases I with I|I<;>rw[I]<;>rfl,hop x v (by rcases I with I|I<;>rw[I]<;>simp[Op.operands]) hv⟩
 .cases J
theorem aj8 {c x y:Operand} (J:o.op= .pick c x y) (I:eQ (.pick c x y) e h nx=af R):gL P o e.get h.get R.eff:=by
 simp only[eQ] at I;split at I
 .rename_i t hc;split at I
  .rename_i v hv;rw[dy I];refine gL.reads λφ E h' w a _ hop _=>?_
   have hcv:=fy (hop c _ (by rw[J];simp[Op.operands]) hc);refine ⟨a.eval (if t then x else y),?_,hop _ v (by rw[J];cases t<;>simp[Op.operands]) hv⟩;unfold execOp;rw[J];simp only[hcv];cases t<;>rfl
  .cases I
 .cases I
theorem aj9 {x:Operand} (I:o.op= .nilCheck x) (J:eQ (.nilc x) e h nx=af R):gL P o e.get h.get R.eff:=by
 simp only[eQ] at J;split at J
 .rename_i id off U;rw[dy J];refine gL.reads λφ E h' w a _ hop _=>?_
  have h1:=hop x _ (by rw[I];simp[Op.operands]) U;generalize M:a.eval x=z at h1;cases h1 with
  |ptr hφ=>exact⟨_,by unfold execOp;rw[I];simp only[M];rfl,.ptr hφ⟩
 .rename_i cells off U;rw[dy J];refine gL.reads λφ E h' w a _ hop _=>?_
  have h1:=hop x _ (by rw[I];simp[Op.operands]) U;generalize M:a.eval x=z at h1;cases h1 with
  |f h1=>
   have h2:=h1;cases h2 with
   |ptr _ _ b base us hO hb hcl hu hr=>exact⟨_,by unfold execOp;rw[I];simp only[M];rfl,.f h1⟩
 .rename_i g cap U;rw[dy J];refine gL.reads λφ E h' w a _ hop _=>?_
  have h1:=hop x _ (by rw[I];simp[Op.operands]) U;generalize M:a.eval x=z at h1;cases h1 with
  |clo hl hr=>exact⟨_,by unfold execOp;rw[I];simp only[M];rfl,.clo hl hr⟩
 .cases J
theorem amk {x:Operand} {t:TypeId} (J:o.op= .unOp .not t x) (I:eQ (.not x) e h nx=af R):gL P o e.get h.get R.eff:=by
 simp only[eQ] at I;split at I
 .rename_i b M;rw[dy I];refine gL.reads λφ E h' w a _ hop _=>?_
  have h1:=fy (hop x _ (by rw[J];simp[Op.operands]) M);exact⟨_,by unfold execOp;rw[J];simp only[h1];rfl,.f (.raw _)⟩
 .cases I
theorem yK (k:IntKind) (n:Int):bk k n=k.wrap n:=by
 rw[Hr];unfold Mg;split
 .split
  .rename_i h;simp only[c7,av,be] at h;have:oO .i64 n=if n%18446744073709551616≥9223372036854775808 then n%18446744073709551616-18446744073709551616 else n%18446744073709551616:=by
    simp[oO,IntKind.bits,IntKind.signed]
   rw[this];split<;>omega
  .rfl
 .split
  .rename_i h;simp only[c7,av,be] at h;have:oO .u8 n=n%256:=by
    simp[oO,IntKind.bits,IntKind.signed]
   rw[this];omega
  .rfl
 .rfl
theorem ajh {x:Operand} {s d:TypeId} {k k':IntKind} (J:o.op= .convert s d x) (hs:P.underlying s=af (.int k')) (hd:P.underlying d=af (.int k)) (I:eQ (.conv k x) e h nx=af R):gL P o e.get h.get R.eff:=by
 simp only[eQ] at I;split at I
 .rename_i U n M;rw[dy I];refine gL.reads λφ E h' w a _ hop _=>?_
  have h1:=fy (hop x _ (by rw[J];simp[Op.operands]) M);refine ⟨_,?_,.f (.raw _)⟩;unfold execOp;rw[J];simp[h1,convert,run_underlying hs,run_underlying hd,Conv.intToInt,yK]
 .cases I
theorem Pd (a:ByteArray):a.toList=a.data.toList:=by
 first|exact ByteArray.toList_eq a|simp[ByteArray.toList]|rfl
theorem Z6 {op:BinOp} {t:TypeId} {u v r:Value} (hr:uT op u v=af r) (x y:Operand) (w:World):
 (do eqGuard op t x y u v;binOp op t u v:Sem Value).run P w= .ok r w:=by
 unfold uT at hr;split at hr
 .rename_i k a k' b;split at hr
  .rename_i hk;have I:k=k':=by simpa using hk
   subst I;split at hr<;>first|(simp only[ak] at hr;subst hr;simp[eqGuard,binOp,Op.intCmp,Op.intArith,yK,c7,fO];done)|(split at hr<;>first|(cases hr;done)|(rename_i hb;simp only[ak] at hr;subst hr;simp[eqGuard,binOp,Op.intDiv,yK,show b≠0 from by simpa using hb];done))|(cases hr;done)
  .cases hr
 .rename_i a b;split at hr<;>first|(simp only[ak] at hr;subst hr;simp[eqGuard,binOp,Op.stringOp,rW,Pd];done)|(cases hr;done)
 .cases hr
theorem agt {s:Sem Value} {r:Value} {w w':World} (hs:s.run P w= .ok r w'):(do let x<-s;pure (Next.value x):Sem Next).run P w= .ok (.value r) w':=by
 simp[hs]
theorem ahi {op:BinOp} {x y:Operand} {t t':TypeId} (J:o.op= .binOp op t x y t') (I:eQ (.bin op x y) e h nx=af R):gL P o e.get h.get R.eff:=by
 simp only[eQ] at I;split at I
 .rename_i u v U M;split at I
  .rename_i r hr;rw[dy I];refine gL.reads λφ E h' w a _ hop _=>?_
   have h1:=fy (hop x _ (by rw[J];simp[Op.operands]) U);have h2:=fy (hop y _ (by rw[J];simp[Op.operands]) M);refine ⟨r,?_,.f (.raw _)⟩;unfold execOp;rw[J];simp only[h1,h2];exact agt (Z6 (P:=P) (t:=t) hr x y w)
  .cases I
 .cases I
theorem US {t:TypeId} (hu:P.underlying t=af .bool) (u v:Bool) (w:World):(Op.equal t (.bool u) (.bool v)).run P w= .ok (u==v) w:=by
 have key:∀ d,(Op.equalIn (d+1) t (.bool u) (.bool v)).run P w= .ok (u==v) w:=λd=>by simp[Op.equalIn,run_underlying hu]
 exact key 9999
theorem Ro {t el:TypeId} (hu:P.underlying t=af (.slice el)) (A:Option Addr) (n c:Nat) (w:World):(Op.equal t (.slice A n c) (.slice ah 0 0)).run P w= .ok A.isNone w:=by
 have key:∀ d,(Op.equalIn (d+1) t (.slice A n c) (.slice ah 0 0)).run P w= .ok A.isNone w:=λd=>by cases A<;>simp[Op.equalIn,run_underlying hu]
 exact key 9999
theorem ahh {neg:Bool} {op:BinOp} {x y:Operand} {t t':TypeId} (J:o.op= .binOp op t x y t') (hop:op=if neg then .neq else .eql) (hu:P.underlying t=af .bool) (I:eQ (.eqb neg x y) e h nx=af R):gL P o e.get h.get R.eff:=by
 simp only[eQ] at I;split at I
 .rename_i u v U M;rw[dy I];refine gL.reads λφ E h' w a _ hp _=>?_
  have h1:=fy (hp x _ (by rw[J];simp[Op.operands]) U);have h2:=fy (hp y _ (by rw[J];simp[Op.operands]) M);refine ⟨_,?_,.f (.raw _)⟩;unfold execOp;rw[J];simp only[h1,h2];subst hop;cases neg<;>simp[eqGuard,binOp,US hu]
 .cases I
theorem Xx {neg:Bool} {op:BinOp} {x y:Operand} {t t' el:TypeId} (U:o.op= .binOp op t x y t') (hop:op=if neg then .neq else .eql) (Y:y= .const (.slice ah 0 0)) (hu:P.underlying t=af (.slice el)) (J:eQ (.isnil neg x) e h nx=af R):gL P o e.get h.get R.eff:=by
 have key:∀ (v:Value) (w:World) (ρ:Operand->Value) (A:Option Addr) (n c:Nat),ρ x= .slice A n c->ρ y= .slice ah 0 0->(execOp ρ o).run P w= .ok (.value (.bool (A.isNone !=neg))) w:=by
  intro v w ρ A n c h1 h2;unfold execOp;rw[U];simp only[h1,h2];subst hop;cases neg<;>simp[eqGuard,binOp,Ro hu]
 have hyv:∀ a:Act,a.eval y= .slice ah 0 0:=λa=>by rw[Y];rfl
 simp only[eQ] at J;split at J
 .rename_i id sz n I;rw[dy J];refine gL.reads λφ E h' w a _ hp _=>?_
  have h1:=hp x _ (by rw[U];simp[Op.operands]) I;generalize M:a.eval x=z at h1;cases h1 with
  |row hφ hn hc hs=>exact⟨_,key (.bool ai) w a.eval _ _ _ M (hyv a),by simpa[raw] using cW.f (.raw _)⟩
 .rename_i id off n I;rw[dy J];refine gL.reads λφ E h' w a _ hp _=>?_
  have h1:=hp x _ (by rw[U];simp[Op.operands]) I;generalize M:a.eval x=z at h1;cases h1 with
  |sl hφ hn hc=>exact⟨_,key (.bool ai) w a.eval _ _ _ M (hyv a),by simpa[raw] using cW.f (.raw _)⟩
 .rename_i cells n I;rw[dy J];refine gL.reads λφ E h' w a _ hp _=>?_
  have h1:=hp x _ (by rw[U];simp[Op.operands]) I;generalize M:a.eval x=z at h1;cases h1 with
  |f h1=>
   cases h1 with
   |sl=>exact⟨_,key (.bool ai) w a.eval _ _ _ M (hyv a),by simpa[raw] using cW.f (.raw _)⟩
 .rename_i cells I;rw[dy J];refine gL.reads λφ E h' w a _ hp _=>?_
  have h1:=hp x _ (by rw[U];simp[Op.operands]) I;generalize M:a.eval x=z at h1;cases h1 with
  |f h1=>
   cases h1 with
   |nil=>exact⟨_,key (.bool ai) w a.eval _ _ _ M (hyv a),.anyb⟩
   |sl=>exact⟨_,key (.bool ai) w a.eval _ _ _ M (hyv a),.anyb⟩
 .rename_i I;rw[dy J];refine gL.reads λφ E h' w a _ hp _=>?_
  have h1:=hp x _ (by rw[U];simp[Op.operands]) I;generalize M:a.eval x=z at h1;cases h1 with
  |emp=>exact⟨_,key (.bool ai) w a.eval _ _ _ M (hyv a),.anyb⟩
 .rename_i v I;split at J
  .rename_i hv;rw[dy J];refine gL.reads λφ E h' w a _ hp _=>?_
   have h1:=fy (hp x _ (by rw[U];simp[Op.operands]) I);unfold Ae at hv;split at hv
   .exact⟨_,key (.bool ai) w a.eval _ _ _ h1 (hyv a),by simpa[raw] using cW.f (.raw _)⟩
   .cases hv
  .cases J
 .cases J
theorem gx {t:TypeId} {sz:Nat} (hs:fw P t=af sz) (w:World):(sizeOf t).run P w= .ok sz w:=by
 unfold fw at hs;cases hi:P.info? t with
 |none=>rw[hi] at hs;cases hs
 |some i=>rw[hi] at hs;simp at hs;simp[sizeOf,typeInfo,program,hi,ny,hs]
theorem P_ {t:TypeId} {ag:Bool} (hs:DS P t=af ag) (w:World):(isAgg t).run P w= .ok ag w:=by
 unfold DS at hs;cases hi:P.underlying t with
 |none=>rw[hi] at hs;cases hs
 |some d=>
  rw[hi] at hs;simp only[cg,ak] at hs;rw[<- hs];simp only[isAgg,eH,run_underlying hi,cM];cases d<;>rfl
theorem kX (b off i:Nat):(⟨b,off,ah⟩:Addr).add i=⟨b,off+i,ah⟩:=by
 unfold Addr.add;split<;>simp_all
theorem P9 {s:TypeId} {fs:Array Field} {k:Nat} {f:Field} {sz:Nat} (hu:P.underlying s=af (.struct fs)) (hf:fs[k]? =af f) (hs:fw P f.type=af sz) (h0:sz≠0) (w:World) (b i:Nat):
 (Instr.fieldAt s (.pointer (af ⟨b,i,ah⟩)) k).run P w= .ok (.pointer (af ⟨b,i+f.offset,ah⟩)) w:=by
 have h1:=gx hs w;simp[Instr.fieldAt,run_underlying hu,hf,Instr.sureAddr,fieldPlace,h1,h0,kX]
theorem amu {s:TypeId} {fs:Array Field} {k:Nat} {f:Field} {sz:Nat} {x:Operand} (U:o.op= .fieldAddr s x k) (hu:P.underlying s=af (.struct fs)) (hf:fs[k]? =af f) (hs:fw P f.type=af sz) (h0:sz≠0) (I:eQ (.fad f.offset x) e h nx=af R):gL P o e.get h.get R.eff:=by
 have key:∀ (w:World) (ρ:Operand->Value) (b i:Nat),ρ x= .pointer (af ⟨b,i,ah⟩)->(execOp ρ o).run P w= .ok (.value (.pointer (af ⟨b,i+f.offset,ah⟩))) w:=by
  intro w ρ b i h1;unfold execOp;rw[U];simp only[h1];exact agt (P9 hu hf hs h0 w b i)
 simp only[eQ] at I;split at I
 .rename_i id off M;rw[dy I];refine gL.reads λφ E h' w a _ hp _=>?_
  have h1:=hp x _ (by rw[U];simp[Op.operands]) M;generalize J:a.eval x=z at h1;cases h1 with
  |ptr hφ=>exact⟨_,key w a.eval _ _ J,.ptr hφ⟩
 .rename_i cells off M;rw[dy I];refine gL.reads λφ E h' w a _ hp _=>?_
  have h1:=hp x _ (by rw[U];simp[Op.operands]) M;generalize J:a.eval x=z at h1;cases h1 with
  |f h1=>
   cases h1 with
   |ptr _ _ b base us hO hb hcl hu hr=>
    refine ⟨_,key w a.eval _ _ J,.f ?_⟩;rw[pq];exact .ptr cells _ b base us hO hb hcl hu hr
 .cases I
theorem Jn {t el:TypeId} {x y:Operand} {sz b off n c:Nat} {k:IntKind} {i:Int} {ρ:Operand->Value} {w:World} (M:o.op= .indexAddr t x y) (hu:P.underlying t=af (.slice el)) (hs:fw P el=af sz) (J:ρ x= .slice (af ⟨b,off,ah⟩) n c) (I:ρ y= .int k i) (h0:0<=i) (h1:i<n):
 (execOp ρ o).run P w= .ok (.value (.pointer (af ⟨b,off+i.toNat*sz,ah⟩))) w:=by
 have h2:=gx hs w;unfold execOp;rw[M];simp[J,I,Instr.indexAt,asIntOf,run_underlying hu,h2,h0,h1,kX]
theorem ams {t el:TypeId} {x y:Operand} {sz:Nat} (J:o.op= .indexAddr t x y) (hu:P.underlying t=af (.slice el)) (hs:fw P el=af sz) (I:eQ (.iad sz x y) e h nx=af R):gL P o e.get h.get R.eff:=by
 simp only[eQ] at I;split at I
 .rename_i v k j Y hy;have hyv:∀ {φ:PM} {E:Nat->Prop} {h':HF} {w:World} {a:Act},V0 φ E h' w a e o->a.eval y= .int k j:=λhp=>fy (hp y _ (by rw[J];simp[Op.operands]) hy)
  split at I
  .split at I
   .rename_i id sz' n hc;simp only[c7,fO,av,be,cZ] at hc;obtain⟨⟨rfl,h0⟩,h1⟩:=hc;rw[dy I];refine gL.reads λφ E h' w a _ hp _=>?_
    have hr:=hp x _ (by rw[J];simp[Op.operands]) Y;generalize M:a.eval x=z at hr;cases hr with
    |row hφ hn U hsh=>
     refine ⟨_,Jn J hu hs M (hyv hp) h0 h1,?_⟩;rw[bN];exact .ptr hφ
   .cases I
  .split at I
   .rename_i id off n hc;simp only[c7,fO,av,be] at hc;obtain⟨h0,h1⟩:=hc;rw[dy I];refine gL.reads λφ E h' w a _ hp _=>?_
    have hr:=hp x _ (by rw[J];simp[Op.operands]) Y;generalize M:a.eval x=z at hr;cases hr with
    |sl hφ hn U=>exact⟨_,Jn J hu hs M (hyv hp) h0 h1,.ptr hφ⟩
   .cases I
  .split at I
   .rename_i cells n hc;simp only[c7,fO,av,be] at hc;obtain⟨h0,h1⟩:=hc;rw[dy I];refine gL.reads λφ E h' w a _ hp _=>?_
    have hr:=hp x _ (by rw[J];simp[Op.operands]) Y;generalize M:a.eval x=z at hr;cases hr with
    |f hr=>
     cases hr with
     |nil=>omega
     |sl _ _ c b base us hn U hO hb hcl Z hr'=>exact⟨_,Jn J hu hs M (hyv hp) h0 h1,.f (.ptr cells _ b base us hO hb hcl Z hr')⟩
   .cases I
  .cases I
 .cases I
theorem ajf {t el:TypeId} {x y:Operand} {n sz:Nat} (J:o.op= .indexAddr t x y) (hu:P.underlying t=af (.array n el)) (hs:fw P el=af sz) (I:eQ (.iada n sz x y) e h nx=af R):gL P o e.get h.get R.eff:=by
 have key:∀ (w:World) (ρ:Operand->Value) (b off:Nat) (k:IntKind) (i:Int),ρ x= .pointer (af ⟨b,off,ah⟩)->ρ y= .int k i->0<=i->i<n->(execOp ρ o).run P w= .ok (.value (.pointer (af ⟨b,off+i.toNat*sz,ah⟩))) w:=by
  intro w ρ b off k i h1 h2 h3 h4;have h5:=gx hs w;unfold execOp;rw[J];simp[h1,h2,Instr.indexAt,asIntOf,run_underlying hu,h5,h3,h4,kX,Instr.sureAddr]
 simp only[eQ] at I;split at I
 .rename_i v k j hx Z;split at I
  .rename_i hc;simp only[c7,fO,av,be] at hc;obtain⟨h0,h1⟩:=hc;split at I
   .rw[dy I];refine gL.reads λφ E h' w a _ hp _=>?_
    have hr:=hp x _ (by rw[J];simp[Op.operands]) hx;have hyv:=fy (hp y _ (by rw[J];simp[Op.operands]) Z);generalize M:a.eval x=z at hr;cases hr with
    |ptr hφ=>exact⟨_,key w a.eval _ _ k j M hyv h0 h1,.ptr hφ⟩
   .rw[dy I];refine gL.reads λφ E h' w a _ hp _=>?_
    have hr:=hp x _ (by rw[J];simp[Op.operands]) hx;have hyv:=fy (hp y _ (by rw[J];simp[Op.operands]) Z);generalize M:a.eval x=z at hr;cases hr with
    |f hr=>
     cases hr with
     |ptr _ _ b base us hO hb hcl U Y=>
      refine ⟨_,key w a.eval _ _ k j M hyv h0 h1,.f ?_⟩;rw[pq];exact .ptr _ _ b base us hO hb hcl U Y
   .cases I
  .cases I
 .cases I
theorem amv {x:Operand} {i:Nat} (J:o.op= .extract x i) (I:eQ (.ext x i) e h nx=af R):gL P o e.get h.get R.eff:=by
 simp only[eQ] at I;split at I
 .rename_i l U;split at I
  .rename_i v hv;rw[dy I];refine gL.reads λφ E h' w a _ hp _=>?_
   have hr:=hp x _ (by rw[J];simp[Op.operands]) U;generalize M:a.eval x=z at hr;cases hr with
   |@tup _ vs hl hrr=>
    have hlt:i<vs.length:=by
     rw[hl];exact (bl.1 hv).1
    refine ⟨vs[i],?_,hrr i v _ hv (aB hlt)⟩;unfold execOp;rw[J];simp[M,Instr.extract,hlt]
  .cases I
 .cases I
theorem amq {x y:Operand} {M:Array TypeId} (J:o.op= .call {callee:=.builtin .max,args:=#[x,y],argTypes:=M}) (I:eQ (.max x y) e h nx=af R):gL P o e.get h.get R.eff:=by
 simp only[eQ] at I;split at I
 .rename_i k a b k' Y U;rw[dy I];refine gL.reads λφ E h' w a _ hp _=>?_
  have h1:=fy (hp x _ (by rw[J];simp[Op.operands,eR]) Y);have h2:=fy (hp y _ (by rw[J];simp[Op.operands,eR]) U);refine ⟨_,?_,.f (.raw _)⟩;unfold execOp;rw[J];simp[resolve,invoke,builtin,Builtin.max_,Builtin.max2,h1,h2,fO]
 .cases I
theorem amp {x y:Operand} {M:Array TypeId} (J:o.op= .call {callee:=.builtin .min,args:=#[x,y],argTypes:=M}) (I:eQ (.min x y) e h nx=af R):gL P o e.get h.get R.eff:=by
 simp only[eQ] at I;split at I
 .rename_i k a b k' Y U;rw[dy I];refine gL.reads λφ E h' w a _ hp _=>?_
  have h1:=fy (hp x _ (by rw[J];simp[Op.operands,eR]) Y);have h2:=fy (hp y _ (by rw[J];simp[Op.operands,eR]) U);refine ⟨_,?_,.f (.raw _)⟩;unfold execOp;rw[J];simp[resolve,invoke,builtin,Builtin.min_,Builtin.min2,h1,h2,fO]
 .cases I
theorem aml {x:Operand} {t:TypeId} {k:IntKind} (J:o.op= .unOp .neg t x) (I:eQ (.bin .sub (.const (.int k 0)) x) e h nx=af R):gL P o e.get h.get R.eff:=by
 simp only[eQ,mC,Fa] at I;split at I
 .rename_i u v hu M;cases hu;split at I
  .rename_i r hb;rw[dy I];refine gL.reads λφ E h' w a _ hop _=>?_
   have h1:=fy (hop x _ (by rw[J];simp[Op.operands]) M);refine ⟨r,?_,.f (.raw _)⟩;unfold execOp;rw[J];cases v<;>simp only[uT] at hb<;>try (cases hb;done)
   split at hb
   .rename_i hk;have hk:=eq_of_beq hk;subst hk;simp only[ak] at hb;subst hb;simp[h1,Op.unary,Op.intArith,yK]
   .cases hb
  .cases I
 .cases I
theorem aj7 {x i:Operand} {t:TypeId} (J:o.op= .index t x i) (hu:P.underlying t=af .string) (I:eQ (.sidx x i) e h nx=af R):gL P o e.get h.get R.eff:=by
 simp only[eQ] at I;split at I
 .rename_i s k j M hi;split at I
  .rename_i h0;simp only[c7,be] at h0;split at I
   .rename_i b hb;rw[dy I];refine gL.reads λφ E h' w a _ hop _=>?_
    have h1:=fy (hop x _ (by rw[J];simp[Op.operands]) M);have h2:=fy (hop i _ (by rw[J];simp[Op.operands]) hi);refine ⟨_,?_,.f (.raw _)⟩;have hs:s[j.toNat]? =af b:=by
     rw[cK] at hb;obtain⟨hl,he⟩:=cF.1 hb;exact getElem?_pos s j.toNat hl▸gI af he
    unfold execOp;rw[J];simp[Instr.index,run_underlying hu,h1,h2,asIntOf,h0,hs]
   .cases I
  .cases I
 .cases I
theorem amo {f:FuncId} {caps:Array Operand} (Y:o.op= .makeFunc (.func f) #[] caps) (M:eQ (.mkf f caps.toList) e h nx=af R):gL P o e.get h.get R.eff:=by
 simp only[eQ] at M;split at M
 .rename_i l hl;rw[dy M];refine gL.reads λφ E h' w a _ hp _=>?_
  refine ⟨_,by unfold execOp;rw[Y];rfl,?_⟩;have key:∀ (xs:List Operand) (I:List AV),(∀ x∈xs,x∈o.op.operands)->W7 e xs=af I->I.length=xs.length/\∀ (j:Nat) x v,I[j]? =af x->(xs.map a.eval)[j]? =af v->cW φ (tot E φ h') w x v:=by
   intro xs;induction xs with
   |nil=>intro I _ h;simp only[W7,ak] at h;subst h;exact⟨rfl,λj x v J=>by simp at J⟩
   |cons x xs Z=>
    intro I hm h;simp only[W7] at h;split at h
    .rename_i y hy;split at h
     .rename_i ys' hys;simp only[ak] at h;subst h;obtain⟨h1,h2⟩:=Z ys' (λx J=>hm x (cH _ J)) hys;refine ⟨by simp[h1],λj z v U hv=>?_⟩;cases j with
      |zero=>simp at U hv;subst U;subst hv;exact hp x _ (hm x (dh ..)) hy
      |succ j=>exact h2 j z v (by simpa using U) (by simpa using hv)
     .cases h
    .cases h
  obtain⟨h1,h2⟩:=key caps.toList l (λx J=>by rw[Y];simpa[Op.operands] using J) hl;have h3:(caps.map a.eval)=(caps.toList.map a.eval).toArray:=by
   apply KX;simp
  have h4:(#[]:Array Operand).map a.eval=#[]:=by simp
  rw[h4,h3];exact .clo (by simp[h1]) h2
 .cases M
end pure
section
variable {P:Program} {o:Oper} {e:zR} {h:nV} {nx:Nat} {R:Cb}
theorem Wg {α:Type} {l cs:List α} {off sz:Nat} (h:off+sz<=l.length) (he:(l.drop off).take sz=cs):cs.length=sz/\∀ (j:Nat) x,cs[j]? =af x->l[off+j]? =af x:=by
 subst he;constructor
 .simp;omega
 .intro j x I;rw[cX] at I;split at I
  .rw[gW] at I;exact I
  .cases I
theorem xE (f:Nat->Value) (n j:Nat) (v:Value) (h:((c4 n).map f)[j]? =af v):v=f j/\j<n:=by
 rw[bc] at h;rcases bZ j n with hj|hj
 .rw[List.getElem?_range hj] at h;simp at h;exact⟨h.symm,hj⟩
 .rw[bR (by simpa using hj)] at h;cases h
def xV (φ:PM) (O:Nat->Prop) (w:World) (c:BC) (f:Nat->Option Value):Prop:=∀ j x,c.get j=af x->x.isCell=ai/\∃ v,f j=af v/\cW φ O w x v
theorem Wf {φ:PM} {O:Nat->Prop} {w:World} {c:BC} {off sz:Nat} {ag:Bool} {val:AV} (hs:c.sub? off sz ag=af val) {f:Nat->Option Value} (hc:xV φ O w c f):
 ∃ cs:List Value,cs.length=sz/\(∀ (j:Nat) v,cs[j]? =af v->f (off+j)=af v)/\(ag=aj->sz=1)/\cW φ O w val (if ag then .agg cs.toArray else cs.getD 0 undef):=by
 cases ag with
 |false=>
  simp only[BC.sub?] at hs;split at hs
  .obtain⟨h0,v,h1,h2⟩:=hc off val hs;exact⟨[v],rfl,λj u hu=>by cases j with|zero=>simp at hu;subst hu;exact h1|succ j=>simp at hu,λ_=>rfl,by simpa using h2⟩
  .cases hs
 |true=>
  have fin:∀ (g:Nat->Option AV),(∀ j,j<sz->∃ x,g j=af x/\c.get (off+j)=af x)->
   ∃ cs:List Value,cs.length=sz/\(∀ (j:Nat) v,cs[j]? =af v->f (off+j)=af v)/\∀ (j:Nat) x v,g j=af x->cs[j]? =af v->cW φ O w x v:=by
   intro g hg;refine ⟨(c4 sz).map λj=>(f (off+j)).getD undef,by simp,λj v hv=>?_,λj x v I hv=>?_⟩
   .obtain⟨rfl,hj⟩:=xE _ _ _ _ hv;obtain⟨x,_,h2⟩:=hg j hj;obtain⟨_,v,J,_⟩:=hc _ _ h2;rw[J];rfl
   .obtain⟨rfl,hj⟩:=xE _ _ _ _ hv;obtain⟨U,h1,h2⟩:=hg j hj;rw[I] at h1;cases h1;obtain⟨_,v,J,M⟩:=hc _ _ h2;rw[J];exact M
  simp only[BC.sub?] at hs;split at hs
  .rename_i l;split at hs
   .rename_i hle;simp only[ak] at hs;subst hs;obtain⟨hl,hg⟩:=Wg (a8 hle) (rfl:(l.drop off).take sz=_);obtain⟨cs,h1,h2,J⟩:=fin (λj=>(((l.drop off).take sz)[j]?).map AV.f) (λj hj=>by
     have hlt:j<((l.drop off).take sz).length:=by rw[hl];exact hj
     refine ⟨.f ((l.drop off).take sz)[j],by simp only[aB hlt,cg],?_⟩;simp only[BC.get,hg j _ (aB hlt),cg])
    refine ⟨cs,h1,h2,(λh=>by cases h),.f (.agg _ _ (by rw[h1,hl]) ?_ ?_)⟩
    .intro x I;obtain⟨j,hj⟩:=e9 I;exact (hc (off+j) (.f x) (by simp only[BC.get,hg j x hj,cg])).1
    .intro j x v I hv;have:=J j (.f x) v (by simp only[I,cg]) hv;cases this with
     |f h=>exact h
   .cases hs
  .rename_i l;split at hs
   .rename_i hle;simp only[ak] at hs;subst hs;obtain⟨hl,hg⟩:=Wg (a8 hle) (rfl:(l.drop off).take sz=_);obtain⟨cs,h1,h2,J⟩:=fin (λj=>(((l.drop off).take sz)[j]?)) (λj hj=>by
     have hlt:j<((l.drop off).take sz).length:=by rw[hl];exact hj
     exact⟨_,aB hlt,hg j _ (aB hlt)⟩)
    refine ⟨cs,h1,h2,(λh=>by cases h),.agg (by rw[h1,hl]) ?_ ?_⟩
    .intro x I;obtain⟨j,hj⟩:=e9 I;exact (hc (off+j) x (hg j x hj)).1
    .intro j x v I hv;exact J j x v I hv
   .cases hs
  .cases hs
theorem NJ {t:TypeId} {sz:Nat} {ag:Bool} (hs:fw P t=af sz) (I:DS P t=af ag) (w:World) (b off:Nat) (cs:List Value) (hl:cs.length=sz) (hc:∀ (j:Nat) v,cs[j]? =af v->w.cell? ⟨b,off+j,ah⟩=af v) (h1:ag=aj->sz=1):
 (loadVar t ⟨b,off,ah⟩).run P w= .ok (if ag then .agg cs.toArray else cs.getD 0 undef) w:=by
 unfold loadVar;simp only[eH,P_ I w,cM];cases ag with
 |true=>
  simp only[bG,eH,gx hs w,cM];rw[<- hl,run_loadCells_list (P:=P) w ⟨b,off,ah⟩ cs (λj v hv=>by rw[kX];exact hc j v hv)];rfl
 |false=>
  have h1:=h1 rfl;cases cs with
  |nil=>simp at hl;omega
  |cons v r=>
   have:=hc 0 v rfl;simp only[dl] at this;simp[load,ny,this]
theorem IB {φ:PM} {O:Nat->Prop} {w:World} {t:TypeId} {sz:Nat} {ag:Bool} (hs:fw P t=af sz) (I:DS P t=af ag) {c:BC} {b base off:Nat} {val:AV} (hv:c.sub? off sz ag=af val)
 (hc:xV φ O w c λj=>w.cell? ⟨b,base+j,ah⟩):∃ v,(loadVar t ⟨b,base+off,ah⟩).run P w= .ok v w/\cW φ O w val v:=by
 obtain⟨cs,h1,h2,M,J⟩:=Wf hv hc;exact⟨_,NJ hs I w b (base+off) cs h1 (λj v hj=>by rw[pq];exact h2 j v hj) M,J⟩
theorem So {φ:PM} {E:Nat->Prop} {h':HF} {w:World} (hrep:qY φ E h' w) {id k:Nat} {b:w_} (hb:h' id=af b) (hk:φ id=af k) (hc:b.c.isCells=ai):xV φ (tot E φ h') w b.c λj=>w.cell? ⟨k,0+j,ah⟩:=by
 obtain⟨k',h1,_,h2⟩:=hrep.at_ id b hb;rw[hk] at h1;cases h1;obtain⟨arr,M,h4,J⟩:=h2.cells hc;intro j x I;obtain⟨Z,v,Y,U⟩:=J j x I;exact⟨Z,v,by simp[Nt,M,Y],U⟩
theorem VB {φ:PM} {O:Nat->Prop} {w:World} {cells:List FV} {b base:Nat} {us:Nat->Value} (hcl:∀ x∈cells,x.isCell=ai) (hu:∀ j,j<cells.length->w.cell? ⟨b,base+j,ah⟩=af (us j)) (hr:∀ (j:Nat) x,cells[j]? =af x->nh O w x (us j)):
 xV φ O w (.fz cells) λj=>w.cell? ⟨b,base+j,ah⟩:=by
 intro j y I;simp only[BC.get] at I;cases hc:cells[j]? with
 |none=>rw[hc] at I;cases I
 |some q=>
  rw[hc] at I;simp at I;subst I;have hj:j<cells.length:=(bl.1 hc).1;exact⟨hcl q (ba hc),us j,hu j hj,.f (hr j q hc)⟩
theorem PQ {c:BC} {off sz:Nat} {ag:Bool} {v:AV} (h:c.sub? off sz ag=af v):c.isCells=ai:=by
 cases c with
 |fz=>rfl
 |mx=>rfl
 |mp es=>cases ag<;>simp only[BC.sub?,BC.get] at h<;>(try split at h)<;>cases h
 |it s p=>cases ag<;>simp only[BC.sub?,BC.get] at h<;>(try split at h)<;>cases h
theorem Sy {t:TypeId} {sz:Nat} {ag:Bool} (hs:fw P t=af sz) (hag:DS P t=af ag) {p:AV} (I:DR h sz ag p=af R):
 R.wr=[]/\R.nw=[]/\R.N=[]/\∀ (φ:PM) (E:Nat->Prop) (h':HF) (w:World) (pv:Value),(∀ i∈R.rd,h' i=h.get i)->qY φ E h' w->cW φ (tot E φ h') w p pv->
  ∃ J v,pv= .pointer (af J)/\(loadVar t J).run P w= .ok v w/\cW φ (tot E φ h') w R.val v:=by
 unfold DR at I;split at I
 .rename_i id off;split at I
  .rename_i b hb;split at I
   .rename_i v hv;simp only[ak] at I;subst I;refine ⟨rfl,rfl,rfl,λφ E h' w pv hrd hrep hr=>?_⟩;have hh:h' id=af b:=by rw[hrd id (by simp)];exact hb
    cases hr with
    |@ptr _ _ k hφ=>
     obtain⟨u,h1,h2⟩:=IB hs hag (w:=w) (b:=k) (base:=0) hv (So hrep hh hφ (PQ hv));rw[bN] at h1;exact⟨_,u,rfl,h1,h2⟩
   .cases I
  .cases I
 .rename_i cells off;split at I
  .rename_i v hv;rw[dy I];refine ⟨rfl,rfl,rfl,λφ E h' w pv hrd hrep hr=>?_⟩;cases hr with
   |f hr=>
    cases hr with
    |ptr _ _ b base us hO hb hcl hu hr=>
     obtain⟨u,h1,h2⟩:=IB (φ:=φ) (O:=tot E φ h') hs hag (w:=w) (b:=b) (base:=base) hv (VB hcl hu hr);exact⟨_,u,rfl,h1,h2⟩
  .cases I
 .cases I
theorem ajb {t:TypeId} {x:Operand} {sz:Nat} {ag:Bool} (J:o.op= .load t x) (hs:fw P t=af sz) (hag:DS P t=af ag) (I:eQ (.load sz ag x) e h nx=af R):gL P o e.get h.get R.eff:=by
 simp only[eQ] at I;split at I
 .rename_i p Y;obtain⟨h1,h2,U,M⟩:=Sy hs hag I;obtain⟨val,rd,wr,nw,N⟩:=R;simp only at h1 h2 U M;subst h1;subst h2;subst U;refine gL.reads λφ E h' w a hrd hp hrep=>?_
  obtain⟨ad,v,h5,h6,Z⟩:=M φ E h' w _ hrd hrep (hp x _ (by rw[J];simp[Op.operands]) Y);refine ⟨v,?_,Z⟩;unfold execOp;rw[J];simp[Instr.loadAt,h5,Instr.sureAddr,h6]
 .cases I
theorem Wu {φ:PM} {O:Nat->Prop} {w:World} {t:TypeId} {sz:Nat} {ag:Bool} (hs:fw P t=af sz) (hag:DS P t=af ag) {c:BC} {off:Nat} {val:AV} (hv:c.sub? off sz ag=af val) {vs:List Value}
 (hc:xV φ O w c λj=>vs[j]?):∃ v,(part t vs.toArray off).run P w= .ok v w/\cW φ O w val v:=by
 obtain⟨cs,h1,h2,J,I⟩:=Wf hv hc;refine ⟨_,?_,I⟩;unfold part;simp only[eH,P_ hag w,cM];cases ag with
 |true=>
  simp only[bG,eH,gx hs w,cM];have:vs.toArray.extract off (off+sz)=cs.toArray:=by
   apply KX;simp only[Array.toList_extract,List.extract_eq_take_drop];apply List.ext_getElem?;intro j;rw[show off+sz-off=sz from by omega,cX,gW];rcases bZ j sz with hj|hj
   .rw[aF hj];have:=h2 j _ (aB (by omega:j<cs.length));rw[this,aB (by omega:j<cs.length)]
   .rw[ay (by omega),bR (by omega)]
  rw[this];rfl
 |false=>
  have M:=J rfl;cases cs with
  |nil=>simp at h1;omega
  |cons v r=>
   have:=h2 0 v rfl;simp only[dl] at this;simp[this]
theorem Sp {φ:PM} {O:Nat->Prop} {w:World} {l:List AV} {vs:List Value} (hl:vs.length=l.length) (hcl:∀ x∈l,x.isCell=ai) (hr:∀ (j:Nat) x v,l[j]? =af x->vs[j]? =af v->cW φ O w x v):xV φ O w (.mx l) λj=>vs[j]? :=by
 intro j x I;simp only[BC.get] at I;have hj:j<vs.length:=by rw[hl];exact (bl.1 I).1
 exact⟨hcl x (ba I),vs[j],aB hj,hr j x _ I (aB hj)⟩
theorem Pa {φ:PM} {O:Nat->Prop} {w:World} {l:List FV} {vs:List Value} (hl:vs.length=l.length) (hcl:∀ x∈l,x.isCell=ai) (hr:∀ (j:Nat) x v,l[j]? =af x->vs[j]? =af v->nh O w x v):xV φ O w (.fz l) λj=>vs[j]? :=by
 intro j x I;simp only[BC.get] at I;cases hc:l[j]? with
 |none=>rw[hc] at I;cases I
 |some q=>
  rw[hc] at I;simp at I;subst I;have hj:j<vs.length:=by rw[hl];exact (bl.1 hc).1
  exact⟨hcl q (ba hc),vs[j],aB hj,.f (hr j q _ hc (aB hj))⟩
theorem Kw {φ:PM} {O:Nat->Prop} {w:World} {t:TypeId} {sz:Nat} {ag:Bool} (hs:fw P t=af sz) (hag:DS P t=af ag) {x:AV} {z:Value} (hr:cW φ O w x z) {off:Nat} {val:AV}
 (hv:(∃ l,x= .agg l/\(BC.mx l).sub? off sz ag=af val)\/(∃ l,x= .f (.agg l)/\(BC.fz l).sub? off sz ag=af val)):∃ cs v,z= .agg cs/\(part t cs off).run P w= .ok v w/\cW φ O w val v:=by
 rcases hv with ⟨l,rfl,hv⟩|⟨l,rfl,hv⟩
 .cases hr with
  |agg hl hcl hr=>
   obtain⟨v,h1,h2⟩:=Wu hs hag hv (Sp hl hcl hr);exact⟨_,v,rfl,h1,h2⟩
 .cases hr with
  |f hr=>
   cases hr with
   |agg _ vs hl hcl hr=>
    obtain⟨v,h1,h2⟩:=Wu (φ:=φ) hs hag hv (Pa hl hcl hr);exact⟨_,v,rfl,h1,h2⟩
theorem amt {s:TypeId} {fs:Array Field} {k:Nat} {f:Field} {sz:Nat} {ag:Bool} {x:Operand} (M:o.op= .field s x k) (hu:P.underlying s=af (.struct fs)) (hf:fs[k]? =af f) (hs:fw P f.type=af sz) (hag:DS P f.type=af ag) (I:eQ (.fld f.offset sz ag x) e h nx=af R):gL P o e.get h.get R.eff:=by
 have fin:∀ (y:AV) (val:AV),mC e x=af y->((∃ l,y= .agg l/\(BC.mx l).sub? f.offset sz ag=af val)\/(∃ l,y= .f (.agg l)/\(BC.fz l).sub? f.offset sz ag=af val))->rv val=af R->gL P o e.get h.get R.eff:=by
  intro y val J hv U;rw[dy U];refine gL.reads λφ E h' w a _ hp _=>?_
  obtain⟨cs,v,h1,h2,Y⟩:=Kw hs hag (hp x _ (by rw[M];simp[Op.operands]) J) hv;refine ⟨v,?_,Y⟩;unfold execOp;rw[M];simp[Instr.field,run_underlying hu,hf,h1,asAgg,h2]
 simp only[eQ] at I;split at I
 .rename_i l J;split at I
  .rename_i v hv;exact fin _ v J (.inl ⟨l,rfl,hv⟩) I
  .cases I
 .rename_i l J;split at I
  .rename_i v hv;exact fin _ v J (.inr ⟨l,rfl,hv⟩) I
  .cases I
 .cases I
theorem amr {t el:TypeId} {n sz:Nat} {ag:Bool} {x y:Operand} (J:o.op= .index t x y) (hu:P.underlying t=af (.array n el)) (hs:fw P el=af sz) (hag:DS P el=af ag) (I:eQ (.idx n sz ag x y) e h nx=af R):gL P o e.get h.get R.eff:=by
 simp only[eQ] at I;split at I
 .rename_i v0 k j U M;split at I
  .rename_i hc;simp only[c7,fO,av,be] at hc;obtain⟨h0,h1⟩:=hc;have fin:∀ (val:AV),((∃ l,v0= .agg l/\(BC.mx l).sub? (j.toNat*sz) sz ag=af val)\/(∃ l,v0= .f (.agg l)/\(BC.fz l).sub? (j.toNat*sz) sz ag=af val))->rv val=af R->gL P o e.get h.get R.eff:=by
    intro val hv Y;rw[dy Y];refine gL.reads λφ E h' w a _ hp _=>?_
    have hyv:=fy (hp y _ (by rw[J];simp[Op.operands]) M);obtain⟨cs,v,h3,h4,h5⟩:=Kw hs hag (hp x _ (by rw[J];simp[Op.operands]) U) hv;refine ⟨v,?_,h5⟩;have Z:=gx hs w;unfold execOp;rw[J];simp[Instr.index,run_underlying hu,hyv,asIntOf,h3,h0,h1,Z,h4]
   split at I
   .rename_i l;split at I
    .rename_i v hv;exact fin v (.inl ⟨l,rfl,hv⟩) I
    .cases I
   .rename_i l;split at I
    .rename_i v hv;exact fin v (.inr ⟨l,rfl,hv⟩) I
    .cases I
   .cases I
  .cases I
 .cases I
theorem aje {t el:TypeId} {x:Operand} (M:o.op= .call {callee:=.builtin .len,args:=#[x],argTypes:=#[t]}) (hu:P.underlying t=af (.slice el)) (I:eQ (.len x) e h nx=af R):gL P o e.get h.get R.eff:=by
 simp only[eQ] at I;split at I
 .rename_i y U;split at I
  .rename_i n hn;rw[dy I];refine gL.reads λφ E h' w a _ hp _=>?_
   have hr:=hp x _ (by rw[M];simp[Op.operands,eR]) U;refine ⟨_,?_,.f (.raw _)⟩;have J:∃ A c,a.eval x= .slice A n c:=by
    generalize a.eval x=z at hr;unfold AV.slen at hn;split at hn<;>try (simp only[ak] at hn;subst hn)
    .cases hr with
     |f hr=>cases hr with
      |nil=>exact⟨_,_,rfl⟩
      |sl=>exact⟨_,_,rfl⟩
    .cases fy hr;exact⟨_,_,rfl⟩
    .cases hr;exact⟨_,_,rfl⟩
    .cases hr;exact⟨_,_,rfl⟩
    .cases hr;exact⟨_,_,rfl⟩
    .cases hn
   obtain⟨A,c,J⟩:=J;unfold execOp;rw[M];simp[resolve,invoke,builtin,Builtin.len_,run_underlying hu,J,goInt]
  .cases I
 .cases I
theorem ajd {t:TypeId} {x:Operand} (J:o.op= .call {callee:=.builtin .len,args:=#[x],argTypes:=#[t]}) (hu:P.underlying t=af .string) (I:eQ (.lens x) e h nx=af R):gL P o e.get h.get R.eff:=by
 simp only[eQ] at I;split at I
 .rename_i s M;rw[dy I];refine gL.reads λφ E h' w a _ hp _=>?_
  have hr:=fy (hp x _ (by rw[J];simp[Op.operands,eR]) M);refine ⟨_,?_,.f (.raw _)⟩;unfold execOp;rw[J];simp[resolve,invoke,builtin,Builtin.len_,run_underlying hu,hr,goInt]
 .cases I
theorem ajc {t k v:TypeId} {x:Operand} (J:o.op= .call {callee:=.builtin .len,args:=#[x],argTypes:=#[t]}) (hu:P.underlying t=af (.map k v)) (I:eQ (.lenm x) e h nx=af R):gL P o e.get h.get R.eff:=by
 simp only[eQ] at I;split at I
 .rename_i id U;split at I
  .rename_i ty es hid;simp only[ak] at I;subst I;refine gL.reads λφ E h' w a hrd hp hrep=>?_
   have hr:=hp x _ (by rw[J];simp[Op.operands,eR]) U;have hh:h' id=af ⟨ty,.mp es⟩:=by rw[hrd id (by simp)];exact hid
   generalize M:a.eval x=z at hr;cases hr with
   |@mp _ b hφ=>
    obtain⟨b',h1,_,ob,h2,h3⟩:=hrep.at_ id _ hh;rw[hφ] at h1;cases h1;obtain⟨ents,clock,rfl,Z,_⟩:=h3;have Y:ents.size=es.length:=by have:=gI al Z;simpa using this
    refine ⟨_,?_,.f (.raw _)⟩;unfold execOp;rw[J];simp[resolve,invoke,builtin,Builtin.len_,run_underlying hu,M,goInt,getObj,ny,h2,Y]
  .cases I
 .cases I
end
structure Fk (w w':World) (k:Nat) (ob:Obj):Prop where
 os:w'.os=w.os
 tape:w'.tape=w.tape
 output:w'.output=w.output
 size:w'.heap.size=w.heap.size
 at_:w'.heap[k]? =af ob
 other:∀ j,j≠k->w'.heap[j]? =w.heap[j]?
 shp:∀ j,w'.shape? j=w.shape? j
structure SJ (w w':World) (ob:Obj):Prop where
 os:w'.os=w.os
 tape:w'.tape=w.tape
 output:w'.output=w.output
 size:w'.heap.size=w.heap.size+1
 at_:w'.heap[w.heap.size]? =af ob
 other:∀ j,j<w.heap.size->w'.heap[j]? =w.heap[j]?
theorem qY.wset {φ:PM} {E:Nat->Prop} {h:HF} {w w':World} (r:qY φ E h w) {id k:Nat} {b b':w_} {ob:Obj} (hb:h id=af b) (hk:φ id=af k) (I:Fk w w' k ob) (hob:jt φ (tot E φ h) w b' ob) (nw:HF) (hnw:nw id=af b'):
 iY φ φ h (eS h [id] nw) w w'/\qY φ E (eS h [id] nw) w':=by
 have hdom:∀ i,(∃ x,eS h [id] nw i=af x)↔∃ x,h i=af x:=λi=>by
  unfold eS;by_cases hi:i=id
  .subst hi;simp[hnw,hb]
  .simp[hi]
 have hown:∀ j,own φ (eS h [id] nw) j↔own φ h j:=λj=>by
  constructor
  .rintro⟨i,x,h1,h2⟩;obtain⟨y,M⟩:=(hdom i).1 ⟨x,h1⟩;exact⟨i,y,M,h2⟩
  .rintro⟨i,x,h1,h2⟩;obtain⟨y,M⟩:=(hdom i).2 ⟨x,h1⟩;exact⟨i,y,M,h2⟩
 have m:iY φ φ h (eS h [id] nw) w w':=by
  refine ⟨λ_ _ h=>h,⟨I.os,I.tape,I.output,by rw[I.size];exact bW _,λj hj ho=>?_,λj _=>I.shp j⟩,λj _ h=>(hown j).1 h⟩;exact I.other j (λe=>ho (e▸⟨id,b,hb,hk⟩))
 refine ⟨m,⟨λi j x y kk hi hj h1 h2=>?_,λi x hi=>?_,λk hk=>dz (r.el k hk) m.ext.size,λg cells hg=>m.keepF (r.gl g cells hg)⟩⟩
 .obtain⟨x',U⟩:=(hdom i).1 ⟨x,hi⟩;obtain⟨Z,J⟩:=(hdom j).1 ⟨y,hj⟩;exact r.inj i j x' Z kk U J h1 h2
 .by_cases hid:i=id
  .subst hid;have:x=b':=by unfold eS at hi;simp[hnw] at hi;exact hi.symm
   subst this;obtain⟨k',h1,h2,_⟩:=r.at_ i b hb;rw[hk] at h1;cases h1;exact⟨k,hk,h2,ob,I.at_,hob.mono λ_ _ h=>m.keep h⟩
  .have Y:h i=af x:=by unfold eS at hi;simpa[hid] using hi
   obtain⟨k',h1,h2,ob',h3,h4⟩:=r.at_ i x Y;have hne:k'≠k:=λe=>hid (r.inj i id x b k Y hb (e▸h1) hk)
   exact⟨k',h1,h2,ob',by rw[I.other k' hne];exact h3,h4.mono λ_ _ h=>m.keep h⟩
theorem qY.wnew {φ:PM} {E:Nat->Prop} {h:HF} {w w':World} (r:qY φ E h w) {id:Nat} (hid:φ id=ah) {b:w_} {ob:Obj} (M:SJ w w' ob) (hob:jt φ (tot E φ h) w b ob) (del:List Nat) (nw:HF) (hnw:nw id=af b) (hdel:∀ i∈del,i≠id->nw i=ah):
 ∃ φ',φ' id=af w.heap.size/\iY φ φ' h (eS h (id::del) nw) w w'/\(∀ i k,φ' i=af k->φ i=af k\/i∈[id])/\qY φ' E (eS h (id::del) nw) w':=by
 have hsub:∀ i x,eS h (id::del) nw i=af x->i≠id->h i=af x/\i∉del:=λi x U hi=>by
  unfold eS at U;by_cases hd:i∈del
  .rw[aF (by simp[hd]),hdel i hd hi] at U;cases U
  .rw[ay (by simp[hi,hd])] at U;exact⟨U,hd⟩
 have hlt:∀ i x k,h i=af x->φ i=af k->k<w.heap.size:=λi x k hi hk=>by
  obtain⟨k',h1,_,ob',Y,_⟩:=r.at_ i x hi;rw[hk] at h1;cases h1;exact (cF.1 Y).1
 have hφ:∀ i,i≠id->(if i=id then af w.heap.size else φ i)=φ i:=λi hi=>by simp[hi]
 have m:iY φ (λi=>if i=id then af w.heap.size else φ i) h (eS h (id::del) nw) w w':=by
  refine ⟨λi k hk=>?_,⟨M.os,M.tape,M.output,by rw[M.size];omega,λj hj _=>M.other j hj,λj hj=>?_⟩,?_⟩
  .have:i≠id:=λe=>by rw[e,hid] at hk;cases hk
   rw[hφ i this];exact hk
  .unfold rL;rw[M.other j hj]
  .rintro j hj ⟨i,x,h1,h2⟩;by_cases hi:i=id
   .simp[hi] at h2;omega
   .have Y:φ i=af j:=by simpa[hi] using h2
    exact⟨i,x,(hsub i x h1 hi).1,Y⟩
 refine ⟨_,by simp,m,λi k hk=>?_,⟨λi j x y k hi hj h1 h2=>?_,λi x hi=>?_,λk hk=>dz (r.el k hk) m.ext.size,λg cells hg=>m.keepF (r.gl g cells hg)⟩⟩
 .by_cases hi:i=id
  .right;simp[hi]
  .left;rw[hφ i hi] at hk;exact hk
 .by_cases I:i=id
  .by_cases J:j=id
   .rw[I,J]
   .exfalso;rw[hφ j J] at h2;have:=hlt j y k (hsub j y hj J).1 h2;simp[I] at h1;omega
  .rw[hφ i I] at h1;have hix:=(hsub i x hi I).1;by_cases J:j=id
   .exfalso;have:=hlt i x k hix h1;simp[J] at h2;omega
   .rw[hφ j J] at h2;exact r.inj i j x y k hix (hsub j y hj J).1 h1 h2
 .by_cases I:i=id
  .subst I;have:x=b:=by unfold eS at hi;simp[hnw] at hi;exact hi.symm
   subst this;refine ⟨w.heap.size,by simp,λhe=>?_,ob,M.at_,hob.mono λ_ _ h=>m.keep h⟩;have:=r.el _ he;omega
  .obtain⟨k,h1,h2,ob',Y,Z⟩:=r.at_ i x (hsub i x hi I).1;refine ⟨k,by rw[hφ i I];exact h1,h2,ob',?_,Z.mono λ_ _ h=>m.keep h⟩;rw[M.other k (hlt i x k (hsub i x hi I).1 h1)];exact Y
theorem qZ (w:World) (ob:Obj):SJ w {w with heap:=w.heap.push ob} ob:=by
 refine ⟨rfl,rfl,rfl,by simp,by simp,λj hj=>?_⟩;rw[Array.getElem?_push,ay (by omega)]
theorem SJ.drawn {w w':World} {ob:Obj} (d:Nat) (h:SJ {w with drawn:=d} w' ob):SJ w w' ob:=⟨h.os,h.tape,h.output,h.size,h.at_,h.other⟩
theorem gL.makes {P:Program} {o:Oper} {e:zR} {h:HF} {rd:List Nat} {nx:Nat} {b:w_} {val:AV}
 (hv:∀ (φ:PM) (E:Nat->Prop) (h':HF) (w:World) (a:Act),(∀ i∈rd,h' i=h i)->V0 φ E h' w a e o->qY φ E h' w->
   ∃ v w' ob,(execOp a.eval o).run P w= .ok (.value v) w'/\SJ w w' ob/\jt φ (tot E φ h') w b ob/\∀ φ' O,φ' nx=af w.heap.size->cW φ' O w' val v):
 gL P o e.get h ⟨val,rd,[nx],je [(nx,b)],[nx]⟩:=by
 intro φ E h' w a h1 h2 Z I Y;obtain⟨v,w',ob,hrun,U,hob,hval⟩:=hv φ E h' w a h1 (λx y M J=>tI I Z M J) I;obtain⟨φ',g1,g2,g3,g4⟩:=I.wnew (id:=nx) (Y nx (by simp)) U hob [] (je [(nx,b)]) (by simp[je]) (by simp);unfold Ho;rw[hrun];exact⟨v,φ',rfl,g2,g3,g4,hval φ' _ g1⟩
theorem gL.writes {P:Program} {o:Oper} {e:zR} {h:HF} {rd:List Nat} {id:Nat} {b b':w_} {val:AV} (hb:h id=af b)
 (hv:∀ (φ:PM) (E:Nat->Prop) (h':HF) (w:World) (a:Act),(∀ i∈rd,h' i=h i)->h' id=af b->V0 φ E h' w a e o->qY φ E h' w->
   ∃ r w' k ob,(execOp a.eval o).run P w= .ok r w'/\φ id=af k/\Fk w w' k ob/\jt φ (tot E φ h') w b' ob/\(∃ v,(r= .value v\/r= .skip/\v=undef)/\cW φ (tot E φ (eS h' [id] (je [(id,b')]))) w' val v)):
 gL P o e.get h ⟨val,rd,[id],je [(id,b')],[]⟩:=by
 intro φ E h' w a h1 h2 h3 I h5;obtain⟨r,w',k,ob,hrun,hk,Z,hob,v,hr,hval⟩:=hv φ E h' w a h1 (by rw[h2 id (by simp)];exact hb) (λx y Y U=>tI I h3 Y U) I;obtain⟨M,J⟩:=I.wset (id:=id) (by rw[h2 id (by simp)];exact hb) hk Z hob (je [(id,b')]) (by simp[je]);unfold Ho;rw[hrun];rcases hr with rfl|⟨rfl,rfl⟩
 .exact⟨v,φ,rfl,M,λ_ _ h=>.inl h,J,hval⟩
 .exact⟨undef,φ,rfl,M,λ_ _ h=>.inl h,J,hval⟩
theorem lI {l:List AV} (h:gG l=ai):∀ x∈l,x.isCell=ai:=by
 induction l with
 |nil=>intro x I;cases I
 |cons y l J=>
  simp only[gG,av] at h;intro x I;rcases bm.1 I with rfl|I
  .exact h.1
  .exact J h.2 x I
theorem pM:∀ {l:List AV} {fs:List FV},xS l=af fs->l=fs.map .f
 |[],fs,h=>by simp only[xS,ak] at h;subst h;rfl
 |.f x::r,fs,h=>by
  simp only[xS] at h;split at h
  .rename_i l hl;simp only[ak] at h;subst h;rw[pM hl];rfl
  .cases h
 |.ptr _ _::_,_,h=>by simp[xS] at h
 |.sl _ _ _::_,_,h=>by simp[xS] at h
 |.row _ _ _::_,_,h=>by simp[xS] at h
 |.mp _::_,_,h=>by simp[xS] at h
 |.emp::_,_,h=>by simp[xS] at h
 |.agg _::_,_,h=>by simp[xS] at h
 |.tup _::_,_,h=>by simp[xS] at h
 |.clo _ _::_,_,h=>by simp[xS] at h
def Cs (φ:PM) (O:Nat->Prop) (w:World) (l:List AV) (vs:List Value):Prop:=vs.length=l.length/\(∀ x∈l,x.isCell=ai)/\∀ (j:Nat) x v,l[j]? =af x->vs[j]? =af v->cW φ O w x v
theorem BC.get_toMx {c:BC} (hc:c.isCells=ai) (j:Nat):c.get j=c.toMx[j]? :=by
 cases c with
 |fz l=>simp[BC.get,BC.toMx]
 |mx l=>rfl
 |mp _=>cases hc
 |it _ _=>cases hc
theorem BC.len_toMx {c:BC} (hc:c.isCells=ai):c.len=c.toMx.length:=by
 cases c with
 |fz l=>simp[BC.len,BC.toMx]
 |mx l=>rfl
 |mp _=>cases hc
 |it _ _=>cases hc
theorem nK (l:List AV):(pl l).toMx=l/\(pl l).isCells=ai:=by
 unfold pl;cases h:xS l with
 |none=>exact⟨rfl,rfl⟩
 |some fs=>exact⟨(pM h).symm,rfl⟩
theorem qa {φ:PM} {O:Nat->Prop} {w:World} {ty:TypeId} {c:BC} (hc:c.isCells=ai) {arr:Array Value} (hl:c.toMx.length<=arr.size)
 (h:∀ (j:Nat) x,c.toMx[j]? =af x->x.isCell=ai/\∃ v,arr[j]? =af v/\cW φ O w x v):jt φ O w ⟨ty,c⟩ (.cells arr ty (0,0)):=by
 have h2:vD φ O w c arr:=⟨by rw[BC.len_toMx hc];exact hl,λj x I=>h j x (by rw[<- BC.get_toMx hc];exact I)⟩
 unfold jt;cases hb:c with
 |fz l=>rw[hb] at h2;exact⟨arr,rfl,h2⟩
 |mx l=>rw[hb] at h2;exact⟨arr,rfl,h2⟩
 |mp _=>rw[hb] at hc;cases hc
 |it _ _=>rw[hb] at hc;cases hc
theorem In {φ:PM} {O:Nat->Prop} {w:World} {ty:TypeId} {l:List AV} {vs:List Value} (h:Cs φ O w l vs):jt φ O w ⟨ty,pl l⟩ (.cells vs.toArray ty (0,0)):=by
 obtain⟨h1,h2⟩:=nK l;refine qa h2 (by rw[h1];simp[h.1]) λj x I=>?_
 rw[h1] at I;have hj:j<vs.length:=by rw[h.1];exact (bl.1 I).1
 exact⟨h.2.1 x (ba I),vs[j],by simp[hj],h.2.2 j x _ I (aB hj)⟩
theorem UV {φ:PM} {O:Nat->Prop} {w:World} {x:AV} {v:Value} (h:cW φ O w x v) (hc:gG x.cs=ai):Cs φ O w x.cs v.cells.toList:=by
 have one:x.cs=[x]->v.cells=#[v]->Cs φ O w x.cs v.cells.toList:=λh1 h2=>by
  rw[h1] at hc ⊢;rw[h2];exact⟨rfl,lI hc,λj y u I hu=>by cases j with|zero=>simp at I hu;subst I;subst hu;exact h|succ j=>simp at I⟩
 cases h with
 |ptr h=>exact one rfl rfl
 |sl h _ _=>exact one rfl rfl
 |row h _ _ _=>exact one rfl rfl
 |emp=>exact one rfl rfl
 |anyb=>exact one rfl rfl
 |mp h=>exact one rfl rfl
 |clo _ _=>exact one rfl rfl
 |tup _ _=>exact cV hc (by simp[AV.cs,gG,AV.isCell])
 |@agg l vs hl hcl hr=>exact⟨hl,hcl,hr⟩
 |@f y u hf=>
  cases hf with
  |raw v=>
   have hv:v.oneCell'=ai:=by
    have:(AV.f (.raw v)).cs=[.f (.raw v)]:=rfl;rw[this] at hc;simpa[gG,AV.isCell,FV.isCell] using hc
   refine one rfl ?_;cases v<;>first|rfl|simp[Value.oneCell'] at hv
  |nil=>exact one rfl rfl
  |sl=>exact one rfl rfl
  |ptr=>exact one rfl rfl
  |agg l vs hl hcl hr=>
   refine ⟨by simp[AV.cs,Value.cells,hl],lI hc,λj y u I hu=>?_⟩;simp only[AV.cs,bc] at I;cases hq:l[j]? with
   |none=>rw[hq] at I;cases I
   |some q=>rw[hq] at I;simp at I;subst I;exact .f (hr j q u hq (by simpa[Value.cells] using hu))
theorem nh.one {O:Nat->Prop} {w:World} {x:FV} {v:Value} (h:nh O w x v) (hc:x.isCell=ai):v.oneCell'=ai:=by
 cases h with
 |raw v=>exact hc
 |nil=>rfl
 |sl=>rfl
 |ptr=>rfl
 |agg=>cases hc
theorem cW.one {φ:PM} {O:Nat->Prop} {w:World} {x:AV} {v:Value} (h:cW φ O w x v) (hc:x.isCell=ai):v.oneCell'=ai:=by
 cases h with
 |f h=>exact h.one hc
 |ptr=>rfl
 |sl=>rfl
 |row=>rfl
 |emp=>rfl
 |anyb=>rfl
 |mp=>rfl
 |agg=>cases hc
 |tup=>cases hc
 |clo=>rfl
theorem Cs.one {φ:PM} {O:Nat->Prop} {w:World} {l:List AV} {vs:List Value} (h:Cs φ O w l vs):∀ v∈vs,v.oneCell'=ai:=by
 intro v hv;obtain⟨j,hj⟩:=e9 hv;have hlt:j<l.length:=by rw[<- h.1];exact (bl.1 hj).1
 exact (h.2.2 j _ v (aB hlt) hj).one (h.2.1 _ (u_ hlt))
theorem Cs.append {φ:PM} {O:Nat->Prop} {w:World} {l J:List AV} {vs vs':List Value} (h:Cs φ O w l vs) (h':Cs φ O w J vs'):Cs φ O w (l++J) (vs++vs'):=by
 refine ⟨by simp[h.1,h'.1],λx I=>(bP.1 I).elim (h.2.1 x) (h'.2.1 x),λj x v I hv=>?_⟩;rcases bZ j l.length with hj|hj
 .rw[bO hj] at I;rw[bO (by rw[h.1];exact hj)] at hv;exact h.2.2 j x v I hv
 .rw[b7 hj] at I;rw[b7 (by rw[h.1];exact hj),h.1] at hv;exact h'.2.2 _ x v I hv
theorem Cs.take {φ:PM} {O:Nat->Prop} {w:World} {l:List AV} {vs:List Value} (h:Cs φ O w l vs) (n:Nat):Cs φ O w (l.take n) (vs.take n):=by
 refine ⟨by simp[h.1],λx I=>h.2.1 x (gV I),λj x v I hv=>?_⟩;rw[cX] at I hv;split at I
 .rename_i hj;rw[aF hj] at hv;exact h.2.2 j x v I hv
 .cases I
theorem Cs.drop {φ:PM} {O:Nat->Prop} {w:World} {l:List AV} {vs:List Value} (h:Cs φ O w l vs) (n:Nat):Cs φ O w (l.drop n) (vs.drop n):=by
 refine ⟨by simp[h.1],λx I=>h.2.1 x (List.mem_of_mem_drop I),λj x v I hv=>?_⟩;rw[gW] at I hv;exact h.2.2 _ x v I hv
theorem Cs.splice {φ:PM} {O:Nat->Prop} {w:World} {l I:List AV} {vs vs':List Value} (h:Cs φ O w l vs) (h':Cs φ O w I vs') (off:Nat):Cs φ O w (splice l off I) (splice vs off vs'):=by
 unfold AI.splice;rw[h'.1];exact ((h.take off).append h').append (h.drop _)
theorem Cs.raws {φ:PM} {O:Nat->Prop} {w:World} (z:List Value) (J:mA z=ai):Cs φ O w (z.map raw) z:=by
 refine ⟨by simp,λx I=>?_,λj x v I hv=>?_⟩
 .obtain⟨v,hv,rfl⟩:=c_.1 I;exact gp.1 J v hv
 .rw[bc] at I;rw[hv] at I;simp at I;subst I;exact .f (.raw v)
theorem Cs.mono {φ φ':PM} {O O':Nat->Prop} {w w':World} {l:List AV} {vs:List Value} (h:Cs φ O w l vs) (hk:∀ x v,cW φ O w x v->cW φ' O' w' x v):Cs φ' O' w' l vs:=⟨h.1,h.2.1,λj x v I hv=>hk _ _ (h.2.2 j x v I hv)⟩
theorem Fk.setRow {w:World} {k:Nat} {arr arr':Array Value} {ty:TypeId} (I:w.heap[k]? =af (.cells arr ty (0,0))) (hs:arr'.size=arr.size):Fk w (w.setRow k arr') k (.cells arr' ty (0,0)):=by
 refine ⟨rfl,rfl,rfl,by simp,setRow_heap w k arr arr' ty (0,0) I,λj hj=>setRow_other w k j arr' hj,λj=>?_⟩;unfold rL;by_cases hj:j=k
 .subst hj;rw[setRow_heap w j arr arr' ty (0,0) I,I];simp[hs]
 .rw[setRow_other w k j arr' hj]
section
variable {P:Program} {o:Oper} {e:zR} {h:nV} {nx:Nat} {R:Cb}
theorem tN {t:TypeId} {z:List Value} (I:sT P t=af z) (w:World):∃ v,(zeroValue t).run P w= .ok v w/\v.cells.toList=z/\∃ i,P.info? t=af i/\i.zero=af v:=by
 unfold sT at I;cases hi:P.info? t with
 |none=>rw[hi] at I;cases I
 |some i=>
  rw[hi] at I;simp only[aI] at I;cases hv:i.zero with
  |none=>rw[hv] at I;cases I
  |some v=>
   rw[hv] at I;simp only[cg,ak] at I;exact⟨v,by simp[zeroValue,typeInfo,hi,hv],I,i,rfl,hv⟩
theorem afs {t:TypeId} {z:List Value} (Y:o.op= .alloc t) (U:sT P t=af z) (hc:mA z=ai) (M:eQ (.alloc t z) e h nx=af R):gL P o e.get h.get R.eff:=by
 simp only[eQ,ak] at M;subst M;refine gL.makes λφ E h' w a _ _ _=>?_
 obtain⟨v,h1,h2,_⟩:=tN U w;refine ⟨.pointer (af ⟨w.heap.size,0,ah⟩),{w with heap:=w.heap.push (.cells v.cells t)},.cells v.cells t (0,0),?_,qZ w _,?_,λφ' O hφ=>.ptr hφ⟩
 .unfold execOp;rw[Y];simp[Instr.alloc,h1,newVar,newRow,newObj,ny]
 .have I:BC.toMx (.fz (z.map .raw))=z.map raw:=by simp[BC.toMx,raw]
  refine qa rfl (by rw[I,<-h2];simp) λj x J=>?_
  rw[I] at J;have cs:=Cs.raws (φ:=φ) (O:=tot E φ h') (w:=w) z hc;have hj:j<z.length:=by have:=(bl.1 J).1;simpa using this
  refine ⟨cs.2.1 x (ba J),z[j],?_,cs.2.2 j x _ J (aB hj)⟩;have:v.cells.toList[j]? =af z[j]:=by rw[h2];exact aB hj
  simpa using this
theorem amy {t:TypeId} {x:Operand} (J:o.op= .box t x) (I:eQ (.box t x) e h nx=af R):gL P o e.get h.get R.eff:=by
 simp only[eQ] at I;split at I
 .rename_i v M;split at I
  .rename_i hc;simp only[ak] at I;subst I;refine gL.makes λφ E h' w a _ hp _=>?_
   have hr:=UV (hp x _ (by rw[J];simp[Op.operands]) M) hc;refine ⟨.pointer (af ⟨w.heap.size,0,ah⟩),{w with heap:=w.heap.push (.cells (a.eval x).cells t)},.cells (a.eval x).cells t (0,0),?_,qZ w _,?_,λφ' O hφ=>.ptr hφ⟩
   .unfold execOp;rw[J];simp[Instr.box,newVar,newRow,newObj,ny]
   .have:=In (ty:=t) hr;simpa using this
  .cases I
 .cases I
theorem mE {α:Type} {l vs:List α} {off:Nat} (hle:off+vs.length<=l.length) (j:Nat):(splice l off vs)[j]? =if j<off then l[j]? else if j<off+vs.length then vs[j-off]? else l[j]? :=by
 unfold splice;rw[iv];have h1:(l.take off).length=off:=by simp;omega
 by_cases hj:j<off
 .rw[aF hj,bO (by rw[h1];exact hj),cX,aF hj]
 .rw[ay hj,b7 (by omega),h1];by_cases I:j<off+vs.length
  .rw[aF I,bO (by omega)]
  .rw[ay I,b7 (by omega),gW];congr 1;omega
theorem oq {α:Type} {l vs:List α} {off:Nat} (hle:off+vs.length<=l.length):(splice l off vs).length=l.length:=by
 unfold splice;simp;omega
theorem Rh (off:Nat):∀ (vs:List Value) (k:Nat) (arr:Array Value),off+k+vs.length<=arr.size->∀ j:Nat,
 ((vs.zipIdx k).foldl (λcs (p:Value×Nat)=>cs.setIfInBounds (off+p.2) p.1) arr)[j]? =if j<off+k then arr[j]? else if j<off+k+vs.length then vs[j-(off+k)]? else arr[j]?
 |[],k,arr,_,j=>by
  simp only[List.zipIdx_nil,List.foldl_nil,jS,dl];split<;>rfl
 |v::vs,k,arr,hle,j=>by
  simp only[bY] at hle;rw[List.zipIdx_cons,xd,Rh off vs (k+1) _ (by simp;omega) j];simp only[bY];by_cases h1:j<off+k
  .rw[aF (by omega),aF h1,pO (by omega)]
  .by_cases h2:j=off+k
   .subst h2;rw[aF (by omega),ay (by omega),aF (by omega)];simp[show off+k<arr.size by omega]
   .rw[ay (by omega),ay h1];by_cases I:j<off+k+(vs.length+1)
    .rw[aF (by omega),aF I,show j-(off+k)=(j-(off+(k+1)))+1 from by omega];simp
    .rw[ay (by omega),ay I,pO (by omega)]
theorem Rg (off:Nat) (c:Array Value) (l:List Value) (hle:off+c.size<=l.length):(c.zipIdx.foldl (λcs (p:Value×Nat)=>cs.setIfInBounds (off+p.2) p.1) l.toArray)=(splice l off c.toList).toArray:=by
 rw[<- Array.foldl_toList,Array.toList_zipIdx];apply Array.ext_getElem?;intro j;rw[Rh off c.toList 0 l.toArray (by simpa using hle) j];simp only[dl,km];rw[mE (by simpa using hle)]
theorem OC {φ:PM} {E:Nat->Prop} {h':HF} {w:World} {a:Act} (hp:V0 φ E h' w a e o) {place:Nat->Option (Nat×Nat)}:∀ (ps:List (Nat×Operand)) (ps':List (Nat×Nat×Operand)) (cells cs:List AV) (vs:List Value),
 (ps'.length=ps.length)->(∀ (j:Nat) i x,ps[j]? =af (i,x)->∃ of sz,ps'[j]? =af (of,sz,x)/\place i=af (of,sz))->(∀ p∈ps,p.2∈o.op.operands)->Cs φ (tot E φ h') w cells vs->zm cells e ps'=af cs->
 ∃ vs',Instr.fill place vs.toArray (ps.map λp=>(p.1,a.eval p.2))=af vs'.toArray/\Cs φ (tot E φ h') w cs vs'
 |[],ps',cells,cs,vs,hl,_,_,hcs,hf=>by
  cases ps' with
  |nil=>simp only[zm,ak] at hf;subst hf;exact⟨vs,rfl,hcs⟩
  |cons _ _=>simp at hl
 |(i,x)::ps,ps',cells,cs,vs,hl,hpl,hm,hcs,hf=>by
  obtain⟨of,sz,h1,h2⟩:=hpl 0 i x rfl;cases ps' with
  |nil=>simp at h1
  |cons p ps'=>
   simp at h1;subst h1;simp only[zm] at hf;split at hf
   .rename_i v hv;split at hf
    .rename_i hc;simp only[av,cZ] at hc;obtain⟨⟨M,J⟩,I⟩:=hc;have hr:=UV (hp x v (hm _ (dh ..)) hv) I;have hsz:(a.eval x).cells.size=sz:=by have:=hr.1;simp at this;omega
     have hle:of+sz<=vs.length:=by rw[hcs.1];exact a8 J
     obtain⟨vs',Y,U⟩:=OC hp ps ps' _ cs _ (by simpa using hl) (λj i x hj=>by have:=hpl (j+1) i x (by simpa using hj);simpa using this) (λp hp=>hm p (cH _ hp)) (hcs.splice hr of) hf;refine ⟨vs',?_,U⟩;simp only[gk,Instr.fill,h2];have hcd:((decide ((a.eval x).cells.size≠sz))||decide (of+(a.eval x).cells.size>vs.toArray.size))=aj:=by
      rw[hsz];simp;omega
     rw[ay (by rw[hcd];simp)];have:=Rg of (a.eval x).cells vs (by rw[hsz];exact hle);rw[<- Y,<-this]
    .cases hf
   .cases hf
theorem Eh {t:TypeId}:∀ (ps:List (Nat×Operand)) (ps':List (Nat×Nat×Operand)),xl P t ps=af ps'->ps'.length=ps.length/\∀ (j:Nat) i x,ps[j]? =af (i,x)->∃ of sz,ps'[j]? =af (of,sz,x)/\Bz P t i=af (of,sz)
 |[],ps',h=>by simp only[xl,ak] at h;subst h;exact⟨rfl,λj i x M=>by simp at M⟩
 |(i,x)::ps,ps',h=>by
  simp only[xl] at h;split at h
  .rename_i of sz l h1 h2;simp only[ak] at h;subst h;obtain⟨Y,U⟩:=Eh ps l h2;refine ⟨by simp[Y],λj J I hj=>?_⟩;cases j with
   |zero=>simp at hj;obtain⟨rfl,rfl⟩:=hj;exact⟨of,sz,rfl,h1⟩
   |succ j=>simpa using U j J I (by simpa using hj)
  .cases h
theorem Iu (w:World):∀ (fs:List Field),(fs.all λf=>(fw P f.type).isSome)=ai->(fs.mapM (λf=>do pure (f.offset,<-sizeOf f.type)):Sem (List (Nat×Nat))).run P w= .ok (fs.map λf=>(f.offset,(fw P f.type).getD 0)) w
 |[],_=>by simp
 |f::fs,h=>by
  simp only[List.all_cons,av] at h;obtain⟨sz,hs⟩:=iH.1 h.1;have h1:=gx hs w;have I:=Iu w fs h.2;simp only[List.mapM_cons,eH,h1,cM,oL,I,gk,hs,uW]
theorem Xy {t:TypeId} {ps:Array (Nat×Operand)} {z:List Value} {ps':List (Nat×Nat×Operand)} (M:o.op= .build t ps) (hz:sT P t=af z) (hc:mA z=ai) (hps:xl P t ps.toList=af ps')
 (hu:(∃ fs,P.underlying t=af (.struct fs)/\(fs.toList.all λf=>(fw P f.type).isSome)=ai)\/∃ n el sz,P.underlying t=af (.array n el)/\fw P el=af sz) (I:eQ (.build z ps') e h nx=af R):gL P o e.get h.get R.eff:=by
 simp only[eQ] at I;split at I
 .rename_i cs hf;rw[dy I];refine gL.reads λφ E h' w a _ hp _=>?_
  obtain⟨v,h1,h2,_⟩:=tN hz w;have hcells:v.cells=z.toArray:=by rw[<- h2]
  obtain⟨g1,g2⟩:=Eh ps.toList ps' hps;have hops:∀ p∈ps.toList,p.2∈o.op.operands:=λp hp=>by
   rw[M];simp only[Op.operands,List.mem_toArray,c_];exact⟨p,hp,rfl⟩
  have hmap:(ps.map λx:Nat×Operand=>(x.1,a.eval x.2)).toList=ps.toList.map λp=>(p.1,a.eval p.2):=by simp
  have fin:∀ place:Nat->Option (Nat×Nat),(∀ i,Bz P t i≠ah->place i=Bz P t i)->∃ vs':List Value,Instr.fill place v.cells (ps.map λx:Nat×Operand=>(x.1,a.eval x.2)).toList=af vs'.toArray/\cW φ (tot E φ h') w (Mx cs) (.agg vs'.toArray):=by
   intro place hpl;obtain⟨vs',k1,k2⟩:=OC (place:=place) hp ps.toList ps' _ cs z g1 (λj i x hj=>by
    obtain⟨of,sz,Z,Y⟩:=g2 j i x hj;exact⟨of,sz,Z,by rw[hpl i (by rw[Y];simp),Y]⟩) hops (Cs.raws z hc) hf
   refine ⟨vs',by rw[hmap,hcells];exact k1,?_⟩;unfold Mx;cases hfs:xS cs with
   |none=>exact .agg k2.1 k2.2.1 k2.2.2
   |some fs=>
    have he:=pM hfs;refine .f (.agg fs vs' (by rw[k2.1,he];simp) (λx J=>k2.2.1 (.f x) (by rw[he];exact c_.2 ⟨x,J,rfl⟩)) λj x u J hu=>?_);have:=k2.2.2 j (.f x) u (by rw[he,bc,J];rfl) hu;cases this with
    |f h=>exact h
  rcases hu with ⟨fs,hu,hall⟩|⟨n,el,sz,hu,hs⟩
  .obtain⟨vs',k1,k2⟩:=fin (λi=>(fs.map λf=>(f.offset,(fw P f.type).getD 0))[i]?) (λi hi=>by
    unfold Bz at hi ⊢;rw[hu] at hi ⊢;simp only[Array.getElem?_map] at hi ⊢;cases hf:fs[i]? with
    |none=>rw[hf] at hi;simp at hi
    |some f=>
     simp only[cg,aI];cases hs:fw P f.type with
     |none=>rw[hf] at hi;simp[hs] at hi
     |some sz=>simp)
   refine ⟨_,?_,k2⟩;have hm:=Iu w fs.toList hall;have U:(fs.mapM (λf=>do pure (f.offset,<-sizeOf f.type)):Sem (Array (Nat×Nat))).run P w= .ok (fs.map λf=>(f.offset,(fw P f.type).getD 0)) w:=by
    rw[Array.mapM_eq_mapM_toList];simp only[Sem.run_map,hm,cM];congr 1;apply KX;simp
   unfold execOp;rw[M];simp only[Instr.build,eH,h1,cM,run_underlying hu,U,oL,k1]
  .obtain⟨vs',k1,k2⟩:=fin (λi=>af (i*sz,sz)) (λi hi=>by
    unfold Bz;rw[hu];simp[hs])
   refine ⟨_,?_,k2⟩;have h3:=gx hs w;unfold execOp;rw[M];simp only[Instr.build,eH,h1,cM,run_underlying hu,h3,oL,k1]
 .cases I
end
section
variable {P:Program} {o:Oper} {e:zR} {h:nV} {nx:Nat} {R:Cb}
theorem sx {t el:TypeId} (h:AO P t=af el):P.underlying t=af (.slice el):=by
 unfold AO at h;split at h
 .rename_i e hu;simp only[ak] at h;subst h;exact hu
 .cases h
theorem mG (z:List Value):∀ n,(repl z n).length=n*z.length
 |0=>by simp[repl]
 |n+1=>by simp[repl,mG z n,iM];omega
theorem Cx (z:List Value):∀ (n j:Nat),j<n*z.length->(repl z n)[j]? =(z[j%z.length]?).map .raw
 |0,j,h=>by simp at h
 |n+1,j,h=>by
  have I:0<z.length:=by
   rcases KV z.length with h0|h0
   .rw[h0] at h;simp at h
   .exact h0
  rw[repl];rcases bZ j z.length with hj|hj
  .rw[bO (by simpa using hj),bc,Nat.mod_eq_of_lt hj]
  .rw[b7 (by simpa using hj),bX,Cx z n (j-z.length) (by rw[iM] at h;omega),Nat.mod_eq_sub_mod hj]
theorem XF {v:Value} {z:List Value} (hv:v.cells.toList=z) (n sz:Nat) (hl:z.length=sz) (hsz:sz≠0) (j:Nat) (hj:j<n*sz):
 ((yE (n*sz)).map (λi=>v.cells[i%v.cells.size]!))[j]? =z[j%sz]? :=by
 have hs:v.cells.size=sz:=by rw[<- hl,<-hv];simp
 have hlt:j%sz<v.cells.size:=by rw[hs];exact Nat.mod_lt _ (by omega)
 rw[Array.getElem?_map,Array.getElem?_range];simp only[hj,bG,cg,hs];rw[<- hv,cK,getElem!_pos v.cells _ hlt,ib hlt]
theorem Cs.repl {φ:PM} {O:Nat->Prop} {w:World} {v:Value} {z:List Value} (hv:v.cells.toList=z) (n sz:Nat) (hl:z.length=sz) (hsz:sz≠0) (hc:mA z=ai):
 Cs φ O w ((repl z n).map .f) ((yE (n*sz)).map (λi=>v.cells[i%v.cells.size]!)).toList:=by
 have key:∀ (j:Nat) (x:AV),((AI.repl z n).map AV.f)[j]? =af x->∃ u,z[j%sz]? =af u/\x=raw u/\j<n*sz:=by
  intro j x I;rw[bc] at I;have hj:j<n*z.length:=by
   rcases bZ j (n*z.length) with h|h
   .exact h
   .rw[bR (by rw[mG];exact h)] at I;cases I
  rw[Cx z n j hj,hl] at I;cases hu:z[j%sz]? with
  |none=>rw[hu] at I;cases I
  |some u=>rw[hu] at I;simp at I;exact⟨u,rfl,I.symm,by rw[<- hl];exact hj⟩
 refine ⟨by simp[mG,hl],λx I=>?_,λj x u I hu=>?_⟩
 .obtain⟨j,hj⟩:=e9 I;obtain⟨u,h1,rfl,_⟩:=key j x hj;exact gp.1 hc u (ba h1)
 .obtain⟨J,h1,rfl,hj⟩:=key j x I;rw[cK,XF hv n sz hl hsz j hj,h1] at hu;cases hu;exact .f (.raw _)
theorem amx {t el:TypeId} {n sz:Nat} {ps:Array (Nat×Operand)} {z:List Value} {ps':List (Nat×Nat×Operand)} (Y:o.op= .buildSlice t n ps) (hu:P.underlying t=af (.slice el)) (hz:sT P el=af z) (hs:fw P el=af sz) (hc:mA z=ai) (hl:z.length=sz) (hsz:sz≠0) (hb:n*sz<=65536)
 (hps:xl P t ps.toList=af ps') (I:eQ (.bsl el sz n z ps') e h nx=af R):gL P o e.get h.get R.eff:=by
 simp only[eQ] at I;split at I
 .rename_i cs hf;simp only[ak] at I;subst I;refine gL.makes λφ E h' w a _ hp _=>?_
  obtain⟨v,h1,h2,_⟩:=tN hz w;obtain⟨g1,g2⟩:=Eh ps.toList ps' hps;have hops:∀ p∈ps.toList,p.2∈o.op.operands:=λp hp=>by
   rw[Y];simp only[Op.operands,List.mem_toArray,c_];exact⟨p,hp,rfl⟩
  have hmap:(ps.map λx:Nat×Operand=>(x.1,a.eval x.2)).toList=ps.toList.map λp=>(p.1,a.eval p.2):=by simp
  obtain⟨vs',k1,k2⟩:=OC (place:=λi=>af (i*sz,sz)) hp ps.toList ps' _ cs _ g1 (λj i x hj=>by
   obtain⟨of,s',Z,J⟩:=g2 j i x hj;unfold Bz at J;rw[hu] at J;simp[hs] at J;obtain⟨rfl,rfl⟩:=J;exact⟨_,_,Z,rfl⟩) hops (Cs.repl h2 n sz hl hsz hc) hf
  have hcells:(yE (n*sz)).map ((if n*sz=0 then #[] else v.cells)[·%(if n*sz=0 then #[] else v.cells).size]!)=((yE (n*sz)).map (λi=>v.cells[i%v.cells.size]!)).toList.toArray:=by
   by_cases h0:n*sz=0
   .simp[h0]
   .rw[Array.toArray_toList];simp only[ay h0]
  have hlen:vs'.length=n*sz:=by
   have e1:=k2.1;have e2:cs.length=((AI.repl z n).map AV.f).length:=by
    have:∀ (ps':List (Nat×Nat×Operand)) (U M:List AV),zm U e ps'=af M->M.length=U.length:=by
     intro ps';induction ps' with
     |nil=>intro U M h;simp only[zm,ak] at h;rw[h]
     |cons p ps' ih=>
      intro U M h;obtain⟨of,s',x⟩:=p;simp only[zm] at h;split at h
      .split at h
       .rename_i hcc;simp only[av,cZ] at hcc;rw[ih _ _ h,oq (by rw[hcc.1.1];exact a8 hcc.1.2)]
       .cases h
      .cases h
    exact this ps' _ _ hf
   rw[e1,e2];simp[mG,hl]
  refine ⟨.slice (af ⟨w.heap.size,0,ah⟩) n n,{w with heap:=w.heap.push (.cells vs'.toArray el)},.cells vs'.toArray el (0,0),?_,qZ w _,In k2,λφ' O hφ=>?_⟩
  .have h3:=gx hs w;have hk:Instr.fill (λi=>af (i*sz,sz)) ((yE (n*sz)).map ((if n*sz=0 then #[] else v.cells)[·%(if n*sz=0 then #[] else v.cells).size]!)) (ps.map λx:Nat×Operand=>(x.1,a.eval x.2)).toList=af vs'.toArray:=by
    rw[hcells,hmap];exact k1
   unfold execOp;rw[Y];simp only[Instr.buildSlice,eH,run_underlying hu,cM,h3];rw[ay (by omega)];by_cases h0:n*sz=0
   .simp only[aF h0] at hk ⊢;simp only[eH,oL,cM,hk,newRow,newObj,ny]
   .simp only[ay h0] at hk ⊢;simp only[eH,oL,cM,h1,hk,newRow,newObj,ny]
  .simp only[];split
   .rename_i h0;subst h0;exact .emp
   refine .row hφ (bW _) ?_ ⟨el,?_⟩
   .have:n<=n*sz:=Nat.le_mul_of_pos_right _ (by omega);unfold maxLen;omega
   .unfold rL;simp[hlen]
 .cases I
end
theorem qY.wren {φ:PM} {E:Nat->Prop} {h:HF} {w w':World} (r:qY φ E h w) {id nx k:Nat} {b b':w_} {ob:Obj} (hb:h id=af b) (hk:φ id=af k) (hnx:φ nx=ah) (U:Fk w w' k ob) (hob:jt φ (tot E φ h) w b' ob) (nw:HF) (hnw:nw nx=af b') (hnid:nw id=ah):
 ∃ φ',φ' nx=af k/\iY φ φ' h (eS h [nx,id] nw) w w'/\(∀ i k,φ' i=af k->φ i=af k\/i∈[nx])/\qY φ' E (eS h [nx,id] nw) w':=by
 have hne:nx≠id:=λe=>by rw[e,hk] at hnx;cases hnx
 have hsub:∀ i x,eS h [nx,id] nw i=af x->i≠nx->h i=af x/\i≠id:=λi x Y hi=>by
  unfold eS at Y;by_cases hd:i=id
  .subst hd;simp[hnid] at Y
  .simp[hi,hd] at Y;exact⟨Y,hd⟩
 have hφ:∀ i,i≠nx->(if i=nx then af k else φ i)=φ i:=λi hi=>by simp[hi]
 have m:iY φ (λi=>if i=nx then af k else φ i) h (eS h [nx,id] nw) w w':=by
  refine ⟨λi k' M=>?_,⟨U.os,U.tape,U.output,by rw[U.size];exact bW _,λj hj ho=>?_,λj _=>U.shp j⟩,?_⟩
  .have:i≠nx:=λe=>by rw[e,hnx] at M;cases M
   rw[hφ i this];exact M
  .exact U.other j (λe=>ho (e▸⟨id,b,hb,hk⟩))
  .rintro j hj ⟨i,x,h1,h2⟩;by_cases hi:i=nx
   .simp[hi] at h2;subst h2;exact⟨id,b,hb,hk⟩
   .have Z:φ i=af j:=by simpa[hi] using h2
    exact⟨i,x,(hsub i x h1 hi).1,Z⟩
 refine ⟨_,by simp,m,λi k' M=>?_,⟨λi j x y kk hi hj h1 h2=>?_,λi x hi=>?_,λk hk=>dz (r.el k hk) m.ext.size,λg cells hg=>m.keepF (r.gl g cells hg)⟩⟩
 .by_cases hi:i=nx
  .right;simp[hi]
  .left;rw[hφ i hi] at M;exact M
 .by_cases I:i=nx
  .by_cases J:j=nx
   .rw[I,J]
   .exfalso;rw[hφ j J] at h2;simp[I] at h1;subst h1;obtain⟨q1,q2⟩:=hsub j y hj J;exact q2 (r.inj j id y b k q1 hb h2 hk)
  .rw[hφ i I] at h1;obtain⟨p1,p2⟩:=hsub i x hi I;by_cases J:j=nx
   .exfalso;simp[J] at h2;subst h2;exact p2 (r.inj i id x b k p1 hb h1 hk)
   .rw[hφ j J] at h2;exact r.inj i j x y kk p1 (hsub j y hj J).1 h1 h2
 .by_cases I:i=nx
  .subst I;have:x=b':=by unfold eS at hi;simp[hnw] at hi;exact hi.symm
   subst this;obtain⟨k',h1,h2,_⟩:=r.at_ id b hb;rw[hk] at h1;cases h1;exact⟨k,by simp,h2,ob,U.at_,hob.mono λ_ _ h=>m.keep h⟩
  .obtain⟨p1,p2⟩:=hsub i x hi I;obtain⟨k',h1,h2,ob',Z,h4⟩:=r.at_ i x p1;have hne':k'≠k:=λe=>p2 (r.inj i id x b k p1 hb (e▸h1) hk)
   exact⟨k',by rw[hφ i I];exact h1,h2,ob',by rw[U.other k' hne'];exact Z,h4.mono λ_ _ h=>m.keep h⟩
theorem qY.cs {φ:PM} {E:Nat->Prop} {h':HF} {w:World} (hrep:qY φ E h' w) {id k:Nat} {b:w_} (hb:h' id=af b) (hk:φ id=af k) (hc:b.c.isCells=ai):
 ∃ arr,w.heap[k]? =af (.cells arr b.ty (0,0))/\Cs φ (tot E φ h') w b.c.toMx (arr.toList.take b.c.toMx.length)/\b.c.toMx.length<=arr.size:=by
 obtain⟨k',h1,_,h2⟩:=hrep.at_ id b hb;rw[hk] at h1;cases h1;obtain⟨arr,Z,M,J⟩:=h2.cells hc;rw[BC.len_toMx hc] at M;refine ⟨arr,Z,⟨by simp;omega,λx I=>?_,λj x v I hv=>?_⟩,M⟩
 .obtain⟨j,hj⟩:=e9 I;exact (J j x (by rw[BC.get_toMx hc];exact hj)).1
 .obtain⟨_,u,Y,U⟩:=J j x (by rw[BC.get_toMx hc];exact I);rw[cX] at hv;split at hv
  .rw[cK,Y] at hv;cases hv;exact U
  .cases hv
section
variable {P:Program} {o:Oper} {e:zR} {h:nV} {nx:Nat} {R:Cb}
theorem Nh {t:TypeId} {b:Nat} (hb:Fe P t=af b):∃ i,P.info? t=af i/\i.bytes=b:=by
 unfold Fe at hb;cases hi:P.info? t with
 |none=>rw[hi] at hb;cases hb
 |some i=>rw[hi] at hb;simp at hb;exact⟨i,rfl,hb⟩
theorem Ia {n b:Nat} (h:a_ n b=ai):n<=1099511627776/\n*b<=1099511627776:=by
 simp only[a_,av] at h;exact⟨a8 h.1,a8 h.2⟩
theorem ZL {n:Int} (h1: -9223372036854775808<=n) (h2:n<=9223372036854775807):oO .i64 n=n:=by
 rw[<- yK];have:(c7 (-9223372036854775808) n&&c7 n 9223372036854775807)=ai:=by simp[c7,h1,h2]
 simp only[Hr,Mg,this,bG]
theorem aja {t el:TypeId} {sz bytes:Nat} {z:List Value} {l c:Operand} (ho:o.op= .makeSlice t l c) (hu:P.underlying t=af (.slice el)) (hz:sT P el=af z) (hs:fw P el=af sz) (hb:Fe P el=af bytes) (hc:mA z=ai) (hl:z.length=sz) (hsz:sz≠0)
 (J:eQ (.mksl el sz bytes z l c) e h nx=af R):gL P o e.get h.get R.eff:=by
 simp only[eQ] at J;split at J
 .rename_i k1 n k2 m I hy;split at J
  .rename_i hcd;simp only[c7,av,be] at hcd;obtain⟨⟨h0,h1⟩,h2⟩:=hcd;obtain⟨r1,r2⟩:=Ia h2;simp only[ak] at J;subst J;refine gL.makes λφ E h' w a _ hp _=>?_
   have e1:=fy (hp l _ (by rw[ho];simp[Op.operands]) I);have e2:=fy (hp c _ (by rw[ho];simp[Op.operands]) hy);obtain⟨v,z1,z2,_⟩:=tN hz w;obtain⟨i,i1,i2⟩:=Nh hb;have s1:=gx hs w;have w1:oO .i64 n=n:=ZL (by omega) (by omega);have w2:oO .i64 m=m:=ZL (by omega) (by omega);have hbm:(bytes:Int)*m=((m.toNat*bytes:Nat):Int):=by
    rw[Int.natCast_mul,GF (by omega),Int.mul_comm]
   have t1:¬(m<0\/(281474976710656:Int)<bytes*m):=by rw[hbm];omega
   have hr:¬(m.toNat*bytes>roomBytes):=by unfold roomBytes;omega
   have hn0:m.toNat*sz=0->m.toNat=0:=λh=>(Nat.mul_eq_zero.1 h).resolve_right hsz
   let cells:Array Value:=(yE (m.toNat*sz)).map (λi=>v.cells[i%v.cells.size]!)
   refine ⟨.slice (af ⟨w.heap.size,0,ah⟩) n.toNat m.toNat,{w with heap:=w.heap.push (.cells cells el)},.cells cells el (0,0),?_,qZ w _,?_,λφ' O hφ=>?_⟩
   .unfold execOp;rw[ho];by_cases U:m.toNat*sz=0
    .obtain rfl:m=0:=by have:=hn0 U;omega
     obtain rfl:n=0:=by omega
     simp[Instr.makeSlice,run_underlying hu,e1,e2,asInt,asIntOf,typeInfo,i1,w1,askRoom,s1,newRow,newObj,ny,cells];rw[show yE 0=#[] from rfl];simp
    .simp[Instr.makeSlice,run_underlying hu,e1,e2,asInt,asIntOf,typeInfo,i1,i2,w1,w2,t1,show ¬n<0 by omega,show ¬m<n by omega,askRoom,hr,s1,U,z1,newRow,newObj,ny,cells]
   .have cs:=Cs.repl (φ:=φ) (O:=tot E φ h') (w:=w) z2 m.toNat sz hl hsz hc;have hle:n.toNat<=m.toNat:=by omega
    have hlen:n.toNat*sz<=m.toNat*sz:=cG _ hle;refine qa rfl (by simp[BC.toMx,mG,hl,cells];exact hlen) λj x I=>?_
    simp only[BC.toMx,bc] at I;have hj:j<n.toNat*z.length:=by
     rcases bZ j (n.toNat*z.length) with h|h
     .exact h
     .rw[bR (by rw[mG];exact h)] at I;cases I
    have Z:j<m.toNat*z.length:=by rw[hl] at hj ⊢;omega
    rw[Cx z _ j hj,<-Cx z m.toNat j Z] at I;have M:((repl z m.toNat).map AV.f)[j]? =af x:=by rw[bc];exact I
    have Y:j<cells.toList.length:=by simp[cells];rw[<- hl];exact Z
    exact⟨cs.2.1 x (ba M),cells.toList[j],by rw[<- cK];exact aB Y,cs.2.2 j x _ M (aB Y)⟩
   .refine .row hφ (by omega) (by unfold maxLen;omega) ⟨el,?_⟩;unfold rL;simp[cells]
  .cases J
 .cases J
theorem afr {t:TypeId} {x y:Operand} {sz:Nat} (Y:o.op= .store t x y) (hs:fw P t=af sz) (I:eQ (.store sz x y) e h nx=af R):gL P o e.get h.get R.eff:=by
 simp only[eQ] at I;split at I
 .rename_i p v hx hy;unfold Pe at I;split at I
  .rename_i id off;split at I
   .rename_i b hb;split at I
    .rename_i hl;split at I
     .rename_i c' hput;simp only[ak] at I;subst I;unfold BC.put at hput;split at hput
      .rename_i hcc;simp only[av] at hcc;obtain⟨⟨c1,c2⟩,c3⟩:=hcc;have c2:=a8 c2;have hl:v.cs.length=sz:=by simpa using hl
       have J:c'.toMx=splice b.c.toMx off v.cs/\c'.isCells=ai:=by
        split at hput
        .rename_i l ys hbl hys;simp only[ak] at hput;subst hput;refine ⟨?_,rfl⟩;have hv:=pM hys;rw[hv,hbl];simp only[BC.toMx];unfold splice;simp[kF,List.map_drop]
        .simp only[ak] at hput;subst hput;exact⟨rfl,rfl⟩
       refine gL.writes hb λφ E h' w a hrd Z hp hrep=>?_
       have hr:=UV (hp y _ (by rw[Y];simp[Op.operands]) hy) c3;have hpx:=hp x _ (by rw[Y];simp[Op.operands]) hx;generalize hz:a.eval x=pv at hpx;cases hpx with
       |@ptr _ _ k hφ=>
        obtain⟨arr,g1,g2,g3⟩:=hrep.cs Z hφ c1;have hvl:(a.eval y).cells.toList.length=sz:=by rw[hr.1];exact hl
        rw[BC.len_toMx c1] at c2;have hst:=run_storeCells_at (P:=P) k off b.ty (a.eval y).cells.toList 0 arr w g1 (by rw[hvl];omega) hr.one
        let arr':Array Value:=(arr.toList.take off++(a.eval y).cells.toList++arr.toList.drop (off+sz)).toArray
        have hsize:arr'.size=arr.size:=by simp only[arr',s8,bu,bE,mB,ir,hvl];omega
        refine ⟨.skip,w.setRow k arr',k,.cells arr' b.ty (0,0),?_,hφ,Fk.setRow g1 hsize,?_,undef,.inr ⟨rfl,rfl⟩,.f (.raw _)⟩
        .have s1:=gx hs w;have hvs:(a.eval y).cells.size=sz:=by simpa using hvl
         simp only[dl,hvl] at hst;unfold execOp;rw[Y];simp[Instr.storeAt,hz,Instr.sureAddr,storeVar,s1,hvs,hst,arr']
        .refine qa J.2 (by rw[J.1,oq (by omega),hsize];exact g3) λj q hq=>?_
         rw[J.1,mE (by omega)] at hq;have ha':arr'[j]? =if j<off then arr.toList[j]? else if j<off+sz then (a.eval y).cells.toList[j-off]? else arr.toList[j]? :=by
          have:=mE (l:=arr.toList) (vs:=(a.eval y).cells.toList) (off:=off) (by have:=hvl;simp only[ir] at this ⊢;omega) j;unfold splice at this;rw[hvl] at this;simp only[arr',km];exact this
         have old:b.c.toMx[j]? =af q->q.isCell=ai/\∃ u,arr.toList[j]? =af u/\cW φ (tot E φ h') w q u:=λhq=>by
          have hj:j<b.c.toMx.length:=(bl.1 hq).1;have U:j<arr.toList.length:=by simp;omega
          refine ⟨g2.2.1 q (ba hq),arr.toList[j],aB U,g2.2.2 j q _ hq ?_⟩;rw[cX,aF hj,aB U]
         rw[ha'];by_cases h1:j<off
         .rw[aF h1] at hq ⊢;exact old hq
         .rw[ay h1] at hq ⊢;by_cases h2:j<off+sz
          .rw[aF (by omega)] at hq;rw[aF h2];have M:j-off<(a.eval y).cells.toList.length:=by omega
           exact⟨hr.2.1 q (ba hq),_,aB M,hr.2.2 _ q _ hq (aB M)⟩
          .rw[ay (by omega)] at hq;rw[ay h2];exact old hq
      .cases hput
     .cases I
    .cases I
   .cases I
  .cases I
 .cases I
end
section
variable {P:Program} {o:Oper} {e:zR} {h:nV} {nx:Nat} {R:Cb}
theorem ame (A:Addr):A.add 0=A:=by cases A;simp[Addr.add]
theorem amg {t el:TypeId} {sz:Nat} {x:Operand} {lo hi mx:Option Operand} (J:o.op= .slice t x lo hi mx) (hu:P.underlying t=af (.slice el)) (hs:fw P el=af sz) (I:eQ (.slc sz x lo hi mx) e h nx=af R):gL P o e.get h.get R.eff:=by
 simp only[eQ] at I;split at I
 .rename_i v Y;split at I
  ·
   rename_i k k';split at I
   .rename_i hsl;rw[dy I];refine gL.reads λφ E h' w a _ hp _=>?_
    have hr:=hp x _ (by rw[J];simp[Op.operands]) Y;have U:∃ A n c,a.eval x= .slice A n c:=by
     generalize a.eval x=z at hr;obtain⟨n,hn⟩:=iH.1 hsl;unfold AV.slen at hn;split at hn
     .cases hr with
      |f hr=>cases hr with
       |nil=>exact⟨_,_,_,rfl⟩
       |sl=>exact⟨_,_,_,rfl⟩
     .cases fy hr;exact⟨_,_,_,rfl⟩
     .cases hr;exact⟨_,_,_,rfl⟩
     .cases hr;exact⟨_,_,_,rfl⟩
     .cases hr;exact⟨_,_,_,rfl⟩
     .cases hn
    obtain⟨A,n,c,U⟩:=U;have s1:=gx hs w;refine ⟨.slice A 0 0,?_,.emp⟩;unfold execOp;rw[J];have z0:∀ k,a.eval (.const (.int k 0))= .int k 0:=λ_=>rfl
    simp[pu,uM,run_underlying hu,U,jN,kx,asIntOf,s1,z0]
   .cases I
  ·
   rename_i b;split at I
   .rename_i id sz' n k j hb;split at I
    .rename_i hc;simp only[c7,av,be,cZ] at hc;obtain⟨⟨rfl,h0⟩,h1⟩:=hc;split at I
     .rename_i blk hblk;split at I
      .rename_i hcl;simp only[av] at hcl;obtain⟨hcells,hlen⟩:=hcl;have hlen:=a8 hlen;rw[BC.len_toMx hcells] at hlen;simp only[ak] at I;subst I;intro φ E h' w a g1 g2 g3 hrep g5;have hp:V0 φ E h' w a e o:=λx y Y M=>tI hrep g3 Y M
       have hb':h' id=af blk:=by rw[g1 id (by simp[Cb.eff])];exact hblk
       have hr:=hp x _ (by rw[J];simp[Op.operands]) Y;have hbv:=fy (hp b _ (by rw[J];simp[Op.operands]) hb);have hnx:φ nx=ah:=g5 nx (by simp[Cb.eff]);generalize U:a.eval x=z at hr;cases hr with
       |@row _ _ _ c q hφ hn hcap hsh=>
        obtain⟨arr,a1,a2,a3⟩:=hrep.cs hb' hφ hcells;have s1:=gx hs w;have hne:nx≠id:=λe=>by rw[e,hφ] at hnx;cases hnx
        have hnw1:je [(nx,⟨blk.ty,pl (blk.c.toMx.take (j.toNat*sz'))⟩)] nx=af (⟨blk.ty,pl (blk.c.toMx.take (j.toNat*sz'))⟩:w_):=by simp[je]
        have hnw2:je [(nx,⟨blk.ty,pl (blk.c.toMx.take (j.toNat*sz'))⟩)] id=ah:=by
         simp only[je];rw[ay];intro hb;exact hne (aw hb)
        have a4:=a2.take (j.toNat*sz');obtain⟨φ',p1,p2,p3,p4⟩:=hrep.wren hb' hφ hnx (w':=w) ⟨rfl,rfl,rfl,rfl,a1,λ_ _=>rfl,λ_=>rfl⟩ (b':=⟨blk.ty,pl (blk.c.toMx.take (j.toNat*sz'))⟩) (by
         obtain⟨q1,q2⟩:=nK (blk.c.toMx.take (j.toNat*sz'));refine qa q2 (by rw[q1,bE];omega) λi x Y=>?_
         rw[q1] at Y;have hi:i<((arr.toList.take blk.c.toMx.length).take (j.toNat*sz')).length:=by rw[a4.1];exact (bl.1 Y).1
         refine ⟨a4.2.1 x (ba Y),_,?_,a4.2.2 i x _ Y (aB hi)⟩;have hi':i<arr.size:=by simp at hi;omega
         simp[hi']) _ hnw1 hnw2
        have hrun:(execOp a.eval o).run P w= .ok (.value (.slice (af ⟨q,0,ah⟩) j.toNat c)) w:=by
         unfold execOp;rw[J];simp[pu,uM,run_underlying hu,U,jN,kx,asIntOf,s1,hbv,h0,show j<=c by omega,kX]
        unfold Ho;rw[hrun];exact⟨_,φ',rfl,p2,p3,p4,.row p1 (by omega) hcap hsh⟩
      .cases I
     .cases I
    .cases I
   .rename_i cells n k j hb;split at I
    .rename_i hc;simp only[c7,av,be] at hc;obtain⟨⟨h0,h1⟩,h2⟩:=hc;have h2:=a8 h2;rw[dy I];refine gL.reads λφ E h' w a _ hp _=>?_
     have hr:=hp x _ (by rw[J];simp[Op.operands]) Y;have hbv:=fy (hp b _ (by rw[J];simp[Op.operands]) hb);generalize U:a.eval x=z at hr;have s1:=gx hs w;cases hr with
     |f hr=>
      cases hr with
      |nil A c hc=>
       have hj:j=0:=by omega
       subst hj;refine ⟨.slice A 0 c,?_,by simpa using cW.f (.nil A c hc)⟩;unfold execOp;rw[J];cases A<;>simp[pu,uM,run_underlying hu,U,jN,kx,asIntOf,s1,hbv,ame]
      |sl _ _ c q off us hn hc hO hq hcl Z hr=>
       refine ⟨.slice (af ⟨q,off,ah⟩) j.toNat c,?_,.f (.sl _ _ _ _ _ us (by omega) hc hO hq (λy M=>hcl y (gV M)) (λi hi=>Z i (by rw[bE] at hi;omega)) λi y M=>?_)⟩
       .unfold execOp;rw[J];simp[pu,uM,run_underlying hu,U,jN,kx,asIntOf,s1,hbv,h0,show j<=c by omega,kX]
       .rw[cX] at M;split at M
        .exact hr i y M
        .cases M
    .cases I
   .cases I
  ·
   rename_i b;split at I
   .rename_i id sz' n k j hb;split at I
    .rename_i hc;simp only[c7,fO,av,be,cZ] at hc;obtain⟨⟨rfl,h0⟩,h1⟩:=hc;rw[dy I];refine gL.reads λφ E h' w a _ hp _=>?_
     have hr:=hp x _ (by rw[J];simp[Op.operands]) Y;have hbv:=fy (hp b _ (by rw[J];simp[Op.operands]) hb);generalize U:a.eval x=z at hr;cases hr with
     |@row _ _ _ c q hφ hn hc hsh=>
      have s1:=gx hs w;refine ⟨.slice (af ⟨q,0+j.toNat*sz',ah⟩) (n-j.toNat) (c-j.toNat),?_,?_⟩
      .unfold execOp;rw[J];simp[pu,uM,run_underlying hu,U,jN,kx,asIntOf,s1,hbv,h0,show j<=n by omega,show ¬c=j.toNat by omega,kX]
      .rw[bN];exact .sl hφ (by omega) (by omega)
    .cases I
   .rename_i cells n k j hb;split at I
    .rename_i hc;simp only[c7,av,be] at hc;obtain⟨⟨h0,h1⟩,h2⟩:=hc;have h2:=a8 h2;rw[dy I];refine gL.reads λφ E h' w a _ hp _=>?_
     have hr:=hp x _ (by rw[J];simp[Op.operands]) Y;have hbv:=fy (hp b _ (by rw[J];simp[Op.operands]) hb);generalize U:a.eval x=z at hr;have s1:=gx hs w;cases hr with
     |f hr=>
      cases hr with
      |nil A c hc=>
       have hj:j=0:=by omega
       subst hj;have hex:∃ A',(execOp a.eval o).run P w= .ok (.value (.slice A' 0 c)) w:=by
        unfold execOp;rw[J];cases A with
        |none=>exact⟨ah,by simp[pu,uM,run_underlying hu,U,jN,kx,asIntOf,s1,hbv]⟩
        |some A=>exact⟨af A,by simp[pu,uM,run_underlying hu,U,jN,kx,asIntOf,s1,hbv,ame]⟩
       obtain⟨A',hex⟩:=hex;exact⟨.slice A' 0 c,hex,by simpa using cW.f (.nil A' c hc)⟩
      |sl _ _ c q off us hn hc hO hq hcl Z hr=>
       by_cases hcj:c=j.toNat
       .refine ⟨.slice (af ⟨q,off,ah⟩) 0 0,?_,?_⟩
        .unfold execOp;rw[J];simp[pu,uM,run_underlying hu,U,jN,kx,asIntOf,s1,hbv,h0,show j<=n by omega,hcj,show n-j.toNat=0 by omega,kX]
        .rw[show n-j.toNat=0 by omega];simpa using cW.f (.nil (af ⟨q,off,ah⟩) 0 (by unfold maxLen;omega))
       .refine ⟨.slice (af ⟨q,off+j.toNat*sz,ah⟩) (n-j.toNat) (c-j.toNat),?_,.f (.sl _ _ _ _ _ (λi=>us (j.toNat*sz+i)) (by omega) (by omega) hO hq (λy M=>hcl y (List.mem_of_mem_drop (gV M))) (λi hi=>?_) λi y M=>?_)⟩
        .unfold execOp;rw[J];simp[pu,uM,run_underlying hu,U,jN,kx,asIntOf,s1,hbv,h0,show j<=n by omega,hcj,kX]
        .rw[pq];refine Z _ ?_;rw[bE,mB] at hi;omega
        .rw[cX] at M;split at M
         .rw[gW] at M;exact hr _ y M
         .cases M
    .cases I
   .cases I
  .cases I
 .cases I
theorem Z7 {sz:Nat} {x:AV} {src:List AV} {m:Nat} {rd:List Nat} (hrow:x.row? h sz=af (src,m,rd)) {φ:PM} {E:Nat->Prop} {h':HF} {w:World} (hrd:∀ i∈rd,h' i=h.get i) (hrep:qY φ E h' w) {v:Value} (hr:cW φ (tot E φ h') w x v):
 ∃ A c vs,v= .slice A m c/\Cs φ (tot E φ h') w src vs/\vs.length=m*sz/\(A=ah->vs=[])/\(∀ J,A=af J->∀ (j:Nat) u,vs[j]? =af u->w.cell? (J.add j)=af u):=by
 have emp:∀ A c,v= .slice A 0 c->src=[]->m=0->∃ A c vs,v= .slice A m c/\Cs φ (tot E φ h') w src vs/\vs.length=m*sz/\(A=ah->vs=[])/\(∀ J,A=af J->∀ (j:Nat) u,vs[j]? =af u->w.cell? (J.add j)=af u):=by
  rintro A c rfl rfl rfl;exact⟨A,c,[],rfl,⟨rfl,(by intro x I;cases I),(by intro j x v I;simp at I)⟩,by simp,λ_=>rfl,by intro J _ j u hu;simp at hu⟩
 have own:∀ (id off n c k:Nat) (b:w_),φ id=af k->h' id=af b->b.c.isCells=ai->off+n*sz<=b.c.len->v= .slice (af ⟨k,off,ah⟩) n c->src=(b.c.toMx.drop off).take (n*sz)->m=n->
  ∃ A c vs,v= .slice A m c/\Cs φ (tot E φ h') w src vs/\vs.length=m*sz/\(A=ah->vs=[])/\(∀ J,A=af J->∀ (j:Nat) u,vs[j]? =af u->w.cell? (J.add j)=af u):=by
  rintro id off n c k b hφ hb hc hle rfl rfl rfl;obtain⟨arr,g1,Z,g3⟩:=hrep.cs hb hφ hc;rw[BC.len_toMx hc] at hle;refine ⟨_,c,((arr.toList.take b.c.toMx.length).drop off).take (m*sz),rfl,(Z.drop off).take _,?_,(λh=>by cases h),?_⟩
  .simp;omega
  .intro J had j u hu;cases had;rw[kX];rw[cX] at hu;split at hu
   .rw[gW,cX] at hu;split at hu
    .rw[cK] at hu;simp[Nt,g1,hu]
    .cases hu
   .cases hu
 unfold AV.row? at hrow;split at hrow
 .rename_i cells n;split at hrow
  .rename_i hle;have hle:=a8 hle;simp only[ak,aD] at hrow;obtain⟨rfl,rfl,rfl⟩:=hrow;cases hr with
   |f hr=>
    cases hr with
    |nil a c hc=>exact emp a c rfl (by simp) rfl
    |sl _ _ c b off us hn hc hO hb hcl hu hr=>
     refine ⟨_,c,(c4 (n*sz)).map us,rfl,⟨by simp;omega,λx I=>?_,λj x u I M=>?_⟩,by simp,(λh=>by cases h),?_⟩
     .obtain⟨y,Y,rfl⟩:=c_.1 I;exact hcl y (gV Y)
     .obtain⟨rfl,hj⟩:=xE us _ _ _ M;rw[bc,cX,aF hj] at I;cases hq:cells[j]? with
      |none=>rw[hq] at I;cases I
      |some q=>rw[hq] at I;simp at I;subst I;exact .f (hr j q hq)
     .intro J had j u M;cases had;obtain⟨rfl,hj⟩:=xE us _ _ _ M;rw[kX];exact hu j (by omega)
  .cases hrow
 .simp only[ak,aD] at hrow;obtain⟨rfl,rfl,rfl⟩:=hrow;exact emp ah 0 (fy hr) rfl rfl
 .simp only[ak,aD] at hrow;obtain⟨rfl,rfl,rfl⟩:=hrow;cases hr with
  |@emp a=>exact emp a 0 rfl rfl rfl
 .rename_i id sz' n;split at hrow
  .rename_i hsz;split at hrow
   .rename_i b hb;split at hrow
    .rename_i hc;simp only[av] at hc;simp only[ak,aD] at hrow;obtain⟨rfl,rfl,rfl⟩:=hrow;cases hr with
     |@row _ _ _ c k hφ hn U hsh=>
      exact own id 0 n c k b hφ (by rw[hrd id (by simp)];exact hb) hc.1 (by rw[bN];exact a8 hc.2) rfl (by simp) rfl
    .cases hrow
   .cases hrow
  .cases hrow
 .rename_i id off n;split at hrow
  .rename_i b hb;split at hrow
   .rename_i hc;simp only[av] at hc;simp only[ak,aD] at hrow;obtain⟨rfl,rfl,rfl⟩:=hrow;cases hr with
    |@sl _ _ _ c k hφ hn U=>exact own id off n c k b hφ (by rw[hrd id (by simp)];exact hb) hc.1 (a8 hc.2) rfl rfl rfl
   .cases hrow
  .cases hrow
 .cases hrow
theorem adu {sz:Nat} {x:AV} {src:List AV} {m:Nat} {rd:List Nat} (hrow:x.row? h sz=af (src,m,rd)) {φ:PM} {E:Nat->Prop} {h':HF} {w:World} (hrd:∀ i∈rd,h' i=h.get i) (hrep:qY φ E h' w) {v:Value} (hr:cW φ (tot E φ h') w x v) {I el:TypeId} (hk:P.underlying I=af (.slice el)):
 ∃ vs,Src P sz I v m vs w/\Cs φ (tot E φ h') w src vs:=by
 obtain⟨A,c,vs,rfl,h1,h2,U,M⟩:=Z7 hrow hrd hrep hr;refine ⟨vs,?_,h1⟩;cases A with
 |none=>
  have:=U rfl;subst this;have hm:m*sz=0:=by simpa using h2.symm
  refine ⟨.inl ⟨el,hk⟩,λ_=>rfl,run_firstCells_none w sz m m c,run_firstCells_none w.drew sz m m c,by simp[hm],λ_ h=>by cases h⟩
 |some J=>exact Src.ofSlice w hk J m c vs h2 (M J rfl) h1.one
theorem aig {x:Nat}:∀ {l:List Nat},XW x l=ai↔x∈l
 |[]=>by simp[XW]
 |y::r=>by
  simp only[XW,iQ,aig (l:=r),bm];constructor
  .rintro (h|h)
   .exact .inl (aw h).symm
   .exact .inr h
  .rintro (h|h)
   .subst h;exact .inl (uX x)
   .exact .inr h
theorem ajg {t u el el':TypeId} {d x:Operand} {sz:Nat} (ho:o.op= .call {callee:=.builtin .copy,args:=#[d,x],argTypes:=#[t,u]}) (hu:P.underlying t=af (.slice el)) (hu':P.underlying u=af (.slice el')) (hs:fw P el=af sz) (J:eQ (.copy sz d x) e h nx=af R):gL P o e.get h.get R.eff:=by
 simp only[eQ] at J;split at J
 .rename_i id sz' n y hd hx;split at J
  .rename_i blk src m rd hblk hrow;split at J
   .rename_i hc;simp only[av,cZ,ey] at hc;obtain⟨⟨rfl,hmem⟩,hlen⟩:=hc;split at J
    .rename_i c' hput;simp only[ak] at J;subst J;unfold BC.put at hput;split at hput
     .rename_i hcc;simp only[av] at hcc;obtain⟨⟨c1,Z⟩,c3⟩:=hcc;have Z:=a8 Z;rw[bN] at Z;have M:c'.toMx=splice blk.c.toMx 0 (src.take (iN m n*sz'))/\c'.isCells=ai:=by
       split at hput
       .rename_i l ys hbl hys;simp only[ak] at hput;subst hput;refine ⟨?_,rfl⟩;have hv:=pM hys;rw[hv,hbl];simp only[BC.toMx];unfold splice;simp[kF,List.map_drop]
       .simp only[ak] at hput;subst hput;exact⟨rfl,rfl⟩
      refine gL.writes hblk λφ E h' w a hrd hb' hp hrep=>?_
      have hpd:=hp d _ (by rw[ho];simp[Op.operands,eR]) hd;have hpx:=hp x _ (by rw[ho];simp[Op.operands,eR]) hx;obtain⟨A,c,vs,hv,q1,q2,q3,q4⟩:=Z7 hrow (λi hi=>hrd i (by simp[hi])) hrep hpx;generalize hz:a.eval d=pv at hpd;cases hpd with
      |@row _ _ _ cap k hφ hn hcap hsh=>
       obtain⟨arr,g1,g2,g3⟩:=hrep.cs hb' hφ c1;rw[BC.len_toMx c1] at Z;have hmn:iN m n<=m:=Nat.min_le_left _ _;have hle:iN m n*sz'<=m*sz':=cG _ hmn
       let I:=vs.take (iN m n*sz')
       have hnl:I.length=iN m n*sz':=by simp only[I,bE,q2];omega
       have hsl:(src.take (iN m n*sz')).length=iN m n*sz':=by rw[bE,<-q1.1,q2];omega
       have csn:=q1.take (iN m n*sz');rw[hsl] at Z;have hst:=run_storeCells_at (P:=P) k 0 blk.ty I 0 arr w g1 (by rw[hnl];omega) csn.one
       let arr':Array Value:=(arr.toList.take 0++I++arr.toList.drop (0+iN m n*sz')).toArray
       have hsize:arr'.size=arr.size:=by simp only[arr',s8,bu,bE,mB,ir,hnl];omega
       have hfc:(KW sz' (iN m n) (.slice A m c)).run P w= .ok I.toArray w:=by
        cases A with
        |none=>
         have:I=[]:=by simp[I,q3 rfl]
         rw[this];exact run_firstCells_none w sz' _ _ _
        |some ad=>exact run_firstCells_some w sz' _ ad m c I hnl (λj u hu=>q4 ad rfl j u (by
          simp only[I,cX] at hu;split at hu
          .exact hu
          .cases hu))
       refine ⟨.value (.int .i64 (iN m n)),w.setRow k arr',k,.cells arr' blk.ty (0,0),?_,hφ,Fk.setRow g1 hsize,?_,_,.inl rfl,.f (.raw _)⟩
       .have s1:=gx hs w;simp only[dl,hnl] at hst;unfold execOp;rw[ho];simp[resolve,invoke,builtin,Builtin.copy_,run_underlying hu,hz,hv,Builtin.lenOf,s1,hfc,hst,goInt,arr']
       .refine qa M.2 (by rw[M.1,oq (by rw[hsl];omega),hsize];exact g3) λj q hq=>?_
        rw[M.1,mE (by rw[hsl];omega)] at hq;have ha':arr'[j]? =if j<0 then arr.toList[j]? else if j<0+I.length then I[j-0]? else arr.toList[j]? :=by
         have:=mE (l:=arr.toList) (vs:=I) (off:=0) (by simp only[ir];omega) j;unfold splice at this;simp only[arr',km];rw[<- this,hnl]
        rw[ha',ay (by omega)];rw[ay (by omega),hsl] at hq;rw[hnl];by_cases h2:j<0+iN m n*sz'
        .rw[aF h2] at hq ⊢;have U:j-0<I.length:=by rw[hnl];omega
         exact⟨csn.2.1 q (ba hq),_,aB U,csn.2.2 _ q _ hq (aB U)⟩
        .rw[ay h2] at hq ⊢;have hj:j<blk.c.toMx.length:=(bl.1 hq).1;have Y:j<arr.toList.length:=by simp;omega
         refine ⟨g2.2.1 q (ba hq),arr.toList[j],aB Y,g2.2.2 j q _ hq ?_⟩;rw[cX,aF hj,aB Y]
     .cases hput
    .cases J
   .cases J
  .cases J
 .cases J
theorem amw {t el:TypeId} {sz:Nat} {z:List Value} {x:Operand} (ho:o.op= .call {callee:=.builtin .clear,args:=#[x],argTypes:=#[t]}) (hu:P.underlying t=af (.slice el)) (hz:sT P el=af z) (hc:mA z=ai) (hl:z.length=sz) (hsz:sz≠0) (J:eQ (.clr sz z x) e h nx=af R):gL P o e.get h.get R.eff:=by
 simp only[eQ] at J;split at J
 .rename_i id off n hx;split at J
  .rename_i blk hblk;split at J
   .rename_i hn;have hn:=a8 hn;obtain⟨m,rfl⟩:∃ m,n=m+1:=⟨n-1,by omega⟩
    split at J
    .rename_i c' hput;simp only[ak] at J;subst J;unfold BC.put at hput;split at hput
     .rename_i hcc;simp only[av] at hcc;obtain⟨⟨c1,c2⟩,c3⟩:=hcc;have c2:=a8 c2;have hsrc:((repl z (m+1)).map AV.f).length=(m+1)*sz:=by rw[bX,mG,hl]
      rw[hsrc] at c2;have U:c'.toMx=splice blk.c.toMx off ((repl z (m+1)).map AV.f)/\c'.isCells=ai:=by
       split at hput
       .rename_i l ys hbl hys;simp only[ak] at hput;subst hput;refine ⟨?_,rfl⟩;have hv:=pM hys;rw[hv,hbl];simp only[BC.toMx];unfold splice;simp[kF,List.map_drop]
       .simp only[ak] at hput;subst hput;exact⟨rfl,rfl⟩
      refine gL.writes hblk λφ E h' w a hrd hb' hp hrep=>?_
      have hpx:=hp x _ (by rw[ho];simp[Op.operands,eR]) hx;generalize hzv:a.eval x=pv at hpx;cases hpx with
      |@sl _ _ _ cap k hφ hn2 hcap=>
       obtain⟨arr,g1,Z,g3⟩:=hrep.cs hb' hφ c1;rw[BC.len_toMx c1] at c2;obtain⟨v,z1,z2,_⟩:=tN hz w;have csn:=Cs.repl (φ:=φ) (O:=tot E φ h') (w:=w) z2 (m+1) sz hl hsz hc
       let M:=(lq v.cells (m+1)).toList
       have hvs:v.cells.size=sz:=by rw[<- hl,<-z2];simp
       have hns:M=((yE ((m+1)*sz)).map (λi=>v.cells[i%v.cells.size]!)).toList:=by simp only[M,lq,hvs]
       have hnl:M.length=(m+1)*sz:=by rw[hns];simp
       rw[<- hns] at csn;have hst:=run_storeCells_at (P:=P) k off blk.ty M 0 arr w g1 (by rw[hnl];omega) csn.one
       let arr':Array Value:=(arr.toList.take (off+0)++M++arr.toList.drop (off+0+M.length)).toArray
       have hsize:arr'.size=arr.size:=by simp only[arr',s8,bu,bE,mB,ir,hnl];omega
       refine ⟨.value (.tuple #[]),w.setRow k arr',k,.cells arr' blk.ty (0,0),?_,hφ,Fk.setRow g1 hsize,?_,_,.inl rfl,.tup (vs:=[]) rfl λj y v hy=>by simp at hy⟩
       .unfold execOp;rw[ho];have hst2:(storeCells ⟨k,off,ah⟩ (lq v.cells (m+1)).toList).run P w= .ok () (w.setRow k arr'):=hst;simp[resolve,invoke,builtin,Builtin.clear_,run_underlying hu,hzv,z1,hst2]
       .refine qa U.2 (by rw[U.1,oq (by rw[hsrc];omega),hsize];exact g3) λj q hq=>?_
        rw[U.1,mE (by rw[hsrc];omega)] at hq;have ha':arr'[j]? =if j<off then arr.toList[j]? else if j<off+M.length then M[j-off]? else arr.toList[j]? :=by
         have:=mE (l:=arr.toList) (vs:=M) (off:=off) (by simp only[ir];omega) j;unfold splice at this;simp only[arr',km,dl];rw[<- this]
        rw[ha'];rw[hsrc] at hq;rw[hnl];by_cases h1:j<off
        .rw[aF h1] at hq ⊢;have hj:j<blk.c.toMx.length:=(bl.1 hq).1;have I:j<arr.toList.length:=by simp;omega
         refine ⟨Z.2.1 q (ba hq),arr.toList[j],aB I,Z.2.2 j q _ hq ?_⟩;rw[cX,aF hj,aB I]
        rw[ay h1] at hq ⊢;by_cases h2:j<off+(m+1)*sz
        .rw[aF h2] at hq ⊢;have Y:j-off<M.length:=by rw[hnl];omega
         exact⟨csn.2.1 q (ba hq),_,aB Y,csn.2.2 _ q _ hq (aB Y)⟩
        .rw[ay h2] at hq ⊢;have hj:j<blk.c.toMx.length:=(bl.1 hq).1;have I:j<arr.toList.length:=by simp;omega
         refine ⟨Z.2.1 q (ba hq),arr.toList[j],aB I,Z.2.2 j q _ hq ?_⟩;rw[cX,aF hj,aB I]
     .cases hput
    .cases J
   .cases J
  .cases J
 .cases J
end
theorem Mh (w:World) (ob:Obj):SJ w (w.drew.alloc ob) ob:=SJ.drawn (w.drawn+1) (qZ {w with drawn:=w.drawn+1} ob)
section
variable {P:Program} {o:Oper} {e:zR} {h:nV} {nx:Nat} {R:Cb}
theorem HU {v:Value} {z:List Value} {sz:Nat} (hv:v.cells.toList=z) (hl:z.length=sz) (n:Nat):(lq v.cells n).size=n*sz:=by
 have:v.cells.size=sz:=by rw[<- hl,<-hv];simp
 simp[lq,this]
theorem Sv {t u el:TypeId} {s x:Operand} {i:TypeInfo} {z:List Value} (ho:o.op= .call {callee:=.builtin .append,args:=#[s,x],argTypes:=#[t,u]}) (hu:P.underlying t=af (.slice el)) (U:P.info? el=af i) (hz:sT P el=af z) (hzl:z.length=i.size)
 {φ:PM} {E:Nat->Prop} {h':HF} {w:World} {a:Act} (hrep:qY φ E h' w) (hnx:φ nx=ah) {A:Option Addr} {n cap m:Nat} {olds vs:List Value} {oldA src:List AV} (hsl:a.eval s= .slice A n cap)
 (hold:(KW i.size n (.slice A n cap)).run P w.drew= .ok olds.toArray w.drew) (csold:Cs φ (tot E φ h') w oldA olds) (hol:olds.length=n*i.size) (hsrc:Src P i.size u (a.eval x) m vs w) (hcs:Cs φ (tot E φ h') w src vs)
 (hg:cap<n+m) (r1:n+m<=1099511627776) (r2:(n+m)*i.bytes<=1099511627776) (del:List Nat) (hdel:∀ j∈del,j≠nx):
 o.wp P a w (λa' w'=>∃ v φ',a'=a.put o.dst v/\iY φ φ' h' (eS h' (nx::del) (je [(nx,⟨el,pl (oldA++src)⟩)])) w w'/\(∀ i k,φ' i=af k->φ i=af k\/i∈[nx])/\
  qY φ' E (eS h' (nx::del) (je [(nx,⟨el,pl (oldA++src)⟩)])) w'/\cW φ' (tot E φ' (eS h' (nx::del) (je [(nx,⟨el,pl (oldA++src)⟩)]))) w' (.row nx i.size (n+m)) v) (λ_ _ _=>False):=by
 obtain⟨J,z1,Z,i',I,Y⟩:=tN hz w;rw[U] at I;cases I;have hfb:=growslice_fits (need:=n+m) (old:=cap) (bytes:=i.bytes) hg (by omega);have hrun:=run_append_grow_src w t u o.type el i J hu U Y A n cap olds hold (a.eval x) m vs hsrc hg (by omega) hfb;have hgc:=grownCap_ge w (n+m) cap el;have hgm:=grownCap_le_maxLen w (n+m) cap el (by unfold maxLen;omega);generalize grownCap w (n+m) cap el=Gc at hrun hgc hgm;have cs:=csold.append hcs;have hnl:=hsrc.newsLen;obtain⟨φ',p1,p2,p3,p4⟩:=hrep.wnew hnx (Mh w _) (b:=⟨el,pl (oldA++src)⟩) (ob:=.cells ((olds++vs).toArray++lq J.cells (Gc-(n+m))) el (0,0)) (by
  obtain⟨M,q2⟩:=nK (oldA++src);refine qa q2 (by rw[M,<-cs.1];simp) λj q hq=>?_
  rw[M] at hq;have hj:j<(olds++vs).length:=by rw[cs.1];exact (bl.1 hq).1
  refine ⟨cs.2.1 q (ba hq),_,?_,cs.2.2 j q _ hq (aB hj)⟩;rw[Array.getElem?_append_left (by simpa using hj),km,aB hj]) del (je [(nx,⟨el,pl (oldA++src)⟩)]) (by simp[je]) (λj hj hne=>by
   simp only[je];rw[ay];intro hb;exact hne (aw hb).symm)
 have hexec:(execOp a.eval o).run P w= .ok (.value (.slice (af ⟨w.heap.size,0,ah⟩) (n+m) Gc)) (w.drew.alloc (.cells ((olds++vs).toArray++lq J.cells (Gc-(n+m))) el)):=by
  unfold execOp;rw[ho];simp only[resolve,invoke,builtin,eH,oL,cM,List.map_toArray,gk,List.map_nil,hsl,hrun]
 unfold Ho;rw[hexec];refine ⟨_,φ',rfl,p2,p3,p4,.row p1 hgc hgm ⟨el,?_⟩⟩;have:=(Mh w (.cells ((olds++vs).toArray++lq J.cells (Gc-(n+m))) el (0,0))).at_;unfold rL;rw[this];have hzs:=HU Z hzl (Gc-(n+m));have e1:(n+m)*i.size+(Gc-(n+m))*i.size=Gc*i.size:=by rw[<- Nv];congr 1;omega
 simp only[Array.size_append,s8,bu,hol,hnl,hzs];congr 2;rw[<- e1,Nv]
theorem amz {t u el el':TypeId} {s x:Operand} {sz bytes:Nat} {z:List Value} (U:o.op= .call {callee:=.builtin .append,args:=#[s,x],argTypes:=#[t,u]}) (hu:P.underlying t=af (.slice el)) (hu':P.underlying u=af (.slice el')) (hs:fw P el=af sz) (hb:Fe P el=af bytes) (hz:sT P el=af z) (hzl:z.length=sz) (hsz:sz≠0)
 (I:eQ (.app el sz bytes s x) e h nx=af R):gL P o e.get h.get R.eff:=by
 obtain⟨i,Y,i2⟩:=Nh hb;have i3:i.size=sz:=by unfold fw at hs;rw[Y] at hs;simpa using hs
 subst i2;subst i3;simp only[eQ] at I;split at I
 .rename_i bv y hsv M;split at I
  .rename_i src m rd hrow;have common:∀ {φ:PM} {E:Nat->Prop} {h':HF} {w:World} {a:Act},(∀ i∈rd,h' i=h.get i)->V0 φ E h' w a e o->qY φ E h' w->∃ vs,Src P i.size u (a.eval x) m vs w/\Cs φ (tot E φ h') w src vs:=
    λhrd hp hrep=>adu hrow hrd hrep (hp x _ (by rw[U];simp[Op.operands,eR]) M) hu'
   have exec:∀ {w w':World} {a:Act} {v:Value},(Builtin.append_ #[t,u] o.type #[a.eval s,a.eval x]).run P w= .ok v w'->(execOp a.eval o).run P w= .ok (.value v) w':=by
    intro w w' a v hrun;unfold execOp;rw[U];simp[resolve,invoke,builtin,hrun]
   split at I
   .rename_i id sz' n;split at I
    .rename_i blk hblk;split at I
     .rename_i hc;simp only[av,cZ,ey] at hc;obtain⟨⟨⟨⟨⟨rfl,hmem⟩,hcells⟩,hlen⟩,hty⟩,hroom⟩:=hc;have hlen:=a8 hlen;rw[BC.len_toMx hcells] at hlen;obtain⟨r1,r2⟩:=Ia hroom;simp only[ak] at I;subst I;subst hty;intro φ E h' w a h1 h2 h3 hrep h5;have hp:V0 φ E h' w a e o:=λx y M hy=>tI hrep h3 M hy
      have hb':h' id=af blk:=by rw[h1 id (by simp[Cb.eff])];exact hblk
      obtain⟨vs,hsrc,hcs⟩:=common (λi hi=>h1 i (by simp[Cb.eff,hi])) hp hrep;have hpd:=hp s _ (by rw[U];simp[Op.operands,eR]) hsv;have hnx:φ nx=ah:=h5 nx (by simp[Cb.eff]);have hwv:=hp s _ (by rw[U];simp[Op.operands,eR]) hsv;generalize hzv:a.eval s=pv at hpd;cases hpd with
      |@row _ _ _ cap k hφ hn hcap hsh=>
       obtain⟨arr,g1,g2,g3⟩:=hrep.cs hb' hφ hcells;have hne:nx≠id:=λe=>by rw[e,hφ] at hnx;cases hnx
       have harr:arr.size=cap*i.size:=by
        obtain⟨ty,hty⟩:=hsh;unfold rL at hty;rw[g1] at hty;simp at hty;exact hty.2
       have hnl:=hsrc.newsLen;have hnn:n*i.size<=arr.size:=by omega
       have csnew:Cs φ (tot E φ h') w (blk.c.toMx.take (n*i.size)++src) (arr.toList.take (n*i.size)++vs):=by
        have:=(g2.take (n*i.size)).append hcs
        rwa [List.take_take,sD hlen] at this
       have hnw1:je [(nx,⟨blk.ty,pl (blk.c.toMx.take (n*i.size)++src)⟩)] nx=af ⟨blk.ty,pl (blk.c.toMx.take (n*i.size)++src)⟩:=by simp[je]
       have hnw2:je [(nx,⟨blk.ty,pl (blk.c.toMx.take (n*i.size)++src)⟩)] id=ah:=by
        simp only[je];rw[ay];intro hb;exact hne (aw hb)
       by_cases hfit:n+m<=cap
       ·
        have hend:n*i.size+vs.length<=arr.size:=by
         rw[hnl,harr,<-Nv];exact cG _ hfit
        have hst:=run_storeCells_at (P:=P) k (n*i.size) blk.ty vs 0 arr w g1 (by omega) hsrc.one;simp only[dl] at hst
        let arr':Array Value:=(arr.toList.take (n*i.size)++vs++arr.toList.drop (n*i.size+vs.length)).toArray
        have hsize:arr'.size=arr.size:=by simp only[arr',s8,bu,bE,mB,ir];omega
        have hrun:(Builtin.append_ #[t,u] o.type #[a.eval s,a.eval x]).run P w= .ok (.slice (af ⟨k,0,ah⟩) (n+m) cap) (w.setRow k arr'):=by
         rw[hzv];rcases hsrc.kind with ⟨e',hk⟩|hk<;>simp[Builtin.append_,run_underlying hu,run_underlying hk,sizeOf,typeInfo,Y,hsrc.len,hfit,hsrc.cells,kX,hst,arr']
        obtain⟨φ',p1,p2,p3,p4⟩:=hrep.wren hb' hφ hnx (Fk.setRow g1 hsize) (b':=⟨blk.ty,pl (blk.c.toMx.take (n*i.size)++src)⟩) (by
         obtain⟨q1,q2⟩:=nK (blk.c.toMx.take (n*i.size)++src);refine qa q2 (by rw[q1,<-csnew.1,hsize];simp;omega) λj q hq=>?_
         rw[q1] at hq;have hj:j<(arr.toList.take (n*i.size)++vs).length:=by rw[csnew.1];exact (bl.1 hq).1
         refine ⟨csnew.2.1 q (ba hq),_,?_,csnew.2.2 j q _ hq (aB hj)⟩;simp only[arr',km];rw[bO hj,aB hj]) _ hnw1 hnw2
        unfold Ho;rw[exec hrun];refine ⟨_,φ',rfl,p2,p3,p4,.row p1 hfit hcap ⟨blk.ty,?_⟩⟩;unfold rL;rw[setRow_heap w k arr arr' blk.ty (0,0) g1];simp[hsize,harr]
       ·
        have hold:(KW i.size n (.slice (af ⟨k,0,ah⟩) n cap)).run P w.drew= .ok (arr.toList.take (n*i.size)).toArray w.drew:=by
         refine run_firstCells_some w.drew i.size n _ n cap _ (by simp;omega) λj v hv=>?_
         rw[cX] at hv;split at hv
         .rw[cK] at hv;rw[kX,bN];have hcl:w.cell? ⟨k,j,ah⟩=af v:=by simp[Nt,g1,hv]
          simpa using hcl
         .cases hv
        exact Sv U hu Y hz hzl hrep hnx hzv hold (by
         have:=g2.take (n*i.size)
         rwa [List.take_take,sD hlen] at this) (by simp;omega) hsrc hcs (by omega) r1 r2 [id] (λj hj=>by simp at hj;subst hj;exact λe=>hne e.symm)
     .cases I
    .cases I
   .split at I
    .rename_i hc;simp only[av] at hc;obtain⟨J,hroom⟩:=hc;obtain⟨r1,r2⟩:=Ia hroom;have hbase:∀ {φ:PM} {O:Nat->Prop} {w:World} {v:Value},cW φ O w bv v->∃ A,v= .slice A 0 0:=by
      intro φ O w v hr;unfold IH at J;split at J
      .cases hr;exact⟨_,rfl⟩
      .rename_i q;cases fy hr;unfold Ae at J;split at J
       .exact⟨_,rfl⟩
       .cases J
      .cases J
     split at I
     .rename_i hm;have hm:m=0:=by simpa using hm
      subst hm;simp only[ak] at I;subst I;refine gL.reads λφ E h' w a hrd hp hrep=>?_
      obtain⟨vs,hsrc,hcs⟩:=common hrd hp hrep;have hr:=hp s _ (by rw[U];simp[Op.operands,eR]) hsv;obtain⟨A,hA⟩:=hbase hr;refine ⟨a.eval s,exec ?_,hr⟩;rw[hA];have hvs:vs=[]:=by have:=hsrc.newsLen;simpa using this
      have Z:=hsrc.cells;rw[hvs] at Z;rcases hsrc.kind with ⟨e',hk⟩|hk<;>cases A<;>simp[Builtin.append_,run_underlying hu,run_underlying hk,sizeOf,typeInfo,Y,hsrc.len,Z,storeCells]
     .rename_i hm;have hm:m≠0:=by simpa using hm
      simp only[ak] at I;subst I;intro φ E h' w a h1 h2 h3 hrep h5;have hp:V0 φ E h' w a e o:=λx y M hy=>tI hrep h3 M hy
      obtain⟨vs,hsrc,hcs⟩:=common (λi hi=>h1 i hi) hp hrep;obtain⟨A,hA⟩:=hbase (hp s _ (by rw[U];simp[Op.operands,eR]) hsv);have hold:(KW i.size 0 (.slice A 0 0)).run P w.drew= .ok ([]:List Value).toArray w.drew:=by
       cases A with
       |none=>exact run_firstCells_none w.drew i.size 0 0 0
       |some ad=>exact run_firstCells_some w.drew i.size 0 ad 0 0 [] (by simp) (by intro j v hv;simp at hv)
      have:=Sv (nx:=nx) (n:=0) (cap:=0) (olds:=[]) (oldA:=[]) U hu Y hz hzl hrep (h5 nx (by simp[Cb.eff])) hA hold ⟨rfl,(by intro x M;cases M),(by intro j x v M;simp at M)⟩ (by simp) hsrc hcs (by omega) (by omega) (by simpa using r2) [] (by simp);simpa[Cb.eff] using this
    .cases I
  .cases I
 .cases I
end
section
variable {P:Program} {o:Oper} {e:zR} {h:nV} {nx:Nat} {R:Cb}
theorem amn {t:TypeId} (M:o.op= .makeMap t ah) (I:eQ .mkm e h nx=af R):gL P o e.get h.get R.eff:=by
 simp only[eQ,ak] at I;subst I;refine gL.makes λφ E h' w a _ _ _=>?_
 refine ⟨.map (af w.heap.size),{w with heap:=w.heap.push (.map #[] 0)},.map #[] 0,?_,qZ w _,⟨#[],0,rfl,rfl,by intro j x J;simp at J⟩,λφ' O hφ=>.mp hφ⟩;unfold execOp;rw[M];simp[Instr.makeMap,newObj,ny]
theorem amh {t:TypeId} {x:Operand} (J:o.op= .range t x) (hu:P.underlying t=af .string) (I:eQ (.rng x) e h nx=af R):gL P o e.get h.get R.eff:=by
 simp only[eQ] at I;split at I
 .rename_i s M;simp only[ak] at I;subst I;refine gL.makes λφ E h' w a _ hp _=>?_
  have hr:=fy (hp x _ (by rw[J];simp[Op.operands]) M);refine ⟨.pointer (af ⟨w.heap.size,0,ah⟩),{w with heap:=w.heap.push (.stringIter s 0)},.stringIter s 0,?_,qZ w _,rfl,λφ' O hφ=>.ptr hφ⟩;unfold execOp;rw[J];simp[Instr.range,run_underlying hu,hr,newObj,ny]
 .cases I
theorem HW {w:World} {k:Nat} {ob ob':Obj} (hk:w.heap[k]? =af ob) (h1:∀ c t f,ob≠ .cells c t f) (h2:∀ c t f,ob'≠ .cells c t f):Fk w {w with heap:=w.heap.setIfInBounds k ob'} k ob':=by
 have hlt:k<w.heap.size:=(cF.1 hk).1;have hat:(w.heap.setIfInBounds k ob')[k]? =af ob':=by simp[hlt]
 have hot:∀ j,j≠k->(w.heap.setIfInBounds k ob')[j]? =w.heap[j]? :=λj hj=>pO (λe=>hj e.symm)
 refine ⟨rfl,rfl,rfl,by simp,hat,hot,λj=>?_⟩;unfold rL;by_cases hj:j=k
 .subst hj;simp only[hat,hk];cases ob<;>cases ob'<;>first|rfl|exact cV rfl (h1 _ _ _)|exact cV rfl (h2 _ _ _)
 .simp only[hot j hj]
theorem amj {x:Operand} (Z:o.op= .next x ai) (I:eQ (.nxt x) e h nx=af R):gL P o e.get h.get R.eff:=by
 simp only[eQ] at I;split at I
 .rename_i id hx;split at I
  .rename_i ty s p hid;split at I
   .rename_i b hb;split at I
    .rename_i hlt;have hlt:=a8 hlt;simp only[ak] at I;subst I;refine gL.writes hid λφ E h' w a hrd M hp hrep=>?_
     have hr:=hp x _ (by rw[Z];simp[Op.operands]) hx;generalize hz:a.eval x=z at hr;cases hr with
     |@ptr _ _ k hφ=>
      obtain⟨k',Y,_,ob,U,q3⟩:=hrep.at_ id _ M;rw[hφ] at Y;cases Y;have q3:ob= .stringIter s p:=q3;subst q3;have hps:p<s.size:=by
       have:=(bl.1 hb).1;simpa using this
      have hget:s.get! p=b:=by
       have:s.data[p]? =af b:=by rw[<- cK];exact hb
       have hpd:p<s.data.size:=(cF.1 this).1;have h2:s.data[p]! =s.data[p]:=getElem!_pos s.data p hpd;rw[ib hpd] at this;simp only[ByteArray.get!,h2];exact jR this
      have hdec:Utf8.decode s p=(b.toNat,1):=by
       unfold Utf8.decode;simp only[dl,hget];rw[aF (by omega)]
      refine ⟨.value (.tuple #[.bool ai,.int .i64 p,.int .i32 b.toNat]),_,k,.stringIter s (p+1),?_,hφ,HW U (by simp) (by simp),rfl,_,.inl rfl,?_⟩
      .unfold execOp;rw[Z];simp[Instr.next,hz,getObj,ny,U,hps,hdec,setObj,goInt]
      .refine cW.tup (vs:=[.bool ai,.int .i64 p,.int .i32 b.toNat]) rfl λj y v J hv=>?_
       rcases j with _|_|_|j<;>simp at J hv
       .subst J;subst hv;exact .f (.raw _)
       .subst J;subst hv;exact .f (.raw _)
       .subst J;subst hv;exact .f (.raw _)
    .cases I
   .rename_i hb;simp only[ak] at I;subst I;refine gL.writes hid λφ E h' w a hrd M hp hrep=>?_
    have hr:=hp x _ (by rw[Z];simp[Op.operands]) hx;generalize hz:a.eval x=z at hr;cases hr with
    |@ptr _ _ k hφ=>
     obtain⟨k',Y,_,ob,U,q3⟩:=hrep.at_ id _ M;rw[hφ] at Y;cases Y;have q3:ob= .stringIter s p:=q3;subst q3;have hps:¬p<s.size:=by
      have:=List.getElem?_eq_none_iff.1 hb;have e:s.data.toList.length=s.size:=by simp
      omega
     refine ⟨.value (.tuple #[.bool aj]),w,k,.stringIter s p,?_,hφ,⟨rfl,rfl,rfl,rfl,U,λ_ _=>rfl,λ_=>rfl⟩,rfl,_,.inl rfl,?_⟩
     .unfold execOp;rw[Z];simp[Instr.next,hz,getObj,ny,U,hps]
     .refine cW.tup (vs:=[.bool aj]) rfl λj y v J hv=>?_
      rcases j with _|j<;>simp at J hv;subst J;subst hv;exact .f (.raw _)
  .cases I
 .cases I
theorem zN {a b:ByteArray}:rW a b=ai↔a=b:=by
 unfold rW;constructor
 .intro h;have h1:a.data.toList=b.data.toList:=by simpa using h
  cases a;cases b;congr 1;exact KX h1
 .rintro rfl;simp
theorem Fd (a b:ByteArray):(a==b)=rW a b:=by
 have h1:(a==b)=(a.data==b.data):=rfl;rw[h1,Bool.eq_iff_iff,zN,cZ];constructor
 .intro h;cases a;cases b;congr 1
 .rintro rfl;rfl
def kd (str:Bool) (d:TypeDesc):Prop:=if str then d= .string else ∃ k,d= .int k
theorem Cv {str:Bool} {d:TypeDesc} (hd:kd str d) {k k':Value} (hk:yX str k=ai) {b:Bool} (hb:uT .eql k k'=af (.bool b)):Instr.sameNow d k k'=af b:=by
 unfold kd at hd;cases str with
 |true=>
  simp only[bG] at hd;subst hd;cases k<;>simp[yX] at hk;cases k'<;>simp only[uT] at hb<;>try (simp at hb;done)
  simp only[ak,Cd] at hb;simp[Instr.sameNow,Fd,hb]
 |false=>
  simp only[cD,eA] at hd;obtain⟨q,rfl⟩:=hd;cases k<;>simp[yX] at hk;cases k'<;>simp only[uT] at hb<;>try (simp at hb;done)
  split at hb
  .rename_i hkk;have hkk':=eq_of_beq hkk;subst hkk';simp only[ak,Cd] at hb;simp[Instr.sameNow,<-hb]
  .cases hb
theorem Rk {str:Bool} {d:TypeDesc} (hd:kd str d) {k:Value} (hk:yX str k=ai):∀ (es:List (Value×AV)) (ents:List MapEntry) (i:Nat),ents.map (·.key)=es.map (·.1)->∀ r,tw k es=af r->
 (r=ah/\jw d k ents i=af ah)\/∃ (j:Nat) (v:AV) (m:MapEntry) (k':Value),r=af v/\es[j]? =af (k',v)/\ents[j]? =af m/\jw d k ents i=af (af (i+j,m.val))/\uT .eql k k'=af (.bool ai)
 |[],ents,i,he,r,h=>by
  cases ents with
  |nil=>simp only[tw,ak] at h;exact .inl ⟨h.symm,rfl⟩
  |cons _ _=>simp at he
 |(k',v)::es,ents,i,he,r,h=>by
  cases ents with
  |nil=>simp at he
  |cons m ents=>
   simp only[gk,iO] at he;obtain⟨I,J⟩:=he;simp only[tw] at h;split at h
   .rename_i hb;simp only[ak] at h;refine .inr ⟨0,v,m,k',h.symm,rfl,rfl,?_,hb⟩;simp only[jw];rw[I,Cv hd hk hb];rfl
   .rename_i hb;have hs:=Cv hd hk hb;rcases Rk hd hk es ents (i+1) J r h with ⟨h1,h2⟩|⟨j,M,m',k'',h1,h2,Z,Y,U⟩
    .refine .inl ⟨h1,?_⟩;simp only[jw];rw[I,hs];exact h2
    .refine .inr ⟨j+1,M,m',k'',h1,by simpa using h2,by simpa using Z,?_,U⟩;simp only[jw];rw[I,hs];show jw d k ents (i+1)=_;rw[Y,show i+1+j=i+(j+1) from by omega]
   .cases h
theorem Cw {I:TypeId} {str:Bool} {d:TypeDesc} (hu:P.underlying I=af d) (hd:kd str d) (b:Bool) (v:Value) (w:World):(Instr.checkKey b 10000 I v).run P w= .ok () w:=by
 have key:∀ n,(Instr.checkKey b (n+1) I v).run P w= .ok () w:=λn=>by
  unfold kd at hd;cases str with
  |true=>simp only[bG] at hd;subst hd;simp[Instr.checkKey,run_underlying hu]
  |false=>simp only[cD,eA] at hd;obtain⟨q,rfl⟩:=hd;simp[Instr.checkKey,run_underlying hu]
 exact key 9999
theorem ahf {t kt el:TypeId} {x k:Operand} {str:Bool} {d:TypeDesc} {z:Value} (U:o.op= .lookup t x k aj) (hu:P.underlying t=af (.map kt el)) (hk:P.underlying kt=af d) (hd:kd str d) (M:(P.info? el).bind (·.zero)=af z) (I:eQ (.lku str z x k) e h nx=af R):gL P o e.get h.get R.eff:=by
 simp only[eQ] at I;split at I
 .rename_i id key hx hkx;split at I
  .rename_i ty es hid;split at I
   .rename_i hko;have fin:∀ val:AV,(∀ (φ:PM) (E:Nat->Prop) (h':HF) (w:World) (a:Act),h' id=af ⟨ty,.mp es⟩->V0 φ E h' w a e o->qY φ E h' w->∃ v,(execOp a.eval o).run P w= .ok (.value v) w/\cW φ (tot E φ h') w val v)->R=⟨val,[id],[],[],[]⟩->gL P o e.get h.get R.eff:=by
     rintro val hv rfl;exact gL.reads λφ E h' w a hrd hp hrep=>hv φ E h' w a (by rw[hrd id (by simp)];exact hid) hp hrep
    have zrun:∀ w:World,(zeroValue el).run P w= .ok z w:=λw=>by
     cases hi:P.info? el with
     |none=>rw[hi] at M;cases M
     |some i=>rw[hi] at M;simp only[aI] at M;simp[zeroValue,typeInfo,hi,M]
    have main:∀ r,tw key es=af r->∀ (φ:PM) (E:Nat->Prop) (h':HF) (w:World) (a:Act),h' id=af ⟨ty,.mp es⟩->V0 φ E h' w a e o->qY φ E h' w->
     ∃ v,(execOp a.eval o).run P w= .ok (.value v) w/\cW φ (tot E φ h') w (match r with|some v=>v|none=>raw z) v:=by
     intro r hr φ E h' w a Y hp hrep;have hrx:=hp x _ (by rw[U];simp[Op.operands]) hx;have hrk:=fy (hp k _ (by rw[U];simp[Op.operands]) hkx);generalize J:a.eval x=zz at hrx;cases hrx with
     |@mp _ b hφ=>
      obtain⟨k',q1,_,ob,Z,q3⟩:=hrep.at_ id _ Y;rw[hφ] at q1;cases q1;obtain⟨ents,clock,rfl,q4,q5⟩:=q3;have hck:=Cw (P:=P) hk hd ents.isEmpty key w;rcases Rk hd hko es ents.toList 0 q4 r hr with ⟨h1,h2⟩|⟨j,v,m,k',h1,h2,h3,h4,_⟩
      .subst h1;refine ⟨z,?_,.f (.raw z)⟩;unfold execOp;rw[U];simp[Instr.lookup,run_underlying hu,J,hrk,getObj,ny,Z,hck,Instr.findKey,run_underlying hk,h2,zrun]
      .subst h1;obtain⟨m',h6,h7⟩:=q5 j _ h2;rw[cK] at h3;rw[h3] at h6;cases h6;refine ⟨m.val,?_,h7⟩;unfold execOp;rw[U];simp[Instr.lookup,run_underlying hu,J,hrk,getObj,ny,Z,hck,Instr.findKey,run_underlying hk,h4]
    split at I
    .rename_i v hf;simp only[ak] at I;exact fin v (main _ hf) I.symm
    .rename_i hf;simp only[ak] at I;exact fin (raw z) (main _ hf) I.symm
    .cases I
   .cases I
  .cases I
 .cases I
theorem Ws {str:Bool} {d:TypeDesc} (hd:kd str d) {k:Value} (hk:yX str k=ai) {v:AV}:∀ (es es':List (Value×AV)) (ents:List MapEntry) (i:Nat),ents.map (·.key)=es.map (·.1)->yV k v es=af es'->
 (jw d k ents i=af ah/\es'=es++[(k,v)])\/∃ (j:Nat) (m:MapEntry) (k':Value) (J:AV),es[j]? =af (k',J)/\ents[j]? =af m/\jw d k ents i=af (af (i+j,m.val))/\uT .eql k k'=af (.bool ai)/\es'=es.set j (k,v)
 |[],es',ents,i,he,h=>by
  cases ents with
  |nil=>simp only[yV,ak] at h;exact .inl ⟨rfl,by simp[h]⟩
  |cons _ _=>simp at he
 |(k',J)::es,es',ents,i,he,h=>by
  cases ents with
  |nil=>simp at he
  |cons m ents=>
   simp only[gk,iO] at he;obtain⟨I,M⟩:=he;simp only[yV] at h;split at h
   .rename_i hb;simp only[ak] at h;refine .inr ⟨0,m,k',J,rfl,rfl,?_,hb,by simp[h]⟩;simp only[jw];rw[I,Cv hd hk hb];rfl
   .rename_i hb;have hs:=Cv hd hk hb;split at h
    .rename_i es2 hes2;simp only[ak] at h;subst h;rcases Ws hd hk es es2 ents (i+1) M hes2 with ⟨h1,h2⟩|⟨j,m',k'',v'',h1,h2,Z,Y,U⟩
     .refine .inl ⟨?_,by simp[h2]⟩;simp only[jw];rw[I,hs];exact h1
     .refine .inr ⟨j+1,m',k'',v'',by simpa using h1,by simpa using h2,?_,Y,by simp[U]⟩;simp only[jw];rw[I,hs];show jw d k ents (i+1)=_;rw[Z,show i+1+j=i+(j+1) from by omega]
    .cases h
   .cases h
theorem abf {str:Bool} {k k':Value} (hk:yX str k=ai) (hb:uT .eql k k'=af (.bool ai)):Instr.sameBits 10000 k' k=ai/\k'=k:=by
 cases str with
 |true=>
  cases k<;>simp[yX] at hk;cases k'<;>simp only[uT] at hb<;>try (simp at hb;done)
  simp only[ak,Cd] at hb;have:=zN.1 hb;subst this;exact⟨by simp[Instr.sameBits,Fd,hb],rfl⟩
 |false=>
  cases k<;>simp[yX] at hk;cases k'<;>simp only[uT] at hb<;>try (simp at hb;done)
  split at hb
  .rename_i hkk;have hkk':=eq_of_beq hkk;subst hkk';simp only[ak,Cd,cZ] at hb;subst hb;exact⟨by simp[Instr.sameBits],rfl⟩
  .cases hb
theorem ahe {t kt el:TypeId} {x k y:Operand} {str:Bool} {d:TypeDesc} (M:o.op= .mapUpdate t x k y) (hu:P.underlying t=af (.map kt el)) (hk:P.underlying kt=af d) (hd:kd str d) (I:eQ (.mup str x k y) e h nx=af R):gL P o e.get h.get R.eff:=by
 simp only[eQ] at I;split at I
 .rename_i id key v hx hkx hy;split at I
  .rename_i ty es hid;split at I
   .rename_i hko;split at I
    .rename_i es' hput;simp only[ak] at I;subst I;refine gL.writes hid λφ E h' w a hrd Z hp hrep=>?_
     have hrx:=hp x _ (by rw[M];simp[Op.operands]) hx;have hrk:=fy (hp k _ (by rw[M];simp[Op.operands]) hkx);have hry:=hp y _ (by rw[M];simp[Op.operands]) hy;generalize J:a.eval x=zz at hrx;cases hrx with
     |@mp _ b hφ=>
      obtain⟨k',q1,_,ob,U,q3⟩:=hrep.at_ id _ Z;rw[hφ] at q1;cases q1;obtain⟨ents,clock,rfl,q4,q5⟩:=q3;have hck:=Cw (P:=P) hk hd aj key w;have hlen:ents.size=es.length:=by have:=gI al q4;simpa using this
      rcases Ws hd hko es es' ents.toList 0 q4 hput with ⟨h1,rfl⟩|⟨j,m,k',v',h1,h2,h3,h4,rfl⟩
      .refine ⟨.skip,_,b,.map (ents.push {key,val:=a.eval y,born:=clock}) (clock+1),?_,hφ,HW U (by simp) (by simp),⟨_,_,rfl,by simp[q4],λj q hq=>?_⟩,undef,.inr ⟨rfl,rfl⟩,.f (.raw _)⟩
       .unfold execOp;rw[M];simp[Instr.mapUpdate,run_underlying hu,J,hrk,getObj,ny,U,hck,Instr.findKey,run_underlying hk,h1,setObj]
       .rcases bZ j es.length with hj|hj
        .rw[bO hj] at hq;obtain⟨m,g1,g2⟩:=q5 j q hq;exact⟨m,by rw[Array.getElem?_push,ay (by omega)];exact g1,g2⟩
        .rw[b7 hj] at hq;have Y:j-es.length=0:=by
          rcases KV (j-es.length) with h0|h0
          .exact h0
          .rw[bR (by simp;omega)] at hq;cases hq
         rw[Y] at hq;simp at hq;subst hq;exact⟨_,by rw[Array.getElem?_push,aF (by omega)],hry⟩
      .obtain⟨s1,s2⟩:=abf hko h4;subst s2;rw[cK] at h2;rw[bN] at h3;have hjl:j<ents.size:=(cF.1 h2).1;have hmk:m.key=k':=by
        have e1:(ents.toList.map (·.key))[j]? =af m.key:=by rw[bc,cK,h2];rfl
        rw[q4,bc,h1] at e1;simpa using e1.symm
       refine ⟨.skip,_,b,.map (ents.modify j λe=>{e with key:=k',val:=a.eval y}) clock,?_,hφ,HW U (by simp) (by simp),⟨_,_,rfl,?_,λi q hq=>?_⟩,undef,.inr ⟨rfl,rfl⟩,.f (.raw _)⟩
       .unfold execOp;rw[M];simp[Instr.mapUpdate,run_underlying hu,J,hrk,getObj,ny,U,hck,Instr.findKey,run_underlying hk,h3,setObj,h2,hmk,Instr.keyThatStays,s1]
       .apply List.ext_getElem?;intro i;simp only[bc,cK,oN,Array.getElem?_modify];have e2:∀ i:Nat,(ents[i]?).map (λm:MapEntry=>m.key)=(es[i]?).map (λp:Value×AV=>p.1):=λi=>by
         have:=gI (λl=>l[i]?) q4;simpa[bc,cK] using this
        by_cases hij:j=i
        .subst hij;simp[h2,show j<es.length by omega]
        .simp only[hij,eA];exact e2 i
       .rw[oN] at hq;rw[Array.getElem?_modify];by_cases hij:j=i
        .subst hij;simp[show j<es.length by omega] at hq;subst hq;exact⟨{m with key:=k',val:=a.eval y},by simp[h2],hry⟩
        .simp only[hij,eA] at hq ⊢;exact q5 i q hq
    .cases I
   .cases I
  .cases I
 .cases I
end
section
variable {P:Program} {o:Oper} {e:zR} {h:nV} {nx:Nat} {R:Cb}
theorem Qi {t:TypeId} {d:TypeDesc} (hu:P.underlying t=af d) (hd:(match d with|.int _=>ai|.bool=>ai|.string=>ai|_=>aj)=ai) (cs:Array Value) (j:Nat) (v:Value) (hv:cs[j]? =af v) (w:World):(part t cs j).run P w= .ok v w:=by
 unfold part;simp only[isAgg,eH,run_underlying hu,cM];cases d<;>simp at hd<;>simp[hv]
theorem Yr {t:TypeId} {d:TypeDesc} (hu:P.underlying t=af d) (hd:(match d with|.int _=>ai|.bool=>ai|.string=>ai|_=>aj)=ai) {x y:FV} {b:Bool} (hxy:xI d x y=af b) {u v:Value} (M:x= .raw u) (J:y= .raw v) (n:Nat) (w:World):(Op.equalIn (n+1) t u v).run P w= .ok b w:=by
 subst M;subst J;cases d<;>simp at hd<;>cases u<;>cases v<;>simp only[xI] at hxy<;>first|(cases hxy;done)|skip
 .simp only[ak] at hxy;subst hxy;simp[Op.equalIn,run_underlying hu]
 .split at hxy
  .rename_i hk;have I:=eq_of_beq hk;subst I;simp only[ak] at hxy;subst hxy;simp[Op.equalIn,run_underlying hu]
  .cases hxy
 .simp only[ak] at hxy;subst hxy;simp[Op.equalIn,run_underlying hu,Fd]
abbrev Jp (n:Nat) (xs I:Array Value) (f:Field) (_:Option Bool×Unit):Sem (ForInStep (Option Bool×Unit)):=
 if f.name≠ "_" then do
  let a←part f.type xs f.offset
  let b←part f.type I f.offset
  let c←Op.equalIn (n+1) f.type a b
  if (!c)=ai then pure (ForInStep.done (af aj,())) else pure (ForInStep.yield (ah,()))
 else pure (ForInStep.yield (ah,()))
theorem MP (n:Nat) (w:World) (xs I:Array Value):∀ (fs:List Field) (ds:List TypeDesc) (a b:List FV) (k:Nat) (r:Bool),rO P k fs=af ds->
 (∀ (j:Nat) x u,a[j]? =af x->xs[k+j]? =af u->x= .raw u\/∀ v,x≠ .raw v)->(∀ (j:Nat) x u,b[j]? =af x->I[k+j]? =af u->x= .raw u\/∀ v,x≠ .raw v)->(∀ (j:Nat),j<a.length->k+j<xs.size)->(∀ (j:Nat),j<b.length->k+j<I.size)->oX ds a b=af r->
 (forIn fs (ah,()) (Jp n xs I)).run P w= .ok (if r then (ah,()) else (af aj,())) w
 |[],ds,a,b,k,r,hp,_,_,_,_,he=>by
  simp only[rO,ak] at hp;subst hp;cases a<;>cases b<;>simp[oX] at he;subst he;simp
 |f::fs,ds,a,b,k,r,hp,Z,hb,hla,hlb,he=>by
  simp only[rO] at hp;split at hp
  .rename_i d ds' hu Y;split at hp
   .rename_i hc;simp only[av,bne_iff_ne,ne_eq,cZ] at hc;obtain⟨⟨hn,hof⟩,hd⟩:=hc;simp only[ak] at hp;subst hp;cases a with
    |nil=>cases b<;>simp[oX] at he
    |cons x a=>
     cases b with
     |nil=>simp[oX] at he
     |cons y b=>
      simp only[oX] at he;have U:k<xs.size:=by have:=hla 0 (by simp);omega
      have M:k<I.size:=by have:=hlb 0 (by simp);omega
      have hraw:∀ (z:FV) (q:Value),(z= .raw q\/∀ v,z≠ .raw v)->(∃ v,z= .raw v)->z= .raw q:=by
       rintro z q (h|h) ⟨v,hv⟩
       .exact h
       .exact cV hv (h v)
      have hxr:∀ J,xI d x y=af J->x= .raw xs[k]/\y= .raw I[k]:=by
       intro J hbb;have hrr:(∃ v,x= .raw v)/\∃ v,y= .raw v:=by
        unfold xI at hbb;split at hbb
        .exact⟨⟨_,rfl⟩,⟨_,rfl⟩⟩
        .exact⟨⟨_,rfl⟩,⟨_,rfl⟩⟩
        .exact⟨⟨_,rfl⟩,⟨_,rfl⟩⟩
        .cases hbb
       exact⟨hraw x _ (Z 0 x _ rfl (by simp[U])) hrr.1,hraw y _ (hb 0 y _ rfl (by simp[M])) hrr.2⟩
      have hstep:∀ J,xI d x y=af J->(Jp n xs I f (ah,())).run P w= .ok (if J then ForInStep.yield (ah,()) else ForInStep.done (af aj,())) w:=by
       intro J hbb;obtain⟨h1,h2⟩:=hxr J hbb;have p1:=Qi hu (by cases d<;>simp[Ih] at hd<;>rfl) xs k xs[k] (by simp[U]) w;have p2:=Qi hu (by cases d<;>simp[Ih] at hd<;>rfl) I k I[k] (by simp[M]) w;have p3:=Yr hu (by cases d<;>simp[Ih] at hd<;>rfl) hbb h1 h2 n w;unfold Jp;rw[aF hn,hof];simp only[eH,p1,p2,p3,cM];cases J<;>simp
      rw[List.forIn_cons];simp only[eH];split at he
      .rename_i hbb;rw[hstep ai hbb];simp only[cM,bG];exact MP n w xs I fs ds' a b (k+1) r Y (λj x u h1 h2=>Z (j+1) x u (by simpa using h1) (by rw[<- h2];congr 1;omega)) (λj x u h1 h2=>hb (j+1) x u (by simpa using h1) (by rw[<- h2];congr 1;omega))
        (λj hj=>by have:=hla (j+1) (by simpa using hj);omega) (λj hj=>by have:=hlb (j+1) (by simpa using hj);omega) he
      .rename_i hbb;rw[hstep aj hbb];simp only[ak] at he;subst he;simp
      .cases he
   .cases hp
  .cases hp
theorem Yq {t:TypeId} {fs:Array Field} (hu:P.underlying t=af (.struct fs)) (hs:P.stoodInHeld t=aj) {ds:List TypeDesc} (hp:rO P 0 fs.toList=af ds) (xs I:Array Value) {a b:List FV} {r:Bool}
 (J:∀ (j:Nat) x u,a[j]? =af x->xs[j]? =af u->x= .raw u\/∀ v,x≠ .raw v) (hb:∀ (j:Nat) x u,b[j]? =af x->I[j]? =af u->x= .raw u\/∀ v,x≠ .raw v) (hla:a.length=xs.size) (hlb:b.length=I.size) (he:oX ds a b=af r) (w:World):
 (Op.equal t (.agg xs) (.agg I)).run P w= .ok r w:=by
 have key:∀ n,(Op.equalIn (n+2) t (.agg xs) (.agg I)).run P w= .ok r w:=by
  intro n;rw[Op.equalIn];have h1:=MP (P:=P) n w xs I fs.toList ds a b 0 r hp (λj x u h1 h2=>J j x u h1 (by simpa using h2)) (λj x u h1 h2=>hb j x u h1 (by simpa using h2)) (λj hj=>by omega) (λj hj=>by omega) he;rw[Array.forIn_toList] at h1;simp only[eH,run_underlying hu,cM,program,ny,hs,cD,eA];have h2:(forIn fs (ah,()) (λf __s=>Jp n xs I f __s)).run P w= .ok (if r then (ah,()) else (af aj,())) w:=h1;unfold Jp at h2;rw[h2];cases r<;>simp
 exact key 9998
theorem Rp {t:TypeId} {fs:Array Field} (hu:P.underlying t=af (.struct fs)) {ds:List TypeDesc} (hp:rO P 0 fs.toList=af ds):P.eqGuardType P.depth t=aj:=by
 have key:∀ (fs:List Field) (k:Nat) (ds:List TypeDesc),rO P k fs=af ds→∀ d,(fs.any λf=>f.name != "_" &&P.eqGuardType (d+1) f.type)=aj:=by
  intro fs;induction fs with
  |nil=>intros;rfl
  |cons f fs M=>
   intro k ds hp d;simp only[rO] at hp;split at hp
   .rename_i U ds' I J;split at hp
    .rename_i hc;simp only[av] at hc;have:P.eqGuardType (d+1) f.type=aj:=by
      unfold Program.eqGuardType;rw[I];have:=hc.2;cases U<;>simp[Ih] at this<;>rfl
     simp only[List.any_cons,this,Bool.and_false,Bool.false_or];exact M (k+1) ds' J d
    .cases hp
   .cases hp
 unfold Program.depth Program.eqGuardType;rw[hu];simp only[];rw[← Array.any_toList];exact key fs.toList 0 ds hp _
theorem ahg {t t':TypeId} {op:BinOp} {neg:Bool} {x y:Operand} {fs:Array Field} {ds:List TypeDesc} (Y:o.op= .binOp op t x y t') (hop:op=if neg then .neq else .eql) (hu:P.underlying t=af (.struct fs)) (hs:P.stoodInHeld t=aj) (hp:rO P 0 fs.toList=af ds) (I:eQ (.eqs neg ds x y) e h nx=af R):gL P o e.get h.get R.eff:=by
 simp only[eQ] at I;split at I
 .rename_i a b J hy;split at I
  .rename_i r hr;rw[dy I];refine gL.reads λφ E h' w ac _ hpp _=>?_
   have h1:=hpp x _ (by rw[Y];simp[Op.operands]) J;have h2:=hpp y _ (by rw[Y];simp[Op.operands]) hy;generalize hzx:ac.eval x=zx at h1;generalize hzy:ac.eval y=zy at h2;have rawOr:∀ (l:List FV) (vs:List Value),(∀ (j:Nat) x v,l[j]? =af x->vs[j]? =af v->nh (tot E φ h') w x v)->∀ (j:Nat) x u,l[j]? =af x->vs.toArray[j]? =af u->x= .raw u\/∀ v,x≠ .raw v:=by
    intro l vs hr j x u J hu;have:=hr j x u J (by simpa using hu);cases this with
    |raw v=>exact .inl rfl
    |nil=>exact .inr (by simp)
    |sl=>exact .inr (by simp)
    |ptr=>exact .inr (by simp)
    |agg=>exact .inr (by simp)
   cases h1 with
   |f h1=>
    cases h1 with
    |agg _ vs hl hcl U=>
     cases h2 with
     |f h2=>
      cases h2 with
      |agg _ us Z hcl' M=>
       have heq:=Yq hu hs hp vs.toArray us.toArray (rawOr a vs U) (rawOr b us M) (by simp[hl]) (by simp[Z]) hr w;refine ⟨_,?_,.f (.raw _)⟩;have hg:=Rp hu hp;unfold execOp;rw[Y];simp only[hzx,hzy];subst hop;cases neg<;>simp[eqGuard,program,ny,hg,binOp,heq]
  .cases I
 .cases I
end
theorem bind_some {α β:Type} {x:Option α} {f:α->Option β} {y:β} (h:x.bind f=af y):∃ a,x=af a/\f a=af y:=by
 cases x with
 |none=>cases h
 |some a=>exact⟨a,rfl,h⟩
theorem map_some {α β:Type} {x:Option α} {f:α->β} {y:β} (h:x.map f=af y):∃ a,x=af a/\f a=y:=by
 cases x with
 |none=>cases h
 |some a=>exact⟨a,rfl,by simpa using h⟩
theorem lX {c:Bool} {β:Type} {x:Option β} {y:β} (h:(if c then x else ah)=af y):c=ai/\x=af y:=by
 cases c with
 |true=>exact⟨rfl,by simpa using h⟩
 |false=>simp at h
theorem Ik {P:Program} {o:Oper} {e:zR} {h:nV} {nx:Nat} {s:Zd} {R:Cb} (hc:dk P o.op=af s) (J:eQ s e h nx=af R):gL P o e.get h.get R.eff:=by
 unfold dk at hc;split at hc
 .rename_i x I;simp only[ak] at hc;subst hc;exact amm (.inl I) J
 .rename_i x I;simp only[ak] at hc;subst hc;exact amm (.inr I) J
 .rename_i c a b I;simp only[ak] at hc;subst hc;exact aj8 I J
 .rename_i t I;obtain⟨z,h1,hc⟩:=bind_some hc;obtain⟨h2,hc⟩:=lX hc;simp only[ak] at hc;subst hc;exact afs I h1 h2 J
 .rename_i t x I;simp only[ak] at hc;subst hc;exact amy I J
 .rename_i t ps I;split at hc
  .rename_i fs hu;obtain⟨z,h1,hc⟩:=bind_some hc;obtain⟨h2,hc⟩:=lX hc;obtain⟨ps',M,rfl⟩:=map_some hc;simp only[av] at h2;exact Xy I h1 h2.1 M (.inl ⟨fs,hu,h2.2⟩) J
  .rename_i n el hu;obtain⟨z,h1,hc⟩:=bind_some hc;obtain⟨h2,hc⟩:=lX hc;obtain⟨ps',M,rfl⟩:=map_some hc;simp only[av] at h2;obtain⟨sz,U⟩:=iH.1 h2.2;exact Xy I h1 h2.1 M (.inr ⟨n,el,sz,hu,U⟩) J
  .cases hc
 .rename_i t n ps I;obtain⟨el,h1,hc⟩:=bind_some hc;obtain⟨z,h2,hc⟩:=bind_some hc;obtain⟨sz,M,hc⟩:=bind_some hc;obtain⟨U,hc⟩:=lX hc;obtain⟨ps',Z,rfl⟩:=map_some hc;simp only[av,cZ,bne_iff_ne] at U;exact amx I (sx h1) h2 M U.1.1.1 U.1.1.2 U.2 (a8 U.1.2) Z J
 .rename_i t x I;obtain⟨sz,h1,hc⟩:=bind_some hc;obtain⟨ag,h2,rfl⟩:=map_some hc;exact ajb I h1 h2 J
 .rename_i t x v I;obtain⟨sz,h1,rfl⟩:=map_some hc;exact afr I h1 J
 .rename_i x I;simp only[ak] at hc;subst hc;exact aj9 I J
 .rename_i op t x y t' I;split at hc
  .simp only[ak] at hc;subst hc;exact ahi I J
  .simp only[ak] at hc;subst hc;exact ahi I J
  .rename_i hu;split at hc
   .simp only[ak] at hc;subst hc;exact ahh (neg:=aj) I rfl hu J
   .simp only[ak] at hc;subst hc;exact ahh (neg:=ai) I rfl hu J
   .cases hc
  .rename_i el hu;split at hc
   .simp only[ak] at hc;subst hc;exact Xx (neg:=aj) I rfl rfl hu J
   .simp only[ak] at hc;subst hc;exact Xx (neg:=ai) I rfl rfl hu J
   .cases hc
  .rename_i fs hu;obtain⟨ds,h1,hc⟩:=bind_some hc;unfold aa3 at h1;rw[hu] at h1;simp only[] at h1;split at h1
   .cases h1
   .rename_i hst;have hst:P.stoodInHeld t=aj:=by simpa using hst
    split at hc
    .simp only[ak] at hc;subst hc;exact ahg (neg:=aj) I rfl hu hst h1 J
    .simp only[ak] at hc;subst hc;exact ahg (neg:=ai) I rfl hu hst h1 J
    .cases hc
  .cases hc
 .rename_i t x I;simp only[ak] at hc;subst hc;exact amk I J
 .rename_i t x I;split at hc
  .simp only[ak] at hc;subst hc;exact aml I J
  .cases hc
 .rename_i s' d x I;split at hc
  .rename_i k k' h1 h2;simp only[ak] at hc;subst hc;exact ajh I h1 h2 J
  .cases hc
 .rename_i t l c I;obtain⟨el,h1,hc⟩:=bind_some hc;obtain⟨z,h2,hc⟩:=bind_some hc;obtain⟨sz,M,hc⟩:=bind_some hc;obtain⟨b,Z,hc⟩:=bind_some hc;obtain⟨U,hc⟩:=lX hc;simp only[av,cZ,bne_iff_ne] at U;simp only[ak] at hc;subst hc;exact aja I (sx h1) h2 M Z U.1.1 U.1.2 U.2 J
 .rename_i t x lo hi mx I;obtain⟨el,h1,hc⟩:=bind_some hc;obtain⟨sz,h2,rfl⟩:=map_some hc;exact amg I (sx h1) h2 J
 .rename_i t x k I;split at hc
  .rename_i fs hu;obtain⟨f,h1,hc⟩:=bind_some hc;obtain⟨sz,h2,hc⟩:=bind_some hc;obtain⟨M,hc⟩:=lX hc;simp only[ak] at hc;subst hc;exact amu I hu h1 h2 (by simpa using M) J
  .cases hc
 .rename_i t x k I;split at hc
  .rename_i fs hu;obtain⟨f,h1,hc⟩:=bind_some hc;obtain⟨sz,h2,hc⟩:=bind_some hc;obtain⟨ag,M,rfl⟩:=map_some hc;exact amt I hu h1 h2 M J
  .cases hc
 .rename_i t x i I;split at hc
  .rename_i el hu;obtain⟨sz,h1,rfl⟩:=map_some hc;exact ams I hu h1 J
  .rename_i n el hu;obtain⟨sz,h1,rfl⟩:=map_some hc;exact ajf I hu h1 J
  .cases hc
 .rename_i t x i I;split at hc
  .rename_i n el hu;obtain⟨sz,h1,hc⟩:=bind_some hc;obtain⟨ag,h2,rfl⟩:=map_some hc;exact amr I hu h1 h2 J
  .rename_i hu;simp only[ak] at hc;subst hc;exact aj7 I hu J
  .cases hc
 .rename_i x i I;simp only[ak] at hc;subst hc;exact amv I J
 .rename_i f first caps I
  obtain⟨h1,hc⟩:=lX hc;simp only[ak] at hc;subst hc;have h2:first=#[]:=by simpa using h1
  subst h2;exact amo I J
 .rename_i t I;split at hc
  .simp only[ak] at hc;subst hc;exact amn I J
  .cases hc
 .rename_i t x k I;split at hc
  .rename_i kt el hu;split at hc
   .rename_i q z h1 h2;obtain⟨M,hc⟩:=lX hc;simp only[ak] at hc;subst hc;exact ahf (str:=aj) I hu h1 ⟨q,rfl⟩ h2 J
   .rename_i z h1 h2;obtain⟨M,hc⟩:=lX hc;simp only[ak] at hc;subst hc;exact ahf (str:=ai) I hu h1 rfl h2 J
   .cases hc
  .cases hc
 .rename_i t m k v I;split at hc
  .rename_i kt el hu;split at hc
   .rename_i q h1;simp only[ak] at hc;subst hc;exact ahe (str:=aj) I hu h1 ⟨q,rfl⟩ J
   .rename_i h1;simp only[ak] at hc;subst hc;exact ahe (str:=ai) I hu h1 rfl J
   .cases hc
  .cases hc
 .rename_i t x I;split at hc
  .rename_i hu;simp only[ak] at hc;subst hc;exact amh I hu J
  .cases hc
 .rename_i x I;simp only[ak] at hc;subst hc;exact amj I J
 .rename_i c I;obtain⟨callee,args,argTypes⟩:=c;have arr:∀ {α:Type} {x:Array α} {l:List α},x.toList=l->x=l.toArray:=λh=>by rw[<- h]
  unfold Sk at hc;simp only[] at hc;split at hc
  .split at hc
   .rename_i x t h1 h2;rw[arr h1,arr h2] at I;split at hc
    .rename_i el hu;simp only[ak] at hc;subst hc;exact aje I hu J
    .rename_i hu;simp only[ak] at hc;subst hc;exact ajd I hu J
    .rename_i k v hu;simp only[ak] at hc;subst hc;exact ajc I hu J
    .cases hc
   .cases hc
  .split at hc
   .rename_i x y h1;rw[arr h1] at I;simp only[ak] at hc;subst hc;exact amq I J
   .cases hc
  .split at hc
   .rename_i x y h1;rw[arr h1] at I;simp only[ak] at hc;subst hc;exact amp I J
   .cases hc
  .split at hc
   .rename_i d x t u h1 h2;rw[arr h1,arr h2] at I;split at hc
    .rename_i el el' h1 h2;obtain⟨sz,M,hc⟩:=bind_some hc;obtain⟨U,hc⟩:=lX hc;simp only[ak] at hc;subst hc;exact ajg I (sx h1) (sx h2) M J
    .cases hc
   .cases hc
  .split at hc
   .rename_i x t h1 h2;rw[arr h1,arr h2] at I;obtain⟨el,M,hc⟩:=bind_some hc;obtain⟨z,U,hc⟩:=bind_some hc;obtain⟨sz,Z,hc⟩:=bind_some hc;obtain⟨Y,hc⟩:=lX hc;simp only[av,cZ,bne_iff_ne,ne_eq] at Y;simp only[ak] at hc;subst hc;exact amw I (sx M) U Y.1.1 Y.1.2 Y.2 J
   .cases hc
  .split at hc
   .rename_i s' x t u h1 h2;rw[arr h1,arr h2] at I;split at hc
    .rename_i el el' h1 h2;obtain⟨sz,M,hc⟩:=bind_some hc;obtain⟨b,U,hc⟩:=bind_some hc;obtain⟨z,Z,hc⟩:=bind_some hc;obtain⟨Y,hc⟩:=lX hc;simp only[av,cZ,bne_iff_ne] at Y;simp only[ak] at hc;subst hc;exact amz I (sx h1) (sx h2) M U Z Y.2 Y.1 J
    .cases hc
   .cases hc
  .cases hc
 .cases hc
theorem l8 {p:Nat->Bool}:∀ {l:List AV},AV.allL p l=ai->∀ x∈l,AV.all p x=ai
 |[],_,x,I=>by cases I
 |y::l,h,x,I=>by
  simp only[AV.allL,av] at h;rcases bm.1 I with rfl|I
  .exact h.1
  .exact l8 h.2 x I
theorem cW.restrict {φ φ':PM} {O O':Nat->Prop} {w:World} {p:Nat->Bool} (hs:∀ i k,p i=ai->φ i=af k->φ' i=af k) (M:∀ k,O' k->O k) {x:AV} {v:Value} (h:cW φ O w x v):x.all p=ai->cW φ' O' w x v:=by
 induction h with
 |f h=>intro _;exact .f (h.ext (O':=O') (KP.refl O w) λk _ hk=>M k hk)
 |ptr h=>intro hp;exact .ptr (hs _ _ hp h)
 |sl h hn hc=>intro hp;exact .sl (hs _ _ hp h) hn hc
 |row h hn hc hsh=>intro hp;exact .row (hs _ _ hp h) hn hc hsh
 |emp=>intro _;exact .emp
 |anyb=>intro _;exact .anyb
 |mp h=>intro hp;exact .mp (hs _ _ hp h)
 |agg hl hcl hr J=>intro hp;exact .agg hl hcl λj x v I hv=>J j x v I hv (l8 hp x (ba I))
 |tup hl hr J=>intro hp;exact .tup hl λj x v I hv=>J j x v I hv (l8 hp x (ba I))
 |clo hl hr J=>intro hp;exact .clo hl λj x v I hv=>J j x v I hv (l8 hp x (ba I))
theorem jt.restrict {φ φ':PM} {O O':Nat->Prop} {w w':World} {p:Nat->Bool} (hk:∀ x v,x.all p=ai->cW φ O w x v->cW φ' O' w' x v) {b:w_} {o:Obj} (hb:b.c.all p=ai) (h:jt φ O w b o):jt φ' O' w' b o:=by
 unfold jt at h ⊢;cases hc:b.c with
 |fz l=>
  rw[hc] at h;obtain⟨arr,h1,h2,J⟩:=h;exact⟨arr,h1,h2,λj x I=>by
   obtain⟨a,v,c,d⟩:=J j x I;refine ⟨a,v,c,hk _ _ ?_ d⟩;simp only[BC.get] at I;cases hl:l[j]? with
   |none=>rw[hl] at I;cases I
   |some q=>rw[hl] at I;simp at I;subst I;rfl⟩
 |mx l=>
  rw[hc] at h hb;obtain⟨arr,h1,h2,J⟩:=h;exact⟨arr,h1,h2,λj x I=>by
   obtain⟨a,v,c,d⟩:=J j x I;exact⟨a,v,c,hk _ _ (l8 hb x (ba I)) d⟩⟩
 |mp es=>
  rw[hc] at h hb;obtain⟨e,c,h1,h2,J⟩:=h;exact⟨e,c,h1,h2,λj x I=>by
   obtain⟨m,a,b⟩:=J j x I;exact⟨m,a,hk _ _ (l8 hb x.2 (c_.2 ⟨x,ba I,rfl⟩)) b⟩⟩
 |it s q=>rw[hc] at h;exact h
def ac0 (m:Nat):List Nat:=(c4 (m+1)).filter λi=>aN m i
theorem My {m i:Nat}:i∈ac0 m↔aN m i=ai:=by
 unfold ac0;rw[xc,jL];constructor
 .exact λh=>h.2
 .intro h;refine ⟨?_,h⟩;have h1:=Nat.ge_two_pow_of_testBit h;have h2:=Nat.lt_two_pow_self (n:=i);omega
def jW (φ:PM) (O:Nat->Prop) (w:World):List AV->List Value->Prop
 |[],[]=>True
 |x::xs,v::vs=>cW φ O w x v/\jW φ O w xs vs
 |_,_=>False
theorem jW.length {φ:PM} {O:Nat->Prop} {w:World}:∀ {args:List AV} {vs:List Value},jW φ O w args vs->vs.length=args.length
 |[],[],_=>rfl
 |[],_::_,h=>h.elim
 |_::_,[],h=>h.elim
 |_::_,_::_,h=>by simp[jW.length h.2]
theorem jW.mono {φ φ':PM} {O O':Nat->Prop} {w w':World} {p:Nat->Bool} (hk:∀ x v,x.all p=ai->cW φ O w x v->cW φ' O' w' x v):∀ {args:List AV} {vs:List Value},AV.allL p args=ai->jW φ O w args vs->jW φ' O' w' args vs
 |[],[],_,_=>trivial
 |[],_::_,_,h=>h.elim
 |_::_,[],_,h=>h.elim
 |x::xs,_::_,hp,h=>by
  simp only[AV.allL,av] at hp;exact⟨hk _ _ hp.1 h.1,jW.mono hk hp.2 h.2⟩
theorem jW.append {φ:PM} {O:Nat->Prop} {w:World}:∀ {xs I:List AV} {vs us:List Value},jW φ O w xs vs->jW φ O w I us->jW φ O w (xs++I) (vs++us)
 |[],_,[],_,_,h=>h
 |[],_,_::_,_,h,_=>h.elim
 |_::_,_,[],_,h,_=>h.elim
 |_::_,_,_::_,_,h,h'=>⟨h.1,jW.append h.2 h'⟩
theorem jW.of {φ:PM} {O:Nat->Prop} {w:World}:∀ {xs:List AV} {vs:List Value},vs.length=xs.length->(∀ (j:Nat) x v,xs[j]? =af x->vs[j]? =af v->cW φ O w x v)->jW φ O w xs vs
 |[],[],_,_=>trivial
 |[],_::_,h,_=>by simp at h
 |_::_,[],h,_=>by simp at h
 |x::xs,v::vs,hl,h=>⟨h 0 x v rfl rfl,jW.of (by simpa using hl) λj x v I hv=>h (j+1) x v (by simpa using I) (by simpa using hv)⟩
def D2 (P:Program) (f:FuncId):Prop:=∃ fn,P.funcs[f]? =af fn∧fn.body.isNone=aj∧(fn.name== "runtime.NumGoroutine")=aj
theorem OG {φ:PM} {E:Nat->Prop} {h':HF} {w:World} {a:Act} {e:zR} {o:Oper} (hp:V0 φ E h' w a e o):∀ (xs:List Operand) (I:List AV),(∀ x∈xs,x∈o.op.operands)->W7 e xs=af I->jW φ (tot E φ h') w I (xs.map a.eval)
 |[],I,_,h=>by simp only[W7,ak] at h;subst h;trivial
 |x::xs,I,hm,h=>by
  simp only[W7] at h;split at h
  .rename_i y J;split at h
   .rename_i ys' hys;simp only[ak] at h;subst h;exact⟨hp x y (hm x (dh ..)) J,OG hp xs ys' (λx M=>hm x (cH _ M)) hys⟩
   .cases h
  .cases h
theorem xi {P:Program} {f:FuncId} (hc:D2 P f) (args:Array Value) (w:World):(callFunc f args).run P w= .ok (.enter f args) w:=by
 obtain⟨fn,h1,h2,M⟩:=hc;have I:fn.name≠ "runtime.NumGoroutine" :=by simpa using M
 have J:fn.body≠ah:=by intro h;rw[h] at h2;cases h2
 simp[callFunc,program,ny,h1,J,I]
theorem WY:∀ (fs:List FPm) (i:Nat),Yo fs i=fs[i]?
 |[],i=>by simp[Yo]
 |f::fs,0=>rfl
 |f::fs,i+1=>by simp[Yo,WY fs i]
theorem xO {a b:Nat} (h:DB a b=ai) (i:Nat) (I:aN a i=ai):aN b i=aj:=by
 unfold DB at h;have h0:a&&&b=0:=aw h;have:=Nat.testBit_and a b i;rw[h0,I] at this;simpa using this.symm
structure Ctx where
 n0:Nat
 φ:PM
 E:Nat->Prop
 h:HF
 w:World
def acz (P:Program) (d:Deferred):Prop:=∀ w:World,∃ J cap f args,d.target= .fn J cap/\(invoke d.target d.args).run P w= .ok (.enter f args) w/\
 CallsD P f args .returning w λe I w'=>(∃ v,e= .returned v)/\I= .returning/\w'=w
structure Cfg (P:Program) (C:Ctx) (nt:Nat) (s:IS) (a:Act) (w:World):Prop where
 ex:∃ φ,iY C.φ φ C.h s.h.get C.w w/\qY φ C.E s.h.get w/\Np φ (tot C.E φ s.h.get) w s.e.get a/\(∀ i k,φ i=af k->i<s.nx)/\∀ i k,φ i=af k->C.φ i=af k\/C.n0<=i
 low:C.n0<=s.nx
 inert:∀ d∈a.defers,acz P d
 size:a.tmps.size=nt
theorem Cfg.bool {P:Program} {C:Ctx} {nt:Nat} {s:IS} {a:Act} {w:World} (c:Cfg P C nt s a w) {t:Nat} {b:Bool} (ht:s.e.get t=af (.f (.raw (.bool b)))):a.eval (.tmp t)= .bool b:=by
 obtain⟨φ,_,_,en,_,_⟩:=c.ex;exact fy (en t _ ht)
theorem Cl {P:Program} {c:Code} {Q:Exit->Act->World->Prop} (I:Nat->Act->World->Prop) (round:∀ n a w,I n a w->c.wp P (Exit.then (λa' w'=>∃ m,m<n/\I m a' w') Q) a w) {n:Nat} {a:Act} {w:World} (h0:I n a w):(Code.loop c).wp P Q a w:=by
 have least:∀ (n:Nat) (a:Act) (w:World),I n a w->∃ m,I m a w/\∀ k,I k a w->m<=k:=by
  intro n;induction n using Nat.strongRecOn with
  |_ n U=>
   intro a w hn;by_cases J:∃ k,k<n/\I k a w
   .obtain⟨k,hk,M⟩:=J;exact U k hk a w M
   .exact⟨n,hn,λk hk=>Nat.le_of_not_lt λhlt=>J ⟨k,hlt,hk⟩⟩
 have pick:∀ a w,∃ m,(∃ n,I n a w)->I m a w/\∀ k,I k a w->m<=k:=λa w=>by
  by_cases J:∃ n,I n a w
  .obtain⟨n,hn⟩:=J;obtain⟨m,hm⟩:=least n a w hn;exact⟨m,λ_=>hm⟩
  .exact⟨0,λh=>cV h J⟩
 let μ:Act->World->Nat:=λa w=>Classical.choose (pick a w)
 have hμ:∀ a w,(∃ n,I n a w)->I (μ a w) a w/\∀ k,I k a w->μ a w<=k:=λa w=>Classical.choose_spec (pick a w)
 refine wp_loop (λa w=>∃ n,I n a w) μ ⟨n,h0⟩ λa w M=>?_
 refine wp_mono (round (μ a w) a w (hμ a w M).1) λe a' w' he=>?_
 cases e with
 |normal=>
  obtain⟨m,hm,hIm⟩:=he;exact⟨⟨m,hIm⟩,Nat.lt_of_le_of_lt ((hμ a' w' ⟨m,hIm⟩).2 m hIm) hm⟩
 |exit id=>exact he
 |goto l=>exact he
 |ret=>exact he
 |panic c=>exact he
 |outgrown=>exact he
def Ex.to:Ex->Exit
 |.normal=>.normal
 |.exit id=>.exit id
 |.ret=>.ret
def KL (P:Program) (inert:FuncId->Bool):Prop:=∀ f,inert f=ai->D2 P f/\∀ (args:Array Value) (w:World),CallsD P f args .returning w λe I w'=>(∃ v,e= .returned v)/\I= .returning/\w'=w
theorem RA {P:Program} {C:Ctx} {nt:Nat} {inert:FuncId->Bool} (hin:KL P inert) {s:IS} {a:Act} {w:World} (c:Cfg P C nt s a w) {id:Nat} {ops:Array Oper} {dr:Bool} {f:FuncId} {caps:List Operand} {t:Nat} (hd:(ops.toList.all λo=>match o.dst with|some d=>decide (d<nt)|none=>ai)=ai) (hdf:DE ops dr=af (f,caps,t))
 {l:List AV} (hl:W7 s.e caps=af l) (hi:inert f=ai) {Q:Exit->Act->World->Prop} (hQ:∀ a w,Cfg P C nt ⟨s.e.put (af t) (.clo f l),s.h,s.nx,s.wr⟩ a w->Q .normal a w):(Code.region id ops dr).wp P Q a w:=by
 unfold DE at hdf;split at hdf
 .rename_i p q hops;split at hdf
  .rename_i f' first caps' t1 cl hpo hpg hpd hqo hqg hqd
   split at hdf
   .rename_i t2 hcl hca;split at hdf
    .rename_i hcond;simp only[av] at hcond;obtain⟨h1,h2⟩:=hcond;have h1:=aw h1;have h2:first=#[]:=by simpa using h2
     simp only[ak,aD] at hdf;obtain⟨rfl,rfl,rfl⟩:=hdf;subst h1;subst h2;have hops':ops=#[p,q]:=by rw[<- Array.toArray_toList (xs:=ops),hops]
     obtain⟨φ,m,r,en,dm⟩:=c.ex;obtain⟨hcb,hincalls⟩:=hin f' hi;have htn:t1<nt:=by
      have:=gp.1 hd p (by rw[hops];simp);rw[hpd] at this;simpa using this
     have hrelL:jW φ (tot C.E φ s.h.get) w l (caps'.toList.map a.eval):=by
      have hp':V0 φ C.E s.h.get w a s.e p:=λx y U Y=>tI r (xs:=p.op.operands) (λt _ y Y=>en t y Y) U Y
      exact OG hp' caps'.toList l (λx U=>by rw[hpo];simpa[Op.operands] using U) hl
     have hcm:caps'.map a.eval=(caps'.toList.map a.eval).toArray:=by apply KX;simp
     let J:Value:=.func (.func f') #[] (caps'.map a.eval)
     have hrel:cW φ (tot C.E φ s.h.get) w (.clo f' l) J:=by
      simp only[J];rw[hcm];refine .clo (hrelL.length) ?_;have:∀ (xs:List AV) (vs:List Value),jW φ (tot C.E φ s.h.get) w xs vs->∀ (j:Nat) x v,xs[j]? =af x->vs[j]? =af v->cW φ (tot C.E φ s.h.get) w x v:=by
       intro xs;induction xs with
       |nil=>intro vs _ j x v U;simp at U
       |cons y xs ih=>
        intro vs h j x v U hv;cases vs with
        |nil=>exact h.elim
        |cons u vs=>
         cases j with
         |zero=>simp at U hv;subst U;subst hv;exact h.1
         |succ j=>exact ih vs h.2 j x v (by simpa using U) (by simpa using hv)
      exact this _ _ hrelL
     refine wp_region ?_;have Z:c4 ops.size=[0,1]:=by rw[hops'];rfl
     rw[Z];have e0:ops[0]? =af p:=by rw[hops'];rfl
     have e1:ops[1]? =af q:=by rw[hops'];rfl
     rw[wpOps_cons];have hexec1:(execOp a.eval p).run P w= .ok (.value J) w:=by
      unfold execOp;rw[hpo];simp[Instr.makeFunc,J]
     have w1:iG p (yielded ops a.tmps)=ai:=by unfold iG;rw[hpg]
     unfold wpOp;simp only[e0,w1,bG];left;unfold Ho;rw[hexec1];show wpOps P ops Q [1] (a.put p.dst J) w;rw[wpOps_cons];unfold wpOp;have w2:iG q (yielded ops (a.put p.dst J).tmps)=ai:=by unfold iG;rw[hqg]
     simp only[e1,w2,bG];left;have heval:(a.put p.dst J).eval (.tmp t1)=J:=by
      show (a.put p.dst J).tmps.getD t1 undef=J;rw[Ic (by intro d I;rw[hpd] at I;cases I;rw[c.size];exact htn),aF hpd]
     have hargs:cl.args=#[]:=by rw[<- Array.toArray_toList (xs:=cl.args),hca]
     have hexec2:(execOp (a.put p.dst J).eval q).run P w= .ok (.defer {target:=.fn (.func f') (caps'.map a.eval),args:=#[]}) w:=by
      unfold execOp;rw[hqo];simp[resolve,hcl,heval,J,Deferred.ofValue,hargs]
     unfold Ho;rw[hexec2];show wpOps P ops Q [] _ w;refine hQ _ _ ⟨⟨φ,m,r,?_,dm⟩,c.low,?_,?_⟩
     .intro u x U;rw[hqd];show cW φ _ w x ((a.put p.dst J).tmps.getD u undef);rw[Ic (by intro d I;rw[hpd] at I;cases I;rw[c.size];exact htn)];have M:(s.e.put (af t1) (.clo f' l)).get u=af x:=U;rw[<- Z'] at M;unfold CD at M;rw[hpd];by_cases hu:af t1=af u
      .rw[aF hu] at M ⊢;cases M;exact hrel
      .rw[ay hu] at M ⊢;exact en u x M
     .intro d I;rw[hqd] at I;have hd'':d={target:=.fn (.func f') (caps'.map a.eval),args:=#[]}\/d∈(a.put p.dst J).defers:=by
       simpa[Nw] using I
      rcases hd'' with rfl|hd''
      .intro w0;refine ⟨_,_,f',caps'.map a.eval,rfl,?_,hincalls _ w0⟩;simp[invoke,xi hcb]
      .rw[Ie] at hd'';exact c.inert d hd''
     .rw[hqd];show (a.put p.dst J).tmps.size=nt;rw[Qf];exact c.size
    .cases hdf
   .cases hdf
  .cases hdf
 .cases hdf
def XM (tmps:Array Value):ResultVar->Sem Value
 |.tmp t=>pure (tmps.getD t undef)
 |.cell a t=>do
  let I<-asAddr (tmps.getD a undef)
  loadVar t I
theorem TW (fn:Func) (tmps:Array Value):results fn tmps=(do let vs<-fn.results.mapM (XM tmps);pure (if h:vs.size=1 then vs[0] else .tuple vs)):=by
 unfold results;congr 2
theorem CO {P:Program} {fn:Func} {tmps:Array Value} {R:Ending->World->Prop} {w:World} {v:Value} (hr:(results fn tmps).run P w= .ok v w) (I:R (.returned v) w):∀ (ds:List Deferred),(∀ d∈ds,acz P d)->Leaves P fn tmps R ds .returning w
 |[],_=>⟨v,hr,I⟩
 |d::ds,h=>by
  obtain⟨M,cap,f,args,h1,h2,J⟩:=h d (dh ..) w;refine ⟨by simp,M,cap,f,args,h1,h2,J.mono ?_⟩;rintro e Y w' ⟨⟨U,rfl⟩,rfl,rfl⟩;exact CO hr I ds λd hd=>h d (cH _ hd)
theorem jW.get {φ:PM} {O:Nat->Prop} {w:World}:∀ {xs:List AV} {vs:List Value},jW φ O w xs vs->∀ (j:Nat) x,xs[j]? =af x->∃ v,vs[j]? =af v/\cW φ O w x v
 |[],_,_,j,x,I=>by simp at I
 |_::_,[],h,_,_,_=>h.elim
 |y::xs,u::vs,h,j,x,I=>by
  cases j with
  |zero=>simp at I;subst I;exact⟨u,rfl,h.1⟩
  |succ j=>exact jW.get h.2 j x (by simpa using I)
theorem Sj {P:Program} {f:FuncId} {I:SF} (h:zJ P f=af I):∃ fn c,P.funcs[f]? =af fn∧fn.body=af c∧(fn.name== "runtime.NumGoroutine")=aj∧I.code=cq P fn.ntmps c∧vA P fn.results.toList=af I.res∧I.nt=fn.ntmps:=by
 unfold zJ at h;split at h
 .rename_i fn hf;split at h
  .cases h
  .rename_i hn;split at h
   .rename_i c r hb hr;simp only[ak] at h;subst h;exact⟨fn,c,hf,hb,by simpa using hn,rfl,hr,rfl⟩
   .cases h
 .cases h
theorem afj {a b:Value} (h:aiy a b=ai):a=b:=by
 unfold aiy at h;split at h
 .simp at h;rw[h]
 .simp at h;rw[h.1,h.2]
 .rw[zN.1 h]
 .simp only[av] at h;rw[aw h.1,aw h.2]
 .rfl
 .rename_i x y;simp only[av,Array.isEmpty_iff] at h;rw[h.1,h.2]
 .cases h
def PT.mapO {α β:Type} (g:α->Option β):PT α->PT β
 |.leaf=>.leaf
 |.node v l r=>.node (v.bind g) (PT.mapO g l) (PT.mapO g r)
theorem PT.get_mapO {α β:Type} (g:α->Option β):∀ (t:PT α) (i:Nat),(PT.mapO g t).get i=(t.get i).bind g
 |.leaf,i=>by simp[PT.mapO,PT.get]
 |.node v l r,0=>by simp[PT.mapO,PT.get]
 |.node v l r,j+1=>by
  simp only[PT.mapO,PT.get];split
  .exact PT.get_mapO g l _
  .exact PT.get_mapO g r _
theorem PT.get_updI {α:Type} (f:Nat->α->α):∀ (t:PT α) (a b i:Nat),(PT.updI f a b t).get i=(t.get i).map (f (a*i+b))
 |.leaf,_,_,i=>by simp[PT.updI,PT.get]
 |.node v l r,a,b,0=>by cases v<;>simp[PT.updI,PT.get]
 |.node v l r,a,b,j+1=>by
  simp only[PT.updI,PT.get];split
  .rename_i hj;rw[PT.get_updI f l];have:2*a*(j/2)+(a+b)=a*(j+1)+b:=by
    have h2:j=2*(j/2):=by have:=aw hj;omega
    have I:2*a*(j/2)=a*j:=by rw[Hq 2 a,Nat.mul_assoc,<-h2]
    rw[I,Nat.mul_add];omega
   rw[this]
  .rename_i hj;rw[PT.get_updI f r];have:2*a*(j/2)+(2*a+b)=a*(j+1)+b:=by
    have h1:j%2≠0:=λh=>hj (by rw[h];rfl)
    have h2:j=2*(j/2)+1:=by omega
    have I:2*a*(j/2)=a*(2*(j/2)):=by rw[Hq 2 a,Nat.mul_assoc]
    have J:a*(j+1)=a*(2*(j/2))+2*a:=by
     conv=>lhs;rw[h2]
     rw[Nat.mul_add,Nat.mul_add];omega
    rw[I,J];omega
   rw[this]
theorem PT.bound {α:Type}:∀ (t:PT α),∃ B,∀ i,B<=i->t.get i=ah
 |.leaf=>⟨0,λi _=>rfl⟩
 |.node v l r=>by
  obtain⟨a,I⟩:=PT.bound l;obtain⟨b,hb⟩:=PT.bound r;refine ⟨2*(a+b)+3,λi hi=>?_⟩;cases i with
  |zero=>omega
  |succ j=>
   simp only[PT.get];split
   .exact I _ (by omega)
   .exact hb _ (by omega)
def PT.ofF {α:Type} (f:Nat->Option α):Nat->PT α
 |0=>.leaf
 |n+1=>(PT.ofF f n).set n (f n)
theorem PT.get_ofF {α:Type} (f:Nat->Option α):∀ (n i:Nat),(PT.ofF f n).get i=if i<n then f i else ah
 |0,i=>by simp[PT.ofF,PT.get]
 |n+1,i=>by
  rw[PT.ofF,PT.get_set,PT.get_ofF f n];by_cases h:i=n
  .subst h;simp
  .rw[ay h];by_cases h2:i<n
   .rw[aF h2,aF (by omega)]
   .rw[ay h2,ay (by omega)]
def nm (i:Nat):Nat:=2*i
def ow (n:Nat):Nat:=n/2
theorem em (i:Nat):ow (nm i)=i:=by unfold ow nm;omega
theorem kP {i j:Nat} (h:nm i=nm j):i=j:=by unfold nm at h;omega
def fx (p:Bool) (id sz n:Nat):AV:=if p&&n==0 then .emp else .row (nm id) sz n
mutual
def cr (h:bh):TV->Option AV
 |.f T v=>af (.f (gJ T v))
 |.fel T xs j _ off=>af (.f (.ptr (xs.flatMap (bS T)) (j.toNat*T.size+off)))
 |.pel id sz j off=>af (.ptr (nm id) (j.toNat*sz+off))
 |.ptr id off=>af (.ptr (nm id) off)
 |.csl id sz n=>af (.row (nm id) sz n)
 |.row id=>match eC h id with|some (p,sz,n)=>af (fx p id sz n)|none=>ah
 |.rtl id j=>match eC h id with|some (_,sz,n)=>af (.sl (nm id) (j.toNat*sz) (n-j.toNat))|none=>ah
 |.emp=>af .emp
 |.nil=>af (.f (.raw (.slice ah 0 0)))
 |.mp id=>af (.mp (nm id))
 |.agg l=>match cR h l with|some l'=>af (.agg l')|none=>ah
 |.tup l=>match cR h l with|some l'=>af (.tup l')|none=>ah
 |.clo g l=>match cR h l with|some l'=>af (.clo g l')|none=>ah
 |.undef=>af (.f (.raw undef))
 |.np=>af (.f (.raw (.pointer ah)))
 |.anyb=>af .anyb
def cR (h:bh):List TV->Option (List AV)
 |[]=>af []
 |x::r=>match cr h x with
  |some y=>(match cR h r with|some l=>af (y::l)|none=>ah)
  |none=>ah
end
def pI:(K:Ty)->K.den->Value
 |.int k,n=>.int k n
 |.str,s=>.string ⟨kE s⟩
 |_,_=>undef
def mpC:(K V:Ty)->List (K.den×V.den)->BC
 |.st (.pr .str (.int .i64)),.un,es=>.it ⟨kE (PC es)⟩ (N8 es)
 |K,V,es=>.mp (es.map λp=>(pI K p.1,.f (gJ V p.2)))
theorem BQ {K V:Ty} {es:List (K.den×V.den)} (h:T_ K=ai):mpC K V es= .mp (es.map λp=>(pI K p.1,.f (gJ V p.2))):=by
 unfold mpC;split
 .cases h
 .rfl
theorem aii {K V:Ty} {es:List (K.den×V.den)} {s:List UInt8} {p:Nat} (h:itE K V es=af (s,p)):mpC K V es= .it ⟨kE s⟩ p:=by
 unfold itE at h;split at h
 .cases h;rfl
 .cases h
def kM (h:bh):io->Option w_
 |.rows ty p T xs=>if p&&xs.length==0 then ah else af ⟨ty,.fz (xs.flatMap (bS T))⟩
 |.cells ty l=>match cR h l with|some I=>af ⟨ty,.mx I⟩|none=>ah
 |.dead _ _ _=>ah
 |.mp K V es=>af ⟨0,mpC K V es⟩
def fR (e:iJ) (h:bh):EF:=λt=>(e.get t).bind (cr h)
def bA (h:bh):HF:=λn=>if n%2=0 then (h.get (n/2)).bind (kM h) else ah
theorem bJ (h:bh) (i:Nat):bA h (nm i)=(h.get i).bind (kM h):=by
 unfold bA nm;rw[aF (by omega),show 2*i/2=i from by omega]
theorem jv {h:bh} {n:Nat} {b:w_} (hb:bA h n=af b):∃ i c,n=nm i/\h.get i=af c/\kM h c=af b:=by
 unfold bA at hb;split at hb
 .cases hc:h.get (n/2) with
  |none=>rw[hc] at hb;cases hb
  |some c=>rw[hc] at hb;exact⟨n/2,c,by unfold nm;omega,hc,hb⟩
 .cases hb
def K2 (e:iJ) (h:bh):zR:=PT.mapO (cr h) e
theorem vu (e:iJ) (h:bh):(K2 e h).get=fR e h:=by funext t;exact PT.get_mapO _ _ _
theorem jJ (h:bh):∃ H:nV,H.get=bA h:=by
 obtain⟨B,I⟩:=PT.bound h;refine ⟨PT.ofF (bA h) (2*B),?_⟩;funext n;rw[PT.get_ofF];split
 .rfl
 .unfold bA;split
  .rw[I _ (by omega)];rfl
  .rfl
theorem c5 {h:bh} {x:TV} {r:List TV} {l:List AV} (he:cR h (x::r)=af l):∃ y I,l=y::I/\cr h x=af y/\cR h r=af I:=by
 simp only[cR] at he;split at he
 .rename_i y J;split at he
  .rename_i I hl;simp only[ak] at he;exact⟨y,I,he.symm,J,hl⟩
  .cases he
 .cases he
theorem oW {h:bh} {x:TV} {r:List TV} {y:AV} {I:List AV} (h1:cr h x=af y) (h2:cR h r=af I):cR h (x::r)=af (y::I):=by
 simp only[cR,h1,h2]
theorem js {h:bh}:∀ {l:List TV} {I:List AV},cR h l=af I->I.length=l.length
 |[],I,he=>by simp only[cR,ak] at he;subst he;rfl
 |x::r,I,he=>by
  obtain⟨y,l2,rfl,_,h2⟩:=c5 he;simp[js h2]
theorem m_ {h:bh}:∀ {a b:List TV} {a' b':List AV},cR h a=af a'->cR h b=af b'->cR h (a++b)=af (a'++b')
 |[],b,a',b',I,hb=>by simp only[cR,ak] at I;subst I;exact hb
 |x::r,b,a',b',I,hb=>by
  obtain⟨y,l2,rfl,h1,h2⟩:=c5 I;exact oW h1 (m_ h2 hb)
theorem B3 {h:bh}:∀ {a b:List TV} {l:List AV},cR h (a++b)=af l->∃ a' b',l=a'++b'/\cR h a=af a'/\cR h b=af b'
 |[],b,l,he=>⟨[],l,rfl,rfl,he⟩
 |x::r,b,l,he=>by
  obtain⟨y,l2,rfl,h1,h2⟩:=c5 he;obtain⟨a',b',rfl,J,I⟩:=B3 h2;exact⟨y::a',b',rfl,oW h1 J,I⟩
theorem EZ {h:bh}:∀ {l:List TV} {I:List AV} (n:Nat),cR h l=af I->cR h (l.take n)=af (I.take n)
 |[],I,n,he=>by simp only[cR,ak] at he;subst he;simp[cR]
 |x::r,I,n,he=>by
  obtain⟨y,l2,rfl,h1,h2⟩:=c5 he;cases n with
  |zero=>simp[cR]
  |succ n=>exact oW h1 (EZ n h2)
theorem E3 {h:bh}:∀ {l:List TV} {I:List AV} (n:Nat),cR h l=af I->cR h (l.drop n)=af (I.drop n)
 |[],I,n,he=>by simp only[cR,ak] at he;subst he;simp[cR]
 |x::r,I,n,he=>by
  obtain⟨y,l2,rfl,h1,h2⟩:=c5 he;cases n with
  |zero=>exact he
  |succ n=>simpa using E3 n h2
theorem vq {h:bh} {l vs:List TV} {I vs':List AV} (off:Nat) (h1:cR h l=af I) (h2:cR h vs=af vs'):cR h (splice l off vs)=af (splice I off vs'):=by
 unfold splice;rw[js h2];exact m_ (m_ (EZ _ h1) h2) (E3 _ h1)
theorem l7 {h:bh}:∀ {l:List TV} {I:List AV},cR h l=af I->∀ (j:Nat) x,l[j]? =af x->∃ y,I[j]? =af y/\cr h x=af y
 |[],I,he,j,x,M=>by simp at M
 |x::r,I,he,j,z,J=>by
  obtain⟨y,l2,rfl,h1,h2⟩:=c5 he;cases j with
  |zero=>simp at J;subst J;exact⟨y,rfl,h1⟩
  |succ j=>simpa using l7 h2 j z (by simpa using J)
mutual
theorem p_ (h:bh):∀ (u:TV),Ld h u=ai->∃ y,cr h u=af y
 |.f _ _,_=>⟨_,rfl⟩
 |.fel _ _ _ _ _,_=>⟨_,rfl⟩
 |.pel _ _ _ _,_=>⟨_,rfl⟩
 |.ptr _ _,_=>⟨_,rfl⟩
 |.csl _ _ _,_=>⟨_,rfl⟩
 |.row id,he=>by
  simp only[Ld] at he;cases hr:eC h id with
  |none=>rw[hr] at he;cases he
  |some r=>obtain⟨p,sz,n⟩:=r;exact⟨_,by simp only[cr,hr];rfl⟩
 |.rtl id jj,he=>by
  simp only[Ld] at he;cases hr:eC h id with
  |none=>rw[hr] at he;cases he
  |some r=>obtain⟨p,sz,n⟩:=r;exact⟨_,by simp only[cr,hr];rfl⟩
 |.emp,_=>⟨_,rfl⟩
 |.nil,_=>⟨_,rfl⟩
 |.mp _,_=>⟨_,rfl⟩
 |.agg l,he=>by obtain⟨y,hy⟩:=fK h l he;exact⟨_,by simp only[cr,hy];rfl⟩
 |.tup l,he=>by obtain⟨y,hy⟩:=fK h l he;exact⟨_,by simp only[cr,hy];rfl⟩
 |.clo g l,he=>by obtain⟨y,hy⟩:=fK h l he;exact⟨_,by simp only[cr,hy];rfl⟩
 |.undef,_=>⟨_,rfl⟩
 |.np,_=>⟨_,rfl⟩
 |.anyb,_=>⟨_,rfl⟩
theorem fK (h:bh):∀ (l:List TV),kO h l=ai->∃ l',cR h l=af l'
 |[],_=>⟨[],rfl⟩
 |x::r,he=>by
  simp only[kO,av] at he;obtain⟨y,hy⟩:=p_ h x he.1;obtain⟨l',hl⟩:=fK h r he.2;exact⟨_,oW hy hl⟩
end
def cw (h h':bh):Prop:=∀ id r,eC h id=af r->eC h' id=af r
mutual
theorem gD {h h':bh} (hk:cw h h'):∀ (u:TV) (y:AV),cr h u=af y->cr h' u=af y
 |.f _ _,y,he=>he
 |.fel _ _ _ _ _,y,he=>he
 |.pel _ _ _ _,y,he=>he
 |.ptr _ _,y,he=>he
 |.csl _ _ _,y,he=>he
 |.row id,y,he=>by
  simp only[cr] at he ⊢;split at he
  .rename_i p sz n hr;rw[hk _ _ hr];exact he
  .cases he
 |.rtl id jj,y,he=>by
  simp only[cr] at he ⊢;split at he
  .rename_i p sz n hr;rw[hk _ _ hr];exact he
  .cases he
 |.emp,y,he=>he
 |.nil,y,he=>he
 |.mp _,y,he=>he
 |.agg l,y,he=>by
  simp only[cr] at he ⊢;split at he
  .rename_i l' hl;rw[iX hk l l' hl];exact he
  .cases he
 |.tup l,y,he=>by
  simp only[cr] at he ⊢;split at he
  .rename_i l' hl;rw[iX hk l l' hl];exact he
  .cases he
 |.clo g l,y,he=>by
  simp only[cr] at he ⊢;split at he
  .rename_i l' hl;rw[iX hk l l' hl];exact he
  .cases he
 |.undef,y,he=>he
 |.np,y,he=>he
 |.anyb,y,he=>he
theorem iX {h h':bh} (hk:cw h h'):∀ (l:List TV) (l':List AV),cR h l=af l'->cR h' l=af l'
 |[],l',he=>he
 |x::r,l',he=>by
  obtain⟨y,l2,rfl,h1,h2⟩:=c5 he;exact oW (gD hk x y h1) (iX hk r l2 h2)
end
mutual
theorem ox {h h':bh} (hk:cw h h'):∀ (u:TV),Ld h u=ai->Ld h' u=ai
 |.f _ _,_=>rfl
 |.fel _ _ _ _ _,_=>rfl
 |.pel _ _ _ _,_=>rfl
 |.ptr _ _,_=>rfl
 |.csl _ _ _,_=>rfl
 |.row id,he=>by
  simp only[Ld] at he ⊢;cases hr:eC h id with
  |none=>rw[hr] at he;cases he
  |some r=>rw[hk _ _ hr];rfl
 |.rtl id jj,he=>by
  simp only[Ld] at he ⊢;cases hr:eC h id with
  |none=>rw[hr] at he;cases he
  |some r=>rw[hk _ _ hr];rfl
 |.emp,_=>rfl
 |.nil,_=>rfl
 |.mp _,_=>rfl
 |.agg l,he=>iS hk l he
 |.tup l,he=>iS hk l he
 |.clo g l,he=>iS hk l he
 |.undef,_=>rfl
 |.np,_=>rfl
 |.anyb,_=>rfl
theorem iS {h h':bh} (hk:cw h h'):∀ (l:List TV),kO h l=ai->kO h' l=ai
 |[],_=>rfl
 |x::r,he=>by
  simp only[kO,av] at he ⊢;exact⟨ox hk x he.1,iS hk r he.2⟩
end
mutual
theorem EY (h:bh):∀ (u:TV) (y:AV),cr h u=af y->Ld h u=ai
 |.f _ _,_,_=>rfl
 |.fel _ _ _ _ _,_,_=>rfl
 |.pel _ _ _ _,_,_=>rfl
 |.ptr _ _,_,_=>rfl
 |.csl _ _ _,_,_=>rfl
 |.row id,y,he=>by
  simp only[Ld,cr] at he ⊢;cases hr:eC h id with
  |none=>rw[hr] at he;cases he
  |some r=>rfl
 |.rtl id jj,y,he=>by
  simp only[Ld,cr] at he ⊢;cases hr:eC h id with
  |none=>rw[hr] at he;cases he
  |some r=>rfl
 |.emp,_,_=>rfl
 |.nil,_,_=>rfl
 |.mp _,_,_=>rfl
 |.agg l,y,he=>by
  simp only[cr] at he;split at he
  .rename_i l' hl;exact lG h l l' hl
  .cases he
 |.tup l,y,he=>by
  simp only[cr] at he;split at he
  .rename_i l' hl;exact lG h l l' hl
  .cases he
 |.clo g l,y,he=>by
  simp only[cr] at he;split at he
  .rename_i l' hl;exact lG h l l' hl
  .cases he
 |.undef,_,_=>rfl
 |.np,_,_=>rfl
 |.anyb,_,_=>rfl
theorem lG (h:bh):∀ (l:List TV) (l':List AV),cR h l=af l'->kO h l=ai
 |[],_,_=>rfl
 |x::r,l',he=>by
  obtain⟨y,l2,rfl,h1,h2⟩:=c5 he;simp only[kO,av];exact⟨EY h x y h1,lG h r l2 h2⟩
end
mutual
theorem Rm (h h':bh):∀ (u:TV),ut u=ai->cr h u=cr h' u
 |.f _ _,_=>rfl
 |.fel _ _ _ _ _,_=>rfl
 |.pel _ _ _ _,_=>rfl
 |.ptr _ _,_=>rfl
 |.csl _ _ _,_=>rfl
 |.row id,he=>by cases he
 |.emp,_=>rfl
 |.nil,_=>rfl
 |.mp _,_=>rfl
 |.agg l,he=>by simp only[cr];rw[E0 h h' l he]
 |.tup l,he=>by simp only[cr];rw[E0 h h' l he]
 |.clo g l,he=>by cases he
 |.undef,_=>rfl
 |.np,_=>rfl
 |.anyb,_=>rfl
theorem E0 (h h':bh):∀ (l:List TV),qu l=ai->cR h l=cR h' l
 |[],_=>rfl
 |x::r,he=>by
  simp only[qu,av] at he;simp only[cR];rw[Rm h h' x he.1,E0 h h' r he.2]
end
theorem N9 {h:bh} {u:TV} {y:AV} (he:cr h u=af y) (hc:u.isC=ai):y.isCell=ai:=by
 cases u with
 |f T v=>cases T<;>simp only[cr,ak] at he<;>subst he<;>first|rfl|(simp [TV.isC,Ty.one] at hc)
 |fel T xs j hj off=>simp only[cr,ak] at he;subst he;rfl
 |pel id sz j off=>simp only[cr,ak] at he;subst he;rfl
 |ptr id off=>simp only[cr,ak] at he;subst he;rfl
 |csl id off z=>simp only[cr,ak] at he;subst he;rfl
 |row id=>
  simp only[cr] at he;split at he
  .simp only[ak] at he;subst he;unfold fx;split<;>rfl
  .cases he
 |rtl id I=>cases hc
 |emp=>simp only[cr,ak] at he;subst he;rfl
 |nil=>simp only[cr,ak] at he;subst he;rfl
 |mp id=>simp only[cr,ak] at he;subst he;rfl
 |agg l=>cases hc
 |tup l=>cases hc
 |clo g l=>
  simp only[cr] at he;split at he
  .simp only[ak] at he;subst he;rfl
  .cases he
 |undef=>cases hc
 |np=>simp only[cr,ak] at he;subst he;rfl
 |anyb=>cases hc
theorem tJ {h:bh}:∀ {l:List TV} {I:List AV},cR h l=af I->ku l=ai->gG I=ai
 |[],I,he,_=>by simp only[cR,ak] at he;subst he;rfl
 |x::r,I,he,hc=>by
  obtain⟨y,l2,rfl,h1,h2⟩:=c5 he;simp only[ku,av] at hc;simp only[gG,av];exact⟨N9 h1 hc.1,tJ h2 hc.2⟩
def Le (x y:AV):Prop:=∀ (φ:PM) (O:Nat->Prop) (w:World) (v:Value),cW φ O w x v->cW φ O w y v
theorem Le.refl (x:AV):Le x x:=λ_ _ _ _ h=>h
def lM (H H':HF) (x y:AV):Prop:=∀ (φ:PM) (E:Nat->Prop) (w:World) (v:Value),qY φ E H w->cW φ (tot E φ H) w x v->cW φ (tot E φ H') w y v
def vC (H H':HF):Prop:=∀ i b,H' i=af b->∃ b0,H i=af b0
theorem vC.refl (H:HF):vC H H:=λ_ b h=>⟨b,h⟩
theorem vC.own {H H':HF} (d:vC H H') {φ:PM} {k:Nat} (h:own φ H' k):own φ H k:=by
 obtain⟨i,b,h1,h2⟩:=h;obtain⟨b0,I⟩:=d i b h1;exact⟨i,b0,I,h2⟩
theorem vC.tot {H H':HF} (d:vC H H') {E:Nat->Prop} {φ:PM} {k:Nat} (h:tot E φ H' k):tot E φ H k:=h.imp id d.own
theorem cW.dom {H H':HF} (d:vC H H') {φ:PM} {E:Nat->Prop} {w:World} {x:AV} {v:Value} (h:cW φ (tot E φ H) w x v):cW φ (tot E φ H') w x v:=
 h.ext (λ_ _ h=>h) (KP.refl _ w) λ_ _ hk=>d.tot hk
theorem nh.dom {H H':HF} (d:vC H H') {φ:PM} {E:Nat->Prop} {w:World} {x:FV} {v:Value} (h:nh (tot E φ H) w x v):nh (tot E φ H') w x v:=
 h.ext (KP.refl _ w) λ_ _ hk=>d.tot hk
theorem Le.toH {H H':HF} (d:vC H H') {x y:AV} (h:Le x y):lM H H' x y:=λφ E w v _ hr=>(h _ _ _ _ hr).dom d
theorem lM.refl {H H':HF} (d:vC H H') (x:AV):lM H H' x x:=(Le.refl x).toH d
def ia (H H':HF):List AV->List AV->Prop
 |[],[]=>True
 |x::xs,y::I=>lM H H' x y/\ia H H' xs I
 |_,_=>False
theorem ia.refl {H H':HF} (d:vC H H'):∀ l,ia H H' l l
 |[]=>trivial
 |x::r=>⟨lM.refl d x,ia.refl d r⟩
theorem ia.length {H H':HF}:∀ {l I:List AV},ia H H' l I->I.length=l.length
 |[],[],_=>rfl
 |[],_::_,h=>h.elim
 |_::_,[],h=>h.elim
 |_::_,_::_,h=>by simp[ia.length h.2]
theorem ia.get {H H':HF}:∀ {l J:List AV},ia H H' l J->∀ (j:Nat) y,J[j]? =af y->∃ x,l[j]? =af x/\lM H H' x y
 |[],[],_,j,y,I=>by simp at I
 |[],_::_,h,_,_,_=>h.elim
 |_::_,[],h,_,_,_=>h.elim
 |x::xs,z::ys,h,j,y,I=>by
  cases j with
  |zero=>simp at I;subst I;exact⟨x,rfl,h.1⟩
  |succ j=>simpa using ia.get h.2 j y (by simpa using I)
theorem ia.append {H H':HF}:∀ {a a' b b':List AV},ia H H' a a'->ia H H' b b'->ia H H' (a++b) (a'++b')
 |[],[],_,_,_,h=>h
 |[],_::_,_,_,h,_=>h.elim
 |_::_,[],_,_,h,_=>h.elim
 |_::_,_::_,_,_,h,h'=>⟨h.1,ia.append h.2 h'⟩
theorem ia.take {H H':HF}:∀ {a a':List AV} (n:Nat),ia H H' a a'->ia H H' (a.take n) (a'.take n)
 |[],[],n,_=>by simp[ia]
 |[],_::_,_,h=>h.elim
 |_::_,[],_,h=>h.elim
 |_::_,_::_,0,_=>trivial
 |_::_,_::_,n+1,h=>⟨h.1,ia.take n h.2⟩
theorem ia.drop {H H':HF}:∀ {a a':List AV} (n:Nat),ia H H' a a'->ia H H' (a.drop n) (a'.drop n)
 |[],[],n,_=>by simp[ia]
 |[],_::_,_,h=>h.elim
 |_::_,[],_,h=>h.elim
 |_::_,_::_,0,h=>h
 |_::_,_::_,n+1,h=>ia.drop n h.2
theorem ia.splice {H H':HF} {a a' b b':List AV} (off:Nat) (h1:ia H H' a a') (h2:ia H H' b b'):ia H H' (splice a off b) (splice a' off b'):=by
 unfold AI.splice;rw[h2.length];exact ((h1.take off).append h2).append (h1.drop _)
def kl (H H':HF) (b b':w_):Prop:=∀ (φ:PM) (E:Nat->Prop) (w:World) (o:Obj),qY φ E H w->jt φ (tot E φ H) w b o->jt φ (tot E φ H') w b' o
theorem kl.refl {H H':HF} (d:vC H H') (b:w_):kl H H' b b:=λ_ _ _ _ _ h=>h.mono λ_ _ h=>h.dom d
theorem px {φ:PM} {O:Nat->Prop} {w:World} {ty:TypeId} {c:BC} {o:Obj} (hc:c.isCells=ai):jt φ O w ⟨ty,c⟩ o↔∃ arr,o= .cells arr ty (0,0)/\vD φ O w c arr:=by
 unfold jt;cases c<;>simp[BC.isCells] at hc<;>rfl
theorem kl.cells {H H':HF} {ty:TypeId} {c c':BC} (hc:c.isCells=ai) (I:c'.isCells=ai) (hl:ia H H' c.toMx c'.toMx) (hcell:∀ x∈c'.toMx,x.isCell=ai):kl H H' ⟨ty,c⟩ ⟨ty,c'⟩:=by
 intro φ E w o hrep M;rw[px hc] at M;rw[px I];obtain⟨arr,h1,h2,h3⟩:=M;refine ⟨arr,h1,by rw[BC.len_toMx I,hl.length,<-BC.len_toMx hc];exact h2,λj x J=>?_⟩;rw[BC.get_toMx I] at J;refine ⟨hcell x (ba J),?_⟩;obtain⟨y,U,hle⟩:=hl.get j x J;obtain⟨_,v,Z,Y⟩:=h3 j y (by rw[BC.get_toMx hc];exact U);exact⟨v,Z,hle _ _ _ _ hrep Y⟩
theorem kl.eq {H H':HF} (d:vC H H') {ty:TypeId} {c c':BC} (hc:c.isCells=ai) (I:c'.isCells=ai) (hl:c.toMx=c'.toMx):kl H H' ⟨ty,c⟩ ⟨ty,c'⟩:=by
 intro φ E w o hrep M;rw[px hc] at M;rw[px I];obtain⟨arr,h1,h2,h3⟩:=M;refine ⟨arr,h1,by rw[BC.len_toMx I,<-hl,<-BC.len_toMx hc];exact h2,λj x J=>?_⟩;rw[BC.get_toMx I,<-hl,<-BC.get_toMx hc] at J;obtain⟨Z,v,Y,U⟩:=h3 j x J;exact⟨Z,v,Y,U.dom d⟩
structure Ky (H H':HF):Prop where
 dom:vC H H'
 blk:∀ i b b',H i=af b->H' i=af b'->kl H H' b b'
theorem Ky.refl (H:HF):Ky H H:=⟨vC.refl H,λi b b' h h'=>by rw[h] at h';cases h';exact kl.refl (vC.refl H) b⟩
theorem Ky.rep {H H':HF} (V:Ky H H') {φ:PM} {E:Nat->Prop} {w:World} (r:qY φ E H w):qY φ E H' w:=by
 refine ⟨λi j b b' k J Z Y U=>?_,λi b J=>?_,r.el,λg cells hg=>(r.gl g cells hg).dom V.dom⟩
 .obtain⟨b0,I⟩:=V.dom i b J;obtain⟨b1,M⟩:=V.dom j b' Z;exact r.inj i j b0 b1 k I M Y U
 .obtain⟨b0,I⟩:=V.dom i b J;obtain⟨k,p1,p2,ob,p3,p4⟩:=r.at_ i b0 I;exact⟨k,p1,p2,ob,p3,V.blk i b0 b I J φ E w ob r p4⟩
theorem gL.view {P:Program} {o:Oper} {e:EF} {h:HF} {val val':AV} {rd wr wr' N:List Nat} {nw nw':HF} (ht:gL P o e h ⟨val,rd,wr,nw,N⟩) (hsub:∀ i∈wr,i∈wr'\/i∈rd)
 (hv:∀ h':HF,(∀ i∈rd,h' i=h i)->(∀ i∈wr',h' i=h i)->Ky (eS h' wr nw) (eS h' wr' nw')/\lM (eS h' wr nw) (eS h' wr' nw') val val'):gL P o e h ⟨val',rd,wr',nw',N⟩:=by
 intro φ E h' w a h1 h2 Z Y U;have J:=ht φ E h' w a h1 (λi hi=>(hsub i hi).elim (h2 i) (h1 i)) Z Y U;obtain⟨V,hle⟩:=hv h' h1 h2;refine PI ?_ J;rintro a' w' ⟨v,φ',rfl,mv,nm',I,rel⟩;exact⟨v,φ',rfl,⟨mv.sub,mv.ext,λk hk M=>mv.own_ k hk (V.dom.own M)⟩,nm',V.rep I,hle _ _ _ _ I rel⟩
theorem Le.nil:Le (.f (.raw (.slice ah 0 0))) (.f (.sl [] 0)):=by
 intro φ O w v hr;cases hr with
 |f hr=>cases hr;exact .f (.nil ah 0 (by unfold maxLen;omega))
theorem Le.emp:Le .emp (.f (.sl [] 0)):=by
 intro φ O w v hr;cases hr with
 |emp=>exact .f (.nil _ 0 (by unfold maxLen;omega))
theorem Le.nilEmp:Le (.f (.raw (.slice ah 0 0))) .emp:=by
 intro φ O w v hr;cases hr with
 |f hr=>cases hr;exact .emp
theorem Le.aggF {l:List FV}:Le (.f (.agg l)) (.agg (l.map .f)):=by
 intro φ O w v hr;cases hr with
 |f hr=>
  cases hr with
  |agg _ vs hl hcl hrr=>
   refine .agg (by simp[hl]) (λx I=>?_) λj x u I hu=>?_
   .obtain⟨y,J,rfl⟩:=c_.1 I;exact hcl y J
   .rw[bc] at I;cases hc:l[j]? with
    |none=>rw[hc] at I;cases I
    |some y=>rw[hc] at I;simp at I;subst I;exact .f (hrr j y u hc hu)
theorem aag (l:List AV):Le (Mx l) (.agg l):=by
 unfold Mx;split
 .rename_i fs h;rw[pM h];exact Le.aggF
 .exact Le.refl _
theorem lM.aggL {H H':HF} {l:List AV} {I:List FV} (h:ia H H' l (I.map .f)) (hc:∀ x∈I,x.isCell=ai):lM H H' (.agg l) (.f (.agg I)):=by
 intro φ E w v hrep hr;cases hr with
 |@agg _ vs hl hcl hrr=>
  refine .f (.agg I vs (by rw[hl,<-h.length];simp) hc λj y u J hu=>?_);obtain⟨x,M,hle⟩:=h.get j (.f y) (by rw[bc,J];rfl);have:=hle φ E w u hrep (hrr j x u M hu);cases this with
  |f h=>exact h
theorem lM.row {H H':HF} (d:vC H H') {id sz n:Nat} {ty:TypeId} {cells:List FV} (h1:H id=af ⟨ty,.fz cells⟩) (h2:H' id=ah) (hl:cells.length=n*sz):lM H H' (.row id sz n) (.f (.sl cells n)):=by
 intro φ E w v r hr;cases hr with
 |@row _ _ _ c k hφ hn hcap hsh=>
  obtain⟨k',U,Y,_⟩:=r.at_ id _ h1;rw[hφ] at U;cases U;obtain⟨arr,p1,p2,p3⟩:=r.cs h1 hφ rfl;have hk:k<w.heap.size:=(cF.1 p1).1;have hlen:cells.length<=arr.size:=by simpa[BC.toMx] using p3
  have hnk:¬tot E φ H' k:=by
   rintro (Z|⟨j,b,J,M⟩)
   .exact Y Z
   .obtain⟨b0,g3⟩:=d j b J;have:=r.inj j id b0 _ k g3 h1 M hφ;subst this;rw[h2] at J;cases J
  have hget:∀ (j:Nat) x,cells[j]? =af x->∃ u,arr[j]? =af u/\nh (tot E φ H) w x u:=λj x I=>by
   have hj:j<cells.length:=(bl.1 I).1;have hja:j<arr.size:=by omega
   refine ⟨arr[j],by simp[hja],?_⟩;have:=p2.2.2 j (.f x) arr[j] (by simp[BC.toMx,I]) (by
    rw[cX,aF (by simpa[BC.toMx] using hj),cK];simp[hja])
   cases this with
   |f h=>exact h
  refine .f (.sl cells n c k 0 (λj=>(arr[j]?).getD undef) hn hcap hnk hk (λx I=>?_) (λj hj=>?_) (λj x I=>?_))
  .have:=p2.2.1 (.f x) (by simp only[BC.toMx];exact c_.2 ⟨x,I,rfl⟩);exact this
  .have:j<arr.size:=by omega
   simp[Nt,p1,this]
  .obtain⟨u,J,M⟩:=hget j x I;rw[J];exact M.dom d
theorem sw:∀ l:List Xp,Jt l=l.flatMap wJ
 |[]=>rfl
 |x::r=>by rw[Jt,sw r];rfl
theorem zo:∀ l:List Sx,Js l=l.flatMap yi
 |[]=>rfl
 |x::r=>by rw[Js,zo r];rfl
theorem Jr (e:Xp):bS MO (Nz e)=wJ e:=by
 cases e with
 |mk op n name l=>simp only[MO,Nz,bS,wJ,Xp.op,Xp.n,Xp.name,Xp.l,sw];rfl
theorem Rs (x:MO.den):wJ (dZ x)=bS MO x:=by
 simp only[MO,dZ,bS,wJ,sw];rfl
theorem Jq (e:Sx):bS Mo (Ny e)=yi e:=by
 cases e with
 |mk op line name arg index expr body els=>simp only[Mo,Ny,bS,yi,Sx.op,Sx.line,Sx.name,Sx.arg,Sx.index,Sx.expr,Sx.body,Sx.els,sw,zo];rfl
theorem Rr (x:Mo.den):yi (nJ x)=bS Mo x:=by
 simp only[Mo,nJ,bS,yi,sw,zo];rfl
theorem xJ (e:Xp):(wJ e).length=4:=by cases e;simp[wJ]
theorem De (e:Sx):(yi e).length=11:=by cases e;simp[yi,xJ]
theorem bC:∀ (T:Ty) (v:T.den),(bS T v).length=T.size
 |.int _,_=>rfl
 |.bool,_=>rfl
 |.str,_=>rfl
 |.sl _,_=>rfl
 |.st t,v=>bC t v
 |.pr a b,v=>by simp[bS,Ty.size,bC a,bC b]
 |.un,_=>rfl
 |.ex,v=>xJ v
 |.sm,v=>De v
theorem Ju (e:Xp):∀ x∈wJ e,x.isCell=ai:=by
 cases e with
 |mk op n name l=>
  intro x I;simp only[wJ,bm,ct,f_] at I;rcases I with rfl|rfl|rfl|rfl<;>rfl
theorem UT (e:Sx):∀ x∈yi e,x.isCell=ai:=by
 cases e with
 |mk op line name arg index expr body els=>
  intro x I;simp only[yi,bP,bm,ct,f_] at I;rcases I with (I|I)|I
  .rcases I with rfl|rfl|rfl|rfl|rfl<;>rfl
  .exact Ju _ _ I
  .rcases I with rfl|rfl<;>rfl
theorem nR:∀ (T:Ty) (v:T.den),∀ x∈bS T v,x.isCell=ai
 |.int _,_,x,I=>by simp only[bS,aL] at I;subst I;rfl
 |.bool,_,x,I=>by simp only[bS,aL] at I;subst I;rfl
 |.str,_,x,I=>by simp only[bS,aL] at I;subst I;rfl
 |.sl _,_,x,I=>by simp only[bS,aL] at I;subst I;rfl
 |.st t,v,x,I=>nR t v x I
 |.pr a b,v,x,I=>by
  simp only[bS,bP] at I;exact I.elim (nR a v.1 x) (nR b v.2 x)
 |.un,_,x,I=>by simp[bS] at I
 |.ex,v,x,I=>Ju v x I
 |.sm,v,x,I=>UT v x I
theorem Df:∀ (T:Ty) (v:T.den),T.one=ai->bS T v=[gJ T v]/\T.size=1
 |.int _,_,_=>⟨rfl,rfl⟩
 |.bool,_,_=>⟨rfl,rfl⟩
 |.str,_,_=>⟨rfl,rfl⟩
 |.sl _,_,_=>⟨rfl,rfl⟩
 |.st _,_,h=>by cases h
 |.pr _ _,_,h=>by cases h
 |.un,_,h=>by cases h
 |.ex,_,h=>by cases h
 |.sm,_,h=>by cases h
theorem qE:∀ (T:Ty) (v:T.den),T.one=aj->gJ T v= .agg (bS T v)
 |.int _,_,h=>by cases h
 |.bool,_,h=>by cases h
 |.str,_,h=>by cases h
 |.sl _,_,h=>by cases h
 |.st _,_,_=>rfl
 |.pr _ _,_,_=>rfl
 |.un,_,_=>rfl
 |.ex,_,_=>rfl
 |.sm,_,_=>rfl
theorem Ak (T:Ty) (v:T.den):(AV.f (gJ T v)).cs=(bS T v).map .f:=by
 cases h:T.one with
 |true=>
  rw[(Df T v h).1];cases T<;>simp only[Ty.one] at h<;>first|rfl|cases h
 |false=>rw[qE T v h];rfl
theorem fB {α:Type} {f:α->List FV} {n:Nat} (hf:∀ x,(f x).length=n):∀ (xs:List α),(xs.flatMap f).length=xs.length*n
 |[]=>by simp
 |x::r=>by rw[fI,bu,hf,fB hf r,bY,iM];omega
theorem EW {α:Type} {f:α->List FV} {n:Nat} (hf:∀ x,(f x).length=n):∀ (xs:List α) (j:Nat) (x:α),xs[j]? =af x->∃ r,(xs.flatMap f).drop (j*n)=f x++r
 |[],j,x,h=>by simp at h
 |y::r,j,x,h=>by
  cases j with
  |zero=>simp at h;subst h;exact⟨r.flatMap f,by simp⟩
  |succ j=>
   obtain⟨q,hq⟩:=EW hf r j x (by simpa using h);refine ⟨q,?_⟩;rw[fI,show (j+1)*n=(f y).length+j*n from by rw[hf,iM];omega,vb];simp[hq]
theorem Ri {α:Type} {f:α->List FV} {n:Nat} (hf:∀ x,(f x).length=n):∀ (xs:List α) (j:Nat) (x z:α),xs[j]? =af x->∀ (off:Nat) (vs:List FV),off+vs.length<=n->f z=AI.splice (f x) off vs->(xs.set j z).flatMap f=AI.splice (xs.flatMap f) (j*n+off) vs
 |[],j,x,z,h,_,_,_,_=>by simp at h
 |y::r,j,x,z,h,off,vs,hle,I=>by
  cases j with
  |zero=>
   simp at h;subst h;simp only[List.set_cons_zero,fI,I,Nat.zero_mul,bN];unfold AI.splice;have M:=hf y;rw[List.take_append,vb];have e1:off-(f y).length=0:=by omega
   have e2:off+vs.length-(f y).length=0:=by omega
   rw[e1,e2];simp[iv]
  |succ j=>
   have J:=Ri hf r j x z (by simpa using h) off vs hle I;simp only[List.set_cons_succ,fI,J];unfold AI.splice;have M:=hf y;have e0:(j+1)*n=(f y).length+j*n:=by rw[hf,iM];omega
   rw[e0,List.take_append,vb];have e1:(f y).length+j*n+off-(f y).length=j*n+off:=by omega
   have e2:(f y).length+j*n+off+vs.length-(f y).length=j*n+off+vs.length:=by omega
   rw[e1,e2,fX (by omega:(f y).length<=(f y).length+j*n+off),rM (by omega:(f y).length<=(f y).length+j*n+off+vs.length)];simp[iv]
theorem rG (T:Ty) (xs:List T.den):∀ x∈xs.flatMap (bS T),x.isCell=ai:=λx I=>by
 obtain⟨y,_,h⟩:=uY.1 I;exact nR T y x h
theorem jg {S T:Ty} {v:S.den} {x:T.den} (h:wT T v=af x):∃ e:S=T,x=e▸v:=by
 unfold wT at h;split at h
 .rename_i e;simp only[ak] at h;exact⟨e,h.symm⟩
 .cases h
theorem lH (h:bh):∀ (n:Nat) (T:Ty) (v:T.den) (l:List TV),cellsOf n T v=af l->cR h l=af ((bS T v).map .f)/\ku l=ai
 |0,_,_,_,he=>by simp[cellsOf] at he
 |n+1,.st t,v,l,he=>lH h n t v l he
 |n+1,.pr a b,v,l,he=>by
  simp only[cellsOf] at he;split at he
  .rename_i x y J I;simp only[ak] at he;subst he;obtain⟨h1,h2⟩:=lH h n a v.1 x J;obtain⟨M,Y⟩:=lH h n b v.2 y I;refine ⟨by rw[bS,cA];exact m_ h1 M,?_⟩;clear h1 M J I;induction x with
   |nil=>exact Y
   |cons z r U=>simp only[ku,av,gm] at h2 ⊢;exact⟨h2.1,U h2.2⟩
  .cases he
 |n+1,.un,v,l,he=>by simp only[cellsOf,ak] at he;subst he;exact⟨rfl,rfl⟩
 |n+1,.ex,v,l,he=>by rw[bS,<-Jr];exact lH h n MO (Nz v) l he
 |n+1,.sm,v,l,he=>by rw[bS,<-Jq];exact lH h n Mo (Ny v) l he
 |n+1,.int k,v,l,he=>by simp only[cellsOf,ak] at he;subst he;exact⟨rfl,rfl⟩
 |n+1,.bool,v,l,he=>by simp only[cellsOf,ak] at he;subst he;exact⟨rfl,rfl⟩
 |n+1,.str,v,l,he=>by simp only[cellsOf,ak] at he;subst he;exact⟨rfl,rfl⟩
 |n+1,.sl t,v,l,he=>by simp only[cellsOf,ak] at he;subst he;exact⟨rfl,rfl⟩
theorem NR {y:AV} (h:y.isCell=ai):y.cs=[y]:=by
 cases y with
 |f x=>cases x<;>first|rfl|cases h
 |agg l=>cases h
 |_=>rfl
theorem Ng {h:bh} {v:TV} {l:List TV} {y:AV} (hv:v.cs=af l) (I:cr h v=af y):cR h l=af y.cs/\ku l=ai:=by
 have one:(if v.isC then af [v] else ah)=af l->cR h l=af y.cs/\ku l=ai:=λhv=>by
  split at hv
  .rename_i hc;simp only[ak] at hv;subst hv;exact⟨by rw[NR (N9 I hc)];exact oW I rfl,by simp[ku,hc]⟩
  .cases hv
 cases v with
 |agg q=>
  simp only[TV.cs] at hv;split at hv
  .rename_i hc;simp only[ak] at hv;subst hv;simp only[cr] at I;split at I
   .rename_i J hl;simp only[ak] at I;subst I;exact⟨hl,hc⟩
   .cases I
  .cases hv
 |f T x=>
  simp only[TV.cs] at hv;simp only[cr,ak] at I;subst I;rw[Ak];exact lH h 40 T x l hv
 |fel T xs j hj off=>exact one hv
 |pel id sz j off=>exact one hv
 |ptr id off=>exact one hv
 |csl id off z=>exact one hv
 |row id=>exact one hv
 |emp=>exact one hv
 |nil=>exact one hv
 |mp id=>exact one hv
 |rtl id M=>exact one hv
 |tup q=>exact one hv
 |clo g q=>exact one hv
 |undef=>exact one hv
 |np=>exact one hv
 |anyb=>exact one hv
def D9 (h:bh) (H H':HF) (m:Nat):Prop:=∀ id,aN m id=ai->H (nm id)=bA h (nm id)/\H' (nm id)=ah
theorem D9.zero {h:bh} {H H':HF}:D9 h H H' 0:=λid hid=>by simp at hid
theorem D9.or {h:bh} {H H':HF} {a b:Nat} (g:D9 h H H' (a|||b)):D9 h H H' a/\D9 h H H' b:=
 ⟨λid hid=>g id (by rw[bp,hid];rfl),λid hid=>g id (by rw[bp,hid];simp)⟩
theorem b8 {i j:Nat}:aN (k_ i) j=ai↔i=j:=by
 unfold k_;rw[Nat.one_shiftLeft,Nat.testBit_two_pow];simp
section pack
variable {h:bh} {H H':HF}
theorem xR (d:vC H H') {T:Ty} {v:TV} {x:T.den} {m:Nat} {y:AV} (I:iF h T v=af (x,m)) (J:cr h v=af y) (g:D9 h H H' m):lM H H' y (.f (gJ T x))/\y.cs.length=T.size/\(T.one=ai->y.isCell=ai)/\ia H H' y.cs ((bS T x).map .f):=by
 cases v with
 |f S v=>
  simp only[iF] at I;split at I
  .rename_i z M;simp only[ak,aD] at I;obtain⟨rfl,_⟩:=I;obtain⟨e,rfl⟩:=jg M;subst e;simp only[cr,ak] at J;subst J;refine ⟨lM.refl d _,by rw[Ak,bX,bC],λY=>?_,by rw[Ak];exact ia.refl d _⟩;cases S<;>simp only[Ty.one] at Y<;>first|rfl|cases Y
  .cases I
 |emp=>
  simp only[iF] at I;split at I
  .simp only[ak,aD] at I;obtain⟨rfl,_⟩:=I;simp only[cr,ak] at J;subst J;exact⟨Le.emp.toH d,rfl,λ_=>rfl,⟨Le.emp.toH d,trivial⟩⟩
  .cases I
 |nil=>
  simp only[iF] at I;split at I
  .simp only[ak,aD] at I;obtain⟨rfl,_⟩:=I;simp only[cr,ak] at J;subst J;exact⟨Le.nil.toH d,rfl,λ_=>rfl,⟨Le.nil.toH d,trivial⟩⟩
  .cases I
 |row id=>
  simp only[iF] at I;split at I
  .rename_i ty p S xs hb;split at I
   .rename_i z M;simp only[ak,aD] at I;obtain⟨rfl,rfl⟩:=I;obtain⟨e,rfl⟩:=jg M;subst e;obtain⟨U,Z⟩:=g id (b8.2 rfl);rw[bJ,hb] at U;simp only[cr,eC,hb,ak] at J;subst J;have key:lM H H' (fx p id S.size xs.length) (.f (gJ (.sl S) xs)):=by
     unfold fx;split
     .rename_i hp;simp only[av,cZ] at hp;have:xs=[]:=gH.1 hp.2;subst this;exact Le.emp.toH d
     .rename_i hp;simp only[aI,kM,ay hp] at U;exact lM.row d U Z (fB (bC S) xs)
    have hc:(fx p id S.size xs.length).isCell=ai:=by unfold fx;split<;>rfl
    refine ⟨key,by rw[NR hc];rfl,λ_=>hc,?_⟩;rw[NR hc];exact⟨key,trivial⟩
   .cases I
  .cases I
 |fel T xs j hj off=>simp[iF] at I
 |pel id sz j off=>simp[iF] at I
 |ptr id off=>simp[iF] at I
 |csl id off z=>simp[iF] at I
 |mp id=>simp[iF] at I
 |rtl id jj=>simp[iF] at I
 |agg q=>simp[iF] at I
 |tup q=>simp[iF] at I
 |clo f q=>simp[iF] at I
 |undef=>simp[iF] at I
 |np=>simp[iF] at I
 |anyb=>simp[iF] at I
theorem rZ (d:vC H H'):∀ (n:Nat) (T:Ty) (l:List TV) (x:T.den) (m:Nat) (r:List TV) (I:List AV),eX h n T l=af (x,m,r)->cR h l=af I->D9 h H H' m->∃ l1 l2,I=l1++l2/\cR h r=af l2/\ia H H' l1 ((bS T x).map .f)
 |0,_,_,_,_,_,_,hp,_,_=>by simp[eX] at hp
 |n+1,.st t,l,x,m,r,I,hp,hl,g=>rZ d n t l x m r I hp hl g
 |n+1,.pr a b,l,x,m,r,I,hp,hl,g=>by
  simp only[eX] at hp;split at hp
  .rename_i J m1 r1 h1;split at hp
   .rename_i Y m2 r2 h2;simp only[ak,aD] at hp;obtain⟨rfl,rfl,rfl⟩:=hp;obtain⟨ga,gb⟩:=g.or;obtain⟨l1,l2,rfl,U,M⟩:=rZ d n a l J m1 r1 I h1 hl ga;obtain⟨l3,Z,rfl,q3,q4⟩:=rZ d n b r1 Y m2 r2 l2 h2 U gb;refine ⟨l1++l3,Z,by simp,q3,?_⟩;rw[bS,cA];exact M.append q4
   .cases hp
  .cases hp
 |n+1,.un,l,x,m,r,I,hp,hl,g=>by
  simp only[eX,ak,aD] at hp;obtain⟨_,_,rfl⟩:=hp;exact⟨[],I,rfl,hl,trivial⟩
 |n+1,.ex,l,x,m,r,I,hp,hl,g=>by
  simp only[eX] at hp;split at hp
  .rename_i J m1 r1 h1;simp only[ak,aD] at hp;obtain⟨rfl,rfl,rfl⟩:=hp;rw[bS,Rs];exact rZ d n MO l J m1 r1 I h1 hl g
  .cases hp
 |n+1,.sm,l,x,m,r,I,hp,hl,g=>by
  simp only[eX] at hp;split at hp
  .rename_i J m1 r1 h1;simp only[ak,aD] at hp;obtain⟨rfl,rfl,rfl⟩:=hp;rw[bS,Rr];exact rZ d n Mo l J m1 r1 I h1 hl g
  .cases hp
 |n+1,.int k,l,x,m,r,I,hp,hl,g=>by
  simp only[eX] at hp;split at hp
  .rename_i c q;split at hp
   .rename_i J m1 h1;simp only[ak,aD] at hp;obtain⟨rfl,rfl,rfl⟩:=hp;obtain⟨y,l2,rfl,U,M⟩:=c5 hl;exact⟨[y],l2,rfl,M,⟨(xR d h1 U g).1,trivial⟩⟩
   .cases hp
  .cases hp
 |n+1,.bool,l,x,m,r,I,hp,hl,g=>by
  simp only[eX] at hp;split at hp
  .rename_i c q;split at hp
   .rename_i J m1 h1;simp only[ak,aD] at hp;obtain⟨rfl,rfl,rfl⟩:=hp;obtain⟨y,l2,rfl,U,M⟩:=c5 hl;exact⟨[y],l2,rfl,M,⟨(xR d h1 U g).1,trivial⟩⟩
   .cases hp
  .cases hp
 |n+1,.str,l,x,m,r,I,hp,hl,g=>by
  simp only[eX] at hp;split at hp
  .rename_i c q;split at hp
   .rename_i J m1 h1;simp only[ak,aD] at hp;obtain⟨rfl,rfl,rfl⟩:=hp;obtain⟨y,l2,rfl,U,M⟩:=c5 hl;exact⟨[y],l2,rfl,M,⟨(xR d h1 U g).1,trivial⟩⟩
   .cases hp
  .cases hp
 |n+1,.sl t,l,x,m,r,I,hp,hl,g=>by
  simp only[eX] at hp;split at hp
  .rename_i c q;split at hp
   .rename_i J m1 h1;simp only[ak,aD] at hp;obtain⟨rfl,rfl,rfl⟩:=hp;obtain⟨y,l2,rfl,U,M⟩:=c5 hl;exact⟨[y],l2,rfl,M,⟨(xR d h1 U g).1,trivial⟩⟩
   .cases hp
  .cases hp
theorem T2 (d:vC H H') {n:Nat} {T:Ty} {l:List TV} {x:T.den} {m:Nat} {I:List AV} (hp:eX h n T l=af (x,m,[])) (hl:cR h l=af I) (g:D9 h H H' m):ia H H' I ((bS T x).map .f):=by
 obtain⟨l1,l2,rfl,J,M⟩:=rZ d n T l x m [] I hp hl g;simp only[cR,ak] at J;subst J;simpa using M
theorem Pj (d:vC H H') {T:Ty} {v:TV} {x:T.den} {m:Nat} {y:AV} (I:DQ h T v=af (x,m)) (J:cr h v=af y) (g:D9 h H H' m):lM H H' y (.f (gJ T x))/\ia H H' y.cs ((bS T x).map .f):=by
 have other:iF h T v=af (x,m)->lM H H' y (.f (gJ T x))/\ia H H' y.cs ((bS T x).map .f):=λI=>by
  obtain⟨h1,_,_,h2⟩:=xR d I J g;exact⟨h1,h2⟩
 cases v with
 |agg l=>
  simp only[DQ] at I;split at I
  .cases I
  .rename_i U;split at I
   .rename_i M m1 h1;simp only[ak,aD] at I;obtain⟨rfl,rfl⟩:=I;simp only[cr] at J;split at J
    .rename_i Y hl;simp only[ak] at J;subst J;have:=T2 d h1 hl g;refine ⟨?_,this⟩;rw[qE T M (by simpa using U)];exact lM.aggL this (nR T M)
    .cases J
   .cases I
 |f S v=>exact other I
 |fel T xs j hj off=>exact other I
 |pel id sz j off=>exact other I
 |ptr id off=>exact other I
 |csl id off z=>exact other I
 |row id=>exact other I
 |emp=>exact other I
 |nil=>exact other I
 |mp id=>exact other I
 |rtl id Z=>exact other I
 |tup q=>exact other I
 |clo g q=>exact other I
 |undef=>exact other I
 |np=>exact other I
 |anyb=>exact other I
theorem CG (d:vC H H') {T:Ty}:∀ (n:Nat) (l:List TV) (xs:List T.den) (m:Nat) (I:List AV),yO h T n l=af (xs,m)->cR h l=af I->D9 h H H' m->ia H H' I ((xs.flatMap (bS T)).map .f)/\xs.length=n
 |0,[],xs,m,I,hp,hl,g=>by
  simp only[yO,ak,aD] at hp;obtain⟨rfl,_⟩:=hp;simp only[cR,ak] at hl;subst hl;exact⟨trivial,rfl⟩
 |0,_::_,xs,m,I,hp,hl,g=>by simp[yO] at hp
 |n+1,l,xs,m,I,hp,hl,g=>by
  simp only[yO] at hp;split at hp
  .rename_i M m1 r1 h1;split at hp
   .rename_i J m2 h2;simp only[ak,aD] at hp;obtain⟨rfl,rfl⟩:=hp;obtain⟨ga,Z⟩:=g.or;obtain⟨l1,l2,rfl,Y,U⟩:=rZ d 40 T l M m1 r1 I h1 hl ga;obtain⟨q3,q4⟩:=CG d n r1 J m2 l2 h2 Y Z;refine ⟨?_,by simp[q4]⟩;rw[fI,cA];exact U.append q3
   .cases hp
  .cases hp
theorem uA (h:bh):∀ (n:Nat) (T:Ty) (v:T.den) (off sz:Nat) (ag:Bool) (u:TV),nX n T v off sz ag=af u->off+sz<=T.size/\∃ y,cr h u=af (.f y)/\(ag=aj->sz=1/\(bS T v)[off]? =af y)/\(ag=ai->y= .agg (((bS T v).drop off).take sz))
 |0,_,_,_,_,_,_,hg=>by simp[nX] at hg
 |n+1,.st t,v,off,sz,ag,u,hg=>by
  simp only[nX] at hg;split at hg
  .rename_i hc;simp only[av] at hc;obtain⟨⟨h1,h2⟩,rfl⟩:=hc;have h1:=aw h1;have h2:=aw h2;subst h1;subst h2;simp only[ak] at hg;subst hg;refine ⟨by simp[Ty.size],_,rfl,λh=>(by cases h),λ_=>?_⟩;simp only[gJ,bS,List.drop_zero];rw[<- bC t v,cP]
  .exact uA h n t v off sz ag u hg
 |n+1,.pr a b,v,off,sz,ag,u,hg=>by
  simp only[nX] at hg;have hla:=bC a v.1;have hlb:=bC b v.2;split at hg
  .rename_i hlt;have hlt:off<a.size:=a8 hlt;obtain⟨h1,y,h2,J,I⟩:=uA h n a v.1 off sz ag u hg;refine ⟨by simp only[Ty.size];omega,y,h2,λe=>?_,λe=>?_⟩
   .obtain⟨U,M⟩:=J e;exact⟨U,by rw[bS,bO (by omega)];exact M⟩
   .rw[I e,bS];have:((bS a v.1++bS b v.2).drop off).take sz=((bS a v.1).drop off).take sz:=by
     rw[D7 (by omega),kZ (by simp;omega)]
    rw[this]
  .rename_i hlt;have hlt:¬off<a.size:=λh=>hlt (bI h)
   obtain⟨h1,y,h2,J,I⟩:=uA h n b v.2 (off-a.size) sz ag u hg;refine ⟨by simp only[Ty.size];omega,y,h2,λe=>?_,λe=>?_⟩
   .obtain⟨U,M⟩:=J e;exact⟨U,by rw[bS,b7 (by omega),hla];exact M⟩
   .rw[I e,bS];have:(bS a v.1++bS b v.2).drop off=(bS b v.2).drop (off-a.size):=by
     rw[vb,hla,rM (by omega)];simp
    rw[this]
 |n+1,.un,v,off,sz,ag,u,hg=>by simp[nX] at hg
 |n+1,.ex,v,off,sz,ag,u,hg=>by
  simp only[nX] at hg;split at hg
  .rename_i hc;simp only[av] at hc;obtain⟨⟨h1,h2⟩,rfl⟩:=hc;have h1:=aw h1;have h2:=aw h2;subst h1;subst h2;simp only[ak] at hg;subst hg;refine ⟨by simp[Ty.size],_,rfl,λh=>(by cases h),λ_=>?_⟩;simp only[gJ,bS,List.drop_zero];rw[<- xJ v,cP]
  .obtain⟨h1,y,h2,J,I⟩:=uA h n MO (Nz v) off sz ag u hg;rw[Jr] at J I;exact⟨h1,y,h2,J,I⟩
 |n+1,.sm,v,off,sz,ag,u,hg=>by
  simp only[nX] at hg;split at hg
  .rename_i hc;simp only[av] at hc;obtain⟨⟨h1,h2⟩,rfl⟩:=hc;have h1:=aw h1;have h2:=aw h2;subst h1;subst h2;simp only[ak] at hg;subst hg;refine ⟨by simp[Ty.size],_,rfl,λh=>(by cases h),λ_=>?_⟩;simp only[gJ,bS,List.drop_zero];rw[<- De v,cP]
  .obtain⟨h1,y,h2,J,I⟩:=uA h n Mo (Ny v) off sz ag u hg;rw[Jq] at J I;exact⟨h1,y,h2,J,I⟩
 |n+1,.int k,v,off,sz,ag,u,hg=>by
  simp only[nX] at hg;split at hg
  .rename_i hc;simp only[av,ey] at hc;obtain⟨⟨h1,h2⟩,rfl⟩:=hc;have h1:=aw h1;have h2:=aw h2;subst h1;subst h2;simp only[ak] at hg;subst hg;exact⟨by simp[Ty.size],_,rfl,λ_=>⟨rfl,rfl⟩,λh=>by cases h⟩
  .cases hg
 |n+1,.bool,v,off,sz,ag,u,hg=>by
  simp only[nX] at hg;split at hg
  .rename_i hc;simp only[av,ey] at hc;obtain⟨⟨h1,h2⟩,rfl⟩:=hc;have h1:=aw h1;have h2:=aw h2;subst h1;subst h2;simp only[ak] at hg;subst hg;exact⟨by simp[Ty.size],_,rfl,λ_=>⟨rfl,rfl⟩,λh=>by cases h⟩
  .cases hg
 |n+1,.str,v,off,sz,ag,u,hg=>by
  simp only[nX] at hg;split at hg
  .rename_i hc;simp only[av,ey] at hc;obtain⟨⟨h1,h2⟩,rfl⟩:=hc;have h1:=aw h1;have h2:=aw h2;subst h1;subst h2;simp only[ak] at hg;subst hg;exact⟨by simp[Ty.size],_,rfl,λ_=>⟨rfl,rfl⟩,λh=>by cases h⟩
  .cases hg
 |n+1,.sl t,v,off,sz,ag,u,hg=>by
  simp only[nX] at hg;split at hg
  .rename_i hc;simp only[av,ey] at hc;obtain⟨⟨h1,h2⟩,rfl⟩:=hc;have h1:=aw h1;have h2:=aw h2;subst h1;subst h2;simp only[ak] at hg;subst hg;exact⟨by simp[Ty.size],_,rfl,λ_=>⟨rfl,rfl⟩,λh=>by cases h⟩
  .cases hg
theorem TJ {α:Type} (l vs:List α) (h:vs.length=l.length):AI.splice l 0 vs=vs:=by
 unfold AI.splice;rw[bN,h,List.drop_length];simp
theorem PZ {α:Type} (a b vs:List α) (off:Nat) (h:off+vs.length<=a.length):AI.splice (a++b) off vs=AI.splice a off vs++b:=by
 unfold AI.splice;rw[kZ (by omega),D7 (by omega)];simp[iv]
theorem NG {α:Type} (a b vs:List α) (off:Nat) (h:a.length<=off):AI.splice (a++b) off vs=a++AI.splice b (off-a.length) vs:=by
 unfold AI.splice;rw[List.take_append,vb,fX h,rM (by omega),show off+vs.length-a.length=off-a.length+vs.length from by omega];simp[iv]
def Xz (H H':HF) (y:AV) (T:Ty) (v z:T.den) (off sz:Nat):Prop:=∃ fs:List FV,ia H H' y.cs (fs.map .f)/\fs.length=sz/\off+sz<=T.size/\bS T z=AI.splice (bS T v) off fs/\∀ x∈fs,x.isCell=ai
theorem Xz.whole {y:AV} {T:Ty} {v z:T.den} {off sz:Nat} (h0:off=0) (hs:sz=T.size) (hl:ia H H' y.cs ((bS T z).map .f)):Xz H H' y T v z off sz:=by
 subst h0;subst hs;exact⟨bS T z,hl,bC T z,by omega,(TJ _ _ (by rw[bC,bC])).symm,nR T z⟩
theorem v_ (d:vC H H') {u:TV} {y:AV} (I:cr h u=af y):∀ (n:Nat) (T:Ty) (v:T.den) (off sz:Nat) (z:T.den) (m:Nat),gP h u n T v off sz=af (z,m)->D9 h H H' m->Xz H H' y T v z off sz
 |0,_,_,_,_,_,_,hg,_=>by simp[gP] at hg
 |n+1,.st t,v,off,sz,z,m,hg,g=>by
  simp only[gP] at hg;split at hg
  .rename_i q hq;split at hq
   .rename_i hc;simp only[av] at hc;simp only[ak] at hg;subst hg;exact .whole (aw hc.1) (aw hc.2) (Pj d hq I g).2
   .cases hq
  .exact v_ d I n t v off sz z m hg g
 |n+1,.pr a b,v,off,sz,z,m,hg,g=>by
  simp only[gP] at hg;have hla:=bC a v.1;split at hg
  .rename_i hlt;split at hg
   .rename_i J m1 h1;simp only[ak,aD] at hg;obtain⟨rfl,rfl⟩:=hg;obtain⟨fs,U,M,q3,q4,q5⟩:=v_ d I n a v.1 off sz J m1 h1 g;refine ⟨fs,U,M,by simp only[Ty.size];omega,?_,q5⟩;rw[bS,bS,PZ _ _ _ _ (by omega),q4]
   .cases hg
  .rename_i hlt;have hlt:¬off<a.size:=λh=>hlt (bI h)
   split at hg
   .rename_i J m1 h1;simp only[ak,aD] at hg;obtain⟨rfl,rfl⟩:=hg;obtain⟨fs,U,M,q3,q4,q5⟩:=v_ d I n b v.2 (off-a.size) sz J m1 h1 g;refine ⟨fs,U,M,by simp only[Ty.size];omega,?_,q5⟩;rw[bS,bS,NG _ _ _ _ (by omega),q4,hla]
   .cases hg
 |n+1,.un,v,off,sz,z,m,hg,g=>by simp[gP] at hg
 |n+1,.ex,v,off,sz,z,m,hg,g=>by
  simp only[gP] at hg;split at hg
  .rename_i q hq;split at hq
   .rename_i hc;simp only[av] at hc;simp only[ak] at hg;subst hg;exact .whole (aw hc.1) (aw hc.2) (Pj d hq I g).2
   .cases hq
  .split at hg
   .rename_i J m1 h1;simp only[ak,aD] at hg;obtain⟨rfl,rfl⟩:=hg;obtain⟨fs,U,M,q3,q4,q5⟩:=v_ d I n MO (Nz v) off sz J m1 h1 g;exact⟨fs,U,M,q3,by rw[bS,bS,Rs,q4,Jr],q5⟩
   .cases hg
 |n+1,.sm,v,off,sz,z,m,hg,g=>by
  simp only[gP] at hg;split at hg
  .rename_i q hq;split at hq
   .rename_i hc;simp only[av] at hc;simp only[ak] at hg;subst hg;exact .whole (aw hc.1) (aw hc.2) (Pj d hq I g).2
   .cases hq
  .split at hg
   .rename_i J m1 h1;simp only[ak,aD] at hg;obtain⟨rfl,rfl⟩:=hg;obtain⟨fs,U,M,q3,q4,q5⟩:=v_ d I n Mo (Ny v) off sz J m1 h1 g;exact⟨fs,U,M,q3,by rw[bS,bS,Rr,q4,Jq],q5⟩
   .cases hg
 |n+1,.int k,v,off,sz,z,m,hg,g=>by
  simp only[gP] at hg;split at hg
  .rename_i hc;simp only[av] at hc;exact .whole (aw hc.1) (aw hc.2) (xR d hg I g).2.2.2
  .cases hg
 |n+1,.bool,v,off,sz,z,m,hg,g=>by
  simp only[gP] at hg;split at hg
  .rename_i hc;simp only[av] at hc;exact .whole (aw hc.1) (aw hc.2) (xR d hg I g).2.2.2
  .cases hg
 |n+1,.str,v,off,sz,z,m,hg,g=>by
  simp only[gP] at hg;split at hg
  .rename_i hc;simp only[av] at hc;exact .whole (aw hc.1) (aw hc.2) (xR d hg I g).2.2.2
  .cases hg
 |n+1,.sl t,v,off,sz,z,m,hg,g=>by
  simp only[gP] at hg;split at hg
  .rename_i hc;simp only[av] at hc;exact .whole (aw hc.1) (aw hc.2) (xR d hg I g).2.2.2
  .cases hg
theorem Kp:∀ {a b:List Value},Ss a b=ai->a=b
 |[],[],_=>rfl
 |[],_::_,h=>by cases h
 |_::_,[],h=>by cases h
 |x::xs,y::ys,h=>by
  simp only[Ss,av] at h;rw[afj h.1,Kp h.2]
theorem zero_ok (d:vC H H'):∀ T:Ty,ia H H' ((sS T).map raw) ((bS T T.zero).map .f)
 |.int k=>⟨lM.refl d _,trivial⟩
 |.bool=>⟨lM.refl d _,trivial⟩
 |.str=>⟨lM.refl d _,trivial⟩
 |.sl t=>⟨Le.nil.toH d,trivial⟩
 |.st t=>zero_ok d t
 |.pr a b=>by
  simp only[sS,Ty.zero,bS,cA];exact (zero_ok d a).append (zero_ok d b)
 |.un=>trivial
 |.ex=>⟨lM.refl d _,lM.refl d _,lM.refl d _,Le.nil.toH d,trivial⟩
 |.sm=>⟨lM.refl d _,lM.refl d _,lM.refl d _,lM.refl d _,Le.nil.toH d,lM.refl d _,lM.refl d _,lM.refl d _,Le.nil.toH d,Le.nil.toH d,Le.nil.toH d,trivial⟩
theorem Hu (d:vC H H') (T:Ty):∀ n,ia H H' ((repl (sS T) n).map .f) (((aG n T.zero).flatMap (bS T)).map .f)
 |0=>trivial
 |n+1=>by
  rw[repl,List.replicate_succ,fI,cA,cA];have h1:=zero_ok (H:=H) (H':=H') d T;have:((sS T).map .raw).map AV.f=(sS T).map raw:=by rw[zX];rfl
  rw[this];exact h1.append (Hu d T n)
end pack
structure ma (h:bh) (nx:Nat):Prop where
 cells:∀ id ty l,h.get id=af (.cells ty l)->kO h l=ai
 low:∀ id b,h.get id=af b->id<nx
def tM (e:iJ) (h:bh):Prop:=∀ t v,e.get t=af v->Ld h v=ai
structure jm (P:Program) (o:Oper) (still:Bool) (e:iJ) (h:bh) (nx:Nat) (v:TV) (rd wr:Nat) (h':bh) (nx':Nat):Prop where
 ex:∃ f:Br,gL P o (fR e h) (bA h) f/\(∀ y,cr h' v=af y->f.val=y)/\eS (bA h) f.wr f.nw=bA h'/\(∀ n∈f.rd,aN rd (ow n)=ai)/\(∀ n∈f.wr,aN wr (ow n)=ai)/\(∀ n∈f.N,nx<=ow n/\ow n<nx')
 rows:cw h h'
 inv:ma h' nx'
 grows:nx<=nx'
 st:still=ai->rd=0/\wr=0
def kN {R:Type} (P:Program) (o:Oper) (still:Bool) (e:iJ) (h:bh) (nx:Nat) (K:KO R) (r:R):Prop:=
 ∃ v rd wr h' nx',K v rd wr h' nx'=af r/\jm P o still e h nx v rd wr h' nx'
theorem eo {R:Type} {b:Bool} {k:b=ai->Option R} {r:R} (h:chk b k=af r):∃ hb:b=ai,k hb=af r:=by
 cases b with
 |true=>exact⟨rfl,h⟩
 |false=>cases h
theorem po {R:Type} {b:Bool} {t f:Option R} {r:R} (h:bcase b t f=af r):(b=ai/\t=af r)\/(b=aj/\f=af r):=by
 cases b with
 |true=>exact .inl ⟨rfl,h⟩
 |false=>exact .inr ⟨rfl,h⟩
theorem dJ {α R:Type} {o:Option α} {k:α->Option R} {r:R} (h:obind o k=af r):∃ x,o=af x/\k x=af r:=by
 cases o with
 |some x=>exact⟨x,rfl,h⟩
 |none=>cases h
theorem II {j:Int} {n:Nat} (h:fe j n=ai):0<=j/\j<n/\j.toNat<n:=by
 simp only[fe,c7,fO,av,be] at h;omega
theorem gL.envLe {P:Program} {o:Oper} {e e2:EF} {h:HF} {f:Br} (ht:gL P o e h f) (hle:∀ t y,.tmp t∈o.op.operands->e t=af y->∃ J,e2 t=af J/\Le J y):gL P o e2 h f:=by
 intro φ E h' w a h1 h2 Z Y U;refine ht φ E h' w a h1 h2 (λt I y M=>?_) Y U;obtain⟨J,g1,g2⟩:=hle t y I M;exact g2 _ _ _ _ (Z t I J g1)
theorem J8 (h:bh) {v:Value} {u:TV} (hc:cst v=af u):cr h u=af (raw v)/\v.oneCell'=ai/\u.isC=ai:=by
 unfold cst at hc;split at hc<;>cases hc<;>exact⟨rfl,rfl,rfl⟩
theorem vz (h:bh):∀ {z:List Value} {l:List TV},J7 z=af l->cR h l=af (z.map raw)/\(∀ x∈z,x.oneCell'=ai)/\ku l=ai
 |[],l,hc=>by simp only[J7,ak] at hc;subst hc;exact⟨rfl,by simp,rfl⟩
 |v::r,l,hc=>by
  simp only[J7] at hc;split at hc
  .rename_i x l' J hl;simp only[ak] at hc;subst hc;obtain⟨h1,h2,Z⟩:=J8 h J;obtain⟨Y,U,M⟩:=vz h hl;refine ⟨oW h1 Y,λy I=>?_,by simp[ku,Z,M]⟩;rcases bm.1 I with rfl|I
   .exact h2
   .exact U y I
  .cases hc
theorem bM {e:iJ} {h:bh} (hi:tM e h) {x:Operand} {v:TV} (I:fJ e x=af v):∃ y,mC (K2 e h) x=af y/\cr h v=af y:=by
 cases x with
 |tmp t=>
  simp only[fJ] at I;obtain⟨y,J⟩:=p_ h v (hi t v I);refine ⟨y,?_,J⟩;simp only[mC];rw[vu];simp only[fR,I,aI,J]
 |const c=>
  simp only[fJ] at I;unfold aip at I;split at I
  .rename_i vs;split at I
   .rename_i h1;split at I
    .rename_i l hl;simp only[ak] at I;subst I;refine ⟨.agg (vs.toList.map raw),?_,by simp only[cr,(vz h hl).1]⟩;simp only[mC,Fa,h1,bG];rfl
    .cases I
   .cases I
  .rename_i hn;refine ⟨raw c,?_,(J8 h I).1⟩;simp only[mC];unfold Fa;split
   .rename_i vs;exact cV rfl (hn vs)
   .rfl
 |func g=>
  simp only[fJ,ak] at I;subst I;exact⟨_,rfl,rfl⟩
 |global g=>
  simp only[fJ] at I;cases hg:G g with
  |none=>rw[hg] at I;cases I
  |some cells=>
   rw[hg] at I;simp only[ak] at I;subst I;have hcells:cells=CP:=by
    unfold G at hg;split at hg
    .cases hg;rfl
    .cases hg
   subst hcells;exact⟨_,by simp only[mC,hg];rfl,rfl⟩
theorem yQ {e:iJ} {h:bh} (hi:tM e h):∀ {xs:List Operand} {l:List TV},Fx e xs=af l->∃ J,W7 (K2 e h) xs=af J/\cR h l=af J
 |[],l,I=>by simp only[Fx,ak] at I;subst I;exact⟨[],rfl,rfl⟩
 |x::xs,l,I=>by
  simp only[Fx] at I;split at I
  .rename_i y U;split at I
   .rename_i ys hys;simp only[ak] at I;subst I;obtain⟨M,h1,h2⟩:=bM hi U;obtain⟨J,Z,Y⟩:=yQ hi hys;exact⟨M::J,by simp only[W7,h1,Z],oW h2 Y⟩
   .cases I
  .cases I
section ops
variable {R:Type} {P:Program} {o:Oper} {e:iJ} {h:bh} {nx:Nat} {K:KO R} {r:R}
theorem jm.pure {s:Zd} {st:Bool} (hinv:ma h nx) (hc:dk P o.op=af s) {H:nV} (U:H.get=bA h) {k:Nat} {y0:AV} {rdl:List Nat} (M:eQ s (K2 e h) H k=af ⟨y0,rdl,[],[],[]⟩) {v:TV} (hv:∀ y,cr h v=af y->Le y0 y) {rd:Nat} (hrd:∀ n∈rdl,aN rd (ow n)=ai) (hst:st=ai->rd=0):jm P o st e h nx v rd 0 h nx:=by
 have ht:=Ik hc M;rw[vu,U] at ht;refine ⟨?_,λ_ _ h=>h,hinv,bW _,λhs=>⟨hst hs,rfl⟩⟩;have key:∀ y,Le y0 y->gL P o (fR e h) (bA h) ⟨y,rdl,[],je [],[]⟩:=λy hle=>
  gL.view ht (λi hi=>by cases hi) λh' _ _=>⟨Ky.refl _,hle.toH (vC.refl _)⟩
 cases J:cr h v with
 |none=>exact⟨_,ht,λy I=>by simp at I,by simp[Cb.eff,tZ],hrd,by simp[Cb.eff],by simp[Cb.eff]⟩
 |some y=>exact⟨_,key y (hv y J),λY I=>by simpa using I,by simp[tZ],hrd,by simp,by simp⟩
theorem kN.q {s:Zd} {st:Bool} (hinv:ma h nx) (hc:dk P o.op=af s) {k:Nat} {y0:AV} (J:∀ H:nV,H.get=bA h->eQ s (K2 e h) H k=rv y0) {v:TV} (hv:∀ y,cr h v=af y->Le y0 y) (hk:K v 0 0 h nx=af r):kN P o st e h nx K r:=by
 obtain⟨H,I⟩:=jJ h;exact⟨v,0,0,h,nx,hk,jm.pure hinv hc I (J H I) hv (by simp) λ_=>rfl⟩
theorem dt {y0:AV} {v:TV} (hv:cr h v=af y0):∀ y,cr h v=af y->Le y0 y:=λy I=>by rw[hv] at I;cases I;exact Le.refl _
theorem agq {T:Ty} {xs:List T.den} {j:Int} (hj:fe j xs.length=ai) {off sz:Nat} {ag:Bool} {u:TV} (hg:nX 40 T (aJ xs j) off sz ag=af u):
 ∃ y,cr h u=af (.f y)/\(BC.fz (xs.flatMap (bS T))).sub? (j.toNat*T.size+off) sz ag=af (.f y):=by
 obtain⟨h1,y,h2,Y,U⟩:=uA h 40 T _ off sz ag u hg;refine ⟨y,h2,?_⟩;obtain⟨_,_,hlt⟩:=II hj;have I:xs[j.toNat]? =af (aJ xs j):=by
  unfold aJ;rw[aA,aB hlt];rfl
 obtain⟨q,hq⟩:=EW (bC T) xs j.toNat _ I;have hlen:=fB (bC T) xs;have hle:(j.toNat+1)*T.size<=xs.length*T.size:=cG _ hlt;rw[iM] at hle;have hl:=bC T (aJ xs j);cases ag with
 |false=>
  obtain⟨M,J⟩:=Y rfl;subst M;simp only[BC.sub?,BC.get];have:(xs.flatMap (bS T))[j.toNat*T.size+off]? =af y:=by
   rw[<- gW,hq,bO (by omega)];exact J
  rw[this];rfl
 |true=>
  simp only[BC.sub?];rw[aF (bI (by omega)),U rfl,<-List.drop_drop,hq,D7 (by omega),kZ (by simp;omega)]
theorem agr {T:Ty} {v:T.den} {off sz:Nat} {ag:Bool} {u:TV} (hg:nX 40 T v off sz ag=af u):
 ∃ y,cr h u=af (.f y)/\(BC.fz (bS T v)).sub? off sz ag=af (.f y):=by
 obtain⟨h1,y,h2,U,M⟩:=uA h 40 T _ off sz ag u hg;refine ⟨y,h2,?_⟩;have hl:=bC T v;cases ag with
 |false=>
  obtain⟨J,I⟩:=U rfl;subst J;simp only[BC.sub?,BC.get,I];rfl
 |true=>
  simp only[BC.sub?];rw[aF (bI (by omega)),M rfl]
theorem Wh {l:List TV} {I:List AV} (hl:cR h l=af I) {off sz:Nat} {ag:Bool} {u:TV} (hs:TE l off sz ag=af u):∃ y,cr h u=af y/\(BC.mx I).sub? off sz ag=af y:=by
 cases ag with
 |false=>
  simp only[TE] at hs;split at hs
  .rename_i h1;have h1:=aw h1;subst h1;obtain⟨y,h2,J⟩:=l7 hl off u hs;exact⟨y,J,by simp only[BC.sub?,BC.get,h2]⟩
  .cases hs
 |true=>
  simp only[TE] at hs;split at hs
  .rename_i h1;simp only[ak] at hs;subst hs;have h2:=EZ sz (E3 off hl);exact⟨.agg ((I.drop off).take sz),by simp only[cr,h2],by simp only[BC.sub?,js hl,h1,bG]⟩
  .cases hs
theorem Qu {v:TV} {n:Nat} {y:AV} (hn:lenOf h v=af n) (I:cr h v=af y):y.slen=af n:=by
 unfold lenOf at hn;split at hn
 .simp only[ak] at hn;subst hn;simp only[cr,ak] at I;subst I;rfl
 .simp only[ak] at hn;subst hn;simp only[cr,ak] at I;subst I;rfl
 .simp only[ak] at hn;subst hn;simp only[cr,ak] at I;subst I;rfl
 .rename_i id;simp only[cr] at I;cases hr:eC h id with
  |none=>rw[hr] at hn;cases hn
  |some q=>
   obtain⟨p,sz,m⟩:=q;rw[hr] at hn I;simp only[ak] at hn I;subst hn;subst I;unfold fx;split
   .rename_i hp;simp only[av,cZ] at hp;rw[hp.2];rfl
   .rfl
 .simp only[ak] at hn;subst hn;simp only[cr,ak] at I;subst I;rfl
 .cases hn
theorem DP (a b:List UInt8):rW ⟨a.toArray⟩ ⟨b.toArray⟩=decide (a=b):=by
 unfold rW;simp only[Bool.beq_eq_decide_eq]
theorem afi {op:BinOp} {u v:TV} {q:TV->Option R} (hk:aiw op u v q=af r):∃ a b c t,cr h u=af (raw a)/\cr h v=af (raw b)/\uT op a b=af c/\cr h t=af (raw c)/\q t=af r:=by
 unfold aiw at hk;split at hk
 .rename_i k a k' b;split at hk
  .rename_i hkk;have hkk':k=k':=by simpa using hkk
   subst hkk';refine ⟨.int k a,.int k b,?_⟩;cases op<;>simp only[reduceCtorEq] at hk<;>first
    |cases hk
    |exact⟨_,_,rfl,rfl,(by simp only[uT,c6,bG]<;>rfl),rfl,hk⟩
    |(obtain ⟨hb,hk⟩:=eo hk
      have I:(b==(0:Int))=aj:=by simpa using hb
      exact⟨_,_,rfl,rfl,by simp only[uT,c6,bG,I,cD,eA],rfl,hk⟩)
  .cases hk
 .rename_i a b;refine ⟨.string ⟨kE a⟩,.string ⟨kE b⟩,?_⟩;split at hk
  .exact⟨.bool (decide ((a:List UInt8)=b)),_,rfl,rfl,by simp only[uT,DP],rfl,hk⟩
  .exact⟨.bool (!decide ((a:List UInt8)=b)),_,rfl,rfl,by simp only[uT,DP],rfl,hk⟩
  .cases hk
 .cases hk
theorem Xt {T:Ty}:∀ {l:List TV} {xs:List T.den},yH T l=af xs->∀ k,k<l.length->l[k]? =af (.f T (xs.getD k T.zero))
 |[],xs,_,k,hk=>by simp at hk
 |.f S v::r,xs,I,k,hk=>by
  simp only[yH] at I;split at I
  .rename_i x J;split at I
   .rename_i l hl;simp only[ak] at I;subst I;obtain⟨es,ex⟩:=jg J;cases es;subst ex;cases k with
    |zero=>rfl
    |succ k=>simpa using Xt hl k (by simpa using hk)
   .cases I
  .cases I
 |.fel _ _ _ _ _::r,xs,I,k,hk=>by simp[yH] at I
 |.pel _ _ _ _::r,xs,I,k,hk=>by simp[yH] at I
 |.ptr _ _::r,xs,I,k,hk=>by simp[yH] at I
 |.csl _ _ _::r,xs,I,k,hk=>by simp[yH] at I
 |.row _::r,xs,I,k,hk=>by simp[yH] at I
 |.emp::r,xs,I,k,hk=>by simp[yH] at I
 |.nil::r,xs,I,k,hk=>by simp[yH] at I
 |.mp _::r,xs,I,k,hk=>by simp[yH] at I
 |.agg _::r,xs,I,k,hk=>by simp[yH] at I
 |.tup _::r,xs,I,k,hk=>by simp[yH] at I
 |.clo _ _::r,xs,I,k,hk=>by simp[yH] at I
 |.undef::r,xs,I,k,hk=>by simp[yH] at I
 |.np::r,xs,I,k,hk=>by simp[yH] at I
 |.anyb::r,xs,I,k,hk=>by simp[yH] at I
theorem Xs {l:List TV} {T:Ty} {xs:List T.den} (I:ac5 l=af ⟨T,xs⟩):∀ k,k<l.length->l[k]? =af (.f T (xs.getD k T.zero)):=by
 unfold ac5 at I;split at I
 .split at I
  .rename_i l1 hl;simp only[ak] at I;cases I;exact Xt hl
  .cases I
 .cases I
variable (hinv:ma h nx) (hi:tM e h)
include hinv hi
theorem K_mv {con:FuncId->Option cf} {bV:TypeId->Option Ty} {x:Operand} {st:Bool} (hc:dk P o.op=af (.mv x)) (hk:dV con bV (.op (.mv x)) e h nx K=af r):kN P o st e h nx K r:=by
 simp only[dV] at hk;split at hk
 .rename_i v hv;obtain⟨y,h1,h2⟩:=bM hi hv;exact kN.q (k:=0) hinv hc (λH _=>by simp only[eQ,h1]) (dt h2) hk
 .cases hk
theorem akk {con:FuncId->Option cf} {bV:TypeId->Option Ty} {c a b:Operand} {st:Bool} (hc:dk P o.op=af (.pick c a b)) (hk:dV con bV (.op (.pick c a b)) e h nx K=af r):kN P o st e h nx K r:=by
 simp only[dV] at hk;split at hk
 .rename_i t hv;obtain⟨y,h1,h2⟩:=bM hi hv;simp only[cr,ak] at h2;subst h2;rcases po hk with ⟨rfl,I⟩|⟨rfl,I⟩
  .split at I
   .rename_i v J;obtain⟨Y,U,M⟩:=bM hi J;exact kN.q (k:=0) hinv hc (λH _=>by simp only[eQ,h1,gJ,bG,U]) (dt M) I
   .cases I
  .split at I
   .rename_i v J;obtain⟨Y,U,M⟩:=bM hi J;exact kN.q (k:=0) hinv hc (λH _=>by simp only[eQ,h1,gJ,U,cD,eA]) (dt M) I
   .cases I
 .cases hk
theorem akl {con:FuncId->Option cf} {bV:TypeId->Option Ty} {x:Operand} {st:Bool} (hc:dk P o.op=af (.nilc x)) (hk:dV con bV (.op (.nilc x)) e h nx K=af r):kN P o st e h nx K r:=by
 simp only[dV] at hk;split at hk;all_goals first
  |(rename_i hv
    obtain⟨y,h1,h2⟩:=bM hi hv;have I:=h2;simp only[cr,ak] at h2;subst h2;exact kN.q (k:=0) hinv hc (λH _=>by simp only[eQ,h1]) (dt I) hk)
  |skip
 .rename_i g cap hv;obtain⟨y,h1,h2⟩:=bM hi hv;have I:=h2;simp only[cr] at h2;split at h2
  .simp only[ak] at h2;subst h2;exact kN.q (k:=0) hinv hc (λH _=>by simp only[eQ,h1]) (dt I) hk
  .cases h2
 .cases hk
theorem anp {con:FuncId->Option cf} {bV:TypeId->Option Ty} {x:Operand} {st:Bool} (hc:dk P o.op=af (.not x)) (hk:dV con bV (.op (.not x)) e h nx K=af r):kN P o st e h nx K r:=by
 simp only[dV] at hk;split at hk
 .rename_i b hv;obtain⟨y,h1,h2⟩:=bM hi hv;simp only[cr,ak] at h2;subst h2;exact kN.q (k:=0) hinv hc (λH _=>by simp only[eQ,h1,gJ];rfl) (dt rfl) hk
 .cases hk
theorem aks {con:FuncId->Option cf} {bV:TypeId->Option Ty} {k:IntKind} {x:Operand} {st:Bool} (hc:dk P o.op=af (.conv k x)) (hk:dV con bV (.op (.conv k x)) e h nx K=af r):kN P o st e h nx K r:=by
 simp only[dV] at hk;split at hk
 .rename_i k' n hv;obtain⟨y,h1,h2⟩:=bM hi hv;simp only[cr,ak] at h2;subst h2;exact kN.q (k:=0) hinv hc (λH _=>by simp only[eQ,h1,gJ];rfl) (dt rfl) hk
 .cases hk
theorem ao4 {con:FuncId->Option cf} {bV:TypeId->Option Ty} {neg:Bool} {x y:Operand} {st:Bool} (hc:dk P o.op=af (.eqb neg x y)) (hk:dV con bV (.op (.eqb neg x y)) e h nx K=af r):kN P o st e h nx K r:=by
 simp only[dV] at hk;split at hk
 .rename_i a b hv I;obtain⟨y,h1,h2⟩:=bM hi hv;obtain⟨U,M,J⟩:=bM hi I;simp only[cr,ak] at h2 J;subst h2;subst J;exact kN.q (k:=0) hinv hc (λH _=>by simp only[eQ,h1,M,gJ];rfl) (dt rfl) hk
 .cases hk
theorem agb {con:FuncId->Option cf} {bV:TypeId->Option Ty} {neg:Bool} {x:Operand} {st:Bool} (hc:dk P o.op=af (.isnil neg x)) (hk:dV con bV (.op (.isnil neg x)) e h nx K=af r):kN P o st e h nx K r:=by
 simp only[dV] at hk;split at hk
 .rename_i hv;obtain⟨y,h1,h2⟩:=bM hi hv;simp only[cr,ak] at h2;subst h2;exact kN.q (k:=0) hinv hc (λH _=>by simp only[eQ,h1,Ae,bG];rfl) (dt rfl) hk
 .rename_i hv;obtain⟨y,h1,h2⟩:=bM hi hv;simp only[cr,ak] at h2;subst h2;exact kN.q (k:=0) hinv hc (λH _=>by simp only[eQ,h1]) (dt rfl) hk
 .rename_i T xs hv;obtain⟨y,h1,h2⟩:=bM hi hv;simp only[cr,ak] at h2;subst h2;rcases po hk with ⟨J,I⟩|⟨J,I⟩
  .have J:=aw J;exact kN.q (k:=0) (y0:=.anyb) hinv hc (λH _=>by simp only[eQ,h1,gJ,J]) (dt rfl) I
  .have J:=hZ J;obtain⟨n,hn⟩:=Nat.exists_eq_succ_of_ne_zero J;exact kN.q (k:=0) (y0:=raw (.bool neg)) hinv hc (λH _=>by simp only[eQ,h1,gJ,hn]) (dt rfl) I
 .rename_i id hv;split at hk
  .rename_i ty T xs hb;obtain⟨y,h1,h2⟩:=bM hi hv;simp only[cr,eC,hb,fx,nl,cD,eA,ak] at h2;subst h2;exact kN.q (k:=0) (y0:=raw (.bool neg)) hinv hc (λH _=>by simp only[eQ,h1]) (dt rfl) hk
  .cases hk
 .cases hk
theorem anu {con:FuncId->Option cf} {bV:TypeId->Option Ty} {x y:Operand} {st:Bool} (hc:dk P o.op=af (.max x y)) (hk:dV con bV (.op (.max x y)) e h nx K=af r):kN P o st e h nx K r:=by
 simp only[dV] at hk;split at hk
 .rename_i k a k' b hv I;obtain⟨y,h1,h2⟩:=bM hi hv;obtain⟨U,M,J⟩:=bM hi I;simp only[cr,ak] at h2 J;subst h2;subst J;split at hk
  .exact kN.q (k:=0) hinv hc (λH _=>by simp only[eQ,h1,M,gJ];rfl) (dt rfl) hk
  .cases hk
 .cases hk
theorem ant {con:FuncId->Option cf} {bV:TypeId->Option Ty} {x y:Operand} {st:Bool} (hc:dk P o.op=af (.min x y)) (hk:dV con bV (.op (.min x y)) e h nx K=af r):kN P o st e h nx K r:=by
 simp only[dV] at hk;split at hk
 .rename_i k a k' b hv I;obtain⟨y,h1,h2⟩:=bM hi hv;obtain⟨U,M,J⟩:=bM hi I;simp only[cr,ak] at h2 J;subst h2;subst J;split at hk
  .exact kN.q (k:=0) hinv hc (λH _=>by simp only[eQ,h1,M,gJ];rfl) (dt rfl) hk
  .cases hk
 .cases hk
theorem ao1 {con:FuncId->Option cf} {bV:TypeId->Option Ty} {off:Nat} {x:Operand} {st:Bool} (hc:dk P o.op=af (.fad off x)) (hk:dV con bV (.op (.fad off x)) e h nx K=af r):kN P o st e h nx K r:=by
 simp only[dV] at hk;split at hk;all_goals first
  |(rename_i hv
    obtain⟨y,h1,h2⟩:=bM hi hv;simp only[cr,ak] at h2;subst h2;exact kN.q (k:=0) hinv hc (λH _=>by simp only[eQ,h1,pq]) (dt rfl) hk)
  |cases hk
theorem ao0 {con:FuncId->Option cf} {bV:TypeId->Option Ty} {off sz:Nat} {ag:Bool} {x:Operand} {st:Bool} (hc:dk P o.op=af (.fld off sz ag x)) (hk:dV con bV (.op (.fld off sz ag x)) e h nx K=af r):kN P o st e h nx K r:=by
 simp only[dV] at hk;split at hk
 .rename_i l hv;split at hk
  .rename_i u hs;obtain⟨y,h1,h2⟩:=bM hi hv;simp only[cr] at h2;split at h2
   .rename_i U hl;simp only[ak] at h2;subst h2;obtain⟨y,J,I⟩:=Wh hl hs;exact kN.q (k:=0) hinv hc (λH _=>by simp only[eQ,h1,I]) (dt J) hk
   .cases h2
  .cases hk
 .rename_i T v hv;split at hk
  .cases hk
  .rename_i M;split at hk
   .rename_i u hs;obtain⟨y,h1,h2⟩:=bM hi hv;simp only[cr,ak] at h2;rw[qE T v (by simpa using M)] at h2;subst h2;obtain⟨y,J,I⟩:=agr (h:=h) hs;exact kN.q (k:=0) hinv hc (λH _=>by simp only[eQ,h1,I]) (dt J) hk
   .cases hk
 .cases hk
theorem anx {con:FuncId->Option cf} {bV:TypeId->Option Ty} {n sz:Nat} {ag:Bool} {x i:Operand} {st:Bool} (hc:dk P o.op=af (.idx n sz ag x i)) (hk:dV con bV (.op (.idx n sz ag x i)) e h nx K=af r):kN P o st e h nx K r:=by
 simp only[dV] at hk;split at hk
 .rename_i v0 k j hv U;split at hk
  .rename_i T xs hA;obtain⟨hb,hk⟩:=eo hk;cases ag with
   |true=>cases hA
   |false=>
   simp only[als] at hA;split at hA
   .rename_i hsz;simp only[av,ey] at hsz;have hsz1:=aw hsz.1;subst hsz1;split at hA
    .rename_i l hl;split at hA
     .rename_i hn;have hn:=aw hn;obtain⟨y,h1,h2⟩:=bM hi hv;obtain⟨y2,Y,J⟩:=bM hi U;simp only[cr,ak] at J;subst J;have hj:j.toNat<l.length:=by
       simp only[av,c7,fO,be] at hb;omega
      have hg:=Xs hA j.toNat hj;obtain⟨he,_⟩:=Ng hl h2;obtain⟨z,I,M⟩:=l7 he j.toNat _ hg;have M:cr h (.f T (aJ xs j))=af z:=M;refine kN.q (k:=0) hinv hc (λH _=>?_) (dt M) hk;cases v0 with
      |agg q=>
       simp only[cr] at h2;split at h2
       .rename_i l' _;simp only[ak] at h2;subst h2;have I:l'[j.toNat]? =af z:=I;simp only[eQ,h1,Y,gJ,hb,bG,BC.sub?,BC.get,Nat.mul_one,I]
       .cases h2
      |f S u=>
       have Z:S.one=aj:=by
        have:=hsz.2;simpa[TV.isC] using this
       simp only[cr,ak] at h2;rw[qE S u Z] at h2;subst h2;have I:((bS S u).map AV.f)[j.toNat]? =af z:=I;rw[bc] at I;simp only[eQ,h1,Y,gJ,hb,bG,BC.sub?,BC.get,Nat.mul_one,I]
      |_=>simp[TV.cs,TV.isC] at hl hsz
     .cases hA
    .cases hA
   .cases hA
  .split at hk
   .rename_i l;obtain⟨hb,hk⟩:=eo hk;split at hk
    .rename_i u hs;obtain⟨y,h1,h2⟩:=bM hi hv;obtain⟨y2,Y,J⟩:=bM hi U;simp only[cr,ak] at J;subst J;simp only[cr] at h2;split at h2
     .rename_i l' hl;simp only[ak] at h2;subst h2;obtain⟨y,h3,h4⟩:=Wh hl hs;exact kN.q (k:=0) hinv hc (λH _=>by simp only[eQ,h1,Y,gJ,hb,bG,h4]) (dt h3) hk
     .cases h2
    .cases hk
   .rename_i T v _;split at hk
    .cases hk
    .rename_i Z;obtain⟨hb,hk⟩:=eo hk;split at hk
     .rename_i u hs;obtain⟨y,h1,h2⟩:=bM hi hv;obtain⟨y2,Y,J⟩:=bM hi U;simp only[cr,ak] at J h2;subst J;rw[qE T v (by simpa using Z)] at h2;subst h2;obtain⟨y,h3,h4⟩:=agr (h:=h) hs;exact kN.q (k:=0) hinv hc (λH _=>by simp only[eQ,h1,Y,gJ,hb,bG,h4]) (dt h3) hk
     .cases hk
   .cases hk
 .cases hk
theorem akq {con:FuncId->Option cf} {bV:TypeId->Option Ty} {n sz:Nat} {x i:Operand} {st:Bool} (hc:dk P o.op=af (.iada n sz x i)) (hk:dV con bV (.op (.iada n sz x i)) e h nx K=af r):kN P o st e h nx K r:=by
 simp only[dV] at hk;split at hk
 .rename_i id off k j hv I;obtain⟨y,h1,h2⟩:=bM hi hv;obtain⟨U,M,J⟩:=bM hi I;simp only[cr,ak] at J h2;subst J;subst h2;split at hk
  .obtain⟨hb,hk⟩:=eo hk;exact kN.q (k:=0) (y0:=.ptr (nm id) (off+j.toNat*sz)) hinv hc (λH _=>by simp only[eQ,h1,M,gJ,hb,bG]) (dt (by simp only[cr];rw[Nat.add_comm])) hk
  .obtain⟨hb,hk⟩:=eo hk;exact kN.q (k:=0) hinv hc (λH _=>by simp only[eQ,h1,M,gJ,hb,bG]) (dt rfl) hk
 .cases hk
theorem ao2 {con:FuncId->Option cf} {bV:TypeId->Option Ty} {i:Nat} {x:Operand} {st:Bool} (hc:dk P o.op=af (.ext x i)) (hk:dV con bV (.op (.ext x i)) e h nx K=af r):kN P o st e h nx K r:=by
 simp only[dV] at hk;split at hk
 .rename_i l hv;split at hk
  .rename_i u hs;obtain⟨y,h1,h2⟩:=bM hi hv;simp only[cr] at h2;split at h2
   .rename_i M hl;simp only[ak] at h2;subst h2;obtain⟨y,J,I⟩:=l7 hl i u hs;exact kN.q (k:=0) hinv hc (λH _=>by simp only[eQ,h1,J]) (dt I) hk
   .cases h2
  .cases hk
 .cases hk
theorem anw {con:FuncId->Option cf} {bV:TypeId->Option Ty} {x:Operand} {st:Bool} (hc:dk P o.op=af (.len x)) (hk:dV con bV (.op (.len x)) e h nx K=af r):kN P o st e h nx K r:=by
 simp only[dV] at hk;split at hk
 .rename_i v hv;split at hk
  .rename_i n hn;obtain⟨y,h1,h2⟩:=bM hi hv;have I:=Qu hn h2;exact kN.q (k:=0) hinv hc (λH _=>by simp only[eQ,h1,I];rfl) (dt rfl) hk
  .cases hk
 .cases hk
theorem ako {con:FuncId->Option cf} {bV:TypeId->Option Ty} {x:Operand} {st:Bool} (hc:dk P o.op=af (.lens x)) (hk:dV con bV (.op (.lens x)) e h nx K=af r):kN P o st e h nx K r:=by
 simp only[dV] at hk;split at hk
 .rename_i s hv;obtain⟨y,h1,h2⟩:=bM hi hv;simp only[cr,ak] at h2;subst h2;exact kN.q (k:=0) hinv hc (λH _=>by simp only[eQ,h1,gJ];rfl) (dt rfl) hk
 .cases hk
theorem akj {con:FuncId->Option cf} {bV:TypeId->Option Ty} {x i:Operand} {st:Bool} (hc:dk P o.op=af (.sidx x i)) (hk:dV con bV (.op (.sidx x i)) e h nx K=af r):kN P o st e h nx K r:=by
 simp only[dV] at hk;split at hk
 .rename_i s k j hv I;obtain⟨hj,hk⟩:=eo hk;obtain⟨y,h1,h2⟩:=bM hi hv;obtain⟨Z,Y,J⟩:=bM hi I;simp only[cr,ak] at h2 J;subst h2;subst J;obtain⟨U,j1,M⟩:=II hj;have e1:c7 0 j=ai:=by simp[c7,U]
  have e2:(⟨kE s⟩:ByteArray).data.toList[j.toNat]? =af (List.getD s j.toNat 0):=by
   show s[j.toNat]? =_;rw[aA,aB M];rfl
  exact kN.q (k:=0) (y0:=raw (.int .u8 (aO (List.getD s j.toNat 0).toNat))) hinv hc (λH _=>by simp only[eQ,h1,Y,gJ,e1,bG,e2];rfl) (dt rfl) hk
 .cases hk
theorem anz {con:FuncId->Option cf} {bV:TypeId->Option Ty} {sz:Nat} {x i:Operand} {st:Bool} (hc:dk P o.op=af (.iad sz x i)) (hk:dV con bV (.op (.iad sz x i)) e h nx K=af r):kN P o st e h nx K r:=by
 simp only[dV] at hk;split at hk
 .rename_i id k j hv I;split at hk
  .rename_i ty p T xs hb;split at hk
   .rename_i hs;have hs:=aw hs;obtain⟨hj,hk⟩:=eo hk;obtain⟨y,h1,h2⟩:=bM hi hv;obtain⟨Z,U,J⟩:=bM hi I;simp only[cr,ak] at J;subst J;obtain⟨j0,j1,j2⟩:=II hj;have hne:¬((p&&xs.length==0)=ai):=by
     simp only[av,cZ];omega
    simp only[cr,eC,hb,fx,ay hne,ak] at h2;subst h2;have Y:(T.size==sz&&c7 0 j&&fO j xs.length)=ai:=by
     simp only[fe,av] at hj;simp[hs,hj.1,hj.2]
    exact kN.q (k:=0) hinv hc (λH _=>by simp only[eQ,h1,U,gJ,Y,bG,dl]) (dt rfl) hk
   .cases hk
  .cases hk
 .rename_i T xs k j hv I;split at hk
  .rename_i hs;have hs:=aw hs;obtain⟨hj,hk⟩:=eo hk;obtain⟨y,h1,h2⟩:=bM hi hv;obtain⟨Z,U,J⟩:=bM hi I;simp only[cr,ak] at J h2;subst J;subst h2;have M:(c7 0 j&&fO j (al xs))=ai:=hj;exact kN.q (k:=0) hinv hc (λH _=>by simp only[eQ,h1,U,gJ,M,bG,dl,hs]) (dt rfl) hk
  .cases hk
 .rename_i id sz' n k j hv I;split at hk
  .rename_i hs;have hs:=aw hs;subst hs;obtain⟨hj,hk⟩:=eo hk;obtain⟨y,h1,h2⟩:=bM hi hv;obtain⟨Z,U,J⟩:=bM hi I;simp only[cr,ak] at J h2;subst J;subst h2;have M:(sz'==sz'&&c7 0 j&&fO j n)=ai:=by simp only[av] at hj ⊢;exact⟨⟨c6 _,hj.1⟩,hj.2⟩
   exact kN.q (k:=0) hinv hc (λH _=>by simp only[eQ,h1,U,gJ,M,bG]) (dt rfl) hk
  .cases hk
 .cases hk
theorem ans {con:FuncId->Option cf} {bV:TypeId->Option Ty} {f:FuncId} {caps:List Operand} {st:Bool} (hc:dk P o.op=af (.mkf f caps)) (hk:dV con bV (.op (.mkf f caps)) e h nx K=af r):kN P o st e h nx K r:=by
 simp only[dV] at hk;split at hk
 .rename_i l hv;obtain⟨I,h1,h2⟩:=yQ hi hv;exact kN.q (k:=0) hinv hc (y0:=.clo f I) (λH _=>by simp only[eQ,h1]) (dt (by simp only[cr,h2])) hk
 .cases hk
theorem ao8 {con:FuncId->Option cf} {bV:TypeId->Option Ty} {op:BinOp} {x y:Operand} {st:Bool} (hc:dk P o.op=af (.bin op x y)) (hk:dV con bV (.op (.bin op x y)) e h nx K=af r):kN P o st e h nx K r:=by
 simp only[dV] at hk;split at hk
 .rename_i u v hv I;obtain⟨a,b,c,t,h1,h2,h3,h4,Z⟩:=afi (h:=h) hk;obtain⟨y,Y,U⟩:=bM hi hv;obtain⟨y2,M,J⟩:=bM hi I;rw[h1] at U;cases U;rw[h2] at J;cases J;simp only[raw] at Y M;exact kN.q (k:=0) hinv hc (λH _=>by simp only[eQ,Y,M,h3]) (dt h4) Z
 .cases hk
end ops
def mF:io->Option (Bool×Nat×Nat)
 |.rows _ p T xs=>af (p,T.size,xs.length)
 |.dead p sz n=>af (p,sz,n)
 |_=>ah
theorem bU (h:bh) (i:Nat):eC h i=(h.get i).bind mF:=by
 unfold eC;cases h.get i with
 |none=>rfl
 |some b=>cases b<;>rfl
theorem cw.refl (h:bh):cw h h:=λ_ _ h=>h
theorem cw.trans {a b c:bh} (h1:cw a b) (h2:cw b c):cw a c:=λi r h=>h2 i r (h1 i r h)
theorem cw.set {h:bh} {i:Nat} {b:io} (hb:∀ r,eC h i=af r->mF b=af r):cw h (h.set i (af b)):=λj r hj=>by
 rw[bU,PT.get_set];by_cases e:j=i
 .subst e;rw[aF rfl];exact hb r hj
 .rw[ay e,<-bU];exact hj
theorem Mq {b:io} {r:Bool×Nat×Nat} (h:mF b=af r):mF (vk b)=af r:=by cases b<;>first|exact h|cases h
theorem iW (m:Nat) (h:bh) (i:Nat):(eM m h).get i=if aN m i then (h.get i).map vk else h.get i:=by
 unfold eM;split
 .rename_i hm;have:=aw hm;subst this;simp
 .rw[PT.get_updI];simp only[Nat.one_mul,dl];cases h.get i with
  |none=>simp
  |some b=>simp only[cg];split<;>rfl
theorem cw.kill (m:Nat) (h:bh):cw h (eM m h):=λi r hr=>by
 rw[bU] at hr ⊢;rw[iW];split
 .cases hb:h.get i with
  |none=>rw[hb] at hr;cases hr
  |some b=>rw[hb] at hr;exact Mq hr
 .exact hr
theorem ma.set {h:bh} {nx nx' i:Nat} {b:io} (hi:ma h nx) (hr:cw h (h.set i (af b))) (hlt:i<nx') (hle:nx<=nx') (hb:∀ ty l,b= .cells ty l->kO (h.set i (af b)) l=ai):ma (h.set i (af b)) nx':=by
 refine ⟨λj ty l hj=>?_,λj c hj=>?_⟩
 .rw[PT.get_set] at hj;split at hj
  .simp only[ak] at hj;exact hb ty l hj
  .exact iS hr l (hi.cells j ty l hj)
 .rw[PT.get_set] at hj;split at hj
  .rename_i e;subst e;exact hlt
  .exact dz (hi.low j c hj) hle
theorem ma.kill {h:bh} {nx:Nat} (hi:ma h nx) (m:Nat):ma (eM m h) nx:=by
 refine ⟨λj ty l hj=>?_,λj c hj=>?_⟩
 .rw[iW] at hj;refine iS (cw.kill m h) l (hi.cells j ty l ?_);split at hj
  .cases hb:h.get j with
   |none=>rw[hb] at hj;cases hj
   |some b=>rw[hb] at hj;cases b<;>simp[vk] at hj
  .exact hj
 .rw[iW] at hj;split at hj
  .cases hb:h.get j with
   |none=>rw[hb] at hj;cases hj
   |some b=>exact hi.low j b hb
  .exact hi.low j c hj
theorem Jo {h h':bh} (hr:cw h h') {b:io} (hb:∀ ty l,b= .cells ty l->kO h l=ai):kM h' b=kM h b:=by
 cases b with
 |cells ty l=>
  obtain⟨I,hl⟩:=fK h l (hb ty l rfl);simp only[kM,hl,iX hr l I hl]
 |_=>rfl
theorem Yp {h h':bh} {nx i:Nat} (hi:ma h nx) (hr:cw h h') (hg:h'.get i=h.get i):bA h' (nm i)=bA h (nm i):=by
 rw[bJ,bJ,hg];cases hb:h.get i with
 |none=>rfl
 |some b=>exact Jo hr λty l e=>hi.cells i ty l (by rw[hb,e])
theorem wI (h:bh) {n:Nat} (hn:¬∃ i,n=nm i):bA h n=ah:=by
 unfold bA;rw[ay];intro h2;exact hn ⟨n/2,by unfold nm;omega⟩
theorem kL {h h':bh} {nx:Nat} (hi:ma h nx) (hr:cw h h') {n:Nat} (hg:∀ i,n=nm i->h'.get i=h.get i):bA h' n=bA h n:=by
 by_cases hn:∃ i,n=nm i
 .obtain⟨i,rfl⟩:=hn;exact Yp hi hr (hg i rfl)
 .rw[wI h hn,wI h' hn]
def FA (m:Nat):List Nat:=(ac0 m).map nm
theorem nL {m n:Nat}:n∈FA m↔∃ i,n=nm i/\aN m i=ai:=by
 unfold FA;rw[c_];constructor
 .rintro⟨i,h1,rfl⟩;exact⟨i,rfl,My.1 h1⟩
 .rintro⟨i,rfl,h1⟩;exact⟨i,My.2 h1,rfl⟩
theorem ly {m i:Nat}:nm i∈FA m↔aN m i=ai:=by
 rw[nL];constructor
 .rintro⟨j,h1,h2⟩;rw[kP h1];exact h2
 .exact λh=>⟨i,rfl,h⟩
def dX (h:bh) (m:Nat):Prop:=∀ i,aN m i=ai->∃ ty p T xs,h.get i=af (.rows ty p T xs)
theorem dX.zero (h:bh):dX h 0:=λi hi=>by simp at hi
theorem dX.or {h:bh} {a b:Nat} (I:dX h a) (hb:dX h b):dX h (a|||b):=λi hi=>by
 rw[bp,iQ] at hi;exact hi.elim (I i) (hb i)
theorem ng {h:bh} {T:Ty} {v:TV} {x:T.den} {m:Nat} (I:iF h T v=af (x,m)):dX h m:=by
 cases v with
 |f S v=>
  simp only[iF] at I;split at I
  .simp only[ak,aD] at I;rw[<- I.2];exact dX.zero h
  .cases I
 |emp=>
  simp only[iF] at I;split at I
  .simp only[ak,aD] at I;rw[<- I.2];exact dX.zero h
  .cases I
 |nil=>
  simp only[iF] at I;split at I
  .simp only[ak,aD] at I;rw[<- I.2];exact dX.zero h
  .cases I
 |row id=>
  simp only[iF] at I;split at I
  .rename_i ty p S xs hb;split at I
   .simp only[ak,aD] at I;rw[<- I.2];intro i hi;have:=b8.1 hi;subst this;exact⟨ty,p,S,xs,hb⟩
   .cases I
  .cases I
 |fel T xs j hj off=>simp[iF] at I
 |pel id sz j off=>simp[iF] at I
 |ptr id off=>simp[iF] at I
 |csl id off z=>simp[iF] at I
 |mp id=>simp[iF] at I
 |rtl id J=>simp[iF] at I
 |agg q=>simp[iF] at I
 |tup q=>simp[iF] at I
 |clo f q=>simp[iF] at I
 |undef=>simp[iF] at I
 |np=>simp[iF] at I
 |anyb=>simp[iF] at I
theorem vg {h:bh}:∀ (n:Nat) (T:Ty) (l:List TV) (x:T.den) (m:Nat) (r:List TV),eX h n T l=af (x,m,r)->dX h m
 |0,_,_,_,_,_,hp=>by simp[eX] at hp
 |n+1,.st t,l,x,m,r,hp=>vg n t l x m r hp
 |n+1,.pr a b,l,x,m,r,hp=>by
  simp only[eX] at hp;split at hp
  .rename_i I m1 r1 h1;split at hp
   .rename_i J m2 r2 h2;simp only[ak,aD] at hp;obtain⟨_,rfl,_⟩:=hp;exact (vg n a l I m1 r1 h1).or (vg n b r1 J m2 r2 h2)
   .cases hp
  .cases hp
 |n+1,.un,l,x,m,r,hp=>by
  simp only[eX,ak,aD] at hp;obtain⟨_,rfl,_⟩:=hp;exact dX.zero h
 |n+1,.ex,l,x,m,r,hp=>by
  simp only[eX] at hp;split at hp
  .rename_i I m1 r1 h1;simp only[ak,aD] at hp;obtain⟨_,rfl,_⟩:=hp;exact vg n MO l I m1 r1 h1
  .cases hp
 |n+1,.sm,l,x,m,r,hp=>by
  simp only[eX] at hp;split at hp
  .rename_i I m1 r1 h1;simp only[ak,aD] at hp;obtain⟨_,rfl,_⟩:=hp;exact vg n Mo l I m1 r1 h1
  .cases hp
 |n+1,.int k,l,x,m,r,hp=>by
  simp only[eX] at hp;split at hp
  .split at hp
   .rename_i I m1 h1;simp only[ak,aD] at hp;obtain⟨_,rfl,_⟩:=hp;exact ng h1
   .cases hp
  .cases hp
 |n+1,.bool,l,x,m,r,hp=>by
  simp only[eX] at hp;split at hp
  .split at hp
   .rename_i I m1 h1;simp only[ak,aD] at hp;obtain⟨_,rfl,_⟩:=hp;exact ng h1
   .cases hp
  .cases hp
 |n+1,.str,l,x,m,r,hp=>by
  simp only[eX] at hp;split at hp
  .split at hp
   .rename_i I m1 h1;simp only[ak,aD] at hp;obtain⟨_,rfl,_⟩:=hp;exact ng h1
   .cases hp
  .cases hp
 |n+1,.sl t,l,x,m,r,hp=>by
  simp only[eX] at hp;split at hp
  .split at hp
   .rename_i I m1 h1;simp only[ak,aD] at hp;obtain⟨_,rfl,_⟩:=hp;exact ng h1
   .cases hp
  .cases hp
theorem Xr {h:bh} {T:Ty} {v:TV} {x:T.den} {m:Nat} (I:DQ h T v=af (x,m)):dX h m:=by
 cases v with
 |agg l=>
  simp only[DQ] at I;split at I
  .cases I
  .split at I
   .rename_i J m1 h1;simp only[ak,aD] at I;obtain⟨_,rfl⟩:=I;exact vg 40 T l J m1 [] h1
   .cases I
 |f S v=>exact ng (v:=.f S v) I
 |fel T xs j hj off=>exact ng (v:=.fel T xs j hj off) I
 |pel id sz j off=>exact ng (v:=.pel id sz j off) I
 |ptr id off=>exact ng (v:=.ptr id off) I
 |csl id off z=>exact ng (v:=.csl id off z) I
 |row id=>exact ng (v:=.row id) I
 |emp=>exact ng (v:=.emp) I
 |nil=>exact ng (v:=.nil) I
 |mp id=>exact ng (v:=.mp id) I
 |rtl id M=>exact ng (v:=.rtl id M) I
 |tup q=>exact ng (v:=.tup q) I
 |clo g q=>exact ng (v:=.clo g q) I
 |undef=>exact ng (v:=.undef) I
 |np=>exact ng (v:=.np) I
 |anyb=>exact ng (v:=.anyb) I
theorem NL {h:bh} {T:Ty}:∀ (n:Nat) (l:List TV) (xs:List T.den) (m:Nat),yO h T n l=af (xs,m)->dX h m
 |0,[],xs,m,hp=>by simp only[yO,ak,aD] at hp;rw[<- hp.2];exact dX.zero h
 |0,_::_,xs,m,hp=>by simp[yO] at hp
 |n+1,l,xs,m,hp=>by
  simp only[yO] at hp;split at hp
  .rename_i J m1 r1 h1;split at hp
   .rename_i I m2 h2;simp only[ak,aD] at hp;obtain⟨_,rfl⟩:=hp;exact (vg 40 T l J m1 r1 h1).or (NL n r1 I m2 h2)
   .cases hp
  .cases hp
theorem zZ {h:bh} {u:TV}:∀ (n:Nat) (T:Ty) (v:T.den) (off sz:Nat) (z:T.den) (m:Nat),gP h u n T v off sz=af (z,m)->dX h m
 |0,_,_,_,_,_,_,hg=>by simp[gP] at hg
 |n+1,.st t,v,off,sz,z,m,hg=>by
  simp only[gP] at hg;split at hg
  .rename_i q hq;split at hq
   .simp only[ak] at hg;subst hg;exact Xr hq
   .cases hq
  .exact zZ n t v off sz z m hg
 |n+1,.pr a b,v,off,sz,z,m,hg=>by
  simp only[gP] at hg;split at hg
  .split at hg
   .rename_i I m1 h1;simp only[ak,aD] at hg;obtain⟨_,rfl⟩:=hg;exact zZ n a v.1 off sz I m1 h1
   .cases hg
  .split at hg
   .rename_i I m1 h1;simp only[ak,aD] at hg;obtain⟨_,rfl⟩:=hg;exact zZ n b v.2 _ sz I m1 h1
   .cases hg
 |n+1,.un,v,off,sz,z,m,hg=>by simp[gP] at hg
 |n+1,.ex,v,off,sz,z,m,hg=>by
  simp only[gP] at hg;split at hg
  .rename_i q hq;split at hq
   .simp only[ak] at hg;subst hg;exact Xr hq
   .cases hq
  .split at hg
   .rename_i I m1 h1;simp only[ak,aD] at hg;obtain⟨_,rfl⟩:=hg;exact zZ n MO _ off sz I m1 h1
   .cases hg
 |n+1,.sm,v,off,sz,z,m,hg=>by
  simp only[gP] at hg;split at hg
  .rename_i q hq;split at hq
   .simp only[ak] at hg;subst hg;exact Xr hq
   .cases hq
  .split at hg
   .rename_i I m1 h1;simp only[ak,aD] at hg;obtain⟨_,rfl⟩:=hg;exact zZ n Mo _ off sz I m1 h1
   .cases hg
 |n+1,.int k,v,off,sz,z,m,hg=>by
  simp only[gP] at hg;split at hg
  .exact ng hg
  .cases hg
 |n+1,.bool,v,off,sz,z,m,hg=>by
  simp only[gP] at hg;split at hg
  .exact ng hg
  .cases hg
 |n+1,.str,v,off,sz,z,m,hg=>by
  simp only[gP] at hg;split at hg
  .exact ng hg
  .cases hg
 |n+1,.sl t,v,off,sz,z,m,hg=>by
  simp only[gP] at hg;split at hg
  .exact ng hg
  .cases hg
theorem tW {h:bh} {m i:Nat} (hm:dX h m) (hb:aN m i=ai):∃ p sz n,(eM m h).get i=af (.dead p sz n):=by
 obtain⟨ty,p,T,xs,h1⟩:=hm i hb;exact⟨p,T.size,xs.length,by rw[iW,aF hb,h1];rfl⟩
section ops
variable {R:Type} {P:Program} {o:Oper} {e:iJ} {h:bh} {nx:Nat} {K:KO R} {r:R}
theorem ie (n:Nat) (b:w_):je [(n,b)] n=af b:=by simp[je]
theorem jm.mk' {s:Zd} (hc:dk P o.op=af s) {H:nV} (hH:H.get=bA h) {k:Nat} {y0:AV} {rdl wrl N:List Nat} {nw:NW} (ha:eQ s (K2 e h) H k=af ⟨y0,rdl,wrl,nw,N⟩) {v:TV} {h':bh} {nx' rd wr:Nat} (wr':List Nat)
 (hsub:∀ i∈wrl,i∈wr') (hsame:∀ n,n∉wr'->bA h' n=bA h n)
 (hdom:∀ i∈wr',∀ b',bA h' i=af b'->∃ b,(if i∈wrl then je nw i else bA h i)=af b)
 (hblk:∀ (Y H2:HF),vC Y H2->(∀ i∈wrl,Y i=je nw i)->(∀ i∈wr',i∉wrl->Y i=bA h i)->(∀ i∈wr',H2 i=bA h' i)->(∀ i∈wr',∀ b b',Y i=af b->H2 i=af b'->kl Y H2 b b')/\∀ y,cr h' v=af y->lM Y H2 y0 y)
 (hrd:∀ n∈rdl,aN rd (ow n)=ai) (hwr:∀ n∈wr',aN wr (ow n)=ai) (hN:∀ n∈N,nx<=ow n/\ow n<nx') (hrows:cw h h') (hinv':ma h' nx') (hg:nx<=nx'):jm P o aj e h nx v rd wr h' nx':=by
 have ht:=Ik hc ha;rw[vu,hH] at ht;refine ⟨?_,hrows,hinv',hg,λhs=>by cases hs⟩;have base:∀ (val:AV),(∀ y,cr h' v=af y->y=val)->(cr h' v=ah->val=y0)->gL P o (fR e h) (bA h) ⟨val,rdl,wr',bA h',N⟩:=by
  intro val hval hnone;refine gL.view ht (λi hi=>.inl (hsub i hi)) λh1 hr1 Z=>?_
  have hd:vC (eS h1 wrl (je nw)) (eS h1 wr' (bA h')):=by
   intro i b hb;unfold eS at hb ⊢;by_cases hi:i∈wr'
   .rw[aF hi] at hb;obtain⟨b0,J⟩:=hdom i hi b hb;refine ⟨b0,?_⟩;by_cases U:i∈wrl
    .rw[aF U] at J ⊢;exact J
    .rw[ay U] at J ⊢;rw[Z i hi];exact J
   .rw[ay hi] at hb;rw[ay (λU=>hi (hsub i U))];exact⟨b,hb⟩
  obtain⟨q1,q2⟩:=hblk _ _ hd (λi hi=>by unfold eS;rw[aF hi]) (λi hi U=>by unfold eS;rw[ay U];exact Z i hi) (λi hi=>by unfold eS;rw[aF hi]);refine ⟨⟨hd,λi b b' hb M=>?_⟩,?_⟩
  .by_cases hi:i∈wr'
   .exact q1 i hi b b' hb M
   .unfold eS at hb M;rw[ay (λU=>hi (hsub i U))] at hb;rw[ay hi,hb] at M;cases M;exact kl.refl hd b
  .cases hv:cr h' v with
   |none=>rw[hnone hv];exact lM.refl hd _
   |some y=>rw[<- hval y hv];exact q2 y hv
 have hu:eS (bA h) wr' (bA h')=bA h':=by
  funext n;unfold eS;split
  .rfl
  .rename_i hn;exact (hsame n hn).symm
 cases hv:cr h' v with
 |none=>exact⟨_,base y0 (λy I=>by rw[hv] at I;cases I) (λ_=>rfl),λy I=>(by cases I),hu,hrd,hwr,hN⟩
 |some y=>exact⟨_,base y (λy' I=>by rw[hv] at I;cases I;rfl) (λhn=>by rw[hv] at hn;cases hn),λy' I=>by cases I;rfl,hu,hrd,hwr,hN⟩
theorem Da (hi:tM e h):∀ (parts:List (Nat×Nat×Operand)) (cells cs:List TV) (cells':List AV),Jj cells e parts=af cs->cR h cells=af cells'->∃ cs',zm cells' (K2 e h) parts=af cs'/\cR h cs=af cs'/\(ku cells=ai->ku cs=ai)
 |[],cells,cs,cells',hf,he=>by simp only[Jj,ak] at hf;subst hf;exact⟨cells',rfl,he,id⟩
 |(off,sz,x)::rest,cells,cs,cells',hf,he=>by
  simp only[Jj] at hf;split at hf
  .rename_i v hv;split at hf
   .rename_i q hq;split at hf
    .rename_i hc;simp only[av,cZ] at hc;obtain⟨y,h1,h2⟩:=bM hi hv;obtain⟨M,h4⟩:=Ng hq h2;obtain⟨cs',Z,Y,U⟩:=Da hi rest (splice cells off q) cs (splice cells' off y.cs) hf (vq off he M);refine ⟨cs',?_,Y,λI=>U ?_⟩
     .simp only[zm,h1];rw[aF,Z];simp only[av,cZ];exact⟨⟨by rw[js M];exact hc.1,by rw[js he];exact hc.2⟩,tJ M h4⟩
     .clear Z Y U hf;have app:∀ a b:List TV,ku a=ai->ku b=ai->ku (a++b)=ai:=by
       intro a b I hb;induction a with
       |nil=>exact hb
       |cons z r J=>simp only[ku,av,gm] at I ⊢;exact⟨I.1,J I.2⟩
      have tk:∀ (a:List TV) n,ku a=ai->ku (a.take n)=ai:=by
       intro a;induction a with
       |nil=>intro n h;simp[ku]
       |cons z r J=>
        intro n h;cases n with
        |zero=>rfl
        |succ n=>simp only[ku,av,vX] at h ⊢;exact⟨h.1,J n h.2⟩
      have dr:∀ (a:List TV) n,ku a=ai->ku (a.drop n)=ai:=by
       intro a;induction a with
       |nil=>intro n h;simp[ku]
       |cons z r J=>
        intro n h;cases n with
        |zero=>exact h
        |succ n=>simp only[ku,av,vY] at h ⊢;exact J n h.2
      unfold splice;exact app _ _ (app _ _ (tk _ _ I) h4) (dr _ _ I)
    .cases hf
   .cases hf
  .cases hf
variable (hinv:ma h nx) (hi:tM e h)
include hinv hi
theorem agc {con:FuncId->Option cf} {bV:TypeId->Option Ty} {z:List Value} {parts:List (Nat×Nat×Operand)} {st:Bool} (hc:dk P o.op=af (.build z parts)) (hk:dV con bV (.op (.build z parts)) e h nx K=af r):kN P o st e h nx K r:=by
 simp only[dV] at hk;split at hk
 .rename_i l hl;split at hk
  .rename_i cs hf;obtain⟨h1,_,_⟩:=vz h hl;obtain⟨cs',h2,J,_⟩:=Da hi parts l cs _ hf h1;refine kN.q (k:=0) (y0:=Mx cs') hinv hc (λH _=>by simp only[eQ,h2]) (λy I=>?_) hk;simp only[cr,J,ak] at I;subst I;exact aag cs'
  .cases hk
 .cases hk
theorem akn {con:FuncId->Option cf} {bV:TypeId->Option Ty} {sz:Nat} {ag:Bool} {x:Operand} (hc:dk P o.op=af (.load sz ag x)) (hk:dV con bV (.op (.load sz ag x)) e h nx K=af r):kN P o aj e h nx K r:=by
 obtain⟨H,J⟩:=jJ h;simp only[dV] at hk;split at hk
 .rename_i id off hv;obtain⟨y,h1,h2⟩:=bM hi hv;simp only[cr,ak] at h2;subst h2;split at hk
  .rename_i ty l hb;split at hk
   .rename_i v hs;obtain⟨Y,hl⟩:=fK h l (hinv.cells id ty l hb);obtain⟨y,U,M⟩:=Wh hl hs;have hg:H.get (nm id)=af ⟨ty,.mx Y⟩:=by rw[J,bJ,hb];simp only[aI,kM,hl]
    exact⟨v,k_ id,0,h,nx,hk,jm.pure (k:=0) hinv hc J (y0:=y) (rdl:=[nm id]) (by simp only[eQ,h1,DR,hg,M]) (dt U) (λn hn=>by simp only[aL] at hn;subst hn;rw[em];exact b8.2 rfl) (λh=>by cases h)⟩
   .cases hk
  .cases hk
 .rename_i id sz' j off hv;obtain⟨y,h1,h2⟩:=bM hi hv;simp only[cr,ak] at h2;subst h2;split at hk
  .rename_i ty p T xs hb;split at hk
   .rename_i hsz;have hsz:=aw hsz;obtain⟨hj,hk⟩:=eo hk;split at hk
    .rename_i v hs;obtain⟨y,U,M⟩:=agq (h:=h) hj hs;have hne:¬((p&&xs.length==0)=ai):=by
      have:=II hj;simp only[av,cZ];omega
     have hg:H.get (nm id)=af ⟨ty,.fz (xs.flatMap (bS T))⟩:=by rw[J,bJ,hb];simp only[aI,kM,ay hne]
     exact⟨v,k_ id,0,h,nx,hk,jm.pure (k:=0) hinv hc J (y0:=.f y) (rdl:=[nm id]) (by simp only[eQ,h1,DR,hg,hsz,M]) (dt U) (λn hn=>by simp only[aL] at hn;subst hn;rw[em];exact b8.2 rfl) (λh=>by cases h)⟩
    .cases hk
   .cases hk
  .rename_i ty l hb;split at hk
   .cases hk
   .split at hk
    .rename_i hsz;simp only[av] at hsz;have e1:=aw hsz.1.1;have e2:=aw hsz.1.2;have e3:=aw hsz.2;subst e1;subst e2;subst e3;split at hk
     .rename_i T xs hA;obtain⟨hj,hk⟩:=eo hk;obtain⟨Y,hl⟩:=fK h l (hinv.cells id ty l hb);have hg:H.get (nm id)=af ⟨ty,.mx Y⟩:=by rw[J,bJ,hb];simp only[aI,kM,hl]
      have hlt:j.toNat<l.length:=by
       simp only[fe,av,c7,fO,be] at hj;omega
      obtain⟨z,Z,I⟩:=l7 hl j.toNat _ (Xs hA j.toNat hlt);have I:cr h (.f T (aJ xs j))=af z:=I;exact⟨_,k_ id,0,h,nx,hk,jm.pure (k:=0) hinv hc J (y0:=z) (rdl:=[nm id]) (by simp only[eQ,h1,DR,hg,BC.sub?,BC.get,Nat.mul_one,dl,Z]) (dt I) (λn hn=>by simp only[aL] at hn;subst hn;rw[em];exact b8.2 rfl) (λh=>by cases h)⟩
     .cases hk
    .cases hk
  .cases hk
 .rename_i T xs j hj off hv;obtain⟨y,h1,h2⟩:=bM hi hv;simp only[cr,ak] at h2;subst h2;split at hk
  .rename_i v hs;obtain⟨y,U,M⟩:=agq (h:=h) hj hs;exact kN.q (k:=0) (y0:=.f y) hinv hc (λH _=>by simp only[eQ,h1,DR,M]) (dt U) hk
  .cases hk
 .cases hk
theorem agd {con:FuncId->Option cf} {bV:TypeId->Option Ty} {ty:TypeId} {z:List Value} (hc:dk P o.op=af (.alloc ty z)) (hk:dV con bV (.op (.alloc ty z)) e h nx K=af r):kN P o aj e h nx K r:=by
 have _:=hi;obtain⟨H,hH⟩:=jJ h;simp only[dV] at hk;split at hk
 .rename_i l hl;obtain⟨_,hz,_⟩:=vz h hl;have hnone:h.get nx=ah:=by
   cases hb:h.get nx with
   |none=>rfl
   |some b=>have:=hinv.low nx b hb;omega
  have hr:cw h (h.set nx (af (.cells ty l))):=cw.set λr hr=>by rw[bU,hnone] at hr;cases hr
  obtain⟨h1,_,_⟩:=vz (h.set nx (af (.cells ty l))) hl;have U:bA (h.set nx (af (.cells ty l))) (nm nx)=af ⟨ty,.mx (z.map raw)⟩:=by rw[bJ,PT.get_set,aF rfl];simp only[aI,kM,h1]
  refine ⟨_,_,_,_,_,hk,jm.mk' hc hH (k:=nm nx) (by simp only[eQ];rfl) [nm nx] (λi hi=>hi) (λn hn=>?_) (λi hi b' _=>⟨⟨ty,.fz (z.map .raw)⟩,?_⟩) (λH1 H2 d M _ J=>⟨λi hi b b' hb I=>?_,λy Y=>?_⟩) (by simp) ?_ ?_ hr (hinv.set hr (by omega) (by omega) λty' l' he=>?_) (by omega)⟩
  .refine kL hinv hr λi e=>?_
   subst e;rw[PT.get_set,ay (λe=>hn (by rw[e];simp))]
  .rw[aF hi];simp only[aL] at hi;subst hi;simp[je]
  .simp only[aL] at hi;subst hi;rw[M _ (by simp)] at hb;rw[J _ (by simp),U] at I;rw[ie] at hb;simp only[ak] at hb I;subst hb;subst I;refine kl.cells rfl rfl ?_ λx Z=>?_
   .simp only[BC.toMx,zX];exact ia.refl d _
   .simp only[BC.toMx] at Z;obtain⟨q,hq,rfl⟩:=c_.1 Z;exact hz q hq
  .simp only[cr,ak] at Y;subst Y;exact lM.refl d _
  .intro n hn;simp only[aL] at hn;subst hn;rw[em];exact b8.2 rfl
  .intro n hn;simp only[aL] at hn;subst hn;rw[em];omega
  .cases he;exact lG _ _ _ h1
 .cases hk
theorem ao7 {con:FuncId->Option cf} {bV:TypeId->Option Ty} {ty:TypeId} {x:Operand} (hc:dk P o.op=af (.box ty x)) (hk:dV con bV (.op (.box ty x)) e h nx K=af r):kN P o aj e h nx K r:=by
 obtain⟨H,hH⟩:=jJ h;simp only[dV] at hk;split at hk
 .rename_i v hv;split at hk
  .rename_i l hl;obtain⟨y,h1,h2⟩:=bM hi hv;obtain⟨h3,h4⟩:=Ng hl h2;have hcell:=tJ h3 h4;have hnone:h.get nx=ah:=by
    cases hb:h.get nx with
    |none=>rfl
    |some b=>have:=hinv.low nx b hb;omega
   have hr:cw h (h.set nx (af (.cells ty l))):=cw.set λr hr=>by rw[bU,hnone] at hr;cases hr
   have Z:=iX hr l _ h3;have U:bA (h.set nx (af (.cells ty l))) (nm nx)=af ⟨ty,.mx y.cs⟩:=by rw[bJ,PT.get_set,aF rfl];simp only[aI,kM,Z]
   refine ⟨_,_,_,_,_,hk,jm.mk' hc hH (k:=nm nx) (by simp only[eQ,h1,hcell,bG];rfl) [nm nx] (λi hi=>hi) (λn hn=>?_) (λi hi b' _=>⟨⟨ty,pl y.cs⟩,?_⟩) (λH1 H2 d M _ J=>⟨λi hi b b' hb I=>?_,λy Y=>?_⟩) (by simp) ?_ ?_ hr (hinv.set hr (by omega) (by omega) λty' l' he=>?_) (by omega)⟩
   .refine kL hinv hr λi e=>?_
    subst e;rw[PT.get_set,ay (λe=>hn (by rw[e];simp))]
   .rw[aF hi];simp only[aL] at hi;subst hi;simp[je]
   .simp only[aL] at hi;subst hi;rw[M _ (by simp)] at hb;rw[J _ (by simp),U] at I;rw[ie] at hb;simp only[ak] at hb I;subst hb;subst I;obtain⟨q1,q2⟩:=nK y.cs;refine kl.cells q2 rfl ?_ λx hx=>?_
    .rw[q1];exact ia.refl d _
    .exact lI hcell x hx
   .simp only[cr,ak] at Y;subst Y;exact lM.refl d _
   .intro n hn;simp only[aL] at hn;subst hn;rw[em];exact b8.2 rfl
   .intro n hn;simp only[aL] at hn;subst hn;rw[em];omega
   .cases he;exact lG _ _ _ Z
  .cases hk
 .cases hk
theorem aga {con:FuncId->Option cf} {bV:TypeId->Option Ty} {ty:TypeId} {sz bytes:Nat} {z:List Value} {l c:Operand} (hcm:DJ (bV ty)=ah) (hc:dk P o.op=af (.mksl ty sz bytes z l c)) (hk:dV con bV (.op (.mksl ty sz bytes z l c)) e h nx K=af r):kN P o aj e h nx K r:=by
 obtain⟨H,hH⟩:=jJ h;simp only[dV,hcm] at hk;split at hk
 .rename_i T k a k' b hT hv U;split at hk
  .rename_i hsz;simp only[av] at hsz;have hs:=aw hsz.1;have hz:=Kp hsz.2;subst hs;subst hz;obtain⟨hck,hk⟩:=eo hk;obtain⟨y,h1,h2⟩:=bM hi hv;obtain⟨y2,h3,h4⟩:=bM hi U;simp only[cr,ak] at h2 h4;subst h2;subst h4;have hnone:h.get nx=ah:=by
    cases hb:h.get nx with
    |none=>rfl
    |some b=>have:=hinv.low nx b hb;omega
   generalize Z:io.rows ty aj T (aG (aT a) T.zero)=B at hk;have hr:cw h (h.set nx (af B)):=cw.set λr hr=>by rw[bU,hnone] at hr;cases hr
   have Y:bA (h.set nx (af B)) (nm nx)=af ⟨ty,.fz ((aG (aT a) T.zero).flatMap (bS T))⟩:=by rw[bJ,PT.get_set,aF rfl,<-Z];simp[kM]
   refine ⟨_,_,_,_,_,hk,jm.mk' hc hH (k:=nm nx) (by simp only[eQ,h1,h3,gJ,hck,bG];rfl) [nm nx] (λi hi=>hi) (λn hn=>?_) (λi hi b' _=>⟨⟨ty,.fz (repl (sS T) (aT a))⟩,?_⟩) (λH1 H2 d M _ J=>⟨λi hi b b' hb I=>?_,λy hy=>?_⟩) (by simp) ?_ ?_ hr (hinv.set hr (by omega) (by omega) λty' l' he=>?_) (by omega)⟩
   .refine kL hinv hr λi e=>?_
    subst e;rw[PT.get_set,ay (λe=>hn (by rw[e];simp))]
   .rw[aF hi];simp only[aL] at hi;subst hi;simp[je]
   .simp only[aL] at hi;subst hi;rw[M _ (by simp)] at hb;rw[J _ (by simp),Y] at I;rw[ie] at hb;simp only[ak] at hb I;subst hb;subst I;refine kl.cells rfl rfl (Hu d T _) λx hx=>?_
    simp only[BC.toMx] at hx;obtain⟨q,hq,rfl⟩:=c_.1 hx;exact rG T _ q hq
   .simp only[cr,bU,PT.get_set,bG,<-Z,aI,mF,fx,nl,cD,eA,ak,eK] at hy;subst hy;exact lM.refl d _
   .intro n hn;simp only[aL] at hn;subst hn;rw[em];exact b8.2 rfl
   .intro n hn;simp only[aL] at hn;subst hn;rw[em];omega
   .rw[<- Z] at he;cases he
  .cases hk
 .cases hk
end ops
end
end Go.Proofs.YtkagidinekdnoaaGreatDoor.AI
