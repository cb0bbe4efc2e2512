/-
  Texts of the proof, part 4 of 6: what is used to prove the statement. No condition.
-/
import Derived.Test.YtgijlolllojpaaaGreatDoorShbRacesQ2
import Derived.KernelRfl
import Derived.WalkSpells
import Derived.Laws.CopyRow
import Derived.Deep.AppendSrc
import Derived.Laws.AppendOwn
import Derived.Defers
namespace Go.Proofs.YtgijlolllojpaaaGreatDoor.AI
open Go.RowKit
set_option maxRecDepth 100000
set_option maxHeartbeats 4000000
set_option linter.unusedVariables false
set_option linter.unusedSimpArgs false
open Act renaming put→OR
open _root_.Array renaming length_toList→iG,range→zn
open _root_.Bool renaming true→ai,false→aj
open Builtin renaming zeroCells→lM,firstCells→L7
open Call renaming operands→fc
open Instr renaming findNow→jI,sliceBounds→jX,sliceBound→kL,sliceAt→qc,slice→vm
open _root_.Int renaming ofNat_eq_natCast→au,ofNat→aP,toNat→aT,toNat_natCast→cZ
open IntKind renaming wrap→po
open _root_.List renaming length→al,replicate→aG,range→bx,length_cons→cf,length_singleton→c9,take→dI,cons_append→gC,length_nil→j8,toArray→kR,nil_append→md,take_succ_cons→wG,foldl_cons→xK,take_zero→L6
open _root_.Nat renaming beq→aC,testBit→aN,add_zero→dD,ble→eU,blt→gz,min→jd
open Oper renaming wp→In
open _root_.Option renaming some→af,none→ah,bind_some→aI,map_some→cr,getD_some→vD
open _root_.Prod renaming p2→aX,p3→bf,p4→bu,q3→bK,p5→ch,q5→cN,q4→dx,p6→dC,p7→ja
open Region renaming wanted→iU
open Result renaming andThen_ok→cR
open Sem renaming run_bind→eT,run→nY,run_pure→pl
open _root_.Sum renaming inr→bO,inl→kO
open Value.bool renaming injEq→CW
open World renaming shape?→sw,cell?→ON
noncomputable section
abbrev c4 (l:List ET) (i:Nat):π:=((qA l 0 i:Int),(qA l 1 i:Int),(qA l 2 i:Int),(qA l 3 i:Int))
theorem th4 {t:Nat} (h:t<4):t=0\/t=1\/t=2\/t=3:=by omega
theorem RG {w:WT} {l:List ET} (tr:TR (w,l)) {j:Nat} (hj:j<l.length):jE (w,eN l j)=af (acB (bQ l j)&& !zo w.1 (bQ l j).ob):=by
 refine ct ?_;unfold jE aX bf bd bD aF;have et:=kB tr hj;have J:(eN l j).2.1=((bQ l j).k:Int):=et.k;have vol:acB (bQ l j)=ai->∀{Q:Bool->Prop},(Q (!zo w.1 (bQ l j).ob))->Ok (chk (eP (eN l j).2.2.1 (al w.1)) λ_=>lt (aK (T:=Q6) w.1 (eN l j).2.2.1) λz=>af (bO (!z.2.2.2.1))) (jnQ (R:=Bool) (λx=>af x) Q):=λI {Q} q=>by
  have ce:=((yl tr hj).ce (bi I)).2;rw[yE tr hj I];refine aS (by omega) (by omega) (aR (ar ?_));rw[PU];exact ar q
 refine RM (aJ (λh=>?_) λh=>aJ (λg=>?_) λg=>ar (ar ?_))
 .have h:(eN l j).2.1=3:=h;have I:acB (bQ l j)=ai:=aQ (by omega);exact vol I (by rw[I];rfl)
 .have g:(eN l j).2.1=4:=g;have I:acB (bQ l j)=ai:=aQ (by omega);exact vol I (by rw[I];rfl)
 .have h:¬(eN l j).2.1=3:=h;have g:¬(eN l j).2.1=4:=g;have I:acB (bQ l j)=aj:=bw (by omega);rw[I];rfl
theorem YI {l:List ET} {b t:Nat} (h:(bQ l b).th=t) (ht:t<4):c4 l (b+1)=(if t=0 then (qA l 0 b:Int)+1 else qA l 0 b,if t=1 then (qA l 1 b:Int)+1 else qA l 1 b,if t=2 then (qA l 2 b:Int)+1 else qA l 2 b,if t=3 then (qA l 3 b:Int)+1 else qA l 3 b):=by
 have key:∀u,(qA l u (b+1):Int)=if t=u then (qA l u b:Int)+1 else qA l u b:=λu=>by
  rw[qA,h];split<;>simp
 unfold c4;rw[key,key,key,key]
theorem Y3 {l:List ET} {a b:Nat} (h:a<b):aK (T:=tE) (l.take b) (a:Int)=eN l a:=by
 show _=aK (T:=tE) l (a:Int);rw[xd,xd,ay,cP,aD h,ay]
theorem ac9 {w:WT} {l:List ET} {cl:Nat->η} {b:Nat} (h:∀a,rcB w l cl a b=aj):∀i,rI w l cl b i=[]
 |0=>rfl
 |i+1=>by rw[rI,aA (by rw[h];decide)];exact ac9 h i
theorem afx {n:Nat} {f:Nat->Γ} {i k:Nat} (h:k<i) (g:k<n):aK (T:=.st (.pr (.int .i64) (.int .i64))) (tA n f (0,0) i) (k:Int)=f k:=by
 rw[xd];unfold tA;rw[ay,ba,qD g];simp[h]
theorem Vb {w:WT} {l:List ET} (tr:TR (w,l)):m8 (w,l)=af (rO w l (oK w l) l.length,0):=by
 have hl:=tr.len;dsimp only at hl;refine ct ?_;unfold m8 x_ aX bf bu ch dC ja bK dx cN ck bd bA iO bE bD kl aZ cK aF cH;refine aU (Rs tr) (gw (dc (dc (dN (by dsimp only[au];omega) (dN (by omega) (bg (by simp;omega) (by omega) ?_))))));refine iJ l.length (by omega) (λb x=>x=((b:Int),(w,l),c4 l b,tA l.length (UZ l) (0,0) b,rO w l (oK w l) b)) ?_ ?_ ?_
 .rintro b x hb rfl;have hO:=O7 w l (oK w l) b (by omega);have et:=kB tr hb;have th:(eN l b).1=((bQ l b).th:Int):=et.th;have kb:(eN l b).2.1=((bQ l b).k:Int):=et.k;have t4:=(yl tr hb).th4;have cle:=λu=>Et l u b
  refine di ?_;refine aY (λx=>x=((w,l),c4 l (b+1),tA l.length (UZ l) (0,0) (b+1),rO w l (oK w l) (b+1))) ?_ ?_
  .refine bZ (aR ?_);refine aY (λx=>x=((w,l),c4 l (b+1),tA l.length (UZ l) (0,0) b,rO w l (oK w l) b,eN l b)) ?_ ?_
   .have fin:∀t:Nat,t<4->(aK (T:=tE) l (b:Int)).1=(t:Int)->(bQ l b).th=t:=λt _ h=>by
     have h:(eN l b).1=(t:Int):=h;omega
    have Y:∀t:Nat,(bQ l b).th=t->((t:Int),(aK (T:=tE) l (b:Int)).2)=eN l b:=λt h=>by
     show _=aK (T:=tE) l (b:Int);rw[<- h,<-th]
    have U:∀u,bk .i64 ((qA l u b:Int)+1)=(qA l u b:Int)+1:=λu=>hP (by omega) (by have:=cle u;omega)
    refine aJ (λq=>ar ?_) λq0=>aJ (λq=>ar ?_) λM=>aJ (λq=>ar ?_) λJ=>aJ (λq=>ar ?_) λq3=>?_
    .have h:=fin 0 (by omega) q;rw[YI h (by omega),<-Y 0 h];dsimp only;rw[U];rfl
    .have h:=fin 1 (by omega) q;rw[YI h (by omega),<-Y 1 h];dsimp only;rw[U];rfl
    .have h:=fin 2 (by omega) q;rw[YI h (by omega),<-Y 2 h];dsimp only;rw[U];rfl
    .have h:=fin 3 (by omega) q;rw[YI h (by omega),<-Y 3 h];dsimp only;rw[U];rfl
    .exfalso;have q0:¬(eN l b).1=0:=q0;have M:¬(eN l b).1=1:=M;have J:¬(eN l b).1=2:=J;have q3:¬(eN l b).1=3:=q3;omega
   rintro x rfl;refine aY (λx=>x=((w,l),c4 l (b+1),tA l.length (UZ l) (0,0) (b+1),rO w l (oK w l) b,eN l b)) ?_ ?_
   .have co:=yB l b;have fin:∀t:Nat,(eN l b).1=(t:Int)->((w,l),c4 l (b+1),cz (tA l.length (UZ l) (0,0) b) (b:Int) ((qA l t (b+1):Int),(t:Int)),rO w l (oK w l) b,(t:Int),(eN l b).2)=((w,l),c4 l (b+1),tA l.length (UZ l) (0,0) (b+1),rO w l (oK w l) b,eN l b):=λt h=>by
     have e:t=(bQ l b).th:=by omega
     have e2:((qA l t (b+1):Int),(t:Int))=UZ l b:=by
      unfold UZ;rw[e,co];rfl
     rw[e2,eD,I3 hb,<-h]
    have k1:∀{R:Type} {k:Option R} {Q:R->Prop},Ok k Q->Ok (chk (eP (b:Int) (tA l.length (UZ l) (0,0) b).length) λ_=>k) Q:=λh=>aS (by omega) (by rw[Ca];omega) h
    refine aJ (λq=>k1 (k1 (ar (fin 0 q)))) λq0=>aJ (λq=>k1 (k1 (ar (fin 1 q)))) λM=>aJ (λq=>k1 (k1 (ar (fin 2 q)))) λJ=>aJ (λq=>k1 (k1 (ar (fin 3 q)))) λq3=>?_
    exfalso;have q0:¬(eN l b).1=0:=q0;have M:¬(eN l b).1=1:=M;have J:¬(eN l b).1=2:=J;have q3:¬(eN l b).1=3:=q3;omega
   rintro x rfl;refine aU (RG tr hb) (dW (λhp=>ar ?_) λhp=>?_)
   .have:∀a,rcB w l (oK w l) a b=aj:=λa=>by
     cases hr:rcB w l (oK w l) a b with
     |false=>rfl
     |true=>
      unfold rcB at hr;obtain⟨h1,h2⟩:=eH.1 hr;obtain⟨h2,_⟩:=eH.1 h2;have h1:=(bi h1).2.2.1;rw[h1,h2]at hp;cases hp
    rw[rO,ac9 this,fJ]
   obtain⟨hpa,hpv⟩:=eH.1 hp;refine dc (dN (by dsimp only;omega) (dN (by dsimp only;omega) ?_));refine iJ b (by omega) (λa x=>x=((a:Int),(w,l),c4 l (b+1),tA l.length (UZ l) (0,0) (b+1),rO w l (oK w l) b++rI w l (oK w l) b a,eN l b)) ?_ ?_ ?_
   .rintro a x Z rfl;have I:a<l.length:=by omega
    have hI:=O8 w l (oK w l) b a;have eta:=kB tr I;have tha:(eN l a).1=((bQ l a).th:Int):=eta.th;have ka:(eN l a).2.1=((bQ l a).k:Int):=eta.k;have htk:(l.take b).length=b:=by rw[bC];omega
    refine di ?_ (by dsimp only[au];rw[show aT (b:Int)=b from cZ b,htk];omega);refine aY (λx=>x=((w,l),c4 l (b+1),tA l.length (UZ l) (0,0) (b+1),rO w l (oK w l) b++rI w l (oK w l) b (a+1),eN l b)) ?_ ?_
    .refine aS (by dsimp only;omega) (by dsimp only;rw[show aT (b:Int)=b from cZ b,htk];omega) (aR ?_);dsimp only;rw[show aT (b:Int)=b from cZ b,Y3 Z];refine aY (λx=>x=((cnB l a b&& !zo w.1 (bQ l b).ob),(w,l),c4 l (b+1),tA l.length (UZ l) (0,0) (b+1),rO w l (oK w l) b++rI w l (oK w l) b a,eN l b)) ?_ ?_
     .refine aU (RG tr I) (aO (λh=>?_) λh=>ar ?_)
      .obtain⟨h1,h2⟩:=eH.1 h;have fin:∀{v:Bool},v=cnB l a b->(v,(w,l),c4 l (b+1),tA l.length (UZ l) (0,0) (b+1),rO w l (oK w l) b++rI w l (oK w l) b a,eN l b)=((cnB l a b&& !zo w.1 (bQ l b).ob),(w,l),c4 l (b+1),tA l.length (UZ l) (0,0) (b+1),rO w l (oK w l) b++rI w l (oK w l) b a,eN l b):=λ{v} e=>by rw[e,hpv,Bool.and_true]
       have oa:=yE tr I h1;have ob:=yE tr hb hpa;unfold cnB at fin ⊢;refine aJ (λg=>b_ (λf=>aJ (λe=>ar (fin ?_)) λe=>ar (fin ?_)) λf=>ar (fin ?_)) λg=>ar (fin ?_)
       .have g:(eN l a).2.2.1=(eN l b).2.2.1:=g;have f:¬(eN l a).1=(eN l b).1:=f;have e:(eN l a).2.1=4:=e;exact (aQ ⟨by omega,h1,hpa,by omega,by omega⟩).symm
       .have g:(eN l a).2.2.1=(eN l b).2.2.1:=g;have f:¬(eN l a).1=(eN l b).1:=f;have e:¬(eN l a).2.1=4:=e;change decide ((eN l b).2.1=4)=_;rw[abj];exact⟨λq=>⟨by omega,h1,hpa,by omega,by omega⟩,λq=>by omega⟩
       .have f:(eN l a).1=(eN l b).1:=f;exact (bw λq=>q.1 (by omega)).symm
       .have g:¬(eN l a).2.2.1=(eN l b).2.2.1:=g;exact (bw λq=>g (by omega)).symm
      .have e:(cnB l a b&& !zo w.1 (bQ l b).ob)=aj:=by
        cases hr:(cnB l a b&& !zo w.1 (bQ l b).ob) with
        |false=>rfl
        |true=>
         obtain⟨h1,h2⟩:=eH.1 hr;have h1:=bi h1;rw[h1.2.1,h1.2.2.2.1,h2]at h;cases h
       rw[e]
     rintro x rfl;refine aY (λx=>x=(rcB w l (oK w l) a b,(w,l),c4 l (b+1),tA l.length (UZ l) (0,0) (b+1),rO w l (oK w l) b++rI w l (oK w l) b a,eN l b)) ?_ ?_
     .unfold rcB;refine aO (λh=>?_) λh=>ar ?_
      .obtain⟨h1,h2⟩:=eH.1 h;refine aS (by omega) (by rw[bS,fV];omega) (aR (aS (by omega) (by rw[Ca];omega) (aS (by omega) (by rw[Ca];omega) (aR ?_))));dsimp only;rw[YA hb,afx (show a<b+1 by omega) I];refine aU (LZ _ _ _) (ar ?_);rw[h1,h2];rfl
      .dsimp only at h ⊢;rw[<- Bool.and_assoc,h];rfl
     rintro x rfl;rw[rI];refine aO (λh=>bg ?_ (by omega) (ar ?_)) λh=>ar ?_
     .dsimp only;rw[bm,c9];omega
     .dsimp only;rw[aD h,fY]
     .dsimp only at h ⊢;rw[aA (by rw[h];decide)]
    rintro x rfl;refine ar ?_;dsimp only;rw[gE (by omega)]
   .rintro x rfl;refine dj (ar ?_) (by dsimp only[au];rw[show aT (b:Int)=b from cZ b,bC];omega);dsimp only;rw[rO]
   .rw[rI,fJ];rfl
  rintro x rfl;refine ar ?_;dsimp only;rw[gE (by omega)]
 .rintro x rfl;exact dj (ar rfl)
 .show _=_;rw[Is];rfl
def Wh (cl:Nat->η) (c:η) (y:η):η:=y.foldl (λc k=>jl c (cl k.toNat)) c
section
variable {cl:Nat->η} {j:Nat} (hcl:∀k,k<j->En (j:Int) (cl k))
include hcl
theorem FF:∀(y:η) (c:η),En (j:Int) c->(∀k∈y,0<=k/\k<j)->En (j:Int) (Wh cl c y)
 |[],_,h,_=>h
 |k::r,c,h,g=>by
  obtain⟨J,k1⟩:=g k (dw ..);exact FF r _ (h.jl (hcl k.toNat (by omega))) λz I=>g z (cM _ I)
end
theorem adq {cl:Nat->η} {c y:η} {i:Nat} (h:i<y.length):Wh cl c (y.take (i+1))=jl (Wh cl c (y.take i)) (cl (aK (T:=.int .i64) y (i:Int)).toNat):=by
 rw[mX (T:=.int .i64) h];unfold Wh;rw[dV];rfl
theorem adr {cl:Nat->η} {n:Int} {c:η} (hc:En n c) (p:Nat->Bool) (j:Nat):Wh cl c (fL p j)=jl c (JC cl p j):=by
 rw[<- Yj hc j];unfold Wh fL;rw[List.foldl_map];rfl
theorem Lc {cl:Nat->η} {j:Nat} {k:Int} (h0:0<=k) (h1:k<j):aK (T:=.sl (.int .i64)) ((bx j).map cl) k=cl k.toNat:=by
 obtain⟨k,rfl⟩:∃i:Nat,k=i:=⟨k.toNat,by omega⟩
 rw[l7,cZ,ay,ba,qD (by omega)];rfl
theorem JF {w:WT} {l:List ET} {g:List η} {e:ET} {cl:Nat->η} {j:Nat} (hcl:∀k,k<j->En (j:Int) (cl k)) {c y:η} (hc:En (j:Int) c) (M:∀k∈y,0<=k/\k<j) (hn:y.length<=1000) {R:Type} {B:(η×Int)×(WT×List ET)×List η×List η×ET->Option (((η×Int)×(WT×List ET)×List η×List η×ET)⊕R)} {Q P:R->Prop} (Z:∀r,P r->Q r) (he:Ok (B ((Wh cl c y,(y.length:Int)),(w,l),g,(bx j).map cl,e)) λr=>∃z,r= .inr z/\P z):
 Ok (iter (λx=>bcase (gf x.1.2 (aP (al y))) (chk (eP x.1.2 (al y)) λ_=>lt (aK (T:=.int .i64) y x.1.2) λI=>chk (eP I (al x.2.2.2.1)) λ_=>chk (eP I (al x.2.2.2.1)) λ_=>lt (aK (T:=.sl (.int .i64)) x.2.2.2.1 I) λU=>obind (od (x.1.1,U)) λY=>af (kO ((Y,bk .i64 (x.1.2+1)),x.2))) (B x)) ((c,0),(w,l),g,(bx j).map cl,e)) Q:=by
 refine b8 y.length (λi x=>x=((Wh cl c (y.take i),(i:Int)),(w,l),g,(bx j).map cl,e)) ?_ ?_ (by rw[L6];rfl)
 .rintro i x hi rfl;have hm:=M _ (bL (T:=.int .i64) (xs:=y) (j:=(i:Int)) (by omega) (by omega));refine di ?_;refine bZ (aR ?_);have J:(aK (T:=.int .i64) y (i:Int):Int)<(((bx j).map cl).length:Nat):=by rw[bS,fV];exact hm.2
  refine aS hm.1 J (aS hm.1 J (aR ?_));dsimp only;rw[Lc hm.1 hm.2];have e1:=FF hcl (y.take i) c hc λk hk=>M k (gj hk)
  have e2:=hcl (aK (T:=.int .i64) y (i:Int)).toNat (by
   have h3:(aK (T:=.int .i64) y (i:Int):Int)<(j:Int):=hm.2;have h4:(0:Int)<=aK (T:=.int .i64) y (i:Int):=hm.1;omega)
  refine aU (by rw[XU];exact IV _ _ e1.lb e2.lb) (ar ?_);rw[adq hi,gE (by omega)]
 .rintro x rfl;rw[cW];obtain⟨_,e,r,rfl,h⟩:=he;exact dj (ajb e (Z r h))
theorem Wd {w:WT} {l:List ET} (tr:TR (w,l)) {j:Nat} (hj:j<l.length):∀k∈Zz w l j,0<=k/\k<j:=λk hk=>by
 rcases bY.1 hk with hk|hk
 .exact Qa hk
 .split at hk
  .rename_i h;rw[aL.1 hk];exact⟨(aj0 tr hj h).2.2,abo _ _ _⟩
  .cases hk
theorem aku (w:WT) {l:List ET} {j:Nat} (hj:j<=900):(Zz w l j).length<=1000:=by
 have:=Kk (dB (ID w l j)) j;unfold Zz;rw[bm];split<;>simp<;>omega
theorem al5 {w:WT} {l:List ET} {cl:Nat->η} (tr:TR (w,l)) (C:CL w l cl) {j:Nat} (hj:j<l.length) (hcl:∀k,k<j->En (j:Int) (cl k)) {c:η} (hc:En (j:Int) c) (e:c=if 0<=uA l (bQ l j).th j then cl (uA l (bQ l j).th j).toNat else []):tk (Wh cl (Wh cl c (Zz w l j)) (fL (dB (Q7 w l j)) j)) (bQ l j).th=Mb w l cl j:=by
 rw[al4 tr C hj,<-e];have h1:Wh cl c (Zz w l j)=jl (jl c (JC cl (dB (ID w l j)) j)) (wkC l cl j):=by
  have h2:=adr (cl:=cl) hc (dB (ID w l j)) j;have I:=FF hcl (fL (dB (ID w l j)) j) c hc λk hk=>Qa hk
  rw[h2]at I;unfold Zz wkC;by_cases h:(bQ l j).k=17
  .rw[aD h,aD h,<-h2];unfold Wh;rw[dV];rfl
  .rw[aA h,aA h,fJ,h2,mK I]
 have J:En (j:Int) (Wh cl c (Zz w l j)):=FF hcl _ c hc (Wd tr hj);rw[adr J,h1]
theorem anu {c d:η} {t:Nat} (h:d.getD t 0<=c.getD t 0):tk (jl c d) t=jl (tk c t) d:=uq (by simp only[EU,oy];omega) λi=>by
 rw[uy,pW,pW,pW,uy,ky,ky,ky];by_cases e:i=t
 .subst e;simp only[aD];omega
 .simp only[aA e]
theorem ag8 {w:WT} {l:List ET} {cl:Nat->η} (tr:TR (w,l)) (C:CL w l cl) {j:Nat} (hj:j<l.length) {a:η} (I:tk a (bQ l j).th=Mb w l cl j):a.getD (bQ l j).th 0=(qA l (bQ l j).th j:Int):=by
 obtain⟨hA,ht,_⟩:=Qy tr C j (by omega);have h1:(Mb w l cl j).getD (bQ l j).th 0=(qA l (bQ l j).th j:Int)+1:=by
  have J:Cn l j ((qw w (vo w l cl j) (bQ l j)).foldl AI.jl ((vo w l cl j).T.getD (bQ l j).th [])):=P4 Cn.jl _ _ (hA.T _) (hA.src (w:=w) _);have hL:=(EG (qw w (vo w l cl j) (bQ l j)) ((vo w l cl j).T.getD (bQ l j).th [])).2 (bQ l j).th;have h2:=ht (bQ l j).th;have M:=J (bQ l j).th;unfold Mb uh;rw[uy,aD rfl];omega
 rw[<- I,uy,aD rfl]at h1;omega
theorem aex {w:WT} {l:List ET} (tr:TR (w,l)):lw (w,l)=af ((bx l.length).map (oK w l),(bx l.length).map (nW w l)):=by
 have hl:=tr.len;dsimp only at hl;have C:=aqv w l;refine ct ?_;unfold lw aX bf bu ch dC bK bd bA iY bE bD kl aZ cK aF cH;refine b8 l.length (λj x=>x=((j:Int),(w,l),(bx j).map (oK w l),(bx j).map (nW w l))) ?_ ?_ rfl
 .rintro j x hj rfl;have hjl:j<=l.length:=by omega
  obtain⟨p0,p1⟩:=Vk l (bQ l j).th j;have hcl:∀k,k<j->En (j:Int) (nW w l k):=λk hk=>(QF tr C (show k<l.length by omega)).mono (by omega)
  have et:=kB tr hj;refine di (bZ (aR ?_));refine aY (λx=>x=(if 0<=uA l (bQ l j).th j then nW w l (uA l (bQ l j).th j).toNat else [],(w,l),(bx j).map (oK w l),(bx j).map (nW w l),eN l j)) ?_ ?_
  .refine aU (HC tr hj) (e_ (λh=>?_) λh=>ar ?_)
   .have q:uA l (bQ l j).th j<(((bx j).map (nW w l)).length:Nat):=by rw[bS,fV];exact p1
    refine aS h q (aS h q (aR (ar ?_)));dsimp only;rw[Lc h p1,aD h]
   .rw[aA (by omega)]
  rintro x rfl;have hc:En (j:Int) (if 0<=uA l (bQ l j).th j then nW w l (uA l (bQ l j).th j).toNat else []):=by
   split
   .exact hcl _ (by omega)
   .exact En.nil (by omega)
  have hls:=Kk (dB (Q7 w l j)) j;have hck:=al5 tr C hj hcl hc rfl;have Y:=FF hcl (Zz w l j) _ hc (Wd tr hj);have M:=FF hcl (fL (dB (Q7 w l j)) j) _ Y λk hk=>Qa hk
  generalize (if 0<=uA l (bQ l j).th j then nW w l (uA l (bQ l j).th j).toNat else [])=c at*
  refine aU (aip tr hj) ?_;refine JF hcl hc (Wd tr hj) (aku w (by omega)) (P:=λr=>r= .inl (((j+1:Nat):Int),(w,l),(bx (j+1)).map (oK w l),(bx (j+1)).map (nW w l))) (λr h=>by subst h;rfl) ?_;refine ax (P:=λr=>r= .inl (((j+1:Nat):Int),(w,l),(bx (j+1)).map (oK w l),(bx (j+1)).map (nW w l))) ?_ λr hr=>ar ⟨r,rfl,hr⟩
  refine aU (ai7 tr hj) (JF hcl Y (λk hk=>Qa hk) (by omega) (P:=λr=>r= .inl (((j+1:Nat):Int),(w,l),(bx (j+1)).map (oK w l),(bx (j+1)).map (nW w l))) (λr h=>h) ?_);refine ax (P:=λr=>r= .inl (((j+1:Nat):Int),(w,l),(bx (j+1)).map (oK w l),(bx (j+1)).map (nW w l))) ?_ λr hr=>ar ⟨r,rfl,hr⟩
  generalize Wh (nW w l) (Wh (nW w l) c (Zz w l j)) (fL (dB (Q7 w l j)) j)=a at*
  have hac:=ag8 tr C hj hck;have e1:(eN l j).1=((bQ l j).th:Int):=et.th;have ek:(eN l j).2.1=((bQ l j).k:Int):=et.k;have h7:=M.2 (bQ l j).th;have tick:∀{b:η},En (j:Int) b->mz (b,(eN l j).1)=af (tk b (bQ l j).th):=λ{b} hb=>by
   have:=hb.2 (bQ l j).th;rw[e1];exact Vj _ _ hb.lb (yl tr hj).th4 this.1 (by omega)
  refine aU (x:=Mb w l (nW w l) j) (by rw[<- hck];exact tick M) (bg (by simp;omega) (by omega) ?_);refine aY (λx=>x=(if Ra l j then jl a (nW w l (Q_ l j)) else a,(w,l),(bx (j+1)).map (oK w l),(bx j).map (nW w l),eN l j)) ?_ ?_
  .have eR:(bx j).map (oK w l)++[oK w l j]=(bx (j+1)).map (oK w l):=by rw[xI,cE];rfl
   dsimp only;rw[eR];refine aJ (λI=>?_) λI=>ar ?_
   .have I:(eN l j).2.1=3:=I;have I:(bQ l j).k=3:=by omega
    have oj:(eN l j).2.2.1=((bQ l j).ob:Int):=et.ob (by rw[I];decide);refine aY (λx=>x=(if Ra l j then jl a (nW w l (Q_ l j)) else a,(w,l),(bx (j+1)).map (oK w l),(bx j).map (nW w l),eN l j)) ?_ λx Z=>ar Z
    refine b8 j (λm x=>x=((a,(j:Int)-1-m),(w,l),(bx (j+1)).map (oK w l),(bx j).map (nW w l),eN l j)/\HM l (bQ l j).ob (j-m)=HM l (bQ l j).ob j) ?_ ?_ ⟨?_,by rw[Nat.sub_zero]⟩
    .rintro m x hm ⟨rfl,el⟩;refine e_ (λ_=>?_) λg=>by dsimp only at g;omega
     rw[show (j:Int)-1-m=((j-m-1:Nat):Int) by omega];have hk:j-m-1<l.length:=by omega
     have ekk:=kB tr hk;have kk:(eN l (j-m-1)).2.1=((bQ l (j-m-1)).k:Int):=ekk.k;refine aY (λx=>x.2=((w,l),(bx (j+1)).map (oK w l),(bx j).map (nW w l),eN l j)/\(x.1=ai↔(bQ l (j-m-1)).k=4/\(bQ l (j-m-1)).ob=(bQ l j).ob)) ?_ ?_
     .refine bZ (aR (aJ (λJ=>bZ (aR (ar ⟨rfl,?_⟩))) λJ=>ar ⟨rfl,?_⟩))
      .have J:(eN l (j-m-1)).2.1=4:=J;have J:(bQ l (j-m-1)).k=4:=by omega
       have ob:(eN l (j-m-1)).2.2.1=((bQ l (j-m-1)).ob:Int):=ekk.ob (by rw[J];decide);change decide ((eN l (j-m-1)).2.2.1=(eN l j).2.2.1)=ai↔_;rw[ob,oj,be];omega
      .have J:¬(eN l (j-m-1)).2.1=4:=J;exact⟨λq=>(by cases q),λq=>by omega⟩
     rintro⟨x,y⟩ ⟨e,h⟩;dsimp only at e h;subst e;have e2:HM l (bQ l j).ob (j-m)=if (bQ l (j-m-1)).k=4/\(bQ l (j-m-1)).ob=(bQ l j).ob then ((j-m-1:Nat):Int) else HM l (bQ l j).ob (j-m-1):=by
      rw[show j-m=j-m-1+1 by omega,HM,Nat.add_sub_cancel]
     refine aO (λhb=>?_) λhb=>ar ?_
     .rw[aD (h.1 hb),el]at e2;have rd:Ra l j:=⟨I,by omega⟩
      have er:Q_ l j=j-m-1:=by unfold Q_;omega
      have q:((j-m-1:Nat):Int)<(((bx j).map (nW w l)).length:Nat):=by rw[bS,fV];omega
      refine aS (by dsimp only;omega) q (aS (by dsimp only;omega) q (aR ?_));dsimp only;rw[Lc (by omega) (by omega),cZ];refine aU (by rw[XU];exact IV _ _ M.lb (hcl _ (by omega)).lb) (ar ?_);dsimp only;rw[aD rd,er]
     .rw[aA (λq=>by have:=h.2 q;rw[show x=aj from hb]at this;cases this),el]at e2;dsimp only;refine ⟨by rw[hP (by omega) (by omega)];congr 2;omega,?_⟩;rw[e2];congr 1
    .rintro x ⟨rfl,el⟩;refine e_ (λg=>by dsimp only at g;omega) λ_=>ar ?_
     rw[vE]at el;have U:¬Ra l j:=λr=>by have:=r.2;rw[<- el]at this;exact cX this (by show ¬(0:Int)<= -1;omega)
     dsimp only;rw[aA U]
    .rw[hP (by omega) (by omega)];congr 2;omega
   .have I:¬(eN l j).2.1=3:=I;have U:¬Ra l j:=λr=>by have:=r.1;omega
    dsimp only;rw[aA U]
  rintro x rfl;dsimp only;have fin:∀{b:η},En (j:Int) b->tk b (bQ l j).th=nW w l j->Ok (obind (mz (b,(eN l j).1)) λy=>chk (a8 (((bx j).map (nW w l)).length+[y].length) 24) λ_=>af (kO (bk .i64 ((j:Int)+1),(w,l),(bx (j+1)).map (oK w l),(bx j).map (nW w l)++[y]))) λr=>r=(kO (((j+1:Nat):Int),(w,l),(bx (j+1)).map (oK w l),(bx (j+1)).map (nW w l)):_⊕(List η×List η)):=λ{b} hb e=>by
   refine aU (tick hb) (bg (by simp;omega) (by omega) (ar ?_));have eS:(bx j).map (nW w l)++[nW w l j]=(bx (j+1)).map (nW w l):=by rw[xI,cE];rfl
   rw[e,gE (by omega),eS]
  by_cases rd:Ra l j
  .rw[aD rd];have hr:=I9 rd;have hd:=hcl _ hr;refine fin (M.jl hd) ?_;have e9:nW w l j=jl (oK w l j) (nW w l (Q_ l j)):=by rw[EZ,aD rd]
   rw[anu,hck,e9];have:=((Qy tr C j (by omega)).2.2 _ hr).mono (show Q_ l j+1<=j by omega);rw[hac];exact this _
  .rw[aA rd];exact fin M (by rw[hck];exact (by rw[EZ,aA rd]:nW w l j=oK w l j).symm)
 .rintro x rfl;exact dj (ar rfl)
theorem ahx:t_ ()=af ai:=by kernel_rfl
theorem fM {φ:PM} {O:Nat->Prop} {w:World} {v u:Value} (h:cV φ O w (.f (.raw v)) u):u=v:=by
 cases h with
 |f h=>cases h;rfl
theorem ux (h:HF) (nw:HF):fd h [] nw=h:=by funext t;simp[fd]
theorem Hx:∀{l:ξ},Lu l=ai->∀v∈l,v.oneCell'=ai
 |[],_,v,hv=>by cases hv
 |x::r,h,v,hv=>by
  simp only[Lu,av]at h;rcases bp.1 hv with rfl|hv
  .exact h.1
  .exact Hx h.2 v hv
theorem WU {φ:PM} {O:Nat->Prop} {w:World} (v:Value):cV φ O w (FZ v) v:=by
 unfold FZ;split
 .rename_i vs;split
  .rename_i h1;refine cV.agg (vs:=vs.toList) (by simp) (λx I=>?_) (λj x v I hv=>?_)
   .obtain⟨u,hu,rfl⟩:=dv.1 I;exact Hx h1 u hu
   .rw[ba,hv]at I;simp only[cr,ak]at I;subst I;exact .f (.raw _)
  .exact .f (.raw _)
 .exact .f (.raw _)
theorem ug {φ:PM} {E:Nat->Prop} {h':HF} {w:World} {e:AB} {a:Act} {xs:Array Operand} (hrep:rH φ E h' w) (h:∀t,.tmp t∈xs->∀y,e.get t=af y->cV φ (tot E φ h') w y (a.tmps.getD t undef)) {x:Operand} {y:AV} (J:x∈xs) (I:mW e x=af y):cV φ (tot E φ h') w y (a.eval x):=by
 cases x with
 |tmp t=>exact h t J y I
 |const v=>simp only[mW,ak]at I;subst I;exact WU v
 |func g=>
  simp only[mW,ak]at I;subst I;exact cV.clo (vs:=[]) (g:=g) (cells:=[]) rfl (by intro j x v J;simp at J)
 |global g=>
  simp only[mW]at I;cases hg:G g with
  |none=>rw[hg]at I;cases I
  |some cells=>rw[hg]at I;simp only[ak]at I;subst I;exact .f (hrep.gl g cells hg)
abbrev Xr (φ:PM) (E:Nat->Prop) (h':HF) (w:World) (a:Act) (e:AB) (o:Oper):Prop:=∀x y,x∈o.op.operands->mW e x=af y->cV φ (tot E φ h') w y (a.eval x)
theorem gZ.reads {P:Program} {o:Oper} {e:AB} {h:HF} {val:AV} {rd:ι} {nw:HF}
 (hv:∀(φ:PM) (E:Nat->Prop) (h':HF) (w:World) (a:Act),(∀i∈rd,h' i=h i)->Xr φ E h' w a e o->rH φ E h' w->
   ∃v,(execOp a.eval o).run P w= .ok (.value v) w/\cV φ (tot E φ h') w val v):gZ P o e.get h ⟨val,rd,[],nw,[]⟩:=by
 intro φ E h' w a h1 h2 U I Y;obtain⟨v,r,rel⟩:=hv φ E h' w a h1 (λx y M J=>ug I U M J) I;unfold In;rw[r];refine ⟨v,φ,rfl,?_,λ_ _ h=>.inl h,?_,?_⟩<;>rw[ux]
 .exact jm.refl _ _ _
 .exact I
 .exact rel
theorem dG {x:AV} {R:CU} (h:rv x=af R):R=⟨x,[],[],[],[]⟩:=by simp only[rv,ak]at h;exact h.symm
section pure
variable {P:Program} {o:Oper} {e:AB} {h:oH} {nx:Nat} {R:CU}
theorem ap4 {x:Operand} (I:o.op= .move x\/o.op= .assign x) (J:eZ (.mv x) e h nx=af R):gZ P o e.get h.get R.eff:=by
 simp only[eZ]at J;split at J
 .rename_i v hv;rw[dG J];exact gZ.reads λφ E h' w a _ hop _=>⟨a.eval x,by unfold execOp;rcases I with I|I<;>rw[I]<;>rfl,hop x v (by rcases I with I|I<;>rw[I]<;>simp[Op.operands]) hv⟩
 .cases J
theorem alj {c x y:Operand} (J:o.op= .pick c x y) (I:eZ (.pick c x y) e h nx=af R):gZ P o e.get h.get R.eff:=by
 simp only[eZ]at I;split at I
 .rename_i t hc;split at I
  .rename_i v hv;rw[dG I];refine gZ.reads λφ E h' w a _ hop _=>?_
   have hcv:=fM (hop c _ (by rw[J];simp[Op.operands]) hc);refine ⟨a.eval (if t then x else y),?_,hop _ v (by rw[J];cases t<;>simp[Op.operands]) hv⟩;unfold execOp;rw[J];simp only[hcv];cases t<;>rfl
  .cases I
 .cases I
theorem alk {x:Operand} (I:o.op= .nilCheck x) (J:eZ (.nilc x) e h nx=af R):gZ P o e.get h.get R.eff:=by
 simp only[eZ]at J;split at J
 .rename_i id off U;rw[dG J];refine gZ.reads λφ E h' w a _ hop _=>?_
  have h1:=hop x _ (by rw[I];simp[Op.operands]) U;generalize M:a.eval x=z at h1;cases h1 with
  |ptr hφ=>exact⟨_,by unfold execOp;rw[I];simp only[M];rfl,.ptr hφ⟩
 .rename_i cells off U;rw[dG J];refine gZ.reads λφ E h' w a _ hop _=>?_
  have h1:=hop x _ (by rw[I];simp[Op.operands]) U;generalize M:a.eval x=z at h1;cases h1 with
  |f h1=>
   have h2:=h1;cases h2 with
   |ptr _ _ b base us hO hb hcl hu hr=>exact⟨_,by unfold execOp;rw[I];simp only[M];rfl,.f h1⟩
 .rename_i g cap U;rw[dG J];refine gZ.reads λφ E h' w a _ hop _=>?_
  have h1:=hop x _ (by rw[I];simp[Op.operands]) U;generalize M:a.eval x=z at h1;cases h1 with
  |clo hl hr=>exact⟨_,by unfold execOp;rw[I];simp only[M];rfl,.clo hl hr⟩
 .cases J
theorem ap2 {x:Operand} {t:TypeId} (J:o.op= .unOp .not t x) (I:eZ (.not x) e h nx=af R):gZ P o e.get h.get R.eff:=by
 simp only[eZ]at I;split at I
 .rename_i b M;rw[dG I];refine gZ.reads λφ E h' w a _ hop _=>?_
  have h1:=fM (hop x _ (by rw[J];simp[Op.operands]) M);exact⟨_,by unfold execOp;rw[J];simp only[h1];rfl,.f (.raw _)⟩
 .cases I
theorem zC (k:IntKind) (n:Int):bk k n=k.wrap n:=by
 rw[Ip];unfold No;split
 .split
  .rename_i h;simp only[c_,av,be]at h;have:po .i64 n=if n%18446744073709551616≥9223372036854775808 then n%18446744073709551616-18446744073709551616 else n%18446744073709551616:=by
    simp[po,IntKind.bits,IntKind.signed]
   rw[this];split<;>omega
  .rfl
 .split
  .rename_i h;simp only[c_,av,be]at h;have:po .u8 n=n%256:=by
    simp[po,IntKind.bits,IntKind.signed]
   rw[this];omega
  .rfl
 .rfl
theorem alt {x:Operand} {s d:TypeId} {k k':IntKind} (J:o.op= .convert s d x) (hs:P.underlying s=af (.int k')) (hd:P.underlying d=af (.int k)) (I:eZ (.conv k x) e h nx=af R):gZ P o e.get h.get R.eff:=by
 simp only[eZ]at I;split at I
 .rename_i U n M;rw[dG I];refine gZ.reads λφ E h' w a _ hop _=>?_
  have h1:=fM (hop x _ (by rw[J];simp[Op.operands]) M);refine ⟨_,?_,.f (.raw _)⟩;unfold execOp;rw[J];simp[h1,convert,run_underlying hs,run_underlying hd,Conv.intToInt,zC]
 .cases I
theorem QM (a:ByteArray):a.toList=a.data.toList:=by
 first|exact ByteArray.toList_eq a|simp[ByteArray.toList]|rfl
theorem ac5 {op:BinOp} {t:TypeId} {u v r:Value} (hr:vy op u v=af r) (x y:Operand) (w:World):
 (do eqGuard op t x y u v;binOp op t u v:Sem Value).run P w= .ok r w:=by
 unfold vy at hr;split at hr
 .rename_i k a k' b;split at hr
  .rename_i hk;have I:k=k':=by simpa using hk
   subst I;split at hr<;>first|(simp only[ak]at hr;subst hr;simp[eqGuard,binOp,Op.intCmp,Op.intArith,zC,c_,gf];done)|(split at hr<;>first|(cases hr;done)|(rename_i hb;simp only[ak]at hr;subst hr;simp[eqGuard,binOp,Op.intDiv,zC,show b≠0 from by simpa using hb];done))|(cases hr;done)
  .cases hr
 .rename_i a b;split at hr<;>first|(simp only[ak]at hr;subst hr;simp[eqGuard,binOp,Op.stringOp,sM,QM];done)|(cases hr;done)
 .cases hr
theorem aj7 {s:Sem Value} {r:Value} {w w':World} (hs:s.run P w= .ok r w'):(do let x<-s;pure (Next.value x):Sem Next).run P w= .ok (.value r) w':=by
 simp[hs]
theorem ajx {op:BinOp} {x y:Operand} {t t':TypeId} (J:o.op= .binOp op t x y t') (I:eZ (.bin op x y) e h nx=af R):gZ P o e.get h.get R.eff:=by
 simp only[eZ]at I;split at I
 .rename_i u v U M;split at I
  .rename_i r hr;rw[dG I];refine gZ.reads λφ E h' w a _ hop _=>?_
   have h1:=fM (hop x _ (by rw[J];simp[Op.operands]) U);have h2:=fM (hop y _ (by rw[J];simp[Op.operands]) M);refine ⟨r,?_,.f (.raw _)⟩;unfold execOp;rw[J];simp only[h1,h2];exact aj7 (ac5 (P:=P) (t:=t) hr x y w)
  .cases I
 .cases I
theorem Wi {t:TypeId} (hu:P.underlying t=af .bool) (u v:Bool) (w:World):(Op.equal t (.bool u) (.bool v)).run P w= .ok (u==v) w:=by
 have key:∀d,(Op.equalIn (d+1) t (.bool u) (.bool v)).run P w= .ok (u==v) w:=λd=>by simp[Op.equalIn,run_underlying hu]
 exact key 9999
theorem S4 {t el:TypeId} (hu:P.underlying t=af (.slice el)) (A:Option Addr) (n c:Nat) (w:World):(Op.equal t (.slice A n c) (.slice ah 0 0)).run P w= .ok A.isNone w:=by
 have key:∀d,(Op.equalIn (d+1) t (.slice A n c) (.slice ah 0 0)).run P w= .ok A.isNone w:=λd=>by cases A<;>simp[Op.equalIn,run_underlying hu]
 exact key 9999
theorem ajw {neg:Bool} {op:BinOp} {x y:Operand} {t t':TypeId} (J:o.op= .binOp op t x y t') (hop:op=if neg then .neq else .eql) (hu:P.underlying t=af .bool) (I:eZ (.eqb neg x y) e h nx=af R):gZ P o e.get h.get R.eff:=by
 simp only[eZ]at I;split at I
 .rename_i u v U M;rw[dG I];refine gZ.reads λφ E h' w a _ hp _=>?_
  have h1:=fM (hp x _ (by rw[J];simp[Op.operands]) U);have h2:=fM (hp y _ (by rw[J];simp[Op.operands]) M);refine ⟨_,?_,.f (.raw _)⟩;unfold execOp;rw[J];simp only[h1,h2];subst hop;cases neg<;>simp[eqGuard,binOp,Wi hu]
 .cases I
theorem YU {neg:Bool} {op:BinOp} {x y:Operand} {t t' el:TypeId} (U:o.op= .binOp op t x y t') (hop:op=if neg then .neq else .eql) (Y:y= .const (.slice ah 0 0)) (hu:P.underlying t=af (.slice el)) (J:eZ (.isnil neg x) e h nx=af R):gZ P o e.get h.get R.eff:=by
 have key:∀(v:Value) (w:World) (ρ:Operand->Value) (A:Option Addr) (n c:Nat),ρ x= .slice A n c->ρ y= .slice ah 0 0->(execOp ρ o).run P w= .ok (.value (.bool (A.isNone !=neg))) w:=by
  intro v w ρ A n c h1 h2;unfold execOp;rw[U];simp only[h1,h2];subst hop;cases neg<;>simp[eqGuard,binOp,S4 hu]
 have hyv:∀a:Act,a.eval y= .slice ah 0 0:=λa=>by rw[Y];rfl
 simp only[eZ]at J;split at J
 .rename_i id sz n I;rw[dG J];refine gZ.reads λφ E h' w a _ hp _=>?_
  have h1:=hp x _ (by rw[U];simp[Op.operands]) I;generalize M:a.eval x=z at h1;cases h1 with
  |row hφ hn hc hs=>exact⟨_,key (.bool ai) w a.eval _ _ _ M (hyv a),by simpa[raw] using cV.f (.raw _)⟩
 .rename_i id off n I;rw[dG J];refine gZ.reads λφ E h' w a _ hp _=>?_
  have h1:=hp x _ (by rw[U];simp[Op.operands]) I;generalize M:a.eval x=z at h1;cases h1 with
  |sl hφ hn hc=>exact⟨_,key (.bool ai) w a.eval _ _ _ M (hyv a),by simpa[raw] using cV.f (.raw _)⟩
 .rename_i cells n I;rw[dG J];refine gZ.reads λφ E h' w a _ hp _=>?_
  have h1:=hp x _ (by rw[U];simp[Op.operands]) I;generalize M:a.eval x=z at h1;cases h1 with
  |f h1=>
   cases h1 with
   |sl=>exact⟨_,key (.bool ai) w a.eval _ _ _ M (hyv a),by simpa[raw] using cV.f (.raw _)⟩
 .rename_i cells I;rw[dG J];refine gZ.reads λφ E h' w a _ hp _=>?_
  have h1:=hp x _ (by rw[U];simp[Op.operands]) I;generalize M:a.eval x=z at h1;cases h1 with
  |f h1=>
   cases h1 with
   |nil=>exact⟨_,key (.bool ai) w a.eval _ _ _ M (hyv a),.anyb⟩
   |sl=>exact⟨_,key (.bool ai) w a.eval _ _ _ M (hyv a),.anyb⟩
 .rename_i I;rw[dG J];refine gZ.reads λφ E h' w a _ hp _=>?_
  have h1:=hp x _ (by rw[U];simp[Op.operands]) I;generalize M:a.eval x=z at h1;cases h1 with
  |emp=>exact⟨_,key (.bool ai) w a.eval _ _ _ M (hyv a),.anyb⟩
 .rename_i v I;split at J
  .rename_i hv;rw[dG J];refine gZ.reads λφ E h' w a _ hp _=>?_
   have h1:=fM (hp x _ (by rw[U];simp[Op.operands]) I);unfold AQ at hv;split at hv
   .exact⟨_,key (.bool ai) w a.eval _ _ _ h1 (hyv a),by simpa[raw] using cV.f (.raw _)⟩
   .cases hv
  .cases J
 .cases J
theorem gJ {t:TypeId} {sz:Nat} (hs:fG P t=af sz) (w:World):(sizeOf t).run P w= .ok sz w:=by
 unfold fG at hs;cases hi:P.info? t with
 |none=>rw[hi]at hs;cases hs
 |some i=>rw[hi]at hs;simp at hs;simp[sizeOf,typeInfo,program,hi,nY,hs]
theorem Rw {t:TypeId} {ag:Bool} (hs:EC P t=af ag) (w:World):(isAgg t).run P w= .ok ag w:=by
 unfold EC at hs;cases hi:P.underlying t with
 |none=>rw[hi]at hs;cases hs
 |some d=>
  rw[hi]at hs;simp only[cr,ak]at hs;rw[<- hs];simp only[isAgg,eT,run_underlying hi,cR];cases d<;>rfl
theorem lA (b off i:Nat):(⟨b,off,ah⟩:Addr).add i=⟨b,off+i,ah⟩:=by
 unfold Addr.add;split<;>simp_all
theorem Rv {s:TypeId} {fs:Array Field} {k:Nat} {f:Field} {sz:Nat} (hu:P.underlying s=af (.struct fs)) (hf:fs[k]? =af f) (hs:fG P f.type=af sz) (h0:sz≠0) (w:World) (b i:Nat):
 (Instr.fieldAt s (.pointer (af ⟨b,i,ah⟩)) k).run P w= .ok (.pointer (af ⟨b,i+f.offset,ah⟩)) w:=by
 have h1:=gJ hs w;simp[Instr.fieldAt,run_underlying hu,hf,Instr.sureAddr,fieldPlace,h1,h0,lA]
theorem apc {s:TypeId} {fs:Array Field} {k:Nat} {f:Field} {sz:Nat} {x:Operand} (U:o.op= .fieldAddr s x k) (hu:P.underlying s=af (.struct fs)) (hf:fs[k]? =af f) (hs:fG P f.type=af sz) (h0:sz≠0) (I:eZ (.fad f.offset x) e h nx=af R):gZ P o e.get h.get R.eff:=by
 have key:∀(w:World) (ρ:Operand->Value) (b i:Nat),ρ x= .pointer (af ⟨b,i,ah⟩)->(execOp ρ o).run P w= .ok (.value (.pointer (af ⟨b,i+f.offset,ah⟩))) w:=by
  intro w ρ b i h1;unfold execOp;rw[U];simp only[h1];exact aj7 (Rv hu hf hs h0 w b i)
 simp only[eZ]at I;split at I
 .rename_i id off M;rw[dG I];refine gZ.reads λφ E h' w a _ hp _=>?_
  have h1:=hp x _ (by rw[U];simp[Op.operands]) M;generalize J:a.eval x=z at h1;cases h1 with
  |ptr hφ=>exact⟨_,key w a.eval _ _ J,.ptr hφ⟩
 .rename_i cells off M;rw[dG I];refine gZ.reads λφ E h' w a _ hp _=>?_
  have h1:=hp x _ (by rw[U];simp[Op.operands]) M;generalize J:a.eval x=z at h1;cases h1 with
  |f h1=>
   cases h1 with
   |ptr _ _ b base us hO hb hcl hu hr=>
    refine ⟨_,key w a.eval _ _ J,.f ?_⟩;rw[qa];exact .ptr cells _ b base us hO hb hcl hu hr
 .cases I
theorem Kl {t el:TypeId} {x y:Operand} {sz b off n c:Nat} {k:IntKind} {i:Int} {ρ:Operand->Value} {w:World} (M:o.op= .indexAddr t x y) (hu:P.underlying t=af (.slice el)) (hs:fG P el=af sz) (J:ρ x= .slice (af ⟨b,off,ah⟩) n c) (I:ρ y= .int k i) (h0:0<=i) (h1:i<n):
 (execOp ρ o).run P w= .ok (.value (.pointer (af ⟨b,off+i.toNat*sz,ah⟩))) w:=by
 have h2:=gJ hs w;unfold execOp;rw[M];simp[J,I,Instr.indexAt,asIntOf,run_underlying hu,h2,h0,h1,lA]
theorem apa {t el:TypeId} {x y:Operand} {sz:Nat} (J:o.op= .indexAddr t x y) (hu:P.underlying t=af (.slice el)) (hs:fG P el=af sz) (I:eZ (.iad sz x y) e h nx=af R):gZ P o e.get h.get R.eff:=by
 simp only[eZ]at I;split at I
 .rename_i v k j Y hy;have hyv:∀{φ:PM} {E:Nat->Prop} {h':HF} {w:World} {a:Act},Xr φ E h' w a e o->a.eval y= .int k j:=λhp=>fM (hp y _ (by rw[J];simp[Op.operands]) hy)
  split at I
  .split at I
   .rename_i id sz' n hc;simp only[c_,gf,av,be,c8]at hc;obtain⟨⟨rfl,h0⟩,h1⟩:=hc;rw[dG I];refine gZ.reads λφ E h' w a _ hp _=>?_
    have hr:=hp x _ (by rw[J];simp[Op.operands]) Y;generalize M:a.eval x=z at hr;cases hr with
    |row hφ hn U hsh=>
     refine ⟨_,Kl J hu hs M (hyv hp) h0 h1,?_⟩;rw[bR];exact .ptr hφ
   .cases I
  .split at I
   .rename_i id off n hc;simp only[c_,gf,av,be]at hc;obtain⟨h0,h1⟩:=hc;rw[dG I];refine gZ.reads λφ E h' w a _ hp _=>?_
    have hr:=hp x _ (by rw[J];simp[Op.operands]) Y;generalize M:a.eval x=z at hr;cases hr with
    |sl hφ hn U=>exact⟨_,Kl J hu hs M (hyv hp) h0 h1,.ptr hφ⟩
   .cases I
  .split at I
   .rename_i cells n hc;simp only[c_,gf,av,be]at hc;obtain⟨h0,h1⟩:=hc;rw[dG I];refine gZ.reads λφ E h' w a _ hp _=>?_
    have hr:=hp x _ (by rw[J];simp[Op.operands]) Y;generalize M:a.eval x=z at hr;cases hr with
    |f hr=>
     cases hr with
     |nil=>omega
     |sl _ _ c b base us hn U hO hb hcl Z hr'=>exact⟨_,Kl J hu hs M (hyv hp) h0 h1,.f (.ptr cells _ b base us hO hb hcl Z hr')⟩
   .cases I
  .cases I
 .cases I
theorem alr {t el:TypeId} {x y:Operand} {n sz:Nat} (J:o.op= .indexAddr t x y) (hu:P.underlying t=af (.array n el)) (hs:fG P el=af sz) (I:eZ (.iada n sz x y) e h nx=af R):gZ P o e.get h.get R.eff:=by
 have key:∀(w:World) (ρ:Operand->Value) (b off:Nat) (k:IntKind) (i:Int),ρ x= .pointer (af ⟨b,off,ah⟩)->ρ y= .int k i->0<=i->i<n->(execOp ρ o).run P w= .ok (.value (.pointer (af ⟨b,off+i.toNat*sz,ah⟩))) w:=by
  intro w ρ b off k i h1 h2 h3 h4;have h5:=gJ hs w;unfold execOp;rw[J];simp[h1,h2,Instr.indexAt,asIntOf,run_underlying hu,h5,h3,h4,lA,Instr.sureAddr]
 simp only[eZ]at I;split at I
 .rename_i v k j hx Z;split at I
  .rename_i hc;simp only[c_,gf,av,be]at hc;obtain⟨h0,h1⟩:=hc;split at I
   .rw[dG I];refine gZ.reads λφ E h' w a _ hp _=>?_
    have hr:=hp x _ (by rw[J];simp[Op.operands]) hx;have hyv:=fM (hp y _ (by rw[J];simp[Op.operands]) Z);generalize M:a.eval x=z at hr;cases hr with
    |ptr hφ=>exact⟨_,key w a.eval _ _ k j M hyv h0 h1,.ptr hφ⟩
   .rw[dG I];refine gZ.reads λφ E h' w a _ hp _=>?_
    have hr:=hp x _ (by rw[J];simp[Op.operands]) hx;have hyv:=fM (hp y _ (by rw[J];simp[Op.operands]) Z);generalize M:a.eval x=z at hr;cases hr with
    |f hr=>
     cases hr with
     |ptr _ _ b base us hO hb hcl U Y=>
      refine ⟨_,key w a.eval _ _ k j M hyv h0 h1,.f ?_⟩;rw[qa];exact .ptr _ _ b base us hO hb hcl U Y
   .cases I
  .cases I
 .cases I
theorem apd {x:Operand} {i:Nat} (J:o.op= .extract x i) (I:eZ (.ext x i) e h nx=af R):gZ P o e.get h.get R.eff:=by
 simp only[eZ]at I;split at I
 .rename_i l U;split at I
  .rename_i v hv;rw[dG I];refine gZ.reads λφ E h' w a _ hp _=>?_
   have hr:=hp x _ (by rw[J];simp[Op.operands]) U;generalize M:a.eval x=z at hr;cases hr with
   |@tup _ vs hl hrr=>
    have hlt:i<vs.length:=by
     rw[hl];exact (bn.1 hv).1
    refine ⟨vs[i],?_,hrr i v _ hv (aB hlt)⟩;unfold execOp;rw[J];simp[M,Instr.extract,hlt]
  .cases I
 .cases I
theorem ap8 {x y:Operand} {M:Array TypeId} (J:o.op= .call {callee:=.builtin .max,args:=#[x,y],argTypes:=M}) (I:eZ (.max x y) e h nx=af R):gZ P o e.get h.get R.eff:=by
 simp only[eZ]at I;split at I
 .rename_i k a b k' Y U;rw[dG I];refine gZ.reads λφ E h' w a _ hp _=>?_
  have h1:=fM (hp x _ (by rw[J];simp[Op.operands,fc]) Y);have h2:=fM (hp y _ (by rw[J];simp[Op.operands,fc]) U);refine ⟨_,?_,.f (.raw _)⟩;unfold execOp;rw[J];simp[resolve,invoke,builtin,Builtin.max_,Builtin.max2,h1,h2,gf]
 .cases I
theorem ap7 {x y:Operand} {M:Array TypeId} (J:o.op= .call {callee:=.builtin .min,args:=#[x,y],argTypes:=M}) (I:eZ (.min x y) e h nx=af R):gZ P o e.get h.get R.eff:=by
 simp only[eZ]at I;split at I
 .rename_i k a b k' Y U;rw[dG I];refine gZ.reads λφ E h' w a _ hp _=>?_
  have h1:=fM (hp x _ (by rw[J];simp[Op.operands,fc]) Y);have h2:=fM (hp y _ (by rw[J];simp[Op.operands,fc]) U);refine ⟨_,?_,.f (.raw _)⟩;unfold execOp;rw[J];simp[resolve,invoke,builtin,Builtin.min_,Builtin.min2,h1,h2,gf]
 .cases I
theorem ap3 {x:Operand} {t:TypeId} {k:IntKind} (J:o.op= .unOp .neg t x) (I:eZ (.bin .sub (.const (.int k 0)) x) e h nx=af R):gZ P o e.get h.get R.eff:=by
 simp only[eZ,mW,FZ]at I;split at I
 .rename_i u v hu M;cases hu;split at I
  .rename_i r hb;rw[dG I];refine gZ.reads λφ E h' w a _ hop _=>?_
   have h1:=fM (hop x _ (by rw[J];simp[Op.operands]) M);refine ⟨r,?_,.f (.raw _)⟩;unfold execOp;rw[J];cases v<;>simp only[vy]at hb<;>try (cases hb;done)
   split at hb
   .rename_i hk;have hk:=eq_of_beq hk;subst hk;simp only[ak]at hb;subst hb;simp[h1,Op.unary,Op.intArith,zC]
   .cases hb
  .cases I
 .cases I
theorem ali {x i:Operand} {t:TypeId} (J:o.op= .index t x i) (hu:P.underlying t=af .string) (I:eZ (.sidx x i) e h nx=af R):gZ P o e.get h.get R.eff:=by
 simp only[eZ]at I;split at I
 .rename_i s k j M hi;split at I
  .rename_i h0;simp only[c_,be]at h0;split at I
   .rename_i b hb;rw[dG I];refine gZ.reads λφ E h' w a _ hop _=>?_
    have h1:=fM (hop x _ (by rw[J];simp[Op.operands]) M);have h2:=fM (hop i _ (by rw[J];simp[Op.operands]) hi);refine ⟨_,?_,.f (.raw _)⟩;have hs:s[j.toNat]? =af b:=by
     rw[cQ]at hb;obtain⟨hl,he⟩:=cJ.1 hb;exact getElem?_pos s j.toNat hl▸gX af he
    unfold execOp;rw[J];simp[Instr.index,run_underlying hu,h1,h2,asIntOf,h0,hs]
   .cases I
  .cases I
 .cases I
theorem ap6 {f:FuncId} {caps:Array Operand} (Y:o.op= .makeFunc (.func f) #[] caps) (M:eZ (.mkf f caps.toList) e h nx=af R):gZ P o e.get h.get R.eff:=by
 simp only[eZ]at M;split at M
 .rename_i l hl;rw[dG M];refine gZ.reads λφ E h' w a _ hp _=>?_
  refine ⟨_,by unfold execOp;rw[Y];rfl,?_⟩;have key:∀(xs:List Operand) (I:List AV),(∀x∈xs,x∈o.op.operands)->Yp e xs=af I->I.length=xs.length/\∀(j:Nat) x v,I[j]? =af x->(xs.map a.eval)[j]? =af v->cV φ (tot E φ h') w x v:=by
   intro xs;induction xs with
   |nil=>intro I _ h;simp only[Yp,ak]at h;subst h;exact⟨rfl,λj x v J=>by simp at J⟩
   |cons x xs Z=>
    intro I hm h;simp only[Yp]at h;split at h
    .rename_i y hy;split at h
     .rename_i ys' hys;simp only[ak]at h;subst h;obtain⟨h1,h2⟩:=Z ys' (λx J=>hm x (cM _ J)) hys;refine ⟨by simp[h1],λj z v U hv=>?_⟩;cases j with
      |zero=>simp at U hv;subst U;subst hv;exact hp x _ (hm x (dw ..)) hy
      |succ j=>exact h2 j z v (by simpa using U) (by simpa using hv)
     .cases h
    .cases h
  obtain⟨h1,h2⟩:=key caps.toList l (λx J=>by rw[Y];simpa[Op.operands] using J) hl;have h3:(caps.map a.eval)=(caps.toList.map a.eval).toArray:=by
   apply L8;simp
  have h4:(#[]:Array Operand).map a.eval=#[]:=by simp
  rw[h4,h3];exact .clo (by simp[h1]) h2
 .cases M
end pure
section
variable {P:Program} {o:Oper} {e:AB} {h:oH} {nx:Nat} {R:CU}
theorem XI {α:Type} {l cs:List α} {off sz:Nat} (h:off+sz<=l.length) (he:(l.drop off).take sz=cs):cs.length=sz/\∀(j:Nat) x,cs[j]? =af x->l[off+j]? =af x:=by
 subst he;constructor
 .simp;omega
 .intro j x I;rw[cP]at I;split at I
  .rw[ia]at I;exact I
  .cases I
theorem yf (f:Nat->Value) (n j:Nat) (v:Value) (h:((bx n).map f)[j]? =af v):v=f j/\j<n:=by
 rw[ba]at h;rcases ci j n with hj|hj
 .rw[qD hj]at h;simp at h;exact⟨h.symm,hj⟩
 .rw[bT (by simpa using hj)]at h;cases h
def yG (φ:PM) (O:Nat->Prop) (w:World) (c:BC) (f:Nat->Option Value):Prop:=∀j x,c.get j=af x->x.isCell=ai/\∃v,f j=af v/\cV φ O w x v
theorem XH {φ:PM} {O:Nat->Prop} {w:World} {c:BC} {off sz:Nat} {ag:Bool} {val:AV} (hs:c.sub? off sz ag=af val) {f:Nat->Option Value} (hc:yG φ O w c f):
 ∃cs:ξ,cs.length=sz/\(∀(j:Nat) v,cs[j]? =af v->f (off+j)=af v)/\(ag=aj->sz=1)/\cV φ O w val (if ag then .agg cs.toArray else cs.getD 0 undef):=by
 cases ag with
 |false=>
  simp only[BC.sub?]at hs;split at hs
  .obtain⟨h0,v,h1,h2⟩:=hc off val hs;exact⟨[v],rfl,λj u hu=>by cases j with|zero=>simp at hu;subst hu;exact h1|succ j=>simp at hu,λ_=>rfl,by simpa using h2⟩
  .cases hs
 |true=>
  have fin:∀(g:Nat->Option AV),(∀j,j<sz->∃x,g j=af x/\c.get (off+j)=af x)->
   ∃cs:ξ,cs.length=sz/\(∀(j:Nat) v,cs[j]? =af v->f (off+j)=af v)/\∀(j:Nat) x v,g j=af x->cs[j]? =af v->cV φ O w x v:=by
   intro g hg;refine ⟨(bx sz).map λj=>(f (off+j)).getD undef,by simp,λj v hv=>?_,λj x v I hv=>?_⟩
   .obtain⟨rfl,hj⟩:=yf _ _ _ _ hv;obtain⟨x,_,h2⟩:=hg j hj;obtain⟨_,v,J,_⟩:=hc _ _ h2;rw[J];rfl
   .obtain⟨rfl,hj⟩:=yf _ _ _ _ hv;obtain⟨U,h1,h2⟩:=hg j hj;rw[I]at h1;cases h1;obtain⟨_,v,J,M⟩:=hc _ _ h2;rw[J];exact M
  simp only[BC.sub?]at hs;split at hs
  .rename_i l;split at hs
   .rename_i hle;simp only[ak]at hs;subst hs;obtain⟨hl,hg⟩:=XI (a_ hle) (rfl:(l.drop off).take sz=_);obtain⟨cs,h1,h2,J⟩:=fin (λj=>(((l.drop off).take sz)[j]?).map AV.f) (λj hj=>by
     have hlt:j<((l.drop off).take sz).length:=by rw[hl];exact hj
     refine ⟨.f ((l.drop off).take sz)[j],by simp only[aB hlt,cr],?_⟩;simp only[BC.get,hg j _ (aB hlt),cr])
    refine ⟨cs,h1,h2,(λh=>by cases h),.f (.agg _ _ (by rw[h1,hl]) ?_ ?_)⟩
    .intro x I;obtain⟨j,hj⟩:=fx I;exact (hc (off+j) (.f x) (by simp only[BC.get,hg j x hj,cr])).1
    .intro j x v I hv;have:=J j (.f x) v (by simp only[I,cr]) hv;cases this with
     |f h=>exact h
   .cases hs
  .rename_i l;split at hs
   .rename_i hle;simp only[ak]at hs;subst hs;obtain⟨hl,hg⟩:=XI (a_ hle) (rfl:(l.drop off).take sz=_);obtain⟨cs,h1,h2,J⟩:=fin (λj=>(((l.drop off).take sz)[j]?)) (λj hj=>by
     have hlt:j<((l.drop off).take sz).length:=by rw[hl];exact hj
     exact⟨_,aB hlt,hg j _ (aB hlt)⟩)
    refine ⟨cs,h1,h2,(λh=>by cases h),.agg (by rw[h1,hl]) ?_ ?_⟩
    .intro x I;obtain⟨j,hj⟩:=fx I;exact (hc (off+j) x (hg j x hj)).1
    .intro j x v I hv;exact J j x v I hv
   .cases hs
  .cases hs
theorem O6 {t:TypeId} {sz:Nat} {ag:Bool} (hs:fG P t=af sz) (I:EC P t=af ag) (w:World) (b off:Nat) (cs:ξ) (hl:cs.length=sz) (hc:∀(j:Nat) v,cs[j]? =af v->w.cell? ⟨b,off+j,ah⟩=af v) (h1:ag=aj->sz=1):
 (loadVar t ⟨b,off,ah⟩).run P w= .ok (if ag then .agg cs.toArray else cs.getD 0 undef) w:=by
 unfold loadVar;simp only[eT,Rw I w,cR];cases ag with
 |true=>
  simp only[bI,eT,gJ hs w,cR];rw[<- hl,run_loadCells_list (P:=P) w ⟨b,off,ah⟩ cs (λj v hv=>by rw[lA];exact hc j v hv)];rfl
 |false=>
  have h1:=h1 rfl;cases cs with
  |nil=>simp at hl;omega
  |cons v r=>
   have:=hc 0 v rfl;simp only[dD]at this;simp[load,nY,this]
theorem Jz {φ:PM} {O:Nat->Prop} {w:World} {t:TypeId} {sz:Nat} {ag:Bool} (hs:fG P t=af sz) (I:EC P t=af ag) {c:BC} {b base off:Nat} {val:AV} (hv:c.sub? off sz ag=af val)
 (hc:yG φ O w c λj=>w.cell? ⟨b,base+j,ah⟩):∃v,(loadVar t ⟨b,base+off,ah⟩).run P w= .ok v w/\cV φ O w val v:=by
 obtain⟨cs,h1,h2,M,J⟩:=XH hv hc;exact⟨_,O6 hs I w b (base+off) cs h1 (λj v hj=>by rw[qa];exact h2 j v hj) M,J⟩
theorem Uf {φ:PM} {E:Nat->Prop} {h':HF} {w:World} (hrep:rH φ E h' w) {id k:Nat} {b:xE} (hb:h' id=af b) (hk:φ id=af k) (hc:b.c.isCells=ai):yG φ (tot E φ h') w b.c λj=>w.cell? ⟨k,0+j,ah⟩:=by
 obtain⟨k',h1,_,h2⟩:=hrep.at_ id b hb;rw[hk]at h1;cases h1;obtain⟨arr,M,h4,J⟩:=h2.cells hc;intro j x I;obtain⟨Z,v,Y,U⟩:=J j x I;exact⟨Z,v,by simp[ON,M,Y],U⟩
theorem W9 {φ:PM} {O:Nat->Prop} {w:World} {cells:List FV} {b base:Nat} {us:Nat->Value} (hcl:∀x∈cells,x.isCell=ai) (hu:∀j,j<cells.length->w.cell? ⟨b,base+j,ah⟩=af (us j)) (hr:∀(j:Nat) x,cells[j]? =af x->nS O w x (us j)):
 yG φ O w (.fz cells) λj=>w.cell? ⟨b,base+j,ah⟩:=by
 intro j y I;simp only[BC.get]at I;cases hc:cells[j]? with
 |none=>rw[hc]at I;cases I
 |some q=>
  rw[hc]at I;simp at I;subst I;have hj:j<cells.length:=(bn.1 hc).1;exact⟨hcl q (bc hc),us j,hu j hj,.f (hr j q hc)⟩
theorem Rj {c:BC} {off sz:Nat} {ag:Bool} {v:AV} (h:c.sub? off sz ag=af v):c.isCells=ai:=by
 cases c with
 |fz=>rfl
 |mx=>rfl
 |mp es=>cases ag<;>simp only[BC.sub?,BC.get]at h<;>(try split at h)<;>cases h
 |it s p=>cases ag<;>simp only[BC.sub?,BC.get]at h<;>(try split at h)<;>cases h
theorem Uo {t:TypeId} {sz:Nat} {ag:Bool} (hs:fG P t=af sz) (hag:EC P t=af ag) {p:AV} (I:EB h sz ag p=af R):
 R.wr=[]/\R.nw=[]/\R.N=[]/\∀(φ:PM) (E:Nat->Prop) (h':HF) (w:World) (pv:Value),(∀i∈R.rd,h' i=h.get i)->rH φ E h' w->cV φ (tot E φ h') w p pv->
  ∃J v,pv= .pointer (af J)/\(loadVar t J).run P w= .ok v w/\cV φ (tot E φ h') w R.val v:=by
 unfold EB at I;split at I
 .rename_i id off;split at I
  .rename_i b hb;split at I
   .rename_i v hv;simp only[ak]at I;subst I;refine ⟨rfl,rfl,rfl,λφ E h' w pv hrd hrep hr=>?_⟩;have hh:h' id=af b:=by rw[hrd id (by simp)];exact hb
    cases hr with
    |@ptr _ _ k hφ=>
     obtain⟨u,h1,h2⟩:=Jz hs hag (w:=w) (b:=k) (base:=0) hv (Uf hrep hh hφ (Rj hv));rw[bR]at h1;exact⟨_,u,rfl,h1,h2⟩
   .cases I
  .cases I
 .rename_i cells off;split at I
  .rename_i v hv;rw[dG I];refine ⟨rfl,rfl,rfl,λφ E h' w pv hrd hrep hr=>?_⟩;cases hr with
   |f hr=>
    cases hr with
    |ptr _ _ b base us hO hb hcl hu hr=>
     obtain⟨u,h1,h2⟩:=Jz (φ:=φ) (O:=tot E φ h') hs hag (w:=w) (b:=b) (base:=base) hv (W9 hcl hu hr);exact⟨_,u,rfl,h1,h2⟩
  .cases I
 .cases I
theorem aln {t:TypeId} {x:Operand} {sz:Nat} {ag:Bool} (J:o.op= .load t x) (hs:fG P t=af sz) (hag:EC P t=af ag) (I:eZ (.load sz ag x) e h nx=af R):gZ P o e.get h.get R.eff:=by
 simp only[eZ]at I;split at I
 .rename_i p Y;obtain⟨h1,h2,U,M⟩:=Uo hs hag I;obtain⟨val,rd,wr,nw,N⟩:=R;simp only at h1 h2 U M;subst h1;subst h2;subst U;refine gZ.reads λφ E h' w a hrd hp hrep=>?_
  obtain⟨ad,v,h5,h6,Z⟩:=M φ E h' w _ hrd hrep (hp x _ (by rw[J];simp[Op.operands]) Y);refine ⟨v,?_,Z⟩;unfold execOp;rw[J];simp[Instr.loadAt,h5,Instr.sureAddr,h6]
 .cases I
theorem XY {φ:PM} {O:Nat->Prop} {w:World} {t:TypeId} {sz:Nat} {ag:Bool} (hs:fG P t=af sz) (hag:EC P t=af ag) {c:BC} {off:Nat} {val:AV} (hv:c.sub? off sz ag=af val) {vs:ξ}
 (hc:yG φ O w c λj=>vs[j]?):∃v,(part t vs.toArray off).run P w= .ok v w/\cV φ O w val v:=by
 obtain⟨cs,h1,h2,J,I⟩:=XH hv hc;refine ⟨_,?_,I⟩;unfold part;simp only[eT,Rw hag w,cR];cases ag with
 |true=>
  simp only[bI,eT,gJ hs w,cR];have:vs.toArray.extract off (off+sz)=cs.toArray:=by
   apply L8;simp only[Array.toList_extract,List.extract_eq_take_drop];apply List.ext_getElem?;intro j;rw[show off+sz-off=sz from by omega,cP,ia];rcases ci j sz with hj|hj
   .rw[aD hj];have:=h2 j _ (aB (by omega:j<cs.length));rw[this,aB (by omega:j<cs.length)]
   .rw[aA (by omega),bT (by omega)]
  rw[this];rfl
 |false=>
  have M:=J rfl;cases cs with
  |nil=>simp at h1;omega
  |cons v r=>
   have:=h2 0 v rfl;simp only[dD]at this;simp[this]
theorem Ug {φ:PM} {O:Nat->Prop} {w:World} {l:List AV} {vs:ξ} (hl:vs.length=l.length) (hcl:∀x∈l,x.isCell=ai) (hr:∀(j:Nat) x v,l[j]? =af x->vs[j]? =af v->cV φ O w x v):yG φ O w (.mx l) λj=>vs[j]? :=by
 intro j x I;simp only[BC.get]at I;have hj:j<vs.length:=by rw[hl];exact (bn.1 I).1
 exact⟨hcl x (bc I),vs[j],aB hj,hr j x _ I (aB hj)⟩
theorem QJ {φ:PM} {O:Nat->Prop} {w:World} {l:List FV} {vs:ξ} (hl:vs.length=l.length) (hcl:∀x∈l,x.isCell=ai) (hr:∀(j:Nat) x v,l[j]? =af x->vs[j]? =af v->nS O w x v):yG φ O w (.fz l) λj=>vs[j]? :=by
 intro j x I;simp only[BC.get]at I;cases hc:l[j]? with
 |none=>rw[hc]at I;cases I
 |some q=>
  rw[hc]at I;simp at I;subst I;have hj:j<vs.length:=by rw[hl];exact (bn.1 hc).1
  exact⟨hcl q (bc hc),vs[j],aB hj,.f (hr j q _ hc (aB hj))⟩
theorem LG {φ:PM} {O:Nat->Prop} {w:World} {t:TypeId} {sz:Nat} {ag:Bool} (hs:fG P t=af sz) (hag:EC P t=af ag) {x:AV} {z:Value} (hr:cV φ O w x z) {off:Nat} {val:AV}
 (hv:(∃l,x= .agg l/\(BC.mx l).sub? off sz ag=af val)\/(∃l,x= .f (.agg l)/\(BC.fz l).sub? off sz ag=af val)):∃cs v,z= .agg cs/\(part t cs off).run P w= .ok v w/\cV φ O w val v:=by
 rcases hv with ⟨l,rfl,hv⟩|⟨l,rfl,hv⟩
 .cases hr with
  |agg hl hcl hr=>
   obtain⟨v,h1,h2⟩:=XY hs hag hv (Ug hl hcl hr);exact⟨_,v,rfl,h1,h2⟩
 .cases hr with
  |f hr=>
   cases hr with
   |agg _ vs hl hcl hr=>
    obtain⟨v,h1,h2⟩:=XY (φ:=φ) hs hag hv (QJ hl hcl hr);exact⟨_,v,rfl,h1,h2⟩
theorem apb {s:TypeId} {fs:Array Field} {k:Nat} {f:Field} {sz:Nat} {ag:Bool} {x:Operand} (M:o.op= .field s x k) (hu:P.underlying s=af (.struct fs)) (hf:fs[k]? =af f) (hs:fG P f.type=af sz) (hag:EC P f.type=af ag) (I:eZ (.fld f.offset sz ag x) e h nx=af R):gZ P o e.get h.get R.eff:=by
 have fin:∀(y:AV) (val:AV),mW e x=af y->((∃l,y= .agg l/\(BC.mx l).sub? f.offset sz ag=af val)\/(∃l,y= .f (.agg l)/\(BC.fz l).sub? f.offset sz ag=af val))->rv val=af R->gZ P o e.get h.get R.eff:=by
  intro y val J hv U;rw[dG U];refine gZ.reads λφ E h' w a _ hp _=>?_
  obtain⟨cs,v,h1,h2,Y⟩:=LG hs hag (hp x _ (by rw[M];simp[Op.operands]) J) hv;refine ⟨v,?_,Y⟩;unfold execOp;rw[M];simp[Instr.field,run_underlying hu,hf,h1,asAgg,h2]
 simp only[eZ]at I;split at I
 .rename_i l J;split at I
  .rename_i v hv;exact fin _ v J (.inl ⟨l,rfl,hv⟩) I
  .cases I
 .rename_i l J;split at I
  .rename_i v hv;exact fin _ v J (.inr ⟨l,rfl,hv⟩) I
  .cases I
 .cases I
theorem ap9 {t el:TypeId} {n sz:Nat} {ag:Bool} {x y:Operand} (J:o.op= .index t x y) (hu:P.underlying t=af (.array n el)) (hs:fG P el=af sz) (hag:EC P el=af ag) (I:eZ (.idx n sz ag x y) e h nx=af R):gZ P o e.get h.get R.eff:=by
 simp only[eZ]at I;split at I
 .rename_i v0 k j U M;split at I
  .rename_i hc;simp only[c_,gf,av,be]at hc;obtain⟨h0,h1⟩:=hc;have fin:∀(val:AV),((∃l,v0= .agg l/\(BC.mx l).sub? (j.toNat*sz) sz ag=af val)\/(∃l,v0= .f (.agg l)/\(BC.fz l).sub? (j.toNat*sz) sz ag=af val))->rv val=af R->gZ P o e.get h.get R.eff:=by
    intro val hv Y;rw[dG Y];refine gZ.reads λφ E h' w a _ hp _=>?_
    have hyv:=fM (hp y _ (by rw[J];simp[Op.operands]) M);obtain⟨cs,v,h3,h4,h5⟩:=LG hs hag (hp x _ (by rw[J];simp[Op.operands]) U) hv;refine ⟨v,?_,h5⟩;have Z:=gJ hs w;unfold execOp;rw[J];simp[Instr.index,run_underlying hu,hyv,asIntOf,h3,h0,h1,Z,h4]
   split at I
   .rename_i l;split at I
    .rename_i v hv;exact fin v (.inl ⟨l,rfl,hv⟩) I
    .cases I
   .rename_i l;split at I
    .rename_i v hv;exact fin v (.inr ⟨l,rfl,hv⟩) I
    .cases I
   .cases I
  .cases I
 .cases I
theorem alq {t el:TypeId} {x:Operand} (M:o.op= .call {callee:=.builtin .len,args:=#[x],argTypes:=#[t]}) (hu:P.underlying t=af (.slice el)) (I:eZ (.len x) e h nx=af R):gZ P o e.get h.get R.eff:=by
 simp only[eZ]at I;split at I
 .rename_i y U;split at I
  .rename_i n hn;rw[dG I];refine gZ.reads λφ E h' w a _ hp _=>?_
   have hr:=hp x _ (by rw[M];simp[Op.operands,fc]) U;refine ⟨_,?_,.f (.raw _)⟩;have J:∃A c,a.eval x= .slice A n c:=by
    generalize a.eval x=z at hr;unfold AV.slen at hn;split at hn<;>try (simp only[ak]at hn;subst hn)
    .cases hr with
     |f hr=>cases hr with
      |nil=>exact⟨_,_,rfl⟩
      |sl=>exact⟨_,_,rfl⟩
    .cases fM hr;exact⟨_,_,rfl⟩
    .cases hr;exact⟨_,_,rfl⟩
    .cases hr;exact⟨_,_,rfl⟩
    .cases hr;exact⟨_,_,rfl⟩
    .cases hn
   obtain⟨A,c,J⟩:=J;unfold execOp;rw[M];simp[resolve,invoke,builtin,Builtin.len_,run_underlying hu,J,goInt]
  .cases I
 .cases I
theorem alp {t:TypeId} {x:Operand} (J:o.op= .call {callee:=.builtin .len,args:=#[x],argTypes:=#[t]}) (hu:P.underlying t=af .string) (I:eZ (.lens x) e h nx=af R):gZ P o e.get h.get R.eff:=by
 simp only[eZ]at I;split at I
 .rename_i s M;rw[dG I];refine gZ.reads λφ E h' w a _ hp _=>?_
  have hr:=fM (hp x _ (by rw[J];simp[Op.operands,fc]) M);refine ⟨_,?_,.f (.raw _)⟩;unfold execOp;rw[J];simp[resolve,invoke,builtin,Builtin.len_,run_underlying hu,hr,goInt]
 .cases I
theorem alo {t k v:TypeId} {x:Operand} (J:o.op= .call {callee:=.builtin .len,args:=#[x],argTypes:=#[t]}) (hu:P.underlying t=af (.map k v)) (I:eZ (.lenm x) e h nx=af R):gZ P o e.get h.get R.eff:=by
 simp only[eZ]at I;split at I
 .rename_i id U;split at I
  .rename_i ty es hid;simp only[ak]at I;subst I;refine gZ.reads λφ E h' w a hrd hp hrep=>?_
   have hr:=hp x _ (by rw[J];simp[Op.operands,fc]) U;have hh:h' id=af ⟨ty,.mp es⟩:=by rw[hrd id (by simp)];exact hid
   generalize M:a.eval x=z at hr;cases hr with
   |@mp _ b hφ=>
    obtain⟨b',h1,_,ob,h2,h3⟩:=hrep.at_ id _ hh;rw[hφ]at h1;cases h1;obtain⟨ents,clock,rfl,Z,_⟩:=h3;have Y:ents.size=es.length:=by have:=gX al Z;simpa using this
    refine ⟨_,?_,.f (.raw _)⟩;unfold execOp;rw[J];simp[resolve,invoke,builtin,Builtin.len_,run_underlying hu,M,goInt,getObj,nY,h2,Y]
  .cases I
 .cases I
end
structure F_ (w w':World) (k:Nat) (ob:Obj):Prop where
 os:w'.os=w.os
 tape:w'.tape=w.tape
 output:w'.output=w.output
 size:w'.heap.size=w.heap.size
 at_:w'.heap[k]? =af ob
 other:∀j,j≠k->w'.heap[j]? =w.heap[j]?
 shp:∀j,w'.shape? j=w.shape? j
structure Uu (w w':World) (ob:Obj):Prop where
 os:w'.os=w.os
 tape:w'.tape=w.tape
 output:w'.output=w.output
 size:w'.heap.size=w.heap.size+1
 at_:w'.heap[w.heap.size]? =af ob
 other:∀j,j<w.heap.size->w'.heap[j]? =w.heap[j]?
theorem rH.wset {φ:PM} {E:Nat->Prop} {h:HF} {w w':World} (r:rH φ E h w) {id k:Nat} {b b':xE} {ob:Obj} (hb:h id=af b) (hk:φ id=af k) (I:F_ w w' k ob) (hob:jD φ (tot E φ h) w b' ob) (nw:HF) (hnw:nw id=af b'):
 jm φ φ h (fd h [id] nw) w w'/\rH φ E (fd h [id] nw) w':=by
 have hdom:∀i,(∃x,fd h [id] nw i=af x)↔∃x,h i=af x:=λi=>by
  unfold fd;by_cases hi:i=id
  .subst hi;simp[hnw,hb]
  .simp[hi]
 have hown:∀j,own φ (fd h [id] nw) j↔own φ h j:=λj=>by
  constructor
  .rintro⟨i,x,h1,h2⟩;obtain⟨y,M⟩:=(hdom i).1 ⟨x,h1⟩;exact⟨i,y,M,h2⟩
  .rintro⟨i,x,h1,h2⟩;obtain⟨y,M⟩:=(hdom i).2 ⟨x,h1⟩;exact⟨i,y,M,h2⟩
 have m:jm φ φ h (fd h [id] nw) w w':=by
  refine ⟨λ_ _ h=>h,⟨I.os,I.tape,I.output,by rw[I.size];exact bV _,λj hj ho=>?_,λj _=>I.shp j⟩,λj _ h=>(hown j).1 h⟩;exact I.other j (λe=>ho (e▸⟨id,b,hb,hk⟩))
 refine ⟨m,⟨λi j x y kk hi hj h1 h2=>?_,λi x hi=>?_,λk hk=>dH (r.el k hk) m.ext.size,λg cells hg=>m.keepF (r.gl g cells hg)⟩⟩
 .obtain⟨x',U⟩:=(hdom i).1 ⟨x,hi⟩;obtain⟨Z,J⟩:=(hdom j).1 ⟨y,hj⟩;exact r.inj i j x' Z kk U J h1 h2
 .by_cases hid:i=id
  .subst hid;have:x=b':=by unfold fd at hi;simp[hnw]at hi;exact hi.symm
   subst this;obtain⟨k',h1,h2,_⟩:=r.at_ i b hb;rw[hk]at h1;cases h1;exact⟨k,hk,h2,ob,I.at_,hob.mono λ_ _ h=>m.keep h⟩
  .have Y:h i=af x:=by unfold fd at hi;simpa[hid] using hi
   obtain⟨k',h1,h2,ob',h3,h4⟩:=r.at_ i x Y;have hne:k'≠k:=λe=>hid (r.inj i id x b k Y hb (e▸h1) hk)
   exact⟨k',h1,h2,ob',by rw[I.other k' hne];exact h3,h4.mono λ_ _ h=>m.keep h⟩
theorem rH.wnew {φ:PM} {E:Nat->Prop} {h:HF} {w w':World} (r:rH φ E h w) {id:Nat} (hid:φ id=ah) {b:xE} {ob:Obj} (M:Uu w w' ob) (hob:jD φ (tot E φ h) w b ob) (del:ι) (nw:HF) (hnw:nw id=af b) (hdel:∀i∈del,i≠id->nw i=ah):
 ∃φ',φ' id=af w.heap.size/\jm φ φ' h (fd h (id::del) nw) w w'/\(∀i k,φ' i=af k->φ i=af k\/i∈[id])/\rH φ' E (fd h (id::del) nw) w':=by
 have hsub:∀i x,fd h (id::del) nw i=af x->i≠id->h i=af x/\i∉del:=λi x U hi=>by
  unfold fd at U;by_cases hd:i∈del
  .rw[aD (by simp[hd]),hdel i hd hi]at U;cases U
  .rw[aA (by simp[hi,hd])]at U;exact⟨U,hd⟩
 have hlt:∀i x k,h i=af x->φ i=af k->k<w.heap.size:=λi x k hi hk=>by
  obtain⟨k',h1,_,ob',Y,_⟩:=r.at_ i x hi;rw[hk]at h1;cases h1;exact (cJ.1 Y).1
 have hφ:∀i,i≠id->(if i=id then af w.heap.size else φ i)=φ i:=λi hi=>by simp[hi]
 have m:jm φ (λi=>if i=id then af w.heap.size else φ i) h (fd h (id::del) nw) w w':=by
  refine ⟨λi k hk=>?_,⟨M.os,M.tape,M.output,by rw[M.size];omega,λj hj _=>M.other j hj,λj hj=>?_⟩,?_⟩
  .have:i≠id:=λe=>by rw[e,hid]at hk;cases hk
   rw[hφ i this];exact hk
  .unfold sw;rw[M.other j hj]
  .rintro j hj ⟨i,x,h1,h2⟩;by_cases hi:i=id
   .simp[hi]at h2;omega
   .have Y:φ i=af j:=by simpa[hi] using h2
    exact⟨i,x,(hsub i x h1 hi).1,Y⟩
 refine ⟨_,by simp,m,λi k hk=>?_,⟨λi j x y k hi hj h1 h2=>?_,λi x hi=>?_,λk hk=>dH (r.el k hk) m.ext.size,λg cells hg=>m.keepF (r.gl g cells hg)⟩⟩
 .by_cases hi:i=id
  .right;simp[hi]
  .left;rw[hφ i hi]at hk;exact hk
 .by_cases I:i=id
  .by_cases J:j=id
   .rw[I,J]
   .exfalso;rw[hφ j J]at h2;have:=hlt j y k (hsub j y hj J).1 h2;simp[I]at h1;omega
  .rw[hφ i I]at h1;have hix:=(hsub i x hi I).1;by_cases J:j=id
   .exfalso;have:=hlt i x k hix h1;simp[J]at h2;omega
   .rw[hφ j J]at h2;exact r.inj i j x y k hix (hsub j y hj J).1 h1 h2
 .by_cases I:i=id
  .subst I;have:x=b:=by unfold fd at hi;simp[hnw]at hi;exact hi.symm
   subst this;refine ⟨w.heap.size,by simp,λhe=>?_,ob,M.at_,hob.mono λ_ _ h=>m.keep h⟩;have:=r.el _ he;omega
  .obtain⟨k,h1,h2,ob',Y,Z⟩:=r.at_ i x (hsub i x hi I).1;refine ⟨k,by rw[hφ i I];exact h1,h2,ob',?_,Z.mono λ_ _ h=>m.keep h⟩;rw[M.other k (hlt i x k (hsub i x hi I).1 h1)];exact Y
theorem rJ (w:World) (ob:Obj):Uu w {w with heap:=w.heap.push ob} ob:=by
 refine ⟨rfl,rfl,rfl,by simp,by simp,λj hj=>?_⟩;rw[Array.getElem?_push,aA (by omega)]
theorem Uu.drawn {w w':World} {ob:Obj} (d:Nat) (h:Uu {w with drawn:=d} w' ob):Uu w w' ob:=⟨h.os,h.tape,h.output,h.size,h.at_,h.other⟩
theorem gZ.makes {P:Program} {o:Oper} {e:AB} {h:HF} {rd:ι} {nx:Nat} {b:xE} {val:AV}
 (hv:∀(φ:PM) (E:Nat->Prop) (h':HF) (w:World) (a:Act),(∀i∈rd,h' i=h i)->Xr φ E h' w a e o->rH φ E h' w->
   ∃v w' ob,(execOp a.eval o).run P w= .ok (.value v) w'/\Uu w w' ob/\jD φ (tot E φ h') w b ob/\∀φ' O,φ' nx=af w.heap.size->cV φ' O w' val v):
 gZ P o e.get h ⟨val,rd,[nx],js [(nx,b)],[nx]⟩:=by
 intro φ E h' w a h1 h2 Z I Y;obtain⟨v,w',ob,hrun,U,hob,hval⟩:=hv φ E h' w a h1 (λx y M J=>ug I Z M J) I;obtain⟨φ',g1,g2,g3,g4⟩:=I.wnew (id:=nx) (Y nx (by simp)) U hob [] (js [(nx,b)]) (by simp[js]) (by simp);unfold In;rw[hrun];exact⟨v,φ',rfl,g2,g3,g4,hval φ' _ g1⟩
theorem gZ.writes {P:Program} {o:Oper} {e:AB} {h:HF} {rd:ι} {id:Nat} {b b':xE} {val:AV} (hb:h id=af b)
 (hv:∀(φ:PM) (E:Nat->Prop) (h':HF) (w:World) (a:Act),(∀i∈rd,h' i=h i)->h' id=af b->Xr φ E h' w a e o->rH φ E h' w->
   ∃r w' k ob,(execOp a.eval o).run P w= .ok r w'/\φ id=af k/\F_ w w' k ob/\jD φ (tot E φ h') w b' ob/\(∃v,(r= .value v\/r= .skip/\v=undef)/\cV φ (tot E φ (fd h' [id] (js [(id,b')]))) w' val v)):
 gZ P o e.get h ⟨val,rd,[id],js [(id,b')],[]⟩:=by
 intro φ E h' w a h1 h2 h3 I h5;obtain⟨r,w',k,ob,hrun,hk,Z,hob,v,hr,hval⟩:=hv φ E h' w a h1 (by rw[h2 id (by simp)];exact hb) (λx y Y U=>ug I h3 Y U) I;obtain⟨M,J⟩:=I.wset (id:=id) (by rw[h2 id (by simp)];exact hb) hk Z hob (js [(id,b')]) (by simp[js]);unfold In;rw[hrun];rcases hr with rfl|⟨rfl,rfl⟩
 .exact⟨v,φ,rfl,M,λ_ _ h=>.inl h,J,hval⟩
 .exact⟨undef,φ,rfl,M,λ_ _ h=>.inl h,J,hval⟩
theorem l9 {l:List AV} (h:gU l=ai):∀x∈l,x.isCell=ai:=by
 induction l with
 |nil=>intro x I;cases I
 |cons y l J=>
  simp only[gU,av]at h;intro x I;rcases bp.1 I with rfl|I
  .exact h.1
  .exact J h.2 x I
theorem qp:∀{l:List AV} {fs:List FV},yD l=af fs->l=fs.map .f
 |[],fs,h=>by simp only[yD,ak]at h;subst h;rfl
 |.f x::r,fs,h=>by
  simp only[yD]at h;split at h
  .rename_i l hl;simp only[ak]at h;subst h;rw[qp hl];rfl
  .cases h
 |.ptr _ _::_,_,h=>by simp[yD]at h
 |.sl _ _ _::_,_,h=>by simp[yD]at h
 |.row _ _ _::_,_,h=>by simp[yD]at h
 |.mp _::_,_,h=>by simp[yD]at h
 |.emp::_,_,h=>by simp[yD]at h
 |.agg _::_,_,h=>by simp[yD]at h
 |.tup _::_,_,h=>by simp[yD]at h
 |.clo _ _::_,_,h=>by simp[yD]at h
def Cs (φ:PM) (O:Nat->Prop) (w:World) (l:List AV) (vs:ξ):Prop:=vs.length=l.length/\(∀x∈l,x.isCell=ai)/\∀(j:Nat) x v,l[j]? =af x->vs[j]? =af v->cV φ O w x v
theorem BC.get_toMx {c:BC} (hc:c.isCells=ai) (j:Nat):c.get j=c.toMx[j]? :=by
 cases c with
 |fz l=>simp[BC.get,BC.toMx]
 |mx l=>rfl
 |mp _=>cases hc
 |it _ _=>cases hc
theorem BC.len_toMx {c:BC} (hc:c.isCells=ai):c.len=c.toMx.length:=by
 cases c with
 |fz l=>simp[BC.len,BC.toMx]
 |mx l=>rfl
 |mp _=>cases hc
 |it _ _=>cases hc
theorem ou (l:List AV):(pU l).toMx=l/\(pU l).isCells=ai:=by
 unfold pU;cases h:yD l with
 |none=>exact⟨rfl,rfl⟩
 |some fs=>exact⟨(qp h).symm,rfl⟩
theorem qH {φ:PM} {O:Nat->Prop} {w:World} {ty:TypeId} {c:BC} (hc:c.isCells=ai) {arr:Array Value} (hl:c.toMx.length<=arr.size)
 (h:∀(j:Nat) x,c.toMx[j]? =af x->x.isCell=ai/\∃v,arr[j]? =af v/\cV φ O w x v):jD φ O w ⟨ty,c⟩ (.cells arr ty (0,0)):=by
 have h2:wg φ O w c arr:=⟨by rw[BC.len_toMx hc];exact hl,λj x I=>h j x (by rw[<- BC.get_toMx hc];exact I)⟩
 unfold jD;cases hb:c with
 |fz l=>rw[hb]at h2;exact⟨arr,rfl,h2⟩
 |mx l=>rw[hb]at h2;exact⟨arr,rfl,h2⟩
 |mp _=>rw[hb]at hc;cases hc
 |it _ _=>rw[hb]at hc;cases hc
theorem Jm {φ:PM} {O:Nat->Prop} {w:World} {ty:TypeId} {l:List AV} {vs:ξ} (h:Cs φ O w l vs):jD φ O w ⟨ty,pU l⟩ (.cells vs.toArray ty (0,0)):=by
 obtain⟨h1,h2⟩:=ou l;refine qH h2 (by rw[h1];simp[h.1]) λj x I=>?_
 rw[h1]at I;have hj:j<vs.length:=by rw[h.1];exact (bn.1 I).1
 exact⟨h.2.1 x (bc I),vs[j],by simp[hj],h.2.2 j x _ I (aB hj)⟩
theorem Wm {φ:PM} {O:Nat->Prop} {w:World} {x:AV} {v:Value} (h:cV φ O w x v) (hc:gU x.cs=ai):Cs φ O w x.cs v.cells.toList:=by
 have one:x.cs=[x]->v.cells=#[v]->Cs φ O w x.cs v.cells.toList:=λh1 h2=>by
  rw[h1]at hc ⊢;rw[h2];exact⟨rfl,l9 hc,λj y u I hu=>by cases j with|zero=>simp at I hu;subst I;subst hu;exact h|succ j=>simp at I⟩
 cases h with
 |ptr h=>exact one rfl rfl
 |sl h _ _=>exact one rfl rfl
 |row h _ _ _=>exact one rfl rfl
 |emp=>exact one rfl rfl
 |anyb=>exact one rfl rfl
 |mp h=>exact one rfl rfl
 |clo _ _=>exact one rfl rfl
 |tup _ _=>exact cX hc (by simp[AV.cs,gU,AV.isCell])
 |@agg l vs hl hcl hr=>exact⟨hl,hcl,hr⟩
 |@f y u hf=>
  cases hf with
  |raw v=>
   have hv:v.oneCell'=ai:=by
    have:(AV.f (.raw v)).cs=[.f (.raw v)]:=rfl;rw[this]at hc;simpa[gU,AV.isCell,FV.isCell] using hc
   refine one rfl ?_;cases v<;>first|rfl|simp[Value.oneCell']at hv
  |nil=>exact one rfl rfl
  |sl=>exact one rfl rfl
  |ptr=>exact one rfl rfl
  |agg l vs hl hcl hr=>
   refine ⟨by simp[AV.cs,Value.cells,hl],l9 hc,λj y u I hu=>?_⟩;simp only[AV.cs,ba]at I;cases hq:l[j]? with
   |none=>rw[hq]at I;cases I
   |some q=>rw[hq]at I;simp at I;subst I;exact .f (hr j q u hq (by simpa[Value.cells] using hu))
theorem nS.one {O:Nat->Prop} {w:World} {x:FV} {v:Value} (h:nS O w x v) (hc:x.isCell=ai):v.oneCell'=ai:=by
 cases h with
 |raw v=>exact hc
 |nil=>rfl
 |sl=>rfl
 |ptr=>rfl
 |agg=>cases hc
theorem cV.one {φ:PM} {O:Nat->Prop} {w:World} {x:AV} {v:Value} (h:cV φ O w x v) (hc:x.isCell=ai):v.oneCell'=ai:=by
 cases h with
 |f h=>exact h.one hc
 |ptr=>rfl
 |sl=>rfl
 |row=>rfl
 |emp=>rfl
 |anyb=>rfl
 |mp=>rfl
 |agg=>cases hc
 |tup=>cases hc
 |clo=>rfl
theorem Cs.one {φ:PM} {O:Nat->Prop} {w:World} {l:List AV} {vs:ξ} (h:Cs φ O w l vs):∀v∈vs,v.oneCell'=ai:=by
 intro v hv;obtain⟨j,hj⟩:=fx hv;have hlt:j<l.length:=by rw[<- h.1];exact (bn.1 hj).1
 exact (h.2.2 j _ v (aB hlt) hj).one (h.2.1 _ (vH hlt))
theorem Cs.append {φ:PM} {O:Nat->Prop} {w:World} {l J:List AV} {vs vs':ξ} (h:Cs φ O w l vs) (h':Cs φ O w J vs'):Cs φ O w (l++J) (vs++vs'):=by
 refine ⟨by simp[h.1,h'.1],λx I=>(bY.1 I).elim (h.2.1 x) (h'.2.1 x),λj x v I hv=>?_⟩;rcases ci j l.length with hj|hj
 .rw[bM hj]at I;rw[bM (by rw[h.1];exact hj)]at hv;exact h.2.2 j x v I hv
 .rw[b7 hj]at I;rw[b7 (by rw[h.1];exact hj),h.1]at hv;exact h'.2.2 _ x v I hv
theorem Cs.take {φ:PM} {O:Nat->Prop} {w:World} {l:List AV} {vs:ξ} (h:Cs φ O w l vs) (n:Nat):Cs φ O w (l.take n) (vs.take n):=by
 refine ⟨by simp[h.1],λx I=>h.2.1 x (gj I),λj x v I hv=>?_⟩;rw[cP]at I hv;split at I
 .rename_i hj;rw[aD hj]at hv;exact h.2.2 j x v I hv
 .cases I
theorem Cs.drop {φ:PM} {O:Nat->Prop} {w:World} {l:List AV} {vs:ξ} (h:Cs φ O w l vs) (n:Nat):Cs φ O w (l.drop n) (vs.drop n):=by
 refine ⟨by simp[h.1],λx I=>h.2.1 x (List.mem_of_mem_drop I),λj x v I hv=>?_⟩;rw[ia]at I hv;exact h.2.2 _ x v I hv
theorem Cs.splice {φ:PM} {O:Nat->Prop} {w:World} {l I:List AV} {vs vs':ξ} (h:Cs φ O w l vs) (h':Cs φ O w I vs') (off:Nat):Cs φ O w (splice l off I) (splice vs off vs'):=by
 unfold AI.splice;rw[h'.1];exact ((h.take off).append h').append (h.drop _)
theorem Cs.raws {φ:PM} {O:Nat->Prop} {w:World} (z:ξ) (J:mS z=ai):Cs φ O w (z.map raw) z:=by
 refine ⟨by simp,λx I=>?_,λj x v I hv=>?_⟩
 .obtain⟨v,hv,rfl⟩:=dv.1 I;exact gD.1 J v hv
 .rw[ba]at I;rw[hv]at I;simp at I;subst I;exact .f (.raw v)
theorem Cs.mono {φ φ':PM} {O O':Nat->Prop} {w w':World} {l:List AV} {vs:ξ} (h:Cs φ O w l vs) (hk:∀x v,cV φ O w x v->cV φ' O' w' x v):Cs φ' O' w' l vs:=⟨h.1,h.2.1,λj x v I hv=>hk _ _ (h.2.2 j x v I hv)⟩
theorem F_.setRow {w:World} {k:Nat} {arr arr':Array Value} {ty:TypeId} (I:w.heap[k]? =af (.cells arr ty (0,0))) (hs:arr'.size=arr.size):F_ w (w.setRow k arr') k (.cells arr' ty (0,0)):=by
 refine ⟨rfl,rfl,rfl,by simp,setRow_heap w k arr arr' ty (0,0) I,λj hj=>setRow_other w k j arr' hj,λj=>?_⟩;unfold sw;by_cases hj:j=k
 .subst hj;rw[setRow_heap w j arr arr' ty (0,0) I,I];simp[hs]
 .rw[setRow_other w k j arr' hj]
section
variable {P:Program} {o:Oper} {e:AB} {h:oH} {nx:Nat} {R:CU}
theorem uk {t:TypeId} {z:ξ} (I:tN P t=af z) (w:World):∃v,(zeroValue t).run P w= .ok v w/\v.cells.toList=z/\∃i,P.info? t=af i/\i.zero=af v:=by
 unfold tN at I;cases hi:P.info? t with
 |none=>rw[hi]at I;cases I
 |some i=>
  rw[hi]at I;simp only[aI]at I;cases hv:i.zero with
  |none=>rw[hv]at I;cases I
  |some v=>
   rw[hv]at I;simp only[cr,ak]at I;exact⟨v,by simp[zeroValue,typeInfo,hi,hv],I,i,rfl,hv⟩
theorem ai5 {t:TypeId} {z:ξ} (Y:o.op= .alloc t) (U:tN P t=af z) (hc:mS z=ai) (M:eZ (.alloc t z) e h nx=af R):gZ P o e.get h.get R.eff:=by
 simp only[eZ,ak]at M;subst M;refine gZ.makes λφ E h' w a _ _ _=>?_
 obtain⟨v,h1,h2,_⟩:=uk U w;refine ⟨.pointer (af ⟨w.heap.size,0,ah⟩),{w with heap:=w.heap.push (.cells v.cells t)},.cells v.cells t (0,0),?_,rJ w _,?_,λφ' O hφ=>.ptr hφ⟩
 .unfold execOp;rw[Y];simp[Instr.alloc,h1,newVar,newRow,newObj,nY]
 .have I:BC.toMx (.fz (z.map .raw))=z.map raw:=by simp[BC.toMx,raw]
  refine qH rfl (by rw[I,<-h2];simp) λj x J=>?_
  rw[I]at J;have cs:=Cs.raws (φ:=φ) (O:=tot E φ h') (w:=w) z hc;have hj:j<z.length:=by have:=(bn.1 J).1;simpa using this
  refine ⟨cs.2.1 x (bc J),z[j],?_,cs.2.2 j x _ J (aB hj)⟩;have:v.cells.toList[j]? =af z[j]:=by rw[h2];exact aB hj
  simpa using this
theorem apg {t:TypeId} {x:Operand} (J:o.op= .box t x) (I:eZ (.box t x) e h nx=af R):gZ P o e.get h.get R.eff:=by
 simp only[eZ]at I;split at I
 .rename_i v M;split at I
  .rename_i hc;simp only[ak]at I;subst I;refine gZ.makes λφ E h' w a _ hp _=>?_
   have hr:=Wm (hp x _ (by rw[J];simp[Op.operands]) M) hc;refine ⟨.pointer (af ⟨w.heap.size,0,ah⟩),{w with heap:=w.heap.push (.cells (a.eval x).cells t)},.cells (a.eval x).cells t (0,0),?_,rJ w _,?_,λφ' O hφ=>.ptr hφ⟩
   .unfold execOp;rw[J];simp[Instr.box,newVar,newRow,newObj,nY]
   .have:=Jm (ty:=t) hr;simpa using this
  .cases I
 .cases I
theorem mY {α:Type} {l vs:List α} {off:Nat} (hle:off+vs.length<=l.length) (j:Nat):(splice l off vs)[j]? =if j<off then l[j]? else if j<off+vs.length then vs[j-off]? else l[j]? :=by
 unfold splice;rw[fY];have h1:(l.take off).length=off:=by simp;omega
 by_cases hj:j<off
 .rw[aD hj,bM (by rw[h1];exact hj),cP,aD hj]
 .rw[aA hj,b7 (by omega),h1];by_cases I:j<off+vs.length
  .rw[aD I,bM (by omega)]
  .rw[aA I,b7 (by omega),ia];congr 1;omega
theorem oX {α:Type} {l vs:List α} {off:Nat} (hle:off+vs.length<=l.length):(splice l off vs).length=l.length:=by
 unfold splice;simp;omega
theorem SK (off:Nat):∀(vs:ξ) (k:Nat) (arr:Array Value),off+k+vs.length<=arr.size->∀j:Nat,
 ((vs.zipIdx k).foldl (λcs (p:Value×Nat)=>cs.setIfInBounds (off+p.2) p.1) arr)[j]? =if j<off+k then arr[j]? else if j<off+k+vs.length then vs[j-(off+k)]? else arr[j]?
 |[],k,arr,_,j=>by
  simp only[List.zipIdx_nil,List.foldl_nil,j8,dD];split<;>rfl
 |v::vs,k,arr,hle,j=>by
  simp only[cf]at hle;rw[List.zipIdx_cons,xK,SK off vs (k+1) _ (by simp;omega) j];simp only[cf];by_cases h1:j<off+k
  .rw[aD (by omega),aD h1,qu (by omega)]
  .by_cases h2:j=off+k
   .subst h2;rw[aD (by omega),aA (by omega),aD (by omega)];simp[show off+k<arr.size by omega]
   .rw[aA (by omega),aA h1];by_cases I:j<off+k+(vs.length+1)
    .rw[aD (by omega),aD I,show j-(off+k)=(j-(off+(k+1)))+1 from by omega];simp
    .rw[aA (by omega),aA I,qu (by omega)]
theorem SJ (off:Nat) (c:Array Value) (l:ξ) (hle:off+c.size<=l.length):(c.zipIdx.foldl (λcs (p:Value×Nat)=>cs.setIfInBounds (off+p.2) p.1) l.toArray)=(splice l off c.toList).toArray:=by
 rw[<- Array.foldl_toList,Array.toList_zipIdx];apply Array.ext_getElem?;intro j;rw[SK off c.toList 0 l.toArray (by simpa using hle) j];simp only[dD,kD];rw[mY (by simpa using hle)]
theorem P5 {φ:PM} {E:Nat->Prop} {h':HF} {w:World} {a:Act} (hp:Xr φ E h' w a e o) {place:Nat->Option (Nat×Nat)}:∀(ps:List (Nat×Operand)) (ps':List (Nat×Nat×Operand)) (cells cs:List AV) (vs:ξ),
 (ps'.length=ps.length)->(∀(j:Nat) i x,ps[j]? =af (i,x)->∃of sz,ps'[j]? =af (of,sz,x)/\place i=af (of,sz))->(∀p∈ps,p.2∈o.op.operands)->Cs φ (tot E φ h') w cells vs->Ac cells e ps'=af cs->
 ∃vs',Instr.fill place vs.toArray (ps.map λp=>(p.1,a.eval p.2))=af vs'.toArray/\Cs φ (tot E φ h') w cs vs'
 |[],ps',cells,cs,vs,hl,_,_,hcs,hf=>by
  cases ps' with
  |nil=>simp only[Ac,ak]at hf;subst hf;exact⟨vs,rfl,hcs⟩
  |cons _ _=>simp at hl
 |(i,x)::ps,ps',cells,cs,vs,hl,hpl,hm,hcs,hf=>by
  obtain⟨of,sz,h1,h2⟩:=hpl 0 i x rfl;cases ps' with
  |nil=>simp at h1
  |cons p ps'=>
   simp at h1;subst h1;simp only[Ac]at hf;split at hf
   .rename_i v hv;split at hf
    .rename_i hc;simp only[av,c8]at hc;obtain⟨⟨M,J⟩,I⟩:=hc;have hr:=Wm (hp x v (hm _ (dw ..)) hv) I;have hsz:(a.eval x).cells.size=sz:=by have:=hr.1;simp at this;omega
     have hle:of+sz<=vs.length:=by rw[hcs.1];exact a_ J
     obtain⟨vs',Y,U⟩:=P5 hp ps ps' _ cs _ (by simpa using hl) (λj i x hj=>by have:=hpl (j+1) i x (by simpa using hj);simpa using this) (λp hp=>hm p (cM _ hp)) (hcs.splice hr of) hf;refine ⟨vs',?_,U⟩;simp only[gB,Instr.fill,h2];have hcd:((decide ((a.eval x).cells.size≠sz))||decide (of+(a.eval x).cells.size>vs.toArray.size))=aj:=by
      rw[hsz];simp;omega
     rw[aA (by rw[hcd];simp)];have:=SJ of (a.eval x).cells vs (by rw[hsz];exact hle);rw[<- Y,<-this]
    .cases hf
   .cases hf
theorem E6 {t:TypeId}:∀(ps:List (Nat×Operand)) (ps':List (Nat×Nat×Operand)),xR P t ps=af ps'->ps'.length=ps.length/\∀(j:Nat) i x,ps[j]? =af (i,x)->∃of sz,ps'[j]? =af (of,sz,x)/\Cd P t i=af (of,sz)
 |[],ps',h=>by simp only[xR,ak]at h;subst h;exact⟨rfl,λj i x M=>by simp at M⟩
 |(i,x)::ps,ps',h=>by
  simp only[xR]at h;split at h
  .rename_i of sz l h1 h2;simp only[ak]at h;subst h;obtain⟨Y,U⟩:=E6 ps l h2;refine ⟨by simp[Y],λj J I hj=>?_⟩;cases j with
   |zero=>simp at hj;obtain⟨rfl,rfl⟩:=hj;exact⟨of,sz,rfl,h1⟩
   |succ j=>simpa using U j J I (by simpa using hj)
  .cases h
theorem Js (w:World):∀(fs:List Field),(fs.all λf=>(fG P f.type).isSome)=ai->(fs.mapM (λf=>do pure (f.offset,<-sizeOf f.type)):Sem (List (Nat×Nat))).run P w= .ok (fs.map λf=>(f.offset,(fG P f.type).getD 0)) w
 |[],_=>by simp
 |f::fs,h=>by
  simp only[List.all_cons,av]at h;obtain⟨sz,hs⟩:=iV.1 h.1;have h1:=gJ hs w;have I:=Js w fs h.2;simp only[List.mapM_cons,eT,h1,cR,pl,I,gB,hs,vD]
theorem YV {t:TypeId} {ps:Array (Nat×Operand)} {z:ξ} {ps':List (Nat×Nat×Operand)} (M:o.op= .build t ps) (hz:tN P t=af z) (hc:mS z=ai) (hps:xR P t ps.toList=af ps')
 (hu:(∃fs,P.underlying t=af (.struct fs)/\(fs.toList.all λf=>(fG P f.type).isSome)=ai)\/∃n el sz,P.underlying t=af (.array n el)/\fG P el=af sz) (I:eZ (.build z ps') e h nx=af R):gZ P o e.get h.get R.eff:=by
 simp only[eZ]at I;split at I
 .rename_i cs hf;rw[dG I];refine gZ.reads λφ E h' w a _ hp _=>?_
  obtain⟨v,h1,h2,_⟩:=uk hz w;have hcells:v.cells=z.toArray:=by rw[<- h2]
  obtain⟨g1,g2⟩:=E6 ps.toList ps' hps;have hops:∀p∈ps.toList,p.2∈o.op.operands:=λp hp=>by
   rw[M];simp only[Op.operands,List.mem_toArray,dv];exact⟨p,hp,rfl⟩
  have hmap:(ps.map λx:Nat×Operand=>(x.1,a.eval x.2)).toList=ps.toList.map λp=>(p.1,a.eval p.2):=by simp
  have fin:∀place:Nat->Option (Nat×Nat),(∀i,Cd P t i≠ah->place i=Cd P t i)->∃vs':ξ,Instr.fill place v.cells (ps.map λx:Nat×Operand=>(x.1,a.eval x.2)).toList=af vs'.toArray/\cV φ (tot E φ h') w (NF cs) (.agg vs'.toArray):=by
   intro place hpl;obtain⟨vs',k1,k2⟩:=P5 (place:=place) hp ps.toList ps' _ cs z g1 (λj i x hj=>by
    obtain⟨of,sz,Z,Y⟩:=g2 j i x hj;exact⟨of,sz,Z,by rw[hpl i (by rw[Y];simp),Y]⟩) hops (Cs.raws z hc) hf
   refine ⟨vs',by rw[hmap,hcells];exact k1,?_⟩;unfold NF;cases hfs:yD cs with
   |none=>exact .agg k2.1 k2.2.1 k2.2.2
   |some fs=>
    have he:=qp hfs;refine .f (.agg fs vs' (by rw[k2.1,he];simp) (λx J=>k2.2.1 (.f x) (by rw[he];exact dv.2 ⟨x,J,rfl⟩)) λj x u J hu=>?_);have:=k2.2.2 j (.f x) u (by rw[he,ba,J];rfl) hu;cases this with
    |f h=>exact h
  rcases hu with ⟨fs,hu,hall⟩|⟨n,el,sz,hu,hs⟩
  .obtain⟨vs',k1,k2⟩:=fin (λi=>(fs.map λf=>(f.offset,(fG P f.type).getD 0))[i]?) (λi hi=>by
    unfold Cd at hi ⊢;rw[hu]at hi ⊢;simp only[Array.getElem?_map]at hi ⊢;cases hf:fs[i]? with
    |none=>rw[hf]at hi;simp at hi
    |some f=>
     simp only[cr,aI];cases hs:fG P f.type with
     |none=>rw[hf]at hi;simp[hs]at hi
     |some sz=>simp)
   refine ⟨_,?_,k2⟩;have hm:=Js w fs.toList hall;have U:(fs.mapM (λf=>do pure (f.offset,<-sizeOf f.type)):Sem (Array (Nat×Nat))).run P w= .ok (fs.map λf=>(f.offset,(fG P f.type).getD 0)) w:=by
    rw[Array.mapM_eq_mapM_toList];simp only[Sem.run_map,hm,cR];congr 1;apply L8;simp
   unfold execOp;rw[M];simp only[Instr.build,eT,h1,cR,run_underlying hu,U,pl,k1]
  .obtain⟨vs',k1,k2⟩:=fin (λi=>af (i*sz,sz)) (λi hi=>by
    unfold Cd;rw[hu];simp[hs])
   refine ⟨_,?_,k2⟩;have h3:=gJ hs w;unfold execOp;rw[M];simp only[Instr.build,eT,h1,cR,run_underlying hu,h3,pl,k1]
 .cases I
end
section
variable {P:Program} {o:Oper} {e:AB} {h:oH} {nx:Nat} {R:CU}
theorem s9 {t el:TypeId} (h:BA P t=af el):P.underlying t=af (.slice el):=by
 unfold BA at h;split at h
 .rename_i e hu;simp only[ak]at h;subst h;exact hu
 .cases h
theorem m6 (z:ξ):∀n,(repl z n).length=n*z.length
 |0=>by simp[repl]
 |n+1=>by simp[repl,m6 z n,jb];omega
theorem Dc (z:ξ):∀(n j:Nat),j<n*z.length->(repl z n)[j]? =(z[j%z.length]?).map .raw
 |0,j,h=>by simp at h
 |n+1,j,h=>by
  have I:0<z.length:=by
   rcases L5 z.length with h0|h0
   .rw[h0]at h;simp at h
   .exact h0
  rw[repl];rcases ci j z.length with hj|hj
  .rw[bM (by simpa using hj),ba,Nat.mod_eq_of_lt hj]
  .rw[b7 (by simpa using hj),bS,Dc z n (j-z.length) (by rw[jb]at h;omega),Nat.mod_eq_sub_mod hj]
theorem Y1 {v:Value} {z:ξ} (hv:v.cells.toList=z) (n sz:Nat) (hl:z.length=sz) (hsz:sz≠0) (j:Nat) (hj:j<n*sz):
 ((zn (n*sz)).map (λi=>v.cells[i%v.cells.size]!))[j]? =z[j%sz]? :=by
 have hs:v.cells.size=sz:=by rw[<- hl,<-hv];simp
 have hlt:j%sz<v.cells.size:=by rw[hs];exact Nat.mod_lt _ (by omega)
 rw[Array.getElem?_map,Array.getElem?_range];simp only[hj,bI,cr,hs];rw[<- hv,cQ,getElem!_pos v.cells _ hlt,iv hlt]
theorem Cs.repl {φ:PM} {O:Nat->Prop} {w:World} {v:Value} {z:ξ} (hv:v.cells.toList=z) (n sz:Nat) (hl:z.length=sz) (hsz:sz≠0) (hc:mS z=ai):
 Cs φ O w ((repl z n).map .f) ((zn (n*sz)).map (λi=>v.cells[i%v.cells.size]!)).toList:=by
 have key:∀(j:Nat) (x:AV),((AI.repl z n).map AV.f)[j]? =af x->∃u,z[j%sz]? =af u/\x=raw u/\j<n*sz:=by
  intro j x I;rw[ba]at I;have hj:j<n*z.length:=by
   rcases ci j (n*z.length) with h|h
   .exact h
   .rw[bT (by rw[m6];exact h)]at I;cases I
  rw[Dc z n j hj,hl]at I;cases hu:z[j%sz]? with
  |none=>rw[hu]at I;cases I
  |some u=>rw[hu]at I;simp at I;exact⟨u,rfl,I.symm,by rw[<- hl];exact hj⟩
 refine ⟨by simp[m6,hl],λx I=>?_,λj x u I hu=>?_⟩
 .obtain⟨j,hj⟩:=fx I;obtain⟨u,h1,rfl,_⟩:=key j x hj;exact gD.1 hc u (bc h1)
 .obtain⟨J,h1,rfl,hj⟩:=key j x I;rw[cQ,Y1 hv n sz hl hsz j hj,h1]at hu;cases hu;exact .f (.raw _)
theorem apf {t el:TypeId} {n sz:Nat} {ps:Array (Nat×Operand)} {z:ξ} {ps':List (Nat×Nat×Operand)} (Y:o.op= .buildSlice t n ps) (hu:P.underlying t=af (.slice el)) (hz:tN P el=af z) (hs:fG P el=af sz) (hc:mS z=ai) (hl:z.length=sz) (hsz:sz≠0) (hb:n*sz<=65536)
 (hps:xR P t ps.toList=af ps') (I:eZ (.bsl el sz n z ps') e h nx=af R):gZ P o e.get h.get R.eff:=by
 simp only[eZ]at I;split at I
 .rename_i cs hf;simp only[ak]at I;subst I;refine gZ.makes λφ E h' w a _ hp _=>?_
  obtain⟨v,h1,h2,_⟩:=uk hz w;obtain⟨g1,g2⟩:=E6 ps.toList ps' hps;have hops:∀p∈ps.toList,p.2∈o.op.operands:=λp hp=>by
   rw[Y];simp only[Op.operands,List.mem_toArray,dv];exact⟨p,hp,rfl⟩
  have hmap:(ps.map λx:Nat×Operand=>(x.1,a.eval x.2)).toList=ps.toList.map λp=>(p.1,a.eval p.2):=by simp
  obtain⟨vs',k1,k2⟩:=P5 (place:=λi=>af (i*sz,sz)) hp ps.toList ps' _ cs _ g1 (λj i x hj=>by
   obtain⟨of,s',Z,J⟩:=g2 j i x hj;unfold Cd at J;rw[hu]at J;simp[hs]at J;obtain⟨rfl,rfl⟩:=J;exact⟨_,_,Z,rfl⟩) hops (Cs.repl h2 n sz hl hsz hc) hf
  have hcells:(zn (n*sz)).map ((if n*sz=0 then #[] else v.cells)[·%(if n*sz=0 then #[] else v.cells).size]!)=((zn (n*sz)).map (λi=>v.cells[i%v.cells.size]!)).toList.toArray:=by
   by_cases h0:n*sz=0
   .simp[h0]
   .rw[Array.toArray_toList];simp only[aA h0]
  have hlen:vs'.length=n*sz:=by
   have e1:=k2.1;have e2:cs.length=((AI.repl z n).map AV.f).length:=by
    have:∀(ps':List (Nat×Nat×Operand)) (U M:List AV),Ac U e ps'=af M->M.length=U.length:=by
     intro ps';induction ps' with
     |nil=>intro U M h;simp only[Ac,ak]at h;rw[h]
     |cons p ps' ih=>
      intro U M h;obtain⟨of,s',x⟩:=p;simp only[Ac]at h;split at h
      .split at h
       .rename_i hcc;simp only[av,c8]at hcc;rw[ih _ _ h,oX (by rw[hcc.1.1];exact a_ hcc.1.2)]
       .cases h
      .cases h
    exact this ps' _ _ hf
   rw[e1,e2];simp[m6,hl]
  refine ⟨.slice (af ⟨w.heap.size,0,ah⟩) n n,{w with heap:=w.heap.push (.cells vs'.toArray el)},.cells vs'.toArray el (0,0),?_,rJ w _,Jm k2,λφ' O hφ=>?_⟩
  .have h3:=gJ hs w;have hk:Instr.fill (λi=>af (i*sz,sz)) ((zn (n*sz)).map ((if n*sz=0 then #[] else v.cells)[·%(if n*sz=0 then #[] else v.cells).size]!)) (ps.map λx:Nat×Operand=>(x.1,a.eval x.2)).toList=af vs'.toArray:=by
    rw[hcells,hmap];exact k1
   unfold execOp;rw[Y];simp only[Instr.buildSlice,eT,run_underlying hu,cR,h3];rw[aA (by omega)];by_cases h0:n*sz=0
   .simp only[aD h0]at hk ⊢;simp only[eT,pl,cR,hk,newRow,newObj,nY]
   .simp only[aA h0]at hk ⊢;simp only[eT,pl,cR,h1,hk,newRow,newObj,nY]
  .simp only[];split
   .rename_i h0;subst h0;exact .emp
   refine .row hφ (bV _) ?_ ⟨el,?_⟩
   .have:n<=n*sz:=Nat.le_mul_of_pos_right _ (by omega);unfold maxLen;omega
   .unfold sw;simp[hlen]
 .cases I
end
theorem rH.wren {φ:PM} {E:Nat->Prop} {h:HF} {w w':World} (r:rH φ E h w) {id nx k:Nat} {b b':xE} {ob:Obj} (hb:h id=af b) (hk:φ id=af k) (hnx:φ nx=ah) (U:F_ w w' k ob) (hob:jD φ (tot E φ h) w b' ob) (nw:HF) (hnw:nw nx=af b') (hnid:nw id=ah):
 ∃φ',φ' nx=af k/\jm φ φ' h (fd h [nx,id] nw) w w'/\(∀i k,φ' i=af k->φ i=af k\/i∈[nx])/\rH φ' E (fd h [nx,id] nw) w':=by
 have hne:nx≠id:=λe=>by rw[e,hk]at hnx;cases hnx
 have hsub:∀i x,fd h [nx,id] nw i=af x->i≠nx->h i=af x/\i≠id:=λi x Y hi=>by
  unfold fd at Y;by_cases hd:i=id
  .subst hd;simp[hnid]at Y
  .simp[hi,hd]at Y;exact⟨Y,hd⟩
 have hφ:∀i,i≠nx->(if i=nx then af k else φ i)=φ i:=λi hi=>by simp[hi]
 have m:jm φ (λi=>if i=nx then af k else φ i) h (fd h [nx,id] nw) w w':=by
  refine ⟨λi k' M=>?_,⟨U.os,U.tape,U.output,by rw[U.size];exact bV _,λj hj ho=>?_,λj _=>U.shp j⟩,?_⟩
  .have:i≠nx:=λe=>by rw[e,hnx]at M;cases M
   rw[hφ i this];exact M
  .exact U.other j (λe=>ho (e▸⟨id,b,hb,hk⟩))
  .rintro j hj ⟨i,x,h1,h2⟩;by_cases hi:i=nx
   .simp[hi]at h2;subst h2;exact⟨id,b,hb,hk⟩
   .have Z:φ i=af j:=by simpa[hi] using h2
    exact⟨i,x,(hsub i x h1 hi).1,Z⟩
 refine ⟨_,by simp,m,λi k' M=>?_,⟨λi j x y kk hi hj h1 h2=>?_,λi x hi=>?_,λk hk=>dH (r.el k hk) m.ext.size,λg cells hg=>m.keepF (r.gl g cells hg)⟩⟩
 .by_cases hi:i=nx
  .right;simp[hi]
  .left;rw[hφ i hi]at M;exact M
 .by_cases I:i=nx
  .by_cases J:j=nx
   .rw[I,J]
   .exfalso;rw[hφ j J]at h2;simp[I]at h1;subst h1;obtain⟨q1,q2⟩:=hsub j y hj J;exact q2 (r.inj j id y b k q1 hb h2 hk)
  .rw[hφ i I]at h1;obtain⟨p1,p2⟩:=hsub i x hi I;by_cases J:j=nx
   .exfalso;simp[J]at h2;subst h2;exact p2 (r.inj i id x b k p1 hb h1 hk)
   .rw[hφ j J]at h2;exact r.inj i j x y kk p1 (hsub j y hj J).1 h1 h2
 .by_cases I:i=nx
  .subst I;have:x=b':=by unfold fd at hi;simp[hnw]at hi;exact hi.symm
   subst this;obtain⟨k',h1,h2,_⟩:=r.at_ id b hb;rw[hk]at h1;cases h1;exact⟨k,by simp,h2,ob,U.at_,hob.mono λ_ _ h=>m.keep h⟩
  .obtain⟨p1,p2⟩:=hsub i x hi I;obtain⟨k',h1,h2,ob',Z,h4⟩:=r.at_ i x p1;have hne':k'≠k:=λe=>p2 (r.inj i id x b k p1 hb (e▸h1) hk)
   exact⟨k',by rw[hφ i I];exact h1,h2,ob',by rw[U.other k' hne'];exact Z,h4.mono λ_ _ h=>m.keep h⟩
theorem rH.cs {φ:PM} {E:Nat->Prop} {h':HF} {w:World} (hrep:rH φ E h' w) {id k:Nat} {b:xE} (hb:h' id=af b) (hk:φ id=af k) (hc:b.c.isCells=ai):
 ∃arr,w.heap[k]? =af (.cells arr b.ty (0,0))/\Cs φ (tot E φ h') w b.c.toMx (arr.toList.take b.c.toMx.length)/\b.c.toMx.length<=arr.size:=by
 obtain⟨k',h1,_,h2⟩:=hrep.at_ id b hb;rw[hk]at h1;cases h1;obtain⟨arr,Z,M,J⟩:=h2.cells hc;rw[BC.len_toMx hc]at M;refine ⟨arr,Z,⟨by simp;omega,λx I=>?_,λj x v I hv=>?_⟩,M⟩
 .obtain⟨j,hj⟩:=fx I;exact (J j x (by rw[BC.get_toMx hc];exact hj)).1
 .obtain⟨_,u,Y,U⟩:=J j x (by rw[BC.get_toMx hc];exact I);rw[cP]at hv;split at hv
  .rw[cQ,Y]at hv;cases hv;exact U
  .cases hv
section
variable {P:Program} {o:Oper} {e:AB} {h:oH} {nx:Nat} {R:CU}
theorem Oy {t:TypeId} {b:Nat} (hb:F4 P t=af b):∃i,P.info? t=af i/\i.bytes=b:=by
 unfold F4 at hb;cases hi:P.info? t with
 |none=>rw[hi]at hb;cases hb
 |some i=>rw[hi]at hb;simp at hb;exact⟨i,rfl,hb⟩
theorem Ja {n b:Nat} (h:a8 n b=ai):n<=1099511627776/\n*b<=1099511627776:=by
 simp only[a8,av]at h;exact⟨a_ h.1,a_ h.2⟩
theorem abl {n:Int} (h1: -9223372036854775808<=n) (h2:n<=9223372036854775807):po .i64 n=n:=by
 rw[<- zC];have:(c_ (-9223372036854775808) n&&c_ n 9223372036854775807)=ai:=by simp[c_,h1,h2]
 simp only[Ip,No,this,bI]
theorem alm {t el:TypeId} {sz bytes:Nat} {z:ξ} {l c:Operand} (ho:o.op= .makeSlice t l c) (hu:P.underlying t=af (.slice el)) (hz:tN P el=af z) (hs:fG P el=af sz) (hb:F4 P el=af bytes) (hc:mS z=ai) (hl:z.length=sz) (hsz:sz≠0)
 (J:eZ (.mksl el sz bytes z l c) e h nx=af R):gZ P o e.get h.get R.eff:=by
 simp only[eZ]at J;split at J
 .rename_i k1 n k2 m I hy;split at J
  .rename_i hcd;simp only[c_,av,be]at hcd;obtain⟨⟨h0,h1⟩,h2⟩:=hcd;obtain⟨r1,r2⟩:=Ja h2;simp only[ak]at J;subst J;refine gZ.makes λφ E h' w a _ hp _=>?_
   have e1:=fM (hp l _ (by rw[ho];simp[Op.operands]) I);have e2:=fM (hp c _ (by rw[ho];simp[Op.operands]) hy);obtain⟨v,z1,z2,_⟩:=uk hz w;obtain⟨i,i1,i2⟩:=Oy hb;have s1:=gJ hs w;have w1:po .i64 n=n:=abl (by omega) (by omega);have w2:po .i64 m=m:=abl (by omega) (by omega);have hbm:(bytes:Int)*m=((m.toNat*bytes:Nat):Int):=by
    rw[Int.natCast_mul,HH (by omega),Int.mul_comm]
   have t1:¬(m<0\/(281474976710656:Int)<bytes*m):=by rw[hbm];omega
   have hr:¬(m.toNat*bytes>roomBytes):=by unfold roomBytes;omega
   have hn0:m.toNat*sz=0->m.toNat=0:=λh=>(Nat.mul_eq_zero.1 h).resolve_right hsz
   let cells:Array Value:=(zn (m.toNat*sz)).map (λi=>v.cells[i%v.cells.size]!)
   refine ⟨.slice (af ⟨w.heap.size,0,ah⟩) n.toNat m.toNat,{w with heap:=w.heap.push (.cells cells el)},.cells cells el (0,0),?_,rJ w _,?_,λφ' O hφ=>?_⟩
   .unfold execOp;rw[ho];by_cases U:m.toNat*sz=0
    .obtain rfl:m=0:=by have:=hn0 U;omega
     obtain rfl:n=0:=by omega
     simp[Instr.makeSlice,run_underlying hu,e1,e2,asInt,asIntOf,typeInfo,i1,w1,askRoom,s1,newRow,newObj,nY,cells];rw[show zn 0=#[] from rfl];simp
    .simp[Instr.makeSlice,run_underlying hu,e1,e2,asInt,asIntOf,typeInfo,i1,i2,w1,w2,t1,show ¬n<0 by omega,show ¬m<n by omega,askRoom,hr,s1,U,z1,newRow,newObj,nY,cells]
   .have cs:=Cs.repl (φ:=φ) (O:=tot E φ h') (w:=w) z2 m.toNat sz hl hsz hc;have hle:n.toNat<=m.toNat:=by omega
    have hlen:n.toNat*sz<=m.toNat*sz:=cL _ hle;refine qH rfl (by simp[BC.toMx,m6,hl,cells];exact hlen) λj x I=>?_
    simp only[BC.toMx,ba]at I;have hj:j<n.toNat*z.length:=by
     rcases ci j (n.toNat*z.length) with h|h
     .exact h
     .rw[bT (by rw[m6];exact h)]at I;cases I
    have Z:j<m.toNat*z.length:=by rw[hl]at hj ⊢;omega
    rw[Dc z _ j hj,<-Dc z m.toNat j Z]at I;have M:((repl z m.toNat).map AV.f)[j]? =af x:=by rw[ba];exact I
    have Y:j<cells.toList.length:=by simp[cells];rw[<- hl];exact Z
    exact⟨cs.2.1 x (bc M),cells.toList[j],by rw[<- cQ];exact aB Y,cs.2.2 j x _ M (aB Y)⟩
   .refine .row hφ (by omega) (by unfold maxLen;omega) ⟨el,?_⟩;unfold sw;simp[cells]
  .cases J
 .cases J
theorem ai4 {t:TypeId} {x y:Operand} {sz:Nat} (Y:o.op= .store t x y) (hs:fG P t=af sz) (I:eZ (.store sz x y) e h nx=af R):gZ P o e.get h.get R.eff:=by
 simp only[eZ]at I;split at I
 .rename_i p v hx hy;unfold LA at I;split at I
  .rename_i id off;split at I
   .rename_i b hb;split at I
    .rename_i hl;split at I
     .rename_i c' hput;simp only[ak]at I;subst I;unfold BC.put at hput;split at hput
      .rename_i hcc;simp only[av]at hcc;obtain⟨⟨c1,c2⟩,c3⟩:=hcc;have c2:=a_ c2;have hl:v.cs.length=sz:=by simpa using hl
       have J:c'.toMx=splice b.c.toMx off v.cs/\c'.isCells=ai:=by
        split at hput
        .rename_i l ys hbl hys;simp only[ak]at hput;subst hput;refine ⟨?_,rfl⟩;have hv:=qp hys;rw[hv,hbl];simp only[BC.toMx];unfold splice;simp[kS,List.map_drop]
        .simp only[ak]at hput;subst hput;exact⟨rfl,rfl⟩
       refine gZ.writes hb λφ E h' w a hrd Z hp hrep=>?_
       have hr:=Wm (hp y _ (by rw[Y];simp[Op.operands]) hy) c3;have hpx:=hp x _ (by rw[Y];simp[Op.operands]) hx;generalize hz:a.eval x=pv at hpx;cases hpx with
       |@ptr _ _ k hφ=>
        obtain⟨arr,g1,g2,g3⟩:=hrep.cs Z hφ c1;have hvl:(a.eval y).cells.toList.length=sz:=by rw[hr.1];exact hl
        rw[BC.len_toMx c1]at c2;have hst:=run_storeCells_at (P:=P) k off b.ty (a.eval y).cells.toList 0 arr w g1 (by rw[hvl];omega) hr.one
        let arr':Array Value:=(arr.toList.take off++(a.eval y).cells.toList++arr.toList.drop (off+sz)).toArray
        have hsize:arr'.size=arr.size:=by simp only[arr',tX,bm,bC,mV,iG,hvl];omega
        refine ⟨.skip,w.setRow k arr',k,.cells arr' b.ty (0,0),?_,hφ,F_.setRow g1 hsize,?_,undef,.inr ⟨rfl,rfl⟩,.f (.raw _)⟩
        .have s1:=gJ hs w;have hvs:(a.eval y).cells.size=sz:=by simpa using hvl
         simp only[dD,hvl]at hst;unfold execOp;rw[Y];simp[Instr.storeAt,hz,Instr.sureAddr,storeVar,s1,hvs,hst,arr']
        .refine qH J.2 (by rw[J.1,oX (by omega),hsize];exact g3) λj q hq=>?_
         rw[J.1,mY (by omega)]at hq;have ha':arr'[j]? =if j<off then arr.toList[j]? else if j<off+sz then (a.eval y).cells.toList[j-off]? else arr.toList[j]? :=by
          have:=mY (l:=arr.toList) (vs:=(a.eval y).cells.toList) (off:=off) (by have:=hvl;simp only[iG]at this ⊢;omega) j;unfold splice at this;rw[hvl]at this;simp only[arr',kD];exact this
         have old:b.c.toMx[j]? =af q->q.isCell=ai/\∃u,arr.toList[j]? =af u/\cV φ (tot E φ h') w q u:=λhq=>by
          have hj:j<b.c.toMx.length:=(bn.1 hq).1;have U:j<arr.toList.length:=by simp;omega
          refine ⟨g2.2.1 q (bc hq),arr.toList[j],aB U,g2.2.2 j q _ hq ?_⟩;rw[cP,aD hj,aB U]
         rw[ha'];by_cases h1:j<off
         .rw[aD h1]at hq ⊢;exact old hq
         .rw[aA h1]at hq ⊢;by_cases h2:j<off+sz
          .rw[aD (by omega)]at hq;rw[aD h2];have M:j-off<(a.eval y).cells.toList.length:=by omega
           exact⟨hr.2.1 q (bc hq),_,aB M,hr.2.2 _ q _ hq (aB M)⟩
          .rw[aA (by omega)]at hq;rw[aA h2];exact old hq
      .cases hput
     .cases I
    .cases I
   .cases I
  .cases I
 .cases I
end
section
variable {P:Program} {o:Oper} {e:AB} {h:oH} {nx:Nat} {R:CU}
theorem aow (A:Addr):A.add 0=A:=by cases A;simp[Addr.add]
theorem aoy {t el:TypeId} {sz:Nat} {x:Operand} {lo hi mx:Option Operand} (J:o.op= .slice t x lo hi mx) (hu:P.underlying t=af (.slice el)) (hs:fG P el=af sz) (I:eZ (.slc sz x lo hi mx) e h nx=af R):gZ P o e.get h.get R.eff:=by
 simp only[eZ]at I;split at I
 .rename_i v Y;split at I
  ·
   rename_i k k';split at I
   .rename_i hsl;rw[dG I];refine gZ.reads λφ E h' w a _ hp _=>?_
    have hr:=hp x _ (by rw[J];simp[Op.operands]) Y;have U:∃A n c,a.eval x= .slice A n c:=by
     generalize a.eval x=z at hr;obtain⟨n,hn⟩:=iV.1 hsl;unfold AV.slen at hn;split at hn
     .cases hr with
      |f hr=>cases hr with
       |nil=>exact⟨_,_,_,rfl⟩
       |sl=>exact⟨_,_,_,rfl⟩
     .cases fM hr;exact⟨_,_,_,rfl⟩
     .cases hr;exact⟨_,_,_,rfl⟩
     .cases hr;exact⟨_,_,_,rfl⟩
     .cases hr;exact⟨_,_,_,rfl⟩
     .cases hn
    obtain⟨A,n,c,U⟩:=U;have s1:=gJ hs w;refine ⟨.slice A 0 0,?_,.emp⟩;unfold execOp;rw[J];have z0:∀k,a.eval (.const (.int k 0))= .int k 0:=λ_=>rfl
    simp[qc,vm,run_underlying hu,U,jX,kL,asIntOf,s1,z0]
   .cases I
  ·
   rename_i b;split at I
   .rename_i id sz' n k j hb;split at I
    .rename_i hc;simp only[c_,av,be,c8]at hc;obtain⟨⟨rfl,h0⟩,h1⟩:=hc;split at I
     .rename_i blk hblk;split at I
      .rename_i hcl;simp only[av]at hcl;obtain⟨hcells,hlen⟩:=hcl;have hlen:=a_ hlen;rw[BC.len_toMx hcells]at hlen;simp only[ak]at I;subst I;intro φ E h' w a g1 g2 g3 hrep g5;have hp:Xr φ E h' w a e o:=λx y Y M=>ug hrep g3 Y M
       have hb':h' id=af blk:=by rw[g1 id (by simp[CU.eff])];exact hblk
       have hr:=hp x _ (by rw[J];simp[Op.operands]) Y;have hbv:=fM (hp b _ (by rw[J];simp[Op.operands]) hb);have hnx:φ nx=ah:=g5 nx (by simp[CU.eff]);generalize U:a.eval x=z at hr;cases hr with
       |@row _ _ _ c q hφ hn hcap hsh=>
        obtain⟨arr,a1,a2,a3⟩:=hrep.cs hb' hφ hcells;have s1:=gJ hs w;have hne:nx≠id:=λe=>by rw[e,hφ]at hnx;cases hnx
        have hnw1:js [(nx,⟨blk.ty,pU (blk.c.toMx.take (j.toNat*sz'))⟩)] nx=af (⟨blk.ty,pU (blk.c.toMx.take (j.toNat*sz'))⟩:xE):=by simp[js]
        have hnw2:js [(nx,⟨blk.ty,pU (blk.c.toMx.take (j.toNat*sz'))⟩)] id=ah:=by
         simp only[js];rw[aA];intro hb;exact hne (aw hb)
        have a4:=a2.take (j.toNat*sz');obtain⟨φ',p1,p2,p3,p4⟩:=hrep.wren hb' hφ hnx (w':=w) ⟨rfl,rfl,rfl,rfl,a1,λ_ _=>rfl,λ_=>rfl⟩ (b':=⟨blk.ty,pU (blk.c.toMx.take (j.toNat*sz'))⟩) (by
         obtain⟨q1,q2⟩:=ou (blk.c.toMx.take (j.toNat*sz'));refine qH q2 (by rw[q1,bC];omega) λi x Y=>?_
         rw[q1]at Y;have hi:i<((arr.toList.take blk.c.toMx.length).take (j.toNat*sz')).length:=by rw[a4.1];exact (bn.1 Y).1
         refine ⟨a4.2.1 x (bc Y),_,?_,a4.2.2 i x _ Y (aB hi)⟩;have hi':i<arr.size:=by simp at hi;omega
         simp[hi']) _ hnw1 hnw2
        have hrun:(execOp a.eval o).run P w= .ok (.value (.slice (af ⟨q,0,ah⟩) j.toNat c)) w:=by
         unfold execOp;rw[J];simp[qc,vm,run_underlying hu,U,jX,kL,asIntOf,s1,hbv,h0,show j<=c by omega,lA]
        unfold In;rw[hrun];exact⟨_,φ',rfl,p2,p3,p4,.row p1 (by omega) hcap hsh⟩
      .cases I
     .cases I
    .cases I
   .rename_i cells n k j hb;split at I
    .rename_i hc;simp only[c_,av,be]at hc;obtain⟨⟨h0,h1⟩,h2⟩:=hc;have h2:=a_ h2;rw[dG I];refine gZ.reads λφ E h' w a _ hp _=>?_
     have hr:=hp x _ (by rw[J];simp[Op.operands]) Y;have hbv:=fM (hp b _ (by rw[J];simp[Op.operands]) hb);generalize U:a.eval x=z at hr;have s1:=gJ hs w;cases hr with
     |f hr=>
      cases hr with
      |nil A c hc=>
       have hj:j=0:=by omega
       subst hj;refine ⟨.slice A 0 c,?_,by simpa using cV.f (.nil A c hc)⟩;unfold execOp;rw[J];cases A<;>simp[qc,vm,run_underlying hu,U,jX,kL,asIntOf,s1,hbv,aow]
      |sl _ _ c q off us hn hc hO hq hcl Z hr=>
       refine ⟨.slice (af ⟨q,off,ah⟩) j.toNat c,?_,.f (.sl _ _ _ _ _ us (by omega) hc hO hq (λy M=>hcl y (gj M)) (λi hi=>Z i (by rw[bC]at hi;omega)) λi y M=>?_)⟩
       .unfold execOp;rw[J];simp[qc,vm,run_underlying hu,U,jX,kL,asIntOf,s1,hbv,h0,show j<=c by omega,lA]
       .rw[cP]at M;split at M
        .exact hr i y M
        .cases M
    .cases I
   .cases I
  ·
   rename_i b;split at I
   .rename_i id sz' n k j hb;split at I
    .rename_i hc;simp only[c_,gf,av,be,c8]at hc;obtain⟨⟨rfl,h0⟩,h1⟩:=hc;rw[dG I];refine gZ.reads λφ E h' w a _ hp _=>?_
     have hr:=hp x _ (by rw[J];simp[Op.operands]) Y;have hbv:=fM (hp b _ (by rw[J];simp[Op.operands]) hb);generalize U:a.eval x=z at hr;cases hr with
     |@row _ _ _ c q hφ hn hc hsh=>
      have s1:=gJ hs w;refine ⟨.slice (af ⟨q,0+j.toNat*sz',ah⟩) (n-j.toNat) (c-j.toNat),?_,?_⟩
      .unfold execOp;rw[J];simp[qc,vm,run_underlying hu,U,jX,kL,asIntOf,s1,hbv,h0,show j<=n by omega,show ¬c=j.toNat by omega,lA]
      .rw[bR];exact .sl hφ (by omega) (by omega)
    .cases I
   .rename_i cells n k j hb;split at I
    .rename_i hc;simp only[c_,av,be]at hc;obtain⟨⟨h0,h1⟩,h2⟩:=hc;have h2:=a_ h2;rw[dG I];refine gZ.reads λφ E h' w a _ hp _=>?_
     have hr:=hp x _ (by rw[J];simp[Op.operands]) Y;have hbv:=fM (hp b _ (by rw[J];simp[Op.operands]) hb);generalize U:a.eval x=z at hr;have s1:=gJ hs w;cases hr with
     |f hr=>
      cases hr with
      |nil A c hc=>
       have hj:j=0:=by omega
       subst hj;have hex:∃A',(execOp a.eval o).run P w= .ok (.value (.slice A' 0 c)) w:=by
        unfold execOp;rw[J];cases A with
        |none=>exact⟨ah,by simp[qc,vm,run_underlying hu,U,jX,kL,asIntOf,s1,hbv]⟩
        |some A=>exact⟨af A,by simp[qc,vm,run_underlying hu,U,jX,kL,asIntOf,s1,hbv,aow]⟩
       obtain⟨A',hex⟩:=hex;exact⟨.slice A' 0 c,hex,by simpa using cV.f (.nil A' c hc)⟩
      |sl _ _ c q off us hn hc hO hq hcl Z hr=>
       by_cases hcj:c=j.toNat
       .refine ⟨.slice (af ⟨q,off,ah⟩) 0 0,?_,?_⟩
        .unfold execOp;rw[J];simp[qc,vm,run_underlying hu,U,jX,kL,asIntOf,s1,hbv,h0,show j<=n by omega,hcj,show n-j.toNat=0 by omega,lA]
        .rw[show n-j.toNat=0 by omega];simpa using cV.f (.nil (af ⟨q,off,ah⟩) 0 (by unfold maxLen;omega))
       .refine ⟨.slice (af ⟨q,off+j.toNat*sz,ah⟩) (n-j.toNat) (c-j.toNat),?_,.f (.sl _ _ _ _ _ (λi=>us (j.toNat*sz+i)) (by omega) (by omega) hO hq (λy M=>hcl y (List.mem_of_mem_drop (gj M))) (λi hi=>?_) λi y M=>?_)⟩
        .unfold execOp;rw[J];simp[qc,vm,run_underlying hu,U,jX,kL,asIntOf,s1,hbv,h0,show j<=n by omega,hcj,lA]
        .rw[qa];refine Z _ ?_;rw[bC,mV]at hi;omega
        .rw[cP]at M;split at M
         .rw[ia]at M;exact hr _ y M
         .cases M
    .cases I
   .cases I
  .cases I
 .cases I
theorem ac6 {sz:Nat} {x:AV} {src:List AV} {m:Nat} {rd:ι} (hrow:x.row? h sz=af (src,m,rd)) {φ:PM} {E:Nat->Prop} {h':HF} {w:World} (hrd:∀i∈rd,h' i=h.get i) (hrep:rH φ E h' w) {v:Value} (hr:cV φ (tot E φ h') w x v):
 ∃A c vs,v= .slice A m c/\Cs φ (tot E φ h') w src vs/\vs.length=m*sz/\(A=ah->vs=[])/\(∀J,A=af J->∀(j:Nat) u,vs[j]? =af u->w.cell? (J.add j)=af u):=by
 have emp:∀A c,v= .slice A 0 c->src=[]->m=0->∃A c vs,v= .slice A m c/\Cs φ (tot E φ h') w src vs/\vs.length=m*sz/\(A=ah->vs=[])/\(∀J,A=af J->∀(j:Nat) u,vs[j]? =af u->w.cell? (J.add j)=af u):=by
  rintro A c rfl rfl rfl;exact⟨A,c,[],rfl,⟨rfl,(by intro x I;cases I),(by intro j x v I;simp at I)⟩,by simp,λ_=>rfl,by intro J _ j u hu;simp at hu⟩
 have own:∀(id off n c k:Nat) (b:xE),φ id=af k->h' id=af b->b.c.isCells=ai->off+n*sz<=b.c.len->v= .slice (af ⟨k,off,ah⟩) n c->src=(b.c.toMx.drop off).take (n*sz)->m=n->
  ∃A c vs,v= .slice A m c/\Cs φ (tot E φ h') w src vs/\vs.length=m*sz/\(A=ah->vs=[])/\(∀J,A=af J->∀(j:Nat) u,vs[j]? =af u->w.cell? (J.add j)=af u):=by
  rintro id off n c k b hφ hb hc hle rfl rfl rfl;obtain⟨arr,g1,Z,g3⟩:=hrep.cs hb hφ hc;rw[BC.len_toMx hc]at hle;refine ⟨_,c,((arr.toList.take b.c.toMx.length).drop off).take (m*sz),rfl,(Z.drop off).take _,?_,(λh=>by cases h),?_⟩
  .simp;omega
  .intro J had j u hu;cases had;rw[lA];rw[cP]at hu;split at hu
   .rw[ia,cP]at hu;split at hu
    .rw[cQ]at hu;simp[ON,g1,hu]
    .cases hu
   .cases hu
 unfold AV.row? at hrow;split at hrow
 .rename_i cells n;split at hrow
  .rename_i hle;have hle:=a_ hle;simp only[ak,aE]at hrow;obtain⟨rfl,rfl,rfl⟩:=hrow;cases hr with
   |f hr=>
    cases hr with
    |nil a c hc=>exact emp a c rfl (by simp) rfl
    |sl _ _ c b off us hn hc hO hb hcl hu hr=>
     refine ⟨_,c,(bx (n*sz)).map us,rfl,⟨by simp;omega,λx I=>?_,λj x u I M=>?_⟩,by simp,(λh=>by cases h),?_⟩
     .obtain⟨y,Y,rfl⟩:=dv.1 I;exact hcl y (gj Y)
     .obtain⟨rfl,hj⟩:=yf us _ _ _ M;rw[ba,cP,aD hj]at I;cases hq:cells[j]? with
      |none=>rw[hq]at I;cases I
      |some q=>rw[hq]at I;simp at I;subst I;exact .f (hr j q hq)
     .intro J had j u M;cases had;obtain⟨rfl,hj⟩:=yf us _ _ _ M;rw[lA];exact hu j (by omega)
  .cases hrow
 .simp only[ak,aE]at hrow;obtain⟨rfl,rfl,rfl⟩:=hrow;exact emp ah 0 (fM hr) rfl rfl
 .simp only[ak,aE]at hrow;obtain⟨rfl,rfl,rfl⟩:=hrow;cases hr with
  |@emp a=>exact emp a 0 rfl rfl rfl
 .rename_i id sz' n;split at hrow
  .rename_i hsz;split at hrow
   .rename_i b hb;split at hrow
    .rename_i hc;simp only[av]at hc;simp only[ak,aE]at hrow;obtain⟨rfl,rfl,rfl⟩:=hrow;cases hr with
     |@row _ _ _ c k hφ hn U hsh=>
      exact own id 0 n c k b hφ (by rw[hrd id (by simp)];exact hb) hc.1 (by rw[bR];exact a_ hc.2) rfl (by simp) rfl
    .cases hrow
   .cases hrow
  .cases hrow
 .rename_i id off n;split at hrow
  .rename_i b hb;split at hrow
   .rename_i hc;simp only[av]at hc;simp only[ak,aE]at hrow;obtain⟨rfl,rfl,rfl⟩:=hrow;cases hr with
    |@sl _ _ _ c k hφ hn U=>exact own id off n c k b hφ (by rw[hrd id (by simp)];exact hb) hc.1 (a_ hc.2) rfl rfl rfl
   .cases hrow
  .cases hrow
 .cases hrow
theorem ag3 {sz:Nat} {x:AV} {src:List AV} {m:Nat} {rd:ι} (hrow:x.row? h sz=af (src,m,rd)) {φ:PM} {E:Nat->Prop} {h':HF} {w:World} (hrd:∀i∈rd,h' i=h.get i) (hrep:rH φ E h' w) {v:Value} (hr:cV φ (tot E φ h') w x v) {I el:TypeId} (hk:P.underlying I=af (.slice el)):
 ∃vs,Src P sz I v m vs w/\Cs φ (tot E φ h') w src vs:=by
 obtain⟨A,c,vs,rfl,h1,h2,U,M⟩:=ac6 hrow hrd hrep hr;refine ⟨vs,?_,h1⟩;cases A with
 |none=>
  have:=U rfl;subst this;have hm:m*sz=0:=by simpa using h2.symm
  refine ⟨.inl ⟨el,hk⟩,λ_=>rfl,run_firstCells_none w sz m m c,run_firstCells_none w.drew sz m m c,by simp[hm],λ_ h=>by cases h⟩
 |some J=>exact Src.ofSlice w hk J m c vs h2 (M J rfl) h1.one
theorem akq {x:Nat}:∀{l:ι},Zh x l=ai↔x∈l
 |[]=>by simp[Zh]
 |y::r=>by
  simp only[Zh,jf,akq (l:=r),bp];constructor
  .rintro (h|h)
   .exact .inl (aw h).symm
   .exact .inr h
  .rintro (h|h)
   .subst h;exact .inl (sx x)
   .exact .inr h
theorem als {t u el el':TypeId} {d x:Operand} {sz:Nat} (ho:o.op= .call {callee:=.builtin .copy,args:=#[d,x],argTypes:=#[t,u]}) (hu:P.underlying t=af (.slice el)) (hu':P.underlying u=af (.slice el')) (hs:fG P el=af sz) (J:eZ (.copy sz d x) e h nx=af R):gZ P o e.get h.get R.eff:=by
 simp only[eZ]at J;split at J
 .rename_i id sz' n y hd hx;split at J
  .rename_i blk src m rd hblk hrow;split at J
   .rename_i hc;simp only[av,c8,eJ]at hc;obtain⟨⟨rfl,hmem⟩,hlen⟩:=hc;split at J
    .rename_i c' hput;simp only[ak]at J;subst J;unfold BC.put at hput;split at hput
     .rename_i hcc;simp only[av]at hcc;obtain⟨⟨c1,Z⟩,c3⟩:=hcc;have Z:=a_ Z;rw[bR]at Z;have M:c'.toMx=splice blk.c.toMx 0 (src.take (jd m n*sz'))/\c'.isCells=ai:=by
       split at hput
       .rename_i l ys hbl hys;simp only[ak]at hput;subst hput;refine ⟨?_,rfl⟩;have hv:=qp hys;rw[hv,hbl];simp only[BC.toMx];unfold splice;simp[kS,List.map_drop]
       .simp only[ak]at hput;subst hput;exact⟨rfl,rfl⟩
      refine gZ.writes hblk λφ E h' w a hrd hb' hp hrep=>?_
      have hpd:=hp d _ (by rw[ho];simp[Op.operands,fc]) hd;have hpx:=hp x _ (by rw[ho];simp[Op.operands,fc]) hx;obtain⟨A,c,vs,hv,q1,q2,q3,q4⟩:=ac6 hrow (λi hi=>hrd i (by simp[hi])) hrep hpx;generalize hz:a.eval d=pv at hpd;cases hpd with
      |@row _ _ _ cap k hφ hn hcap hsh=>
       obtain⟨arr,g1,g2,g3⟩:=hrep.cs hb' hφ c1;rw[BC.len_toMx c1]at Z;have hmn:jd m n<=m:=Nat.min_le_left _ _;have hle:jd m n*sz'<=m*sz':=cL _ hmn
       let I:=vs.take (jd m n*sz')
       have hnl:I.length=jd m n*sz':=by simp only[I,bC,q2];omega
       have hsl:(src.take (jd m n*sz')).length=jd m n*sz':=by rw[bC,<-q1.1,q2];omega
       have csn:=q1.take (jd m n*sz');rw[hsl]at Z;have hst:=run_storeCells_at (P:=P) k 0 blk.ty I 0 arr w g1 (by rw[hnl];omega) csn.one
       let arr':Array Value:=(arr.toList.take 0++I++arr.toList.drop (0+jd m n*sz')).toArray
       have hsize:arr'.size=arr.size:=by simp only[arr',tX,bm,bC,mV,iG,hnl];omega
       have hfc:(L7 sz' (jd m n) (.slice A m c)).run P w= .ok I.toArray w:=by
        cases A with
        |none=>
         have:I=[]:=by simp[I,q3 rfl]
         rw[this];exact run_firstCells_none w sz' _ _ _
        |some ad=>exact run_firstCells_some w sz' _ ad m c I hnl (λj u hu=>q4 ad rfl j u (by
          simp only[I,cP]at hu;split at hu
          .exact hu
          .cases hu))
       refine ⟨.value (.int .i64 (jd m n)),w.setRow k arr',k,.cells arr' blk.ty (0,0),?_,hφ,F_.setRow g1 hsize,?_,_,.inl rfl,.f (.raw _)⟩
       .have s1:=gJ hs w;simp only[dD,hnl]at hst;unfold execOp;rw[ho];simp[resolve,invoke,builtin,Builtin.copy_,run_underlying hu,hz,hv,Builtin.lenOf,s1,hfc,hst,goInt,arr']
       .refine qH M.2 (by rw[M.1,oX (by rw[hsl];omega),hsize];exact g3) λj q hq=>?_
        rw[M.1,mY (by rw[hsl];omega)]at hq;have ha':arr'[j]? =if j<0 then arr.toList[j]? else if j<0+I.length then I[j-0]? else arr.toList[j]? :=by
         have:=mY (l:=arr.toList) (vs:=I) (off:=0) (by simp only[iG];omega) j;unfold splice at this;simp only[arr',kD];rw[<- this,hnl]
        rw[ha',aA (by omega)];rw[aA (by omega),hsl]at hq;rw[hnl];by_cases h2:j<0+jd m n*sz'
        .rw[aD h2]at hq ⊢;have U:j-0<I.length:=by rw[hnl];omega
         exact⟨csn.2.1 q (bc hq),_,aB U,csn.2.2 _ q _ hq (aB U)⟩
        .rw[aA h2]at hq ⊢;have hj:j<blk.c.toMx.length:=(bn.1 hq).1;have Y:j<arr.toList.length:=by simp;omega
         refine ⟨g2.2.1 q (bc hq),arr.toList[j],aB Y,g2.2.2 j q _ hq ?_⟩;rw[cP,aD hj,aB Y]
     .cases hput
    .cases J
   .cases J
  .cases J
 .cases J
theorem ape {t el:TypeId} {sz:Nat} {z:ξ} {x:Operand} (ho:o.op= .call {callee:=.builtin .clear,args:=#[x],argTypes:=#[t]}) (hu:P.underlying t=af (.slice el)) (hz:tN P el=af z) (hc:mS z=ai) (hl:z.length=sz) (hsz:sz≠0) (J:eZ (.clr sz z x) e h nx=af R):gZ P o e.get h.get R.eff:=by
 simp only[eZ]at J;split at J
 .rename_i id off n hx;split at J
  .rename_i blk hblk;split at J
   .rename_i hn;have hn:=a_ hn;obtain⟨m,rfl⟩:∃m,n=m+1:=⟨n-1,by omega⟩
    split at J
    .rename_i c' hput;simp only[ak]at J;subst J;unfold BC.put at hput;split at hput
     .rename_i hcc;simp only[av]at hcc;obtain⟨⟨c1,c2⟩,c3⟩:=hcc;have c2:=a_ c2;have hsrc:((repl z (m+1)).map AV.f).length=(m+1)*sz:=by rw[bS,m6,hl]
      rw[hsrc]at c2;have U:c'.toMx=splice blk.c.toMx off ((repl z (m+1)).map AV.f)/\c'.isCells=ai:=by
       split at hput
       .rename_i l ys hbl hys;simp only[ak]at hput;subst hput;refine ⟨?_,rfl⟩;have hv:=qp hys;rw[hv,hbl];simp only[BC.toMx];unfold splice;simp[kS,List.map_drop]
       .simp only[ak]at hput;subst hput;exact⟨rfl,rfl⟩
      refine gZ.writes hblk λφ E h' w a hrd hb' hp hrep=>?_
      have hpx:=hp x _ (by rw[ho];simp[Op.operands,fc]) hx;generalize hzv:a.eval x=pv at hpx;cases hpx with
      |@sl _ _ _ cap k hφ hn2 hcap=>
       obtain⟨arr,g1,Z,g3⟩:=hrep.cs hb' hφ c1;rw[BC.len_toMx c1]at c2;obtain⟨v,z1,z2,_⟩:=uk hz w;have csn:=Cs.repl (φ:=φ) (O:=tot E φ h') (w:=w) z2 (m+1) sz hl hsz hc
       let M:=(lM v.cells (m+1)).toList
       have hvs:v.cells.size=sz:=by rw[<- hl,<-z2];simp
       have hns:M=((zn ((m+1)*sz)).map (λi=>v.cells[i%v.cells.size]!)).toList:=by simp only[M,lM,hvs]
       have hnl:M.length=(m+1)*sz:=by rw[hns];simp
       rw[<- hns]at csn;have hst:=run_storeCells_at (P:=P) k off blk.ty M 0 arr w g1 (by rw[hnl];omega) csn.one
       let arr':Array Value:=(arr.toList.take (off+0)++M++arr.toList.drop (off+0+M.length)).toArray
       have hsize:arr'.size=arr.size:=by simp only[arr',tX,bm,bC,mV,iG,hnl];omega
       refine ⟨.value (.tuple #[]),w.setRow k arr',k,.cells arr' blk.ty (0,0),?_,hφ,F_.setRow g1 hsize,?_,_,.inl rfl,.tup (vs:=[]) rfl λj y v hy=>by simp at hy⟩
       .unfold execOp;rw[ho];have hst2:(storeCells ⟨k,off,ah⟩ (lM v.cells (m+1)).toList).run P w= .ok () (w.setRow k arr'):=hst;simp[resolve,invoke,builtin,Builtin.clear_,run_underlying hu,hzv,z1,hst2]
       .refine qH U.2 (by rw[U.1,oX (by rw[hsrc];omega),hsize];exact g3) λj q hq=>?_
        rw[U.1,mY (by rw[hsrc];omega)]at hq;have ha':arr'[j]? =if j<off then arr.toList[j]? else if j<off+M.length then M[j-off]? else arr.toList[j]? :=by
         have:=mY (l:=arr.toList) (vs:=M) (off:=off) (by simp only[iG];omega) j;unfold splice at this;simp only[arr',kD,dD];rw[<- this]
        rw[ha'];rw[hsrc]at hq;rw[hnl];by_cases h1:j<off
        .rw[aD h1]at hq ⊢;have hj:j<blk.c.toMx.length:=(bn.1 hq).1;have I:j<arr.toList.length:=by simp;omega
         refine ⟨Z.2.1 q (bc hq),arr.toList[j],aB I,Z.2.2 j q _ hq ?_⟩;rw[cP,aD hj,aB I]
        rw[aA h1]at hq ⊢;by_cases h2:j<off+(m+1)*sz
        .rw[aD h2]at hq ⊢;have Y:j-off<M.length:=by rw[hnl];omega
         exact⟨csn.2.1 q (bc hq),_,aB Y,csn.2.2 _ q _ hq (aB Y)⟩
        .rw[aA h2]at hq ⊢;have hj:j<blk.c.toMx.length:=(bn.1 hq).1;have I:j<arr.toList.length:=by simp;omega
         refine ⟨Z.2.1 q (bc hq),arr.toList[j],aB I,Z.2.2 j q _ hq ?_⟩;rw[cP,aD hj,aB I]
     .cases hput
    .cases J
   .cases J
  .cases J
 .cases J
end
theorem Np (w:World) (ob:Obj):Uu w (w.drew.alloc ob) ob:=Uu.drawn (w.drawn+1) (rJ {w with drawn:=w.drawn+1} ob)
section
variable {P:Program} {o:Oper} {e:AB} {h:oH} {nx:Nat} {R:CU}
theorem IW {v:Value} {z:ξ} {sz:Nat} (hv:v.cells.toList=z) (hl:z.length=sz) (n:Nat):(lM v.cells n).size=n*sz:=by
 have:v.cells.size=sz:=by rw[<- hl,<-hv];simp
 simp[lM,this]
theorem Um {t u el:TypeId} {s x:Operand} {i:TypeInfo} {z:ξ} (ho:o.op= .call {callee:=.builtin .append,args:=#[s,x],argTypes:=#[t,u]}) (hu:P.underlying t=af (.slice el)) (U:P.info? el=af i) (hz:tN P el=af z) (hzl:z.length=i.size)
 {φ:PM} {E:Nat->Prop} {h':HF} {w:World} {a:Act} (hrep:rH φ E h' w) (hnx:φ nx=ah) {A:Option Addr} {n cap m:Nat} {olds vs:ξ} {oldA src:List AV} (hsl:a.eval s= .slice A n cap)
 (hold:(L7 i.size n (.slice A n cap)).run P w.drew= .ok olds.toArray w.drew) (csold:Cs φ (tot E φ h') w oldA olds) (hol:olds.length=n*i.size) (hsrc:Src P i.size u (a.eval x) m vs w) (hcs:Cs φ (tot E φ h') w src vs)
 (hg:cap<n+m) (r1:n+m<=1099511627776) (r2:(n+m)*i.bytes<=1099511627776) (del:ι) (hdel:∀j∈del,j≠nx):
 o.wp P a w (λa' w'=>∃v φ',a'=a.put o.dst v/\jm φ φ' h' (fd h' (nx::del) (js [(nx,⟨el,pU (oldA++src)⟩)])) w w'/\(∀i k,φ' i=af k->φ i=af k\/i∈[nx])/\
  rH φ' E (fd h' (nx::del) (js [(nx,⟨el,pU (oldA++src)⟩)])) w'/\cV φ' (tot E φ' (fd h' (nx::del) (js [(nx,⟨el,pU (oldA++src)⟩)]))) w' (.row nx i.size (n+m)) v) (λ_ _ _=>False):=by
 obtain⟨J,z1,Z,i',I,Y⟩:=uk hz w;rw[U]at I;cases I;have hfb:=growslice_fits (need:=n+m) (old:=cap) (bytes:=i.bytes) hg (by omega);have hrun:=run_append_grow_src w t u o.type el i J hu U Y A n cap olds hold (a.eval x) m vs hsrc hg (by omega) hfb;have hgc:=grownCap_ge w (n+m) cap el;have hgm:=grownCap_le_maxLen w (n+m) cap el (by unfold maxLen;omega);generalize grownCap w (n+m) cap el=Gc at hrun hgc hgm;have cs:=csold.append hcs;have hnl:=hsrc.newsLen;obtain⟨φ',p1,p2,p3,p4⟩:=hrep.wnew hnx (Np w _) (b:=⟨el,pU (oldA++src)⟩) (ob:=.cells ((olds++vs).toArray++lM J.cells (Gc-(n+m))) el (0,0)) (by
  obtain⟨M,q2⟩:=ou (oldA++src);refine qH q2 (by rw[M,<-cs.1];simp) λj q hq=>?_
  rw[M]at hq;have hj:j<(olds++vs).length:=by rw[cs.1];exact (bn.1 hq).1
  refine ⟨cs.2.1 q (bc hq),_,?_,cs.2.2 j q _ hq (aB hj)⟩;rw[Array.getElem?_append_left (by simpa using hj),kD,aB hj]) del (js [(nx,⟨el,pU (oldA++src)⟩)]) (by simp[js]) (λj hj hne=>by
   simp only[js];rw[aA];intro hb;exact hne (aw hb).symm)
 have hexec:(execOp a.eval o).run P w= .ok (.value (.slice (af ⟨w.heap.size,0,ah⟩) (n+m) Gc)) (w.drew.alloc (.cells ((olds++vs).toArray++lM J.cells (Gc-(n+m))) el)):=by
  unfold execOp;rw[ho];simp only[resolve,invoke,builtin,eT,pl,cR,List.map_toArray,gB,List.map_nil,hsl,hrun]
 unfold In;rw[hexec];refine ⟨_,φ',rfl,p2,p3,p4,.row p1 hgc hgm ⟨el,?_⟩⟩;have:=(Np w (.cells ((olds++vs).toArray++lM J.cells (Gc-(n+m))) el (0,0))).at_;unfold sw;rw[this];have hzs:=IW Z hzl (Gc-(n+m));have e1:(n+m)*i.size+(Gc-(n+m))*i.size=Gc*i.size:=by rw[<- OQ];congr 1;omega
 simp only[Array.size_append,tX,bm,hol,hnl,hzs];congr 2;rw[<- e1,OQ]
theorem aph {t u el el':TypeId} {s x:Operand} {sz bytes:Nat} {z:ξ} (U:o.op= .call {callee:=.builtin .append,args:=#[s,x],argTypes:=#[t,u]}) (hu:P.underlying t=af (.slice el)) (hu':P.underlying u=af (.slice el')) (hs:fG P el=af sz) (hb:F4 P el=af bytes) (hz:tN P el=af z) (hzl:z.length=sz) (hsz:sz≠0)
 (I:eZ (.app el sz bytes s x) e h nx=af R):gZ P o e.get h.get R.eff:=by
 obtain⟨i,Y,i2⟩:=Oy hb;have i3:i.size=sz:=by unfold fG at hs;rw[Y]at hs;simpa using hs
 subst i2;subst i3;simp only[eZ]at I;split at I
 .rename_i bv y hsv M;split at I
  .rename_i src m rd hrow;have common:∀{φ:PM} {E:Nat->Prop} {h':HF} {w:World} {a:Act},(∀i∈rd,h' i=h.get i)->Xr φ E h' w a e o->rH φ E h' w->∃vs,Src P i.size u (a.eval x) m vs w/\Cs φ (tot E φ h') w src vs:=
    λhrd hp hrep=>ag3 hrow hrd hrep (hp x _ (by rw[U];simp[Op.operands,fc]) M) hu'
   have exec:∀{w w':World} {a:Act} {v:Value},(Builtin.append_ #[t,u] o.type #[a.eval s,a.eval x]).run P w= .ok v w'->(execOp a.eval o).run P w= .ok (.value v) w':=by
    intro w w' a v hrun;unfold execOp;rw[U];simp[resolve,invoke,builtin,hrun]
   split at I
   .rename_i id sz' n;split at I
    .rename_i blk hblk;split at I
     .rename_i hc;simp only[av,c8,eJ]at hc;obtain⟨⟨⟨⟨⟨rfl,hmem⟩,hcells⟩,hlen⟩,hty⟩,hroom⟩:=hc;have hlen:=a_ hlen;rw[BC.len_toMx hcells]at hlen;obtain⟨r1,r2⟩:=Ja hroom;simp only[ak]at I;subst I;subst hty;intro φ E h' w a h1 h2 h3 hrep h5;have hp:Xr φ E h' w a e o:=λx y M hy=>ug hrep h3 M hy
      have hb':h' id=af blk:=by rw[h1 id (by simp[CU.eff])];exact hblk
      obtain⟨vs,hsrc,hcs⟩:=common (λi hi=>h1 i (by simp[CU.eff,hi])) hp hrep;have hpd:=hp s _ (by rw[U];simp[Op.operands,fc]) hsv;have hnx:φ nx=ah:=h5 nx (by simp[CU.eff]);have hwv:=hp s _ (by rw[U];simp[Op.operands,fc]) hsv;generalize hzv:a.eval s=pv at hpd;cases hpd with
      |@row _ _ _ cap k hφ hn hcap hsh=>
       obtain⟨arr,g1,g2,g3⟩:=hrep.cs hb' hφ hcells;have hne:nx≠id:=λe=>by rw[e,hφ]at hnx;cases hnx
       have harr:arr.size=cap*i.size:=by
        obtain⟨ty,hty⟩:=hsh;unfold sw at hty;rw[g1]at hty;simp at hty;exact hty.2
       have hnl:=hsrc.newsLen;have hnn:n*i.size<=arr.size:=by omega
       have csnew:Cs φ (tot E φ h') w (blk.c.toMx.take (n*i.size)++src) (arr.toList.take (n*i.size)++vs):=by
        have:=(g2.take (n*i.size)).append hcs
        rwa [List.take_take,tm hlen]at this
       have hnw1:js [(nx,⟨blk.ty,pU (blk.c.toMx.take (n*i.size)++src)⟩)] nx=af ⟨blk.ty,pU (blk.c.toMx.take (n*i.size)++src)⟩:=by simp[js]
       have hnw2:js [(nx,⟨blk.ty,pU (blk.c.toMx.take (n*i.size)++src)⟩)] id=ah:=by
        simp only[js];rw[aA];intro hb;exact hne (aw hb)
       by_cases hfit:n+m<=cap
       ·
        have hend:n*i.size+vs.length<=arr.size:=by
         rw[hnl,harr,<-OQ];exact cL _ hfit
        have hst:=run_storeCells_at (P:=P) k (n*i.size) blk.ty vs 0 arr w g1 (by omega) hsrc.one;simp only[dD]at hst
        let arr':Array Value:=(arr.toList.take (n*i.size)++vs++arr.toList.drop (n*i.size+vs.length)).toArray
        have hsize:arr'.size=arr.size:=by simp only[arr',tX,bm,bC,mV,iG];omega
        have hrun:(Builtin.append_ #[t,u] o.type #[a.eval s,a.eval x]).run P w= .ok (.slice (af ⟨k,0,ah⟩) (n+m) cap) (w.setRow k arr'):=by
         rw[hzv];rcases hsrc.kind with ⟨e',hk⟩|hk<;>simp[Builtin.append_,run_underlying hu,run_underlying hk,sizeOf,typeInfo,Y,hsrc.len,hfit,hsrc.cells,lA,hst,arr']
        obtain⟨φ',p1,p2,p3,p4⟩:=hrep.wren hb' hφ hnx (F_.setRow g1 hsize) (b':=⟨blk.ty,pU (blk.c.toMx.take (n*i.size)++src)⟩) (by
         obtain⟨q1,q2⟩:=ou (blk.c.toMx.take (n*i.size)++src);refine qH q2 (by rw[q1,<-csnew.1,hsize];simp;omega) λj q hq=>?_
         rw[q1]at hq;have hj:j<(arr.toList.take (n*i.size)++vs).length:=by rw[csnew.1];exact (bn.1 hq).1
         refine ⟨csnew.2.1 q (bc hq),_,?_,csnew.2.2 j q _ hq (aB hj)⟩;simp only[arr',kD];rw[bM hj,aB hj]) _ hnw1 hnw2
        unfold In;rw[exec hrun];refine ⟨_,φ',rfl,p2,p3,p4,.row p1 hfit hcap ⟨blk.ty,?_⟩⟩;unfold sw;rw[setRow_heap w k arr arr' blk.ty (0,0) g1];simp[hsize,harr]
       ·
        have hold:(L7 i.size n (.slice (af ⟨k,0,ah⟩) n cap)).run P w.drew= .ok (arr.toList.take (n*i.size)).toArray w.drew:=by
         refine run_firstCells_some w.drew i.size n _ n cap _ (by simp;omega) λj v hv=>?_
         rw[cP]at hv;split at hv
         .rw[cQ]at hv;rw[lA,bR];have hcl:w.cell? ⟨k,j,ah⟩=af v:=by simp[ON,g1,hv]
          simpa using hcl
         .cases hv
        exact Um U hu Y hz hzl hrep hnx hzv hold (by
         have:=g2.take (n*i.size)
         rwa [List.take_take,tm hlen]at this) (by simp;omega) hsrc hcs (by omega) r1 r2 [id] (λj hj=>by simp at hj;subst hj;exact λe=>hne e.symm)
     .cases I
    .cases I
   .split at I
    .rename_i hc;simp only[av]at hc;obtain⟨J,hroom⟩:=hc;obtain⟨r1,r2⟩:=Ja hroom;have hbase:∀{φ:PM} {O:Nat->Prop} {w:World} {v:Value},cV φ O w bv v->∃A,v= .slice A 0 0:=by
      intro φ O w v hr;unfold JH at J;split at J
      .cases hr;exact⟨_,rfl⟩
      .rename_i q;cases fM hr;unfold AQ at J;split at J
       .exact⟨_,rfl⟩
       .cases J
      .cases J
     split at I
     .rename_i hm;have hm:m=0:=by simpa using hm
      subst hm;simp only[ak]at I;subst I;refine gZ.reads λφ E h' w a hrd hp hrep=>?_
      obtain⟨vs,hsrc,hcs⟩:=common hrd hp hrep;have hr:=hp s _ (by rw[U];simp[Op.operands,fc]) hsv;obtain⟨A,hA⟩:=hbase hr;refine ⟨a.eval s,exec ?_,hr⟩;rw[hA];have hvs:vs=[]:=by have:=hsrc.newsLen;simpa using this
      have Z:=hsrc.cells;rw[hvs]at Z;rcases hsrc.kind with ⟨e',hk⟩|hk<;>cases A<;>simp[Builtin.append_,run_underlying hu,run_underlying hk,sizeOf,typeInfo,Y,hsrc.len,Z,storeCells]
     .rename_i hm;have hm:m≠0:=by simpa using hm
      simp only[ak]at I;subst I;intro φ E h' w a h1 h2 h3 hrep h5;have hp:Xr φ E h' w a e o:=λx y M hy=>ug hrep h3 M hy
      obtain⟨vs,hsrc,hcs⟩:=common (λi hi=>h1 i hi) hp hrep;obtain⟨A,hA⟩:=hbase (hp s _ (by rw[U];simp[Op.operands,fc]) hsv);have hold:(L7 i.size 0 (.slice A 0 0)).run P w.drew= .ok ([]:ξ).toArray w.drew:=by
       cases A with
       |none=>exact run_firstCells_none w.drew i.size 0 0 0
       |some ad=>exact run_firstCells_some w.drew i.size 0 ad 0 0 [] (by simp) (by intro j v hv;simp at hv)
      have:=Um (nx:=nx) (n:=0) (cap:=0) (olds:=[]) (oldA:=[]) U hu Y hz hzl hrep (h5 nx (by simp[CU.eff])) hA hold ⟨rfl,(by intro x M;cases M),(by intro j x v M;simp at M)⟩ (by simp) hsrc hcs (by omega) (by omega) (by simpa using r2) [] (by simp);simpa[CU.eff] using this
    .cases I
  .cases I
 .cases I
end
section
variable {P:Program} {o:Oper} {e:AB} {h:oH} {nx:Nat} {R:CU}
theorem ap5 {t:TypeId} (M:o.op= .makeMap t ah) (I:eZ .mkm e h nx=af R):gZ P o e.get h.get R.eff:=by
 simp only[eZ,ak]at I;subst I;refine gZ.makes λφ E h' w a _ _ _=>?_
 refine ⟨.map (af w.heap.size),{w with heap:=w.heap.push (.map #[] 0)},.map #[] 0,?_,rJ w _,⟨#[],0,rfl,rfl,by intro j x J;simp at J⟩,λφ' O hφ=>.mp hφ⟩;unfold execOp;rw[M];simp[Instr.makeMap,newObj,nY]
theorem aoz {t:TypeId} {x:Operand} (J:o.op= .range t x) (hu:P.underlying t=af .string) (I:eZ (.rng x) e h nx=af R):gZ P o e.get h.get R.eff:=by
 simp only[eZ]at I;split at I
 .rename_i s M;simp only[ak]at I;subst I;refine gZ.makes λφ E h' w a _ hp _=>?_
  have hr:=fM (hp x _ (by rw[J];simp[Op.operands]) M);refine ⟨.pointer (af ⟨w.heap.size,0,ah⟩),{w with heap:=w.heap.push (.stringIter s 0)},.stringIter s 0,?_,rJ w _,rfl,λφ' O hφ=>.ptr hφ⟩;unfold execOp;rw[J];simp[Instr.range,run_underlying hu,hr,newObj,nY]
 .cases I
theorem IY {w:World} {k:Nat} {ob ob':Obj} (hk:w.heap[k]? =af ob) (h1:∀c t f,ob≠ .cells c t f) (h2:∀c t f,ob'≠ .cells c t f):F_ w {w with heap:=w.heap.setIfInBounds k ob'} k ob':=by
 have hlt:k<w.heap.size:=(cJ.1 hk).1;have hat:(w.heap.setIfInBounds k ob')[k]? =af ob':=by simp[hlt]
 have hot:∀j,j≠k->(w.heap.setIfInBounds k ob')[j]? =w.heap[j]? :=λj hj=>qu (λe=>hj e.symm)
 refine ⟨rfl,rfl,rfl,by simp,hat,hot,λj=>?_⟩;unfold sw;by_cases hj:j=k
 .subst hj;simp only[hat,hk];cases ob<;>cases ob'<;>first|rfl|exact cX rfl (h1 _ _ _)|exact cX rfl (h2 _ _ _)
 .simp only[hot j hj]
theorem ap1 {x:Operand} (Z:o.op= .next x ai) (I:eZ (.nxt x) e h nx=af R):gZ P o e.get h.get R.eff:=by
 simp only[eZ]at I;split at I
 .rename_i id hx;split at I
  .rename_i ty s p hid;split at I
   .rename_i b hb;split at I
    .rename_i hlt;have hlt:=a_ hlt;simp only[ak]at I;subst I;refine gZ.writes hid λφ E h' w a hrd M hp hrep=>?_
     have hr:=hp x _ (by rw[Z];simp[Op.operands]) hx;generalize hz:a.eval x=z at hr;cases hr with
     |@ptr _ _ k hφ=>
      obtain⟨k',Y,_,ob,U,q3⟩:=hrep.at_ id _ M;rw[hφ]at Y;cases Y;have q3:ob= .stringIter s p:=q3;subst q3;have hps:p<s.size:=by
       have:=(bn.1 hb).1;simpa using this
      have hget:s.get! p=b:=by
       have:s.data[p]? =af b:=by rw[<- cQ];exact hb
       have hpd:p<s.data.size:=(cJ.1 this).1;have h2:s.data[p]! =s.data[p]:=getElem!_pos s.data p hpd;rw[iv hpd]at this;simp only[ByteArray.get!,h2];exact j6 this
      have hdec:Utf8.decode s p=(b.toNat,1):=by
       unfold Utf8.decode;simp only[dD,hget];rw[aD (by omega)]
      refine ⟨.value (.tuple #[.bool ai,.int .i64 p,.int .i32 b.toNat]),_,k,.stringIter s (p+1),?_,hφ,IY U (by simp) (by simp),rfl,_,.inl rfl,?_⟩
      .unfold execOp;rw[Z];simp[Instr.next,hz,getObj,nY,U,hps,hdec,setObj,goInt]
      .refine cV.tup (vs:=[.bool ai,.int .i64 p,.int .i32 b.toNat]) rfl λj y v J hv=>?_
       rcases j with _|_|_|j<;>simp at J hv
       .subst J;subst hv;exact .f (.raw _)
       .subst J;subst hv;exact .f (.raw _)
       .subst J;subst hv;exact .f (.raw _)
    .cases I
   .rename_i hb;simp only[ak]at I;subst I;refine gZ.writes hid λφ E h' w a hrd M hp hrep=>?_
    have hr:=hp x _ (by rw[Z];simp[Op.operands]) hx;generalize hz:a.eval x=z at hr;cases hr with
    |@ptr _ _ k hφ=>
     obtain⟨k',Y,_,ob,U,q3⟩:=hrep.at_ id _ M;rw[hφ]at Y;cases Y;have q3:ob= .stringIter s p:=q3;subst q3;have hps:¬p<s.size:=by
      have:=List.getElem?_eq_none_iff.1 hb;have e:s.data.toList.length=s.size:=by simp
      omega
     refine ⟨.value (.tuple #[.bool aj]),w,k,.stringIter s p,?_,hφ,⟨rfl,rfl,rfl,rfl,U,λ_ _=>rfl,λ_=>rfl⟩,rfl,_,.inl rfl,?_⟩
     .unfold execOp;rw[Z];simp[Instr.next,hz,getObj,nY,U,hps]
     .refine cV.tup (vs:=[.bool aj]) rfl λj y v J hv=>?_
      rcases j with _|j<;>simp at J hv;subst J;subst hv;exact .f (.raw _)
  .cases I
 .cases I
theorem Ax {a b:ByteArray}:sM a b=ai↔a=b:=by
 unfold sM;constructor
 .intro h;have h1:a.data.toList=b.data.toList:=by simpa using h
  cases a;cases b;congr 1;exact L8 h1
 .rintro rfl;simp
theorem F3 (a b:ByteArray):(a==b)=sM a b:=by
 have h1:(a==b)=(a.data==b.data):=rfl;rw[h1,Bool.eq_iff_iff,Ax,c8];constructor
 .intro h;cases a;cases b;congr 1
 .rintro rfl;rfl
def kd (str:Bool) (d:TypeDesc):Prop:=if str then d= .string else ∃k,d= .int k
theorem Da {str:Bool} {d:TypeDesc} (hd:kd str d) {k k':Value} (hk:zQ str k=ai) {b:Bool} (hb:vy .eql k k'=af (.bool b)):Instr.sameNow d k k'=af b:=by
 unfold kd at hd;cases str with
 |true=>
  simp only[bI]at hd;subst hd;cases k<;>simp[zQ]at hk;cases k'<;>simp only[vy]at hb<;>try (simp at hb;done)
  simp only[ak,CW]at hb;simp[Instr.sameNow,F3,hb]
 |false=>
  simp only[cG,ey]at hd;obtain⟨q,rfl⟩:=hd;cases k<;>simp[zQ]at hk;cases k'<;>simp only[vy]at hb<;>try (simp at hb;done)
  split at hb
  .rename_i hkk;have hkk':=eq_of_beq hkk;subst hkk';simp only[ak,CW]at hb;simp[Instr.sameNow,<-hb]
  .cases hb
theorem SU {str:Bool} {d:TypeDesc} (hd:kd str d) {k:Value} (hk:zQ str k=ai):∀(es:List (Value×AV)) (ents:List MapEntry) (i:Nat),ents.map (·.key)=es.map (·.1)->∀r,ua k es=af r->
 (r=ah/\jI d k ents i=af ah)\/∃(j:Nat) (v:AV) (m:MapEntry) (k':Value),r=af v/\es[j]? =af (k',v)/\ents[j]? =af m/\jI d k ents i=af (af (i+j,m.val))/\vy .eql k k'=af (.bool ai)
 |[],ents,i,he,r,h=>by
  cases ents with
  |nil=>simp only[ua,ak]at h;exact .inl ⟨h.symm,rfl⟩
  |cons _ _=>simp at he
 |(k',v)::es,ents,i,he,r,h=>by
  cases ents with
  |nil=>simp at he
  |cons m ents=>
   simp only[gB,je]at he;obtain⟨I,J⟩:=he;simp only[ua]at h;split at h
   .rename_i hb;simp only[ak]at h;refine .inr ⟨0,v,m,k',h.symm,rfl,rfl,?_,hb⟩;simp only[jI];rw[I,Da hd hk hb];rfl
   .rename_i hb;have hs:=Da hd hk hb;rcases SU hd hk es ents (i+1) J r h with ⟨h1,h2⟩|⟨j,M,m',k'',h1,h2,Z,Y,U⟩
    .refine .inl ⟨h1,?_⟩;simp only[jI];rw[I,hs];exact h2
    .refine .inr ⟨j+1,M,m',k'',h1,by simpa using h2,by simpa using Z,?_,U⟩;simp only[jI];rw[I,hs];show jI d k ents (i+1)=_;rw[Y,show i+1+j=i+(j+1) from by omega]
   .cases h
theorem Db {I:TypeId} {str:Bool} {d:TypeDesc} (hu:P.underlying I=af d) (hd:kd str d) (b:Bool) (v:Value) (w:World):(Instr.checkKey b 10000 I v).run P w= .ok () w:=by
 have key:∀n,(Instr.checkKey b (n+1) I v).run P w= .ok () w:=λn=>by
  unfold kd at hd;cases str with
  |true=>simp only[bI]at hd;subst hd;simp[Instr.checkKey,run_underlying hu]
  |false=>simp only[cG,ey]at hd;obtain⟨q,rfl⟩:=hd;simp[Instr.checkKey,run_underlying hu]
 exact key 9999
theorem ach {φ:PM} {O:Nat->Prop} {w:World} {ok b:Bool} {x:AV} {v:Value} (h:cV φ O w x v):cV φ O w (pkV ok x b) (if ok then .tuple #[v,.bool b] else v):=by
 cases ok with
 |false=>exact h
 |true=>
  refine cV.tup (vs:=[v,.bool b]) rfl λj y u I hv=>?_
  rcases j with _|_|j<;>simp at I hv
  .subst I;subst hv;exact h
  .subst I;subst hv;exact .f (.raw _)
theorem aju {t kt el:TypeId} {x k:Operand} {str ok:Bool} {d:TypeDesc} {z:Value} (U:o.op= .lookup t x k ok) (hu:P.underlying t=af (.map kt el)) (hk:P.underlying kt=af d) (hd:kd str d) (M:(P.info? el).bind (·.zero)=af z) (I:eZ (.lku str ok z x k) e h nx=af R):gZ P o e.get h.get R.eff:=by
 simp only[eZ]at I;split at I
 .rename_i id key hx hkx;split at I
  .rename_i ty es hid;split at I
   .rename_i hko;have fin:∀val:AV,(∀(φ:PM) (E:Nat->Prop) (h':HF) (w:World) (a:Act),h' id=af ⟨ty,.mp es⟩->Xr φ E h' w a e o->rH φ E h' w->∃v,(execOp a.eval o).run P w= .ok (.value v) w/\cV φ (tot E φ h') w val v)->R=⟨val,[id],[],[],[]⟩->gZ P o e.get h.get R.eff:=by
     rintro val hv rfl;exact gZ.reads λφ E h' w a hrd hp hrep=>hv φ E h' w a (by rw[hrd id (by simp)];exact hid) hp hrep
    have zrun:∀w:World,(zeroValue el).run P w= .ok z w:=λw=>by
     cases hi:P.info? el with
     |none=>rw[hi]at M;cases M
     |some i=>rw[hi]at M;simp only[aI]at M;simp[zeroValue,typeInfo,hi,M]
    have main:∀r,ua key es=af r->∀(φ:PM) (E:Nat->Prop) (h':HF) (w:World) (a:Act),h' id=af ⟨ty,.mp es⟩->Xr φ E h' w a e o->rH φ E h' w->
     ∃v,(execOp a.eval o).run P w= .ok (.value v) w/\cV φ (tot E φ h') w (match r with|some v=>pkV ok v ai|none=>pkV ok (raw z) aj) v:=by
     intro r hr φ E h' w a Y hp hrep;have hrx:=hp x _ (by rw[U];simp[Op.operands]) hx;have hrk:=fM (hp k _ (by rw[U];simp[Op.operands]) hkx);generalize J:a.eval x=zz at hrx;cases hrx with
     |@mp _ b hφ=>
      obtain⟨k',q1,_,ob,Z,q3⟩:=hrep.at_ id _ Y;rw[hφ]at q1;cases q1;obtain⟨ents,clock,rfl,q4,q5⟩:=q3;have hck:=Db (P:=P) hk hd ents.isEmpty key w;rcases SU hd hko es ents.toList 0 q4 r hr with ⟨h1,h2⟩|⟨j,v,m,k',h1,h2,h3,h4,_⟩
      .subst h1;refine ⟨_,?_,ach (.f (.raw z))⟩;unfold execOp;rw[U];cases ok<;>simp[Instr.lookup,run_underlying hu,J,hrk,getObj,nY,Z,hck,Instr.findKey,run_underlying hk,h2,zrun]
      .subst h1;obtain⟨m',h6,h7⟩:=q5 j _ h2;rw[cQ]at h3;rw[h3]at h6;cases h6;refine ⟨_,?_,ach h7⟩;unfold execOp;rw[U];cases ok<;>simp[Instr.lookup,run_underlying hu,J,hrk,getObj,nY,Z,hck,Instr.findKey,run_underlying hk,h4]
    split at I
    .rename_i v hf;simp only[ak]at I;exact fin _ (main _ hf) I.symm
    .rename_i hf;simp only[ak]at I;exact fin _ (main _ hf) I.symm
    .cases I
   .cases I
  .cases I
 .cases I
theorem XW {str:Bool} {d:TypeDesc} (hd:kd str d) {k:Value} (hk:zQ str k=ai) {v:AV}:∀(es es':List (Value×AV)) (ents:List MapEntry) (i:Nat),ents.map (·.key)=es.map (·.1)->zO k v es=af es'->
 (jI d k ents i=af ah/\es'=es++[(k,v)])\/∃(j:Nat) (m:MapEntry) (k':Value) (J:AV),es[j]? =af (k',J)/\ents[j]? =af m/\jI d k ents i=af (af (i+j,m.val))/\vy .eql k k'=af (.bool ai)/\es'=es.set j (k,v)
 |[],es',ents,i,he,h=>by
  cases ents with
  |nil=>simp only[zO,ak]at h;exact .inl ⟨rfl,by simp[h]⟩
  |cons _ _=>simp at he
 |(k',J)::es,es',ents,i,he,h=>by
  cases ents with
  |nil=>simp at he
  |cons m ents=>
   simp only[gB,je]at he;obtain⟨I,M⟩:=he;simp only[zO]at h;split at h
   .rename_i hb;simp only[ak]at h;refine .inr ⟨0,m,k',J,rfl,rfl,?_,hb,by simp[h]⟩;simp only[jI];rw[I,Da hd hk hb];rfl
   .rename_i hb;have hs:=Da hd hk hb;split at h
    .rename_i es2 hes2;simp only[ak]at h;subst h;rcases XW hd hk es es2 ents (i+1) M hes2 with ⟨h1,h2⟩|⟨j,m',k'',v'',h1,h2,Z,Y,U⟩
     .refine .inl ⟨?_,by simp[h2]⟩;simp only[jI];rw[I,hs];exact h1
     .refine .inr ⟨j+1,m',k'',v'',by simpa using h1,by simpa using h2,?_,Y,by simp[U]⟩;simp only[jI];rw[I,hs];show jI d k ents (i+1)=_;rw[Z,show i+1+j=i+(j+1) from by omega]
    .cases h
   .cases h
theorem adu {str:Bool} {k k':Value} (hk:zQ str k=ai) (hb:vy .eql k k'=af (.bool ai)):Instr.sameBits 10000 k' k=ai/\k'=k:=by
 cases str with
 |true=>
  cases k<;>simp[zQ]at hk;cases k'<;>simp only[vy]at hb<;>try (simp at hb;done)
  simp only[ak,CW]at hb;have:=Ax.1 hb;subst this;exact⟨by simp[Instr.sameBits,F3,hb],rfl⟩
 |false=>
  cases k<;>simp[zQ]at hk;cases k'<;>simp only[vy]at hb<;>try (simp at hb;done)
  split at hb
  .rename_i hkk;have hkk':=eq_of_beq hkk;subst hkk';simp only[ak,CW,c8]at hb;subst hb;exact⟨by simp[Instr.sameBits],rfl⟩
  .cases hb
theorem ajt {t kt el:TypeId} {x k y:Operand} {str:Bool} {d:TypeDesc} (M:o.op= .mapUpdate t x k y) (hu:P.underlying t=af (.map kt el)) (hk:P.underlying kt=af d) (hd:kd str d) (I:eZ (.mup str x k y) e h nx=af R):gZ P o e.get h.get R.eff:=by
 simp only[eZ]at I;split at I
 .rename_i id key v hx hkx hy;split at I
  .rename_i ty es hid;split at I
   .rename_i hko;split at I
    .rename_i es' hput;simp only[ak]at I;subst I;refine gZ.writes hid λφ E h' w a hrd Z hp hrep=>?_
     have hrx:=hp x _ (by rw[M];simp[Op.operands]) hx;have hrk:=fM (hp k _ (by rw[M];simp[Op.operands]) hkx);have hry:=hp y _ (by rw[M];simp[Op.operands]) hy;generalize J:a.eval x=zz at hrx;cases hrx with
     |@mp _ b hφ=>
      obtain⟨k',q1,_,ob,U,q3⟩:=hrep.at_ id _ Z;rw[hφ]at q1;cases q1;obtain⟨ents,clock,rfl,q4,q5⟩:=q3;have hck:=Db (P:=P) hk hd aj key w;have hlen:ents.size=es.length:=by have:=gX al q4;simpa using this
      rcases XW hd hko es es' ents.toList 0 q4 hput with ⟨h1,rfl⟩|⟨j,m,k',v',h1,h2,h3,h4,rfl⟩
      .refine ⟨.skip,_,b,.map (ents.push {key,val:=a.eval y,born:=clock}) (clock+1),?_,hφ,IY U (by simp) (by simp),⟨_,_,rfl,by simp[q4],λj q hq=>?_⟩,undef,.inr ⟨rfl,rfl⟩,.f (.raw _)⟩
       .unfold execOp;rw[M];simp[Instr.mapUpdate,run_underlying hu,J,hrk,getObj,nY,U,hck,Instr.findKey,run_underlying hk,h1,setObj]
       .rcases ci j es.length with hj|hj
        .rw[bM hj]at hq;obtain⟨m,g1,g2⟩:=q5 j q hq;exact⟨m,by rw[Array.getElem?_push,aA (by omega)];exact g1,g2⟩
        .rw[b7 hj]at hq;have Y:j-es.length=0:=by
          rcases L5 (j-es.length) with h0|h0
          .exact h0
          .rw[bT (by simp;omega)]at hq;cases hq
         rw[Y]at hq;simp at hq;subst hq;exact⟨_,by rw[Array.getElem?_push,aD (by omega)],hry⟩
      .obtain⟨s1,s2⟩:=adu hko h4;subst s2;rw[cQ]at h2;rw[bR]at h3;have hjl:j<ents.size:=(cJ.1 h2).1;have hmk:m.key=k':=by
        have e1:(ents.toList.map (·.key))[j]? =af m.key:=by rw[ba,cQ,h2];rfl
        rw[q4,ba,h1]at e1;simpa using e1.symm
       refine ⟨.skip,_,b,.map (ents.modify j λe=>{e with key:=k',val:=a.eval y}) clock,?_,hφ,IY U (by simp) (by simp),⟨_,_,rfl,?_,λi q hq=>?_⟩,undef,.inr ⟨rfl,rfl⟩,.f (.raw _)⟩
       .unfold execOp;rw[M];simp[Instr.mapUpdate,run_underlying hu,J,hrk,getObj,nY,U,hck,Instr.findKey,run_underlying hk,h3,setObj,h2,hmk,Instr.keyThatStays,s1]
       .apply List.ext_getElem?;intro i;simp only[ba,cQ,pn,Array.getElem?_modify];have e2:∀i:Nat,(ents[i]?).map (λm:MapEntry=>m.key)=(es[i]?).map (λp:Value×AV=>p.1):=λi=>by
         have:=gX (λl=>l[i]?) q4;simpa[ba,cQ] using this
        by_cases hij:j=i
        .subst hij;simp[h2,show j<es.length by omega]
        .simp only[hij,ey];exact e2 i
       .rw[pn]at hq;rw[Array.getElem?_modify];by_cases hij:j=i
        .subst hij;simp[show j<es.length by omega]at hq;subst hq;exact⟨{m with key:=k',val:=a.eval y},by simp[h2],hry⟩
        .simp only[hij,ey]at hq ⊢;exact q5 i q hq
    .cases I
   .cases I
  .cases I
 .cases I
end
section
variable {P:Program} {o:Oper} {e:AB} {h:oH} {nx:Nat} {R:CU}
theorem RH {t:TypeId} {d:TypeDesc} (hu:P.underlying t=af d) (hd:(match d with|.int _=>ai|.bool=>ai|.string=>ai|_=>aj)=ai) (cs:Array Value) (j:Nat) (v:Value) (hv:cs[j]? =af v) (w:World):(part t cs j).run P w= .ok v w:=by
 unfold part;simp only[isAgg,eT,run_underlying hu,cR];cases d<;>simp at hd<;>simp[hv]
theorem ZN {t:TypeId} {d:TypeDesc} (hu:P.underlying t=af d) (hd:(match d with|.int _=>ai|.bool=>ai|.string=>ai|_=>aj)=ai) {x y:FV} {b:Bool} (hxy:ym d x y=af b) {u v:Value} (M:x= .raw u) (J:y= .raw v) (n:Nat) (w:World):(Op.equalIn (n+1) t u v).run P w= .ok b w:=by
 subst M;subst J;cases d<;>simp at hd<;>cases u<;>cases v<;>simp only[ym]at hxy<;>first|(cases hxy;done)|skip
 .simp only[ak]at hxy;subst hxy;simp[Op.equalIn,run_underlying hu]
 .split at hxy
  .rename_i hk;have I:=eq_of_beq hk;subst I;simp only[ak]at hxy;subst hxy;simp[Op.equalIn,run_underlying hu]
  .cases hxy
 .simp only[ak]at hxy;subst hxy;simp[Op.equalIn,run_underlying hu,F3]
abbrev Ko (n:Nat) (xs I:Array Value) (f:Field) (_:Option Bool×Unit):Sem (ForInStep (Option Bool×Unit)):=
 if f.name≠ "_" then do
  let a←part f.type xs f.offset
  let b←part f.type I f.offset
  let c←Op.equalIn (n+1) f.type a b
  if (!c)=ai then pure (ForInStep.done (af aj,())) else pure (ForInStep.yield (ah,()))
 else pure (ForInStep.yield (ah,()))
theorem N2 (n:Nat) (w:World) (xs I:Array Value):∀(fs:List Field) (ds:List TypeDesc) (a b:List FV) (k:Nat) (r:Bool),sC P k fs=af ds->
 (∀(j:Nat) x u,a[j]? =af x->xs[k+j]? =af u->x= .raw u\/∀v,x≠ .raw v)->(∀(j:Nat) x u,b[j]? =af x->I[k+j]? =af u->x= .raw u\/∀v,x≠ .raw v)->(∀(j:Nat),j<a.length->k+j<xs.size)->(∀(j:Nat),j<b.length->k+j<I.size)->py ds a b=af r->
 (forIn fs (ah,()) (Ko n xs I)).run P w= .ok (if r then (ah,()) else (af aj,())) w
 |[],ds,a,b,k,r,hp,_,_,_,_,he=>by
  simp only[sC,ak]at hp;subst hp;cases a<;>cases b<;>simp[py]at he;subst he;simp
 |f::fs,ds,a,b,k,r,hp,Z,hb,hla,hlb,he=>by
  simp only[sC]at hp;split at hp
  .rename_i d ds' hu Y;split at hp
   .rename_i hc;simp only[av,bne_iff_ne,ne_eq,c8]at hc;obtain⟨⟨hn,hof⟩,hd⟩:=hc;simp only[ak]at hp;subst hp;cases a with
    |nil=>cases b<;>simp[py]at he
    |cons x a=>
     cases b with
     |nil=>simp[py]at he
     |cons y b=>
      simp only[py]at he;have U:k<xs.size:=by have:=hla 0 (by simp);omega
      have M:k<I.size:=by have:=hlb 0 (by simp);omega
      have hraw:∀(z:FV) (q:Value),(z= .raw q\/∀v,z≠ .raw v)->(∃v,z= .raw v)->z= .raw q:=by
       rintro z q (h|h) ⟨v,hv⟩
       .exact h
       .exact cX hv (h v)
      have hxr:∀J,ym d x y=af J->x= .raw xs[k]/\y= .raw I[k]:=by
       intro J hbb;have hrr:(∃v,x= .raw v)/\∃v,y= .raw v:=by
        unfold ym at hbb;split at hbb
        .exact⟨⟨_,rfl⟩,⟨_,rfl⟩⟩
        .exact⟨⟨_,rfl⟩,⟨_,rfl⟩⟩
        .exact⟨⟨_,rfl⟩,⟨_,rfl⟩⟩
        .cases hbb
       exact⟨hraw x _ (Z 0 x _ rfl (by simp[U])) hrr.1,hraw y _ (hb 0 y _ rfl (by simp[M])) hrr.2⟩
      have hstep:∀J,ym d x y=af J->(Ko n xs I f (ah,())).run P w= .ok (if J then ForInStep.yield (ah,()) else ForInStep.done (af aj,())) w:=by
       intro J hbb;obtain⟨h1,h2⟩:=hxr J hbb;have p1:=RH hu (by cases d<;>simp[Jg]at hd<;>rfl) xs k xs[k] (by simp[U]) w;have p2:=RH hu (by cases d<;>simp[Jg]at hd<;>rfl) I k I[k] (by simp[M]) w;have p3:=ZN hu (by cases d<;>simp[Jg]at hd<;>rfl) hbb h1 h2 n w;unfold Ko;rw[aD hn,hof];simp only[eT,p1,p2,p3,cR];cases J<;>simp
      rw[List.forIn_cons];simp only[eT];split at he
      .rename_i hbb;rw[hstep ai hbb];simp only[cR,bI];exact N2 n w xs I fs ds' a b (k+1) r Y (λj x u h1 h2=>Z (j+1) x u (by simpa using h1) (by rw[<- h2];congr 1;omega)) (λj x u h1 h2=>hb (j+1) x u (by simpa using h1) (by rw[<- h2];congr 1;omega))
        (λj hj=>by have:=hla (j+1) (by simpa using hj);omega) (λj hj=>by have:=hlb (j+1) (by simpa using hj);omega) he
      .rename_i hbb;rw[hstep aj hbb];simp only[ak]at he;subst he;simp
      .cases he
   .cases hp
  .cases hp
theorem ZM {t:TypeId} {fs:Array Field} (hu:P.underlying t=af (.struct fs)) (hs:P.stoodInHeld t=aj) {ds:List TypeDesc} (hp:sC P 0 fs.toList=af ds) (xs I:Array Value) {a b:List FV} {r:Bool}
 (J:∀(j:Nat) x u,a[j]? =af x->xs[j]? =af u->x= .raw u\/∀v,x≠ .raw v) (hb:∀(j:Nat) x u,b[j]? =af x->I[j]? =af u->x= .raw u\/∀v,x≠ .raw v) (hla:a.length=xs.size) (hlb:b.length=I.size) (he:py ds a b=af r) (w:World):
 (Op.equal t (.agg xs) (.agg I)).run P w= .ok r w:=by
 have key:∀n,(Op.equalIn (n+2) t (.agg xs) (.agg I)).run P w= .ok r w:=by
  intro n;rw[Op.equalIn];have h1:=N2 (P:=P) n w xs I fs.toList ds a b 0 r hp (λj x u h1 h2=>J j x u h1 (by simpa using h2)) (λj x u h1 h2=>hb j x u h1 (by simpa using h2)) (λj hj=>by omega) (λj hj=>by omega) he;rw[Array.forIn_toList]at h1;simp only[eT,run_underlying hu,cR,program,nY,hs,cG,ey];have h2:(forIn fs (ah,()) (λf __s=>Ko n xs I f __s)).run P w= .ok (if r then (ah,()) else (af aj,())) w:=h1;unfold Ko at h2;rw[h2];cases r<;>simp
 exact key 9998
theorem S5 {t:TypeId} {fs:Array Field} (hu:P.underlying t=af (.struct fs)) {ds:List TypeDesc} (hp:sC P 0 fs.toList=af ds):P.eqGuardType P.depth t=aj:=by
 have key:∀(fs:List Field) (k:Nat) (ds:List TypeDesc),sC P k fs=af ds→∀d,(fs.any λf=>f.name != "_" &&P.eqGuardType (d+1) f.type)=aj:=by
  intro fs;induction fs with
  |nil=>intros;rfl
  |cons f fs M=>
   intro k ds hp d;simp only[sC]at hp;split at hp
   .rename_i U ds' I J;split at hp
    .rename_i hc;simp only[av]at hc;have:P.eqGuardType (d+1) f.type=aj:=by
      unfold Program.eqGuardType;rw[I];have:=hc.2;cases U<;>simp[Jg]at this<;>rfl
     simp only[List.any_cons,this,Bool.and_false,Bool.false_or];exact M (k+1) ds' J d
    .cases hp
   .cases hp
 unfold Program.depth Program.eqGuardType;rw[hu];simp only[];rw[← Array.any_toList];exact key fs.toList 0 ds hp _
theorem ajv {t t':TypeId} {op:BinOp} {neg:Bool} {x y:Operand} {fs:Array Field} {ds:List TypeDesc} (Y:o.op= .binOp op t x y t') (hop:op=if neg then .neq else .eql) (hu:P.underlying t=af (.struct fs)) (hs:P.stoodInHeld t=aj) (hp:sC P 0 fs.toList=af ds) (I:eZ (.eqs neg ds x y) e h nx=af R):gZ P o e.get h.get R.eff:=by
 simp only[eZ]at I;split at I
 .rename_i a b J hy;split at I
  .rename_i r hr;rw[dG I];refine gZ.reads λφ E h' w ac _ hpp _=>?_
   have h1:=hpp x _ (by rw[Y];simp[Op.operands]) J;have h2:=hpp y _ (by rw[Y];simp[Op.operands]) hy;generalize hzx:ac.eval x=zx at h1;generalize hzy:ac.eval y=zy at h2;have rawOr:∀(l:List FV) (vs:ξ),(∀(j:Nat) x v,l[j]? =af x->vs[j]? =af v->nS (tot E φ h') w x v)->∀(j:Nat) x u,l[j]? =af x->vs.toArray[j]? =af u->x= .raw u\/∀v,x≠ .raw v:=by
    intro l vs hr j x u J hu;have:=hr j x u J (by simpa using hu);cases this with
    |raw v=>exact .inl rfl
    |nil=>exact .inr (by simp)
    |sl=>exact .inr (by simp)
    |ptr=>exact .inr (by simp)
    |agg=>exact .inr (by simp)
   cases h1 with
   |f h1=>
    cases h1 with
    |agg _ vs hl hcl U=>
     cases h2 with
     |f h2=>
      cases h2 with
      |agg _ us Z hcl' M=>
       have heq:=ZM hu hs hp vs.toArray us.toArray (rawOr a vs U) (rawOr b us M) (by simp[hl]) (by simp[Z]) hr w;refine ⟨_,?_,.f (.raw _)⟩;have hg:=S5 hu hp;unfold execOp;rw[Y];simp only[hzx,hzy];subst hop;cases neg<;>simp[eqGuard,program,nY,hg,binOp,heq]
  .cases I
 .cases I
end
theorem bind_some {α β:Type} {x:Option α} {f:α->Option β} {y:β} (h:x.bind f=af y):∃a,x=af a/\f a=af y:=by
 cases x with
 |none=>cases h
 |some a=>exact⟨a,rfl,h⟩
theorem map_some {α β:Type} {x:Option α} {f:α->β} {y:β} (h:x.map f=af y):∃a,x=af a/\f a=y:=by
 cases x with
 |none=>cases h
 |some a=>exact⟨a,rfl,by simpa using h⟩
theorem mj {c:Bool} {β:Type} {x:Option β} {y:β} (h:(if c then x else ah)=af y):c=ai/\x=af y:=by
 cases c with
 |true=>exact⟨rfl,by simpa using h⟩
 |false=>simp at h
theorem Jj {P:Program} {o:Oper} {e:AB} {h:oH} {nx:Nat} {s:SOp} {R:CU} (hc:dA P o.op=af s) (J:eZ s e h nx=af R):gZ P o e.get h.get R.eff:=by
 unfold dA at hc;split at hc
 .rename_i x I;simp only[ak]at hc;subst hc;exact ap4 (.inl I) J
 .rename_i x I;simp only[ak]at hc;subst hc;exact ap4 (.inr I) J
 .rename_i c a b I;simp only[ak]at hc;subst hc;exact alj I J
 .rename_i t I;obtain⟨z,h1,hc⟩:=bind_some hc;obtain⟨h2,hc⟩:=mj hc;simp only[ak]at hc;subst hc;exact ai5 I h1 h2 J
 .rename_i t x I;simp only[ak]at hc;subst hc;exact apg I J
 .rename_i t ps I;split at hc
  .rename_i fs hu;obtain⟨z,h1,hc⟩:=bind_some hc;obtain⟨h2,hc⟩:=mj hc;obtain⟨ps',M,rfl⟩:=map_some hc;simp only[av]at h2;exact YV I h1 h2.1 M (.inl ⟨fs,hu,h2.2⟩) J
  .rename_i n el hu;obtain⟨z,h1,hc⟩:=bind_some hc;obtain⟨h2,hc⟩:=mj hc;obtain⟨ps',M,rfl⟩:=map_some hc;simp only[av]at h2;obtain⟨sz,U⟩:=iV.1 h2.2;exact YV I h1 h2.1 M (.inr ⟨n,el,sz,hu,U⟩) J
  .cases hc
 .rename_i t n ps I;obtain⟨el,h1,hc⟩:=bind_some hc;obtain⟨z,h2,hc⟩:=bind_some hc;obtain⟨sz,M,hc⟩:=bind_some hc;obtain⟨U,hc⟩:=mj hc;obtain⟨ps',Z,rfl⟩:=map_some hc;simp only[av,c8,bne_iff_ne]at U;exact apf I (s9 h1) h2 M U.1.1.1 U.1.1.2 U.2 (a_ U.1.2) Z J
 .rename_i t x I;obtain⟨sz,h1,hc⟩:=bind_some hc;obtain⟨ag,h2,rfl⟩:=map_some hc;exact aln I h1 h2 J
 .rename_i t x v I;obtain⟨sz,h1,rfl⟩:=map_some hc;exact ai4 I h1 J
 .rename_i x I;simp only[ak]at hc;subst hc;exact alk I J
 .rename_i op t x y t' I;split at hc
  .simp only[ak]at hc;subst hc;exact ajx I J
  .simp only[ak]at hc;subst hc;exact ajx I J
  .rename_i hu;split at hc
   .simp only[ak]at hc;subst hc;exact ajw (neg:=aj) I rfl hu J
   .simp only[ak]at hc;subst hc;exact ajw (neg:=ai) I rfl hu J
   .cases hc
  .rename_i el hu;split at hc
   .simp only[ak]at hc;subst hc;exact YU (neg:=aj) I rfl rfl hu J
   .simp only[ak]at hc;subst hc;exact YU (neg:=ai) I rfl rfl hu J
   .cases hc
  .rename_i fs hu;obtain⟨ds,h1,hc⟩:=bind_some hc;unfold acg at h1;rw[hu]at h1;simp only[]at h1;split at h1
   .cases h1
   .rename_i hst;have hst:P.stoodInHeld t=aj:=by simpa using hst
    split at hc
    .simp only[ak]at hc;subst hc;exact ajv (neg:=aj) I rfl hu hst h1 J
    .simp only[ak]at hc;subst hc;exact ajv (neg:=ai) I rfl hu hst h1 J
    .cases hc
  .cases hc
 .rename_i t x I;simp only[ak]at hc;subst hc;exact ap2 I J
 .rename_i t x I;split at hc
  .simp only[ak]at hc;subst hc;exact ap3 I J
  .cases hc
 .rename_i s' d x I;split at hc
  .rename_i k k' h1 h2;simp only[ak]at hc;subst hc;exact alt I h1 h2 J
  .cases hc
 .rename_i t l c I;obtain⟨el,h1,hc⟩:=bind_some hc;obtain⟨z,h2,hc⟩:=bind_some hc;obtain⟨sz,M,hc⟩:=bind_some hc;obtain⟨b,Z,hc⟩:=bind_some hc;obtain⟨U,hc⟩:=mj hc;simp only[av,c8,bne_iff_ne]at U;simp only[ak]at hc;subst hc;exact alm I (s9 h1) h2 M Z U.1.1 U.1.2 U.2 J
 .rename_i t x lo hi mx I;obtain⟨el,h1,hc⟩:=bind_some hc;obtain⟨sz,h2,rfl⟩:=map_some hc;exact aoy I (s9 h1) h2 J
 .rename_i t x k I;split at hc
  .rename_i fs hu;obtain⟨f,h1,hc⟩:=bind_some hc;obtain⟨sz,h2,hc⟩:=bind_some hc;obtain⟨M,hc⟩:=mj hc;simp only[ak]at hc;subst hc;exact apc I hu h1 h2 (by simpa using M) J
  .cases hc
 .rename_i t x k I;split at hc
  .rename_i fs hu;obtain⟨f,h1,hc⟩:=bind_some hc;obtain⟨sz,h2,hc⟩:=bind_some hc;obtain⟨ag,M,rfl⟩:=map_some hc;exact apb I hu h1 h2 M J
  .cases hc
 .rename_i t x i I;split at hc
  .rename_i el hu;obtain⟨sz,h1,rfl⟩:=map_some hc;exact apa I hu h1 J
  .rename_i n el hu;obtain⟨sz,h1,rfl⟩:=map_some hc;exact alr I hu h1 J
  .cases hc
 .rename_i t x i I;split at hc
  .rename_i n el hu;obtain⟨sz,h1,hc⟩:=bind_some hc;obtain⟨ag,h2,rfl⟩:=map_some hc;exact ap9 I hu h1 h2 J
  .rename_i hu;simp only[ak]at hc;subst hc;exact ali I hu J
  .cases hc
 .rename_i x i I;simp only[ak]at hc;subst hc;exact apd I J
 .rename_i f first caps I
  obtain⟨h1,hc⟩:=mj hc;simp only[ak]at hc;subst hc;have h2:first=#[]:=by simpa using h1
  subst h2;exact ap6 I J
 .rename_i t I;split at hc
  .simp only[ak]at hc;subst hc;exact ap5 I J
  .cases hc
 .rename_i t x k ok I;split at hc
  .rename_i kt el hu;split at hc
   .rename_i q z h1 h2;obtain⟨M,hc⟩:=mj hc;simp only[ak]at hc;subst hc;exact aju (str:=aj) I hu h1 ⟨q,rfl⟩ h2 J
   .rename_i z h1 h2;obtain⟨M,hc⟩:=mj hc;simp only[ak]at hc;subst hc;exact aju (str:=ai) I hu h1 rfl h2 J
   .cases hc
  .cases hc
 .rename_i t m k v I;split at hc
  .rename_i kt el hu;split at hc
   .rename_i q h1;simp only[ak]at hc;subst hc;exact ajt (str:=aj) I hu h1 ⟨q,rfl⟩ J
   .rename_i h1;simp only[ak]at hc;subst hc;exact ajt (str:=ai) I hu h1 rfl J
   .cases hc
  .cases hc
 .rename_i t x I;split at hc
  .rename_i hu;simp only[ak]at hc;subst hc;exact aoz I hu J
  .cases hc
 .rename_i x I;simp only[ak]at hc;subst hc;exact ap1 I J
 .rename_i c I;obtain⟨callee,args,argTypes⟩:=c;have arr:∀{α:Type} {x:Array α} {l:List α},x.toList=l->x=l.toArray:=λh=>by rw[<- h]
  unfold Ub at hc;simp only[]at hc;split at hc
  .split at hc
   .rename_i x t h1 h2;rw[arr h1,arr h2]at I;split at hc
    .rename_i el hu;simp only[ak]at hc;subst hc;exact alq I hu J
    .rename_i hu;simp only[ak]at hc;subst hc;exact alp I hu J
    .rename_i k v hu;simp only[ak]at hc;subst hc;exact alo I hu J
    .cases hc
   .cases hc
  .split at hc
   .rename_i x y h1;rw[arr h1]at I;simp only[ak]at hc;subst hc;exact ap8 I J
   .cases hc
  .split at hc
   .rename_i x y h1;rw[arr h1]at I;simp only[ak]at hc;subst hc;exact ap7 I J
   .cases hc
  .split at hc
   .rename_i d x t u h1 h2;rw[arr h1,arr h2]at I;split at hc
    .rename_i el el' h1 h2;obtain⟨sz,M,hc⟩:=bind_some hc;obtain⟨U,hc⟩:=mj hc;simp only[ak]at hc;subst hc;exact als I (s9 h1) (s9 h2) M J
    .cases hc
   .cases hc
  .split at hc
   .rename_i x t h1 h2;rw[arr h1,arr h2]at I;obtain⟨el,M,hc⟩:=bind_some hc;obtain⟨z,U,hc⟩:=bind_some hc;obtain⟨sz,Z,hc⟩:=bind_some hc;obtain⟨Y,hc⟩:=mj hc;simp only[av,c8,bne_iff_ne,ne_eq]at Y;simp only[ak]at hc;subst hc;exact ape I (s9 M) U Y.1.1 Y.1.2 Y.2 J
   .cases hc
  .split at hc
   .rename_i s' x t u h1 h2;rw[arr h1,arr h2]at I;split at hc
    .rename_i el el' h1 h2;obtain⟨sz,M,hc⟩:=bind_some hc;obtain⟨b,U,hc⟩:=bind_some hc;obtain⟨z,Z,hc⟩:=bind_some hc;obtain⟨Y,hc⟩:=mj hc;simp only[av,c8,bne_iff_ne]at Y;simp only[ak]at hc;subst hc;exact aph I (s9 h1) (s9 h2) M U Z Y.2 Y.1 J
    .cases hc
   .cases hc
  .cases hc
 .cases hc
theorem mo {p:Nat->Bool}:∀{l:List AV},AV.allL p l=ai->∀x∈l,AV.all p x=ai
 |[],_,x,I=>by cases I
 |y::l,h,x,I=>by
  simp only[AV.allL,av]at h;rcases bp.1 I with rfl|I
  .exact h.1
  .exact mo h.2 x I
theorem cV.restrict {φ φ':PM} {O O':Nat->Prop} {w:World} {p:Nat->Bool} (hs:∀i k,p i=ai->φ i=af k->φ' i=af k) (M:∀k,O' k->O k) {x:AV} {v:Value} (h:cV φ O w x v):x.all p=ai->cV φ' O' w x v:=by
 induction h with
 |f h=>intro _;exact .f (h.ext (O':=O') (LX.refl O w) λk _ hk=>M k hk)
 |ptr h=>intro hp;exact .ptr (hs _ _ hp h)
 |sl h hn hc=>intro hp;exact .sl (hs _ _ hp h) hn hc
 |row h hn hc hsh=>intro hp;exact .row (hs _ _ hp h) hn hc hsh
 |emp=>intro _;exact .emp
 |anyb=>intro _;exact .anyb
 |mp h=>intro hp;exact .mp (hs _ _ hp h)
 |agg hl hcl hr J=>intro hp;exact .agg hl hcl λj x v I hv=>J j x v I hv (mo hp x (bc I))
 |tup hl hr J=>intro hp;exact .tup hl λj x v I hv=>J j x v I hv (mo hp x (bc I))
 |clo hl hr J=>intro hp;exact .clo hl λj x v I hv=>J j x v I hv (mo hp x (bc I))
theorem jD.restrict {φ φ':PM} {O O':Nat->Prop} {w w':World} {p:Nat->Bool} (hk:∀x v,x.all p=ai->cV φ O w x v->cV φ' O' w' x v) {b:xE} {o:Obj} (hb:b.c.all p=ai) (h:jD φ O w b o):jD φ' O' w' b o:=by
 unfold jD at h ⊢;cases hc:b.c with
 |fz l=>
  rw[hc]at h;obtain⟨arr,h1,h2,J⟩:=h;exact⟨arr,h1,h2,λj x I=>by
   obtain⟨a,v,c,d⟩:=J j x I;refine ⟨a,v,c,hk _ _ ?_ d⟩;simp only[BC.get]at I;cases hl:l[j]? with
   |none=>rw[hl]at I;cases I
   |some q=>rw[hl]at I;simp at I;subst I;rfl⟩
 |mx l=>
  rw[hc]at h hb;obtain⟨arr,h1,h2,J⟩:=h;exact⟨arr,h1,h2,λj x I=>by
   obtain⟨a,v,c,d⟩:=J j x I;exact⟨a,v,c,hk _ _ (mo hb x (bc I)) d⟩⟩
 |mp es=>
  rw[hc]at h hb;obtain⟨e,c,h1,h2,J⟩:=h;exact⟨e,c,h1,h2,λj x I=>by
   obtain⟨m,a,b⟩:=J j x I;exact⟨m,a,hk _ _ (mo hb x.2 (dv.2 ⟨x,bc I,rfl⟩)) b⟩⟩
 |it s q=>rw[hc]at h;exact h
def aed (m:Nat):ι:=(bx (m+1)).filter λi=>aN m i
theorem NH {m i:Nat}:i∈aed m↔aN m i=ai:=by
 unfold aed;rw[xJ,lD];constructor
 .exact λh=>h.2
 .intro h;refine ⟨?_,h⟩;have h1:=Nat.ge_two_pow_of_testBit h;have h2:=Nat.lt_two_pow_self (n:=i);omega
def kf (φ:PM) (O:Nat->Prop) (w:World):List AV->ξ->Prop
 |[],[]=>True
 |x::xs,v::vs=>cV φ O w x v/\kf φ O w xs vs
 |_,_=>False
theorem kf.length {φ:PM} {O:Nat->Prop} {w:World}:∀{args:List AV} {vs:ξ},kf φ O w args vs->vs.length=args.length
 |[],[],_=>rfl
 |[],_::_,h=>h.elim
 |_::_,[],h=>h.elim
 |_::_,_::_,h=>by simp[kf.length h.2]
theorem kf.mono {φ φ':PM} {O O':Nat->Prop} {w w':World} {p:Nat->Bool} (hk:∀x v,x.all p=ai->cV φ O w x v->cV φ' O' w' x v):∀{args:List AV} {vs:ξ},AV.allL p args=ai->kf φ O w args vs->kf φ' O' w' args vs
 |[],[],_,_=>trivial
 |[],_::_,_,h=>h.elim
 |_::_,[],_,h=>h.elim
 |x::xs,_::_,hp,h=>by
  simp only[AV.allL,av]at hp;exact⟨hk _ _ hp.1 h.1,kf.mono hk hp.2 h.2⟩
theorem kf.append {φ:PM} {O:Nat->Prop} {w:World}:∀{xs I:List AV} {vs us:ξ},kf φ O w xs vs->kf φ O w I us->kf φ O w (xs++I) (vs++us)
 |[],_,[],_,_,h=>h
 |[],_,_::_,_,h,_=>h.elim
 |_::_,_,[],_,h,_=>h.elim
 |_::_,_,_::_,_,h,h'=>⟨h.1,kf.append h.2 h'⟩
theorem kf.of {φ:PM} {O:Nat->Prop} {w:World}:∀{xs:List AV} {vs:ξ},vs.length=xs.length->(∀(j:Nat) x v,xs[j]? =af x->vs[j]? =af v->cV φ O w x v)->kf φ O w xs vs
 |[],[],_,_=>trivial
 |[],_::_,h,_=>by simp at h
 |_::_,[],h,_=>by simp at h
 |x::xs,v::vs,hl,h=>⟨h 0 x v rfl rfl,kf.of (by simpa using hl) λj x v I hv=>h (j+1) x v (by simpa using I) (by simpa using hv)⟩
def EL (P:Program) (f:FuncId):Prop:=∃fn,P.funcs[f]? =af fn∧fn.body.isNone=aj∧(fn.name== "runtime.NumGoroutine")=aj
theorem Qb {φ:PM} {E:Nat->Prop} {h':HF} {w:World} {a:Act} {e:AB} {o:Oper} (hp:Xr φ E h' w a e o):∀(xs:List Operand) (I:List AV),(∀x∈xs,x∈o.op.operands)->Yp e xs=af I->kf φ (tot E φ h') w I (xs.map a.eval)
 |[],I,_,h=>by simp only[Yp,ak]at h;subst h;trivial
 |x::xs,I,hm,h=>by
  simp only[Yp]at h;split at h
  .rename_i y J;split at h
   .rename_i ys' hys;simp only[ak]at h;subst h;exact⟨hp x y (hm x (dw ..)) J,Qb hp xs ys' (λx M=>hm x (cM _ M)) hys⟩
   .cases h
  .cases h
theorem xO {P:Program} {f:FuncId} (hc:EL P f) (args:Array Value) (w:World):(callFunc f args).run P w= .ok (.enter f args) w:=by
 obtain⟨fn,h1,h2,M⟩:=hc;have I:fn.name≠ "runtime.NumGoroutine" :=by simpa using M
 have J:fn.body≠ah:=by intro h;rw[h]at h2;cases h2
 simp[callFunc,program,nY,h1,J,I]
theorem Yi:∀(fs:List FPm) (i:Nat),ZK fs i=fs[i]?
 |[],i=>by simp[ZK]
 |f::fs,0=>rfl
 |f::fs,i+1=>by simp[ZK,Yi fs i]
theorem yw {a b:Nat} (h:Ei a b=ai) (i:Nat) (I:aN a i=ai):aN b i=aj:=by
 unfold Ei at h;have h0:a&&&b=0:=aw h;have:=Nat.testBit_and a b i;rw[h0,I]at this;simpa using this.symm
structure Ctx where
 n0:Nat
 φ:PM
 E:Nat->Prop
 h:HF
 w:World
def afb (P:Program) (d:Deferred):Prop:=∀w:World,∃J cap f args,d.target= .fn J cap/\(invoke d.target d.args).run P w= .ok (.enter f args) w/\
 CallsD P f args .returning w λe I w'=>(∃v,e= .returned v)/\I= .returning/\w'=w
structure Cfg (P:Program) (C:Ctx) (nt:Nat) (s:IS) (a:Act) (w:World):Prop where
 ex:∃φ,jm C.φ φ C.h s.h.get C.w w/\rH φ C.E s.h.get w/\OJ φ (tot C.E φ s.h.get) w s.e.get a/\(∀i k,φ i=af k->i<s.nx)/\∀i k,φ i=af k->C.φ i=af k\/C.n0<=i
 low:C.n0<=s.nx
 inert:∀d∈a.defers,afb P d
 size:a.tmps.size=nt
theorem Cfg.bool {P:Program} {C:Ctx} {nt:Nat} {s:IS} {a:Act} {w:World} (c:Cfg P C nt s a w) {t:Nat} {b:Bool} (ht:s.e.get t=af (.f (.raw (.bool b)))):a.eval (.tmp t)= .bool b:=by
 obtain⟨φ,_,_,en,_,_⟩:=c.ex;exact fM (en t _ ht)
theorem C3 {P:Program} {c:Code} {Q:Exit->Act->World->Prop} (I:Nat->Act->World->Prop) (round:∀n a w,I n a w->c.wp P (Exit.then (λa' w'=>∃m,m<n/\I m a' w') Q) a w) {n:Nat} {a:Act} {w:World} (h0:I n a w):(Code.loop c).wp P Q a w:=by
 have least:∀(n:Nat) (a:Act) (w:World),I n a w->∃m,I m a w/\∀k,I k a w->m<=k:=by
  intro n;induction n using Nat.strongRecOn with
  |_ n U=>
   intro a w hn;by_cases J:∃k,k<n/\I k a w
   .obtain⟨k,hk,M⟩:=J;exact U k hk a w M
   .exact⟨n,hn,λk hk=>Nat.le_of_not_lt λhlt=>J ⟨k,hlt,hk⟩⟩
 have pick:∀a w,∃m,(∃n,I n a w)->I m a w/\∀k,I k a w->m<=k:=λa w=>by
  by_cases J:∃n,I n a w
  .obtain⟨n,hn⟩:=J;obtain⟨m,hm⟩:=least n a w hn;exact⟨m,λ_=>hm⟩
  .exact⟨0,λh=>cX h J⟩
 let μ:Act->World->Nat:=λa w=>Classical.choose (pick a w)
 have hμ:∀a w,(∃n,I n a w)->I (μ a w) a w/\∀k,I k a w->μ a w<=k:=λa w=>Classical.choose_spec (pick a w)
 refine wp_loop (λa w=>∃n,I n a w) μ ⟨n,h0⟩ λa w M=>?_
 refine wp_mono (round (μ a w) a w (hμ a w M).1) λe a' w' he=>?_
 cases e with
 |normal=>
  obtain⟨m,hm,hIm⟩:=he;exact⟨⟨m,hIm⟩,Nat.lt_of_le_of_lt ((hμ a' w' ⟨m,hIm⟩).2 m hIm) hm⟩
 |exit id=>exact he
 |goto l=>exact he
 |ret=>exact he
 |panic c=>exact he
 |outgrown=>exact he
def Ex.to:Ex->Exit
 |.normal=>.normal
 |.exit id=>.exit id
 |.ret=>.ret
def LV (P:Program) (inert:FuncId->Bool):Prop:=∀f,inert f=ai->EL P f/\∀(args:Array Value) (w:World),CallsD P f args .returning w λe I w'=>(∃v,e= .returned v)/\I= .returning/\w'=w
theorem Tg {P:Program} {C:Ctx} {nt:Nat} {inert:FuncId->Bool} (hin:LV P inert) {s:IS} {a:Act} {w:World} (c:Cfg P C nt s a w) {id:Nat} {ops:Array Oper} {dr:Bool} {f:FuncId} {caps:List Operand} {t:Nat} (hd:(ops.toList.all λo=>match o.dst with|some d=>decide (d<nt)|none=>ai)=ai) (hdf:Ej ops dr=af (f,caps,t))
 {l:List AV} (hl:Yp s.e caps=af l) (hi:inert f=ai) {Q:Exit->Act->World->Prop} (hQ:∀a w,Cfg P C nt ⟨s.e.put (af t) (.clo f l),s.h,s.nx,s.wr⟩ a w->Q .normal a w):(Code.region id ops dr).wp P Q a w:=by
 unfold Ej at hdf;split at hdf
 .rename_i p q hops;split at hdf
  .rename_i f' first caps' t1 cl hpo hpg hpd hqo hqg hqd
   split at hdf
   .rename_i t2 hcl hca;split at hdf
    .rename_i hcond;simp only[av]at hcond;obtain⟨h1,h2⟩:=hcond;have h1:=aw h1;have h2:first=#[]:=by simpa using h2
     simp only[ak,aE]at hdf;obtain⟨rfl,rfl,rfl⟩:=hdf;subst h1;subst h2;have hops':ops=#[p,q]:=by rw[<- Array.toArray_toList (xs:=ops),hops]
     obtain⟨φ,m,r,en,dm⟩:=c.ex;obtain⟨hcb,hincalls⟩:=hin f' hi;have htn:t1<nt:=by
      have:=gD.1 hd p (by rw[hops];simp);rw[hpd]at this;simpa using this
     have hrelL:kf φ (tot C.E φ s.h.get) w l (caps'.toList.map a.eval):=by
      have hp':Xr φ C.E s.h.get w a s.e p:=λx y U Y=>ug r (xs:=p.op.operands) (λt _ y Y=>en t y Y) U Y
      exact Qb hp' caps'.toList l (λx U=>by rw[hpo];simpa[Op.operands] using U) hl
     have hcm:caps'.map a.eval=(caps'.toList.map a.eval).toArray:=by apply L8;simp
     let J:Value:=.func (.func f') #[] (caps'.map a.eval)
     have hrel:cV φ (tot C.E φ s.h.get) w (.clo f' l) J:=by
      simp only[J];rw[hcm];refine .clo (hrelL.length) ?_;have:∀(xs:List AV) (vs:ξ),kf φ (tot C.E φ s.h.get) w xs vs->∀(j:Nat) x v,xs[j]? =af x->vs[j]? =af v->cV φ (tot C.E φ s.h.get) w x v:=by
       intro xs;induction xs with
       |nil=>intro vs _ j x v U;simp at U
       |cons y xs ih=>
        intro vs h j x v U hv;cases vs with
        |nil=>exact h.elim
        |cons u vs=>
         cases j with
         |zero=>simp at U hv;subst U;subst hv;exact h.1
         |succ j=>exact ih vs h.2 j x v (by simpa using U) (by simpa using hv)
      exact this _ _ hrelL
     refine wp_region ?_;have Z:bx ops.size=[0,1]:=by rw[hops'];rfl
     rw[Z];have e0:ops[0]? =af p:=by rw[hops'];rfl
     have e1:ops[1]? =af q:=by rw[hops'];rfl
     rw[wpOps_cons];have hexec1:(execOp a.eval p).run P w= .ok (.value J) w:=by
      unfold execOp;rw[hpo];simp[Instr.makeFunc,J]
     have w1:iU p (yielded ops a.tmps)=ai:=by unfold iU;rw[hpg]
     unfold wpOp;simp only[e0,w1,bI];left;unfold In;rw[hexec1];show wpOps P ops Q [1] (a.put p.dst J) w;rw[wpOps_cons];unfold wpOp;have w2:iU q (yielded ops (a.put p.dst J).tmps)=ai:=by unfold iU;rw[hqg]
     simp only[e1,w2,bI];left;have heval:(a.put p.dst J).eval (.tmp t1)=J:=by
      show (a.put p.dst J).tmps.getD t1 undef=J;rw[Jc (by intro d I;rw[hpd]at I;cases I;rw[c.size];exact htn),aD hpd]
     have hargs:cl.args=#[]:=by rw[<- Array.toArray_toList (xs:=cl.args),hca]
     have hexec2:(execOp (a.put p.dst J).eval q).run P w= .ok (.defer {target:=.fn (.func f') (caps'.map a.eval),args:=#[]}) w:=by
      unfold execOp;rw[hqo];simp[resolve,hcl,heval,J,Deferred.ofValue,hargs]
     unfold In;rw[hexec2];show wpOps P ops Q [] _ w;refine hQ _ _ ⟨⟨φ,m,r,?_,dm⟩,c.low,?_,?_⟩
     .intro u x U;rw[hqd];show cV φ _ w x ((a.put p.dst J).tmps.getD u undef);rw[Jc (by intro d I;rw[hpd]at I;cases I;rw[c.size];exact htn)];have M:(s.e.put (af t1) (.clo f' l)).get u=af x:=U;rw[<- acb]at M;unfold Dh at M;rw[hpd];by_cases hu:af t1=af u
      .rw[aD hu]at M ⊢;cases M;exact hrel
      .rw[aA hu]at M ⊢;exact en u x M
     .intro d I;rw[hqd]at I;have hd'':d={target:=.fn (.func f') (caps'.map a.eval),args:=#[]}\/d∈(a.put p.dst J).defers:=by
       simpa[OR] using I
      rcases hd'' with rfl|hd''
      .intro w0;refine ⟨_,_,f',caps'.map a.eval,rfl,?_,hincalls _ w0⟩;simp[invoke,xO hcb]
      .rw[Jd]at hd'';exact c.inert d hd''
     .rw[hqd];show (a.put p.dst J).tmps.size=nt;rw[RD];exact c.size
    .cases hdf
   .cases hdf
  .cases hdf
 .cases hdf
def Y9 (tmps:Array Value):ResultVar->Sem Value
 |.tmp t=>pure (tmps.getD t undef)
 |.cell a t=>do
  let I<-asAddr (tmps.getD a undef)
  loadVar t I
theorem Vh (fn:Func) (tmps:Array Value):results fn tmps=(do let vs<-fn.results.mapM (Y9 tmps);pure (if h:vs.size=1 then vs[0] else .tuple vs)):=by
 unfold results;congr 2
theorem Ds {P:Program} {fn:Func} {tmps:Array Value} {R:Ending->World->Prop} {w:World} {v:Value} (hr:(results fn tmps).run P w= .ok v w) (I:R (.returned v) w):∀(ds:List Deferred),(∀d∈ds,afb P d)->Leaves P fn tmps R ds .returning w
 |[],_=>⟨v,hr,I⟩
 |d::ds,h=>by
  obtain⟨M,cap,f,args,h1,h2,J⟩:=h d (dw ..) w;refine ⟨by simp,M,cap,f,args,h1,h2,J.mono ?_⟩;rintro e Y w' ⟨⟨U,rfl⟩,rfl,rfl⟩;exact Ds hr I ds λd hd=>h d (cM _ hd)
theorem kf.get {φ:PM} {O:Nat->Prop} {w:World}:∀{xs:List AV} {vs:ξ},kf φ O w xs vs->∀(j:Nat) x,xs[j]? =af x->∃v,vs[j]? =af v/\cV φ O w x v
 |[],_,_,j,x,I=>by simp at I
 |_::_,[],h,_,_,_=>h.elim
 |y::xs,u::vs,h,j,x,I=>by
  cases j with
  |zero=>simp at I;subst I;exact⟨u,rfl,h.1⟩
  |succ j=>exact kf.get h.2 j x (by simpa using I)
theorem Ua {P:Program} {f:FuncId} {I:SF} (h:At P f=af I):∃fn c,P.funcs[f]? =af fn∧fn.body=af c∧(fn.name== "runtime.NumGoroutine")=aj∧I.code=cC P fn.ntmps c∧v9 P fn.results.toList=af I.res∧I.nt=fn.ntmps:=by
 unfold At at h;split at h
 .rename_i fn hf;split at h
  .cases h
  .rename_i hn;split at h
   .rename_i c r hb hr;simp only[ak]at h;subst h;exact⟨fn,c,hf,hb,by simpa using hn,rfl,hr,rfl⟩
   .cases h
 .cases h
theorem ahw {a b:Value} (h:ala a b=ai):a=b:=by
 unfold ala at h;split at h
 .simp at h;rw[h]
 .simp at h;rw[h.1,h.2]
 .rw[Ax.1 h]
 .simp only[av]at h;rw[aw h.1,aw h.2]
 .rfl
 .rename_i x y;simp only[av,Array.isEmpty_iff]at h;rw[h.1,h.2]
 .cases h
def PT.mapO {α β:Type} (g:α->Option β):PT α->PT β
 |.leaf=>.leaf
 |.node v l r=>.node (v.bind g) (PT.mapO g l) (PT.mapO g r)
theorem PT.get_mapO {α β:Type} (g:α->Option β):∀(t:PT α) (i:Nat),(PT.mapO g t).get i=(t.get i).bind g
 |.leaf,i=>by simp[PT.mapO,PT.get]
 |.node v l r,0=>by simp[PT.mapO,PT.get]
 |.node v l r,j+1=>by
  simp only[PT.mapO,PT.get];split
  .exact PT.get_mapO g l _
  .exact PT.get_mapO g r _
theorem PT.get_updI {α:Type} (f:Nat->α->α):∀(t:PT α) (a b i:Nat),(PT.updI f a b t).get i=(t.get i).map (f (a*i+b))
 |.leaf,_,_,i=>by simp[PT.updI,PT.get]
 |.node v l r,a,b,0=>by cases v<;>simp[PT.updI,PT.get]
 |.node v l r,a,b,j+1=>by
  simp only[PT.updI,PT.get];split
  .rename_i hj;rw[PT.get_updI f l];have:2*a*(j/2)+(a+b)=a*(j+1)+b:=by
    have h2:j=2*(j/2):=by have:=aw hj;omega
    have I:2*a*(j/2)=a*j:=by rw[Io 2 a,Nat.mul_assoc,<-h2]
    rw[I,Nat.mul_add];omega
   rw[this]
  .rename_i hj;rw[PT.get_updI f r];have:2*a*(j/2)+(2*a+b)=a*(j+1)+b:=by
    have h1:j%2≠0:=λh=>hj (by rw[h];rfl)
    have h2:j=2*(j/2)+1:=by omega
    have I:2*a*(j/2)=a*(2*(j/2)):=by rw[Io 2 a,Nat.mul_assoc]
    have J:a*(j+1)=a*(2*(j/2))+2*a:=by
     conv=>lhs;rw[h2]
     rw[Nat.mul_add,Nat.mul_add];omega
    rw[I,J];omega
   rw[this]
theorem PT.bound {α:Type}:∀(t:PT α),∃B,∀i,B<=i->t.get i=ah
 |.leaf=>⟨0,λi _=>rfl⟩
 |.node v l r=>by
  obtain⟨a,I⟩:=PT.bound l;obtain⟨b,hb⟩:=PT.bound r;refine ⟨2*(a+b)+3,λi hi=>?_⟩;cases i with
  |zero=>omega
  |succ j=>
   simp only[PT.get];split
   .exact I _ (by omega)
   .exact hb _ (by omega)
def PT.ofF {α:Type} (f:Nat->Option α):Nat->PT α
 |0=>.leaf
 |n+1=>(PT.ofF f n).set n (f n)
theorem PT.get_ofF {α:Type} (f:Nat->Option α):∀(n i:Nat),(PT.ofF f n).get i=if i<n then f i else ah
 |0,i=>by simp[PT.ofF,PT.get]
 |n+1,i=>by
  rw[PT.ofF,PT.get_set,PT.get_ofF f n];by_cases h:i=n
  .subst h;simp
  .rw[aA h];by_cases h2:i<n
   .rw[aD h2,aD (by omega)]
   .rw[aA h2,aA (by omega)]
def nm (i:Nat):Nat:=2*i
def ow (n:Nat):Nat:=n/2
theorem eo (i:Nat):ow (nm i)=i:=by unfold ow nm;omega
theorem li {i j:Nat} (h:nm i=nm j):i=j:=by unfold nm at h;omega
def fK (p:Bool) (id sz n:Nat):AV:=if p&&n==0 then .emp else .row (nm id) sz n
mutual
def cB (h:bl):TV->Option AV
 |.f T v=>af (.f (gV T v))
 |.fel T xs j _ off=>af (.f (.ptr (xs.flatMap (bU T)) (j.toNat*T.size+off)))
 |.pel id sz j off=>af (.ptr (nm id) (j.toNat*sz+off))
 |.ptr id off=>af (.ptr (nm id) off)
 |.csl id sz n=>af (.row (nm id) sz n)
 |.row id=>match eL h id with|some (p,sz,n)=>af (fK p id sz n)|none=>ah
 |.rtl id j=>match eL h id with|some (_,sz,n)=>af (.sl (nm id) (j.toNat*sz) (n-j.toNat))|none=>ah
 |.emp=>af .emp
 |.nil=>af (.f (.raw (.slice ah 0 0)))
 |.mp id=>af (.mp (nm id))
 |.agg l=>match cU h l with|some l'=>af (.agg l')|none=>ah
 |.tup l=>match cU h l with|some l'=>af (.tup l')|none=>ah
 |.clo g l=>match cU h l with|some l'=>af (.clo g l')|none=>ah
 |.undef=>af (.f (.raw undef))
 |.np=>af (.f (.raw (.pointer ah)))
 |.anyb=>af .anyb
def cU (h:bl):List TV->Option (List AV)
 |[]=>af []
 |x::r=>match cB h x with
  |some y=>(match cU h r with|some l=>af (y::l)|none=>ah)
  |none=>ah
end
def qm:(K:Ty)->K.den->Value
 |.int k,n=>.int k n
 |.str,s=>.string ⟨kR s⟩
 |_,_=>undef
def mpC:(K V:Ty)->List (K.den×V.den)->BC
 |.st (.pr .str (.int .i64)),.un,es=>.it ⟨kR (Rb es)⟩ (Pr es)
 |K,V,es=>.mp (es.map λp=>(qm K p.1,.f (gV V p.2)))
theorem Cu {K V:Ty} {es:List (K.den×V.den)} (h:Vt K=ai):mpC K V es= .mp (es.map λp=>(qm K p.1,.f (gV V p.2))):=by
 unfold mpC;split
 .cases h
 .rfl
theorem aks {K V:Ty} {es:List (K.den×V.den)} {s:ζ} {p:Nat} (h:itE K V es=af (s,p)):mpC K V es= .it ⟨kR s⟩ p:=by
 unfold itE at h;split at h
 .cases h;rfl
 .cases h
def kN (h:bl):iE->Option xE
 |.rows ty p T xs=>if p&&xs.length==0 then ah else af ⟨ty,.fz (xs.flatMap (bU T))⟩
 |.cells ty l=>match cU h l with|some I=>af ⟨ty,.mx I⟩|none=>ah
 |.dead _ _ _=>ah
 |.mp K V es=>af ⟨0,mpC K V es⟩
def gi (e:iZ) (h:bl):EF:=λt=>(e.get t).bind (cB h)
def bF (h:bl):HF:=λn=>if n%2=0 then (h.get (n/2)).bind (kN h) else ah
theorem bN (h:bl) (i:Nat):bF h (nm i)=(h.get i).bind (kN h):=by
 unfold bF nm;rw[aD (by omega),show 2*i/2=i from by omega]
theorem jH {h:bl} {n:Nat} {b:xE} (hb:bF h n=af b):∃i c,n=nm i/\h.get i=af c/\kN h c=af b:=by
 unfold bF at hb;split at hb
 .cases hc:h.get (n/2) with
  |none=>rw[hc]at hb;cases hb
  |some c=>rw[hc]at hb;exact⟨n/2,c,by unfold nm;omega,hc,hb⟩
 .cases hb
def Km (e:iZ) (h:bl):AB:=PT.mapO (cB h) e
theorem vW (e:iZ) (h:bl):(Km e h).get=gi e h:=by funext t;exact PT.get_mapO _ _ _
theorem jV (h:bl):∃H:oH,H.get=bF h:=by
 obtain⟨B,I⟩:=PT.bound h;refine ⟨PT.ofF (bF h) (2*B),?_⟩;funext n;rw[PT.get_ofF];split
 .rfl
 .unfold bF;split
  .rw[I _ (by omega)];rfl
  .rfl
theorem db {h:bl} {x:TV} {r:List TV} {l:List AV} (he:cU h (x::r)=af l):∃y I,l=y::I/\cB h x=af y/\cU h r=af I:=by
 simp only[cU]at he;split at he
 .rename_i y J;split at he
  .rename_i I hl;simp only[ak]at he;exact⟨y,I,he.symm,J,hl⟩
  .cases he
 .cases he
theorem px {h:bl} {x:TV} {r:List TV} {y:AV} {I:List AV} (h1:cB h x=af y) (h2:cU h r=af I):cU h (x::r)=af (y::I):=by
 simp only[cU,h1,h2]
theorem il {h:bl}:∀{l:List TV} {I:List AV},cU h l=af I->I.length=l.length
 |[],I,he=>by simp only[cU,ak]at he;subst he;rfl
 |x::r,I,he=>by
  obtain⟨y,l2,rfl,_,h2⟩:=db he;simp[il h2]
theorem nP {h:bl}:∀{a b:List TV} {a' b':List AV},cU h a=af a'->cU h b=af b'->cU h (a++b)=af (a'++b')
 |[],b,a',b',I,hb=>by simp only[cU,ak]at I;subst I;exact hb
 |x::r,b,a',b',I,hb=>by
  obtain⟨y,l2,rfl,h1,h2⟩:=db I;exact px h1 (nP h2 hb)
theorem CG {h:bl}:∀{a b:List TV} {l:List AV},cU h (a++b)=af l->∃a' b',l=a'++b'/\cU h a=af a'/\cU h b=af b'
 |[],b,l,he=>⟨[],l,rfl,rfl,he⟩
 |x::r,b,l,he=>by
  obtain⟨y,l2,rfl,h1,h2⟩:=db he;obtain⟨a',b',rfl,J,I⟩:=CG h2;exact⟨y::a',b',rfl,px h1 J,I⟩
theorem FJ {h:bl}:∀{l:List TV} {I:List AV} (n:Nat),cU h l=af I->cU h (l.take n)=af (I.take n)
 |[],I,n,he=>by simp only[cU,ak]at he;subst he;simp[cU]
 |x::r,I,n,he=>by
  obtain⟨y,l2,rfl,h1,h2⟩:=db he;cases n with
  |zero=>simp[cU]
  |succ n=>exact px h1 (FJ n h2)
theorem FL {h:bl}:∀{l:List TV} {I:List AV} (n:Nat),cU h l=af I->cU h (l.drop n)=af (I.drop n)
 |[],I,n,he=>by simp only[cU,ak]at he;subst he;simp[cU]
 |x::r,I,n,he=>by
  obtain⟨y,l2,rfl,h1,h2⟩:=db he;cases n with
  |zero=>exact he
  |succ n=>simpa using FL n h2
theorem s7 {h:bl} {l vs:List TV} {I vs':List AV} (off:Nat) (h1:cU h l=af I) (h2:cU h vs=af vs'):cU h (splice l off vs)=af (splice I off vs'):=by
 unfold splice;rw[il h2];exact nP (nP (FJ _ h1) h2) (FL _ h1)
theorem mn {h:bl}:∀{l:List TV} {I:List AV},cU h l=af I->∀(j:Nat) x,l[j]? =af x->∃y,I[j]? =af y/\cB h x=af y
 |[],I,he,j,x,M=>by simp at M
 |x::r,I,he,j,z,J=>by
  obtain⟨y,l2,rfl,h1,h2⟩:=db he;cases j with
  |zero=>simp at J;subst J;exact⟨y,rfl,h1⟩
  |succ j=>simpa using mn h2 j z (by simpa using J)
mutual
theorem qG (h:bl):∀(u:TV),Ml h u=ai->∃y,cB h u=af y
 |.f _ _,_=>⟨_,rfl⟩
 |.fel _ _ _ _ _,_=>⟨_,rfl⟩
 |.pel _ _ _ _,_=>⟨_,rfl⟩
 |.ptr _ _,_=>⟨_,rfl⟩
 |.csl _ _ _,_=>⟨_,rfl⟩
 |.row id,he=>by
  simp only[Ml]at he;cases hr:eL h id with
  |none=>rw[hr]at he;cases he
  |some r=>obtain⟨p,sz,n⟩:=r;exact⟨_,by simp only[cB,hr];rfl⟩
 |.rtl id jj,he=>by
  simp only[Ml]at he;cases hr:eL h id with
  |none=>rw[hr]at he;cases he
  |some r=>obtain⟨p,sz,n⟩:=r;exact⟨_,by simp only[cB,hr];rfl⟩
 |.emp,_=>⟨_,rfl⟩
 |.nil,_=>⟨_,rfl⟩
 |.mp _,_=>⟨_,rfl⟩
 |.agg l,he=>by obtain⟨y,hy⟩:=fI h l he;exact⟨_,by simp only[cB,hy];rfl⟩
 |.tup l,he=>by obtain⟨y,hy⟩:=fI h l he;exact⟨_,by simp only[cB,hy];rfl⟩
 |.clo g l,he=>by obtain⟨y,hy⟩:=fI h l he;exact⟨_,by simp only[cB,hy];rfl⟩
 |.undef,_=>⟨_,rfl⟩
 |.np,_=>⟨_,rfl⟩
 |.anyb,_=>⟨_,rfl⟩
theorem fI (h:bl):∀(l:List TV),lh h l=ai->∃l',cU h l=af l'
 |[],_=>⟨[],rfl⟩
 |x::r,he=>by
  simp only[lh,av]at he;obtain⟨y,hy⟩:=qG h x he.1;obtain⟨l',hl⟩:=fI h r he.2;exact⟨_,px hy hl⟩
end
def cA (h h':bl):Prop:=∀id r,eL h id=af r->eL h' id=af r
mutual
theorem gO {h h':bl} (hk:cA h h'):∀(u:TV) (y:AV),cB h u=af y->cB h' u=af y
 |.f _ _,y,he=>he
 |.fel _ _ _ _ _,y,he=>he
 |.pel _ _ _ _,y,he=>he
 |.ptr _ _,y,he=>he
 |.csl _ _ _,y,he=>he
 |.row id,y,he=>by
  simp only[cB]at he ⊢;split at he
  .rename_i p sz n hr;rw[hk _ _ hr];exact he
  .cases he
 |.rtl id jj,y,he=>by
  simp only[cB]at he ⊢;split at he
  .rename_i p sz n hr;rw[hk _ _ hr];exact he
  .cases he
 |.emp,y,he=>he
 |.nil,y,he=>he
 |.mp _,y,he=>he
 |.agg l,y,he=>by
  simp only[cB]at he ⊢;split at he
  .rename_i l' hl;rw[ic hk l l' hl];exact he
  .cases he
 |.tup l,y,he=>by
  simp only[cB]at he ⊢;split at he
  .rename_i l' hl;rw[ic hk l l' hl];exact he
  .cases he
 |.clo g l,y,he=>by
  simp only[cB]at he ⊢;split at he
  .rename_i l' hl;rw[ic hk l l' hl];exact he
  .cases he
 |.undef,y,he=>he
 |.np,y,he=>he
 |.anyb,y,he=>he
theorem ic {h h':bl} (hk:cA h h'):∀(l:List TV) (l':List AV),cU h l=af l'->cU h' l=af l'
 |[],l',he=>he
 |x::r,l',he=>by
  obtain⟨y,l2,rfl,h1,h2⟩:=db he;exact px (gO hk x y h1) (ic hk r l2 h2)
end
mutual
theorem o6 {h h':bl} (hk:cA h h'):∀(u:TV),Ml h u=ai->Ml h' u=ai
 |.f _ _,_=>rfl
 |.fel _ _ _ _ _,_=>rfl
 |.pel _ _ _ _,_=>rfl
 |.ptr _ _,_=>rfl
 |.csl _ _ _,_=>rfl
 |.row id,he=>by
  simp only[Ml]at he ⊢;cases hr:eL h id with
  |none=>rw[hr]at he;cases he
  |some r=>rw[hk _ _ hr];rfl
 |.rtl id jj,he=>by
  simp only[Ml]at he ⊢;cases hr:eL h id with
  |none=>rw[hr]at he;cases he
  |some r=>rw[hk _ _ hr];rfl
 |.emp,_=>rfl
 |.nil,_=>rfl
 |.mp _,_=>rfl
 |.agg l,he=>jg hk l he
 |.tup l,he=>jg hk l he
 |.clo g l,he=>jg hk l he
 |.undef,_=>rfl
 |.np,_=>rfl
 |.anyb,_=>rfl
theorem jg {h h':bl} (hk:cA h h'):∀(l:List TV),lh h l=ai->lh h' l=ai
 |[],_=>rfl
 |x::r,he=>by
  simp only[lh,av]at he ⊢;exact⟨o6 hk x he.1,jg hk r he.2⟩
end
mutual
theorem FI (h:bl):∀(u:TV) (y:AV),cB h u=af y->Ml h u=ai
 |.f _ _,_,_=>rfl
 |.fel _ _ _ _ _,_,_=>rfl
 |.pel _ _ _ _,_,_=>rfl
 |.ptr _ _,_,_=>rfl
 |.csl _ _ _,_,_=>rfl
 |.row id,y,he=>by
  simp only[Ml,cB]at he ⊢;cases hr:eL h id with
  |none=>rw[hr]at he;cases he
  |some r=>rfl
 |.rtl id jj,y,he=>by
  simp only[Ml,cB]at he ⊢;cases hr:eL h id with
  |none=>rw[hr]at he;cases he
  |some r=>rfl
 |.emp,_,_=>rfl
 |.nil,_,_=>rfl
 |.mp _,_,_=>rfl
 |.agg l,y,he=>by
  simp only[cB]at he;split at he
  .rename_i l' hl;exact kX h l l' hl
  .cases he
 |.tup l,y,he=>by
  simp only[cB]at he;split at he
  .rename_i l' hl;exact kX h l l' hl
  .cases he
 |.clo g l,y,he=>by
  simp only[cB]at he;split at he
  .rename_i l' hl;exact kX h l l' hl
  .cases he
 |.undef,_,_=>rfl
 |.np,_,_=>rfl
 |.anyb,_,_=>rfl
theorem kX (h:bl):∀(l:List TV) (l':List AV),cU h l=af l'->lh h l=ai
 |[],_,_=>rfl
 |x::r,l',he=>by
  obtain⟨y,l2,rfl,h1,h2⟩:=db he;simp only[lh,av];exact⟨FI h x y h1,kX h r l2 h2⟩
end
mutual
theorem S0 (h h':bl):∀(u:TV),uP u=ai->cB h u=cB h' u
 |.f _ _,_=>rfl
 |.fel _ _ _ _ _,_=>rfl
 |.pel _ _ _ _,_=>rfl
 |.ptr _ _,_=>rfl
 |.csl _ _ _,_=>rfl
 |.row id,he=>by cases he
 |.emp,_=>rfl
 |.nil,_=>rfl
 |.mp _,_=>rfl
 |.agg l,he=>by simp only[cB];rw[FK h h' l he]
 |.tup l,he=>by simp only[cB];rw[FK h h' l he]
 |.clo g l,he=>by cases he
 |.undef,_=>rfl
 |.np,_=>rfl
 |.anyb,_=>rfl
theorem FK (h h':bl):∀(l:List TV),qW l=ai->cU h l=cU h' l
 |[],_=>rfl
 |x::r,he=>by
  simp only[qW,av]at he;simp only[cU];rw[S0 h h' x he.1,FK h h' r he.2]
end
theorem Ps {h:bl} {u:TV} {y:AV} (he:cB h u=af y) (hc:u.isC=ai):y.isCell=ai:=by
 cases u with
 |f T v=>cases T<;>simp only[cB,ak]at he<;>subst he<;>first|rfl|(simp [TV.isC,Ty.one]at hc)
 |fel T xs j hj off=>simp only[cB,ak]at he;subst he;rfl
 |pel id sz j off=>simp only[cB,ak]at he;subst he;rfl
 |ptr id off=>simp only[cB,ak]at he;subst he;rfl
 |csl id off z=>simp only[cB,ak]at he;subst he;rfl
 |row id=>
  simp only[cB]at he;split at he
  .simp only[ak]at he;subst he;unfold fK;split<;>rfl
  .cases he
 |rtl id I=>cases hc
 |emp=>simp only[cB,ak]at he;subst he;rfl
 |nil=>simp only[cB,ak]at he;subst he;rfl
 |mp id=>simp only[cB,ak]at he;subst he;rfl
 |agg l=>cases hc
 |tup l=>cases hc
 |clo g l=>
  simp only[cB]at he;split at he
  .simp only[ak]at he;subst he;rfl
  .cases he
 |undef=>cases hc
 |np=>simp only[cB,ak]at he;subst he;rfl
 |anyb=>cases hc
theorem sO {h:bl}:∀{l:List TV} {I:List AV},cU h l=af I->kJ l=ai->gU I=ai
 |[],I,he,_=>by simp only[cU,ak]at he;subst he;rfl
 |x::r,I,he,hc=>by
  obtain⟨y,l2,rfl,h1,h2⟩:=db he;simp only[kJ,av]at hc;simp only[gU,av];exact⟨Ps h1 hc.1,sO h2 hc.2⟩
def Le (x y:AV):Prop:=∀(φ:PM) (O:Nat->Prop) (w:World) (v:Value),cV φ O w x v->cV φ O w y v
theorem Le.refl (x:AV):Le x x:=λ_ _ _ _ h=>h
def l_ (H H':HF) (x y:AV):Prop:=∀(φ:PM) (E:Nat->Prop) (w:World) (v:Value),rH φ E H w->cV φ (tot E φ H) w x v->cV φ (tot E φ H') w y v
def wa (H H':HF):Prop:=∀i b,H' i=af b->∃b0,H i=af b0
theorem wa.refl (H:HF):wa H H:=λ_ b h=>⟨b,h⟩
theorem wa.own {H H':HF} (d:wa H H') {φ:PM} {k:Nat} (h:own φ H' k):own φ H k:=by
 obtain⟨i,b,h1,h2⟩:=h;obtain⟨b0,I⟩:=d i b h1;exact⟨i,b0,I,h2⟩
theorem wa.tot {H H':HF} (d:wa H H') {E:Nat->Prop} {φ:PM} {k:Nat} (h:tot E φ H' k):tot E φ H k:=h.imp id d.own
theorem cV.dom {H H':HF} (d:wa H H') {φ:PM} {E:Nat->Prop} {w:World} {x:AV} {v:Value} (h:cV φ (tot E φ H) w x v):cV φ (tot E φ H') w x v:=
 h.ext (λ_ _ h=>h) (LX.refl _ w) λ_ _ hk=>d.tot hk
theorem nS.dom {H H':HF} (d:wa H H') {φ:PM} {E:Nat->Prop} {w:World} {x:FV} {v:Value} (h:nS (tot E φ H) w x v):nS (tot E φ H') w x v:=
 h.ext (LX.refl _ w) λ_ _ hk=>d.tot hk
theorem Le.toH {H H':HF} (d:wa H H') {x y:AV} (h:Le x y):l_ H H' x y:=λφ E w v _ hr=>(h _ _ _ _ hr).dom d
theorem l_.refl {H H':HF} (d:wa H H') (x:AV):l_ H H' x x:=(Le.refl x).toH d
def iu (H H':HF):List AV->List AV->Prop
 |[],[]=>True
 |x::xs,y::I=>l_ H H' x y/\iu H H' xs I
 |_,_=>False
theorem iu.refl {H H':HF} (d:wa H H'):∀l,iu H H' l l
 |[]=>trivial
 |x::r=>⟨l_.refl d x,iu.refl d r⟩
theorem iu.length {H H':HF}:∀{l I:List AV},iu H H' l I->I.length=l.length
 |[],[],_=>rfl
 |[],_::_,h=>h.elim
 |_::_,[],h=>h.elim
 |_::_,_::_,h=>by simp[iu.length h.2]
theorem iu.get {H H':HF}:∀{l J:List AV},iu H H' l J->∀(j:Nat) y,J[j]? =af y->∃x,l[j]? =af x/\l_ H H' x y
 |[],[],_,j,y,I=>by simp at I
 |[],_::_,h,_,_,_=>h.elim
 |_::_,[],h,_,_,_=>h.elim
 |x::xs,z::ys,h,j,y,I=>by
  cases j with
  |zero=>simp at I;subst I;exact⟨x,rfl,h.1⟩
  |succ j=>simpa using iu.get h.2 j y (by simpa using I)
theorem iu.append {H H':HF}:∀{a a' b b':List AV},iu H H' a a'->iu H H' b b'->iu H H' (a++b) (a'++b')
 |[],[],_,_,_,h=>h
 |[],_::_,_,_,h,_=>h.elim
 |_::_,[],_,_,h,_=>h.elim
 |_::_,_::_,_,_,h,h'=>⟨h.1,iu.append h.2 h'⟩
theorem iu.take {H H':HF}:∀{a a':List AV} (n:Nat),iu H H' a a'->iu H H' (a.take n) (a'.take n)
 |[],[],n,_=>by simp[iu]
 |[],_::_,_,h=>h.elim
 |_::_,[],_,h=>h.elim
 |_::_,_::_,0,_=>trivial
 |_::_,_::_,n+1,h=>⟨h.1,iu.take n h.2⟩
theorem iu.drop {H H':HF}:∀{a a':List AV} (n:Nat),iu H H' a a'->iu H H' (a.drop n) (a'.drop n)
 |[],[],n,_=>by simp[iu]
 |[],_::_,_,h=>h.elim
 |_::_,[],_,h=>h.elim
 |_::_,_::_,0,h=>h
 |_::_,_::_,n+1,h=>iu.drop n h.2
theorem iu.splice {H H':HF} {a a' b b':List AV} (off:Nat) (h1:iu H H' a a') (h2:iu H H' b b'):iu H H' (splice a off b) (splice a' off b'):=by
 unfold AI.splice;rw[h2.length];exact ((h1.take off).append h2).append (h1.drop _)
def kh (H H':HF) (b b':xE):Prop:=∀(φ:PM) (E:Nat->Prop) (w:World) (o:Obj),rH φ E H w->jD φ (tot E φ H) w b o->jD φ (tot E φ H') w b' o
theorem kh.refl {H H':HF} (d:wa H H') (b:xE):kh H H' b b:=λ_ _ _ _ _ h=>h.mono λ_ _ h=>h.dom d
theorem qe {φ:PM} {O:Nat->Prop} {w:World} {ty:TypeId} {c:BC} {o:Obj} (hc:c.isCells=ai):jD φ O w ⟨ty,c⟩ o↔∃arr,o= .cells arr ty (0,0)/\wg φ O w c arr:=by
 unfold jD;cases c<;>simp[BC.isCells]at hc<;>rfl
theorem kh.cells {H H':HF} {ty:TypeId} {c c':BC} (hc:c.isCells=ai) (I:c'.isCells=ai) (hl:iu H H' c.toMx c'.toMx) (hcell:∀x∈c'.toMx,x.isCell=ai):kh H H' ⟨ty,c⟩ ⟨ty,c'⟩:=by
 intro φ E w o hrep M;rw[qe hc]at M;rw[qe I];obtain⟨arr,h1,h2,h3⟩:=M;refine ⟨arr,h1,by rw[BC.len_toMx I,hl.length,<-BC.len_toMx hc];exact h2,λj x J=>?_⟩;rw[BC.get_toMx I]at J;refine ⟨hcell x (bc J),?_⟩;obtain⟨y,U,hle⟩:=hl.get j x J;obtain⟨_,v,Z,Y⟩:=h3 j y (by rw[BC.get_toMx hc];exact U);exact⟨v,Z,hle _ _ _ _ hrep Y⟩
theorem kh.eq {H H':HF} (d:wa H H') {ty:TypeId} {c c':BC} (hc:c.isCells=ai) (I:c'.isCells=ai) (hl:c.toMx=c'.toMx):kh H H' ⟨ty,c⟩ ⟨ty,c'⟩:=by
 intro φ E w o hrep M;rw[qe hc]at M;rw[qe I];obtain⟨arr,h1,h2,h3⟩:=M;refine ⟨arr,h1,by rw[BC.len_toMx I,<-hl,<-BC.len_toMx hc];exact h2,λj x J=>?_⟩;rw[BC.get_toMx I,<-hl,<-BC.get_toMx hc]at J;obtain⟨Z,v,Y,U⟩:=h3 j x J;exact⟨Z,v,Y,U.dom d⟩
structure LI (H H':HF):Prop where
 dom:wa H H'
 blk:∀i b b',H i=af b->H' i=af b'->kh H H' b b'
theorem LI.refl (H:HF):LI H H:=⟨wa.refl H,λi b b' h h'=>by rw[h]at h';cases h';exact kh.refl (wa.refl H) b⟩
theorem LI.rep {H H':HF} (V:LI H H') {φ:PM} {E:Nat->Prop} {w:World} (r:rH φ E H w):rH φ E H' w:=by
 refine ⟨λi j b b' k J Z Y U=>?_,λi b J=>?_,r.el,λg cells hg=>(r.gl g cells hg).dom V.dom⟩
 .obtain⟨b0,I⟩:=V.dom i b J;obtain⟨b1,M⟩:=V.dom j b' Z;exact r.inj i j b0 b1 k I M Y U
 .obtain⟨b0,I⟩:=V.dom i b J;obtain⟨k,p1,p2,ob,p3,p4⟩:=r.at_ i b0 I;exact⟨k,p1,p2,ob,p3,V.blk i b0 b I J φ E w ob r p4⟩
theorem gZ.view {P:Program} {o:Oper} {e:EF} {h:HF} {val val':AV} {rd wr wr' N:ι} {nw nw':HF} (ht:gZ P o e h ⟨val,rd,wr,nw,N⟩) (hsub:∀i∈wr,i∈wr'\/i∈rd)
 (hv:∀h':HF,(∀i∈rd,h' i=h i)->(∀i∈wr',h' i=h i)->LI (fd h' wr nw) (fd h' wr' nw')/\l_ (fd h' wr nw) (fd h' wr' nw') val val'):gZ P o e h ⟨val',rd,wr',nw',N⟩:=by
 intro φ E h' w a h1 h2 Z Y U;have J:=ht φ E h' w a h1 (λi hi=>(hsub i hi).elim (h2 i) (h1 i)) Z Y U;obtain⟨V,hle⟩:=hv h' h1 h2;refine Re ?_ J;rintro a' w' ⟨v,φ',rfl,mv,nm',I,rel⟩;exact⟨v,φ',rfl,⟨mv.sub,mv.ext,λk hk M=>mv.own_ k hk (V.dom.own M)⟩,nm',V.rep I,hle _ _ _ _ I rel⟩
theorem Le.nil:Le (.f (.raw (.slice ah 0 0))) (.f (.sl [] 0)):=by
 intro φ O w v hr;cases hr with
 |f hr=>cases hr;exact .f (.nil ah 0 (by unfold maxLen;omega))
theorem Le.emp:Le .emp (.f (.sl [] 0)):=by
 intro φ O w v hr;cases hr with
 |emp=>exact .f (.nil _ 0 (by unfold maxLen;omega))
theorem Le.nilEmp:Le (.f (.raw (.slice ah 0 0))) .emp:=by
 intro φ O w v hr;cases hr with
 |f hr=>cases hr;exact .emp
theorem Le.aggF {l:List FV}:Le (.f (.agg l)) (.agg (l.map .f)):=by
 intro φ O w v hr;cases hr with
 |f hr=>
  cases hr with
  |agg _ vs hl hcl hrr=>
   refine .agg (by simp[hl]) (λx I=>?_) λj x u I hu=>?_
   .obtain⟨y,J,rfl⟩:=dv.1 I;exact hcl y J
   .rw[ba]at I;cases hc:l[j]? with
    |none=>rw[hc]at I;cases I
    |some y=>rw[hc]at I;simp at I;subst I;exact .f (hrr j y u hc hu)
theorem act (l:List AV):Le (NF l) (.agg l):=by
 unfold NF;split
 .rename_i fs h;rw[qp h];exact Le.aggF
 .exact Le.refl _
theorem l_.aggL {H H':HF} {l:List AV} {I:List FV} (h:iu H H' l (I.map .f)) (hc:∀x∈I,x.isCell=ai):l_ H H' (.agg l) (.f (.agg I)):=by
 intro φ E w v hrep hr;cases hr with
 |@agg _ vs hl hcl hrr=>
  refine .f (.agg I vs (by rw[hl,<-h.length];simp) hc λj y u J hu=>?_);obtain⟨x,M,hle⟩:=h.get j (.f y) (by rw[ba,J];rfl);have:=hle φ E w u hrep (hrr j x u M hu);cases this with
  |f h=>exact h
theorem l_.row {H H':HF} (d:wa H H') {id sz n:Nat} {ty:TypeId} {cells:List FV} (h1:H id=af ⟨ty,.fz cells⟩) (h2:H' id=ah) (hl:cells.length=n*sz):l_ H H' (.row id sz n) (.f (.sl cells n)):=by
 intro φ E w v r hr;cases hr with
 |@row _ _ _ c k hφ hn hcap hsh=>
  obtain⟨k',U,Y,_⟩:=r.at_ id _ h1;rw[hφ]at U;cases U;obtain⟨arr,p1,p2,p3⟩:=r.cs h1 hφ rfl;have hk:k<w.heap.size:=(cJ.1 p1).1;have hlen:cells.length<=arr.size:=by simpa[BC.toMx] using p3
  have hnk:¬tot E φ H' k:=by
   rintro (Z|⟨j,b,J,M⟩)
   .exact Y Z
   .obtain⟨b0,g3⟩:=d j b J;have:=r.inj j id b0 _ k g3 h1 M hφ;subst this;rw[h2]at J;cases J
  have hget:∀(j:Nat) x,cells[j]? =af x->∃u,arr[j]? =af u/\nS (tot E φ H) w x u:=λj x I=>by
   have hj:j<cells.length:=(bn.1 I).1;have hja:j<arr.size:=by omega
   refine ⟨arr[j],by simp[hja],?_⟩;have:=p2.2.2 j (.f x) arr[j] (by simp[BC.toMx,I]) (by
    rw[cP,aD (by simpa[BC.toMx] using hj),cQ];simp[hja])
   cases this with
   |f h=>exact h
  refine .f (.sl cells n c k 0 (λj=>(arr[j]?).getD undef) hn hcap hnk hk (λx I=>?_) (λj hj=>?_) (λj x I=>?_))
  .have:=p2.2.1 (.f x) (by simp only[BC.toMx];exact dv.2 ⟨x,I,rfl⟩);exact this
  .have:j<arr.size:=by omega
   simp[ON,p1,this]
  .obtain⟨u,J,M⟩:=hget j x I;rw[J];exact M.dom d
theorem s8:∀l:List Xp,Ks l=l.flatMap xi
 |[]=>rfl
 |x::r=>by rw[Ks,s8 r];rfl
theorem Ae:∀l:List Sx,Kr l=l.flatMap yU
 |[]=>rfl
 |x::r=>by rw[Kr,Ae r];rfl
theorem Kq (e:Xp):bU N0 (OV e)=xi e:=by
 cases e with
 |mk op n name l=>simp only[N0,OV,bU,xi,Xp.op,Xp.n,Xp.name,Xp.l,s8];rfl
theorem S_ (x:N0.den):xi (em x)=bU N0 x:=by
 simp only[N0,em,bU,xi,s8];rfl
theorem Kp (e:Sx):bU Nu (OU e)=yU e:=by
 cases e with
 |mk op line name arg index expr body els=>simp only[Nu,OU,bU,yU,Sx.op,Sx.line,Sx.name,Sx.arg,Sx.index,Sx.expr,Sx.body,Sx.els,s8,Ae];rfl
theorem S9 (x:Nu.den):yU (oq x)=bU Nu x:=by
 simp only[Nu,oq,bU,yU,s8,Ae];rfl
theorem yn (e:Xp):(xi e).length=4:=by cases e;simp[xi]
theorem DU (e:Sx):(yU e).length=11:=by cases e;simp[yU,yn]
theorem bG:∀(T:Ty) (v:T.den),(bU T v).length=T.size
 |.int _,_=>rfl
 |.bool,_=>rfl
 |.str,_=>rfl
 |.sl _,_=>rfl
 |.st t,v=>bG t v
 |.pr a b,v=>by simp[bU,Ty.size,bG a,bG b]
 |.un,_=>rfl
 |.ex,v=>yn v
 |.sm,v=>DU v
theorem Kt (e:Xp):∀x∈xi e,x.isCell=ai:=by
 cases e with
 |mk op n name l=>
  intro x I;simp only[xi,bp,cF,gu]at I;rcases I with rfl|rfl|rfl|rfl<;>rfl
theorem Wj (e:Sx):∀x∈yU e,x.isCell=ai:=by
 cases e with
 |mk op line name arg index expr body els=>
  intro x I;simp only[yU,bY,bp,cF,gu]at I;rcases I with (I|I)|I
  .rcases I with rfl|rfl|rfl|rfl|rfl<;>rfl
  .exact Kt _ _ I
  .rcases I with rfl|rfl<;>rfl
theorem oE:∀(T:Ty) (v:T.den),∀x∈bU T v,x.isCell=ai
 |.int _,_,x,I=>by simp only[bU,aL]at I;subst I;rfl
 |.bool,_,x,I=>by simp only[bU,aL]at I;subst I;rfl
 |.str,_,x,I=>by simp only[bU,aL]at I;subst I;rfl
 |.sl _,_,x,I=>by simp only[bU,aL]at I;subst I;rfl
 |.st t,v,x,I=>oE t v x I
 |.pr a b,v,x,I=>by
  simp only[bU,bY]at I;exact I.elim (oE a v.1 x) (oE b v.2 x)
 |.un,_,x,I=>by simp[bU]at I
 |.ex,v,x,I=>Kt v x I
 |.sm,v,x,I=>Wj v x I
theorem DV:∀(T:Ty) (v:T.den),T.one=ai->bU T v=[gV T v]/\T.size=1
 |.int _,_,_=>⟨rfl,rfl⟩
 |.bool,_,_=>⟨rfl,rfl⟩
 |.str,_,_=>⟨rfl,rfl⟩
 |.sl _,_,_=>⟨rfl,rfl⟩
 |.st _,_,h=>by cases h
 |.pr _ _,_,h=>by cases h
 |.un,_,h=>by cases h
 |.ex,_,h=>by cases h
 |.sm,_,h=>by cases h
theorem re:∀(T:Ty) (v:T.den),T.one=aj->gV T v= .agg (bU T v)
 |.int _,_,h=>by cases h
 |.bool,_,h=>by cases h
 |.str,_,h=>by cases h
 |.sl _,_,h=>by cases h
 |.st _,_,_=>rfl
 |.pr _ _,_,_=>rfl
 |.un,_,_=>rfl
 |.ex,_,_=>rfl
 |.sm,_,_=>rfl
theorem AZ (T:Ty) (v:T.den):(AV.f (gV T v)).cs=(bU T v).map .f:=by
 cases h:T.one with
 |true=>
  rw[(DV T v h).1];cases T<;>simp only[Ty.one]at h<;>first|rfl|cases h
 |false=>rw[re T v h];rfl
theorem fR {α:Type} {f:α->List FV} {n:Nat} (hf:∀x,(f x).length=n):∀(xs:List α),(xs.flatMap f).length=xs.length*n
 |[]=>by simp
 |x::r=>by rw[fX,bm,hf,fR hf r,cf,jb];omega
theorem FG {α:Type} {f:α->List FV} {n:Nat} (hf:∀x,(f x).length=n):∀(xs:List α) (j:Nat) (x:α),xs[j]? =af x->∃r,(xs.flatMap f).drop (j*n)=f x++r
 |[],j,x,h=>by simp at h
 |y::r,j,x,h=>by
  cases j with
  |zero=>simp at h;subst h;exact⟨r.flatMap f,by simp⟩
  |succ j=>
   obtain⟨q,hq⟩:=FG hf r j x (by simpa using h);refine ⟨q,?_⟩;rw[fX,show (j+1)*n=(f y).length+j*n from by rw[hf,jb];omega,vI];simp[hq]
theorem SM {α:Type} {f:α->List FV} {n:Nat} (hf:∀x,(f x).length=n):∀(xs:List α) (j:Nat) (x z:α),xs[j]? =af x->∀(off:Nat) (vs:List FV),off+vs.length<=n->f z=AI.splice (f x) off vs->(xs.set j z).flatMap f=AI.splice (xs.flatMap f) (j*n+off) vs
 |[],j,x,z,h,_,_,_,_=>by simp at h
 |y::r,j,x,z,h,off,vs,hle,I=>by
  cases j with
  |zero=>
   simp at h;subst h;simp only[List.set_cons_zero,fX,I,Nat.zero_mul,bR];unfold AI.splice;have M:=hf y;rw[List.take_append,vI];have e1:off-(f y).length=0:=by omega
   have e2:off+vs.length-(f y).length=0:=by omega
   rw[e1,e2];simp[fY]
  |succ j=>
   have J:=SM hf r j x z (by simpa using h) off vs hle I;simp only[List.set_cons_succ,fX,J];unfold AI.splice;have M:=hf y;have e0:(j+1)*n=(f y).length+j*n:=by rw[hf,jb];omega
   rw[e0,List.take_append,vI];have e1:(f y).length+j*n+off-(f y).length=j*n+off:=by omega
   have e2:(f y).length+j*n+off+vs.length-(f y).length=j*n+off+vs.length:=by omega
   rw[e1,e2,fw (by omega:(f y).length<=(f y).length+j*n+off),sA (by omega:(f y).length<=(f y).length+j*n+off+vs.length)];simp[fY]
theorem sh (T:Ty) (xs:List T.den):∀x∈xs.flatMap (bU T),x.isCell=ai:=λx I=>by
 obtain⟨y,_,h⟩:=vF.1 I;exact oE T y x h
theorem jv {S T:Ty} {v:S.den} {x:T.den} (h:xv T v=af x):∃e:S=T,x=e▸v:=by
 unfold xv at h;split at h
 .rename_i e;simp only[ak]at h;exact⟨e,h.symm⟩
 .cases h
theorem l8 (h:bl):∀(n:Nat) (T:Ty) (v:T.den) (l:List TV),cellsOf n T v=af l->cU h l=af ((bU T v).map .f)/\kJ l=ai
 |0,_,_,_,he=>by simp[cellsOf]at he
 |n+1,.st t,v,l,he=>l8 h n t v l he
 |n+1,.pr a b,v,l,he=>by
  simp only[cellsOf]at he;split at he
  .rename_i x y J I;simp only[ak]at he;subst he;obtain⟨h1,h2⟩:=l8 h n a v.1 x J;obtain⟨M,Y⟩:=l8 h n b v.2 y I;refine ⟨by rw[bU,cE];exact nP h1 M,?_⟩;clear h1 M J I;induction x with
   |nil=>exact Y
   |cons z r U=>simp only[kJ,av,gC]at h2 ⊢;exact⟨h2.1,U h2.2⟩
  .cases he
 |n+1,.un,v,l,he=>by simp only[cellsOf,ak]at he;subst he;exact⟨rfl,rfl⟩
 |n+1,.ex,v,l,he=>by rw[bU,<-Kq];exact l8 h n N0 (OV v) l he
 |n+1,.sm,v,l,he=>by rw[bU,<-Kp];exact l8 h n Nu (OU v) l he
 |n+1,.int k,v,l,he=>by simp only[cellsOf,ak]at he;subst he;exact⟨rfl,rfl⟩
 |n+1,.bool,v,l,he=>by simp only[cellsOf,ak]at he;subst he;exact⟨rfl,rfl⟩
 |n+1,.str,v,l,he=>by simp only[cellsOf,ak]at he;subst he;exact⟨rfl,rfl⟩
 |n+1,.sl t,v,l,he=>by simp only[cellsOf,ak]at he;subst he;exact⟨rfl,rfl⟩
theorem Pb {y:AV} (h:y.isCell=ai):y.cs=[y]:=by
 cases y with
 |f x=>cases x<;>first|rfl|cases h
 |agg l=>cases h
 |_=>rfl
theorem Lb {h:bl} {v:TV} {l:List TV} {y:AV} (hv:v.cs=af l) (I:cB h v=af y):cU h l=af y.cs/\kJ l=ai:=by
 have one:(if v.isC then af [v] else ah)=af l->cU h l=af y.cs/\kJ l=ai:=λhv=>by
  split at hv
  .rename_i hc;simp only[ak]at hv;subst hv;exact⟨by rw[Pb (Ps I hc)];exact px I rfl,by simp[kJ,hc]⟩
  .cases hv
 cases v with
 |agg q=>
  simp only[TV.cs]at hv;split at hv
  .rename_i hc;simp only[ak]at hv;subst hv;simp only[cB]at I;split at I
   .rename_i J hl;simp only[ak]at I;subst I;exact⟨hl,hc⟩
   .cases I
  .cases hv
 |f T x=>
  simp only[TV.cs]at hv;simp only[cB,ak]at I;subst I;rw[AZ];exact l8 h 40 T x l hv
 |fel T xs j hj off=>exact one hv
 |pel id sz j off=>exact one hv
 |ptr id off=>exact one hv
 |csl id off z=>exact one hv
 |row id=>exact one hv
 |emp=>exact one hv
 |nil=>exact one hv
 |mp id=>exact one hv
 |rtl id M=>exact one hv
 |tup q=>exact one hv
 |clo g q=>exact one hv
 |undef=>exact one hv
 |np=>exact one hv
 |anyb=>exact one hv
def EQ (h:bl) (H H':HF) (m:Nat):Prop:=∀id,aN m id=ai->H (nm id)=bF h (nm id)/\H' (nm id)=ah
theorem EQ.zero {h:bl} {H H':HF}:EQ h H H' 0:=λid hid=>by simp at hid
theorem EQ.or {h:bl} {H H':HF} {a b:Nat} (g:EQ h H H' (a|||b)):EQ h H H' a/\EQ h H H' b:=
 ⟨λid hid=>g id (by rw[bz,hid];rfl),λid hid=>g id (by rw[bz,hid];simp)⟩
theorem ca {i j:Nat}:aN (kZ i) j=ai↔i=j:=by
 unfold kZ;rw[Nat.one_shiftLeft,Nat.testBit_two_pow];simp
section pack
variable {h:bl} {H H':HF}
theorem yC (d:wa H H') {T:Ty} {v:TV} {x:T.den} {m:Nat} {y:AV} (I:iT h T v=af (x,m)) (J:cB h v=af y) (g:EQ h H H' m):l_ H H' y (.f (gV T x))/\y.cs.length=T.size/\(T.one=ai->y.isCell=ai)/\iu H H' y.cs ((bU T x).map .f):=by
 cases v with
 |f S v=>
  simp only[iT]at I;split at I
  .rename_i z M;simp only[ak,aE]at I;obtain⟨rfl,_⟩:=I;obtain⟨e,rfl⟩:=jv M;subst e;simp only[cB,ak]at J;subst J;refine ⟨l_.refl d _,by rw[AZ,bS,bG],λY=>?_,by rw[AZ];exact iu.refl d _⟩;cases S<;>simp only[Ty.one]at Y<;>first|rfl|cases Y
  .cases I
 |emp=>
  simp only[iT]at I;split at I
  .simp only[ak,aE]at I;obtain⟨rfl,_⟩:=I;simp only[cB,ak]at J;subst J;exact⟨Le.emp.toH d,rfl,λ_=>rfl,⟨Le.emp.toH d,trivial⟩⟩
  .cases I
 |nil=>
  simp only[iT]at I;split at I
  .simp only[ak,aE]at I;obtain⟨rfl,_⟩:=I;simp only[cB,ak]at J;subst J;exact⟨Le.nil.toH d,rfl,λ_=>rfl,⟨Le.nil.toH d,trivial⟩⟩
  .cases I
 |row id=>
  simp only[iT]at I;split at I
  .rename_i ty p S xs hb;split at I
   .rename_i z M;simp only[ak,aE]at I;obtain⟨rfl,rfl⟩:=I;obtain⟨e,rfl⟩:=jv M;subst e;obtain⟨U,Z⟩:=g id (ca.2 rfl);rw[bN,hb]at U;simp only[cB,eL,hb,ak]at J;subst J;have key:l_ H H' (fK p id S.size xs.length) (.f (gV (.sl S) xs)):=by
     unfold fK;split
     .rename_i hp;simp only[av,c8]at hp;have:xs=[]:=gW.1 hp.2;subst this;exact Le.emp.toH d
     .rename_i hp;simp only[aI,kN,aA hp]at U;exact l_.row d U Z (fR (bG S) xs)
    have hc:(fK p id S.size xs.length).isCell=ai:=by unfold fK;split<;>rfl
    refine ⟨key,by rw[Pb hc];rfl,λ_=>hc,?_⟩;rw[Pb hc];exact⟨key,trivial⟩
   .cases I
  .cases I
 |fel T xs j hj off=>simp[iT]at I
 |pel id sz j off=>simp[iT]at I
 |ptr id off=>simp[iT]at I
 |csl id off z=>simp[iT]at I
 |mp id=>simp[iT]at I
 |rtl id jj=>simp[iT]at I
 |agg q=>simp[iT]at I
 |tup q=>simp[iT]at I
 |clo f q=>simp[iT]at I
 |undef=>simp[iT]at I
 |np=>simp[iT]at I
 |anyb=>simp[iT]at I
theorem sR (d:wa H H'):∀(n:Nat) (T:Ty) (l:List TV) (x:T.den) (m:Nat) (r:List TV) (I:List AV),fm h n T l=af (x,m,r)->cU h l=af I->EQ h H H' m->∃l1 l2,I=l1++l2/\cU h r=af l2/\iu H H' l1 ((bU T x).map .f)
 |0,_,_,_,_,_,_,hp,_,_=>by simp[fm]at hp
 |n+1,.st t,l,x,m,r,I,hp,hl,g=>sR d n t l x m r I hp hl g
 |n+1,.pr a b,l,x,m,r,I,hp,hl,g=>by
  simp only[fm]at hp;split at hp
  .rename_i J m1 r1 h1;split at hp
   .rename_i Y m2 r2 h2;simp only[ak,aE]at hp;obtain⟨rfl,rfl,rfl⟩:=hp;obtain⟨ga,gb⟩:=g.or;obtain⟨l1,l2,rfl,U,M⟩:=sR d n a l J m1 r1 I h1 hl ga;obtain⟨l3,Z,rfl,q3,q4⟩:=sR d n b r1 Y m2 r2 l2 h2 U gb;refine ⟨l1++l3,Z,by simp,q3,?_⟩;rw[bU,cE];exact M.append q4
   .cases hp
  .cases hp
 |n+1,.un,l,x,m,r,I,hp,hl,g=>by
  simp only[fm,ak,aE]at hp;obtain⟨_,_,rfl⟩:=hp;exact⟨[],I,rfl,hl,trivial⟩
 |n+1,.ex,l,x,m,r,I,hp,hl,g=>by
  simp only[fm]at hp;split at hp
  .rename_i J m1 r1 h1;simp only[ak,aE]at hp;obtain⟨rfl,rfl,rfl⟩:=hp;rw[bU,S_];exact sR d n N0 l J m1 r1 I h1 hl g
  .cases hp
 |n+1,.sm,l,x,m,r,I,hp,hl,g=>by
  simp only[fm]at hp;split at hp
  .rename_i J m1 r1 h1;simp only[ak,aE]at hp;obtain⟨rfl,rfl,rfl⟩:=hp;rw[bU,S9];exact sR d n Nu l J m1 r1 I h1 hl g
  .cases hp
 |n+1,.int k,l,x,m,r,I,hp,hl,g=>by
  simp only[fm]at hp;split at hp
  .rename_i c q;split at hp
   .rename_i J m1 h1;simp only[ak,aE]at hp;obtain⟨rfl,rfl,rfl⟩:=hp;obtain⟨y,l2,rfl,U,M⟩:=db hl;exact⟨[y],l2,rfl,M,⟨(yC d h1 U g).1,trivial⟩⟩
   .cases hp
  .cases hp
 |n+1,.bool,l,x,m,r,I,hp,hl,g=>by
  simp only[fm]at hp;split at hp
  .rename_i c q;split at hp
   .rename_i J m1 h1;simp only[ak,aE]at hp;obtain⟨rfl,rfl,rfl⟩:=hp;obtain⟨y,l2,rfl,U,M⟩:=db hl;exact⟨[y],l2,rfl,M,⟨(yC d h1 U g).1,trivial⟩⟩
   .cases hp
  .cases hp
 |n+1,.str,l,x,m,r,I,hp,hl,g=>by
  simp only[fm]at hp;split at hp
  .rename_i c q;split at hp
   .rename_i J m1 h1;simp only[ak,aE]at hp;obtain⟨rfl,rfl,rfl⟩:=hp;obtain⟨y,l2,rfl,U,M⟩:=db hl;exact⟨[y],l2,rfl,M,⟨(yC d h1 U g).1,trivial⟩⟩
   .cases hp
  .cases hp
 |n+1,.sl t,l,x,m,r,I,hp,hl,g=>by
  simp only[fm]at hp;split at hp
  .rename_i c q;split at hp
   .rename_i J m1 h1;simp only[ak,aE]at hp;obtain⟨rfl,rfl,rfl⟩:=hp;obtain⟨y,l2,rfl,U,M⟩:=db hl;exact⟨[y],l2,rfl,M,⟨(yC d h1 U g).1,trivial⟩⟩
   .cases hp
  .cases hp
theorem Vl (d:wa H H') {n:Nat} {T:Ty} {l:List TV} {x:T.den} {m:Nat} {I:List AV} (hp:fm h n T l=af (x,m,[])) (hl:cU h l=af I) (g:EQ h H H' m):iu H H' I ((bU T x).map .f):=by
 obtain⟨l1,l2,rfl,J,M⟩:=sR d n T l x m [] I hp hl g;simp only[cU,ak]at J;subst J;simpa using M
theorem QP (d:wa H H') {T:Ty} {v:TV} {x:T.den} {m:Nat} {y:AV} (I:EA h T v=af (x,m)) (J:cB h v=af y) (g:EQ h H H' m):l_ H H' y (.f (gV T x))/\iu H H' y.cs ((bU T x).map .f):=by
 have other:iT h T v=af (x,m)->l_ H H' y (.f (gV T x))/\iu H H' y.cs ((bU T x).map .f):=λI=>by
  obtain⟨h1,_,_,h2⟩:=yC d I J g;exact⟨h1,h2⟩
 cases v with
 |agg l=>
  simp only[EA]at I;split at I
  .cases I
  .rename_i U;split at I
   .rename_i M m1 h1;simp only[ak,aE]at I;obtain⟨rfl,rfl⟩:=I;simp only[cB]at J;split at J
    .rename_i Y hl;simp only[ak]at J;subst J;have:=Vl d h1 hl g;refine ⟨?_,this⟩;rw[re T M (by simpa using U)];exact l_.aggL this (oE T M)
    .cases J
   .cases I
 |f S v=>exact other I
 |fel T xs j hj off=>exact other I
 |pel id sz j off=>exact other I
 |ptr id off=>exact other I
 |csl id off z=>exact other I
 |row id=>exact other I
 |emp=>exact other I
 |nil=>exact other I
 |mp id=>exact other I
 |rtl id Z=>exact other I
 |tup q=>exact other I
 |clo g q=>exact other I
 |undef=>exact other I
 |np=>exact other I
 |anyb=>exact other I
theorem Dk (d:wa H H') {T:Ty}:∀(n:Nat) (l:List TV) (xs:List T.den) (m:Nat) (I:List AV),zG h T n l=af (xs,m)->cU h l=af I->EQ h H H' m->iu H H' I ((xs.flatMap (bU T)).map .f)/\xs.length=n
 |0,[],xs,m,I,hp,hl,g=>by
  simp only[zG,ak,aE]at hp;obtain⟨rfl,_⟩:=hp;simp only[cU,ak]at hl;subst hl;exact⟨trivial,rfl⟩
 |0,_::_,xs,m,I,hp,hl,g=>by simp[zG]at hp
 |n+1,l,xs,m,I,hp,hl,g=>by
  simp only[zG]at hp;split at hp
  .rename_i M m1 r1 h1;split at hp
   .rename_i J m2 h2;simp only[ak,aE]at hp;obtain⟨rfl,rfl⟩:=hp;obtain⟨ga,Z⟩:=g.or;obtain⟨l1,l2,rfl,Y,U⟩:=sR d 40 T l M m1 r1 I h1 hl ga;obtain⟨q3,q4⟩:=Dk d n r1 J m2 l2 h2 Y Z;refine ⟨?_,by simp[q4]⟩;rw[fX,cE];exact U.append q3
   .cases hp
  .cases hp
theorem uW (h:bl):∀(n:Nat) (T:Ty) (v:T.den) (off sz:Nat) (ag:Bool) (u:TV),oI n T v off sz ag=af u->off+sz<=T.size/\∃y,cB h u=af (.f y)/\(ag=aj->sz=1/\(bU T v)[off]? =af y)/\(ag=ai->y= .agg (((bU T v).drop off).take sz))
 |0,_,_,_,_,_,_,hg=>by simp[oI]at hg
 |n+1,.st t,v,off,sz,ag,u,hg=>by
  simp only[oI]at hg;split at hg
  .rename_i hc;simp only[av]at hc;obtain⟨⟨h1,h2⟩,rfl⟩:=hc;have h1:=aw h1;have h2:=aw h2;subst h1;subst h2;simp only[ak]at hg;subst hg;refine ⟨by simp[Ty.size],_,rfl,λh=>(by cases h),λ_=>?_⟩;simp only[gV,bU,List.drop_zero];rw[<- bG t v,cW]
  .exact uW h n t v off sz ag u hg
 |n+1,.pr a b,v,off,sz,ag,u,hg=>by
  simp only[oI]at hg;have hla:=bG a v.1;have hlb:=bG b v.2;split at hg
  .rename_i hlt;have hlt:off<a.size:=a_ hlt;obtain⟨h1,y,h2,J,I⟩:=uW h n a v.1 off sz ag u hg;refine ⟨by simp only[Ty.size];omega,y,h2,λe=>?_,λe=>?_⟩
   .obtain⟨U,M⟩:=J e;exact⟨U,by rw[bU,bM (by omega)];exact M⟩
   .rw[I e,bU];have:((bU a v.1++bU b v.2).drop off).take sz=((bU a v.1).drop off).take sz:=by
     rw[EP (by omega),lB (by simp;omega)]
    rw[this]
  .rename_i hlt;have hlt:¬off<a.size:=λh=>hlt (bH h)
   obtain⟨h1,y,h2,J,I⟩:=uW h n b v.2 (off-a.size) sz ag u hg;refine ⟨by simp only[Ty.size];omega,y,h2,λe=>?_,λe=>?_⟩
   .obtain⟨U,M⟩:=J e;exact⟨U,by rw[bU,b7 (by omega),hla];exact M⟩
   .rw[I e,bU];have:(bU a v.1++bU b v.2).drop off=(bU b v.2).drop (off-a.size):=by
     rw[vI,hla,sA (by omega)];simp
    rw[this]
 |n+1,.un,v,off,sz,ag,u,hg=>by simp[oI]at hg
 |n+1,.ex,v,off,sz,ag,u,hg=>by
  simp only[oI]at hg;split at hg
  .rename_i hc;simp only[av]at hc;obtain⟨⟨h1,h2⟩,rfl⟩:=hc;have h1:=aw h1;have h2:=aw h2;subst h1;subst h2;simp only[ak]at hg;subst hg;refine ⟨by simp[Ty.size],_,rfl,λh=>(by cases h),λ_=>?_⟩;simp only[gV,bU,List.drop_zero];rw[<- yn v,cW]
  .obtain⟨h1,y,h2,J,I⟩:=uW h n N0 (OV v) off sz ag u hg;rw[Kq]at J I;exact⟨h1,y,h2,J,I⟩
 |n+1,.sm,v,off,sz,ag,u,hg=>by
  simp only[oI]at hg;split at hg
  .rename_i hc;simp only[av]at hc;obtain⟨⟨h1,h2⟩,rfl⟩:=hc;have h1:=aw h1;have h2:=aw h2;subst h1;subst h2;simp only[ak]at hg;subst hg;refine ⟨by simp[Ty.size],_,rfl,λh=>(by cases h),λ_=>?_⟩;simp only[gV,bU,List.drop_zero];rw[<- DU v,cW]
  .obtain⟨h1,y,h2,J,I⟩:=uW h n Nu (OU v) off sz ag u hg;rw[Kp]at J I;exact⟨h1,y,h2,J,I⟩
 |n+1,.int k,v,off,sz,ag,u,hg=>by
  simp only[oI]at hg;split at hg
  .rename_i hc;simp only[av,eJ]at hc;obtain⟨⟨h1,h2⟩,rfl⟩:=hc;have h1:=aw h1;have h2:=aw h2;subst h1;subst h2;simp only[ak]at hg;subst hg;exact⟨by simp[Ty.size],_,rfl,λ_=>⟨rfl,rfl⟩,λh=>by cases h⟩
  .cases hg
 |n+1,.bool,v,off,sz,ag,u,hg=>by
  simp only[oI]at hg;split at hg
  .rename_i hc;simp only[av,eJ]at hc;obtain⟨⟨h1,h2⟩,rfl⟩:=hc;have h1:=aw h1;have h2:=aw h2;subst h1;subst h2;simp only[ak]at hg;subst hg;exact⟨by simp[Ty.size],_,rfl,λ_=>⟨rfl,rfl⟩,λh=>by cases h⟩
  .cases hg
 |n+1,.str,v,off,sz,ag,u,hg=>by
  simp only[oI]at hg;split at hg
  .rename_i hc;simp only[av,eJ]at hc;obtain⟨⟨h1,h2⟩,rfl⟩:=hc;have h1:=aw h1;have h2:=aw h2;subst h1;subst h2;simp only[ak]at hg;subst hg;exact⟨by simp[Ty.size],_,rfl,λ_=>⟨rfl,rfl⟩,λh=>by cases h⟩
  .cases hg
 |n+1,.sl t,v,off,sz,ag,u,hg=>by
  simp only[oI]at hg;split at hg
  .rename_i hc;simp only[av,eJ]at hc;obtain⟨⟨h1,h2⟩,rfl⟩:=hc;have h1:=aw h1;have h2:=aw h2;subst h1;subst h2;simp only[ak]at hg;subst hg;exact⟨by simp[Ty.size],_,rfl,λ_=>⟨rfl,rfl⟩,λh=>by cases h⟩
  .cases hg
theorem U' {α:Type} (l vs:List α) (h:vs.length=l.length):AI.splice l 0 vs=vs:=by
 unfold AI.splice;rw[bR,h,List.drop_length];simp
theorem Ro {α:Type} (a b vs:List α) (off:Nat) (h:off+vs.length<=a.length):AI.splice (a++b) off vs=AI.splice a off vs++b:=by
 unfold AI.splice;rw[lB (by omega),EP (by omega)];simp[fY]
theorem O2 {α:Type} (a b vs:List α) (off:Nat) (h:a.length<=off):AI.splice (a++b) off vs=a++AI.splice b (off-a.length) vs:=by
 unfold AI.splice;rw[List.take_append,vI,fw h,sA (by omega),show off+vs.length-a.length=off-a.length+vs.length from by omega];simp[fY]
def YW (H H':HF) (y:AV) (T:Ty) (v z:T.den) (off sz:Nat):Prop:=∃fs:List FV,iu H H' y.cs (fs.map .f)/\fs.length=sz/\off+sz<=T.size/\bU T z=AI.splice (bU T v) off fs/\∀x∈fs,x.isCell=ai
theorem YW.whole {y:AV} {T:Ty} {v z:T.den} {off sz:Nat} (h0:off=0) (hs:sz=T.size) (hl:iu H H' y.cs ((bU T z).map .f)):YW H H' y T v z off sz:=by
 subst h0;subst hs;exact⟨bU T z,hl,bG T z,by omega,(U' _ _ (by rw[bG,bG])).symm,oE T z⟩
theorem wN (d:wa H H') {u:TV} {y:AV} (I:cB h u=af y):∀(n:Nat) (T:Ty) (v:T.den) (off sz:Nat) (z:T.den) (m:Nat),hX h u n T v off sz=af (z,m)->EQ h H H' m->YW H H' y T v z off sz
 |0,_,_,_,_,_,_,hg,_=>by simp[hX]at hg
 |n+1,.st t,v,off,sz,z,m,hg,g=>by
  simp only[hX]at hg;split at hg
  .rename_i q hq;split at hq
   .rename_i hc;simp only[av]at hc;simp only[ak]at hg;subst hg;exact .whole (aw hc.1) (aw hc.2) (QP d hq I g).2
   .cases hq
  .exact wN d I n t v off sz z m hg g
 |n+1,.pr a b,v,off,sz,z,m,hg,g=>by
  simp only[hX]at hg;have hla:=bG a v.1;split at hg
  .rename_i hlt;split at hg
   .rename_i J m1 h1;simp only[ak,aE]at hg;obtain⟨rfl,rfl⟩:=hg;obtain⟨fs,U,M,q3,q4,q5⟩:=wN d I n a v.1 off sz J m1 h1 g;refine ⟨fs,U,M,by simp only[Ty.size];omega,?_,q5⟩;rw[bU,bU,Ro _ _ _ _ (by omega),q4]
   .cases hg
  .rename_i hlt;have hlt:¬off<a.size:=λh=>hlt (bH h)
   split at hg
   .rename_i J m1 h1;simp only[ak,aE]at hg;obtain⟨rfl,rfl⟩:=hg;obtain⟨fs,U,M,q3,q4,q5⟩:=wN d I n b v.2 (off-a.size) sz J m1 h1 g;refine ⟨fs,U,M,by simp only[Ty.size];omega,?_,q5⟩;rw[bU,bU,O2 _ _ _ _ (by omega),q4,hla]
   .cases hg
 |n+1,.un,v,off,sz,z,m,hg,g=>by simp[hX]at hg
 |n+1,.ex,v,off,sz,z,m,hg,g=>by
  simp only[hX]at hg;split at hg
  .rename_i q hq;split at hq
   .rename_i hc;simp only[av]at hc;simp only[ak]at hg;subst hg;exact .whole (aw hc.1) (aw hc.2) (QP d hq I g).2
   .cases hq
  .split at hg
   .rename_i J m1 h1;simp only[ak,aE]at hg;obtain⟨rfl,rfl⟩:=hg;obtain⟨fs,U,M,q3,q4,q5⟩:=wN d I n N0 (OV v) off sz J m1 h1 g;exact⟨fs,U,M,q3,by rw[bU,bU,S_,q4,Kq],q5⟩
   .cases hg
 |n+1,.sm,v,off,sz,z,m,hg,g=>by
  simp only[hX]at hg;split at hg
  .rename_i q hq;split at hq
   .rename_i hc;simp only[av]at hc;simp only[ak]at hg;subst hg;exact .whole (aw hc.1) (aw hc.2) (QP d hq I g).2
   .cases hq
  .split at hg
   .rename_i J m1 h1;simp only[ak,aE]at hg;obtain⟨rfl,rfl⟩:=hg;obtain⟨fs,U,M,q3,q4,q5⟩:=wN d I n Nu (OU v) off sz J m1 h1 g;exact⟨fs,U,M,q3,by rw[bU,bU,S9,q4,Kp],q5⟩
   .cases hg
 |n+1,.int k,v,off,sz,z,m,hg,g=>by
  simp only[hX]at hg;split at hg
  .rename_i hc;simp only[av]at hc;exact .whole (aw hc.1) (aw hc.2) (yC d hg I g).2.2.2
  .cases hg
 |n+1,.bool,v,off,sz,z,m,hg,g=>by
  simp only[hX]at hg;split at hg
  .rename_i hc;simp only[av]at hc;exact .whole (aw hc.1) (aw hc.2) (yC d hg I g).2.2.2
  .cases hg
 |n+1,.str,v,off,sz,z,m,hg,g=>by
  simp only[hX]at hg;split at hg
  .rename_i hc;simp only[av]at hc;exact .whole (aw hc.1) (aw hc.2) (yC d hg I g).2.2.2
  .cases hg
 |n+1,.sl t,v,off,sz,z,m,hg,g=>by
  simp only[hX]at hg;split at hg
  .rename_i hc;simp only[av]at hc;exact .whole (aw hc.1) (aw hc.2) (yC d hg I g).2.2.2
  .cases hg
theorem Lx:∀{a b:ξ},Uj a b=ai->a=b
 |[],[],_=>rfl
 |[],_::_,h=>by cases h
 |_::_,[],h=>by cases h
 |x::xs,y::ys,h=>by
  simp only[Uj,av]at h;rw[ahw h.1,Lx h.2]
theorem zero_ok (d:wa H H'):∀T:Ty,iu H H' ((tM T).map raw) ((bU T T.zero).map .f)
 |.int k=>⟨l_.refl d _,trivial⟩
 |.bool=>⟨l_.refl d _,trivial⟩
 |.str=>⟨l_.refl d _,trivial⟩
 |.sl t=>⟨Le.nil.toH d,trivial⟩
 |.st t=>zero_ok d t
 |.pr a b=>by
  simp only[tM,Ty.zero,bU,cE];exact (zero_ok d a).append (zero_ok d b)
 |.un=>trivial
 |.ex=>⟨l_.refl d _,l_.refl d _,l_.refl d _,Le.nil.toH d,trivial⟩
 |.sm=>⟨l_.refl d _,l_.refl d _,l_.refl d _,l_.refl d _,Le.nil.toH d,l_.refl d _,l_.refl d _,l_.refl d _,Le.nil.toH d,Le.nil.toH d,Le.nil.toH d,trivial⟩
theorem Iu (d:wa H H') (T:Ty):∀n,iu H H' ((repl (tM T) n).map .f) (((aG n T.zero).flatMap (bU T)).map .f)
 |0=>trivial
 |n+1=>by
  rw[repl,List.replicate_succ,fX,cE,cE];have h1:=zero_ok (H:=H) (H':=H') d T;have:((tM T).map .raw).map AV.f=(tM T).map raw:=by rw[AF];rfl
  rw[this];exact h1.append (Iu d T n)
end pack
structure mr (h:bl) (nx:Nat):Prop where
 cells:∀id ty l,h.get id=af (.cells ty l)->lh h l=ai
 low:∀id b,h.get id=af b->id<nx
def uj (e:iZ) (h:bl):Prop:=∀t v,e.get t=af v->Ml h v=ai
structure jw (P:Program) (o:Oper) (still:Bool) (e:iZ) (h:bl) (nx:Nat) (v:TV) (rd wr:Nat) (h':bl) (nx':Nat):Prop where
 ex:∃f:B5,gZ P o (gi e h) (bF h) f/\(∀y,cB h' v=af y->f.val=y)/\fd (bF h) f.wr f.nw=bF h'/\(∀n∈f.rd,aN rd (ow n)=ai)/\(∀n∈f.wr,aN wr (ow n)=ai)/\(∀n∈f.N,nx<=ow n/\ow n<nx')
 rows:cA h h'
 inv:mr h' nx'
 grows:nx<=nx'
 st:still=ai->rd=0/\wr=0
def k9 {R:Type} (P:Program) (o:Oper) (still:Bool) (e:iZ) (h:bl) (nx:Nat) (K:KO R) (r:R):Prop:=
 ∃v rd wr h' nx',K v rd wr h' nx'=af r/\jw P o still e h nx v rd wr h' nx'
theorem ef {R:Type} {b:Bool} {k:b=ai->Option R} {r:R} (h:chk b k=af r):∃hb:b=ai,k hb=af r:=by
 cases b with
 |true=>exact⟨rfl,h⟩
 |false=>cases h
theorem p_ {R:Type} {b:Bool} {t f:Option R} {r:R} (h:bcase b t f=af r):(b=ai/\t=af r)\/(b=aj/\f=af r):=by
 cases b with
 |true=>exact .inl ⟨rfl,h⟩
 |false=>exact .inr ⟨rfl,h⟩
theorem dQ {α R:Type} {o:Option α} {k:α->Option R} {r:R} (h:obind o k=af r):∃x,o=af x/\k x=af r:=by
 cases o with
 |some x=>exact⟨x,rfl,h⟩
 |none=>cases h
theorem Fl {j:Int} {n:Nat} (h:eP j n=ai):0<=j/\j<n/\j.toNat<n:=by
 simp only[eP,c_,gf,av,be]at h;omega
theorem gZ.envLe {P:Program} {o:Oper} {e e2:EF} {h:HF} {f:B5} (ht:gZ P o e h f) (hle:∀t y,.tmp t∈o.op.operands->e t=af y->∃J,e2 t=af J/\Le J y):gZ P o e2 h f:=by
 intro φ E h' w a h1 h2 Z Y U;refine ht φ E h' w a h1 h2 (λt I y M=>?_) Y U;obtain⟨J,g1,g2⟩:=hle t y I M;exact g2 _ _ _ _ (Z t I J g1)
theorem K_ (h:bl) {v:Value} {u:TV} (hc:cst v=af u):cB h u=af (raw v)/\v.oneCell'=ai/\u.isC=ai:=by
 unfold cst at hc;split at hc<;>cases hc<;>exact⟨rfl,rfl,rfl⟩
theorem v8 (h:bl):∀{z:ξ} {l:List TV},K9 z=af l->cU h l=af (z.map raw)/\(∀x∈z,x.oneCell'=ai)/\kJ l=ai
 |[],l,hc=>by simp only[K9,ak]at hc;subst hc;exact⟨rfl,by simp,rfl⟩
 |v::r,l,hc=>by
  simp only[K9]at hc;split at hc
  .rename_i x l' J hl;simp only[ak]at hc;subst hc;obtain⟨h1,h2,Z⟩:=K_ h J;obtain⟨Y,U,M⟩:=v8 h hl;refine ⟨px h1 Y,λy I=>?_,by simp[kJ,Z,M]⟩;rcases bp.1 I with rfl|I
   .exact h2
   .exact U y I
  .cases hc
theorem bP {e:iZ} {h:bl} (hi:uj e h) {x:Operand} {v:TV} (I:fZ e x=af v):∃y,mW (Km e h) x=af y/\cB h v=af y:=by
 cases x with
 |tmp t=>
  simp only[fZ]at I;obtain⟨y,J⟩:=qG h v (hi t v I);refine ⟨y,?_,J⟩;simp only[mW];rw[vW];simp only[gi,I,aI,J]
 |const c=>
  simp only[fZ]at I;unfold al1 at I;split at I
  .rename_i vs;split at I
   .rename_i h1;split at I
    .rename_i l hl;simp only[ak]at I;subst I;refine ⟨.agg (vs.toList.map raw),?_,by simp only[cB,(v8 h hl).1]⟩;simp only[mW,FZ,h1,bI];rfl
    .cases I
   .cases I
  .rename_i hn;refine ⟨raw c,?_,(K_ h I).1⟩;simp only[mW];unfold FZ;split
   .rename_i vs;exact cX rfl (hn vs)
   .rfl
 |func g=>
  simp only[fZ,ak]at I;subst I;exact⟨_,rfl,rfl⟩
 |global g=>
  simp only[fZ]at I;cases hg:G g with
  |none=>rw[hg]at I;cases I
  |some cells=>
   rw[hg]at I;simp only[ak]at I;subst I;have hcells:cells=Dt:=by
    unfold G at hg;split at hg
    .cases hg;rfl
    .cases hg
   subst hcells;exact⟨_,by simp only[mW,hg];rfl,rfl⟩
theorem zI {e:iZ} {h:bl} (hi:uj e h):∀{xs:List Operand} {l:List TV},Gp e xs=af l->∃J,Yp (Km e h) xs=af J/\cU h l=af J
 |[],l,I=>by simp only[Gp,ak]at I;subst I;exact⟨[],rfl,rfl⟩
 |x::xs,l,I=>by
  simp only[Gp]at I;split at I
  .rename_i y U;split at I
   .rename_i ys hys;simp only[ak]at I;subst I;obtain⟨M,h1,h2⟩:=bP hi U;obtain⟨J,Z,Y⟩:=zI hi hys;exact⟨M::J,by simp only[Yp,h1,Z],px h2 Y⟩
   .cases I
  .cases I
section ops
variable {R:Type} {P:Program} {o:Oper} {e:iZ} {h:bl} {nx:Nat} {K:KO R} {r:R}
theorem jw.pure {s:SOp} {st:Bool} (hinv:mr h nx) (hc:dA P o.op=af s) {H:oH} (U:H.get=bF h) {k:Nat} {y0:AV} {rdl:ι} (M:eZ s (Km e h) H k=af ⟨y0,rdl,[],[],[]⟩) {v:TV} (hv:∀y,cB h v=af y->Le y0 y) {rd:Nat} (hrd:∀n∈rdl,aN rd (ow n)=ai) (hst:st=ai->rd=0):jw P o st e h nx v rd 0 h nx:=by
 have ht:=Jj hc M;rw[vW,U]at ht;refine ⟨?_,λ_ _ h=>h,hinv,bV _,λhs=>⟨hst hs,rfl⟩⟩;have key:∀y,Le y0 y->gZ P o (gi e h) (bF h) ⟨y,rdl,[],js [],[]⟩:=λy hle=>
  gZ.view ht (λi hi=>by cases hi) λh' _ _=>⟨LI.refl _,hle.toH (wa.refl _)⟩
 cases J:cB h v with
 |none=>exact⟨_,ht,λy I=>by simp at I,by simp[CU.eff,ux],hrd,by simp[CU.eff],by simp[CU.eff]⟩
 |some y=>exact⟨_,key y (hv y J),λY I=>by simpa using I,by simp[ux],hrd,by simp,by simp⟩
theorem k9.q {s:SOp} {st:Bool} (hinv:mr h nx) (hc:dA P o.op=af s) {k:Nat} {y0:AV} (J:∀H:oH,H.get=bF h->eZ s (Km e h) H k=rv y0) {v:TV} (hv:∀y,cB h v=af y->Le y0 y) (hk:K v 0 0 h nx=af r):k9 P o st e h nx K r:=by
 obtain⟨H,I⟩:=jV h;exact⟨v,0,0,h,nx,hk,jw.pure hinv hc I (J H I) hv (by simp) λ_=>rfl⟩
theorem dE {y0:AV} {v:TV} (hv:cB h v=af y0):∀y,cB h v=af y->Le y0 y:=λy I=>by rw[hv]at I;cases I;exact Le.refl _
theorem aj3 {T:Ty} {xs:List T.den} {j:Int} (hj:eP j xs.length=ai) {off sz:Nat} {ag:Bool} {u:TV} (hg:oI 40 T (aK xs j) off sz ag=af u):
 ∃y,cB h u=af (.f y)/\(BC.fz (xs.flatMap (bU T))).sub? (j.toNat*T.size+off) sz ag=af (.f y):=by
 obtain⟨h1,y,h2,Y,U⟩:=uW h 40 T _ off sz ag u hg;refine ⟨y,h2,?_⟩;obtain⟨_,_,hlt⟩:=Fl hj;have I:xs[j.toNat]? =af (aK xs j):=by
  unfold aK;rw[ay,aB hlt];rfl
 obtain⟨q,hq⟩:=FG (bG T) xs j.toNat _ I;have hlen:=fR (bG T) xs;have hle:(j.toNat+1)*T.size<=xs.length*T.size:=cL _ hlt;rw[jb]at hle;have hl:=bG T (aK xs j);cases ag with
 |false=>
  obtain⟨M,J⟩:=Y rfl;subst M;simp only[BC.sub?,BC.get];have:(xs.flatMap (bU T))[j.toNat*T.size+off]? =af y:=by
   rw[<- ia,hq,bM (by omega)];exact J
  rw[this];rfl
 |true=>
  simp only[BC.sub?];rw[aD (bH (by omega)),U rfl,<-List.drop_drop,hq,EP (by omega),lB (by simp;omega)]
theorem aj4 {T:Ty} {v:T.den} {off sz:Nat} {ag:Bool} {u:TV} (hg:oI 40 T v off sz ag=af u):
 ∃y,cB h u=af (.f y)/\(BC.fz (bU T v)).sub? off sz ag=af (.f y):=by
 obtain⟨h1,y,h2,U,M⟩:=uW h 40 T _ off sz ag u hg;refine ⟨y,h2,?_⟩;have hl:=bG T v;cases ag with
 |false=>
  obtain⟨J,I⟩:=U rfl;subst J;simp only[BC.sub?,BC.get,I];rfl
 |true=>
  simp only[BC.sub?];rw[aD (bH (by omega)),M rfl]
theorem XJ {l:List TV} {I:List AV} (hl:cU h l=af I) {off sz:Nat} {ag:Bool} {u:TV} (hs:U_ l off sz ag=af u):∃y,cB h u=af y/\(BC.mx I).sub? off sz ag=af y:=by
 cases ag with
 |false=>
  simp only[U_]at hs;split at hs
  .rename_i h1;have h1:=aw h1;subst h1;obtain⟨y,h2,J⟩:=mn hl off u hs;exact⟨y,J,by simp only[BC.sub?,BC.get,h2]⟩
  .cases hs
 |true=>
  simp only[U_]at hs;split at hs
  .rename_i h1;simp only[ak]at hs;subst hs;have h2:=FJ sz (FL off hl);exact⟨.agg ((I.drop off).take sz),by simp only[cB,h2],by simp only[BC.sub?,il hl,h1,bI]⟩
  .cases hs
theorem RY {v:TV} {n:Nat} {y:AV} (hn:lenOf h v=af n) (I:cB h v=af y):y.slen=af n:=by
 unfold lenOf at hn;split at hn
 .simp only[ak]at hn;subst hn;simp only[cB,ak]at I;subst I;rfl
 .simp only[ak]at hn;subst hn;simp only[cB,ak]at I;subst I;rfl
 .simp only[ak]at hn;subst hn;simp only[cB,ak]at I;subst I;rfl
 .rename_i id;simp only[cB]at I;cases hr:eL h id with
  |none=>rw[hr]at hn;cases hn
  |some q=>
   obtain⟨p,sz,m⟩:=q;rw[hr]at hn I;simp only[ak]at hn I;subst hn;subst I;unfold fK;split
   .rename_i hp;simp only[av,c8]at hp;rw[hp.2];rfl
   .rfl
 .simp only[ak]at hn;subst hn;simp only[cB,ak]at I;subst I;rfl
 .cases hn
theorem Ez (a b:ζ):sM ⟨a.toArray⟩ ⟨b.toArray⟩=decide (a=b):=by
 unfold sM;simp only[Bool.beq_eq_decide_eq]
theorem ahv {op:BinOp} {u v:TV} {q:TV->Option R} (hk:al9 op u v q=af r):∃a b c t,cB h u=af (raw a)/\cB h v=af (raw b)/\vy op a b=af c/\cB h t=af (raw c)/\q t=af r:=by
 unfold al9 at hk;split at hk
 .rename_i k a k' b;split at hk
  .rename_i hkk;have hkk':k=k':=by simpa using hkk
   subst hkk';refine ⟨.int k a,.int k b,?_⟩;cases op<;>simp only[reduceCtorEq]at hk<;>first
    |cases hk
    |exact⟨_,_,rfl,rfl,(by simp only[vy,c7,bI]<;>rfl),rfl,hk⟩
    |(obtain ⟨hb,hk⟩:=ef hk
      have I:(b==(0:Int))=aj:=by simpa using hb
      exact⟨_,_,rfl,rfl,by simp only[vy,c7,bI,I,cG,ey],rfl,hk⟩)
  .cases hk
 .rename_i a b;refine ⟨.string ⟨kR a⟩,.string ⟨kR b⟩,?_⟩;split at hk
  .exact⟨.bool (decide ((a:ζ)=b)),_,rfl,rfl,by simp only[vy,Ez],rfl,hk⟩
  .exact⟨.bool (!decide ((a:ζ)=b)),_,rfl,rfl,by simp only[vy,Ez],rfl,hk⟩
  .cases hk
 .cases hk
theorem YO {T:Ty}:∀{l:List TV} {xs:List T.den},zw T l=af xs->∀k,k<l.length->l[k]? =af (.f T (xs.getD k T.zero))
 |[],xs,_,k,hk=>by simp at hk
 |.f S v::r,xs,I,k,hk=>by
  simp only[zw]at I;split at I
  .rename_i x J;split at I
   .rename_i l hl;simp only[ak]at I;subst I;obtain⟨es,ex⟩:=jv J;cases es;subst ex;cases k with
    |zero=>rfl
    |succ k=>simpa using YO hl k (by simpa using hk)
   .cases I
  .cases I
 |.fel _ _ _ _ _::r,xs,I,k,hk=>by simp[zw]at I
 |.pel _ _ _ _::r,xs,I,k,hk=>by simp[zw]at I
 |.ptr _ _::r,xs,I,k,hk=>by simp[zw]at I
 |.csl _ _ _::r,xs,I,k,hk=>by simp[zw]at I
 |.row _::r,xs,I,k,hk=>by simp[zw]at I
 |.emp::r,xs,I,k,hk=>by simp[zw]at I
 |.nil::r,xs,I,k,hk=>by simp[zw]at I
 |.mp _::r,xs,I,k,hk=>by simp[zw]at I
 |.agg _::r,xs,I,k,hk=>by simp[zw]at I
 |.tup _::r,xs,I,k,hk=>by simp[zw]at I
 |.clo _ _::r,xs,I,k,hk=>by simp[zw]at I
 |.undef::r,xs,I,k,hk=>by simp[zw]at I
 |.np::r,xs,I,k,hk=>by simp[zw]at I
 |.anyb::r,xs,I,k,hk=>by simp[zw]at I
theorem YN {l:List TV} {T:Ty} {xs:List T.den} (I:aeh l=af ⟨T,xs⟩):∀k,k<l.length->l[k]? =af (.f T (xs.getD k T.zero)):=by
 unfold aeh at I;split at I
 .split at I
  .rename_i l1 hl;simp only[ak]at I;cases I;exact YO hl
  .cases I
 .cases I
variable (hinv:mr h nx) (hi:uj e h)
include hinv hi
theorem K_mv {con:FuncId->Option cq} {b9:TypeId->Option Ty} {x:Operand} {st:Bool} (hc:dA P o.op=af (.mv x)) (hk:d_ con b9 (.op (.mv x)) e h nx K=af r):k9 P o st e h nx K r:=by
 simp only[d_]at hk;split at hk
 .rename_i v hv;obtain⟨y,h1,h2⟩:=bP hi hv;exact k9.q (k:=0) hinv hc (λH _=>by simp only[eZ,h1]) (dE h2) hk
 .cases hk
theorem an0 {con:FuncId->Option cq} {b9:TypeId->Option Ty} {c a b:Operand} {st:Bool} (hc:dA P o.op=af (.pick c a b)) (hk:d_ con b9 (.op (.pick c a b)) e h nx K=af r):k9 P o st e h nx K r:=by
 simp only[d_]at hk;split at hk
 .rename_i t hv;obtain⟨y,h1,h2⟩:=bP hi hv;simp only[cB,ak]at h2;subst h2;rcases p_ hk with ⟨rfl,I⟩|⟨rfl,I⟩
  .split at I
   .rename_i v J;obtain⟨Y,U,M⟩:=bP hi J;exact k9.q (k:=0) hinv hc (λH _=>by simp only[eZ,h1,gV,bI,U]) (dE M) I
   .cases I
  .split at I
   .rename_i v J;obtain⟨Y,U,M⟩:=bP hi J;exact k9.q (k:=0) hinv hc (λH _=>by simp only[eZ,h1,gV,U,cG,ey]) (dE M) I
   .cases I
 .cases hk
theorem an1 {con:FuncId->Option cq} {b9:TypeId->Option Ty} {x:Operand} {st:Bool} (hc:dA P o.op=af (.nilc x)) (hk:d_ con b9 (.op (.nilc x)) e h nx K=af r):k9 P o st e h nx K r:=by
 simp only[d_]at hk;split at hk;all_goals first
  |(rename_i hv
    obtain⟨y,h1,h2⟩:=bP hi hv;have I:=h2;simp only[cB,ak]at h2;subst h2;exact k9.q (k:=0) hinv hc (λH _=>by simp only[eZ,h1]) (dE I) hk)
  |skip
 .rename_i g cap hv;obtain⟨y,h1,h2⟩:=bP hi hv;have I:=h2;simp only[cB]at h2;split at h2
  .simp only[ak]at h2;subst h2;exact k9.q (k:=0) hinv hc (λH _=>by simp only[eZ,h1]) (dE I) hk
  .cases h2
 .cases hk
theorem aq7 {con:FuncId->Option cq} {b9:TypeId->Option Ty} {x:Operand} {st:Bool} (hc:dA P o.op=af (.not x)) (hk:d_ con b9 (.op (.not x)) e h nx K=af r):k9 P o st e h nx K r:=by
 simp only[d_]at hk;split at hk
 .rename_i b hv;obtain⟨y,h1,h2⟩:=bP hi hv;simp only[cB,ak]at h2;subst h2;exact k9.q (k:=0) hinv hc (λH _=>by simp only[eZ,h1,gV];rfl) (dE rfl) hk
 .cases hk
theorem an8 {con:FuncId->Option cq} {b9:TypeId->Option Ty} {k:IntKind} {x:Operand} {st:Bool} (hc:dA P o.op=af (.conv k x)) (hk:d_ con b9 (.op (.conv k x)) e h nx K=af r):k9 P o st e h nx K r:=by
 simp only[d_]at hk;split at hk
 .rename_i k' n hv;obtain⟨y,h1,h2⟩:=bP hi hv;simp only[cB,ak]at h2;subst h2;exact k9.q (k:=0) hinv hc (λH _=>by simp only[eZ,h1,gV];rfl) (dE rfl) hk
 .cases hk
theorem aql {con:FuncId->Option cq} {b9:TypeId->Option Ty} {neg:Bool} {x y:Operand} {st:Bool} (hc:dA P o.op=af (.eqb neg x y)) (hk:d_ con b9 (.op (.eqb neg x y)) e h nx K=af r):k9 P o st e h nx K r:=by
 simp only[d_]at hk;split at hk
 .rename_i a b hv I;obtain⟨y,h1,h2⟩:=bP hi hv;obtain⟨U,M,J⟩:=bP hi I;simp only[cB,ak]at h2 J;subst h2;subst J;exact k9.q (k:=0) hinv hc (λH _=>by simp only[eZ,h1,M,gV];rfl) (dE rfl) hk
 .cases hk
theorem aim {con:FuncId->Option cq} {b9:TypeId->Option Ty} {neg:Bool} {x:Operand} {st:Bool} (hc:dA P o.op=af (.isnil neg x)) (hk:d_ con b9 (.op (.isnil neg x)) e h nx K=af r):k9 P o st e h nx K r:=by
 simp only[d_]at hk;split at hk
 .rename_i hv;obtain⟨y,h1,h2⟩:=bP hi hv;simp only[cB,ak]at h2;subst h2;exact k9.q (k:=0) hinv hc (λH _=>by simp only[eZ,h1,AQ,bI];rfl) (dE rfl) hk
 .rename_i hv;obtain⟨y,h1,h2⟩:=bP hi hv;simp only[cB,ak]at h2;subst h2;exact k9.q (k:=0) hinv hc (λH _=>by simp only[eZ,h1]) (dE rfl) hk
 .rename_i T xs hv;obtain⟨y,h1,h2⟩:=bP hi hv;simp only[cB,ak]at h2;subst h2;rcases p_ hk with ⟨J,I⟩|⟨J,I⟩
  .have J:=aw J;exact k9.q (k:=0) (y0:=.anyb) hinv hc (λH _=>by simp only[eZ,h1,gV,J]) (dE rfl) I
  .have J:=ip J;obtain⟨n,hn⟩:=Nat.exists_eq_succ_of_ne_zero J;exact k9.q (k:=0) (y0:=raw (.bool neg)) hinv hc (λH _=>by simp only[eZ,h1,gV,hn]) (dE rfl) I
 .rename_i id hv;split at hk
  .rename_i ty T xs hb;obtain⟨y,h1,h2⟩:=bP hi hv;simp only[cB,eL,hb,fK,nV,cG,ey,ak]at h2;subst h2;exact k9.q (k:=0) (y0:=raw (.bool neg)) hinv hc (λH _=>by simp only[eZ,h1]) (dE rfl) hk
  .cases hk
 .cases hk
theorem aqc {con:FuncId->Option cq} {b9:TypeId->Option Ty} {x y:Operand} {st:Bool} (hc:dA P o.op=af (.max x y)) (hk:d_ con b9 (.op (.max x y)) e h nx K=af r):k9 P o st e h nx K r:=by
 simp only[d_]at hk;split at hk
 .rename_i k a k' b hv I;obtain⟨y,h1,h2⟩:=bP hi hv;obtain⟨U,M,J⟩:=bP hi I;simp only[cB,ak]at h2 J;subst h2;subst J;split at hk
  .exact k9.q (k:=0) hinv hc (λH _=>by simp only[eZ,h1,M,gV];rfl) (dE rfl) hk
  .cases hk
 .cases hk
theorem aqb {con:FuncId->Option cq} {b9:TypeId->Option Ty} {x y:Operand} {st:Bool} (hc:dA P o.op=af (.min x y)) (hk:d_ con b9 (.op (.min x y)) e h nx K=af r):k9 P o st e h nx K r:=by
 simp only[d_]at hk;split at hk
 .rename_i k a k' b hv I;obtain⟨y,h1,h2⟩:=bP hi hv;obtain⟨U,M,J⟩:=bP hi I;simp only[cB,ak]at h2 J;subst h2;subst J;split at hk
  .exact k9.q (k:=0) hinv hc (λH _=>by simp only[eZ,h1,M,gV];rfl) (dE rfl) hk
  .cases hk
 .cases hk
theorem aqi {con:FuncId->Option cq} {b9:TypeId->Option Ty} {off:Nat} {x:Operand} {st:Bool} (hc:dA P o.op=af (.fad off x)) (hk:d_ con b9 (.op (.fad off x)) e h nx K=af r):k9 P o st e h nx K r:=by
 simp only[d_]at hk;split at hk;all_goals first
  |(rename_i hv
    obtain⟨y,h1,h2⟩:=bP hi hv;simp only[cB,ak]at h2;subst h2;exact k9.q (k:=0) hinv hc (λH _=>by simp only[eZ,h1,qa]) (dE rfl) hk)
  |cases hk
theorem aqh {con:FuncId->Option cq} {b9:TypeId->Option Ty} {off sz:Nat} {ag:Bool} {x:Operand} {st:Bool} (hc:dA P o.op=af (.fld off sz ag x)) (hk:d_ con b9 (.op (.fld off sz ag x)) e h nx K=af r):k9 P o st e h nx K r:=by
 simp only[d_]at hk;split at hk
 .rename_i l hv;split at hk
  .rename_i u hs;obtain⟨y,h1,h2⟩:=bP hi hv;simp only[cB]at h2;split at h2
   .rename_i U hl;simp only[ak]at h2;subst h2;obtain⟨y,J,I⟩:=XJ hl hs;exact k9.q (k:=0) hinv hc (λH _=>by simp only[eZ,h1,I]) (dE J) hk
   .cases h2
  .cases hk
 .rename_i T v hv;split at hk
  .cases hk
  .rename_i M;split at hk
   .rename_i u hs;obtain⟨y,h1,h2⟩:=bP hi hv;simp only[cB,ak]at h2;rw[re T v (by simpa using M)]at h2;subst h2;obtain⟨y,J,I⟩:=aj4 (h:=h) hs;exact k9.q (k:=0) hinv hc (λH _=>by simp only[eZ,h1,I]) (dE J) hk
   .cases hk
 .cases hk
theorem aqf {con:FuncId->Option cq} {b9:TypeId->Option Ty} {n sz:Nat} {ag:Bool} {x i:Operand} {st:Bool} (hc:dA P o.op=af (.idx n sz ag x i)) (hk:d_ con b9 (.op (.idx n sz ag x i)) e h nx K=af r):k9 P o st e h nx K r:=by
 simp only[d_]at hk;split at hk
 .rename_i v0 k j hv U;split at hk
  .rename_i T xs hA;obtain⟨hb,hk⟩:=ef hk;cases ag with
   |true=>cases hA
   |false=>
   simp only[ao9]at hA;split at hA
   .rename_i hsz;simp only[av,eJ]at hsz;have hsz1:=aw hsz.1;subst hsz1;split at hA
    .rename_i l hl;split at hA
     .rename_i hn;have hn:=aw hn;obtain⟨y,h1,h2⟩:=bP hi hv;obtain⟨y2,Y,J⟩:=bP hi U;simp only[cB,ak]at J;subst J;have hj:j.toNat<l.length:=by
       simp only[av,c_,gf,be]at hb;omega
      have hg:=YN hA j.toNat hj;obtain⟨he,_⟩:=Lb hl h2;obtain⟨z,I,M⟩:=mn he j.toNat _ hg;have M:cB h (.f T (aK xs j))=af z:=M;refine k9.q (k:=0) hinv hc (λH _=>?_) (dE M) hk;cases v0 with
      |agg q=>
       simp only[cB]at h2;split at h2
       .rename_i l' _;simp only[ak]at h2;subst h2;have I:l'[j.toNat]? =af z:=I;simp only[eZ,h1,Y,gV,hb,bI,BC.sub?,BC.get,Nat.mul_one,I]
       .cases h2
      |f S u=>
       have Z:S.one=aj:=by
        have:=hsz.2;simpa[TV.isC] using this
       simp only[cB,ak]at h2;rw[re S u Z]at h2;subst h2;have I:((bU S u).map AV.f)[j.toNat]? =af z:=I;rw[ba]at I;simp only[eZ,h1,Y,gV,hb,bI,BC.sub?,BC.get,Nat.mul_one,I]
      |_=>simp[TV.cs,TV.isC]at hl hsz
     .cases hA
    .cases hA
   .cases hA
  .split at hk
   .rename_i l;obtain⟨hb,hk⟩:=ef hk;split at hk
    .rename_i u hs;obtain⟨y,h1,h2⟩:=bP hi hv;obtain⟨y2,Y,J⟩:=bP hi U;simp only[cB,ak]at J;subst J;simp only[cB]at h2;split at h2
     .rename_i l' hl;simp only[ak]at h2;subst h2;obtain⟨y,h3,h4⟩:=XJ hl hs;exact k9.q (k:=0) hinv hc (λH _=>by simp only[eZ,h1,Y,gV,hb,bI,h4]) (dE h3) hk
     .cases h2
    .cases hk
   .rename_i T v _;split at hk
    .cases hk
    .rename_i Z;obtain⟨hb,hk⟩:=ef hk;split at hk
     .rename_i u hs;obtain⟨y,h1,h2⟩:=bP hi hv;obtain⟨y2,Y,J⟩:=bP hi U;simp only[cB,ak]at J h2;subst J;rw[re T v (by simpa using Z)]at h2;subst h2;obtain⟨y,h3,h4⟩:=aj4 (h:=h) hs;exact k9.q (k:=0) hinv hc (λH _=>by simp only[eZ,h1,Y,gV,hb,bI,h4]) (dE h3) hk
     .cases hk
   .cases hk
 .cases hk
theorem an6 {con:FuncId->Option cq} {b9:TypeId->Option Ty} {n sz:Nat} {x i:Operand} {st:Bool} (hc:dA P o.op=af (.iada n sz x i)) (hk:d_ con b9 (.op (.iada n sz x i)) e h nx K=af r):k9 P o st e h nx K r:=by
 simp only[d_]at hk;split at hk
 .rename_i id off k j hv I;obtain⟨y,h1,h2⟩:=bP hi hv;obtain⟨U,M,J⟩:=bP hi I;simp only[cB,ak]at J h2;subst J;subst h2;split at hk
  .obtain⟨hb,hk⟩:=ef hk;exact k9.q (k:=0) (y0:=.ptr (nm id) (off+j.toNat*sz)) hinv hc (λH _=>by simp only[eZ,h1,M,gV,hb,bI]) (dE (by simp only[cB];rw[Nat.add_comm])) hk
  .obtain⟨hb,hk⟩:=ef hk;exact k9.q (k:=0) hinv hc (λH _=>by simp only[eZ,h1,M,gV,hb,bI]) (dE rfl) hk
 .cases hk
theorem aqj {con:FuncId->Option cq} {b9:TypeId->Option Ty} {i:Nat} {x:Operand} {st:Bool} (hc:dA P o.op=af (.ext x i)) (hk:d_ con b9 (.op (.ext x i)) e h nx K=af r):k9 P o st e h nx K r:=by
 simp only[d_]at hk;split at hk
 .rename_i l hv;split at hk
  .rename_i u hs;obtain⟨y,h1,h2⟩:=bP hi hv;simp only[cB]at h2;split at h2
   .rename_i M hl;simp only[ak]at h2;subst h2;obtain⟨y,J,I⟩:=mn hl i u hs;exact k9.q (k:=0) hinv hc (λH _=>by simp only[eZ,h1,J]) (dE I) hk
   .cases h2
  .cases hk
 .cases hk
theorem aqe {con:FuncId->Option cq} {b9:TypeId->Option Ty} {x:Operand} {st:Bool} (hc:dA P o.op=af (.len x)) (hk:d_ con b9 (.op (.len x)) e h nx K=af r):k9 P o st e h nx K r:=by
 simp only[d_]at hk;split at hk
 .rename_i v hv;split at hk
  .rename_i n hn;obtain⟨y,h1,h2⟩:=bP hi hv;have I:=RY hn h2;exact k9.q (k:=0) hinv hc (λH _=>by simp only[eZ,h1,I];rfl) (dE rfl) hk
  .cases hk
 .cases hk
theorem an4 {con:FuncId->Option cq} {b9:TypeId->Option Ty} {x:Operand} {st:Bool} (hc:dA P o.op=af (.lens x)) (hk:d_ con b9 (.op (.lens x)) e h nx K=af r):k9 P o st e h nx K r:=by
 simp only[d_]at hk;split at hk
 .rename_i s hv;obtain⟨y,h1,h2⟩:=bP hi hv;simp only[cB,ak]at h2;subst h2;exact k9.q (k:=0) hinv hc (λH _=>by simp only[eZ,h1,gV];rfl) (dE rfl) hk
 .cases hk
theorem amz {con:FuncId->Option cq} {b9:TypeId->Option Ty} {x i:Operand} {st:Bool} (hc:dA P o.op=af (.sidx x i)) (hk:d_ con b9 (.op (.sidx x i)) e h nx K=af r):k9 P o st e h nx K r:=by
 simp only[d_]at hk;split at hk
 .rename_i s k j hv I;obtain⟨hj,hk⟩:=ef hk;obtain⟨y,h1,h2⟩:=bP hi hv;obtain⟨Z,Y,J⟩:=bP hi I;simp only[cB,ak]at h2 J;subst h2;subst J;obtain⟨U,j1,M⟩:=Fl hj;have e1:c_ 0 j=ai:=by simp[c_,U]
  have e2:(⟨kR s⟩:ByteArray).data.toList[j.toNat]? =af (List.getD s j.toNat 0):=by
   show s[j.toNat]? =_;rw[ay,aB M];rfl
  exact k9.q (k:=0) (y0:=raw (.int .u8 (aP (List.getD s j.toNat 0).toNat))) hinv hc (λH _=>by simp only[eZ,h1,Y,gV,e1,bI,e2];rfl) (dE rfl) hk
 .cases hk
theorem aqg {con:FuncId->Option cq} {b9:TypeId->Option Ty} {sz:Nat} {x i:Operand} {st:Bool} (hc:dA P o.op=af (.iad sz x i)) (hk:d_ con b9 (.op (.iad sz x i)) e h nx K=af r):k9 P o st e h nx K r:=by
 simp only[d_]at hk;split at hk
 .rename_i id k j hv I;split at hk
  .rename_i ty p T xs hb;split at hk
   .rename_i hs;have hs:=aw hs;obtain⟨hj,hk⟩:=ef hk;obtain⟨y,h1,h2⟩:=bP hi hv;obtain⟨Z,U,J⟩:=bP hi I;simp only[cB,ak]at J;subst J;obtain⟨j0,j1,j2⟩:=Fl hj;have hne:¬((p&&xs.length==0)=ai):=by
     simp only[av,c8];omega
    simp only[cB,eL,hb,fK,aA hne,ak]at h2;subst h2;have Y:(T.size==sz&&c_ 0 j&&gf j xs.length)=ai:=by
     simp only[eP,av]at hj;simp[hs,hj.1,hj.2]
    exact k9.q (k:=0) hinv hc (λH _=>by simp only[eZ,h1,U,gV,Y,bI,dD]) (dE rfl) hk
   .cases hk
  .cases hk
 .rename_i T xs k j hv I;split at hk
  .rename_i hs;have hs:=aw hs;obtain⟨hj,hk⟩:=ef hk;obtain⟨y,h1,h2⟩:=bP hi hv;obtain⟨Z,U,J⟩:=bP hi I;simp only[cB,ak]at J h2;subst J;subst h2;have M:(c_ 0 j&&gf j (al xs))=ai:=hj;exact k9.q (k:=0) hinv hc (λH _=>by simp only[eZ,h1,U,gV,M,bI,dD,hs]) (dE rfl) hk
  .cases hk
 .rename_i id sz' n k j hv I;split at hk
  .rename_i hs;have hs:=aw hs;subst hs;obtain⟨hj,hk⟩:=ef hk;obtain⟨y,h1,h2⟩:=bP hi hv;obtain⟨Z,U,J⟩:=bP hi I;simp only[cB,ak]at J h2;subst J;subst h2;have M:(sz'==sz'&&c_ 0 j&&gf j n)=ai:=by simp only[av]at hj ⊢;exact⟨⟨c7 _,hj.1⟩,hj.2⟩
   exact k9.q (k:=0) hinv hc (λH _=>by simp only[eZ,h1,U,gV,M,bI]) (dE rfl) hk
  .cases hk
 .cases hk
theorem aqa {con:FuncId->Option cq} {b9:TypeId->Option Ty} {f:FuncId} {caps:List Operand} {st:Bool} (hc:dA P o.op=af (.mkf f caps)) (hk:d_ con b9 (.op (.mkf f caps)) e h nx K=af r):k9 P o st e h nx K r:=by
 simp only[d_]at hk;split at hk
 .rename_i l hv;obtain⟨I,h1,h2⟩:=zI hi hv;exact k9.q (k:=0) hinv hc (y0:=.clo f I) (λH _=>by simp only[eZ,h1]) (dE (by simp only[cB,h2])) hk
 .cases hk
theorem aqp {con:FuncId->Option cq} {b9:TypeId->Option Ty} {op:BinOp} {x y:Operand} {st:Bool} (hc:dA P o.op=af (.bin op x y)) (hk:d_ con b9 (.op (.bin op x y)) e h nx K=af r):k9 P o st e h nx K r:=by
 simp only[d_]at hk;split at hk
 .rename_i u v hv I;obtain⟨a,b,c,t,h1,h2,h3,h4,Z⟩:=ahv (h:=h) hk;obtain⟨y,Y,U⟩:=bP hi hv;obtain⟨y2,M,J⟩:=bP hi I;rw[h1]at U;cases U;rw[h2]at J;cases J;simp only[raw]at Y M;exact k9.q (k:=0) hinv hc (λH _=>by simp only[eZ,Y,M,h3]) (dE h4) Z
 .cases hk
end ops
def mZ:iE->Option (Bool×Nat×Nat)
 |.rows _ p T xs=>af (p,T.size,xs.length)
 |.dead p sz n=>af (p,sz,n)
 |_=>ah
theorem bX (h:bl) (i:Nat):eL h i=(h.get i).bind mZ:=by
 unfold eL;cases h.get i with
 |none=>rfl
 |some b=>cases b<;>rfl
theorem cA.refl (h:bl):cA h h:=λ_ _ h=>h
theorem cA.trans {a b c:bl} (h1:cA a b) (h2:cA b c):cA a c:=λi r h=>h2 i r (h1 i r h)
theorem cA.set {h:bl} {i:Nat} {b:iE} (hb:∀r,eL h i=af r->mZ b=af r):cA h (h.set i (af b)):=λj r hj=>by
 rw[bX,PT.get_set];by_cases e:j=i
 .subst e;rw[aD rfl];exact hb r hj
 .rw[aA e,<-bX];exact hj
theorem Nw {b:iE} {r:Bool×Nat×Nat} (h:mZ b=af r):mZ (vP b)=af r:=by cases b<;>first|exact h|cases h
theorem jk (m:Nat) (h:bl) (i:Nat):(eM m h).get i=if aN m i then (h.get i).map vP else h.get i:=by
 unfold eM;split
 .rename_i hm;have:=aw hm;subst this;simp
 .rw[PT.get_updI];simp only[Nat.one_mul,dD];cases h.get i with
  |none=>simp
  |some b=>simp only[cr];split<;>rfl
theorem cA.kill (m:Nat) (h:bl):cA h (eM m h):=λi r hr=>by
 rw[bX]at hr ⊢;rw[jk];split
 .cases hb:h.get i with
  |none=>rw[hb]at hr;cases hr
  |some b=>rw[hb]at hr;exact Nw hr
 .exact hr
theorem mr.set {h:bl} {nx nx' i:Nat} {b:iE} (hi:mr h nx) (hr:cA h (h.set i (af b))) (hlt:i<nx') (hle:nx<=nx') (hb:∀ty l,b= .cells ty l->lh (h.set i (af b)) l=ai):mr (h.set i (af b)) nx':=by
 refine ⟨λj ty l hj=>?_,λj c hj=>?_⟩
 .rw[PT.get_set]at hj;split at hj
  .simp only[ak]at hj;exact hb ty l hj
  .exact jg hr l (hi.cells j ty l hj)
 .rw[PT.get_set]at hj;split at hj
  .rename_i e;subst e;exact hlt
  .exact dH (hi.low j c hj) hle
theorem mr.kill {h:bl} {nx:Nat} (hi:mr h nx) (m:Nat):mr (eM m h) nx:=by
 refine ⟨λj ty l hj=>?_,λj c hj=>?_⟩
 .rw[jk]at hj;refine jg (cA.kill m h) l (hi.cells j ty l ?_);split at hj
  .cases hb:h.get j with
   |none=>rw[hb]at hj;cases hj
   |some b=>rw[hb]at hj;cases b<;>simp[vP]at hj
  .exact hj
 .rw[jk]at hj;split at hj
  .cases hb:h.get j with
   |none=>rw[hb]at hj;cases hj
   |some b=>exact hi.low j b hb
  .exact hi.low j c hj
theorem Kn {h h':bl} (hr:cA h h') {b:iE} (hb:∀ty l,b= .cells ty l->lh h l=ai):kN h' b=kN h b:=by
 cases b with
 |cells ty l=>
  obtain⟨I,hl⟩:=fI h l (hb ty l rfl);simp only[kN,hl,ic hr l I hl]
 |_=>rfl
theorem ZL {h h':bl} {nx i:Nat} (hi:mr h nx) (hr:cA h h') (hg:h'.get i=h.get i):bF h' (nm i)=bF h (nm i):=by
 rw[bN,bN,hg];cases hb:h.get i with
 |none=>rfl
 |some b=>exact Kn hr λty l e=>hi.cells i ty l (by rw[hb,e])
theorem xh (h:bl) {n:Nat} (hn:¬∃i,n=nm i):bF h n=ah:=by
 unfold bF;rw[aA];intro h2;exact hn ⟨n/2,by unfold nm;omega⟩
theorem kY {h h':bl} {nx:Nat} (hi:mr h nx) (hr:cA h h') {n:Nat} (hg:∀i,n=nm i->h'.get i=h.get i):bF h' n=bF h n:=by
 by_cases hn:∃i,n=nm i
 .obtain⟨i,rfl⟩:=hn;exact ZL hi hr (hg i rfl)
 .rw[xh h hn,xh h' hn]
def Gs (m:Nat):ι:=(aed m).map nm
theorem ox {m n:Nat}:n∈Gs m↔∃i,n=nm i/\aN m i=ai:=by
 unfold Gs;rw[dv];constructor
 .rintro⟨i,h1,rfl⟩;exact⟨i,rfl,NH.1 h1⟩
 .rintro⟨i,rfl,h1⟩;exact⟨i,NH.2 h1,rfl⟩
theorem lQ {m i:Nat}:nm i∈Gs m↔aN m i=ai:=by
 rw[ox];constructor
 .rintro⟨j,h1,h2⟩;rw[li h1];exact h2
 .exact λh=>⟨i,rfl,h⟩
def dY (h:bl) (m:Nat):Prop:=∀i,aN m i=ai->∃ty p T xs,h.get i=af (.rows ty p T xs)
theorem dY.zero (h:bl):dY h 0:=λi hi=>by simp at hi
theorem dY.or {h:bl} {a b:Nat} (I:dY h a) (hb:dY h b):dY h (a|||b):=λi hi=>by
 rw[bz,jf]at hi;exact hi.elim (I i) (hb i)
theorem nR {h:bl} {T:Ty} {v:TV} {x:T.den} {m:Nat} (I:iT h T v=af (x,m)):dY h m:=by
 cases v with
 |f S v=>
  simp only[iT]at I;split at I
  .simp only[ak,aE]at I;rw[<- I.2];exact dY.zero h
  .cases I
 |emp=>
  simp only[iT]at I;split at I
  .simp only[ak,aE]at I;rw[<- I.2];exact dY.zero h
  .cases I
 |nil=>
  simp only[iT]at I;split at I
  .simp only[ak,aE]at I;rw[<- I.2];exact dY.zero h
  .cases I
 |row id=>
  simp only[iT]at I;split at I
  .rename_i ty p S xs hb;split at I
   .simp only[ak,aE]at I;rw[<- I.2];intro i hi;have:=ca.1 hi;subst this;exact⟨ty,p,S,xs,hb⟩
   .cases I
  .cases I
 |fel T xs j hj off=>simp[iT]at I
 |pel id sz j off=>simp[iT]at I
 |ptr id off=>simp[iT]at I
 |csl id off z=>simp[iT]at I
 |mp id=>simp[iT]at I
 |rtl id J=>simp[iT]at I
 |agg q=>simp[iT]at I
 |tup q=>simp[iT]at I
 |clo f q=>simp[iT]at I
 |undef=>simp[iT]at I
 |np=>simp[iT]at I
 |anyb=>simp[iT]at I
theorem vK {h:bl}:∀(n:Nat) (T:Ty) (l:List TV) (x:T.den) (m:Nat) (r:List TV),fm h n T l=af (x,m,r)->dY h m
 |0,_,_,_,_,_,hp=>by simp[fm]at hp
 |n+1,.st t,l,x,m,r,hp=>vK n t l x m r hp
 |n+1,.pr a b,l,x,m,r,hp=>by
  simp only[fm]at hp;split at hp
  .rename_i I m1 r1 h1;split at hp
   .rename_i J m2 r2 h2;simp only[ak,aE]at hp;obtain⟨_,rfl,_⟩:=hp;exact (vK n a l I m1 r1 h1).or (vK n b r1 J m2 r2 h2)
   .cases hp
  .cases hp
 |n+1,.un,l,x,m,r,hp=>by
  simp only[fm,ak,aE]at hp;obtain⟨_,rfl,_⟩:=hp;exact dY.zero h
 |n+1,.ex,l,x,m,r,hp=>by
  simp only[fm]at hp;split at hp
  .rename_i I m1 r1 h1;simp only[ak,aE]at hp;obtain⟨_,rfl,_⟩:=hp;exact vK n N0 l I m1 r1 h1
  .cases hp
 |n+1,.sm,l,x,m,r,hp=>by
  simp only[fm]at hp;split at hp
  .rename_i I m1 r1 h1;simp only[ak,aE]at hp;obtain⟨_,rfl,_⟩:=hp;exact vK n Nu l I m1 r1 h1
  .cases hp
 |n+1,.int k,l,x,m,r,hp=>by
  simp only[fm]at hp;split at hp
  .split at hp
   .rename_i I m1 h1;simp only[ak,aE]at hp;obtain⟨_,rfl,_⟩:=hp;exact nR h1
   .cases hp
  .cases hp
 |n+1,.bool,l,x,m,r,hp=>by
  simp only[fm]at hp;split at hp
  .split at hp
   .rename_i I m1 h1;simp only[ak,aE]at hp;obtain⟨_,rfl,_⟩:=hp;exact nR h1
   .cases hp
  .cases hp
 |n+1,.str,l,x,m,r,hp=>by
  simp only[fm]at hp;split at hp
  .split at hp
   .rename_i I m1 h1;simp only[ak,aE]at hp;obtain⟨_,rfl,_⟩:=hp;exact nR h1
   .cases hp
  .cases hp
 |n+1,.sl t,l,x,m,r,hp=>by
  simp only[fm]at hp;split at hp
  .split at hp
   .rename_i I m1 h1;simp only[ak,aE]at hp;obtain⟨_,rfl,_⟩:=hp;exact nR h1
   .cases hp
  .cases hp
theorem YM {h:bl} {T:Ty} {v:TV} {x:T.den} {m:Nat} (I:EA h T v=af (x,m)):dY h m:=by
 cases v with
 |agg l=>
  simp only[EA]at I;split at I
  .cases I
  .split at I
   .rename_i J m1 h1;simp only[ak,aE]at I;obtain⟨_,rfl⟩:=I;exact vK 40 T l J m1 [] h1
   .cases I
 |f S v=>exact nR (v:=.f S v) I
 |fel T xs j hj off=>exact nR (v:=.fel T xs j hj off) I
 |pel id sz j off=>exact nR (v:=.pel id sz j off) I
 |ptr id off=>exact nR (v:=.ptr id off) I
 |csl id off z=>exact nR (v:=.csl id off z) I
 |row id=>exact nR (v:=.row id) I
 |emp=>exact nR (v:=.emp) I
 |nil=>exact nR (v:=.nil) I
 |mp id=>exact nR (v:=.mp id) I
 |rtl id M=>exact nR (v:=.rtl id M) I
 |tup q=>exact nR (v:=.tup q) I
 |clo g q=>exact nR (v:=.clo g q) I
 |undef=>exact nR (v:=.undef) I
 |np=>exact nR (v:=.np) I
 |anyb=>exact nR (v:=.anyb) I
theorem O_ {h:bl} {T:Ty}:∀(n:Nat) (l:List TV) (xs:List T.den) (m:Nat),zG h T n l=af (xs,m)->dY h m
 |0,[],xs,m,hp=>by simp only[zG,ak,aE]at hp;rw[<- hp.2];exact dY.zero h
 |0,_::_,xs,m,hp=>by simp[zG]at hp
 |n+1,l,xs,m,hp=>by
  simp only[zG]at hp;split at hp
  .rename_i J m1 r1 h1;split at hp
   .rename_i I m2 h2;simp only[ak,aE]at hp;obtain⟨_,rfl⟩:=hp;exact (vK 40 T l J m1 r1 h1).or (O_ n r1 I m2 h2)
   .cases hp
  .cases hp
theorem AH {h:bl} {u:TV}:∀(n:Nat) (T:Ty) (v:T.den) (off sz:Nat) (z:T.den) (m:Nat),hX h u n T v off sz=af (z,m)->dY h m
 |0,_,_,_,_,_,_,hg=>by simp[hX]at hg
 |n+1,.st t,v,off,sz,z,m,hg=>by
  simp only[hX]at hg;split at hg
  .rename_i q hq;split at hq
   .simp only[ak]at hg;subst hg;exact YM hq
   .cases hq
  .exact AH n t v off sz z m hg
 |n+1,.pr a b,v,off,sz,z,m,hg=>by
  simp only[hX]at hg;split at hg
  .split at hg
   .rename_i I m1 h1;simp only[ak,aE]at hg;obtain⟨_,rfl⟩:=hg;exact AH n a v.1 off sz I m1 h1
   .cases hg
  .split at hg
   .rename_i I m1 h1;simp only[ak,aE]at hg;obtain⟨_,rfl⟩:=hg;exact AH n b v.2 _ sz I m1 h1
   .cases hg
 |n+1,.un,v,off,sz,z,m,hg=>by simp[hX]at hg
 |n+1,.ex,v,off,sz,z,m,hg=>by
  simp only[hX]at hg;split at hg
  .rename_i q hq;split at hq
   .simp only[ak]at hg;subst hg;exact YM hq
   .cases hq
  .split at hg
   .rename_i I m1 h1;simp only[ak,aE]at hg;obtain⟨_,rfl⟩:=hg;exact AH n N0 _ off sz I m1 h1
   .cases hg
 |n+1,.sm,v,off,sz,z,m,hg=>by
  simp only[hX]at hg;split at hg
  .rename_i q hq;split at hq
   .simp only[ak]at hg;subst hg;exact YM hq
   .cases hq
  .split at hg
   .rename_i I m1 h1;simp only[ak,aE]at hg;obtain⟨_,rfl⟩:=hg;exact AH n Nu _ off sz I m1 h1
   .cases hg
 |n+1,.int k,v,off,sz,z,m,hg=>by
  simp only[hX]at hg;split at hg
  .exact nR hg
  .cases hg
 |n+1,.bool,v,off,sz,z,m,hg=>by
  simp only[hX]at hg;split at hg
  .exact nR hg
  .cases hg
 |n+1,.str,v,off,sz,z,m,hg=>by
  simp only[hX]at hg;split at hg
  .exact nR hg
  .cases hg
 |n+1,.sl t,v,off,sz,z,m,hg=>by
  simp only[hX]at hg;split at hg
  .exact nR hg
  .cases hg
theorem uu {h:bl} {m i:Nat} (hm:dY h m) (hb:aN m i=ai):∃p sz n,(eM m h).get i=af (.dead p sz n):=by
 obtain⟨ty,p,T,xs,h1⟩:=hm i hb;exact⟨p,T.size,xs.length,by rw[jk,aD hb,h1];rfl⟩
section ops
variable {R:Type} {P:Program} {o:Oper} {e:iZ} {h:bl} {nx:Nat} {K:KO R} {r:R}
theorem iw (n:Nat) (b:xE):js [(n,b)] n=af b:=by simp[js]
theorem jw.mk' {s:SOp} (hc:dA P o.op=af s) {H:oH} (hH:H.get=bF h) {k:Nat} {y0:AV} {rdl wrl N:ι} {nw:NW} (ha:eZ s (Km e h) H k=af ⟨y0,rdl,wrl,nw,N⟩) {v:TV} {h':bl} {nx' rd wr:Nat} (wr':ι)
 (hsub:∀i∈wrl,i∈wr') (hsame:∀n,n∉wr'->bF h' n=bF h n)
 (hdom:∀i∈wr',∀b',bF h' i=af b'->∃b,(if i∈wrl then js nw i else bF h i)=af b)
 (hblk:∀(Y H2:HF),wa Y H2->(∀i∈wrl,Y i=js nw i)->(∀i∈wr',i∉wrl->Y i=bF h i)->(∀i∈wr',H2 i=bF h' i)->(∀i∈wr',∀b b',Y i=af b->H2 i=af b'->kh Y H2 b b')/\∀y,cB h' v=af y->l_ Y H2 y0 y)
 (hrd:∀n∈rdl,aN rd (ow n)=ai) (hwr:∀n∈wr',aN wr (ow n)=ai) (hN:∀n∈N,nx<=ow n/\ow n<nx') (hrows:cA h h') (hinv':mr h' nx') (hg:nx<=nx'):jw P o aj e h nx v rd wr h' nx':=by
 have ht:=Jj hc ha;rw[vW,hH]at ht;refine ⟨?_,hrows,hinv',hg,λhs=>by cases hs⟩;have base:∀(val:AV),(∀y,cB h' v=af y->y=val)->(cB h' v=ah->val=y0)->gZ P o (gi e h) (bF h) ⟨val,rdl,wr',bF h',N⟩:=by
  intro val hval hnone;refine gZ.view ht (λi hi=>.inl (hsub i hi)) λh1 hr1 Z=>?_
  have hd:wa (fd h1 wrl (js nw)) (fd h1 wr' (bF h')):=by
   intro i b hb;unfold fd at hb ⊢;by_cases hi:i∈wr'
   .rw[aD hi]at hb;obtain⟨b0,J⟩:=hdom i hi b hb;refine ⟨b0,?_⟩;by_cases U:i∈wrl
    .rw[aD U]at J ⊢;exact J
    .rw[aA U]at J ⊢;rw[Z i hi];exact J
   .rw[aA hi]at hb;rw[aA (λU=>hi (hsub i U))];exact⟨b,hb⟩
  obtain⟨q1,q2⟩:=hblk _ _ hd (λi hi=>by unfold fd;rw[aD hi]) (λi hi U=>by unfold fd;rw[aA U];exact Z i hi) (λi hi=>by unfold fd;rw[aD hi]);refine ⟨⟨hd,λi b b' hb M=>?_⟩,?_⟩
  .by_cases hi:i∈wr'
   .exact q1 i hi b b' hb M
   .unfold fd at hb M;rw[aA (λU=>hi (hsub i U))]at hb;rw[aA hi,hb]at M;cases M;exact kh.refl hd b
  .cases hv:cB h' v with
   |none=>rw[hnone hv];exact l_.refl hd _
   |some y=>rw[<- hval y hv];exact q2 y hv
 have hu:fd (bF h) wr' (bF h')=bF h':=by
  funext n;unfold fd;split
  .rfl
  .rename_i hn;exact (hsame n hn).symm
 cases hv:cB h' v with
 |none=>exact⟨_,base y0 (λy I=>by rw[hv]at I;cases I) (λ_=>rfl),λy I=>(by cases I),hu,hrd,hwr,hN⟩
 |some y=>exact⟨_,base y (λy' I=>by rw[hv]at I;cases I;rfl) (λhn=>by rw[hv]at hn;cases hn),λy' I=>by cases I;rfl,hu,hrd,hwr,hN⟩
theorem DP (hi:uj e h):∀(parts:List (Nat×Nat×Operand)) (cells cs:List TV) (cells':List AV),Ki cells e parts=af cs->cU h cells=af cells'->∃cs',Ac cells' (Km e h) parts=af cs'/\cU h cs=af cs'/\(kJ cells=ai->kJ cs=ai)
 |[],cells,cs,cells',hf,he=>by simp only[Ki,ak]at hf;subst hf;exact⟨cells',rfl,he,id⟩
 |(off,sz,x)::rest,cells,cs,cells',hf,he=>by
  simp only[Ki]at hf;split at hf
  .rename_i v hv;split at hf
   .rename_i q hq;split at hf
    .rename_i hc;simp only[av,c8]at hc;obtain⟨y,h1,h2⟩:=bP hi hv;obtain⟨M,h4⟩:=Lb hq h2;obtain⟨cs',Z,Y,U⟩:=DP hi rest (splice cells off q) cs (splice cells' off y.cs) hf (s7 off he M);refine ⟨cs',?_,Y,λI=>U ?_⟩
     .simp only[Ac,h1];rw[aD,Z];simp only[av,c8];exact⟨⟨by rw[il M];exact hc.1,by rw[il he];exact hc.2⟩,sO M h4⟩
     .clear Z Y U hf;have app:∀a b:List TV,kJ a=ai->kJ b=ai->kJ (a++b)=ai:=by
       intro a b I hb;induction a with
       |nil=>exact hb
       |cons z r J=>simp only[kJ,av,gC]at I ⊢;exact⟨I.1,J I.2⟩
      have tk:∀(a:List TV) n,kJ a=ai->kJ (a.take n)=ai:=by
       intro a;induction a with
       |nil=>intro n h;simp[kJ]
       |cons z r J=>
        intro n h;cases n with
        |zero=>rfl
        |succ n=>simp only[kJ,av,wG]at h ⊢;exact⟨h.1,J n h.2⟩
      have dr:∀(a:List TV) n,kJ a=ai->kJ (a.drop n)=ai:=by
       intro a;induction a with
       |nil=>intro n h;simp[kJ]
       |cons z r J=>
        intro n h;cases n with
        |zero=>exact h
        |succ n=>simp only[kJ,av,wH]at h ⊢;exact J n h.2
      unfold splice;exact app _ _ (app _ _ (tk _ _ I) h4) (dr _ _ I)
    .cases hf
   .cases hf
  .cases hf
variable (hinv:mr h nx) (hi:uj e h)
include hinv hi
theorem ain {con:FuncId->Option cq} {b9:TypeId->Option Ty} {z:ξ} {parts:List (Nat×Nat×Operand)} {st:Bool} (hc:dA P o.op=af (.build z parts)) (hk:d_ con b9 (.op (.build z parts)) e h nx K=af r):k9 P o st e h nx K r:=by
 simp only[d_]at hk;split at hk
 .rename_i l hl;split at hk
  .rename_i cs hf;obtain⟨h1,_,_⟩:=v8 h hl;obtain⟨cs',h2,J,_⟩:=DP hi parts l cs _ hf h1;refine k9.q (k:=0) (y0:=NF cs') hinv hc (λH _=>by simp only[eZ,h2]) (λy I=>?_) hk;simp only[cB,J,ak]at I;subst I;exact act cs'
  .cases hk
 .cases hk
theorem an3 {con:FuncId->Option cq} {b9:TypeId->Option Ty} {sz:Nat} {ag:Bool} {x:Operand} (hc:dA P o.op=af (.load sz ag x)) (hk:d_ con b9 (.op (.load sz ag x)) e h nx K=af r):k9 P o aj e h nx K r:=by
 obtain⟨H,J⟩:=jV h;simp only[d_]at hk;split at hk
 .rename_i id off hv;obtain⟨y,h1,h2⟩:=bP hi hv;simp only[cB,ak]at h2;subst h2;split at hk
  .rename_i ty l hb;split at hk
   .rename_i v hs;obtain⟨Y,hl⟩:=fI h l (hinv.cells id ty l hb);obtain⟨y,U,M⟩:=XJ hl hs;have hg:H.get (nm id)=af ⟨ty,.mx Y⟩:=by rw[J,bN,hb];simp only[aI,kN,hl]
    exact⟨v,kZ id,0,h,nx,hk,jw.pure (k:=0) hinv hc J (y0:=y) (rdl:=[nm id]) (by simp only[eZ,h1,EB,hg,M]) (dE U) (λn hn=>by simp only[aL]at hn;subst hn;rw[eo];exact ca.2 rfl) (λh=>by cases h)⟩
   .cases hk
  .cases hk
 .rename_i id sz' j off hv;obtain⟨y,h1,h2⟩:=bP hi hv;simp only[cB,ak]at h2;subst h2;split at hk
  .rename_i ty p T xs hb;split at hk
   .rename_i hsz;have hsz:=aw hsz;obtain⟨hj,hk⟩:=ef hk;split at hk
    .rename_i v hs;obtain⟨y,U,M⟩:=aj3 (h:=h) hj hs;have hne:¬((p&&xs.length==0)=ai):=by
      have:=Fl hj;simp only[av,c8];omega
     have hg:H.get (nm id)=af ⟨ty,.fz (xs.flatMap (bU T))⟩:=by rw[J,bN,hb];simp only[aI,kN,aA hne]
     exact⟨v,kZ id,0,h,nx,hk,jw.pure (k:=0) hinv hc J (y0:=.f y) (rdl:=[nm id]) (by simp only[eZ,h1,EB,hg,hsz,M]) (dE U) (λn hn=>by simp only[aL]at hn;subst hn;rw[eo];exact ca.2 rfl) (λh=>by cases h)⟩
    .cases hk
   .cases hk
  .rename_i ty l hb;split at hk
   .cases hk
   .split at hk
    .rename_i hsz;simp only[av]at hsz;have e1:=aw hsz.1.1;have e2:=aw hsz.1.2;have e3:=aw hsz.2;subst e1;subst e2;subst e3;split at hk
     .rename_i T xs hA;obtain⟨hj,hk⟩:=ef hk;obtain⟨Y,hl⟩:=fI h l (hinv.cells id ty l hb);have hg:H.get (nm id)=af ⟨ty,.mx Y⟩:=by rw[J,bN,hb];simp only[aI,kN,hl]
      have hlt:j.toNat<l.length:=by
       simp only[eP,av,c_,gf,be]at hj;omega
      obtain⟨z,Z,I⟩:=mn hl j.toNat _ (YN hA j.toNat hlt);have I:cB h (.f T (aK xs j))=af z:=I;exact⟨_,kZ id,0,h,nx,hk,jw.pure (k:=0) hinv hc J (y0:=z) (rdl:=[nm id]) (by simp only[eZ,h1,EB,hg,BC.sub?,BC.get,Nat.mul_one,dD,Z]) (dE I) (λn hn=>by simp only[aL]at hn;subst hn;rw[eo];exact ca.2 rfl) (λh=>by cases h)⟩
     .cases hk
    .cases hk
  .cases hk
 .rename_i T xs j hj off hv;obtain⟨y,h1,h2⟩:=bP hi hv;simp only[cB,ak]at h2;subst h2;split at hk
  .rename_i v hs;obtain⟨y,U,M⟩:=aj3 (h:=h) hj hs;exact k9.q (k:=0) (y0:=.f y) hinv hc (λH _=>by simp only[eZ,h1,EB,M]) (dE U) hk
  .cases hk
 .cases hk
theorem aio {con:FuncId->Option cq} {b9:TypeId->Option Ty} {ty:TypeId} {z:ξ} (hc:dA P o.op=af (.alloc ty z)) (hk:d_ con b9 (.op (.alloc ty z)) e h nx K=af r):k9 P o aj e h nx K r:=by
 have _:=hi;obtain⟨H,hH⟩:=jV h;simp only[d_]at hk;split at hk
 .rename_i l hl;obtain⟨_,hz,_⟩:=v8 h hl;have hnone:h.get nx=ah:=by
   cases hb:h.get nx with
   |none=>rfl
   |some b=>have:=hinv.low nx b hb;omega
  have hr:cA h (h.set nx (af (.cells ty l))):=cA.set λr hr=>by rw[bX,hnone]at hr;cases hr
  obtain⟨h1,_,_⟩:=v8 (h.set nx (af (.cells ty l))) hl;have U:bF (h.set nx (af (.cells ty l))) (nm nx)=af ⟨ty,.mx (z.map raw)⟩:=by rw[bN,PT.get_set,aD rfl];simp only[aI,kN,h1]
  refine ⟨_,_,_,_,_,hk,jw.mk' hc hH (k:=nm nx) (by simp only[eZ];rfl) [nm nx] (λi hi=>hi) (λn hn=>?_) (λi hi b' _=>⟨⟨ty,.fz (z.map .raw)⟩,?_⟩) (λH1 H2 d M _ J=>⟨λi hi b b' hb I=>?_,λy Y=>?_⟩) (by simp) ?_ ?_ hr (hinv.set hr (by omega) (by omega) λty' l' he=>?_) (by omega)⟩
  .refine kY hinv hr λi e=>?_
   subst e;rw[PT.get_set,aA (λe=>hn (by rw[e];simp))]
  .rw[aD hi];simp only[aL]at hi;subst hi;simp[js]
  .simp only[aL]at hi;subst hi;rw[M _ (by simp)]at hb;rw[J _ (by simp),U]at I;rw[iw]at hb;simp only[ak]at hb I;subst hb;subst I;refine kh.cells rfl rfl ?_ λx Z=>?_
   .simp only[BC.toMx,AF];exact iu.refl d _
   .simp only[BC.toMx]at Z;obtain⟨q,hq,rfl⟩:=dv.1 Z;exact hz q hq
  .simp only[cB,ak]at Y;subst Y;exact l_.refl d _
  .intro n hn;simp only[aL]at hn;subst hn;rw[eo];exact ca.2 rfl
  .intro n hn;simp only[aL]at hn;subst hn;rw[eo];omega
  .cases he;exact kX _ _ _ h1
 .cases hk
theorem aqo {con:FuncId->Option cq} {b9:TypeId->Option Ty} {ty:TypeId} {x:Operand} (hc:dA P o.op=af (.box ty x)) (hk:d_ con b9 (.op (.box ty x)) e h nx K=af r):k9 P o aj e h nx K r:=by
 obtain⟨H,hH⟩:=jV h;simp only[d_]at hk;split at hk
 .rename_i v hv;split at hk
  .rename_i l hl;obtain⟨y,h1,h2⟩:=bP hi hv;obtain⟨h3,h4⟩:=Lb hl h2;have hcell:=sO h3 h4;have hnone:h.get nx=ah:=by
    cases hb:h.get nx with
    |none=>rfl
    |some b=>have:=hinv.low nx b hb;omega
   have hr:cA h (h.set nx (af (.cells ty l))):=cA.set λr hr=>by rw[bX,hnone]at hr;cases hr
   have Z:=ic hr l _ h3;have U:bF (h.set nx (af (.cells ty l))) (nm nx)=af ⟨ty,.mx y.cs⟩:=by rw[bN,PT.get_set,aD rfl];simp only[aI,kN,Z]
   refine ⟨_,_,_,_,_,hk,jw.mk' hc hH (k:=nm nx) (by simp only[eZ,h1,hcell,bI];rfl) [nm nx] (λi hi=>hi) (λn hn=>?_) (λi hi b' _=>⟨⟨ty,pU y.cs⟩,?_⟩) (λH1 H2 d M _ J=>⟨λi hi b b' hb I=>?_,λy Y=>?_⟩) (by simp) ?_ ?_ hr (hinv.set hr (by omega) (by omega) λty' l' he=>?_) (by omega)⟩
   .refine kY hinv hr λi e=>?_
    subst e;rw[PT.get_set,aA (λe=>hn (by rw[e];simp))]
   .rw[aD hi];simp only[aL]at hi;subst hi;simp[js]
   .simp only[aL]at hi;subst hi;rw[M _ (by simp)]at hb;rw[J _ (by simp),U]at I;rw[iw]at hb;simp only[ak]at hb I;subst hb;subst I;obtain⟨q1,q2⟩:=ou y.cs;refine kh.cells q2 rfl ?_ λx hx=>?_
    .rw[q1];exact iu.refl d _
    .exact l9 hcell x hx
   .simp only[cB,ak]at Y;subst Y;exact l_.refl d _
   .intro n hn;simp only[aL]at hn;subst hn;rw[eo];exact ca.2 rfl
   .intro n hn;simp only[aL]at hn;subst hn;rw[eo];omega
   .cases he;exact kX _ _ _ Z
  .cases hk
 .cases hk
theorem ail {con:FuncId->Option cq} {b9:TypeId->Option Ty} {ty:TypeId} {sz bytes:Nat} {z:ξ} {l c:Operand} (hcm:Ep (b9 ty)=ah) (hc:dA P o.op=af (.mksl ty sz bytes z l c)) (hk:d_ con b9 (.op (.mksl ty sz bytes z l c)) e h nx K=af r):k9 P o aj e h nx K r:=by
 obtain⟨H,hH⟩:=jV h;simp only[d_,hcm]at hk;split at hk
 .rename_i T k a k' b hT hv U;split at hk
  .rename_i hsz;simp only[av]at hsz;have hs:=aw hsz.1;have hz:=Lx hsz.2;subst hs;subst hz;obtain⟨hck,hk⟩:=ef hk;obtain⟨y,h1,h2⟩:=bP hi hv;obtain⟨y2,h3,h4⟩:=bP hi U;simp only[cB,ak]at h2 h4;subst h2;subst h4;have hnone:h.get nx=ah:=by
    cases hb:h.get nx with
    |none=>rfl
    |some b=>have:=hinv.low nx b hb;omega
   generalize Z:iE.rows ty aj T (aG (aT a) T.zero)=B at hk;have hr:cA h (h.set nx (af B)):=cA.set λr hr=>by rw[bX,hnone]at hr;cases hr
   have Y:bF (h.set nx (af B)) (nm nx)=af ⟨ty,.fz ((aG (aT a) T.zero).flatMap (bU T))⟩:=by rw[bN,PT.get_set,aD rfl,<-Z];simp[kN]
   refine ⟨_,_,_,_,_,hk,jw.mk' hc hH (k:=nm nx) (by simp only[eZ,h1,h3,gV,hck,bI];rfl) [nm nx] (λi hi=>hi) (λn hn=>?_) (λi hi b' _=>⟨⟨ty,.fz (repl (tM T) (aT a))⟩,?_⟩) (λH1 H2 d M _ J=>⟨λi hi b b' hb I=>?_,λy hy=>?_⟩) (by simp) ?_ ?_ hr (hinv.set hr (by omega) (by omega) λty' l' he=>?_) (by omega)⟩
   .refine kY hinv hr λi e=>?_
    subst e;rw[PT.get_set,aA (λe=>hn (by rw[e];simp))]
   .rw[aD hi];simp only[aL]at hi;subst hi;simp[js]
   .simp only[aL]at hi;subst hi;rw[M _ (by simp)]at hb;rw[J _ (by simp),Y]at I;rw[iw]at hb;simp only[ak]at hb I;subst hb;subst I;refine kh.cells rfl rfl (Iu d T _) λx hx=>?_
    simp only[BC.toMx]at hx;obtain⟨q,hq,rfl⟩:=dv.1 hx;exact sh T _ q hq
   .simp only[cB,bX,PT.get_set,bI,<-Z,aI,mZ,fK,nV,cG,ey,ak,eV]at hy;subst hy;exact l_.refl d _
   .intro n hn;simp only[aL]at hn;subst hn;rw[eo];exact ca.2 rfl
   .intro n hn;simp only[aL]at hn;subst hn;rw[eo];omega
   .rw[<- Z]at he;cases he
  .cases hk
 .cases hk
end ops
theorem AX {α:Type} {f:α->List FV} {n:Nat} (hf:∀x,(f x).length=n):∀(xs:List α) (j:Nat),(xs.take j).flatMap f=(xs.flatMap f).take (j*n)
 |[],j=>by simp
 |x::r,0=>by simp
 |x::r,j+1=>by
  rw[wG,fX,fX,AX hf r j,show (j+1)*n=(f x).length+j*n from by rw[hf,jb];omega,List.take_length_add_append]
theorem Kh {α:Type} {f:α->List FV} {n:Nat} (hf:∀x,(f x).length=n):∀(xs:List α) (j:Nat),(xs.drop j).flatMap f=(xs.flatMap f).drop (j*n)
 |[],j=>by simp
 |x::r,0=>by simp
 |x::r,j+1=>by
  rw[wH,fX,Kh hf r j,show (j+1)*n=(f x).length+j*n from by rw[hf,jb];omega,List.drop_length_add_append]
theorem Rz {z:ξ}:∀(n:Nat) (x:FV),x∈repl z n->∃v∈z,x= .raw v
 |0,x,h=>by simp[repl]at h
 |n+1,x,h=>by
  rw[repl,bY]at h;rcases h with h|h
  .obtain⟨v,hv,rfl⟩:=dv.1 h;exact⟨v,hv,rfl⟩
  .exact Rz n x h
theorem Hy:∀l:List FV,(∀x∈l,x.isCell=ai)->gU (l.map .f)=ai
 |[],_=>rfl
 |z::r,h=>by simp only[gB,gU,av];exact⟨h z (by simp),Hy r λx I=>h x (by simp[I])⟩
section ops
variable {R:Type} {P:Program} {o:Oper} {e:iZ} {h:bl} {nx:Nat} {K:KO R} {r:R}
theorem mr.fresh (hinv:mr h nx):h.get nx=ah:=by
 cases hb:h.get nx with
 |none=>rfl
 |some b=>have:=hinv.low nx b hb;omega
theorem dY.lt (hinv:mr h nx) {m:Nat} (hm:dY h m) {i:Nat} (hi:aN m i=ai):i<nx:=by
 obtain⟨_,_,_,_,hb⟩:=hm i hi;exact hinv.low i _ hb
theorem jw.new {s:SOp} (hinv:mr h nx) (hc:dA P o.op=af s) {H:oH} (hH:H.get=bF h) {y0:AV} {rdl:ι} {b0:xE} (ha:eZ s (Km e h) H (nm nx)=af ⟨y0,rdl,[nm nx],[(nm nx,b0)],[nm nx]⟩) {B:iE} {v:TV} {m rd:Nat} (hm:dY h m)
 (hB:∀ty l,B= .cells ty l->lh ((eM m h).set nx (af B)) l=ai)
 (hblk:∀J I,wa J I->EQ h J I m->∀b',kN ((eM m h).set nx (af B)) B=af b'->kh J I b0 b')
 (hval:∀J I y,wa J I->EQ h J I m->cB ((eM m h).set nx (af B)) v=af y->l_ J I y0 y)
 (hrd:∀n∈rdl,aN rd (ow n)=ai):jw P o aj e h nx v rd (m|||kZ nx) ((eM m h).set nx (af B)) (nx+1):=by
 have hk:=hinv.kill m;have hr0:=cA.kill m h;have Y:cA (eM m h) ((eM m h).set nx (af B)):=cA.set λr hr=>by rw[bX,hk.fresh]at hr;cases hr
 have hr:=hr0.trans Y;have hgiv:∀i,aN m i=ai->bF ((eM m h).set nx (af B)) (nm i)=ah:=λi hi=>by
  have hlt:=hm.lt hinv hi;obtain⟨p,sz,n,hd⟩:=uu hm hi;rw[bN,PT.get_set,aA (by omega),hd];rfl
 refine jw.mk' hc hH ha (nm nx::Gs m) (λi hi=>by simp only[aL]at hi;subst hi;simp) (λn hn=>?_) (λi hi b' Z=>?_) (λJ I d hw1 hw0 U=>?_) hrd ?_ ?_ hr (hk.set Y (by omega) (by omega) hB) (by omega)
 .refine kY hinv hr λi e=>?_
  subst e;rw[PT.get_set,aA (λe=>hn (by rw[e];simp)),jk,aA];intro hb;exact hn (cM _ (lQ.2 hb))
 .rcases bp.1 hi with rfl|hi
  .exact⟨b0,by rw[aD (by simp),iw]⟩
  .obtain⟨j,rfl,hj⟩:=ox.1 hi;rw[hgiv j hj]at Z;cases Z
 .have g:EQ h J I m:=λi hi=>by
   have hlt:=hm.lt hinv hi;have hmem:nm i∈nm nx::Gs m:=cM _ (lQ.2 hi);exact⟨hw0 _ hmem (λhc=>by simp only[aL]at hc;have:=li hc;omega),by rw[U _ hmem,hgiv i hi]⟩
  refine ⟨λi hi b b' hb M=>?_,λy hy=>hval J I y d g hy⟩;rcases bp.1 hi with rfl|hi'
  .rw[hw1 _ (by simp),iw]at hb;rw[U _ hi,bN,PT.get_set,aD rfl]at M;simp only[ak]at hb;subst hb;exact hblk J I d g b' M
  .obtain⟨j,rfl,hj⟩:=ox.1 hi';rw[U _ hi,hgiv j hj]at M;cases M
 .intro n hn;rw[bz];rcases bp.1 hn with rfl|hn
  .rw[eo,ca.2 rfl];simp
  .obtain⟨j,rfl,hj⟩:=ox.1 hn;rw[eo,hj];rfl
 .intro n hn;simp only[aL]at hn;subst hn;rw[eo];omega
theorem jw.wrt {s:SOp} (hinv:mr h nx) (hc:dA P o.op=af s) {H:oH} (hH:H.get=bF h) {id:Nat} {y0:AV} {rdl:ι} {b0:xE} {k:Nat} (ha:eZ s (Km e h) H k=af ⟨y0,rdl,[nm id],[(nm id,b0)],[]⟩) {B0 B:iE} (Z:h.get id=af B0) {v:TV} {m rd:Nat} (hm:dY h m) (hmid:aN m id=aj)
 (hrow:mZ B=mZ B0) (hB:∀ty l,B= .cells ty l->lh ((eM m h).set id (af B)) l=ai)
 (hblk:∀J I,wa J I->EQ h J I m->∀b',kN ((eM m h).set id (af B)) B=af b'->kh J I b0 b')
 (hval:∀J I y,wa J I->EQ h J I m->cB ((eM m h).set id (af B)) v=af y->l_ J I y0 y)
 (hrd:∀n∈rdl,aN rd (ow n)=ai):jw P o aj e h nx v rd (m|||kZ id) ((eM m h).set id (af B)) nx:=by
 have hk:=hinv.kill m;have hr0:=cA.kill m h;have hkid:(eM m h).get id=af B0:=by rw[jk,hmid];simpa using Z
 have Y:cA (eM m h) ((eM m h).set id (af B)):=cA.set λr hr=>by rw[bX,hkid]at hr;rw[hrow];exact hr
 have hr:=hr0.trans Y;have hgiv:∀i,aN m i=ai->bF ((eM m h).set id (af B)) (nm i)=ah:=λi hi=>by
  have hne:i≠id:=λe=>by rw[e,hmid]at hi;cases hi
  obtain⟨p,sz,n,hd⟩:=uu hm hi;rw[bN,PT.get_set,aA hne,hd];rfl
 refine jw.mk' hc hH ha (nm id::Gs m) (λi hi=>by simp only[aL]at hi;subst hi;simp) (λn hn=>?_) (λi hi b' hb'=>?_) (λJ I d hw1 hw0 U=>?_) hrd ?_ (by simp) hr (hk.set Y (hinv.low id B0 Z) (by omega) hB) (by omega)
 .refine kY hinv hr λi e=>?_
  subst e;rw[PT.get_set,aA (λe=>hn (by rw[e];simp)),jk,aA];intro hb;exact hn (cM _ (lQ.2 hb))
 .rcases bp.1 hi with rfl|hi
  .exact⟨b0,by rw[aD (by simp),iw]⟩
  .obtain⟨j,rfl,hj⟩:=ox.1 hi;rw[hgiv j hj]at hb';cases hb'
 .have g:EQ h J I m:=λi hi=>by
   have hne:i≠id:=λe=>by rw[e,hmid]at hi;cases hi
   have hmem:nm i∈nm id::Gs m:=cM _ (lQ.2 hi);exact⟨hw0 _ hmem (λhc=>by simp only[aL]at hc;exact hne (li hc)),by rw[U _ hmem,hgiv i hi]⟩
  refine ⟨λi hi b b' hb M=>?_,λy hy=>hval J I y d g hy⟩;rcases bp.1 hi with rfl|hi'
  .rw[hw1 _ (by simp),iw]at hb;rw[U _ hi,bN,PT.get_set,aD rfl]at M;simp only[ak]at hb;subst hb;exact hblk J I d g b' M
  .obtain⟨j,rfl,hj⟩:=ox.1 hi';rw[U _ hi,hgiv j hj]at M;cases M
 .intro n hn;rw[bz];rcases bp.1 hn with rfl|hn
  .rw[eo,ca.2 rfl];simp
  .obtain⟨j,rfl,hj⟩:=ox.1 hn;rw[eo,hj];rfl
theorem Nx (h:bl) {z:ξ} {I:List TV} (J:K9 z=af I):∀len,cU h (aG len I).flatten=af ((repl z len).map .f)
 |0=>rfl
 |n+1=>by
  rw[List.replicate_succ,List.flatten_cons,repl,cE];refine nP ?_ (Nx h J n);rw[(v8 h J).1];simp only[AF];rfl
theorem XQ {H:oH} (Z:H.get=bF h) {T:Ty} {v:TV} {U:List T.den} {m:Nat} {y:AV} (I:EA h (.sl T) v=af (U,m)) (J:cB h v=af y):∃rd,y.row? H T.size=af ((U.flatMap (bU T)).map .f,U.length,rd)/\∀n∈rd,∃i,n=nm i/\aN m i=ai:=by
 have fl:=λM:List T.den=>fR (bG T) M
 have tk:∀M:List T.den,(M.flatMap (bU T)).take (M.length*T.size)=M.flatMap (bU T):=λM=>by rw[<- fl,cW]
 cases v with
 |f S x=>
  simp only[EA,iT]at I;split at I
  .rename_i z Y;simp only[ak,aE]at I;obtain⟨rfl,_⟩:=I;obtain⟨e,rfl⟩:=jv Y;subst e;simp only[cB,ak]at J;subst J;refine ⟨[],?_,by simp⟩;simp only[gV,AV.row?];rw[aD (bH (by rw[fl x];exact bV _)),tk]
  .cases I
 |emp=>
  simp only[EA,iT,ak,aE]at I;obtain⟨rfl,_⟩:=I;simp only[cB,ak]at J;subst J;exact⟨[],rfl,by simp⟩
 |nil=>
  simp only[EA,iT,ak,aE]at I;obtain⟨rfl,_⟩:=I;simp only[cB,ak]at J;subst J;exact⟨[],rfl,by simp⟩
 |row id=>
  simp only[EA,iT]at I;split at I
  .rename_i ty p S xs hb;split at I
   .rename_i z Y;simp only[ak,aE]at I;obtain⟨rfl,rfl⟩:=I;obtain⟨e,rfl⟩:=jv Y;cases e;simp only[cB,eL,hb,ak]at J;subst J;unfold fK;split
    .rename_i hp;simp only[av,c8]at hp;have:xs=[]:=gW.1 hp.2;subst this;exact⟨[],rfl,by simp⟩
    .rename_i hp;have hg:H.get (nm id)=af ⟨ty,.fz (xs.flatMap (bU T))⟩:=by rw[Z,bN,hb];simp only[aI,kN,aA hp]
     refine ⟨[nm id],?_,λn hn=>?_⟩
     .simp only[AV.row?,hg,c7,bI,BC.isCells,BC.len,kT];rw[aD (bH (by rw[fl xs];exact bV _))];simp only[BC.toMx,<-kS,tk]
     .simp only[aL]at hn;exact⟨id,hn,ca.2 rfl⟩
   .cases I
  .cases I
 |agg l=>simp[EA,Ty.one]at I
 |fel T xs j hj off=>simp[EA,iT]at I
 |pel id sz j off=>simp[EA,iT]at I
 |ptr id off=>simp[EA,iT]at I
 |csl id off z=>simp[EA,iT]at I
 |mp id=>simp[EA,iT]at I
 |rtl id jj=>simp[EA,iT]at I
 |tup q=>simp[EA,iT]at I
 |clo f q=>simp[EA,iT]at I
 |undef=>simp[EA,iT]at I
 |np=>simp[EA,iT]at I
 |anyb=>simp[EA,iT]at I
theorem VD {v:TV} {y:AV} (I:cB h v=af y) (hc:v.isC=ai):gU y.cs=ai:=by
 rw[Pb (Ps I hc)];simp only[gU,Bool.and_true];exact Ps I hc
theorem ZO (T:Ty) (x:T.den):gU ((bU T x).map .f)=ai:=by
 have:∀l:List FV,(∀x∈l,x.isCell=ai)->gU (l.map .f)=ai:=by
  intro l hl;induction l with
  |nil=>rfl
  |cons z r I=>simp only[gB,gU,av];exact⟨hl z (by simp),I λx J=>hl x (by simp[J])⟩
 exact this _ (oE T x)
theorem h_ {T:Ty} {v:TV} {x:T.den} {m:Nat} {y:AV} (I:iT h T v=af (x,m)) (J:cB h v=af y):gU y.cs=ai:=by
 cases v with
 |f S v=>simp only[cB,ak]at J;subst J;rw[AZ];exact ZO S v
 |emp=>exact VD J rfl
 |nil=>exact VD J rfl
 |row id=>exact VD J rfl
 |fel T xs j hj off=>simp[iT]at I
 |pel id sz j off=>simp[iT]at I
 |ptr id off=>simp[iT]at I
 |csl id off z=>simp[iT]at I
 |mp id=>simp[iT]at I
 |rtl id M=>simp[iT]at I
 |agg q=>simp[iT]at I
 |tup q=>simp[iT]at I
 |clo f q=>simp[iT]at I
 |undef=>simp[iT]at I
 |np=>simp[iT]at I
 |anyb=>simp[iT]at I
theorem IQ {T:Ty} (M:T.one=ai) {v:TV} {x:T.den} {m:Nat} (I:iT h T v=af (x,m)):v.isC=ai:=by
 cases v with
 |f S v=>
  simp only[iT]at I;split at I
  .rename_i z J;obtain⟨e,_⟩:=jv J;subst e;exact M
  .cases I
 |emp=>rfl
 |nil=>rfl
 |row id=>rfl
 |fel T xs j hj off=>simp[iT]at I
 |pel id sz j off=>simp[iT]at I
 |ptr id off=>simp[iT]at I
 |csl id off z=>simp[iT]at I
 |mp id=>simp[iT]at I
 |rtl id U=>simp[iT]at I
 |agg q=>simp[iT]at I
 |tup q=>simp[iT]at I
 |clo f q=>simp[iT]at I
 |undef=>simp[iT]at I
 |np=>simp[iT]at I
 |anyb=>simp[iT]at I
theorem Up {a b:List TV} (I:kJ a=ai) (hb:kJ b=ai):kJ (a++b)=ai:=by
 induction a with
 |nil=>exact hb
 |cons z r J=>simp only[kJ,av,gC]at I ⊢;exact⟨I.1,J I.2⟩
theorem um:∀(n:Nat) (T:Ty) (l:List TV) (x:T.den) (m:Nat) (r:List TV),fm h n T l=af (x,m,r)->∃a,l=a++r/\kJ a=ai
 |0,_,_,_,_,_,hp=>by simp[fm]at hp
 |n+1,.st t,l,x,m,r,hp=>um n t l x m r hp
 |n+1,.pr a b,l,x,m,r,hp=>by
  simp only[fm]at hp;split at hp
  .rename_i I m1 r1 h1;split at hp
   .rename_i J m2 r2 h2;simp only[ak,aE]at hp;obtain⟨_,_,rfl⟩:=hp;obtain⟨a1,rfl,U⟩:=um n a l I m1 r1 h1;obtain⟨a2,rfl,M⟩:=um n b r1 J m2 r2 h2;exact⟨a1++a2,by simp,Up U M⟩
   .cases hp
  .cases hp
 |n+1,.un,l,x,m,r,hp=>by
  simp only[fm,ak,aE]at hp;obtain⟨_,_,rfl⟩:=hp;exact⟨[],rfl,rfl⟩
 |n+1,.ex,l,x,m,r,hp=>by
  simp only[fm]at hp;split at hp
  .rename_i I m1 r1 h1;simp only[ak,aE]at hp;obtain⟨_,_,rfl⟩:=hp;exact um n N0 l I m1 r1 h1
  .cases hp
 |n+1,.sm,l,x,m,r,hp=>by
  simp only[fm]at hp;split at hp
  .rename_i I m1 r1 h1;simp only[ak,aE]at hp;obtain⟨_,_,rfl⟩:=hp;exact um n Nu l I m1 r1 h1
  .cases hp
 |n+1,.int k,l,x,m,r,hp=>by
  simp only[fm]at hp;split at hp
  .rename_i c q;split at hp
   .rename_i I m1 h1;simp only[ak,aE]at hp;obtain⟨_,_,rfl⟩:=hp;exact⟨[c],rfl,by simp[kJ,IQ rfl h1]⟩
   .cases hp
  .cases hp
 |n+1,.bool,l,x,m,r,hp=>by
  simp only[fm]at hp;split at hp
  .rename_i c q;split at hp
   .rename_i I m1 h1;simp only[ak,aE]at hp;obtain⟨_,_,rfl⟩:=hp;exact⟨[c],rfl,by simp[kJ,IQ rfl h1]⟩
   .cases hp
  .cases hp
 |n+1,.str,l,x,m,r,hp=>by
  simp only[fm]at hp;split at hp
  .rename_i c q;split at hp
   .rename_i I m1 h1;simp only[ak,aE]at hp;obtain⟨_,_,rfl⟩:=hp;exact⟨[c],rfl,by simp[kJ,IQ rfl h1]⟩
   .cases hp
  .cases hp
 |n+1,.sl t,l,x,m,r,hp=>by
  simp only[fm]at hp;split at hp
  .rename_i c q;split at hp
   .rename_i I m1 h1;simp only[ak,aE]at hp;obtain⟨_,_,rfl⟩:=hp;exact⟨[c],rfl,by simp[kJ,IQ rfl h1]⟩
   .cases hp
  .cases hp
theorem LB {T:Ty} {v:TV} {x:T.den} {m:Nat} {y:AV} (J:EA h T v=af (x,m)) (I:cB h v=af y):gU y.cs=ai:=by
 cases v with
 |agg l=>
  simp only[EA]at J;split at J
  .cases J
  .split at J
   .rename_i M m1 h1;obtain⟨a,e,Y⟩:=um 40 T l M m1 [] h1;rw[fJ]at e;subst e;simp only[cB]at I;split at I
    .rename_i Z hl;simp only[ak]at I;subst I;exact sO hl Y
    .cases I
   .cases J
 |f S v=>exact h_ (v:=.f S v) J I
 |fel T xs j hj off=>exact h_ (v:=.fel T xs j hj off) J I
 |pel id sz j off=>exact h_ (v:=.pel id sz j off) J I
 |ptr id off=>exact h_ (v:=.ptr id off) J I
 |csl id off z=>exact h_ (v:=.csl id off z) J I
 |row id=>exact h_ (v:=.row id) J I
 |emp=>exact h_ (v:=.emp) J I
 |nil=>exact h_ (v:=.nil) J I
 |mp id=>exact h_ (v:=.mp id) J I
 |rtl id U=>exact h_ (v:=.rtl id U) J I
 |tup q=>exact h_ (v:=.tup q) J I
 |clo g q=>exact h_ (v:=.clo g q) J I
 |undef=>exact h_ (v:=.undef) J I
 |np=>exact h_ (v:=.np) J I
 |anyb=>exact h_ (v:=.anyb) J I
theorem rL {u:TV} {y:AV} (I:cB h u=af y):∀(n:Nat) (T:Ty) (v:T.den) (off sz:Nat) (z:T.den) (m:Nat),hX h u n T v off sz=af (z,m)->gU y.cs=ai
 |0,_,_,_,_,_,_,hg=>by simp[hX]at hg
 |n+1,.st t,v,off,sz,z,m,hg=>by
  simp only[hX]at hg;split at hg
  .rename_i q hq;split at hq
   .exact LB hq I
   .cases hq
  .exact rL I n t v off sz z m hg
 |n+1,.pr a b,v,off,sz,z,m,hg=>by
  simp only[hX]at hg;split at hg
  .split at hg
   .rename_i J m1 h1;exact rL I n a v.1 off sz J m1 h1
   .cases hg
  .split at hg
   .rename_i J m1 h1;exact rL I n b v.2 _ sz J m1 h1
   .cases hg
 |n+1,.un,v,off,sz,z,m,hg=>by simp[hX]at hg
 |n+1,.ex,v,off,sz,z,m,hg=>by
  simp only[hX]at hg;split at hg
  .rename_i q hq;split at hq
   .exact LB hq I
   .cases hq
  .split at hg
   .rename_i J m1 h1;exact rL I n N0 _ off sz J m1 h1
   .cases hg
 |n+1,.sm,v,off,sz,z,m,hg=>by
  simp only[hX]at hg;split at hg
  .rename_i q hq;split at hq
   .exact LB hq I
   .cases hq
  .split at hg
   .rename_i J m1 h1;exact rL I n Nu _ off sz J m1 h1
   .cases hg
 |n+1,.int k,v,off,sz,z,m,hg=>by
  simp only[hX]at hg;split at hg
  .exact h_ hg I
  .cases hg
 |n+1,.bool,v,off,sz,z,m,hg=>by
  simp only[hX]at hg;split at hg
  .exact h_ hg I
  .cases hg
 |n+1,.str,v,off,sz,z,m,hg=>by
  simp only[hX]at hg;split at hg
  .exact h_ hg I
  .cases hg
 |n+1,.sl t,v,off,sz,z,m,hg=>by
  simp only[hX]at hg;split at hg
  .exact h_ hg I
  .cases hg
theorem LF (l:List FV):yD (l.map .f)=af l:=by
 induction l with
 |nil=>rfl
 |cons x r I=>simp only[gB,yD,I]
theorem Dq (l:List FV):pU (l.map .f)= .fz l:=by unfold pU;rw[LF]
theorem Hz:∀{a b:List TV},kJ a=ai->kJ b=ai->kJ (a++b)=ai
 |[],_,_,hb=>hb
 |x::r,b,I,hb=>by
  simp only[kJ,av]at I;simp only[gC,kJ,av];exact⟨I.1,Hz I.2 hb⟩
theorem F9 {I:List TV} (J:kJ I=ai):∀n,kJ (aG n I).flatten=ai
 |0=>rfl
 |n+1=>by rw[List.replicate_succ,List.flatten_cons];exact Hz J (F9 J n)
theorem ahd {H:oH} (J:H.get=bF h) {id ty:Nat} {l:List TV} {I:List AV} (hb:h.get id=af (.cells ty l)) (hl:cU h l=af I) {n sz:Nat} (hn:l.length=n*sz):AV.row? H sz (.row (nm id) sz n)=af (I,n,[nm id]):=by
 have hg:H.get (nm id)=af ⟨ty,.mx I⟩:=by rw[J,bN,hb];simp only[aI,kN,hl]
 have hln:=il hl;simp only[AV.row?,c7,bI,hg,BC.isCells,kT,BC.len,BC.toMx];rw[aD (bH (by omega)),fw (by omega)]
variable (hinv:mr h nx) (hi:uj e h)
include hinv hi
theorem an9 {con:FuncId->Option cq} {b9:TypeId->Option Ty} {ty:TypeId} {sz len:Nat} {z:ξ} {parts:List (Nat×Nat×Operand)} (hcm:Ep (b9 ty)=ah) (hc:dA P o.op=af (.bsl ty sz len z parts)) (hk:d_ con b9 (.op (.bsl ty sz len z parts)) e h nx K=af r):k9 P o aj e h nx K r:=by
 obtain⟨H,hH⟩:=jV h;simp only[d_,hcm]at hk;split at hk
 .rename_i T zc hT Z;split at hk
  .rename_i hs;have hs:=aw hs;subst hs;split at hk
   .rename_i cs hf;split at hk
    .rename_i xs m hp;obtain⟨cs',h1,h2,_⟩:=DP hi parts _ cs _ hf (Nx h Z len);have hm:=O_ len cs xs m hp;refine ⟨_,_,_,_,_,hk,jw.new hinv hc hH (y0:=if len=0 then .emp else .row (nm nx) T.size len) (rdl:=[]) (b0:=⟨ty,pU cs'⟩) (by simp only[eZ,h1]) hm (λ_ _ he=>by cases he) (λH1 H2 d g b' I=>?_) (λH1 H2 y d g J=>?_) (by simp)⟩
     .simp only[kN]at I;split at I
      .cases I
      rw[ak]at I;subst I;obtain⟨Y,U⟩:=ou cs';refine kh.cells U rfl ?_ λx M=>?_
      .rw[Y];exact (Dk d len cs xs m cs' hp h2 g).1
      .simp only[BC.toMx]at M;obtain⟨q,hq,rfl⟩:=dv.1 M;exact sh T _ q hq
     .simp only[cB,bX,PT.get_set,bI,aI,mZ,fK,ak]at J;rw[(Dk d len cs xs m cs' hp h2 g).2]at J;split at J
      .rename_i hq;simp only[av,c8]at hq;subst J;rw[aD hq.2];exact l_.refl d _
      .rename_i hq;subst J;rw[aA (λh0=>hq (by subst h0;rfl))];exact l_.refl d _
    .cases hk
   .cases hk
  .cases hk
 .cases hk
theorem ana {con:FuncId->Option cq} {b9:TypeId->Option Ty} {ty:TypeId} {sz bytes:Nat} {s x:Operand} (hcm:Ep (b9 ty)=ah) (hc:dA P o.op=af (.app ty sz bytes s x)) (hk:d_ con b9 (.op (.app ty sz bytes s x)) e h nx K=af r):k9 P o aj e h nx K r:=by
 obtain⟨H,hH⟩:=jV h;have hfr:=hinv.fresh;simp only[d_,hcm]at hk;split at hk
 .rename_i T b y hT hv hv2;split at hk
  .rename_i hs;have hs:=aw hs;subst hs;split at hk
   .rename_i J m hys;obtain⟨yb,h1,h2⟩:=bP hi hv;obtain⟨yy,h3,h4⟩:=bP hi hv2;obtain⟨rdl,h5,h6⟩:=XQ hH hys h4;have onEmp:∀(rd':Nat),(∀n∈rdl,aN rd' (ow n)=ai)->JH yb=ai->Le yb .emp->a8 (al J) bytes=ai->jw P o aj e h nx (.row nx) rd' (kZ nx) (h.set nx (af (.rows ty ai T J))) (nx+1):=by
     intro rd' hrd' he hle hroom;have hr1:cA h (h.set nx (af (.rows ty ai T J))):=cA.set λr hr=>by rw[bX,hfr]at hr;cases hr
     have hyb:∀id sz' n,yb≠ .row id sz' n:=by rintro id sz' n rfl;cases he
     have I:eZ (.app ty T.size bytes s x) (Km e h) H (nm nx)=if al J==0 then af ⟨yb,rdl,[],[],[]⟩ else af ⟨.row (nm nx) T.size (al J),rdl,[nm nx],[(nm nx,⟨ty,pU ((J.flatMap (bU T)).map .f)⟩)],[nm nx]⟩:=by
      simp only[eZ,h1,h3,h5];cases yb with
      |row id sz' n=>exact cX rfl (hyb id sz' n)
      |_=>simp only[he,hroom,iW,bI]
     by_cases hl:al J=0
     .rw[hl]at I;simp only[c7,bI]at I;have hnil:J=[]:=gW.1 hl;subst hnil;refine jw.mk' hc hH I [] (by simp) (λn _=>?_) (by simp) (λH1 H2 d _ _ _=>⟨by simp,λy M=>?_⟩) hrd' (by simp) (by simp) hr1 (hinv.set hr1 (by omega) (by omega) λ_ _ he=>by cases he) (by omega)
      .by_cases hn:n=nm nx
       .subst hn;rw[bN,bN,PT.get_set,aD rfl,hfr];rfl
       .refine kY hinv hr1 λi e=>?_
        subst e;rw[PT.get_set,aA (λe=>hn (by rw[e]))]
      .simp only[cB,bX,PT.get_set,bI,aI,mZ,fK,j8,c7,iW,ak]at M;subst M;exact hle.toH d
     .rw[aA (by simpa using hl)]at I;rw[Dq]at I;have key:=jw.new (m:=0) (rd:=rd') hinv hc hH I (B:=.rows ty ai T J) (v:=.row nx) (dY.zero h) (λ_ _ he=>by cases he) (λH1 H2 d g b' Z=>by
       simp only[kN]at Z;rw[aA (by simpa using hl)]at Z;simp only[ak]at Z;subst Z;exact kh.refl d _) (λH1 H2 y d g M=>by
       simp only[cB,bX,PT.get_set,bI,aI,mZ,fK]at M;rw[aA (by simpa using hl)]at M;simp only[ak]at M;subst M;exact l_.refl d _) hrd'
      rw[zl]at key;exact key
    split at hk
    .rename_i id;split at hk
     .rename_i ty' p S xs0 hb;split at hk
      .rename_i xs hxs;obtain⟨ee,rfl⟩:=jv hxs;cases ee;split at hk
       .rename_i hcond;simp only[av,c8,eJ]at hcond;obtain⟨rfl,hmid⟩:=hcond;obtain⟨hroom,hk⟩:=ef hk;simp only[cB,eL,hb,ak]at h2;have hidlt:=hinv.low id _ hb;have hne:nx≠id:=by omega
        have hrd:∀n∈rdl,aN (kZ id|||m) (ow n)=ai:=λn hn=>by
         obtain⟨i,rfl,hm⟩:=h6 n hn;rw[eo,bz,hm];simp
        generalize hh':(h.set id (af (.dead p T.size (al xs0)))).set nx (af (.rows ty' p T (xs0++J)))=h' at hk;have hrA:cA h (h.set id (af (.dead p T.size (al xs0)))):=cA.set λr hr=>by rw[bX,hb]at hr;exact hr
        have hg2:∀i,h'.get i=if i=nx then af (.rows ty' p T (xs0++J)) else if i=id then af (.dead p T.size (al xs0)) else h.get i:=λi=>by rw[<- hh',PT.get_set,PT.get_set]
        have hr:cA h h':=by
         rw[<- hh'];refine hrA.trans (cA.set λr hr=>?_);rw[bX,PT.get_set,aA hne,hfr]at hr;cases hr
        have hinv':mr h' (nx+1):=by
         refine ⟨λi ty l hil=>?_,λi c hic=>?_⟩
         .rw[hg2]at hil;split at hil
          .cases hil
          .split at hil
           .cases hil
           .exact jg hr l (hinv.cells i ty l hil)
         .rw[hg2]at hic;split at hic
          .omega
          .split at hic
           .omega
           .have:=hinv.low i c hic;omega
        have hsame:∀n,n≠nm nx->n≠nm id->bF h' n=bF h n:=λn h1 h2=>kY hinv hr λi e=>by
         subst e;rw[hg2,aA (λe=>h1 (by rw[e])),aA (λe=>h2 (by rw[e]))]
        have hdead:bF h' (nm id)=ah:=by rw[bN,hg2,aA (by omega),aD rfl];rfl
        have hnew:bF h' (nm nx)=if p&&(xs0++J).length==0 then ah else af ⟨ty',.fz ((xs0++J).flatMap (bU T))⟩:=by rw[bN,hg2,aD rfl];rfl
        have hval:cB h' (.row nx)=af (fK p nx T.size (xs0++J).length):=by simp only[cB,bX,hg2,bI,aI,mZ]
        have hwm:∀n,n=nm nx\/n=nm id->aN (kZ id|||kZ nx) (ow n)=ai:=λn hn=>by
         rcases hn with rfl|rfl<;>rw[eo,bz,ca.2 rfl]<;>simp
        refine ⟨_,_,_,_,_,hk,?_⟩;by_cases hp:(p&&xs0.length==0)=ai
        ·
         have hyb:yb= .emp:=by rw[<- h2];unfold fK;rw[aD hp]
         subst hyb;simp only[av,c8]at hp;obtain⟨rfl,hl0⟩:=hp;have hnil:xs0=[]:=gW.1 hl0;subst hnil;have hroom':a8 (al J) bytes=ai:=by simpa using hroom
         have I:eZ (.app ty' T.size bytes s x) (Km e h) H (nm nx)=if al J==0 then af ⟨.emp,rdl,[],[],[]⟩ else af ⟨.row (nm nx) T.size (al J),rdl,[nm nx],[(nm nx,⟨ty',pU ((J.flatMap (bU T)).map .f)⟩)],[nm nx]⟩:=by
          simp only[eZ,h1,h3,h5,JH,hroom',iW,bI]
         have hdead0:bF h (nm id)=ah:=by rw[bN,hb];rfl
         by_cases hl:al J=0
         .rw[hl]at I;simp only[c7,bI]at I;have hnil:J=[]:=gW.1 hl;subst hnil;refine jw.mk' hc hH I [] (by simp) (λn _=>?_) (by simp) (λH1 H2 d _ _ _=>⟨by simp,λy M=>?_⟩) hrd (by simp) (by simp) hr hinv' (by omega)
          .by_cases hn:n=nm nx
           .subst hn;rw[hnew,bN,hfr];rfl
           .by_cases hn2:n=nm id
            .subst hn2;rw[hdead,hdead0]
            .exact hsame n hn hn2
          .rw[hval]at M;simp only[fK,fJ,j8,c7,iW,bI,ak]at M;subst M;exact l_.refl d _
         .rw[aA (by simpa using hl),Dq]at I;refine jw.mk' hc hH I [nm nx] (λi hi=>hi) (λn hn=>?_) (λi hi b' _=>⟨_,by rw[aD hi];simp only[aL]at hi;subst hi;exact iw _ _⟩) (λH1 H2 d hw1 _ hw2=>⟨λi hi b b' Y U=>?_,λy M=>?_⟩) hrd (λn hn=>hwm n (.inl (by simpa using hn))) (λn hn=>by simp only[aL]at hn;subst hn;rw[eo];omega) hr hinv' (by omega)
          .have hn1:n≠nm nx:=by simpa using hn
           by_cases hn2:n=nm id
           .subst hn2;rw[hdead,hdead0]
           .exact hsame n hn1 hn2
          .simp only[aL]at hi;subst hi;rw[hw1 _ (by simp),iw]at Y;rw[hw2 _ (by simp),hnew,aA (by simpa using hl)]at U;simp only[ak,md]at Y U;subst Y;subst U;exact kh.refl d _
          .rw[hval]at M;simp only[fK,md]at M;rw[aA (by simpa using hl)]at M;simp only[ak]at M;subst M;exact l_.refl d _
        .have hyb:yb= .row (nm id) T.size xs0.length:=by rw[<- h2];unfold fK;rw[aA hp]
         subst hyb;have hg:H.get (nm id)=af ⟨ty',.fz (xs0.flatMap (bU T))⟩:=by rw[hH,bN,hb];simp only[aI,kN,aA hp]
         have fl:=fR (bG T) xs0;have tk:(xs0.flatMap (bU T)).take (xs0.length*T.size)=xs0.flatMap (bU T):=by rw[<- fl,cW]
         have hmem:Zh (nm id) rdl=aj:=by
          cases hx:Zh (nm id) rdl with
          |false=>rfl
          |true=>
           obtain⟨i,e,hm⟩:=h6 _ (akq.1 hx);rw[<- li e,hmid]at hm;cases hm
         have I:eZ (.app ty' T.size bytes s x) (Km e h) H (nm nx)=af ⟨.row (nm nx) T.size (xs0.length+J.length),nm id::rdl,[nm nx,nm id],[(nm nx,⟨ty',.fz ((xs0++J).flatMap (bU T))⟩)],[nm nx]⟩:=by
          have hcnd:(T.size==T.size&& !(Zh (nm id) rdl)&&(BC.fz (xs0.flatMap (bU T))).isCells&&eU (xs0.length*T.size) (BC.fz (xs0.flatMap (bU T))).len&&ty'==ty'&&a8 (xs0.length+J.length) bytes)=ai:=by
           have:eU (xs0.length*T.size) (BC.fz (xs0.flatMap (bU T))).len=ai:=bH (by simp only[BC.len];omega);rw[this,hmem,hroom];simp[BC.isCells]
          simp only[eZ,h1,h3,h5,hg,hcnd,bI,BC.toMx,<-kS,tk,<-cE,Dq,List.flatMap_append]
         have hne2:¬((p&&(xs0++J).length==0)=ai):=by
          simp only[av,c8,bm]at hp ⊢;intro hh;exact hp ⟨hh.1,by omega⟩
         refine jw.mk' hc hH I [nm nx,nm id] (λi hi=>hi) (λn hn=>?_) (λi hi b' Z=>?_) (λH1 H2 d hw1 _ hw2=>⟨λi hi b b' Y U=>?_,λy M=>?_⟩) (λn hn=>?_) (λn hn=>hwm n (by simpa using hn)) (λn hn=>by simp only[aL]at hn;subst hn;rw[eo];omega) hr hinv' (by omega)
         .simp only[bp,cF,gu,not_or]at hn;exact hsame n hn.1 hn.2
         .simp only[bp,cF,gu]at hi;rcases hi with rfl|rfl
          .exact⟨_,by rw[aD (by simp)];exact iw _ _⟩
          .rw[hdead]at Z;cases Z
         .simp only[bp,cF,gu]at hi;rcases hi with rfl|rfl
          .rw[hw1 _ (by simp),iw]at Y;rw[hw2 _ (by simp),hnew,aA hne2]at U;simp only[ak]at Y U;subst Y;subst U;exact kh.refl d _
          .rw[hw2 _ (by simp),hdead]at U;cases U
         .rw[hval]at M;simp only[fK]at M;rw[aA hne2]at M;simp only[bm,ak]at M;subst M;exact l_.refl d _
         .rcases bp.1 hn with rfl|hn
          .rw[eo,bz,ca.2 rfl];rfl
          .exact hrd n hn
       .cases hk
      .cases hk
     .cases hk
    .obtain⟨hroom,hk⟩:=ef hk;simp only[cB,ak]at h2;subst h2;exact⟨_,_,_,_,_,hk,onEmp m (λn hn=>by obtain⟨i,rfl,hm⟩:=h6 n hn;rw[eo];exact hm) rfl (Le.refl _) hroom⟩
    .obtain⟨hroom,hk⟩:=ef hk;simp only[cB,ak]at h2;subst h2;exact⟨_,_,_,_,_,hk,onEmp m (λn hn=>by obtain⟨i,rfl,hm⟩:=h6 n hn;rw[eo];exact hm) rfl Le.nilEmp hroom⟩
    .cases hk
   .cases hk
  .cases hk
 .cases hk
theorem adz {T:Ty} (xs I:List T.den):(U0 xs I).flatMap (bU T)=AI.splice (xs.flatMap (bU T)) 0 ((I.flatMap (bU T)).take (jd I.length xs.length*T.size)):=by
 have _:=hinv;have _:=hi;have fl:=λJ:List T.den=>fR (bG T) J
 have tk:∀(J:List T.den) n,(J.flatMap (bU T)).take (n*T.size)=(J.take n).flatMap (bU T):=by
  intro J;induction J with
  |nil=>intro n;simp
  |cons z r M=>
   intro n;cases n with
   |zero=>simp
   |succ n=>rw[fX,wG,fX,jb,List.take_append,bG,fw (by rw[bG];omega),show n*T.size+T.size-T.size=n*T.size from by omega,M n]
 have U:∀(J:List T.den) n,(J.flatMap (bU T)).drop (n*T.size)=(J.drop n).flatMap (bU T):=by
  intro J;induction J with
  |nil=>intro n;simp
  |cons z r M=>
   intro n;cases n with
   |zero=>simp
   |succ n=>rw[fX,wH,jb,vI,bG,sA (by rw[bG];omega),show n*T.size+T.size-T.size=n*T.size from by omega,M n,md]
 unfold U0 AI.splice;rw[tk,List.flatMap_append,fl,bC];have e1:I.take (jd I.length xs.length)=I.take xs.length:=by
  rcases Nat.le_total I.length xs.length with h|h
  .rw[show jd I.length xs.length=I.length from tm h,cW,fw h]
  .rw[show jd I.length xs.length=xs.length from Nat.min_eq_right h]
 rw[e1];have e2:min (jd I.length xs.length) I.length=jd I.length xs.length:=tm (Nat.min_le_left _ _);rw[e2];simp only[L6,md,bR];rw[U];congr 1;rcases Nat.le_total I.length xs.length with h|h
 .rw[show jd I.length xs.length=I.length from tm h]
 .rw[show jd I.length xs.length=xs.length from Nat.min_eq_right h,List.drop_length,sA h]
theorem an7 {con:FuncId->Option cq} {b9:TypeId->Option Ty} {sz:Nat} {d x:Operand} (hc:dA P o.op=af (.copy sz d x)) (hk:d_ con b9 (.op (.copy sz d x)) e h nx K=af r):k9 P o aj e h nx K r:=by
 obtain⟨H,Z⟩:=jV h;simp only[d_]at hk;split at hk
 .rename_i id y hv U;split at hk
  .rename_i ty p T xs hb;split at hk
   .rename_i hs;have hs:=aw hs;subst hs;split at hk
    .rename_i I m hys;split at hk
     .rename_i hcond;simp only[av,eJ]at hcond;obtain⟨hmid,rfl⟩:=hcond;obtain⟨yb,h1,h2⟩:=bP hi hv;obtain⟨yy,h3,h4⟩:=bP hi U;obtain⟨rdl,h5,h6⟩:=XQ Z hys h4;simp only[cB,eL,hb,fK,nV,cG,ey,ak]at h2;subst h2;have fl:=fR (bG T) xs;have fl2:=fR (bG T) I;have hg:H.get (nm id)=af ⟨ty,.fz (xs.flatMap (bU T))⟩:=by rw[Z,bN,hb];simp[kN]
      have hmem:Zh (nm id) rdl=aj:=by
       cases J:Zh (nm id) rdl with
       |false=>rfl
       |true=>
        obtain⟨i,e,hm⟩:=h6 _ (akq.1 J);rw[<- li e,hmid]at hm;cases hm
      have hle:jd I.length xs.length*T.size<=xs.length*T.size:=cL _ (Nat.min_le_right _ _);have Y:eZ (.copy T.size d x) (Km e h) H (nm nx)=af ⟨raw (.int .i64 (jd I.length xs.length)),nm id::rdl,[nm id],[(nm id,⟨ty,.fz ((U0 xs I).flatMap (bU T))⟩)],[]⟩:=by
       have hcnd:(T.size==T.size&& !(Zh (nm id) rdl)&&eU (xs.length*T.size) (BC.fz (xs.flatMap (bU T))).len)=ai:=by
        have:eU (xs.length*T.size) (BC.fz (xs.flatMap (bU T))).len=ai:=bH (by simp only[BC.len];omega);rw[this,hmem];simp
       have hput:(BC.fz (xs.flatMap (bU T))).put 0 (((I.flatMap (bU T)).map .f).take (jd I.length xs.length*T.size))=af (.fz ((U0 xs I).flatMap (bU T))):=by
        rw[<- kS];unfold BC.put;rw[aD]
        .simp only[LF];rw[adz hinv hi]
        .simp only[av];refine ⟨⟨rfl,bH ?_⟩,?_⟩
         .simp only[BC.len,bS,bC];omega
         .have:∀l:List FV,(∀x∈l,x.isCell=ai)->gU (l.map .f)=ai:=by
           intro l hl;induction l with
           |nil=>rfl
           |cons z r ih=>simp only[gB,gU,av];exact⟨hl z (by simp),ih λx J=>hl x (by simp[J])⟩
          exact this _ λx J=>sh T I x (gj J)
       simp only[eZ,h1,h3,hg,h5,hcnd,bI,hput]
      have hrow:mZ (.rows ty aj T (U0 xs I))=mZ (.rows ty aj T xs):=by
       have:(U0 xs I).length=xs.length:=by unfold U0;rw[bm,bC,mV];omega
       simp only[mZ,this]
      have key:=jw.wrt (m:=0) (v:=.f (.int .i64) (aP (jd (al I) (al xs)))) (rd:=kZ id|||m) hinv hc Z Y (B:=.rows ty aj T (U0 xs I)) hb (dY.zero h) (by simp) hrow (λ_ _ he=>by cases he) (λH1 H2 d g b' M=>by
       simp only[kN,nV,cG,ey,ak]at M;subst M;exact kh.refl d _) (λH1 H2 y d g hy=>by
       simp only[cB,ak]at hy;subst hy;exact l_.refl d _) (λn hn=>by
       rcases bp.1 hn with rfl|hn
       .rw[eo,bz,ca.2 rfl];rfl
       .obtain⟨i,rfl,hm⟩:=h6 n hn;rw[eo,bz,hm];simp)
      rw[zl]at key;exact⟨_,_,_,_,_,hk,key⟩
     .cases hk
    .cases hk
   .cases hk
  .cases hk
 .cases hk
theorem aik {con:FuncId->Option cq} {b9:TypeId->Option Ty} {sz:Nat} {x v:Operand} (hc:dA P o.op=af (.store sz x v)) (hk:d_ con b9 (.op (.store sz x v)) e h nx K=af r):k9 P o aj e h nx K r:=by
 obtain⟨H,hH⟩:=jV h;simp only[d_]at hk;split at hk
 .rename_i id off y hv hv2;obtain⟨yb,h1,h2⟩:=bP hi hv;obtain⟨J,h3,h4⟩:=bP hi hv2;simp only[cB,ak]at h2;subst h2;split at hk
  .rename_i ty l hb;split at hk
   .rename_i cs hcs;split at hk
    .rename_i hcond;simp only[av,c8]at hcond;obtain⟨h5,h6⟩:=Lb hcs h4;obtain⟨M,hl⟩:=fI h l (hinv.cells id ty l hb);have hg:H.get (nm id)=af ⟨ty,.mx M⟩:=by rw[hH,bN,hb];simp only[aI,kN,hl]
     have hcell:=sO h5 h6;have hlen:J.cs.length=sz:=by rw[il h5];exact hcond.1
     have hput:(BC.mx M).put off J.cs=af (.mx (splice M off J.cs)):=by
      unfold BC.put;rw[aD]
      .rfl
      .simp only[av];exact⟨⟨rfl,by simp only[BC.len];rw[hlen,il hl];exact hcond.2⟩,hcell⟩
     have Z:eZ (.store sz x v) (Km e h) H (nm nx)=af ⟨raw undef,[nm id],[nm id],[(nm id,⟨ty,.mx (splice M off J.cs)⟩)],[]⟩:=by
      simp only[eZ,h1,h3,LA,hg,hlen,c7,bI,hput]
     have hspl:∀h',cA h h'->cU h' (splice l off cs)=af (splice M off J.cs):=λh' hr=>s7 off (ic hr l M hl) (ic hr cs _ h5)
     have U:cA h (h.set id (af (.cells ty (splice l off cs)))):=cA.set λr hr=>by rw[bX,hb]at hr;cases hr
     have key:=jw.wrt (m:=0) (v:=.undef) (rd:=kZ id) hinv hc hH Z (B:=.cells ty (splice l off cs)) hb (dY.zero h) (by simp) rfl (λty' l2 he=>by cases he;exact kX _ _ _ (hspl _ U)) (λH1 H2 d g b' I=>by
      have:=hspl _ U;simp only[eM,sx,bI,kN,this,ak]at I;subst I;exact kh.refl d _) (λH1 H2 y d g hy=>by
      simp only[cB,ak]at hy;subst hy;exact l_.refl d _) (λn hn=>by simp only[aL]at hn;subst hn;rw[eo];exact ca.2 rfl)
     rw[zl]at key;exact⟨_,_,_,_,_,hk,key⟩
    .cases hk
   .cases hk
  .cases hk
 .rename_i id sz' j off y hv hv2;obtain⟨yb,h1,h2⟩:=bP hi hv;obtain⟨J,h3,h4⟩:=bP hi hv2;simp only[cB,ak]at h2;subst h2;split at hk
  .rename_i ty p T xs hb;split at hk
   .rename_i hsz;have hsz:=aw hsz;subst hsz;obtain⟨hj,hk⟩:=ef hk;split at hk
    .rename_i z m hset;split at hk
     .cases hk
     .rename_i hmid;have hmid:aN m id=aj:=by simpa using hmid
      have hm:=AH 40 T _ off sz z m hset;obtain⟨j0,j1,j2⟩:=Fl hj;have hne:¬((p&&xs.length==0)=ai):=by simp only[av,c8];omega
      have hne2:¬((p&&(cz xs j z).length==0)=ai):=by unfold cz;rw[tu];exact hne
      have hg:H.get (nm id)=af ⟨ty,.fz (xs.flatMap (bU T))⟩:=by rw[hH,bN,hb];simp only[aI,kN,aA hne]
      have fl:=fR (bG T) xs;have hx:xs[j.toNat]? =af (aK xs j):=by
       unfold aK;rw[ay,aB j2];rfl
      have hle:(j.toNat+1)*T.size<=xs.length*T.size:=cL _ j2;rw[jb]at hle;have hso:∀H1 H2,wa H1 H2->EQ h H1 H2 m->YW H1 H2 J T (aK xs j) z off sz:=λH1 H2 d g=>wN d h4 40 T _ off sz z m hset g
      have hshape:J.cs.length=sz/\off+sz<=T.size/\gU J.cs=ai:=by
       have d0:wa (bF h) (bF (eM m h)):=λi b hb=>by
        obtain⟨i',c,rfl,g1,g2⟩:=jH hb;rw[jk]at g1;by_cases ht:aN m i'=ai
        .obtain⟨pp,ss,nn,g3⟩:=uu hm ht;rw[jk]at g3;rw[g3]at g1;cases g1;cases g2
        .rw[aA ht]at g1;exact⟨b,by rw[bN,g1];simp only[aI];rw[<- Kn (cA.kill m h) (λty l e=>hinv.cells i' ty l (by rw[g1,e]))];exact g2⟩
       obtain⟨fs,q1,q2,q3,q4,q5⟩:=hso _ _ d0 (λi hi=>⟨rfl,by
        obtain⟨pp,ss,nn,g3⟩:=uu hm hi;rw[bN,g3];rfl⟩)
       refine ⟨by rw[<- q2,<-bS (f:=AV.f),q1.length],q3,?_⟩;exact rL h4 40 T _ off sz z m hset
      obtain⟨hlen,hoff,hcell⟩:=hshape;obtain⟨c',hput,Y,hc2⟩:∃c',(BC.fz (xs.flatMap (bU T))).put (j.toNat*T.size+off) J.cs=af c'/\c'.toMx=splice ((xs.flatMap (bU T)).map .f) (j.toNat*T.size+off) J.cs/\c'.isCells=ai:=by
       unfold BC.put;rw[aD]
       .split
        .rename_i l ys hl hys;simp only[BC.fz.injEq]at hl;subst hl;refine ⟨_,rfl,?_,rfl⟩;rw[qp hys];simp only[BC.toMx];unfold splice;simp[kS,List.map_drop]
        .exact⟨_,rfl,rfl,rfl⟩
       .simp only[av];exact⟨⟨rfl,bH (by simp only[BC.len];omega)⟩,hcell⟩
      have Z:eZ (.store sz x v) (Km e h) H (nm nx)=af ⟨raw undef,[nm id],[nm id],[(nm id,⟨ty,c'⟩)],[]⟩:=by
       simp only[eZ,h1,h3,LA,hg,hlen,c7,bI,hput]
      have hrow:mZ (.rows ty p T (cz xs j z))=mZ (.rows ty p T xs):=by
       unfold cz;simp only[mZ,tu]
      refine ⟨_,_,_,_,_,hk,jw.wrt hinv hc hH Z (B:=.rows ty p T (cz xs j z)) hb hm hmid hrow (λ_ _ he=>by cases he) (λH1 H2 d g b' I=>?_) (λH1 H2 y d g hy=>?_) (λn hn=>?_)⟩
      .simp only[kN,aA hne2,ak]at I;subst I;obtain⟨fs,q1,q2,q3,q4,q5⟩:=hso H1 H2 d g;have hfl:(cz xs j z).flatMap (bU T)=AI.splice (xs.flatMap (bU T)) (j.toNat*T.size+off) fs:=SM (bG T) xs j.toNat _ z hx off fs (by omega) q4;refine kh.cells hc2 rfl ?_ λx hx=>?_
       .rw[Y];simp only[BC.toMx];rw[hfl];have:(AI.splice (xs.flatMap (bU T)) (j.toNat*T.size+off) fs).map AV.f=AI.splice ((xs.flatMap (bU T)).map .f) (j.toNat*T.size+off) (fs.map .f):=by unfold AI.splice;simp[kS,List.map_drop]
        rw[this];exact (iu.refl d _).splice _ q1
       .simp only[BC.toMx]at hx;obtain⟨q,hq,rfl⟩:=dv.1 hx;exact sh T _ q hq
      .simp only[cB,ak]at hy;subst hy;exact l_.refl d _
      .simp only[aL]at hn;subst hn;rw[eo,bz,ca.2 rfl];simp
    .cases hk
   .cases hk
  .rename_i ty l hb;split at hk
   .rename_i hsz;simp only[av]at hsz;obtain⟨s1,s2,s3⟩:=hsz;have s1:=aw s1;have s2:=aw s2;have s3:=aw s3;subst s1;subst s2;subst s3;obtain⟨hj,hk⟩:=ef hk;obtain⟨j0,j1,j2⟩:=Fl hj;split at hk
    .rename_i cs hcs;split at hk
     .rename_i Y;have Y:=aw Y;obtain⟨h5,h6⟩:=Lb hcs h4;obtain⟨M,hl⟩:=fI h l (hinv.cells id ty l hb);have hg:H.get (nm id)=af ⟨ty,.mx M⟩:=by rw[hH,bN,hb];simp only[aI,kN,hl]
      have hcell:=sO h5 h6;have hlen:J.cs.length=1:=by rw[il h5];exact Y
      have e0:j.toNat*1+0=j.toNat:=by omega
      rw[e0]at h1;have hput:(BC.mx M).put j.toNat J.cs=af (.mx (splice M j.toNat J.cs)):=by
       unfold BC.put;rw[aD]
       .rfl
       .simp only[av];exact⟨⟨rfl,bH (by simp only[BC.len];rw[hlen,il hl];omega)⟩,hcell⟩
      have Z:eZ (.store 1 x v) (Km e h) H (nm nx)=af ⟨raw undef,[nm id],[nm id],[(nm id,⟨ty,.mx (splice M j.toNat J.cs)⟩)],[]⟩:=by
       simp only[eZ,h1,h3,LA,hg,hlen,c7,bI,hput]
      have hspl:∀h',cA h h'->cU h' (splice l j.toNat cs)=af (splice M j.toNat J.cs):=λh' hr=>s7 j.toNat (ic hr l M hl) (ic hr cs _ h5)
      have U:cA h (h.set id (af (.cells ty (splice l j.toNat cs)))):=cA.set λr hr=>by rw[bX,hb]at hr;cases hr
      have key:=jw.wrt (m:=0) (v:=.undef) (rd:=kZ id) hinv hc hH Z (B:=.cells ty (splice l j.toNat cs)) hb (dY.zero h) (by simp) rfl (λty' l2 he=>by cases he;exact kX _ _ _ (hspl _ U)) (λH1 H2 d g b' I=>by
       have:=hspl _ U;simp only[eM,sx,bI,kN,this,ak]at I;subst I;exact kh.refl d _) (λH1 H2 y d g hy=>by
       simp only[cB,ak]at hy;subst hy;exact l_.refl d _) (λn hn=>by simp only[aL]at hn;subst hn;rw[eo];exact ca.2 rfl)
      rw[zl]at key;exact⟨_,_,_,_,_,hk,key⟩
     .cases hk
    .cases hk
   .cases hk
  .cases hk
 .cases hk
theorem an2 {con:FuncId->Option cq} {b9:TypeId->Option Ty} {ty:TypeId} {sz bytes:Nat} {z:ξ} {l c:Operand} (hc:dA P o.op=af (.mksl ty sz bytes z l c)) (hk:d_ con b9 (.op (.mksl ty sz bytes z l c)) e h nx K=af r):k9 P o aj e h nx K r:=by
 cases hcm:Ep (b9 ty) with
 |none=>exact ail hinv hi hcm hc hk
 |some n=>
  obtain⟨H,hH⟩:=jV h;simp only[d_,hcm]at hk;split at hk
  .rename_i zc k a k' b J hv M;obtain⟨hck,hk⟩:=ef hk;rw[av]at hck;obtain⟨hcond,hn⟩:=hck;have hn:=bi hn;obtain⟨y,h1,h2⟩:=bP hi hv;obtain⟨y2,h3,Y⟩:=bP hi M;simp only[cB,ak]at h2 Y;subst h2;subst Y;have han:aT a=n:=by rw[hn];rfl
   obtain⟨_,_,hzc⟩:=v8 h J;refine ⟨_,_,_,_,_,hk,jw.new hinv hc hH (y0:=.row (nm nx) sz n) (rdl:=[]) (b0:=⟨ty,.fz (repl z n)⟩) (by simp only[eZ,h1,h3,gV,hcond,bI,han]) (dY.zero h) (λty' l' he=>?_) (λH1 H2 d g b' I=>?_) (λH1 H2 y d g U=>?_) (by simp)⟩
   .cases he;exact kX _ _ _ (Nx _ J n)
   .simp only[kN,Nx _ J n,ak]at I;subst I;refine kh.cells rfl rfl (iu.refl d _) λx Z=>?_
    exact l9 (sO (Nx h J n) (F9 hzc n)) x Z
   .simp only[cB,ak]at U;subst U;exact l_.refl d _
  .cases hk
theorem aqn {con:FuncId->Option cq} {b9:TypeId->Option Ty} {ty:TypeId} {sz len:Nat} {z:ξ} {parts:List (Nat×Nat×Operand)} (hc:dA P o.op=af (.bsl ty sz len z parts)) (hk:d_ con b9 (.op (.bsl ty sz len z parts)) e h nx K=af r):k9 P o aj e h nx K r:=by
 cases hcm:Ep (b9 ty) with
 |none=>exact an9 hinv hi hcm hc hk
 |some n=>
  obtain⟨H,hH⟩:=jV h;simp only[d_,hcm]at hk;split at hk
  .rename_i zc M;split at hk
   .rename_i cs hf;split at hk
    .cases hk
    .rename_i hl;have hl:len≠0:=λe=>hl (by rw[e];rfl)
     obtain⟨cs',h1,h2,h3⟩:=DP hi parts _ cs _ hf (Nx h M len);obtain⟨_,_,hzc⟩:=v8 h M;have hcs:=h3 (F9 hzc len);have hr:cA h ((eM 0 h).set nx (af (.cells ty cs))):=(cA.kill 0 h).trans (cA.set λr hr=>by rw[bX,(hinv.kill 0).fresh]at hr;cases hr);have J:=ic hr _ _ h2;refine ⟨_,_,_,_,_,hk,jw.new hinv hc hH (y0:=.row (nm nx) sz len) (rdl:=[]) (b0:=⟨ty,pU cs'⟩) (by simp only[eZ,h1,aA hl]) (dY.zero h) (λty' l' he=>?_) (λH1 H2 d g b' I=>?_) (λH1 H2 y d g U=>?_) (by simp)⟩
     .cases he;exact kX _ _ _ J
     .simp only[kN,J,ak]at I;subst I;obtain⟨Z,Y⟩:=ou cs';refine kh.cells Y rfl ?_ λx hx=>?_
      .rw[Z];exact iu.refl d _
      .exact l9 (sO h2 hcs) x hx
     .simp only[cB,ak]at U;subst U;exact l_.refl d _
   .cases hk
  .cases hk
theorem aqq {con:FuncId->Option cq} {b9:TypeId->Option Ty} {ty:TypeId} {sz bytes:Nat} {s x:Operand} (hc:dA P o.op=af (.app ty sz bytes s x)) (hk:d_ con b9 (.op (.app ty sz bytes s x)) e h nx K=af r):k9 P o aj e h nx K r:=by
 cases hcm:Ep (b9 ty) with
 |none=>exact ana hinv hi hcm hc hk
 |some n0=>
  obtain⟨H,hH⟩:=jV h;have hfr:=hinv.fresh;simp only[d_,hcm]at hk;split at hk
  .rename_i b y hv hv2;obtain⟨yb,h1,h2⟩:=bP hi hv;obtain⟨yy,h3,h4⟩:=bP hi hv2;unfold ajl at hk;split at hk
   .rename_i id2 sz2 m;simp only[cB,ak]at h4;subst h4;split at hk
    .rename_i ty2 l2 I;split at hk
     .rename_i hq;simp only[av,eJ]at hq;obtain⟨⟨q1,q2⟩,q3⟩:=hq;have q1:=aw q1;have q2:=aw q2;have q3:m≠0:=λe=>by rw[e]at q3;cases q3
      subst q1;obtain⟨J,Z⟩:=fI h l2 (hinv.cells id2 ty2 l2 I);have hrow:=ahd hH I Z q2;split at hk
      .rename_i id sz1 n;simp only[cB,ak]at h2;subst h2;split at hk
       .rename_i ty1 l1 U;split at hk
        .rename_i hq;simp only[av,eJ]at hq;obtain⟨⟨⟨p1,p2⟩,p3⟩,p4⟩:=hq;have p1:=aw p1;have p2:=eq_of_beq p2;have p3:=aw p3;have p4:id≠id2:=λe=>by rw[e,sx]at p4;cases p4
         subst p1;subst p2;obtain⟨hroom,hk⟩:=ef hk;obtain⟨M,hl1⟩:=fI h l1 (hinv.cells id _ l1 U);have hln:=il hl1;have hg:H.get (nm id)=af ⟨ty1,.mx M⟩:=by rw[hH,bN,U];simp only[aI,kN,hl1]
         have hidlt:id<nx:=hinv.low id _ U;generalize hB:iE.cells ty1 (l1++l2)=B at hk;have hd1:cA h (h.set id (af (.dead ai 0 0))):=cA.set λr hr=>by rw[bX,U]at hr;cases hr
         have hd2:cA (h.set id (af (.dead ai 0 0))) ((h.set id (af (.dead ai 0 0))).set nx (af B)):=cA.set λr hr=>by
          rw[bX,PT.get_set,aA (by omega),hfr]at hr;cases hr
         have hr:=hd1.trans hd2;have hsp:cU ((h.set id (af (.dead ai 0 0))).set nx (af B)) (l1++l2)=af (M++J):=ic hr _ _ (nP hl1 Z);have Y:bF ((h.set id (af (.dead ai 0 0))).set nx (af B)) (nm nx)=af ⟨ty1,.mx (M++J)⟩:=by rw[bN,PT.get_set,aD rfl,<-hB]at *;simp only[aI,kN,hsp]
         have hbd:bF ((h.set id (af (.dead ai 0 0))).set nx (af B)) (nm id)=ah:=by rw[bN,PT.get_set,aA (by omega),PT.get_set,aD rfl];rfl
         have hinv1:mr (h.set id (af (.dead ai 0 0))) nx:=hinv.set hd1 hidlt (bV _) (λ_ _ he=>by cases he);have ha:eZ (.app ty1 sz1 bytes s x) (Km e h) H (nm nx)=af ⟨.row (nm nx) sz1 (n+m),[nm id,nm id2],[nm nx,nm id],[(nm nx,⟨ty1,pU (M++J)⟩)],[nm nx]⟩:=by
          simp only[eZ,h1,h3,hrow,hg];rw[aD (by
           simp only[c7,kT,Bool.and_true,BC.isCells,BC.len,hroom,av,eJ];refine ⟨?_,bH (by omega)⟩;simp only[Zh,Bool.or_false];cases hq:aC (nm id2) (nm id) with
           |false=>rfl
           |true=>exact cX (li (aw hq)).symm p4)]
          simp only[BC.toMx,fw (show M.length<=n*sz1 by omega)]
         refine ⟨_,_,_,_,_,hk,jw.mk' hc hH ha [nm nx,nm id] (λi hi=>hi) (λq hq=>?_) (λi hi b' hbb=>?_) (λH1 H2 d hw1 _ hw2=>⟨λi hi b b' hb I=>?_,λy hy=>?_⟩) (λq hq=>?_) (λq hq=>?_) (λq hq=>?_) hr (hinv1.set hd2 (by omega) (by omega) λty' l' he=>?_) (by omega)⟩
         .simp only[bp,cF,gu,not_or]at hq;refine kY hinv hr λi ei=>?_
          subst ei;rw[PT.get_set,aA (λe=>hq.1 (by rw[e])),PT.get_set,aA (λe=>hq.2 (by rw[e]))]
         .simp only[bp,cF,gu]at hi;rcases hi with rfl|rfl
          .rw[aD (by simp)];exact⟨_,iw _ _⟩
          .rw[hbd]at hbb;cases hbb
         .simp only[bp,cF,gu]at hi;rcases hi with rfl|rfl
          .rw[hw1 _ (by simp),iw]at hb;rw[hw2 _ (by simp),Y]at I;simp only[ak]at hb I;subst hb;subst I;obtain⟨m1,m2⟩:=ou (M++J);exact kh.eq d m2 rfl m1
          .rw[hw2 _ (by simp),hbd]at I;cases I
         .simp only[cB,ak]at hy;subst hy;exact l_.refl d _
         .simp only[bp,cF,gu]at hq;rw[bz,jf];rcases hq with rfl|rfl
          .rw[eo];exact .inl (ca.2 rfl)
          .rw[eo];exact .inr (ca.2 rfl)
         .simp only[bp,cF,gu]at hq;rw[bz,jf];rcases hq with rfl|rfl
          .rw[eo];exact .inr (ca.2 rfl)
          .rw[eo];exact .inl (ca.2 rfl)
         .simp only[aL]at hq;subst hq;rw[eo];omega
         .rw[<- hB]at he;cases he;exact kX _ _ _ hsp
        .cases hk
       .cases hk
      .simp only[cB,ak]at h2;subst h2;obtain⟨hroom,hk⟩:=ef hk;have hr:cA h ((eM 0 h).set nx (af (.cells ty l2))):=(cA.kill 0 h).trans (cA.set λr hr=>by rw[bX,(hinv.kill 0).fresh]at hr;cases hr);have h2':=ic hr _ _ Z;refine ⟨_,_,_,_,_,hk,jw.new hinv hc hH (y0:=.row (nm nx) sz2 m) (rdl:=[nm id2]) (b0:=⟨ty,pU J⟩) (by simp only[eZ,h1,h3,hrow];simp[JH,AQ,hroom,q3]) (dY.zero h) (λty' l' he=>?_) (λH1 H2 d g b' Y=>?_) (λH1 H2 y d g hy=>?_) (λn hn=>?_)⟩
       .cases he;exact kX _ _ _ h2'
       .simp only[kN,h2',ak]at Y;subst Y;obtain⟨p1,p2⟩:=ou J;exact kh.eq d p2 rfl p1
       .simp only[cB,ak]at hy;subst hy;exact l_.refl d _
       .simp only[aL]at hn;subst hn;rw[eo];exact ca.2 rfl
      .cases hk
     .cases hk
    .cases hk
   .cases hk
  .cases hk
theorem aq4 {con:FuncId->Option cq} {b9:TypeId->Option Ty} {sz:Nat} {x:Operand} {lo hi' mx:Option Operand} (hc:dA P o.op=af (.slc sz x lo hi' mx)) (hk:d_ con b9 (.op (.slc sz x lo hi' mx)) e h nx K=af r):k9 P o aj e h nx K r:=by
 have hfr:=hinv.fresh;simp only[d_]at hk;split at hk
 .rename_i v hv;obtain⟨y,h1,h2⟩:=bP hi hv;split at hk
  .split at hk
   .rename_i hn;obtain⟨n,hn⟩:=iV.1 hn;have Y:=RY hn h2;exact k9.q (k:=0) hinv hc (λH _=>by simp only[eZ,h1,Y,Option.isSome_some,bI]) (dE rfl) hk
   .cases hk
  .rename_i b;split at hk
   .rename_i T xs k j hb;obtain⟨y2,Y,U⟩:=bP hi hb;simp only[cB,ak]at h2 U;subst h2;subst U;split at hk
    .rename_i hs;have hs:=aw hs;subst hs;obtain⟨hj,hk⟩:=ef hk;have hfl:=fR (bG T) xs;have hcond:(c_ 0 j&&c_ j (al xs)&&eU (al xs*T.size) (xs.flatMap (bU T)).length)=ai:=by
      rw[hj,kT];exact bH (by omega)
     simp only[c_,av,be]at hj;have hlen:(xs.take j.toNat).length=j.toNat:=by rw[bC];omega
     exact k9.q (k:=0) (y0:=.f (.sl ((xs.flatMap (bU T)).take (j.toNat*T.size)) j.toNat)) hinv hc (λH _=>by simp only[eZ,h1,Y,gV,hcond,bI]) (dE (by simp only[cB,gV];rw[AX (bG T),hlen])) hk
    .cases hk
   .rename_i id k j hb;obtain⟨y2,Y,U⟩:=bP hi hb;simp only[cB,ak]at U;subst U;split at hk
    .rename_i ty p T xs I;split at hk
     .rename_i hs;have hs:=aw hs;subst hs;obtain⟨hj,hk⟩:=ef hk;obtain⟨H,hH⟩:=jV h;have hj0:=hj;simp only[c_,gf,av,be]at hj;have hp:¬((p&&xs.length==0)=ai):=by
       simp only[av,c8];omega
      simp only[cB,bX,I,aI,mZ,fK,aA hp,ak]at h2;subst h2;have hidlt:=hinv.low id _ I;have hne:nx≠id:=by omega
      have hg:H.get (nm id)=af ⟨ty,.fz (xs.flatMap (bU T))⟩:=by rw[hH,bN,I];simp only[aI,kN,aA hp]
      have fl:=fR (bG T) xs;have hcond:(T.size==T.size&&c_ 0 j&&c_ j (al xs))=ai:=by
       simp only[c_,av,be,c7,B8];omega
      have hlen:(xs.take j.toNat).length=j.toNat:=by rw[bC];omega
      have ha0:eZ (.slc T.size x ah (af b) ah) (Km e h) H (nm nx)=af ⟨.row (nm nx) T.size j.toNat,[nm id],[nm nx,nm id],[(nm nx,⟨ty,.fz ((xs.take j.toNat).flatMap (bU T))⟩)],[nm nx]⟩:=by
       have hc2:((BC.fz (xs.flatMap (bU T))).isCells&&eU (al xs*T.size) (BC.fz (xs.flatMap (bU T))).len)=ai:=by
        simp only[BC.isCells,kT,BC.len];exact bH (by omega)
       simp only[eZ,h1,Y,gV,hcond,bI,hg,hc2,BC.toMx,<-kS,Dq,AX (bG T)]
      generalize hh':(h.set id (af (.dead p T.size (al xs)))).set nx (af (.rows ty aj T (dI j.toNat xs)))=h' at hk;have hrA:cA h (h.set id (af (.dead p T.size (al xs)))):=cA.set λr hr=>by rw[bX,I]at hr;exact hr
      have J:∀i,h'.get i=if i=nx then af (.rows ty aj T (dI j.toNat xs)) else if i=id then af (.dead p T.size (al xs)) else h.get i:=λi=>by rw[<- hh',PT.get_set,PT.get_set]
      have hr:cA h h':=by
       rw[<- hh'];refine hrA.trans (cA.set λr hr=>?_);rw[bX,PT.get_set,aA hne,hfr]at hr;cases hr
      have hinv':mr h' (nx+1):=by
       refine ⟨λi ty l hil=>?_,λi c hic=>?_⟩
       .rw[J]at hil;split at hil
        .cases hil
        .split at hil
         .cases hil
         .exact jg hr l (hinv.cells i ty l hil)
       .rw[J]at hic;split at hic
        .omega
        .split at hic
         .omega
         .have:=hinv.low i c hic;omega
      have hsame:∀n,n≠nm nx->n≠nm id->bF h' n=bF h n:=λn h1 h2=>kY hinv hr λi e=>by
       subst e;rw[J,aA (λe=>h1 (by rw[e])),aA (λe=>h2 (by rw[e]))]
      have hdead:bF h' (nm id)=ah:=by rw[bN,J,aA (by omega),aD rfl];rfl
      have hnew:bF h' (nm nx)=af ⟨ty,.fz ((xs.take j.toNat).flatMap (bU T))⟩:=by rw[bN,J,aD rfl];rfl
      have hval:cB h' (.row nx)=af (.row (nm nx) T.size j.toNat):=by simp only[cB,bX,J,bI,aI,mZ,fK,nV,cG,ey,hlen]
      refine ⟨_,_,_,_,_,hk,?_⟩;refine jw.mk' hc hH ha0 [nm nx,nm id] (λi hi=>hi) (λn hn=>?_) (λi hi b' hb'=>?_) (λH1 H2 d hw1 _ hw2=>⟨λi hi b b' Z M=>?_,λy hy=>?_⟩) (λn hn=>?_) (λn hn=>?_) (λn hn=>by simp only[aL]at hn;subst hn;rw[eo];omega) hr hinv' (by omega)
      .simp only[bp,cF,gu,not_or]at hn;exact hsame n hn.1 hn.2
      .simp only[bp,cF,gu]at hi;rcases hi with rfl|rfl
       .exact⟨_,by rw[aD (by simp)];exact iw _ _⟩
       .rw[hdead]at hb';cases hb'
      .simp only[bp,cF,gu]at hi;rcases hi with rfl|rfl
       .rw[hw1 _ (by simp),iw]at Z;rw[hw2 _ (by simp),hnew]at M;simp only[ak]at Z M;subst Z;subst M;exact kh.refl d _
       .rw[hw2 _ (by simp),hdead]at M;cases M
      .rw[hval]at hy;simp only[ak]at hy;subst hy;exact l_.refl d _
      .simp only[aL]at hn;subst hn;rw[eo];exact ca.2 rfl
      .simp only[bp,cF,gu]at hn;rcases hn with rfl|rfl<;>rw[eo,bz,ca.2 rfl]<;>simp
     .cases hk
    .cases hk
   .cases hk
  .rename_i b;split at hk
   .rename_i T xs k j hb;obtain⟨y2,Y,U⟩:=bP hi hb;simp only[cB,ak]at h2 U;subst h2;subst U;split at hk
    .rename_i hs;have hs:=aw hs;subst hs;obtain⟨hj,hk⟩:=ef hk;have hfl:=fR (bG T) xs;have hcond:(c_ 0 j&&c_ j (al xs)&&eU (al xs*T.size) (xs.flatMap (bU T)).length)=ai:=by
      rw[hj,kT];exact bH (by omega)
     simp only[c_,av,be]at hj;have hlen:(xs.drop j.toNat).length=al xs-j.toNat:=by rw[mV]
     have htk:((xs.flatMap (bU T)).drop (j.toNat*T.size)).take ((al xs-j.toNat)*T.size)=(xs.flatMap (bU T)).drop (j.toNat*T.size):=by
      refine fw ?_;rw[mV,hfl,Nat.sub_mul];exact bV _
     exact k9.q (k:=0) (y0:=.f (.sl ((xs.flatMap (bU T)).drop (j.toNat*T.size)) (al xs-j.toNat))) hinv hc (λH _=>by simp only[eZ,h1,Y,gV,hcond,bI,htk]) (dE (by simp only[cB,gV];rw[Kh (bG T),hlen])) hk
    .cases hk
   .rename_i id k j hb;obtain⟨y2,Y,U⟩:=bP hi hb;simp only[cB,ak]at U;subst U;split at hk
    .rename_i ty p T xs I;split at hk
     .rename_i hs;have hs:=aw hs;subst hs;obtain⟨hj,hk⟩:=ef hk;have hcond:(T.size==T.size&&c_ 0 j&&gf j (al xs))=ai:=by
       simp only[av]at hj;rw[hj.1,hj.2,c7];rfl
      simp only[c_,gf,av,be]at hj;have hp:¬((p&&xs.length==0)=ai):=by
       simp only[av,c8];omega
      simp only[cB,bX,I,aI,mZ,fK,aA hp,ak]at h2;subst h2;exact k9.q (k:=0) (y0:=.sl (nm id) (j.toNat*T.size) (al xs-j.toNat)) hinv hc (λH _=>by simp only[eZ,h1,Y,gV,hcond,bI]) (dE (by simp only[cB,bX,I,aI,mZ])) hk
     .cases hk
    .cases hk
   .cases hk
  .cases hk
 .cases hk
theorem aqm {con:FuncId->Option cq} {b9:TypeId->Option Ty} {sz:Nat} {z:ξ} {x:Operand} (hc:dA P o.op=af (.clr sz z x)) (hk:d_ con b9 (.op (.clr sz z x)) e h nx K=af r):k9 P o aj e h nx K r:=by
 obtain⟨H,hH⟩:=jV h;simp only[d_]at hk;split at hk
 .rename_i id j hv;split at hk
  .rename_i ty p T xs hb;split at hk
   .rename_i hs;simp only[av]at hs;obtain⟨⟨hs,J⟩,hco⟩:=hs;have hs:=aw hs;have J:=Lx J;subst hs;subst J;obtain⟨hj,hk⟩:=ef hk;simp only[c_,gf,av,be]at hj;obtain⟨j0,j1⟩:=hj;obtain⟨y,h1,h2⟩:=bP hi hv;simp only[cB,bX,hb,aI,mZ,ak]at h2;subst h2;have hp:¬((p&&xs.length==0)=ai):=by
     simp only[av,c8];omega
    have fl:=fR (bG T) xs;have hg:H.get (nm id)=af ⟨ty,.fz (xs.flatMap (bU T))⟩:=by rw[hH,bN,hb];simp only[aI,kN,aA hp]
    have hrl:(repl (tM T) (xs.length-j.toNat)).length=(xs.length-j.toNat)*T.size:=by
     have h9:=(Iu (H:=λ_=>ah) (H':=λ_=>ah) (λn b hb=>by cases hb) T (xs.length-j.toNat)).length;rw[bS,bS,fR (bG T),eV]at h9;exact h9.symm
    have hoff:j.toNat*T.size+(xs.length-j.toNat)*T.size=xs.length*T.size:=by rw[<- OQ];congr 1;omega
    have hput:(BC.fz (xs.flatMap (bU T))).put (j.toNat*T.size) ((repl (tM T) (xs.length-j.toNat)).map .f)=af (.fz (splice (xs.flatMap (bU T)) (j.toNat*T.size) (repl (tM T) (xs.length-j.toNat)))):=by
     unfold BC.put;rw[aD]
     .simp only[LF]
     .simp only[av];refine ⟨⟨rfl,bH ?_⟩,Hy _ λq hq=>?_⟩
      .simp only[BC.len,bS];omega
      .obtain⟨v,hv,rfl⟩:=Rz _ q hq;exact gD.1 hco v hv
    have hblt:gz 0 (xs.length-j.toNat)=ai:=bH (by omega);have Y:eZ (.clr T.size (tM T) x) (Km e h) H (nm nx)=af ⟨.tup [],[nm id],[nm id],[(nm id,⟨ty,.fz (splice (xs.flatMap (bU T)) (j.toNat*T.size) (repl (tM T) (xs.length-j.toNat)))⟩)],[]⟩:=by
     simp only[eZ,h1,hg,hblt,bI,hput]
    have hlen:(dI j.toNat xs++aG (al xs-j.toNat) T.zero).length=xs.length:=by
     rw[bm,bC,eV];omega
    have hrow:mZ (.rows ty p T (dI j.toNat xs++aG (al xs-j.toNat) T.zero))=mZ (.rows ty p T xs):=by simp only[mZ,hlen]
    refine ⟨_,_,_,_,_,hk,jw.wrt (m:=0) (v:=.tup []) (rd:=kZ id) hinv hc hH Y hb (dY.zero h) (by simp) hrow (λ_ _ he=>by cases he) (λH1 H2 d g b' I=>?_) (λH1 H2 y d g Z=>?_) (λn hn=>?_)⟩
    .have U:¬((p&&(dI j.toNat xs++aG (al xs-j.toNat) T.zero).length==0)=ai):=by rw[hlen];exact hp
     simp only[kN,aA U,ak]at I;subst I;refine kh.cells rfl rfl ?_ λq hq=>?_
     .simp only[BC.toMx];unfold splice;rw[hrl,hoff,<-fl,List.drop_length,fJ,List.flatMap_append,AX (bG T),cE,cE];exact (iu.refl d _).append (Iu d T _)
     .simp only[BC.toMx]at hq;obtain⟨q',M,rfl⟩:=dv.1 hq;exact sh T _ q' M
    .simp only[cB,cU,ak]at Z;subst Z;exact l_.refl d _
    .simp only[aL]at hn;subst hn;rw[eo];exact ca.2 rfl
   .cases hk
  .cases hk
 .cases hk
end ops
end
end Go.Proofs.YtgijlolllojpaaaGreatDoor.AI
