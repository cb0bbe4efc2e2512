/-
  Texts of the proof, part 3 of 6: what is used to prove the statement. No condition.
-/
import Derived.Test.YtkagidinekdnoaaGreatDoorHBClocksQ1
namespace Go.Proofs.YtkagidinekdnoaaGreatDoor.AI
open Go.RowKit
set_option maxRecDepth 100000
set_option maxHeartbeats 4000000
set_option linter.unusedVariables false
set_option linter.unusedSimpArgs false
open _root_.Bool renaming true→ai,false→aj
open _root_.Classical renaming propDecidable→yD
open _root_.Int renaming ofNat_eq_natCast→au,ofNat→aO,toNat→aT,reduceEq→aU,reduceNeg→bn,toNat_natCast→dQ
open _root_.List renaming length→al,replicate→aG,length_cons→bY,range→c4,take→dO,length_singleton→dR,cons_append→gm,length_nil→jS,nil_append→lK,foldl_cons→xd
open _root_.Nat renaming beq→aC,add_zero→dl
open _root_.Option renaming some→af,none→ah,map_some→cg,getD_some→uW
open _root_.Prod renaming p2→aY,p3→bi,p4→bw,q3→bK,p5→cu,q5→cY,q4→dx,p6→dU,q6→fh,q7→kB,p7→kC,q8→pU,p8→zV,p9→Ci,p10→D3
open _root_.Sum renaming inr→bQ
noncomputable section
theorem kn {α R:Type} (o:Option α):obind o (λ_=>(ah:Option R))=ah:=by cases o<;>rfl
theorem oI {R:Type} (b:Bool):chk b (λ_=>(ah:Option R))=ah:=by cases b<;>rfl
theorem rQ {α R:Type} (x:α):lt x (λ_=>(ah:Option R))=ah:=rfl
def PH {R:Type} (o:Option R) (Q:R->Prop):Prop:=o=ah\/Ok o Q
theorem PH.or {R:Type} {a b:Option R} {Q:R->Prop} (I:PH a Q) (hb:PH b Q):PH (orE a b) Q:=by
 rcases I with rfl|⟨y,rfl,h⟩
 .exact hb
 .exact .inr ⟨y,rfl,h⟩
theorem Ok.orL {R:Type} {a b:Option R} {Q:R->Prop} (I:Ok a Q):Ok (orE a b) Q:=by
 obtain⟨y,rfl,h⟩:=I;exact⟨y,rfl,h⟩
theorem PH.orR {R:Type} {a b:Option R} {Q:R->Prop} (I:PH a Q) (hb:Ok b Q):Ok (orE a b) Q:=by
 rcases I with rfl|⟨y,rfl,h⟩
 .exact hb
 .exact⟨y,rfl,h⟩
theorem H5 {n:Nat} (hn:n+1<=100000) {c:CT} {L:List ET} {s:ST} {t u:Int} (hc:CB c) (hs:SV n L s) (U:K4 c L s) (G:Option (ST×ET×Bool)->Prop) (Y:∀ y,SQ n c L y->G (af y)) (k:ET×Bool->SY×Int×Bool->Option (ST×ET×Bool))
 (hk:∀ e v sy,PE n c s t e->PS c L s t e->EN c.1 s.1 t e.2.1 e.2.2.1->V2 c.1 s.1 t e.2.1 e.2.2.1->AP n s.1 sy->(sy,v)=qX c.1 s.1 t e.2.1 e.2.2.1 u->G (k (e,ai) (sy,v,ai))):
 G (obind (nD (c,s,t)) λI=>bcase (!I.2) (af ((([],0,[],[]),[],[],[]),(0,0,0,0,0,[],[]),aj)) (obind (pe (c.1,s.1,t,I.1.2.1,I.1.2.2.1,u)) λJ=>bcase (!J.2.2) (af ((([],0,[],[]),[],[],[]),(0,0,0,0,0,[],[]),aj)) (k I J))):=by
 have M:=Y ((([],0,[],[]),[],[],[]),(0,0,0,0,0,[],[]),aj) λh=>(by cases h)
 obtain⟨⟨e,b⟩,h1,h2⟩:=V3 n (by omega) c L s hc hs U t;rw[h1,WE];cases b with
 |false=>exact M
 |true=>
  obtain⟨hp,hm⟩:=h2 rfl;have hcd:c.1.2.2.1.length<=1000:=by have:=hp.fs.vc.vl.d;omega
  obtain⟨⟨sy,v,b⟩,h3,Z,_,_⟩:=To c.1 s.1 hs.sb hcd t e.2.1 e.2.2.1 u;have e0:∀ {R:Type} (a b:Option R),bcase (!ai) a b=b:=λ_ _=>rfl
  rw[e0,h3,WE];cases b with
  |false=>exact M
  |true=>
   obtain⟨g1,g2,g3,g4⟩:=Z rfl;exact hk e v sy hp hm g1 g2 g3 g4
theorem ZA {E:Nat} {L:List ET} (sy:SY) (ce fu:List Int) (a:TT) (h:SV E L (sy,ce,fu,[a])) (hce:ce.length<=1000) (hfu:fu.length<=1000):mU (sy,ce,fu,[a])=af ((sy.2.1,sy.1,sy.2.2.1,sy.2.2.2).1,(sy.2.1,sy.1,sy.2.2.1,sy.2.2.2).2.1,(sy.2.1,sy.1,sy.2.2.1,sy.2.2.2).2.2.1,(sy.2.1,sy.1,sy.2.2.1,sy.2.2.2).2.2.2,(([]:List Int)++ce),(([]:List Int)++fu),((a.1,a.2.2.2),a.2.1,a.2.2.1)):=by
 have J:=h.sb.n1;have I:TH (FQ L 0) E a:=h.t 0 (by simp);refine cE ?_;unfold mU aY bK bx bB bD aX;refine aV (qN sy h.sb) ?_;refine bg (by simp;omega) (by omega) (bg (by simp;omega) (by omega) ?_);refine fG rfl (bf rfl (aS (aV (dc a E J I) ?_)));exact fP rfl (ar rfl)
theorem Tj (sy:SY) (ce fu:List Int) (l:List TT) (h0:l.length<=4) (h:l.length≠1):mU (sy,ce,fu,l)=ah:=by
 unfold mU aY bK bx bB bD aX;rcases l with _|⟨a,_|⟨b,_|⟨c,_|⟨d,_|⟨e,l⟩⟩⟩⟩⟩;all_goals first|(simp at h;done)|(exfalso;simp only[bY] at h0;omega)|simp[fO,kn,oI,rQ,bcT,bcF]
theorem Zz {E:Nat} {L:List ET} (sy:SY) (ce fu:List Int) (a b:TT) (h:SV E L (sy,ce,fu,[a,b])) (hce:ce.length<=1000) (hfu:fu.length<=1000):mT (sy,ce,fu,[a,b])=af ((sy.2.1,sy.1,sy.2.2.1,sy.2.2.2).1,(sy.2.1,sy.1,sy.2.2.1,sy.2.2.2).2.1,(sy.2.1,sy.1,sy.2.2.1,sy.2.2.2).2.2.1,(sy.2.1,sy.1,sy.2.2.1,sy.2.2.2).2.2.2,(([]:List Int)++ce),(([]:List Int)++fu),(((a.1,a.2.2.2),a.2.1,a.2.2.1).1.1,((a.1,a.2.2.2),a.2.1,a.2.2.1).1.2,((b.1,b.2.2.2),b.2.1,b.2.2.1).1.1,((b.1,b.2.2.2),b.2.1,b.2.2.1).2.1,((b.1,b.2.2.2),b.2.1,b.2.2.1).2.2,((b.1,b.2.2.2),b.2.1,b.2.2.1).1.2),((a.1,a.2.2.2),a.2.1,a.2.2.1).2):=by
 have I:=h.sb.n1;have J:TH (FQ L 0) E a:=h.t 0 (by simp);have hb:TH (FQ L 1) E b:=h.t 1 (by simp);refine cE ?_;unfold mT aY bK bx bB bD aX;refine aV (qN sy h.sb) ?_;refine bg (by simp;omega) (by omega) (bg (by simp;omega) (by omega) ?_);refine fG rfl (bf rfl (aS (aV (dc a E I J) ?_)));refine fG rfl (bf rfl (aS (aV (dc b E I hb) ?_)));exact fP rfl (ar rfl)
theorem Ti (sy:SY) (ce fu:List Int) (l:List TT) (h0:l.length<=4) (h:l.length≠2):mT (sy,ce,fu,l)=ah:=by
 unfold mT aY bK bx bB bD aX;rcases l with _|⟨a,_|⟨b,_|⟨c,_|⟨d,_|⟨e,l⟩⟩⟩⟩⟩;all_goals first|(simp at h;done)|(exfalso;simp only[bY] at h0;omega)|simp[fO,kn,oI,rQ,bcT,bcF]
theorem Zy {E:Nat} {L:List ET} (sy:SY) (ce fu:List Int) (a b:TT) (h:SV E L (sy,ce,fu,[a,b])) (hce:ce.length<=1000) (hfu:fu.length<=1000):mS (sy,ce,fu,[a,b])=af ((sy.2.1,sy.1,sy.2.2.1,sy.2.2.2).1,(sy.2.1,sy.1,sy.2.2.1,sy.2.2.2).2.1,(sy.2.1,sy.1,sy.2.2.1,sy.2.2.2).2.2.1,(sy.2.1,sy.1,sy.2.2.1,sy.2.2.2).2.2.2,(([]:List Int)++ce),(([]:List Int)++fu),((((a.1,a.2.2.2),a.2.1,a.2.2.1).1.1,((a.1,a.2.2.2),a.2.1,a.2.2.1).2.1,((a.1,a.2.2.2),a.2.1,a.2.2.1).2.2,((a.1,a.2.2.2),a.2.1,a.2.2.1).1.2),((b.1,b.2.2.2),b.2.1,b.2.2.1).1),((b.1,b.2.2.2),b.2.1,b.2.2.1).2):=by
 have I:=h.sb.n1;have J:TH (FQ L 0) E a:=h.t 0 (by simp);have hb:TH (FQ L 1) E b:=h.t 1 (by simp);refine cE ?_;unfold mS aY bK bx bB bD aX;refine aV (qN sy h.sb) ?_;refine bg (by simp;omega) (by omega) (bg (by simp;omega) (by omega) ?_);refine fG rfl (bf rfl (aS (aV (dc a E I J) ?_)));refine fG rfl (bf rfl (aS (aV (dc b E I hb) ?_)));exact fP rfl (ar rfl)
theorem Th (sy:SY) (ce fu:List Int) (l:List TT) (h0:l.length<=4) (h:l.length≠2):mS (sy,ce,fu,l)=ah:=by
 unfold mS aY bK bx bB bD aX;rcases l with _|⟨a,_|⟨b,_|⟨c,_|⟨d,_|⟨e,l⟩⟩⟩⟩⟩;all_goals first|(simp at h;done)|(exfalso;simp only[bY] at h0;omega)|simp[fO,kn,oI,rQ,bcT,bcF]
theorem Zx {E:Nat} {L:List ET} (sy:SY) (ce fu:List Int) (a b c:TT) (h:SV E L (sy,ce,fu,[a,b,c])) (hce:ce.length<=1000) (hfu:fu.length<=1000):mR (sy,ce,fu,[a,b,c])=af ((sy.2.1,sy.1,sy.2.2.1,sy.2.2.2).1,(sy.2.1,sy.1,sy.2.2.1,sy.2.2.2).2.1,(sy.2.1,sy.1,sy.2.2.1,sy.2.2.2).2.2.1,(sy.2.1,sy.1,sy.2.2.1,sy.2.2.2).2.2.2,(([]:List Int)++ce),(([]:List Int)++fu),(((a.1,a.2.2.2),a.2.1,a.2.2.1).1.1,((a.1,a.2.2.2),a.2.1,a.2.2.1).1.2,(((b.1,b.2.2.2),b.2.1,b.2.2.1).1.1,((b.1,b.2.2.2),b.2.1,b.2.2.1).2.1,((b.1,b.2.2.2),b.2.1,b.2.2.1).2.2,((b.1,b.2.2.2),b.2.1,b.2.2.1).1.2),((c.1,c.2.2.2),c.2.1,c.2.2.1).1.1,((c.1,c.2.2.2),c.2.1,c.2.2.1).2.1,((c.1,c.2.2.2),c.2.1,c.2.2.1).2.2,((c.1,c.2.2.2),c.2.1,c.2.2.1).1.2),((a.1,a.2.2.2),a.2.1,a.2.2.1).2):=by
 have I:=h.sb.n1;have J:TH (FQ L 0) E a:=h.t 0 (by simp);have hb:TH (FQ L 1) E b:=h.t 1 (by simp);have hc:TH (FQ L 2) E c:=h.t 2 (by simp);refine cE ?_;unfold mR aY bK bx bB bD aX;refine aV (qN sy h.sb) ?_;refine bg (by simp;omega) (by omega) (bg (by simp;omega) (by omega) ?_);refine fG rfl (bf rfl (aS (aV (dc a E I J) ?_)));refine fG rfl (bf rfl (aS (aV (dc b E I hb) ?_)));refine fG rfl (bf rfl (aS (aV (dc c E I hc) ?_)));exact fP rfl (ar rfl)
theorem Tg (sy:SY) (ce fu:List Int) (l:List TT) (h0:l.length<=4) (h:l.length≠3):mR (sy,ce,fu,l)=ah:=by
 unfold mR aY bK bx bB bD aX;rcases l with _|⟨a,_|⟨b,_|⟨c,_|⟨d,_|⟨e,l⟩⟩⟩⟩⟩;all_goals first|(simp at h;done)|(exfalso;simp only[bY] at h0;omega)|simp[fO,kn,oI,rQ,bcT,bcF]
theorem Zw {E:Nat} {L:List ET} (sy:SY) (ce fu:List Int) (a b c:TT) (h:SV E L (sy,ce,fu,[a,b,c])) (hce:ce.length<=1000) (hfu:fu.length<=1000):mQ (sy,ce,fu,[a,b,c])=af ((sy.2.1,sy.1,sy.2.2.1,sy.2.2.2).1,(sy.2.1,sy.1,sy.2.2.1,sy.2.2.2).2.1,(sy.2.1,sy.1,sy.2.2.1,sy.2.2.2).2.2.1,(sy.2.1,sy.1,sy.2.2.1,sy.2.2.2).2.2.2,(([]:List Int)++ce),(([]:List Int)++fu),((((a.1,a.2.2.2),a.2.1,a.2.2.1).1.1,((a.1,a.2.2.2),a.2.1,a.2.2.1).2.1,((a.1,a.2.2.2),a.2.1,a.2.2.1).2.2,((a.1,a.2.2.2),a.2.1,a.2.2.1).1.2),((b.1,b.2.2.2),b.2.1,b.2.2.1).1.1,((b.1,b.2.2.2),b.2.1,b.2.2.1).1.2,((c.1,c.2.2.2),c.2.1,c.2.2.1).1.1,((c.1,c.2.2.2),c.2.1,c.2.2.1).2.1,((c.1,c.2.2.2),c.2.1,c.2.2.1).2.2,((c.1,c.2.2.2),c.2.1,c.2.2.1).1.2),((b.1,b.2.2.2),b.2.1,b.2.2.1).2):=by
 have I:=h.sb.n1;have J:TH (FQ L 0) E a:=h.t 0 (by simp);have hb:TH (FQ L 1) E b:=h.t 1 (by simp);have hc:TH (FQ L 2) E c:=h.t 2 (by simp);refine cE ?_;unfold mQ aY bK bx bB bD aX;refine aV (qN sy h.sb) ?_;refine bg (by simp;omega) (by omega) (bg (by simp;omega) (by omega) ?_);refine fG rfl (bf rfl (aS (aV (dc a E I J) ?_)));refine fG rfl (bf rfl (aS (aV (dc b E I hb) ?_)));refine fG rfl (bf rfl (aS (aV (dc c E I hc) ?_)));exact fP rfl (ar rfl)
theorem Tf (sy:SY) (ce fu:List Int) (l:List TT) (h0:l.length<=4) (h:l.length≠3):mQ (sy,ce,fu,l)=ah:=by
 unfold mQ aY bK bx bB bD aX;rcases l with _|⟨a,_|⟨b,_|⟨c,_|⟨d,_|⟨e,l⟩⟩⟩⟩⟩;all_goals first|(simp at h;done)|(exfalso;simp only[bY] at h0;omega)|simp[fO,kn,oI,rQ,bcT,bcF]
theorem Zv {E:Nat} {L:List ET} (sy:SY) (ce fu:List Int) (a b c:TT) (h:SV E L (sy,ce,fu,[a,b,c])) (hce:ce.length<=1000) (hfu:fu.length<=1000):mP (sy,ce,fu,[a,b,c])=af ((sy.2.1,sy.1,sy.2.2.1,sy.2.2.2).1,(sy.2.1,sy.1,sy.2.2.1,sy.2.2.2).2.1,(sy.2.1,sy.1,sy.2.2.1,sy.2.2.2).2.2.1,(sy.2.1,sy.1,sy.2.2.1,sy.2.2.2).2.2.2,(([]:List Int)++ce),(([]:List Int)++fu),((((a.1,a.2.2.2),a.2.1,a.2.2.1).1.1,((a.1,a.2.2.2),a.2.1,a.2.2.1).2.1,((a.1,a.2.2.2),a.2.1,a.2.2.1).2.2,((a.1,a.2.2.2),a.2.1,a.2.2.1).1.2),(((b.1,b.2.2.2),b.2.1,b.2.2.1).1.1,((b.1,b.2.2.2),b.2.1,b.2.2.1).2.1,((b.1,b.2.2.2),b.2.1,b.2.2.1).2.2,((b.1,b.2.2.2),b.2.1,b.2.2.1).1.2),((c.1,c.2.2.2),c.2.1,c.2.2.1).1),((c.1,c.2.2.2),c.2.1,c.2.2.1).2):=by
 have I:=h.sb.n1;have J:TH (FQ L 0) E a:=h.t 0 (by simp);have hb:TH (FQ L 1) E b:=h.t 1 (by simp);have hc:TH (FQ L 2) E c:=h.t 2 (by simp);refine cE ?_;unfold mP aY bK bx bB bD aX;refine aV (qN sy h.sb) ?_;refine bg (by simp;omega) (by omega) (bg (by simp;omega) (by omega) ?_);refine fG rfl (bf rfl (aS (aV (dc a E I J) ?_)));refine fG rfl (bf rfl (aS (aV (dc b E I hb) ?_)));refine fG rfl (bf rfl (aS (aV (dc c E I hc) ?_)));exact fP rfl (ar rfl)
theorem Te (sy:SY) (ce fu:List Int) (l:List TT) (h0:l.length<=4) (h:l.length≠3):mP (sy,ce,fu,l)=ah:=by
 unfold mP aY bK bx bB bD aX;rcases l with _|⟨a,_|⟨b,_|⟨c,_|⟨d,_|⟨e,l⟩⟩⟩⟩⟩;all_goals first|(simp at h;done)|(exfalso;simp only[bY] at h0;omega)|simp[fO,kn,oI,rQ,bcT,bcF]
theorem Zu {E:Nat} {L:List ET} (sy:SY) (ce fu:List Int) (a b c d:TT) (h:SV E L (sy,ce,fu,[a,b,c,d])) (hce:ce.length<=1000) (hfu:fu.length<=1000):mO (sy,ce,fu,[a,b,c,d])=af ((sy.2.1,sy.1,sy.2.2.1,sy.2.2.2).1,(sy.2.1,sy.1,sy.2.2.1,sy.2.2.2).2.1,(sy.2.1,sy.1,sy.2.2.1,sy.2.2.2).2.2.1,(sy.2.1,sy.1,sy.2.2.1,sy.2.2.2).2.2.2,(([]:List Int)++ce),(([]:List Int)++fu),(((a.1,a.2.2.2),a.2.1,a.2.2.1).1.1,((a.1,a.2.2.2),a.2.1,a.2.2.1).1.2,(((b.1,b.2.2.2),b.2.1,b.2.2.1).1.1,((b.1,b.2.2.2),b.2.1,b.2.2.1).2.1,((b.1,b.2.2.2),b.2.1,b.2.2.1).2.2,((b.1,b.2.2.2),b.2.1,b.2.2.1).1.2),(((c.1,c.2.2.2),c.2.1,c.2.2.1).1.1,((c.1,c.2.2.2),c.2.1,c.2.2.1).2.1,((c.1,c.2.2.2),c.2.1,c.2.2.1).2.2,((c.1,c.2.2.2),c.2.1,c.2.2.1).1.2),((d.1,d.2.2.2),d.2.1,d.2.2.1).1.1,((d.1,d.2.2.2),d.2.1,d.2.2.1).2.1,((d.1,d.2.2.2),d.2.1,d.2.2.1).2.2,((d.1,d.2.2.2),d.2.1,d.2.2.1).1.2),((a.1,a.2.2.2),a.2.1,a.2.2.1).2):=by
 have I:=h.sb.n1;have J:TH (FQ L 0) E a:=h.t 0 (by simp);have hb:TH (FQ L 1) E b:=h.t 1 (by simp);have hc:TH (FQ L 2) E c:=h.t 2 (by simp);have hd:TH (FQ L 3) E d:=h.t 3 (by simp);refine cE ?_;unfold mO aY bK bx bB bD aX;refine aV (qN sy h.sb) ?_;refine bg (by simp;omega) (by omega) (bg (by simp;omega) (by omega) ?_);refine fG rfl (bf rfl (aS (aV (dc a E I J) ?_)));refine fG rfl (bf rfl (aS (aV (dc b E I hb) ?_)));refine fG rfl (bf rfl (aS (aV (dc c E I hc) ?_)));refine fG rfl (bf rfl (aS (aV (dc d E I hd) ?_)));exact fP rfl (ar rfl)
theorem Td (sy:SY) (ce fu:List Int) (l:List TT) (h0:l.length<=4) (h:l.length≠4):mO (sy,ce,fu,l)=ah:=by
 unfold mO aY bK bx bB bD aX;rcases l with _|⟨a,_|⟨b,_|⟨c,_|⟨d,_|⟨e,l⟩⟩⟩⟩⟩;all_goals first|(simp at h;done)|(exfalso;simp only[bY] at h0;omega)|simp[fO,kn,oI,rQ,bcT,bcF]
theorem Zt {E:Nat} {L:List ET} (sy:SY) (ce fu:List Int) (a b c d:TT) (h:SV E L (sy,ce,fu,[a,b,c,d])) (hce:ce.length<=1000) (hfu:fu.length<=1000):mN (sy,ce,fu,[a,b,c,d])=af ((sy.2.1,sy.1,sy.2.2.1,sy.2.2.2).1,(sy.2.1,sy.1,sy.2.2.1,sy.2.2.2).2.1,(sy.2.1,sy.1,sy.2.2.1,sy.2.2.2).2.2.1,(sy.2.1,sy.1,sy.2.2.1,sy.2.2.2).2.2.2,(([]:List Int)++ce),(([]:List Int)++fu),((((a.1,a.2.2.2),a.2.1,a.2.2.1).1.1,((a.1,a.2.2.2),a.2.1,a.2.2.1).2.1,((a.1,a.2.2.2),a.2.1,a.2.2.1).2.2,((a.1,a.2.2.2),a.2.1,a.2.2.1).1.2),((b.1,b.2.2.2),b.2.1,b.2.2.1).1.1,((b.1,b.2.2.2),b.2.1,b.2.2.1).1.2,(((c.1,c.2.2.2),c.2.1,c.2.2.1).1.1,((c.1,c.2.2.2),c.2.1,c.2.2.1).2.1,((c.1,c.2.2.2),c.2.1,c.2.2.1).2.2,((c.1,c.2.2.2),c.2.1,c.2.2.1).1.2),((d.1,d.2.2.2),d.2.1,d.2.2.1).1.1,((d.1,d.2.2.2),d.2.1,d.2.2.1).2.1,((d.1,d.2.2.2),d.2.1,d.2.2.1).2.2,((d.1,d.2.2.2),d.2.1,d.2.2.1).1.2),((b.1,b.2.2.2),b.2.1,b.2.2.1).2):=by
 have I:=h.sb.n1;have J:TH (FQ L 0) E a:=h.t 0 (by simp);have hb:TH (FQ L 1) E b:=h.t 1 (by simp);have hc:TH (FQ L 2) E c:=h.t 2 (by simp);have hd:TH (FQ L 3) E d:=h.t 3 (by simp);refine cE ?_;unfold mN aY bK bx bB bD aX;refine aV (qN sy h.sb) ?_;refine bg (by simp;omega) (by omega) (bg (by simp;omega) (by omega) ?_);refine fG rfl (bf rfl (aS (aV (dc a E I J) ?_)));refine fG rfl (bf rfl (aS (aV (dc b E I hb) ?_)));refine fG rfl (bf rfl (aS (aV (dc c E I hc) ?_)));refine fG rfl (bf rfl (aS (aV (dc d E I hd) ?_)));exact fP rfl (ar rfl)
theorem Tc (sy:SY) (ce fu:List Int) (l:List TT) (h0:l.length<=4) (h:l.length≠4):mN (sy,ce,fu,l)=ah:=by
 unfold mN aY bK bx bB bD aX;rcases l with _|⟨a,_|⟨b,_|⟨c,_|⟨d,_|⟨e,l⟩⟩⟩⟩⟩;all_goals first|(simp at h;done)|(exfalso;simp only[bY] at h0;omega)|simp[fO,kn,oI,rQ,bcT,bcF]
theorem Zs {E:Nat} {L:List ET} (sy:SY) (ce fu:List Int) (a b c d:TT) (h:SV E L (sy,ce,fu,[a,b,c,d])) (hce:ce.length<=1000) (hfu:fu.length<=1000):mM (sy,ce,fu,[a,b,c,d])=af ((sy.2.1,sy.1,sy.2.2.1,sy.2.2.2).1,(sy.2.1,sy.1,sy.2.2.1,sy.2.2.2).2.1,(sy.2.1,sy.1,sy.2.2.1,sy.2.2.2).2.2.1,(sy.2.1,sy.1,sy.2.2.1,sy.2.2.2).2.2.2,(([]:List Int)++ce),(([]:List Int)++fu),((((a.1,a.2.2.2),a.2.1,a.2.2.1).1.1,((a.1,a.2.2.2),a.2.1,a.2.2.1).2.1,((a.1,a.2.2.2),a.2.1,a.2.2.1).2.2,((a.1,a.2.2.2),a.2.1,a.2.2.1).1.2),(((b.1,b.2.2.2),b.2.1,b.2.2.1).1.1,((b.1,b.2.2.2),b.2.1,b.2.2.1).2.1,((b.1,b.2.2.2),b.2.1,b.2.2.1).2.2,((b.1,b.2.2.2),b.2.1,b.2.2.1).1.2),((c.1,c.2.2.2),c.2.1,c.2.2.1).1.1,((c.1,c.2.2.2),c.2.1,c.2.2.1).1.2,((d.1,d.2.2.2),d.2.1,d.2.2.1).1.1,((d.1,d.2.2.2),d.2.1,d.2.2.1).2.1,((d.1,d.2.2.2),d.2.1,d.2.2.1).2.2,((d.1,d.2.2.2),d.2.1,d.2.2.1).1.2),((c.1,c.2.2.2),c.2.1,c.2.2.1).2):=by
 have I:=h.sb.n1;have J:TH (FQ L 0) E a:=h.t 0 (by simp);have hb:TH (FQ L 1) E b:=h.t 1 (by simp);have hc:TH (FQ L 2) E c:=h.t 2 (by simp);have hd:TH (FQ L 3) E d:=h.t 3 (by simp);refine cE ?_;unfold mM aY bK bx bB bD aX;refine aV (qN sy h.sb) ?_;refine bg (by simp;omega) (by omega) (bg (by simp;omega) (by omega) ?_);refine fG rfl (bf rfl (aS (aV (dc a E I J) ?_)));refine fG rfl (bf rfl (aS (aV (dc b E I hb) ?_)));refine fG rfl (bf rfl (aS (aV (dc c E I hc) ?_)));refine fG rfl (bf rfl (aS (aV (dc d E I hd) ?_)));exact fP rfl (ar rfl)
theorem Tb (sy:SY) (ce fu:List Int) (l:List TT) (h0:l.length<=4) (h:l.length≠4):mM (sy,ce,fu,l)=ah:=by
 unfold mM aY bK bx bB bD aX;rcases l with _|⟨a,_|⟨b,_|⟨c,_|⟨d,_|⟨e,l⟩⟩⟩⟩⟩;all_goals first|(simp at h;done)|(exfalso;simp only[bY] at h0;omega)|simp[fO,kn,oI,rQ,bcT,bcF]
theorem Zr {E:Nat} {L:List ET} (sy:SY) (ce fu:List Int) (a b c d:TT) (h:SV E L (sy,ce,fu,[a,b,c,d])) (hce:ce.length<=1000) (hfu:fu.length<=1000):mL (sy,ce,fu,[a,b,c,d])=af ((sy.2.1,sy.1,sy.2.2.1,sy.2.2.2).1,(sy.2.1,sy.1,sy.2.2.1,sy.2.2.2).2.1,(sy.2.1,sy.1,sy.2.2.1,sy.2.2.2).2.2.1,(sy.2.1,sy.1,sy.2.2.1,sy.2.2.2).2.2.2,(([]:List Int)++ce),(([]:List Int)++fu),((((a.1,a.2.2.2),a.2.1,a.2.2.1).1.1,((a.1,a.2.2.2),a.2.1,a.2.2.1).2.1,((a.1,a.2.2.2),a.2.1,a.2.2.1).2.2,((a.1,a.2.2.2),a.2.1,a.2.2.1).1.2),(((b.1,b.2.2.2),b.2.1,b.2.2.1).1.1,((b.1,b.2.2.2),b.2.1,b.2.2.1).2.1,((b.1,b.2.2.2),b.2.1,b.2.2.1).2.2,((b.1,b.2.2.2),b.2.1,b.2.2.1).1.2),(((c.1,c.2.2.2),c.2.1,c.2.2.1).1.1,((c.1,c.2.2.2),c.2.1,c.2.2.1).2.1,((c.1,c.2.2.2),c.2.1,c.2.2.1).2.2,((c.1,c.2.2.2),c.2.1,c.2.2.1).1.2),((d.1,d.2.2.2),d.2.1,d.2.2.1).1),((d.1,d.2.2.2),d.2.1,d.2.2.1).2):=by
 have I:=h.sb.n1;have J:TH (FQ L 0) E a:=h.t 0 (by simp);have hb:TH (FQ L 1) E b:=h.t 1 (by simp);have hc:TH (FQ L 2) E c:=h.t 2 (by simp);have hd:TH (FQ L 3) E d:=h.t 3 (by simp);refine cE ?_;unfold mL aY bK bx bB bD aX;refine aV (qN sy h.sb) ?_;refine bg (by simp;omega) (by omega) (bg (by simp;omega) (by omega) ?_);refine fG rfl (bf rfl (aS (aV (dc a E I J) ?_)));refine fG rfl (bf rfl (aS (aV (dc b E I hb) ?_)));refine fG rfl (bf rfl (aS (aV (dc c E I hc) ?_)));refine fG rfl (bf rfl (aS (aV (dc d E I hd) ?_)));exact fP rfl (ar rfl)
theorem Ta (sy:SY) (ce fu:List Int) (l:List TT) (h0:l.length<=4) (h:l.length≠4):mL (sy,ce,fu,l)=ah:=by
 unfold mL aY bK bx bB bD aX;rcases l with _|⟨a,_|⟨b,_|⟨c,_|⟨d,_|⟨e,l⟩⟩⟩⟩⟩;all_goals first|(simp at h;done)|(exfalso;simp only[bY] at h0;omega)|simp[fO,kn,oI,rQ,bcT,bcF]
theorem kdx (k:Int):k=1\/k=16\/k=2\/k=3\/k=23\/k=4\/k=22\/k=5\/((k=1)=False/\(k=16)=False/\(k=2)=False/\(k=3)=False/\(k=23)=False/\(k=4)=False/\(k=22)=False/\(k=5)=False):=by
 by_cases h:k=1\/k=16\/k=2\/k=3\/k=23\/k=4\/k=22\/k=5
 .omega
 .repeat (first|exact⟨eq_false (by omega),eq_false (by omega),eq_false (by omega),eq_false (by omega),eq_false (by omega),eq_false (by omega),eq_false (by omega),eq_false (by omega)⟩|refine Or.inr ?_)
def KR {Z:Type} (n:Nat) (I:CT) (L:List ET) (i:Nat) (u:Int) (l:List TT) (z:Z) (k:Int->(CT×SY×(Int×Int)×Int×(Int×Int×Int×Int×Int)×ET×(Int×Int)×(List Int)×(List Int)×Z×(List Int)×List (List Int))->Option (ST×ET×Bool)):Prop:=
 ∀ (F:Int->Prop) (p:Int) (sy:SY) (kd o v si:Int) (ds fs ce fu R:List Int) (T:List (List Int)) (ev:Int),
  (kd≠16->kd≠2->Ok (mV (aJ (T:=vZ) I.2 (i:Int),(p,R,T,bk .i64 (ev+1)))) λy=>TH F (n+1) y.1/\(y.1.2.1.length=0\/y.1.2.2.2=bk .i64 (ev+1)))->
  (kd=16\/kd=2->TH F (n+1) (p,R,T,bk .i64 (ev+1)))->
  (∀ t',TH F (n+1) t'->(t'.2.1.length=0\/t'.2.2.2=bk .i64 (ev+1)/\(kd=16->t'.1=p))->SQ n I L ((sy,ce,fu,l.set i t'),((i:Int),kd,o,v,si,ds,fs),ai))->(i:Int)<(I.2.length:Int)->
  ∀ J,Ok (k p (I,sy,((i:Int),u),0,(0,0,0,0,0),((i:Int),kd,o,v,si,ds,fs),(J,ev),ce,fu,z,R,T)) (SQ n I L)
theorem Bo {Z:Type} (N i:Nat) {M:SY×(List Int)×(List Int)×List TT->Option (Int×(List (Int×List Int))×(List Bool)×(List (Int×Int×Bool))×(List Int)×(List Int)×Z×(List Int)×List (List Int))} {pc ev:Z->Int} {k:Int->(CT×SY×(Int×Int)×Int×(Int×Int×Int×Int×Int)×ET×(Int×Int)×(List Int)×(List Int)×Z×(List Int)×List (List Int))->Option (ST×ET×Bool)} {n:Nat} (hn:n+1<=100000) (I:CT) (L:List ET) (s:ST) (t u:Int) (hc:CB I) (hs:SV n L s) (hI:K4 I L s)
 (h0:∀ sy ce fu (l:List TT),l.length<=4->l.length≠N->M (sy,ce,fu,l)=ah)
 (h1:∀ sy ce fu (l:List TT),SV n L (sy,ce,fu,l)->ce.length<=1000->fu.length<=1000->l.length=N->i<N/\∃ y,M (sy,ce,fu,l)=af y/\y.2.2.2.2.1=ce/\y.2.2.2.2.2.1=fu/\y.2.2.2.2.2.2.2.1=(aJ (T:=uN) l (i:Int)).2.1/\y.2.2.2.2.2.2.2.2=(aJ (T:=uN) l (i:Int)).2.2.1/\pc y.2.2.2.2.2.2.1=(aJ (T:=uN) l (i:Int)).1/\ev y.2.2.2.2.2.2.1=(aJ (T:=uN) l (i:Int)).2.2.2/\KR n I L i u l y.2.2.2.2.2.2.1 k):
 PH (SG (i:Int) M pc ev k (I,s,t,u)) (SQ n I L)/\(s.2.2.2.length=N->t=(i:Int)->Ok (SG (i:Int) M pc ev k (I,s,t,u)) (SQ n I L)):=by
 by_cases hz:s.2.2.2.length=N/\t=(i:Int)
 .obtain⟨U,rfl⟩:=hz;suffices h:Ok (SG (i:Int) M pc ev k (I,s,(i:Int),u)) (SQ n I L) from ⟨.inr h,λ_ _=>h⟩
  unfold SG D3 Prod.p11 Prod.p12 aY bi bw cu dU kC zV Ci Prod.q10 Prod.q11 Prod.q13 bK dx kB Prod.q9 ck bd bD kz aE;refine H5 hn hc hs hI (λo=>Ok o (SQ n I L)) (λy h=>ar h) _ λe v sy hp hm he hr ha hq=>?_
  obtain⟨sy0,ce,fu,l⟩:=s;obtain⟨e1,kd,o,e4,site,ds,fs⟩:=e;have het:=hp.et;dsimp only at U he hr ha hq het;subst het;have vl:=hp.fs.vc.vl;have hce:=hp.fs.ce;have hfu:=hp.fs.fu;dsimp only at hce hfu;obtain⟨hiN,⟨q1,q2,q3,q4,ce',fu',z,R0,T0⟩,hcp,g1,g2,g3,g4,hpc,hve,hk⟩:=h1 sy0 ce fu l hs (by have:=vl.c;omega) (by have:=vl.f;omega) U;dsimp only at g1 g2 g3 g4 hpc hve hk;rw[g1,g2,g3,g4] at hcp;obtain⟨_,_,nmce,_,_,_,nmfu,_,_,_⟩:=id he.nm;have t1:(i:Int)<(I.2.length:Int):=hp.t1;have htf:TF (aJ (T:=vZ) I.2 (i:Int)) (aJ (T:=uN) l (i:Int)):=hp.fs.t i (by omega);have hA:=hp.a;have Y:=hp.b;dsimp only at hA Y;have hvt:=hp.fs.vc.t _ (bH (T:=vZ) (xs:=I.2) (j:=(i:Int)) (by omega) t1);have hci:=hc.ins _ (bH (T:=vZ) (xs:=I.2) (j:=(i:Int)) (by omega) t1);have hth:TH (FQ L (i:Int)) n (aJ (T:=uN) l (i:Int)):=hs.t i (by dsimp only;omega);have done:=afw hn hs hI hp hm he hr ha;have htg:=hm.tg;have hrun:=hr.r;dsimp only at done htg;have hgv:kd=3\/kd=23->FQ (L++[((i:Int),kd,o,e4,site,ds,fs)]) (i:Int) (aJ (T:=uN) l (i:Int)).2.2.2:=λh3=>by
   have h2:=hrun (by omega) (by omega);have hn0:¬(fl L (i:Int)).length=0:=λh=>(htg.nw h).elim (λg=>cV (h2.symm.trans g) (by decide)) λg=>cV (h2.symm.trans g) (by decide)
   refine ⟨by rw[htg.ev];omega,KN.last (e:=((i:Int),kd,o,e4,site,ds,fs)) ?_ htg.ev⟩;unfold tf;rcases h3 with h|h
   .rw[aQ h];rfl
   .simp[h]
  have vaA:¬kd=3->¬kd=23->¬kd=5->VA I.1 sy0 ce fu (i:Int) kd o v:=λa b c=>⟨λh=>(a h).elim,λh=>(b h).elim,λh=>(c h).elim,λ_ _ _ _ _=>by rw[Sw hq]⟩
  have apA:(qX I.1 sy0 (i:Int) kd o v).1=sy:=by rw[Sw hq]
  have apB:¬kd=18->∀ v',(qX I.1 sy0 (i:Int) kd o v').1=sy:=λh v'=>by rw[Xu _ _ _ _ _ _ u h,<-hq]
  have keep:∀ x∈(aJ (T:=uN) l (i:Int)).2.2.1,TL (FQ (L++[((i:Int),kd,o,e4,site,ds,fs)]) (i:Int)) (n+1) x:=λx hx=>(hth.l x hx).mono (by omega) λy J=>⟨J.1,J.2.app _⟩
  clear g3 g4 hm hI hrun htg;revert done hgv keep;generalize FQ (L++[((i:Int),kd,o,e4,site,ds,fs)]) (i:Int)=F;generalize aJ (T:=uN) l (i:Int)=th at hcp hpc hve htf hA Y hth ⊢;intro done hgv keep;refine aV hcp ?_;dsimp only;rw[hpc,hve];refine fG (aQ rfl) ?_;refine aR (by omega) t1 (aS (aR htf.p0 htf.p1 (aS ?_)));have htz:th.2.2.1.length=th.2.1.length:=by have:=htf.r;have:=htf.t;omega
  have fin:∀ (p:Int) (R:List Int) (T:List (List Int)),R.length=th.2.1.length->T.length=th.2.2.1.length->(∀ x∈T,TL F (n+1) x)->Ok (mV (aJ (T:=vZ) I.2 (i:Int),(p,R,T,bk .i64 (th.2.2.2+1)))) λy=>TH F (n+1) y.1/\(y.1.2.1.length=0\/y.1.2.2.2=bk .i64 (th.2.2.2+1)):=λp R T h1 h2 h3=>by
   have a1:=hth.e0;have a2:=hth.e1;have a3:=hth.r;have a4:=hth.t;rw[ic (n:=th.2.2.2+1) (by omega) (by omega)];exact Zb (n+1) hn _ hci hvt _ ⟨by dsimp only;omega,by dsimp only;omega,h3,by dsimp only;omega,by dsimp only;omega⟩
  have mark:kd=3\/kd=23->∀ j:Int,∀ x∈cQ th.2.2.1 j [th.2.2.2],TL F (n+1) x:=λh3 j x hx=>by
   rcases Cu hx with h|h
   .exact keep x h
   .rw[h];exact⟨⟨λy J=>(by cases J),trivial⟩,λy J=>by rw[aL] at J;have:=hth.e0;have:=hth.e1;rw[J];exact⟨by omega,by omega⟩,λy J=>by rw[aL] at J;rw[J];exact hgv h3⟩
  have nopark:TH F (n+1) (th.1,th.2.1,th.2.2.1,bk .i64 (th.2.2.2+1)):=by
   have a1:=hth.e0;have a2:=hth.e1;rw[ic (n:=th.2.2.2+1) (by omega) (by omega)];exact⟨hth.r,hth.t,keep,by dsimp only;omega,by dsimp only;omega⟩
  clear hp hs hc h0 h1 hcp g1 g2 hr ha hq he;generalize (aJ (T:=Bw) (aJ (T:=vZ) I.2 (i:Int)).2 th.1)=ins at hA Y ⊢;rcases kdx kd with rfl|rfl|rfl|rfl|rfl|rfl|rfl|rfl|⟨k1,k2,k3,k4,k5,k6,k7,k8⟩
  case inr.inr.inr.inr.inr.inr.inr.inr=>
   simp only[k1,k2,k3,k4,k5,k6,k7,k8,aU,bn,sU];refine hk F _ _ _ _ _ _ _ _ _ _ _ _ _ (λ_ _=>fin _ _ _ rfl rfl keep) (λh=>by rw[k2,k3] at h;exact (h.elim id id).elim) (λt' h g=>?_) t1 _;exact done v ce fu t' apA (vaA (of_eq_false k4) (of_eq_false k5) (of_eq_false k8)) (ay (of_eq_false k6)).symm (ay (of_eq_false k7)).symm h (g.imp id λh=>⟨h.1,λh2=>(of_eq_false k2 h2).elim⟩)
  all_goals simp only[aU,bn,sU]
  .refine hk F _ _ _ _ _ _ _ _ _ _ _ _ _ (λ_ _=>fin _ _ _ rfl rfl keep) (λh=>by omega) (λt' h g=>?_) t1 _;exact done v ce fu t' apA (vaA (by decide) (by decide) (by decide)) rfl rfl h (g.imp id λh=>⟨h.1,λh2=>(by cases h2)⟩)
  .refine hk F _ _ _ _ _ _ _ _ _ _ _ _ _ (λh _=>(h rfl).elim) (λ_=>nopark) (λt' h g=>?_) t1 _;exact done v ce fu t' apA (vaA (by decide) (by decide) (by decide)) rfl rfl h g
  .refine hk F _ _ _ _ _ _ _ _ _ _ _ _ _ (λ_ h=>(h rfl).elim) (λ_=>nopark) (λt' h g=>?_) t1 _;exact done v ce fu t' apA (vaA (by decide) (by decide) (by decide)) rfl rfl h (g.imp id λh=>⟨h.1,λh2=>(by cases h2)⟩)
  .obtain⟨o0,o1⟩:=nmce (.inl rfl);rw[<- hce] at o1;obtain⟨a0,a1⟩:=hA (.inl rfl);have a2:ins.2.1<(th.2.2.1.length:Int):=by rw[htz];exact a1
   refine gy (aR o0 o1 (aR o0 o1 (ar ?_)));simp only[aU,bn,sU];refine gy (aR a0 a1 (aR a0 a1 (aR a0 a2 (aR a0 a2 (ar ?_)))));refine hk F _ _ _ _ _ _ _ _ _ _ _ _ _ (λ_ _=>fin _ _ _ (bT ..) (bT ..) (mark (.inl rfl) _)) (λh=>by omega) (λt' h g=>?_) t1 _;exact done _ ce fu t' (apB (by decide) _) ⟨λ_=>rfl,λh=>(by cases h),λh=>(by cases h),λh=>(h rfl).elim⟩ rfl rfl h (g.imp id λh=>⟨h.1,λh2=>(by cases h2)⟩)
  .obtain⟨o0,o1⟩:=nmfu (.inr rfl);rw[<- hfu] at o1;obtain⟨a0,a1⟩:=hA (.inr (.inl rfl));have a2:ins.2.1<(th.2.2.1.length:Int):=by rw[htz];exact a1
   refine gy (aR o0 o1 (aR o0 o1 (ar ?_)));simp only[aU,bn,sU];refine gy (aR a0 a1 (aR a0 a1 (aR a0 a2 (aR a0 a2 (ar ?_)))));refine hk F _ _ _ _ _ _ _ _ _ _ _ _ _ (λ_ _=>fin _ _ _ (bT ..) (bT ..) (mark (.inr rfl) _)) (λh=>by omega) (λt' h g=>?_) t1 _;exact done _ ce fu t' (apB (by decide) _) ⟨λh=>(by cases h),λ_=>rfl,λh=>(by cases h),λ_ h=>(h rfl).elim⟩ rfl rfl h (g.imp id λh=>⟨h.1,λh2=>(by cases h2)⟩)
  .obtain⟨o0,o1⟩:=nmce (.inr rfl);rw[<- hce] at o1;obtain⟨a0,a1⟩:=Y (.inl rfl);refine gy (aR a0 a1 (aR a0 a1 (aR o0 o1 (aR o0 o1 (ar ?_)))));simp only[aU,bn,sU];refine hk F _ _ _ _ _ _ _ _ _ _ _ _ _ (λ_ _=>fin _ _ _ rfl rfl keep) (λh=>by omega) (λt' h g=>?_) t1 _;exact done _ _ fu t' (apB (by decide) _) ⟨λh=>(by cases h),λh=>(by cases h),λh=>(by cases h),λ_ _ _ h=>(h rfl).elim⟩ rfl rfl h (g.imp id λh=>⟨h.1,λh2=>(by cases h2)⟩)
  .obtain⟨o0,o1⟩:=nmfu (.inl rfl);rw[<- hfu] at o1;obtain⟨a0,a1⟩:=Y (.inr rfl);refine gy (aR a0 a1 (aR a0 a1 (aR o0 o1 (aR o0 o1 (ar ?_)))));simp only[aU,bn,sU];refine hk F _ _ _ _ _ _ _ _ _ _ _ _ _ (λ_ _=>fin _ _ _ rfl rfl keep) (λh=>by omega) (λt' h g=>?_) t1 _;exact done _ ce _ t' (apB (by decide) _) ⟨λh=>(by cases h),λh=>(by cases h),λh=>(by cases h),λ_ _ _ _ h=>(h rfl).elim⟩ rfl rfl h (g.imp id λh=>⟨h.1,λh2=>(by cases h2)⟩)
  .obtain⟨a0,a1⟩:=hA (.inr (.inr rfl));refine gy (aR a0 a1 (aR a0 a1 (aK (λ_=>ar ?_) λ_=>ar ?_)));all_goals
    simp only[aU,bn,sU];refine hk F _ _ _ _ _ _ _ _ _ _ _ _ _ (λ_ _=>fin _ _ _ rfl rfl keep) (λh=>by omega) (λt' h g=>?_) t1 _;exact done _ ce fu t' (apB (by decide) _) ⟨λh=>(by cases h),λh=>(by cases h),λ_=>(by decide),λ_ _ h=>(h rfl).elim⟩ rfl rfl h (g.imp id λh=>⟨h.1,λh2=>(by cases h2)⟩)
 .refine ⟨?_,λh1 h2=>(hz ⟨h1,h2⟩).elim⟩;unfold SG D3 Prod.p11 Prod.p12 aY bi bw cu dU kC zV Ci Prod.q10 Prod.q11 Prod.q13 bK dx kB Prod.q9 ck bd bD kz aE;refine H5 hn hc hs hI (λo=>PH o (SQ n I L)) (λy h=>.inr (ar h)) _ λe v sy hp _ _ _ _ _=>.inl ?_
  obtain⟨sy0,ce,fu,l⟩:=s;have vl:=hp.fs.vc.vl;by_cases hl:l.length=N
  .have ht:¬t=(i:Int):=λh=>hz ⟨hl,h⟩
   dsimp only;cases M (sy0,ce,fu,l) with
   |none=>rfl
   |some y=>rw[WE,bL ht];rfl
  .show obind (M (sy0,ce,fu,l)) _=ah;rw[h0 sy0 ce fu l (by have h1:l.length=I.2.length:=hp.fs.th;have:=hp.fs.vc.tl;have:=vl.t;omega) hl];rfl
theorem Bp {Z W V:Type} {n:Nat} {U:CT} {L:List ET} {i:Nat} {u:Int} {l:List TT} {z:Z} {t1:Z->List Int->List (List Int)->W} {J:W->V} {I:V->TT->List TT} (Y:∀ R T t',I (J (t1 z R T)) t'=l.set i t'):KR n U L i u l z (KG (i:Int) t1 J I):=by
 intro F p sy kd o v si ds fs ce fu R T ev fin park done ht pc;unfold KG D3 aY bi bw cu dU kC zV Ci Prod.q10 Prod.q11 pU bd jd bD aE cC;dsimp only;have done:∀ t',TH F (n+1) t'->(t'.2.1.length=0\/t'.2.2.2=bk .i64 (ev+1)/\(kd=16->t'.1=p))->SQ n U L ((sy,ce,fu,I (J (t1 z R T)) t'),((i:Int),kd,o,v,si,ds,fs),ai):=λt' h g=>by rw[Y];exact done t' h g
 by_cases h1:kd=16
 .subst h1;exact gy (gy (fP rfl (ar (fP rfl (ar (fG (aQ rfl) (ar (done _ (park (.inl rfl)) (.inr ⟨rfl,λ_=>rfl⟩)))))))))
 by_cases h2:kd=2
 .subst h2;exact gy (gy (fG rfl (ar (fP rfl (ar (fG (aQ rfl) (ar (done _ (park (.inr rfl)) (.inr ⟨rfl,λh=>(by cases h)⟩)))))))))
 rw[bL h1,bL h2];exact gy (gy (fG rfl (ar (fG rfl (aR (dS i) ht (aS (ax (fin h1 h2) λy M=>ar (fG (aQ rfl) (ar (done _ M.1 (M.2.imp id λh=>⟨h,λh2=>(h1 h2).elim⟩)))))))))))
theorem Y4 {n:Nat} (hn:n+1<=100000) (I:CT) (L:List ET) (s:ST) (t u:Int) (hc:CB I) (hs:SV n L s) (J:K4 I L s):PH (mK (I,s,t,u)) (SQ n I L)/\(s.2.2.2.length=4->t=0->Ok (mK (I,s,t,u)) (SQ n I L)):=by
 refine Bo 4 0 hn I L s t u hc hs J Td λsy ce fu l hs hce hfu hl=>⟨by decide,?_⟩
 obtain⟨a,b,c,d,rfl⟩:∃ a b c d,l=[a,b,c,d]:=by
  rcases l with _|⟨a,_|⟨b,_|⟨c,_|⟨d,_|⟨e,l⟩⟩⟩⟩⟩;all_goals first|exact⟨_,_,_,_,rfl⟩|(simp at hl;done)|(exfalso;simp only[bY] at hl;omega)
 refine ⟨_,Zu sy ce fu a b c d hs hce hfu,rfl,rfl,rfl,rfl,rfl,rfl,Bp λR T t'=>rfl⟩
theorem Y3 {n:Nat} (hn:n+1<=100000) (I:CT) (L:List ET) (s:ST) (t u:Int) (hc:CB I) (hs:SV n L s) (J:K4 I L s):PH (mJ (I,s,t,u)) (SQ n I L)/\(s.2.2.2.length=4->t=1->Ok (mJ (I,s,t,u)) (SQ n I L)):=by
 refine Bo 4 1 hn I L s t u hc hs J Tc λsy ce fu l hs hce hfu hl=>⟨by decide,?_⟩
 obtain⟨a,b,c,d,rfl⟩:∃ a b c d,l=[a,b,c,d]:=by
  rcases l with _|⟨a,_|⟨b,_|⟨c,_|⟨d,_|⟨e,l⟩⟩⟩⟩⟩;all_goals first|exact⟨_,_,_,_,rfl⟩|(simp at hl;done)|(exfalso;simp only[bY] at hl;omega)
 refine ⟨_,Zt sy ce fu a b c d hs hce hfu,rfl,rfl,rfl,rfl,rfl,rfl,Bp λR T t'=>rfl⟩
theorem Y2 {n:Nat} (hn:n+1<=100000) (I:CT) (L:List ET) (s:ST) (t u:Int) (hc:CB I) (hs:SV n L s) (J:K4 I L s):PH (li (I,s,t,u)) (SQ n I L)/\(s.2.2.2.length=4->t=2->Ok (li (I,s,t,u)) (SQ n I L)):=by
 refine Bo 4 2 hn I L s t u hc hs J Tb λsy ce fu l hs hce hfu hl=>⟨by decide,?_⟩
 obtain⟨a,b,c,d,rfl⟩:∃ a b c d,l=[a,b,c,d]:=by
  rcases l with _|⟨a,_|⟨b,_|⟨c,_|⟨d,_|⟨e,l⟩⟩⟩⟩⟩;all_goals first|exact⟨_,_,_,_,rfl⟩|(simp at hl;done)|(exfalso;simp only[bY] at hl;omega)
 refine ⟨_,Zs sy ce fu a b c d hs hce hfu,rfl,rfl,rfl,rfl,rfl,rfl,Bp λR T t'=>rfl⟩
theorem Y1 {n:Nat} (hn:n+1<=100000) (I:CT) (L:List ET) (s:ST) (t u:Int) (hc:CB I) (hs:SV n L s) (J:K4 I L s):PH (j8 (I,s,t,u)) (SQ n I L)/\(s.2.2.2.length=4->t=3->Ok (j8 (I,s,t,u)) (SQ n I L)):=by
 refine Bo 4 3 hn I L s t u hc hs J Ta λsy ce fu l hs hce hfu hl=>⟨by decide,?_⟩
 obtain⟨a,b,c,d,rfl⟩:∃ a b c d,l=[a,b,c,d]:=by
  rcases l with _|⟨a,_|⟨b,_|⟨c,_|⟨d,_|⟨e,l⟩⟩⟩⟩⟩;all_goals first|exact⟨_,_,_,_,rfl⟩|(simp at hl;done)|(exfalso;simp only[bY] at hl;omega)
 refine ⟨_,Zr sy ce fu a b c d hs hce hfu,rfl,rfl,rfl,rfl,rfl,rfl,Bp λR T t'=>rfl⟩
theorem Y7 {n:Nat} (hn:n+1<=100000) (I:CT) (L:List ET) (s:ST) (t u:Int) (hc:CB I) (hs:SV n L s) (J:K4 I L s):PH (jp (I,s,t,u)) (SQ n I L)/\(s.2.2.2.length=3->t=0->Ok (jp (I,s,t,u)) (SQ n I L)):=by
 refine Bo 3 0 hn I L s t u hc hs J Tg λsy ce fu l hs hce hfu hl=>⟨by decide,?_⟩
 obtain⟨a,b,c,rfl⟩:∃ a b c,l=[a,b,c]:=by
  rcases l with _|⟨a,_|⟨b,_|⟨c,_|⟨d,_|⟨e,l⟩⟩⟩⟩⟩;all_goals first|exact⟨_,_,_,rfl⟩|(simp at hl;done)|(exfalso;simp only[bY] at hl;omega)
 refine ⟨_,Zx sy ce fu a b c hs hce hfu,rfl,rfl,rfl,rfl,rfl,rfl,Bp λR T t'=>rfl⟩
theorem Y6 {n:Nat} (hn:n+1<=100000) (I:CT) (L:List ET) (s:ST) (t u:Int) (hc:CB I) (hs:SV n L s) (J:K4 I L s):PH (iC (I,s,t,u)) (SQ n I L)/\(s.2.2.2.length=3->t=1->Ok (iC (I,s,t,u)) (SQ n I L)):=by
 refine Bo 3 1 hn I L s t u hc hs J Tf λsy ce fu l hs hce hfu hl=>⟨by decide,?_⟩
 obtain⟨a,b,c,rfl⟩:∃ a b c,l=[a,b,c]:=by
  rcases l with _|⟨a,_|⟨b,_|⟨c,_|⟨d,_|⟨e,l⟩⟩⟩⟩⟩;all_goals first|exact⟨_,_,_,rfl⟩|(simp at hl;done)|(exfalso;simp only[bY] at hl;omega)
 refine ⟨_,Zw sy ce fu a b c hs hce hfu,rfl,rfl,rfl,rfl,rfl,rfl,Bp λR T t'=>rfl⟩
theorem Y5 {n:Nat} (hn:n+1<=100000) (I:CT) (L:List ET) (s:ST) (t u:Int) (hc:CB I) (hs:SV n L s) (J:K4 I L s):PH (gZ (I,s,t,u)) (SQ n I L)/\(s.2.2.2.length=3->t=2->Ok (gZ (I,s,t,u)) (SQ n I L)):=by
 refine Bo 3 2 hn I L s t u hc hs J Te λsy ce fu l hs hce hfu hl=>⟨by decide,?_⟩
 obtain⟨a,b,c,rfl⟩:∃ a b c,l=[a,b,c]:=by
  rcases l with _|⟨a,_|⟨b,_|⟨c,_|⟨d,_|⟨e,l⟩⟩⟩⟩⟩;all_goals first|exact⟨_,_,_,rfl⟩|(simp at hl;done)|(exfalso;simp only[bY] at hl;omega)
 refine ⟨_,Zv sy ce fu a b c hs hce hfu,rfl,rfl,rfl,rfl,rfl,rfl,Bp λR T t'=>rfl⟩
theorem Y9 {n:Nat} (hn:n+1<=100000) (I:CT) (L:List ET) (s:ST) (t u:Int) (hc:CB I) (hs:SV n L s) (J:K4 I L s):PH (gB (I,s,t,u)) (SQ n I L)/\(s.2.2.2.length=2->t=0->Ok (gB (I,s,t,u)) (SQ n I L)):=by
 refine Bo 2 0 hn I L s t u hc hs J Ti λsy ce fu l hs hce hfu hl=>⟨by decide,?_⟩
 obtain⟨a,b,rfl⟩:∃ a b,l=[a,b]:=by
  rcases l with _|⟨a,_|⟨b,_|⟨c,_|⟨d,_|⟨e,l⟩⟩⟩⟩⟩;all_goals first|exact⟨_,_,rfl⟩|(simp at hl;done)|(exfalso;simp only[bY] at hl;omega)
 refine ⟨_,Zz sy ce fu a b hs hce hfu,rfl,rfl,rfl,rfl,rfl,rfl,Bp λR T t'=>rfl⟩
theorem Y8 {n:Nat} (hn:n+1<=100000) (I:CT) (L:List ET) (s:ST) (t u:Int) (hc:CB I) (hs:SV n L s) (J:K4 I L s):PH (fY (I,s,t,u)) (SQ n I L)/\(s.2.2.2.length=2->t=1->Ok (fY (I,s,t,u)) (SQ n I L)):=by
 refine Bo 2 1 hn I L s t u hc hs J Th λsy ce fu l hs hce hfu hl=>⟨by decide,?_⟩
 obtain⟨a,b,rfl⟩:∃ a b,l=[a,b]:=by
  rcases l with _|⟨a,_|⟨b,_|⟨c,_|⟨d,_|⟨e,l⟩⟩⟩⟩⟩;all_goals first|exact⟨_,_,rfl⟩|(simp at hl;done)|(exfalso;simp only[bY] at hl;omega)
 refine ⟨_,Zy sy ce fu a b hs hce hfu,rfl,rfl,rfl,rfl,rfl,rfl,Bp λR T t'=>rfl⟩
theorem Y_ {n:Nat} (hn:n+1<=100000) (I:CT) (L:List ET) (s:ST) (t u:Int) (hc:CB I) (hs:SV n L s) (J:K4 I L s):PH (fZ (I,s,t,u)) (SQ n I L)/\(s.2.2.2.length=1->t=0->Ok (fZ (I,s,t,u)) (SQ n I L)):=by
 refine Bo 1 0 hn I L s t u hc hs J Tj λsy ce fu l hs hce hfu hl=>⟨by decide,?_⟩
 obtain⟨a,rfl⟩:∃ a,l=[a]:=by
  rcases l with _|⟨a,_|⟨b,_|⟨c,_|⟨d,_|⟨e,l⟩⟩⟩⟩⟩;all_goals first|exact⟨_,rfl⟩|(simp at hl;done)|(exfalso;simp only[bY] at hl;omega)
 refine ⟨_,ZA sy ce fu a hs hce hfu,rfl,rfl,rfl,rfl,rfl,rfl,Bp λR T t'=>rfl⟩
theorem Y' {n:Nat} (hn:n+1<=100000) (c:CT) (L:List ET) (s:ST) (t u:Int) (hc:CB c) (hs:SV n L s) (Z:K4 c L s):Ok (Ac (c,s,t,u)) (SQ n c L):=by
 unfold Ac;have I:=Y4 hn c L s t u hc hs Z;have J:=Y3 hn c L s t u hc hs Z;have M:=Y2 hn c L s t u hc hs Z;have U:=Y1 hn c L s t u hc hs Z;have Y:=Y7 hn c L s t u hc hs Z;have a31:=Y6 hn c L s t u hc hs Z;have a32:=Y5 hn c L s t u hc hs Z;have a20:=Y9 hn c L s t u hc hs Z;have a21:=Y8 hn c L s t u hc hs Z;have a10:=Y_ hn c L s t u hc hs Z;by_cases hz:s.2.2.2.length<=4/\0<=t/\t<(s.2.2.2.length:Int)
 .obtain⟨h1,h2,h3⟩:=hz;have:(s.2.2.2.length=4/\t=0)\/(s.2.2.2.length=4/\t=1)\/(s.2.2.2.length=4/\t=2)\/(s.2.2.2.length=4/\t=3)\/(s.2.2.2.length=3/\t=0)\/(s.2.2.2.length=3/\t=1)\/(s.2.2.2.length=3/\t=2)\/(s.2.2.2.length=2/\t=0)\/(s.2.2.2.length=2/\t=1)\/(s.2.2.2.length=1/\t=0):=by omega
  rcases this with h|h|h|h|h|h|h|h|h|h
  .exact (I.2 h.1 h.2).orL
  .exact I.1.orR (J.2 h.1 h.2).orL
  .exact I.1.orR (J.1.orR (M.2 h.1 h.2).orL)
  .exact I.1.orR (J.1.orR (M.1.orR (U.2 h.1 h.2).orL))
  .exact I.1.orR (J.1.orR (M.1.orR (U.1.orR (Y.2 h.1 h.2).orL)))
  .exact I.1.orR (J.1.orR (M.1.orR (U.1.orR (Y.1.orR (a31.2 h.1 h.2).orL))))
  .exact I.1.orR (J.1.orR (M.1.orR (U.1.orR (Y.1.orR (a31.1.orR (a32.2 h.1 h.2).orL)))))
  .exact I.1.orR (J.1.orR (M.1.orR (U.1.orR (Y.1.orR (a31.1.orR (a32.1.orR (a20.2 h.1 h.2).orL))))))
  .exact I.1.orR (J.1.orR (M.1.orR (U.1.orR (Y.1.orR (a31.1.orR (a32.1.orR (a20.1.orR (a21.2 h.1 h.2).orL)))))))
  .exact I.1.orR (J.1.orR (M.1.orR (U.1.orR (Y.1.orR (a31.1.orR (a32.1.orR (a20.1.orR (a21.1.orR (a10.2 h.1 h.2)))))))))
 .refine Ok.orL ?_;unfold mK aY bi dx;refine H5 hn hc hs Z (λo=>Ok o (SQ n c L)) (λy h=>ar h) _ λe v sy hp _ _ _ _ _=>(hz ?_).elim
  have h1:s.2.2.2.length=c.2.length:=hp.fs.th;have h2:c.2.length=c.1.2.2.2.2.1.length:=hp.fs.vc.tl;have h3:c.1.2.2.2.2.1.length<=4:=hp.fs.vc.vl.t;have h4:0<=t:=hp.t0;have h5:t<(c.2.length:Int):=hp.t1;exact⟨by omega,h4,by omega⟩
theorem aes (c:CT) (s:ST) (l:List (Int×Int)) (hc:CB c) (hs:SV 0 [] s) (hI:K4 c [] s) (hl:l.length<=9223372036854775806):Ok (wq (c,s,l)) λy=>y.1.length<=400/\(∀ e∈y.1,EvF c.1 e/\Zq e)/\∃ sy ce fu,Acw c.1 y.1 sy ce fu:=by
 unfold wq aY bi dx bx bB bD aX cL aE cC;refine pZ (λx=>((l.length:Int)-x.1).toNat) (λx=>0<=x.1/\x.2.2.1=c/\SV x.2.1.length x.2.1 x.2.2.2.1/\K4 c x.2.1 x.2.2.2.1/\x.2.1.length<=400/\∀ e∈x.2.1,EvF c.1 e/\Zq e) ?_ ⟨eP _,rfl,hs,hI,by simp,λe he=>(by cases he)⟩;rintro⟨(i:Int),es,c',s',z⟩ ⟨U,e1,e2,eI,e3,I⟩;dsimp only at U e1 e2 eI e3 I;subst e1;refine aZ (λx=>x.2=(es,c',s',z)/\(x.1=ai->i<(l.length:Int)/\es.length<400)) ?_ ?_
 .refine bF (λg=>ar ⟨rfl,λh=>⟨g,?_⟩⟩) λ_=>ar ⟨rfl,λh=>(by cases h)⟩
  dsimp only at h;rw[tD] at h;dsimp only[au] at h;omega
 rintro⟨b,x⟩ ⟨Z,Y⟩;dsimp only at Z Y;subst Z;refine aP (λh=>?_) λ_=>ar ⟨e3,I,_,_,_,eI.ac⟩
 obtain⟨g1,g2⟩:=Y h;refine aZ (λx=>x.2.1=c'/\SV x.1.length x.1 x.2.2.1/\K4 c' x.1 x.2.2.1/\x.1.length<=400/\∀ e∈x.1,EvF c'.1 e/\Zq e) ?_ ?_
 .refine aR U g1 (aS ?_);refine ax (Y' (n:=es.length) (by omega) c' es s' _ _ hc e2 eI) λy hy=>?_
  refine aP (λh=>?_) λ_=>ar ⟨rfl,e2,eI,e3,I⟩
  obtain⟨h1,hJ,h2,h3⟩:=hy h;refine bg (by simp;omega) (by omega) (ar ⟨rfl,?_,hJ,by simp;omega,λe he=>?_⟩)
  .dsimp only;rw[bu,dR];exact h1
  .rcases bP.1 he with he|he
   .exact I e he
   .rw[aL] at he;subst he;exact⟨h2,h3⟩
 rintro⟨es',c2,s2,z2⟩ ⟨k1,k2,kI,M,J⟩;dsimp only at k1 k2 kI M J;subst k1;refine ar ?_;dsimp only;rw[ic (n:=i+1) (by omega) (by omega)];exact⟨⟨by omega,rfl,k2,kI,M,J⟩,by omega⟩
theorem CB.vc {c:CT} (hc:CB c):VC c:=by
 obtain⟨b,h1,h2⟩:=SM c hc.th hc.ins;rw[hc.ok] at h1;cases h1;exact h2 rfl
theorem ajk (c:CT) (l:List (Int×Int)) (hc:CB c) (hl:l.length<=9223372036854775806):Ok (yU (c,l)) λy=>TR y.1:=by
 unfold yU;refine aV hc.ok (ec (λh=>(by cases h)) λ_=>?_);have hv:=hc.vc;refine ax (VY c hc.ok hv) λs hs=>?_
 refine ax (aes c s l hc hs.1 hs.2 hl) λy I=>ar ?_
 exact⟨hv.vl.wb,hv.vl,λe he=>(I.2.1 e he).1,by have:=I.1;dsimp only;omega,λe he=>(I.2.1 e he).2,hc.wx,I.2.2⟩
theorem V8 (l:List Int) (hl:l.length<=1000000):Ok (oG l) λy=>y.length=l.length:=by
 unfold oG bx bB bD aX cL aE cC;refine b9 l.length (λi x=>x.1=(i:Int)/\x.2.length=i) ?_ ?_ ⟨rfl,rfl⟩
 .rintro i ⟨a,b⟩ hi ⟨e1,e2⟩;dsimp only at e1 e2;subst e1;refine du ?_;refine ch (aS (ch (aS (bg (by simp;omega) (by omega) (ar ?_)))));dsimp only;exact⟨gM (by omega),by simp;omega⟩
 .rintro⟨a,b⟩ ⟨e1,e2⟩;dsimp only at e1 e2;subst e1;exact dv (ar e2)
theorem fg (e:Xp):dZ (Xp.op e,Xp.n e,Xp.name e,Xp.l e)=e:=by cases e;rfl
theorem yN (s:Sx):nJ (Sx.op s,Sx.line s,Sx.name s,Sx.arg s,Sx.index s,Sx.expr s,Sx.body s,Sx.els s)=s:=by cases s;rfl
abbrev NV:List (List UInt8):=[[97],[98],[120],[121],[118]]
def GE:Nat->Xp->Prop
 |0,_=>False
 |d+1,e=>(e.op=3->e.name=[113])/\(e.op≠1->e.op≠2->1<=e.l.length)/\e.l.length<=2/\(∀ x∈e.l,GE d x)/\(e.op=2->e.name∈NV)/\(e.op≠1->e.op≠2->e.op≠3->2<=e.l.length/\6<=e.op/\e.op<=18)
theorem GE.mono:∀ {d:Nat} {e:Xp},GE d e->GE (d+1) e
 |0,_,h=>h.elim
 |_+1,_,h=>⟨h.1,h.2.1,h.2.2.1,λx I=>(h.2.2.2.1 x I).mono,h.2.2.2.2⟩
theorem GE.le {d k:Nat} {e:Xp} (h:GE d e) (hk:d<=k):GE k e:=by
 induction hk with
 |refl=>exact h
 |step _ I=>exact I.mono
theorem NU (n:Int):ry n=af (.mk 1 n [] []):=rfl
theorem Hy (s:List UInt8):pj s=af (.mk 2 0 s []):=rfl
theorem Fg (o:Int) (a b:Xp):nI (o,a,b)=af (.mk o 0 [] [a,b]):=by
 cases a;cases b;rfl
theorem tX (s:List UInt8) (e:Xp):ji (s,e)=af (.mk 1 0 s [] [] e [] []):=by
 cases e;rfl
abbrev MK:Type:=Int×Int×Bool×Bool×Bool×Bool
abbrev Pn:Type:=List Int×Int
abbrev HD:Type:=Bool×List (List UInt8)
theorem GE.num (n:Int) (d:Nat):GE (d+1) (.mk 1 n [] []):=⟨λh=>(by cases h),λh=>(h rfl).elim,by simp[Xp.l],λx I=>(by cases I),λh=>(by cases h),λh=>(h rfl).elim⟩
theorem GE.nm {s:List UInt8} (hs:s∈NV) (d:Nat):GE (d+1) (.mk 2 0 s []):=⟨λh=>(by cases h),λ_ h=>(h rfl).elim,by simp[Xp.l],λx I=>(by cases I),λ_=>hs,λ_ h=>(h rfl).elim⟩
theorem GE.bin {o:Int} {a b:Xp} {d:Nat} (J:6<=o/\o<=18) (M:GE d a) (hb:GE d b):GE (d+1) (.mk o 0 [] [a,b]):=
 ⟨λh=>(by have h:o=3:=h;omega),λ_ _=>by simp[Xp.l],by simp[Xp.l],λx I=>by
   simp only[Xp.l,bm,ct,f_] at I;rcases I with rfl|rfl
   .exact M
   .exact hb,λh=>(by have h:o=2:=h;omega),λ_ _ _=>⟨by simp[Xp.l],J⟩⟩
theorem GE.ix {a:Xp} {d:Nat} (J:GE d a):GE (d+1) (.mk 3 0 [113] [a]):=
 ⟨λ_=>rfl,λ_ _=>by simp[Xp.l],by simp[Xp.l],λx I=>by
   simp only[Xp.l,bm,ct,f_] at I;rw[I];exact J,λh=>(by cases h),λ_ _ h=>(h rfl).elim⟩
theorem Db:∀ (n d:Nat),d<n->d<=10->∀ (m:MK) (t:Pn) (h:HD),TP t->Ok (il n ((d:Int),m,t,h)) λy=>GE (d+1) y.1/\y.2.1=m/\uU t y.2.2.1/\y.2.2.2=h
 |0,d,hd,_,_,_,_,_=>by omega
 |n+1,d,hd,h10,m,t,h,ht=>by
  rw[yG];unfold nP aY bi bK dx cY bd bx bB kz aX aE;refine ax (gj 10 t ht) λy I=>?_
  obtain⟨k,t1⟩:=y;obtain⟨s1,k0,k1,_⟩:=I;have k1:=k1 (by decide);dsimp only at s1 k0 k1;refine aZ (λx=>x.2=(m,t1,h,(0,0,[]),[[97],[98],[120],[121],[118],[120],[121]])/\(x.1=aj->2<=k/\(d=0->k<7))) ?_ ?_
  .refine bF (λ_=>ar ⟨rfl,λh=>(by cases h)⟩) λg=>aK (λg2=>ar ⟨rfl,λg3=>⟨g,λ_=>?_⟩⟩) λg2=>ar ⟨rfl,λ_=>⟨g,λh=>(g2 (by dsimp only;omega)).elim⟩⟩
   dsimp only at g3;rw[lY] at g3;exact g3
  rintro⟨b,x⟩ ⟨e,hb⟩;dsimp only at e hb;subst e;refine aP (λ_=>?_) λg=>?_
  .refine ax (gj 4 t1 s1.p) λy I=>?_
   refine aV (NU _) (ar ?_);exact⟨GE.num _ _,rfl,s1.trans I.1,rfl⟩
  obtain⟨q0,q1⟩:=hb g;refine bF (λg=>?_) λg=>?_
  .refine ax (gj _ t1 s1.p) λy I=>?_
   obtain⟨u1,M,J,_⟩:=I;have J:=J (show (1:Int)<=7 by decide);refine aR M J (aR M J (aS ?_));refine aV (Hy _) (ar ?_);have hnv:∀ z∈([[97],[98],[120],[121],[118],[120],[121]]:List (List UInt8)),z∈NV:=by decide
   exact⟨GE.nm (hnv _ (bH (T:=.str) M J)) _,rfl,s1.trans u1,rfl⟩
  dsimp only at g;have hd0:d≠0:=λh=>by have:=q1 h;omega
  obtain⟨d,rfl⟩:∃ k,d=k+1:=⟨d-1,by omega⟩
  refine aK (λg=>?_) λg=>?_
  .refine ax (Db n 0 (by omega) (by omega) m t1 h s1.p) λy I=>?_
   obtain⟨e,m',t',h'⟩:=y;obtain⟨v1,Z,U,Y⟩:=I;dsimp only at v1 Z U Y;subst Z;subst Y;refine bf (by simp) (ar ?_);dsimp only;rw[fg];exact⟨(GE.ix (v1.le (by omega):GE (d+1) e)),rfl,s1.trans U,rfl⟩
  .refine ax (gj _ t1 s1.p) λy I=>?_
   obtain⟨k2,t2⟩:=y;obtain⟨u1,M,J,_⟩:=I;have J:=J (by decide);dsimp only at u1 M J;refine aR M J (aR M J (aS ?_));have ho:(6:Int)<=aJ (T:=.int .i64) [6,7,8,11,13,17] k2/\aJ (T:=.int .i64) [6,7,8,11,13,17] k2<=(18:Int):=by
    have h1:=bH (T:=.int .i64) (xs:=([6,7,8,11,13,17]:List Int)) M J;have:∀ z:Int,z∈([6,7,8,11,13,17]:List Int)->6<=z/\z<=18:=by decide
    exact this _ h1
   have ew:bk .i64 (((d+1:Nat):Int)-1)=(d:Int):=by rw[ic (by omega) (by omega)];omega
   dsimp only;rw[ew];refine ax (Db n d (by omega) (by omega) m t2 h u1.p) λy I=>?_
   obtain⟨e,m',t',h'⟩:=y;obtain⟨v1,Z,U,Y⟩:=I;dsimp only at v1 Z U Y;subst Z;subst Y;refine bf (by simp) ?_;refine ax (Db n d (by omega) (by omega) m' t' h' U.p) λy I=>?_
   obtain⟨e2,m2,t2',h2⟩:=y;obtain⟨w1,w2,w3,w4⟩:=I;dsimp only at w1 w2 w3 w4;subst w2;subst w4;refine bf (by simp) ?_;refine aV (Fg _ _ _) (ar ?_);dsimp only;rw[fg];exact⟨GE.bin ho v1 w1,rfl,s1.trans (u1.trans (U.trans w3)),rfl⟩
theorem aah (d:Nat) (hd:d<=10) (m:MK) (t:Pn) (h:HD) (ht:TP t):Ok (fc ((d:Int),m,t,h)) λy=>GE (d+1) y.1/\y.2.1=m/\uU t y.2.2.1/\y.2.2.2=h:=Db fuel d (by rw[jP];omega) hd m t h ht
def NE (op:Int):Prop:=op=1\/op=2\/op=3\/op=14
def ZE (e:Xp):Prop:=GE 4 e\/e= .mk 0 0 [] []
structure NO (nT:Nat) (s:Sx):Prop where
 o0:1<=s.op
 o1:s.op<=15
 vr:s.op=1->s.index=[]->s.name∈NV
 lk:s.op=4->s.name=[109]\/s.name=[110]
 rw:s.op=5\/s.op=6->s.name=[114]
 cn:s.op=9\/s.op=10\/s.op=11->s.name=[99]
 sp:s.op=12\/s.op=13->s.name∈v7.take nT
 se:s.op=14->s.name=[102]
 ge:s.op=15->s.name=[97]/\s.arg=[102]
 el:¬s.op=2->s.els=[]
 bo:s.op=1\/9<=s.op->s.body=[]
variable {nT:Nat}
def GS (nT:Nat):Nat->Sx->Prop
 |0,_=>False
 |d+1,s=>(s.index≠[]->s.name=[113])/\s.index.length<=1/\(∀ e∈s.index,GE 4 e)/\(NE s.op->GE 4 s.expr)/\ZE s.expr/\s.body.length<=8/\s.els.length<=8/\(∀ x∈s.body,GS nT d x)/\(∀ x∈s.els,GS nT d x)/\NO nT s
theorem GS.mono:∀ {d:Nat} {s:Sx},GS nT d s->GS nT (d+1) s
 |0,_,h=>h.elim
 |_+1,_,⟨a,b,c,e,f,g,i,j,k,l⟩=>⟨a,b,c,e,f,g,i,λx I=>(j x I).mono,λx I=>(k x I).mono,l⟩
theorem GS.le {d k:Nat} {s:Sx} (h:GS nT d s) (hk:d<=k):GS nT k s:=by
 induction hk with
 |refl=>exact h
 |step _ I=>exact I.mono
theorem NO.asg {s a:List UInt8} {e:Xp} {i:List Xp} (hs:i=[]->s∈NV):NO nT (.mk 1 0 s a i e [] []):=by
 constructor<;>simp[Sx.op,Sx.name,Sx.index,Sx.els,Sx.body];exact λh=>by simpa using hs h
theorem GS.asg {d:Nat} {s:List UInt8} (hs:s∈NV) {e:Xp} (h:GE 4 e):GS nT (d+1) (.mk 1 0 s [] [] e [] []):=
 ⟨λh=>(h rfl).elim,by simp[Sx.index],λe he=>(by cases he),λ_=>h,.inl h,by simp[Sx.body],by simp[Sx.els],λx I=>(by cases I),λx I=>(by cases I),NO.asg λ_=>hs⟩
theorem GS.aix {d:Nat} {i e:Xp} (hi:GE 4 i) (h:GE 4 e):GS nT (d+1) (.mk 1 0 [113] [] [i] e [] []):=
 ⟨λ_=>rfl,by simp[Sx.index],λe he=>(by simp only[Sx.index,aL] at he;rw[he];exact hi),λ_=>h,.inl h,by simp[Sx.body],by simp[Sx.els],λx I=>(by cases I),λx I=>(by cases I),NO.asg λh=>(by cases h)⟩
theorem GS.we {d:Nat} {op:Int} {s a:List UInt8} {e:Xp} {b l:List Sx} (h:GE 4 e) (hb:b.length<=8) (hl:l.length<=8) (I:∀ x∈b,GS nT d x) (gl:∀ x∈l,GS nT d x) (hn:NO nT (.mk op 0 s a [] e b l)):GS nT (d+1) (.mk op 0 s a [] e b l):=
 ⟨λh=>(h rfl).elim,by simp[Sx.index],λe he=>(by cases he),λ_=>h,.inl h,hb,hl,I,gl,hn⟩
theorem GS.wo {d:Nat} {op ln:Int} {s a:List UInt8} {b:List Sx} (M:4<=op/\op≠14) (hb:b.length<=8) (J:∀ x∈b,GS nT d x) (hn:NO nT (.mk op ln s a [] (.mk 0 0 [] []) b [])):GS nT (d+1) (.mk op ln s a [] (.mk 0 0 [] []) b []):=
 ⟨λh=>(h rfl).elim,by simp[Sx.index],λe he=>(by cases he),λh=>(by have h:op=1\/op=2\/op=3\/op=14:=h;omega),.inr rfl,hb,by simp[Sx.els],J,λx I=>(by cases I),hn⟩
def QS (nT:Nat) (d:Nat) (n:Int) (t:Pn) (h:HD) (y:MK×Pn×HD×List Sx):Prop:=(y.2.2.2.length:Int)<=max 0 n/\(∀ s∈y.2.2.2,GS nT (d+1) s)/\uU t y.2.1/\y.2.2.1.2=h.2
def QT (nT:Nat) (d:Nat) (t:Pn) (h:HD) (y:Sx×MK×Pn×HD):Prop:=GS nT (d+1) y.1/\uU t y.2.2.1/\y.2.2.2.2=h.2
def QB (nT:Nat) (d:Nat) (t:Pn) (h:HD) (y:List Sx×MK×Pn×HD):Prop:=y.1.length<=2/\(∀ s∈y.1,GS nT (d+1) s)/\uU t y.2.2.1/\y.2.2.2.2=h.2
abbrev RS:Type:=((Int×Int)×MK×Pn×HD)->Option (MK×Pn×HD×List Sx)
abbrev RT:Type:=(Int×MK×Pn×HD)->Option (Sx×MK×Pn×HD)
abbrev RBk:Type:=((List UInt8×Int)×MK×Pn×HD)->Option (List Sx×MK×Pn×HD)
def SpS (nT:Nat) (rs:RS) (d:Nat):Prop:=∀ (n:Int) (m:MK) (t:Pn) (h:HD),n<=3->TP t->h.2.length+d<=100->Ok (rs (((d:Int),n),m,t,h)) (QS nT d n t h)
def SpT (nT:Nat) (I:RT) (d:Nat):Prop:=∀ (m:MK) (t:Pn) (h:HD),TP t->h.2.length+d<=100->Ok (I ((d:Int),m,t,h)) (QT nT d t h)
def SpB (nT:Nat) (I:RBk) (d:Nat):Prop:=∀ (s:List UInt8) (m:MK) (t:Pn) (h:HD),TP t->h.2.length+1+d<=100->Ok (I ((s,(d:Int)),m,t,h)) (QB nT d t h)
theorem Yk (rs:RS) (M:RT) (rb:RBk) (d:Nat) (ht:SpT nT M d):SpS nT (mw rs M rb) d:=by
 intro n m t h hn hp hh;unfold mw aY bi bw bK dx cY bd bx bB cL aE cC d_;refine pZ (λx=>(n-x.1).toNat) (λx=>0<=x.1/\(x.1<=n\/x.1=0)/\uU t x.2.2.1/\(x.2.2.2.1.length:Int)<=x.1/\(∀ s∈x.2.2.2.1,GS nT (d+1) s)/\x.2.2.2.2.2=h.2) ?_ ⟨eP _,.inr rfl,uU.refl hp,by simp,λs hs=>(by cases hs),rfl⟩;rintro⟨(i:Int),m',t',l,h'⟩ ⟨i0,i1,e1,e2,e3,J⟩;dsimp only at i0 i1 e1 e2 e3 J;refine aZ (λx=>x.2=(m',t',l,h')/\(x.1=ai->i<n)) ?_ ?_
 .refine bF (λg=>aK (λ_=>ar ⟨rfl,λ_=>g⟩) λ_=>ar ⟨rfl,λ_=>g⟩) λ_=>ar ⟨rfl,λh=>(by cases h)⟩
 rintro⟨b,x⟩ ⟨Z,Y⟩;dsimp only at Z Y;subst Z;refine aP (λhb=>?_) λ_=>ar ⟨by dsimp only;omega,e3,e1,J⟩
 have g:=Y hb;refine ax (ht m' t' h' e1.p (by rw[J];exact hh)) λy hy=>?_
 obtain⟨s,m2,t2,h2⟩:=y;obtain⟨k1,k2,U⟩:=hy;dsimp only at k1 k2 U;refine bf (by simp) (bg (by simp;omega) (by omega) (ar ?_));dsimp only;rw[fg,yN,ic (n:=i+1) (by omega) (by omega)];refine ⟨⟨by omega,by omega,e1.trans k2,by simp;omega,λx I=>?_,U.trans J⟩,by omega⟩;rcases bP.1 I with I|I
 .exact e3 x I
 .rw[aL] at I;subst I;exact k1
theorem Yn (rs:RS) (rt:RT) (rb:RBk) (d:Nat) (hs:SpS nT rs d):SpB nT (my rs rt rb) d:=by
 intro s m t h hp hh;unfold my aY bi bK dx bB aX;refine bg (by simp;omega) (by omega) ?_;refine ax (gj 2 t hp) λy M=>?_
 obtain⟨k,t1⟩:=y;obtain⟨J,Z,I,_⟩:=M;have I:=I (by decide);dsimp only at J Z I;have ew:bk .i64 (1+k)=1+k:=ic (by omega) (by omega);dsimp only;rw[ew];refine ax (hs (1+k) m t1 (h.1,h.2++[s]) (by omega) J.p (by simp;omega)) λy M=>?_
 obtain⟨m2,t2,h2,l⟩:=y;obtain⟨k1,k2,Y,U⟩:=M;dsimp only at k1 k2 Y U;refine bf (by simp) ?_;dsimp only;rw[U];have el:bk .i64 ((aO (h.2++[s]).length)-1)=(h.2.length:Int):=by
  rw[bu,dR,ic (by simp<;>omega) (by simp<;>omega)];simp<;>omega
 rw[el];refine dG (e_ (by omega) (Ab (by simp;omega) (ar ?_)));refine ⟨by dsimp only;omega,k2,J.trans Y,?_⟩;show dO (aT (h.2.length:Int)) (h.2++[s])=h.2;simp
theorem CZ (s:List UInt8) (m:MK) (t:Pn) (h:HD) (hh:h.2.length<=100):Ok (eL (s,m,t,h)) λy=>y.2=(m,t,h):=by
 unfold eL dx;exact ax (yC h.2 s (by omega)) λy _=>ar rfl
theorem ab9 (rs:RS) (rt:RT) (rb:RBk) (d:Nat) (hd:d<=5) (h0:1<=d->SpS nT rs 0) (hS:1<=d->SpS nT rs (d-1)) (hB:1<=d->SpB nT rb (d-1)):SpT nT (nO rs rt rb) d:=by
 intro m t h hp hh;unfold nO aY bi bw bK dx cY bd bx bB kz aE d_;refine ax (gj 18 t hp) λy J=>?_
 obtain⟨k,t1⟩:=y;obtain⟨s1,k0,k1,_⟩:=J;have k1:=k1 (by decide);dsimp only at s1 k0 k1;have hE:∀ (j:Nat) (m':MK) (t':Pn) (h':HD),j<=1->TP t'->Ok (fc ((j:Int),m',t',h')) λy=>GE 4 y.1/\y.2.1=m'/\uU t' y.2.2.1/\y.2.2.2=h':=λj m' t' h' hj ht'=>(aah j (by omega) m' t' h' ht').mono λy J=>⟨J.1.le (by omega),J.2⟩
 have ed:bk .i64 ((d:Int)-1)=(d:Int)-1:=ic (by omega) (by omega);have ed1:1<=d->(d:Int)-1=((d-1:Nat):Int):=λ_=>by omega
 refine aZ (λx=>x.2=((m.1,bk .i64 (m.2.1-1),m.2.2),t1,(0,0,[],[],0,0,[]),h)/\(x.1=ai->1<=d)) ?_ ?_
 .refine bF (λg=>aS (bF (λ_=>ar ⟨rfl,λ_=>?_⟩) λ_=>ar ⟨rfl,λh=>(by cases h)⟩)) λ_=>ar ⟨rfl,λh=>(by cases h)⟩
  dsimp only at g;omega
 generalize ((m.1,bk .i64 (m.2.1-1),m.2.2):MK)=m0;rintro⟨nest,x⟩ ⟨e,hn⟩;dsimp only at e hn;subst e;refine bF (λ_=>?_) λg4=>?_
 .refine aR k0 (by dsimp only[al];omega) (aR k0 (by dsimp only[al];omega) (aS ?_));refine ax (hE 1 m0 t1 h (by omega) s1.p) λy J=>?_
  obtain⟨e,m2,t2,h2⟩:=y;obtain⟨v1,v2,v3,v4⟩:=J;dsimp only at v1 v2 v3 v4;subst v2;subst v4;refine bf (by simp) (aV (tX _ _) (ar ?_));dsimp only;rw[fg,yN];have hnv:∀ z∈([[120],[121],[120],[118]]:List (List UInt8)),z∈NV:=by decide
  exact⟨GS.asg (hnv _ (bH (T:=.str) k0 (by dsimp only[al];omega))) v1,s1.trans v3,rfl⟩
 dsimp only at g4;refine aK (λ_=>?_) λg5=>?_
 .refine ax (gj 2 t1 s1.p) λy J=>?_
  obtain⟨u1,u2,u3,_⟩:=J;have u3:=u3 (by decide);refine aR u2 u3 (aR u2 u3 (aS ?_));refine ax (hE 1 m0 y.2 h (by omega) u1.p) λz U=>?_
  obtain⟨e,m2,t2,h2⟩:=z;obtain⟨v1,v2,v3,v4⟩:=U;dsimp only at v1 v2 v3 v4;subst v2;subst v4;refine bf (by simp) (aV (tX _ _) (ar ?_));dsimp only;rw[fg,yN];have hnv:∀ z∈([[97],[98]]:List (List UInt8)),z∈NV:=by decide
  exact⟨GS.asg (hnv _ (bH (T:=.str) u2 u3)) v1,s1.trans (u1.trans v3),rfl⟩
 dsimp only at g5;refine aK (λ_=>?_) λg6=>?_
 .refine ax (hE 0 m0 t1 h (by omega) s1.p) λz U=>?_
  obtain⟨e,m2,t2,h2⟩:=z;obtain⟨v1,v2,v3,v4⟩:=U;dsimp only at v1 v2 v3 v4;subst v2;subst v4;refine bf (by simp) ?_;refine ax (hE 1 m2 t2 h2 (by omega) v3.p) λz U=>?_
  obtain⟨e',m3,t3,h3⟩:=z;obtain⟨w1,Z,w3,w4⟩:=U;dsimp only at w1 Z w3 w4;subst Z;subst w4;refine bf (by simp) (ar ?_);dsimp only;rw[fg,fg];exact⟨GS.aix v1 w1,s1.trans (v3.trans w3),rfl⟩
 dsimp only at g6;have U:∀ (c:Prop),c->c:=λ_ h=>h
 have dd:1<=d->d-1+1=d:=λ_=>by omega
 have w8:8<=k->bk .i64 (k-8)=k-8:=λ_=>ic (by omega) (by omega)
 refine aZ (λx=>x.2=(m0,t1,(0,0,[],[],0,0,[]),h)/\(x.1=ai->1<=d)) ?_ ?_
 .refine aK (λ_=>ar ⟨rfl,λg=>?_⟩) λ_=>ar ⟨rfl,λh=>(by cases h)⟩
  dsimp only at g;rw[tD] at g;omega
 rintro⟨b,x⟩ ⟨e,hb⟩;dsimp only at e hb;subst e;refine aP (λI=>?_) λ_=>?_
 .have M:=hb I;refine ax (hE 1 m0 t1 h (by omega) s1.p) λz U=>?_
  obtain⟨e,m2,t2,h2⟩:=z;obtain⟨v1,v2,v3,v4⟩:=U;dsimp only at v1 v2 v3 v4;subst v2;subst v4;refine bf (by simp) ?_;dsimp only;rw[ed,ed1 M];refine ax (hS M 1 m2 t2 h2 (by omega) v3.p (by omega)) λz U=>?_
  obtain⟨m3,t3,h3,l⟩:=z;obtain⟨w1,Z,w3,w4⟩:=U;dsimp only at w1 Z w3 w4;rw[dd M] at Z;refine bf (by simp) ?_;refine aZ (λx=>x.2.2.2.1=(2,0,[],[],e.op,e.n,e.name,e.l)/\uU t1 x.2.1/\x.2.2.2.2.1.2=h2.2/\x.2.2.2.2.2.1=l/\x.2.2.2.2.2.2.length<=8/\∀ s∈x.2.2.2.2.2.2,GS nT d s) ?_ ?_
  .refine ax (gj 2 t3 w3.p) λy J=>?_
   refine aK (λ_=>?_) λ_=>ar ⟨rfl,v3.trans (w3.trans J.1),w4,rfl,by simp,λs hs=>(by cases hs)⟩
   dsimp only;refine ax (hS M 1 m3 y.2 h3 (by omega) J.1.p (by rw[w4];omega)) λz U=>?_
   obtain⟨m4,t4,h4,l2⟩:=z;obtain⟨x1,x2,x3,x4⟩:=U;dsimp only at x1 x2 x3 x4;rw[dd M] at x2;exact bf (by simp) (ar ⟨rfl,v3.trans (w3.trans (J.1.trans x3)),x4.trans w4,rfl,by dsimp only;omega,x2⟩)
  rintro⟨m5,t5,z5,e5,h5,l5,l6⟩ ⟨x1,x2,x3,x4,x5,x6⟩;dsimp only at x1 x2 x3 x4 x5 x6;subst x1;subst x4;refine ar ?_;dsimp only;rw[fg];exact⟨GS.we v1 (by first|omega|(dsimp only;omega)) x5 Z x6 (by constructor<;>simp[Sx.op,Sx.name,Sx.index,Sx.arg,Sx.els,Sx.body]),s1.trans x2,x3⟩
 refine aZ (λx=>x.2=(m0,t1,(0,0,[],[],0,0,[]),h)/\(x.1=ai->1<=d)) ?_ ?_
 .refine aK (λ_=>ar ⟨rfl,λg=>?_⟩) λ_=>ar ⟨rfl,λh=>(by cases h)⟩
  dsimp only at g;rw[tD] at g;omega
 rintro⟨b,x⟩ ⟨e,hb⟩;dsimp only at e hb;subst e;refine aP (λI=>?_) λ_=>?_
 .have M:=hb I;refine aV (Hy _) (aV (NU _) (aV (Fg _ _ _) ?_));dsimp only;rw[ed,ed1 M];refine ax (hS M 1 _ t1 h (by omega) s1.p (by omega)) λz U=>?_
  obtain⟨m3,t3,h3,l⟩:=z;obtain⟨w1,Z,w3,w4⟩:=U;dsimp only at w1 Z w3 w4;rw[dd M] at Z;refine bf (by simp) ?_;refine aV (Hy _) (aV (NU _) (aV (Fg _ _ _) (aV (tX _ _) ?_)));refine bg (by simp;omega) (by omega) (ar ?_);dsimp only;rw[fg,fg,yN];refine ⟨GS.we (GE.bin (by omega) (GE.nm (by decide) 2) (GE.num _ 2)) (by simp;omega) (by simp) (λx Y=>?_) (λx Y=>(by cases Y)) (by constructor<;>simp[Sx.op,Sx.name,Sx.index,Sx.arg,Sx.els,Sx.body]),s1.trans w3,w4⟩;rcases bP.1 Y with Y|Y
  .exact Z x Y
  .rw[aL] at Y;subst Y;rw[<- dd M];exact GS.asg (by decide) (GE.bin (by omega) (GE.nm (by decide) 2) (GE.num _ 2))
 refine aZ (λx=>x.2=(m0,t1,(0,0,[],[],0,0,[]),h)/\(x.1=ai->nest=ai/\(k=8\/k=9))) ?_ ?_
 .refine aK (λg=>aP (λgn=>?_) λ_=>ar ⟨rfl,λh=>(by cases h)⟩) λ_=>aK (λg=>aP (λgn=>?_) λ_=>ar ⟨rfl,λh=>(by cases h)⟩) λ_=>ar ⟨rfl,λh=>(by cases h)⟩
  all_goals
   dsimp only at g ⊢;rw[w8 (by omega)];refine aR (by omega) (by simp;omega) (aR (by omega) (by simp;omega) (aS ?_));refine ax (CZ _ m0 t1 h (by omega)) λy J=>?_
   obtain⟨yb,y2⟩:=y;dsimp only at J;subst J;exact bf (by simp) (ar ⟨rfl,λ_=>⟨gn,by omega⟩⟩)
 rintro⟨b,x⟩ ⟨e,hb⟩;dsimp only at e hb;subst e;refine aP (λI=>?_) λ_=>?_
 .obtain⟨q1,q2⟩:=hb I;have M:=hn q1;have hnm:aJ (T:=.str) [[109],[110]] (k-8)=[109]\/aJ (T:=.str) [[109],[110]] (k-8)=[110]:=by rcases q2 with rfl|rfl<;>simp[aJ]
  dsimp only;rw[w8 (by omega),ed,ed1 M];refine aR (by omega) (by simp;omega) (aR (by omega) (by simp;omega) (aS ?_));refine ax (hB M _ m0 t1 h s1.p (by omega)) λz U=>?_
  obtain⟨l,m3,t3,h3⟩:=z;obtain⟨w1,Z,w3,w4⟩:=U;dsimp only at w1 Z w3 w4;rw[dd M] at Z;exact bf (by simp) (ar ⟨GS.wo (by omega) (by first|omega|(dsimp only;omega)) Z (by constructor<;>simp[Sx.op,Sx.name,Sx.index,Sx.arg,Sx.els,Sx.body];exact hnm),s1.trans w3,w4⟩)
 refine aZ (λx=>x.2=(m0,t1,(0,0,[],[],0,0,[]),h)/\(x.1=ai->nest=ai/\(k=10\/k=11))) ?_ ?_
 .refine aK (λg=>aP (λgn=>?_) λ_=>ar ⟨rfl,λh=>(by cases h)⟩) λ_=>aK (λg=>aP (λgn=>?_) λ_=>ar ⟨rfl,λh=>(by cases h)⟩) λ_=>ar ⟨rfl,λh=>(by cases h)⟩
  all_goals
   dsimp only at g ⊢;refine ax (CZ _ m0 t1 h (by omega)) λy J=>?_
   obtain⟨yb,y2⟩:=y;dsimp only at J;subst J;exact bf (by simp) (ar ⟨rfl,λ_=>⟨gn,by omega⟩⟩)
 rintro⟨b,x⟩ ⟨e,hb⟩;dsimp only at e hb;subst e;refine aP (λI=>?_) λ_=>?_
 .obtain⟨q1,q2⟩:=hb I;have M:=hn q1;dsimp only;rw[ed,ed1 M,ic (n:=k-10) (by omega) (by omega),ic (n:=k-10+5) (by omega) (by omega)];refine ax (hB M _ m0 t1 h s1.p (by omega)) λz U=>?_
  obtain⟨l,m3,t3,h3⟩:=z;obtain⟨w1,Z,w3,w4⟩:=U;dsimp only at w1 Z w3 w4;rw[dd M] at Z;exact bf (by simp) (ar ⟨GS.wo (by omega) (by first|omega|(dsimp only;omega)) Z (by constructor<;>simp[Sx.op,Sx.name,Sx.index,Sx.arg,Sx.els,Sx.body]<;>omega),s1.trans w3,w4⟩)
 refine aZ (λx=>x.2=(m0,t1,(0,0,[],[],0,0,[]),h)/\(x.1=ai->nest=ai)) ?_ ?_
 .exact aK (λ_=>ar ⟨rfl,λg=>g⟩) λ_=>ar ⟨rfl,λh=>(by cases h)⟩
 rintro⟨b,x⟩ ⟨e,hb⟩;dsimp only at e hb;subst e;refine aP (λI=>?_) λ_=>?_
 .have M:=hn (hb I);refine ax (gj 2 t1 s1.p) λy J=>?_
  obtain⟨u1,u2,u3,_⟩:=J;have u3:=u3 (by decide);dsimp only;rw[ic (n:=1+y.1) (by omega) (by omega)];refine ax (h0 M (1+y.1) _ y.2 h (by omega) u1.p (by omega)) λz U=>?_
  obtain⟨m3,t3,h3,l⟩:=z;obtain⟨w1,Z,w3,w4⟩:=U;dsimp only at w1 Z w3 w4;exact bf (by simp) (ar ⟨GS.wo (by omega) (by first|omega|(dsimp only;omega)) (λx Y=>(Z x Y).le (by omega)) (by constructor<;>simp[Sx.op,Sx.name,Sx.index,Sx.arg,Sx.els,Sx.body]),s1.trans (u1.trans w3),w4⟩)
 refine aZ (λx=>x.2=(m0,t1,(0,0,[],[],0,0,[]),h)/\(x.1=ai->nest=ai)) ?_ ?_
 .exact aK (λ_=>aP (λgn=>ar ⟨rfl,λ_=>gn⟩) λ_=>ar ⟨rfl,λh=>(by cases h)⟩) λ_=>ar ⟨rfl,λh=>(by cases h)⟩
 rintro⟨b,x⟩ ⟨e,hb⟩;dsimp only at e hb;subst e;refine aP (λI=>?_) λ_=>?_
 .have M:=hn (hb I);dsimp only;rw[ed,ed1 M];refine ax (hS M 2 _ t1 h (by omega) s1.p (by omega)) λz U=>?_
  obtain⟨m3,t3,h3,l⟩:=z;obtain⟨w1,Z,w3,w4⟩:=U;dsimp only at w1 Z w3 w4;rw[dd M] at Z;exact bf (by simp) (ar ⟨GS.wo (by omega) (by first|omega|(dsimp only;omega)) Z (by constructor<;>simp[Sx.op,Sx.name,Sx.index,Sx.arg,Sx.els,Sx.body]),s1.trans w3,w4⟩)
 refine aZ (λx=>x.2=(m0,t1,(0,0,[],[],0,0,[]),h)/\(x.1=ai->nest=ai)) ?_ ?_
 .refine aK (λ_=>aP (λgn=>aP (λ_=>?_) λ_=>ar ⟨rfl,λh=>(by cases h)⟩) λ_=>ar ⟨rfl,λh=>(by cases h)⟩) λ_=>ar ⟨rfl,λh=>(by cases h)⟩
  refine ax (CZ _ m0 t1 h (by omega)) λy J=>?_
  obtain⟨yb,y2⟩:=y;dsimp only at J;subst J;exact bf (by simp) (ar ⟨rfl,λ_=>gn⟩)
 rintro⟨b,x⟩ ⟨e,hb⟩;dsimp only at e hb;subst e;refine aP (λI=>?_) λ_=>?_
 .have M:=hn (hb I);refine aV (Hy _) (aV (tX _ _) (ar ?_));dsimp only;rw[fg,yN];refine ⟨GS.wo (by omega) (by simp) (λx Y=>?_) (by constructor<;>simp[Sx.op,Sx.name,Sx.index,Sx.arg,Sx.els,Sx.body]),s1,rfl⟩;simp only[bm,ct,f_] at Y;rw[<- dd M];rcases Y with rfl|rfl
  .exact GS.wo (by omega) (by simp) (λx Y=>(by cases Y)) (by constructor<;>simp[Sx.op,Sx.name,Sx.index,Sx.arg,Sx.els,Sx.body])
  .exact GS.asg (by decide) (GE.nm (by decide) 3)
 refine aZ (λx=>x.2=(m0,t1,(0,0,[],[],0,0,[]),h)/\(x.1=ai->nest=ai)) ?_ ?_
 .refine aK (λ_=>aP (λgn=>?_) λ_=>ar ⟨rfl,λh=>(by cases h)⟩) λ_=>ar ⟨rfl,λh=>(by cases h)⟩
  refine ax (CZ _ m0 t1 h (by omega)) λy J=>?_
  obtain⟨yb,y2⟩:=y;dsimp only at J;subst J;exact bf (by simp) (ar ⟨rfl,λ_=>gn⟩)
 rintro⟨b,x⟩ ⟨e,hb⟩;dsimp only at e hb;subst e;refine aP (λI=>?_) λ_=>?_
 .have M:=hn (hb I);refine ax (gj 2 t1 s1.p) λy J=>ar ?_
  obtain⟨u1,u2,u3,_⟩:=J;have u3:=u3 (by decide);dsimp only;rw[ic (n:=10+y.1) (by omega) (by omega)];refine ⟨GS.wo (by omega) (by simp) (λx Y=>?_) (by constructor<;>simp[Sx.op,Sx.name,Sx.index,Sx.arg,Sx.els,Sx.body]),s1.trans u1,rfl⟩;simp only[bm,ct,f_] at Y;rw[Y,<-dd M];exact GS.wo (by omega) (by simp) (λx Y=>(by cases Y)) (by constructor<;>simp[Sx.op,Sx.name,Sx.index,Sx.arg,Sx.els,Sx.body]<;>omega)
 refine aZ (λx=>x.2=(m0,t1,(0,0,[],[],0,0,[]),h)) ?_ ?_
 .exact aK (λ_=>aP (λ_=>aP (λ_=>ar rfl) λ_=>ar rfl) λ_=>ar rfl) λ_=>ar rfl
 rintro⟨b,x⟩ e;dsimp only at e;subst e;refine aP (λI=>?_) λ_=>?_
 .refine ax (hE 1 _ t1 h (by omega) s1.p) λz U=>?_
  obtain⟨e,m2,t2,h2⟩:=z;obtain⟨v1,v2,v3,v4⟩:=U;dsimp only at v1 v2 v3 v4;subst v2;subst v4;refine bf (by simp) (ar ?_);dsimp only;rw[fg];exact⟨GS.we v1 (by simp) (by simp) (λx Y=>(by cases Y)) (λx Y=>(by cases Y)) (by constructor<;>simp[Sx.op,Sx.name,Sx.index,Sx.arg,Sx.els,Sx.body]),s1.trans v3,rfl⟩
 refine aZ (λx=>x.2.1=m0/\uU t1 x.2.2.1/\x.2.2.2.2=h) ?_ ?_
 .refine aK (λ_=>aP (λ_=>?_) λ_=>ar ⟨rfl,uU.refl s1.p,rfl⟩) λ_=>ar ⟨rfl,uU.refl s1.p,rfl⟩
  exact ax (gj 2 t1 s1.p) λy J=>ar ⟨rfl,J.1,rfl⟩
 rintro⟨b,m9,t9,z9,h9⟩ ⟨e1,e2,e3⟩;dsimp only at e1 e2 e3;subst e1;subst e3;refine aP (λI=>?_) λ_=>?_
 .exact ar ⟨GS.wo (by omega) (by simp) (λx Y=>(by cases Y)) (by constructor<;>simp[Sx.op,Sx.name,Sx.index,Sx.arg,Sx.els,Sx.body]),s1.trans e2,rfl⟩
 refine ax (hE 1 _ t9 h9 (by omega) e2.p) λz U=>?_
 obtain⟨e,m2,t2,h2⟩:=z;obtain⟨v1,v2,v3,v4⟩:=U;dsimp only at v1 v2 v3 v4;subst v2;subst v4;refine bf (by simp) (aV (tX _ _) (ar ?_));dsimp only;rw[fg,yN];exact⟨GS.asg (by decide) v1,s1.trans (e2.trans v3),rfl⟩
theorem MM:∀ (n:Nat),(∀ d:Nat,d<=5->3*d+1<=n->SpT nT (eD n) d)/\(∀ d:Nat,d<=5->3*d+2<=n->SpS nT (dI n) d)/\(∀ d:Nat,d<=5->3*d+3<=n->SpB nT (dW n) d)
 |0=>⟨λd _ h=>by omega,λd _ h=>by omega,λd _ h=>by omega⟩
 |n+1=>by
  obtain⟨J,I,M⟩:=MM n;refine ⟨λd h1 h2=>?_,λd h1 h2=>?_,λd h1 h2=>?_⟩
  .exact ab9 (dI n) (eD n) (dW n) d h1 (λh=>I 0 (by omega) (by omega)) (λh=>I (d-1) (by omega) (by omega)) (λh=>M (d-1) (by omega) (by omega))
  .exact Yk (dI n) (eD n) (dW n) d (J d h1 (by omega))
  .exact Yn (dI n) (eD n) (dW n) d (I d h1 (by omega))
theorem XV (d:Nat) (hd:d<=5):SpS nT ql d:=(MM fuel).2.1 d hd (by rw[jP];omega)
def GX:Nat->Xp->Prop
 |0,_=>False
 |d+1,e=>e.l.length<=2/\∀ x∈e.l,GX d x
theorem GE.x:∀ {d:Nat} {e:Xp},GE d e->GX d e
 |0,_,h=>h.elim
 |_+1,_,h=>⟨h.2.2.1,λx I=>(h.2.2.2.1 x I).x⟩
theorem ZE.x {e:Xp} (h:ZE e):GX 4 e:=by
 rcases h with h|rfl
 .exact h.x
 .exact⟨by simp[Xp.l],λx I=>(by cases I)⟩
def GT:Nat->Sx->Prop
 |0,_=>False
 |d+1,s=>s.index.length<=1/\(∀ e∈s.index,GX 4 e)/\GX 4 s.expr/\s.body.length<=8/\s.els.length<=8/\(∀ x∈s.body,GT d x)/\(∀ x∈s.els,GT d x)
theorem GS.t {nT:Nat}:∀ {d:Nat} {s:Sx},GS nT d s->GT d s
 |0,_,h=>h.elim
 |_+1,_,⟨_,b,c,_,f,g,i,j,k,_⟩=>⟨b,λe he=>(c e he).x,f.x,g,i,λx I=>(j x I).t,λx I=>(k x I).t⟩
theorem xZ (s:Sx):nJ (Sx.op s,Sx.line s,Sx.name s,Sx.arg s,Sx.index s,dZ (Xp.op (Sx.expr s),Xp.n (Sx.expr s),Xp.name (Sx.expr s),Xp.l (Sx.expr s)),Sx.body s,Sx.els s)=s:=by
 rw[fg,yN]
theorem SU (k:Int):Ok (mg k) λ_=>True:=by
 unfold mg bd iR aE;with_reducible repeat' first|(refine OS.ok ?_;constructor)|refine IM.mk λ_=>?_
 all_goals trivial
theorem qK (e:Xp):Ok (ph e) λ_=>True:=by
 unfold ph bd aE;with_reducible repeat' first|(refine OS.ok ?_;constructor)|refine IM.mk λ_=>?_
 all_goals trivial
theorem zn:∀ (n d:Nat) (e:Xp),d<n->GX d e->Ok (hX n e) λ_=>True
 |0,_,_,h,_=>by omega
 |n+1,0,_,_,h=>h.elim
 |n+1,d+1,e,hn,h=>by
  obtain⟨h1,h2⟩:=h;rw[su];unfold lZ bd bx jd bD cL aE cC;refine aZ (λx=>x.2=e) (aK (λ_=>ar (fg e)) λ_=>ar (fg e)) ?_;rintro⟨b,x⟩ J;dsimp only at J;subst J;refine aZ (λy=>y.2=x) ?_ ?_
  .refine ax (SU _) λ_ _=>?_
   with_reducible repeat' first|refine b_ (λ_=>?_) λ_=>?_|refine bF (λ_=>?_) λ_=>?_|refine ec (λ_=>?_) λ_=>?_|refine aP (λ_=>?_) λ_=>?_|exact ar (fg x)|refine ax (ip _) λ_ _=>?_
  rintro⟨M,y⟩ I;dsimp only at I;subst I;refine aP (λ_=>ar trivial) λ_=>?_
  refine b9 y.l.length (λi x=>x.1=(i:Int)/\x.2=y) ?_ ?_ ⟨rfl,fg y⟩
  .rintro i ⟨a,z⟩ hi ⟨e1,e2⟩;dsimp only at e1 e2;subst e1;subst e2;refine du ?_;refine ch (aS ?_);refine ax (zn n d _ (by omega) (h2 _ (bH (T:=.ex) (xs:=z.l) (j:=(i:Int)) (by omega) (by omega)))) λ_ _=>?_
   refine ec (λ_=>ar trivial) λ_=>ar ?_
   dsimp only;exact⟨gM (by omega),fg z⟩
  .rintro⟨a,z⟩ ⟨e1,e2⟩;dsimp only at e1 e2;subst e1;subst e2;exact dv (ar trivial)
theorem gh (e:Xp) (h:GX 4 e):Ok (iZ e) λ_=>True:=zn fuel 4 e (by rw[jP];omega) h
theorem K7 (d:Int×Int×List UInt8×Int×Int×List UInt8):Ok (jX d) λ_=>True:=by
 unfold jX aY bi cu fh bd bx jd aE;refine aZ (λ_=>True) ?_ λx _=>aP (λ_=>ar trivial) λ_=>?_
 .with_reducible repeat' first|refine b_ (λ_=>?_) λ_=>?_|refine bF (λ_=>?_) λ_=>?_|refine ec (λ_=>?_) λ_=>?_|exact ar trivial|refine ax (ip _) λ_ _=>?_
 refine aZ (λ_=>True) ?_ λx _=>aP (λ_=>ar trivial) λ_=>?_
 .with_reducible repeat' first|refine b_ (λ_=>?_) λ_=>?_|refine aK (λ_=>?_) λ_=>?_|refine ec (λ_=>?_) λ_=>?_|exact ar trivial|refine ax (ip _) λ_ _=>?_
 with_reducible repeat' first|(refine OS.ok ?_;constructor)|refine IM.mk λ_=>?_
 all_goals trivial
theorem G4 (I:Sx->Option Bool) (rs:List Sx->Option Bool) (l:List Sx) (hl:l.length<=1000) (h:∀ s∈l,Ok (I s) λ_=>True):Ok (ju I rs l) λ_=>True:=by
 unfold ju bx uO aX cL aE cC;refine b9 l.length (λi x=>x=(i:Int)) ?_ ?_ rfl
 .rintro i x hi rfl;refine du ?_;refine ch ?_;refine ax (h _ (bH (T:=.sm) (xs:=l) (j:=(i:Int)) (by omega) (by omega))) λ_ _=>?_
  exact ec (λ_=>ar trivial) λ_=>ar (gM (by omega))
 .rintro x rfl;exact dv (ar trivial)
theorem Je (J:Sx->Option Bool) (rs:List Sx->Option Bool) (s:Sx) (h1:∀ e∈s.index,GX 4 e) (h2:GX 4 s.expr) (hb:Ok (rs s.body) λ_=>True) (he:Ok (rs s.els) λ_=>True):Ok (jZ J rs s) λ_=>True:=by
 unfold jZ bd bx iR jd bD aE d_;refine aZ (λx=>x.2=s) ?_ ?_
 .with_reducible repeat' first|refine b_ (λ_=>?_) λ_=>?_|refine aK (λ_=>?_) λ_=>?_|refine bF (λ_=>?_) λ_=>?_|refine eY (λ_=>?_) λ_=>?_|refine ec (λ_=>?_) λ_=>?_|refine aP (λ_=>?_) λ_=>?_|exact ar (xZ _)|refine ax (ip _) λ_ _=>?_|refine ax (qK _) λ_ _=>?_|refine ax (gh _ h2x) λ_ _=>?_
 rintro⟨b,x⟩ I;dsimp only at I;have I:=I.symm;subst I;refine aP (λ_=>ar trivial) λ_=>?_
 refine aZ (λx=>x.2=s) ?_ ?_
 .with_reducible repeat' first|refine b_ (λ_=>?_) λ_=>?_|refine aK (λ_=>?_) λ_=>?_|refine bF (λ_=>?_) λ_=>?_|refine eY (λ_=>?_) λ_=>?_|refine ec (λ_=>?_) λ_=>?_|refine aP (λ_=>?_) λ_=>?_|exact ar (xZ _)|refine ax (ip _) λ_ _=>?_|refine ax (qK _) λ_ _=>?_|refine ax (gh _ h2x) λ_ _=>?_
 rintro⟨b,x⟩ I;dsimp only at I;have I:=I.symm;subst I;refine aZ (λx=>x.2=s) ?_ ?_
 .with_reducible repeat' first|refine b_ (λ_=>?_) λ_=>?_|refine aK (λ_=>?_) λ_=>?_|refine bF (λ_=>?_) λ_=>?_|refine eY (λ_=>?_) λ_=>?_|refine ec (λ_=>?_) λ_=>?_|refine aP (λ_=>?_) λ_=>?_|exact ar (xZ _)|refine ax (ip _) λ_ _=>?_|refine ax (qK _) λ_ _=>?_|refine ax (gh _ h2x) λ_ _=>?_
 rintro⟨b,x⟩ I;dsimp only at I;have I:=I.symm;subst I;refine aP (λ_=>ar trivial) λ_=>?_
 refine aZ (λx=>x.2=s) ?_ ?_
 .with_reducible repeat' first|refine b_ (λ_=>?_) λ_=>?_|refine aK (λ_=>?_) λ_=>?_|refine bF (λ_=>?_) λ_=>?_|refine eY (λ_=>?_) λ_=>?_|refine ec (λ_=>?_) λ_=>?_|refine aP (λ_=>?_) λ_=>?_|exact ar (xZ _)|refine ax (ip _) λ_ _=>?_|refine ax (qK _) λ_ _=>?_|refine ax (gh _ h2x) λ_ _=>?_
 rintro⟨b,x⟩ I;dsimp only at I;have I:=I.symm;subst I;refine aP (λ_=>ar trivial) λ_=>?_
 refine aZ (λx=>x.2=s) ?_ ?_
 .with_reducible repeat' first|refine b_ (λ_=>?_) λ_=>?_|refine aK (λ_=>?_) λ_=>?_|refine bF (λ_=>?_) λ_=>?_|refine eY (λ_=>?_) λ_=>?_|refine ec (λ_=>?_) λ_=>?_|refine aP (λ_=>?_) λ_=>?_|exact ar (xZ _)|refine ax (ip _) λ_ _=>?_|refine ax (qK _) λ_ _=>?_|refine ax (gh _ h2x) λ_ _=>?_
  all_goals
   rename_i g;dsimp only[au] at g;refine ch (aS ?_);refine ax (gh _ (h1 _ (bH (T:=.ex) (xs:=Sx.index _) (j:=0) (by omega) (by omega)))) λ_ _=>ar (xZ _)
 rintro⟨b,x⟩ I;dsimp only at I;have I:=I.symm;subst I;refine aP (λ_=>ar trivial) λ_=>?_
 refine aZ (λx=>x.2=s) ?_ ?_
 .with_reducible repeat' first|refine b_ (λ_=>?_) λ_=>?_|refine aK (λ_=>?_) λ_=>?_|refine bF (λ_=>?_) λ_=>?_|refine eY (λ_=>?_) λ_=>?_|refine ec (λ_=>?_) λ_=>?_|refine aP (λ_=>?_) λ_=>?_|exact ar (xZ _)|refine ax (ip _) λ_ _=>?_|refine ax (qK _) λ_ _=>?_|refine ax (gh _ h2x) λ_ _=>?_
 rintro⟨b,x⟩ I;dsimp only at I;have I:=I.symm;subst I;refine aZ (λx=>x.2=s) ?_ ?_
 .have h2x:GX 4 (dZ (Xp.op (Sx.expr s),Xp.n (Sx.expr s),Xp.name (Sx.expr s),Xp.l (Sx.expr s))):=by rw[fg];exact h2
  with_reducible repeat' first|refine b_ (λ_=>?_) λ_=>?_|refine aK (λ_=>?_) λ_=>?_|refine bF (λ_=>?_) λ_=>?_|refine eY (λ_=>?_) λ_=>?_|refine ec (λ_=>?_) λ_=>?_|refine aP (λ_=>?_) λ_=>?_|exact ar (xZ _)|refine ax (ip _) λ_ _=>?_|refine ax (qK _) λ_ _=>?_|refine ax (gh _ h2x) λ_ _=>?_
 rintro⟨b,x⟩ I;dsimp only at I;have I:=I.symm;subst I;refine aP (λ_=>ar trivial) λ_=>?_
 refine aZ (λx=>x.2=s) ?_ ?_
 .with_reducible repeat' first|refine b_ (λ_=>?_) λ_=>?_|refine aK (λ_=>?_) λ_=>?_|refine bF (λ_=>?_) λ_=>?_|refine eY (λ_=>?_) λ_=>?_|refine ec (λ_=>?_) λ_=>?_|refine aP (λ_=>?_) λ_=>?_|exact ar (xZ _)|refine ax (ip _) λ_ _=>?_|refine ax (qK _) λ_ _=>?_|refine ax (gh _ h2x) λ_ _=>?_
 rintro⟨b,x⟩ I;dsimp only at I;have I:=I.symm;subst I;refine aZ (λx=>x.2=s) ?_ ?_
 .with_reducible repeat' first|refine b_ (λ_=>?_) λ_=>?_|refine aK (λ_=>?_) λ_=>?_|refine bF (λ_=>?_) λ_=>?_|refine eY (λ_=>?_) λ_=>?_|refine ec (λ_=>?_) λ_=>?_|refine aP (λ_=>?_) λ_=>?_|exact ar (xZ _)|refine ax (ip _) λ_ _=>?_|refine ax (qK _) λ_ _=>?_|refine ax (gh _ h2x) λ_ _=>?_
 rintro⟨b,x⟩ I;dsimp only at I;have I:=I.symm;subst I;refine aP (λ_=>ar trivial) λ_=>?_
 refine aZ (λ_=>True) ?_ λ_ _=>ar trivial
 refine ax hb λ_ _=>aP (λ_=>ax he λ_ _=>ar trivial) λ_=>ar trivial
theorem Jk:∀ (n:Nat),(∀ (d:Nat) (s:Sx),2*d<n->GT d s->Ok (eB n s) λ_=>True)/\(∀ (d:Nat) (l:List Sx),2*d+1<n->l.length<=1000->(∀ s∈l,GT d s)->Ok (dF n l) λ_=>True)
 |0=>⟨λd _ h=>by omega,λd _ h=>by omega⟩
 |n+1=>by
  obtain⟨J,I⟩:=Jk n;refine ⟨λd s hd h=>?_,λd l hd hl h=>?_⟩
  .cases d with
   |zero=>exact h.elim
   |succ d=>
    obtain⟨_,Z,Y,g4,g5,U,M⟩:=h;exact Je (eB n) (dF n) s Z Y (I d _ (by omega) (by omega) U) (I d _ (by omega) (by omega) M)
  .exact G4 (eB n) (dF n) l hl λs hs=>J d s (by omega) (h s hs)
theorem KC (d:Nat) (hd:d<=100) (l:List Sx) (hl:l.length<=1000) (h:∀ s∈l,GT d s):Ok (nG l) λ_=>True:=(Jk fuel).2 d l (by rw[jP];omega) hl h
abbrev DT:Type:=Int×Int×List UInt8×Int×Int×List UInt8
abbrev HT:Type:=List UInt8×Int×List (List UInt8)×List Sx
abbrev PG:Type:=List DT×List HT
structure PX (p:PG):Prop where
 d:p.1.length<=100
 t:p.2.length<=8
 l:∀ t∈p.2,t.2.2.1.length<=100
 b:∀ t∈p.2,t.2.2.2.length<=100
 s:∀ t∈p.2,∀ s∈t.2.2.2,GT 5 s
theorem Za (p:PG) (h:PX p):Ok (pG p) λ_=>True:=by
 obtain⟨hd,ht,hl,hb,hs⟩:=h;unfold pG aY bw cY bx bD aX cL aE cC;refine b9 p.1.length (λi x=>x.1=(i:Int)/\x.2=p) ?_ ?_ ⟨rfl,rfl⟩
 .rintro i ⟨a,x⟩ hi ⟨e1,e2⟩;dsimp only at e1 e2;subst e1;subst e2;refine du ?_;refine ch (aS ?_);refine ax (K7 _) λ_ _=>?_
  exact ec (λ_=>ar trivial) λ_=>ar ⟨gM (by omega),rfl⟩
 rintro⟨a,x⟩ ⟨e1,e2⟩;dsimp only at e1 e2;subst e1;subst e2;refine dv ?_;refine ax (P:=λ_=>True) ?_ λ_ _=>ar trivial
 refine b9 x.2.length (λi y=>y.1=(i:Int)/\y.2=x) ?_ ?_ ⟨rfl,rfl⟩
 .rintro i ⟨a,x⟩ hi ⟨e1,e2⟩;dsimp only at e1 e2;subst e1;have e2:=e2.symm;subst e2;refine du ?_;refine ch (aS ?_);have hm:=bH (T:=yL) (xs:=x.2) (j:=(i:Int)) (by omega) (by omega);have h1:=hl _ hm;have h2:=hb _ hm;have M:=hs _ hm;revert h1 h2 M;generalize (aJ (T:=yL) x.2 (i:Int))=t;intro h1 h2 M;refine b9 t.2.2.1.length (λk y=>y.1=(k:Int)/\y.2=(x,t)) ?_ ?_ ⟨rfl,rfl⟩
  .rintro k ⟨a,z⟩ hk ⟨J,I⟩;dsimp only at J I;subst J;subst I;refine du ?_;refine ch (aS ?_);refine ax (ip _) λ_ _=>?_
   exact ec (λ_=>ar trivial) λ_=>ar ⟨gM (by omega),rfl⟩
  .rintro⟨a,z⟩ ⟨J,I⟩;dsimp only at J I;subst J;subst I;refine dv ?_;refine ax (P:=λr=>match r with|.inl y=>y.1=((i+1:Nat):Int)/\y.2=x|.inr _=>True) ?_ ?_
   .refine aZ (λy=>y.2=x) ?_ ?_
    .refine ax (ip _) λ_ _=>ec (λ_=>ar rfl) λ_=>?_
     exact ax (KC 5 (by omega) _ (by dsimp only;omega) M) λ_ _=>ar rfl
    rintro⟨b,y⟩ e;dsimp only at e;subst e;exact aP (λ_=>ar trivial) λ_=>ar ⟨gM (by omega),rfl⟩
   .rintro (y|y) U
    .exact ar U
    .exact ar trivial
 .rintro⟨a,y⟩ ⟨e1,e2⟩;dsimp only at e1 e2;subst e1;subst e2;exact dv (ar trivial)
theorem w9 (l:List DT) (s:List UInt8) (hl:l.length<=1000):Ok (hP (l,s)) λr=> -1<=r/\r<(l.length:Int):=by
 unfold hP bx bD aX cL aE cC;refine b9 l.length (λi x=>x=(i:Int)) ?_ ?_ rfl
 .rintro i x hi rfl;refine du ?_;refine ch (aS ?_);exact aK (λ_=>ar ⟨by omega,by omega⟩) λ_=>ar (gM (by omega))
 .rintro x rfl;exact dv (ar ⟨by omega,by omega⟩)
theorem sB (l:List HT) (s:List UInt8) (hl:l.length<=1000):Ok (gO (l,s)) λr=> -1<=r/\r<(l.length:Int):=by
 unfold gO bx bD aX cL aE cC;refine b9 l.length (λi x=>x=(i:Int)) ?_ ?_ rfl
 .rintro i x hi rfl;refine du ?_;refine ch (aS ?_);exact aK (λ_=>ar ⟨by omega,by omega⟩) λ_=>ar (gM (by omega))
 .rintro x rfl;exact dv (ar ⟨by omega,by omega⟩)
def DD (p:PG) (s:List UInt8):Prop:=∃ v,hP (p.1,s)=af v/\0<=v/\v<(p.1.length:Int)
theorem Zn (p:PG) (h:PX p) (t:Int) (s:List UInt8):Ok (pE (p,t,s)) λk=>k≠0->k≠7->k≠8->DD p s:=by
 have hd:=h.d;have ht:=h.t;unfold pE bd bx iR jd uO bD aX aE;refine aZ (λx=>x.2=p) ?_ ?_
 .refine eY (λU=>bF (λM=>?_) λ_=>ar rfl) λ_=>ar rfl
  dsimp only[au] at U M;refine aR U M (aS ?_);have hm:=h.l _ (bH (T:=yL) (xs:=p.2) (j:=t) U M);exact ax (yC _ s (dg hm (by omega))) λ_ _=>ar rfl
 rintro⟨b,x⟩ e;dsimp only at e;have e:=e.symm;subst e;refine aP (λ_=>ar λ_ _ h=>(h rfl).elim) λ_=>?_
 obtain⟨v,hv,v0,J⟩:=w9 p.1 s (by omega);refine aV hv ?_;refine bF (λ_=>?_) λg=>?_
 .exact ax (sB p.2 s (by omega)) λ_ _=>eY (λ_=>ar λ_ h=>(h rfl).elim) λ_=>ar λh=>(h rfl).elim
 have I:DD p s:=⟨v,hv,g,J⟩
 refine aR g J (aS ?_);refine aK (λ_=>?_) λ_=>?_
 .exact aR g J (aS (b_ (λ_=>ar λ_ _ _=>I) λ_=>ar λ_ _ _=>I))
 refine aK (λ_=>ar λ_ _ _=>I) λ_=>?_
 refine aZ (λx=>x.2=p) (aK (λ_=>ar rfl) λ_=>aK (λ_=>ar rfl) λ_=>aK (λ_=>ar rfl) λ_=>ar rfl) ?_;rintro⟨b,x⟩ e;dsimp only at e;have e:=e.symm;subst e;exact aP (λ_=>aR g J (aS (ar λ_ _ _=>I))) λ_=>ar λ_ _ _=>I
theorem oR (p:PG) (h:PX p) (t:Int) (s:List UInt8) (a b:Int):Ok (gC (p,t,s,a,b)) λr=>r=0->(a≠7/\a≠8)->(b≠7/\b≠8)->DD p s:=by
 unfold gC aY bi dx bd jd aE;refine ax (Zn p h t s) λk hk=>?_
 refine aK (λ_=>ar λh=>(by cases h)) λg=>?_
 refine aZ (λx=>x=aj->k=a\/k=b) ?_ ?_
 .refine b_ (λ_=>ar λh=>?_) λh=>ar λ_=>.inl h
  simp at h;exact .inr h
 rintro x I;refine aP (λ_=>ar λh=>(by cases h)) λh=>ar λ_ h1 h2=>hk g ?_ ?_
 .rcases I h with h|h<;>omega
 .rcases I h with h|h<;>omega
theorem MN:∀ (n d:Nat) (e:Xp),d<n->GX d e->Ok (m7 n e) λ_=>True
 |0,_,_,h,_=>by omega
 |n+1,0,_,_,h=>h.elim
 |n+1,d+1,e,hn,h=>by
  obtain⟨h1,h2⟩:=h;rw[yg];unfold uy bx bD cL aE cC;refine b9 e.l.length (λi x=>x.1.2.2=(i:Int)/\x.2=e) ?_ ?_ ⟨rfl,fg e⟩
  .rintro i ⟨⟨a,b,c⟩,z⟩ hi ⟨e1,e2⟩;dsimp only at e1 e2;subst e1;subst e2;refine du ?_;refine ch (aS ?_);refine ax (MN n d _ (by omega) (h2 _ (bH (T:=.ex) (xs:=z.l) (j:=(i:Int)) (by omega) (by omega)))) λ_ _=>ar ?_
   exact⟨gM (by omega),fg z⟩
  .rintro⟨⟨a,b,c⟩,z⟩ ⟨e1,e2⟩;dsimp only at e1 e2;subst e1;subst e2;exact dv (ar trivial)
theorem FL (p:PG) (hp:PX p) (t:Int):∀ (n d:Nat) (e:Xp),d<n->GX d e->Ok (m6 n (p,t,e)) λ_=>True
 |0,_,_,h,_=>by omega
 |n+1,0,_,_,h=>h.elim
 |n+1,d+1,e,hn,h=>by
  obtain⟨h1,h2⟩:=h;rw[yf];unfold ux bd bx bD cL aE cC;refine aZ (λx=>x.2.1=p/\x.2.2=e) ?_ ?_
  .refine aK (λ_=>ax (oR p hp t _ _ _) λ_ _=>ar ⟨rfl,fg e⟩) λ_=>aK (λ_=>ax (oR p hp t _ _ _) λ_ _=>ar ⟨rfl,fg e⟩) λ_=>ar ⟨rfl,fg e⟩
  rintro⟨r,M,e'⟩ ⟨J,I⟩;dsimp only at J I;have J:=J.symm;subst J;have I:=I.symm;subst I;refine pZ (λx=>((e.l.length:Int)-x.1.2).toNat) (λx=>0<=x.1.2/\x.2.1=p/\x.2.2=e) ?_ ⟨eP _,rfl,fg e⟩;rintro⟨⟨a,(b:Int)⟩,M,e'⟩ ⟨b0,J,I⟩;dsimp only at b0 J I;have J:=J.symm;subst J;have I:=I.symm;subst I;refine aZ (λx=>x.2.1=p/\x.2.2=e/\(x.1=ai->b<(e.l.length:Int))) ?_ ?_
  .exact bF (λg=>ar ⟨rfl,fg e,λ_=>g⟩) λ_=>ar ⟨rfl,fg e,λh=>(by cases h)⟩
  rintro⟨c,M,e'⟩ ⟨J,I,f3⟩;dsimp only at J I f3;have J:=J.symm;subst J;have I:=I.symm;subst I;refine aP (λhc=>?_) λ_=>ar trivial
  have g:=f3 hc;refine aR b0 g (aS ?_);refine ax (FL p hp t n d _ (by omega) (h2 _ (bH (T:=.ex) (xs:=e.l) (j:=b) b0 g))) λ_ _=>ar ?_
  dsimp only;rw[ic (n:=b+1) (by omega) (by omega)];exact⟨⟨by omega,rfl,fg e⟩,by omega⟩
theorem w7 (p:PG) (hp:PX p) (t:Int) (e:Xp) (h:GX 4 e):Ok (mf (p,t,e)) λ_=>True:=by
 unfold mf bx aE;have M:GX 4 (dZ (Xp.op e,Xp.n e,Xp.name e,Xp.l e)):=by rw[fg];exact h
 refine ax (gh _ M) λ_ _=>ec (λ_=>ar trivial) λ_=>?_
 refine ax (MN fuel 4 _ (by rw[jP];omega) M) λ_ _=>?_
 refine aZ (λx=>x.2.1=p/\x.2.2=e) (bF (λ_=>ar ⟨rfl,fg e⟩) λ_=>ar ⟨rfl,fg e⟩) ?_;rintro⟨r,U,e'⟩ ⟨J,I⟩;dsimp only at J I;have J:=J.symm;subst J;have I:=I.symm;subst I;exact aP (λ_=>ar trivial) λ_=>ax (FL p hp t fuel 4 _ (by rw[jP];omega) M) λ_ _=>ar trivial
theorem fA (b:Bool):Ok (c8 b) λ_=>True:=by
 unfold c8;exact aP (λ_=>ar trivial) λ_=>ar trivial
theorem t_ (x:Int×Int):Ok (iT x) λr=>r=0->x.1=0/\x.2=0:=by
 unfold iT jd;exact b_ (λh=>ar λh2=>(h h2).elim) λh=>ar λh2=>⟨h,h2⟩
abbrev WK:Type:=(List DT×List HT×Int)×(Bool×List Sx)×List (List UInt8)×List (List UInt8)
theorem X0 (a b:Int) (s:List UInt8) (w:WK) (h:w.2.1.2.length<=100):Ok (dT ((a,b,s),w)) λy=>y.2=w:=by
 unfold dT aY bd bx kz aX cL aE cC;refine b9 w.2.1.2.length (λi x=>x.1=(i:Int)/\x.2=w) ?_ ?_ ⟨rfl,rfl⟩
 .rintro i ⟨c,x⟩ hi ⟨e1,e2⟩;dsimp only at e1 e2;subst e1;have e2:=e2.symm;subst e2;refine du ?_;refine ch (ch (aS ?_));refine aZ (λx=>x.2=w) ?_ ?_
  .refine aK (λ_=>aK (λ_=>ar rfl) λ_=>ar rfl) λ_=>aK (λ_=>aK (λ_=>ar rfl) λ_=>ar rfl) λ_=>ar rfl
  rintro⟨c,x⟩ e;dsimp only at e;have e:=e.symm;subst e;exact aP (λ_=>ar rfl) λ_=>ar ⟨gM (by omega),rfl⟩
 .rintro⟨c,x⟩ ⟨e1,e2⟩;dsimp only at e1 e2;subst e1;have e2:=e2.symm;subst e2;exact dv (ar rfl)
def PF:Nat->Sx->Nat
 |0,_=>0
 |d+1,s=>1+(s.body.map (PF d)).sum+(s.els.map (PF d)).sum
def nu (d:Nat) (l:List Sx):Nat:=(l.map (PF d)).sum
def KS:Nat->Nat
 |0=>0
 |d+1=>1+16*KS d
theorem NC {α:Type} {f:α->Nat} {k:Nat}:∀ {l:List α},(∀ x∈l,f x<=k)->(l.map f).sum<=l.length*k
 |[],_=>by simp
 |x::r,h=>by
  have:=NC (l:=r) λy I=>h y (cH _ I)
  have:=h x (dh ..);rw[gk,List.sum_cons,bY,iM];omega
theorem Vp:∀ {d:Nat} {s:Sx},GT d s->PF d s<=KS d
 |0,_,h=>h.elim
 |d+1,s,⟨_,_,_,Y,U,M,J⟩=>by
  have a:=NC (f:=PF d) (l:=s.body) λx I=>Vp (M x I)
  have b:=NC (f:=PF d) (l:=s.els) λx I=>Vp (J x I)
  have c:=cG (KS d) Y;have e:=cG (KS d) U;show 1+_+_<=1+16*KS d;omega
theorem O1:∀ {d:Nat} {s:Sx},GT d s->PF (d+1) s=PF d s
 |0,_,h=>h.elim
 |d+1,s,⟨_,_,_,_,_,M,J⟩=>by
  show 1+(s.body.map (PF (d+1))).sum+(s.els.map (PF (d+1))).sum=1+(s.body.map (PF d)).sum+(s.els.map (PF d)).sum;rw[pV λx I=>O1 (M x I),pV λx I=>O1 (J x I)]
theorem abp {d:Nat} {l:List Sx} (h:∀ s∈l,GT d s):nu d l<=l.length*KS d:=NC λx I=>Vp (h x I)
theorem wS {d:Nat} {l:List Sx} {i:Nat} (hi:i<l.length):nu d (l.take (i+1))=nu d (l.take i)+PF d (aJ (T:=.sm) l (i:Int)):=by
 unfold nu;rw[mD (T:=.sm) hi,cA,Fr];simp
theorem O2 {d:Nat} (l:List Sx) (i:Nat):nu d (l.take i)<=nu d l:=by
 conv=>rhs;rw[<- Bs i l]
 unfold nu;rw[cA,Fr];omega
theorem EX:∀ (n d:Nat) (l:List Sx),d<n->l.length<=1000->(∀ s∈l,GT d s)->KS d<=100000->m8 n l=af ((nu d l:Nat):Int)
 |0,_,_,h,_,_,_=>by omega
 |n+1,d,l,hn,hl,h,J=>by
  refine cE ?_;rw[yh];unfold uz bx uO aX cL aE cC;have hb:=abp h;have I:=Nat.mul_le_mul hl J;refine b9 l.length (λi x=>x.2=(i:Int)/\x.1=(l.length:Int)-i+(nu d (l.take i):Nat)) ?_ ?_ ⟨rfl,by simp[nu]⟩
  .rintro i ⟨a,b⟩ hi ⟨e1,e2⟩;dsimp only at e1 e2;subst e1;subst e2;have hp:=O2 (d:=d) l (i+1);rw[wS hi] at hp;refine du ?_;refine ch (aS ?_);rw[wS hi];have hm:=h _ (bH (T:=.sm) (xs:=l) (j:=(i:Int)) (by omega) (by omega));revert hm hp;generalize (aJ (T:=.sm) l (i:Int))=s;intro hp hm;cases d with
   |zero=>exact hm.elim
   |succ d=>
    obtain⟨_,_,_,Z,Y,U,M⟩:=hm;have hk:KS (d+1)=1+16*KS d:=rfl;have hc:PF (d+1) s=1+nu d s.body+nu d s.els:=rfl;rw[hc] at hp ⊢;refine aV (EX n d _ (by omega) (by omega) U (by omega)) ?_;refine ch (aS ?_);refine aV (EX n d _ (by omega) (by omega) M (by omega)) (ar ⟨gM (by omega),?_⟩);dsimp only;rw[ic (n:=(l.length:Int)-i+(nu (d+1) (l.take i):Nat)+(nu d s.body:Nat)) (by omega) (by omega),ic (by omega) (by omega)];omega
  .rintro⟨a,b⟩ ⟨e1,e2⟩;dsimp only at e1 e2;subst e1;subst e2;rw[cP];exact dv (ar (by dsimp only;omega))
theorem UU (l:List DT) (hl:l.length<=100):Ok (rq l) λ_=>True:=by
 unfold rq aY bi bw bK dx fh bd bx iR jd bB bD aX cL aE cC;refine b9 l.length (λi x=>x.2.2.2.2=(i:Int)) ?_ ?_ rfl
 .rintro i ⟨a,b,c,d,e⟩ hi e1;dsimp only at e1;subst e1;refine du ?_;refine aZ (λ_=>True) ?_ λx _=>ar (gM (by omega))
  refine ch (aS ?_);have htk:(dO (aT (i:Int)) l).length<=100:=by rw[bE];omega
  refine dG (e_ (by dsimp only;omega) (e_ (by dsimp only;omega) ?_));refine ax (w9 _ _ (dg htk (by omega))) λv hv=>?_
  refine eY (λ_=>ar trivial) λ_=>bF (λ_=>ar trivial) λ_=>?_
  refine aZ (λ_=>True) ?_ λx _=>?_
  .refine aZ (λ_=>True) (aK (λ_=>ar trivial) λ_=>ar trivial) λx _=>aP (λ_=>ar trivial) λ_=>?_
   refine aZ (λ_=>True) (aK (λ_=>ar trivial) λ_=>ar trivial) λx _=>aP (λ_=>ar trivial) λ_=>?_
   exact aK (λ_=>ar trivial) λ_=>ar trivial
  refine aZ (λ_=>True) (bF (λ_=>ar trivial) λ_=>bF (λ_=>ar trivial) λ_=>bF (λ_=>ar trivial) λ_=>ar trivial) λx _=>aP (λ_=>ar trivial) λ_=>?_
  refine aK (λ_=>?_) λ_=>ar trivial
  refine dG (e_ (by dsimp only;omega) (e_ (by dsimp only;omega) ?_));refine ax (w9 _ _ (dg htk (by omega))) λv hv=>?_
  refine bF (λ_=>ar trivial) λg=>?_
  have h2:=hv.2;rw[bE] at h2;exact aR g (by dsimp only at h2 ⊢;omega) (aS (b_ (λ_=>ar trivial) λ_=>ar trivial))
 .rintro⟨a,b,c,d,e⟩ e1;dsimp only at e1;subst e1;exact dv (ar trivial)
theorem NA (p:PG) (h:PX p):Ok (nF p) λ_=>True:=by
 have hd:=h.d;have ht:=h.t;unfold nF aY bi bw bx iR bB bD aX cL aE cC;refine b9 p.2.length (λi x=>x.1=(i:Int)/\x.2=p) ?_ ?_ ⟨rfl,rfl⟩
 .rintro i ⟨a,x⟩ hi ⟨e1,e2⟩;dsimp only at e1 e2;subst e1;have e2:=e2.symm;subst e2;refine du ?_;refine ch (aS ?_);refine aZ (λx=>x.2.1=p) ?_ ?_
  .refine ax (w9 _ _ (by dsimp only;omega)) λv hv=>eY (λ_=>ar rfl) λ_=>?_
   refine dG (e_ (by dsimp only;omega) (e_ (by dsimp only;omega) ?_));exact ax (sB _ _ (by rw[bE];dsimp only;omega)) λ_ _=>ar rfl
  rintro⟨b,x,z⟩ e;dsimp only at e;have e:=e.symm;subst e;exact aP (λ_=>ar trivial) λ_=>ar ⟨gM (by omega),rfl⟩
 rintro⟨a,x⟩ ⟨e1,e2⟩;dsimp only at e1 e2;subst e1;have e2:=e2.symm;subst e2;refine dv ?_;refine ax (P:=λ_=>True) ?_ λ_ _=>ar trivial
 refine b9 p.2.length (λi x=>x.1=(i:Int)/\x.2=p) ?_ ?_ ⟨rfl,rfl⟩
 .rintro i ⟨a,x⟩ hi ⟨e1,e2⟩;dsimp only at e1 e2;subst e1;have e2:=e2.symm;subst e2;refine du ?_;refine ch (aS ?_);have hm:=h.l _ (bH (T:=yL) (xs:=p.2) (j:=(i:Int)) (by omega) (by omega));revert hm;generalize (aJ (T:=yL) p.2 (i:Int))=t;intro hm;refine bF (λ_=>ar trivial) λ_=>?_
  refine b9 t.2.2.1.length (λk y=>y.1=(k:Int)/\y.2=(p,t)) ?_ ?_ ⟨rfl,rfl⟩
  .rintro k ⟨a,z⟩ hk ⟨J,I⟩;dsimp only at J I;subst J;subst I;refine du ?_;refine ch (aS ?_);refine aZ (λx=>x.2=(p,t)) ?_ ?_
   .refine ax (w9 _ _ (by dsimp only;omega)) λv hv=>eY (λ_=>ar rfl) λ_=>?_
    refine ax (sB _ _ (by dsimp only;omega)) λv hv=>eY (λ_=>ar rfl) λ_=>?_
    refine dG (e_ (by dsimp only;omega) (e_ (by dsimp only;omega) ?_));exact ax (yC _ _ (by rw[bE];dsimp only;omega)) λ_ _=>ar rfl
   rintro⟨b,x⟩ e;dsimp only at e;subst e;exact aP (λ_=>ar trivial) λ_=>ar ⟨gM (by omega),rfl⟩
  .rintro⟨a,z⟩ ⟨J,I⟩;dsimp only at J I;subst J;subst I;exact dv (ar ⟨gM (by omega),rfl⟩)
 .rintro⟨a,x⟩ ⟨e1,e2⟩;dsimp only at e1 e2;subst e1;have e2:=e2.symm;subst e2;exact dv (ar trivial)
structure WQ (w:WK) (y:Int×WK):Prop where
 p:y.2.1=w.1
 a:y.2.2.1=w.2.1
 s:y.2.2.2.1.length<=w.2.2.1.length+1
 t:y.2.2.2.2.length<=w.2.2.2.length+1
theorem WQ.same (w:WK) (e:Int):WQ w (e,w):=⟨rfl,rfl,Nat.le_succ _,Nat.le_succ _⟩
theorem aic (s:Sx) (D:List DT) (T:List HT) (t:Int) (A:Bool×List Sx) (sp se:List (List UInt8)) (hp:PX (D,T)) (hA:A.2.length<=100) (h1:sp.length<=100000000) (h2:se.length<=100000000) (J:∀ e∈s.index,GX 4 e) (he:GX 4 s.expr):Ok (me (s,((D,T,t),A,sp,se))) (WQ ((D,T,t),A,sp,se)):=by
 have hex:GX 4 (dZ (Xp.op s.expr,Xp.n s.expr,Xp.name s.expr,Xp.l s.expr)):=by rw[fg];exact he
 have hin:∀ (a b:Int) (n:List UInt8),Ok (dT ((a,b,n),((D,T,t),A,sp,se))) λy=>y.2=((D,T,t),A,sp,se):=λa b n=>X0 a b n _ hA
 have hth:T.length<=1000:=by have:=hp.t;dsimp only at this;omega
 have hdl:D.length<=1000:=by have:=hp.d;dsimp only at this;omega
 have sm:∀ e,WQ ((D,T,t),A,sp,se) (e,((D,T,t),A,sp,se)):=WQ.same _;unfold me aY bi bw cu bK dx cY fh bd iR jd bB bD aE d_;refine ax (hin _ _ _) λy I=>?_
 obtain⟨b1,M⟩:=y;dsimp only at I;subst I;refine bf (by simp) ?_;refine ax (hin _ _ _) λy I=>?_
 obtain⟨b2,M⟩:=y;dsimp only at I;subst I;refine bf (by simp) ?_;refine ax (hin _ _ _) λy I=>?_
 obtain⟨Z,M⟩:=y;dsimp only at I;subst I;refine bf (by simp) ?_;refine aK (λ_=>?_) λ_=>?_
 .refine aK (λ_=>?_) λg=>?_
  .exact ax (oR _ hp _ _ _ _) λ_ _=>ax (w7 _ hp _ _ hex) λ_ _=>ax (t_ _) λ_ _=>ar (sm _)
  .refine ax (oR _ hp _ _ _ _) λ_ _=>?_
   dsimp only[au] at g;refine ch (aS ?_);refine ax (w7 _ hp _ _ (J _ (bH (T:=.ex) (xs:=s.index) (j:=0) (by omega) (by omega)))) λ_ _=>?_
   exact ax (w7 _ hp _ _ hex) λ_ _=>ax (t_ _) λ_ _=>ax (t_ _) λ_ _=>ar (sm _)
 refine aZ (λx=>x.2=((D,T,t),A,s,(D,T),sp,se)) (aK (λ_=>ar (by dsimp only;rw[xZ])) λ_=>ar (by dsimp only;rw[xZ])) ?_;rintro⟨b,x⟩ e;dsimp only at e;subst e;refine aP (λ_=>ax (w7 _ hp _ _ hex) λ_ _=>ar (sm _)) λ_=>?_
 refine aK (λ_=>?_) λ_=>?_
 .refine aZ (λx=>WQ ((D,T,t),A,sp,se) x) ?_ λx J=>ar J
  refine ax (oR _ hp _ _ _ _) λ_ _=>aP (λ_=>?_) λ_=>?_
  .exact ax (fA _) λ_ _=>ax (t_ _) λ_ _=>ar (sm _)
  .refine ax (hin _ _ _) λy I=>?_
   obtain⟨U,M⟩:=y;dsimp only at I;subst I;exact bf (by simp) (ax (fA _) λ_ _=>ax (t_ _) λ_ _=>ar (sm _))
 refine aZ (λx=>x.2=((D,T,t),A,s,(D,T),sp,se)) (aK (λ_=>ar (by dsimp only;rw[xZ])) λ_=>ar (by dsimp only;rw[xZ])) ?_;rintro⟨b,x⟩ e;dsimp only at e;subst e;refine aP (λ_=>?_) λ_=>?_
 .refine aZ (λx=>WQ ((D,T,t),A,sp,se) x) ?_ λx J=>ar J
  refine ax (oR _ hp _ _ _ _) λ_ _=>aP (λ_=>?_) λ_=>?_
  .exact ax (fA _) λ_ _=>ax (t_ _) λ_ _=>ar (sm _)
  .refine ax (hin _ _ _) λy I=>?_
   obtain⟨U,M⟩:=y;dsimp only at I;subst I;exact bf (by simp) (ax (fA _) λ_ _=>ax (t_ _) λ_ _=>ar (sm _))
 refine aK (λ_=>ax (fA _) λ_ _=>ar (sm _)) λ_=>?_
 refine aK (λ_=>?_) λ_=>?_
 .refine aZ (λx=>WQ ((D,T,t),A,sp,se) x) ?_ λx J=>ar J
  exact aP (λ_=>ax (fA _) λ_ _=>ar (sm _)) λ_=>ax (fA _) λ_ _=>ar (sm _)
 refine aZ (λx=>x.2=((D,T,t),A,s,(D,T),sp,se)) (aK (λ_=>ar (by dsimp only;rw[xZ])) λ_=>aK (λ_=>ar (by dsimp only;rw[xZ])) λ_=>ar (by dsimp only;rw[xZ])) ?_;rintro⟨b,x⟩ e;dsimp only at e;subst e;refine aP (λ_=>?_) λ_=>?_
 .refine ax (oR _ hp _ _ _ _) λr hr=>b_ (λ_=>ar (sm _)) λg=>?_
  obtain⟨v,hv,v0,Y⟩:=hr g (by omega) (by omega);refine aV hv (aR v0 Y (aS ?_));refine ax (hin _ _ _) λy I=>?_
  obtain⟨U,M⟩:=y;dsimp only at I;subst I;refine bf (by simp) ?_;refine aZ (λx=>WQ ((D,T,t),A,sp,se) x) ?_ λx J=>ar J
  refine aP (λ_=>ax (fA _) λ_ _=>ar (sm _)) λ_=>ec (λ_=>ax (fA _) λ_ _=>ar (sm _)) λ_=>?_
  exact aK (λ_=>ax (fA _) λ_ _=>ar (sm _)) λ_=>ax (fA _) λ_ _=>ar (sm _)
 refine aK (λ_=>?_) λ_=>?_
 .refine ax (oR _ hp _ _ _ _) λr hr=>b_ (λ_=>ar (sm _)) λg=>?_
  refine ax (sB T _ hth) λv hv=>?_
  refine aZ (λx=>x.2=((D,T,t),A,s,sp,se)) ?_ ?_
  .refine aP (λ_=>ar (by dsimp only;rw[xZ])) λ_=>aP (λ_=>ar (by dsimp only;rw[xZ])) λ_=>aP (λ_=>ar (by dsimp only;rw[xZ])) λ_=>aK (λ_=>ar (by dsimp only;rw[xZ])) λ_=>ar (by dsimp only;rw[xZ])
  rintro⟨b,x⟩ e;dsimp only at e;subst e;refine aP (λ_=>ar (sm _)) λ_=>?_
  refine ax (yC sp _ (by omega)) λ_ _=>eY (λ_=>ar (sm _)) λ_=>?_
  exact bg (by simp;omega) (by omega) (ar ⟨rfl,rfl,by simp,Nat.le_succ _⟩)
 refine aK (λ_=>?_) λ_=>?_
 .refine aZ (λx=>WQ ((D,T,t),A,sp,se) x) ?_ λx J=>ar J
  refine ax (oR _ hp _ _ _ _) λr hr=>?_
  refine aP (λ_=>ax (fA _) λ_ _=>ax (t_ _) λ_ _=>ar (sm _)) λ_=>?_
  refine aP (λ_=>ax (fA _) λ_ _=>ax (t_ _) λ_ _=>ar (sm _)) λ_=>?_
  exact ax (sB T _ hth) λv hv=>ax (fA _) λ_ _=>ax (t_ _) λ_ _=>ar (sm _)
 refine aK (λ_=>?_) λ_=>?_
 .refine aZ (λx=>x.2=((D,T,t),A,s,(D,T),sp,se)) ?_ ?_
  .refine ax (oR _ hp _ _ _ _) λr hr=>?_
   exact aP (λ_=>ax (fA _) λ_ _=>ax (t_ _) λ_ _=>ar (by dsimp only;rw[xZ])) λ_=>ax (fA _) λ_ _=>ax (t_ _) λ_ _=>ar (by dsimp only;rw[xZ])
  rintro⟨b,x⟩ e;dsimp only at e;subst e;refine aZ (λx=>x.2=((D,T,t),A,s,(D,T),sp,se)) ?_ ?_
  .refine aZ (λx=>x.2=((D,T,t),A,s,(D,T),sp,se)) ?_ ?_
   .exact aK (λ_=>ax (yC se _ (by omega)) λ_ _=>ar (by dsimp only;rw[xZ])) λ_=>ar (by dsimp only;rw[xZ])
   rintro⟨b,x⟩ e;dsimp only at e;subst e;exact aP (λ_=>ar (by dsimp only;rw[xZ])) λ_=>ar (by dsimp only;rw[xZ])
  rintro⟨b,x⟩ e;dsimp only at e;subst e;refine bg (by simp;omega) (by omega) ?_;exact ax (w7 _ hp _ _ hex) λ_ _=>ax (t_ _) λ_ _=>ar ⟨rfl,rfl,Nat.le_succ _,by simp⟩
 exact ax (oR _ hp _ _ _ _) λ_ _=>ax (oR _ hp _ _ _ _) λ_ _=>ax (fA _) λ_ _=>ax (t_ _) λ_ _=>ax (t_ _) λ_ _=>ar (sm _)
abbrev RA4:Type:=(List Sx×WK)->Option ((Int×Int)×WK)
structure QA (l:List Sx) (d:Nat) (w:WK) (y:(Int×Int)×WK):Prop where
 p:y.2.1=w.1
 a:y.2.2.1.2.length=w.2.1.2.length
 s:y.2.2.2.1.length<=w.2.2.1.length+l.length*KS d
 t:y.2.2.2.2.length<=w.2.2.2.length+l.length*KS d
def SpA (rr:RA4) (d:Nat):Prop:=∀ (l:List Sx) (w:WK),l.length<=100->(∀ s∈l,GT d s)->PX (w.1.1,w.1.2.1)->w.2.1.2.length+d<=50->w.2.2.1.length+l.length*KS d<=100000000->w.2.2.2.length+l.length*KS d<=100000000->Ok (rr (l,w)) (QA l d w)
theorem aer (rr:RA4) (d:Nat) (hr:∀ d',d=d'+1->SpA rr d'):SpA (mi rr) d:=by
 rintro l ⟨⟨D,T,t⟩,A,sp,se⟩ hl hg hp hA h1 h2;dsimp only at hp hA h1 h2;have hK:∀ i:Nat,i<=l.length->i*KS d<=l.length*KS d:=λi hi=>cG _ hi
 unfold mi aY bi bw bK dx cY ck bd bx jd bB bD aX cL aE cC d_;refine b9 l.length (λi x=>x.1=(i:Int)/\x.2.1=(D,T,t)/\x.2.2.1.2.length=A.2.length/\x.2.2.2.1.length<=sp.length+i*KS d/\x.2.2.2.2.length<=se.length+i*KS d) ?_ ?_ ⟨rfl,rfl,rfl,by simp,by simp⟩
 .rintro i ⟨a,P,A',sp',se'⟩ hi ⟨e1,e2,e3,Y,U⟩;dsimp only at e1 e2 e3 Y U;subst e1;subst e2;have hKi:=hK (i+1) (by omega);have hKs:=iM i (KS d);rw[Nat.succ_eq_add_one] at hKs;refine du ?_;refine ch (aS ?_);have hm:=hg _ (bH (T:=.sm) (xs:=l) (j:=(i:Int)) (by omega) (by omega));revert hm;generalize (aJ (T:=.sm) l (i:Int))=s;intro hm;cases d with
  |zero=>exact hm.elim
  |succ d=>
   have hR:=hr d rfl;obtain⟨_,g2,g3,g4,g5,g6,g7⟩:=hm;have hk:KS (d+1)=1+16*KS d:=rfl;have kb:s.body.length*KS d<=8*KS d:=cG _ g4;have ke:s.els.length*KS d<=8*KS d:=cG _ g5;dsimp only;rw[xZ];refine ax (aic s D T t A' sp' se' hp (by omega) (by omega) (by omega) g2 g3) λy M=>?_
   obtain⟨e,P2,A2,sp2,se2⟩:=y;obtain⟨J,I,q3,q4⟩:=M;dsimp only at J I q3 q4;subst J;subst I;refine bf (by simp) ?_;refine aZ (λx=>x.2=((D,T,t),s,A2,sp2,se2)) (bF (λ_=>ar rfl) λ_=>ar rfl) ?_;rintro⟨e,x⟩ ex;dsimp only at ex;subst ex;refine b_ (λ_=>ar ⟨rfl,e3,by dsimp only;omega,by dsimp only;omega⟩) λ_=>?_
   refine bg (by simp;omega) (by omega) (aR (by simp) (by simp;omega) (aR (by simp) (by simp;omega) ?_));dsimp only;rw[xZ];refine ax (hR s.body ((D,T,t),(A2.1,cQ (A2.2++[_]) _ s),sp2,se2) (by omega) g6 hp ?_ ?_ ?_) λy M=>?_
   .dsimp only;rw[bT];simp;omega
   .dsimp only;omega
   .dsimp only;omega
   obtain⟨e6,P6,A6,sp6,se6⟩:=y;obtain⟨J,I,q5,q6⟩:=M;dsimp only at J I q5 q6;subst J;rw[bT,bu,dR] at I;refine bf (by simp) ?_;refine aZ (λx=>x.2.1=(D,T,t)/\x.2.2.1.2.length=A2.2.length+1/\x.2.2.2.1.length<=sp2.length+16*KS d/\x.2.2.2.2.length<=se2.length+16*KS d) ?_ ?_
   .refine aK (λ_=>?_) λ_=>ar ⟨rfl,I,by dsimp only;omega,by dsimp only;omega⟩
    refine ax (hR s.els ((D,T,t),A6,sp6,se6) (by omega) g7 hp (by dsimp only;omega) (by dsimp only;omega) (by dsimp only;omega)) λy M=>?_
    obtain⟨e7,P7,A7,sp7,se7⟩:=y;obtain⟨r1,r2,r5,Z⟩:=M;dsimp only at r1 r2 r5 Z;subst r1;exact bf (by simp) (ar ⟨rfl,r2.trans I,by dsimp only;omega,by dsimp only;omega⟩)
   rintro⟨e8,P8,A8,sp8,se8⟩ ⟨r1,r2,r5,Z⟩;dsimp only at r1 r2 r5 Z;subst r1;have el:bk .i64 ((aO A8.2.length)-1)=(A2.2.length:Int):=by
    rw[r2,ic (by simp<;>omega) (by simp<;>omega)];simp<;>omega
   dsimp only;rw[el];have tk:(dO (aT (A2.2.length:Int)) A8.2).length=A2.2.length:=by rw[bE];omega
   refine dG (e_ (by omega) (Ab (by rw[r2];omega) ?_));refine b_ (λ_=>ar ⟨rfl,by dsimp only;omega,by dsimp only;omega,by dsimp only;omega⟩) λ_=>ar ?_
   exact⟨gM (by omega),rfl,by dsimp only;omega,by dsimp only;omega,by dsimp only;omega⟩
 .rintro⟨a,P,A',sp',se'⟩ ⟨e1,e2,e3,Y,U⟩;dsimp only at e1 e2 e3 Y U;subst e1;subst e2;exact dv (ar ⟨rfl,e3,Y,U⟩)
theorem W6:∀ (n d:Nat),d<n->SpA (iz n) d
 |0,_,h=>by omega
 |n+1,d,h=>aer (iz n) d λI hd=>W6 n I (by omega)
theorem DV (p:PG) (h:PX p):Ok (fk p) λr=>r.1=0->(p.2.map λt=>nu 5 t.2.2.2).sum<=60:=by
 have hd:=h.d;have ht:=h.t;unfold fk aY bi bw bK cY bx jd bB bD aX cL aE cC;refine ax (Za p h) λ_ _=>ec (λ_=>ar λh=>(by cases h)) λ_=>?_
 refine ax (UU p.1 hd) λ_ _=>b_ (λhn=>ar λh=>(hn h).elim) λ_=>bF (λ_=>ar λh=>(by cases h)) λ_=>?_
 refine ax (NA p h) λ_ _=>b_ (λhn=>ar λh=>(hn h).elim) λ_=>?_
 have J:KS 5=69905:=rfl;refine b9 p.2.length (λi x=>x.1.2=(i:Int)/\x.2=p/\x.1.1=((((p.2.take i).map λt=>nu 5 t.2.2.2).sum:Nat):Int)/\(x.1.1:Int)<=((i*6990500:Nat):Int)) ?_ ?_ ⟨rfl,rfl,by simp,by simp⟩
 .rintro i ⟨⟨(c:Int),a⟩,x⟩ hi ⟨e1,e2,e3,I⟩;dsimp only at e1 e2 e3 I;subst e1;have e2:=e2.symm;subst e2;refine du ?_;refine ch (aS ?_);have hm:=bH (T:=yL) (xs:=p.2) (j:=(i:Int)) (by omega) (by omega);have hb:=h.b _ hm;have hcb:=abp (h.s _ hm);have hcb2:=cG (KS 5) hb;rw[J] at hcb hcb2;refine aV (EX fuel 5 _ (by rw[jP];omega) (dg hb (by omega)) (h.s _ hm) (by rw[J];omega)) (ar ⟨gM (by omega),rfl,?_,?_⟩)
  .dsimp only;rw[mD (T:=yL) hi,cA,Fr,ic (by omega) (by omega),e3];simp
  .dsimp only;rw[ic (by omega) (by omega)];omega
 rintro⟨⟨(c:Int),a⟩,x⟩ ⟨e1,e2,e3,I⟩;dsimp only at e1 e2 e3 I;subst e1;have e2:=e2.symm;subst e2;rw[cP] at e3;refine dv ?_;refine ax (P:=λr=>r.1=0->(p.2.map λt=>nu 5 t.2.2.2).sum<=60) ?_ λ_ h=>ar h
 refine bF (λ_=>ar λh=>(by cases h)) λM=>?_
 have M:c<=60:=M;refine b9 p.2.length (λi x=>x.1=(i:Int)/\x.2.1=p/\x.2.2.1.1=p.1/\x.2.2.1.2.1=p.2/\x.2.2.2.1.2.length=0/\x.2.2.2.2.1.length<=i*6990500/\x.2.2.2.2.2.length<=i*6990500) ?_ ?_ ⟨rfl,rfl,rfl,rfl,rfl,by simp,by simp⟩
 .rintro i ⟨a,x,⟨D,T,t⟩,A,sp,se⟩ hi ⟨e1,e2,e3,I,e5,e6,e7⟩;dsimp only at e1 e2 e3 I e5 e6 e7;subst e1;have e2:=e2.symm;subst e2;subst e3;subst I;refine du ?_;refine ch (aS ?_);have hm:=bH (T:=yL) (xs:=p.2) (j:=(i:Int)) (by omega) (by omega);have hb:=h.b _ hm;have hs:=h.s _ hm;revert hb hs;dsimp only;generalize (aJ (T:=yL) p.2 (i:Int))=th;intro hb hs;have hk:KS 5=69905:=rfl;have hle:th.2.2.2.length*KS 5<=100*KS 5:=cG _ hb;rw[hk] at hle;refine ax (W6 fuel 5 (by rw[jP];omega) th.2.2.2 ((p.1,p.2,(i:Int)),A,sp,se) hb hs h (by dsimp only;omega) (by dsimp only;rw[hk];omega) (by dsimp only;rw[hk];omega)) λy Z=>?_
  obtain⟨e,P2,A2,sp2,se2⟩:=y;obtain⟨U,Y,q3,q4⟩:=Z;dsimp only at U Y q3 q4;subst U;rw[hk] at q3 q4;refine bf (by simp) (b_ (λhn=>ar λh=>(hn h).elim) λ_=>ar ?_);exact⟨gM (by omega),rfl,rfl,rfl,by dsimp only;omega,by dsimp only;omega,by dsimp only;omega⟩
 .rintro⟨a,x,P,w⟩ ⟨e1,e2,_⟩;dsimp only at e1 e2;subst e1;have e2:=e2.symm;subst e2;exact dv (ar λ_=>by omega)
theorem c9 {R:Type} {o o':Option R} {Q:R->Prop} (h:o=o') (hk:Ok o' Q):Ok o Q:=h▸hk
def D0:List DT:=[(1,0,[120],0,0,[]),(1,0,[121],0,1,[]),(2,0,[118],0,0,[]),(1,0,[113],2,0,[]),(3,0,[109],0,0,[]),(3,0,[110],0,0,[]),(4,0,[114],0,0,[]),(5,0,[99],0,0,[109]),(6,0,[102],0,0,[])]
def L0:List (List UInt8):=[[97],[98]]
set_option maxHeartbeats 20000000 in
theorem aly:∃ r,fk (D0,[([109,97,105,110],0,L0,[nJ (1,0,[120],[],[],dZ (1,1,[],[]),[],[])])])=af r/\r.1=0:=by
 suffices h:Ok (fk (D0,[([109,97,105,110],0,L0,[nJ (1,0,[120],[],[],dZ (1,1,[],[]),[],[])])])) λr=>r.1=0 by
  obtain⟨y,h1,h2⟩:=h;exact⟨y,h1,h2⟩
 unfold fk aY bi bw bK cY bx jd bB bD aX cL aE cC;with_reducible repeat' first|exact ar rfl|refine WC ?_|refine WA ?_|refine Wz ?_|refine Wx ?_|refine Qk ?_|refine ae1 ?_|refine aS ?_|refine fG rfl ?_|refine fP rfl ?_|refine bf rfl ?_|refine Wy ?_|refine Ql ?_|refine c9 (pG.eq_1 ..) ?_|refine c9 (jX.eq_1 ..) ?_|refine c9 (fd.eq_1 ..) ?_|refine c9 (jC.eq_1 ..) ?_|refine c9 (ko.eq_1 ..) ?_|refine c9 (ll.eq_1 ..) ?_|refine c9 (pi.eq_1 ..) ?_|refine c9 (ru.eq_1 ..) ?_|refine c9 (nG.eq_1 ..) ?_|refine c9 (ju.eq_1 ..) ?_|refine c9 (jZ.eq_1 ..) ?_|refine c9 (lZ.eq_1 ..) ?_|refine c9 (iZ.eq_1 ..) ?_|refine c9 (mg.eq_1 ..) ?_|refine c9 (ph.eq_1 ..) ?_|refine c9 (rq.eq_1 ..) ?_|refine c9 (hP.eq_1 ..) ?_|refine c9 (nF.eq_1 ..) ?_|refine c9 (gO.eq_1 ..) ?_|refine c9 (iU.eq_1 ..) ?_|refine c9 (BP.eq_1 ..) ?_|refine c9 (uz.eq_1 ..) ?_|refine c9 (vJ.eq_1 ..) ?_|refine c9 (mi.eq_1 ..) ?_|refine c9 (me.eq_1 ..) ?_|refine c9 (dT.eq_1 ..) ?_|refine c9 (gC.eq_1 ..) ?_|refine c9 (pE.eq_1 ..) ?_|refine c9 (mf.eq_1 ..) ?_|refine c9 (BO.eq_1 ..) ?_|refine c9 (uy.eq_1 ..) ?_|refine c9 (BN.eq_1 ..) ?_|refine c9 (ux.eq_1 ..) ?_|refine c9 (iT.eq_1 ..) ?_|refine c9 (c8.eq_1 ..) ?_|refine c9 (ck.eq_1 ..) ?_|refine c9 (congrFun (gI dF jP) _) ?_|refine c9 (yF _ _) ?_|refine c9 (congrFun (gI eB jP) _) ?_|refine c9 (zk _ _) ?_|refine c9 (congrFun (gI hX jP) _) ?_|refine c9 (su _ _) ?_|refine c9 (congrFun (gI m8 jP) _) ?_|refine c9 (yh _ _) ?_|refine c9 (congrFun (gI iz jP) _) ?_|refine c9 (B2 _ _) ?_|refine c9 (congrFun (gI m7 jP) _) ?_|refine c9 (yg _ _) ?_|refine c9 (congrFun (gI m6 jP) _) ?_|refine c9 (yf _ _) ?_
 all_goals trace_state
structure TM (nT:Nat) (t:HT):Prop where
 l:t.2.2.1=L0
 b:t.2.2.2.length<=8
 s:∀ s∈t.2.2.2,GS nT 3 s
structure PJ (p:PG):Prop where
 d:p.1=D0
 t0:1<=p.2.length
 t:p.2.length<=4
 m:∀ t∈p.2,TM p.2.length t
 n:p.2.map Prod.fst=v7.take p.2.length
theorem PJ.x {p:PG} (h:PJ p):PX p:=⟨by rw[h.d];decide,by have:=h.t;omega,λt ht=>by rw[(h.m t ht).l];decide,λt ht=>by have:=(h.m t ht).b;omega,λt ht s hs=>((h.m t ht).s s hs).le (by omega:3<=5) |>.t⟩
theorem RB:sd ()=af D0:=rfl
theorem ach:∀ m:Nat,m<5->∀ j:Nat,j<m->aJ (T:=.str) v7 (j:Int)∈v7.take m:=by decide
theorem P1 {nT:Nat} (op:Int) {n:List UInt8} (J:op=12\/op=13) (hn:n∈v7.take nT):GS nT 3 (nJ (op,0,n,[],[],dZ (0,0,[],[]),[],[])):=GS.wo (by omega) (by simp) (λx I=>(by cases I)) (by rcases J with rfl|rfl<;>(constructor<;>simp[Sx.op,Sx.name,Sx.index,Sx.arg,Sx.els,Sx.body]<;>exact hn))
theorem GP (x:List Int) (hl:x.length<=9223372036854775807) (hx:∀ z∈x,0<=z/\z<=255):Ok (oF x) λp=>PJ p/\∃ r,fk p=af r/\r.1=0:=by
 unfold oF aY bi bw cu dU kC zV bK fh kB pU Prod.q9 bd bx jd bB kz cL aE cC d_;refine aV RB ?_;refine ax (gj 3 (x,0) ⟨hl,hx,by dsimp only;omega,by dsimp only;omega⟩) λy I=>?_
 obtain⟨n,t0⟩:=y;obtain⟨s0,n0,n1,_⟩:=I;have n1:=n1 (by decide);dsimp only at s0 n0 n1;have ew:bk .i64 (2+n)=2+n:=ic (by omega) (by omega);obtain⟨nT,hnT⟩:∃ m:Nat,2+n=(m:Int):=⟨(2+n).toNat,by omega⟩
 refine b9 nT (λi x=>x.1=(i:Int)/\x.2.2.1=D0/\x.2.2.2.1=v7/\TP x.2.2.2.2.1/\x.2.2.2.2.2.1.2=[]/\x.2.2.2.2.2.2.map Prod.fst=v7.take i/\∀ t∈x.2.2.2.2.2.2,TM nT t) ?_ ?_ ⟨rfl,rfl,rfl,s0.p,rfl,rfl,λt ht=>(by cases ht)⟩
 .rintro i ⟨a,m,D,N,t,h,th⟩ hi ⟨e1,e2,e3,e4,e5,e6,e7⟩;dsimp only at e1 e2 e3 e4 e5 e6 e7;subst e1;subst e2;refine bF (λg=>?_) λg=>(by dsimp only at g;rw[ew] at g;omega)
  have l4:N.length=4:=by rw[e3];rfl
  refine ch (ch (aS ?_));have hthl:th.length=i:=by have:=gI al e6;rw[bX,bE] at this;have q4:v7.length=4:=rfl;omega
  refine aZ (λx=>x.2.2.2.1.1=aJ (T:=.str) N (i:Int)/\x.2.1=D0/\x.2.2.1=v7/\TP x.2.2.2.2.1/\x.2.2.2.2.2.1.2=[]/\x.2.2.2.2.2.2.1=th/\x.2.2.2.2.2.2.2.1=L0/\x.2.2.2.2.2.2.2.2.length<=3/\∀ s∈x.2.2.2.2.2.2.2.2,GS nT 3 s) ?_ ?_
  .refine aK (λ_=>?_) λ_=>ar ⟨rfl,rfl,e3,e4,e5,rfl,rfl,by simp,λs hs=>(by cases hs)⟩
   refine b9 (1+n).toNat (λk x=>x.2.2.2.2.1.1=aJ (T:=.str) N (i:Int)/\x.1=1+(k:Int)/\x.2.2.1=D0/\x.2.2.2.1=v7/\TP x.2.2.2.2.2.1/\x.2.2.2.2.2.2.1.2=[]/\x.2.2.2.2.2.2.2.1=th/\x.2.2.2.2.2.2.2.2.1=L0/\x.2.2.2.2.2.2.2.2.2.length<=k/\∀ s∈x.2.2.2.2.2.2.2.2.2,GS nT 3 s) ?_ ?_ ⟨rfl,rfl,rfl,e3,e4,e5,rfl,rfl,by simp,λs hs=>(by cases hs)⟩
   .rintro k ⟨c,m1,D1,N1,z1,t1,h1,th1,l1,b1⟩ hk ⟨fz,f1,f2,f3,Z,J,Y,U,f8,M⟩;dsimp only at fz f1 f2 f3 Z J Y U f8 M;subst f1;refine bF (λ_=>?_) λg=>(by dsimp only at g;rw[ew] at g;omega)
    have l41:N1.length=4:=by rw[f3];rfl
    refine ch (ch (aS ?_));refine bg (by simp;omega) (by omega) (ar ?_);dsimp only;rw[ic (n:=1+(k:Int)+1) (by omega) (by omega)];refine ⟨fz,by omega,f2,f3,Z,J,Y,U,by simp;omega,λs hs=>?_⟩;rcases bP.1 hs with hs|hs
    .exact M s hs
    .rw[aL] at hs;rw[hs];refine P1 12 (.inl rfl) ?_;rw[f3,show 1+(k:Int)=((1+k:Nat):Int) by omega];exact ach nT (by omega) (1+k) (by omega)
   .rintro⟨c,m1,D1,N1,z1,t1,h1,th1,l1,b1⟩ ⟨fz,f1,f2,f3,Z,J,Y,U,f8,M⟩;dsimp only at fz f1 f2 f3 Z J Y U f8 M;subst f1;refine bF (λg=>(by dsimp only at g;rw[ew] at g;omega)) λ_=>ar ?_
    exact⟨fz,f2,f3,Z,J,Y,U,by dsimp only;omega,M⟩
  rintro⟨m1,D1,N1,z1,t1,h1,th1,l1,b1⟩ ⟨fz,f2,f3,Z,J,Y,U,f8,M⟩;dsimp only at fz f2 f3 Z J Y U f8 M;subst f2;subst Y;subst U;refine ax (gj 3 t1 Z) λy I=>?_
  obtain⟨k2,t2⟩:=y;obtain⟨u1,u2,u3,_⟩:=I;have u3:=u3 (by decide);dsimp only at u1 u2 u3;dsimp only;rw[ic (n:=1+k2) (by omega) (by omega)];refine ax (XV (nT:=nT) 2 (by omega) (1+k2) m1 t2 h1 (by omega) u1.p (by rw[J];simp)) λy I=>?_
  obtain⟨m3,t3,h3,l3⟩:=y;obtain⟨w1,w2,w3,w4⟩:=I;dsimp only at w1 w2 w3 w4;refine bf (by simp) (bg (by simp;omega) (by omega) ?_);have hbody:∀ s∈b1++l3,GS nT 3 s:=λs hs=>by
   rcases bP.1 hs with hs|hs
   .exact M s hs
   .exact w2 s hs
  have hlen:(b1++l3).length<=6:=by rw[bu];omega
  refine aZ (λx=>x.2.2.2.1.1=aJ (T:=.str) N (i:Int)/\x.2.1=D0/\x.2.2.1=v7/\TP x.2.2.2.2.1/\x.2.2.2.2.2.1.2=[]/\x.2.2.2.2.2.2.1=th1/\x.2.2.2.2.2.2.2.1=L0/\x.2.2.2.2.2.2.2.2.length<=8/\∀ s∈x.2.2.2.2.2.2.2.2,GS nT 3 s) ?_ ?_
  .refine aZ (λx=>x.2.2.2.2.1.1=aJ (T:=.str) N (i:Int)/\x.2.2.1=D0/\x.2.2.2.1=v7/\TP x.2.2.2.2.2.1/\x.2.2.2.2.2.2.1.2=[]/\x.2.2.2.2.2.2.2.1=th1/\x.2.2.2.2.2.2.2.2.1=L0/\x.2.2.2.2.2.2.2.2.2=b1++l3) ?_ ?_
   .refine aK (λ_=>?_) λ_=>ar ⟨fz,rfl,f3,w3.p,w4.trans J,rfl,rfl,rfl⟩
    exact ax (gj 3 t3 w3.p) λy I=>ar ⟨fz,rfl,f3,I.1.p,w4.trans J,rfl,rfl,rfl⟩
   rintro⟨b,m4,D4,N4,z4,t4,h4,th4,l4,b4⟩ ⟨pz,p2,p3,p4,p5,p6,p7,p8⟩;dsimp only at pz p2 p3 p4 p5 p6 p7 p8;subst p2;subst p6;subst p7;subst p8;have l44:N4.length=4:=by rw[p3];rfl
   refine aP (λ_=>?_) λ_=>ar ⟨pz,rfl,p3,p4,p5,rfl,rfl,by dsimp only;omega,hbody⟩
   refine ch (ch (aS ?_));refine bg (by simp at hlen ⊢;omega) (by omega) (ar ⟨pz,rfl,p3,p4,p5,rfl,rfl,by dsimp only;rw[bu,dR];omega,λs hs=>?_⟩);rcases bP.1 hs with hs|hs
   .exact hbody s hs
   .rw[aL] at hs;rw[hs];refine P1 13 (.inr rfl) ?_;rw[p3];exact ach nT (by omega) 1 (by omega)
  rintro⟨m4,D4,N4,z4,t4,h4,th4,l4,b4⟩ ⟨pz,p2,p3,p4,p5,p6,p7,p8,p9⟩;dsimp only at pz p2 p3 p4 p5 p6 p7 p8 p9;subst p2;subst p6;subst p7;refine bg (by simp;omega) (by omega) (ar ?_);dsimp only;refine ⟨gM (by omega),rfl,p3,p4,p5,by rw[mD (T:=.str) (xs:=v7) (i:=i) (by have q4:v7.length=4:=rfl;omega),cA,e6,<-e3];show _++[z4.1]=_;rw[pz],λt ht=>?_⟩;rcases bP.1 ht with ht|ht
  .exact e7 t ht
  .rw[aL] at ht;rw[ht];exact⟨rfl,p8,p9⟩
 .rintro⟨a,m,D,N,t,h,th⟩ ⟨e1,e2,e3,e4,e5,e6,e7⟩;dsimp only at e1 e2 e3 e4 e5 e6 e7;subst e1;subst e2;refine bF (λg=>(by dsimp only at g;rw[ew] at g;omega)) λ_=>?_
  have hthl:th.length=nT:=by have:=gI al e6;rw[bX,bE] at this;have q4:v7.length=4:=rfl;omega
  have hpm:PJ (D0,th):=⟨rfl,by dsimp only;omega,by dsimp only;omega,by dsimp only;rw[hthl];exact e7,by dsimp only;rw[hthl];exact e6⟩
  refine ax (P:=λp=>PJ p/\∃ r,fk p=af r/\r.1=0) ?_ λr hr=>ar hr
  obtain⟨y,I,_⟩:=DV (D0,th) hpm.x;refine aV I (b_ (λ_=>?_) λh=>ar ⟨hpm,y,I,h⟩);refine aV RB (aV (NU _) (aV (tX _ _) (ar ?_)));refine ⟨⟨rfl,by simp,by simp,λt ht=>?_,rfl⟩,aly⟩;simp only[aL] at ht;rw[ht];refine ⟨rfl,by simp,λs hs=>?_⟩;simp only[aL] at hs;rw[hs,fg,yN];exact GS.asg (by decide) (GE.num _ 3)
abbrev iA (l:List IT) (k:Nat):IT:=aJ (T:=Bw) l (k:Int)
def JT (l:List IT) (ρ:Nat->Nat) (a e k:Nat):Prop:=(iA l k).1=5->∃ k':Nat,(iA l k).2.1=(k':Int)/\(k'=e\/a<=k'/\k'<e/\ρ k'<ρ k)
def qO (l:List IT) (a e:Nat):Prop:=a<=e/\∃ ρ:Nat->Nat,∀ k,a<=k->k<e->1<=ρ k/\ρ k<=e-a/\JT l ρ a e k/\((iA l k).1<5->k+1=e\/ρ (k+1)<ρ k)
theorem qO.nil (l:List IT) (a:Nat):qO l a a:=⟨bW _,λ_=>0,λk h1 h2=>by omega⟩
theorem qO.one {l:List IT} {a:Nat} (h:¬(iA l a).1=5):qO l a (a+1):=⟨by omega,λ_=>1,λk h1 h2=>⟨bW 1,by show 1<=a+1-a;omega,λI=>by rw[show k=a by omega] at I;exact (h I).elim,λ_=>.inl (by omega)⟩⟩
theorem qO.congr {l I:List IT} {a e:Nat} (h:qO l a e) (hc:∀ k,a<=k->k<e->iA I k=iA l k):qO I a e:=by
 obtain⟨h1,ρ,h2⟩:=h;exact⟨h1,ρ,λk M J=>by unfold JT;rw[hc k M J];exact h2 k M J⟩
theorem qO.app {l:List IT} {a b c:Nat} (h:qO l a b) (k:qO l b c):qO l a c:=by
 obtain⟨h1,ρ,h2⟩:=h;obtain⟨k1,σ,k2⟩:=k;refine ⟨by omega,λk=>if k<b then ρ k+(c-b) else σ k,λk Y U=>?_⟩;by_cases hk:k<b
 .obtain⟨J,M,q3,q4⟩:=h2 k Y hk;simp only[aF hk];refine ⟨by omega,by omega,?_,λI=>?_⟩
  .intro I;simp only[aF hk];obtain⟨k',e,r⟩:=q3 I;refine ⟨k',e,?_⟩;rcases r with r|⟨r1,r2,r3⟩
   .subst r;by_cases hc:k'=c
    .exact .inl hc
    .have:=(k2 k' (bW _) (by omega)).2.1;rw[ay (Cj _)];exact .inr ⟨by omega,by omega,by omega⟩
   .rw[aF r2];exact .inr ⟨r1,by omega,by omega⟩
  .rcases q4 I with r|r
   .by_cases hc:k+1=c
    .exact .inl hc
    .have:=(k2 (k+1) (by omega) (by omega)).2.1;rw[ay (by omega)];exact .inr (by omega)
   .by_cases hb:k+1<b
    .rw[aF hb];exact .inr (by omega)
    .rw[ay hb];by_cases hc:k+1=c
     .exact .inl hc
     .have:=(k2 (k+1) (by omega) (by omega)).2.1;exact .inr (by omega)
 .obtain⟨J,M,q3,q4⟩:=k2 k (by omega) U;simp only[ay hk];refine ⟨J,by omega,?_,λI=>?_⟩
  .intro I;simp only[ay hk];obtain⟨k',e,r⟩:=q3 I;refine ⟨k',e,r.imp id λ⟨r1,r2,r3⟩=>⟨by omega,r2,?_⟩⟩;rw[ay (by omega)];exact r3
  .rw[ay (by omega)];exact q4 I
theorem qO.ite {l:List IT} {a j e:Nat} (h:qO l a j) (hj:(iA l j).1=5) (U:(iA l j).2.1=(e:Int)) (k:qO l (j+1) e):qO l a e:=by
 obtain⟨h1,ρ,h2⟩:=h;obtain⟨k1,σ,k2⟩:=k;refine ⟨by omega,λk=>if k<j then ρ k+(e-j) else if k=j then e-j else σ k,λk Z Y=>?_⟩;by_cases hk:k<j
 .obtain⟨J,M,q3,q4⟩:=h2 k Z hk;simp only[aF hk];refine ⟨by omega,by omega,?_,λI=>?_⟩
  .intro I;simp only[aF hk];obtain⟨k',e',r⟩:=q3 I;refine ⟨k',e',.inr ?_⟩;rcases r with r|⟨r1,r2,r3⟩
   .rw[r,ay (Cj _),aF rfl];exact⟨by omega,by omega,by omega⟩
   .rw[aF r2];exact⟨r1,by omega,by omega⟩
  .refine .inr ?_;by_cases hb:k+1<j
   .rw[aF hb];rcases q4 I with r|r<;>omega
   .rw[ay hb,aF (by omega)];omega
 .by_cases hkj:k=j
  .subst hkj;simp only[ay hk,aF];exact⟨by omega,by omega,λ_=>⟨e,U,.inl rfl⟩,λI=>by rw[hj] at I;omega⟩
  .obtain⟨J,M,q3,q4⟩:=k2 k (by omega) Y;simp only[ay hk,ay hkj];refine ⟨J,by omega,?_,λI=>?_⟩
   .intro I;simp only[ay hk,ay hkj];obtain⟨k',e',r⟩:=q3 I;refine ⟨k',e',r.imp id λ⟨r1,r2,r3⟩=>⟨by omega,r2,?_⟩⟩;rw[ay (by omega),ay (by omega)];exact r3
   .rw[ay (by omega),ay (by omega)];exact q4 I
theorem qO.whl {l:List IT} {a c j:Nat} (h:qO l a c) (hc:(iA l c).1=10) (k:qO l (c+1) j) (hj:(iA l j).1=5) (Y:(iA l j).2.1=(a:Int)):qO l a (j+1):=by
 obtain⟨h1,ρ,h2⟩:=h;obtain⟨k1,σ,k2⟩:=k;refine ⟨by omega,λk=>if k<c then ρ k+1 else if k=c then 1 else if k<j then σ k+(c-a)+2 else c-a+2,λk Z g2=>?_⟩;by_cases hk:k<c
 .obtain⟨U,M,q3,q4⟩:=h2 k Z hk;simp only[aF hk];refine ⟨by omega,by omega,?_,λI=>?_⟩
  .intro I;simp only[aF hk];obtain⟨k',e',r⟩:=q3 I;refine ⟨k',e',.inr ?_⟩;rcases r with r|⟨r1,r2,r3⟩
   .rw[r,ay (Cj _),aF rfl];exact⟨by omega,by omega,by omega⟩
   .rw[aF r2];exact⟨r1,by omega,by omega⟩
  .refine .inr ?_;by_cases hb:k+1<c
   .rw[aF hb];rcases q4 I with r|r<;>omega
   .rw[ay hb,aF (by omega)];omega
 .by_cases hkc:k=c
  .subst hkc;simp only[ay hk,aF];exact⟨by omega,by omega,λI=>by rw[hc] at I;omega,λI=>by rw[hc] at I;omega⟩
  .simp only[ay hk,ay hkc];by_cases hkj:k<j
   .obtain⟨U,M,q3,q4⟩:=k2 k (by omega) hkj;simp only[aF hkj];refine ⟨by omega,by omega,?_,λI=>?_⟩
    .intro I;simp only[ay hk,ay hkc,aF hkj];obtain⟨k',e',r⟩:=q3 I;refine ⟨k',e',.inr ?_⟩;rcases r with r|⟨r1,r2,r3⟩
     .rw[r,ay (by omega),ay (by omega),ay (Cj _)];exact⟨by omega,by omega,by omega⟩
     .rw[ay (by omega),ay (by omega),aF r2];exact⟨by omega,by omega,by omega⟩
    .refine .inr ?_;rw[ay (by omega),ay (by omega)];by_cases hb:k+1<j
     .rw[aF hb];rcases q4 I with r|r<;>omega
     .rw[ay hb];omega
   .have hkj:k=j:=by omega
    subst hkj;simp only[ay (Cj _)];refine ⟨by omega,by omega,λ_=>⟨a,Y,.inr ⟨bW _,by omega,?_⟩⟩,λI=>by rw[hj] at I;omega⟩;simp only[ay hk,ay hkc,ay (Cj _)];by_cases J:a<c
    .rw[aF J];have:=(h2 a (bW _) J).2.1;omega
    .rw[ay J,aF (by omega)];omega
def OB (nT:Nat) (i:IT):Prop:=
 if i.1=6 then 0<=i.2.2.1/\i.2.2.1<=2 else if i.1=8 then 0<=i.2.1/\i.2.1<=2 else if i.1=7 then i.2.2.1=3/\i.2.2.2.2.1=2 else if i.1=9 then i.2.1=3/\i.2.2.2.2.1=2 else if i.1=11\/i.1=12 then i.2.1=0\/i.2.1=1 else if 13<=i.1/\i.1<=16 then i.2.1=2 else if 21<=i.1/\i.1<=23 then i.2.1=0 else if i.1=24\/i.1=25 then 0<=i.2.1/\i.2.1<(nT:Int) else if i.1=26 then i.2.1=0 else if i.1=27 then i.2.2.1=0 else if i.1=4 then 6<=i.2.2.2.2.1/\i.2.2.2.2.1<=18 else ¬i.1=3
structure GO (nT:Nat) (i:IT):Prop where
 o1:1<=i.1
 o2:i.1<=27
 r:∀ j:Int,j∈iI i->0<=j/\j<32
 b:OB nT i
def SO (ss:List (Int×Int×Int)) (t s:Int):Prop:=0<=s/\s<ss.length/\(aJ (T:=xX) ss s).1=t
structure GI (nT:Nat) (ss:List (Int×Int×Int)) (t:Int) (i:IT):Prop where
 o:GO nT i
 s:SO ss t i.2.2.2.2.2
theorem Uc (l:List IT) (hl:l.length<=1000000) (h1:1<=l.length) (hb:qO l 0 (l.length-1)) (he:(iA l (l.length-1)).1=28) (k:Nat) (hk:k<l.length):pg (l,(k:Int))=af ai:=by
 obtain⟨_,ρ,hρ⟩:=hb;refine cE ?_;unfold pg bd bx iR bD aX cL aE cC;refine pZ (λx=>((l.length:Int)+1-x.2).toNat) (λx=>0<=x.2/\∃ q:Nat,x.1=(q:Int)/\q<l.length/\((if q<l.length-1 then ρ q else 0:Nat):Int)+x.2<=(l.length:Int)) ?_ ⟨by dsimp only;omega,k,rfl,hk,?_⟩
 .rintro⟨a,(n:Int)⟩ ⟨n0,q,e,hq,hr⟩;dsimp only at n0 e hr;subst e;refine eY (λ_=>?_) λg=>(by dsimp only[au] at g;omega)
  refine gy ?_;refine gy (bF (λg=>by dsimp only at g;omega) λ_=>ar ?_);refine fP (by rw[lY];dsimp only[au];omega) ?_;refine ch (aS ?_);refine aV (Fm _) ?_;refine ec (λ_=>ar rfl) λhs=>?_
  have hs:1<=(iA l q).1/\(iA l q).1<=5:=bt hs;have J:q<l.length-1:=vE λh=>by rw[show q=l.length-1 by omega] at hs;rw[he] at hs;omega
  obtain⟨r1,r2,r3,Z⟩:=hρ q (kY _) J;rw[aF J] at hr;refine ch (aS ?_);have fin:∀ I:Nat,I=l.length-1\/I<l.length-1/\ρ I<ρ q->0<=n+1/\∃ M:Nat,(I:Int)=(M:Int)/\M<l.length/\((if M<l.length-1 then ρ M else 0:Nat):Int)+(n+1)<=(l.length:Int):=λI h=>⟨by omega,I,rfl,by omega,by
   rcases h with h|⟨h,h'⟩
   .rw[ay (by omega)];omega
   .rw[aF h];omega⟩
  refine aK (λU=>?_) λU=>ar (ar ?_)
  .obtain⟨I,e,Y⟩:=r3 U;refine aR (dS _) (by dsimp only;omega) (aS (ar (ar ?_)));dsimp only;rw[ic (n:=n+1) (by omega) (by omega)];have:=fin I (Y.imp id λh=>⟨h.2.1,h.2.2⟩);rw[<- e] at this;exact⟨this,by omega⟩
  .dsimp only;have U:¬(iA l q).1=5:=U;rw[ic (n:=n+1) (by omega) (by omega),gM (by omega)];refine ⟨fin (q+1) ?_,by omega⟩;rcases Z (by omega) with h|h
   .exact .inl h
   .by_cases hb:q+1=l.length-1
    .exact .inl hb
    .exact .inr ⟨by omega,h⟩
 .dsimp only;split
  .rename_i h;have:=(hρ k (kY _) h).2.1;omega
  .omega
theorem Kt (w:WT) (I:w.1=C0):mW (w,3,2)=af ai:=by
 refine cE ?_;have h0:(0:Int)<=3:=by decide
 have h1:(3:Int)<(w.1.length:Int):=by rw[I];decide
 have J:aJ (T:=PP) w.1 3=([113],0,2,aj,0):=by rw[I];rfl
 unfold mW bd jd bD aX aE;refine gy (aV (rR _ _) (aK (λ_=>?_) λh=>(h ⟨h0,h1⟩).elim));dsimp only;rw[J];refine aR h0 h1 (aS (aK (λ_=>?_) λh=>(h rfl).elim));refine aR h0 h1 (aS (b_ (λ_=>?_) λh=>cV h (by decide)));exact aR h0 h1 (aS (ar (ar rfl)))
theorem NS {nT:Nat} (w:WT) (i:IT) (hw:WX w) (hT:w.2.2.2.2.1.length=nT) (hb:OB nT i):lz (w,i)=af ai:=by
 obtain⟨hc,hl,hd,hf,_,_,_⟩:=hw;refine cE ?_;unfold lz aY bi bw cu dU bd iR bD aX aE;unfold OB at hb;simp only[rR,WE];refine aK (λh=>?_) λn6=>?_
 .rw[aF h] at hb;have J:(aJ (T:=PP) w.1 i.2.2.1).2.2.1=(0:Int):=by
   rw[hc];rcases (by omega:i.2.2.1=0\/i.2.2.1=1\/i.2.2.1=2) with h|h|h<;>rw[h]<;>rfl
  have hi:0<=i.2.2.1/\i.2.2.1<(w.1.length:Int):=⟨hb.1,by rw[hc];have:=hb.2;show i.2.2.1<5;omega⟩
  exact gy (aK (λ_=>aR hi.1 hi.2 (aS (ar (ar (aQ J))))) λh=>(h hi).elim)
 rw[ay n6] at hb;refine aK (λh=>?_) λZ=>?_
 .rw[aF h] at hb;have J:(aJ (T:=PP) w.1 i.2.1).2.2.1=(0:Int):=by
   rw[hc];rcases (by omega:i.2.1=0\/i.2.1=1\/i.2.1=2) with h|h|h<;>rw[h]<;>rfl
  have hi:0<=i.2.1/\i.2.1<(w.1.length:Int):=⟨hb.1,by rw[hc];have:=hb.2;show i.2.1<5;omega⟩
  exact gy (aK (λ_=>aR hi.1 hi.2 (aS (ar (ar (aQ J))))) λh=>(h hi).elim)
 rw[ay Z] at hb;refine aK (λh=>?_) λn7=>?_
 .rw[aF h] at hb;rw[hb.1,hb.2];exact aV (Kt w hc) (ar rfl)
 rw[ay n7] at hb;refine aK (λh=>?_) λY=>?_
 .rw[aF h] at hb;rw[hb.1,hb.2];exact aV (Kt w hc) (ar rfl)
 rw[ay Y] at hb;refine aZ (λx=>x.2=(w,i)/\(x.1=ai↔i.1=11\/i.1=12)) (aK (λh=>ar ⟨rfl,λ_=>.inl h,λ_=>aQ h⟩) λh=>ar ⟨rfl,λh2=>.inr (bt h2),λh2=>aQ (h2.resolve_left h)⟩) ?_;rintro⟨b,x⟩ ⟨e,M⟩;dsimp only at e M;subst e;refine aP (λh=>?_) λh=>?_
 .rw[aF (M.1 h)] at hb;have J:(aJ (T:=TD) w.2.1 i.2.1).2=aj:=by
   rw[hl];rcases hb with h|h<;>rw[h]<;>rfl
  have hi:0<=i.2.1/\i.2.1<(w.2.1.length:Int):=⟨by omega,by rw[hl];show i.2.1<3;omega⟩
  exact gy (aK (λ_=>aR hi.1 hi.2 (aS (ar (ar (by dsimp only;rw[J];rfl))))) λh=>(h hi).elim)
 rw[ay λh2=>by rw[M.2 h2] at h;cases h] at hb;have hj:∀ {p:Prop} {b:Bool},(b=ai->p)->(p->b=ai)->b=aj->¬p:=λ_ h2 U I=>by rw[h2 I] at U;cases U
 refine aZ (λx=>x.2=(w,i)/\(x.1=ai->13<=i.1/\i.1<=16)/\(13<=i.1/\i.1<=16->x.1=ai)) (aK (λh=>ar ⟨rfl,λ_=>by first|omega|(dsimp only at h;omega),λ_=>aQ h⟩) λ_=>aK (λh=>ar ⟨rfl,λ_=>by first|omega|(dsimp only at h;omega),λ_=>aQ h⟩) λ_=>aK (λh=>ar ⟨rfl,λ_=>by first|omega|(dsimp only at h;omega),λ_=>aQ h⟩) λ_=>ar ⟨rfl,λh=>by have:=bt h;first|omega|(dsimp only at this;omega),λh=>aQ (by first|omega|(dsimp only at *;omega))⟩) ?_;rintro⟨b,x⟩ ⟨e,h1,h2⟩;dsimp only at e h1 h2;subst e;refine aP (λh=>?_) λh=>?_
 .rw[aF (h1 h)] at hb;have hi:0<=i.2.1/\i.2.1<(w.2.1.length:Int):=⟨by omega,by rw[hl];show i.2.1<3;omega⟩
  exact gy (aK (λ_=>aR hi.1 hi.2 (aS (ar (ar (by dsimp only;rw[hb,hl];rfl))))) λh=>(h hi).elim)
 rw[ay (hj h1 h2 h)] at hb;refine aZ (λx=>x.2=(w,i)/\(x.1=ai->21<=i.1/\i.1<=23)/\(21<=i.1/\i.1<=23->x.1=ai)) (aK (λh=>ar ⟨rfl,λ_=>by first|omega|(dsimp only at h;omega),λ_=>aQ h⟩) λ_=>aK (λh=>ar ⟨rfl,λ_=>by first|omega|(dsimp only at h;omega),λ_=>aQ h⟩) λ_=>ar ⟨rfl,λh=>by have:=bt h;first|omega|(dsimp only at this;omega),λh=>aQ (by first|omega|(dsimp only at *;omega))⟩) ?_;rintro⟨b,x⟩ ⟨e,h1,h2⟩;dsimp only at e h1 h2;subst e;refine aP (λh=>?_) λh=>?_
 .rw[aF (h1 h)] at hb;exact ar (aQ ⟨by dsimp only;omega,by dsimp only;rw[hd];show i.2.1<1;omega⟩)
 rw[ay (hj h1 h2 h)] at hb;refine aZ (λx=>x.2=(w,i)/\(x.1=ai->i.1=24\/i.1=25)/\(i.1=24\/i.1=25->x.1=ai)) (aK (λh=>ar ⟨rfl,λ_=>.inl h,λ_=>aQ h⟩) λh=>ar ⟨rfl,λh2=>.inr (bt h2),λh2=>aQ (h2.resolve_left h)⟩) ?_;rintro⟨b,x⟩ ⟨e,h1,h2⟩;dsimp only at e h1 h2;subst e;refine aP (λh=>?_) λh=>?_
 .rw[aF (h1 h)] at hb;exact ar (aQ ⟨hb.1,by dsimp only;rw[hT];exact hb.2⟩)
 rw[ay (hj h1 h2 h)] at hb;refine aK (λh=>?_) λn=>?_
 .rw[aF h] at hb;exact ar (aQ ⟨by dsimp only;omega,by dsimp only;rw[hf];show i.2.1<1;omega⟩)
 rw[ay n] at hb;refine aK (λh=>?_) λn=>?_
 .rw[aF h] at hb;exact ar (aQ ⟨by dsimp only;omega,by dsimp only;rw[hf];show i.2.2.1<1;omega⟩)
 rw[ay n] at hb;by_cases I:i.1=4
 .rw[aF I] at hb;refine aK (λh=>by have h:i.1=3:=h;omega) λ_=>aK (λ_=>?_) λh=>(h I).elim
  refine gy (eY (λ_=>ar (ar (N_.2 hb.2))) λh=>by dsimp only at h;omega)
 .rw[ay I] at hb;exact aK (λh=>(hb h).elim) λ_=>aK (λh=>(I h).elim) λ_=>ar rfl
structure GC (nT:Nat) (ss:List (Int×Int×Int)) (k:Int) (c:Int×List IT):Prop where
 r0:1<=c.1
 r1:c.1<=32
 n:1<=c.2.length
 u:c.2.length<=1000000
 e:(iA c.2 (c.2.length-1)).1=28/\(iA c.2 (c.2.length-1)).2.2.2.2.2= -1
 b:qO c.2 0 (c.2.length-1)
 i:∀ q:Nat,q<c.2.length-1->GI nT ss k (iA c.2 q)
 r:∀ q:Nat,q<c.2.length-1->(iA c.2 q).1=10->0<=(iA c.2 q).2.2.1/\(iA c.2 q).2.2.1<(c.2.length:Int)
 g:∀ q:Nat,q<c.2.length-1->∀ j:Int,j∈iI (iA c.2 q)->j<c.1
theorem D_ {nT:Nat} {w:WT} {k:Int} {c:Int×List IT} (hw:WX w) (hT:w.2.2.2.2.1.length=nT) (hc:GC nT w.2.2.2.2.2 k c):ii (w,k,c)=af ai:=by
 obtain⟨r0,r1,n1,hu,he,hb,hi,hr,hg⟩:=hc;refine cE ?_;unfold ii aY bi bw cu bK cY pU bd bx jd bD aX cL aE cC;refine aZ (λx=>x.2=(w,c)/\x.1=aj) ?_ ?_
 .refine bF (λh=>by have h:c.1<0:=h;omega) λ_=>bF (λh=>by have h:32<c.1:=h;omega) λ_=>ar ⟨rfl,bL λh=>by have h:aO c.2.length=0:=h;dsimp only[au] at h;omega⟩
 rintro⟨b,x⟩ ⟨e,Y⟩;dsimp only at e Y;subst e;subst Y;refine gz ?_;refine b9 c.2.length (λi x=>x.1=(i:Int)/\x.2=(w,c)) ?_ ?_ ⟨rfl,rfl⟩
 .rintro i ⟨a,x⟩ hi2 ⟨e1,e2⟩;dsimp only at e1 e2;subst e1;subst e2;have hla:=Uc c.2 hu n1 hb he.1 i hi2;have Z:∀ z:IT,z=iA c.2 i->(i<c.2.length-1->GI nT w.2.2.2.2.2 k z/\(z.1=10->0<=z.2.2.1/\z.2.2.1<(c.2.length:Int))/\(z.1=5->0<=z.2.1/\z.2.1<(c.2.length:Int))/\∀ j:Int,j∈iI z->j<c.1)/\(i=c.2.length-1->z.1=28/\z.2.2.2.2.2= -1):=λz Z=>by
   subst Z;refine ⟨λh=>⟨hi i h,hr i h,λh5=>?_,hg i h⟩,λh=>by rw[h];exact he⟩;obtain⟨_,ρ,hρ⟩:=hb;obtain⟨q',e,hq'⟩:=(hρ i (kY _) h).2.2.1 h5;rw[e];omega
  refine du ?_;refine ch (aS ?_);generalize hzz:(aJ (T:=Bw) c.2 (i:Int))=z;obtain⟨I,J⟩:=Z z hzz.symm;have hcs:i<c.2.length-1\/i=c.2.length-1:=by omega
  have o1:1<=z.1:=by
   rcases hcs with h|h
   .exact (I h).1.o.o1
   .rw[(J h).1];decide
  have o2:z.1<=28:=by
   rcases hcs with h|h
   .exact Int.le_trans (I h).1.o.o2 (by decide)
   .rw[(J h).1];decide
  have M:z.1=28->i=c.2.length-1:=λh=>hcs.resolve_left λg=>by have:=(I g).1.o.o2;rw[h] at this;exact cV this (by decide)
  have hob:OB nT z:=by
   rcases hcs with h|h
   .exact (I h).1.o.b
   .unfold OB;rw[(J h).1];simp
  have hrg:∀ j:Int,j∈iI z->0<=j/\j<c.1:=λj hj=>by
   rcases hcs with h|h
   .exact⟨((I h).1.o.r j hj).1,(I h).2.2.2 j hj⟩
   .unfold iI at hj;rw[(J h).1] at hj;simp at hj
  have hwr:bk .i64 (aO c.2.length-1)=((c.2.length-1:Nat):Int):=by rw[ic (by dsimp only[au];omega) (by dsimp only[au];omega)];dsimp only[au];omega
  have hcd:((decide (z.1=28)==decide ((i:Int)=bk .i64 (aO c.2.length-1))) !=ai)=aj:=by
   rw[hwr];rcases hcs with h|h
   .rw[bL λh2=>by have:=M h2;omega,bL (by omega:¬(i:Int)=((c.2.length-1:Nat):Int))];rfl
   .rw[aQ (J h).1,aQ (by omega:(i:Int)=((c.2.length-1:Nat):Int))];rfl
  refine aZ (λx=>x=(aj,w,c,z)) ?_ ?_
  .refine bF (λh=>cV h (Cf.2 o1)) λ_=>bF (λh=>cV h (Cf.2 o2)) λ_=>fP hcd ?_
   refine aV (NS w z hw hT hob) (fP rfl (aV hla (ar rfl)))
  rintro x rfl;refine gz (aZ (λx=>x=(aj,w,c,z)) ?_ ?_)
  .simp only[rR,WE];refine aK (λh=>?_) λh=>?_
   .have h5:=(J (M h)).2;exact b_ (λg=>(g h5).elim) λ_=>b_ (λg=>(g h).elim) λ_=>ar rfl
   .have hsi:=(I (hcs.resolve_right λg=>h (J g).1)).1.s;refine b_ (λ_=>b_ (λg=>(g ⟨hsi.1,hsi.2.1⟩).elim) λg=>aR g.1 g.2 (aS (ar ?_))) λg=>(h g).elim
    rw[aQ hsi.2.2];rfl
  rintro x rfl;refine gz (aZ (λx=>x=(aj,w,c,z)) ?_ ?_)
  .simp only[rR,WE];have U:z.1=5\/z.1=10->i<c.2.length-1:=λh=>hcs.resolve_right λg=>by rw[(J g).1] at h;exact cV h (by decide)
   refine aK (λh=>?_) λh=>?_
   .have h2:=(I (U (.inl h))).2.2.1 h;refine b_ (λg=>(g h2).elim) λ_=>aK (λg=>?_) λ_=>ar rfl
    rw[h] at g;exact cV g (by decide)
   .refine aK (λg=>ar ?_) λ_=>ar rfl
    have h2:=(I (U (.inr g))).2.1 g;rw[aQ (show 0<=z.2.2.1/\z.2.2.1<aO c.2.length from h2)];rfl
  rintro x rfl;refine gz (aV (tK z) ?_);have hrl:=CC z;refine b9 (iI z).length (λj x=>x=((j:Int),w,c)) ?_ ?_ rfl
  .rintro j x hj rfl;refine du ?_;refine ch (aS ?_);refine aV (rR _ _) (b_ (λg=>(g (hrg _ (bH (T:=.int .i64) (xs:=iI z) (j:=(j:Int)) (by omega) (by omega)))).elim) λ_=>ar ?_);dsimp only;rw[gM (by omega)]
  .rintro x rfl;exact dv (ar ⟨gM (by omega),rfl⟩)
 .rintro⟨a,x⟩ ⟨e1,e2⟩;dsimp only at e1 e2;subst e1;subst e2;exact dv (ar rfl)
abbrev GN:Type:=List (List UInt8×Int×Int×Bool×Int)×List (List UInt8×Bool)×List (List UInt8×Int)×List (List UInt8)×List (List UInt8)×List (Int×Int×Int)×List (List UInt8)×Int×Int
theorem MA (l:List (List UInt8×Bool)) (s:List UInt8) (hl:l.length<=1000):Ok (j_ (l,s)) λr=> -1<=r/\r<l.length/\(0<=r->(aJ (T:=TD) l r).1=s)/\(r<0->∀ c∈l,c.1≠s):=by
 unfold j_ bx bD aX cL aE cC;refine b9 l.length (λi x=>x=(i:Int)/\∀ k:Nat,k<i->(aJ (T:=TD) l (k:Int)).1≠s) ?_ ?_ ⟨rfl,λk hk=>by omega⟩
 .rintro i x hi ⟨rfl,I⟩;refine du ?_;refine ch (aS ?_);refine aK (λh=>ar ⟨by omega,by omega,λ_=>h,λh=>by omega⟩) λh=>ar ⟨gM (by omega),λk hk=>?_⟩
  rcases bZ k i with h1|h1
  .exact I k h1
  .rw[show k=i by omega];exact h
 .rintro x ⟨rfl,I⟩;exact dv (ar ⟨by omega,by omega,λh=>by omega,λ_=>im (T:=TD) (p:=λc=>c.1≠s) I⟩)
theorem agz {r:Int} {s:List UInt8} (h: -1<=r/\r<GA.length/\(0<=r->(aJ (T:=TD) GA r).1=s)/\(r<0->∀ c∈GA,c.1≠s)):(s=[109]->r=0)/\(s=[110]->r=1)/\(s=[114]->r=2):=by
 obtain⟨h0,h1,h2,I⟩:=h;have h1:r<3:=h1;rcases (by omega:r= -1\/r=0\/r=1\/r=2) with rfl|rfl|rfl|rfl
 .have I:=I (by decide);exact⟨λh=>(I ([109],aj) (by decide) h.symm).elim,λh=>(I ([110],aj) (by decide) h.symm).elim,λh=>(I ([114],ai) (by decide) h.symm).elim⟩
 .have h2:[109]=s:=h2 (by decide);subst h2;exact⟨λ_=>rfl,λh=>(by cases h),λh=>(by cases h)⟩
 .have h2:[110]=s:=h2 (by decide);subst h2;exact⟨λh=>(by cases h),λ_=>rfl,λh=>(by cases h)⟩
 .have h2:[114]=s:=h2 (by decide);subst h2;exact⟨λh=>(by cases h),λh=>(by cases h),λ_=>rfl⟩
theorem Am (w:WT) (s:List UInt8) (J:w.1=C0):Ok (lj (w,s)) λr=>(s∈NV->s∉L0->0<=r/\r<=2)/\(s=[113]->r=3):=by
 have hl:w.1.length=5:=by rw[J];rfl
 unfold lj bx bD aX cL aE cC;refine b9 w.1.length (λi x=>x.1=(i:Int)/\x.2=w/\∀ k:Nat,k<i->(aJ (T:=PP) w.1 (k:Int)).1≠s) ?_ ?_ ⟨rfl,rfl,λk hk=>by omega⟩
 .rintro i ⟨a,x⟩ hi ⟨e1,e2,e3⟩;dsimp only at e1 e2 e3;subst e1;have e2:=e2.symm;subst e2;refine du ?_;refine ch (aS ?_);refine aK (λh=>ar ?_) λg=>ar ?_
  .rw[J] at h e3;rw[hl] at hi;rcases (by omega:i=0\/i=1\/i=2\/i=3\/i=4) with rfl|rfl|rfl|rfl|rfl
   .have h:[120]=s:=h;subst h;exact⟨λ_ _=>⟨by dsimp only;omega,by dsimp only;omega⟩,λh=>(by cases h)⟩
   .have h:[121]=s:=h;subst h;exact⟨λ_ _=>⟨by dsimp only;omega,by dsimp only;omega⟩,λh=>(by cases h)⟩
   .have h:[118]=s:=h;subst h;exact⟨λ_ _=>⟨by dsimp only;omega,by dsimp only;omega⟩,λh=>(by cases h)⟩
   .have h:[113]=s:=h;subst h;exact⟨λh=>cV h (by decide),λ_=>rfl⟩
   .have h:[113]=s:=h;exact (e3 3 (by omega) h).elim
  .refine ⟨gM (by omega),rfl,λk hk=>?_⟩;rcases bZ k i with h1|h1
   .exact e3 k h1
   .rw[show k=i by omega];exact g
 .rintro⟨a,x⟩ ⟨e1,e2,e3⟩;dsimp only at e1 e2 e3;subst e1;have e2:=e2.symm;subst e2;refine dv (ar ?_);have hn:=im (T:=PP) (p:=λc=>c.1≠s) e3;rw[J] at hn;have a1:=hn ([120],0,0,aj,0) (by decide);have a2:=hn ([121],0,0,aj,1) (by decide);have a3:=hn ([118],0,0,ai,0) (by decide);have M:=hn ([113],0,2,aj,0) (by decide);refine ⟨λh I=>?_,λh=>(M h.symm).elim⟩;simp only[bm,ct,f_,L0] at h I;rcases h with rfl|rfl|rfl|rfl|rfl
  .exact (I (.inl rfl)).elim
  .exact (I (.inr rfl)).elim
  .exact (a1 rfl).elim
  .exact (a2 rfl).elim
  .exact (a3 rfl).elim
theorem Ib (i:IT) (g:GN) (out:List IT) (h:out.length<=100000000):Ok (cB (i,g,out)) λy=>y.1=g/\y.2=out++[(i.1,i.2.1,i.2.2.1,i.2.2.2.1,i.2.2.2.2.1,g.2.2.2.2.2.2.2.1)]:=by
 unfold cB aY bi bw kC bB;exact bg (by simp;omega) (by omega) (ar ⟨rfl,rfl⟩)
def VE:Nat->Nat
 |0=>0
 |d+1=>1+2*VE d
theorem IJ {l m:List IT} {k:Nat} (h:k<l.length):iA (l++m) k=iA l k:=by
 unfold iA;rw[zg,zg,aA,aA,bO h]
theorem xx (l:List IT) (x:IT):iA (l++[x]) l.length=x:=by
 unfold iA;rw[zg,aA,b7 (bW _)];simp
structure QC (nT:Nat) (ss:List (Int×Int×Int)) (t:Int) (n:Nat) (out o:List IT):Prop where
 l:out.length<=o.length
 u:o.length<=out.length+n
 p:∀ k:Nat,k<out.length->iA o k=iA out k
 b:qO o out.length o.length
 i:∀ k:Nat,out.length<=k->k<o.length->GI nT ss t (iA o k)
 r:∀ k:Nat,out.length<=k->k<o.length->(iA o k).1=10->0<=(iA o k).2.2.1/\(iA o k).2.2.1<=(o.length:Int)
variable {nT:Nat} {ss:List (Int×Int×Int)} {t:Int}
theorem QC.nil (n:Nat) (out:List IT):QC nT ss t n out out:=⟨bW _,by omega,λ_ _=>rfl,qO.nil _ _,λk h1 h2=>by omega,λk h1 h2=>by omega⟩
theorem QC.trans {a b c:Nat} {x y z:List IT} (h:QC nT ss t a x y) (k:QC nT ss t b y z) (hc:a+b<=c):QC nT ss t c x z:=by
 obtain⟨h1,h2,h3,h4,h5,h6⟩:=h;obtain⟨k1,k2,I,k4,Z,Y⟩:=k;refine ⟨by omega,by omega,λq hq=>(I q (by omega)).trans (h3 q hq),(h4.congr λq _ hq=>I q hq).app k4,λq U M=>?_,λq U M J=>?_⟩
 .by_cases hq:q<y.length
  .rw[I q hq];exact h5 q U hq
  .exact Z q (by omega) M
 .by_cases hq:q<y.length
  .rw[I q hq] at J ⊢;have:=h6 q U hq J;omega
  .exact Y q (by omega) M J
theorem QC.one {out:List IT} {i:IT} (h:GI nT ss t i) (I:¬i.1=5/\¬i.1=10):QC nT ss t 1 out (out++[i]):=by
 have hl:(out++[i]).length=out.length+1:=by rw[bu];rfl
 refine ⟨by omega,by omega,λk hk=>IJ hk,?_,λk h1 h2=>?_,λk h1 h2 J=>?_⟩
 .rw[hl];exact qO.one (by rw[xx];exact I.1)
 .rw[show k=out.length by omega,xx];exact h
 .rw[show k=out.length by omega,xx] at J;exact (I.2 J).elim
structure GK (ss:List (Int×Int×Int)) (t:Int) (g:GN):Prop where
 c:g.1=C0
 l:g.2.2.2.2.2.2.1=L0
 s:SO ss t g.2.2.2.2.2.2.2.1
theorem Ym {nT:Nat} {op A B C N Z:Int} (h1:1<=op) (h2:op<=27) (hr:∀ j:Int,j∈iI (op,A,B,C,N,Z)->0<=j/\j<32) (hb:OB nT (op,A,B,C,N,Z)):GO nT (op,A,B,C,N,Z):=⟨h1,h2,hr,hb⟩
theorem Ee {op:Int} {r:Int×Int×Int×Int×Int} {g:GN} {out:List IT} (h:out.length<=100000000) (hg:GK ss t g) (hi:GO nT (op,r)) (J:¬op=5/\¬op=10):Ok (cB ((op,r),g,out)) λy=>y.1=g/\QC nT ss t 1 out y.2:=(Ib (op,r) g out h).mono λy I=>⟨I.1,by rw[I.2];exact QC.one ⟨⟨hi.o1,hi.o2,hi.r,hi.b⟩,hg.s⟩ J⟩
theorem MI:∀ (n d:Nat),d<n->∀ (e:Xp) (k:Int) (g:GN) (out:List IT),GE d e->GK ss t g->0<=k->k+d<=31->out.length+VE d<=100000000->Ok (iE n ((e,k),g,out)) λy=>y.1=g/\QC nT ss t (VE d) out y.2
 |0,_,h,_,_,_,_,_,_,_,_,_=>by omega
 |n+1,0,_,e,_,_,_,h,_,_,_,_=>h.elim
 |n+1,d+1,hn,e,k,g,out,h,hg,k0,k1,hb=>by
  obtain⟨h1,h2,h3,h4,h5,h6⟩:=h;obtain⟨gc,gl,gs⟩:=id hg;have hv:VE (d+1)=1+2*VE d:=rfl;rw[AA];unfold qx aY bi bw cu dU bd iR bB bD aE cC;refine aZ (λy=>y.1=g/\QC nT ss t (VE (d+1)) out y.2) ?_ λx hx=>ar hx
  have fin:∀ {y:GN×List IT},(y.1=g/\QC nT ss t 1 out y.2)->y.1=g/\QC nT ss t (VE (d+1)) out y.2:=λh=>⟨h.1,(QC.nil 0 out).trans h.2 (by omega)⟩
  refine aK (λ_=>?_) λn1=>?_
  .refine ax (Ee (nT:=nT) (by omega) hg (Ym (by decide) (by decide) (by simp[iI];omega) ((by decide:¬(1:Int)=3))) (by decide)) λy I=>bf (by simp) (ar (fin I))
  refine aK (λZ=>?_) λZ=>?_
  .refine ax (yC _ _ (by dsimp only;rw[gl];decide)) λv hv=>eY (λg0=>?_) λg0=>?_
   .have J:=hv.2.1;dsimp only at J g0;rw[gl] at J;have J:v<2:=J;refine ax (Ee (nT:=nT) (by omega) hg (Ym (by decide) (by decide) (by simp[iI];omega) ((by decide:¬(2:Int)=3))) (by decide)) λy I=>bf (by simp) (ar (fin I))
   .have J:=hv.2.2.2 g0;dsimp only at J;rw[gl] at J;refine ax (Am _ _ gc) λv Y=>?_
    have v2:=Y.1 (h5 Z) J;refine ax (Ee (nT:=nT) (by omega) hg (Ym (by decide) (by decide) (by simp[iI];omega) (v2)) (by decide)) λy I=>bf (by simp) (ar (fin I))
  have hl:=h2 n1 Z;have hrec:∀ (j:Nat),j<e.l.length->∀ (k':Int) (o:List IT),0<=k'->k'+d<=31->o.length+VE d<=100000000->Ok (iE n ((aJ (T:=.ex) e.l (j:Int),k'),g,o)) λy=>y.1=g/\QC nT ss t (VE d) o y.2:=λj hj k' o q0 U ho=>MI n d (by omega) _ k' g o (h4 _ (bH (T:=.ex) (xs:=e.l) (j:=(j:Int)) (by omega) (by omega))) hg q0 U ho
  refine aK (λn3=>?_) λn3=>?_
  .refine ch (aS ?_);refine ax (hrec 0 hl k out k0 (by omega) (by omega)) λy I=>?_
   obtain⟨g2,o2⟩:=y;obtain⟨U,M⟩:=I;dsimp only at U M;subst U;have q3:=M.u;refine bf (by simp) ?_;refine ax (Am _ _ gc) λv Y=>?_
   have v3:=Y.2 (h1 n3);have v3:v=3:=v3;subst v3;refine aR (by decide) (by dsimp only;rw[gc];decide) (aS ?_);refine ax (Ee (nT:=nT) (by omega) hg (Ym (by decide) (by decide) (by simp[iI];omega) (⟨rfl,by dsimp only;rw[gc];rfl⟩)) (by decide)) λy I=>bf (by simp) (ar ⟨I.1,M.trans I.2 (by omega)⟩)
  obtain⟨h7,h8,h9⟩:=h6 n1 Z n3;refine aK (λn4=>?_) λn4=>?_
  .dsimp only[au] at n4;omega
  .have hl2:1<e.l.length:=by omega
   refine ch (aS ?_);refine ax (hrec 0 hl k out k0 (by omega) (by omega)) λy I=>?_
   obtain⟨g2,o2⟩:=y;obtain⟨U,M⟩:=I;dsimp only at U M;subst U;have q3:=M.u;refine bf (by simp) ?_;refine ch (aS ?_);dsimp only;rw[ic (n:=k+1) (by omega) (by omega)];refine ax (hrec 1 hl2 _ o2 (by omega) (by omega) (by omega)) λy I=>?_
   obtain⟨g3,o3⟩:=y;obtain⟨r1,r2⟩:=I;dsimp only at r1 r2;subst r1;have r3:=r2.u;refine bf (by simp) ?_;refine ax (Ee (nT:=nT) (by omega) hg (Ym (by decide) (by decide) (by simp[iI];omega) (⟨h8,h9⟩)) (by decide)) λy I=>bf (by simp) (ar ⟨I.1,(M.trans r2 (bW _)).trans I.2 (by omega)⟩)
theorem Tz (e:Xp) (k:Int) (g:GN) (out:List IT) (he:GE 4 e) (hg:GK ss t g) (I:0<=k) (k1:k<=27) (h:out.length<=99999900):Ok (iD ((e,k),g,out)) λy=>y.1=g/\QC nT ss t 15 out y.2:=MI fuel 4 (by rw[jP];omega) e k g out he hg I (by omega) (by have:VE 4=15:=rfl;omega)
structure GB (nT:Nat) (g:GN):Prop where
 c:g.1=C0
 l:g.2.1=GA
 d:g.2.2.1=Mf
 f:g.2.2.2.1=S_
 t:g.2.2.2.2.1=v7.take nT
 h:g.2.2.2.2.2.2.1=L0
structure GQ (g y:GN):Prop where
 a:y.1=g.1
 b:y.2.1=g.2.1
 c:y.2.2.1=g.2.2.1
 d:y.2.2.2.1=g.2.2.2.1
 e:y.2.2.2.2.1=g.2.2.2.2.1
 h:y.2.2.2.2.2.2.1=g.2.2.2.2.2.2.1
theorem GQ.refl (g:GN):GQ g g:=⟨rfl,rfl,rfl,rfl,rfl,rfl⟩
theorem GQ.trans {a b c:GN} (h:GQ a b) (k:GQ b c):GQ a c:=⟨k.a.trans h.a,k.b.trans h.b,k.c.trans h.c,k.d.trans h.d,k.e.trans h.e,k.h.trans h.h⟩
variable {nT:Nat} {ss:List (Int×Int×Int)} {t:Int}
theorem GB.of {g y:GN} (h:GB nT g) (q:GQ g y):GB nT y:=⟨q.a.trans h.c,q.b.trans h.l,q.c.trans h.d,q.d.trans h.f,q.e.trans h.t,q.h.trans h.h⟩
theorem GQ.site (g:GN) (x:List (Int×Int×Int)) (a b:Int):GQ g (g.1,g.2.1,g.2.2.1,g.2.2.2.1,g.2.2.2.2.1,x,g.2.2.2.2.2.2.1,a,b):=⟨rfl,rfl,rfl,rfl,rfl,rfl⟩
abbrev gS (g:GN):Int:=g.2.2.2.2.2.2.2.1
abbrev gN (g:GN):Int:=g.2.2.2.2.2.2.2.2
structure QG (nT:Nat) (ss:List (Int×Int×Int)) (t:Int) (n m:Nat) (g:GN) (out:List IT) (y:GN×List IT):Prop where
 q:GQ g y.1
 c:QC nT ss t n out y.2
 x:gN y.1=gN g+(m:Int)
theorem xk {op:Int} {r:Int×Int×Int×Int×Int} {g:GN} {out:List IT} (h:out.length<=100000000) (hg:GB nT g) (hs:SO ss t (gS g)) (hi:GO nT (op,r)) (I:¬op=5/\¬op=10):Ok (cB ((op,r),g,out)) λy=>y.1=g/\QC nT ss t 1 out y.2:=Ee h ⟨hg.c,hg.h,hs⟩ hi I
theorem Co (e:Xp) (k:Int) (g:GN) (out:List IT) (he:GE 4 e) (hg:GB nT g) (hs:SO ss t (gS g)) (I:0<=k) (k1:k<=27) (h:out.length<=99999000):Ok (iD ((e,k),g,out)) λy=>y.1=g/\QC nT ss t 15 out y.2:=Tz e k g out he ⟨hg.c,hg.h,hs⟩ I k1 (by omega)
theorem GB.len {g:GN} (h:GB nT g):aO (al g.2.2.2.2.2.2.1)=2:=by rw[h.h];rfl
theorem VP (s:Sx) (g:GN) (out:List IT) (h1:s.index≠[]->s.name=[113]) (h2:∀ e∈s.index,GE 4 e) (h3:GE 4 s.expr) (h4:s.index=[]->s.name∈NV) (hg:GB nT g) (hs:SO ss t (gS g)) (h:out.length<=99990000):Ok (lQ (s,g,out)) λy=>y.1=g/\QC nT ss t 40 out y.2:=by
 have hex:GE 4 (dZ (Xp.op s.expr,Xp.n s.expr,Xp.name s.expr,Xp.l s.expr)):=by rw[fg];exact h3
 have e3:bk .i64 ((2:Int)+1)=3:=ic (by decide) (by decide);unfold lQ aY bi bw cu dU bx iR bB bD aX;refine bF (λJ=>?_) λJ=>?_
 .dsimp only[au] at J;refine ch (aS ?_);refine ax (Co _ _ g out (h2 _ (bH (T:=.ex) (xs:=s.index) (j:=0) (by omega) (by omega))) hg hs (by rw[hg.len];decide) (by rw[hg.len];decide) (by omega)) λy I=>?_
  obtain⟨g2,o2⟩:=y;obtain⟨Y,U⟩:=I;dsimp only at Y U;subst Y;have q3:=U.u;refine bf (by simp) ?_;dsimp only;rw[hg.len,e3];refine ax (Co _ _ g2 o2 hex hg hs (by decide) (by decide) (by omega)) λy I=>?_
  obtain⟨g3,o3⟩:=y;obtain⟨r1,r2⟩:=I;dsimp only at r1 r2;subst r1;have r3:=r2.u;refine bf (by simp) ?_;refine ax (Am _ _ hg.c) λv hv=>?_
  have Z:=hv.2 (h1 (λh=>by rw[h] at J;simp at J));have Z:v=3:=Z;subst Z;refine aR (by decide) (by dsimp only;rw[hg.c];decide) (aS ?_);refine ax (xk (by omega) hg hs (Ym (by decide) (by decide) (by simp[iI,hg.h,L0]) (⟨rfl,by dsimp only;rw[hg.c];rfl⟩)) (by decide)) λy I=>bf (by simp) (ar ⟨I.1,(U.trans r2 (bW _)).trans I.2 (by omega)⟩)
 .have hi0:s.index=[]:=gH.1 (by dsimp only[au] at J;omega);refine ax (Co _ _ g out hex hg hs (by rw[hg.len];decide) (by rw[hg.len];decide) (by omega)) λy I=>?_
  obtain⟨g2,o2⟩:=y;obtain⟨Y,U⟩:=I;dsimp only at Y U;subst Y;have q3:=U.u;refine bf (by simp) ?_;refine ax (yC _ _ (by dsimp only;rw[hg.h];decide)) λv hv=>eY (λJ=>?_) λJ=>?_
  .have M:=hv.2.1;dsimp only at M J;rw[hg.h] at M;have M:v<2:=M;refine ax (xk (by omega) hg hs (Ym (by decide) (by decide) (by simp[iI,hg.h,L0];omega) ((by decide:¬(2:Int)=3))) (by decide)) λy I=>bf (by simp) (ar ⟨I.1,U.trans I.2 (by omega)⟩)
  .have M:=hv.2.2.2 J;dsimp only at M;rw[hg.h] at M;refine ax (Am _ _ hg.c) λv hv2=>?_
   have v2:=hv2.1 (h4 hi0) M;refine ax (xk (by omega) hg hs (Ym (by decide) (by decide) (by simp[iI,hg.h,L0]) (v2)) (by decide)) λy I=>bf (by simp) (ar ⟨I.1,U.trans I.2 (by omega)⟩)
theorem abo (s:List UInt8) (g:GN) (out:List IT) (hg:GB nT g):Ok (jq (s,g,out)) λy=>y.2=(g,out)/\(s=[99]->y.1=0):=by
 have hd:g.2.2.1.length=1:=by rw[hg.d];rfl
 unfold jq aY bx bD aX cL aE cC;refine b9 1 (λi x=>x.1=(i:Int)/\x.2=(g,out)/\(s=[99]->i=0)) ?_ ?_ ⟨rfl,rfl,λ_=>rfl⟩
 .rintro i ⟨a,x⟩ hi ⟨e1,e2,e3⟩;dsimp only at e1 e2 e3;subst e1;subst e2;refine du ?_;refine ch (aS ?_);refine aK (λ_=>ar ⟨rfl,λ_=>by dsimp only;omega⟩) λh=>ar ⟨gM (by omega),rfl,λh2=>?_⟩
  refine (h ?_).elim;dsimp only;rw[hg.d,show i=0 by omega,h2];rfl
 .rintro⟨a,x⟩ ⟨e1,e2,e3⟩;dsimp only at e1 e2 e3;subst e1;subst e2;exact dv (ar ⟨rfl,λh=>by have:=e3 h;omega⟩)
def ME:Nat->Nat
 |0=>0
 |d+1=>50+16*ME d
def SR (ss:List (Int×Int×Int)) (t a:Int) (m:Nat):Prop:=0<=a/\a+m<=1000/\∀ i:Int,a<=i->i<a+m->SO ss t i
def SpG (nT:Nat) (ss:List (Int×Int×Int)) (t:Int) (I:Sx×GN×List IT->Option (GN×List IT)) (d:Nat):Prop:=∀ (s:Sx) (g:GN) (out:List IT),GS nT d s->GB nT g->SR ss t (gN g) (PF d s)->out.length+ME d<=90000000->Ok (I (s,g,out)) (QG nT ss t (ME d) (PF d s) g out)
def acl (nT:Nat) (ss:List (Int×Int×Int)) (t:Int) (rs:List Sx×GN×List IT->Option (GN×List IT)) (d:Nat):Prop:=∀ (l:List Sx) (g:GN) (out:List IT),l.length<=100->(∀ s∈l,GS nT d s)->GB nT g->SR ss t (gN g) (nu d l)->out.length+l.length*ME d<=90000000->Ok (rs (l,g,out)) (QG nT ss t (l.length*ME d) (nu d l) g out)
abbrev FS6:Type:=List Sx×GN×List IT->Option (GN×List IT)
abbrev FT6:Type:=Sx×GN×List IT->Option (GN×List IT)
abbrev FA6:Type:=(Sx×Int×Int×Int)×GN×List IT->Option (GN×List IT)
variable {nT:Nat} {ss:List (Int×Int×Int)} {t:Int}
def aji (nT:Nat) (ss:List (Int×Int×Int)) (t:Int) (I:FT6) (d:Nat):Prop:=∀ (s:Sx) (g:GN) (out:List IT),s.op=2\/s.op=3->GE 4 s.expr->s.body.length<=8->s.els.length<=8->(∀ x∈s.body,GS nT d x)->(∀ x∈s.els,GS nT d x)->(¬s.op=2->s.els=[])->GB nT g->SO ss t (gS g)->SR ss t (gN g) (nu d s.body+nu d s.els)->out.length+ME (d+1)<=90000000->Ok (I (s,g,out)) (QG nT ss t (17+16*ME d) (nu d s.body+nu d s.els) g out)
def ajj (nT:Nat) (ss:List (Int×Int×Int)) (t:Int) (ra:FA6) (d:Nat):Prop:=∀ (s:Sx) (a b c:Int) (g:GN) (out:List IT),s.body.length<=8->(∀ x∈s.body,GS nT d x)->GO nT (a,c,0,0,0,0)->GO nT (b,c,0,0,0,0)->¬a=5/\¬a=10->¬b=5/\¬b=10->GB nT g->SO ss t (gS g)->SR ss t (gN g) (nu d s.body)->out.length+ME (d+1)<=90000000->Ok (ra ((s,a,b,c),g,out)) (QG nT ss t (17+16*ME d) (nu d s.body) g out)
theorem SR.sub {a b:Int} {m n:Nat} (h:SR ss t a m) (h1:a<=b) (h2:b+n<=a+m):SR ss t b n:=⟨by have:=h.1;omega,by have:=h.2.1;omega,λi J I=>h.2.2 i (by omega) (by omega)⟩
theorem UQ (rs:FS6) (U:FT6) (Z:FT6) (ra:FA6) (d:Nat) (ht:SpG nT ss t U d):acl nT ss t (qy rs U Z ra) d:=by
 intro l g out hl hs hg hso hb;unfold qy bx bB bD aX cL aE cC;refine b9 l.length (λi x=>x.1=(i:Int)/\QG nT ss t (i*ME d) (nu d (l.take i)) g out x.2) ?_ ?_ ⟨rfl,GQ.refl g,QC.nil _ _,by simp[nu]⟩
 .rintro i ⟨a,Y,o2⟩ hi ⟨e1,J,I,q3⟩;dsimp only at e1 J I q3;subst e1;have hK:(i+1)*ME d<=l.length*ME d:=cG _ (by omega);have hKs:=iM i (ME d);rw[Nat.succ_eq_add_one] at hKs;have hp:=O2 (d:=d) l (i+1);rw[wS hi] at hp;have q4:=I.u;refine du ?_;refine ch (aS ?_);refine ax (ht _ Y o2 (hs _ (bH (T:=.sm) (xs:=l) (j:=(i:Int)) (by omega) (by omega))) (hg.of J) (hso.sub (by rw[q3];omega) (by rw[q3];dsimp only;omega)) (by omega)) λy M=>bf (by simp) (ar ?_)
  rw[wS hi];exact⟨gM (by omega),J.trans M.q,I.trans M.c (by omega),by rw[M.x,q3];dsimp only;omega⟩
 .rintro⟨a,Y,o2⟩ ⟨e1,q⟩;dsimp only at e1;subst e1;rw[cP] at q;exact dv (ar q)
theorem Rb (rs:FS6) (rt:FT6) (rb:FT6) (ra:FA6) (d:Nat) (hS:acl nT ss t rs d):ajj nT ss t (oV rs rt rb ra) d:=by
 intro s a b c g out h1 h2 ga gb na nb hg hs hso hb;have hm:ME (d+1)=50+16*ME d:=rfl;have kb:s.body.length*ME d<=8*ME d:=cG _ h1;unfold oV aY bi bw cu dU kC bK pU bB;refine ax (xk (by omega) hg hs ga na) λy I=>?_
 obtain⟨Z,o2⟩:=y;obtain⟨Y,J⟩:=I;dsimp only at Y J;subst Y;have q3:=J.u;refine bf (by simp) ?_;refine ax (hS s.body Z o2 (by omega) h2 hg hso (by omega)) λy I=>?_
 obtain⟨M,o3⟩:=y;obtain⟨r1,r2,r3⟩:=I;dsimp only at r1 r2 r3;have r4:=r2.u;refine bf (by simp) ?_;have U:=r1.trans (GQ.site M M.2.2.2.2.2.1 Z.2.2.2.2.2.2.2.1 M.2.2.2.2.2.2.2.2);refine ax (xk (by dsimp only;omega) (hg.of U) hs gb nb) λy I=>bf (by simp) (ar ⟨?_,?_,?_⟩)
 .rw[I.1];exact U
 .exact (J.trans r2 (bW _)).trans I.2 (by omega)
 .rw[I.1];exact r3
theorem y_ {l:List IT} {j k:Nat} {x:IT} (h:j<l.length):iA (cQ l (j:Int) x) k=if k=j then x else iA l k:=I9 (T:=Bw) l j k x h
abbrev ptB (l:List IT) (j:Nat) (b:Int):List IT:=cQ l (j:Int) ((iA l j).1,(iA l j).2.1,b,(iA l j).2.2.2.1,(iA l j).2.2.2.2.1,(iA l j).2.2.2.2.2)
abbrev ptA (l:List IT) (j:Nat) (a:Int):List IT:=cQ l (j:Int) ((iA l j).1,a,(iA l j).2.2.1,(iA l j).2.2.2.1,(iA l j).2.2.2.2.1,(iA l j).2.2.2.2.2)
theorem GI.pb {i:IT} {b:Int} (h:GI nT ss t i) (h1:i.1=10):GI nT ss t (i.1,i.2.1,b,i.2.2.2.1,i.2.2.2.2.1,i.2.2.2.2.2):=by
 obtain⟨Z,Y,U,M,J,I⟩:=i;dsimp only at h1;subst h1;exact⟨⟨h.o.o1,h.o.o2,h.o.r,(by decide:¬(10:Int)=3)⟩,h.s⟩
theorem QC.cbr {n m:Nat} {out o1 o2 I:List IT} {br:IT} (h1:QC nT ss t n out o1) (h2:o2=o1++[br]) (hb:GI nT ss t br) (U:br.1=10) (M:QC nT ss t m o2 I) (F:List IT) (hl:I.length<=F.length) (Y:∀ k:Nat,k<I.length->¬k=o1.length->iA F k=iA I k) (hFb:∃ b:Int,(0<=b/\b<=(F.length:Int))/\iA F o1.length=(br.1,br.2.1,b,br.2.2.2.1,br.2.2.2.2.1,br.2.2.2.2.2)):(∀ k:Nat,k<out.length->iA F k=iA out k)/\qO F out.length o1.length/\(iA F o1.length).1=10/\qO F (o1.length+1) I.length/\(∀ k:Nat,out.length<=k->k<I.length->GI nT ss t (iA F k))/\∀ k:Nat,out.length<=k->k<I.length->(iA F k).1=10->0<=(iA F k).2.2.1/\(iA F k).2.2.1<=(F.length:Int):=by
 have l2:o2.length=o1.length+1:=by rw[h2,bu];rfl
 have l1:=h1.l;have l3:=M.l;have e1:∀ k:Nat,k<o1.length->iA F k=iA o1 k:=λk hk=>by rw[Y k (by omega) (by omega),M.p k (by omega),h2,IJ hk]
 obtain⟨b,hb0,eb⟩:=hFb;refine ⟨λk hk=>(e1 k (by omega)).trans (h1.p k hk),h1.b.congr λk _ hk=>e1 k hk,by rw[eb];exact U,?_,λk g1 J=>?_,λk g1 J Z=>?_⟩
 .have:=M.b;rw[l2] at this;exact this.congr λk g1 J=>Y k J (by omega)
 .rcases Nu k o1.length with hk|hk|hk
  .rw[e1 k hk];exact h1.i k g1 hk
  .rw[hk,eb];exact hb.pb U
  .rw[Y k J (by omega)];exact M.i k (by omega) J
 .rcases Nu k o1.length with hk|hk|hk
  .rw[e1 k hk] at Z ⊢;have:=h1.r k g1 hk Z;omega
  .rw[hk,eb];exact hb0
  .rw[Y k J (by omega)] at Z ⊢;have:=M.r k (by omega) J Z;omega
theorem LG (rs:FS6) (rt:FT6) (rb:FT6) (ra:FA6) (d:Nat) (hS:acl nT ss t rs d):aji nT ss t (mq rs rt rb ra) d:=by
 intro s g out hop he h1 h2 h3 h4 hel hg hs hso hb;have hm:ME (d+1)=50+16*ME d:=rfl;have kb:s.body.length*ME d<=8*ME d:=cG _ h1;have ke:s.els.length*ME d<=8*ME d:=cG _ h2;have hex:GE 4 (dZ (Xp.op s.expr,Xp.n s.expr,Xp.name s.expr,Xp.l s.expr)):=by rw[fg];exact he
 unfold mq aY bi bw cu dU kC pU ck bd bB aX;refine ax (Co _ _ g out hex hg hs (by rw[hg.len];decide) (by rw[hg.len];decide) (by omega)) λy hy=>?_
 obtain⟨Y,o1⟩:=y;obtain⟨p1,p2⟩:=hy;dsimp only at p1 p2;subst p1;have p3:=p2.u;have p4:=p2.l;refine bf (by simp) ?_;refine ax (Ib _ Y o1 (by omega)) λy hy=>?_
 obtain⟨J,o2⟩:=y;obtain⟨q1,q2⟩:=hy;dsimp only at q1 q2;subst q1;rw[hg.len] at q2;have hbr:GI nT ss t ((10,2,0,0,0,J.2.2.2.2.2.2.2.1):IT):=⟨Ym (by decide) (by decide) (by simp[iI]) (by decide:¬(10:Int)=3),hs⟩
 have l2:o2.length=o1.length+1:=by rw[q2,bu];rfl
 refine bf (by simp) ?_;refine ax (hS s.body J o2 (by omega) h3 hg (hso.sub (eP _) (by omega)) (by omega)) λy hy=>?_
 obtain⟨U,I⟩:=y;obtain⟨r1,r2,r3⟩:=hy;dsimp only at r1 r2 r3;have r4:=r2.u;have r5:=r2.l;have ebr:iA I o1.length=(10,2,0,0,0,J.2.2.2.2.2.2.2.1):=by rw[r2.p _ (by omega),q2,xx]
 refine bf (by simp) ?_;have qs:=r1.trans (GQ.site U U.2.2.2.2.2.1 J.2.2.2.2.2.2.2.1 U.2.2.2.2.2.2.2.2);refine aK (λh3w=>?_) λh3w=>?_
 .have hels:nu d s.els=0:=by rw[hel (by have h3w:s.op=3:=h3w;omega)];rfl
  rw[hels,dl];refine ax (Ib _ _ I (by omega)) λy hy=>?_
  obtain⟨g4,M⟩:=y;obtain⟨w1,w2⟩:=hy;dsimp only at w1 w2;have l4:M.length=I.length+1:=by rw[w2,bu];rfl
  refine bf (by simp) (aR (dS _) (by dsimp only[au];omega) (aR (dS _) (by dsimp only[au];omega) (ar ?_)));have hat:o1.length<M.length:=by omega
  have ej:iA M I.length=(5,(out.length:Int),0,0,0,J.2.2.2.2.2.2.2.1):=by rw[w2,xx];rfl
  have e43:∀ k:Nat,k<I.length->iA M k=iA I k:=λk hk=>by rw[w2,IJ hk]
  refine ⟨by dsimp only;rw[w1];exact qs,?_,by dsimp only;rw[w1];exact r3⟩;dsimp only;have eF:∀ {z:IT} {k:Nat},¬k=o1.length->iA (cQ M ((o1.length:Nat):Int) z) k=iA M k:=λh=>by rw[y_ hat,ay h]
  obtain⟨f1,f2,f3,f4,f5,f6⟩:=p2.cbr q2 hbr rfl r2 (ptB M o1.length (aO M.length)) (by rw[bT];omega) (λk hk hn=>(eF hn).trans (e43 k hk)) ⟨_,⟨dS _,by rw[bT];exact eP _⟩,by rw[y_ hat,aF rfl,e43 _ (by omega),ebr];rfl⟩;show QC nT ss t _ out (ptB M o1.length (aO M.length));have ejF:iA (ptB M o1.length (aO M.length)) I.length=(5,(out.length:Int),0,0,0,J.2.2.2.2.2.2.2.1):=(eF (by omega:¬I.length=o1.length)).trans ej;refine ⟨by rw[bT];omega,by rw[bT];omega,f1,?_,λk Y J=>?_,λk Y J U=>?_⟩
  .rw[(bT _ _ _).trans l4];exact f2.whl f3 f4 (by rw[ejF]) (by rw[ejF])
  .rw[bT,l4] at J;by_cases hk:k<I.length
   .exact f5 k Y hk
   .rw[show k=I.length by omega,ejF];exact⟨Ym (by decide) (by decide) (by simp[iI]) (by decide:¬(5:Int)=3),hs⟩
  .have g2':=J;rw[bT,l4] at g2';by_cases hk:k<I.length
   .exact f6 k Y hk U
   .rw[show k=I.length by omega,ejF] at U;cases U
 refine aK (λhz=>?_) λ_=>?_
 .have hels:nu d s.els=0:=by rw[gH.1 (by dsimp only[au] at hz;omega:s.els.length=0)];rfl
  rw[hels,dl];refine aR (dS _) (by dsimp only[au];omega) (aR (dS _) (by dsimp only[au];omega) (ar ⟨qs,?_,r3⟩));dsimp only;have hat:o1.length<I.length:=by omega
  obtain⟨f1,f2,f3,f4,f5,f6⟩:=p2.cbr q2 hbr rfl r2 (ptB I o1.length (aO I.length)) (by rw[bT];omega) (λk hk hn=>by rw[y_ hat,ay hn]) ⟨_,⟨dS _,by rw[bT];exact eP _⟩,by rw[y_ hat,aF rfl,ebr];rfl⟩;show QC nT ss t _ out (ptB I o1.length (aO I.length));refine ⟨by rw[bT];omega,by rw[bT];omega,f1,?_,λk Y J=>?_,λk Y J U=>?_⟩
  .rw[bT];exact (f2.app (qO.one (by rw[f3];decide))).app f4
  .rw[bT] at J;exact f5 k Y J
  .exact f6 k Y (by rw[bT] at J;exact J) U
 .refine ax (Ib _ _ I (by omega)) λy hy=>?_
  obtain⟨g4,M⟩:=y;obtain⟨w1,w2⟩:=hy;dsimp only at w1 w2;have l4:M.length=I.length+1:=by rw[w2,bu];rfl
  have qs4:GQ J g4:=by rw[w1];exact qs
  have x4:gN g4=gN J+(nu d s.body:Nat):=by rw[w1];exact r3
  have hat:o1.length<M.length:=by omega
  have ej:iA M I.length=(5,0,0,0,0,J.2.2.2.2.2.2.2.1):=by rw[w2,xx]
  have e43:∀ k:Nat,k<I.length->iA M k=iA I k:=λk hk=>by rw[w2,IJ hk]
  refine bf (by simp) (aR (dS _) (by dsimp only[au];omega) (aR (dS _) (by dsimp only[au];omega) ?_));have eF:∀ {z:IT} {k:Nat},¬k=o1.length->iA (cQ M ((o1.length:Nat):Int) z) k=iA M k:=λh=>by rw[y_ hat,ay h]
  refine ax (hS s.els g4 (ptB M o1.length (aO M.length)) (by omega) h4 (hg.of qs4) (hso.sub (by rw[x4];omega) (by rw[x4];omega)) (by rw[bT];omega)) λy hy=>?_
  obtain⟨g5,Z⟩:=y;obtain⟨z1,z2,z3⟩:=hy;dsimp only at z1 z2 z3;have z4:=z2.l;have z5:=z2.u;have zp:=z2.p;have zb:=z2.b;have zi:=z2.i;have zr:=z2.r;rw[bT] at z4 z5 zp zb zi zr;have hj5:I.length<Z.length:=by omega
  refine bf (by simp) (aR (dS _) (by dsimp only[au];omega) (aR (dS _) (by dsimp only[au];omega) (ar ⟨qs4.trans z1,?_,by dsimp only;rw[z3,x4];omega⟩)));dsimp only;show QC nT ss t _ out (ptA Z I.length (aO Z.length));have eG:∀ {z:IT} {k:Nat},¬k=I.length->iA (cQ Z ((I.length:Nat):Int) z) k=iA Z k:=λh=>by rw[y_ hj5,ay h]
  have ej5:iA Z I.length=(5,0,0,0,0,J.2.2.2.2.2.2.2.1):=by rw[zp _ (by omega),eF (by omega),ej]
  obtain⟨f1,f2,f3,f4,f5,f6⟩:=p2.cbr q2 hbr rfl r2 (ptA Z I.length (aO Z.length)) (by rw[bT];omega) (λk hk hn=>by rw[eG (by omega),zp k (by omega),eF hn,e43 k hk]) ⟨aO M.length,⟨dS _,by rw[bT];dsimp only[au];omega⟩,by rw[eG (by omega),zp _ (by omega),y_ hat,aF rfl,e43 _ (by omega),ebr]⟩;have ejF:iA (ptA Z I.length (aO Z.length)) I.length=(5,aO Z.length,0,0,0,J.2.2.2.2.2.2.2.1):=by rw[y_ hj5,aF rfl,ej5]
  refine ⟨by rw[bT];omega,by rw[bT];omega,f1,?_,λk Y J=>?_,λk Y J U=>?_⟩
  .rw[bT];refine ((f2.app (qO.one (by rw[f3];decide))).app f4).ite (by rw[ejF]) (by rw[ejF];rfl) ?_;rw[l4] at zb;exact zb.congr λk Y J=>eG (by omega)
  .rw[bT] at J;rcases Nu k I.length with hk|hk|hk
   .exact f5 k Y hk
   .rw[hk,ejF];exact⟨Ym (by decide) (by decide) (by simp[iI]) (by decide:¬(5:Int)=3),hs⟩
   .rw[eG (by omega)];exact zi k (by omega) J
  .have g2':=J;rw[bT] at g2';rcases Nu k I.length with hk|hk|hk
   .exact f6 k Y hk U
   .rw[hk,ejF] at U;cases U
   .rw[eG (by omega)] at U ⊢;rw[bT];exact zr k (by omega) g2' U
theorem Yl (rs:FS6) (rt:FT6) (rb:FT6) (ra:FA6) (d:Nat) (hB:aji nT ss t rb d) (hA:ajj nT ss t ra d):SpG nT ss t (rS rs rt rb ra) (d+1):=by
 intro s g out hs hg hso hb;have hm:ME (d+1)=50+16*ME d:=rfl;obtain⟨i1,i2,i3,i4,i5,i6,i7,i8,i9,Y⟩:=hs;have hcn:PF (d+1) s=1+nu d s.body+nu d s.els:=rfl;rw[hcn] at hso ⊢;obtain⟨so0,so1,so2⟩:=id hso;have so0:0<=g.2.2.2.2.2.2.2.2:=so0;have so1:g.2.2.2.2.2.2.2.2+((1+nu d s.body+nu d s.els:Nat):Int)<=1000:=so1;have ew:bk .i64 (g.2.2.2.2.2.2.2.2+1)=g.2.2.2.2.2.2.2.2+1:=ic (by omega) (by omega);have gs:=GQ.site g g.2.2.2.2.2.1 g.2.2.2.2.2.2.2.2 (bk .i64 (g.2.2.2.2.2.2.2.2+1));unfold rS aY bi bw cu dU bK pU bd bB aX aE cC d_;refine aZ (λx=>QG nT ss t (ME (d+1)) (1+nu d s.body+nu d s.els) g out x) ?_ λx hx=>ar hx
 dsimp only;have Z:SO ss t (gS ((g.1,g.2.1,g.2.2.1,g.2.2.2.1,g.2.2.2.2.1,g.2.2.2.2.2.1,g.2.2.2.2.2.2.1,g.2.2.2.2.2.2.2.2,bk .i64 (g.2.2.2.2.2.2.2.2+1)):GN)):=so2 _ (eP _) (by show g.2.2.2.2.2.2.2.2<g.2.2.2.2.2.2.2.2+((1+nu d s.body+nu d s.els:Nat):Int);omega);have hn1:gN ((g.1,g.2.1,g.2.2.1,g.2.2.2.1,g.2.2.2.2.1,g.2.2.2.2.2.1,g.2.2.2.2.2.2.1,g.2.2.2.2.2.2.2.2,bk .i64 (g.2.2.2.2.2.2.2.2+1)):GN)=gN g+1:=ew;revert gs Z hn1;generalize ((g.1,g.2.1,g.2.2.1,g.2.2.2.1,g.2.2.2.2.1,g.2.2.2.2.2.1,g.2.2.2.2.2.2.1,g.2.2.2.2.2.2.2.2,bk .i64 (g.2.2.2.2.2.2.2.2+1)):GN)=U;intro gs Z hn1;have M:=hg.of gs;have hso1:=hso.sub (b:=gN U) (n:=nu d s.body+nu d s.els) (by rw[hn1];omega) (by rw[hn1];omega);have fin:∀ (n m:Nat) (y:GN×List IT),QG nT ss t n m U out y->n<=ME (d+1)->m=nu d s.body+nu d s.els->QG nT ss t (ME (d+1)) (1+nu d s.body+nu d s.els) g out y:=λn m y J hn hm=>⟨gs.trans J.q,(QC.nil 0 out).trans J.c (by omega),by rw[J.x,hn1];omega⟩
 have fin0:s.op=1\/9<=s.op->∀ (n:Nat) (y:GN×List IT),y.1=U/\QC nT ss t n out y.2->n<=ME (d+1)->QG nT ss t (ME (d+1)) (1+nu d s.body+nu d s.els) g out y:=λI n y J hn=>fin n 0 y ⟨by rw[J.1];exact GQ.refl U,J.2,by rw[J.1];simp⟩ hn (by rw[Y.bo I,Y.el (by omega)];rfl)
 refine aK (λI=>?_) λ_=>?_
 .refine ax (VP (nJ _) U out ?_ ?_ ?_ ?_ M Z (by omega)) λy J=>bf (by simp) (ar (fin0 (.inl I) _ _ J (by omega)))
  .rw[xZ];exact i1
  .rw[xZ];exact i3
  .rw[xZ];exact i4 (.inl I)
  .rw[xZ];exact Y.vr I
 refine aZ (λx=>x.2=(U,s,out)/\(x.1=ai↔s.op=2\/s.op=3)) ?_ ?_
 .exact aK (λh=>ar ⟨by dsimp only;rw[xZ],λ_=>.inl h,λ_=>aQ h⟩) λh=>ar ⟨by dsimp only;rw[xZ],λh2=>.inr (bt h2),λh2=>aQ (h2.resolve_left h)⟩
 rintro⟨b,x⟩ ⟨e,hb2⟩;dsimp only at e hb2;subst e;refine aP (λhb3=>?_) λhbf=>?_
 .dsimp only;rw[xZ];refine ax (hB s U out (hb2.1 hb3) (i4 (by rcases hb2.1 hb3 with h|h;exact .inr (.inl h);exact .inr (.inr (.inl h)))) i6 i7 i8 i9 Y.el M Z hso1 hb) λy J=>bf (by simp) (ar (fin _ _ _ J (by omega) rfl))
 have har:∀ (a b c:Int),4<=s.op->GO nT (a,c,0,0,0,0)->GO nT (b,c,0,0,0,0)->¬a=5/\¬a=10->¬b=5/\¬b=10->Ok (ra ((s,a,b,c),U,out)) λy=>QG nT ss t (ME (d+1)) (1+nu d s.body+nu d s.els) g out y:=λa b c h4 ga gb na nb=>(hA s a b c U out i6 i8 ga gb na nb M Z (hso1.sub (eP _) (by omega)) hb).mono λy J=>fin _ _ _ J (by omega) (by rw[Y.el (by omega)];rfl)
 have hput:∀ {op:Int} {r:Int×Int×Int×Int×Int},9<=s.op->GO nT (op,r)->¬op=5/\¬op=10->Ok (cB ((op,r),U,out)) (QG nT ss t (ME (d+1)) (1+nu d s.body+nu d s.els) g out):=λh9 hi h5=>(xk (by omega) M Z hi h5).mono λy J=>fin0 (.inr h9) _ _ J (by omega)
 have hlk:∀ n:List UInt8,Ok (j_ (U.2.1,n)) λr=>(n=[109]->r=0)/\(n=[110]->r=1)/\(n=[114]->r=2):=λn=>(MA U.2.1 n (by rw[M.l];decide)).mono λr h=>agz (by rw[M.l] at h;exact h)
 have hcond:∀ (n:List UInt8),Ok (jq (n,U,out)) λy=>y.2=(U,out)/\(n=[99]->y.1=0):=λn=>abo n U out M
 have hth:Ok (iU (U.2.2.2.2.1,s.name)) λr=>s.op=12\/s.op=13->0<=r/\r<(nT:Int):=(yC U.2.2.2.2.1 s.name (by rw[M.t,bE];have q4:v7.length=4:=rfl;omega)).mono λr hr I=>by
  have hn:=Y.sp I;have hl:(v7.take nT).length<=nT:=pW ..;obtain⟨_,h2,_,h4⟩:=hr;rw[M.t] at h2 h4;exact⟨Cf.1 λh=>h4 h hn,by omega⟩
 have hft:∀ n:List UInt8,Ok (iU (U.2.2.2.1,n)) λr=>n=[102]->r=0:=λn=>(yC U.2.2.2.1 n (by rw[M.f];decide)).mono λr hr hn=>by
  obtain⟨h1,h2,_,h4⟩:=hr;rw[M.f] at h2 h4;have h2:r<1:=h2;have:¬r<0:=λh=>h4 h (by rw[hn];decide)
  omega
 dsimp only;rw[xZ];have gor:∀ {a c:Int},1<=a->a<=27->iI (a,c,0,0,0,0)=[]->OB nT (a,c,0,0,0,0)->GO nT (a,c,0,0,0,0):=λh1 h2 h3 h4=>⟨h1,h2,by rw[h3];exact λj hj=>(by cases hj),h4⟩
 refine aK (λI=>ax (hlk _) λv hv=>ax (har _ _ _ (by have I:s.op=4:=I;omega) (gor (by decide) (by decide) rfl ?_) (gor (by decide) (by decide) rfl ?_) (by decide) (by decide)) λy J=>bf (by simp) (ar J)) λ_=>?_
 .exact (Y.lk I).imp hv.1 hv.2.1
 .exact (Y.lk I).imp hv.1 hv.2.1
 refine aK (λI=>ax (hlk _) λv hv=>ax (har _ _ _ (by have I:s.op=5:=I;omega) (gor (by decide) (by decide) rfl ?_) (gor (by decide) (by decide) rfl ?_) (by decide) (by decide)) λy J=>bf (by simp) (ar J)) λ_=>?_
 .exact hv.2.2 (Y.rw (.inl I))
 .exact hv.2.2 (Y.rw (.inl I))
 refine aK (λI=>ax (hlk _) λv hv=>ax (har _ _ _ (by have I:s.op=6:=I;omega) (gor (by decide) (by decide) rfl ?_) (gor (by decide) (by decide) rfl ?_) (by decide) (by decide)) λy J=>bf (by simp) (ar J)) λ_=>?_
 .exact hv.2.2 (Y.rw (.inr I))
 .exact hv.2.2 (Y.rw (.inr I))
 refine aK (λI=>ax (har _ _ _ (by have I:s.op=7:=I;omega) (gor (by decide) (by decide) rfl (by decide:¬(17:Int)=3)) (gor (by decide) (by decide) rfl (by decide:¬(18:Int)=3)) (by decide) (by decide)) λy J=>bf (by simp) (ar J)) λ_=>?_
 refine aK (λI=>ax (har _ _ _ (by have I:s.op=8:=I;omega) (gor (by decide) (by decide) rfl (by decide:¬(19:Int)=3)) (gor (by decide) (by decide) rfl (by decide:¬(20:Int)=3)) (by decide) (by decide)) λy J=>bf (by simp) (ar J)) λ_=>?_
 refine aK (λI=>ax (hcond _) λy J=>?_) λ_=>?_
 .obtain⟨v,y2⟩:=y;obtain⟨y3,y4⟩:=J;dsimp only at y3;subst y3;exact bf (by simp) (ax (hput (by have I:s.op=9:=I;omega) (gor (by decide) (by decide) rfl (y4 (Y.cn (.inl I)))) (by decide)) λy J=>bf (by simp) (ar J))
 refine aK (λI=>ax (hcond _) λy J=>?_) λ_=>?_
 .obtain⟨v,y2⟩:=y;obtain⟨y3,y4⟩:=J;dsimp only at y3;subst y3;exact bf (by simp) (ax (hput (by have I:s.op=10:=I;omega) (gor (by decide) (by decide) rfl (y4 (Y.cn (.inr (.inl I))))) (by decide)) λy J=>bf (by simp) (ar J))
 refine aK (λI=>ax (hcond _) λy J=>?_) λ_=>?_
 .obtain⟨v,y2⟩:=y;obtain⟨y3,y4⟩:=J;dsimp only at y3;subst y3;exact bf (by simp) (ax (hput (by have I:s.op=11:=I;omega) (gor (by decide) (by decide) rfl (y4 (Y.cn (.inr (.inr I))))) (by decide)) λy J=>bf (by simp) (ar J))
 refine aK (λI=>ax hth λv hv=>ax (hput (by have I:s.op=12:=I;omega) (gor (by decide) (by decide) rfl (hv (.inl I))) (by decide)) λy J=>bf (by simp) (ar J)) λ_=>?_
 refine aK (λI=>ax hth λv hv=>ax (hput (by have I:s.op=13:=I;omega) (gor (by decide) (by decide) rfl (hv (.inr I))) (by decide)) λy J=>bf (by simp) (ar J)) λ_=>?_
 refine aK (λI=>?_) λn14=>?_
 .have hex:GE 4 (dZ (Xp.op s.expr,Xp.n s.expr,Xp.name s.expr,Xp.l s.expr)):=by rw[fg];exact i4 (.inr (.inr (.inr I)))
  refine ax (Co _ _ U out hex M Z (by rw[hg.len];decide) (by rw[hg.len];decide) (by omega)) λy J=>?_
  obtain⟨g2,o2⟩:=y;obtain⟨q1,q2⟩:=J;dsimp only at q1 q2;subst q1;have q3:=q2.u;refine bf (by simp) (ax (hft _) λv hv=>?_);refine ax (xk (by omega) M Z (Ym (by decide) (by decide) (by simp[iI,hg.h,L0]) (hv (Y.se I))) (by decide)) λy J=>bf (by simp) (ar (fin0 (.inr (by have I:s.op=14:=I;omega)) 16 _ ⟨J.1,q2.trans J.2 (bW _)⟩ (by omega)))
 refine aK (λI=>?_) λn15=>?_
 .refine ax (yC _ _ (by rw[M.h];decide)) λv hv=>ax (hft _) λv2 hv2=>?_
  have hge:=Y.ge I;have hl:(0:Int)<=v/\v<2:=by
   obtain⟨_,h2,_,h4⟩:=hv;rw[M.h] at h2 h4;exact⟨Cf.1 λh=>h4 h (by rw[hge.1];decide),h2⟩
  exact ax (hput (by have I:s.op=15:=I;omega) (Ym (by decide) (by decide) (by simp[iI];omega) (hv2 hge.2)) (by decide)) λy J=>bf (by simp) (ar J)
 .exfalso;have h1:=Y.o0;have h2:=Y.o1;have h3:¬(s.op=2\/s.op=3):=λh=>by have hbf:b=aj:=hbf;rw[hb2.2 h] at hbf;cases hbf
  omega
variable {nT:Nat} {ss:List (Int×Int×Int)} {t:Int}
theorem W5:∀ (n:Nat),(∀ d:Nat,3*d<n->SpG nT ss t (eO n) d)/\(∀ d:Nat,3*d+1<n->acl nT ss t (dL n) d)/\(∀ d:Nat,3*d+2<n->aji nT ss t (db n) d)/\(∀ d:Nat,3*d+2<n->ajj nT ss t (dH n) d)
 |0=>⟨λd h=>by omega,λd h=>by omega,λd h=>by omega,λd h=>by omega⟩
 |n+1=>by
  obtain⟨J,I,M,hA⟩:=W5 n;refine ⟨λd h=>?_,λd h=>?_,λd h=>?_,λd h=>?_⟩
  .cases d with
   |zero=>exact λs g out hs=>hs.elim
   |succ d=>exact Yl (dL n) (eO n) (db n) (dH n) d (M d (by omega)) (hA d (by omega))
  .exact UQ (dL n) (eO n) (db n) (dH n) d (J d (by omega))
  .exact LG (dL n) (eO n) (db n) (dH n) d (I d (by omega))
  .exact Rb (dL n) (eO n) (db n) (dH n) d (I d (by omega))
theorem Ox (d:Nat) (hd:d<=100):acl nT ss t ui d:=(W5 fuel).2.1 d (by rw[jP];omega)
structure SL (t k:Int) (m:Nat) (S:List (Int×Int×Int)):Prop where
 l:S.length=m
 v:∀ i:Nat,i<m->(aJ (T:=xX) S (i:Int)).1=t/\(aJ (T:=xX) S (i:Int)).2.1=k+i
theorem Ja {T:Ty} {l m:List T.den} {k:Nat} (h:k<l.length):aJ (l++m) (k:Int)=aJ l (k:Int):=by
 rw[zg,zg,aA,aA,bO h]
theorem I_ {T:Ty} {l m:List T.den} {k:Nat} (h:l.length<=k):aJ (l++m) (k:Int)=aJ m ((k-l.length:Nat):Int):=by
 rw[zg,zg,aA,aA,b7 h]
theorem SL.nil (t k:Int):SL t k 0 []:=⟨rfl,λi h=>by omega⟩
theorem SL.one (t k z:Int):SL t k 1 [(t,k,z)]:=⟨rfl,λi h=>by rw[show i=0 by omega];exact⟨rfl,by show k=k+((0:Nat):Int);omega⟩⟩
theorem SL.app {k k':Int} {a b:Nat} {S S':List (Int×Int×Int)} (h:SL t k a S) (h':SL t k' b S') (hk:k'=k+a):SL t k (a+b) (S++S'):=by
 obtain⟨h1,h2⟩:=h;obtain⟨J,I⟩:=h';refine ⟨by rw[bu];omega,λi hi=>?_⟩;by_cases hl:i<S.length
 .rw[Ja (T:=xX) hl];exact h2 i (by omega)
 .rw[I_ (T:=xX) (by omega)];have:=I (i-S.length) (by omega);exact⟨this.1,this.2.trans (show k'+((i-S.length:Nat):Int)=k+(i:Int) by omega)⟩
theorem ES:∀ (n d:Nat),d<n->∀ (t k:Int) (l:List Sx) (out:List (Int×Int×Int)),l.length<=100->(∀ s∈l,GT d s)->0<=k->k+nu d l<=100000000->out.length+nu d l<=100000000->Ok (pn n ((t,k,l),out)) λy=>y.1=k+nu d l/\∃ S,y.2=out++S/\SL t k (nu d l) S
 |0,_,h,_,_,_,_,_,_,_,_,_=>by omega
 |n+1,d,hn,t,k,l,out,hl,hs,k0,hkb,hb=>by
  rw[G5];unfold xA bx uO bB aX cL aE cC;refine b9 l.length (λi x=>x.1.2=(i:Int)/\x.1.1=k+nu d (l.take i)/\∃ S,x.2=out++S/\SL t k (nu d (l.take i)) S) ?_ ?_ ⟨rfl,by simp[nu],[],by simp,by simp[nu];exact SL.nil t k⟩
  .rintro i ⟨⟨a,b⟩,o⟩ hi ⟨e1,e2,S,e3,e4⟩;dsimp only at e1 e2 e3;subst e1;subst e2;subst e3;have hp:=O2 (d:=d) l (i+1);rw[wS hi] at hp;rw[wS hi];refine du ?_;have hin:((i:Nat):Int)<(l.length:Int):=by omega
   have hm:=hs _ (bH (T:=.sm) (xs:=l) (j:=(i:Int)) (by omega) (by omega));have hSl:=e4.l;cases d with
   |zero=>exact hm.elim
   |succ d=>
    obtain⟨_,_,_,g4,g5,g6,g7⟩:=hm;have hc:PF (d+1) (aJ (T:=.sm) l (i:Int))=1+nu d (Sx.body (aJ (T:=.sm) l (i:Int)))+nu d (Sx.els (aJ (T:=.sm) l (i:Int))):=rfl;rw[hc] at hp ⊢;dsimp only;refine aR (by omega) hin (aS (bg (by simp;omega) (by omega) (aR (by omega) hin (aS ?_))));rw[ic (n:=k+(nu (d+1) (l.take i):Nat)+1) (by omega) (by omega)];refine ax (ES n d (by omega) _ _ _ _ (by omega) g6 (by omega) (by omega) (by simp;omega)) λy I=>bf (by simp) ?_
    obtain⟨a2,o2⟩:=y;obtain⟨Z,S2,Y,U⟩:=I;dsimp only at Z Y;subst Z;subst Y;have hSl2:=U.l;refine aR (by omega) hin (aS ?_);refine ax (ES n d (by omega) _ _ _ _ (by omega) g7 (by omega) (by omega) (by simp;omega)) λy I=>bf (by simp) (ar ?_)
    obtain⟨a3,o3⟩:=y;obtain⟨M,S3,J,z3⟩:=I;dsimp only at M J;subst M;subst J;refine ⟨gM (by omega),by dsimp only;omega,S++([_]++(S2++S3)),by simp only[iv];rfl,?_⟩;refine e4.app ?_ rfl;rw[pq];exact (SL.one t _ _).app (U.app z3 rfl) (by simp)
  .rintro⟨⟨a,b⟩,o⟩ ⟨e1,e2,e3⟩;dsimp only at e1 e2 e3;subst e1;subst e2;rw[cP] at e3 ⊢;exact dv (ar ⟨rfl,e3⟩)
theorem Wk {T k' U k:Int} {l S:List (Int×Int×Int)} {m:Nat} (h:K0 T l=af (k',U)) (Y:SL t k m S) (hk:(k'=t/\U=k)\/(k'<t/\t<T/\k=0)):∀ i:Nat,i<=m->K0 T (l++S.take i)=af (if i=0 then (k',U) else (t,k+i))
 |0,_=>by rw[List.take_zero,iP,aF rfl];exact h
 |i+1,hi=>by
  have ih:=Wk h Y hk i (by omega);rw[mD (T:=xX) (xs:=S) (i:=i) (by rw[Y.l];omega),<-iv,Wm,ih];obtain⟨I,M⟩:=Y.v i (by omega);rw[ay (Nat.succ_ne_zero i)];by_cases J:i=0
  .subst J;rw[aF rfl];unfold Tr;dsimp only;rcases hk with ⟨h1,h2⟩|⟨h1,h2,Z⟩
   .rw[aF ⟨by rw[I,h1],by rw[M,h2];simp⟩,h1,h2];simp
   .rw[ay (λh=>by rw[I] at h;omega),aF ⟨by rw[I];exact h1,by rw[I];exact h2,by rw[M,Z];rfl⟩,I,Z];simp
  .rw[ay J];unfold Tr;dsimp only;rw[aF ⟨I,M⟩];congr 2;omega
abbrev CE6:Type:=List UInt8×Int×Int×Bool×Int
abbrev W4T:Type:=List CE6×List (List UInt8×Bool)×List (List UInt8×Int)×List (List UInt8)
def ceD (z:DT):List CE6:=(c4 (aT (ik z.2.2.2.1 1))).map λ(k:Nat)=>(z.2.2.1,(k:Int),z.2.2.2.1,decide (z.1=2),z.2.2.2.2.1)
def adD (y:W4T) (z:DT):W4T:=
 if z.1=1\/z.1=2 then (y.1++ceD z,y.2) else if z.1=3\/z.1=4 then (y.1,y.2.1++[(z.2.2.1,decide (z.1=4))],y.2.2) else if z.1=5 then (y.1,y.2.1,y.2.2.1++[(z.2.2.1,0)],y.2.2.2) else (y.1,y.2.1,y.2.2.1,y.2.2.2++[z.2.2.1])
def W4 (i:Nat):W4T:=(D0.take i).foldl adD ([],[],[],[])
theorem W4_9:W4 9=(C0,GA,Mf,S_):=rfl
theorem W4_s {i:Nat} (hi:i<9):W4 (i+1)=adD (W4 i) (aJ (T:=tDc) D0 (i:Int)):=by
 unfold W4;rw[mD (T:=tDc) (xs:=D0) hi,dP];rfl
theorem D0_c:∀ i:Nat,i<9->(aJ (T:=tDc) D0 (i:Int)).1=5->i=7:=by decide
theorem amf:∀ i:Nat,i<9->(W4 i).1.length<=5/\(W4 i).2.1.length<=3/\(W4 i).2.2.1.length<=1/\(W4 i).2.2.2.length<=1/\ik (aJ (T:=tDc) D0 (i:Int)).2.2.2.1 1<=2/\1<=ik (aJ (T:=tDc) D0 (i:Int)).2.2.2.1 1:=by decide
def bsN (p:PG) (i:Nat):Nat:=((p.2.take i).map λt=>nu 5 t.2.2.2).sum
def boN (p:PG) (i:Nat):Nat:=nu 5 (aJ (T:=yL) p.2 (i:Int)).2.2.2
theorem ah9 {p:PG} {i:Nat} (hi:i<p.2.length):bsN p (i+1)=bsN p i+boN p i:=by
 unfold bsN boN;rw[mD (T:=yL) hi,cA,Fr];simp
theorem VH {p:PG} (i:Nat) (h:(p.2.map λt=>nu 5 t.2.2.2).sum<=60):bsN p i<=60:=by
 refine dg ?_ h
 conv=>rhs;rw[<- Bs i p.2]
 unfold bsN;rw[cA,Fr];omega
structure SW (p:PG) (i:Nat) (S:List (Int×Int×Int)):Prop where
 l:S.length=bsN p i
 f:∃ a b,K0 p.2.length S=af (a,b)/\(a<i\/a=0/\b=0)
 s:∀ j:Nat,j<i->SR S (j:Int) (bsN p j:Nat) (boN p j)
structure WW (p:PG) (w:WT):Prop where
 x:WX w
 t:w.2.2.2.2.1=v7.take p.2.length
 s:∀ j:Nat,j<p.2.length->SR w.2.2.2.2.2 (j:Int) (bsN p j:Nat) (boN p j)
theorem SO.app {S S':List (Int×Int×Int)} {t s:Int} (h:SO S t s):SO (S++S') t s:=by
 obtain⟨h0,h1,h2⟩:=h;obtain⟨s,rfl⟩:∃ n:Nat,s=(n:Int):=⟨s.toNat,by omega⟩
 exact⟨h0,by rw[bu];omega,by rw[Ja (T:=xX) (by omega)];exact h2⟩
theorem VS (p:PG) (hp:PJ p) (r:Int×Int) (hr:fk p=af r) (h0:r.1=0) (hc:(p.2.map λt=>nu 5 t.2.2.2).sum<=60):Ok (uj p) (WW p):=by
 have hpt:=hp.t;unfold uj aY bi bw cu dU bK dx cY fh kB bd bx jd bB bD aX cL aE cC;refine aV hr (b_ (λh=>(h h0).elim) λ_=>?_);have hD:p.1=D0:=hp.d;have hlen:p.1.length=9:=by rw[hD];rfl
 refine b9 9 (λi x=>x.1=(i:Int)/\x.2.1=p/\x.2.2=W4 i) ?_ ?_ ⟨rfl,rfl,rfl⟩
 .rintro i ⟨a,p',y⟩ hi ⟨e1,e2,e3⟩;dsimp only at e1 e2 e3;subst e1;have e2:=e2.symm;subst e2;obtain⟨b1,b2,b3,b4,b5,b6⟩:=amf i hi;rw[<- e3] at b1 b2 b3 b4;have hW:=W4_s hi;rw[<- e3] at hW;have hcd:=D0_c i hi;have hlk:i=7->y.2.1=GA/\(aJ (T:=tDc) D0 (i:Int)).2.2.2.2.2=[109]:=λh=>by subst h;rw[e3];exact⟨rfl,rfl⟩
  refine du ?_;refine ch (aS ?_);dsimp only;rw[hD];revert hW hcd hlk b5 b6;generalize (aJ (T:=tDc) D0 (i:Int))=z;intro b5 b6 hW hcd hlk;refine aZ (λx=>x=(p,W4 (i+1))) ?_ ?_
  .rw[hW];unfold adD;refine aZ (λx=>x.2=(p,z,y)/\(x.1=ai↔(z.1=1\/z.1=2))) ?_ ?_
   .exact aK (λh=>ar ⟨rfl,λ_=>.inl h,λ_=>aQ h⟩) λh=>ar ⟨rfl,λh2=>.inr (bt h2),λh2=>aQ (h2.resolve_left h)⟩
   rintro⟨b,x⟩ ⟨e,hb⟩;dsimp only at e hb;subst e;refine aP (λI=>?_) λI=>?_
   .rw[aF (hb.1 I)];unfold ceD;obtain⟨m,hm⟩:∃ m:Nat,ik z.2.2.2.1 1=(m:Int):=⟨(ik z.2.2.2.1 1).toNat,by omega⟩
    rw[hm,dQ];refine b9 m (λk x=>x=((k:Int),p,z,y.1++(c4 k).map (λ(k:Nat)=>(z.2.2.1,(k:Int),z.2.2.2.1,decide (z.1=2),z.2.2.2.2.1)),y.2)) ?_ ?_ (by simp)
    .rintro k x hk rfl;refine bF (λ_=>?_) λg=>(by dsimp only at g;rw[hm] at g;omega)
     refine bg (by simp;omega) (by omega) (ar ?_);dsimp only;rw[gM (by omega),Fs,cA,<-iv];rfl
    .rintro x rfl;exact bF (λg=>(by dsimp only at g;rw[hm] at g;omega)) λ_=>ar rfl
   rw[ay λh=>by have I:b=aj:=I;rw[hb.2 h] at I;cases I];refine aZ (λx=>x.2=(p,z,y)/\(x.1=ai↔(z.1=3\/z.1=4))) ?_ ?_
   .exact aK (λh=>ar ⟨rfl,λ_=>.inl h,λ_=>aQ h⟩) λh=>ar ⟨rfl,λh2=>.inr (bt h2),λh2=>aQ (h2.resolve_left h)⟩
   rintro⟨c,x⟩ ⟨e,U⟩;dsimp only at e U;subst e;refine aP (λh=>?_) λh=>?_
   .rw[aF (U.1 h)];exact bg (by simp;omega) (by omega) (ar rfl)
   rw[ay λh2=>by have h:c=aj:=h;rw[U.2 h2] at h;cases h];refine aK (λh5=>?_) λh5=>?_
   .obtain⟨l1,l2⟩:=hlk (hcd h5);rw[aF h5];refine ax (MA _ _ (by dsimp only;rw[l1];decide)) λv hv=>?_
    have hv:=(agz (by dsimp only at hv;rw[l1] at hv;exact hv)).1 l2;subst hv;exact bg (by simp;omega) (by omega) (ar rfl)
   .rw[ay h5];exact bg (by simp;omega) (by omega) (ar rfl)
  rintro x rfl;exact ar ⟨gM (by omega),rfl,rfl⟩
 .rintro⟨a,p',y⟩ ⟨e1,e2,j⟩;dsimp only at e1 e2 j;subst e1;have e2:=e2.symm;subst e2;rw[W4_9] at j;subst j;refine dv ?_;refine ax (P:=WW p) ?_ λr hr=>ar hr
  refine b9 p.2.length (λi x=>x.1=(i:Int)/\x.2.1=p/\x.2.2.1=C0/\x.2.2.2.1=GA/\x.2.2.2.2.1=Mf/\x.2.2.2.2.2.1=S_/\x.2.2.2.2.2.2.1=v7.take i/\SW p i x.2.2.2.2.2.2.2) ?_ ?_ ⟨rfl,rfl,rfl,rfl,rfl,rfl,rfl,rfl,⟨0,0,rfl,.inr ⟨rfl,rfl⟩⟩,λj hj=>by omega⟩
  .rintro i ⟨a,p2,c2,l2,d2,f2,t2,s2⟩ hi ⟨e1,e2,e3,e4,e5,e6,Z,M,⟨fa,fb,f8,f9⟩,J⟩;dsimp only at e1 e2 e3 e4 e5 e6 Z M f8 J;subst e1;have e2:=e2.symm;subst e2;have hb8:=VH (i+1) hc;have hbs:=ah9 hi;refine du ?_;have hin:((i:Nat):Int)<(p.2.length:Int):=by omega
   have hm:=hp.m _ (bH (T:=yL) (xs:=p.2) (j:=(i:Int)) (by omega) hin);have hnm:(aJ (T:=yL) p.2 (i:Int)).1=aJ (T:=.str) v7 (i:Int):=by
    have h1:=mD (T:=yL) hi;have h2:=gI (List.map Prod.fst) h1;rw[cA,kF,kF,hp.n,List.take_take,List.take_take,sD (by omega),sD (by omega),mD (T:=.str) (xs:=v7) (i:=i) (by have q4:v7.length=4:=rfl;omega)] at h2;exact ((List.cons.inj (List.append_cancel_left h2)).1).symm
   have htl:t2.length=i:=by rw[Z,bE];have q4:v7.length=4:=rfl;omega
   dsimp only;refine aR (by omega) hin (aS (bg (by simp;omega) (by omega) (aR (by omega) hin (aS ?_))));refine ax (ES fuel 5 (by rw[jP];omega) _ _ _ s2 (by have:=hm.b;omega) (λs hs=>((hm.s s hs).le (by omega:3<=5)).t) (eP _) ?_ ?_) λy hy=>bf (by simp) (ar ?_)
   .show (0:Int)+(boN p i:Nat)<=_;omega
   .show s2.length+boN p i<=_;omega
   obtain⟨_,S,h2,Y⟩:=hy;have Y:SL (i:Int) 0 (boN p i) S:=Y;refine ⟨gM (by omega),rfl,e3,e4,e5,e6,?_,?_⟩
   .dsimp only;rw[Z,hnm,<-mD (T:=.str) (xs:=v7) (i:=i) (by have q4:v7.length=4:=rfl;omega)]
   .dsimp only;rw[h2];refine ⟨by rw[bu,Y.l,M,hbs],?_,λj hj=>?_⟩
    .have hr:=Wk f8 Y (by rcases f9 with h|⟨h,h'⟩;exact .inr ⟨h,by omega,rfl⟩;rcases KV i with hi0|hi0;exact .inl ⟨by omega,h'⟩;exact .inr ⟨by omega,by omega,rfl⟩) (boN p i) (bW _);rw[<- Y.l,cP] at hr;rw[hr];split
     .exact⟨_,_,rfl,f9.imp (λh=>by omega) id⟩
     .exact⟨_,_,rfl,.inl (by omega)⟩
    .rcases bZ j i with h1|h1
     .obtain⟨g1,g2,g3⟩:=J j h1;exact⟨g1,g2,λq q1 q2=>(g3 q q1 q2).app⟩
     .have hj:j=i:=by omega
      subst hj;refine ⟨by omega,by omega,λq q1 q2=>?_⟩;obtain⟨q,rfl⟩:∃ n:Nat,q=(n:Int):=⟨q.toNat,by omega⟩
      refine ⟨by omega,by rw[bu,Y.l];omega,?_⟩;rw[I_ (T:=xX) (by omega)];exact (Y.v _ (by omega)).1
  .rintro⟨a,p2,c2,l2,d2,f2,t2,s2⟩ ⟨e1,e2,e3,e4,e5,e6,Z,M,⟨fa,fb,f8,f9⟩,J⟩;dsimp only at e1 e2 e3 e4 e5 e6 Z M f8 J;subst e1;have e2:=e2.symm;subst e2;subst e3;subst e4;subst e5;subst e6;subst Z;refine dv (ar ?_);have hb8:=VH p.2.length hc;refine ⟨⟨rfl,rfl,rfl,rfl,⟨p.2.length,hp.t0,hp.t,rfl⟩,by dsimp only;omega,?_⟩,rfl,J⟩;unfold SV0;have hTl:(v7.take p.2.length).length=p.2.length:=by rw[bE];have q4:v7.length=4:=rfl;omega
   dsimp only;rw[hTl,f8];simp
def Ze:List (List UInt8):=[[120],[121],[118],[113],[109],[110],[114],[99],[102]]
set_option maxHeartbeats 20000000 in
theorem aac (t:List (List UInt8)) (ht:t.length<=4) (s:List (Int×Int×Int)):pf (C0,GA,Mf,S_,t,s)=af (Ze++t,ai):=by
 refine cE ?_;unfold pf aY bi bw cu dx kB bd bx jd bB bD aX cL aE cC;with_reducible repeat' first|exact ar rfl|refine WC ?_|refine WA ?_|refine Wz ?_|refine Wx ?_|refine ae1 ?_|refine aS ?_|refine fG rfl ?_|refine fP rfl ?_|refine bf rfl ?_|refine Wy ?_|refine Ql ?_|refine Qk ?_
 refine bg (by show 9+t.length<=1073741824;omega) (by decide) ?_;with_reducible repeat' first|exact ar rfl|refine WC ?_|refine WA ?_|refine Wz ?_|refine Wx ?_|refine ae1 ?_|refine aS ?_|refine fG rfl ?_|refine fP rfl ?_|refine bf rfl ?_|refine Wy ?_|refine Ql ?_|refine Qk ?_
theorem S8:∀ x∈Ze++v7,Ok (fd x) λb=>b=ai:=by
 intro x I;simp only[Ze,v7,gm,lK,bm,ct,f_] at I;rcases I with rfl|rfl|rfl|rfl|rfl|rfl|rfl|rfl|rfl|rfl|rfl|rfl|rfl;all_goals with_reducible repeat' first|exact ar rfl|refine WC ?_|refine WA ?_|refine Wz ?_|refine Wx ?_|refine Qk ?_|refine ae1 ?_|refine aS ?_|refine fG rfl ?_|refine fP rfl ?_|refine bf rfl ?_|refine Wy ?_|refine Ql ?_|refine c9 (fd.eq_1 ..) ?_|refine c9 (jC.eq_1 ..) ?_|refine c9 (ko.eq_1 ..) ?_|refine c9 (ll.eq_1 ..) ?_|refine c9 (pi.eq_1 ..) ?_|refine c9 (ru.eq_1 ..) ?_
theorem GT.up:∀ {d:Nat} {s:Sx},GT d s->GT (d+1) s
 |0,_,h=>h.elim
 |_+1,_,⟨a,b,c,e,f,g,i⟩=>⟨a,b,c,e,f,λx I=>GT.up (g x I),λx I=>GT.up (i x I)⟩
theorem air {l:List Sx} (h:∀ s∈l,GT 3 s):nu 5 l=nu 3 l:=by
 unfold nu;rw[pV λx I=>(O1 (GT.up (h x I))).trans (O1 (h x I))]
theorem ajm:∀ i:Nat,i<13->∀ r:Nat,r<i->aJ (T:=.str) (Ze++v7) (r:Int)≠aJ (T:=.str) (Ze++v7) (i:Int):=by decide
theorem P3 (T:Int):∀ l:List (Int×Int×Int),l.foldl (Tr T) ah=ah
 |[]=>rfl
 |_::r=>P3 T r
theorem Wl {T:Int} {l:List (Int×Int×Int)} (h:K0 T l≠ah) (i:Nat):K0 T (l.take i)≠ah:=λhn=>h (by
 unfold K0 at hn ⊢;rw[<- Bs i l,dP,hn,P3])
theorem Z4 {T t n:Int} {z:Int×Int×Int} (h:Tr T (af (t,n)) z≠ah):Tr T (af (t,n)) z=af (z.1,z.2.1+1)/\(z.1=t/\z.2.1=n\/t<z.1/\z.1<T/\z.2.1=0):=by
 unfold Tr at h ⊢;dsimp only at h ⊢;by_cases h1:z.1=t/\z.2.1=n
 .rw[aF h1];exact⟨by rw[h1.1,h1.2],.inl h1⟩
 .rw[ay h1] at h ⊢;by_cases h2:t<z.1/\z.1<T/\z.2.1=0
  .rw[aF h2];exact⟨by rw[h2.2.2];rfl,.inr h2⟩
  .rw[ay h2] at h;exact (h rfl).elim
theorem BG {R:Type} {a b:Int} {t f:Option R} {Q:R->Prop} (h:b<=a) (hf:Ok f Q):Ok (bcase (fO a b) t f) Q:=fP (gg.2 h) hf
theorem Hh {w:WT} (hx:WX w):g_ w=af ai:=by
 obtain⟨w1,w2,w3,w4,I,J⟩:=w;obtain⟨hc,hl,hd,hf,⟨n,n1,n4,ht⟩,hs,hv⟩:=hx;dsimp only at hc hl hd hf ht hs;subst hc;subst hl;subst hd;subst hf;have hT:I.length=n:=by rw[ht,bE];have q4:v7.length=4:=rfl;omega
 have hv:K0 I.length J≠ah:=hv;refine cE ?_;unfold g_ aY bi bw cu cY fh bd bx iR jd bB bD aX cL aE cC;refine aZ (λx=>x=(aj,C0,GA,Mf,S_,I,J)) ?_ ?_
 .refine BG (show (5:Int)<=12 by decide) (BG (show (3:Int)<=4 by decide) (BG (show (1:Int)<=2 by decide) (BG (show (1:Int)<=2 by decide) (BG (show (1:Int)<=(I.length:Int) by omega) (BG (show (I.length:Int)<=4 by omega) (ar ?_))))));dsimp only[au];rw[gg.2 (show (J.length:Int)<=60 by omega)]
 rintro x rfl;refine gz (aV (aac I (by omega) J) (fP rfl ?_));have hN:Ze++I=(Ze++v7).take (9+n):=by rw[ht];rcases (by omega:n=1\/n=2\/n=3\/n=4) with rfl|rfl|rfl|rfl<;>rfl
 have hNl:(Ze++I).length=9+n:=by rw[bu,hT];rfl
 have hNg:∀ i:Nat,i<9+n->aJ (T:=.str) (Ze++I) (i:Int)=aJ (T:=.str) (Ze++v7) (i:Int):=λi hi=>by
  rw[hN,zg,zg,aA,aA,List.getElem?_take_of_lt hi]
 refine b9 (9+n) (λi x=>x=((i:Int),C0,GA,Mf,S_,I,J)) ?_ ?_ rfl
 .rintro i x hi rfl;refine bF (λ_=>?_) λg=>(by dsimp only[au] at g;rw[hNl] at g;omega)
  refine aZ (λx=>x=(aj,C0,GA,Mf,S_,I,J)) ?_ ?_
  .refine aR (by dsimp only;omega) (by dsimp only;rw[hNl];omega) (aS ?_);have hmem:aJ (T:=.str) (Ze++I) (i:Int)∈Ze++v7:=by rw[hNg i hi];exact bH (T:=.str) (by omega) (by have:(Ze++v7).length=13:=rfl;omega)
   refine ax (S8 _ hmem) λb hb=>?_
   refine fP (by rw[hb];rfl) (dG (e_ (by dsimp only;omega) (e_ (by dsimp only;rw[hNl];omega) ?_)));refine aR (by dsimp only;omega) (by dsimp only;rw[hNl];omega) (aS ?_);refine ax (yC _ _ (by dsimp only;rw[bE,hNl];omega)) λr hr=>ar ?_
   obtain⟨_,h2,Z,_⟩:=hr;dsimp only at h2 Z;rw[bE,hNl] at h2;have hr0:¬0<=r:=λh0=>by
    have Z:=Z h0;obtain⟨r,rfl⟩:∃ m:Nat,r=(m:Int):=⟨r.toNat,by omega⟩
    rw[zg,aA,List.getElem?_take_of_lt (by omega),<-aA,<-zg (T:=.str),hNg r (by omega),hNg i hi] at Z;exact ajm i (by omega) r (by omega) Z
   rw[lY.2 (by omega)]
  .rintro x rfl;exact gz (ar (by dsimp only;rw[gM (by omega)]))
 rintro x rfl;refine bF (λg=>(by dsimp only[au] at g;rw[hNl] at g;omega)) λ_=>?_
 refine ax (P:=λb=>b=ai) ?_ λy hy=>ar hy
 refine b9 1 (λi x=>x=((i:Int),C0,GA,Mf,S_,I,J)) ?_ ?_ rfl
 .rintro i x hi rfl;have hi0:i=0:=by omega
  subst hi0;refine fG rfl (bf rfl (aS (aZ (λx=>x=(aj,C0,GA,Mf,S_,I,J)) ?_ ?_)))
  .exact fP rfl (fP rfl (bf rfl (aS (ar rfl))))
  .rintro x rfl;exact gz (ar (by dsimp only;rw[gM (by omega)]))
 rintro x rfl;refine bF (λg=>(by have g:(1:Int)<1:=g;omega)) λ_=>?_
 refine ax (P:=λb=>b=ai) ?_ λy hy=>ar hy
 refine b9 J.length (λi x=>x=((i:Int),C0,GA,Mf,S_,I,J)/\∃ t k:Int,K0 I.length (J.take i)=af (t,k)/\0<=t/\t<(I.length:Int)/\(i=0->t=0/\k=0)/\(¬i=0->(aJ (T:=xX) J ((i-1:Nat):Int)).1=t/\(aJ (T:=xX) J ((i-1:Nat):Int)).2.1+1=k/\0<k/\k<=i)) ?_ ?_ ⟨rfl,0,0,rfl,by omega,by omega,λ_=>⟨rfl,rfl⟩,λh=>(h rfl).elim⟩
 .rintro i x hi ⟨rfl,t,k,hF,t0,tT,hz,hp⟩;have hw:¬(i:Int)=0->bk .i64 ((i:Int)-1)=((i-1:Nat):Int):=λh=>by rw[ic (by omega) (by omega)];omega
  have hnx:=H8 (T:=I.length) hi;have hne:=Wl hv (i+1);rw[hnx,hF] at hne;obtain⟨hs1,M⟩:=Z4 hne;rw[hF,hs1] at hnx;refine du ?_;refine aZ (λx=>x=(C0,GA,Mf,S_,I,J)) ?_ ?_
  .refine ch (aS ?_);revert M;generalize (aJ (T:=xX) J (i:Int))=z;obtain⟨(U:Int),(z2:Int),z3⟩:=z;intro M;dsimp only at M;refine aZ (λx=>x=(aj,(C0,GA,Mf,S_,I,J),U,z2,z3)) ?_ ?_
   .refine BG (show (0:Int)<=U by omega) (ar ?_);dsimp only[au];rw[lY.2 (show U<(I.length:Int) by omega)]
   rintro x rfl;refine gz (aZ (λx=>x.2=((C0,GA,Mf,S_,I,J),U,z2,z3)/\(x.1=ai->i=0\/¬t=U)/\(x.1=aj->¬i=0/\t=U)) ?_ ?_)
   .refine aK (λh=>ar ⟨rfl,λ_=>.inl (by have h:((i:Nat):Int)=0:=h;omega),λh=>(by cases h)⟩) λh=>?_
    have h:¬((i:Nat):Int)=0:=h;dsimp only;rw[hw h];have hq:=(hp (by omega)).1;exact aR (by omega) (by first|omega|(dsimp only;omega)) (aS (ar ⟨rfl,λh2=>.inr (by rw[<- hq];simpa using h2),λh2=>⟨by omega,by rw[<- hq];simpa using h2⟩⟩))
   rintro⟨c,x⟩ ⟨e,Y,hc⟩;dsimp only at e Y hc;subst e;refine aP (λhct=>?_) λhcf=>?_
   .have hz2:z2=0:=by
     rcases Y hct with h|h
     .have:=hz h;omega
     .omega
    refine aZ (λx=>x=(aj,C0,GA,Mf,S_,I,J)) ?_ ?_
    .refine b_ (λh=>(h hz2).elim) λ_=>bF (λh=>?_) λ_=>ar rfl
     have h:(0:Int)<((i:Nat):Int):=h;dsimp only;rw[hw (by omega)];have hq:=(hp (by omega)).1;refine aR (by omega) (by first|omega|(dsimp only;omega)) (aS (ar ?_));dsimp only;rw[hq,gg.2 (show t<=U by omega)]
    rintro x rfl;exact gz (ar rfl)
   .obtain⟨h1,h2⟩:=hc hcf;obtain⟨_,p2,p3,p4⟩:=hp h1;dsimp only;rw[hw (by omega)];refine aR (by omega) (by first|omega|(dsimp only;omega)) (aS ?_);refine b_ (λh=>(h ?_).elim) λ_=>ar rfl
    try dsimp only
    rw[p2,ic (by omega) (by omega)];omega
  .rintro x rfl;refine ar ⟨by dsimp only;rw[gM (by omega)],_,_,hnx,?_⟩;revert M;rw[show i+1-1=i by omega];generalize (aJ (T:=xX) J (i:Int))=z;obtain⟨(U:Int),(z2:Int),z3⟩:=z;intro M;dsimp only at M ⊢;refine ⟨by omega,by omega,λh=>by omega,λ_=>⟨rfl,rfl,?_,?_⟩⟩
   .by_cases h0:i=0
    .have:=hz h0;omega
    .have:=hp h0;omega
   .by_cases h0:i=0
    .have:=hz h0;omega
    .have:=hp h0;omega
 .rintro x ⟨rfl,_⟩;exact dv (ar rfl)
theorem VV {c:CT} (I:WX c.1) (hl:c.2.length=c.1.2.2.2.2.1.length) (h:∀ k:Nat,k<c.2.length->GC c.2.length c.1.2.2.2.2.2 (k:Int) (aJ (T:=vZ) c.2 (k:Int))):jA c=af ai:=by
 obtain⟨w,l⟩:=c;dsimp only at I hl h;have M:l.length<=4:=by
  obtain⟨n,_,J,ht⟩:=I.t;rw[hl,ht,bE];omega
 refine cE ?_;unfold jA bw bx bD aX cL aE cC;refine aZ (λx=>x=(aj,w,l)) ?_ ?_
 .refine aV (Hh I) (fP rfl (ar ?_));dsimp only;rw[hl];simp
 rintro x rfl;refine gz (b9 l.length (λi x=>x=((i:Int),w,l)) ?_ ?_ rfl)
 .rintro i x hi rfl;refine du ?_;refine ch (aS (aV (D_ I hl.symm (h i hi)) (fP rfl (ar ?_))));dsimp only;rw[gM (by omega)]
 .rintro x rfl;exact dv (ar rfl)
theorem Pq (p:PG) (hp:PJ p) (hr4:∃ r,fk p=af r/\r.1=0):Ok (qj p) λy=>CB y.1:=by
 have hpt:=hp.t;obtain⟨r,hr,h0⟩:=hr4;obtain⟨r',hr',Y⟩:=DV p hp.x;rw[hr] at hr';cases hr';have Y:=Y h0;unfold qj aY bi bw cu dU bK cY fh pU bx jd bB bD kz aX cL aE cC;refine aV hr (b_ (λh=>(h h0).elim) λ_=>?_);refine ax (VS p hp r hr h0 Y) λw M=>?_
 have hwT:w.2.2.2.2.1.length=p.2.length:=by rw[M.t,bE];have q4:v7.length=4:=rfl;omega
 refine b9 p.2.length (λi x=>x.1.1=((bsN p i:Nat):Int)/\x.1.2=(i:Int)/\x.2.1=p/\x.2.2.1=w/\x.2.2.2.length=i/\∀ j:Nat,j<i->GC p.2.length w.2.2.2.2.2 (j:Int) (aJ (T:=vZ) x.2.2.2 (j:Int))) ?_ ?_ ⟨rfl,rfl,rfl,rfl,rfl,λj hj=>by omega⟩
 .rintro i ⟨⟨a,b⟩,p2,w2,cs⟩ hi ⟨e0,e1,e2,e3,Z,e5⟩;dsimp only at e0 e1 e2 e3 Z e5;subst e0;subst e1;have e2:=e2.symm;subst e2;have e3:=e3.symm;subst e3;have hin:((i:Nat):Int)<(p.2.length:Int):=by omega
  refine du ?_;have hm:=hp.m _ (bH (T:=yL) (xs:=p.2) (j:=(i:Int)) (by omega) hin);have hsr:=M.s i hi;have hbs:=ah9 hi;have hb1:=VH (i+1) Y;have hbo:boN p i=nu 3 (aJ (T:=yL) p.2 (i:Int)).2.2.2:=air λs hs=>(hm.s s hs).t
  rw[hbo] at hsr hbs;dsimp only;refine aR (by omega) hin (aS (aR (by omega) hin (aS ?_)));revert hm hsr hbs;generalize (aJ (T:=yL) p.2 (i:Int))=t;intro hm hsr hbs;have hk:ME 3=50+16*(50+16*50):=rfl;have hle:=cG (ME 3) hm.b;rw[hk] at hle;have hll:t.2.2.1.length=2:=by rw[hm.l];rfl
  refine ax (Ox (nT:=p.2.length) (ss:=w.2.2.2.2.2) (t:=(i:Int)) 3 (by omega) _ _ [] (by have:=hm.b;omega) hm.s ⟨M.x.c,M.x.l,M.x.d,M.x.f,M.t,hm.l⟩ hsr (by rw[hk,jS];omega)) λy hy=>bf (by simp) ?_
  obtain⟨g2,o2⟩:=y;obtain⟨q1,q2,q3⟩:=hy;dsimp only at q1 q2 q3;have q4:=q2.u;rw[hk,jS] at q4;refine ax (Ib _ _ o2 (by omega)) λy hy=>bf (by simp) ?_
  obtain⟨g3,I⟩:=y;obtain⟨hg3,U⟩:=hy;dsimp only at hg3 U;have hL:aO (al g3.2.2.2.2.2.2.1)=2:=by
   rw[hg3];show aO (al g2.2.2.2.2.2.2.1)=2;rw[q1.h];show aO (al t.2.2.1)=2;rw[hll];rfl
  have l3:I.length=o2.length+1:=by rw[U,bu];rfl
  have J:I.length-1=o2.length:=by omega
  have iq:∀ q:Nat,q<o2.length->iA I q=iA o2 q:=λq hq=>by rw[U,IJ hq]
  have iend:iA I o2.length=(28,0,0,0,0,-1):=by rw[U,xx]
  have hreg:∀ q:Nat,q<I.length->∀ j:Int,j∈iI (iA I q)->0<=j/\j<32:=λq hq j hj=>by
   by_cases h:q<o2.length
   .rw[iq q h] at hj;exact (q2.i q (kY _) h).o.r j hj
   .rw[show q=o2.length by omega,iend] at hj;simp[iI] at hj
  dsimp only;rw[hL];refine b9 I.length (λk x=>∃ rg:Int,x=((k:Int),p,w,g3,rg,cs,I)/\2<=rg/\rg<=32/\∀ q:Nat,q<k->∀ j:Int,j∈iI (iA I q)->j<rg) ?_ ?_ ⟨2,rfl,by omega,by omega,λq hq=>by omega⟩
  .rintro k x hk2 ⟨rg,rfl,r0,r1,r2⟩;refine du ?_;dsimp only;refine ch (ch (aS (aV (tK _) ?_)));have hrk:=hreg k hk2;have hrl:=CC (iA I k);revert hrk hrl;generalize hins:(aJ (T:=Bw) I (k:Int))=ins;rw[show iA I k=ins from hins];intro hrk hrl;refine b9 (iI ins).length (λj x=>∃ rg':Int,x=((j:Int),p,w,g3,rg',cs,I)/\rg<=rg'/\rg'<=32/\∀ q:Nat,q<j->rg'>aJ (T:=.int .i64) (iI ins) (q:Int)) ?_ ?_ ⟨rg,rfl,eP _,r1,λq hq=>by omega⟩
   .rintro j x hj ⟨rg',rfl,s0,s1,s2⟩;refine du ?_;refine ch (aS (ar ?_));have hz:=hrk _ (bH (T:=.int .i64) (xs:=iI ins) (j:=(j:Int)) (by omega) (by omega));dsimp only;obtain⟨z,hzj⟩:∃ z:Int,aJ (T:=.int .i64) (iI ins) (j:Int)=z:=⟨_,rfl⟩
    rw[hzj] at hz ⊢;have hz0:(0:Int)<=z:=hz.1;have hz1:(32:Int)>z:=hz.2;rw[gM (by omega),ic (n:=z+1) (by omega) (by omega)];have him:rg'<=ik rg' (z+1)/\z+1<=ik rg' (z+1)/\ik rg' (z+1)<=32:=by
     unfold ik;split
     .rename_i h;have h:=tD.1 h;omega
     .rename_i h;have h:=gg.1 (Bool.eq_false_iff.2 h);omega
    refine ⟨_,rfl,by omega,him.2.2,λq hq=>?_⟩;rcases bZ q j with h1|h1
    .have:=s2 q h1;omega
    .rw[show q=j by omega,hzj];exact Int.lt_of_lt_of_le (show z<z+1 by omega) him.2.1
   .rintro x ⟨rg',rfl,s0,s1,s2⟩;refine dv (ar ?_);refine ⟨rg',by dsimp only;rw[gM (by omega)],by omega,s1,λq hq j hj=>?_⟩;rcases bZ q k with h1|h1
    .have:=r2 q h1 j hj;omega
    .rw[show q=k by omega,show iA I k=ins from hins] at hj;exact im (T:=.int .i64) (p:=λc=>rg'>c) s2 j hj
  .rintro x ⟨rg,rfl,r0,r1,r2⟩;refine dv (Ql (bg (by simp;omega) (by omega) (Qk (ar ?_))));dsimp only;have q3':(g2.2.2.2.2.2.2.2.2:Int)=(bsN p i:Nat)+(nu 3 t.2.2.2:Nat):=q3;refine ⟨by rw[q3',hbs];omega,gM (by omega),rfl,rfl,by simp;omega,λj hj=>?_⟩;rcases bZ j i with h1|h1
   .rw[Ja (T:=vZ) (by rw[Z];exact h1)];exact e5 j h1
   .rw[show j=i by omega,I_ (T:=vZ) (by rw[Z];omega),Z,Hp];refine ⟨show (1:Int)<=rg by omega,r1,show 1<=I.length by omega,show I.length<=1000000 by omega,?_,?_,?_,?_,?_⟩
    .show (iA I (I.length-1)).1=28/\(iA I (I.length-1)).2.2.2.2.2= -1;rw[J,iend];exact⟨rfl,rfl⟩
    .show qO I 0 (I.length-1);rw[J];exact q2.b.congr λq _ hq=>iq q hq
    .show ∀ q:Nat,q<I.length-1->GI p.2.length w.2.2.2.2.2 (i:Int) (iA I q);rw[J];exact λq hq=>by rw[iq q hq];exact q2.i q (kY _) hq
    .show ∀ q:Nat,q<I.length-1->(iA I q).1=10->0<=(iA I q).2.2.1/\(iA I q).2.2.1<(I.length:Int)
     rw[J];intro q hq h10;rw[iq q hq] at h10 ⊢;have:=q2.r q (kY _) hq h10;omega
    .exact λq hq j hj=>r2 q (show q<I.length by have hq:q<I.length-1:=hq;omega) j hj
 .rintro⟨⟨a,b⟩,p2,w2,cs⟩ ⟨e0,e1,e2,e3,Z,e5⟩;dsimp only at e0 e1 e2 e3 Z e5;subst e1;subst e2;subst e3;refine dv (ar ?_);have hgc:∀ t∈cs,∃ k:Nat,GC p2.2.length w2.2.2.2.2.2 (k:Int) t:=im (T:=vZ) λk hk=>⟨k,e5 k (by omega)⟩
  refine ⟨by dsimp only;omega,λt ht=>?_,λt ht=>?_,M.x,VV M.x ?_ ?_⟩
  .obtain⟨k,hk⟩:=hgc t ht;exact hk.u
  .obtain⟨k,hk⟩:=hgc t ht;exact hk.r0
  .dsimp only;rw[Z,hwT]
  .dsimp only;rw[Z];exact e5
theorem Lf (a b:List Int) (M:a.length<=9223372036854775807) (J:∀ z∈a,0<=z/\z<=255) (hb:b.length<=1000000):Ok (sg (a,b)) TR:=by
 unfold sg;refine ax (P:=CB) ?_ λc hc=>ax (V8 b hb) λl hl=>?_
 .unfold xr;exact ax (GP a M J) λp hp=>ax (Pq p hp.1 hp.2) λy I=>ar I
 .exact ax (ajk c l hc (by omega)) λy I=>ar I
theorem Pp (a b c:List Int) (n:Int) (n0:0<=n) (n1:n<=1000000) (M:a.length<=9223372036854775807) (J:∀ z∈a,0<=z/\z<=255) (hc:c.length<=9223372036854775807) (I:∀ z∈c,0<=z/\z<=255):Ok (kT ((a,b,c),n)) TR:=by
 unfold kT bx bB aX;refine bF (λ_=>ax (H9 c n hc I) λy h=>ar h) λ_=>?_
 have h0:0<=GW (aO b.length) n/\GW (aO b.length) n<=(b.length:Int)/\GW (aO b.length) n<=n:=by
  unfold GW;split
  .rename_i h;rw[tD] at h;dsimp only[au] at h;exact⟨n0,by omega,eP _⟩
  .rename_i h;have h:=gg.1 (Bool.eq_false_iff.2 h);dsimp only[au] at h ⊢;exact⟨by omega,eP _,h⟩
 refine dG (e_ h0.1 (e_ h0.2.1 ?_));have h1:(dO (aT (GW (aO b.length) n)) b).length<=1000000:=by rw[bE];have:=h0.1;have:=h0.2.2;omega
 exact ax (Lf a _ M J h1) λy h=>ar h
def HS.zero (w:vS):HS:=⟨aG w.2.2.2.2.1.length [],aG w.2.2.2.2.1.length [],aG w.2.1.length [],aG w.2.1.length [],aG w.1.length [],aG w.2.2.2.1.length [],[],aG w.2.2.2.2.1.length [],aG w.2.2.2.2.1.length (-1)⟩
theorem HS.zero_ok {w:vS} (h1:w.1.length<=1000) (h2:w.2.1.length<=1000) (J:w.2.2.2.1.length<=1000) (I:w.2.2.2.2.1.length<=1000):XC 0 (HS.zero w):=by
 have z:(0:Int)<=0:=by omega
 exact⟨z,by omega,Bq.repl z _,Bq.repl z _,Bq.repl z _,Bq.repl z _,Bq.repl z _,Bq.repl z _,En.nil z,Bq.repl z _,by simpa[HS.zero] using I,by simp[HS.zero],by simp[HS.zero],by simp[HS.zero],by simpa[HS.zero] using h2,by simp[HS.zero],by simpa[HS.zero] using h1,by simpa[HS.zero] using J⟩
structure Fit (w:vS) (h:HS):Prop where
 T:h.T.length=w.2.2.2.2.1.length
 L:h.L.length=w.2.1.length
 C:h.C.length=w.1.length
 F:h.F.length=w.2.2.2.1.length
theorem Fit.zero (w:vS):Fit w (HS.zero w):=⟨by simp[HS.zero],by simp[HS.zero],by simp[HS.zero],by simp[HS.zero]⟩
theorem Fit.step {w:vS} {h:HS} (f:Fit w h) (e:EV):Fit w (Mm w h e).1:=by
 obtain⟨a,b,c,d,g,i,j,k⟩:=FM w h e (AC w h e);exact⟨a.trans f.T,c.trans f.L,g.trans f.C,i.trans f.F⟩
def evP (e:ET):EV:=⟨e.1.toNat,e.2.1.toNat,e.2.2.1.toNat,e.2.2.2.1⟩
theorem am1 {w:WT} {e:ET} (f:EvF w e):EvT (evP e) e:=by
 obtain⟨⟨k1,k2,ce,lk,cd,th,fu⟩,t0,_,_⟩:=f;refine ⟨(GF t0).symm,(GF (by omega)).symm,λh=>(GF ?_).symm,rfl⟩;unfold evP at h;simp only[bm,ct,f_] at h;by_cases h1:e.2.1=3\/e.2.1=4
 .exact (ce h1).1
 by_cases h2:6<=e.2.1/\e.2.1<=11
 .exact (lk h2).1
 by_cases M:16<=e.2.1/\e.2.1<=19
 .exact (cd M).1
 by_cases J:e.2.1=20\/e.2.1=21
 .exact (th J).1
 by_cases I:e.2.1=22\/e.2.1=23
 .exact (fu I).1
 omega
theorem abe {w:WT} {e:ET} (f:EvF w e) (wb:WB w) {h:HS} (I:Fit w h):EOK w h (evP e):=by
 obtain⟨⟨k1,k2,ce,lk,cd,th,fu⟩,t0,t1,J⟩:=f;have Z:=wb.t;have Y:=I.T;have U:=I.L;have f3:=I.C;have M:=I.F;unfold evP;refine ⟨by dsimp only;omega,by dsimp only;omega,by dsimp only;omega,by dsimp only;omega,λq=>?_,λq=>?_,λq=>?_,λq=>?_,λq=>?_⟩<;>dsimp only at q ⊢
 .have:=th (by omega);omega
 .have:=lk (by omega);omega
 .have g:=cd (by omega);have hl:e.2.2.1.toNat<w.2.2.1.length:=by omega
  have hm:=J (w.2.2.1.getD e.2.2.1.toNat ([],0)) (by rw[aA,aB hl];exact u_ hl);refine ⟨hl,hm.1,?_⟩;unfold NZ;have:=hm.2;have:=hm.1;omega
 .have:=ce (by omega);omega
 .have:=fu (by omega);omega
theorem jO {σ R:Type} {f:σ->Option (σ⊕R)} {Q:R->Prop} (n:Nat) (hn:n<=1000000) (I:Nat->σ->Prop) (h0:∀ i x,i<n->I i x->Ok (f x) λr=>match r with|.inl y=>I (i+1) y|.inr r=>Q r) (h1:∀ x,I n x->Ok (f x) λr=>match r with|.inl _=>False|.inr r=>Q r) {x:σ} (U:I 0 x):Ok (fH f x) Q:=by
 have key:∀ m i x,i+m=n->I i x->∃ r,iterN f (m+1) x=af r/\Q r:=by
  intro m;induction m with
  |zero=>
   intro i x hi U;have:i=n:=by omega
   subst this;obtain⟨r,M,J⟩:=h1 x U;cases r with
   |inl y=>exact J.elim
   |inr r=>exact⟨r,by rw[iterN,M],J⟩
  |succ m Y=>
   intro i x hi U;obtain⟨r,M,J⟩:=h0 i x (by omega) U;cases r with
   |inl y=>
    obtain⟨r,g3,Z⟩:=Y (i+1) y (by omega) J;exact⟨r,by rw[iterN,M];exact g3,Z⟩
   |inr r=>exact⟨r,yZ (n:=1) (by rw[iterN,M]) (by omega),J⟩
 obtain⟨r,M,J⟩:=key n 0 x (by omega) U;exact⟨r,yZ M (by omega),J⟩
theorem Nx (a b:Int):eZ (a,b)=af (decide (0<=a/\a<b)):=by
 refine cE ?_;unfold eZ iR aE;with_reducible repeat' first|(refine OS.ok ?_;constructor)|refine IM.mk λ_=>?_
 .by_cases h:a<b<;>simp[*,fO]
 .simp;omega
theorem Tk (l:List Int) (t:Int) (hl:l.length<=1000):kr (l,t)=af (l.contains t):=by
 refine cE ?_;unfold kr rA xG bd bx bD aX cL aE cC;refine ax (P:=λy:Int=>0<=y↔t∈l) ?_ λy I=>ar ?_
 .refine jO l.length (by omega) (λi x=>x=(i:Int)/\∀ j,j<i->¬l.getD j 0=t) ?_ ?_ ⟨rfl,λj hj=>by omega⟩
  .rintro i x hi ⟨rfl,hn⟩;refine du ?_;refine ch (aS (aK (λh=>ar ?_) λh=>ar ?_))
   .refine ⟨λ_=>?_,λ_=>by omega⟩;have h:t=aJ (T:=.int .i64) l (i:Int):=h;rw[h];exact bH (T:=.int .i64) (xs:=l) (by omega) (by omega)
   .refine ⟨gM (by omega),λj hj=>?_⟩;have h:¬t=l.getD i 0:=h;by_cases e:j=i
    .subst e;exact λg=>h g.symm
    .exact hn j (by omega)
  .rintro x ⟨rfl,hn⟩;refine dv (ar ?_);refine ⟨λg=>(by omega),λg=>?_⟩;obtain⟨j,hj,e⟩:=List.getElem_of_mem g;exact (hn j hj (by rw[aA,aB hj];exact e)).elim
 .by_cases h:t∈l
  .have:=I.2 h;simp[c7,h,this]
  .have:¬0<=y:=λg=>h (I.1 g)
   simp[c7,h,this]
theorem ahv (w:WT) (s:SY) (I:w.2.2.1.length<=1000) (cd:∀ c∈w.2.2.1,0<=c.2/\c.2<w.2.1.length) (e1:s.1.length=w.2.1.length) (e2:s.2.2.1.length=w.2.2.2.1.length) (e3:s.2.2.2.length=w.2.2.2.2.1.length):ka (w,s)=af ai:=by
 refine cE ?_;unfold ka tG aY bi bw dx bx jd bD aX cL aE cC;refine aZ (λx=>x=(aj,w)) ?_ ?_
 .refine b_ (λh=>(h (by dsimp only[au];omega)).elim) λ_=>b_ (λh=>(h (by dsimp only[au];omega)).elim) λ_=>ar ?_
  dsimp only[au];rw[e3];simp
 rintro x rfl;refine gz (jO w.2.2.1.length (by omega) (λi x=>x=((i:Int),w)) ?_ ?_ rfl)
 .rintro i x hi rfl;refine du ?_;refine ch (aS (aV (Nx _ _) (b_ (λh=>(h ?_).elim) λ_=>ar ?_)))
  .exact cd _ (bH (T:=Tq) (xs:=w.2.2.1) (j:=(i:Int)) (by omega) (by omega))
  .dsimp only;rw[gM (by omega)]
 .rintro x rfl;exact dv (ar rfl)
theorem ac6 (w:WT) (k o:Int) (h:NM w k o):lU (w,k,o)=af ai:=by
 refine cE ?_;obtain⟨k1,k2,ce,lk,cn,th,fu,no,mu,rw_⟩:=h;unfold lU aY bi bw cu bd bD aX aE;rcases @IE k with rfl|rfl|rfl|rfl|rfl|rfl|rfl|rfl|rfl|rfl|rfl|rfl|rfl|rfl|rfl|rfl|rfl|rfl|rfl|rfl|rfl|rfl|rfl|⟨hk,I⟩
 case inr.inr.inr.inr.inr.inr.inr.inr.inr.inr.inr.inr.inr.inr.inr.inr.inr.inr.inr.inr.inr.inr.inr=>omega
 all_goals simp only[aU,bn,sU,Nx]
 all_goals with_reducible repeat' first|(refine OS.ok ?_;constructor)|refine IM.mk λ_=>?_
 all_goals try simp only[au,qU] at*
 all_goals first|omega|exact rw_ ⟨by decide,by decide⟩|(simp only[*,Bool.not_false,cI];done)
theorem ai9 {n:Nat} (w:WT) (s:SY) (hs:SB n s) (hn:n<=1000) (t k o:Int) (he:EN w s t k o) (hr:V2 w s t k o):oD (w,s,t,k,o)=af ai:=by
 refine cE ?_;obtain⟨nm,t0,t1,cd,e1,e2,e3⟩:=id he;obtain⟨_,_,ce,lk,cn,th,fu,no,mu,rw_⟩:=nm;obtain⟨_,_,_,aq,wr,ra,rl,rr,xb,xe,ab,ae,nt,sp,jo,se,ge⟩:=hr;have hm:16<=k/\k<=19->0<=(aJ (T:=Tq) w.2.2.1 o).2/\(aJ (T:=Tq) w.2.2.1 o).2<w.2.1.length:=λh=>cd _ (bH (cn h).1 (cn h).2)
 have M:6<=k/\k<=11->kr ((aJ (T:=An) s.1 o).2,t)=af ((aJ (T:=An) s.1 o).2.contains t):=λh=>Tk _ _ (by
  have:=hs.rd _ (bH (T:=An) (lk h).1 (by have:=(lk h).2;omega));omega)
 have lk1:6<=k/\k<=11->0<=o/\o<(s.1.length:Int):=λh=>by have:=lk h;omega
 have J:t<(s.2.2.2.length:Int):=by omega
 have fu1:k=22\/k=23->0<=o/\o<(s.2.2.1.length:Int):=λh=>by have:=fu h;omega
 have th1:k=20\/k=21->0<=o/\o<(s.2.2.2.length:Int):=λh=>by have:=th h;omega
 have I:∀ {p:Prop} [Decidable p],p->decide p=ai:=λh=>aQ h
 unfold oD aY bi bw dx cY bd jd bD aX aE;refine aK (λh=>?_) λn6=>?_
 .have h:k=6:=h;exact aR (lk1 (by omega)).1 (lk1 (by omega)).2 (aS (ar (I (aq (.inl h)))))
 refine aK (λh=>?_) λU=>?_
 .have h:k=10:=h;refine gy (aR (lk1 (by omega)).1 (lk1 (by omega)).2 (aS (aK (λ_=>?_) λg=>(g (aq (.inr (.inr h)))).elim)));refine aR (lk1 (by omega)).1 (lk1 (by omega)).2 (aS (ar (ar (I ?_))));have:=wr h;dsimp only[au] at this ⊢;omega
 refine aK (λh=>?_) λZ=>?_
 .have h:k=8:=h;refine gy (aR (lk1 (by omega)).1 (lk1 (by omega)).2 (aS (aK (λ_=>?_) λg=>(g (aq (.inr (.inl h)))).elim)));refine aR (lk1 (by omega)).1 (lk1 (by omega)).2 (aS (aV (M (by omega)) (ar (ar ?_))));rw[ra h];rfl
 refine aZ (λx=>x.2=(w,s)/\(x.1=ai↔k=7\/k=11)) (aK (λh=>ar ⟨rfl,λ_=>.inl h,λ_=>I h⟩) λh=>ar ⟨rfl,λh2=>.inr (bt h2),λh2=>I (h2.resolve_left h)⟩) ?_;rintro⟨b,x⟩ ⟨e,hb⟩;dsimp only at e hb;subst e;refine aP (λh=>?_) λ_=>?_
 .have h:=hb.1 h;exact aR (lk1 (by omega)).1 (lk1 (by omega)).2 (aS (ar (I (rl h))))
 refine aK (λh=>?_) λY=>?_
 .have h:k=9:=h;refine aR (lk1 (by omega)).1 (lk1 (by omega)).2 (aS (aV (M (by omega)) (ar (rr h))))
 refine aK (λh=>ar (I (xb h))) λ_=>aK (λh=>ar (I (xe h))) λ_=>?_
 refine aK (λh=>aR t0 J (aS (ar (by have:=ab h;dsimp only at this ⊢;rw[this];rfl)))) λ_=>aK (λh=>aR t0 J (aS (ar (ae h)))) λ_=>?_
 refine aZ (λx=>x.2=(w,s)/\(x.1=ai->k=16\/k=18\/k=19)) (aK (λh=>ar ⟨rfl,λ_=>.inl h⟩) λ_=>aK (λh=>ar ⟨rfl,λ_=>.inr (.inl h)⟩) λ_=>ar ⟨rfl,λh=>.inr (.inr (bt h))⟩) ?_;rintro⟨c,x⟩ ⟨e,hc⟩;dsimp only at e hc;subst e;refine aP (λh=>?_) λ_=>?_
 .have h:=hc h;have hq:=hm (by omega);exact aR (cn (by omega)).1 (cn (by omega)).2 (aS (aR hq.1 (by rw[e1];exact hq.2) (aS (ar (I (nt h))))))
 refine aK (λh=>?_) λ_=>?_
 .have h:k=20:=h;exact gy (b_ (λ_=>aR (th1 (.inl h)).1 (th1 (.inl h)).2 (aS (ar (ar (I (sp h).2))))) λg=>((sp h).1 g).elim)
 refine aK (λh=>?_) λ_=>?_
 .have h:k=21:=h;exact gy (b_ (λ_=>aR (th1 (.inr h)).1 (th1 (.inr h)).2 (aS (ar (ar (I (jo h).2))))) λg=>((jo h).1 g).elim)
 refine aK (λh=>aR (fu1 (.inl h)).1 (fu1 (.inl h)).2 (aS (ar (by have:=se h;dsimp only at this ⊢;rw[this];rfl)))) λ_=>aK (λh=>aR (fu1 (.inr h)).1 (fu1 (.inr h)).2 (aS (ar (ge h)))) λ_=>ar rfl
theorem DZ {n:Nat} (w:WT) (s:SY) (hs:SB n s) (hn:n<=1000) (U:w.2.2.1.length<=1000) (t k o:Int) (he:EN w s t k o) (hr:V2 w s t k o):i_ (w,s,t,k,o)=af ai:=by
 refine cE ?_;obtain⟨nm,t0,t1,cd,e1,e2,e3⟩:=id he;have hrd:=ai9 w s hs hn t k o he hr;have M:t<(s.2.2.2.length:Int):=by omega
 unfold i_ aY bi bw bK dx cY bd bD aX aE;refine aZ (λx=>x=(aj,w,s)) ?_ ?_
 .refine aV (ahv w s U cd e1 e2 e3) (fP rfl (aV (Nx _ _) ?_));refine b_ (λh=>(h ⟨t0,t1⟩).elim) λ_=>aV (ac6 w k o nm) (ar rfl)
 rintro x rfl;refine gz (aR t0 M (aS ?_));refine aK (λh=>ar (aQ (hr.b h))) λn1=>?_
 refine aK (λh=>?_) λn17=>?_
 .have h:k=17:=h;obtain⟨a1,a2,a3⟩:=hr.wk h;obtain⟨J,I⟩:=nm.cd (by omega);have hq:=cd _ (bH (T:=Tq) (xs:=w.2.2.1) (j:=o) J I);refine gy (aK (λ_=>aK (λ_=>?_) λg=>(g a2).elim) λg=>(g a1).elim);exact aR J I (aS (aR hq.1 (by rw[e1];exact hq.2) (aS (ar (ar (aQ a3))))))
 refine gy (aK (λ_=>aV hrd (ar (ar rfl))) λg=>(g (hr.r n1 n17)).elim)
theorem ae0 (w:WT) (e:ET) (h1:e.2.1=1\/e.2.1=2->e.2.2.2.2.1= -1) (h2:¬(e.2.1=1\/e.2.1=2)->0<=e.2.2.2.2.1/\e.2.2.2.2.1<w.2.2.2.2.2.length/\(aJ (T:=xX) w.2.2.2.2.2 e.2.2.2.2.1).1=e.1):jy (w,e)=af ai:=by
 refine cE ?_;unfold jy aY dU cY bd bx iR bD aX aE;refine aZ (λx=>x.2=(w,e)/\(x.1=ai↔e.2.1=1\/e.2.1=2)) (aK (λh=>ar ⟨rfl,λ_=>.inl h,λ_=>rfl⟩) λh=>ar ⟨rfl,λh2=>.inr (bt h2),λh2=>aQ (h2.resolve_left h)⟩) ?_;rintro⟨b,x⟩ ⟨e1,hb⟩;dsimp only at e1 hb;subst e1;refine aP (λh=>ar (aQ (h1 (hb.1 h)))) λh=>?_
 obtain⟨a1,a2,a3⟩:=h2 λg=>by rw[hb.2 g] at h;cases h
 exact gy (eY (λ_=>du (aR a1 a2 (aS (ar (ar (aQ a3)))))) λg=>(by dsimp only at g;omega))
theorem ac4 {l:List Int} (h:Hl l) (i:Nat) (hi:i<l.length):∀ z∈l.drop (i+1),l.getD i 0<z:=by
 induction l generalizing i with
 |nil=>cases hi
 |cons a l I=>
  cases i with
  |zero=>exact λz J=>h.1 z (by simpa using J)
  |succ i=>exact I h.2 i (by simpa using hi)
theorem Rz (w:WT) (s:SN) (e:ET) (ce:e.2.1=3\/e.2.1=4->0<=e.2.2.1/\e.2.2.1<w.1.length) (de:0<e.2.2.2.2.2.1.length->e.2.1=5\/(e.2.1=3\/e.2.1=4)/\¬(aJ (T:=PP) w.1 e.2.2.1).2.2.1=0) (fr:0<e.2.2.2.2.2.2.length->e.2.1=4\/e.2.1=22) (t0:0<=e.1) (t1:e.1<s.2.2.2.length) (nd:AN (aJ (T:=.int .i64) s.2.2.2 e.1) e.2.2.2.2.2.1) (nf:AN (aJ (T:=.int .i64) s.2.2.2 e.1) e.2.2.2.2.2.2) (ld:e.2.2.2.2.2.1.length<=1000000) (lf:e.2.2.2.2.2.2.length<=1000000):eU (w,s,e)=af ai:=by
 refine cE ?_;unfold eU jk aY bi bw cu bK dx fh bd bx iR bB bD aX cL aE cC;refine aZ (λx=>x.2=(s,e)/\((e.2.1=3\/e.2.1=4)/\¬(aJ (T:=PP) w.1 e.2.2.1).2.2.1=0->x.1=ai)) ?_ ?_
 .refine aK (λh=>?_) λn3=>aK (λh=>?_) λn4=>?_
  .exact aR (ce (.inl h)).1 (ce (.inl h)).2 (aS (ar ⟨rfl,λg=>by simpa using g.2⟩))
  .exact aR (ce (.inr h)).1 (ce (.inr h)).2 (aS (ar ⟨rfl,λg=>by simpa using g.2⟩))
  .exact ar ⟨rfl,λg=>(g.1.elim n3 n4).elim⟩
 rintro⟨b,x⟩ ⟨e1,hb⟩;dsimp only at e1 hb;subst e1;refine aZ (λx=>x.1=s/\x.2.1=e/\(0<e.2.2.2.2.2.1.length->x.2.2.1=ai)/\(0<e.2.2.2.2.2.2.length->x.2.2.2=ai)) ?_ ?_
 .refine aK (λZ=>aK (λI=>ar ⟨rfl,rfl,λ_=>rfl,λ_=>rfl⟩) λI=>ar ⟨rfl,rfl,λ_=>rfl,λg=>?_⟩) λZ=>aK (λI=>ar ⟨rfl,rfl,λg=>?_,λ_=>rfl⟩) λI=>ar ⟨rfl,rfl,λg=>?_,λg=>?_⟩
  .exact aQ ((fr g).resolve_left I)
  .exact hb ((de g).resolve_left Z)
  .exact hb ((de g).resolve_left Z)
  .exact aQ ((fr g).resolve_left I)
 rintro⟨s',e',a,b'⟩ ⟨e1,e2,h1,h2⟩;dsimp only at e1 e2 h1 h2;subst e1;subst e2;have key:∀ (r:List Int),r.length<=1000000->AN (aJ (T:=.int .i64) s'.2.2.2 e'.1) r->∀ j:Nat,j<r.length->∀ z∈r.drop (j+1),aJ (T:=.int .i64) r (j:Int)<z:=λr _ h j hj z U=>ac4 h.a j hj z U
 refine jO 2 (by omega) (λi x=>x=((i:Int),s',e',a,b')) ?_ ?_ rfl
 .rintro i x hi rfl;refine du ?_;refine dG (e_ (by dsimp only;omega) (Ab (by dsimp only;omega) (aS ?_)));have hr:∃ r:List Int,aJ (T:=.sl (.int .i64)) [e'.2.2.2.2.2.1,e'.2.2.2.2.2.2] (i:Int)=r/\AN (aJ (T:=.int .i64) s'.2.2.2 e'.1) r/\r.length<=1000000/\(0<r.length->aJ (T:=.bool) [a,b'] (i:Int)=ai):=by
   match i,hi with
   |0,_=>exact⟨_,rfl,nd,ld,h1⟩
   |1,_=>exact⟨_,rfl,nf,lf,h2⟩
  obtain⟨r,er,hA,hl,Y⟩:=hr;have er':aJ (T:=.sl aM) [e'.2.2.2.2.2.1,e'.2.2.2.2.2.2] (i:Int)=r:=er;dsimp only at er' ⊢;rw[er'];refine aZ (λx=>x=(aj,s',e',a,b')) ?_ ?_
  .refine bF (λg=>?_) λ_=>ar rfl
   have g':0<r.length:=by dsimp only[au] at g;omega
   refine dG (e_ (by omega) (Ab (by omega) (ch (aS (ar ?_)))));rw[Y g'];rfl
  rintro x rfl;refine gz ?_;refine jO r.length (by omega) (λj x=>x.1.2=(j:Int)/\x.2=(s',e',a,b')/\∀ z∈r.drop j,x.1.1<z) ?_ ?_ ⟨rfl,rfl,λz U=>?_⟩
  .rintro j ⟨⟨la,ix⟩,x⟩ hj ⟨M,J,g3⟩;dsimp only at M J g3;subst M;subst J;have m:aJ (T:=.int .i64) r (j:Int)∈r:=bH (T:=.int .i64) (xs:=r) (by omega) (by omega);have m2:aJ (T:=.int .i64) r (j:Int)∈r.drop j:=by
    have:aJ (T:=.int .i64) r (j:Int)=r[j]:=by
     show r.getD j 0=_;rw[aA,aB hj];rfl
    rw[this,List.drop_eq_getElem_cons hj];exact dh
   refine du ?_;refine ch (aS (aZ (λx=>x=(aj,s',e',a,b')) ?_ ?_))
   .refine eY (λg=>?_) λ_=>aR t0 t1 (aS (ar ?_))
    .have q1:=g3 _ m2;exact cV q1 (by dsimp only at g;exact λq=>cV (Int.lt_of_lt_of_le q g) (Int.lt_irrefl _))
    .have:=(hA.m _ m).2;rw[lY.2 (show aJ (T:=.int .i64) r (j:Int)<aJ (T:=.int .i64) s'.2.2.2 e'.1 from this)]
   rintro x rfl;exact gz (ar ⟨gM (by omega),rfl,key r hl hA j hj⟩)
  .rintro⟨⟨la,ix⟩,x⟩ ⟨M,J,_⟩;dsimp only at M J;subst M;subst J;exact dv (ar (gI (·,s',e',a,b') (gM (by omega))))
  .have:=(hA.m z (by simpa using U)).1;dsimp only;omega
 .rintro x rfl;exact dv (ar rfl)
theorem alx (w:WT) (s:SN) (I:w.2.2.1.length<=1000) (t k o:Int) (he:EN w s.1 t k o) (hf:F16 w s):kQ (w,s)=af ai:=by
 obtain⟨_,_,_,cd,e1,e2,e3⟩:=he;obtain⟨M,J,f3⟩:=hf;refine cE ?_;unfold kQ aY bi bw dx bd aX aE;refine gy (aV (ahv w s.1 I cd e1 e2 e3) (Qm (aK (λ_=>aK (λ_=>ar (ar (aQ ?_))) λg=>(g ?_).elim) λg=>(g ?_).elim)));all_goals dsimp only[au];omega
theorem Hs (th:List (Int×Int×Bool)) (c:Int) (i:Nat):wl th c (i+1)=if HV c (aJ (T:=jx) th (i:Int)) then wl th c i++[(i:Int)] else wl th c i:=rfl
theorem adl {n:Nat} (w:WT) (s:SN) (hs:SB n s.1) (e:ET) (hf:F16 w s) (he:EN w s.1 e.1 e.2.1 e.2.2.1) (va:VA w s.1 s.2.1 s.2.2.1 e.1 e.2.1 e.2.2.1 e.2.2.2.1):gr (s,e)=af ai:=by
 refine cE ?_;obtain⟨t,k,o,v,si,de,fr⟩:=e;obtain⟨s1,s2,s3,s4⟩:=s;obtain⟨nm,t0,t1,cd,e1,e2,e3⟩:=he;obtain⟨_,_,ce,lk,cn,th,fu,_,_,_⟩:=nm;obtain⟨f1,f2,f3⟩:=hf;have hth:=hs.th;obtain⟨v3,Y,v5,vel⟩:=va;dsimp only at*
 unfold gr lD aY bi bw cu bK bd bx bD aX cL aE cC;refine aK (λh=>?_) λn3=>?_
 .have h:k=3:=h;obtain⟨c0,c1⟩:=ce (.inl h);exact aR c0 (by rw[f1];exact c1) (aS (ar (aQ (v3 h))))
 refine aK (λh=>?_) λZ=>?_
 .have h:k=23:=h;obtain⟨c0,c1⟩:=fu (.inr h);exact aR c0 (by rw[f2];exact c1) (aS (ar (aQ (Y h))))
 refine aK (λh=>?_) λn5=>?_
 .have h:k=5:=h;exact gy (aK (λ_=>ar (ar rfl)) λg=>ar (ar (aQ ((v5 h).resolve_left g))))
 refine aZ (λx=>x.2=((s1,s2,s3,s4),t,k,o,v,si,de,fr)/\(x.1=aj->¬k=4/\¬k=22)) (aK (λh=>ar ⟨rfl,λh2=>(by rw[aQ h] at h2;cases h2)⟩) λh=>ar ⟨rfl,λh2=>⟨h,Tt h2⟩⟩) ?_;rintro⟨b,x⟩ ⟨e,hb⟩;dsimp only at e hb;subst e;refine aP (λh=>ar rfl) λh=>?_
 obtain⟨n4,n22⟩:=hb h;have vel:=vel n3 Z n5 n4 n22;have hWl:=vF s1.2.2.2 o s1.2.2.2.length;refine aK (λh=>?_) λn18=>?_
 .have h:k=18:=h;subst h;rw[Fi] at vel;refine jO s1.2.2.2.length (by omega) (λi x=>x.1.2.2=(i:Int)/\x.2=(t,18,o,v,si,de,fr)/\x.1.1=((wl s1.2.2.2 o i).length:Int)/\(x.1.2.1=ai↔v∈wl s1.2.2.2 o i)) ?_ ?_ ⟨rfl,rfl,rfl,by simp[wl]⟩
  .rintro i ⟨⟨c,hit,ix⟩,x⟩ hi ⟨J,I,M,U⟩;dsimp only at J I M U;subst J;subst I;subst M;have hl:=vF s1.2.2.2 o i;refine du ?_;refine aZ (λx=>x.2=(t,18,o,v,si,de,fr)/\x.1.1=((wl s1.2.2.2 o (i+1)).length:Int)/\(x.1.2=ai↔v∈wl s1.2.2.2 o (i+1))) ?_ ?_
   .refine ch (aS (aZ (λx=>x=(HV o (aJ (T:=jx) s1.2.2.2 (i:Int)),t,18,o,v,si,de,fr)) ?_ ?_))
    .unfold HV;refine aK (λh=>ar ?_) λh=>ar ?_
     .dsimp only at h ⊢;rw[h];rfl
     .dsimp only at h ⊢;rw[bL h];rfl
    rintro x rfl;rw[Hs];dsimp only;cases hw:HV o (aJ (T:=jx) s1.2.2.2 (i:Int)) with
    |true=>
     refine Qm (aP (λh=>ar ⟨rfl,?_,?_⟩) λh=>ar ⟨rfl,?_,?_⟩)
     .dsimp only;rw[gM (by omega)];simp
     .simp[U.1 h]
     .dsimp only;rw[gM (by omega)];simp
     .have:¬v∈wl s1.2.2.2 o i:=λg=>by rw[U.2 g] at h;cases h
      simp[this]
    |false=>exact gz (ar ⟨rfl,rfl,U⟩)
   rintro⟨⟨c,hit'⟩,x⟩ ⟨J,I,M⟩;dsimp only at J I M;subst J;subst I;exact ar ⟨gM (by omega),rfl,rfl,M⟩
  .rintro⟨⟨c,hit,ix⟩,x⟩ ⟨J,I,M,U⟩;dsimp only at J I M U;subst J;subst I;subst M;refine dv (ax (P:=λy=>y=ai) (gy (aP (λ_=>ar (ar rfl)) λh=>?_)) λy hy=>ar hy);have hn:¬v∈wl s1.2.2.2 o s1.2.2.2.length:=λg=>by rw[U.2 g] at h;cases h
   by_cases h0:(wl s1.2.2.2 o s1.2.2.2.length).length=0
   .rw[aF h0] at vel;refine aK (λ_=>ar (ar (aQ vel))) λg=>(g (by dsimp only;omega)).elim
   .rw[ay h0] at vel;have vel:v=Bm (wl s1.2.2.2 o s1.2.2.2.length) v:=vel;exact (hn (vel▸HN v h0)).elim
 refine aK (λh=>?_) λn19=>?_
 .have h:k=19:=h;subst h;rw[aj1] at vel;refine jO s1.2.2.2.length (by omega) (λi x=>x.1.2=(i:Int)/\x.2=(t,19,o,v,si,de,fr)/\x.1.1=((wl s1.2.2.2 o i).length:Int)) ?_ ?_ ⟨rfl,rfl,rfl⟩
  .rintro i ⟨⟨c,ix⟩,x⟩ hi ⟨J,I,M⟩;dsimp only at J I M;subst J;subst I;subst M;have hl:=vF s1.2.2.2 o i;refine du ?_;refine aZ (λx=>x.2=(t,19,o,v,si,de,fr)/\x.1=((wl s1.2.2.2 o (i+1)).length:Int)) ?_ ?_
   .refine ch (aS (aZ (λx=>x=(HV o (aJ (T:=jx) s1.2.2.2 (i:Int)),t,19,o,v,si,de,fr)) ?_ ?_))
    .unfold HV;refine aK (λh=>ar ?_) λh=>ar ?_
     .dsimp only at h ⊢;rw[h];rfl
     .dsimp only at h ⊢;rw[bL h];rfl
    rintro x rfl;rw[Hs];dsimp only;cases hw:HV o (aJ (T:=jx) s1.2.2.2 (i:Int)) with
    |true=>
     refine Qm (ar ⟨rfl,?_⟩);dsimp only;rw[gM (by omega)];simp
    |false=>exact gz (ar ⟨rfl,rfl⟩)
   rintro⟨c,x⟩ ⟨J,I⟩;dsimp only at J I;subst J;subst I;exact ar ⟨gM (by omega),rfl,rfl⟩
  .rintro⟨⟨c,ix⟩,x⟩ ⟨J,I,M⟩;dsimp only at J I M;subst J;subst I;subst M;exact dv (ar (aQ vel))
 exact ar (aQ (by rw[ahd _ _ _ _ _ _ n18 n19] at vel;exact vel))
theorem ZQ (x:Int×Int×Bool) (c:Int):mh (x,c)=af (HV c x):=by
 refine cE ?_;unfold mh HV bd aE;refine gy (aK (λh=>ar (ar ?_)) λh=>ar (ar ?_))
 .have h:x.1=3:=h;rw[h];rfl
 .have h:¬x.1=3:=h;rw[bL h];rfl
theorem abq {n:Nat} (s:SY) (hs:SB n s):kq s=af (s.2.1,s.1,s.2.2.1,s.2.2.2):=by
 refine cE ?_;obtain⟨s1,s2,J,I⟩:=s;have hn:=hs.n1;have hlk:=hs.lk;have hdn:=hs.dn;have hth:=hs.th;have hrd:=hs.rd;dsimp only at hlk hdn hth hrd;unfold kq rT aY bK ck bx bB bD aX cL cC;dsimp only[au];refine dG (dG (e_ (by omega) (e_ (by omega) (bg (by simp;omega) (by omega) ?_))));refine jO s1.length (by omega) (λi x=>∃ c d,x=((i:Int),(s1,s2,J,I),c,d)/\d.length=s1.length/\∀ j,j<i->d.getD j (0,[])=s1.getD j (0,[])) ?_ ?_ ⟨_,_,rfl,by simp,λj hj=>by omega⟩
 .rintro i x hi ⟨c,d,rfl,hd,he⟩;have hr:=hrd _ (bH (T:=An) (xs:=s1) (j:=(i:Int)) (by omega) (by omega));refine du ?_;refine ch (aS (aV (x:=(aJ (T:=An) s1 (i:Int)).2) (cE ?_) ?_))
  .exact bg (by dsimp only;omega) (by omega) (ar rfl)
  refine ch (ch (ar ⟨c,d.set i (aJ (T:=An) s1 (i:Int)),?_,by simp[hd],λj hj=>?_⟩))
  .dsimp only;rw[gM (by omega)];rfl
  .by_cases e:i=j
   .subst e;rw[aA,List.getElem?_set_self (by omega)];rfl
   .rw[aA,List.getElem?_set_ne e,<-aA];exact he j (by omega)
 .rintro x ⟨c,d,rfl,hd,he⟩;have:d=s1:=by
   refine dA hd λj Y M=>?_
   have:=he j M;rw[aA,aA,aB Y,aB M] at this;exact this
  subst this;refine dv (ax (P:=λy=>y=(s2,d,J,I)) ?_ λy U=>ar U);refine aV (x:=J) (cE (bg (by dsimp only;omega) (by omega) (ar rfl))) (aV (x:=I) (cE (bg (by dsimp only;omega) (by omega) (ar rfl))) (ar rfl))
theorem Xj (l:List Int) (i u:Int):Bm (l++[i]) u=if l.length=0 then i else if i=u then i else Bm l u:=by
 unfold Bm;cases l with
 |nil=>
  by_cases h:u=i
  .subst h;simp
  .simp[h];rfl
 |cons a r=>
  have e1:¬(a::r++[i]).length=0:=by simp
  have e2:¬(a::r).length=0:=by simp
  simp only[ay e1,ay e2];by_cases h:i=u
  .subst h;simp
  .have h':¬u=i:=λg=>h g.symm
   rw[ay h];have:(a::r++[i]).contains u=(a::r).contains u:=by simp[h']
   rw[this];rfl
theorem O_ {th:List (Int×Int×Bool)} {c u:Int} {i:Nat} (h:¬(wl th c i).length=0):0<=Bm (wl th c i) u/\Bm (wl th c i) u<i:=by
 have:=q_.1 (HN u h);exact⟨this.1,this.2.1⟩
theorem Kl {l:List Int} {u:Int} (h:l.length=0):Bm l u= -1:=by unfold Bm;rw[aF h]
theorem ae5 (s:SY) (o u:Int) (hs:s.2.2.2.length<=1000):jD ((s.2.1,o,u),s.1,s.2.2.1,s.2.2.2)=af (Bm (wl s.2.2.2 o s.2.2.2.length) u,s.1,s.2.2.1,if (wl s.2.2.2 o s.2.2.2.length).length=0 then s.2.2.2 else xY s.2.2.2 (Bm (wl s.2.2.2 o s.2.2.2.length) u) 4):=by
 refine cE ?_;obtain⟨s1,s2,J,I⟩:=s;dsimp only at hs ⊢;unfold jD qz aY bi bK ck bx iR kz aX cL aE cC;dsimp only[au];refine jO I.length (by omega) (λi x=>x=((Bm (wl I o i) u,(i:Int)),s1,J,I,s2)) ?_ ?_ rfl
 .rintro i x hi rfl;refine du ?_;refine aZ (λx=>x=(Bm (wl I o (i+1)) u,s1,J,I,s2)) ?_ ?_
  .refine ch (ch (aS ?_));refine aZ (λx=>x=(decide (HV o (aJ (T:=jx) I (i:Int))=ai/\((wl I o i).length=0\/(i:Int)=u)),s1,J,I,s2)) ?_ ?_
   .refine aV (ZQ _ _) (aP (λh=>?_) λh=>ar ?_)
    .have h:HV o (aJ (T:=jx) I (i:Int))=ai:=h;refine bF (λg=>ar ?_) λg=>ar ?_
     .have:(wl I o i).length=0:=vE λq=>by have:=(O_ (u:=u) q).1;dsimp only at g;omega
      simp[h,this]
     .have:¬(wl I o i).length=0:=λq=>by have:=Kl (u:=u) q;dsimp only at g;omega
      simp[h,this]
    .have h:HV o (aJ (T:=jx) I (i:Int))=aj:=h;simp[h]
   rintro x rfl;rw[Hs];refine aK (λh=>ar ?_) λh=>ar ?_
   .rw[aF h.1,Xj];rcases h.2 with g|g
    .rw[aF g]
    .rw[aF g];simp
   .by_cases g:HV o (aJ (T:=jx) I (i:Int))=ai
    .rw[aF g,Xj,ay λq=>h ⟨g,.inl q⟩,ay λq=>h ⟨g,.inr q⟩]
    .rw[ay g]
  rintro x rfl;exact ar (by dsimp only;rw[gM (by omega)])
 .rintro x rfl;refine dv (ax (P:=λy=>y=(Bm (wl I o I.length) u,s1,J,if (wl I o I.length).length=0 then I else xY I (Bm (wl I o I.length) u) 4)) ?_ λy M=>ar M);refine aZ (λx=>x=(s1,J,if (wl I o I.length).length=0 then I else xY I (Bm (wl I o I.length) u) 4)) ?_ ?_
  .refine eY (λg=>?_) λg=>ar ?_
   .have h0:¬(wl I o I.length).length=0:=λq=>by have:=Kl (u:=u) q;dsimp only at g;omega
    have hp:=O_ (u:=u) h0;refine aR hp.1 hp.2 (aR hp.1 hp.2 (ar ?_));rw[ay h0];rfl
   .have:(wl I o I.length).length=0:=vE λq=>by have:=(O_ (u:=u) q).1;dsimp only at g;omega
    rw[aF this]
  rintro x rfl;exact ar rfl
theorem ae9 (th:List (Int×Int×Bool)) (l:List Int) (i:Int):CJ th (l++[i])=xY (CJ th l) i 4:=by unfold CJ;rw[dP];rfl
theorem ae8 (l:List Int):∀ (th:List (Int×Int×Bool)) (j:Int),0<=j->(∀ z∈l,0<=z/\z<th.length/\¬z=j)->aJ (T:=jx) (CJ th l) j=aJ (T:=jx) th j:=by
 induction l with
 |nil=>intro th j _ _;rfl
 |cons x r J=>
  intro th j hj h;have I:=h x (by simp);refine (J (xY th x 4) j hj λz M=>?_).trans ?_
  .have:=h z (by simp[M]);unfold xY;rw[bT];exact this
  .unfold xY;rw[rF (T:=jx) th x j _ I.1 I.2.1 hj,ay λq=>I.2.2 q.symm]
theorem T9 (s:SY) (o:Int) (hs:s.2.2.2.length<=1000):gQ ((s.2.1,o),s.1,s.2.2.1,s.2.2.2)=af (((wl s.2.2.2 o s.2.2.2.length).length:Int),s.1,s.2.2.1,CJ s.2.2.2 (wl s.2.2.2 o s.2.2.2.length)):=by
 refine cE ?_;obtain⟨s1,s2,J,I⟩:=s;dsimp only at hs ⊢;unfold gQ mr aY bi bK dx ck bx kz aX cL aE cC;dsimp only[au];refine jO I.length (by omega) (λi x=>x=((((wl I o i).length:Int),(i:Int)),s1,J,CJ I (wl I o i),s2)) ?_ ?_ rfl
 .rintro i x hi rfl;have hl:=vF I o i;have hg:aJ (T:=jx) (CJ I (wl I o i)) (i:Int)=aJ (T:=jx) I (i:Int):=ae8 _ _ _ (by omega) λz M=>by have:=q_.1 M;exact⟨this.1,by omega,by omega⟩
  have hq:=Hz (wl I o i) I;refine du ?_;refine aZ (λx=>x=(((wl I o (i+1)).length:Int),s1,J,CJ I (wl I o (i+1)),s2)) ?_ ?_
  .refine ch (ch (aS (aV (ZQ _ _) ?_)));rw[Hs];refine aP (λh=>?_) λh=>ar ?_
   .have h:HV o (aJ (T:=jx) I (i:Int))=ai:=hg▸h;refine ch (ch (ar ?_));rw[aF h,ae9];dsimp only;rw[gM (by omega)];simp only[bu,bY,jS];rfl
   .have h:HV o (aJ (T:=jx) I (i:Int))=aj:=hg▸h;rw[h];rfl
  rintro x rfl;exact ar (by dsimp only;rw[gM (by omega)])
 .rintro x rfl;exact dv (ar rfl)
theorem agk {n:Nat} (w:WT) (s:SY) (hs:SB n s) (hn:n<=1000) (U:w.2.2.1.length<=1000) (t k o u:Int) (he:EN w s t k o) (hr:V2 w s t k o) (J:¬k=8) (I:¬k=9):gR (w,s,t,k,o,u)=af ((qX w s t k o u).1,(qX w s t k o u).2,ai):=by
 refine cE ?_;unfold gR aY bi bw cu dU bK dx cY fh kB ck bd bB bD kz aE;refine aV (DZ w s hs hn U t k o he hr) (fP rfl (aV (abq s hs) ?_));suffices hmain:Ok _ _ from aZ (λx=>((x.2.2.2.1,x.2.1,x.2.2.2.2),x.1)=qX w s t k o u) hmain λx M=>ar (by rw[<- M])
 obtain⟨nm,t0,t1,cd,e1,e2,e3⟩:=id he;obtain⟨_,_,ce,lk,cn,th,fu⟩:=nm;have hm:16<=k/\k<=19->0<=(aJ (T:=Tq) w.2.2.1 o).2/\(aJ (T:=Tq) w.2.2.1 o).2<w.2.1.length:=λh=>cd _ (bH (cn h).1 (cn h).2)
 rcases @IE k with rfl|rfl|rfl|rfl|rfl|rfl|rfl|rfl|rfl|rfl|rfl|rfl|rfl|rfl|rfl|rfl|rfl|rfl|rfl|rfl|rfl|rfl|rfl|⟨hk,Y⟩
 case inr.inr.inr.inr.inr.inr.inr.inr.inr.inr.inr.inr.inr.inr.inr.inr.inr.inr.inr.inr.inr.inr.inr=>omega
 all_goals first|exact (J rfl).elim|exact (I rfl).elim|skip
 all_goals simp only[aU,bn,sU]
 all_goals with_reducible repeat' first|(refine OS.ok ?_;constructor)|refine IM.mk λ_=>?_
 all_goals try simp only[au,qU] at*
 all_goals try rw[bT]
 all_goals first|omega|exact (hm ⟨by decide,by decide⟩).1|exact e1▸(hm ⟨by decide,by decide⟩).2|exact rfl|skip
 .refine aV (ae5 s o u hs.th) (bf ?_ (ar ?_))
  .have:al (if (wl s.2.2.2 o s.2.2.2.length).length=0 then s.2.2.2 else xY s.2.2.2 (Bm (wl s.2.2.2 o s.2.2.2.length) u) 4)=s.2.2.2.length:=by
    split
    .rfl
    .exact bT ..
   dsimp only;rw[this];simp
  .rw[Fi];by_cases h:(wl s.2.2.2 o s.2.2.2.length).length=0
   .rw[aF h,aF h,Kl h]
   .rw[ay h,ay h]
 .refine aV (T9 s o hs.th) (bf ?_ (ar rfl));dsimp only;rw[Hz];simp
def AH:Nat->List (List Int)
 |0=>[[]]
 |m+1=>AH m++(AH m).map ((3-(m:Int))::·)
theorem Mk:∀ m,[]∈AH m
 |0=>by simp[AH]
 |m+1=>by simp[AH,Mk m]
theorem Ea:∀ (m:Nat) (l:List Int),Hl l->(∀ z∈l,4-(m:Int)<=z/\z<4)->l∈AH m
 |m,[],_,_=>Mk m
 |0,a::r,_,h=>by have:=h a (by simp);omega
 |m+1,a::r,hA,h=>by
  have J:=h a (by simp);rw[AH,bP];by_cases e:a=3-(m:Int)
  .refine .inr (c_.2 ⟨r,Ea m r hA.2 λz I=>?_,by rw[e]⟩);have:=h z (by simp[I]);have:=hA.1 z I;omega
  .refine .inl (Ea m (a::r) hA λz I=>?_);have:=h z I;rcases bm.1 I with rfl|I
   .omega
   .have:=hA.1 z I;omega
theorem agp {l:List Int} (h:Hl l) (h2:∀ z∈l,0<=z/\z<4):l∈AH 4:=Ea 4 l h λz I=>by have:=h2 z I;omega
def in4:List Int:=[0,1,2,3]
theorem WN {t:Int} (h0:0<=t) (h1:t<4):t∈in4:=by
 have:t=0\/t=1\/t=2\/t=3:=by omega
 rcases this with rfl|rfl|rfl|rfl<;>simp[in4]
def ale (l:List Int) (t:Int):Bool:=l.contains t||((wA (l++[t])==af (xg l [t]))&&(lB (xg l [t])==af (xg l [t]))&&aC (xg l [t]).length (l++[t]).length)
def ama (l:List Int) (t:Int):Bool:= !l.contains t||(ja (l,t)==af (t,wo l t))
theorem adq:((AH 4).all λl=>in4.all λt=>ale l t)=ai:=by kernel_rfl
theorem aey:((AH 4).all λl=>in4.all λt=>ama l t)=ai:=by kernel_rfl
theorem srt8 {l:List Int} {t:Int} (h:Hl l) (h2:∀ z∈l,0<=z/\z<4) (h0:0<=t) (h1:t<4) (hn:¬t∈l):wA (l++[t])=af (xg l [t])/\lB (xg l [t])=af (xg l [t])/\(xg l [t]).length=(l++[t]).length:=by
 have:=gp.1 (gp.1 adq l (agp h h2)) t (WN h0 h1);unfold ale at this;have hc:l.contains t=aj:=by simp[hn]
 rw[hc,Bool.false_or,av,av] at this;exact⟨eq_of_beq this.1.1,eq_of_beq this.1.2,aw this.2⟩
theorem del8 {l:List Int} {t:Int} (h:Hl l) (h2:∀ z∈l,0<=z/\z<4) (h0:0<=t) (h1:t<4) (hn:l.contains t=ai):ja (l,t)=af (t,wo l t):=by
 have:=gp.1 (gp.1 aey l (agp h h2)) t (WN h0 h1);unfold ama at this;rw[hn,Bool.not_true,Bool.false_or] at this;exact eq_of_beq this
theorem af8 (a0 a1 a2:Int) (r0 r1 r2:List Int) (h:Int) (d:List Bool) (th:List (Int×Int×Bool)) (h0:r0.length<=1000) (h1:r1.length<=1000) (h2:r2.length<=1000) (hd:d.length<=1000) (ht:th.length<=1000):mX ([(a0,r0),(a1,r1),(a2,r2)],h,d,th)=af ((h,d,th),(a0,a1,a2),r0,r1,r2):=by
 refine cE ?_;have I:∀ l:List Int,l.length<=1000->oU l=af l:=λl hl=>cE (bg (by omega) (by omega) (ar rfl))
 unfold mX aY bK bx bB bD aX aE;refine bf rfl (aZ (λx=>x=(([(a0,r0),(a1,r1),(a2,r2)],h,d,th),0,(a0,a1,a2),r0,r1,r2)) ?_ ?_)
 .exact fG rfl (bf rfl (aS (aV (I _ h0) (fG rfl (bf rfl (aS (aV (I _ h1) (fG rfl (bf rfl (aS (aV (I _ h2) (fP rfl (ar rfl)))))))))))))
 rintro x rfl;refine aV (x:=d) (cE (bg (by dsimp only;omega) (by omega) (ar rfl))) (aV (x:=th) (cE (bg (by dsimp only;omega) (by omega) (ar rfl))) (ar rfl))
theorem agl {n:Nat} (w:WT) (s:SY) (hs:SB n s) (hn:n<=1000) (I:w.2.2.1.length<=1000) (t k o u:Int) (he:EN w s t k o) (hr:V2 w s t k o) (hk:k=8\/k=9):gR (w,s,t,k,o,u)=ah:=by
 have h1:=DZ w s hs hn I t k o he hr;have h2:=abq s hs;rcases hk with rfl|rfl
 .unfold gR aY bi bw cu dU bK dx cY fh kB ck bd bB bD kz aE;simp only[h1,h2,aU,bn,sU];cases fe o (al s.1)<;>rfl
 .unfold gR aY bi bw cu dU bK dx cY fh kB ck bd bB bD kz aE;simp only[h1,h2,aU,bn,sU];cases fe o (al s.1)<;>rfl
theorem agj {n:Nat} (w:WT) (s:SY) (hs:SB n s) (hn:n<=900) (Y:w.2.2.1.length<=1000) (t k u:Int) (he:EN w s t k 2) (hr:V2 w s t k 2) (hk:k=8\/k=9) (Z:s.1.length=3) (hA:Hl (aJ (T:=An) s.1 2).2) (I:∀ z∈(aJ (T:=An) s.1 2).2,0<=z/\z<4) (M:t<4):kU (w,s,t,k,2,u)=af ((qX w s t k 2 u).1,(qX w s t k 2 u).2,ai):=by
 have h1:=DZ w s hs (by omega) Y t k 2 he hr;have t0:=he.t0;have ra:=hr.ra;have rr:=hr.rr;have hrd:=hs.rd;have hdn:=hs.dn;have hth:=hs.th;obtain⟨s1,h,d,th⟩:=s
 match s1,Z with
 |[(a0,r0),(a1,r1),(a2,r2)],_=>
  have g0:r0.length<=n:=hrd (a0,r0) (by simp);have g1:r1.length<=n:=hrd (a1,r1) (by simp);have g2:r2.length<=n:=hrd (a2,r2) (by simp);have hA:Hl r2:=hA;have I:∀ z∈r2,0<=z/\z<4:=I;dsimp only at hdn hth;have hc:=af8 a0 a1 a2 r0 r1 r2 h d th (by omega) (by omega) (by omega) hdn hth;refine cE ?_;unfold kU aY bi bw cu dU kC dx cY fh pU bd uO bB aE;rcases hk with rfl|rfl
  .have ra:r2.contains t=aj:=ra rfl;obtain⟨J,U,q3⟩:=srt8 hA I t0 M (by simpa using ra);simp only[h1,hc,aU,bn,sU];refine aZ (λx=>x=(0,(h,d,th),0,(((a0,r0),(a1,r1),a2)),ai,xg r2 [t])) ?_ ?_
   .refine bg (by simp;omega) (by omega) (aV J (bf ?_ (aV U (bf ?_ (ar ?_)))))
    .rw[q3];simp
    .simp
    .rfl
   rintro x rfl;exact ar rfl
  .have rr:r2.contains t=ai:=rr rfl;have J:=del8 hA I t0 M rr;simp only[h1,hc,aU,bn,sU];refine aZ (λx=>x=(0,(h,d,th),0,(((a0,r0),(a1,r1),a2)),aj,wo r2 t)) ?_ ?_
   .exact aV J (bf (by simp) (ar rfl))
   rintro x rfl;exact ar rfl
theorem akw {n:Nat} (w:WT) (s:SY) (hs:SB n s) (hn:n<=900) (I:w.2.2.1.length<=1000) (t k o u:Int) (he:EN w s t k o) (hr:V2 w s t k o) (h2:k=8\/k=9->o=2) (M:s.1.length=3) (hA:∀ l∈s.1,Hl l.2/\∀ z∈l.2,0<=z/\z<4) (J:t<4):rP (w,s,t,k,o,u)=af ((qX w s t k o u).1,(qX w s t k o u).2,ai):=by
 unfold rP;by_cases hk:k=8\/k=9
 .have:=h2 hk;subst this;have hg:=hA _ (bH (T:=An) (xs:=s.1) (j:=2) (by omega) (by omega));rw[agl w s hs (by omega) I t k 2 u he hr hk,agj w s hs hn I t k u he hr hk M hg.1 hg.2 J];rfl
 .rw[agk w s hs (by omega) I t k o u he hr (λh=>hk (.inl h)) λh=>hk (.inr h)];rfl
theorem Xh (l:List Int) (h:l.length<=100000):yW l=af l:=cE (bg (by omega) (by omega) (ar rfl))
theorem af9 (l:List Int) (h:l.length<=100000):oU l=af l:=cE (bg (by omega) (by omega) (ar rfl))
theorem an0 {n:Nat} (w:WT) (s:SN) (e:ET) (hs:NB n s) (hn:n<=900) (U:w.2.2.1.length<=1000) (Y:F16 w s) (J:EN w s.1 e.1 e.2.1 e.2.2.1) (hS:S16 w s e) (ld:e.2.2.2.2.2.1.length<=1000000) (lf:e.2.2.2.2.2.2.length<=1000000) (h2:e.2.1=8\/e.2.1=9->e.2.2.1=2) (h3:s.1.1.length=3) (hA:∀ l∈s.1.1,Hl l.2/\∀ z∈l.2,0<=z/\z<4) (t4:e.1<4):fM (w,s,e)=af (nxP w s e,ai):=by
 refine cE ?_;obtain⟨rd,q1,q2,de,fr,nd,nf,va⟩:=id hS;obtain⟨nm,t0,t1,cd,e1,e2,e3⟩:=id J;obtain⟨k1,k2,ce,lk,cn,th,fu,_,_,_⟩:=nm;obtain⟨f1,f2,f3⟩:=id Y;have hsc:=hs.c;have hsf:=hs.f;have hsk:=hs.k;unfold fM aY bi bw bK dx cY ck bd bx iR kz aX aE cC;refine aZ (λx=>x=(aj,w,s,e,0)) ?_ ?_
 .refine aV (alx w s U _ _ _ J Y) (fP rfl (dv (eY (λg=>(by dsimp only[au] at g;omega)) λ_=>dv (ar ?_))));rw[gg.2 (show e.2.1<=23 by omega)]
 rintro x rfl;refine gz (aZ (λx=>x=(aj,w,s,e,0)) ?_ ?_)
 .exact aV (DZ w s.1 hs.sb (by omega) U _ _ _ J rd) (fP rfl (aV (ae0 w e q1 q2) (fP rfl (aV (Rz w s e (λh=>ce h) de fr t0 (by rw[f3];exact t1) nd nf ld lf) (fP rfl (aV (adl w s hs.sb e Y J va) (ar rfl)))))))
 rintro x rfl;refine gz (aZ (λx=>x.2=(w,s,e,0)/\qX w s.1 e.1 e.2.1 e.2.2.1 x.1=qX w s.1 e.1 e.2.1 e.2.2.1 e.2.2.2.1) ?_ ?_)
 .exact aK (λ_=>ar ⟨rfl,rfl⟩) λh=>ar ⟨rfl,Xu _ _ _ _ _ _ _ h⟩
 rintro⟨u,x⟩ ⟨Z,hu⟩;dsimp only at Z hu;subst Z;refine aV (akw w s.1 hs.sb hn U _ _ _ u J rd h2 h3 hA t4) (fP rfl (aV (Xh _ (by dsimp only;omega)) (aV (Xh _ (by dsimp only;omega)) (aV (af9 _ (by dsimp only;omega)) ?_))));rw[hu];refine aZ (λx=>x.1=e/\x.2.2.1=(qX w s.1 e.1 e.2.1 e.2.2.1 e.2.2.2.1).1/\x.2.2.2.1=YT s.2.1 e/\x.2.2.2.2.1=ZI s.2.2.1 e/\x.2.2.2.2.2=s.2.2.2) ?_ ?_
 .unfold YT ZI;refine aK (λh=>?_) λh=>aK (λh'=>?_) λh'=>ar ⟨rfl,rfl,(ay h).symm,(ay h').symm,rfl⟩
  .have h:e.2.1=4:=h;have I:=ce (.inr h);exact aR I.1 (by rw[f1];exact I.2) (aR I.1 (by rw[f1];exact I.2) (ar ⟨rfl,rfl,(aF h).symm,(ay (by omega)).symm,rfl⟩))
  .have h:e.2.1=22:=h';have I:=fu (.inl h);exact aR I.1 (by rw[f2];exact I.2) (aR I.1 (by rw[f2];exact I.2) (ar ⟨rfl,rfl,(ay (by omega)).symm,(aF h).symm,rfl⟩))
 rintro⟨x1,x2,x3,x4,x5,x6⟩ ⟨h1,h2,h4,h5,h6⟩;simp only at h1 h2 h4 h5 h6;subst h1;subst h2;subst h4;subst h5;subst h6;have M:x1.1<(s.2.2.2.length:Int):=by rw[f3];exact t1
 exact aR t0 M (aR t0 M (aS (aR t0 M (aR t0 M (ar rfl)))))
theorem YX (r:List Bool) (e:ET) (h1:∀ y∈e.2.2.2.2.2.1,0<=y/\r.getD y.toNat aj=ai) (h2:∀ y∈e.2.2.2.2.2.2,0<=y/\r.getD y.toNat aj=ai) (ld:e.2.2.2.2.2.1.length<=1000000) (I:e.2.2.2.2.2.2.length<=1000000):ci (r,e)=af ai:=by
 refine cE ?_;unfold ci kg dU kB bx iR bB bD aX cL aE cC;refine jO 2 (by omega) (λi x=>x=(i:Int)) ?_ ?_ rfl
 .rintro i x hi rfl;refine bF (λ_=>?_) λg=>(by omega)
  refine dG (e_ (by omega) (Ab (by omega) (aS ?_)));have hr:∃ l:List Int,aJ (T:=.sl (.int .i64)) [e.2.2.2.2.2.1,e.2.2.2.2.2.2] (i:Int)=l/\(∀ y∈l,0<=y/\r.getD y.toNat aj=ai)/\l.length<=1000000:=by
   match i,hi with
   |0,_=>exact⟨_,rfl,h1,ld⟩
   |1,_=>exact⟨_,rfl,h2,I⟩
  obtain⟨l,J,hA,hl⟩:=hr;have er':aJ (T:=.sl aM) [e.2.2.2.2.2.1,e.2.2.2.2.2.2] (i:Int)=l:=J;dsimp only at er' ⊢;rw[er'];refine jO l.length (by omega) (λj x=>x=(j:Int)) ?_ ?_ rfl
  .rintro j x hj rfl;refine du ?_;have m:=hA _ (bH (T:=.int .i64) (xs:=l) (j:=(j:Int)) (by omega) (by omega));refine ch (aS (aZ (λx=>x=aj) ?_ ?_))
   .revert m;generalize aJ (T:=.int .i64) l (j:Int)=z;intro m;have M:z.toNat<r.length:=by
     rcases bZ z.toNat r.length with g|g
     .exact g
     .have:=m.2;rw[aA,bR g] at this;cases this
    refine bF (λg=>(by have:=m.1;omega)) λ_=>eY (λg=>(by have:=m.1;dsimp only[au] at g;omega)) λ_=>aR m.1 (by have:=m.1;omega) (aS (ar ?_))
    have:aJ (T:=.bool) r z=ai:=m.2;show (!aJ (T:=.bool) r z)=aj;rw[this];rfl
   rintro x rfl;exact gz (ar (gM (by omega)))
  .rintro x rfl;exact dv (ar (gM (by omega)))
 .rintro x rfl;exact bF (λg=>(by omega)) λ_=>ar rfl
abbrev W8 (n:Nat) (s:List (Int×Int×Int)):WT:=(C0,GA,Mf,S_,v7.take n,s)
theorem WX.w8 {w:WT} (U:WX w):∃ n,(n=1\/n=2\/n=3\/n=4)/\w=W8 n w.2.2.2.2.2:=by
 obtain⟨h1,h2,M,J,⟨n,n1,Y,I⟩,_,_⟩:=U;obtain⟨c,l,d,f,t,s⟩:=w;dsimp only at h1 h2 M J I;subst h1;subst h2;subst M;subst J;subst I;exact⟨n,by omega,rfl⟩
abbrev sn8 (w:WT):SN:=(PA w,ce0 w,fu0 w,aG w.2.2.2.2.1.length 0)
theorem H7 (s:List (Int×Int×Int)):di (W8 1 s)=af (sn8 (W8 1 s)):=by kernel_rfl
theorem Z2 (s:List (Int×Int×Int)):di (W8 2 s)=af (sn8 (W8 2 s)):=by kernel_rfl
theorem st3 (s:List (Int×Int×Int)):di (W8 3 s)=af (sn8 (W8 3 s)):=by kernel_rfl
theorem st4 (s:List (Int×Int×Int)):di (W8 4 s)=af (sn8 (W8 4 s)):=by kernel_rfl
theorem Ca {w:WT} (I:WX w):di w=af (sn8 w):=by
 obtain⟨n,hn,e⟩:=I.w8;rw[e];rcases hn with rfl|rfl|rfl|rfl
 .exact H7 _
 .exact Z2 _
 .exact st3 _
 .exact st4 _
abbrev VN4:List (List UInt8):=[[120],[121],[118],[113]]
theorem vc8:gX C0=af (VN4,ai):=by kernel_rfl
theorem vn1 (s:List (Int×Int×Int)):dM (W8 1 s,VN4)=af ai:=by kernel_rfl
theorem vn2 (s:List (Int×Int×Int)):dM (W8 2 s,VN4)=af ai:=by kernel_rfl
theorem vn3 (s:List (Int×Int×Int)):dM (W8 3 s,VN4)=af ai:=by kernel_rfl
theorem vn4 (s:List (Int×Int×Int)):dM (W8 4 s,VN4)=af ai:=by kernel_rfl
theorem vs8 {w:WT} (M:WX w) (hb:VL w):fV w=af ai:=by
 have hv:=M.v;have hs:=M.s;have ht:=hb.t0;unfold SV0 at hv;refine cE ?_;unfold fV kJ aY bi cu cY bx jd bD aX cL aE cC;refine jO w.2.2.2.2.2.length (by omega) (λi x=>∃ t n:Int,x=((t,n,(i:Int)),w)/\K0 w.2.2.2.2.1.length (w.2.2.2.2.2.take i)=af (t,n)/\0<=t/\t<w.2.2.2.2.1.length/\0<=n/\n<=i) ?_ ?_ ⟨0,0,rfl,rfl,by omega,by omega,by omega,by omega⟩
 .rintro i x hi ⟨t,n,rfl,h1,t0,t1,n0,n1⟩;refine du ?_;refine ch (aS ?_);have h2:=Wl hv (i+1);have I:K0 w.2.2.2.2.1.length (w.2.2.2.2.2.take (i+1))=Tr w.2.2.2.2.1.length (af (t,n)) (aJ (T:=xX) w.2.2.2.2.2 (i:Int)):=by rw[H8 hi,h1]
  rw[I] at h2;dsimp only;revert h2 I;change _->_->Ok _ _;generalize aJ (T:=xX) w.2.2.2.2.2 (i:Int)=z;intro h2 I;obtain⟨(a:Int),(b:Int),(c:Int)⟩:=z;have Y:(a=t/\b=n)\/(t<a/\a<w.2.2.2.2.1.length/\b=0):=by
   simp only[Tr] at h2;split at h2
   .rename_i h;exact .inl h
   .split at h2
    .rename_i h;exact .inr h
    .exact (h2 rfl).elim
  refine aZ (λx=>x=(aj,w,a,b,c)) ?_ ?_
  .refine dv (ar ?_);dsimp only;rw[lY.2 (by dsimp only[au];omega)]
  rintro x rfl;refine gz ?_;rcases Y with ⟨rfl,rfl⟩|⟨U,J,rfl⟩
  .refine aZ (λx=>x=((a,b),w,a,b,c)) (dv (ar rfl)) ?_;rintro x rfl;refine b_ (λg=>(g rfl).elim) λ_=>ar ⟨a,b+1,?_,?_,t0,t1,by omega,by omega⟩
   .dsimp only;rw[ic (n:=b+1) (by omega) (by omega),gM (by omega)]
   .rw[I];simp[Tr]
  .refine aZ (λx=>x=((a,0),w,a,0,c)) (du (ar rfl)) ?_;rintro x rfl;refine b_ (λg=>(g rfl).elim) λ_=>ar ⟨a,1,?_,?_,by omega,J,by omega,by omega⟩
   .dsimp only;rw[ic (n:=0+1) (by omega) (by omega),gM (by omega)];rfl
   .rw[I];show (if a=t/\(0:Int)=n then af (t,n+1) else if t<a/\a<_/\(0:Int)=0 then af (a,1) else ah)=af (a,1);rw[ay (by omega),aF ⟨U,J,rfl⟩]
 .rintro x ⟨t,n,rfl,_⟩;exact dv (ar rfl)
theorem VW8 {w:WT} (M:WX w) (hb:VL w):dN w=af ai:=by
 have hs:=vs8 M hb;have hvn:dM (w,VN4)=af ai:=by
  obtain⟨n,hn,e⟩:=M.w8;rw[e];rcases hn with rfl|rfl|rfl|rfl
  .exact vn1 _
  .exact vn2 _
  .exact vn3 _
  .exact vn4 _
 have hc:=M.c;have hd:=M.d;have hl:=M.l;obtain⟨w1,w2,w3,U,J,I⟩:=w;obtain⟨b1,b2,b3,b4,b0,Z,Y⟩:=hb;dsimp only at hc hd hl b1 b2 b3 b4 Z Y b0;subst hc;subst hd;subst hl;refine cE ?_;unfold dN kK aY bi cu cY bx bD aX cL aE cC;have f:∀ n m:Nat,n<=m->fO (m:Int) (aO n)=aj:=λn m h=>gg.2 (by dsimp only[au];omega)
 refine aZ (λx=>x=(aj,C0,GA,Mf,U,J,I)) ?_ ?_
 .refine fP rfl (fP rfl (fP rfl (fP (f _ 2 b4) (ar ?_))));rw[show fO 60 (aO (al I))=aj from f _ 60 Y]
 rintro x rfl;refine gz (aZ (λx=>x=(aj,C0,GA,Mf,U,J,I)) ?_ ?_)
 .refine fP (gg.2 (by dsimp only[au];omega)) (ar ?_);rw[show fO 4 (aO (al J))=aj from f _ 4 Z]
 rintro x rfl;refine gz (aV vc8 (aZ (λx=>x=(aj,C0,GA,Mf,U,J,I)) ?_ ?_))
 .exact gz (aV hvn (ar rfl))
 rintro x rfl;refine gz (jO 1 (by omega) (λi x=>x=((i:Int),C0,GA,Mf,U,J,I)) ?_ ?_ rfl)
 .rintro i x hi rfl;have:i=0:=by omega
  subst this;refine fG rfl (bf rfl (aS (aV (x:=ai) ?_ (gz (ar rfl)))));rfl
 .rintro x rfl;exact fP rfl (aV (x:=ai) (by rw[hs];rfl) (ar rfl))
abbrev eN (l:List ET) (i:Nat):ET:=aJ (T:=tE) l (i:Int)
theorem Jv {l:List ET} {i:Nat} (h:i<l.length):eN l i∈l:=bH (T:=tE) (by omega) (by omega)
theorem aio {l:List ET} {e:ET} {i:Nat} (h:i<l.length):eN (l++[e]) i=eN l i:=by
 unfold eN;rw[zg,zg,aA,aA,bO h]
theorem aex (l:List ET) (e:ET):eN (l++[e]) l.length=e:=by
 unfold eN;rw[zg,aA,b7 (bW _),Hp];rfl
def Nl (w:WT) (l:List ET):SY×List Int×List Int:=l.foldl (λs e=>((qX w s.1 e.1 e.2.1 e.2.2.1 e.2.2.2.1).1,YT s.2.1 e,ZI s.2.2 e)) (PA w,ce0 w,fu0 w)
theorem SA (w:WT) {l:List ET} {i:Nat} (h:i<l.length):Nl w (l.take (i+1))=((qX w (Nl w (l.take i)).1 (eN l i).1 (eN l i).2.1 (eN l i).2.2.1 (eN l i).2.2.2.1).1,YT (Nl w (l.take i)).2.1 (eN l i),ZI (Nl w (l.take i)).2.2 (eN l i)):=by
 rw[mD (T:=tE) h];unfold Nl;rw[dP];rfl
theorem Acw.all {w:WT} {l:List ET} {sy:SY} {ce fu:List Int} (h:Acw w l sy ce fu):Nl w l=(sy,ce,fu)/\∀ i,i<l.length->SCx w (l.take i) (Nl w (l.take i)).1 (Nl w (l.take i)).2.1 (Nl w (l.take i)).2.2 (eN l i):=by
 induction h with
 |nil=>exact⟨rfl,λi hi=>cV hi (xa _)⟩
 |snoc h hs I=>
  rename_i l sy ce fu e;obtain⟨h1,h2⟩:=I;refine ⟨by unfold Nl at h1 ⊢;rw[dP,h1];rfl,λi hi=>?_⟩;rw[bu,dR] at hi;rcases bZ i l.length with g|g
  .rw[kZ (by omega),aio g];exact h2 i g
  .have:i=l.length:=by omega
   subst this;rw[kZ (bW _),cP,aex,h1];exact hs
theorem TR.sc {w:WT} {l:List ET} (I:TR (w,l)) {i:Nat} (h:i<l.length):SCx w (l.take i) (Nl w (l.take i)).1 (Nl w (l.take i)).2.1 (Nl w (l.take i)).2.2 (eN l i):=by
 obtain⟨sy,ce,fu,ac⟩:=I.ac;exact ac.all.2 i h
def D8 (w:WT) (l:List ET):HS:=l.foldl (λh e=>(Mm w h (evP e)).1) (HS.zero w)
def cO (l:List ET) (i:Nat):EV:=evP (eN l i)
def oH (w:WT) (l:List ET) (i:Nat):List Int:=AC w (D8 w (l.take i)) (cO l i)
theorem za (w:WT) {l:List ET} {i:Nat} (h:i<l.length):D8 w (l.take (i+1))=jV w (D8 w (l.take i)) (cO l i) (oH w l i):=by
 rw[mD (T:=tE) h];unfold D8;rw[dP];rfl
theorem zd {w:WT} {l:List ET} (I:TR (w,l)):∀ i:Nat,i<=l.length->XC (i:Int) (D8 w (l.take i))/\Fit w (D8 w (l.take i))
 |0,_=>by
  have wb:=I.wb;dsimp only at wb;exact⟨HS.zero_ok (by have:=wb.c;omega) (by have:=wb.l;omega) (by have:=wb.f;omega) (by have:=wb.t;omega),Fit.zero w⟩
 |i+1,h=>by
  obtain⟨o,J⟩:=zd I i (by omega);have hl:=I.len;dsimp only at hl;have ok:=abe (I.ev _ (Jv (l:=l) (i:=i) (by omega))) I.wb J;rw[za w (by omega)];exact⟨Z0 (w:=w) (e:=cO l i) o (by omega) ok.th4,J.step (cO l i)⟩
theorem uD {w:WT} {l:List ET} (I:TR (w,l)) {i:Nat} (h:i<l.length):EOK w (D8 w (l.take i)) (cO l i):=abe (I.ev _ (Jv h)) I.wb (zd I i (by omega)).2
theorem qC {w:WT} {l:List ET} (I:TR (w,l)) {i:Nat} (h:i<l.length):EvT (cO l i) (eN l i):=am1 (I.ev _ (Jv h))
theorem O8 {w:WT} {l:List ET} (I:TR (w,l)) {i:Nat} (h:i<l.length):En ((i:Int)+1) (oH w l i):=O5 (zd I i (by omega)).1 (uD I h).th4
def LE (a b:List Int):Prop:=a.length<=b.length/\∀ k,a.getD k 0<=b.getD k 0
theorem LE.refl (a:List Int):LE a a:=⟨bW _,λ_=>eP _⟩
theorem LE.trans {a b c:List Int} (h:LE a b) (g:LE b c):LE a c:=⟨dg h.1 g.1,λk=>Int.le_trans (h.2 k) (g.2 k)⟩
theorem LE.jl {a b:List Int} (h:LE a b):jl a b=b:=wD (by rw[pJ];have:=h.1;omega) λi=>by rw[vM,qp];have:=h.2 i;omega
theorem ank (a b:List Int):LE a (jl a b):=⟨by rw[pJ];omega,λk=>by rw[vM,qp];omega⟩
theorem LE_r (a b:List Int):LE b (jl a b):=⟨by rw[pJ];omega,λk=>by rw[vM,qp];omega⟩
theorem aht (a:List Int) (t:Nat):LE a (tk a t):=⟨by rw[Mj];omega,λk=>by rw[H4];split<;>(try subst k)<;>omega⟩
theorem Pv:∀ (l:List (List Int)) (c:List Int),LE c (l.foldl jl c)
 |[],c=>LE.refl c
 |x::r,c=>(ank c x).trans (Pv r _)
theorem ah4 (w:vS) (h:HS) (e:EV):LE (h.T.getD e.th []) (AC w h e):=(Pv _ _).trans (aht _ _)
theorem qB {α:Type} (l:List α) (i j:Nat) (x d:α):(l.set i x).getD j d=if i=j/\i<l.length then x else l.getD j d:=by
 rw[aA,oN];by_cases e:i=j
 .subst e;by_cases g:i<l.length
  .rw[aF rfl,aF g,aF ⟨rfl,g⟩];rfl
  .rw[aF rfl,ay g,ay λq=>g q.2,aA,bR (by omega)]
 .rw[ay e,ay λq=>e q.1,aA]
structure nW (P:List Int->Prop) (h:HS):Prop where
 T:∀ u,P (h.T.getD u [])
 S:∀ u,P (h.S.getD u [])
 L:∀ u,P (h.L.getD u [])
 R:∀ u,P (h.R.getD u [])
 C:∀ u,P (h.C.getD u [])
 F:∀ u,P (h.F.getD u [])
 X:P h.X
 N:∀ u,P (h.N.getD u [])
theorem nW.mono {P Q:List Int->Prop} {h:HS} (a:nW P h) (g:∀ x,P x->Q x):nW Q h:=⟨λu=>g _ (a.T u),λu=>g _ (a.S u),λu=>g _ (a.L u),λu=>g _ (a.R u),λu=>g _ (a.C u),λu=>g _ (a.F u),g _ a.X,λu=>g _ (a.N u)⟩
theorem nW.set {P:List Int->Prop} {l:List (List Int)} {c:List Int} (h:∀ u,P (l.getD u [])) (hc:P c) (i:Nat):∀ u,P ((l.set i c).getD u []):=λu=>by
 rw[qB];split
 .exact hc
 .exact h u
theorem nW.repl {P:List Int->Prop} (h:P []) (n:Nat):∀ u,P ((aG n []).getD u []):=λu=>by
 rw[aA,lm];split<;>exact h
theorem nW.zero {P:List Int->Prop} (h:P []) (w:vS):nW P (HS.zero w):=⟨nW.repl h _,nW.repl h _,nW.repl h _,nW.repl h _,nW.repl h _,nW.repl h _,h,nW.repl h _⟩
theorem nW.step {P:List Int->Prop} (hj:∀ a b,P a->P b->P (jl a b)) {w:vS} {h:HS} (a:nW P h) (e:EV) {c:List Int} (hc:P c):nW P (jV w h e c):=by
 have b:nW P {h with T:=h.T.set e.th c}:={a with T:=nW.set a.T hc _}
 unfold jV;simp only[];repeat' split
 .exact {b with S:=nW.set a.S hc _}
 .exact {b with L:=nW.set a.L (hj _ _ (a.L _) hc) _}
 .exact {b with R:=nW.set a.R (hj _ _ (a.R _) hc) _}
 .exact {b with L:=nW.set a.L (hj _ _ (a.L _) hc) _}
 .exact {b with C:=nW.set a.C (hj _ _ (a.C _) hc) _}
 .exact b
 .exact {b with F:=nW.set a.F (hj _ _ (a.F _) hc) _}
 .exact {b with X:=hj _ _ a.X hc}
 .exact {b with N:=nW.set a.N hc _}
 .exact b
 .refine {b with N:=λu=>?_};have:=a.N u;simp only[Cn];rw[aA] at this ⊢;rw[D6];cases I:h.N[u]? with
  |none=>rw[I] at this;exact this
  |some x=>
   rw[I] at this;simp only[cg,uW];split
   .exact hc
   .exact this
 .exact b
theorem nW.src {P:List Int->Prop} {w:vS} {h:HS} (a:nW P h) (e:EV):∀ x∈s9 w h e,P x:=by
 intro c hc;unfold s9 at hc;repeat' (split at hc)
 all_goals simp only[bm,ct,f_] at hc
 .subst hc;exact a.S _
 .subst hc;exact a.T _
 .rcases hc with rfl|rfl
  .exact a.L _
  .exact a.R _
 .subst hc;exact a.L _
 .rcases hc with rfl|rfl|rfl
  .exact a.L _
  .exact a.R _
  .exact a.N _
 .subst hc;exact a.C _
 .subst hc;exact a.F _
 .subst hc;exact a.X
theorem abb {P:List Int->Prop} (hj:∀ a b,P a->P b->P (jl a b)):∀ (l:List (List Int)) (c:List Int),P c->(∀ x∈l,P x)->P (l.foldl jl c)
 |[],_,hc,_=>hc
 |x::r,_,hc,h=>abb hj r _ (hj _ _ hc (h x (dh ..))) λy I=>h y (cH _ I)
theorem abh (w:vS) (h:HS) (e:EV) (c:List Int):(jV w h e c).T=h.T.set e.th c:=by
 unfold jV;simp only[];repeat' split
 all_goals rfl
def K3 (l:List ET) (u:Nat):Nat->Nat
 |0=>0
 |i+1=>if (cO l i).th=u then K3 l u i+1 else K3 l u i
theorem Sl (l:List ET) (u i:Nat):∀ j,K3 l u i<=K3 l u (i+j)
 |0=>bW _
 |j+1=>by
  have:=Sl l u i j;show K3 l u i<=K3 l u (i+j+1);rw[K3];split<;>omega
theorem Vo (l:List ET) (u:Nat) {i j:Nat} (h:i<=j):K3 l u i<=K3 l u j:=by
 obtain⟨k,rfl⟩:∃ k,j=i+k:=⟨j-i,by omega⟩
 exact Sl l u i k
theorem HM (l:List ET) (i:Nat):K3 l (cO l i).th (i+1)=K3 l (cO l i).th i+1:=by rw[K3,aF rfl]
structure Gd (w:WT) (l:List ET) (i:Nat) (x:List Int):Prop where
 le:∀ u,x.getD u 0<=(K3 l u i:Int)
 dn:∀ k,k<i->(K3 l (cO l k).th k:Int)+1<=x.getD (cO l k).th 0->LE (oH w l k) x
theorem Gd.nil (w:WT) (l:List ET) (i:Nat):Gd w l i []:=⟨λu=>by simp,λk _ h=>by simp at h;omega⟩
theorem Gd.jl {w:WT} {l:List ET} {i:Nat} (a b:List Int) (I:Gd w l i a) (hb:Gd w l i b):Gd w l i (jl a b):=by
 refine ⟨λu=>?_,λk hk h=>?_⟩
 .rw[vM,qp];have:=I.le u;have:=hb.le u;omega
 .rw[vM,qp] at h;by_cases g:(K3 l (cO l k).th k:Int)+1<=a.getD (cO l k).th 0
  .exact (I.dn k hk g).trans (ank _ _)
  .exact (hb.dn k hk (by omega)).trans (LE_r _ _)
theorem Gd.succ {w:WT} {l:List ET} {i:Nat} {x:List Int} (h:Gd w l i x):Gd w l (i+1) x:=by
 refine ⟨λu=>?_,λk hk g=>?_⟩
 .have:=h.le u;have:=Vo l u (show i<=i+1 by omega);omega
 .by_cases e:k=i
  .subst e;have:=h.le (cO l k).th;omega
  .exact h.dn k (by omega) g
structure GS1 (w:WT) (l:List ET) (i:Nat) (h:HS):Prop where
 a:nW (Gd w l i) h
 t:∀ u,(h.T.getD u []).getD u 0=(K3 l u i:Int)
theorem O7 {w:WT} {l:List ET} {i:Nat} (g:GS1 w l i (D8 w (l.take i))):Gd w l (i+1) (oH w l i)/\(oH w l i).getD (cO l i).th 0=(K3 l (cO l i).th i:Int)+1:=by
 have J:Gd w l i ((s9 w (D8 w (l.take i)) (cO l i)).foldl AI.jl ((D8 w (l.take i)).T.getD (cO l i).th [])):=abb Gd.jl _ _ (g.a.T _) (g.a.src (w:=w) _);have M:=g.t (cO l i).th;have hL:=Pv (s9 w (D8 w (l.take i)) (cO l i)) ((D8 w (l.take i)).T.getD (cO l i).th []);have U:=(g.a.T (cO l i).th).dn;have I:=ah4 w (D8 w (l.take i)) (cO l i);have e:(oH w l i).getD (cO l i).th 0=(K3 l (cO l i).th i:Int)+1:=by
  unfold oH AC;rw[H4,aF rfl];have:=hL.2 (cO l i).th;have:=J.le (cO l i).th;omega
 refine ⟨⟨λu=>?_,λk hk h=>?_⟩,e⟩
 .by_cases hu:(cO l i).th=u
  .subst hu;rw[e,HM];omega
  .have:=J.le u;unfold oH AC;rw[H4,ay λq=>hu q.symm,K3,ay hu];exact this
 .by_cases hki:k=i
  .subst hki;exact LE.refl _
  have hk:k<i:=by omega
  by_cases hu:(cO l k).th=(cO l i).th
  .refine (U k hk ?_).trans I;rw[hu,M];have:=Vo l (cO l k).th (show k+1<=i from hk);rw[HM,hu] at this;omega
  .refine (J.dn k hk ?_).trans (aht _ _);unfold oH AC at h;rw[H4,ay hu] at h;exact h
theorem IL {w:WT} {l:List ET} (I:TR (w,l)):∀ i:Nat,i<=l.length->GS1 w l i (D8 w (l.take i))
 |0,_=>⟨nW.zero (Gd.nil w l 0) w,λu=>by have:=nW.repl (P:=λx=>x.getD u 0=0) (by simp) w.2.2.2.2.1.length u;exact this⟩
 |i+1,h=>by
  have g:=IL I i (by omega);obtain⟨M,J⟩:=O7 g;have ht:=(uD I (show i<l.length by omega)).th;rw[za w (by omega)];refine ⟨nW.step Gd.jl (g.a.mono λx h=>h.succ) _ M,λu=>?_⟩;rw[abh,qB];by_cases hu:(cO l i).th=u
  .subst hu;rw[aF ⟨rfl,ht⟩,J,HM];omega
  .rw[ay λq=>hu q.1,g.t u,K3,ay hu]
theorem Xi {w:WT} {l:List ET} (I:TR (w,l)) {i:Nat} (h:i<l.length):(oH w l i).getD (cO l i).th 0=(K3 l (cO l i).th i:Int)+1:=(O7 (IL I i (by omega))).2
theorem abr {w:WT} {l:List ET} (I:TR (w,l)) {i:Nat} (h:i<l.length):Gd w l (i+1) (oH w l i):=(O7 (IL I i (by omega))).1
def ZJ (w:WT) (l:List ET) (k j:Nat):Prop:=(K3 l (cO l k).th k:Int)+1<=(oH w l j).getD (cO l k).th 0
theorem ZJ.le {w:WT} {l:List ET} (I:TR (w,l)) {k j:Nat} (hk:k<=j) (hj:j<l.length) (h:ZJ w l k j):LE (oH w l k) (oH w l j):=(abr I hj).dn k (by omega) h
theorem ZJ.of {w:WT} {l:List ET} (I:TR (w,l)) {k j:Nat} (hk:k<l.length) (h:LE (oH w l k) (oH w l j)):ZJ w l k j:=by
 have:=h.2 (cO l k).th;rw[Xi I hk] at this;exact this
theorem ZJ.own {w:WT} {l:List ET} (I:TR (w,l)) {k j:Nat} (hk:k<j) (hj:j<l.length) (h:(cO l k).th=(cO l j).th):ZJ w l k j:=by
 unfold ZJ;rw[h,Xi I hj];have:=Vo l (cO l k).th (show k+1<=j from hk);rw[HM,h] at this;omega
theorem ZJ.trans {w:WT} {l:List ET} (I:TR (w,l)) {i j k:Nat} (hi:i<=j) (hj:j<=k) (hk:k<l.length) (h:ZJ w l i j) (g:ZJ w l j k):ZJ w l i k:=ZJ.of I (by omega) ((h.le I hi (by omega)).trans (g.le I hj hk))
def Q8 (r:List Int):Prop:=Hl r/\∀ z∈r,0<=z/\z<4
def P8 (s:List (Int×List Int)):Prop:=∀ x∈s,Q8 x.2
theorem P8.get {s:List (Int×List Int)} (h:P8 s) (o:Int):Q8 (aJ (T:=An) s o).2:=by
 unfold aJ;rw[aA];cases e:s[o.toNat]? with
 |none=>exact⟨trivial,λz I=>by cases I⟩
 |some x=>exact h x (ba e)
theorem P8.set {s:List (Int×List Int)} (h:P8 s) (o a:Int) {r:List Int} (hr:Q8 r):P8 (cQ s o (a,r)):=λx I=>by
 rcases Cu I with I|rfl
 .exact h x I
 .exact hr
theorem B_ (p:Int->Bool):∀ {l:List Int},Hl l->Hl (l.filter p)
 |[],_=>trivial
 |x::r,h=>by
  rw[List.filter_cons];split
  .exact⟨λy I=>h.1 y ((xc.1 I).1),B_ p h.2⟩
  .exact B_ p h.2
theorem P8.ite {c:Prop} [Decidable c] {a b:SY×Int} (I:P8 a.1.1) (hb:P8 b.1.1):P8 (if c then a else b).1.1:=by by_cases h:c<;>simp[h,I,hb]
theorem P8.ap {w:WT} {s:SY} (h:P8 s.1) {t:Int} (k o v:Int) (t0:0<=t) (J:t<4):P8 (qX w s t k o v).1.1:=by
 have ow:∀ a b,P8 (owP s.1 a b):=λa b=>h.set a b (h.get a)
 have un:P8 (rdP s.1 o (xg (aJ (T:=An) s.1 o).2 [t])):=h.set _ _ ⟨PO _ _,λz I=>by
  rcases H3.1 I with I|I
  .exact (h.get o).2 z I
  .rw[aL] at I;subst I;exact⟨t0,J⟩⟩
 have wt:P8 (rdP s.1 o (wo (aJ (T:=An) s.1 o).2 t)):=h.set _ _ ⟨B_ _ (h.get o).1,λz I=>(h.get o).2 z (xc.1 I).1⟩;unfold qX;exact P8.ite h (P8.ite h (P8.ite (ow _ _) (P8.ite (ow _ _) (P8.ite un (P8.ite wt (P8.ite h (P8.ite h (P8.ite h (P8.ite h (P8.ite (ow _ _) (P8.ite (ow _ _) (P8.ite (P8.ite h h) (P8.ite h (P8.ite h (P8.ite h h)))))))))))))))
def iw (w:WT) (l:List ET):SN:=l.foldl (nxP w) (sn8 w)
theorem Mn (w:WT) {l:List ET} {i:Nat} (h:i<l.length):iw w (l.take (i+1))=nxP w (iw w (l.take i)) (eN l i):=by
 rw[mD (T:=tE) h];unfold iw;rw[dP];rfl
structure K8 (w:WT) (l:List ET) (i:Nat) (s:SN):Prop where
 a:(s.1,s.2.1,s.2.2.1)=Nl w (l.take i)
 r:P8 s.1.1
 c:s.2.1.length=w.1.length
 f:s.2.2.1.length=w.2.2.2.1.length
 k:s.2.2.2.length=w.2.2.2.2.1.length
 n:CN (l.take i) s.2.2.2
theorem Wi {w:WT} {l:List ET} (I:TR (w,l)):∀ i:Nat,i<=l.length->K8 w l i (iw w (l.take i))
 |0,_=>⟨rfl,λx M=>by rw[pt M];exact⟨trivial,λz J=>by cases J⟩,by simp[iw,ce0],by simp[iw,fu0],by simp[iw],λt t0 t1=>by
   have:(aG w.2.2.2.2.1.length (0:Int)).getD t.toNat 0=0:=by rw[aA,lm];split<;>rfl
   exact this⟩
 |i+1,h=>by
  obtain⟨a,r,c,f,k,n⟩:=Wi I i (by omega);have sc:=I.sc (i:=i) (by omega);have hl:=I.len;have ht:=I.wb.t;dsimp only at hl ht;have en:=sc.en;have e1:=en.t1;have htk:=pW i l;rw[Mn w (by omega)];refine ⟨?_,r.ap _ _ _ en.t0 (by omega),?_,?_,?_,?_⟩
  .rw[SA w (by omega),<-a];rfl
  .unfold nxP YT;dsimp only;split
   .rw[bT];exact c
   .exact c
  .unfold nxP ZI;dsimp only;split
   .rw[bT];exact f
   .exact f
  .unfold nxP;rw[bT];exact k
  .have:=n.next (eN l i) en.t0 (by rw[k];exact e1) (by omega);rw[mD (T:=tE) (show i<l.length by omega)];exact this
theorem NF {w:WT} {l:List ET} (I:TR (w,l)) {i:Nat} (hi:i<l.length):fM (w,iw w (l.take i),eN l i)=af (iw w (l.take (i+1)),ai):=by
 obtain⟨a,r,c,f,k,n⟩:=Wi I i (by omega);have sc:=I.sc hi;have J:=I.wx;have ht:=I.wb.t;have hls:=I.ls _ (Jv hi);dsimp only at J ht hls;rw[Mn w hi];rw[<- a] at sc;generalize iw w (l.take i)=s at*
 generalize eN l i=e at*
 have en:=sc.en;have e1:=en.t1;have l3:w.2.1.length=3:=by rw[J.l];rfl
 have M:=n e.1 en.t0 (by rw[k];exact e1);have b1:=I.wb.c;have b4:=I.wb.f;have b3:=I.wb.d;dsimp only at b1 b4 b3;have Z:=en.e1;have Y:=en.e2;have q3:=en.e3;dsimp only at Z Y q3;refine an0 (n:=4) w s e ⟨⟨by omega,by omega,λx U=>?_,by omega,by omega⟩,by omega,by omega,by omega⟩ (by omega) (by omega) ⟨c,f,k⟩ en ⟨sc.rd,sc.s1,sc.s2,sc.de,sc.fr,by rw[M];exact sc.nd,by rw[M];exact sc.nf,sc.va⟩ hls.1 hls.2 (λh=>?_) (by omega) r (by omega)
 .have:=Ph x.2 0 4 (r x U).1 (r x U).2;omega
 .have o1:=en.nm.lk (by omega);have o2:=en.nm.rw (by omega);generalize e.2.2.1=o at o1 o2;rw[J.l] at o1 o2;have:o=0\/o=1\/o=2:=by have:GA.length=3:=rfl;omega
  rcases this with rfl|rfl|rfl
  .cases o2
  .cases o2
  .rfl
abbrev fN (l:List ET) (i:Nat) (t:Int):List Bool:=fl (l.take i) t
theorem OD {l:List ET} {i:Nat} (h:i<l.length) {t:Int} (e:(eN l i).1=t):fN l (i+1) t=fN l i t++[tf (eN l i)]:=by
 unfold fN;rw[mD (T:=tE) h,uC,zl e]
theorem OE {l:List ET} {i:Nat} (h:i<l.length) {t:Int} (e:¬(eN l i).1=t):fN l (i+1) t=fN l i t:=by
 unfold fN;rw[mD (T:=tE) h,uC,wH e,iP]
theorem Hw {w:WT} {l:List ET} (I:TR (w,l)) {i:Nat} (hi:i<l.length) {t:Int} (e:(eN l i).1=t):ci (fN l i t,eN l i)=af ai:=by
 have sc:=I.sc hi;have hls:=I.ls _ (Jv hi);subst e;exact YX _ _ sc.rd1 sc.rd2 hls.1 hls.2
theorem OF (l:List ET) (i:Nat) (t:Int):(fN l i t).length<=l.length:=dg (W1 _ _) (List.length_take_le' ..)
theorem ad4 {w:WT} {l:List ET} (I:TR (w,l)) (hn:w.2.2.2.2.1.length=4):ef (w,l)=af (0,0):=by
 have hl:=I.len;dsimp only at hl;refine cE ?_;unfold ef jG aY bi bw cu dU kC bK fh kB pU bd bx bB bD aX cL aE cC;refine fP (gg.2 (by dsimp only[au];omega)) (aV (VW8 I.wx I.vl) (gz (aV (Ca I.wx) (bf (by show (c7 0 (aO w.2.2.2.2.1.length)&&c7 (aO w.2.2.2.2.1.length) (aO w.2.2.2.2.1.length)&&a_ (aT (aO w.2.2.2.2.1.length)) 24&&decide ((aO w.2.2.2.2.1.length:Int)=4))=ai;rw[hn];rfl) ?_))));refine jO l.length (by omega) (λi x=>x=((i:Int),(w,l),iw w (l.take i),fN l i 0,fN l i 1,fN l i 2,fN l i 3)) ?_ ?_ rfl
 .rintro i x hi rfl;have e1:=(I.sc hi).en.t1;have e0:=(I.sc hi).en.t0;have st:=NF I hi;have fa:=λt=>OF l i t
  have rd:=λt=>Hw I hi (t:=t)
  have own:=λt=>OD hi (t:=t)
  have oth:=λt=>OE hi (t:=t)
  refine du ?_;refine ch (aS ?_);have ht:(eN l i).1=0\/(eN l i).1=1\/(eN l i).1=2\/(eN l i).1=3:=by omega
  have hg:aJ (T:=tE) l (i:Int)=eN l i:=rfl;dsimp only;rw[hg];generalize eN l i=e at*
  refine aV st ?_;obtain⟨(t:Int),e⟩:=e;dsimp only at ht;rcases ht with rfl|rfl|rfl|rfl
  .refine aZ (λx=>x=(aj,(w,l),iw w (l.take i),(0,e),iw w (l.take (i+1)),fN l i 0,fN l i 1,fN l i 2,fN l i 3)) ?_ ?_
   .simp only[aU,bn,sU];exact aV (rd 0 rfl) (ar rfl)
   rintro x rfl;refine gz (aZ (λx=>x=((w,l),iw w (l.take i),iw w (l.take (i+1)),fN l (i+1) 0,fN l (i+1) 1,fN l (i+1) 2,fN l (i+1) 3)) ?_ ?_)
   .simp only[aU,bn,sU];rw[own 0 rfl,oth 1 (by show ¬(0:Int)=1;decide),oth 2 (by show ¬(0:Int)=2;decide),oth 3 (by show ¬(0:Int)=3;decide)];have:=fa 0;refine aK (λh=>bg (by simp;omega) (by omega) (ar ?_)) λh=>bg (by simp;omega) (by omega) (ar ?_)
    .have:tf (0,e)=ai:=by unfold tf;rw[aQ h];rfl
     rw[this]
    .have:tf (0,e)=decide (e.1=23):=by unfold tf;rw[bL h];rfl
     rw[this]
   rintro x rfl;exact ar (by rw[gM (by omega)])
  .refine aZ (λx=>x=(aj,(w,l),iw w (l.take i),(1,e),iw w (l.take (i+1)),fN l i 0,fN l i 1,fN l i 2,fN l i 3)) ?_ ?_
   .simp only[aU,bn,sU];exact aV (rd 1 rfl) (ar rfl)
   rintro x rfl;refine gz (aZ (λx=>x=((w,l),iw w (l.take i),iw w (l.take (i+1)),fN l (i+1) 0,fN l (i+1) 1,fN l (i+1) 2,fN l (i+1) 3)) ?_ ?_)
   .simp only[aU,bn,sU];rw[own 1 rfl,oth 0 (by show ¬(1:Int)=0;decide),oth 2 (by show ¬(1:Int)=2;decide),oth 3 (by show ¬(1:Int)=3;decide)];have:=fa 1;refine aK (λh=>bg (by simp;omega) (by omega) (ar ?_)) λh=>bg (by simp;omega) (by omega) (ar ?_)
    .have:tf (1,e)=ai:=by unfold tf;rw[aQ h];rfl
     rw[this]
    .have:tf (1,e)=decide (e.1=23):=by unfold tf;rw[bL h];rfl
     rw[this]
   rintro x rfl;exact ar (by rw[gM (by omega)])
  .refine aZ (λx=>x=(aj,(w,l),iw w (l.take i),(2,e),iw w (l.take (i+1)),fN l i 0,fN l i 1,fN l i 2,fN l i 3)) ?_ ?_
   .simp only[aU,bn,sU];exact aV (rd 2 rfl) (ar rfl)
   rintro x rfl;refine gz (aZ (λx=>x=((w,l),iw w (l.take i),iw w (l.take (i+1)),fN l (i+1) 0,fN l (i+1) 1,fN l (i+1) 2,fN l (i+1) 3)) ?_ ?_)
   .simp only[aU,bn,sU];rw[own 2 rfl,oth 0 (by show ¬(2:Int)=0;decide),oth 1 (by show ¬(2:Int)=1;decide),oth 3 (by show ¬(2:Int)=3;decide)];have:=fa 2;refine aK (λh=>bg (by simp;omega) (by omega) (ar ?_)) λh=>bg (by simp;omega) (by omega) (ar ?_)
    .have:tf (2,e)=ai:=by unfold tf;rw[aQ h];rfl
     rw[this]
    .have:tf (2,e)=decide (e.1=23):=by unfold tf;rw[bL h];rfl
     rw[this]
   rintro x rfl;exact ar (by rw[gM (by omega)])
  .refine aZ (λx=>x=(aj,(w,l),iw w (l.take i),(3,e),iw w (l.take (i+1)),fN l i 0,fN l i 1,fN l i 2,fN l i 3)) ?_ ?_
   .simp only[aU,bn,sU];exact aV (rd 3 rfl) (ar rfl)
   rintro x rfl;refine gz (aZ (λx=>x=((w,l),iw w (l.take i),iw w (l.take (i+1)),fN l (i+1) 0,fN l (i+1) 1,fN l (i+1) 2,fN l (i+1) 3)) ?_ ?_)
   .simp only[aU,bn,sU];rw[own 3 rfl,oth 0 (by show ¬(3:Int)=0;decide),oth 1 (by show ¬(3:Int)=1;decide),oth 2 (by show ¬(3:Int)=2;decide)];have:=fa 3;refine aK (λh=>bg (by simp;omega) (by omega) (ar ?_)) λh=>bg (by simp;omega) (by omega) (ar ?_)
    .have:tf (3,e)=ai:=by unfold tf;rw[aQ h];rfl
     rw[this]
    .have:tf (3,e)=decide (e.1=23):=by unfold tf;rw[bL h];rfl
     rw[this]
   rintro x rfl;exact ar (by rw[gM (by omega)])
 .rintro x rfl;exact dv (ar rfl)
theorem Fp {w:WT} {l:List ET} (I:TR (w,l)) (hn:¬w.2.2.2.2.1.length=4):ef (w,l)=ah:=by
 have hl:=I.len;dsimp only at hl;unfold ef jG aY bi bw cu dU kC bK fh kB pU bd bx bB bD aX cL aE cC;rw[show fO 400 (aO (al (w,l).2))=aj from gg.2 (by dsimp only[au];omega)];simp only[aU,bn,sU];rw[VW8 I.wx I.vl];simp only[aU,bn,sU];rw[Ca I.wx];simp only[aU,bn,sU];rw[show decide ((aO w.2.2.2.2.1.length:Int)=4)=aj from bL (by dsimp only[au];omega),Bool.and_false];rfl
theorem ad5 {w:WT} {l:List ET} (I:TR (w,l)) (hn:w.2.2.2.2.1.length=3):dK (w,l)=af (0,0):=by
 have hl:=I.len;dsimp only at hl;refine cE ?_;unfold dK jH aY bi bw cu dU bK cY fh kB bd bx bB bD aX cL aE cC;refine fP (gg.2 (by dsimp only[au];omega)) (aV (VW8 I.wx I.vl) (gz (aV (Ca I.wx) (bf (by show (c7 0 (aO w.2.2.2.2.1.length)&&c7 (aO w.2.2.2.2.1.length) (aO w.2.2.2.2.1.length)&&a_ (aT (aO w.2.2.2.2.1.length)) 24&&decide ((aO w.2.2.2.2.1.length:Int)=3))=ai;rw[hn];rfl) ?_))));refine jO l.length (by omega) (λi x=>x=((i:Int),(w,l),iw w (l.take i),fN l i 0,fN l i 1,fN l i 2)) ?_ ?_ rfl
 .rintro i x hi rfl;have e1:=(I.sc hi).en.t1;have e0:=(I.sc hi).en.t0;have st:=NF I hi;have fa:=λt=>OF l i t
  have rd:=λt=>Hw I hi (t:=t)
  have own:=λt=>OD hi (t:=t)
  have oth:=λt=>OE hi (t:=t)
  refine du ?_;refine ch (aS ?_);have ht:(eN l i).1=0\/(eN l i).1=1\/(eN l i).1=2:=by omega
  have hg:aJ (T:=tE) l (i:Int)=eN l i:=rfl;dsimp only;rw[hg];generalize eN l i=e at*
  refine aV st ?_;obtain⟨(t:Int),e⟩:=e;dsimp only at ht;rcases ht with rfl|rfl|rfl
  .refine aZ (λx=>x=(aj,(w,l),iw w (l.take i),(0,e),iw w (l.take (i+1)),fN l i 0,fN l i 1,fN l i 2)) ?_ ?_
   .simp only[aU,bn,sU];exact aV (rd 0 rfl) (ar rfl)
   rintro x rfl;refine gz (aZ (λx=>x=((w,l),iw w (l.take i),iw w (l.take (i+1)),fN l (i+1) 0,fN l (i+1) 1,fN l (i+1) 2)) ?_ ?_)
   .simp only[aU,bn,sU];rw[own 0 rfl,oth 1 (by show ¬(0:Int)=1;decide),oth 2 (by show ¬(0:Int)=2;decide)];have:=fa 0;refine aK (λh=>bg (by simp;omega) (by omega) (ar ?_)) λh=>bg (by simp;omega) (by omega) (ar ?_)
    .have:tf (0,e)=ai:=by unfold tf;rw[aQ h];rfl
     rw[this]
    .have:tf (0,e)=decide (e.1=23):=by unfold tf;rw[bL h];rfl
     rw[this]
   rintro x rfl;exact ar (by rw[gM (by omega)])
  .refine aZ (λx=>x=(aj,(w,l),iw w (l.take i),(1,e),iw w (l.take (i+1)),fN l i 0,fN l i 1,fN l i 2)) ?_ ?_
   .simp only[aU,bn,sU];exact aV (rd 1 rfl) (ar rfl)
   rintro x rfl;refine gz (aZ (λx=>x=((w,l),iw w (l.take i),iw w (l.take (i+1)),fN l (i+1) 0,fN l (i+1) 1,fN l (i+1) 2)) ?_ ?_)
   .simp only[aU,bn,sU];rw[own 1 rfl,oth 0 (by show ¬(1:Int)=0;decide),oth 2 (by show ¬(1:Int)=2;decide)];have:=fa 1;refine aK (λh=>bg (by simp;omega) (by omega) (ar ?_)) λh=>bg (by simp;omega) (by omega) (ar ?_)
    .have:tf (1,e)=ai:=by unfold tf;rw[aQ h];rfl
     rw[this]
    .have:tf (1,e)=decide (e.1=23):=by unfold tf;rw[bL h];rfl
     rw[this]
   rintro x rfl;exact ar (by rw[gM (by omega)])
  .refine aZ (λx=>x=(aj,(w,l),iw w (l.take i),(2,e),iw w (l.take (i+1)),fN l i 0,fN l i 1,fN l i 2)) ?_ ?_
   .simp only[aU,bn,sU];exact aV (rd 2 rfl) (ar rfl)
   rintro x rfl;refine gz (aZ (λx=>x=((w,l),iw w (l.take i),iw w (l.take (i+1)),fN l (i+1) 0,fN l (i+1) 1,fN l (i+1) 2)) ?_ ?_)
   .simp only[aU,bn,sU];rw[own 2 rfl,oth 0 (by show ¬(2:Int)=0;decide),oth 1 (by show ¬(2:Int)=1;decide)];have:=fa 2;refine aK (λh=>bg (by simp;omega) (by omega) (ar ?_)) λh=>bg (by simp;omega) (by omega) (ar ?_)
    .have:tf (2,e)=ai:=by unfold tf;rw[aQ h];rfl
     rw[this]
    .have:tf (2,e)=decide (e.1=23):=by unfold tf;rw[bL h];rfl
     rw[this]
   rintro x rfl;exact ar (by rw[gM (by omega)])
 .rintro x rfl;exact dv (ar rfl)
theorem Ns {w:WT} {l:List ET} (I:TR (w,l)) (hn:¬w.2.2.2.2.1.length=3):dK (w,l)=ah:=by
 have hl:=I.len;dsimp only at hl;unfold dK jH aY bi bw cu dU bK cY fh kB bd bx bB bD aX cL aE cC;rw[show fO 400 (aO (al (w,l).2))=aj from gg.2 (by dsimp only[au];omega)];simp only[aU,bn,sU];rw[VW8 I.wx I.vl];simp only[aU,bn,sU];rw[Ca I.wx];simp only[aU,bn,sU];rw[show decide ((aO w.2.2.2.2.1.length:Int)=3)=aj from bL (by dsimp only[au];omega),Bool.and_false];rfl
theorem ad6 {w:WT} {l:List ET} (I:TR (w,l)) (hn:w.2.2.2.2.1.length=2):dj (w,l)=af (0,0):=by
 have hl:=I.len;dsimp only at hl;refine cE ?_;unfold dj jI aY bi bw cu bK dx fh bd bx bB bD aX cL aE cC;refine fP (gg.2 (by dsimp only[au];omega)) (aV (VW8 I.wx I.vl) (gz (aV (Ca I.wx) (bf (by show (c7 0 (aO w.2.2.2.2.1.length)&&c7 (aO w.2.2.2.2.1.length) (aO w.2.2.2.2.1.length)&&a_ (aT (aO w.2.2.2.2.1.length)) 24&&decide ((aO w.2.2.2.2.1.length:Int)=2))=ai;rw[hn];rfl) ?_))));refine jO l.length (by omega) (λi x=>x=((i:Int),(w,l),iw w (l.take i),fN l i 0,fN l i 1)) ?_ ?_ rfl
 .rintro i x hi rfl;have e1:=(I.sc hi).en.t1;have e0:=(I.sc hi).en.t0;have st:=NF I hi;have fa:=λt=>OF l i t
  have rd:=λt=>Hw I hi (t:=t)
  have own:=λt=>OD hi (t:=t)
  have oth:=λt=>OE hi (t:=t)
  refine du ?_;refine ch (aS ?_);have ht:(eN l i).1=0\/(eN l i).1=1:=by omega
  have hg:aJ (T:=tE) l (i:Int)=eN l i:=rfl;dsimp only;rw[hg];generalize eN l i=e at*
  refine aV st ?_;obtain⟨(t:Int),e⟩:=e;dsimp only at ht;rcases ht with rfl|rfl
  .refine aZ (λx=>x=(aj,(w,l),iw w (l.take i),(0,e),iw w (l.take (i+1)),fN l i 0,fN l i 1)) ?_ ?_
   .simp only[aU,bn,sU];exact aV (rd 0 rfl) (ar rfl)
   rintro x rfl;refine gz (aZ (λx=>x=((w,l),iw w (l.take i),iw w (l.take (i+1)),fN l (i+1) 0,fN l (i+1) 1)) ?_ ?_)
   .simp only[aU,bn,sU];rw[own 0 rfl,oth 1 (by show ¬(0:Int)=1;decide)];have:=fa 0;refine aK (λh=>bg (by simp;omega) (by omega) (ar ?_)) λh=>bg (by simp;omega) (by omega) (ar ?_)
    .have:tf (0,e)=ai:=by unfold tf;rw[aQ h];rfl
     rw[this]
    .have:tf (0,e)=decide (e.1=23):=by unfold tf;rw[bL h];rfl
     rw[this]
   rintro x rfl;exact ar (by rw[gM (by omega)])
  .refine aZ (λx=>x=(aj,(w,l),iw w (l.take i),(1,e),iw w (l.take (i+1)),fN l i 0,fN l i 1)) ?_ ?_
   .simp only[aU,bn,sU];exact aV (rd 1 rfl) (ar rfl)
   rintro x rfl;refine gz (aZ (λx=>x=((w,l),iw w (l.take i),iw w (l.take (i+1)),fN l (i+1) 0,fN l (i+1) 1)) ?_ ?_)
   .simp only[aU,bn,sU];rw[own 1 rfl,oth 0 (by show ¬(1:Int)=0;decide)];have:=fa 1;refine aK (λh=>bg (by simp;omega) (by omega) (ar ?_)) λh=>bg (by simp;omega) (by omega) (ar ?_)
    .have:tf (1,e)=ai:=by unfold tf;rw[aQ h];rfl
     rw[this]
    .have:tf (1,e)=decide (e.1=23):=by unfold tf;rw[bL h];rfl
     rw[this]
   rintro x rfl;exact ar (by rw[gM (by omega)])
 .rintro x rfl;exact dv (ar rfl)
theorem ZC {w:WT} {l:List ET} (I:TR (w,l)) (hn:¬w.2.2.2.2.1.length=2):dj (w,l)=ah:=by
 have hl:=I.len;dsimp only at hl;unfold dj jI aY bi bw cu bK dx fh bd bx bB bD aX cL aE cC;rw[show fO 400 (aO (al (w,l).2))=aj from gg.2 (by dsimp only[au];omega)];simp only[aU,bn,sU];rw[VW8 I.wx I.vl];simp only[aU,bn,sU];rw[Ca I.wx];simp only[aU,bn,sU];rw[show decide ((aO w.2.2.2.2.1.length:Int)=2)=aj from bL (by dsimp only[au];omega),Bool.and_false];rfl
theorem ad7 {w:WT} {l:List ET} (I:TR (w,l)) (hn:w.2.2.2.2.1.length=1):eh (w,l)=af (0,0):=by
 have hl:=I.len;dsimp only at hl;refine cE ?_;unfold eh lE aY bi bw bK cY bd bx bB bD aX cL aE cC;refine fP (gg.2 (by dsimp only[au];omega)) (aV (VW8 I.wx I.vl) (gz (aV (Ca I.wx) (bf (by show (c7 0 (aO w.2.2.2.2.1.length)&&c7 (aO w.2.2.2.2.1.length) (aO w.2.2.2.2.1.length)&&a_ (aT (aO w.2.2.2.2.1.length)) 24&&decide ((aO w.2.2.2.2.1.length:Int)=1))=ai;rw[hn];rfl) ?_))));refine jO l.length (by omega) (λi x=>x=((i:Int),(w,l),iw w (l.take i),fN l i 0)) ?_ ?_ rfl
 .rintro i x hi rfl;have e1:=(I.sc hi).en.t1;have e0:=(I.sc hi).en.t0;have st:=NF I hi;have fa:=λt=>OF l i t
  have rd:=λt=>Hw I hi (t:=t)
  have own:=λt=>OD hi (t:=t)
  have oth:=λt=>OE hi (t:=t)
  refine du ?_;refine ch (aS ?_);have ht:(eN l i).1=0:=by omega
  have hg:aJ (T:=tE) l (i:Int)=eN l i:=rfl;dsimp only;rw[hg];generalize eN l i=e at*
  refine aV st ?_;obtain⟨(t:Int),e⟩:=e;dsimp only at ht;subst ht
  .refine aZ (λx=>x=(aj,(w,l),iw w (l.take i),(0,e),iw w (l.take (i+1)),fN l i 0)) ?_ ?_
   .simp only[aU,bn,sU];exact aV (rd 0 rfl) (ar rfl)
   rintro x rfl;refine gz (aZ (λx=>x=((w,l),iw w (l.take i),iw w (l.take (i+1)),fN l (i+1) 0)) ?_ ?_)
   .simp only[aU,bn,sU];rw[own 0 rfl];have:=fa 0;refine aK (λh=>bg (by simp;omega) (by omega) (ar ?_)) λh=>bg (by simp;omega) (by omega) (ar ?_)
    .have:tf (0,e)=ai:=by unfold tf;rw[aQ h];rfl
     rw[this]
    .have:tf (0,e)=decide (e.1=23):=by unfold tf;rw[bL h];rfl
     rw[this]
   rintro x rfl;exact ar (by rw[gM (by omega)])
 .rintro x rfl;exact dv (ar rfl)
theorem akv {w:WT} {l:List ET} (I:TR (w,l)):mn (w,l)=af (0,0):=by
 have h1:=I.vl.t0;have J:=I.vl.t;dsimp only at h1 J;unfold mn;have:w.2.2.2.2.1.length=4\/w.2.2.2.2.1.length=3\/w.2.2.2.2.1.length=2\/w.2.2.2.2.1.length=1:=by omega
 rcases this with h|h|h|h
 .rw[ad4 I h];rfl
 .rw[Fp I (by omega),ad5 I h];rfl
 .rw[Fp I (by omega),Ns I (by omega),ad6 I h];rfl
 .rw[Fp I (by omega),Ns I (by omega),ZC I (by omega),ad7 I h];rfl
theorem Z1 {w:WT} {l:List ET} (I:TR (w,l)):pH w=af (HS.zero w).t:=by
 have wb:=I.wb;dsimp only at wb;exact ack w (by have:=wb.c;unfold s7;omega) (by have:=wb.l;unfold s7;omega) (by have:=wb.f;unfold s7;omega) (by have:=wb.t;unfold s7;omega)
theorem adp {w:WT} {l:List ET} (I:TR (w,l)) {i:Nat} (hi:i<l.length):sh (w,(D8 w (l.take i)).t,eN l i)=af ((D8 w (l.take (i+1))).t,oH w l i):=by
 have hl:=I.len;dsimp only at hl;have:=aft (zd I i (by omega)).1 (by omega) (uD I hi) (qC I hi);rw[za w hi];exact this
def tA {α:Type} (n:Nat) (f:Nat->α) (z:α) (i:Nat):List α:=(c4 n).map λk=>if k<i then f k else z
theorem ZZ {α:Type} (n:Nat) (f:Nat->α) (z:α) (i:Nat):(tA n f z i).length=n:=by simp[tA]
theorem ai6 {α:Type} {n:Nat} {f:Nat->α} {z:α} {i:Nat} (h:i<n):(tA n f z i).set i (f i)=tA n f z (i+1):=by
 unfold tA;apply dA
 .simp
 intro k h1 h2;simp only[sF,bX,jM] at h1;rw[uZ];simp only[qP,nk];by_cases e:i=k
 .subst e;rw[aF rfl,aF (by omega)]
 .rw[ay e];by_cases g:k<i
  .rw[aF g,aF (by omega)]
  .rw[ay g,ay (by omega)]
theorem ado {α:Type} (n:Nat) (f:Nat->α) (z:α):tA n f z 0=aG n z:=by unfold tA;simp[List.map_const']
theorem ai7 {α:Type} (n:Nat) (f:Nat->α) (z:α):tA n f z n=(c4 n).map f:=pV λk hk=>by rw[aF (jL.1 hk)]
abbrev csN (w:WT) (l:List ET):List (List Int):=(c4 l.length).map (oH w l)
theorem ZB {w:WT} {l:List ET} (I:TR (w,l)):mY (w,l)=af (csN w l,0):=by
 have hl:=I.len;dsimp only at hl;refine cE ?_;unfold mY xC aY bK ck bx jd bB bD aX cL aE cC;refine aV (akv I) (gz (aV (Z1 I) (dG (dG (e_ (by dsimp only[au];omega) (e_ (by omega) (bg (by simp;omega) (by omega) ?_)))))));refine jO l.length (by omega) (λi x=>x=((i:Int),(w,l),(D8 w (l.take i)).t,tA l.length (oH w l) [] i)) ?_ ?_ ?_
 .rintro i x hi rfl;refine du ?_;refine ch (aS ?_);refine aV (adp I hi) ?_;refine aR (by dsimp only;omega) (by dsimp only;rw[ZZ];omega) (aR (by dsimp only;omega) (by dsimp only;rw[ZZ];omega) (ar ?_));dsimp only;rw[gM (by omega),gf,ai6 hi]
 .rintro x rfl;refine dv (ar ?_);dsimp only;rw[ai7]
 .show _=_;rw[ado];rfl
abbrev Ke0:Ty:=(.st (.pr DX (.pr DX DX)))
def pB (x:Int×Int×Int×Int×Int×(List Int)×List Int):Option (Bool):=
 (jn (α:=Bool) (bd x.2.1 3 (aE ai) (aE (decide ((x.2.1:Int)=4)))) λI=>(af I))
def oA (x:dD×Int×Int×Int×Int×Int×(List Int)×List Int):Option (Bool):=
 (jn (α:=Bool) (obind (pB x.2) λJ=>(bcase J (iR 0 x.p3 (bx x.p3 (aX x.1.1) (bD kw x.1.1 x.p3 λI=>(aE I.2.2.2.1)) (aE aj)) (aE aj)) (aE aj))) λM=>(af M))
def mb (x:(List gw)×Int):Option (Int):=
 (iter (σ:=Int) (λI=>(iR 0 I (bD gd x.1 I λM=>(bD gd x.1 x.2 λJ=>(bd M.1 J.1 (aE I) (cL (bk .i64 (I-1)))))) (aE (-1)))) (bk .i64 (x.2-1)))
def uc (x:(List gw)×Int):Option (Int):=
 (obind (mb x) λJ=>(jn (α:=Bool) (bx J 0 (aE ai) (bD gd x.1 J λz3=>(aE (!decide ((z3.2.1:Int)=16))))) λx2=>(bcase x2 (af (-1)) (iter (σ:=Int) (λI=>(bx I x.2 (jn (α:=Bool) (bD gd x.1 I λz6=>(bd z6.2.1 18 (bD gd x.1 I λz7=>(bD gd x.1 x.2 λz8=>(bd z7.2.2.2.1 z8.1 (aE ai) (bD gd x.1 I λz9=>(bd z9.2.1 19 (bD gd x.1 I λz10=>(bD gd x.1 J λZ=>(aE (decide ((z10.2.2.1:Int)=Z.2.2.1))))) (aE aj)))))) (bD gd x.1 I λY=>(bd Y.2.1 19 (bD gd x.1 I λU=>(bD gd x.1 J λM=>(aE (decide ((U.2.2.1:Int)=M.2.2.1))))) (aE aj))))) λx5=>(bcase x5 (aE I) (cL (cC I)))) (aE (-1)))) (cC J)))))
def wh (x:dD×(List gw)×Int):Option (List Int):=
 (bD gd x.2.1 x.2.2 λz1=>(iter (σ:=Int×dD×(List Int)×Int×Int×Int×Int×Int×(List Int)×List Int) (λI=>(bx I.1 x.2.2 (bD gd x.2.1 I.1 λz3=>(jn (α:=dD×(List Int)×Int×Int×Int×Int×Int×(List Int)×List Int) (jn (α:=Bool×dD×(List Int)×gw×Int×Int×Int×Int×Int×(List Int)×List Int) (bd I.p4 1 (bd z3.2.1 20 (aE ((decide ((z3.p2:Int)=I.p3)),I.2.1,I.p2,I.q3,z3)) (aE (aj,I.2.1,I.p2,I.q3,z3))) (aE (aj,I.2.1,I.p2,I.q3,z3))) λU=>(bcase U.1 (bB (a_ (al U.p2+al ([I.1])) 8) (aE (U.2.1,(U.p2++([I.1])),U.p3))) (jn (α:=Bool×dD×(List Int)×gw×Int×Int×Int×Int×Int×(List Int)×List Int) (bd U.p3.2.1 21 (aE ((decide ((U.p4:Int)=U.p3.p2)),U.2)) (aE (aj,U.2))) λM=>(bcase M.1 (bB (a_ (al M.p2+al ([I.1])) 8) (aE (M.2.1,(M.p2++([I.1])),M.p3))) (jn (α:=Bool×dD×(List Int)×gw×Int×Int×Int×Int×Int×(List Int)×List Int) (bd M.p3.2.1 3 (obind (oA (M.2.1,M.p3)) λy8=>(bcase y8 (bd M.p5 4 (aE ((decide ((M.p6:Int)=M.p3.p2)),M.2)) (aE (aj,M.2))) (aE (aj,M.2)))) (aE (aj,M.2))) λJ=>(bcase J.1 (bB (a_ (al J.p2+al ([I.1])) 8) (aE (J.2.1,(J.p2++([I.1])),J.p3))) (jn (α:=Bool×dD×(List Int)×Int×Int×Int×Int×Int×(List Int)×List Int) (bd J.p3.2.1 23 (bd J.p5 22 (aE ((decide ((J.p6:Int)=J.p3.p2)),J.2.1,J.p2,J.p3)) (aE (aj,J.2.1,J.p2,J.p3))) (aE (aj,J.2.1,J.p2,J.p3))) λZ=>(bcase Z.1 (bB (a_ (al Z.p2+al ([I.1])) 8) (aE (Z.2.1,(Z.p2++([I.1])),Z.q3))) (aE Z.2))))))))) λx4=>(cL ((cC I.1),x4)))) (obind (jn (α:=List Int) (bd I.p4 17 (obind (uc x.2) λY=>(iR 0 Y (bB (a_ (al I.p2+al ([Y])) 8) (aE (I.p2++([Y])))) (aE I.p2))) (aE I.p2)) λx10=>(af x10)) λr=>af (bQ r)))) (0,x.1,([]:List Int),z1)))
def wg (x:dD×(List gw)×Int):Option (List Int):=
 (bD gd x.2.1 x.2.2 λz1=>(obind (oC (x.1,z1)) λy2=>(iter (σ:=Int×dD×List Int) (λI=>(bx I.1 x.2.2 (jn (α:=dD×List Int) (bD gd x.2.1 I.1 λz5=>(obind (oB (I.2.1,z5)) λy6=>(jn (α:=Bool×dD×List Int) (iR 0 y2.1 (bd y6.1 y2.1 (bcase y2.2 (bcase (!y6.2) (aE (ai,I.2)) (bD gd x.2.1 x.2.2 λz8=>(bd z8.2.1 12 (bD gd x.2.1 I.1 λz9=>(aE ((decide ((z9.2.1:Int)=13)),I.2))) (aE (aj,I.2))))) (aE (ai,I.2))) (bD gd x.2.1 x.2.2 λZ=>(bd Z.2.1 12 (bD gd x.2.1 I.1 λY=>(aE ((decide ((Y.2.1:Int)=13)),I.2))) (aE (aj,I.2))))) (bD gd x.2.1 x.2.2 λU=>(bd U.2.1 12 (bD gd x.2.1 I.1 λM=>(aE ((decide ((M.2.1:Int)=13)),I.2))) (aE (aj,I.2))))) λJ=>(bcase J.1 (bB (a_ (al J.2.2+al ([I.1])) 8) (aE (J.2.1,(J.2.2++([I.1]))))) (aE J.2))))) λx4=>(cL ((cC I.1),x4))) (aE I.2.2))) (0,x.1,([]:List Int)))))
def r9 (x:dD×List gw):Option (List (List Int)):=
 (iter (σ:=Int×(dD×List gw)×List (List Int)) (λJ=>(bx J.1 (aX x.2) (jn (α:=(List Int)×(dD×List gw)×List (List Int)) (obind (mb (J.2.1.2,J.1)) λy3=>(iR 0 y3 (kz (.sl aM) J.2.2 y3 λz4=>(aE (z4,J.2))) (aE (([]:List Int),J.2)))) λZ=>(obind (wh (Z.2.1.1,Z.2.1.2,J.1)) λy5=>(iter (σ:=fD×(dD×List gw)×List (List Int)) (λM=>(bx M.1.2 (aX y5) (bD aM y5 M.1.2 λz7=>(kz (.sl aM) M.2.2 z7 λz8=>(obind (pA (M.1.1,z8)) λy9=>(cL ((y9,(cC M.1.2)),M.2))))) (obind (obind (wg (M.2.1.1,M.2.1.2,J.1)) λY=>(iter (σ:=fD×(dD×List gw)×List (List Int)) (λI=>(bx I.1.2 (aX Y) (bD aM Y I.1.2 λz12=>(kz (.sl aM) I.2.2 z12 λz13=>(obind (pA (I.1.1,z13)) λy14=>(cL ((y14,(cC I.1.2)),I.2))))) (obind (bD gd I.2.1.2 J.1 λz15=>(obind (py (I.1.1,z15.1)) λU=>(bB (a_ (al I.2.2+al ([U])) 24) (cL ((cC J.1),I.2.1,(I.2.2++([U]))))))) λr=>af (bQ r)))) ((M.1.1,0),M.2))) λr=>af (bQ r)))) ((Z.1,0),Z.2)))) (aE J.2.2))) (0,x,([]:List (List Int))))
def lV (x:(List Int)×(List Int)×List Int):Option (Bool):=
 (obind (kT (x,40)) λJ=>(obind (mY J) λI=>(jn (α:=Bool) (bd I.2 0 (obind (r9 J) λY=>(obind (j7 (I.1,Y)) λU=>(bcase U (obind (tu ()) λM=>(aE M)) (aE aj)))) (aE aj)) λZ=>(af Z))))
theorem SX (w:vS) (o:Nat) (h:o<w.2.2.1.length) (h0:0<=(w.2.2.1.getD o ([],0)).2):rf (w,(o:Int))=af ((NZ w.2.2.1 o:Nat):Int):=by
 have e1:(w.2.2.1.getD o ([],0)).2=((NZ w.2.2.1 o:Nat):Int):=by unfold NZ;omega
 unfold rf aY bi bw cY bx uO aX aE;simp only[];rw[sW (by omega)];simp only[cN,jb];rw[MF (by simp;omega)];simp only[cN];rw[cj (cS h),Ov,e1]
def B' (w:vS) (e:EV):Int×Bool:=if e.k=6\/e.k=10 then ((e.ob:Int),aj) else if e.k=8 then ((e.ob:Int),ai) else if e.k=17 then ((NZ w.2.2.1 e.ob:Nat),aj) else (-1,aj)
def Ap (w:vS) (e:EV):Int×Bool:=if e.k=7\/e.k=11 then ((e.ob:Int),aj) else if e.k=9 then ((e.ob:Int),ai) else if e.k=16 then ((NZ w.2.2.1 e.ob:Nat),aj) else (-1,aj)
theorem akx {w:vS} {h:HS} {e:EV} (ok:EOK w h e) {x:ETp} (hx:EvT e x):oC (w,x)=af (B' w e):=by
 obtain⟨x1,x2,x3,x4,x5,x6,x7⟩:=x;obtain⟨w1,w2,Z,Y,U,M⟩:=w;obtain⟨th,k,ob,va⟩:=e;obtain⟨J,I,q3,q4⟩:=hx;simp only at J I q3 q4;subst J q4;unfold oC aY bi bw cu dU cY kB bd aE;rcases HA I ok.k1 ok.k2 with ⟨e,e'⟩|⟨e,e'⟩|⟨e,e'⟩|⟨e,e'⟩|⟨e,e'⟩|⟨e,e'⟩|⟨e,e'⟩|⟨e,e'⟩|⟨e,e'⟩|⟨e,e'⟩|⟨e,e'⟩|⟨e,e'⟩|⟨e,e'⟩|⟨e,e'⟩|⟨e,e'⟩|⟨e,e'⟩|⟨e,e'⟩|⟨e,e'⟩|⟨e,e'⟩|⟨e,e'⟩|⟨e,e'⟩|⟨e,e'⟩|⟨e,e'⟩<;>clear I<;>subst e<;>subst e'
 case inr.inr.inr.inr.inr.inl=>
  obtain rfl:=q3 (by decide);simp only[aU,cz,cI,cU,cN,jb,cJ];rfl
 case inr.inr.inr.inr.inr.inr.inr.inr.inr.inl=>
  obtain rfl:=q3 (by decide);simp only[aU,cz,cI,cU,cN,jb,cJ];rfl
 case inr.inr.inr.inr.inr.inr.inr.inl=>
  obtain rfl:=q3 (by decide);simp only[aU,cz,cI,cU,cN,jb,cJ];rfl
 case inr.inr.inr.inr.inr.inr.inr.inr.inr.inr.inr.inr.inr.inr.inr.inr.inl=>
  obtain rfl:=q3 (by decide);obtain⟨d1,d2,d3⟩:=ok.cd (.inr rfl);have mu:=SX (w1,w2,Z,Y,U,M) ob d1 d2;simp only[aU,cz,cI,cU,cN,jb,cJ,mu];rfl
 all_goals
  simp only[aU,cz,cI,cU,cN,jb,cJ];rfl
theorem ajl {w:vS} {h:HS} {e:EV} (ok:EOK w h e) {x:ETp} (hx:EvT e x):oB (w,x)=af (Ap w e):=by
 obtain⟨x1,x2,x3,x4,x5,x6,x7⟩:=x;obtain⟨w1,w2,Z,Y,U,M⟩:=w;obtain⟨th,k,ob,va⟩:=e;obtain⟨J,I,q3,q4⟩:=hx;simp only at J I q3 q4;subst J q4;unfold oB aY bi bw cu dU cY kB bd aE;rcases HA I ok.k1 ok.k2 with ⟨e,e'⟩|⟨e,e'⟩|⟨e,e'⟩|⟨e,e'⟩|⟨e,e'⟩|⟨e,e'⟩|⟨e,e'⟩|⟨e,e'⟩|⟨e,e'⟩|⟨e,e'⟩|⟨e,e'⟩|⟨e,e'⟩|⟨e,e'⟩|⟨e,e'⟩|⟨e,e'⟩|⟨e,e'⟩|⟨e,e'⟩|⟨e,e'⟩|⟨e,e'⟩|⟨e,e'⟩|⟨e,e'⟩|⟨e,e'⟩|⟨e,e'⟩<;>clear I<;>subst e<;>subst e'
 case inr.inr.inr.inr.inr.inr.inl=>
  obtain rfl:=q3 (by decide);simp only[aU,cz,cI,cU,cN,jb,cJ];rfl
 case inr.inr.inr.inr.inr.inr.inr.inr.inr.inr.inl=>
  obtain rfl:=q3 (by decide);simp only[aU,cz,cI,cU,cN,jb,cJ];rfl
 case inr.inr.inr.inr.inr.inr.inr.inr.inl=>
  obtain rfl:=q3 (by decide);simp only[aU,cz,cI,cU,cN,jb,cJ];rfl
 case inr.inr.inr.inr.inr.inr.inr.inr.inr.inr.inr.inr.inr.inr.inr.inl=>
  obtain rfl:=q3 (by decide);obtain⟨d1,d2,d3⟩:=ok.cd (.inl rfl);have mu:=SX (w1,w2,Z,Y,U,M) ob d1 d2;simp only[aU,cz,cI,cU,cN,jb,cJ,mu];rfl
 all_goals
  simp only[aU,cz,cI,cU,cN,jb,cJ];rfl
theorem WL (a b:List Int):jl a b=jl b a:=wD (by simp only[pJ];omega) λi=>by simp only[vM,qp];omega
def JC (c:Nat->List Int) (p:Nat->Bool):Nat->List Int
 |0=>[]
 |i+1=>if p i=ai then jl (JC c p i) (c i) else JC c p i
theorem V6 (c:Nat->List Int) (p:Nat->Bool):∀ i,(∀ k,k<i->p k=aj)->JC c p i=[]
 |0,_=>rfl
 |i+1,h=>by rw[JC,h i (by omega),ay (by simp)];exact V6 c p i λk hk=>h k (by omega)
theorem Pw {c:Nat->List Int} {p:Nat->Bool} {i:Nat} (h:p i=ai):JC c p (i+1)=jl (JC c p i) (c i):=by rw[JC,aF h]
theorem DY {c:Nat->List Int} {p:Nat->Bool} {i:Nat} (h:p i=aj):JC c p (i+1)=JC c p i:=by rw[JC,ay (by rw[h];simp)]
theorem am4 (w:vS) (h:HS) (e:EV) (c:List Int):(jV w h e c).S=if e.k=20 then h.S.set e.ob c else h.S:=by
 unfold jV;simp only[];repeat' split
 all_goals first|rfl|omega
theorem am7 (w:vS) (h:HS) (e:EV) (c:List Int):(jV w h e c).L=if (e.k=7\/e.k=11) then jat h.L e.ob c else if e.k=16 then jat h.L (NZ w.2.2.1 e.ob) c else h.L:=by
 unfold jV;simp only[];repeat' split
 all_goals first|rfl|omega
theorem am5 (w:vS) (h:HS) (e:EV) (c:List Int):(jV w h e c).R=if e.k=9 then jat h.R e.ob c else h.R:=by
 unfold jV;simp only[];repeat' split
 all_goals first|rfl|omega
theorem am9 (w:vS) (h:HS) (e:EV) (c:List Int):(jV w h e c).C=if e.k=4/\HZ w.1 e.ob=ai then jat h.C e.ob c else h.C:=by
 unfold jV;simp only[];repeat' split
 all_goals first|rfl|omega|(rename_i h1 h2;exact cV ⟨by assumption,by assumption⟩ h2)|(rename_i h1 h2;exact cV h2.2 h1)|(rename_i h1;exact cV h1.1 (by assumption))
theorem am8 (w:vS) (h:HS) (e:EV) (c:List Int):(jV w h e c).F=if e.k=22 then jat h.F e.ob c else h.F:=by
 unfold jV;simp only[];repeat' split
 all_goals first|rfl|omega
theorem am2 (w:vS) (h:HS) (e:EV) (c:List Int):(jV w h e c).X=if e.k=13 then jl h.X c else h.X:=by
 unfold jV;simp only[];repeat' split
 all_goals first|rfl|omega
theorem CV (l:List (List Int)) (i:Nat) (c:List Int) (o:Nat) (h:i<l.length):(jat l i c).getD o []=if i=o then jl (l.getD o []) c else l.getD o []:=by
 unfold jat;rw[qB];by_cases e:i=o
 .subst e;rw[aF ⟨rfl,h⟩,aF rfl]
 .rw[ay λq=>e q.1,ay e]
abbrev pT (l:List ET) (u k:Nat):Bool:=decide ((cO l k).th=u)
abbrev pS (l:List ET) (u k:Nat):Bool:=decide ((cO l k).k=20/\(cO l k).ob=u)
abbrev pL (w:WT) (l:List ET) (x:Int×Bool) (k:Nat):Bool:=decide (Ap w (cO l k)=x)
abbrev pC (w:WT) (l:List ET) (o k:Nat):Bool:=decide ((cO l k).k=4/\(cO l k).ob=o/\HZ w.1 o=ai)
abbrev pF (l:List ET) (o k:Nat):Bool:=decide ((cO l k).k=22/\(cO l k).ob=o)
abbrev pX (l:List ET) (k:Nat):Bool:=decide ((cO l k).k=13)
structure IN (w:WT) (l:List ET) (i:Nat) (h:HS):Prop where
 T:∀ u,h.T.getD u []=JC (oH w l) (pT l u) i
 S:∀ u,h.S.getD u []=JC (oH w l) (pS l u) i
 L:∀ o:Nat,h.L.getD o []=JC (oH w l) (pL w l ((o:Int),aj)) i
 R:∀ o:Nat,h.R.getD o []=JC (oH w l) (pL w l ((o:Int),ai)) i
 C:∀ o,h.C.getD o []=JC (oH w l) (pC w l o) i
 F:∀ o,h.F.getD o []=JC (oH w l) (pF l o) i
 X:h.X=JC (oH w l) (pX l) i
theorem Z8 {w:vS} {e:EV} (h:e.k=7\/e.k=11):Ap w e=((e.ob:Int),aj):=by unfold Ap;rw[aF h]
theorem TX {w:vS} {e:EV} (h:e.k=9):Ap w e=((e.ob:Int),ai):=by unfold Ap;rw[ay (by omega),aF h]
theorem Wp {w:vS} {e:EV} (h:e.k=16):Ap w e=((NZ w.2.2.1 e.ob:Int),aj):=by unfold Ap;rw[ay (by omega),ay (by omega),aF h]
theorem ai8 {w:vS} {e:EV} (h:¬(e.k=7\/e.k=11)) (h1:¬e.k=9) (h2:¬e.k=16):Ap w e=(-1,aj):=by unfold Ap;rw[ay h,ay h1,ay h2]
theorem IN.zero (w:WT) (l:List ET):IN w l 0 (HS.zero w):=
 have r:∀ n:Nat,∀ u,(aG n ([]:List Int)).getD u []=[]:=λn=>nW.repl (P:=λx=>x=[]) rfl n
 ⟨r _,r _,λ_=>r _ _,λ_=>r _ _,r _,r _,rfl⟩
theorem IN.step {w:WT} {l:List ET} {i:Nat} {h:HS} (a:IN w l i h) (n:Int) (o:XC n h) (hh:h=D8 w (l.take i)) (hi:i<l.length) (ok:EOK w h (cO l i)) (J:(cO l i).k=20->∀ k,k<i->pS l (cO l i).ob k=aj):IN w l (i+1) (jV w h (cO l i) (oH w l i)):=by
 have hcT:LE (h.T.getD (cO l i).th []) (oH w l i):=by rw[hh];exact ah4 w _ _
 have hc:En (n+1) (oH w l i):=by unfold oH;rw[<- hh];exact O5 o ok.th4
 refine ⟨λu=>?_,λu=>?_,λx=>?_,λx=>?_,λx=>?_,λx=>?_,?_⟩
 .rw[abh,qB];by_cases e:(cO l i).th=u
  .rw[aF ⟨e,ok.th⟩,Pw (by simpa using e),<-a.T u,LE.jl (by rw[<- e];exact hcT)]
  .rw[ay λq=>e q.1,DY (by simpa using e)];exact a.T u
 .rw[am4];by_cases k:(cO l i).k=20
  .rw[aF k,qB];by_cases e:(cO l i).ob=u
   .rw[aF ⟨e,by rw[o.lS];exact ok.sp (.inl k)⟩,Pw (by simp[k,e]),V6 _ _ i (by rw[<- e];exact J k),aid hc]
   .rw[ay λq=>e q.1,DY (by simp[e])];exact a.S u
  .rw[ay k,DY (by simp[k])];exact a.S u
 .rw[am7];by_cases k:(cO l i).k=7\/(cO l i).k=11
  .rw[aF k,CV _ _ _ _ (ok.lk (by omega))];by_cases e:(cO l i).ob=x
   .rw[aF e,Pw (by simp[Z8 k,e]),<-a.L x]
   .rw[ay e,DY (by simp[Z8 k];omega)];exact a.L x
  rw[ay k];by_cases k2:(cO l i).k=16
  .rw[aF k2,CV _ _ _ _ (ok.cd (.inl k2)).2.2];by_cases e:NZ w.2.2.1 (cO l i).ob=x
   .rw[aF e,Pw (by simp[Wp k2,e]),<-a.L x]
   .rw[ay e,DY (by simp[Wp k2];omega)];exact a.L x
  rw[ay k2,DY]
  .exact a.L x
  .by_cases I:(cO l i).k=9
   .simp[TX I]
   .simp[ai8 k I k2]
 .rw[am5];by_cases k:(cO l i).k=9
  .rw[aF k,CV _ _ _ _ (by rw[o.lR];exact ok.lk (by omega))];by_cases e:(cO l i).ob=x
   .rw[aF e,Pw (by simp[TX k,e]),<-a.R x]
   .rw[ay e,DY (by simp[TX k];omega)];exact a.R x
  rw[ay k,DY]
  .exact a.R x
  .unfold pL Ap;repeat' split
   all_goals first|omega|simp
 .rw[am9];by_cases k:(cO l i).k=4/\HZ w.1 (cO l i).ob=ai
  .rw[aF k,CV _ _ _ _ (ok.ce (.inr k.1)).1];by_cases e:(cO l i).ob=x
   .rw[aF e,Pw (by simp[k.1,e];rw[<- e];exact k.2),<-a.C x]
   .rw[ay e,DY (by simp[e])];exact a.C x
  .rw[ay k,DY]
   .exact a.C x
   .refine bL λq=>k ⟨q.1,by rw[q.2.1];exact q.2.2⟩
 .rw[am8];by_cases k:(cO l i).k=22
  .rw[aF k,CV _ _ _ _ (ok.fu (.inl k))];by_cases e:(cO l i).ob=x
   .rw[aF e,Pw (by simp[k,e]),<-a.F x]
   .rw[ay e,DY (by simp[e])];exact a.F x
  .rw[ay k,DY (by simp[k])];exact a.F x
 .rw[am2];by_cases k:(cO l i).k=13
  .rw[aF k,Pw (by simp[k]),<-a.X]
  .rw[ay k,DY (by simp[k])];exact a.X
abbrev gT (th:List (Int×Int×Bool)) (u:Int):Int×Int×Bool:=aJ (T:=jx) th u
theorem EQ {T:Ty} (xs:List T.den) (j k:Int) (x:T.den) (hj:0<=j) (hk:0<=k) (h2:k<xs.length):aJ (cQ xs j x) k=if k=j then x else aJ xs k:=by
 by_cases h:j<xs.length
 .exact rF xs j k x hj h hk
 .rw[ay (by omega)];unfold aJ cQ;rw[aA,aA,oN,ay (by omega)]
theorem xh {th:List (Int×Int×Bool)} {t u:Int} (s:Int) (t0:0<=t) (J:0<=u) (I:u<th.length):gT (xY th t s) u=if u=t then (s,(gT th u).2) else gT th u:=by
 unfold xY gT;rw[EQ _ _ _ _ t0 J I];split
 .rename_i h;subst h;rfl
 .rfl
theorem Xk {th:List (Int×Int×Bool)} {t u:Int} (s:Int) (t0:0<=t) (J:0<=u) (I:u<th.length):gT (cdP th t s) u=if u=t then ((gT th u).1,s,(gT th u).2.2) else gT th u:=by
 unfold cdP gT;rw[EQ _ _ _ _ t0 J I];split
 .rename_i h;subst h;rfl
 .rfl
theorem Xo {th:List (Int×Int×Bool)} {t u:Int} (s:Bool) (t0:0<=t) (J:0<=u) (I:u<th.length):gT (atP th t s) u=if u=t then ((gT th u).1,(gT th u).2.1,s) else gT th u:=by
 unfold atP gT;rw[EQ _ _ _ _ t0 J I];split
 .rename_i h;subst h;rfl
 .rfl
theorem alo {u:Int} (I:0<=u):∀ (l:List Int) (th:List (Int×Int×Bool)),(∀ x∈l,0<=x)->u<th.length->gT (CJ th l) u=if u∈l then (4,(gT th u).2) else gT th u
 |[],th,_,_=>by simp[CJ]
 |x::r,th,h,h2=>by
  have e:CJ th (x::r)=CJ (xY th x 4) r:=rfl;rw[e,alo I r _ (λy J=>h y (cH _ J)) (by unfold xY;rw[bT];exact h2),xh 4 (h x (dh ..)) I h2];by_cases a:u=x
  .subst a;simp
  .simp[a]
structure TH1 (k o v t u:Int) (g g':Int×Int×Bool):Prop where
 a:u=t->g.1≠0/\g.1≠3/\(k=16->g'.1=3/\g'.2.1=o)/\(k≠16->g'.1≠0/\g'.1≠3/\g'.1≠4)/\(k≠1->k≠17->g.1=2)
 b:u≠t->k=18->v=u->g.1=3/\g.2.1=o/\g'.1=4/\g'.2.1=o
 c:u≠t->k=19->g.1=3->g.2.1=o->g'.1=4/\g'.2.1=o
 d:u≠t->¬(k=18/\v=u)->¬(k=19/\g.1=3/\g.2.1=o)->g'.2.1=g.2.1/\(g'.1=g.1\/k=20/\o=u/\g.1=0/\g'.1=1)
 e:k=20->o=u->g'.1≠0
theorem TH1.same {k o v t u:Int} {g g':Int×Int×Bool} (h2:k≠1->k≠17->u=t->g.1=2) (e1:g'.1=g.1) (e2:g'.2.1=g.2.1) (n1:k≠1) (Y:k≠17) (n3:k≠16) (J:k≠20) (U:k=18->v=u->u=t) (M:k=19->g.1=3->g.2.1=o->u=t):TH1 k o v t u g g':=
 ⟨λh=>(by have:=h2 n1 Y h;rw[e1];omega),λh h1 I=>(h (U h1 I)).elim,λh h1 I Z=>(h (M h1 I Z)).elim,λ_ _ _=>⟨e2,.inl e1⟩,λh=>(J h).elim⟩
theorem aiz (w:WT) (s:SY) (t k o v:Int) (en:EN w s t k o) (rd:V2 w s t k o) (va:k=18->v=(qX w s t k o v).2) (u:Int) (J:0<=u) (I:u<s.2.2.2.length):TH1 k o v t u (gT s.2.2.2 u) (gT (qX w s t k o v).1.2.2.2 u):=by
 have t0:=en.t0;have r2:k≠1->k≠17->u=t->(gT s.2.2.2 u).1=2:=λh1 h2 Y=>by subst Y;exact rd.r h1 h2
 have nm:=en.nm;have k1:=nm.k1;have k2:=nm.k2;obtain⟨s1,s2,M,th⟩:=s;dsimp only at I r2;change TH1 k o v t u (gT th u) (gT (qX w (s1,s2,M,th) t k o v).1.2.2.2 u);by_cases a1:k=1
 .subst a1;have e:gT (qX w (s1,s2,M,th) t 1 o v).1.2.2.2 u=if u=t then (2,(gT th u).2) else gT th u:=xh 2 t0 J I
  rw[e];refine ⟨λh=>?_,λ_ h=>by omega,λ_ h=>by omega,λh _ _=>by rw[ay h];exact⟨rfl,.inl rfl⟩,λh=>by omega⟩;have b:=rd.b rfl;rw[aF h];subst h;have b:(gT th u).1=1:=b;dsimp only;omega
 by_cases a2:k=2
 .subst a2;have e:gT (qX w (s1,s2,M,th) t 2 o v).1.2.2.2 u=if u=t then (5,(gT th u).2) else gT th u:=xh 5 t0 J I
  rw[e];refine ⟨λh=>?_,λ_ h=>by omega,λ_ h=>by omega,λh _ _=>by rw[ay h];exact⟨rfl,.inl rfl⟩,λh=>by omega⟩;have:=r2 (by omega) (by omega) h;rw[aF h];dsimp only;omega
 by_cases a14:k=14\/k=15
 .have e:∃ b,gT (qX w (s1,s2,M,th) t k o v).1.2.2.2 u=if u=t then ((gT th u).1,(gT th u).2.1,b) else gT th u:=by
   rcases a14 with rfl|rfl
   .exact⟨ai,Xo ai t0 J I⟩
   .exact⟨aj,Xo aj t0 J I⟩
  obtain⟨b,e⟩:=e;rw[e];refine TH1.same r2 (by split<;>rfl) (by split<;>rfl) a1 (by omega) (by omega) (by omega) (λh=>by omega) λh=>by omega
 by_cases a16:k=16
 .subst a16;have e:gT (qX w (s1,s2,M,th) t 16 o v).1.2.2.2 u=if u=t then (3,o,(gT th u).2.2) else gT th u:=by
   have:gT (cdP (xY th t 3) t o) u=_:=Xk o t0 J (by unfold xY;rw[bT];exact I);refine Eq.trans this ?_;rw[xh 3 t0 J I];split<;>rfl
  rw[e];refine ⟨λh=>?_,λ_ h=>by omega,λ_ h=>by omega,λh _ _=>by rw[ay h];exact⟨rfl,.inl rfl⟩,λh=>by omega⟩;have:=r2 (by omega) (by omega) h;rw[aF h];exact⟨by omega,by omega,λ_=>⟨rfl,rfl⟩,λh=>(h rfl).elim,λ_ _=>this⟩
 by_cases a17:k=17
 .subst a17;have e:gT (qX w (s1,s2,M,th) t 17 o v).1.2.2.2 u=if u=t then (2,0,(gT th u).2.2) else gT th u:=by
   have:gT (cdP (xY th t 2) t 0) u=_:=Xk 0 t0 J (by unfold xY;rw[bT];exact I);refine Eq.trans this ?_;rw[xh 2 t0 J I];split<;>rfl
  rw[e];refine ⟨λh=>?_,λ_ h=>by omega,λ_ h=>by omega,λh _ _=>by rw[ay h];exact⟨rfl,.inl rfl⟩,λh=>by omega⟩;have b:=(rd.wk rfl).1;rw[aF h];subst h;have b:(gT th u).1=4:=b;dsimp only;omega
 by_cases a18:k=18
 .subst a18;have va:=va rfl;rw[Fi] at va ⊢;dsimp only at va ⊢;by_cases hl:(wl th o th.length).length=0
  .rw[aF hl] at va ⊢;dsimp only at va ⊢;exact TH1.same r2 rfl rfl a1 (by omega) (by omega) (by omega) (λ_ h=>by omega) λh=>by omega
  .rw[ay hl] at va ⊢;dsimp only at va ⊢;have hv:v∈wl th o th.length:=by
    unfold Bm at va;rw[ay hl] at va;split at va
    .rename_i h;simpa using h
    .rw[va];exact bH (T:=.int .i64) (by omega) (by omega)
   rw[<- va];obtain⟨v0,v1,U⟩:=q_.1 hv;unfold HV at U;simp only[av,be] at U;rw[xh 4 v0 J I];refine ⟨λh=>?_,λh _ h2=>?_,λ_ h=>by omega,λh h2 _=>?_,λh=>by omega⟩
   .have:=r2 (by omega) (by omega) h;rw[ay (λq=>by rw[q] at this;exact cV (this.symm.trans U.1) (by decide))];omega
   .subst h2;rw[aF rfl];exact⟨U.1,U.2,rfl,U.2⟩
   .rw[ay λq=>h2 ⟨rfl,q.symm⟩];exact⟨rfl,.inl rfl⟩
 by_cases a19:k=19
 .subst a19;have e:gT (qX w (s1,s2,M,th) t 19 o v).1.2.2.2 u=if u∈wl th o th.length then (4,(gT th u).2) else gT th u:=alo J _ th (λx hx=>(q_.1 hx).1) I
  rw[e];have hm:u∈wl th o th.length↔(gT th u).1=3/\(gT th u).2.1=o:=by
   rw[q_];unfold HV;simp only[av,be];exact⟨λh=>h.2.2,λh=>⟨J,I,h⟩⟩
  refine ⟨λh=>?_,λ_ h=>by omega,λh _ Y h4=>?_,λh _ Y=>?_,λh=>by omega⟩
  .have:=r2 (by omega) (by omega) h;rw[ay (λq=>by have:=(hm.1 q).1;omega)];omega
  .rw[aF (hm.2 ⟨Y,h4⟩)];exact⟨rfl,h4⟩
  .rw[ay λq=>Y ⟨rfl,hm.1 q⟩];exact⟨rfl,.inl rfl⟩
 by_cases Z:k=20
 .subst Z;have sp:=rd.sp rfl;have o0:=(nm.th (.inl rfl)).1;have e:gT (qX w (s1,s2,M,th) t 20 o v).1.2.2.2 u=if u=o then (1,(gT th u).2) else gT th u:=xh 1 o0 J I
  rw[e];refine ⟨λh=>?_,λ_ h=>by omega,λ_ h=>by omega,λh _ _=>?_,λ_ h=>?_⟩
  .have:=r2 (by omega) (by omega) h;rw[ay (λq=>sp.1 (by omega))];omega
  .by_cases q:u=o
   .subst q;rw[aF rfl];exact⟨rfl,.inr ⟨rfl,rfl,sp.2,rfl⟩⟩
   .rw[ay q];exact⟨rfl,.inl rfl⟩
  .rw[aF h.symm];show (1:Int)≠0;omega
 have e:(qX w (s1,s2,M,th) t k o v).1.2.2.2=th:=by
  unfold qX;rw[ay a1,ay a2];repeat' split
  all_goals first|rfl|omega
 rw[e];exact TH1.same r2 rfl rfl a1 a17 a16 Z (λh=>(a18 h).elim) λh=>(a19 h).elim
def t8 (l:List ET) (u:Nat):Nat->Int
 |0=> -1
 |i+1=>if (cO l i).th=u then (i:Int) else t8 l u i
def mtN (l:List ET) (u i:Nat) (p:Int):Prop:=0<=p/\(cO l p.toNat).k=16/\((cO l i).k=18/\(cO l i).va=u\/(cO l i).k=19/\(cO l i).ob=(cO l p.toNat).ob)
def Cm (l:List ET) (u:Nat):Nat->Int
 |0=> -1
 |i+1=>if (cO l i).th=u then -1 else if 0<=Cm l u i then Cm l u i else @ite _ (mtN l u i (t8 l u i)) (yD _) (i:Int) (-1)
theorem V_ {l:List ET} {u i:Nat} (h:(cO l i).th=u):Cm l u (i+1)= -1:=by rw[Cm,aF h]
theorem Wa {l:List ET} {u i:Nat} (h:¬(cO l i).th=u) (g:0<=Cm l u i):Cm l u (i+1)=Cm l u i:=by rw[Cm,ay h,aF g]
theorem Wc {l:List ET} {u i:Nat} (h:¬(cO l i).th=u) (g:Cm l u i= -1) (m:mtN l u i (t8 l u i)):Cm l u (i+1)=i:=by rw[Cm,ay h,ay (by omega),aF m]
theorem Wb {l:List ET} {u i:Nat} (h:¬(cO l i).th=u) (g:Cm l u i= -1) (m:¬mtN l u i (t8 l u i)):Cm l u (i+1)= -1:=by rw[Cm,ay h,ay (by omega),ay m]
theorem FK {α:Type} (l:List α) (f:Nat->α->α) (u:Nat) (d:α) (h:u<l.length):(l.mapIdx f).getD u d=f u (l.getD u d):=by
 rw[aA,D6,aB h,aA,aB h];rfl
theorem am3 (w:vS) (h:HS) (e:EV) (c:List Int) (u:Nat) (hu:u<h.W.length) (U:h.N.length=h.W.length):(jV w h e c).W.getD u 0=if e.k=16/\e.th=u then (e.ob:Int) else if e.k=18/\e.va=u\/e.k=19/\h.W.getD u 0=e.ob then -1 else h.W.getD u 0:=by
 obtain⟨th,k,ob,va⟩:=e;dsimp only;by_cases I:k=16
 .subst I;have e:(jV w h ⟨th,16,ob,va⟩ c).W=h.W.set th ob:=rfl;rw[e,qB];by_cases q:th=u
  .rw[aF ⟨q,by omega⟩,aF ⟨rfl,q⟩]
  .rw[ay λx=>q x.1,ay λx=>q x.2,ay (by omega)]
 rw[ay λx=>I x.1];by_cases M:k=18
 .subst M;have e:jV w h ⟨th,18,ob,va⟩ c=if 0<=va/\va<h.N.length then {h with T:=h.T.set th c,N:=h.N.set va.toNat c,W:=h.W.set va.toNat (-1)} else {h with T:=h.T.set th c}:=rfl
  rw[e];split
  .show (h.W.set va.toNat (-1)).getD u 0=_;rw[qB];by_cases q:va=u
   .rw[aF ⟨by omega,by omega⟩,aF (.inl ⟨rfl,q⟩)]
   .rw[ay (by omega),ay (by omega)]
  .rw[ay (by omega)]
 by_cases J:k=19
 .subst J;have e:(jV w h ⟨th,19,ob,va⟩ c).W=h.W.mapIdx λu x=>if decide (h.W.getD u 0=(ob:Int))=ai then -1 else x:=rfl
  rw[e,FK _ _ _ _ hu];by_cases q:h.W.getD u 0=ob
  .rw[aF (aQ q),aF (.inr ⟨rfl,q⟩)]
  .rw[ay (by simpa using q),ay (by omega)]
 rw[ay (by omega)];have e:(jV w h ⟨th,k,ob,va⟩ c).W=h.W:=by
  unfold jV;simp only[];repeat' split
  all_goals first|rfl|omega
 rw[e]
theorem am6 (w:vS) (h:HS) (e:EV) (c:List Int) (u:Nat) (hu:u<h.N.length):(jV w h e c).N.getD u []=if e.k=18/\e.va=u\/e.k=19/\h.W.getD u 0=e.ob then c else h.N.getD u []:=by
 obtain⟨th,k,ob,va⟩:=e;dsimp only;by_cases J:k=18
 .subst J;have e:jV w h ⟨th,18,ob,va⟩ c=if 0<=va/\va<h.N.length then {h with T:=h.T.set th c,N:=h.N.set va.toNat c,W:=h.W.set va.toNat (-1)} else {h with T:=h.T.set th c}:=rfl
  rw[e];split
  .show (h.N.set va.toNat c).getD u []=_;rw[qB];by_cases q:va=u
   .rw[aF ⟨by omega,by omega⟩,aF (.inl ⟨rfl,q⟩)]
   .rw[ay (by omega),ay (by omega)]
  .rw[ay (by omega)]
 by_cases I:k=19
 .subst I;have e:(jV w h ⟨th,19,ob,va⟩ c).N=h.N.mapIdx λu x=>if decide (h.W.getD u 0=(ob:Int))=ai then c else x:=rfl
  rw[e,FK _ _ _ _ hu];by_cases q:h.W.getD u 0=ob
  .rw[aF (aQ q),aF (.inr ⟨rfl,q⟩)]
  .rw[ay (by simpa using q),ay (by omega)]
 rw[ay (by omega)];have e:(jV w h ⟨th,k,ob,va⟩ c).N=h.N:=by
  unfold jV;simp only[];repeat' split
  all_goals first|rfl|omega
 rw[e]
abbrev ZH (w:WT) (l:List ET) (i u:Nat):Int×Int×Bool:=gT (Nl w (l.take i)).1.2.2.2 (u:Int)
structure WI (w:WT) (l:List ET) (i:Nat) (h:HS) (u:Nat) (g:Int×Int×Bool):Prop where
 W:h.W.getD u 0=if g.1=3 then g.2.1 else -1
 p:g.1=3\/g.1=4->0<=t8 l u i/\(cO l (t8 l u i).toNat).k=16/\((cO l (t8 l u i).toNat).ob:Int)=g.2.1
 a:g.1=3->Cm l u i= -1
 n:g.1=4->0<=Cm l u i/\h.N.getD u []=oH w l (Cm l u i).toNat
 s:g.1=0->∀ k,k<i->pS l u k=aj
theorem ai4:∀ n,∀ x∈XG n,x.1=0\/x.1=1
 |0,x,h=>by cases h
 |n+1,x,h=>by
  rcases bm.1 h with rfl|h
  .exact .inr rfl
  .rw[pt h];exact .inl rfl
theorem WI.zero (w:WT) (l:List ET) (u:Nat) (hu:u<w.2.2.2.2.1.length):WI w l 0 (HS.zero w) u (ZH w l 0 u):=by
 have h1:(ZH w l 0 u).1=0\/(ZH w l 0 u).1=1:=ai4 _ _ (bH (T:=jx) (xs:=XG w.2.2.2.2.1.length) (j:=(u:Int)) (by omega) (by rw[Ht];omega));have hW:(HS.zero w).W.getD u 0= -1:=by
  have:(aG w.2.2.2.2.1.length (-1:Int)).getD u 0= -1:=by rw[aA,lm,aF hu];rfl
  exact this
 exact⟨by rw[hW,ay (by omega)],λh=>by omega,λh=>by omega,λh=>by omega,λ_ k hk=>by omega⟩
theorem WI.step {w:WT} {l:List ET} {i:Nat} {h:HS} {u:Nat} (a:WI w l i h u (ZH w l i u)) (hi:i<l.length) (sc:SCx w (l.take i) (Nl w (l.take i)).1 (Nl w (l.take i)).2.1 (Nl w (l.take i)).2.2 (eN l i)) (et:EvT (cO l i) (eN l i)) (hu:u<w.2.2.2.2.1.length) (h1:h.W.length=w.2.2.2.2.1.length) (h2:h.N.length=w.2.2.2.2.1.length):WI w l (i+1) (jV w h (cO l i) (oH w l i)) u (ZH w l (i+1) u):=by
 have en:=sc.en;have eg:ZH w l (i+1) u=gT (qX w (Nl w (l.take i)).1 (eN l i).1 (eN l i).2.1 (eN l i).2.2.1 (eN l i).2.2.2.1).1.2.2.2 (u:Int):=by unfold ZH;rw[SA w hi]
 have T1:TH1 (eN l i).2.1 (eN l i).2.2.1 (eN l i).2.2.2.1 (eN l i).1 (u:Int) (ZH w l i u) (ZH w l (i+1) u):=by
  rw[eg];exact aiz w (Nl w (l.take i)).1 (eN l i).1 (eN l i).2.1 (eN l i).2.2.1 (eN l i).2.2.2.1 en sc.rd (λh=>sc.va.el (by omega) (by omega) (by omega) (by omega) (by omega)) (u:Int) (by omega) (by rw[en.e3];omega)
 clear eg;have eW:=am3 w h (cO l i) (oH w l i) u (by omega) (by omega);have eN9:=am6 w h (cO l i) (oH w l i) u (by omega);have qt:=et.th;have Z:=et.k;have qv:=et.va;have Y:(cO l i).k=16\/(cO l i).k=19\/(cO l i).k=20->(eN l i).2.2.1=((cO l i).ob:Int):=λh=>et.ob (by rcases h with h|h|h<;>rw[h]<;>decide)
 have pv':t8 l u (i+1)=if (cO l i).th=u then (i:Int) else t8 l u i:=rfl
 have ps:pS l u i=decide ((cO l i).k=20/\(cO l i).ob=u):=rfl;clear en sc;obtain⟨aW,ap,aa,an,as'⟩:=a;obtain⟨ta,tb,tc,td,te⟩:=T1;generalize ZH w l (i+1) u=g' at*
 generalize ZH w l i u=g at*
 by_cases I:(cO l i).th=u
 .obtain⟨b1,b2,b3,b4,_⟩:=ta (by rw[qt,I]);have w0:Cm l u (i+1)= -1:=V_ I;have hW':h.W.getD u 0= -1:=by rw[aW,ay b2]
  by_cases J:(cO l i).k=16
  .obtain⟨c1,c2⟩:=b3 (by rw[Z,J];rfl);refine ⟨by rw[eW,aF ⟨J,I⟩,aF c1,c2,Y (.inl J)],λ_=>?_,λ_=>w0,λh=>by omega,λh=>by omega⟩;rw[pv',aF I,dQ];exact⟨by omega,J,by rw[c2,Y (.inl J)]⟩
  .obtain⟨c1,c2,c3⟩:=b4 (by rw[Z];omega);refine ⟨?_,λh=>by omega,λh=>by omega,λh=>by omega,λh=>by omega⟩;rw[eW,ay (λx=>J x.1),ay c2,hW'];split<;>rfl
 have hut:(u:Int)≠(eN l i).1:=by rw[qt];omega
 rw[ay I] at pv';rw[ay (λx=>I x.2)] at eW;by_cases A:(cO l i).k=18/\(cO l i).va=u\/(cO l i).k=19/\h.W.getD u 0=(cO l i).ob
 .have B:g.1=3/\g'.1=4/\g'.2.1=g.2.1/\((cO l i).k=19->g.2.1=(cO l i).ob):=by
   rcases A with ⟨k,v⟩|⟨k,v⟩
   .obtain⟨U,M,d3,d4⟩:=tb hut (by rw[Z,k];rfl) (by rw[qv,v]);exact⟨U,d3,by rw[M,d4],λq=>by omega⟩
   .have g3:g.1=3:=by
     rw[aW] at v;split at v
     .assumption
     .omega
    rw[aW,aF g3] at v;obtain⟨U,M⟩:=tc hut (by rw[Z,k];rfl) g3 (by rw[v,Y (.inr (.inl k))]);exact⟨g3,U,by rw[M,v,Y (.inr (.inl k))],λ_=>v⟩
  obtain⟨U,M,d3,d4⟩:=B;obtain⟨p1,p2,p3⟩:=ap (.inl U);have hw:=Wc I (aa U) ⟨p1,p2,by
   rcases A with A|⟨k,_⟩
   .exact .inl A
   .exact .inr ⟨k,by have:=d4 k;omega⟩⟩
  rw[aF A] at eW eN9;refine ⟨by rw[eW,ay (by omega)],λ_=>by rw[pv',d3];exact⟨p1,p2,p3⟩,λh=>by omega,λ_=>by rw[hw,dQ];exact⟨by omega,eN9⟩,λh=>by omega⟩
 rw[ay A] at eW eN9;have nv:¬((eN l i).2.1=18/\(eN l i).2.2.2.1=(u:Int)):=λq=>A (.inl ⟨by omega,by rw[<- qv];exact q.2⟩)
 have nw:¬((eN l i).2.1=19/\g.1=3/\g.2.1=(eN l i).2.2.1):=λq=>A (.inr ⟨by omega,by rw[aW,aF q.2.1,q.2.2,Y (.inr (.inl (by omega)))]⟩)
 obtain⟨U,M⟩:=td hut nv nw;have nm:g.1=3->¬mtN l u i (t8 l u i):=λq ⟨_,_,m⟩=>by
  obtain⟨_,_,p3⟩:=ap (.inl q);rcases m with m|⟨k,m⟩
  .exact A (.inl m)
  .exact nw ⟨by omega,q,by rw[Y (.inr (.inl k)),m,p3]⟩
 refine ⟨?_,λq=>?_,λq=>?_,λq=>?_,λq k hk=>?_⟩
 .rw[eW,aW,U];rcases M with M|M
  .rw[M]
  .rw[ay (by omega),ay (by omega)]
 .rw[pv',U];exact ap (by omega)
 .have q:g.1=3:=by omega
  exact Wb I (aa q) (nm q)
 .have q:g.1=4:=by omega
  obtain⟨n1,n2⟩:=an q;rw[Wa I n1,eN9];exact⟨n1,n2⟩
 .have q0:g.1=0:=by omega
  by_cases e:k=i
  .subst e;rw[ps];exact bL λr=>te (by rw[Z,r.1];rfl) (by rw[Y (.inr (.inr r.1)),r.2]) q
  .exact as' q0 k (by omega)
theorem Uk {w:WT} {l:List ET} (I:TR (w,l)):∀ i:Nat,i<=l.length->IN w l i (D8 w (l.take i))/\∀ u,u<w.2.2.2.2.1.length->WI w l i (D8 w (l.take i)) u (ZH w l i u)
 |0,_=>⟨IN.zero w l,λu hu=>WI.zero w l u hu⟩
 |i+1,h=>by
  obtain⟨a,b⟩:=Uk I i (by omega);obtain⟨o,J⟩:=zd I i (by omega);have hi:i<l.length:=by omega
  have sc:=I.sc hi;have et:=qC I hi;have ok:=uD I hi;rw[za w hi];refine ⟨a.step _ o rfl hi ok λk=>?_,λu hu=>(b u hu).step hi sc et hu (o.lW.trans J.T) (o.lN.trans J.T)⟩;have sp:=(sc.rd.sp (by rw[et.k,k];rfl)).2;rw[et.ob (by rw[k];decide)] at sp;exact (b _ (by rw[<- J.T];exact ok.sp (.inl k))).s sp
theorem ami {w:WT} {l:List ET} (I:TR (w,l)) (u:Nat):∀ i:Nat,i<=l.length->(D8 w (l.take i)).T.getD u []=if 0<=t8 l u i then oH w l (t8 l u i).toNat else []
 |0,_=>nW.repl (P:=λx=>x=[]) rfl _ _
 |i+1,h=>by
  have J:=ami I u i (by omega);rw[za w (by omega),abh,qB,t8];by_cases e:(cO l i).th=u
  .rw[aF ⟨e,(uD I (by omega)).th⟩,aF e,aF (by omega),dQ]
  .rw[ay λq=>e q.1,ay e];exact J
theorem uK {c:Nat->List Int} {p q:Nat->Bool}:∀ i,(∀ k,k<i->p k=q k)->JC c p i=JC c q i
 |0,_=>rfl
 |i+1,h=>by rw[JC,JC,h i (by omega),uK i λk hk=>h k (by omega)]
theorem ahu {c:Nat->List Int} {p q r:Nat->Bool}:∀ i,(∀ k,k<i->(r k=ai↔p k=ai\/q k=ai)/\¬(p k=ai/\q k=ai))->JC c r i=jl (JC c p i) (JC c q i)
 |0,_=>rfl
 |i+1,h=>by
  have I:=ahu (c:=c) i λk hk=>h k (by omega)
  obtain⟨h1,h2⟩:=h i (by omega);rw[JC,JC,JC];by_cases a:p i=ai
  .have b:¬q i=ai:=λb=>h2 ⟨a,b⟩
   rw[aF (h1.2 (.inl a)),aF a,ay b,I,qn,qn,WL (JC c q i)]
  .by_cases b:q i=ai
   .rw[aF (h1.2 (.inr b)),ay a,aF b,I,qn]
   .rw[ay λq=>(h1.1 q).elim a b,ay a,ay b,I]
def HE (w:WT) (l:List ET) (j i:Nat):Prop:=((cO l j).k=1/\(cO l i).k=20/\(cO l i).ob=(cO l j).th)\/((cO l j).k=21/\(cO l i).th=(cO l j).ob)\/((cO l j).k=3/\HZ w.1 (cO l j).ob=ai/\(cO l i).k=4/\(cO l i).ob=(cO l j).ob)\/((cO l j).k=23/\(cO l i).k=22/\(cO l i).ob=(cO l j).ob)
def Pz (w:WT) (l:List ET) (j i:Nat):Prop:=(0<=(B' w (cO l j)).1/\(Ap w (cO l i)).1=(B' w (cO l j)).1/\¬((B' w (cO l j)).2=ai/\(Ap w (cO l i)).2=ai))\/((cO l j).k=12/\(cO l i).k=13)
def dB (p:Nat->Prop) (k:Nat):Bool:= @decide (p k) (yD _)
theorem aez {p:Nat->Prop} {k:Nat}:dB p k=ai↔p k:=by unfold dB;exact @decide_eq_true_iff (p k) (yD _)
theorem af0 {p:Nat->Prop} {k:Nat}:dB p k=aj↔¬p k:=by unfold dB;exact @decide_eq_false_iff_not (p k) (yD _)
theorem Nf {p:Nat->Prop} {q:Bool} {k:Nat} (h:p k↔q=ai):q=dB p k:=by
 cases q with
 |true=>exact (aez.2 (h.2 rfl)).symm
 |false=>exact (af0.2 λx=>by have:=h.1 x;cases this).symm
def wkC (w:WT) (l:List ET) (j:Nat):List Int:=if (cO l j).k=17 then oH w l (Cm l (cO l j).th j).toNat else []
theorem ait {w:WT} {l:List ET} (Y:TR (w,l)) {j:Nat} (hj:j<l.length):oH w l j=tk (jl (jl (jl (if 0<=t8 l (cO l j).th j then oH w l (t8 l (cO l j).th j).toNat else []) (JC (oH w l) (dB (HE w l j)) j)) (wkC w l j)) (JC (oH w l) (dB (Pz w l j)) j)) (cO l j).th:=by
 obtain⟨a,b⟩:=Uk Y j (by omega);have o:=(zd Y j (by omega)).1;have ft:=(zd Y j (by omega)).2;have ok:=uD Y hj;have sc:=Y.sc hj;have et:=qC Y hj;rw[<- ami Y _ j (by omega)];have nH:∀ {p:Nat->Prop},(∀ k,¬p k)->JC (oH w l) (dB p) j=[]:=λh=>V6 _ _ _ λk _=>af0.2 (h k)
 have oT:=o.T (cO l j).th;have z:=En.nil o.n0;have e0:jl (jl ((D8 w (l.take j)).T.getD (cO l j).th []) []) []=(D8 w (l.take j)).T.getD (cO l j).th []:=by rw[ml oT,ml oT]
 have sN:¬(cO l j).k=6->¬(cO l j).k=10->¬(cO l j).k=8->¬(cO l j).k=17->¬(cO l j).k=12->∀ k,¬Pz w l j k:=λh1 h2 h3 h4 h5 k q=>by
  unfold Pz B' at q;rw[ay (by omega),ay h3,ay h4] at q;rcases q with ⟨q,_⟩|⟨q,_⟩
  .dsimp only at q;omega
  .exact h5 q
 unfold wkC;show AC w (D8 w (l.take j)) (cO l j)=_;unfold AC;congr 1;by_cases k1:(cO l j).k=1
 .rw[ay (by omega),nH (sN (by omega) (by omega) (by omega) (by omega) (by omega))];unfold s9;rw[aF k1,uK (q:=pS l (cO l j).th) j λk _=>(Nf (by unfold HE pS;rw[be];omega)).symm,<-a.S];rw[ml (oT.jl (o.S _)),ml (oT.jl (o.S _))];rfl
 by_cases I:(cO l j).k=21
 .rw[ay (by omega),nH (sN (by omega) (by omega) (by omega) (by omega) (by omega))];unfold s9;rw[ay k1,aF I,uK (q:=pT l (cO l j).ob) j λk _=>(Nf (by unfold HE pT;rw[be];omega)).symm,<-a.T];rw[ml (oT.jl (o.T _)),ml (oT.jl (o.T _))];rfl
 by_cases k3:(cO l j).k=3
 .rw[ay (by omega),nH (sN (by omega) (by omega) (by omega) (by omega) (by omega))];unfold s9;rw[ay k1,ay I,ay (by omega),ay (by omega),ay (by omega),aF k3,uK (q:=pC w l (cO l j).ob) j λk _=>(Nf ?_).symm,<-a.C]
  .rw[ml (oT.jl (o.C _)),ml (oT.jl (o.C _))];rfl
  .unfold HE pC;rw[be];constructor
   .rintro (h|h|h|h)
    .omega
    .omega
    .exact⟨h.2.2.1,h.2.2.2,h.2.1⟩
    .omega
   .intro h;exact .inr (.inr (.inl ⟨k3,h.2.2,h.1,h.2.1⟩))
 by_cases k23:(cO l j).k=23
 .rw[ay (by omega),nH (sN (by omega) (by omega) (by omega) (by omega) (by omega))];unfold s9;rw[ay k1,ay I,ay (by omega),ay (by omega),ay (by omega),ay k3,aF k23,uK (q:=pF l (cO l j).ob) j λk _=>(Nf (by unfold HE pF;rw[be];omega)).symm,<-a.F];rw[ml (oT.jl (o.F _)),ml (oT.jl (o.F _))];rfl
 have hN:∀ k,¬HE w l j k:=λk q=>by unfold HE at q;omega
 rw[nH hN,ml oT];by_cases U:(cO l j).k=12
 .rw[ay (by omega),ml oT];unfold s9;rw[ay k1,ay I,ay (by omega),ay (by omega),ay (by omega),ay k3,ay k23,aF U,uK (q:=pX l) j λk _=>(Nf ?_).symm,<-a.X]
  .rfl
  .unfold Pz pX B';rw[be,ay (by omega),ay (by omega),ay (by omega)];dsimp only;constructor
   .rintro (h|h)
    .omega
    .exact h.2
   .intro h;exact .inr ⟨U,h⟩
 have hor:∀ m:Nat,(B' w (cO l j)).1=(m:Int)->(B' w (cO l j)).2=aj->JC (oH w l) (dB (Pz w l j)) j=jl ((D8 w (l.take j)).L.getD m []) ((D8 w (l.take j)).R.getD m []):=λm h1 h2=>by
  rw[a.L,a.R];refine ahu j λk _=>?_
  rw[aez,be,be];unfold Pz;rw[h1,h2];generalize Ap w (cO l k)=x;obtain⟨x1,x2⟩:=x;simp only[aD];constructor
  .constructor
   .rintro (h|h)
    .cases x2 with
     |true=>exact .inr ⟨h.2.1,rfl⟩
     |false=>exact .inl ⟨h.2.1,rfl⟩
    .omega
   .rintro (h|h)<;>exact .inl ⟨by omega,h.1,λq=>by cases q.1⟩
  .rintro⟨⟨_,h⟩,⟨_,h'⟩⟩;rw[h] at h';cases h'
 by_cases M:(cO l j).k=6\/(cO l j).k=10
 .rw[ay (by omega),ml oT,hor (cO l j).ob (by unfold B';rw[aF M]) (by unfold B';rw[aF M])];unfold s9;rw[ay k1,ay I,aF M,<-qn];rfl
 by_cases Z:(cO l j).k=8
 .have ha:B' w (cO l j)=(((cO l j).ob:Int),ai):=by unfold B';rw[ay M,aF Z]
  rw[ay (by omega),ml oT];unfold s9;rw[ay k1,ay I,ay M,aF Z,uK (q:=pL w l (((cO l j).ob:Int),aj)) j λk _=>(Nf ?_).symm,<-a.L]
  .rfl
  .unfold Pz pL;rw[ha,be];generalize Ap w (cO l k)=x;obtain⟨x1,x2⟩:=x;simp only[aD];constructor
   .rintro (h|h)
    .exact⟨h.2.1,by simpa using h.2.2⟩
    .omega
   .intro h;exact .inl ⟨by omega,h.1,by simp[h.2]⟩
 by_cases J:(cO l j).k=17
 .have wk:=sc.rd.wk (by rw[et.k,J];rfl);have hth:(cO l j).th<w.2.2.2.2.1.length:=by rw[<- ft.T];exact ok.th
  have hn:=(b _ hth).n (by have:=wk.1;rw[et.th] at this;exact this);rw[aF J,hor (NZ w.2.2.1 (cO l j).ob) (by unfold B';rw[ay M,ay Z,aF J]) (by unfold B';rw[ay M,ay Z,aF J]),<-hn.2];unfold s9;rw[ay k1,ay I,ay M,ay Z,aF J];simp only[xd,List.foldl_nil];rw[qn,qn,qn,<-qn _ _ ((D8 w (l.take j)).N.getD _ []),WL ((D8 w (l.take j)).N.getD _ [])]
 .rw[ay J,nH (sN (by omega) (by omega) Z J U),ml oT,ml oT];unfold s9;rw[ay k1,ay I,ay M,ay Z,ay J,ay k3,ay k23,ay U];rfl
theorem WZ {n:Int} {c:Nat->List Int} {p:Nat->Bool} {a:List Int} (I:En n a):∀ i,((c4 i).filter p).foldl (λx k=>jl x (c k)) a=jl a (JC c p i)
 |0=>(ml I).symm
 |i+1=>by
  rw[Fs,xW,dP,WZ I i];by_cases h:p i=ai
  .rw[Pw h,List.filter_cons_of_pos h,<-qn];rfl
  .rw[DY (by simpa using h),List.filter_cons_of_neg h];rfl
end
end Go.Proofs.YtkagidinekdnoaaGreatDoor.AI
