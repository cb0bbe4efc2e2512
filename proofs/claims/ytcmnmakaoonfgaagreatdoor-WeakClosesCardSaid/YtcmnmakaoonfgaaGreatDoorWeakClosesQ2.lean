/-
  Texts of the proof, part 3 of 5: what is used to prove the statement. No condition.
-/
import Derived.Test.YtcmnmakaoonfgaaGreatDoorWeakClosesQ1
import Derived.WalkSpells
import Derived.Laws.CopyRow
import Derived.Deep.AppendSrc
import Derived.Laws.AppendOwn
namespace Go.Proofs.YtcmnmakaoonfgaaGreatDoor.AI
open Go.RowKit
set_option maxRecDepth 100000
set_option maxHeartbeats 4000000
set_option linter.unusedVariables false
set_option linter.unusedSimpArgs false
set_option linter.defProp false
open _root_.Array renaming length_toList→iS,getElem?_modify→uw,getElem?_push→xI,range→AE
open _root_.Bool renaming true→J,false→aa,not_false→mw
open Builtin renaming zeroCells→mH,firstCells→Af,append_→H3
open Call renaming operands→dI
open Instr renaming findNow→dP,sliceBounds→gX,sliceBound→iF,sameBits→jC,sliceAt→lT,findKey→lU,checkKey→ms,slice→pY,mapUpdate→yT,sameNow→EB,lookup→J2
open _root_.Int renaming ofNat_eq_natCast→al,ofNat→aP,toNat→aQ,reduceEq→bz,reduceNeg→bB,toNat_natCast→cf,le_trans→s7
open IntKind renaming wrap→pX
open _root_.List renaming length→l!,length→ah,length_cons→bK,length_singleton→cj,take→dF,getElem?_cons_zero→dH,map→fP,cons_append→gG,range→iR,nil_append→kV,length_nil→kW,getElem?_cons_succ→mG,foldl_cons→t_,map_drop→uc,map_nil→wJ,ext_getElem?→Cb
open _root_.Nat renaming add_zero→cX,blt→ef,min→jH,mod_eq_of_lt→Es,le_succ→Qo
open _root_.Option renaming some→Z,none→U,bind_some→aB,map_some→bm,getD_some→nY
open _root_.Prod renaming a→a8,b→bt,c→bI,d→b_,e→cA,h→dj,g→dJ,f→dO,k→fD,j→iC,l→lG,i→mo,n→mq,m→mF,o→nJ,p→pV,s→wG
open Result renaming andThen_ok→cM
open Sem renaming run_bind→ec,run→hZ,run_pure→pU
open Value.bool renaming injEq→Ep
open World renaming shape?→sZ,cell?→Qm
noncomputable section
variable {R:Type}
def lI {α:Type} (o:M α):ay o (λ_=>(U:M R))=U:=by cases o<;>rfl
def pT (b:Bool):chk b (λ_=>(U:M R))=U:=by cases b<;>rfl
def tb {α:Type} (x:α):lt x (λ_=>(U:M R))=U:=rfl
def Su (o:M R) (Q:R->Prop):Prop:=o=U\/Ok o Q
def Su.or {a b:M R} {Q:R->Prop} (A:Su a Q) (z:Su b Q):Su (orE a b) Q:=by
 rcases A with rfl|⟨y,rfl,h⟩
 .exact z
 .exact .inr ⟨y,rfl,h⟩
def Ok.orL {a b:M R} {Q:R->Prop} (z:Ok a Q):Ok (orE a b) Q:=by
 obtain⟨y,rfl,h⟩:=z;exact⟨y,rfl,h⟩
def Su.orR {a b:M R} {Q:R->Prop} (A:Su a Q) (z:Ok b Q):Ok (orE a b) Q:=by
 rcases A with rfl|⟨y,rfl,h⟩
 .exact z
 .exact⟨y,rfl,h⟩
variable {L:Y ET} {i:Nat} {a:Int}
def KC (hn:i+1<=100000) {c:CT} {s:ST} {u:Int} (hc:CB c) (hs:SV i L s) (hI:NI c L s) (G:M G!->Prop) (hG:∀y,SQ i c L y->G (Z y)) (k:ET×Bool->SY×u?->M G!)
 (hk:∀e v z,PE i c s a e->PS c L s a e->EN c.1 s.1 a e.2.1 e.2.2.1->Z' c.1 s.1 a e.2.1 e.2.2.1->AP i s.1 z->(z,v)=xy c.1 s.1 a e.2.1 e.2.2.1 u->G (k (e,J) (z,v,J))):
 G (ay (o6 (c,s,a)) λA=>aI (!A.2) (Z ((([],0,[],[]),[],[],[]),(0,0,0,0,0,[],[]),aa)) (ay (qH (c.1,s.1,a,A.1.2.1,A.1.2.2.1,u)) λD=>aI (!D.2.2) (Z ((([],0,[],[]),[],[],[]),(0,0,0,0,0,[],[]),aa)) (k A D))):=by
 have N:=hG ((([],0,[],[]),[],[],[]),(0,0,0,0,0,[],[]),aa) nofun
 obtain⟨⟨e,b⟩,h1,h2⟩:=YK i (by omega) c L s hc hs hI a;rw[h1,Zi];cases b with
 |false=>exact N
 |true=>
  obtain⟨hp,hm⟩:=h2 rfl;have hcd:l! c.1.2.2.1<=1000:=by have:=hp.fs.vc.vl.d;omega
  obtain⟨⟨z,v,b⟩,h3,h4,_,_⟩:=Ww c.1 s.1 hs.sb hcd a e.2.1 e.2.2.1 u;have e0:∀{R:Type} (t b:M R),aI (!J) t b=b:=λ_ _=>rfl
  rw[e0,h3,Zi];cases b with
  |false=>exact N
  |true=>
   obtain⟨g1,g2,g3,g4⟩:=h4 rfl;exact hk e v z hp hm g1 g2 g3 g4
def ad6 (z:SY) (D A:η) (a:TT) (h:SV i L (z,D,A,[a])) (hce:l! D<=1000) (hfu:l! A<=1000):oE (z,D,A,[a])=Z ((z.2.1,z.1,z.2.2.1,z.2.2.2).1,(z.2.1,z.1,z.2.2.1,z.2.2.2).2.1,(z.2.1,z.1,z.2.2.1,z.2.2.2).2.2.1,(z.2.1,z.1,z.2.2.1,z.2.2.2).2.2.2,(([]:η)++D),(([]:η)++A),((a.1,a.2.2.2),a.2.1,a.2.2.1)):=by
 have hE:=h.sb.n1;have N:TH (FQ L 0) i a:=h.t 0 (by simp);refine cI ?_;unfold oE a8 b_ bS bT bX bf;refine aV (sd z h.sb) ?_;refine a! (a! ?_);refine fT rfl (bh rfl (aS (aV (dl a i hE N) ?_)));exact fZ rfl (aj rfl)
def Wu (z:SY) (D A:η) (l:Y TT) (h0:l! l<=4) (h:l! l≠1):oE (z,D,A,l)=U:=by
 unfold oE a8 b_ bS bT bX bf;rcases l with _|⟨a,_|⟨b,_|⟨c,_|⟨d,_|⟨e,l⟩⟩⟩⟩⟩;all_goals first|(simp at h;done)|(exfalso;simp only[bK]at h0;omega)|simp[fQ,lI,pT,tb,bcT,bcF]
def ad5 (z:SY) (D A:η) (a b:TT) (h:SV i L (z,D,A,[a,b])) (hce:l! D<=1000) (hfu:l! A<=1000):oD (z,D,A,[a,b])=Z ((z.2.1,z.1,z.2.2.1,z.2.2.2).1,(z.2.1,z.1,z.2.2.1,z.2.2.2).2.1,(z.2.1,z.1,z.2.2.1,z.2.2.2).2.2.1,(z.2.1,z.1,z.2.2.1,z.2.2.2).2.2.2,(([]:η)++D),(([]:η)++A),(((a.1,a.2.2.2),a.2.1,a.2.2.1).1.1,((a.1,a.2.2.2),a.2.1,a.2.2.1).1.2,((b.1,b.2.2.2),b.2.1,b.2.2.1).1.1,((b.1,b.2.2.2),b.2.1,b.2.2.1).2.1,((b.1,b.2.2.2),b.2.1,b.2.2.1).2.2,((b.1,b.2.2.2),b.2.1,b.2.2.1).1.2),((a.1,a.2.2.2),a.2.1,a.2.2.1).2):=by
 have N:=h.sb.n1;have ha:TH (FQ L 0) i a:=h.t 0 (by simp);have hb:TH (FQ L 1) i b:=h.t 1 (by simp);refine cI ?_;unfold oD a8 b_ bS bT bX bf;refine aV (sd z h.sb) ?_;refine a! (a! ?_);refine fT rfl (bh rfl (aS (aV (dl a i N ha) ?_)));refine fT rfl (bh rfl (aS (aV (dl b i N hb) ?_)));exact fZ rfl (aj rfl)
def Wt (z:SY) (D A:η) (l:Y TT) (h0:l! l<=4) (h:l! l≠2):oD (z,D,A,l)=U:=by
 unfold oD a8 b_ bS bT bX bf;rcases l with _|⟨a,_|⟨b,_|⟨c,_|⟨d,_|⟨e,l⟩⟩⟩⟩⟩;all_goals first|(simp at h;done)|(exfalso;simp only[bK]at h0;omega)|simp[fQ,lI,pT,tb,bcT,bcF]
def ad4 (z:SY) (D A:η) (a b:TT) (h:SV i L (z,D,A,[a,b])) (hce:l! D<=1000) (hfu:l! A<=1000):oC (z,D,A,[a,b])=Z ((z.2.1,z.1,z.2.2.1,z.2.2.2).1,(z.2.1,z.1,z.2.2.1,z.2.2.2).2.1,(z.2.1,z.1,z.2.2.1,z.2.2.2).2.2.1,(z.2.1,z.1,z.2.2.1,z.2.2.2).2.2.2,(([]:η)++D),(([]:η)++A),((((a.1,a.2.2.2),a.2.1,a.2.2.1).1.1,((a.1,a.2.2.2),a.2.1,a.2.2.1).2.1,((a.1,a.2.2.2),a.2.1,a.2.2.1).2.2,((a.1,a.2.2.2),a.2.1,a.2.2.1).1.2),((b.1,b.2.2.2),b.2.1,b.2.2.1).1),((b.1,b.2.2.2),b.2.1,b.2.2.1).2):=by
 have N:=h.sb.n1;have ha:TH (FQ L 0) i a:=h.t 0 (by simp);have hb:TH (FQ L 1) i b:=h.t 1 (by simp);refine cI ?_;unfold oC a8 b_ bS bT bX bf;refine aV (sd z h.sb) ?_;refine a! (a! ?_);refine fT rfl (bh rfl (aS (aV (dl a i N ha) ?_)));refine fT rfl (bh rfl (aS (aV (dl b i N hb) ?_)));exact fZ rfl (aj rfl)
def Ws (z:SY) (D A:η) (l:Y TT) (h0:l! l<=4) (h:l! l≠2):oC (z,D,A,l)=U:=by
 unfold oC a8 b_ bS bT bX bf;rcases l with _|⟨a,_|⟨b,_|⟨c,_|⟨d,_|⟨e,l⟩⟩⟩⟩⟩;all_goals first|(simp at h;done)|(exfalso;simp only[bK]at h0;omega)|simp[fQ,lI,pT,tb,bcT,bcF]
def ad3 (z:SY) (D A:η) (a b c:TT) (h:SV i L (z,D,A,[a,b,c])) (hce:l! D<=1000) (hfu:l! A<=1000):oB (z,D,A,[a,b,c])=Z ((z.2.1,z.1,z.2.2.1,z.2.2.2).1,(z.2.1,z.1,z.2.2.1,z.2.2.2).2.1,(z.2.1,z.1,z.2.2.1,z.2.2.2).2.2.1,(z.2.1,z.1,z.2.2.1,z.2.2.2).2.2.2,(([]:η)++D),(([]:η)++A),(((a.1,a.2.2.2),a.2.1,a.2.2.1).1.1,((a.1,a.2.2.2),a.2.1,a.2.2.1).1.2,(((b.1,b.2.2.2),b.2.1,b.2.2.1).1.1,((b.1,b.2.2.2),b.2.1,b.2.2.1).2.1,((b.1,b.2.2.2),b.2.1,b.2.2.1).2.2,((b.1,b.2.2.2),b.2.1,b.2.2.1).1.2),((c.1,c.2.2.2),c.2.1,c.2.2.1).1.1,((c.1,c.2.2.2),c.2.1,c.2.2.1).2.1,((c.1,c.2.2.2),c.2.1,c.2.2.1).2.2,((c.1,c.2.2.2),c.2.1,c.2.2.1).1.2),((a.1,a.2.2.2),a.2.1,a.2.2.1).2):=by
 have N:=h.sb.n1;have ha:TH (FQ L 0) i a:=h.t 0 (by simp);have hb:TH (FQ L 1) i b:=h.t 1 (by simp);have hc:TH (FQ L 2) i c:=h.t 2 (by simp);refine cI ?_;unfold oB a8 b_ bS bT bX bf;refine aV (sd z h.sb) ?_;refine a! (a! ?_);refine fT rfl (bh rfl (aS (aV (dl a i N ha) ?_)));refine fT rfl (bh rfl (aS (aV (dl b i N hb) ?_)));refine fT rfl (bh rfl (aS (aV (dl c i N hc) ?_)));exact fZ rfl (aj rfl)
def Wr (z:SY) (D A:η) (l:Y TT) (h0:l! l<=4) (h:l! l≠3):oB (z,D,A,l)=U:=by
 unfold oB a8 b_ bS bT bX bf;rcases l with _|⟨a,_|⟨b,_|⟨c,_|⟨d,_|⟨e,l⟩⟩⟩⟩⟩;all_goals first|(simp at h;done)|(exfalso;simp only[bK]at h0;omega)|simp[fQ,lI,pT,tb,bcT,bcF]
def ad2 (z:SY) (D A:η) (a b c:TT) (h:SV i L (z,D,A,[a,b,c])) (hce:l! D<=1000) (hfu:l! A<=1000):oA (z,D,A,[a,b,c])=Z ((z.2.1,z.1,z.2.2.1,z.2.2.2).1,(z.2.1,z.1,z.2.2.1,z.2.2.2).2.1,(z.2.1,z.1,z.2.2.1,z.2.2.2).2.2.1,(z.2.1,z.1,z.2.2.1,z.2.2.2).2.2.2,(([]:η)++D),(([]:η)++A),((((a.1,a.2.2.2),a.2.1,a.2.2.1).1.1,((a.1,a.2.2.2),a.2.1,a.2.2.1).2.1,((a.1,a.2.2.2),a.2.1,a.2.2.1).2.2,((a.1,a.2.2.2),a.2.1,a.2.2.1).1.2),((b.1,b.2.2.2),b.2.1,b.2.2.1).1.1,((b.1,b.2.2.2),b.2.1,b.2.2.1).1.2,((c.1,c.2.2.2),c.2.1,c.2.2.1).1.1,((c.1,c.2.2.2),c.2.1,c.2.2.1).2.1,((c.1,c.2.2.2),c.2.1,c.2.2.1).2.2,((c.1,c.2.2.2),c.2.1,c.2.2.1).1.2),((b.1,b.2.2.2),b.2.1,b.2.2.1).2):=by
 have N:=h.sb.n1;have ha:TH (FQ L 0) i a:=h.t 0 (by simp);have hb:TH (FQ L 1) i b:=h.t 1 (by simp);have hc:TH (FQ L 2) i c:=h.t 2 (by simp);refine cI ?_;unfold oA a8 b_ bS bT bX bf;refine aV (sd z h.sb) ?_;refine a! (a! ?_);refine fT rfl (bh rfl (aS (aV (dl a i N ha) ?_)));refine fT rfl (bh rfl (aS (aV (dl b i N hb) ?_)));refine fT rfl (bh rfl (aS (aV (dl c i N hc) ?_)));exact fZ rfl (aj rfl)
def Wq (z:SY) (D A:η) (l:Y TT) (h0:l! l<=4) (h:l! l≠3):oA (z,D,A,l)=U:=by
 unfold oA a8 b_ bS bT bX bf;rcases l with _|⟨a,_|⟨b,_|⟨c,_|⟨d,_|⟨e,l⟩⟩⟩⟩⟩;all_goals first|(simp at h;done)|(exfalso;simp only[bK]at h0;omega)|simp[fQ,lI,pT,tb,bcT,bcF]
def ad1 (z:SY) (D A:η) (a b c:TT) (h:SV i L (z,D,A,[a,b,c])) (hce:l! D<=1000) (hfu:l! A<=1000):oz (z,D,A,[a,b,c])=Z ((z.2.1,z.1,z.2.2.1,z.2.2.2).1,(z.2.1,z.1,z.2.2.1,z.2.2.2).2.1,(z.2.1,z.1,z.2.2.1,z.2.2.2).2.2.1,(z.2.1,z.1,z.2.2.1,z.2.2.2).2.2.2,(([]:η)++D),(([]:η)++A),((((a.1,a.2.2.2),a.2.1,a.2.2.1).1.1,((a.1,a.2.2.2),a.2.1,a.2.2.1).2.1,((a.1,a.2.2.2),a.2.1,a.2.2.1).2.2,((a.1,a.2.2.2),a.2.1,a.2.2.1).1.2),(((b.1,b.2.2.2),b.2.1,b.2.2.1).1.1,((b.1,b.2.2.2),b.2.1,b.2.2.1).2.1,((b.1,b.2.2.2),b.2.1,b.2.2.1).2.2,((b.1,b.2.2.2),b.2.1,b.2.2.1).1.2),((c.1,c.2.2.2),c.2.1,c.2.2.1).1),((c.1,c.2.2.2),c.2.1,c.2.2.1).2):=by
 have N:=h.sb.n1;have ha:TH (FQ L 0) i a:=h.t 0 (by simp);have hb:TH (FQ L 1) i b:=h.t 1 (by simp);have hc:TH (FQ L 2) i c:=h.t 2 (by simp);refine cI ?_;unfold oz a8 b_ bS bT bX bf;refine aV (sd z h.sb) ?_;refine a! (a! ?_);refine fT rfl (bh rfl (aS (aV (dl a i N ha) ?_)));refine fT rfl (bh rfl (aS (aV (dl b i N hb) ?_)));refine fT rfl (bh rfl (aS (aV (dl c i N hc) ?_)));exact fZ rfl (aj rfl)
def Wp (z:SY) (D A:η) (l:Y TT) (h0:l! l<=4) (h:l! l≠3):oz (z,D,A,l)=U:=by
 unfold oz a8 b_ bS bT bX bf;rcases l with _|⟨a,_|⟨b,_|⟨c,_|⟨d,_|⟨e,l⟩⟩⟩⟩⟩;all_goals first|(simp at h;done)|(exfalso;simp only[bK]at h0;omega)|simp[fQ,lI,pT,tb,bcT,bcF]
def ad0 (z:SY) (N D:η) (a b c d:TT) (h:SV i L (z,N,D,[a,b,c,d])) (hce:l! N<=1000) (hfu:l! D<=1000):oy (z,N,D,[a,b,c,d])=Z ((z.2.1,z.1,z.2.2.1,z.2.2.2).1,(z.2.1,z.1,z.2.2.1,z.2.2.2).2.1,(z.2.1,z.1,z.2.2.1,z.2.2.2).2.2.1,(z.2.1,z.1,z.2.2.1,z.2.2.2).2.2.2,(([]:η)++N),(([]:η)++D),(((a.1,a.2.2.2),a.2.1,a.2.2.1).1.1,((a.1,a.2.2.2),a.2.1,a.2.2.1).1.2,(((b.1,b.2.2.2),b.2.1,b.2.2.1).1.1,((b.1,b.2.2.2),b.2.1,b.2.2.1).2.1,((b.1,b.2.2.2),b.2.1,b.2.2.1).2.2,((b.1,b.2.2.2),b.2.1,b.2.2.1).1.2),(((c.1,c.2.2.2),c.2.1,c.2.2.1).1.1,((c.1,c.2.2.2),c.2.1,c.2.2.1).2.1,((c.1,c.2.2.2),c.2.1,c.2.2.1).2.2,((c.1,c.2.2.2),c.2.1,c.2.2.1).1.2),((d.1,d.2.2.2),d.2.1,d.2.2.1).1.1,((d.1,d.2.2.2),d.2.1,d.2.2.1).2.1,((d.1,d.2.2.2),d.2.1,d.2.2.1).2.2,((d.1,d.2.2.2),d.2.1,d.2.2.1).1.2),((a.1,a.2.2.2),a.2.1,a.2.2.1).2):=by
 have A:=h.sb.n1;have ha:TH (FQ L 0) i a:=h.t 0 (by simp);have hb:TH (FQ L 1) i b:=h.t 1 (by simp);have hc:TH (FQ L 2) i c:=h.t 2 (by simp);have hd:TH (FQ L 3) i d:=h.t 3 (by simp);refine cI ?_;unfold oy a8 b_ bS bT bX bf;refine aV (sd z h.sb) ?_;refine a! (a! ?_);refine fT rfl (bh rfl (aS (aV (dl a i A ha) ?_)));refine fT rfl (bh rfl (aS (aV (dl b i A hb) ?_)));refine fT rfl (bh rfl (aS (aV (dl c i A hc) ?_)));refine fT rfl (bh rfl (aS (aV (dl d i A hd) ?_)));exact fZ rfl (aj rfl)
def Wo (z:SY) (D A:η) (l:Y TT) (h0:l! l<=4) (h:l! l≠4):oy (z,D,A,l)=U:=by
 unfold oy a8 b_ bS bT bX bf;rcases l with _|⟨a,_|⟨b,_|⟨c,_|⟨d,_|⟨e,l⟩⟩⟩⟩⟩;all_goals first|(simp at h;done)|(exfalso;simp only[bK]at h0;omega)|simp[fQ,lI,pT,tb,bcT,bcF]
def acz (z:SY) (N D:η) (a b c d:TT) (h:SV i L (z,N,D,[a,b,c,d])) (hce:l! N<=1000) (hfu:l! D<=1000):ox (z,N,D,[a,b,c,d])=Z ((z.2.1,z.1,z.2.2.1,z.2.2.2).1,(z.2.1,z.1,z.2.2.1,z.2.2.2).2.1,(z.2.1,z.1,z.2.2.1,z.2.2.2).2.2.1,(z.2.1,z.1,z.2.2.1,z.2.2.2).2.2.2,(([]:η)++N),(([]:η)++D),((((a.1,a.2.2.2),a.2.1,a.2.2.1).1.1,((a.1,a.2.2.2),a.2.1,a.2.2.1).2.1,((a.1,a.2.2.2),a.2.1,a.2.2.1).2.2,((a.1,a.2.2.2),a.2.1,a.2.2.1).1.2),((b.1,b.2.2.2),b.2.1,b.2.2.1).1.1,((b.1,b.2.2.2),b.2.1,b.2.2.1).1.2,(((c.1,c.2.2.2),c.2.1,c.2.2.1).1.1,((c.1,c.2.2.2),c.2.1,c.2.2.1).2.1,((c.1,c.2.2.2),c.2.1,c.2.2.1).2.2,((c.1,c.2.2.2),c.2.1,c.2.2.1).1.2),((d.1,d.2.2.2),d.2.1,d.2.2.1).1.1,((d.1,d.2.2.2),d.2.1,d.2.2.1).2.1,((d.1,d.2.2.2),d.2.1,d.2.2.1).2.2,((d.1,d.2.2.2),d.2.1,d.2.2.1).1.2),((b.1,b.2.2.2),b.2.1,b.2.2.1).2):=by
 have A:=h.sb.n1;have ha:TH (FQ L 0) i a:=h.t 0 (by simp);have hb:TH (FQ L 1) i b:=h.t 1 (by simp);have hc:TH (FQ L 2) i c:=h.t 2 (by simp);have hd:TH (FQ L 3) i d:=h.t 3 (by simp);refine cI ?_;unfold ox a8 b_ bS bT bX bf;refine aV (sd z h.sb) ?_;refine a! (a! ?_);refine fT rfl (bh rfl (aS (aV (dl a i A ha) ?_)));refine fT rfl (bh rfl (aS (aV (dl b i A hb) ?_)));refine fT rfl (bh rfl (aS (aV (dl c i A hc) ?_)));refine fT rfl (bh rfl (aS (aV (dl d i A hd) ?_)));exact fZ rfl (aj rfl)
def Wn (z:SY) (D A:η) (l:Y TT) (h0:l! l<=4) (h:l! l≠4):ox (z,D,A,l)=U:=by
 unfold ox a8 b_ bS bT bX bf;rcases l with _|⟨a,_|⟨b,_|⟨c,_|⟨d,_|⟨e,l⟩⟩⟩⟩⟩;all_goals first|(simp at h;done)|(exfalso;simp only[bK]at h0;omega)|simp[fQ,lI,pT,tb,bcT,bcF]
def acy (z:SY) (N D:η) (a b c d:TT) (h:SV i L (z,N,D,[a,b,c,d])) (hce:l! N<=1000) (hfu:l! D<=1000):ov (z,N,D,[a,b,c,d])=Z ((z.2.1,z.1,z.2.2.1,z.2.2.2).1,(z.2.1,z.1,z.2.2.1,z.2.2.2).2.1,(z.2.1,z.1,z.2.2.1,z.2.2.2).2.2.1,(z.2.1,z.1,z.2.2.1,z.2.2.2).2.2.2,(([]:η)++N),(([]:η)++D),((((a.1,a.2.2.2),a.2.1,a.2.2.1).1.1,((a.1,a.2.2.2),a.2.1,a.2.2.1).2.1,((a.1,a.2.2.2),a.2.1,a.2.2.1).2.2,((a.1,a.2.2.2),a.2.1,a.2.2.1).1.2),(((b.1,b.2.2.2),b.2.1,b.2.2.1).1.1,((b.1,b.2.2.2),b.2.1,b.2.2.1).2.1,((b.1,b.2.2.2),b.2.1,b.2.2.1).2.2,((b.1,b.2.2.2),b.2.1,b.2.2.1).1.2),((c.1,c.2.2.2),c.2.1,c.2.2.1).1.1,((c.1,c.2.2.2),c.2.1,c.2.2.1).1.2,((d.1,d.2.2.2),d.2.1,d.2.2.1).1.1,((d.1,d.2.2.2),d.2.1,d.2.2.1).2.1,((d.1,d.2.2.2),d.2.1,d.2.2.1).2.2,((d.1,d.2.2.2),d.2.1,d.2.2.1).1.2),((c.1,c.2.2.2),c.2.1,c.2.2.1).2):=by
 have A:=h.sb.n1;have ha:TH (FQ L 0) i a:=h.t 0 (by simp);have hb:TH (FQ L 1) i b:=h.t 1 (by simp);have hc:TH (FQ L 2) i c:=h.t 2 (by simp);have hd:TH (FQ L 3) i d:=h.t 3 (by simp);refine cI ?_;unfold ov a8 b_ bS bT bX bf;refine aV (sd z h.sb) ?_;refine a! (a! ?_);refine fT rfl (bh rfl (aS (aV (dl a i A ha) ?_)));refine fT rfl (bh rfl (aS (aV (dl b i A hb) ?_)));refine fT rfl (bh rfl (aS (aV (dl c i A hc) ?_)));refine fT rfl (bh rfl (aS (aV (dl d i A hd) ?_)));exact fZ rfl (aj rfl)
def Wm (z:SY) (D A:η) (l:Y TT) (h0:l! l<=4) (h:l! l≠4):ov (z,D,A,l)=U:=by
 unfold ov a8 b_ bS bT bX bf;rcases l with _|⟨a,_|⟨b,_|⟨c,_|⟨d,_|⟨e,l⟩⟩⟩⟩⟩;all_goals first|(simp at h;done)|(exfalso;simp only[bK]at h0;omega)|simp[fQ,lI,pT,tb,bcT,bcF]
def acx (z:SY) (N D:η) (a b c d:TT) (h:SV i L (z,N,D,[a,b,c,d])) (hce:l! N<=1000) (hfu:l! D<=1000):ou (z,N,D,[a,b,c,d])=Z ((z.2.1,z.1,z.2.2.1,z.2.2.2).1,(z.2.1,z.1,z.2.2.1,z.2.2.2).2.1,(z.2.1,z.1,z.2.2.1,z.2.2.2).2.2.1,(z.2.1,z.1,z.2.2.1,z.2.2.2).2.2.2,(([]:η)++N),(([]:η)++D),((((a.1,a.2.2.2),a.2.1,a.2.2.1).1.1,((a.1,a.2.2.2),a.2.1,a.2.2.1).2.1,((a.1,a.2.2.2),a.2.1,a.2.2.1).2.2,((a.1,a.2.2.2),a.2.1,a.2.2.1).1.2),(((b.1,b.2.2.2),b.2.1,b.2.2.1).1.1,((b.1,b.2.2.2),b.2.1,b.2.2.1).2.1,((b.1,b.2.2.2),b.2.1,b.2.2.1).2.2,((b.1,b.2.2.2),b.2.1,b.2.2.1).1.2),(((c.1,c.2.2.2),c.2.1,c.2.2.1).1.1,((c.1,c.2.2.2),c.2.1,c.2.2.1).2.1,((c.1,c.2.2.2),c.2.1,c.2.2.1).2.2,((c.1,c.2.2.2),c.2.1,c.2.2.1).1.2),((d.1,d.2.2.2),d.2.1,d.2.2.1).1),((d.1,d.2.2.2),d.2.1,d.2.2.1).2):=by
 have A:=h.sb.n1;have ha:TH (FQ L 0) i a:=h.t 0 (by simp);have hb:TH (FQ L 1) i b:=h.t 1 (by simp);have hc:TH (FQ L 2) i c:=h.t 2 (by simp);have hd:TH (FQ L 3) i d:=h.t 3 (by simp);refine cI ?_;unfold ou a8 b_ bS bT bX bf;refine aV (sd z h.sb) ?_;refine a! (a! ?_);refine fT rfl (bh rfl (aS (aV (dl a i A ha) ?_)));refine fT rfl (bh rfl (aS (aV (dl b i A hb) ?_)));refine fT rfl (bh rfl (aS (aV (dl c i A hc) ?_)));refine fT rfl (bh rfl (aS (aV (dl d i A hd) ?_)));exact fZ rfl (aj rfl)
def Wl (z:SY) (D A:η) (l:Y TT) (h0:l! l<=4) (h:l! l≠4):ou (z,D,A,l)=U:=by
 unfold ou a8 b_ bS bT bX bf;rcases l with _|⟨a,_|⟨b,_|⟨c,_|⟨d,_|⟨e,l⟩⟩⟩⟩⟩;all_goals first|(simp at h;done)|(exfalso;simp only[bK]at h0;omega)|simp[fQ,lI,pT,tb,bcT,bcF]
def kdx (k:Int):k=1\/k=16\/k=2\/k=3\/k=23\/k=4\/k=22\/k=5\/((k=1)=False/\(k=16)=False/\(k=2)=False/\(k=3)=False/\(k=23)=False/\(k=4)=False/\(k=22)=False/\(k=5)=False):=by
 by_cases h:k=1\/k=16\/k=2\/k=3\/k=23\/k=4\/k=22\/k=5
 .omega
 .repeat (first|exact⟨eq_false (by omega),eq_false (by omega),eq_false (by omega),eq_false (by omega),eq_false (by omega),eq_false (by omega),eq_false (by omega),eq_false (by omega)⟩|refine Or.inr ?_)
def KR (n:Nat) (c0:CT) (L:Y ET) (i:Nat) (u:Int) (l:Y TT) (z:R) (k:Int->(CT×SY×(ν)×Int×(υ)×ET×(ν)×(η)×(η)×R×(η)×Y η)->M G!):Prop:=
 ∀(F:Int->Prop) (p:Int) (sy:SY) (kd o v si:Int) (ds fs ce fu A:η) (T:Y η) (N:Int),
  (kd≠16->kd≠2->Ok (oF (geti yO c0.2 (i:Int),(p,A,T,bA .i64 (N+1)))) λy=>TH F (n+1) y.1/\(l! y.1.2.1=0\/y.1.2.2.2=bA .i64 (N+1)))->
  (kd=16\/kd=2->TH F (n+1) (p,A,T,bA .i64 (N+1)))->
  (∀D,TH F (n+1) D->(l! D.2.1=0\/D.2.2.2=bA .i64 (N+1)/\(kd=16->D.1=p))->SQ n c0 L ((sy,ce,fu,l.set i D),((i:Int),kd,o,v,si,ds,fs),J))->(i:Int)<(l! c0.2:Int)->
  ∀pc,Ok (k p (c0,sy,((i:Int),u),0,(0,0,0,0,0),((i:Int),kd,o,v,si,ds,fs),(pc,N),ce,fu,z,A,T)) (SQ n c0 L)
def Du (N n:Nat) {cp:SY×(η)×(η)×Y TT->M (Int×(Y (Int×η))×(θ)×(Y (Int×Int×Bool))×(η)×(η)×R×(η)×Y η)} {pc ev:R->Int} {k:Int->(CT×SY×(ν)×Int×(υ)×ET×(ν)×(η)×(η)×R×(η)×Y η)->M G!} (hn:i+1<=100000) (c0:CT) (L:Y ET) (s:ST) (t u:Int) (hc:CB c0) (hs:SV i L s) (hI:NI c0 L s)
 (h0:∀sy ce fu (l:Y TT),l! l<=4->l! l≠N->cp (sy,ce,fu,l)=U)
 (h1:∀sy ce fu (l:Y TT),SV i L (sy,ce,fu,l)->l! ce<=1000->l! fu<=1000->l! l=N->n<N/\∃y,cp (sy,ce,fu,l)=Z y/\y.2.2.2.2.1=ce/\y.2.2.2.2.2.1=fu/\y.2.2.2.2.2.2.2.1=(geti fe l (n:Int)).2.1/\y.2.2.2.2.2.2.2.2=(geti fe l (n:Int)).2.2.1/\pc y.2.2.2.2.2.2.1=(geti fe l (n:Int)).1/\ev y.2.2.2.2.2.2.1=(geti fe l (n:Int)).2.2.2/\KR i c0 L n u l y.2.2.2.2.2.2.1 k):
 Su (SG (n:Int) cp pc ev k (c0,s,t,u)) (SQ i c0 L)/\(l! s.2.2.2=N->t=(n:Int)->Ok (SG (n:Int) cp pc ev k (c0,s,t,u)) (SQ i c0 L)):=by
 by_cases hz:l! s.2.2.2=N/\t=(n:Int)
 .obtain⟨hz1,rfl⟩:=hz;suffices h:Ok (SG (n:Int) cp pc ev k (c0,s,(n:Int),u)) (SQ i c0 L) from ⟨.inr h,λ_ _=>h⟩
  unfold SG lG mq mo a8 bt bI cA dO iC mF nJ Prod.w Prod.v Prod.z b_ dJ pV Prod.B ck bq bX ko aH;refine KC hn hc hs hI (λo=>Ok o (SQ i c0 L)) (λy h=>aj h) _ λe v sy hp hm he hr ha hq=>?_
  obtain⟨sy0,ce,fu,l⟩:=s;obtain⟨e1,kd,o,e4,site,ds,fs⟩:=e;have het:=hp.et;dsimp only at hz1 he hr ha hq het;subst het;have vl:=hp.fs.vc.vl;have hce:=hp.fs.ce;have hfu:=hp.fs.fu;dsimp only at hce hfu;obtain⟨hiN,⟨q1,q2,q3,q4,ce',fu',z,R0,T0⟩,hcp,g1,g2,g3,g4,hpc,hve,hk⟩:=h1 sy0 ce fu l hs (by have:=vl.c;omega) (by have:=vl.f;omega) hz1;dsimp only at g1 g2 g3 g4 hpc hve hk;rw[g1,g2,g3,g4]at hcp;obtain⟨_,_,nmce,_,_,_,nmfu,_,_,_⟩:=id he.nm;have t1:(n:Int)<(l! c0.2:Int):=hp.t1;have htf:TF (geti yO c0.2 (n:Int)) (geti fe l (n:Int)):=hp.fs.t n (by omega);have hA:=hp.a;have hB:=hp.b;dsimp only at hA hB;have hvt:=hp.fs.vc.t _ (b8 (T:=yO) (xs:=c0.2) (j:=(n:Int)) (by omega) t1);have hci:=hc.ins _ (b8 (T:=yO) (xs:=c0.2) (j:=(n:Int)) (by omega) t1);have hth:TH (FQ L (n:Int)) i (geti fe l (n:Int)):=hs.t n (by dsimp only;omega);have done:=akx hn hs hI hp hm he hr ha;have htg:=hm.tg;have hrun:=hr.r;dsimp only at done htg;have hgv:kd=3\/kd=23->FQ (L++[((n:Int),kd,o,e4,site,ds,fs)]) (n:Int) (geti fe l (n:Int)).2.2.2:=λh3=>by
   have D:=hrun (by omega) (by omega);have hn0:¬l! (fl L (n:Int))=0:=λh=>(htg.nw h).elim (λg=>co (D.symm.trans g) (by decide)) λg=>co (D.symm.trans g) (by decide)
   refine ⟨by rw[htg.ev];omega,Ny.last (e:=((n:Int),kd,o,e4,site,ds,fs)) ?_ htg.ev⟩;unfold uM;rcases h3 with h|h
   .rw[aR h];rfl
   .simp[h]
  have vaA:¬kd=3->¬kd=23->¬kd=5->VA c0.1 sy0 ce fu (n:Int) kd o v:=λa b c=>⟨λh=>(a h).elim,λh=>(b h).elim,λh=>(c h).elim,λ_ _ _ _ _=>by rw[VY hq]⟩
  have apA:(xy c0.1 sy0 (n:Int) kd o v).1=sy:=by rw[VY hq]
  have apB:¬kd=18->∀v',(xy c0.1 sy0 (n:Int) kd o v').1=sy:=λh v'=>by rw[Z3 _ _ _ _ _ _ u h,<-hq]
  have keep:∀x∈(geti fe l (n:Int)).2.2.1,TL (FQ (L++[((n:Int),kd,o,e4,site,ds,fs)]) (n:Int)) (i+1) x:=λx hx=>(hth.l x hx).mono (by omega) λy hy=>⟨hy.1,hy.2.app _⟩
  clear g3 g4 hm hI hrun htg;revert done hgv keep;generalize FQ (L++[((n:Int),kd,o,e4,site,ds,fs)]) (n:Int)=F;generalize geti fe l (n:Int)=th at hcp hpc hve htf hA hB hth ⊢;intro done hgv keep;refine aV hcp ?_;dsimp only;rw[hpc,hve];refine fT (aR rfl) ?_;refine aN (by omega) t1 (aS (aN htf.p0 htf.p1 (aS ?_)));have htz:l! th.2.2.1=l! th.2.1:=by have:=htf.r;have:=htf.t;omega
  have fin:∀(p:Int) (A:η) (T:Y η),l! A=l! th.2.1->l! T=l! th.2.2.1->(∀x∈T,TL F (i+1) x)->Ok (oF (geti yO c0.2 (n:Int),(p,A,T,bA .i64 (th.2.2.2+1)))) λy=>TH F (i+1) y.1/\(l! y.1.2.1=0\/y.1.2.2.2=bA .i64 (th.2.2.2+1)):=λp A T h1 D h3=>by
   have a1:=hth.e0;have a2:=hth.e1;have a3:=hth.r;have a4:=hth.t;rw[iW (n:=th.2.2.2+1) (by omega) (by omega)];exact acj (i+1) hn _ hci hvt _ ⟨by dsimp only;omega,by dsimp only;omega,h3,by dsimp only;omega,by dsimp only;omega⟩
  have mark:kd=3\/kd=23->∀j:Int,∀x∈cN th.2.2.1 j [th.2.2.2],TL F (i+1) x:=λh3 j x hx=>by
   rcases EO hx with h|h
   .exact keep x h
   .rw[h];exact⟨⟨λy hy=>(by cases hy),trivial⟩,λy hy=>by rw[aE]at hy;have:=hth.e0;have:=hth.e1;rw[hy];exact⟨by omega,by omega⟩,λy hy=>by rw[aE]at hy;rw[hy];exact hgv h3⟩
  have nopark:TH F (i+1) (th.1,th.2.1,th.2.2.1,bA .i64 (th.2.2.2+1)):=by
   have a1:=hth.e0;have a2:=hth.e1;rw[iW (n:=th.2.2.2+1) (by omega) (by omega)];exact⟨hth.r,hth.t,keep,by dsimp only;omega,by dsimp only;omega⟩
  clear hp hs hc h0 h1 hcp g1 g2 hr ha hq he;generalize (geti sk (geti yO c0.2 (n:Int)).2 th.1)=ins at hA hB ⊢;rcases kdx kd with rfl|rfl|rfl|rfl|rfl|rfl|rfl|rfl|⟨k1,k2,k3,k4,k5,k6,k7,k8⟩
  case inr.inr.inr.inr.inr.inr.inr.inr=>
   simp only[k1,k2,k3,k4,k5,k6,k7,k8,bz,bB,uz];refine hk F _ _ _ _ _ _ _ _ _ _ _ _ _ (λ_ _=>fin _ _ _ rfl rfl keep) (λh=>by rw[k2,k3]at h;exact (h.elim id id).elim) (λt' h g=>?_) t1 _;exact done v ce fu t' apA (vaA (of_eq_false k4) (of_eq_false k5) (of_eq_false k8)) (av (of_eq_false k6)).symm (av (of_eq_false k7)).symm h (g.imp id λh=>⟨h.1,λD=>(of_eq_false k2 D).elim⟩)
  all_goals simp only[bz,bB,uz]
  .refine hk F _ _ _ _ _ _ _ _ _ _ _ _ _ (λ_ _=>fin _ _ _ rfl rfl keep) (λh=>by omega) (λt' h g=>?_) t1 _;exact done v ce fu t' apA (vaA (by decide) (by decide) (by decide)) rfl rfl h (g.imp id λh=>⟨h.1,nofun⟩)
  .refine hk F _ _ _ _ _ _ _ _ _ _ _ _ _ (λh _=>(h rfl).elim) (λ_=>nopark) (λt' h g=>?_) t1 _;exact done v ce fu t' apA (vaA (by decide) (by decide) (by decide)) rfl rfl h g
  .refine hk F _ _ _ _ _ _ _ _ _ _ _ _ _ (λ_ h=>(h rfl).elim) (λ_=>nopark) (λt' h g=>?_) t1 _;exact done v ce fu t' apA (vaA (by decide) (by decide) (by decide)) rfl rfl h (g.imp id λh=>⟨h.1,nofun⟩)
  .obtain⟨o0,o1⟩:=nmce (.inl rfl);rw[<- hce]at o1;obtain⟨a0,a1⟩:=hA (.inl rfl);have a2:ins.2.1<(l! th.2.2.1:Int):=by rw[htz];exact a1
   refine h_ (aN o0 o1 (aN o0 o1 (aj ?_)));simp only[bz,bB,uz];refine h_ (aN a0 a1 (aN a0 a1 (aN a0 a2 (aN a0 a2 (aj ?_)))));refine hk F _ _ _ _ _ _ _ _ _ _ _ _ _ (λ_ _=>fin _ _ _ (ca ..) (ca ..) (mark (.inl rfl) _)) (λh=>by omega) (λt' h g=>?_) t1 _;exact done _ ce fu t' (apB (by decide) _) ⟨λ_=>rfl,nofun,nofun,λh=>(h rfl).elim⟩ rfl rfl h (g.imp id λh=>⟨h.1,nofun⟩)
  .obtain⟨o0,o1⟩:=nmfu (.inr rfl);rw[<- hfu]at o1;obtain⟨a0,a1⟩:=hA (.inr (.inl rfl));have a2:ins.2.1<(l! th.2.2.1:Int):=by rw[htz];exact a1
   refine h_ (aN o0 o1 (aN o0 o1 (aj ?_)));simp only[bz,bB,uz];refine h_ (aN a0 a1 (aN a0 a1 (aN a0 a2 (aN a0 a2 (aj ?_)))));refine hk F _ _ _ _ _ _ _ _ _ _ _ _ _ (λ_ _=>fin _ _ _ (ca ..) (ca ..) (mark (.inr rfl) _)) (λh=>by omega) (λt' h g=>?_) t1 _;exact done _ ce fu t' (apB (by decide) _) ⟨nofun,λ_=>rfl,nofun,λ_ h=>(h rfl).elim⟩ rfl rfl h (g.imp id λh=>⟨h.1,nofun⟩)
  .obtain⟨o0,o1⟩:=nmce (.inr rfl);rw[<- hce]at o1;obtain⟨a0,a1⟩:=hB (.inl rfl);refine h_ (aN a0 a1 (aN a0 a1 (aN o0 o1 (aN o0 o1 (aj ?_)))));simp only[bz,bB,uz];refine hk F _ _ _ _ _ _ _ _ _ _ _ _ _ (λ_ _=>fin _ _ _ rfl rfl keep) (λh=>by omega) (λt' h g=>?_) t1 _;exact done _ _ fu t' (apB (by decide) _) ⟨nofun,nofun,nofun,λ_ _ _ h=>(h rfl).elim⟩ rfl rfl h (g.imp id λh=>⟨h.1,nofun⟩)
  .obtain⟨o0,o1⟩:=nmfu (.inl rfl);rw[<- hfu]at o1;obtain⟨a0,a1⟩:=hB (.inr rfl);refine h_ (aN a0 a1 (aN a0 a1 (aN o0 o1 (aN o0 o1 (aj ?_)))));simp only[bz,bB,uz];refine hk F _ _ _ _ _ _ _ _ _ _ _ _ _ (λ_ _=>fin _ _ _ rfl rfl keep) (λh=>by omega) (λt' h g=>?_) t1 _;exact done _ ce _ t' (apB (by decide) _) ⟨nofun,nofun,nofun,λ_ _ _ _ h=>(h rfl).elim⟩ rfl rfl h (g.imp id λh=>⟨h.1,nofun⟩)
  .obtain⟨a0,a1⟩:=hA (.inr (.inr rfl));refine h_ (aN a0 a1 (aN a0 a1 (aJ (λ_=>aj ?_) λ_=>aj ?_)));all_goals
    simp only[bz,bB,uz];refine hk F _ _ _ _ _ _ _ _ _ _ _ _ _ (λ_ _=>fin _ _ _ rfl rfl keep) (λh=>by omega) (λt' h g=>?_) t1 _;exact done _ ce fu t' (apB (by decide) _) ⟨nofun,nofun,λ_=>(by decide),λ_ _ h=>(h rfl).elim⟩ rfl rfl h (g.imp id λh=>⟨h.1,nofun⟩)
 .refine ⟨?_,λh1 D=>(hz ⟨h1,D⟩).elim⟩;unfold SG lG mq mo a8 bt bI cA dO iC mF nJ Prod.w Prod.v Prod.z b_ dJ pV Prod.B ck bq bX ko aH;refine KC hn hc hs hI (λo=>Su o (SQ i c0 L)) (λy h=>.inr (aj h)) _ λe v sy hp _ _ _ _ _=>.inl ?_
  obtain⟨sy0,ce,fu,l⟩:=s;have vl:=hp.fs.vc.vl;by_cases hl:l! l=N
  .have ht:¬t=(n:Int):=λh=>hz ⟨hl,h⟩
   dsimp only;cases cp (sy0,ce,fu,l) with
   |none=>rfl
   |some y=>rw[Zi,cD ht];rfl
  .show ay (cp (sy0,ce,fu,l)) _=U;rw[h0 sy0 ce fu l (by have h1:l! l=l! c0.2:=hp.fs.th;have:=hp.fs.vc.tl;have:=vl.t;omega) hl];rfl
variable {j:Nat}
def Dw {W V:Type} {c0:CT} {l:Y TT} {z:R} {t1:R->η->Y η->W} {t2:W->V} {t3:V->TT->Y TT} (h3:∀A T D,t3 (t2 (t1 z A T)) D=l.set i D):KR j c0 L i a l z (KG (i:Int) t1 t2 t3):=by
 intro F p sy kd o v si ds fs ce fu A T ev fin park done ht pc;unfold KG lG a8 bt bI cA dO iC mF nJ Prod.w Prod.v wG bq i_ bX aH cW;dsimp only;have done:∀D,TH F (j+1) D->(l! D.2.1=0\/D.2.2.2=bA .i64 (ev+1)/\(kd=16->D.1=p))->SQ j c0 L ((sy,ce,fu,t3 (t2 (t1 z A T)) D),((i:Int),kd,o,v,si,ds,fs),J):=λD h g=>by rw[h3];exact done D h g
 by_cases h1:kd=16
 .subst h1;exact h_ (h_ (fZ rfl (aj (fZ rfl (aj (fT (aR rfl) (aj (done _ (park (.inl rfl)) (.inr ⟨rfl,λ_=>rfl⟩)))))))))
 by_cases N:kd=2
 .subst N;exact h_ (h_ (fT rfl (aj (fZ rfl (aj (fT (aR rfl) (aj (done _ (park (.inr rfl)) (.inr ⟨rfl,nofun⟩)))))))))
 rw[cD h1,cD N];exact h_ (h_ (fT rfl (aj (fT rfl (aN (eU i) ht (aS (aw (fin h1 N) λy hy=>aj (fT (aR rfl) (aj (done _ hy.1 (hy.2.imp id λh=>⟨h,λN=>(h1 N).elim⟩)))))))))))
def ac9 (hn:i+1<=100000) (z:CT) (L:Y ET) (s:ST) (t u:Int) (hc:CB z) (A:SV i L s) (hI:NI z L s):Su (oq (z,s,t,u)) (SQ i z L)/\(l! s.2.2.2=4->t=0->Ok (oq (z,s,t,u)) (SQ i z L)):=by
 refine Du 4 0 hn z L s t u hc A hI Wo λN ce fu l A hce hfu D=>⟨by decide,?_⟩
 obtain⟨a,b,c,d,rfl⟩:∃a b c d,l=[a,b,c,d]:=by
  rcases l with _|⟨a,_|⟨b,_|⟨c,_|⟨d,_|⟨e,l⟩⟩⟩⟩⟩;all_goals first|exact⟨_,_,_,_,rfl⟩|(simp at D;done)|(exfalso;simp only[bK]at D;omega)
 refine ⟨_,ad0 N ce fu a b c d A hce hfu,rfl,rfl,rfl,rfl,rfl,rfl,Dw λR T t'=>rfl⟩
def ac8 (hn:i+1<=100000) (z:CT) (L:Y ET) (s:ST) (t u:Int) (hc:CB z) (A:SV i L s) (hI:NI z L s):Su (ol (z,s,t,u)) (SQ i z L)/\(l! s.2.2.2=4->t=1->Ok (ol (z,s,t,u)) (SQ i z L)):=by
 refine Du 4 1 hn z L s t u hc A hI Wn λN ce fu l A hce hfu D=>⟨by decide,?_⟩
 obtain⟨a,b,c,d,rfl⟩:∃a b c d,l=[a,b,c,d]:=by
  rcases l with _|⟨a,_|⟨b,_|⟨c,_|⟨d,_|⟨e,l⟩⟩⟩⟩⟩;all_goals first|exact⟨_,_,_,_,rfl⟩|(simp at D;done)|(exfalso;simp only[bK]at D;omega)
 refine ⟨_,acz N ce fu a b c d A hce hfu,rfl,rfl,rfl,rfl,rfl,rfl,Dw λR T t'=>rfl⟩
def ac7 (hn:i+1<=100000) (z:CT) (L:Y ET) (s:ST) (t u:Int) (hc:CB z) (A:SV i L s) (hI:NI z L s):Su (mC (z,s,t,u)) (SQ i z L)/\(l! s.2.2.2=4->t=2->Ok (mC (z,s,t,u)) (SQ i z L)):=by
 refine Du 4 2 hn z L s t u hc A hI Wm λN ce fu l A hce hfu D=>⟨by decide,?_⟩
 obtain⟨a,b,c,d,rfl⟩:∃a b c d,l=[a,b,c,d]:=by
  rcases l with _|⟨a,_|⟨b,_|⟨c,_|⟨d,_|⟨e,l⟩⟩⟩⟩⟩;all_goals first|exact⟨_,_,_,_,rfl⟩|(simp at D;done)|(exfalso;simp only[bK]at D;omega)
 refine ⟨_,acy N ce fu a b c d A hce hfu,rfl,rfl,rfl,rfl,rfl,rfl,Dw λR T t'=>rfl⟩
def ac6 (hn:i+1<=100000) (z:CT) (L:Y ET) (s:ST) (t u:Int) (hc:CB z) (A:SV i L s) (hI:NI z L s):Su (lw (z,s,t,u)) (SQ i z L)/\(l! s.2.2.2=4->t=3->Ok (lw (z,s,t,u)) (SQ i z L)):=by
 refine Du 4 3 hn z L s t u hc A hI Wl λN ce fu l A hce hfu D=>⟨by decide,?_⟩
 obtain⟨a,b,c,d,rfl⟩:∃a b c d,l=[a,b,c,d]:=by
  rcases l with _|⟨a,_|⟨b,_|⟨c,_|⟨d,_|⟨e,l⟩⟩⟩⟩⟩;all_goals first|exact⟨_,_,_,_,rfl⟩|(simp at D;done)|(exfalso;simp only[bK]at D;omega)
 refine ⟨_,acx N ce fu a b c d A hce hfu,rfl,rfl,rfl,rfl,rfl,rfl,Dw λR T t'=>rfl⟩
def acd (hn:i+1<=100000) (z:CT) (L:Y ET) (s:ST) (t u:Int) (hc:CB z) (A:SV i L s) (hI:NI z L s):Su (kf (z,s,t,u)) (SQ i z L)/\(l! s.2.2.2=3->t=0->Ok (kf (z,s,t,u)) (SQ i z L)):=by
 refine Du 3 0 hn z L s t u hc A hI Wr λN ce fu l A hce hfu D=>⟨by decide,?_⟩
 obtain⟨a,b,c,rfl⟩:∃a b c,l=[a,b,c]:=by
  rcases l with _|⟨a,_|⟨b,_|⟨c,_|⟨d,_|⟨e,l⟩⟩⟩⟩⟩;all_goals first|exact⟨_,_,_,rfl⟩|(simp at D;done)|(exfalso;simp only[bK]at D;omega)
 refine ⟨_,ad3 N ce fu a b c A hce hfu,rfl,rfl,rfl,rfl,rfl,rfl,Dw λR T t'=>rfl⟩
def acb (hn:i+1<=100000) (z:CT) (L:Y ET) (s:ST) (t u:Int) (hc:CB z) (A:SV i L s) (hI:NI z L s):Su (je (z,s,t,u)) (SQ i z L)/\(l! s.2.2.2=3->t=1->Ok (je (z,s,t,u)) (SQ i z L)):=by
 refine Du 3 1 hn z L s t u hc A hI Wq λN ce fu l A hce hfu D=>⟨by decide,?_⟩
 obtain⟨a,b,c,rfl⟩:∃a b c,l=[a,b,c]:=by
  rcases l with _|⟨a,_|⟨b,_|⟨c,_|⟨d,_|⟨e,l⟩⟩⟩⟩⟩;all_goals first|exact⟨_,_,_,rfl⟩|(simp at D;done)|(exfalso;simp only[bK]at D;omega)
 refine ⟨_,ad2 N ce fu a b c A hce hfu,rfl,rfl,rfl,rfl,rfl,rfl,Dw λR T t'=>rfl⟩
def aca (hn:i+1<=100000) (z:CT) (L:Y ET) (s:ST) (t u:Int) (hc:CB z) (A:SV i L s) (hI:NI z L s):Su (iu (z,s,t,u)) (SQ i z L)/\(l! s.2.2.2=3->t=2->Ok (iu (z,s,t,u)) (SQ i z L)):=by
 refine Du 3 2 hn z L s t u hc A hI Wp λN ce fu l A hce hfu D=>⟨by decide,?_⟩
 obtain⟨a,b,c,rfl⟩:∃a b c,l=[a,b,c]:=by
  rcases l with _|⟨a,_|⟨b,_|⟨c,_|⟨d,_|⟨e,l⟩⟩⟩⟩⟩;all_goals first|exact⟨_,_,_,rfl⟩|(simp at D;done)|(exfalso;simp only[bK]at D;omega)
 refine ⟨_,ad1 N ce fu a b c A hce hfu,rfl,rfl,rfl,rfl,rfl,rfl,Dw λR T t'=>rfl⟩
def acf (hn:i+1<=100000) (z:CT) (L:Y ET) (s:ST) (t u:Int) (hc:CB z) (A:SV i L s) (hI:NI z L s):Su (gQ (z,s,t,u)) (SQ i z L)/\(l! s.2.2.2=2->t=0->Ok (gQ (z,s,t,u)) (SQ i z L)):=by
 refine Du 2 0 hn z L s t u hc A hI Wt λN ce fu l A hce hfu D=>⟨by decide,?_⟩
 obtain⟨a,b,rfl⟩:∃a b,l=[a,b]:=by
  rcases l with _|⟨a,_|⟨b,_|⟨c,_|⟨d,_|⟨e,l⟩⟩⟩⟩⟩;all_goals first|exact⟨_,_,rfl⟩|(simp at D;done)|(exfalso;simp only[bK]at D;omega)
 refine ⟨_,ad5 N ce fu a b A hce hfu,rfl,rfl,rfl,rfl,rfl,rfl,Dw λR T t'=>rfl⟩
def ace (hn:i+1<=100000) (z:CT) (L:Y ET) (s:ST) (t u:Int) (hc:CB z) (A:SV i L s) (hI:NI z L s):Su (gr (z,s,t,u)) (SQ i z L)/\(l! s.2.2.2=2->t=1->Ok (gr (z,s,t,u)) (SQ i z L)):=by
 refine Du 2 1 hn z L s t u hc A hI Ws λN ce fu l A hce hfu D=>⟨by decide,?_⟩
 obtain⟨a,b,rfl⟩:∃a b,l=[a,b]:=by
  rcases l with _|⟨a,_|⟨b,_|⟨c,_|⟨d,_|⟨e,l⟩⟩⟩⟩⟩;all_goals first|exact⟨_,_,rfl⟩|(simp at D;done)|(exfalso;simp only[bK]at D;omega)
 refine ⟨_,ad4 N ce fu a b A hce hfu,rfl,rfl,rfl,rfl,rfl,rfl,Dw λR T t'=>rfl⟩
def acg (hn:i+1<=100000) (z:CT) (L:Y ET) (s:ST) (t u:Int) (hc:CB z) (A:SV i L s) (hI:NI z L s):Su (gu (z,s,t,u)) (SQ i z L)/\(l! s.2.2.2=1->t=0->Ok (gu (z,s,t,u)) (SQ i z L)):=by
 refine Du 1 0 hn z L s t u hc A hI Wu λN ce fu l A hce hfu D=>⟨by decide,?_⟩
 obtain⟨a,rfl⟩:∃a,l=[a]:=by
  rcases l with _|⟨a,_|⟨b,_|⟨c,_|⟨d,_|⟨e,l⟩⟩⟩⟩⟩;all_goals first|exact⟨_,rfl⟩|(simp at D;done)|(exfalso;simp only[bK]at D;omega)
 refine ⟨_,ad6 N ce fu a A hce hfu,rfl,rfl,rfl,rfl,rfl,rfl,Dw λR T t'=>rfl⟩
def ach {n:Nat} (hn:n+1<=100000) (c:CT) (L:Y ET) (s:ST) (t u:Int) (hc:CB c) (hs:SV n L s) (hI:NI c L s):Ok (Ck (c,s,t,u)) (SQ n c L):=by
 unfold Ck;have z:=ac9 hn c L s t u hc hs hI;have A:=ac8 hn c L s t u hc hs hI;have D:=ac7 hn c L s t u hc hs hI;have N:=ac6 hn c L s t u hc hs hI;have a30:=acd hn c L s t u hc hs hI;have a31:=acb hn c L s t u hc hs hI;have a32:=aca hn c L s t u hc hs hI;have a20:=acf hn c L s t u hc hs hI;have a21:=ace hn c L s t u hc hs hI;have a10:=acg hn c L s t u hc hs hI;by_cases hz:l! s.2.2.2<=4/\0<=t/\t<(l! s.2.2.2:Int)
 .obtain⟨h1,h2,h3⟩:=hz;have:(l! s.2.2.2=4/\t=0)\/(l! s.2.2.2=4/\t=1)\/(l! s.2.2.2=4/\t=2)\/(l! s.2.2.2=4/\t=3)\/(l! s.2.2.2=3/\t=0)\/(l! s.2.2.2=3/\t=1)\/(l! s.2.2.2=3/\t=2)\/(l! s.2.2.2=2/\t=0)\/(l! s.2.2.2=2/\t=1)\/(l! s.2.2.2=1/\t=0):=by omega
  rcases this with h|h|h|h|h|h|h|h|h|h
  .exact (z.2 h.1 h.2).orL
  .exact z.1.orR (A.2 h.1 h.2).orL
  .exact z.1.orR (A.1.orR (D.2 h.1 h.2).orL)
  .exact z.1.orR (A.1.orR (D.1.orR (N.2 h.1 h.2).orL))
  .exact z.1.orR (A.1.orR (D.1.orR (N.1.orR (a30.2 h.1 h.2).orL)))
  .exact z.1.orR (A.1.orR (D.1.orR (N.1.orR (a30.1.orR (a31.2 h.1 h.2).orL))))
  .exact z.1.orR (A.1.orR (D.1.orR (N.1.orR (a30.1.orR (a31.1.orR (a32.2 h.1 h.2).orL)))))
  .exact z.1.orR (A.1.orR (D.1.orR (N.1.orR (a30.1.orR (a31.1.orR (a32.1.orR (a20.2 h.1 h.2).orL))))))
  .exact z.1.orR (A.1.orR (D.1.orR (N.1.orR (a30.1.orR (a31.1.orR (a32.1.orR (a20.1.orR (a21.2 h.1 h.2).orL)))))))
  .exact z.1.orR (A.1.orR (D.1.orR (N.1.orR (a30.1.orR (a31.1.orR (a32.1.orR (a20.1.orR (a21.1.orR (a10.2 h.1 h.2)))))))))
 .refine Ok.orL ?_;unfold oq a8 bt dJ;refine KC hn hc hs hI (λo=>Ok o (SQ n c L)) (λy h=>aj h) _ λe v sy hp _ _ _ _ _=>(hz ?_).elim
  have h1:l! s.2.2.2=l! c.2:=hp.fs.th;have h2:l! c.2=l! c.1.2.2.2.2.1:=hp.fs.vc.tl;have h3:l! c.1.2.2.2.2.1<=4:=hp.fs.vc.vl.t;have h4:0<=t:=hp.t0;have h5:t<(l! c.2:Int):=hp.t1;exact⟨by omega,h4,by omega⟩
def ajp (c:CT) (s:ST) (l:Y ν) (hc:CB c) (hs:SV 0 [] s) (hI:NI c [] s) (hl:l.length<=9223372036854775806):Ok (xY (c,s,l)) λy=>y.1.length<=400/\(∀e∈y.1,WC c.1 e/\EvS e)/\∃sy ce fu,Acw c.1 y.1 sy ce fu:=by
 unfold xY a8 bt dJ bS bT bX bf c5 aH cW;refine ru (λx=>((l.length:Int)-x.1).toNat) (λx=>0<=x.1/\x.2.2.1=c/\SV x.2.1.length x.2.1 x.2.2.2.1/\NI c x.2.1 x.2.2.2.1/\x.2.1.length<=400/\∀e∈x.2.1,WC c.1 e/\EvS e) ?_ ⟨dC _,rfl,hs,hI,by simp,λe he=>(by cases he)⟩;rintro⟨(i:Int),es,A,s',z⟩ ⟨N,e1,e2,eI,L,D⟩;dsimp only at N e1 e2 eI L D;subst e1;refine aY (λx=>x.2=(es,A,s',z)/\(x.1=J->i<(l.length:Int)/\es.length<400)) ?_ ?_
 .refine bW (λg=>aj ⟨rfl,λh=>⟨g,?_⟩⟩) λ_=>aj ⟨rfl,nofun⟩
  dsimp only at h;rw[te]at h;dsimp only[al]at h;omega
 rintro⟨b,x⟩ ⟨f1,f2⟩;dsimp only at f1 f2;subst f1;refine aO (λh=>?_) λ_=>aj ⟨L,D,_,_,_,eI.ac⟩
 obtain⟨g1,g2⟩:=f2 h;refine aY (λx=>x.2.1=A/\SV x.1.length x.1 x.2.2.1/\NI A x.1 x.2.2.1/\x.1.length<=400/\∀e∈x.1,WC A.1 e/\EvS e) ?_ ?_
 .refine aN N g1 (aS ?_);refine aw (ach (n:=es.length) (by omega) A es s' _ _ hc e2 eI) λy hy=>?_
  refine aO (λh=>?_) λ_=>aj ⟨rfl,e2,eI,L,D⟩
  obtain⟨h1,hJ,h2,h3⟩:=hy h;refine a! (aj ⟨rfl,?_,hJ,by simp;omega,λe he=>?_⟩)
  .dsimp only;rw[bc,cj];exact h1
  .rcases bG.1 he with he|he
   .exact D e he
   .rw[aE]at he;subst he;exact⟨h2,h3⟩
 rintro⟨es',c2,s2,z2⟩ ⟨k1,k2,kI,k3,k4⟩;dsimp only at k1 k2 kI k3 k4;subst k1;refine aj ?_;dsimp only;rw[iW (n:=i+1) (by omega) (by omega)];exact⟨⟨by omega,rfl,k2,kI,k3,k4⟩,by omega⟩
def CB.vc {c:CT} (z:CB c):VC c:=by
 obtain⟨b,h1,A⟩:=Wa c z.th z.ins;rw[z.ok]at h1;cases h1;exact A rfl
def aoo (c:CT) (l:Y ν) (z:CB c) (N:l! l<=9223372036854775806):Ok (Be (c,l)) λy=>TR y.1:=by
 unfold Be;refine aV z.ok (eJ nofun λ_=>?_);have D:=z.vc;refine aw (YJ c z.ok D) λs L=>?_
 refine aw (ajp c s l z L.1 L.2 N) λy A=>aj ?_
 exact⟨D.vl.wb,D.vl,λe he=>(A.2.1 e he).1,by have:=A.1;dsimp only;omega,λe he=>(A.2.1 e he).2,z.wx,A.2.2⟩
def YR (l:η) (A:l! l<=1000000):Ok (pR l) λy=>l! y=l! l:=by
 unfold pR bS bT bX bf c5 aH cW;refine cH (l! l) (λi x=>x.1=(i:Int)/\l! x.2=i) ?_ ?_ ⟨rfl,rfl⟩
 .rintro i ⟨a,b⟩ hi ⟨z,e2⟩;dsimp only at z e2;subst z;refine dy ?_;refine cY (aS (cY (aS (a! (aj ?_)))));dsimp only;exact⟨gM,by simp;omega⟩
 .rintro⟨a,b⟩ ⟨z,e2⟩;dsimp only at z e2;subst z;exact du (aj e2)
def fB (e:Xp):eD (Xp.op e,Xp.n e,Xp.name e,Xp.l e)=e:=by cases e;rfl
def AU (s:Sx):pa (Sx.op s,Sx.line s,Sx.name s,Sx.arg s,Sx.index s,Sx.expr s,Sx.body s,Sx.els s)=s:=by cases s;rfl
abbrev NV:Y ζ:=[[97],[98],[120],[121],[118]]
def GE:Nat->Xp->Prop
 |0,_=>False
 |d+1,e=>(e.op=3->e.name=[113])/\(e.op≠1->e.op≠2->1<=l! e.l)/\l! e.l<=2/\(∀x∈e.l,GE d x)/\(e.op=2->e.name∈NV)/\(e.op≠1->e.op≠2->e.op≠3->2<=l! e.l/\6<=e.op/\e.op<=18)
def GE.mono:∀{d:Nat} {e:Xp},GE d e->GE (d+1) e
 |0,_,h=>h.elim
 |_+1,_,h=>⟨h.1,h.2.1,h.2.2.1,λx z=>(h.2.2.2.1 x z).mono,h.2.2.2.2⟩
def GE.le {e:Xp} (h:GE i e) (A:i<=j):GE j e:=by
 induction A with
 |refl=>exact h
 |step _ z=>exact z.mono
def QR (n:Int):sR n=Z (.mk 1 n [] []):=rfl
def Kd (s:ζ):qM s=Z (.mk 2 0 s []):=rfl
def HL (o:Int) (a b:Xp):o_ (o,a,b)=Z (.mk o 0 [] [a,b]):=by
 cases a;cases b;rfl
def vn (s:ζ) (e:Xp):j7 (s,e)=Z (.mk 1 0 s [] [] e [] []):=by
 cases e;rfl
abbrev MK:Type:=R?
abbrev Sg:Type:=n?
abbrev HD:Type:=Bool×Y ζ
def GE.num (n:Int) (d:Nat):GE (d+1) (.mk 1 n [] []):=⟨nofun,λh=>(h rfl).elim,by simp[Xp.l],λx z=>(by cases z),nofun,λh=>(h rfl).elim⟩
def GE.nm {s:ζ} (A:s∈NV) (d:Nat):GE (d+1) (.mk 2 0 s []):=⟨nofun,λ_ h=>(h rfl).elim,by simp[Xp.l],λx z=>(by cases z),λ_=>A,λ_ h=>(h rfl).elim⟩
def GE.bin {o b:Xp} (A:6<=a/\a<=18) (L:GE i o) (D:GE i b):GE (i+1) (.mk a 0 [] [o,b]):=
 ⟨λh=>(by have h:a=3:=h;omega),λ_ _=>by simp[Xp.l],by simp[Xp.l],λx z=>by
   simp only[Xp.l,aZ,cu,fJ]at z;rcases z with rfl|rfl
   .exact L
   .exact D,λh=>(by have h:a=2:=h;omega),λ_ _ _=>⟨by simp[Xp.l],A⟩⟩
def GE.ix {a:Xp} (A:GE i a):GE (i+1) (.mk 3 0 [113] [a]):=
 ⟨λ_=>rfl,λ_ _=>by simp[Xp.l],by simp[Xp.l],λx z=>by
   simp only[Xp.l,aZ,cu,fJ]at z;rw[z];exact A,nofun,λ_ _ h=>(h rfl).elim⟩
def Fy:∀(n d:Nat),d<n->d<=10->∀(m:MK) (t:Sg) (h:HD),TP t->Ok (iN n ((d:Int),m,t,h)) λy=>GE (d+1) y.1/\y.2.1=m/\wC t y.2.2.1/\y.2.2.2=h
 |0,d,hd,_,_,_,_,_=>by omega
 |n+1,d,hd,h10,m,t,h,ht=>by
  rw[AK];unfold pi a8 bt b_ dJ dj bq bS bT ko bf aH;refine aw (gF 10 t ht) λy A=>?_
  obtain⟨k,t1⟩:=y;obtain⟨L,k0,k1,_⟩:=A;have k1:=k1 (by decide);dsimp only at L k0 k1;refine aY (λx=>x.2=(m,t1,h,(0,0,[]),[[97],[98],[120],[121],[118],[120],[121]])/\(x.1=aa->2<=k/\(d=0->k<7))) ?_ ?_
  .refine bW (λ_=>aj ⟨rfl,nofun⟩) λg=>aJ (λg2=>aj ⟨rfl,λg3=>⟨g,λ_=>?_⟩⟩) λg2=>aj ⟨rfl,λ_=>⟨g,λh=>(g2 (by dsimp only;omega)).elim⟩⟩
   dsimp only at g3;rw[m_]at g3;exact g3
  rintro⟨b,x⟩ ⟨e,hb⟩;dsimp only at e hb;subst e;refine aO (λ_=>?_) λg=>?_
  .refine aw (gF 4 t1 L.p) λy A=>?_
   refine aV (QR _) (aj ?_);exact⟨GE.num _ _,rfl,L.trans A.1,rfl⟩
  obtain⟨q0,q1⟩:=hb g;refine bW (λg=>?_) λg=>?_
  .refine aw (gF _ t1 L.p) λy A=>?_
   obtain⟨u1,N,D,_⟩:=A;have D:=D (show (1:Int)<=7 by decide);refine aN N D (aN N D (aS ?_));refine aV (Kd _) (aj ?_);have hnv:∀z∈([[97],[98],[120],[121],[118],[120],[121]]:Y ζ),z∈NV:=by decide
   exact⟨GE.nm (hnv _ (b8 (T:=.str) N D)) _,rfl,L.trans u1,rfl⟩
  dsimp only at g;have hd0:d≠0:=λh=>by have:=q1 h;omega
  obtain⟨d,rfl⟩:∃k,d=k+1:=⟨d-1,by omega⟩
  refine aJ (λg=>?_) λg=>?_
  .refine aw (Fy n 0 (by omega) (by omega) m t1 h L.p) λy A=>?_
   obtain⟨e,m',t',h'⟩:=y;obtain⟨v1,v2,v3,v4⟩:=A;dsimp only at v1 v2 v3 v4;subst v2 v4;refine bh (by simp) (aj ?_);dsimp only;rw[fB];exact⟨(GE.ix (v1.le (by omega):GE (d+1) e)),rfl,L.trans v3,rfl⟩
  .refine aw (gF _ t1 L.p) λy A=>?_
   obtain⟨k2,t2⟩:=y;obtain⟨u1,N,D,_⟩:=A;have D:=D (by decide);dsimp only at u1 N D;refine aN N D (aN N D (aS ?_));have ho:(6:Int)<=geti aM [6,7,8,11,13,17] k2/\geti aM [6,7,8,11,13,17] k2<=(18:Int):=by
    have h1:=b8 (T:=aM) (xs:=([6,7,8,11,13,17]:η)) N D;have:∀z:Int,z∈([6,7,8,11,13,17]:η)->6<=z/\z<=18:=by decide
    exact this _ h1
   have ew:bA .i64 (((d+1:Nat):Int)-1)=(d:Int):=by rw[iW];omega
   dsimp only;rw[ew];refine aw (Fy n d (by omega) (by omega) m t2 h u1.p) λy A=>?_
   obtain⟨e,m',t',h'⟩:=y;obtain⟨v1,v2,v3,v4⟩:=A;dsimp only at v1 v2 v3 v4;subst v2 v4;refine bh (by simp) ?_;refine aw (Fy n d (by omega) (by omega) m' t' h' v3.p) λy A=>?_
   obtain⟨e2,m2,t2',h2⟩:=y;obtain⟨w1,w2,w3,w4⟩:=A;dsimp only at w1 w2 w3 w4;subst w2 w4;refine bh (by simp) ?_;refine aV (HL _ _ _) (aj ?_);dsimp only;rw[fB];exact⟨GE.bin ho v1 w1,rfl,L.trans (u1.trans (v3.trans w3)),rfl⟩
def af4 (d:Nat) (hd:d<=10) (m:MK) (t:Sg) (h:HD) (ht:TP t):Ok (fw ((d:Int),m,t,h)) λy=>GE (d+1) y.1/\y.2.1=m/\wC t y.2.2.1/\y.2.2.2=h:=Fy fuel d (by rw[kP];omega) hd m t h ht
section
def NE (op:Int):Prop:=op=1\/op=2\/op=3\/op=14
def ZE (e:Xp):Prop:=GE 4 e\/e= .mk 0 0 [] []
structure NO (nT:Nat) (s:Sx):Prop where
 o0:1<=s.op
 o1:s.op<=15
 vr:s.op=1->s.index=[]->s.name∈NV
 lk:s.op=4->s.name=[109]\/s.name=[110]
 rw:s.op=5\/s.op=6->s.name=[114]
 cn:s.op=9\/s.op=10\/s.op=11->s.name=[99]
 sp:s.op=12\/s.op=13->s.name∈xL.take nT
 se:s.op=14->s.name=[102]
 ge:s.op=15->s.name=[97]/\s.arg=[102]
 el:¬s.op=2->s.els=[]
 bo:s.op=1\/9<=s.op->s.body=[]
variable {nT:Nat}
def GS (nT:Nat):Nat->Sx->Prop
 |0,_=>False
 |d+1,s=>(s.index≠[]->s.name=[113])/\l! s.index<=1/\(∀e∈s.index,GE 4 e)/\(NE s.op->GE 4 s.expr)/\ZE s.expr/\l! s.body<=8/\l! s.els<=8/\(∀x∈s.body,GS nT d x)/\(∀x∈s.els,GS nT d x)/\NO nT s
def GS.mono:∀{d:Nat} {s:Sx},GS nT d s->GS nT (d+1) s
 |0,_,h=>h.elim
 |_+1,_,⟨a,b,c,e,f,g,i,j,k,l⟩=>⟨a,b,c,e,f,g,i,λx z=>(j x z).mono,λx z=>(k x z).mono,l⟩
def GS.le {s:Sx} (h:GS nT i s) (A:i<=j):GS nT j s:=by
 induction A with
 |refl=>exact h
 |step _ z=>exact z.mono
def NO.asg {s a:ζ} {e:Xp} {i:Y Xp} (z:i=[]->s∈NV):NO nT (.mk 1 0 s a i e [] []):=by
 constructor<;>simp[Sx.op,Sx.name,Sx.index,Sx.els,Sx.body];exact λh=>by simpa using z h
def GS.asg {s:ζ} (A:s∈NV) {e:Xp} (h:GE 4 e):GS nT (i+1) (.mk 1 0 s [] [] e [] []):=
 ⟨λh=>(h rfl).elim,by simp[Sx.index],λe he=>(by cases he),λ_=>h,.inl h,by simp[Sx.body],by simp[Sx.els],λx z=>(by cases z),λx z=>(by cases z),NO.asg λ_=>A⟩
def GS.aix {d e:Xp} (hi:GE 4 d) (h:GE 4 e):GS nT (i+1) (.mk 1 0 [113] [] [d] e [] []):=
 ⟨λ_=>rfl,by simp[Sx.index],λe he=>(by simp only[Sx.index,aE]at he;rw[he];exact hi),λ_=>h,.inl h,by simp[Sx.body],by simp[Sx.els],λx z=>(by cases z),λx z=>(by cases z),NO.asg nofun⟩
def GS.we {op:Int} {s a:ζ} {e:Xp} {b l:Y Sx} (h:GE 4 e) (D:l! b<=8) (A:l! l<=8) (N:∀x∈b,GS nT i x) (L:∀x∈l,GS nT i x) (z:NO nT (.mk op 0 s a [] e b l)):GS nT (i+1) (.mk op 0 s a [] e b l):=
 ⟨λh=>(h rfl).elim,by simp[Sx.index],λe he=>(by cases he),λ_=>h,.inl h,D,A,N,L,z⟩
def GS.wo {op:Int} {s z:ζ} {b:Y Sx} (ho:4<=op/\op≠14) (L:l! b<=8) (N:∀x∈b,GS nT i x) (D:NO nT (.mk op a s z [] (.mk 0 0 [] []) b [])):GS nT (i+1) (.mk op a s z [] (.mk 0 0 [] []) b []):=
 ⟨λh=>(h rfl).elim,by simp[Sx.index],λe he=>(by cases he),λh=>(by have h:op=1\/op=2\/op=3\/op=14:=h;omega),.inr rfl,L,by simp[Sx.els],N,λx A=>(by cases A),D⟩
def QS (nT:Nat) (d:Nat) (n:Int) (t:Sg) (h:HD) (y:MK×Sg×HD×Y Sx):Prop:=(l! y.2.2.2:Int)<=max 0 n/\(∀s∈y.2.2.2,GS nT (d+1) s)/\wC t y.2.1/\y.2.2.1.2=h.2
abbrev C?:=MK×Sg×HD
def QT (nT:Nat) (d:Nat) (t:Sg) (h:HD) (y:Sx×C?):Prop:=GS nT (d+1) y.1/\wC t y.2.2.1/\y.2.2.2.2=h.2
def QB (nT:Nat) (d:Nat) (t:Sg) (h:HD) (y:Y Sx×C?):Prop:=l! y.1<=2/\(∀s∈y.1,GS nT (d+1) s)/\wC t y.2.2.1/\y.2.2.2.2=h.2
abbrev RS:Type:=(ν×C?)->M (MK×Sg×HD×Y Sx)
abbrev RT:Type:=(Int×C?)->M (Sx×C?)
abbrev RBk:Type:=((ζ×Int)×C?)->M (Y Sx×C?)
def SpS (nT:Nat) (z:RS) (d:Nat):Prop:=∀(n:Int) (m:MK) (t:Sg) (h:HD),n<=3->TP t->l! h.2+d<=100->Ok (z (((d:Int),n),m,t,h)) (QS nT d n t h)
def SpT (nT:Nat) (z:RT) (d:Nat):Prop:=∀(m:MK) (t:Sg) (h:HD),TP t->l! h.2+d<=100->Ok (z ((d:Int),m,t,h)) (QT nT d t h)
def SpB (nT:Nat) (z:RBk) (d:Nat):Prop:=∀(s:ζ) (m:MK) (t:Sg) (h:HD),TP t->l! h.2+1+d<=100->Ok (z ((s,(d:Int)),m,t,h)) (QB nT d t h)
def ab3 (rs:RS) (rt:RT) (rb:RBk) (d:Nat) (ht:SpT nT rt d):SpS nT (nO rs rt rb) d:=by
 intro n m t h hn hp hh;unfold nO a8 bt bI b_ dJ dj bq bS bT c5 aH cW eH;refine ru (λx=>(n-x.1).toNat) (λx=>0<=x.1/\(x.1<=n\/x.1=0)/\wC t x.2.2.1/\(l! x.2.2.2.1:Int)<=x.1/\(∀s∈x.2.2.2.1,GS nT (d+1) s)/\x.2.2.2.2.2=h.2) ?_ ⟨dC _,.inr rfl,wC.refl hp,by simp,λs hs=>(by cases hs),rfl⟩;rintro⟨(i:Int),m',N,l,h'⟩ ⟨i0,i1,D,e2,L,A⟩;dsimp only at i0 i1 D e2 L A;refine aY (λx=>x.2=(m',N,l,h')/\(x.1=J->i<n)) ?_ ?_
 .refine bW (λg=>aJ (λ_=>aj ⟨rfl,λ_=>g⟩) λ_=>aj ⟨rfl,λ_=>g⟩) λ_=>aj ⟨rfl,nofun⟩
 rintro⟨b,x⟩ ⟨f1,f2⟩;dsimp only at f1 f2;subst f1;refine aO (λhb=>?_) λ_=>aj ⟨by dsimp only;omega,L,D,A⟩
 have g:=f2 hb;refine aw (ht m' N h' D.p (by rw[A];exact hh)) λy hy=>?_
 obtain⟨s,m2,t2,h2⟩:=y;obtain⟨k1,k2,k3⟩:=hy;dsimp only at k1 k2 k3;refine bh (by simp) (a! (aj ?_));dsimp only;rw[fB,AU,iW (n:=i+1) (by omega) (by omega)];refine ⟨⟨by omega,by omega,D.trans k2,by simp;omega,λx z=>?_,k3.trans A⟩,by omega⟩;rcases bG.1 z with z|z
 .exact L x z
 .rw[aE]at z;subst z;exact k1
def ab6 (L:RS) (rt:RT) (rb:RBk) (d:Nat) (hs:SpS nT L d):SpB nT (nP L rt rb) d:=by
 intro s m t h hp hh;unfold nP a8 bt b_ dJ bT bf;refine a! ?_;refine aw (gF 2 t hp) λy D=>?_
 obtain⟨k,t1⟩:=y;obtain⟨A,N,z,_⟩:=D;have z:=z (by decide);dsimp only at A N z;have ew:bA .i64 (1+k)=1+k:=iW;dsimp only;rw[ew];refine aw (hs (1+k) m t1 (h.1,h.2++[s]) (by omega) A.p (by simp;omega)) λy D=>?_
 obtain⟨m2,t2,h2,l⟩:=y;obtain⟨k1,k2,k3,k4⟩:=D;dsimp only at k1 k2 k3 k4;refine bh (by simp) ?_;dsimp only;rw[k4];have el:bA .i64 ((aP (l! (h.2++[s])))-1)=(l! h.2:Int):=by
  rw[bc,cj,iW (by simp<;>omega) (by simp<;>omega)];simp<;>omega
 rw[el];refine db (a? (Ch (by simp;omega) (aj ?_)));refine ⟨by dsimp only;omega,k2,A.trans k3,?_⟩;show dF (aQ (l! h.2:Int)) (h.2++[s])=h.2;simp
def Fm (s:ζ) (m:MK) (t:Sg) (h:HD) (hh:l! h.2<=100):Ok (eY (s,m,t,h)) λy=>y.2=(m,t,h):=by
 unfold eY dJ;exact aw (AD h.2 s (by omega)) λy _=>aj rfl
def afy (rs:RS) (rt:RT) (rb:RBk) (d:Nat) (hd:d<=5) (h0:1<=d->SpS nT rs 0) (hS:1<=d->SpS nT rs (d-1)) (hB:1<=d->SpB nT rb (d-1)):SpT nT (ph rs rt rb) d:=by
 intro m t h hp hh;unfold ph a8 bt bI b_ dJ dj bq bS bT ko aH eH;refine aw (gF 18 t hp) λy D=>?_
 obtain⟨k,N⟩:=y;obtain⟨L,k0,k1,_⟩:=D;have k1:=k1 (by decide);dsimp only at L k0 k1;have hE:∀(j:Nat) (m':MK) (t':Sg) (h':HD),j<=1->TP t'->Ok (fw ((j:Int),m',t',h')) λy=>GE 4 y.1/\y.2.1=m'/\wC t' y.2.2.1/\y.2.2.2=h':=λj m' t' h' hj ht'=>(af4 j (by omega) m' t' h' ht').mono λy D=>⟨D.1.le (by omega),D.2⟩
 have ed:bA .i64 ((d:Int)-1)=(d:Int)-1:=iW;have ed1:1<=d->(d:Int)-1=((d-1:Nat):Int):=λ_=>by omega
 refine aY (λx=>x.2=((m.1,bA .i64 (m.2.1-1),m.2.2),N,(0,0,[],[],0,0,[]),h)/\(x.1=J->1<=d)) ?_ ?_
 .refine bW (λg=>aS (bW (λ_=>aj ⟨rfl,λ_=>?_⟩) λ_=>aj ⟨rfl,nofun⟩)) λ_=>aj ⟨rfl,nofun⟩
  dsimp only at g;omega
 generalize ((m.1,bA .i64 (m.2.1-1),m.2.2):MK)=m0;rintro⟨nest,x⟩ ⟨e,hn⟩;dsimp only at e hn;subst e;refine bW (λ_=>?_) λg4=>?_
 .refine aN k0 (by dsimp only[ah];omega) (aN k0 (by dsimp only[ah];omega) (aS ?_));refine aw (hE 1 m0 N h (by omega) L.p) λy D=>?_
  obtain⟨e,m2,t2,h2⟩:=y;obtain⟨v1,v2,v3,v4⟩:=D;dsimp only at v1 v2 v3 v4;subst v2 v4;refine bh (by simp) (aV (vn _ _) (aj ?_));dsimp only;rw[fB,AU];have hnv:∀z∈([[120],[121],[120],[118]]:Y ζ),z∈NV:=by decide
  exact⟨GS.asg (hnv _ (b8 (T:=.str) k0 (by dsimp only[ah];omega))) v1,L.trans v3,rfl⟩
 dsimp only at g4;refine aJ (λ_=>?_) λg5=>?_
 .refine aw (gF 2 N L.p) λy D=>?_
  obtain⟨u1,u2,u3,_⟩:=D;have u3:=u3 (by decide);refine aN u2 u3 (aN u2 u3 (aS ?_));refine aw (hE 1 m0 y.2 h (by omega) u1.p) λz hz=>?_
  obtain⟨e,m2,t2,h2⟩:=z;obtain⟨v1,v2,v3,v4⟩:=hz;dsimp only at v1 v2 v3 v4;subst v2 v4;refine bh (by simp) (aV (vn _ _) (aj ?_));dsimp only;rw[fB,AU];have hnv:∀z∈([[97],[98]]:Y ζ),z∈NV:=by decide
  exact⟨GS.asg (hnv _ (b8 (T:=.str) u2 u3)) v1,L.trans (u1.trans v3),rfl⟩
 dsimp only at g5;refine aJ (λ_=>?_) λg6=>?_
 .refine aw (hE 0 m0 N h (by omega) L.p) λz hz=>?_
  obtain⟨e,m2,t2,h2⟩:=z;obtain⟨v1,v2,v3,v4⟩:=hz;dsimp only at v1 v2 v3 v4;subst v2 v4;refine bh (by simp) ?_;refine aw (hE 1 m2 t2 h2 (by omega) v3.p) λz hz=>?_
  obtain⟨e',m3,t3,h3⟩:=z;obtain⟨w1,w2,w3,w4⟩:=hz;dsimp only at w1 w2 w3 w4;subst w2 w4;refine bh (by simp) (aj ?_);dsimp only;rw[fB,fB];exact⟨GS.aix v1 w1,L.trans (v3.trans w3),rfl⟩
 dsimp only at g6;have hz:∀(c:Prop),c->c:=λ_ h=>h
 have dd:1<=d->d-1+1=d:=λ_=>by omega
 have w8:8<=k->bA .i64 (k-8)=k-8:=λ_=>iW
 refine aY (λx=>x.2=(m0,N,(0,0,[],[],0,0,[]),h)/\(x.1=J->1<=d)) ?_ ?_
 .refine aJ (λ_=>aj ⟨rfl,λg=>?_⟩) λ_=>aj ⟨rfl,nofun⟩
  dsimp only at g;rw[te]at g;omega
 rintro⟨b,x⟩ ⟨e,hb⟩;dsimp only at e hb;subst e;refine aO (λA=>?_) λ_=>?_
 .have d1:=hb A;refine aw (hE 1 m0 N h (by omega) L.p) λz hz=>?_
  obtain⟨e,m2,t2,h2⟩:=z;obtain⟨v1,v2,v3,v4⟩:=hz;dsimp only at v1 v2 v3 v4;subst v2 v4;refine bh (by simp) ?_;dsimp only;rw[ed,ed1 d1];refine aw (hS d1 1 m2 t2 h2 (by omega) v3.p (by omega)) λz hz=>?_
  obtain⟨m3,t3,h3,l⟩:=z;obtain⟨w1,w2,w3,w4⟩:=hz;dsimp only at w1 w2 w3 w4;rw[dd d1]at w2;refine bh (by simp) ?_;refine aY (λx=>x.2.2.2.1=(2,0,[],[],e.op,e.n,e.name,e.l)/\wC N x.2.1/\x.2.2.2.2.1.2=h2.2/\x.2.2.2.2.2.1=l/\l! x.2.2.2.2.2.2<=8/\∀s∈x.2.2.2.2.2.2,GS nT d s) ?_ ?_
  .refine aw (gF 2 t3 w3.p) λy D=>?_
   refine aJ (λ_=>?_) λ_=>aj ⟨rfl,v3.trans (w3.trans D.1),w4,rfl,by simp,λs hs=>(by cases hs)⟩
   dsimp only;refine aw (hS d1 1 m3 y.2 h3 (by omega) D.1.p (by rw[w4];omega)) λz hz=>?_
   obtain⟨m4,t4,h4,l2⟩:=z;obtain⟨x1,x2,x3,x4⟩:=hz;dsimp only at x1 x2 x3 x4;rw[dd d1]at x2;exact bh (by simp) (aj ⟨rfl,v3.trans (w3.trans (D.1.trans x3)),x4.trans w4,rfl,by dsimp only;omega,x2⟩)
  rintro⟨m5,t5,z5,e5,h5,l5,l6⟩ ⟨x1,x2,x3,x4,x5,x6⟩;dsimp only at x1 x2 x3 x4 x5 x6;subst x1 x4;refine aj ?_;dsimp only;rw[fB];exact⟨GS.we v1 (by first|omega|(dsimp only;omega)) x5 w2 x6 (by constructor<;>simp[Sx.op,Sx.name,Sx.index,Sx.arg,Sx.els,Sx.body]),L.trans x2,x3⟩
 refine aY (λx=>x.2=(m0,N,(0,0,[],[],0,0,[]),h)/\(x.1=J->1<=d)) ?_ ?_
 .refine aJ (λ_=>aj ⟨rfl,λg=>?_⟩) λ_=>aj ⟨rfl,nofun⟩
  dsimp only at g;rw[te]at g;omega
 rintro⟨b,x⟩ ⟨e,hb⟩;dsimp only at e hb;subst e;refine aO (λA=>?_) λ_=>?_
 .have d1:=hb A;refine aV (Kd _) (aV (QR _) (aV (HL _ _ _) ?_));dsimp only;rw[ed,ed1 d1];refine aw (hS d1 1 _ N h (by omega) L.p (by omega)) λz hz=>?_
  obtain⟨m3,t3,h3,l⟩:=z;obtain⟨w1,w2,w3,w4⟩:=hz;dsimp only at w1 w2 w3 w4;rw[dd d1]at w2;refine bh (by simp) ?_;refine aV (Kd _) (aV (QR _) (aV (HL _ _ _) (aV (vn _ _) ?_)));refine a! (aj ?_);dsimp only;rw[fB,fB,AU];refine ⟨GS.we (GE.bin (by omega) (GE.nm (by decide) 2) (GE.num _ 2)) (by simp;omega) (by simp) (λx hx=>?_) (λx hx=>(by cases hx)) (by constructor<;>simp[Sx.op,Sx.name,Sx.index,Sx.arg,Sx.els,Sx.body]),L.trans w3,w4⟩;rcases bG.1 hx with hx|hx
  .exact w2 x hx
  .rw[aE]at hx;subst hx;rw[<- dd d1];exact GS.asg (by decide) (GE.bin (by omega) (GE.nm (by decide) 2) (GE.num _ 2))
 refine aY (λx=>x.2=(m0,N,(0,0,[],[],0,0,[]),h)/\(x.1=J->nest=J/\(k=8\/k=9))) ?_ ?_
 .refine aJ (λg=>aO (λgn=>?_) λ_=>aj ⟨rfl,nofun⟩) λ_=>aJ (λg=>aO (λgn=>?_) λ_=>aj ⟨rfl,nofun⟩) λ_=>aj ⟨rfl,nofun⟩
  all_goals
   dsimp only at g ⊢;rw[w8 (by omega)];refine aN (by omega) (by simp;omega) (aN (by omega) (by simp;omega) (aS ?_));refine aw (Fm _ m0 N h (by omega)) λy D=>?_
   obtain⟨yb,y2⟩:=y;dsimp only at D;subst D;exact bh (by simp) (aj ⟨rfl,λ_=>⟨gn,by omega⟩⟩)
 rintro⟨b,x⟩ ⟨e,hb⟩;dsimp only at e hb;subst e;refine aO (λA=>?_) λ_=>?_
 .obtain⟨q1,q2⟩:=hb A;have d1:=hn q1;have hnm:geti (.str) [[109],[110]] (k-8)=[109]\/geti (.str) [[109],[110]] (k-8)=[110]:=by rcases q2 with rfl|rfl<;>simp[geti]
  dsimp only;rw[w8 (by omega),ed,ed1 d1];refine aN (by omega) (by simp;omega) (aN (by omega) (by simp;omega) (aS ?_));refine aw (hB d1 _ m0 N h L.p (by omega)) λz hz=>?_
  obtain⟨l,m3,t3,h3⟩:=z;obtain⟨w1,w2,w3,w4⟩:=hz;dsimp only at w1 w2 w3 w4;rw[dd d1]at w2;exact bh (by simp) (aj ⟨GS.wo (by omega) (by first|omega|(dsimp only;omega)) w2 (by constructor<;>simp[Sx.op,Sx.name,Sx.index,Sx.arg,Sx.els,Sx.body];exact hnm),L.trans w3,w4⟩)
 refine aY (λx=>x.2=(m0,N,(0,0,[],[],0,0,[]),h)/\(x.1=J->nest=J/\(k=10\/k=11))) ?_ ?_
 .refine aJ (λg=>aO (λgn=>?_) λ_=>aj ⟨rfl,nofun⟩) λ_=>aJ (λg=>aO (λgn=>?_) λ_=>aj ⟨rfl,nofun⟩) λ_=>aj ⟨rfl,nofun⟩
  all_goals
   dsimp only at g ⊢;refine aw (Fm _ m0 N h (by omega)) λy D=>?_
   obtain⟨yb,y2⟩:=y;dsimp only at D;subst D;exact bh (by simp) (aj ⟨rfl,λ_=>⟨gn,by omega⟩⟩)
 rintro⟨b,x⟩ ⟨e,hb⟩;dsimp only at e hb;subst e;refine aO (λA=>?_) λ_=>?_
 .obtain⟨q1,q2⟩:=hb A;have d1:=hn q1;dsimp only;rw[ed,ed1 d1,iW (n:=k-10) (by omega) (by omega),iW (n:=k-10+5) (by omega) (by omega)];refine aw (hB d1 _ m0 N h L.p (by omega)) λz hz=>?_
  obtain⟨l,m3,t3,h3⟩:=z;obtain⟨w1,w2,w3,w4⟩:=hz;dsimp only at w1 w2 w3 w4;rw[dd d1]at w2;exact bh (by simp) (aj ⟨GS.wo (by omega) (by first|omega|(dsimp only;omega)) w2 (by constructor<;>simp[Sx.op,Sx.name,Sx.index,Sx.arg,Sx.els,Sx.body]<;>omega),L.trans w3,w4⟩)
 refine aY (λx=>x.2=(m0,N,(0,0,[],[],0,0,[]),h)/\(x.1=J->nest=J)) ?_ ?_
 .exact aJ (λ_=>aj ⟨rfl,λg=>g⟩) λ_=>aj ⟨rfl,nofun⟩
 rintro⟨b,x⟩ ⟨e,hb⟩;dsimp only at e hb;subst e;refine aO (λA=>?_) λ_=>?_
 .have d1:=hn (hb A);refine aw (gF 2 N L.p) λy D=>?_
  obtain⟨u1,u2,u3,_⟩:=D;have u3:=u3 (by decide);dsimp only;rw[iW (n:=1+y.1) (by omega) (by omega)];refine aw (h0 d1 (1+y.1) _ y.2 h (by omega) u1.p (by omega)) λz hz=>?_
  obtain⟨m3,t3,h3,l⟩:=z;obtain⟨w1,w2,w3,w4⟩:=hz;dsimp only at w1 w2 w3 w4;exact bh (by simp) (aj ⟨GS.wo (by omega) (by first|omega|(dsimp only;omega)) (λx hx=>(w2 x hx).le (by omega)) (by constructor<;>simp[Sx.op,Sx.name,Sx.index,Sx.arg,Sx.els,Sx.body]),L.trans (u1.trans w3),w4⟩)
 refine aY (λx=>x.2=(m0,N,(0,0,[],[],0,0,[]),h)/\(x.1=J->nest=J)) ?_ ?_
 .exact aJ (λ_=>aO (λgn=>aj ⟨rfl,λ_=>gn⟩) λ_=>aj ⟨rfl,nofun⟩) λ_=>aj ⟨rfl,nofun⟩
 rintro⟨b,x⟩ ⟨e,hb⟩;dsimp only at e hb;subst e;refine aO (λA=>?_) λ_=>?_
 .have d1:=hn (hb A);dsimp only;rw[ed,ed1 d1];refine aw (hS d1 2 _ N h (by omega) L.p (by omega)) λz hz=>?_
  obtain⟨m3,t3,h3,l⟩:=z;obtain⟨w1,w2,w3,w4⟩:=hz;dsimp only at w1 w2 w3 w4;rw[dd d1]at w2;exact bh (by simp) (aj ⟨GS.wo (by omega) (by first|omega|(dsimp only;omega)) w2 (by constructor<;>simp[Sx.op,Sx.name,Sx.index,Sx.arg,Sx.els,Sx.body]),L.trans w3,w4⟩)
 refine aY (λx=>x.2=(m0,N,(0,0,[],[],0,0,[]),h)/\(x.1=J->nest=J)) ?_ ?_
 .refine aJ (λ_=>aO (λgn=>aO (λ_=>?_) λ_=>aj ⟨rfl,nofun⟩) λ_=>aj ⟨rfl,nofun⟩) λ_=>aj ⟨rfl,nofun⟩
  refine aw (Fm _ m0 N h (by omega)) λy D=>?_
  obtain⟨yb,y2⟩:=y;dsimp only at D;subst D;exact bh (by simp) (aj ⟨rfl,λ_=>gn⟩)
 rintro⟨b,x⟩ ⟨e,hb⟩;dsimp only at e hb;subst e;refine aO (λA=>?_) λ_=>?_
 .have d1:=hn (hb A);refine aV (Kd _) (aV (vn _ _) (aj ?_));dsimp only;rw[fB,AU];refine ⟨GS.wo (by omega) (by simp) (λx hx=>?_) (by constructor<;>simp[Sx.op,Sx.name,Sx.index,Sx.arg,Sx.els,Sx.body]),L,rfl⟩;simp only[aZ,cu,fJ]at hx;rw[<- dd d1];rcases hx with rfl|rfl
  .exact GS.wo (by omega) (by simp) (λx hx=>(by cases hx)) (by constructor<;>simp[Sx.op,Sx.name,Sx.index,Sx.arg,Sx.els,Sx.body])
  .exact GS.asg (by decide) (GE.nm (by decide) 3)
 refine aY (λx=>x.2=(m0,N,(0,0,[],[],0,0,[]),h)/\(x.1=J->nest=J)) ?_ ?_
 .refine aJ (λ_=>aO (λgn=>?_) λ_=>aj ⟨rfl,nofun⟩) λ_=>aj ⟨rfl,nofun⟩
  refine aw (Fm _ m0 N h (by omega)) λy D=>?_
  obtain⟨yb,y2⟩:=y;dsimp only at D;subst D;exact bh (by simp) (aj ⟨rfl,λ_=>gn⟩)
 rintro⟨b,x⟩ ⟨e,hb⟩;dsimp only at e hb;subst e;refine aO (λA=>?_) λ_=>?_
 .have d1:=hn (hb A);refine aw (gF 2 N L.p) λy D=>aj ?_
  obtain⟨u1,u2,u3,_⟩:=D;have u3:=u3 (by decide);dsimp only;rw[iW (n:=10+y.1) (by omega) (by omega)];refine ⟨GS.wo (by omega) (by simp) (λx hx=>?_) (by constructor<;>simp[Sx.op,Sx.name,Sx.index,Sx.arg,Sx.els,Sx.body]),L.trans u1,rfl⟩;simp only[aZ,cu,fJ]at hx;rw[hx,<-dd d1];exact GS.wo (by omega) (by simp) (λx hx=>(by cases hx)) (by constructor<;>simp[Sx.op,Sx.name,Sx.index,Sx.arg,Sx.els,Sx.body]<;>omega)
 refine aY (λx=>x.2=(m0,N,(0,0,[],[],0,0,[]),h)) ?_ ?_
 .exact aJ (λ_=>aO (λ_=>aO (λ_=>aj rfl) λ_=>aj rfl) λ_=>aj rfl) λ_=>aj rfl
 rintro⟨b,x⟩ e;dsimp only at e;subst e;refine aO (λA=>?_) λ_=>?_
 .refine aw (hE 1 _ N h (by omega) L.p) λz hz=>?_
  obtain⟨e,m2,t2,h2⟩:=z;obtain⟨v1,v2,v3,v4⟩:=hz;dsimp only at v1 v2 v3 v4;subst v2 v4;refine bh (by simp) (aj ?_);dsimp only;rw[fB];exact⟨GS.we v1 (by simp) (by simp) (λx hx=>(by cases hx)) (λx hx=>(by cases hx)) (by constructor<;>simp[Sx.op,Sx.name,Sx.index,Sx.arg,Sx.els,Sx.body]),L.trans v3,rfl⟩
 refine aY (λx=>x.2.1=m0/\wC N x.2.2.1/\x.2.2.2.2=h) ?_ ?_
 .refine aJ (λ_=>aO (λ_=>?_) λ_=>aj ⟨rfl,wC.refl L.p,rfl⟩) λ_=>aj ⟨rfl,wC.refl L.p,rfl⟩
  exact aw (gF 2 N L.p) λy D=>aj ⟨rfl,D.1,rfl⟩
 rintro⟨b,m9,t9,z9,h9⟩ ⟨e1,e2,e3⟩;dsimp only at e1 e2 e3;subst e1 e3;refine aO (λA=>?_) λ_=>?_
 .exact aj ⟨GS.wo (by omega) (by simp) (λx hx=>(by cases hx)) (by constructor<;>simp[Sx.op,Sx.name,Sx.index,Sx.arg,Sx.els,Sx.body]),L.trans e2,rfl⟩
 refine aw (hE 1 _ t9 h9 (by omega) e2.p) λz hz=>?_
 obtain⟨e,m2,t2,h2⟩:=z;obtain⟨v1,v2,v3,v4⟩:=hz;dsimp only at v1 v2 v3 v4;subst v2 v4;refine bh (by simp) (aV (vn _ _) (aj ?_));dsimp only;rw[fB,AU];exact⟨GS.asg (by decide) v1,L.trans (e2.trans v3),rfl⟩
def PA:∀(n:Nat),(∀d:Nat,d<=5->3*d+1<=n->SpT nT (eS n) d)/\(∀d:Nat,d<=5->3*d+2<=n->SpS nT (dR n) d)/\(∀d:Nat,d<=5->3*d+3<=n->SpB nT (eu n) d)
 |0=>⟨λd _ h=>by omega,λd _ h=>by omega,λd _ h=>by omega⟩
 |n+1=>by
  obtain⟨D,z,L⟩:=PA n;refine ⟨λd h1 A=>?_,λd h1 A=>?_,λd h1 A=>?_⟩
  .exact afy (dR n) (eS n) (eu n) d h1 (λh=>z 0 (by omega) (by omega)) (λh=>z (d-1) (by omega) (by omega)) (λh=>L (d-1) (by omega) (by omega))
  .exact ab3 (dR n) (eS n) (eu n) d (D d h1 (by omega))
  .exact ab6 (dR n) (eS n) (eu n) d (z d h1 (by omega))
def aal (d:Nat) (hd:d<=5):SpS nT rL d:=(PA fuel).2.1 d hd (by rw[kP];omega)
end
def GX:Nat->Xp->Prop
 |0,_=>False
 |d+1,e=>l! e.l<=2/\∀x∈e.l,GX d x
def GE.x:∀{d:Nat} {e:Xp},GE d e->GX d e
 |0,_,h=>h.elim
 |_+1,_,h=>⟨h.2.2.1,λx z=>(h.2.2.2.1 x z).x⟩
def ZE.x {e:Xp} (h:ZE e):GX 4 e:=by
 rcases h with h|rfl
 .exact h.x
 .exact⟨by simp[Xp.l],λx z=>(by cases z)⟩
def GT:Nat->Sx->Prop
 |0,_=>False
 |d+1,s=>l! s.index<=1/\(∀e∈s.index,GX 4 e)/\GX 4 s.expr/\l! s.body<=8/\l! s.els<=8/\(∀x∈s.body,GT d x)/\(∀x∈s.els,GT d x)
def GS.t {nT:Nat}:∀{d:Nat} {s:Sx},GS nT d s->GT d s
 |0,_,h=>h.elim
 |_+1,_,⟨_,b,c,_,f,g,i,j,k,_⟩=>⟨b,λe he=>(c e he).x,f.x,g,i,λx z=>(j x z).t,λx z=>(k x z).t⟩
def Ah (s:Sx):pa (Sx.op s,Sx.line s,Sx.name s,Sx.arg s,Sx.index s,eD (Xp.op (Sx.expr s),Xp.n (Sx.expr s),Xp.name (Sx.expr s),Xp.l (Sx.expr s)),Sx.body s,Sx.els s)=s:=by
 rw[fB,AU]
def Wc (k:Int):Ok (nC k) λ_=>True:=by
 unfold nC bq kq aH;with_reducible repeat' first|apply OS.ok;constructor|refine IM.mk λ_=>?_
 all_goals trivial
def r9 (e:Xp):Ok (qK e) λ_=>True:=by
 unfold qK bq aH;with_reducible repeat' first|apply OS.ok;constructor|refine IM.mk λ_=>?_
 all_goals trivial
def Bz:∀(n d:Nat) (e:Xp),d<n->GX d e->Ok (iy n e) λ_=>True
 |0,_,_,h,_=>by omega
 |n+1,0,_,_,h=>h.elim
 |n+1,d+1,e,hn,h=>by
  obtain⟨h1,N⟩:=h;rw[tP];unfold ng bq bS i_ bX c5 aH cW;refine aY (λx=>x.2=e) (aJ (λ_=>aj (fB e)) λ_=>aj (fB e)) ?_;rintro⟨b,x⟩ L;dsimp only at L;subst L;refine aY (λy=>y.2=x) ?_ ?_
  .refine aw (Wc _) λ_ _=>?_
   with_reducible repeat' first|refine cz (λ_=>?_) λ_=>?_|refine bW (λ_=>?_) λ_=>?_|refine eJ (λ_=>?_) λ_=>?_|refine aO (λ_=>?_) λ_=>?_|exact aj (fB x)|refine aw (iQ _) λ_ _=>?_
  rintro⟨b2,y⟩ D;dsimp only at D;subst D;refine aO (λ_=>aj trivial) λ_=>?_
  refine cH (l! y.l) (λi x=>x.1=(i:Int)/\x.2=y) ?_ ?_ ⟨rfl,fB y⟩
  .rintro i ⟨a,z⟩ hi ⟨A,e2⟩;dsimp only at A e2;subst A e2;refine dy ?_;refine cY (aS ?_);refine aw (Bz n d _ (by omega) (N _ (b8 (T:=.ex) (xs:=z.l) (j:=(i:Int)) (by omega) (by omega)))) λ_ _=>?_
   refine eJ (λ_=>aj trivial) λ_=>aj ?_
   dsimp only;exact⟨gM,fB z⟩
  .rintro⟨a,z⟩ ⟨A,e2⟩;dsimp only at A e2;subst A e2;exact du (aj trivial)
def gE (e:Xp) (h:GX 4 e):Ok (jN e) λ_=>True:=Bz fuel 4 e (by rw[kP];omega) h
abbrev R!:=Int×Int×ζ×Int×Int×ζ
def NR (d:R!):Ok (kZ d) λ_=>True:=by
 unfold kZ a8 bt cA fD bq bS i_ aH;refine aY (λ_=>True) ?_ λx _=>aO (λ_=>aj trivial) λ_=>?_
 .with_reducible repeat' first|refine cz (λ_=>?_) λ_=>?_|refine bW (λ_=>?_) λ_=>?_|refine eJ (λ_=>?_) λ_=>?_|exact aj trivial|refine aw (iQ _) λ_ _=>?_
 refine aY (λ_=>True) ?_ λx _=>aO (λ_=>aj trivial) λ_=>?_
 .with_reducible repeat' first|refine cz (λ_=>?_) λ_=>?_|refine aJ (λ_=>?_) λ_=>?_|refine eJ (λ_=>?_) λ_=>?_|exact aj trivial|refine aw (iQ _) λ_ _=>?_
 with_reducible repeat' first|apply OS.ok;constructor|refine IM.mk λ_=>?_
 all_goals trivial
def Jz (z:Sx->M Bool) (A:Y Sx->M Bool) (l:Y Sx) (D:l! l<=1000) (h:∀s∈l,Ok (z s) λ_=>True):Ok (kn z A l) λ_=>True:=by
 unfold kn bS pu bf c5 aH cW;refine cH (l! l) (λi x=>x=(i:Int)) ?_ ?_ rfl
 .rintro i x hi rfl;refine dy ?_;refine cY ?_;refine aw (h _ (b8 (T:=.sm) (xs:=l) (j:=(i:Int)) (by omega) (by omega))) λ_ _=>?_
  exact eJ (λ_=>aj trivial) λ_=>aj gM
 .rintro x rfl;exact du (aj trivial)
def L1 (D:Sx->M Bool) (A:Y Sx->M Bool) (s:Sx) (h1:∀e∈s.index,GX 4 e) (N:GX 4 s.expr) (L:Ok (A s.body) λ_=>True) (he:Ok (A s.els) λ_=>True):Ok (lb D A s) λ_=>True:=by
 unfold lb bq bS kq i_ bX aH eH;refine aY (λx=>x.2=s) ?_ ?_
 .with_reducible repeat' first|refine cz (λ_=>?_) λ_=>?_|refine aJ (λ_=>?_) λ_=>?_|refine bW (λ_=>?_) λ_=>?_|refine fF (λ_=>?_) λ_=>?_|refine eJ (λ_=>?_) λ_=>?_|refine aO (λ_=>?_) λ_=>?_|exact aj (Ah _)|refine aw (iQ _) λ_ _=>?_|refine aw (r9 _) λ_ _=>?_|refine aw (gE _ h2x) λ_ _=>?_
 rintro⟨b,x⟩ z;dsimp only at z;have z:=z.symm;subst z;refine aO (λ_=>aj trivial) λ_=>?_
 refine aY (λx=>x.2=s) ?_ ?_
 .with_reducible repeat' first|refine cz (λ_=>?_) λ_=>?_|refine aJ (λ_=>?_) λ_=>?_|refine bW (λ_=>?_) λ_=>?_|refine fF (λ_=>?_) λ_=>?_|refine eJ (λ_=>?_) λ_=>?_|refine aO (λ_=>?_) λ_=>?_|exact aj (Ah _)|refine aw (iQ _) λ_ _=>?_|refine aw (r9 _) λ_ _=>?_|refine aw (gE _ h2x) λ_ _=>?_
 rintro⟨b,x⟩ z;dsimp only at z;have z:=z.symm;subst z;refine aY (λx=>x.2=s) ?_ ?_
 .with_reducible repeat' first|refine cz (λ_=>?_) λ_=>?_|refine aJ (λ_=>?_) λ_=>?_|refine bW (λ_=>?_) λ_=>?_|refine fF (λ_=>?_) λ_=>?_|refine eJ (λ_=>?_) λ_=>?_|refine aO (λ_=>?_) λ_=>?_|exact aj (Ah _)|refine aw (iQ _) λ_ _=>?_|refine aw (r9 _) λ_ _=>?_|refine aw (gE _ h2x) λ_ _=>?_
 rintro⟨b,x⟩ z;dsimp only at z;have z:=z.symm;subst z;refine aO (λ_=>aj trivial) λ_=>?_
 refine aY (λx=>x.2=s) ?_ ?_
 .with_reducible repeat' first|refine cz (λ_=>?_) λ_=>?_|refine aJ (λ_=>?_) λ_=>?_|refine bW (λ_=>?_) λ_=>?_|refine fF (λ_=>?_) λ_=>?_|refine eJ (λ_=>?_) λ_=>?_|refine aO (λ_=>?_) λ_=>?_|exact aj (Ah _)|refine aw (iQ _) λ_ _=>?_|refine aw (r9 _) λ_ _=>?_|refine aw (gE _ h2x) λ_ _=>?_
 rintro⟨b,x⟩ z;dsimp only at z;have z:=z.symm;subst z;refine aO (λ_=>aj trivial) λ_=>?_
 refine aY (λx=>x.2=s) ?_ ?_
 .with_reducible repeat' first|refine cz (λ_=>?_) λ_=>?_|refine aJ (λ_=>?_) λ_=>?_|refine bW (λ_=>?_) λ_=>?_|refine fF (λ_=>?_) λ_=>?_|refine eJ (λ_=>?_) λ_=>?_|refine aO (λ_=>?_) λ_=>?_|exact aj (Ah _)|refine aw (iQ _) λ_ _=>?_|refine aw (r9 _) λ_ _=>?_|refine aw (gE _ h2x) λ_ _=>?_
  all_goals
   rename_i g;dsimp only[al]at g;refine cY (aS ?_);refine aw (gE _ (h1 _ (b8 (T:=.ex) (xs:=Sx.index _) (j:=0) (by omega) (by omega)))) λ_ _=>aj (Ah _)
 rintro⟨b,x⟩ z;dsimp only at z;have z:=z.symm;subst z;refine aO (λ_=>aj trivial) λ_=>?_
 refine aY (λx=>x.2=s) ?_ ?_
 .with_reducible repeat' first|refine cz (λ_=>?_) λ_=>?_|refine aJ (λ_=>?_) λ_=>?_|refine bW (λ_=>?_) λ_=>?_|refine fF (λ_=>?_) λ_=>?_|refine eJ (λ_=>?_) λ_=>?_|refine aO (λ_=>?_) λ_=>?_|exact aj (Ah _)|refine aw (iQ _) λ_ _=>?_|refine aw (r9 _) λ_ _=>?_|refine aw (gE _ h2x) λ_ _=>?_
 rintro⟨b,x⟩ z;dsimp only at z;have z:=z.symm;subst z;refine aY (λx=>x.2=s) ?_ ?_
 .have h2x:GX 4 (eD (Xp.op (Sx.expr s),Xp.n (Sx.expr s),Xp.name (Sx.expr s),Xp.l (Sx.expr s))):=by rw[fB];exact N
  with_reducible repeat' first|refine cz (λ_=>?_) λ_=>?_|refine aJ (λ_=>?_) λ_=>?_|refine bW (λ_=>?_) λ_=>?_|refine fF (λ_=>?_) λ_=>?_|refine eJ (λ_=>?_) λ_=>?_|refine aO (λ_=>?_) λ_=>?_|exact aj (Ah _)|refine aw (iQ _) λ_ _=>?_|refine aw (r9 _) λ_ _=>?_|refine aw (gE _ h2x) λ_ _=>?_
 rintro⟨b,x⟩ z;dsimp only at z;have z:=z.symm;subst z;refine aO (λ_=>aj trivial) λ_=>?_
 refine aY (λx=>x.2=s) ?_ ?_
 .with_reducible repeat' first|refine cz (λ_=>?_) λ_=>?_|refine aJ (λ_=>?_) λ_=>?_|refine bW (λ_=>?_) λ_=>?_|refine fF (λ_=>?_) λ_=>?_|refine eJ (λ_=>?_) λ_=>?_|refine aO (λ_=>?_) λ_=>?_|exact aj (Ah _)|refine aw (iQ _) λ_ _=>?_|refine aw (r9 _) λ_ _=>?_|refine aw (gE _ h2x) λ_ _=>?_
 rintro⟨b,x⟩ z;dsimp only at z;have z:=z.symm;subst z;refine aY (λx=>x.2=s) ?_ ?_
 .with_reducible repeat' first|refine cz (λ_=>?_) λ_=>?_|refine aJ (λ_=>?_) λ_=>?_|refine bW (λ_=>?_) λ_=>?_|refine fF (λ_=>?_) λ_=>?_|refine eJ (λ_=>?_) λ_=>?_|refine aO (λ_=>?_) λ_=>?_|exact aj (Ah _)|refine aw (iQ _) λ_ _=>?_|refine aw (r9 _) λ_ _=>?_|refine aw (gE _ h2x) λ_ _=>?_
 rintro⟨b,x⟩ z;dsimp only at z;have z:=z.symm;subst z;refine aO (λ_=>aj trivial) λ_=>?_
 refine aY (λ_=>True) ?_ λ_ _=>aj trivial
 refine aw L λ_ _=>aO (λ_=>aw he λ_ _=>aj trivial) λ_=>aj trivial
def Ma:∀(n:Nat),(∀(d:Nat) (s:Sx),2*d<n->GT d s->Ok (eQ n s) λ_=>True)/\(∀(d:Nat) (l:Y Sx),2*d+1<n->l! l<=1000->(∀s∈l,GT d s)->Ok (dN n l) λ_=>True)
 |0=>⟨λd _ h=>by omega,λd _ h=>by omega⟩
 |n+1=>by
  obtain⟨L,z⟩:=Ma n;refine ⟨λd s hd h=>?_,λd l hd D h=>?_⟩
  .cases d with
   |zero=>exact h.elim
   |succ d=>
    obtain⟨_,g2,g3,g4,g5,g6,N⟩:=h;exact L1 (eQ n) (dN n) s g2 g3 (z d _ (by omega) (by omega) g6) (z d _ (by omega) (by omega) N)
  .exact Jz (eQ n) (dN n) l D λs A=>L d s (by omega) (h s A)
def Nr (d:Nat) (hd:d<=100) (l:Y Sx) (z:l! l<=1000) (h:∀s∈l,GT d s):Ok (o9 l) λ_=>True:=(Ma fuel).2 d l (by rw[kP];omega) z h
abbrev DT:Type:=R!
abbrev HT:Type:=ζ×Int×Y ζ×Y Sx
abbrev PG:Type:=Y DT×Y HT
structure PX (p:PG):Prop where
 d:l! p.1<=100
 t:l! p.2<=8
 l:∀t∈p.2,l! t.2.2.1<=100
 b:∀t∈p.2,l! t.2.2.2<=100
 s:∀t∈p.2,∀s∈t.2.2.2,GT 5 s
def aci (p:PG) (h:PX p):Ok (qU p) λ_=>True:=by
 obtain⟨hd,ht,hl,hb,hs⟩:=h;unfold qU a8 bI dj bS bX bf c5 aH cW;refine cH (l! p.1) (λi x=>x.1=(i:Int)/\x.2=p) ?_ ?_ ⟨rfl,rfl⟩
 .rintro i ⟨a,x⟩ hi ⟨A,e2⟩;dsimp only at A e2;subst A e2;refine dy ?_;refine cY (aS ?_);refine aw (NR _) λ_ _=>?_
  exact eJ (λ_=>aj trivial) λ_=>aj ⟨gM,rfl⟩
 rintro⟨a,x⟩ ⟨A,e2⟩;dsimp only at A e2;subst A e2;refine du ?_;refine aw (P:=λ_=>True) ?_ λ_ _=>aj trivial
 refine cH (l! x.2) (λi y=>y.1=(i:Int)/\y.2=x) ?_ ?_ ⟨rfl,rfl⟩
 .rintro i ⟨a,x⟩ hi ⟨A,e2⟩;dsimp only at A e2;subst A;have e2:=e2.symm;subst e2;refine dy ?_;refine cY (aS ?_);have hm:=b8 (T:=uu) (xs:=x.2) (j:=(i:Int)) (by omega) (by omega);have h1:=hl _ hm;have h2:=hb _ hm;have N:=hs _ hm;revert h1 h2 N;generalize (geti uu x.2 (i:Int))=t;intro h1 h2 N;refine cH (l! t.2.2.1) (λk y=>y.1=(k:Int)/\y.2=(x,t)) ?_ ?_ ⟨rfl,rfl⟩
  .rintro k ⟨a,z⟩ hk ⟨L,D⟩;dsimp only at L D;subst L D;refine dy ?_;refine cY (aS ?_);refine aw (iQ _) λ_ _=>?_
   exact eJ (λ_=>aj trivial) λ_=>aj ⟨gM,rfl⟩
  .rintro⟨a,z⟩ ⟨L,D⟩;dsimp only at L D;subst L D;refine du ?_;refine aw (P:=λr=>match r with|.inl y=>y.1=((i+1:Nat):Int)/\y.2=x|.inr _=>True) ?_ ?_
   .refine aY (λy=>y.2=x) ?_ ?_
    .refine aw (iQ _) λ_ _=>eJ (λ_=>aj rfl) λ_=>?_
     exact aw (Nr 5 (by omega) _ (by dsimp only;omega) N) λ_ _=>aj rfl
    rintro⟨b,y⟩ e;dsimp only at e;subst e;exact aO (λ_=>aj trivial) λ_=>aj ⟨gM,rfl⟩
   .rintro (y|y) hy
    .exact aj hy
    .exact aj trivial
 .rintro⟨a,y⟩ ⟨A,e2⟩;dsimp only at A e2;subst A e2;exact du (aj trivial)
def yQ (l:Y DT) (s:ζ) (z:l! l<=1000):Ok (iw (l,s)) λr=> -1<=r/\r<(l! l:Int):=by
 unfold iw bS bX bf c5 aH cW;refine cH (l! l) (λi x=>x=(i:Int)) ?_ ?_ rfl
 .rintro i x hi rfl;refine dy ?_;refine cY (aS ?_);exact aJ (λ_=>aj ⟨by omega,by omega⟩) λ_=>aj gM
 .rintro x rfl;exact du (aj ⟨by omega,by omega⟩)
def tW (l:Y HT) (s:ζ) (z:l! l<=1000):Ok (hY (l,s)) λr=> -1<=r/\r<(l! l:Int):=by
 unfold hY bS bX bf c5 aH cW;refine cH (l! l) (λi x=>x=(i:Int)) ?_ ?_ rfl
 .rintro i x hi rfl;refine dy ?_;refine cY (aS ?_);exact aJ (λ_=>aj ⟨by omega,by omega⟩) λ_=>aj gM
 .rintro x rfl;exact du (aj ⟨by omega,by omega⟩)
def DD (p:PG) (s:ζ):Prop:=∃v,iw (p.1,s)=Z v/\0<=v/\v<(l! p.1:Int)
def act (p:PG) (h:PX p) (t:Int) (s:ζ):Ok (qT (p,t,s)) λk=>k≠0->k≠7->k≠8->DD p s:=by
 have hd:=h.d;have ht:=h.t;unfold qT bq bS kq i_ pu bX bf aH;refine aY (λx=>x.2=p) ?_ ?_
 .refine fF (λL=>bW (λD=>?_) λ_=>aj rfl) λ_=>aj rfl
  dsimp only[al]at L D;refine aN L D (aS ?_);have hm:=h.l _ (b8 (T:=uu) (xs:=p.2) (j:=t) L D);exact aw (AD _ s (c8 hm (by omega))) λ_ _=>aj rfl
 rintro⟨b,x⟩ e;dsimp only at e;have e:=e.symm;subst e;refine aO (λ_=>aj λ_ _ h=>(h rfl).elim) λ_=>?_
 obtain⟨v,N,v0,A⟩:=yQ p.1 s (by omega);refine aV N ?_;refine bW (λ_=>?_) λg=>?_
 .exact aw (tW p.2 s (by omega)) λ_ _=>fF (λ_=>aj λ_ h=>(h rfl).elim) λ_=>aj λh=>(h rfl).elim
 have z:DD p s:=⟨v,N,g,A⟩
 refine aN g A (aS ?_);refine aJ (λ_=>?_) λ_=>?_
 .exact aN g A (aS (cz (λ_=>aj λ_ _ _=>z) λ_=>aj λ_ _ _=>z))
 refine aJ (λ_=>aj λ_ _ _=>z) λ_=>?_
 refine aY (λx=>x.2=p) (aJ (λ_=>aj rfl) λ_=>aJ (λ_=>aj rfl) λ_=>aJ (λ_=>aj rfl) λ_=>aj rfl) ?_;rintro⟨b,x⟩ e;dsimp only at e;have e:=e.symm;subst e;exact aO (λ_=>aN g A (aS (aj λ_ _ _=>z))) λ_=>aj λ_ _ _=>z
def pZ (p:PG) (h:PX p) (t:Int) (s:ζ) (a b:Int):Ok (gR (p,t,s,a,b)) λr=>r=0->(a≠7/\a≠8)->(b≠7/\b≠8)->DD p s:=by
 unfold gR a8 bt dJ bq i_ aH;refine aw (act p h t s) λk A=>?_
 refine aJ (λ_=>aj nofun) λg=>?_
 refine aY (λx=>x=aa->k=a\/k=b) ?_ ?_
 .refine cz (λ_=>aj λh=>?_) λh=>aj λ_=>.inl h
  simp at h;exact .inr h
 rintro x z;refine aO (λ_=>aj nofun) λh=>aj λ_ h1 D=>A g ?_ ?_
 .rcases z h with h|h<;>omega
 .rcases z h with h|h<;>omega
def PD:∀(n d:Nat) (e:Xp),d<n->GX d e->Ok (oL n e) λ_=>True
 |0,_,_,h,_=>by omega
 |n+1,0,_,_,h=>h.elim
 |n+1,d+1,e,L,h=>by
  obtain⟨h1,D⟩:=h;rw[Ap];unfold vT bS bX c5 aH cW;refine cH (l! e.l) (λi x=>x.1.2.2=(i:Int)/\x.2=e) ?_ ?_ ⟨rfl,fB e⟩
  .rintro i ⟨⟨a,b,c⟩,z⟩ hi ⟨A,e2⟩;dsimp only at A e2;subst A e2;refine dy ?_;refine cY (aS ?_);refine aw (PD n d _ (by omega) (D _ (b8 (T:=.ex) (xs:=z.l) (j:=(i:Int)) (by omega) (by omega)))) λ_ _=>aj ?_
   exact⟨gM,fB z⟩
  .rintro⟨⟨a,b,c⟩,z⟩ ⟨A,e2⟩;dsimp only at A e2;subst A e2;exact du (aj trivial)
def Io (p:PG) (hp:PX p) (t:Int):∀(n d:Nat) (e:Xp),d<n->GX d e->Ok (oK n (p,t,e)) λ_=>True
 |0,_,_,h,_=>by omega
 |n+1,0,_,_,h=>h.elim
 |n+1,d+1,e,hn,h=>by
  obtain⟨h1,h2⟩:=h;rw[Ao];unfold vS bq bS bX c5 aH cW;refine aY (λx=>x.2.1=p/\x.2.2=e) ?_ ?_
  .refine aJ (λ_=>aw (pZ p hp t _ _ _) λ_ _=>aj ⟨rfl,fB e⟩) λ_=>aJ (λ_=>aw (pZ p hp t _ _ _) λ_ _=>aj ⟨rfl,fB e⟩) λ_=>aj ⟨rfl,fB e⟩
  rintro⟨r,D,e'⟩ ⟨A,z⟩;dsimp only at A z;have A:=A.symm;subst A;have z:=z.symm;subst z;refine ru (λx=>((l! e.l:Int)-x.1.2).toNat) (λx=>0<=x.1.2/\x.2.1=p/\x.2.2=e) ?_ ⟨dC _,rfl,fB e⟩;rintro⟨⟨a,(b:Int)⟩,D,e'⟩ ⟨b0,A,z⟩;dsimp only at b0 A z;have A:=A.symm;subst A;have z:=z.symm;subst z;refine aY (λx=>x.2.1=p/\x.2.2=e/\(x.1=J->b<(l! e.l:Int))) ?_ ?_
  .exact bW (λg=>aj ⟨rfl,fB e,λ_=>g⟩) λ_=>aj ⟨rfl,fB e,nofun⟩
  rintro⟨c,D,e'⟩ ⟨A,z,L⟩;dsimp only at A z L;have A:=A.symm;subst A;have z:=z.symm;subst z;refine aO (λN=>?_) λ_=>aj trivial
  have g:=L N;refine aN b0 g (aS ?_);refine aw (Io p hp t n d _ (by omega) (h2 _ (b8 (T:=.ex) (xs:=e.l) (j:=b) b0 g))) λ_ _=>aj ?_
  dsimp only;rw[iW (n:=b+1) (by omega) (by omega)];exact⟨⟨by omega,rfl,fB e⟩,by omega⟩
def yP (p:PG) (hp:PX p) (t:Int) (e:Xp) (h:GX 4 e):Ok (nB (p,t,e)) λ_=>True:=by
 unfold nB bS aH;have D:GX 4 (eD (Xp.op e,Xp.n e,Xp.name e,Xp.l e)):=by rw[fB];exact h
 refine aw (gE _ D) λ_ _=>eJ (λ_=>aj trivial) λ_=>?_
 refine aw (PD fuel 4 _ (by rw[kP];omega) D) λ_ _=>?_
 refine aY (λx=>x.2.1=p/\x.2.2=e) (bW (λ_=>aj ⟨rfl,fB e⟩) λ_=>aj ⟨rfl,fB e⟩) ?_;rintro⟨r,L,e'⟩ ⟨A,z⟩;dsimp only at A z;have A:=A.symm;subst A;have z:=z.symm;subst z;exact aO (λ_=>aj trivial) λ_=>aw (Io p hp t fuel 4 _ (by rw[kP];omega) D) λ_ _=>aj trivial
def fM (b:Bool):Ok (dh b) λ_=>True:=by
 unfold dh;exact aO (λ_=>aj trivial) λ_=>aj trivial
def vx (x:ν):Ok (jK x) λr=>r=0->x.1=0/\x.2=0:=by
 unfold jK i_;exact cz (λh=>aj λz=>(h z).elim) λh=>aj λz=>⟨h,z⟩
abbrev WK:Type:=(Y DT×Y HT×Int)×(Bool×Y Sx)×Y ζ×Y ζ
def aar (a b:Int) (s:ζ) (w:WK) (h:l! w.2.1.2<=100):Ok (ep ((a,b,s),w)) λy=>y.2=w:=by
 unfold ep a8 bq bS ko bf c5 aH cW;refine cH (l! w.2.1.2) (λi x=>x.1=(i:Int)/\x.2=w) ?_ ?_ ⟨rfl,rfl⟩
 .rintro i ⟨c,x⟩ hi ⟨z,e2⟩;dsimp only at z e2;subst z;have e2:=e2.symm;subst e2;refine dy ?_;refine cY (cY (aS ?_));refine aY (λx=>x.2=w) ?_ ?_
  .refine aJ (λ_=>aJ (λ_=>aj rfl) λ_=>aj rfl) λ_=>aJ (λ_=>aJ (λ_=>aj rfl) λ_=>aj rfl) λ_=>aj rfl
  rintro⟨c,x⟩ e;dsimp only at e;have e:=e.symm;subst e;exact aO (λ_=>aj rfl) λ_=>aj ⟨gM,rfl⟩
 .rintro⟨c,x⟩ ⟨z,e2⟩;dsimp only at z e2;subst z;have e2:=e2.symm;subst e2;exact du (aj rfl)
def Ss:Nat->Sx->Nat
 |0,_=>0
 |d+1,s=>1+(s.body.map (Ss d)).sum+(s.els.map (Ss d)).sum
def oU (d:Nat) (l:Y Sx):Nat:=(l.map (Ss d)).sum
def KS:Nat->Nat
 |0=>0
 |d+1=>1+16*KS d
def Qx {f:R->Nat} :∀{l:Y R},(∀x∈l,f x<=i)->(l.map f).sum<=l! l*i
 |[],_=>by simp
 |x::r,h=>by
  have:=Qx (l:=r) λy z=>h y (bM _ z)
  have:=h x (cR ..);rw[bZ,List.sum_cons,bK,iD];omega
def Yp:∀{d:Nat} {s:Sx},GT d s->Ss d s<=KS d
 |0,_,h=>h.elim
 |d+1,s,⟨_,_,_,N,L,D,A⟩=>by
  have a:=Qx (f:=Ss d) (l:=s.body) λx z=>Yp (D x z)
  have b:=Qx (f:=Ss d) (l:=s.els) λx z=>Yp (A x z)
  have c:=cQ (KS d) N;have e:=cQ (KS d) L;show 1+_+_<=1+16*KS d;omega
def R2:∀{d:Nat} {s:Sx},GT d s->Ss (d+1) s=Ss d s
 |0,_,h=>h.elim
 |d+1,s,⟨_,_,_,_,_,D,A⟩=>by
  show 1+(s.body.map (Ss (d+1))).sum+(s.els.map (Ss (d+1))).sum=1+(s.body.map (Ss d)).sum+(s.els.map (Ss d)).sum;rw[gI λx z=>R2 (D x z),gI λx z=>R2 (A x z)]
def agk {l:Y Sx} (h:∀s∈l,GT i s):oU i l<=l! l*KS i:=Qx λx z=>Yp (h x z)
def yD {l:Y Sx} (hi:i<l! l):oU j (l.take (i+1))=oU j (l.take i)+Ss j (geti (.sm) l (i:Int)):=by
 unfold oU;rw[pJ (T:=.sm) hi,cJ,HZ];simp
def R3 {d:Nat} (l:Y Sx) (i:Nat):oU d (l.take i)<=oU d l:=by
 conv=>rhs;rw[<- Dz i l]
 unfold oU;rw[cJ,HZ];omega
def Hp:∀(n d:Nat) (l:Y Sx),d<n->l! l<=1000->(∀s∈l,GT d s)->KS d<=100000->oM n l=Z ((oU d l:Nat):Int)
 |0,_,_,h,_,_,_=>by omega
 |n+1,d,l,hn,A,h,N=>by
  refine cI ?_;rw[Aq];unfold vU bS pu bf c5 aH cW;have hb:=agk h;have L:=Nat.mul_le_mul A N;refine cH (l! l) (λi x=>x.2=(i:Int)/\x.1=(l! l:Int)-i+(oU d (l.take i):Nat)) ?_ ?_ ⟨rfl,by simp[oU]⟩
  .rintro i ⟨a,b⟩ hi ⟨z,e2⟩;dsimp only at z e2;subst z e2;have hp:=R3 (d:=d) l (i+1);rw[yD hi]at hp;refine dy ?_;refine cY (aS ?_);rw[yD hi];have hm:=h _ (b8 (T:=.sm) (xs:=l) (j:=(i:Int)) (by omega) (by omega));revert hm hp;generalize (geti (.sm) l (i:Int))=s;intro hp hm;cases d with
   |zero=>exact hm.elim
   |succ d=>
    obtain⟨_,_,_,g4,g5,g6,g7⟩:=hm;have hk:KS (d+1)=1+16*KS d:=rfl;have D:Ss (d+1) s=1+oU d s.body+oU d s.els:=rfl;rw[D]at hp ⊢;refine aV (Hp n d _ (by omega) (by omega) g6 (by omega)) ?_;refine cY (aS ?_);refine aV (Hp n d _ (by omega) (by omega) g7 (by omega)) (aj ⟨gM,?_⟩);dsimp only;rw[iW (n:=(l! l:Int)-i+(oU (d+1) (l.take i):Nat)+(oU d s.body:Nat)) (by omega) (by omega),iW];omega
  .rintro⟨a,b⟩ ⟨z,e2⟩;dsimp only at z e2;subst z e2;rw[cr];exact du (aj (by dsimp only;omega))
def XX (l:Y DT) (L:l! l<=100):Ok (sO l) λ_=>True:=by
 unfold sO a8 bt bI b_ dJ fD bq bS kq i_ bT bX bf c5 aH cW;refine cH (l! l) (λi x=>x.2.2.2.2=(i:Int)) ?_ ?_ rfl
 .rintro i ⟨a,b,c,d,e⟩ hi z;dsimp only at z;subst z;refine dy ?_;refine aY (λ_=>True) ?_ λx _=>aj gM
  refine cY (aS ?_);have htk:l! (dF (aQ (i:Int)) l)<=100:=by rw[bQ];omega
  refine db (a? (a? ?_));refine aw (yQ _ _ (c8 htk (by omega))) λv A=>?_
  refine fF (λ_=>aj trivial) λ_=>bW (λ_=>aj trivial) λ_=>?_
  refine aY (λ_=>True) ?_ λx _=>?_
  .refine aY (λ_=>True) (aJ (λ_=>aj trivial) λ_=>aj trivial) λx _=>aO (λ_=>aj trivial) λ_=>?_
   refine aY (λ_=>True) (aJ (λ_=>aj trivial) λ_=>aj trivial) λx _=>aO (λ_=>aj trivial) λ_=>?_
   exact aJ (λ_=>aj trivial) λ_=>aj trivial
  refine aY (λ_=>True) (bW (λ_=>aj trivial) λ_=>bW (λ_=>aj trivial) λ_=>bW (λ_=>aj trivial) λ_=>aj trivial) λx _=>aO (λ_=>aj trivial) λ_=>?_
  refine aJ (λ_=>?_) λ_=>aj trivial
  refine db (a? (a? ?_));refine aw (yQ _ _ (c8 htk (by omega))) λv A=>?_
  refine bW (λ_=>aj trivial) λg=>?_
  have D:=A.2;rw[bQ]at D;exact aN g (by dsimp only at D ⊢;omega) (aS (cz (λ_=>aj trivial) λ_=>aj trivial))
 .rintro⟨a,b,c,d,e⟩ z;dsimp only at z;subst z;exact du (aj trivial)
def Qu (p:PG) (h:PX p):Ok (o8 p) λ_=>True:=by
 have hd:=h.d;have ht:=h.t;unfold o8 a8 bt bI bS kq bT bX bf c5 aH cW;refine cH (l! p.2) (λi x=>x.1=(i:Int)/\x.2=p) ?_ ?_ ⟨rfl,rfl⟩
 .rintro i ⟨a,x⟩ hi ⟨A,e2⟩;dsimp only at A e2;subst A;have e2:=e2.symm;subst e2;refine dy ?_;refine cY (aS ?_);refine aY (λx=>x.2.1=p) ?_ ?_
  .refine aw (yQ _ _ (by dsimp only;omega)) λv N=>fF (λ_=>aj rfl) λ_=>?_
   refine db (a? (a? ?_));exact aw (tW _ _ (by rw[bQ];dsimp only;omega)) λ_ _=>aj rfl
  rintro⟨b,x,z⟩ e;dsimp only at e;have e:=e.symm;subst e;exact aO (λ_=>aj trivial) λ_=>aj ⟨gM,rfl⟩
 rintro⟨a,x⟩ ⟨A,e2⟩;dsimp only at A e2;subst A;have e2:=e2.symm;subst e2;refine du ?_;refine aw (P:=λ_=>True) ?_ λ_ _=>aj trivial
 refine cH (l! p.2) (λi x=>x.1=(i:Int)/\x.2=p) ?_ ?_ ⟨rfl,rfl⟩
 .rintro i ⟨a,x⟩ hi ⟨A,e2⟩;dsimp only at A e2;subst A;have e2:=e2.symm;subst e2;refine dy ?_;refine cY (aS ?_);have hm:=h.l _ (b8 (T:=uu) (xs:=p.2) (j:=(i:Int)) (by omega) (by omega));revert hm;generalize (geti uu p.2 (i:Int))=t;intro hm;refine bW (λ_=>aj trivial) λ_=>?_
  refine cH (l! t.2.2.1) (λk y=>y.1=(k:Int)/\y.2=(p,t)) ?_ ?_ ⟨rfl,rfl⟩
  .rintro k ⟨a,z⟩ hk ⟨L,D⟩;dsimp only at L D;subst L D;refine dy ?_;refine cY (aS ?_);refine aY (λx=>x.2=(p,t)) ?_ ?_
   .refine aw (yQ _ _ (by dsimp only;omega)) λv N=>fF (λ_=>aj rfl) λ_=>?_
    refine aw (tW _ _ (by dsimp only;omega)) λv N=>fF (λ_=>aj rfl) λ_=>?_
    refine db (a? (a? ?_));exact aw (AD _ _ (by rw[bQ];dsimp only;omega)) λ_ _=>aj rfl
   rintro⟨b,x⟩ e;dsimp only at e;subst e;exact aO (λ_=>aj trivial) λ_=>aj ⟨gM,rfl⟩
  .rintro⟨a,z⟩ ⟨L,D⟩;dsimp only at L D;subst L D;exact du (aj ⟨gM,rfl⟩)
 .rintro⟨a,x⟩ ⟨A,e2⟩;dsimp only at A e2;subst A;have e2:=e2.symm;subst e2;exact du (aj trivial)
structure WQ (w:WK) (y:Int×WK):Prop where
 p:y.2.1=w.1
 a:y.2.2.1=w.2.1
 s:l! y.2.2.2.1<=l! w.2.2.1+1
 t:l! y.2.2.2.2<=l! w.2.2.2+1
def WQ.same (w:WK) (e:Int):WQ w (e,w):=⟨rfl,rfl,Qo _,Qo _⟩
def ang (s:Sx) (D:Y DT) (T:Y HT) (t:Int) (A:Bool×Y Sx) (sp se:Y ζ) (hp:PX (D,T)) (hA:l! A.2<=100) (h1:l! sp<=100000000) (h2:l! se<=100000000) (L:∀e∈s.index,GX 4 e) (he:GX 4 s.expr):Ok (nA (s,((D,T,t),A,sp,se))) (WQ ((D,T,t),A,sp,se)):=by
 have hex:GX 4 (eD (Xp.op s.expr,Xp.n s.expr,Xp.name s.expr,Xp.l s.expr)):=by rw[fB];exact he
 have hin:∀(a b:Int) (n:ζ),Ok (ep ((a,b,n),((D,T,t),A,sp,se))) λy=>y.2=((D,T,t),A,sp,se):=λa b n=>aar a b n _ hA
 have hth:l! T<=1000:=by have:=hp.t;dsimp only at this;omega
 have hdl:l! D<=1000:=by have:=hp.d;dsimp only at this;omega
 have sm:∀e,WQ ((D,T,t),A,sp,se) (e,((D,T,t),A,sp,se)):=WQ.same _;unfold nA a8 bt bI cA b_ dJ dj fD bq kq i_ bT bX aH eH;refine aw (hin _ _ _) λy z=>?_
 obtain⟨b1,N⟩:=y;dsimp only at z;subst z;refine bh (by simp) ?_;refine aw (hin _ _ _) λy z=>?_
 obtain⟨b2,N⟩:=y;dsimp only at z;subst z;refine bh (by simp) ?_;refine aw (hin _ _ _) λy z=>?_
 obtain⟨b3,N⟩:=y;dsimp only at z;subst z;refine bh (by simp) ?_;refine aJ (λ_=>?_) λ_=>?_
 .refine aJ (λ_=>?_) λg=>?_
  .exact aw (pZ _ hp _ _ _ _) λ_ _=>aw (yP _ hp _ _ hex) λ_ _=>aw (vx _) λ_ _=>aj (sm _)
  .refine aw (pZ _ hp _ _ _ _) λ_ _=>?_
   dsimp only[al]at g;refine cY (aS ?_);refine aw (yP _ hp _ _ (L _ (b8 (T:=.ex) (xs:=s.index) (j:=0) (by omega) (by omega)))) λ_ _=>?_
   exact aw (yP _ hp _ _ hex) λ_ _=>aw (vx _) λ_ _=>aw (vx _) λ_ _=>aj (sm _)
 refine aY (λx=>x.2=((D,T,t),A,s,(D,T),sp,se)) (aJ (λ_=>aj (by dsimp only;rw[Ah])) λ_=>aj (by dsimp only;rw[Ah])) ?_;rintro⟨b,x⟩ e;dsimp only at e;subst e;refine aO (λ_=>aw (yP _ hp _ _ hex) λ_ _=>aj (sm _)) λ_=>?_
 refine aJ (λ_=>?_) λ_=>?_
 .refine aY (λx=>WQ ((D,T,t),A,sp,se) x) ?_ λx L=>aj L
  refine aw (pZ _ hp _ _ _ _) λ_ _=>aO (λ_=>?_) λ_=>?_
  .exact aw (fM _) λ_ _=>aw (vx _) λ_ _=>aj (sm _)
  .refine aw (hin _ _ _) λy z=>?_
   obtain⟨b4,N⟩:=y;dsimp only at z;subst z;exact bh (by simp) (aw (fM _) λ_ _=>aw (vx _) λ_ _=>aj (sm _))
 refine aY (λx=>x.2=((D,T,t),A,s,(D,T),sp,se)) (aJ (λ_=>aj (by dsimp only;rw[Ah])) λ_=>aj (by dsimp only;rw[Ah])) ?_;rintro⟨b,x⟩ e;dsimp only at e;subst e;refine aO (λ_=>?_) λ_=>?_
 .refine aY (λx=>WQ ((D,T,t),A,sp,se) x) ?_ λx L=>aj L
  refine aw (pZ _ hp _ _ _ _) λ_ _=>aO (λ_=>?_) λ_=>?_
  .exact aw (fM _) λ_ _=>aw (vx _) λ_ _=>aj (sm _)
  .refine aw (hin _ _ _) λy z=>?_
   obtain⟨b4,N⟩:=y;dsimp only at z;subst z;exact bh (by simp) (aw (fM _) λ_ _=>aw (vx _) λ_ _=>aj (sm _))
 refine aJ (λ_=>aw (fM _) λ_ _=>aj (sm _)) λ_=>?_
 refine aJ (λ_=>?_) λ_=>?_
 .refine aY (λx=>WQ ((D,T,t),A,sp,se) x) ?_ λx L=>aj L
  exact aO (λ_=>aw (fM _) λ_ _=>aj (sm _)) λ_=>aw (fM _) λ_ _=>aj (sm _)
 refine aY (λx=>x.2=((D,T,t),A,s,(D,T),sp,se)) (aJ (λ_=>aj (by dsimp only;rw[Ah])) λ_=>aJ (λ_=>aj (by dsimp only;rw[Ah])) λ_=>aj (by dsimp only;rw[Ah])) ?_;rintro⟨b,x⟩ e;dsimp only at e;subst e;refine aO (λ_=>?_) λ_=>?_
 .refine aw (pZ _ hp _ _ _ _) λr hr=>cz (λ_=>aj (sm _)) λg=>?_
  obtain⟨v,hv,v0,v1⟩:=hr g (by omega) (by omega);refine aV hv (aN v0 v1 (aS ?_));refine aw (hin _ _ _) λy z=>?_
  obtain⟨b4,N⟩:=y;dsimp only at z;subst z;refine bh (by simp) ?_;refine aY (λx=>WQ ((D,T,t),A,sp,se) x) ?_ λx L=>aj L
  refine aO (λ_=>aw (fM _) λ_ _=>aj (sm _)) λ_=>eJ (λ_=>aw (fM _) λ_ _=>aj (sm _)) λ_=>?_
  exact aJ (λ_=>aw (fM _) λ_ _=>aj (sm _)) λ_=>aw (fM _) λ_ _=>aj (sm _)
 refine aJ (λ_=>?_) λ_=>?_
 .refine aw (pZ _ hp _ _ _ _) λr hr=>cz (λ_=>aj (sm _)) λg=>?_
  refine aw (tW T _ hth) λv hv=>?_
  refine aY (λx=>x.2=((D,T,t),A,s,sp,se)) ?_ ?_
  .refine aO (λ_=>aj (by dsimp only;rw[Ah])) λ_=>aO (λ_=>aj (by dsimp only;rw[Ah])) λ_=>aO (λ_=>aj (by dsimp only;rw[Ah])) λ_=>aJ (λ_=>aj (by dsimp only;rw[Ah])) λ_=>aj (by dsimp only;rw[Ah])
  rintro⟨b,x⟩ e;dsimp only at e;subst e;refine aO (λ_=>aj (sm _)) λ_=>?_
  refine aw (AD sp _ (by omega)) λ_ _=>fF (λ_=>aj (sm _)) λ_=>?_
  exact a! (aj ⟨rfl,rfl,by simp,Qo _⟩)
 refine aJ (λ_=>?_) λ_=>?_
 .refine aY (λx=>WQ ((D,T,t),A,sp,se) x) ?_ λx L=>aj L
  refine aw (pZ _ hp _ _ _ _) λr hr=>?_
  refine aO (λ_=>aw (fM _) λ_ _=>aw (vx _) λ_ _=>aj (sm _)) λ_=>?_
  refine aO (λ_=>aw (fM _) λ_ _=>aw (vx _) λ_ _=>aj (sm _)) λ_=>?_
  exact aw (tW T _ hth) λv hv=>aw (fM _) λ_ _=>aw (vx _) λ_ _=>aj (sm _)
 refine aJ (λ_=>?_) λ_=>?_
 .refine aY (λx=>x.2=((D,T,t),A,s,(D,T),sp,se)) ?_ ?_
  .refine aw (pZ _ hp _ _ _ _) λr hr=>?_
   exact aO (λ_=>aw (fM _) λ_ _=>aw (vx _) λ_ _=>aj (by dsimp only;rw[Ah])) λ_=>aw (fM _) λ_ _=>aw (vx _) λ_ _=>aj (by dsimp only;rw[Ah])
  rintro⟨b,x⟩ e;dsimp only at e;subst e;refine aY (λx=>x.2=((D,T,t),A,s,(D,T),sp,se)) ?_ ?_
  .refine aY (λx=>x.2=((D,T,t),A,s,(D,T),sp,se)) ?_ ?_
   .exact aJ (λ_=>aw (AD se _ (by omega)) λ_ _=>aj (by dsimp only;rw[Ah])) λ_=>aj (by dsimp only;rw[Ah])
   rintro⟨b,x⟩ e;dsimp only at e;subst e;exact aO (λ_=>aj (by dsimp only;rw[Ah])) λ_=>aj (by dsimp only;rw[Ah])
  rintro⟨b,x⟩ e;dsimp only at e;subst e;refine a! ?_;exact aw (yP _ hp _ _ hex) λ_ _=>aw (vx _) λ_ _=>aj ⟨rfl,rfl,Qo _,by simp⟩
 exact aw (pZ _ hp _ _ _ _) λ_ _=>aw (pZ _ hp _ _ _ _) λ_ _=>aw (fM _) λ_ _=>aw (vx _) λ_ _=>aw (vx _) λ_ _=>aj (sm _)
abbrev RA4:Type:=(Y Sx×WK)->M (ν×WK)
structure QA (l:List Sx) (d:Nat) (w:WK) (y:ν×WK):Prop where
 p:y.2.1=w.1
 a:l! y.2.2.1.2=l! w.2.1.2
 s:l! y.2.2.2.1<=l! w.2.2.1+l! l*KS d
 t:l! y.2.2.2.2<=l! w.2.2.2+l! l*KS d
def SpA (rr:RA4) (d:Nat):Prop:=∀(l:Y Sx) (w:WK),l! l<=100->(∀s∈l,GT d s)->PX (w.1.1,w.1.2.1)->l! w.2.1.2+d<=50->l! w.2.2.1+l! l*KS d<=100000000->l! w.2.2.2+l! l*KS d<=100000000->Ok (rr (l,w)) (QA l d w)
def ajo (rr:RA4) (d:Nat) (hr:∀d',d=d'+1->SpA rr d'):SpA (nG rr) d:=by
 rintro l ⟨⟨D,T,t⟩,A,sp,se⟩ hl hg hp hA h1 h2;dsimp only at hp hA h1 h2;have hK:∀i:Nat,i<=l! l->i*KS d<=l! l*KS d:=λi hi=>cQ _ hi
 unfold nG a8 bt bI b_ dJ dj ck bq bS i_ bT bX bf c5 aH cW eH;refine cH (l! l) (λi x=>x.1=(i:Int)/\x.2.1=(D,T,t)/\l! x.2.2.1.2=l! A.2/\l! x.2.2.2.1<=l! sp+i*KS d/\l! x.2.2.2.2<=l! se+i*KS d) ?_ ?_ ⟨rfl,rfl,rfl,by simp,by simp⟩
 .rintro i ⟨a,P,A',sp',se'⟩ hi ⟨e1,e2,e3,e4,e5⟩;dsimp only at e1 e2 e3 e4 e5;subst e1 e2;have hKi:=hK (i+1) (by omega);have hKs:=iD i (KS d);rw[Nat.succ_eq_add_one]at hKs;refine dy ?_;refine cY (aS ?_);have hm:=hg _ (b8 (T:=.sm) (xs:=l) (j:=(i:Int)) (by omega) (by omega));revert hm;generalize (geti (.sm) l (i:Int))=s;intro hm;cases d with
  |zero=>exact hm.elim
  |succ d=>
   have hR:=hr d rfl;obtain⟨_,g2,g3,g4,g5,g6,g7⟩:=hm;have hk:KS (d+1)=1+16*KS d:=rfl;have kb:l! s.body*KS d<=8*KS d:=cQ _ g4;have ke:l! s.els*KS d<=8*KS d:=cQ _ g5;dsimp only;rw[Ah];refine aw (ang s D T t A' sp' se' hp (by omega) (by omega) (by omega) g2 g3) λy hy=>?_
   obtain⟨e,P2,A2,sp2,se2⟩:=y;obtain⟨q1,z,q3,q4⟩:=hy;dsimp only at q1 z q3 q4;subst q1 z;refine bh (by simp) ?_;refine aY (λx=>x.2=((D,T,t),s,A2,sp2,se2)) (bW (λ_=>aj rfl) λ_=>aj rfl) ?_;rintro⟨e,x⟩ ex;dsimp only at ex;subst ex;refine cz (λ_=>aj ⟨rfl,e3,by dsimp only;omega,by dsimp only;omega⟩) λ_=>?_
   refine a! (aN (by simp) (by simp;omega) (aN (by simp) (by simp;omega) ?_));dsimp only;rw[Ah];refine aw (hR s.body ((D,T,t),(A2.1,cN (A2.2++[_]) _ s),sp2,se2) (by omega) g6 hp ?_ ?_ ?_) λy hy=>?_
   .dsimp only;rw[ca];simp;omega
   .dsimp only;omega
   .dsimp only;omega
   obtain⟨e6,P6,A6,sp6,se6⟩:=y;obtain⟨q1,z,q5,q6⟩:=hy;dsimp only at q1 z q5 q6;subst q1;rw[ca,bc,cj]at z;refine bh (by simp) ?_;refine aY (λx=>x.2.1=(D,T,t)/\l! x.2.2.1.2=l! A2.2+1/\l! x.2.2.2.1<=l! sp2+16*KS d/\l! x.2.2.2.2<=l! se2+16*KS d) ?_ ?_
   .refine aJ (λ_=>?_) λ_=>aj ⟨rfl,z,by dsimp only;omega,by dsimp only;omega⟩
    refine aw (hR s.els ((D,T,t),A6,sp6,se6) (by omega) g7 hp (by dsimp only;omega) (by dsimp only;omega) (by dsimp only;omega)) λy hy=>?_
    obtain⟨e7,P7,A7,sp7,se7⟩:=y;obtain⟨N,L,r5,r6⟩:=hy;dsimp only at N L r5 r6;subst N;exact bh (by simp) (aj ⟨rfl,L.trans z,by dsimp only;omega,by dsimp only;omega⟩)
   rintro⟨e8,P8,A8,sp8,se8⟩ ⟨N,L,r5,r6⟩;dsimp only at N L r5 r6;subst N;have el:bA .i64 ((aP (l! A8.2))-1)=(l! A2.2:Int):=by
    rw[L,iW (by simp<;>omega) (by simp<;>omega)];simp<;>omega
   dsimp only;rw[el];have tk:l! (dF (aQ (l! A2.2:Int)) A8.2)=l! A2.2:=by rw[bQ];omega
   refine db (a? (Ch (by rw[L];omega) ?_));refine cz (λ_=>aj ⟨rfl,by dsimp only;omega,by dsimp only;omega,by dsimp only;omega⟩) λ_=>aj ?_
   exact⟨gM,rfl,by dsimp only;omega,by dsimp only;omega,by dsimp only;omega⟩
 .rintro⟨a,P,A',sp',se'⟩ ⟨e1,e2,e3,e4,e5⟩;dsimp only at e1 e2 e3 e4 e5;subst e1 e2;exact du (aj ⟨rfl,e3,e4,e5⟩)
def ZG:∀(n d:Nat),d<n->SpA (iZ n) d
 |0,_,h=>by omega
 |n+1,d,h=>ajo (iZ n) d λz hd=>ZG n z (by omega)
def Gr (p:PG) (h:PX p):Ok (fE p) λr=>r.1=0->(p.2.map λt=>oU 5 t.2.2.2).sum<=60:=by
 have hd:=h.d;have ht:=h.t;unfold fE a8 bt bI b_ dj bS i_ bT bX bf c5 aH cW;refine aw (aci p h) λ_ _=>eJ (λ_=>aj nofun) λ_=>?_
 refine aw (XX p.1 hd) λ_ _=>cz (λhn=>aj λh=>(hn h).elim) λ_=>bW (λ_=>aj nofun) λ_=>?_
 refine aw (Qu p h) λ_ _=>cz (λhn=>aj λh=>(hn h).elim) λ_=>?_
 have hk5:KS 5=69905:=rfl;refine cH (l! p.2) (λi x=>x.1.2=(i:Int)/\x.2=p/\x.1.1=((((p.2.take i).map λt=>oU 5 t.2.2.2).sum:Nat):Int)/\(x.1.1:Int)<=((i*6990500:Nat):Int)) ?_ ?_ ⟨rfl,rfl,by simp,by simp⟩
 .rintro i ⟨⟨(c:Int),a⟩,x⟩ hi ⟨z,e2,L,e4⟩;dsimp only at z e2 L e4;subst z;have e2:=e2.symm;subst e2;refine dy ?_;refine cY (aS ?_);have hm:=b8 (T:=uu) (xs:=p.2) (j:=(i:Int)) (by omega) (by omega);have N:=h.b _ hm;have hcb:=agk (h.s _ hm);have hcb2:=cQ (KS 5) N;rw[hk5]at hcb hcb2;refine aV (Hp fuel 5 _ (by rw[kP];omega) (c8 N (by omega)) (h.s _ hm) (by rw[hk5];omega)) (aj ⟨gM,rfl,?_,?_⟩)
  .dsimp only;rw[pJ (T:=uu) hi,cJ,HZ,iW,L];simp
  .dsimp only;rw[iW];omega
 rintro⟨⟨(c:Int),a⟩,x⟩ ⟨z,e2,L,e4⟩;dsimp only at z e2 L e4;subst z;have e2:=e2.symm;subst e2;rw[cr]at L;refine du ?_;refine aw (P:=λr=>r.1=0->(p.2.map λt=>oU 5 t.2.2.2).sum<=60) ?_ λ_ h=>aj h
 refine bW (λ_=>aj nofun) λg60=>?_
 have g60:c<=60:=g60;refine cH (l! p.2) (λi x=>x.1=(i:Int)/\x.2.1=p/\x.2.2.1.1=p.1/\x.2.2.1.2.1=p.2/\l! x.2.2.2.1.2=0/\l! x.2.2.2.2.1<=i*6990500/\l! x.2.2.2.2.2<=i*6990500) ?_ ?_ ⟨rfl,rfl,rfl,rfl,rfl,by simp,by simp⟩
 .rintro i ⟨a,x,⟨D,T,t⟩,A,sp,se⟩ hi ⟨z,e2,L,e4,e5,e6,e7⟩;dsimp only at z e2 L e4 e5 e6 e7;subst z;have e2:=e2.symm;subst e2 L e4;refine dy ?_;refine cY (aS ?_);have hm:=b8 (T:=uu) (xs:=p.2) (j:=(i:Int)) (by omega) (by omega);have N:=h.b _ hm;have hs:=h.s _ hm;revert N hs;dsimp only;generalize (geti uu p.2 (i:Int))=th;intro N hs;have hk:KS 5=69905:=rfl;have hle:l! th.2.2.2*KS 5<=100*KS 5:=cQ _ N;rw[hk]at hle;refine aw (ZG fuel 5 (by rw[kP];omega) th.2.2.2 ((p.1,p.2,(i:Int)),A,sp,se) N hs h (by dsimp only;omega) (by dsimp only;rw[hk];omega) (by dsimp only;rw[hk];omega)) λy hy=>?_
  obtain⟨e,P2,A2,sp2,se2⟩:=y;obtain⟨q1,q2,q3,q4⟩:=hy;dsimp only at q1 q2 q3 q4;subst q1;rw[hk]at q3 q4;refine bh (by simp) (cz (λhn=>aj λh=>(hn h).elim) λ_=>aj ?_);exact⟨gM,rfl,rfl,rfl,by dsimp only;omega,by dsimp only;omega,by dsimp only;omega⟩
 .rintro⟨a,x,P,w⟩ ⟨z,e2,_⟩;dsimp only at z e2;subst z;have e2:=e2.symm;subst e2;exact du (aj λ_=>by omega)
def di {o z:M R} {Q:R->Prop} (h:o=z) (A:Ok z Q):Ok o Q:=h▸A
def D0:Y DT:=[(1,0,[120],0,0,[]),(1,0,[121],0,1,[]),(2,0,[118],0,0,[]),(1,0,[113],2,0,[]),(3,0,[109],0,0,[]),(3,0,[110],0,0,[]),(4,0,[114],0,0,[]),(5,0,[99],0,0,[109]),(6,0,[102],0,0,[])]
def L0:Y ζ:=[[97],[98]]
set_option maxHeartbeats 20000000 in
def arh:∃r,fE (D0,[([109,97,105,110],0,L0,[pa (1,0,[120],[],[],eD (1,1,[],[]),[],[])])])=Z r/\r.1=0:=by
 suffices h:Ok (fE (D0,[([109,97,105,110],0,L0,[pa (1,0,[120],[],[],eD (1,1,[],[]),[],[])])])) λr=>r.1=0 by
  obtain⟨y,h1,h2⟩:=h;exact⟨y,h1,h2⟩
 unfold fE a8 bt bI b_ dj bS i_ bT bX bf c5 aH cW;with_reducible repeat' first|exact aj rfl|refine Zg ?_|refine Zf ?_|refine Ze ?_|refine Zc ?_|refine Ts ?_|refine ais ?_|refine aS ?_|refine fT rfl ?_|refine fZ rfl ?_|refine bh rfl ?_|refine Zd ?_|refine Tt ?_|refine di (qU.eq_1 ..) ?_|refine di (kZ.eq_1 ..) ?_|refine di (fx.eq_1 ..) ?_|refine di (kA.eq_1 ..) ?_|refine di (lK.eq_1 ..) ?_|refine di (mE.eq_1 ..) ?_|refine di (qL.eq_1 ..) ?_|refine di (sP.eq_1 ..) ?_|refine di (o9.eq_1 ..) ?_|refine di (kn.eq_1 ..) ?_|refine di (lb.eq_1 ..) ?_|refine di (ng.eq_1 ..) ?_|refine di (jN.eq_1 ..) ?_|refine di (nC.eq_1 ..) ?_|refine di (qK.eq_1 ..) ?_|refine di (sO.eq_1 ..) ?_|refine di (iw.eq_1 ..) ?_|refine di (o8.eq_1 ..) ?_|refine di (hY.eq_1 ..) ?_|refine di (jL.eq_1 ..) ?_|refine di (DX.eq_1 ..) ?_|refine di (vU.eq_1 ..) ?_|refine di (xm.eq_1 ..) ?_|refine di (nG.eq_1 ..) ?_|refine di (nA.eq_1 ..) ?_|refine di (ep.eq_1 ..) ?_|refine di (gR.eq_1 ..) ?_|refine di (qT.eq_1 ..) ?_|refine di (nB.eq_1 ..) ?_|refine di (DW.eq_1 ..) ?_|refine di (vT.eq_1 ..) ?_|refine di (DV.eq_1 ..) ?_|refine di (vS.eq_1 ..) ?_|refine di (jK.eq_1 ..) ?_|refine di (dh.eq_1 ..) ?_|refine di (ck.eq_1 ..) ?_|refine di (congrFun (dT dN kP) _) ?_|refine di (AJ _ _) ?_|refine di (congrFun (dT eQ kP) _) ?_|refine di (Bu _ _) ?_|refine di (congrFun (dT iy kP) _) ?_|refine di (tP _ _) ?_|refine di (congrFun (dT oM kP) _) ?_|refine di (Aq _ _) ?_|refine di (congrFun (dT iZ kP) _) ?_|refine di (Eb _ _) ?_|refine di (congrFun (dT oL kP) _) ?_|refine di (Ap _ _) ?_|refine di (congrFun (dT oK kP) _) ?_|refine di (Ao _ _) ?_
 all_goals trace_state
structure TM (nT:Nat) (t:HT):Prop where
 l:t.2.2.1=L0
 b:l! t.2.2.2<=8
 s:∀s∈t.2.2.2,GS nT 3 s
structure PJ (p:PG):Prop where
 d:p.1=D0
 t0:1<=l! p.2
 t:l! p.2<=4
 m:∀t∈p.2,TM (l! p.2) t
 n:p.2.map Prod.fst=xL.take (l! p.2)
def PJ.x {p:PG} (h:PJ p):PX p:=⟨by rw[h.d];decide,by have:=h.t;omega,λt ht=>by rw[(h.m t ht).l];decide,λt ht=>by have:=(h.m t ht).b;omega,λt ht s z=>((h.m t ht).s s z).le (by omega:3<=5) |>.t⟩
def U4:tL ()=Z D0:=rfl
def ah6:∀m:Nat,m<5->∀j:Nat,j<m->geti (.str) xL (j:Int)∈xL.take m:=by decide
def S0 {nT:Nat} (op:Int) {n:ζ} (A:op=12\/op=13) (D:n∈xL.take nT):GS nT 3 (pa (op,0,n,[],[],eD (0,0,[],[]),[],[])):=GS.wo (by omega) (by simp) (λx z=>(by cases z)) (by rcases A with rfl|rfl<;>(constructor<;>simp[Sx.op,Sx.name,Sx.index,Sx.arg,Sx.els,Sx.body]<;>exact D))
def Jn (x:η) (hl:l! x<=9223372036854775807) (hx:∀z∈x,0<=z/\z<=255):Ok (pQ x) λp=>PJ p/\∃r,fE p=Z r/\r.1=0:=by
 unfold pQ a8 bt bI cA dO iC mF b_ fD pV wG Prod.B bq bS i_ bT ko c5 aH cW eH;refine aV U4 ?_;refine aw (gF 3 (x,0) ⟨hl,hx,by dsimp only;omega,by dsimp only;omega⟩) λy hy=>?_
 obtain⟨n,t0⟩:=y;obtain⟨s0,n0,n1,_⟩:=hy;have n1:=n1 (by decide);dsimp only at s0 n0 n1;have ew:bA .i64 (2+n)=2+n:=iW;obtain⟨nT,hnT⟩:∃m:Nat,2+n=(m:Int):=⟨(2+n).toNat,by omega⟩
 refine cH nT (λi x=>x.1=(i:Int)/\x.2.2.1=D0/\x.2.2.2.1=xL/\TP x.2.2.2.2.1/\x.2.2.2.2.2.1.2=[]/\x.2.2.2.2.2.2.map Prod.fst=xL.take i/\∀t∈x.2.2.2.2.2.2,TM nT t) ?_ ?_ ⟨rfl,rfl,rfl,s0.p,rfl,rfl,λt ht=>(by cases ht)⟩
 .rintro i ⟨a,m,D,N,t,h,th⟩ hi ⟨e1,e2,e3,e4,e5,e6,e7⟩;dsimp only at e1 e2 e3 e4 e5 e6 e7;subst e1 e2;refine bW (λg=>?_) λg=>(by dsimp only at g;rw[ew]at g;omega)
  have l4:l! N=4:=by rw[e3];rfl
  refine cY (cY (aS ?_));have hthl:l! th=i:=by have:=dT ah e6;rw[bH,bQ]at this;have q4:xL.length=4:=rfl;omega
  refine aY (λx=>x.2.2.2.1.1=geti (.str) N (i:Int)/\x.2.1=D0/\x.2.2.1=xL/\TP x.2.2.2.2.1/\x.2.2.2.2.2.1.2=[]/\x.2.2.2.2.2.2.1=th/\x.2.2.2.2.2.2.2.1=L0/\l! x.2.2.2.2.2.2.2.2<=3/\∀s∈x.2.2.2.2.2.2.2.2,GS nT 3 s) ?_ ?_
  .refine aJ (λ_=>?_) λ_=>aj ⟨rfl,rfl,e3,e4,e5,rfl,rfl,by simp,λs A=>(by cases A)⟩
   refine cH (1+n).toNat (λk x=>x.2.2.2.2.1.1=geti (.str) N (i:Int)/\x.1=1+(k:Int)/\x.2.2.1=D0/\x.2.2.2.1=xL/\TP x.2.2.2.2.2.1/\x.2.2.2.2.2.2.1.2=[]/\x.2.2.2.2.2.2.2.1=th/\x.2.2.2.2.2.2.2.2.1=L0/\l! x.2.2.2.2.2.2.2.2.2<=k/\∀s∈x.2.2.2.2.2.2.2.2.2,GS nT 3 s) ?_ ?_ ⟨rfl,rfl,rfl,e3,e4,e5,rfl,rfl,by simp,λs A=>(by cases A)⟩
   .rintro k ⟨c,m1,D1,N1,z1,t1,h1,th1,l1,b1⟩ hk ⟨fz,f1,f2,L,f4,f5,f6,f7,f8,f9⟩;dsimp only at fz f1 f2 L f4 f5 f6 f7 f8 f9;subst f1;refine bW (λ_=>?_) λg=>(by dsimp only at g;rw[ew]at g;omega)
    have l41:l! N1=4:=by rw[L];rfl
    refine cY (cY (aS ?_));refine a! (aj ?_);dsimp only;rw[iW (n:=1+(k:Int)+1) (by omega) (by omega)];refine ⟨fz,by omega,f2,L,f4,f5,f6,f7,by simp;omega,λs A=>?_⟩;rcases bG.1 A with A|A
    .exact f9 s A
    .rw[aE]at A;rw[A];refine S0 12 (.inl rfl) ?_;rw[L,show 1+(k:Int)=((1+k:Nat):Int) by omega];exact ah6 nT (by omega) (1+k) (by omega)
   .rintro⟨c,m1,D1,N1,z1,t1,h1,th1,l1,b1⟩ ⟨fz,f1,f2,L,f4,f5,f6,f7,f8,f9⟩;dsimp only at fz f1 f2 L f4 f5 f6 f7 f8 f9;subst f1;refine bW (λg=>(by dsimp only at g;rw[ew]at g;omega)) λ_=>aj ?_
    exact⟨fz,f2,L,f4,f5,f6,f7,by dsimp only;omega,f9⟩
  rintro⟨m1,D1,N1,z1,t1,h1,th1,l1,b1⟩ ⟨fz,f2,L,f4,f5,f6,f7,f8,f9⟩;dsimp only at fz f2 L f4 f5 f6 f7 f8 f9;subst f2 f6 f7;refine aw (gF 3 t1 f4) λy hy=>?_
  obtain⟨k2,t2⟩:=y;obtain⟨u1,u2,u3,_⟩:=hy;have u3:=u3 (by decide);dsimp only at u1 u2 u3;dsimp only;rw[iW (n:=1+k2) (by omega) (by omega)];refine aw (aal (nT:=nT) 2 (by omega) (1+k2) m1 t2 h1 (by omega) u1.p (by rw[f5];simp)) λy hy=>?_
  obtain⟨m3,t3,h3,l3⟩:=y;obtain⟨w1,w2,w3,w4⟩:=hy;dsimp only at w1 w2 w3 w4;refine bh (by simp) (a! ?_);have hbody:∀s∈b1++l3,GS nT 3 s:=λs A=>by
   rcases bG.1 A with A|A
   .exact f9 s A
   .exact w2 s A
  have hlen:l! (b1++l3)<=6:=by rw[bc];omega
  refine aY (λx=>x.2.2.2.1.1=geti (.str) N (i:Int)/\x.2.1=D0/\x.2.2.1=xL/\TP x.2.2.2.2.1/\x.2.2.2.2.2.1.2=[]/\x.2.2.2.2.2.2.1=th1/\x.2.2.2.2.2.2.2.1=L0/\l! x.2.2.2.2.2.2.2.2<=8/\∀s∈x.2.2.2.2.2.2.2.2,GS nT 3 s) ?_ ?_
  .refine aY (λx=>x.2.2.2.2.1.1=geti (.str) N (i:Int)/\x.2.2.1=D0/\x.2.2.2.1=xL/\TP x.2.2.2.2.2.1/\x.2.2.2.2.2.2.1.2=[]/\x.2.2.2.2.2.2.2.1=th1/\x.2.2.2.2.2.2.2.2.1=L0/\x.2.2.2.2.2.2.2.2.2=b1++l3) ?_ ?_
   .refine aJ (λ_=>?_) λ_=>aj ⟨fz,rfl,L,w3.p,w4.trans f5,rfl,rfl,rfl⟩
    exact aw (gF 3 t3 w3.p) λy hy=>aj ⟨fz,rfl,L,hy.1.p,w4.trans f5,rfl,rfl,rfl⟩
   rintro⟨b,m4,D4,N4,z4,t4,h4,th4,l4,b4⟩ ⟨pz,p2,p3,p4,p5,p6,p7,p8⟩;dsimp only at pz p2 p3 p4 p5 p6 p7 p8;subst p2 p6 p7 p8;have l44:l! N4=4:=by rw[p3];rfl
   refine aO (λ_=>?_) λ_=>aj ⟨pz,rfl,p3,p4,p5,rfl,rfl,by dsimp only;omega,hbody⟩
   refine cY (cY (aS ?_));refine bl (by simp at hlen ⊢;omega) (by omega) (aj ⟨pz,rfl,p3,p4,p5,rfl,rfl,by dsimp only;rw[bc,cj];omega,λs A=>?_⟩);rcases bG.1 A with A|A
   .exact hbody s A
   .rw[aE]at A;rw[A];refine S0 13 (.inr rfl) ?_;rw[p3];exact ah6 nT (by omega) 1 (by omega)
  rintro⟨m4,D4,N4,z4,t4,h4,th4,l4,b4⟩ ⟨pz,p2,p3,p4,p5,p6,p7,p8,p9⟩;dsimp only at pz p2 p3 p4 p5 p6 p7 p8 p9;subst p2 p6 p7;refine a! (aj ?_);dsimp only;refine ⟨gM,rfl,p3,p4,p5,by rw[pJ (T:=.str) (xs:=xL) (i:=i) (by have q4:xL.length=4:=rfl;omega),cJ,e6,<-e3];show _++[z4.1]=_;rw[pz],λt ht=>?_⟩;rcases bG.1 ht with ht|ht
  .exact e7 t ht
  .rw[aE]at ht;rw[ht];exact⟨rfl,p8,p9⟩
 .rintro⟨a,m,D,N,t,h,th⟩ ⟨e1,e2,e3,e4,e5,e6,e7⟩;dsimp only at e1 e2 e3 e4 e5 e6 e7;subst e1 e2;refine bW (λg=>(by dsimp only at g;rw[ew]at g;omega)) λ_=>?_
  have hthl:l! th=nT:=by have:=dT ah e6;rw[bH,bQ]at this;have q4:xL.length=4:=rfl;omega
  have hpm:PJ (D0,th):=⟨rfl,by dsimp only;omega,by dsimp only;omega,by dsimp only;rw[hthl];exact e7,by dsimp only;rw[hthl];exact e6⟩
  refine aw (P:=λp=>PJ p/\∃r,fE p=Z r/\r.1=0) ?_ λr hr=>aj hr
  obtain⟨y,hy,_⟩:=Gr (D0,th) hpm.x;refine aV hy (cz (λ_=>?_) λh=>aj ⟨hpm,y,hy,h⟩);refine aV U4 (aV (QR _) (aV (vn _ _) (aj ?_)));refine ⟨⟨rfl,by simp,by simp,λt ht=>?_,rfl⟩,arh⟩;simp only[aE]at ht;rw[ht];refine ⟨rfl,by simp,λs A=>?_⟩;simp only[aE]at A;rw[A,fB,AU];exact GS.asg (by decide) (GE.num _ 3)
abbrev iA (l:Y IT) (k:Nat):IT:=geti sk l (k:Int)
def JT (l:Y IT) (ρ:Nat->Nat) (a e k:Nat):Prop:=(iA l k).1=5->∃z:Nat,(iA l k).2.1=(z:Int)/\(z=e\/a<=z/\z<e/\ρ z<ρ k)
def sg (l:Y IT) (a e:Nat):Prop:=a<=e/\∃ρ:Nat->Nat,∀k,a<=k->k<e->1<=ρ k/\ρ k<=e-a/\JT l ρ a e k/\((iA l k).1<5->k+1=e\/ρ (k+1)<ρ k)
def sg.nil (l:Y IT) (a:Nat):sg l a a:=⟨bV _,λ_=>0,λk h1 z=>by omega⟩
def sg.one {l:Y IT} (h:¬(iA l i).1=5):sg l i (i+1):=⟨by omega,λ_=>1,λk h1 A=>⟨bV 1,by show 1<=i+1-i;omega,λz=>by rw[show k=i by omega]at z;exact (h z).elim,λ_=>.inl (by omega)⟩⟩
def sg.congr {l l':Y IT} (h:sg l i j) (D:∀k,i<=k->k<j->iA l' k=iA l k):sg l' i j:=by
 obtain⟨h1,ρ,L⟩:=h;exact⟨h1,ρ,λk A z=>by unfold JT;rw[D k A z];exact L k A z⟩
def sg.app {l:Y IT} {c:Nat} (h:sg l i j) (k:sg l j c):sg l i c:=by
 obtain⟨h1,ρ,h2⟩:=h;obtain⟨k1,σ,k2⟩:=k;refine ⟨by omega,λk=>if k<j then ρ k+(c-j) else σ k,λk g1 g2=>?_⟩;by_cases D:k<j
 .obtain⟨q1,q2,q3,q4⟩:=h2 k g1 D;simp only[aC D];refine ⟨by omega,by omega,?_,λz=>?_⟩
  .intro z;simp only[aC D];obtain⟨A,e,r⟩:=q3 z;refine ⟨A,e,?_⟩;rcases r with r|⟨r1,N,r3⟩
   .subst r;by_cases L:A=c
    .exact .inl L
    .have:=(k2 A (bV _) (by omega)).2.1;rw[av (EA _)];exact .inr ⟨by omega,by omega,by omega⟩
   .rw[aC N];exact .inr ⟨r1,by omega,by omega⟩
  .rcases q4 z with r|r
   .by_cases L:k+1=c
    .exact .inl L
    .have:=(k2 (k+1) (by omega) (by omega)).2.1;rw[av (by omega)];exact .inr (by omega)
   .by_cases hb:k+1<j
    .rw[aC hb];exact .inr (by omega)
    .rw[av hb];by_cases L:k+1=c
     .exact .inl L
     .have:=(k2 (k+1) (by omega) (by omega)).2.1;exact .inr (by omega)
 .obtain⟨q1,q2,q3,q4⟩:=k2 k (by omega) g2;simp only[av D];refine ⟨q1,by omega,?_,λz=>?_⟩
  .intro z;simp only[av D];obtain⟨A,e,r⟩:=q3 z;refine ⟨A,e,r.imp id λ⟨r1,N,r3⟩=>⟨by omega,N,?_⟩⟩;rw[av (by omega)];exact r3
  .rw[av (by omega)];exact q4 z
def sg.ite {l:Y IT} {e:Nat} (h:sg l i j) (hj:(iA l j).1=5) (hx:(iA l j).2.1=(e:Int)) (k:sg l (j+1) e):sg l i e:=by
 obtain⟨h1,ρ,h2⟩:=h;obtain⟨k1,σ,k2⟩:=k;refine ⟨by omega,λk=>if k<j then ρ k+(e-j) else if k=j then e-j else σ k,λk g1 g2=>?_⟩;by_cases A:k<j
 .obtain⟨q1,q2,q3,q4⟩:=h2 k g1 A;simp only[aC A];refine ⟨by omega,by omega,?_,λz=>?_⟩
  .intro z;simp only[aC A];obtain⟨L,e',r⟩:=q3 z;refine ⟨L,e',.inr ?_⟩;rcases r with r|⟨r1,D,N⟩
   .rw[r,av (EA _),aC rfl];exact⟨by omega,by omega,by omega⟩
   .rw[aC D];exact⟨r1,by omega,by omega⟩
  .refine .inr ?_;by_cases hb:k+1<j
   .rw[aC hb];rcases q4 z with r|r<;>omega
   .rw[av hb,aC (by omega)];omega
 .by_cases hkj:k=j
  .subst hkj;simp only[av A,aC];exact⟨by omega,by omega,λ_=>⟨e,hx,.inl rfl⟩,λz=>by rw[hj]at z;omega⟩
  .obtain⟨q1,q2,q3,q4⟩:=k2 k (by omega) g2;simp only[av A,av hkj];refine ⟨q1,by omega,?_,λz=>?_⟩
   .intro z;simp only[av A,av hkj];obtain⟨L,e',r⟩:=q3 z;refine ⟨L,e',r.imp id λ⟨r1,D,N⟩=>⟨by omega,D,?_⟩⟩;rw[av (by omega),av (by omega)];exact N
   .rw[av (by omega),av (by omega)];exact q4 z
def sg.whl {l:Y IT} {c:Nat} (h:sg l i c) (hc:(iA l c).1=10) (k:sg l (c+1) j) (hj:(iA l j).1=5) (hx:(iA l j).2.1=(i:Int)):sg l i (j+1):=by
 obtain⟨h1,ρ,h2⟩:=h;obtain⟨k1,σ,k2⟩:=k;refine ⟨by omega,λk=>if k<c then ρ k+1 else if k=c then 1 else if k<j then σ k+(c-i)+2 else c-i+2,λk g1 g2=>?_⟩;by_cases A:k<c
 .obtain⟨q1,q2,q3,q4⟩:=h2 k g1 A;simp only[aC A];refine ⟨by omega,by omega,?_,λz=>?_⟩
  .intro z;simp only[aC A];obtain⟨N,e',r⟩:=q3 z;refine ⟨N,e',.inr ?_⟩;rcases r with r|⟨r1,L,r3⟩
   .rw[r,av (EA _),aC rfl];exact⟨by omega,by omega,by omega⟩
   .rw[aC L];exact⟨r1,by omega,by omega⟩
  .refine .inr ?_;by_cases D:k+1<c
   .rw[aC D];rcases q4 z with r|r<;>omega
   .rw[av D,aC (by omega)];omega
 .by_cases hkc:k=c
  .subst hkc;simp only[av A,aC];exact⟨by omega,by omega,λz=>by rw[hc]at z;omega,λz=>by rw[hc]at z;omega⟩
  .simp only[av A,av hkc];by_cases hkj:k<j
   .obtain⟨q1,q2,q3,q4⟩:=k2 k (by omega) hkj;simp only[aC hkj];refine ⟨by omega,by omega,?_,λz=>?_⟩
    .intro z;simp only[av A,av hkc,aC hkj];obtain⟨N,e',r⟩:=q3 z;refine ⟨N,e',.inr ?_⟩;rcases r with r|⟨r1,L,r3⟩
     .rw[r,av (by omega),av (by omega),av (EA _)];exact⟨by omega,by omega,by omega⟩
     .rw[av (by omega),av (by omega),aC L];exact⟨by omega,by omega,by omega⟩
    .refine .inr ?_;rw[av (by omega),av (by omega)];by_cases D:k+1<j
     .rw[aC D];rcases q4 z with r|r<;>omega
     .rw[av D];omega
   .have hkj:k=j:=by omega
    subst hkj;simp only[av (EA _)];refine ⟨by omega,by omega,λ_=>⟨i,hx,.inr ⟨bV _,by omega,?_⟩⟩,λz=>by rw[hj]at z;omega⟩;simp only[av A,av hkc,av (EA _)];by_cases ha:i<c
    .rw[aC ha];have:=(h2 i (bV _) ha).2.1;omega
    .rw[av ha,aC (by omega)];omega
def OB (nT:Nat) (i:IT):Prop:=
 if i.1=6 then 0<=i.2.2.1/\i.2.2.1<=2 else if i.1=8 then 0<=i.2.1/\i.2.1<=2 else if i.1=7 then i.2.2.1=3/\i.2.2.2.2.1=2 else if i.1=9 then i.2.1=3/\i.2.2.2.2.1=2 else if i.1=11\/i.1=12 then i.2.1=0\/i.2.1=1 else if 13<=i.1/\i.1<=16 then i.2.1=2 else if 21<=i.1/\i.1<=23 then i.2.1=0 else if i.1=24\/i.1=25 then 0<=i.2.1/\i.2.1<(nT:Int) else if i.1=26 then i.2.1=0 else if i.1=27 then i.2.2.1=0 else if i.1=4 then 6<=i.2.2.2.2.1/\i.2.2.2.2.1<=18 else ¬i.1=3
structure GO (nT:Nat) (i:IT):Prop where
 o1:1<=i.1
 o2:i.1<=27
 r:∀j:Int,j∈jD i->0<=j/\j<32
 b:OB nT i
def SO (ss:Y π) (t s:Int):Prop:=0<=s/\s<l! ss/\(geti qO ss s).1=t
structure GI (nT:Nat) (ss:List π) (t:Int) (i:IT):Prop where
 o:GO nT i
 s:SO ss t i.2.2.2.2.2
def Xi (l:Y IT) (hl:l! l<=1000000) (h1:1<=l! l) (hb:sg l 0 (l! l-1)) (he:(iA l (l! l-1)).1=28) (k:Nat) (hk:k<l! l):qJ (l,(k:Int))=Z J:=by
 obtain⟨_,ρ,hρ⟩:=hb;refine cI ?_;unfold qJ bq bS kq bX bf c5 aH cW;refine ru (λx=>((l! l:Int)+1-x.2).toNat) (λx=>0<=x.2/\∃q:Nat,x.1=(q:Int)/\q<l! l/\((if q<l! l-1 then ρ q else 0:Nat):Int)+x.2<=(l! l:Int)) ?_ ⟨by dsimp only;omega,k,rfl,hk,?_⟩
 .rintro⟨a,(n:Int)⟩ ⟨n0,q,e,hq,hr⟩;dsimp only at n0 e hr;subst e;refine fF (λ_=>?_) λg=>(by dsimp only[al]at g;omega)
  refine h_ ?_;refine h_ (bW (λg=>by dsimp only at g;omega) λ_=>aj ?_);refine fZ (by rw[m_];dsimp only[al];omega) ?_;refine cY (aS ?_);refine aV (HU _) ?_;refine eJ (λ_=>aj rfl) λL=>?_
  have L:1<=(iA l q).1/\(iA l q).1<=5:=bD L;have A:q<l! l-1:=xd λh=>by rw[show q=l! l-1 by omega]at L;rw[he]at L;omega
  obtain⟨r1,r2,r3,r4⟩:=hρ q (mr _) A;rw[aC A]at hr;refine cY (aS ?_);have fin:∀z:Nat,z=l! l-1\/z<l! l-1/\ρ z<ρ q->0<=n+1/\∃D:Nat,(z:Int)=(D:Int)/\D<l! l/\((if D<l! l-1 then ρ D else 0:Nat):Int)+(n+1)<=(l! l:Int):=λz h=>⟨by omega,z,rfl,by omega,by
   rcases h with h|⟨h,h'⟩
   .rw[av (by omega)];omega
   .rw[aC h];omega⟩
  refine aJ (λN=>?_) λN=>aj (aj ?_)
  .obtain⟨z,e,hq'⟩:=r3 N;refine aN (eU _) (by dsimp only;omega) (aS (aj (aj ?_)));dsimp only;rw[iW (n:=n+1) (by omega) (by omega)];have:=fin z (hq'.imp id λh=>⟨h.2.1,h.2.2⟩);rw[<- e]at this;exact⟨this,by omega⟩
  .dsimp only;have N:¬(iA l q).1=5:=N;rw[iW (n:=n+1) (by omega) (by omega),gM];refine ⟨fin (q+1) ?_,by omega⟩;rcases r4 (by omega) with h|h
   .exact .inl h
   .by_cases hb:q+1=l! l-1
    .exact .inl hb
    .exact .inr ⟨by omega,h⟩
 .dsimp only;split
  .rename_i h;have:=(hρ k (mr _) h).2.1;omega
  .omega
def Ni (w:WT) (z:w.1=C0):oG (w,3,2)=Z J:=by
 refine cI ?_;have h0:(0:Int)<=3:=by decide
 have h1:(3:Int)<(l! w.1:Int):=by rw[z];decide
 have A:geti mA w.1 3=([113],0,2,aa,0):=by rw[z];rfl
 unfold oG bq i_ bX bf aH;refine h_ (aV (td _ _) (aJ (λ_=>?_) λh=>(h ⟨h0,h1⟩).elim));dsimp only;rw[A];refine aN h0 h1 (aS (aJ (λ_=>?_) λh=>(h rfl).elim));refine aN h0 h1 (aS (cz (λ_=>?_) λh=>co h (by decide)));exact aN h0 h1 (aS (aj (aj rfl)))
def QN {nT:Nat} (w:WT) (i:IT) (hw:WX w) (hT:l! w.2.2.2.2.1=nT) (z:OB nT i):mO (w,i)=Z J:=by
 obtain⟨D,hl,hd,hf,_,_,_⟩:=hw;refine cI ?_;unfold mO a8 bt bI cA dO bq kq bX bf aH;unfold OB at z;simp only[td,Zi];refine aJ (λh=>?_) λn6=>?_
 .rw[aC h]at z;have N:(geti mA w.1 i.2.2.1).2.2.1=(0:Int):=by
   rw[D];rcases (by omega:i.2.2.1=0\/i.2.2.1=1\/i.2.2.1=2) with h|h|h<;>rw[h]<;>rfl
  have hi:0<=i.2.2.1/\i.2.2.1<(l! w.1:Int):=⟨z.1,by rw[D];have:=z.2;show i.2.2.1<5;omega⟩
  exact h_ (aJ (λ_=>aN hi.1 hi.2 (aS (aj (aj (aR N))))) λh=>(h hi).elim)
 rw[av n6]at z;refine aJ (λh=>?_) λn8=>?_
 .rw[aC h]at z;have N:(geti mA w.1 i.2.1).2.2.1=(0:Int):=by
   rw[D];rcases (by omega:i.2.1=0\/i.2.1=1\/i.2.1=2) with h|h|h<;>rw[h]<;>rfl
  have hi:0<=i.2.1/\i.2.1<(l! w.1:Int):=⟨z.1,by rw[D];have:=z.2;show i.2.1<5;omega⟩
  exact h_ (aJ (λ_=>aN hi.1 hi.2 (aS (aj (aj (aR N))))) λh=>(h hi).elim)
 rw[av n8]at z;refine aJ (λh=>?_) λn7=>?_
 .rw[aC h]at z;rw[z.1,z.2];exact aV (Ni w D) (aj rfl)
 rw[av n7]at z;refine aJ (λh=>?_) λn9=>?_
 .rw[aC h]at z;rw[z.1,z.2];exact aV (Ni w D) (aj rfl)
 rw[av n9]at z;refine aY (λx=>x.2=(w,i)/\(x.1=J↔i.1=11\/i.1=12)) (aJ (λh=>aj ⟨rfl,λ_=>.inl h,λ_=>aR h⟩) λh=>aj ⟨rfl,λA=>.inr (bD A),λA=>aR (A.resolve_left h)⟩) ?_;rintro⟨b,x⟩ ⟨e,hx⟩;dsimp only at e hx;subst e;refine aO (λh=>?_) λh=>?_
 .rw[aC (hx.1 h)]at z;have N:(geti tY w.2.1 i.2.1).2=aa:=by
   rw[hl];rcases z with h|h<;>rw[h]<;>rfl
  have hi:0<=i.2.1/\i.2.1<(l! w.2.1:Int):=⟨by omega,by rw[hl];show i.2.1<3;omega⟩
  exact h_ (aJ (λ_=>aN hi.1 hi.2 (aS (aj (aj (by dsimp only;rw[N];rfl))))) λh=>(h hi).elim)
 rw[av λA=>by rw[hx.2 A]at h;cases h]at z;have hj:∀{p:Prop} {b:Bool},(b=J->p)->(p->b=J)->b=aa->¬p:=λ_ A h3 L=>by rw[A L]at h3;cases h3
 refine aY (λx=>x.2=(w,i)/\(x.1=J->13<=i.1/\i.1<=16)/\(13<=i.1/\i.1<=16->x.1=J)) (aJ (λh=>aj ⟨rfl,λ_=>by first|omega|(dsimp only at h;omega),λ_=>aR h⟩) λ_=>aJ (λh=>aj ⟨rfl,λ_=>by first|omega|(dsimp only at h;omega),λ_=>aR h⟩) λ_=>aJ (λh=>aj ⟨rfl,λ_=>by first|omega|(dsimp only at h;omega),λ_=>aR h⟩) λ_=>aj ⟨rfl,λh=>by have:=bD h;first|omega|(dsimp only at this;omega),λh=>aR (by first|omega|(dsimp only at *;omega))⟩) ?_;rintro⟨b,x⟩ ⟨e,h1,A⟩;dsimp only at e h1 A;subst e;refine aO (λh=>?_) λh=>?_
 .rw[aC (h1 h)]at z;have hi:0<=i.2.1/\i.2.1<(l! w.2.1:Int):=⟨by omega,by rw[hl];show i.2.1<3;omega⟩
  exact h_ (aJ (λ_=>aN hi.1 hi.2 (aS (aj (aj (by dsimp only;rw[z,hl];rfl))))) λh=>(h hi).elim)
 rw[av (hj h1 A h)]at z;refine aY (λx=>x.2=(w,i)/\(x.1=J->21<=i.1/\i.1<=23)/\(21<=i.1/\i.1<=23->x.1=J)) (aJ (λh=>aj ⟨rfl,λ_=>by first|omega|(dsimp only at h;omega),λ_=>aR h⟩) λ_=>aJ (λh=>aj ⟨rfl,λ_=>by first|omega|(dsimp only at h;omega),λ_=>aR h⟩) λ_=>aj ⟨rfl,λh=>by have:=bD h;first|omega|(dsimp only at this;omega),λh=>aR (by first|omega|(dsimp only at *;omega))⟩) ?_;rintro⟨b,x⟩ ⟨e,h1,A⟩;dsimp only at e h1 A;subst e;refine aO (λh=>?_) λh=>?_
 .rw[aC (h1 h)]at z;exact aj (aR ⟨by dsimp only;omega,by dsimp only;rw[hd];show i.2.1<1;omega⟩)
 rw[av (hj h1 A h)]at z;refine aY (λx=>x.2=(w,i)/\(x.1=J->i.1=24\/i.1=25)/\(i.1=24\/i.1=25->x.1=J)) (aJ (λh=>aj ⟨rfl,λ_=>.inl h,λ_=>aR h⟩) λh=>aj ⟨rfl,λA=>.inr (bD A),λA=>aR (A.resolve_left h)⟩) ?_;rintro⟨b,x⟩ ⟨e,h1,A⟩;dsimp only at e h1 A;subst e;refine aO (λh=>?_) λh=>?_
 .rw[aC (h1 h)]at z;exact aj (aR ⟨z.1,by dsimp only;rw[hT];exact z.2⟩)
 rw[av (hj h1 A h)]at z;refine aJ (λh=>?_) λn=>?_
 .rw[aC h]at z;exact aj (aR ⟨by dsimp only;omega,by dsimp only;rw[hf];show i.2.1<1;omega⟩)
 rw[av n]at z;refine aJ (λh=>?_) λn=>?_
 .rw[aC h]at z;exact aj (aR ⟨by dsimp only;omega,by dsimp only;rw[hf];show i.2.2.1<1;omega⟩)
 rw[av n]at z;by_cases L:i.1=4
 .rw[aC L]at z;refine aJ (λh=>by have h:i.1=3:=h;omega) λ_=>aJ (λ_=>?_) λh=>(h L).elim
  refine h_ (fF (λ_=>aj (aj (Ra.2 z.2))) λh=>by dsimp only at h;omega)
 .rw[av L]at z;exact aJ (λh=>(z h).elim) λ_=>aJ (λh=>(L h).elim) λ_=>aj rfl
structure GC (nT:Nat) (ss:List π) (k:Int) (c:Int×List IT):Prop where
 r0:1<=c.1
 r1:c.1<=32
 n:1<=l! c.2
 u:l! c.2<=1000000
 e:(iA c.2 (l! c.2-1)).1=28/\(iA c.2 (l! c.2-1)).2.2.2.2.2= -1
 b:sg c.2 0 (l! c.2-1)
 i:∀q:Nat,q<l! c.2-1->GI nT ss k (iA c.2 q)
 r:∀q:Nat,q<l! c.2-1->(iA c.2 q).1=10->0<=(iA c.2 q).2.2.1/\(iA c.2 q).2.2.1<(l! c.2:Int)
 g:∀q:Nat,q<l! c.2-1->∀j:Int,j∈jD (iA c.2 q)->j<c.1
def Gz {nT:Nat} {w:WT} {c:Int×Y IT} (hw:WX w) (hT:l! w.2.2.2.2.1=nT) (hc:GC nT w.2.2.2.2.2 a c):iL (w,a,c)=Z J:=by
 obtain⟨r0,r1,n1,hu,he,hb,hi,hr,hg⟩:=hc;refine cI ?_;unfold iL a8 bt bI cA b_ dj wG bq bS i_ bX bf c5 aH cW;refine aY (λx=>x.2=(w,c)/\x.1=aa) ?_ ?_
 .refine bW (λh=>by have h:c.1<0:=h;omega) λ_=>bW (λh=>by have h:32<c.1:=h;omega) λ_=>aj ⟨rfl,cD λh=>by have h:aP (l! c.2)=0:=h;dsimp only[al]at h;omega⟩
 rintro⟨b,x⟩ ⟨e,hb'⟩;dsimp only at e hb';subst e hb';refine gB ?_;refine cH (l! c.2) (λi x=>x.1=(i:Int)/\x.2=(w,c)) ?_ ?_ ⟨rfl,rfl⟩
 .rintro i ⟨k,x⟩ hi2 ⟨e1,e2⟩;dsimp only at e1 e2;subst e1 e2;have hla:=Xi c.2 hu n1 hb he.1 i hi2;have hz:∀z:IT,z=iA c.2 i->(i<l! c.2-1->GI nT w.2.2.2.2.2 a z/\(z.1=10->0<=z.2.2.1/\z.2.2.1<(l! c.2:Int))/\(z.1=5->0<=z.2.1/\z.2.1<(l! c.2:Int))/\∀j:Int,j∈jD z->j<c.1)/\(i=l! c.2-1->z.1=28/\z.2.2.2.2.2= -1):=λz hz=>by
   subst hz;refine ⟨λh=>⟨hi i h,hr i h,λh5=>?_,hg i h⟩,λh=>by rw[h];exact he⟩;obtain⟨_,ρ,hρ⟩:=hb;obtain⟨q',e,hq'⟩:=(hρ i (mr _) h).2.2.1 h5;rw[e];omega
  refine dy ?_;refine cY (aS ?_);generalize hzz:(geti sk c.2 (i:Int))=z;obtain⟨A,D⟩:=hz z hzz.symm;have hcs:i<l! c.2-1\/i=l! c.2-1:=by omega
  have o1:1<=z.1:=by
   rcases hcs with h|h
   .exact (A h).1.o.o1
   .rw[(D h).1];decide
  have o2:z.1<=28:=by
   rcases hcs with h|h
   .exact s7 (A h).1.o.o2 (by decide)
   .rw[(D h).1];decide
  have N:z.1=28->i=l! c.2-1:=λh=>hcs.resolve_left λg=>by have:=(A g).1.o.o2;rw[h]at this;exact co this (by decide)
  have hob:OB nT z:=by
   rcases hcs with h|h
   .exact (A h).1.o.b
   .unfold OB;rw[(D h).1];simp
  have hrg:∀j:Int,j∈jD z->0<=j/\j<c.1:=λj L=>by
   rcases hcs with h|h
   .exact⟨((A h).1.o.r j L).1,(A h).2.2.2 j L⟩
   .unfold jD at L;rw[(D h).1]at L;simp at L
  have hwr:bA .i64 (aP (l! c.2)-1)=((l! c.2-1:Nat):Int):=by rw[iW (by dsimp only[al];omega) (by dsimp only[al];omega)];dsimp only[al];omega
  have hcd:((decide (z.1=28)==decide ((i:Int)=bA .i64 (aP (l! c.2)-1))) !=J)=aa:=by
   rw[hwr];rcases hcs with h|h
   .rw[cD λh2=>by have:=N h2;omega,cD (by omega:¬(i:Int)=((l! c.2-1:Nat):Int))];rfl
   .rw[aR (D h).1,aR (by omega:(i:Int)=((l! c.2-1:Nat):Int))];rfl
  refine aY (λx=>x=(aa,w,c,z)) ?_ ?_
  .refine bW (λh=>co h (NC.2 o1)) λ_=>bW (λh=>co h (NC.2 o2)) λ_=>fZ hcd ?_
   refine aV (QN w z hw hT hob) (fZ rfl (aV hla (aj rfl)))
  rintro x rfl;refine gB (aY (λx=>x=(aa,w,c,z)) ?_ ?_)
  .simp only[td,Zi];refine aJ (λh=>?_) λh=>?_
   .have h5:=(D (N h)).2;exact cz (λg=>(g h5).elim) λ_=>cz (λg=>(g h).elim) λ_=>aj rfl
   .have hsi:=(A (hcs.resolve_right λg=>h (D g).1)).1.s;refine cz (λ_=>cz (λg=>(g ⟨hsi.1,hsi.2.1⟩).elim) λg=>aN g.1 g.2 (aS (aj ?_))) λg=>(h g).elim
    rw[aR hsi.2.2];rfl
  rintro x rfl;refine gB (aY (λx=>x=(aa,w,c,z)) ?_ ?_)
  .simp only[td,Zi];have n28:z.1=5\/z.1=10->i<l! c.2-1:=λh=>hcs.resolve_right λg=>by rw[(D g).1]at h;exact co h (by decide)
   refine aJ (λh=>?_) λh=>?_
   .have h2:=(A (n28 (.inl h))).2.2.1 h;refine cz (λg=>(g h2).elim) λ_=>aJ (λg=>?_) λ_=>aj rfl
    rw[h]at g;exact co g (by decide)
   .refine aJ (λg=>aj ?_) λ_=>aj rfl
    have h2:=(A (n28 (.inr g))).2.1 g;rw[aR (show 0<=z.2.2.1/\z.2.2.1<aP (l! c.2) from h2)];rfl
  rintro x rfl;refine gB (aV (uZ z) ?_);have hrl:=EX z;refine cH (l! (jD z)) (λj x=>x=((j:Int),w,c)) ?_ ?_ rfl
  .rintro j x L rfl;refine dy ?_;refine cY (aS ?_);refine aV (td _ _) (cz (λg=>(g (hrg _ (b8 (T:=aM) (xs:=jD z) (j:=(j:Int)) (by omega) (by omega)))).elim) λ_=>aj ?_);dsimp only;rw[gM]
  .rintro x rfl;exact du (aj ⟨gM,rfl⟩)
 .rintro⟨k,x⟩ ⟨e1,e2⟩;dsimp only at e1 e2;subst e1 e2;exact du (aj rfl)
section
abbrev GN:Type:=Y (ζ×Int×Int×Bool×Int)×Y (ζ×Bool)×Y (ζ×Int)×Y ζ×Y ζ×Y π×Y ζ×i?
def Pp (l:Y F!) (s:ζ) (D:l! l<=1000):Ok (ly (l,s)) λr=> -1<=r/\r<l! l/\(0<=r->(geti tY l r).1=s)/\(r<0->∀c∈l,c.1≠s):=by
 unfold ly bS bX bf c5 aH cW;refine cH (l! l) (λi x=>x=(i:Int)/\∀k:Nat,k<i->(geti tY l (k:Int)).1≠s) ?_ ?_ ⟨rfl,λk A=>by omega⟩
 .rintro i x hi ⟨rfl,z⟩;refine dy ?_;refine cY (aS ?_);refine aJ (λh=>aj ⟨by omega,by omega,λ_=>h,λh=>by omega⟩) λh=>aj ⟨gM,λk A=>?_⟩
  rcases bx k i with h1|h1
  .exact z k h1
  .rw[show k=i by omega];exact h
 .rintro x ⟨rfl,z⟩;exact du (aj ⟨by omega,by omega,λh=>by omega,λ_=>iP (T:=tY) (p:=λc=>c.1≠s) z⟩)
def am6 {s:ζ} (h: -1<=a/\a<Jc.length/\(0<=a->(geti tY Jc a).1=s)/\(a<0->∀c∈Jc,c.1≠s)):(s=[109]->a=0)/\(s=[110]->a=1)/\(s=[114]->a=2):=by
 obtain⟨h0,h1,z,A⟩:=h;have h1:a<3:=h1;rcases (by omega:a= -1\/a=0\/a=1\/a=2) with rfl|rfl|rfl|rfl
 .have A:=A (by decide);exact⟨λh=>(A ([109],aa) (by decide) h.symm).elim,λh=>(A ([110],aa) (by decide) h.symm).elim,λh=>(A ([114],J) (by decide) h.symm).elim⟩
 .have z:[109]=s:=z (by decide);subst z;exact⟨λ_=>rfl,nofun,nofun⟩
 .have z:[110]=s:=z (by decide);subst z;exact⟨nofun,λ_=>rfl,nofun⟩
 .have z:[114]=s:=z (by decide);subst z;exact⟨nofun,nofun,λ_=>rfl⟩
def Cw (w:WT) (s:ζ) (N:w.1=C0):Ok (mD (w,s)) λr=>(s∈NV->s∉L0->0<=r/\r<=2)/\(s=[113]->r=3):=by
 have hl:l! w.1=5:=by rw[N];rfl
 unfold mD bS bX bf c5 aH cW;refine cH (l! w.1) (λi x=>x.1=(i:Int)/\x.2=w/\∀k:Nat,k<i->(geti mA w.1 (k:Int)).1≠s) ?_ ?_ ⟨rfl,rfl,λk hk=>by omega⟩
 .rintro i ⟨a,x⟩ hi ⟨D,e2,z⟩;dsimp only at D e2 z;subst D;have e2:=e2.symm;subst e2;refine dy ?_;refine cY (aS ?_);refine aJ (λh=>aj ?_) λg=>aj ?_
  .rw[N]at h z;rw[hl]at hi;rcases (by omega:i=0\/i=1\/i=2\/i=3\/i=4) with rfl|rfl|rfl|rfl|rfl
   .have h:[120]=s:=h;subst h;exact⟨λ_ _=>⟨by dsimp only;omega,by dsimp only;omega⟩,nofun⟩
   .have h:[121]=s:=h;subst h;exact⟨λ_ _=>⟨by dsimp only;omega,by dsimp only;omega⟩,nofun⟩
   .have h:[118]=s:=h;subst h;exact⟨λ_ _=>⟨by dsimp only;omega,by dsimp only;omega⟩,nofun⟩
   .have h:[113]=s:=h;subst h;exact⟨λh=>co h (by decide),λ_=>rfl⟩
   .have h:[113]=s:=h;exact (z 3 (by omega) h).elim
  .refine ⟨gM,rfl,λk hk=>?_⟩;rcases bx k i with h1|h1
   .exact z k h1
   .rw[show k=i by omega];exact g
 .rintro⟨a,x⟩ ⟨D,e2,z⟩;dsimp only at D e2 z;subst D;have e2:=e2.symm;subst e2;refine du (aj ?_);have A:=iP (T:=mA) (p:=λc=>c.1≠s) z;rw[N]at A;have a1:=A ([120],0,0,aa,0) (by decide);have a2:=A ([121],0,0,aa,1) (by decide);have a3:=A ([118],0,0,J,0) (by decide);have a4:=A ([113],0,2,aa,0) (by decide);refine ⟨λh L=>?_,λh=>(a4 h.symm).elim⟩;simp only[aZ,cu,fJ,L0]at h L;rcases h with rfl|rfl|rfl|rfl|rfl
  .exact (L (.inl rfl)).elim
  .exact (L (.inr rfl)).elim
  .exact (a1 rfl).elim
  .exact (a2 rfl).elim
  .exact (a3 rfl).elim
def KN (i:IT) (g:GN) (out:Y IT) (h:l! out<=100000000):Ok (cO (i,g,out)) λy=>y.1=g/\y.2=out++[(i.1,i.2.1,i.2.2.1,i.2.2.2.1,i.2.2.2.2.1,g.2.2.2.2.2.2.2.1)]:=by
 unfold cO a8 bt bI iC bT;exact a! (aj ⟨rfl,rfl⟩)
def VE:Nat->Nat
 |0=>0
 |d+1=>1+2*VE d
def Ly {l m:Y IT} (h:i<l! l):iA (l++m) i=iA l i:=by
 unfold iA;rw[zM,zM,ax,ax,bj h]
def zH (l:Y IT) (x:IT):iA (l++[x]) (l! l)=x:=by
 unfold iA;rw[zM,ax,bO (bV _)];simp
structure QC (nT:Nat) (ss:List π) (t:Int) (n:Nat) (out o:List IT):Prop where
 l:l! out<=l! o
 u:l! o<=l! out+n
 p:∀k:Nat,k<l! out->iA o k=iA out k
 b:sg o (l! out) (l! o)
 i:∀k:Nat,l! out<=k->k<l! o->GI nT ss t (iA o k)
 r:∀k:Nat,l! out<=k->k<l! o->(iA o k).1=10->0<=(iA o k).2.2.1/\(iA o k).2.2.1<=(l! o:Int)
variable {nT:Nat} {ss:Y π} {t:Int}
def QC.nil (n:Nat) (out:Y IT):QC nT ss t n out out:=⟨bV _,by omega,λ_ _=>rfl,sg.nil _ _,λk h1 z=>by omega,λk h1 z=>by omega⟩
def QC.trans {c:Nat} {x y z:Y IT} (h:QC nT ss t i x y) (k:QC nT ss t j y z) (hc:i+j<=c):QC nT ss t c x z:=by
 obtain⟨h1,h2,h3,h4,h5,h6⟩:=h;obtain⟨k1,k2,k3,k4,k5,k6⟩:=k;refine ⟨by omega,by omega,λq A=>(k3 q (by omega)).trans (h3 q A),(h4.congr λq _ A=>k3 q A).app k4,λq N L=>?_,λq N L D=>?_⟩
 .by_cases A:q<l! y
  .rw[k3 q A];exact h5 q N A
  .exact k5 q (by omega) L
 .by_cases A:q<l! y
  .rw[k3 q A]at D ⊢;have:=h6 q N A D;omega
  .exact k6 q (by omega) L D
def QC.one {out:Y IT} {i:IT} (h:GI nT ss t i) (z:¬i.1=5/\¬i.1=10):QC nT ss t 1 out (out++[i]):=by
 have D:l! (out++[i])=l! out+1:=by rw[bc];rfl
 refine ⟨by omega,by omega,λk L=>Ly L,?_,λk h1 N=>?_,λk h1 N A=>?_⟩
 .rw[D];exact sg.one (by rw[zH];exact z.1)
 .rw[show k=l! out by omega,zH];exact h
 .rw[show k=l! out by omega,zH]at A;exact (z.2 A).elim
structure GK (ss:List π) (t:Int) (g:GN):Prop where
 c:g.1=C0
 l:g.2.2.2.2.2.2.1=L0
 s:SO ss t g.2.2.2.2.2.2.2.1
def goI {nT:Nat} {op B C N y:Int} (h1:1<=op) (L:op<=27) (z:∀j:Int,j∈jD (op,a,B,C,N,y)->0<=j/\j<32) (D:OB nT (op,a,B,C,N,y)):GO nT (op,a,B,C,N,y):=⟨h1,L,z,D⟩
def GM {op:Int} {r:υ} {g:GN} {out:Y IT} (h:l! out<=100000000) (A:GK ss t g) (hi:GO nT (op,r)) (D:¬op=5/\¬op=10):Ok (cO ((op,r),g,out)) λy=>y.1=g/\QC nT ss t 1 out y.2:=(KN (op,r) g out h).mono λy z=>⟨z.1,by rw[z.2];exact QC.one ⟨⟨hi.o1,hi.o2,hi.r,hi.b⟩,A.s⟩ D⟩
abbrev x?:=GN×Y IT
def Py:∀(n d:Nat),d<n->∀(e:Xp) (k:Int) (g:GN) (out:Y IT),GE d e->GK ss t g->0<=k->k+d<=31->l! out+VE d<=100000000->Ok (ju n ((e,k),g,out)) λy=>y.1=g/\QC nT ss t (VE d) out y.2
 |0,_,h,_,_,_,_,_,_,_,_,_=>by omega
 |n+1,0,_,e,_,_,_,h,_,_,_,_=>h.elim
 |n+1,d+1,hn,e,k,g,out,h,hg,k0,k1,hb=>by
  obtain⟨h1,h2,h3,h4,h5,h6⟩:=h;obtain⟨gc,gl,gs⟩:=id hg;have hv:VE (d+1)=1+2*VE d:=rfl;rw[CS];unfold rS a8 bt bI cA dO bq kq bT bX aH cW;refine aY (λy=>y.1=g/\QC nT ss t (VE (d+1)) out y.2) ?_ λx hx=>aj hx
  have fin:∀{y:x?},(y.1=g/\QC nT ss t 1 out y.2)->y.1=g/\QC nT ss t (VE (d+1)) out y.2:=λh=>⟨h.1,(QC.nil 0 out).trans h.2 (by omega)⟩
  refine aJ (λ_=>?_) λn1=>?_
  .refine aw (GM (nT:=nT) (by omega) hg (goI (by decide) (by decide) (by simp[jD];omega) ((by decide:¬(1:Int)=3))) (by decide)) λy z=>bh (by simp) (aj (fin z))
  refine aJ (λn2=>?_) λn2=>?_
  .refine aw (AD _ _ (by dsimp only;rw[gl];decide)) λv hv=>fF (λg0=>?_) λg0=>?_
   .have A:=hv.2.1;dsimp only at A g0;rw[gl]at A;have A:v<2:=A;refine aw (GM (nT:=nT) (by omega) hg (goI (by decide) (by decide) (by simp[jD];omega) ((by decide:¬(2:Int)=3))) (by decide)) λy z=>bh (by simp) (aj (fin z))
   .have A:=hv.2.2.2 g0;dsimp only at A;rw[gl]at A;refine aw (Cw _ _ gc) λv N=>?_
    have v2:=N.1 (h5 n2) A;refine aw (GM (nT:=nT) (by omega) hg (goI (by decide) (by decide) (by simp[jD];omega) (v2)) (by decide)) λy z=>bh (by simp) (aj (fin z))
  have hl:=h2 n1 n2;have hrec:∀(j:Nat),j<l! e.l->∀(k':Int) (o:Y IT),0<=k'->k'+d<=31->l! o+VE d<=100000000->Ok (ju n ((geti (.ex) e.l (j:Int),k'),g,o)) λy=>y.1=g/\QC nT ss t (VE d) o y.2:=λj hj k' o q0 L ho=>Py n d (by omega) _ k' g o (h4 _ (b8 (T:=.ex) (xs:=e.l) (j:=(j:Int)) (by omega) (by omega))) hg q0 L ho
  refine aJ (λn3=>?_) λn3=>?_
  .refine cY (aS ?_);refine aw (hrec 0 hl k out k0 (by omega) (by omega)) λy z=>?_
   obtain⟨g2,o2⟩:=y;obtain⟨L,D⟩:=z;dsimp only at L D;subst L;have q3:=D.u;refine bh (by simp) ?_;refine aw (Cw _ _ gc) λv N=>?_
   have v3:=N.2 (h1 n3);have v3:v=3:=v3;subst v3;refine aN (by decide) (by dsimp only;rw[gc];decide) (aS ?_);refine aw (GM (nT:=nT) (by omega) hg (goI (by decide) (by decide) (by simp[jD];omega) (⟨rfl,by dsimp only;rw[gc];rfl⟩)) (by decide)) λy z=>bh (by simp) (aj ⟨z.1,D.trans z.2 (by omega)⟩)
  obtain⟨h7,h8,h9⟩:=h6 n1 n2 n3;refine aJ (λn4=>?_) λn4=>?_
  .dsimp only[al]at n4;omega
  .have hl2:1<l! e.l:=by omega
   refine cY (aS ?_);refine aw (hrec 0 hl k out k0 (by omega) (by omega)) λy z=>?_
   obtain⟨g2,o2⟩:=y;obtain⟨L,D⟩:=z;dsimp only at L D;subst L;have q3:=D.u;refine bh (by simp) ?_;refine cY (aS ?_);dsimp only;rw[iW (n:=k+1) (by omega) (by omega)];refine aw (hrec 1 hl2 _ o2 (by omega) (by omega) (by omega)) λy z=>?_
   obtain⟨g3,o3⟩:=y;obtain⟨r1,r2⟩:=z;dsimp only at r1 r2;subst r1;have r3:=r2.u;refine bh (by simp) ?_;refine aw (GM (nT:=nT) (by omega) hg (goI (by decide) (by decide) (by simp[jD];omega) (⟨h8,h9⟩)) (by decide)) λy z=>bh (by simp) (aj ⟨z.1,(D.trans r2 (bV _)).trans z.2 (by omega)⟩)
def WH (e:Xp) (k:Int) (g:GN) (out:Y IT) (he:GE 4 e) (A:GK ss t g) (z:0<=k) (k1:k<=27) (h:l! out<=99999900):Ok (ji ((e,k),g,out)) λy=>y.1=g/\QC nT ss t 15 out y.2:=Py fuel 4 (by rw[kP];omega) e k g out he A z (by omega) (by have:VE 4=15:=rfl;omega)
end
section
structure GB (nT:Nat) (g:GN):Prop where
 c:g.1=C0
 l:g.2.1=Jc
 d:g.2.2.1=O0
 f:g.2.2.2.1=Wk
 t:g.2.2.2.2.1=xL.take nT
 h:g.2.2.2.2.2.2.1=L0
structure GQ (g y:GN):Prop where
 a:y.1=g.1
 b:y.2.1=g.2.1
 c:y.2.2.1=g.2.2.1
 d:y.2.2.2.1=g.2.2.2.1
 e:y.2.2.2.2.1=g.2.2.2.2.1
 h:y.2.2.2.2.2.2.1=g.2.2.2.2.2.2.1
def GQ.refl (g:GN):GQ g g:=⟨rfl,rfl,rfl,rfl,rfl,rfl⟩
def GQ.trans {a b c:GN} (h:GQ a b) (k:GQ b c):GQ a c:=⟨k.a.trans h.a,k.b.trans h.b,k.c.trans h.c,k.d.trans h.d,k.e.trans h.e,k.h.trans h.h⟩
variable {nT:Nat} {ss:Y π} {t:Int}
def GB.of {g y:GN} (h:GB nT g) (q:GQ g y):GB nT y:=⟨q.a.trans h.c,q.b.trans h.l,q.c.trans h.d,q.d.trans h.f,q.e.trans h.t,q.h.trans h.h⟩
def GQ.site (g:GN) (x:Y π) (a b:Int):GQ g (g.1,g.2.1,g.2.2.1,g.2.2.2.1,g.2.2.2.2.1,x,g.2.2.2.2.2.2.1,a,b):=⟨rfl,rfl,rfl,rfl,rfl,rfl⟩
abbrev gS (g:GN):Int:=g.2.2.2.2.2.2.2.1
abbrev gN (g:GN):Int:=g.2.2.2.2.2.2.2.2
structure QG (nT:Nat) (ss:List π) (t:Int) (n m:Nat) (g:GN) (out:List IT) (y:GN×List IT):Prop where
 q:GQ g y.1
 c:QC nT ss t n out y.2
 x:gN y.1=gN g+(m:Int)
def y_ {op:Int} {r:υ} {g:GN} {out:Y IT} (h:l! out<=100000000) (z:GB nT g) (A:SO ss t (gS g)) (hi:GO nT (op,r)) (D:¬op=5/\¬op=10):Ok (cO ((op,r),g,out)) λy=>y.1=g/\QC nT ss t 1 out y.2:=GM h ⟨z.c,z.h,A⟩ hi D
def EG (e:Xp) (k:Int) (g:GN) (out:Y IT) (he:GE 4 e) (z:GB nT g) (D:SO ss t (gS g)) (A:0<=k) (k1:k<=27) (h:l! out<=99999000):Ok (ji ((e,k),g,out)) λy=>y.1=g/\QC nT ss t 15 out y.2:=WH e k g out he ⟨z.c,z.h,D⟩ A k1 (by omega)
def GB.len {g:GN} (h:GB nT g):aP (ah g.2.2.2.2.2.2.1)=2:=by rw[h.h];rfl
def YB (s:Sx) (g:GN) (out:Y IT) (h1:s.index≠[]->s.name=[113]) (h2:∀e∈s.index,GE 4 e) (h3:GE 4 s.expr) (h4:s.index=[]->s.name∈NV) (z:GB nT g) (hs:SO ss t (gS g)) (h:l! out<=99990000):Ok (m7 (s,g,out)) λy=>y.1=g/\QC nT ss t 40 out y.2:=by
 have hex:GE 4 (eD (Xp.op s.expr,Xp.n s.expr,Xp.name s.expr,Xp.l s.expr)):=by rw[fB];exact h3
 have e3:bA .i64 ((2:Int)+1)=3:=iW (by decide) (by decide);unfold m7 a8 bt bI cA dO bS kq bT bX bf;refine bW (λD=>?_) λD=>?_
 .dsimp only[al]at D;refine cY (aS ?_);refine aw (EG _ _ g out (h2 _ (b8 (T:=.ex) (xs:=s.index) (j:=0) (by omega) (by omega))) z hs (by rw[z.len];decide) (by rw[z.len];decide) (by omega)) λy A=>?_
  obtain⟨g2,o2⟩:=y;obtain⟨q1,N⟩:=A;dsimp only at q1 N;subst q1;have q3:=N.u;refine bh (by simp) ?_;dsimp only;rw[z.len,e3];refine aw (EG _ _ g2 o2 hex z hs (by decide) (by decide) (by omega)) λy A=>?_
  obtain⟨g3,o3⟩:=y;obtain⟨r1,r2⟩:=A;dsimp only at r1 r2;subst r1;have r3:=r2.u;refine bh (by simp) ?_;refine aw (Cw _ _ z.c) λv hv=>?_
  have v3:=hv.2 (h1 (λh=>by rw[h]at D;simp at D));have v3:v=3:=v3;subst v3;refine aN (by decide) (by dsimp only;rw[z.c];decide) (aS ?_);refine aw (y_ (by omega) z hs (goI (by decide) (by decide) (by simp[jD,z.h,L0]) (⟨rfl,by dsimp only;rw[z.c];rfl⟩)) (by decide)) λy A=>bh (by simp) (aj ⟨A.1,(N.trans r2 (bV _)).trans A.2 (by omega)⟩)
 .have hi0:s.index=[]:=dG.1 (by dsimp only[al]at D;omega);refine aw (EG _ _ g out hex z hs (by rw[z.len];decide) (by rw[z.len];decide) (by omega)) λy A=>?_
  obtain⟨g2,o2⟩:=y;obtain⟨q1,N⟩:=A;dsimp only at q1 N;subst q1;have q3:=N.u;refine bh (by simp) ?_;refine aw (AD _ _ (by dsimp only;rw[z.h];decide)) λv hv=>fF (λD=>?_) λD=>?_
  .have L:=hv.2.1;dsimp only at L D;rw[z.h]at L;have L:v<2:=L;refine aw (y_ (by omega) z hs (goI (by decide) (by decide) (by simp[jD,z.h,L0];omega) ((by decide:¬(2:Int)=3))) (by decide)) λy A=>bh (by simp) (aj ⟨A.1,N.trans A.2 (by omega)⟩)
  .have L:=hv.2.2.2 D;dsimp only at L;rw[z.h]at L;refine aw (Cw _ _ z.c) λv hv2=>?_
   have v2:=hv2.1 (h4 hi0) L;refine aw (y_ (by omega) z hs (goI (by decide) (by decide) (by simp[jD,z.h,L0]) (v2)) (by decide)) λy A=>bh (by simp) (aj ⟨A.1,N.trans A.2 (by omega)⟩)
def agj (s:ζ) (g:GN) (out:Y IT) (D:GB nT g):Ok (kg (s,g,out)) λy=>y.2=(g,out)/\(s=[99]->y.1=0):=by
 have hd:l! g.2.2.1=1:=by rw[D.d];rfl
 unfold kg a8 bS bX bf c5 aH cW;refine cH 1 (λi x=>x.1=(i:Int)/\x.2=(g,out)/\(s=[99]->i=0)) ?_ ?_ ⟨rfl,rfl,λ_=>rfl⟩
 .rintro i ⟨a,x⟩ hi ⟨z,e2,A⟩;dsimp only at z e2 A;subst z e2;refine dy ?_;refine cY (aS ?_);refine aJ (λ_=>aj ⟨rfl,λ_=>by dsimp only;omega⟩) λh=>aj ⟨gM,rfl,λL=>?_⟩
  refine (h ?_).elim;dsimp only;rw[D.d,show i=0 by omega,L];rfl
 .rintro⟨a,x⟩ ⟨z,e2,A⟩;dsimp only at z e2 A;subst z e2;exact du (aj ⟨rfl,λh=>by have:=A h;omega⟩)
def ME:Nat->Nat
 |0=>0
 |d+1=>50+16*ME d
def SR (ss:Y π) (t a:Int) (m:Nat):Prop:=0<=a/\a+m<=1000/\∀i:Int,a<=i->i<a+m->SO ss t i
def SpG (nT:Nat) (ss:Y π) (t:Int) (z:Sx×x?->M x?) (d:Nat):Prop:=∀(s:Sx) (g:GN) (out:Y IT),GS nT d s->GB nT g->SR ss t (gN g) (Ss d s)->l! out+ME d<=90000000->Ok (z (s,g,out)) (QG nT ss t (ME d) (Ss d s) g out)
def ah8 (nT:Nat) (ss:Y π) (t:Int) (z:Y Sx×x?->M x?) (d:Nat):Prop:=∀(l:Y Sx) (g:GN) (out:Y IT),l! l<=100->(∀s∈l,GS nT d s)->GB nT g->SR ss t (gN g) (oU d l)->l! out+l! l*ME d<=90000000->Ok (z (l,g,out)) (QG nT ss t (l! l*ME d) (oU d l) g out)
end
section
abbrev FS6:Type:=Y Sx×x?->M x?
abbrev FT6:Type:=Sx×x?->M x?
abbrev FA6:Type:=(Sx×Int×Int×Int)×x?->M x?
variable {nT:Nat} {ss:Y π} {t:Int}
def aom (nT:Nat) (ss:Y π) (t:Int) (z:FT6) (d:Nat):Prop:=∀(s:Sx) (g:GN) (out:Y IT),s.op=2\/s.op=3->GE 4 s.expr->l! s.body<=8->l! s.els<=8->(∀x∈s.body,GS nT d x)->(∀x∈s.els,GS nT d x)->(¬s.op=2->s.els=[])->GB nT g->SO ss t (gS g)->SR ss t (gN g) (oU d s.body+oU d s.els)->l! out+ME (d+1)<=90000000->Ok (z (s,g,out)) (QG nT ss t (17+16*ME d) (oU d s.body+oU d s.els) g out)
def aon (nT:Nat) (ss:Y π) (t:Int) (z:FA6) (d:Nat):Prop:=∀(s:Sx) (a b c:Int) (g:GN) (out:Y IT),l! s.body<=8->(∀x∈s.body,GS nT d x)->GO nT (a,c,0,0,0,0)->GO nT (b,c,0,0,0,0)->¬a=5/\¬a=10->¬b=5/\¬b=10->GB nT g->SO ss t (gS g)->SR ss t (gN g) (oU d s.body)->l! out+ME (d+1)<=90000000->Ok (z ((s,a,b,c),g,out)) (QG nT ss t (17+16*ME d) (oU d s.body) g out)
def SR.sub {b:Int} {n:Nat} (h:SR ss t a i) (h1:a<=b) (z:b+n<=a+i):SR ss t b n:=⟨by have:=h.1;omega,by have:=h.2.1;omega,λm D A=>h.2.2 m (by omega) (by omega)⟩
def XQ (rs:FS6) (N:FT6) (rb:FT6) (ra:FA6) (d:Nat) (ht:SpG nT ss t N d):ah8 nT ss t (rT rs N rb ra) d:=by
 intro l g out hl hs hg hso hb;unfold rT bS bT bX bf c5 aH cW;refine cH (l! l) (λi x=>x.1=(i:Int)/\QG nT ss t (i*ME d) (oU d (l.take i)) g out x.2) ?_ ?_ ⟨rfl,GQ.refl g,QC.nil _ _,by simp[oU]⟩
 .rintro i ⟨a,g2,o2⟩ hi ⟨z,D,A,q3⟩;dsimp only at z D A q3;subst z;have hK:(i+1)*ME d<=l! l*ME d:=cQ _ (by omega);have hKs:=iD i (ME d);rw[Nat.succ_eq_add_one]at hKs;have hp:=R3 (d:=d) l (i+1);rw[yD hi]at hp;have q4:=A.u;refine dy ?_;refine cY (aS ?_);refine aw (ht _ g2 o2 (hs _ (b8 (T:=.sm) (xs:=l) (j:=(i:Int)) (by omega) (by omega))) (hg.of D) (hso.sub (by rw[q3];omega) (by rw[q3];dsimp only;omega)) (by omega)) λy L=>bh (by simp) (aj ?_)
  rw[yD hi];exact⟨gM,D.trans L.q,A.trans L.c (by omega),by rw[L.x,q3];dsimp only;omega⟩
 .rintro⟨a,g2,o2⟩ ⟨z,q⟩;dsimp only at z;subst z;rw[cr]at q;exact du (aj q)
def Uw (rs:FS6) (rt:FT6) (rb:FT6) (ra:FA6) (d:Nat) (hS:ah8 nT ss t rs d):aon nT ss t (qe rs rt rb ra) d:=by
 intro s a b c g out h1 h2 ga gb na nb L hs hso hb;have hm:ME (d+1)=50+16*ME d:=rfl;have kb:l! s.body*ME d<=8*ME d:=cQ _ h1;unfold qe a8 bt bI cA dO iC b_ wG bT;refine aw (y_ (by omega) L hs ga na) λy z=>?_
 obtain⟨g2,o2⟩:=y;obtain⟨q1,D⟩:=z;dsimp only at q1 D;subst q1;have q3:=D.u;refine bh (by simp) ?_;refine aw (hS s.body g2 o2 (by omega) h2 L hso (by omega)) λy z=>?_
 obtain⟨N,o3⟩:=y;obtain⟨r1,A,r3⟩:=z;dsimp only at r1 A r3;have r4:=A.u;refine bh (by simp) ?_;have qs:=r1.trans (GQ.site N N.2.2.2.2.2.1 g2.2.2.2.2.2.2.2.1 N.2.2.2.2.2.2.2.2);refine aw (y_ (by dsimp only;omega) (L.of qs) hs gb nb) λy z=>bh (by simp) (aj ⟨?_,?_,?_⟩)
 .rw[z.1];exact qs
 .exact (D.trans A (bV _)).trans z.2 (by omega)
 .rw[z.1];exact r3
def Bl {l:Y IT} {x:IT} (h:j<l! l):iA (cN l (j:Int) x) i=if i=j then x else iA l i:=LV (T:=sk) l j i x h
abbrev ptB (l:Y IT) (j:Nat) (b:Int):Y IT:=cN l (j:Int) ((iA l j).1,(iA l j).2.1,b,(iA l j).2.2.2.1,(iA l j).2.2.2.2.1,(iA l j).2.2.2.2.2)
abbrev ptA (l:Y IT) (j:Nat) (a:Int):Y IT:=cN l (j:Int) ((iA l j).1,a,(iA l j).2.2.1,(iA l j).2.2.2.1,(iA l j).2.2.2.2.1,(iA l j).2.2.2.2.2)
def GI.pb {i:IT} (h:GI nT ss t i) (h1:i.1=10):GI nT ss t (i.1,i.2.1,a,i.2.2.2.1,i.2.2.2.2.1,i.2.2.2.2.2):=by
 obtain⟨N,i2,L,D,A,z⟩:=i;dsimp only at h1;subst h1;exact⟨⟨h.o.o1,h.o.o2,h.o.r,(by decide:¬(10:Int)=3)⟩,h.s⟩
def QC.cbr {out A o2 L:Y IT} {D:IT} (h1:QC nT ss t i out A) (h2:o2=A++[D]) (hb:GI nT ss t D) (h10:D.1=10) (h3:QC nT ss t j o2 L) (F:Y IT) (hl:l! L<=l! F) (hF:∀k:Nat,k<l! L->¬k=l! A->iA F k=iA L k) (hFb:∃b:Int,(0<=b/\b<=(l! F:Int))/\iA F (l! A)=(D.1,D.2.1,b,D.2.2.2.1,D.2.2.2.2.1,D.2.2.2.2.2)):(∀k:Nat,k<l! out->iA F k=iA out k)/\sg F (l! out) (l! A)/\(iA F (l! A)).1=10/\sg F (l! A+1) (l! L)/\(∀k:Nat,l! out<=k->k<l! L->GI nT ss t (iA F k))/\∀k:Nat,l! out<=k->k<l! L->(iA F k).1=10->0<=(iA F k).2.2.1/\(iA F k).2.2.1<=(l! F:Int):=by
 have l2:l! o2=l! A+1:=by rw[h2,bc];rfl
 have l1:=h1.l;have l3:=h3.l;have e1:∀k:Nat,k<l! A->iA F k=iA A k:=λk z=>by rw[hF k (by omega) (by omega),h3.p k (by omega),h2,Ly z]
 obtain⟨b,hb0,eb⟩:=hFb;refine ⟨λk z=>(e1 k (by omega)).trans (h1.p k z),h1.b.congr λk _ z=>e1 k z,by rw[eb];exact h10,?_,λk g1 N=>?_,λk g1 N g3=>?_⟩
 .have:=h3.b;rw[l2]at this;exact this.congr λk g1 N=>hF k N (by omega)
 .rcases Qn k (l! A) with z|z|z
  .rw[e1 k z];exact h1.i k g1 z
  .rw[z,eb];exact hb.pb h10
  .rw[hF k N (by omega)];exact h3.i k (by omega) N
 .rcases Qn k (l! A) with z|z|z
  .rw[e1 k z]at g3 ⊢;have:=h1.r k g1 z g3;omega
  .rw[z,eb];exact hb0
  .rw[hF k N (by omega)]at g3 ⊢;have:=h3.r k (by omega) N g3;omega
def Oo (rs:FS6) (rt:FT6) (rb:FT6) (ra:FA6) (d:Nat) (hS:ah8 nT ss t rs d):aom nT ss t (nM rs rt rb ra) d:=by
 intro s g out hop he h1 h2 h3 h4 hel hg hs hso hb;have hm:ME (d+1)=50+16*ME d:=rfl;have kb:l! s.body*ME d<=8*ME d:=cQ _ h1;have ke:l! s.els*ME d<=8*ME d:=cQ _ h2;have hex:GE 4 (eD (Xp.op s.expr,Xp.n s.expr,Xp.name s.expr,Xp.l s.expr)):=by rw[fB];exact he
 unfold nM a8 bt bI cA dO iC wG ck bq bT bf;refine aw (EG _ _ g out hex hg hs (by rw[hg.len];decide) (by rw[hg.len];decide) (by omega)) λy hy=>?_
 obtain⟨g1,o1⟩:=y;obtain⟨p1,p2⟩:=hy;dsimp only at p1 p2;subst p1;have p3:=p2.u;have p4:=p2.l;refine bh (by simp) ?_;refine aw (KN _ g1 o1 (by omega)) λy hy=>?_
 obtain⟨D,o2⟩:=y;obtain⟨q1,q2⟩:=hy;dsimp only at q1 q2;subst q1;rw[hg.len]at q2;have hbr:GI nT ss t ((10,2,0,0,0,D.2.2.2.2.2.2.2.1):IT):=⟨goI (by decide) (by decide) (by simp[jD]) (by decide:¬(10:Int)=3),hs⟩
 have l2:l! o2=l! o1+1:=by rw[q2,bc];rfl
 refine bh (by simp) ?_;refine aw (hS s.body D o2 (by omega) h3 hg (hso.sub (dC _) (by omega)) (by omega)) λy hy=>?_
 obtain⟨g3,A⟩:=y;obtain⟨r1,r2,r3⟩:=hy;dsimp only at r1 r2 r3;have r4:=r2.u;have r5:=r2.l;have ebr:iA A (l! o1)=(10,2,0,0,0,D.2.2.2.2.2.2.2.1):=by rw[r2.p _ (by omega),q2,zH]
 refine bh (by simp) ?_;have qs:=r1.trans (GQ.site g3 g3.2.2.2.2.2.1 D.2.2.2.2.2.2.2.1 g3.2.2.2.2.2.2.2.2);refine aJ (λh3w=>?_) λh3w=>?_
 .have hels:oU d s.els=0:=by rw[hel (by have h3w:s.op=3:=h3w;omega)];rfl
  rw[hels,cX];refine aw (KN _ _ A (by omega)) λy hy=>?_
  obtain⟨g4,L⟩:=y;obtain⟨w1,w2⟩:=hy;dsimp only at w1 w2;have l4:l! L=l! A+1:=by rw[w2,bc];rfl
  refine bh (by simp) (aN (eU _) (by dsimp only[al];omega) (aN (eU _) (by dsimp only[al];omega) (aj ?_)));have hat:l! o1<l! L:=by omega
  have ej:iA L (l! A)=(5,(l! out:Int),0,0,0,D.2.2.2.2.2.2.2.1):=by rw[w2,zH];rfl
  have e43:∀k:Nat,k<l! A->iA L k=iA A k:=λk N=>by rw[w2,Ly N]
  refine ⟨by dsimp only;rw[w1];exact qs,?_,by dsimp only;rw[w1];exact r3⟩;dsimp only;have eF:∀{z:IT} {k:Nat},¬k=l! o1->iA (cN L ((l! o1:Nat):Int) z) k=iA L k:=λh=>by rw[Bl hat,av h]
  obtain⟨f1,f2,f3,f4,f5,f6⟩:=p2.cbr q2 hbr rfl r2 (ptB L (l! o1) (aP (l! L))) (by rw[ca];omega) (λk N hn=>(eF hn).trans (e43 k N)) ⟨_,⟨eU _,by rw[ca];exact dC _⟩,by rw[Bl hat,aC rfl,e43 _ (by omega),ebr];rfl⟩;show QC nT ss t _ out (ptB L (l! o1) (aP (l! L)));have ejF:iA (ptB L (l! o1) (aP (l! L))) (l! A)=(5,(l! out:Int),0,0,0,D.2.2.2.2.2.2.2.1):=(eF (by omega:¬l! A=l! o1)).trans ej;refine ⟨by rw[ca];omega,by rw[ca];omega,f1,?_,λk g1 D=>?_,λk g1 D g3=>?_⟩
  .rw[(ca _ _ _).trans l4];exact f2.whl f3 f4 (by rw[ejF]) (by rw[ejF])
  .rw[ca,l4]at D;by_cases N:k<l! A
   .exact f5 k g1 N
   .rw[show k=l! A by omega,ejF];exact⟨goI (by decide) (by decide) (by simp[jD]) (by decide:¬(5:Int)=3),hs⟩
  .have g2':=D;rw[ca,l4]at g2';by_cases N:k<l! A
   .exact f6 k g1 N g3
   .rw[show k=l! A by omega,ejF]at g3;cases g3
 refine aJ (λhz=>?_) λ_=>?_
 .have hels:oU d s.els=0:=by rw[dG.1 (by dsimp only[al]at hz;omega:l! s.els=0)];rfl
  rw[hels,cX];refine aN (eU _) (by dsimp only[al];omega) (aN (eU _) (by dsimp only[al];omega) (aj ⟨qs,?_,r3⟩));dsimp only;have hat:l! o1<l! A:=by omega
  obtain⟨f1,f2,f3,f4,f5,f6⟩:=p2.cbr q2 hbr rfl r2 (ptB A (l! o1) (aP (l! A))) (by rw[ca];omega) (λk N hn=>by rw[Bl hat,av hn]) ⟨_,⟨eU _,by rw[ca];exact dC _⟩,by rw[Bl hat,aC rfl,ebr];rfl⟩;show QC nT ss t _ out (ptB A (l! o1) (aP (l! A)));refine ⟨by rw[ca];omega,by rw[ca];omega,f1,?_,λk g1 D=>?_,λk g1 D g3=>?_⟩
  .rw[ca];exact (f2.app (sg.one (by rw[f3];decide))).app f4
  .rw[ca]at D;exact f5 k g1 D
  .exact f6 k g1 (by rw[ca]at D;exact D) g3
 .refine aw (KN _ _ A (by omega)) λy hy=>?_
  obtain⟨g4,L⟩:=y;obtain⟨w1,w2⟩:=hy;dsimp only at w1 w2;have l4:l! L=l! A+1:=by rw[w2,bc];rfl
  have qs4:GQ D g4:=by rw[w1];exact qs
  have x4:gN g4=gN D+(oU d s.body:Nat):=by rw[w1];exact r3
  have hat:l! o1<l! L:=by omega
  have ej:iA L (l! A)=(5,0,0,0,0,D.2.2.2.2.2.2.2.1):=by rw[w2,zH]
  have e43:∀k:Nat,k<l! A->iA L k=iA A k:=λk N=>by rw[w2,Ly N]
  refine bh (by simp) (aN (eU _) (by dsimp only[al];omega) (aN (eU _) (by dsimp only[al];omega) ?_));have eF:∀{z:IT} {k:Nat},¬k=l! o1->iA (cN L ((l! o1:Nat):Int) z) k=iA L k:=λh=>by rw[Bl hat,av h]
  refine aw (hS s.els g4 (ptB L (l! o1) (aP (l! L))) (by omega) h4 (hg.of qs4) (hso.sub (by rw[x4];omega) (by rw[x4];omega)) (by rw[ca];omega)) λy hy=>?_
  obtain⟨g5,o5⟩:=y;obtain⟨z1,z2,z3⟩:=hy;dsimp only at z1 z2 z3;have z4:=z2.l;have z5:=z2.u;have zp:=z2.p;have zb:=z2.b;have zi:=z2.i;have zr:=z2.r;rw[ca]at z4 z5 zp zb zi zr;have hj5:l! A<l! o5:=by omega
  refine bh (by simp) (aN (eU _) (by dsimp only[al];omega) (aN (eU _) (by dsimp only[al];omega) (aj ⟨qs4.trans z1,?_,by dsimp only;rw[z3,x4];omega⟩)));dsimp only;show QC nT ss t _ out (ptA o5 (l! A) (aP (l! o5)));have eG:∀{z:IT} {k:Nat},¬k=l! A->iA (cN o5 ((l! A:Nat):Int) z) k=iA o5 k:=λh=>by rw[Bl hj5,av h]
  have ej5:iA o5 (l! A)=(5,0,0,0,0,D.2.2.2.2.2.2.2.1):=by rw[zp _ (by omega),eF (by omega),ej]
  obtain⟨f1,f2,f3,f4,f5,f6⟩:=p2.cbr q2 hbr rfl r2 (ptA o5 (l! A) (aP (l! o5))) (by rw[ca];omega) (λk N hn=>by rw[eG (by omega),zp k (by omega),eF hn,e43 k N]) ⟨aP (l! L),⟨eU _,by rw[ca];dsimp only[al];omega⟩,by rw[eG (by omega),zp _ (by omega),Bl hat,aC rfl,e43 _ (by omega),ebr]⟩;have ejF:iA (ptA o5 (l! A) (aP (l! o5))) (l! A)=(5,aP (l! o5),0,0,0,D.2.2.2.2.2.2.2.1):=by rw[Bl hj5,aC rfl,ej5]
  refine ⟨by rw[ca];omega,by rw[ca];omega,f1,?_,λk g1 D=>?_,λk g1 D g3=>?_⟩
  .rw[ca];refine ((f2.app (sg.one (by rw[f3];decide))).app f4).ite (by rw[ejF]) (by rw[ejF];rfl) ?_;rw[l4]at zb;exact zb.congr λk g1 D=>eG (by omega)
  .rw[ca]at D;rcases Qn k (l! A) with N|N|N
   .exact f5 k g1 N
   .rw[N,ejF];exact⟨goI (by decide) (by decide) (by simp[jD]) (by decide:¬(5:Int)=3),hs⟩
   .rw[eG (by omega)];exact zi k (by omega) D
  .have g2':=D;rw[ca]at g2';rcases Qn k (l! A) with N|N|N
   .exact f6 k g1 N g3
   .rw[N,ejF]at g3;cases g3
   .rw[eG (by omega)]at g3 ⊢;rw[ca];exact zr k (by omega) g2' g3
def ab4 (rs:FS6) (rt:FT6) (rb:FT6) (ra:FA6) (d:Nat) (hB:aom nT ss t rb d) (hA:aon nT ss t ra d):SpG nT ss t (tf rs rt rb ra) (d+1):=by
 intro s g out hs hg hso hb;have hm:ME (d+1)=50+16*ME d:=rfl;obtain⟨i1,i2,i3,i4,i5,i6,i7,i8,i9,N⟩:=hs;have hcn:Ss (d+1) s=1+oU d s.body+oU d s.els:=rfl;rw[hcn]at hso ⊢;obtain⟨so0,so1,so2⟩:=id hso;have so0:0<=g.2.2.2.2.2.2.2.2:=so0;have so1:g.2.2.2.2.2.2.2.2+((1+oU d s.body+oU d s.els:Nat):Int)<=1000:=so1;have ew:bA .i64 (g.2.2.2.2.2.2.2.2+1)=g.2.2.2.2.2.2.2.2+1:=iW;have gs:=GQ.site g g.2.2.2.2.2.1 g.2.2.2.2.2.2.2.2 (bA .i64 (g.2.2.2.2.2.2.2.2+1));unfold tf a8 bt bI cA dO b_ wG bq bT bf aH cW eH;refine aY (λx=>QG nT ss t (ME (d+1)) (1+oU d s.body+oU d s.els) g out x) ?_ λx hx=>aj hx
 dsimp only;have hs1:SO ss t (gS ((g.1,g.2.1,g.2.2.1,g.2.2.2.1,g.2.2.2.2.1,g.2.2.2.2.2.1,g.2.2.2.2.2.2.1,g.2.2.2.2.2.2.2.2,bA .i64 (g.2.2.2.2.2.2.2.2+1)):GN)):=so2 _ (dC _) (by show g.2.2.2.2.2.2.2.2<g.2.2.2.2.2.2.2.2+((1+oU d s.body+oU d s.els:Nat):Int);omega);have hn1:gN ((g.1,g.2.1,g.2.2.1,g.2.2.2.1,g.2.2.2.2.1,g.2.2.2.2.2.1,g.2.2.2.2.2.2.1,g.2.2.2.2.2.2.2.2,bA .i64 (g.2.2.2.2.2.2.2.2+1)):GN)=gN g+1:=ew;revert gs hs1 hn1;generalize ((g.1,g.2.1,g.2.2.1,g.2.2.2.1,g.2.2.2.2.1,g.2.2.2.2.2.1,g.2.2.2.2.2.2.1,g.2.2.2.2.2.2.2.2,bA .i64 (g.2.2.2.2.2.2.2.2+1)):GN)=L;intro gs hs1 hn1;have D:=hg.of gs;have hso1:=hso.sub (b:=gN L) (n:=oU d s.body+oU d s.els) (by rw[hn1];omega) (by rw[hn1];omega);have fin:∀(n m:Nat) (y:x?),QG nT ss t n m L out y->n<=ME (d+1)->m=oU d s.body+oU d s.els->QG nT ss t (ME (d+1)) (1+oU d s.body+oU d s.els) g out y:=λn m y A hn hm=>⟨gs.trans A.q,(QC.nil 0 out).trans A.c (by omega),by rw[A.x,hn1];omega⟩
 have fin0:s.op=1\/9<=s.op->∀(n:Nat) (y:x?),y.1=L/\QC nT ss t n out y.2->n<=ME (d+1)->QG nT ss t (ME (d+1)) (1+oU d s.body+oU d s.els) g out y:=λz n y A hn=>fin n 0 y ⟨by rw[A.1];exact GQ.refl L,A.2,by rw[A.1];simp⟩ hn (by rw[N.bo z,N.el (by omega)];rfl)
 refine aJ (λz=>?_) λ_=>?_
 .refine aw (YB (pa _) L out ?_ ?_ ?_ ?_ D hs1 (by omega)) λy A=>bh (by simp) (aj (fin0 (.inl z) _ _ A (by omega)))
  .rw[Ah];exact i1
  .rw[Ah];exact i3
  .rw[Ah];exact i4 (.inl z)
  .rw[Ah];exact N.vr z
 refine aY (λx=>x.2=(L,s,out)/\(x.1=J↔s.op=2\/s.op=3)) ?_ ?_
 .exact aJ (λh=>aj ⟨by dsimp only;rw[Ah],λ_=>.inl h,λ_=>aR h⟩) λh=>aj ⟨by dsimp only;rw[Ah],λh2=>.inr (bD h2),λh2=>aR (h2.resolve_left h)⟩
 rintro⟨b,x⟩ ⟨e,hb2⟩;dsimp only at e hb2;subst e;refine aO (λhb3=>?_) λhbf=>?_
 .dsimp only;rw[Ah];refine aw (hB s L out (hb2.1 hb3) (i4 (by rcases hb2.1 hb3 with h|h;exact .inr (.inl h);exact .inr (.inr (.inl h)))) i6 i7 i8 i9 N.el D hs1 hso1 hb) λy A=>bh (by simp) (aj (fin _ _ _ A (by omega) rfl))
 have har:∀(a b c:Int),4<=s.op->GO nT (a,c,0,0,0,0)->GO nT (b,c,0,0,0,0)->¬a=5/\¬a=10->¬b=5/\¬b=10->Ok (ra ((s,a,b,c),L,out)) λy=>QG nT ss t (ME (d+1)) (1+oU d s.body+oU d s.els) g out y:=λa b c h4 ga gb na nb=>(hA s a b c L out i6 i8 ga gb na nb D hs1 (hso1.sub (dC _) (by omega)) hb).mono λy A=>fin _ _ _ A (by omega) (by rw[N.el (by omega)];rfl)
 have hput:∀{op:Int} {r:υ},9<=s.op->GO nT (op,r)->¬op=5/\¬op=10->Ok (cO ((op,r),L,out)) (QG nT ss t (ME (d+1)) (1+oU d s.body+oU d s.els) g out):=λh9 hi h5=>(y_ (by omega) D hs1 hi h5).mono λy A=>fin0 (.inr h9) _ _ A (by omega)
 have hlk:∀n:ζ,Ok (ly (L.2.1,n)) λr=>(n=[109]->r=0)/\(n=[110]->r=1)/\(n=[114]->r=2):=λn=>(Pp L.2.1 n (by rw[D.l];decide)).mono λr h=>am6 (by rw[D.l]at h;exact h)
 have hcond:∀(n:ζ),Ok (kg (n,L,out)) λy=>y.2=(L,out)/\(n=[99]->y.1=0):=λn=>agj n L out D
 have hth:Ok (jL (L.2.2.2.2.1,s.name)) λr=>s.op=12\/s.op=13->0<=r/\r<(nT:Int):=(AD L.2.2.2.2.1 s.name (by rw[D.t,bQ];have q4:xL.length=4:=rfl;omega)).mono λr hr z=>by
  have hn:=N.sp z;have hl:l! (xL.take nT)<=nT:=nu ..;obtain⟨_,h2,_,h4⟩:=hr;rw[D.t]at h2 h4;exact⟨NC.1 λh=>h4 h hn,by omega⟩
 have hft:∀n:ζ,Ok (jL (L.2.2.2.1,n)) λr=>n=[102]->r=0:=λn=>(AD L.2.2.2.1 n (by rw[D.f];decide)).mono λr hr hn=>by
  obtain⟨h1,h2,_,h4⟩:=hr;rw[D.f]at h2 h4;have h2:r<1:=h2;have:¬r<0:=λh=>h4 h (by rw[hn];decide)
  omega
 dsimp only;rw[Ah];have gor:∀{a c:Int},1<=a->a<=27->jD (a,c,0,0,0,0)=[]->OB nT (a,c,0,0,0,0)->GO nT (a,c,0,0,0,0):=λh1 h2 h3 h4=>⟨h1,h2,by rw[h3];exact λj hj=>(by cases hj),h4⟩
 refine aJ (λz=>aw (hlk _) λv hv=>aw (har _ _ _ (by have z:s.op=4:=z;omega) (gor (by decide) (by decide) rfl ?_) (gor (by decide) (by decide) rfl ?_) (by decide) (by decide)) λy A=>bh (by simp) (aj A)) λ_=>?_
 .exact (N.lk z).imp hv.1 hv.2.1
 .exact (N.lk z).imp hv.1 hv.2.1
 refine aJ (λz=>aw (hlk _) λv hv=>aw (har _ _ _ (by have z:s.op=5:=z;omega) (gor (by decide) (by decide) rfl ?_) (gor (by decide) (by decide) rfl ?_) (by decide) (by decide)) λy A=>bh (by simp) (aj A)) λ_=>?_
 .exact hv.2.2 (N.rw (.inl z))
 .exact hv.2.2 (N.rw (.inl z))
 refine aJ (λz=>aw (hlk _) λv hv=>aw (har _ _ _ (by have z:s.op=6:=z;omega) (gor (by decide) (by decide) rfl ?_) (gor (by decide) (by decide) rfl ?_) (by decide) (by decide)) λy A=>bh (by simp) (aj A)) λ_=>?_
 .exact hv.2.2 (N.rw (.inr z))
 .exact hv.2.2 (N.rw (.inr z))
 refine aJ (λz=>aw (har _ _ _ (by have z:s.op=7:=z;omega) (gor (by decide) (by decide) rfl (by decide:¬(17:Int)=3)) (gor (by decide) (by decide) rfl (by decide:¬(18:Int)=3)) (by decide) (by decide)) λy A=>bh (by simp) (aj A)) λ_=>?_
 refine aJ (λz=>aw (har _ _ _ (by have z:s.op=8:=z;omega) (gor (by decide) (by decide) rfl (by decide:¬(19:Int)=3)) (gor (by decide) (by decide) rfl (by decide:¬(20:Int)=3)) (by decide) (by decide)) λy A=>bh (by simp) (aj A)) λ_=>?_
 refine aJ (λz=>aw (hcond _) λy A=>?_) λ_=>?_
 .obtain⟨v,y2⟩:=y;obtain⟨y3,y4⟩:=A;dsimp only at y3;subst y3;exact bh (by simp) (aw (hput (by have z:s.op=9:=z;omega) (gor (by decide) (by decide) rfl (y4 (N.cn (.inl z)))) (by decide)) λy A=>bh (by simp) (aj A))
 refine aJ (λz=>aw (hcond _) λy A=>?_) λ_=>?_
 .obtain⟨v,y2⟩:=y;obtain⟨y3,y4⟩:=A;dsimp only at y3;subst y3;exact bh (by simp) (aw (hput (by have z:s.op=10:=z;omega) (gor (by decide) (by decide) rfl (y4 (N.cn (.inr (.inl z))))) (by decide)) λy A=>bh (by simp) (aj A))
 refine aJ (λz=>aw (hcond _) λy A=>?_) λ_=>?_
 .obtain⟨v,y2⟩:=y;obtain⟨y3,y4⟩:=A;dsimp only at y3;subst y3;exact bh (by simp) (aw (hput (by have z:s.op=11:=z;omega) (gor (by decide) (by decide) rfl (y4 (N.cn (.inr (.inr z))))) (by decide)) λy A=>bh (by simp) (aj A))
 refine aJ (λz=>aw hth λv hv=>aw (hput (by have z:s.op=12:=z;omega) (gor (by decide) (by decide) rfl (hv (.inl z))) (by decide)) λy A=>bh (by simp) (aj A)) λ_=>?_
 refine aJ (λz=>aw hth λv hv=>aw (hput (by have z:s.op=13:=z;omega) (gor (by decide) (by decide) rfl (hv (.inr z))) (by decide)) λy A=>bh (by simp) (aj A)) λ_=>?_
 refine aJ (λz=>?_) λn14=>?_
 .have hex:GE 4 (eD (Xp.op s.expr,Xp.n s.expr,Xp.name s.expr,Xp.l s.expr)):=by rw[fB];exact i4 (.inr (.inr (.inr z)))
  refine aw (EG _ _ L out hex D hs1 (by rw[hg.len];decide) (by rw[hg.len];decide) (by omega)) λy A=>?_
  obtain⟨g2,o2⟩:=y;obtain⟨q1,q2⟩:=A;dsimp only at q1 q2;subst q1;have q3:=q2.u;refine bh (by simp) (aw (hft _) λv hv=>?_);refine aw (y_ (by omega) D hs1 (goI (by decide) (by decide) (by simp[jD,hg.h,L0]) (hv (N.se z))) (by decide)) λy A=>bh (by simp) (aj (fin0 (.inr (by have z:s.op=14:=z;omega)) 16 _ ⟨A.1,q2.trans A.2 (bV _)⟩ (by omega)))
 refine aJ (λz=>?_) λn15=>?_
 .refine aw (AD _ _ (by rw[D.h];decide)) λv hv=>aw (hft _) λv2 hv2=>?_
  have hge:=N.ge z;have hl:(0:Int)<=v/\v<2:=by
   obtain⟨_,h2,_,h4⟩:=hv;rw[D.h]at h2 h4;exact⟨NC.1 λh=>h4 h (by rw[hge.1];decide),h2⟩
  exact aw (hput (by have z:s.op=15:=z;omega) (goI (by decide) (by decide) (by simp[jD];omega) (hv2 hge.2)) (by decide)) λy A=>bh (by simp) (aj A)
 .exfalso;have h1:=N.o0;have h2:=N.o1;have h3:¬(s.op=2\/s.op=3):=λh=>by have hbf:b=aa:=hbf;rw[hb2.2 h]at hbf;cases hbf
  omega
end
section
variable {nT:Nat} {ss:Y π} {t:Int}
def ZC:∀(n:Nat),(∀d:Nat,3*d<n->SpG nT ss t (eZ n) d)/\(∀d:Nat,3*d+1<n->ah8 nT ss t (dX n) d)/\(∀d:Nat,3*d+2<n->aom nT ss t (dk n) d)/\(∀d:Nat,3*d+2<n->aon nT ss t (dQ n) d)
 |0=>⟨λd h=>by omega,λd h=>by omega,λd h=>by omega,λd h=>by omega⟩
 |n+1=>by
  obtain⟨D,z,L,hA⟩:=ZC n;refine ⟨λd h=>?_,λd h=>?_,λd h=>?_,λd h=>?_⟩
  .cases d with
   |zero=>exact λs g out A=>A.elim
   |succ d=>exact ab4 (dX n) (eZ n) (dk n) (dQ n) d (L d (by omega)) (hA d (by omega))
  .exact XQ (dX n) (eZ n) (dk n) (dQ n) d (D d (by omega))
  .exact Oo (dX n) (eZ n) (dk n) (dQ n) d (z d (by omega))
  .exact Uw (dX n) (eZ n) (dk n) (dQ n) d (z d (by omega))
def Rs (d:Nat) (hd:d<=100):ah8 nT ss t vI d:=(ZC fuel).2.1 d (by rw[kP];omega)
structure SL (t k:Int) (m:Nat) (S:List π):Prop where
 l:l! S=m
 v:∀i:Nat,i<m->(geti qO S (i:Int)).1=t/\(geti qO S (i:Int)).2.1=k+i
variable {T:Ty}
def LX {l m:Y T.den} (h:i<l! l):geti _ (l++m) (i:Int)=geti _ l (i:Int):=by
 rw[zM,zM,ax,ax,bj h]
def LW {l m:Y T.den} (h:l! l<=i):geti _ (l++m) (i:Int)=geti _ m ((i-l! l:Nat):Int):=by
 rw[zM,zM,ax,ax,bO h]
def SL.nil (t k:Int):SL t k 0 []:=⟨rfl,λi h=>by omega⟩
def SL.one (t k z:Int):SL t k 1 [(t,k,z)]:=⟨rfl,λi h=>by rw[show i=0 by omega];exact⟨rfl,by show k=k+((0:Nat):Int);omega⟩⟩
def SL.app {z:Int} {k:Nat} {S S':Y π} (h:SL t a k S) (h':SL t z i S') (N:z=a+k):SL t a (k+i) (S++S'):=by
 obtain⟨h1,L⟩:=h;obtain⟨h3,D⟩:=h';refine ⟨by rw[bc];omega,λb hi=>?_⟩;by_cases A:b<l! S
 .rw[LX (T:=qO) A];exact L b (by omega)
 .rw[LW (T:=qO) (by omega)];have:=D (b-l! S) (by omega);exact⟨this.1,this.2.trans (show z+((b-l! S:Nat):Int)=a+(b:Int) by omega)⟩
def Hk:∀(n d:Nat),d<n->∀(t k:Int) (l:Y Sx) (out:Y π),l! l<=100->(∀s∈l,GT d s)->0<=k->k+oU d l<=100000000->l! out+oU d l<=100000000->Ok (qN n ((t,k,l),out)) λy=>y.1=k+oU d l/\∃S,y.2=out++S/\SL t k (oU d l) S
 |0,_,h,_,_,_,_,_,_,_,_,_=>by omega
 |n+1,d,hn,t,k,l,out,hl,hs,k0,hkb,hb=>by
  rw[JA];unfold zL bS pu bT bf c5 aH cW;refine cH (l! l) (λi x=>x.1.2=(i:Int)/\x.1.1=k+oU d (l.take i)/\∃S,x.2=out++S/\SL t k (oU d (l.take i)) S) ?_ ?_ ⟨rfl,by simp[oU],[],by simp,by simp[oU];exact SL.nil t k⟩
  .rintro i ⟨⟨a,b⟩,o⟩ hi ⟨A,e2,S,z,e4⟩;dsimp only at A e2 z;subst A e2 z;have hp:=R3 (d:=d) l (i+1);rw[yD hi]at hp;rw[yD hi];refine dy ?_;have hin:((i:Nat):Int)<(l! l:Int):=by omega
   have hm:=hs _ (b8 (T:=.sm) (xs:=l) (j:=(i:Int)) (by omega) (by omega));have hSl:=e4.l;cases d with
   |zero=>exact hm.elim
   |succ d=>
    obtain⟨_,_,_,g4,g5,g6,g7⟩:=hm;have hc:Ss (d+1) (geti (.sm) l (i:Int))=1+oU d (Sx.body (geti (.sm) l (i:Int)))+oU d (Sx.els (geti (.sm) l (i:Int))):=rfl;rw[hc]at hp ⊢;dsimp only;refine aN (by omega) hin (aS (a! (aN (by omega) hin (aS ?_))));rw[iW (n:=k+(oU (d+1) (l.take i):Nat)+1) (by omega) (by omega)];refine aw (Hk n d (by omega) _ _ _ _ (by omega) g6 (by omega) (by omega) (by simp;omega)) λy D=>bh (by simp) ?_
    obtain⟨a2,o2⟩:=y;obtain⟨y1,S2,y2,y3⟩:=D;dsimp only at y1 y2;subst y1 y2;have hSl2:=y3.l;refine aN (by omega) hin (aS ?_);refine aw (Hk n d (by omega) _ _ _ _ (by omega) g7 (by omega) (by omega) (by simp;omega)) λy D=>bh (by simp) (aj ?_)
    obtain⟨a3,o3⟩:=y;obtain⟨N,S3,L,z3⟩:=D;dsimp only at N L;subst N L;refine ⟨gM,by dsimp only;omega,S++([_]++(S2++S3)),by simp only[iV];rfl,?_⟩;refine e4.app ?_ rfl;rw[qP];exact (SL.one t _ _).app (y3.app z3 rfl) (by simp)
  .rintro⟨⟨a,b⟩,o⟩ ⟨A,e2,z⟩;dsimp only at A e2 z;subst A e2;rw[cr]at z ⊢;exact du (aj ⟨rfl,z⟩)
def YZ {D n' k:Int} {l S:Y π} (h:NF a l=Z (D,n')) (hS:SL t k i S) (hk:(D=t/\n'=k)\/(D<t/\t<a/\k=0)):∀m:Nat,m<=i->NF a (l++S.take m)=Z (if m=0 then (D,n') else (t,k+m))
 |0,_=>by rw[List.take_zero,mZ,aC rfl];exact h
 |m+1,hi=>by
  have ih:=YZ h hS hk m (by omega);rw[pJ (T:=qO) (xs:=S) (i:=m) (by rw[hS.l];omega),<-iV,Y1,ih];obtain⟨z,N⟩:=hS.v m (by omega);rw[av (Nat.succ_ne_zero m)];by_cases A:m=0
  .subst A;rw[aC rfl];unfold Wx;dsimp only;rcases hk with ⟨h1,L⟩|⟨h1,L,h3⟩
   .rw[aC ⟨by rw[z,h1],by rw[N,L];simp⟩,h1,L];simp
   .rw[av (λh=>by rw[z]at h;omega),aC ⟨by rw[z];exact h1,by rw[z];exact L,by rw[N,h3];rfl⟩,z,h3];simp
  .rw[av A];unfold Wx;dsimp only;rw[aC ⟨z,N⟩];congr 2;omega
end
abbrev CE6:Type:=ζ×r?
abbrev W4T:Type:=Y CE6×Y (ζ×Bool)×Y (ζ×Int)×Y ζ
def ceD (z:DT):Y CE6:=(iR (aQ (mR z.2.2.2.1 1))).map λ(k:Nat)=>(z.2.2.1,(k:Int),z.2.2.2.1,decide (z.1=2),z.2.2.2.2.1)
def adD (y:W4T) (z:DT):W4T:=
 if z.1=1\/z.1=2 then (y.1++ceD z,y.2) else if z.1=3\/z.1=4 then (y.1,y.2.1++[(z.2.2.1,decide (z.1=4))],y.2.2) else if z.1=5 then (y.1,y.2.1,y.2.2.1++[(z.2.2.1,0)],y.2.2.2) else (y.1,y.2.1,y.2.2.1,y.2.2.2++[z.2.2.1])
def W4 (i:Nat):W4T:=(D0.take i).foldl adD ([],[],[],[])
def W4_9:W4 9=(C0,Jc,O0,Wk):=rfl
def W4_s (hi:i<9):W4 (i+1)=adD (W4 i) (geti Jd D0 (i:Int)):=by
 unfold W4;rw[pJ (T:=Jd) (xs:=D0) hi,eO];rfl
def D0_c:∀i:Nat,i<9->(geti Jd D0 (i:Int)).1=5->i=7:=by decide
def arl:∀i:Nat,i<9->(W4 i).1.length<=5/\(W4 i).2.1.length<=3/\(W4 i).2.2.1.length<=1/\(W4 i).2.2.2.length<=1/\mR (geti Jd D0 (i:Int)).2.2.2.1 1<=2/\1<=mR (geti Jd D0 (i:Int)).2.2.2.1 1:=by decide
def bsN (p:PG) (i:Nat):Nat:=((p.2.take i).map λt=>oU 5 t.2.2.2).sum
def boN (p:PG) (i:Nat):Nat:=oU 5 (geti uu p.2 (i:Int)).2.2.2
def amd {p:PG} (hi:i<l! p.2):bsN p (i+1)=bsN p i+boN p i:=by
 unfold bsN boN;rw[pJ (T:=uu) hi,cJ,HZ];simp
def Yx {p:PG} (i:Nat) (h:(p.2.map λt=>oU 5 t.2.2.2).sum<=60):bsN p i<=60:=by
 refine c8 ?_ h
 conv=>rhs;rw[<- Dz i p.2]
 unfold bsN;rw[cJ,HZ];omega
structure SW (p:PG) (i:Nat) (S:List π):Prop where
 l:l! S=bsN p i
 f:∃a b,NF (l! p.2) S=Z (a,b)/\(a<i\/a=0/\b=0)
 s:∀j:Nat,j<i->SR S (j:Int) (bsN p j:Nat) (boN p j)
structure WW (p:PG) (w:WT):Prop where
 x:WX w
 t:w.2.2.2.2.1=xL.take (l! p.2)
 s:∀j:Nat,j<l! p.2->SR w.2.2.2.2.2 (j:Int) (bsN p j:Nat) (boN p j)
def SO.app {S S':Y π} {t:Int} (h:SO S t a):SO (S++S') t a:=by
 obtain⟨h0,h1,z⟩:=h;obtain⟨a,rfl⟩:∃n:Nat,a=(n:Int):=⟨a.toNat,by omega⟩
 exact⟨h0,by rw[bc];omega,by rw[LX (T:=qO) (by omega)];exact z⟩
def YE (p:PG) (hp:PJ p) (r:ν) (hr:fE p=Z r) (h0:r.1=0) (hc:(p.2.map λt=>oU 5 t.2.2.2).sum<=60):Ok (vJ p) (WW p):=by
 have hpt:=hp.t;unfold vJ a8 bt bI cA dO b_ dJ dj fD pV bq bS i_ bT bX bf c5 aH cW;refine aV hr (cz (λh=>(h h0).elim) λ_=>?_);have hD:p.1=D0:=hp.d;have hlen:l! p.1=9:=by rw[hD];rfl
 refine cH 9 (λi x=>x.1=(i:Int)/\x.2.1=p/\x.2.2=W4 i) ?_ ?_ ⟨rfl,rfl,rfl⟩
 .rintro i ⟨a,p',y⟩ hi ⟨N,e2,e3⟩;dsimp only at N e2 e3;subst N;have e2:=e2.symm;subst e2;obtain⟨b1,b2,b3,b4,b5,b6⟩:=arl i hi;rw[<- e3]at b1 b2 b3 b4;have hW:=W4_s hi;rw[<- e3]at hW;have hcd:=D0_c i hi;have hlk:i=7->y.2.1=Jc/\(geti Jd D0 (i:Int)).2.2.2.2.2=[109]:=λh=>by subst h;rw[e3];exact⟨rfl,rfl⟩
  refine dy ?_;refine cY (aS ?_);dsimp only;rw[hD];revert hW hcd hlk b5 b6;generalize (geti Jd D0 (i:Int))=z;intro b5 b6 hW hcd hlk;refine aY (λx=>x=(p,W4 (i+1))) ?_ ?_
  .rw[hW];unfold adD;refine aY (λx=>x.2=(p,z,y)/\(x.1=J↔(z.1=1\/z.1=2))) ?_ ?_
   .exact aJ (λh=>aj ⟨rfl,λ_=>.inl h,λ_=>aR h⟩) λh=>aj ⟨rfl,λA=>.inr (bD A),λA=>aR (A.resolve_left h)⟩
   rintro⟨b,x⟩ ⟨e,hb⟩;dsimp only at e hb;subst e;refine aO (λD=>?_) λD=>?_
   .rw[aC (hb.1 D)];unfold ceD;obtain⟨m,hm⟩:∃m:Nat,mR z.2.2.2.1 1=(m:Int):=⟨(mR z.2.2.2.1 1).toNat,by omega⟩
    rw[hm,cf];refine cH m (λk x=>x=((k:Int),p,z,y.1++(iR k).map (λ(k:Nat)=>(z.2.2.1,(k:Int),z.2.2.2.1,decide (z.1=2),z.2.2.2.2.1)),y.2)) ?_ ?_ (by simp)
    .rintro k x hk rfl;refine bW (λ_=>?_) λg=>(by dsimp only at g;rw[hm]at g;omega)
     refine a! (aj ?_);dsimp only;rw[gM,List.range_succ,cJ,<-iV];rfl
    .rintro x rfl;exact bW (λg=>(by dsimp only at g;rw[hm]at g;omega)) λ_=>aj rfl
   rw[av λh=>by have D:b=aa:=D;rw[hb.2 h]at D;cases D];refine aY (λx=>x.2=(p,z,y)/\(x.1=J↔(z.1=3\/z.1=4))) ?_ ?_
   .exact aJ (λh=>aj ⟨rfl,λ_=>.inl h,λ_=>aR h⟩) λh=>aj ⟨rfl,λA=>.inr (bD A),λA=>aR (A.resolve_left h)⟩
   rintro⟨c,x⟩ ⟨e,hc2⟩;dsimp only at e hc2;subst e;refine aO (λh=>?_) λh=>?_
   .rw[aC (hc2.1 h)];exact a! (aj rfl)
   rw[av λA=>by have h:c=aa:=h;rw[hc2.2 A]at h;cases h];refine aJ (λh5=>?_) λh5=>?_
   .obtain⟨l1,l2⟩:=hlk (hcd h5);rw[aC h5];refine aw (Pp _ _ (by dsimp only;rw[l1];decide)) λv hv=>?_
    have hv:=(am6 (by dsimp only at hv;rw[l1]at hv;exact hv)).1 l2;subst hv;exact a! (aj rfl)
   .rw[av h5];exact a! (aj rfl)
  rintro x rfl;exact aj ⟨gM,rfl,rfl⟩
 .rintro⟨a,p',y⟩ ⟨N,e2,j⟩;dsimp only at N e2 j;subst N;have e2:=e2.symm;subst e2;rw[W4_9]at j;subst j;refine du ?_;refine aw (P:=WW p) ?_ λr hr=>aj hr
  refine cH (l! p.2) (λi x=>x.1=(i:Int)/\x.2.1=p/\x.2.2.1=C0/\x.2.2.2.1=Jc/\x.2.2.2.2.1=O0/\x.2.2.2.2.2.1=Wk/\x.2.2.2.2.2.2.1=xL.take i/\SW p i x.2.2.2.2.2.2.2) ?_ ?_ ⟨rfl,rfl,rfl,rfl,rfl,rfl,rfl,rfl,⟨0,0,rfl,.inr ⟨rfl,rfl⟩⟩,λj hj=>by omega⟩
  .rintro i ⟨a,p2,c2,l2,d2,f2,t2,s2⟩ hi ⟨N,e2,e3,e4,e5,e6,e7,hl8,⟨fa,fb,f8,f9⟩,L⟩;dsimp only at N e2 e3 e4 e5 e6 e7 hl8 f8 L;subst N;have e2:=e2.symm;subst e2;have hb8:=Yx (i+1) hc;have hbs:=amd hi;refine dy ?_;have hin:((i:Nat):Int)<(l! p.2:Int):=by omega
   have hm:=hp.m _ (b8 (T:=uu) (xs:=p.2) (j:=(i:Int)) (by omega) hin);have hnm:(geti uu p.2 (i:Int)).1=geti (.str) xL (i:Int):=by
    have h1:=pJ (T:=uu) hi;have A:=dT (fP Prod.fst) h1;rw[cJ,fV,fV,hp.n,List.take_take,List.take_take,t7 (by omega),t7 (by omega),pJ (T:=.str) (xs:=xL) (i:=i) (by have q4:xL.length=4:=rfl;omega)]at A;exact ((List.cons.inj (List.append_cancel_left A)).1).symm
   have htl:l! t2=i:=by rw[e7,bQ];have q4:xL.length=4:=rfl;omega
   dsimp only;refine aN (by omega) hin (aS (a! (aN (by omega) hin (aS ?_))));refine aw (Hk fuel 5 (by rw[kP];omega) _ _ _ s2 (by have:=hm.b;omega) (λs hs=>((hm.s s hs).le (by omega:3<=5)).t) (dC _) ?_ ?_) λy hy=>bh (by simp) (aj ?_)
   .show (0:Int)+(boN p i:Nat)<=_;omega
   .show (l! s2)+boN p i<=_;omega
   obtain⟨_,S,A,h3⟩:=hy;have h3:SL (i:Int) 0 (boN p i) S:=h3;refine ⟨gM,rfl,e3,e4,e5,e6,?_,?_⟩
   .dsimp only;rw[e7,hnm,<-pJ (T:=.str) (xs:=xL) (i:=i) (by have q4:xL.length=4:=rfl;omega)]
   .dsimp only;rw[A];refine ⟨by rw[bc,h3.l,hl8,hbs],?_,λj hj=>?_⟩
    .have hr:=YZ f8 h3 (by rcases f9 with h|⟨h,h'⟩;exact .inr ⟨h,by omega,rfl⟩;rcases s5 i with hi0|hi0;exact .inl ⟨by omega,h'⟩;exact .inr ⟨by omega,by omega,rfl⟩) (boN p i) (bV _);rw[<- h3.l,cr]at hr;rw[hr];split
     .exact⟨_,_,rfl,f9.imp (λh=>by omega) id⟩
     .exact⟨_,_,rfl,.inl (by omega)⟩
    .rcases bx j i with h1|h1
     .obtain⟨g1,g2,g3⟩:=L j h1;exact⟨g1,g2,λq q1 q2=>(g3 q q1 q2).app⟩
     .have hj:j=i:=by omega
      subst hj;refine ⟨by omega,by omega,λq q1 q2=>?_⟩;obtain⟨q,rfl⟩:∃n:Nat,q=(n:Int):=⟨q.toNat,by omega⟩
      refine ⟨by omega,by rw[bc,h3.l];omega,?_⟩;rw[LW (T:=qO) (by omega)];exact (h3.v _ (by omega)).1
  .rintro⟨a,p2,c2,l2,d2,f2,t2,s2⟩ ⟨N,e2,e3,e4,e5,e6,e7,hl8,⟨fa,fb,f8,f9⟩,L⟩;dsimp only at N e2 e3 e4 e5 e6 e7 hl8 f8 L;subst N;have e2:=e2.symm;subst e2 e3 e4 e5 e6 e7;refine du (aj ?_);have hb8:=Yx (l! p.2) hc;refine ⟨⟨rfl,rfl,rfl,rfl,⟨l! p.2,hp.t0,hp.t,rfl⟩,by dsimp only;omega,?_⟩,rfl,L⟩;unfold SV0;have hTl:l! (xL.take (l! p.2))=l! p.2:=by rw[bQ];have q4:xL.length=4:=rfl;omega
   dsimp only;rw[hTl,f8];simp
def NM9:Y ζ:=[[120],[121],[118],[113],[109],[110],[114],[99],[102]]
set_option maxHeartbeats 20000000 in
def aex (t:Y ζ) (ht:l! t<=4) (s:Y π):qI (C0,Jc,O0,Wk,t,s)=Z (NM9++t,J):=by
 refine cI ?_;unfold qI a8 bt bI cA dJ pV bq bS i_ bT bX bf c5 aH cW;with_reducible repeat' first|exact aj rfl|refine Zg ?_|refine Zf ?_|refine Ze ?_|refine Zc ?_|refine ais ?_|refine aS ?_|refine fT rfl ?_|refine fZ rfl ?_|refine bh rfl ?_|refine Zd ?_|refine Tt ?_|refine Ts ?_
 refine bl (by show 9+l! t<=1073741824;omega) (by decide) ?_;with_reducible repeat' first|exact aj rfl|refine Zg ?_|refine Zf ?_|refine Ze ?_|refine Zc ?_|refine ais ?_|refine aS ?_|refine fT rfl ?_|refine fZ rfl ?_|refine bh rfl ?_|refine Zd ?_|refine Tt ?_|refine Ts ?_
def Wi:∀x∈NM9++xL,Ok (fx x) λb=>b=J:=by
 intro x z;simp only[NM9,xL,gG,kV,aZ,cu,fJ]at z;rcases z with rfl|rfl|rfl|rfl|rfl|rfl|rfl|rfl|rfl|rfl|rfl|rfl|rfl;all_goals with_reducible repeat' first|exact aj rfl|refine Zg ?_|refine Zf ?_|refine Ze ?_|refine Zc ?_|refine Ts ?_|refine ais ?_|refine aS ?_|refine fT rfl ?_|refine fZ rfl ?_|refine bh rfl ?_|refine Zd ?_|refine Tt ?_|refine di (fx.eq_1 ..) ?_|refine di (kA.eq_1 ..) ?_|refine di (lK.eq_1 ..) ?_|refine di (mE.eq_1 ..) ?_|refine di (qL.eq_1 ..) ?_|refine di (sP.eq_1 ..) ?_
def GT.up:∀{d:Nat} {s:Sx},GT d s->GT (d+1) s
 |0,_,h=>h.elim
 |_+1,_,⟨a,b,c,e,f,g,i⟩=>⟨a,b,c,e,f,λx z=>GT.up (g x z),λx z=>GT.up (i x z)⟩
def anz {l:Y Sx} (h:∀s∈l,GT 3 s):oU 5 l=oU 3 l:=by
 unfold oU;rw[gI λx z=>(R2 (GT.up (h x z))).trans (R2 (h x z))]
def aoq:∀i:Nat,i<13->∀r:Nat,r<i->geti (.str) (NM9++xL) (r:Int)≠geti (.str) (NM9++xL) (i:Int):=by decide
def DQ {b:Int} {t f:M R} {Q:R->Prop} (h:b<=a) (hf:Ok f Q):Ok (aI (fQ a b) t f) Q:=fZ (gd.2 h) hf
def JS {w:WT} (hx:WX w):iv w=Z J:=by
 obtain⟨w1,w2,w3,w4,A,D⟩:=w;obtain⟨hc,hl,hd,hf,⟨n,n1,n4,ht⟩,hs,hv⟩:=hx;dsimp only at hc hl hd hf ht hs;subst hc hl hd hf;have hT:l! A=n:=by rw[ht,bQ];have q4:xL.length=4:=rfl;omega
 have hv:NF (l! A) D≠U:=hv;refine cI ?_;unfold iv a8 bt bI cA dj fD bq bS kq i_ bT bX bf c5 aH cW;refine aY (λx=>x=(aa,C0,Jc,O0,Wk,A,D)) ?_ ?_
 .refine DQ (show (5:Int)<=12 by decide) (DQ (show (3:Int)<=4 by decide) (DQ (show (1:Int)<=2 by decide) (DQ (show (1:Int)<=2 by decide) (DQ (show (1:Int)<=(l! A:Int) by omega) (DQ (show (l! A:Int)<=4 by omega) (aj ?_))))));dsimp only[al];rw[gd.2 (show (l! D:Int)<=60 by omega)]
 rintro x rfl;refine gB (aV (aex A (by omega) D) (fZ rfl ?_));have hN:NM9++A=(NM9++xL).take (9+n):=by rw[ht];rcases (by omega:n=1\/n=2\/n=3\/n=4) with rfl|rfl|rfl|rfl<;>rfl
 have hNl:l! (NM9++A)=9+n:=by rw[bc,hT];rfl
 have hNg:∀i:Nat,i<9+n->geti (.str) (NM9++A) (i:Int)=geti (.str) (NM9++xL) (i:Int):=λi hi=>by
  rw[hN,zM,zM,ax,ax,List.getElem?_take_of_lt hi]
 refine cH (9+n) (λi x=>x=((i:Int),C0,Jc,O0,Wk,A,D)) ?_ ?_ rfl
 .rintro i x hi rfl;refine bW (λ_=>?_) λg=>(by dsimp only[al]at g;rw[hNl]at g;omega)
  refine aY (λx=>x=(aa,C0,Jc,O0,Wk,A,D)) ?_ ?_
  .refine aN (by dsimp only;omega) (by dsimp only;rw[hNl];omega) (aS ?_);have hmem:geti (.str) (NM9++A) (i:Int)∈NM9++xL:=by rw[hNg i hi];exact b8 (T:=.str) (by omega) (by have:l! (NM9++xL)=13:=rfl;omega)
   refine aw (Wi _ hmem) λb hb=>?_
   refine fZ (by rw[hb];rfl) (db (a? (eg (by dsimp only;rw[hNl];omega) ?_)));refine aN (by dsimp only;omega) (by dsimp only;rw[hNl];omega) (aS ?_);refine aw (AD _ _ (by dsimp only;rw[bQ,hNl];omega)) λr hr=>aj ?_
   obtain⟨_,h2,h3,_⟩:=hr;dsimp only at h2 h3;rw[bQ,hNl]at h2;have hr0:¬0<=r:=λh0=>by
    have h3:=h3 h0;obtain⟨r,rfl⟩:∃m:Nat,r=(m:Int):=⟨r.toNat,by omega⟩
    rw[zM,ax,List.getElem?_take_of_lt (by omega),<-ax,<-zM (T:=.str),hNg r (by omega),hNg i hi]at h3;exact aoq i (by omega) r (by omega) h3
   rw[m_.2 (by omega)]
  .rintro x rfl;exact gB (aj (by dsimp only;rw[gM]))
 rintro x rfl;refine bW (λg=>(by dsimp only[al]at g;rw[hNl]at g;omega)) λ_=>?_
 refine aw (P:=λb=>b=J) ?_ λy hy=>aj hy
 refine cH 1 (λi x=>x=((i:Int),C0,Jc,O0,Wk,A,D)) ?_ ?_ rfl
 .rintro i x hi rfl;have hi0:i=0:=by omega
  subst hi0;refine fT rfl (bh rfl (aS (aY (λx=>x=(aa,C0,Jc,O0,Wk,A,D)) ?_ ?_)))
  .exact fZ rfl (fZ rfl (bh rfl (aS (aj rfl))))
  .rintro x rfl;exact gB (aj (by dsimp only;rw[gM]))
 rintro x rfl;refine bW (λg=>(by have g:(1:Int)<1:=g;omega)) λ_=>?_
 refine aw (P:=λb=>b=J) ?_ λy hy=>aj hy
 refine cH (l! D) (λi x=>x=((i:Int),C0,Jc,O0,Wk,A,D)/\∃t k:Int,NF (l! A) (D.take i)=Z (t,k)/\0<=t/\t<(l! A:Int)/\(i=0->t=0/\k=0)/\(¬i=0->(geti qO D ((i-1:Nat):Int)).1=t/\(geti qO D ((i-1:Nat):Int)).2.1+1=k/\0<k/\k<=i)) ?_ ?_ ⟨rfl,0,0,rfl,by omega,by omega,λ_=>⟨rfl,rfl⟩,λh=>(h rfl).elim⟩
 .rintro i x hi ⟨rfl,t,k,hF,t0,tT,hz,hp⟩;have hw:¬(i:Int)=0->bA .i64 ((i:Int)-1)=((i-1:Nat):Int):=λh=>by rw[iW];omega
  have hnx:=KJ (T:=l! A) hi;have hne:=Y0 hv (i+1);rw[hnx,hF]at hne;obtain⟨hs1,L⟩:=ae2 hne;rw[hF,hs1]at hnx;refine dy ?_;refine aY (λx=>x=(C0,Jc,O0,Wk,A,D)) ?_ ?_
  .refine cY (aS ?_);revert L;generalize (geti qO D (i:Int))=z;obtain⟨(N:Int),(z2:Int),z3⟩:=z;intro L;dsimp only at L;refine aY (λx=>x=(aa,(C0,Jc,O0,Wk,A,D),N,z2,z3)) ?_ ?_
   .refine DQ (show (0:Int)<=N by omega) (aj ?_);dsimp only[al];rw[m_.2 (show N<(l! A:Int) by omega)]
   rintro x rfl;refine gB (aY (λx=>x.2=((C0,Jc,O0,Wk,A,D),N,z2,z3)/\(x.1=J->i=0\/¬t=N)/\(x.1=aa->¬i=0/\t=N)) ?_ ?_)
   .refine aJ (λh=>aj ⟨rfl,λ_=>.inl (by have h:((i:Nat):Int)=0:=h;omega),nofun⟩) λh=>?_
    have h:¬((i:Nat):Int)=0:=h;dsimp only;rw[hw h];have hq:=(hp (by omega)).1;exact aN (by omega) (by first|omega|(dsimp only;omega)) (aS (aj ⟨rfl,λh2=>.inr (by rw[<- hq];simpa using h2),λh2=>⟨by omega,by rw[<- hq];simpa using h2⟩⟩))
   rintro⟨c,x⟩ ⟨e,hc1,hc⟩;dsimp only at e hc1 hc;subst e;refine aO (λhct=>?_) λhcf=>?_
   .have hz2:z2=0:=by
     rcases hc1 hct with h|h
     .have:=hz h;omega
     .omega
    refine aY (λx=>x=(aa,C0,Jc,O0,Wk,A,D)) ?_ ?_
    .refine cz (λh=>(h hz2).elim) λ_=>bW (λh=>?_) λ_=>aj rfl
     have h:(0:Int)<((i:Nat):Int):=h;dsimp only;rw[hw (by omega)];have hq:=(hp (by omega)).1;refine aN (by omega) (by first|omega|(dsimp only;omega)) (aS (aj ?_));dsimp only;rw[hq,gd.2 (show t<=N by omega)]
    rintro x rfl;exact gB (aj rfl)
   .obtain⟨h1,h2⟩:=hc hcf;obtain⟨_,p2,p3,p4⟩:=hp h1;dsimp only;rw[hw (by omega)];refine aN (by omega) (by first|omega|(dsimp only;omega)) (aS ?_);refine cz (λh=>(h ?_).elim) λ_=>aj rfl
    try dsimp only
    rw[p2,iW];omega
  .rintro x rfl;refine aj ⟨by dsimp only;rw[gM],_,_,hnx,?_⟩;revert L;rw[show i+1-1=i by omega];generalize (geti qO D (i:Int))=z;obtain⟨(N:Int),(z2:Int),z3⟩:=z;intro L;dsimp only at L ⊢;refine ⟨by omega,by omega,λh=>by omega,λ_=>⟨rfl,rfl,?_,?_⟩⟩
   .by_cases h0:i=0
    .have:=hz h0;omega
    .have:=hp h0;omega
   .by_cases h0:i=0
    .have:=hz h0;omega
    .have:=hp h0;omega
 .rintro x ⟨rfl,_⟩;exact du (aj rfl)
def YG {c:CT} (z:WX c.1) (A:l! c.2=l! c.1.2.2.2.2.1) (h:∀k:Nat,k<l! c.2->GC (l! c.2) c.1.2.2.2.2.2 (k:Int) (geti yO c.2 (k:Int))):ky c=Z J:=by
 obtain⟨w,l⟩:=c;dsimp only at z A h;have L:l! l<=4:=by
  obtain⟨n,_,D,ht⟩:=z.t;rw[A,ht,bQ];omega
 refine cI ?_;unfold ky bI bS bX bf c5 aH cW;refine aY (λx=>x=(aa,w,l)) ?_ ?_
 .refine aV (JS z) (fZ rfl (aj ?_));dsimp only;rw[A];simp
 rintro x rfl;refine gB (cH (l! l) (λi x=>x=((i:Int),w,l)) ?_ ?_ rfl)
 .rintro i x hi rfl;refine dy ?_;refine cY (aS (aV (Gz z A.symm (h i hi)) (fZ rfl (aj ?_))));dsimp only;rw[gM]
 .rintro x rfl;exact du (aj rfl)
def Si (p:PG) (hp:PJ p) (hr4:∃r,fE p=Z r/\r.1=0):Ok (rK p) λy=>CB y.1:=by
 have hpt:=hp.t;obtain⟨r,hr,h0⟩:=hr4;obtain⟨r',hr',h60⟩:=Gr p hp.x;rw[hr]at hr';cases hr';have h60:=h60 h0;unfold rK a8 bt bI cA dO b_ dj fD wG bS i_ bT bX ko bf c5 aH cW;refine aV hr (cz (λh=>(h h0).elim) λ_=>?_);refine aw (YE p hp r hr h0 h60) λw hw=>?_
 have hwT:l! w.2.2.2.2.1=l! p.2:=by rw[hw.t,bQ];have q4:xL.length=4:=rfl;omega
 refine cH (l! p.2) (λi x=>x.1.1=((bsN p i:Nat):Int)/\x.1.2=(i:Int)/\x.2.1=p/\x.2.2.1=w/\l! x.2.2.2=i/\∀j:Nat,j<i->GC (l! p.2) w.2.2.2.2.2 (j:Int) (geti yO x.2.2.2 (j:Int))) ?_ ?_ ⟨rfl,rfl,rfl,rfl,rfl,λj L=>by omega⟩
 .rintro i ⟨⟨a,b⟩,p2,w2,cs⟩ hi ⟨e0,e1,e2,e3,e4,e5⟩;dsimp only at e0 e1 e2 e3 e4 e5;subst e0 e1;have e2:=e2.symm;subst e2;have e3:=e3.symm;subst e3;have hin:((i:Nat):Int)<(l! p.2:Int):=by omega
  refine dy ?_;have hm:=hp.m _ (b8 (T:=uu) (xs:=p.2) (j:=(i:Int)) (by omega) hin);have hsr:=hw.s i hi;have hbs:=amd hi;have hb1:=Yx (i+1) h60;have hbo:boN p i=oU 3 (geti uu p.2 (i:Int)).2.2.2:=anz λs hs=>(hm.s s hs).t
  rw[hbo]at hsr hbs;dsimp only;refine aN (by omega) hin (aS (aN (by omega) hin (aS ?_)));revert hm hsr hbs;generalize (geti uu p.2 (i:Int))=t;intro hm hsr hbs;have hk:ME 3=50+16*(50+16*50):=rfl;have hle:=cQ (ME 3) hm.b;rw[hk]at hle;have hll:l! t.2.2.1=2:=by rw[hm.l];rfl
  refine aw (Rs (nT:=l! p.2) (ss:=w.2.2.2.2.2) (t:=(i:Int)) 3 (by omega) _ _ [] (by have:=hm.b;omega) hm.s ⟨hw.x.c,hw.x.l,hw.x.d,hw.x.f,hw.t,hm.l⟩ hsr (by rw[hk,kW];omega)) λy hy=>bh (by simp) ?_
  obtain⟨g2,o2⟩:=y;obtain⟨q1,q2,q3⟩:=hy;dsimp only at q1 q2 q3;have q4:=q2.u;rw[hk,kW]at q4;refine aw (KN _ _ o2 (by omega)) λy hy=>bh (by simp) ?_
  obtain⟨g3,A⟩:=y;obtain⟨hg3,ho3⟩:=hy;dsimp only at hg3 ho3;have hL:aP (ah g3.2.2.2.2.2.2.1)=2:=by
   rw[hg3];show aP (ah g2.2.2.2.2.2.2.1)=2;rw[q1.h];show aP (ah t.2.2.1)=2;rw[hll];rfl
  have l3:l! A=l! o2+1:=by rw[ho3,bc];rfl
  have l31:l! A-1=l! o2:=by omega
  have iq:∀q:Nat,q<l! o2->iA A q=iA o2 q:=λq D=>by rw[ho3,Ly D]
  have iend:iA A (l! o2)=(28,0,0,0,0,-1):=by rw[ho3,zH]
  have hreg:∀q:Nat,q<l! A->∀j:Int,j∈jD (iA A q)->0<=j/\j<32:=λq D j L=>by
   by_cases h:q<l! o2
   .rw[iq q h]at L;exact (q2.i q (mr _) h).o.r j L
   .rw[show q=l! o2 by omega,iend]at L;simp[jD]at L
  dsimp only;rw[hL];refine cH (l! A) (λk x=>∃N:Int,x=((k:Int),p,w,g3,N,cs,A)/\2<=N/\N<=32/\∀q:Nat,q<k->∀j:Int,j∈jD (iA A q)->j<N) ?_ ?_ ⟨2,rfl,by omega,by omega,λq D=>by omega⟩
  .rintro k x hk2 ⟨N,rfl,r0,r1,r2⟩;refine dy ?_;dsimp only;refine cY (cY (aS (aV (uZ _) ?_)));have hrk:=hreg k hk2;have hrl:=EX (iA A k);revert hrk hrl;generalize hins:(geti sk A (k:Int))=ins;rw[show iA A k=ins from hins];intro hrk hrl;refine cH (l! (jD ins)) (λj x=>∃rg':Int,x=((j:Int),p,w,g3,rg',cs,A)/\N<=rg'/\rg'<=32/\∀q:Nat,q<j->rg'>geti aM (jD ins) (q:Int)) ?_ ?_ ⟨N,rfl,dC _,r1,λq D=>by omega⟩
   .rintro j x L ⟨rg',rfl,s0,s1,s2⟩;refine dy ?_;refine cY (aS (aj ?_));have hz:=hrk _ (b8 (T:=aM) (xs:=jD ins) (j:=(j:Int)) (by omega) (by omega));dsimp only;obtain⟨z,hzj⟩:∃z:Int,geti aM (jD ins) (j:Int)=z:=⟨_,rfl⟩
    rw[hzj]at hz ⊢;have hz0:(0:Int)<=z:=hz.1;have hz1:(32:Int)>z:=hz.2;rw[gM,iW (n:=z+1) (by omega) (by omega)];have him:rg'<=mR rg' (z+1)/\z+1<=mR rg' (z+1)/\mR rg' (z+1)<=32:=by
     unfold mR;split
     .rename_i h;have h:=te.1 h;omega
     .rename_i h;have h:=gd.1 (Qq.2 h);omega
    refine ⟨_,rfl,by omega,him.2.2,λq D=>?_⟩;rcases bx q j with h1|h1
    .have:=s2 q h1;omega
    .rw[show q=j by omega,hzj];exact Int.lt_of_lt_of_le (show z<z+1 by omega) him.2.1
   .rintro x ⟨rg',rfl,s0,s1,s2⟩;refine du (aj ?_);refine ⟨rg',by dsimp only;rw[gM],by omega,s1,λq D j L=>?_⟩;rcases bx q k with h1|h1
    .have:=r2 q h1 j L;omega
    .rw[show q=k by omega,show iA A k=ins from hins]at L;exact iP (T:=aM) (p:=λc=>rg'>c) s2 j L
  .rintro x ⟨N,rfl,r0,r1,r2⟩;refine du (Tt (a! (Ts (aj ?_))));dsimp only;have q3':(g2.2.2.2.2.2.2.2.2:Int)=(bsN p i:Nat)+(oU 3 t.2.2.2:Nat):=q3;refine ⟨by rw[q3',hbs];omega,gM,rfl,rfl,by simp;omega,λj L=>?_⟩;rcases bx j i with h1|h1
   .rw[LX (T:=yO) (by rw[e4];exact h1)];exact e5 j h1
   .rw[show j=i by omega,LW (T:=yO) (by rw[e4];omega),e4,Ca];refine ⟨show (1:Int)<=N by omega,r1,show 1<=l! A by omega,show (l! A)<=1000000 by omega,?_,?_,?_,?_,?_⟩
    .show (iA A (l! A-1)).1=28/\(iA A (l! A-1)).2.2.2.2.2= -1;rw[l31,iend];exact⟨rfl,rfl⟩
    .show sg A 0 (l! A-1);rw[l31];exact q2.b.congr λq _ D=>iq q D
    .show ∀q:Nat,q<l! A-1->GI (l! p.2) w.2.2.2.2.2 (i:Int) (iA A q);rw[l31];exact λq D=>by rw[iq q D];exact q2.i q (mr _) D
    .show ∀q:Nat,q<l! A-1->(iA A q).1=10->0<=(iA A q).2.2.1/\(iA A q).2.2.1<(l! A:Int)
     rw[l31];intro q D h10;rw[iq q D]at h10 ⊢;have:=q2.r q (mr _) D h10;omega
    .exact λq D j L=>r2 q (show q<l! A by have D:q<l! A-1:=D;omega) j L
 .rintro⟨⟨a,b⟩,p2,w2,cs⟩ ⟨e0,e1,e2,e3,e4,e5⟩;dsimp only at e0 e1 e2 e3 e4 e5;subst e1 e2 e3;refine du (aj ?_);have hgc:∀t∈cs,∃k:Nat,GC p2.2.length w2.2.2.2.2.2 (k:Int) t:=iP (T:=yO) λk hk=>⟨k,e5 k (by omega)⟩
  refine ⟨by dsimp only;omega,λt ht=>?_,λt ht=>?_,hw.x,YG hw.x ?_ ?_⟩
  .obtain⟨k,hk⟩:=hgc t ht;exact hk.u
  .obtain⟨k,hk⟩:=hgc t ht;exact hk.r0
  .dsimp only;rw[e4,hwT]
  .dsimp only;rw[e4];exact e5
def N2 (a b:η) (ha:l! a<=9223372036854775807) (D:∀z∈a,0<=z/\z<=255) (N:l! b<=1000000):Ok (tM (a,b)) TR:=by
 unfold tM;refine aw (P:=CB) ?_ λc L=>aw (YR b N) λl hl=>?_
 .unfold zD;exact aw (Jn a ha D) λp hp=>aw (Si p hp.1 hp.2) λy A=>aj A
 .exact aw (aoo c l L (by omega)) λy A=>aj A
def Sh (a b c:η) (n:Int) (n0:0<=n) (n1:n<=1000000) (N:l! a<=9223372036854775807) (D:∀z∈a,0<=z/\z<=255) (L:l! c<=9223372036854775807) (A:∀z∈c,0<=z/\z<=255):Ok (mf ((a,b,c),n)) TR:=by
 unfold mf bS bT bf;refine bW (λ_=>aw (KL c n L A) λy h=>aj h) λ_=>?_
 have h0:0<=Jr (aP (l! b)) n/\Jr (aP (l! b)) n<=(l! b:Int)/\Jr (aP (l! b)) n<=n:=by
  unfold Jr;split
  .rename_i h;rw[te]at h;dsimp only[al]at h;exact⟨n0,by omega,dC _⟩
  .rename_i h;have h:=gd.1 (Qq.2 h);dsimp only[al]at h ⊢;exact⟨by omega,dC _,h⟩
 refine db (eg h0.1 (eg h0.2.1 ?_));have h1:l! (dF (aQ (Jr (aP (l! b)) n)) b)<=1000000:=by rw[bQ];have:=h0.1;have:=h0.2.2;omega
 exact aw (N2 a _ N D h1) λy h=>aj h
variable {O:Nat->Prop} {v:Value} {V:PM}
def e9 {w:World} {u:Value} (h:cq V O w (.f (.raw v)) u):u=v:=by
 cases h with
 |f h=>cases h;rfl
def vp (h:HF) (z:HF):e_ h [] z=h:=by funext t;simp[e_]
def I8:∀{l:ξ},M' l=J->∀v∈l,v.oneCell'=J
 |[],_,v,z=>by cases z
 |x::r,h,v,z=>by
  simp only[M',ak]at h;rcases aZ.1 z with rfl|z
  .exact h.1
  .exact I8 h.2 v z
def Yn {w:World} (v:Value):cq V O w (HE v) v:=by
 unfold HE;split
 .rename_i vs;split
  .rename_i h1;refine cq.agg (vs:=vs.toList) (by simp) (λx z=>?_) (λj x v z A=>?_)
   .obtain⟨u,D,rfl⟩:=ch.1 z;exact I8 h1 u D
   .rw[aT,A]at z;simp only[bm,af]at z;subst z;exact .f (.raw _)
  .exact .f (.raw _)
 .exact .f (.raw _)
variable {y:AV} {A:HF} {Q:Act} {s:Operand}
def uW {w:World} {e:Dx} {xs:Array Operand} (hrep:r_ V O A w) (h:∀t,.tmp t∈xs->∀y,e.get t=Z y->cq V (tot O V A) w y (Q.tmps.getD t undef)) (h':s∈xs) (z:lZ e s=Z y):cq V (tot O V A) w y (Q.eval s):=by
 cases s with
 |tmp t=>exact h t h' y z
 |const v=>simp only[lZ,af]at z;subst z;exact Yn v
 |func g=>
  simp only[lZ,af]at z;subst z;exact cq.qy (vs:=[]) (g:=g) (cells:=[]) rfl (by intro j s v h';simp at h')
 |global g=>
  simp only[lZ]at z;cases D:G g with
  |none=>rw[D]at z;cases z
  |some cells=>rw[D]at z;cases z;exact .f (hrep.gl g cells D)
abbrev WA (φ:PM) (E:Nat->Prop) (h':HF) (w:World) (a:Act) (e:Dx) (o:Oper):Prop:=∀x y,x∈o.op.operands->lZ e x=Z y->cq φ (tot E φ h') w y (a.eval x)
variable {P:Program} {d:Oper}
def gh.reads {e:Dx} {h:HF} {rd:ι} 
 (N:∀(φ:PM) (E:Nat->Prop) (h':HF) (w:World) (a:Act),(∀i∈rd,h' i=h i)->WA φ E h' w a e d->r_ φ E h' w->
   ∃v,(execOp a.eval d).run P w= .ok (.value v) w/\cq φ (tot E φ h') w y v):gh P d e.get h ⟨y,rd,[],A,[]⟩:=by
 intro φ E h' w a h1 h2 h3 z h5;obtain⟨v,r,rel⟩:=N φ E h' w a h1 (λx val L D=>uW z h3 L D) z;unfold Oper.wp;rw[r];refine ⟨v,φ,rfl,?_,λ_ _ h=>.inl h,?_,?_⟩<;>rw[vp]
 .exact jZ.refl _ _ _
 .exact z
 .exact rel
def dt {R:Cv} (h:rv y=Z R):R=⟨y,[],[],[],[]⟩:=by simp only[rv,af]at h;exact h.symm
section pure
variable {P:Program} {o:Oper} {e:Dx} {h:mY} {nx:Nat} {R:Cv}
def ars (z:o.op= .move s\/o.op= .assign s) (A:dx (.mv s) e h nx=Z R):gh P o e.get h.get R.eff:=by
 simp only[dx]at A;split at A
 .rename_i v D;rw[dt A];exact gh.reads λφ E h' w a _ hop _=>⟨a.eval s,by unfold execOp;rcases z with z|z<;>rw[z]<;>rfl,hop s v (by rcases z with z|z<;>rw[z]<;>simp[Op.operands]) D⟩
 .cases A
def aoc {c y:Operand} (A:o.op= .pick c s y) (z:dx (.pick c s y) e h nx=Z R):gh P o e.get h.get R.eff:=by
 simp only[dx]at z;split at z
 .rename_i t L;split at z
  .rename_i v D;rw[dt z];refine gh.reads λφ E h' w a _ hop _=>?_
   have hcv:=e9 (hop c _ (by rw[A];simp[Op.operands]) L);refine ⟨a.eval (if t then s else y),?_,hop _ v (by rw[A];cases t<;>simp[Op.operands]) D⟩;unfold execOp;rw[A];simp only[hcv];cases t<;>rfl
  .cases z
 .cases z
def aod (A:o.op= .nilCheck s) (D:dx (.zh s) e h nx=Z R):gh P o e.get h.get R.eff:=by
 simp only[dx]at D;split at D
 .rename_i id off N;rw[dt D];refine gh.reads λφ E h' w a _ hop _=>?_
  have h1:=hop s _ (by rw[A];simp[Op.operands]) N;generalize L:a.eval s=z at h1;cases h1 with
  |H hφ=>exact⟨_,by unfold execOp;rw[A];simp only[L];rfl,.H hφ⟩
 .rename_i cells off N;rw[dt D];refine gh.reads λφ E h' w a _ hop _=>?_
  have h1:=hop s _ (by rw[A];simp[Op.operands]) N;generalize L:a.eval s=z at h1;cases h1 with
  |f h1=>
   have h2:=h1;cases h2 with
   |H _ _ b base us hO hb hcl hu hr=>exact⟨_,by unfold execOp;rw[A];simp only[L];rfl,.f h1⟩
 .rename_i g cap N;rw[dt D];refine gh.reads λφ E h' w a _ hop _=>?_
  have h1:=hop s _ (by rw[A];simp[Op.operands]) N;generalize L:a.eval s=z at h1;cases h1 with
  |qy hl hr=>exact⟨_,by unfold execOp;rw[A];simp only[L];rfl,.qy hl hr⟩
 .cases D
def arp {t:TypeId} (A:o.op= .unOp .not t s) (z:dx (.not s) e h nx=Z R):gh P o e.get h.get R.eff:=by
 simp only[dx]at z;split at z
 .rename_i b D;rw[dt z];refine gh.reads λφ E h' w a _ hop _=>?_
  have h1:=e9 (hop s _ (by rw[A];simp[Op.operands]) D);exact⟨_,by unfold execOp;rw[A];simp only[h1];rfl,.f (.raw _)⟩
 .cases z
def AQ (k:IntKind) (n:Int):bA k n=k.wrap n:=by
 rw[J4];unfold O2;split
 .split
  .rename_i h;simp only[dg,ak,bR]at h;have:pX .i64 n=if n%18446744073709551616≥9223372036854775808 then n%18446744073709551616-18446744073709551616 else n%18446744073709551616:=by
    simp[pX,IntKind.bits,IntKind.signed]
   rw[this];split<;>omega
  .rfl
 .split
  .rename_i h;simp only[dg,ak,bR]at h;have:pX .u8 n=n%256:=by
    simp[pX,IntKind.bits,IntKind.signed]
   rw[this];omega
  .rfl
 .rfl
variable {z:TypeId}
def aol {x:TypeId} {k D:IntKind} (A:o.op= .convert x z s) (N:P.underlying x=Z (.int D)) (hd:P.underlying z=Z (.int k)) (d:dx (.conv k s) e h nx=Z R):gh P o e.get h.get R.eff:=by
 simp only[dx]at d;split at d
 .rename_i kk n L;rw[dt d];refine gh.reads λφ E h' w a _ hop _=>?_
  have h1:=e9 (hop s _ (by rw[A];simp[Op.operands]) L);refine ⟨_,?_,.f (.raw _)⟩;unfold execOp;rw[A];simp[h1,convert,run_underlying N,run_underlying hd,Conv.intToInt,AQ]
 .cases d
def R9 (a:ByteArray):a.toList=a.data.toList:=by
 first|exact ByteArray.toList_eq a|simp[ByteArray.toList]|rfl
def ae7 {op:BinOp} {t:TypeId} {u r:Value} (z:uX op u v=Z r) (x y:Operand) (w:World):
 (do eqGuard op t x y u v;binOp op t u v:Sem Value).run P w= .ok r w:=by
 unfold uX at z;split at z
 .rename_i k a D b;split at z
  .rename_i L;have A:k=D:=by simpa using L
   subst A;split at z<;>first|(cases z;simp[eqGuard,binOp,Op.intCmp,Op.intArith,AQ,dg,fQ];done)|(split at z<;>first|(cases z;done)|(rename_i N;cases z;simp[eqGuard,binOp,Op.intDiv,AQ,show b≠0 from by simpa using N];done))|(cases z;done)
  .cases z
 .rename_i a b;split at z<;>first|(cases z;simp[eqGuard,binOp,Op.stringOp,tB,R9];done)|(cases z;done)
 .cases z
def alw {s:Sem Value} {w w':World} (z:s.run P w= .ok v w'):(do let x<-s;pure (Next.value x):Sem Next).run P w= .ok (.value v) w':=by
 simp[z]
def amn {op:BinOp} {y:Operand} {t:TypeId} (A:o.op= .binOp op t s y z) (D:dx (.bin op s y) e h nx=Z R):gh P o e.get h.get R.eff:=by
 simp only[dx]at D;split at D
 .rename_i u v N L;split at D
  .rename_i r hr;rw[dt D];refine gh.reads λφ E h' w a _ hop _=>?_
   have h1:=e9 (hop s _ (by rw[A];simp[Op.operands]) N);have h2:=e9 (hop y _ (by rw[A];simp[Op.operands]) L);refine ⟨r,?_,.f (.raw _)⟩;unfold execOp;rw[A];simp only[h1,h2];exact alw (ae7 (P:=P) (t:=t) hr s y w)
  .cases D
 .cases D
def XV {t:TypeId} (z:P.underlying t=Z .bool) (u v:Bool) (w:World):(Op.equal t (.bool u) (.bool v)).run P w= .ok (u==v) w:=by
 have key:∀d,(Op.equalIn (d+1) t (.bool u) (.bool v)).run P w= .ok (u==v) w:=λd=>by simp[Op.equalIn,run_underlying z]
 exact key 9999
def UO {t:TypeId} (D:P.underlying t=Z (.slice z)) (A:M Addr) (n c:Nat) (w:World):(Op.equal t (.slice A n c) (.slice U 0 0)).run P w= .ok A.isNone w:=by
 have key:∀d,(Op.equalIn (d+1) t (.slice A n c) (.slice U 0 0)).run P w= .ok A.isNone w:=λd=>by cases A<;>simp[Op.equalIn,run_underlying D]
 exact key 9999
def amm {neg:Bool} {op:BinOp} {y:Operand} {t:TypeId} (A:o.op= .binOp op t s y z) (hop:op=if neg then .neq else .eql) (hu:P.underlying t=Z .bool) (D:dx (.xj neg s y) e h nx=Z R):gh P o e.get h.get R.eff:=by
 simp only[dx]at D;split at D
 .rename_i u v N L;rw[dt D];refine gh.reads λφ E h' w a _ hp _=>?_
  have h1:=e9 (hp s _ (by rw[A];simp[Op.operands]) N);have h2:=e9 (hp y _ (by rw[A];simp[Op.operands]) L);refine ⟨_,?_,.f (.raw _)⟩;unfold execOp;rw[A];simp only[h1,h2];subst hop;cases neg<;>simp[eqGuard,binOp,XV hu]
 .cases D
def Z8 {neg:Bool} {op:BinOp} {y:Operand} {t el:TypeId} (ho:o.op= .binOp op t s y z) (hop:op=if neg then .neq else .eql) (hy:y= .const (.slice U 0 0)) (hu:P.underlying t=Z (.slice el)) (L:dx (.zf neg s) e h nx=Z R):gh P o e.get h.get R.eff:=by
 have key:∀(v:Value) (w:World) (ρ:Operand->Value) (A:M Addr) (n c:Nat),ρ s= .slice A n c->ρ y= .slice U 0 0->(execOp ρ o).run P w= .ok (.value (.bool (A.isNone !=neg))) w:=by
  intro v w ρ A n c h1 h2;unfold execOp;rw[ho];simp only[h1,h2];subst hop;cases neg<;>simp[eqGuard,binOp,UO hu]
 have hyv:∀a:Act,a.eval y= .slice U 0 0:=λa=>by rw[hy];rfl
 simp only[dx]at L;split at L
 .rename_i id sz n D;rw[dt L];refine gh.reads λφ E h' w a _ hp _=>?_
  have h1:=hp s _ (by rw[ho];simp[Op.operands]) D;generalize N:a.eval s=t' at h1;cases h1 with
  |G hφ hn hc hs=>exact⟨_,key (.bool J) w a.eval _ _ _ N (hyv a),by simpa[raw] using cq.f (.raw _)⟩
 .rename_i id off n D;rw[dt L];refine gh.reads λφ E h' w a _ hp _=>?_
  have h1:=hp s _ (by rw[ho];simp[Op.operands]) D;generalize N:a.eval s=t' at h1;cases h1 with
  |sl hφ hn hc=>exact⟨_,key (.bool J) w a.eval _ _ _ N (hyv a),by simpa[raw] using cq.f (.raw _)⟩
 .rename_i cells n D;rw[dt L];refine gh.reads λφ E h' w a _ hp _=>?_
  have h1:=hp s _ (by rw[ho];simp[Op.operands]) D;generalize N:a.eval s=t' at h1;cases h1 with
  |f h1=>
   cases h1 with
   |sl=>exact⟨_,key (.bool J) w a.eval _ _ _ N (hyv a),by simpa[raw] using cq.f (.raw _)⟩
 .rename_i cells D;rw[dt L];refine gh.reads λφ E h' w a _ hp _=>?_
  have h1:=hp s _ (by rw[ho];simp[Op.operands]) D;generalize N:a.eval s=t' at h1;cases h1 with
  |f h1=>
   cases h1 with
   |_=>exact⟨_,key (.bool J) w a.eval _ _ _ N (hyv a),.qw⟩
 .rename_i D;rw[dt L];refine gh.reads λφ E h' w a _ hp _=>?_
  have h1:=hp s _ (by rw[ho];simp[Op.operands]) D;generalize N:a.eval s=t' at h1;cases h1 with
  |emp=>exact⟨_,key (.bool J) w a.eval _ _ _ N (hyv a),.qw⟩
 .rename_i v D;split at L
  .rename_i hv;rw[dt L];refine gh.reads λφ E h' w a _ hp _=>?_
   have h1:=e9 (hp s _ (by rw[ho];simp[Op.operands]) D);unfold uR at hv;split at hv
   .exact⟨_,key (.bool J) w a.eval _ _ _ h1 (hyv a),by simpa[raw] using cq.f (.raw _)⟩
   .cases hv
  .cases L
 .cases L
def gA {t:TypeId} (z:fI P t=Z i) (w:World):(sizeOf t).run P w= .ok i w:=by
 unfold fI at z;cases hi:P.info? t with
 |none=>rw[hi]at z;cases z
 |some sz=>rw[hi]at z;simp at z;simp[sizeOf,typeInfo,program,hi,hZ,z]
variable {b:Bool}
def Tc {t:TypeId} (z:Gl P t=Z b) (w:World):(isAgg t).run P w= .ok b w:=by
 unfold Gl at z;cases hi:P.underlying t with
 |none=>rw[hi]at z;cases z
 |some d=>
  rw[hi]at z;simp only[bm,af]at z;rw[<- z];simp only[isAgg,ec,run_underlying hi,cM];cases d<;>rfl
def kJ (b off i:Nat):(⟨b,off,U⟩:Addr).add i=⟨b,off+i,U⟩:=by
 unfold Addr.add;split<;>simp_all
def Tb {s:Array Field} {f:Field} (A:P.underlying z=Z (.struct s)) (hf:s[i]? =Z f) (D:fI P f.type=Z j) (h0:j≠0) (w:World) (b k:Nat):
 (Instr.fieldAt z (.pointer (Z ⟨b,k,U⟩)) i).run P w= .ok (.pointer (Z ⟨b,k+f.offset,U⟩)) w:=by
 have h1:=gA D w;simp[Instr.fieldAt,run_underlying A,hf,Instr.sureAddr,fieldPlace,h1,h0,kJ]
variable {K:Array Field}
def as2 {f:Field} {x:Operand} (ho:o.op= .fieldAddr z x i) (N:P.underlying z=Z (.struct K)) (hf:K[i]? =Z f) (hs:fI P f.type=Z j) (h0:j≠0) (A:dx (.jf f.offset x) e h nx=Z R):gh P o e.get h.get R.eff:=by
 have key:∀(w:World) (ρ:Operand->Value) (b k:Nat),ρ x= .pointer (Z ⟨b,k,U⟩)->(execOp ρ o).run P w= .ok (.value (.pointer (Z ⟨b,k+f.offset,U⟩))) w:=by
  intro w ρ b k h1;unfold execOp;rw[ho];simp only[h1];exact alw (Tb N hf hs h0 w b k)
 simp only[dx]at A;split at A
 .rename_i id off L;rw[dt A];refine gh.reads λφ E h' w a _ hp _=>?_
  have h1:=hp x _ (by rw[ho];simp[Op.operands]) L;generalize D:a.eval x=s at h1;cases h1 with
  |H hφ=>exact⟨_,key w a.eval _ _ D,.H hφ⟩
 .rename_i cells off L;rw[dt A];refine gh.reads λφ E h' w a _ hp _=>?_
  have h1:=hp x _ (by rw[ho];simp[Op.operands]) L;generalize D:a.eval x=s at h1;cases h1 with
  |f h1=>
   cases h1 with
   |H _ _ b base us hO hb hcl N hr=>
    refine ⟨_,key w a.eval _ _ D,.f ?_⟩;rw[qP];exact .H cells _ b base us hO hb hcl N hr
 .cases A
def Mb {t:TypeId} {y:Operand} {off n c:Nat} {k:IntKind} {sz:Int} {ρ:Operand->Value} {w:World} (ho:o.op= .indexAddr t s y) (L:P.underlying t=Z (.slice z)) (N:fI P z=Z i) (D:ρ s= .slice (Z ⟨j,off,U⟩) n c) (A:ρ y= .int k sz) (h0:0<=sz) (h1:sz<n):
 (execOp ρ o).run P w= .ok (.value (.pointer (Z ⟨j,off+sz.toNat*i,U⟩))) w:=by
 have h2:=gA N w;unfold execOp;rw[ho];simp[D,A,Instr.indexAt,asIntOf,run_underlying L,h2,h0,h1,kJ]
def as0 {t:TypeId} {y:Operand} (N:o.op= .indexAddr t s y) (hu:P.underlying t=Z (.slice z)) (hs:fI P z=Z i) (A:dx (.jg i s y) e h nx=Z R):gh P o e.get h.get R.eff:=by
 simp only[dx]at A;split at A
 .rename_i v k j hx hy;have hyv:∀{φ:PM} {E:Nat->Prop} {h':HF} {w:World} {a:Act},WA φ E h' w a e o->a.eval y= .int k j:=λhp=>e9 (hp y _ (by rw[N];simp[Op.operands]) hy)
  split at A
  .split at A
   .rename_i id sz' n L;simp only[dg,fQ,ak,bR,cG]at L;obtain⟨⟨rfl,h0⟩,h1⟩:=L;rw[dt A];refine gh.reads λφ E h' w a _ hp _=>?_
    have D:=hp s _ (by rw[N];simp[Op.operands]) hx;generalize hz:a.eval s=el at D;cases D with
    |G hφ hn hc' hsh=>
     refine ⟨_,Mb N hu hs hz (hyv hp) h0 h1,?_⟩;rw[bF];exact .H hφ
   .cases A
  .split at A
   .rename_i id off n L;simp only[dg,fQ,ak,bR]at L;obtain⟨h0,h1⟩:=L;rw[dt A];refine gh.reads λφ E h' w a _ hp _=>?_
    have D:=hp s _ (by rw[N];simp[Op.operands]) hx;generalize hz:a.eval s=el at D;cases D with
    |sl hφ hn hc'=>exact⟨_,Mb N hu hs hz (hyv hp) h0 h1,.H hφ⟩
   .cases A
  .split at A
   .rename_i cells n L;simp only[dg,fQ,ak,bR]at L;obtain⟨h0,h1⟩:=L;rw[dt A];refine gh.reads λφ E h' w a _ hp _=>?_
    have D:=hp s _ (by rw[N];simp[Op.operands]) hx;generalize hz:a.eval s=el at D;cases D with
    |f D=>
     cases D with
     |nil=>omega
     |sl _ _ c b base us hn hc' hO hb hcl hu' hr'=>exact⟨_,Mb N hu hs hz (hyv hp) h0 h1,.f (.H cells _ b base us hO hb hcl hu' hr')⟩
   .cases A
  .cases A
 .cases A
def aoj {t:TypeId} {y:Operand} (L:o.op= .indexAddr t s y) (hu:P.underlying t=Z (.array i z)) (hs:fI P z=Z j) (A:dx (.jx i j s y) e h nx=Z R):gh P o e.get h.get R.eff:=by
 have key:∀(w:World) (ρ:Operand->Value) (b off:Nat) (k:IntKind) (n:Int),ρ s= .pointer (Z ⟨b,off,U⟩)->ρ y= .int k n->0<=n->n<i->(execOp ρ o).run P w= .ok (.value (.pointer (Z ⟨b,off+n.toNat*j,U⟩))) w:=by
  intro w ρ b off k n h1 h2 h3 h4;have h5:=gA hs w;unfold execOp;rw[L];simp[h1,h2,Instr.indexAt,asIntOf,run_underlying hu,h5,h3,h4,kJ,Instr.sureAddr]
 simp only[dx]at A;split at A
 .rename_i v k sz hx hy;split at A
  .rename_i hc;simp only[dg,fQ,ak,bR]at hc;obtain⟨h0,h1⟩:=hc;split at A
   .rw[dt A];refine gh.reads λφ E h' w a _ hp _=>?_
    have D:=hp s _ (by rw[L];simp[Op.operands]) hx;have hyv:=e9 (hp y _ (by rw[L];simp[Op.operands]) hy);generalize N:a.eval s=el at D;cases D with
    |H hφ=>exact⟨_,key w a.eval _ _ k sz N hyv h0 h1,.H hφ⟩
   .rw[dt A];refine gh.reads λφ E h' w a _ hp _=>?_
    have D:=hp s _ (by rw[L];simp[Op.operands]) hx;have hyv:=e9 (hp y _ (by rw[L];simp[Op.operands]) hy);generalize N:a.eval s=el at D;cases D with
    |f D=>
     cases D with
     |H _ _ b base us hO hb hcl hu' hr'=>
      refine ⟨_,key w a.eval _ _ k sz N hyv h0 h1,.f ?_⟩;rw[qP];exact .H _ _ b base us hO hb hcl hu' hr'
   .cases A
  .cases A
 .cases A
def as3 (N:o.op= .extract s i) (A:dx (.ext s i) e h nx=Z R):gh P o e.get h.get R.eff:=by
 simp only[dx]at A;split at A
 .rename_i l hx;split at A
  .rename_i v D;rw[dt A];refine gh.reads λφ E h' w a _ hp _=>?_
   have L:=hp s _ (by rw[N];simp[Op.operands]) hx;generalize hz:a.eval s=z at L;cases L with
   |@qg _ vs hl hrr=>
    have hlt:i<l! vs:=by
     rw[hl];exact (bi.1 D).1
    refine ⟨vs[i],?_,hrr i v _ D (aD hlt)⟩;unfold execOp;rw[N];simp[hz,Instr.extract,hlt]
  .cases A
 .cases A
def arx {y:Operand} {D:Array TypeId} (A:o.op= .call {callee:=.builtin .max,args:=#[s,y],argTypes:=D}) (z:dx (.max s y) e h nx=Z R):gh P o e.get h.get R.eff:=by
 simp only[dx]at z;split at z
 .rename_i k a b k' N L;rw[dt z];refine gh.reads λφ E h' w a _ hp _=>?_
  have h1:=e9 (hp s _ (by rw[A];simp[Op.operands,dI]) N);have h2:=e9 (hp y _ (by rw[A];simp[Op.operands,dI]) L);refine ⟨_,?_,.f (.raw _)⟩;unfold execOp;rw[A];simp[resolve,invoke,builtin,Builtin.max_,Builtin.max2,h1,h2,fQ]
 .cases z
def arw {y:Operand} {D:Array TypeId} (A:o.op= .call {callee:=.builtin .min,args:=#[s,y],argTypes:=D}) (z:dx (.min s y) e h nx=Z R):gh P o e.get h.get R.eff:=by
 simp only[dx]at z;split at z
 .rename_i k a b k' N L;rw[dt z];refine gh.reads λφ E h' w a _ hp _=>?_
  have h1:=e9 (hp s _ (by rw[A];simp[Op.operands,dI]) N);have h2:=e9 (hp y _ (by rw[A];simp[Op.operands,dI]) L);refine ⟨_,?_,.f (.raw _)⟩;unfold execOp;rw[A];simp[resolve,invoke,builtin,Builtin.min_,Builtin.min2,h1,h2,fQ]
 .cases z
def arq {t:TypeId} {k:IntKind} (L:o.op= .unOp .neg t s) (A:dx (.bin .sub (.const (.int k 0)) s) e h nx=Z R):gh P o e.get h.get R.eff:=by
 simp only[dx,lZ,HE]at A;split at A
 .rename_i u v hu N;cases hu;split at A
  .rename_i r z;rw[dt A];refine gh.reads λφ E h' w a _ hop _=>?_
   have h1:=e9 (hop s _ (by rw[L];simp[Op.operands]) N);refine ⟨r,?_,.f (.raw _)⟩;unfold execOp;rw[L];cases v<;>simp only[uX]at z<;>try (cases z;done)
   split at z
   .rename_i D;have D:=eq_of_beq D;subst D;cases z;simp[h1,Op.unary,Op.intArith,AQ]
   .cases z
  .cases A
 .cases A
def aob {i:Operand} {t:TypeId} (A:o.op= .index t s i) (N:P.underlying t=Z .string) (z:dx (.jq s i) e h nx=Z R):gh P o e.get h.get R.eff:=by
 simp only[dx]at z;split at z
 .rename_i x k j L hi;split at z
  .rename_i h0;simp only[dg,bR]at h0;split at z
   .rename_i b D;rw[dt z];refine gh.reads λφ E h' w a _ hop _=>?_
    have h1:=e9 (hop s _ (by rw[A];simp[Op.operands]) L);have h2:=e9 (hop i _ (by rw[A];simp[Op.operands]) hi);refine ⟨_,?_,.f (.raw _)⟩;have hs:x[j.toNat]? =Z b:=by
     rw[bE]at D;obtain⟨hl,he⟩:=cw.1 D;exact getElem?_pos x j.toNat hl▸dT Z he
    unfold execOp;rw[A];simp[Instr.index,run_underlying N,h1,h2,asIntOf,h0,hs]
   .cases z
  .cases z
 .cases z
variable {f:FuncId}
def arv {caps:Array Operand} (ho:o.op= .makeFunc (.func f) #[] caps) (L:dx (.mkf f caps.toList) e h nx=Z R):gh P o e.get h.get R.eff:=by
 simp only[dx]at L;split at L
 .rename_i l hl;rw[dt L];refine gh.reads λφ E h' w a _ hp _=>?_
  refine ⟨_,by unfold execOp;rw[ho];rfl,?_⟩;have key:∀(xs:Y Operand) (A:Y AV),(∀x∈xs,x∈o.op.operands)->evs e xs=Z A->l! A=l! xs/\∀(j:Nat) x v,A[j]? =Z x->(xs.map a.eval)[j]? =Z v->cq φ (tot E φ h') w x v:=by
   intro xs;induction xs with
   |nil=>intro A _ h;simp only[evs,af]at h;subst h;exact⟨rfl,λj x v D=>by simp at D⟩
   |cons x xs ih=>
    intro A hm h;simp only[evs]at h;split at h
    .rename_i y hy;split at h
     .rename_i ys' hys;cases h;obtain⟨h1,h2⟩:=ih ys' (λx D=>hm x (bM _ D)) hys;refine ⟨by simp[h1],λj z v N hv=>?_⟩;cases j with
      |zero=>simp at N hv;subst N hv;exact hp x _ (hm x (cR ..)) hy
      |succ j=>exact h2 j z v (by simpa using N) (by simpa using hv)
     .cases h
    .cases h
  obtain⟨h1,h2⟩:=key caps.toList l (λx D=>by rw[ho];simpa[Op.operands] using D) hl;have h3:(caps.map a.eval)=(caps.toList.map a.eval).toArray:=by
   apply Array.ext';simp
  have h4:(#[]:Array Operand).map a.eval=#[]:=by simp
  rw[h4,h3];exact .qy (by simp[h1]) h2
 .cases L
end pure
section
variable {P:Program} {o:Oper} {e:Dx} {h:mY} {nx:Nat} {R:Cv}
def YU {α:Type} {l cs:Y α} (h:i+j<=l! l) (he:(l.drop i).take j=cs):l! cs=j/\∀(sz:Nat) x,cs[sz]? =Z x->l[i+sz]? =Z x:=by
 subst he;constructor
 .simp;omega
 .intro sz x z;rw[cS]at z;split at z
  .rw[il]at z;exact z
  .cases z
def zN (f:Nat->Value) (n j:Nat) (v:Value) (h:((iR n).map f)[j]? =Z v):v=f j/\j<n:=by
 rw[aT]at h;rcases bx j n with z|z
 .rw[ri z]at h;simp at h;exact⟨h.symm,z⟩
 .rw[bJ (by simpa using z)]at h;cases h
def Ae (φ:PM) (O:Nat->Prop) (w:World) (c:BC) (f:Nat->M Value):Prop:=∀j x,c.get j=Z x->x.isCell=J/\∃v,f j=Z v/\cq φ O w x v
variable {b:Bool}
def YT {w:World} {c:BC} (z:c.sub? i j b=Z y) {f:Nat->M Value} (hc:Ae V O w c f):
 ∃cs:ξ,l! cs=j/\(∀(sz:Nat) v,cs[sz]? =Z v->f (i+sz)=Z v)/\(b=aa->j=1)/\cq V O w y (if b then .agg cs.toArray else cs.getD 0 undef):=by
 cases b with
 |false=>
  simp only[BC.sub?]at z;split at z
  .obtain⟨h0,v,h1,L⟩:=hc i y z;exact⟨[v],rfl,λsz u hu=>by cases sz with|zero=>simp at hu;subst hu;exact h1|succ sz=>simp at hu,λ_=>rfl,by simpa using L⟩
  .cases z
 |true=>
  have fin:∀(g:Nat->M AV),(∀sz,sz<j->∃x,g sz=Z x/\c.get (i+sz)=Z x)->
   ∃cs:ξ,l! cs=j/\(∀(sz:Nat) v,cs[sz]? =Z v->f (i+sz)=Z v)/\∀(sz:Nat) x v,g sz=Z x->cs[sz]? =Z v->cq V O w x v:=by
   intro g N;refine ⟨(iR j).map λsz=>(f (i+sz)).getD undef,by simp,λsz v hv=>?_,λsz x v D hv=>?_⟩
   .obtain⟨rfl,A⟩:=zN _ _ _ _ hv;obtain⟨x,_,L⟩:=N sz A;obtain⟨_,v,h3,_⟩:=hc _ _ L;rw[h3];rfl
   .obtain⟨rfl,A⟩:=zN _ _ _ _ hv;obtain⟨x',h1,L⟩:=N sz A;rw[D]at h1;cases h1;obtain⟨_,v,h3,h4⟩:=hc _ _ L;rw[h3];exact h4
  simp only[BC.sub?]at z;split at z
  .rename_i l;split at z
   .rename_i hle;cases z;obtain⟨hl,N⟩:=YU (aU hle) (rfl:(l.drop i).take j=_);obtain⟨cs,h1,L,h3⟩:=fin (λsz=>(((l.drop i).take j)[sz]?).map AV.f) (λsz A=>by
     have hlt:sz<l! ((l.drop i).take j):=by rw[hl];exact A
     refine ⟨.f ((l.drop i).take j)[sz],by simp only[aD hlt,bm],?_⟩;simp only[BC.get,N sz _ (aD hlt),bm])
    refine ⟨cs,h1,L,nofun,.f (.agg _ _ (by rw[h1,hl]) ?_ ?_)⟩
    .intro x D;obtain⟨sz,A⟩:=gg D;exact (hc (i+sz) (.f x) (by simp only[BC.get,N sz x A,bm])).1
    .intro sz x v D hv;have:=h3 sz (.f x) v (by simp only[D,bm]) hv;cases this with
     |f h=>exact h
   .cases z
  .rename_i l;split at z
   .rename_i hle;cases z;obtain⟨hl,N⟩:=YU (aU hle) (rfl:(l.drop i).take j=_);obtain⟨cs,h1,L,h3⟩:=fin (λsz=>(((l.drop i).take j)[sz]?)) (λsz A=>by
     have hlt:sz<l! ((l.drop i).take j):=by rw[hl];exact A
     exact⟨_,aD hlt,N sz _ (aD hlt)⟩)
    refine ⟨cs,h1,L,nofun,.agg (by rw[h1,hl]) ?_ ?_⟩
    .intro x D;obtain⟨sz,A⟩:=gg D;exact (hc (i+sz) x (N sz x A)).1
    .intro sz x v D hv;exact h3 sz x v D hv
   .cases z
  .cases z
def QH {t:TypeId} (N:fI P t=Z i) (ha:Gl P t=Z b) (w:World) (z off:Nat) (cs:ξ) (A:l! cs=i) (D:∀(j:Nat) v,cs[j]? =Z v->w.cell? ⟨z,off+j,U⟩=Z v) (h1:b=aa->i=1):
 (loadVar t ⟨z,off,U⟩).run P w= .ok (if b then .agg cs.toArray else cs.getD 0 undef) w:=by
 unfold loadVar;simp only[ec,Tc ha w,cM];cases b with
 |true=>
  simp only[bk,ec,gA N w,cM];rw[<- A,run_loadCells_list (P:=P) w ⟨z,off,U⟩ cs (λj v L=>by rw[kJ];exact D j v L)];rfl
 |false=>
  have h1:=h1 rfl;cases cs with
  |nil=>simp at A;omega
  |cons v r=>
   have:=D 0 v rfl;simp only[cX]at this;simp[load,hZ,this]
def Ln {φ:PM} {w:World} {t:TypeId} {z:Bool} (D:fI P t=Z i) (ha:Gl P t=Z z) {c:BC} {b base:Nat} (A:c.sub? j i z=Z y)
 (N:Ae φ O w c λoff=>w.cell? ⟨b,base+off,U⟩):∃v,(loadVar t ⟨b,base+j,U⟩).run P w= .ok v w/\cq φ O w y v:=by
 obtain⟨cs,h1,h2,h3,h4⟩:=YT A N;exact⟨_,QH D ha w b (base+j) cs h1 (λoff v L=>by rw[qP];exact h2 off v L) h3,h4⟩
variable {S:kc}
def VQ {w:World} (hrep:r_ V O A w) (L:A i=Z S) (h':V i=Z j) (D:S.c.isCells=J):Ae V (tot O V A) w S.c λk=>w.cell? ⟨j,0+k,U⟩:=by
 obtain⟨k',h1,_,h2⟩:=hrep.at_ i S L;rw[h']at h1;cases h1;obtain⟨arr,h3,h4,N⟩:=h2.cells D;intro k x z;obtain⟨c1,v,c2,c3⟩:=N k x z;exact⟨c1,v,by simp[Qm,h3,c2],c3⟩
def Yt {w:World} {cells:Y FV} {D:Nat->Value} (hcl:∀x∈cells,x.isCell=J) (L:∀base,base<l! cells->w.cell? ⟨i,j+base,U⟩=Z (D base)) (N:∀(base:Nat) x,cells[base]? =Z x->mX O w x (D base)):
 Ae V O w (.fz cells) λbase=>w.cell? ⟨i,j+base,U⟩:=by
 intro base y z;simp only[BC.get]at z;cases A:cells[base]? with
 |none=>rw[A]at z;cases z
 |some q=>
  rw[A]at z;simp at z;subst z;have hj:base<l! cells:=(bi.1 A).1;exact⟨hcl q (aX A),D base,L base hj,.f (N base q A)⟩
def SJ {c:BC} (h:c.sub? i j b=Z y):c.isCells=J:=by
 cases c with
 |fz|mx=>rfl
 |_=>cases b<;>simp only[BC.sub?,BC.get]at h<;>(try split at h)<;>cases h
def VZ {t:TypeId} (hs:fI P t=Z i) (hag:Gl P t=Z b) (z:xa h i b y=Z R):
 R.wr=[]/\R.nw=[]/\R.N=[]/\∀(φ:PM) (E:Nat->Prop) (h':HF) (w:World) (D:Value),(∀sz∈R.rd,h' sz=h.get sz)->r_ φ E h' w->cq φ (tot E φ h') w y D->
  ∃ad v,D= .pointer (Z ad)/\(loadVar t ad).run P w= .ok v w/\cq φ (tot E φ h') w R.val v:=by
 unfold xa at z;split at z
 .rename_i id off;split at z
  .rename_i ag hb;split at z
   .rename_i v L;cases z;refine ⟨rfl,rfl,rfl,λφ E h' w D hrd hrep A=>?_⟩;have hh:h' id=Z ag:=by rw[hrd id (by simp)];exact hb
    cases A with
    |@H _ _ k hφ=>
     obtain⟨u,h1,h2⟩:=Ln hs hag (w:=w) (b:=k) (base:=0) L (VQ hrep hh hφ (SJ L));rw[bF]at h1;exact⟨_,u,rfl,h1,h2⟩
   .cases z
  .cases z
 .rename_i cells off;split at z
  .rename_i v L;rw[dt z];refine ⟨rfl,rfl,rfl,λφ E h' w D hrd hrep A=>?_⟩;cases A with
   |f A=>
    cases A with
    |H _ _ ag base us hO hb hcl hu A=>
     obtain⟨u,h1,h2⟩:=Ln (φ:=φ) (O:=tot E φ h') hs hag (w:=w) (b:=ag) (base:=base) L (Yt hcl hu A);exact⟨_,u,rfl,h1,h2⟩
  .cases z
 .cases z
def aof {t:TypeId} (A:o.op= .load t s) (hs:fI P t=Z i) (hag:Gl P t=Z b) (z:dx (.load i b s) e h nx=Z R):gh P o e.get h.get R.eff:=by
 simp only[dx]at z;split at z
 .rename_i p hx;obtain⟨h1,h2,L,D⟩:=VZ hs hag z;obtain⟨val,rd,wr,nw,N⟩:=R;simp only at h1 h2 L D;subst h1 h2 L;refine gh.reads λφ E h' w a hrd hp hrep=>?_
  obtain⟨ad,v,h5,h6,h7⟩:=D φ E h' w _ hrd hrep (hp s _ (by rw[A];simp[Op.operands]) hx);refine ⟨v,?_,h7⟩;unfold execOp;rw[A];simp[Instr.loadAt,h5,Instr.sureAddr,h6]
 .cases z
variable {N:ξ}
def Y9 {φ:PM} {w:World} {t:TypeId} (vs:fI P t=Z i) (hag:Gl P t=Z b) {c:BC} (L:c.sub? j i b=Z y) 
 (hc:Ae φ O w c λoff=>N[off]?):∃v,(part t N.toArray j).run P w= .ok v w/\cq φ O w y v:=by
 obtain⟨cs,h1,D,h3,h4⟩:=YT L hc;refine ⟨_,?_,h4⟩;unfold part;simp only[ec,Tc hag w,cM];cases b with
 |true=>
  simp only[bk,ec,gA vs w,cM];have:N.toArray.extract j (j+i)=cs.toArray:=by
   apply Array.ext';simp only[Array.toList_extract,List.extract_eq_take_drop];apply Cb;intro off;rw[show j+i-j=i from by omega,cS,il];rcases bx off i with A|A
   .rw[aC A];have:=D off _ (aD (by omega:off<l! cs));rw[this,aD (by omega:off<l! cs)]
   .rw[av (by omega),bJ (by omega)]
  rw[this];rfl
 |false=>
  have h5:=h3 rfl;cases cs with
  |nil=>simp at h1;omega
  |cons v r=>
   have:=D 0 v rfl;simp only[cX]at this;simp[this]
def VR {w:World} {l:Y AV} (L:l! N=l! l) (hcl:∀x∈l,x.isCell=J) (D:∀(j:Nat) x v,l[j]? =Z x->N[j]? =Z v->cq V O w x v):Ae V O w (.mx l) λj=>N[j]? :=by
 intro j x z;simp only[BC.get]at z;have A:j<l! N:=by rw[L];exact (bi.1 z).1
 exact⟨hcl x (aX z),N[j],aD A,D j x _ z (aD A)⟩
def R7 {w:World} {l:Y FV} (vs:l! N=l! l) (hcl:∀x∈l,x.isCell=J) (L:∀(j:Nat) x v,l[j]? =Z x->N[j]? =Z v->mX O w x v):Ae V O w (.fz l) λj=>N[j]? :=by
 intro j x z;simp only[BC.get]at z;cases A:l[j]? with
 |none=>rw[A]at z;cases z
 |some q=>
  rw[A]at z;simp at z;subst z;have D:j<l! N:=by rw[vs];exact (bi.1 A).1
  exact⟨hcl q (aX A),N[j],aD D,.f (L j q _ A (aD D))⟩
def Nm {w:World} {t:TypeId} (hs:fI P t=Z i) (hag:Gl P t=Z b) (A:cq V O w y v) {val:AV}
 (D:(∃l,y= .agg l/\(BC.mx l).sub? j i b=Z val)\/(∃l,y= .f (.agg l)/\(BC.fz l).sub? j i b=Z val)):∃cs z,v= .agg cs/\(part t cs j).run P w= .ok z w/\cq V O w val z:=by
 rcases D with ⟨l,rfl,D⟩|⟨l,rfl,D⟩
 .cases A with
  |agg L hcl A=>
   obtain⟨z,h1,N⟩:=Y9 hs hag D (VR L hcl A);exact⟨_,z,rfl,h1,N⟩
 .cases A with
  |f A=>
   cases A with
   |agg _ vs L hcl A=>
    obtain⟨z,h1,N⟩:=Y9 (φ:=V) hs hag D (R7 L hcl A);exact⟨_,z,rfl,h1,N⟩
variable {z:TypeId} {K:Array Field}
def as1 {f:Field} {x:Operand} (N:o.op= .field z x i) (hu:P.underlying z=Z (.struct K)) (hf:K[i]? =Z f) (hs:fI P f.type=Z j) (hag:Gl P f.type=Z b) (s:dx (.fld f.offset j b x) e h nx=Z R):gh P o e.get h.get R.eff:=by
 have fin:∀(y:AV) (val:AV),lZ e x=Z y->((∃l,y= .agg l/\(BC.mx l).sub? f.offset j b=Z val)\/(∃l,y= .f (.agg l)/\(BC.fz l).sub? f.offset j b=Z val))->rv val=Z R->gh P o e.get h.get R.eff:=by
  intro y val A D hR;rw[dt hR];refine gh.reads λφ E h' w a _ hp _=>?_
  obtain⟨cs,v,h1,h2,h3⟩:=Nm hs hag (hp x _ (by rw[N];simp[Op.operands]) A) D;refine ⟨v,?_,h3⟩;unfold execOp;rw[N];simp[Instr.field,run_underlying hu,hf,h1,asAgg,h2]
 simp only[dx]at s;split at s
 .rename_i l A;split at s
  .rename_i v D;exact fin _ v A (.inl ⟨l,rfl,D⟩) s
  .cases s
 .rename_i l A;split at s
  .rename_i v D;exact fin _ v A (.inr ⟨l,rfl,D⟩) s
  .cases s
 .cases s
def arz {t:TypeId} {y:Operand} (L:o.op= .index t s y) (hu:P.underlying t=Z (.array i z)) (hs:fI P z=Z j) (hag:Gl P z=Z b) (N:dx (.idx i j b s y) e h nx=Z R):gh P o e.get h.get R.eff:=by
 simp only[dx]at N;split at N
 .rename_i v0 k sz hx hy;split at N
  .rename_i hc;simp only[dg,fQ,ak,bR]at hc;obtain⟨h0,h1⟩:=hc;have fin:∀(val:AV),((∃l,v0= .agg l/\(BC.mx l).sub? (sz.toNat*j) j b=Z val)\/(∃l,v0= .f (.agg l)/\(BC.fz l).sub? (sz.toNat*j) j b=Z val))->rv val=Z R->gh P o e.get h.get R.eff:=by
    intro val A hR;rw[dt hR];refine gh.reads λφ E h' w a _ hp _=>?_
    have hyv:=e9 (hp y _ (by rw[L];simp[Op.operands]) hy);obtain⟨cs,v,h3,h4,h5⟩:=Nm hs hag (hp s _ (by rw[L];simp[Op.operands]) hx) A;refine ⟨v,?_,h5⟩;have h6:=gA hs w;unfold execOp;rw[L];simp[Instr.index,run_underlying hu,hyv,asIntOf,h3,h0,h1,h6,h4]
   split at N
   .rename_i l;split at N
    .rename_i v A;exact fin v (.inl ⟨l,rfl,A⟩) N
    .cases N
   .rename_i l;split at N
    .rename_i v A;exact fin v (.inr ⟨l,rfl,A⟩) N
    .cases N
   .cases N
  .cases N
 .cases N
def aoi {t:TypeId} (ho:o.op= .call {callee:=.builtin .len,args:=#[s],argTypes:=#[t]}) (hu:P.underlying t=Z (.slice z)) (L:dx (.len s) e h nx=Z R):gh P o e.get h.get R.eff:=by
 simp only[dx]at L;split at L
 .rename_i y hx;split at L
  .rename_i n N;rw[dt L];refine gh.reads λφ E h' w a _ hp _=>?_
   have D:=hp s _ (by rw[ho];simp[Op.operands,dI]) hx;refine ⟨_,?_,.f (.raw _)⟩;have hz:∃A c,a.eval s= .slice A n c:=by
    generalize a.eval s=el at D;unfold AV.slen at N;split at N<;>try (simp only[af]at N;subst N)
    .cases D with
     |f D=>cases D with
      |nil|sl=>exact⟨_,_,rfl⟩
    .cases e9 D;exact⟨_,_,rfl⟩
    .cases D;exact⟨_,_,rfl⟩
    .cases D;exact⟨_,_,rfl⟩
    .cases D;exact⟨_,_,rfl⟩
    .cases N
   obtain⟨A,c,hz⟩:=hz;unfold execOp;rw[ho];simp[resolve,invoke,builtin,Builtin.len_,run_underlying hu,hz,goInt]
  .cases L
 .cases L
def aoh {t:TypeId} (A:o.op= .call {callee:=.builtin .len,args:=#[s],argTypes:=#[t]}) (L:P.underlying t=Z .string) (z:dx (.lens s) e h nx=Z R):gh P o e.get h.get R.eff:=by
 simp only[dx]at z;split at z
 .rename_i x D;rw[dt z];refine gh.reads λφ E h' w a _ hp _=>?_
  have N:=e9 (hp s _ (by rw[A];simp[Op.operands,dI]) D);refine ⟨_,?_,.f (.raw _)⟩;unfold execOp;rw[A];simp[resolve,invoke,builtin,Builtin.len_,run_underlying L,N,goInt]
 .cases z
def aog {t v:TypeId} (N:o.op= .call {callee:=.builtin .len,args:=#[s],argTypes:=#[t]}) (hu:P.underlying t=Z (.map z v)) (A:dx (.jw s) e h nx=Z R):gh P o e.get h.get R.eff:=by
 simp only[dx]at A;split at A
 .rename_i id hx;split at A
  .rename_i es hid;cases A;refine gh.reads λφ E h' w a hrd hp hrep=>?_
   have L:=hp s _ (by rw[N];simp[Op.operands,dI]) hx;have hh:h' id=Z ⟨0,.mp es⟩:=by rw[hrd id (by simp)];exact hid
   generalize hz:a.eval s=k at L;cases L with
   |@mp _ b hφ=>
    obtain⟨b',h1,_,ob,h2,h3⟩:=hrep.at_ id _ hh;rw[hφ]at h1;cases h1;obtain⟨ents,clock,rfl,D,_⟩:=h3;have h5:ents.size=l! es:=by have D:ents.toList.map (·.key)=es.map (·.1):=D;have:=dT ah D;simpa using this
    refine ⟨_,?_,.f (.raw _)⟩;unfold execOp;rw[N];simp[resolve,invoke,builtin,Builtin.len_,run_underlying hu,hz,goInt,getObj,hZ,h2,h5]
  .cases A
 .cases A
end
structure HR (w w':World) (k:Nat) (ob:Obj):Prop where
 os:w'.os=w.os
 tape:w'.tape=w.tape
 output:w'.output=w.output
 size:w'.heap.size=w.heap.size
 at_:w'.heap[k]? =Z ob
 other:∀j,j≠k->w'.heap[j]? =w.heap[j]?
 jh:∀j,w'.shape? j=w.shape? j
structure V_ (w w':World) (ob:Obj):Prop where
 os:w'.os=w.os
 tape:w'.tape=w.tape
 output:w'.output=w.output
 size:w'.heap.size=w.heap.size+1
 at_:w'.heap[w.heap.size]? =Z ob
 other:∀j,j<w.heap.size->w'.heap[j]? =w.heap[j]?
variable {S:kc}
def r_.wset {w w':World} (r:r_ V O A w) {id:Nat} {b':kc} {ob:Obj} (hb:A id=Z S) (L:V id=Z i) (h:HR w w' i ob) (hob:gy V (tot O V A) w b' ob) (D:HF) (hnw:D id=Z b'):
 jZ V V A (e_ A [id] D) w w'/\r_ V O (e_ A [id] D) w':=by
 have hdom:∀k,(∃x,e_ A [id] D k=Z x)↔∃x,A k=Z x:=λk=>by
  unfold e_;by_cases hi:k=id
  .subst hi;simp[hnw,hb]
  .simp[hi]
 have hown:∀j,own V (e_ A [id] D) j↔own V A j:=λj=>by
  constructor
  .rintro⟨k,x,h1,z⟩;obtain⟨y,hy⟩:=(hdom k).1 ⟨x,h1⟩;exact⟨k,y,hy,z⟩
  .rintro⟨k,x,h1,z⟩;obtain⟨y,hy⟩:=(hdom k).2 ⟨x,h1⟩;exact⟨k,y,hy,z⟩
 have m:jZ V V A (e_ A [id] D) w w':=by
  refine ⟨λ_ _ A=>A,⟨h.os,h.tape,h.output,by rw[h.size];exact bV _,λj hj ho=>?_,λj _=>h.jh j⟩,λj _ A=>(hown j).1 A⟩;exact h.other j (λe=>ho (e▸⟨id,S,hb,L⟩))
 refine ⟨m,⟨λk j x y kk hi hj h1 z=>?_,λk x hi=>?_,λi L=>dw (r.el i L) m.ext.size,λg cells hg=>m.keepF (r.gl g cells hg)⟩⟩
 .obtain⟨x',hx'⟩:=(hdom k).1 ⟨x,hi⟩;obtain⟨y',hy'⟩:=(hdom j).1 ⟨y,hj⟩;exact r.inj k j x' y' kk hx' hy' h1 z
 .by_cases hid:k=id
  .subst hid;have:x=b':=by unfold e_ at hi;simp[hnw]at hi;exact hi.symm
   subst this;obtain⟨N,h1,z,_⟩:=r.at_ k S hb;rw[L]at h1;cases h1;exact⟨i,L,z,ob,h.at_,hob.mono λ_ _ A=>m.zq A⟩
  .have hx:A k=Z x:=by unfold e_ at hi;simpa[hid] using hi
   obtain⟨N,h1,z,ob',h3,h4⟩:=r.at_ k x hx;have hne:N≠i:=λe=>hid (r.inj k id x S i hx hb (e▸h1) L)
   exact⟨N,h1,z,ob',by rw[h.other N hne];exact h3,h4.mono λ_ _ A=>m.zq A⟩
def r_.wnew {w w':World} (r:r_ V O A w) {id:Nat} (hid:V id=U) {b:kc} {ob:Obj} (N:V_ w w' ob) (hob:gy V (tot O V A) w b ob) (del:ι) (nw:HF) (hnw:nw id=Z b) (hdel:∀i∈del,i≠id->nw i=U):
 ∃φ',φ' id=Z w.heap.size/\jZ V φ' A (e_ A (id::del) nw) w w'/\(∀i k,φ' i=Z k->V i=Z k\/i∈[id])/\r_ φ' O (e_ A (id::del) nw) w':=by
 have hsub:∀i x,e_ A (id::del) nw i=Z x->i≠id->A i=Z x/\i∉del:=λi x hx hi=>by
  unfold e_ at hx;by_cases hd:i∈del
  .rw[aC (by simp[hd]),hdel i hd hi]at hx;cases hx
  .rw[av (by simp[hi,hd])]at hx;exact⟨hx,hd⟩
 have hlt:∀i x k,A i=Z x->V i=Z k->k<w.heap.size:=λi x k hi D=>by
  obtain⟨k',h1,_,ob',h3,_⟩:=r.at_ i x hi;rw[D]at h1;cases h1;exact (cw.1 h3).1
 have hφ:∀i,i≠id->(if i=id then Z w.heap.size else V i)=V i:=λi hi=>by simp[hi]
 have m:jZ V (λi=>if i=id then Z w.heap.size else V i) A (e_ A (id::del) nw) w w':=by
  refine ⟨λi k D=>?_,⟨N.os,N.tape,N.output,by rw[N.size];omega,λj hj _=>N.other j hj,λj hj=>?_⟩,?_⟩
  .have:i≠id:=λe=>by rw[e,hid]at D;cases D
   rw[hφ i this];exact D
  .unfold sZ;rw[N.other j hj]
  .rintro j hj ⟨i,x,h1,L⟩;by_cases hi:i=id
   .simp[hi]at L;omega
   .have h3:V i=Z j:=by simpa[hi] using L
    exact⟨i,x,(hsub i x h1 hi).1,h3⟩
 refine ⟨_,by simp,m,λi k D=>?_,⟨λi j x y k hi hj h1 L=>?_,λi x hi=>?_,λk D=>dw (r.el k D) m.ext.size,λg cells hg=>m.keepF (r.gl g cells hg)⟩⟩
 .by_cases hi:i=id
  .right;simp[hi]
  .left;rw[hφ i hi]at D;exact D
 .by_cases z:i=id
  .by_cases h:j=id
   .rw[z,h]
   .exfalso;rw[hφ j h]at L;have:=hlt j y k (hsub j y hj h).1 L;simp[z]at h1;omega
  .rw[hφ i z]at h1;have hix:=(hsub i x hi z).1;by_cases h:j=id
   .exfalso;have:=hlt i x k hix h1;simp[h]at L;omega
   .rw[hφ j h]at L;exact r.inj i j x y k hix (hsub j y hj h).1 h1 L
 .by_cases z:i=id
  .subst z;have:x=b:=by unfold e_ at hi;simp[hnw]at hi;exact hi.symm
   subst this;refine ⟨w.heap.size,by simp,λhe=>?_,ob,N.at_,hob.mono λ_ _ A=>m.zq A⟩;have:=r.el _ he;omega
  .obtain⟨k,h1,L,ob',h3,h4⟩:=r.at_ i x (hsub i x hi z).1;refine ⟨k,by rw[hφ i z];exact h1,L,ob',?_,h4.mono λ_ _ A=>m.zq A⟩;rw[N.other k (hlt i x k (hsub i x hi z).1 h1)];exact h3
def sF (w:World) (ob:Obj):V_ w {w with heap:=w.heap.push ob} ob:=by
 refine ⟨rfl,rfl,rfl,by simp,by simp,λj z=>?_⟩;rw[xI,av (by omega)]
def V_.drawn {w w':World} {ob:Obj} (d:Nat) (h:V_ {w with drawn:=d} w' ob):V_ w w' ob:=⟨h.os,h.tape,h.output,h.size,h.at_,h.other⟩
def gh.makes {e:Dx} {rd:ι} 
 (N:∀(φ:PM) (E:Nat->Prop) (h':HF) (w:World) (a:Act),(∀nx∈rd,h' nx=A nx)->WA φ E h' w a e d->r_ φ E h' w->
   ∃v w' ob,(execOp a.eval d).run P w= .ok (.value v) w'/\V_ w w' ob/\gy φ (tot E φ h') w S ob/\∀φ' O,φ' i=Z w.heap.size->cq φ' O w' y v):
 gh P d e.get A ⟨y,rd,[i],jS [(i,S)],[i]⟩:=by
 intro φ E h' w a h1 h2 h3 z h5;obtain⟨v,w',ob,hrun,L,hob,hval⟩:=N φ E h' w a h1 (λx val D h=>uW z h3 D h) z;obtain⟨φ',g1,g2,g3,g4⟩:=z.wnew (id:=i) (h5 i (by simp)) L hob [] (jS [(i,S)]) (by simp[jS]) (by simp);unfold Oper.wp;rw[hrun];exact⟨v,φ',rfl,g2,g3,g4,hval φ' _ g1⟩
def gh.writes {e:Dx} {rd:ι} {b':kc} (h:A i=Z S)
 (hv:∀(φ:PM) (E:Nat->Prop) (h':HF) (w:World) (a:Act),(∀id∈rd,h' id=A id)->h' i=Z S->WA φ E h' w a e d->r_ φ E h' w->
   ∃r w' k ob,(execOp a.eval d).run P w= .ok r w'/\φ i=Z k/\HR w w' k ob/\gy φ (tot E φ h') w b' ob/\(∃v,(r= .value v\/r= .skip/\v=undef)/\cq φ (tot E φ (e_ h' [i] (jS [(i,b')]))) w' y v)):
 gh P d e.get A ⟨y,rd,[i],jS [(i,b')],[]⟩:=by
 intro φ E h' w a h1 D h3 z h5;obtain⟨r,w',k,ob,hrun,hk,hw,hob,v,hr,hval⟩:=hv φ E h' w a h1 (by rw[D i (by simp)];exact h) (λx val hx hy=>uW z h3 hx hy) z;obtain⟨N,L⟩:=z.wset (id:=i) (by rw[D i (by simp)];exact h) hk hw hob (jS [(i,b')]) (by simp[jS]);unfold Oper.wp;rw[hrun];rcases hr with rfl|⟨rfl,rfl⟩
 .exact⟨v,φ,rfl,N,λ_ _ A=>.inl A,L,hval⟩
 .exact⟨undef,φ,rfl,N,λ_ _ A=>.inl A,L,hval⟩
def mW {l:Y AV} (h:gw l=J):∀x∈l,x.isCell=J:=by
 induction l with
 |nil=>intro x z;cases z
 |cons y l A=>
  simp only[gw,ak]at h;intro x z;rcases aZ.1 z with rfl|z
  .exact h.1
  .exact A h.2 x z
def nI:∀{l:Y AV} {z:Y FV},yI l=Z z->l=z.map .f
 |[],z,h=>by simp only[yI,af]at h;subst h;rfl
 |.f x::r,z,h=>by
  simp only[yI]at h;split at h
  .rename_i l A;cases h;rw[nI A];rfl
  .cases h
 |.H _ _::_,_,h|.sl _ _ _::_,_,h|.G _ _ _::_,_,h|.mp _::_,_,h|.emp::_,_,h|.agg _::_,_,h|.qg _::_,_,h|.qy _ _::_,_,h=>by simp[yI]at h
def Cs (φ:PM) (O:Nat->Prop) (w:World) (l:Y AV) (vs:ξ):Prop:=l! vs=l! l/\(∀x∈l,x.isCell=J)/\∀(j:Nat) x v,l[j]? =Z x->vs[j]? =Z v->cq φ O w x v
def BC.get_toMx {c:BC} (z:c.isCells=J) (j:Nat):c.get j=c.toMx[j]? :=by
 cases c with
 |fz l=>simp[BC.get,BC.toMx]
 |mx l=>rfl
 |_=>cases z
def BC.len_toMx {c:BC} (z:c.isCells=J):c.len=l! c.toMx:=by
 cases c with
 |fz l=>simp[BC.len,BC.toMx]
 |mx l=>rfl
 |_=>cases z
def nE (l:Y AV):(nV l).toMx=l/\(nV l).isCells=J:=by
 unfold nV;cases h:yI l with
 |none=>exact⟨rfl,rfl⟩
 |some z=>exact⟨(nI h).symm,rfl⟩
variable {z:TypeId}
def rx {w:World} {c:BC} (ty:c.isCells=J) {arr:Array Value} (N:l! c.toMx<=arr.size)
 (h:∀(j:Nat) x,c.toMx[j]? =Z x->x.isCell=J/\∃v,arr[j]? =Z v/\cq V O w x v):gy V O w ⟨z,c⟩ (.cells arr z (0,0)):=by
 have D:vb V O w c arr:=⟨by rw[BC.len_toMx ty];exact N,λj x L=>h j x (by rw[<- BC.get_toMx ty];exact L)⟩
 unfold gy;cases A:c with
 |fz l|mx l=>rw[A]at D;exact⟨arr,rfl,D⟩
 |_=>rw[A]at ty;cases ty
variable {N:ξ}
def K9 {w:World} {ty:TypeId} {l:Y AV} (h:Cs V O w l N):gy V O w ⟨ty,nV l⟩ (.cells N.toArray ty (0,0)):=by
 obtain⟨h1,D⟩:=nE l;refine rx D (by rw[h1];simp[h.1]) λj x z=>?_
 rw[h1]at z;have A:j<l! N:=by rw[h.1];exact (bi.1 z).1
 exact⟨h.2.1 x (aX z),N[j],by simp[A],h.2.2 j x _ z (aD A)⟩
def XZ {w:World} (h:cq V O w y v) (A:gw y.cs=J):Cs V O w y.cs v.cells.toList:=by
 have one:y.cs=[y]->v.cells=#[v]->Cs V O w y.cs v.cells.toList:=λh1 h2=>by
  rw[h1]at A ⊢;rw[h2];exact⟨rfl,mW A,λj x u z D=>by cases j with|zero=>simp at z D;subst z D;exact h|succ j=>simp at z⟩
 cases h with
 |qd _|qg _ _=>exact co A (by simp[AV.cs,gw,AV.isCell])
 |@agg l vs hl hcl L=>exact⟨hl,hcl,L⟩
 |@f x u hf=>
  cases hf with
  |raw v=>
   have hv:v.oneCell'=J:=by
    have:(AV.f (.raw v)).cs=[.f (.raw v)]:=rfl;rw[this]at A;simpa[gw,AV.isCell,FV.isCell] using A
   refine one rfl ?_;cases v<;>first|rfl|simp[Value.oneCell']at hv
  |agg l vs hl hcl L=>
   refine ⟨by simp[AV.cs,Value.cells,hl],mW A,λj x u z D=>?_⟩;simp only[AV.cs,aT]at z;cases N:l[j]? with
   |none=>rw[N]at z;cases z
   |some q=>rw[N]at z;simp at z;subst z;exact .f (L j q u N (by simpa[Value.cells] using D))
  |_=>exact one rfl rfl
 |_=>exact one rfl rfl
def mX.one {w:World} {x:FV} (h:mX O w x v) (z:x.isCell=J):v.oneCell'=J:=by
 cases h with
 |raw v=>exact z
 |agg=>cases z
 |_=>rfl
def cq.one {w:World} (h:cq V O w y v) (z:y.isCell=J):v.oneCell'=J:=by
 cases h with
 |f h=>exact h.one z
 |qd|agg|qg=>cases z
 |_=>rfl
def Cs.one {w:World} {l:Y AV} (h:Cs V O w l N):∀v∈N,v.oneCell'=J:=by
 intro v A;obtain⟨j,z⟩:=gg A;have hlt:j<l! l:=by rw[<- h.1];exact (bi.1 z).1
 exact (h.2.2 j _ v (aD hlt) z).one (h.2.1 _ (Et hlt))
def Cs.append {w:World} {l l':Y AV} {vs':ξ} (h:Cs V O w l N) (h':Cs V O w l' vs'):Cs V O w (l++l') (N++vs'):=by
 refine ⟨by simp[h.1,h'.1],λx z=>(bG.1 z).elim (h.2.1 x) (h'.2.1 x),λj x v z D=>?_⟩;rcases bx j (l! l) with A|A
 .rw[bj A]at z;rw[bj (by rw[h.1];exact A)]at D;exact h.2.2 j x v z D
 .rw[bO A]at z;rw[bO (by rw[h.1];exact A),h.1]at D;exact h'.2.2 _ x v z D
def Cs.take {w:World} {l:Y AV} (h:Cs V O w l N) (n:Nat):Cs V O w (l.take n) (N.take n):=by
 refine ⟨by simp[h.1],λx z=>h.2.1 x (ij z),λj x v z A=>?_⟩;rw[cS]at z A;split at z
 .rename_i D;rw[aC D]at A;exact h.2.2 j x v z A
 .cases z
def Cs.drop {w:World} {l:Y AV} (h:Cs V O w l N) (n:Nat):Cs V O w (l.drop n) (N.drop n):=by
 refine ⟨by simp[h.1],λx z=>h.2.1 x (List.mem_of_mem_drop z),λj x v z A=>?_⟩;rw[il]at z A;exact h.2.2 _ x v z A
def Cs.splice {w:World} {l l':Y AV} {vs':ξ} (h:Cs V O w l N) (h':Cs V O w l' vs') (off:Nat):Cs V O w (splice l off l') (splice N off vs'):=by
 unfold AI.splice;rw[h'.1];exact ((h.take off).append h').append (h.drop _)
def Cs.raws {φ:PM} {w:World} (z:ξ) (L:nS z=J):Cs φ O w (z.map raw) z:=by
 refine ⟨by simp,λx A=>?_,λj x v A D=>?_⟩
 .obtain⟨v,D,rfl⟩:=ch.1 A;exact gH.1 L v D
 .rw[aT]at A;rw[D]at A;simp at A;subst A;exact .f (.raw v)
def Cs.mono {φ':PM} {O':Nat->Prop} {w w':World} {l:Y AV} (h:Cs V O w l N) (D:∀x v,cq V O w x v->cq φ' O' w' x v):Cs φ' O' w' l N:=⟨h.1,h.2.1,λj x v z A=>D _ _ (h.2.2 j x v z A)⟩
def HR.setRow {w:World} {arr arr':Array Value} (A:w.heap[i]? =Z (.cells arr z (0,0))) (D:arr'.size=arr.size):HR w (w.setRow i arr') i (.cells arr' z (0,0)):=by
 refine ⟨rfl,rfl,rfl,by simp,setRow_heap w i arr arr' z (0,0) A,λj ty=>setRow_other w i j arr' ty,λj=>?_⟩;unfold sZ;by_cases ty:j=i
 .subst ty;rw[setRow_heap w j arr arr' z (0,0) A,A];simp[D]
 .rw[setRow_other w i j arr' ty]
section
variable {P:Program} {o:Oper} {e:Dx} {h:mY} {nx:Nat} {R:Cv}
def ve {t:TypeId} (A:uy P t=Z N) (w:World):∃v,(zeroValue t).run P w= .ok v w/\v.cells.toList=N/\∃i,P.info? t=Z i/\i.zero=Z v:=by
 unfold uy at A;cases hi:P.info? t with
 |none=>rw[hi]at A;cases A
 |some i=>
  rw[hi]at A;simp only[aB]at A;cases D:i.zero with
  |none=>rw[D]at A;cases A
  |some v=>
   rw[D]at A;simp only[bm,af]at A;exact⟨v,by simp[zeroValue,typeInfo,hi,D],A,i,rfl,D⟩
def akw {t:TypeId} (ho:o.op= .alloc t) (hz:uy P t=Z N) (hc:nS N=J) (z:dx (.alloc t N) e h nx=Z R):gh P o e.get h.get R.eff:=by
 simp only[dx,af]at z;subst z;refine gh.makes λφ E h' w a _ _ _=>?_
 obtain⟨v,h1,h2,_⟩:=ve hz w;refine ⟨.pointer (Z ⟨w.heap.size,0,U⟩),{w with heap:=w.heap.push (.cells v.cells t)},.cells v.cells t (0,0),?_,sF w _,?_,λφ' O hφ=>.H hφ⟩
 .unfold execOp;rw[ho];simp[Instr.alloc,h1,newVar,newRow,newObj,hZ]
 .have A:BC.toMx (.fz (N.map .raw))=N.map raw:=by simp[BC.toMx,raw]
  refine rx rfl (by rw[A,<-h2];simp) λj x D=>?_
  rw[A]at D;have cs:=Cs.raws (φ:=φ) (O:=tot E φ h') (w:=w) N hc;have L:j<l! N:=by have:=(bi.1 D).1;simpa using this
  refine ⟨cs.2.1 x (aX D),N[j],?_,cs.2.2 j x _ D (aD L)⟩;have:v.cells.toList[j]? =Z N[j]:=by rw[h2];exact aD L
  simpa using this
def as7 {t:TypeId} (A:o.op= .box t s) (z:dx (.box t s) e h nx=Z R):gh P o e.get h.get R.eff:=by
 simp only[dx]at z;split at z
 .rename_i v D;split at z
  .rename_i N;cases z;refine gh.makes λφ E h' w a _ hp _=>?_
   have L:=XZ (hp s _ (by rw[A];simp[Op.operands]) D) N;refine ⟨.pointer (Z ⟨w.heap.size,0,U⟩),{w with heap:=w.heap.push (.cells (a.eval s).cells t)},.cells (a.eval s).cells t (0,0),?_,sF w _,?_,λφ' O hφ=>.H hφ⟩
   .unfold execOp;rw[A];simp[Instr.box,newVar,newRow,newObj,hZ]
   .have:=K9 (ty:=t) L;simpa using this
  .cases z
 .cases z
def mJ {α:Type} {l vs:Y α} {off:Nat} (hle:off+l! vs<=l! l) (j:Nat):(splice l off vs)[j]? =if j<off then l[j]? else if j<off+l! vs then vs[j-off]? else l[j]? :=by
 unfold splice;rw[iV];have h1:l! (l.take off)=off:=by simp;omega
 by_cases A:j<off
 .rw[aC A,bj (by rw[h1];exact A),cS,aC A]
 .rw[av A,bO (by omega),h1];by_cases z:j<off+l! vs
  .rw[aC z,bj (by omega)]
  .rw[av z,bO (by omega),il];congr 1;omega
def nv {α:Type} {l vs:Y α} (hle:i+l! vs<=l! l):l! (splice l i vs)=l! l:=by
 unfold splice;simp;omega
def UC (off:Nat):∀(vs:ξ) (k:Nat) (arr:Array Value),off+k+l! vs<=arr.size->∀j:Nat,
 ((vs.zipIdx k).foldl (λcs (p:Value×Nat)=>cs.setIfInBounds (off+p.2) p.1) arr)[j]? =if j<off+k then arr[j]? else if j<off+k+l! vs then vs[j-(off+k)]? else arr[j]?
 |[],k,arr,_,j=>by
  simp only[List.zipIdx_nil,List.foldl_nil,kW,cX];split<;>rfl
 |v::vs,k,arr,hle,j=>by
  simp only[bK]at hle;rw[List.zipIdx_cons,t_,UC off vs (k+1) _ (by simp;omega) j];simp only[bK];by_cases h1:j<off+k
  .rw[aC (by omega),aC h1,q_ (by omega)]
  .by_cases A:j=off+k
   .subst A;rw[aC (by omega),av (by omega),aC (by omega)];simp[show off+k<arr.size by omega]
   .rw[av (by omega),av h1];by_cases z:j<off+k+(l! vs+1)
    .rw[aC (by omega),aC z,show j-(off+k)=(j-(off+(k+1)))+1 from by omega];simp
    .rw[av (by omega),av z,q_ (by omega)]
def UB (off:Nat) (c:Array Value) (l:ξ) (hle:off+c.size<=l! l):(c.zipIdx.foldl (λcs (p:Value×Nat)=>cs.setIfInBounds (off+p.2) p.1) l.toArray)=(splice l off c.toList).toArray:=by
 rw[<- Array.foldl_toList,Array.toList_zipIdx];apply Array.ext_getElem?;intro j;rw[UC off c.toList 0 l.toArray (by simpa using hle) j];simp only[cX,lH];rw[mJ (by simpa using hle)]
def Rw {w:World} (hp:WA V O A w Q e o) {place:Nat->M o?}:∀(z:Y F?) (ps':Y m?) (cells cs:Y AV) (vs:ξ),
 (l! ps'=l! z)->(∀(j:Nat) i x,z[j]? =Z (i,x)->∃of sz,ps'[j]? =Z (of,sz,x)/\place i=Z (of,sz))->(∀p∈z,p.2∈o.op.operands)->Cs V (tot O V A) w cells vs->Bx cells e ps'=Z cs->
 ∃vs',Instr.fill place vs.toArray (z.map λp=>(p.1,Q.eval p.2))=Z vs'.toArray/\Cs V (tot O V A) w cs vs'
 |[],ps',cells,cs,vs,h',_,_,hcs,hf=>by
  cases ps' with
  |nil=>simp only[Bx,af]at hf;subst hf;exact⟨vs,rfl,hcs⟩
  |cons _ _=>simp at h'
 |(i,x)::z,ps',cells,cs,vs,h',hpl,hm,hcs,hf=>by
  obtain⟨of,sz,h1,h2⟩:=hpl 0 i x rfl;cases ps' with
  |nil=>simp at h1
  |cons p ps'=>
   simp at h1;subst h1;simp only[Bx]at hf;split at hf
   .rename_i v hv;split at hf
    .rename_i hc;simp only[ak,cG]at hc;obtain⟨⟨hc1,L⟩,D⟩:=hc;have N:=XZ (hp x v (hm _ (cR ..)) hv) D;have hsz:(Q.eval x).cells.size=sz:=by have:=N.1;simp at this;omega
     have hle:of+sz<=l! vs:=by rw[hcs.1];exact aU L
     obtain⟨vs',g1,g2⟩:=Rw hp z ps' _ cs _ (by simpa using h') (λj i x hj=>by have:=hpl (j+1) i x (by simpa using hj);simpa using this) (λp hp=>hm p (bM _ hp)) (hcs.splice N of) hf;refine ⟨vs',?_,g2⟩;simp only[bZ,Instr.fill,h2];have hcd:((decide ((Q.eval x).cells.size≠sz))||decide (of+(Q.eval x).cells.size>vs.toArray.size))=aa:=by
      rw[hsz];simp;omega
     rw[av (by rw[hcd];simp)];have:=UB of (Q.eval x).cells vs (by rw[hsz];exact hle);rw[<- g1,<-this]
    .cases hf
   .cases hf
def GW {t:TypeId}:∀(z:Y F?) (ps':Y m?),za P t z=Z ps'->l! ps'=l! z/\∀(j:Nat) i x,z[j]? =Z (i,x)->∃of sz,ps'[j]? =Z (of,sz,x)/\DJ P t i=Z (of,sz)
 |[],ps',h=>by simp only[za,af]at h;subst h;exact⟨rfl,λj i x N=>by simp at N⟩
 |(i,x)::z,ps',h=>by
  simp only[za]at h;split at h
  .rename_i of sz l h1 h2;cases h;obtain⟨g1,g2⟩:=GW z l h2;refine ⟨by simp[g1],λj L D A=>?_⟩;cases j with
   |zero=>simp at A;obtain⟨rfl,rfl⟩:=A;exact⟨of,sz,rfl,h1⟩
   |succ j=>simpa using g2 j L D (by simpa using A)
  .cases h
def Lg (w:World):∀(z:Y Field),(z.all λf=>(fI P f.type).isSome)=J->(z.mapM (λf=>do pure (f.offset,<-sizeOf f.type)):Sem (Y o?)).run P w= .ok (z.map λf=>(f.offset,(fI P f.type).getD 0)) w
 |[],_=>by simp
 |f::z,h=>by
  simp only[List.all_cons,ak]at h;obtain⟨sz,A⟩:=jB.1 h.1;have h1:=gA A w;have D:=Lg w z h.2;simp only[List.mapM_cons,ec,h1,cM,pU,D,bZ,A,nY]
def Z9 {t:TypeId} {L:Array F?} {ps':Y m?} (ho:o.op= .build t L) (hz:uy P t=Z N) (hc:nS N=J) (hps:za P t L.toList=Z ps')
 (D:(∃A,P.underlying t=Z (.struct A)/\(A.toList.all λf=>(fI P f.type).isSome)=J)\/∃n el sz,P.underlying t=Z (.array n el)/\fI P el=Z sz) (ha:dx (.build N ps') e h nx=Z R):gh P o e.get h.get R.eff:=by
 simp only[dx]at ha;split at ha
 .rename_i cs hf;rw[dt ha];refine gh.reads λφ E h' w a _ hp _=>?_
  obtain⟨v,h1,h2,_⟩:=ve hz w;have hcells:v.cells=N.toArray:=by rw[<- h2]
  obtain⟨g1,g2⟩:=GW L.toList ps' hps;have hops:∀p∈L.toList,p.2∈o.op.operands:=λp hp=>by
   rw[ho];simp only[Op.operands,List.mem_toArray,ch];exact⟨p,hp,rfl⟩
  have hmap:(L.map λx:Nat×Operand=>(x.1,a.eval x.2)).toList=L.toList.map λp=>(p.1,a.eval p.2):=by simp
  have fin:∀place:Nat->M o?,(∀i,DJ P t i≠U->place i=DJ P t i)->∃vs':ξ,Instr.fill place v.cells (L.map λx:Nat×Operand=>(x.1,a.eval x.2)).toList=Z vs'.toArray/\cq φ (tot E φ h') w (Pm cs) (.agg vs'.toArray):=by
   intro place hpl;obtain⟨vs',k1,k2⟩:=Rw (place:=place) hp L.toList ps' _ cs N g1 (λj i x hj=>by
    obtain⟨of,sz,q1,q2⟩:=g2 j i x hj;exact⟨of,sz,q1,by rw[hpl i (by rw[q2];simp),q2]⟩) hops (Cs.raws N hc) hf
   refine ⟨vs',by rw[hmap,hcells];exact k1,?_⟩;unfold Pm;cases hfs:yI cs with
   |none=>exact .agg k2.1 k2.2.1 k2.2.2
   |some A=>
    have he:=nI hfs;refine .f (.agg A vs' (by rw[k2.1,he];simp) (λx hx=>k2.2.1 (.f x) (by rw[he];exact ch.2 ⟨x,hx,rfl⟩)) λj x u hx D=>?_);have:=k2.2.2 j (.f x) u (by rw[he,aT,hx];rfl) D;cases this with
    |f h=>exact h
  rcases D with ⟨A,D,hall⟩|⟨n,el,sz,D,z⟩
  .obtain⟨vs',k1,k2⟩:=fin (λi=>(A.map λf=>(f.offset,(fI P f.type).getD 0))[i]?) (λi hi=>by
    unfold DJ at hi ⊢;rw[D]at hi ⊢;simp only[Array.getElem?_map]at hi ⊢;cases hf:A[i]? with
    |none=>rw[hf]at hi;simp at hi
    |some f=>
     simp only[bm,aB];cases z:fI P f.type with
     |none=>rw[hf]at hi;simp[z]at hi
     |some sz=>simp)
   refine ⟨_,?_,k2⟩;have hm:=Lg w A.toList hall;have hm':(A.mapM (λf=>do pure (f.offset,<-sizeOf f.type)):Sem (Array o?)).run P w= .ok (A.map λf=>(f.offset,(fI P f.type).getD 0)) w:=by
    rw[Array.mapM_eq_mapM_toList];simp only[Sem.run_map,hm,cM];congr 1;apply Array.ext';simp
   unfold execOp;rw[ho];simp only[Instr.build,ec,h1,cM,run_underlying D,hm',pU,k1]
  .obtain⟨vs',k1,k2⟩:=fin (λi=>Z (i*sz,sz)) (λi hi=>by
    unfold DJ;rw[D];simp[z])
   refine ⟨_,?_,k2⟩;have h3:=gA z w;unfold execOp;rw[ho];simp only[Instr.build,ec,h1,cM,run_underlying D,h3,pU,k1]
 .cases ha
end
section
variable {P:Program} {o:Oper} {e:Dx} {h:mY} {nx:Nat} {R:Cv}
def tR {t:TypeId} (h:C' P t=Z z):P.underlying t=Z (.slice z):=by
 unfold C' at h;split at h
 .rename_i e A;cases h;exact A
 .cases h
def oc (z:ξ):∀n,l! (repl z n)=n*l! z
 |0=>by simp[repl]
 |n+1=>by simp[repl,oc z n,iD];omega
def EU (z:ξ):∀(n j:Nat),j<n*l! z->(repl z n)[j]? =(z[j%l! z]?).map .raw
 |0,j,h=>by simp at h
 |n+1,j,h=>by
  have D:0<l! z:=by
   rcases s5 (l! z) with h0|h0
   .rw[h0]at h;simp at h
   .exact h0
  rw[repl];rcases bx j (l! z) with A|A
  .rw[bj (by simpa using A),aT,Es A]
  .rw[bO (by simpa using A),bH,EU z n (j-l! z) (by rw[iD]at h;omega),Nat.mod_eq_sub_mod A]
def aa6 (A:v.cells.toList=N) (n sz:Nat) (L:l! N=sz) (hsz:sz≠0) (j:Nat) (z:j<n*sz):
 ((AE (n*sz)).map (λi=>v.cells[i%v.cells.size]!))[j]? =N[j%sz]? :=by
 have D:v.cells.size=sz:=by rw[<- L,<-A];simp
 have hlt:j%sz<v.cells.size:=by rw[D];exact Nat.mod_lt _ (by omega)
 rw[Array.getElem?_map,Array.getElem?_range];simp only[z,bk,bm,D];rw[<- A,bE,getElem!_pos v.cells _ hlt,iI hlt]
def Cs.repl {φ:PM} {w:World} (hv:v.cells.toList=N) (n sz:Nat) (z:l! N=sz) (hsz:sz≠0) (hc:nS N=J):
 Cs φ O w ((repl N n).map .f) ((AE (n*sz)).map (λi=>v.cells[i%v.cells.size]!)).toList:=by
 have key:∀(j:Nat) (x:AV),((AI.repl N n).map AV.f)[j]? =Z x->∃u,N[j%sz]? =Z u/\x=raw u/\j<n*sz:=by
  intro j x A;rw[aT]at A;have D:j<n*l! N:=by
   rcases bx j (n*l! N) with h|h
   .exact h
   .rw[bJ (by rw[oc];exact h)]at A;cases A
  rw[EU N n j D,z]at A;cases L:N[j%sz]? with
  |none=>rw[L]at A;cases A
  |some u=>rw[L]at A;simp at A;exact⟨u,rfl,A.symm,by rw[<- z];exact D⟩
 refine ⟨by simp[oc,z],λx A=>?_,λj x u A L=>?_⟩
 .obtain⟨j,D⟩:=gg A;obtain⟨u,h1,rfl,_⟩:=key j x D;exact gH.1 hc u (aX h1)
 .obtain⟨u',h1,rfl,D⟩:=key j x A;rw[bE,aa6 hv n sz z hsz j D,h1]at L;cases L;exact .f (.raw _)
def as6 {t:TypeId} {A:Array F?} {D:ξ} {ps':Y m?} (ho:o.op= .buildSlice t i A) (hu:P.underlying t=Z (.slice z)) (hz:uy P z=Z D) (hs:fI P z=Z j) (hc:nS D=J) (hl:l! D=j) (hsz:j≠0) (hb:i*j<=65536)
 (hps:za P t A.toList=Z ps') (L:dx (.xw z j i D ps') e h nx=Z R):gh P o e.get h.get R.eff:=by
 simp only[dx]at L;split at L
 .rename_i cs hf;cases L;refine gh.makes λφ E h' w a _ hp _=>?_
  obtain⟨v,h1,h2,_⟩:=ve hz w;obtain⟨g1,g2⟩:=GW A.toList ps' hps;have hops:∀p∈A.toList,p.2∈o.op.operands:=λp hp=>by
   rw[ho];simp only[Op.operands,List.mem_toArray,ch];exact⟨p,hp,rfl⟩
  have hmap:(A.map λx:Nat×Operand=>(x.1,a.eval x.2)).toList=A.toList.map λp=>(p.1,a.eval p.2):=by simp
  obtain⟨vs',k1,k2⟩:=Rw (place:=λn=>Z (n*j,j)) hp A.toList ps' _ cs _ g1 (λsz n x hj=>by
   obtain⟨of,s',q1,N⟩:=g2 sz n x hj;unfold DJ at N;rw[hu]at N;simp[hs]at N;obtain⟨rfl,rfl⟩:=N;exact⟨_,_,q1,rfl⟩) hops (Cs.repl h2 i j hl hsz hc) hf
  have hcells:(AE (i*j)).map ((if i*j=0 then #[] else v.cells)[·%(if i*j=0 then #[] else v.cells).size]!)=((AE (i*j)).map (λn=>v.cells[n%v.cells.size]!)).toList.toArray:=by
   by_cases h0:i*j=0
   .simp[h0]
   .rw[Array.toArray_toList];simp only[av h0]
  have hlen:l! vs'=i*j:=by
   have e1:=k2.1;have e2:l! cs=l! ((AI.repl D i).map AV.f):=by
    have:∀(ps':Y m?) (c0 c1:Y AV),Bx c0 e ps'=Z c1->l! c1=l! c0:=by
     intro ps';induction ps' with
     |nil=>intro c0 c1 h;simp only[Bx,af]at h;rw[h]
     |cons p ps' ih=>
      intro c0 c1 h;obtain⟨of,s',x⟩:=p;simp only[Bx]at h;split at h
      .split at h
       .rename_i hcc;simp only[ak,cG]at hcc;rw[ih _ _ h,nv (by rw[hcc.1.1];exact aU hcc.1.2)]
       .cases h
      .cases h
    exact this ps' _ _ hf
   rw[e1,e2];simp[oc,hl]
  refine ⟨.slice (Z ⟨w.heap.size,0,U⟩) i i,{w with heap:=w.heap.push (.cells vs'.toArray z)},.cells vs'.toArray z (0,0),?_,sF w _,K9 k2,λφ' O hφ=>?_⟩
  .have h3:=gA hs w;have hk:Instr.fill (λn=>Z (n*j,j)) ((AE (i*j)).map ((if i*j=0 then #[] else v.cells)[·%(if i*j=0 then #[] else v.cells).size]!)) (A.map λx:Nat×Operand=>(x.1,a.eval x.2)).toList=Z vs'.toArray:=by
    rw[hcells,hmap];exact k1
   unfold execOp;rw[ho];simp only[Instr.buildSlice,ec,run_underlying hu,cM,h3];rw[av (by omega)];by_cases h0:i*j=0
   .simp only[aC h0]at hk ⊢;simp only[ec,pU,cM,hk,newRow,newObj,hZ]
   .simp only[av h0]at hk ⊢;simp only[ec,pU,cM,h1,hk,newRow,newObj,hZ]
  .simp only[];split
   .rename_i h0;subst h0;exact .emp
   refine .G hφ (bV _) ?_ ⟨z,?_⟩
   .have:i<=i*j:=Nat.le_mul_of_pos_right _ (by omega);unfold maxLen;omega
   .unfold sZ;simp[hlen]
 .cases L
end
def r_.wren {w w':World} (r:r_ V O A w) {k:Nat} {b':kc} {ob:Obj} (hb:A i=Z S) (N:V i=Z k) (hnx:V j=U) (hw:HR w w' k ob) (hob:gy V (tot O V A) w b' ob) (nw:HF) (hnw:nw j=Z b') (hnid:nw i=U):
 ∃φ',φ' j=Z k/\jZ V φ' A (e_ A [j,i] nw) w w'/\(∀id k,φ' id=Z k->V id=Z k\/id∈[j])/\r_ φ' O (e_ A [j,i] nw) w':=by
 have hne:j≠i:=λe=>by rw[e,N]at hnx;cases hnx
 have hsub:∀id x,e_ A [j,i] nw id=Z x->id≠j->A id=Z x/\id≠i:=λid x hx hi=>by
  unfold e_ at hx;by_cases hd:id=i
  .subst hd;simp[hnid]at hx
  .simp[hi,hd]at hx;exact⟨hx,hd⟩
 have hφ:∀id,id≠j->(if id=j then Z k else V id)=V id:=λid hi=>by simp[hi]
 have m:jZ V (λid=>if id=j then Z k else V id) A (e_ A [j,i] nw) w w':=by
  refine ⟨λid k' L=>?_,⟨hw.os,hw.tape,hw.output,by rw[hw.size];exact bV _,λnx hj ho=>?_,λnx _=>hw.jh nx⟩,?_⟩
  .have:id≠j:=λe=>by rw[e,hnx]at L;cases L
   rw[hφ id this];exact L
  .exact hw.other nx (λe=>ho (e▸⟨i,S,hb,N⟩))
  .rintro nx hj ⟨id,x,h1,D⟩;by_cases hi:id=j
   .simp[hi]at D;subst D;exact⟨i,S,hb,N⟩
   .have h3:V id=Z nx:=by simpa[hi] using D
    exact⟨id,x,(hsub id x h1 hi).1,h3⟩
 refine ⟨_,by simp,m,λid k' L=>?_,⟨λid nx x y kk hi hj h1 D=>?_,λid x hi=>?_,λk N=>dw (r.el k N) m.ext.size,λg cells hg=>m.keepF (r.gl g cells hg)⟩⟩
 .by_cases hi:id=j
  .right;simp[hi]
  .left;rw[hφ id hi]at L;exact L
 .by_cases z:id=j
  .by_cases h:nx=j
   .rw[z,h]
   .exfalso;rw[hφ nx h]at D;simp[z]at h1;subst h1;obtain⟨q1,q2⟩:=hsub nx y hj h;exact q2 (r.inj nx i y S k q1 hb D N)
  .rw[hφ id z]at h1;obtain⟨p1,p2⟩:=hsub id x hi z;by_cases h:nx=j
   .exfalso;simp[h]at D;subst D;exact p2 (r.inj id i x S k p1 hb h1 N)
   .rw[hφ nx h]at D;exact r.inj id nx x y kk p1 (hsub nx y hj h).1 h1 D
 .by_cases z:id=j
  .subst z;have:x=b':=by unfold e_ at hi;simp[hnw]at hi;exact hi.symm
   subst this;obtain⟨k',h1,D,_⟩:=r.at_ i S hb;rw[N]at h1;cases h1;exact⟨k,by simp,D,ob,hw.at_,hob.mono λ_ _ A=>m.zq A⟩
  .obtain⟨p1,p2⟩:=hsub id x hi z;obtain⟨k',h1,D,ob',h3,h4⟩:=r.at_ id x p1;have hne':k'≠k:=λe=>p2 (r.inj id i x S k p1 hb (e▸h1) N)
   exact⟨k',by rw[hφ id z];exact h1,D,ob',by rw[hw.other k' hne'];exact h3,h4.mono λ_ _ A=>m.zq A⟩
def r_.cs {w:World} (hrep:r_ V O A w) (hb:A i=Z S) (hk:V i=Z j) (h':S.c.isCells=J):
 ∃arr,w.heap[j]? =Z (.cells arr S.ty (0,0))/\Cs V (tot O V A) w S.c.toMx (arr.toList.take (l! S.c.toMx))/\l! S.c.toMx<=arr.size:=by
 obtain⟨k',h1,_,h2⟩:=hrep.at_ i S hb;rw[hk]at h1;cases h1;obtain⟨arr,h3,N,L⟩:=h2.cells h';rw[BC.len_toMx h']at N;refine ⟨arr,h3,⟨by simp;omega,λx D=>?_,λk x v D z=>?_⟩,N⟩
 .obtain⟨k,hj⟩:=gg D;exact (L k x (by rw[BC.get_toMx h'];exact hj)).1
 .obtain⟨_,u,h6,h7⟩:=L k x (by rw[BC.get_toMx h'];exact D);rw[cS]at z;split at z
  .rw[bE,h6]at z;cases z;exact h7
  .cases z
section
variable {P:Program} {o:Oper} {e:Dx} {h:mY} {nx:Nat} {R:Cv}
def Qa {t:TypeId} (z:HI P t=Z i):∃b,P.info? t=Z b/\b.bytes=i:=by
 unfold HI at z;cases hi:P.info? t with
 |none=>rw[hi]at z;cases z
 |some b=>rw[hi]at z;simp at z;exact⟨b,rfl,z⟩
def ES (h:be i j=J):i<=1099511627776/\i*j<=1099511627776:=by
 simp only[be,ak]at h;exact⟨aU h.1,aU h.2⟩
def adl (h1: -9223372036854775808<=a) (z:a<=9223372036854775807):pX .i64 a=a:=by
 rw[<- AQ];have:(dg (-9223372036854775808) a&&dg a 9223372036854775807)=J:=by simp[dg,h1,z]
 simp only[J4,O2,this,bk]
def aoe {t:TypeId} {A:ξ} {l c:Operand} (ho:o.op= .makeSlice t l c) (hu:P.underlying t=Z (.slice z)) (hz:uy P z=Z A) (hs:fI P z=Z i) (hb:HI P z=Z j) (hc:nS A=J) (hl:l! A=i) (hsz:i≠0)
 (L:dx (.zg z i j A l c) e h nx=Z R):gh P o e.get h.get R.eff:=by
 simp only[dx]at L;split at L
 .rename_i k1 n k2 m D hy;split at L
  .rename_i hcd;simp only[dg,ak,bR]at hcd;obtain⟨⟨h0,h1⟩,h2⟩:=hcd;obtain⟨r1,r2⟩:=ES h2;cases L;refine gh.makes λφ E h' w a _ hp _=>?_
   have e1:=e9 (hp l _ (by rw[ho];simp[Op.operands]) D);have e2:=e9 (hp c _ (by rw[ho];simp[Op.operands]) hy);obtain⟨v,z1,z2,_⟩:=ve hz w;obtain⟨sz,i1,i2⟩:=Qa hb;have s1:=gA hs w;have w1:pX .i64 n=n:=adl (by omega) (by omega);have w2:pX .i64 m=m:=adl (by omega) (by omega);have hbm:(j:Int)*m=((m.toNat*j:Nat):Int):=by
    rw[Int.natCast_mul,Int.toNat_of_nonneg (by omega),Int.mul_comm]
   have t1:¬(m<0\/(281474976710656:Int)<j*m):=by rw[hbm];omega
   have hr:¬(m.toNat*j>roomBytes):=by unfold roomBytes;omega
   have hn0:m.toNat*i=0->m.toNat=0:=λh=>(Nat.mul_eq_zero.1 h).resolve_right hsz
   let cells:Array Value:=(AE (m.toNat*i)).map (λsz=>v.cells[sz%v.cells.size]!)
   refine ⟨.slice (Z ⟨w.heap.size,0,U⟩) n.toNat m.toNat,{w with heap:=w.heap.push (.cells cells z)},.cells cells z (0,0),?_,sF w _,?_,λφ' O hφ=>?_⟩
   .unfold execOp;rw[ho];by_cases hm0:m.toNat*i=0
    .obtain rfl:m=0:=by have:=hn0 hm0;omega
     obtain rfl:n=0:=by omega
     simp[Instr.makeSlice,run_underlying hu,e1,e2,asInt,asIntOf,typeInfo,i1,w1,askRoom,s1,newRow,newObj,hZ,cells];rw[show AE 0=#[] from rfl];simp
    .simp[Instr.makeSlice,run_underlying hu,e1,e2,asInt,asIntOf,typeInfo,i1,i2,w1,w2,t1,show ¬n<0 by omega,show ¬m<n by omega,askRoom,hr,s1,hm0,z1,newRow,newObj,hZ,cells]
   .have cs:=Cs.repl (φ:=φ) (O:=tot E φ h') (w:=w) z2 m.toNat i hl hsz hc;have hle:n.toNat<=m.toNat:=by omega
    have hlen:n.toNat*i<=m.toNat*i:=cQ _ hle;refine rx rfl (by simp[BC.toMx,oc,hl,cells];exact hlen) λbytes x D=>?_
    simp only[BC.toMx,aT]at D;have hj:bytes<n.toNat*l! A:=by
     rcases bx bytes (n.toNat*l! A) with h|h
     .exact h
     .rw[bJ (by rw[oc];exact h)]at D;cases D
    have hj2:bytes<m.toNat*l! A:=by rw[hl]at hj ⊢;omega
    rw[EU A _ bytes hj,<-EU A m.toNat bytes hj2]at D;have N:((repl A m.toNat).map AV.f)[bytes]? =Z x:=by rw[aT];exact D
    have hj3:bytes<l! cells.toList:=by simp[cells];rw[<- hl];exact hj2
    exact⟨cs.2.1 x (aX N),cells.toList[bytes],by rw[<- bE];exact aD hj3,cs.2.2 bytes x _ N (aD hj3)⟩
   .refine .G hφ (by omega) (by unfold maxLen;omega) ⟨z,?_⟩;unfold sZ;simp[cells]
  .cases L
 .cases L
def akv {t:TypeId} {y:Operand} (ho:o.op= .store t s y) (hs:fI P t=Z i) (z:dx (.store i s y) e h nx=Z R):gh P o e.get h.get R.eff:=by
 simp only[dx]at z;split at z
 .rename_i p v hx hy;unfold BX at z;split at z
  .rename_i id off;split at z
   .rename_i b hb;split at z
    .rename_i hl;split at z
     .rename_i c' hput;cases z;unfold BC.put at hput;split at hput
      .rename_i hcc;simp only[ak]at hcc;obtain⟨⟨c1,c2⟩,c3⟩:=hcc;have c2:=aU c2;have hl:l! v.cs=i:=by simpa using hl
       have D:c'.toMx=splice b.c.toMx off v.cs/\c'.isCells=J:=by
        split at hput
        .rename_i l ys hbl hys;cases hput;refine ⟨?_,rfl⟩;have hv:=nI hys;rw[hv,hbl];simp only[BC.toMx];unfold splice;simp[fV,uc]
        .cases hput;exact⟨rfl,rfl⟩
       refine gh.writes hb λφ E h' w a hrd hb' hp hrep=>?_
       have hr:=XZ (hp y _ (by rw[ho];simp[Op.operands]) hy) c3;have hpx:=hp s _ (by rw[ho];simp[Op.operands]) hx;generalize hz:a.eval s=pv at hpx;cases hpx with
       |@H _ _ k hφ=>
        obtain⟨arr,g1,g2,g3⟩:=hrep.cs hb' hφ c1;have hvl:(a.eval y).cells.toList.length=i:=by rw[hr.1];exact hl
        rw[BC.len_toMx c1]at c2;have hst:=run_storeCells_at (P:=P) k off b.ty (a.eval y).cells.toList 0 arr w g1 (by rw[hvl];omega) hr.one
        let arr':Array Value:=(arr.toList.take off++(a.eval y).cells.toList++arr.toList.drop (off+i)).toArray
        have hsize:arr'.size=arr.size:=by simp only[arr',kM,bc,bQ,n_,iS,hvl];omega
        refine ⟨.skip,w.setRow k arr',k,.cells arr' b.ty (0,0),?_,hφ,HR.setRow g1 hsize,?_,undef,.inr ⟨rfl,rfl⟩,.f (.raw _)⟩
        .have s1:=gA hs w;have hvs:(a.eval y).cells.size=i:=by simpa using hvl
         simp only[cX,hvl]at hst;unfold execOp;rw[ho];simp[Instr.storeAt,hz,Instr.sureAddr,storeVar,s1,hvs,hst,arr']
        .refine rx D.2 (by rw[D.1,nv (by omega),hsize];exact g3) λj q A=>?_
         rw[D.1,mJ (by omega)]at A;have ha':arr'[j]? =if j<off then arr.toList[j]? else if j<off+i then (a.eval y).cells.toList[j-off]? else arr.toList[j]? :=by
          have:=mJ (l:=arr.toList) (vs:=(a.eval y).cells.toList) (off:=off) (by have:=hvl;simp only[iS]at this ⊢;omega) j;unfold splice at this;rw[hvl]at this;simp only[arr',lH];exact this
         have old:b.c.toMx[j]? =Z q->q.isCell=J/\∃u,arr.toList[j]? =Z u/\cq φ (tot E φ h') w q u:=λA=>by
          have hj:j<l! b.c.toMx:=(bi.1 A).1;have N:j<l! arr.toList:=by simp;omega
          refine ⟨g2.2.1 q (aX A),arr.toList[j],aD N,g2.2.2 j q _ A ?_⟩;rw[cS,aC hj,aD N]
         rw[ha'];by_cases h1:j<off
         .rw[aC h1]at A ⊢;exact old A
         .rw[av h1]at A ⊢;by_cases h2:j<off+i
          .rw[aC (by omega)]at A;rw[aC h2];have L:j-off<(a.eval y).cells.toList.length:=by omega
           exact⟨hr.2.1 q (aX A),_,aD L,hr.2.2 _ q _ A (aD L)⟩
          .rw[av (by omega)]at A;rw[av h2];exact old A
      .cases hput
     .cases z
    .cases z
   .cases z
  .cases z
 .cases z
end
section
variable {P:Program} {o:Oper} {e:Dx} {h:mY} {nx:Nat} {R:Cv}
def ao8 (A:Addr):A.add 0=A:=by cases A;simp[Addr.add]
def arm {t:TypeId} {lo hi mx:M Operand} (ho:o.op= .slice t s lo hi mx) (hu:P.underlying t=Z (.slice z)) (hs:fI P z=Z i) (L:dx (.slc i s lo hi mx) e h nx=Z R):gh P o e.get h.get R.eff:=by
 simp only[dx]at L;split at L
 .rename_i v hx;split at L
  ·
   rename_i k k';split at L
   .rename_i hsl;rw[dt L];refine gh.reads λφ E h' w a _ hp _=>?_
    have D:=hp s _ (by rw[ho];simp[Op.operands]) hx;have hz:∃A n c,a.eval s= .slice A n c:=by
     generalize a.eval s=el at D;obtain⟨n,hn⟩:=jB.1 hsl;unfold AV.slen at hn;split at hn
     .cases D with
      |f D=>cases D with
       |nil|sl=>exact⟨_,_,_,rfl⟩
     .cases e9 D;exact⟨_,_,_,rfl⟩
     .cases D;exact⟨_,_,_,rfl⟩
     .cases D;exact⟨_,_,_,rfl⟩
     .cases D;exact⟨_,_,_,rfl⟩
     .cases hn
    obtain⟨A,n,c,hz⟩:=hz;have s1:=gA hs w;refine ⟨.slice A 0 0,?_,.emp⟩;unfold execOp;rw[ho];have z0:∀k,a.eval (.const (.int k 0))= .int k 0:=λ_=>rfl
    simp[lT,pY,run_underlying hu,hz,gX,iF,asIntOf,s1,z0]
   .cases L
  ·
   rename_i b;split at L
   .rename_i id sz' n k j hb;split at L
    .rename_i N;simp only[dg,ak,bR,cG]at N;obtain⟨⟨rfl,h0⟩,h1⟩:=N;split at L
     .rename_i blk hblk;split at L
      .rename_i hcl;simp only[ak]at hcl;obtain⟨hcells,hlen⟩:=hcl;have hlen:=aU hlen;rw[BC.len_toMx hcells]at hlen;cases L;intro φ E h' w a g1 g2 g3 hrep g5;have hp:WA φ E h' w a e o:=λs y hx hy=>uW hrep g3 hx hy
       have hb':h' id=Z blk:=by rw[g1 id (by simp[Cv.eff])];exact hblk
       have D:=hp s _ (by rw[ho];simp[Op.operands]) hx;have hbv:=e9 (hp b _ (by rw[ho];simp[Op.operands]) hb);have hnx:φ nx=U:=g5 nx (by simp[Cv.eff]);generalize hz:a.eval s=el at D;cases D with
       |@G _ _ _ c q hφ hn hcap hsh=>
        obtain⟨arr,a1,a2,a3⟩:=hrep.cs hb' hφ hcells;have s1:=gA hs w;have hne:nx≠id:=λe=>by rw[e,hφ]at hnx;cases hnx
        have hnw1:jS [(nx,⟨blk.ty,nV (blk.c.toMx.take (j.toNat*sz'))⟩)] nx=Z (⟨blk.ty,nV (blk.c.toMx.take (j.toNat*sz'))⟩:kc):=by simp[jS]
        have hnw2:jS [(nx,⟨blk.ty,nV (blk.c.toMx.take (j.toNat*sz'))⟩)] id=U:=by
         simp only[jS];rw[av];intro hb;exact hne (au hb)
        have a4:=a2.take (j.toNat*sz');obtain⟨φ',p1,p2,p3,p4⟩:=hrep.wren hb' hφ hnx (w':=w) ⟨rfl,rfl,rfl,rfl,a1,λ_ _=>rfl,λ_=>rfl⟩ (b':=⟨blk.ty,nV (blk.c.toMx.take (j.toNat*sz'))⟩) (by
         obtain⟨q1,q2⟩:=nE (blk.c.toMx.take (j.toNat*sz'));refine rx q2 (by rw[q1,bQ];omega) λsz s hx=>?_
         rw[q1]at hx;have hi:sz<l! ((arr.toList.take (l! blk.c.toMx)).take (j.toNat*sz')):=by rw[a4.1];exact (bi.1 hx).1
         refine ⟨a4.2.1 s (aX hx),_,?_,a4.2.2 sz s _ hx (aD hi)⟩;have hi':sz<arr.size:=by simp at hi;omega
         simp[hi']) _ hnw1 hnw2
        have hrun:(execOp a.eval o).run P w= .ok (.value (.slice (Z ⟨q,0,U⟩) j.toNat c)) w:=by
         unfold execOp;rw[ho];simp[lT,pY,run_underlying hu,hz,gX,iF,asIntOf,s1,hbv,h0,show j<=c by omega,kJ]
        unfold Oper.wp;rw[hrun];exact⟨_,φ',rfl,p2,p3,p4,.G p1 (by omega) hcap hsh⟩
      .cases L
     .cases L
    .cases L
   .rename_i cells n k j hb;split at L
    .rename_i N;simp only[dg,ak,bR]at N;obtain⟨⟨h0,h1⟩,h2⟩:=N;have h2:=aU h2;rw[dt L];refine gh.reads λφ E h' w a _ hp _=>?_
     have D:=hp s _ (by rw[ho];simp[Op.operands]) hx;have hbv:=e9 (hp b _ (by rw[ho];simp[Op.operands]) hb);generalize hz:a.eval s=el at D;have s1:=gA hs w;cases D with
     |f D=>
      cases D with
      |nil A c N=>
       have hj:j=0:=by omega
       subst hj;refine ⟨.slice A 0 c,?_,by simpa using cq.f (.nil A c N)⟩;unfold execOp;rw[ho];cases A<;>simp[lT,pY,run_underlying hu,hz,gX,iF,asIntOf,s1,hbv,ao8]
      |sl _ _ c q off us hn N hO hq hcl hu' D=>
       refine ⟨.slice (Z ⟨q,off,U⟩) j.toNat c,?_,.f (.sl _ _ _ _ _ us (by omega) N hO hq (λy hy=>hcl y (ij hy)) (λsz hi=>hu' sz (by rw[bQ]at hi;omega)) λsz y hy=>?_)⟩
       .unfold execOp;rw[ho];simp[lT,pY,run_underlying hu,hz,gX,iF,asIntOf,s1,hbv,h0,show j<=c by omega,kJ]
       .rw[cS]at hy;split at hy
        .exact D sz y hy
        .cases hy
    .cases L
   .cases L
  ·
   rename_i b;split at L
   .rename_i id sz' n k j hb;split at L
    .rename_i N;simp only[dg,fQ,ak,bR,cG]at N;obtain⟨⟨rfl,h0⟩,h1⟩:=N;rw[dt L];refine gh.reads λφ E h' w a _ hp _=>?_
     have D:=hp s _ (by rw[ho];simp[Op.operands]) hx;have hbv:=e9 (hp b _ (by rw[ho];simp[Op.operands]) hb);generalize hz:a.eval s=el at D;cases D with
     |@G _ _ _ c q hφ hn N hsh=>
      have s1:=gA hs w;refine ⟨.slice (Z ⟨q,0+j.toNat*sz',U⟩) (n-j.toNat) (c-j.toNat),?_,?_⟩
      .unfold execOp;rw[ho];simp[lT,pY,run_underlying hu,hz,gX,iF,asIntOf,s1,hbv,h0,show j<=n by omega,show ¬c=j.toNat by omega,kJ]
      .rw[bF];exact .sl hφ (by omega) (by omega)
    .cases L
   .rename_i cells n k j hb;split at L
    .rename_i N;simp only[dg,ak,bR]at N;obtain⟨⟨h0,h1⟩,h2⟩:=N;have h2:=aU h2;rw[dt L];refine gh.reads λφ E h' w a _ hp _=>?_
     have D:=hp s _ (by rw[ho];simp[Op.operands]) hx;have hbv:=e9 (hp b _ (by rw[ho];simp[Op.operands]) hb);generalize hz:a.eval s=el at D;have s1:=gA hs w;cases D with
     |f D=>
      cases D with
      |nil A c N=>
       have hj:j=0:=by omega
       subst hj;have hex:∃A',(execOp a.eval o).run P w= .ok (.value (.slice A' 0 c)) w:=by
        unfold execOp;rw[ho];cases A with
        |none=>exact⟨U,by simp[lT,pY,run_underlying hu,hz,gX,iF,asIntOf,s1,hbv]⟩
        |some A=>exact⟨Z A,by simp[lT,pY,run_underlying hu,hz,gX,iF,asIntOf,s1,hbv,ao8]⟩
       obtain⟨A',hex⟩:=hex;exact⟨.slice A' 0 c,hex,by simpa using cq.f (.nil A' c N)⟩
      |sl _ _ c q off us hn N hO hq hcl hu' D=>
       by_cases hcj:c=j.toNat
       .refine ⟨.slice (Z ⟨q,off,U⟩) 0 0,?_,?_⟩
        .unfold execOp;rw[ho];simp[lT,pY,run_underlying hu,hz,gX,iF,asIntOf,s1,hbv,h0,show j<=n by omega,hcj,show n-j.toNat=0 by omega,kJ]
        .rw[show n-j.toNat=0 by omega];simpa using cq.f (.nil (Z ⟨q,off,U⟩) 0 (by unfold maxLen;omega))
       .refine ⟨.slice (Z ⟨q,off+j.toNat*i,U⟩) (n-j.toNat) (c-j.toNat),?_,.f (.sl _ _ _ _ _ (λsz=>us (j.toNat*i+sz)) (by omega) (by omega) hO hq (λy hy=>hcl y (List.mem_of_mem_drop (ij hy))) (λsz hi=>?_) λsz y hy=>?_)⟩
        .unfold execOp;rw[ho];simp[lT,pY,run_underlying hu,hz,gX,iF,asIntOf,s1,hbv,h0,show j<=n by omega,hcj,kJ]
        .rw[qP];refine hu' _ ?_;rw[bQ,n_]at hi;omega
        .rw[cS]at hy;split at hy
         .rw[il]at hy;exact D _ y hy
         .cases hy
    .cases L
   .cases L
  ·
   rename_i b b' _;split at L
   .rename_i cells n k j k' j' hb hb';split at L
    .rename_i N;simp only[dg,ak,bR]at N;obtain⟨⟨⟨hjj,h0⟩,h1⟩,h2⟩:=N;subst hjj;have h2:=aU h2;rw[dt L];refine gh.reads λφ E h' w a _ hp _=>?_
     have D:=hp s _ (by rw[ho];simp[Op.operands]) hx;have hbv:=e9 (hp b _ (by rw[ho];simp[Op.operands]) hb);have hbv':=e9 (hp b' _ (by rw[ho];simp[Op.operands]) hb');generalize hz:a.eval s=el at D;have s1:=gA hs w;cases D with
     |f D=>
      cases D with
      |nil A c N=>
       have hj:j=0:=by omega
       subst hj;refine ⟨.slice A 0 0,?_,by simpa using cq.qd (mX.nil A 0 (by unfold maxLen;omega))⟩;unfold execOp;rw[ho];cases A<;>simp[lT,pY,run_underlying hu,hz,gX,iF,asIntOf,s1,hbv,hbv',ao8]
      |sl _ _ c q off us hn N hO hq hcl hu' D=>
       refine ⟨.slice (Z ⟨q,off,U⟩) j.toNat j.toNat,?_,.qd (.sl _ _ _ _ _ us (bV _) (by omega) hO hq (λy hy=>hcl y (ij hy)) (λsz hi=>hu' sz (by rw[bQ]at hi;omega)) λsz y hy=>?_)⟩
       .unfold execOp;rw[ho];simp[lT,pY,run_underlying hu,hz,gX,iF,asIntOf,s1,hbv,hbv',h0,show j<=c by omega,kJ];intro hlt;omega
       .rw[cS]at hy;split at hy
        .exact D sz y hy
        .cases hy
    .cases L
   .cases L
  .cases L
 .cases L
def ae8 {src:Y AV} {rd:ι} (hrow:y.row? h i=Z (src,j,rd)) {w:World} (hrd:∀sz∈rd,A sz=h.get sz) (hrep:r_ V O A w) (N:cq V (tot O V A) w y v):
 ∃h' c vs,v= .slice h' j c/\Cs V (tot O V A) w src vs/\l! vs=j*i/\(h'=U->vs=[])/\(∀ad,h'=Z ad->∀(m:Nat) u,vs[m]? =Z u->w.cell? (ad.add m)=Z u):=by
 have emp:∀h' c,v= .slice h' 0 c->src=[]->j=0->∃h' c vs,v= .slice h' j c/\Cs V (tot O V A) w src vs/\l! vs=j*i/\(h'=U->vs=[])/\(∀ad,h'=Z ad->∀(m:Nat) u,vs[m]? =Z u->w.cell? (ad.add m)=Z u):=by
  rintro h' c rfl rfl rfl;exact⟨h',c,[],rfl,⟨rfl,(by intro y z;cases z),(by intro m y v z;simp at z)⟩,by simp,λ_=>rfl,by intro ad _ m u D;simp at D⟩
 have own:∀(id off n c k:Nat) (b:kc),V id=Z k->A id=Z b->b.c.isCells=J->off+n*i<=b.c.len->v= .slice (Z ⟨k,off,U⟩) n c->src=(b.c.toMx.drop off).take (n*i)->j=n->
  ∃h' c vs,v= .slice h' j c/\Cs V (tot O V A) w src vs/\l! vs=j*i/\(h'=U->vs=[])/\(∀ad,h'=Z ad->∀(m:Nat) u,vs[m]? =Z u->w.cell? (ad.add m)=Z u):=by
  rintro id off n c k b hφ hb L hle rfl rfl rfl;obtain⟨arr,g1,g2,g3⟩:=hrep.cs hb hφ L;rw[BC.len_toMx L]at hle;refine ⟨_,c,((arr.toList.take (l! b.c.toMx)).drop off).take (j*i),rfl,(g2.drop off).take _,?_,nofun,?_⟩
  .simp;omega
  .intro ad had m u D;cases had;rw[kJ];rw[cS]at D;split at D
   .rw[il,cS]at D;split at D
    .rw[bE]at D;simp[Qm,g1,D]
    .cases D
   .cases D
 unfold AV.row? at hrow;split at hrow
 .rename_i cells n;split at hrow
  .rename_i hle;have hle:=aU hle;simp only[af,aG]at hrow;obtain⟨rfl,rfl,rfl⟩:=hrow;cases N with
   |f N=>
    cases N with
    |nil a c L=>exact emp a c rfl (by simp) rfl
    |sl _ _ c b off us hn L hO hb hcl D N=>
     refine ⟨_,c,(iR (n*i)).map us,rfl,⟨by simp;omega,λy z=>?_,λm y u z hu'=>?_⟩,by simp,nofun,?_⟩
     .obtain⟨x,hy,rfl⟩:=ch.1 z;exact hcl x (ij hy)
     .obtain⟨rfl,hj⟩:=zN us _ _ _ hu';rw[aT,cS,aC hj]at z;cases hq:cells[m]? with
      |none=>rw[hq]at z;cases z
      |some q=>rw[hq]at z;simp at z;subst z;exact .f (N m q hq)
     .intro ad had m u hu';cases had;obtain⟨rfl,hj⟩:=zN us _ _ _ hu';rw[kJ];exact D m (by omega)
  .cases hrow
 .simp only[af,aG]at hrow;obtain⟨rfl,rfl,rfl⟩:=hrow;exact emp U 0 (e9 N) rfl rfl
 .simp only[af,aG]at hrow;obtain⟨rfl,rfl,rfl⟩:=hrow;cases N with
  |@emp a=>exact emp a 0 rfl rfl rfl
 .rename_i id sz' n;split at hrow
  .rename_i hsz;split at hrow
   .rename_i b hb;split at hrow
    .rename_i L;simp only[ak]at L;simp only[af,aG]at hrow;obtain⟨rfl,rfl,rfl⟩:=hrow;cases N with
     |@G _ _ _ c k hφ hn hc' hsh=>
      exact own id 0 n c k b hφ (by rw[hrd id (by simp)];exact hb) L.1 (by rw[bF];exact aU L.2) rfl (by simp) rfl
    .cases hrow
   .cases hrow
  .cases hrow
 .rename_i id off n;split at hrow
  .rename_i b hb;split at hrow
   .rename_i L;simp only[ak]at L;simp only[af,aG]at hrow;obtain⟨rfl,rfl,rfl⟩:=hrow;cases N with
    |@sl _ _ _ c k hφ hn hc'=>exact own id off n c k b hφ (by rw[hrd id (by simp)];exact hb) L.1 (aU L.2) rfl rfl rfl
   .cases hrow
  .cases hrow
 .cases hrow
def aij {src:Y AV} {rd:ι} (hrow:y.row? h i=Z (src,j,rd)) {w:World} (hrd:∀sz∈rd,A sz=h.get sz) (hrep:r_ V O A w) (hr:cq V (tot O V A) w y v) {N:TypeId} (D:P.underlying z=Z (.slice N)):
 ∃vs,Src P i z v j vs w/\Cs V (tot O V A) w src vs:=by
 obtain⟨h',c,vs,rfl,h1,L,h3,h4⟩:=ae8 hrow hrd hrep hr;refine ⟨vs,?_,h1⟩;cases h' with
 |none=>
  have:=h3 rfl;subst this;have hm:j*i=0:=by simpa using L.symm
  refine ⟨.inl ⟨N,D⟩,λ_=>rfl,run_firstCells_none w i j j c,run_firstCells_none w.drew i j j c,by simp[hm],λ_ h=>by cases h⟩
 |some ad=>exact Src.ofSlice w D ad j c vs L (h4 ad rfl) h1.one
def af5 :∀{l:ι},mem i l=J↔i∈l
 |[]=>by simp[mem]
 |y::r=>by
  simp only[mem,jJ,af5 (l:=r),aZ];constructor
  .rintro (h|h)
   .exact .inl (au h).symm
   .exact .inr h
  .rintro (h|h)
   .subst h;exact .inl (eW i)
   .exact .inr h
def aok {t el el':TypeId} {x:Operand} (ho:o.op= .call {callee:=.builtin .copy,args:=#[s,x],argTypes:=#[t,z]}) (hu:P.underlying t=Z (.slice el)) (hu':P.underlying z=Z (.slice el')) (hs:fI P el=Z i) (D:dx (.copy i s x) e h nx=Z R):gh P o e.get h.get R.eff:=by
 simp only[dx]at D;split at D
 .rename_i id sz' n y hd hx;split at D
  .rename_i blk src m rd hblk hrow;split at D
   .rename_i hc;simp only[ak,cG,cV]at hc;obtain⟨⟨rfl,hmem⟩,hlen⟩:=hc;split at D
    .rename_i c' hput;cases D;unfold BC.put at hput;split at hput
     .rename_i hcc;simp only[ak]at hcc;obtain⟨⟨c1,c2⟩,c3⟩:=hcc;have c2:=aU c2;rw[bF]at c2;have N:c'.toMx=splice blk.c.toMx 0 (src.take (jH m n*sz'))/\c'.isCells=J:=by
       split at hput
       .rename_i l ys hbl hys;cases hput;refine ⟨?_,rfl⟩;have hv:=nI hys;rw[hv,hbl];simp only[BC.toMx];unfold splice;simp[fV,uc]
       .cases hput;exact⟨rfl,rfl⟩
      refine gh.writes hblk λφ E h' w a hrd hb' hp hrep=>?_
      have hpd:=hp s _ (by rw[ho];simp[Op.operands,dI]) hd;have hpx:=hp x _ (by rw[ho];simp[Op.operands,dI]) hx;obtain⟨A,c,vs,hv,q1,q2,q3,q4⟩:=ae8 hrow (λsz hi=>hrd sz (by simp[hi])) hrep hpx;generalize hz:a.eval s=pv at hpd;cases hpd with
      |@G _ _ _ cap k hφ hn hcap hsh=>
       obtain⟨arr,g1,g2,g3⟩:=hrep.cs hb' hφ c1;rw[BC.len_toMx c1]at c2;have hmn:jH m n<=m:=Nat.min_le_left _ _;have hle:jH m n*sz'<=m*sz':=cQ _ hmn
       let u:=vs.take (jH m n*sz')
       have hnl:l! u=jH m n*sz':=by simp only[u,bQ,q2];omega
       have hsl:l! (src.take (jH m n*sz'))=jH m n*sz':=by rw[bQ,<-q1.1,q2];omega
       have csn:=q1.take (jH m n*sz');rw[hsl]at c2;have hst:=run_storeCells_at (P:=P) k 0 blk.ty u 0 arr w g1 (by rw[hnl];omega) csn.one
       let arr':Array Value:=(arr.toList.take 0++u++arr.toList.drop (0+jH m n*sz')).toArray
       have hsize:arr'.size=arr.size:=by simp only[arr',kM,bc,bQ,n_,iS,hnl];omega
       have hfc:(Af sz' (jH m n) (.slice A m c)).run P w= .ok u.toArray w:=by
        cases A with
        |none=>
         have:u=[]:=by simp[u,q3 rfl]
         rw[this];exact run_firstCells_none w sz' _ _ _
        |some ad=>exact run_firstCells_some w sz' _ ad m c u hnl (λj z hu=>q4 ad rfl j z (by
          simp only[u,cS]at hu;split at hu
          .exact hu
          .cases hu))
       refine ⟨.value (.int .i64 (jH m n)),w.setRow k arr',k,.cells arr' blk.ty (0,0),?_,hφ,HR.setRow g1 hsize,?_,_,.inl rfl,.f (.raw _)⟩
       .have s1:=gA hs w;simp only[cX,hnl]at hst;unfold execOp;rw[ho];simp[resolve,invoke,builtin,Builtin.copy_,run_underlying hu,hz,hv,Builtin.lenOf,s1,hfc,hst,goInt,arr']
       .refine rx N.2 (by rw[N.1,nv (by rw[hsl];omega),hsize];exact g3) λj q L=>?_
        rw[N.1,mJ (by rw[hsl];omega)]at L;have ha':arr'[j]? =if j<0 then arr.toList[j]? else if j<0+l! u then u[j-0]? else arr.toList[j]? :=by
         have:=mJ (l:=arr.toList) (vs:=u) (off:=0) (by simp only[iS];omega) j;unfold splice at this;simp only[arr',lH];rw[<- this,hnl]
        rw[ha',av (by omega)];rw[av (by omega),hsl]at L;rw[hnl];by_cases h2:j<0+jH m n*sz'
        .rw[aC h2]at L ⊢;have hj3:j-0<l! u:=by rw[hnl];omega
         exact⟨csn.2.1 q (aX L),_,aD hj3,csn.2.2 _ q _ L (aD hj3)⟩
        .rw[av h2]at L ⊢;have hj:j<l! blk.c.toMx:=(bi.1 L).1;have hj2:j<l! arr.toList:=by simp;omega
         refine ⟨g2.2.1 q (aX L),arr.toList[j],aD hj2,g2.2.2 j q _ L ?_⟩;rw[cS,aC hj,aD hj2]
     .cases hput
    .cases D
   .cases D
  .cases D
 .cases D
def as5 {t:TypeId} {el:ξ} (ho:o.op= .call {callee:=.builtin .clear,args:=#[s],argTypes:=#[t]}) (hu:P.underlying t=Z (.slice z)) (hz:uy P z=Z el) (hc:nS el=J) (hl:l! el=i) (hsz:i≠0) (L:dx (.clr i el s) e h nx=Z R):gh P o e.get h.get R.eff:=by
 simp only[dx]at L;split at L
 .rename_i id off n hx;split at L
  .rename_i blk hblk;split at L
   .rename_i hn;have hn:=aU hn;obtain⟨m,rfl⟩:∃m,n=m+1:=⟨n-1,by omega⟩
    split at L
    .rename_i c' hput;cases L;unfold BC.put at hput;split at hput
     .rename_i hcc;simp only[ak]at hcc;obtain⟨⟨c1,c2⟩,c3⟩:=hcc;have c2:=aU c2;have hsrc:l! ((repl el (m+1)).map AV.f)=(m+1)*i:=by rw[bH,oc,hl]
      rw[hsrc]at c2;have hc':c'.toMx=splice blk.c.toMx off ((repl el (m+1)).map AV.f)/\c'.isCells=J:=by
       split at hput
       .rename_i l ys hbl hys;cases hput;refine ⟨?_,rfl⟩;have hv:=nI hys;rw[hv,hbl];simp only[BC.toMx];unfold splice;simp[fV,uc]
       .cases hput;exact⟨rfl,rfl⟩
      refine gh.writes hblk λφ E h' w a hrd hb' hp hrep=>?_
      have hpx:=hp s _ (by rw[ho];simp[Op.operands,dI]) hx;generalize hzv:a.eval s=pv at hpx;cases hpx with
      |@sl _ _ _ cap k hφ hn2 hcap=>
       obtain⟨arr,g1,g2,g3⟩:=hrep.cs hb' hφ c1;rw[BC.len_toMx c1]at c2;obtain⟨v,z1,z2,_⟩:=ve hz w;have csn:=Cs.repl (φ:=φ) (O:=tot E φ h') (w:=w) z2 (m+1) i hl hsz hc
       let N:=(mH v.cells (m+1)).toList
       have hvs:v.cells.size=i:=by rw[<- hl,<-z2];simp
       have hns:N=((AE ((m+1)*i)).map (λsz=>v.cells[sz%v.cells.size]!)).toList:=by simp only[N,mH,hvs]
       have hnl:l! N=(m+1)*i:=by rw[hns];simp
       rw[<- hns]at csn;have hst:=run_storeCells_at (P:=P) k off blk.ty N 0 arr w g1 (by rw[hnl];omega) csn.one
       let arr':Array Value:=(arr.toList.take (off+0)++N++arr.toList.drop (off+0+l! N)).toArray
       have hsize:arr'.size=arr.size:=by simp only[arr',kM,bc,bQ,n_,iS,hnl];omega
       refine ⟨.value (.tuple #[]),w.setRow k arr',k,.cells arr' blk.ty (0,0),?_,hφ,HR.setRow g1 hsize,?_,_,.inl rfl,.qg (vs:=[]) rfl λj y v hy=>by simp at hy⟩
       .unfold execOp;rw[ho];have hst2:(storeCells ⟨k,off,U⟩ (mH v.cells (m+1)).toList).run P w= .ok () (w.setRow k arr'):=hst;simp[resolve,invoke,builtin,Builtin.clear_,run_underlying hu,hzv,z1,hst2]
       .refine rx hc'.2 (by rw[hc'.1,nv (by rw[hsrc];omega),hsize];exact g3) λj q A=>?_
        rw[hc'.1,mJ (by rw[hsrc];omega)]at A;have ha':arr'[j]? =if j<off then arr.toList[j]? else if j<off+l! N then N[j-off]? else arr.toList[j]? :=by
         have:=mJ (l:=arr.toList) (vs:=N) (off:=off) (by simp only[iS];omega) j;unfold splice at this;simp only[arr',lH,cX];rw[<- this]
        rw[ha'];rw[hsrc]at A;rw[hnl];by_cases h1:j<off
        .rw[aC h1]at A ⊢;have hj:j<l! blk.c.toMx:=(bi.1 A).1;have D:j<l! arr.toList:=by simp;omega
         refine ⟨g2.2.1 q (aX A),arr.toList[j],aD D,g2.2.2 j q _ A ?_⟩;rw[cS,aC hj,aD D]
        rw[av h1]at A ⊢;by_cases h2:j<off+(m+1)*i
        .rw[aC h2]at A ⊢;have hj3:j-off<l! N:=by rw[hnl];omega
         exact⟨csn.2.1 q (aX A),_,aD hj3,csn.2.2 _ q _ A (aD hj3)⟩
        .rw[av h2]at A ⊢;have hj:j<l! blk.c.toMx:=(bi.1 A).1;have D:j<l! arr.toList:=by simp;omega
         refine ⟨g2.2.1 q (aX A),arr.toList[j],aD D,g2.2.2 j q _ A ?_⟩;rw[cS,aC hj,aD D]
     .cases hput
    .cases L
   .cases L
  .cases L
 .cases L
end
def O3 (w:World) (ob:Obj):V_ w (w.drew.alloc ob) ob:=V_.drawn (w.drawn+1) (sF {w with drawn:=w.drawn+1} ob)
section
variable {P:Program} {o:Oper} {e:Dx} {h:mY} {nx:Nat} {R:Cv}
def Kw (A:v.cells.toList=N) (D:l! N=i) (n:Nat):(mH v.cells n).size=n*i:=by
 have:v.cells.size=i:=by rw[<- D,<-A];simp
 simp[mH,this]
def Nk {t D:TypeId} {x:Operand} {m:TypeInfo} {u:ξ} (ho:o.op= .call {callee:=.builtin .append,args:=#[s,x],argTypes:=#[t,z]}) (hu:P.underlying t=Z (.slice D)) (i1:P.info? D=Z m) (hz:uy P D=Z u) (hzl:l! u=m.size)
 {w:World} (hrep:r_ V O A w) (hnx:V nx=U) {h':M Addr} {n cap:Nat} {olds:ξ} {oldA src:Y AV} (hsl:Q.eval s= .slice h' n cap)
 (hold:(Af m.size n (.slice h' n cap)).run P w.drew= .ok olds.toArray w.drew) (csold:Cs V (tot O V A) w oldA olds) (hol:l! olds=n*m.size) (hsrc:Src P m.size z (Q.eval x) i N w) (hcs:Cs V (tot O V A) w src N)
 (hg:cap<n+i) (r1:n+i<=1099511627776) (r2:(n+i)*m.bytes<=1099511627776) (del:ι) (hdel:∀j∈del,j≠nx):
 o.wp P Q w (λa' w'=>∃v φ',a'=Q.put o.dst v/\jZ V φ' A (e_ A (nx::del) (jS [(nx,⟨D,nV (oldA++src)⟩)])) w w'/\(∀m k,φ' m=Z k->V m=Z k\/m∈[nx])/\
  r_ φ' O (e_ A (nx::del) (jS [(nx,⟨D,nV (oldA++src)⟩)])) w'/\cq φ' (tot O φ' (e_ A (nx::del) (jS [(nx,⟨D,nV (oldA++src)⟩)]))) w' (.G nx m.size (n+i)) v) (λ_ _ _=>False):=by
 obtain⟨vs,z1,z2,i',L,z3⟩:=ve hz w;rw[i1]at L;cases L;have hfb:=growslice_fits (need:=n+i) (old:=cap) (bytes:=m.bytes) hg (by omega);have hrun:=run_append_grow_src w t z o.type D m vs hu i1 z3 h' n cap olds hold (Q.eval x) i N hsrc hg (by omega) hfb;have hgc:=grownCap_ge w (n+i) cap D;have hgm:=grownCap_le_maxLen w (n+i) cap D (by unfold maxLen;omega);generalize grownCap w (n+i) cap D=Gc at hrun hgc hgm;have cs:=csold.append hcs;have hnl:=hsrc.newsLen;obtain⟨φ',p1,p2,p3,p4⟩:=hrep.wnew hnx (O3 w _) (b:=⟨D,nV (oldA++src)⟩) (ob:=.cells ((olds++N).toArray++mH vs.cells (Gc-(n+i))) D (0,0)) (by
  obtain⟨q1,q2⟩:=nE (oldA++src);refine rx q2 (by rw[q1,<-cs.1];simp) λj q hq=>?_
  rw[q1]at hq;have hj:j<l! (olds++N):=by rw[cs.1];exact (bi.1 hq).1
  refine ⟨cs.2.1 q (aX hq),_,?_,cs.2.2 j q _ hq (aD hj)⟩;rw[Array.getElem?_append_left (by simpa using hj),lH,aD hj]) del (jS [(nx,⟨D,nV (oldA++src)⟩)]) (by simp[jS]) (λj hj hne=>by
   simp only[jS];rw[av];intro hb;exact hne (au hb).symm)
 have hexec:(execOp Q.eval o).run P w= .ok (.value (.slice (Z ⟨w.heap.size,0,U⟩) (n+i) Gc)) (w.drew.alloc (.cells ((olds++N).toArray++mH vs.cells (Gc-(n+i))) D)):=by
  unfold execOp;rw[ho];simp only[resolve,invoke,builtin,ec,pU,cM,List.map_toArray,bZ,wJ,hsl,hrun]
 unfold Oper.wp;rw[hexec];refine ⟨_,φ',rfl,p2,p3,p4,.G p1 hgc hgm ⟨D,?_⟩⟩;have:=(O3 w (.cells ((olds++N).toArray++mH vs.cells (Gc-(n+i))) D (0,0))).at_;unfold sZ;rw[this];have hzs:=Kw z2 hzl (Gc-(n+i));have e1:(n+i)*m.size+(Gc-(n+i))*m.size=Gc*m.size:=by rw[<- Qp];congr 1;omega
 simp only[Array.size_append,kM,bc,hol,hnl,hzs];congr 2;rw[<- e1,Qp]
def as8 {t el el':TypeId} {x:Operand} {u:ξ} (ho:o.op= .call {callee:=.builtin .append,args:=#[s,x],argTypes:=#[t,z]}) (hu:P.underlying t=Z (.slice el)) (hu':P.underlying z=Z (.slice el')) (hs:fI P el=Z i) (hb:HI P el=Z j) (hz:uy P el=Z u) (hzl:l! u=i) (hsz:i≠0)
 (L:dx (.app el i j s x) e h nx=Z R):gh P o e.get h.get R.eff:=by
 obtain⟨sz,i1,i2⟩:=Qa hb;have i3:sz.size=i:=by unfold fI at hs;rw[i1]at hs;simpa using hs
 subst i2 i3;simp only[dx]at L;split at L
 .rename_i bv y hsv D;split at L
  .rename_i src m rd hrow;have common:∀{φ:PM} {E:Nat->Prop} {h':HF} {w:World} {a:Act},(∀sz∈rd,h' sz=h.get sz)->WA φ E h' w a e o->r_ φ E h' w->∃vs,Src P sz.size z (a.eval x) m vs w/\Cs φ (tot E φ h') w src vs:=
    λhrd hp hrep=>aij hrow hrd hrep (hp x _ (by rw[ho];simp[Op.operands,dI]) D) hu'
   have exec:∀{w w':World} {a:Act} {v:Value},(H3 #[t,z] o.type #[a.eval s,a.eval x]).run P w= .ok v w'->(execOp a.eval o).run P w= .ok (.value v) w':=by
    intro w w' a v hrun;unfold execOp;rw[ho];simp[resolve,invoke,builtin,hrun]
   split at L
   .rename_i id sz' n;split at L
    .rename_i blk hblk;split at L
     .rename_i hc;simp only[ak,cG,cV]at hc;obtain⟨⟨⟨⟨⟨rfl,hmem⟩,hcells⟩,hlen⟩,hty⟩,hroom⟩:=hc;have hlen:=aU hlen;rw[BC.len_toMx hcells]at hlen;obtain⟨r1,r2⟩:=ES hroom;cases L;subst hty;intro φ E h' w a h1 h2 h3 hrep h5;have hp:WA φ E h' w a e o:=λx y D hy=>uW hrep h3 D hy
      have hb':h' id=Z blk:=by rw[h1 id (by simp[Cv.eff])];exact hblk
      obtain⟨vs,hsrc,hcs⟩:=common (λsz hi=>h1 sz (by simp[Cv.eff,hi])) hp hrep;have hpd:=hp s _ (by rw[ho];simp[Op.operands,dI]) hsv;have hnx:φ nx=U:=h5 nx (by simp[Cv.eff]);have hwv:=hp s _ (by rw[ho];simp[Op.operands,dI]) hsv;generalize hzv:a.eval s=pv at hpd;cases hpd with
      |@G _ _ _ cap k hφ hn hcap hsh=>
       obtain⟨arr,g1,g2,g3⟩:=hrep.cs hb' hφ hcells;have hne:nx≠id:=λe=>by rw[e,hφ]at hnx;cases hnx
       have harr:arr.size=cap*sz.size:=by
        obtain⟨ty,hty⟩:=hsh;unfold sZ at hty;rw[g1]at hty;simp at hty;exact hty.2
       have hnl:=hsrc.newsLen;have hnn:n*sz.size<=arr.size:=by omega
       have csnew:Cs φ (tot E φ h') w (blk.c.toMx.take (n*sz.size)++src) (arr.toList.take (n*sz.size)++vs):=by
        have:=(g2.take (n*sz.size)).append hcs
        rwa [List.take_take,t7 hlen]at this
       have hnw1:jS [(nx,⟨blk.ty,nV (blk.c.toMx.take (n*sz.size)++src)⟩)] nx=Z ⟨blk.ty,nV (blk.c.toMx.take (n*sz.size)++src)⟩:=by simp[jS]
       have hnw2:jS [(nx,⟨blk.ty,nV (blk.c.toMx.take (n*sz.size)++src)⟩)] id=U:=by
        simp only[jS];rw[av];intro hb;exact hne (au hb)
       by_cases hfit:n+m<=cap
       ·
        have hend:n*sz.size+l! vs<=arr.size:=by
         rw[hnl,harr,<-Qp];exact cQ _ hfit
        have hst:=run_storeCells_at (P:=P) k (n*sz.size) blk.ty vs 0 arr w g1 (by omega) hsrc.one;simp only[cX]at hst
        let arr':Array Value:=(arr.toList.take (n*sz.size)++vs++arr.toList.drop (n*sz.size+l! vs)).toArray
        have hsize:arr'.size=arr.size:=by simp only[arr',kM,bc,bQ,n_,iS];omega
        have hrun:(H3 #[t,z] o.type #[a.eval s,a.eval x]).run P w= .ok (.slice (Z ⟨k,0,U⟩) (n+m) cap) (w.setRow k arr'):=by
         rw[hzv];rcases hsrc.kind with ⟨e',hk⟩|hk<;>simp[H3,run_underlying hu,run_underlying hk,sizeOf,typeInfo,i1,hsrc.len,hfit,hsrc.cells,kJ,hst,arr']
        obtain⟨φ',p1,p2,p3,p4⟩:=hrep.wren hb' hφ hnx (HR.setRow g1 hsize) (b':=⟨blk.ty,nV (blk.c.toMx.take (n*sz.size)++src)⟩) (by
         obtain⟨q1,q2⟩:=nE (blk.c.toMx.take (n*sz.size)++src);refine rx q2 (by rw[q1,<-csnew.1,hsize];simp;omega) λbytes q hq=>?_
         rw[q1]at hq;have hj:bytes<l! (arr.toList.take (n*sz.size)++vs):=by rw[csnew.1];exact (bi.1 hq).1
         refine ⟨csnew.2.1 q (aX hq),_,?_,csnew.2.2 bytes q _ hq (aD hj)⟩;simp only[arr',lH];rw[bj hj,aD hj]) _ hnw1 hnw2
        unfold Oper.wp;rw[exec hrun];refine ⟨_,φ',rfl,p2,p3,p4,.G p1 hfit hcap ⟨blk.ty,?_⟩⟩;unfold sZ;rw[setRow_heap w k arr arr' blk.ty (0,0) g1];simp[hsize,harr]
       ·
        have hold:(Af sz.size n (.slice (Z ⟨k,0,U⟩) n cap)).run P w.drew= .ok (arr.toList.take (n*sz.size)).toArray w.drew:=by
         refine run_firstCells_some w.drew sz.size n _ n cap _ (by simp;omega) λbytes v N=>?_
         rw[cS]at N;split at N
         .rw[bE]at N;rw[kJ,bF];have hcl:w.cell? ⟨k,bytes,U⟩=Z v:=by simp[Qm,g1,N]
          simpa using hcl
         .cases N
        exact Nk ho hu i1 hz hzl hrep hnx hzv hold (by
         have:=g2.take (n*sz.size)
         rwa [List.take_take,t7 hlen]at this) (by simp;omega) hsrc hcs (by omega) r1 r2 [id] (λbytes hj=>by simp at hj;subst hj;exact λe=>hne e.symm)
     .cases L
    .cases L
   .rename_i cells n;split at L
    .rename_i hc;simp only[ak]at hc;obtain⟨hlen,hroom⟩:=hc;have hlen:=aU hlen;obtain⟨r1,r2⟩:=ES hroom;split at L
     .rename_i hm;have hm:m=0:=by simpa using hm
      subst hm;cases L;refine gh.reads λφ E h' w a hrd hp hrep=>?_
      obtain⟨vs,hsrc,hcs⟩:=common hrd hp hrep;have hr:=hp s _ (by rw[ho];simp[Op.operands,dI]) hsv;generalize hz:a.eval s=q at hr;cases hr with
      |@qd _ _ A hr=>
       refine ⟨.slice A n n,exec ?_,.f hr⟩;rw[hz];have hvs:vs=[]:=by have:=hsrc.newsLen;simpa using this
       have hc0:=hsrc.cells;rw[hvs]at hc0;rcases hsrc.kind with ⟨e',hk⟩|hk<;>cases A<;>simp[H3,run_underlying hu,run_underlying hk,sizeOf,typeInfo,i1,hsrc.len,hc0,storeCells]
     .rename_i hm;have hm:m≠0:=by simpa using hm
      cases L;intro φ E h' w a h1 h2 h3 hrep h5;have hp:WA φ E h' w a e o:=λx y D hy=>uW hrep h3 D hy
      obtain⟨vs,hsrc,hcs⟩:=common (λsz hi=>h1 sz hi) hp hrep;have hr:=hp s _ (by rw[ho];simp[Op.operands,dI]) hsv;generalize hz':a.eval s=q at hr;cases hr with
      |@qd _ _ A hr=>
       have key:∃olds:ξ,(Af sz.size n (.slice A n n)).run P w.drew= .ok olds.toArray w.drew/\Cs φ (tot E φ h') w ((cells.take (n*sz.size)).map .f) olds/\l! olds=n*sz.size:=by
        cases hr with
        |nil a c _=>
         refine ⟨[],?_,⟨by simp,(by intro x D;simp at D),(by intro bytes x v D;simp at D)⟩,by simp⟩;cases A with
         |none=>exact run_firstCells_none w.drew sz.size 0 0 0
         |some ad=>exact run_firstCells_some w.drew sz.size 0 ad 0 0 [] (by simp) (by intro bytes v N;simp at N)
        |sl _ _ c b off us hn hc hO hb hcl hu2 hrr=>
         refine ⟨(iR (n*sz.size)).map us,?_,⟨by simp;omega,?_,?_⟩,by simp⟩
         .refine run_firstCells_some w.drew sz.size n _ n n _ (by simp) λbytes v N=>?_
          rw[aT]at N;rcases bx bytes (n*sz.size) with hj|hj
          .rw[ri hj]at N;simp only[bm,af]at N;subst N;rw[kJ];exact hu2 bytes (by omega)
          .rw[bJ (by simpa using hj)]at N;cases N
         .intro x D;obtain⟨y,hy,rfl⟩:=ch.1 D;exact hcl y (ij hy)
         .intro bytes x v D N;rw[aT,cS]at D;split at D
          .rename_i hj;rw[aT,ri hj]at N;simp only[bm,af]at N;subst N;cases hcj:cells[bytes]? with
           |none=>rw[hcj]at D;cases D
           |some y=>
            rw[hcj]at D;simp only[bm,af]at D;subst D;exact .f (hrr bytes y hcj)
          .cases D
       obtain⟨olds,k1,k2,k3⟩:=key;have:=Nk (nx:=nx) ho hu i1 hz hzl hrep (h5 nx (by simp[Cv.eff])) hz' k1 k2 k3 hsrc hcs (by omega) r1 r2 [] (by simp);simpa[Cv.eff] using this
    .cases L
   .split at L
    .rename_i hc;simp only[ak]at hc;obtain⟨hb0,hroom⟩:=hc;obtain⟨r1,r2⟩:=ES hroom;have hbase:∀{φ:PM} {O:Nat->Prop} {w:World} {v:Value},cq φ O w bv v->∃A,v= .slice A 0 0:=by
      intro φ O w v hr;unfold D2 at hb0;split at hb0
      .cases hr;exact⟨_,rfl⟩
      .rename_i q;cases e9 hr;unfold uR at hb0;split at hb0
       .exact⟨_,rfl⟩
       .cases hb0
      .cases hb0
     split at L
     .rename_i hm;have hm:m=0:=by simpa using hm
      subst hm;cases L;refine gh.reads λφ E h' w a hrd hp hrep=>?_
      obtain⟨vs,hsrc,hcs⟩:=common hrd hp hrep;have hr:=hp s _ (by rw[ho];simp[Op.operands,dI]) hsv;obtain⟨A,hA⟩:=hbase hr;refine ⟨a.eval s,exec ?_,hr⟩;rw[hA];have hvs:vs=[]:=by have:=hsrc.newsLen;simpa using this
      have hc0:=hsrc.cells;rw[hvs]at hc0;rcases hsrc.kind with ⟨e',hk⟩|hk<;>cases A<;>simp[H3,run_underlying hu,run_underlying hk,sizeOf,typeInfo,i1,hsrc.len,hc0,storeCells]
     .rename_i hm;have hm:m≠0:=by simpa using hm
      cases L;intro φ E h' w a h1 h2 h3 hrep h5;have hp:WA φ E h' w a e o:=λx y D hy=>uW hrep h3 D hy
      obtain⟨vs,hsrc,hcs⟩:=common (λsz hi=>h1 sz hi) hp hrep;obtain⟨A,hA⟩:=hbase (hp s _ (by rw[ho];simp[Op.operands,dI]) hsv);have hold:(Af sz.size 0 (.slice A 0 0)).run P w.drew= .ok ([]:ξ).toArray w.drew:=by
       cases A with
       |none=>exact run_firstCells_none w.drew sz.size 0 0 0
       |some ad=>exact run_firstCells_some w.drew sz.size 0 ad 0 0 [] (by simp) (by intro bytes v N;simp at N)
      have:=Nk (nx:=nx) (n:=0) (cap:=0) (olds:=[]) (oldA:=[]) ho hu i1 hz hzl hrep (h5 nx (by simp[Cv.eff])) hA hold ⟨rfl,(by intro x D;cases D),(by intro bytes x v D;simp at D)⟩ (by simp) hsrc hcs (by omega) (by omega) (by simpa using r2) [] (by simp);simpa[Cv.eff] using this
    .cases L
  .cases L
 .cases L
end
section
variable {P:Program} {o:Oper} {e:Dx} {h:mY} {nx:Nat} {R:Cv}
def aru {t:TypeId} (D:o.op= .makeMap t U) (z:dx .mkm e h nx=Z R):gh P o e.get h.get R.eff:=by
 simp only[dx,af]at z;subst z;refine gh.makes λφ E h' w a _ _ _=>?_
 refine ⟨.map (Z w.heap.size),{w with heap:=w.heap.push (.map #[] 0)},.map #[] 0,?_,sF w _,⟨#[],0,rfl,by unfold Qg;rw[aC rfl];rfl,by intro j x A;simp at A⟩,λφ' O hφ=>.mp hφ⟩;unfold execOp;rw[D];simp[Instr.makeMap,newObj,hZ]
def arn {t:TypeId} (A:o.op= .range t s) (L:P.underlying t=Z .string) (z:dx (.rng s) e h nx=Z R):gh P o e.get h.get R.eff:=by
 simp only[dx]at z;split at z
 .rename_i x D;cases z;refine gh.makes λφ E h' w a _ hp _=>?_
  have N:=e9 (hp s _ (by rw[A];simp[Op.operands]) D);refine ⟨.pointer (Z ⟨w.heap.size,0,U⟩),{w with heap:=w.heap.push (.stringIter x 0)},.stringIter x 0,?_,sF w _,rfl,λφ' O hφ=>.H hφ⟩;unfold execOp;rw[A];simp[Instr.range,run_underlying L,N,newObj,hZ]
 .cases z
def rj {w:World} {ob ob':Obj} (A:w.heap[i]? =Z ob) (h1:∀c t f,ob≠ .cells c t f) (D:∀c t f,ob'≠ .cells c t f):HR w {w with heap:=w.heap.setIfInBounds i ob'} i ob':=by
 have hlt:i<w.heap.size:=(cw.1 A).1;have hat:(w.heap.setIfInBounds i ob')[i]? =Z ob':=by simp[hlt]
 have hot:∀j,j≠i->(w.heap.setIfInBounds i ob')[j]? =w.heap[j]? :=λj z=>q_ (λe=>z e.symm)
 refine ⟨rfl,rfl,rfl,by simp,hat,hot,λj=>?_⟩;unfold sZ;by_cases z:j=i
 .subst z;simp only[hat,A];cases ob<;>cases ob'<;>first|rfl|exact co rfl (h1 _ _ _)|exact co rfl (D _ _ _)
 .simp only[hot j z]
def aro (ho:o.op= .next s J) (A:dx (.nxt s) e h nx=Z R):gh P o e.get h.get R.eff:=by
 simp only[dx]at A;split at A
 .rename_i id hx;split at A
  .rename_i ty x p hid;split at A
   .rename_i b hb;cases A;refine gh.writes hid λφ E h' w a hrd N hp hrep=>?_
    have hr:=hp s _ (by rw[ho];simp[Op.operands]) hx;generalize hz:a.eval s=z at hr;cases hr with
    |@H _ _ k hφ=>
     obtain⟨k',q1,_,ob,q2,q3⟩:=hrep.at_ id _ N;rw[hφ]at q1;cases q1;have q3:ob= .stringIter x p:=q3;subst q3;have hps:p<x.size:=by
      have:=(bi.1 hb).1;simpa using this
     have hget:x.get! p=b:=by
      have:x.data[p]? =Z b:=by rw[<- bE];exact hb
      have hpd:p<x.data.size:=(cw.1 this).1;have h2:x.data[p]! =x.data[p]:=getElem!_pos x.data p hpd;rw[iI hpd]at this;simp only[ByteArray.get!,h2];exact fK this
     have hdec:∃c:Nat,Utf8.decode x p=(c,wdA b x p)/\rnA b x p=(c:Int):=by
      unfold wdA rnA;cases hlt:ef b.toNat 128 with
      |true=>
       refine ⟨b.toNat,?_,rfl⟩;have:=aU hlt;unfold Utf8.decode;simp only[cX,hget];rw[aC (by omega)];rfl
      |false=>exact⟨(Utf8.decode x p).1,rfl,rfl⟩
     obtain⟨c,hdec,hc⟩:=hdec;refine ⟨.value (.tuple #[.bool J,.int .i64 p,.int .i32 c]),_,k,.stringIter x (p+wdA b x p),?_,hφ,rj q2 (by simp) (by simp),rfl,_,.inl rfl,?_⟩
     .unfold execOp;rw[ho];simp[Instr.next,hz,getObj,hZ,q2,hps,hdec,setObj,goInt]
     .refine cq.qg (vs:=[.bool J,.int .i64 p,.int .i32 c]) rfl λj y v D L=>?_
      rw[hc]at D;rcases j with _|_|_|j<;>simp at D L
      .subst D L;exact .f (.raw _)
      .subst D L;exact .f (.raw _)
      .subst D L;exact .f (.raw _)
   .rename_i hb;cases A;refine gh.writes hid λφ E h' w a hrd N hp hrep=>?_
    have hr:=hp s _ (by rw[ho];simp[Op.operands]) hx;generalize hz:a.eval s=z at hr;cases hr with
    |@H _ _ k hφ=>
     obtain⟨k',q1,_,ob,q2,q3⟩:=hrep.at_ id _ N;rw[hφ]at q1;cases q1;have q3:ob= .stringIter x p:=q3;subst q3;have hps:¬p<x.size:=by
      have:=List.getElem?_eq_none_iff.1 hb;have e:l! x.data.toList=x.size:=by simp
      omega
     refine ⟨.value (.tuple #[.bool aa]),w,k,.stringIter x p,?_,hφ,⟨rfl,rfl,rfl,rfl,q2,λ_ _=>rfl,λ_=>rfl⟩,rfl,_,.inl rfl,?_⟩
     .unfold execOp;rw[ho];simp[Instr.next,hz,getObj,hZ,q2,hps]
     .refine cq.qg (vs:=[.bool aa]) rfl λj y v D L=>?_
      rcases j with _|j<;>simp at D L;subst D L;exact .f (.raw _)
  .cases A
 .cases A
def w_ {a b:ByteArray}:tB a b=J↔a=b:=by
 unfold tB;constructor
 .intro h;have h1:a.data.toList=b.data.toList:=by simpa using h
  cases a;cases b;congr 1;exact Array.ext' h1
 .rintro rfl;simp
def Cr (a b:ByteArray):(a==b)=tB a b:=by
 have h1:(a==b)=(a.data==b.data):=rfl;rw[h1,Bool.eq_iff_iff,w_,cG];constructor
 .intro h;cases a;cases b;congr 1
 .rintro rfl;rfl
def kd (str:Bool) (d:TypeDesc):Prop:=if str then d= .string else ∃k,d= .int k
variable {b:Bool}
def AW {str:Bool} {d:TypeDesc} (hd:kd str d) {k:Value} (D:yf str k=J) (z:uX .eql k v=Z (.bool b)):EB d k v=Z b:=by
 unfold kd at hd;cases str with
 |true=>
  simp only[bk]at hd;subst hd;cases k<;>simp[yf]at D;cases v<;>simp only[uX]at z<;>try (simp at z;done)
  simp only[af,Ep]at z;simp[EB,Cr,z]
 |false=>
  simp only[bY,c7]at hd;obtain⟨q,rfl⟩:=hd;cases k<;>simp[yf]at D;cases v<;>simp only[uX]at z<;>try (simp at z;done)
  split at z
  .rename_i hkk;have hkk':=eq_of_beq hkk;subst hkk';simp only[af,Ep]at z;simp[EB,<-z]
  .cases z
def UF {d:TypeDesc} (hd:kd b d) (L:yf b v=J):∀(es:Y j!) (ents:Y MapEntry) (i:Nat),ents.map (·.key)=es.map (·.1)->∀r,s_ v es=Z r->
 (r=U/\dP d v ents i=Z U)\/∃(j:Nat) (k:AV) (m:MapEntry) (A:Value),r=Z k/\es[j]? =Z (A,k)/\ents[j]? =Z m/\dP d v ents i=Z (Z (i+j,m.val))/\uX .eql v A=Z (.bool J)
 |[],ents,i,he,r,h=>by
  cases ents with
  |nil=>simp only[s_,af]at h;exact .inl ⟨h.symm,rfl⟩
  |cons _ _=>simp at he
 |(A,k)::es,ents,i,he,r,h=>by
  cases ents with
  |nil=>simp at he
  |cons m ents=>
   simp only[bZ,fk]at he;obtain⟨z,N⟩:=he;simp only[s_]at h;split at h
   .rename_i D;simp only[af]at h;refine .inr ⟨0,k,m,A,h.symm,rfl,rfl,?_,D⟩;simp only[dP];rw[z,AW hd L D];rfl
   .rename_i D;have hs:=AW hd L D;rcases UF hd L es ents (i+1) N r h with ⟨h1,h2⟩|⟨j,v',m',k'',h1,h2,h3,h4,h5⟩
    .refine .inl ⟨h1,?_⟩;simp only[dP];rw[z,hs];exact h2
    .refine .inr ⟨j+1,v',m',k'',h1,by simpa using h2,by simpa using h3,?_,h5⟩;simp only[dP];rw[z,hs];show dP d v ents (i+1)=_;rw[h4,show i+1+j=i+(j+1) from by omega]
   .cases h
def uL {d:TypeDesc} (A:P.underlying z=Z d) (hd:kd b d) (str:Bool) (v:Value) (w:World):(ms str 10000 z v).run P w= .ok () w:=by
 have key:∀n,(ms str (n+1) z v).run P w= .ok () w:=λn=>by
  unfold kd at hd;cases b with
  |true=>simp only[bk]at hd;subst hd;simp[ms,run_underlying A]
  |false=>simp only[bY,c7]at hd;obtain⟨q,rfl⟩:=hd;simp[ms,run_underlying A]
 exact key 9999
def ael {w:World} {ok:Bool} (h:cq V O w y v):cq V O w (pkV ok y b) (if ok then .tuple #[v,.bool b] else v):=by
 cases ok with
 |false=>exact h
 |true=>
  refine cq.qg (vs:=[v,.bool b]) rfl λj x u z A=>?_
  rcases j with _|_|j<;>simp at z A
  .subst z A;exact h
  .subst z A;exact .f (.raw _)
def SH :∀{es:Y j!},told a es=Z y->∃j:Nat,es[j]? =Z (.int .i64 a,y)
 |(.int .i64 k,A)::r,h=>by
  simp only[told]at h;split at h
  .rename_i e;subst e;cases h;exact⟨0,rfl⟩
  .obtain⟨j,z⟩:=SH h;exact⟨j+1,z⟩
def jQ {m:MapEntry} {r:Y MapEntry} (hm:yh m.key) (A:yh v):(m.key=v->lC v (m::r)=m.val)/\(m.key≠v->lC v (m::r)=lC v r):=by
 obtain⟨a,z⟩:=hm;obtain⟨b,rfl⟩:=A;have e0:lC (.int .i64 b) (m::r)=if a=b then m.val else lC (.int .i64 b) r:=by simp only[lC,z]
 rw[e0];exact⟨λe=>by rw[z]at e;cases e;rw[aC rfl],λe=>by rw[av λq=>e (by rw[z,q])]⟩
def Hn {d:TypeDesc} (hd:kd aa d) (n:Int):∀(ents:Y MapEntry) (i:Nat),(∀m∈ents,yh m.key)->
 (dP d (.int .i64 n) ents i=Z U/\lC (.int .i64 n) ents= .slice U 0 0/\∀(k:Value) (m':MapEntry),m'.key= .int .i64 n->yh k->(k= .int .i64 n->lC k (ents++[m'])=m'.val)/\(k≠ .int .i64 n->lC k (ents++[m'])=lC k ents))\/
 ∃(j:Nat) (m:MapEntry),ents[j]? =Z m/\dP d (.int .i64 n) ents i=Z (Z (i+j,m.val))/\lC (.int .i64 n) ents=m.val/\m.key= .int .i64 n/\∀(k:Value) (m':MapEntry),m'.key= .int .i64 n->yh k->(k= .int .i64 n->lC k (ents.set j m')=m'.val)/\(k≠ .int .i64 n->lC k (ents.set j m')=lC k ents)
 |[],i,_=>by
  refine .inl ⟨rfl,rfl,λk m' hm z=>⟨λe=>?_,λe=>?_⟩⟩
  .exact (jQ (r:=[]) ⟨n,hm⟩ z).1 (hm.trans e.symm)
  .exact (jQ (r:=[]) ⟨n,hm⟩ z).2 (λq=>e (q.symm.trans hm))
 |m::r,i,h=>by
  have hmk:=h m (cR ..);obtain⟨a,A⟩:=hmk;have hb:uX .eql (.int .i64 n) (.int .i64 a)=Z (.bool (n==a)):=by simp[uX]
  have hs:=AW hd (k:=.int .i64 n) rfl hb;by_cases e:n=a
  .subst e;refine .inr ⟨0,m,rfl,?_,(jQ ⟨n,A⟩ ⟨n,rfl⟩).1 A,A,λk m' hm z=>⟨λe=>?_,λe=>?_⟩⟩
   .simp only[dP];rw[A,hs];simp
   .exact (jQ (r:=r) ⟨n,hm⟩ z).1 (hm.trans e.symm)
   .show lC k (m'::r)=_;rw[(jQ (r:=r) ⟨n,hm⟩ z).2 (λq=>e (q.symm.trans hm)),(jQ (r:=r) ⟨n,A⟩ z).2 (λq=>e (q.symm.trans A))]
  .have L:EB d (.int .i64 n) m.key=Z aa:=by rw[A,hs];simp[e]
   have hne:¬m.key= .int .i64 n:=λq=>by rw[A]at q;cases q;exact e rfl
   have hl:=(jQ (r:=r) ⟨a,A⟩ ⟨n,rfl⟩).2 hne;have step:∀(k:Value) (D:Y MapEntry) (m':MapEntry),yh k->m'.key= .int .i64 n->(k= .int .i64 n->lC k D=m'.val)/\(k≠ .int .i64 n->lC k D=lC k r)->(k= .int .i64 n->lC k (m::D)=m'.val)/\(k≠ .int .i64 n->lC k (m::D)=lC k (m::r)):=λk D m' z _ g=>by
    refine ⟨λq=>?_,λq=>?_⟩
    .rw[(jQ (r:=D) ⟨a,A⟩ z).2 (λx=>hne (x.trans q))];exact g.1 q
    .by_cases x:m.key=k
     .rw[(jQ (r:=D) ⟨a,A⟩ z).1 x,(jQ (r:=r) ⟨a,A⟩ z).1 x]
     .rw[(jQ (r:=D) ⟨a,A⟩ z).2 x,(jQ (r:=r) ⟨a,A⟩ z).2 x];exact g.2 q
   rcases Hn hd n r (i+1) (λq hq=>h q (bM _ hq)) with ⟨h1,h2,N⟩|⟨j,q,h1,h2,N,h4,h5⟩
   .refine .inl ⟨?_,by rw[hl];exact h2,λk m' hm z=>step k _ m' z hm (N k m' hm z)⟩;simp only[dP];rw[L];exact h1
   .refine .inr ⟨j+1,q,by simpa using h1,?_,by rw[hl];exact N,h4,λk m' hm z=>step k _ m' z hm (h5 k m' hm z)⟩;simp only[dP];rw[L];show dP d _ r (i+1)=_;rw[h2,show i+1+j=i+(j+1) from by omega]
def H4 :∀{es:Y j!} {j:Nat} {q:j!},(mI a y es)[j]? =Z q->∃p,es[j]? =Z p/\q.1=p.1/\(p.1= .int .i64 a->q.2=y)/\(p.1≠ .int .i64 a->q.2=p.2)
 |[],j,q,h=>by simp[mI]at h
 |p::r,0,q,h=>by
  simp only[mI,dH,af]at h;subst h;refine ⟨p,rfl,rfl,λe=>?_,λe=>?_⟩
  .show (match p.1 with|.int .i64 k=>if k=a then y else p.2|_=>p.2)=y;rw[e];dsimp only;rw[aC rfl]
  .show (match p.1 with|.int .i64 k=>if k=a then y else p.2|_=>p.2)=p.2;split
   .rename_i k A;rw[av λq=>e (by rw[A,q])]
   .rfl
 |p::r,j+1,q,h=>by
  simp only[mI,mG]at h;obtain⟨z,h1,D⟩:=H4 h;exact⟨z,by simpa using h1,D⟩
def EI (n:Int) (y:AV):∀es:Y j!,(mI n y es).map (·.1)=es.map (·.1)
 |[]=>rfl
 |p::r=>by simp only[mI,bZ];rw[EI n y r]
def amk {t el:TypeId} {k:Operand} {str:Bool} {d:TypeDesc} {kt:Value} (ho:o.op= .lookup t s k b) (hu:P.underlying t=Z (.map z el)) (hk:P.underlying z=Z d) (hd:kd str d) (L:(P.info? el).bind (·.zero)=Z kt) (A:dx (.jk str b kt s k) e h nx=Z R):gh P o e.get h.get R.eff:=by
 simp only[dx]at A;split at A
 .rename_i id key hx hkx;split at A
  .rename_i es hid;split at A
   .rename_i hko;have fin:∀val:AV,(∀(φ:PM) (E:Nat->Prop) (h':HF) (w:World) (a:Act),h' id=Z ⟨0,.mp es⟩->WA φ E h' w a e o->r_ φ E h' w->∃v,(execOp a.eval o).run P w= .ok (.value v) w/\cq φ (tot E φ h') w val v)->R=⟨val,[id],[],[],[]⟩->gh P o e.get h.get R.eff:=by
     rintro val hv rfl;exact gh.reads λφ E h' w a hrd hp hrep=>hv φ E h' w a (by rw[hrd id (by simp)];exact hid) hp hrep
    have zrun:∀w:World,(zeroValue el).run P w= .ok kt w:=λw=>by
     cases hi:P.info? el with
     |none=>rw[hi]at L;cases L
     |some i=>rw[hi]at L;simp only[aB]at L;simp[zeroValue,typeInfo,hi,L]
    have main:∀r,s_ key es=Z r->∀(φ:PM) (E:Nat->Prop) (h':HF) (w:World) (a:Act),h' id=Z ⟨0,.mp es⟩->WA φ E h' w a e o->r_ φ E h' w->
     ∃v,(execOp a.eval o).run P w= .ok (.value v) w/\cq φ (tot E φ h') w (match r with|some v=>pkV b v J|none=>pkV b (raw kt) aa) v:=by
     intro r hr φ E h' w a hb' hp hrep;have hrx:=hp s _ (by rw[ho];simp[Op.operands]) hx;have hrk:=e9 (hp k _ (by rw[ho];simp[Op.operands]) hkx);generalize D:a.eval s=zz at hrx;cases hrx with
     |@mp _ ok hφ=>
      obtain⟨k',q1,_,ob,q2,q3⟩:=hrep.at_ id _ hb';rw[hφ]at q1;cases q1;obtain⟨ents,clock,rfl,q4,q5⟩:=q3;have q4:ents.toList.map (·.key)=es.map (·.1):=by unfold Qg at q4;rw[aC rfl]at q4;exact q4
      have hck:=uL (P:=P) hk hd ents.isEmpty key w;rcases UF hd hko es ents.toList 0 q4 r hr with ⟨h1,h2⟩|⟨j,v,m,k',h1,h2,h3,h4,_⟩
      .subst h1;refine ⟨_,?_,ael (.f (.raw kt))⟩;unfold execOp;rw[ho];cases b<;>simp[J2,run_underlying hu,D,hrk,getObj,hZ,q2,hck,lU,run_underlying hk,h2,zrun]
      .subst h1;obtain⟨_,N,h7⟩:=q5 j _ h2;unfold MpV at N;rw[aC rfl]at N;obtain⟨m',N,rfl⟩:=N;rw[bE]at h3;rw[h3]at N;cases N;refine ⟨_,?_,ael h7⟩;unfold execOp;rw[ho];cases b<;>simp[J2,run_underlying hu,D,hrk,getObj,hZ,q2,hck,lU,run_underlying hk,h4]
    split at A
    .rename_i v hf;simp only[af]at A;exact fin _ (main _ hf) A.symm
    .rename_i hf;simp only[af]at A;exact fin _ (main _ hf) A.symm
    .cases A
   .cases A
  .rename_i ty es hid;split at A
   .rename_i n;split at A
    .rename_i hc;split at A
     .rename_i v hv;cases A;cases str with
      |true=>simp at hc
      |false=>
      cases b with
      |true=>simp at hc
      |false=>
      have hz0:kt= .slice U 0 0:=by
       simp only[mw,eh]at hc;unfold uR at hc;split at hc
       .rfl
       .cases hc
      subst hz0;have zrun:∀w:World,(zeroValue el).run P w= .ok (.slice U 0 0) w:=λw=>by
       cases hi:P.info? el with
       |none=>rw[hi]at L;cases L
       |some i=>rw[hi]at L;simp only[aB]at L;simp[zeroValue,typeInfo,hi,L]
      refine gh.reads λφ E h' w a hrd hp hrep=>?_
      have hb':h' id=Z ⟨ty+1,.mp es⟩:=by rw[hrd id (by simp)];exact hid
      have hrx:=hp s _ (by rw[ho];simp[Op.operands]) hx;have hrk:=e9 (hp k _ (by rw[ho];simp[Op.operands]) hkx);generalize D:a.eval s=zz at hrx;cases hrx with
      |@mp _ ok hφ=>
       obtain⟨k',q1,_,ob,q2,q3⟩:=hrep.at_ id _ hb';rw[hφ]at q1;cases q1;obtain⟨ents,clock,rfl,q4,q5⟩:=q3;unfold Qg at q4;rw[av (by simp)]at q4;obtain⟨j,hj⟩:=SH hv;obtain⟨v',N,h7⟩:=q5 j _ hj;unfold MpV at N;rw[av (by simp)]at N;subst N;have hck:=uL (P:=P) hk hd ents.isEmpty (.int .i64 n) w;rcases Hn hd n ents.toList 0 q4.1 with ⟨h1,h2,_⟩|⟨i,m,h1,h2,h3,_⟩
       .rw[h2]at h7;refine ⟨_,?_,h7⟩;unfold execOp;rw[ho];simp[J2,run_underlying hu,D,hrk,getObj,hZ,q2,hck,lU,run_underlying hk,h1,zrun]
       .rw[h3]at h7;refine ⟨_,?_,h7⟩;unfold execOp;rw[ho];simp[J2,run_underlying hu,D,hrk,getObj,hZ,q2,hck,lU,run_underlying hk,h2]
     .cases A
    .cases A
   .cases A
  .cases A
 .cases A
def Y7 {d:TypeDesc} (hd:kd b d) (N:yf b v=J) {k:AV}:∀(es es':Y j!) (ents:Y MapEntry) (i:Nat),ents.map (·.key)=es.map (·.1)->zE v k es=Z es'->
 (dP d v ents i=Z U/\es'=es++[(v,k)])\/∃(j:Nat) (m:MapEntry) (A:Value) (L:AV),es[j]? =Z (A,L)/\ents[j]? =Z m/\dP d v ents i=Z (Z (i+j,m.val))/\uX .eql v A=Z (.bool J)/\es'=es.set j (v,k)
 |[],es',ents,i,he,h=>by
  cases ents with
  |nil=>simp only[zE,af]at h;exact .inl ⟨rfl,by simp[h]⟩
  |cons _ _=>simp at he
 |(A,L)::es,es',ents,i,he,h=>by
  cases ents with
  |nil=>simp at he
  |cons m ents=>
   simp only[bZ,fk]at he;obtain⟨z,he2⟩:=he;simp only[zE]at h;split at h
   .rename_i D;simp only[af]at h;refine .inr ⟨0,m,A,L,rfl,rfl,?_,D,by simp[h]⟩;simp only[dP];rw[z,AW hd N D];rfl
   .rename_i D;have hs:=AW hd N D;split at h
    .rename_i es2 hes2;cases h;rcases Y7 hd N es es2 ents (i+1) he2 hes2 with ⟨h1,h2⟩|⟨j,m',k'',v'',h1,h2,h3,h4,h5⟩
     .refine .inl ⟨?_,by simp[h2]⟩;simp only[dP];rw[z,hs];exact h1
     .refine .inr ⟨j+1,m',k'',v'',by simpa using h1,by simpa using h2,?_,h4,by simp[h5]⟩;simp only[dP];rw[z,hs];show dP d v ents (i+1)=_;rw[h3,show i+1+j=i+(j+1) from by omega]
    .cases h
   .cases h
def ag7 {A:Value} (D:yf b v=J) (z:uX .eql v A=Z (.bool J)):jC 10000 A v=J/\A=v:=by
 cases b with
 |true=>
  cases v<;>simp[yf]at D;cases A<;>simp only[uX]at z<;>try (simp at z;done)
  simp only[af,Ep]at z;have:=w_.1 z;subst this;exact⟨by simp[jC,Cr,z],rfl⟩
 |false=>
  cases v<;>simp[yf]at D;cases A<;>simp only[uX]at z<;>try (simp at z;done)
  split at z
  .rename_i hkk;have hkk':=eq_of_beq hkk;subst hkk';simp only[af,Ep,cG]at z;subst z;exact⟨by simp[jC],rfl⟩
  .cases z
def amj {t el:TypeId} {k y:Operand} {str:Bool} {d:TypeDesc} (ho:o.op= .mapUpdate t s k y) (hu:P.underlying t=Z (.map z el)) (hk:P.underlying z=Z d) (hd:kd str d) (kt:dx (.jy str s k y) e h nx=Z R):gh P o e.get h.get R.eff:=by
 simp only[dx]at kt;split at kt
 .rename_i id key v hx hkx hy;split at kt
  .rename_i es hid;split at kt
   .rename_i hko;split at kt
    .rename_i es' hput;cases kt;refine gh.writes hid λφ E h' w a hrd hb' hp hrep=>?_
     have hrx:=hp s _ (by rw[ho];simp[Op.operands]) hx;have hrk:=e9 (hp k _ (by rw[ho];simp[Op.operands]) hkx);have hry:=hp y _ (by rw[ho];simp[Op.operands]) hy;generalize L:a.eval s=zz at hrx;cases hrx with
     |@mp _ b hφ=>
      obtain⟨k',q1,_,ob,q2,q3⟩:=hrep.at_ id _ hb';rw[hφ]at q1;cases q1;obtain⟨ents,clock,rfl,q4,q5⟩:=q3;have q4:ents.toList.map (·.key)=es.map (·.1):=by unfold Qg at q4;rw[aC rfl]at q4;exact q4
      have q5:∀(j:Nat) s,es[j]? =Z s->∃m,ents[j]? =Z m/\cq φ (tot E φ h') w s.2 m.val:=λj s hx=>by
       obtain⟨_,A,g2⟩:=q5 j s hx;unfold MpV at A;rw[aC rfl]at A;obtain⟨m,A,rfl⟩:=A;exact⟨m,A,g2⟩
      have Ie:∀(es:Y j!) (ents:Array MapEntry) (clock:Nat),ents.toList.map (·.key)=es.map (·.1)->(∀(j:Nat) s,es[j]? =Z s->∃m,ents[j]? =Z m/\cq φ (tot E φ h') w s.2 m.val)->gy φ (tot E φ h') w ⟨0,.mp es⟩ (.map ents clock):=λes ents clock A g2=>⟨ents,clock,rfl,by unfold Qg;rw[aC rfl];exact A,λj s hx=>by
       obtain⟨m,g3,g4⟩:=g2 j s hx;exact⟨_,by unfold MpV;rw[aC rfl];exact⟨m,g3,rfl⟩,g4⟩⟩
      have hck:=uL (P:=P) hk hd aa key w;have hlen:ents.size=l! es:=by have:=dT ah q4;simpa using this
      rcases Y7 hd hko es es' ents.toList 0 q4 hput with ⟨h1,rfl⟩|⟨j,m,k',v',h1,N,h3,h4,rfl⟩
      .refine ⟨.skip,_,b,.map (ents.push {key,val:=a.eval y,born:=clock}) (clock+1),?_,hφ,rj q2 (by simp) (by simp),Ie _ _ _ (by simp[q4]) λj q D=>?_,undef,.inr ⟨rfl,rfl⟩,.f (.raw _)⟩
       .unfold execOp;rw[ho];simp[yT,run_underlying hu,L,hrk,getObj,hZ,q2,hck,lU,run_underlying hk,h1,setObj]
       .rcases bx j (l! es) with hj|hj
        .rw[bj hj]at D;obtain⟨m,A,g2⟩:=q5 j q D;exact⟨m,by rw[xI,av (by omega)];exact A,g2⟩
        .rw[bO hj]at D;have hj0:j-l! es=0:=by
          rcases s5 (j-l! es) with h0|h0
          .exact h0
          .rw[bJ (by simp;omega)]at D;cases D
         rw[hj0]at D;simp at D;subst D;exact⟨_,by rw[xI,aC (by omega)],hry⟩
      .obtain⟨s1,s2⟩:=ag7 hko h4;subst s2;rw[bE]at N;rw[bF]at h3;have hjl:j<ents.size:=(cw.1 N).1;have hmk:m.key=k':=by
        have e1:(ents.toList.map (·.key))[j]? =Z m.key:=by rw[aT,bE,N];rfl
        rw[q4,aT,h1]at e1;simpa using e1.symm
       refine ⟨.skip,_,b,.map (ents.modify j λe=>{e with key:=k',val:=a.eval y}) clock,?_,hφ,rj q2 (by simp) (by simp),Ie _ _ _ ?_ λi q D=>?_,undef,.inr ⟨rfl,rfl⟩,.f (.raw _)⟩
       .unfold execOp;rw[ho];simp[yT,run_underlying hu,L,hrk,getObj,hZ,q2,hck,lU,run_underlying hk,h3,setObj,N,hmk,Instr.keyThatStays,s1]
       .apply Cb;intro i;simp only[aT,bE,c6,uw];have e2:∀i:Nat,(ents[i]?).map (λm:MapEntry=>m.key)=(es[i]?).map (λp:Value×AV=>p.1):=λi=>by
         have:=dT (λl=>l[i]?) q4;simpa[aT,bE] using this
        by_cases hij:j=i
        .subst hij;simp[N,show j<l! es by omega]
        .simp only[hij,c7];exact e2 i
       .rw[c6]at D;rw[uw];by_cases hij:j=i
        .subst hij;simp[show j<l! es by omega]at D;subst D;exact⟨{m with key:=k',val:=a.eval y},by simp[N],hry⟩
        .simp only[hij,c7]at D ⊢;exact q5 i q D
    .cases kt
   .cases kt
  .rename_i ty es hid;split at kt
   .rename_i n;split at kt
    .cases kt
    .rename_i hstr;have hstr:str=aa:=by simpa using hstr
     subst hstr;cases kt;refine gh.writes hid λφ E h' w a hrd hb' hp hrep=>?_
     have hrx:=hp s _ (by rw[ho];simp[Op.operands]) hx;have hrk:=e9 (hp k _ (by rw[ho];simp[Op.operands]) hkx);have hry:=hp y _ (by rw[ho];simp[Op.operands]) hy;generalize L:a.eval s=zz at hrx;cases hrx with
     |@mp _ b hφ=>
      obtain⟨k',q1,_,ob,q2,q3⟩:=hrep.at_ id _ hb';rw[hφ]at q1;cases q1;obtain⟨ents,clock,rfl,q4,q5⟩:=q3;unfold Qg at q4;rw[av (by simp)]at q4;have q5:∀(j:Nat) s,es[j]? =Z s->cq φ (tot E φ h') w s.2 (lC s.1 ents.toList):=λj s hx=>by
       obtain⟨_,A,g2⟩:=q5 j s hx;unfold MpV at A;rw[av (by simp)]at A;subst A;exact g2
      have mk1:∀(ents':Array MapEntry) (clock:Nat),(∀m∈ents'.toList,yh m.key)->(∀k,yh k->(k= .int .i64 n->lC k ents'.toList=a.eval y)/\(k≠ .int .i64 n->lC k ents'.toList=lC k ents.toList))->gy φ (tot E φ h') w ⟨ty+1,.mp (mI n v es)⟩ (.map ents' clock):=λents' clock A g2=>⟨ents',clock,rfl,by unfold Qg;rw[av (by simp),EI];exact⟨A,q4.2⟩,λj s hx=>by
       obtain⟨p,g3,g4,g5,g6⟩:=H4 hx;have hI:=q4.2 p.1 (ch.2 ⟨p,aX g3,rfl⟩);refine ⟨_,by unfold MpV;rw[av (by simp)],?_⟩;rw[g4];by_cases e:p.1= .int .i64 n
       .rw[(g2 _ hI).1 e,g5 e];exact hry
       .rw[(g2 _ hI).2 e,g6 e];exact q5 j p g3⟩
      have hck:=uL (P:=P) hk hd aa (.int .i64 n) w;rcases Hn hd n ents.toList 0 q4.1 with ⟨h1,_,h3⟩|⟨j,m,N,h3,_,h4,h5⟩
      .refine ⟨.skip,_,b,.map (ents.push {key:=.int .i64 n,val:=a.eval y,born:=clock}) (clock+1),?_,hφ,rj q2 (by simp) (by simp),mk1 _ _ (λm hm=>?_) λk hk=>?_,undef,.inr ⟨rfl,rfl⟩,.f (.raw _)⟩
       .unfold execOp;rw[ho];simp[yT,run_underlying hu,L,hrk,getObj,hZ,q2,hck,lU,run_underlying hk,h1,setObj]
       .rw[Array.toList_push]at hm;rcases bG.1 hm with hm|hm
        .exact q4.1 m hm
        .rw[aE.1 hm];exact⟨n,rfl⟩
       .rw[Array.toList_push];exact h3 k _ rfl hk
      .rw[bE]at N;rw[bF]at h3;obtain⟨hjl,hjm⟩:=cw.1 N;have s1:jC 10000 (.int .i64 n) (.int .i64 n)=J:=by simp[jC]
       have hl:(ents.modify j λe=>{e with key:=.int .i64 n,val:=a.eval y}).toList=ents.toList.set j {m with key:=.int .i64 n,val:=a.eval y}:=by
        apply Cb;intro i;simp only[bE,c6,uw];by_cases hij:j=i
        .subst hij;simp[N,hjl,hjm]
        .simp[hij]
       refine ⟨.skip,_,b,.map (ents.modify j λe=>{e with key:=.int .i64 n,val:=a.eval y}) clock,?_,hφ,rj q2 (by simp) (by simp),mk1 _ _ (λq hm=>?_) λk hk=>?_,undef,.inr ⟨rfl,rfl⟩,.f (.raw _)⟩
       .unfold execOp;rw[ho];simp[yT,run_underlying hu,L,hrk,getObj,hZ,q2,hck,lU,run_underlying hk,h3,setObj,N,h4,Instr.keyThatStays,s1]
       .rw[hl]at hm;rcases List.mem_or_eq_of_mem_set hm with hm|rfl
        .exact q4.1 q hm
        .exact⟨n,rfl⟩
       .rw[hl];exact h5 k _ rfl hk
   .cases kt
  .cases kt
 .cases kt
end
end
end Go.Proofs.YtcmnmakaoonfgaaGreatDoor.AI
