/-
  Texts of the proof, part 5 of 5: what is used to prove the statement. No condition.
-/
import Derived.Test.YtcmnmakaoonfgaaGreatDoorWeakSectionsQ3
import Derived.Deep.Slices
import Derived.OpenShut
import Derived.Below
import Derived.Test.YtcmnmakaoonfgaaGreatDoorRows
import Derived.LaidMore
namespace Go.Proofs.YtcmnmakaoonfgaaGreatDoor.AI
open Go.RowKit
set_option maxRecDepth 100000
set_option maxHeartbeats 4000000
set_option linter.unusedVariables false
set_option linter.unusedSimpArgs false
set_option linter.defProp false
open _root_.Bool renaming true→J,false→aa
open _root_.Int renaming ofNat_eq_natCast→ak,toNat→aO,ofNat→aQ,toNat_natCast→bD,reduceEq→cX,reduceNeg→dK,le_trans→ta,not_le→Ny
open _root_.List renaming length→l!,length→ah,length_cons→bK,length_singleton→bN,take→dB,getElem?_cons_zero→fJ,map→fX,cons_append→gA,range→iN,nil_append→kT,getElem?_cons_succ→ms,length_nil→mR,getElem?_concat_length→nL,drop_eq_getElem_cons→O_
open _root_.Nat renaming beq→ay,add_zero→cW,blt→dY,mul_one→Gi,le_succ→QE
open _root_.Option renaming some→Z,none→U,map_some→bn,getD_some→wF
open _root_.Prod renaming a→aW,b→bm,c→bF,d→cg,e→cG,h→dk,f→dE,g→ep,k→ip,j→jW,l→lz,i→mg,n→mh,m→mr,o→nJ,p→wE,q→B7,s→En
open _root_.Sum renaming inr→bW
open Value renaming okWide→JU
open World renaming cell?→Qz
noncomputable section
variable {R:Type}
def lA {α:Type} (o:M α):aA o (λ_=>(U:M R))=U:=by cases o<;>rfl
def pN (b:Bool):chk b (λ_=>(U:M R))=U:=by cases b<;>rfl
def tu {α:Type} (x:α):lt x (λ_=>(U:M R))=U:=rfl
def SX (o:M R) (Q:R->Prop):Prop:=o=U\/Ok o Q
def SX.or {a b:M R} {Q:R->Prop} (A:SX a Q) (z:SX b Q):SX (orE a b) Q:=by
 rcases A with rfl|⟨y,rfl,h⟩
 .exact z
 .exact .inr ⟨y,rfl,h⟩
def Ok.orL {a b:M R} {Q:R->Prop} (z:Ok a Q):Ok (orE a b) Q:=by
 obtain⟨y,rfl,h⟩:=z;exact⟨y,rfl,h⟩
def SX.orR {a b:M R} {Q:R->Prop} (A:SX a Q) (z:Ok b Q):Ok (orE a b) Q:=by
 rcases A with rfl|⟨y,rfl,h⟩
 .exact z
 .exact⟨y,rfl,h⟩
variable {L:Y ET} {i:Nat} {a:Int}
def Ks (hn:i+1<=100000) {c:CT} {s:ST} {u:Int} (hc:CB c) (hs:SV i L s) (hI:NF c L s) (G:M G!->Prop) (hG:∀y,SQ i c L y->G (Z y)) (k:ET×Bool->SY×o?->M G!)
 (hk:∀e v z,PE i c s a e->PS c L s a e->EN c.1 s.1 a e.2.1 e.2.2.1->Xa c.1 s.1 a e.2.1 e.2.2.1->AP i s.1 z->(z,v)=uv c.1 s.1 a e.2.1 e.2.2.1 u->G (k (e,J) (z,v,J))):
 G (aA (oV (c,s,a)) λA=>aH (!A.2) (Z ((([],0,[],[]),[],[],[]),(0,0,0,0,0,[],[]),aa)) (aA (qu (c.1,s.1,a,A.1.2.1,A.1.2.2.1,u)) λD=>aH (!D.2.2) (Z ((([],0,[],[]),[],[],[]),(0,0,0,0,0,[],[]),aa)) (k A D))):=by
 have N:=hG ((([],0,[],[]),[],[],[]),(0,0,0,0,0,[],[]),aa) nofun
 let⟨⟨e,b⟩,h1,h2⟩:=Zb i (by omega) c L s hc hs hI a;rw[h1,ZO];cases b with
 |false=>exact N
 |true=>
  let⟨hp,hm⟩:=h2 rfl;have hcd:l! c.1.2.2.1<=1000:=by have:=hp.fs.vc.vl.d;omega
  let⟨⟨z,v,b⟩,h3,h4,_,_⟩:=W2 c.1 s.1 hs.sb hcd a e.2.1 e.2.2.1 u;have e0:∀{R:Type} (t b:M R),aH (!J) t b=b:=λ_ _=>rfl
  rw[e0,h3,ZO];cases b with
  |false=>exact N
  |true=>
   let⟨g1,g2,g3,g4⟩:=h4 rfl;exact hk e v z hp hm g1 g2 g3 g4
def ae8 (z:SY) (D A:η) (a:TT) (h:SV i L (z,D,A,[a])) (hce:l! D<=1000) (hfu:l! A<=1000):oC (z,D,A,[a])=Z ((z.2.1,z.1,z.2.2.1,z.2.2.2).1,(z.2.1,z.1,z.2.2.1,z.2.2.2).2.1,(z.2.1,z.1,z.2.2.1,z.2.2.2).2.2.1,(z.2.1,z.1,z.2.2.1,z.2.2.2).2.2.2,(([]:η)++D),(([]:η)++A),((a.1,a.2.2.2),a.2.1,a.2.2.1)):=by
 have hE:=h.sb.n1;have N:TH (FQ L 0) i a:=h.t 0 (by simp);refine cz ?_;unfold oC aW cg bM bX bQ be;refine aT (sj z h.sb) ?_;refine a! (a! ?_);refine fO rfl (a8 rfl (aS (aT (dj a i hE N) ?_)));exact gB rfl (aj rfl)
def WZ (z:SY) (D A:η) (l:Y TT) (h0:l! l<=4) (h:l! l≠1):oC (z,D,A,l)=U:=by
 unfold oC aW cg bM bX bQ be;rcases l with _|⟨a,_|⟨b,_|⟨c,_|⟨d,_|⟨e,l⟩⟩⟩⟩⟩;all_goals first|(simp at h;done)|(exfalso;simp only[bK]at h0;omega)|simp[fK,lA,pN,tu,bcT,bcF]
def ae7 (z:SY) (D A:η) (a b:TT) (h:SV i L (z,D,A,[a,b])) (hce:l! D<=1000) (hfu:l! A<=1000):oB (z,D,A,[a,b])=Z ((z.2.1,z.1,z.2.2.1,z.2.2.2).1,(z.2.1,z.1,z.2.2.1,z.2.2.2).2.1,(z.2.1,z.1,z.2.2.1,z.2.2.2).2.2.1,(z.2.1,z.1,z.2.2.1,z.2.2.2).2.2.2,(([]:η)++D),(([]:η)++A),(((a.1,a.2.2.2),a.2.1,a.2.2.1).1.1,((a.1,a.2.2.2),a.2.1,a.2.2.1).1.2,((b.1,b.2.2.2),b.2.1,b.2.2.1).1.1,((b.1,b.2.2.2),b.2.1,b.2.2.1).2.1,((b.1,b.2.2.2),b.2.1,b.2.2.1).2.2,((b.1,b.2.2.2),b.2.1,b.2.2.1).1.2),((a.1,a.2.2.2),a.2.1,a.2.2.1).2):=by
 have N:=h.sb.n1;have ha:TH (FQ L 0) i a:=h.t 0 (by simp);have hb:TH (FQ L 1) i b:=h.t 1 (by simp);refine cz ?_;unfold oB aW cg bM bX bQ be;refine aT (sj z h.sb) ?_;refine a! (a! ?_);refine fO rfl (a8 rfl (aS (aT (dj a i N ha) ?_)));refine fO rfl (a8 rfl (aS (aT (dj b i N hb) ?_)));exact gB rfl (aj rfl)
def WY (z:SY) (D A:η) (l:Y TT) (h0:l! l<=4) (h:l! l≠2):oB (z,D,A,l)=U:=by
 unfold oB aW cg bM bX bQ be;rcases l with _|⟨a,_|⟨b,_|⟨c,_|⟨d,_|⟨e,l⟩⟩⟩⟩⟩;all_goals first|(simp at h;done)|(exfalso;simp only[bK]at h0;omega)|simp[fK,lA,pN,tu,bcT,bcF]
def ae6 (z:SY) (D A:η) (a b:TT) (h:SV i L (z,D,A,[a,b])) (hce:l! D<=1000) (hfu:l! A<=1000):oA (z,D,A,[a,b])=Z ((z.2.1,z.1,z.2.2.1,z.2.2.2).1,(z.2.1,z.1,z.2.2.1,z.2.2.2).2.1,(z.2.1,z.1,z.2.2.1,z.2.2.2).2.2.1,(z.2.1,z.1,z.2.2.1,z.2.2.2).2.2.2,(([]:η)++D),(([]:η)++A),((((a.1,a.2.2.2),a.2.1,a.2.2.1).1.1,((a.1,a.2.2.2),a.2.1,a.2.2.1).2.1,((a.1,a.2.2.2),a.2.1,a.2.2.1).2.2,((a.1,a.2.2.2),a.2.1,a.2.2.1).1.2),((b.1,b.2.2.2),b.2.1,b.2.2.1).1),((b.1,b.2.2.2),b.2.1,b.2.2.1).2):=by
 have N:=h.sb.n1;have ha:TH (FQ L 0) i a:=h.t 0 (by simp);have hb:TH (FQ L 1) i b:=h.t 1 (by simp);refine cz ?_;unfold oA aW cg bM bX bQ be;refine aT (sj z h.sb) ?_;refine a! (a! ?_);refine fO rfl (a8 rfl (aS (aT (dj a i N ha) ?_)));refine fO rfl (a8 rfl (aS (aT (dj b i N hb) ?_)));exact gB rfl (aj rfl)
def WV (z:SY) (D A:η) (l:Y TT) (h0:l! l<=4) (h:l! l≠2):oA (z,D,A,l)=U:=by
 unfold oA aW cg bM bX bQ be;rcases l with _|⟨a,_|⟨b,_|⟨c,_|⟨d,_|⟨e,l⟩⟩⟩⟩⟩;all_goals first|(simp at h;done)|(exfalso;simp only[bK]at h0;omega)|simp[fK,lA,pN,tu,bcT,bcF]
def ae5 (z:SY) (D A:η) (a b c:TT) (h:SV i L (z,D,A,[a,b,c])) (hce:l! D<=1000) (hfu:l! A<=1000):oz (z,D,A,[a,b,c])=Z ((z.2.1,z.1,z.2.2.1,z.2.2.2).1,(z.2.1,z.1,z.2.2.1,z.2.2.2).2.1,(z.2.1,z.1,z.2.2.1,z.2.2.2).2.2.1,(z.2.1,z.1,z.2.2.1,z.2.2.2).2.2.2,(([]:η)++D),(([]:η)++A),(((a.1,a.2.2.2),a.2.1,a.2.2.1).1.1,((a.1,a.2.2.2),a.2.1,a.2.2.1).1.2,(((b.1,b.2.2.2),b.2.1,b.2.2.1).1.1,((b.1,b.2.2.2),b.2.1,b.2.2.1).2.1,((b.1,b.2.2.2),b.2.1,b.2.2.1).2.2,((b.1,b.2.2.2),b.2.1,b.2.2.1).1.2),((c.1,c.2.2.2),c.2.1,c.2.2.1).1.1,((c.1,c.2.2.2),c.2.1,c.2.2.1).2.1,((c.1,c.2.2.2),c.2.1,c.2.2.1).2.2,((c.1,c.2.2.2),c.2.1,c.2.2.1).1.2),((a.1,a.2.2.2),a.2.1,a.2.2.1).2):=by
 have N:=h.sb.n1;have ha:TH (FQ L 0) i a:=h.t 0 (by simp);have hb:TH (FQ L 1) i b:=h.t 1 (by simp);have hc:TH (FQ L 2) i c:=h.t 2 (by simp);refine cz ?_;unfold oz aW cg bM bX bQ be;refine aT (sj z h.sb) ?_;refine a! (a! ?_);refine fO rfl (a8 rfl (aS (aT (dj a i N ha) ?_)));refine fO rfl (a8 rfl (aS (aT (dj b i N hb) ?_)));refine fO rfl (a8 rfl (aS (aT (dj c i N hc) ?_)));exact gB rfl (aj rfl)
def WU (z:SY) (D A:η) (l:Y TT) (h0:l! l<=4) (h:l! l≠3):oz (z,D,A,l)=U:=by
 unfold oz aW cg bM bX bQ be;rcases l with _|⟨a,_|⟨b,_|⟨c,_|⟨d,_|⟨e,l⟩⟩⟩⟩⟩;all_goals first|(simp at h;done)|(exfalso;simp only[bK]at h0;omega)|simp[fK,lA,pN,tu,bcT,bcF]
def ae4 (z:SY) (D A:η) (a b c:TT) (h:SV i L (z,D,A,[a,b,c])) (hce:l! D<=1000) (hfu:l! A<=1000):oy (z,D,A,[a,b,c])=Z ((z.2.1,z.1,z.2.2.1,z.2.2.2).1,(z.2.1,z.1,z.2.2.1,z.2.2.2).2.1,(z.2.1,z.1,z.2.2.1,z.2.2.2).2.2.1,(z.2.1,z.1,z.2.2.1,z.2.2.2).2.2.2,(([]:η)++D),(([]:η)++A),((((a.1,a.2.2.2),a.2.1,a.2.2.1).1.1,((a.1,a.2.2.2),a.2.1,a.2.2.1).2.1,((a.1,a.2.2.2),a.2.1,a.2.2.1).2.2,((a.1,a.2.2.2),a.2.1,a.2.2.1).1.2),((b.1,b.2.2.2),b.2.1,b.2.2.1).1.1,((b.1,b.2.2.2),b.2.1,b.2.2.1).1.2,((c.1,c.2.2.2),c.2.1,c.2.2.1).1.1,((c.1,c.2.2.2),c.2.1,c.2.2.1).2.1,((c.1,c.2.2.2),c.2.1,c.2.2.1).2.2,((c.1,c.2.2.2),c.2.1,c.2.2.1).1.2),((b.1,b.2.2.2),b.2.1,b.2.2.1).2):=by
 have N:=h.sb.n1;have ha:TH (FQ L 0) i a:=h.t 0 (by simp);have hb:TH (FQ L 1) i b:=h.t 1 (by simp);have hc:TH (FQ L 2) i c:=h.t 2 (by simp);refine cz ?_;unfold oy aW cg bM bX bQ be;refine aT (sj z h.sb) ?_;refine a! (a! ?_);refine fO rfl (a8 rfl (aS (aT (dj a i N ha) ?_)));refine fO rfl (a8 rfl (aS (aT (dj b i N hb) ?_)));refine fO rfl (a8 rfl (aS (aT (dj c i N hc) ?_)));exact gB rfl (aj rfl)
def WR (z:SY) (D A:η) (l:Y TT) (h0:l! l<=4) (h:l! l≠3):oy (z,D,A,l)=U:=by
 unfold oy aW cg bM bX bQ be;rcases l with _|⟨a,_|⟨b,_|⟨c,_|⟨d,_|⟨e,l⟩⟩⟩⟩⟩;all_goals first|(simp at h;done)|(exfalso;simp only[bK]at h0;omega)|simp[fK,lA,pN,tu,bcT,bcF]
def ae3 (z:SY) (D A:η) (a b c:TT) (h:SV i L (z,D,A,[a,b,c])) (hce:l! D<=1000) (hfu:l! A<=1000):ox (z,D,A,[a,b,c])=Z ((z.2.1,z.1,z.2.2.1,z.2.2.2).1,(z.2.1,z.1,z.2.2.1,z.2.2.2).2.1,(z.2.1,z.1,z.2.2.1,z.2.2.2).2.2.1,(z.2.1,z.1,z.2.2.1,z.2.2.2).2.2.2,(([]:η)++D),(([]:η)++A),((((a.1,a.2.2.2),a.2.1,a.2.2.1).1.1,((a.1,a.2.2.2),a.2.1,a.2.2.1).2.1,((a.1,a.2.2.2),a.2.1,a.2.2.1).2.2,((a.1,a.2.2.2),a.2.1,a.2.2.1).1.2),(((b.1,b.2.2.2),b.2.1,b.2.2.1).1.1,((b.1,b.2.2.2),b.2.1,b.2.2.1).2.1,((b.1,b.2.2.2),b.2.1,b.2.2.1).2.2,((b.1,b.2.2.2),b.2.1,b.2.2.1).1.2),((c.1,c.2.2.2),c.2.1,c.2.2.1).1),((c.1,c.2.2.2),c.2.1,c.2.2.1).2):=by
 have N:=h.sb.n1;have ha:TH (FQ L 0) i a:=h.t 0 (by simp);have hb:TH (FQ L 1) i b:=h.t 1 (by simp);have hc:TH (FQ L 2) i c:=h.t 2 (by simp);refine cz ?_;unfold ox aW cg bM bX bQ be;refine aT (sj z h.sb) ?_;refine a! (a! ?_);refine fO rfl (a8 rfl (aS (aT (dj a i N ha) ?_)));refine fO rfl (a8 rfl (aS (aT (dj b i N hb) ?_)));refine fO rfl (a8 rfl (aS (aT (dj c i N hc) ?_)));exact gB rfl (aj rfl)
def WP (z:SY) (D A:η) (l:Y TT) (h0:l! l<=4) (h:l! l≠3):ox (z,D,A,l)=U:=by
 unfold ox aW cg bM bX bQ be;rcases l with _|⟨a,_|⟨b,_|⟨c,_|⟨d,_|⟨e,l⟩⟩⟩⟩⟩;all_goals first|(simp at h;done)|(exfalso;simp only[bK]at h0;omega)|simp[fK,lA,pN,tu,bcT,bcF]
def ae2 (z:SY) (N D:η) (a b c d:TT) (h:SV i L (z,N,D,[a,b,c,d])) (hce:l! N<=1000) (hfu:l! D<=1000):ov (z,N,D,[a,b,c,d])=Z ((z.2.1,z.1,z.2.2.1,z.2.2.2).1,(z.2.1,z.1,z.2.2.1,z.2.2.2).2.1,(z.2.1,z.1,z.2.2.1,z.2.2.2).2.2.1,(z.2.1,z.1,z.2.2.1,z.2.2.2).2.2.2,(([]:η)++N),(([]:η)++D),(((a.1,a.2.2.2),a.2.1,a.2.2.1).1.1,((a.1,a.2.2.2),a.2.1,a.2.2.1).1.2,(((b.1,b.2.2.2),b.2.1,b.2.2.1).1.1,((b.1,b.2.2.2),b.2.1,b.2.2.1).2.1,((b.1,b.2.2.2),b.2.1,b.2.2.1).2.2,((b.1,b.2.2.2),b.2.1,b.2.2.1).1.2),(((c.1,c.2.2.2),c.2.1,c.2.2.1).1.1,((c.1,c.2.2.2),c.2.1,c.2.2.1).2.1,((c.1,c.2.2.2),c.2.1,c.2.2.1).2.2,((c.1,c.2.2.2),c.2.1,c.2.2.1).1.2),((d.1,d.2.2.2),d.2.1,d.2.2.1).1.1,((d.1,d.2.2.2),d.2.1,d.2.2.1).2.1,((d.1,d.2.2.2),d.2.1,d.2.2.1).2.2,((d.1,d.2.2.2),d.2.1,d.2.2.1).1.2),((a.1,a.2.2.2),a.2.1,a.2.2.1).2):=by
 have A:=h.sb.n1;have ha:TH (FQ L 0) i a:=h.t 0 (by simp);have hb:TH (FQ L 1) i b:=h.t 1 (by simp);have hc:TH (FQ L 2) i c:=h.t 2 (by simp);have hd:TH (FQ L 3) i d:=h.t 3 (by simp);refine cz ?_;unfold ov aW cg bM bX bQ be;refine aT (sj z h.sb) ?_;refine a! (a! ?_);refine fO rfl (a8 rfl (aS (aT (dj a i A ha) ?_)));refine fO rfl (a8 rfl (aS (aT (dj b i A hb) ?_)));refine fO rfl (a8 rfl (aS (aT (dj c i A hc) ?_)));refine fO rfl (a8 rfl (aS (aT (dj d i A hd) ?_)));exact gB rfl (aj rfl)
def WN (z:SY) (D A:η) (l:Y TT) (h0:l! l<=4) (h:l! l≠4):ov (z,D,A,l)=U:=by
 unfold ov aW cg bM bX bQ be;rcases l with _|⟨a,_|⟨b,_|⟨c,_|⟨d,_|⟨e,l⟩⟩⟩⟩⟩;all_goals first|(simp at h;done)|(exfalso;simp only[bK]at h0;omega)|simp[fK,lA,pN,tu,bcT,bcF]
def ae1 (z:SY) (N D:η) (a b c d:TT) (h:SV i L (z,N,D,[a,b,c,d])) (hce:l! N<=1000) (hfu:l! D<=1000):ou (z,N,D,[a,b,c,d])=Z ((z.2.1,z.1,z.2.2.1,z.2.2.2).1,(z.2.1,z.1,z.2.2.1,z.2.2.2).2.1,(z.2.1,z.1,z.2.2.1,z.2.2.2).2.2.1,(z.2.1,z.1,z.2.2.1,z.2.2.2).2.2.2,(([]:η)++N),(([]:η)++D),((((a.1,a.2.2.2),a.2.1,a.2.2.1).1.1,((a.1,a.2.2.2),a.2.1,a.2.2.1).2.1,((a.1,a.2.2.2),a.2.1,a.2.2.1).2.2,((a.1,a.2.2.2),a.2.1,a.2.2.1).1.2),((b.1,b.2.2.2),b.2.1,b.2.2.1).1.1,((b.1,b.2.2.2),b.2.1,b.2.2.1).1.2,(((c.1,c.2.2.2),c.2.1,c.2.2.1).1.1,((c.1,c.2.2.2),c.2.1,c.2.2.1).2.1,((c.1,c.2.2.2),c.2.1,c.2.2.1).2.2,((c.1,c.2.2.2),c.2.1,c.2.2.1).1.2),((d.1,d.2.2.2),d.2.1,d.2.2.1).1.1,((d.1,d.2.2.2),d.2.1,d.2.2.1).2.1,((d.1,d.2.2.2),d.2.1,d.2.2.1).2.2,((d.1,d.2.2.2),d.2.1,d.2.2.1).1.2),((b.1,b.2.2.2),b.2.1,b.2.2.1).2):=by
 have A:=h.sb.n1;have ha:TH (FQ L 0) i a:=h.t 0 (by simp);have hb:TH (FQ L 1) i b:=h.t 1 (by simp);have hc:TH (FQ L 2) i c:=h.t 2 (by simp);have hd:TH (FQ L 3) i d:=h.t 3 (by simp);refine cz ?_;unfold ou aW cg bM bX bQ be;refine aT (sj z h.sb) ?_;refine a! (a! ?_);refine fO rfl (a8 rfl (aS (aT (dj a i A ha) ?_)));refine fO rfl (a8 rfl (aS (aT (dj b i A hb) ?_)));refine fO rfl (a8 rfl (aS (aT (dj c i A hc) ?_)));refine fO rfl (a8 rfl (aS (aT (dj d i A hd) ?_)));exact gB rfl (aj rfl)
def WM (z:SY) (D A:η) (l:Y TT) (h0:l! l<=4) (h:l! l≠4):ou (z,D,A,l)=U:=by
 unfold ou aW cg bM bX bQ be;rcases l with _|⟨a,_|⟨b,_|⟨c,_|⟨d,_|⟨e,l⟩⟩⟩⟩⟩;all_goals first|(simp at h;done)|(exfalso;simp only[bK]at h0;omega)|simp[fK,lA,pN,tu,bcT,bcF]
def ae0 (z:SY) (N D:η) (a b c d:TT) (h:SV i L (z,N,D,[a,b,c,d])) (hce:l! N<=1000) (hfu:l! D<=1000):oq (z,N,D,[a,b,c,d])=Z ((z.2.1,z.1,z.2.2.1,z.2.2.2).1,(z.2.1,z.1,z.2.2.1,z.2.2.2).2.1,(z.2.1,z.1,z.2.2.1,z.2.2.2).2.2.1,(z.2.1,z.1,z.2.2.1,z.2.2.2).2.2.2,(([]:η)++N),(([]:η)++D),((((a.1,a.2.2.2),a.2.1,a.2.2.1).1.1,((a.1,a.2.2.2),a.2.1,a.2.2.1).2.1,((a.1,a.2.2.2),a.2.1,a.2.2.1).2.2,((a.1,a.2.2.2),a.2.1,a.2.2.1).1.2),(((b.1,b.2.2.2),b.2.1,b.2.2.1).1.1,((b.1,b.2.2.2),b.2.1,b.2.2.1).2.1,((b.1,b.2.2.2),b.2.1,b.2.2.1).2.2,((b.1,b.2.2.2),b.2.1,b.2.2.1).1.2),((c.1,c.2.2.2),c.2.1,c.2.2.1).1.1,((c.1,c.2.2.2),c.2.1,c.2.2.1).1.2,((d.1,d.2.2.2),d.2.1,d.2.2.1).1.1,((d.1,d.2.2.2),d.2.1,d.2.2.1).2.1,((d.1,d.2.2.2),d.2.1,d.2.2.1).2.2,((d.1,d.2.2.2),d.2.1,d.2.2.1).1.2),((c.1,c.2.2.2),c.2.1,c.2.2.1).2):=by
 have A:=h.sb.n1;have ha:TH (FQ L 0) i a:=h.t 0 (by simp);have hb:TH (FQ L 1) i b:=h.t 1 (by simp);have hc:TH (FQ L 2) i c:=h.t 2 (by simp);have hd:TH (FQ L 3) i d:=h.t 3 (by simp);refine cz ?_;unfold oq aW cg bM bX bQ be;refine aT (sj z h.sb) ?_;refine a! (a! ?_);refine fO rfl (a8 rfl (aS (aT (dj a i A ha) ?_)));refine fO rfl (a8 rfl (aS (aT (dj b i A hb) ?_)));refine fO rfl (a8 rfl (aS (aT (dj c i A hc) ?_)));refine fO rfl (a8 rfl (aS (aT (dj d i A hd) ?_)));exact gB rfl (aj rfl)
def WL (z:SY) (D A:η) (l:Y TT) (h0:l! l<=4) (h:l! l≠4):oq (z,D,A,l)=U:=by
 unfold oq aW cg bM bX bQ be;rcases l with _|⟨a,_|⟨b,_|⟨c,_|⟨d,_|⟨e,l⟩⟩⟩⟩⟩;all_goals first|(simp at h;done)|(exfalso;simp only[bK]at h0;omega)|simp[fK,lA,pN,tu,bcT,bcF]
def adz (z:SY) (N D:η) (a b c d:TT) (h:SV i L (z,N,D,[a,b,c,d])) (hce:l! N<=1000) (hfu:l! D<=1000):ol (z,N,D,[a,b,c,d])=Z ((z.2.1,z.1,z.2.2.1,z.2.2.2).1,(z.2.1,z.1,z.2.2.1,z.2.2.2).2.1,(z.2.1,z.1,z.2.2.1,z.2.2.2).2.2.1,(z.2.1,z.1,z.2.2.1,z.2.2.2).2.2.2,(([]:η)++N),(([]:η)++D),((((a.1,a.2.2.2),a.2.1,a.2.2.1).1.1,((a.1,a.2.2.2),a.2.1,a.2.2.1).2.1,((a.1,a.2.2.2),a.2.1,a.2.2.1).2.2,((a.1,a.2.2.2),a.2.1,a.2.2.1).1.2),(((b.1,b.2.2.2),b.2.1,b.2.2.1).1.1,((b.1,b.2.2.2),b.2.1,b.2.2.1).2.1,((b.1,b.2.2.2),b.2.1,b.2.2.1).2.2,((b.1,b.2.2.2),b.2.1,b.2.2.1).1.2),(((c.1,c.2.2.2),c.2.1,c.2.2.1).1.1,((c.1,c.2.2.2),c.2.1,c.2.2.1).2.1,((c.1,c.2.2.2),c.2.1,c.2.2.1).2.2,((c.1,c.2.2.2),c.2.1,c.2.2.1).1.2),((d.1,d.2.2.2),d.2.1,d.2.2.1).1),((d.1,d.2.2.2),d.2.1,d.2.2.1).2):=by
 have A:=h.sb.n1;have ha:TH (FQ L 0) i a:=h.t 0 (by simp);have hb:TH (FQ L 1) i b:=h.t 1 (by simp);have hc:TH (FQ L 2) i c:=h.t 2 (by simp);have hd:TH (FQ L 3) i d:=h.t 3 (by simp);refine cz ?_;unfold ol aW cg bM bX bQ be;refine aT (sj z h.sb) ?_;refine a! (a! ?_);refine fO rfl (a8 rfl (aS (aT (dj a i A ha) ?_)));refine fO rfl (a8 rfl (aS (aT (dj b i A hb) ?_)));refine fO rfl (a8 rfl (aS (aT (dj c i A hc) ?_)));refine fO rfl (a8 rfl (aS (aT (dj d i A hd) ?_)));exact gB rfl (aj rfl)
def WJ (z:SY) (D A:η) (l:Y TT) (h0:l! l<=4) (h:l! l≠4):ol (z,D,A,l)=U:=by
 unfold ol aW cg bM bX bQ be;rcases l with _|⟨a,_|⟨b,_|⟨c,_|⟨d,_|⟨e,l⟩⟩⟩⟩⟩;all_goals first|(simp at h;done)|(exfalso;simp only[bK]at h0;omega)|simp[fK,lA,pN,tu,bcT,bcF]
def kdx (k:Int):k=1\/k=16\/k=2\/k=3\/k=23\/k=4\/k=22\/k=5\/((k=1)=False/\(k=16)=False/\(k=2)=False/\(k=3)=False/\(k=23)=False/\(k=4)=False/\(k=22)=False/\(k=5)=False):=by
 by_cases h:k=1\/k=16\/k=2\/k=3\/k=23\/k=4\/k=22\/k=5
 .omega
 .repeat (first|exact⟨eq_false (by omega),eq_false (by omega),eq_false (by omega),eq_false (by omega),eq_false (by omega),eq_false (by omega),eq_false (by omega),eq_false (by omega)⟩|refine Or.inr ?_)
def KR (n:Nat) (c0:CT) (L:Y ET) (i:Nat) (u:Int) (l:Y TT) (z:R) (k:Int->(CT×SY×(ν)×Int×(υ)×ET×(ν)×(η)×(η)×R×(η)×Y η)->M G!):Prop:=
 ∀(F:Int->Prop) (p:Int) (sy:SY) (kd o v si:Int) (ds fs ce fu A:η) (T:Y η) (N:Int),
  (kd≠16->kd≠2->Ok (oD (geti yL c0.2 (i:Int),(p,A,T,bl .i64 (N+1)))) λy=>TH F (n+1) y.1/\(l! y.1.2.1=0\/y.1.2.2.2=bl .i64 (N+1)))->
  (kd=16\/kd=2->TH F (n+1) (p,A,T,bl .i64 (N+1)))->
  (∀D,TH F (n+1) D->(l! D.2.1=0\/D.2.2.2=bl .i64 (N+1)/\(kd=16->D.1=p))->SQ n c0 L ((sy,ce,fu,l.set i D),((i:Int),kd,o,v,si,ds,fs),J))->(i:Int)<(l! c0.2:Int)->
  ∀pc,Ok (k p (c0,sy,((i:Int),u),0,(0,0,0,0,0),((i:Int),kd,o,v,si,ds,fs),(pc,N),ce,fu,z,A,T)) (SQ n c0 L)
def DA (N n:Nat) {cp:SY×(η)×(η)×Y TT->M (Int×(Y (Int×η))×(θ)×(Y (Int×Int×Bool))×(η)×(η)×R×(η)×Y η)} {pc ev:R->Int} {k:Int->(CT×SY×(ν)×Int×(υ)×ET×(ν)×(η)×(η)×R×(η)×Y η)->M G!} (hn:i+1<=100000) (c0:CT) (L:Y ET) (s:ST) (t u:Int) (hc:CB c0) (hs:SV i L s) (hI:NF c0 L s)
 (h0:∀sy ce fu (l:Y TT),l! l<=4->l! l≠N->cp (sy,ce,fu,l)=U)
 (h1:∀sy ce fu (l:Y TT),SV i L (sy,ce,fu,l)->l! ce<=1000->l! fu<=1000->l! l=N->n<N/\∃y,cp (sy,ce,fu,l)=Z y/\y.2.2.2.2.1=ce/\y.2.2.2.2.2.1=fu/\y.2.2.2.2.2.2.2.1=(geti e_ l (n:Int)).2.1/\y.2.2.2.2.2.2.2.2=(geti e_ l (n:Int)).2.2.1/\pc y.2.2.2.2.2.2.1=(geti e_ l (n:Int)).1/\ev y.2.2.2.2.2.2.1=(geti e_ l (n:Int)).2.2.2/\KR i c0 L n u l y.2.2.2.2.2.2.1 k):
 SX (SG (n:Int) cp pc ev k (c0,s,t,u)) (SQ i c0 L)/\(l! s.2.2.2=N->t=(n:Int)->Ok (SG (n:Int) cp pc ev k (c0,s,t,u)) (SQ i c0 L)):=by
 by_cases hz:l! s.2.2.2=N/\t=(n:Int)
 .obtain⟨hz1,rfl⟩:=hz;suffices h:Ok (SG (n:Int) cp pc ev k (c0,s,(n:Int),u)) (SQ i c0 L) from ⟨.inr h,λ_ _=>h⟩
  unfold SG lz mh mg aW bm bF cG ep jW mr nJ Prod.w Prod.v Prod.z cg dE wE Prod.B ck bi bQ jY aG;refine Ks hn hc hs hI (λo=>Ok o (SQ i c0 L)) (λy h=>aj h) _ λe v sy hp hm he hr ha hq=>?_
  let⟨sy0,ce,fu,l⟩:=s;let⟨e1,kd,o,e4,site,ds,fs⟩:=e;have het:=hp.et;dsimp only at hz1 he hr ha hq het;subst het;have vl:=hp.fs.vc.vl;have hce:=hp.fs.ce;have hfu:=hp.fs.fu;dsimp only at hce hfu;let⟨hiN,⟨q1,q2,q3,q4,ce',fu',z,R0,T0⟩,hcp,g1,g2,g3,g4,hpc,hve,hk⟩:=h1 sy0 ce fu l hs (by have:=vl.c;omega) (by have:=vl.f;omega) hz1;dsimp only at g1 g2 g3 g4 hpc hve hk;rw[g1,g2,g3,g4]at hcp;let⟨_,_,nmce,_,_,_,nmfu,_,_,_⟩:=id he.nm;have t1:(n:Int)<(l! c0.2:Int):=hp.t1;have htf:TF (geti yL c0.2 (n:Int)) (geti e_ l (n:Int)):=hp.fs.t n (by omega);have hA:=hp.a;have hB:=hp.b;dsimp only at hA hB;have hvt:=hp.fs.vc.t _ (bP (T:=yL) (xs:=c0.2) (j:=(n:Int)) (by omega) t1);have hci:=hc.ins _ (bP (T:=yL) (xs:=c0.2) (j:=(n:Int)) (by omega) t1);have hth:TH (FQ L (n:Int)) i (geti e_ l (n:Int)):=hs.t n (by dsimp only;omega);have done:=ama hn hs hI hp hm he hr ha;have htg:=hm.tg;have hrun:=hr.r;dsimp only at done htg;have hgv:kd=3\/kd=23->FQ (L++[((n:Int),kd,o,e4,site,ds,fs)]) (n:Int) (geti e_ l (n:Int)).2.2.2:=λh3=>by
   have D:=hrun (by omega) (by omega);have hn0:¬l! (fl L (n:Int))=0:=λh=>(htg.nw h).elim (λg=>b8 (D.symm.trans g) (by decide)) λg=>b8 (D.symm.trans g) (by decide)
   refine ⟨by rw[htg.ev];omega,Nv.last (e:=((n:Int),kd,o,e4,site,ds,fs)) ?_ htg.ev⟩;unfold rdE;rcases h3 with h|h
   .rw[aR h];rfl
   .simp[h]
  have vaA:¬kd=3->¬kd=23->¬kd=5->VA c0.1 sy0 ce fu (n:Int) kd o v:=λa b c=>⟨λh=>(a h).elim,λh=>(b h).elim,λh=>(c h).elim,λ_ _ _ _ _=>by rw[Wi hq]⟩
  have apA:(uv c0.1 sy0 (n:Int) kd o v).1=sy:=by rw[Wi hq]
  have apB:¬kd=18->∀v',(uv c0.1 sy0 (n:Int) kd o v').1=sy:=λh v'=>by rw[aap _ _ _ _ _ _ u h,<-hq]
  have keep:∀x∈(geti e_ l (n:Int)).2.2.1,TL (FQ (L++[((n:Int),kd,o,e4,site,ds,fs)]) (n:Int)) (i+1) x:=λx hx=>(hth.l x hx).mono (by omega) λy hy=>⟨hy.1,hy.2.app _⟩
  clear g3 g4 hm hI hrun htg;revert done hgv keep;generalize FQ (L++[((n:Int),kd,o,e4,site,ds,fs)]) (n:Int)=F;generalize geti e_ l (n:Int)=th at hcp hpc hve htf hA hB hth ⊢;intro done hgv keep;refine aT hcp ?_;dsimp only;rw[hpc,hve];refine fO (aR rfl) ?_;refine aM (by omega) t1 (aS (aM htf.p0 htf.p1 (aS ?_)));have htz:l! th.2.2.1=l! th.2.1:=by have:=htf.r;have:=htf.t;omega
  have fin:∀(p:Int) (A:η) (T:Y η),l! A=l! th.2.1->l! T=l! th.2.2.1->(∀x∈T,TL F (i+1) x)->Ok (oD (geti yL c0.2 (n:Int),(p,A,T,bl .i64 (th.2.2.2+1)))) λy=>TH F (i+1) y.1/\(l! y.1.2.1=0\/y.1.2.2.2=bl .i64 (th.2.2.2+1)):=λp A T h1 D h3=>by
   have a1:=hth.e0;have a2:=hth.e1;have a3:=hth.r;have a4:=hth.t;rw[iQ (n:=th.2.2.2+1) (by omega) (by omega)];exact adh (i+1) hn _ hci hvt _ ⟨by dsimp only;omega,by dsimp only;omega,h3,by dsimp only;omega,by dsimp only;omega⟩
  have mark:kd=3\/kd=23->∀j:Int,∀x∈cH th.2.2.1 j [th.2.2.2],TL F (i+1) x:=λh3 j x hx=>by
   rcases EB hx with h|h
   .exact keep x h
   .rw[h];exact⟨⟨λy hy=>(by cases hy),trivial⟩,λy hy=>by rw[aB]at hy;have:=hth.e0;have:=hth.e1;rw[hy];exact⟨by omega,by omega⟩,λy hy=>by rw[aB]at hy;rw[hy];exact hgv h3⟩
  have nopark:TH F (i+1) (th.1,th.2.1,th.2.2.1,bl .i64 (th.2.2.2+1)):=by
   have a1:=hth.e0;have a2:=hth.e1;rw[iQ (n:=th.2.2.2+1) (by omega) (by omega)];exact⟨hth.r,hth.t,keep,by dsimp only;omega,by dsimp only;omega⟩
  clear hp hs hc h0 h1 hcp g1 g2 hr ha hq he;generalize (geti sx (geti yL c0.2 (n:Int)).2 th.1)=ins at hA hB ⊢;rcases kdx kd with rfl|rfl|rfl|rfl|rfl|rfl|rfl|rfl|⟨k1,k2,k3,k4,k5,k6,k7,k8⟩
  case inr.inr.inr.inr.inr.inr.inr.inr=>
   simp only[k1,k2,k3,k4,k5,k6,k7,k8,cX,dK,NP];refine hk F _ _ _ _ _ _ _ _ _ _ _ _ _ (λ_ _=>fin _ _ _ rfl rfl keep) (λh=>by rw[k2,k3]at h;exact (h.elim id id).elim) (λt' h g=>?_) t1 _;exact done v ce fu t' apA (vaA (of_eq_false k4) (of_eq_false k5) (of_eq_false k8)) (av (of_eq_false k6)).symm (av (of_eq_false k7)).symm h (g.imp id λh=>⟨h.1,λD=>(of_eq_false k2 D).elim⟩)
  all_goals simp only[cX,dK,NP]
  .refine hk F _ _ _ _ _ _ _ _ _ _ _ _ _ (λ_ _=>fin _ _ _ rfl rfl keep) (λh=>by omega) (λt' h g=>?_) t1 _;exact done v ce fu t' apA (vaA (by decide) (by decide) (by decide)) rfl rfl h (g.imp id λh=>⟨h.1,nofun⟩)
  .refine hk F _ _ _ _ _ _ _ _ _ _ _ _ _ (λh _=>(h rfl).elim) (λ_=>nopark) (λt' h g=>?_) t1 _;exact done v ce fu t' apA (vaA (by decide) (by decide) (by decide)) rfl rfl h g
  .refine hk F _ _ _ _ _ _ _ _ _ _ _ _ _ (λ_ h=>(h rfl).elim) (λ_=>nopark) (λt' h g=>?_) t1 _;exact done v ce fu t' apA (vaA (by decide) (by decide) (by decide)) rfl rfl h (g.imp id λh=>⟨h.1,nofun⟩)
  .obtain⟨o0,o1⟩:=nmce (.inl rfl);rw[<- hce]at o1;let⟨a0,a1⟩:=hA (.inl rfl);have a2:ins.2.1<(l! th.2.2.1:Int):=by rw[htz];exact a1
   refine gV (aM o0 o1 (aM o0 o1 (aj ?_)));simp only[cX,dK,NP];refine gV (aM a0 a1 (aM a0 a1 (aM a0 a2 (aM a0 a2 (aj ?_)))));refine hk F _ _ _ _ _ _ _ _ _ _ _ _ _ (λ_ _=>fin _ _ _ (b7 ..) (b7 ..) (mark (.inl rfl) _)) (λh=>by omega) (λt' h g=>?_) t1 _;exact done _ ce fu t' (apB (by decide) _) ⟨λ_=>rfl,nofun,nofun,λh=>(h rfl).elim⟩ rfl rfl h (g.imp id λh=>⟨h.1,nofun⟩)
  .obtain⟨o0,o1⟩:=nmfu (.inr rfl);rw[<- hfu]at o1;let⟨a0,a1⟩:=hA (.inr (.inl rfl));have a2:ins.2.1<(l! th.2.2.1:Int):=by rw[htz];exact a1
   refine gV (aM o0 o1 (aM o0 o1 (aj ?_)));simp only[cX,dK,NP];refine gV (aM a0 a1 (aM a0 a1 (aM a0 a2 (aM a0 a2 (aj ?_)))));refine hk F _ _ _ _ _ _ _ _ _ _ _ _ _ (λ_ _=>fin _ _ _ (b7 ..) (b7 ..) (mark (.inr rfl) _)) (λh=>by omega) (λt' h g=>?_) t1 _;exact done _ ce fu t' (apB (by decide) _) ⟨nofun,λ_=>rfl,nofun,λ_ h=>(h rfl).elim⟩ rfl rfl h (g.imp id λh=>⟨h.1,nofun⟩)
  .obtain⟨o0,o1⟩:=nmce (.inr rfl);rw[<- hce]at o1;let⟨a0,a1⟩:=hB (.inl rfl);refine gV (aM a0 a1 (aM a0 a1 (aM o0 o1 (aM o0 o1 (aj ?_)))));simp only[cX,dK,NP];refine hk F _ _ _ _ _ _ _ _ _ _ _ _ _ (λ_ _=>fin _ _ _ rfl rfl keep) (λh=>by omega) (λt' h g=>?_) t1 _;exact done _ _ fu t' (apB (by decide) _) ⟨nofun,nofun,nofun,λ_ _ _ h=>(h rfl).elim⟩ rfl rfl h (g.imp id λh=>⟨h.1,nofun⟩)
  .obtain⟨o0,o1⟩:=nmfu (.inl rfl);rw[<- hfu]at o1;let⟨a0,a1⟩:=hB (.inr rfl);refine gV (aM a0 a1 (aM a0 a1 (aM o0 o1 (aM o0 o1 (aj ?_)))));simp only[cX,dK,NP];refine hk F _ _ _ _ _ _ _ _ _ _ _ _ _ (λ_ _=>fin _ _ _ rfl rfl keep) (λh=>by omega) (λt' h g=>?_) t1 _;exact done _ ce _ t' (apB (by decide) _) ⟨nofun,nofun,nofun,λ_ _ _ _ h=>(h rfl).elim⟩ rfl rfl h (g.imp id λh=>⟨h.1,nofun⟩)
  .obtain⟨a0,a1⟩:=hA (.inr (.inr rfl));refine gV (aM a0 a1 (aM a0 a1 (aI (λ_=>aj ?_) λ_=>aj ?_)));all_goals
    simp only[cX,dK,NP];refine hk F _ _ _ _ _ _ _ _ _ _ _ _ _ (λ_ _=>fin _ _ _ rfl rfl keep) (λh=>by omega) (λt' h g=>?_) t1 _;exact done _ ce fu t' (apB (by decide) _) ⟨nofun,nofun,λ_=>(by decide),λ_ _ h=>(h rfl).elim⟩ rfl rfl h (g.imp id λh=>⟨h.1,nofun⟩)
 .refine ⟨?_,λh1 D=>(hz ⟨h1,D⟩).elim⟩;unfold SG lz mh mg aW bm bF cG ep jW mr nJ Prod.w Prod.v Prod.z cg dE wE Prod.B ck bi bQ jY aG;refine Ks hn hc hs hI (λo=>SX o (SQ i c0 L)) (λy h=>.inr (aj h)) _ λe v sy hp _ _ _ _ _=>.inl ?_
  let⟨sy0,ce,fu,l⟩:=s;have vl:=hp.fs.vc.vl;by_cases hl:l! l=N
  .have ht:¬t=(n:Int):=λh=>hz ⟨hl,h⟩
   dsimp only;cases cp (sy0,ce,fu,l) with
   |none=>rfl
   |some y=>rw[ZO,cD ht];rfl
  .show aA (cp (sy0,ce,fu,l)) _=U;rw[h0 sy0 ce fu l (by have h1:l! l=l! c0.2:=hp.fs.th;have:=hp.fs.vc.tl;have:=vl.t;omega) hl];rfl
variable {j:Nat}
def DC {W V:Type} {c0:CT} {l:Y TT} {z:R} {t1:R->η->Y η->W} {t2:W->V} {t3:V->TT->Y TT} (h3:∀A T D,t3 (t2 (t1 z A T)) D=l.set i D):KR j c0 L i a l z (KG (i:Int) t1 t2 t3):=by
 intro F p sy kd o v si ds fs ce fu A T ev fin park done ht pc;unfold KG lz aW bm bF cG ep jW mr nJ Prod.w Prod.v En bi iE bQ aG cN;dsimp only;have done:∀D,TH F (j+1) D->(l! D.2.1=0\/D.2.2.2=bl .i64 (ev+1)/\(kd=16->D.1=p))->SQ j c0 L ((sy,ce,fu,t3 (t2 (t1 z A T)) D),((i:Int),kd,o,v,si,ds,fs),J):=λD h g=>by rw[h3];exact done D h g
 by_cases h1:kd=16
 .subst h1;exact gV (gV (gB rfl (aj (gB rfl (aj (fO (aR rfl) (aj (done _ (park (.inl rfl)) (.inr ⟨rfl,λ_=>rfl⟩)))))))))
 by_cases N:kd=2
 .subst N;exact gV (gV (fO rfl (aj (gB rfl (aj (fO (aR rfl) (aj (done _ (park (.inr rfl)) (.inr ⟨rfl,nofun⟩)))))))))
 rw[cD h1,cD N];exact gV (gV (fO rfl (aj (fO rfl (aM (eM i) ht (aS (ax (fin h1 N) λy hy=>aj (fO (aR rfl) (aj (done _ hy.1 (hy.2.imp id λh=>⟨h,λN=>(h1 N).elim⟩)))))))))))
def ad7 (hn:i+1<=100000) (z:CT) (L:Y ET) (s:ST) (t u:Int) (hc:CB z) (A:SV i L s) (hI:NF z L s):SX (oh (z,s,t,u)) (SQ i z L)/\(l! s.2.2.2=4->t=0->Ok (oh (z,s,t,u)) (SQ i z L)):=by
 refine DA 4 0 hn z L s t u hc A hI WN λN ce fu l A hce hfu D=>⟨by decide,?_⟩
 obtain⟨a,b,c,d,rfl⟩:∃a b c d,l=[a,b,c,d]:=by
  rcases l with _|⟨a,_|⟨b,_|⟨c,_|⟨d,_|⟨e,l⟩⟩⟩⟩⟩;all_goals first|exact⟨_,_,_,_,rfl⟩|(simp at D;done)|(exfalso;simp only[bK]at D;omega)
 refine ⟨_,ae2 N ce fu a b c d A hce hfu,rfl,rfl,rfl,rfl,rfl,rfl,DC λR T t'=>rfl⟩
def ad6 (hn:i+1<=100000) (z:CT) (L:Y ET) (s:ST) (t u:Int) (hc:CB z) (A:SV i L s) (hI:NF z L s):SX (og (z,s,t,u)) (SQ i z L)/\(l! s.2.2.2=4->t=1->Ok (og (z,s,t,u)) (SQ i z L)):=by
 refine DA 4 1 hn z L s t u hc A hI WM λN ce fu l A hce hfu D=>⟨by decide,?_⟩
 obtain⟨a,b,c,d,rfl⟩:∃a b c d,l=[a,b,c,d]:=by
  rcases l with _|⟨a,_|⟨b,_|⟨c,_|⟨d,_|⟨e,l⟩⟩⟩⟩⟩;all_goals first|exact⟨_,_,_,_,rfl⟩|(simp at D;done)|(exfalso;simp only[bK]at D;omega)
 refine ⟨_,ae1 N ce fu a b c d A hce hfu,rfl,rfl,rfl,rfl,rfl,rfl,DC λR T t'=>rfl⟩
def ad5 (hn:i+1<=100000) (z:CT) (L:Y ET) (s:ST) (t u:Int) (hc:CB z) (A:SV i L s) (hI:NF z L s):SX (mn (z,s,t,u)) (SQ i z L)/\(l! s.2.2.2=4->t=2->Ok (mn (z,s,t,u)) (SQ i z L)):=by
 refine DA 4 2 hn z L s t u hc A hI WL λN ce fu l A hce hfu D=>⟨by decide,?_⟩
 obtain⟨a,b,c,d,rfl⟩:∃a b c d,l=[a,b,c,d]:=by
  rcases l with _|⟨a,_|⟨b,_|⟨c,_|⟨d,_|⟨e,l⟩⟩⟩⟩⟩;all_goals first|exact⟨_,_,_,_,rfl⟩|(simp at D;done)|(exfalso;simp only[bK]at D;omega)
 refine ⟨_,ae0 N ce fu a b c d A hce hfu,rfl,rfl,rfl,rfl,rfl,rfl,DC λR T t'=>rfl⟩
def ad4 (hn:i+1<=100000) (z:CT) (L:Y ET) (s:ST) (t u:Int) (hc:CB z) (A:SV i L s) (hI:NF z L s):SX (li (z,s,t,u)) (SQ i z L)/\(l! s.2.2.2=4->t=3->Ok (li (z,s,t,u)) (SQ i z L)):=by
 refine DA 4 3 hn z L s t u hc A hI WJ λN ce fu l A hce hfu D=>⟨by decide,?_⟩
 obtain⟨a,b,c,d,rfl⟩:∃a b c d,l=[a,b,c,d]:=by
  rcases l with _|⟨a,_|⟨b,_|⟨c,_|⟨d,_|⟨e,l⟩⟩⟩⟩⟩;all_goals first|exact⟨_,_,_,_,rfl⟩|(simp at D;done)|(exfalso;simp only[bK]at D;omega)
 refine ⟨_,adz N ce fu a b c d A hce hfu,rfl,rfl,rfl,rfl,rfl,rfl,DC λR T t'=>rfl⟩
def ada (hn:i+1<=100000) (z:CT) (L:Y ET) (s:ST) (t u:Int) (hc:CB z) (A:SV i L s) (hI:NF z L s):SX (kc (z,s,t,u)) (SQ i z L)/\(l! s.2.2.2=3->t=0->Ok (kc (z,s,t,u)) (SQ i z L)):=by
 refine DA 3 0 hn z L s t u hc A hI WU λN ce fu l A hce hfu D=>⟨by decide,?_⟩
 obtain⟨a,b,c,rfl⟩:∃a b c,l=[a,b,c]:=by
  rcases l with _|⟨a,_|⟨b,_|⟨c,_|⟨d,_|⟨e,l⟩⟩⟩⟩⟩;all_goals first|exact⟨_,_,_,rfl⟩|(simp at D;done)|(exfalso;simp only[bK]at D;omega)
 refine ⟨_,ae5 N ce fu a b c A hce hfu,rfl,rfl,rfl,rfl,rfl,rfl,DC λR T t'=>rfl⟩
def ad9 (hn:i+1<=100000) (z:CT) (L:Y ET) (s:ST) (t u:Int) (hc:CB z) (A:SV i L s) (hI:NF z L s):SX (iV (z,s,t,u)) (SQ i z L)/\(l! s.2.2.2=3->t=1->Ok (iV (z,s,t,u)) (SQ i z L)):=by
 refine DA 3 1 hn z L s t u hc A hI WR λN ce fu l A hce hfu D=>⟨by decide,?_⟩
 obtain⟨a,b,c,rfl⟩:∃a b c,l=[a,b,c]:=by
  rcases l with _|⟨a,_|⟨b,_|⟨c,_|⟨d,_|⟨e,l⟩⟩⟩⟩⟩;all_goals first|exact⟨_,_,_,rfl⟩|(simp at D;done)|(exfalso;simp only[bK]at D;omega)
 refine ⟨_,ae4 N ce fu a b c A hce hfu,rfl,rfl,rfl,rfl,rfl,rfl,DC λR T t'=>rfl⟩
def ad8 (hn:i+1<=100000) (z:CT) (L:Y ET) (s:ST) (t u:Int) (hc:CB z) (A:SV i L s) (hI:NF z L s):SX (ie (z,s,t,u)) (SQ i z L)/\(l! s.2.2.2=3->t=2->Ok (ie (z,s,t,u)) (SQ i z L)):=by
 refine DA 3 2 hn z L s t u hc A hI WP λN ce fu l A hce hfu D=>⟨by decide,?_⟩
 obtain⟨a,b,c,rfl⟩:∃a b c,l=[a,b,c]:=by
  rcases l with _|⟨a,_|⟨b,_|⟨c,_|⟨d,_|⟨e,l⟩⟩⟩⟩⟩;all_goals first|exact⟨_,_,_,rfl⟩|(simp at D;done)|(exfalso;simp only[bK]at D;omega)
 refine ⟨_,ae3 N ce fu a b c A hce hfu,rfl,rfl,rfl,rfl,rfl,rfl,DC λR T t'=>rfl⟩
def adc (hn:i+1<=100000) (z:CT) (L:Y ET) (s:ST) (t u:Int) (hc:CB z) (A:SV i L s) (hI:NF z L s):SX (gI (z,s,t,u)) (SQ i z L)/\(l! s.2.2.2=2->t=0->Ok (gI (z,s,t,u)) (SQ i z L)):=by
 refine DA 2 0 hn z L s t u hc A hI WY λN ce fu l A hce hfu D=>⟨by decide,?_⟩
 obtain⟨a,b,rfl⟩:∃a b,l=[a,b]:=by
  rcases l with _|⟨a,_|⟨b,_|⟨c,_|⟨d,_|⟨e,l⟩⟩⟩⟩⟩;all_goals first|exact⟨_,_,rfl⟩|(simp at D;done)|(exfalso;simp only[bK]at D;omega)
 refine ⟨_,ae7 N ce fu a b A hce hfu,rfl,rfl,rfl,rfl,rfl,rfl,DC λR T t'=>rfl⟩
def adb (hn:i+1<=100000) (z:CT) (L:Y ET) (s:ST) (t u:Int) (hc:CB z) (A:SV i L s) (hI:NF z L s):SX (gk (z,s,t,u)) (SQ i z L)/\(l! s.2.2.2=2->t=1->Ok (gk (z,s,t,u)) (SQ i z L)):=by
 refine DA 2 1 hn z L s t u hc A hI WV λN ce fu l A hce hfu D=>⟨by decide,?_⟩
 obtain⟨a,b,rfl⟩:∃a b,l=[a,b]:=by
  rcases l with _|⟨a,_|⟨b,_|⟨c,_|⟨d,_|⟨e,l⟩⟩⟩⟩⟩;all_goals first|exact⟨_,_,rfl⟩|(simp at D;done)|(exfalso;simp only[bK]at D;omega)
 refine ⟨_,ae6 N ce fu a b A hce hfu,rfl,rfl,rfl,rfl,rfl,rfl,DC λR T t'=>rfl⟩
def ade (hn:i+1<=100000) (z:CT) (L:Y ET) (s:ST) (t u:Int) (hc:CB z) (A:SV i L s) (hI:NF z L s):SX (gm (z,s,t,u)) (SQ i z L)/\(l! s.2.2.2=1->t=0->Ok (gm (z,s,t,u)) (SQ i z L)):=by
 refine DA 1 0 hn z L s t u hc A hI WZ λN ce fu l A hce hfu D=>⟨by decide,?_⟩
 obtain⟨a,rfl⟩:∃a,l=[a]:=by
  rcases l with _|⟨a,_|⟨b,_|⟨c,_|⟨d,_|⟨e,l⟩⟩⟩⟩⟩;all_goals first|exact⟨_,rfl⟩|(simp at D;done)|(exfalso;simp only[bK]at D;omega)
 refine ⟨_,ae8 N ce fu a A hce hfu,rfl,rfl,rfl,rfl,rfl,rfl,DC λR T t'=>rfl⟩
def adf {n:Nat} (hn:n+1<=100000) (c:CT) (L:Y ET) (s:ST) (t u:Int) (hc:CB c) (hs:SV n L s) (hI:NF c L s):Ok (Cj (c,s,t,u)) (SQ n c L):=by
 unfold Cj;have z:=ad7 hn c L s t u hc hs hI;have A:=ad6 hn c L s t u hc hs hI;have D:=ad5 hn c L s t u hc hs hI;have N:=ad4 hn c L s t u hc hs hI;have a30:=ada hn c L s t u hc hs hI;have a31:=ad9 hn c L s t u hc hs hI;have a32:=ad8 hn c L s t u hc hs hI;have a20:=adc hn c L s t u hc hs hI;have a21:=adb hn c L s t u hc hs hI;have a10:=ade hn c L s t u hc hs hI;by_cases hz:l! s.2.2.2<=4/\0<=t/\t<(l! s.2.2.2:Int)
 .obtain⟨h1,h2,h3⟩:=hz;have:(l! s.2.2.2=4/\t=0)\/(l! s.2.2.2=4/\t=1)\/(l! s.2.2.2=4/\t=2)\/(l! s.2.2.2=4/\t=3)\/(l! s.2.2.2=3/\t=0)\/(l! s.2.2.2=3/\t=1)\/(l! s.2.2.2=3/\t=2)\/(l! s.2.2.2=2/\t=0)\/(l! s.2.2.2=2/\t=1)\/(l! s.2.2.2=1/\t=0):=by omega
  rcases this with h|h|h|h|h|h|h|h|h|h
  .exact (z.2 h.1 h.2).orL
  .exact z.1.orR (A.2 h.1 h.2).orL
  .exact z.1.orR (A.1.orR (D.2 h.1 h.2).orL)
  .exact z.1.orR (A.1.orR (D.1.orR (N.2 h.1 h.2).orL))
  .exact z.1.orR (A.1.orR (D.1.orR (N.1.orR (a30.2 h.1 h.2).orL)))
  .exact z.1.orR (A.1.orR (D.1.orR (N.1.orR (a30.1.orR (a31.2 h.1 h.2).orL))))
  .exact z.1.orR (A.1.orR (D.1.orR (N.1.orR (a30.1.orR (a31.1.orR (a32.2 h.1 h.2).orL)))))
  .exact z.1.orR (A.1.orR (D.1.orR (N.1.orR (a30.1.orR (a31.1.orR (a32.1.orR (a20.2 h.1 h.2).orL))))))
  .exact z.1.orR (A.1.orR (D.1.orR (N.1.orR (a30.1.orR (a31.1.orR (a32.1.orR (a20.1.orR (a21.2 h.1 h.2).orL)))))))
  .exact z.1.orR (A.1.orR (D.1.orR (N.1.orR (a30.1.orR (a31.1.orR (a32.1.orR (a20.1.orR (a21.1.orR (a10.2 h.1 h.2)))))))))
 .refine Ok.orL ?_;unfold oh aW bm dE;refine Ks hn hc hs hI (λo=>Ok o (SQ n c L)) (λy h=>aj h) _ λe v sy hp _ _ _ _ _=>(hz ?_).elim
  have h1:l! s.2.2.2=l! c.2:=hp.fs.th;have h2:l! c.2=l! c.1.2.2.2.2.1:=hp.fs.vc.tl;have h3:l! c.1.2.2.2.2.1<=4:=hp.fs.vc.vl.t;have h4:0<=t:=hp.t0;have h5:t<(l! c.2:Int):=hp.t1;exact⟨by omega,h4,by omega⟩
def al0 (c:CT) (s:ST) (l:Y ν) (hc:CB c) (hs:SV 0 [] s) (hI:NF c [] s) (hl:l.length<=9223372036854775806):Ok (xW (c,s,l)) λy=>y.1.length<=400/\(∀e∈y.1,SH c.1 e/\EvS e)/\∃sy ce fu,Acw c.1 y.1 sy ce fu:=by
 unfold xW aW bm dE bM bX bQ be cQ aG cN;refine rx (λx=>((l.length:Int)-x.1).toNat) (λx=>0<=x.1/\x.2.2.1=c/\SV x.2.1.length x.2.1 x.2.2.2.1/\NF c x.2.1 x.2.2.2.1/\x.2.1.length<=400/\∀e∈x.2.1,SH c.1 e/\EvS e) ?_ ⟨dz _,rfl,hs,hI,by simp,λe he=>(by cases he)⟩;rintro⟨(i:Int),es,A,s',z⟩ ⟨N,e1,e2,eI,L,D⟩;dsimp only at N e1 e2 eI L D;subst e1;refine aU (λx=>x.2=(es,A,s',z)/\(x.1=J->i<(l.length:Int)/\es.length<400)) ?_ ?_
 .refine bL (λg=>aj ⟨rfl,λh=>⟨g,?_⟩⟩) λ_=>aj ⟨rfl,nofun⟩
  dsimp only at h;rw[pX]at h;dsimp only[ak]at h;omega
 rintro⟨b,x⟩ ⟨f1,f2⟩;dsimp only at f1 f2;subst f1;refine aN (λh=>?_) λ_=>aj ⟨L,D,_,_,_,eI.ac⟩
 let⟨g1,g2⟩:=f2 h;refine aU (λx=>x.2.1=A/\SV x.1.length x.1 x.2.2.1/\NF A x.1 x.2.2.1/\x.1.length<=400/\∀e∈x.1,SH A.1 e/\EvS e) ?_ ?_
 .refine aM N g1 (aS ?_);refine ax (adf (n:=es.length) (by omega) A es s' _ _ hc e2 eI) λy hy=>?_
  refine aN (λh=>?_) λ_=>aj ⟨rfl,e2,eI,L,D⟩
  let⟨h1,hJ,h2,h3⟩:=hy h;refine a! (aj ⟨rfl,?_,hJ,by simp;omega,λe he=>?_⟩)
  .dsimp only;rw[bc,bN];exact h1
  .rcases bA.1 he with he|he
   .exact D e he
   .rw[aB]at he;subst he;exact⟨h2,h3⟩
 rintro⟨es',c2,s2,z2⟩ ⟨k1,k2,kI,k3,k4⟩;dsimp only at k1 k2 kI k3 k4;subst k1;refine aj ?_;dsimp only;rw[iQ (n:=i+1) (by omega) (by omega)];exact⟨⟨by omega,rfl,k2,kI,k3,k4⟩,by omega⟩
def CB.vc {c:CT} (z:CB c):VC c:=by
 let⟨b,h1,A⟩:=Wu c z.th z.ins;rw[z.ok]at h1;cases h1;exact A rfl
def aqb (c:CT) (l:Y ν) (z:CB c) (N:l! l<=9223372036854775806):Ok (Bc (c,l)) λy=>TR y.1:=by
 unfold Bc;refine aT z.ok (em nofun λ_=>?_);have D:=z.vc;refine ax (Za c z.ok D) λs L=>?_
 refine ax (al0 c s l z L.1 L.2 N) λy A=>aj ?_
 exact⟨D.vl.wb,D.vl,λe he=>(A.2.1 e he).1,by have:=A.1;dsimp only;omega,λe he=>(A.2.1 e he).2,z.wx,A.2.2⟩
def Zi (l:η) (A:l! l<=1000000):Ok (pL l) λy=>l! y=l! l:=by
 unfold pL bM bX bQ be cQ aG cN;refine cm (l! l) (λi x=>x.1=(i:Int)/\l! x.2=i) ?_ ?_ ⟨rfl,rfl⟩
 .rintro i ⟨a,b⟩ hi ⟨z,e2⟩;dsimp only at z e2;subst z;refine du ?_;refine cu (aS (cu (aS (a! (aj ?_)))));dsimp only;exact⟨gQ,by simp;omega⟩
 .rintro⟨a,b⟩ ⟨z,e2⟩;dsimp only at z e2;subst z;exact dg (aj e2)
def fx (e:Xp):ef (Xp.op e,Xp.n e,Xp.name e,Xp.l e)=e:=by cases e;rfl
def AU (s:Sx):o6 (Sx.op s,Sx.line s,Sx.name s,Sx.arg s,Sx.index s,Sx.expr s,Sx.body s,Sx.els s)=s:=by cases s;rfl
abbrev NV:Y ζ:=[[97],[98],[120],[121],[118]]
def GE:Nat->Xp->Prop
 |0,_=>False
 |d+1,e=>(e.op=3->e.name=[113])/\(e.op≠1->e.op≠2->1<=l! e.l)/\l! e.l<=2/\(∀x∈e.l,GE d x)/\(e.op=2->e.name∈NV)/\(e.op≠1->e.op≠2->e.op≠3->2<=l! e.l/\6<=e.op/\e.op<=18)
def GE.mono:∀{d:Nat} {e:Xp},GE d e->GE (d+1) e
 |0,_,h=>h.elim
 |_+1,_,h=>⟨h.1,h.2.1,h.2.2.1,λx z=>(h.2.2.2.1 x z).mono,h.2.2.2.2⟩
def GE.le {e:Xp} (h:GE i e) (A:i<=j):GE j e:=by
 induction A with
 |refl=>exact h
 |step _ z=>exact z.mono
def Q7 (n:Int):sY n=Z (.mk 1 n [] []):=rfl
def J8 (s:ζ):qE s=Z (.mk 2 0 s []):=rfl
def HA (o:Int) (a b:Xp):oZ (o,a,b)=Z (.mk o 0 [] [a,b]):=by
 cases a;cases b;rfl
def vk (s:ζ) (e:Xp):j6 (s,e)=Z (.mk 1 0 s [] [] e [] []):=by
 cases e;rfl
abbrev MK:Type:=T?
abbrev St:Type:=n!
abbrev HD:Type:=Bool×Y ζ
def GE.num (n:Int) (d:Nat):GE (d+1) (.mk 1 n [] []):=⟨nofun,λh=>(h rfl).elim,by simp[Xp.l],λx z=>(by cases z),nofun,λh=>(h rfl).elim⟩
def GE.nm {s:ζ} (A:s∈NV) (d:Nat):GE (d+1) (.mk 2 0 s []):=⟨nofun,λ_ h=>(h rfl).elim,by simp[Xp.l],λx z=>(by cases z),λ_=>A,λ_ h=>(h rfl).elim⟩
def GE.bin {o b:Xp} (A:6<=a/\a<=18) (L:GE i o) (D:GE i b):GE (i+1) (.mk a 0 [] [o,b]):=
 ⟨λh=>(by have h:a=3:=h;omega),λ_ _=>by simp[Xp.l],by simp[Xp.l],λx z=>by
   simp only[Xp.l,aZ,cw,fF]at z;rcases z with rfl|rfl
   .exact L
   .exact D,λh=>(by have h:a=2:=h;omega),λ_ _ _=>⟨by simp[Xp.l],A⟩⟩
def GE.ix {a:Xp} (A:GE i a):GE (i+1) (.mk 3 0 [113] [a]):=
 ⟨λ_=>rfl,λ_ _=>by simp[Xp.l],by simp[Xp.l],λx z=>by
   simp only[Xp.l,aZ,cw,fF]at z;rw[z];exact A,nofun,λ_ _ h=>(h rfl).elim⟩
def Fo:∀(n d:Nat),d<n->d<=10->∀(m:MK) (t:St) (h:HD),TP t->Ok (iJ n ((d:Int),m,t,h)) λy=>GE (d+1) y.1/\y.2.1=m/\wA t y.2.2.1/\y.2.2.2=h
 |0,d,hd,_,_,_,_,_=>by omega
 |n+1,d,hd,h10,m,t,h,ht=>by
  rw[AF];unfold o_ aW bm cg dE dk bi bM bX jY be aG;refine ax (gy 10 t ht) λy A=>?_
  let⟨k,t1⟩:=y;let⟨L,k0,k1,_⟩:=A;have k1:=k1 (by decide);dsimp only at L k0 k1;refine aU (λx=>x.2=(m,t1,h,(0,0,[]),[[97],[98],[120],[121],[118],[120],[121]])/\(x.1=aa->2<=k/\(d=0->k<7))) ?_ ?_
  .refine bL (λ_=>aj ⟨rfl,nofun⟩) λg=>aI (λg2=>aj ⟨rfl,λg3=>⟨g,λ_=>?_⟩⟩) λg2=>aj ⟨rfl,λ_=>⟨g,λh=>(g2 (by dsimp only;omega)).elim⟩⟩
   dsimp only at g3;rw[mX]at g3;exact g3
  rintro⟨b,x⟩ ⟨e,hb⟩;dsimp only at e hb;subst e;refine aN (λ_=>?_) λg=>?_
  .refine ax (gy 4 t1 L.p) λy A=>?_
   refine aT (Q7 _) (aj ?_);exact⟨GE.num _ _,rfl,L.trans A.1,rfl⟩
  let⟨q0,q1⟩:=hb g;refine bL (λg=>?_) λg=>?_
  .refine ax (gy _ t1 L.p) λy A=>?_
   let⟨u1,N,D,_⟩:=A;have D:=D (show (1:Int)<=7 by decide);refine aM N D (aM N D (aS ?_));refine aT (J8 _) (aj ?_);have hnv:∀z∈([[97],[98],[120],[121],[118],[120],[121]]:Y ζ),z∈NV:=by decide
   exact⟨GE.nm (hnv _ (bP (T:=.str) N D)) _,rfl,L.trans u1,rfl⟩
  dsimp only at g;have hd0:d≠0:=λh=>by have:=q1 h;omega
  obtain⟨d,rfl⟩:∃k,d=k+1:=⟨d-1,by omega⟩
  refine aI (λg=>?_) λg=>?_
  .refine ax (Fo n 0 (by omega) (by omega) m t1 h L.p) λy A=>?_
   let⟨e,m',t',h'⟩:=y;let⟨v1,v2,v3,v4⟩:=A;dsimp only at v1 v2 v3 v4;subst v2 v4;refine a8 (by simp) (aj ?_);dsimp only;rw[fx];exact⟨(GE.ix (v1.le (by omega):GE (d+1) e)),rfl,L.trans v3,rfl⟩
  .refine ax (gy _ t1 L.p) λy A=>?_
   let⟨k2,t2⟩:=y;let⟨u1,N,D,_⟩:=A;have D:=D (by decide);dsimp only at u1 N D;refine aM N D (aM N D (aS ?_));have ho:(6:Int)<=geti aL [6,7,8,11,13,17] k2/\geti aL [6,7,8,11,13,17] k2<=(18:Int):=by
    have h1:=bP (T:=aL) (xs:=([6,7,8,11,13,17]:η)) N D;have:∀z:Int,z∈([6,7,8,11,13,17]:η)->6<=z/\z<=18:=by decide
    exact this _ h1
   have ew:bl .i64 (((d+1:Nat):Int)-1)=(d:Int):=by rw[iQ];omega
   dsimp only;rw[ew];refine ax (Fo n d (by omega) (by omega) m t2 h u1.p) λy A=>?_
   let⟨e,m',t',h'⟩:=y;let⟨v1,v2,v3,v4⟩:=A;dsimp only at v1 v2 v3 v4;subst v2 v4;refine a8 (by simp) ?_;refine ax (Fo n d (by omega) (by omega) m' t' h' v3.p) λy A=>?_
   let⟨e2,m2,t2',h2⟩:=y;let⟨w1,w2,w3,w4⟩:=A;dsimp only at w1 w2 w3 w4;subst w2 w4;refine a8 (by simp) ?_;refine aT (HA _ _ _) (aj ?_);dsimp only;rw[fx];exact⟨GE.bin ho v1 w1,rfl,L.trans (u1.trans (v3.trans w3)),rfl⟩
def ag6 (d:Nat) (hd:d<=10) (m:MK) (t:St) (h:HD) (ht:TP t):Ok (fo ((d:Int),m,t,h)) λy=>GE (d+1) y.1/\y.2.1=m/\wA t y.2.2.1/\y.2.2.2=h:=Fo fuel d (by rw[kP];omega) hd m t h ht
section
def NE (op:Int):Prop:=op=1\/op=2\/op=3\/op=14
def ZE (e:Xp):Prop:=GE 4 e\/e= .mk 0 0 [] []
structure NO (nT:Nat) (s:Sx):Prop where
 o0:1<=s.op
 o1:s.op<=15
 vr:s.op=1->s.index=[]->s.name∈NV
 lk:s.op=4->s.name=[109]\/s.name=[110]
 rw:s.op=5\/s.op=6->s.name=[114]
 cn:s.op=9\/s.op=10\/s.op=11->s.name=[99]
 sp:s.op=12\/s.op=13->s.name∈xH.take nT
 se:s.op=14->s.name=[102]
 ge:s.op=15->s.name=[97]/\s.arg=[102]
 el:¬s.op=2->s.els=[]
 bo:s.op=1\/9<=s.op->s.body=[]
variable {nT:Nat}
def GS (nT:Nat):Nat->Sx->Prop
 |0,_=>False
 |d+1,s=>(s.index≠[]->s.name=[113])/\l! s.index<=1/\(∀e∈s.index,GE 4 e)/\(NE s.op->GE 4 s.expr)/\ZE s.expr/\l! s.body<=8/\l! s.els<=8/\(∀x∈s.body,GS nT d x)/\(∀x∈s.els,GS nT d x)/\NO nT s
def GS.mono:∀{d:Nat} {s:Sx},GS nT d s->GS nT (d+1) s
 |0,_,h=>h.elim
 |_+1,_,⟨a,b,c,e,f,g,i,j,k,l⟩=>⟨a,b,c,e,f,g,i,λx z=>(j x z).mono,λx z=>(k x z).mono,l⟩
def GS.le {s:Sx} (h:GS nT i s) (A:i<=j):GS nT j s:=by
 induction A with
 |refl=>exact h
 |step _ z=>exact z.mono
def NO.asg {s a:ζ} {e:Xp} {i:Y Xp} (z:i=[]->s∈NV):NO nT (.mk 1 0 s a i e [] []):=by
 constructor<;>simp[Sx.op,Sx.name,Sx.index,Sx.els,Sx.body];exact λh=>by simpa using z h
def GS.asg {s:ζ} (A:s∈NV) {e:Xp} (h:GE 4 e):GS nT (i+1) (.mk 1 0 s [] [] e [] []):=
 ⟨λh=>(h rfl).elim,by simp[Sx.index],λe he=>(by cases he),λ_=>h,.inl h,by simp[Sx.body],by simp[Sx.els],λx z=>(by cases z),λx z=>(by cases z),NO.asg λ_=>A⟩
def GS.aix {d e:Xp} (hi:GE 4 d) (h:GE 4 e):GS nT (i+1) (.mk 1 0 [113] [] [d] e [] []):=
 ⟨λ_=>rfl,by simp[Sx.index],λe he=>(by simp only[Sx.index,aB]at he;rw[he];exact hi),λ_=>h,.inl h,by simp[Sx.body],by simp[Sx.els],λx z=>(by cases z),λx z=>(by cases z),NO.asg nofun⟩
def GS.we {op:Int} {s a:ζ} {e:Xp} {b l:Y Sx} (h:GE 4 e) (D:l! b<=8) (A:l! l<=8) (N:∀x∈b,GS nT i x) (L:∀x∈l,GS nT i x) (z:NO nT (.mk op 0 s a [] e b l)):GS nT (i+1) (.mk op 0 s a [] e b l):=
 ⟨λh=>(h rfl).elim,by simp[Sx.index],λe he=>(by cases he),λ_=>h,.inl h,D,A,N,L,z⟩
def GS.wo {op:Int} {s z:ζ} {b:Y Sx} (ho:4<=op/\op≠14) (L:l! b<=8) (N:∀x∈b,GS nT i x) (D:NO nT (.mk op a s z [] (.mk 0 0 [] []) b [])):GS nT (i+1) (.mk op a s z [] (.mk 0 0 [] []) b []):=
 ⟨λh=>(h rfl).elim,by simp[Sx.index],λe he=>(by cases he),λh=>(by have h:op=1\/op=2\/op=3\/op=14:=h;omega),.inr rfl,L,by simp[Sx.els],N,λx A=>(by cases A),D⟩
def QS (nT:Nat) (d:Nat) (n:Int) (t:St) (h:HD) (y:MK×St×HD×Y Sx):Prop:=(l! y.2.2.2:Int)<=max 0 n/\(∀s∈y.2.2.2,GS nT (d+1) s)/\wA t y.2.1/\y.2.2.1.2=h.2
abbrev C?:=MK×St×HD
def QT (nT:Nat) (d:Nat) (t:St) (h:HD) (y:Sx×C?):Prop:=GS nT (d+1) y.1/\wA t y.2.2.1/\y.2.2.2.2=h.2
def QB (nT:Nat) (d:Nat) (t:St) (h:HD) (y:Y Sx×C?):Prop:=l! y.1<=2/\(∀s∈y.1,GS nT (d+1) s)/\wA t y.2.2.1/\y.2.2.2.2=h.2
abbrev RS:Type:=(ν×C?)->M (MK×St×HD×Y Sx)
abbrev RT:Type:=(Int×C?)->M (Sx×C?)
abbrev RBk:Type:=((ζ×Int)×C?)->M (Y Sx×C?)
def SpS (nT:Nat) (z:RS) (d:Nat):Prop:=∀(n:Int) (m:MK) (t:St) (h:HD),n<=3->TP t->l! h.2+d<=100->Ok (z (((d:Int),n),m,t,h)) (QS nT d n t h)
def SpT (nT:Nat) (z:RT) (d:Nat):Prop:=∀(m:MK) (t:St) (h:HD),TP t->l! h.2+d<=100->Ok (z ((d:Int),m,t,h)) (QT nT d t h)
def SpB (nT:Nat) (z:RBk) (d:Nat):Prop:=∀(s:ζ) (m:MK) (t:St) (h:HD),TP t->l! h.2+1+d<=100->Ok (z ((s,(d:Int)),m,t,h)) (QB nT d t h)
def ac3 (rs:RS) (rt:RT) (rb:RBk) (d:Nat) (ht:SpT nT rt d):SpS nT (nQ rs rt rb) d:=by
 intro n m t h hn hp hh;unfold nQ aW bm bF cg dE dk bi bM bX cQ aG cN eh;refine rx (λx=>(n-x.1).toNat) (λx=>0<=x.1/\(x.1<=n\/x.1=0)/\wA t x.2.2.1/\(l! x.2.2.2.1:Int)<=x.1/\(∀s∈x.2.2.2.1,GS nT (d+1) s)/\x.2.2.2.2.2=h.2) ?_ ⟨dz _,.inr rfl,wA.refl hp,by simp,λs hs=>(by cases hs),rfl⟩;rintro⟨(i:Int),m',N,l,h'⟩ ⟨i0,i1,D,e2,L,A⟩;dsimp only at i0 i1 D e2 L A;refine aU (λx=>x.2=(m',N,l,h')/\(x.1=J->i<n)) ?_ ?_
 .refine bL (λg=>aI (λ_=>aj ⟨rfl,λ_=>g⟩) λ_=>aj ⟨rfl,λ_=>g⟩) λ_=>aj ⟨rfl,nofun⟩
 rintro⟨b,x⟩ ⟨f1,f2⟩;dsimp only at f1 f2;subst f1;refine aN (λhb=>?_) λ_=>aj ⟨by dsimp only;omega,L,D,A⟩
 have g:=f2 hb;refine ax (ht m' N h' D.p (by rw[A];exact hh)) λy hy=>?_
 let⟨s,m2,t2,h2⟩:=y;let⟨k1,k2,k3⟩:=hy;dsimp only at k1 k2 k3;refine a8 (by simp) (a! (aj ?_));dsimp only;rw[fx,AU,iQ (n:=i+1) (by omega) (by omega)];refine ⟨⟨by omega,by omega,D.trans k2,by simp;omega,λx z=>?_,k3.trans A⟩,by omega⟩;rcases bA.1 z with z|z
 .exact L x z
 .rw[aB]at z;subst z;exact k1
def ac6 (L:RS) (rt:RT) (rb:RBk) (d:Nat) (hs:SpS nT L d):SpB nT (nR L rt rb) d:=by
 intro s m t h hp hh;unfold nR aW bm cg dE bX be;refine a! ?_;refine ax (gy 2 t hp) λy D=>?_
 let⟨k,t1⟩:=y;let⟨A,N,z,_⟩:=D;have z:=z (by decide);dsimp only at A N z;have ew:bl .i64 (1+k)=1+k:=iQ;dsimp only;rw[ew];refine ax (hs (1+k) m t1 (h.1,h.2++[s]) (by omega) A.p (by simp;omega)) λy D=>?_
 let⟨m2,t2,h2,l⟩:=y;let⟨k1,k2,k3,k4⟩:=D;dsimp only at k1 k2 k3 k4;refine a8 (by simp) ?_;dsimp only;rw[k4];have el:bl .i64 ((aQ (l! (h.2++[s])))-1)=(l! h.2:Int):=by
  rw[bc,bN,iQ (by simp<;>omega) (by simp<;>omega)];simp<;>omega
 rw[el];refine cY (a? (Cg (by simp;omega) (aj ?_)));refine ⟨by dsimp only;omega,k2,A.trans k3,?_⟩;show dB (aO (l! h.2:Int)) (h.2++[s])=h.2;simp
def Fb (s:ζ) (m:MK) (t:St) (h:HD) (hh:l! h.2<=100):Ok (eT (s,m,t,h)) λy=>y.2=(m,t,h):=by
 unfold eT dE;exact ax (Ax h.2 s (by omega)) λy _=>aj rfl
def ah2 (rs:RS) (rt:RT) (rb:RBk) (d:Nat) (hd:d<=5) (h0:1<=d->SpS nT rs 0) (hS:1<=d->SpS nT rs (d-1)) (hB:1<=d->SpB nT rb (d-1)):SpT nT (o9 rs rt rb) d:=by
 intro m t h hp hh;unfold o9 aW bm bF cg dE dk bi bM bX jY aG eh;refine ax (gy 18 t hp) λy D=>?_
 let⟨k,N⟩:=y;let⟨L,k0,k1,_⟩:=D;have k1:=k1 (by decide);dsimp only at L k0 k1;have hE:∀(j:Nat) (m':MK) (t':St) (h':HD),j<=1->TP t'->Ok (fo ((j:Int),m',t',h')) λy=>GE 4 y.1/\y.2.1=m'/\wA t' y.2.2.1/\y.2.2.2=h':=λj m' t' h' hj ht'=>(ag6 j (by omega) m' t' h' ht').mono λy D=>⟨D.1.le (by omega),D.2⟩
 have ed:bl .i64 ((d:Int)-1)=(d:Int)-1:=iQ;have ed1:1<=d->(d:Int)-1=((d-1:Nat):Int):=λ_=>by omega
 refine aU (λx=>x.2=((m.1,bl .i64 (m.2.1-1),m.2.2),N,(0,0,[],[],0,0,[]),h)/\(x.1=J->1<=d)) ?_ ?_
 .refine bL (λg=>aS (bL (λ_=>aj ⟨rfl,λ_=>?_⟩) λ_=>aj ⟨rfl,nofun⟩)) λ_=>aj ⟨rfl,nofun⟩
  dsimp only at g;omega
 generalize ((m.1,bl .i64 (m.2.1-1),m.2.2):MK)=m0;rintro⟨nest,x⟩ ⟨e,hn⟩;dsimp only at e hn;subst e;refine bL (λ_=>?_) λg4=>?_
 .refine aM k0 (by dsimp only[ah];omega) (aM k0 (by dsimp only[ah];omega) (aS ?_));refine ax (hE 1 m0 N h (by omega) L.p) λy D=>?_
  let⟨e,m2,t2,h2⟩:=y;let⟨v1,v2,v3,v4⟩:=D;dsimp only at v1 v2 v3 v4;subst v2 v4;refine a8 (by simp) (aT (vk _ _) (aj ?_));dsimp only;rw[fx,AU];have hnv:∀z∈([[120],[121],[120],[118]]:Y ζ),z∈NV:=by decide
  exact⟨GS.asg (hnv _ (bP (T:=.str) k0 (by dsimp only[ah];omega))) v1,L.trans v3,rfl⟩
 dsimp only at g4;refine aI (λ_=>?_) λg5=>?_
 .refine ax (gy 2 N L.p) λy D=>?_
  let⟨u1,u2,u3,_⟩:=D;have u3:=u3 (by decide);refine aM u2 u3 (aM u2 u3 (aS ?_));refine ax (hE 1 m0 y.2 h (by omega) u1.p) λz hz=>?_
  let⟨e,m2,t2,h2⟩:=z;let⟨v1,v2,v3,v4⟩:=hz;dsimp only at v1 v2 v3 v4;subst v2 v4;refine a8 (by simp) (aT (vk _ _) (aj ?_));dsimp only;rw[fx,AU];have hnv:∀z∈([[97],[98]]:Y ζ),z∈NV:=by decide
  exact⟨GS.asg (hnv _ (bP (T:=.str) u2 u3)) v1,L.trans (u1.trans v3),rfl⟩
 dsimp only at g5;refine aI (λ_=>?_) λg6=>?_
 .refine ax (hE 0 m0 N h (by omega) L.p) λz hz=>?_
  let⟨e,m2,t2,h2⟩:=z;let⟨v1,v2,v3,v4⟩:=hz;dsimp only at v1 v2 v3 v4;subst v2 v4;refine a8 (by simp) ?_;refine ax (hE 1 m2 t2 h2 (by omega) v3.p) λz hz=>?_
  let⟨e',m3,t3,h3⟩:=z;let⟨w1,w2,w3,w4⟩:=hz;dsimp only at w1 w2 w3 w4;subst w2 w4;refine a8 (by simp) (aj ?_);dsimp only;rw[fx,fx];exact⟨GS.aix v1 w1,L.trans (v3.trans w3),rfl⟩
 dsimp only at g6;have hz:∀(c:Prop),c->c:=λ_ h=>h
 have dd:1<=d->d-1+1=d:=λ_=>by omega
 have w8:8<=k->bl .i64 (k-8)=k-8:=λ_=>iQ
 refine aU (λx=>x.2=(m0,N,(0,0,[],[],0,0,[]),h)/\(x.1=J->1<=d)) ?_ ?_
 .refine aI (λ_=>aj ⟨rfl,λg=>?_⟩) λ_=>aj ⟨rfl,nofun⟩
  dsimp only at g;rw[pX]at g;omega
 rintro⟨b,x⟩ ⟨e,hb⟩;dsimp only at e hb;subst e;refine aN (λA=>?_) λ_=>?_
 .have d1:=hb A;refine ax (hE 1 m0 N h (by omega) L.p) λz hz=>?_
  let⟨e,m2,t2,h2⟩:=z;let⟨v1,v2,v3,v4⟩:=hz;dsimp only at v1 v2 v3 v4;subst v2 v4;refine a8 (by simp) ?_;dsimp only;rw[ed,ed1 d1];refine ax (hS d1 1 m2 t2 h2 (by omega) v3.p (by omega)) λz hz=>?_
  let⟨m3,t3,h3,l⟩:=z;let⟨w1,w2,w3,w4⟩:=hz;dsimp only at w1 w2 w3 w4;rw[dd d1]at w2;refine a8 (by simp) ?_;refine aU (λx=>x.2.2.2.1=(2,0,[],[],e.op,e.n,e.name,e.l)/\wA N x.2.1/\x.2.2.2.2.1.2=h2.2/\x.2.2.2.2.2.1=l/\l! x.2.2.2.2.2.2<=8/\∀s∈x.2.2.2.2.2.2,GS nT d s) ?_ ?_
  .refine ax (gy 2 t3 w3.p) λy D=>?_
   refine aI (λ_=>?_) λ_=>aj ⟨rfl,v3.trans (w3.trans D.1),w4,rfl,by simp,λs hs=>(by cases hs)⟩
   dsimp only;refine ax (hS d1 1 m3 y.2 h3 (by omega) D.1.p (by rw[w4];omega)) λz hz=>?_
   let⟨m4,t4,h4,l2⟩:=z;let⟨x1,x2,x3,x4⟩:=hz;dsimp only at x1 x2 x3 x4;rw[dd d1]at x2;exact a8 (by simp) (aj ⟨rfl,v3.trans (w3.trans (D.1.trans x3)),x4.trans w4,rfl,by dsimp only;omega,x2⟩)
  rintro⟨m5,t5,z5,e5,h5,l5,l6⟩ ⟨x1,x2,x3,x4,x5,x6⟩;dsimp only at x1 x2 x3 x4 x5 x6;subst x1 x4;refine aj ?_;dsimp only;rw[fx];exact⟨GS.we v1 (by first|omega|(dsimp only;omega)) x5 w2 x6 (by constructor<;>simp[Sx.op,Sx.name,Sx.index,Sx.arg,Sx.els,Sx.body]),L.trans x2,x3⟩
 refine aU (λx=>x.2=(m0,N,(0,0,[],[],0,0,[]),h)/\(x.1=J->1<=d)) ?_ ?_
 .refine aI (λ_=>aj ⟨rfl,λg=>?_⟩) λ_=>aj ⟨rfl,nofun⟩
  dsimp only at g;rw[pX]at g;omega
 rintro⟨b,x⟩ ⟨e,hb⟩;dsimp only at e hb;subst e;refine aN (λA=>?_) λ_=>?_
 .have d1:=hb A;refine aT (J8 _) (aT (Q7 _) (aT (HA _ _ _) ?_));dsimp only;rw[ed,ed1 d1];refine ax (hS d1 1 _ N h (by omega) L.p (by omega)) λz hz=>?_
  let⟨m3,t3,h3,l⟩:=z;let⟨w1,w2,w3,w4⟩:=hz;dsimp only at w1 w2 w3 w4;rw[dd d1]at w2;refine a8 (by simp) ?_;refine aT (J8 _) (aT (Q7 _) (aT (HA _ _ _) (aT (vk _ _) ?_)));refine a! (aj ?_);dsimp only;rw[fx,fx,AU];refine ⟨GS.we (GE.bin (by omega) (GE.nm (by decide) 2) (GE.num _ 2)) (by simp;omega) (by simp) (λx hx=>?_) (λx hx=>(by cases hx)) (by constructor<;>simp[Sx.op,Sx.name,Sx.index,Sx.arg,Sx.els,Sx.body]),L.trans w3,w4⟩;rcases bA.1 hx with hx|hx
  .exact w2 x hx
  .rw[aB]at hx;subst hx;rw[<- dd d1];exact GS.asg (by decide) (GE.bin (by omega) (GE.nm (by decide) 2) (GE.num _ 2))
 refine aU (λx=>x.2=(m0,N,(0,0,[],[],0,0,[]),h)/\(x.1=J->nest=J/\(k=8\/k=9))) ?_ ?_
 .refine aI (λg=>aN (λgn=>?_) λ_=>aj ⟨rfl,nofun⟩) λ_=>aI (λg=>aN (λgn=>?_) λ_=>aj ⟨rfl,nofun⟩) λ_=>aj ⟨rfl,nofun⟩
  all_goals
   dsimp only at g ⊢;rw[w8 (by omega)];refine aM (by omega) (by simp;omega) (aM (by omega) (by simp;omega) (aS ?_));refine ax (Fb _ m0 N h (by omega)) λy D=>?_
   let⟨yb,y2⟩:=y;dsimp only at D;subst D;exact a8 (by simp) (aj ⟨rfl,λ_=>⟨gn,by omega⟩⟩)
 rintro⟨b,x⟩ ⟨e,hb⟩;dsimp only at e hb;subst e;refine aN (λA=>?_) λ_=>?_
 .obtain⟨q1,q2⟩:=hb A;have d1:=hn q1;have hnm:geti (.str) [[109],[110]] (k-8)=[109]\/geti (.str) [[109],[110]] (k-8)=[110]:=by rcases q2 with rfl|rfl<;>simp[geti]
  dsimp only;rw[w8 (by omega),ed,ed1 d1];refine aM (by omega) (by simp;omega) (aM (by omega) (by simp;omega) (aS ?_));refine ax (hB d1 _ m0 N h L.p (by omega)) λz hz=>?_
  let⟨l,m3,t3,h3⟩:=z;let⟨w1,w2,w3,w4⟩:=hz;dsimp only at w1 w2 w3 w4;rw[dd d1]at w2;exact a8 (by simp) (aj ⟨GS.wo (by omega) (by first|omega|(dsimp only;omega)) w2 (by constructor<;>simp[Sx.op,Sx.name,Sx.index,Sx.arg,Sx.els,Sx.body];exact hnm),L.trans w3,w4⟩)
 refine aU (λx=>x.2=(m0,N,(0,0,[],[],0,0,[]),h)/\(x.1=J->nest=J/\(k=10\/k=11))) ?_ ?_
 .refine aI (λg=>aN (λgn=>?_) λ_=>aj ⟨rfl,nofun⟩) λ_=>aI (λg=>aN (λgn=>?_) λ_=>aj ⟨rfl,nofun⟩) λ_=>aj ⟨rfl,nofun⟩
  all_goals
   dsimp only at g ⊢;refine ax (Fb _ m0 N h (by omega)) λy D=>?_
   let⟨yb,y2⟩:=y;dsimp only at D;subst D;exact a8 (by simp) (aj ⟨rfl,λ_=>⟨gn,by omega⟩⟩)
 rintro⟨b,x⟩ ⟨e,hb⟩;dsimp only at e hb;subst e;refine aN (λA=>?_) λ_=>?_
 .obtain⟨q1,q2⟩:=hb A;have d1:=hn q1;dsimp only;rw[ed,ed1 d1,iQ (n:=k-10) (by omega) (by omega),iQ (n:=k-10+5) (by omega) (by omega)];refine ax (hB d1 _ m0 N h L.p (by omega)) λz hz=>?_
  let⟨l,m3,t3,h3⟩:=z;let⟨w1,w2,w3,w4⟩:=hz;dsimp only at w1 w2 w3 w4;rw[dd d1]at w2;exact a8 (by simp) (aj ⟨GS.wo (by omega) (by first|omega|(dsimp only;omega)) w2 (by constructor<;>simp[Sx.op,Sx.name,Sx.index,Sx.arg,Sx.els,Sx.body]<;>omega),L.trans w3,w4⟩)
 refine aU (λx=>x.2=(m0,N,(0,0,[],[],0,0,[]),h)/\(x.1=J->nest=J)) ?_ ?_
 .exact aI (λ_=>aj ⟨rfl,λg=>g⟩) λ_=>aj ⟨rfl,nofun⟩
 rintro⟨b,x⟩ ⟨e,hb⟩;dsimp only at e hb;subst e;refine aN (λA=>?_) λ_=>?_
 .have d1:=hn (hb A);refine ax (gy 2 N L.p) λy D=>?_
  let⟨u1,u2,u3,_⟩:=D;have u3:=u3 (by decide);dsimp only;rw[iQ (n:=1+y.1) (by omega) (by omega)];refine ax (h0 d1 (1+y.1) _ y.2 h (by omega) u1.p (by omega)) λz hz=>?_
  let⟨m3,t3,h3,l⟩:=z;let⟨w1,w2,w3,w4⟩:=hz;dsimp only at w1 w2 w3 w4;exact a8 (by simp) (aj ⟨GS.wo (by omega) (by first|omega|(dsimp only;omega)) (λx hx=>(w2 x hx).le (by omega)) (by constructor<;>simp[Sx.op,Sx.name,Sx.index,Sx.arg,Sx.els,Sx.body]),L.trans (u1.trans w3),w4⟩)
 refine aU (λx=>x.2=(m0,N,(0,0,[],[],0,0,[]),h)/\(x.1=J->nest=J)) ?_ ?_
 .exact aI (λ_=>aN (λgn=>aj ⟨rfl,λ_=>gn⟩) λ_=>aj ⟨rfl,nofun⟩) λ_=>aj ⟨rfl,nofun⟩
 rintro⟨b,x⟩ ⟨e,hb⟩;dsimp only at e hb;subst e;refine aN (λA=>?_) λ_=>?_
 .have d1:=hn (hb A);dsimp only;rw[ed,ed1 d1];refine ax (hS d1 2 _ N h (by omega) L.p (by omega)) λz hz=>?_
  let⟨m3,t3,h3,l⟩:=z;let⟨w1,w2,w3,w4⟩:=hz;dsimp only at w1 w2 w3 w4;rw[dd d1]at w2;exact a8 (by simp) (aj ⟨GS.wo (by omega) (by first|omega|(dsimp only;omega)) w2 (by constructor<;>simp[Sx.op,Sx.name,Sx.index,Sx.arg,Sx.els,Sx.body]),L.trans w3,w4⟩)
 refine aU (λx=>x.2=(m0,N,(0,0,[],[],0,0,[]),h)/\(x.1=J->nest=J)) ?_ ?_
 .refine aI (λ_=>aN (λgn=>aN (λ_=>?_) λ_=>aj ⟨rfl,nofun⟩) λ_=>aj ⟨rfl,nofun⟩) λ_=>aj ⟨rfl,nofun⟩
  refine ax (Fb _ m0 N h (by omega)) λy D=>?_
  let⟨yb,y2⟩:=y;dsimp only at D;subst D;exact a8 (by simp) (aj ⟨rfl,λ_=>gn⟩)
 rintro⟨b,x⟩ ⟨e,hb⟩;dsimp only at e hb;subst e;refine aN (λA=>?_) λ_=>?_
 .have d1:=hn (hb A);refine aT (J8 _) (aT (vk _ _) (aj ?_));dsimp only;rw[fx,AU];refine ⟨GS.wo (by omega) (by simp) (λx hx=>?_) (by constructor<;>simp[Sx.op,Sx.name,Sx.index,Sx.arg,Sx.els,Sx.body]),L,rfl⟩;simp only[aZ,cw,fF]at hx;rw[<- dd d1];rcases hx with rfl|rfl
  .exact GS.wo (by omega) (by simp) (λx hx=>(by cases hx)) (by constructor<;>simp[Sx.op,Sx.name,Sx.index,Sx.arg,Sx.els,Sx.body])
  .exact GS.asg (by decide) (GE.nm (by decide) 3)
 refine aU (λx=>x.2=(m0,N,(0,0,[],[],0,0,[]),h)/\(x.1=J->nest=J)) ?_ ?_
 .refine aI (λ_=>aN (λgn=>?_) λ_=>aj ⟨rfl,nofun⟩) λ_=>aj ⟨rfl,nofun⟩
  refine ax (Fb _ m0 N h (by omega)) λy D=>?_
  let⟨yb,y2⟩:=y;dsimp only at D;subst D;exact a8 (by simp) (aj ⟨rfl,λ_=>gn⟩)
 rintro⟨b,x⟩ ⟨e,hb⟩;dsimp only at e hb;subst e;refine aN (λA=>?_) λ_=>?_
 .have d1:=hn (hb A);refine ax (gy 2 N L.p) λy D=>aj ?_
  let⟨u1,u2,u3,_⟩:=D;have u3:=u3 (by decide);dsimp only;rw[iQ (n:=10+y.1) (by omega) (by omega)];refine ⟨GS.wo (by omega) (by simp) (λx hx=>?_) (by constructor<;>simp[Sx.op,Sx.name,Sx.index,Sx.arg,Sx.els,Sx.body]),L.trans u1,rfl⟩;simp only[aZ,cw,fF]at hx;rw[hx,<-dd d1];exact GS.wo (by omega) (by simp) (λx hx=>(by cases hx)) (by constructor<;>simp[Sx.op,Sx.name,Sx.index,Sx.arg,Sx.els,Sx.body]<;>omega)
 refine aU (λx=>x.2=(m0,N,(0,0,[],[],0,0,[]),h)) ?_ ?_
 .exact aI (λ_=>aN (λ_=>aN (λ_=>aj rfl) λ_=>aj rfl) λ_=>aj rfl) λ_=>aj rfl
 rintro⟨b,x⟩ e;dsimp only at e;subst e;refine aN (λA=>?_) λ_=>?_
 .refine ax (hE 1 _ N h (by omega) L.p) λz hz=>?_
  let⟨e,m2,t2,h2⟩:=z;let⟨v1,v2,v3,v4⟩:=hz;dsimp only at v1 v2 v3 v4;subst v2 v4;refine a8 (by simp) (aj ?_);dsimp only;rw[fx];exact⟨GS.we v1 (by simp) (by simp) (λx hx=>(by cases hx)) (λx hx=>(by cases hx)) (by constructor<;>simp[Sx.op,Sx.name,Sx.index,Sx.arg,Sx.els,Sx.body]),L.trans v3,rfl⟩
 refine aU (λx=>x.2.1=m0/\wA N x.2.2.1/\x.2.2.2.2=h) ?_ ?_
 .refine aI (λ_=>aN (λ_=>?_) λ_=>aj ⟨rfl,wA.refl L.p,rfl⟩) λ_=>aj ⟨rfl,wA.refl L.p,rfl⟩
  exact ax (gy 2 N L.p) λy D=>aj ⟨rfl,D.1,rfl⟩
 rintro⟨b,m9,t9,z9,h9⟩ ⟨e1,e2,e3⟩;dsimp only at e1 e2 e3;subst e1 e3;refine aN (λA=>?_) λ_=>?_
 .exact aj ⟨GS.wo (by omega) (by simp) (λx hx=>(by cases hx)) (by constructor<;>simp[Sx.op,Sx.name,Sx.index,Sx.arg,Sx.els,Sx.body]),L.trans e2,rfl⟩
 refine ax (hE 1 _ t9 h9 (by omega) e2.p) λz hz=>?_
 let⟨e,m2,t2,h2⟩:=z;let⟨v1,v2,v3,v4⟩:=hz;dsimp only at v1 v2 v3 v4;subst v2 v4;refine a8 (by simp) (aT (vk _ _) (aj ?_));dsimp only;rw[fx,AU];exact⟨GS.asg (by decide) v1,L.trans (e2.trans v3),rfl⟩
def PR:∀(n:Nat),(∀d:Nat,d<=5->3*d+1<=n->SpT nT (eJ n) d)/\(∀d:Nat,d<=5->3*d+2<=n->SpS nT (dN n) d)/\(∀d:Nat,d<=5->3*d+3<=n->SpB nT (dZ n) d)
 |0=>⟨λd _ h=>by omega,λd _ h=>by omega,λd _ h=>by omega⟩
 |n+1=>by
  let⟨D,z,L⟩:=PR n;refine ⟨λd h1 A=>?_,λd h1 A=>?_,λd h1 A=>?_⟩
  .exact ah2 (dN n) (eJ n) (dZ n) d h1 (λh=>z 0 (by omega) (by omega)) (λh=>z (d-1) (by omega) (by omega)) (λh=>L (d-1) (by omega) (by omega))
  .exact ac3 (dN n) (eJ n) (dZ n) d (D d h1 (by omega))
  .exact ac6 (dN n) (eJ n) (dZ n) d (z d h1 (by omega))
def abj (d:Nat) (hd:d<=5):SpS nT rN d:=(PR fuel).2.1 d hd (by rw[kP];omega)
end
def GX:Nat->Xp->Prop
 |0,_=>False
 |d+1,e=>l! e.l<=2/\∀x∈e.l,GX d x
def GE.x:∀{d:Nat} {e:Xp},GE d e->GX d e
 |0,_,h=>h.elim
 |_+1,_,h=>⟨h.2.2.1,λx z=>(h.2.2.2.1 x z).x⟩
def ZE.x {e:Xp} (h:ZE e):GX 4 e:=by
 rcases h with h|rfl
 .exact h.x
 .exact⟨by simp[Xp.l],λx z=>(by cases z)⟩
def GT:Nat->Sx->Prop
 |0,_=>False
 |d+1,s=>l! s.index<=1/\(∀e∈s.index,GX 4 e)/\GX 4 s.expr/\l! s.body<=8/\l! s.els<=8/\(∀x∈s.body,GT d x)/\(∀x∈s.els,GT d x)
def GS.t {nT:Nat}:∀{d:Nat} {s:Sx},GS nT d s->GT d s
 |0,_,h=>h.elim
 |_+1,_,⟨_,b,c,_,f,g,i,j,k,_⟩=>⟨b,λe he=>(c e he).x,f.x,g,i,λx z=>(j x z).t,λx z=>(k x z).t⟩
def Ab (s:Sx):o6 (Sx.op s,Sx.line s,Sx.name s,Sx.arg s,Sx.index s,ef (Xp.op (Sx.expr s),Xp.n (Sx.expr s),Xp.name (Sx.expr s),Xp.l (Sx.expr s)),Sx.body s,Sx.els s)=s:=by
 rw[fx,AU]
def Wx (k:Int):Ok (ny k) λ_=>True:=by
 unfold ny bi j_ aG;with_reducible repeat' first|apply OS.ok;constructor|refine IM.mk λ_=>?_
 all_goals trivial
def sg (e:Xp):Ok (qC e) λ_=>True:=by
 unfold qC bi aG;with_reducible repeat' first|apply OS.ok;constructor|refine IM.mk λ_=>?_
 all_goals trivial
def Bw:∀(n d:Nat) (e:Xp),d<n->GX d e->Ok (ij n e) λ_=>True
 |0,_,_,h,_=>by omega
 |n+1,0,_,_,h=>h.elim
 |n+1,d+1,e,hn,h=>by
  let⟨h1,N⟩:=h;rw[tW];unfold mY bi bM iE bQ cQ aG cN;refine aU (λx=>x.2=e) (aI (λ_=>aj (fx e)) λ_=>aj (fx e)) ?_;rintro⟨b,x⟩ L;dsimp only at L;subst L;refine aU (λy=>y.2=x) ?_ ?_
  .refine ax (Wx _) λ_ _=>?_
   with_reducible repeat' first|refine ch (λ_=>?_) λ_=>?_|refine bL (λ_=>?_) λ_=>?_|refine em (λ_=>?_) λ_=>?_|refine aN (λ_=>?_) λ_=>?_|exact aj (fx x)|refine ax (iM _) λ_ _=>?_
  rintro⟨b2,y⟩ D;dsimp only at D;subst D;refine aN (λ_=>aj trivial) λ_=>?_
  refine cm (l! y.l) (λi x=>x.1=(i:Int)/\x.2=y) ?_ ?_ ⟨rfl,fx y⟩
  .rintro i ⟨a,z⟩ hi ⟨A,e2⟩;dsimp only at A e2;subst A e2;refine du ?_;refine cu (aS ?_);refine ax (Bw n d _ (by omega) (N _ (bP (T:=.ex) (xs:=z.l) (j:=(i:Int)) (by omega) (by omega)))) λ_ _=>?_
   refine em (λ_=>aj trivial) λ_=>aj ?_
   dsimp only;exact⟨gQ,fx z⟩
  .rintro⟨a,z⟩ ⟨A,e2⟩;dsimp only at A e2;subst A e2;exact dg (aj trivial)
def gx (e:Xp) (h:GX 4 e):Ok (jF e) λ_=>True:=Bw fuel 4 e (by rw[kP];omega) h
abbrev T!:=Int×Int×ζ×Int×Int×ζ
def NQ (d:T!):Ok (kW d) λ_=>True:=by
 unfold kW aW bm cG ip bi bM iE aG;refine aU (λ_=>True) ?_ λx _=>aN (λ_=>aj trivial) λ_=>?_
 .with_reducible repeat' first|refine ch (λ_=>?_) λ_=>?_|refine bL (λ_=>?_) λ_=>?_|refine em (λ_=>?_) λ_=>?_|exact aj trivial|refine ax (iM _) λ_ _=>?_
 refine aU (λ_=>True) ?_ λx _=>aN (λ_=>aj trivial) λ_=>?_
 .with_reducible repeat' first|refine ch (λ_=>?_) λ_=>?_|refine aI (λ_=>?_) λ_=>?_|refine em (λ_=>?_) λ_=>?_|exact aj trivial|refine ax (iM _) λ_ _=>?_
 with_reducible repeat' first|apply OS.ok;constructor|refine IM.mk λ_=>?_
 all_goals trivial
def Ju (z:Sx->M Bool) (A:Y Sx->M Bool) (l:Y Sx) (D:l! l<=1000) (h:∀s∈l,Ok (z s) λ_=>True):Ok (kr z A l) λ_=>True:=by
 unfold kr bM nh be cQ aG cN;refine cm (l! l) (λi x=>x=(i:Int)) ?_ ?_ rfl
 .rintro i x hi rfl;refine du ?_;refine cu ?_;refine ax (h _ (bP (T:=.sm) (xs:=l) (j:=(i:Int)) (by omega) (by omega))) λ_ _=>?_
  exact em (λ_=>aj trivial) λ_=>aj gQ
 .rintro x rfl;exact dg (aj trivial)
def LW (D:Sx->M Bool) (A:Y Sx->M Bool) (s:Sx) (h1:∀e∈s.index,GX 4 e) (N:GX 4 s.expr) (L:Ok (A s.body) λ_=>True) (he:Ok (A s.els) λ_=>True):Ok (kY D A s) λ_=>True:=by
 unfold kY bi bM j_ iE bQ aG eh;refine aU (λx=>x.2=s) ?_ ?_
 .with_reducible repeat' first|refine ch (λ_=>?_) λ_=>?_|refine aI (λ_=>?_) λ_=>?_|refine bL (λ_=>?_) λ_=>?_|refine fc (λ_=>?_) λ_=>?_|refine em (λ_=>?_) λ_=>?_|refine aN (λ_=>?_) λ_=>?_|exact aj (Ab _)|refine ax (iM _) λ_ _=>?_|refine ax (sg _) λ_ _=>?_|refine ax (gx _ h2x) λ_ _=>?_
 rintro⟨b,x⟩ z;dsimp only at z;have z:=z.symm;subst z;refine aN (λ_=>aj trivial) λ_=>?_
 refine aU (λx=>x.2=s) ?_ ?_
 .with_reducible repeat' first|refine ch (λ_=>?_) λ_=>?_|refine aI (λ_=>?_) λ_=>?_|refine bL (λ_=>?_) λ_=>?_|refine fc (λ_=>?_) λ_=>?_|refine em (λ_=>?_) λ_=>?_|refine aN (λ_=>?_) λ_=>?_|exact aj (Ab _)|refine ax (iM _) λ_ _=>?_|refine ax (sg _) λ_ _=>?_|refine ax (gx _ h2x) λ_ _=>?_
 rintro⟨b,x⟩ z;dsimp only at z;have z:=z.symm;subst z;refine aU (λx=>x.2=s) ?_ ?_
 .with_reducible repeat' first|refine ch (λ_=>?_) λ_=>?_|refine aI (λ_=>?_) λ_=>?_|refine bL (λ_=>?_) λ_=>?_|refine fc (λ_=>?_) λ_=>?_|refine em (λ_=>?_) λ_=>?_|refine aN (λ_=>?_) λ_=>?_|exact aj (Ab _)|refine ax (iM _) λ_ _=>?_|refine ax (sg _) λ_ _=>?_|refine ax (gx _ h2x) λ_ _=>?_
 rintro⟨b,x⟩ z;dsimp only at z;have z:=z.symm;subst z;refine aN (λ_=>aj trivial) λ_=>?_
 refine aU (λx=>x.2=s) ?_ ?_
 .with_reducible repeat' first|refine ch (λ_=>?_) λ_=>?_|refine aI (λ_=>?_) λ_=>?_|refine bL (λ_=>?_) λ_=>?_|refine fc (λ_=>?_) λ_=>?_|refine em (λ_=>?_) λ_=>?_|refine aN (λ_=>?_) λ_=>?_|exact aj (Ab _)|refine ax (iM _) λ_ _=>?_|refine ax (sg _) λ_ _=>?_|refine ax (gx _ h2x) λ_ _=>?_
 rintro⟨b,x⟩ z;dsimp only at z;have z:=z.symm;subst z;refine aN (λ_=>aj trivial) λ_=>?_
 refine aU (λx=>x.2=s) ?_ ?_
 .with_reducible repeat' first|refine ch (λ_=>?_) λ_=>?_|refine aI (λ_=>?_) λ_=>?_|refine bL (λ_=>?_) λ_=>?_|refine fc (λ_=>?_) λ_=>?_|refine em (λ_=>?_) λ_=>?_|refine aN (λ_=>?_) λ_=>?_|exact aj (Ab _)|refine ax (iM _) λ_ _=>?_|refine ax (sg _) λ_ _=>?_|refine ax (gx _ h2x) λ_ _=>?_
  all_goals
   rename_i g;dsimp only[ak]at g;refine cu (aS ?_);refine ax (gx _ (h1 _ (bP (T:=.ex) (xs:=Sx.index _) (j:=0) (by omega) (by omega)))) λ_ _=>aj (Ab _)
 rintro⟨b,x⟩ z;dsimp only at z;have z:=z.symm;subst z;refine aN (λ_=>aj trivial) λ_=>?_
 refine aU (λx=>x.2=s) ?_ ?_
 .with_reducible repeat' first|refine ch (λ_=>?_) λ_=>?_|refine aI (λ_=>?_) λ_=>?_|refine bL (λ_=>?_) λ_=>?_|refine fc (λ_=>?_) λ_=>?_|refine em (λ_=>?_) λ_=>?_|refine aN (λ_=>?_) λ_=>?_|exact aj (Ab _)|refine ax (iM _) λ_ _=>?_|refine ax (sg _) λ_ _=>?_|refine ax (gx _ h2x) λ_ _=>?_
 rintro⟨b,x⟩ z;dsimp only at z;have z:=z.symm;subst z;refine aU (λx=>x.2=s) ?_ ?_
 .have h2x:GX 4 (ef (Xp.op (Sx.expr s),Xp.n (Sx.expr s),Xp.name (Sx.expr s),Xp.l (Sx.expr s))):=by rw[fx];exact N
  with_reducible repeat' first|refine ch (λ_=>?_) λ_=>?_|refine aI (λ_=>?_) λ_=>?_|refine bL (λ_=>?_) λ_=>?_|refine fc (λ_=>?_) λ_=>?_|refine em (λ_=>?_) λ_=>?_|refine aN (λ_=>?_) λ_=>?_|exact aj (Ab _)|refine ax (iM _) λ_ _=>?_|refine ax (sg _) λ_ _=>?_|refine ax (gx _ h2x) λ_ _=>?_
 rintro⟨b,x⟩ z;dsimp only at z;have z:=z.symm;subst z;refine aN (λ_=>aj trivial) λ_=>?_
 refine aU (λx=>x.2=s) ?_ ?_
 .with_reducible repeat' first|refine ch (λ_=>?_) λ_=>?_|refine aI (λ_=>?_) λ_=>?_|refine bL (λ_=>?_) λ_=>?_|refine fc (λ_=>?_) λ_=>?_|refine em (λ_=>?_) λ_=>?_|refine aN (λ_=>?_) λ_=>?_|exact aj (Ab _)|refine ax (iM _) λ_ _=>?_|refine ax (sg _) λ_ _=>?_|refine ax (gx _ h2x) λ_ _=>?_
 rintro⟨b,x⟩ z;dsimp only at z;have z:=z.symm;subst z;refine aU (λx=>x.2=s) ?_ ?_
 .with_reducible repeat' first|refine ch (λ_=>?_) λ_=>?_|refine aI (λ_=>?_) λ_=>?_|refine bL (λ_=>?_) λ_=>?_|refine fc (λ_=>?_) λ_=>?_|refine em (λ_=>?_) λ_=>?_|refine aN (λ_=>?_) λ_=>?_|exact aj (Ab _)|refine ax (iM _) λ_ _=>?_|refine ax (sg _) λ_ _=>?_|refine ax (gx _ h2x) λ_ _=>?_
 rintro⟨b,x⟩ z;dsimp only at z;have z:=z.symm;subst z;refine aN (λ_=>aj trivial) λ_=>?_
 refine aU (λ_=>True) ?_ λ_ _=>aj trivial
 refine ax L λ_ _=>aN (λ_=>ax he λ_ _=>aj trivial) λ_=>aj trivial
def L7:∀(n:Nat),(∀(d:Nat) (s:Sx),2*d<n->GT d s->Ok (eE n s) λ_=>True)/\(∀(d:Nat) (l:Y Sx),2*d+1<n->l! l<=1000->(∀s∈l,GT d s)->Ok (dJ n l) λ_=>True)
 |0=>⟨λd _ h=>by omega,λd _ h=>by omega⟩
 |n+1=>by
  let⟨L,z⟩:=L7 n;refine ⟨λd s hd h=>?_,λd l hd D h=>?_⟩
  .cases d with
   |zero=>exact h.elim
   |succ d=>
    let⟨_,g2,g3,g4,g5,g6,N⟩:=h;exact LW (eE n) (dJ n) s g2 g3 (z d _ (by omega) (by omega) g6) (z d _ (by omega) (by omega) N)
  .exact Ju (eE n) (dJ n) l D λs A=>L d s (by omega) (h s A)
def No (d:Nat) (hd:d<=100) (l:Y Sx) (z:l! l<=1000) (h:∀s∈l,GT d s):Ok (oY l) λ_=>True:=(L7 fuel).2 d l (by rw[kP];omega) z h
abbrev DT:Type:=T!
abbrev HT:Type:=ζ×Int×Y ζ×Y Sx
abbrev PG:Type:=Y DT×Y HT
structure PX (p:PG):Prop where
 d:l! p.1<=100
 t:l! p.2<=8
 l:∀t∈p.2,l! t.2.2.1<=100
 b:∀t∈p.2,l! t.2.2.2<=100
 s:∀t∈p.2,∀s∈t.2.2.2,GT 5 s
def adg (p:PG) (h:PX p):Ok (qP p) λ_=>True:=by
 let⟨hd,ht,hl,hb,hs⟩:=h;unfold qP aW bF dk bM bQ be cQ aG cN;refine cm (l! p.1) (λi x=>x.1=(i:Int)/\x.2=p) ?_ ?_ ⟨rfl,rfl⟩
 .rintro i ⟨a,x⟩ hi ⟨A,e2⟩;dsimp only at A e2;subst A e2;refine du ?_;refine cu (aS ?_);refine ax (NQ _) λ_ _=>?_
  exact em (λ_=>aj trivial) λ_=>aj ⟨gQ,rfl⟩
 rintro⟨a,x⟩ ⟨A,e2⟩;dsimp only at A e2;subst A e2;refine dg ?_;refine ax (P:=λ_=>True) ?_ λ_ _=>aj trivial
 refine cm (l! x.2) (λi y=>y.1=(i:Int)/\y.2=x) ?_ ?_ ⟨rfl,rfl⟩
 .rintro i ⟨a,x⟩ hi ⟨A,e2⟩;dsimp only at A e2;subst A;have e2:=e2.symm;subst e2;refine du ?_;refine cu (aS ?_);have hm:=bP (T:=uw) (xs:=x.2) (j:=(i:Int)) (by omega) (by omega);have h1:=hl _ hm;have h2:=hb _ hm;have N:=hs _ hm;revert h1 h2 N;generalize (geti uw x.2 (i:Int))=t;intro h1 h2 N;refine cm (l! t.2.2.1) (λk y=>y.1=(k:Int)/\y.2=(x,t)) ?_ ?_ ⟨rfl,rfl⟩
  .rintro k ⟨a,z⟩ hk ⟨L,D⟩;dsimp only at L D;subst L D;refine du ?_;refine cu (aS ?_);refine ax (iM _) λ_ _=>?_
   exact em (λ_=>aj trivial) λ_=>aj ⟨gQ,rfl⟩
  .rintro⟨a,z⟩ ⟨L,D⟩;dsimp only at L D;subst L D;refine dg ?_;refine ax (P:=λr=>match r with|.inl y=>y.1=((i+1:Nat):Int)/\y.2=x|.inr _=>True) ?_ ?_
   .refine aU (λy=>y.2=x) ?_ ?_
    .refine ax (iM _) λ_ _=>em (λ_=>aj rfl) λ_=>?_
     exact ax (No 5 (by omega) _ (by dsimp only;omega) N) λ_ _=>aj rfl
    rintro⟨b,y⟩ e;dsimp only at e;subst e;exact aN (λ_=>aj trivial) λ_=>aj ⟨gQ,rfl⟩
   .rintro (y|y) hy
    .exact aj hy
    .exact aj trivial
 .rintro⟨a,y⟩ ⟨A,e2⟩;dsimp only at A e2;subst A e2;exact dg (aj trivial)
def yN (l:Y DT) (s:ζ) (z:l! l<=1000):Ok (ii (l,s)) λr=> -1<=r/\r<(l! l:Int):=by
 unfold ii bM bQ be cQ aG cN;refine cm (l! l) (λi x=>x=(i:Int)) ?_ ?_ rfl
 .rintro i x hi rfl;refine du ?_;refine cu (aS ?_);exact aI (λ_=>aj ⟨by omega,by omega⟩) λ_=>aj gQ
 .rintro x rfl;exact dg (aj ⟨by omega,by omega⟩)
def t_ (l:Y HT) (s:ζ) (z:l! l<=1000):Ok (gU (l,s)) λr=> -1<=r/\r<(l! l:Int):=by
 unfold gU bM bQ be cQ aG cN;refine cm (l! l) (λi x=>x=(i:Int)) ?_ ?_ rfl
 .rintro i x hi rfl;refine du ?_;refine cu (aS ?_);exact aI (λ_=>aj ⟨by omega,by omega⟩) λ_=>aj gQ
 .rintro x rfl;exact dg (aj ⟨by omega,by omega⟩)
def DD (p:PG) (s:ζ):Prop:=∃v,ii (p.1,s)=Z v/\0<=v/\v<(l! p.1:Int)
def adv (p:PG) (h:PX p) (t:Int) (s:ζ):Ok (qO (p,t,s)) λk=>k≠0->k≠7->k≠8->DD p s:=by
 have hd:=h.d;have ht:=h.t;unfold qO bi bM j_ iE nh bQ be aG;refine aU (λx=>x.2=p) ?_ ?_
 .refine fc (λL=>bL (λD=>?_) λ_=>aj rfl) λ_=>aj rfl
  dsimp only[ak]at L D;refine aM L D (aS ?_);have hm:=h.l _ (bP (T:=uw) (xs:=p.2) (j:=t) L D);exact ax (Ax _ s (c4 hm (by omega))) λ_ _=>aj rfl
 rintro⟨b,x⟩ e;dsimp only at e;have e:=e.symm;subst e;refine aN (λ_=>aj λ_ _ h=>(h rfl).elim) λ_=>?_
 let⟨v,N,v0,A⟩:=yN p.1 s (by omega);refine aT N ?_;refine bL (λ_=>?_) λg=>?_
 .exact ax (t_ p.2 s (by omega)) λ_ _=>fc (λ_=>aj λ_ h=>(h rfl).elim) λ_=>aj λh=>(h rfl).elim
 have z:DD p s:=⟨v,N,g,A⟩
 refine aM g A (aS ?_);refine aI (λ_=>?_) λ_=>?_
 .exact aM g A (aS (ch (λ_=>aj λ_ _ _=>z) λ_=>aj λ_ _ _=>z))
 refine aI (λ_=>aj λ_ _ _=>z) λ_=>?_
 refine aU (λx=>x.2=p) (aI (λ_=>aj rfl) λ_=>aI (λ_=>aj rfl) λ_=>aI (λ_=>aj rfl) λ_=>aj rfl) ?_;rintro⟨b,x⟩ e;dsimp only at e;have e:=e.symm;subst e;exact aN (λ_=>aM g A (aS (aj λ_ _ _=>z))) λ_=>aj λ_ _ _=>z
def pU (p:PG) (h:PX p) (t:Int) (s:ζ) (a b:Int):Ok (gJ (p,t,s,a,b)) λr=>r=0->(a≠7/\a≠8)->(b≠7/\b≠8)->DD p s:=by
 unfold gJ aW bm dE bi iE aG;refine ax (adv p h t s) λk A=>?_
 refine aI (λ_=>aj nofun) λg=>?_
 refine aU (λx=>x=aa->k=a\/k=b) ?_ ?_
 .refine ch (λ_=>aj λh=>?_) λh=>aj λ_=>.inl h
  simp at h;exact .inr h
 rintro x z;refine aN (λ_=>aj nofun) λh=>aj λ_ h1 D=>A g ?_ ?_
 .rcases z h with h|h<;>omega
 .rcases z h with h|h<;>omega
def PW:∀(n d:Nat) (e:Xp),d<n->GX d e->Ok (oI n e) λ_=>True
 |0,_,_,h,_=>by omega
 |n+1,0,_,_,h=>h.elim
 |n+1,d+1,e,L,h=>by
  let⟨h1,D⟩:=h;rw[Aj];unfold vT bM bQ cQ aG cN;refine cm (l! e.l) (λi x=>x.1.2.2=(i:Int)/\x.2=e) ?_ ?_ ⟨rfl,fx e⟩
  .rintro i ⟨⟨a,b,c⟩,z⟩ hi ⟨A,e2⟩;dsimp only at A e2;subst A e2;refine du ?_;refine cu (aS ?_);refine ax (PW n d _ (by omega) (D _ (bP (T:=.ex) (xs:=z.l) (j:=(i:Int)) (by omega) (by omega)))) λ_ _=>aj ?_
   exact⟨gQ,fx z⟩
  .rintro⟨⟨a,b,c⟩,z⟩ ⟨A,e2⟩;dsimp only at A e2;subst A e2;exact dg (aj trivial)
def Ih (p:PG) (hp:PX p) (t:Int):∀(n d:Nat) (e:Xp),d<n->GX d e->Ok (oH n (p,t,e)) λ_=>True
 |0,_,_,h,_=>by omega
 |n+1,0,_,_,h=>h.elim
 |n+1,d+1,e,hn,h=>by
  let⟨h1,h2⟩:=h;rw[Ai];unfold vS bi bM bQ cQ aG cN;refine aU (λx=>x.2.1=p/\x.2.2=e) ?_ ?_
  .refine aI (λ_=>ax (pU p hp t _ _ _) λ_ _=>aj ⟨rfl,fx e⟩) λ_=>aI (λ_=>ax (pU p hp t _ _ _) λ_ _=>aj ⟨rfl,fx e⟩) λ_=>aj ⟨rfl,fx e⟩
  rintro⟨r,D,e'⟩ ⟨A,z⟩;dsimp only at A z;have A:=A.symm;subst A;have z:=z.symm;subst z;refine rx (λx=>((l! e.l:Int)-x.1.2).toNat) (λx=>0<=x.1.2/\x.2.1=p/\x.2.2=e) ?_ ⟨dz _,rfl,fx e⟩;rintro⟨⟨a,(b:Int)⟩,D,e'⟩ ⟨b0,A,z⟩;dsimp only at b0 A z;have A:=A.symm;subst A;have z:=z.symm;subst z;refine aU (λx=>x.2.1=p/\x.2.2=e/\(x.1=J->b<(l! e.l:Int))) ?_ ?_
  .exact bL (λg=>aj ⟨rfl,fx e,λ_=>g⟩) λ_=>aj ⟨rfl,fx e,nofun⟩
  rintro⟨c,D,e'⟩ ⟨A,z,L⟩;dsimp only at A z L;have A:=A.symm;subst A;have z:=z.symm;subst z;refine aN (λN=>?_) λ_=>aj trivial
  have g:=L N;refine aM b0 g (aS ?_);refine ax (Ih p hp t n d _ (by omega) (h2 _ (bP (T:=.ex) (xs:=e.l) (j:=b) b0 g))) λ_ _=>aj ?_
  dsimp only;rw[iQ (n:=b+1) (by omega) (by omega)];exact⟨⟨by omega,rfl,fx e⟩,by omega⟩
def yM (p:PG) (hp:PX p) (t:Int) (e:Xp) (h:GX 4 e):Ok (nv (p,t,e)) λ_=>True:=by
 unfold nv bM aG;have D:GX 4 (ef (Xp.op e,Xp.n e,Xp.name e,Xp.l e)):=by rw[fx];exact h
 refine ax (gx _ D) λ_ _=>em (λ_=>aj trivial) λ_=>?_
 refine ax (PW fuel 4 _ (by rw[kP];omega) D) λ_ _=>?_
 refine aU (λx=>x.2.1=p/\x.2.2=e) (bL (λ_=>aj ⟨rfl,fx e⟩) λ_=>aj ⟨rfl,fx e⟩) ?_;rintro⟨r,L,e'⟩ ⟨A,z⟩;dsimp only at A z;have A:=A.symm;subst A;have z:=z.symm;subst z;exact aN (λ_=>aj trivial) λ_=>ax (Ih p hp t fuel 4 _ (by rw[kP];omega) D) λ_ _=>aj trivial
def fH (b:Bool):Ok (c9 b) λ_=>True:=by
 unfold c9;exact aN (λ_=>aj trivial) λ_=>aj trivial
def vw (x:ν):Ok (jC x) λr=>r=0->x.1=0/\x.2=0:=by
 unfold jC iE;exact ch (λh=>aj λz=>(h z).elim) λh=>aj λz=>⟨h,z⟩
abbrev WK:Type:=(Y DT×Y HT×Int)×(Bool×Y Sx)×Y ζ×Y ζ
def abq (a b:Int) (s:ζ) (w:WK) (h:l! w.2.1.2<=100):Ok (dW ((a,b,s),w)) λy=>y.2=w:=by
 unfold dW aW bi bM jY be cQ aG cN;refine cm (l! w.2.1.2) (λi x=>x.1=(i:Int)/\x.2=w) ?_ ?_ ⟨rfl,rfl⟩
 .rintro i ⟨c,x⟩ hi ⟨z,e2⟩;dsimp only at z e2;subst z;have e2:=e2.symm;subst e2;refine du ?_;refine cu (cu (aS ?_));refine aU (λx=>x.2=w) ?_ ?_
  .refine aI (λ_=>aI (λ_=>aj rfl) λ_=>aj rfl) λ_=>aI (λ_=>aI (λ_=>aj rfl) λ_=>aj rfl) λ_=>aj rfl
  rintro⟨c,x⟩ e;dsimp only at e;have e:=e.symm;subst e;exact aN (λ_=>aj rfl) λ_=>aj ⟨gQ,rfl⟩
 .rintro⟨c,x⟩ ⟨z,e2⟩;dsimp only at z e2;subst z;have e2:=e2.symm;subst e2;exact dg (aj rfl)
def SS:Nat->Sx->Nat
 |0,_=>0
 |d+1,s=>1+(s.body.map (SS d)).sum+(s.els.map (SS d)).sum
def oP (d:Nat) (l:Y Sx):Nat:=(l.map (SS d)).sum
def KS:Nat->Nat
 |0=>0
 |d+1=>1+16*KS d
def QQ {f:R->Nat} :∀{l:Y R},(∀x∈l,f x<=i)->(l.map f).sum<=l! l*i
 |[],_=>by simp
 |x::r,h=>by
  have:=QQ (l:=r) λy z=>h y (bJ _ z)
  have:=h x (cP ..);rw[bY,List.sum_cons,bK,ju];omega
def YS:∀{d:Nat} {s:Sx},GT d s->SS d s<=KS d
 |0,_,h=>h.elim
 |d+1,s,⟨_,_,_,N,L,D,A⟩=>by
  have a:=QQ (f:=SS d) (l:=s.body) λx z=>YS (D x z)
  have b:=QQ (f:=SS d) (l:=s.els) λx z=>YS (A x z)
  have c:=cK (KS d) N;have e:=cK (KS d) L;show 1+_+_<=1+16*KS d;omega
def Sd:∀{d:Nat} {s:Sx},GT d s->SS (d+1) s=SS d s
 |0,_,h=>h.elim
 |d+1,s,⟨_,_,_,_,_,D,A⟩=>by
  show 1+(s.body.map (SS (d+1))).sum+(s.els.map (SS (d+1))).sum=1+(s.body.map (SS d)).sum+(s.els.map (SS d)).sum;rw[gC λx z=>Sd (D x z),gC λx z=>Sd (A x z)]
def ahq {l:Y Sx} (h:∀s∈l,GT i s):oP i l<=l! l*KS i:=QQ λx z=>YS (h x z)
def yB {l:Y Sx} (hi:i<l! l):oP j (l.take (i+1))=oP j (l.take i)+SS j (geti (.sm) l (i:Int)):=by
 unfold oP;rw[pA (T:=.sm) hi,cq,HP];simp
def Se {d:Nat} (l:Y Sx) (i:Nat):oP d (l.take i)<=oP d l:=by
 conv=>rhs;rw[<- DG i l]
 unfold oP;rw[cq,HP];omega
def Hg:∀(n d:Nat) (l:Y Sx),d<n->l! l<=1000->(∀s∈l,GT d s)->KS d<=100000->oJ n l=Z ((oP d l:Nat):Int)
 |0,_,_,h,_,_,_=>by omega
 |n+1,d,l,hn,A,h,N=>by
  refine cz ?_;rw[Ak];unfold vU bM nh be cQ aG cN;have hb:=ahq h;have L:=Nat.mul_le_mul A N;refine cm (l! l) (λi x=>x.2=(i:Int)/\x.1=(l! l:Int)-i+(oP d (l.take i):Nat)) ?_ ?_ ⟨rfl,by simp[oP]⟩
  .rintro i ⟨a,b⟩ hi ⟨z,e2⟩;dsimp only at z e2;subst z e2;have hp:=Se (d:=d) l (i+1);rw[yB hi]at hp;refine du ?_;refine cu (aS ?_);rw[yB hi];have hm:=h _ (bP (T:=.sm) (xs:=l) (j:=(i:Int)) (by omega) (by omega));revert hm hp;generalize (geti (.sm) l (i:Int))=s;intro hp hm;cases d with
   |zero=>exact hm.elim
   |succ d=>
    let⟨_,_,_,g4,g5,g6,g7⟩:=hm;have hk:KS (d+1)=1+16*KS d:=rfl;have D:SS (d+1) s=1+oP d s.body+oP d s.els:=rfl;rw[D]at hp ⊢;refine aT (Hg n d _ (by omega) (by omega) g6 (by omega)) ?_;refine cu (aS ?_);refine aT (Hg n d _ (by omega) (by omega) g7 (by omega)) (aj ⟨gQ,?_⟩);dsimp only;rw[iQ (n:=(l! l:Int)-i+(oP (d+1) (l.take i):Nat)+(oP d s.body:Nat)) (by omega) (by omega),iQ];omega
  .rintro⟨a,b⟩ ⟨z,e2⟩;dsimp only at z e2;subst z e2;rw[cv];exact dg (aj (by dsimp only;omega))
def Yn (l:Y DT) (L:l! l<=100):Ok (sV l) λ_=>True:=by
 unfold sV aW bm bF cg dE ip bi bM j_ iE bX bQ be cQ aG cN;refine cm (l! l) (λi x=>x.2.2.2.2=(i:Int)) ?_ ?_ rfl
 .rintro i ⟨a,b,c,d,e⟩ hi z;dsimp only at z;subst z;refine du ?_;refine aU (λ_=>True) ?_ λx _=>aj gQ
  refine cu (aS ?_);have htk:l! (dB (aO (i:Int)) l)<=100:=by rw[bR];omega
  refine cY (a? (a? ?_));refine ax (yN _ _ (c4 htk (by omega))) λv A=>?_
  refine fc (λ_=>aj trivial) λ_=>bL (λ_=>aj trivial) λ_=>?_
  refine aU (λ_=>True) ?_ λx _=>?_
  .refine aU (λ_=>True) (aI (λ_=>aj trivial) λ_=>aj trivial) λx _=>aN (λ_=>aj trivial) λ_=>?_
   refine aU (λ_=>True) (aI (λ_=>aj trivial) λ_=>aj trivial) λx _=>aN (λ_=>aj trivial) λ_=>?_
   exact aI (λ_=>aj trivial) λ_=>aj trivial
  refine aU (λ_=>True) (bL (λ_=>aj trivial) λ_=>bL (λ_=>aj trivial) λ_=>bL (λ_=>aj trivial) λ_=>aj trivial) λx _=>aN (λ_=>aj trivial) λ_=>?_
  refine aI (λ_=>?_) λ_=>aj trivial
  refine cY (a? (a? ?_));refine ax (yN _ _ (c4 htk (by omega))) λv A=>?_
  refine bL (λ_=>aj trivial) λg=>?_
  have D:=A.2;rw[bR]at D;exact aM g (by dsimp only at D ⊢;omega) (aS (ch (λ_=>aj trivial) λ_=>aj trivial))
 .rintro⟨a,b,c,d,e⟩ z;dsimp only at z;subst z;exact dg (aj trivial)
def QL (p:PG) (h:PX p):Ok (oX p) λ_=>True:=by
 have hd:=h.d;have ht:=h.t;unfold oX aW bm bF bM j_ bX bQ be cQ aG cN;refine cm (l! p.2) (λi x=>x.1=(i:Int)/\x.2=p) ?_ ?_ ⟨rfl,rfl⟩
 .rintro i ⟨a,x⟩ hi ⟨A,e2⟩;dsimp only at A e2;subst A;have e2:=e2.symm;subst e2;refine du ?_;refine cu (aS ?_);refine aU (λx=>x.2.1=p) ?_ ?_
  .refine ax (yN _ _ (by dsimp only;omega)) λv N=>fc (λ_=>aj rfl) λ_=>?_
   refine cY (a? (a? ?_));exact ax (t_ _ _ (by rw[bR];dsimp only;omega)) λ_ _=>aj rfl
  rintro⟨b,x,z⟩ e;dsimp only at e;have e:=e.symm;subst e;exact aN (λ_=>aj trivial) λ_=>aj ⟨gQ,rfl⟩
 rintro⟨a,x⟩ ⟨A,e2⟩;dsimp only at A e2;subst A;have e2:=e2.symm;subst e2;refine dg ?_;refine ax (P:=λ_=>True) ?_ λ_ _=>aj trivial
 refine cm (l! p.2) (λi x=>x.1=(i:Int)/\x.2=p) ?_ ?_ ⟨rfl,rfl⟩
 .rintro i ⟨a,x⟩ hi ⟨A,e2⟩;dsimp only at A e2;subst A;have e2:=e2.symm;subst e2;refine du ?_;refine cu (aS ?_);have hm:=h.l _ (bP (T:=uw) (xs:=p.2) (j:=(i:Int)) (by omega) (by omega));revert hm;generalize (geti uw p.2 (i:Int))=t;intro hm;refine bL (λ_=>aj trivial) λ_=>?_
  refine cm (l! t.2.2.1) (λk y=>y.1=(k:Int)/\y.2=(p,t)) ?_ ?_ ⟨rfl,rfl⟩
  .rintro k ⟨a,z⟩ hk ⟨L,D⟩;dsimp only at L D;subst L D;refine du ?_;refine cu (aS ?_);refine aU (λx=>x.2=(p,t)) ?_ ?_
   .refine ax (yN _ _ (by dsimp only;omega)) λv N=>fc (λ_=>aj rfl) λ_=>?_
    refine ax (t_ _ _ (by dsimp only;omega)) λv N=>fc (λ_=>aj rfl) λ_=>?_
    refine cY (a? (a? ?_));exact ax (Ax _ _ (by rw[bR];dsimp only;omega)) λ_ _=>aj rfl
   rintro⟨b,x⟩ e;dsimp only at e;subst e;exact aN (λ_=>aj trivial) λ_=>aj ⟨gQ,rfl⟩
  .rintro⟨a,z⟩ ⟨L,D⟩;dsimp only at L D;subst L D;exact dg (aj ⟨gQ,rfl⟩)
 .rintro⟨a,x⟩ ⟨A,e2⟩;dsimp only at A e2;subst A;have e2:=e2.symm;subst e2;exact dg (aj trivial)
structure WQ (w:WK) (y:Int×WK):Prop where
 p:y.2.1=w.1
 a:y.2.2.1=w.2.1
 s:l! y.2.2.2.1<=l! w.2.2.1+1
 t:l! y.2.2.2.2<=l! w.2.2.2+1
def WQ.same (w:WK) (e:Int):WQ w (e,w):=⟨rfl,rfl,QE _,QE _⟩
def aoy (s:Sx) (D:Y DT) (T:Y HT) (t:Int) (A:Bool×Y Sx) (sp se:Y ζ) (hp:PX (D,T)) (hA:l! A.2<=100) (h1:l! sp<=100000000) (h2:l! se<=100000000) (L:∀e∈s.index,GX 4 e) (he:GX 4 s.expr):Ok (nu (s,((D,T,t),A,sp,se))) (WQ ((D,T,t),A,sp,se)):=by
 have hex:GX 4 (ef (Xp.op s.expr,Xp.n s.expr,Xp.name s.expr,Xp.l s.expr)):=by rw[fx];exact he
 have hin:∀(a b:Int) (n:ζ),Ok (dW ((a,b,n),((D,T,t),A,sp,se))) λy=>y.2=((D,T,t),A,sp,se):=λa b n=>abq a b n _ hA
 have hth:l! T<=1000:=by have:=hp.t;dsimp only at this;omega
 have hdl:l! D<=1000:=by have:=hp.d;dsimp only at this;omega
 have sm:∀e,WQ ((D,T,t),A,sp,se) (e,((D,T,t),A,sp,se)):=WQ.same _;unfold nu aW bm bF cG cg dE dk ip bi j_ iE bX bQ aG eh;refine ax (hin _ _ _) λy z=>?_
 let⟨b1,N⟩:=y;dsimp only at z;subst z;refine a8 (by simp) ?_;refine ax (hin _ _ _) λy z=>?_
 let⟨b2,N⟩:=y;dsimp only at z;subst z;refine a8 (by simp) ?_;refine ax (hin _ _ _) λy z=>?_
 let⟨b3,N⟩:=y;dsimp only at z;subst z;refine a8 (by simp) ?_;refine aI (λ_=>?_) λ_=>?_
 .refine aI (λ_=>?_) λg=>?_
  .exact ax (pU _ hp _ _ _ _) λ_ _=>ax (yM _ hp _ _ hex) λ_ _=>ax (vw _) λ_ _=>aj (sm _)
  .refine ax (pU _ hp _ _ _ _) λ_ _=>?_
   dsimp only[ak]at g;refine cu (aS ?_);refine ax (yM _ hp _ _ (L _ (bP (T:=.ex) (xs:=s.index) (j:=0) (by omega) (by omega)))) λ_ _=>?_
   exact ax (yM _ hp _ _ hex) λ_ _=>ax (vw _) λ_ _=>ax (vw _) λ_ _=>aj (sm _)
 refine aU (λx=>x.2=((D,T,t),A,s,(D,T),sp,se)) (aI (λ_=>aj (by dsimp only;rw[Ab])) λ_=>aj (by dsimp only;rw[Ab])) ?_;rintro⟨b,x⟩ e;dsimp only at e;subst e;refine aN (λ_=>ax (yM _ hp _ _ hex) λ_ _=>aj (sm _)) λ_=>?_
 refine aI (λ_=>?_) λ_=>?_
 .refine aU (λx=>WQ ((D,T,t),A,sp,se) x) ?_ λx L=>aj L
  refine ax (pU _ hp _ _ _ _) λ_ _=>aN (λ_=>?_) λ_=>?_
  .exact ax (fH _) λ_ _=>ax (vw _) λ_ _=>aj (sm _)
  .refine ax (hin _ _ _) λy z=>?_
   let⟨b4,N⟩:=y;dsimp only at z;subst z;exact a8 (by simp) (ax (fH _) λ_ _=>ax (vw _) λ_ _=>aj (sm _))
 refine aU (λx=>x.2=((D,T,t),A,s,(D,T),sp,se)) (aI (λ_=>aj (by dsimp only;rw[Ab])) λ_=>aj (by dsimp only;rw[Ab])) ?_;rintro⟨b,x⟩ e;dsimp only at e;subst e;refine aN (λ_=>?_) λ_=>?_
 .refine aU (λx=>WQ ((D,T,t),A,sp,se) x) ?_ λx L=>aj L
  refine ax (pU _ hp _ _ _ _) λ_ _=>aN (λ_=>?_) λ_=>?_
  .exact ax (fH _) λ_ _=>ax (vw _) λ_ _=>aj (sm _)
  .refine ax (hin _ _ _) λy z=>?_
   let⟨b4,N⟩:=y;dsimp only at z;subst z;exact a8 (by simp) (ax (fH _) λ_ _=>ax (vw _) λ_ _=>aj (sm _))
 refine aI (λ_=>ax (fH _) λ_ _=>aj (sm _)) λ_=>?_
 refine aI (λ_=>?_) λ_=>?_
 .refine aU (λx=>WQ ((D,T,t),A,sp,se) x) ?_ λx L=>aj L
  exact aN (λ_=>ax (fH _) λ_ _=>aj (sm _)) λ_=>ax (fH _) λ_ _=>aj (sm _)
 refine aU (λx=>x.2=((D,T,t),A,s,(D,T),sp,se)) (aI (λ_=>aj (by dsimp only;rw[Ab])) λ_=>aI (λ_=>aj (by dsimp only;rw[Ab])) λ_=>aj (by dsimp only;rw[Ab])) ?_;rintro⟨b,x⟩ e;dsimp only at e;subst e;refine aN (λ_=>?_) λ_=>?_
 .refine ax (pU _ hp _ _ _ _) λr hr=>ch (λ_=>aj (sm _)) λg=>?_
  let⟨v,hv,v0,v1⟩:=hr g (by omega) (by omega);refine aT hv (aM v0 v1 (aS ?_));refine ax (hin _ _ _) λy z=>?_
  let⟨b4,N⟩:=y;dsimp only at z;subst z;refine a8 (by simp) ?_;refine aU (λx=>WQ ((D,T,t),A,sp,se) x) ?_ λx L=>aj L
  refine aN (λ_=>ax (fH _) λ_ _=>aj (sm _)) λ_=>em (λ_=>ax (fH _) λ_ _=>aj (sm _)) λ_=>?_
  exact aI (λ_=>ax (fH _) λ_ _=>aj (sm _)) λ_=>ax (fH _) λ_ _=>aj (sm _)
 refine aI (λ_=>?_) λ_=>?_
 .refine ax (pU _ hp _ _ _ _) λr hr=>ch (λ_=>aj (sm _)) λg=>?_
  refine ax (t_ T _ hth) λv hv=>?_
  refine aU (λx=>x.2=((D,T,t),A,s,sp,se)) ?_ ?_
  .refine aN (λ_=>aj (by dsimp only;rw[Ab])) λ_=>aN (λ_=>aj (by dsimp only;rw[Ab])) λ_=>aN (λ_=>aj (by dsimp only;rw[Ab])) λ_=>aI (λ_=>aj (by dsimp only;rw[Ab])) λ_=>aj (by dsimp only;rw[Ab])
  rintro⟨b,x⟩ e;dsimp only at e;subst e;refine aN (λ_=>aj (sm _)) λ_=>?_
  refine ax (Ax sp _ (by omega)) λ_ _=>fc (λ_=>aj (sm _)) λ_=>?_
  exact a! (aj ⟨rfl,rfl,by simp,QE _⟩)
 refine aI (λ_=>?_) λ_=>?_
 .refine aU (λx=>WQ ((D,T,t),A,sp,se) x) ?_ λx L=>aj L
  refine ax (pU _ hp _ _ _ _) λr hr=>?_
  refine aN (λ_=>ax (fH _) λ_ _=>ax (vw _) λ_ _=>aj (sm _)) λ_=>?_
  refine aN (λ_=>ax (fH _) λ_ _=>ax (vw _) λ_ _=>aj (sm _)) λ_=>?_
  exact ax (t_ T _ hth) λv hv=>ax (fH _) λ_ _=>ax (vw _) λ_ _=>aj (sm _)
 refine aI (λ_=>?_) λ_=>?_
 .refine aU (λx=>x.2=((D,T,t),A,s,(D,T),sp,se)) ?_ ?_
  .refine ax (pU _ hp _ _ _ _) λr hr=>?_
   exact aN (λ_=>ax (fH _) λ_ _=>ax (vw _) λ_ _=>aj (by dsimp only;rw[Ab])) λ_=>ax (fH _) λ_ _=>ax (vw _) λ_ _=>aj (by dsimp only;rw[Ab])
  rintro⟨b,x⟩ e;dsimp only at e;subst e;refine aU (λx=>x.2=((D,T,t),A,s,(D,T),sp,se)) ?_ ?_
  .refine aU (λx=>x.2=((D,T,t),A,s,(D,T),sp,se)) ?_ ?_
   .exact aI (λ_=>ax (Ax se _ (by omega)) λ_ _=>aj (by dsimp only;rw[Ab])) λ_=>aj (by dsimp only;rw[Ab])
   rintro⟨b,x⟩ e;dsimp only at e;subst e;exact aN (λ_=>aj (by dsimp only;rw[Ab])) λ_=>aj (by dsimp only;rw[Ab])
  rintro⟨b,x⟩ e;dsimp only at e;subst e;refine a! ?_;exact ax (yM _ hp _ _ hex) λ_ _=>ax (vw _) λ_ _=>aj ⟨rfl,rfl,QE _,by simp⟩
 exact ax (pU _ hp _ _ _ _) λ_ _=>ax (pU _ hp _ _ _ _) λ_ _=>ax (fH _) λ_ _=>ax (vw _) λ_ _=>ax (vw _) λ_ _=>aj (sm _)
abbrev RA4:Type:=(Y Sx×WK)->M (ν×WK)
structure QA (l:List Sx) (d:Nat) (w:WK) (y:ν×WK):Prop where
 p:y.2.1=w.1
 a:l! y.2.2.1.2=l! w.2.1.2
 s:l! y.2.2.2.1<=l! w.2.2.1+l! l*KS d
 t:l! y.2.2.2.2<=l! w.2.2.2+l! l*KS d
def SpA (rr:RA4) (d:Nat):Prop:=∀(l:Y Sx) (w:WK),l! l<=100->(∀s∈l,GT d s)->PX (w.1.1,w.1.2.1)->l! w.2.1.2+d<=50->l! w.2.2.1+l! l*KS d<=100000000->l! w.2.2.2+l! l*KS d<=100000000->Ok (rr (l,w)) (QA l d w)
def akz (rr:RA4) (d:Nat) (hr:∀d',d=d'+1->SpA rr d'):SpA (nC rr) d:=by
 rintro l ⟨⟨D,T,t⟩,A,sp,se⟩ hl hg hp hA h1 h2;dsimp only at hp hA h1 h2;have hK:∀i:Nat,i<=l! l->i*KS d<=l! l*KS d:=λi hi=>cK _ hi
 unfold nC aW bm bF cg dE dk ck bi bM iE bX bQ be cQ aG cN eh;refine cm (l! l) (λi x=>x.1=(i:Int)/\x.2.1=(D,T,t)/\l! x.2.2.1.2=l! A.2/\l! x.2.2.2.1<=l! sp+i*KS d/\l! x.2.2.2.2<=l! se+i*KS d) ?_ ?_ ⟨rfl,rfl,rfl,by simp,by simp⟩
 .rintro i ⟨a,P,A',sp',se'⟩ hi ⟨e1,e2,e3,e4,e5⟩;dsimp only at e1 e2 e3 e4 e5;subst e1 e2;have hKi:=hK (i+1) (by omega);have hKs:=ju i (KS d);rw[Nat.succ_eq_add_one]at hKs;refine du ?_;refine cu (aS ?_);have hm:=hg _ (bP (T:=.sm) (xs:=l) (j:=(i:Int)) (by omega) (by omega));revert hm;generalize (geti (.sm) l (i:Int))=s;intro hm;cases d with
  |zero=>exact hm.elim
  |succ d=>
   have hR:=hr d rfl;let⟨_,g2,g3,g4,g5,g6,g7⟩:=hm;have hk:KS (d+1)=1+16*KS d:=rfl;have kb:l! s.body*KS d<=8*KS d:=cK _ g4;have ke:l! s.els*KS d<=8*KS d:=cK _ g5;dsimp only;rw[Ab];refine ax (aoy s D T t A' sp' se' hp (by omega) (by omega) (by omega) g2 g3) λy hy=>?_
   let⟨e,P2,A2,sp2,se2⟩:=y;let⟨q1,z,q3,q4⟩:=hy;dsimp only at q1 z q3 q4;subst q1 z;refine a8 (by simp) ?_;refine aU (λx=>x.2=((D,T,t),s,A2,sp2,se2)) (bL (λ_=>aj rfl) λ_=>aj rfl) ?_;rintro⟨e,x⟩ ex;dsimp only at ex;subst ex;refine ch (λ_=>aj ⟨rfl,e3,by dsimp only;omega,by dsimp only;omega⟩) λ_=>?_
   refine a! (aM (by simp) (by simp;omega) (aM (by simp) (by simp;omega) ?_));dsimp only;rw[Ab];refine ax (hR s.body ((D,T,t),(A2.1,cH (A2.2++[_]) _ s),sp2,se2) (by omega) g6 hp ?_ ?_ ?_) λy hy=>?_
   .dsimp only;rw[b7];simp;omega
   .dsimp only;omega
   .dsimp only;omega
   let⟨e6,P6,A6,sp6,se6⟩:=y;let⟨q1,z,q5,q6⟩:=hy;dsimp only at q1 z q5 q6;subst q1;rw[b7,bc,bN]at z;refine a8 (by simp) ?_;refine aU (λx=>x.2.1=(D,T,t)/\l! x.2.2.1.2=l! A2.2+1/\l! x.2.2.2.1<=l! sp2+16*KS d/\l! x.2.2.2.2<=l! se2+16*KS d) ?_ ?_
   .refine aI (λ_=>?_) λ_=>aj ⟨rfl,z,by dsimp only;omega,by dsimp only;omega⟩
    refine ax (hR s.els ((D,T,t),A6,sp6,se6) (by omega) g7 hp (by dsimp only;omega) (by dsimp only;omega) (by dsimp only;omega)) λy hy=>?_
    let⟨e7,P7,A7,sp7,se7⟩:=y;let⟨N,L,r5,r6⟩:=hy;dsimp only at N L r5 r6;subst N;exact a8 (by simp) (aj ⟨rfl,L.trans z,by dsimp only;omega,by dsimp only;omega⟩)
   rintro⟨e8,P8,A8,sp8,se8⟩ ⟨N,L,r5,r6⟩;dsimp only at N L r5 r6;subst N;have el:bl .i64 ((aQ (l! A8.2))-1)=(l! A2.2:Int):=by
    rw[L,iQ (by simp<;>omega) (by simp<;>omega)];simp<;>omega
   dsimp only;rw[el];have tk:l! (dB (aO (l! A2.2:Int)) A8.2)=l! A2.2:=by rw[bR];omega
   refine cY (a? (Cg (by rw[L];omega) ?_));refine ch (λ_=>aj ⟨rfl,by dsimp only;omega,by dsimp only;omega,by dsimp only;omega⟩) λ_=>aj ?_
   exact⟨gQ,rfl,by dsimp only;omega,by dsimp only;omega,by dsimp only;omega⟩
 .rintro⟨a,P,A',sp',se'⟩ ⟨e1,e2,e3,e4,e5⟩;dsimp only at e1 e2 e3 e4 e5;subst e1 e2;exact dg (aj ⟨rfl,e3,e4,e5⟩)
def aa4:∀(n d:Nat),d<n->SpA (iS n) d
 |0,_,h=>by omega
 |n+1,d,h=>akz (iS n) d λz hd=>aa4 n z (by omega)
def Gb (p:PG) (h:PX p):Ok (fB p) λr=>r.1=0->(p.2.map λt=>oP 5 t.2.2.2).sum<=60:=by
 have hd:=h.d;have ht:=h.t;unfold fB aW bm bF cg dk bM iE bX bQ be cQ aG cN;refine ax (adg p h) λ_ _=>em (λ_=>aj nofun) λ_=>?_
 refine ax (Yn p.1 hd) λ_ _=>ch (λhn=>aj λh=>(hn h).elim) λ_=>bL (λ_=>aj nofun) λ_=>?_
 refine ax (QL p h) λ_ _=>ch (λhn=>aj λh=>(hn h).elim) λ_=>?_
 have hk5:KS 5=69905:=rfl;refine cm (l! p.2) (λi x=>x.1.2=(i:Int)/\x.2=p/\x.1.1=((((p.2.take i).map λt=>oP 5 t.2.2.2).sum:Nat):Int)/\(x.1.1:Int)<=((i*6990500:Nat):Int)) ?_ ?_ ⟨rfl,rfl,by simp,by simp⟩
 .rintro i ⟨⟨(c:Int),a⟩,x⟩ hi ⟨z,e2,L,e4⟩;dsimp only at z e2 L e4;subst z;have e2:=e2.symm;subst e2;refine du ?_;refine cu (aS ?_);have hm:=bP (T:=uw) (xs:=p.2) (j:=(i:Int)) (by omega) (by omega);have N:=h.b _ hm;have hcb:=ahq (h.s _ hm);have hcb2:=cK (KS 5) N;rw[hk5]at hcb hcb2;refine aT (Hg fuel 5 _ (by rw[kP];omega) (c4 N (by omega)) (h.s _ hm) (by rw[hk5];omega)) (aj ⟨gQ,rfl,?_,?_⟩)
  .dsimp only;rw[pA (T:=uw) hi,cq,HP,iQ,L];simp
  .dsimp only;rw[iQ];omega
 rintro⟨⟨(c:Int),a⟩,x⟩ ⟨z,e2,L,e4⟩;dsimp only at z e2 L e4;subst z;have e2:=e2.symm;subst e2;rw[cv]at L;refine dg ?_;refine ax (P:=λr=>r.1=0->(p.2.map λt=>oP 5 t.2.2.2).sum<=60) ?_ λ_ h=>aj h
 refine bL (λ_=>aj nofun) λg60=>?_
 have g60:c<=60:=g60;refine cm (l! p.2) (λi x=>x.1=(i:Int)/\x.2.1=p/\x.2.2.1.1=p.1/\x.2.2.1.2.1=p.2/\l! x.2.2.2.1.2=0/\l! x.2.2.2.2.1<=i*6990500/\l! x.2.2.2.2.2<=i*6990500) ?_ ?_ ⟨rfl,rfl,rfl,rfl,rfl,by simp,by simp⟩
 .rintro i ⟨a,x,⟨D,T,t⟩,A,sp,se⟩ hi ⟨z,e2,L,e4,e5,e6,e7⟩;dsimp only at z e2 L e4 e5 e6 e7;subst z;have e2:=e2.symm;subst e2 L e4;refine du ?_;refine cu (aS ?_);have hm:=bP (T:=uw) (xs:=p.2) (j:=(i:Int)) (by omega) (by omega);have N:=h.b _ hm;have hs:=h.s _ hm;revert N hs;dsimp only;generalize (geti uw p.2 (i:Int))=th;intro N hs;have hk:KS 5=69905:=rfl;have hle:l! th.2.2.2*KS 5<=100*KS 5:=cK _ N;rw[hk]at hle;refine ax (aa4 fuel 5 (by rw[kP];omega) th.2.2.2 ((p.1,p.2,(i:Int)),A,sp,se) N hs h (by dsimp only;omega) (by dsimp only;rw[hk];omega) (by dsimp only;rw[hk];omega)) λy hy=>?_
  let⟨e,P2,A2,sp2,se2⟩:=y;let⟨q1,q2,q3,q4⟩:=hy;dsimp only at q1 q2 q3 q4;subst q1;rw[hk]at q3 q4;refine a8 (by simp) (ch (λhn=>aj λh=>(hn h).elim) λ_=>aj ?_);exact⟨gQ,rfl,rfl,rfl,by dsimp only;omega,by dsimp only;omega,by dsimp only;omega⟩
 .rintro⟨a,x,P,w⟩ ⟨z,e2,_⟩;dsimp only at z e2;subst z;have e2:=e2.symm;subst e2;exact dg (aj λ_=>by omega)
def c_ {o z:M R} {Q:R->Prop} (h:o=z) (A:Ok z Q):Ok o Q:=h▸A
def D0:Y DT:=[(1,0,[120],0,0,[]),(1,0,[121],0,1,[]),(2,0,[118],0,0,[]),(1,0,[113],2,0,[]),(3,0,[109],0,0,[]),(3,0,[110],0,0,[]),(4,0,[114],0,0,[]),(5,0,[99],0,0,[109]),(6,0,[102],0,0,[])]
def L0:Y ζ:=[[97],[98]]
set_option maxHeartbeats 20000000 in
def at8:∃r,fB (D0,[([109,97,105,110],0,L0,[o6 (1,0,[120],[],[],ef (1,1,[],[]),[],[])])])=Z r/\r.1=0:=by
 suffices h:Ok (fB (D0,[([109,97,105,110],0,L0,[o6 (1,0,[120],[],[],ef (1,1,[],[]),[],[])])])) λr=>r.1=0 by
  obtain⟨y,h1,h2⟩:=h;exact⟨y,h1,h2⟩
 unfold fB aW bm bF cg dk bM iE bX bQ be cQ aG cN;with_reducible repeat' first|exact aj rfl|refine ZL ?_|refine ZK ?_|refine ZJ ?_|refine ZH ?_|refine TN ?_|refine ak4 ?_|refine aS ?_|refine fO rfl ?_|refine gB rfl ?_|refine a8 rfl ?_|refine ZI ?_|refine TO ?_|refine c_ (qP.eq_1 ..) ?_|refine c_ (kW.eq_1 ..) ?_|refine c_ (ft.eq_1 ..) ?_|refine c_ (kD.eq_1 ..) ?_|refine c_ (lC.eq_1 ..) ?_|refine c_ (mq.eq_1 ..) ?_|refine c_ (qD.eq_1 ..) ?_|refine c_ (sW.eq_1 ..) ?_|refine c_ (oY.eq_1 ..) ?_|refine c_ (kr.eq_1 ..) ?_|refine c_ (kY.eq_1 ..) ?_|refine c_ (mY.eq_1 ..) ?_|refine c_ (jF.eq_1 ..) ?_|refine c_ (ny.eq_1 ..) ?_|refine c_ (qC.eq_1 ..) ?_|refine c_ (sV.eq_1 ..) ?_|refine c_ (ii.eq_1 ..) ?_|refine c_ (oX.eq_1 ..) ?_|refine c_ (gU.eq_1 ..) ?_|refine c_ (jD.eq_1 ..) ?_|refine c_ (DZ.eq_1 ..) ?_|refine c_ (vU.eq_1 ..) ?_|refine c_ (xn.eq_1 ..) ?_|refine c_ (nC.eq_1 ..) ?_|refine c_ (nu.eq_1 ..) ?_|refine c_ (dW.eq_1 ..) ?_|refine c_ (gJ.eq_1 ..) ?_|refine c_ (qO.eq_1 ..) ?_|refine c_ (nv.eq_1 ..) ?_|refine c_ (DY.eq_1 ..) ?_|refine c_ (vT.eq_1 ..) ?_|refine c_ (DX.eq_1 ..) ?_|refine c_ (vS.eq_1 ..) ?_|refine c_ (jC.eq_1 ..) ?_|refine c_ (c9.eq_1 ..) ?_|refine c_ (ck.eq_1 ..) ?_|refine c_ (congrFun (eW dJ kP) _) ?_|refine c_ (AE _ _) ?_|refine c_ (congrFun (eW eE kP) _) ?_|refine c_ (Bs _ _) ?_|refine c_ (congrFun (eW ij kP) _) ?_|refine c_ (tW _ _) ?_|refine c_ (congrFun (eW oJ kP) _) ?_|refine c_ (Ak _ _) ?_|refine c_ (congrFun (eW iS kP) _) ?_|refine c_ (D_ _ _) ?_|refine c_ (congrFun (eW oI kP) _) ?_|refine c_ (Aj _ _) ?_|refine c_ (congrFun (eW oH kP) _) ?_|refine c_ (Ai _ _) ?_
 all_goals trace_state
structure TM (nT:Nat) (t:HT):Prop where
 l:t.2.2.1=L0
 b:l! t.2.2.2<=8
 s:∀s∈t.2.2.2,GS nT 3 s
structure PJ (p:PG):Prop where
 d:p.1=D0
 t0:1<=l! p.2
 t:l! p.2<=4
 m:∀t∈p.2,TM (l! p.2) t
 n:p.2.map Prod.fst=xH.take (l! p.2)
def PJ.x {p:PG} (h:PJ p):PX p:=⟨by rw[h.d];decide,by have:=h.t;omega,λt ht=>by rw[(h.m t ht).l];decide,λt ht=>by have:=(h.m t ht).b;omega,λt ht s z=>((h.m t ht).s s z).le (by omega:3<=5) |>.t⟩
def Vk:tR ()=Z D0:=rfl
def aij:∀m:Nat,m<5->∀j:Nat,j<m->geti (.str) xH (j:Int)∈xH.take m:=by decide
def Tf {nT:Nat} (op:Int) {n:ζ} (A:op=12\/op=13) (D:n∈xH.take nT):GS nT 3 (o6 (op,0,n,[],[],ef (0,0,[],[]),[],[])):=GS.wo (by omega) (by simp) (λx z=>(by cases z)) (by rcases A with rfl|rfl<;>(constructor<;>simp[Sx.op,Sx.name,Sx.index,Sx.arg,Sx.els,Sx.body]<;>exact D))
def Ji (x:η) (hl:l! x<=9223372036854775807) (hx:∀z∈x,0<=z/\z<=255):Ok (pK x) λp=>PJ p/\∃r,fB p=Z r/\r.1=0:=by
 unfold pK aW bm bF cG ep jW mr cg ip wE En Prod.B bi bM iE bX jY cQ aG cN eh;refine aT Vk ?_;refine ax (gy 3 (x,0) ⟨hl,hx,by dsimp only;omega,by dsimp only;omega⟩) λy hy=>?_
 let⟨n,t0⟩:=y;let⟨s0,n0,n1,_⟩:=hy;have n1:=n1 (by decide);dsimp only at s0 n0 n1;have ew:bl .i64 (2+n)=2+n:=iQ;obtain⟨nT,hnT⟩:∃m:Nat,2+n=(m:Int):=⟨(2+n).toNat,by omega⟩
 refine cm nT (λi x=>x.1=(i:Int)/\x.2.2.1=D0/\x.2.2.2.1=xH/\TP x.2.2.2.2.1/\x.2.2.2.2.2.1.2=[]/\x.2.2.2.2.2.2.map Prod.fst=xH.take i/\∀t∈x.2.2.2.2.2.2,TM nT t) ?_ ?_ ⟨rfl,rfl,rfl,s0.p,rfl,rfl,λt ht=>(by cases ht)⟩
 .rintro i ⟨a,m,D,N,t,h,th⟩ hi ⟨e1,e2,e3,e4,e5,e6,e7⟩;dsimp only at e1 e2 e3 e4 e5 e6 e7;subst e1 e2;refine bL (λg=>?_) λg=>(by dsimp only at g;rw[ew]at g;omega)
  have l4:l! N=4:=by rw[e3];rfl
  refine cu (cu (aS ?_));have hthl:l! th=i:=by have:=eW ah e6;rw[b_,bR]at this;have q4:xH.length=4:=rfl;omega
  refine aU (λx=>x.2.2.2.1.1=geti (.str) N (i:Int)/\x.2.1=D0/\x.2.2.1=xH/\TP x.2.2.2.2.1/\x.2.2.2.2.2.1.2=[]/\x.2.2.2.2.2.2.1=th/\x.2.2.2.2.2.2.2.1=L0/\l! x.2.2.2.2.2.2.2.2<=3/\∀s∈x.2.2.2.2.2.2.2.2,GS nT 3 s) ?_ ?_
  .refine aI (λ_=>?_) λ_=>aj ⟨rfl,rfl,e3,e4,e5,rfl,rfl,by simp,λs A=>(by cases A)⟩
   refine cm (1+n).toNat (λk x=>x.2.2.2.2.1.1=geti (.str) N (i:Int)/\x.1=1+(k:Int)/\x.2.2.1=D0/\x.2.2.2.1=xH/\TP x.2.2.2.2.2.1/\x.2.2.2.2.2.2.1.2=[]/\x.2.2.2.2.2.2.2.1=th/\x.2.2.2.2.2.2.2.2.1=L0/\l! x.2.2.2.2.2.2.2.2.2<=k/\∀s∈x.2.2.2.2.2.2.2.2.2,GS nT 3 s) ?_ ?_ ⟨rfl,rfl,rfl,e3,e4,e5,rfl,rfl,by simp,λs A=>(by cases A)⟩
   .rintro k ⟨c,m1,D1,N1,z1,t1,h1,th1,l1,b1⟩ hk ⟨fz,f1,f2,L,f4,f5,f6,f7,f8,f9⟩;dsimp only at fz f1 f2 L f4 f5 f6 f7 f8 f9;subst f1;refine bL (λ_=>?_) λg=>(by dsimp only at g;rw[ew]at g;omega)
    have l41:l! N1=4:=by rw[L];rfl
    refine cu (cu (aS ?_));refine a! (aj ?_);dsimp only;rw[iQ (n:=1+(k:Int)+1) (by omega) (by omega)];refine ⟨fz,by omega,f2,L,f4,f5,f6,f7,by simp;omega,λs A=>?_⟩;rcases bA.1 A with A|A
    .exact f9 s A
    .rw[aB]at A;rw[A];refine Tf 12 (.inl rfl) ?_;rw[L,show 1+(k:Int)=((1+k:Nat):Int) by omega];exact aij nT (by omega) (1+k) (by omega)
   .rintro⟨c,m1,D1,N1,z1,t1,h1,th1,l1,b1⟩ ⟨fz,f1,f2,L,f4,f5,f6,f7,f8,f9⟩;dsimp only at fz f1 f2 L f4 f5 f6 f7 f8 f9;subst f1;refine bL (λg=>(by dsimp only at g;rw[ew]at g;omega)) λ_=>aj ?_
    exact⟨fz,f2,L,f4,f5,f6,f7,by dsimp only;omega,f9⟩
  rintro⟨m1,D1,N1,z1,t1,h1,th1,l1,b1⟩ ⟨fz,f2,L,f4,f5,f6,f7,f8,f9⟩;dsimp only at fz f2 L f4 f5 f6 f7 f8 f9;subst f2 f6 f7;refine ax (gy 3 t1 f4) λy hy=>?_
  let⟨k2,t2⟩:=y;let⟨u1,u2,u3,_⟩:=hy;have u3:=u3 (by decide);dsimp only at u1 u2 u3;dsimp only;rw[iQ (n:=1+k2) (by omega) (by omega)];refine ax (abj (nT:=nT) 2 (by omega) (1+k2) m1 t2 h1 (by omega) u1.p (by rw[f5];simp)) λy hy=>?_
  let⟨m3,t3,h3,l3⟩:=y;let⟨w1,w2,w3,w4⟩:=hy;dsimp only at w1 w2 w3 w4;refine a8 (by simp) (a! ?_);have hbody:∀s∈b1++l3,GS nT 3 s:=λs A=>by
   rcases bA.1 A with A|A
   .exact f9 s A
   .exact w2 s A
  have hlen:l! (b1++l3)<=6:=by rw[bc];omega
  refine aU (λx=>x.2.2.2.1.1=geti (.str) N (i:Int)/\x.2.1=D0/\x.2.2.1=xH/\TP x.2.2.2.2.1/\x.2.2.2.2.2.1.2=[]/\x.2.2.2.2.2.2.1=th1/\x.2.2.2.2.2.2.2.1=L0/\l! x.2.2.2.2.2.2.2.2<=8/\∀s∈x.2.2.2.2.2.2.2.2,GS nT 3 s) ?_ ?_
  .refine aU (λx=>x.2.2.2.2.1.1=geti (.str) N (i:Int)/\x.2.2.1=D0/\x.2.2.2.1=xH/\TP x.2.2.2.2.2.1/\x.2.2.2.2.2.2.1.2=[]/\x.2.2.2.2.2.2.2.1=th1/\x.2.2.2.2.2.2.2.2.1=L0/\x.2.2.2.2.2.2.2.2.2=b1++l3) ?_ ?_
   .refine aI (λ_=>?_) λ_=>aj ⟨fz,rfl,L,w3.p,w4.trans f5,rfl,rfl,rfl⟩
    exact ax (gy 3 t3 w3.p) λy hy=>aj ⟨fz,rfl,L,hy.1.p,w4.trans f5,rfl,rfl,rfl⟩
   rintro⟨b,m4,D4,N4,z4,t4,h4,th4,l4,b4⟩ ⟨pz,p2,p3,p4,p5,p6,p7,p8⟩;dsimp only at pz p2 p3 p4 p5 p6 p7 p8;subst p2 p6 p7 p8;have l44:l! N4=4:=by rw[p3];rfl
   refine aN (λ_=>?_) λ_=>aj ⟨pz,rfl,p3,p4,p5,rfl,rfl,by dsimp only;omega,hbody⟩
   refine cu (cu (aS ?_));refine bt (by simp at hlen ⊢;omega) (by omega) (aj ⟨pz,rfl,p3,p4,p5,rfl,rfl,by dsimp only;rw[bc,bN];omega,λs A=>?_⟩);rcases bA.1 A with A|A
   .exact hbody s A
   .rw[aB]at A;rw[A];refine Tf 13 (.inr rfl) ?_;rw[p3];exact aij nT (by omega) 1 (by omega)
  rintro⟨m4,D4,N4,z4,t4,h4,th4,l4,b4⟩ ⟨pz,p2,p3,p4,p5,p6,p7,p8,p9⟩;dsimp only at pz p2 p3 p4 p5 p6 p7 p8 p9;subst p2 p6 p7;refine a! (aj ?_);dsimp only;refine ⟨gQ,rfl,p3,p4,p5,by rw[pA (T:=.str) (xs:=xH) (i:=i) (by have q4:xH.length=4:=rfl;omega),cq,e6,<-e3];show _++[z4.1]=_;rw[pz],λt ht=>?_⟩;rcases bA.1 ht with ht|ht
  .exact e7 t ht
  .rw[aB]at ht;rw[ht];exact⟨rfl,p8,p9⟩
 .rintro⟨a,m,D,N,t,h,th⟩ ⟨e1,e2,e3,e4,e5,e6,e7⟩;dsimp only at e1 e2 e3 e4 e5 e6 e7;subst e1 e2;refine bL (λg=>(by dsimp only at g;rw[ew]at g;omega)) λ_=>?_
  have hthl:l! th=nT:=by have:=eW ah e6;rw[b_,bR]at this;have q4:xH.length=4:=rfl;omega
  have hpm:PJ (D0,th):=⟨rfl,by dsimp only;omega,by dsimp only;omega,by dsimp only;rw[hthl];exact e7,by dsimp only;rw[hthl];exact e6⟩
  refine ax (P:=λp=>PJ p/\∃r,fB p=Z r/\r.1=0) ?_ λr hr=>aj hr
  let⟨y,hy,_⟩:=Gb (D0,th) hpm.x;refine aT hy (ch (λ_=>?_) λh=>aj ⟨hpm,y,hy,h⟩);refine aT Vk (aT (Q7 _) (aT (vk _ _) (aj ?_)));refine ⟨⟨rfl,by simp,by simp,λt ht=>?_,rfl⟩,at8⟩;simp only[aB]at ht;rw[ht];refine ⟨rfl,by simp,λs A=>?_⟩;simp only[aB]at A;rw[A,fx,AU];exact GS.asg (by decide) (GE.num _ 3)
abbrev iA (l:Y IT) (k:Nat):IT:=geti sx l (k:Int)
def JT (l:Y IT) (ρ:Nat->Nat) (a e k:Nat):Prop:=(iA l k).1=5->∃z:Nat,(iA l k).2.1=(z:Int)/\(z=e\/a<=z/\z<e/\ρ z<ρ k)
def sk (l:Y IT) (a e:Nat):Prop:=a<=e/\∃ρ:Nat->Nat,∀k,a<=k->k<e->1<=ρ k/\ρ k<=e-a/\JT l ρ a e k/\((iA l k).1<5->k+1=e\/ρ (k+1)<ρ k)
def sk.nil (l:Y IT) (a:Nat):sk l a a:=⟨bO _,λ_=>0,λk h1 z=>by omega⟩
def sk.one {l:Y IT} (h:¬(iA l i).1=5):sk l i (i+1):=⟨by omega,λ_=>1,λk h1 A=>⟨bO 1,by show 1<=i+1-i;omega,λz=>by rw[show k=i by omega]at z;exact (h z).elim,λ_=>.inl (by omega)⟩⟩
def sk.congr {l l':Y IT} (h:sk l i j) (D:∀k,i<=k->k<j->iA l' k=iA l k):sk l' i j:=by
 let⟨h1,ρ,L⟩:=h;exact⟨h1,ρ,λk A z=>by unfold JT;rw[D k A z];exact L k A z⟩
def sk.app {l:Y IT} {c:Nat} (h:sk l i j) (k:sk l j c):sk l i c:=by
 let⟨h1,ρ,h2⟩:=h;let⟨k1,σ,k2⟩:=k;refine ⟨by omega,λk=>if k<j then ρ k+(c-j) else σ k,λk g1 g2=>?_⟩;by_cases D:k<j
 .obtain⟨q1,q2,q3,q4⟩:=h2 k g1 D;simp only[aD D];refine ⟨by omega,by omega,?_,λz=>?_⟩
  .intro z;simp only[aD D];let⟨A,e,r⟩:=q3 z;refine ⟨A,e,?_⟩;rcases r with r|⟨r1,N,r3⟩
   .subst r;by_cases L:A=c
    .exact .inl L
    .have:=(k2 A (bO _) (by omega)).2.1;rw[av (Eo _)];exact .inr ⟨by omega,by omega,by omega⟩
   .rw[aD N];exact .inr ⟨r1,by omega,by omega⟩
  .rcases q4 z with r|r
   .by_cases L:k+1=c
    .exact .inl L
    .have:=(k2 (k+1) (by omega) (by omega)).2.1;rw[av (by omega)];exact .inr (by omega)
   .by_cases hb:k+1<j
    .rw[aD hb];exact .inr (by omega)
    .rw[av hb];by_cases L:k+1=c
     .exact .inl L
     .have:=(k2 (k+1) (by omega) (by omega)).2.1;exact .inr (by omega)
 .obtain⟨q1,q2,q3,q4⟩:=k2 k (by omega) g2;simp only[av D];refine ⟨q1,by omega,?_,λz=>?_⟩
  .intro z;simp only[av D];let⟨A,e,r⟩:=q3 z;refine ⟨A,e,r.imp id λ⟨r1,N,r3⟩=>⟨by omega,N,?_⟩⟩;rw[av (by omega)];exact r3
  .rw[av (by omega)];exact q4 z
def sk.ite {l:Y IT} {e:Nat} (h:sk l i j) (hj:(iA l j).1=5) (hx:(iA l j).2.1=(e:Int)) (k:sk l (j+1) e):sk l i e:=by
 let⟨h1,ρ,h2⟩:=h;let⟨k1,σ,k2⟩:=k;refine ⟨by omega,λk=>if k<j then ρ k+(e-j) else if k=j then e-j else σ k,λk g1 g2=>?_⟩;by_cases A:k<j
 .obtain⟨q1,q2,q3,q4⟩:=h2 k g1 A;simp only[aD A];refine ⟨by omega,by omega,?_,λz=>?_⟩
  .intro z;simp only[aD A];let⟨L,e',r⟩:=q3 z;refine ⟨L,e',.inr ?_⟩;rcases r with r|⟨r1,D,N⟩
   .rw[r,av (Eo _),aD rfl];exact⟨by omega,by omega,by omega⟩
   .rw[aD D];exact⟨r1,by omega,by omega⟩
  .refine .inr ?_;by_cases hb:k+1<j
   .rw[aD hb];rcases q4 z with r|r<;>omega
   .rw[av hb,aD (by omega)];omega
 .by_cases hkj:k=j
  .subst hkj;simp only[av A,aD];exact⟨by omega,by omega,λ_=>⟨e,hx,.inl rfl⟩,λz=>by rw[hj]at z;omega⟩
  .obtain⟨q1,q2,q3,q4⟩:=k2 k (by omega) g2;simp only[av A,av hkj];refine ⟨q1,by omega,?_,λz=>?_⟩
   .intro z;simp only[av A,av hkj];let⟨L,e',r⟩:=q3 z;refine ⟨L,e',r.imp id λ⟨r1,D,N⟩=>⟨by omega,D,?_⟩⟩;rw[av (by omega),av (by omega)];exact N
   .rw[av (by omega),av (by omega)];exact q4 z
def sk.whl {l:Y IT} {c:Nat} (h:sk l i c) (hc:(iA l c).1=10) (k:sk l (c+1) j) (hj:(iA l j).1=5) (hx:(iA l j).2.1=(i:Int)):sk l i (j+1):=by
 let⟨h1,ρ,h2⟩:=h;let⟨k1,σ,k2⟩:=k;refine ⟨by omega,λk=>if k<c then ρ k+1 else if k=c then 1 else if k<j then σ k+(c-i)+2 else c-i+2,λk g1 g2=>?_⟩;by_cases A:k<c
 .obtain⟨q1,q2,q3,q4⟩:=h2 k g1 A;simp only[aD A];refine ⟨by omega,by omega,?_,λz=>?_⟩
  .intro z;simp only[aD A];let⟨N,e',r⟩:=q3 z;refine ⟨N,e',.inr ?_⟩;rcases r with r|⟨r1,L,r3⟩
   .rw[r,av (Eo _),aD rfl];exact⟨by omega,by omega,by omega⟩
   .rw[aD L];exact⟨r1,by omega,by omega⟩
  .refine .inr ?_;by_cases D:k+1<c
   .rw[aD D];rcases q4 z with r|r<;>omega
   .rw[av D,aD (by omega)];omega
 .by_cases hkc:k=c
  .subst hkc;simp only[av A,aD];exact⟨by omega,by omega,λz=>by rw[hc]at z;omega,λz=>by rw[hc]at z;omega⟩
  .simp only[av A,av hkc];by_cases hkj:k<j
   .obtain⟨q1,q2,q3,q4⟩:=k2 k (by omega) hkj;simp only[aD hkj];refine ⟨by omega,by omega,?_,λz=>?_⟩
    .intro z;simp only[av A,av hkc,aD hkj];let⟨N,e',r⟩:=q3 z;refine ⟨N,e',.inr ?_⟩;rcases r with r|⟨r1,L,r3⟩
     .rw[r,av (by omega),av (by omega),av (Eo _)];exact⟨by omega,by omega,by omega⟩
     .rw[av (by omega),av (by omega),aD L];exact⟨by omega,by omega,by omega⟩
    .refine .inr ?_;rw[av (by omega),av (by omega)];by_cases D:k+1<j
     .rw[aD D];rcases q4 z with r|r<;>omega
     .rw[av D];omega
   .have hkj:k=j:=by omega
    subst hkj;simp only[av (Eo _)];refine ⟨by omega,by omega,λ_=>⟨i,hx,.inr ⟨bO _,by omega,?_⟩⟩,λz=>by rw[hj]at z;omega⟩;simp only[av A,av hkc,av (Eo _)];by_cases ha:i<c
    .rw[aD ha];have:=(h2 i (bO _) ha).2.1;omega
    .rw[av ha,aD (by omega)];omega
def OB (nT:Nat) (i:IT):Prop:=
 if i.1=6 then 0<=i.2.2.1/\i.2.2.1<=2 else if i.1=8 then 0<=i.2.1/\i.2.1<=2 else if i.1=7 then i.2.2.1=3/\i.2.2.2.2.1=2 else if i.1=9 then i.2.1=3/\i.2.2.2.2.1=2 else if i.1=11\/i.1=12 then i.2.1=0\/i.2.1=1 else if 13<=i.1/\i.1<=16 then i.2.1=2 else if 21<=i.1/\i.1<=23 then i.2.1=0 else if i.1=24\/i.1=25 then 0<=i.2.1/\i.2.1<(nT:Int) else if i.1=26 then i.2.1=0 else if i.1=27 then i.2.2.1=0 else if i.1=4 then 6<=i.2.2.2.2.1/\i.2.2.2.2.1<=18 else ¬i.1=3
structure GO (nT:Nat) (i:IT):Prop where
 o1:1<=i.1
 o2:i.1<=27
 r:∀j:Int,j∈je i->0<=j/\j<32
 b:OB nT i
def SO (ss:Y π) (t s:Int):Prop:=0<=s/\s<l! ss/\(geti pO ss s).1=t
structure GI (nT:Nat) (ss:List π) (t:Int) (i:IT):Prop where
 o:GO nT i
 s:SO ss t i.2.2.2.2.2
def XL (l:Y IT) (hl:l! l<=1000000) (h1:1<=l! l) (hb:sk l 0 (l! l-1)) (he:(iA l (l! l-1)).1=28) (k:Nat) (hk:k<l! l):qB (l,(k:Int))=Z J:=by
 let⟨_,ρ,hρ⟩:=hb;refine cz ?_;unfold qB bi bM j_ bQ be cQ aG cN;refine rx (λx=>((l! l:Int)+1-x.2).toNat) (λx=>0<=x.2/\∃q:Nat,x.1=(q:Int)/\q<l! l/\((if q<l! l-1 then ρ q else 0:Nat):Int)+x.2<=(l! l:Int)) ?_ ⟨by dsimp only;omega,k,rfl,hk,?_⟩
 .rintro⟨a,(n:Int)⟩ ⟨n0,q,e,hq,hr⟩;dsimp only at n0 e hr;subst e;refine fc (λ_=>?_) λg=>(by dsimp only[ak]at g;omega)
  refine gV ?_;refine gV (bL (λg=>by dsimp only at g;omega) λ_=>aj ?_);refine gB (by rw[mX];dsimp only[ak];omega) ?_;refine cu (aS ?_);refine aT (HJ _) ?_;refine em (λ_=>aj rfl) λL=>?_
  have L:1<=(iA l q).1/\(iA l q).1<=5:=bx L;have A:q<l! l-1:=xf λh=>by rw[show q=l! l-1 by omega]at L;rw[he]at L;omega
  let⟨r1,r2,r3,r4⟩:=hρ q (mi _) A;rw[aD A]at hr;refine cu (aS ?_);have fin:∀z:Nat,z=l! l-1\/z<l! l-1/\ρ z<ρ q->0<=n+1/\∃D:Nat,(z:Int)=(D:Int)/\D<l! l/\((if D<l! l-1 then ρ D else 0:Nat):Int)+(n+1)<=(l! l:Int):=λz h=>⟨by omega,z,rfl,by omega,by
   rcases h with h|⟨h,h'⟩
   .rw[av (by omega)];omega
   .rw[aD h];omega⟩
  refine aI (λN=>?_) λN=>aj (aj ?_)
  .obtain⟨z,e,hq'⟩:=r3 N;refine aM (eM _) (by dsimp only;omega) (aS (aj (aj ?_)));dsimp only;rw[iQ (n:=n+1) (by omega) (by omega)];have:=fin z (hq'.imp id λh=>⟨h.2.1,h.2.2⟩);rw[<- e]at this;exact⟨this,by omega⟩
  .dsimp only;have N:¬(iA l q).1=5:=N;rw[iQ (n:=n+1) (by omega) (by omega),gQ];refine ⟨fin (q+1) ?_,by omega⟩;rcases r4 (by omega) with h|h
   .exact .inl h
   .by_cases hb:q+1=l! l-1
    .exact .inl hb
    .exact .inr ⟨by omega,h⟩
 .dsimp only;split
  next h=>have:=(hρ k (mi _) h).2.1;omega
  .omega
def Nc (w:WT) (z:w.1=C0):oE (w,3,2)=Z J:=by
 refine cz ?_;have h0:(0:Int)<=3:=by decide
 have h1:(3:Int)<(l! w.1:Int):=by rw[z];decide
 have A:geti mf w.1 3=([113],0,2,aa,0):=by rw[z];rfl
 unfold oE bi iE bQ be aG;refine gV (aT (tw _ _) (aI (λ_=>?_) λh=>(h ⟨h0,h1⟩).elim));dsimp only;rw[A];refine aM h0 h1 (aS (aI (λ_=>?_) λh=>(h rfl).elim));refine aM h0 h1 (aS (ch (λ_=>?_) λh=>b8 h (by decide)));exact aM h0 h1 (aS (aj (aj rfl)))
def Q4 {nT:Nat} (w:WT) (i:IT) (hw:WX w) (hT:l! w.2.2.2.2.1=nT) (z:OB nT i):mE (w,i)=Z J:=by
 let⟨D,hl,hd,hf,_,_,_⟩:=hw;refine cz ?_;unfold mE aW bm bF cG ep bi j_ bQ be aG;unfold OB at z;simp only[tw,ZO];refine aI (λh=>?_) λn6=>?_
 .rw[aD h]at z;have N:(geti mf w.1 i.2.2.1).2.2.1=(0:Int):=by
   rw[D];rcases (by omega:i.2.2.1=0\/i.2.2.1=1\/i.2.2.1=2) with h|h|h<;>rw[h]<;>rfl
  have hi:0<=i.2.2.1/\i.2.2.1<(l! w.1:Int):=⟨z.1,by rw[D];have:=z.2;show i.2.2.1<5;omega⟩
  exact gV (aI (λ_=>aM hi.1 hi.2 (aS (aj (aj (aR N))))) λh=>(h hi).elim)
 rw[av n6]at z;refine aI (λh=>?_) λn8=>?_
 .rw[aD h]at z;have N:(geti mf w.1 i.2.1).2.2.1=(0:Int):=by
   rw[D];rcases (by omega:i.2.1=0\/i.2.1=1\/i.2.1=2) with h|h|h<;>rw[h]<;>rfl
  have hi:0<=i.2.1/\i.2.1<(l! w.1:Int):=⟨z.1,by rw[D];have:=z.2;show i.2.1<5;omega⟩
  exact gV (aI (λ_=>aM hi.1 hi.2 (aS (aj (aj (aR N))))) λh=>(h hi).elim)
 rw[av n8]at z;refine aI (λh=>?_) λn7=>?_
 .rw[aD h]at z;rw[z.1,z.2];exact aT (Nc w D) (aj rfl)
 rw[av n7]at z;refine aI (λh=>?_) λn9=>?_
 .rw[aD h]at z;rw[z.1,z.2];exact aT (Nc w D) (aj rfl)
 rw[av n9]at z;refine aU (λx=>x.2=(w,i)/\(x.1=J↔i.1=11\/i.1=12)) (aI (λh=>aj ⟨rfl,λ_=>.inl h,λ_=>aR h⟩) λh=>aj ⟨rfl,λA=>.inr (bx A),λA=>aR (A.resolve_left h)⟩) ?_;rintro⟨b,x⟩ ⟨e,hx⟩;dsimp only at e hx;subst e;refine aN (λh=>?_) λh=>?_
 .rw[aD (hx.1 h)]at z;have N:(geti s9 w.2.1 i.2.1).2=aa:=by
   rw[hl];rcases z with h|h<;>rw[h]<;>rfl
  have hi:0<=i.2.1/\i.2.1<(l! w.2.1:Int):=⟨by omega,by rw[hl];show i.2.1<3;omega⟩
  exact gV (aI (λ_=>aM hi.1 hi.2 (aS (aj (aj (by dsimp only;rw[N];rfl))))) λh=>(h hi).elim)
 rw[av λA=>by rw[hx.2 A]at h;cases h]at z;have hj:∀{p:Prop} {b:Bool},(b=J->p)->(p->b=J)->b=aa->¬p:=λ_ A h3 L=>by rw[A L]at h3;cases h3
 refine aU (λx=>x.2=(w,i)/\(x.1=J->13<=i.1/\i.1<=16)/\(13<=i.1/\i.1<=16->x.1=J)) (aI (λh=>aj ⟨rfl,λ_=>by first|omega|(dsimp only at h;omega),λ_=>aR h⟩) λ_=>aI (λh=>aj ⟨rfl,λ_=>by first|omega|(dsimp only at h;omega),λ_=>aR h⟩) λ_=>aI (λh=>aj ⟨rfl,λ_=>by first|omega|(dsimp only at h;omega),λ_=>aR h⟩) λ_=>aj ⟨rfl,λh=>by have:=bx h;first|omega|(dsimp only at this;omega),λh=>aR (by first|omega|(dsimp only at *;omega))⟩) ?_;rintro⟨b,x⟩ ⟨e,h1,A⟩;dsimp only at e h1 A;subst e;refine aN (λh=>?_) λh=>?_
 .rw[aD (h1 h)]at z;have hi:0<=i.2.1/\i.2.1<(l! w.2.1:Int):=⟨by omega,by rw[hl];show i.2.1<3;omega⟩
  exact gV (aI (λ_=>aM hi.1 hi.2 (aS (aj (aj (by dsimp only;rw[z,hl];rfl))))) λh=>(h hi).elim)
 rw[av (hj h1 A h)]at z;refine aU (λx=>x.2=(w,i)/\(x.1=J->21<=i.1/\i.1<=23)/\(21<=i.1/\i.1<=23->x.1=J)) (aI (λh=>aj ⟨rfl,λ_=>by first|omega|(dsimp only at h;omega),λ_=>aR h⟩) λ_=>aI (λh=>aj ⟨rfl,λ_=>by first|omega|(dsimp only at h;omega),λ_=>aR h⟩) λ_=>aj ⟨rfl,λh=>by have:=bx h;first|omega|(dsimp only at this;omega),λh=>aR (by first|omega|(dsimp only at *;omega))⟩) ?_;rintro⟨b,x⟩ ⟨e,h1,A⟩;dsimp only at e h1 A;subst e;refine aN (λh=>?_) λh=>?_
 .rw[aD (h1 h)]at z;exact aj (aR ⟨by dsimp only;omega,by dsimp only;rw[hd];show i.2.1<1;omega⟩)
 rw[av (hj h1 A h)]at z;refine aU (λx=>x.2=(w,i)/\(x.1=J->i.1=24\/i.1=25)/\(i.1=24\/i.1=25->x.1=J)) (aI (λh=>aj ⟨rfl,λ_=>.inl h,λ_=>aR h⟩) λh=>aj ⟨rfl,λA=>.inr (bx A),λA=>aR (A.resolve_left h)⟩) ?_;rintro⟨b,x⟩ ⟨e,h1,A⟩;dsimp only at e h1 A;subst e;refine aN (λh=>?_) λh=>?_
 .rw[aD (h1 h)]at z;exact aj (aR ⟨z.1,by dsimp only;rw[hT];exact z.2⟩)
 rw[av (hj h1 A h)]at z;refine aI (λh=>?_) λn=>?_
 .rw[aD h]at z;exact aj (aR ⟨by dsimp only;omega,by dsimp only;rw[hf];show i.2.1<1;omega⟩)
 rw[av n]at z;refine aI (λh=>?_) λn=>?_
 .rw[aD h]at z;exact aj (aR ⟨by dsimp only;omega,by dsimp only;rw[hf];show i.2.2.1<1;omega⟩)
 rw[av n]at z;by_cases L:i.1=4
 .rw[aD L]at z;refine aI (λh=>by have h:i.1=3:=h;omega) λ_=>aI (λ_=>?_) λh=>(h L).elim
  refine gV (fc (λ_=>aj (aj (Rm.2 z.2))) λh=>by dsimp only at h;omega)
 .rw[av L]at z;exact aI (λh=>(z h).elim) λ_=>aI (λh=>(L h).elim) λ_=>aj rfl
structure GC (nT:Nat) (ss:List π) (k:Int) (c:Int×List IT):Prop where
 r0:1<=c.1
 r1:c.1<=32
 n:1<=l! c.2
 u:l! c.2<=1000000
 e:(iA c.2 (l! c.2-1)).1=28/\(iA c.2 (l! c.2-1)).2.2.2.2.2= -1
 b:sk c.2 0 (l! c.2-1)
 i:∀q:Nat,q<l! c.2-1->GI nT ss k (iA c.2 q)
 r:∀q:Nat,q<l! c.2-1->(iA c.2 q).1=10->0<=(iA c.2 q).2.2.1/\(iA c.2 q).2.2.1<(l! c.2:Int)
 g:∀q:Nat,q<l! c.2-1->∀j:Int,j∈je (iA c.2 q)->j<c.1
def Gn {nT:Nat} {w:WT} {c:Int×Y IT} (hw:WX w) (hT:l! w.2.2.2.2.1=nT) (hc:GC nT w.2.2.2.2.2 a c):iH (w,a,c)=Z J:=by
 let⟨r0,r1,n1,hu,he,hb,hi,hr,hg⟩:=hc;refine cz ?_;unfold iH aW bm bF cG cg dk En bi bM iE bQ be cQ aG cN;refine aU (λx=>x.2=(w,c)/\x.1=aa) ?_ ?_
 .refine bL (λh=>by have h:c.1<0:=h;omega) λ_=>bL (λh=>by have h:32<c.1:=h;omega) λ_=>aj ⟨rfl,cD λh=>by have h:aQ (l! c.2)=0:=h;dsimp only[ak]at h;omega⟩
 rintro⟨b,x⟩ ⟨e,hb'⟩;dsimp only at e hb';subst e hb';refine iT ?_;refine cm (l! c.2) (λi x=>x.1=(i:Int)/\x.2=(w,c)) ?_ ?_ ⟨rfl,rfl⟩
 .rintro i ⟨k,x⟩ hi2 ⟨e1,e2⟩;dsimp only at e1 e2;subst e1 e2;have hla:=XL c.2 hu n1 hb he.1 i hi2;have hz:∀z:IT,z=iA c.2 i->(i<l! c.2-1->GI nT w.2.2.2.2.2 a z/\(z.1=10->0<=z.2.2.1/\z.2.2.1<(l! c.2:Int))/\(z.1=5->0<=z.2.1/\z.2.1<(l! c.2:Int))/\∀j:Int,j∈je z->j<c.1)/\(i=l! c.2-1->z.1=28/\z.2.2.2.2.2= -1):=λz hz=>by
   subst hz;refine ⟨λh=>⟨hi i h,hr i h,λh5=>?_,hg i h⟩,λh=>by rw[h];exact he⟩;let⟨_,ρ,hρ⟩:=hb;let⟨q',e,hq'⟩:=(hρ i (mi _) h).2.2.1 h5;rw[e];omega
  refine du ?_;refine cu (aS ?_);generalize hzz:(geti sx c.2 (i:Int))=z;let⟨A,D⟩:=hz z hzz.symm;have hcs:i<l! c.2-1\/i=l! c.2-1:=by omega
  have o1:1<=z.1:=by
   rcases hcs with h|h
   .exact (A h).1.o.o1
   .rw[(D h).1];decide
  have o2:z.1<=28:=by
   rcases hcs with h|h
   .exact ta (A h).1.o.o2 (by decide)
   .rw[(D h).1];decide
  have N:z.1=28->i=l! c.2-1:=λh=>hcs.resolve_left λg=>by have:=(A g).1.o.o2;rw[h]at this;exact b8 this (by decide)
  have hob:OB nT z:=by
   rcases hcs with h|h
   .exact (A h).1.o.b
   .unfold OB;rw[(D h).1];simp
  have hrg:∀j:Int,j∈je z->0<=j/\j<c.1:=λj L=>by
   rcases hcs with h|h
   .exact⟨((A h).1.o.r j L).1,(A h).2.2.2 j L⟩
   .unfold je at L;rw[(D h).1]at L;simp at L
  have hwr:bl .i64 (aQ (l! c.2)-1)=((l! c.2-1:Nat):Int):=by rw[iQ (by dsimp only[ak];omega) (by dsimp only[ak];omega)];dsimp only[ak];omega
  have hcd:((decide (z.1=28)==decide ((i:Int)=bl .i64 (aQ (l! c.2)-1))) !=J)=aa:=by
   rw[hwr];rcases hcs with h|h
   .rw[cD λh2=>by have:=N h2;omega,cD (by omega:¬(i:Int)=((l! c.2-1:Nat):Int))];rfl
   .rw[aR (D h).1,aR (by omega:(i:Int)=((l! c.2-1:Nat):Int))];rfl
  refine aU (λx=>x=(aa,w,c,z)) ?_ ?_
  .refine bL (λh=>b8 h (Ei.2 o1)) λ_=>bL (λh=>b8 h (Ei.2 o2)) λ_=>gB hcd ?_
   refine aT (Q4 w z hw hT hob) (gB rfl (aT hla (aj rfl)))
  rintro x rfl;refine iT (aU (λx=>x=(aa,w,c,z)) ?_ ?_)
  .simp only[tw,ZO];refine aI (λh=>?_) λh=>?_
   .have h5:=(D (N h)).2;exact ch (λg=>(g h5).elim) λ_=>ch (λg=>(g h).elim) λ_=>aj rfl
   .have hsi:=(A (hcs.resolve_right λg=>h (D g).1)).1.s;refine ch (λ_=>ch (λg=>(g ⟨hsi.1,hsi.2.1⟩).elim) λg=>aM g.1 g.2 (aS (aj ?_))) λg=>(h g).elim
    rw[aR hsi.2.2];rfl
  rintro x rfl;refine iT (aU (λx=>x=(aa,w,c,z)) ?_ ?_)
  .simp only[tw,ZO];have n28:z.1=5\/z.1=10->i<l! c.2-1:=λh=>hcs.resolve_right λg=>by rw[(D g).1]at h;exact b8 h (by decide)
   refine aI (λh=>?_) λh=>?_
   .have h2:=(A (n28 (.inl h))).2.2.1 h;refine ch (λg=>(g h2).elim) λ_=>aI (λg=>?_) λ_=>aj rfl
    rw[h]at g;exact b8 g (by decide)
   .refine aI (λg=>aj ?_) λ_=>aj rfl
    have h2:=(A (n28 (.inr g))).2.1 g;rw[aR (show 0<=z.2.2.1/\z.2.2.1<aQ (l! c.2) from h2)];rfl
  rintro x rfl;refine iT (aT (uY z) ?_);have hrl:=EJ z;refine cm (l! (je z)) (λj x=>x=((j:Int),w,c)) ?_ ?_ rfl
  .rintro j x L rfl;refine du ?_;refine cu (aS ?_);refine aT (tw _ _) (ch (λg=>(g (hrg _ (bP (T:=aL) (xs:=je z) (j:=(j:Int)) (by omega) (by omega)))).elim) λ_=>aj ?_);dsimp only;rw[gQ]
  .rintro x rfl;exact dg (aj ⟨gQ,rfl⟩)
 .rintro⟨k,x⟩ ⟨e1,e2⟩;dsimp only at e1 e2;subst e1 e2;exact dg (aj rfl)
section
abbrev GN:Type:=Y (ζ×Int×Int×Bool×Int)×Y (ζ×Bool)×Y (ζ×Int)×Y ζ×Y ζ×Y π×Y ζ×i?
def PC (l:Y F!) (s:ζ) (D:l! l<=1000):Ok (lm (l,s)) λr=> -1<=r/\r<l! l/\(0<=r->(geti s9 l r).1=s)/\(r<0->∀c∈l,c.1≠s):=by
 unfold lm bM bQ be cQ aG cN;refine cm (l! l) (λi x=>x=(i:Int)/\∀k:Nat,k<i->(geti s9 l (k:Int)).1≠s) ?_ ?_ ⟨rfl,λk A=>by omega⟩
 .rintro i x hi ⟨rfl,z⟩;refine du ?_;refine cu (aS ?_);refine aI (λh=>aj ⟨by omega,by omega,λ_=>h,λh=>by omega⟩) λh=>aj ⟨gQ,λk A=>?_⟩
  rcases bG k i with h1|h1
  .exact z k h1
  .rw[show k=i by omega];exact h
 .rintro x ⟨rfl,z⟩;exact dg (aj ⟨by omega,by omega,λh=>by omega,λ_=>iL (T:=s9) (p:=λc=>c.1≠s) z⟩)
def ang {s:ζ} (h: -1<=a/\a<I8.length/\(0<=a->(geti s9 I8 a).1=s)/\(a<0->∀c∈I8,c.1≠s)):(s=[109]->a=0)/\(s=[110]->a=1)/\(s=[114]->a=2):=by
 let⟨h0,h1,z,A⟩:=h;have h1:a<3:=h1;rcases (by omega:a= -1\/a=0\/a=1\/a=2) with rfl|rfl|rfl|rfl
 .have A:=A (by decide);exact⟨λh=>(A ([109],aa) (by decide) h.symm).elim,λh=>(A ([110],aa) (by decide) h.symm).elim,λh=>(A ([114],J) (by decide) h.symm).elim⟩
 .have z:[109]=s:=z (by decide);subst z;exact⟨λ_=>rfl,nofun,nofun⟩
 .have z:[110]=s:=z (by decide);subst z;exact⟨nofun,λ_=>rfl,nofun⟩
 .have z:[114]=s:=z (by decide);subst z;exact⟨nofun,nofun,λ_=>rfl⟩
def Cv (w:WT) (s:ζ) (N:w.1=C0):Ok (mo (w,s)) λr=>(s∈NV->s∉L0->0<=r/\r<=2)/\(s=[113]->r=3):=by
 have hl:l! w.1=5:=by rw[N];rfl
 unfold mo bM bQ be cQ aG cN;refine cm (l! w.1) (λi x=>x.1=(i:Int)/\x.2=w/\∀k:Nat,k<i->(geti mf w.1 (k:Int)).1≠s) ?_ ?_ ⟨rfl,rfl,λk hk=>by omega⟩
 .rintro i ⟨a,x⟩ hi ⟨D,e2,z⟩;dsimp only at D e2 z;subst D;have e2:=e2.symm;subst e2;refine du ?_;refine cu (aS ?_);refine aI (λh=>aj ?_) λg=>aj ?_
  .rw[N]at h z;rw[hl]at hi;rcases (by omega:i=0\/i=1\/i=2\/i=3\/i=4) with rfl|rfl|rfl|rfl|rfl
   .have h:[120]=s:=h;subst h;exact⟨λ_ _=>⟨by dsimp only;omega,by dsimp only;omega⟩,nofun⟩
   .have h:[121]=s:=h;subst h;exact⟨λ_ _=>⟨by dsimp only;omega,by dsimp only;omega⟩,nofun⟩
   .have h:[118]=s:=h;subst h;exact⟨λ_ _=>⟨by dsimp only;omega,by dsimp only;omega⟩,nofun⟩
   .have h:[113]=s:=h;subst h;exact⟨λh=>b8 h (by decide),λ_=>rfl⟩
   .have h:[113]=s:=h;exact (z 3 (by omega) h).elim
  .refine ⟨gQ,rfl,λk hk=>?_⟩;rcases bG k i with h1|h1
   .exact z k h1
   .rw[show k=i by omega];exact g
 .rintro⟨a,x⟩ ⟨D,e2,z⟩;dsimp only at D e2 z;subst D;have e2:=e2.symm;subst e2;refine dg (aj ?_);have A:=iL (T:=mf) (p:=λc=>c.1≠s) z;rw[N]at A;have a1:=A ([120],0,0,aa,0) (by decide);have a2:=A ([121],0,0,aa,1) (by decide);have a3:=A ([118],0,0,J,0) (by decide);have a4:=A ([113],0,2,aa,0) (by decide);refine ⟨λh L=>?_,λh=>(a4 h.symm).elim⟩;simp only[aZ,cw,fF,L0]at h L;rcases h with rfl|rfl|rfl|rfl|rfl
  .exact (L (.inl rfl)).elim
  .exact (L (.inr rfl)).elim
  .exact (a1 rfl).elim
  .exact (a2 rfl).elim
  .exact (a3 rfl).elim
def KE (i:IT) (g:GN) (out:Y IT) (h:l! out<=100000000):Ok (cJ (i,g,out)) λy=>y.1=g/\y.2=out++[(i.1,i.2.1,i.2.2.1,i.2.2.2.1,i.2.2.2.2.1,g.2.2.2.2.2.2.2.1)]:=by
 unfold cJ aW bm bF jW bX;exact a! (aj ⟨rfl,rfl⟩)
def VE:Nat->Nat
 |0=>0
 |d+1=>1+2*VE d
def Ls {l m:Y IT} (h:i<l! l):iA (l++m) i=iA l i:=by
 unfold iA;rw[xu,xu,aw,aw,bC h]
def zB (l:Y IT) (x:IT):iA (l++[x]) (l! l)=x:=by
 unfold iA;rw[xu,aw,bS (bO _)];simp
structure QC (nT:Nat) (ss:List π) (t:Int) (n:Nat) (out o:List IT):Prop where
 l:l! out<=l! o
 u:l! o<=l! out+n
 p:∀k:Nat,k<l! out->iA o k=iA out k
 b:sk o (l! out) (l! o)
 i:∀k:Nat,l! out<=k->k<l! o->GI nT ss t (iA o k)
 r:∀k:Nat,l! out<=k->k<l! o->(iA o k).1=10->0<=(iA o k).2.2.1/\(iA o k).2.2.1<=(l! o:Int)
variable {nT:Nat} {ss:Y π} {t:Int}
def QC.nil (n:Nat) (out:Y IT):QC nT ss t n out out:=⟨bO _,by omega,λ_ _=>rfl,sk.nil _ _,λk h1 z=>by omega,λk h1 z=>by omega⟩
def QC.trans {c:Nat} {x y z:Y IT} (h:QC nT ss t i x y) (k:QC nT ss t j y z) (hc:i+j<=c):QC nT ss t c x z:=by
 let⟨h1,h2,h3,h4,h5,h6⟩:=h;let⟨k1,k2,k3,k4,k5,k6⟩:=k;refine ⟨by omega,by omega,λq A=>(k3 q (by omega)).trans (h3 q A),(h4.congr λq _ A=>k3 q A).app k4,λq N L=>?_,λq N L D=>?_⟩
 .by_cases A:q<l! y
  .rw[k3 q A];exact h5 q N A
  .exact k5 q (by omega) L
 .by_cases A:q<l! y
  .rw[k3 q A]at D ⊢;have:=h6 q N A D;omega
  .exact k6 q (by omega) L D
def QC.one {out:Y IT} {i:IT} (h:GI nT ss t i) (z:¬i.1=5/\¬i.1=10):QC nT ss t 1 out (out++[i]):=by
 have D:l! (out++[i])=l! out+1:=by rw[bc];rfl
 refine ⟨by omega,by omega,λk L=>Ls L,?_,λk h1 N=>?_,λk h1 N A=>?_⟩
 .rw[D];exact sk.one (by rw[zB];exact z.1)
 .rw[show k=l! out by omega,zB];exact h
 .rw[show k=l! out by omega,zB]at A;exact (z.2 A).elim
structure GK (ss:List π) (t:Int) (g:GN):Prop where
 c:g.1=C0
 l:g.2.2.2.2.2.2.1=L0
 s:SO ss t g.2.2.2.2.2.2.2.1
def goI {nT:Nat} {op B C N y:Int} (h1:1<=op) (L:op<=27) (z:∀j:Int,j∈je (op,a,B,C,N,y)->0<=j/\j<32) (D:OB nT (op,a,B,C,N,y)):GO nT (op,a,B,C,N,y):=⟨h1,L,z,D⟩
def Gx {op:Int} {r:υ} {g:GN} {out:Y IT} (h:l! out<=100000000) (A:GK ss t g) (hi:GO nT (op,r)) (D:¬op=5/\¬op=10):Ok (cJ ((op,r),g,out)) λy=>y.1=g/\QC nT ss t 1 out y.2:=(KE (op,r) g out h).mono λy z=>⟨z.1,by rw[z.2];exact QC.one ⟨⟨hi.o1,hi.o2,hi.r,hi.b⟩,A.s⟩ D⟩
abbrev x?:=GN×Y IT
def PP:∀(n d:Nat),d<n->∀(e:Xp) (k:Int) (g:GN) (out:Y IT),GE d e->GK ss t g->0<=k->k+d<=31->l! out+VE d<=100000000->Ok (iX n ((e,k),g,out)) λy=>y.1=g/\QC nT ss t (VE d) out y.2
 |0,_,h,_,_,_,_,_,_,_,_,_=>by omega
 |n+1,0,_,e,_,_,_,h,_,_,_,_=>h.elim
 |n+1,d+1,hn,e,k,g,out,h,hg,k0,k1,hb=>by
  obtain⟨h1,h2,h3,h4,h5,h6⟩:=h;obtain⟨gc,gl,gs⟩:=id hg;have hv:VE (d+1)=1+2*VE d:=rfl;rw[CR];unfold rU aW bm bF cG ep bi j_ bX bQ aG cN;refine aU (λy=>y.1=g/\QC nT ss t (VE (d+1)) out y.2) ?_ λx hx=>aj hx
  have fin:∀{y:x?},(y.1=g/\QC nT ss t 1 out y.2)->y.1=g/\QC nT ss t (VE (d+1)) out y.2:=λh=>⟨h.1,(QC.nil 0 out).trans h.2 (by omega)⟩
  refine aI (λ_=>?_) λn1=>?_
  .refine ax (Gx (nT:=nT) (by omega) hg (goI (by decide) (by decide) (by simp[je];omega) ((by decide:¬(1:Int)=3))) (by decide)) λy z=>a8 (by simp) (aj (fin z))
  refine aI (λn2=>?_) λn2=>?_
  .refine ax (Ax _ _ (by dsimp only;rw[gl];decide)) λv hv=>fc (λg0=>?_) λg0=>?_
   .have A:=hv.2.1;dsimp only at A g0;rw[gl]at A;have A:v<2:=A;refine ax (Gx (nT:=nT) (by omega) hg (goI (by decide) (by decide) (by simp[je];omega) ((by decide:¬(2:Int)=3))) (by decide)) λy z=>a8 (by simp) (aj (fin z))
   .have A:=hv.2.2.2 g0;dsimp only at A;rw[gl]at A;refine ax (Cv _ _ gc) λv N=>?_
    have v2:=N.1 (h5 n2) A;refine ax (Gx (nT:=nT) (by omega) hg (goI (by decide) (by decide) (by simp[je];omega) (v2)) (by decide)) λy z=>a8 (by simp) (aj (fin z))
  have hl:=h2 n1 n2;have hrec:∀(j:Nat),j<l! e.l->∀(k':Int) (o:Y IT),0<=k'->k'+d<=31->l! o+VE d<=100000000->Ok (iX n ((geti (.ex) e.l (j:Int),k'),g,o)) λy=>y.1=g/\QC nT ss t (VE d) o y.2:=λj hj k' o q0 L ho=>PP n d (by omega) _ k' g o (h4 _ (bP (T:=.ex) (xs:=e.l) (j:=(j:Int)) (by omega) (by omega))) hg q0 L ho
  refine aI (λn3=>?_) λn3=>?_
  .refine cu (aS ?_);refine ax (hrec 0 hl k out k0 (by omega) (by omega)) λy z=>?_
   obtain⟨g2,o2⟩:=y;obtain⟨L,D⟩:=z;dsimp only at L D;subst L;have q3:=D.u;refine a8 (by simp) ?_;refine ax (Cv _ _ gc) λv N=>?_
   have v3:=N.2 (h1 n3);have v3:v=3:=v3;subst v3;refine aM (by decide) (by dsimp only;rw[gc];decide) (aS ?_);refine ax (Gx (nT:=nT) (by omega) hg (goI (by decide) (by decide) (by simp[je];omega) (⟨rfl,by dsimp only;rw[gc];rfl⟩)) (by decide)) λy z=>a8 (by simp) (aj ⟨z.1,D.trans z.2 (by omega)⟩)
  obtain⟨h7,h8,h9⟩:=h6 n1 n2 n3;refine aI (λn4=>?_) λn4=>?_
  .dsimp only[ak]at n4;omega
  .have hl2:1<l! e.l:=by omega
   refine cu (aS ?_);refine ax (hrec 0 hl k out k0 (by omega) (by omega)) λy z=>?_
   obtain⟨g2,o2⟩:=y;obtain⟨L,D⟩:=z;dsimp only at L D;subst L;have q3:=D.u;refine a8 (by simp) ?_;refine cu (aS ?_);dsimp only;rw[iQ (n:=k+1) (by omega) (by omega)];refine ax (hrec 1 hl2 _ o2 (by omega) (by omega) (by omega)) λy z=>?_
   obtain⟨g3,o3⟩:=y;obtain⟨r1,r2⟩:=z;dsimp only at r1 r2;subst r1;have r3:=r2.u;refine a8 (by simp) ?_;refine ax (Gx (nT:=nT) (by omega) hg (goI (by decide) (by decide) (by simp[je];omega) (⟨h8,h9⟩)) (by decide)) λy z=>a8 (by simp) (aj ⟨z.1,(D.trans r2 (bO _)).trans z.2 (by omega)⟩)
def Xh (e:Xp) (k:Int) (g:GN) (out:Y IT) (he:GE 4 e) (A:GK ss t g) (z:0<=k) (k1:k<=27) (h:l! out<=99999900):Ok (iW ((e,k),g,out)) λy=>y.1=g/\QC nT ss t 15 out y.2:=PP fuel 4 (by rw[kP];omega) e k g out he A z (by omega) (by have:VE 4=15:=rfl;omega)
end
section
structure GB (nT:Nat) (g:GN):Prop where
 c:g.1=C0
 l:g.2.1=I8
 d:g.2.2.1=NI
 f:g.2.2.2.1=WI
 t:g.2.2.2.2.1=xH.take nT
 h:g.2.2.2.2.2.2.1=L0
structure GQ (g y:GN):Prop where
 a:y.1=g.1
 b:y.2.1=g.2.1
 c:y.2.2.1=g.2.2.1
 d:y.2.2.2.1=g.2.2.2.1
 e:y.2.2.2.2.1=g.2.2.2.2.1
 h:y.2.2.2.2.2.2.1=g.2.2.2.2.2.2.1
def GQ.refl (g:GN):GQ g g:=⟨rfl,rfl,rfl,rfl,rfl,rfl⟩
def GQ.trans {a b c:GN} (h:GQ a b) (k:GQ b c):GQ a c:=⟨k.a.trans h.a,k.b.trans h.b,k.c.trans h.c,k.d.trans h.d,k.e.trans h.e,k.h.trans h.h⟩
variable {nT:Nat} {ss:Y π} {t:Int}
def GB.of {g y:GN} (h:GB nT g) (q:GQ g y):GB nT y:=⟨q.a.trans h.c,q.b.trans h.l,q.c.trans h.d,q.d.trans h.f,q.e.trans h.t,q.h.trans h.h⟩
def GQ.site (g:GN) (x:Y π) (a b:Int):GQ g (g.1,g.2.1,g.2.2.1,g.2.2.2.1,g.2.2.2.2.1,x,g.2.2.2.2.2.2.1,a,b):=⟨rfl,rfl,rfl,rfl,rfl,rfl⟩
abbrev gS (g:GN):Int:=g.2.2.2.2.2.2.2.1
abbrev gN (g:GN):Int:=g.2.2.2.2.2.2.2.2
structure QG (nT:Nat) (ss:List π) (t:Int) (n m:Nat) (g:GN) (out:List IT) (y:GN×List IT):Prop where
 q:GQ g y.1
 c:QC nT ss t n out y.2
 x:gN y.1=gN g+(m:Int)
def yW {op:Int} {r:υ} {g:GN} {out:Y IT} (h:l! out<=100000000) (z:GB nT g) (A:SO ss t (gS g)) (hi:GO nT (op,r)) (D:¬op=5/\¬op=10):Ok (cJ ((op,r),g,out)) λy=>y.1=g/\QC nT ss t 1 out y.2:=Gx h ⟨z.c,z.h,A⟩ hi D
def Eu (e:Xp) (k:Int) (g:GN) (out:Y IT) (he:GE 4 e) (z:GB nT g) (D:SO ss t (gS g)) (A:0<=k) (k1:k<=27) (h:l! out<=99999000):Ok (iW ((e,k),g,out)) λy=>y.1=g/\QC nT ss t 15 out y.2:=Xh e k g out he ⟨z.c,z.h,D⟩ A k1 (by omega)
def GB.len {g:GN} (h:GB nT g):aQ (ah g.2.2.2.2.2.2.1)=2:=by rw[h.h];rfl
def Y4 (s:Sx) (g:GN) (out:Y IT) (h1:s.index≠[]->s.name=[113]) (h2:∀e∈s.index,GE 4 e) (h3:GE 4 s.expr) (h4:s.index=[]->s.name∈NV) (z:GB nT g) (hs:SO ss t (gS g)) (h:l! out<=99990000):Ok (mV (s,g,out)) λy=>y.1=g/\QC nT ss t 40 out y.2:=by
 have hex:GE 4 (ef (Xp.op s.expr,Xp.n s.expr,Xp.name s.expr,Xp.l s.expr)):=by rw[fx];exact h3
 have e3:bl .i64 ((2:Int)+1)=3:=iQ (by decide) (by decide);unfold mV aW bm bF cG ep bM j_ bX bQ be;refine bL (λD=>?_) λD=>?_
 .dsimp only[ak]at D;refine cu (aS ?_);refine ax (Eu _ _ g out (h2 _ (bP (T:=.ex) (xs:=s.index) (j:=0) (by omega) (by omega))) z hs (by rw[z.len];decide) (by rw[z.len];decide) (by omega)) λy A=>?_
  let⟨g2,o2⟩:=y;let⟨q1,N⟩:=A;dsimp only at q1 N;subst q1;have q3:=N.u;refine a8 (by simp) ?_;dsimp only;rw[z.len,e3];refine ax (Eu _ _ g2 o2 hex z hs (by decide) (by decide) (by omega)) λy A=>?_
  let⟨g3,o3⟩:=y;let⟨r1,r2⟩:=A;dsimp only at r1 r2;subst r1;have r3:=r2.u;refine a8 (by simp) ?_;refine ax (Cv _ _ z.c) λv hv=>?_
  have v3:=hv.2 (h1 (λh=>by rw[h]at D;simp at D));have v3:v=3:=v3;subst v3;refine aM (by decide) (by dsimp only;rw[z.c];decide) (aS ?_);refine ax (yW (by omega) z hs (goI (by decide) (by decide) (by simp[je,z.h,L0]) (⟨rfl,by dsimp only;rw[z.c];rfl⟩)) (by decide)) λy A=>a8 (by simp) (aj ⟨A.1,(N.trans r2 (bO _)).trans A.2 (by omega)⟩)
 .have hi0:s.index=[]:=db.1 (by dsimp only[ak]at D;omega);refine ax (Eu _ _ g out hex z hs (by rw[z.len];decide) (by rw[z.len];decide) (by omega)) λy A=>?_
  let⟨g2,o2⟩:=y;let⟨q1,N⟩:=A;dsimp only at q1 N;subst q1;have q3:=N.u;refine a8 (by simp) ?_;refine ax (Ax _ _ (by dsimp only;rw[z.h];decide)) λv hv=>fc (λD=>?_) λD=>?_
  .have L:=hv.2.1;dsimp only at L D;rw[z.h]at L;have L:v<2:=L;refine ax (yW (by omega) z hs (goI (by decide) (by decide) (by simp[je,z.h,L0];omega) ((by decide:¬(2:Int)=3))) (by decide)) λy A=>a8 (by simp) (aj ⟨A.1,N.trans A.2 (by omega)⟩)
  .have L:=hv.2.2.2 D;dsimp only at L;rw[z.h]at L;refine ax (Cv _ _ z.c) λv hv2=>?_
   have v2:=hv2.1 (h4 hi0) L;refine ax (yW (by omega) z hs (goI (by decide) (by decide) (by simp[je,z.h,L0]) (v2)) (by decide)) λy A=>a8 (by simp) (aj ⟨A.1,N.trans A.2 (by omega)⟩)
def ahp (s:ζ) (g:GN) (out:Y IT) (D:GB nT g):Ok (kf (s,g,out)) λy=>y.2=(g,out)/\(s=[99]->y.1=0):=by
 have hd:l! g.2.2.1=1:=by rw[D.d];rfl
 unfold kf aW bM bQ be cQ aG cN;refine cm 1 (λi x=>x.1=(i:Int)/\x.2=(g,out)/\(s=[99]->i=0)) ?_ ?_ ⟨rfl,rfl,λ_=>rfl⟩
 .rintro i ⟨a,x⟩ hi ⟨z,e2,A⟩;dsimp only at z e2 A;subst z e2;refine du ?_;refine cu (aS ?_);refine aI (λ_=>aj ⟨rfl,λ_=>by dsimp only;omega⟩) λh=>aj ⟨gQ,rfl,λL=>?_⟩
  refine (h ?_).elim;dsimp only;rw[D.d,show i=0 by omega,L];rfl
 .rintro⟨a,x⟩ ⟨z,e2,A⟩;dsimp only at z e2 A;subst z e2;exact dg (aj ⟨rfl,λh=>by have:=A h;omega⟩)
def ME:Nat->Nat
 |0=>0
 |d+1=>50+16*ME d
def SR (ss:Y π) (t a:Int) (m:Nat):Prop:=0<=a/\a+m<=1000/\∀i:Int,a<=i->i<a+m->SO ss t i
def SpG (nT:Nat) (ss:Y π) (t:Int) (z:Sx×x?->M x?) (d:Nat):Prop:=∀(s:Sx) (g:GN) (out:Y IT),GS nT d s->GB nT g->SR ss t (gN g) (SS d s)->l! out+ME d<=90000000->Ok (z (s,g,out)) (QG nT ss t (ME d) (SS d s) g out)
def ail (nT:Nat) (ss:Y π) (t:Int) (z:Y Sx×x?->M x?) (d:Nat):Prop:=∀(l:Y Sx) (g:GN) (out:Y IT),l! l<=100->(∀s∈l,GS nT d s)->GB nT g->SR ss t (gN g) (oP d l)->l! out+l! l*ME d<=90000000->Ok (z (l,g,out)) (QG nT ss t (l! l*ME d) (oP d l) g out)
end
section
abbrev FS6:Type:=Y Sx×x?->M x?
abbrev FT6:Type:=Sx×x?->M x?
abbrev FA6:Type:=(Sx×Int×Int×Int)×x?->M x?
variable {nT:Nat} {ss:Y π} {t:Int}
def aq9 (nT:Nat) (ss:Y π) (t:Int) (z:FT6) (d:Nat):Prop:=∀(s:Sx) (g:GN) (out:Y IT),s.op=2\/s.op=3->GE 4 s.expr->l! s.body<=8->l! s.els<=8->(∀x∈s.body,GS nT d x)->(∀x∈s.els,GS nT d x)->(¬s.op=2->s.els=[])->GB nT g->SO ss t (gS g)->SR ss t (gN g) (oP d s.body+oP d s.els)->l! out+ME (d+1)<=90000000->Ok (z (s,g,out)) (QG nT ss t (17+16*ME d) (oP d s.body+oP d s.els) g out)
def aqa (nT:Nat) (ss:Y π) (t:Int) (z:FA6) (d:Nat):Prop:=∀(s:Sx) (a b c:Int) (g:GN) (out:Y IT),l! s.body<=8->(∀x∈s.body,GS nT d x)->GO nT (a,c,0,0,0,0)->GO nT (b,c,0,0,0,0)->¬a=5/\¬a=10->¬b=5/\¬b=10->GB nT g->SO ss t (gS g)->SR ss t (gN g) (oP d s.body)->l! out+ME (d+1)<=90000000->Ok (z ((s,a,b,c),g,out)) (QG nT ss t (17+16*ME d) (oP d s.body) g out)
def SR.sub {b:Int} {n:Nat} (h:SR ss t a i) (h1:a<=b) (z:b+n<=a+i):SR ss t b n:=⟨by have:=h.1;omega,by have:=h.2.1;omega,λm D A=>h.2.2 m (by omega) (by omega)⟩
def Yg (rs:FS6) (N:FT6) (rb:FT6) (ra:FA6) (d:Nat) (ht:SpG nT ss t N d):ail nT ss t (rV rs N rb ra) d:=by
 intro l g out hl hs hg hso hb;unfold rV bM bX bQ be cQ aG cN;refine cm (l! l) (λi x=>x.1=(i:Int)/\QG nT ss t (i*ME d) (oP d (l.take i)) g out x.2) ?_ ?_ ⟨rfl,GQ.refl g,QC.nil _ _,by simp[oP]⟩
 .rintro i ⟨a,g2,o2⟩ hi ⟨z,D,A,q3⟩;dsimp only at z D A q3;subst z;have hK:(i+1)*ME d<=l! l*ME d:=cK _ (by omega);have hKs:=ju i (ME d);rw[Nat.succ_eq_add_one]at hKs;have hp:=Se (d:=d) l (i+1);rw[yB hi]at hp;have q4:=A.u;refine du ?_;refine cu (aS ?_);refine ax (ht _ g2 o2 (hs _ (bP (T:=.sm) (xs:=l) (j:=(i:Int)) (by omega) (by omega))) (hg.of D) (hso.sub (by rw[q3];omega) (by rw[q3];dsimp only;omega)) (by omega)) λy L=>a8 (by simp) (aj ?_)
  rw[yB hi];exact⟨gQ,D.trans L.q,A.trans L.c (by omega),by rw[L.x,q3];dsimp only;omega⟩
 .rintro⟨a,g2,o2⟩ ⟨z,q⟩;dsimp only at z;subst z;rw[cv]at q;exact dg (aj q)
def UP (rs:FS6) (rt:FT6) (rb:FT6) (ra:FA6) (d:Nat) (hS:ail nT ss t rs d):aqa nT ss t (pY rs rt rb ra) d:=by
 intro s a b c g out h1 h2 ga gb na nb L hs hso hb;have hm:ME (d+1)=50+16*ME d:=rfl;have kb:l! s.body*ME d<=8*ME d:=cK _ h1;unfold pY aW bm bF cG ep jW cg En bX;refine ax (yW (by omega) L hs ga na) λy z=>?_
 let⟨g2,o2⟩:=y;let⟨q1,D⟩:=z;dsimp only at q1 D;subst q1;have q3:=D.u;refine a8 (by simp) ?_;refine ax (hS s.body g2 o2 (by omega) h2 L hso (by omega)) λy z=>?_
 let⟨N,o3⟩:=y;let⟨r1,A,r3⟩:=z;dsimp only at r1 A r3;have r4:=A.u;refine a8 (by simp) ?_;have qs:=r1.trans (GQ.site N N.2.2.2.2.2.1 g2.2.2.2.2.2.2.2.1 N.2.2.2.2.2.2.2.2);refine ax (yW (by dsimp only;omega) (L.of qs) hs gb nb) λy z=>a8 (by simp) (aj ⟨?_,?_,?_⟩)
 .rw[z.1];exact qs
 .exact (D.trans A (bO _)).trans z.2 (by omega)
 .rw[z.1];exact r3
def Bi {l:Y IT} {x:IT} (h:j<l! l):iA (cH l (j:Int) x) i=if i=j then x else iA l i:=LQ (T:=sx) l j i x h
abbrev ptB (l:Y IT) (j:Nat) (b:Int):Y IT:=cH l (j:Int) ((iA l j).1,(iA l j).2.1,b,(iA l j).2.2.2.1,(iA l j).2.2.2.2.1,(iA l j).2.2.2.2.2)
abbrev ptA (l:Y IT) (j:Nat) (a:Int):Y IT:=cH l (j:Int) ((iA l j).1,a,(iA l j).2.2.1,(iA l j).2.2.2.1,(iA l j).2.2.2.2.1,(iA l j).2.2.2.2.2)
def GI.pb {i:IT} (h:GI nT ss t i) (h1:i.1=10):GI nT ss t (i.1,i.2.1,a,i.2.2.2.1,i.2.2.2.2.1,i.2.2.2.2.2):=by
 let⟨N,i2,L,D,A,z⟩:=i;dsimp only at h1;subst h1;exact⟨⟨h.o.o1,h.o.o2,h.o.r,(by decide:¬(10:Int)=3)⟩,h.s⟩
def QC.cbr {out A o2 L:Y IT} {D:IT} (h1:QC nT ss t i out A) (h2:o2=A++[D]) (hb:GI nT ss t D) (h10:D.1=10) (h3:QC nT ss t j o2 L) (F:Y IT) (hl:l! L<=l! F) (hF:∀k:Nat,k<l! L->¬k=l! A->iA F k=iA L k) (hFb:∃b:Int,(0<=b/\b<=(l! F:Int))/\iA F (l! A)=(D.1,D.2.1,b,D.2.2.2.1,D.2.2.2.2.1,D.2.2.2.2.2)):(∀k:Nat,k<l! out->iA F k=iA out k)/\sk F (l! out) (l! A)/\(iA F (l! A)).1=10/\sk F (l! A+1) (l! L)/\(∀k:Nat,l! out<=k->k<l! L->GI nT ss t (iA F k))/\∀k:Nat,l! out<=k->k<l! L->(iA F k).1=10->0<=(iA F k).2.2.1/\(iA F k).2.2.1<=(l! F:Int):=by
 have l2:l! o2=l! A+1:=by rw[h2,bc];rfl
 have l1:=h1.l;have l3:=h3.l;have e1:∀k:Nat,k<l! A->iA F k=iA A k:=λk z=>by rw[hF k (by omega) (by omega),h3.p k (by omega),h2,Ls z]
 let⟨b,hb0,eb⟩:=hFb;refine ⟨λk z=>(e1 k (by omega)).trans (h1.p k z),h1.b.congr λk _ z=>e1 k z,by rw[eb];exact h10,?_,λk g1 N=>?_,λk g1 N g3=>?_⟩
 .have:=h3.b;rw[l2]at this;exact this.congr λk g1 N=>hF k N (by omega)
 .rcases QD k (l! A) with z|z|z
  .rw[e1 k z];exact h1.i k g1 z
  .rw[z,eb];exact hb.pb h10
  .rw[hF k N (by omega)];exact h3.i k (by omega) N
 .rcases QD k (l! A) with z|z|z
  .rw[e1 k z]at g3 ⊢;have:=h1.r k g1 z g3;omega
  .rw[z,eb];exact hb0
  .rw[hF k N (by omega)]at g3 ⊢;have:=h3.r k (by omega) N g3;omega
def Ox (rs:FS6) (rt:FT6) (rb:FT6) (ra:FA6) (d:Nat) (hS:ail nT ss t rs d):aq9 nT ss t (nO rs rt rb ra) d:=by
 intro s g out hop he h1 h2 h3 h4 hel hg hs hso hb;have hm:ME (d+1)=50+16*ME d:=rfl;have kb:l! s.body*ME d<=8*ME d:=cK _ h1;have ke:l! s.els*ME d<=8*ME d:=cK _ h2;have hex:GE 4 (ef (Xp.op s.expr,Xp.n s.expr,Xp.name s.expr,Xp.l s.expr)):=by rw[fx];exact he
 unfold nO aW bm bF cG ep jW En ck bi bX be;refine ax (Eu _ _ g out hex hg hs (by rw[hg.len];decide) (by rw[hg.len];decide) (by omega)) λy hy=>?_
 let⟨g1,o1⟩:=y;let⟨p1,p2⟩:=hy;dsimp only at p1 p2;subst p1;have p3:=p2.u;have p4:=p2.l;refine a8 (by simp) ?_;refine ax (KE _ g1 o1 (by omega)) λy hy=>?_
 let⟨D,o2⟩:=y;let⟨q1,q2⟩:=hy;dsimp only at q1 q2;subst q1;rw[hg.len]at q2;have hbr:GI nT ss t ((10,2,0,0,0,D.2.2.2.2.2.2.2.1):IT):=⟨goI (by decide) (by decide) (by simp[je]) (by decide:¬(10:Int)=3),hs⟩
 have l2:l! o2=l! o1+1:=by rw[q2,bc];rfl
 refine a8 (by simp) ?_;refine ax (hS s.body D o2 (by omega) h3 hg (hso.sub (dz _) (by omega)) (by omega)) λy hy=>?_
 let⟨g3,A⟩:=y;let⟨r1,r2,r3⟩:=hy;dsimp only at r1 r2 r3;have r4:=r2.u;have r5:=r2.l;have ebr:iA A (l! o1)=(10,2,0,0,0,D.2.2.2.2.2.2.2.1):=by rw[r2.p _ (by omega),q2,zB]
 refine a8 (by simp) ?_;have qs:=r1.trans (GQ.site g3 g3.2.2.2.2.2.1 D.2.2.2.2.2.2.2.1 g3.2.2.2.2.2.2.2.2);refine aI (λh3w=>?_) λh3w=>?_
 .have hels:oP d s.els=0:=by rw[hel (by have h3w:s.op=3:=h3w;omega)];rfl
  rw[hels,cW];refine ax (KE _ _ A (by omega)) λy hy=>?_
  let⟨g4,L⟩:=y;let⟨w1,w2⟩:=hy;dsimp only at w1 w2;have l4:l! L=l! A+1:=by rw[w2,bc];rfl
  refine a8 (by simp) (aM (eM _) (by dsimp only[ak];omega) (aM (eM _) (by dsimp only[ak];omega) (aj ?_)));have hat:l! o1<l! L:=by omega
  have ej:iA L (l! A)=(5,(l! out:Int),0,0,0,D.2.2.2.2.2.2.2.1):=by rw[w2,zB];rfl
  have e43:∀k:Nat,k<l! A->iA L k=iA A k:=λk N=>by rw[w2,Ls N]
  refine ⟨by dsimp only;rw[w1];exact qs,?_,by dsimp only;rw[w1];exact r3⟩;dsimp only;have eF:∀{z:IT} {k:Nat},¬k=l! o1->iA (cH L ((l! o1:Nat):Int) z) k=iA L k:=λh=>by rw[Bi hat,av h]
  let⟨f1,f2,f3,f4,f5,f6⟩:=p2.cbr q2 hbr rfl r2 (ptB L (l! o1) (aQ (l! L))) (by rw[b7];omega) (λk N hn=>(eF hn).trans (e43 k N)) ⟨_,⟨eM _,by rw[b7];exact dz _⟩,by rw[Bi hat,aD rfl,e43 _ (by omega),ebr];rfl⟩;show QC nT ss t _ out (ptB L (l! o1) (aQ (l! L)));have ejF:iA (ptB L (l! o1) (aQ (l! L))) (l! A)=(5,(l! out:Int),0,0,0,D.2.2.2.2.2.2.2.1):=(eF (by omega:¬l! A=l! o1)).trans ej;refine ⟨by rw[b7];omega,by rw[b7];omega,f1,?_,λk g1 D=>?_,λk g1 D g3=>?_⟩
  .rw[(b7 _ _ _).trans l4];exact f2.whl f3 f4 (by rw[ejF]) (by rw[ejF])
  .rw[b7,l4]at D;by_cases N:k<l! A
   .exact f5 k g1 N
   .rw[show k=l! A by omega,ejF];exact⟨goI (by decide) (by decide) (by simp[je]) (by decide:¬(5:Int)=3),hs⟩
  .have g2':=D;rw[b7,l4]at g2';by_cases N:k<l! A
   .exact f6 k g1 N g3
   .rw[show k=l! A by omega,ejF]at g3;cases g3
 refine aI (λhz=>?_) λ_=>?_
 .have hels:oP d s.els=0:=by rw[db.1 (by dsimp only[ak]at hz;omega:l! s.els=0)];rfl
  rw[hels,cW];refine aM (eM _) (by dsimp only[ak];omega) (aM (eM _) (by dsimp only[ak];omega) (aj ⟨qs,?_,r3⟩));dsimp only;have hat:l! o1<l! A:=by omega
  let⟨f1,f2,f3,f4,f5,f6⟩:=p2.cbr q2 hbr rfl r2 (ptB A (l! o1) (aQ (l! A))) (by rw[b7];omega) (λk N hn=>by rw[Bi hat,av hn]) ⟨_,⟨eM _,by rw[b7];exact dz _⟩,by rw[Bi hat,aD rfl,ebr];rfl⟩;show QC nT ss t _ out (ptB A (l! o1) (aQ (l! A)));refine ⟨by rw[b7];omega,by rw[b7];omega,f1,?_,λk g1 D=>?_,λk g1 D g3=>?_⟩
  .rw[b7];exact (f2.app (sk.one (by rw[f3];decide))).app f4
  .rw[b7]at D;exact f5 k g1 D
  .exact f6 k g1 (by rw[b7]at D;exact D) g3
 .refine ax (KE _ _ A (by omega)) λy hy=>?_
  let⟨g4,L⟩:=y;let⟨w1,w2⟩:=hy;dsimp only at w1 w2;have l4:l! L=l! A+1:=by rw[w2,bc];rfl
  have qs4:GQ D g4:=by rw[w1];exact qs
  have x4:gN g4=gN D+(oP d s.body:Nat):=by rw[w1];exact r3
  have hat:l! o1<l! L:=by omega
  have ej:iA L (l! A)=(5,0,0,0,0,D.2.2.2.2.2.2.2.1):=by rw[w2,zB]
  have e43:∀k:Nat,k<l! A->iA L k=iA A k:=λk N=>by rw[w2,Ls N]
  refine a8 (by simp) (aM (eM _) (by dsimp only[ak];omega) (aM (eM _) (by dsimp only[ak];omega) ?_));have eF:∀{z:IT} {k:Nat},¬k=l! o1->iA (cH L ((l! o1:Nat):Int) z) k=iA L k:=λh=>by rw[Bi hat,av h]
  refine ax (hS s.els g4 (ptB L (l! o1) (aQ (l! L))) (by omega) h4 (hg.of qs4) (hso.sub (by rw[x4];omega) (by rw[x4];omega)) (by rw[b7];omega)) λy hy=>?_
  let⟨g5,o5⟩:=y;let⟨z1,z2,z3⟩:=hy;dsimp only at z1 z2 z3;have z4:=z2.l;have z5:=z2.u;have zp:=z2.p;have zb:=z2.b;have zi:=z2.i;have zr:=z2.r;rw[b7]at z4 z5 zp zb zi zr;have hj5:l! A<l! o5:=by omega
  refine a8 (by simp) (aM (eM _) (by dsimp only[ak];omega) (aM (eM _) (by dsimp only[ak];omega) (aj ⟨qs4.trans z1,?_,by dsimp only;rw[z3,x4];omega⟩)));dsimp only;show QC nT ss t _ out (ptA o5 (l! A) (aQ (l! o5)));have eG:∀{z:IT} {k:Nat},¬k=l! A->iA (cH o5 ((l! A:Nat):Int) z) k=iA o5 k:=λh=>by rw[Bi hj5,av h]
  have ej5:iA o5 (l! A)=(5,0,0,0,0,D.2.2.2.2.2.2.2.1):=by rw[zp _ (by omega),eF (by omega),ej]
  let⟨f1,f2,f3,f4,f5,f6⟩:=p2.cbr q2 hbr rfl r2 (ptA o5 (l! A) (aQ (l! o5))) (by rw[b7];omega) (λk N hn=>by rw[eG (by omega),zp k (by omega),eF hn,e43 k N]) ⟨aQ (l! L),⟨eM _,by rw[b7];dsimp only[ak];omega⟩,by rw[eG (by omega),zp _ (by omega),Bi hat,aD rfl,e43 _ (by omega),ebr]⟩;have ejF:iA (ptA o5 (l! A) (aQ (l! o5))) (l! A)=(5,aQ (l! o5),0,0,0,D.2.2.2.2.2.2.2.1):=by rw[Bi hj5,aD rfl,ej5]
  refine ⟨by rw[b7];omega,by rw[b7];omega,f1,?_,λk g1 D=>?_,λk g1 D g3=>?_⟩
  .rw[b7];refine ((f2.app (sk.one (by rw[f3];decide))).app f4).ite (by rw[ejF]) (by rw[ejF];rfl) ?_;rw[l4]at zb;exact zb.congr λk g1 D=>eG (by omega)
  .rw[b7]at D;rcases QD k (l! A) with N|N|N
   .exact f5 k g1 N
   .rw[N,ejF];exact⟨goI (by decide) (by decide) (by simp[je]) (by decide:¬(5:Int)=3),hs⟩
   .rw[eG (by omega)];exact zi k (by omega) D
  .have g2':=D;rw[b7]at g2';rcases QD k (l! A) with N|N|N
   .exact f6 k g1 N g3
   .rw[N,ejF]at g3;cases g3
   .rw[eG (by omega)]at g3 ⊢;rw[b7];exact zr k (by omega) g2' g3
def ac4 (rs:FS6) (rt:FT6) (rb:FT6) (ra:FA6) (d:Nat) (hB:aq9 nT ss t rb d) (hA:aqa nT ss t ra d):SpG nT ss t (tA rs rt rb ra) (d+1):=by
 intro s g out hs hg hso hb;have hm:ME (d+1)=50+16*ME d:=rfl;let⟨i1,i2,i3,i4,i5,i6,i7,i8,i9,N⟩:=hs;have hcn:SS (d+1) s=1+oP d s.body+oP d s.els:=rfl;rw[hcn]at hso ⊢;let⟨so0,so1,so2⟩:=id hso;have so0:0<=g.2.2.2.2.2.2.2.2:=so0;have so1:g.2.2.2.2.2.2.2.2+((1+oP d s.body+oP d s.els:Nat):Int)<=1000:=so1;have ew:bl .i64 (g.2.2.2.2.2.2.2.2+1)=g.2.2.2.2.2.2.2.2+1:=iQ;have gs:=GQ.site g g.2.2.2.2.2.1 g.2.2.2.2.2.2.2.2 (bl .i64 (g.2.2.2.2.2.2.2.2+1));unfold tA aW bm bF cG ep cg En bi bX be aG cN eh;refine aU (λx=>QG nT ss t (ME (d+1)) (1+oP d s.body+oP d s.els) g out x) ?_ λx hx=>aj hx
 dsimp only;have hs1:SO ss t (gS ((g.1,g.2.1,g.2.2.1,g.2.2.2.1,g.2.2.2.2.1,g.2.2.2.2.2.1,g.2.2.2.2.2.2.1,g.2.2.2.2.2.2.2.2,bl .i64 (g.2.2.2.2.2.2.2.2+1)):GN)):=so2 _ (dz _) (by show g.2.2.2.2.2.2.2.2<g.2.2.2.2.2.2.2.2+((1+oP d s.body+oP d s.els:Nat):Int);omega);have hn1:gN ((g.1,g.2.1,g.2.2.1,g.2.2.2.1,g.2.2.2.2.1,g.2.2.2.2.2.1,g.2.2.2.2.2.2.1,g.2.2.2.2.2.2.2.2,bl .i64 (g.2.2.2.2.2.2.2.2+1)):GN)=gN g+1:=ew;revert gs hs1 hn1;generalize ((g.1,g.2.1,g.2.2.1,g.2.2.2.1,g.2.2.2.2.1,g.2.2.2.2.2.1,g.2.2.2.2.2.2.1,g.2.2.2.2.2.2.2.2,bl .i64 (g.2.2.2.2.2.2.2.2+1)):GN)=L;intro gs hs1 hn1;have D:=hg.of gs;have hso1:=hso.sub (b:=gN L) (n:=oP d s.body+oP d s.els) (by rw[hn1];omega) (by rw[hn1];omega);have fin:∀(n m:Nat) (y:x?),QG nT ss t n m L out y->n<=ME (d+1)->m=oP d s.body+oP d s.els->QG nT ss t (ME (d+1)) (1+oP d s.body+oP d s.els) g out y:=λn m y A hn hm=>⟨gs.trans A.q,(QC.nil 0 out).trans A.c (by omega),by rw[A.x,hn1];omega⟩
 have fin0:s.op=1\/9<=s.op->∀(n:Nat) (y:x?),y.1=L/\QC nT ss t n out y.2->n<=ME (d+1)->QG nT ss t (ME (d+1)) (1+oP d s.body+oP d s.els) g out y:=λz n y A hn=>fin n 0 y ⟨by rw[A.1];exact GQ.refl L,A.2,by rw[A.1];simp⟩ hn (by rw[N.bo z,N.el (by omega)];rfl)
 refine aI (λz=>?_) λ_=>?_
 .refine ax (Y4 (o6 _) L out ?_ ?_ ?_ ?_ D hs1 (by omega)) λy A=>a8 (by simp) (aj (fin0 (.inl z) _ _ A (by omega)))
  .rw[Ab];exact i1
  .rw[Ab];exact i3
  .rw[Ab];exact i4 (.inl z)
  .rw[Ab];exact N.vr z
 refine aU (λx=>x.2=(L,s,out)/\(x.1=J↔s.op=2\/s.op=3)) ?_ ?_
 .exact aI (λh=>aj ⟨by dsimp only;rw[Ab],λ_=>.inl h,λ_=>aR h⟩) λh=>aj ⟨by dsimp only;rw[Ab],λh2=>.inr (bx h2),λh2=>aR (h2.resolve_left h)⟩
 rintro⟨b,x⟩ ⟨e,hb2⟩;dsimp only at e hb2;subst e;refine aN (λhb3=>?_) λhbf=>?_
 .dsimp only;rw[Ab];refine ax (hB s L out (hb2.1 hb3) (i4 (by rcases hb2.1 hb3 with h|h;exact .inr (.inl h);exact .inr (.inr (.inl h)))) i6 i7 i8 i9 N.el D hs1 hso1 hb) λy A=>a8 (by simp) (aj (fin _ _ _ A (by omega) rfl))
 have har:∀(a b c:Int),4<=s.op->GO nT (a,c,0,0,0,0)->GO nT (b,c,0,0,0,0)->¬a=5/\¬a=10->¬b=5/\¬b=10->Ok (ra ((s,a,b,c),L,out)) λy=>QG nT ss t (ME (d+1)) (1+oP d s.body+oP d s.els) g out y:=λa b c h4 ga gb na nb=>(hA s a b c L out i6 i8 ga gb na nb D hs1 (hso1.sub (dz _) (by omega)) hb).mono λy A=>fin _ _ _ A (by omega) (by rw[N.el (by omega)];rfl)
 have hput:∀{op:Int} {r:υ},9<=s.op->GO nT (op,r)->¬op=5/\¬op=10->Ok (cJ ((op,r),L,out)) (QG nT ss t (ME (d+1)) (1+oP d s.body+oP d s.els) g out):=λh9 hi h5=>(yW (by omega) D hs1 hi h5).mono λy A=>fin0 (.inr h9) _ _ A (by omega)
 have hlk:∀n:ζ,Ok (lm (L.2.1,n)) λr=>(n=[109]->r=0)/\(n=[110]->r=1)/\(n=[114]->r=2):=λn=>(PC L.2.1 n (by rw[D.l];decide)).mono λr h=>ang (by rw[D.l]at h;exact h)
 have hcond:∀(n:ζ),Ok (kf (n,L,out)) λy=>y.2=(L,out)/\(n=[99]->y.1=0):=λn=>ahp n L out D
 have hth:Ok (jD (L.2.2.2.2.1,s.name)) λr=>s.op=12\/s.op=13->0<=r/\r<(nT:Int):=(Ax L.2.2.2.2.1 s.name (by rw[D.t,bR];have q4:xH.length=4:=rfl;omega)).mono λr hr z=>by
  have hn:=N.sp z;have hl:l! (xH.take nT)<=nT:=m_ ..;let⟨_,h2,_,h4⟩:=hr;rw[D.t]at h2 h4;exact⟨Ei.1 λh=>h4 h hn,by omega⟩
 have hft:∀n:ζ,Ok (jD (L.2.2.2.1,n)) λr=>n=[102]->r=0:=λn=>(Ax L.2.2.2.1 n (by rw[D.f];decide)).mono λr hr hn=>by
  let⟨h1,h2,_,h4⟩:=hr;rw[D.f]at h2 h4;have h2:r<1:=h2;have:¬r<0:=λh=>h4 h (by rw[hn];decide)
  omega
 dsimp only;rw[Ab];have gor:∀{a c:Int},1<=a->a<=27->je (a,c,0,0,0,0)=[]->OB nT (a,c,0,0,0,0)->GO nT (a,c,0,0,0,0):=λh1 h2 h3 h4=>⟨h1,h2,by rw[h3];exact λj hj=>(by cases hj),h4⟩
 refine aI (λz=>ax (hlk _) λv hv=>ax (har _ _ _ (by have z:s.op=4:=z;omega) (gor (by decide) (by decide) rfl ?_) (gor (by decide) (by decide) rfl ?_) (by decide) (by decide)) λy A=>a8 (by simp) (aj A)) λ_=>?_
 .exact (N.lk z).imp hv.1 hv.2.1
 .exact (N.lk z).imp hv.1 hv.2.1
 refine aI (λz=>ax (hlk _) λv hv=>ax (har _ _ _ (by have z:s.op=5:=z;omega) (gor (by decide) (by decide) rfl ?_) (gor (by decide) (by decide) rfl ?_) (by decide) (by decide)) λy A=>a8 (by simp) (aj A)) λ_=>?_
 .exact hv.2.2 (N.rw (.inl z))
 .exact hv.2.2 (N.rw (.inl z))
 refine aI (λz=>ax (hlk _) λv hv=>ax (har _ _ _ (by have z:s.op=6:=z;omega) (gor (by decide) (by decide) rfl ?_) (gor (by decide) (by decide) rfl ?_) (by decide) (by decide)) λy A=>a8 (by simp) (aj A)) λ_=>?_
 .exact hv.2.2 (N.rw (.inr z))
 .exact hv.2.2 (N.rw (.inr z))
 refine aI (λz=>ax (har _ _ _ (by have z:s.op=7:=z;omega) (gor (by decide) (by decide) rfl (by decide:¬(17:Int)=3)) (gor (by decide) (by decide) rfl (by decide:¬(18:Int)=3)) (by decide) (by decide)) λy A=>a8 (by simp) (aj A)) λ_=>?_
 refine aI (λz=>ax (har _ _ _ (by have z:s.op=8:=z;omega) (gor (by decide) (by decide) rfl (by decide:¬(19:Int)=3)) (gor (by decide) (by decide) rfl (by decide:¬(20:Int)=3)) (by decide) (by decide)) λy A=>a8 (by simp) (aj A)) λ_=>?_
 refine aI (λz=>ax (hcond _) λy A=>?_) λ_=>?_
 .obtain⟨v,y2⟩:=y;let⟨y3,y4⟩:=A;dsimp only at y3;subst y3;exact a8 (by simp) (ax (hput (by have z:s.op=9:=z;omega) (gor (by decide) (by decide) rfl (y4 (N.cn (.inl z)))) (by decide)) λy A=>a8 (by simp) (aj A))
 refine aI (λz=>ax (hcond _) λy A=>?_) λ_=>?_
 .obtain⟨v,y2⟩:=y;let⟨y3,y4⟩:=A;dsimp only at y3;subst y3;exact a8 (by simp) (ax (hput (by have z:s.op=10:=z;omega) (gor (by decide) (by decide) rfl (y4 (N.cn (.inr (.inl z))))) (by decide)) λy A=>a8 (by simp) (aj A))
 refine aI (λz=>ax (hcond _) λy A=>?_) λ_=>?_
 .obtain⟨v,y2⟩:=y;let⟨y3,y4⟩:=A;dsimp only at y3;subst y3;exact a8 (by simp) (ax (hput (by have z:s.op=11:=z;omega) (gor (by decide) (by decide) rfl (y4 (N.cn (.inr (.inr z))))) (by decide)) λy A=>a8 (by simp) (aj A))
 refine aI (λz=>ax hth λv hv=>ax (hput (by have z:s.op=12:=z;omega) (gor (by decide) (by decide) rfl (hv (.inl z))) (by decide)) λy A=>a8 (by simp) (aj A)) λ_=>?_
 refine aI (λz=>ax hth λv hv=>ax (hput (by have z:s.op=13:=z;omega) (gor (by decide) (by decide) rfl (hv (.inr z))) (by decide)) λy A=>a8 (by simp) (aj A)) λ_=>?_
 refine aI (λz=>?_) λn14=>?_
 .have hex:GE 4 (ef (Xp.op s.expr,Xp.n s.expr,Xp.name s.expr,Xp.l s.expr)):=by rw[fx];exact i4 (.inr (.inr (.inr z)))
  refine ax (Eu _ _ L out hex D hs1 (by rw[hg.len];decide) (by rw[hg.len];decide) (by omega)) λy A=>?_
  let⟨g2,o2⟩:=y;let⟨q1,q2⟩:=A;dsimp only at q1 q2;subst q1;have q3:=q2.u;refine a8 (by simp) (ax (hft _) λv hv=>?_);refine ax (yW (by omega) D hs1 (goI (by decide) (by decide) (by simp[je,hg.h,L0]) (hv (N.se z))) (by decide)) λy A=>a8 (by simp) (aj (fin0 (.inr (by have z:s.op=14:=z;omega)) 16 _ ⟨A.1,q2.trans A.2 (bO _)⟩ (by omega)))
 refine aI (λz=>?_) λn15=>?_
 .refine ax (Ax _ _ (by rw[D.h];decide)) λv hv=>ax (hft _) λv2 hv2=>?_
  have hge:=N.ge z;have hl:(0:Int)<=v/\v<2:=by
   let⟨_,h2,_,h4⟩:=hv;rw[D.h]at h2 h4;exact⟨Ei.1 λh=>h4 h (by rw[hge.1];decide),h2⟩
  exact ax (hput (by have z:s.op=15:=z;omega) (goI (by decide) (by decide) (by simp[je];omega) (hv2 hge.2)) (by decide)) λy A=>a8 (by simp) (aj A)
 .exfalso;have h1:=N.o0;have h2:=N.o1;have h3:¬(s.op=2\/s.op=3):=λh=>by have hbf:b=aa:=hbf;rw[hb2.2 h]at hbf;cases hbf
  omega
end
section
variable {nT:Nat} {ss:Y π} {t:Int}
def aa1:∀(n:Nat),(∀d:Nat,3*d<n->SpG nT ss t (eU n) d)/\(∀d:Nat,3*d+1<n->ail nT ss t (dP n) d)/\(∀d:Nat,3*d+2<n->aq9 nT ss t (dh n) d)/\(∀d:Nat,3*d+2<n->aqa nT ss t (dM n) d)
 |0=>⟨λd h=>by omega,λd h=>by omega,λd h=>by omega,λd h=>by omega⟩
 |n+1=>by
  let⟨D,z,L,hA⟩:=aa1 n;refine ⟨λd h=>?_,λd h=>?_,λd h=>?_,λd h=>?_⟩
  .cases d with
   |zero=>exact λs g out A=>A.elim
   |succ d=>exact ac4 (dP n) (eU n) (dh n) (dM n) d (L d (by omega)) (hA d (by omega))
  .exact Yg (dP n) (eU n) (dh n) (dM n) d (D d (by omega))
  .exact Ox (dP n) (eU n) (dh n) (dM n) d (z d (by omega))
  .exact UP (dP n) (eU n) (dh n) (dM n) d (z d (by omega))
def RG (d:Nat) (hd:d<=100):ail nT ss t vH d:=(aa1 fuel).2.1 d (by rw[kP];omega)
structure SL (t k:Int) (m:Nat) (S:List π):Prop where
 l:l! S=m
 v:∀i:Nat,i<m->(geti pO S (i:Int)).1=t/\(geti pO S (i:Int)).2.1=k+i
variable {T:Ty}
def LS {l m:Y T.den} (h:i<l! l):geti _ (l++m) (i:Int)=geti _ l (i:Int):=by
 rw[xu,xu,aw,aw,bC h]
def LR {l m:Y T.den} (h:l! l<=i):geti _ (l++m) (i:Int)=geti _ m ((i-l! l:Nat):Int):=by
 rw[xu,xu,aw,aw,bS h]
def SL.nil (t k:Int):SL t k 0 []:=⟨rfl,λi h=>by omega⟩
def SL.one (t k z:Int):SL t k 1 [(t,k,z)]:=⟨rfl,λi h=>by rw[show i=0 by omega];exact⟨rfl,by show k=k+((0:Nat):Int);omega⟩⟩
def SL.app {z:Int} {k:Nat} {S S':Y π} (h:SL t a k S) (h':SL t z i S') (N:z=a+k):SL t a (k+i) (S++S'):=by
 let⟨h1,L⟩:=h;let⟨h3,D⟩:=h';refine ⟨by rw[bc];omega,λb hi=>?_⟩;by_cases A:b<l! S
 .rw[LS (T:=pO) A];exact L b (by omega)
 .rw[LR (T:=pO) (by omega)];have:=D (b-l! S) (by omega);exact⟨this.1,this.2.trans (show z+((b-l! S:Nat):Int)=a+(b:Int) by omega)⟩
def Hb:∀(n d:Nat),d<n->∀(t k:Int) (l:Y Sx) (out:Y π),l! l<=100->(∀s∈l,GT d s)->0<=k->k+oP d l<=100000000->l! out+oP d l<=100000000->Ok (qF n ((t,k,l),out)) λy=>y.1=k+oP d l/\∃S,y.2=out++S/\SL t k (oP d l) S
 |0,_,h,_,_,_,_,_,_,_,_,_=>by omega
 |n+1,d,hn,t,k,l,out,hl,hs,k0,hkb,hb=>by
  rw[Jv];unfold zF bM nh bX be cQ aG cN;refine cm (l! l) (λi x=>x.1.2=(i:Int)/\x.1.1=k+oP d (l.take i)/\∃S,x.2=out++S/\SL t k (oP d (l.take i)) S) ?_ ?_ ⟨rfl,by simp[oP],[],by simp,by simp[oP];exact SL.nil t k⟩
  .rintro i ⟨⟨a,b⟩,o⟩ hi ⟨A,e2,S,z,e4⟩;dsimp only at A e2 z;subst A e2 z;have hp:=Se (d:=d) l (i+1);rw[yB hi]at hp;rw[yB hi];refine du ?_;have hin:((i:Nat):Int)<(l! l:Int):=by omega
   have hm:=hs _ (bP (T:=.sm) (xs:=l) (j:=(i:Int)) (by omega) (by omega));have hSl:=e4.l;cases d with
   |zero=>exact hm.elim
   |succ d=>
    let⟨_,_,_,g4,g5,g6,g7⟩:=hm;have hc:SS (d+1) (geti (.sm) l (i:Int))=1+oP d (Sx.body (geti (.sm) l (i:Int)))+oP d (Sx.els (geti (.sm) l (i:Int))):=rfl;rw[hc]at hp ⊢;dsimp only;refine aM (by omega) hin (aS (a! (aM (by omega) hin (aS ?_))));rw[iQ (n:=k+(oP (d+1) (l.take i):Nat)+1) (by omega) (by omega)];refine ax (Hb n d (by omega) _ _ _ _ (by omega) g6 (by omega) (by omega) (by simp;omega)) λy D=>a8 (by simp) ?_
    let⟨a2,o2⟩:=y;let⟨y1,S2,y2,y3⟩:=D;dsimp only at y1 y2;subst y1 y2;have hSl2:=y3.l;refine aM (by omega) hin (aS ?_);refine ax (Hb n d (by omega) _ _ _ _ (by omega) g7 (by omega) (by omega) (by simp;omega)) λy D=>a8 (by simp) (aj ?_)
    let⟨a3,o3⟩:=y;let⟨N,S3,L,z3⟩:=D;dsimp only at N L;subst N L;refine ⟨gQ,by dsimp only;omega,S++([_]++(S2++S3)),by simp only[iP];rfl,?_⟩;refine e4.app ?_ rfl;rw[qH];exact (SL.one t _ _).app (y3.app z3 rfl) (by simp)
  .rintro⟨⟨a,b⟩,o⟩ ⟨A,e2,z⟩;dsimp only at A e2 z;subst A e2;rw[cv]at z ⊢;exact dg (aj ⟨rfl,z⟩)
def Zq {D n' k:Int} {l S:Y π} (h:Nz a l=Z (D,n')) (hS:SL t k i S) (hk:(D=t/\n'=k)\/(D<t/\t<a/\k=0)):∀m:Nat,m<=i->Nz a (l++S.take m)=Z (if m=0 then (D,n') else (t,k+m))
 |0,_=>by rw[List.take_zero,jB,aD rfl];exact h
 |m+1,hi=>by
  have ih:=Zq h hS hk m (by omega);rw[pA (T:=pO) (xs:=S) (i:=m) (by rw[hS.l];omega),<-iP,Zs,ih];let⟨z,N⟩:=hS.v m (by omega);rw[av (Nat.succ_ne_zero m)];by_cases A:m=0
  .subst A;rw[aD rfl];unfold W5;dsimp only;rcases hk with ⟨h1,L⟩|⟨h1,L,h3⟩
   .rw[aD ⟨by rw[z,h1],by rw[N,L];simp⟩,h1,L];simp
   .rw[av (λh=>by rw[z]at h;omega),aD ⟨by rw[z];exact h1,by rw[z];exact L,by rw[N,h3];rfl⟩,z,h3];simp
  .rw[av A];unfold W5;dsimp only;rw[aD ⟨z,N⟩];congr 2;omega
end
abbrev CE6:Type:=ζ×r?
abbrev W4T:Type:=Y CE6×Y (ζ×Bool)×Y (ζ×Int)×Y ζ
def ceD (z:DT):Y CE6:=(iN (aO (mH z.2.2.2.1 1))).map λ(k:Nat)=>(z.2.2.1,(k:Int),z.2.2.2.1,decide (z.1=2),z.2.2.2.2.1)
def adD (y:W4T) (z:DT):W4T:=
 if z.1=1\/z.1=2 then (y.1++ceD z,y.2) else if z.1=3\/z.1=4 then (y.1,y.2.1++[(z.2.2.1,decide (z.1=4))],y.2.2) else if z.1=5 then (y.1,y.2.1,y.2.2.1++[(z.2.2.1,0)],y.2.2.2) else (y.1,y.2.1,y.2.2.1,y.2.2.2++[z.2.2.1])
def W4 (i:Nat):W4T:=(D0.take i).foldl adD ([],[],[],[])
def W4_9:W4 9=(C0,I8,NI,WI):=rfl
def W4_s (hi:i<9):W4 (i+1)=adD (W4 i) (geti I9 D0 (i:Int)):=by
 unfold W4;rw[pA (T:=I9) (xs:=D0) hi,ey];rfl
def D0_c:∀i:Nat,i<9->(geti I9 D0 (i:Int)).1=5->i=7:=by decide
def atc:∀i:Nat,i<9->(W4 i).1.length<=5/\(W4 i).2.1.length<=3/\(W4 i).2.2.1.length<=1/\(W4 i).2.2.2.length<=1/\mH (geti I9 D0 (i:Int)).2.2.2.1 1<=2/\1<=mH (geti I9 D0 (i:Int)).2.2.2.1 1:=by decide
def bsN (p:PG) (i:Nat):Nat:=((p.2.take i).map λt=>oP 5 t.2.2.2).sum
def boN (p:PG) (i:Nat):Nat:=oP 5 (geti uw p.2 (i:Int)).2.2.2
def ano {p:PG} (hi:i<l! p.2):bsN p (i+1)=bsN p i+boN p i:=by
 unfold bsN boN;rw[pA (T:=uw) hi,cq,HP];simp
def Y0 {p:PG} (i:Nat) (h:(p.2.map λt=>oP 5 t.2.2.2).sum<=60):bsN p i<=60:=by
 refine c4 ?_ h
 conv=>rhs;rw[<- DG i p.2]
 unfold bsN;rw[cq,HP];omega
structure SW (p:PG) (i:Nat) (S:List π):Prop where
 l:l! S=bsN p i
 f:∃a b,Nz (l! p.2) S=Z (a,b)/\(a<i\/a=0/\b=0)
 s:∀j:Nat,j<i->SR S (j:Int) (bsN p j:Nat) (boN p j)
structure WW (p:PG) (w:WT):Prop where
 x:WX w
 t:w.2.2.2.2.1=xH.take (l! p.2)
 s:∀j:Nat,j<l! p.2->SR w.2.2.2.2.2 (j:Int) (bsN p j:Nat) (boN p j)
def SO.app {S S':Y π} {t:Int} (h:SO S t a):SO (S++S') t a:=by
 let⟨h0,h1,z⟩:=h;obtain⟨a,rfl⟩:∃n:Nat,a=(n:Int):=⟨a.toNat,by omega⟩
 exact⟨h0,by rw[bc];omega,by rw[LS (T:=pO) (by omega)];exact z⟩
def Y7 (p:PG) (hp:PJ p) (r:ν) (hr:fB p=Z r) (h0:r.1=0) (hc:(p.2.map λt=>oP 5 t.2.2.2).sum<=60):Ok (vI p) (WW p):=by
 have hpt:=hp.t;unfold vI aW bm bF cG ep cg dE dk ip wE bi bM iE bX bQ be cQ aG cN;refine aT hr (ch (λh=>(h h0).elim) λ_=>?_);have hD:p.1=D0:=hp.d;have hlen:l! p.1=9:=by rw[hD];rfl
 refine cm 9 (λi x=>x.1=(i:Int)/\x.2.1=p/\x.2.2=W4 i) ?_ ?_ ⟨rfl,rfl,rfl⟩
 .rintro i ⟨a,p',y⟩ hi ⟨N,e2,e3⟩;dsimp only at N e2 e3;subst N;have e2:=e2.symm;subst e2;let⟨b1,b2,b3,b4,b5,b6⟩:=atc i hi;rw[<- e3]at b1 b2 b3 b4;have hW:=W4_s hi;rw[<- e3]at hW;have hcd:=D0_c i hi;have hlk:i=7->y.2.1=I8/\(geti I9 D0 (i:Int)).2.2.2.2.2=[109]:=λh=>by subst h;rw[e3];exact⟨rfl,rfl⟩
  refine du ?_;refine cu (aS ?_);dsimp only;rw[hD];revert hW hcd hlk b5 b6;generalize (geti I9 D0 (i:Int))=z;intro b5 b6 hW hcd hlk;refine aU (λx=>x=(p,W4 (i+1))) ?_ ?_
  .rw[hW];unfold adD;refine aU (λx=>x.2=(p,z,y)/\(x.1=J↔(z.1=1\/z.1=2))) ?_ ?_
   .exact aI (λh=>aj ⟨rfl,λ_=>.inl h,λ_=>aR h⟩) λh=>aj ⟨rfl,λA=>.inr (bx A),λA=>aR (A.resolve_left h)⟩
   rintro⟨b,x⟩ ⟨e,hb⟩;dsimp only at e hb;subst e;refine aN (λD=>?_) λD=>?_
   .rw[aD (hb.1 D)];unfold ceD;obtain⟨m,hm⟩:∃m:Nat,mH z.2.2.2.1 1=(m:Int):=⟨(mH z.2.2.2.1 1).toNat,by omega⟩
    rw[hm,bD];refine cm m (λk x=>x=((k:Int),p,z,y.1++(iN k).map (λ(k:Nat)=>(z.2.2.1,(k:Int),z.2.2.2.1,decide (z.1=2),z.2.2.2.2.1)),y.2)) ?_ ?_ (by simp)
    .rintro k x hk rfl;refine bL (λ_=>?_) λg=>(by dsimp only at g;rw[hm]at g;omega)
     refine a! (aj ?_);dsimp only;rw[gQ,List.range_succ,cq,<-iP];rfl
    .rintro x rfl;exact bL (λg=>(by dsimp only at g;rw[hm]at g;omega)) λ_=>aj rfl
   rw[av λh=>by have D:b=aa:=D;rw[hb.2 h]at D;cases D];refine aU (λx=>x.2=(p,z,y)/\(x.1=J↔(z.1=3\/z.1=4))) ?_ ?_
   .exact aI (λh=>aj ⟨rfl,λ_=>.inl h,λ_=>aR h⟩) λh=>aj ⟨rfl,λA=>.inr (bx A),λA=>aR (A.resolve_left h)⟩
   rintro⟨c,x⟩ ⟨e,hc2⟩;dsimp only at e hc2;subst e;refine aN (λh=>?_) λh=>?_
   .rw[aD (hc2.1 h)];exact a! (aj rfl)
   rw[av λA=>by have h:c=aa:=h;rw[hc2.2 A]at h;cases h];refine aI (λh5=>?_) λh5=>?_
   .obtain⟨l1,l2⟩:=hlk (hcd h5);rw[aD h5];refine ax (PC _ _ (by dsimp only;rw[l1];decide)) λv hv=>?_
    have hv:=(ang (by dsimp only at hv;rw[l1]at hv;exact hv)).1 l2;subst hv;exact a! (aj rfl)
   .rw[av h5];exact a! (aj rfl)
  rintro x rfl;exact aj ⟨gQ,rfl,rfl⟩
 .rintro⟨a,p',y⟩ ⟨N,e2,j⟩;dsimp only at N e2 j;subst N;have e2:=e2.symm;subst e2;rw[W4_9]at j;subst j;refine dg ?_;refine ax (P:=WW p) ?_ λr hr=>aj hr
  refine cm (l! p.2) (λi x=>x.1=(i:Int)/\x.2.1=p/\x.2.2.1=C0/\x.2.2.2.1=I8/\x.2.2.2.2.1=NI/\x.2.2.2.2.2.1=WI/\x.2.2.2.2.2.2.1=xH.take i/\SW p i x.2.2.2.2.2.2.2) ?_ ?_ ⟨rfl,rfl,rfl,rfl,rfl,rfl,rfl,rfl,⟨0,0,rfl,.inr ⟨rfl,rfl⟩⟩,λj hj=>by omega⟩
  .rintro i ⟨a,p2,c2,l2,d2,f2,t2,s2⟩ hi ⟨N,e2,e3,e4,e5,e6,e7,hl8,⟨fa,fb,f8,f9⟩,L⟩;dsimp only at N e2 e3 e4 e5 e6 e7 hl8 f8 L;subst N;have e2:=e2.symm;subst e2;have hb8:=Y0 (i+1) hc;have hbs:=ano hi;refine du ?_;have hin:((i:Nat):Int)<(l! p.2:Int):=by omega
   have hm:=hp.m _ (bP (T:=uw) (xs:=p.2) (j:=(i:Int)) (by omega) hin);have hnm:(geti uw p.2 (i:Int)).1=geti (.str) xH (i:Int):=by
    have h1:=pA (T:=uw) hi;have A:=eW (fX Prod.fst) h1;rw[cq,gz,gz,hp.n,List.take_take,List.take_take,HO (by omega),HO (by omega),pA (T:=.str) (xs:=xH) (i:=i) (by have q4:xH.length=4:=rfl;omega)]at A;exact ((List.cons.inj (List.append_cancel_left A)).1).symm
   have htl:l! t2=i:=by rw[e7,bR];have q4:xH.length=4:=rfl;omega
   dsimp only;refine aM (by omega) hin (aS (a! (aM (by omega) hin (aS ?_))));refine ax (Hb fuel 5 (by rw[kP];omega) _ _ _ s2 (by have:=hm.b;omega) (λs hs=>((hm.s s hs).le (by omega:3<=5)).t) (dz _) ?_ ?_) λy hy=>a8 (by simp) (aj ?_)
   .show (0:Int)+(boN p i:Nat)<=_;omega
   .show (l! s2)+boN p i<=_;omega
   let⟨_,S,A,h3⟩:=hy;have h3:SL (i:Int) 0 (boN p i) S:=h3;refine ⟨gQ,rfl,e3,e4,e5,e6,?_,?_⟩
   .dsimp only;rw[e7,hnm,<-pA (T:=.str) (xs:=xH) (i:=i) (by have q4:xH.length=4:=rfl;omega)]
   .dsimp only;rw[A];refine ⟨by rw[bc,h3.l,hl8,hbs],?_,λj hj=>?_⟩
    .have hr:=Zq f8 h3 (by rcases f9 with h|⟨h,h'⟩;exact .inr ⟨h,by omega,rfl⟩;rcases Nat.eq_zero_or_pos i with hi0|hi0;exact .inl ⟨by omega,h'⟩;exact .inr ⟨by omega,by omega,rfl⟩) (boN p i) (bO _);rw[<- h3.l,cv]at hr;rw[hr];split
     .exact⟨_,_,rfl,f9.imp (λh=>by omega) id⟩
     .exact⟨_,_,rfl,.inl (by omega)⟩
    .rcases bG j i with h1|h1
     .obtain⟨g1,g2,g3⟩:=L j h1;exact⟨g1,g2,λq q1 q2=>(g3 q q1 q2).app⟩
     .have hj:j=i:=by omega
      subst hj;refine ⟨by omega,by omega,λq q1 q2=>?_⟩;obtain⟨q,rfl⟩:∃n:Nat,q=(n:Int):=⟨q.toNat,by omega⟩
      refine ⟨by omega,by rw[bc,h3.l];omega,?_⟩;rw[LR (T:=pO) (by omega)];exact (h3.v _ (by omega)).1
  .rintro⟨a,p2,c2,l2,d2,f2,t2,s2⟩ ⟨N,e2,e3,e4,e5,e6,e7,hl8,⟨fa,fb,f8,f9⟩,L⟩;dsimp only at N e2 e3 e4 e5 e6 e7 hl8 f8 L;subst N;have e2:=e2.symm;subst e2 e3 e4 e5 e6 e7;refine dg (aj ?_);have hb8:=Y0 (l! p.2) hc;refine ⟨⟨rfl,rfl,rfl,rfl,⟨l! p.2,hp.t0,hp.t,rfl⟩,by dsimp only;omega,?_⟩,rfl,L⟩;unfold SV0;have hTl:l! (xH.take (l! p.2))=l! p.2:=by rw[bR];have q4:xH.length=4:=rfl;omega
   dsimp only;rw[hTl,f8];simp
def NM9:Y ζ:=[[120],[121],[118],[113],[109],[110],[114],[99],[102]]
set_option maxHeartbeats 20000000 in
def ag0 (t:Y ζ) (ht:l! t<=4) (s:Y π):qA (C0,I8,NI,WI,t,s)=Z (NM9++t,J):=by
 refine cz ?_;unfold qA aW bm bF cG dE wE bi bM iE bX bQ be cQ aG cN;with_reducible repeat' first|exact aj rfl|refine ZL ?_|refine ZK ?_|refine ZJ ?_|refine ZH ?_|refine ak4 ?_|refine aS ?_|refine fO rfl ?_|refine gB rfl ?_|refine a8 rfl ?_|refine ZI ?_|refine TO ?_|refine TN ?_
 refine bt (by show 9+l! t<=1073741824;omega) (by decide) ?_;with_reducible repeat' first|exact aj rfl|refine ZL ?_|refine ZK ?_|refine ZJ ?_|refine ZH ?_|refine ak4 ?_|refine aS ?_|refine fO rfl ?_|refine gB rfl ?_|refine a8 rfl ?_|refine ZI ?_|refine TO ?_|refine TN ?_
def WG:∀x∈NM9++xH,Ok (ft x) λb=>b=J:=by
 intro x z;simp only[NM9,xH,gA,kT,aZ,cw,fF]at z;rcases z with rfl|rfl|rfl|rfl|rfl|rfl|rfl|rfl|rfl|rfl|rfl|rfl|rfl;all_goals with_reducible repeat' first|exact aj rfl|refine ZL ?_|refine ZK ?_|refine ZJ ?_|refine ZH ?_|refine TN ?_|refine ak4 ?_|refine aS ?_|refine fO rfl ?_|refine gB rfl ?_|refine a8 rfl ?_|refine ZI ?_|refine TO ?_|refine c_ (ft.eq_1 ..) ?_|refine c_ (kD.eq_1 ..) ?_|refine c_ (lC.eq_1 ..) ?_|refine c_ (mq.eq_1 ..) ?_|refine c_ (qD.eq_1 ..) ?_|refine c_ (sW.eq_1 ..) ?_
def GT.up:∀{d:Nat} {s:Sx},GT d s->GT (d+1) s
 |0,_,h=>h.elim
 |_+1,_,⟨a,b,c,e,f,g,i⟩=>⟨a,b,c,e,f,λx z=>GT.up (g x z),λx z=>GT.up (i x z)⟩
def apl {l:Y Sx} (h:∀s∈l,GT 3 s):oP 5 l=oP 3 l:=by
 unfold oP;rw[gC λx z=>(Sd (GT.up (h x z))).trans (Sd (h x z))]
def aqc:∀i:Nat,i<13->∀r:Nat,r<i->geti (.str) (NM9++xH) (r:Int)≠geti (.str) (NM9++xH) (i:Int):=by decide
def DS {b:Int} {t f:M R} {Q:R->Prop} (h:b<=a) (hf:Ok f Q):Ok (aH (fK a b) t f) Q:=gB (g9.2 h) hf
def JN {w:WT} (hx:WX w):ig w=Z J:=by
 let⟨w1,w2,w3,w4,A,D⟩:=w;let⟨hc,hl,hd,hf,⟨n,n1,n4,ht⟩,hs,hv⟩:=hx;dsimp only at hc hl hd hf ht hs;subst hc hl hd hf;have hT:l! A=n:=by rw[ht,bR];have q4:xH.length=4:=rfl;omega
 have hv:Nz (l! A) D≠U:=hv;refine cz ?_;unfold ig aW bm bF cG dk ip bi bM j_ iE bX bQ be cQ aG cN;refine aU (λx=>x=(aa,C0,I8,NI,WI,A,D)) ?_ ?_
 .refine DS (show (5:Int)<=12 by decide) (DS (show (3:Int)<=4 by decide) (DS (show (1:Int)<=2 by decide) (DS (show (1:Int)<=2 by decide) (DS (show (1:Int)<=(l! A:Int) by omega) (DS (show (l! A:Int)<=4 by omega) (aj ?_))))));dsimp only[ak];rw[g9.2 (show (l! D:Int)<=60 by omega)]
 rintro x rfl;refine iT (aT (ag0 A (by omega) D) (gB rfl ?_));have hN:NM9++A=(NM9++xH).take (9+n):=by rw[ht];rcases (by omega:n=1\/n=2\/n=3\/n=4) with rfl|rfl|rfl|rfl<;>rfl
 have hNl:l! (NM9++A)=9+n:=by rw[bc,hT];rfl
 have hNg:∀i:Nat,i<9+n->geti (.str) (NM9++A) (i:Int)=geti (.str) (NM9++xH) (i:Int):=λi hi=>by
  rw[hN,xu,xu,aw,aw,List.getElem?_take_of_lt hi]
 refine cm (9+n) (λi x=>x=((i:Int),C0,I8,NI,WI,A,D)) ?_ ?_ rfl
 .rintro i x hi rfl;refine bL (λ_=>?_) λg=>(by dsimp only[ak]at g;rw[hNl]at g;omega)
  refine aU (λx=>x=(aa,C0,I8,NI,WI,A,D)) ?_ ?_
  .refine aM (by dsimp only;omega) (by dsimp only;rw[hNl];omega) (aS ?_);have hmem:geti (.str) (NM9++A) (i:Int)∈NM9++xH:=by rw[hNg i hi];exact bP (T:=.str) (by omega) (by have:l! (NM9++xH)=13:=rfl;omega)
   refine ax (WG _ hmem) λb hb=>?_
   refine gB (by rw[hb];rfl) (cY (a? (dL (by dsimp only;rw[hNl];omega) ?_)));refine aM (by dsimp only;omega) (by dsimp only;rw[hNl];omega) (aS ?_);refine ax (Ax _ _ (by dsimp only;rw[bR,hNl];omega)) λr hr=>aj ?_
   let⟨_,h2,h3,_⟩:=hr;dsimp only at h2 h3;rw[bR,hNl]at h2;have hr0:¬0<=r:=λh0=>by
    have h3:=h3 h0;obtain⟨r,rfl⟩:∃m:Nat,r=(m:Int):=⟨r.toNat,by omega⟩
    rw[xu,aw,List.getElem?_take_of_lt (by omega),<-aw,<-xu (T:=.str),hNg r (by omega),hNg i hi]at h3;exact aqc i (by omega) r (by omega) h3
   rw[mX.2 (by omega)]
  .rintro x rfl;exact iT (aj (by dsimp only;rw[gQ]))
 rintro x rfl;refine bL (λg=>(by dsimp only[ak]at g;rw[hNl]at g;omega)) λ_=>?_
 refine ax (P:=λb=>b=J) ?_ λy hy=>aj hy
 refine cm 1 (λi x=>x=((i:Int),C0,I8,NI,WI,A,D)) ?_ ?_ rfl
 .rintro i x hi rfl;have hi0:i=0:=by omega
  subst hi0;refine fO rfl (a8 rfl (aS (aU (λx=>x=(aa,C0,I8,NI,WI,A,D)) ?_ ?_)))
  .exact gB rfl (gB rfl (a8 rfl (aS (aj rfl))))
  .rintro x rfl;exact iT (aj (by dsimp only;rw[gQ]))
 rintro x rfl;refine bL (λg=>(by have g:(1:Int)<1:=g;omega)) λ_=>?_
 refine ax (P:=λb=>b=J) ?_ λy hy=>aj hy
 refine cm (l! D) (λi x=>x=((i:Int),C0,I8,NI,WI,A,D)/\∃t k:Int,Nz (l! A) (D.take i)=Z (t,k)/\0<=t/\t<(l! A:Int)/\(i=0->t=0/\k=0)/\(¬i=0->(geti pO D ((i-1:Nat):Int)).1=t/\(geti pO D ((i-1:Nat):Int)).2.1+1=k/\0<k/\k<=i)) ?_ ?_ ⟨rfl,0,0,rfl,by omega,by omega,λ_=>⟨rfl,rfl⟩,λh=>(h rfl).elim⟩
 .rintro i x hi ⟨rfl,t,k,hF,t0,tT,hz,hp⟩;have hw:¬(i:Int)=0->bl .i64 ((i:Int)-1)=((i-1:Nat):Int):=λh=>by rw[iQ];omega
  have hnx:=Kx (T:=l! A) hi;have hne:=Zr hv (i+1);rw[hnx,hF]at hne;let⟨hs1,L⟩:=af0 hne;rw[hF,hs1]at hnx;refine du ?_;refine aU (λx=>x=(C0,I8,NI,WI,A,D)) ?_ ?_
  .refine cu (aS ?_);revert L;generalize (geti pO D (i:Int))=z;obtain⟨(N:Int),(z2:Int),z3⟩:=z;intro L;dsimp only at L;refine aU (λx=>x=(aa,(C0,I8,NI,WI,A,D),N,z2,z3)) ?_ ?_
   .refine DS (show (0:Int)<=N by omega) (aj ?_);dsimp only[ak];rw[mX.2 (show N<(l! A:Int) by omega)]
   rintro x rfl;refine iT (aU (λx=>x.2=((C0,I8,NI,WI,A,D),N,z2,z3)/\(x.1=J->i=0\/¬t=N)/\(x.1=aa->¬i=0/\t=N)) ?_ ?_)
   .refine aI (λh=>aj ⟨rfl,λ_=>.inl (by have h:((i:Nat):Int)=0:=h;omega),nofun⟩) λh=>?_
    have h:¬((i:Nat):Int)=0:=h;dsimp only;rw[hw h];have hq:=(hp (by omega)).1;exact aM (by omega) (by first|omega|(dsimp only;omega)) (aS (aj ⟨rfl,λh2=>.inr (by rw[<- hq];simpa using h2),λh2=>⟨by omega,by rw[<- hq];simpa using h2⟩⟩))
   rintro⟨c,x⟩ ⟨e,hc1,hc⟩;dsimp only at e hc1 hc;subst e;refine aN (λhct=>?_) λhcf=>?_
   .have hz2:z2=0:=by
     rcases hc1 hct with h|h
     .have:=hz h;omega
     .omega
    refine aU (λx=>x=(aa,C0,I8,NI,WI,A,D)) ?_ ?_
    .refine ch (λh=>(h hz2).elim) λ_=>bL (λh=>?_) λ_=>aj rfl
     have h:(0:Int)<((i:Nat):Int):=h;dsimp only;rw[hw (by omega)];have hq:=(hp (by omega)).1;refine aM (by omega) (by first|omega|(dsimp only;omega)) (aS (aj ?_));dsimp only;rw[hq,g9.2 (show t<=N by omega)]
    rintro x rfl;exact iT (aj rfl)
   .obtain⟨h1,h2⟩:=hc hcf;let⟨_,p2,p3,p4⟩:=hp h1;dsimp only;rw[hw (by omega)];refine aM (by omega) (by first|omega|(dsimp only;omega)) (aS ?_);refine ch (λh=>(h ?_).elim) λ_=>aj rfl
    try dsimp only
    rw[p2,iQ];omega
  .rintro x rfl;refine aj ⟨by dsimp only;rw[gQ],_,_,hnx,?_⟩;revert L;rw[show i+1-1=i by omega];generalize (geti pO D (i:Int))=z;obtain⟨(N:Int),(z2:Int),z3⟩:=z;intro L;dsimp only at L ⊢;refine ⟨by omega,by omega,λh=>by omega,λ_=>⟨rfl,rfl,?_,?_⟩⟩
   .by_cases h0:i=0
    .have:=hz h0;omega
    .have:=hp h0;omega
   .by_cases h0:i=0
    .have:=hz h0;omega
    .have:=hp h0;omega
 .rintro x ⟨rfl,_⟩;exact dg (aj rfl)
def Y9 {c:CT} (z:WX c.1) (A:l! c.2=l! c.1.2.2.2.2.1) (h:∀k:Nat,k<l! c.2->GC (l! c.2) c.1.2.2.2.2.2 (k:Int) (geti yL c.2 (k:Int))):kB c=Z J:=by
 let⟨w,l⟩:=c;dsimp only at z A h;have L:l! l<=4:=by
  let⟨n,_,D,ht⟩:=z.t;rw[A,ht,bR];omega
 refine cz ?_;unfold kB bF bM bQ be cQ aG cN;refine aU (λx=>x=(aa,w,l)) ?_ ?_
 .refine aT (JN z) (gB rfl (aj ?_));dsimp only;rw[A];simp
 rintro x rfl;refine iT (cm (l! l) (λi x=>x=((i:Int),w,l)) ?_ ?_ rfl)
 .rintro i x hi rfl;refine du ?_;refine cu (aS (aT (Gn z A.symm (h i hi)) (gB rfl (aj ?_))));dsimp only;rw[gQ]
 .rintro x rfl;exact dg (aj rfl)
def Sv (p:PG) (hp:PJ p) (hr4:∃r,fB p=Z r/\r.1=0):Ok (rM p) λy=>CB y.1:=by
 have hpt:=hp.t;let⟨r,hr,h0⟩:=hr4;let⟨r',hr',h60⟩:=Gb p hp.x;rw[hr]at hr';cases hr';have h60:=h60 h0;unfold rM aW bm bF cG ep cg dk ip En bM iE bX bQ jY be cQ aG cN;refine aT hr (ch (λh=>(h h0).elim) λ_=>?_);refine ax (Y7 p hp r hr h0 h60) λw hw=>?_
 have hwT:l! w.2.2.2.2.1=l! p.2:=by rw[hw.t,bR];have q4:xH.length=4:=rfl;omega
 refine cm (l! p.2) (λi x=>x.1.1=((bsN p i:Nat):Int)/\x.1.2=(i:Int)/\x.2.1=p/\x.2.2.1=w/\l! x.2.2.2=i/\∀j:Nat,j<i->GC (l! p.2) w.2.2.2.2.2 (j:Int) (geti yL x.2.2.2 (j:Int))) ?_ ?_ ⟨rfl,rfl,rfl,rfl,rfl,λj L=>by omega⟩
 .rintro i ⟨⟨a,b⟩,p2,w2,cs⟩ hi ⟨e0,e1,e2,e3,e4,e5⟩;dsimp only at e0 e1 e2 e3 e4 e5;subst e0 e1;have e2:=e2.symm;subst e2;have e3:=e3.symm;subst e3;have hin:((i:Nat):Int)<(l! p.2:Int):=by omega
  refine du ?_;have hm:=hp.m _ (bP (T:=uw) (xs:=p.2) (j:=(i:Int)) (by omega) hin);have hsr:=hw.s i hi;have hbs:=ano hi;have hb1:=Y0 (i+1) h60;have hbo:boN p i=oP 3 (geti uw p.2 (i:Int)).2.2.2:=apl λs hs=>(hm.s s hs).t
  rw[hbo]at hsr hbs;dsimp only;refine aM (by omega) hin (aS (aM (by omega) hin (aS ?_)));revert hm hsr hbs;generalize (geti uw p.2 (i:Int))=t;intro hm hsr hbs;have hk:ME 3=50+16*(50+16*50):=rfl;have hle:=cK (ME 3) hm.b;rw[hk]at hle;have hll:l! t.2.2.1=2:=by rw[hm.l];rfl
  refine ax (RG (nT:=l! p.2) (ss:=w.2.2.2.2.2) (t:=(i:Int)) 3 (by omega) _ _ [] (by have:=hm.b;omega) hm.s ⟨hw.x.c,hw.x.l,hw.x.d,hw.x.f,hw.t,hm.l⟩ hsr (by rw[hk,mR];omega)) λy hy=>a8 (by simp) ?_
  let⟨g2,o2⟩:=y;let⟨q1,q2,q3⟩:=hy;dsimp only at q1 q2 q3;have q4:=q2.u;rw[hk,mR]at q4;refine ax (KE _ _ o2 (by omega)) λy hy=>a8 (by simp) ?_
  let⟨g3,A⟩:=y;let⟨hg3,ho3⟩:=hy;dsimp only at hg3 ho3;have hL:aQ (ah g3.2.2.2.2.2.2.1)=2:=by
   rw[hg3];show aQ (ah g2.2.2.2.2.2.2.1)=2;rw[q1.h];show aQ (ah t.2.2.1)=2;rw[hll];rfl
  have l3:l! A=l! o2+1:=by rw[ho3,bc];rfl
  have l31:l! A-1=l! o2:=by omega
  have iq:∀q:Nat,q<l! o2->iA A q=iA o2 q:=λq D=>by rw[ho3,Ls D]
  have iend:iA A (l! o2)=(28,0,0,0,0,-1):=by rw[ho3,zB]
  have hreg:∀q:Nat,q<l! A->∀j:Int,j∈je (iA A q)->0<=j/\j<32:=λq D j L=>by
   by_cases h:q<l! o2
   .rw[iq q h]at L;exact (q2.i q (mi _) h).o.r j L
   .rw[show q=l! o2 by omega,iend]at L;simp[je]at L
  dsimp only;rw[hL];refine cm (l! A) (λk x=>∃N:Int,x=((k:Int),p,w,g3,N,cs,A)/\2<=N/\N<=32/\∀q:Nat,q<k->∀j:Int,j∈je (iA A q)->j<N) ?_ ?_ ⟨2,rfl,by omega,by omega,λq D=>by omega⟩
  .rintro k x hk2 ⟨N,rfl,r0,r1,r2⟩;refine du ?_;dsimp only;refine cu (cu (aS (aT (uY _) ?_)));have hrk:=hreg k hk2;have hrl:=EJ (iA A k);revert hrk hrl;generalize hins:(geti sx A (k:Int))=ins;rw[show iA A k=ins from hins];intro hrk hrl;refine cm (l! (je ins)) (λj x=>∃rg':Int,x=((j:Int),p,w,g3,rg',cs,A)/\N<=rg'/\rg'<=32/\∀q:Nat,q<j->rg'>geti aL (je ins) (q:Int)) ?_ ?_ ⟨N,rfl,dz _,r1,λq D=>by omega⟩
   .rintro j x L ⟨rg',rfl,s0,s1,s2⟩;refine du ?_;refine cu (aS (aj ?_));have hz:=hrk _ (bP (T:=aL) (xs:=je ins) (j:=(j:Int)) (by omega) (by omega));dsimp only;obtain⟨z,hzj⟩:∃z:Int,geti aL (je ins) (j:Int)=z:=⟨_,rfl⟩
    rw[hzj]at hz ⊢;have hz0:(0:Int)<=z:=hz.1;have hz1:(32:Int)>z:=hz.2;rw[gQ,iQ (n:=z+1) (by omega) (by omega)];have him:rg'<=mH rg' (z+1)/\z+1<=mH rg' (z+1)/\mH rg' (z+1)<=32:=by
     unfold mH;split
     next h=>have h:=pX.1 h;omega
     next h=>have h:=g9.1 (QF.2 h);omega
    refine ⟨_,rfl,by omega,him.2.2,λq D=>?_⟩;rcases bG q j with h1|h1
    .have:=s2 q h1;omega
    .rw[show q=j by omega,hzj];exact Int.lt_of_lt_of_le (show z<z+1 by omega) him.2.1
   .rintro x ⟨rg',rfl,s0,s1,s2⟩;refine dg (aj ?_);refine ⟨rg',by dsimp only;rw[gQ],by omega,s1,λq D j L=>?_⟩;rcases bG q k with h1|h1
    .have:=r2 q h1 j L;omega
    .rw[show q=k by omega,show iA A k=ins from hins]at L;exact iL (T:=aL) (p:=λc=>rg'>c) s2 j L
  .rintro x ⟨N,rfl,r0,r1,r2⟩;refine dg (TO (a! (TN (aj ?_))));dsimp only;have q3':(g2.2.2.2.2.2.2.2.2:Int)=(bsN p i:Nat)+(oP 3 t.2.2.2:Nat):=q3;refine ⟨by rw[q3',hbs];omega,gQ,rfl,rfl,by simp;omega,λj L=>?_⟩;rcases bG j i with h1|h1
   .rw[LS (T:=yL) (by rw[e4];exact h1)];exact e5 j h1
   .rw[show j=i by omega,LR (T:=yL) (by rw[e4];omega),e4,wG];refine ⟨show (1:Int)<=N by omega,r1,show 1<=l! A by omega,show (l! A)<=1000000 by omega,?_,?_,?_,?_,?_⟩
    .show (iA A (l! A-1)).1=28/\(iA A (l! A-1)).2.2.2.2.2= -1;rw[l31,iend];exact⟨rfl,rfl⟩
    .show sk A 0 (l! A-1);rw[l31];exact q2.b.congr λq _ D=>iq q D
    .show ∀q:Nat,q<l! A-1->GI (l! p.2) w.2.2.2.2.2 (i:Int) (iA A q);rw[l31];exact λq D=>by rw[iq q D];exact q2.i q (mi _) D
    .show ∀q:Nat,q<l! A-1->(iA A q).1=10->0<=(iA A q).2.2.1/\(iA A q).2.2.1<(l! A:Int)
     rw[l31];intro q D h10;rw[iq q D]at h10 ⊢;have:=q2.r q (mi _) D h10;omega
    .exact λq D j L=>r2 q (show q<l! A by have D:q<l! A-1:=D;omega) j L
 .rintro⟨⟨a,b⟩,p2,w2,cs⟩ ⟨e0,e1,e2,e3,e4,e5⟩;dsimp only at e0 e1 e2 e3 e4 e5;subst e1 e2 e3;refine dg (aj ?_);have hgc:∀t∈cs,∃k:Nat,GC p2.2.length w2.2.2.2.2.2 (k:Int) t:=iL (T:=yL) λk hk=>⟨k,e5 k (by omega)⟩
  refine ⟨by dsimp only;omega,λt ht=>?_,λt ht=>?_,hw.x,Y9 hw.x ?_ ?_⟩
  .obtain⟨k,hk⟩:=hgc t ht;exact hk.u
  .obtain⟨k,hk⟩:=hgc t ht;exact hk.r0
  .dsimp only;rw[e4,hwT]
  .dsimp only;rw[e4];exact e5
def N0 (a b:η) (ha:l! a<=9223372036854775807) (D:∀z∈a,0<=z/\z<=255) (N:l! b<=1000000):Ok (tS (a,b)) TR:=by
 unfold tS;refine ax (P:=CB) ?_ λc L=>ax (Zi b N) λl hl=>?_
 .unfold zo;exact ax (Ji a ha D) λp hp=>ax (Sv p hp.1 hp.2) λy A=>aj A
 .exact ax (aqb c l L (by omega)) λy A=>aj A
def Su (a b c:η) (n:Int) (n0:0<=n) (n1:n<=1000000) (N:l! a<=9223372036854775807) (D:∀z∈a,0<=z/\z<=255) (L:l! c<=9223372036854775807) (A:∀z∈c,0<=z/\z<=255):Ok (l8 ((a,b,c),n)) TR:=by
 unfold l8 bM bX be;refine bL (λ_=>ax (Kz c n L A) λy h=>aj h) λ_=>?_
 have h0:0<=Jm (aQ (l! b)) n/\Jm (aQ (l! b)) n<=(l! b:Int)/\Jm (aQ (l! b)) n<=n:=by
  unfold Jm;split
  next h=>rw[pX]at h;dsimp only[ak]at h;exact⟨n0,by omega,dz _⟩
  next h=>have h:=g9.1 (QF.2 h);dsimp only[ak]at h ⊢;exact⟨by omega,dz _,h⟩
 refine cY (dL h0.1 (dL h0.2.1 ?_));have h1:l! (dB (aO (Jm (aQ (l! b)) n)) b)<=1000000:=by rw[bR];have:=h0.1;have:=h0.2.2;omega
 exact ax (N0 a _ N D h1) λy h=>aj h
def aer (P:Program) (f:Ty->TypeId->Bool):Y Field->Nat->Ty->Bool
 |[],_,.un=>J
 |[x],off,T=>ay x.offset off&&f T x.type&&ay (P.cellsOf x.type) T.size
 |x::y::r,off,.pr a b=>ay x.offset off&&f a x.type&&ay (P.cellsOf x.type) a.size&&aer P f (y::r) (off+a.size) b
 |_,_,_=>aa
def ab7 (P:Program) (f:Ty->TypeId->Bool) (e:TypeId):Nat->Ty->Bool
 |1,T=>f T e&&ay (P.cellsOf e) T.size
 |m+2,.pr a b=>f a e&&ay (P.cellsOf e) a.size&&ab7 P f e (m+1) b
 |_,_=>aa
def DI (P:Program):Nat->Ty->TypeId->Bool
 |0,_,_=>aa
 |n+1,T,t=>match T,P.underlying t with
  |.int k,Z (.int z)=>k==z
  |.bool,Z .bool=>J
  |.str,Z .string=>J
  |.sl y,Z (.slice e)=>DI P n y e&&ay (P.cellsOf e) y.size&&dY 0 y.size
  |.st y,Z (.struct A)=>aer P (DI P n) A.toList 0 y&&ay (P.cellsOf t) y.size
  |.st y,Z (.array m e)=>ab7 P (DI P n) e m y&&ay (P.cellsOf t) y.size
  |_,_=>aa
def Zj:(T:Ty)->T.den->Prop
 |.int k,n=>(Lit.int k n).wf=J
 |.str,s=>ah s<=maxLen
 |.sl y,xs=>ah xs<=maxLen/\∀x∈(xs:Y y.den),Zj y x
 |.st t,v=>Zj t v
 |.pr a b,v=>Zj a v.1/\Zj b v.2
 |_,_=>True
def Np (W:World) (T:Ty) (x:T.den) (cs:ξ):Prop:=l! cs=T.size/\∀(j:Nat) y v,(bI T x)[j]? =Z y->cs[j]? =Z v->mO (λ_=>False) W y v
def M4 (z:R) (P:Nat->R->Prop):∀n:Nat,(∀i,i<n->∃a,P i a)->∃l:Y R,l! l=n/\∀i x,l[i]? =Z x->P i x
 |0,_=>⟨[],rfl,λi x h=>by simp at h⟩
 |n+1,h=>by
  let⟨l,A,hp⟩:=M4 z P n (λi hi=>h i (by omega));let⟨a,L⟩:=h n (by omega);refine ⟨l++[a],by simp[A],λi x D=>?_⟩
  grind
def Addr.add_plain {a:Addr} (h:a.spot=U) (n:Nat):a.add n=⟨a.block,a.off+n,U⟩:=by
 unfold Addr.add;split
 next h0=>subst h0;cases a;subst h;rfl
 .rfl
variable {v:Value}
def acw {w:World} {a:Addr} (h:w.cell? a=Z v):a.spot=U:=by
 unfold Qz at h;split at h
 .simp_all
 .cases h
variable {T:Ty} {N:ξ}
def Np.sub {W:World} {x:T.den} {n:Nat} (h:Np W T x ((N.drop i).take n)) (D:n=T.size) (L:i+n<=l! N):∀(j:Nat) y v,(bI T x)[j]? =Z y->N[i+j]? =Z v->mO (λ_=>False) W y v:=λj y v z A=>by
 refine h.2 j y v z ?_;have cs:j<T.size:=by have:=(bB.1 z).1;rwa [bk]at this
 grind
section
variable {H:Type} {enc:TypeId×Value->H} {P:Program} {W:World} {base:Nat} {sp:Nat->Bool} {hd:Bool}
def ZF {f:Ty->TypeId->Bool} {m:Nat} (ih:∀(T:Ty) (t:TypeId) (cs:ξ) x,f T t=J->DataW.trod enc P W base sp hd m t cs=Z x->∃v,Np W T v cs/\Zj T v) (cs:ξ) (ts:Y (DataW H×Y MemPlace)):
 ∀(fs:Y Field) (off k:Nat) (T:Ty),aer P f fs off T=J->off+T.size<=l! cs->(∀(i:Nat) (fl:Field),fs[i]? =Z fl->∃z,DataW.trod enc P W base sp hd m fl.type ((cs.drop fl.offset).take (P.cellsOf fl.type))=Z z)->
 ∃v,(∀(j:Nat) y u,(bI T v)[j]? =Z y->cs[off+j]? =Z u->mO (λ_=>False) W y u)/\Zj T v
 |[],off,k,.un,_,_,_=>⟨(),λj y u L=>by simp[bI]at L,trivial⟩
 |[x],off,k,T,h,hl,N=>by
  simp only[aer,al]at h;let⟨⟨h1,h2⟩,D⟩:=h;have h1:=au h1;have D:=au D;let⟨z,hz⟩:=N 0 x rfl;let⟨v,A,hw⟩:=ih T _ _ _ h2 hz;rw[h1]at A;exact⟨v,A.sub D (by omega),hw⟩
 |x::x'::r,off,k,.pr a b,h,hl,N=>by
  simp only[aer,al]at h;let⟨⟨⟨h1,h2⟩,D⟩,h4⟩:=h;have h1:=au h1;have D:=au D;simp[Ty.size]at hl;let⟨z,hz⟩:=N 0 x rfl;let⟨v,A,hw⟩:=ih a _ _ _ h2 hz;rw[h1]at A;have A:=A.sub D (by omega);let⟨v',hv',hw'⟩:=ZF ih cs ts (x'::r) (off+a.size) (k+1) b h4 (by omega) (λi fl hi=>N (i+1) fl (by grind));refine ⟨(v,v'),λj y u L hu=>?_,hw,hw'⟩;simp[bI]at L;by_cases hj:j<a.size
  .rw[bC (by rw[bk];exact hj)]at L;exact A j y u L hu
  .rw[bS (by rw[bk];omega),bk]at L
   grind
variable {s:TypeId}
def ZG {f:Ty->TypeId->Bool} {m:Nat} (N:∀(T:Ty) (t:TypeId) (cs:ξ) x,f T t=J->DataW.trod enc P W base sp hd m t cs=Z x->∃v,Np W T v cs/\Zj T v) (cs:ξ):
 ∀(n i:Nat) (T:Ty),ab7 P f s n T=J->i*P.cellsOf s+T.size<=l! cs->(∀j,j<n->∃z,DataW.trod enc P W base sp hd m s ((cs.drop ((i+j)*P.cellsOf s)).take (P.cellsOf s))=Z z)->
 ∃v,(∀(j:Nat) y u,(bI T v)[j]? =Z y->cs[i*P.cellsOf s+j]? =Z u->mO (λ_=>False) W y u)/\Zj T v
 |0,i,T,h,_,_=>by cases h
 |1,i,T,h,hl,L=>by
  simp only[ab7,al]at h;have h3:=au h.2;let⟨z,hz⟩:=L 0 (by omega);let⟨v,A,hw⟩:=N T _ _ _ h.1 hz;rw[cW]at A;exact⟨v,A.sub h3 (by omega),hw⟩
 |n+2,i,T,h,hl,L=>by
  cases T with
  |pr a b=>
   simp only[ab7,al]at h;let⟨⟨h1,h2⟩,h4⟩:=h;have h3:=au h2;simp[Ty.size]at hl;let⟨z,hz⟩:=L 0 (by omega);let⟨v,A,hw⟩:=N a _ _ _ h1 hz;rw[cW]at A;have A:=A.sub h3 (by omega);let⟨v',hv',hw'⟩:=ZG N cs (n+1) (i+1) b h4 (by grind) (λj hj=>by have:=L (j+1) (by omega);rwa [show i+(j+1)=i+1+j from by omega]at this);refine ⟨(v,v'),λj y u D hu=>?_,hw,hw'⟩;simp[bI]at D;by_cases hj:j<a.size
   .rw[bC (by rw[bk];exact hj)]at D;exact A j y u D hu
   .rw[bS (by rw[bk];omega),bk]at D
    grind
  |_=>unfold ab7 at h;cases h
def J4:∀(n:Nat) (T:Ty) (t:TypeId) (fuel:Nat) (cs:ξ) x,DI P n T t=J->(∀b,sp b=J)->DataW.trod enc P W base sp hd fuel t cs=Z x->∃v,Np W T v cs/\Zj T v
 |0,_,_,_,_,_,h,_,_=>by unfold DI at h;cases h
 |n+1,T,t,fuel,cs,x,h,hsp,ht=>by
  unfold DI at h;split at h
  .rename_i k k' N;have hk:=eq_of_beq h;subst hk;obtain⟨m,rfl,_,hw⟩:=DataW.trod_int N ht;refine ⟨m,⟨rfl,λj y v z L=>?_⟩,hw⟩;cases j with
   |zero=>simp[bI]at z L;subst z L;exact .raw _
   |succ j=>simp[bI]at z
  .rename_i N;obtain⟨b,rfl,_⟩:=DataW.trod_bool N ht;refine ⟨b,⟨rfl,λj y v z L=>?_⟩,trivial⟩;cases j with
   |zero=>simp[bI]at z L;subst z L;exact .raw _
   |succ j=>simp[bI]at z
  .rename_i N;obtain⟨s,rfl,_,hs⟩:=DataW.trod_string N ht;refine ⟨s.data.toList,⟨rfl,λj y v z L=>?_⟩,by simpa[Zj] using hs⟩;cases j with
   |zero=>simp[bI]at z L;subst z L;exact .raw _
   |succ j=>simp[bI]at z
  .rename_i A e N;simp only[al]at h;let⟨⟨h1,h2⟩,h3⟩:=h;have h2:=au h2;have h3:0<A.size:=aV h3;rcases Go.Deep.open_slice N ht with ⟨rfl,_⟩|⟨a,len,cap,m,k,D,Pl,rfl,hb,hl,hm,hmm,_,hi⟩
   .refine ⟨[],⟨rfl,λj y v z L=>?_⟩,by simp[Zj]⟩;cases j with
    |zero=>simp[bI]at z L;subst z L;exact .nil _ _ (by unfold maxLen;omega)
    |succ j=>simp[bI]at z
   .rw[hsp,aD rfl]at hmm;rw[h2]at hi;let⟨xs,hx1,hx2⟩:=M4 A.zero (λi (v:A.den)=>∃cs',W.cells? base (a.add (i*A.size)) A.size=Z cs'/\Np W A v cs'/\Zj A v) len (λi hil=>by
     let⟨cs',hc,htt⟩:=hi i (by omega);let⟨v,L,hw⟩:=J4 n A e k cs' _ h1 hsp htt;exact⟨v,cs',hc,L,hw⟩)
    refine ⟨xs,⟨rfl,λj y v z L=>?_⟩,by show ah xs<=maxLen;omega,λy z=>?_⟩
    .cases j with
     |succ j=>simp[bI]at z
     |zero=>
      simp[bI]at z L;subst z L;by_cases h0:len=0
      .have:xs=[]:=db.1 (by omega);subst this h0;exact .nil _ _ hm
      .obtain⟨x0,hx0⟩:∃x0,xs[0]? =Z x0:=⟨xs[0]'(by omega),aE (by omega)⟩
       let⟨cs0,hc0,_⟩:=hx2 0 x0 hx0;let⟨_,hcl0,hat0⟩:=World.cells?_some hc0;have hca:=hat0 0 h3;rw[aE (by omega)]at hca;have hspot:a.spot=U:=by
        have:=acw hca;simpa[Addr.add] using this
       have hblk:=World.block_lt_of_cell? W _ hca;rw[Nat.zero_mul,Addr.add_plain hspot,Addr.add_plain rfl]at hca hblk;have hcell:∀(i j:Nat) x,xs[i]? =Z x->j<A.size->∃cs',W.cell? ⟨a.block,a.off+(i*A.size+j),U⟩=cs'[j]? /\j<l! cs'/\Np W A x cs':=λi j x hx hj=>by
        let⟨cs',hc,hr,_⟩:=hx2 i x hx;let⟨_,hcl,hat⟩:=World.cells?_some hc;have:=hat j hj;rw[Addr.add_plain hspot,Addr.add_plain rfl,qH]at this;exact⟨cs',this,by omega,hr⟩
       have hflat:∀j,j<l! xs*A.size->∃x,xs[j/A.size]? =Z x/\j%A.size<A.size/\j=j/A.size*A.size+j%A.size:=λj hj=>by
        have h5:j/A.size<l! xs:=Nat.div_lt_of_lt_mul (by rw[Nat.mul_comm];exact hj);exact⟨xs[j/A.size],aE h5,Nat.mod_lt _ h3,by rw[Nat.mul_comm];exact (Nat.div_add_mod j A.size).symm⟩
       have hlen:l! (List.flatMap (bI A) xs)=l! xs*A.size:=d_ (bk A) xs;let⟨ab,ao,az⟩:=a;cases hspot;rw[<- hx1];refine .sl (List.flatMap (bI A) xs) (l! xs) cap ab ao (λj=>(W.cell? ⟨ab,ao+j,U⟩).getD undef) (by omega) hm (λh=>h) hblk (mc A xs) (λj hj=>?_) (λj y z=>?_)
       .obtain⟨x,hx,hjs,hje⟩:=hflat j (by omega);let⟨cs',g1,g2,_⟩:=hcell _ _ x hx hjs;rw[<- hje]at g1;simp only[g1,aE g2,wF]
       .have hj:j<l! xs*A.size:=by rw[<- hlen];exact (bB.1 z).1
        let⟨x,hx,hjs,hje⟩:=hflat j hj;let⟨cs',g1,g2,g3⟩:=hcell _ _ x hx hjs;rw[<- hje]at g1;simp only[g1];rw[aE g2];refine g3.2 (j%A.size) y _ ?_ (aE g2);let⟨r,hr⟩:=Hd (bk A) xs (j/A.size) x hx;have:((List.flatMap (bI A) xs).drop (j/A.size*A.size))[j%A.size]? =Z y:=by rw[oO,<-hje];exact z
        rw[hr,bC (by rw[bk];exact hjs)]at this;exact this
    .obtain⟨i,hi'⟩:=fY z;let⟨_,_,_,hw⟩:=hx2 i y hi';exact hw
  .rename_i A fs N;simp only[al]at h;have h2:=au h.2;obtain⟨xs,m,rfl,_,hl,hxl,hg⟩:=DataW.trod_struct N ht;let⟨v,L,hw⟩:=ZF (f:=DI P n) (m:=m) (λT t cs x h1 h2=>J4 n T t m cs x h1 hsp h2) cs xs fs.toList 0 0 A h.1 (by omega) (λi fl hi=>by
    have hi':fs[i]? =Z fl:=by simpa using hi
    have:=hg i fl hi';have hlt:i<l! xs:=by rw[hxl];exact (c7.1 hi').1
    rw[aE hlt]at this;exact⟨_,this⟩)
   exact⟨v,⟨by rw[hl,h2];rfl,λj y u z N=>L j y u z (by rw[bT];exact N)⟩,hw⟩
  .rename_i A m e N;simp only[al]at h;have h2:=au h.2;obtain⟨xs,q,rfl,_,hl,hxl,hg⟩:=DataW.trod_array N ht;let⟨v,L,hw⟩:=ZG (f:=DI P n) (m:=q) (λT t cs x h1 h2=>J4 n T t q cs x h1 hsp h2) cs m 0 A h.1 (by omega) (λj hj=>by
    have:=hg j hj;rw[aE (by omega)]at this;rw[bT];exact⟨_,this⟩)
   exact⟨v,⟨by rw[hl,h2];rfl,λj y u z N=>L j y u z (by rw[Nat.zero_mul,bT];exact N)⟩,hw⟩
  .cases h
def TQ {t:TypeId} {r:Reach} (z:DI P i T t=J) (h1:T.one=J) (h:JU P W r j t v):v.cells.toList=[v]:=by
 cases i with
 |zero=>unfold DI at z;cases z
 |succ i=>
  unfold DI at z;unfold JU at h;cases v with
  |agg cs=>
   split at z<;>rename_i A<;>first|(rw [A]at h;simp[]at h;unfold Cell.okWide at h;rw[A]at h;unfold Cell.ok at h;rw[A]at h;simp at h)|cases h1|cases z
  |_=>rfl
def XB {t:TypeId} {r:Reach} (z:DI P i T t=J) (h1:T.one=aa) (h:JU P W r j t v):∃cs,v= .agg cs:=by
 cases i with
 |zero=>unfold DI at z;cases z
 |succ i=>
  unfold DI at z;unfold JU at h;split at z<;>rename_i A<;>first|(rw [A]at h;let⟨cs,h,_⟩:=h;exact⟨cs,h⟩)|cases h1|cases z
def open_arg {n:Nat} {t:TypeId} {d:DataW H} {D:Y MemPlace} {r:Reach} (A:DI P n T t=J) (hsp:∀b,sp b=J) (hok:JU P W r i t v) (h:DataW.Trod enc P W base sp hd t v d D):∃x,mO (λ_=>False) W (fM T x) v/\Zj T x:=by
 let⟨fuel,hf⟩:=h;let⟨x,z,N⟩:=J4 n T t fuel _ _ A hsp hf;refine ⟨x,?_,N⟩;by_cases h1:T.one=J
 .obtain⟨e1,e2⟩:=Mh T x h1;exact z.2 0 _ v (by grind) (by rw[TQ A h1 hok];rfl)
 .obtain⟨cs,rfl⟩:=XB A (by grind) hok;rw[rZ T x (by grind)];have hl:l! cs.toList=l! (bI T x):=by rw[bk];exact z.1
  have:=mO.agg (O:=λ_=>False) (w:=W) (bI T x) cs.toList hl (pa T x) (λj y u L hu=>z.2 j y u L hu);simpa using this
end
def S5 {w:WT} {l:Y ET} (z:TR (w,l)) {H:WkH} (A:HK w l H):Ok (rE (w,l)) λy=>y.2=0/\∃tm la sp wa wt st se op re ar si ei,WkG w l (l! l) y.1 tm la sp wa wt st se op re ar si ei/\H (l! l) y.1 tm la sp wa wt st se op re ar si ei:=by
 unfold rE iE;refine aT (arw z) (iT (ax (ac8 z A) ?_));rintro y ⟨c,tm,la,sp,wa,wt,st,se,op,re,ar,si,ei,rfl,g,h⟩;exact aj ⟨rfl,tm,la,sp,wa,wt,st,se,op,re,ar,si,ei,g,h⟩
abbrev tQ:Ty:=.pr aL (.pr aL (.pr aL .bool))
def aak (h:(Lit.int .u8 a).wf=J):0<=a/\a<=255:=⟨bx (wh.1 h).1,bx (wh.1 h).2⟩
variable {z:η}
def ab0 {b:η} (A:l! z<=1000) (a:l! b<=1000) (h:wn z b):tM (z,b)=Z J:=by
 unfold tM Fi bM be cQ aG cN;refine Ub (σ:=Int) (max (l! z) (l! b)) (by omega) (λi=>(i:Int)) (λi hi=>?_) ?_
 .simp only[Bh];rw[PK (by omega),Cr,an9,HN,HN,J5,J5,Ue (h i),F7,Gm hi (by omega)]
 .simp only[Bh];rw[Ue (by omega),F7]
def ahh {w:WT} {l:Y ET} (z:TR (w,l)) (h:i<l! l):(eN l i).1=(ja l i:Int):=by
 have:0<=(eN l i).1:=(z.ev _ (zK h)).t0;unfold ja;omega
def adi {w:WT} {l:Y ET} (z:TR (w,l)) (A:j<l! l):tL (l,(j:Int))=Z (ct l (ja l j) j:Int):=by
 have D:l! l<=400:=z.len;refine cz ?_;unfold tL bi bM bQ cQ aG cN;refine cm j (λi x=>x=((ct l (ja l j) i:Int),(i:Int))) ?_ ?_ rfl
 .rintro i x hi rfl;have L:=alb l (ja l j) i;have N:=ahh z (show i<l! l by omega);have e2:=ahh z A;refine du ?_;refine aU (λx=>x=(ct l (ja l j) (i+1):Int)) ?_ ?_
  .rw[ct];refine cu (aS (cu (aS (aI (λh=>aj ?_) λh=>aj ?_))))
   .have h:(eN l i).1=(eN l j).1:=h;rw[aD (by omega)];exact gQ
   .have h:¬(eN l i).1=(eN l j).1:=h;rw[av (by omega)];rfl
  rintro x rfl;refine aj ?_;dsimp only;rw[gQ]
 .rintro x rfl;exact dg (aj rfl)
def Zg {w:WT} {l:Y ET} (z:TR (w,l)) (A:j<l! l):rI (l,(j:Int))=Z ((ct l (ja l j) (j+1):Int),(ja l j:Int)):=by
 have D:l! l<=400:=z.len;have L:=alb l (ja l j) j;refine cz ?_;unfold rI bQ;refine aT (adi z A) (cu (aS (aj ?_)));show (bl .i64 (1+(ct l (ja l j) j:Int)),(eN l j).1)=_;rw[ahh z A,RP,iQ,Int.add_comm];rfl
def ady (c:η) (l:Y ET) (i n:Nat):tN (c,(ct l (ja l i) n:Int),(ja l i:Int))=Z (decide ((ct l (ja l i) n:Int)<=c.getD (ja l i) 0)):=by
 unfold tN;dsimp only;rw[an9,HN];rfl
abbrev NG:Type:=Int×e?
def clS (e:ET) (i:Int) (s:NG):NG:=if s.1=e.1/\s.2.2.1<0 then (s.1,s.2.1,i,s.2.2.2) else s
def sN (w:WT) (l:Y ET) (lk:Int):Nat->Y NG
 |0=>[]
 |i+1=>(if iD w (eN l i)=lk then (sN w l lk i).map (clS (eN l i) (i:Int)) else sN w l lk i)++(if q_ w (eN l i)=lk then [((eN l i).1,(i:Int),-1,decide ((eN l i).2.1=8))] else [])
def EC {w:WT} {l:Y ET} {s:NG} (h:s∈sN w l a (i+1)):(q_ w (eN l i)=a/\s=((eN l i).1,(i:Int),-1,decide ((eN l i).2.1=8)))\/
 (s∈sN w l a i/\¬(iD w (eN l i)=a/\s.1=(eN l i).1/\s.2.2.1<0))\/∃r,(s.1,s.2.1,r,s.2.2.2)∈sN w l a i/\r<0/\iD w (eN l i)=a/\s.1=(eN l i).1/\s.2.2.1=(i:Int):=by
 rw[sN]at h;rcases bA.1 h with h|h
 .refine .inr ?_;by_cases z:iD w (eN l i)=a
  .rw[aD z]at h;obtain⟨D,h0,rfl⟩:=cj.1 h;unfold clS;by_cases A:D.1=(eN l i).1/\D.2.2.1<0
   .rw[aD A];exact .inr ⟨D.2.2.1,h0,A.2,z,A.1,rfl⟩
   .rw[av A];exact .inl ⟨h0,λg=>A g.2⟩
  .rw[av z]at h;exact .inl ⟨h,λg=>z g.1⟩
 .refine .inl ?_;by_cases z:q_ w (eN l i)=a
  .rw[aD z,aB]at h;exact⟨z,h⟩
  .rw[av z]at h;cases h
structure SeF (w:WT) (l:List ET) (lk:Int) (n:Nat) (s:NG):Prop where
 a0:0<=s.2.1
 a1:s.2.1<(n:Int)
 th:(eN l s.2.1.toNat).1=s.1
 aq:q_ w (eN l s.2.1.toNat)=lk
 r:s.2.2.1= -1\/(s.2.1<s.2.2.1/\s.2.2.1<(n:Int)/\(eN l s.2.2.1.toNat).1=s.1/\iD w (eN l s.2.2.1.toNat)=lk)
def vp (w:WT) (l:Y ET) (lk:Int):∀(n:Nat) (s:NG),s∈sN w l lk n->SeF w l lk n s
 |0,s,h=>by cases h
 |n+1,s,h=>by
  rcases EC h with ⟨h1,rfl⟩|⟨h1,_⟩|⟨r,h1,r0,D,A,z⟩
  .exact⟨by dsimp only;omega,by dsimp only;omega,by dsimp only;rw[bD],by dsimp only;rw[bD];exact h1,.inl rfl⟩
  .obtain⟨a,b,c,d,e⟩:=vp w l lk n s h1;refine ⟨a,by omega,c,d,?_⟩;rcases e with e|⟨N,e2,L⟩
   .exact .inl e
   .exact .inr ⟨N,by omega,L⟩
  .obtain⟨a,b,c,d,e⟩:=vp w l lk n _ h1;dsimp only at a b c d;refine ⟨a,by omega,c,d,.inr ⟨by omega,by omega,?_,?_⟩⟩
   .rw[z,bD];exact A.symm
   .rw[z,bD];exact D
def atS (m:Nat) (s:NG):NG:=(s.1,s.2.1,if 0<=s.2.2.1/\s.2.2.1<(m:Int) then s.2.2.1 else -1,s.2.2.2)
def Cc {w:WT} {l:Y ET} :∀{n:Nat} {s:NG},s∈sN w l a n->∀{m:Nat},m<=n->s.2.1<(m:Int)->atS m s∈sN w l a m
 |0,s,h,_,_,_=>by cases h
 |n+1,s,h,m,hm,z=>by
  by_cases e:m=n+1
  .subst e;have f:=vp w l a _ s h;have:atS (n+1) s=s:=by
    unfold atS;rcases f.r with g|⟨g1,A,_⟩
    .rw[av (by omega),<-g]
    .have:=f.a0;rw[aD ⟨by omega,A⟩]
   rw[this];exact h
  .rcases EC h with ⟨h1,rfl⟩|⟨h1,_⟩|⟨r,h1,r0,N,L,D⟩
   .dsimp only at z;omega
   .exact Cc h1 (by omega) z
   .have:=Cc h1 (show m<=n by omega) z;unfold atS at this ⊢;dsimp only at this;rw[av (by omega)]at this;rw[av (by omega)];exact this
def Sq (w:WT) (s:SY) (t k o u:Int):(uv w s t k o u).1.1=if k=6\/k=10 then XA s.1 o t else if k=7\/k=11 then XA s.1 o (-1) else if k=8 then rdP s.1 o (xI (geti dQ s.1 o).2 [t]) else if k=9 then rdP s.1 o (wo (geti dQ s.1 o).2 t) else if k=16 then XA s.1 (Px w o) (-1) else if k=17 then XA s.1 (Px w o) t else s.1:=by
 cases kdI k
 case no h _=>simp only[uv,h,dv,false_or]
 all_goals (simp only[uv,cX,bh,dv,fF,false_or];try (split<;>rfl))
def T3 {w:WT} {z:SY} {t o:Int} (en:EN w z t a o) (h:16<=a/\a<=19):0<=Px w o/\Px w o<l! z.1:=by
 let⟨k,b⟩:=en.nm.cd h;rw[en.e1];exact en.cd _ (bP (T:=itK) k b)
variable {e:ET}
def afr {w:WT} {z:SY} (en:EN w z e.1 e.2.1 e.2.2.1) (rd:Xa w z e.1 e.2.1 e.2.2.1) {u:Int} (L:0<=a) (u0:0<=u) (h:(geti dQ z.1 a).1=u) (A:¬(iD w e=a/\u=e.1)):(geti dQ (uv w z e.1 e.2.1 e.2.2.1 e.2.2.2.1).1.1 a).1=u:=by
 let⟨t,k,o,v,s,r1,r2⟩:=e;dsimp only at en rd A ⊢;have D:6<=k/\k<=11->0<=o/\o<(l! z.1:Int):=λg=>by rw[en.e1];exact en.nm.lk g
 have ow:∀(i x:Int),0<=i->i<l! z.1->(a=i->x=u)->(geti dQ (XA z.1 i x) a).1=u:=λi x h0 h1 N=>by
  unfold XA;rw[ku _ _ _ _ h0 h1 L];split
  next g=>exact N g
  .exact h
 have rr:∀(i:Int) (x:η),0<=i->i<l! z.1->(geti dQ (rdP z.1 i x) a).1=u:=λi x h0 h1=>by
  unfold rdP;rw[ku _ _ _ _ h0 h1 L];split
  next g=>rw[<- g];exact h
  .exact h
 unfold iD at A;dsimp only at A;rw[Sq];split
 .rename_i g;let⟨lk,b⟩:=D (by omega);refine ow _ _ lk b λq=>?_
  have e1:(geti dQ z.1 o).1= -1:=rd.aq (by omega);rw[<- q,h]at e1;have e1:u= -1:=e1;omega
 split
 .rename_i g;let⟨lk,b⟩:=D (by omega);refine ow _ _ lk b λq=>?_
  have:=rd.rl g;rw[<- q,h]at this;exact b8 ⟨by rw[aD (by omega)];exact q.symm,this⟩ A
 split
 .obtain⟨lk,b⟩:=D (by omega);exact rr _ _ lk b
 split
 .obtain⟨lk,b⟩:=D (by omega);exact rr _ _ lk b
 split
 .rename_i g;let⟨lk,b⟩:=T3 en (by omega);refine ow _ _ lk b λq=>?_
  have:=rd.nt (by omega);have e1:(geti dQ z.1 (Px w o)).1=t:=this;rw[<- q,h]at e1;exact b8 ⟨by rw[av (by omega),aD g];exact q.symm,e1⟩ A
 split
 .rename_i g;let⟨lk,b⟩:=T3 en (by omega);refine ow _ _ lk b λq=>?_
  have e1:(geti dQ z.1 (Px w o)).1= -1:=(rd.wk g).2.2;rw[<- q,h]at e1;have e1:u= -1:=e1;omega
 .exact h
def afg {w:WT} {A:SY} (en:EN w A e.1 e.2.1 e.2.2.1) {u:Int} (N:0<=a) (h:u∈(geti dQ A.1 a).2) (L:¬(iD w e=a/\u=e.1)):u∈(geti dQ (uv w A e.1 e.2.1 e.2.2.1 e.2.2.2.1).1.1 a).2:=by
 let⟨t,k,o,v,s,r1,r2⟩:=e;dsimp only at en L ⊢;have D:6<=k/\k<=11->0<=o/\o<(l! A.1:Int):=λg=>by rw[en.e1];exact en.nm.lk g
 have ow:∀(i x:Int),0<=i->i<l! A.1->u∈(geti dQ (XA A.1 i x) a).2:=λi x h0 h1=>by
  unfold XA;rw[ku _ _ _ _ h0 h1 N];split
  next g=>rw[<- g];exact h
  .exact h
 have rr:∀(i:Int) (x:η),0<=i->i<l! A.1->(a=i->u∈x)->u∈(geti dQ (rdP A.1 i x) a).2:=λi x h0 h1 hx=>by
  unfold rdP;rw[ku _ _ _ _ h0 h1 N];split
  next g=>exact hx g
  .exact h
 unfold iD at L;dsimp only at L;rw[Sq];split
 .obtain⟨lk,b⟩:=D (by omega);exact ow _ _ lk b
 split
 .obtain⟨lk,b⟩:=D (by omega);exact ow _ _ lk b
 split
 .obtain⟨lk,b⟩:=D (by omega);exact rr _ _ lk b λq=>AQ.2 (.inl (q▸h))
 split
 .rename_i g;let⟨lk,b⟩:=D (by omega);refine rr _ _ lk b λq=>List.mem_filter.2 ⟨q▸h,?_⟩
  rw[cD λz=>L ⟨by rw[aD (by omega)];exact q.symm,z⟩];rfl
 split
 .obtain⟨lk,b⟩:=T3 en (by omega);exact ow _ _ lk b
 split
 .obtain⟨lk,b⟩:=T3 en (by omega);exact ow _ _ lk b
 .exact h
def ai6 {w:WT} {z:SY} (en:EN w z e.1 e.2.1 e.2.2.1) (A:0<=a) (l1:a<l! w.2.1) (h:q_ w e=a):if e.2.1=8 then e.1∈(geti dQ (uv w z e.1 e.2.1 e.2.2.1 e.2.2.2.1).1.1 a).2 else (geti dQ (uv w z e.1 e.2.1 e.2.2.1 e.2.2.2.1).1.1 a).1=e.1:=by
 let⟨t,k,o,v,s,r1,r2⟩:=e;dsimp only at en h ⊢;have N:6<=k/\k<=11->0<=o/\o<(l! z.1:Int):=λg=>by rw[en.e1];exact en.nm.lk g
 unfold q_ at h;dsimp only at h;rw[Sq];by_cases g:k=6\/k=8\/k=10
 .rw[aD g]at h;subst h;let⟨lk,b⟩:=N (by omega);by_cases D:k=8
  .rw[aD D,av (by omega),av (by omega),aD D];unfold rdP;rw[ku _ _ _ _ lk b A,aD rfl];exact AQ.2 (.inr (aB.2 rfl))
  .rw[av D,aD (by omega)];unfold XA;rw[ku _ _ _ _ lk b A,aD rfl]
 .rw[av g]at h;by_cases L:k=17
  .rw[aD L]at h;let⟨lk,b⟩:=T3 en (by omega);have e1:Px w o=a:=h;rw[av (by omega),av (by omega),av (by omega),av (by omega),av (by omega),av (by omega),aD L,e1];unfold XA;rw[e1]at lk b;rw[ku _ _ _ _ lk b A,aD rfl]
  .rw[av L]at h;split at h<;>omega
def aki {w:WT} (z:WX w) (h0:0<=a) (h1:a<l! w.2.2.1):(geti s9 w.2.1 (Px w a)).2=aa:=by
 unfold Px;rw[z.d]at h1 ⊢;rw[z.l];have:a=0:=by have e:NI.length=1:=rfl;omega
 subst this;rfl
def Xr {w:WT} {op:Y d?} {ar:Y WO} {q:Int} (h0:0<=q) (h:q<l! ar):bq (Pm w a e op ar) q=bq (AW w a e op ar) q:=by
 unfold Pm;split
 .exact J6 _ (by rw[KB];omega)
 .rfl
def XR {k z:ν} (h:k≠z):GY k z=aa:=by
 cases e:GY k z with
 |true=>exact b8 (vM.1 e) h
 |false=>rfl
def Ua (k:ν):GY k k=J:=vM.2 rfl
def ZR (k:ν) (v:Int):∀op:Y d?,kn k (rz k v op)=J/\dc k (rz k v op)=v
 |[]=>by simp[rz,kn,dc,Ua]
 |e::r=>by
  simp only[rz];cases z:GY k e.1 with
  |true=>simp[kn,dc,Ua]
  |false=>
   let⟨a,b⟩:=ZR k v r;simp[kn,dc,z,a,b]
def ZQ {k z:ν} (h:k≠z) (v:Int):∀op:Y d?,kn k (rz z v op)=kn k op/\dc k (rz z v op)=dc k op
 |[]=>by simp[rz,kn,dc,XR h]
 |e::r=>by
  simp only[rz];cases A:GY z e.1 with
  |true=>
   have:=vM.1 A;simp[kn,dc,XR h,<-this]
  |false=>
   let⟨a,b⟩:=ZQ h v r;simp[kn,dc,a,b]
def TZ {k z:ν} (h:k≠z):∀op:Y d?,kn k (xT z op)=kn k op/\dc k (xT z op)=dc k op
 |[]=>⟨rfl,rfl⟩
 |e::r=>by
  simp only[xT];cases A:GY z e.1 with
  |true=>
   have:=vM.1 A;simp[kn,dc,<-this,XR h]
  |false=>
   let⟨a,b⟩:=TZ h r;simp[kn,dc,a,b]
def J_ (o k:Int):∀m:Y o?,XJ o (uk (K:=.int .i64) (V:=.bool) k J m)=if o=k then J else XJ o m
 |[]=>by
  by_cases h:o=k<;>simp[uk,wN,Ac,ND,h]
 |(a,b)::r=>by
  have z:=J_ o k r;unfold XJ wN at z ⊢;by_cases h:k=a
  .subst h;by_cases h':o=k<;>simp[uk,Ac,ND,h']
  .by_cases h':o=a
   .subst h';simp[uk,Ac,ND,h];exact λg=>b8 g.symm h
   .simp only[uk,Ac,ND,cD h,cD h',dv,ca];exact z
def T7 {k:Int} {m:Y o?} (h:XJ a m=J):XJ a (uk (K:=.int .i64) (V:=.bool) k J m)=J:=by
 rw[J_];split
 .rfl
 .exact h
def Xc (P Q:WO):Prop:=∀o:Int,(XJ o P.2.2=J->XJ o Q.2.2=J)/\(XJ o P.2.1=J->XJ o Q.2.1=J)
def Xc.rfl {P:WO}:Xc P P:=λ_=>⟨id,id⟩
def Xc.trans {P Q R:WO} (h:Xc P Q) (g:Xc Q R):Xc P R:=λo=>⟨λz=>(g o).1 ((h o).1 z),λz=>(g o).2 ((h o).2 z)⟩
def al7 {ar:Y WO} (e:ET) (z:a.toNat<l! ar) (i:Int):Xc (bq ar i) (bq (Oz ar a e) i):=λo=>by
 rw[Fq e i z];by_cases h:i.toNat=a.toNat
 .have:bq ar i=bq ar a:=by unfold bq dH;rw[h]
  rw[aD h,this];split
  .exact⟨T7,id⟩
  .exact⟨id,T7⟩
 .rw[av h];exact⟨id,id⟩
def Nj {op:Y d?} {ar:Y WO} (h1:OpI (l! ar) op) (A:∀x∈op,(bq ar x.2).en= -1) (i:Int):∀n m:Nat,Xc (bq (AJ e op ar n) i) (bq (AJ e op ar (n+m)) i)
 |n,0=>Xc.rfl
 |n,m+1=>by
  refine (Nj h1 A i n m).trans ?_;show Xc _ (bq (AJ e op ar (n+m+1)) i);by_cases z:kn (e.1,((n+m:Nat):Int)) op=J
  .rw[Ni z];refine al7 e ?_ i;have:=h1 _ (kw _ z);rw[(BW h1 A _).ln];dsimp only at this;omega
  .rw[aat z];exact Xc.rfl
def aib {w:WT} {op:Y d?} {ar:Y WO} (h1:OpI (l! ar) op) (z:∀x∈op,(bq ar x.2).en= -1) (i:Int):Xc (bq ar i) (bq (oN w e op ar) i):=by
 unfold oN;split
 .have:=Nj (e:=e) h1 z i 0 (l! w.2.1+1);rw[bT]at this;exact this
 .exact Xc.rfl
def Hld (e:ET) (P:WO):Prop:=(e.2.1=4->XJ e.2.2.1 P.2.2=J)/\(e.2.1=3->XJ e.2.2.1 P.2.1=J)
def Hld.grw {P Q:WO} (h:Hld e P) (g:Xc P Q):Hld e Q:=⟨λz=>(g _).1 (h.1 z),λz=>(g _).2 (h.2 z)⟩
def aia {w:WT} {op:Y d?} {ar:Y WO} (h1:OpI (l! ar) op) (D:∀x∈op,(bq ar x.2).en= -1) (hl:i<=l! w.2.1) (A:kn (e.1,(i:Int)) op=J):Hld e (bq (oN w e op ar) (dc (e.1,(i:Int)) op)):=by
 by_cases z:e.2.1=3\/e.2.1=4
 .have L:=h1 _ (kw _ A);dsimp only at L;have N:Hld e (bq (AJ e op ar (i+1)) (dc (e.1,(i:Int)) op)):=by
   rw[Ni A];unfold Hld;rw[Fq e _ (by rw[(BW h1 D _).ln];omega),aD rfl];refine ⟨λg=>?_,λg=>?_⟩
   .rw[aD g];dsimp only;rw[J_,aD rfl]
   .rw[av (by omega)];dsimp only;rw[J_,aD rfl]
  unfold oN;rw[aD z];have:=Nj (e:=e) h1 D (dc (e.1,(i:Int)) op) (i+1) (l! w.2.1-i);rw[show i+1+(l! w.2.1-i)=l! w.2.1+1 by omega]at this;exact N.grw this
 .exact⟨λg=>b8 (.inr g) z,λg=>b8 (.inl g) z⟩
def Acs (l:Y ET) (n:Int) (s:NG) (P:WO):Prop:=∀a:Nat,s.2.1<=(a:Int)->(a:Int)<n->(eN l a).1=s.1->Hld (eN l a) P
structure au3 (w:WT) (l:List ET) (j:Nat) (lk:Nat) (sy:SY) (op:List (ν×Int)) (ar:List WO) (s:NG):Prop where
 o:kn (s.1,(lk:Int)) op=J
 b:(bq ar (dc (s.1,(lk:Int)) op)).bg=s.2.1
 d:(bq ar (dc (s.1,(lk:Int)) op)).rd=s.2.2.2
 a:Acs l (j:Int) s (bq ar (dc (s.1,(lk:Int)) op))
 k:if s.2.2.2=J then s.1∈(geti dQ sy.1 (lk:Int)).2/\(geti s9 w.2.1 (lk:Int)).2=J else (geti dQ sy.1 (lk:Int)).1=s.1
structure EndS (l:List ET) (lk:Nat) (re:η) (ar:List WO) (s:NG) (p:Int):Prop where
 m:p∈re
 t:(bq ar p).th=s.1
 q:(bq ar p).lk=(lk:Int)
 b:(bq ar p).bg=s.2.1
 e:(bq ar p).en=s.2.2.1
 d:(bq ar p).rd=s.2.2.2
 a:Acs l (s.2.2.1+1) s (bq ar p)
structure am9 (w:WT) (l:List ET) (j:Nat) (lk:Nat) (sy:SY) (op:List (ν×Int)) (re:η) (ar:List WO):Prop where
 o:∀s∈sN w l lk j,s.2.2.1<0->au3 w l j lk sy op ar s
 e:∀s∈sN w l lk j,0<=s.2.2.1->∃p,EndS l lk re ar s p
def ai7 {w:WT} {l:Y ET} (hw:WX w) {A:SY} {op:Y d?} {ar:Y WO} (en:EN w A e.1 e.2.1 e.2.2.1) (rd:Xa w A e.1 e.2.1 e.2.2.1) (hl:i<l! w.2.1) {s:NG} (h:au3 w l j i A op ar s) (ht:s.1=e.1) (z:q_ w e=(i:Int)):False:=by
 have k:=h.k;have t0:=en.t0;let⟨t,kd,o,v,si,r1,r2⟩:=e;dsimp only at en rd ht t0;unfold q_ at z;dsimp only at z;have neg:∀{x:Int},(geti dQ A.1 (i:Int)).1=x->x= -1->s.2.2.2=aa->False:=λN h1 hf=>by
  rw[av (by rw[hf];simp),N]at k;have k:_=s.1:=k;omega
 by_cases g:kd=6\/kd=8\/kd=10
 .rw[aD g]at z;subst z;have aq:=rd.aq g;cases D:s.2.2.2 with
  |false=>exact neg aq rfl D
  |true=>
   rw[aD D]at k;rcases g with g|g|g
   .rw[en.nm.mu (.inl g)]at k;cases k.2
   .have:=rd.ra g;rw[<- ht]at this;rw[oR.2 k.1]at this;cases this
   .have:=rd.wr g;rw[db.1 this]at k;cases k.1
 .rw[av g]at z;by_cases L:kd=17
  .rw[aD L]at z;have e1:Px w o=(i:Int):=z;let⟨a,b⟩:=en.nm.cd ⟨by omega,by omega⟩;have mk:=aki hw a b;have wk:(geti dQ A.1 (Px w o)).1= -1:=(rd.wk L).2.2;rw[e1]at mk wk;cases D:s.2.2.2 with
   |false=>exact neg wk rfl D
   |true=>rw[aD D,mk]at k;cases k.2
  .rw[av L]at z;split at z<;>omega
def Acs.grw {l:Y ET} {s:NG} {P Q:WO} (h:Acs l a s P) (g:Xc P Q):Acs l a s Q:=λn h0 h1 ht=>(h n h0 h1 ht).grw g
def Acs.succ {l:Y ET} {s:NG} {P Q:WO} (h:Acs l (i:Int) s P) (g:Xc P Q) (z:(eN l i).1=s.1->Hld (eN l i) Q):Acs l ((i:Int)+1) s Q:=λa h0 h1 ht=>by
 by_cases e:a=i
 .subst e;exact z ht
 .exact (h a h0 (by omega) ht).grw g
def Wo {w:WT} (h:q_ w e=(i:Int)):e.2.1≠3/\e.2.1≠4:=by
 unfold q_ at h;split at h
 .omega
 split at h
 .omega
 split at h<;>omega
def aou {w:WT} {op:Y d?} {ar:Y WO} {k:ν} (h1:k≠(e.1,iD w e)) (A:0<=q_ w e->k≠(e.1,q_ w e)):(kn k (SJ w e op ar)=kn k op/\dc k (SJ w e op ar)=dc k op)/\kn k (xO w e op)=kn k op/\dc k (xO w e op)=dc k op:=by
 have z:kn k (xO w e op)=kn k op/\dc k (xO w e op)=dc k op:=by
  unfold xO;split
  .exact TZ h1 op
  .exact⟨rfl,rfl⟩
 refine ⟨?_,z⟩;unfold SJ;by_cases g:0<=q_ w e
 .rw[aD g];let⟨a,b⟩:=ZQ (A g) (l! ar:Int) (xO w e op);exact⟨a.trans z.1,b.trans z.2⟩
 .rw[av g];exact z
def am9.next {w:WT} {l:Y ET} (tr:TR (w,l)) (hj:j<l! l) (hl:i<l! w.2.1) {op:Y d?} {re:η} {ar:Y WO} (N:WS j op re ar) (h:am9 w l j i (Qt w (l.take j)).1 op re ar):
 am9 w l (j+1) i (Qt w (l.take (j+1))).1 (SJ w (eN l j) op (oN w (eN l j) op ar)) (AA w (eN l j) op re) (Pm w (j:Int) (eN l j) op (oN w (eN l j) op ar)):=by
 have sc:=tr.sc hj;have en:=sc.en;have rd:=sc.rd;have hsy:(Qt w (l.take (j+1))).1=(uv w (Qt w (l.take j)).1 (eN l j).1 (eN l j).2.1 (eN l j).2.2.1 (eN l j).2.2.2.1).1:=by rw[Wp w hj]
 have wx:WX w:=tr.wx;have e0:∀s∈sN w l i j,0<=s.1:=λs hs=>by
  have f:=vp w l i j s hs;have a0:=f.a0;have a1:=f.a1;rw[<- f.th];exact (tr.ev _ (zK (show s.2.1.toNat<l! l by omega))).t0
 rw[hsy];generalize (Qt w (l.take j)).1=sy at*
 generalize he:eN l j=e at*
 have sam:=Nk (w:=w) (e:=e) N.op N.oo;have hg:=aib (w:=w) (e:=e) N.op N.oo;have hh:∀i:Nat,i<=l! w.2.1->kn (e.1,(i:Int)) op=J->Hld e (bq (oN w e op ar) (dc (e.1,(i:Int)) op)):=λi h1 h2=>aia N.op N.oo h1 h2
 have ws1:=N.sam sam;have hln:=sam.ln;generalize oN w e op ar=ar1 at*
 have l0:(0:Int)<=(i:Int):=by omega
 refine ⟨λs hs hneg=>?_,λs hs hge=>?_⟩
 .rcases EC hs with ⟨L,rfl⟩|⟨D,hn⟩|⟨r,D,r0,h2,h3,h4⟩
  .rw[he]at L ⊢;have g0:0<=q_ w e:=by omega
   have hO:SJ w e op ar1=rz (e.1,(i:Int)) (l! ar1:Int) (xO w e op):=by unfold SJ;rw[aD g0,L]
   let⟨p1,p2⟩:=ZR (e.1,(i:Int)) (l! ar1:Int) (xO w e op);have A:bq (Pm w (j:Int) e op ar1) (l! ar1:Int)=((e.1,q_ w e,(j:Int),-1,decide (e.2.1=8)),[],[]):=by
    unfold Pm;rw[aD g0,<-KB w (j:Int) e op ar1];exact ZP _ _
   refine ⟨by rw[hO];exact p1,by dsimp only;rw[hO,p2,A],by dsimp only;rw[hO,p2,A],?_,?_⟩
   .intro a ha0 ha1 _;dsimp only at ha0;have:a=j:=by omega
    subst this;let⟨k3,k4⟩:=Wo L;rw[he];exact⟨λz=>b8 z k4,λz=>b8 z k3⟩
   .have q:=ai6 en l0 (by omega) L;dsimp only;by_cases k8:e.2.1=8
    .rw[aD k8]at q;rw[aD (aR k8)];refine ⟨q,?_⟩;have:=en.nm.rw (by omega);unfold q_ at L;rw[aD (by omega)]at L;rw[L]at this;exact this
    .rw[av k8]at q;rw[av (by rw[cD k8];simp)];exact q
  .have O:=h.o s D hneg;rw[he]at hn;have n1:(s.1,(i:Int))≠(e.1,iD w e):=λz=>hn ⟨(Prod.mk.inj z).2.symm,(Prod.mk.inj z).1,hneg⟩
   have n2:0<=q_ w e->(s.1,(i:Int))≠(e.1,q_ w e):=λ_ z=>ai7 wx en rd hl O (Prod.mk.inj z).1 (Prod.mk.inj z).2.symm
   let⟨⟨o1,o2⟩,o3,o4⟩:=aou (op:=op) (ar:=ar1) n1 n2;have hm:=kw _ (o3.trans O.o);rw[o4]at hm;have hr:=ws1.op _ (KA ws1.ks hm).1;dsimp only at hr;have A:bq (Pm w (j:Int) e op ar1) (dc (s.1,(i:Int)) op)=bq ar1 (dc (s.1,(i:Int)) op):=by
    rw[Xr hr.1 hr.2];exact Zt ws1 hm (j:Int)
   have hd:=sam.hd (dc (s.1,(i:Int)) op);refine ⟨o1.trans O.o,?_,?_,?_,?_⟩
   .rw[o2,A];show (bq ar1 _).1.2.2.1=_;rw[hd];exact O.b
   .rw[o2,A];show (bq ar1 _).1.2.2.2.2=_;rw[hd];exact O.d
   .rw[o2,A];refine O.a.succ (hg _) λht=>?_
    rw[he]at ht ⊢;have:=hh i (by omega) (by rw[ht];exact O.o);rw[ht]at this;exact this
   .have hr':¬(iD w e=(i:Int)/\s.1=e.1):=λz=>hn ⟨z.1,z.2,hneg⟩
    have k:=O.k;by_cases d:s.2.2.2=J
    .rw[aD d]at k ⊢;exact⟨afg en l0 k.1 hr',k.2⟩
    .rw[av d]at k ⊢;exact afr en rd l0 (e0 s D) k hr'
  .omega
 .have old:∀{p:Int},p∈re->p∈AA w e op re:=λhp=>by
   unfold AA;split
   .exact fW _ hp
   .exact hp
  rcases EC hs with ⟨L,rfl⟩|⟨D,hn⟩|⟨r,D,r0,h2,h3,h4⟩
  .dsimp only at hge;omega
  .obtain⟨p,E⟩:=h.e s D hge;let⟨⟨p0,p1⟩,p2⟩:=N.r p E.m;have A:bq (Pm w (j:Int) e op ar1) p=bq ar p:=by
    rw[Xr p0 (by omega),xP ws1.op,av,sam.eq p p2];rintro⟨L,hz⟩;have h1:=ws1.oo _ (kw _ L);have e1:bq ar1 p=bq ar1 (dc (e.1,iD w e) op):=by unfold bq dH;rw[hz]
    dsimp only at h1;rw[<- e1,sam.eq p p2]at h1;exact p2 h1
   exact⟨p,old E.m,by rw[A];exact E.t,by rw[A];exact E.q,by rw[A];exact E.b,by rw[A];exact E.e,by rw[A];exact E.d,by rw[A];exact E.a⟩
  .have O:=h.o _ D r0;rw[he]at h2 h3;have Oo:=O.o;have Ob:=O.b;have Od:=O.d;have Oa:=O.a;dsimp only at Oo Ob Od Oa;rw[h3]at Oo Ob Od Oa;have L:scQ w e op=J:=by unfold scQ;rw[h2];exact Oo
   have hm:=N.o _ (kw _ Oo);dsimp only at hm;have hd:=sam.hd (dc (e.1,(i:Int)) op);have A:bq (Pm w (j:Int) e op ar1) (dc (e.1,(i:Int)) op)=RL (j:Int) (bq ar1 (dc (e.1,(i:Int)) op)):=by
    rw[Xr hm.1.1 (by omega),xP ws1.op,aD ⟨L,by rw[h2]⟩,h2]
   refine ⟨dc (e.1,(i:Int)) op,by unfold AA;rw[aD L,h2];simp,?_,?_,?_,?_,?_,?_⟩
   .rw[A,h3];show (bq ar1 _).1.1=_;rw[hd];exact hm.2.1
   .rw[A];show (bq ar1 _).1.2.1=_;rw[hd];exact hm.2.2.1
   .rw[A];show (bq ar1 _).1.2.2.1=_;rw[hd];exact Ob
   .rw[A];exact h4.symm
   .rw[A];show (bq ar1 _).1.2.2.2.2=_;rw[hd];exact Od
   .rw[A,h4];have hk:=hh i (by omega) Oo;intro a ha0 ha1 ht;by_cases ej:a=j
    .subst ej;rw[he];exact⟨hk.1,hk.2⟩
    .have:=(Oa a ha0 (by omega) (by dsimp only;rw[ht,h3])).grw (hg _);exact⟨this.1,this.2⟩
def Cnf (x y:ET):Prop:=(x.2.1=3\/x.2.1=4)/\(y.2.1=3\/y.2.1=4)/\x.2.2.1=y.2.2.1/\(x.2.1=4\/y.2.1=4)
def au1 (w:WT) (l:Y ET) (c:Y η) (i:Nat):Prop:=∀lk:Nat,lk<l! w.2.1->∀P∈sN w l lk i,∀Q∈sN w l lk i,Q.2.2.1<0->Q.1=(eN l i).1->0<=P.2.2.1->P.1≠Q.1->(P.2.2.2&&Q.2.2.2)=aa->P.2.2.1<Q.2.1->
 ((∃a:Nat,P.2.1<=(a:Int)/\(a:Int)<=P.2.2.1/\(eN l a).1=P.1/\Cnf (eN l a) (eN l i))->wn (jc c P.2.2.1) (c.getD i []))/\
 (iD w (eN l i)=(lk:Int)->(jc c P.2.1).getD (ja l P.2.1.toNat) 0<=(c.getD i []).getD (ja l P.2.1.toNat) 0->wn (jc c P.2.2.1) (c.getD i []))
def HSx (w:WT) (l:Y ET):WkH:=λj c _ _ _ _ _ _ _ op re ar _ _=>(∀lk:Nat,lk<l! w.2.1->am9 w l j lk (Qt w (l.take j)).1 op re ar)/\∀i:Nat,i<j->au1 w l c i
def arq {w:WT} {l:Y ET} (tr:TR (w,l)):HK w l (HSx w l):=by
 refine ⟨⟨λlk _=>⟨λs hs=>(by cases hs),λs hs=>(by cases hs)⟩,λi hi=>b8 hi (h_ _)⟩,λj c tm la sp wa wt st se op re ar si ei clk hj g h hk=>⟨λlk A=>(h.1 lk A).next tr hj A g.ws,λi hi=>?_⟩⟩;have hcl:=g.ci.k.cl;have gl:∀(x:η) (i:Nat),i<j->(c++[x]).getD i []=c.getD i []:=λx i hi=>by
  rw[aw,aw,bC (by omega)]
 have gj:∀x:η,(c++[x]).getD j []=x:=λx=>by
  rw[aw,<-hcl,nL];rfl
 have jl_:∀(x:η) (i:Int),0<=i->i<(j:Int)->jc (c++[x]) i=jc c i:=λx i h0 h1=>gl x _ (by omega)
 by_cases e:i=j
 .subst e;intro lk A P hP Q N q1 L D ne rdn lt;have fP:=vp w l lk i P hP;have fQ:=vp w l lk i Q N;have a0:=fP.a0;have a1:=fP.a1;have b1:=fQ.a1;let⟨p,E⟩:=(h.1 lk A).e P hP D;have O:=(h.1 lk A).o Q N q1;have Oo:=O.o;have Ob:=O.b;have Od:=O.d;rw[L]at Oo Ob Od;have hm:=g.ws.o _ (kw _ Oo);dsimp only at hm;have mat:rP (bq ar p) (bq ar (dc ((eN l i).1,(lk:Int)) op))=J:=by
   unfold rP;rw[E.q,hm.2.2.1,E.t,hm.2.1,E.d,Od,E.e,Ob,rdn,aR rfl,cD (by rw[<- L];exact ne),pX.2 lt];rfl
  have en':jc c (bq ar p).en=jc c P.2.2.1:=by rw[E.e]
  rw[gj,jl_ _ _ D (by omega),jl_ _ _ a0 a1];refine ⟨?_,λhr hle=>?_⟩
  .rintro⟨a,c0,c1,c2,ka,ki,ko,kk⟩;have:=hk.jr.b ki (lk:Int) (by omega) (by omega) Oo p E.m mat ?_
   .rw[en']at this;exact this.trans (QK _ _)
   .have hh:=E.a a c0 (by omega) c2;unfold Si;rcases ka with k3|k4
    .have k4:(eN l i).2.1=4:=by omega
     have:=hh.2 k3;rw[ko]at this;rw[this,aR k4,dU,Bool.or_true]
    .have:=hh.1 k4;rw[ko]at this;rw[this,Bool.true_or]
  .have tne:ja l P.2.1.toNat≠ja l i:=λz=>ne (by
    have x1:=(tr.ev _ (zK (show P.2.1.toNat<l! l by omega))).t0;have x2:=(tr.ev _ (zK hj)).t0;unfold ja at z;rw[<- fP.th,L];dsimp only at x1 x2;omega)
   rw[Gp,av tne]at hle;have:=hk.jr.c (by rw[hr];exact Oo) p E.m (by rw[hr];exact mat) (by rw[E.b];exact (g.ci.cvr a0 a1 clk).2 hle);rw[E.e]at this;have:=(g.ci.cvr D (by omega) clk).1 this;exact (hk.jc.cl P.2.2.1.toNat (by omega) this).trans (QK _ _)
 .have h2:=h.2 i (by omega);intro lk A P hP Q N q1 L D ne rdn lt;have fP:=vp w l lk i P hP;have fQ:=vp w l lk i Q N;have:=h2 lk A P hP Q N q1 L D ne rdn lt;have b1:=fQ.a1;rw[gl _ _ (by omega),jl_ _ _ D (by omega),jl_ _ _ fP.a0 (by have:=fP.a1;omega)];exact this
def ai9 (w:WT) (e:ET):Int:=if e.2.1=6\/e.2.1=8\/e.2.1=10 then e.2.2.1 else if e.2.1=17 then Px w e.2.2.1 else -1
def afd (w:WT) (e:ET):Int:=if e.2.1=7\/e.2.1=9\/e.2.1=11 then e.2.2.1 else if e.2.1=16 then Px w e.2.2.1 else -1
def ai8 (w:WT) (e:ET) {lk:Int} (A:0<=lk) (z:lk<l! w.2.1):ai9 w e=lk↔q_ w e=lk:=by
 unfold ai9 q_ Px;repeat' split
 all_goals first|exact Iff.rfl|omega
def afc (w:WT) (e:ET) {lk:Int} (A:0<=lk) (z:lk<l! w.2.1):afd w e=lk↔iD w e=lk:=by
 unfold afd iD Px;repeat' split
 all_goals first|exact Iff.rfl|omega
def aay {w:WT} (h0:0<=a) (h1:a<l! w.2.2.1):od (w,a)=Z (Px w a):=by
 let⟨w1,N,L,D,A,z⟩:=w;refine cz ?_;unfold od aW bm bF dk bM nh be aG;refine aU (λx=>x=(aa,w1,N,L,D,A,z)) ?_ ?_
 .refine bL (λg=>(by dsimp only at g;omega)) λ_=>aj ?_
  dsimp only at h1 ⊢;rw[ags (by dsimp only[ak];omega)]
 .rintro x rfl;exact iT (cu (aj rfl))
def avq {w:WT} (hev:SH w e):pH (w,e)=Z (ai9 w e,decide (e.2.1=8)):=by
 refine cz ?_;let⟨nm,t0,t1,cd⟩:=hev;let⟨t,k,o,v,s,r1,r2⟩:=e;dsimp only at nm t0 t1;have mu:k=17->od (w,o)=Z (Px w o):=λg=>aay (nm.cd ⟨by omega,by omega⟩).1 (nm.cd ⟨by omega,by omega⟩).2
 let⟨w1,w2,w3,w4,N,L⟩:=w;unfold pH ai9 aW bm bF cG ep dk wE bi aG;refine aU (λx=>x=(decide (k=6\/k=10),(w1,w2,w3,w4,N,L),t,k,o,v,s,r1,r2)) ?_ ?_
 .refine aI (λg=>aj ?_) λg=>aj ?_
  .have g:k=6:=g;dsimp only;rw[aR g,aR (show k=6\/k=10 from .inl g)]
  .have g:¬k=6:=g;dsimp only;have:decide (k=10)=decide (k=6\/k=10):=by simp[g]
   rw[this]
 .rintro x rfl;dsimp only;refine aI (λg=>aj ?_) λD=>?_
  .have g:k=6\/k=10:=g;rw[aD (by omega),cD (by omega)]
  have D:¬(k=6\/k=10):=D;refine aI (λg=>aj ?_) λA=>?_
  .have g:k=8:=g;rw[aD (by omega),aR g]
  have A:¬k=8:=A;rw[av (by omega),cD A];refine aI (λg=>?_) λz=>aj ?_
  .have g:k=17:=g;rw[aD g];exact aT (mu g) (aj rfl)
  .have z:¬k=17:=z;rw[av z]
def au2 {w:WT} (hev:SH w e):pF (w,e)=Z (afd w e,decide (e.2.1=9)):=by
 refine cz ?_;let⟨nm,t0,t1,cd⟩:=hev;let⟨t,k,o,v,s,r1,r2⟩:=e;dsimp only at nm t0 t1;have mu:k=16->od (w,o)=Z (Px w o):=λg=>aay (nm.cd ⟨by omega,by omega⟩).1 (nm.cd ⟨by omega,by omega⟩).2
 let⟨w1,w2,w3,w4,N,L⟩:=w;unfold pF afd aW bm bF cG ep dk wE bi aG;refine aU (λx=>x=(decide (k=7\/k=11),(w1,w2,w3,w4,N,L),t,k,o,v,s,r1,r2)) ?_ ?_
 .refine aI (λg=>aj ?_) λg=>aj ?_
  .have g:k=7:=g;dsimp only;rw[aR g,aR (show k=7\/k=11 from .inl g)]
  .have g:¬k=7:=g;dsimp only;have:decide (k=11)=decide (k=7\/k=11):=by simp[g]
   rw[this]
 .rintro x rfl;dsimp only;refine aI (λg=>aj ?_) λD=>?_
  .have g:k=7\/k=11:=g;rw[aD (by omega),cD (by omega)]
  have D:¬(k=7\/k=11):=D;refine aI (λg=>aj ?_) λA=>?_
  .have g:k=9:=g;rw[aD (by omega),aR g]
  have A:¬k=9:=A;rw[av (by omega),cD A];refine aI (λg=>?_) λz=>aj ?_
  .have g:k=16:=g;rw[aD g];exact aT (mu g) (aj rfl)
  .have z:¬k=16:=z;rw[av z]
def XF (w:WT) (h:l! w.2.1<=1000):Ok (kF w) λy=>y.2.2.2=[]:=by
 unfold kF rX aW cg bM bX be cQ aG cN;refine iy (l! w.2.1) (by omega) (λi x=>x.1=(i:Int)/\l! x.2.2.2=i) ?_ ?_ ⟨rfl,rfl⟩
 .rintro i ⟨N,L,D,A⟩ hi ⟨z,e2⟩;dsimp only at z e2;subst z;refine du (bt (by dsimp only;rw[e2];simp;omega) (by omega) (aj ⟨gQ,?_⟩));dsimp only;rw[bc,e2];rfl
 .rintro⟨N,L,D,A⟩ ⟨z,e2⟩;dsimp only at z e2;subst z;exact dg (aj rfl)
section ml
variable {α:Type} {f:α->α} {S:Y α} {k:Nat}
def ap3 (z:k<=l! S):l! ((S.take k).map f)=k:=by simp;omega
def ap2 (z:k<=l! S):l! ((S.take k).map f++S.drop k)=l! S:=by rw[bc,ap3 z,sr];omega
def ap4 (d:α) (z:k<l! S):((S.take k).map f++S.drop k).getD k d=S.getD k d:=by
 have h1:=ap3 (f:=f) (Nat.le_of_lt z);rw[aw,bS (by omega),h1,wG,oO,cW,<-aw]
def ap1 (d:α) (z:k<l! S):((S.take k).map f++S.drop k).set k (f (S.getD k d))=(S.take (k+1)).map f++S.drop (k+1):=by
 have h1:=ap3 (f:=f) (Nat.le_of_lt z);rw[List.set_append_right _ _ (by omega),h1,wG,sM d z,cq,iP,O_ z];rfl
def asr (d:α) (z:k<l! S) (h:f (S.getD k d)=S.getD k d):(S.take (k+1)).map f++S.drop (k+1)=(S.take k).map f++S.drop k:=by
 rw[sM d z,cq,iP,O_ z];show _++(f (S.getD k d)::_)=_;rw[h,aw,aE z];rfl
end ml
def Ww {w:WT} {l:Y ET} (N:TR (w,l)) {s:H!} (hs:s.2.2.2=[]) (hl:i<l! w.2.1):pE (w,s,l,(i:Int))=Z (sN w l (i:Int) (l! l)):=by
 have hll:l! l<=400:=N.len;refine cz ?_;unfold pE aW bm bF cg ck bi bM bX bQ jY be cQ aG cN;refine cm 0 (λ_ x=>x=(0,w,s,[])) (λlk x hi=>b8 hi (h_ _)) ?_ rfl;rintro x rfl;refine dg ?_ (by dsimp only;rw[hs];simp);refine ax (P:=λy=>y=sN w l (i:Int) (l! l)) ?_ λy hy=>aj hy
 dsimp only;refine cm (l! l) (λlk x=>x=((lk:Int),w,sN w l (i:Int) lk)/\l! (sN w l (i:Int) lk)<=lk) ?_ ?_ ⟨rfl,bO _⟩
 .rintro lk x hi ⟨rfl,hi2⟩;have hev:SH w (eN l lk):=N.ev _ (zK hi);refine du ?_;refine aU (λx=>x=(w,sN w l (i:Int) (lk+1))/\l! (sN w l (i:Int) (lk+1))<=lk+1) ?_ ?_
  .refine cu (aS (aT (avq hev) (aT (au2 hev) ?_)));rw[sN];have hge:geti iC l (lk:Int)=eN l lk:=rfl;dsimp only;rw[hge];have ea:=ai8 w (eN l lk) (lk:=(i:Int)) (by omega) (by omega);have er:=afc w (eN l lk) (lk:=(i:Int)) (by omega) (by omega);generalize eN l lk=e at*
   generalize sN w l (i:Int) lk=S at*
   refine aU (λx=>x=((ai9 w e,afd w e),w,S,e)) (aI (λg=>(by have g:(i:Int)=(l! w.2.1:Int):=g;omega)) λ_=>aj rfl) ?_;rintro x rfl;refine aU (λx=>x=(w,(if iD w e=(i:Int) then S.map (clS e (lk:Int)) else S),e)) ?_ ?_
   .refine aI (λg=>?_) λg=>?_
    .rw[aD (er.1 g)];refine cm (l! S) (λk x=>x=((k:Int),w,(S.take k).map (clS e (lk:Int))++S.drop k,e)) ?_ ?_ ?_
     .rintro k x D rfl;refine du ?_;have A:fe (k:Int) (l! ((S.take k).map (clS e (lk:Int))++S.drop k))=J:=Kc.2 ⟨by omega,by rw[ap2 (by omega)];omega⟩;have hget:geti (.st tQ) ((S.take k).map (clS e (lk:Int))++S.drop k) (k:Int)=S.getD k (0,0,0,aa):=(xu (T:=.st tQ) _ k).trans (ap4 _ D);have hset:=ap1 (f:=clS e (lk:Int)) (0,0,0,aa) D;have hid:=asr (f:=clS e (lk:Int)) (0,0,0,aa) D;generalize S.getD k (0,0,0,aa)=z at*
      generalize (S.take k).map (clS e (lk:Int))++S.drop k=L at*
      generalize (S.take (k+1)).map (clS e (lk:Int))++S.drop (k+1)=L' at*
      refine aU (λx=>x=(w,L',e)) ?_ ?_
      .refine aU (λx=>x=(decide (z.1=e.1/\z.2.2.1<0),w,L,e)) ?_ ?_
       .refine a8 A (a8 A (aS ?_));dsimp only;rw[hget];refine aI (λg=>a8 A (a8 A (aS ?_))) λg=>aj ?_
        .refine aj ?_;dsimp only;by_cases q:z.2.2.1<0
         .rw[pX.2 q,aR ⟨g,q⟩]
         .rw[g9.2 (by omega),cD λz=>q z.2]
        .rw[cD (p:=z.1=e.1/\z.2.2.1<0) λq=>g q.1]
       rintro x rfl;refine aI (λg=>a8 A (a8 A (aj ?_))) λg=>aj ?_
       .have:clS e (lk:Int) z=(z.1,z.2.1,(lk:Int),z.2.2.2):=aD g;rw[this]at hset;dsimp only;rw[hget,tI,hset]
       .rw[hid (av g)]
      rintro x rfl;refine aj ?_;dsimp only;rw[gQ]
     .rintro x rfl;refine dg (aj ?_) (by simp);rw[cv,List.drop_length,jB]
     .simp
    .rw[av λz=>g (er.2 z)];exact aj rfl
   rintro x rfl;have hSl:l! (if iD w e=(i:Int) then S.map (clS e (lk:Int)) else S)=l! S:=by split<;>simp
   refine aI (λg=>?_) λg=>?_
   .rw[aD (ea.1 g)];refine bt ?_ (by omega) (aj ⟨rfl,?_⟩)
    .dsimp only;rw[hSl,bN];omega
    .rw[bc,hSl,bN];omega
   .rw[av λz=>g (ea.2 z),jB];exact aj ⟨rfl,by rw[hSl];omega⟩
  rintro x ⟨rfl,h2⟩;refine aj ⟨?_,h2⟩;dsimp only;rw[gQ]
 .rintro x ⟨rfl,_⟩;exact dg (aj rfl)
def W3 (x:ET):qM x=Z (decide (x.2.1=3\/x.2.1=4)):=by
 refine cz ?_;unfold qM bi aG;refine aU (λz=>z=decide (x.2.1=3\/x.2.1=4)) ?_ (by rintro z rfl;exact aj rfl);refine aI (λg=>aj ?_) λg=>aj ?_
 .exact (aR (Or.inl g)).symm
 .have g:¬x.2.1=3:=g;show decide (x.2.1=4)=_;simp[g]
def Zh (x y:ET):Ok (pG (x,y)) λb=>b=J->Cnf x y:=by
 unfold pG aW bm bi iE aG;refine aU (λb=>b=J->Cnf x y) ?_ λb D=>aj D
 refine aT (W3 x) (aI (λh1=>?_) λ_=>aj λh=>by cases h);refine aT (W3 y) (aI (λA=>?_) λ_=>aj λh=>by cases h);refine ch (λ_=>?_) λ_=>aj nofun
 refine aI (λz=>?_) λ_=>aj nofun
 exact aI (λL=>aj λ_=>⟨h1,A,z,.inl L⟩) λ_=>aj λh=>⟨h1,A,z,.inr (bx h)⟩
def Vc (l:Y ET) (q:NG):Nat:=if q.2.2.1<0 then l! l else q.2.2.1.toNat+1
def Lkd (l:Y ET) (cs:Y η) (p q:NG):Prop:=∃a b:Nat,(p.2.1<=(a:Int)/\(a:Int)<=p.2.2.1/\(eN l a).1=p.1)/\(q.2.1<=(b:Int)/\b<Vc l q/\(eN l b).1=q.1)/\(ct l (ja l a) (a+1):Int)<=(cs.getD b []).getD (ja l a) 0
structure au0 (w:WT) (l:List ET) (cs:List η) (p q:NG):Prop where
 cf:∀a b:Nat,(p.2.1<=(a:Int)/\(a:Int)<=p.2.2.1/\(eN l a).1=p.1)->(q.2.1<=(b:Int)/\b<Vc l q/\(eN l b).1=q.1)->Cnf (eN l a) (eN l b)->wn (jc cs p.2.2.1) (cs.getD b [])
 lk:0<=q.2.2.1->Lkd l cs p q->wn (jc cs p.2.2.1) (jc cs q.2.2.1)
def ahg {w:WT} {l:Y ET} {q:NG} (h:SeF w l a (l! l) q):Vc l q<=l! l:=by
 unfold Vc;rcases h.r with h|⟨h1,z,_⟩
 .rw[aD (by omega)];exact bO _
 .have:=h.a0;rw[av (by omega)];omega
def ajs {w:WT} {l:Y ET} {cs:Y η} {tm:Y ν} {la:η} (ci:CI w l (l! l) cs tm la) (h:∀lk:Nat,lk<l! l->au1 w l cs lk) (hl:i<l! w.2.1) {p q:NG} (hp:p∈sN w l (i:Int) (l! l)) (hq:q∈sN w l (i:Int) (l! l)) (ne:p.1≠q.1) (rd:(p.2.2.2&&q.2.2.2)=aa) (p0:0<=p.2.2.1) (le:p.2.2.1<=q.2.1):au0 w l cs p q:=by
 have L:=vp w l i _ p hp;have D:=vp w l i _ q hq;have hB:=ahg D;have pa0:=L.a0;have qa0:=D.a0;rcases L.r with hr|⟨r1,r2,r3,r4⟩
 .omega
 have lt:p.2.2.1<q.2.1:=by
  rcases Int.lt_or_eq_of_le le with h|h
  .exact h
  .rw[h,D.th]at r3;exact b8 r3.symm ne
 have ru:∀b:Nat,q.2.1<(b:Int)->b<Vc l q->(eN l b).1=q.1->((∃a:Nat,p.2.1<=(a:Int)/\(a:Int)<=p.2.2.1/\(eN l a).1=p.1/\Cnf (eN l a) (eN l b))->wn (jc cs p.2.2.1) (cs.getD b []))/\(iD w (eN l b)=(i:Int)->(jc cs p.2.1).getD (ja l p.2.1.toNat) 0<=(cs.getD b []).getD (ja l p.2.1.toNat) 0->wn (jc cs p.2.2.1) (cs.getD b [])):=λb z hbB hbt=>by
  have hbl:b<l! l:=by omega
  have P':=Cc hp (Nat.le_of_lt hbl) (by omega);have Q':=Cc hq (Nat.le_of_lt hbl) z;have eP:atS b p=p:=by unfold atS;rw[aD ⟨p0,by omega⟩]
  have eQ:atS b q=(q.1,q.2.1,-1,q.2.2.2):=by
   unfold atS;unfold Vc at hbB;split at hbB<;>rw[av (by omega)]
  rw[eP]at P';rw[eQ]at Q';exact h b hbl i hl p P' _ Q' (by dsimp only;omega) hbt.symm p0 ne rd lt
 refine ⟨λa b A z hc=>?_,λq0 hL=>?_⟩
 .by_cases e:q.2.1=(b:Int)
  .have aq:=D.aq;rw[e,bD]at aq;let⟨k3,k4⟩:=Wo aq;rcases hc.2.1 with g|g
   .exact b8 g k3
   .exact b8 g k4
  .exact (ru b (by omega) z.2.1 z.2.2).1 ⟨a,A.1,A.2.1,A.2.2,hc⟩
 .obtain⟨a,b,A,z,hle⟩:=hL;rcases D.r with hr|⟨s1,s2,N,s4⟩
  .omega
  have hbl:b<l! l:=by omega
  have eB:Vc l q=q.2.2.1.toNat+1:=by unfold Vc;rw[av (by omega)]
  have hal:a<l! l:=by omega
  have thb:ja l b=ja l q.2.2.1.toNat:=by unfold ja;rw[z.2.2,N]
  have own:∀lk:Nat,lk<l! l->(cs.getD lk []).getD (ja l lk) 0=(ct l (ja l lk) (lk+1):Int):=ci.own;have hbr:wn (cs.getD b []) (cs.getD q.2.2.1.toNat []):=by
   refine ci.cls b q.2.2.1.toNat hbl (by omega) ?_;rw[own b hbl,thb,own _ (show q.2.2.1.toNat<l! l by omega)];have:=Qm l (ja l q.2.2.1.toNat) (show b+1<=q.2.2.1.toNat+1 by omega);omega
  have tha:ja l a=ja l p.2.1.toNat:=by unfold ja;rw[A.2.2,L.th]
  have hpa:(jc cs p.2.1).getD (ja l p.2.1.toNat) 0<=(cs.getD q.2.2.1.toNat []).getD (ja l p.2.1.toNat) 0:=by
   have e1:(jc cs p.2.1).getD (ja l p.2.1.toNat) 0=(ct l (ja l p.2.1.toNat) (p.2.1.toNat+1):Int):=own _ (show p.2.1.toNat<l! l by omega);rw[e1];have e2:=Qm l (ja l p.2.1.toNat) (show p.2.1.toNat+1<=a+1 by omega);have e3:=hbr (ja l p.2.1.toNat);rw[tha]at hle;omega
  have r':=(ru q.2.2.1.toNat (by omega) (by omega) N).2 s4 hpa;exact r'
def Tj (w:WT) (l:Y ET) (lk:Int):∀n:Nat,l! (sN w l lk n)<=n
 |0=>bO _
 |n+1=>by
  have:=Tj w l lk n;rw[sN,bc];split<;>split<;>simp<;>omega
def Ee (a b c:η) (ha:l! a<=9223372036854775807) (hx:∀z∈a,0<=z/\z<=255) (hc:l! c<=9223372036854775807) (D:∀z∈c,0<=z/\z<=255):Ok (jP (a,b,c)) λy=>y=J:=by
 unfold jP aW bm bF cG cg dk bi bM j_ iE bQ be cQ aG cN;refine ax (P:=TR) (Su a b c 30 (by omega) (by omega) ha hx hc D) ?_;rintro⟨w,l⟩ L;have hl:l! l<=400:=L.len;have hT:l! w.2.2.2.2.1<=4:=L.wb.t;have hL:l! w.2.1<=4:=L.wb.l;refine ax (S5 L (arq L)) ?_;rintro⟨cs,e⟩ ⟨he,tm,la,sp,wa,wt,st,se,op,re,ar,si,ei,g,hs⟩;dsimp only at he g hs;subst he;have hcl:=g.ci.k.cl;have hln:=g.ci.k.ln;refine aU (λx=>x=(aa,w,l)) (iT (aj ?_)) ?_
 .dsimp only;rw[hcl];simp
 rintro x rfl;refine iT (cm (l! w.2.1) (λk x=>x=((k:Int),w,l)) ?_ ?_ rfl)
 .rintro lk x hlk rfl;refine du ?_;refine ax (XF w (by omega)) λs0 hs0=>?_
  refine aT (Ww L hs0 hlk) ?_;have sl:=λp q hp N=>ajs g.ci hs.2 hlk (p:=p) (q:=q) hp N
  have sf:=vp w l (lk:Int) (l! l);have sn:=Tj w l (lk:Int) (l! l);generalize sN w l (lk:Int) (l! l)=S at*
  refine cm (l! S) (λi x=>x=((i:Int),w,l)) ?_ ?_ rfl
  .rintro i x hi rfl;refine du (cu (aS ?_));have hp:=bP (T:=.st tQ) (xs:=S) (j:=(i:Int)) (by omega) (by omega);obtain⟨p,hpe⟩:∃p:NG,geti (.st tQ) S (i:Int)=p:=⟨_,rfl⟩
   try dsimp only at hp ⊢
   rw[hpe]at hp ⊢;have fp:=sf p hp;refine cm (l! S) (λj x=>x=((j:Int),(w,l),p)) ?_ ?_ rfl
   .rintro j x hj rfl;refine du ?_;refine aU (λx=>x=((w,l),p)) ?_ ?_
    .refine cu (aS ?_);have N:=bP (T:=.st tQ) (xs:=S) (j:=(j:Int)) (by omega) (by omega);dsimp only;obtain⟨q,hqe⟩:∃q:NG,geti (.st tQ) S (j:Int)=q:=⟨_,rfl⟩
     try dsimp only at N ⊢
     rw[hqe]at N ⊢;have fq:=sf q N;have slq:=sl p q hp N;refine aU (λx=>∃b,x=(b,(w,l),p,q)/\(b=aa->au0 w l cs p q/\0<=p.2.2.1)) ?_ ?_
     .refine aI (λ_=>aj ⟨J,rfl,nofun⟩) λne=>?_
      refine aN (λd1=>aN (λ_=>aj ⟨J,rfl,nofun⟩) λd2=>?_) λd1=>?_
      .refine bL (λ_=>aj ⟨J,rfl,nofun⟩) λh0=>aj ⟨_,rfl,λh=>⟨slq ne ?_ h0 (g9.1 h),h0⟩⟩
       have d2:q.2.2.2=aa:=d2;rw[d2,Bool.and_false]
      .refine bL (λ_=>aj ⟨J,rfl,nofun⟩) λh0=>aj ⟨_,rfl,λh=>⟨slq ne ?_ h0 (g9.1 h),h0⟩⟩
       have d1:p.2.2.2=aa:=d1;rw[d1,eO]
     rintro x ⟨b,rfl,hb⟩;refine aN (λ_=>aj rfl) λhf=>?_
     let⟨sL,p0⟩:=hb hf;have pa0:=fp.a0;have qa0:=fq.a0;have qa1:=fq.a1;have hB:=ahg fq;have prl:p.2.2.1<(l! l:Int):=by rcases fp.r with h|⟨_,h,_⟩<;>omega
     have hBq:0<=q.2.2.1->q.2.1<q.2.2.1/\q.2.2.1<(l! l:Int):=λh=>by rcases fq.r with g|⟨g1,g2,_⟩<;>omega
     have hB':q.2.2.1<0/\Vc l q=l! l\/0<=q.2.2.1/\Vc l q=q.2.2.1.toNat+1:=by
      unfold Vc;split<;>omega
     refine cm (Vc l q-q.2.1.toNat) (λk x=>∃y,x=((y,((q.2.1.toNat+k:Nat):Int)),(w,l),p,q)/\(y=J->Lkd l cs p q)) ?_ ?_ ⟨aa,?_,nofun⟩
     .rintro k x hk ⟨y,rfl,D⟩;generalize hbk:q.2.1.toNat+k=b;have hbB:b<Vc l q:=by omega
      have hbl:b<l! l:=by omega
      have hqb:q.2.1<=(b:Int):=by omega
      have lb:=hln b hbl;have gb:geti (.sl aL) cs (b:Int)=cs.getD b []:=xu (T:=.sl aL) cs b;refine aU (λx=>x=(J,(w,l),p,q)) ?_ ?_
      .refine du (bL (λ_=>aj rfl) λh=>aj ?_);dsimp only;have h:0<=q.2.2.1:=h;rw[C' (show (b:Int)<=q.2.2.1 by omega)]
      rintro x rfl;refine ZN ?_;refine aU (λx=>∃y,x=(y,(w,l),p,q)/\(y=J->Lkd l cs p q)) ?_ ?_
      .refine cu (aS (ch (λ_=>aj ⟨y,rfl,D⟩) λhbt=>?_));have hbt:(eN l b).1=q.1:=hbt;refine cm (p.2.2.1+1-p.2.1).toNat (λk x=>∃y,x=((y,((p.2.1.toNat+k:Nat):Int)),(w,l),p,q)/\(y=J->Lkd l cs p q)) ?_ ?_ ⟨y,?_,D⟩
       .rintro m x hm ⟨y,rfl,D⟩;generalize hak:p.2.1.toNat+m=a;have hap:(a:Int)<=p.2.2.1:=by omega
        have hpa:p.2.1<=(a:Int):=by omega
        have hal:a<l! l:=by omega
        refine fc (λ_=>?_) λh=>b8 hap (Ny.2 h)
        refine aU (λx=>∃y,x=(y,(w,l),p,q)/\(y=J->Lkd l cs p q)) ?_ ?_
        .refine cu (aS (ch (λ_=>aj ⟨y,rfl,D⟩) λhat=>?_));have hat:(eN l a).1=p.1:=hat;refine aU (λx=>∃y,x=(y,(w,l),p,q)/\(y=J->Lkd l cs p q)) ?_ ?_
         .refine aN (λh=>aj ⟨J,rfl,λ_=>D h⟩) λ_=>?_
          refine cu (aS (aT (Zg L hal) (aT (ady _ l a (a+1)) (aj ⟨_,rfl,λh=>⟨a,b,⟨hpa,hap,hat⟩,⟨hqb,hbB,hbt⟩,?_⟩⟩))));have h:=bx h;rw[<- gb];exact h
         rintro x ⟨y',rfl,A⟩;refine aU (λx=>x=(aa,(w,l),p,q)) ?_ ?_
         .refine cu (aS (cu (aS (ax (Zh _ _) λz hz=>?_))));refine aN (λhzt=>?_) λ_=>aj rfl
          have hle:=sL.cf a b ⟨hpa,hap,hat⟩ ⟨hqb,hbB,hbt⟩ (hz hzt);have lr:=hln p.2.2.1.toNat (by omega);have gr:geti (.sl aL) cs p.2.2.1=jc cs p.2.2.1:=by
           have e:p.2.2.1=((p.2.2.1.toNat:Nat):Int):=by omega
           rw[e];exact xu (T:=.sl aL) cs _
          refine cu (aS (cu (aS (aT (ab0 ?_ ?_ ?_) (aj rfl)))))
          .dsimp only;rw[gr];unfold jc;omega
          .dsimp only;rw[gb];omega
          .dsimp only;rw[gr,gb];exact hle
         rintro x rfl;exact iT (aj ⟨y',rfl,A⟩)
        rintro x ⟨y',rfl,A⟩;refine aj ⟨y',?_,A⟩;dsimp only;rw[gQ,<-hak];rfl
       .rintro x ⟨y,rfl,D⟩;refine fc (λh=>(by dsimp only at h;omega)) λ_=>aj ⟨y,rfl,D⟩
       .dsimp only;rw[cW];have e:p.2.1=((p.2.1.toNat:Nat):Int):=by omega
        rw[<- e]
      rintro x ⟨y',rfl,A⟩;refine aj ⟨y',?_,A⟩;dsimp only;rw[gQ,<-hbk];rfl
     .rintro x ⟨y,rfl,D⟩;have hn:q.2.1.toNat+(Vc l q-q.2.1.toNat)=Vc l q:=by omega
      rw[hn];refine aU (λx=>x=(aa,(w,l),p,q)) ?_ ?_
      .refine bL (λg=>bL (λh=>?_) λh=>aj ?_) λ_=>aj rfl
       .have g:(Vc l q:Int)<(l! l:Int):=g;have h:q.2.2.1<0:=h;omega
       .have h:0<=q.2.2.1:=h;dsimp only;rw[ags (show q.2.2.1<(Vc l q:Int) by omega)]
      rintro x rfl;refine iT (ax (P:=λx=>x=bW ((w,l),p)) ?_ ?_)
      .refine aU (λx=>x=(aa,(w,l),p)) ?_ ?_
       .refine aN (λh=>?_) λ_=>aj rfl
        refine fc (λq0=>?_) λ_=>aj rfl
        have q0:0<=q.2.2.1:=q0;have hle:=sL.lk q0 (D h);have g2:∀{r:Int},0<=r->r<(l! l:Int)->geti (.sl aL) cs r=jc cs r/\l! (jc cs r)<=4:=λ{r} h0 h1=>by
         have e:r=((r.toNat:Nat):Int):=by omega
         refine ⟨by rw[e];exact xu (T:=.sl aL) cs _,?_⟩;have:=hln r.toNat (by omega);unfold jc;omega
        let⟨e1,e2⟩:=g2 p0 prl;let⟨e3,e4⟩:=g2 q0 (hBq q0).2;refine aM p0 (by rw[hcl];exact prl) (aS (aM q0 (by rw[hcl];exact (hBq q0).2) (aS (aT (ab0 ?_ ?_ ?_) (aj rfl)))))
        .dsimp only;rw[e1];omega
        .dsimp only;rw[e3];omega
        .dsimp only;rw[e1,e3];exact hle
       rintro x rfl;exact iT (aj rfl)
      rintro x rfl;exact aj rfl
     .dsimp only;rw[cW];have e:q.2.1=((q.2.1.toNat:Nat):Int):=by omega
      rw[<- e]
    rintro x rfl;refine aj ?_;dsimp only;rw[gQ]
   .rintro x rfl;refine dg (aj ?_);dsimp only;rw[gQ]
  .rintro x rfl;refine dg (aj ?_);dsimp only;rw[gQ]
 .rintro x rfl;exact dg (aT (x:=J) (by rw[alv];rfl) (aj rfl))
def WeakSections_law (x:η×A?) (w:Zj (.st (.pr (.sl (.int .u8)) (.pr (.sl (.int .u8)) (.sl (.int .u8))))) x):jP x=Z J:=by
 let⟨a,b,c⟩:=x;let⟨⟨N,w0⟩,_,⟨L,D⟩⟩:=w;obtain⟨y,h,rfl⟩:=Ee a b c N (λz A=>aak (w0 z A)) L (λz A=>aak (D z A));exact h
def ź (n:Nat)(k l:Y Nat)(a:Y PV)(b:Y PB):Nat×aj1:=(n,.j ⟨k,l,⟨a,b⟩,[]⟩)
def Ż (n:Nat)(k l:Y Nat)(a:Y PV)(b:Y PB)(z:Y Adj):Nat×aj1:=(n,.j ⟨k,l,⟨a,b⟩,z⟩)
abbrev ż (a:Y PV)(b:Y PB)(c:Y PV)(d:Y PB)(h:PT aj1):FT:=⟨⟨a,b⟩,⟨c,d⟩,h⟩
def Ž (a:Y PV)(b:Y PB)(c:Y PV)(d:Y PB)(h:PT aj1)(m:(ż a b c d h).pre.ty.den->M (ż a b c d h).post.ty.den):cA:=cn (ż a b c d h) m
def X?:PV:=.d aL
def Y!:PV:=.d .bool
def Y?:PB:=.F 2 J aL
def Z!:PV:=.H 0 0
def Z?:PB:=.F 50 J (.sl aL)
def À:PB:=.C 66 [.d iC]
def Á:PB:=.F 3 aa aL
def Â:PB:=.C 120 [.d wc]
def Ã:PB:=.F 3 J aL
def Ä:PV:=.d e_
def Å:PB:=.C 155 [.d fI]
def Æ:PB:=.C 31 [.d mT]
def Ç:PB:=.I (.ir 3 aL) 0
def È:PV:=.H 1 0
def É:PV:=.d iC
def Ê:PV:=.d mT
def Í:PV:=.d (.sl .str)
def Î:PV:=.d (.sl aL)
def Ï:PV:=.H 2 0
def Ð:PB:=.C 107 [.d nI]
def Ñ:PB:=.F 9 J .str
def Ò:PB:=.C 210 [.d sx]
def Ó:PB:=.F 4 J .bool
def Ô:PB:=.I (.ar 170 lL) 0
def Õ:PV:=.d (.sl il)
def Ö:PB:=.C 103 [.d AL]
def Ø:PB:=.F 178 J il
def Ù:PV:=.d wc
def Ú:PV:=.nil
def Û:PV:=.H 3 0
def Ü:PB:=.F 98 J dQ
def Ý:PV:=.d fI
def Þ:PV:=.G 3
def ß:PV:=.d nI
def à:PV:=.d (.sl dQ)
def á:PV:=.d .str
def â:PV:=.G 4
def ã:PV:=.G 6
def ä:PV:=.G 7
def å:PV:=.G 11
def æ:PV:=.G 2
def ç:PB:=.I (.ir 4 .bool) 0
def è:PB:=.I (.rr 50 1) 13
def é:PB:=.C 34 [.d sA]
def ê:PB:=.C 152 [.d Qx]
def ë:PB:=.C 197 [.d e_]
def ì:PV:=.d sA
def í:PB:=.F 52 J fI
def î:PV:=.G 0
def ï:PV:=.H 4 0
def ð:PV:=.G 1
def ñ:PV:=.d (.sl I9)
def ò:PV:=.d Gl
def ô:PV:=.d sx
def õ:PB:=.C 66 [.d aL,.d aL,.d aL,.d aL,.d aL,.d (.sl aL),.d (.sl aL)]
def ö:PV:=.G 5
def ø:PV:=.d ub
def ù:PB:=.I (.rr 50 1) 12
def ú:PV:=.ob 12 0
def û:PV:=.qv 93 [(15,0),(16,0),(0,0)]
def ü:PV:=.qv 96 [(15,0),(0,0),(16,0)]
def þ:PV:=.d .ex
def ÿ:PV:=.d xC
def Ā:PB:=.qf 9 .str
def ā:PV:=.d Qx
def Ă:PB:=.qk
def ă:PV:=.d (.sl mf)
def Ą:PV:=.d (.sl s9)
def ć:PV:=.d (.sl itK)
def Ĉ:PB:=.C 61 [.d Gl]
def ĉ:PV:=.d AL
def Ċ:PB:=.I (.qc 166) 11
def ċ:PV:=.d (.sl pO)
def Č:PV:=.d (.sl uw)
def č:PB:=.C 61 [.G 2,.d aL,.G 3,.G 4]
def Ď:PB:=.C 3 [.d aL]
def ď:PB:=.C 61 [.qy 4 2 3,.d aL,.d ub,.d (.sl il)]
def Đ:PB:=.I (.rr 50 1) 14
def đ:PV:=.d .sm
def Ē:PB:=.qf 220 .sm
def ē:PV:=.H 16 0
def Ĕ:PV:=.G 8
def ĕ:PB:=.C 220 [.d .sm]
def Ė:PV:=.G 10
def ė:PB:=.C 218 [.d .ex]
def Ę:PV:=.qv 136 [(1,0)]
def ę:PV:=.H 6 0
def Ě:PB:=.F 9 aa .str
def Ĝ:PV:=.d (.sl .sm)
def ğ:PV:=.H 15 0
def ġ:PV:=.H 5 0
def Ģ:PB:=.F 98 aa dQ
def Ĥ:PV:=.H 14 0
def ĥ:PV:=.G 12
def Ħ:PB:=.F 220 J .sm
def ħ:PB:=.C 197 [.d aL,.G 3,.G 4,.d aL]
def ĩ:PV:=.qv 92 [(14,0)]
def Ī:PB:=.C 193 [.d yL]
def ī:PB:=.C 134 [.d pO]
def Ĭ:PB:=.C 61 [.G 4,.d aL,.G 5,.G 6]
def ĭ:PV:=.d JP
def Į:PB:=.F 134 J pO
def į:PV:=.d (.sl iC)
def İ:PV:=.qy 1 1 4
def ı:PB:=.I .qh 11
def Ĳ:PV:=.H 7 0
def ĳ:PB:=.I (.rr 50 1) 15
def Ķ:PV:=.qy 4 1 4
def ķ:PB:=.F 210 J sx
def ĸ:PV:=.d (.sl fI)
def Ĺ:PB:=.mp itK .un
def ĺ:PB:=.C 115 [.d xC]
def Ļ:PV:=.G 9
def Ľ:PB:=.F 66 J iC
def ŀ:PB:=.F 64 J Xb
def Ł:PB:=.C 76 [.d mf]
def ł:PV:=.d (.int .u8)
def Ń:PB:=.C 64 [.d Xb]
def Ņ:PB:=.F 132 J itK
def Ň:PV:=.d Gd
def ň:PB:=.F 130 J s9
def Ū:PB:=.C 120 [Ù]
def Ű:PB:=.C 155 [Ý]
def ũ:PB:=.C 66 [É]
def ŭ:PB:=.C 210 [ô]
def Ő:Y PV:=[Z!,È,Ï]
def ő:Y PV:=[à,X?,ø,Õ]
def Œ:Y PB:=[Ü,Ó,Ø,Y?,Y?]
def Ŕ:Y PV:=[ă,Ą,ć,Í,Í,ċ]
def ŗ:Y PV:=[X?,X?]
def Ř:Y PB:=[Y?,Z?]
def ū:PB:=.C 103 [ĉ]
def Ť:Y PB:=[Ã,Ã,Ã]
def Ŭ:PB:=.C 107 [ß]
def Ũ:PB:=.C 31 [Ê]
def Ś:Y PB:=[ū,Ŭ,Ũ]
def Ų:PB:=.C 34 [ì]
def Ŝ:Y PB:=[Ų,Ŭ]
def Ş:Y PV:=[X?,X?,X?,X?,X?]
def ş:Y PV:=[È,X?,X?,Y!,Y!,Y!,Y!]
def ų:PB:=.C 3 [X?]
def š:Y PB:=[Ŭ,ũ]
def Ţ:Y PB:=[Ũ,ũ]
def ţ:Y PV:=[X?,Ä,Ä]
def ť:Y PB:=[Ũ,ī]
def ŧ:Y PB:=[Ũ,Ŭ,ũ]
def Ů:PB:=.C 152 [ā]
def ů:PB:=.C 197 [Ä]
def ű:PB:=.C 61 [ò]
def Ŵ:PB:=.C 220 [đ]
def ŵ:PB:=.C 218 [þ]
def Ŷ:PB:=.C 61 [æ,X?,Þ,â]
def Ÿ:PB:=.C 197 [X?,Þ,â,X?]
def Ź:PB:=.C 115 [ÿ]
abbrev wC:Y PV:=(Ş++[Ú,Ú])
def Ë:PB:=.C 66 wC
abbrev xB:Y PV:=[Ú,X?,Ú,Ú,Ú,Ú,Ú]
def Ì:PB:=.C 115 xB
def Ĵ:PB:=.C 107 xB
def ś:Y PB:=[Ű,Ì,Ë,ũ]
abbrev ao8:Y PV:=(ş++[â])
abbrev aoc:Y PV:=[X?,X?,á,á,Ú,X?,X?,á,Ú,Ú,Ú]
abbrev La2:Y PB:=[.C 214 ao8,ū,Ă,.C 220 aoc,Ā]
abbrev Qw:Y PV:=(Ő++[Û,ï,ġ,ę,Ĳ,Y!])
abbrev La4:Y PB:=[.C 206 (Ŕ++Í::æ::ŗ),Ă,ķ]
abbrev La5:Y PB:=[.C 206 (Ŕ++Í::ð::ŗ),ķ]
abbrev La6:Y PV:=[X?,å,ĥ,X?]
def ý:PB:=.C 197 La6
def Ŗ:Y PB:=[Ű,Ì,Ë,ũ,ý,ŭ,Y?,Y?]
abbrev La7:Y PB:=[.C 152 [Ú,Ú],.C 214 [ġ,X?,X?,Y!,Y!,Y!,Y!,ã],.C 152 [ñ,ä],Ě,.C 204 [á,X?,Ĕ,Ļ],ū,Ā,.F 204 J uw,Ě,Ħ]
abbrev La8:Y PB:=[.C 245 [ñ,Č,X?,ð,ã,ä],Ē,Ă,Ă,Ŵ,Ů,Ñ,Ñ]
abbrev La9:Y PV:=(ő++[Ĕ,Ļ,.qy 10 4 4])
def ļ:PB:=.C 115 La9
def Ō:Y PB:=(Ū::ļ::Ŗ)
abbrev amk:Y PB:=[.C 115 (ő++[ã,ä,.qy 8 4 4]),Ű,Ì,Ë,ũ,ů,Y?,Y?,.C 197 [Ä,Ä,Ä,Ä]]
abbrev ao9:Y PV:=(ş++[æ])
abbrev Sy:Y PV:=[Ň,X?]
def ě:PB:=.C 103 Sy
abbrev Ze:Y PB:=[.C 214 ao9,ě,Ā]
abbrev O8:Y PV:=(Ő++[Û,ï,ġ,ę,Ĳ,X?])
abbrev aqr:Y PV:=(ő++[Ĕ,Ļ,.qy 10 4 3])
def ō:Y PB:=(Ū::.C 115 aqr::Ŗ)
abbrev arc:Y PB:=(ō++.C 197 (X?::å::ĥ::ţ)::Ř)
abbrev arb:Y PB:=(ō++.C 197 [Ä,X?,å,ĥ,X?,Ä]::Ř)
abbrev ara:Y PB:=(ō++.C 197 [Ä,Ä,X?,å,ĥ,X?]::Ř)
abbrev aob:Y PV:=(ő++[Ĕ,Ļ,.qy 10 4 2])
def ŕ:Y PB:=(Ū::.C 115 aob::Ŗ)
abbrev ar9:Y PB:=(ŕ++.C 197 [X?,å,ĥ,X?,Ä]::Ř)
abbrev ar8:Y PB:=(ŕ++.C 197 [Ä,X?,å,ĥ,X?]::Ř)
abbrev adu:Y PB:=[.C 245 [ñ,Č,X?,ð,â,ö],Ē,Ă,Ă,Ñ,Ñ]
abbrev O7:Y PV:=(Ő++[Û,ï,ġ,ę,Y!])
abbrev g_:Y PV:=[Z!,Y!]
abbrev adt:Y PB:=[.C 245 [ñ,Č,X?,ð,æ,Þ],Ē,Ñ,Ñ]
abbrev ar7:Y PB:=(Ū::.C 115 (ő++[Ĕ,Ļ,.qy 10 4 1])::Ű::Ì::Ë::ũ::ý::ŭ::Y?::Y?::ý::Ř)
abbrev O6:Y PV:=(Ő++[Û,ï,ġ,ę])
abbrev ar6:Y PB:=(Ō++.C 197 [X?,å,ĥ,X?,Ä,Ä,Ä]::Ř)
abbrev ar5:Y PB:=(Ō++.C 197 (Ä::X?::å::ĥ::ţ)::Ř)
abbrev ar4:Y PB:=(Ō++.C 197 [Ä,Ä,X?,å,ĥ,X?,Ä]::Ř)
abbrev ar3:Y PB:=(Ō++.C 197 [Ä,Ä,Ä,X?,å,ĥ,X?]::Ř)
abbrev Nu:Y PB:=(ŧ++[Ĵ])
abbrev O5:Y PV:=(Ő++[Û,ï,ġ])
abbrev ar2:Y PB:=[.C 115 (ő++[ã,ä,.qy 8 4 3]),Ű,Ì,Ë,ũ,ů,Y?,Y?,.C 197 [Ä,Ä,Ä]]
abbrev WD:Y PV:=(ő++[ä,Ĕ,.qy 9 4 4])
def ĝ:PB:=.C 115 WD
def Ŋ:Y PB:=(Ū::ĝ::ś)
abbrev qG:Y PV:=[Z!,È,Y!]
abbrev BY:Y PV:=(Ő++[Û,Y!])
abbrev amc:Y PV:=[Ú,Ú,Ú,Ú,Ú,Ú]
def ń:PB:=.C 31 amc
abbrev ar0:Y PB:=[Ů,ń,.C 31 [â,ö,ã,ä,Ú,Ú],.C 248 [.d I9],.F 76 J mf,ň,Ņ,Ñ]
abbrev adr:Y PV:=[Ú,Ú,Ú,Ú,Ú,Ú,Ú]
def ņ:PB:=.C 34 adr
abbrev aue:Y PV:=(Ŕ++[ö])
abbrev auq:Y PB:=[Ů,.C 120 adr,.C 120 aue,.C 206 (Ŕ++Í::ã::ŗ),.C 193 [X?,ã],.F 193 J yL,ķ]
abbrev JO:Y PV:=[î,X?,ð,æ]
def Ğ:PV:=.agg JO
def Ġ:PV:=.agg [.agg JO,.G 3,.G 4,.qy 5 4 2]
def ŷ:PV:=.agg [Ğ,Þ,â,.qy 5 4 2]
abbrev aqz:Y PB:=(Ś++Ľ::.C 50 [ö,ã,ä,Ĕ]::Ã::Ť)
abbrev HL:Y PV:=(Ő++[X?])
abbrev aqy:Y PB:=(Ś++.C 50 [â,ö,ã,ä]::Ã::Ť)
abbrev Nt:Y PV:=[X?,Î,ĭ,X?]
def Ć:PB:=.C 197 Nt
abbrev ads:Y PV:=(ő++[ä,Ĕ,.qy 9 4 3])
def Ĩ:PB:=.C 115 ads
def ŋ:Y PB:=(Ū::Ĩ::ś)
abbrev AK:Y PV:=(Ő++[Y!])
abbrev wB:Y PV:=[Z!,È,X?]
abbrev Ns:Y PV:=[X?,Ė,å,X?]
def ą:PB:=.C 197 Ns
abbrev amb:Y PV:=[X?,î,ð,X?]
abbrev ab2:Y PV:=[X?,Ú,Ú,X?]
def ľ:PB:=.C 197 ab2
abbrev aqx:Y PB:=[Y?,Z?,ŭ,.C 197 amb,ľ]
abbrev aqw:Y PB:=[.C 245 [ñ,Č,X?,â,ö,ã],Ă,Ă,Ă,Ē,Ñ,Ñ]
abbrev C4:Y PV:=[Ú,X?,Ú,Ú]
def ó:PB:=.C 61 C4
def Š:Y PB:=[Ũ,.C 61 [.qy 4 2 3,X?,ø,Õ],ų,ó]
abbrev aqv:Y PB:=[Ŷ,ó,Ü,Ó,Ø]
abbrev Nr:Y PV:=[Z!,Û,Y!]
abbrev aup:Y PB:=[ņ,ū,.C 34 aue,Ŭ,.F 66 aa iC,Ľ]
abbrev auo:Y PB:=[.C 115 (ő++[ã,ä,.qy 8 4 2]),Ű,Ì,Ë,ũ,ů,Y?,Y?,.C 197 [Ä,Ä]]
abbrev rc:Y PB:=[Ũ]
abbrev aun:Y PB:=(Ś++Ľ::.C 50 [ä,Ĕ,Ļ,Ė]::ũ::Ŭ::Ã::Ť)
abbrev amj:Y PB:=[ń,.C 31 [æ,Þ,â,ö,ã,ä],.F 76 aa mf,.F 130 aa s9,.F 132 aa itK,Ě,Ě,Į]
abbrev uZ:Y PV:=[Z!,X?]
abbrev aip:Y PV:=[æ,Þ,â,ö]
def ĵ:PB:=.C 50 aip
def ř:Y PB:=(ū::ĵ::Ã::Ť)
abbrev aum:Y PB:=(ř++[Ë,.C 66 (Ş++[Î,Ú])])
abbrev ami:Y PV:=(ő++[ä,Ĕ,.qy 9 4 2])
def Ŀ:PB:=.C 115 ami
def ŏ:Y PB:=(Ū::Ŀ::ś)
abbrev O4:Y PV:=[ÿ,É,Y!]
abbrev aul:Y PB:=(ř++[Ŭ,Ũ,Ë,Ë])
abbrev auk:Y PB:=[Ů,ń,.C 31 [Þ,â,ö,ã,Ú,Ú],.F 76 J mf,ň,Ņ,Ñ]
abbrev aqu:Y PV:=(ő++[Þ,â,ö])
abbrev O3:Y PV:=[Ù,ÿ,Ý]
abbrev aqt:Y PB:=[Ü,Ó,Ø,.C 61 JO,Ã]
abbrev ais:Y PV:=[Þ,X?,â,ö]
abbrev auj:Y PB:=[Ũ,.C 61 ais,ó,Ü,Ó,Ø]
abbrev zX:Y PV:=ŗ
abbrev aqs:Y PB:=[Ľ,Ū,Ź,Ì]
abbrev aui:Y PB:=(Ī::Ÿ::ľ::Ř)
abbrev auh:Y PB:=[.C 214 ao8,ū,Ă,Ħ,Ā]
abbrev aqq:Y PV:=(ş++[Þ])
abbrev aug:Y PB:=[Ë,ů,ŭ,.C 66 (Ş++[â,Ú]),Ã]
abbrev Sw:Y PB:=[Ŵ]
abbrev amh:Y PV:=[.agg [Ğ,Þ,â,.qy 5 4 4]]
abbrev WC:Y PB:=[Ů]
abbrev aqp:Y PB:=[Ũ,Ī,ŭ]
abbrev amg:Y PB:=[Ů,.C 204 [.d uw]]
abbrev amf:Y PB:=[Ů,ŵ]
abbrev aqo:Y PB:=[Ũ,Ñ,Ł]
abbrev aqn:Y PB:=[Ü,Ó,Ø]
abbrev ame:Y PB:=[Ũ,ŭ]
abbrev amd:Y PV:=[Z!,ï,ġ,Y!]
abbrev aqm:Y PV:=(Ő++[Û,ï,X?])
abbrev Zd:Y PB:=[Ũ,ű]
abbrev aql:Y PB:=[ū,Ã,Ã]
abbrev adq:Y PB:=[Ũ,Ñ]
abbrev aqk:Y PB:=[ũ,Ĵ,.C 107 aqu,Y?,Y?,Ã]
abbrev auf:Y PB:=(ě::ĵ::Ã::Ť)
abbrev WA:Y PB:=[ě]
abbrev Nq:Y PV:=[Î,X?]
abbrev adp:Y PB:=[ū]
abbrev Wz:Y PV:=[Z!,ð,X?]
abbrev ado:Y PB:=[.C 248 [.d I9]]
abbrev aqj:Y PV:=[.agg [Ğ,Þ,â,.qy 5 4 3]]
abbrev aiy:Y PB:=Ř
abbrev aiw:Y PB:=[Ū,Ź]
abbrev aiv:Y PB:=[Ũ,Ī]
abbrev qW:Y PV:=[Î]
def ŉ:PB:=.C 50 qW
abbrev aiu:Y PV:=(Ő++[Û])
abbrev aoa:Y PV:=(ő++[ä,Ĕ,.qy 9 4 1])
def ŝ:Y PB:=[Ū,.C 115 aoa,Ű,Ì,Ë,ũ]
abbrev ait:Y PB:=[ű,Ã]
abbrev WE:Y PV:=(Z!::ŗ)
def tyT:PT Ty:=dR [(2,aL),(3,aL),(4,.bool),(9,.str),(50,(.sl aL)),(52,fI),(55,(.sl (.st (.pr aL aiz)))),(58,ub),(64,(.st (.pr aL aiz))),(66,iC),(76,mf),(83,fI),(98,dQ),(130,s9),(132,itK),(134,pO),(155,fI),(178,il),(193,yL),(197,e_),(204,uw),(210,sx),(218,.ex),(220,.sm),(248,I9)]
def b9 (t:TypeId):M Ty:=tyT.get t
def OP:=Ž [] [] [Í] [] .leaf lC
def MW:=Ž [á] [] [Y!] [] (dR [ź 8 [0,3] [4] [X?] []]) kD
def V6:=Ž [ł] [] [Y!] [] (dR [ź 2 [] [2] [Y!] []]) mq
def YP:=Ž [ł] [] [Y!] [] (dR [ź 2 [] [2] [Y!] []]) sW
def YO:=Ž [ł] [] [Y!] [] (dR [ź 2 [] [2] [Y!] []]) qD
def V7:=Ž [á] [] [Y!] [] (dR [ź 3 [0] [21] [Y!] [],ź 14 [0] [3] [X?] []]) ft
def YG:=Ž [Y!] [] [X?] [] .leaf f_
def YH:=Ž zX [] [X?,Y!] [] .leaf vJ
def V0:=Ž (X?::ŗ) [] [X?,Y!] [] (dR [ź 91 [] [6,7] [X?,Y!] [],ź 97 [] [6,7] [X?,Y!] []]) tP
def YI:=Ž zX [] [X?] [] (dR [ź 12 [] [5] [X?] []]) sU
def OO:=Ž [X?] [] [X?] [] (dR [ź 4 [0] [3] [Y!] [],ź 10 [0] [10] [Y!] [],ź 16 [] [17] [Y!] []]) ny
def qa:=ż [þ] [] [Y!] [] (dR [ź 2 [] [1,3] g_ [ŵ],ź 5 [] [1,50] g_ [ŵ],ź 16 [] [1,4] uZ [ŵ]])
def JB:cA:=cn qa jF
def Jl (n:Nat):cA:=cn qa (ij n)
def YN:=Ž [þ] [] [Y!] [] (dR [ź 2 [] [2] [Y!] []]) qC
def uu:=ż [đ] [] [Y!] [] (dR [ź 3 [] [1,13] g_ Sw,ź 10 [] [1,3] g_ Sw,ź 13 [] [1,47] g_ Sw,ź 21 [] [1,66] g_ Sw,ź 29 [] [1,95] g_ Sw,ź 36 [] [1,4] g_ Sw,ź 39 [] [1,130] g_ Sw,ź 46 [] [1,5] g_ Sw,ź 49 [] [1,157] g_ Sw,ź 56 [] [2] [Y!] []])
def Jk (n:Nat):cA:=cn uu (eE n)
def pd:=ż [Ĝ] [] [Y!] [] (dR [ź 6 [0] [3] [X?] []])
def Ht:cA:=cn pd oY
def GR (n:Nat):cA:=cn pd (dJ n)
def JA:=Ž [.d I9] [] [Y!] [] (dR [ź 3 [] [1,31] g_ ado,ź 11 [] [1,50] g_ ado,ź 18 [] [2] [Y!] []]) kW
def V5:=Ž [ā] [] [Y!] [] (dR [ź 6 [] [1,3] uZ WC,ź 27 [] [1,4] uZ WC,ź 42 [4] [1,5,6] wB amg,ź 59 [4] [1,56] g_ WC]) qP
def alh:=Ž [Í,á] [] [X?] [] (dR [ź 6 [0,1] [5] [X?] []]) jD
def V4:=Ž [ñ,á] [] [X?] [] (dR [ź 6 [0,1] [5] [X?] []]) ii
def ON:=Ž [Č,á] [] [X?] [] (dR [ź 6 [0,1] [5] [X?] []]) gU
def V3:=Ž [ā,X?,á] [] [X?] [] (dR [ź 3 [2] [3,27] g_ WC,ź 52 [7] [3,56] g_ WC]) qO
def act:=Ž (ā::X?::á::ŗ) [] [X?] [] (dR [ź 13 [] [25] [Y!] []]) gJ
def zN:=ż [þ] [] zX [] (dR [ź 8 [] [1,4,5,6] (Z!::X?::ŗ) [ŵ]])
def YL:cA:=cn zN DY
def XO (n:Nat):cA:=cn zN (oI n)
def zM:=ż [ā,X?,þ] [] [X?] [] (dR [ź 7 [1] [3,5,7] wB amf,ź 21 [1] [3,5,7,8] (Z!::È::ŗ) amf,ź 23 [1,7,8] [3,5,33] qG amf])
def YJ:cA:=cn zM DX
def XN (n:Nat):cA:=cn zM (oH n)
def acu:=Ž [ā,X?,þ] [] [X?] [] (dR [ź 13 [1] [3,5,22] qG amf]) nv
def R_:=Ž [Y!] [] [X?] [] .leaf c9
def alg:=Ž zX [] [X?] [] .leaf jC
def Hs:=Ž [Z!,X?,X?,á] adt [Y!] adt (dR [ź 6 [1,2,3] [0,9] uZ adt,ź 17 [1,2,3,9] [0,46] g_ adt]) dW
def OL:=Ž [Z!,đ] adt [X?] adu (dR [(1,(.a [.qx 0 4,.qx 0 5])),ź 28 [6,7,8,9,30] [0,3,5,67] amd La8,ź 41 [] [4] [X?] adu,ź 44 [6,7,8,9,30] [0,3,5,91] amd La8,ź 51 [] [4] [X?] adu,ź 63 [] [4] [X?] adu,ź 66 [6,7,8,9,30] [0,3,5,119] amd La8,ź 89 [] [4] [X?] adu,ź 108 [] [0,3,187] [Z!,ï,Y!] [.C 245 [ñ,Č,X?,ð,ö,ã],Ē,Ă,Ă,Ŵ,Ñ,Ñ],ź 131 [] [4] [X?] adu,ź 137 [6] [0,3,5,14] [Z!,ï,ġ,X?] La8,ź 139 [6] [0,3,5,14] [Z!,ï,ġ,X?] La8,ź 140 [6,14] [0,3,5,253] amd La8]) nu
def tC:=ż [Z!,Ĝ] adt zX aqw (dR [(1,(.a [.qx 0 3,.qx 0 4,.qx 0 5])),ź 6 [1] [0,6] uZ aqw,ź 19 [1,6] [0,7,8] [Z!,ï,X?] [.C 245 [ñ,Č,X?,ö,ã,ä],Ă,Ă,Ă,Ŵ,Ē,Ñ,Ñ],ź 37 [1,6] [0,8,9] WE aqw])
def OM:cA:=cn tC xn
def N5 (n:Nat):cA:=cn tC (iS n)
def zO:=ż [Ĝ] [] [X?] [] (dR [ź 8 [0] [3,4] zX []])
def YM:cA:=cn zO DZ
def XP (n:Nat):cA:=cn zO (oJ n)
def YK:=Ž [ñ] [] zX [] (dR [ź 8 [0] [4,5,6,7,8] (X?::X?::X?::ŗ) [],ź 16 [0,8] [4,5,6,7] (X?::X?::ŗ) [],ź 38 [0,8] [4,5,6,7,9] [X?,X?,X?,X?,Z!] ado,ź 39 [0,4,5,6,7,8,36] [9,39] g_ ado,ź 47 [0,4,5,6,7,8,36] [9,47] g_ ado,ź 61 [0,4,5,6,7,8] [9,69] g_ ado]) sV
def R9:=Ž [ā] [] zX [] (dR [ź 6 [] [1,4] uZ WC,ź 17 [4] [1,5,37] qG amg,ź 29 [] [1,6] uZ WC,ź 51 [6] [1,7,8] wB amg,ź 62 [6,8] [1,7,90] qG amg]) oX
def Sa:=Ž [ā] [] zX [] (dR [ź 44 [] [1,8,9] WE WC,(67,(.a [.qd 10 3 220 .sm,.qd 10 4 9 .str,.qd 10 5 9 .str])),ź 69 [] [1,10,11] wB [Ů,.C 245 [ñ,Č,X?,æ,Þ,â],Ē,Ñ,Ñ]]) fB
def zL:=ż [î,X?,X?,Ĝ] [Į] [ð,X?] [Ă,Į] (dR [(1,(.a [.qx 0 0])),ź 6 [1,3] [0,2,10] (ð::ŗ) [Ă,Į],(25,(.a [.nil 8 134 pO]))])
def YA:cA:=cn zL K5
def XM (n:Nat):cA:=cn zL (qF n)
def VX:=Ž [Ą,á] [] [X?] [] (dR [ź 6 [0,1] [5] [X?] []]) lm
def VZ:=Ž [Ê,á] [] [X?] [] (dR [ź 6 [1] [2,5] uZ rc]) mo
def YE:=Ž [ā] [] [Ê] [] (dR [Ż 18 [] [1,2,3,6] HL auk [.qd 3 0 76 mf,.qd 3 1 130 s9,.qd 3 2 132 itK,.qd 3 3 9 .str],ź 31 [6] [1,2,3] Ő auk,ź 32 [6,31] [1,2,3,7,39] BY ar0,ź 42 [6] [1,2,3,7,8] (Ő++[Û,X?]) ar0,ź 53 [6,31] [1,2,3,7,65] BY ar0,(69,(.a [.qd 3 5 134 pO])),Ż 71 [] [1,2,3,9] HL [Ů,ń,.C 31 [Þ,â,ö,ã,ä,Ĕ],.F 76 J mf,ň,Ņ,Ñ,Ñ,Į] [.qd 3 4 9 .str]]) vI
def YB:=Ž [Ê] [] [Í,Y!] [] (dR [Ż 8 [] [1,4,5] Wz adq [.nil 4 9 .str],ź 15 [] [1,4,5] Wz adq,ź 37 [5] [1,4,6,51] [Z!,ð,Ï,Y!] aqo,ź 48 [5] [1,4,6,7] [Z!,ð,Ï,X?] aqo,ź 59 [5,7] [1,4,6,93] [Z!,ð,Ï,Y!] aqo,ź 72 [] [1,4,9] Wz adq,ź 87 [] [1,4,10] Wz adq]) qA
def Jz:=Ž [Ê] [] [Y!] [] (dR [ź 3 [] [1,49] g_ rc,ź 24 [3] [1,5] uZ rc,ź 33 [3,5] [1,79] g_ rc,ź 45 [] [1,6] uZ rc,ź 56 [6] [1,109] g_ rc,ź 68 [] [1,8] uZ rc,ź 76 [8] [1] [Z!] rc,ź 80 [8] [1,9,132] qG ť,ź 87 [8] [1,9,146] qG ť,ź 90 [8] [1,165] g_ rc]) ig
def MV:=Ž [ô] [] qW [] (dR [ź 6 [4] [1,5] g_ [ŭ],ź 24 [4] [1,13] g_ [ŭ],ź 46 [4] [1,37] g_ [ŭ]]) kC
def VY:=Ž [X?] [] [Y!] [] (dR [ź 2 [] [2] [Y!] []]) qN
def YC:=Ž [.d (.sl sx),X?] [] [Y!] [] (dR [ź 6 [0] [1,5] zX [],ź 14 [0,5] [1] [X?] [],ź 16 [0,1,5] [19] [Y!] []]) qB
def alf:=Ž zX [] [Y!] [] (dR [ź 2 [] [4] [Y!] []]) jZ
def YD:=Ž (Ê::ŗ) [] [Y!] [] (dR [ź 2 [] [6] [Y!] []]) oE
def R6:=Ž [Ê,ô] [] [Y!] [] (dR [ź 9 [] [4] [Y!] [],ź 15 [] [4] [Y!] [],ź 30 [6] [2,3,59] qG ame,ź 37 [] [4] [Y!] [],ź 40 [6] [2,3,78] qG ame,ź 55 [] [4] [Y!] [],ź 58 [6] [2,3,98] qG ame,ź 72 [6] [2,3,108] qG ame,ź 97 [] [4] [Y!] [],ź 103 [] [4] [Y!] []]) mE
def Hr:=Ž [Ê,X?,.d yL] [] [Y!] [] (dR [ź 5 [1,7] [3,5,26] qG aiv,ź 16 [1,7] [3,5,8] wB aiv,ź 28 [1,7,8] [3,5,9,67] AK aqp,ź 36 [1,7,8] [3,5,9,100] AK aqp,ź 44 [1,7,8] [3,5,9,122] AK aqp,ź 56 [1,7,8,10] [3,5,11] wB aiv]) iH
def YF:=Ž [Ù] [] [Y!] [] (dR [ź 3 [] [1,17] g_ [Ū],ź 14 [] [1,3] uZ [Ū]]) kB
def R7:=Ž [Z!,ô] La5 [] La4 .leaf cJ
def r8:=ż [Z!,þ,X?] La5 [] La4 (dR [ź 2 [] [] [] La4])
def MT:cA:=cn r8 iW
def Li (n:Nat):cA:=cn r8 (iX n)
def Jy:=Ž [Z!,đ] La5 [] La4 .leaf mV
def OK:=Ž [Z!,á] La5 [X?] La5 (dR [ź 6 [1] [0,5] uZ La5]) kf
def r9:=ż [Z!,Ĝ] La5 [] La4 (dR [(1,(.a [.qx 0 7])),ź 3 [1] [0,4] uZ La4])
def MU:cA:=cn r9 vH
def Lj (n:Nat):cA:=cn r9 (dP n)
def xw:=ż [Z!,đ] La5 [] La4 (dR [(1,(.a [.qx 0 7])),ź 10 [] [] [] La4,ź 15 [4,25] [0,3,31] [Z!,Ï,Y!] [.C 206 (Ŕ++Í::Þ::ŗ),Ă,Ŵ,ķ]])
def N3 (n:Nat):cA:=cn xw (eU n)
def r_:=ż [Z!,đ] La5 [] La4 .leaf
def EZ (n:Nat):cA:=cn r_ (dh n)
def ut:=ż (Z!::đ::X?::ŗ) La5 [] La4 .leaf
def Jj (n:Nat):cA:=cn ut (dM n)
def R8:=Ž [ā] [] (Ù::ŗ) [] (dR [Ż 20 [] [1,2,7,8,9] (Ő++ŗ) [Ů,.C 120 adr,.C 120 (Ŕ++[Þ]),.F 193 J yL] [.qd 7 6 193 yL],(32,(.a [.qd 10 7 210 sx])),ź 45 [8,9] [1,2,7,10,11,12] aqm auq,ź 59 [8,9,12,13] [1,2,7,10,11,14] aqm auq]) rM
def ahl:=Ž Nq [] [Y!] [] (dR [ź 6 [0,1] [5] [X?] []]) rL
def ahk:=Ž Nq [] qW [] (dR [ź 6 [0,1] [5] [X?] [],ź 8 [0,1,5] [18] [Y!] [],ź 16 [0,1,5] [32] [Y!] []]) xZ
def Yz:=Ž [Î,Î] [] qW [] (dR [ź 8 [0,1] [5,6] Nq [],ź 23 [1] [5,7] Nq []]) sT
def OJ:=Ž [X?] [] [X?] [] (dR [ź 3 [0] [8] [Y!] []]) nk
def acs:=Ž [Ä] [] [.agg amb] aiy (dR [Ż 8 [] [1,2,3,4] HL (ů::ľ::Ÿ::Ř) [.qd 3 2 50 (.sl aL)]]) cC
def acr:=Ž [ô,.agg amb] aiy [.agg amb,Y!] aiy (dR [ź 8 [6] [2,3,4,7] [Ï,Û,ï,X?] aqx,ź 17 [6,7] [2,3,4,33] [Ï,Û,ï,Y!] aqx,ź 32 [] [2,3,4,8,9,10] [Ï,Û,ï,X?,Y!,Î] aqx]) xY
def VW:=Ž [.d yL,Ä] [] [Ä,Y!] [] (dR [ź 3 [] [2,3,4,23] AK [Ī,ů,ľ],ź 16 [] [2,3,4,6] HL aui,ź 26 [6] [2,3,4,44] AK aui]) oD
def Yx:=Ž [Ê] [] [ò] [] (dR [Ż 8 [] [1,2,3,4] HL [Ũ,ó,.C 61 [Þ,X?,Ú,Ú],Ü] [.qd 3 0 98 dQ],Ż 23 [] [1,2,3,5] HL [Ũ,ó,.C 61 [Þ,X?,â,Ú],Ü,Ó] [.qd 3 2 4 .bool],Ż 38 [] [1,2,3,6] HL [Ũ,ó,.C 61 ais,Ü,Ó,Ø] [.qd 3 3 178 il],ź 49 [6] [1,2,3,7] aiu [Ũ,ó,.C 61 [â,X?,ö,ã],.C 178 [.d il],Ü,Ó,Ø]]) sR
def acp:=Ž [Ê,ò] [] [Y!] [] (dR [ź 6 [] [2,3,5] wB Zd,ź 15 [5] [2,3,31] qG Zd,ź 23 [] [4] [Y!] []]) sS
def ale:=Ž zX [] [Y!] [] (dR [ź 2 [] [4] [Y!] []]) rK
def Yw:=Ž (Ê::ŗ) [] [Y!] [] (dR [ź 6 [2,7] [3,8] g_ rc,ź 36 [2,7] [3,18] g_ rc,ź 46 [2,7] [3,26] g_ rc,ź 53 [] [6] [Y!] [],ź 56 [2,7] [3,43] g_ rc,ź 71 [] [6] [Y!] [],ź 74 [2,7] [3,61] g_ rc,ź 92 [2,7] [3,71] g_ rc,ź 102 [2] [3,79] g_ rc]) vG
def R5:=Ž (Ê::ò::X?::ŗ) [] [Y!] [] (dR [ź 3 [2,3,4] [5,6,30] qG Zd,ź 25 [] [10] [Y!] [],ź 50 [] [10] [Y!] [],ź 56 [] [10] [Y!] [],ź 59 [2,4,70] [5,6,11,119] AK [Ũ,ű,.C 178 [.d il]],ź 99 [2,4,70] [5,6,160] qG Zd,ź 116 [] [10] [Y!] [],ź 122 [] [10] [Y!] []]) lj
def R4:=Ž [ò,X?] [] qW [] (dR [Ż 8 [1] [2,5,6] Wz ait [.nil 5 3 aL],ź 16 [1,6] [2,5] [Z!,ð] ait,ź 17 [1,6] [2,5,30] [Z!,ð,Y!] ait]) oW
def R3:=Ž Nq [] qW [] (dR [Ż 8 [0,1] [5,6] [î,X?] [Ã] [.nil 5 3 aL],ź 16 [0,1,6] [5] [î] [Ã]]) rJ
def acq:=Ž [ò] [] [Ğ] aqn (dR [Ż 8 [] [1,2,3,4] HL [ű,ó,.C 61 ais,Ü,Ó,Ø] [.qd 3 0 98 dQ]]) iG
def nD:=ż [Ğ,X?] aqn qW aqn (dR [Ż 8 [1] [2,5,6] [Û,â,X?] aqt [.nil 5 3 aL],ź 16 [1,6] [2,5] [Û,â] aqt,ź 17 [1,6] [2,5,30] [Û,â,Y!] aqt])
def OH:cA:=cn nD nj
def MS:cA:=⟨nD.pre,⟨nD.post.vs,[]⟩,kA⟩
def Yy:=Ž (Ê::ò::X?::X?::ŗ) [] [ò,X?,Y!] [] (dR [ź 17 [] [7,12,15] wB aqv,ź 26 [2,4,5,15,30] [6,7,12,45] AK auj,ź 34 [2,4,5,15,30] [6,7,12,54] AK auj,ź 90 [] [7,12,17] wB aqv,ź 109 [18] [7,12,19] wB aqv]) qu
def Yv:=Ž [Ù] [] [ÿ] [] (dR [Ż 16 [] [1,2,3,4] HL [Ū,Ì,.C 115 (ő++[Þ,Ú,Ú]),Y?] [.qd 3 4 2 aL],Ż 31 [] [1,2,3,5] HL [Ū,Ì,.C 115 (ő++[Þ,â,Ú]),Y?,Y?] [.qd 3 5 2 aL],Ż 46 [] [1,2,3,6] HL [Ū,Ì,.C 115 aqu,Y?,Y?,.F 197 J e_] [.qd 3 6 197 e_]]) vF
def acn:=Ž [Ù,ÿ] [] [Y!] [] (dR [ź 3 [] [2,3,46] qG aiw,ź 14 [] [2,3,5] wB aiw,ź 25 [5] [2,3,97] qG aiw]) xX
def acl:=Ž [X?] [] [X?] [] (dR [ź 5 [0] [3,10] [î,Y!] [Á]]) xV
def Vu:=Ž [ô,Ä] [] [X?] [] (dR [ź 6 [6] [2,3,7] qG [ŭ,ů],ź 28 [] [2,40] g_ [ŭ]]) tO
def R2:=Ž [Ù,ÿ,X?] [] [É,Y!] [] (dR [ź 3 [2] [3,4,6,25] AK [Ū,Ź,Ë],Ż 54 [] [6,8,9,10] aiu aug [.qd 10 5 3 aL],ź 59 [] [6,8,9,10,98] BY [Ë,ů,ŭ,Ë],Ż 68 [] [6,10] [Z!,È] [Ë,.C 66 (Ş++[æ,Þ]),Ã,Ã] [.qd 10 6 3 aL],ź 69 [] [6,8,9,10,123] BY aug]) oV
def Yt:=Ž [Ê] [] [ß] [] (dR [Ż 8 [] [1,2,3,4] HL [Ũ,Ĵ,.C 107 aqu,Y?,.F 2 aa aL,Á] [.qd 3 4 2 aL]]) oe
def ack:=Ž [Ê,ß] [] [Y!] [] (dR [ź 2 [] [4] [Y!] []]) xU
def ald:=Ž zX [] [Y!] [] (dR [ź 2 [] [4] [Y!] []]) EV
def R1:=Ž Nq [] [Y!] [] (dR [ź 6 [0,1] [5] [X?] [],ź 15 [0,1,5] [40] [Y!] []]) oU
def Yr:=Ž [ß,É] [] [Y!] [] (dR [ź 21 [] [4] [Y!] [],ź 24 [7] [2,3,40] qG š,ź 47 [] [4] [Y!] []]) vD
def acj:=Ž [Ê,ß,É] [] [ß,Y!] [] (dR [ź 3 [] [3,4,5,6,46] BY Nu,ź 10 [] [3,4,5,6] aiu Nu,ź 11 [] [3,4,5,6,55] BY Nu,ź 21 [] [3,4,5,6,78] BY Nu,ź 28 [] [3,4,5,6,8] BY Nu,ź 31 [] [3,4,5,6,110] BY Nu,ź 39 [] [3,4,5,6,125] BY Nu,ź 47 [] [3,4,5,6,154] BY Nu,ź 58 [] [3,4,5,6,9,10] aqm (ŧ++[Ĵ,.C 107 [Ú,X?,Ú,Ú,ö,ã,ä],Y?,Y?,Ã]),ź 66 [] [5,6,9] Ő aqk,ź 72 [] [5,6,9] Ő aqk]) sQ
def Ys:=Ž [į,X?,X?,Î] [] [Y!] [] (dR [ź 6 [0,1,2,3] [9] [X?] [],ź 23 [0,1,2,3,9] [10,11,12] [X?,Y!,X?] [],ź 31 [0,1,2,3,9,12] [10,11] [X?,Y!] [],ź 38 [0,1,2,3,9,10,12] [11] [Y!] []]) sP
def Yu:=Ž [ì] [] zX [] (dR [ź 24 [] [1,4,5] wB Ŝ,ź 38 [5] [1,4,7,63] AK (Ŝ++[Ŭ])]) vE
def VV:=Ž [ÿ] [] [.agg [Ğ,Þ,â,.qy 5 4 1]] (Œ++.C 197 [X?,ã,ä,X?]::Ř) (dR [(8,(.u 2))]) oC
def VH:=Ž O3 [] O4 [] (dR [(27,(.s 5 0 0 1)),ź 37 [] [3,4,5,6,7,9,14,15,16] O8 ar7,ź 38 [16,77] [3,4,5,6,7,9,14,15,78] Qw ar7,ź 83 [16] [3,4,5,6,7,9,14] O6 (ŝ++ą::Y?::Y?::ą::Ř),ź 84 [16] [3,4,5,6,7,9,14,15,154] Qw ar7,ź 95 [] [4,5,6,7,9,14] O5 [.C 115 (ő++[ã,ä,.qy 8 4 1]),Ű,Ì,Ë,ũ,ů,Y?,Y?,ů],ź 96 [] [3,4,5,6,7,9,14,183] O7 (ŝ++[Ć,Y?,Y?,Ć]),(102,(.s 5 0 0 1)),(104,(.a [.pk 4 6 e_]))]) gm
def VU:=Ž [ÿ] [] [ŷ] (Œ++.C 197 [X?,ã,ä,X?,Ä]::Ř) (dR [(8,(.u 3))]) oB
def VG:=Ž O3 [] O4 [] (dR [(27,(.s 5 0 0 1)),ź 37 [] [3,4,5,6,7,9,14,15,16] O8 ar9,ź 38 [16,77] [3,4,5,6,7,9,14,15,78] Qw ar9,ź 83 [16] [3,4,5,6,7,9,14] O6 (ŏ++ą::Y?::Y?::.C 197 [X?,Ė,å,X?,Ä]::Ř),ź 84 [16] [3,4,5,6,7,9,14,15,154] Qw ar9,ź 95 [] [4,5,6,7,9,14] O5 auo,ź 96 [] [3,4,5,6,7,9,14,183] O7 (ŏ++[Ć,Y?,Y?,.C 197 [X?,Î,ĭ,X?,Ä]]),(102,(.s 5 0 0 1)),(104,(.a [.pk 4 6 e_]))]) gI
def VS:=Ž [ÿ] [] [ŷ] (Œ++.C 197 [Ä,X?,ã,ä,X?]::Ř) (dR [(8,(.u 3))]) oA
def VF:=Ž O3 [] O4 [] (dR [(27,(.s 5 0 1 1)),ź 37 [] [3,4,5,6,7,9,14,15,16] O8 ar8,ź 38 [16,77] [3,4,5,6,7,9,14,15,78] Qw ar8,ź 83 [16] [3,4,5,6,7,9,14] O6 (ŏ++ą::Y?::Y?::.C 197 [Ä,X?,Ė,å,X?]::Ř),ź 84 [16] [3,4,5,6,7,9,14,15,154] Qw ar8,ź 95 [] [4,5,6,7,9,14] O5 auo,ź 96 [] [3,4,5,6,7,9,14,183] O7 (ŏ++[Ć,Y?,Y?,.C 197 [Ä,X?,Î,ĭ,X?]]),(102,(.s 5 0 1 1)),(104,(.a [.pk 4 6 e_]))]) gk
def VR:=Ž [ÿ] [] aqj (Œ++.C 197 (X?::ã::ä::ţ)::Ř) (dR [(8,(.u 4))]) oz
def VD:=Ž O3 [] O4 [] (dR [(27,(.s 5 0 0 1)),ź 37 [] [3,4,5,6,7,9,14,15,16] O8 arc,ź 38 [16,77] [3,4,5,6,7,9,14,15,78] Qw arc,ź 83 [16] [3,4,5,6,7,9,14] O6 (ŋ++ą::Y?::Y?::.C 197 (X?::Ė::å::ţ)::Ř),ź 84 [16] [3,4,5,6,7,9,14,15,154] Qw arc,ź 95 [] [4,5,6,7,9,14] O5 ar2,ź 96 [] [3,4,5,6,7,9,14,183] O7 (ŋ++[Ć,Y?,Y?,.C 197 (X?::Î::ĭ::ţ)]),(102,(.s 5 0 0 1)),(104,(.a [.pk 4 6 e_]))]) kc
def VQ:=Ž [ÿ] [] aqj (Œ++.C 197 [Ä,X?,ã,ä,X?,Ä]::Ř) (dR [(8,(.u 4))]) oy
def VB:=Ž O3 [] O4 [] (dR [(27,(.s 5 0 1 1)),ź 37 [] [3,4,5,6,7,9,14,15,16] O8 arb,ź 38 [16,77] [3,4,5,6,7,9,14,15,78] Qw arb,ź 83 [16] [3,4,5,6,7,9,14] O6 (ŋ++ą::Y?::Y?::.C 197 [Ä,X?,Ė,å,X?,Ä]::Ř),ź 84 [16] [3,4,5,6,7,9,14,15,154] Qw arb,ź 95 [] [4,5,6,7,9,14] O5 ar2,ź 96 [] [3,4,5,6,7,9,14,183] O7 (ŋ++[Ć,Y?,Y?,.C 197 [Ä,X?,Î,ĭ,X?,Ä]]),(102,(.s 5 0 1 1)),(104,(.a [.pk 4 6 e_]))]) iV
def VP:=Ž [ÿ] [] aqj (Œ++.C 197 [Ä,Ä,X?,ã,ä,X?]::Ř) (dR [(8,(.u 4))]) ox
def Vz:=Ž O3 [] O4 [] (dR [(27,(.s 5 0 2 1)),ź 37 [] [3,4,5,6,7,9,14,15,16] O8 ara,ź 38 [16,77] [3,4,5,6,7,9,14,15,78] Qw ara,ź 83 [16] [3,4,5,6,7,9,14] O6 (ŋ++ą::Y?::Y?::.C 197 [Ä,Ä,X?,Ė,å,X?]::Ř),ź 84 [16] [3,4,5,6,7,9,14,15,154] Qw ara,ź 95 [] [4,5,6,7,9,14] O5 ar2,ź 96 [] [3,4,5,6,7,9,14,183] O7 (ŋ++[Ć,Y?,Y?,.C 197 [Ä,Ä,X?,Î,ĭ,X?]]),(102,(.s 5 0 2 1)),(104,(.a [.pk 4 6 e_]))]) ie
def VO:=Ž [ÿ] [] amh (Œ++.C 197 [X?,ã,ä,X?,Ä,Ä,Ä]::Ř) (dR [(8,(.u 5))]) ov
def dI:=ż O3 [] O4 [] (dR [(27,(.s 5 0 0 1)),ź 37 [] [3,4,5,6,7,9,14,15,16] O8 ar6,ź 38 [16,77] [3,4,5,6,7,9,14,15,78] Qw ar6,ź 83 [16] [3,4,5,6,7,9,14] O6 (Ŋ++ą::Y?::Y?::.C 197 [X?,Ė,å,X?,Ä,Ä,Ä]::Ř),ź 84 [16] [3,4,5,6,7,9,14,15,154] Qw ar6,ź 95 [] [4,5,6,7,9,14] O5 amk,ź 96 [] [3,4,5,6,7,9,14,183] O7 (Ŋ++[Ć,Y?,Y?,.C 197 [X?,Î,ĭ,X?,Ä,Ä,Ä]]),(102,(.s 5 0 0 1)),(104,(.a [.pk 4 6 e_]))])
def Vy:cA:=cn dI oh
def VN:=Ž [ÿ] [] amh (Œ++.C 197 (Ä::X?::ã::ä::ţ)::Ř) (dR [(8,(.u 5))]) ou
def Vx:=Ž O3 [] O4 [] (dR [(27,(.s 5 0 1 1)),ź 37 [] [3,4,5,6,7,9,14,15,16] O8 ar5,ź 38 [16,77] [3,4,5,6,7,9,14,15,78] Qw ar5,ź 83 [16] [3,4,5,6,7,9,14] O6 (Ŋ++ą::Y?::Y?::.C 197 (Ä::X?::Ė::å::ţ)::Ř),ź 84 [16] [3,4,5,6,7,9,14,15,154] Qw ar5,ź 95 [] [4,5,6,7,9,14] O5 amk,ź 96 [] [3,4,5,6,7,9,14,183] O7 (Ŋ++[Ć,Y?,Y?,.C 197 (Ä::X?::Î::ĭ::ţ)]),(102,(.s 5 0 1 1)),(104,(.a [.pk 4 6 e_]))]) og
def VM:=Ž [ÿ] [] amh (Œ++.C 197 [Ä,Ä,X?,ã,ä,X?,Ä]::Ř) (dR [(8,(.u 5))]) oq
def Vw:=Ž O3 [] O4 [] (dR [(27,(.s 5 0 2 1)),ź 37 [] [3,4,5,6,7,9,14,15,16] O8 ar4,ź 38 [16,77] [3,4,5,6,7,9,14,15,78] Qw ar4,ź 83 [16] [3,4,5,6,7,9,14] O6 (Ŋ++ą::Y?::Y?::.C 197 [Ä,Ä,X?,Ė,å,X?,Ä]::Ř),ź 84 [16] [3,4,5,6,7,9,14,15,154] Qw ar4,ź 95 [] [4,5,6,7,9,14] O5 amk,ź 96 [] [3,4,5,6,7,9,14,183] O7 (Ŋ++[Ć,Y?,Y?,.C 197 [Ä,Ä,X?,Î,ĭ,X?,Ä]]),(102,(.s 5 0 2 1)),(104,(.a [.pk 4 6 e_]))]) mn
def VK:=Ž [ÿ] [] amh (Œ++.C 197 [Ä,Ä,Ä,X?,ã,ä,X?]::Ř) (dR [(8,(.u 5))]) ol
def Vv:=Ž O3 [] O4 [] (dR [(27,(.s 5 0 3 1)),ź 37 [] [3,4,5,6,7,9,14,15,16] O8 ar3,ź 38 [16,77] [3,4,5,6,7,9,14,15,78] Qw ar3,ź 83 [16] [3,4,5,6,7,9,14] O6 (Ŋ++ą::Y?::Y?::.C 197 [Ä,Ä,Ä,X?,Ė,å,X?]::Ř),ź 84 [16] [3,4,5,6,7,9,14,15,154] Qw ar3,ź 95 [] [4,5,6,7,9,14] O5 amk,ź 96 [] [3,4,5,6,7,9,14,183] O7 (Ŋ++[Ć,Y?,Y?,.C 197 [Ä,Ä,Ä,X?,Î,ĭ,X?]]),(102,(.s 5 0 3 1)),(104,(.a [.pk 4 6 e_]))]) li
def aco:cA:=cn dI Cj
def acm:=Ž [Ù,ÿ,Ú,ĸ] [] [į,ÿ] [] (dR [(1,(.a [.nil 2 66 iC])),ź 6 [3] [2,4,5,9,10] [î,È,Ï,Û,X?] aqs,ź 8 [3,10] [2,4,5,9,22] [î,È,Ï,Û,Y!] aqs,ź 14 [3,10] [2,4,5,9] [î,È,Ï,Û] aqs]) xW
def ahj:=Ž [Ù,ĸ] [] [ì,ÿ] [] .leaf Bc
def JF:=Ž uZ WA [X?] WA (dR [ź 3 [1] [0,18] g_ adp]) bH
def acv:=Ž [X?] [] [þ] [] .leaf sY
def YT:=Ž [á] [] [þ] [] .leaf qE
def Sf:=Ž [X?,þ,þ] [] [þ] [] .leaf oZ
def Sg:=Ž [á,þ] [] [đ] [] .leaf j6
def V_:=Ž [] [] [ñ] [] .leaf tR
def OX:=Ž [Ň] [] [ĸ] [] (dR [Ż 8 [0] [3,4] [î,X?] [.F 155 J fI] [.nil 3 155 fI]]) pL
def pf:=ż uZ Ze [þ] Ze (dR [ź 8 [1,6] [0,4,5,14] [Z!,Û,â,Y!] [.C 214 ao9,ū,Ā,.C 218 [X?,X?,á,Ú],Ě]])
def Hx:cA:=cn pf fo
def GV (n:Nat):cA:=cn pf (iJ n)
def F3:=Ž [Z!,á] Ze [Y!] Ze .leaf eT
def nU:=ż WE Ze [â] [.C 214 aqq,ě,Ă,Ā,Ħ] (dR [(1,(.a [.qx 0 7])),Ż 8 [1,2] [0,7,8] [Z!,Þ,X?] auh [.nil 7 220 .sm],ź 10 [1,2,8] [0,7,22] [Z!,Þ,Y!] auh,(21,(.a [.nil 6 220 .sm]))])
def F0:cA:=cn nU rN
def E0 (n:Nat):cA:=cn nU (dN n)
def s7:=ż uZ Ze [đ] [.C 214 aqq,ě,Ă,Ā] (dR [(1,(.a [.qx 0 7])),ź 6 [1,5] [0,4,6] Nr La2,ź 28 [1,5,6] [0,4,74] Nr La2,Ż 33 [] [4,7] [Û,ï] [.C 214 (ş++[ö]),ū,Ă,.C 220 aoc,.C 220 [X?,X?,á,á,Ú,X?,X?,á,.d (.sl .ex),ã,ä],Ā,Ħ,Ħ] [.qd 7 10 220 .sm],ź 42 [1,5,6] [0,4,100] Nr La2,ź 56 [1,5,6] [0,4,133] Nr La2,ź 64 [1,5,6] [0,4,165] Nr La2,ź 70 [1,5,6] [0,4,188] Nr La2,ź 82 [1,5,6] [0,4,210] Nr La2,ź 94 [5,6] [0,4,235] Nr La2,ź 100 [5] [0,4,258] Nr La2,ź 106 [5] [0,4,278] Nr La2,ź 114 [] [0,4,308] Nr La2])
def GU (n:Nat):cA:=cn s7 (eJ n)
def sd:=ż [Z!,á,X?] Ze [Ĝ] [.C 214 aqq,ě,Ă,Ā] .leaf
def E3 (n:Nat):cA:=cn sd (dZ n)
def OW:=Ž [Ň] [] [ā] [] (dR [(5,(.a [.qd 3 7 9 .str])),Ż 14 [5] [2,3,4,6,7] (Ő++[Þ,X?]) [.C 152 [Ú,Ú],.C 214 [ï,X?,X?,Y!,Y!,Y!,Y!,ö],.C 152 [ñ,ã],Ě,ū,Ā,.F 204 J uw] [.qd 4 1 204 uw],Ż 27 [5,7] [2,3,4,6,8] (Ő++[Þ,ï]) La7 [.qd 8 3 220 .sm],Ż 34 [5,7] [2,3,4,6,8,9] (Ő++[Þ,ï,X?]) La7 [.qd 8 3 220 .sm],ź 48 [5,7] [2,3,4,6,8] (Ő++[Þ,ï]) La7,ź 49 [5,7] [2,3,4,6,8,79] (Ő++[Þ,ï,Y!]) La7]) pK
def YU:=Ž [Ň] [] [Ù] [] .leaf zo
def Wa:=Ž [Ň,Ň] [] [ì] [] .leaf tS
def RX:=Ž [] [] [Ê] [] (dR [Ż 8 [21] [0,1,22] wB amj [.qd 1 5 134 pO],ź 22 [2,21,22] [0,1,3] wB amj]) oT
def MR:=Ž [ß] [] qW [] (dR [Ż 8 [8,9] [3,10] [î,X?] [Ã] [.nil 3 3 aL],ź 16 [8,9,10] [3] [î] [Ã]]) l7
def RU:=Ž [] [] qW [] .leaf uN
def OC:=Ž WE WA [X?] WA (dR [ź 6 [2,7] [0,8] g_ adp,ź 16 [2,7] [0,16] g_ adp,ź 26 [2,7] [0,21] g_ adp,ź 44 [2,7] [0,26] g_ adp,ź 70 [2] [0,33] g_ adp]) pD
def RQ:=Ž (Z!::ß::ŗ) WA [X?] WA (dR [ź 18 [10] [0,5,24] qG [ū,Ŭ]]) rF
def Vp:=Ž [Z!,ð] [ě,Ã] qW [ě,Ã] (dR [Ż 8 [9] [0,1,5,8,10] [Z!,ð,æ,ð,X?] aql [.nil 5 3 aL],ź 16 [9,10] [0,1,5,8] [Z!,ð,æ,ð] aql,ź 19 [7,9,10] [0,1,5,8,24] [Z!,ð,æ,ð,Y!] aql]) gH
def RW:=Ž [Z!,ß,Ê,İ] auf [É] auf (dR [ź 8 [9] [0,3,5,6,8,11] [Z!,İ,ę,Ĳ,.H 8 0,.H 9 0] aul,ź 9 [9] [0,3,5,6,8,11,36] [Z!,İ,ę,Ĳ,.H 8 0,.H 9 0,Y!] aul,ź 18 [9] [0,3,8,11] [Z!,İ,ę,Ĳ] aum,ź 19 [9] [0,3,8,11,74] [Z!,İ,ę,Ĳ,Y!] (ř++[Ë,Ë]),(22,(.s 9 0 0 4)),ź 24 [] [8,11] [ę,Ĳ] (ř++[Ë,.C 66 (Ş++[Î,Î])]),ź 25 [9] [0,3,8,11,89] [Z!,İ,ę,Ĳ,Y!] aum,(28,(.s 9 0 0 4))]) rG
def Vq:=Ž [Z!,ß,Ê,X?,Y!] WA [į] WA (dR [(8,(.a [.qd 12 0 3 aL,.qd 12 1 3 aL,.qd 12 2 3 aL,.qd 12 3 3 aL])),ź 9 [3,11] [0,6,7,12] (Ő++[.qy 3 1 4]) aqy,(10,(.u 5)),ź 18 [3,4,11,22,23] [0,6,7,12] (Ő++[.qy 3 1 4]) aqy,ź 21 [3,4,11,13,22,23] [0,6,7,12,39] (Ő++[.qy 3 1 4,Y!]) aqy,Ż 29 [3] [0,6,7,11,12] (Ő++[Þ,Ķ]) aqz [.nil 11 66 iC],ź 31 [3] [0,6,7,11,12,65] (Ő++[Þ,Ķ,Y!]) aqz,ź 36 [3] [0,6,7,11,12] (Ő++[Þ,Ķ]) aqz,ź 47 [3] [0,6,7,11,12,14,15] (Ő++[Þ,Ķ,ġ,ę]) aun,ź 48 [3] [0,6,7,11,12,14,15,87] (Ő++[Þ,Ķ,ġ,ę,Y!]) aun,(51,(.s 14 0 0 4))]) tK
def RY:=Ž Sy [] [ì] [] (dR [ź 2 [1] [0,4] [Ň,Z!] [ņ],ź 22 [1,9] [4,5,6,7,8,10] (Ő++[Û,â,X?]) [ņ,ū,.C 34 (Ŕ++[Ú]),Ŭ,.F 66 aa iC],Ż 37 [1,48] [4,5,6,7,47,49] (Ő++[Û,â,X?]) aup [.qd 6 6 66 iC],ź 45 [1,48,49] [4,5,6,7,47] (Ő++[Û,â]) aup]) rH
def Hq:=Ž [.d (.st (.pr Gd (.pr Gd Gd))),X?] [] [ì] [] .leaf l8
def Oj:aK Pg 168 OP:=mk _ _ an b9
def LG:aK Pg 143 MW:=mk _ _ (ac Oj an) b9
def Ib:aK Pg 142 V6:=mk _ _ an b9
def Yc:aK Pg 169 YP:=mk _ _ an b9
def Yb:aK Pg 144 YO:=mk _ _ (ac Ib (ac Yc an)) b9
def tU:aK Pg 113 V7:=mk _ _ (ac Ib (ac LG (ac Yb an))) b9
def LF:aK Pg 221 YG:=mk _ _ an b9
def X6:aK Pg 205 YH:=mk _ _ (ac LF an) b9
def UH:aK Pg 207 V0:=mk _ _ (ac LF an) b9
def X7:aK Pg 204 YI:=mk _ _ an b9
def Oi:aK Pg 228 OO:=mk _ _ an b9
def yh:∀n:Nat,aK Pg 222 (Jl n)
 |0=>H7 qa
 |n+1=>mk qa (mY (ij n)) (ac tU (ac (yh n) (ac Oi an))) b9
def Ae:aK Pg 222 JB:=(yh fuel)
def Ya:aK Pg 223 YN:=mk _ _ an b9
def s5:∀n:Nat,aK Pg 208 (Jk n)/\aK Pg 178 (GR n)
 |0=>⟨H7 uu,H7 pd⟩
 |n+1=>⟨mk uu (kY (eE n) (dJ n)) (ac tU (ac (s5 n).2 (ac Ae (ac Ya an)))) b9,mk pd (kr (eE n) (dJ n)) (ac (s5 n).1 an) b9⟩
def G8:aK Pg 178 Ht:=(s5 fuel).2
def Jo:aK Pg 177 JA:=mk _ _ (ac tU an) b9
def UJ:aK Pg 151 V5:=mk _ _ (ac tU (ac Jo (ac G8 an))) b9
def wS:aK Pg 114 alh:=mk _ _ an b9
def wR:aK Pg 179 V4:=mk _ _ an b9
def xp:aK Pg 180 ON:=mk _ _ an b9
def UI:aK Pg 224 V3:=mk _ _ (ac wS (ac wR (ac xp an))) b9
def PL:aK Pg 211 act:=mk _ _ (ac UI an) b9
def If:∀n:Nat,aK Pg 225 (XO n)
 |0=>H7 zN
 |n+1=>mk zN (vT (oI n)) (ac (If n) an) b9
def X_:aK Pg 225 YL:=(If fuel)
def Ie:∀n:Nat,aK Pg 226 (XN n)
 |0=>H7 zM
 |n+1=>mk zM (vS (oH n)) (ac PL (ac (Ie n) an)) b9
def X8:aK Pg 226 YJ:=(Ie fuel)
def abx:aK Pg 212 acu:=mk _ _ (ac Ae (ac X_ (ac X8 an))) b9
def RB:aK Pg 213 R_:=mk _ _ an b9
def akq:aK Pg 210 alg:=mk _ _ an b9
def G7:aK Pg 209 Hs:=mk _ _ an b9
def Og:aK Pg 181 OL:=mk _ _ (ac wS (ac wR (ac xp (ac G7 (ac akq (ac PL (ac abx (ac RB an)))))))) b9
def Bl:∀n:Nat,aK Pg 155 (N5 n)
 |0=>H7 tC
 |n+1=>mk tC (nC (iS n)) (ac (Bl n) (ac Og an)) b9
def Oh:aK Pg 155 OM:=(Bl fuel)
def Ig:∀n:Nat,aK Pg 154 (XP n)
 |0=>H7 zO
 |n+1=>mk zO (vU (oJ n)) (ac (Ig n) an) b9
def X':aK Pg 154 YM:=(Ig fuel)
def X9:aK Pg 152 YK:=mk _ _ (ac wR an) b9
def RA:aK Pg 153 R9:=mk _ _ (ac wS (ac wR (ac xp an))) b9
def zD:aK Pg 117 Sa:=mk _ _ (ac UJ (ac X9 (ac RA (ac X' (ac Oh an))))) b9
def Ic:∀n:Nat,aK Pg 157 (XM n)
 |0=>H7 zL
 |n+1=>mk zL (zF (qF n)) (ac (Ic n) an) b9
def X1:aK Pg 157 YA:=(Ic fuel)
def H9:aK Pg 156 VX:=mk _ _ an b9
def Ia:aK Pg 214 VZ:=mk _ _ an b9
def X5:aK Pg 118 YE:=mk _ _ (ac zD (ac H9 (ac X1 an))) b9
def X2:aK Pg 112 YB:=mk _ _ an b9
def Ad:aK Pg 70 Jz:=mk _ _ (ac X2 (ac tU (ac wS an))) b9
def vQ:aK Pg 121 MV:=mk _ _ an b9
def H_:aK Pg 171 VY:=mk _ _ an b9
def X3:aK Pg 146 YC:=mk _ _ (ac H_ an) b9
def Ry:aK Pg 147 alf:=mk _ _ an b9
def X4:aK Pg 170 YD:=mk _ _ (ac Ry an) b9
def Rx:aK Pg 145 R6:=mk _ _ (ac Ry (ac X4 an)) b9
def G6:aK Pg 115 Hr:=mk _ _ (ac vQ (ac Rx (ac X3 (ac Ry an)))) b9
def D8:aK Pg 72 YF:=mk _ _ (ac Ad (ac G6 an)) b9
def o8:aK Pg 120 R7:=mk _ _ an b9
def Ag:∀n:Nat,aK Pg 186 (Li n)
 |0=>H7 r8
 |n+1=>mk r8 (rU (iX n)) (ac wS (ac o8 (ac (Ag n) (ac Ia an)))) b9
def vP:aK Pg 186 MT:=(Ag fuel)
def Jn:aK Pg 182 Jy:=mk _ _ (ac wS (ac o8 (ac vP (ac Ia an)))) b9
def Of:aK Pg 185 OK:=mk _ _ an b9
def kX:∀n:Nat,aK Pg 119 (Lj n)/\aK Pg 158 (N3 n)/\aK Pg 183 (EZ n)/\aK Pg 184 (Jj n)
 |0=>⟨H7 r9,H7 xw,H7 r_,H7 ut⟩
 |n+1=>⟨mk r9 (rV (dP n) (eU n) (dh n) (dM n)) (ac (kX n).2.1 an) b9,mk xw (tA (dP n) (eU n) (dh n) (dM n)) (ac wS (ac o8 (ac H9 (ac Jn (ac (kX n).2.2.1 (ac (kX n).2.2.2 (ac Of (ac vP an)))))))) b9,mk r_ (nO (dP n) (eU n) (dh n) (dM n)) (ac (kX n).1 (ac o8 (ac vP an))) b9,mk ut (pY (dP n) (eU n) (dh n) (dM n)) (ac (kX n).1 (ac o8 an)) b9⟩
def LD:aK Pg 119 MU:=(kX fuel).1
def Rz:aK Pg 75 R8:=mk _ _ (ac zD (ac X5 (ac LD (ac o8 (ac vQ an))))) b9
def LC:aK Pg 103 ahl:=mk _ _ an b9
def agv:aK Pg 140 ahk:=mk _ _ an b9
def LB:aK Pg 106 Yz:=mk _ _ (ac agv an) b9
def Oe:aK Pg 206 OJ:=mk _ _ an b9
def mb:aK Pg 175 acs:=mk _ _ an b9
def abw:aK Pg 176 acr:=mk _ _ (ac LB (ac vQ (ac X6 (ac Oe (ac UH an))))) b9
def kh:aK Pg 150 VW:=mk _ _ (ac H_ (ac mb (ac abw an))) b9
def LA:aK Pg 62 Yx:=mk _ _ an b9
def G5:aK Pg 100 acp:=mk _ _ an b9
def Z6:aK Pg 101 ale:=mk _ _ an b9
def X0:aK Pg 102 Yw:=mk _ _ (ac Z6 an) b9
def Fa:aK Pg 65 R5:=mk _ _ (ac G5 (ac Z6 (ac X0 (ac LC an)))) b9
def Rw:aK Pg 104 R4:=mk _ _ an b9
def Rv:aK Pg 107 R3:=mk _ _ an b9
def ma:aK Pg 105 acq:=mk _ _ an b9
def Oc:aK Pg 104 OH:=mk nD nj an b9
def Lz:aK Pg 104 MS:= @aK.ro Pg 104 nD.pre nD.post.vs nj kA (Oc.holds rfl) rfl (λx _ h=>by rw[show kA x=aA (nj x) λy=>same y.2 x.2 (Z y.1) from rfl]at h;exact h)
def kG:aK Pg 68 Yy:=mk _ _ (ac Fa (ac LC (ac Lz (ac ma (ac LB (ac Rv an)))))) b9
def XZ:aK Pg 74 Yv:=mk _ _ (ac LA (ac D8 an)) b9
def abu:aK Pg 172 acn:=mk _ _ (ac D8 (ac G5 an)) b9
def abs:aK Pg 173 acl:=mk _ _ an b9
def Um:aK Pg 174 Vu:=mk _ _ (ac X7 an) b9
def iR:aK Pg 148 R2:=mk _ _ (ac abu (ac abs (ac Um an))) b9
def Ly:aK Pg 45 Yt:=mk _ _ (ac LA an) b9
def abr:aK Pg 63 ack:=mk _ _ (ac G5 an) b9
def akp:aK Pg 64 ald:=mk _ _ an b9
def Ru:aK Pg 66 R1:=mk _ _ an b9
def XW:aK Pg 67 Yr:=mk _ _ (ac LC (ac Rw an)) b9
def G4:aK Pg 47 acj:=mk _ _ (ac abr (ac akp (ac Fa (ac Ru (ac XW (ac kG an)))))) b9
def XX:aK Pg 71 Ys:=mk _ _ an b9
def XY:aK Pg 49 Yu:=mk _ _ (ac Ly (ac G4 (ac Ad (ac XX an)))) b9
def Pc (t:TypeId):M Ty:=if ay t 197 then Z (.pr .un e_) else b9 t
def UG:aK Pg 149 VV:=mk _ _ (ac ma (ac mb an)) Pc
def Uw:aK Pg 116 VH:=mk _ _ (ac kG (ac iR (ac UG (ac kh an)))) Pc
def UF:aK Pg 149 VU:=mk _ _ (ac ma (ac mb an)) Pc
def Uv:aK Pg 116 VG:=mk _ _ (ac kG (ac iR (ac UF (ac kh an)))) Pc
def UE:aK Pg 149 VS:=mk _ _ (ac ma (ac mb an)) Pc
def Uu:aK Pg 116 VF:=mk _ _ (ac kG (ac iR (ac UE (ac kh an)))) Pc
def UD:aK Pg 149 VR:=mk _ _ (ac ma (ac mb an)) Pc
def Ut:aK Pg 116 VD:=mk _ _ (ac kG (ac iR (ac UD (ac kh an)))) Pc
def UC:aK Pg 149 VQ:=mk _ _ (ac ma (ac mb an)) Pc
def Us:aK Pg 116 VB:=mk _ _ (ac kG (ac iR (ac UC (ac kh an)))) Pc
def UB:aK Pg 149 VP:=mk _ _ (ac ma (ac mb an)) Pc
def Ur:aK Pg 116 Vz:=mk _ _ (ac kG (ac iR (ac UB (ac kh an)))) Pc
def UA:aK Pg 149 VO:=mk _ _ (ac ma (ac mb an)) Pc
def Uq:aK Pg 116 Vy:=mk dI oh (ac kG (ac iR (ac UA (ac kh an)))) Pc
def Uz:aK Pg 149 VN:=mk _ _ (ac ma (ac mb an)) Pc
def Up:aK Pg 116 Vx:=mk _ _ (ac kG (ac iR (ac Uz (ac kh an)))) Pc
def Uy:aK Pg 149 VM:=mk _ _ (ac ma (ac mb an)) Pc
def Uo:aK Pg 116 Vw:=mk _ _ (ac kG (ac iR (ac Uy (ac kh an)))) Pc
def Ux:aK Pg 149 VK:=mk _ _ (ac ma (ac mb an)) Pc
def Un:aK Pg 116 Vv:=mk _ _ (ac kG (ac iR (ac Ux (ac kh an)))) Pc
def abv:aK Pg 116 aco:=(aK.orE (pre:=dI.pre) (post:=dI.post) (m:=oh) (m':=(λx=>orE (og x) ((λx=>orE (mn x) ((λx=>orE (li x) ((λx=>orE (kc x) ((λx=>orE (iV x) ((λx=>orE (ie x) ((λx=>orE (gI x) ((λx=>orE (gk x) (gm x)) x)) x)) x)) x)) x)) x)) x))) rfl Uq (aK.orE (pre:=dI.pre) (post:=dI.post) (m:=og) (m':=(λx=>orE (mn x) ((λx=>orE (li x) ((λx=>orE (kc x) ((λx=>orE (iV x) ((λx=>orE (ie x) ((λx=>orE (gI x) ((λx=>orE (gk x) (gm x)) x)) x)) x)) x)) x)) x))) rfl Up (aK.orE (pre:=dI.pre) (post:=dI.post) (m:=mn) (m':=(λx=>orE (li x) ((λx=>orE (kc x) ((λx=>orE (iV x) ((λx=>orE (ie x) ((λx=>orE (gI x) ((λx=>orE (gk x) (gm x)) x)) x)) x)) x)) x))) rfl Uo (aK.orE (pre:=dI.pre) (post:=dI.post) (m:=li) (m':=(λx=>orE (kc x) ((λx=>orE (iV x) ((λx=>orE (ie x) ((λx=>orE (gI x) ((λx=>orE (gk x) (gm x)) x)) x)) x)) x))) rfl Un (aK.orE (pre:=dI.pre) (post:=dI.post) (m:=kc) (m':=(λx=>orE (iV x) ((λx=>orE (ie x) ((λx=>orE (gI x) ((λx=>orE (gk x) (gm x)) x)) x)) x))) rfl Ut (aK.orE (pre:=dI.pre) (post:=dI.post) (m:=iV) (m':=(λx=>orE (ie x) ((λx=>orE (gI x) ((λx=>orE (gk x) (gm x)) x)) x))) rfl Us (aK.orE (pre:=dI.pre) (post:=dI.post) (m:=ie) (m':=(λx=>orE (gI x) ((λx=>orE (gk x) (gm x)) x))) rfl Ur (aK.orE (pre:=dI.pre) (post:=dI.post) (m:=gI) (m':=(λx=>orE (gk x) (gm x))) rfl Uv (aK.orE (pre:=dI.pre) (post:=dI.post) (m:=gk) (m':=gm) rfl Uu Uw)))))))))
def abt:aK Pg 73 acm:=mk _ _ (ac abv an) b9
def agu:aK Pg 50 ahj:=mk _ _ (ac D8 (ac abt (ac XZ an))) b9
def fL:aK Pg 46 JF:=mk _ _ an b9
def G_:aK Pg 125 acv:=mk _ _ an b9
def LM:aK Pg 189 YT:=mk _ _ an b9
def Fg:aK Pg 188 Sf:=mk _ _ an b9
def Fh:aK Pg 124 Sg:=mk _ _ an b9
def UL:aK Pg 122 V_:=mk _ _ an b9
def Ou:aK Pg 52 OX:=mk _ _ an b9
def wT:∀n:Nat,aK Pg 187 (GV n)
 |0=>H7 pf
 |n+1=>mk pf (o_ (iJ n)) (ac fL (ac G_ (ac (wT n) (ac Fg (ac LM an))))) b9
def G':aK Pg 187 Hx:=(wT fuel)
def Ff:aK Pg 190 F3:=mk _ _ (ac wS an) b9
def kH:∀n:Nat,aK Pg 123 (E0 n)/\aK Pg 159 (GU n)/\aK Pg 191 (E3 n)
 |0=>⟨H7 nU,H7 s7,H7 sd⟩
 |n+1=>⟨mk nU (nQ (dN n) (eJ n) (dZ n)) (ac (kH n).2.1 an) b9,mk s7 (o9 (dN n) (eJ n) (dZ n)) (ac fL (ac (kH n).1 (ac Fh (ac G_ (ac G' (ac Fg (ac LM (ac Ff (ac (kH n).2.2 an))))))))) b9,mk sd (nR (dN n) (eJ n) (dZ n)) (ac fL (ac (kH n).1 an)) b9⟩
def Fe:aK Pg 123 F0:=(kH fuel).1
def Ot:aK Pg 76 OW:=mk _ _ (ac fL (ac zD (ac UL (ac Fe (ac Fh (ac G_ an)))))) b9
def Ye:aK Pg 51 YU:=mk _ _ (ac Rz (ac Ot an)) b9
def UM:aK Pg 22 Wa:=mk _ _ (ac agu (ac Ye (ac Ou an))) b9
def Rr:aK Pg 44 RX:=mk _ _ an b9
def Lw:aK Pg 141 MR:=mk _ _ an b9
def Rp:aK Pg 108 RU:=mk _ _ an b9
def N7:aK Pg 109 OC:=mk _ _ (ac fL an) b9
def Ro:aK Pg 110 RQ:=mk _ _ (ac fL (ac Lw an)) b9
def Uh:aK Pg 111 Vp:=mk _ _ (ac fL an) b9
def Rq:aK Pg 69 RW:=mk _ _ (ac fL (ac Rp (ac N7 (ac Ro (ac Uh an))))) b9
def tv1 (t:TypeId):M Ty:=if ay t 50 then Z (.pr .un (.pr .un (.pr .un (.pr .un (.pr .un (.sl aL)))))) else b9 t
def Ui:aK Pg 48 Vq:=mk _ _ (ac fL (ac G4 (ac Rq an))) tv1
def Rs:aK Pg 21 RY:=mk _ _ (ac Rr (ac Ly (ac fL (ac G4 (ac Ui (ac XY an)))))) b9
def G3:aK Pg 7 Hq:=mk _ _ (ac Rs (ac UM an)) b9
abbrev Ld0:Y PB:=[Ģ,Ó,Ø,.C 61 JO]
abbrev Ld1:Y PB:=[Ģ,Ó,Ø]
abbrev Ld2:Y PB:=[Ŭ,ũ,.C 225 [.d Kd0]]
abbrev Ld3:Y PB:=[Ã]
abbrev Ld8:Y PV:=Ŕ
abbrev Ld4:Y PB:=[.C 31 Ld8,.C 66 (Ş++[Î,Î])]
abbrev Ld5:Y PB:=[Ã,ų]
abbrev Ld6:Y PB:=[Ũ,.C 61 [â,X?,ö,ã],ų,ó,Ģ,Ó,Ø]
abbrev Ld7:Y PB:=[ó,Ŷ,Ģ,.F 4 aa .bool,.F 178 aa il]
abbrev Ld9:Y PB:=[ũ]
abbrev Zc:Y PV:=[î,X?]
def acy:=Ž Nq [] [X?] [] (dR [ź 3 [0,1] [12] [Y!] []]) nB
def I0:=ż [Î,Î] [] qW [] (dR [ź 8 [0,1,14] [5,15] Zc [Á]])
def We:cA:=cn I0 lw
def alc:=Ž Nq [] [X?] [] (dR [ź 3 [0,1] [12] [Y!] []]) Ci
def F5:=Ž qW [] qW [] .leaf Rf
def apm:cA:=⟨F5.pre,F5.post,XK⟩
def BS:=Ž qW [] [î] Ld3 (dR [(8,(.a [.nil 2 3 aL])),(12,(.a [.nil 2 3 aL]))]) Lb
def alq:cA:=⟨BS.pre,BS.post,uP⟩
def Wd:=Ž Nq [] qW [] (dR [ź 4 [0,1,5] [6] [Y!] [],ź 6 [0,1,6] [5] [X?] [],ź 16 [] [7] [î] [Á],ź 17 [1] [7,33] [î,Y!] [Á]]) qQ
def Vf:=ż [Î,Î] [] [Y!] [] (dR [ź 6 [0,1] [5] [X?] []])
def ahi:cA:=cn Vf tM
def Yq:=Ž [Ê,X?] [] [X?] [] (dR [ź 3 [1] [2,13] g_ [.C 31 Ld8]]) od
def OG:=Ž [Ê,É] [] [X?,Y!] [] (dR [ź 6 [7] [2,3,8] qG Ld4]) pH
def OE:=Ž [Ê,É] [] [X?,Y!] [] (dR [ź 6 [7] [2,3,8] qG Ld4]) pF
def yq:=ż [á] [] [Y!] [] (dR [ź 6 [0,5] [6] [X?] []])
def Hp:cA:=cn yq lZ
def Dd:=ż [á] [] [Y!] [] (dR [ź 3 [0] [16] [Y!] [],ź 14 [] [18] [Z!] [Ĺ],ź 24 [] [18] [Z!] [Ĺ],ź 25 [3,4] [18,23] g_ [Ĺ],ź 29 [] [18,38] g_ [Ĺ]])
def OA:cA:=cn Dd pC
def MI:=ż Nq [] [X?] [] (dR [ź 6 [0,1,7] [8] [X?] []])
def YZ:cA:=cn MI sZ
def O0:=Ž Nq [] [Y!] [] .leaf lE
def OZ:=Ž [Î,Ý] [] [Y!] [] .leaf kg
def JH:=Ž zX [] [Y!] [] (dR [ź 2 [] [4] [Y!] []]) ul
def JJ:=Ž [Ê,X?,Y!] [] [Y!] [] (dR [ź 2 [] [6] [Y!] []]) um
def uI:=ż [ă] [] [Í,Y!] [] (dR [Ż 8 [0] [4,5] Zc [Ñ] [.nil 4 9 .str],ź 15 [0] [4,5] Zc [Ñ],ź 37 [0,5] [4,6,49] [î,È,Y!] [Ñ,Ł],ź 48 [0,5,51] [4,6,52] [î,È,X?] [Ñ,Ł]])
def C2:cA:=cn uI hY
def uH:=ż [Ê,Í] [] [Y!] [] (dR [ź 10 [17,18] [2,5,19] Wz adq,ź 27 [30,31] [2,5,32] Wz adq,Ż 50 [52] [10,51,53] [.mp 0,ð,X?] [.mp .str .bool,Ñ] [.mpt 10 .str .bool],Ż 62 [12,52,53] [10,51,64] [.mp 0,ð,Y!] [.mp .str .bool,Ñ] [.mpt 10 .str .bool]])
def C1:cA:=cn uH dT
def uG:=ż [Ê] [] [Y!] [] (dR [ź 8 [8,9] [1,3,4,10] (Z!::X?::ŗ) rc,ź 20 [3,4,8,9,10] [1,6,25] qG ť,ź 27 [8,9,10] [1,3,4,6] [Z!,X?,X?,È] ť])
def CZ:cA:=cn uG gd
def uJ:=ż [Ê] [] [Y!] [] (dR [ź 3 [] [1,34] g_ rc,ź 11 [] [1,44] g_ rc,ź 21 [] [1,58] g_ rc,ź 32 [60,61] [1,62] uZ rc])
def C3:cA:=cn uJ gf
def Ds:=ż [Ê] [] [ò] [] (dR [ź 8 [20] [2,3,21] wB Ld7,ź 21 [] [2,3] [Z!,È] Ld7])
def OU:cA:=cn Ds pJ
def wV:=ż [Ê] [] [ß] [] (dR [ź 8 [22,23] [2,3,24] wB [Ĵ,.C 107 (ő++[æ,Þ,â]),.F 2 aa aL,.F 2 aa aL,Á]])
def FU:cA:=cn wV eS
def MX:=Ž zX [] [Y!] [] (dR [ź 2 [] [4] [Y!] []]) fg
def JC:=Ž (Ê::ŗ) [] [Y!] [] (dR [ź 6 [2,7] [3,8] g_ rc,ź 36 [2,7] [3,18] g_ rc,ź 46 [2,7] [3,26] g_ rc,ź 53 [] [6] [Y!] [],ź 56 [2,7] [3,43] g_ rc,ź 71 [] [6] [Y!] [],ź 74 [2,7] [3,61] g_ rc,ź 92 [2,7] [3,71] g_ rc,ź 102 [2] [3,79] g_ rc]) mW
def FM:=ż [Ê,ò] [] [Y!] [] (dR [ź 3 [] [2,31] g_ rc,ź 14 [33,34] [2,35] uZ rc])
def Sc:cA:=cn FM lq
def OR:=Ž (Ê::ò::X?::ŗ) [] [Y!] [] (dR [ź 15 [] [10] [Y!] [],ź 21 [] [10] [Y!] [],ź 24 [2,4,11] [5,6,60] qG Zd,ź 64 [2,4,11] [5,6,109] qG Zd,ź 81 [] [10] [Y!] [],ź 87 [] [10] [Y!] []]) pI
def JD:=Ž (Ê::ò::X?::ŗ) [] [Y!] [] (dR [ź 3 [2,3,4] [5,6,30] qG Zd,ź 25 [] [10] [Y!] [],ź 29 [] [10] [Y!] []]) jG
def Hn:=Ž [Ê,ß] [] [Y!] [] (dR [ź 2 [] [4] [Y!] []]) lW
def Eb:=Ž [Ê,É] [] [Y!] [] (dR [ź 3 [] [2,3,12] qG Ţ,ź 10 [] [4] [Y!] []]) kx
def r7:=ż [Ê,ß,É] [] [Y!] [] (dR [ź 2 [] [4,5,7] qG š,ź 4 [] [4,5,8] Ő Ld2,ź 10 [51] [4,5,8,52] HL Ld2,ź 22 [10,51,52] [4,5,8,64] AK Ld2,ź 34 [51,52,65,66] [4,5,8,11,67] (Ő++ŗ) Ld2,ź 46 [13,51,52,65,66,67] [4,5,8,83] AK Ld2])
def zR:cA:=cn r7 fd
def v7:=ż [ß,É] [] [Y!] [] (dR [ź 21 [] [4] [Y!] [],ź 24 [13] [2,3,46] qG š,ź 43 [53,54] [3,5,6,55] [Z!,X?,Y!,X?] Ld9,ź 51 [53,54,55] [3,5,6] [Z!,X?,Y!] Ld9,ź 54 [5,6,7,53,54,55] [3,69] g_ Ld9,ź 62 [] [4] [Y!] [],ź 74 [94,95] [3,9,96] WE Ld9,ź 82 [94,95,96] [3,9] uZ Ld9,ź 85 [9,94,95,96] [3,109] g_ Ld9])
def Ea:cA:=cn v7 gD
def OQ:=Ž [.d il,X?] [] [Y!] [] (dR [ź 2 [] [4] [Y!] []]) nz
def BT:=Ž [ø] [] [ø] [] .leaf Ld
def alr:cA:=⟨BT.pre,BT.post,Re⟩
def yE:=Ž [ø] [] [î] [Ó] (dR [(8,(.a [.nil 2 4 .bool])),(12,(.a [.nil 2 4 .bool]))]) GP
def ahy:cA:=⟨yE.pre,yE.post,Lc⟩
def BR:=Ž [Õ] [] [Õ] [] .leaf La
def alp:cA:=⟨BR.pre,BR.post,Rd⟩
def yC:=Ž [Õ] [] [î] [Ø] (dR [(8,(.a [.nil 2 178 il])),(12,(.a [.nil 2 178 il]))]) GL
def ahw:cA:=⟨yC.pre,yC.post,K_⟩
def yD:=Ž qW [] [î] [Y?] (dR [(8,(.a [.nil 2 2 aL])),(12,(.a [.nil 2 2 aL]))]) GM
def ahx:cA:=⟨yD.pre,yD.post,Bd⟩
def Dr:=ż [ò] [] [Ğ] Ld1 (dR [ź 8 [11,12] [1,2,3,13] [Z!,È,æ,X?] [ű,ó,Ģ]])
def OT:cA:=cn Dr lD
def BH:=ż (Ğ::ŗ) Ld1 [X?] Ld1 (dR [ź 8 [1,2,12] [3,7,11,13] [Û,X?,æ,X?] Ld0,ź 16 [1,2,12,13] [3,7,11] [Û,X?,æ] Ld0,ź 19 [1,2,7,8,12,13] [3,11,29] [Û,æ,Y!] Ld0,ź 25 [7] [] [] Ld1])
def MY:cA:=cn BH kE
def wY:=ż [Ğ,X?] Ld1 [X?] Ld1 (dR [ź 8 [1,10] [2,5,9,11] [Û,X?,æ,X?] Ld0,ź 16 [1,10,11] [2,5,9] [Û,X?,æ] Ld0])
def FZ:cA:=cn wY gW
def M7:=Ž [X?] [] [Y!] [] .leaf rO
def OY:=Ž zX [] [Y!] [] (dR [ź 2 [] [4] [Y!] []]) xo
def Hw:=Ž [.d (.int .u64)] [] [X?] [] .leaf sX
def M2:=Ž [.d (.int .u64)] [] [X?] [] .leaf vK
def pg:=ż (î::ŗ) Ld3 [] Ld3 (dR [ź 3 [1,2] [0,6] Zc Ld3,ź 15 [1,2,6] [0,7] Zc Ld3,ź 17 [1,2,6,7] [0,30] [î,Y!] Ld3])
def wz:cA:=cn pg fU
def uE:=ż (î::X?::ŗ) Ld3 [] Ld3 (dR [ź 5 [] [0,1,2,3,8,9] [î,X?,X?,X?,Y!,Y!] Ld3])
def CX:cA:=cn uE jO
def acz:=Ž [î] Ld3 [] Ld3 .leaf ya
def FR:=ż [î] Ld3 [î] Ld3 (dR [ź 14 [] [0,3] Zc Ld3])
def Sk:cA:=cn FR mF
def JE:=Ž [X?,Z!] [ų] [Y!] [ų] .leaf pV
def BO:=ż [î,Ę] Ld5 [X?] Ld5 (dR [ź 6 [7] [0,1,8] [î,Ę,X?] Ld5])
def M9:cA:=cn BO oG
def Aw:=ż [î,Ę] Ld5 [æ] [Ă,ų,Á] (dR [ź 16 [] [0,1,5,6] (î::Ę::ŗ) Ld5,ź 24 [6] [0,1,5] [î,Ę,X?] Ld5])
def JL:cA:=cn Aw jH
def oM:=ż (Ê::ò::X?::X?::ŗ) [] [ò,X?,Y!] [] (dR [ź 17 [] [7,12,15] wB [Ŷ,ó,Ģ,Ó,Ø],ź 26 [4,5,15,27] [6,7,8,12,42] BY Ld6,ź 34 [4,5,15,27] [6,7,8,12,51] BY Ld6])
def M1:cA:=cn oM gX
def MZ:=Ž [ò] [] [.agg [.qy 0 2 3,X?,ø,Õ]] (.C 98 [X?,ð,X?,æ,X?,Þ]::Ť) (dR [Ż 7 [] [1,2,3] [Z!,È,.qy 2 2 3] (ű::ó::.C 98 [X?,Þ,X?,â,X?,ö]::Ť) [.qd 3 1 3 aL,.qd 3 3 3 aL,.qd 3 5 3 aL],(8,(.u 4))]) oF
def M0:=Ž (Ê::ò::X?::X?::ŗ) [] [ò,X?,Y!] [] (dR [ź 17 [] [7,12,15] wB [.C 61 [.qy 2 2 3,X?,ø,Õ],ó,.C 98 [.d dQ,.d dQ,X?,Þ],.qf 3 aL],ź 26 [4,5,15,27] [6,7,8,12,42] BY (Š++.C 98 [X?,ö,X?,ã,X?,ä]::Ť),(33,(.s 4 0 0 0)),ź 34 [4,5,15,27] [6,7,8,12,51] BY (Š++[.C 98 [X?,Î,X?,Î,X?,ö],Ã]),(41,(.s 4 0 0 0)),(46,(.s 4 0 0 3)),(53,(.s 4 0 0 3)),(74,(.s 4 0 0 0)),(80,(.s 4 0 0 0)),(100,(.a [.pk 7 0 dQ]))]) l9
def OV:cA:=cn oM td
def Ho:=Ž [Ê,ß,É] [] [ß,Y!] [] (dR [ź 3 [] [3,4,5,6,39] BY Nu,ź 11 [] [3,4,5,6,70] BY Nu,ź 20 [] [3,4,5,6,8] (Ő++[Û,X?]) Nu,ź 41 [] [5,6,12] Ő aqk]) kq
def sF:=ż [.nr 0 1,.d iC] [ç] [Y!] [ç] (dR [ź 6 [13] [0,14] [.nr 0 1,.d aL] [ç],ź 20 [13,14,17,18] [0,19] [.nr 0 1,.d aL] [ç],ź 31 [13,14,17,18,19] [0,37] [.nr 0 1,.d .bool] [ç]])
def AG:cA:=cn sF eu
def wW:=ż [ì] [] zX [] (dR [ź 26 [27,28] [1,4,5,29] [Z!,È,æ,X?] (Ŝ++[.I (.rr 58 1) 3,ç]),ź 40 [6,27,28,29] [1,4,5,7,8,53] [Z!,È,æ,Û,ï,Y!] (Ŝ++[.I (.rr 58 1) 5,ũ,Ŭ,ç]),Ż 47 [27,28,29] [1,4,5,8] [Z!,È,æ,Û] (Ŝ++[.I (.rr 58 1) 4,Ŭ,ç]) [.jb 5 0]])
def FW:cA:=cn wW gh
def PN:aK Pg 59 acy:=mk _ _ an b9
def TU x:mP (lw x) (Bb x):=by
 unfold lw Bb wU ck bM bX be cQ aG cN;with_reducible repeat' first|apply OI.o;constructor|intro _
def Bm:aK Pg 91 We:=CE I0 lw Bb TU (ac PN an) b9
def Z5:aK Pg 39 alc:=mk _ _ an b9
def aku:aK Pg 89 F5:=mk _ _ an b9
def apa:aK Pg 89 apm:= @aK.sub Pg 89 F5.pre F5.post Rf XK aku rfl (λx y h=>s8 (b:=8) x y h)
def agy:aK Pg 89 BS:=mk _ _ an b9
def Z7:aK Pg 89 alq:= @aK.sub Pg 89 BS.pre BS.post Lb uP agy rfl (λx y h=>s8 (b:=8) x y h)
def UN:aK Pg 97 Wd:=mk _ _ an b9
def aft x:mP (tM x) (K4 x):=by
 unfold tM K4 Fi bM be cQ aG cN;with_reducible repeat' first|apply OI.o;constructor|intro _
def agt:aK Pg 17 ahi:=CE Vf tM K4 aft (ac Z5 an) b9
def Lx:aK Pg 61 Yq:=mk _ _ an b9
def N':aK Pg 41 OG:=mk _ _ (ac Lx an) b9
def N9:aK Pg 42 OE:=mk _ _ (ac Lx an) b9
def GG x:mP (lZ x) (sO x):=by
 unfold lZ sO s6 lz mh mg B7 Prod.t Prod.u Prod.C Prod.D Prod.H Prod.I aW Prod.K bm bF cG ep jW mr nJ Prod.L bM bX cQ aG cN;with_reducible repeat' first|apply OI.o;constructor|intro _
def G2:aK Pg 160 Hp:=CE yq lZ sO GG an b9
def NT x:mP (pC x) (xk x):=by
 unfold pC xk xr bi bM j_ be cQ aG;with_reducible repeat' first|apply OI.o;constructor|intro _
def N6:aK Pg 126 OA:=CE Dd pC xk NT (ac G2 an) b9
def XD x:mP (sZ x) (DW x):=by
 unfold sZ DW zH bi bM bQ be cQ aG cN;with_reducible repeat' first|apply OI.o;constructor|intro _
def Yf:aK Pg 192 YZ:=CE MI sZ DW XD an b9
def Ow:aK Pg 161 O0:=mk _ _ (ac Yf an) b9
def Db:aK Pg 26 OZ:=mk _ _ (ac PN an) b9
def Jr:aK Pg 127 JH:=mk _ _ an b9
def Js:aK Pg 79 JJ:=mk _ _ (ac Jr an) b9
def CA x:mP (hY x) (pm x):=by
 unfold hY pm pt aW bm bF cG dE ip bi bM iE bX bQ be cQ aG cN;with_reducible repeat' first|apply OI.o;constructor|intro _
def CO:aK Pg 77 C2:=CE uI hY pm CA an b9
def Cz x:mP (dT x) (pl x):=by
 unfold dT pl pq aW bm bF bM bX bQ jY be cQ aG cN;with_reducible repeat' first|apply OI.o;constructor|intro _
def CM:aK Pg 78 C1:=CE uH dT pl Cz (ac N6 an) b9
def Cy x:mP (gd x) (pj x):=by
 unfold gd pj lQ aW bm cG dk bM iE bQ be cQ aG cN;with_reducible repeat' first|apply OI.o;constructor|intro _
def CL:aK Pg 80 CZ:=CE uG gd pj Cy an b9
def CC x:mP (gf x) (pn x):=by
 unfold gf pn lR aW bm cG dk bM bQ be cQ aG cN;with_reducible repeat' first|apply OI.o;constructor|intro _
def CP:aK Pg 53 C3:=CE uJ gf pn CC (ac CO (ac CM (ac Js (ac CL an)))) b9
def NY x:mP (pJ x) (xm x):=by
 unfold pJ xm xt aW bm bF cg dE dk ck bM bX be cQ aG cN;with_reducible repeat' first|apply OI.o;constructor|intro _
def On:aK Pg 81 OU:=CE Ds pJ xm NY an b9
def EO x:mP (eS x) (rA x):=by
 unfold eS rA rR aW bm bF dE bM bX bQ be cQ aG cN;with_reducible repeat' first|apply OI.o;constructor|intro _
def E7:aK Pg 54 FU:=CE wV eS rA EO (ac On an) b9
def vR:aK Pg 129 MX:=mk _ _ an b9
def Jp:aK Pg 130 JC:=mk _ _ (ac vR an) b9
def Q2 x:mP (lq x) (y_ x):=by
 unfold lq y_ uT aW bm bF dE bM iE bQ be cQ aG cN;with_reducible repeat' first|apply OI.o;constructor|intro _
def Fd:aK Pg 128 Sc:=CE FM lq y_ Q2 (ac vR an) b9
def Ol:aK Pg 131 OR:=mk _ _ (ac Ow an) b9
def uo:aK Pg 83 JD:=mk _ _ (ac Fd (ac vR (ac Jp (ac Ol an)))) b9
def G0:aK Pg 82 Hn:=mk _ _ (ac Fd an) b9
def D6:aK Pg 84 Eb:=mk _ _ an b9
def yY x:mP (fd x) (mB x):=by
 unfold fd mB j7 aW bm bF cG cg dE ip bi bM j_ bX bQ be cQ aG cN;with_reducible repeat' first|apply OI.o;constructor|intro _
def zC:aK Pg 85 zR:=CE r7 fd mB yY an b9
def DQ x:mP (gD x) (qe x):=by
 unfold gD qe mI aW bm bF cG cg bi bM bQ be cQ aG cN;with_reducible repeat' first|apply OI.o;constructor|intro _
def D5:aK Pg 86 Ea:=CE v7 gD qe DQ an b9
def Da:aK Pg 167 OQ:=mk _ _ an b9
def ah1:aK Pg 162 BT:=mk _ _ an b9
def akt:aK Pg 162 alr:= @aK.sub Pg 162 BT.pre BT.post Ld Re ah1 rfl (λx y h=>s8 (b:=1) x y h)
def ac1:aK Pg 162 yE:=mk _ _ an b9
def ah0:aK Pg 162 ahy:= @aK.sub Pg 162 yE.pre yE.post GP Lc ac1 rfl (λx y h=>s8 (b:=1) x y h)
def agx:aK Pg 163 BR:=mk _ _ an b9
def aks:aK Pg 163 alp:= @aK.sub Pg 163 BR.pre BR.post La Rd agx rfl (λx y h=>s8 (b:=24) x y h)
def abz:aK Pg 163 yC:=mk _ _ an b9
def agw:aK Pg 163 ahw:= @aK.sub Pg 163 yC.pre yC.post GL K_ abz rfl (λx y h=>s8 (b:=24) x y h)
def ac0:aK Pg 88 yD:=mk _ _ an b9
def agz:aK Pg 88 ahx:= @aK.sub Pg 88 yD.pre yD.post GM Bd ac0 rfl (λx y h=>s8 (b:=8) x y h)
def NX x:mP (lD x) (xl x):=by
 unfold lD xl tB aW cg ck bM bX bQ be cQ cN;with_reducible repeat' first|apply OI.o;constructor|intro _
def Om:aK Pg 132 OT:=CE Dr lD xl NX (ac apa (ac ah0 (ac agw an))) b9
def KV x:mP (kE x) (vA x):=by
 unfold kE vA rW aW bm cg ck bM j_ jY be cQ aG cN;with_reducible repeat' first|apply OI.o;constructor|intro _
def LH:aK Pg 137 MY:=CE BH kE vA KV (ac Da an) b9
def ES x:mP (gW x) (rD x):=by
 unfold gW rD nP aW bm cg dE ck bM jY be cQ aG cN;with_reducible repeat' first|apply OI.o;constructor|intro _
def Fc:aK Pg 138 FZ:=CE wY gW rD ES (ac Da an) b9
def LO:aK Pg 220 M7:=mk _ _ an b9
def Ov:aK Pg 199 OY:=mk _ _ (ac LO an) b9
def G9:aK Pg 203 Hw:=mk _ _ an b9
def LL:aK Pg 165 M2:=mk _ _ (ac G9 an) b9
def wq x:mP (fU x) (kU x):=by
 unfold fU kU kV ck bM jY cQ aG cN;with_reducible repeat' first|apply OI.o;constructor|intro _
def wv:aK Pg 193 wz:=CE pg fU kU wq (ac Ov an) b9
def Cx x:mP (jO x) (ph x):=by
 unfold jO ph po aW bm bi j_ bX aG;with_reducible repeat' first|apply OI.o;constructor|intro _
def CK:aK Pg 164 CX:=CE uE jO ph Cx (ac wv an) b9
def aby:aK Pg 133 acz:=mk _ _ (ac CK (ac LL an)) b9
def Q6 x:mP (mF x) (za x):=by
 unfold mF za zI bi bM bX jY be cQ aG cN;with_reducible repeat' first|apply OI.o;constructor|intro _
def RD:aK Pg 134 Sk:=CE FR mF za Q6 an b9
def Af:aK Pg 136 JE:=mk _ _ an b9
def K0 x:mP (oG x) (vC x):=by
 unfold oG vC vW bM jY be cQ aG cN;with_reducible repeat' first|apply OI.o;constructor|intro _
def LP:aK Pg 166 M9:=CE BO oG vC K0 (ac Af an) b9
def Jf x:mP (jH x) (uj x):=by
 unfold jH uj uq ck bi bM bX jY be cQ aG cN;with_reducible repeat' first|apply OI.o;constructor|intro _
def Jt:aK Pg 135 JL:=CE Aw jH uj Jf (ac Af (ac LP an)) b9
def LK:aK Pg 87 M1:=mk oM gX (ac uo (ac Om (ac LH (ac Fc an)))) b9
def tv2 (t:TypeId):M Ty:=if ay t 98 then Z (.pr .un (.pr .un (.pr .un (.pr .un dQ)))) else b9 t
def LI:aK Pg 132 MZ:=mk _ _ (ac Z7 (ac akt (ac aks an))) tv2
def LJ:aK Pg 87 M0:=mk _ _ (ac uo (ac LI (ac aby (ac RD (ac Jt an))))) tv2
def Oq:aK Pg 87 OV:=(aK.orE (pre:=oM.pre) (post:=oM.post) (m:=gX) (m':=l9) rfl LK LJ)
def G1:aK Pg 55 Ho:=mk _ _ (ac G0 (ac uo (ac D6 (ac zC (ac D5 (ac Oq (ac agz (ac Z7 an)))))))) b9
def AB x:mP (eu x) (nG x):=by
 unfold eu nG kO ep wE bM j_ nh bX bQ be cQ aG cN;with_reducible repeat' first|apply OI.o;constructor|intro _
def AC:aK Pg 56 AG:=CE sF eu nG AB an b9
def tv3 (t:TypeId):M Ty:=if ay t 58 then Z (.pr .bool (.pr (.st (.st (.st (.st .un)))) ub)) else b9 t
def EP x:mP (gh x) (rB x):=by
 unfold gh rB nM aW bm bF cG dE ip ck bi bM nh bX bQ be cQ aG cN;with_reducible repeat' first|apply OI.o;constructor|intro _
def wQ:aK Pg 23 FW:=CE wW gh rB EP (ac CP (ac E7 (ac G1 (ac2 3932225592 rfl AC an)))) tv3
abbrev au9:Y PV:=[ì,æ,Þ,â,ö,ã,ä,Ĕ,Ļ,.mp 10,å]
def œ:Y PB:=[.C 72 [È],.C 81 au9,Z?,í,Á,Á,Á,Á,è,Đ,.I .qh 12,.I (.qc 166) 12,Ô,Ç,Ç]
abbrev Le0:Y PB:=(œ++[ŉ,.C 4 [Y!]])
abbrev Le1:Y PB:=(œ++[ũ,ŉ])
abbrev Le5:Y PV:=[ì,ð,æ,Þ,â,ö,ã,ä,Ĕ,.mp 9,Ė]
def ģ:PB:=.C 81 Le5
def Ŧ:Y PB:=[ģ,Z?,í,Á,Á,Á,Á]
def Ŏ:Y PB:=(Ŧ++[ù,è,ı,Ċ,Ô,Ç])
abbrev Le2:Y PB:=(Ŏ++[Ç,.C 72 [Z!],ũ,ŉ])
abbrev Le3:Y PB:=(Ŏ++[Ç])
abbrev Le4:Y PB:=[Ų,.C 81 [ì,â,ö,ã,ä,Ĕ,Ļ,Ė,å,.mp 12,.G 13],.F 83 J fI,ũ,Z?,í,Á,Á,Á,Á,Đ,ĳ,.I .qh 16,.I (.qc 166) 16,Ç,Ç,Ô]
abbrev Le7:Y PB:=[Ų,Ń,Ń]
abbrev Le8:Y PB:=[Ų,.C 81 [ì,Þ,â,ö,ã,ä,Ĕ,Ļ,Ė,.mp 11,ĥ],.F 83 J fI,Z?,í,Á,Á,Á,Á,è,Đ,.I .qh 15,.I (.qc 166) 15,Ç,Ç,Ô]
abbrev aub:Y PB:=(Ŏ++[Ç,ũ])
abbrev aua:Y PB:=(Ŧ++[Đ,ĳ,ı,Ċ,Ô,Ă,Ă,Ç,Ç])
abbrev adn:Y PB:=[Ũ,ű,ŀ]
abbrev adm:Y PB:=[Ũ,ŀ,ũ]
abbrev aqi:Y PB:=[Ų]
abbrev aio:Y PV:=[Z!,È,æ]
abbrev aqh:Y PV:=[Z!,È,æ,Û,Y!]
abbrev aqg:Y PB:=[Ų,Ń]
abbrev Le24:Y PB:=[ó,.C 61 [æ,X?,Ú,Ú],Ü]
abbrev aqf:Y PV:=[Z!,È,æ,X?]
abbrev au8:Y PV:=[Z!,ð,Ï,X?]
abbrev au7:Y PV:=[į,X?]
def Mi:=ż [X?] [] [î] [Á] (dR [ź 8 [8] [3,9] Zc [Á]])
def Yo:cA:=cn Mi lB
def RN:=Ž [É] [] [Y!] [] (dR [ź 2 [] [2] [Y!] []]) mD
def MN:=Ž [Ê,É] [] [X?] [] (dR [ź 6 [6] [2,3,7] qG Ţ]) lY
def MJ:=Ž [Ê,É] [] [X?] [] (dR [ź 6 [6] [2,3,7] qG Ţ]) lX
def BP:=Ž [Z!,É] Le3 qW Le3 (dR [ź 7 [] [5] [.G 14] (Ŏ++[Ç,Á])]) iU
def CU:=Ž [.ob 0 0,É] [Ô] [] [Ô] .leaf jL
def v9:=ż [Z!,X?,É] Le3 [] aua (dR [Ż 6 [] [] [] aua [.jb 0 13,.jb 0 14],ź 39 [1,105] [0,5,104,106] [Z!,Ĥ,ã,X?] aub,ź 47 [1,105,106] [0,5,104] [Z!,Ĥ,ã] aub])
def Ec:cA:=cn v9 gE
def AH:=Ž [Z!,X?,É] Le3 [] [.C 81 [ì,ð,æ,Þ,â,ö,ã,ä,Ĕ,.mp 9,.G 14],Z?,í,Á,Á,Á,Á,ù,è,.I .qh 15,Ă,Ă,Ç,Ç,.I (.qc 166) 15,Ô] (dR [(60000,(.a [.qx 0 16,.jb 0 15]))]) iB
def CW:=Ž [ú,ğ,ē,Z!] Le1 [] Le1 (dR [ź 0 [] [0,2,3,25] [ú,ē,Z!,Y!] Le1]) jN
def CV:=Ž [ú,ğ,Z!,ē] Le0 [] Le0 (dR [ź 0 [] [0,1,2,3,31] [ú,ğ,Z!,ē,Y!] Le0]) jM
def BA:=ż [ú,û,Z!] Le1 [] Le1 (dR [ź 3 [11] [0,1,10,12] [ú,û,å,X?] Le1,ź 11 [11,12] [0,1,10] [ú,û,å] Le1,ź 14 [11,12] [0,1,6,10,59] [ú,û,ú,å,Y!] Le1])
def MM:cA:=cn BA kz
def Bz:=ż [ú,ü,Z!] Le0 [] Le0 (dR [ź 3 [11] [0,1,10,12] [ú,ü,å,X?] Le0,ź 11 [11,12] [0,1,10] [ú,ü,å] Le0,ź 14 [11,12] [0,1,6,10,59] [ú,ü,ú,å,Y!] Le0])
def ML:cA:=cn Bz ky
def wX:=ż [Z!,X?,É] Le3 [] [.C 81 [ì,.G 14,.G 15,Þ,â,ö,ã,ä,Ĕ,.mp 9,.G 16],Ă,Ă,Á,Á,Á,Á,.I (.rr 50 1) 18,.I (.rr 50 1) 19,.I .qh 17,Ă,Ă,Ă,Ă,Z?,í,.I (.qc 166) 17,Ô,Ç,Ç] (dR [ź 8 [1,24,25] [3,5,6,26] [Ĥ,ğ,ē,X?] Le2,ź 16 [1,24,25,26] [3,5,6] [Ĥ,ğ,ē] Le2,ź 27 [1] [3,5,6,9] [Ĥ,ğ,ē,ĩ] Le2,ź 34 [1,52] [3,5,6,9,53] [Ĥ,ğ,ē,ĩ,X?] Le2,ź 42 [1,52,53] [3,5,6,9] [Ĥ,ğ,ē,ĩ] Le2,ź 58 [1] [3,5,6] [Ĥ,ğ,ē] Le2,ź 67 [1] [3,5,6,9,12,13] [Ĥ,ğ,ē,ĩ,.ob 11 0,.H 17 0] (Ŏ++[Ç,.C 72 [Z!],ũ,ŉ,.C 4 [Y!]])])
def FX:cA:=cn wX gi
def Fs:=ż [ì] [] [Z!] Le3 (dR [Ż 10 [34,35] [4,36] uZ (Ŧ++[.I (.rr 50 1) 11,ù,.I .qh 13,.I (.qc 166) 13,Ç,Ç,Ô]) [.fmp 4 15 170 lL,.frw 4 16 15 166,.qd 4 7 50 (.sl aL),.qd 4 8 52 fI]])
def RM:cA:=cn Fs lh
def RO:=Ž [ì] [] [ĭ,X?] [] .leaf rE
def Ii:=ż [ì] [] [ĸ,X?] [] (dR [Ż 20 [23,24] [1,6,7,25] aqf Le8 [.nil 7 83 fI],ź 28 [23,24,25] [1,6,7] aio Le8,ź 32 [8,23,24,25] [1,6,7,9,42] aqh Le4,ź 40 [8,23,24,25,46,47] [1,6,7,9,48] [Z!,È,æ,Û,X?] Le4,ź 48 [8,23,24,25,46,47,48] [1,6,7,9] [Z!,È,æ,Û] Le4,ź 52 [8,10,23,24,25,46,47,48] [1,6,7,9,11,69] [Z!,È,æ,Û,ï,Y!] [Ų,.C 81 [ì,ö,ã,ä,Ĕ,Ļ,Ė,å,ĥ,.mp 13,.G 14],.F 83 J fI,ũ,ũ,Z?,í,Á,Á,Á,Á,ĳ,.I (.rr 50 1) 16,.I .qh 17,.I (.qc 166) 17,Ç,Ç,Ô],ź 57 [8,10,23,24,25,46,47,48] [1,6,7,9,12] aqh Le4,ź 59 [8,10,23,24,25,46,47,48] [1,6,7,9,96] aqh Le4])
def Vo:cA:=cn Ii qL
def aac:=ż [] [] [Ê] [] (dR [Ż 8 [21] [0,1,22] wB amj [.qd 1 5 134 pO],ź 22 [2,21,22] [0,1,3] wB amj])
def alo:cA:=cn aac EW
def JG:=Ž [Y!] [] [ì] [] (dR [ź 4 [] [2,3] uZ [ņ]]) pW
def Sh:=Ž [] [] [Y!] [] (dR [ź 6 [] [0] [Y!] []]) uO
def BL:=ż [Ê] [] [ò] [] (dR [Ż 8 [7] [2,3,8] wB Le24 [.qd 3 0 98 dQ]])
def M3:cA:=cn BL kF
def Vt:=Ž [É] [] [Y!] [] (dR [ź 2 [] [2] [Y!] []]) qM
def OF:=Ž [É,É] [] [Y!] [] (dR [ź 2 [] [4] [Y!] []]) pG
def Vr:=Ž au7 [] [X?] [] (dR [ź 8 [0,1] [5,6] zX [],ź 16 [0,1,6] [5] [X?] []]) tL
def Vs:=Ž [Î,Ý] [] [Y!] [] .leaf tN
def RZ:=Ž au7 [] [Ý] [] .leaf rI
def OD:=Ž [Ê,ò,į,X?] [] [.d (.sl Xb)] [] (dR [Ż 8 [2,3,22] [4,5,9,23] aqf adn [.nil 9 64 Xb],ź 16 [2,3,22,23] [4,5,9] aio adn,ź 23 [2,3,22,23] [4,5,9] aio adn,ź 31 [2,3,10,22,23] [4,5,9] aio adn,ź 40 [2,3,10,22,23,58,59] [4,5,9,60] aqf adn,ź 48 [2,3,10,22,23,58,59,60] [4,5,9] aio adn,ź 62 [3,74,75] [4,9,76] Wz [Ũ,ŀ],ź 70 [3,74,75,76] [4,9] [Z!,ð] [Ũ,ŀ],ź 77 [3,13,16,74,75,76] [4,9,14,15,17] (Z!::ð::Ï::ŗ) adm,ź 83 [3,13,16,17,74,75,76] [4,9,14,15] au8 adm,ź 95 [3,13,15,16,74,75,76] [4,9,14] [Z!,ð,Ï] adm,ź 102 [3,13,15,16,74,75,76,110] [4,9,14,111] au8 adm,ź 110 [3,13,15,16,74,75,76,110,111] [4,9,14] [Z!,ð,Ï] adm,ź 113 [3,13,15,16,19,74,75,76,110,111] [4,9,14,129] [Z!,ð,Ï,Y!] adm]) pE
def CY:=Ž [.d Ke2] [] [Y!] [] (dR [ź 7 [4] [3,31] g_ aqi,ź 18 [4,35] [3,36] uZ aqi,ź 34 [4,7,35,36,48,49] [3,50] uZ aqi,ź 48 [4,7,35,36,48,49,50,54,55] [3,9,56] wB aqg,ź 56 [4,7,35,36,48,49,50,54,55,56] [3,9] [Z!,È] aqg,ź 60 [4,7,35,36,48,49,50,54,55,56] [3,9,11,84] AK Le7,ź 71 [4,7,35,36,48,49,50,54,55,56] [3,9,11,12,13] (Ő++[Y!,X?]) Le7,ź 73 [4,7,12,13,35,36,48,49,50,54,55,56] [3,9,11,102] AK Le7,ź 79 [4,7,13,35,36,48,49,50,54,55,56] [3,9,11,12] AK Le7,ź 89 [4,7,13,35,36,48,49,50,54,55,56] [3,9,11,12,14] (Ő++[Y!,X?]) Le7,ź 97 [4,7,13,14,35,36,48,49,50,54,55,56] [3,9,11,12] AK Le7,ź 104 [4,7,13,14,35,36,48,49,50,54,55,56] [3,9,11,12] AK Le7,ź 106 [4,7,12,13,14,35,36,48,49,50,54,55,56] [3,9,11,166] AK Le7,ź 115 [4,7,35,36,48,49,50,54,55,56] [3,9,186] qG aqg]) jP
def Xz x:mP (lB x) (DU x):=by
 unfold lB DU zE ck bM bX cQ aG cN;with_reducible repeat' first|apply OI.o;constructor|intro _
def XV:aK Pg 57 Yo:=CE Mi lB DU Xz an b9
def E_:aK Pg 25 RN:=mk _ _ an b9
def Lv:aK Pg 139 MN:=mk _ _ an b9
def Bj:aK Pg 95 MJ:=mk _ _ an b9
def Bk:aK Pg 90 BP:=mk _ _ an b9
def CG:aK Pg 94 CU:=mk _ _ an b9
def DR x:mP (gE x) (qi x):=by
 unfold gE qi mJ lz mh mg B7 Prod.t Prod.D aW bm bF cG ep jW mr nJ Prod.r dk ip En ck bi bM j_ nh bX jY be cQ aG cN;with_reducible repeat' first|apply OI.o;constructor|intro _
def D7:aK Pg 99 Ec:=CE v9 gE qi DR an b9
def tv4 (t:TypeId):M Ty:=if ay t 166 then Z (.pr .un .un) else b9 t
def AD:aK Pg 98 AH:=mk _ _ (ac Bj (ac Lv an)) tv4
def CJ:aK Pg 93 CW:=mk _ _ (ac Bm an) b9
def CH:aK Pg 96 CV:=mk _ _ (ac Db (ac Bm an)) b9
def KN x:mP (kz x) (vz x):=by
 unfold kz vz rT lz mh mg aW bm bF cG ep jW mr nJ ck bi bM iE nh bX be cQ aG cN;with_reducible repeat' first|apply OI.o;constructor|intro _
def Lu:aK Pg 92 MM:=CE BA kz vz KN (ac CJ an) b9
def KM x:mP (ky x) (vy x):=by
 unfold ky vy rS lz mh mg aW bm bF cG ep jW mr nJ ck bi bM iE nh bX be cQ aG cN;with_reducible repeat' first|apply OI.o;constructor|intro _
def Lt:aK Pg 92 ML:=CE Bz ky vy KM (ac CH an) b9
def EQ x:mP (gi x) (rC x):=by
 unfold gi rC nN lz mh mg B7 Prod.t Prod.u Prod.C aW bm bF cG ep jW mr nJ Prod.w Prod.y Prod.z Prod.r Prod.F Prod.E Prod.G bM j_ bX bQ jY be cQ aG cN;with_reducible repeat' first|apply OI.o;constructor|intro _
def E9:aK Pg 58 FX:=CE wX gi rC EQ (ac E_ (ac Bk (ac Bm (ac CG (ac Bj (ac UN (ac AD (ac D7 (ac2 6160476 rfl Lu (ac2 6357084 rfl Lt an)))))))))) b9
def tv5 (t:TypeId):M Ty:=if ay t 50 then Z (.pr .bool (.pr (.st (.st (.st .un))) (.sl aL))) else b9 t
def Q1 x:mP (lh x) (yZ x):=by
 unfold lh yZ uS lz mh mg B7 aW bm bF cG ep jW mr nJ Prod.z Prod.r bM bX bQ be cQ aG cN;with_reducible repeat' first|apply OI.o;constructor|intro _
def E8:aK Pg 24 RM:=CE Fs lh yZ Q1 (ac XV (ac E9 an)) tv5
def Rn:aK Pg 13 RO:=mk _ _ (ac wQ (ac E8 an)) b9
def TK x:mP (qL x) (Ba x):=by
 unfold qL Ba Bn lz mh mg aW bm bF cG ep jW mr nJ Prod.z dE dk ip bi bM iE bX bQ jY be cQ aG cN;with_reducible repeat' first|apply OI.o;constructor|intro _
def Ug:aK Pg 8 Vo:=CE Ii qL Ba TK (ac wQ (ac E8 (ac E_ (ac Db an)))) b9
def ak6 x:mP (EW x) (Ra x):=by
 unfold EW Ra RH aW bm bF cG ip bM bX cQ aG cN;with_reducible repeat' first|apply OI.o;constructor|intro _
def akr:aK Pg 44 alo:=CE aac EW Ra ak6 an b9
def Jq:aK Pg 37 JG:=mk _ _ (ac akr an) b9
def RC:aK Pg 12 Sh:=mk _ _ (ac Ug (ac Jq an)) b9
def KW x:mP (kF x) (vB x):=by
 unfold kF vB rX aW cg bM bX be cQ aG cN;with_reducible repeat' first|apply OI.o;constructor|intro _
def LN:aK Pg 19 M3:=CE BL kF vB KW an b9
def Ul:aK Pg 43 Vt:=mk _ _ an b9
def N_:aK Pg 20 OF:=mk _ _ (ac Ul an) b9
def Uj:aK Pg 40 Vr:=mk _ _ an b9
def Uk:aK Pg 15 Vs:=mk _ _ (ac Z5 an) b9
def Rt:aK Pg 16 RZ:=mk _ _ (ac Uj an) b9
def N8:aK Pg 18 OD:=mk _ _ (ac N' (ac N9 an)) b9
def hlaw26_WeakSections:aK Pg 6 CY:=mk _ _ (ac G3 (ac RC (ac Rn (ac Uk (ac Rt (ac agt (ac N8 (ac LN (ac N_ an))))))))) b9
variable {P:Program} {f:FuncId}
def run_law {pre:Tm} {m:pre.ty.den->M (Tm.ty ⟨[.d .bool],[]⟩).den} (sp:qX P f ⟨pre,⟨[.d .bool],[]⟩,m⟩) (h0:l! pre.bs=0) {x:pre.ty.den} (hx:m x=Z J) {vs:Y TV} {hp:aX} (hi:C_ pre x=Z (vs,hp)) {la:Y AV} (hla:cI hp vs=Z la)
 {W:World} (hg:∀g cells,G g=Z cells->mO (λ_=>False) W (.H cells 0) (.pointer (Z ⟨g,0,U⟩))) (hrel:lH (λ_=>U) (λ_=>False) W la N):
 Calls P f N.toArray W λe w'=>e= .returned (.bool J)/\Below W.heap.size W w':=by
 let⟨z,I⟩:=yg hi;let⟨L,y⟩:=yg (t:=⟨[.d .bool],[]⟩) (x:=J) (vs:=[.f .bool J]) (h1:=PT.leaf) rfl;have D:erHF hp=λ_=>U:=by
  funext n;cases hb:erHF hp n with
  |none=>rfl
  |some b=>
   let⟨c,h1,_⟩:=iK hb;have:=I.lt_len h1;omega
 have own0:∀(φ:PM) k,¬own φ (erHF hp) k:=by rintro φ k ⟨i,b,h1,_⟩;rw[D]at h1;cases h1
 have htot:tot (λ_=>False) (λ_=>U) (erHF hp)=λ_=>False:=by
  funext k;exact propext ⟨λh=>h.elim id λh=>b8 h (own0 _ k),λh=>h.elim⟩
 refine Calls.mono (sp.calls x J hx vs hp z _ PT.leaf L la _ I y hla rfl (λ_=>U) (λ_=>False) W N ⟨(λi j b b' k h1=>by rw[D]at h1;cases h1),(λi b h1=>by rw[D]at h1;cases h1),(λk h=>h.elim),(λg cells h=>by rw[htot];exact hg g cells h)⟩ (by rw[htot];exact hrel) (λn k h=>by cases h)) ?_;rintro en w' ⟨v,φ',rfl,he,_,_,_,A⟩;refine ⟨?_,⟨he.os,he.tape,he.output,he.size,λk hk=>he.jf k hk (own0 _ k)⟩⟩;have A:co φ' _ w' (.f (.raw (.bool J))) v:=A;cases A with
 |f h=>cases h;rfl
def gKw:Tryz.prog.globalNamed "interleave/token.keywords" =Z 0:=by kernel_rfl
def tKw:(Tryz.prog.globals[0]?).map (·.type)=Z 278:=by kernel_rfl
def kw_of_laid {W:World} (h:laidMetH Tryz.prog [("interleave/token.keywords",Rows.laid_interleave_token_keywords)] W):∀g cells,G g=Z cells→mO (λ_=>False) W (.H cells 0) (.pointer (Z ⟨g,0,U⟩)):=by
 intro g cells hG;unfold G at hG;split at hG
 .rename_i hg;have hg:=eq_of_beq hg;subst hg;cases hG;rw[MakeChecks.laidMetH_plain _ _ _ (by kernel_rfl)]at h;let⟨ps,⟨g0,t0,cs0,f0,p0,q0,N,ht0,hv0,hd0,_,_⟩,_,_⟩:=h;obtain rfl:=fG (gKw.symm.trans N);obtain rfl:=fG (tKw.symm.trans ht0);obtain⟨xs,m1,rfl,D,hlen,hn,hel⟩:=DataW.trod_array Tryz.underlying278 hd0;have c1:Tryz.prog.cellsOf 9=1:=by kernel_rfl
  have c22:Tryz.prog.cellsOf 278=22:=by kernel_rfl
  rw[c22]at hlen;simp only[aP,Rows.laid_interleave_token_keywords,DataW.agg.injEq]at D;have hxs:=D.1;have hcell:∀j,j<22→∃l,(xs.map (·.1))[j]? =Z (.lit (.string l))∧W.cell? ⟨0,j,U⟩=Z (.string ⟨l.toArray⟩):=λj L=>by
   have h1:=hel j L;rw[c1,Gi]at h1;rw[aE (by omega)]at h1;let⟨s,e1,e2,_⟩:=DataW.trod_string Tryz.underlying9 h1;refine ⟨s.data.toList,?_,?_⟩
   .rw[bz,aE (by omega),bn,e2]
   .have:=World.var?_cell N hv0 j;rw[this];have z:cs0.toList[j]? =Z (.string s):=by
     have:((cs0.toList.drop j).take 1)[0]? =Z (.string s):=by rw[e1];rfl
     rw[eL,aD (by omega),oO]at this;simpa using this
    rw[← cU,z]
  have hb:0<W.heap.size:=by
   let⟨l,_,z⟩:=hcell 0 (by omega);exact World.block_lt_of_cell? W _ z
  refine .H EY 0 0 0 (λj=>(W.cell? ⟨0,j,U⟩).getD undef) (λh=>h) hb (λx A=>?_) (λj L=>?_) (λj x A=>?_)
  .simp only[EY,aZ,cw,fF]at A;rcases A with rfl|rfl|rfl|rfl|rfl|rfl|rfl|rfl|rfl|rfl|rfl|rfl|rfl|rfl|rfl|rfl|rfl|rfl|rfl|rfl|rfl|rfl<;>rfl
  .obtain⟨l,_,z⟩:=hcell j L;rw[bT,z];rfl
  .have L:j<22:=(bB.1 A).1;let⟨l,h1,z⟩:=hcell j L;rw[← hxs]at h1;have:x= .raw (.string ⟨l.toArray⟩):=by
    rcases j with _|_|_|_|_|_|_|_|_|_|_|_|_|_|_|_|_|_|_|_|_|_|j;all_goals first|(simp only[fJ,ms,af,DataW.lit.injEq,Lit.string.injEq,EY]at h1 A;subst h1 A;rfl)|omega
   rw[this,z];exact .raw _
 .cases hG
end
end Go.Proofs.YtcmnmakaoonfgaaGreatDoor.AI
