/-
  Texts of the proof, part 3 of 6: what is used to prove the statement. No condition.
-/
import Derived.Test.YtkagidinekdnoaaGreatDoorHBAgreesQ1
import Derived.KernelRfl
import Derived.WalkSpells
import Derived.Laws.CopyRow
namespace Go.Proofs.YtkagidinekdnoaaGreatDoor.AI
open Go.RowKit
set_option maxRecDepth 100000
set_option maxHeartbeats 4000000
set_option linter.unusedVariables false
set_option linter.unusedSimpArgs false
open _root_.Array renaming getElem?_eq_some_iff→b9,getElem?_toList→ch,ext'→Jo
open _root_.Bool renaming true→ajp,false→ajq,and_eq_true→aj,not_false→aV,not_true→aY
open Call renaming operands→dP
open _root_.Classical renaming byContradiction→t8
open _root_.Int renaming ofNat_eq_natCast→ai,ofNat→aJ,toNat→aL,reduceEq→aO,reduceNeg→bd,natCast_nonneg→dG,le_refl→dX,toNat_natCast→iW,toNat_of_nonneg→E9
open IntKind renaming wrap→nK
open _root_.List renaming length→af,getElem?_eq_getElem→ar,getD_eq_getElem?_getD→au,replicate→ay,mem_singleton→aF,mem_of_getElem?→aS,getElem?_map→aU,getElem?_eq_some_iff→a8,mem_cons→bc,length_append→bg,length_take→bm,getElem?_append_left→bA,getElem?_eq_none→bB,mem_append→bE,length_cons→bH,getElem?_append_right→bJ,length_map→bV,not_mem_nil→bY,map_append→ct,take_length→cz,mem_cons_of_mem→cA,mem_map→cO,ext_getElem→cV,take→db,mem_cons_self→dg,foldl_append→eD,range→eU,map_cons→ff,cons_append→fg,all_eq_true→fh,length_singleton→fw,length_eq_zero_iff→fK,append_assoc→iV,length_nil→je,map_take→jL,take_append_of_le_length→ka,nil_append→kE,append_nil→kF,mem_range→ml,getElem_range→mm,length_range→nJ,map_congr_left→oO,length_take_le→oP,getElem_map→pD,getElem?_replicate→pE,length_set→qW,getElem?_set→rG,getElem_set→tB,getElem_mem→tC,eq_of_mem_replicate→vz,take_append_drop→zL,sum_append→DS,mem_filter→DU
open _root_.Nat renaming eq_of_beq_eq_true→ak,beq→av,zero_add→bz,le_refl→bF,lt_or_ge→bI,mul_le_mul_right→cf,le_trans→cM,add_zero→cN,succ_mul→gX,zero_le→j9,min_eq_left→qV,add_assoc→qX,not_lt_zero→vC,lt_irrefl→AL,eq_zero_or_pos→Jm,lt_trichotomy→LM
open Oper renaming wp→FK
open _root_.Option renaming some→ajn,none→ajo,map_some→bO,getD_some→tm
open _root_.Option.some renaming injEq→aa
open Result renaming andThen_ok→ci
open Sem renaming run_bind→dI,run→mq
noncomputable section
theorem jB {α R:Type} (o:Option α):obind o (λ_=>(ajo:Option R))=ajo:=by cases o<;>rfl
theorem nC {R:Type} (b:Bool):chk b (λ_=>(ajo:Option R))=ajo:=by cases b<;>rfl
theorem qx {α R:Type} (x:α):lt x (λ_=>(ajo:Option R))=ajo:=rfl
def NC {R:Type} (o:Option R) (Q:R->Prop):Prop:=o=ajo\/Ok o Q
theorem NC.or {R:Type} {a b:Option R} {Q:R->Prop} (I:NC a Q) (hb:NC b Q):NC (orE a b) Q:=by
 rcases I with rfl|⟨y,rfl,h⟩
 ·exact hb
 ·exact .inr ⟨y,rfl,h⟩
theorem Ok.orL {R:Type} {a b:Option R} {Q:R->Prop} (I:Ok a Q):Ok (orE a b) Q:=by
 obtain⟨y,rfl,h⟩:=I;exact⟨y,rfl,h⟩
theorem NC.orR {R:Type} {a b:Option R} {Q:R->Prop} (I:NC a Q) (hb:Ok b Q):Ok (orE a b) Q:=by
 rcases I with rfl|⟨y,rfl,h⟩
 ·exact hb
 ·exact⟨y,rfl,h⟩
theorem Gl {n:Nat} (hn:n+1<=100000) {c:CT} {L:List ET} {s:ST} {t u:Int} (hc:CB c) (hs:SV n L s) (U:Ju c L s) (G:Option (ST×ET×Bool)->Prop) (Y:∀ y,SQ n c L y->G (ajn y)) (k:ET×Bool->SY×Int×Bool->Option (ST×ET×Bool))
 (hk:∀ e v sy,PE n c s t e->PS c L s t e->EN c.1 s.1 t e.2.1 e.2.2.1->Vb c.1 s.1 t e.2.1 e.2.2.1->AP n s.1 sy->(sy,v)=uo c.1 s.1 t e.2.1 e.2.2.1 u->G (k (e,ajp) (sy,v,ajp))):
 G (obind (my (c,s,t)) λI=>bcase (!I.2) (ajn ((([],0,[],[]),[],[],[]),(0,0,0,0,0,[],[]),ajq)) (obind (od (c.1,s.1,t,I.1.2.1,I.1.2.2.1,u)) λJ=>bcase (!J.2.2) (ajn ((([],0,[],[]),[],[],[]),(0,0,0,0,0,[],[]),ajq)) (k I J))):=by
 have M:=Y ((([],0,[],[]),[],[],[]),(0,0,0,0,0,[],[]),ajq) λh=>(by cases h)
 obtain⟨⟨e,b⟩,h1,h2⟩:=TU n (by omega) c L s hc hs U t;rw[h1,nM];cases b with
 |false=>exact M
 |true=>
  obtain⟨hp,hm⟩:=h2 rfl;have hcd:c.1.2.2.1.length<=1000:=by have:=hp.fs.vc.vl.d;omega
  obtain⟨⟨sy,v,b⟩,h3,Z,_,_⟩:=Ra c.1 s.1 hs.sb hcd t e.2.1 e.2.2.1 u;have e0:∀ {R:Type} (a b:Option R),bcase (!ajp) a b=b:=λ_ _=>rfl
  rw[e0,h3,nM];cases b with
  |false=>exact M
  |true=>
   obtain⟨g1,g2,g3,g4⟩:=Z rfl;exact hk e v sy hp hm g1 g2 g3 g4
theorem Xl {E:Nat} {L:List ET} (sy:SY) (ce fu:List Int) (a:TT) (h:SV E L (sy,ce,fu,[a])) (hce:ce.length<=1000) (hfu:fu.length<=1000):l7 (sy,ce,fu,[a])=ajn ((sy.2.1,sy.1,sy.2.2.1,sy.2.2.2).1,(sy.2.1,sy.1,sy.2.2.1,sy.2.2.2).2.1,(sy.2.1,sy.1,sy.2.2.1,sy.2.2.2).2.2.1,(sy.2.1,sy.1,sy.2.2.1,sy.2.2.2).2.2.2,(([]:List Int)++ce),(([]:List Int)++fu),((a.1,a.2.2.2),a.2.1,a.2.2.1)):=by
 have J:=h.sb.n1;have I:TH (FQ L 0) E a:=h.t 0 (by simp);refine co ?_;unfold l7 Prod.p2 Prod.q3 bk bn bw aP;refine aN (pB sy h.sb) ?_;refine ba (by simp;omega) (by omega) (ba (by simp;omega) (by omega) ?_);refine eC rfl (aW rfl (aM (aN (cG a E J I) ?_)));exact eM rfl (ah rfl)
theorem Q6 (sy:SY) (ce fu:List Int) (l:List TT) (h0:l.length<=4) (h:l.length≠1):l7 (sy,ce,fu,l)=ajo:=by
 unfold l7 Prod.p2 Prod.q3 bk bn bw aP;rcases l with _|⟨a,_|⟨b,_|⟨c,_|⟨d,_|⟨e,l⟩⟩⟩⟩⟩;all_goals first|(simp at h;done)|(exfalso;simp only[bH] at h0;omega)|simp[eX,jB,nC,qx,oN,oK]
theorem Xk {E:Nat} {L:List ET} (sy:SY) (ce fu:List Int) (a b:TT) (h:SV E L (sy,ce,fu,[a,b])) (hce:ce.length<=1000) (hfu:fu.length<=1000):lZ (sy,ce,fu,[a,b])=ajn ((sy.2.1,sy.1,sy.2.2.1,sy.2.2.2).1,(sy.2.1,sy.1,sy.2.2.1,sy.2.2.2).2.1,(sy.2.1,sy.1,sy.2.2.1,sy.2.2.2).2.2.1,(sy.2.1,sy.1,sy.2.2.1,sy.2.2.2).2.2.2,(([]:List Int)++ce),(([]:List Int)++fu),(((a.1,a.2.2.2),a.2.1,a.2.2.1).1.1,((a.1,a.2.2.2),a.2.1,a.2.2.1).1.2,((b.1,b.2.2.2),b.2.1,b.2.2.1).1.1,((b.1,b.2.2.2),b.2.1,b.2.2.1).2.1,((b.1,b.2.2.2),b.2.1,b.2.2.1).2.2,((b.1,b.2.2.2),b.2.1,b.2.2.1).1.2),((a.1,a.2.2.2),a.2.1,a.2.2.1).2):=by
 have I:=h.sb.n1;have J:TH (FQ L 0) E a:=h.t 0 (by simp);have hb:TH (FQ L 1) E b:=h.t 1 (by simp);refine co ?_;unfold lZ Prod.p2 Prod.q3 bk bn bw aP;refine aN (pB sy h.sb) ?_;refine ba (by simp;omega) (by omega) (ba (by simp;omega) (by omega) ?_);refine eC rfl (aW rfl (aM (aN (cG a E I J) ?_)));refine eC rfl (aW rfl (aM (aN (cG b E I hb) ?_)));exact eM rfl (ah rfl)
theorem Q5 (sy:SY) (ce fu:List Int) (l:List TT) (h0:l.length<=4) (h:l.length≠2):lZ (sy,ce,fu,l)=ajo:=by
 unfold lZ Prod.p2 Prod.q3 bk bn bw aP;rcases l with _|⟨a,_|⟨b,_|⟨c,_|⟨d,_|⟨e,l⟩⟩⟩⟩⟩;all_goals first|(simp at h;done)|(exfalso;simp only[bH] at h0;omega)|simp[eX,jB,nC,qx,oN,oK]
theorem Xj {E:Nat} {L:List ET} (sy:SY) (ce fu:List Int) (a b:TT) (h:SV E L (sy,ce,fu,[a,b])) (hce:ce.length<=1000) (hfu:fu.length<=1000):lY (sy,ce,fu,[a,b])=ajn ((sy.2.1,sy.1,sy.2.2.1,sy.2.2.2).1,(sy.2.1,sy.1,sy.2.2.1,sy.2.2.2).2.1,(sy.2.1,sy.1,sy.2.2.1,sy.2.2.2).2.2.1,(sy.2.1,sy.1,sy.2.2.1,sy.2.2.2).2.2.2,(([]:List Int)++ce),(([]:List Int)++fu),((((a.1,a.2.2.2),a.2.1,a.2.2.1).1.1,((a.1,a.2.2.2),a.2.1,a.2.2.1).2.1,((a.1,a.2.2.2),a.2.1,a.2.2.1).2.2,((a.1,a.2.2.2),a.2.1,a.2.2.1).1.2),((b.1,b.2.2.2),b.2.1,b.2.2.1).1),((b.1,b.2.2.2),b.2.1,b.2.2.1).2):=by
 have I:=h.sb.n1;have J:TH (FQ L 0) E a:=h.t 0 (by simp);have hb:TH (FQ L 1) E b:=h.t 1 (by simp);refine co ?_;unfold lY Prod.p2 Prod.q3 bk bn bw aP;refine aN (pB sy h.sb) ?_;refine ba (by simp;omega) (by omega) (ba (by simp;omega) (by omega) ?_);refine eC rfl (aW rfl (aM (aN (cG a E I J) ?_)));refine eC rfl (aW rfl (aM (aN (cG b E I hb) ?_)));exact eM rfl (ah rfl)
theorem Q4 (sy:SY) (ce fu:List Int) (l:List TT) (h0:l.length<=4) (h:l.length≠2):lY (sy,ce,fu,l)=ajo:=by
 unfold lY Prod.p2 Prod.q3 bk bn bw aP;rcases l with _|⟨a,_|⟨b,_|⟨c,_|⟨d,_|⟨e,l⟩⟩⟩⟩⟩;all_goals first|(simp at h;done)|(exfalso;simp only[bH] at h0;omega)|simp[eX,jB,nC,qx,oN,oK]
theorem Xi {E:Nat} {L:List ET} (sy:SY) (ce fu:List Int) (a b c:TT) (h:SV E L (sy,ce,fu,[a,b,c])) (hce:ce.length<=1000) (hfu:fu.length<=1000):lX (sy,ce,fu,[a,b,c])=ajn ((sy.2.1,sy.1,sy.2.2.1,sy.2.2.2).1,(sy.2.1,sy.1,sy.2.2.1,sy.2.2.2).2.1,(sy.2.1,sy.1,sy.2.2.1,sy.2.2.2).2.2.1,(sy.2.1,sy.1,sy.2.2.1,sy.2.2.2).2.2.2,(([]:List Int)++ce),(([]:List Int)++fu),(((a.1,a.2.2.2),a.2.1,a.2.2.1).1.1,((a.1,a.2.2.2),a.2.1,a.2.2.1).1.2,(((b.1,b.2.2.2),b.2.1,b.2.2.1).1.1,((b.1,b.2.2.2),b.2.1,b.2.2.1).2.1,((b.1,b.2.2.2),b.2.1,b.2.2.1).2.2,((b.1,b.2.2.2),b.2.1,b.2.2.1).1.2),((c.1,c.2.2.2),c.2.1,c.2.2.1).1.1,((c.1,c.2.2.2),c.2.1,c.2.2.1).2.1,((c.1,c.2.2.2),c.2.1,c.2.2.1).2.2,((c.1,c.2.2.2),c.2.1,c.2.2.1).1.2),((a.1,a.2.2.2),a.2.1,a.2.2.1).2):=by
 have I:=h.sb.n1;have J:TH (FQ L 0) E a:=h.t 0 (by simp);have hb:TH (FQ L 1) E b:=h.t 1 (by simp);have hc:TH (FQ L 2) E c:=h.t 2 (by simp);refine co ?_;unfold lX Prod.p2 Prod.q3 bk bn bw aP;refine aN (pB sy h.sb) ?_;refine ba (by simp;omega) (by omega) (ba (by simp;omega) (by omega) ?_);refine eC rfl (aW rfl (aM (aN (cG a E I J) ?_)));refine eC rfl (aW rfl (aM (aN (cG b E I hb) ?_)));refine eC rfl (aW rfl (aM (aN (cG c E I hc) ?_)));exact eM rfl (ah rfl)
theorem Q3 (sy:SY) (ce fu:List Int) (l:List TT) (h0:l.length<=4) (h:l.length≠3):lX (sy,ce,fu,l)=ajo:=by
 unfold lX Prod.p2 Prod.q3 bk bn bw aP;rcases l with _|⟨a,_|⟨b,_|⟨c,_|⟨d,_|⟨e,l⟩⟩⟩⟩⟩;all_goals first|(simp at h;done)|(exfalso;simp only[bH] at h0;omega)|simp[eX,jB,nC,qx,oN,oK]
theorem Xh {E:Nat} {L:List ET} (sy:SY) (ce fu:List Int) (a b c:TT) (h:SV E L (sy,ce,fu,[a,b,c])) (hce:ce.length<=1000) (hfu:fu.length<=1000):lV (sy,ce,fu,[a,b,c])=ajn ((sy.2.1,sy.1,sy.2.2.1,sy.2.2.2).1,(sy.2.1,sy.1,sy.2.2.1,sy.2.2.2).2.1,(sy.2.1,sy.1,sy.2.2.1,sy.2.2.2).2.2.1,(sy.2.1,sy.1,sy.2.2.1,sy.2.2.2).2.2.2,(([]:List Int)++ce),(([]:List Int)++fu),((((a.1,a.2.2.2),a.2.1,a.2.2.1).1.1,((a.1,a.2.2.2),a.2.1,a.2.2.1).2.1,((a.1,a.2.2.2),a.2.1,a.2.2.1).2.2,((a.1,a.2.2.2),a.2.1,a.2.2.1).1.2),((b.1,b.2.2.2),b.2.1,b.2.2.1).1.1,((b.1,b.2.2.2),b.2.1,b.2.2.1).1.2,((c.1,c.2.2.2),c.2.1,c.2.2.1).1.1,((c.1,c.2.2.2),c.2.1,c.2.2.1).2.1,((c.1,c.2.2.2),c.2.1,c.2.2.1).2.2,((c.1,c.2.2.2),c.2.1,c.2.2.1).1.2),((b.1,b.2.2.2),b.2.1,b.2.2.1).2):=by
 have I:=h.sb.n1;have J:TH (FQ L 0) E a:=h.t 0 (by simp);have hb:TH (FQ L 1) E b:=h.t 1 (by simp);have hc:TH (FQ L 2) E c:=h.t 2 (by simp);refine co ?_;unfold lV Prod.p2 Prod.q3 bk bn bw aP;refine aN (pB sy h.sb) ?_;refine ba (by simp;omega) (by omega) (ba (by simp;omega) (by omega) ?_);refine eC rfl (aW rfl (aM (aN (cG a E I J) ?_)));refine eC rfl (aW rfl (aM (aN (cG b E I hb) ?_)));refine eC rfl (aW rfl (aM (aN (cG c E I hc) ?_)));exact eM rfl (ah rfl)
theorem Q2 (sy:SY) (ce fu:List Int) (l:List TT) (h0:l.length<=4) (h:l.length≠3):lV (sy,ce,fu,l)=ajo:=by
 unfold lV Prod.p2 Prod.q3 bk bn bw aP;rcases l with _|⟨a,_|⟨b,_|⟨c,_|⟨d,_|⟨e,l⟩⟩⟩⟩⟩;all_goals first|(simp at h;done)|(exfalso;simp only[bH] at h0;omega)|simp[eX,jB,nC,qx,oN,oK]
theorem Xg {E:Nat} {L:List ET} (sy:SY) (ce fu:List Int) (a b c:TT) (h:SV E L (sy,ce,fu,[a,b,c])) (hce:ce.length<=1000) (hfu:fu.length<=1000):lU (sy,ce,fu,[a,b,c])=ajn ((sy.2.1,sy.1,sy.2.2.1,sy.2.2.2).1,(sy.2.1,sy.1,sy.2.2.1,sy.2.2.2).2.1,(sy.2.1,sy.1,sy.2.2.1,sy.2.2.2).2.2.1,(sy.2.1,sy.1,sy.2.2.1,sy.2.2.2).2.2.2,(([]:List Int)++ce),(([]:List Int)++fu),((((a.1,a.2.2.2),a.2.1,a.2.2.1).1.1,((a.1,a.2.2.2),a.2.1,a.2.2.1).2.1,((a.1,a.2.2.2),a.2.1,a.2.2.1).2.2,((a.1,a.2.2.2),a.2.1,a.2.2.1).1.2),(((b.1,b.2.2.2),b.2.1,b.2.2.1).1.1,((b.1,b.2.2.2),b.2.1,b.2.2.1).2.1,((b.1,b.2.2.2),b.2.1,b.2.2.1).2.2,((b.1,b.2.2.2),b.2.1,b.2.2.1).1.2),((c.1,c.2.2.2),c.2.1,c.2.2.1).1),((c.1,c.2.2.2),c.2.1,c.2.2.1).2):=by
 have I:=h.sb.n1;have J:TH (FQ L 0) E a:=h.t 0 (by simp);have hb:TH (FQ L 1) E b:=h.t 1 (by simp);have hc:TH (FQ L 2) E c:=h.t 2 (by simp);refine co ?_;unfold lU Prod.p2 Prod.q3 bk bn bw aP;refine aN (pB sy h.sb) ?_;refine ba (by simp;omega) (by omega) (ba (by simp;omega) (by omega) ?_);refine eC rfl (aW rfl (aM (aN (cG a E I J) ?_)));refine eC rfl (aW rfl (aM (aN (cG b E I hb) ?_)));refine eC rfl (aW rfl (aM (aN (cG c E I hc) ?_)));exact eM rfl (ah rfl)
theorem Q1 (sy:SY) (ce fu:List Int) (l:List TT) (h0:l.length<=4) (h:l.length≠3):lU (sy,ce,fu,l)=ajo:=by
 unfold lU Prod.p2 Prod.q3 bk bn bw aP;rcases l with _|⟨a,_|⟨b,_|⟨c,_|⟨d,_|⟨e,l⟩⟩⟩⟩⟩;all_goals first|(simp at h;done)|(exfalso;simp only[bH] at h0;omega)|simp[eX,jB,nC,qx,oN,oK]
theorem Xf {E:Nat} {L:List ET} (sy:SY) (ce fu:List Int) (a b c d:TT) (h:SV E L (sy,ce,fu,[a,b,c,d])) (hce:ce.length<=1000) (hfu:fu.length<=1000):lQ (sy,ce,fu,[a,b,c,d])=ajn ((sy.2.1,sy.1,sy.2.2.1,sy.2.2.2).1,(sy.2.1,sy.1,sy.2.2.1,sy.2.2.2).2.1,(sy.2.1,sy.1,sy.2.2.1,sy.2.2.2).2.2.1,(sy.2.1,sy.1,sy.2.2.1,sy.2.2.2).2.2.2,(([]:List Int)++ce),(([]:List Int)++fu),(((a.1,a.2.2.2),a.2.1,a.2.2.1).1.1,((a.1,a.2.2.2),a.2.1,a.2.2.1).1.2,(((b.1,b.2.2.2),b.2.1,b.2.2.1).1.1,((b.1,b.2.2.2),b.2.1,b.2.2.1).2.1,((b.1,b.2.2.2),b.2.1,b.2.2.1).2.2,((b.1,b.2.2.2),b.2.1,b.2.2.1).1.2),(((c.1,c.2.2.2),c.2.1,c.2.2.1).1.1,((c.1,c.2.2.2),c.2.1,c.2.2.1).2.1,((c.1,c.2.2.2),c.2.1,c.2.2.1).2.2,((c.1,c.2.2.2),c.2.1,c.2.2.1).1.2),((d.1,d.2.2.2),d.2.1,d.2.2.1).1.1,((d.1,d.2.2.2),d.2.1,d.2.2.1).2.1,((d.1,d.2.2.2),d.2.1,d.2.2.1).2.2,((d.1,d.2.2.2),d.2.1,d.2.2.1).1.2),((a.1,a.2.2.2),a.2.1,a.2.2.1).2):=by
 have I:=h.sb.n1;have J:TH (FQ L 0) E a:=h.t 0 (by simp);have hb:TH (FQ L 1) E b:=h.t 1 (by simp);have hc:TH (FQ L 2) E c:=h.t 2 (by simp);have hd:TH (FQ L 3) E d:=h.t 3 (by simp);refine co ?_;unfold lQ Prod.p2 Prod.q3 bk bn bw aP;refine aN (pB sy h.sb) ?_;refine ba (by simp;omega) (by omega) (ba (by simp;omega) (by omega) ?_);refine eC rfl (aW rfl (aM (aN (cG a E I J) ?_)));refine eC rfl (aW rfl (aM (aN (cG b E I hb) ?_)));refine eC rfl (aW rfl (aM (aN (cG c E I hc) ?_)));refine eC rfl (aW rfl (aM (aN (cG d E I hd) ?_)));exact eM rfl (ah rfl)
theorem Q0 (sy:SY) (ce fu:List Int) (l:List TT) (h0:l.length<=4) (h:l.length≠4):lQ (sy,ce,fu,l)=ajo:=by
 unfold lQ Prod.p2 Prod.q3 bk bn bw aP;rcases l with _|⟨a,_|⟨b,_|⟨c,_|⟨d,_|⟨e,l⟩⟩⟩⟩⟩;all_goals first|(simp at h;done)|(exfalso;simp only[bH] at h0;omega)|simp[eX,jB,nC,qx,oN,oK]
theorem Xe {E:Nat} {L:List ET} (sy:SY) (ce fu:List Int) (a b c d:TT) (h:SV E L (sy,ce,fu,[a,b,c,d])) (hce:ce.length<=1000) (hfu:fu.length<=1000):lP (sy,ce,fu,[a,b,c,d])=ajn ((sy.2.1,sy.1,sy.2.2.1,sy.2.2.2).1,(sy.2.1,sy.1,sy.2.2.1,sy.2.2.2).2.1,(sy.2.1,sy.1,sy.2.2.1,sy.2.2.2).2.2.1,(sy.2.1,sy.1,sy.2.2.1,sy.2.2.2).2.2.2,(([]:List Int)++ce),(([]:List Int)++fu),((((a.1,a.2.2.2),a.2.1,a.2.2.1).1.1,((a.1,a.2.2.2),a.2.1,a.2.2.1).2.1,((a.1,a.2.2.2),a.2.1,a.2.2.1).2.2,((a.1,a.2.2.2),a.2.1,a.2.2.1).1.2),((b.1,b.2.2.2),b.2.1,b.2.2.1).1.1,((b.1,b.2.2.2),b.2.1,b.2.2.1).1.2,(((c.1,c.2.2.2),c.2.1,c.2.2.1).1.1,((c.1,c.2.2.2),c.2.1,c.2.2.1).2.1,((c.1,c.2.2.2),c.2.1,c.2.2.1).2.2,((c.1,c.2.2.2),c.2.1,c.2.2.1).1.2),((d.1,d.2.2.2),d.2.1,d.2.2.1).1.1,((d.1,d.2.2.2),d.2.1,d.2.2.1).2.1,((d.1,d.2.2.2),d.2.1,d.2.2.1).2.2,((d.1,d.2.2.2),d.2.1,d.2.2.1).1.2),((b.1,b.2.2.2),b.2.1,b.2.2.1).2):=by
 have I:=h.sb.n1;have J:TH (FQ L 0) E a:=h.t 0 (by simp);have hb:TH (FQ L 1) E b:=h.t 1 (by simp);have hc:TH (FQ L 2) E c:=h.t 2 (by simp);have hd:TH (FQ L 3) E d:=h.t 3 (by simp);refine co ?_;unfold lP Prod.p2 Prod.q3 bk bn bw aP;refine aN (pB sy h.sb) ?_;refine ba (by simp;omega) (by omega) (ba (by simp;omega) (by omega) ?_);refine eC rfl (aW rfl (aM (aN (cG a E I J) ?_)));refine eC rfl (aW rfl (aM (aN (cG b E I hb) ?_)));refine eC rfl (aW rfl (aM (aN (cG c E I hc) ?_)));refine eC rfl (aW rfl (aM (aN (cG d E I hd) ?_)));exact eM rfl (ah rfl)
theorem QZ (sy:SY) (ce fu:List Int) (l:List TT) (h0:l.length<=4) (h:l.length≠4):lP (sy,ce,fu,l)=ajo:=by
 unfold lP Prod.p2 Prod.q3 bk bn bw aP;rcases l with _|⟨a,_|⟨b,_|⟨c,_|⟨d,_|⟨e,l⟩⟩⟩⟩⟩;all_goals first|(simp at h;done)|(exfalso;simp only[bH] at h0;omega)|simp[eX,jB,nC,qx,oN,oK]
theorem Xd {E:Nat} {L:List ET} (sy:SY) (ce fu:List Int) (a b c d:TT) (h:SV E L (sy,ce,fu,[a,b,c,d])) (hce:ce.length<=1000) (hfu:fu.length<=1000):lO (sy,ce,fu,[a,b,c,d])=ajn ((sy.2.1,sy.1,sy.2.2.1,sy.2.2.2).1,(sy.2.1,sy.1,sy.2.2.1,sy.2.2.2).2.1,(sy.2.1,sy.1,sy.2.2.1,sy.2.2.2).2.2.1,(sy.2.1,sy.1,sy.2.2.1,sy.2.2.2).2.2.2,(([]:List Int)++ce),(([]:List Int)++fu),((((a.1,a.2.2.2),a.2.1,a.2.2.1).1.1,((a.1,a.2.2.2),a.2.1,a.2.2.1).2.1,((a.1,a.2.2.2),a.2.1,a.2.2.1).2.2,((a.1,a.2.2.2),a.2.1,a.2.2.1).1.2),(((b.1,b.2.2.2),b.2.1,b.2.2.1).1.1,((b.1,b.2.2.2),b.2.1,b.2.2.1).2.1,((b.1,b.2.2.2),b.2.1,b.2.2.1).2.2,((b.1,b.2.2.2),b.2.1,b.2.2.1).1.2),((c.1,c.2.2.2),c.2.1,c.2.2.1).1.1,((c.1,c.2.2.2),c.2.1,c.2.2.1).1.2,((d.1,d.2.2.2),d.2.1,d.2.2.1).1.1,((d.1,d.2.2.2),d.2.1,d.2.2.1).2.1,((d.1,d.2.2.2),d.2.1,d.2.2.1).2.2,((d.1,d.2.2.2),d.2.1,d.2.2.1).1.2),((c.1,c.2.2.2),c.2.1,c.2.2.1).2):=by
 have I:=h.sb.n1;have J:TH (FQ L 0) E a:=h.t 0 (by simp);have hb:TH (FQ L 1) E b:=h.t 1 (by simp);have hc:TH (FQ L 2) E c:=h.t 2 (by simp);have hd:TH (FQ L 3) E d:=h.t 3 (by simp);refine co ?_;unfold lO Prod.p2 Prod.q3 bk bn bw aP;refine aN (pB sy h.sb) ?_;refine ba (by simp;omega) (by omega) (ba (by simp;omega) (by omega) ?_);refine eC rfl (aW rfl (aM (aN (cG a E I J) ?_)));refine eC rfl (aW rfl (aM (aN (cG b E I hb) ?_)));refine eC rfl (aW rfl (aM (aN (cG c E I hc) ?_)));refine eC rfl (aW rfl (aM (aN (cG d E I hd) ?_)));exact eM rfl (ah rfl)
theorem QY (sy:SY) (ce fu:List Int) (l:List TT) (h0:l.length<=4) (h:l.length≠4):lO (sy,ce,fu,l)=ajo:=by
 unfold lO Prod.p2 Prod.q3 bk bn bw aP;rcases l with _|⟨a,_|⟨b,_|⟨c,_|⟨d,_|⟨e,l⟩⟩⟩⟩⟩;all_goals first|(simp at h;done)|(exfalso;simp only[bH] at h0;omega)|simp[eX,jB,nC,qx,oN,oK]
theorem Xc {E:Nat} {L:List ET} (sy:SY) (ce fu:List Int) (a b c d:TT) (h:SV E L (sy,ce,fu,[a,b,c,d])) (hce:ce.length<=1000) (hfu:fu.length<=1000):lM (sy,ce,fu,[a,b,c,d])=ajn ((sy.2.1,sy.1,sy.2.2.1,sy.2.2.2).1,(sy.2.1,sy.1,sy.2.2.1,sy.2.2.2).2.1,(sy.2.1,sy.1,sy.2.2.1,sy.2.2.2).2.2.1,(sy.2.1,sy.1,sy.2.2.1,sy.2.2.2).2.2.2,(([]:List Int)++ce),(([]:List Int)++fu),((((a.1,a.2.2.2),a.2.1,a.2.2.1).1.1,((a.1,a.2.2.2),a.2.1,a.2.2.1).2.1,((a.1,a.2.2.2),a.2.1,a.2.2.1).2.2,((a.1,a.2.2.2),a.2.1,a.2.2.1).1.2),(((b.1,b.2.2.2),b.2.1,b.2.2.1).1.1,((b.1,b.2.2.2),b.2.1,b.2.2.1).2.1,((b.1,b.2.2.2),b.2.1,b.2.2.1).2.2,((b.1,b.2.2.2),b.2.1,b.2.2.1).1.2),(((c.1,c.2.2.2),c.2.1,c.2.2.1).1.1,((c.1,c.2.2.2),c.2.1,c.2.2.1).2.1,((c.1,c.2.2.2),c.2.1,c.2.2.1).2.2,((c.1,c.2.2.2),c.2.1,c.2.2.1).1.2),((d.1,d.2.2.2),d.2.1,d.2.2.1).1),((d.1,d.2.2.2),d.2.1,d.2.2.1).2):=by
 have I:=h.sb.n1;have J:TH (FQ L 0) E a:=h.t 0 (by simp);have hb:TH (FQ L 1) E b:=h.t 1 (by simp);have hc:TH (FQ L 2) E c:=h.t 2 (by simp);have hd:TH (FQ L 3) E d:=h.t 3 (by simp);refine co ?_;unfold lM Prod.p2 Prod.q3 bk bn bw aP;refine aN (pB sy h.sb) ?_;refine ba (by simp;omega) (by omega) (ba (by simp;omega) (by omega) ?_);refine eC rfl (aW rfl (aM (aN (cG a E I J) ?_)));refine eC rfl (aW rfl (aM (aN (cG b E I hb) ?_)));refine eC rfl (aW rfl (aM (aN (cG c E I hc) ?_)));refine eC rfl (aW rfl (aM (aN (cG d E I hd) ?_)));exact eM rfl (ah rfl)
theorem QX (sy:SY) (ce fu:List Int) (l:List TT) (h0:l.length<=4) (h:l.length≠4):lM (sy,ce,fu,l)=ajo:=by
 unfold lM Prod.p2 Prod.q3 bk bn bw aP;rcases l with _|⟨a,_|⟨b,_|⟨c,_|⟨d,_|⟨e,l⟩⟩⟩⟩⟩;all_goals first|(simp at h;done)|(exfalso;simp only[bH] at h0;omega)|simp[eX,jB,nC,qx,oN,oK]
theorem kdx (k:Int):k=1\/k=16\/k=2\/k=3\/k=23\/k=4\/k=22\/k=5\/((k=1)=False/\(k=16)=False/\(k=2)=False/\(k=3)=False/\(k=23)=False/\(k=4)=False/\(k=22)=False/\(k=5)=False):=by
 by_cases h:k=1\/k=16\/k=2\/k=3\/k=23\/k=4\/k=22\/k=5
 ·omega
 ·repeat (first|exact⟨eq_false (by omega),eq_false (by omega),eq_false (by omega),eq_false (by omega),eq_false (by omega),eq_false (by omega),eq_false (by omega),eq_false (by omega)⟩|refine Or.inr ?_)
def KR {Z:Type} (n:Nat) (I:CT) (L:List ET) (i:Nat) (u:Int) (l:List TT) (z:Z) (k:Int->(CT×SY×(Int×Int)×Int×(Int×Int×Int×Int×Int)×ET×(Int×Int)×(List Int)×(List Int)×Z×(List Int)×List (List Int))->Option (ST×ET×Bool)):Prop:=
 ∀ (F:Int->Prop) (p:Int) (sy:SY) (kd o v si:Int) (ds fs ce fu R:List Int) (T:List (List Int)) (ev:Int),
  (kd≠16->kd≠2->Ok (l8 (aD (T:=uy) I.2 (i:Int),(p,R,T,be .i64 (ev+1)))) λy=>TH F (n+1) y.1/\(y.1.2.1.length=0\/y.1.2.2.2=be .i64 (ev+1)))->
  (kd=16\/kd=2->TH F (n+1) (p,R,T,be .i64 (ev+1)))->
  (∀ t',TH F (n+1) t'->(t'.2.1.length=0\/t'.2.2.2=be .i64 (ev+1)/\(kd=16->t'.1=p))->SQ n I L ((sy,ce,fu,l.set i t'),((i:Int),kd,o,v,si,ds,fs),ajp))->(i:Int)<(I.2.length:Int)->
  ∀ J,Ok (k p (I,sy,((i:Int),u),0,(0,0,0,0,0),((i:Int),kd,o,v,si,ds,fs),(J,ev),ce,fu,z,R,T)) (SQ n I L)
theorem zH {Z:Type} (N i:Nat) {U:SY×(List Int)×(List Int)×List TT->Option (Int×(List (Int×List Int))×(List Bool)×(List (Int×Int×Bool))×(List Int)×(List Int)×Z×(List Int)×List (List Int))} {pc ev:Z->Int} {k:Int->(CT×SY×(Int×Int)×Int×(Int×Int×Int×Int×Int)×ET×(Int×Int)×(List Int)×(List Int)×Z×(List Int)×List (List Int))->Option (ST×ET×Bool)} {n:Nat} (hn:n+1<=100000) (J:CT) (L:List ET) (s:ST) (t u:Int) (hc:CB J) (hs:SV n L s) (hI:Ju J L s)
 (h0:∀ sy ce fu (l:List TT),l.length<=4->l.length≠N->U (sy,ce,fu,l)=ajo)
 (h1:∀ sy ce fu (l:List TT),SV n L (sy,ce,fu,l)->ce.length<=1000->fu.length<=1000->l.length=N->i<N/\∃ y,U (sy,ce,fu,l)=ajn y/\y.2.2.2.2.1=ce/\y.2.2.2.2.2.1=fu/\y.2.2.2.2.2.2.2.1=(aD (T:=s7) l (i:Int)).2.1/\y.2.2.2.2.2.2.2.2=(aD (T:=s7) l (i:Int)).2.2.1/\pc y.2.2.2.2.2.2.1=(aD (T:=s7) l (i:Int)).1/\ev y.2.2.2.2.2.2.1=(aD (T:=s7) l (i:Int)).2.2.2/\KR n J L i u l y.2.2.2.2.2.2.1 k):
 NC (SG (i:Int) U pc ev k (J,s,t,u)) (SQ n J L)/\(s.2.2.2.length=N->t=(i:Int)->Ok (SG (i:Int) U pc ev k (J,s,t,u)) (SQ n J L)):=by
 by_cases hz:s.2.2.2.length=N/\t=(i:Int)
 ·obtain⟨Y,rfl⟩:=hz;suffices h:Ok (SG (i:Int) U pc ev k (J,s,(i:Int),u)) (SQ n J L) from ⟨.inr h,λ_ _=>h⟩
  unfold SG Prod.p10 Prod.p11 Prod.p12 Prod.p2 Prod.p3 Prod.p4 Prod.p5 Prod.p6 Prod.p7 Prod.p8 Prod.p9 Prod.q10 Prod.q11 Prod.q13 Prod.q3 Prod.q4 Prod.q7 Prod.q9 ck aX bw kf ax;refine Gl hn hc hs hI (λo=>Ok o (SQ n J L)) (λy h=>ah h) _ λe v sy hp hm he hr ha hq=>?_
  obtain⟨sy0,ce,fu,l⟩:=s;obtain⟨e1,kd,o,e4,site,ds,fs⟩:=e;have het:=hp.et;dsimp only at Y he hr ha hq het;subst het;have vl:=hp.fs.vc.vl;have hce:=hp.fs.ce;have hfu:=hp.fs.fu;dsimp only at hce hfu;obtain⟨hiN,⟨q1,q2,q3,q4,ce',fu',z,R0,T0⟩,hcp,g1,g2,g3,g4,hpc,hve,hk⟩:=h1 sy0 ce fu l hs (by have:=vl.c;omega) (by have:=vl.f;omega) Y;dsimp only at g1 g2 g3 g4 hpc hve hk;rw[g1,g2,g3,g4] at hcp;obtain⟨_,_,nmce,_,_,_,nmfu,_,_,_⟩:=id he.nm;have t1:(i:Int)<(J.2.length:Int):=hp.t1;have htf:TF (aD (T:=uy) J.2 (i:Int)) (aD (T:=s7) l (i:Int)):=hp.fs.t i (by omega);have hA:=hp.a;have hB:=hp.b;dsimp only at hA hB;have hvt:=hp.fs.vc.t _ (bx (T:=uy) (xs:=J.2) (j:=(i:Int)) (by omega) t1);have hci:=hc.ins _ (bx (T:=uy) (xs:=J.2) (j:=(i:Int)) (by omega) t1);have hth:TH (FQ L (i:Int)) n (aD (T:=s7) l (i:Int)):=hs.t i (by dsimp only;omega);have done:=abs hn hs hI hp hm he hr ha;have htg:=hm.tg;have hrun:=hr.r;dsimp only at done htg;have hgv:kd=3\/kd=23->FQ (L++[((i:Int),kd,o,e4,site,ds,fs)]) (i:Int) (aD (T:=s7) l (i:Int)).2.2.2:=λh3=>by
   have I:=hrun (by omega) (by omega);have hn0:¬(fl L (i:Int)).length=0:=λh=>(htg.nw h).elim (λg=>absurd (I.symm.trans g) (by decide)) λg=>absurd (I.symm.trans g) (by decide)
   refine ⟨by rw[htg.ev];omega,Ji.last (e:=((i:Int),kd,o,e4,site,ds,fs)) ?_ htg.ev⟩;unfold rH;rcases h3 with h|h
   ·rw[decide_eq_true h];rfl
   ·simp[h]
  have vaA:¬kd=3->¬kd=23->¬kd=5->VA J.1 sy0 ce fu (i:Int) kd o v:=λa b c=>⟨λh=>(a h).elim,λh=>(b h).elim,λh=>(c h).elim,λ_ _ _ _ _=>by rw[Qx hq]⟩
  have apA:(uo J.1 sy0 (i:Int) kd o v).1=sy:=by rw[Qx hq]
  have apB:¬kd=18->∀ v',(uo J.1 sy0 (i:Int) kd o v').1=sy:=λh v'=>by rw[U4 _ _ _ _ _ _ u h,<-hq]
  have keep:∀ x∈(aD (T:=s7) l (i:Int)).2.2.1,TL (FQ (L++[((i:Int),kd,o,e4,site,ds,fs)]) (i:Int)) (n+1) x:=λx hx=>(hth.l x hx).mono (by omega) λy M=>⟨M.1,M.2.app _⟩
  clear g3 g4 hm hI hrun htg;revert done hgv keep;generalize FQ (L++[((i:Int),kd,o,e4,site,ds,fs)]) (i:Int)=F;generalize aD (T:=s7) l (i:Int)=th at hcp hpc hve htf hA hB hth ⊢;intro done hgv keep;refine aN hcp ?_;dsimp only;rw[hpc,hve];refine eC (decide_eq_true rfl) ?_;refine aB (by omega) t1 (aM (aB htf.p0 htf.p1 (aM ?_)));have htz:th.2.2.1.length=th.2.1.length:=by have:=htf.r;have:=htf.t;omega
  have fin:∀ (p:Int) (R:List Int) (T:List (List Int)),R.length=th.2.1.length->T.length=th.2.2.1.length->(∀ x∈T,TL F (n+1) x)->Ok (l8 (aD (T:=uy) J.2 (i:Int),(p,R,T,be .i64 (th.2.2.2+1)))) λy=>TH F (n+1) y.1/\(y.1.2.1.length=0\/y.1.2.2.2=be .i64 (th.2.2.2+1)):=λp R T h1 I h3=>by
   have a1:=hth.e0;have a2:=hth.e1;have a3:=hth.r;have a4:=hth.t;rw[gK (n:=th.2.2.2+1) (by omega) (by omega)];exact WO (n+1) hn _ hci hvt _ ⟨by dsimp only;omega,by dsimp only;omega,h3,by dsimp only;omega,by dsimp only;omega⟩
  have mark:kd=3\/kd=23->∀ j:Int,∀ x∈cw th.2.2.1 j [th.2.2.2],TL F (n+1) x:=λh3 j x hx=>by
   rcases AY hx with h|h
   ·exact keep x h
   ·rw[h];exact⟨⟨λy M=>(by cases M),trivial⟩,λy M=>by rw[aF] at M;have:=hth.e0;have:=hth.e1;rw[M];exact⟨by omega,by omega⟩,λy M=>by rw[aF] at M;rw[M];exact hgv h3⟩
  have nopark:TH F (n+1) (th.1,th.2.1,th.2.2.1,be .i64 (th.2.2.2+1)):=by
   have a1:=hth.e0;have a2:=hth.e1;rw[gK (n:=th.2.2.2+1) (by omega) (by omega)];exact⟨hth.r,hth.t,keep,by dsimp only;omega,by dsimp only;omega⟩
  clear hp hs hc h0 h1 hcp g1 g2 hr ha hq he;generalize (aD (T:=zN) (aD (T:=uy) J.2 (i:Int)).2 th.1)=ins at hA hB ⊢;rcases kdx kd with rfl|rfl|rfl|rfl|rfl|rfl|rfl|rfl|⟨k1,k2,k3,k4,k5,k6,k7,k8⟩
  case inr.inr.inr.inr.inr.inr.inr.inr=>
   simp only[k1,k2,k3,k4,k5,k6,k7,k8,aO,bd,decide_true,decide_false,oN,oK,re,rz,nM,ry,aY,aV];refine hk F _ _ _ _ _ _ _ _ _ _ _ _ _ (λ_ _=>fin _ _ _ rfl rfl keep) (λh=>by rw[k2,k3] at h;exact (h.elim id id).elim) (λt' h g=>?_) t1 _;exact done v ce fu t' apA (vaA (of_eq_false k4) (of_eq_false k5) (of_eq_false k8)) (if_neg (of_eq_false k6)).symm (if_neg (of_eq_false k7)).symm h (g.imp id λh=>⟨h.1,λI=>(of_eq_false k2 I).elim⟩)
  all_goals simp only[aO,bd,decide_true,decide_false,oN,oK,re,rz,nM,ry,aY,aV]
  ·refine hk F _ _ _ _ _ _ _ _ _ _ _ _ _ (λ_ _=>fin _ _ _ rfl rfl keep) (λh=>by omega) (λt' h g=>?_) t1 _;exact done v ce fu t' apA (vaA (by decide) (by decide) (by decide)) rfl rfl h (g.imp id λh=>⟨h.1,λI=>(by cases I)⟩)
  ·refine hk F _ _ _ _ _ _ _ _ _ _ _ _ _ (λh _=>(h rfl).elim) (λ_=>nopark) (λt' h g=>?_) t1 _;exact done v ce fu t' apA (vaA (by decide) (by decide) (by decide)) rfl rfl h g
  ·refine hk F _ _ _ _ _ _ _ _ _ _ _ _ _ (λ_ h=>(h rfl).elim) (λ_=>nopark) (λt' h g=>?_) t1 _;exact done v ce fu t' apA (vaA (by decide) (by decide) (by decide)) rfl rfl h (g.imp id λh=>⟨h.1,λI=>(by cases I)⟩)
  ·obtain⟨o0,o1⟩:=nmce (.inl rfl);rw[<- hce] at o1;obtain⟨a0,a1⟩:=hA (.inl rfl);have a2:ins.2.1<(th.2.2.1.length:Int):=by rw[htz];exact a1
   refine fR (aB o0 o1 (aB o0 o1 (ah ?_)));simp only[aO,bd,decide_true,decide_false,oN,oK,re,rz,nM,ry,aY,aV];refine fR (aB a0 a1 (aB a0 a1 (aB a0 a2 (aB a0 a2 (ah ?_)))));refine hk F _ _ _ _ _ _ _ _ _ _ _ _ _ (λ_ _=>fin _ _ _ (bG ..) (bG ..) (mark (.inl rfl) _)) (λh=>by omega) (λt' h g=>?_) t1 _;exact done _ ce fu t' (apB (by decide) _) ⟨λ_=>rfl,λh=>(by cases h),λh=>(by cases h),λh=>(h rfl).elim⟩ rfl rfl h (g.imp id λh=>⟨h.1,λI=>(by cases I)⟩)
  ·obtain⟨o0,o1⟩:=nmfu (.inr rfl);rw[<- hfu] at o1;obtain⟨a0,a1⟩:=hA (.inr (.inl rfl));have a2:ins.2.1<(th.2.2.1.length:Int):=by rw[htz];exact a1
   refine fR (aB o0 o1 (aB o0 o1 (ah ?_)));simp only[aO,bd,decide_true,decide_false,oN,oK,re,rz,nM,ry,aY,aV];refine fR (aB a0 a1 (aB a0 a1 (aB a0 a2 (aB a0 a2 (ah ?_)))));refine hk F _ _ _ _ _ _ _ _ _ _ _ _ _ (λ_ _=>fin _ _ _ (bG ..) (bG ..) (mark (.inr rfl) _)) (λh=>by omega) (λt' h g=>?_) t1 _;exact done _ ce fu t' (apB (by decide) _) ⟨λh=>(by cases h),λ_=>rfl,λh=>(by cases h),λ_ h=>(h rfl).elim⟩ rfl rfl h (g.imp id λh=>⟨h.1,λI=>(by cases I)⟩)
  ·obtain⟨o0,o1⟩:=nmce (.inr rfl);rw[<- hce] at o1;obtain⟨a0,a1⟩:=hB (.inl rfl);refine fR (aB a0 a1 (aB a0 a1 (aB o0 o1 (aB o0 o1 (ah ?_)))));simp only[aO,bd,decide_true,decide_false,oN,oK,re,rz,nM,ry,aY,aV];refine hk F _ _ _ _ _ _ _ _ _ _ _ _ _ (λ_ _=>fin _ _ _ rfl rfl keep) (λh=>by omega) (λt' h g=>?_) t1 _;exact done _ _ fu t' (apB (by decide) _) ⟨λh=>(by cases h),λh=>(by cases h),λh=>(by cases h),λ_ _ _ h=>(h rfl).elim⟩ rfl rfl h (g.imp id λh=>⟨h.1,λI=>(by cases I)⟩)
  ·obtain⟨o0,o1⟩:=nmfu (.inl rfl);rw[<- hfu] at o1;obtain⟨a0,a1⟩:=hB (.inr rfl);refine fR (aB a0 a1 (aB a0 a1 (aB o0 o1 (aB o0 o1 (ah ?_)))));simp only[aO,bd,decide_true,decide_false,oN,oK,re,rz,nM,ry,aY,aV];refine hk F _ _ _ _ _ _ _ _ _ _ _ _ _ (λ_ _=>fin _ _ _ rfl rfl keep) (λh=>by omega) (λt' h g=>?_) t1 _;exact done _ ce _ t' (apB (by decide) _) ⟨λh=>(by cases h),λh=>(by cases h),λh=>(by cases h),λ_ _ _ _ h=>(h rfl).elim⟩ rfl rfl h (g.imp id λh=>⟨h.1,λI=>(by cases I)⟩)
  ·obtain⟨a0,a1⟩:=hA (.inr (.inr rfl));refine fR (aB a0 a1 (aB a0 a1 (aE (λ_=>ah ?_) λ_=>ah ?_)));all_goals
    simp only[aO,bd,decide_true,decide_false,oN,oK,re,rz,nM,ry,aY,aV];refine hk F _ _ _ _ _ _ _ _ _ _ _ _ _ (λ_ _=>fin _ _ _ rfl rfl keep) (λh=>by omega) (λt' h g=>?_) t1 _;exact done _ ce fu t' (apB (by decide) _) ⟨λh=>(by cases h),λh=>(by cases h),λ_=>(by decide),λ_ _ h=>(h rfl).elim⟩ rfl rfl h (g.imp id λh=>⟨h.1,λI=>(by cases I)⟩)
 ·refine ⟨?_,λh1 I=>(hz ⟨h1,I⟩).elim⟩;unfold SG Prod.p10 Prod.p11 Prod.p12 Prod.p2 Prod.p3 Prod.p4 Prod.p5 Prod.p6 Prod.p7 Prod.p8 Prod.p9 Prod.q10 Prod.q11 Prod.q13 Prod.q3 Prod.q4 Prod.q7 Prod.q9 ck aX bw kf ax;refine Gl hn hc hs hI (λo=>NC o (SQ n J L)) (λy h=>.inr (ah h)) _ λe v sy hp _ _ _ _ _=>.inl ?_
  obtain⟨sy0,ce,fu,l⟩:=s;have vl:=hp.fs.vc.vl;by_cases hl:l.length=N
  ·have ht:¬t=(i:Int):=λh=>hz ⟨hl,h⟩
   dsimp only;cases U (sy0,ce,fu,l) with
   |none=>rfl
   |some y=>rw[nM,decide_eq_false ht];rfl
  ·show obind (U (sy0,ce,fu,l)) _=ajo;rw[h0 sy0 ce fu l (by have h1:l.length=J.2.length:=hp.fs.th;have:=hp.fs.vc.tl;have:=vl.t;omega) hl];rfl
theorem zI {Z W V:Type} {n:Nat} {Y:CT} {L:List ET} {i:Nat} {u:Int} {l:List TT} {z:Z} {t1:Z->List Int->List (List Int)->W} {M:W->V} {J:V->TT->List TT} (h3:∀ R T t',J (M (t1 z R T)) t'=l.set i t'):KR n Y L i u l z (KG (i:Int) t1 M J):=by
 intro F p sy kd o v si ds fs ce fu R T ev fin park done ht pc;unfold KG Prod.p10 Prod.p2 Prod.p3 Prod.p4 Prod.p5 Prod.p6 Prod.p7 Prod.p8 Prod.p9 Prod.q10 Prod.q11 Prod.q8 aX ik bw ax ca;dsimp only;have done:∀ t',TH F (n+1) t'->(t'.2.1.length=0\/t'.2.2.2=be .i64 (ev+1)/\(kd=16->t'.1=p))->SQ n Y L ((sy,ce,fu,J (M (t1 z R T)) t'),((i:Int),kd,o,v,si,ds,fs),ajp):=λt' h g=>by rw[h3];exact done t' h g
 by_cases h1:kd=16
 ·subst h1;exact fR (fR (eM rfl (ah (eM rfl (ah (eC (decide_eq_true rfl) (ah (done _ (park (.inl rfl)) (.inr ⟨rfl,λ_=>rfl⟩)))))))))
 by_cases I:kd=2
 ·subst I;exact fR (fR (eC rfl (ah (eM rfl (ah (eC (decide_eq_true rfl) (ah (done _ (park (.inr rfl)) (.inr ⟨rfl,λh=>(by cases h)⟩)))))))))
 rw[decide_eq_false h1,decide_eq_false I];exact fR (fR (eC rfl (ah (eC rfl (aB (dG i) ht (aM (al (fin h1 I) λy U=>ah (eC (decide_eq_true rfl) (ah (done _ U.1 (U.2.imp id λh=>⟨h,λI=>(h1 I).elim⟩)))))))))))
theorem WE {n:Nat} (hn:n+1<=100000) (I:CT) (L:List ET) (s:ST) (t u:Int) (hc:CB I) (hs:SV n L s) (J:Ju I L s):NC (lK (I,s,t,u)) (SQ n I L)/\(s.2.2.2.length=4->t=0->Ok (lK (I,s,t,u)) (SQ n I L)):=by
 refine zH 4 0 hn I L s t u hc hs J Q0 λsy ce fu l hs hce hfu hl=>⟨by decide,?_⟩
 obtain⟨a,b,c,d,rfl⟩:∃ a b c d,l=[a,b,c,d]:=by
  rcases l with _|⟨a,_|⟨b,_|⟨c,_|⟨d,_|⟨e,l⟩⟩⟩⟩⟩;all_goals first|exact⟨_,_,_,_,rfl⟩|(simp at hl;done)|(exfalso;simp only[bH] at hl;omega)
 refine ⟨_,Xf sy ce fu a b c d hs hce hfu,rfl,rfl,rfl,rfl,rfl,rfl,zI λR T t'=>rfl⟩
theorem WD {n:Nat} (hn:n+1<=100000) (I:CT) (L:List ET) (s:ST) (t u:Int) (hc:CB I) (hs:SV n L s) (J:Ju I L s):NC (lJ (I,s,t,u)) (SQ n I L)/\(s.2.2.2.length=4->t=1->Ok (lJ (I,s,t,u)) (SQ n I L)):=by
 refine zH 4 1 hn I L s t u hc hs J QZ λsy ce fu l hs hce hfu hl=>⟨by decide,?_⟩
 obtain⟨a,b,c,d,rfl⟩:∃ a b c d,l=[a,b,c,d]:=by
  rcases l with _|⟨a,_|⟨b,_|⟨c,_|⟨d,_|⟨e,l⟩⟩⟩⟩⟩;all_goals first|exact⟨_,_,_,_,rfl⟩|(simp at hl;done)|(exfalso;simp only[bH] at hl;omega)
 refine ⟨_,Xe sy ce fu a b c d hs hce hfu,rfl,rfl,rfl,rfl,rfl,rfl,zI λR T t'=>rfl⟩
theorem WC {n:Nat} (hn:n+1<=100000) (I:CT) (L:List ET) (s:ST) (t u:Int) (hc:CB I) (hs:SV n L s) (J:Ju I L s):NC (kh (I,s,t,u)) (SQ n I L)/\(s.2.2.2.length=4->t=2->Ok (kh (I,s,t,u)) (SQ n I L)):=by
 refine zH 4 2 hn I L s t u hc hs J QY λsy ce fu l hs hce hfu hl=>⟨by decide,?_⟩
 obtain⟨a,b,c,d,rfl⟩:∃ a b c d,l=[a,b,c,d]:=by
  rcases l with _|⟨a,_|⟨b,_|⟨c,_|⟨d,_|⟨e,l⟩⟩⟩⟩⟩;all_goals first|exact⟨_,_,_,_,rfl⟩|(simp at hl;done)|(exfalso;simp only[bH] at hl;omega)
 refine ⟨_,Xd sy ce fu a b c d hs hce hfu,rfl,rfl,rfl,rfl,rfl,rfl,zI λR T t'=>rfl⟩
theorem WA {n:Nat} (hn:n+1<=100000) (I:CT) (L:List ET) (s:ST) (t u:Int) (hc:CB I) (hs:SV n L s) (J:Ju I L s):NC (jr (I,s,t,u)) (SQ n I L)/\(s.2.2.2.length=4->t=3->Ok (jr (I,s,t,u)) (SQ n I L)):=by
 refine zH 4 3 hn I L s t u hc hs J QX λsy ce fu l hs hce hfu hl=>⟨by decide,?_⟩
 obtain⟨a,b,c,d,rfl⟩:∃ a b c d,l=[a,b,c,d]:=by
  rcases l with _|⟨a,_|⟨b,_|⟨c,_|⟨d,_|⟨e,l⟩⟩⟩⟩⟩;all_goals first|exact⟨_,_,_,_,rfl⟩|(simp at hl;done)|(exfalso;simp only[bH] at hl;omega)
 refine ⟨_,Xc sy ce fu a b c d hs hce hfu,rfl,rfl,rfl,rfl,rfl,rfl,zI λR T t'=>rfl⟩
theorem WH {n:Nat} (hn:n+1<=100000) (I:CT) (L:List ET) (s:ST) (t u:Int) (hc:CB I) (hs:SV n L s) (J:Ju I L s):NC (iz (I,s,t,u)) (SQ n I L)/\(s.2.2.2.length=3->t=0->Ok (iz (I,s,t,u)) (SQ n I L)):=by
 refine zH 3 0 hn I L s t u hc hs J Q3 λsy ce fu l hs hce hfu hl=>⟨by decide,?_⟩
 obtain⟨a,b,c,rfl⟩:∃ a b c,l=[a,b,c]:=by
  rcases l with _|⟨a,_|⟨b,_|⟨c,_|⟨d,_|⟨e,l⟩⟩⟩⟩⟩;all_goals first|exact⟨_,_,_,rfl⟩|(simp at hl;done)|(exfalso;simp only[bH] at hl;omega)
 refine ⟨_,Xi sy ce fu a b c hs hce hfu,rfl,rfl,rfl,rfl,rfl,rfl,zI λR T t'=>rfl⟩
theorem WG {n:Nat} (hn:n+1<=100000) (I:CT) (L:List ET) (s:ST) (t u:Int) (hc:CB I) (hs:SV n L s) (J:Ju I L s):NC (gL (I,s,t,u)) (SQ n I L)/\(s.2.2.2.length=3->t=1->Ok (gL (I,s,t,u)) (SQ n I L)):=by
 refine zH 3 1 hn I L s t u hc hs J Q2 λsy ce fu l hs hce hfu hl=>⟨by decide,?_⟩
 obtain⟨a,b,c,rfl⟩:∃ a b c,l=[a,b,c]:=by
  rcases l with _|⟨a,_|⟨b,_|⟨c,_|⟨d,_|⟨e,l⟩⟩⟩⟩⟩;all_goals first|exact⟨_,_,_,rfl⟩|(simp at hl;done)|(exfalso;simp only[bH] at hl;omega)
 refine ⟨_,Xh sy ce fu a b c hs hce hfu,rfl,rfl,rfl,rfl,rfl,rfl,zI λR T t'=>rfl⟩
theorem WF {n:Nat} (hn:n+1<=100000) (I:CT) (L:List ET) (s:ST) (t u:Int) (hc:CB I) (hs:SV n L s) (J:Ju I L s):NC (gg (I,s,t,u)) (SQ n I L)/\(s.2.2.2.length=3->t=2->Ok (gg (I,s,t,u)) (SQ n I L)):=by
 refine zH 3 2 hn I L s t u hc hs J Q1 λsy ce fu l hs hce hfu hl=>⟨by decide,?_⟩
 obtain⟨a,b,c,rfl⟩:∃ a b c,l=[a,b,c]:=by
  rcases l with _|⟨a,_|⟨b,_|⟨c,_|⟨d,_|⟨e,l⟩⟩⟩⟩⟩;all_goals first|exact⟨_,_,_,rfl⟩|(simp at hl;done)|(exfalso;simp only[bH] at hl;omega)
 refine ⟨_,Xg sy ce fu a b c hs hce hfu,rfl,rfl,rfl,rfl,rfl,rfl,zI λR T t'=>rfl⟩
theorem WJ {n:Nat} (hn:n+1<=100000) (I:CT) (L:List ET) (s:ST) (t u:Int) (hc:CB I) (hs:SV n L s) (J:Ju I L s):NC (fB (I,s,t,u)) (SQ n I L)/\(s.2.2.2.length=2->t=0->Ok (fB (I,s,t,u)) (SQ n I L)):=by
 refine zH 2 0 hn I L s t u hc hs J Q5 λsy ce fu l hs hce hfu hl=>⟨by decide,?_⟩
 obtain⟨a,b,rfl⟩:∃ a b,l=[a,b]:=by
  rcases l with _|⟨a,_|⟨b,_|⟨c,_|⟨d,_|⟨e,l⟩⟩⟩⟩⟩;all_goals first|exact⟨_,_,rfl⟩|(simp at hl;done)|(exfalso;simp only[bH] at hl;omega)
 refine ⟨_,Xk sy ce fu a b hs hce hfu,rfl,rfl,rfl,rfl,rfl,rfl,zI λR T t'=>rfl⟩
theorem WI {n:Nat} (hn:n+1<=100000) (I:CT) (L:List ET) (s:ST) (t u:Int) (hc:CB I) (hs:SV n L s) (J:Ju I L s):NC (eV (I,s,t,u)) (SQ n I L)/\(s.2.2.2.length=2->t=1->Ok (eV (I,s,t,u)) (SQ n I L)):=by
 refine zH 2 1 hn I L s t u hc hs J Q4 λsy ce fu l hs hce hfu hl=>⟨by decide,?_⟩
 obtain⟨a,b,rfl⟩:∃ a b,l=[a,b]:=by
  rcases l with _|⟨a,_|⟨b,_|⟨c,_|⟨d,_|⟨e,l⟩⟩⟩⟩⟩;all_goals first|exact⟨_,_,rfl⟩|(simp at hl;done)|(exfalso;simp only[bH] at hl;omega)
 refine ⟨_,Xj sy ce fu a b hs hce hfu,rfl,rfl,rfl,rfl,rfl,rfl,zI λR T t'=>rfl⟩
theorem WL {n:Nat} (hn:n+1<=100000) (I:CT) (L:List ET) (s:ST) (t u:Int) (hc:CB I) (hs:SV n L s) (J:Ju I L s):NC (eW (I,s,t,u)) (SQ n I L)/\(s.2.2.2.length=1->t=0->Ok (eW (I,s,t,u)) (SQ n I L)):=by
 refine zH 1 0 hn I L s t u hc hs J Q6 λsy ce fu l hs hce hfu hl=>⟨by decide,?_⟩
 obtain⟨a,rfl⟩:∃ a,l=[a]:=by
  rcases l with _|⟨a,_|⟨b,_|⟨c,_|⟨d,_|⟨e,l⟩⟩⟩⟩⟩;all_goals first|exact⟨_,rfl⟩|(simp at hl;done)|(exfalso;simp only[bH] at hl;omega)
 refine ⟨_,Xl sy ce fu a hs hce hfu,rfl,rfl,rfl,rfl,rfl,rfl,zI λR T t'=>rfl⟩
theorem WM {n:Nat} (hn:n+1<=100000) (c:CT) (L:List ET) (s:ST) (t u:Int) (hc:CB c) (hs:SV n L s) (Z:Ju c L s):Ok (yq (c,s,t,u)) (SQ n c L):=by
 unfold yq;have I:=WE hn c L s t u hc hs Z;have J:=WD hn c L s t u hc hs Z;have M:=WC hn c L s t u hc hs Z;have U:=WA hn c L s t u hc hs Z;have Y:=WH hn c L s t u hc hs Z;have a31:=WG hn c L s t u hc hs Z;have a32:=WF hn c L s t u hc hs Z;have a20:=WJ hn c L s t u hc hs Z;have a21:=WI hn c L s t u hc hs Z;have a10:=WL hn c L s t u hc hs Z;by_cases hz:s.2.2.2.length<=4/\0<=t/\t<(s.2.2.2.length:Int)
 ·obtain⟨h1,h2,h3⟩:=hz;have:(s.2.2.2.length=4/\t=0)\/(s.2.2.2.length=4/\t=1)\/(s.2.2.2.length=4/\t=2)\/(s.2.2.2.length=4/\t=3)\/(s.2.2.2.length=3/\t=0)\/(s.2.2.2.length=3/\t=1)\/(s.2.2.2.length=3/\t=2)\/(s.2.2.2.length=2/\t=0)\/(s.2.2.2.length=2/\t=1)\/(s.2.2.2.length=1/\t=0):=by omega
  rcases this with h|h|h|h|h|h|h|h|h|h
  ·exact (I.2 h.1 h.2).orL
  ·exact I.1.orR (J.2 h.1 h.2).orL
  ·exact I.1.orR (J.1.orR (M.2 h.1 h.2).orL)
  ·exact I.1.orR (J.1.orR (M.1.orR (U.2 h.1 h.2).orL))
  ·exact I.1.orR (J.1.orR (M.1.orR (U.1.orR (Y.2 h.1 h.2).orL)))
  ·exact I.1.orR (J.1.orR (M.1.orR (U.1.orR (Y.1.orR (a31.2 h.1 h.2).orL))))
  ·exact I.1.orR (J.1.orR (M.1.orR (U.1.orR (Y.1.orR (a31.1.orR (a32.2 h.1 h.2).orL)))))
  ·exact I.1.orR (J.1.orR (M.1.orR (U.1.orR (Y.1.orR (a31.1.orR (a32.1.orR (a20.2 h.1 h.2).orL))))))
  ·exact I.1.orR (J.1.orR (M.1.orR (U.1.orR (Y.1.orR (a31.1.orR (a32.1.orR (a20.1.orR (a21.2 h.1 h.2).orL)))))))
  ·exact I.1.orR (J.1.orR (M.1.orR (U.1.orR (Y.1.orR (a31.1.orR (a32.1.orR (a20.1.orR (a21.1.orR (a10.2 h.1 h.2)))))))))
 ·refine Ok.orL ?_;unfold lK Prod.p2 Prod.p3 Prod.q4;refine Gl hn hc hs Z (λo=>Ok o (SQ n c L)) (λy h=>ah h) _ λe v sy hp _ _ _ _ _=>(hz ?_).elim
  have h1:s.2.2.2.length=c.2.length:=hp.fs.th;have h2:c.2.length=c.1.2.2.2.2.1.length:=hp.fs.vc.tl;have h3:c.1.2.2.2.2.1.length<=4:=hp.fs.vc.vl.t;have h4:0<=t:=hp.t0;have h5:t<(c.2.length:Int):=hp.t1;exact⟨by omega,h4,by omega⟩
theorem aaq (c:CT) (s:ST) (l:List (Int×Int)) (hc:CB c) (hs:SV 0 [] s) (hI:Ju c [] s) (hl:l.length<=9223372036854775806):Ok (uG (c,s,l)) λy=>y.1.length<=400/\(∀ e∈y.1,EvF c.1 e/\Xb e)/\∃ sy ce fu,ZS c.1 y.1 sy ce fu:=by
 unfold uG Prod.p2 Prod.p3 Prod.q4 bk bn bw aP cu ax ca;refine oS (λx=>((l.length:Int)-x.1).toNat) (λx=>0<=x.1/\x.2.2.1=c/\SV x.2.1.length x.2.1 x.2.2.2.1/\Ju c x.2.1 x.2.2.2.1/\x.2.1.length<=400/\∀ e∈x.2.1,EvF c.1 e/\Xb e) ?_ ⟨dX _,rfl,hs,hI,by simp,λe he=>(by cases he)⟩;rintro⟨(i:Int),es,c',s',z⟩ ⟨U,e1,e2,eI,e3,I⟩;dsimp only at U e1 e2 eI e3 I;subst e1;refine aQ (λx=>x.2=(es,c',s',z)/\(x.1=ajp->i<(l.length:Int)/\es.length<400)) ?_ ?_
 ·refine aI (λg=>ah ⟨rfl,λh=>⟨g,?_⟩⟩) λ_=>ah ⟨rfl,λh=>(by cases h)⟩
  dsimp only at h;rw[rN] at h;dsimp only[ai] at h;omega
 rintro⟨b,x⟩ ⟨Z,Y⟩;dsimp only at Z Y;subst Z;refine aK (λh=>?_) λ_=>ah ⟨e3,I,_,_,_,eI.ac⟩
 obtain⟨g1,g2⟩:=Y h;refine aQ (λx=>x.2.1=c'/\SV x.1.length x.1 x.2.2.1/\Ju c' x.1 x.2.2.1/\x.1.length<=400/\∀ e∈x.1,EvF c'.1 e/\Xb e) ?_ ?_
 ·refine aB U g1 (aM ?_);refine al (WM (n:=es.length) (by omega) c' es s' _ _ hc e2 eI) λy hy=>?_
  refine aK (λh=>?_) λ_=>ah ⟨rfl,e2,eI,e3,I⟩
  obtain⟨h1,hJ,h2,h3⟩:=hy h;refine ba (by simp;omega) (by omega) (ah ⟨rfl,?_,hJ,by simp;omega,λe he=>?_⟩)
  ·dsimp only;rw[bg,fw];exact h1
  ·rcases bE.1 he with he|he
   ·exact I e he
   ·rw[aF] at he;subst he;exact⟨h2,h3⟩
 rintro⟨es',c2,s2,z2⟩ ⟨k1,k2,kI,M,J⟩;dsimp only at k1 k2 kI M J;subst k1;refine ah ?_;dsimp only;rw[gK (n:=i+1) (by omega) (by omega)];exact⟨⟨by omega,rfl,k2,kI,M,J⟩,by omega⟩
theorem CB.vc {c:CT} (hc:CB c):VC c:=by
 obtain⟨b,h1,I⟩:=QI c hc.th hc.ins;rw[hc.ok] at h1;cases h1;exact I rfl
theorem af4 (c:CT) (l:List (Int×Int)) (hc:CB c) (hl:l.length<=9223372036854775806):Ok (xr (c,l)) λy=>TR y.1:=by
 unfold xr;refine aN hc.ok (dB (λh=>(by cases h)) λ_=>?_);have hv:=hc.vc;refine al (TO c hc.ok hv) λs hs=>?_
 refine al (aaq c s l hc hs.1 hs.2 hl) λy I=>ah ?_
 exact⟨hv.vl.wb,hv.vl,λe he=>(I.2.1 e he).1,by have:=I.1;dsimp only;omega,λe he=>(I.2.1 e he).2,hc.wx,I.2.2⟩
theorem TZ (l:List Int) (hl:l.length<=1000000):Ok (nB l) λy=>y.length=l.length:=by
 unfold nB bk bn bw aP cu ax ca;refine bX l.length (λi x=>x.1=(i:Int)/\x.2.length=i) ?_ ?_ ⟨rfl,rfl⟩
 ·rintro i ⟨a,b⟩ hi ⟨e1,e2⟩;dsimp only at e1 e2;subst e1;refine aI (λ_=>?_) λg=>(by dsimp only[ai] at g;omega)
  refine aB (by dsimp only;omega) (by dsimp only;omega) (aM (aB (by dsimp only;omega) (by dsimp only;omega) (aM (ba (by simp;omega) (by omega) (ah ?_)))));dsimp only;exact⟨go (by omega),by simp;omega⟩
 ·rintro⟨a,b⟩ ⟨e1,e2⟩;dsimp only at e1 e2;subst e1;exact aI (λg=>(by dsimp only[ai] at g;omega)) λ_=>ah e2
theorem ef (e:Xp):du (Xp.op e,Xp.n e,Xp.name e,Xp.l e)=e:=by cases e;rfl
theorem xk (s:Sx):mD (Sx.op s,Sx.line s,Sx.name s,Sx.arg s,Sx.index s,Sx.expr s,Sx.body s,Sx.els s)=s:=by cases s;rfl
abbrev NV:List (List UInt8):=[[97],[98],[120],[121],[118]]
def GE:Nat->Xp->Prop
 |0,_=>False
 |d+1,e=>(e.op=3->e.name=[113])/\(e.op≠1->e.op≠2->1<=e.l.length)/\e.l.length<=2/\(∀ x∈e.l,GE d x)/\(e.op=2->e.name∈NV)/\(e.op≠1->e.op≠2->e.op≠3->2<=e.l.length/\6<=e.op/\e.op<=18)
theorem GE.mono:∀ {d:Nat} {e:Xp},GE d e->GE (d+1) e
 |0,_,h=>h.elim
 |_+1,_,h=>⟨h.1,h.2.1,h.2.2.1,λx I=>(h.2.2.2.1 x I).mono,h.2.2.2.2⟩
theorem GE.le {d k:Nat} {e:Xp} (h:GE d e) (hk:d<=k):GE k e:=by
 induction hk with
 |refl=>exact h
 |step _ I=>exact I.mono
theorem L7 (n:Int):qb n=ajn (.mk 1 n [] []):=rfl
theorem FU (s:List UInt8):om s=ajn (.mk 2 0 s []):=rfl
theorem DI (o:Int) (a b:Xp):mC (o,a,b)=ajn (.mk o 0 [] [a,b]):=by
 cases a;cases b;rfl
theorem sa (s:List UInt8) (e:Xp):iv (s,e)=ajn (.mk 1 0 s [] [] e [] []):=by
 cases e;rfl
abbrev MK:Type:=Int×Int×Bool×Bool×Bool×Bool
abbrev Nm:Type:=List Int×Int
abbrev HD:Type:=Bool×List (List UInt8)
theorem GE.num (n:Int) (d:Nat):GE (d+1) (.mk 1 n [] []):=⟨λh=>(by cases h),λh=>(h rfl).elim,by simp[Xp.l],λx I=>(by cases I),λh=>(by cases h),λh=>(h rfl).elim⟩
theorem GE.nm {s:List UInt8} (hs:s∈NV) (d:Nat):GE (d+1) (.mk 2 0 s []):=⟨λh=>(by cases h),λ_ h=>(h rfl).elim,by simp[Xp.l],λx I=>(by cases I),λ_=>hs,λ_ h=>(h rfl).elim⟩
theorem GE.bin {o:Int} {a b:Xp} {d:Nat} (J:6<=o/\o<=18) (M:GE d a) (hb:GE d b):GE (d+1) (.mk o 0 [] [a,b]):=
 ⟨λh=>(by have h:o=3:=h;omega),λ_ _=>by simp[Xp.l],by simp[Xp.l],λx I=>by
   simp only[Xp.l,bc,bY,or_false] at I;rcases I with rfl|rfl
   ·exact M
   ·exact hb,λh=>(by have h:o=2:=h;omega),λ_ _ _=>⟨by simp[Xp.l],J⟩⟩
theorem GE.ix {a:Xp} {d:Nat} (J:GE d a):GE (d+1) (.mk 3 0 [113] [a]):=
 ⟨λ_=>rfl,λ_ _=>by simp[Xp.l],by simp[Xp.l],λx I=>by
   simp only[Xp.l,bc,bY,or_false] at I;rw[I];exact J,λh=>(by cases h),λ_ _ h=>(h rfl).elim⟩
theorem BO:∀ (n d:Nat),d<n->d<=10->∀ (m:MK) (t:Nm) (h:HD),TP t->Ok (gA n ((d:Int),m,t,h)) λy=>GE (d+1) y.1/\y.2.1=m/\te t y.2.2.1/\y.2.2.2=h
 |0,d,hd,_,_,_,_,_=>by omega
 |n+1,d,hd,h10,m,t,h,ht=>by
  rw[w9];unfold mK Prod.p2 Prod.p3 Prod.q3 Prod.q4 Prod.q5 aX bk bn kf aP ax;refine al (fe 10 t ht) λy I=>?_
  obtain⟨k,t1⟩:=y;obtain⟨s1,k0,k1,_⟩:=I;have k1:=k1 (by decide);dsimp only at s1 k0 k1;refine aQ (λx=>x.2=(m,t1,h,(0,0,[]),[[97],[98],[120],[121],[118],[120],[121]])/\(x.1=ajq->2<=k/\(d=0->k<7))) ?_ ?_
  ·refine aI (λ_=>ah ⟨rfl,λh=>(by cases h)⟩) λg=>aE (λg2=>ah ⟨rfl,λg3=>⟨g,λ_=>?_⟩⟩) λg2=>ah ⟨rfl,λ_=>⟨g,λh=>(g2 (by dsimp only;omega)).elim⟩⟩
   dsimp only at g3;rw[kP] at g3;exact g3
  rintro⟨b,x⟩ ⟨e,hb⟩;dsimp only at e hb;subst e;refine aK (λ_=>?_) λg=>?_
  ·refine al (fe 4 t1 s1.p) λy I=>?_
   refine aN (L7 _) (ah ?_);exact⟨GE.num _ _,rfl,s1.trans I.1,rfl⟩
  obtain⟨q0,q1⟩:=hb g;refine aI (λg=>?_) λg=>?_
  ·refine al (fe _ t1 s1.p) λy I=>?_
   obtain⟨u1,M,J,_⟩:=I;have J:=J (show (1:Int)<=7 by decide);refine aB M J (aB M J (aM ?_));refine aN (FU _) (ah ?_);have hnv:∀ z∈([[97],[98],[120],[121],[118],[120],[121]]:List (List UInt8)),z∈NV:=by decide
   exact⟨GE.nm (hnv _ (bx (T:=.str) M J)) _,rfl,s1.trans u1,rfl⟩
  dsimp only at g;have hd0:d≠0:=λh=>by have:=q1 h;omega
  obtain⟨d,rfl⟩:∃ k,d=k+1:=⟨d-1,by omega⟩
  refine aE (λg=>?_) λg=>?_
  ·refine al (BO n 0 (by omega) (by omega) m t1 h s1.p) λy I=>?_
   obtain⟨e,m',t',h'⟩:=y;obtain⟨v1,Z,U,Y⟩:=I;dsimp only at v1 Z U Y;subst Z;subst Y;refine aW (by simp) (ah ?_);dsimp only;rw[ef];exact⟨(GE.ix (v1.le (by omega):GE (d+1) e)),rfl,s1.trans U,rfl⟩
  ·refine al (fe _ t1 s1.p) λy I=>?_
   obtain⟨k2,t2⟩:=y;obtain⟨u1,M,J,_⟩:=I;have J:=J (by decide);dsimp only at u1 M J;refine aB M J (aB M J (aM ?_));have ho:(6:Int)<=aD (T:=.int .i64) [6,7,8,11,13,17] k2/\aD (T:=.int .i64) [6,7,8,11,13,17] k2<=(18:Int):=by
    have h1:=bx (T:=.int .i64) (xs:=([6,7,8,11,13,17]:List Int)) M J;have:∀ z:Int,z∈([6,7,8,11,13,17]:List Int)->6<=z/\z<=18:=by decide
    exact this _ h1
   have ew:be .i64 (((d+1:Nat):Int)-1)=(d:Int):=by rw[gK (by omega) (by omega)];omega
   dsimp only;rw[ew];refine al (BO n d (by omega) (by omega) m t2 h u1.p) λy I=>?_
   obtain⟨e,m',t',h'⟩:=y;obtain⟨v1,Z,U,Y⟩:=I;dsimp only at v1 Z U Y;subst Z;subst Y;refine aW (by simp) ?_;refine al (BO n d (by omega) (by omega) m' t' h' U.p) λy I=>?_
   obtain⟨e2,m2,t2',h2⟩:=y;obtain⟨w1,w2,w3,w4⟩:=I;dsimp only at w1 w2 w3 w4;subst w2;subst w4;refine aW (by simp) ?_;refine aN (DI _ _ _) (ah ?_);dsimp only;rw[ef];exact⟨GE.bin ho v1 w1,rfl,s1.trans (u1.trans (U.trans w3)),rfl⟩
theorem Ya (d:Nat) (hd:d<=10) (m:MK) (t:Nm) (h:HD) (ht:TP t):Ok (dZ ((d:Int),m,t,h)) λy=>GE (d+1) y.1/\y.2.1=m/\te t y.2.2.1/\y.2.2.2=h:=BO fuel d (by rw[iZ];omega) hd m t h ht
def NE (op:Int):Prop:=op=1\/op=2\/op=3\/op=14
def ZE (e:Xp):Prop:=GE 4 e\/e= .mk 0 0 [] []
structure NO (nT:Nat) (s:Sx):Prop where
 o0:1<=s.op
 o1:s.op<=15
 vr:s.op=1->s.index=[]->s.name∈NV
 lk:s.op=4->s.name=[109]\/s.name=[110]
 rw:s.op=5\/s.op=6->s.name=[114]
 cn:s.op=9\/s.op=10\/s.op=11->s.name=[99]
 sp:s.op=12\/s.op=13->s.name∈uz.take nT
 se:s.op=14->s.name=[102]
 ge:s.op=15->s.name=[97]/\s.arg=[102]
 el:¬s.op=2->s.els=[]
 bo:s.op=1\/9<=s.op->s.body=[]
variable {nT:Nat}
def GS (nT:Nat):Nat->Sx->Prop
 |0,_=>False
 |d+1,s=>(s.index≠[]->s.name=[113])/\s.index.length<=1/\(∀ e∈s.index,GE 4 e)/\(NE s.op->GE 4 s.expr)/\ZE s.expr/\s.body.length<=8/\s.els.length<=8/\(∀ x∈s.body,GS nT d x)/\(∀ x∈s.els,GS nT d x)/\NO nT s
theorem GS.mono:∀ {d:Nat} {s:Sx},GS nT d s->GS nT (d+1) s
 |0,_,h=>h.elim
 |_+1,_,⟨a,b,c,e,f,g,i,j,k,l⟩=>⟨a,b,c,e,f,g,i,λx I=>(j x I).mono,λx I=>(k x I).mono,l⟩
theorem GS.le {d k:Nat} {s:Sx} (h:GS nT d s) (hk:d<=k):GS nT k s:=by
 induction hk with
 |refl=>exact h
 |step _ I=>exact I.mono
theorem NO.asg {s a:List UInt8} {e:Xp} {i:List Xp} (hs:i=[]->s∈NV):NO nT (.mk 1 0 s a i e [] []):=by
 constructor<;>simp[Sx.op,Sx.name,Sx.index,Sx.els,Sx.body];exact λh=>by simpa using hs h
theorem GS.asg {d:Nat} {s:List UInt8} (hs:s∈NV) {e:Xp} (h:GE 4 e):GS nT (d+1) (.mk 1 0 s [] [] e [] []):=
 ⟨λh=>(h rfl).elim,by simp[Sx.index],λe he=>(by cases he),λ_=>h,.inl h,by simp[Sx.body],by simp[Sx.els],λx I=>(by cases I),λx I=>(by cases I),NO.asg λ_=>hs⟩
theorem GS.aix {d:Nat} {i e:Xp} (hi:GE 4 i) (h:GE 4 e):GS nT (d+1) (.mk 1 0 [113] [] [i] e [] []):=
 ⟨λ_=>rfl,by simp[Sx.index],λe he=>(by simp only[Sx.index,aF] at he;rw[he];exact hi),λ_=>h,.inl h,by simp[Sx.body],by simp[Sx.els],λx I=>(by cases I),λx I=>(by cases I),NO.asg λh=>(by cases h)⟩
theorem GS.we {d:Nat} {op:Int} {s a:List UInt8} {e:Xp} {b l:List Sx} (h:GE 4 e) (hb:b.length<=8) (hl:l.length<=8) (I:∀ x∈b,GS nT d x) (gl:∀ x∈l,GS nT d x) (hn:NO nT (.mk op 0 s a [] e b l)):GS nT (d+1) (.mk op 0 s a [] e b l):=
 ⟨λh=>(h rfl).elim,by simp[Sx.index],λe he=>(by cases he),λ_=>h,.inl h,hb,hl,I,gl,hn⟩
theorem GS.wo {d:Nat} {op ln:Int} {s a:List UInt8} {b:List Sx} (M:4<=op/\op≠14) (hb:b.length<=8) (J:∀ x∈b,GS nT d x) (hn:NO nT (.mk op ln s a [] (.mk 0 0 [] []) b [])):GS nT (d+1) (.mk op ln s a [] (.mk 0 0 [] []) b []):=
 ⟨λh=>(h rfl).elim,by simp[Sx.index],λe he=>(by cases he),λh=>(by have h:op=1\/op=2\/op=3\/op=14:=h;omega),.inr rfl,hb,by simp[Sx.els],J,λx I=>(by cases I),hn⟩
def QS (nT:Nat) (d:Nat) (n:Int) (t:Nm) (h:HD) (y:MK×Nm×HD×List Sx):Prop:=(y.2.2.2.length:Int)<=max 0 n/\(∀ s∈y.2.2.2,GS nT (d+1) s)/\te t y.2.1/\y.2.2.1.2=h.2
def QT (nT:Nat) (d:Nat) (t:Nm) (h:HD) (y:Sx×MK×Nm×HD):Prop:=GS nT (d+1) y.1/\te t y.2.2.1/\y.2.2.2.2=h.2
def QB (nT:Nat) (d:Nat) (t:Nm) (h:HD) (y:List Sx×MK×Nm×HD):Prop:=y.1.length<=2/\(∀ s∈y.1,GS nT (d+1) s)/\te t y.2.2.1/\y.2.2.2.2=h.2
abbrev RS:Type:=((Int×Int)×MK×Nm×HD)->Option (MK×Nm×HD×List Sx)
abbrev RT:Type:=(Int×MK×Nm×HD)->Option (Sx×MK×Nm×HD)
abbrev RBk:Type:=((List UInt8×Int)×MK×Nm×HD)->Option (List Sx×MK×Nm×HD)
def SpS (nT:Nat) (rs:RS) (d:Nat):Prop:=∀ (n:Int) (m:MK) (t:Nm) (h:HD),n<=3->TP t->h.2.length+d<=100->Ok (rs (((d:Int),n),m,t,h)) (QS nT d n t h)
def SpT (nT:Nat) (I:RT) (d:Nat):Prop:=∀ (m:MK) (t:Nm) (h:HD),TP t->h.2.length+d<=100->Ok (I ((d:Int),m,t,h)) (QT nT d t h)
def SpB (nT:Nat) (I:RBk) (d:Nat):Prop:=∀ (s:List UInt8) (m:MK) (t:Nm) (h:HD),TP t->h.2.length+1+d<=100->Ok (I ((s,(d:Int)),m,t,h)) (QB nT d t h)
theorem VW (rs:RS) (M:RT) (rb:RBk) (d:Nat) (ht:SpT nT M d):SpS nT (lw rs M rb) d:=by
 intro n m t h hn hp hh;unfold lw Prod.p2 Prod.p3 Prod.p4 Prod.q3 Prod.q4 Prod.q5 aX bk bn cu ax ca dw;refine oS (λx=>(n-x.1).toNat) (λx=>0<=x.1/\(x.1<=n\/x.1=0)/\te t x.2.2.1/\(x.2.2.2.1.length:Int)<=x.1/\(∀ s∈x.2.2.2.1,GS nT (d+1) s)/\x.2.2.2.2.2=h.2) ?_ ⟨dX _,.inr rfl,te.refl hp,by simp,λs hs=>(by cases hs),rfl⟩;rintro⟨(i:Int),m',t',l,h'⟩ ⟨i0,i1,e1,e2,e3,J⟩;dsimp only at i0 i1 e1 e2 e3 J;refine aQ (λx=>x.2=(m',t',l,h')/\(x.1=ajp->i<n)) ?_ ?_
 ·refine aI (λg=>aE (λ_=>ah ⟨rfl,λ_=>g⟩) λ_=>ah ⟨rfl,λ_=>g⟩) λ_=>ah ⟨rfl,λh=>(by cases h)⟩
 rintro⟨b,x⟩ ⟨Z,Y⟩;dsimp only at Z Y;subst Z;refine aK (λhb=>?_) λ_=>ah ⟨by dsimp only;omega,e3,e1,J⟩
 have g:=Y hb;refine al (ht m' t' h' e1.p (by rw[J];exact hh)) λy hy=>?_
 obtain⟨s,m2,t2,h2⟩:=y;obtain⟨k1,k2,U⟩:=hy;dsimp only at k1 k2 U;refine aW (by simp) (ba (by simp;omega) (by omega) (ah ?_));dsimp only;rw[ef,xk,gK (n:=i+1) (by omega) (by omega)];refine ⟨⟨by omega,by omega,e1.trans k2,by simp;omega,λx I=>?_,U.trans J⟩,by omega⟩;rcases bE.1 I with I|I
 ·exact e3 x I
 ·rw[aF] at I;subst I;exact k1
theorem VZ (rs:RS) (rt:RT) (rb:RBk) (d:Nat) (hs:SpS nT rs d):SpB nT (lx rs rt rb) d:=by
 intro s m t h hp hh;unfold lx Prod.p2 Prod.p3 Prod.q3 Prod.q4 bn aP;refine ba (by simp;omega) (by omega) ?_;refine al (fe 2 t hp) λy M=>?_
 obtain⟨k,t1⟩:=y;obtain⟨J,Z,I,_⟩:=M;have I:=I (by decide);dsimp only at J Z I;have ew:be .i64 (1+k)=1+k:=gK (by omega) (by omega);dsimp only;rw[ew];refine al (hs (1+k) m t1 (h.1,h.2++[s]) (by omega) J.p (by simp;omega)) λy M=>?_
 obtain⟨m2,t2,h2,l⟩:=y;obtain⟨k1,k2,Y,U⟩:=M;dsimp only at k1 k2 Y U;refine aW (by simp) ?_;dsimp only;rw[U];have el:be .i64 ((aJ (h.2++[s]).length)-1)=(h.2.length:Int):=by
  rw[bg,fw,gK (by simp<;>omega) (by simp<;>omega)];simp<;>omega
 rw[el];refine cY (dY (by omega) (yp (by simp;omega) (ah ?_)));refine ⟨by dsimp only;omega,k2,J.trans Y,?_⟩;show db (aL (h.2.length:Int)) (h.2++[s])=h.2;simp
theorem Bz (s:List UInt8) (m:MK) (t:Nm) (h:HD) (hh:h.2.length<=100):Ok (dL (s,m,t,h)) λy=>y.2=(m,t,h):=by
 unfold dL Prod.q4;exact al (wY h.2 s (by omega)) λy _=>ah rfl
theorem YC (rs:RS) (rt:RT) (rb:RBk) (d:Nat) (hd:d<=5) (h0:1<=d->SpS nT rs 0) (hS:1<=d->SpS nT rs (d-1)) (hB:1<=d->SpB nT rb (d-1)):SpT nT (mJ rs rt rb) d:=by
 intro m t h hp hh;unfold mJ Prod.p2 Prod.p3 Prod.p4 Prod.q3 Prod.q4 Prod.q5 aX bk bn kf ax dw;refine al (fe 18 t hp) λy J=>?_
 obtain⟨k,t1⟩:=y;obtain⟨s1,k0,k1,_⟩:=J;have k1:=k1 (by decide);dsimp only at s1 k0 k1;have hE:∀ (j:Nat) (m':MK) (t':Nm) (h':HD),j<=1->TP t'->Ok (dZ ((j:Int),m',t',h')) λy=>GE 4 y.1/\y.2.1=m'/\te t' y.2.2.1/\y.2.2.2=h':=λj m' t' h' hj ht'=>(Ya j (by omega) m' t' h' ht').mono λy J=>⟨J.1.le (by omega),J.2⟩
 have ed:be .i64 ((d:Int)-1)=(d:Int)-1:=gK (by omega) (by omega);have ed1:1<=d->(d:Int)-1=((d-1:Nat):Int):=λ_=>by omega
 refine aQ (λx=>x.2=((m.1,be .i64 (m.2.1-1),m.2.2),t1,(0,0,[],[],0,0,[]),h)/\(x.1=ajp->1<=d)) ?_ ?_
 ·refine aI (λg=>aM (aI (λ_=>ah ⟨rfl,λ_=>?_⟩) λ_=>ah ⟨rfl,λh=>(by cases h)⟩)) λ_=>ah ⟨rfl,λh=>(by cases h)⟩
  dsimp only at g;omega
 generalize ((m.1,be .i64 (m.2.1-1),m.2.2):MK)=m0;rintro⟨nest,x⟩ ⟨e,hn⟩;dsimp only at e hn;subst e;refine aI (λ_=>?_) λg4=>?_
 ·refine aB k0 (by dsimp only[af];omega) (aB k0 (by dsimp only[af];omega) (aM ?_));refine al (hE 1 m0 t1 h (by omega) s1.p) λy J=>?_
  obtain⟨e,m2,t2,h2⟩:=y;obtain⟨v1,v2,v3,v4⟩:=J;dsimp only at v1 v2 v3 v4;subst v2;subst v4;refine aW (by simp) (aN (sa _ _) (ah ?_));dsimp only;rw[ef,xk];have hnv:∀ z∈([[120],[121],[120],[118]]:List (List UInt8)),z∈NV:=by decide
  exact⟨GS.asg (hnv _ (bx (T:=.str) k0 (by dsimp only[af];omega))) v1,s1.trans v3,rfl⟩
 dsimp only at g4;refine aE (λ_=>?_) λg5=>?_
 ·refine al (fe 2 t1 s1.p) λy J=>?_
  obtain⟨u1,u2,u3,_⟩:=J;have u3:=u3 (by decide);refine aB u2 u3 (aB u2 u3 (aM ?_));refine al (hE 1 m0 y.2 h (by omega) u1.p) λz U=>?_
  obtain⟨e,m2,t2,h2⟩:=z;obtain⟨v1,v2,v3,v4⟩:=U;dsimp only at v1 v2 v3 v4;subst v2;subst v4;refine aW (by simp) (aN (sa _ _) (ah ?_));dsimp only;rw[ef,xk];have hnv:∀ z∈([[97],[98]]:List (List UInt8)),z∈NV:=by decide
  exact⟨GS.asg (hnv _ (bx (T:=.str) u2 u3)) v1,s1.trans (u1.trans v3),rfl⟩
 dsimp only at g5;refine aE (λ_=>?_) λg6=>?_
 ·refine al (hE 0 m0 t1 h (by omega) s1.p) λz U=>?_
  obtain⟨e,m2,t2,h2⟩:=z;obtain⟨v1,v2,v3,v4⟩:=U;dsimp only at v1 v2 v3 v4;subst v2;subst v4;refine aW (by simp) ?_;refine al (hE 1 m2 t2 h2 (by omega) v3.p) λz U=>?_
  obtain⟨e',m3,t3,h3⟩:=z;obtain⟨w1,Z,w3,w4⟩:=U;dsimp only at w1 Z w3 w4;subst Z;subst w4;refine aW (by simp) (ah ?_);dsimp only;rw[ef,ef];exact⟨GS.aix v1 w1,s1.trans (v3.trans w3),rfl⟩
 dsimp only at g6;have U:∀ (c:Prop),c->c:=λ_ h=>h
 have dd:1<=d->d-1+1=d:=λ_=>by omega
 have w8:8<=k->be .i64 (k-8)=k-8:=λ_=>gK (by omega) (by omega)
 refine aQ (λx=>x.2=(m0,t1,(0,0,[],[],0,0,[]),h)/\(x.1=ajp->1<=d)) ?_ ?_
 ·refine aE (λ_=>ah ⟨rfl,λg=>?_⟩) λ_=>ah ⟨rfl,λh=>(by cases h)⟩
  dsimp only at g;rw[rN] at g;omega
 rintro⟨b,x⟩ ⟨e,hb⟩;dsimp only at e hb;subst e;refine aK (λI=>?_) λ_=>?_
 ·have M:=hb I;refine al (hE 1 m0 t1 h (by omega) s1.p) λz U=>?_
  obtain⟨e,m2,t2,h2⟩:=z;obtain⟨v1,v2,v3,v4⟩:=U;dsimp only at v1 v2 v3 v4;subst v2;subst v4;refine aW (by simp) ?_;dsimp only;rw[ed,ed1 M];refine al (hS M 1 m2 t2 h2 (by omega) v3.p (by omega)) λz U=>?_
  obtain⟨m3,t3,h3,l⟩:=z;obtain⟨w1,Z,w3,w4⟩:=U;dsimp only at w1 Z w3 w4;rw[dd M] at Z;refine aW (by simp) ?_;refine aQ (λx=>x.2.2.2.1=(2,0,[],[],e.op,e.n,e.name,e.l)/\te t1 x.2.1/\x.2.2.2.2.1.2=h2.2/\x.2.2.2.2.2.1=l/\x.2.2.2.2.2.2.length<=8/\∀ s∈x.2.2.2.2.2.2,GS nT d s) ?_ ?_
  ·refine al (fe 2 t3 w3.p) λy J=>?_
   refine aE (λ_=>?_) λ_=>ah ⟨rfl,v3.trans (w3.trans J.1),w4,rfl,by simp,λs hs=>(by cases hs)⟩
   dsimp only;refine al (hS M 1 m3 y.2 h3 (by omega) J.1.p (by rw[w4];omega)) λz U=>?_
   obtain⟨m4,t4,h4,l2⟩:=z;obtain⟨x1,x2,x3,x4⟩:=U;dsimp only at x1 x2 x3 x4;rw[dd M] at x2;exact aW (by simp) (ah ⟨rfl,v3.trans (w3.trans (J.1.trans x3)),x4.trans w4,rfl,by dsimp only;omega,x2⟩)
  rintro⟨m5,t5,z5,e5,h5,l5,l6⟩ ⟨x1,x2,x3,x4,x5,x6⟩;dsimp only at x1 x2 x3 x4 x5 x6;subst x1;subst x4;refine ah ?_;dsimp only;rw[ef];exact⟨GS.we v1 (by first|omega|(dsimp only;omega)) x5 Z x6 (by constructor<;>simp[Sx.op,Sx.name,Sx.index,Sx.arg,Sx.els,Sx.body]),s1.trans x2,x3⟩
 refine aQ (λx=>x.2=(m0,t1,(0,0,[],[],0,0,[]),h)/\(x.1=ajp->1<=d)) ?_ ?_
 ·refine aE (λ_=>ah ⟨rfl,λg=>?_⟩) λ_=>ah ⟨rfl,λh=>(by cases h)⟩
  dsimp only at g;rw[rN] at g;omega
 rintro⟨b,x⟩ ⟨e,hb⟩;dsimp only at e hb;subst e;refine aK (λI=>?_) λ_=>?_
 ·have M:=hb I;refine aN (FU _) (aN (L7 _) (aN (DI _ _ _) ?_));dsimp only;rw[ed,ed1 M];refine al (hS M 1 _ t1 h (by omega) s1.p (by omega)) λz U=>?_
  obtain⟨m3,t3,h3,l⟩:=z;obtain⟨w1,Z,w3,w4⟩:=U;dsimp only at w1 Z w3 w4;rw[dd M] at Z;refine aW (by simp) ?_;refine aN (FU _) (aN (L7 _) (aN (DI _ _ _) (aN (sa _ _) ?_)));refine ba (by simp;omega) (by omega) (ah ?_);dsimp only;rw[ef,ef,xk];refine ⟨GS.we (GE.bin (by omega) (GE.nm (by decide) 2) (GE.num _ 2)) (by simp;omega) (by simp) (λx Y=>?_) (λx Y=>(by cases Y)) (by constructor<;>simp[Sx.op,Sx.name,Sx.index,Sx.arg,Sx.els,Sx.body]),s1.trans w3,w4⟩;rcases bE.1 Y with Y|Y
  ·exact Z x Y
  ·rw[aF] at Y;subst Y;rw[<- dd M];exact GS.asg (by decide) (GE.bin (by omega) (GE.nm (by decide) 2) (GE.num _ 2))
 refine aQ (λx=>x.2=(m0,t1,(0,0,[],[],0,0,[]),h)/\(x.1=ajp->nest=ajp/\(k=8\/k=9))) ?_ ?_
 ·refine aE (λg=>aK (λgn=>?_) λ_=>ah ⟨rfl,λh=>(by cases h)⟩) λ_=>aE (λg=>aK (λgn=>?_) λ_=>ah ⟨rfl,λh=>(by cases h)⟩) λ_=>ah ⟨rfl,λh=>(by cases h)⟩
  all_goals
   dsimp only at g ⊢;rw[w8 (by omega)];refine aB (by omega) (by simp;omega) (aB (by omega) (by simp;omega) (aM ?_));refine al (Bz _ m0 t1 h (by omega)) λy J=>?_
   obtain⟨yb,y2⟩:=y;dsimp only at J;subst J;exact aW (by simp) (ah ⟨rfl,λ_=>⟨gn,by omega⟩⟩)
 rintro⟨b,x⟩ ⟨e,hb⟩;dsimp only at e hb;subst e;refine aK (λI=>?_) λ_=>?_
 ·obtain⟨q1,q2⟩:=hb I;have M:=hn q1;have hnm:aD (T:=.str) [[109],[110]] (k-8)=[109]\/aD (T:=.str) [[109],[110]] (k-8)=[110]:=by rcases q2 with rfl|rfl<;>simp[aD]
  dsimp only;rw[w8 (by omega),ed,ed1 M];refine aB (by omega) (by simp;omega) (aB (by omega) (by simp;omega) (aM ?_));refine al (hB M _ m0 t1 h s1.p (by omega)) λz U=>?_
  obtain⟨l,m3,t3,h3⟩:=z;obtain⟨w1,Z,w3,w4⟩:=U;dsimp only at w1 Z w3 w4;rw[dd M] at Z;exact aW (by simp) (ah ⟨GS.wo (by omega) (by first|omega|(dsimp only;omega)) Z (by constructor<;>simp[Sx.op,Sx.name,Sx.index,Sx.arg,Sx.els,Sx.body];exact hnm),s1.trans w3,w4⟩)
 refine aQ (λx=>x.2=(m0,t1,(0,0,[],[],0,0,[]),h)/\(x.1=ajp->nest=ajp/\(k=10\/k=11))) ?_ ?_
 ·refine aE (λg=>aK (λgn=>?_) λ_=>ah ⟨rfl,λh=>(by cases h)⟩) λ_=>aE (λg=>aK (λgn=>?_) λ_=>ah ⟨rfl,λh=>(by cases h)⟩) λ_=>ah ⟨rfl,λh=>(by cases h)⟩
  all_goals
   dsimp only at g ⊢;refine al (Bz _ m0 t1 h (by omega)) λy J=>?_
   obtain⟨yb,y2⟩:=y;dsimp only at J;subst J;exact aW (by simp) (ah ⟨rfl,λ_=>⟨gn,by omega⟩⟩)
 rintro⟨b,x⟩ ⟨e,hb⟩;dsimp only at e hb;subst e;refine aK (λI=>?_) λ_=>?_
 ·obtain⟨q1,q2⟩:=hb I;have M:=hn q1;dsimp only;rw[ed,ed1 M,gK (n:=k-10) (by omega) (by omega),gK (n:=k-10+5) (by omega) (by omega)];refine al (hB M _ m0 t1 h s1.p (by omega)) λz U=>?_
  obtain⟨l,m3,t3,h3⟩:=z;obtain⟨w1,Z,w3,w4⟩:=U;dsimp only at w1 Z w3 w4;rw[dd M] at Z;exact aW (by simp) (ah ⟨GS.wo (by omega) (by first|omega|(dsimp only;omega)) Z (by constructor<;>simp[Sx.op,Sx.name,Sx.index,Sx.arg,Sx.els,Sx.body]<;>omega),s1.trans w3,w4⟩)
 refine aQ (λx=>x.2=(m0,t1,(0,0,[],[],0,0,[]),h)/\(x.1=ajp->nest=ajp)) ?_ ?_
 ·exact aE (λ_=>ah ⟨rfl,λg=>g⟩) λ_=>ah ⟨rfl,λh=>(by cases h)⟩
 rintro⟨b,x⟩ ⟨e,hb⟩;dsimp only at e hb;subst e;refine aK (λI=>?_) λ_=>?_
 ·have M:=hn (hb I);refine al (fe 2 t1 s1.p) λy J=>?_
  obtain⟨u1,u2,u3,_⟩:=J;have u3:=u3 (by decide);dsimp only;rw[gK (n:=1+y.1) (by omega) (by omega)];refine al (h0 M (1+y.1) _ y.2 h (by omega) u1.p (by omega)) λz U=>?_
  obtain⟨m3,t3,h3,l⟩:=z;obtain⟨w1,Z,w3,w4⟩:=U;dsimp only at w1 Z w3 w4;exact aW (by simp) (ah ⟨GS.wo (by omega) (by first|omega|(dsimp only;omega)) (λx Y=>(Z x Y).le (by omega)) (by constructor<;>simp[Sx.op,Sx.name,Sx.index,Sx.arg,Sx.els,Sx.body]),s1.trans (u1.trans w3),w4⟩)
 refine aQ (λx=>x.2=(m0,t1,(0,0,[],[],0,0,[]),h)/\(x.1=ajp->nest=ajp)) ?_ ?_
 ·exact aE (λ_=>aK (λgn=>ah ⟨rfl,λ_=>gn⟩) λ_=>ah ⟨rfl,λh=>(by cases h)⟩) λ_=>ah ⟨rfl,λh=>(by cases h)⟩
 rintro⟨b,x⟩ ⟨e,hb⟩;dsimp only at e hb;subst e;refine aK (λI=>?_) λ_=>?_
 ·have M:=hn (hb I);dsimp only;rw[ed,ed1 M];refine al (hS M 2 _ t1 h (by omega) s1.p (by omega)) λz U=>?_
  obtain⟨m3,t3,h3,l⟩:=z;obtain⟨w1,Z,w3,w4⟩:=U;dsimp only at w1 Z w3 w4;rw[dd M] at Z;exact aW (by simp) (ah ⟨GS.wo (by omega) (by first|omega|(dsimp only;omega)) Z (by constructor<;>simp[Sx.op,Sx.name,Sx.index,Sx.arg,Sx.els,Sx.body]),s1.trans w3,w4⟩)
 refine aQ (λx=>x.2=(m0,t1,(0,0,[],[],0,0,[]),h)/\(x.1=ajp->nest=ajp)) ?_ ?_
 ·refine aE (λ_=>aK (λgn=>aK (λ_=>?_) λ_=>ah ⟨rfl,λh=>(by cases h)⟩) λ_=>ah ⟨rfl,λh=>(by cases h)⟩) λ_=>ah ⟨rfl,λh=>(by cases h)⟩
  refine al (Bz _ m0 t1 h (by omega)) λy J=>?_
  obtain⟨yb,y2⟩:=y;dsimp only at J;subst J;exact aW (by simp) (ah ⟨rfl,λ_=>gn⟩)
 rintro⟨b,x⟩ ⟨e,hb⟩;dsimp only at e hb;subst e;refine aK (λI=>?_) λ_=>?_
 ·have M:=hn (hb I);refine aN (FU _) (aN (sa _ _) (ah ?_));dsimp only;rw[ef,xk];refine ⟨GS.wo (by omega) (by simp) (λx Y=>?_) (by constructor<;>simp[Sx.op,Sx.name,Sx.index,Sx.arg,Sx.els,Sx.body]),s1,rfl⟩;simp only[bc,bY,or_false] at Y;rw[<- dd M];rcases Y with rfl|rfl
  ·exact GS.wo (by omega) (by simp) (λx Y=>(by cases Y)) (by constructor<;>simp[Sx.op,Sx.name,Sx.index,Sx.arg,Sx.els,Sx.body])
  ·exact GS.asg (by decide) (GE.nm (by decide) 3)
 refine aQ (λx=>x.2=(m0,t1,(0,0,[],[],0,0,[]),h)/\(x.1=ajp->nest=ajp)) ?_ ?_
 ·refine aE (λ_=>aK (λgn=>?_) λ_=>ah ⟨rfl,λh=>(by cases h)⟩) λ_=>ah ⟨rfl,λh=>(by cases h)⟩
  refine al (Bz _ m0 t1 h (by omega)) λy J=>?_
  obtain⟨yb,y2⟩:=y;dsimp only at J;subst J;exact aW (by simp) (ah ⟨rfl,λ_=>gn⟩)
 rintro⟨b,x⟩ ⟨e,hb⟩;dsimp only at e hb;subst e;refine aK (λI=>?_) λ_=>?_
 ·have M:=hn (hb I);refine al (fe 2 t1 s1.p) λy J=>ah ?_
  obtain⟨u1,u2,u3,_⟩:=J;have u3:=u3 (by decide);dsimp only;rw[gK (n:=10+y.1) (by omega) (by omega)];refine ⟨GS.wo (by omega) (by simp) (λx Y=>?_) (by constructor<;>simp[Sx.op,Sx.name,Sx.index,Sx.arg,Sx.els,Sx.body]),s1.trans u1,rfl⟩;simp only[bc,bY,or_false] at Y;rw[Y,<-dd M];exact GS.wo (by omega) (by simp) (λx Y=>(by cases Y)) (by constructor<;>simp[Sx.op,Sx.name,Sx.index,Sx.arg,Sx.els,Sx.body]<;>omega)
 refine aQ (λx=>x.2=(m0,t1,(0,0,[],[],0,0,[]),h)) ?_ ?_
 ·exact aE (λ_=>aK (λ_=>aK (λ_=>ah rfl) λ_=>ah rfl) λ_=>ah rfl) λ_=>ah rfl
 rintro⟨b,x⟩ e;dsimp only at e;subst e;refine aK (λI=>?_) λ_=>?_
 ·refine al (hE 1 _ t1 h (by omega) s1.p) λz U=>?_
  obtain⟨e,m2,t2,h2⟩:=z;obtain⟨v1,v2,v3,v4⟩:=U;dsimp only at v1 v2 v3 v4;subst v2;subst v4;refine aW (by simp) (ah ?_);dsimp only;rw[ef];exact⟨GS.we v1 (by simp) (by simp) (λx Y=>(by cases Y)) (λx Y=>(by cases Y)) (by constructor<;>simp[Sx.op,Sx.name,Sx.index,Sx.arg,Sx.els,Sx.body]),s1.trans v3,rfl⟩
 refine aQ (λx=>x.2.1=m0/\te t1 x.2.2.1/\x.2.2.2.2=h) ?_ ?_
 ·refine aE (λ_=>aK (λ_=>?_) λ_=>ah ⟨rfl,te.refl s1.p,rfl⟩) λ_=>ah ⟨rfl,te.refl s1.p,rfl⟩
  exact al (fe 2 t1 s1.p) λy J=>ah ⟨rfl,J.1,rfl⟩
 rintro⟨b,m9,t9,z9,h9⟩ ⟨e1,e2,e3⟩;dsimp only at e1 e2 e3;subst e1;subst e3;refine aK (λI=>?_) λ_=>?_
 ·exact ah ⟨GS.wo (by omega) (by simp) (λx Y=>(by cases Y)) (by constructor<;>simp[Sx.op,Sx.name,Sx.index,Sx.arg,Sx.els,Sx.body]),s1.trans e2,rfl⟩
 refine al (hE 1 _ t9 h9 (by omega) e2.p) λz U=>?_
 obtain⟨e,m2,t2,h2⟩:=z;obtain⟨v1,v2,v3,v4⟩:=U;dsimp only at v1 v2 v3 v4;subst v2;subst v4;refine aW (by simp) (aN (sa _ _) (ah ?_));dsimp only;rw[ef,xk];exact⟨GS.asg (by decide) v1,s1.trans (e2.trans v3),rfl⟩
theorem K6:∀ (n:Nat),(∀ d:Nat,d<=5->3*d+1<=n->SpT nT (dF n) d)/\(∀ d:Nat,d<=5->3*d+2<=n->SpS nT (c4 n) d)/\(∀ d:Nat,d<=5->3*d+3<=n->SpB nT (dk n) d)
 |0=>⟨λd _ h=>by omega,λd _ h=>by omega,λd _ h=>by omega⟩
 |n+1=>by
  obtain⟨M,I,U⟩:=K6 n;refine ⟨λd h1 J=>?_,λd h1 J=>?_,λd h1 J=>?_⟩
  ·exact YC (c4 n) (dF n) (dk n) d h1 (λh=>I 0 (by omega) (by omega)) (λh=>I (d-1) (by omega) (by omega)) (λh=>U (d-1) (by omega) (by omega))
  ·exact VW (c4 n) (dF n) (dk n) d (M d h1 (by omega))
  ·exact VZ (c4 n) (dF n) (dk n) d (I d h1 (by omega))
theorem Vt (d:Nat) (hd:d<=5):SpS nT pd d:=(K6 fuel).2.1 d hd (by rw[iZ];omega)
def GX:Nat->Xp->Prop
 |0,_=>False
 |d+1,e=>e.l.length<=2/\∀ x∈e.l,GX d x
theorem GE.x:∀ {d:Nat} {e:Xp},GE d e->GX d e
 |0,_,h=>h.elim
 |_+1,_,h=>⟨h.2.2.1,λx I=>(h.2.2.2.1 x I).x⟩
theorem ZE.x {e:Xp} (h:ZE e):GX 4 e:=by
 rcases h with h|rfl
 ·exact h.x
 ·exact⟨by simp[Xp.l],λx I=>(by cases I)⟩
def GT:Nat->Sx->Prop
 |0,_=>False
 |d+1,s=>s.index.length<=1/\(∀ e∈s.index,GX 4 e)/\GX 4 s.expr/\s.body.length<=8/\s.els.length<=8/\(∀ x∈s.body,GT d x)/\(∀ x∈s.els,GT d x)
theorem GS.t {nT:Nat}:∀ {d:Nat} {s:Sx},GS nT d s->GT d s
 |0,_,h=>h.elim
 |_+1,_,⟨_,b,c,_,f,g,i,j,k,_⟩=>⟨b,λe he=>(c e he).x,f.x,g,i,λx I=>(j x I).t,λx I=>(k x I).t⟩
theorem wC (s:Sx):mD (Sx.op s,Sx.line s,Sx.name s,Sx.arg s,Sx.index s,du (Xp.op (Sx.expr s),Xp.n (Sx.expr s),Xp.name (Sx.expr s),Xp.l (Sx.expr s)),Sx.body s,Sx.els s)=s:=by
 rw[ef,xk]
theorem QK (k:Int):Ok (kZ k) λ_=>True:=by
 unfold kZ aX jf ax;with_reducible repeat' first|(refine OS.ok ?_;constructor)|refine IM.mk λ_=>?_
 all_goals trivial
theorem py (e:Xp):Ok (oh e) λ_=>True:=by
 unfold oh aX ax;with_reducible repeat' first|(refine OS.ok ?_;constructor)|refine IM.mk λ_=>?_
 all_goals trivial
theorem xI:∀ (n d:Nat) (e:Xp),d<n->GX d e->Ok (gj n e) λ_=>True
 |0,_,_,h,_=>by omega
 |n+1,0,_,_,h=>h.elim
 |n+1,d+1,e,hn,h=>by
  obtain⟨h1,M⟩:=h;rw[qP];unfold kQ aX bk ik bw cu ax ca;refine aQ (λx=>x.2=e) (aE (λ_=>ah (ef e)) λ_=>ah (ef e)) ?_;rintro⟨b,x⟩ J;dsimp only at J;subst J;refine aQ (λy=>y.2=x) ?_ ?_
  ·refine al (QK _) λ_ _=>?_
   with_reducible repeat' first|refine bN (λ_=>?_) λ_=>?_|refine aI (λ_=>?_) λ_=>?_|refine dB (λ_=>?_) λ_=>?_|refine aK (λ_=>?_) λ_=>?_|exact ah (ef x)|refine al (gD _) λ_ _=>?_
  rintro⟨U,y⟩ I;dsimp only at I;subst I;refine aK (λ_=>ah trivial) λ_=>?_
  refine bX y.l.length (λi x=>x.1=(i:Int)/\x.2=y) ?_ ?_ ⟨rfl,ef y⟩
  ·rintro i ⟨a,z⟩ hi ⟨e1,e2⟩;dsimp only at e1 e2;subst e1;subst e2;refine aI (λ_=>?_) λg=>(by dsimp only[ai] at g;omega)
   refine aB (by dsimp only;omega) (by dsimp only;omega) (aM ?_);refine al (xI n d _ (by omega) (M _ (bx (T:=.ex) (xs:=z.l) (j:=(i:Int)) (by omega) (by omega)))) λ_ _=>?_
   refine dB (λ_=>ah trivial) λ_=>ah ?_
   dsimp only;exact⟨go (by omega),ef z⟩
  ·rintro⟨a,z⟩ ⟨e1,e2⟩;dsimp only at e1 e2;subst e1;subst e2;exact aI (λg=>(by dsimp only[ai] at g;omega)) λ_=>ah trivial
theorem fc (e:Xp) (h:GX 4 e):Ok (ig e) λ_=>True:=xI fuel 4 e (by rw[iZ];omega) h
theorem Jy (d:Int×Int×List UInt8×Int×Int×List UInt8):Ok (jk d) λ_=>True:=by
 unfold jk Prod.p2 Prod.p3 Prod.p5 Prod.q6 aX bk ik ax;refine aQ (λ_=>True) ?_ λx _=>aK (λ_=>ah trivial) λ_=>?_
 ·with_reducible repeat' first|refine bN (λ_=>?_) λ_=>?_|refine aI (λ_=>?_) λ_=>?_|refine dB (λ_=>?_) λ_=>?_|exact ah trivial|refine al (gD _) λ_ _=>?_
 refine aQ (λ_=>True) ?_ λx _=>aK (λ_=>ah trivial) λ_=>?_
 ·with_reducible repeat' first|refine bN (λ_=>?_) λ_=>?_|refine aE (λ_=>?_) λ_=>?_|refine dB (λ_=>?_) λ_=>?_|exact ah trivial|refine al (gD _) λ_ _=>?_
 with_reducible repeat' first|(refine OS.ok ?_;constructor)|refine IM.mk λ_=>?_
 all_goals trivial
theorem Fp (I:Sx->Option Bool) (rs:List Sx->Option Bool) (l:List Sx) (hl:l.length<=1000) (h:∀ s∈l,Ok (I s) λ_=>True):Ok (iF I rs l) λ_=>True:=by
 unfold iF bk vA aP cu ax ca;refine bX l.length (λi x=>x=(i:Int)) ?_ ?_ rfl
 ·rintro i x hi rfl;refine aI (λ_=>?_) λg=>(by dsimp only[ai] at g;omega)
  refine aB (by omega) (by omega) ?_;refine al (h _ (bx (T:=.sm) (xs:=l) (j:=(i:Int)) (by omega) (by omega))) λ_ _=>?_
  exact dB (λ_=>ah trivial) λ_=>ah (go (by omega))
 ·rintro x rfl;exact aI (λg=>(by dsimp only[ai] at g;omega)) λ_=>ah trivial
theorem HH (J:Sx->Option Bool) (rs:List Sx->Option Bool) (s:Sx) (h1:∀ e∈s.index,GX 4 e) (M:GX 4 s.expr) (hb:Ok (rs s.body) λ_=>True) (he:Ok (rs s.els) λ_=>True):Ok (jp J rs s) λ_=>True:=by
 unfold jp aX bk jf ik bw ax dw;refine aQ (λx=>x.2=s) ?_ ?_
 ·with_reducible repeat' first|refine bN (λ_=>?_) λ_=>?_|refine aE (λ_=>?_) λ_=>?_|refine aI (λ_=>?_) λ_=>?_|refine eY (λ_=>?_) λ_=>?_|refine dB (λ_=>?_) λ_=>?_|refine aK (λ_=>?_) λ_=>?_|exact ah (wC _)|refine al (gD _) λ_ _=>?_|refine al (py _) λ_ _=>?_|refine al (fc _ h2x) λ_ _=>?_
 rintro⟨b,x⟩ I;dsimp only at I;have I:=I.symm;subst I;refine aK (λ_=>ah trivial) λ_=>?_
 refine aQ (λx=>x.2=s) ?_ ?_
 ·with_reducible repeat' first|refine bN (λ_=>?_) λ_=>?_|refine aE (λ_=>?_) λ_=>?_|refine aI (λ_=>?_) λ_=>?_|refine eY (λ_=>?_) λ_=>?_|refine dB (λ_=>?_) λ_=>?_|refine aK (λ_=>?_) λ_=>?_|exact ah (wC _)|refine al (gD _) λ_ _=>?_|refine al (py _) λ_ _=>?_|refine al (fc _ h2x) λ_ _=>?_
 rintro⟨b,x⟩ I;dsimp only at I;have I:=I.symm;subst I;refine aQ (λx=>x.2=s) ?_ ?_
 ·with_reducible repeat' first|refine bN (λ_=>?_) λ_=>?_|refine aE (λ_=>?_) λ_=>?_|refine aI (λ_=>?_) λ_=>?_|refine eY (λ_=>?_) λ_=>?_|refine dB (λ_=>?_) λ_=>?_|refine aK (λ_=>?_) λ_=>?_|exact ah (wC _)|refine al (gD _) λ_ _=>?_|refine al (py _) λ_ _=>?_|refine al (fc _ h2x) λ_ _=>?_
 rintro⟨b,x⟩ I;dsimp only at I;have I:=I.symm;subst I;refine aK (λ_=>ah trivial) λ_=>?_
 refine aQ (λx=>x.2=s) ?_ ?_
 ·with_reducible repeat' first|refine bN (λ_=>?_) λ_=>?_|refine aE (λ_=>?_) λ_=>?_|refine aI (λ_=>?_) λ_=>?_|refine eY (λ_=>?_) λ_=>?_|refine dB (λ_=>?_) λ_=>?_|refine aK (λ_=>?_) λ_=>?_|exact ah (wC _)|refine al (gD _) λ_ _=>?_|refine al (py _) λ_ _=>?_|refine al (fc _ h2x) λ_ _=>?_
 rintro⟨b,x⟩ I;dsimp only at I;have I:=I.symm;subst I;refine aK (λ_=>ah trivial) λ_=>?_
 refine aQ (λx=>x.2=s) ?_ ?_
 ·with_reducible repeat' first|refine bN (λ_=>?_) λ_=>?_|refine aE (λ_=>?_) λ_=>?_|refine aI (λ_=>?_) λ_=>?_|refine eY (λ_=>?_) λ_=>?_|refine dB (λ_=>?_) λ_=>?_|refine aK (λ_=>?_) λ_=>?_|exact ah (wC _)|refine al (gD _) λ_ _=>?_|refine al (py _) λ_ _=>?_|refine al (fc _ h2x) λ_ _=>?_
  all_goals
   rename_i g;dsimp only[ai] at g;refine aB (by omega) (by dsimp only;omega) (aM ?_);refine al (fc _ (h1 _ (bx (T:=.ex) (xs:=Sx.index _) (j:=0) (by omega) (by omega)))) λ_ _=>ah (wC _)
 rintro⟨b,x⟩ I;dsimp only at I;have I:=I.symm;subst I;refine aK (λ_=>ah trivial) λ_=>?_
 refine aQ (λx=>x.2=s) ?_ ?_
 ·with_reducible repeat' first|refine bN (λ_=>?_) λ_=>?_|refine aE (λ_=>?_) λ_=>?_|refine aI (λ_=>?_) λ_=>?_|refine eY (λ_=>?_) λ_=>?_|refine dB (λ_=>?_) λ_=>?_|refine aK (λ_=>?_) λ_=>?_|exact ah (wC _)|refine al (gD _) λ_ _=>?_|refine al (py _) λ_ _=>?_|refine al (fc _ h2x) λ_ _=>?_
 rintro⟨b,x⟩ I;dsimp only at I;have I:=I.symm;subst I;refine aQ (λx=>x.2=s) ?_ ?_
 ·have h2x:GX 4 (du (Xp.op (Sx.expr s),Xp.n (Sx.expr s),Xp.name (Sx.expr s),Xp.l (Sx.expr s))):=by rw[ef];exact M
  with_reducible repeat' first|refine bN (λ_=>?_) λ_=>?_|refine aE (λ_=>?_) λ_=>?_|refine aI (λ_=>?_) λ_=>?_|refine eY (λ_=>?_) λ_=>?_|refine dB (λ_=>?_) λ_=>?_|refine aK (λ_=>?_) λ_=>?_|exact ah (wC _)|refine al (gD _) λ_ _=>?_|refine al (py _) λ_ _=>?_|refine al (fc _ h2x) λ_ _=>?_
 rintro⟨b,x⟩ I;dsimp only at I;have I:=I.symm;subst I;refine aK (λ_=>ah trivial) λ_=>?_
 refine aQ (λx=>x.2=s) ?_ ?_
 ·with_reducible repeat' first|refine bN (λ_=>?_) λ_=>?_|refine aE (λ_=>?_) λ_=>?_|refine aI (λ_=>?_) λ_=>?_|refine eY (λ_=>?_) λ_=>?_|refine dB (λ_=>?_) λ_=>?_|refine aK (λ_=>?_) λ_=>?_|exact ah (wC _)|refine al (gD _) λ_ _=>?_|refine al (py _) λ_ _=>?_|refine al (fc _ h2x) λ_ _=>?_
 rintro⟨b,x⟩ I;dsimp only at I;have I:=I.symm;subst I;refine aQ (λx=>x.2=s) ?_ ?_
 ·with_reducible repeat' first|refine bN (λ_=>?_) λ_=>?_|refine aE (λ_=>?_) λ_=>?_|refine aI (λ_=>?_) λ_=>?_|refine eY (λ_=>?_) λ_=>?_|refine dB (λ_=>?_) λ_=>?_|refine aK (λ_=>?_) λ_=>?_|exact ah (wC _)|refine al (gD _) λ_ _=>?_|refine al (py _) λ_ _=>?_|refine al (fc _ h2x) λ_ _=>?_
 rintro⟨b,x⟩ I;dsimp only at I;have I:=I.symm;subst I;refine aK (λ_=>ah trivial) λ_=>?_
 refine aQ (λ_=>True) ?_ λ_ _=>ah trivial
 refine al hb λ_ _=>aK (λ_=>al he λ_ _=>ah trivial) λ_=>ah trivial
theorem HN:∀ (n:Nat),(∀ (d:Nat) (s:Sx),2*d<n->GT d s->Ok (dD n s) λ_=>True)/\(∀ (d:Nat) (l:List Sx),2*d+1<n->l.length<=1000->(∀ s∈l,GT d s)->Ok (cX n l) λ_=>True)
 |0=>⟨λd _ h=>by omega,λd _ h=>by omega⟩
 |n+1=>by
  obtain⟨J,I⟩:=HN n;refine ⟨λd s hd h=>?_,λd l hd hl h=>?_⟩
  ·cases d with
   |zero=>exact h.elim
   |succ d=>
    obtain⟨_,Z,Y,g4,g5,U,M⟩:=h;exact HH (dD n) (cX n) s Z Y (I d _ (by omega) (by omega) U) (I d _ (by omega) (by omega) M)
  ·exact Fp (dD n) (cX n) l hl λs hs=>J d s (by omega) (h s hs)
theorem I9 (d:Nat) (hd:d<=100) (l:List Sx) (hl:l.length<=1000) (h:∀ s∈l,GT d s):Ok (mB l) λ_=>True:=(HN fuel).2 d l (by rw[iZ];omega) hl h
abbrev DT:Type:=Int×Int×List UInt8×Int×Int×List UInt8
abbrev HT:Type:=List UInt8×Int×List (List UInt8)×List Sx
abbrev PG:Type:=List DT×List HT
structure PX (p:PG):Prop where
 d:p.1.length<=100
 t:p.2.length<=8
 l:∀ t∈p.2,t.2.2.1.length<=100
 b:∀ t∈p.2,t.2.2.2.length<=100
 s:∀ t∈p.2,∀ s∈t.2.2.2,GT 5 s
theorem WN (p:PG) (h:PX p):Ok (oD p) λ_=>True:=by
 obtain⟨hd,ht,hl,hb,hs⟩:=h;unfold oD Prod.p2 Prod.p4 Prod.q5 bk bw aP cu ax ca;refine bX p.1.length (λi x=>x.1=(i:Int)/\x.2=p) ?_ ?_ ⟨rfl,rfl⟩
 ·rintro i ⟨a,x⟩ hi ⟨e1,e2⟩;dsimp only at e1 e2;subst e1;subst e2;refine aI (λ_=>?_) λg=>(by dsimp only[ai] at g;omega)
  refine aB (by dsimp only;omega) (by dsimp only;omega) (aM ?_);refine al (Jy _) λ_ _=>?_
  exact dB (λ_=>ah trivial) λ_=>ah ⟨go (by omega),rfl⟩
 rintro⟨a,x⟩ ⟨e1,e2⟩;dsimp only at e1 e2;subst e1;subst e2;refine aI (λg=>(by dsimp only[ai] at g;omega)) λ_=>?_
 refine al (P:=λ_=>True) ?_ λ_ _=>ah trivial
 refine bX x.2.length (λi y=>y.1=(i:Int)/\y.2=x) ?_ ?_ ⟨rfl,rfl⟩
 ·rintro i ⟨a,x⟩ hi ⟨e1,e2⟩;dsimp only at e1 e2;subst e1;have e2:=e2.symm;subst e2;refine aI (λ_=>?_) λg=>(by dsimp only[ai] at g;omega)
  refine aB (by dsimp only;omega) (by dsimp only;omega) (aM ?_);have hm:=bx (T:=xi) (xs:=x.2) (j:=(i:Int)) (by omega) (by omega);have h1:=hl _ hm;have U:=hb _ hm;have M:=hs _ hm;revert h1 U M;generalize (aD (T:=xi) x.2 (i:Int))=t;intro h1 U M;refine bX t.2.2.1.length (λk y=>y.1=(k:Int)/\y.2=(x,t)) ?_ ?_ ⟨rfl,rfl⟩
  ·rintro k ⟨a,z⟩ hk ⟨J,I⟩;dsimp only at J I;subst J;subst I;refine aI (λ_=>?_) λg=>(by dsimp only[ai] at g;omega)
   refine aB (by dsimp only;omega) (by dsimp only;omega) (aM ?_);refine al (gD _) λ_ _=>?_
   exact dB (λ_=>ah trivial) λ_=>ah ⟨go (by omega),rfl⟩
  ·rintro⟨a,z⟩ ⟨J,I⟩;dsimp only at J I;subst J;subst I;refine aI (λg=>(by dsimp only[ai] at g;omega)) λ_=>?_
   refine al (P:=λr=>match r with|.inl y=>y.1=((i+1:Nat):Int)/\y.2=x|.inr _=>True) ?_ ?_
   ·refine aQ (λy=>y.2=x) ?_ ?_
    ·refine al (gD _) λ_ _=>dB (λ_=>ah rfl) λ_=>?_
     exact al (I9 5 (by omega) _ (by dsimp only;omega) M) λ_ _=>ah rfl
    rintro⟨b,y⟩ e;dsimp only at e;subst e;exact aK (λ_=>ah trivial) λ_=>ah ⟨go (by omega),rfl⟩
   ·rintro (y|y) Y
    ·exact ah Y
    ·exact ah trivial
 ·rintro⟨a,y⟩ ⟨e1,e2⟩;dsimp only at e1 e2;subst e1;subst e2;exact aI (λg=>(by dsimp only[ai] at g;omega)) λ_=>ah trivial
theorem vx (l:List DT) (s:List UInt8) (hl:l.length<=1000):Ok (gi (l,s)) λr=> -1<=r/\r<(l.length:Int):=by
 unfold gi bk bw aP cu ax ca;refine bX l.length (λi x=>x=(i:Int)) ?_ ?_ rfl
 ·rintro i x hi rfl;refine aI (λ_=>?_) λg=>(by dsimp only[ai] at g;omega)
  refine aB (by omega) (by dsimp only;omega) (aM ?_);exact aE (λ_=>ah ⟨by omega,by omega⟩) λ_=>ah (go (by omega))
 ·rintro x rfl;exact aI (λg=>(by dsimp only[ai] at g;omega)) λ_=>ah ⟨by omega,by omega⟩
theorem qT (l:List HT) (s:List UInt8) (hl:l.length<=1000):Ok (fP (l,s)) λr=> -1<=r/\r<(l.length:Int):=by
 unfold fP bk bw aP cu ax ca;refine bX l.length (λi x=>x=(i:Int)) ?_ ?_ rfl
 ·rintro i x hi rfl;refine aI (λ_=>?_) λg=>(by dsimp only[ai] at g;omega)
  refine aB (by omega) (by dsimp only;omega) (aM ?_);exact aE (λ_=>ah ⟨by omega,by omega⟩) λ_=>ah (go (by omega))
 ·rintro x rfl;exact aI (λg=>(by dsimp only[ai] at g;omega)) λ_=>ah ⟨by omega,by omega⟩
def DD (p:PG) (s:List UInt8):Prop:=∃ v,gi (p.1,s)=ajn v/\0<=v/\v<(p.1.length:Int)
theorem W6 (p:PG) (h:PX p) (t:Int) (s:List UInt8):Ok (oC (p,t,s)) λk=>k≠0->k≠7->k≠8->DD p s:=by
 have hd:=h.d;have ht:=h.t;unfold oC aX bk jf ik vA bw aP ax;refine aQ (λx=>x.2=p) ?_ ?_
 ·refine eY (λU=>aI (λM=>?_) λ_=>ah rfl) λ_=>ah rfl
  dsimp only[ai] at U M;refine aB U M (aM ?_);have hm:=h.l _ (bx (T:=xi) (xs:=p.2) (j:=t) U M);exact al (wY _ s (cM hm (by omega))) λ_ _=>ah rfl
 rintro⟨b,x⟩ e;dsimp only at e;have e:=e.symm;subst e;refine aK (λ_=>ah λ_ _ h=>(h rfl).elim) λ_=>?_
 obtain⟨v,hv,v0,J⟩:=vx p.1 s (by omega);refine aN hv ?_;refine aI (λ_=>?_) λg=>?_
 ·exact al (qT p.2 s (by omega)) λ_ _=>eY (λ_=>ah λ_ h=>(h rfl).elim) λ_=>ah λh=>(h rfl).elim
 have I:DD p s:=⟨v,hv,g,J⟩
 refine aB g J (aM ?_);refine aE (λ_=>?_) λ_=>?_
 ·exact aB g J (aM (bN (λ_=>ah λ_ _ _=>I) λ_=>ah λ_ _ _=>I))
 refine aE (λ_=>ah λ_ _ _=>I) λ_=>?_
 refine aQ (λx=>x.2=p) (aE (λ_=>ah rfl) λ_=>aE (λ_=>ah rfl) λ_=>aE (λ_=>ah rfl) λ_=>ah rfl) ?_;rintro⟨b,x⟩ e;dsimp only at e;have e:=e.symm;subst e;exact aK (λ_=>aB g J (aM (ah λ_ _ _=>I))) λ_=>ah λ_ _ _=>I
theorem nL (p:PG) (h:PX p) (t:Int) (s:List UInt8) (a b:Int):Ok (fD (p,t,s,a,b)) λr=>r=0->(a≠7/\a≠8)->(b≠7/\b≠8)->DD p s:=by
 unfold fD Prod.p2 Prod.p3 Prod.q4 aX ik ax;refine al (W6 p h t s) λk hk=>?_
 refine aE (λ_=>ah λh=>(by cases h)) λg=>?_
 refine aQ (λx=>x=ajq->k=a\/k=b) ?_ ?_
 ·refine bN (λ_=>ah λh=>?_) λh=>ah λ_=>.inl h
  simp at h;exact .inr h
 rintro x I;refine aK (λ_=>ah λh=>(by cases h)) λh=>ah λ_ h1 J=>hk g ?_ ?_
 ·rcases I h with h|h<;>omega
 ·rcases I h with h|h<;>omega
theorem K7:∀ (n d:Nat) (e:Xp),d<n->GX d e->Ok (me n e) λ_=>True
 |0,_,_,h,_=>by omega
 |n+1,0,_,_,h=>h.elim
 |n+1,d+1,e,hn,h=>by
  obtain⟨h1,I⟩:=h;rw[wJ];unfold sO bk bw cu ax ca;refine bX e.l.length (λi x=>x.1.2.2=(i:Int)/\x.2=e) ?_ ?_ ⟨rfl,ef e⟩
  ·rintro i ⟨⟨a,b,c⟩,z⟩ hi ⟨e1,e2⟩;dsimp only at e1 e2;subst e1;subst e2;refine aI (λ_=>?_) λg=>(by dsimp only[ai] at g;omega)
   refine aB (by dsimp only;omega) (by dsimp only;omega) (aM ?_);refine al (K7 n d _ (by omega) (I _ (bx (T:=.ex) (xs:=z.l) (j:=(i:Int)) (by omega) (by omega)))) λ_ _=>ah ?_
   exact⟨go (by omega),ef z⟩
  ·rintro⟨⟨a,b,c⟩,z⟩ ⟨e1,e2⟩;dsimp only at e1 e2;subst e1;subst e2;exact aI (λg=>(by dsimp only[ai] at g;omega)) λ_=>ah trivial
theorem Eg (p:PG) (hp:PX p) (t:Int):∀ (n d:Nat) (e:Xp),d<n->GX d e->Ok (md n (p,t,e)) λ_=>True
 |0,_,_,h,_=>by omega
 |n+1,0,_,_,h=>h.elim
 |n+1,d+1,e,hn,h=>by
  obtain⟨h1,Y⟩:=h;rw[wI];unfold sN aX bk bw cu ax ca;refine aQ (λx=>x.2.1=p/\x.2.2=e) ?_ ?_
  ·refine aE (λ_=>al (nL p hp t _ _ _) λ_ _=>ah ⟨rfl,ef e⟩) λ_=>aE (λ_=>al (nL p hp t _ _ _) λ_ _=>ah ⟨rfl,ef e⟩) λ_=>ah ⟨rfl,ef e⟩
  rintro⟨r,M,e'⟩ ⟨J,I⟩;dsimp only at J I;have J:=J.symm;subst J;have I:=I.symm;subst I;refine oS (λx=>((e.l.length:Int)-x.1.2).toNat) (λx=>0<=x.1.2/\x.2.1=p/\x.2.2=e) ?_ ⟨dX _,rfl,ef e⟩;rintro⟨⟨a,(b:Int)⟩,M,e'⟩ ⟨b0,J,I⟩;dsimp only at b0 J I;have J:=J.symm;subst J;have I:=I.symm;subst I;refine aQ (λx=>x.2.1=p/\x.2.2=e/\(x.1=ajp->b<(e.l.length:Int))) ?_ ?_
  ·exact aI (λg=>ah ⟨rfl,ef e,λ_=>g⟩) λ_=>ah ⟨rfl,ef e,λh=>(by cases h)⟩
  rintro⟨c,M,e'⟩ ⟨J,I,U⟩;dsimp only at J I U;have J:=J.symm;subst J;have I:=I.symm;subst I;refine aK (λhc=>?_) λ_=>ah trivial
  have g:=U hc;refine aB b0 g (aM ?_);refine al (Eg p hp t n d _ (by omega) (Y _ (bx (T:=.ex) (xs:=e.l) (j:=b) b0 g))) λ_ _=>ah ?_
  dsimp only;rw[gK (n:=b+1) (by omega) (by omega)];exact⟨⟨by omega,rfl,ef e⟩,by omega⟩
theorem vw (p:PG) (hp:PX p) (t:Int) (e:Xp) (h:GX 4 e):Ok (kY (p,t,e)) λ_=>True:=by
 unfold kY bk ax;have M:GX 4 (du (Xp.op e,Xp.n e,Xp.name e,Xp.l e)):=by rw[ef];exact h
 refine al (fc _ M) λ_ _=>dB (λ_=>ah trivial) λ_=>?_
 refine al (K7 fuel 4 _ (by rw[iZ];omega) M) λ_ _=>?_
 refine aQ (λx=>x.2.1=p/\x.2.2=e) (aI (λ_=>ah ⟨rfl,ef e⟩) λ_=>ah ⟨rfl,ef e⟩) ?_;rintro⟨r,U,e'⟩ ⟨J,I⟩;dsimp only at J I;have J:=J.symm;subst J;have I:=I.symm;subst I;exact aK (λ_=>ah trivial) λ_=>al (Eg p hp t fuel 4 _ (by rw[iZ];omega) M) λ_ _=>ah trivial
theorem ey (b:Bool):Ok (cC b) λ_=>True:=by
 unfold cC;exact aK (λ_=>ah trivial) λ_=>ah trivial
theorem sj (x:Int×Int):Ok (hY x) λr=>r=0->x.1=0/\x.2=0:=by
 unfold hY ik;exact bN (λh=>ah λI=>(h I).elim) λh=>ah λI=>⟨h,I⟩
abbrev WK:Type:=(List DT×List HT×Int)×(Bool×List Sx)×List (List UInt8)×List (List UInt8)
theorem Vz (a b:Int) (s:List UInt8) (w:WK) (h:w.2.1.2.length<=100):Ok (di ((a,b,s),w)) λy=>y.2=w:=by
 unfold di Prod.p2 aX bk kf aP cu ax ca;refine bX w.2.1.2.length (λi x=>x.1=(i:Int)/\x.2=w) ?_ ?_ ⟨rfl,rfl⟩
 ·rintro i ⟨c,x⟩ hi ⟨e1,e2⟩;dsimp only at e1 e2;subst e1;have e2:=e2.symm;subst e2;refine aI (λ_=>?_) λg=>(by dsimp only[ai] at g;omega)
  refine aB (by dsimp only;omega) (by dsimp only;omega) (aB (by dsimp only;omega) (by dsimp only;omega) (aM ?_));refine aQ (λx=>x.2=w) ?_ ?_
  ·refine aE (λ_=>aE (λ_=>ah rfl) λ_=>ah rfl) λ_=>aE (λ_=>aE (λ_=>ah rfl) λ_=>ah rfl) λ_=>ah rfl
  rintro⟨c,x⟩ e;dsimp only at e;have e:=e.symm;subst e;exact aK (λ_=>ah rfl) λ_=>ah ⟨go (by omega),rfl⟩
 ·rintro⟨c,x⟩ ⟨e1,e2⟩;dsimp only at e1 e2;subst e1;have e2:=e2.symm;subst e2;exact aI (λg=>(by dsimp only[ai] at g;omega)) λ_=>ah rfl
def NA:Nat->Sx->Nat
 |0,_=>0
 |d+1,s=>1+(s.body.map (NA d)).sum+(s.els.map (NA d)).sum
def mo (d:Nat) (l:List Sx):Nat:=(l.map (NA d)).sum
def KS:Nat->Nat
 |0=>0
 |d+1=>1+16*KS d
theorem LU {α:Type} {f:α->Nat} {k:Nat}:∀ {l:List α},(∀ x∈l,f x<=k)->(l.map f).sum<=l.length*k
 |[],_=>by simp
 |x::r,h=>by
  have:=LU (l:=r) λy I=>h y (cA _ I)
  have:=h x (dg ..);rw[ff,List.sum_cons,bH,gX];omega
theorem Td:∀ {d:Nat} {s:Sx},GT d s->NA d s<=KS d
 |0,_,h=>h.elim
 |d+1,s,⟨_,_,_,Y,U,M,J⟩=>by
  have a:=LU (f:=NA d) (l:=s.body) λx I=>Td (M x I)
  have b:=LU (f:=NA d) (l:=s.els) λx I=>Td (J x I)
  have c:=cf (KS d) Y;have e:=cf (KS d) U;show 1+_+_<=1+16*KS d;omega
theorem M4:∀ {d:Nat} {s:Sx},GT d s->NA (d+1) s=NA d s
 |0,_,h=>h.elim
 |d+1,s,⟨_,_,_,_,_,M,J⟩=>by
  show 1+(s.body.map (NA (d+1))).sum+(s.els.map (NA (d+1))).sum=1+(s.body.map (NA d)).sum+(s.els.map (NA d)).sum;rw[oO λx I=>M4 (M x I),oO λx I=>M4 (J x I)]
theorem YS {d:Nat} {l:List Sx} (h:∀ s∈l,GT d s):mo d l<=l.length*KS d:=LU λx I=>Td (h x I)
theorem vj {d:Nat} {l:List Sx} {i:Nat} (hi:i<l.length):mo d (l.take (i+1))=mo d (l.take i)+NA d (aD (T:=.sm) l (i:Int)):=by
 unfold mo;rw[mQ (T:=.sm) hi,ct,DS];simp
theorem M5 {d:Nat} (l:List Sx) (i:Nat):mo d (l.take i)<=mo d l:=by
 conv=>rhs;rw[<- zL i l]
 unfold mo;rw[ct,DS];omega
theorem Dp:∀ (n d:Nat) (l:List Sx),d<n->l.length<=1000->(∀ s∈l,GT d s)->KS d<=100000->mf n l=ajn ((mo d l:Nat):Int)
 |0,_,_,h,_,_,_=>by omega
 |n+1,d,l,hn,hl,h,J=>by
  refine co ?_;rw[wK];unfold sP bk vA aP cu ax ca;have hb:=YS h;have I:=Nat.mul_le_mul hl J;refine bX l.length (λi x=>x.2=(i:Int)/\x.1=(l.length:Int)-i+(mo d (l.take i):Nat)) ?_ ?_ ⟨rfl,by simp[mo]⟩
  ·rintro i ⟨a,b⟩ hi ⟨e1,e2⟩;dsimp only at e1 e2;subst e1;subst e2;have hp:=M5 (d:=d) l (i+1);rw[vj hi] at hp;refine aI (λ_=>?_) λg=>(by dsimp only[ai] at g;omega)
   refine aB (by dsimp only;omega) (by dsimp only;omega) (aM ?_);rw[vj hi];have hm:=h _ (bx (T:=.sm) (xs:=l) (j:=(i:Int)) (by omega) (by omega));revert hm hp;generalize (aD (T:=.sm) l (i:Int))=s;intro hp hm;cases d with
   |zero=>exact hm.elim
   |succ d=>
    obtain⟨_,_,_,Z,Y,U,M⟩:=hm;have hk:KS (d+1)=1+16*KS d:=rfl;have hc:NA (d+1) s=1+mo d s.body+mo d s.els:=rfl;rw[hc] at hp ⊢;refine aN (Dp n d _ (by omega) (by omega) U (by omega)) ?_;refine aB (by dsimp only;omega) (by dsimp only;omega) (aM ?_);refine aN (Dp n d _ (by omega) (by omega) M (by omega)) (ah ⟨go (by omega),?_⟩);dsimp only;rw[gK (n:=(l.length:Int)-i+(mo (d+1) (l.take i):Nat)+(mo d s.body:Nat)) (by omega) (by omega),gK (by omega) (by omega)];omega
  ·rintro⟨a,b⟩ ⟨e1,e2⟩;dsimp only at e1 e2;subst e1;subst e2;rw[cz];exact aI (λg=>(by dsimp only[ai] at g;omega)) λ_=>ah (by dsimp only;omega)
theorem Sq (l:List DT) (hl:l.length<=100):Ok (pY l) λ_=>True:=by
 unfold pY Prod.p2 Prod.p3 Prod.p4 Prod.q3 Prod.q4 Prod.q6 aX bk jf ik bn bw aP cu ax ca;refine bX l.length (λi x=>x.2.2.2.2=(i:Int)) ?_ ?_ rfl
 ·rintro i ⟨a,b,c,d,e⟩ hi e1;dsimp only at e1;subst e1;refine aI (λ_=>?_) λg=>(by dsimp only[ai] at g;omega)
  refine aQ (λ_=>True) ?_ λx _=>ah (go (by omega))
  refine aB (by dsimp only;omega) (by dsimp only;omega) (aM ?_);have htk:(db (aL (i:Int)) l).length<=100:=by rw[bm];omega
  refine cY (dY (by dsimp only;omega) (dY (by dsimp only;omega) ?_));refine al (vx _ _ (cM htk (by omega))) λv hv=>?_
  refine eY (λ_=>ah trivial) λ_=>aI (λ_=>ah trivial) λ_=>?_
  refine aQ (λ_=>True) ?_ λx _=>?_
  ·refine aQ (λ_=>True) (aE (λ_=>ah trivial) λ_=>ah trivial) λx _=>aK (λ_=>ah trivial) λ_=>?_
   refine aQ (λ_=>True) (aE (λ_=>ah trivial) λ_=>ah trivial) λx _=>aK (λ_=>ah trivial) λ_=>?_
   exact aE (λ_=>ah trivial) λ_=>ah trivial
  refine aQ (λ_=>True) (aI (λ_=>ah trivial) λ_=>aI (λ_=>ah trivial) λ_=>aI (λ_=>ah trivial) λ_=>ah trivial) λx _=>aK (λ_=>ah trivial) λ_=>?_
  refine aE (λ_=>?_) λ_=>ah trivial
  refine cY (dY (by dsimp only;omega) (dY (by dsimp only;omega) ?_));refine al (vx _ _ (cM htk (by omega))) λv hv=>?_
  refine aI (λ_=>ah trivial) λg=>?_
  have I:=hv.2;rw[bm] at I;exact aB g (by dsimp only at I ⊢;omega) (aM (bN (λ_=>ah trivial) λ_=>ah trivial))
 ·rintro⟨a,b,c,d,e⟩ e1;dsimp only at e1;subst e1;exact aI (λg=>(by dsimp only[ai] at g;omega)) λ_=>ah trivial
theorem LS (p:PG) (h:PX p):Ok (mA p) λ_=>True:=by
 have hd:=h.d;have ht:=h.t;unfold mA Prod.p2 Prod.p3 Prod.p4 bk jf bn bw aP cu ax ca;refine bX p.2.length (λi x=>x.1=(i:Int)/\x.2=p) ?_ ?_ ⟨rfl,rfl⟩
 ·rintro i ⟨a,x⟩ hi ⟨e1,e2⟩;dsimp only at e1 e2;subst e1;have e2:=e2.symm;subst e2;refine aI (λ_=>?_) λg=>(by dsimp only[ai] at g;omega)
  refine aB (by dsimp only;omega) (by dsimp only;omega) (aM ?_);refine aQ (λx=>x.2.1=p) ?_ ?_
  ·refine al (vx _ _ (by dsimp only;omega)) λv hv=>eY (λ_=>ah rfl) λ_=>?_
   refine cY (dY (by dsimp only;omega) (dY (by dsimp only;omega) ?_));exact al (qT _ _ (by rw[bm];dsimp only;omega)) λ_ _=>ah rfl
  rintro⟨b,x,z⟩ e;dsimp only at e;have e:=e.symm;subst e;exact aK (λ_=>ah trivial) λ_=>ah ⟨go (by omega),rfl⟩
 rintro⟨a,x⟩ ⟨e1,e2⟩;dsimp only at e1 e2;subst e1;have e2:=e2.symm;subst e2;refine aI (λg=>(by dsimp only[ai] at g;omega)) λ_=>?_
 refine al (P:=λ_=>True) ?_ λ_ _=>ah trivial
 refine bX p.2.length (λi x=>x.1=(i:Int)/\x.2=p) ?_ ?_ ⟨rfl,rfl⟩
 ·rintro i ⟨a,x⟩ hi ⟨e1,e2⟩;dsimp only at e1 e2;subst e1;have e2:=e2.symm;subst e2;refine aI (λ_=>?_) λg=>(by dsimp only[ai] at g;omega)
  refine aB (by dsimp only;omega) (by dsimp only;omega) (aM ?_);have hm:=h.l _ (bx (T:=xi) (xs:=p.2) (j:=(i:Int)) (by omega) (by omega));revert hm;generalize (aD (T:=xi) p.2 (i:Int))=t;intro hm;refine aI (λ_=>ah trivial) λ_=>?_
  refine bX t.2.2.1.length (λk y=>y.1=(k:Int)/\y.2=(p,t)) ?_ ?_ ⟨rfl,rfl⟩
  ·rintro k ⟨a,z⟩ hk ⟨J,I⟩;dsimp only at J I;subst J;subst I;refine aI (λ_=>?_) λg=>(by dsimp only[ai] at g;omega)
   refine aB (by dsimp only;omega) (by dsimp only;omega) (aM ?_);refine aQ (λx=>x.2=(p,t)) ?_ ?_
   ·refine al (vx _ _ (by dsimp only;omega)) λv hv=>eY (λ_=>ah rfl) λ_=>?_
    refine al (qT _ _ (by dsimp only;omega)) λv hv=>eY (λ_=>ah rfl) λ_=>?_
    refine cY (dY (by dsimp only;omega) (dY (by dsimp only;omega) ?_));exact al (wY _ _ (by rw[bm];dsimp only;omega)) λ_ _=>ah rfl
   rintro⟨b,x⟩ e;dsimp only at e;subst e;exact aK (λ_=>ah trivial) λ_=>ah ⟨go (by omega),rfl⟩
  ·rintro⟨a,z⟩ ⟨J,I⟩;dsimp only at J I;subst J;subst I;exact aI (λg=>(by dsimp only[ai] at g;omega)) λ_=>ah ⟨go (by omega),rfl⟩
 ·rintro⟨a,x⟩ ⟨e1,e2⟩;dsimp only at e1 e2;subst e1;have e2:=e2.symm;subst e2;exact aI (λg=>(by dsimp only[ai] at g;omega)) λ_=>ah trivial
structure WQ (w:WK) (y:Int×WK):Prop where
 p:y.2.1=w.1
 a:y.2.2.1=w.2.1
 s:y.2.2.2.1.length<=w.2.2.1.length+1
 t:y.2.2.2.2.length<=w.2.2.2.length+1
theorem WQ.same (w:WK) (e:Int):WQ w (e,w):=⟨rfl,rfl,Nat.le_succ _,Nat.le_succ _⟩
theorem adz (s:Sx) (D:List DT) (T:List HT) (t:Int) (A:Bool×List Sx) (sp se:List (List UInt8)) (hp:PX (D,T)) (hA:A.2.length<=100) (h1:sp.length<=100000000) (Z:se.length<=100000000) (J:∀ e∈s.index,GX 4 e) (he:GX 4 s.expr):Ok (kX (s,((D,T,t),A,sp,se))) (WQ ((D,T,t),A,sp,se)):=by
 have hex:GX 4 (du (Xp.op s.expr,Xp.n s.expr,Xp.name s.expr,Xp.l s.expr)):=by rw[ef];exact he
 have hin:∀ (a b:Int) (n:List UInt8),Ok (di ((a,b,n),((D,T,t),A,sp,se))) λy=>y.2=((D,T,t),A,sp,se):=λa b n=>Vz a b n _ hA
 have hth:T.length<=1000:=by have:=hp.t;dsimp only at this;omega
 have hdl:D.length<=1000:=by have:=hp.d;dsimp only at this;omega
 have sm:∀ e,WQ ((D,T,t),A,sp,se) (e,((D,T,t),A,sp,se)):=WQ.same _;unfold kX Prod.p2 Prod.p3 Prod.p4 Prod.p5 Prod.q3 Prod.q4 Prod.q5 Prod.q6 aX jf ik bn bw ax dw;refine al (hin _ _ _) λy I=>?_
 obtain⟨b1,M⟩:=y;dsimp only at I;subst I;refine aW (by simp) ?_;refine al (hin _ _ _) λy I=>?_
 obtain⟨b2,M⟩:=y;dsimp only at I;subst I;refine aW (by simp) ?_;refine al (hin _ _ _) λy I=>?_
 obtain⟨b3,M⟩:=y;dsimp only at I;subst I;refine aW (by simp) ?_;refine aE (λ_=>?_) λ_=>?_
 ·refine aE (λ_=>?_) λg=>?_
  ·exact al (nL _ hp _ _ _ _) λ_ _=>al (vw _ hp _ _ hex) λ_ _=>al (sj _) λ_ _=>ah (sm _)
  ·refine al (nL _ hp _ _ _ _) λ_ _=>?_
   dsimp only[ai] at g;refine aB (by omega) (by dsimp only;omega) (aM ?_);refine al (vw _ hp _ _ (J _ (bx (T:=.ex) (xs:=s.index) (j:=0) (by omega) (by omega)))) λ_ _=>?_
   exact al (vw _ hp _ _ hex) λ_ _=>al (sj _) λ_ _=>al (sj _) λ_ _=>ah (sm _)
 refine aQ (λx=>x.2=((D,T,t),A,s,(D,T),sp,se)) (aE (λ_=>ah (by dsimp only;rw[wC])) λ_=>ah (by dsimp only;rw[wC])) ?_;rintro⟨b,x⟩ e;dsimp only at e;subst e;refine aK (λ_=>al (vw _ hp _ _ hex) λ_ _=>ah (sm _)) λ_=>?_
 refine aE (λ_=>?_) λ_=>?_
 ·refine aQ (λx=>WQ ((D,T,t),A,sp,se) x) ?_ λx J=>ah J
  refine al (nL _ hp _ _ _ _) λ_ _=>aK (λ_=>?_) λ_=>?_
  ·exact al (ey _) λ_ _=>al (sj _) λ_ _=>ah (sm _)
  ·refine al (hin _ _ _) λy I=>?_
   obtain⟨U,M⟩:=y;dsimp only at I;subst I;exact aW (by simp) (al (ey _) λ_ _=>al (sj _) λ_ _=>ah (sm _))
 refine aQ (λx=>x.2=((D,T,t),A,s,(D,T),sp,se)) (aE (λ_=>ah (by dsimp only;rw[wC])) λ_=>ah (by dsimp only;rw[wC])) ?_;rintro⟨b,x⟩ e;dsimp only at e;subst e;refine aK (λ_=>?_) λ_=>?_
 ·refine aQ (λx=>WQ ((D,T,t),A,sp,se) x) ?_ λx J=>ah J
  refine al (nL _ hp _ _ _ _) λ_ _=>aK (λ_=>?_) λ_=>?_
  ·exact al (ey _) λ_ _=>al (sj _) λ_ _=>ah (sm _)
  ·refine al (hin _ _ _) λy I=>?_
   obtain⟨U,M⟩:=y;dsimp only at I;subst I;exact aW (by simp) (al (ey _) λ_ _=>al (sj _) λ_ _=>ah (sm _))
 refine aE (λ_=>al (ey _) λ_ _=>ah (sm _)) λ_=>?_
 refine aE (λ_=>?_) λ_=>?_
 ·refine aQ (λx=>WQ ((D,T,t),A,sp,se) x) ?_ λx J=>ah J
  exact aK (λ_=>al (ey _) λ_ _=>ah (sm _)) λ_=>al (ey _) λ_ _=>ah (sm _)
 refine aQ (λx=>x.2=((D,T,t),A,s,(D,T),sp,se)) (aE (λ_=>ah (by dsimp only;rw[wC])) λ_=>aE (λ_=>ah (by dsimp only;rw[wC])) λ_=>ah (by dsimp only;rw[wC])) ?_;rintro⟨b,x⟩ e;dsimp only at e;subst e;refine aK (λ_=>?_) λ_=>?_
 ·refine al (nL _ hp _ _ _ _) λr hr=>bN (λ_=>ah (sm _)) λg=>?_
  obtain⟨v,hv,v0,Y⟩:=hr g (by omega) (by omega);refine aN hv (aB v0 Y (aM ?_));refine al (hin _ _ _) λy I=>?_
  obtain⟨U,M⟩:=y;dsimp only at I;subst I;refine aW (by simp) ?_;refine aQ (λx=>WQ ((D,T,t),A,sp,se) x) ?_ λx J=>ah J
  refine aK (λ_=>al (ey _) λ_ _=>ah (sm _)) λ_=>dB (λ_=>al (ey _) λ_ _=>ah (sm _)) λ_=>?_
  exact aE (λ_=>al (ey _) λ_ _=>ah (sm _)) λ_=>al (ey _) λ_ _=>ah (sm _)
 refine aE (λ_=>?_) λ_=>?_
 ·refine al (nL _ hp _ _ _ _) λr hr=>bN (λ_=>ah (sm _)) λg=>?_
  refine al (qT T _ hth) λv hv=>?_
  refine aQ (λx=>x.2=((D,T,t),A,s,sp,se)) ?_ ?_
  ·refine aK (λ_=>ah (by dsimp only;rw[wC])) λ_=>aK (λ_=>ah (by dsimp only;rw[wC])) λ_=>aK (λ_=>ah (by dsimp only;rw[wC])) λ_=>aE (λ_=>ah (by dsimp only;rw[wC])) λ_=>ah (by dsimp only;rw[wC])
  rintro⟨b,x⟩ e;dsimp only at e;subst e;refine aK (λ_=>ah (sm _)) λ_=>?_
  refine al (wY sp _ (by omega)) λ_ _=>eY (λ_=>ah (sm _)) λ_=>?_
  exact ba (by simp;omega) (by omega) (ah ⟨rfl,rfl,by simp,Nat.le_succ _⟩)
 refine aE (λ_=>?_) λ_=>?_
 ·refine aQ (λx=>WQ ((D,T,t),A,sp,se) x) ?_ λx J=>ah J
  refine al (nL _ hp _ _ _ _) λr hr=>?_
  refine aK (λ_=>al (ey _) λ_ _=>al (sj _) λ_ _=>ah (sm _)) λ_=>?_
  refine aK (λ_=>al (ey _) λ_ _=>al (sj _) λ_ _=>ah (sm _)) λ_=>?_
  exact al (qT T _ hth) λv hv=>al (ey _) λ_ _=>al (sj _) λ_ _=>ah (sm _)
 refine aE (λ_=>?_) λ_=>?_
 ·refine aQ (λx=>x.2=((D,T,t),A,s,(D,T),sp,se)) ?_ ?_
  ·refine al (nL _ hp _ _ _ _) λr hr=>?_
   exact aK (λ_=>al (ey _) λ_ _=>al (sj _) λ_ _=>ah (by dsimp only;rw[wC])) λ_=>al (ey _) λ_ _=>al (sj _) λ_ _=>ah (by dsimp only;rw[wC])
  rintro⟨b,x⟩ e;dsimp only at e;subst e;refine aQ (λx=>x.2=((D,T,t),A,s,(D,T),sp,se)) ?_ ?_
  ·refine aQ (λx=>x.2=((D,T,t),A,s,(D,T),sp,se)) ?_ ?_
   ·exact aE (λ_=>al (wY se _ (by omega)) λ_ _=>ah (by dsimp only;rw[wC])) λ_=>ah (by dsimp only;rw[wC])
   rintro⟨b,x⟩ e;dsimp only at e;subst e;exact aK (λ_=>ah (by dsimp only;rw[wC])) λ_=>ah (by dsimp only;rw[wC])
  rintro⟨b,x⟩ e;dsimp only at e;subst e;refine ba (by simp;omega) (by omega) ?_;exact al (vw _ hp _ _ hex) λ_ _=>al (sj _) λ_ _=>ah ⟨rfl,rfl,Nat.le_succ _,by simp⟩
 exact al (nL _ hp _ _ _ _) λ_ _=>al (nL _ hp _ _ _ _) λ_ _=>al (ey _) λ_ _=>al (sj _) λ_ _=>al (sj _) λ_ _=>ah (sm _)
abbrev RA4:Type:=(List Sx×WK)->Option ((Int×Int)×WK)
structure QA (l:List Sx) (d:Nat) (w:WK) (y:(Int×Int)×WK):Prop where
 p:y.2.1=w.1
 a:y.2.2.1.2.length=w.2.1.2.length
 s:y.2.2.2.1.length<=w.2.2.1.length+l.length*KS d
 t:y.2.2.2.2.length<=w.2.2.2.length+l.length*KS d
def SpA (rr:RA4) (d:Nat):Prop:=∀ (l:List Sx) (w:WK),l.length<=100->(∀ s∈l,GT d s)->PX (w.1.1,w.1.2.1)->w.2.1.2.length+d<=50->w.2.2.1.length+l.length*KS d<=100000000->w.2.2.2.length+l.length*KS d<=100000000->Ok (rr (l,w)) (QA l d w)
theorem aap (rr:RA4) (d:Nat) (hr:∀ d',d=d'+1->SpA rr d'):SpA (lh rr) d:=by
 rintro l ⟨⟨D,T,t⟩,A,sp,se⟩ hl hg hp hA h1 h2;dsimp only at hp hA h1 h2;have hK:∀ i:Nat,i<=l.length->i*KS d<=l.length*KS d:=λi hi=>cf _ hi
 unfold lh Prod.p2 Prod.p3 Prod.p4 Prod.q3 Prod.q4 Prod.q5 ck aX bk ik bn bw aP cu ax ca dw;refine bX l.length (λi x=>x.1=(i:Int)/\x.2.1=(D,T,t)/\x.2.2.1.2.length=A.2.length/\x.2.2.2.1.length<=sp.length+i*KS d/\x.2.2.2.2.length<=se.length+i*KS d) ?_ ?_ ⟨rfl,rfl,rfl,by simp,by simp⟩
 ·rintro i ⟨a,P,A',sp',se'⟩ hi ⟨e1,e2,e3,Y,U⟩;dsimp only at e1 e2 e3 Y U;subst e1;subst e2;have hKi:=hK (i+1) (by omega);have hKs:=gX i (KS d);rw[Nat.succ_eq_add_one] at hKs;refine aI (λ_=>?_) λg=>(by dsimp only[ai] at g;omega)
  refine aB (by dsimp only;omega) (by dsimp only;omega) (aM ?_);have hm:=hg _ (bx (T:=.sm) (xs:=l) (j:=(i:Int)) (by omega) (by omega));revert hm;generalize (aD (T:=.sm) l (i:Int))=s;intro hm;cases d with
  |zero=>exact hm.elim
  |succ d=>
   have hR:=hr d rfl;obtain⟨_,g2,g3,g4,g5,g6,g7⟩:=hm;have hk:KS (d+1)=1+16*KS d:=rfl;have kb:s.body.length*KS d<=8*KS d:=cf _ g4;have ke:s.els.length*KS d<=8*KS d:=cf _ g5;dsimp only;rw[wC];refine al (adz s D T t A' sp' se' hp (by omega) (by omega) (by omega) g2 g3) λy M=>?_
   obtain⟨e,P2,A2,sp2,se2⟩:=y;obtain⟨J,I,q3,q4⟩:=M;dsimp only at J I q3 q4;subst J;subst I;refine aW (by simp) ?_;refine aQ (λx=>x.2=((D,T,t),s,A2,sp2,se2)) (aI (λ_=>ah rfl) λ_=>ah rfl) ?_;rintro⟨e,x⟩ ex;dsimp only at ex;subst ex;refine bN (λ_=>ah ⟨rfl,e3,by dsimp only;omega,by dsimp only;omega⟩) λ_=>?_
   refine ba (by simp;omega) (by omega) (aB (by simp) (by simp;omega) (aB (by simp) (by simp;omega) ?_));dsimp only;rw[wC];refine al (hR s.body ((D,T,t),(A2.1,cw (A2.2++[_]) _ s),sp2,se2) (by omega) g6 hp ?_ ?_ ?_) λy M=>?_
   ·dsimp only;rw[bG];simp;omega
   ·dsimp only;omega
   ·dsimp only;omega
   obtain⟨e6,P6,A6,sp6,se6⟩:=y;obtain⟨J,I,q5,q6⟩:=M;dsimp only at J I q5 q6;subst J;rw[bG,bg,fw] at I;refine aW (by simp) ?_;refine aQ (λx=>x.2.1=(D,T,t)/\x.2.2.1.2.length=A2.2.length+1/\x.2.2.2.1.length<=sp2.length+16*KS d/\x.2.2.2.2.length<=se2.length+16*KS d) ?_ ?_
   ·refine aE (λ_=>?_) λ_=>ah ⟨rfl,I,by dsimp only;omega,by dsimp only;omega⟩
    refine al (hR s.els ((D,T,t),A6,sp6,se6) (by omega) g7 hp (by dsimp only;omega) (by dsimp only;omega) (by dsimp only;omega)) λy M=>?_
    obtain⟨e7,P7,A7,sp7,se7⟩:=y;obtain⟨r1,r2,r5,Z⟩:=M;dsimp only at r1 r2 r5 Z;subst r1;exact aW (by simp) (ah ⟨rfl,r2.trans I,by dsimp only;omega,by dsimp only;omega⟩)
   rintro⟨e8,P8,A8,sp8,se8⟩ ⟨r1,r2,r5,Z⟩;dsimp only at r1 r2 r5 Z;subst r1;have el:be .i64 ((aJ A8.2.length)-1)=(A2.2.length:Int):=by
    rw[r2,gK (by simp<;>omega) (by simp<;>omega)];simp<;>omega
   dsimp only;rw[el];have tk:(db (aL (A2.2.length:Int)) A8.2).length=A2.2.length:=by rw[bm];omega
   refine cY (dY (by omega) (yp (by rw[r2];omega) ?_));refine bN (λ_=>ah ⟨rfl,by dsimp only;omega,by dsimp only;omega,by dsimp only;omega⟩) λ_=>ah ?_
   exact⟨go (by omega),rfl,by dsimp only;omega,by dsimp only;omega,by dsimp only;omega⟩
 ·rintro⟨a,P,A',sp',se'⟩ ⟨e1,e2,e3,Y,U⟩;dsimp only at e1 e2 e3 Y U;subst e1;subst e2;exact aI (λg=>(by dsimp only[ai] at g;omega)) λ_=>ah ⟨rfl,e3,Y,U⟩
theorem UJ:∀ (n d:Nat),d<n->SpA (gI n) d
 |0,_,h=>by omega
 |n+1,d,h=>aap (gI n) d λI hd=>UJ n I (by omega)
theorem Cy (p:PG) (h:PX p):Ok (eg p) λr=>r.1=0->(p.2.map λt=>mo 5 t.2.2.2).sum<=60:=by
 have hd:=h.d;have ht:=h.t;unfold eg Prod.p2 Prod.p3 Prod.p4 Prod.q3 Prod.q5 bk ik bn bw aP cu ax ca;refine al (WN p h) λ_ _=>dB (λ_=>ah λh=>(by cases h)) λ_=>?_
 refine al (Sq p.1 hd) λ_ _=>bN (λhn=>ah λh=>(hn h).elim) λ_=>aI (λ_=>ah λh=>(by cases h)) λ_=>?_
 refine al (LS p h) λ_ _=>bN (λhn=>ah λh=>(hn h).elim) λ_=>?_
 have J:KS 5=69905:=rfl;refine bX p.2.length (λi x=>x.1.2=(i:Int)/\x.2=p/\x.1.1=((((p.2.take i).map λt=>mo 5 t.2.2.2).sum:Nat):Int)/\(x.1.1:Int)<=((i*6990500:Nat):Int)) ?_ ?_ ⟨rfl,rfl,by simp,by simp⟩
 ·rintro i ⟨⟨(c:Int),a⟩,x⟩ hi ⟨e1,e2,e3,I⟩;dsimp only at e1 e2 e3 I;subst e1;have e2:=e2.symm;subst e2;refine aI (λ_=>?_) λg=>(by dsimp only[ai] at g;omega)
  refine aB (by dsimp only;omega) (by dsimp only;omega) (aM ?_);have hm:=bx (T:=xi) (xs:=p.2) (j:=(i:Int)) (by omega) (by omega);have hb:=h.b _ hm;have hcb:=YS (h.s _ hm);have hcb2:=cf (KS 5) hb;rw[J] at hcb hcb2;refine aN (Dp fuel 5 _ (by rw[iZ];omega) (cM hb (by omega)) (h.s _ hm) (by rw[J];omega)) (ah ⟨go (by omega),rfl,?_,?_⟩)
  ·dsimp only;rw[mQ (T:=xi) hi,ct,DS,gK (by omega) (by omega),e3];simp
  ·dsimp only;rw[gK (by omega) (by omega)];omega
 rintro⟨⟨(c:Int),a⟩,x⟩ ⟨e1,e2,e3,I⟩;dsimp only at e1 e2 e3 I;subst e1;have e2:=e2.symm;subst e2;rw[cz] at e3;refine aI (λg=>(by dsimp only[ai] at g;omega)) λ_=>?_
 refine al (P:=λr=>r.1=0->(p.2.map λt=>mo 5 t.2.2.2).sum<=60) ?_ λ_ h=>ah h
 refine aI (λ_=>ah λh=>(by cases h)) λM=>?_
 have M:c<=60:=M;refine bX p.2.length (λi x=>x.1=(i:Int)/\x.2.1=p/\x.2.2.1.1=p.1/\x.2.2.1.2.1=p.2/\x.2.2.2.1.2.length=0/\x.2.2.2.2.1.length<=i*6990500/\x.2.2.2.2.2.length<=i*6990500) ?_ ?_ ⟨rfl,rfl,rfl,rfl,rfl,by simp,by simp⟩
 ·rintro i ⟨a,x,⟨D,T,t⟩,A,sp,se⟩ hi ⟨e1,e2,e3,I,e5,e6,e7⟩;dsimp only at e1 e2 e3 I e5 e6 e7;subst e1;have e2:=e2.symm;subst e2;subst e3;subst I;refine aI (λ_=>?_) λg=>(by dsimp only[ai] at g;omega)
  refine aB (by dsimp only;omega) (by dsimp only;omega) (aM ?_);have hm:=bx (T:=xi) (xs:=p.2) (j:=(i:Int)) (by omega) (by omega);have hb:=h.b _ hm;have hs:=h.s _ hm;revert hb hs;dsimp only;generalize (aD (T:=xi) p.2 (i:Int))=th;intro hb hs;have hk:KS 5=69905:=rfl;have hle:th.2.2.2.length*KS 5<=100*KS 5:=cf _ hb;rw[hk] at hle;refine al (UJ fuel 5 (by rw[iZ];omega) th.2.2.2 ((p.1,p.2,(i:Int)),A,sp,se) hb hs h (by dsimp only;omega) (by dsimp only;rw[hk];omega) (by dsimp only;rw[hk];omega)) λy Z=>?_
  obtain⟨e,P2,A2,sp2,se2⟩:=y;obtain⟨U,Y,q3,q4⟩:=Z;dsimp only at U Y q3 q4;subst U;rw[hk] at q3 q4;refine aW (by simp) (bN (λhn=>ah λh=>(hn h).elim) λ_=>ah ?_);exact⟨go (by omega),rfl,rfl,rfl,by dsimp only;omega,by dsimp only;omega,by dsimp only;omega⟩
 ·rintro⟨a,x,P,w⟩ ⟨e1,e2,_⟩;dsimp only at e1 e2;subst e1;have e2:=e2.symm;subst e2;exact aI (λg=>(by dsimp only[ai] at g;omega)) λ_=>ah λ_=>by omega
theorem cE {R:Type} {o I:Option R} {Q:R->Prop} (h:o=I) (hk:Ok I Q):Ok o Q:=h▸hk
def D0:List DT:=[(1,0,[120],0,0,[]),(1,0,[121],0,1,[]),(2,0,[118],0,0,[]),(1,0,[113],2,0,[]),(3,0,[109],0,0,[]),(3,0,[110],0,0,[]),(4,0,[114],0,0,[]),(5,0,[99],0,0,[109]),(6,0,[102],0,0,[])]
def L0:List (List UInt8):=[[97],[98]]
set_option maxHeartbeats 20000000 in
theorem ahe:∃ r,eg (D0,[([109,97,105,110],0,L0,[mD (1,0,[120],[],[],du (1,1,[],[]),[],[])])])=ajn r/\r.1=0:=by
 suffices h:Ok (eg (D0,[([109,97,105,110],0,L0,[mD (1,0,[120],[],[],du (1,1,[],[]),[],[])])])) λr=>r.1=0 by
  obtain⟨y,h1,h2⟩:=h;exact⟨y,h1,h2⟩
 unfold eg Prod.p2 Prod.p3 Prod.p4 Prod.q3 Prod.q5 bk ik bn bw aP cu ax ca;with_reducible repeat' first|exact ah rfl|refine Uq ?_|refine Up ?_|refine Uo ?_|refine Um ?_|refine Oe ?_|refine Z7 ?_|refine aM ?_|refine eC rfl ?_|refine eM rfl ?_|refine aW rfl ?_|refine Un ?_|refine Of ?_|refine cE (oD.eq_1 ..) ?_|refine cE (jk.eq_1 ..) ?_|refine cE (ec.eq_1 ..) ?_|refine cE (iM.eq_1 ..) ?_|refine cE (jC.eq_1 ..) ?_|refine cE (kj.eq_1 ..) ?_|refine cE (ol.eq_1 ..) ?_|refine cE (pZ.eq_1 ..) ?_|refine cE (mB.eq_1 ..) ?_|refine cE (iF.eq_1 ..) ?_|refine cE (jp.eq_1 ..) ?_|refine cE (kQ.eq_1 ..) ?_|refine cE (ig.eq_1 ..) ?_|refine cE (kZ.eq_1 ..) ?_|refine cE (oh.eq_1 ..) ?_|refine cE (pY.eq_1 ..) ?_|refine cE (gi.eq_1 ..) ?_|refine cE (mA.eq_1 ..) ?_|refine cE (fP.eq_1 ..) ?_|refine cE (hZ.eq_1 ..) ?_|refine cE (Ag.eq_1 ..) ?_|refine cE (sP.eq_1 ..) ?_|refine cE (uf.eq_1 ..) ?_|refine cE (lh.eq_1 ..) ?_|refine cE (kX.eq_1 ..) ?_|refine cE (di.eq_1 ..) ?_|refine cE (fD.eq_1 ..) ?_|refine cE (oC.eq_1 ..) ?_|refine cE (kY.eq_1 ..) ?_|refine cE (Af.eq_1 ..) ?_|refine cE (sO.eq_1 ..) ?_|refine cE (Ae.eq_1 ..) ?_|refine cE (sN.eq_1 ..) ?_|refine cE (hY.eq_1 ..) ?_|refine cE (cC.eq_1 ..) ?_|refine cE (ck.eq_1 ..) ?_|refine cE (congrFun (congrArg cX iZ) _) ?_|refine cE (w7 _ _) ?_|refine cE (congrFun (congrArg dD iZ) _) ?_|refine cE (xF _ _) ?_|refine cE (congrFun (congrArg gj iZ) _) ?_|refine cE (qP _ _) ?_|refine cE (congrFun (congrArg mf iZ) _) ?_|refine cE (wK _ _) ?_|refine cE (congrFun (congrArg gI iZ) _) ?_|refine cE (As _ _) ?_|refine cE (congrFun (congrArg me iZ) _) ?_|refine cE (wJ _ _) ?_|refine cE (congrFun (congrArg md iZ) _) ?_|refine cE (wI _ _) ?_
 all_goals trace_state
structure TM (nT:Nat) (t:HT):Prop where
 l:t.2.2.1=L0
 b:t.2.2.2.length<=8
 s:∀ s∈t.2.2.2,GS nT 3 s
structure PJ (p:PG):Prop where
 d:p.1=D0
 t0:1<=p.2.length
 t:p.2.length<=4
 m:∀ t∈p.2,TM p.2.length t
 n:p.2.map Prod.fst=uz.take p.2.length
theorem PJ.x {p:PG} (h:PJ p):PX p:=⟨by rw[h.d];decide,by have:=h.t;omega,λt ht=>by rw[(h.m t ht).l];decide,λt ht=>by have:=(h.m t ht).b;omega,λt ht s hs=>((h.m t ht).s s hs).le (by omega:3<=5) |>.t⟩
theorem Pw:qL ()=ajn D0:=rfl
theorem Zi:∀ m:Nat,m<5->∀ j:Nat,j<m->aD (T:=.str) uz (j:Int)∈uz.take m:=by decide
theorem NU {nT:Nat} (op:Int) {n:List UInt8} (J:op=12\/op=13) (hn:n∈uz.take nT):GS nT 3 (mD (op,0,n,[],[],du (0,0,[],[]),[],[])):=GS.wo (by omega) (by simp) (λx I=>(by cases I)) (by rcases J with rfl|rfl<;>(constructor<;>simp[Sx.op,Sx.name,Sx.index,Sx.arg,Sx.els,Sx.body]<;>exact hn))
theorem Fe (x:List Int) (hl:x.length<=9223372036854775807) (hx:∀ z∈x,0<=z/\z<=255):Ok (nA x) λp=>PJ p/\∃ r,eg p=ajn r/\r.1=0:=by
 unfold nA Prod.p2 Prod.p3 Prod.p4 Prod.p5 Prod.p6 Prod.p7 Prod.p8 Prod.q3 Prod.q6 Prod.q7 Prod.q8 Prod.q9 aX bk ik bn kf cu ax ca dw;refine aN Pw ?_;refine al (fe 3 (x,0) ⟨hl,hx,by dsimp only;omega,by dsimp only;omega⟩) λy J=>?_
 obtain⟨n,t0⟩:=y;obtain⟨s0,n0,n1,_⟩:=J;have n1:=n1 (by decide);dsimp only at s0 n0 n1;have ew:be .i64 (2+n)=2+n:=gK (by omega) (by omega);obtain⟨nT,hnT⟩:∃ m:Nat,2+n=(m:Int):=⟨(2+n).toNat,by omega⟩
 refine bX nT (λi x=>x.1=(i:Int)/\x.2.2.1=D0/\x.2.2.2.1=uz/\TP x.2.2.2.2.1/\x.2.2.2.2.2.1.2=[]/\x.2.2.2.2.2.2.map Prod.fst=uz.take i/\∀ t∈x.2.2.2.2.2.2,TM nT t) ?_ ?_ ⟨rfl,rfl,rfl,s0.p,rfl,rfl,λt ht=>(by cases ht)⟩
 ·rintro i ⟨a,m,D,N,t,h,th⟩ hi ⟨e1,e2,e3,e4,e5,e6,e7⟩;dsimp only at e1 e2 e3 e4 e5 e6 e7;subst e1;subst e2;refine aI (λg=>?_) λg=>(by dsimp only at g;rw[ew] at g;omega)
  have l4:N.length=4:=by rw[e3];rfl
  refine aB (by dsimp only;omega) (by dsimp only;omega) (aB (by dsimp only;omega) (by dsimp only;omega) (aM ?_));have hthl:th.length=i:=by have:=congrArg af e6;rw[bV,bm] at this;have q4:uz.length=4:=rfl;omega
  refine aQ (λx=>x.2.2.2.1.1=aD (T:=.str) N (i:Int)/\x.2.1=D0/\x.2.2.1=uz/\TP x.2.2.2.2.1/\x.2.2.2.2.2.1.2=[]/\x.2.2.2.2.2.2.1=th/\x.2.2.2.2.2.2.2.1=L0/\x.2.2.2.2.2.2.2.2.length<=3/\∀ s∈x.2.2.2.2.2.2.2.2,GS nT 3 s) ?_ ?_
  ·refine aE (λ_=>?_) λ_=>ah ⟨rfl,rfl,e3,e4,e5,rfl,rfl,by simp,λs hs=>(by cases hs)⟩
   refine bX (1+n).toNat (λk x=>x.2.2.2.2.1.1=aD (T:=.str) N (i:Int)/\x.1=1+(k:Int)/\x.2.2.1=D0/\x.2.2.2.1=uz/\TP x.2.2.2.2.2.1/\x.2.2.2.2.2.2.1.2=[]/\x.2.2.2.2.2.2.2.1=th/\x.2.2.2.2.2.2.2.2.1=L0/\x.2.2.2.2.2.2.2.2.2.length<=k/\∀ s∈x.2.2.2.2.2.2.2.2.2,GS nT 3 s) ?_ ?_ ⟨rfl,rfl,rfl,e3,e4,e5,rfl,rfl,by simp,λs hs=>(by cases hs)⟩
   ·rintro k ⟨c,m1,D1,N1,z1,t1,h1,th1,l1,b1⟩ hk ⟨fz,f1,f2,I,Z,f5,Y,U,f8,M⟩;dsimp only at fz f1 f2 I Z f5 Y U f8 M;subst f1;refine aI (λ_=>?_) λg=>(by dsimp only at g;rw[ew] at g;omega)
    have l41:N1.length=4:=by rw[I];rfl
    refine aB (by dsimp only;omega) (by dsimp only;omega) (aB (by dsimp only;omega) (by dsimp only;omega) (aM ?_));refine ba (by simp;omega) (by omega) (ah ?_);dsimp only;rw[gK (n:=1+(k:Int)+1) (by omega) (by omega)];refine ⟨fz,by omega,f2,I,Z,f5,Y,U,by simp;omega,λs hs=>?_⟩;rcases bE.1 hs with hs|hs
    ·exact M s hs
    ·rw[aF] at hs;rw[hs];refine NU 12 (.inl rfl) ?_;rw[I,show 1+(k:Int)=((1+k:Nat):Int) by omega];exact Zi nT (by omega) (1+k) (by omega)
   ·rintro⟨c,m1,D1,N1,z1,t1,h1,th1,l1,b1⟩ ⟨fz,f1,f2,I,Z,f5,Y,U,f8,M⟩;dsimp only at fz f1 f2 I Z f5 Y U f8 M;subst f1;refine aI (λg=>(by dsimp only at g;rw[ew] at g;omega)) λ_=>ah ?_
    exact⟨fz,f2,I,Z,f5,Y,U,by dsimp only;omega,M⟩
  rintro⟨m1,D1,N1,z1,t1,h1,th1,l1,b1⟩ ⟨fz,f2,I,Z,f5,Y,U,f8,M⟩;dsimp only at fz f2 I Z f5 Y U f8 M;subst f2;subst Y;subst U;refine al (fe 3 t1 Z) λy J=>?_
  obtain⟨k2,t2⟩:=y;obtain⟨u1,u2,u3,_⟩:=J;have u3:=u3 (by decide);dsimp only at u1 u2 u3;dsimp only;rw[gK (n:=1+k2) (by omega) (by omega)];refine al (Vt (nT:=nT) 2 (by omega) (1+k2) m1 t2 h1 (by omega) u1.p (by rw[f5];simp)) λy J=>?_
  obtain⟨m3,t3,h3,l3⟩:=y;obtain⟨w1,w2,w3,w4⟩:=J;dsimp only at w1 w2 w3 w4;refine aW (by simp) (ba (by simp;omega) (by omega) ?_);have hbody:∀ s∈b1++l3,GS nT 3 s:=λs hs=>by
   rcases bE.1 hs with hs|hs
   ·exact M s hs
   ·exact w2 s hs
  have hlen:(b1++l3).length<=6:=by rw[bg];omega
  refine aQ (λx=>x.2.2.2.1.1=aD (T:=.str) N (i:Int)/\x.2.1=D0/\x.2.2.1=uz/\TP x.2.2.2.2.1/\x.2.2.2.2.2.1.2=[]/\x.2.2.2.2.2.2.1=th1/\x.2.2.2.2.2.2.2.1=L0/\x.2.2.2.2.2.2.2.2.length<=8/\∀ s∈x.2.2.2.2.2.2.2.2,GS nT 3 s) ?_ ?_
  ·refine aQ (λx=>x.2.2.2.2.1.1=aD (T:=.str) N (i:Int)/\x.2.2.1=D0/\x.2.2.2.1=uz/\TP x.2.2.2.2.2.1/\x.2.2.2.2.2.2.1.2=[]/\x.2.2.2.2.2.2.2.1=th1/\x.2.2.2.2.2.2.2.2.1=L0/\x.2.2.2.2.2.2.2.2.2=b1++l3) ?_ ?_
   ·refine aE (λ_=>?_) λ_=>ah ⟨fz,rfl,I,w3.p,w4.trans f5,rfl,rfl,rfl⟩
    exact al (fe 3 t3 w3.p) λy J=>ah ⟨fz,rfl,I,J.1.p,w4.trans f5,rfl,rfl,rfl⟩
   rintro⟨b,m4,D4,N4,z4,t4,h4,th4,l4,b4⟩ ⟨pz,p2,p3,p4,p5,p6,p7,p8⟩;dsimp only at pz p2 p3 p4 p5 p6 p7 p8;subst p2;subst p6;subst p7;subst p8;have l44:N4.length=4:=by rw[p3];rfl
   refine aK (λ_=>?_) λ_=>ah ⟨pz,rfl,p3,p4,p5,rfl,rfl,by dsimp only;omega,hbody⟩
   refine aB (by omega) (by dsimp only;omega) (aB (by omega) (by dsimp only;omega) (aM ?_));refine ba (by simp at hlen ⊢;omega) (by omega) (ah ⟨pz,rfl,p3,p4,p5,rfl,rfl,by dsimp only;rw[bg,fw];omega,λs hs=>?_⟩);rcases bE.1 hs with hs|hs
   ·exact hbody s hs
   ·rw[aF] at hs;rw[hs];refine NU 13 (.inr rfl) ?_;rw[p3];exact Zi nT (by omega) 1 (by omega)
  rintro⟨m4,D4,N4,z4,t4,h4,th4,l4,b4⟩ ⟨pz,p2,p3,p4,p5,p6,p7,p8,p9⟩;dsimp only at pz p2 p3 p4 p5 p6 p7 p8 p9;subst p2;subst p6;subst p7;refine ba (by simp;omega) (by omega) (ah ?_);dsimp only;refine ⟨go (by omega),rfl,p3,p4,p5,by rw[mQ (T:=.str) (xs:=uz) (i:=i) (by have q4:uz.length=4:=rfl;omega),ct,e6,<-e3];show _++[z4.1]=_;rw[pz],λt ht=>?_⟩;rcases bE.1 ht with ht|ht
  ·exact e7 t ht
  ·rw[aF] at ht;rw[ht];exact⟨rfl,p8,p9⟩
 ·rintro⟨a,m,D,N,t,h,th⟩ ⟨e1,e2,e3,e4,e5,e6,e7⟩;dsimp only at e1 e2 e3 e4 e5 e6 e7;subst e1;subst e2;refine aI (λg=>(by dsimp only at g;rw[ew] at g;omega)) λ_=>?_
  have hthl:th.length=nT:=by have:=congrArg af e6;rw[bV,bm] at this;have q4:uz.length=4:=rfl;omega
  have hpm:PJ (D0,th):=⟨rfl,by dsimp only;omega,by dsimp only;omega,by dsimp only;rw[hthl];exact e7,by dsimp only;rw[hthl];exact e6⟩
  refine al (P:=λp=>PJ p/\∃ r,eg p=ajn r/\r.1=0) ?_ λr hr=>ah hr
  obtain⟨y,J,_⟩:=Cy (D0,th) hpm.x;refine aN J (bN (λ_=>?_) λh=>ah ⟨hpm,y,J,h⟩);refine aN Pw (aN (L7 _) (aN (sa _ _) (ah ?_)));refine ⟨⟨rfl,by simp,by simp,λt ht=>?_,rfl⟩,ahe⟩;simp only[aF] at ht;rw[ht];refine ⟨rfl,by simp,λs hs=>?_⟩;simp only[aF] at hs;rw[hs,ef,xk];exact GS.asg (by decide) (GE.num _ 3)
abbrev iA (l:List IT) (k:Nat):IT:=aD (T:=zN) l (k:Int)
def JT (l:List IT) (ρ:Nat->Nat) (a e k:Nat):Prop:=(iA l k).1=5->∃ I:Nat,(iA l k).2.1=(I:Int)/\(I=e\/a<=I/\I<e/\ρ I<ρ k)
def pC (l:List IT) (a e:Nat):Prop:=a<=e/\∃ ρ:Nat->Nat,∀ k,a<=k->k<e->1<=ρ k/\ρ k<=e-a/\JT l ρ a e k/\((iA l k).1<5->k+1=e\/ρ (k+1)<ρ k)
theorem pC.nil (l:List IT) (a:Nat):pC l a a:=⟨bF _,λ_=>0,λk h1 I=>by omega⟩
theorem pC.one {l:List IT} {a:Nat} (h:¬(iA l a).1=5):pC l a (a+1):=⟨by omega,λ_=>1,λk h1 J=>⟨bF 1,by show 1<=a+1-a;omega,λI=>by rw[show k=a by omega] at I;exact (h I).elim,λ_=>.inl (by omega)⟩⟩
theorem pC.congr {l I:List IT} {a e:Nat} (h:pC l a e) (hc:∀ k,a<=k->k<e->iA I k=iA l k):pC I a e:=by
 obtain⟨h1,ρ,U⟩:=h;exact⟨h1,ρ,λk M J=>by unfold JT;rw[hc k M J];exact U k M J⟩
theorem pC.app {l:List IT} {a b c:Nat} (h:pC l a b) (k:pC l b c):pC l a c:=by
 obtain⟨h1,ρ,Y⟩:=h;obtain⟨k1,σ,k2⟩:=k;refine ⟨by omega,λk=>if k<b then ρ k+(c-b) else σ k,λk g1 Z=>?_⟩;by_cases hk:k<b
 ·obtain⟨M,U,q3,q4⟩:=Y k g1 hk;simp only[if_pos hk];refine ⟨by omega,by omega,?_,λI=>?_⟩
  ·intro I;simp only[if_pos hk];obtain⟨J,e,r⟩:=q3 I;refine ⟨J,e,?_⟩;rcases r with r|⟨r1,r2,r3⟩
   ·subst r;by_cases hc:J=c
    ·exact .inl hc
    ·have:=(k2 J (bF _) (by omega)).2.1;rw[if_neg (AL _)];exact .inr ⟨by omega,by omega,by omega⟩
   ·rw[if_pos r2];exact .inr ⟨r1,by omega,by omega⟩
  ·rcases q4 I with r|r
   ·by_cases hc:k+1=c
    ·exact .inl hc
    ·have:=(k2 (k+1) (by omega) (by omega)).2.1;rw[if_neg (by omega)];exact .inr (by omega)
   ·by_cases hb:k+1<b
    ·rw[if_pos hb];exact .inr (by omega)
    ·rw[if_neg hb];by_cases hc:k+1=c
     ·exact .inl hc
     ·have:=(k2 (k+1) (by omega) (by omega)).2.1;exact .inr (by omega)
 ·obtain⟨M,U,q3,q4⟩:=k2 k (by omega) Z;simp only[if_neg hk];refine ⟨M,by omega,?_,λI=>?_⟩
  ·intro I;simp only[if_neg hk];obtain⟨J,e,r⟩:=q3 I;refine ⟨J,e,r.imp id λ⟨r1,r2,r3⟩=>⟨by omega,r2,?_⟩⟩;rw[if_neg (by omega)];exact r3
  ·rw[if_neg (by omega)];exact q4 I
theorem pC.ite {l:List IT} {a j e:Nat} (h:pC l a j) (hj:(iA l j).1=5) (Y:(iA l j).2.1=(e:Int)) (k:pC l (j+1) e):pC l a e:=by
 obtain⟨h1,ρ,Z⟩:=h;obtain⟨k1,σ,k2⟩:=k;refine ⟨by omega,λk=>if k<j then ρ k+(e-j) else if k=j then e-j else σ k,λk g1 g2=>?_⟩;by_cases hk:k<j
 ·obtain⟨M,U,q3,q4⟩:=Z k g1 hk;simp only[if_pos hk];refine ⟨by omega,by omega,?_,λI=>?_⟩
  ·intro I;simp only[if_pos hk];obtain⟨J,e',r⟩:=q3 I;refine ⟨J,e',.inr ?_⟩;rcases r with r|⟨r1,r2,r3⟩
   ·rw[r,if_neg (AL _),if_pos rfl];exact⟨by omega,by omega,by omega⟩
   ·rw[if_pos r2];exact⟨r1,by omega,by omega⟩
  ·refine .inr ?_;by_cases hb:k+1<j
   ·rw[if_pos hb];rcases q4 I with r|r<;>omega
   ·rw[if_neg hb,if_pos (by omega)];omega
 ·by_cases hkj:k=j
  ·subst hkj;simp only[if_neg hk,if_pos];exact⟨by omega,by omega,λ_=>⟨e,Y,.inl rfl⟩,λI=>by rw[hj] at I;omega⟩
  ·obtain⟨M,U,q3,q4⟩:=k2 k (by omega) g2;simp only[if_neg hk,if_neg hkj];refine ⟨M,by omega,?_,λI=>?_⟩
   ·intro I;simp only[if_neg hk,if_neg hkj];obtain⟨J,e',r⟩:=q3 I;refine ⟨J,e',r.imp id λ⟨r1,r2,r3⟩=>⟨by omega,r2,?_⟩⟩;rw[if_neg (by omega),if_neg (by omega)];exact r3
   ·rw[if_neg (by omega),if_neg (by omega)];exact q4 I
theorem pC.whl {l:List IT} {a c j:Nat} (h:pC l a c) (hc:(iA l c).1=10) (k:pC l (c+1) j) (hj:(iA l j).1=5) (hx:(iA l j).2.1=(a:Int)):pC l a (j+1):=by
 obtain⟨h1,ρ,U⟩:=h;obtain⟨k1,σ,k2⟩:=k;refine ⟨by omega,λk=>if k<c then ρ k+1 else if k=c then 1 else if k<j then σ k+(c-a)+2 else c-a+2,λk g1 g2=>?_⟩;by_cases hk:k<c
 ·obtain⟨Z,Y,q3,q4⟩:=U k g1 hk;simp only[if_pos hk];refine ⟨by omega,by omega,?_,λI=>?_⟩
  ·intro I;simp only[if_pos hk];obtain⟨J,e',r⟩:=q3 I;refine ⟨J,e',.inr ?_⟩;rcases r with r|⟨r1,r2,r3⟩
   ·rw[r,if_neg (AL _),if_pos rfl];exact⟨by omega,by omega,by omega⟩
   ·rw[if_pos r2];exact⟨r1,by omega,by omega⟩
  ·refine .inr ?_;by_cases hb:k+1<c
   ·rw[if_pos hb];rcases q4 I with r|r<;>omega
   ·rw[if_neg hb,if_pos (by omega)];omega
 ·by_cases hkc:k=c
  ·subst hkc;simp only[if_neg hk,if_pos];exact⟨by omega,by omega,λI=>by rw[hc] at I;omega,λI=>by rw[hc] at I;omega⟩
  ·simp only[if_neg hk,if_neg hkc];by_cases hkj:k<j
   ·obtain⟨Z,Y,q3,q4⟩:=k2 k (by omega) hkj;simp only[if_pos hkj];refine ⟨by omega,by omega,?_,λI=>?_⟩
    ·intro I;simp only[if_neg hk,if_neg hkc,if_pos hkj];obtain⟨J,e',r⟩:=q3 I;refine ⟨J,e',.inr ?_⟩;rcases r with r|⟨r1,r2,r3⟩
     ·rw[r,if_neg (by omega),if_neg (by omega),if_neg (AL _)];exact⟨by omega,by omega,by omega⟩
     ·rw[if_neg (by omega),if_neg (by omega),if_pos r2];exact⟨by omega,by omega,by omega⟩
    ·refine .inr ?_;rw[if_neg (by omega),if_neg (by omega)];by_cases hb:k+1<j
     ·rw[if_pos hb];rcases q4 I with r|r<;>omega
     ·rw[if_neg hb];omega
   ·have hkj:k=j:=by omega
    subst hkj;simp only[if_neg (AL _)];refine ⟨by omega,by omega,λ_=>⟨a,hx,.inr ⟨bF _,by omega,?_⟩⟩,λI=>by rw[hj] at I;omega⟩;simp only[if_neg hk,if_neg hkc,if_neg (AL _)];by_cases M:a<c
    ·rw[if_pos M];have:=(U a (bF _) M).2.1;omega
    ·rw[if_neg M,if_pos (by omega)];omega
def OB (nT:Nat) (i:IT):Prop:=
 if i.1=6 then 0<=i.2.2.1/\i.2.2.1<=2 else if i.1=8 then 0<=i.2.1/\i.2.1<=2 else if i.1=7 then i.2.2.1=3/\i.2.2.2.2.1=2 else if i.1=9 then i.2.1=3/\i.2.2.2.2.1=2 else if i.1=11\/i.1=12 then i.2.1=0\/i.2.1=1 else if 13<=i.1/\i.1<=16 then i.2.1=2 else if 21<=i.1/\i.1<=23 then i.2.1=0 else if i.1=24\/i.1=25 then 0<=i.2.1/\i.2.1<(nT:Int) else if i.1=26 then i.2.1=0 else if i.1=27 then i.2.2.1=0 else if i.1=4 then 6<=i.2.2.2.2.1/\i.2.2.2.2.1<=18 else ¬i.1=3
structure GO (nT:Nat) (i:IT):Prop where
 o1:1<=i.1
 o2:i.1<=27
 r:∀ j:Int,j∈gT i->0<=j/\j<32
 b:OB nT i
def SO (ss:List (Int×Int×Int)) (t s:Int):Prop:=0<=s/\s<ss.length/\(aD (T:=wB) ss s).1=t
structure GI (nT:Nat) (ss:List (Int×Int×Int)) (t:Int) (i:IT):Prop where
 o:GO nT i
 s:SO ss t i.2.2.2.2.2
theorem RG (l:List IT) (hl:l.length<=1000000) (h1:1<=l.length) (hb:pC l 0 (l.length-1)) (he:(iA l (l.length-1)).1=28) (k:Nat) (hk:k<l.length):og (l,(k:Int))=ajn ajp:=by
 obtain⟨_,ρ,hρ⟩:=hb;refine co ?_;unfold og aX bk jf bw aP cu ax ca;refine oS (λx=>((l.length:Int)+1-x.2).toNat) (λx=>0<=x.2/\∃ q:Nat,x.1=(q:Int)/\q<l.length/\((if q<l.length-1 then ρ q else 0:Nat):Int)+x.2<=(l.length:Int)) ?_ ⟨by dsimp only;omega,k,rfl,hk,?_⟩
 ·rintro⟨a,(n:Int)⟩ ⟨n0,q,e,hq,hr⟩;dsimp only at n0 e hr;subst e;refine eY (λ_=>?_) λg=>(by dsimp only[ai] at g;omega)
  refine fR ?_;refine fR (aI (λg=>by dsimp only at g;omega) λ_=>ah ?_);refine eM (by rw[kP];dsimp only[ai];omega) ?_;refine aB (by omega) (by dsimp only;omega) (aM ?_);refine aN (DN _) ?_;refine dB (λ_=>ah rfl) λhs=>?_
  have hs:1<=(iA l q).1/\(iA l q).1<=5:=of_decide_eq_true hs;have J:q<l.length-1:=t8 λh=>by rw[show q=l.length-1 by omega] at hs;rw[he] at hs;omega
  obtain⟨r1,r2,r3,Z⟩:=hρ q (j9 _) J;rw[if_pos J] at hr;refine aB (by omega) (by dsimp only;omega) (aM ?_);have fin:∀ I:Nat,I=l.length-1\/I<l.length-1/\ρ I<ρ q->0<=n+1/\∃ M:Nat,(I:Int)=(M:Int)/\M<l.length/\((if M<l.length-1 then ρ M else 0:Nat):Int)+(n+1)<=(l.length:Int):=λI h=>⟨by omega,I,rfl,by omega,by
   rcases h with h|⟨h,h'⟩
   ·rw[if_neg (by omega)];omega
   ·rw[if_pos h];omega⟩
  refine aE (λU=>?_) λU=>ah (ah ?_)
  ·obtain⟨I,e,Y⟩:=r3 U;refine aB (dG _) (by dsimp only;omega) (aM (ah (ah ?_)));dsimp only;rw[gK (n:=n+1) (by omega) (by omega)];have:=fin I (Y.imp id λh=>⟨h.2.1,h.2.2⟩);rw[<- e] at this;exact⟨this,by omega⟩
  ·dsimp only;have U:¬(iA l q).1=5:=U;rw[gK (n:=n+1) (by omega) (by omega),go (by omega)];refine ⟨fin (q+1) ?_,by omega⟩;rcases Z (by omega) with h|h
   ·exact .inl h
   ·by_cases hb:q+1=l.length-1
    ·exact .inl hb
    ·exact .inr ⟨by omega,h⟩
 ·dsimp only;split
  ·rename_i h;have:=(hρ k (j9 _) h).2.1;omega
  ·omega
theorem IZ (w:WT) (I:w.1=C0):l9 (w,3,2)=ajn ajp:=by
 refine co ?_;have h0:(0:Int)<=3:=by decide
 have h1:(3:Int)<(w.1.length:Int):=by rw[I];decide
 have J:aD (T:=NI) w.1 3=([113],0,2,ajq,0):=by rw[I];rfl
 unfold l9 aX ik bw aP ax;refine fR (aN (qy _ _) (aE (λ_=>?_) λh=>(h ⟨h0,h1⟩).elim));dsimp only;rw[J];refine aB h0 h1 (aM (aE (λ_=>?_) λh=>(h rfl).elim));refine aB h0 h1 (aM (bN (λ_=>?_) λh=>absurd h (by decide)));exact aB h0 h1 (aM (ah (ah rfl)))
theorem L5 {nT:Nat} (w:WT) (i:IT) (hw:WX w) (hT:w.2.2.2.2.1.length=nT) (hb:OB nT i):kr (w,i)=ajn ajp:=by
 obtain⟨hc,hl,hd,hf,_,_,_⟩:=hw;refine co ?_;unfold kr Prod.p2 Prod.p3 Prod.p4 Prod.p5 Prod.p6 aX jf bw aP ax;unfold OB at hb;simp only[qy,nM];refine aE (λh=>?_) λn6=>?_
 ·rw[if_pos h] at hb;have M:(aD (T:=NI) w.1 i.2.2.1).2.2.1=(0:Int):=by
   rw[hc];rcases (by omega:i.2.2.1=0\/i.2.2.1=1\/i.2.2.1=2) with h|h|h<;>rw[h]<;>rfl
  have hi:0<=i.2.2.1/\i.2.2.1<(w.1.length:Int):=⟨hb.1,by rw[hc];have:=hb.2;show i.2.2.1<5;omega⟩
  exact fR (aE (λ_=>aB hi.1 hi.2 (aM (ah (ah (decide_eq_true M))))) λh=>(h hi).elim)
 rw[if_neg n6] at hb;refine aE (λh=>?_) λn8=>?_
 ·rw[if_pos h] at hb;have M:(aD (T:=NI) w.1 i.2.1).2.2.1=(0:Int):=by
   rw[hc];rcases (by omega:i.2.1=0\/i.2.1=1\/i.2.1=2) with h|h|h<;>rw[h]<;>rfl
  have hi:0<=i.2.1/\i.2.1<(w.1.length:Int):=⟨hb.1,by rw[hc];have:=hb.2;show i.2.1<5;omega⟩
  exact fR (aE (λ_=>aB hi.1 hi.2 (aM (ah (ah (decide_eq_true M))))) λh=>(h hi).elim)
 rw[if_neg n8] at hb;refine aE (λh=>?_) λn7=>?_
 ·rw[if_pos h] at hb;rw[hb.1,hb.2];exact aN (IZ w hc) (ah rfl)
 rw[if_neg n7] at hb;refine aE (λh=>?_) λZ=>?_
 ·rw[if_pos h] at hb;rw[hb.1,hb.2];exact aN (IZ w hc) (ah rfl)
 rw[if_neg Z] at hb;refine aQ (λx=>x.2=(w,i)/\(x.1=ajp↔i.1=11\/i.1=12)) (aE (λh=>ah ⟨rfl,λ_=>.inl h,λ_=>decide_eq_true h⟩) λh=>ah ⟨rfl,λI=>.inr (of_decide_eq_true I),λI=>decide_eq_true (I.resolve_left h)⟩) ?_;rintro⟨b,x⟩ ⟨e,U⟩;dsimp only at e U;subst e;refine aK (λh=>?_) λh=>?_
 ·rw[if_pos (U.1 h)] at hb;have M:(aD (T:=Rl) w.2.1 i.2.1).2=ajq:=by
   rw[hl];rcases hb with h|h<;>rw[h]<;>rfl
  have hi:0<=i.2.1/\i.2.1<(w.2.1.length:Int):=⟨by omega,by rw[hl];show i.2.1<3;omega⟩
  exact fR (aE (λ_=>aB hi.1 hi.2 (aM (ah (ah (by dsimp only;rw[M];rfl))))) λh=>(h hi).elim)
 rw[if_neg λI=>by rw[U.2 I] at h;cases h] at hb;have hj:∀ {p:Prop} {b:Bool},(b=ajp->p)->(p->b=ajp)->b=ajq->¬p:=λ_ I Y J=>by rw[I J] at Y;cases Y
 refine aQ (λx=>x.2=(w,i)/\(x.1=ajp->13<=i.1/\i.1<=16)/\(13<=i.1/\i.1<=16->x.1=ajp)) (aE (λh=>ah ⟨rfl,λ_=>by first|omega|(dsimp only at h;omega),λ_=>decide_eq_true h⟩) λ_=>aE (λh=>ah ⟨rfl,λ_=>by first|omega|(dsimp only at h;omega),λ_=>decide_eq_true h⟩) λ_=>aE (λh=>ah ⟨rfl,λ_=>by first|omega|(dsimp only at h;omega),λ_=>decide_eq_true h⟩) λ_=>ah ⟨rfl,λh=>by have:=of_decide_eq_true h;first|omega|(dsimp only at this;omega),λh=>decide_eq_true (by first|omega|(dsimp only at *;omega))⟩) ?_;rintro⟨b,x⟩ ⟨e,h1,I⟩;dsimp only at e h1 I;subst e;refine aK (λh=>?_) λh=>?_
 ·rw[if_pos (h1 h)] at hb;have hi:0<=i.2.1/\i.2.1<(w.2.1.length:Int):=⟨by omega,by rw[hl];show i.2.1<3;omega⟩
  exact fR (aE (λ_=>aB hi.1 hi.2 (aM (ah (ah (by dsimp only;rw[hb,hl];rfl))))) λh=>(h hi).elim)
 rw[if_neg (hj h1 I h)] at hb;refine aQ (λx=>x.2=(w,i)/\(x.1=ajp->21<=i.1/\i.1<=23)/\(21<=i.1/\i.1<=23->x.1=ajp)) (aE (λh=>ah ⟨rfl,λ_=>by first|omega|(dsimp only at h;omega),λ_=>decide_eq_true h⟩) λ_=>aE (λh=>ah ⟨rfl,λ_=>by first|omega|(dsimp only at h;omega),λ_=>decide_eq_true h⟩) λ_=>ah ⟨rfl,λh=>by have:=of_decide_eq_true h;first|omega|(dsimp only at this;omega),λh=>decide_eq_true (by first|omega|(dsimp only at *;omega))⟩) ?_;rintro⟨b,x⟩ ⟨e,h1,I⟩;dsimp only at e h1 I;subst e;refine aK (λh=>?_) λh=>?_
 ·rw[if_pos (h1 h)] at hb;exact ah (decide_eq_true ⟨by dsimp only;omega,by dsimp only;rw[hd];show i.2.1<1;omega⟩)
 rw[if_neg (hj h1 I h)] at hb;refine aQ (λx=>x.2=(w,i)/\(x.1=ajp->i.1=24\/i.1=25)/\(i.1=24\/i.1=25->x.1=ajp)) (aE (λh=>ah ⟨rfl,λ_=>.inl h,λ_=>decide_eq_true h⟩) λh=>ah ⟨rfl,λI=>.inr (of_decide_eq_true I),λI=>decide_eq_true (I.resolve_left h)⟩) ?_;rintro⟨b,x⟩ ⟨e,h1,I⟩;dsimp only at e h1 I;subst e;refine aK (λh=>?_) λh=>?_
 ·rw[if_pos (h1 h)] at hb;exact ah (decide_eq_true ⟨hb.1,by dsimp only;rw[hT];exact hb.2⟩)
 rw[if_neg (hj h1 I h)] at hb;refine aE (λh=>?_) λn=>?_
 ·rw[if_pos h] at hb;exact ah (decide_eq_true ⟨by dsimp only;omega,by dsimp only;rw[hf];show i.2.1<1;omega⟩)
 rw[if_neg n] at hb;refine aE (λh=>?_) λn=>?_
 ·rw[if_pos h] at hb;exact ah (decide_eq_true ⟨by dsimp only;omega,by dsimp only;rw[hf];show i.2.2.1<1;omega⟩)
 rw[if_neg n] at hb;by_cases J:i.1=4
 ·rw[if_pos J] at hb;refine aE (λh=>by have h:i.1=3:=h;omega) λ_=>aE (λ_=>?_) λh=>(h J).elim
  refine fR (eY (λ_=>ah (ah (Mi.2 hb.2))) λh=>by dsimp only at h;omega)
 ·rw[if_neg J] at hb;exact aE (λh=>(hb h).elim) λ_=>aE (λh=>(J h).elim) λ_=>ah rfl
structure GC (nT:Nat) (ss:List (Int×Int×Int)) (k:Int) (c:Int×List IT):Prop where
 r0:1<=c.1
 r1:c.1<=32
 n:1<=c.2.length
 u:c.2.length<=1000000
 e:(iA c.2 (c.2.length-1)).1=28/\(iA c.2 (c.2.length-1)).2.2.2.2.2= -1
 b:pC c.2 0 (c.2.length-1)
 i:∀ q:Nat,q<c.2.length-1->GI nT ss k (iA c.2 q)
 r:∀ q:Nat,q<c.2.length-1->(iA c.2 q).1=10->0<=(iA c.2 q).2.2.1/\(iA c.2 q).2.2.1<(c.2.length:Int)
 g:∀ q:Nat,q<c.2.length-1->∀ j:Int,j∈gT (iA c.2 q)->j<c.1
theorem CI {nT:Nat} {w:WT} {k:Int} {c:Int×List IT} (hw:WX w) (hT:w.2.2.2.2.1.length=nT) (hc:GC nT w.2.2.2.2.2 k c):gy (w,k,c)=ajn ajp:=by
 obtain⟨r0,r1,n1,hu,he,hb,hi,hr,hg⟩:=hc;refine co ?_;unfold gy Prod.p2 Prod.p3 Prod.p4 Prod.p5 Prod.q3 Prod.q5 Prod.q8 aX bk ik bw aP cu ax ca;refine aQ (λx=>x.2=(w,c)/\x.1=ajq) ?_ ?_
 ·refine aI (λh=>by have h:c.1<0:=h;omega) λ_=>aI (λh=>by have h:32<c.1:=h;omega) λ_=>ah ⟨rfl,decide_eq_false λh=>by have h:aJ c.2.length=0:=h;dsimp only[ai] at h;omega⟩
 rintro⟨b,x⟩ ⟨e,Y⟩;dsimp only at e Y;subst e;subst Y;refine eZ ?_;refine bX c.2.length (λi x=>x.1=(i:Int)/\x.2=(w,c)) ?_ ?_ ⟨rfl,rfl⟩
 ·rintro i ⟨a,x⟩ hi2 ⟨e1,e2⟩;dsimp only at e1 e2;subst e1;subst e2;have hla:=RG c.2 hu n1 hb he.1 i hi2;have hz:∀ z:IT,z=iA c.2 i->(i<c.2.length-1->GI nT w.2.2.2.2.2 k z/\(z.1=10->0<=z.2.2.1/\z.2.2.1<(c.2.length:Int))/\(z.1=5->0<=z.2.1/\z.2.1<(c.2.length:Int))/\∀ j:Int,j∈gT z->j<c.1)/\(i=c.2.length-1->z.1=28/\z.2.2.2.2.2= -1):=λz hz=>by
   subst hz;refine ⟨λh=>⟨hi i h,hr i h,λh5=>?_,hg i h⟩,λh=>by rw[h];exact he⟩;obtain⟨_,ρ,hρ⟩:=hb;obtain⟨q',e,hq'⟩:=(hρ i (j9 _) h).2.2.1 h5;rw[e];omega
  refine aI (λ_=>?_) λg=>(by dsimp only[ai] at g;omega)
  refine aB (by dsimp only;omega) (by dsimp only;omega) (aM ?_);generalize hzz:(aD (T:=zN) c.2 (i:Int))=z;obtain⟨I,J⟩:=hz z hzz.symm;have hcs:i<c.2.length-1\/i=c.2.length-1:=by omega
  have o1:1<=z.1:=by
   rcases hcs with h|h
   ·exact (I h).1.o.o1
   ·rw[(J h).1];decide
  have o2:z.1<=28:=by
   rcases hcs with h|h
   ·exact Int.le_trans (I h).1.o.o2 (by decide)
   ·rw[(J h).1];decide
  have M:z.1=28->i=c.2.length-1:=λh=>hcs.resolve_left λg=>by have:=(I g).1.o.o2;rw[h] at this;exact absurd this (by decide)
  have hob:OB nT z:=by
   rcases hcs with h|h
   ·exact (I h).1.o.b
   ·unfold OB;rw[(J h).1];simp
  have hrg:∀ j:Int,j∈gT z->0<=j/\j<c.1:=λj hj=>by
   rcases hcs with h|h
   ·exact⟨((I h).1.o.r j hj).1,(I h).2.2.2 j hj⟩
   ·unfold gT at hj;rw[(J h).1] at hj;simp at hj
  have hwr:be .i64 (aJ c.2.length-1)=((c.2.length-1:Nat):Int):=by rw[gK (by dsimp only[ai];omega) (by dsimp only[ai];omega)];dsimp only[ai];omega
  have hcd:((decide (z.1=28)==decide ((i:Int)=be .i64 (aJ c.2.length-1))) !=ajp)=ajq:=by
   rw[hwr];rcases hcs with h|h
   ·rw[decide_eq_false λZ=>by have:=M Z;omega,decide_eq_false (by omega:¬(i:Int)=((c.2.length-1:Nat):Int))];rfl
   ·rw[decide_eq_true (J h).1,decide_eq_true (by omega:(i:Int)=((c.2.length-1:Nat):Int))];rfl
  refine aQ (λx=>x=(ajq,w,c,z)) ?_ ?_
  ·refine aI (λh=>absurd h (Int.not_lt.2 o1)) λ_=>aI (λh=>absurd h (Int.not_lt.2 o2)) λ_=>eM hcd ?_
   refine aN (L5 w z hw hT hob) (eM rfl (aN hla (ah rfl)))
  rintro x rfl;refine eZ (aQ (λx=>x=(ajq,w,c,z)) ?_ ?_)
  ·simp only[qy,nM];refine aE (λh=>?_) λh=>?_
   ·have h5:=(J (M h)).2;exact bN (λg=>(g h5).elim) λ_=>bN (λg=>(g h).elim) λ_=>ah rfl
   ·have hsi:=(I (hcs.resolve_right λg=>h (J g).1)).1.s;refine bN (λ_=>bN (λg=>(g ⟨hsi.1,hsi.2.1⟩).elim) λg=>aB g.1 g.2 (aM (ah ?_))) λg=>(h g).elim
    rw[decide_eq_true hsi.2.2];rfl
  rintro x rfl;refine eZ (aQ (λx=>x=(ajq,w,c,z)) ?_ ?_)
  ·simp only[qy,nM];have U:z.1=5\/z.1=10->i<c.2.length-1:=λh=>hcs.resolve_right λg=>by rw[(J g).1] at h;exact absurd h (by decide)
   refine aE (λh=>?_) λh=>?_
   ·have Z:=(I (U (.inl h))).2.2.1 h;refine bN (λg=>(g Z).elim) λ_=>aE (λg=>?_) λ_=>ah rfl
    rw[h] at g;exact absurd g (by decide)
   ·refine aE (λg=>ah ?_) λ_=>ah rfl
    have Z:=(I (U (.inr g))).2.1 g;rw[decide_eq_true (show 0<=z.2.2.1/\z.2.2.1<aJ c.2.length from Z)];rfl
  rintro x rfl;refine eZ (aN (rS z) ?_);have hrl:=Bf z;refine bX (gT z).length (λj x=>x=((j:Int),w,c)) ?_ ?_ rfl
  ·rintro j x hj rfl;refine aI (λ_=>?_) λg=>(by dsimp only[ai] at g;omega)
   refine aB (by dsimp only;omega) (by dsimp only;omega) (aM ?_);refine aN (qy _ _) (bN (λg=>(g (hrg _ (bx (T:=.int .i64) (xs:=gT z) (j:=(j:Int)) (by omega) (by omega)))).elim) λ_=>ah ?_);dsimp only;rw[go (by omega)]
  ·rintro x rfl;exact aI (λg=>(by dsimp only[ai] at g;omega)) λ_=>ah ⟨go (by omega),rfl⟩
 ·rintro⟨a,x⟩ ⟨e1,e2⟩;dsimp only at e1 e2;subst e1;subst e2;exact aI (λg=>(by dsimp only[ai] at g;omega)) λ_=>ah rfl
abbrev GN:Type:=List (List UInt8×Int×Int×Bool×Int)×List (List UInt8×Bool)×List (List UInt8×Int)×List (List UInt8)×List (List UInt8)×List (Int×Int×Int)×List (List UInt8)×Int×Int
theorem KX (l:List (List UInt8×Bool)) (s:List UInt8) (hl:l.length<=1000):Ok (jt (l,s)) λr=> -1<=r/\r<l.length/\(0<=r->(aD (T:=Rl) l r).1=s)/\(r<0->∀ c∈l,c.1≠s):=by
 unfold jt bk bw aP cu ax ca;refine bX l.length (λi x=>x=(i:Int)/\∀ k:Nat,k<i->(aD (T:=Rl) l (k:Int)).1≠s) ?_ ?_ ⟨rfl,λk hk=>by omega⟩
 ·rintro i x hi ⟨rfl,I⟩;refine aI (λ_=>?_) λg=>(by dsimp only[ai] at g;omega)
  refine aB (by omega) (by dsimp only;omega) (aM ?_);refine aE (λh=>ah ⟨by omega,by omega,λ_=>h,λh=>by omega⟩) λh=>ah ⟨go (by omega),λk hk=>?_⟩
  rcases bI k i with h1|h1
  ·exact I k h1
  ·rw[show k=i by omega];exact h
 ·rintro x ⟨rfl,I⟩;exact aI (λg=>(by dsimp only[ai] at g;omega)) λ_=>ah ⟨by omega,by omega,λh=>by omega,λ_=>gB (T:=Rl) (p:=λc=>c.1≠s) I⟩
theorem acu {r:Int} {s:List UInt8} (h: -1<=r/\r<E7.length/\(0<=r->(aD (T:=Rl) E7 r).1=s)/\(r<0->∀ c∈E7,c.1≠s)):(s=[109]->r=0)/\(s=[110]->r=1)/\(s=[114]->r=2):=by
 obtain⟨h0,h1,I,J⟩:=h;have h1:r<3:=h1;rcases (by omega:r= -1\/r=0\/r=1\/r=2) with rfl|rfl|rfl|rfl
 ·have J:=J (by decide);exact⟨λh=>(J ([109],ajq) (by decide) h.symm).elim,λh=>(J ([110],ajq) (by decide) h.symm).elim,λh=>(J ([114],ajp) (by decide) h.symm).elim⟩
 ·have I:[109]=s:=I (by decide);subst I;exact⟨λ_=>rfl,λh=>(by cases h),λh=>(by cases h)⟩
 ·have I:[110]=s:=I (by decide);subst I;exact⟨λh=>(by cases h),λ_=>rfl,λh=>(by cases h)⟩
 ·have I:[114]=s:=I (by decide);subst I;exact⟨λh=>(by cases h),λh=>(by cases h),λ_=>rfl⟩
theorem yG (w:WT) (s:List UInt8) (J:w.1=C0):Ok (ki (w,s)) λr=>(s∈NV->s∉L0->0<=r/\r<=2)/\(s=[113]->r=3):=by
 have hl:w.1.length=5:=by rw[J];rfl
 unfold ki bk bw aP cu ax ca;refine bX w.1.length (λi x=>x.1=(i:Int)/\x.2=w/\∀ k:Nat,k<i->(aD (T:=NI) w.1 (k:Int)).1≠s) ?_ ?_ ⟨rfl,rfl,λk hk=>by omega⟩
 ·rintro i ⟨a,x⟩ hi ⟨e1,e2,e3⟩;dsimp only at e1 e2 e3;subst e1;have e2:=e2.symm;subst e2;refine aI (λ_=>?_) λg=>(by dsimp only[ai] at g;omega)
  refine aB (by dsimp only;omega) (by dsimp only;omega) (aM ?_);refine aE (λh=>ah ?_) λg=>ah ?_
  ·rw[J] at h e3;rw[hl] at hi;rcases (by omega:i=0\/i=1\/i=2\/i=3\/i=4) with rfl|rfl|rfl|rfl|rfl
   ·have h:[120]=s:=h;subst h;exact⟨λ_ _=>⟨by dsimp only;omega,by dsimp only;omega⟩,λh=>(by cases h)⟩
   ·have h:[121]=s:=h;subst h;exact⟨λ_ _=>⟨by dsimp only;omega,by dsimp only;omega⟩,λh=>(by cases h)⟩
   ·have h:[118]=s:=h;subst h;exact⟨λ_ _=>⟨by dsimp only;omega,by dsimp only;omega⟩,λh=>(by cases h)⟩
   ·have h:[113]=s:=h;subst h;exact⟨λh=>absurd h (by decide),λ_=>rfl⟩
   ·have h:[113]=s:=h;exact (e3 3 (by omega) h).elim
  ·refine ⟨go (by omega),rfl,λk hk=>?_⟩;rcases bI k i with h1|h1
   ·exact e3 k h1
   ·rw[show k=i by omega];exact g
 ·rintro⟨a,x⟩ ⟨e1,e2,e3⟩;dsimp only at e1 e2 e3;subst e1;have e2:=e2.symm;subst e2;refine aI (λg=>(by dsimp only[ai] at g;omega)) λ_=>ah ?_
  have hn:=gB (T:=NI) (p:=λc=>c.1≠s) e3;rw[J] at hn;have a1:=hn ([120],0,0,ajq,0) (by decide);have a2:=hn ([121],0,0,ajq,1) (by decide);have a3:=hn ([118],0,0,ajp,0) (by decide);have M:=hn ([113],0,2,ajq,0) (by decide);refine ⟨λh I=>?_,λh=>(M h.symm).elim⟩;simp only[bc,bY,or_false,L0] at h I;rcases h with rfl|rfl|rfl|rfl|rfl
  ·exact (I (.inl rfl)).elim
  ·exact (I (.inr rfl)).elim
  ·exact (a1 rfl).elim
  ·exact (a2 rfl).elim
  ·exact (a3 rfl).elim
theorem Gt (i:IT) (g:GN) (out:List IT) (h:out.length<=100000000):Ok (b7 (i,g,out)) λy=>y.1=g/\y.2=out++[(i.1,i.2.1,i.2.2.1,i.2.2.2.1,i.2.2.2.2.1,g.2.2.2.2.2.2.2.1)]:=by
 unfold b7 Prod.p2 Prod.p3 Prod.p4 Prod.p7 bn;exact ba (by simp;omega) (by omega) (ah ⟨rfl,rfl⟩)
def VE:Nat->Nat
 |0=>0
 |d+1=>1+2*VE d
theorem Hd {l m:List IT} {k:Nat} (h:k<l.length):iA (l++m) k=iA l k:=by
 unfold iA;rw[xC,xC,au,au,bA h]
theorem vR (l:List IT) (x:IT):iA (l++[x]) l.length=x:=by
 unfold iA;rw[xC,au,bJ (bF _)];simp
structure QC (nT:Nat) (ss:List (Int×Int×Int)) (t:Int) (n:Nat) (out o:List IT):Prop where
 l:out.length<=o.length
 u:o.length<=out.length+n
 p:∀ k:Nat,k<out.length->iA o k=iA out k
 b:pC o out.length o.length
 i:∀ k:Nat,out.length<=k->k<o.length->GI nT ss t (iA o k)
 r:∀ k:Nat,out.length<=k->k<o.length->(iA o k).1=10->0<=(iA o k).2.2.1/\(iA o k).2.2.1<=(o.length:Int)
variable {nT:Nat} {ss:List (Int×Int×Int)} {t:Int}
theorem QC.nil (n:Nat) (out:List IT):QC nT ss t n out out:=⟨bF _,by omega,λ_ _=>rfl,pC.nil _ _,λk h1 I=>by omega,λk h1 I=>by omega⟩
theorem QC.trans {a b c:Nat} {x y z:List IT} (h:QC nT ss t a x y) (k:QC nT ss t b y z) (hc:a+b<=c):QC nT ss t c x z:=by
 obtain⟨h1,h2,h3,h4,h5,h6⟩:=h;obtain⟨k1,k2,I,k4,Z,Y⟩:=k;refine ⟨by omega,by omega,λq hq=>(I q (by omega)).trans (h3 q hq),(h4.congr λq _ hq=>I q hq).app k4,λq U M=>?_,λq U M J=>?_⟩
 ·by_cases hq:q<y.length
  ·rw[I q hq];exact h5 q U hq
  ·exact Z q (by omega) M
 ·by_cases hq:q<y.length
  ·rw[I q hq] at J ⊢;have:=h6 q U hq J;omega
  ·exact Y q (by omega) M J
theorem QC.one {out:List IT} {i:IT} (h:GI nT ss t i) (I:¬i.1=5/\¬i.1=10):QC nT ss t 1 out (out++[i]):=by
 have hl:(out++[i]).length=out.length+1:=by rw[bg];rfl
 refine ⟨by omega,by omega,λk hk=>Hd hk,?_,λk h1 M=>?_,λk h1 M J=>?_⟩
 ·rw[hl];exact pC.one (by rw[vR];exact I.1)
 ·rw[show k=out.length by omega,vR];exact h
 ·rw[show k=out.length by omega,vR] at J;exact (I.2 J).elim
structure GK (ss:List (Int×Int×Int)) (t:Int) (g:GN):Prop where
 c:g.1=C0
 l:g.2.2.2.2.2.2.1=L0
 s:SO ss t g.2.2.2.2.2.2.2.1
theorem VY {nT:Nat} {op A B C N Z:Int} (h1:1<=op) (I:op<=27) (hr:∀ j:Int,j∈gT (op,A,B,C,N,Z)->0<=j/\j<32) (hb:OB nT (op,A,B,C,N,Z)):GO nT (op,A,B,C,N,Z):=⟨h1,I,hr,hb⟩
theorem CP {op:Int} {r:Int×Int×Int×Int×Int} {g:GN} {out:List IT} (h:out.length<=100000000) (hg:GK ss t g) (hi:GO nT (op,r)) (J:¬op=5/\¬op=10):Ok (b7 ((op,r),g,out)) λy=>y.1=g/\QC nT ss t 1 out y.2:=(Gt (op,r) g out h).mono λy I=>⟨I.1,by rw[I.2];exact QC.one ⟨⟨hi.o1,hi.o2,hi.r,hi.b⟩,hg.s⟩ J⟩
theorem K4:∀ (n d:Nat),d<n->∀ (e:Xp) (k:Int) (g:GN) (out:List IT),GE d e->GK ss t g->0<=k->k+d<=31->out.length+VE d<=100000000->Ok (gO n ((e,k),g,out)) λy=>y.1=g/\QC nT ss t (VE d) out y.2
 |0,_,h,_,_,_,_,_,_,_,_,_=>by omega
 |n+1,0,_,e,_,_,_,h,_,_,_,_=>h.elim
 |n+1,d+1,hn,e,k,g,out,h,hg,k0,k1,hb=>by
  obtain⟨h1,h2,h3,h4,h5,h6⟩:=h;obtain⟨gc,gl,gs⟩:=id hg;have hv:VE (d+1)=1+2*VE d:=rfl;rw[yT];unfold pj Prod.p2 Prod.p3 Prod.p4 Prod.p5 Prod.p6 aX jf bn bw ax ca;refine aQ (λy=>y.1=g/\QC nT ss t (VE (d+1)) out y.2) ?_ λx hx=>ah hx
  have fin:∀ {y:GN×List IT},(y.1=g/\QC nT ss t 1 out y.2)->y.1=g/\QC nT ss t (VE (d+1)) out y.2:=λh=>⟨h.1,(QC.nil 0 out).trans h.2 (by omega)⟩
  refine aE (λ_=>?_) λn1=>?_
  ·refine al (CP (nT:=nT) (by omega) hg (VY (by decide) (by decide) (by simp[gT];omega) ((by decide:¬(1:Int)=3))) (by decide)) λy I=>aW (by simp) (ah (fin I))
  refine aE (λn2=>?_) λn2=>?_
  ·refine al (wY _ _ (by dsimp only;rw[gl];decide)) λv hv=>eY (λg0=>?_) λg0=>?_
   ·have J:=hv.2.1;dsimp only at J g0;rw[gl] at J;have J:v<2:=J;refine al (CP (nT:=nT) (by omega) hg (VY (by decide) (by decide) (by simp[gT];omega) ((by decide:¬(2:Int)=3))) (by decide)) λy I=>aW (by simp) (ah (fin I))
   ·have J:=hv.2.2.2 g0;dsimp only at J;rw[gl] at J;refine al (yG _ _ gc) λv Y=>?_
    have v2:=Y.1 (h5 n2) J;refine al (CP (nT:=nT) (by omega) hg (VY (by decide) (by decide) (by simp[gT];omega) (v2)) (by decide)) λy I=>aW (by simp) (ah (fin I))
  have hl:=h2 n1 n2;have hrec:∀ (j:Nat),j<e.l.length->∀ (Z:Int) (o:List IT),0<=Z->Z+d<=31->o.length+VE d<=100000000->Ok (gO n ((aD (T:=.ex) e.l (j:Int),Z),g,o)) λy=>y.1=g/\QC nT ss t (VE d) o y.2:=λj hj Z o q0 U ho=>K4 n d (by omega) _ Z g o (h4 _ (bx (T:=.ex) (xs:=e.l) (j:=(j:Int)) (by omega) (by omega))) hg q0 U ho
  refine aE (λn3=>?_) λn3=>?_
  ·refine aB (by omega) (by dsimp only;omega) (aM ?_);refine al (hrec 0 hl k out k0 (by omega) (by omega)) λy I=>?_
   obtain⟨g2,o2⟩:=y;obtain⟨U,M⟩:=I;dsimp only at U M;subst U;have q3:=M.u;refine aW (by simp) ?_;refine al (yG _ _ gc) λv Y=>?_
   have v3:=Y.2 (h1 n3);have v3:v=3:=v3;subst v3;refine aB (by decide) (by dsimp only;rw[gc];decide) (aM ?_);refine al (CP (nT:=nT) (by omega) hg (VY (by decide) (by decide) (by simp[gT];omega) (⟨rfl,by dsimp only;rw[gc];rfl⟩)) (by decide)) λy I=>aW (by simp) (ah ⟨I.1,M.trans I.2 (by omega)⟩)
  obtain⟨h7,h8,h9⟩:=h6 n1 n2 n3;refine aE (λn4=>?_) λn4=>?_
  ·dsimp only[ai] at n4;omega
  ·have hl2:1<e.l.length:=by omega
   refine aB (by omega) (by dsimp only;omega) (aM ?_);refine al (hrec 0 hl k out k0 (by omega) (by omega)) λy I=>?_
   obtain⟨g2,o2⟩:=y;obtain⟨U,M⟩:=I;dsimp only at U M;subst U;have q3:=M.u;refine aW (by simp) ?_;refine aB (by omega) (by dsimp only;omega) (aM ?_);dsimp only;rw[gK (n:=k+1) (by omega) (by omega)];refine al (hrec 1 hl2 _ o2 (by omega) (by omega) (by omega)) λy I=>?_
   obtain⟨g3,o3⟩:=y;obtain⟨r1,r2⟩:=I;dsimp only at r1 r2;subst r1;have r3:=r2.u;refine aW (by simp) ?_;refine al (CP (nT:=nT) (by omega) hg (VY (by decide) (by decide) (by simp[gT];omega) (⟨h8,h9⟩)) (by decide)) λy I=>aW (by simp) (ah ⟨I.1,(M.trans r2 (bF _)).trans I.2 (by omega)⟩)
theorem Ri (e:Xp) (k:Int) (g:GN) (out:List IT) (he:GE 4 e) (hg:GK ss t g) (I:0<=k) (k1:k<=27) (h:out.length<=99999900):Ok (gM ((e,k),g,out)) λy=>y.1=g/\QC nT ss t 15 out y.2:=K4 fuel 4 (by rw[iZ];omega) e k g out he hg I (by omega) (by have:VE 4=15:=rfl;omega)
structure GB (nT:Nat) (g:GN):Prop where
 c:g.1=C0
 l:g.2.1=E7
 d:g.2.2.1=Kw
 f:g.2.2.2.1=QW
 t:g.2.2.2.2.1=uz.take nT
 h:g.2.2.2.2.2.2.1=L0
structure GQ (g y:GN):Prop where
 a:y.1=g.1
 b:y.2.1=g.2.1
 c:y.2.2.1=g.2.2.1
 d:y.2.2.2.1=g.2.2.2.1
 e:y.2.2.2.2.1=g.2.2.2.2.1
 h:y.2.2.2.2.2.2.1=g.2.2.2.2.2.2.1
theorem GQ.refl (g:GN):GQ g g:=⟨rfl,rfl,rfl,rfl,rfl,rfl⟩
theorem GQ.trans {a b c:GN} (h:GQ a b) (k:GQ b c):GQ a c:=⟨k.a.trans h.a,k.b.trans h.b,k.c.trans h.c,k.d.trans h.d,k.e.trans h.e,k.h.trans h.h⟩
variable {nT:Nat} {ss:List (Int×Int×Int)} {t:Int}
theorem GB.of {g y:GN} (h:GB nT g) (q:GQ g y):GB nT y:=⟨q.a.trans h.c,q.b.trans h.l,q.c.trans h.d,q.d.trans h.f,q.e.trans h.t,q.h.trans h.h⟩
theorem GQ.site (g:GN) (x:List (Int×Int×Int)) (a b:Int):GQ g (g.1,g.2.1,g.2.2.1,g.2.2.2.1,g.2.2.2.2.1,x,g.2.2.2.2.2.2.1,a,b):=⟨rfl,rfl,rfl,rfl,rfl,rfl⟩
abbrev gS (g:GN):Int:=g.2.2.2.2.2.2.2.1
abbrev gN (g:GN):Int:=g.2.2.2.2.2.2.2.2
structure QG (nT:Nat) (ss:List (Int×Int×Int)) (t:Int) (n m:Nat) (g:GN) (out:List IT) (y:GN×List IT):Prop where
 q:GQ g y.1
 c:QC nT ss t n out y.2
 x:gN y.1=gN g+(m:Int)
theorem vI {op:Int} {r:Int×Int×Int×Int×Int} {g:GN} {out:List IT} (h:out.length<=100000000) (hg:GB nT g) (hs:SO ss t (gS g)) (hi:GO nT (op,r)) (I:¬op=5/\¬op=10):Ok (b7 ((op,r),g,out)) λy=>y.1=g/\QC nT ss t 1 out y.2:=CP h ⟨hg.c,hg.h,hs⟩ hi I
theorem AS (e:Xp) (k:Int) (g:GN) (out:List IT) (he:GE 4 e) (hg:GB nT g) (hs:SO ss t (gS g)) (I:0<=k) (k1:k<=27) (h:out.length<=99999000):Ok (gM ((e,k),g,out)) λy=>y.1=g/\QC nT ss t 15 out y.2:=Ri e k g out he ⟨hg.c,hg.h,hs⟩ I k1 (by omega)
theorem GB.len {g:GN} (h:GB nT g):aJ (af g.2.2.2.2.2.2.1)=2:=by rw[h.h];rfl
theorem TA (s:Sx) (g:GN) (out:List IT) (h1:s.index≠[]->s.name=[113]) (h2:∀ e∈s.index,GE 4 e) (h3:GE 4 s.expr) (h4:s.index=[]->s.name∈NV) (hg:GB nT g) (hs:SO ss t (gS g)) (h:out.length<=99990000):Ok (kK (s,g,out)) λy=>y.1=g/\QC nT ss t 40 out y.2:=by
 have hex:GE 4 (du (Xp.op s.expr,Xp.n s.expr,Xp.name s.expr,Xp.l s.expr)):=by rw[ef];exact h3
 have e3:be .i64 ((2:Int)+1)=3:=gK (by decide) (by decide);unfold kK Prod.p2 Prod.p3 Prod.p4 Prod.p5 Prod.p6 bk jf bn bw aP;refine aI (λJ=>?_) λJ=>?_
 ·dsimp only[ai] at J;refine aB (by omega) (by dsimp only;omega) (aM ?_);refine al (AS _ _ g out (h2 _ (bx (T:=.ex) (xs:=s.index) (j:=0) (by omega) (by omega))) hg hs (by rw[hg.len];decide) (by rw[hg.len];decide) (by omega)) λy I=>?_
  obtain⟨g2,o2⟩:=y;obtain⟨Y,U⟩:=I;dsimp only at Y U;subst Y;have q3:=U.u;refine aW (by simp) ?_;dsimp only;rw[hg.len,e3];refine al (AS _ _ g2 o2 hex hg hs (by decide) (by decide) (by omega)) λy I=>?_
  obtain⟨g3,o3⟩:=y;obtain⟨r1,r2⟩:=I;dsimp only at r1 r2;subst r1;have r3:=r2.u;refine aW (by simp) ?_;refine al (yG _ _ hg.c) λv hv=>?_
  have Z:=hv.2 (h1 (λh=>by rw[h] at J;simp at J));have Z:v=3:=Z;subst Z;refine aB (by decide) (by dsimp only;rw[hg.c];decide) (aM ?_);refine al (vI (by omega) hg hs (VY (by decide) (by decide) (by simp[gT,hg.h,L0]) (⟨rfl,by dsimp only;rw[hg.c];rfl⟩)) (by decide)) λy I=>aW (by simp) (ah ⟨I.1,(U.trans r2 (bF _)).trans I.2 (by omega)⟩)
 ·have hi0:s.index=[]:=fK.1 (by dsimp only[ai] at J;omega);refine al (AS _ _ g out hex hg hs (by rw[hg.len];decide) (by rw[hg.len];decide) (by omega)) λy I=>?_
  obtain⟨g2,o2⟩:=y;obtain⟨Y,U⟩:=I;dsimp only at Y U;subst Y;have q3:=U.u;refine aW (by simp) ?_;refine al (wY _ _ (by dsimp only;rw[hg.h];decide)) λv hv=>eY (λJ=>?_) λJ=>?_
  ·have M:=hv.2.1;dsimp only at M J;rw[hg.h] at M;have M:v<2:=M;refine al (vI (by omega) hg hs (VY (by decide) (by decide) (by simp[gT,hg.h,L0];omega) ((by decide:¬(2:Int)=3))) (by decide)) λy I=>aW (by simp) (ah ⟨I.1,U.trans I.2 (by omega)⟩)
  ·have M:=hv.2.2.2 J;dsimp only at M;rw[hg.h] at M;refine al (yG _ _ hg.c) λv hv2=>?_
   have v2:=hv2.1 (h4 hi0) M;refine al (vI (by omega) hg hs (VY (by decide) (by decide) (by simp[gT,hg.h,L0]) (v2)) (by decide)) λy I=>aW (by simp) (ah ⟨I.1,U.trans I.2 (by omega)⟩)
theorem YR (s:List UInt8) (g:GN) (out:List IT) (hg:GB nT g):Ok (iB (s,g,out)) λy=>y.2=(g,out)/\(s=[99]->y.1=0):=by
 have hd:g.2.2.1.length=1:=by rw[hg.d];rfl
 unfold iB Prod.p2 bk bw aP cu ax ca;refine bX 1 (λi x=>x.1=(i:Int)/\x.2=(g,out)/\(s=[99]->i=0)) ?_ ?_ ⟨rfl,rfl,λ_=>rfl⟩
 ·rintro i ⟨a,x⟩ hi ⟨e1,e2,e3⟩;dsimp only at e1 e2 e3;subst e1;subst e2;refine aI (λ_=>?_) λg=>(by dsimp only[ai] at g;omega)
  refine aB (by dsimp only;omega) (by dsimp only;omega) (aM ?_);refine aE (λ_=>ah ⟨rfl,λ_=>by dsimp only;omega⟩) λh=>ah ⟨go (by omega),rfl,λI=>?_⟩
  refine (h ?_).elim;dsimp only;rw[hg.d,show i=0 by omega,I];rfl
 ·rintro⟨a,x⟩ ⟨e1,e2,e3⟩;dsimp only at e1 e2 e3;subst e1;subst e2;exact aI (λg=>(by dsimp only[ai] at g;omega)) λ_=>ah ⟨rfl,λh=>by have:=e3 h;omega⟩
def ME:Nat->Nat
 |0=>0
 |d+1=>50+16*ME d
def SR (ss:List (Int×Int×Int)) (t a:Int) (m:Nat):Prop:=0<=a/\a+m<=1000/\∀ i:Int,a<=i->i<a+m->SO ss t i
def SpG (nT:Nat) (ss:List (Int×Int×Int)) (t:Int) (I:Sx×GN×List IT->Option (GN×List IT)) (d:Nat):Prop:=∀ (s:Sx) (g:GN) (out:List IT),GS nT d s->GB nT g->SR ss t (gN g) (NA d s)->out.length+ME d<=90000000->Ok (I (s,g,out)) (QG nT ss t (ME d) (NA d s) g out)
def Zm (nT:Nat) (ss:List (Int×Int×Int)) (t:Int) (rs:List Sx×GN×List IT->Option (GN×List IT)) (d:Nat):Prop:=∀ (l:List Sx) (g:GN) (out:List IT),l.length<=100->(∀ s∈l,GS nT d s)->GB nT g->SR ss t (gN g) (mo d l)->out.length+l.length*ME d<=90000000->Ok (rs (l,g,out)) (QG nT ss t (l.length*ME d) (mo d l) g out)
abbrev FS6:Type:=List Sx×GN×List IT->Option (GN×List IT)
abbrev FT6:Type:=Sx×GN×List IT->Option (GN×List IT)
abbrev FA6:Type:=(Sx×Int×Int×Int)×GN×List IT->Option (GN×List IT)
variable {nT:Nat} {ss:List (Int×Int×Int)} {t:Int}
def af2 (nT:Nat) (ss:List (Int×Int×Int)) (t:Int) (I:FT6) (d:Nat):Prop:=∀ (s:Sx) (g:GN) (out:List IT),s.op=2\/s.op=3->GE 4 s.expr->s.body.length<=8->s.els.length<=8->(∀ x∈s.body,GS nT d x)->(∀ x∈s.els,GS nT d x)->(¬s.op=2->s.els=[])->GB nT g->SO ss t (gS g)->SR ss t (gN g) (mo d s.body+mo d s.els)->out.length+ME (d+1)<=90000000->Ok (I (s,g,out)) (QG nT ss t (17+16*ME d) (mo d s.body+mo d s.els) g out)
def af3 (nT:Nat) (ss:List (Int×Int×Int)) (t:Int) (ra:FA6) (d:Nat):Prop:=∀ (s:Sx) (a b c:Int) (g:GN) (out:List IT),s.body.length<=8->(∀ x∈s.body,GS nT d x)->GO nT (a,c,0,0,0,0)->GO nT (b,c,0,0,0,0)->¬a=5/\¬a=10->¬b=5/\¬b=10->GB nT g->SO ss t (gS g)->SR ss t (gN g) (mo d s.body)->out.length+ME (d+1)<=90000000->Ok (ra ((s,a,b,c),g,out)) (QG nT ss t (17+16*ME d) (mo d s.body) g out)
theorem SR.sub {a b:Int} {m n:Nat} (h:SR ss t a m) (h1:a<=b) (I:b+n<=a+m):SR ss t b n:=⟨by have:=h.1;omega,by have:=h.2.1;omega,λi M J=>h.2.2 i (by omega) (by omega)⟩
theorem Sl (rs:FS6) (U:FT6) (Z:FT6) (ra:FA6) (d:Nat) (ht:SpG nT ss t U d):Zm nT ss t (pl rs U Z ra) d:=by
 intro l g out hl hs hg hso hb;unfold pl bk bn bw aP cu ax ca;refine bX l.length (λi x=>x.1=(i:Int)/\QG nT ss t (i*ME d) (mo d (l.take i)) g out x.2) ?_ ?_ ⟨rfl,GQ.refl g,QC.nil _ _,by simp[mo]⟩
 ·rintro i ⟨a,Y,o2⟩ hi ⟨e1,J,I,q3⟩;dsimp only at e1 J I q3;subst e1;have hK:(i+1)*ME d<=l.length*ME d:=cf _ (by omega);have hKs:=gX i (ME d);rw[Nat.succ_eq_add_one] at hKs;have hp:=M5 (d:=d) l (i+1);rw[vj hi] at hp;have q4:=I.u;refine aI (λ_=>?_) λg=>(by dsimp only[ai] at g;omega)
  refine aB (by dsimp only;omega) (by dsimp only;omega) (aM ?_);refine al (ht _ Y o2 (hs _ (bx (T:=.sm) (xs:=l) (j:=(i:Int)) (by omega) (by omega))) (hg.of J) (hso.sub (by rw[q3];omega) (by rw[q3];dsimp only;omega)) (by omega)) λy M=>aW (by simp) (ah ?_)
  rw[vj hi];exact⟨go (by omega),J.trans M.q,I.trans M.c (by omega),by rw[M.x,q3];dsimp only;omega⟩
 ·rintro⟨a,Y,o2⟩ ⟨e1,q⟩;dsimp only at e1;subst e1;rw[cz] at q;exact aI (λg=>(by dsimp only[ai] at g;omega)) λ_=>ah q
theorem O4 (rs:FS6) (rt:FT6) (rb:FT6) (ra:FA6) (d:Nat) (hS:Zm nT ss t rs d):af3 nT ss t (nP rs rt rb ra) d:=by
 intro s a b c g out h1 h2 ga gb na nb hg hs hso hb;have hm:ME (d+1)=50+16*ME d:=rfl;have kb:s.body.length*ME d<=8*ME d:=cf _ h1;unfold nP Prod.p2 Prod.p3 Prod.p4 Prod.p5 Prod.p6 Prod.p7 Prod.q3 Prod.q8 bn;refine al (vI (by omega) hg hs ga na) λy I=>?_
 obtain⟨Z,o2⟩:=y;obtain⟨Y,J⟩:=I;dsimp only at Y J;subst Y;have q3:=J.u;refine aW (by simp) ?_;refine al (hS s.body Z o2 (by omega) h2 hg hso (by omega)) λy I=>?_
 obtain⟨M,o3⟩:=y;obtain⟨r1,r2,r3⟩:=I;dsimp only at r1 r2 r3;have r4:=r2.u;refine aW (by simp) ?_;have U:=r1.trans (GQ.site M M.2.2.2.2.2.1 Z.2.2.2.2.2.2.2.1 M.2.2.2.2.2.2.2.2);refine al (vI (by dsimp only;omega) (hg.of U) hs gb nb) λy I=>aW (by simp) (ah ⟨?_,?_,?_⟩)
 ·rw[I.1];exact U
 ·exact (J.trans r2 (bF _)).trans I.2 (by omega)
 ·rw[I.1];exact r3
theorem xz {l:List IT} {j k:Nat} {x:IT} (h:j<l.length):iA (cw l (j:Int) x) k=if k=j then x else iA l k:=Hz (T:=zN) l j k x h
abbrev ptB (l:List IT) (j:Nat) (b:Int):List IT:=cw l (j:Int) ((iA l j).1,(iA l j).2.1,b,(iA l j).2.2.2.1,(iA l j).2.2.2.2.1,(iA l j).2.2.2.2.2)
abbrev ptA (l:List IT) (j:Nat) (a:Int):List IT:=cw l (j:Int) ((iA l j).1,a,(iA l j).2.2.1,(iA l j).2.2.2.1,(iA l j).2.2.2.2.1,(iA l j).2.2.2.2.2)
theorem GI.pb {i:IT} {b:Int} (h:GI nT ss t i) (h1:i.1=10):GI nT ss t (i.1,i.2.1,b,i.2.2.2.1,i.2.2.2.2.1,i.2.2.2.2.2):=by
 obtain⟨Z,Y,U,M,J,I⟩:=i;dsimp only at h1;subst h1;exact⟨⟨h.o.o1,h.o.o2,h.o.r,(by decide:¬(10:Int)=3)⟩,h.s⟩
theorem QC.cbr {n m:Nat} {out o1 o2 I:List IT} {br:IT} (h1:QC nT ss t n out o1) (h2:o2=o1++[br]) (hb:GI nT ss t br) (U:br.1=10) (M:QC nT ss t m o2 I) (F:List IT) (hl:I.length<=F.length) (Y:∀ k:Nat,k<I.length->¬k=o1.length->iA F k=iA I k) (hFb:∃ b:Int,(0<=b/\b<=(F.length:Int))/\iA F o1.length=(br.1,br.2.1,b,br.2.2.2.1,br.2.2.2.2.1,br.2.2.2.2.2)):(∀ k:Nat,k<out.length->iA F k=iA out k)/\pC F out.length o1.length/\(iA F o1.length).1=10/\pC F (o1.length+1) I.length/\(∀ k:Nat,out.length<=k->k<I.length->GI nT ss t (iA F k))/\∀ k:Nat,out.length<=k->k<I.length->(iA F k).1=10->0<=(iA F k).2.2.1/\(iA F k).2.2.1<=(F.length:Int):=by
 have l2:o2.length=o1.length+1:=by rw[h2,bg];rfl
 have l1:=h1.l;have l3:=M.l;have e1:∀ k:Nat,k<o1.length->iA F k=iA o1 k:=λk hk=>by rw[Y k (by omega) (by omega),M.p k (by omega),h2,Hd hk]
 obtain⟨b,hb0,eb⟩:=hFb;refine ⟨λk hk=>(e1 k (by omega)).trans (h1.p k hk),h1.b.congr λk _ hk=>e1 k hk,by rw[eb];exact U,?_,λk g1 J=>?_,λk g1 J Z=>?_⟩
 ·have:=M.b;rw[l2] at this;exact this.congr λk g1 J=>Y k J (by omega)
 ·rcases LM k o1.length with hk|hk|hk
  ·rw[e1 k hk];exact h1.i k g1 hk
  ·rw[hk,eb];exact hb.pb U
  ·rw[Y k J (by omega)];exact M.i k (by omega) J
 ·rcases LM k o1.length with hk|hk|hk
  ·rw[e1 k hk] at Z ⊢;have:=h1.r k g1 hk Z;omega
  ·rw[hk,eb];exact hb0
  ·rw[Y k J (by omega)] at Z ⊢;have:=M.r k (by omega) J Z;omega
theorem J3 (rs:FS6) (rt:FT6) (rb:FT6) (ra:FA6) (d:Nat) (hS:Zm nT ss t rs d):af2 nT ss t (lm rs rt rb ra) d:=by
 intro s g out hop he h1 h2 h3 h4 hel hg hs hso hb;have hm:ME (d+1)=50+16*ME d:=rfl;have kb:s.body.length*ME d<=8*ME d:=cf _ h1;have ke:s.els.length*ME d<=8*ME d:=cf _ h2;have hex:GE 4 (du (Xp.op s.expr,Xp.n s.expr,Xp.name s.expr,Xp.l s.expr)):=by rw[ef];exact he
 unfold lm Prod.p2 Prod.p3 Prod.p4 Prod.p5 Prod.p6 Prod.p7 Prod.q8 ck aX bn aP;refine al (AS _ _ g out hex hg hs (by rw[hg.len];decide) (by rw[hg.len];decide) (by omega)) λy hy=>?_
 obtain⟨Y,o1⟩:=y;obtain⟨p1,p2⟩:=hy;dsimp only at p1 p2;subst p1;have p3:=p2.u;have p4:=p2.l;refine aW (by simp) ?_;refine al (Gt _ Y o1 (by omega)) λy hy=>?_
 obtain⟨J,o2⟩:=y;obtain⟨q1,q2⟩:=hy;dsimp only at q1 q2;subst q1;rw[hg.len] at q2;have hbr:GI nT ss t ((10,2,0,0,0,J.2.2.2.2.2.2.2.1):IT):=⟨VY (by decide) (by decide) (by simp[gT]) (by decide:¬(10:Int)=3),hs⟩
 have l2:o2.length=o1.length+1:=by rw[q2,bg];rfl
 refine aW (by simp) ?_;refine al (hS s.body J o2 (by omega) h3 hg (hso.sub (dX _) (by omega)) (by omega)) λy hy=>?_
 obtain⟨U,I⟩:=y;obtain⟨r1,r2,r3⟩:=hy;dsimp only at r1 r2 r3;have r4:=r2.u;have r5:=r2.l;have ebr:iA I o1.length=(10,2,0,0,0,J.2.2.2.2.2.2.2.1):=by rw[r2.p _ (by omega),q2,vR]
 refine aW (by simp) ?_;have qs:=r1.trans (GQ.site U U.2.2.2.2.2.1 J.2.2.2.2.2.2.2.1 U.2.2.2.2.2.2.2.2);refine aE (λh3w=>?_) λh3w=>?_
 ·have hels:mo d s.els=0:=by rw[hel (by have h3w:s.op=3:=h3w;omega)];rfl
  rw[hels,cN];refine al (Gt _ _ I (by omega)) λy hy=>?_
  obtain⟨g4,M⟩:=y;obtain⟨w1,w2⟩:=hy;dsimp only at w1 w2;have l4:M.length=I.length+1:=by rw[w2,bg];rfl
  refine aW (by simp) (aB (dG _) (by dsimp only[ai];omega) (aB (dG _) (by dsimp only[ai];omega) (ah ?_)));have hat:o1.length<M.length:=by omega
  have ej:iA M I.length=(5,(out.length:Int),0,0,0,J.2.2.2.2.2.2.2.1):=by rw[w2,vR];rfl
  have e43:∀ k:Nat,k<I.length->iA M k=iA I k:=λk hk=>by rw[w2,Hd hk]
  refine ⟨by dsimp only;rw[w1];exact qs,?_,by dsimp only;rw[w1];exact r3⟩;dsimp only;have eF:∀ {z:IT} {k:Nat},¬k=o1.length->iA (cw M ((o1.length:Nat):Int) z) k=iA M k:=λh=>by rw[xz hat,if_neg h]
  obtain⟨f1,f2,f3,f4,f5,f6⟩:=p2.cbr q2 hbr rfl r2 (ptB M o1.length (aJ M.length)) (by rw[bG];omega) (λk hk hn=>(eF hn).trans (e43 k hk)) ⟨_,⟨dG _,by rw[bG];exact dX _⟩,by rw[xz hat,if_pos rfl,e43 _ (by omega),ebr];rfl⟩;show QC nT ss t _ out (ptB M o1.length (aJ M.length));have ejF:iA (ptB M o1.length (aJ M.length)) I.length=(5,(out.length:Int),0,0,0,J.2.2.2.2.2.2.2.1):=(eF (by omega:¬I.length=o1.length)).trans ej;refine ⟨by rw[bG];omega,by rw[bG];omega,f1,?_,λk Y J=>?_,λk Y J U=>?_⟩
  ·rw[(bG _ _ _).trans l4];exact f2.whl f3 f4 (by rw[ejF]) (by rw[ejF])
  ·rw[bG,l4] at J;by_cases hk:k<I.length
   ·exact f5 k Y hk
   ·rw[show k=I.length by omega,ejF];exact⟨VY (by decide) (by decide) (by simp[gT]) (by decide:¬(5:Int)=3),hs⟩
  ·have g2':=J;rw[bG,l4] at g2';by_cases hk:k<I.length
   ·exact f6 k Y hk U
   ·rw[show k=I.length by omega,ejF] at U;cases U
 refine aE (λhz=>?_) λ_=>?_
 ·have hels:mo d s.els=0:=by rw[fK.1 (by dsimp only[ai] at hz;omega:s.els.length=0)];rfl
  rw[hels,cN];refine aB (dG _) (by dsimp only[ai];omega) (aB (dG _) (by dsimp only[ai];omega) (ah ⟨qs,?_,r3⟩));dsimp only;have hat:o1.length<I.length:=by omega
  obtain⟨f1,f2,f3,f4,f5,f6⟩:=p2.cbr q2 hbr rfl r2 (ptB I o1.length (aJ I.length)) (by rw[bG];omega) (λk hk hn=>by rw[xz hat,if_neg hn]) ⟨_,⟨dG _,by rw[bG];exact dX _⟩,by rw[xz hat,if_pos rfl,ebr];rfl⟩;show QC nT ss t _ out (ptB I o1.length (aJ I.length));refine ⟨by rw[bG];omega,by rw[bG];omega,f1,?_,λk Y J=>?_,λk Y J U=>?_⟩
  ·rw[bG];exact (f2.app (pC.one (by rw[f3];decide))).app f4
  ·rw[bG] at J;exact f5 k Y J
  ·exact f6 k Y (by rw[bG] at J;exact J) U
 ·refine al (Gt _ _ I (by omega)) λy hy=>?_
  obtain⟨g4,M⟩:=y;obtain⟨w1,w2⟩:=hy;dsimp only at w1 w2;have l4:M.length=I.length+1:=by rw[w2,bg];rfl
  have qs4:GQ J g4:=by rw[w1];exact qs
  have x4:gN g4=gN J+(mo d s.body:Nat):=by rw[w1];exact r3
  have hat:o1.length<M.length:=by omega
  have ej:iA M I.length=(5,0,0,0,0,J.2.2.2.2.2.2.2.1):=by rw[w2,vR]
  have e43:∀ k:Nat,k<I.length->iA M k=iA I k:=λk hk=>by rw[w2,Hd hk]
  refine aW (by simp) (aB (dG _) (by dsimp only[ai];omega) (aB (dG _) (by dsimp only[ai];omega) ?_));have eF:∀ {z:IT} {k:Nat},¬k=o1.length->iA (cw M ((o1.length:Nat):Int) z) k=iA M k:=λh=>by rw[xz hat,if_neg h]
  refine al (hS s.els g4 (ptB M o1.length (aJ M.length)) (by omega) h4 (hg.of qs4) (hso.sub (by rw[x4];omega) (by rw[x4];omega)) (by rw[bG];omega)) λy hy=>?_
  obtain⟨g5,Z⟩:=y;obtain⟨z1,z2,z3⟩:=hy;dsimp only at z1 z2 z3;have z4:=z2.l;have z5:=z2.u;have zp:=z2.p;have zb:=z2.b;have zi:=z2.i;have zr:=z2.r;rw[bG] at z4 z5 zp zb zi zr;have hj5:I.length<Z.length:=by omega
  refine aW (by simp) (aB (dG _) (by dsimp only[ai];omega) (aB (dG _) (by dsimp only[ai];omega) (ah ⟨qs4.trans z1,?_,by dsimp only;rw[z3,x4];omega⟩)));dsimp only;show QC nT ss t _ out (ptA Z I.length (aJ Z.length));have eG:∀ {z:IT} {k:Nat},¬k=I.length->iA (cw Z ((I.length:Nat):Int) z) k=iA Z k:=λh=>by rw[xz hj5,if_neg h]
  have ej5:iA Z I.length=(5,0,0,0,0,J.2.2.2.2.2.2.2.1):=by rw[zp _ (by omega),eF (by omega),ej]
  obtain⟨f1,f2,f3,f4,f5,f6⟩:=p2.cbr q2 hbr rfl r2 (ptA Z I.length (aJ Z.length)) (by rw[bG];omega) (λk hk hn=>by rw[eG (by omega),zp k (by omega),eF hn,e43 k hk]) ⟨aJ M.length,⟨dG _,by rw[bG];dsimp only[ai];omega⟩,by rw[eG (by omega),zp _ (by omega),xz hat,if_pos rfl,e43 _ (by omega),ebr]⟩;have ejF:iA (ptA Z I.length (aJ Z.length)) I.length=(5,aJ Z.length,0,0,0,J.2.2.2.2.2.2.2.1):=by rw[xz hj5,if_pos rfl,ej5]
  refine ⟨by rw[bG];omega,by rw[bG];omega,f1,?_,λk Y J=>?_,λk Y J U=>?_⟩
  ·rw[bG];refine ((f2.app (pC.one (by rw[f3];decide))).app f4).ite (by rw[ejF]) (by rw[ejF];rfl) ?_;rw[l4] at zb;exact zb.congr λk Y J=>eG (by omega)
  ·rw[bG] at J;rcases LM k I.length with hk|hk|hk
   ·exact f5 k Y hk
   ·rw[hk,ejF];exact⟨VY (by decide) (by decide) (by simp[gT]) (by decide:¬(5:Int)=3),hs⟩
   ·rw[eG (by omega)];exact zi k (by omega) J
  ·have g2':=J;rw[bG] at g2';rcases LM k I.length with hk|hk|hk
   ·exact f6 k Y hk U
   ·rw[hk,ejF] at U;cases U
   ·rw[eG (by omega)] at U ⊢;rw[bG];exact zr k (by omega) g2' U
theorem VX (rs:FS6) (rt:FT6) (rb:FT6) (ra:FA6) (d:Nat) (hB:af2 nT ss t rb d) (hA:af3 nT ss t ra d):SpG nT ss t (qz rs rt rb ra) (d+1):=by
 intro s g out hs hg hso hb;have hm:ME (d+1)=50+16*ME d:=rfl;obtain⟨i1,i2,i3,i4,i5,i6,i7,i8,i9,Y⟩:=hs;have hcn:NA (d+1) s=1+mo d s.body+mo d s.els:=rfl;rw[hcn] at hso ⊢;obtain⟨so0,so1,so2⟩:=id hso;have so0:0<=g.2.2.2.2.2.2.2.2:=so0;have so1:g.2.2.2.2.2.2.2.2+((1+mo d s.body+mo d s.els:Nat):Int)<=1000:=so1;have ew:be .i64 (g.2.2.2.2.2.2.2.2+1)=g.2.2.2.2.2.2.2.2+1:=gK (by omega) (by omega);have gs:=GQ.site g g.2.2.2.2.2.1 g.2.2.2.2.2.2.2.2 (be .i64 (g.2.2.2.2.2.2.2.2+1));unfold qz Prod.p2 Prod.p3 Prod.p4 Prod.p5 Prod.p6 Prod.q3 Prod.q8 aX bn aP ax ca dw;refine aQ (λx=>QG nT ss t (ME (d+1)) (1+mo d s.body+mo d s.els) g out x) ?_ λx hx=>ah hx
 dsimp only;have Z:SO ss t (gS ((g.1,g.2.1,g.2.2.1,g.2.2.2.1,g.2.2.2.2.1,g.2.2.2.2.2.1,g.2.2.2.2.2.2.1,g.2.2.2.2.2.2.2.2,be .i64 (g.2.2.2.2.2.2.2.2+1)):GN)):=so2 _ (dX _) (by show g.2.2.2.2.2.2.2.2<g.2.2.2.2.2.2.2.2+((1+mo d s.body+mo d s.els:Nat):Int);omega);have hn1:gN ((g.1,g.2.1,g.2.2.1,g.2.2.2.1,g.2.2.2.2.1,g.2.2.2.2.2.1,g.2.2.2.2.2.2.1,g.2.2.2.2.2.2.2.2,be .i64 (g.2.2.2.2.2.2.2.2+1)):GN)=gN g+1:=ew;revert gs Z hn1;generalize ((g.1,g.2.1,g.2.2.1,g.2.2.2.1,g.2.2.2.2.1,g.2.2.2.2.2.1,g.2.2.2.2.2.2.1,g.2.2.2.2.2.2.2.2,be .i64 (g.2.2.2.2.2.2.2.2+1)):GN)=U;intro gs Z hn1;have M:=hg.of gs;have hso1:=hso.sub (b:=gN U) (n:=mo d s.body+mo d s.els) (by rw[hn1];omega) (by rw[hn1];omega);have fin:∀ (n m:Nat) (y:GN×List IT),QG nT ss t n m U out y->n<=ME (d+1)->m=mo d s.body+mo d s.els->QG nT ss t (ME (d+1)) (1+mo d s.body+mo d s.els) g out y:=λn m y J hn hm=>⟨gs.trans J.q,(QC.nil 0 out).trans J.c (by omega),by rw[J.x,hn1];omega⟩
 have fin0:s.op=1\/9<=s.op->∀ (n:Nat) (y:GN×List IT),y.1=U/\QC nT ss t n out y.2->n<=ME (d+1)->QG nT ss t (ME (d+1)) (1+mo d s.body+mo d s.els) g out y:=λI n y J hn=>fin n 0 y ⟨by rw[J.1];exact GQ.refl U,J.2,by rw[J.1];simp⟩ hn (by rw[Y.bo I,Y.el (by omega)];rfl)
 refine aE (λI=>?_) λ_=>?_
 ·refine al (TA (mD _) U out ?_ ?_ ?_ ?_ M Z (by omega)) λy J=>aW (by simp) (ah (fin0 (.inl I) _ _ J (by omega)))
  ·rw[wC];exact i1
  ·rw[wC];exact i3
  ·rw[wC];exact i4 (.inl I)
  ·rw[wC];exact Y.vr I
 refine aQ (λx=>x.2=(U,s,out)/\(x.1=ajp↔s.op=2\/s.op=3)) ?_ ?_
 ·exact aE (λh=>ah ⟨by dsimp only;rw[wC],λ_=>.inl h,λ_=>decide_eq_true h⟩) λh=>ah ⟨by dsimp only;rw[wC],λh2=>.inr (of_decide_eq_true h2),λh2=>decide_eq_true (h2.resolve_left h)⟩
 rintro⟨b,x⟩ ⟨e,hb2⟩;dsimp only at e hb2;subst e;refine aK (λhb3=>?_) λhbf=>?_
 ·dsimp only;rw[wC];refine al (hB s U out (hb2.1 hb3) (i4 (by rcases hb2.1 hb3 with h|h;exact .inr (.inl h);exact .inr (.inr (.inl h)))) i6 i7 i8 i9 Y.el M Z hso1 hb) λy J=>aW (by simp) (ah (fin _ _ _ J (by omega) rfl))
 have har:∀ (a b c:Int),4<=s.op->GO nT (a,c,0,0,0,0)->GO nT (b,c,0,0,0,0)->¬a=5/\¬a=10->¬b=5/\¬b=10->Ok (ra ((s,a,b,c),U,out)) λy=>QG nT ss t (ME (d+1)) (1+mo d s.body+mo d s.els) g out y:=λa b c h4 ga gb na nb=>(hA s a b c U out i6 i8 ga gb na nb M Z (hso1.sub (dX _) (by omega)) hb).mono λy J=>fin _ _ _ J (by omega) (by rw[Y.el (by omega)];rfl)
 have hput:∀ {op:Int} {r:Int×Int×Int×Int×Int},9<=s.op->GO nT (op,r)->¬op=5/\¬op=10->Ok (b7 ((op,r),U,out)) (QG nT ss t (ME (d+1)) (1+mo d s.body+mo d s.els) g out):=λh9 hi h5=>(vI (by omega) M Z hi h5).mono λy J=>fin0 (.inr h9) _ _ J (by omega)
 have hlk:∀ n:List UInt8,Ok (jt (U.2.1,n)) λr=>(n=[109]->r=0)/\(n=[110]->r=1)/\(n=[114]->r=2):=λn=>(KX U.2.1 n (by rw[M.l];decide)).mono λr h=>acu (by rw[M.l] at h;exact h)
 have hcond:∀ (n:List UInt8),Ok (iB (n,U,out)) λy=>y.2=(U,out)/\(n=[99]->y.1=0):=λn=>YR n U out M
 have hth:Ok (hZ (U.2.2.2.2.1,s.name)) λr=>s.op=12\/s.op=13->0<=r/\r<(nT:Int):=(wY U.2.2.2.2.1 s.name (by rw[M.t,bm];have q4:uz.length=4:=rfl;omega)).mono λr hr I=>by
  have hn:=Y.sp I;have hl:(uz.take nT).length<=nT:=oP ..;obtain⟨_,h2,_,h4⟩:=hr;rw[M.t] at h2 h4;exact⟨Int.not_lt.1 λh=>h4 h hn,by omega⟩
 have hft:∀ n:List UInt8,Ok (hZ (U.2.2.2.1,n)) λr=>n=[102]->r=0:=λn=>(wY U.2.2.2.1 n (by rw[M.f];decide)).mono λr hr hn=>by
  obtain⟨h1,h2,_,h4⟩:=hr;rw[M.f] at h2 h4;have h2:r<1:=h2;have:¬r<0:=λh=>h4 h (by rw[hn];decide)
  omega
 dsimp only;rw[wC];have gor:∀ {a c:Int},1<=a->a<=27->gT (a,c,0,0,0,0)=[]->OB nT (a,c,0,0,0,0)->GO nT (a,c,0,0,0,0):=λh1 h2 h3 h4=>⟨h1,h2,by rw[h3];exact λj hj=>(by cases hj),h4⟩
 refine aE (λI=>al (hlk _) λv hv=>al (har _ _ _ (by have I:s.op=4:=I;omega) (gor (by decide) (by decide) rfl ?_) (gor (by decide) (by decide) rfl ?_) (by decide) (by decide)) λy J=>aW (by simp) (ah J)) λ_=>?_
 ·exact (Y.lk I).imp hv.1 hv.2.1
 ·exact (Y.lk I).imp hv.1 hv.2.1
 refine aE (λI=>al (hlk _) λv hv=>al (har _ _ _ (by have I:s.op=5:=I;omega) (gor (by decide) (by decide) rfl ?_) (gor (by decide) (by decide) rfl ?_) (by decide) (by decide)) λy J=>aW (by simp) (ah J)) λ_=>?_
 ·exact hv.2.2 (Y.rw (.inl I))
 ·exact hv.2.2 (Y.rw (.inl I))
 refine aE (λI=>al (hlk _) λv hv=>al (har _ _ _ (by have I:s.op=6:=I;omega) (gor (by decide) (by decide) rfl ?_) (gor (by decide) (by decide) rfl ?_) (by decide) (by decide)) λy J=>aW (by simp) (ah J)) λ_=>?_
 ·exact hv.2.2 (Y.rw (.inr I))
 ·exact hv.2.2 (Y.rw (.inr I))
 refine aE (λI=>al (har _ _ _ (by have I:s.op=7:=I;omega) (gor (by decide) (by decide) rfl (by decide:¬(17:Int)=3)) (gor (by decide) (by decide) rfl (by decide:¬(18:Int)=3)) (by decide) (by decide)) λy J=>aW (by simp) (ah J)) λ_=>?_
 refine aE (λI=>al (har _ _ _ (by have I:s.op=8:=I;omega) (gor (by decide) (by decide) rfl (by decide:¬(19:Int)=3)) (gor (by decide) (by decide) rfl (by decide:¬(20:Int)=3)) (by decide) (by decide)) λy J=>aW (by simp) (ah J)) λ_=>?_
 refine aE (λI=>al (hcond _) λy J=>?_) λ_=>?_
 ·obtain⟨v,y2⟩:=y;obtain⟨y3,y4⟩:=J;dsimp only at y3;subst y3;exact aW (by simp) (al (hput (by have I:s.op=9:=I;omega) (gor (by decide) (by decide) rfl (y4 (Y.cn (.inl I)))) (by decide)) λy J=>aW (by simp) (ah J))
 refine aE (λI=>al (hcond _) λy J=>?_) λ_=>?_
 ·obtain⟨v,y2⟩:=y;obtain⟨y3,y4⟩:=J;dsimp only at y3;subst y3;exact aW (by simp) (al (hput (by have I:s.op=10:=I;omega) (gor (by decide) (by decide) rfl (y4 (Y.cn (.inr (.inl I))))) (by decide)) λy J=>aW (by simp) (ah J))
 refine aE (λI=>al (hcond _) λy J=>?_) λ_=>?_
 ·obtain⟨v,y2⟩:=y;obtain⟨y3,y4⟩:=J;dsimp only at y3;subst y3;exact aW (by simp) (al (hput (by have I:s.op=11:=I;omega) (gor (by decide) (by decide) rfl (y4 (Y.cn (.inr (.inr I))))) (by decide)) λy J=>aW (by simp) (ah J))
 refine aE (λI=>al hth λv hv=>al (hput (by have I:s.op=12:=I;omega) (gor (by decide) (by decide) rfl (hv (.inl I))) (by decide)) λy J=>aW (by simp) (ah J)) λ_=>?_
 refine aE (λI=>al hth λv hv=>al (hput (by have I:s.op=13:=I;omega) (gor (by decide) (by decide) rfl (hv (.inr I))) (by decide)) λy J=>aW (by simp) (ah J)) λ_=>?_
 refine aE (λI=>?_) λn14=>?_
 ·have hex:GE 4 (du (Xp.op s.expr,Xp.n s.expr,Xp.name s.expr,Xp.l s.expr)):=by rw[ef];exact i4 (.inr (.inr (.inr I)))
  refine al (AS _ _ U out hex M Z (by rw[hg.len];decide) (by rw[hg.len];decide) (by omega)) λy J=>?_
  obtain⟨g2,o2⟩:=y;obtain⟨q1,q2⟩:=J;dsimp only at q1 q2;subst q1;have q3:=q2.u;refine aW (by simp) (al (hft _) λv hv=>?_);refine al (vI (by omega) M Z (VY (by decide) (by decide) (by simp[gT,hg.h,L0]) (hv (Y.se I))) (by decide)) λy J=>aW (by simp) (ah (fin0 (.inr (by have I:s.op=14:=I;omega)) 16 _ ⟨J.1,q2.trans J.2 (bF _)⟩ (by omega)))
 refine aE (λI=>?_) λn15=>?_
 ·refine al (wY _ _ (by rw[M.h];decide)) λv hv=>al (hft _) λv2 hv2=>?_
  have hge:=Y.ge I;have hl:(0:Int)<=v/\v<2:=by
   obtain⟨_,h2,_,h4⟩:=hv;rw[M.h] at h2 h4;exact⟨Int.not_lt.1 λh=>h4 h (by rw[hge.1];decide),h2⟩
  exact al (hput (by have I:s.op=15:=I;omega) (VY (by decide) (by decide) (by simp[gT];omega) (hv2 hge.2)) (by decide)) λy J=>aW (by simp) (ah J)
 ·exfalso;have h1:=Y.o0;have h2:=Y.o1;have h3:¬(s.op=2\/s.op=3):=λh=>by have hbf:b=ajq:=hbf;rw[hb2.2 h] at hbf;cases hbf
  omega
variable {nT:Nat} {ss:List (Int×Int×Int)} {t:Int}
theorem UI:∀ (n:Nat),(∀ d:Nat,3*d<n->SpG nT ss t (dN n) d)/\(∀ d:Nat,3*d+1<n->Zm nT ss t (c7 n) d)/\(∀ d:Nat,3*d+2<n->af2 nT ss t (cF n) d)/\(∀ d:Nat,3*d+2<n->af3 nT ss t (cZ n) d)
 |0=>⟨λd h=>by omega,λd h=>by omega,λd h=>by omega,λd h=>by omega⟩
 |n+1=>by
  obtain⟨J,I,M,hA⟩:=UI n;refine ⟨λd h=>?_,λd h=>?_,λd h=>?_,λd h=>?_⟩
  ·cases d with
   |zero=>exact λs g out hs=>hs.elim
   |succ d=>exact VX (c7 n) (dN n) (cF n) (cZ n) d (M d (by omega)) (hA d (by omega))
  ·exact Sl (c7 n) (dN n) (cF n) (cZ n) d (J d (by omega))
  ·exact J3 (c7 n) (dN n) (cF n) (cZ n) d (I d (by omega))
  ·exact O4 (c7 n) (dN n) (cF n) (cZ n) d (I d (by omega))
theorem MC (d:Nat) (hd:d<=100):Zm nT ss t sA d:=(UI fuel).2.1 d (by rw[iZ];omega)
structure SL (t k:Int) (m:Nat) (S:List (Int×Int×Int)):Prop where
 l:S.length=m
 v:∀ i:Nat,i<m->(aD (T:=wB) S (i:Int)).1=t/\(aD (T:=wB) S (i:Int)).2.1=k+i
theorem HB {T:Ty} {l m:List T.den} {k:Nat} (h:k<l.length):aD (l++m) (k:Int)=aD l (k:Int):=by
 rw[xC,xC,au,au,bA h]
theorem HA {T:Ty} {l m:List T.den} {k:Nat} (h:l.length<=k):aD (l++m) (k:Int)=aD m ((k-l.length:Nat):Int):=by
 rw[xC,xC,au,au,bJ h]
theorem SL.nil (t k:Int):SL t k 0 []:=⟨rfl,λi h=>by omega⟩
theorem SL.one (t k z:Int):SL t k 1 [(t,k,z)]:=⟨rfl,λi h=>by rw[show i=0 by omega];exact⟨rfl,by show k=k+((0:Nat):Int);omega⟩⟩
theorem SL.app {k I:Int} {a b:Nat} {S S':List (Int×Int×Int)} (h:SL t k a S) (h':SL t I b S') (hk:I=k+a):SL t k (a+b) (S++S'):=by
 obtain⟨h1,M⟩:=h;obtain⟨U,J⟩:=h';refine ⟨by rw[bg];omega,λi hi=>?_⟩;by_cases hl:i<S.length
 ·rw[HB (T:=wB) hl];exact M i (by omega)
 ·rw[HA (T:=wB) (by omega)];have:=J (i-S.length) (by omega);exact⟨this.1,this.2.trans (show I+((i-S.length:Nat):Int)=k+(i:Int) by omega)⟩
theorem Dm:∀ (n d:Nat),d<n->∀ (t k:Int) (l:List Sx) (out:List (Int×Int×Int)),l.length<=100->(∀ s∈l,GT d s)->0<=k->k+mo d l<=100000000->out.length+mo d l<=100000000->Ok (ou n ((t,k,l),out)) λy=>y.1=k+mo d l/\∃ S,y.2=out++S/\SL t k (mo d l) S
 |0,_,h,_,_,_,_,_,_,_,_,_=>by omega
 |n+1,d,hn,t,k,l,out,hl,hs,k0,hkb,hb=>by
  rw[Fq];unfold vU bk vA bn aP cu ax ca;refine bX l.length (λi x=>x.1.2=(i:Int)/\x.1.1=k+mo d (l.take i)/\∃ S,x.2=out++S/\SL t k (mo d (l.take i)) S) ?_ ?_ ⟨rfl,by simp[mo],[],by simp,by simp[mo];exact SL.nil t k⟩
  ·rintro i ⟨⟨a,b⟩,o⟩ hi ⟨e1,e2,S,e3,e4⟩;dsimp only at e1 e2 e3;subst e1;subst e2;subst e3;have hp:=M5 (d:=d) l (i+1);rw[vj hi] at hp;rw[vj hi];refine aI (λ_=>?_) λg=>(by dsimp only[ai] at g;omega)
   have hin:((i:Nat):Int)<(l.length:Int):=by omega
   have hm:=hs _ (bx (T:=.sm) (xs:=l) (j:=(i:Int)) (by omega) (by omega));have hSl:=e4.l;cases d with
   |zero=>exact hm.elim
   |succ d=>
    obtain⟨_,_,_,g4,g5,g6,g7⟩:=hm;have hc:NA (d+1) (aD (T:=.sm) l (i:Int))=1+mo d (Sx.body (aD (T:=.sm) l (i:Int)))+mo d (Sx.els (aD (T:=.sm) l (i:Int))):=rfl;rw[hc] at hp ⊢;dsimp only;refine aB (by omega) hin (aM (ba (by simp;omega) (by omega) (aB (by omega) hin (aM ?_))));rw[gK (n:=k+(mo (d+1) (l.take i):Nat)+1) (by omega) (by omega)];refine al (Dm n d (by omega) _ _ _ _ (by omega) g6 (by omega) (by omega) (by simp;omega)) λy I=>aW (by simp) ?_
    obtain⟨a2,o2⟩:=y;obtain⟨Z,S2,Y,U⟩:=I;dsimp only at Z Y;subst Z;subst Y;have hSl2:=U.l;refine aB (by omega) hin (aM ?_);refine al (Dm n d (by omega) _ _ _ _ (by omega) g7 (by omega) (by omega) (by simp;omega)) λy I=>aW (by simp) (ah ?_)
    obtain⟨a3,o3⟩:=y;obtain⟨M,S3,J,z3⟩:=I;dsimp only at M J;subst M;subst J;refine ⟨go (by omega),by dsimp only;omega,S++([_]++(S2++S3)),by simp only[iV];rfl,?_⟩;refine e4.app ?_ rfl;rw[qX];exact (SL.one t _ _).app (U.app z3 rfl) (by simp)
  ·rintro⟨⟨a,b⟩,o⟩ ⟨e1,e2,e3⟩;dsimp only at e1 e2 e3;subst e1;subst e2;rw[cz] at e3 ⊢;exact aI (λg=>(by dsimp only[ai] at g;omega)) λ_=>ah ⟨rfl,e3⟩
theorem Ub {T M Z k:Int} {l S:List (Int×Int×Int)} {m:Nat} (h:Jr T l=ajn (M,Z)) (hS:SL t k m S) (hk:(M=t/\Z=k)\/(M<t/\t<T/\k=0)):∀ i:Nat,i<=m->Jr T (l++S.take i)=ajn (if i=0 then (M,Z) else (t,k+i))
 |0,_=>by rw[List.take_zero,kF,if_pos rfl];exact h
 |i+1,hi=>by
  have ih:=Ub h hS hk i (by omega);rw[mQ (T:=wB) (xs:=S) (i:=i) (by rw[hS.l];omega),<-iV,Ud,ih];obtain⟨I,Y⟩:=hS.v i (by omega);rw[if_neg (Nat.succ_ne_zero i)];by_cases J:i=0
  ·subst J;rw[if_pos rfl];unfold Rd;dsimp only;rcases hk with ⟨h1,U⟩|⟨h1,U,h3⟩
   ·rw[if_pos ⟨by rw[I,h1],by rw[Y,U];simp⟩,h1,U];simp
   ·rw[if_neg (λh=>by rw[I] at h;omega),if_pos ⟨by rw[I];exact h1,by rw[I];exact U,by rw[Y,h3];rfl⟩,I,h3];simp
  ·rw[if_neg J];unfold Rd;dsimp only;rw[if_pos ⟨I,Y⟩];congr 2;omega
abbrev CE6:Type:=List UInt8×Int×Int×Bool×Int
abbrev W4T:Type:=List CE6×List (List UInt8×Bool)×List (List UInt8×Int)×List (List UInt8)
def ceD (z:DT):List CE6:=(eU (aL (jv z.2.2.2.1 1))).map λ(k:Nat)=>(z.2.2.1,(k:Int),z.2.2.2.1,decide (z.1=2),z.2.2.2.2.1)
def adD (y:W4T) (z:DT):W4T:=
 if z.1=1\/z.1=2 then (y.1++ceD z,y.2) else if z.1=3\/z.1=4 then (y.1,y.2.1++[(z.2.2.1,decide (z.1=4))],y.2.2) else if z.1=5 then (y.1,y.2.1,y.2.2.1++[(z.2.2.1,0)],y.2.2.2) else (y.1,y.2.1,y.2.2.1,y.2.2.2++[z.2.2.1])
def W4 (i:Nat):W4T:=(D0.take i).foldl adD ([],[],[],[])
theorem W4_9:W4 9=(C0,E7,Kw,QW):=rfl
theorem W4_s {i:Nat} (hi:i<9):W4 (i+1)=adD (W4 i) (aD (T:=tDc) D0 (i:Int)):=by
 unfold W4;rw[mQ (T:=tDc) (xs:=D0) hi,eD];rfl
theorem D0_c:∀ i:Nat,i<9->(aD (T:=tDc) D0 (i:Int)).1=5->i=7:=by decide
theorem ahn:∀ i:Nat,i<9->(W4 i).1.length<=5/\(W4 i).2.1.length<=3/\(W4 i).2.2.1.length<=1/\(W4 i).2.2.2.length<=1/\jv (aD (T:=tDc) D0 (i:Int)).2.2.2.1 1<=2/\1<=jv (aD (T:=tDc) D0 (i:Int)).2.2.2.1 1:=by decide
def ZO (p:PG) (i:Nat):Nat:=((p.2.take i).map λt=>mo 5 t.2.2.2).sum
def boN (p:PG) (i:Nat):Nat:=mo 5 (aD (T:=xi) p.2 (i:Int)).2.2.2
theorem ad1 {p:PG} {i:Nat} (hi:i<p.2.length):ZO p (i+1)=ZO p i+boN p i:=by
 unfold ZO boN;rw[mQ (T:=xi) hi,ct,DS];simp
theorem Tu {p:PG} (i:Nat) (h:(p.2.map λt=>mo 5 t.2.2.2).sum<=60):ZO p i<=60:=by
 refine cM ?_ h
 conv=>rhs;rw[<- zL i p.2]
 unfold ZO;rw[ct,DS];omega
structure SW (p:PG) (i:Nat) (S:List (Int×Int×Int)):Prop where
 l:S.length=ZO p i
 f:∃ a b,Jr p.2.length S=ajn (a,b)/\(a<i\/a=0/\b=0)
 s:∀ j:Nat,j<i->SR S (j:Int) (ZO p j:Nat) (boN p j)
structure WW (p:PG) (w:WT):Prop where
 x:WX w
 t:w.2.2.2.2.1=uz.take p.2.length
 s:∀ j:Nat,j<p.2.length->SR w.2.2.2.2.2 (j:Int) (ZO p j:Nat) (boN p j)
theorem SO.app {S S':List (Int×Int×Int)} {t s:Int} (h:SO S t s):SO (S++S') t s:=by
 obtain⟨h0,h1,I⟩:=h;obtain⟨s,rfl⟩:∃ n:Nat,s=(n:Int):=⟨s.toNat,by omega⟩
 exact⟨h0,by rw[bg];omega,by rw[HB (T:=wB) (by omega)];exact I⟩
theorem TE (p:PG) (hp:PJ p) (r:Int×Int) (hr:eg p=ajn r) (h0:r.1=0) (hc:(p.2.map λt=>mo 5 t.2.2.2).sum<=60):Ok (sB p) (WW p):=by
 have hpt:=hp.t;unfold sB Prod.p2 Prod.p3 Prod.p4 Prod.p5 Prod.p6 Prod.q3 Prod.q4 Prod.q5 Prod.q6 Prod.q7 aX bk ik bn bw aP cu ax ca;refine aN hr (bN (λh=>(h h0).elim) λ_=>?_);have hD:p.1=D0:=hp.d;have hlen:p.1.length=9:=by rw[hD];rfl
 refine bX 9 (λi x=>x.1=(i:Int)/\x.2.1=p/\x.2.2=W4 i) ?_ ?_ ⟨rfl,rfl,rfl⟩
 ·rintro i ⟨a,p',y⟩ hi ⟨e1,e2,e3⟩;dsimp only at e1 e2 e3;subst e1;have e2:=e2.symm;subst e2;obtain⟨b1,b2,b3,b4,b5,b6⟩:=ahn i hi;rw[<- e3] at b1 b2 b3 b4;have hW:=W4_s hi;rw[<- e3] at hW;have hcd:=D0_c i hi;have hlk:i=7->y.2.1=E7/\(aD (T:=tDc) D0 (i:Int)).2.2.2.2.2=[109]:=λh=>by subst h;rw[e3];exact⟨rfl,rfl⟩
  refine aI (λ_=>?_) λg=>(by dsimp only[ai] at g;omega)
  refine aB (by dsimp only;omega) (by dsimp only;omega) (aM ?_);dsimp only;rw[hD];revert hW hcd hlk b5 b6;generalize (aD (T:=tDc) D0 (i:Int))=z;intro b5 b6 hW hcd hlk;refine aQ (λx=>x=(p,W4 (i+1))) ?_ ?_
  ·rw[hW];unfold adD;refine aQ (λx=>x.2=(p,z,y)/\(x.1=ajp↔(z.1=1\/z.1=2))) ?_ ?_
   ·exact aE (λh=>ah ⟨rfl,λ_=>.inl h,λ_=>decide_eq_true h⟩) λh=>ah ⟨rfl,λI=>.inr (of_decide_eq_true I),λI=>decide_eq_true (I.resolve_left h)⟩
   rintro⟨b,x⟩ ⟨e,hb⟩;dsimp only at e hb;subst e;refine aK (λJ=>?_) λJ=>?_
   ·rw[if_pos (hb.1 J)];unfold ceD;obtain⟨m,hm⟩:∃ m:Nat,jv z.2.2.2.1 1=(m:Int):=⟨(jv z.2.2.2.1 1).toNat,by omega⟩
    rw[hm,iW];refine bX m (λk x=>x=((k:Int),p,z,y.1++(eU k).map (λ(k:Nat)=>(z.2.2.1,(k:Int),z.2.2.2.1,decide (z.1=2),z.2.2.2.2.1)),y.2)) ?_ ?_ (by simp)
    ·rintro k x hk rfl;refine aI (λ_=>?_) λg=>(by dsimp only at g;rw[hm] at g;omega)
     refine ba (by simp;omega) (by omega) (ah ?_);dsimp only;rw[go (by omega),List.range_succ,ct,<-iV];rfl
    ·rintro x rfl;exact aI (λg=>(by dsimp only at g;rw[hm] at g;omega)) λ_=>ah rfl
   rw[if_neg λh=>by have J:b=ajq:=J;rw[hb.2 h] at J;cases J];refine aQ (λx=>x.2=(p,z,y)/\(x.1=ajp↔(z.1=3\/z.1=4))) ?_ ?_
   ·exact aE (λh=>ah ⟨rfl,λ_=>.inl h,λ_=>decide_eq_true h⟩) λh=>ah ⟨rfl,λI=>.inr (of_decide_eq_true I),λI=>decide_eq_true (I.resolve_left h)⟩
   rintro⟨c,x⟩ ⟨e,Y⟩;dsimp only at e Y;subst e;refine aK (λh=>?_) λh=>?_
   ·rw[if_pos (Y.1 h)];exact ba (by simp;omega) (by omega) (ah rfl)
   rw[if_neg λI=>by have h:c=ajq:=h;rw[Y.2 I] at h;cases h];refine aE (λh5=>?_) λh5=>?_
   ·obtain⟨l1,l2⟩:=hlk (hcd h5);rw[if_pos h5];refine al (KX _ _ (by dsimp only;rw[l1];decide)) λv hv=>?_
    have hv:=(acu (by dsimp only at hv;rw[l1] at hv;exact hv)).1 l2;subst hv;exact ba (by simp;omega) (by omega) (ah rfl)
   ·rw[if_neg h5];exact ba (by simp;omega) (by omega) (ah rfl)
  rintro x rfl;exact ah ⟨go (by omega),rfl,rfl⟩
 ·rintro⟨a,p',y⟩ ⟨e1,e2,j⟩;dsimp only at e1 e2 j;subst e1;have e2:=e2.symm;subst e2;rw[W4_9] at j;subst j;refine aI (λg=>(by dsimp only[ai] at g;omega)) λ_=>?_
  refine al (P:=WW p) ?_ λr hr=>ah hr
  refine bX p.2.length (λi x=>x.1=(i:Int)/\x.2.1=p/\x.2.2.1=C0/\x.2.2.2.1=E7/\x.2.2.2.2.1=Kw/\x.2.2.2.2.2.1=QW/\x.2.2.2.2.2.2.1=uz.take i/\SW p i x.2.2.2.2.2.2.2) ?_ ?_ ⟨rfl,rfl,rfl,rfl,rfl,rfl,rfl,rfl,⟨0,0,rfl,.inr ⟨rfl,rfl⟩⟩,λj hj=>by omega⟩
  ·rintro i ⟨a,p2,c2,l2,d2,f2,t2,s2⟩ hi ⟨e1,e2,e3,e4,e5,e6,e7,U,⟨fa,fb,f8,f9⟩,M⟩;dsimp only at e1 e2 e3 e4 e5 e6 e7 U f8 M;subst e1;have e2:=e2.symm;subst e2;have hb8:=Tu (i+1) hc;have hbs:=ad1 hi;refine aI (λ_=>?_) λg=>(by dsimp only[ai] at g;omega)
   have hin:((i:Nat):Int)<(p.2.length:Int):=by omega
   have hm:=hp.m _ (bx (T:=xi) (xs:=p.2) (j:=(i:Int)) (by omega) hin);have hnm:(aD (T:=xi) p.2 (i:Int)).1=aD (T:=.str) uz (i:Int):=by
    have h1:=mQ (T:=xi) hi;have I:=congrArg (List.map Prod.fst) h1;rw[ct,jL,jL,hp.n,List.take_take,List.take_take,qV (by omega),qV (by omega),mQ (T:=.str) (xs:=uz) (i:=i) (by have q4:uz.length=4:=rfl;omega)] at I;exact ((List.cons.inj (List.append_cancel_left I)).1).symm
   have htl:t2.length=i:=by rw[e7,bm];have q4:uz.length=4:=rfl;omega
   dsimp only;refine aB (by omega) hin (aM (ba (by simp;omega) (by omega) (aB (by omega) hin (aM ?_))));refine al (Dm fuel 5 (by rw[iZ];omega) _ _ _ s2 (by have:=hm.b;omega) (λs hs=>((hm.s s hs).le (by omega:3<=5)).t) (dX _) ?_ ?_) λy hy=>aW (by simp) (ah ?_)
   ·show (0:Int)+(boN p i:Nat)<=_;omega
   ·show s2.length+boN p i<=_;omega
   obtain⟨_,S,I,Z⟩:=hy;have Z:SL (i:Int) 0 (boN p i) S:=Z;refine ⟨go (by omega),rfl,e3,e4,e5,e6,?_,?_⟩
   ·dsimp only;rw[e7,hnm,<-mQ (T:=.str) (xs:=uz) (i:=i) (by have q4:uz.length=4:=rfl;omega)]
   ·dsimp only;rw[I];refine ⟨by rw[bg,Z.l,U,hbs],?_,λj hj=>?_⟩
    ·have hr:=Ub f8 Z (by rcases f9 with h|⟨h,h'⟩;exact .inr ⟨h,by omega,rfl⟩;rcases Jm i with hi0|hi0;exact .inl ⟨by omega,h'⟩;exact .inr ⟨by omega,by omega,rfl⟩) (boN p i) (bF _);rw[<- Z.l,cz] at hr;rw[hr];split
     ·exact⟨_,_,rfl,f9.imp (λh=>by omega) id⟩
     ·exact⟨_,_,rfl,.inl (by omega)⟩
    ·rcases bI j i with h1|h1
     ·obtain⟨g1,g2,g3⟩:=M j h1;exact⟨g1,g2,λq q1 q2=>(g3 q q1 q2).app⟩
     ·have hj:j=i:=by omega
      subst hj;refine ⟨by omega,by omega,λq q1 q2=>?_⟩;obtain⟨q,rfl⟩:∃ n:Nat,q=(n:Int):=⟨q.toNat,by omega⟩
      refine ⟨by omega,by rw[bg,Z.l];omega,?_⟩;rw[HA (T:=wB) (by omega)];exact (Z.v _ (by omega)).1
  ·rintro⟨a,p2,c2,l2,d2,f2,t2,s2⟩ ⟨e1,e2,e3,e4,e5,e6,e7,U,⟨fa,fb,f8,f9⟩,M⟩;dsimp only at e1 e2 e3 e4 e5 e6 e7 U f8 M;subst e1;have e2:=e2.symm;subst e2;subst e3;subst e4;subst e5;subst e6;subst e7;refine aI (λg=>(by dsimp only[ai] at g;omega)) λ_=>ah ?_
   have hb8:=Tu p.2.length hc;refine ⟨⟨rfl,rfl,rfl,rfl,⟨p.2.length,hp.t0,hp.t,rfl⟩,by dsimp only;omega,?_⟩,rfl,M⟩;unfold Zn;have hTl:(uz.take p.2.length).length=p.2.length:=by rw[bm];have q4:uz.length=4:=rfl;omega
   dsimp only;rw[hTl,f8];simp
def WS:List (List UInt8):=[[120],[121],[118],[113],[109],[110],[114],[99],[102]]
set_option maxHeartbeats 20000000 in
theorem X5 (t:List (List UInt8)) (ht:t.length<=4) (s:List (Int×Int×Int)):oe (C0,E7,Kw,QW,t,s)=ajn (WS++t,ajp):=by
 refine co ?_;unfold oe Prod.p2 Prod.p3 Prod.p4 Prod.p5 Prod.q4 Prod.q7 aX bk ik bn bw aP cu ax ca;with_reducible repeat' first|exact ah rfl|refine Uq ?_|refine Up ?_|refine Uo ?_|refine Um ?_|refine Z7 ?_|refine aM ?_|refine eC rfl ?_|refine eM rfl ?_|refine aW rfl ?_|refine Un ?_|refine Of ?_|refine Oe ?_
 refine ba (by show 9+t.length<=1073741824;omega) (by decide) ?_;with_reducible repeat' first|exact ah rfl|refine Uq ?_|refine Up ?_|refine Uo ?_|refine Um ?_|refine Z7 ?_|refine aM ?_|refine eC rfl ?_|refine eM rfl ?_|refine aW rfl ?_|refine Un ?_|refine Of ?_|refine Oe ?_
theorem QU:∀ x∈WS++uz,Ok (ec x) λb=>b=ajp:=by
 intro x I;simp only[WS,uz,fg,kE,bc,bY,or_false] at I;rcases I with rfl|rfl|rfl|rfl|rfl|rfl|rfl|rfl|rfl|rfl|rfl|rfl|rfl;all_goals with_reducible repeat' first|exact ah rfl|refine Uq ?_|refine Up ?_|refine Uo ?_|refine Um ?_|refine Oe ?_|refine Z7 ?_|refine aM ?_|refine eC rfl ?_|refine eM rfl ?_|refine aW rfl ?_|refine Un ?_|refine Of ?_|refine cE (ec.eq_1 ..) ?_|refine cE (iM.eq_1 ..) ?_|refine cE (jC.eq_1 ..) ?_|refine cE (kj.eq_1 ..) ?_|refine cE (ol.eq_1 ..) ?_|refine cE (pZ.eq_1 ..) ?_
theorem GT.up:∀ {d:Nat} {s:Sx},GT d s->GT (d+1) s
 |0,_,h=>h.elim
 |_+1,_,⟨a,b,c,e,f,g,i⟩=>⟨a,b,c,e,f,λx I=>GT.up (g x I),λx I=>GT.up (i x I)⟩
theorem aed {l:List Sx} (h:∀ s∈l,GT 3 s):mo 5 l=mo 3 l:=by
 unfold mo;rw[oO λx I=>(M4 (GT.up (h x I))).trans (M4 (h x I))]
theorem af5:∀ i:Nat,i<13->∀ r:Nat,r<i->aD (T:=.str) (WS++uz) (r:Int)≠aD (T:=.str) (WS++uz) (i:Int):=by decide
theorem NX (T:Int):∀ l:List (Int×Int×Int),l.foldl (Rd T) ajo=ajo
 |[]=>rfl
 |_::r=>NX T r
theorem Uc {T:Int} {l:List (Int×Int×Int)} (h:Jr T l≠ajo) (i:Nat):Jr T (l.take i)≠ajo:=λhn=>h (by
 unfold Jr at hn ⊢;rw[<- zL i l,eD,hn,NX])
theorem XL {T t n:Int} {z:Int×Int×Int} (h:Rd T (ajn (t,n)) z≠ajo):Rd T (ajn (t,n)) z=ajn (z.1,z.2.1+1)/\(z.1=t/\z.2.1=n\/t<z.1/\z.1<T/\z.2.1=0):=by
 unfold Rd at h ⊢;dsimp only at h ⊢;by_cases h1:z.1=t/\z.2.1=n
 ·rw[if_pos h1];exact⟨by rw[h1.1,h1.2],.inl h1⟩
 ·rw[if_neg h1] at h ⊢;by_cases I:t<z.1/\z.1<T/\z.2.1=0
  ·rw[if_pos I];exact⟨by rw[I.2.2];rfl,.inr I⟩
  ·rw[if_neg I] at h;exact (h rfl).elim
theorem zY {R:Type} {a b:Int} {t f:Option R} {Q:R->Prop} (h:b<=a) (hf:Ok f Q):Ok (bcase (eX a b) t f) Q:=eM (e9.2 h) hf
theorem FE {w:WT} (hx:WX w):gh w=ajn ajp:=by
 obtain⟨w1,w2,w3,w4,I,J⟩:=w;obtain⟨hc,hl,hd,hf,⟨n,n1,n4,ht⟩,hs,hv⟩:=hx;dsimp only at hc hl hd hf ht hs;subst hc;subst hl;subst hd;subst hf;have hT:I.length=n:=by rw[ht,bm];have q4:uz.length=4:=rfl;omega
 have hv:Jr I.length J≠ajo:=hv;refine co ?_;unfold gh Prod.p2 Prod.p3 Prod.p4 Prod.p5 Prod.q5 Prod.q6 aX bk jf ik bn bw aP cu ax ca;refine aQ (λx=>x=(ajq,C0,E7,Kw,QW,I,J)) ?_ ?_
 ·refine zY (show (5:Int)<=12 by decide) (zY (show (3:Int)<=4 by decide) (zY (show (1:Int)<=2 by decide) (zY (show (1:Int)<=2 by decide) (zY (show (1:Int)<=(I.length:Int) by omega) (zY (show (I.length:Int)<=4 by omega) (ah ?_))))));dsimp only[ai];rw[e9.2 (show (J.length:Int)<=60 by omega)]
 rintro x rfl;refine eZ (aN (X5 I (by omega) J) (eM rfl ?_));have hN:WS++I=(WS++uz).take (9+n):=by rw[ht];rcases (by omega:n=1\/n=2\/n=3\/n=4) with rfl|rfl|rfl|rfl<;>rfl
 have hNl:(WS++I).length=9+n:=by rw[bg,hT];rfl
 have hNg:∀ i:Nat,i<9+n->aD (T:=.str) (WS++I) (i:Int)=aD (T:=.str) (WS++uz) (i:Int):=λi hi=>by
  rw[hN,xC,xC,au,au,List.getElem?_take_of_lt hi]
 refine bX (9+n) (λi x=>x=((i:Int),C0,E7,Kw,QW,I,J)) ?_ ?_ rfl
 ·rintro i x hi rfl;refine aI (λ_=>?_) λg=>(by dsimp only[ai] at g;rw[hNl] at g;omega)
  refine aQ (λx=>x=(ajq,C0,E7,Kw,QW,I,J)) ?_ ?_
  ·refine aB (by dsimp only;omega) (by dsimp only;rw[hNl];omega) (aM ?_);have hmem:aD (T:=.str) (WS++I) (i:Int)∈WS++uz:=by rw[hNg i hi];exact bx (T:=.str) (by omega) (by have:(WS++uz).length=13:=rfl;omega)
   refine al (QU _ hmem) λb hb=>?_
   refine eM (by rw[hb];rfl) (cY (dY (by dsimp only;omega) (dY (by dsimp only;rw[hNl];omega) ?_)));refine aB (by dsimp only;omega) (by dsimp only;rw[hNl];omega) (aM ?_);refine al (wY _ _ (by dsimp only;rw[bm,hNl];omega)) λr hr=>ah ?_
   obtain⟨_,Y,h3,_⟩:=hr;dsimp only at Y h3;rw[bm,hNl] at Y;have hr0:¬0<=r:=λh0=>by
    have h3:=h3 h0;obtain⟨r,rfl⟩:∃ m:Nat,r=(m:Int):=⟨r.toNat,by omega⟩
    rw[xC,au,List.getElem?_take_of_lt (by omega),<-au,<-xC (T:=.str),hNg r (by omega),hNg i hi] at h3;exact af5 i (by omega) r (by omega) h3
   rw[kP.2 (by omega)]
  ·rintro x rfl;exact eZ (ah (by dsimp only;rw[go (by omega)]))
 rintro x rfl;refine aI (λg=>(by dsimp only[ai] at g;rw[hNl] at g;omega)) λ_=>?_
 refine al (P:=λb=>b=ajp) ?_ λy hy=>ah hy
 refine bX 1 (λi x=>x=((i:Int),C0,E7,Kw,QW,I,J)) ?_ ?_ rfl
 ·rintro i x hi rfl;have hi0:i=0:=by omega
  subst hi0;refine eC rfl (aW rfl (aM (aQ (λx=>x=(ajq,C0,E7,Kw,QW,I,J)) ?_ ?_)))
  ·exact eM rfl (eM rfl (aW rfl (aM (ah rfl))))
  ·rintro x rfl;exact eZ (ah (by dsimp only;rw[go (by omega)]))
 rintro x rfl;refine aI (λg=>(by have g:(1:Int)<1:=g;omega)) λ_=>?_
 refine al (P:=λb=>b=ajp) ?_ λy hy=>ah hy
 refine bX J.length (λi x=>x=((i:Int),C0,E7,Kw,QW,I,J)/\∃ t k:Int,Jr I.length (J.take i)=ajn (t,k)/\0<=t/\t<(I.length:Int)/\(i=0->t=0/\k=0)/\(¬i=0->(aD (T:=wB) J ((i-1:Nat):Int)).1=t/\(aD (T:=wB) J ((i-1:Nat):Int)).2.1+1=k/\0<k/\k<=i)) ?_ ?_ ⟨rfl,0,0,rfl,by omega,by omega,λ_=>⟨rfl,rfl⟩,λh=>(h rfl).elim⟩
 ·rintro i x hi ⟨rfl,t,k,hF,t0,tT,hz,hp⟩;have hw:¬(i:Int)=0->be .i64 ((i:Int)-1)=((i-1:Nat):Int):=λh=>by rw[gK (by omega) (by omega)];omega
  have hnx:=Gp (T:=I.length) hi;have hne:=Uc hv (i+1);rw[hnx,hF] at hne;obtain⟨hs1,M⟩:=XL hne;rw[hF,hs1] at hnx;refine aI (λ_=>?_) λg=>(by dsimp only[ai] at g;omega)
  refine aQ (λx=>x=(C0,E7,Kw,QW,I,J)) ?_ ?_
  ·refine aB (by dsimp only;omega) (by dsimp only;omega) (aM ?_);revert M;generalize (aD (T:=wB) J (i:Int))=z;obtain⟨(U:Int),(z2:Int),z3⟩:=z;intro M;dsimp only at M;refine aQ (λx=>x=(ajq,(C0,E7,Kw,QW,I,J),U,z2,z3)) ?_ ?_
   ·refine zY (show (0:Int)<=U by omega) (ah ?_);dsimp only[ai];rw[kP.2 (show U<(I.length:Int) by omega)]
   rintro x rfl;refine eZ (aQ (λx=>x.2=((C0,E7,Kw,QW,I,J),U,z2,z3)/\(x.1=ajp->i=0\/¬t=U)/\(x.1=ajq->¬i=0/\t=U)) ?_ ?_)
   ·refine aE (λh=>ah ⟨rfl,λ_=>.inl (by have h:((i:Nat):Int)=0:=h;omega),λh=>(by cases h)⟩) λh=>?_
    have h:¬((i:Nat):Int)=0:=h;dsimp only;rw[hw h];have hq:=(hp (by omega)).1;exact aB (by omega) (by first|omega|(dsimp only;omega)) (aM (ah ⟨rfl,λY=>.inr (by rw[<- hq];simpa using Y),λY=>⟨by omega,by rw[<- hq];simpa using Y⟩⟩))
   rintro⟨c,x⟩ ⟨e,Z,hc⟩;dsimp only at e Z hc;subst e;refine aK (λhct=>?_) λhcf=>?_
   ·have hz2:z2=0:=by
     rcases Z hct with h|h
     ·have:=hz h;omega
     ·omega
    refine aQ (λx=>x=(ajq,C0,E7,Kw,QW,I,J)) ?_ ?_
    ·refine bN (λh=>(h hz2).elim) λ_=>aI (λh=>?_) λ_=>ah rfl
     have h:(0:Int)<((i:Nat):Int):=h;dsimp only;rw[hw (by omega)];have hq:=(hp (by omega)).1;refine aB (by omega) (by first|omega|(dsimp only;omega)) (aM (ah ?_));dsimp only;rw[hq,e9.2 (show t<=U by omega)]
    rintro x rfl;exact eZ (ah rfl)
   ·obtain⟨h1,Y⟩:=hc hcf;obtain⟨_,p2,p3,p4⟩:=hp h1;dsimp only;rw[hw (by omega)];refine aB (by omega) (by first|omega|(dsimp only;omega)) (aM ?_);refine bN (λh=>(h ?_).elim) λ_=>ah rfl
    try dsimp only
    rw[p2,gK (by omega) (by omega)];omega
  ·rintro x rfl;refine ah ⟨by dsimp only;rw[go (by omega)],_,_,hnx,?_⟩;revert M;rw[show i+1-1=i by omega];generalize (aD (T:=wB) J (i:Int))=z;obtain⟨(U:Int),(z2:Int),z3⟩:=z;intro M;dsimp only at M ⊢;refine ⟨by omega,by omega,λh=>by omega,λ_=>⟨rfl,rfl,?_,?_⟩⟩
   ·by_cases h0:i=0
    ·have:=hz h0;omega
    ·have:=hp h0;omega
   ·by_cases h0:i=0
    ·have:=hz h0;omega
    ·have:=hp h0;omega
 ·rintro x ⟨rfl,_⟩;exact aI (λg=>(by dsimp only[ai] at g;omega)) λ_=>ah rfl
theorem TJ {c:CT} (I:WX c.1) (hl:c.2.length=c.1.2.2.2.2.1.length) (h:∀ k:Nat,k<c.2.length->GC c.2.length c.1.2.2.2.2.2 (k:Int) (aD (T:=uy) c.2 (k:Int))):iK c=ajn ajp:=by
 obtain⟨w,l⟩:=c;dsimp only at I hl h;have M:l.length<=4:=by
  obtain⟨n,_,J,ht⟩:=I.t;rw[hl,ht,bm];omega
 refine co ?_;unfold iK Prod.p4 bk bw aP cu ax ca;refine aQ (λx=>x=(ajq,w,l)) ?_ ?_
 ·refine aN (FE I) (eM rfl (ah ?_));dsimp only;rw[hl];simp
 rintro x rfl;refine eZ (bX l.length (λi x=>x=((i:Int),w,l)) ?_ ?_ rfl)
 ·rintro i x hi rfl;refine aI (λ_=>?_) λg=>(by dsimp only[ai] at g;omega)
  refine aB (by dsimp only;omega) (by dsimp only;omega) (aM (aN (CI I hl.symm (h i hi)) (eM rfl (ah ?_))));dsimp only;rw[go (by omega)]
 ·rintro x rfl;exact aI (λg=>(by dsimp only[ai] at g;omega)) λ_=>ah rfl
theorem No (p:PG) (hp:PJ p) (hr4:∃ r,eg p=ajn r/\r.1=0):Ok (pa p) λy=>CB y.1:=by
 have hpt:=hp.t;obtain⟨r,hr,h0⟩:=hr4;obtain⟨r',hr',Y⟩:=Cy p hp.x;rw[hr] at hr';cases hr';have Y:=Y h0;unfold pa Prod.p2 Prod.p3 Prod.p4 Prod.p5 Prod.p6 Prod.q3 Prod.q5 Prod.q6 Prod.q8 bk ik bn bw kf aP cu ax ca;refine aN hr (bN (λh=>(h h0).elim) λ_=>?_);refine al (TE p hp r hr h0 Y) λw M=>?_
 have hwT:w.2.2.2.2.1.length=p.2.length:=by rw[M.t,bm];have q4:uz.length=4:=rfl;omega
 refine bX p.2.length (λi x=>x.1.1=((ZO p i:Nat):Int)/\x.1.2=(i:Int)/\x.2.1=p/\x.2.2.1=w/\x.2.2.2.length=i/\∀ j:Nat,j<i->GC p.2.length w.2.2.2.2.2 (j:Int) (aD (T:=uy) x.2.2.2 (j:Int))) ?_ ?_ ⟨rfl,rfl,rfl,rfl,rfl,λj hj=>by omega⟩
 ·rintro i ⟨⟨a,b⟩,p2,w2,cs⟩ hi ⟨e0,e1,e2,e3,Z,e5⟩;dsimp only at e0 e1 e2 e3 Z e5;subst e0;subst e1;have e2:=e2.symm;subst e2;have e3:=e3.symm;subst e3;have hin:((i:Nat):Int)<(p.2.length:Int):=by omega
  refine aI (λ_=>?_) λg=>(by dsimp only[ai] at g;omega)
  have hm:=hp.m _ (bx (T:=xi) (xs:=p.2) (j:=(i:Int)) (by omega) hin);have hsr:=M.s i hi;have hbs:=ad1 hi;have hb1:=Tu (i+1) Y;have hbo:boN p i=mo 3 (aD (T:=xi) p.2 (i:Int)).2.2.2:=aed λs hs=>(hm.s s hs).t
  rw[hbo] at hsr hbs;dsimp only;refine aB (by omega) hin (aM (aB (by omega) hin (aM ?_)));revert hm hsr hbs;generalize (aD (T:=xi) p.2 (i:Int))=t;intro hm hsr hbs;have hk:ME 3=50+16*(50+16*50):=rfl;have hle:=cf (ME 3) hm.b;rw[hk] at hle;have hll:t.2.2.1.length=2:=by rw[hm.l];rfl
  refine al (MC (nT:=p.2.length) (ss:=w.2.2.2.2.2) (t:=(i:Int)) 3 (by omega) _ _ [] (by have:=hm.b;omega) hm.s ⟨M.x.c,M.x.l,M.x.d,M.x.f,M.t,hm.l⟩ hsr (by rw[hk,je];omega)) λy hy=>aW (by simp) ?_
  obtain⟨g2,o2⟩:=y;obtain⟨q1,q2,q3⟩:=hy;dsimp only at q1 q2 q3;have q4:=q2.u;rw[hk,je] at q4;refine al (Gt _ _ o2 (by omega)) λy hy=>aW (by simp) ?_
  obtain⟨g3,I⟩:=y;obtain⟨hg3,U⟩:=hy;dsimp only at hg3 U;have hL:aJ (af g3.2.2.2.2.2.2.1)=2:=by
   rw[hg3];show aJ (af g2.2.2.2.2.2.2.1)=2;rw[q1.h];show aJ (af t.2.2.1)=2;rw[hll];rfl
  have l3:I.length=o2.length+1:=by rw[U,bg];rfl
  have J:I.length-1=o2.length:=by omega
  have iq:∀ q:Nat,q<o2.length->iA I q=iA o2 q:=λq hq=>by rw[U,Hd hq]
  have iend:iA I o2.length=(28,0,0,0,0,-1):=by rw[U,vR]
  have hreg:∀ q:Nat,q<I.length->∀ j:Int,j∈gT (iA I q)->0<=j/\j<32:=λq hq j hj=>by
   by_cases h:q<o2.length
   ·rw[iq q h] at hj;exact (q2.i q (j9 _) h).o.r j hj
   ·rw[show q=o2.length by omega,iend] at hj;simp[gT] at hj
  dsimp only;rw[hL];refine bX I.length (λk x=>∃ rg:Int,x=((k:Int),p,w,g3,rg,cs,I)/\2<=rg/\rg<=32/\∀ q:Nat,q<k->∀ j:Int,j∈gT (iA I q)->j<rg) ?_ ?_ ⟨2,rfl,by omega,by omega,λq hq=>by omega⟩
  ·rintro k x hk2 ⟨rg,rfl,r0,r1,r2⟩;refine aI (λ_=>?_) λg=>(by dsimp only[ai] at g;omega)
   dsimp only;refine aB (by omega) (by omega) (aB (by omega) (by omega) (aM (aN (rS _) ?_)));have hrk:=hreg k hk2;have hrl:=Bf (iA I k);revert hrk hrl;generalize hins:(aD (T:=zN) I (k:Int))=ins;rw[show iA I k=ins from hins];intro hrk hrl;refine bX (gT ins).length (λj x=>∃ rg':Int,x=((j:Int),p,w,g3,rg',cs,I)/\rg<=rg'/\rg'<=32/\∀ q:Nat,q<j->rg'>aD (T:=.int .i64) (gT ins) (q:Int)) ?_ ?_ ⟨rg,rfl,dX _,r1,λq hq=>by omega⟩
   ·rintro j x hj ⟨rg',rfl,s0,s1,s2⟩;refine aI (λ_=>?_) λg=>(by dsimp only[ai] at g;omega)
    refine aB (by dsimp only;omega) (by dsimp only;omega) (aM (ah ?_));have hz:=hrk _ (bx (T:=.int .i64) (xs:=gT ins) (j:=(j:Int)) (by omega) (by omega));dsimp only;obtain⟨z,hzj⟩:∃ z:Int,aD (T:=.int .i64) (gT ins) (j:Int)=z:=⟨_,rfl⟩
    rw[hzj] at hz ⊢;have hz0:(0:Int)<=z:=hz.1;have hz1:(32:Int)>z:=hz.2;rw[go (by omega),gK (n:=z+1) (by omega) (by omega)];have him:rg'<=jv rg' (z+1)/\z+1<=jv rg' (z+1)/\jv rg' (z+1)<=32:=by
     unfold jv;split
     ·rename_i h;have h:=rN.1 h;omega
     ·rename_i h;have h:=e9.1 (Bool.eq_false_iff.2 h);omega
    refine ⟨_,rfl,by omega,him.2.2,λq hq=>?_⟩;rcases bI q j with h1|h1
    ·have:=s2 q h1;omega
    ·rw[show q=j by omega,hzj];exact Int.lt_of_lt_of_le (show z<z+1 by omega) him.2.1
   ·rintro x ⟨rg',rfl,s0,s1,s2⟩;refine aI (λg=>(by dsimp only[ai] at g;omega)) λ_=>ah ?_
    refine ⟨rg',by dsimp only;rw[go (by omega)],by omega,s1,λq hq j hj=>?_⟩;rcases bI q k with h1|h1
    ·have:=r2 q h1 j hj;omega
    ·rw[show q=k by omega,show iA I k=ins from hins] at hj;exact gB (T:=.int .i64) (p:=λc=>rg'>c) s2 j hj
  ·rintro x ⟨rg,rfl,r0,r1,r2⟩;refine aI (λg=>(by dsimp only[ai] at g;omega)) λ_=>Of (ba (by simp;omega) (by omega) (Oe (ah ?_)))
   dsimp only;have q3':(g2.2.2.2.2.2.2.2.2:Int)=(ZO p i:Nat)+(mo 3 t.2.2.2:Nat):=q3;refine ⟨by rw[q3',hbs];omega,go (by omega),rfl,rfl,by simp;omega,λj hj=>?_⟩;rcases bI j i with h1|h1
   ·rw[HB (T:=uy) (by rw[Z];exact h1)];exact e5 j h1
   ·rw[show j=i by omega,HA (T:=uy) (by rw[Z];omega),Z,Nat.sub_self];refine ⟨show (1:Int)<=rg by omega,r1,show 1<=I.length by omega,show I.length<=1000000 by omega,?_,?_,?_,?_,?_⟩
    ·show (iA I (I.length-1)).1=28/\(iA I (I.length-1)).2.2.2.2.2= -1;rw[J,iend];exact⟨rfl,rfl⟩
    ·show pC I 0 (I.length-1);rw[J];exact q2.b.congr λq _ hq=>iq q hq
    ·show ∀ q:Nat,q<I.length-1->GI p.2.length w.2.2.2.2.2 (i:Int) (iA I q);rw[J];exact λq hq=>by rw[iq q hq];exact q2.i q (j9 _) hq
    ·show ∀ q:Nat,q<I.length-1->(iA I q).1=10->0<=(iA I q).2.2.1/\(iA I q).2.2.1<(I.length:Int)
     rw[J];intro q hq h10;rw[iq q hq] at h10 ⊢;have:=q2.r q (j9 _) hq h10;omega
    ·exact λq hq j hj=>r2 q (show q<I.length by have hq:q<I.length-1:=hq;omega) j hj
 ·rintro⟨⟨a,b⟩,p2,w2,cs⟩ ⟨e0,e1,e2,e3,Z,e5⟩;dsimp only at e0 e1 e2 e3 Z e5;subst e1;subst e2;subst e3;refine aI (λg=>(by dsimp only[ai] at g;omega)) λ_=>ah ?_
  have hgc:∀ t∈cs,∃ k:Nat,GC p2.2.length w2.2.2.2.2.2 (k:Int) t:=gB (T:=uy) λk hk=>⟨k,e5 k (by omega)⟩
  refine ⟨by dsimp only;omega,λt ht=>?_,λt ht=>?_,M.x,TJ M.x ?_ ?_⟩
  ·obtain⟨k,hk⟩:=hgc t ht;exact hk.u
  ·obtain⟨k,hk⟩:=hgc t ht;exact hk.r0
  ·dsimp only;rw[Z,hwT]
  ·dsimp only;rw[Z];exact e5
theorem JF (a b:List Int) (M:a.length<=9223372036854775807) (J:∀ z∈a,0<=z/\z<=255) (hb:b.length<=1000000):Ok (qM (a,b)) TR:=by
 unfold qM;refine al (P:=CB) ?_ λc hc=>al (TZ b hb) λl hl=>?_
 ·unfold vN;exact al (Fe a M J) λp hp=>al (No p hp.1 hp.2) λy I=>ah I
 ·exact al (af4 c l hc (by omega)) λy I=>ah I
theorem Nn (a b c:List Int) (n:Int) (n0:0<=n) (n1:n<=1000000) (M:a.length<=9223372036854775807) (J:∀ z∈a,0<=z/\z<=255) (hc:c.length<=9223372036854775807) (I:∀ z∈c,0<=z/\z<=255):Ok (jY ((a,b,c),n)) TR:=by
 unfold jY bk bn aP;refine aI (λ_=>al (Gq c n hc I) λy h=>ah h) λ_=>?_
 have h0:0<=Fi (aJ b.length) n/\Fi (aJ b.length) n<=(b.length:Int)/\Fi (aJ b.length) n<=n:=by
  unfold Fi;split
  ·rename_i h;rw[rN] at h;dsimp only[ai] at h;exact⟨n0,by omega,dX _⟩
  ·rename_i h;have h:=e9.1 (Bool.eq_false_iff.2 h);dsimp only[ai] at h ⊢;exact⟨by omega,dX _,h⟩
 refine cY (dY h0.1 (dY h0.2.1 ?_));have h1:(db (aL (Fi (aJ b.length) n)) b).length<=1000000:=by rw[bm];have:=h0.1;have:=h0.2.2;omega
 exact al (JF a _ M J h1) λy h=>ah h
def HS.zero (w:E6):HS:=⟨ay w.2.2.2.2.1.length [],ay w.2.2.2.2.1.length [],ay w.2.1.length [],ay w.2.1.length [],ay w.1.length [],ay w.2.2.2.1.length [],[],ay w.2.2.2.2.1.length [],ay w.2.2.2.2.1.length (-1)⟩
theorem HS.zero_ok {w:E6} (h1:w.1.length<=1000) (M:w.2.1.length<=1000) (J:w.2.2.2.1.length<=1000) (I:w.2.2.2.2.1.length<=1000):W9 0 (HS.zero w):=by
 have z:(0:Int)<=0:=by omega
 exact⟨z,by omega,zJ.repl z _,zJ.repl z _,zJ.repl z _,zJ.repl z _,zJ.repl z _,zJ.repl z _,En.nil z,zJ.repl z _,by simpa[HS.zero] using I,by simp[HS.zero],by simp[HS.zero],by simp[HS.zero],by simpa[HS.zero] using M,by simp[HS.zero],by simpa[HS.zero] using h1,by simpa[HS.zero] using J⟩
structure Fit (w:E6) (h:HS):Prop where
 T:h.T.length=w.2.2.2.2.1.length
 L:h.L.length=w.2.1.length
 C:h.C.length=w.1.length
 F:h.F.length=w.2.2.2.1.length
theorem Fit.zero (w:E6):Fit w (HS.zero w):=⟨by simp[HS.zero],by simp[HS.zero],by simp[HS.zero],by simp[HS.zero]⟩
theorem Fit.step {w:E6} {h:HS} (f:Fit w h) (e:EV):Fit w (KE w h e).1:=by
 obtain⟨a,b,c,d,g,i,j,k⟩:=Eh w h e (Cp w h e);exact⟨a.trans f.T,c.trans f.L,g.trans f.C,i.trans f.F⟩
def evP (e:ET):EV:=⟨e.1.toNat,e.2.1.toNat,e.2.2.1.toNat,e.2.2.2.1⟩
theorem ahf {w:WT} {e:ET} (f:EvF w e):EvT (evP e) e:=by
 obtain⟨⟨k1,k2,ce,lk,cd,th,fu⟩,t0,_,_⟩:=f;refine ⟨(E9 t0).symm,(E9 (by omega)).symm,λh=>(E9 ?_).symm,rfl⟩;unfold evP at h;simp only[bc,bY,or_false] at h;by_cases h1:e.2.1=3\/e.2.1=4
 ·exact (ce h1).1
 by_cases U:6<=e.2.1/\e.2.1<=11
 ·exact (lk U).1
 by_cases M:16<=e.2.1/\e.2.1<=19
 ·exact (cd M).1
 by_cases J:e.2.1=20\/e.2.1=21
 ·exact (th J).1
 by_cases I:e.2.1=22\/e.2.1=23
 ·exact (fu I).1
 omega
theorem YH {w:WT} {e:ET} (f:EvF w e) (wb:WB w) {h:HS} (I:Fit w h):EOK w h (evP e):=by
 obtain⟨⟨k1,k2,ce,lk,cd,th,fu⟩,t0,t1,J⟩:=f;have b5:=wb.t;have Z:=I.T;have Y:=I.L;have U:=I.C;have M:=I.F;unfold evP;refine ⟨by dsimp only;omega,by dsimp only;omega,by dsimp only;omega,by dsimp only;omega,λq=>?_,λq=>?_,λq=>?_,λq=>?_,λq=>?_⟩<;>dsimp only at q ⊢
 ·have:=th (by omega);omega
 ·have:=lk (by omega);omega
 ·have g:=cd (by omega);have hl:e.2.2.1.toNat<w.2.2.1.length:=by omega
  have hm:=J (w.2.2.1.getD e.2.2.1.toNat ([],0)) (by rw[au,ar hl];exact tC hl);refine ⟨hl,hm.1,?_⟩;unfold ZM;have:=hm.2;have:=hm.1;omega
 ·have:=ce (by omega);omega
 ·have:=fu (by omega);omega
theorem iY {σ R:Type} {f:σ->Option (σ⊕R)} {Q:R->Prop} (n:Nat) (hn:n<=1000000) (I:Nat->σ->Prop) (h0:∀ i x,i<n->I i x->Ok (f x) λr=>match r with|.inl y=>I (i+1) y|.inr r=>Q r) (h1:∀ x,I n x->Ok (f x) λr=>match r with|.inl _=>False|.inr r=>Q r) {x:σ} (U:I 0 x):Ok (fk f x) Q:=by
 have key:∀ m i x,i+m=n->I i x->∃ r,iterN f (m+1) x=ajn r/\Q r:=by
  intro m;induction m with
  |zero=>
   intro i x hi U;have:i=n:=by omega
   subst this;obtain⟨r,M,J⟩:=h1 x U;cases r with
   |inl y=>exact J.elim
   |inr r=>exact⟨r,by rw[iterN,M],J⟩
  |succ m Y=>
   intro i x hi U;obtain⟨r,M,J⟩:=h0 i x (by omega) U;cases r with
   |inl y=>
    obtain⟨r,g3,Z⟩:=Y (i+1) y (by omega) J;exact⟨r,by rw[iterN,M];exact g3,Z⟩
   |inr r=>exact⟨r,xx (n:=1) (by rw[iterN,M]) (by omega),J⟩
 obtain⟨r,M,J⟩:=key n 0 x (by omega) U;exact⟨r,xx M (by omega),J⟩
theorem LP (a b:Int):dV (a,b)=ajn (decide (0<=a/\a<b)):=by
 refine co ?_;unfold dV jf ax;with_reducible repeat' first|(refine OS.ok ?_;constructor)|refine IM.mk λ_=>?_
 ·by_cases h:a<b<;>simp[*,eX]
 ·simp;omega
theorem Q7 (l:List Int) (t:Int) (hl:l.length<=1000):jE (l,t)=ajn (l.contains t):=by
 refine co ?_;unfold jE qd v7 aX bk bw aP cu ax ca;refine al (P:=λy:Int=>0<=y↔t∈l) ?_ λy I=>ah ?_
 ·refine iY l.length (by omega) (λi x=>x=(i:Int)/\∀ j,j<i->¬l.getD j 0=t) ?_ ?_ ⟨rfl,λj hj=>by omega⟩
  ·rintro i x hi ⟨rfl,hn⟩;refine aI (λ_=>?_) λg=>(by dsimp only[ai] at g;omega)
   refine aB (by omega) (by dsimp only;omega) (aM (aE (λh=>ah ?_) λh=>ah ?_))
   ·refine ⟨λ_=>?_,λ_=>by omega⟩;have h:t=aD (T:=.int .i64) l (i:Int):=h;rw[h];exact bx (T:=.int .i64) (xs:=l) (by omega) (by omega)
   ·refine ⟨go (by omega),λj hj=>?_⟩;have h:¬t=l.getD i 0:=h;by_cases e:j=i
    ·subst e;exact λg=>h g.symm
    ·exact hn j (by omega)
  ·rintro x ⟨rfl,hn⟩;refine aI (λg=>(by dsimp only[ai] at g;omega)) λ_=>ah ?_
   refine ⟨λg=>(by omega),λg=>?_⟩;obtain⟨j,hj,e⟩:=List.getElem_of_mem g;exact (hn j hj (by rw[au,ar hj];exact e)).elim
 ·by_cases h:t∈l
  ·have:=I.2 h;simp[cD,h,this]
  ·have:¬0<=y:=λg=>h (I.1 g)
   simp[cD,h,this]
theorem adn (w:WT) (s:SY) (I:w.2.2.1.length<=1000) (cd:∀ c∈w.2.2.1,0<=c.2/\c.2<w.2.1.length) (e1:s.1.length=w.2.1.length) (e2:s.2.2.1.length=w.2.2.2.1.length) (e3:s.2.2.2.length=w.2.2.2.2.1.length):ju (w,s)=ajn ajp:=by
 refine co ?_;unfold ju rO Prod.p2 Prod.p3 Prod.p4 Prod.q4 bk ik bw aP cu ax ca;refine aQ (λx=>x=(ajq,w)) ?_ ?_
 ·refine bN (λh=>(h (by dsimp only[ai];omega)).elim) λ_=>bN (λh=>(h (by dsimp only[ai];omega)).elim) λ_=>ah ?_
  dsimp only[ai];rw[e3];simp
 rintro x rfl;refine eZ (iY w.2.2.1.length (by omega) (λi x=>x=((i:Int),w)) ?_ ?_ rfl)
 ·rintro i x hi rfl;refine aI (λ_=>?_) λg=>(by dsimp only[ai] at g;omega)
  refine aB (by dsimp only;omega) (by dsimp only;omega) (aM (aN (LP _ _) (bN (λh=>(h ?_).elim) λ_=>ah ?_)))
  ·exact cd _ (bx (T:=Rc) (xs:=w.2.2.1) (j:=(i:Int)) (by omega) (by omega))
  ·dsimp only;rw[go (by omega)]
 ·rintro x rfl;exact aI (λg=>(by dsimp only[ai] at g;omega)) λ_=>ah rfl
theorem Y8 (w:WT) (k o:Int) (h:NM w k o):kL (w,k,o)=ajn ajp:=by
 refine co ?_;obtain⟨k1,k2,ce,lk,cn,th,fu,no,mu,rw_⟩:=h;unfold kL Prod.p2 Prod.p3 Prod.p4 Prod.p5 aX bw aP ax;rcases @G8 k with rfl|rfl|rfl|rfl|rfl|rfl|rfl|rfl|rfl|rfl|rfl|rfl|rfl|rfl|rfl|rfl|rfl|rfl|rfl|rfl|rfl|rfl|rfl|⟨hk,I⟩
 case inr.inr.inr.inr.inr.inr.inr.inr.inr.inr.inr.inr.inr.inr.inr.inr.inr.inr.inr.inr.inr.inr.inr=>omega
 all_goals simp only[aO,bd,decide_true,decide_false,oN,oK,re,rz,nM,ry,aY,aV,LP]
 all_goals with_reducible repeat' first|(refine OS.ok ?_;constructor)|refine IM.mk λ_=>?_
 all_goals try simp only[ai,decide_eq_true_eq,true_or,or_true,true_implies,true_and,and_true] at*
 all_goals first|omega|exact rw_ ⟨by decide,by decide⟩|(simp only[*,aV,decide_true];done)
theorem adx {n:Nat} (w:WT) (s:SY) (hs:SB n s) (hn:n<=1000) (t k o:Int) (he:EN w s t k o) (hr:Vb w s t k o):ny (w,s,t,k,o)=ajn ajp:=by
 refine co ?_;obtain⟨nm,t0,t1,cd,e1,e2,e3⟩:=id he;obtain⟨_,_,ce,lk,cn,th,fu,no,mu,rw_⟩:=nm;obtain⟨_,_,_,aq,wr,ra,rl,rr,xb,xe,ab,ae,nt,sp,jo,se,ge⟩:=hr;have hm:16<=k/\k<=19->0<=(aD (T:=Rc) w.2.2.1 o).2/\(aD (T:=Rc) w.2.2.1 o).2<w.2.1.length:=λh=>cd _ (bx (cn h).1 (cn h).2)
 have U:6<=k/\k<=11->jE ((aD (T:=yH) s.1 o).2,t)=ajn ((aD (T:=yH) s.1 o).2.contains t):=λh=>Q7 _ _ (by
  have:=hs.rd _ (bx (T:=yH) (lk h).1 (by have:=(lk h).2;omega));omega)
 have lk1:6<=k/\k<=11->0<=o/\o<(s.1.length:Int):=λh=>by have:=lk h;omega
 have M:t<(s.2.2.2.length:Int):=by omega
 have fu1:k=22\/k=23->0<=o/\o<(s.2.2.1.length:Int):=λh=>by have:=fu h;omega
 have th1:k=20\/k=21->0<=o/\o<(s.2.2.2.length:Int):=λh=>by have:=th h;omega
 have I:∀ {p:Prop} [Decidable p],p->decide p=ajp:=λh=>decide_eq_true h
 unfold ny Prod.p2 Prod.p3 Prod.p4 Prod.q4 Prod.q5 aX ik bw aP ax;refine aE (λh=>?_) λn6=>?_
 ·have h:k=6:=h;exact aB (lk1 (by omega)).1 (lk1 (by omega)).2 (aM (ah (I (aq (.inl h)))))
 refine aE (λh=>?_) λY=>?_
 ·have h:k=10:=h;refine fR (aB (lk1 (by omega)).1 (lk1 (by omega)).2 (aM (aE (λ_=>?_) λg=>(g (aq (.inr (.inr h)))).elim)));refine aB (lk1 (by omega)).1 (lk1 (by omega)).2 (aM (ah (ah (I ?_))));have:=wr h;dsimp only[ai] at this ⊢;omega
 refine aE (λh=>?_) λn8=>?_
 ·have h:k=8:=h;refine fR (aB (lk1 (by omega)).1 (lk1 (by omega)).2 (aM (aE (λ_=>?_) λg=>(g (aq (.inr (.inl h)))).elim)));refine aB (lk1 (by omega)).1 (lk1 (by omega)).2 (aM (aN (U (by omega)) (ah (ah ?_))));rw[ra h];rfl
 refine aQ (λx=>x.2=(w,s)/\(x.1=ajp↔k=7\/k=11)) (aE (λh=>ah ⟨rfl,λ_=>.inl h,λ_=>I h⟩) λh=>ah ⟨rfl,λJ=>.inr (of_decide_eq_true J),λJ=>I (J.resolve_left h)⟩) ?_;rintro⟨b,x⟩ ⟨e,hb⟩;dsimp only at e hb;subst e;refine aK (λh=>?_) λ_=>?_
 ·have h:=hb.1 h;exact aB (lk1 (by omega)).1 (lk1 (by omega)).2 (aM (ah (I (rl h))))
 refine aE (λh=>?_) λZ=>?_
 ·have h:k=9:=h;refine aB (lk1 (by omega)).1 (lk1 (by omega)).2 (aM (aN (U (by omega)) (ah (rr h))))
 refine aE (λh=>ah (I (xb h))) λ_=>aE (λh=>ah (I (xe h))) λ_=>?_
 refine aE (λh=>aB t0 M (aM (ah (by have:=ab h;dsimp only at this ⊢;rw[this];rfl)))) λ_=>aE (λh=>aB t0 M (aM (ah (ae h)))) λ_=>?_
 refine aQ (λx=>x.2=(w,s)/\(x.1=ajp->k=16\/k=18\/k=19)) (aE (λh=>ah ⟨rfl,λ_=>.inl h⟩) λ_=>aE (λh=>ah ⟨rfl,λ_=>.inr (.inl h)⟩) λ_=>ah ⟨rfl,λh=>.inr (.inr (of_decide_eq_true h))⟩) ?_;rintro⟨c,x⟩ ⟨e,hc⟩;dsimp only at e hc;subst e;refine aK (λh=>?_) λ_=>?_
 ·have h:=hc h;have hq:=hm (by omega);exact aB (cn (by omega)).1 (cn (by omega)).2 (aM (aB hq.1 (by rw[e1];exact hq.2) (aM (ah (I (nt h))))))
 refine aE (λh=>?_) λ_=>?_
 ·have h:k=20:=h;exact fR (bN (λ_=>aB (th1 (.inl h)).1 (th1 (.inl h)).2 (aM (ah (ah (I (sp h).2))))) λg=>((sp h).1 g).elim)
 refine aE (λh=>?_) λ_=>?_
 ·have h:k=21:=h;exact fR (bN (λ_=>aB (th1 (.inr h)).1 (th1 (.inr h)).2 (aM (ah (ah (I (jo h).2))))) λg=>((jo h).1 g).elim)
 refine aE (λh=>aB (fu1 (.inl h)).1 (fu1 (.inl h)).2 (aM (ah (by have:=se h;dsimp only at this ⊢;rw[this];rfl)))) λ_=>aE (λh=>aB (fu1 (.inr h)).1 (fu1 (.inr h)).2 (aM (ah (ge h)))) λ_=>ah rfl
theorem CC {n:Nat} (w:WT) (s:SY) (hs:SB n s) (hn:n<=1000) (U:w.2.2.1.length<=1000) (t k o:Int) (he:EN w s t k o) (hr:Vb w s t k o):ii (w,s,t,k,o)=ajn ajp:=by
 refine co ?_;obtain⟨nm,t0,t1,cd,e1,e2,e3⟩:=id he;have hrd:=adx w s hs hn t k o he hr;have M:t<(s.2.2.2.length:Int):=by omega
 unfold ii Prod.p2 Prod.p3 Prod.p4 Prod.q3 Prod.q4 Prod.q5 aX bw aP ax;refine aQ (λx=>x=(ajq,w,s)) ?_ ?_
 ·refine aN (adn w s U cd e1 e2 e3) (eM rfl (aN (LP _ _) ?_));refine bN (λh=>(h ⟨t0,t1⟩).elim) λ_=>aN (Y8 w k o nm) (ah rfl)
 rintro x rfl;refine eZ (aB t0 M (aM ?_));refine aE (λh=>ah (decide_eq_true (hr.b h))) λn1=>?_
 refine aE (λh=>?_) λn17=>?_
 ·have h:k=17:=h;obtain⟨a1,a2,a3⟩:=hr.wk h;obtain⟨J,I⟩:=nm.cd (by omega);have hq:=cd _ (bx (T:=Rc) (xs:=w.2.2.1) (j:=o) J I);refine fR (aE (λ_=>aE (λ_=>?_) λg=>(g a2).elim) λg=>(g a1).elim);exact aB J I (aM (aB hq.1 (by rw[e1];exact hq.2) (aM (ah (ah (decide_eq_true a3))))))
 refine fR (aE (λ_=>aN hrd (ah (ah rfl))) λg=>(g (hr.r n1 n17)).elim)
theorem Z6 (w:WT) (e:ET) (h1:e.2.1=1\/e.2.1=2->e.2.2.2.2.1= -1) (I:¬(e.2.1=1\/e.2.1=2)->0<=e.2.2.2.2.1/\e.2.2.2.2.1<w.2.2.2.2.2.length/\(aD (T:=wB) w.2.2.2.2.2 e.2.2.2.2.1).1=e.1):iI (w,e)=ajn ajp:=by
 refine co ?_;unfold iI Prod.p2 Prod.p6 Prod.q5 aX bk jf bw aP ax;refine aQ (λx=>x.2=(w,e)/\(x.1=ajp↔e.2.1=1\/e.2.1=2)) (aE (λh=>ah ⟨rfl,λ_=>.inl h,λ_=>rfl⟩) λh=>ah ⟨rfl,λI=>.inr (of_decide_eq_true I),λI=>decide_eq_true (I.resolve_left h)⟩) ?_;rintro⟨b,x⟩ ⟨e1,hb⟩;dsimp only at e1 hb;subst e1;refine aK (λh=>ah (decide_eq_true (h1 (hb.1 h)))) λh=>?_
 obtain⟨a1,a2,a3⟩:=I λg=>by rw[hb.2 g] at h;cases h
 exact fR (eY (λ_=>aI (λ_=>aB a1 a2 (aM (ah (ah (decide_eq_true a3))))) λg=>(by dsimp only[ai] at g;omega)) λg=>(by dsimp only at g;omega))
theorem Y6 {l:List Int} (h:FH l) (i:Nat) (hi:i<l.length):∀ z∈l.drop (i+1),l.getD i 0<z:=by
 induction l generalizing i with
 |nil=>cases hi
 |cons a l I=>
  cases i with
  |zero=>exact λz J=>h.1 z (by simpa using J)
  |succ i=>exact I h.2 i (by simpa using hi)
theorem Pu (w:WT) (s:SN) (e:ET) (ce:e.2.1=3\/e.2.1=4->0<=e.2.2.1/\e.2.2.1<w.1.length) (de:0<e.2.2.2.2.2.1.length->e.2.1=5\/(e.2.1=3\/e.2.1=4)/\¬(aD (T:=NI) w.1 e.2.2.1).2.2.1=0) (fr:0<e.2.2.2.2.2.2.length->e.2.1=4\/e.2.1=22) (t0:0<=e.1) (t1:e.1<s.2.2.2.length) (nd:AN (aD (T:=.int .i64) s.2.2.2 e.1) e.2.2.2.2.2.1) (nf:AN (aD (T:=.int .i64) s.2.2.2 e.1) e.2.2.2.2.2.2) (ld:e.2.2.2.2.2.1.length<=1000000) (lf:e.2.2.2.2.2.2.length<=1000000):dS (w,s,e)=ajn ajp:=by
 refine co ?_;unfold dS iw Prod.p2 Prod.p3 Prod.p4 Prod.p5 Prod.q3 Prod.q4 Prod.q6 aX bk jf bn bw aP cu ax ca;refine aQ (λx=>x.2=(s,e)/\((e.2.1=3\/e.2.1=4)/\¬(aD (T:=NI) w.1 e.2.2.1).2.2.1=0->x.1=ajp)) ?_ ?_
 ·refine aE (λh=>?_) λn3=>aE (λh=>?_) λn4=>?_
  ·exact aB (ce (.inl h)).1 (ce (.inl h)).2 (aM (ah ⟨rfl,λg=>by simpa using g.2⟩))
  ·exact aB (ce (.inr h)).1 (ce (.inr h)).2 (aM (ah ⟨rfl,λg=>by simpa using g.2⟩))
  ·exact ah ⟨rfl,λg=>(g.1.elim n3 n4).elim⟩
 rintro⟨b,x⟩ ⟨e1,hb⟩;dsimp only at e1 hb;subst e1;refine aQ (λx=>x.1=s/\x.2.1=e/\(0<e.2.2.2.2.2.1.length->x.2.2.1=ajp)/\(0<e.2.2.2.2.2.2.length->x.2.2.2=ajp)) ?_ ?_
 ·refine aE (λZ=>aE (λI=>ah ⟨rfl,rfl,λ_=>rfl,λ_=>rfl⟩) λI=>ah ⟨rfl,rfl,λ_=>rfl,λg=>?_⟩) λZ=>aE (λI=>ah ⟨rfl,rfl,λg=>?_,λ_=>rfl⟩) λI=>ah ⟨rfl,rfl,λg=>?_,λg=>?_⟩
  ·exact decide_eq_true ((fr g).resolve_left I)
  ·exact hb ((de g).resolve_left Z)
  ·exact hb ((de g).resolve_left Z)
  ·exact decide_eq_true ((fr g).resolve_left I)
 rintro⟨s',e',a,b'⟩ ⟨e1,e2,h1,h2⟩;dsimp only at e1 e2 h1 h2;subst e1;subst e2;have key:∀ (r:List Int),r.length<=1000000->AN (aD (T:=.int .i64) s'.2.2.2 e'.1) r->∀ j:Nat,j<r.length->∀ z∈r.drop (j+1),aD (T:=.int .i64) r (j:Int)<z:=λr _ h j hj z U=>Y6 h.a j hj z U
 refine iY 2 (by omega) (λi x=>x=((i:Int),s',e',a,b')) ?_ ?_ rfl
 ·rintro i x hi rfl;refine aI (λ_=>?_) λg=>(by dsimp only at g;omega)
  refine cY (dY (by dsimp only;omega) (yp (by dsimp only;omega) (aM ?_)));have hr:∃ r:List Int,aD (T:=.sl (.int .i64)) [e'.2.2.2.2.2.1,e'.2.2.2.2.2.2] (i:Int)=r/\AN (aD (T:=.int .i64) s'.2.2.2 e'.1) r/\r.length<=1000000/\(0<r.length->aD (T:=.bool) [a,b'] (i:Int)=ajp):=by
   match i,hi with
   |0,_=>exact⟨_,rfl,nd,ld,h1⟩
   |1,_=>exact⟨_,rfl,nf,lf,h2⟩
  obtain⟨r,er,hA,hl,Y⟩:=hr;have er':aD (T:=.sl aH) [e'.2.2.2.2.2.1,e'.2.2.2.2.2.2] (i:Int)=r:=er;dsimp only at er' ⊢;rw[er'];refine aQ (λx=>x=(ajq,s',e',a,b')) ?_ ?_
  ·refine aI (λg=>?_) λ_=>ah rfl
   have g':0<r.length:=by dsimp only[ai] at g;omega
   refine cY (dY (by omega) (yp (by omega) (aB (by omega) (by omega) (aM (ah ?_)))));rw[Y g'];rfl
  rintro x rfl;refine eZ ?_;refine iY r.length (by omega) (λj x=>x.1.2=(j:Int)/\x.2=(s',e',a,b')/\∀ z∈r.drop j,x.1.1<z) ?_ ?_ ⟨rfl,rfl,λz U=>?_⟩
  ·rintro j ⟨⟨la,ix⟩,x⟩ hj ⟨M,J,g3⟩;dsimp only at M J g3;subst M;subst J;have m:aD (T:=.int .i64) r (j:Int)∈r:=bx (T:=.int .i64) (xs:=r) (by omega) (by omega);have m2:aD (T:=.int .i64) r (j:Int)∈r.drop j:=by
    have:aD (T:=.int .i64) r (j:Int)=r[j]:=by
     show r.getD j 0=_;rw[au,ar hj];rfl
    rw[this,List.drop_eq_getElem_cons hj];exact dg
   refine aI (λ_=>?_) λg=>(by dsimp only[ai] at g;omega)
   refine aB (by dsimp only;omega) (by dsimp only;omega) (aM (aQ (λx=>x=(ajq,s',e',a,b')) ?_ ?_))
   ·refine eY (λg=>?_) λ_=>aB t0 t1 (aM (ah ?_))
    ·have q1:=g3 _ m2;exact absurd q1 (by dsimp only at g;exact λq=>absurd (Int.lt_of_lt_of_le q g) (Int.lt_irrefl _))
    ·have:=(hA.m _ m).2;rw[kP.2 (show aD (T:=.int .i64) r (j:Int)<aD (T:=.int .i64) s'.2.2.2 e'.1 from this)]
   rintro x rfl;exact eZ (ah ⟨go (by omega),rfl,key r hl hA j hj⟩)
  ·rintro⟨⟨la,ix⟩,x⟩ ⟨M,J,_⟩;dsimp only at M J;subst M;subst J;exact aI (λg=>(by dsimp only[ai] at g;omega)) λ_=>ah (congrArg (·,s',e',a,b') (go (by omega)))
  ·have:=(hA.m z (by simpa using U)).1;dsimp only;omega
 ·rintro x rfl;exact aI (λg=>(by dsimp only at g;omega)) λ_=>ah rfl
theorem ahd (w:WT) (s:SN) (I:w.2.2.1.length<=1000) (t k o:Int) (he:EN w s.1 t k o) (hf:F16 w s):jV (w,s)=ajn ajp:=by
 obtain⟨_,_,_,cd,e1,e2,e3⟩:=he;obtain⟨U,M,J⟩:=hf;refine co ?_;unfold jV Prod.p2 Prod.p3 Prod.p4 Prod.q4 aX aP ax;refine fR (aN (adn w s.1 I cd e1 e2 e3) (X0 (aE (λ_=>aE (λ_=>ah (ah (decide_eq_true ?_))) λg=>(g ?_).elim) λg=>(g ?_).elim)));all_goals dsimp only[ai];omega
theorem FN (th:List (Int×Int×Bool)) (c:Int) (i:Nat):wl th c (i+1)=if Jv c (aD (T:=ja) th (i:Int)) then wl th c i++[(i:Int)] else wl th c i:=rfl
theorem ZT {n:Nat} (w:WT) (s:SN) (hs:SB n s.1) (e:ET) (hf:F16 w s) (he:EN w s.1 e.1 e.2.1 e.2.2.1) (va:VA w s.1 s.2.1 s.2.2.1 e.1 e.2.1 e.2.2.1 e.2.2.2.1):fo (s,e)=ajn ajp:=by
 refine co ?_;obtain⟨t,k,o,v,si,de,fr⟩:=e;obtain⟨s1,s2,s3,s4⟩:=s;obtain⟨nm,t0,t1,cd,e1,e2,e3⟩:=he;obtain⟨_,_,ce,lk,cn,th,fu,_,_,_⟩:=nm;obtain⟨f1,f2,f3⟩:=hf;have hth:=hs.th;obtain⟨v3,Z,v5,vel⟩:=va;dsimp only at*
 unfold fo kx Prod.p2 Prod.p3 Prod.p4 Prod.p5 Prod.q3 aX bk bw aP cu ax ca;refine aE (λh=>?_) λn3=>?_
 ·have h:k=3:=h;obtain⟨c0,c1⟩:=ce (.inl h);exact aB c0 (by rw[f1];exact c1) (aM (ah (decide_eq_true (v3 h))))
 refine aE (λh=>?_) λn23=>?_
 ·have h:k=23:=h;obtain⟨c0,c1⟩:=fu (.inr h);exact aB c0 (by rw[f2];exact c1) (aM (ah (decide_eq_true (Z h))))
 refine aE (λh=>?_) λn5=>?_
 ·have h:k=5:=h;exact fR (aE (λ_=>ah (ah rfl)) λg=>ah (ah (decide_eq_true ((v5 h).resolve_left g))))
 refine aQ (λx=>x.2=((s1,s2,s3,s4),t,k,o,v,si,de,fr)/\(x.1=ajq->¬k=4/\¬k=22)) (aE (λh=>ah ⟨rfl,λY=>(by rw[decide_eq_true h] at Y;cases Y)⟩) λh=>ah ⟨rfl,λY=>⟨h,of_decide_eq_false Y⟩⟩) ?_;rintro⟨b,x⟩ ⟨e,hb⟩;dsimp only at e hb;subst e;refine aK (λh=>ah rfl) λh=>?_
 obtain⟨n4,n22⟩:=hb h;have vel:=vel n3 n23 n5 n4 n22;have hWl:=ub s1.2.2.2 o s1.2.2.2.length;refine aE (λh=>?_) λn18=>?_
 ·have h:k=18:=h;subst h;rw[I1] at vel;refine iY s1.2.2.2.length (by omega) (λi x=>x.1.2.2=(i:Int)/\x.2=(t,18,o,v,si,de,fr)/\x.1.1=((wl s1.2.2.2 o i).length:Int)/\(x.1.2.1=ajp↔v∈wl s1.2.2.2 o i)) ?_ ?_ ⟨rfl,rfl,rfl,by simp[wl]⟩
  ·rintro i ⟨⟨c,hit,ix⟩,x⟩ hi ⟨J,I,M,U⟩;dsimp only at J I M U;subst J;subst I;subst M;have hl:=ub s1.2.2.2 o i;refine aI (λ_=>?_) λg=>(by dsimp only[ai] at g;omega)
   refine aQ (λx=>x.2=(t,18,o,v,si,de,fr)/\x.1.1=((wl s1.2.2.2 o (i+1)).length:Int)/\(x.1.2=ajp↔v∈wl s1.2.2.2 o (i+1))) ?_ ?_
   ·refine aB (by dsimp only;omega) (by dsimp only;omega) (aM (aQ (λx=>x=(Jv o (aD (T:=ja) s1.2.2.2 (i:Int)),t,18,o,v,si,de,fr)) ?_ ?_))
    ·unfold Jv;refine aE (λh=>ah ?_) λh=>ah ?_
     ·dsimp only at h ⊢;rw[h];rfl
     ·dsimp only at h ⊢;rw[decide_eq_false h];rfl
    rintro x rfl;rw[FN];dsimp only;cases hw:Jv o (aD (T:=ja) s1.2.2.2 (i:Int)) with
    |true=>
     refine X0 (aK (λh=>ah ⟨rfl,?_,?_⟩) λh=>ah ⟨rfl,?_,?_⟩)
     ·dsimp only;rw[go (by omega)];simp
     ·simp[U.1 h]
     ·dsimp only;rw[go (by omega)];simp
     ·have:¬v∈wl s1.2.2.2 o i:=λg=>by rw[U.2 g] at h;cases h
      simp[this]
    |false=>exact eZ (ah ⟨rfl,rfl,U⟩)
   rintro⟨⟨c,hit'⟩,x⟩ ⟨J,I,M⟩;dsimp only at J I M;subst J;subst I;exact ah ⟨go (by omega),rfl,rfl,M⟩
  ·rintro⟨⟨c,hit,ix⟩,x⟩ ⟨J,I,M,U⟩;dsimp only at J I M U;subst J;subst I;subst M;refine aI (λg=>(by dsimp only[ai] at g;omega)) λ_=>al (P:=λy=>y=ajp) (fR (aK (λ_=>ah (ah rfl)) λh=>?_)) λy hy=>ah hy
   have hn:¬v∈wl s1.2.2.2 o s1.2.2.2.length:=λg=>by rw[U.2 g] at h;cases h
   by_cases h0:(wl s1.2.2.2 o s1.2.2.2.length).length=0
   ·rw[if_pos h0] at vel;refine aE (λ_=>ah (ah (decide_eq_true vel))) λg=>(g (by dsimp only;omega)).elim
   ·rw[if_neg h0] at vel;have vel:v=AA (wl s1.2.2.2 o s1.2.2.2.length) v:=vel;exact (hn (vel▸F7 v h0)).elim
 refine aE (λh=>?_) λn19=>?_
 ·have h:k=19:=h;subst h;rw[ael] at vel;refine iY s1.2.2.2.length (by omega) (λi x=>x.1.2=(i:Int)/\x.2=(t,19,o,v,si,de,fr)/\x.1.1=((wl s1.2.2.2 o i).length:Int)) ?_ ?_ ⟨rfl,rfl,rfl⟩
  ·rintro i ⟨⟨c,ix⟩,x⟩ hi ⟨J,I,M⟩;dsimp only at J I M;subst J;subst I;subst M;have hl:=ub s1.2.2.2 o i;refine aI (λ_=>?_) λg=>(by dsimp only[ai] at g;omega)
   refine aQ (λx=>x.2=(t,19,o,v,si,de,fr)/\x.1=((wl s1.2.2.2 o (i+1)).length:Int)) ?_ ?_
   ·refine aB (by dsimp only;omega) (by dsimp only;omega) (aM (aQ (λx=>x=(Jv o (aD (T:=ja) s1.2.2.2 (i:Int)),t,19,o,v,si,de,fr)) ?_ ?_))
    ·unfold Jv;refine aE (λh=>ah ?_) λh=>ah ?_
     ·dsimp only at h ⊢;rw[h];rfl
     ·dsimp only at h ⊢;rw[decide_eq_false h];rfl
    rintro x rfl;rw[FN];dsimp only;cases hw:Jv o (aD (T:=ja) s1.2.2.2 (i:Int)) with
    |true=>
     refine X0 (ah ⟨rfl,?_⟩);dsimp only;rw[go (by omega)];simp
    |false=>exact eZ (ah ⟨rfl,rfl⟩)
   rintro⟨c,x⟩ ⟨J,I⟩;dsimp only at J I;subst J;subst I;exact ah ⟨go (by omega),rfl,rfl⟩
  ·rintro⟨⟨c,ix⟩,x⟩ ⟨J,I,M⟩;dsimp only at J I M;subst J;subst I;subst M;exact aI (λg=>(by dsimp only[ai] at g;omega)) λ_=>ah (decide_eq_true vel)
 exact ah (decide_eq_true (by rw[ad5 _ _ _ _ _ _ n18 n19] at vel;exact vel))
theorem Xx (x:Int×Int×Bool) (c:Int):k9 (x,c)=ajn (Jv c x):=by
 refine co ?_;unfold k9 Jv aX ax;refine fR (aE (λh=>ah (ah ?_)) λh=>ah (ah ?_))
 ·have h:x.1=3:=h;rw[h];rfl
 ·have h:¬x.1=3:=h;rw[decide_eq_false h];rfl
theorem YT {n:Nat} (s:SY) (hs:SB n s):jD s=ajn (s.2.1,s.1,s.2.2.1,s.2.2.2):=by
 refine co ?_;obtain⟨s1,s2,J,I⟩:=s;have hn:=hs.n1;have hlk:=hs.lk;have hdn:=hs.dn;have hth:=hs.th;have hrd:=hs.rd;dsimp only at hlk hdn hth hrd;unfold jD qA Prod.p2 Prod.q3 ck bk bn bw aP cu ca;dsimp only[ai];refine cY (cY (dY (by omega) (dY (by omega) (ba (by simp;omega) (by omega) ?_))));refine iY s1.length (by omega) (λi x=>∃ c d,x=((i:Int),(s1,s2,J,I),c,d)/\d.length=s1.length/\∀ j,j<i->d.getD j (0,[])=s1.getD j (0,[])) ?_ ?_ ⟨_,_,rfl,by simp,λj hj=>by omega⟩
 ·rintro i x hi ⟨c,d,rfl,hd,he⟩;have hr:=hrd _ (bx (T:=yH) (xs:=s1) (j:=(i:Int)) (by omega) (by omega));refine aI (λ_=>?_) λg=>(by dsimp only at g;omega)
  refine aB (by dsimp only;omega) (by dsimp only;omega) (aM (aN (x:=(aD (T:=yH) s1 (i:Int)).2) (co ?_) ?_))
  ·exact ba (by dsimp only;omega) (by omega) (ah rfl)
  refine aB (by dsimp only;omega) (by dsimp only;omega) (aB (by dsimp only;omega) (by dsimp only;omega) (ah ⟨c,d.set i (aD (T:=yH) s1 (i:Int)),?_,by simp[hd],λj hj=>?_⟩))
  ·dsimp only;rw[go (by omega)];rfl
  ·by_cases e:i=j
   ·subst e;rw[au,List.getElem?_set_self (by omega)];rfl
   ·rw[au,List.getElem?_set_ne e,<-au];exact he j (by omega)
 ·rintro x ⟨c,d,rfl,hd,he⟩;have:d=s1:=by
   refine cV hd λj Y M=>?_
   have:=he j M;rw[au,au,ar Y,ar M] at this;exact this
  subst this;refine aI (λg=>(by dsimp only at g;omega)) λ_=>al (P:=λy=>y=(s2,d,J,I)) ?_ λy U=>ah U
  refine aN (x:=J) (co (ba (by dsimp only;omega) (by omega) (ah rfl))) (aN (x:=I) (co (ba (by dsimp only;omega) (by omega) (ah rfl))) (ah rfl))
theorem UW (l:List Int) (i u:Int):AA (l++[i]) u=if l.length=0 then i else if i=u then i else AA l u:=by
 unfold AA;cases l with
 |nil=>
  by_cases h:u=i
  ·subst h;simp
  ·simp[h];rfl
 |cons a r=>
  have e1:¬(a::r++[i]).length=0:=by simp
  have e2:¬(a::r).length=0:=by simp
  simp only[if_neg e1,if_neg e2];by_cases h:i=u
  ·subst h;simp
  ·have h':¬u=i:=λg=>h g.symm
   rw[if_neg h];have:(a::r++[i]).contains u=(a::r).contains u:=by simp[h']
   rw[this];rfl
theorem Nb {th:List (Int×Int×Bool)} {c u:Int} {i:Nat} (h:¬(wl th c i).length=0):0<=AA (wl th c i) u/\AA (wl th c i) u<i:=by
 have:=ua.1 (F7 u h);exact⟨this.1,this.2.1⟩
theorem IP {l:List Int} {u:Int} (h:l.length=0):AA l u= -1:=by unfold AA;rw[if_pos h]
theorem aa1 (s:SY) (o u:Int) (hs:s.2.2.2.length<=1000):iN ((s.2.1,o,u),s.1,s.2.2.1,s.2.2.2)=ajn (AA (wl s.2.2.2 o s.2.2.2.length) u,s.1,s.2.2.1,if (wl s.2.2.2 o s.2.2.2.length).length=0 then s.2.2.2 else AH s.2.2.2 (AA (wl s.2.2.2 o s.2.2.2.length) u) 4):=by
 refine co ?_;obtain⟨s1,s2,J,I⟩:=s;dsimp only at hs ⊢;unfold iN pm Prod.p2 Prod.p3 Prod.q3 ck bk jf kf aP cu ax ca;dsimp only[ai];refine iY I.length (by omega) (λi x=>x=((AA (wl I o i) u,(i:Int)),s1,J,I,s2)) ?_ ?_ rfl
 ·rintro i x hi rfl;refine aI (λ_=>?_) λg=>(by dsimp only at g;omega)
  refine aQ (λx=>x=(AA (wl I o (i+1)) u,s1,J,I,s2)) ?_ ?_
  ·refine aB (by dsimp only;omega) (by dsimp only;omega) (aB (by dsimp only;omega) (by dsimp only;omega) (aM ?_));refine aQ (λx=>x=(decide (Jv o (aD (T:=ja) I (i:Int))=ajp/\((wl I o i).length=0\/(i:Int)=u)),s1,J,I,s2)) ?_ ?_
   ·refine aN (Xx _ _) (aK (λh=>?_) λh=>ah ?_)
    ·have h:Jv o (aD (T:=ja) I (i:Int))=ajp:=h;refine aI (λg=>ah ?_) λg=>ah ?_
     ·have:(wl I o i).length=0:=t8 λq=>by have:=(Nb (u:=u) q).1;dsimp only at g;omega
      simp[h,this]
     ·have:¬(wl I o i).length=0:=λq=>by have:=IP (u:=u) q;dsimp only at g;omega
      simp[h,this]
    ·have h:Jv o (aD (T:=ja) I (i:Int))=ajq:=h;simp[h]
   rintro x rfl;rw[FN];refine aE (λh=>ah ?_) λh=>ah ?_
   ·rw[if_pos h.1,UW];rcases h.2 with g|g
    ·rw[if_pos g]
    ·rw[if_pos g];simp
   ·by_cases g:Jv o (aD (T:=ja) I (i:Int))=ajp
    ·rw[if_pos g,UW,if_neg λq=>h ⟨g,.inl q⟩,if_neg λq=>h ⟨g,.inr q⟩]
    ·rw[if_neg g]
  rintro x rfl;exact ah (by dsimp only;rw[go (by omega)])
 ·rintro x rfl;refine aI (λg=>(by dsimp only at g;omega)) λ_=>al (P:=λy=>y=(AA (wl I o I.length) u,s1,J,if (wl I o I.length).length=0 then I else AH I (AA (wl I o I.length) u) 4)) ?_ λy M=>ah M
  refine aQ (λx=>x=(s1,J,if (wl I o I.length).length=0 then I else AH I (AA (wl I o I.length) u) 4)) ?_ ?_
  ·refine eY (λg=>?_) λg=>ah ?_
   ·have h0:¬(wl I o I.length).length=0:=λq=>by have:=IP (u:=u) q;dsimp only at g;omega
    have hp:=Nb (u:=u) h0;refine aB hp.1 hp.2 (aB hp.1 hp.2 (ah ?_));rw[if_neg h0];rfl
   ·have:(wl I o I.length).length=0:=t8 λq=>by have:=(Nb (u:=u) q).1;dsimp only at g;omega
    rw[if_pos this]
  rintro x rfl;exact ah rfl
theorem aa5 (th:List (Int×Int×Bool)) (l:List Int) (i:Int):Fd th (l++[i])=AH (Fd th l) i 4:=by unfold Fd;rw[eD];rfl
theorem aa4 (l:List Int):∀ (th:List (Int×Int×Bool)) (j:Int),0<=j->(∀ z∈l,0<=z/\z<th.length/\¬z=j)->aD (T:=ja) (Fd th l) j=aD (T:=ja) th j:=by
 induction l with
 |nil=>intro th j _ _;rfl
 |cons x r J=>
  intro th j hj h;have I:=h x (by simp);refine (J (AH th x 4) j hj λz M=>?_).trans ?_
  ·have:=h z (by simp[M]);unfold AH;rw[bG];exact this
  ·unfold AH;rw[r8 (T:=ja) th x j _ I.1 I.2.1 hj,if_neg λq=>I.2.2 q.symm]
theorem RC (s:SY) (o:Int) (hs:s.2.2.2.length<=1000):fU ((s.2.1,o),s.1,s.2.2.1,s.2.2.2)=ajn (((wl s.2.2.2 o s.2.2.2.length).length:Int),s.1,s.2.2.1,Fd s.2.2.2 (wl s.2.2.2 o s.2.2.2.length)):=by
 refine co ?_;obtain⟨s1,s2,J,I⟩:=s;dsimp only at hs ⊢;unfold fU lq Prod.p2 Prod.p3 Prod.q3 Prod.q4 ck bk kf aP cu ax ca;dsimp only[ai];refine iY I.length (by omega) (λi x=>x=((((wl I o i).length:Int),(i:Int)),s1,J,Fd I (wl I o i),s2)) ?_ ?_ rfl
 ·rintro i x hi rfl;have hl:=ub I o i;have hg:aD (T:=ja) (Fd I (wl I o i)) (i:Int)=aD (T:=ja) I (i:Int):=aa4 _ _ _ (by omega) λz M=>by have:=ua.1 M;exact⟨this.1,by omega,by omega⟩
  have hq:=FW (wl I o i) I;refine aI (λ_=>?_) λg=>(by dsimp only at g;omega)
  refine aQ (λx=>x=(((wl I o (i+1)).length:Int),s1,J,Fd I (wl I o (i+1)),s2)) ?_ ?_
  ·refine aB (by dsimp only;omega) (by dsimp only;omega) (aB (by dsimp only;omega) (by dsimp only;omega) (aM (aN (Xx _ _) ?_)));rw[FN];refine aK (λh=>?_) λh=>ah ?_
   ·have h:Jv o (aD (T:=ja) I (i:Int))=ajp:=hg▸h;refine aB (by dsimp only;omega) (by dsimp only;omega) (aB (by dsimp only;omega) (by dsimp only;omega) (ah ?_));rw[if_pos h,aa5];dsimp only;rw[go (by omega)];simp only[bg,bH,je];rfl
   ·have h:Jv o (aD (T:=ja) I (i:Int))=ajq:=hg▸h;rw[h];rfl
  rintro x rfl;exact ah (by dsimp only;rw[go (by omega)])
 ·rintro x rfl;exact aI (λg=>(by dsimp only at g;omega)) λ_=>ah rfl
theorem acf {n:Nat} (w:WT) (s:SY) (hs:SB n s) (hn:n<=1000) (U:w.2.2.1.length<=1000) (t k o u:Int) (he:EN w s t k o) (hr:Vb w s t k o) (J:¬k=8) (I:¬k=9):fV (w,s,t,k,o,u)=ajn ((uo w s t k o u).1,(uo w s t k o u).2,ajp):=by
 refine co ?_;unfold fV Prod.p2 Prod.p3 Prod.p4 Prod.p5 Prod.p6 Prod.q3 Prod.q4 Prod.q5 Prod.q6 Prod.q7 ck aX bn bw kf ax;refine aN (CC w s hs hn U t k o he hr) (eM rfl (aN (YT s hs) ?_));suffices hmain:Ok _ _ from aQ (λx=>((x.2.2.2.1,x.2.1,x.2.2.2.2),x.1)=uo w s t k o u) hmain λx M=>ah (by rw[<- M])
 obtain⟨nm,t0,t1,cd,e1,e2,e3⟩:=id he;obtain⟨_,_,ce,lk,cn,th,fu⟩:=nm;have hm:16<=k/\k<=19->0<=(aD (T:=Rc) w.2.2.1 o).2/\(aD (T:=Rc) w.2.2.1 o).2<w.2.1.length:=λh=>cd _ (bx (cn h).1 (cn h).2)
 rcases @G8 k with rfl|rfl|rfl|rfl|rfl|rfl|rfl|rfl|rfl|rfl|rfl|rfl|rfl|rfl|rfl|rfl|rfl|rfl|rfl|rfl|rfl|rfl|rfl|⟨hk,Y⟩
 case inr.inr.inr.inr.inr.inr.inr.inr.inr.inr.inr.inr.inr.inr.inr.inr.inr.inr.inr.inr.inr.inr.inr=>omega
 all_goals first|exact (J rfl).elim|exact (I rfl).elim|skip
 all_goals simp only[aO,bd,decide_true,decide_false,oN,oK,re,rz,nM,ry,aY,aV]
 all_goals with_reducible repeat' first|(refine OS.ok ?_;constructor)|refine IM.mk λ_=>?_
 all_goals try simp only[ai,decide_eq_true_eq,true_or,or_true,true_implies,true_and,and_true] at*
 all_goals try rw[bG]
 all_goals first|omega|exact (hm ⟨by decide,by decide⟩).1|exact e1▸(hm ⟨by decide,by decide⟩).2|exact rfl|skip
 ·refine aN (aa1 s o u hs.th) (aW ?_ (ah ?_))
  ·have:af (if (wl s.2.2.2 o s.2.2.2.length).length=0 then s.2.2.2 else AH s.2.2.2 (AA (wl s.2.2.2 o s.2.2.2.length) u) 4)=s.2.2.2.length:=by
    split
    ·rfl
    ·exact bG ..
   dsimp only;rw[this];simp
  ·rw[I1];by_cases h:(wl s.2.2.2 o s.2.2.2.length).length=0
   ·rw[if_pos h,if_pos h,IP h]
   ·rw[if_neg h,if_neg h]
 ·refine aN (RC s o hs.th) (aW ?_ (ah rfl));dsimp only;rw[FW];simp
def yZ:Nat->List (List Int)
 |0=>[[]]
 |m+1=>yZ m++(yZ m).map ((3-(m:Int))::·)
theorem KB:∀ m,[]∈yZ m
 |0=>by simp[yZ]
 |m+1=>by simp[yZ,KB m]
theorem CK:∀ (m:Nat) (l:List Int),FH l->(∀ z∈l,4-(m:Int)<=z/\z<4)->l∈yZ m
 |m,[],_,_=>KB m
 |0,a::r,_,h=>by have:=h a (by simp);omega
 |m+1,a::r,hA,h=>by
  have J:=h a (by simp);rw[yZ,bE];by_cases e:a=3-(m:Int)
  ·refine .inr (cO.2 ⟨r,CK m r hA.2 λz I=>?_,by rw[e]⟩);have:=h z (by simp[I]);have:=hA.1 z I;omega
  ·refine .inl (CK m (a::r) hA λz I=>?_);have:=h z I;rcases bc.1 I with rfl|I
   ·omega
   ·have:=hA.1 z I;omega
theorem acl {l:List Int} (h:FH l) (J:∀ z∈l,0<=z/\z<4):l∈yZ 4:=CK 4 l h λz I=>by have:=J z I;omega
def in4:List Int:=[0,1,2,3]
theorem Uy {t:Int} (h0:0<=t) (h1:t<4):t∈in4:=by
 have:t=0\/t=1\/t=2\/t=3:=by omega
 rcases this with rfl|rfl|rfl|rfl<;>simp[in4]
def agu (l:List Int) (t:Int):Bool:=l.contains t||((uM (l++[t])==ajn (vE l [t]))&&(kw (vE l [t])==ajn (vE l [t]))&&av (vE l [t]).length (l++[t]).length)
def ahi (l:List Int) (t:Int):Bool:= !l.contains t||(ij (l,t)==ajn (t,wo l t))
theorem ZX:((yZ 4).all λl=>in4.all λt=>agu l t)=ajp:=by kernel_rfl
theorem aav:((yZ 4).all λl=>in4.all λt=>ahi l t)=ajp:=by kernel_rfl
theorem srt8 {l:List Int} {t:Int} (h:FH l) (I:∀ z∈l,0<=z/\z<4) (h0:0<=t) (h1:t<4) (hn:¬t∈l):uM (l++[t])=ajn (vE l [t])/\kw (vE l [t])=ajn (vE l [t])/\(vE l [t]).length=(l++[t]).length:=by
 have:=fh.1 (fh.1 ZX l (acl h I)) t (Uy h0 h1);unfold agu at this;have hc:l.contains t=ajq:=by simp[hn]
 rw[hc,Bool.false_or,aj,aj] at this;exact⟨eq_of_beq this.1.1,eq_of_beq this.1.2,ak this.2⟩
theorem del8 {l:List Int} {t:Int} (h:FH l) (I:∀ z∈l,0<=z/\z<4) (h0:0<=t) (h1:t<4) (hn:l.contains t=ajp):ij (l,t)=ajn (t,wo l t):=by
 have:=fh.1 (fh.1 aav l (acl h I)) t (Uy h0 h1);unfold ahi at this;rw[hn,aY,Bool.false_or] at this;exact eq_of_beq this
theorem ab4 (a0 a1 a2:Int) (r0 r1 r2:List Int) (h:Int) (d:List Bool) (th:List (Int×Int×Bool)) (h0:r0.length<=1000) (h1:r1.length<=1000) (J:r2.length<=1000) (hd:d.length<=1000) (ht:th.length<=1000):ma ([(a0,r0),(a1,r1),(a2,r2)],h,d,th)=ajn ((h,d,th),(a0,a1,a2),r0,r1,r2):=by
 refine co ?_;have I:∀ l:List Int,l.length<=1000->nO l=ajn l:=λl hl=>co (ba (by omega) (by omega) (ah rfl))
 unfold ma Prod.p2 Prod.q3 bk bn bw aP ax;refine aW rfl (aQ (λx=>x=(([(a0,r0),(a1,r1),(a2,r2)],h,d,th),0,(a0,a1,a2),r0,r1,r2)) ?_ ?_)
 ·exact eC rfl (aW rfl (aM (aN (I _ h0) (eC rfl (aW rfl (aM (aN (I _ h1) (eC rfl (aW rfl (aM (aN (I _ J) (eM rfl (ah rfl)))))))))))))
 rintro x rfl;refine aN (x:=d) (co (ba (by dsimp only;omega) (by omega) (ah rfl))) (aN (x:=th) (co (ba (by dsimp only;omega) (by omega) (ah rfl))) (ah rfl))
theorem acg {n:Nat} (w:WT) (s:SY) (hs:SB n s) (hn:n<=1000) (J:w.2.2.1.length<=1000) (t k o u:Int) (he:EN w s t k o) (hr:Vb w s t k o) (hk:k=8\/k=9):fV (w,s,t,k,o,u)=ajo:=by
 have h1:=CC w s hs hn J t k o he hr;have I:=YT s hs;rcases hk with rfl|rfl
 ·unfold fV Prod.p2 Prod.p3 Prod.p4 Prod.p5 Prod.p6 Prod.q3 Prod.q4 Prod.q5 Prod.q6 Prod.q7 ck aX bn bw kf ax;simp only[h1,I,aO,bd,decide_true,decide_false,oN,oK,re,rz,nM,ry,aY,aV];cases eS o (af s.1)<;>rfl
 ·unfold fV Prod.p2 Prod.p3 Prod.p4 Prod.p5 Prod.p6 Prod.q3 Prod.q4 Prod.q5 Prod.q6 Prod.q7 ck aX bn bw kf ax;simp only[h1,I,aO,bd,decide_true,decide_false,oN,oK,re,rz,nM,ry,aY,aV];cases eS o (af s.1)<;>rfl
theorem ace {n:Nat} (w:WT) (s:SY) (hs:SB n s) (hn:n<=900) (Y:w.2.2.1.length<=1000) (t k u:Int) (he:EN w s t k 2) (hr:Vb w s t k 2) (hk:k=8\/k=9) (Z:s.1.length=3) (hA:FH (aD (T:=yH) s.1 2).2) (I:∀ z∈(aD (T:=yH) s.1 2).2,0<=z/\z<4) (M:t<4):jZ (w,s,t,k,2,u)=ajn ((uo w s t k 2 u).1,(uo w s t k 2 u).2,ajp):=by
 have h1:=CC w s hs (by omega) Y t k 2 he hr;have t0:=he.t0;have ra:=hr.ra;have rr:=hr.rr;have hrd:=hs.rd;have hdn:=hs.dn;have hth:=hs.th;obtain⟨s1,h,d,th⟩:=s
 match s1,Z with
 |[(a0,r0),(a1,r1),(a2,r2)],_=>
  have g0:r0.length<=n:=hrd (a0,r0) (by simp);have g1:r1.length<=n:=hrd (a1,r1) (by simp);have g2:r2.length<=n:=hrd (a2,r2) (by simp);have hA:FH r2:=hA;have I:∀ z∈r2,0<=z/\z<4:=I;dsimp only at hdn hth;have hc:=ab4 a0 a1 a2 r0 r1 r2 h d th (by omega) (by omega) (by omega) hdn hth;refine co ?_;unfold jZ Prod.p2 Prod.p3 Prod.p4 Prod.p5 Prod.p6 Prod.p7 Prod.q4 Prod.q5 Prod.q6 Prod.q8 aX vA bn ax;rcases hk with rfl|rfl
  ·have ra:r2.contains t=ajq:=ra rfl;obtain⟨J,U,q3⟩:=srt8 hA I t0 M (by simpa using ra);simp only[h1,hc,aO,bd,decide_true,decide_false,oN,oK,re,rz,nM,ry,aY,aV];refine aQ (λx=>x=(0,(h,d,th),0,(((a0,r0),(a1,r1),a2)),ajp,vE r2 [t])) ?_ ?_
   ·refine ba (by simp;omega) (by omega) (aN J (aW ?_ (aN U (aW ?_ (ah ?_)))))
    ·rw[q3];simp
    ·simp
    ·rfl
   rintro x rfl;exact ah rfl
  ·have rr:r2.contains t=ajp:=rr rfl;have J:=del8 hA I t0 M rr;simp only[h1,hc,aO,bd,decide_true,decide_false,oN,oK,re,rz,nM,ry,aY,aV];refine aQ (λx=>x=(0,(h,d,th),0,(((a0,r0),(a1,r1),a2)),ajq,wo r2 t)) ?_ ?_
   ·exact aN J (aW (by simp) (ah rfl))
   rintro x rfl;exact ah rfl
theorem agh {n:Nat} (w:WT) (s:SY) (hs:SB n s) (hn:n<=900) (I:w.2.2.1.length<=1000) (t k o u:Int) (he:EN w s t k o) (hr:Vb w s t k o) (U:k=8\/k=9->o=2) (M:s.1.length=3) (hA:∀ l∈s.1,FH l.2/\∀ z∈l.2,0<=z/\z<4) (J:t<4):qw (w,s,t,k,o,u)=ajn ((uo w s t k o u).1,(uo w s t k o u).2,ajp):=by
 unfold qw;by_cases hk:k=8\/k=9
 ·have:=U hk;subst this;have hg:=hA _ (bx (T:=yH) (xs:=s.1) (j:=2) (by omega) (by omega));rw[acg w s hs (by omega) I t k 2 u he hr hk,ace w s hs hn I t k u he hr hk M hg.1 hg.2 J];rfl
 ·rw[acf w s hs (by omega) I t k o u he hr (λh=>hk (.inl h)) λh=>hk (.inr h)];rfl
theorem UU (l:List Int) (h:l.length<=100000):xu l=ajn l:=co (ba (by omega) (by omega) (ah rfl))
theorem ab5 (l:List Int) (h:l.length<=100000):nO l=ajn l:=co (ba (by omega) (by omega) (ah rfl))
theorem ai7 {n:Nat} (w:WT) (s:SN) (e:ET) (hs:NB n s) (hn:n<=900) (Y:w.2.2.1.length<=1000) (Z:F16 w s) (J:EN w s.1 e.1 e.2.1 e.2.2.1) (hS:S16 w s e) (ld:e.2.2.2.2.2.1.length<=1000000) (lf:e.2.2.2.2.2.2.length<=1000000) (U:e.2.1=8\/e.2.1=9->e.2.2.1=2) (h3:s.1.1.length=3) (hA:∀ l∈s.1.1,FH l.2/\∀ z∈l.2,0<=z/\z<4) (t4:e.1<4):eK (w,s,e)=ajn (ZL w s e,ajp):=by
 refine co ?_;obtain⟨rd,q1,q2,de,fr,nd,nf,va⟩:=id hS;obtain⟨nm,t0,t1,cd,e1,e2,e3⟩:=id J;obtain⟨k1,k2,ce,lk,cn,th,fu,_,_,_⟩:=nm;obtain⟨f1,f2,f3⟩:=id Z;have hsc:=hs.c;have hsf:=hs.f;have hsk:=hs.k;unfold eK Prod.p2 Prod.p3 Prod.p4 Prod.q3 Prod.q4 Prod.q5 ck aX bk jf kf aP ax ca;refine aQ (λx=>x=(ajq,w,s,e,0)) ?_ ?_
 ·refine aN (ahd w s Y _ _ _ J Z) (eM rfl (aI (λg=>(by dsimp only at g;omega)) λ_=>eY (λg=>(by dsimp only[ai] at g;omega)) λ_=>aI (λg=>(by dsimp only at g;omega)) λ_=>ah ?_));rw[e9.2 (show e.2.1<=23 by omega)]
 rintro x rfl;refine eZ (aQ (λx=>x=(ajq,w,s,e,0)) ?_ ?_)
 ·exact aN (CC w s.1 hs.sb (by omega) Y _ _ _ J rd) (eM rfl (aN (Z6 w e q1 q2) (eM rfl (aN (Pu w s e (λh=>ce h) de fr t0 (by rw[f3];exact t1) nd nf ld lf) (eM rfl (aN (ZT w s hs.sb e Z J va) (ah rfl)))))))
 rintro x rfl;refine eZ (aQ (λx=>x.2=(w,s,e,0)/\uo w s.1 e.1 e.2.1 e.2.2.1 x.1=uo w s.1 e.1 e.2.1 e.2.2.1 e.2.2.2.1) ?_ ?_)
 ·exact aE (λ_=>ah ⟨rfl,rfl⟩) λh=>ah ⟨rfl,U4 _ _ _ _ _ _ _ h⟩
 rintro⟨u,x⟩ ⟨hx,hu⟩;dsimp only at hx hu;subst hx;refine aN (agh w s.1 hs.sb hn Y _ _ _ u J rd U h3 hA t4) (eM rfl (aN (UU _ (by dsimp only;omega)) (aN (UU _ (by dsimp only;omega)) (aN (ab5 _ (by dsimp only;omega)) ?_))));rw[hu];refine aQ (λx=>x.1=e/\x.2.2.1=(uo w s.1 e.1 e.2.1 e.2.2.1 e.2.2.2.1).1/\x.2.2.2.1=Ws s.2.1 e/\x.2.2.2.2.1=Xr s.2.2.1 e/\x.2.2.2.2.2=s.2.2.2) ?_ ?_
 ·unfold Ws Xr;refine aE (λh=>?_) λh=>aE (λh'=>?_) λh'=>ah ⟨rfl,rfl,(if_neg h).symm,(if_neg h').symm,rfl⟩
  ·have h:e.2.1=4:=h;have I:=ce (.inr h);exact aB I.1 (by rw[f1];exact I.2) (aB I.1 (by rw[f1];exact I.2) (ah ⟨rfl,rfl,(if_pos h).symm,(if_neg (by omega)).symm,rfl⟩))
  ·have h:e.2.1=22:=h';have I:=fu (.inl h);exact aB I.1 (by rw[f2];exact I.2) (aB I.1 (by rw[f2];exact I.2) (ah ⟨rfl,rfl,(if_neg (by omega)).symm,(if_pos h).symm,rfl⟩))
 rintro⟨x1,x2,x3,x4,x5,x6⟩ ⟨h1,U,h4,h5,h6⟩;simp only at h1 U h4 h5 h6;subst h1;subst U;subst h4;subst h5;subst h6;have M:x1.1<(s.2.2.2.length:Int):=by rw[f3];exact t1
 exact aB t0 M (aB t0 M (aM (aB t0 M (aB t0 M (ah rfl)))))
theorem Ww (r:List Bool) (e:ET) (h1:∀ y∈e.2.2.2.2.2.1,0<=y/\r.getD y.toNat ajq=ajp) (J:∀ y∈e.2.2.2.2.2.2,0<=y/\r.getD y.toNat ajq=ajp) (ld:e.2.2.2.2.2.1.length<=1000000) (I:e.2.2.2.2.2.2.length<=1000000):bQ (r,e)=ajn ajp:=by
 refine co ?_;unfold bQ jx Prod.p6 Prod.q7 bk jf bn bw aP cu ax ca;refine iY 2 (by omega) (λi x=>x=(i:Int)) ?_ ?_ rfl
 ·rintro i x hi rfl;refine aI (λ_=>?_) λg=>(by omega)
  refine cY (dY (by omega) (yp (by omega) (aM ?_)));have hr:∃ l:List Int,aD (T:=.sl (.int .i64)) [e.2.2.2.2.2.1,e.2.2.2.2.2.2] (i:Int)=l/\(∀ y∈l,0<=y/\r.getD y.toNat ajq=ajp)/\l.length<=1000000:=by
   match i,hi with
   |0,_=>exact⟨_,rfl,h1,ld⟩
   |1,_=>exact⟨_,rfl,J,I⟩
  obtain⟨l,M,hA,hl⟩:=hr;have er':aD (T:=.sl aH) [e.2.2.2.2.2.1,e.2.2.2.2.2.2] (i:Int)=l:=M;dsimp only at er' ⊢;rw[er'];refine iY l.length (by omega) (λj x=>x=(j:Int)) ?_ ?_ rfl
  ·rintro j x hj rfl;refine aI (λ_=>?_) λg=>(by dsimp only[ai] at g;omega)
   have m:=hA _ (bx (T:=.int .i64) (xs:=l) (j:=(j:Int)) (by omega) (by omega));refine aB (by omega) (by omega) (aM (aQ (λx=>x=ajq) ?_ ?_))
   ·revert m;generalize aD (T:=.int .i64) l (j:Int)=z;intro m;have U:z.toNat<r.length:=by
     rcases bI z.toNat r.length with g|g
     ·exact g
     ·have:=m.2;rw[au,bB g] at this;cases this
    refine aI (λg=>(by have:=m.1;omega)) λ_=>eY (λg=>(by have:=m.1;dsimp only[ai] at g;omega)) λ_=>aB m.1 (by have:=m.1;omega) (aM (ah ?_))
    have:aD (T:=.bool) r z=ajp:=m.2;show (!aD (T:=.bool) r z)=ajq;rw[this];rfl
   rintro x rfl;exact eZ (ah (go (by omega)))
  ·rintro x rfl;exact aI (λg=>(by dsimp only[ai] at g;omega)) λ_=>ah (go (by omega))
 ·rintro x rfl;exact aI (λg=>(by omega)) λ_=>ah rfl
abbrev W8 (n:Nat) (s:List (Int×Int×Int)):WT:=(C0,E7,Kw,QW,uz.take n,s)
theorem WX.w8 {w:WT} (Y:WX w):∃ n,(n=1\/n=2\/n=3\/n=4)/\w=W8 n w.2.2.2.2.2:=by
 obtain⟨h1,U,M,J,⟨n,n1,Z,I⟩,_,_⟩:=Y;obtain⟨c,l,d,f,t,s⟩:=w;dsimp only at h1 U M J I;subst h1;subst U;subst M;subst J;subst I;exact⟨n,by omega,rfl⟩
abbrev sn8 (w:WT):SN:=(Nw w,YX w,ZN w,ay w.2.2.2.2.1.length 0)
theorem Gn (s:List (Int×Int×Int)):cJ (W8 1 s)=ajn (sn8 (W8 1 s)):=by kernel_rfl
theorem XJ (s:List (Int×Int×Int)):cJ (W8 2 s)=ajn (sn8 (W8 2 s)):=by kernel_rfl
theorem st3 (s:List (Int×Int×Int)):cJ (W8 3 s)=ajn (sn8 (W8 3 s)):=by kernel_rfl
theorem st4 (s:List (Int×Int×Int)):cJ (W8 4 s)=ajn (sn8 (W8 4 s)):=by kernel_rfl
theorem AC {w:WT} (I:WX w):cJ w=ajn (sn8 w):=by
 obtain⟨n,hn,e⟩:=I.w8;rw[e];rcases hn with rfl|rfl|rfl|rfl
 ·exact Gn _
 ·exact XJ _
 ·exact st3 _
 ·exact st4 _
abbrev VN4:List (List UInt8):=[[120],[121],[118],[113]]
theorem vc8:gd C0=ajn (VN4,ajp):=by kernel_rfl
theorem vn1 (s:List (Int×Int×Int)):c8 (W8 1 s,VN4)=ajn ajp:=by kernel_rfl
theorem vn2 (s:List (Int×Int×Int)):c8 (W8 2 s,VN4)=ajn ajp:=by kernel_rfl
theorem vn3 (s:List (Int×Int×Int)):c8 (W8 3 s,VN4)=ajn ajp:=by kernel_rfl
theorem vn4 (s:List (Int×Int×Int)):c8 (W8 4 s,VN4)=ajn ajp:=by kernel_rfl
theorem vs8 {w:WT} (U:WX w) (hb:VL w):eR w=ajn ajp:=by
 have hv:=U.v;have hs:=U.s;have ht:=hb.t0;unfold Zn at hv;refine co ?_;unfold eR jO Prod.p2 Prod.p3 Prod.p5 Prod.q5 bk ik bw aP cu ax ca;refine iY w.2.2.2.2.2.length (by omega) (λi x=>∃ t n:Int,x=((t,n,(i:Int)),w)/\Jr w.2.2.2.2.1.length (w.2.2.2.2.2.take i)=ajn (t,n)/\0<=t/\t<w.2.2.2.2.1.length/\0<=n/\n<=i) ?_ ?_ ⟨0,0,rfl,rfl,by omega,by omega,by omega,by omega⟩
 ·rintro i x hi ⟨t,n,rfl,h1,t0,t1,n0,n1⟩;refine aI (λ_=>?_) λg=>(by dsimp only[ai] at g;omega)
  refine aB (by dsimp only;omega) (by dsimp only;omega) (aM ?_);have I:=Uc hv (i+1);have J:Jr w.2.2.2.2.1.length (w.2.2.2.2.2.take (i+1))=Rd w.2.2.2.2.1.length (ajn (t,n)) (aD (T:=wB) w.2.2.2.2.2 (i:Int)):=by rw[Gp hi,h1]
  rw[J] at I;dsimp only;revert I J;change _->_->Ok _ _;generalize aD (T:=wB) w.2.2.2.2.2 (i:Int)=z;intro I J;obtain⟨(a:Int),(b:Int),(c:Int)⟩:=z;have Z:(a=t/\b=n)\/(t<a/\a<w.2.2.2.2.1.length/\b=0):=by
   simp only[Rd] at I;split at I
   ·rename_i h;exact .inl h
   ·split at I
    ·rename_i h;exact .inr h
    ·exact (I rfl).elim
  refine aQ (λx=>x=(ajq,w,a,b,c)) ?_ ?_
  ·refine aI (λg=>(by dsimp only at g;omega)) λ_=>ah ?_
   dsimp only;rw[kP.2 (by dsimp only[ai];omega)]
  rintro x rfl;refine eZ ?_;rcases Z with ⟨rfl,rfl⟩|⟨Y,M,rfl⟩
  ·refine aQ (λx=>x=((a,b),w,a,b,c)) (aI (λg=>(by dsimp only at g;omega)) λ_=>ah rfl) ?_;rintro x rfl;refine bN (λg=>(g rfl).elim) λ_=>ah ⟨a,b+1,?_,?_,t0,t1,by omega,by omega⟩
   ·dsimp only;rw[gK (n:=b+1) (by omega) (by omega),go (by omega)]
   ·rw[J];simp[Rd]
  ·refine aQ (λx=>x=((a,0),w,a,0,c)) (aI (λ_=>ah rfl) λg=>(by dsimp only at g;omega)) ?_;rintro x rfl;refine bN (λg=>(g rfl).elim) λ_=>ah ⟨a,1,?_,?_,by omega,M,by omega,by omega⟩
   ·dsimp only;rw[gK (n:=0+1) (by omega) (by omega),go (by omega)];rfl
   ·rw[J];show (if a=t/\(0:Int)=n then ajn (t,n+1) else if t<a/\a<_/\(0:Int)=0 then ajn (a,1) else ajo)=ajn (a,1);rw[if_neg (by omega),if_pos ⟨Y,M,rfl⟩]
 ·rintro x ⟨t,n,rfl,_⟩;exact aI (λg=>(by dsimp only[ai] at g;omega)) λ_=>ah rfl
theorem VW8 {w:WT} (M:WX w) (hb:VL w):c9 w=ajn ajp:=by
 have hs:=vs8 M hb;have hvn:c8 (w,VN4)=ajn ajp:=by
  obtain⟨n,hn,e⟩:=M.w8;rw[e];rcases hn with rfl|rfl|rfl|rfl
  ·exact vn1 _
  ·exact vn2 _
  ·exact vn3 _
  ·exact vn4 _
 have hc:=M.c;have hd:=M.d;have hl:=M.l;obtain⟨w1,w2,w3,U,J,I⟩:=w;obtain⟨b1,b2,b3,b4,b0,Z,Y⟩:=hb;dsimp only at hc hd hl b1 b2 b3 b4 Z Y b0;subst hc;subst hd;subst hl;refine co ?_;unfold c9 jP Prod.p2 Prod.p3 Prod.p5 Prod.q5 bk bw aP cu ax ca;have f:∀ n m:Nat,n<=m->eX (m:Int) (aJ n)=ajq:=λn m h=>e9.2 (by dsimp only[ai];omega)
 refine aQ (λx=>x=(ajq,C0,E7,Kw,U,J,I)) ?_ ?_
 ·refine eM rfl (eM rfl (eM rfl (eM (f _ 2 b4) (ah ?_))));rw[show eX 60 (aJ (af I))=ajq from f _ 60 Y]
 rintro x rfl;refine eZ (aQ (λx=>x=(ajq,C0,E7,Kw,U,J,I)) ?_ ?_)
 ·refine eM (e9.2 (by dsimp only[ai];omega)) (ah ?_);rw[show eX 4 (aJ (af J))=ajq from f _ 4 Z]
 rintro x rfl;refine eZ (aN vc8 (aQ (λx=>x=(ajq,C0,E7,Kw,U,J,I)) ?_ ?_))
 ·exact eZ (aN hvn (ah rfl))
 rintro x rfl;refine eZ (iY 1 (by omega) (λi x=>x=((i:Int),C0,E7,Kw,U,J,I)) ?_ ?_ rfl)
 ·rintro i x hi rfl;have:i=0:=by omega
  subst this;refine eC rfl (aW rfl (aM (aN (x:=ajp) ?_ (eZ (ah rfl)))));rfl
 ·rintro x rfl;exact eM rfl (aN (x:=ajp) (by rw[hs];rfl) (ah rfl))
abbrev eN (l:List ET) (i:Nat):ET:=aD (T:=tE) l (i:Int)
theorem HY {l:List ET} {i:Nat} (h:i<l.length):eN l i∈l:=bx (T:=tE) (by omega) (by omega)
theorem aea {l:List ET} {e:ET} {i:Nat} (h:i<l.length):eN (l++[e]) i=eN l i:=by
 unfold eN;rw[xC,xC,au,au,bA h]
theorem aau (l:List ET) (e:ET):eN (l++[e]) l.length=e:=by
 unfold eN;rw[xC,au,bJ (bF _),Nat.sub_self];rfl
def U7 (w:WT) (l:List ET):SY×List Int×List Int:=l.foldl (λs e=>((uo w s.1 e.1 e.2.1 e.2.2.1 e.2.2.2.1).1,Ws s.2.1 e,Xr s.2.2 e)) (Nw w,YX w,ZN w)
theorem Zb (w:WT) {l:List ET} {i:Nat} (h:i<l.length):U7 w (l.take (i+1))=((uo w (U7 w (l.take i)).1 (eN l i).1 (eN l i).2.1 (eN l i).2.2.1 (eN l i).2.2.2.1).1,Ws (U7 w (l.take i)).2.1 (eN l i),Xr (U7 w (l.take i)).2.2 (eN l i)):=by
 rw[mQ (T:=tE) h];unfold U7;rw[eD];rfl
theorem ZS.all {w:WT} {l:List ET} {sy:SY} {ce fu:List Int} (h:ZS w l sy ce fu):U7 w l=(sy,ce,fu)/\∀ i,i<l.length->SCx w (l.take i) (U7 w (l.take i)).1 (U7 w (l.take i)).2.1 (U7 w (l.take i)).2.2 (eN l i):=by
 induction h with
 |nil=>exact⟨rfl,λi hi=>absurd hi (vC _)⟩
 |snoc h hs I=>
  rename_i l sy ce fu e;obtain⟨h1,J⟩:=I;refine ⟨by unfold U7 at h1 ⊢;rw[eD,h1];rfl,λi hi=>?_⟩;rw[bg,fw] at hi;rcases bI i l.length with g|g
  ·rw[ka (by omega),aea g];exact J i g
  ·have:i=l.length:=by omega
   subst this;rw[ka (bF _),cz,aau,h1];exact hs
theorem TR.sc {w:WT} {l:List ET} (I:TR (w,l)) {i:Nat} (h:i<l.length):SCx w (l.take i) (U7 w (l.take i)).1 (U7 w (l.take i)).2.1 (U7 w (l.take i)).2.2 (eN l i):=by
 obtain⟨sy,ce,fu,ac⟩:=I.ac;exact ac.all.2 i h
def Ny (w:WT) (l:List ET):HS:=l.foldl (λh e=>(KE w h (evP e)).1) (HS.zero w)
def vB (l:List ET) (i:Nat):EV:=evP (eN l i)
def IL (w:WT) (l:List ET) (i:Nat):List Int:=Cp w (Ny w (l.take i)) (vB l i)
theorem Hf (w:WT) {l:List ET} {i:Nat} (h:i<l.length):Ny w (l.take (i+1))=uW w (Ny w (l.take i)) (vB l i) (IL w l i):=by
 rw[mQ (T:=tE) h];unfold Ny;rw[eD];rfl
theorem Mo {w:WT} {l:List ET} (I:TR (w,l)):∀ i:Nat,i<=l.length->W9 (i:Int) (Ny w (l.take i))/\Fit w (Ny w (l.take i))
 |0,_=>by
  have wb:=I.wb;dsimp only at wb;exact⟨HS.zero_ok (by have:=wb.c;omega) (by have:=wb.l;omega) (by have:=wb.f;omega) (by have:=wb.t;omega),Fit.zero w⟩
 |i+1,h=>by
  obtain⟨o,J⟩:=Mo I i (by omega);have hl:=I.len;dsimp only at hl;have ok:=YH (I.ev _ (HY (l:=l) (i:=i) (by omega))) I.wb J;rw[Hf w (by omega)];exact⟨XI (w:=w) (e:=vB l i) o (by omega) ok.th4,J.step (vB l i)⟩
theorem Sn {w:WT} {l:List ET} (I:TR (w,l)) {i:Nat} (h:i<l.length):EOK w (Ny w (l.take i)) (vB l i):=YH (I.ev _ (HY h)) I.wb (Mo I i (by omega)).2
theorem ahg {w:WT} {l:List ET} (I:TR (w,l)) {i:Nat} (h:i<l.length):EvT (vB l i) (eN l i):=ahf (I.ev _ (HY h))
theorem aef {w:WT} {l:List ET} (I:TR (w,l)) {i:Nat} (h:i<l.length):En ((i:Int)+1) (IL w l i):=Tg (Mo I i (by omega)).1 (Sn I h).th4
def LE (a b:List Int):Prop:=a.length<=b.length/\∀ k,a.getD k 0<=b.getD k 0
theorem LE.refl (a:List Int):LE a a:=⟨bF _,λ_=>dX _⟩
theorem LE.trans {a b c:List Int} (h:LE a b) (g:LE b c):LE a c:=⟨cM h.1 g.1,λk=>Int.le_trans (h.2 k) (g.2 k)⟩
theorem LE.jl {a b:List Int} (h:LE a b):jl a b=b:=Vv (by rw[yw];have:=h.1;omega) λi=>by rw[C7,xy];have:=h.2 i;omega
theorem air (a b:List Int):LE a (jl a b):=⟨by rw[yw];omega,λk=>by rw[C7,xy];omega⟩
theorem LE_r (a b:List Int):LE b (jl a b):=⟨by rw[yw];omega,λk=>by rw[C7,xy];omega⟩
theorem adm (a:List Int) (t:Nat):LE a (tk a t):=⟨by rw[KA];omega,λk=>by rw[Gk];split<;>(try subst k)<;>omega⟩
theorem Nt:∀ (l:List (List Int)) (c:List Int),LE c (l.foldl jl c)
 |[],c=>LE.refl c
 |x::r,c=>(air c x).trans (Nt r _)
theorem ahk (w:E6) (h:HS) (e:EV):LE (h.T.getD e.th []) (Cp w h e):=(Nt _ _).trans (adm _ _)
theorem O3 {α:Type} (l:List α) (i j:Nat) (x d:α):(l.set i x).getD j d=if i=j/\i<l.length then x else l.getD j d:=by
 rw[au,rG];by_cases e:i=j
 ·subst e;by_cases g:i<l.length
  ·rw[if_pos rfl,if_pos g,if_pos ⟨rfl,g⟩];rfl
  ·rw[if_pos rfl,if_neg g,if_neg λq=>g q.2,au,bB (by omega)]
 ·rw[if_neg e,if_neg λq=>e q.1,au]
structure nF (P:List Int->Prop) (h:HS):Prop where
 T:∀ u,P (h.T.getD u [])
 S:∀ u,P (h.S.getD u [])
 L:∀ u,P (h.L.getD u [])
 R:∀ u,P (h.R.getD u [])
 C:∀ u,P (h.C.getD u [])
 F:∀ u,P (h.F.getD u [])
 X:P h.X
 N:∀ u,P (h.N.getD u [])
theorem nF.mono {P Q:List Int->Prop} {h:HS} (a:nF P h) (g:∀ x,P x->Q x):nF Q h:=⟨λu=>g _ (a.T u),λu=>g _ (a.S u),λu=>g _ (a.L u),λu=>g _ (a.R u),λu=>g _ (a.C u),λu=>g _ (a.F u),g _ a.X,λu=>g _ (a.N u)⟩
theorem nF.set {P:List Int->Prop} {l:List (List Int)} {c:List Int} (h:∀ u,P (l.getD u [])) (hc:P c) (i:Nat):∀ u,P ((l.set i c).getD u []):=λu=>by
 rw[O3];split
 ·exact hc
 ·exact h u
theorem nF.repl {P:List Int->Prop} (h:P []) (n:Nat):∀ u,P ((ay n []).getD u []):=λu=>by
 rw[au,pE];split<;>exact h
theorem nF.zero {P:List Int->Prop} (h:P []) (w:E6):nF P (HS.zero w):=⟨nF.repl h _,nF.repl h _,nF.repl h _,nF.repl h _,nF.repl h _,nF.repl h _,h,nF.repl h _⟩
theorem nF.step {P:List Int->Prop} (hj:∀ a b,P a->P b->P (jl a b)) {w:E6} {h:HS} (a:nF P h) (e:EV) {c:List Int} (hc:P c):nF P (uW w h e c):=by
 have b:nF P {h with T:=h.T.set e.th c}:={a with T:=nF.set a.T hc _}
 unfold uW;simp only[];repeat' split
 ·exact {b with S:=nF.set a.S hc _}
 ·exact {b with L:=nF.set a.L (hj _ _ (a.L _) hc) _}
 ·exact {b with R:=nF.set a.R (hj _ _ (a.R _) hc) _}
 ·exact {b with L:=nF.set a.L (hj _ _ (a.L _) hc) _}
 ·exact {b with C:=nF.set a.C (hj _ _ (a.C _) hc) _}
 ·exact b
 ·exact {b with F:=nF.set a.F (hj _ _ (a.F _) hc) _}
 ·exact {b with X:=hj _ _ a.X hc}
 ·exact {b with N:=nF.set a.N hc _}
 ·exact b
 ·refine {b with N:=λu=>?_};have:=a.N u;simp only[AQ];rw[au] at this ⊢;rw[List.getElem?_mapIdx];cases I:h.N[u]? with
  |none=>rw[I] at this;exact this
  |some x=>
   rw[I] at this;simp only[bO,tm];split
   ·exact hc
   ·exact this
 ·exact b
theorem nF.src {P:List Int->Prop} {w:E6} {h:HS} (a:nF P h) (e:EV):∀ x∈zP w h e,P x:=by
 intro c hc;unfold zP at hc;repeat' (split at hc)
 all_goals simp only[bc,bY,or_false] at hc
 ·subst hc;exact a.S _
 ·subst hc;exact a.T _
 ·rcases hc with rfl|rfl
  ·exact a.L _
  ·exact a.R _
 ·subst hc;exact a.L _
 ·rcases hc with rfl|rfl|rfl
  ·exact a.L _
  ·exact a.R _
  ·exact a.N _
 ·subst hc;exact a.C _
 ·subst hc;exact a.F _
 ·subst hc;exact a.X
theorem YE {P:List Int->Prop} (hj:∀ a b,P a->P b->P (jl a b)):∀ (l:List (List Int)) (c:List Int),P c->(∀ x∈l,P x)->P (l.foldl jl c)
 |[],_,hc,_=>hc
 |x::r,_,hc,h=>YE hj r _ (hj _ _ hc (h x (dg ..))) λy I=>h y (cA _ I)
theorem ahh (w:E6) (h:HS) (e:EV) (c:List Int):(uW w h e c).T=h.T.set e.th c:=by
 unfold uW;simp only[];repeat' split
 all_goals rfl
def Jt (l:List ET) (u:Nat):Nat->Nat
 |0=>0
 |i+1=>if (vB l i).th=u then Jt l u i+1 else Jt l u i
theorem Qm (l:List ET) (u i:Nat):∀ j,Jt l u i<=Jt l u (i+j)
 |0=>bF _
 |j+1=>by
  have:=Qm l u i j;show Jt l u i<=Jt l u (i+j+1);rw[Jt];split<;>omega
theorem Tc (l:List ET) (u:Nat) {i j:Nat} (h:i<=j):Jt l u i<=Jt l u j:=by
 obtain⟨k,rfl⟩:∃ k,j=i+k:=⟨j-i,by omega⟩
 exact Qm l u i k
theorem F6 (l:List ET) (i:Nat):Jt l (vB l i).th (i+1)=Jt l (vB l i).th i+1:=by rw[Jt,if_pos rfl]
structure Gd (w:WT) (l:List ET) (i:Nat) (x:List Int):Prop where
 le:∀ u,x.getD u 0<=(Jt l u i:Int)
 dn:∀ k,k<i->(Jt l (vB l k).th k:Int)+1<=x.getD (vB l k).th 0->LE (IL w l k) x
theorem Gd.nil (w:WT) (l:List ET) (i:Nat):Gd w l i []:=⟨λu=>by simp,λk _ h=>by simp at h;omega⟩
theorem Gd.jl {w:WT} {l:List ET} {i:Nat} (a b:List Int) (I:Gd w l i a) (hb:Gd w l i b):Gd w l i (jl a b):=by
 refine ⟨λu=>?_,λk hk h=>?_⟩
 ·rw[C7,xy];have:=I.le u;have:=hb.le u;omega
 ·rw[C7,xy] at h;by_cases g:(Jt l (vB l k).th k:Int)+1<=a.getD (vB l k).th 0
  ·exact (I.dn k hk g).trans (air _ _)
  ·exact (hb.dn k hk (by omega)).trans (LE_r _ _)
theorem Gd.succ {w:WT} {l:List ET} {i:Nat} {x:List Int} (h:Gd w l i x):Gd w l (i+1) x:=by
 refine ⟨λu=>?_,λk hk g=>?_⟩
 ·have:=h.le u;have:=Tc l u (show i<=i+1 by omega);omega
 ·by_cases e:k=i
  ·subst e;have:=h.le (vB l k).th;omega
  ·exact h.dn k (by omega) g
structure GS1 (w:WT) (l:List ET) (i:Nat) (h:HS):Prop where
 a:nF (Gd w l i) h
 t:∀ u,(h.T.getD u []).getD u 0=(Jt l u i:Int)
theorem M9 {w:WT} {l:List ET} {i:Nat} (g:GS1 w l i (Ny w (l.take i))):Gd w l (i+1) (IL w l i)/\(IL w l i).getD (vB l i).th 0=(Jt l (vB l i).th i:Int)+1:=by
 have J:Gd w l i ((zP w (Ny w (l.take i)) (vB l i)).foldl AI.jl ((Ny w (l.take i)).T.getD (vB l i).th [])):=YE Gd.jl _ _ (g.a.T _) (g.a.src (w:=w) _);have M:=g.t (vB l i).th;have hL:=Nt (zP w (Ny w (l.take i)) (vB l i)) ((Ny w (l.take i)).T.getD (vB l i).th []);have U:=(g.a.T (vB l i).th).dn;have I:=ahk w (Ny w (l.take i)) (vB l i);have e:(IL w l i).getD (vB l i).th 0=(Jt l (vB l i).th i:Int)+1:=by
  unfold IL Cp;rw[Gk,if_pos rfl];have:=hL.2 (vB l i).th;have:=J.le (vB l i).th;omega
 refine ⟨⟨λu=>?_,λk hk h=>?_⟩,e⟩
 ·by_cases hu:(vB l i).th=u
  ·subst hu;rw[e,F6];omega
  ·have:=J.le u;unfold IL Cp;rw[Gk,if_neg λq=>hu q.symm,Jt,if_neg hu];exact this
 ·by_cases hki:k=i
  ·subst hki;exact LE.refl _
  have hk:k<i:=by omega
  by_cases hu:(vB l k).th=(vB l i).th
  ·refine (U k hk ?_).trans I;rw[hu,M];have:=Tc l (vB l k).th (show k+1<=i from hk);rw[F6,hu] at this;omega
  ·refine (J.dn k hk ?_).trans (adm _ _);unfold IL Cp at h;rw[Gk,if_neg hu] at h;exact h
theorem Hg {w:WT} {l:List ET} (I:TR (w,l)):∀ i:Nat,i<=l.length->GS1 w l i (Ny w (l.take i))
 |0,_=>⟨nF.zero (Gd.nil w l 0) w,λu=>by have:=nF.repl (P:=λx=>x.getD u 0=0) (by simp) w.2.2.2.2.1.length u;exact this⟩
 |i+1,h=>by
  have g:=Hg I i (by omega);obtain⟨M,J⟩:=M9 g;have ht:=(Sn I (show i<l.length by omega)).th;rw[Hf w (by omega)];refine ⟨nF.step Gd.jl (g.a.mono λx h=>h.succ) _ M,λu=>?_⟩;rw[ahh,O3];by_cases hu:(vB l i).th=u
  ·subst hu;rw[if_pos ⟨rfl,ht⟩,J,F6];omega
  ·rw[if_neg λq=>hu q.1,g.t u,Jt,if_neg hu]
theorem UV {w:WT} {l:List ET} (I:TR (w,l)) {i:Nat} (h:i<l.length):(IL w l i).getD (vB l i).th 0=(Jt l (vB l i).th i:Int)+1:=(M9 (Hg I i (by omega))).2
theorem YU {w:WT} {l:List ET} (I:TR (w,l)) {i:Nat} (h:i<l.length):Gd w l (i+1) (IL w l i):=(M9 (Hg I i (by omega))).1
def Xs (w:WT) (l:List ET) (k j:Nat):Prop:=(Jt l (vB l k).th k:Int)+1<=(IL w l j).getD (vB l k).th 0
theorem Xs.le {w:WT} {l:List ET} (I:TR (w,l)) {k j:Nat} (hk:k<=j) (hj:j<l.length) (h:Xs w l k j):LE (IL w l k) (IL w l j):=(YU I hj).dn k (by omega) h
theorem Xs.of {w:WT} {l:List ET} (I:TR (w,l)) {k j:Nat} (hk:k<l.length) (h:LE (IL w l k) (IL w l j)):Xs w l k j:=by
 have:=h.2 (vB l k).th;rw[UV I hk] at this;exact this
theorem Xs.own {w:WT} {l:List ET} (I:TR (w,l)) {k j:Nat} (hk:k<j) (hj:j<l.length) (h:(vB l k).th=(vB l j).th):Xs w l k j:=by
 unfold Xs;rw[h,UV I hj];have:=Tc l (vB l k).th (show k+1<=j from hk);rw[F6,h] at this;omega
theorem Xs.trans {w:WT} {l:List ET} (I:TR (w,l)) {i j k:Nat} (hi:i<=j) (hj:j<=k) (hk:k<l.length) (h:Xs w l i j) (g:Xs w l j k):Xs w l i k:=Xs.of I (by omega) ((h.le I hi (by omega)).trans (g.le I hj hk))
def Q8 (r:List Int):Prop:=FH r/\∀ z∈r,0<=z/\z<4
def P8 (s:List (Int×List Int)):Prop:=∀ x∈s,Q8 x.2
theorem P8.get {s:List (Int×List Int)} (h:P8 s) (o:Int):Q8 (aD (T:=yH) s o).2:=by
 unfold aD;rw[au];cases e:s[o.toNat]? with
 |none=>exact⟨trivial,λz I=>by cases I⟩
 |some x=>exact h x (aS e)
theorem P8.set {s:List (Int×List Int)} (h:P8 s) (o a:Int) {r:List Int} (hr:Q8 r):P8 (cw s o (a,r)):=λx I=>by
 rcases AY I with I|rfl
 ·exact h x I
 ·exact hr
theorem AB (p:Int->Bool):∀ {l:List Int},FH l->FH (l.filter p)
 |[],_=>trivial
 |x::r,h=>by
  rw[List.filter_cons];split
  ·exact⟨λy I=>h.1 y ((DU.1 I).1),AB p h.2⟩
  ·exact AB p h.2
theorem P8.ite {c:Prop} [Decidable c] {a b:SY×Int} (I:P8 a.1.1) (hb:P8 b.1.1):P8 (if c then a else b).1.1:=by by_cases h:c<;>simp[h,I,hb]
theorem P8.ap {w:WT} {s:SY} (h:P8 s.1) {t:Int} (k o v:Int) (t0:0<=t) (J:t<4):P8 (uo w s t k o v).1.1:=by
 have ow:∀ a b,P8 (owP s.1 a b):=λa b=>h.set a b (h.get a)
 have un:P8 (rdP s.1 o (vE (aD (T:=yH) s.1 o).2 [t])):=h.set _ _ ⟨NH _ _,λz I=>by
  rcases Gj.1 I with I|I
  ·exact (h.get o).2 z I
  ·rw[aF] at I;subst I;exact⟨t0,J⟩⟩
 have wt:P8 (rdP s.1 o (wo (aD (T:=yH) s.1 o).2 t)):=h.set _ _ ⟨AB _ (h.get o).1,λz I=>(h.get o).2 z (DU.1 I).1⟩;unfold uo;exact P8.ite h (P8.ite h (P8.ite (ow _ _) (P8.ite (ow _ _) (P8.ite un (P8.ite wt (P8.ite h (P8.ite h (P8.ite h (P8.ite h (P8.ite (ow _ _) (P8.ite (ow _ _) (P8.ite (P8.ite h h) (P8.ite h (P8.ite h (P8.ite h h)))))))))))))))
def gG (w:WT) (l:List ET):SN:=l.foldl (ZL w) (sn8 w)
theorem KF (w:WT) {l:List ET} {i:Nat} (h:i<l.length):gG w (l.take (i+1))=ZL w (gG w (l.take i)) (eN l i):=by
 rw[mQ (T:=tE) h];unfold gG;rw[eD];rfl
structure K8 (w:WT) (l:List ET) (i:Nat) (s:SN):Prop where
 a:(s.1,s.2.1,s.2.2.1)=U7 w (l.take i)
 r:P8 s.1.1
 c:s.2.1.length=w.1.length
 f:s.2.2.1.length=w.2.2.2.1.length
 k:s.2.2.2.length=w.2.2.2.2.1.length
 n:CN (l.take i) s.2.2.2
theorem T9 {w:WT} {l:List ET} (I:TR (w,l)):∀ i:Nat,i<=l.length->K8 w l i (gG w (l.take i))
 |0,_=>⟨rfl,λx M=>by rw[vz M];exact⟨trivial,λz J=>by cases J⟩,by simp[gG,YX],by simp[gG,ZN],by simp[gG],λt t0 t1=>by
   have:(ay w.2.2.2.2.1.length (0:Int)).getD t.toNat 0=0:=by rw[au,pE];split<;>rfl
   exact this⟩
 |i+1,h=>by
  obtain⟨a,r,c,f,k,n⟩:=T9 I i (by omega);have sc:=I.sc (i:=i) (by omega);have hl:=I.len;have ht:=I.wb.t;dsimp only at hl ht;have en:=sc.en;have e1:=en.t1;have htk:=oP i l;rw[KF w (by omega)];refine ⟨?_,r.ap _ _ _ en.t0 (by omega),?_,?_,?_,?_⟩
  ·rw[Zb w (by omega),<-a];rfl
  ·unfold ZL Ws;dsimp only;split
   ·rw[bG];exact c
   ·exact c
  ·unfold ZL Xr;dsimp only;split
   ·rw[bG];exact f
   ·exact f
  ·unfold ZL;rw[bG];exact k
  ·have:=n.next (eN l i) en.t0 (by rw[k];exact e1) (by omega);rw[mQ (T:=tE) (show i<l.length by omega)];exact this
theorem LW {w:WT} {l:List ET} (I:TR (w,l)) {i:Nat} (hi:i<l.length):eK (w,gG w (l.take i),eN l i)=ajn (gG w (l.take (i+1)),ajp):=by
 obtain⟨a,r,c,f,k,n⟩:=T9 I i (by omega);have sc:=I.sc hi;have J:=I.wx;have ht:=I.wb.t;have hls:=I.ls _ (HY hi);dsimp only at J ht hls;rw[KF w hi];rw[<- a] at sc;generalize gG w (l.take i)=s at*
 generalize eN l i=e at*
 have en:=sc.en;have e1:=en.t1;have l3:w.2.1.length=3:=by rw[J.l];rfl
 have M:=n e.1 en.t0 (by rw[k];exact e1);have b1:=I.wb.c;have b4:=I.wb.f;have b3:=I.wb.d;dsimp only at b1 b4 b3;have Z:=en.e1;have Y:=en.e2;have q3:=en.e3;dsimp only at Z Y q3;refine ai7 (n:=4) w s e ⟨⟨by omega,by omega,λx U=>?_,by omega,by omega⟩,by omega,by omega,by omega⟩ (by omega) (by omega) ⟨c,f,k⟩ en ⟨sc.rd,sc.s1,sc.s2,sc.de,sc.fr,by rw[M];exact sc.nd,by rw[M];exact sc.nf,sc.va⟩ hls.1 hls.2 (λh=>?_) (by omega) r (by omega)
 ·have:=Ni x.2 0 4 (r x U).1 (r x U).2;omega
 ·have o1:=en.nm.lk (by omega);have o2:=en.nm.rw (by omega);generalize e.2.2.1=o at o1 o2;rw[J.l] at o1 o2;have:o=0\/o=1\/o=2:=by have:E7.length=3:=rfl;omega
  rcases this with rfl|rfl|rfl
  ·cases o2
  ·cases o2
  ·rfl
abbrev fN (l:List ET) (i:Nat) (t:Int):List Bool:=fl (l.take i) t
theorem MI {l:List ET} {i:Nat} (h:i<l.length) {t:Int} (e:(eN l i).1=t):fN l (i+1) t=fN l i t++[rH (eN l i)]:=by
 unfold fN;rw[mQ (T:=tE) h,sT,xG e]
theorem MJ {l:List ET} {i:Nat} (h:i<l.length) {t:Int} (e:¬(eN l i).1=t):fN l (i+1) t=fN l i t:=by
 unfold fN;rw[mQ (T:=tE) h,sT,uU e,kF]
theorem FP {w:WT} {l:List ET} (I:TR (w,l)) {i:Nat} (hi:i<l.length) {t:Int} (e:(eN l i).1=t):bQ (fN l i t,eN l i)=ajn ajp:=by
 have sc:=I.sc hi;have hls:=I.ls _ (HY hi);subst e;exact Ww _ _ sc.rd1 sc.rd2 hls.1 hls.2
theorem ML (l:List ET) (i:Nat) (t:Int):(fN l i t).length<=l.length:=cM (UF _ _) (List.length_take_le' ..)
theorem ZF {w:WT} {l:List ET} (I:TR (w,l)) (hn:w.2.2.2.2.1.length=4):dx (w,l)=ajn (0,0):=by
 have hl:=I.len;dsimp only at hl;refine co ?_;unfold dx iQ Prod.p2 Prod.p3 Prod.p4 Prod.p5 Prod.p6 Prod.p7 Prod.q3 Prod.q6 Prod.q7 Prod.q8 aX bk bn bw aP cu ax ca;refine eM (e9.2 (by dsimp only[ai];omega)) (aN (VW8 I.wx I.vl) (eZ (aN (AC I.wx) (aW (by show (cD 0 (aJ w.2.2.2.2.1.length)&&cD (aJ w.2.2.2.2.1.length) (aJ w.2.2.2.2.1.length)&&aT (aL (aJ w.2.2.2.2.1.length)) 24&&decide ((aJ w.2.2.2.2.1.length:Int)=4))=ajp;rw[hn];rfl) ?_))));refine iY l.length (by omega) (λi x=>x=((i:Int),(w,l),gG w (l.take i),fN l i 0,fN l i 1,fN l i 2,fN l i 3)) ?_ ?_ rfl
 ·rintro i x hi rfl;have e1:=(I.sc hi).en.t1;have e0:=(I.sc hi).en.t0;have st:=LW I hi;have fa:=λt=>ML l i t
  have rd:=λt=>FP I hi (t:=t)
  have own:=λt=>MI hi (t:=t)
  have oth:=λt=>MJ hi (t:=t)
  refine aI (λ_=>?_) λg=>(by dsimp only[ai] at g;omega)
  refine aB (by dsimp only;omega) (by dsimp only;omega) (aM ?_);have ht:(eN l i).1=0\/(eN l i).1=1\/(eN l i).1=2\/(eN l i).1=3:=by omega
  have hg:aD (T:=tE) l (i:Int)=eN l i:=rfl;dsimp only;rw[hg];generalize eN l i=e at*
  refine aN st ?_;obtain⟨(t:Int),e⟩:=e;dsimp only at ht;rcases ht with rfl|rfl|rfl|rfl
  ·refine aQ (λx=>x=(ajq,(w,l),gG w (l.take i),(0,e),gG w (l.take (i+1)),fN l i 0,fN l i 1,fN l i 2,fN l i 3)) ?_ ?_
   ·simp only[aO,bd,decide_true,decide_false,oN,oK,re,rz,nM,ry,aY,aV];exact aN (rd 0 rfl) (ah rfl)
   rintro x rfl;refine eZ (aQ (λx=>x=((w,l),gG w (l.take i),gG w (l.take (i+1)),fN l (i+1) 0,fN l (i+1) 1,fN l (i+1) 2,fN l (i+1) 3)) ?_ ?_)
   ·simp only[aO,bd,decide_true,decide_false,oN,oK,re,rz,nM,ry,aY,aV];rw[own 0 rfl,oth 1 (by show ¬(0:Int)=1;decide),oth 2 (by show ¬(0:Int)=2;decide),oth 3 (by show ¬(0:Int)=3;decide)];have:=fa 0;refine aE (λh=>ba (by simp;omega) (by omega) (ah ?_)) λh=>ba (by simp;omega) (by omega) (ah ?_)
    ·have:rH (0,e)=ajp:=by unfold rH;rw[decide_eq_true h];rfl
     rw[this]
    ·have:rH (0,e)=decide (e.1=23):=by unfold rH;rw[decide_eq_false h];rfl
     rw[this]
   rintro x rfl;exact ah (by rw[go (by omega)])
  ·refine aQ (λx=>x=(ajq,(w,l),gG w (l.take i),(1,e),gG w (l.take (i+1)),fN l i 0,fN l i 1,fN l i 2,fN l i 3)) ?_ ?_
   ·simp only[aO,bd,decide_true,decide_false,oN,oK,re,rz,nM,ry,aY,aV];exact aN (rd 1 rfl) (ah rfl)
   rintro x rfl;refine eZ (aQ (λx=>x=((w,l),gG w (l.take i),gG w (l.take (i+1)),fN l (i+1) 0,fN l (i+1) 1,fN l (i+1) 2,fN l (i+1) 3)) ?_ ?_)
   ·simp only[aO,bd,decide_true,decide_false,oN,oK,re,rz,nM,ry,aY,aV];rw[own 1 rfl,oth 0 (by show ¬(1:Int)=0;decide),oth 2 (by show ¬(1:Int)=2;decide),oth 3 (by show ¬(1:Int)=3;decide)];have:=fa 1;refine aE (λh=>ba (by simp;omega) (by omega) (ah ?_)) λh=>ba (by simp;omega) (by omega) (ah ?_)
    ·have:rH (1,e)=ajp:=by unfold rH;rw[decide_eq_true h];rfl
     rw[this]
    ·have:rH (1,e)=decide (e.1=23):=by unfold rH;rw[decide_eq_false h];rfl
     rw[this]
   rintro x rfl;exact ah (by rw[go (by omega)])
  ·refine aQ (λx=>x=(ajq,(w,l),gG w (l.take i),(2,e),gG w (l.take (i+1)),fN l i 0,fN l i 1,fN l i 2,fN l i 3)) ?_ ?_
   ·simp only[aO,bd,decide_true,decide_false,oN,oK,re,rz,nM,ry,aY,aV];exact aN (rd 2 rfl) (ah rfl)
   rintro x rfl;refine eZ (aQ (λx=>x=((w,l),gG w (l.take i),gG w (l.take (i+1)),fN l (i+1) 0,fN l (i+1) 1,fN l (i+1) 2,fN l (i+1) 3)) ?_ ?_)
   ·simp only[aO,bd,decide_true,decide_false,oN,oK,re,rz,nM,ry,aY,aV];rw[own 2 rfl,oth 0 (by show ¬(2:Int)=0;decide),oth 1 (by show ¬(2:Int)=1;decide),oth 3 (by show ¬(2:Int)=3;decide)];have:=fa 2;refine aE (λh=>ba (by simp;omega) (by omega) (ah ?_)) λh=>ba (by simp;omega) (by omega) (ah ?_)
    ·have:rH (2,e)=ajp:=by unfold rH;rw[decide_eq_true h];rfl
     rw[this]
    ·have:rH (2,e)=decide (e.1=23):=by unfold rH;rw[decide_eq_false h];rfl
     rw[this]
   rintro x rfl;exact ah (by rw[go (by omega)])
  ·refine aQ (λx=>x=(ajq,(w,l),gG w (l.take i),(3,e),gG w (l.take (i+1)),fN l i 0,fN l i 1,fN l i 2,fN l i 3)) ?_ ?_
   ·simp only[aO,bd,decide_true,decide_false,oN,oK,re,rz,nM,ry,aY,aV];exact aN (rd 3 rfl) (ah rfl)
   rintro x rfl;refine eZ (aQ (λx=>x=((w,l),gG w (l.take i),gG w (l.take (i+1)),fN l (i+1) 0,fN l (i+1) 1,fN l (i+1) 2,fN l (i+1) 3)) ?_ ?_)
   ·simp only[aO,bd,decide_true,decide_false,oN,oK,re,rz,nM,ry,aY,aV];rw[own 3 rfl,oth 0 (by show ¬(3:Int)=0;decide),oth 1 (by show ¬(3:Int)=1;decide),oth 2 (by show ¬(3:Int)=2;decide)];have:=fa 3;refine aE (λh=>ba (by simp;omega) (by omega) (ah ?_)) λh=>ba (by simp;omega) (by omega) (ah ?_)
    ·have:rH (3,e)=ajp:=by unfold rH;rw[decide_eq_true h];rfl
     rw[this]
    ·have:rH (3,e)=decide (e.1=23):=by unfold rH;rw[decide_eq_false h];rfl
     rw[this]
   rintro x rfl;exact ah (by rw[go (by omega)])
 ·rintro x rfl;exact aI (λg=>(by dsimp only[ai] at g;omega)) λ_=>ah rfl
theorem DQ {w:WT} {l:List ET} (I:TR (w,l)) (hn:¬w.2.2.2.2.1.length=4):dx (w,l)=ajo:=by
 have hl:=I.len;dsimp only at hl;unfold dx iQ Prod.p2 Prod.p3 Prod.p4 Prod.p5 Prod.p6 Prod.p7 Prod.q3 Prod.q6 Prod.q7 Prod.q8 aX bk bn bw aP cu ax ca;rw[show eX 400 (aJ (af (w,l).2))=ajq from e9.2 (by dsimp only[ai];omega)];simp only[aO,bd,decide_true,decide_false,oN,oK,re,rz,nM,ry,aY,aV];rw[VW8 I.wx I.vl];simp only[aO,bd,decide_true,decide_false,oN,oK,re,rz,nM,ry,aY,aV];rw[AC I.wx];simp only[aO,bd,decide_true,decide_false,oN,oK,re,rz,nM,ry,aY,aV];rw[show decide ((aJ w.2.2.2.2.1.length:Int)=4)=ajq from decide_eq_false (by dsimp only[ai];omega),Bool.and_false];rfl
theorem ZG {w:WT} {l:List ET} (I:TR (w,l)) (hn:w.2.2.2.2.1.length=3):c6 (w,l)=ajn (0,0):=by
 have hl:=I.len;dsimp only at hl;refine co ?_;unfold c6 iR Prod.p2 Prod.p3 Prod.p4 Prod.p5 Prod.p6 Prod.q3 Prod.q5 Prod.q6 Prod.q7 aX bk bn bw aP cu ax ca;refine eM (e9.2 (by dsimp only[ai];omega)) (aN (VW8 I.wx I.vl) (eZ (aN (AC I.wx) (aW (by show (cD 0 (aJ w.2.2.2.2.1.length)&&cD (aJ w.2.2.2.2.1.length) (aJ w.2.2.2.2.1.length)&&aT (aL (aJ w.2.2.2.2.1.length)) 24&&decide ((aJ w.2.2.2.2.1.length:Int)=3))=ajp;rw[hn];rfl) ?_))));refine iY l.length (by omega) (λi x=>x=((i:Int),(w,l),gG w (l.take i),fN l i 0,fN l i 1,fN l i 2)) ?_ ?_ rfl
 ·rintro i x hi rfl;have e1:=(I.sc hi).en.t1;have e0:=(I.sc hi).en.t0;have st:=LW I hi;have fa:=λt=>ML l i t
  have rd:=λt=>FP I hi (t:=t)
  have own:=λt=>MI hi (t:=t)
  have oth:=λt=>MJ hi (t:=t)
  refine aI (λ_=>?_) λg=>(by dsimp only[ai] at g;omega)
  refine aB (by dsimp only;omega) (by dsimp only;omega) (aM ?_);have ht:(eN l i).1=0\/(eN l i).1=1\/(eN l i).1=2:=by omega
  have hg:aD (T:=tE) l (i:Int)=eN l i:=rfl;dsimp only;rw[hg];generalize eN l i=e at*
  refine aN st ?_;obtain⟨(t:Int),e⟩:=e;dsimp only at ht;rcases ht with rfl|rfl|rfl
  ·refine aQ (λx=>x=(ajq,(w,l),gG w (l.take i),(0,e),gG w (l.take (i+1)),fN l i 0,fN l i 1,fN l i 2)) ?_ ?_
   ·simp only[aO,bd,decide_true,decide_false,oN,oK,re,rz,nM,ry,aY,aV];exact aN (rd 0 rfl) (ah rfl)
   rintro x rfl;refine eZ (aQ (λx=>x=((w,l),gG w (l.take i),gG w (l.take (i+1)),fN l (i+1) 0,fN l (i+1) 1,fN l (i+1) 2)) ?_ ?_)
   ·simp only[aO,bd,decide_true,decide_false,oN,oK,re,rz,nM,ry,aY,aV];rw[own 0 rfl,oth 1 (by show ¬(0:Int)=1;decide),oth 2 (by show ¬(0:Int)=2;decide)];have:=fa 0;refine aE (λh=>ba (by simp;omega) (by omega) (ah ?_)) λh=>ba (by simp;omega) (by omega) (ah ?_)
    ·have:rH (0,e)=ajp:=by unfold rH;rw[decide_eq_true h];rfl
     rw[this]
    ·have:rH (0,e)=decide (e.1=23):=by unfold rH;rw[decide_eq_false h];rfl
     rw[this]
   rintro x rfl;exact ah (by rw[go (by omega)])
  ·refine aQ (λx=>x=(ajq,(w,l),gG w (l.take i),(1,e),gG w (l.take (i+1)),fN l i 0,fN l i 1,fN l i 2)) ?_ ?_
   ·simp only[aO,bd,decide_true,decide_false,oN,oK,re,rz,nM,ry,aY,aV];exact aN (rd 1 rfl) (ah rfl)
   rintro x rfl;refine eZ (aQ (λx=>x=((w,l),gG w (l.take i),gG w (l.take (i+1)),fN l (i+1) 0,fN l (i+1) 1,fN l (i+1) 2)) ?_ ?_)
   ·simp only[aO,bd,decide_true,decide_false,oN,oK,re,rz,nM,ry,aY,aV];rw[own 1 rfl,oth 0 (by show ¬(1:Int)=0;decide),oth 2 (by show ¬(1:Int)=2;decide)];have:=fa 1;refine aE (λh=>ba (by simp;omega) (by omega) (ah ?_)) λh=>ba (by simp;omega) (by omega) (ah ?_)
    ·have:rH (1,e)=ajp:=by unfold rH;rw[decide_eq_true h];rfl
     rw[this]
    ·have:rH (1,e)=decide (e.1=23):=by unfold rH;rw[decide_eq_false h];rfl
     rw[this]
   rintro x rfl;exact ah (by rw[go (by omega)])
  ·refine aQ (λx=>x=(ajq,(w,l),gG w (l.take i),(2,e),gG w (l.take (i+1)),fN l i 0,fN l i 1,fN l i 2)) ?_ ?_
   ·simp only[aO,bd,decide_true,decide_false,oN,oK,re,rz,nM,ry,aY,aV];exact aN (rd 2 rfl) (ah rfl)
   rintro x rfl;refine eZ (aQ (λx=>x=((w,l),gG w (l.take i),gG w (l.take (i+1)),fN l (i+1) 0,fN l (i+1) 1,fN l (i+1) 2)) ?_ ?_)
   ·simp only[aO,bd,decide_true,decide_false,oN,oK,re,rz,nM,ry,aY,aV];rw[own 2 rfl,oth 0 (by show ¬(2:Int)=0;decide),oth 1 (by show ¬(2:Int)=1;decide)];have:=fa 2;refine aE (λh=>ba (by simp;omega) (by omega) (ah ?_)) λh=>ba (by simp;omega) (by omega) (ah ?_)
    ·have:rH (2,e)=ajp:=by unfold rH;rw[decide_eq_true h];rfl
     rw[this]
    ·have:rH (2,e)=decide (e.1=23):=by unfold rH;rw[decide_eq_false h];rfl
     rw[this]
   rintro x rfl;exact ah (by rw[go (by omega)])
 ·rintro x rfl;exact aI (λg=>(by dsimp only[ai] at g;omega)) λ_=>ah rfl
theorem LK {w:WT} {l:List ET} (I:TR (w,l)) (hn:¬w.2.2.2.2.1.length=3):c6 (w,l)=ajo:=by
 have hl:=I.len;dsimp only at hl;unfold c6 iR Prod.p2 Prod.p3 Prod.p4 Prod.p5 Prod.p6 Prod.q3 Prod.q5 Prod.q6 Prod.q7 aX bk bn bw aP cu ax ca;rw[show eX 400 (aJ (af (w,l).2))=ajq from e9.2 (by dsimp only[ai];omega)];simp only[aO,bd,decide_true,decide_false,oN,oK,re,rz,nM,ry,aY,aV];rw[VW8 I.wx I.vl];simp only[aO,bd,decide_true,decide_false,oN,oK,re,rz,nM,ry,aY,aV];rw[AC I.wx];simp only[aO,bd,decide_true,decide_false,oN,oK,re,rz,nM,ry,aY,aV];rw[show decide ((aJ w.2.2.2.2.1.length:Int)=3)=ajq from decide_eq_false (by dsimp only[ai];omega),Bool.and_false];rfl
theorem ZH {w:WT} {l:List ET} (I:TR (w,l)) (hn:w.2.2.2.2.1.length=2):cK (w,l)=ajn (0,0):=by
 have hl:=I.len;dsimp only at hl;refine co ?_;unfold cK iS Prod.p2 Prod.p3 Prod.p4 Prod.p5 Prod.q3 Prod.q4 Prod.q6 aX bk bn bw aP cu ax ca;refine eM (e9.2 (by dsimp only[ai];omega)) (aN (VW8 I.wx I.vl) (eZ (aN (AC I.wx) (aW (by show (cD 0 (aJ w.2.2.2.2.1.length)&&cD (aJ w.2.2.2.2.1.length) (aJ w.2.2.2.2.1.length)&&aT (aL (aJ w.2.2.2.2.1.length)) 24&&decide ((aJ w.2.2.2.2.1.length:Int)=2))=ajp;rw[hn];rfl) ?_))));refine iY l.length (by omega) (λi x=>x=((i:Int),(w,l),gG w (l.take i),fN l i 0,fN l i 1)) ?_ ?_ rfl
 ·rintro i x hi rfl;have e1:=(I.sc hi).en.t1;have e0:=(I.sc hi).en.t0;have st:=LW I hi;have fa:=λt=>ML l i t
  have rd:=λt=>FP I hi (t:=t)
  have own:=λt=>MI hi (t:=t)
  have oth:=λt=>MJ hi (t:=t)
  refine aI (λ_=>?_) λg=>(by dsimp only[ai] at g;omega)
  refine aB (by dsimp only;omega) (by dsimp only;omega) (aM ?_);have ht:(eN l i).1=0\/(eN l i).1=1:=by omega
  have hg:aD (T:=tE) l (i:Int)=eN l i:=rfl;dsimp only;rw[hg];generalize eN l i=e at*
  refine aN st ?_;obtain⟨(t:Int),e⟩:=e;dsimp only at ht;rcases ht with rfl|rfl
  ·refine aQ (λx=>x=(ajq,(w,l),gG w (l.take i),(0,e),gG w (l.take (i+1)),fN l i 0,fN l i 1)) ?_ ?_
   ·simp only[aO,bd,decide_true,decide_false,oN,oK,re,rz,nM,ry,aY,aV];exact aN (rd 0 rfl) (ah rfl)
   rintro x rfl;refine eZ (aQ (λx=>x=((w,l),gG w (l.take i),gG w (l.take (i+1)),fN l (i+1) 0,fN l (i+1) 1)) ?_ ?_)
   ·simp only[aO,bd,decide_true,decide_false,oN,oK,re,rz,nM,ry,aY,aV];rw[own 0 rfl,oth 1 (by show ¬(0:Int)=1;decide)];have:=fa 0;refine aE (λh=>ba (by simp;omega) (by omega) (ah ?_)) λh=>ba (by simp;omega) (by omega) (ah ?_)
    ·have:rH (0,e)=ajp:=by unfold rH;rw[decide_eq_true h];rfl
     rw[this]
    ·have:rH (0,e)=decide (e.1=23):=by unfold rH;rw[decide_eq_false h];rfl
     rw[this]
   rintro x rfl;exact ah (by rw[go (by omega)])
  ·refine aQ (λx=>x=(ajq,(w,l),gG w (l.take i),(1,e),gG w (l.take (i+1)),fN l i 0,fN l i 1)) ?_ ?_
   ·simp only[aO,bd,decide_true,decide_false,oN,oK,re,rz,nM,ry,aY,aV];exact aN (rd 1 rfl) (ah rfl)
   rintro x rfl;refine eZ (aQ (λx=>x=((w,l),gG w (l.take i),gG w (l.take (i+1)),fN l (i+1) 0,fN l (i+1) 1)) ?_ ?_)
   ·simp only[aO,bd,decide_true,decide_false,oN,oK,re,rz,nM,ry,aY,aV];rw[own 1 rfl,oth 0 (by show ¬(1:Int)=0;decide)];have:=fa 1;refine aE (λh=>ba (by simp;omega) (by omega) (ah ?_)) λh=>ba (by simp;omega) (by omega) (ah ?_)
    ·have:rH (1,e)=ajp:=by unfold rH;rw[decide_eq_true h];rfl
     rw[this]
    ·have:rH (1,e)=decide (e.1=23):=by unfold rH;rw[decide_eq_false h];rfl
     rw[this]
   rintro x rfl;exact ah (by rw[go (by omega)])
 ·rintro x rfl;exact aI (λg=>(by dsimp only[ai] at g;omega)) λ_=>ah rfl
theorem Xn {w:WT} {l:List ET} (I:TR (w,l)) (hn:¬w.2.2.2.2.1.length=2):cK (w,l)=ajo:=by
 have hl:=I.len;dsimp only at hl;unfold cK iS Prod.p2 Prod.p3 Prod.p4 Prod.p5 Prod.q3 Prod.q4 Prod.q6 aX bk bn bw aP cu ax ca;rw[show eX 400 (aJ (af (w,l).2))=ajq from e9.2 (by dsimp only[ai];omega)];simp only[aO,bd,decide_true,decide_false,oN,oK,re,rz,nM,ry,aY,aV];rw[VW8 I.wx I.vl];simp only[aO,bd,decide_true,decide_false,oN,oK,re,rz,nM,ry,aY,aV];rw[AC I.wx];simp only[aO,bd,decide_true,decide_false,oN,oK,re,rz,nM,ry,aY,aV];rw[show decide ((aJ w.2.2.2.2.1.length:Int)=2)=ajq from decide_eq_false (by dsimp only[ai];omega),Bool.and_false];rfl
theorem ZI {w:WT} {l:List ET} (I:TR (w,l)) (hn:w.2.2.2.2.1.length=1):dy (w,l)=ajn (0,0):=by
 have hl:=I.len;dsimp only at hl;refine co ?_;unfold dy ky Prod.p2 Prod.p3 Prod.p4 Prod.q3 Prod.q5 aX bk bn bw aP cu ax ca;refine eM (e9.2 (by dsimp only[ai];omega)) (aN (VW8 I.wx I.vl) (eZ (aN (AC I.wx) (aW (by show (cD 0 (aJ w.2.2.2.2.1.length)&&cD (aJ w.2.2.2.2.1.length) (aJ w.2.2.2.2.1.length)&&aT (aL (aJ w.2.2.2.2.1.length)) 24&&decide ((aJ w.2.2.2.2.1.length:Int)=1))=ajp;rw[hn];rfl) ?_))));refine iY l.length (by omega) (λi x=>x=((i:Int),(w,l),gG w (l.take i),fN l i 0)) ?_ ?_ rfl
 ·rintro i x hi rfl;have e1:=(I.sc hi).en.t1;have e0:=(I.sc hi).en.t0;have st:=LW I hi;have fa:=λt=>ML l i t
  have rd:=λt=>FP I hi (t:=t)
  have own:=λt=>MI hi (t:=t)
  have oth:=λt=>MJ hi (t:=t)
  refine aI (λ_=>?_) λg=>(by dsimp only[ai] at g;omega)
  refine aB (by dsimp only;omega) (by dsimp only;omega) (aM ?_);have ht:(eN l i).1=0:=by omega
  have hg:aD (T:=tE) l (i:Int)=eN l i:=rfl;dsimp only;rw[hg];generalize eN l i=e at*
  refine aN st ?_;obtain⟨(t:Int),e⟩:=e;dsimp only at ht;subst ht
  ·refine aQ (λx=>x=(ajq,(w,l),gG w (l.take i),(0,e),gG w (l.take (i+1)),fN l i 0)) ?_ ?_
   ·simp only[aO,bd,decide_true,decide_false,oN,oK,re,rz,nM,ry,aY,aV];exact aN (rd 0 rfl) (ah rfl)
   rintro x rfl;refine eZ (aQ (λx=>x=((w,l),gG w (l.take i),gG w (l.take (i+1)),fN l (i+1) 0)) ?_ ?_)
   ·simp only[aO,bd,decide_true,decide_false,oN,oK,re,rz,nM,ry,aY,aV];rw[own 0 rfl];have:=fa 0;refine aE (λh=>ba (by simp;omega) (by omega) (ah ?_)) λh=>ba (by simp;omega) (by omega) (ah ?_)
    ·have:rH (0,e)=ajp:=by unfold rH;rw[decide_eq_true h];rfl
     rw[this]
    ·have:rH (0,e)=decide (e.1=23):=by unfold rH;rw[decide_eq_false h];rfl
     rw[this]
   rintro x rfl;exact ah (by rw[go (by omega)])
 ·rintro x rfl;exact aI (λg=>(by dsimp only[ai] at g;omega)) λ_=>ah rfl
theorem agf {w:WT} {l:List ET} (I:TR (w,l)):lj (w,l)=ajn (0,0):=by
 have h1:=I.vl.t0;have J:=I.vl.t;dsimp only at h1 J;unfold lj;have:w.2.2.2.2.1.length=4\/w.2.2.2.2.1.length=3\/w.2.2.2.2.1.length=2\/w.2.2.2.2.1.length=1:=by omega
 rcases this with h|h|h|h
 ·rw[ZF I h];rfl
 ·rw[DQ I (by omega),ZG I h];rfl
 ·rw[DQ I (by omega),LK I (by omega),ZH I h];rfl
 ·rw[DQ I (by omega),LK I (by omega),Xn I (by omega),ZI I h];rfl
theorem NK {w:WT} {l:List ET} (I:TR (w,l)):mF w=ajn (HS.zero w).t:=by
 have wb:=I.wb;dsimp only at wb;exact Zl w (by have:=wb.c;unfold um;omega) (by have:=wb.l;unfold um;omega) (by have:=wb.f;unfold um;omega) (by have:=wb.t;unfold um;omega)
theorem T8 {w:WT} {l:List ET} (I:TR (w,l)) {i:Nat} (hi:i<l.length):pf (w,(Ny w (l.take i)).t,eN l i)=ajn ((Ny w (l.take (i+1))).t,IL w l i):=by
 have hl:=I.len;dsimp only at hl;have:=abp (Mo I i (by omega)).1 (by omega) (Sn I hi) (ahg I hi);rw[Hf w hi];exact this
def tA {α:Type} (n:Nat) (f:Nat->α) (z:α) (i:Nat):List α:=(eU n).map λk=>if k<i then f k else z
theorem XH {α:Type} (n:Nat) (f:Nat->α) (z:α) (i:Nat):(tA n f z i).length=n:=by simp[tA]
theorem adv {α:Type} {n:Nat} {f:Nat->α} {z:α} {i:Nat} (h:i<n):(tA n f z i).set i (f i)=tA n f z (i+1):=by
 unfold tA;apply cV
 ·simp
 intro k h1 I;simp only[qW,bV,nJ] at h1;rw[tB];simp only[pD,mm];by_cases e:i=k
 ·subst e;rw[if_pos rfl,if_pos (by omega)]
 ·rw[if_neg e];by_cases g:k<i
  ·rw[if_pos g,if_pos (by omega)]
  ·rw[if_neg g,if_neg (by omega)]
theorem ZW {α:Type} (n:Nat) (f:Nat->α) (z:α):tA n f z 0=ay n z:=by unfold tA;simp[List.map_const']
theorem adw {α:Type} (n:Nat) (f:Nat->α) (z:α):tA n f z n=(eU n).map f:=oO λk hk=>by rw[if_pos (ml.1 hk)]
abbrev csN (w:WT) (l:List ET):List (List Int):=(eU l.length).map (IL w l)
theorem aax {w:WT} {l:List ET} {i:Nat} (h:i<l.length):(csN w l).getD i []=IL w l i:=by
 rw[au,aU,List.getElem?_range h];rfl
theorem YK {w:WT} {l:List ET} {i:Nat} (h:i<l.length):aD (T:=.sl (.int .i64)) (csN w l) (i:Int)=IL w l i:=by rw[qi];exact aax h
theorem Xm {w:WT} {l:List ET} (I:TR (w,l)):mb (w,l)=ajn (csN w l,0):=by
 have hl:=I.len;dsimp only at hl;refine co ?_;unfold mb vW Prod.p2 Prod.q3 ck bk ik bn bw aP cu ax ca;refine aN (agf I) (eZ (aN (NK I) (cY (cY (dY (by dsimp only[ai];omega) (dY (by omega) (ba (by simp;omega) (by omega) ?_)))))));refine iY l.length (by omega) (λi x=>x=((i:Int),(w,l),(Ny w (l.take i)).t,tA l.length (IL w l) [] i)) ?_ ?_ ?_
 ·rintro i x hi rfl;refine aI (λ_=>?_) λg=>(by dsimp only[ai] at g;omega)
  refine aB (by dsimp only;omega) (by dsimp only;omega) (aM ?_);refine aN (T8 I hi) ?_;refine aB (by dsimp only;omega) (by dsimp only;rw[XH];omega) (aB (by dsimp only;omega) (by dsimp only;rw[XH];omega) (ah ?_));dsimp only;rw[go (by omega),fx,adv hi]
 ·rintro x rfl;refine aI (λg=>(by dsimp only[ai] at g;omega)) λ_=>ah ?_
  dsimp only;rw[adw]
 ·show _=_;rw[ZW];rfl
theorem abr {w:WT} {l:List ET} (I:TR (w,l)) {i:Nat} (hi:i<l.length):pR (IL w l i,IL w l i)=ajn ajp:=WP _ (aef I hi).lb
theorem Jh (a b c:List Int) (U:a.length<=9223372036854775807) (M:∀ z∈a,0<=z/\z<=255) (hc:c.length<=9223372036854775807) (J:∀ z∈c,0<=z/\z<=255) (haw:pe ()=ajn ajp):Ok (kM (a,b,c)) λy=>y=ajp:=by
 unfold kM bk ik bw aP cu ax ca;refine al (P:=TR) (Nn a b c 40 (by omega) (by omega) U M hc J) ?_;rintro⟨w,l⟩ I;have hl:=I.len;dsimp only at hl;refine aN (Xm I) (aQ (λx=>x=(ajq,w,l)) (eZ (ah ?_)) ?_)
 ·dsimp only;rw[bV,nJ,decide_eq_true rfl];rfl
 rintro x rfl;refine eZ (aN (NK I) ?_);refine bX l.length (λi x=>x=((i:Int),(w,l),(Ny w (l.take i)).t)) ?_ ?_ rfl
 ·rintro i x hi rfl;refine aI (λ_=>?_) λg=>(by dsimp only[ai] at g;omega)
  refine aB (by dsimp only;omega) (by dsimp only;omega) (aM ?_);refine aN (T8 I hi) (aB (by dsimp only;omega) (by dsimp only;simp;omega) (aM ?_));dsimp only;rw[YK hi];refine aN (abr I hi) (eZ (ah ?_));dsimp only;rw[go (by omega)]
 ·rintro x rfl;refine aI (λg=>(by dsimp only[ai] at g;omega)) λ_=>?_
  exact aN (x:=ajp) (by rw[haw];rfl) (ah rfl)
theorem Tz:pe ()=ajn ajp:=by kernel_rfl
theorem ep {φ:PM} {O:Nat->Prop} {w:World} {v u:Value} (h:cq φ O w (.f (.raw v)) u):u=v:=by
 cases h with
 |f h=>cases h;rfl
theorem sg (h:HF) (nw:HF):dQ h [] nw=h:=by funext t;simp[dQ]
theorem E0:∀ {l:List Value},IQ l=ajp->∀ v∈l,v.oneCell'=ajp
 |[],_,v,hv=>by cases hv
 |x::r,h,v,hv=>by
  simp only[IQ,aj] at h;rcases bc.1 hv with rfl|hv
  ·exact h.1
  ·exact E0 h.2 v hv
theorem Ta {φ:PM} {O:Nat->Prop} {w:World} (v:Value):cq φ O w (DB v) v:=by
 unfold DB;split
 ·rename_i vs;split
  ·rename_i h1;refine cq.agg (vs:=vs.toList) (by simp) (λx I=>?_) (λj x v I hv=>?_)
   ·obtain⟨u,hu,rfl⟩:=cO.1 I;exact E0 h1 u hu
   ·rw[aU,hv] at I;simp only[bO,aa] at I;subst I;exact .f (.raw _)
  ·exact .f (.raw _)
 ·exact .f (.raw _)
theorem rQ {φ:PM} {E:Nat->Prop} {h':HF} {w:World} {e:yf} {a:Act} {xs:Array Operand} (hrep:pM φ E h' w) (h:∀ t,.tmp t∈xs->∀ y,e.get t=ajn y->cq φ (tot E φ h') w y (a.tmps.getD t undef)) {x:Operand} {y:AV} (J:x∈xs) (I:lB e x=ajn y):cq φ (tot E φ h') w y (a.eval x):=by
 cases x with
 |tmp t=>exact h t J y I
 |const v=>simp only[lB,aa] at I;subst I;exact Ta v
 |func g=>
  simp only[lB,aa] at I;subst I;exact cq.clo (vs:=[]) (g:=g) (cells:=[]) rfl (by intro j x v J;simp at J)
 |global g=>
  simp only[lB] at I;cases hg:G g with
  |none=>rw[hg] at I;cases I
  |some cells=>rw[hg] at I;simp only[aa] at I;subst I;exact .f (hrep.gl g cells hg)
abbrev TQ (φ:PM) (E:Nat->Prop) (h':HF) (w:World) (a:Act) (e:yf) (o:Oper):Prop:=∀ x y,x∈o.op.operands->lB e x=ajn y->cq φ (tot E φ h') w y (a.eval x)
theorem fO.reads {P:Program} {o:Oper} {e:yf} {h:HF} {val:AV} {rd:List Nat} {nw:HF}
 (hv:∀ (φ:PM) (E:Nat->Prop) (h':HF) (w:World) (a:Act),(∀ i∈rd,h' i=h i)->TQ φ E h' w a e o->pM φ E h' w->
   ∃ v,(execOp a.eval o).run P w= .ok (.value v) w/\cq φ (tot E φ h') w val v):fO P o e.get h ⟨val,rd,[],nw,[]⟩:=by
 intro φ E h' w a h1 Z U I Y;obtain⟨v,r,rel⟩:=hv φ E h' w a h1 (λx y M J=>rQ I U M J) I;unfold FK;rw[r];refine ⟨v,φ,rfl,?_,λ_ _ h=>.inl h,?_,?_⟩<;>rw[sg]
 ·exact ie.refl _ _ _
 ·exact I
 ·exact rel
theorem cR {x:AV} {R:AD} (h:rv x=ajn R):R=⟨x,[],[],[],[]⟩:=by simp only[rv,aa] at h;exact h.symm
section pure
variable {P:Program} {o:Oper} {e:yf} {h:mP} {nx:Nat} {R:AD}
theorem aht {x:Operand} (I:o.op= .move x\/o.op= .assign x) (J:dO (.mv x) e h nx=ajn R):fO P o e.get h.get R.eff:=by
 simp only[dO] at J;split at J
 ·rename_i v hv;rw[cR J];exact fO.reads λφ E h' w a _ hop _=>⟨a.eval x,by unfold execOp;rcases I with I|I<;>rw[I]<;>rfl,hop x v (by rcases I with I|I<;>rw[I]<;>simp[Op.operands]) hv⟩
 ·cases J
theorem aes {c x y:Operand} (J:o.op= .pick c x y) (I:dO (.pick c x y) e h nx=ajn R):fO P o e.get h.get R.eff:=by
 simp only[dO] at I;split at I
 ·rename_i t hc;split at I
  ·rename_i v hv;rw[cR I];refine fO.reads λφ E h' w a _ hop _=>?_
   have hcv:=ep (hop c _ (by rw[J];simp[Op.operands]) hc);refine ⟨a.eval (if t then x else y),?_,hop _ v (by rw[J];cases t<;>simp[Op.operands]) hv⟩;unfold execOp;rw[J];simp only[hcv];cases t<;>rfl
  ·cases I
 ·cases I
theorem aet {x:Operand} (I:o.op= .nilCheck x) (J:dO (.nilc x) e h nx=ajn R):fO P o e.get h.get R.eff:=by
 simp only[dO] at J;split at J
 ·rename_i id off U;rw[cR J];refine fO.reads λφ E h' w a _ hop _=>?_
  have h1:=hop x _ (by rw[I];simp[Op.operands]) U;generalize M:a.eval x=z at h1;cases h1 with
  |ptr hφ=>exact⟨_,by unfold execOp;rw[I];simp only[M];rfl,.ptr hφ⟩
 ·rename_i cells off U;rw[cR J];refine fO.reads λφ E h' w a _ hop _=>?_
  have h1:=hop x _ (by rw[I];simp[Op.operands]) U;generalize M:a.eval x=z at h1;cases h1 with
  |f h1=>
   have Y:=h1;cases Y with
   |ptr _ _ b base us hO hb hcl hu hr=>exact⟨_,by unfold execOp;rw[I];simp only[M];rfl,.f h1⟩
 ·rename_i g cap U;rw[cR J];refine fO.reads λφ E h' w a _ hop _=>?_
  have h1:=hop x _ (by rw[I];simp[Op.operands]) U;generalize M:a.eval x=z at h1;cases h1 with
  |clo hl hr=>exact⟨_,by unfold execOp;rw[I];simp only[M];rfl,.clo hl hr⟩
 ·cases J
theorem ahr {x:Operand} {t:TypeId} (J:o.op= .unOp .not t x) (I:dO (.not x) e h nx=ajn R):fO P o e.get h.get R.eff:=by
 simp only[dO] at I;split at I
 ·rename_i b M;rw[cR I];refine fO.reads λφ E h' w a _ hop _=>?_
  have h1:=ep (hop x _ (by rw[J];simp[Op.operands]) M);exact⟨_,by unfold execOp;rw[J];simp only[h1];rfl,.f (.raw _)⟩
 ·cases I
theorem xh (k:IntKind) (n:Int):be k n=k.wrap n:=by
 rw[FM];unfold Kx;split
 ·split
  ·rename_i h;simp only[cD,aj,decide_eq_true_eq] at h;have:nK .i64 n=if n%18446744073709551616≥9223372036854775808 then n%18446744073709551616-18446744073709551616 else n%18446744073709551616:=by
    simp[nK,IntKind.bits,IntKind.signed]
   rw[this];split<;>omega
  ·rfl
 ·split
  ·rename_i h;simp only[cD,aj,decide_eq_true_eq] at h;have:nK .u8 n=n%256:=by
    simp[nK,IntKind.bits,IntKind.signed]
   rw[this];omega
  ·rfl
 ·rfl
theorem af1 {x:Operand} {s d:TypeId} {k M:IntKind} (J:o.op= .convert s d x) (hs:P.underlying s=ajn (.int M)) (hd:P.underlying d=ajn (.int k)) (I:dO (.conv k x) e h nx=ajn R):fO P o e.get h.get R.eff:=by
 simp only[dO] at I;split at I
 ·rename_i Y n U;rw[cR I];refine fO.reads λφ E h' w a _ hop _=>?_
  have h1:=ep (hop x _ (by rw[J];simp[Op.operands]) U);refine ⟨_,?_,.f (.raw _)⟩;unfold execOp;rw[J];simp[h1,convert,run_underlying hs,run_underlying hd,Conv.intToInt,xh]
 ·cases I
theorem Nf (a:ByteArray):a.toList=a.data.toList:=by
 first|exact ByteArray.toList_eq a|simp[ByteArray.toList]|rfl
theorem XN {op:BinOp} {t:TypeId} {u v r:Value} (hr:td op u v=ajn r) (x y:Operand) (w:World):
 (do eqGuard op t x y u v;binOp op t u v:Sem Value).run P w= .ok r w:=by
 unfold td at hr;split at hr
 ·rename_i k a J b;split at hr
  ·rename_i hk;have I:k=J:=by simpa using hk
   subst I;split at hr<;>first|(simp only[aa] at hr;subst hr;simp[eqGuard,binOp,Op.intCmp,Op.intArith,xh,cD,eX];done)|(split at hr<;>first|(cases hr;done)|(rename_i hb;simp only[aa] at hr;subst hr;simp[eqGuard,binOp,Op.intDiv,xh,show b≠0 from by simpa using hb];done))|(cases hr;done)
  ·cases hr
 ·rename_i a b;split at hr<;>first|(simp only[aa] at hr;subst hr;simp[eqGuard,binOp,Op.stringOp,qD,Nf];done)|(cases hr;done)
 ·cases hr
theorem acp {s:Sem Value} {r:Value} {w w':World} (hs:s.run P w= .ok r w'):(do let x<-s;pure (Next.value x):Sem Next).run P w= .ok (.value r) w':=by
 simp[hs]
theorem ada {op:BinOp} {x y:Operand} {t t':TypeId} (J:o.op= .binOp op t x y t') (I:dO (.bin op x y) e h nx=ajn R):fO P o e.get h.get R.eff:=by
 simp only[dO] at I;split at I
 ·rename_i u v U M;split at I
  ·rename_i r hr;rw[cR I];refine fO.reads λφ E h' w a _ hop _=>?_
   have h1:=ep (hop x _ (by rw[J];simp[Op.operands]) U);have Y:=ep (hop y _ (by rw[J];simp[Op.operands]) M);refine ⟨r,?_,.f (.raw _)⟩;unfold execOp;rw[J];simp only[h1,Y];exact acp (XN (P:=P) (t:=t) hr x y w)
  ·cases I
 ·cases I
theorem So {t:TypeId} (hu:P.underlying t=ajn .bool) (u v:Bool) (w:World):(Op.equal t (.bool u) (.bool v)).run P w= .ok (u==v) w:=by
 have key:∀ d,(Op.equalIn (d+1) t (.bool u) (.bool v)).run P w= .ok (u==v) w:=λd=>by simp[Op.equalIn,run_underlying hu]
 exact key 9999
theorem Pi {t el:TypeId} (hu:P.underlying t=ajn (.slice el)) (A:Option Addr) (n c:Nat) (w:World):(Op.equal t (.slice A n c) (.slice ajo 0 0)).run P w= .ok A.isNone w:=by
 have key:∀ d,(Op.equalIn (d+1) t (.slice A n c) (.slice ajo 0 0)).run P w= .ok A.isNone w:=λd=>by cases A<;>simp[Op.equalIn,run_underlying hu]
 exact key 9999
theorem ad9 {neg:Bool} {op:BinOp} {x y:Operand} {t t':TypeId} (J:o.op= .binOp op t x y t') (hop:op=if neg then .neq else .eql) (hu:P.underlying t=ajn .bool) (I:dO (.eqb neg x y) e h nx=ajn R):fO P o e.get h.get R.eff:=by
 simp only[dO] at I;split at I
 ·rename_i u v U M;rw[cR I];refine fO.reads λφ E h' w a _ hp _=>?_
  have h1:=ep (hp x _ (by rw[J];simp[Op.operands]) U);have Y:=ep (hp y _ (by rw[J];simp[Op.operands]) M);refine ⟨_,?_,.f (.raw _)⟩;unfold execOp;rw[J];simp only[h1,Y];subst hop;cases neg<;>simp[eqGuard,binOp,So hu]
 ·cases I
theorem U8 {neg:Bool} {op:BinOp} {x y:Operand} {t t' el:TypeId} (U:o.op= .binOp op t x y t') (hop:op=if neg then .neq else .eql) (Y:y= .const (.slice ajo 0 0)) (hu:P.underlying t=ajn (.slice el)) (J:dO (.isnil neg x) e h nx=ajn R):fO P o e.get h.get R.eff:=by
 have key:∀ (v:Value) (w:World) (ρ:Operand->Value) (A:Option Addr) (n c:Nat),ρ x= .slice A n c->ρ y= .slice ajo 0 0->(execOp ρ o).run P w= .ok (.value (.bool (A.isNone !=neg))) w:=by
  intro v w ρ A n c h1 Z;unfold execOp;rw[U];simp only[h1,Z];subst hop;cases neg<;>simp[eqGuard,binOp,Pi hu]
 have hyv:∀ a:Act,a.eval y= .slice ajo 0 0:=λa=>by rw[Y];rfl
 simp only[dO] at J;split at J
 ·rename_i id sz n I;rw[cR J];refine fO.reads λφ E h' w a _ hp _=>?_
  have h1:=hp x _ (by rw[U];simp[Op.operands]) I;generalize M:a.eval x=z at h1;cases h1 with
  |row hφ hn hc hs=>exact⟨_,key (.bool ajp) w a.eval _ _ _ M (hyv a),by simpa[raw] using cq.f (.raw _)⟩
 ·rename_i id off n I;rw[cR J];refine fO.reads λφ E h' w a _ hp _=>?_
  have h1:=hp x _ (by rw[U];simp[Op.operands]) I;generalize M:a.eval x=z at h1;cases h1 with
  |sl hφ hn hc=>exact⟨_,key (.bool ajp) w a.eval _ _ _ M (hyv a),by simpa[raw] using cq.f (.raw _)⟩
 ·rename_i cells n I;rw[cR J];refine fO.reads λφ E h' w a _ hp _=>?_
  have h1:=hp x _ (by rw[U];simp[Op.operands]) I;generalize M:a.eval x=z at h1;cases h1 with
  |f h1=>
   cases h1 with
   |sl=>exact⟨_,key (.bool ajp) w a.eval _ _ _ M (hyv a),by simpa[raw] using cq.f (.raw _)⟩
 ·rename_i cells I;rw[cR J];refine fO.reads λφ E h' w a _ hp _=>?_
  have h1:=hp x _ (by rw[U];simp[Op.operands]) I;generalize M:a.eval x=z at h1;cases h1 with
  |f h1=>
   cases h1 with
   |nil=>exact⟨_,key (.bool ajp) w a.eval _ _ _ M (hyv a),.anyb⟩
   |sl=>exact⟨_,key (.bool ajp) w a.eval _ _ _ M (hyv a),.anyb⟩
 ·rename_i I;rw[cR J];refine fO.reads λφ E h' w a _ hp _=>?_
  have h1:=hp x _ (by rw[U];simp[Op.operands]) I;generalize M:a.eval x=z at h1;cases h1 with
  |emp=>exact⟨_,key (.bool ajp) w a.eval _ _ _ M (hyv a),.anyb⟩
 ·rename_i v I;split at J
  ·rename_i hv;rw[cR J];refine fO.reads λφ E h' w a _ hp _=>?_
   have h1:=ep (hp x _ (by rw[U];simp[Op.operands]) I);unfold yz at hv;split at hv
   ·exact⟨_,key (.bool ajp) w a.eval _ _ _ h1 (hyv a),by simpa[raw] using cq.f (.raw _)⟩
   ·cases hv
  ·cases J
 ·cases J
theorem fy {t:TypeId} {sz:Nat} (hs:em P t=ajn sz) (w:World):(sizeOf t).run P w= .ok sz w:=by
 unfold em at hs;cases hi:P.info? t with
 |none=>rw[hi] at hs;cases hs
 |some i=>rw[hi] at hs;simp at hs;simp[sizeOf,typeInfo,program,hi,mq,hs]
theorem N2 {t:TypeId} {ag:Bool} (hs:Cw P t=ajn ag) (w:World):(isAgg t).run P w= .ok ag w:=by
 unfold Cw at hs;cases hi:P.underlying t with
 |none=>rw[hi] at hs;cases hs
 |some d=>
  rw[hi] at hs;simp only[bO,aa] at hs;rw[<- hs];simp only[isAgg,dI,run_underlying hi,ci];cases d<;>rfl
theorem j8 (b off i:Nat):(⟨b,off,ajo⟩:Addr).add i=⟨b,off+i,ajo⟩:=by
 unfold Addr.add;split<;>simp_all
theorem N0 {s:TypeId} {fs:Array Field} {k:Nat} {f:Field} {sz:Nat} (hu:P.underlying s=ajn (.struct fs)) (hf:fs[k]? =ajn f) (hs:em P f.type=ajn sz) (h0:sz≠0) (w:World) (b i:Nat):
 (Instr.fieldAt s (.pointer (ajn ⟨b,i,ajo⟩)) k).run P w= .ok (.pointer (ajn ⟨b,i+f.offset,ajo⟩)) w:=by
 have h1:=fy hs w;simp[Instr.fieldAt,run_underlying hu,hf,Instr.sureAddr,fieldPlace,h1,h0,j8]
theorem ai1 {s:TypeId} {fs:Array Field} {k:Nat} {f:Field} {sz:Nat} {x:Operand} (U:o.op= .fieldAddr s x k) (hu:P.underlying s=ajn (.struct fs)) (hf:fs[k]? =ajn f) (hs:em P f.type=ajn sz) (h0:sz≠0) (I:dO (.fad f.offset x) e h nx=ajn R):fO P o e.get h.get R.eff:=by
 have key:∀ (w:World) (ρ:Operand->Value) (b i:Nat),ρ x= .pointer (ajn ⟨b,i,ajo⟩)->(execOp ρ o).run P w= .ok (.value (.pointer (ajn ⟨b,i+f.offset,ajo⟩))) w:=by
  intro w ρ b i h1;unfold execOp;rw[U];simp only[h1];exact acp (N0 hu hf hs h0 w b i)
 simp only[dO] at I;split at I
 ·rename_i id off M;rw[cR I];refine fO.reads λφ E h' w a _ hp _=>?_
  have h1:=hp x _ (by rw[U];simp[Op.operands]) M;generalize J:a.eval x=z at h1;cases h1 with
  |ptr hφ=>exact⟨_,key w a.eval _ _ J,.ptr hφ⟩
 ·rename_i cells off M;rw[cR I];refine fO.reads λφ E h' w a _ hp _=>?_
  have h1:=hp x _ (by rw[U];simp[Op.operands]) M;generalize J:a.eval x=z at h1;cases h1 with
  |f h1=>
   cases h1 with
   |ptr _ _ b base us hO hb hcl hu hr=>
    refine ⟨_,key w a.eval _ _ J,.f ?_⟩;rw[qX];exact .ptr cells _ b base us hO hb hcl hu hr
 ·cases I
theorem HO {t el:TypeId} {x y:Operand} {sz b off n c:Nat} {k:IntKind} {i:Int} {ρ:Operand->Value} {w:World} (M:o.op= .indexAddr t x y) (hu:P.underlying t=ajn (.slice el)) (hs:em P el=ajn sz) (J:ρ x= .slice (ajn ⟨b,off,ajo⟩) n c) (I:ρ y= .int k i) (h0:0<=i) (h1:i<n):
 (execOp ρ o).run P w= .ok (.value (.pointer (ajn ⟨b,off+i.toNat*sz,ajo⟩))) w:=by
 have U:=fy hs w;unfold execOp;rw[M];simp[J,I,Instr.indexAt,asIntOf,run_underlying hu,U,h0,h1,j8]
theorem ahz {t el:TypeId} {x y:Operand} {sz:Nat} (J:o.op= .indexAddr t x y) (hu:P.underlying t=ajn (.slice el)) (hs:em P el=ajn sz) (I:dO (.iad sz x y) e h nx=ajn R):fO P o e.get h.get R.eff:=by
 simp only[dO] at I;split at I
 ·rename_i v k j Y hy;have hyv:∀ {φ:PM} {E:Nat->Prop} {h':HF} {w:World} {a:Act},TQ φ E h' w a e o->a.eval y= .int k j:=λhp=>ep (hp y _ (by rw[J];simp[Op.operands]) hy)
  split at I
  ·split at I
   ·rename_i id sz' n hc;simp only[cD,eX,aj,decide_eq_true_eq,beq_iff_eq] at hc;obtain⟨⟨rfl,h0⟩,h1⟩:=hc;rw[cR I];refine fO.reads λφ E h' w a _ hp _=>?_
    have hr:=hp x _ (by rw[J];simp[Op.operands]) Y;generalize M:a.eval x=z at hr;cases hr with
    |row hφ hn U hsh=>
     refine ⟨_,HO J hu hs M (hyv hp) h0 h1,?_⟩;rw[bz];exact .ptr hφ
   ·cases I
  ·split at I
   ·rename_i id off n hc;simp only[cD,eX,aj,decide_eq_true_eq] at hc;obtain⟨h0,h1⟩:=hc;rw[cR I];refine fO.reads λφ E h' w a _ hp _=>?_
    have hr:=hp x _ (by rw[J];simp[Op.operands]) Y;generalize M:a.eval x=z at hr;cases hr with
    |sl hφ hn U=>exact⟨_,HO J hu hs M (hyv hp) h0 h1,.ptr hφ⟩
   ·cases I
  ·split at I
   ·rename_i cells n hc;simp only[cD,eX,aj,decide_eq_true_eq] at hc;obtain⟨h0,h1⟩:=hc;rw[cR I];refine fO.reads λφ E h' w a _ hp _=>?_
    have hr:=hp x _ (by rw[J];simp[Op.operands]) Y;generalize M:a.eval x=z at hr;cases hr with
    |f hr=>
     cases hr with
     |nil=>omega
     |sl _ _ c b base us hn U hO hb hcl Z hr'=>exact⟨_,HO J hu hs M (hyv hp) h0 h1,.f (.ptr cells _ b base us hO hb hcl Z hr')⟩
   ·cases I
  ·cases I
 ·cases I
theorem aez {t el:TypeId} {x y:Operand} {n sz:Nat} (J:o.op= .indexAddr t x y) (hu:P.underlying t=ajn (.array n el)) (hs:em P el=ajn sz) (I:dO (.iada n sz x y) e h nx=ajn R):fO P o e.get h.get R.eff:=by
 have key:∀ (w:World) (ρ:Operand->Value) (b off:Nat) (k:IntKind) (i:Int),ρ x= .pointer (ajn ⟨b,off,ajo⟩)->ρ y= .int k i->0<=i->i<n->(execOp ρ o).run P w= .ok (.value (.pointer (ajn ⟨b,off+i.toNat*sz,ajo⟩))) w:=by
  intro w ρ b off k i h1 h2 h3 h4;have h5:=fy hs w;unfold execOp;rw[J];simp[h1,h2,Instr.indexAt,asIntOf,run_underlying hu,h5,h3,h4,j8,Instr.sureAddr]
 simp only[dO] at I;split at I
 ·rename_i v k j hx Z;split at I
  ·rename_i hc;simp only[cD,eX,aj,decide_eq_true_eq] at hc;obtain⟨h0,h1⟩:=hc;split at I
   ·rw[cR I];refine fO.reads λφ E h' w a _ hp _=>?_
    have hr:=hp x _ (by rw[J];simp[Op.operands]) hx;have hyv:=ep (hp y _ (by rw[J];simp[Op.operands]) Z);generalize M:a.eval x=z at hr;cases hr with
    |ptr hφ=>exact⟨_,key w a.eval _ _ k j M hyv h0 h1,.ptr hφ⟩
   ·rw[cR I];refine fO.reads λφ E h' w a _ hp _=>?_
    have hr:=hp x _ (by rw[J];simp[Op.operands]) hx;have hyv:=ep (hp y _ (by rw[J];simp[Op.operands]) Z);generalize M:a.eval x=z at hr;cases hr with
    |f hr=>
     cases hr with
     |ptr _ _ b base us hO hb hcl U Y=>
      refine ⟨_,key w a.eval _ _ k j M hyv h0 h1,.f ?_⟩;rw[qX];exact .ptr _ _ b base us hO hb hcl U Y
   ·cases I
  ·cases I
 ·cases I
theorem ai2 {x:Operand} {i:Nat} (J:o.op= .extract x i) (I:dO (.ext x i) e h nx=ajn R):fO P o e.get h.get R.eff:=by
 simp only[dO] at I;split at I
 ·rename_i l U;split at I
  ·rename_i v hv;rw[cR I];refine fO.reads λφ E h' w a _ hp _=>?_
   have hr:=hp x _ (by rw[J];simp[Op.operands]) U;generalize M:a.eval x=z at hr;cases hr with
   |@tup _ vs hl hrr=>
    have hlt:i<vs.length:=by
     rw[hl];exact (a8.1 hv).1
    refine ⟨vs[i],?_,hrr i v _ hv (ar hlt)⟩;unfold execOp;rw[J];simp[M,Instr.extract,hlt]
  ·cases I
 ·cases I
theorem ahx {x y:Operand} {M:Array TypeId} (J:o.op= .call {callee:=.builtin .max,args:=#[x,y],argTypes:=M}) (I:dO (.max x y) e h nx=ajn R):fO P o e.get h.get R.eff:=by
 simp only[dO] at I;split at I
 ·rename_i k a b k' Y U;rw[cR I];refine fO.reads λφ E h' w a _ hp _=>?_
  have h1:=ep (hp x _ (by rw[J];simp[Op.operands,dP]) Y);have Z:=ep (hp y _ (by rw[J];simp[Op.operands,dP]) U);refine ⟨_,?_,.f (.raw _)⟩;unfold execOp;rw[J];simp[resolve,invoke,builtin,Builtin.max_,Builtin.max2,h1,Z,eX]
 ·cases I
theorem ahw {x y:Operand} {M:Array TypeId} (J:o.op= .call {callee:=.builtin .min,args:=#[x,y],argTypes:=M}) (I:dO (.min x y) e h nx=ajn R):fO P o e.get h.get R.eff:=by
 simp only[dO] at I;split at I
 ·rename_i k a b k' Y U;rw[cR I];refine fO.reads λφ E h' w a _ hp _=>?_
  have h1:=ep (hp x _ (by rw[J];simp[Op.operands,dP]) Y);have Z:=ep (hp y _ (by rw[J];simp[Op.operands,dP]) U);refine ⟨_,?_,.f (.raw _)⟩;unfold execOp;rw[J];simp[resolve,invoke,builtin,Builtin.min_,Builtin.min2,h1,Z,eX]
 ·cases I
theorem ahs {x:Operand} {t:TypeId} {k:IntKind} (J:o.op= .unOp .neg t x) (I:dO (.bin .sub (.const (.int k 0)) x) e h nx=ajn R):fO P o e.get h.get R.eff:=by
 simp only[dO,lB,DB] at I;split at I
 ·rename_i u v hu M;cases hu;split at I
  ·rename_i r hb;rw[cR I];refine fO.reads λφ E h' w a _ hop _=>?_
   have h1:=ep (hop x _ (by rw[J];simp[Op.operands]) M);refine ⟨r,?_,.f (.raw _)⟩;unfold execOp;rw[J];cases v<;>simp only[td] at hb<;>try (cases hb;done)
   split at hb
   ·rename_i hk;have hk:=eq_of_beq hk;subst hk;simp only[aa] at hb;subst hb;simp[h1,Op.unary,Op.intArith,xh]
   ·cases hb
  ·cases I
 ·cases I
theorem aer {x i:Operand} {t:TypeId} (J:o.op= .index t x i) (hu:P.underlying t=ajn .string) (I:dO (.sidx x i) e h nx=ajn R):fO P o e.get h.get R.eff:=by
 simp only[dO] at I;split at I
 ·rename_i s k j M hi;split at I
  ·rename_i h0;simp only[cD,decide_eq_true_eq] at h0;split at I
   ·rename_i b hb;rw[cR I];refine fO.reads λφ E h' w a _ hop _=>?_
    have h1:=ep (hop x _ (by rw[J];simp[Op.operands]) M);have U:=ep (hop i _ (by rw[J];simp[Op.operands]) hi);refine ⟨_,?_,.f (.raw _)⟩;have hs:s[j.toNat]? =ajn b:=by
     rw[ch] at hb;obtain⟨hl,he⟩:=b9.1 hb;exact getElem?_pos s j.toNat hl▸congrArg ajn he
    unfold execOp;rw[J];simp[Instr.index,run_underlying hu,h1,U,asIntOf,h0,hs]
   ·cases I
  ·cases I
 ·cases I
theorem ahv {f:FuncId} {caps:Array Operand} (Z:o.op= .makeFunc (.func f) #[] caps) (M:dO (.mkf f caps.toList) e h nx=ajn R):fO P o e.get h.get R.eff:=by
 simp only[dO] at M;split at M
 ·rename_i l hl;rw[cR M];refine fO.reads λφ E h' w a _ hp _=>?_
  refine ⟨_,by unfold execOp;rw[Z];rfl,?_⟩;have key:∀ (xs:List Operand) (I:List AV),(∀ x∈xs,x∈o.op.operands)->UK e xs=ajn I->I.length=xs.length/\∀ (j:Nat) x v,I[j]? =ajn x->(xs.map a.eval)[j]? =ajn v->cq φ (tot E φ h') w x v:=by
   intro xs;induction xs with
   |nil=>intro I _ h;simp only[UK,aa] at h;subst h;exact⟨rfl,λj x v J=>by simp at J⟩
   |cons x xs ih=>
    intro I hm h;simp only[UK] at h;split at h
    ·rename_i y hy;split at h
     ·rename_i ys' hys;simp only[aa] at h;subst h;obtain⟨h1,Y⟩:=ih ys' (λx J=>hm x (cA _ J)) hys;refine ⟨by simp[h1],λj z v U hv=>?_⟩;cases j with
      |zero=>simp at U hv;subst U;subst hv;exact hp x _ (hm x (dg ..)) hy
      |succ j=>exact Y j z v (by simpa using U) (by simpa using hv)
     ·cases h
    ·cases h
  obtain⟨h1,Y⟩:=key caps.toList l (λx J=>by rw[Z];simpa[Op.operands] using J) hl;have h3:(caps.map a.eval)=(caps.toList.map a.eval).toArray:=by
   apply Jo;simp
  have h4:(#[]:Array Operand).map a.eval=#[]:=by simp
  rw[h4,h3];exact .clo (by simp[h1]) Y
 ·cases M
end pure
end
end Go.Proofs.YtkagidinekdnoaaGreatDoor.AI
