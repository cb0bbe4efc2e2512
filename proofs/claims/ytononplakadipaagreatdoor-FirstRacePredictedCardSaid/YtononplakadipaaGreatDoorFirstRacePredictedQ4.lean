/-
  Texts of the proof, part 5 of 6: what is used to prove the statement. No condition.
-/
import Derived.Test.YtononplakadipaaGreatDoorFirstRacePredictedQ3
import Derived.Deep.Slices
import Derived.OpenShut
import Derived.Below
import Derived.Shelf.Strings.Search1
namespace Go.Proofs.YtononplakadipaaGreatDoor.AI
open Go.RowKit
set_option maxRecDepth 100000
set_option maxHeartbeats 4000000
set_option linter.unusedVariables false
set_option linter.unusedSimpArgs false
set_option linter.defProp false
open _root_.Bool renaming true→J,false→af,not_eq_true→tS,false_or→vG,not_eq_false'→QM
open _root_.Classical renaming propDecidable→gU
open _root_.Int renaming ofNat_eq_natCast→ax,toNat→aL,ofNat→aZ,reduceEq→bP,toNat_natCast→dH,reduceNeg→dP,tmod→vE,le_trans→yd,natCast_zero→GU
open IntKind renaming wrap→kx
open _root_.List renaming length→l!,length→ah,replicate→aA,length_singleton→bJ,take→cG,foldl_cons→dN,range→dV,cons_append→gj,length_cons→gQ,length_nil→jB,replicate_succ→nV,mem_of_mem_drop→xO,getElem_of_mem→zB,mem_replicate→BT,take_take→Ef,set→Eg
open _root_.List.cons renaming inj→G8
open _root_.Nat renaming beq→aB,blt→dE,add_zero→dR,le_of_lt→gx,mod_eq_of_lt→ml
open _root_.Option renaming some→Z,none→U
open _root_.Prod renaming a→bf,b→bB,c→bN,d→cg,e→cM,h→dh,f→dD,g→gE,i→iD,j→qY,l→sL,n→xZ,p8→Eb,m→I4,ext→I5,k→MJ
open _root_.Sum renaming inr→bR,inl→lB
open _root_.UInt8 renaming ofNat→Ct
open Value renaming okWide→MH
open World renaming cell?→Ud
noncomputable section
def R2 (w:zG) (e:EV):i?:=if e.k=6\/e.k=10 then ((e.ob:Int),af) else if e.k=8 then ((e.ob:Int),J) else if e.k=17 then ((UQ w.2.2.1 e.ob:Nat),af) else (-1,af)
def AU (w:zG) (e:EV):i?:=if e.k=7\/e.k=11 then ((e.ob:Int),af) else if e.k=9 then ((e.ob:Int),J) else if e.k=16 then ((UQ w.2.2.1 e.ob:Nat),af) else (-1,af)
def am8 {w:zG} {e:EV} (h:e.k=7\/e.k=11):AU w e=((e.ob:Int),af):=by unfold AU;rw[aD h]
def am7 {w:zG} {e:EV} (h:e.k=9):AU w e=((e.ob:Int),J):=by unfold AU;rw[av M,aD h]
def aez {w:zG} {e:EV} (h:e.k=16):AU w e=((UQ w.2.2.1 e.ob:Int),af):=by unfold AU;rw[av M,av M,aD h]
def hrP (w:WT) (l:Y ET) (j i:Nat):Prop:=((dc l j).k=1/\(dc l i).k=20/\(dc l i).ob=(dc l j).th)\/((dc l j).k=21/\(dc l i).th=(dc l j).ob)\/((dc l j).k=3/\Ha w.1 (dc l j).ob=J/\(dc l i).k=4/\(dc l i).ob=(dc l j).ob)\/((dc l j).k=23/\(dc l i).k=22/\(dc l i).ob=(dc l j).ob)
def sfP (w:WT) (l:Y ET) (j i:Nat):Prop:=(0<=(R2 w (dc l j)).1/\(AU w (dc l i)).1=(R2 w (dc l j)).1/\¬((R2 w (dc l j)).2=J/\(AU w (dc l i)).2=J))\/((dc l j).k=12/\(dc l i).k=13)
def awm (w:zG) (h:HS) (e:EV) (c:η):(lK w h e c).S=if e.k=20 then h.S.set e.ob c else h.S:=by
 unfold lK;simp only[];repeat' split
 all_goals first|rfl|omega
def awo (w:zG) (h:HS) (e:EV) (c:η):(lK w h e c).L=if (e.k=7\/e.k=11) then jat h.L e.ob c else if e.k=16 then jat h.L (UQ w.2.2.1 e.ob) c else h.L:=by
 unfold lK;simp only[];repeat' split
 all_goals first|rfl|omega
def awn (w:zG) (h:HS) (e:EV) (c:η):(lK w h e c).R=if e.k=9 then jat h.R e.ob c else h.R:=by
 unfold lK;simp only[];repeat' split
 all_goals first|rfl|omega
def awq (w:zG) (h:HS) (e:EV) (c:η):(lK w h e c).C=if e.k=4/\Ha w.1 e.ob=J then jat h.C e.ob c else h.C:=by
 unfold lK;simp only[];repeat' split
 all_goals first|rfl|omega|(rename_i h1 h2;exact bi ⟨by assumption,by assumption⟩ h2)|(rename_i h1 h2;exact bi h2.2 h1)|(rename_i h1;exact bi h1.1 (by assumption))
def awp (w:zG) (h:HS) (e:EV) (c:η):(lK w h e c).F=if e.k=22 then jat h.F e.ob c else h.F:=by
 unfold lK;simp only[];repeat' split
 all_goals first|rfl|omega
def awl (w:zG) (h:HS) (e:EV) (c:η):(lK w h e c).X=if e.k=13 then jl h.X c else h.X:=by
 unfold lK;simp only[];repeat' split
 all_goals first|rfl|omega
def asj (l:Y η) (i:Nat) (c:η) (o:Nat) (h:i<l! l):(jat l i c).getD o []=if i=o then jl (l.getD o []) c else l.getD o []:=by
 unfold jat;rw[vw];by_cases e:i=o;subst e;rw[aD ⟨rfl,h⟩,aD rfl];rw[av λq=>e q.1,av e]
variable {c:η} {i m:Nat}
def UX {l:Y η} {x:η} (h:LE x (l.getD m [])):LE x ((jat l i c).getD m []):=by
 unfold jat;rw[vw];split;rename_i e;rw[e.1];exact h.trans (avf _ _);exact h
def HN {l:Y η} (h:i<l! l):LE c ((jat l i c).getD i []):=by rw[asj l i c i h,aD rfl];exact ave _ _
structure HL (w:WT) (l:List ET) (i:Nat) (h:HS):Prop where
 T:∀k,k<i->LE (sJ w l k) (h.T.getD (dc l k).th [])
 S:∀k,k<i->(dc l k).k=20->LE (sJ w l k) (h.S.getD (dc l k).ob [])
 L:∀k,k<i->∀o:Nat,AU w (dc l k)=((o:Int),af)->LE (sJ w l k) (h.L.getD o [])
 R:∀k,k<i->∀o:Nat,AU w (dc l k)=((o:Int),J)->LE (sJ w l k) (h.R.getD o [])
 C:∀k,k<i->(dc l k).k=4->Ha w.1 (dc l k).ob=J->LE (sJ w l k) (h.C.getD (dc l k).ob [])
 F:∀k,k<i->(dc l k).k=22->LE (sJ w l k) (h.F.getD (dc l k).ob [])
 X:∀k,k<i->(dc l k).k=13->LE (sJ w l k) h.X
variable {L:Y ET}
def U0 {w:WT} (tr:TR (w,L)):∀i:Nat,i<=l! L->HL w L i (QU w (L.take i))
 |0,_=>⟨λk hk=>M,λk hk=>M,λk hk=>M,λk hk=>M,λk hk=>M,λk hk=>M,λk hk=>M⟩
 |i+1,h=>by
  have hi:i<l! L:=M;have a:=U0 tr i M;let⟨o,ft⟩:=JR tr i M;have ok:=OY tr hi;have hT:=aoz w (QU w (L.take i)) (dc L i);have I:=JQ tr i M;have two:∀{P:Nat->Prop},(∀k,k<i->P k)->P i->∀k,k<i+1->P k:=λh1 h2 k hk=>by
   by_cases e:k=i;subst e;exact h2;exact h1 k M
  rw[Dn w hi];refine ⟨two (λk hk=>?_) ?_,two (λk hk e=>?_) λe=>?_,two (λk hk x e=>?_) λx e=>?_,two (λk hk x e=>?_) λx e=>?_,two (λk hk e v=>?_) λe v=>?_,two (λk hk e=>?_) λe=>?_,two (λk hk e=>?_) λe=>?_⟩;rw[aol,vw];have:=a.T k hk;split;rename_i q;rw[<- q.1]at this;exact this.trans hT;exact this;rw[aol,vw,aD ⟨rfl,ok.th⟩];exact LE.refl _;have old:=a.S k hk e;rw[awm];split;rename_i k20;rw[vw];split;rename_i q;exfalso;have sc:=tr.sc hi;have A:=mc tr hi;have sp:=(sc.rd.sp (by rw[A.k,k20];rfl)).2;rw[A.ob (by rw[k20];decide)]at sp;have:=(I _ (by rw[<- ft.T];exact ok.sp (.inl k20))).s sp k hk;exact bi ⟨e,q.1.symm⟩ (m8 this);exact old;exact old;rw[awm,aD e,vw,aD ⟨rfl,by rw[o.lS];exact ok.sp (.inl e)⟩];exact LE.refl _
  .have old:=a.L k hk x e;rw[awo];repeat' split
   all_goals first|exact old|exact UX old
  rw[awo];by_cases k7:(dc L i).k=7\/(dc L i).k=11;rw[am8 k7]at e;have ex:(dc L i).ob=x:=by have:=eZ Prod.fst e;dsimp only at this;omega
  rw[aD k7,<-ex];exact HN (ok.lk M);rw[av k7];by_cases k16:(dc L i).k=16;rw[aez k16]at e;have ex:UQ w.2.2.1 (dc L i).ob=x:=by have:=eZ Prod.fst e;dsimp only at this;omega
  rw[aD k16,<-ex];exact HN (ok.cd (.inl k16)).2.2;exfalso;unfold AU at e;rw[av k7,av k16]at e;split at e;simp at e;have:=eZ Prod.fst e;dsimp only at this;omega;have old:=a.R k hk x e;rw[awn];split;exact UX old;exact old
  .rw[awn];by_cases k9:(dc L i).k=9;rw[am7 k9]at e;have ex:(dc L i).ob=x:=by have:=eZ Prod.fst e;dsimp only at this;omega
   rw[aD k9,<-ex];exact HN (by rw[o.lR];exact ok.lk M);exfalso;unfold AU at e;rw[av k9]at e;repeat' split at e
   all_goals simp at e
  have old:=a.C k hk e v;rw[awq];split;exact UX old;exact old;rw[awq,aD ⟨e,v⟩];exact HN (ok.ce (.inr e)).1;have old:=a.F k hk e;rw[awp];split;exact UX old;exact old;rw[awp,aD e];exact HN (ok.fu (.inl e));have old:=a.X k hk e;rw[awl];split;exact old.trans (avf _ _);exact old;rw[awl,aD e];exact ave _ _
section
variable {w:WT} {l:Y ET} (tr:TR (w,l)) {k j:Nat} (hj:j<l! l) (hk:k<j)
include tr hj hk
def ath (ht:(dc l k).th=(dc l j).th):LE (sJ w l k) (sJ w l j):=by
 have:=(U0 tr j M).T k hk;rw[ht]at this;exact this.trans (aoz w _ _)
def ati (h:hrP w l j k):LE (sJ w l k) (sJ w l j):=by
 have a:=U0 tr j M;rcases h with ⟨h1,h2,q⟩|⟨h1,h2⟩|⟨h1,h2,q,A⟩|⟨h1,h2,q⟩;have:=a.S k hk h2;rw[q]at this;exact this.trans (tN (by unfold uh;rw[aD h1];simp));have:=a.T k hk;rw[h2]at this;exact this.trans (tN (by unfold uh;rw[av M,aD h1];simp));have:=a.C k hk q (by rw[A];exact h2);rw[A]at this;exact this.trans (tN (by unfold uh;rw[av M,av M,av M,av M,av M,aD h1];simp));have:=a.F k hk h2;rw[q]at this;exact this.trans (tN (by unfold uh;rw[av M,av M,av M,av M,av M,av M,aD h1];simp))
def aDe (h:sfP w l j k):LE (sJ w l k) (sJ w l j):=by
 have a:=U0 tr j M;rcases h with ⟨h0,h1,h2⟩|⟨h1,h2⟩;obtain⟨o,A⟩:∃o:Nat,(R2 w (dc l j)).1=(o:Int):=⟨_,(zE h0).symm⟩
 have eL:(AU w (dc l k)).2=af->LE (sJ w l k) ((QU w (l.take j)).L.getD o []):=λq=>a.L k hk o (I5 (h1.trans A) q)
 have eR:(AU w (dc l k)).2=J->LE (sJ w l k) ((QU w (l.take j)).R.getD o []):=λq=>a.R k hk o (I5 (h1.trans A) q)
 unfold R2 at h0 h2 A;by_cases k6:(dc l j).k=6\/(dc l j).k=10;rw[aD k6]at A;have A:(dc l j).ob=o:=by dsimp only at A;omega
 subst A;cases q:(AU w (dc l k)).2 with
 |false=>exact (eL q).trans (tN (by unfold uh;rw[av M,av M,aD k6];simp))
 |true=>exact (eR q).trans (tN (by unfold uh;rw[av M,av M,aD k6];simp))
 rw[av k6]at h0 h2 A;by_cases k8:(dc l j).k=8;rw[aD k8]at h2 A;have A:(dc l j).ob=o:=by dsimp only at A;omega
 subst A;have q:(AU w (dc l k)).2=af:=by simpa using h2
 exact (eL q).trans (tN (by unfold uh;rw[av M,av M,av k6,aD k8];simp));rw[av k8]at h0 A;by_cases k17:(dc l j).k=17;rw[aD k17]at A;have A:UQ w.2.2.1 (dc l j).ob=o:=by dsimp only at A;omega
 subst A;cases q:(AU w (dc l k)).2 with
 |false=>exact (eL q).trans (tN (by unfold uh;rw[av M,av M,av k6,av k8,aD k17];simp))
 |true=>exact (eR q).trans (tN (by unfold uh;rw[av M,av M,av k6,av k8,aD k17];simp))
 rw[av k17]at h0;exact bi h0 cr;exact (a.X k hk h2).trans (tN (by unfold uh;rw[av M,av M,av M,av M,av M,av M,av M,aD h1];simp))
end
def e_wk {w:WT} (tr:TR (w,L)) (hj:i<l! L) (h:(dc L i).k=17):0<=EO L (dc L i).th i/\LE (sJ w L (EO L (dc L i).th i).toNat) (sJ w L i):=by
 let⟨_,I⟩:=JR tr i M;have b:=JQ tr i M (dc L i).th (by rw[<- I.T];exact (OY tr hj).th);have wk:=((tr.sc hj).rd.wk (by rw[(mc tr hj).k,h];rfl)).1;rw[(mc tr hj).th]at wk;let⟨A,q⟩:=b.n wk;refine ⟨A,?_⟩;rw[<- q];exact tN (by unfold uh;rw[av M,av M,av M,av M,aD h];simp)
def lsN (l:Y ET) (o:Nat):Nat->Int
 |0=> -1
 |i+1=>if (dc l i).k=4/\(dc l i).ob=o then (i:Int) else lsN l o i
def an3 (l:Y ET) (o:Nat):∀i:Nat,-1<=lsN l o i/\lsN l o i<i
 |0=>⟨cU _,by show (-1:Int)<0;omega⟩
 |i+1=>by have:=an3 l o i;rw[lsN];split<;>omega
def aft :∀j:Nat,0<=lsN L i j->(dc L (lsN L i j).toNat).k=4/\(dc L (lsN L i j).toNat).ob=i
 |0,h=>bi h (by show ¬(0:Int)<= -1;omega)
 |j+1,h=>by
  rw[lsN]at h ⊢;by_cases q:(dc L j).k=4/\(dc L j).ob=i;rw[aD q];exact q;rw[av q]at h ⊢;exact aft j h
def rdN (l:Y ET) (i:Nat):Prop:=(dc l i).k=3/\0<=lsN l (dc l i).ob i
instance (l:Y ET) (i:Nat):Decidable (rdN l i):=by unfold rdN;exact inferInstance
def rsN (l:Y ET) (i:Nat):Nat:=(lsN l (dc l i).ob i).toNat
def am4 (h:rdN L i):rsN L i<i:=by have:=an3 L (dc L i).ob i;have:=h.2;unfold rsN;omega
def cov (l:Y ET) (c:η) (i:Nat):Prop:=(FM l (dc l i).th i:Int)+1<=c.getD (dc l i).th 0
def adb {w:WT} (tr:TR (w,L)) (h:i<l! L):Gd w L (i+1) (sJ w L i)/\(sJ w L i).getD (dc L i).th 0=(FM L (dc L i).th i:Int)+1:=M6 (HU tr i M)
def VG {w:WT} (tr:TR (w,L)) (hk:i<l! L) (h:LE (sJ w L i) c):cov L c i:=by
 unfold cov;have:=h.2 (dc L i).th;rw[(adb tr hk).2]at this;exact this
def ad3 {w:WT} (tr:TR (w,L)) (hj:m<l! L) (hi:i<m) (h:cov L (sJ w L m) i):LE (sJ w L i) (sJ w L m):=(adb tr hj).1.dn i M h
def VH {w:WT} (tr:TR (w,L)) (hj:m<l! L) (q:i≠m) (h:cov L (sJ w L m) i):i<m:=by
 rcases co i m with g|g;exact g;have h1:=(adb tr hj).1.le (dc L i).th;have h2:=VM L (dc L i).th (show m+1<=i by omega);unfold cov at h;omega
def DS (w:WT) (l:Y ET) (A B st i:Nat):Prop:=i<st\/(i≠A/\i≠B/\(cov l (sJ w l A) i\/cov l (sJ w l B) i))
structure Wa (w:WT) (l:List ET) (A B:Nat):Prop where
 ab:A<B
 bn:B<l! l
 nc:¬cov l (sJ w l B) A
 rd:∀k,k<B->rdN l k->LE (sJ w l (rsN l k)) (sJ w l k)
def DS.lt {w:WT} (tr:TR (w,L)) {B st:Nat} (R:Wa w L m B) (I:st<=m) (h:DS w L m B st i):i<B:=by
 have:=R.ab;have:=R.bn;rcases h with h|⟨h1,h2,q|q⟩;omega;have:=VH tr M h1 q;omega;exact VH tr R.bn h2 q
def DS.dn {w:WT} (tr:TR (w,L)) {B st k:Nat} (R:Wa w L m B) (h:DS w L m B st i) (hk:k<i) (hle:LE (sJ w L k) (sJ w L i)):DS w L m B st k:=by
 have ab:=R.ab;have bn:=R.bn;rcases h with h|⟨h1,h2,q|q⟩;exact .inl M;have hi:=VH tr (show m<l! L by omega) h1 q;exact .inr ⟨M,M,.inl (VG tr M (hle.trans (ad3 tr M hi q)))⟩;have hi:=VH tr bn h2 q;have I:=VG tr (show k<l! L by omega) (hle.trans (ad3 tr bn hi q));refine .inr ⟨λz=>?_,M,.inr I⟩;subst z;exact R.nc I
def DS.dnA {w:WT} (tr:TR (w,L)) {st k:Nat} (R:Wa w L i m) (hk:k<i) (hle:LE (sJ w L k) (sJ w L i)):DS w L i m st k:=by
 have:=R.ab;have:=R.bn;exact .inr ⟨M,M,.inl (VG tr M hle)⟩
def DS.dnB {w:WT} (tr:TR (w,L)) {st k:Nat} (R:Wa w L i m) (hk:k<m) (hle:LE (sJ w L k) (sJ w L m)):DS w L i m st k:=by
 have:=R.bn;have q:=VG tr (show k<l! L by omega) hle;refine .inr ⟨λz=>?_,M,.inr q⟩;subst z;exact R.nc q
def lkF (w:WT) (e:ET) (k:Int) (p:d!):d!:=
 if ((e.2.1=6\/e.2.1=10)/\e.2.2.1=k)\/(e.2.1=17/\L7 w e.2.2.1=k) then (e.1,p.2)
 else if ((e.2.1=7\/e.2.1=11)/\e.2.2.1=k)\/(e.2.1=16/\L7 w e.2.2.1=k) then (-1,p.2)
 else if e.2.1=8/\e.2.2.1=k then (p.1,xR p.2 [e.1])
 else if e.2.1=9/\e.2.2.1=k then (p.1,wo p.2 e.1) else p
def aua (w:WT) (s:SY) (t k o u:Int):(ku w s t k o u).1.1=if k=6\/k=10 then owP s.1 o t else if k=7\/k=11 then owP s.1 o (-1) else if k=8 then rdP s.1 o (xR (aE dU s.1 o).2 [t]) else if k=9 then rdP s.1 o (wo (aE dU s.1 o).2 t) else if k=16 then owP s.1 (L7 w o) (-1) else if k=17 then owP s.1 (L7 w o) t else s.1:=by
 cases kdI k
 case no h _=>simp[ku,h,dQ,L1]
 all_goals (simp [ku,bP,bC,dQ,fM,L1];try (split<;>rfl))
def V7 (w:WT) (s:SY) (t k o u:Int):(ku w s t k o u).1.2.1=if k=12 then t else if k=13 then -1 else s.2.1:=by
 cases kdI k
 case no h _=>simp[ku,h,dQ,L1]
 all_goals (simp [ku,bP,bC,dQ,fM,L1];try (split<;>rfl))
def adz (w:WT) (s:SY) (t k o u:Int):(ku w s t k o u).1.2.2.1=if k=22 then bW s.2.2.1 o J else s.2.2.1:=by
 cases kdI k
 case no h _=>simp[ku,h,dQ,L1]
 all_goals (simp [ku,bP,bC,dQ,fM,L1];try (split<;>rfl))
variable {a:Int}
def M' {w:WT} {s:SY} {e:ET} (en:EN w s e.1 e.2.1 e.2.2.1) (q:0<=a):aE dU (ku w s e.1 e.2.1 e.2.2.1 e.2.2.2.1).1.1 a=lkF w e a (aE dU s.1 a):=by
 let⟨t,kd,o,v,r⟩:=e;have I:6<=kd/\kd<=11->0<=o/\o<(l! s.1:Int):=λg=>by rw[en.e1];exact en.nm.lk g
 have A:16<=kd/\kd<=19->0<=L7 w o/\L7 w o<l! s.1:=λg=>by
  let⟨k,b⟩:=en.nm.cd g;rw[en.e1];exact en.cd _ (be (T:=itK) k b)
 have ow:∀(i x:Int),0<=i->i<l! s.1->aE dU (owP s.1 i x) a=if a=i then (x,(aE dU s.1 a).2) else aE dU s.1 a:=λi x h0 h1=>by
  unfold owP;rw[jT _ _ _ _ h0 h1 q]
  grind
 have rr:∀(i:Int) (x:η),0<=i->i<l! s.1->aE dU (rdP s.1 i x) a=if a=i then ((aE dU s.1 a).1,x) else aE dU s.1 a:=λi x h0 h1=>by
  unfold rdP;rw[jT _ _ _ _ h0 h1 q]
  grind
 unfold lkF;rw[aua];by_cases h1:kd=6\/kd=10
 grind
 by_cases h2:kd=7\/kd=11
 grind
 by_cases h3:kd=8
 grind
 by_cases h4:kd=9
 grind
 grind
variable {Q:Y (Int×Int×Bool)}
def Ni {th':Y c!} :∀n:Nat,(∀u:Nat,u<n->FX a (gT Q (u:Int))=FX a (gT th' (u:Int)))->wl Q a n=wl th' a n
 |0,_=>rfl
 |n+1,h=>by
  have q:=Ni n λu A=>h u M
  simp[wl]
  grind
def noP (th:Y c!) (k o v u:Int):Prop:=(k=18/\l! (wl th o (l! th))≠0/\u=CJ (wl th o (l! th)) v)\/(k=19/\u∈wl th o (l! th))
def noP.w {o v u:Int} (h:noP Q a o v u):0<=u/\u<l! Q/\(gT Q u).1=3/\(gT Q u).2.1=o:=by
 have hm:u∈wl Q o (l! Q):=by
  rcases h with ⟨_,h1,rfl⟩|⟨_,h⟩;exact BH v h1;exact h
 let⟨k,b,c⟩:=oS.1 hm;unfold FX at c
 grind
def thF (k t o u:Int) (no:Prop) (g:c!):c!:=
 if k=1/\u=t then (2,g.2) else if k=2/\u=t then (5,g.2) else if k=14/\u=t then (g.1,g.2.1,J) else if k=15/\u=t then (g.1,g.2.1,af)
 else if k=16/\u=t then (3,o,g.2.2) else if k=17/\u=t then (2,0,g.2.2) else if k=20/\u=o then (1,g.2) else @ite _ no (gU _) (4,g.2) g
def IV (w:WT) (s:SY) (t k o v:Int) (en:EN w s t k o) (u:Int) (I:0<=u) (A:u<l! s.2.2.2):gT (ku w s t k o v).1.2.2.2 u=thF k t o u (noP s.2.2.2 k o v u) (gT s.2.2.2 u):=by
 have t0:=en.t0;have nm:=en.nm;have n18:∀{k:Int},k≠18->k≠19->¬noP s.2.2.2 k o v u:=λa b h=>by rcases h with h|h<;>omega
 unfold thF;by_cases a1:k=1;subst a1;have e:gT (ku w s t 1 o v).1.2.2.2 u=if u=t then (2,(gT s.2.2.2 u).2) else gT s.2.2.2 u:=pA 2 t0 I A
 grind
 rw[av λz=>a1 z.1];by_cases a2:k=2;subst a2;have e:gT (ku w s t 2 o v).1.2.2.2 u=if u=t then (5,(gT s.2.2.2 u).2) else gT s.2.2.2 u:=pA 5 t0 I A
 grind
 rw[av λz=>a2 z.1];by_cases a14:k=14;subst a14;have e:gT (ku w s t 14 o v).1.2.2.2 u=if u=t then ((gT s.2.2.2 u).1,(gT s.2.2.2 u).2.1,J) else gT s.2.2.2 u:=M9 J t0 I A
 grind
 rw[av λz=>a14 z.1];by_cases a15:k=15;subst a15;have e:gT (ku w s t 15 o v).1.2.2.2 u=if u=t then ((gT s.2.2.2 u).1,(gT s.2.2.2 u).2.1,af) else gT s.2.2.2 u:=M9 af t0 I A
 grind
 rw[av λz=>a15 z.1];by_cases a16:k=16;subst a16;have e:gT (ku w s t 16 o v).1.2.2.2 u=if u=t then (3,o,(gT s.2.2.2 u).2.2) else gT s.2.2.2 u:=by
  have:gT (cdP (xQ s.2.2.2 t 3) t o) u=_:=M7 o t0 I (by unfold xQ;rw[bu];exact A);refine Eq.trans this ?_;rw[pA 3 t0 I A];split<;>rfl
 rw[e];by_cases q:u=t;rw[aD q,aD ⟨rfl,q⟩];rw[av q,av λz=>q z.2,av M,av M,av (n18 M M)];rw[av λz=>a16 z.1];by_cases a17:k=17;subst a17;have e:gT (ku w s t 17 o v).1.2.2.2 u=if u=t then (2,0,(gT s.2.2.2 u).2.2) else gT s.2.2.2 u:=by
  have:gT (cdP (xQ s.2.2.2 t 2) t 0) u=_:=M7 0 t0 I (by unfold xQ;rw[bu];exact A);refine Eq.trans this ?_;rw[pA 2 t0 I A];split<;>rfl
 rw[e];by_cases q:u=t;rw[aD q,aD ⟨rfl,q⟩];rw[av q,av λz=>q z.2,av M,av (n18 M M)];rw[av λz=>a17 z.1];by_cases a20:k=20;subst a20;have o0:=(nm.th (.inl rfl)).1;have e:gT (ku w s t 20 o v).1.2.2.2 u=if u=o then (1,(gT s.2.2.2 u).2) else gT s.2.2.2 u:=pA 1 o0 I A
 rw[e];by_cases q:u=o;rw[aD q,aD ⟨rfl,q⟩];rw[av q,av λz=>q z.2,av (n18 M M)];rw[av λz=>a20 z.1];by_cases a18:k=18;subst a18;rw[D7];by_cases hl:l! (wl s.2.2.2 o (l! s.2.2.2))=0;rw[aD hl,av (λh=>by rcases h with ⟨_,h,_⟩|⟨h,_⟩;exact h hl;omega)];rw[av hl];have hc:=BH v hl;have h0:=(oS.1 hc).1;show gT (xQ s.2.2.2 (CJ (wl s.2.2.2 o (l! s.2.2.2)) v) 4) u=_;rw[pA 4 h0 I A];by_cases q:u=CJ (wl s.2.2.2 o (l! s.2.2.2)) v;rw[aD q,aD (.inl ⟨rfl,hl,q⟩)];rw[av q,av (λh=>by rcases h with ⟨_,_,h⟩|⟨h,_⟩;exact q h;omega)];by_cases a19:k=19;subst a19;have e:gT (ku w s t 19 o v).1.2.2.2 u=if u∈wl s.2.2.2 o (l! s.2.2.2) then (4,(gT s.2.2.2 u).2) else gT s.2.2.2 u:=aye I _ s.2.2.2 (λx hx=>(oS.1 hx).1) A
 rw[e];by_cases q:u∈wl s.2.2.2 o (l! s.2.2.2);rw[aD q,aD (.inr ⟨rfl,q⟩)];rw[av q,av (λh=>by rcases h with ⟨h,_⟩|⟨_,h⟩;omega;exact q h)];rw[av (n18 a18 a19)];have e:(ku w s t k o v).1.2.2.2=s.2.2.2:=by
  unfold ku;rw[av a1,av a2];repeat' split
  all_goals first|rfl|omega
 rw[e]
def Wk (w:WT) (e:ET) (k:Int):Prop:=((e.2.1=7\/e.2.1=11)/\e.2.2.1=k)\/(e.2.1=16/\L7 w e.2.2.1=k)
def rrl (e:ET) (k:Int):Prop:=e.2.1=9/\e.2.2.1=k
def aqw (w:WT) (e:ET) (k:Int):Prop:=((e.2.1=6\/e.2.1=10)/\e.2.2.1=k)\/(e.2.1=17/\L7 w e.2.2.1=k)
def aqr (e:ET) (k:Int):Prop:=e.2.1=8/\e.2.2.1=k
def Xo (w:WT) (e:ET) (k:Int):(aqw w e k/\∀p,lkF w e k p=(e.1,p.2))\/(Wk w e k/\∀p,lkF w e k p=(-1,p.2))\/(aqr e k/\∀p,lkF w e k p=(p.1,xR p.2 [e.1]))\/(rrl e k/\∀p,lkF w e k p=(p.1,wo p.2 e.1))\/∀p,lkF w e k p=p:=by
 by_cases h1:aqw w e k;exact .inl ⟨h1,λp=>aD h1⟩;by_cases h2:Wk w e k;exact .inr (.inl ⟨h2,λp=>(av h1).trans (aD h2)⟩);by_cases q:aqr e k;exact .inr (.inr (.inl ⟨q,λp=>((av h1).trans (av h2)).trans (aD q)⟩));by_cases A:rrl e k;exact .inr (.inr (.inr (.inl ⟨A,λp=>(((av h1).trans (av h2)).trans (av q)).trans (aD A)⟩)));exact .inr (.inr (.inr (.inr λp=>(((av h1).trans (av h2)).trans (av q)).trans (av A))))
def G0 (l:Y ET) (D:Nat->Prop) (u:Int) (i:Nat):Prop:=∀k,k<i->(eN l k).1=u->D k
variable {O:Nat->Prop}
def G0.dn (h:G0 L O a (i+1)):G0 L O a i:=λk hk=>h k M
def G0.up (h:G0 L O a i) (A:(eN L i).1≠a):G0 L O a (i+1):=λk hk q=>by
 by_cases e:k=i
 grind
 exact h k M q
def nD (D:Nat->Prop) (i:Nat) (P:Nat->Prop):Prop:=∃r,r<i/\¬D r/\P r
def nD.up {P:Nat->Prop} (h:nD O i P):nD O (i+1) P:=by
 let⟨r,a,b⟩:=h;exact⟨r,M,b⟩
structure SmL (w:WT) (l:List ET) (D:Nat->Prop) (i:Nat) (k:Int) (p p':Int×η):Prop where
 a:p'.1= -1\/p'.1=p.1\/nD D i λr=>Wk w (eN l r) k
 b:∀u:Int,0<=u->p.1=u->G0 l D u i->p'.1=u
 ra:∀u∈p'.2,u∈p.2\/nD D i λr=>rrl (eN l r) k
 rb:∀u∈p.2,G0 l D u i->u∈p'.2
 rc:∀u∈p'.2,G0 l D u i->u∈p.2
def SmL.run {w:WT} {p p':d!} (h:SmL w L O i a p p') (hD:O i):SmL w L O (i+1) a (lkF w (eN L i) a p) (lkF w (eN L i) a p'):=by
 let⟨k,b,I,A,rc⟩:=h;rcases Xo w (eN L i) a with ⟨_,e⟩|⟨_,e⟩|⟨_,e⟩|⟨_,e⟩|e<;>rw[e,e];exact⟨.inr (.inl rfl),λu _ q _=>q,λu q=>(I u q).imp id nD.up,λu q c=>A u q c.dn,λu q c=>rc u q c.dn⟩;exact⟨.inl rfl,λu _ q _=>q,λu q=>(I u q).imp id nD.up,λu q c=>A u q c.dn,λu q c=>rc u q c.dn⟩;refine ⟨k.imp id λh=>h.imp id nD.up,λu h0 q c=>b u h0 q c.dn,λu q=>?_,λu q c=>mA.2 ((mA.1 q).imp (λh=>A u h c.dn) id),λu q c=>mA.2 ((mA.1 q).imp (λh=>rc u h c.dn) id)⟩;rcases mA.1 q with q|q;exact (I u q).imp (λh=>mA.2 (.inl h)) nD.up;exact .inl (mA.2 (.inr q));refine ⟨k.imp id λh=>h.imp id nD.up,λu h0 q c=>b u h0 q c.dn,λu q=>?_,λu q c=>?_,λu q c=>?_⟩;let⟨h1,h2⟩:=gI.1 q;exact (I u h1).imp (λh=>gI.2 ⟨h,h2⟩) nD.up;let⟨h1,h2⟩:=gI.1 q;exact gI.2 ⟨A u h1 c.dn,h2⟩;let⟨h1,h2⟩:=gI.1 q;exact gI.2 ⟨rc u h1 c.dn,h2⟩;exact⟨k.imp id λh=>h.imp id nD.up,λu h0 q c=>b u h0 q c.dn,λu q=>(I u q).imp id nD.up,λu q c=>A u q c.dn,λu q c=>rc u q c.dn⟩
def SmL.skip {w:WT} {p p':d!} (h:SmL w L O i a p p') (hD:¬O i) (h1:aqw w (eN L i) a->p.1= -1):SmL w L O (i+1) a (lkF w (eN L i) a p) p':=by
 let⟨k,b,ra,I,rc⟩:=h;have own:∀{u:Int},G0 L O u (i+1)->u≠(eN L i).1:=λc z=>hD (c i M z.symm)
 rcases Xo w (eN L i) a with ⟨q,e⟩|⟨q,e⟩|⟨q,e⟩|⟨q,e⟩|e<;>rw[e];refine ⟨?_,λu _ A c=>bi A.symm (own c),λu A=>(ra u A).imp id nD.up,λu A c=>I u A c.dn,λu A c=>rc u A c.dn⟩;rcases k with k|k|k;exact .inl k
 grind
 exact .inr (.inr k.up);refine ⟨?_,λu h0 A _=>M,λu A=>(ra u A).imp id nD.up,λu A c=>I u A c.dn,λu A c=>rc u A c.dn⟩;exact .inr (.inr ⟨i,M,hD,q⟩);refine ⟨k.imp id λh=>h.imp id nD.up,λu h0 A c=>b u h0 A c.dn,λu A=>(ra u A).imp (λh=>mA.2 (.inl h)) nD.up,λu A c=>?_,λu A c=>mA.2 (.inl (rc u A c.dn))⟩;rcases mA.1 A with A|A;exact I u A c.dn
 grind
 have wm:∀{u:Int},u∈p.2->u≠(eN L i).1->u∈wo p.2 (eN L i).1:=λA hn=>gI.2 ⟨A,by rw[bE hn];rfl⟩
 refine ⟨k.imp id λh=>h.imp id nD.up,λu h0 A c=>b u h0 A c.dn,λu A=>?_,λu A c=>I u (gI.1 A).1 c.dn,λu A c=>wm (rc u A c.dn) (own c)⟩;rcases ra u A with h|h;by_cases z:u=(eN L i).1;exact .inr ⟨i,M,hD,q⟩;exact .inl (wm h z);exact .inr h.up;exact⟨k.imp id λh=>h.imp id nD.up,λu h0 A c=>b u h0 A c.dn,λu A=>(ra u A).imp id nD.up,λu A c=>I u A c.dn,λu A c=>rc u A c.dn⟩
structure SmX (l:List ET) (D:Nat->Prop) (i:Nat) (x x':Int):Prop where
 a:x'= -1\/x'=x\/nD D i λr=>(eN l r).2.1=13
 b:∀u:Int,0<=u->x=u->G0 l D u i->x'=u
def txF (e:ET) (x:Int):Int:=if e.2.1=12 then e.1 else if e.2.1=13 then -1 else x
def SmX.run {A:Int} (h:SmX L O i a A) (I:O i):SmX L O (i+1) (txF (eN L i) a) (txF (eN L i) A):=by
 unfold txF;by_cases k1:(eN L i).2.1=12;rw[aD k1,aD k1];exact⟨.inr (.inl rfl),λu _ q _=>q⟩;rw[av k1,av k1];by_cases k2:(eN L i).2.1=13;rw[aD k2,aD k2];exact⟨.inl rfl,λu _ q _=>q⟩;rw[av k2,av k2];exact⟨h.a.imp id λh=>h.imp id nD.up,λu h0 q c=>h.b u h0 q c.dn⟩
def SmX.skip {A:Int} (h:SmX L O i a A) (I:¬O i) (h1:(eN L i).2.1=12->a= -1):SmX L O (i+1) (txF (eN L i) a) A:=by
 unfold txF;by_cases k1:(eN L i).2.1=12;rw[aD k1];refine ⟨?_,λu _ q c=>bi (c i M q) I⟩;rcases h.a with x|x|x;exact .inl x;omega;exact .inr (.inr x.up);rw[av k1];by_cases k2:(eN L i).2.1=13;exact⟨.inr (.inr ⟨i,M,I,k2⟩),λu h0 q _=>M⟩;rw[av k2];exact⟨h.a.imp id λh=>h.imp id nD.up,λu h0 q c=>h.b u h0 q c.dn⟩
structure SmF (l:List ET) (D:Nat->Prop) (i:Nat) (o:Int) (d d':Bool):Prop where
 a:d'=J->d=J
 b:d=J->d'=J\/nD D i λr=>(eN l r).2.1=22/\(eN l r).2.2.1=o
def dnF (e:ET) (o:Int) (d:Bool):Bool:=if e.2.1=22/\e.2.2.1=o then J else d
variable {b:Bool}
def SmF.run {A:Bool} (h:SmF L O i a b A):SmF L O (i+1) a (dnF (eN L i) a b) (dnF (eN L i) a A):=by
 unfold dnF;by_cases k:(eN L i).2.1=22/\(eN L i).2.2.1=a;rw[aD k,aD k];exact⟨λ_=>rfl,λ_=>.inl rfl⟩;rw[av k,av k];exact⟨h.a,λq=>(h.b q).imp id nD.up⟩
def SmF.skip {A:Bool} (h:SmF L O i a b A) (I:¬O i):SmF L O (i+1) a (dnF (eN L i) a b) A:=by
 unfold dnF;by_cases k:(eN L i).2.1=22/\(eN L i).2.2.1=a;rw[aD k];exact⟨λ_=>rfl,λ_=>.inr ⟨i,M,I,k⟩⟩;rw[av k];exact⟨h.a,λq=>(h.b q).imp id nD.up⟩
structure SmT (l:List ET) (D:Nat->Prop) (i:Nat) (u:Int) (g g':Int×Int×Bool):Prop where
 z0:g.1=0->g'.1=0
 z1:g.1=1->g'.1=1\/nD D i λr=>(eN l r).2.1=20/\(eN l r).2.2.1=u
 z2:G0 l D u i->g.1=2->g'.1=2
 z5:G0 l D u i->g.1=5->g'.1=5
 z3:G0 l D u i->g.1=3->g'.1=3/\g'.2.1=g.2.1
 z4:G0 l D u i->g.1=4->g'.2.1=g.2.1/\(g'.1=4\/(g'.1=3/\¬D (EO l u.toNat i).toNat))
 za:G0 l D u i->g'.2.2=g.2.2
 zw:g'.1=3->(g.1=3/\g.2.1=g'.2.1)\/nD D i λr=>((eN l r).2.1=18\/(eN l r).2.1=19)/\(eN l r).2.2.1=g'.2.1
structure RdT (l:List ET) (i:Nat) (u:Int) (no:Prop) (g:Int×Int×Bool):Prop where
 b:u=(eN l i).1->(eN l i).2.1=1->g.1=1
 w:u=(eN l i).1->(eN l i).2.1=17->g.1=4
 r:u=(eN l i).1->(eN l i).2.1≠1->(eN l i).2.1≠17->g.1=2
 sp:(eN l i).2.1=20->u=(eN l i).2.2.1->g.1=0/\u≠(eN l i).1
 no:no->g.1=3/\g.2.1=(eN l i).2.2.1/\((eN l i).2.1=18\/(eN l i).2.1=19)
def owF (k o:Int) (g:c!):c!:=if k=1 then (2,g.2) else if k=2 then (5,g.2) else if k=14 then (g.1,g.2.1,J) else if k=15 then (g.1,g.2.1,af) else if k=16 then (3,o,g.2.2) else if k=17 then (2,0,g.2.2) else g
def Um {no:Prop} {g:c!} (h:RdT L i a no g) (A:a=(eN L i).1):thF (eN L i).2.1 (eN L i).1 (eN L i).2.2.1 a no g=owF (eN L i).2.1 (eN L i).2.2.1 g:=by
 have n1:¬no:=λq=>by
  have h1:=h.no q;have h2:=h.r A M M;omega
 have I:¬((eN L i).2.1=20/\a=(eN L i).2.2.1):=λq=>(h.sp q.1 q.2).2 A
 unfold thF owF
 grind
def Hd {no:Prop} {g:c!} (q:a≠(eN L i).1):thF (eN L i).2.1 (eN L i).1 (eN L i).2.2.1 a no g=if (eN L i).2.1=20/\a=(eN L i).2.2.1 then (1,g.2) else @ite _ no (gU _) (4,g.2) g:=by
 unfold thF
 grind
def amj {no:Prop} {g:c!} (h:RdT L i a no g) (q:a=(eN L i).1):(owF (eN L i).2.1 (eN L i).2.2.1 g).1=if (eN L i).2.1=2 then 5 else if (eN L i).2.1=16 then 3 else 2:=by
 have r:=h.r q;unfold owF
 grind
def aCq (k o:Int) {g g':c!} (h:g'.2.2=g.2.2):(owF k o g').2.2=(owF k o g).2.2:=by
 unfold owF
 grind
def awc {o:Int} (hk:a=16) (g:c!):(owF a o g).2.1=o:=by subst hk;rfl
def SmT.run {no no':Prop} {g g':c!} (h:SmT L O i a g g') (hD:O i) (po:a=(eN L i).1->G0 L O a i) (R:RdT L i a no g) (R':RdT L i a no' g') (hno:no↔no') (hw:a≠(eN L i).1->g.1=4->EO L a.toNat (i+1)=EO L a.toNat i):
 SmT L O (i+1) a (thF (eN L i).2.1 (eN L i).1 (eN L i).2.2.1 a no g) (thF (eN L i).2.1 (eN L i).1 (eN L i).2.2.1 a no' g'):=by
 by_cases A:a=(eN L i).1;rw[Um R A,Um R' A];have e1:=amj R A;have e2:=amj R' A;have e3:=aCq (eN L i).2.1 (eN L i).2.2.1 (h.za (po A));have e4:(owF (eN L i).2.1 (eN L i).2.2.1 g).1=3->(owF (eN L i).2.1 (eN L i).2.2.1 g).2.1=(eN L i).2.2.1/\(owF (eN L i).2.1 (eN L i).2.2.1 g').2.1=(eN L i).2.2.1:=λq=>by
  have k16:(eN L i).2.1=16:=M;exact⟨awc k16 g,awc k16 g'⟩
 generalize owF (eN L i).2.1 (eN L i).2.2.1 g=q at*
 generalize owF (eN L i).2.1 (eN L i).2.2.1 g'=q' at*
 have e6:q.1=5\/q.1=3\/q.1=2:=M;exact⟨λz=>M,λz=>M,λ_ z=>M,λ_ z=>M,λ_ z=>⟨M,by rw[(e4 z).1,(e4 z).2]⟩,λ_ z=>M,λ_=>e3,λz=>.inl ⟨M,by have:=e4 M;rw[this.1,this.2]⟩⟩;rw[Hd A,Hd A];have I:G0 L O a (i+1)->G0 L O a i:=G0.dn;by_cases sp:(eN L i).2.1=20/\a=(eN L i).2.2.1;rw[aD sp,aD sp];exact⟨nofun,λ_=>.inl rfl,λ_ z=>(by cases z),λ_ z=>(by cases z),λ_ z=>(by cases z),λ_ z=>(by cases z),λc=>h.za (I c),nofun⟩;rw[av sp,av sp];by_cases hn:no;rw[aD hn,aD (hno.1 hn)];let⟨a1,a2,_⟩:=R.no hn;let⟨b1,b2,_⟩:=R'.no (hno.1 hn);exact⟨nofun,nofun,λ_ z=>(by cases z),λ_ z=>(by cases z),λ_ z=>(by cases z),λ_ _=>⟨by dsimp only;rw[a2,b2],.inl rfl⟩,λc=>h.za (I c),nofun⟩;rw[av hn,av λq=>hn (hno.2 q)];exact⟨h.z0,λz=>(h.z1 z).imp id nD.up,λc=>h.z2 (I c),λc=>h.z5 (I c),λc=>h.z3 (I c),λc z=>by rw[hw A z];exact h.z4 (I c) z,λc=>h.za (I c),λz=>(h.zw z).imp id nD.up⟩
def SmT.skip {no:Prop} {g g':c!} (h:SmT L O i a g g') (hD:¬O i) (R:RdT L i a no g) (hw:a≠(eN L i).1->g.1=4->EO L a.toNat (i+1)=EO L a.toNat i) (hn':a≠(eN L i).1->no->EO L a.toNat (i+1)=(i:Int)):
 SmT L O (i+1) a (thF (eN L i).2.1 (eN L i).1 (eN L i).2.2.1 a no g) g':=by
 by_cases A:a=(eN L i).1;rw[Um R A];have e1:=amj R A;have nc:¬G0 L O a (i+1):=λc=>hD (c i M A.symm)
 have g3:g.1≠3:=λz=>by
  by_cases k1:(eN L i).2.1=1;have:=R.b A k1;omega;by_cases k17:(eN L i).2.1=17;have:=R.w A k17;omega;have:=R.r A k1 k17;omega
 generalize owF (eN L i).2.1 (eN L i).2.2.1 g=q at*
 have e6:q.1=5\/q.1=3\/q.1=2:=M;exact⟨λz=>M,λz=>M,λc=>(nc c).elim,λc=>(nc c).elim,λc=>(nc c).elim,λc=>(nc c).elim,λc=>(nc c).elim,λz=>by
  rcases h.zw z with z|z;exact (g3 z.1).elim;exact .inr z.up⟩
 rw[Hd A];have I:G0 L O a (i+1)->G0 L O a i:=G0.dn;by_cases sp:(eN L i).2.1=20/\a=(eN L i).2.2.1;rw[aD sp];have g0:=h.z0 (R.sp sp.1 sp.2).1;exact⟨nofun,λ_=>.inr ⟨i,M,hD,sp.1,sp.2.symm⟩,λ_ z=>(by cases z),λ_ z=>(by cases z),λ_ z=>(by cases z),λ_ z=>(by cases z),λc=>h.za (I c),λz=>M⟩;rw[av sp];by_cases hn:no;rw[aD hn];let⟨a1,a2,a3⟩:=R.no hn;refine ⟨nofun,nofun,λ_ z=>(by cases z),λ_ z=>(by cases z),λ_ z=>(by cases z),λc _=>?_,λc=>h.za (I c),λz=>?_⟩;let⟨b1,b2⟩:=h.z3 (I c) a1
 grind
 rcases h.zw z with z|z;exact .inr ⟨i,M,hD,a3,by rw[<- a2,z.2]⟩;exact .inr z.up;rw[av hn];exact⟨h.z0,λz=>(h.z1 z).imp id nD.up,λc=>h.z2 (I c),λc=>h.z5 (I c),λc=>h.z3 (I c),λc z=>by rw[hw A z];exact h.z4 (I c) z,λc=>h.za (I c),λz=>(h.zw z).imp id nD.up⟩
structure ClD (w:WT) (l:List ET) (D:Nat->Prop):Prop where
 po:∀i,i<l! l->D i->∀k,k<i->(eN l k).1=(eN l i).1->D k
 sp:∀i,i<l! l->D i->(eN l i).2.1=1->∀k,k<i->(eN l k).2.1=20->(eN l k).2.2.1=(eN l i).1->D k
 jo:∀i,i<l! l->D i->(eN l i).2.1=21->∀k,k<i->(eN l k).1=(eN l i).2.2.1->D k
 ge:∀i,i<l! l->D i->(eN l i).2.1=23->∀k,k<i->(eN l k).2.1=22->(eN l k).2.2.1=(eN l i).2.2.1->D k
 wk:∀i,i<l! l->D i->(eN l i).2.1=17->D (EO l (eN l i).1.toNat i).toNat
 lk:∀i,i<l! l->D i->∀k,k<i->∀o:Int,(aqw w (eN l i) o/\(Wk w (eN l k) o\/rrl (eN l k) o))\/(aqr (eN l i) o/\Wk w (eN l k) o)->D k
 tx:∀i,i<l! l->D i->(eN l i).2.1=12->∀k,k<i->(eN l k).2.1=13->D k
def rS (w:WT) (l:Y ET) (D:Nat->Prop):Nat->SY
 |0=>Q0 w
 |i+1=> @ite _ (D i) (gU _) (ku w (rS w l D i) (eN l i).1 (eN l i).2.1 (eN l i).2.2.1 (eN l i).2.2.2.1).1 (rS w l D i)
abbrev fS (w:WT) (l:Y ET) (i:Nat):SY:=(GD w (l.take i)).1
def M3 (w:WT) (h:i<l! L):fS w L (i+1)=(ku w (fS w L i) (eN L i).1 (eN L i).2.1 (eN L i).2.2.1 (eN L i).2.2.2.1).1:=by unfold fS;rw[D8 w h]
structure R6 (w:WT) (l:List ET) (D:Nat->Prop) (i:Nat) (s s':SY):Prop where
 e1:l! s'.1=l! w.2.1
 e2:l! s'.2.2.1=l! w.2.2.2.1
 e3:l! s'.2.2.2=l! w.2.2.2.2.1
 L:∀k:Int,0<=k->k<l! w.2.1->SmL w l D i k (aE dU s.1 k) (aE dU s'.1 k)
 X:SmX l D i s.2.1 s'.2.1
 F:∀o:Int,0<=o->o<l! w.2.2.2.1->SmF l D i o (aE (.bool) s.2.2.1 o) (aE (.bool) s'.2.2.1 o)
 T:∀u:Int,0<=u->u<l! w.2.2.2.2.1->SmT l D i u (gT s.2.2.2 u) (gT s'.2.2.2 u)
def R6.zero (w:WT) (l:Y ET) (D:Nat->Prop):R6 w l D 0 (Q0 w) (Q0 w):=
 ⟨by simp[Q0],by simp[Q0],by simp[Q0,Hc],λk _ _=>⟨.inr (.inl rfl),λu _ h _=>h,λu h=>.inl h,λu h _=>h,λu h _=>h⟩,⟨.inr (.inl rfl),λu _ h _=>h⟩,λo _ _=>⟨id,.inl⟩,
   λu _ _=>⟨id,.inl,λ_ h=>h,λ_ h=>h,λ_ h=>⟨h,rfl⟩,λ_ h=>⟨rfl,.inl h⟩,λ_=>rfl,λh=>.inl ⟨h,rfl⟩⟩⟩
def aa6 {w:WT} {s:SY} {e:ET} (rd:FO w s e.1 e.2.1 e.2.2.1) (h:aqw w e a):(aE dU s.1 a).1= -1:=by
 rcases h with ⟨h,rfl⟩|⟨h,rfl⟩;exact rd.aq M;exact (rd.wk h).2.2
def ay6 {w:WT} {s:SY} {e:ET} (rd:FO w s e.1 e.2.1 e.2.2.1) (h:Wk w e a):(aE dU s.1 a).1=e.1:=by
 rcases h with ⟨h,rfl⟩|⟨h,rfl⟩;exact rd.rl h;exact rd.nt (.inl h)
def L5 (w:WT) (l:Y ET) (L:Int) (j:Nat):Int:=(aE dU (fS w l j).1 L).1
def NH {w:WT} (tr:TR (w,L)) {l:Int} (L0:0<=l) (hj:i<l! L):L5 w L l (i+1)=(lkF w (eN L i) l (aE dU (fS w L i).1 l)).1:=by
 unfold L5;rw[M3 w hj,M' (tr.sc hj).en L0]
def UH {w:WT} (tr:TR (w,L)) {l t:Int} (L0:0<=l) (ht:0<=t) {a:Nat} (h0:L5 w L l a≠t):∀n:Nat,a+n<=l! L->L5 w L l (a+n)=t->∃q,a<=q/\q<a+n/\(eN L q).1=t/\aqw w (eN L q) l
 |0,_,h=>bi h h0
 |n+1,hn,h=>by
  by_cases e:L5 w L l (a+n)=t;let⟨q,I,a2,A⟩:=UH tr L0 ht h0 n M e;exact⟨q,I,M,A⟩;rw[<- mw,NH tr L0 (show a+n<l! L by omega)]at h;rcases Xo w (eN L (a+n)) l with ⟨q,f⟩|⟨q,f⟩|⟨q,f⟩|⟨q,f⟩|f<;>rw[f]at h
  grind
  omega;exact bi h e;exact bi h e;exact bi h e
def af9 {w:WT} (tr:TR (w,L)) {l:Int} (L0:0<=l) (A:0<=a) {v:Nat} (h0:L5 w L l v=a):∀n:Nat,v+n<=l! L->L5 w L l (v+n)≠a->∃r,v<=r/\r<v+n/\(eN L r).1=a/\Wk w (eN L r) l
 |0,_,h=>bi h0 h
 |n+1,hn,h=>by
  by_cases e:L5 w L l (v+n)=a;have sc:=tr.sc (show v+n<l! L by omega);rw[<- mw,NH tr L0 (show v+n<l! L by omega)]at h;have e':(aE dU (fS w L (v+n)).1 l).1=a:=e;rcases Xo w (eN L (v+n)) l with ⟨q,f⟩|⟨q,f⟩|⟨q,f⟩|⟨q,f⟩|f<;>rw[f]at h;have h9:a= -1:=e'.symm.trans (aa6 sc.rd q);omega;exact⟨v+n,M,M,(ay6 sc.rd q).symm.trans e',q⟩;exact bi e' h;exact bi e' h;exact bi e' h;let⟨q,a1,a2,I⟩:=af9 tr L0 A h0 n M e;exact⟨q,a1,M,I⟩
def ML {g:c!}:FX a g=J↔g.1=3/\g.2.1=a:=by unfold FX;simp
def aei {w:WT} (tr:TR (w,L)) (cl:ClD w L O) (hi:i<l! L) (hD:O i) {s':SY} (S:R6 w L O i (fS w L i) s') (hk:(eN L i).2.1=18\/(eN L i).2.1=19) (u0:0<=a) (u1:a<l! w.2.2.2.2.1):FX (eN L i).2.2.1 (gT (fS w L i).2.2.2 a)=FX (eN L i).2.2.1 (gT s'.2.2.2 a):=by
 have sc:=tr.sc hi;have t0:=sc.en.t0;have hL:=sc.en.nm.cd ⟨M,M⟩;have L0:0<=L7 w (eN L i).2.2.1:=(sc.en.cd _ (be (T:=itK) hL.1 hL.2)).1;have oi:L5 w L (L7 w (eN L i).2.2.1) i=(eN L i).1:=sc.rd.nt M;have T:=S.T a u0 u1;have main:(gT (fS w L i).2.2.2 a).1=3/\(gT (fS w L i).2.2.2 a).2.1=(eN L i).2.2.1↔(gT s'.2.2.2 a).1=3/\(gT s'.2.2.2 a).2.1=(eN L i).2.2.1:=by
  constructor;rintro⟨I,go⟩;have hu:a=((a.toNat:Nat):Int):=M;have W:=JQ tr i M a.toNat M;have eg:Wl w L i a.toNat=gT (fS w L i).2.2.2 a:=by unfold Wl;rw[<- hu]
  rw[eg]at W;let⟨p0,p1,p2⟩:=W.p (.inl I);have pl:=ama L a.toNat i;have po:=W5 (l:=L) (u:=a.toNat) i p0;have pg:∀k,k<i->(eN L k).1=a->k<=(Q2 L a.toNat i).toNat:=λk hk e=>by
   have et:=(mc tr (show k<l! L by omega)).th;have:=amb (l:=L) (u:=a.toNat) (i:=k) M i hk;omega
  generalize hA:(Q2 L a.toNat i).toNat=u at*
  have hai:u<i:=M;have et:=mc tr (show u<l! L by omega);have ka:(eN L u).2.1=16:=by rw[et.k,p1];rfl
  have oa:(eN L u).2.2.1=(eN L i).2.2.1:=by rw[et.ob (by rw[p1];decide),p2,go]
  have wa:Wk w (eN L u) (L7 w (eN L i).2.2.1):=.inr ⟨ka,by rw[oa]⟩;have ta:(eN L u).1=a:=by rw[et.th,po];omega
  have oa1:L5 w L (L7 w (eN L i).2.2.1) (u+1)≠(eN L i).1:=by
   rw[NH tr L0 M];rcases Xo w (eN L u) (L7 w (eN L i).2.2.1) with ⟨q,f⟩|⟨q,f⟩|⟨q,f⟩|⟨q,f⟩|f;rcases q with q|q<;>omega;rw[f];dsimp only;omega;have:=q.1;omega;have:=q.1;omega;have f:=f (aE dU (fS w L u).1 (L7 w (eN L i).2.2.1));have f2:lkF w (eN L u) (L7 w (eN L i).2.2.1) (aE dU (fS w L u).1 (L7 w (eN L i).2.2.1))=(-1,(aE dU (fS w L u).1 (L7 w (eN L i).2.2.1)).2):=by
    unfold lkF;rw[av M,aD (.inr ⟨ka,by rw[oa]⟩)]
   rw[f2];dsimp only;omega
  let⟨q,q1,q2,q3,q4⟩:=UH tr L0 t0 oa1 (i-(u+1)) M (by rw[show u+1+(i-(u+1))=i by omega];exact oi);have Dq:=cl.po i hi hD q M q3;have Da:=cl.lk q M Dq u M _ (.inl ⟨q4,.inl wa⟩);have hc:G0 L O a i:=λk hk e=>by
   by_cases z:k=u;rw[z];exact Da;exact cl.po u M Da k (by have:=pg k hk e;omega) (by rw[e,ta])
  let⟨a1,a2⟩:=T.z3 hc I;exact⟨a1,a2.trans go⟩;rintro⟨I,go⟩;rcases T.zw I with ⟨a1,a2⟩|⟨k,k1,k2,k3,k4⟩;exact⟨a1,a2.trans go⟩;exfalso;have sk:=tr.sc (show k<l! L by omega);have ok:L5 w L (L7 w (eN L i).2.2.1) k=(eN L k).1:=by
   have:=sk.rd.nt M;rw[k4,go]at this;exact this
  by_cases e:(eN L k).1=(eN L i).1;exact k2 (cl.po i hi hD k k1 e);let⟨q,q1,q2,q3,q4⟩:=UH tr L0 t0 (a:=k) (by rw[ok];exact e) (i-k) M (by rw[show k+(i-k)=i by omega];exact oi);have oq:L5 w L (L7 w (eN L i).2.2.1) q= -1:=aa6 (tr.sc (show q<l! L by omega)).rd q4;let⟨r,r1,r2,r3,A⟩:=af9 tr L0 sk.en.t0 ok (q-k) M (by rw[show k+(q-k)=q by omega,oq];have:=sk.en.t0;omega);have Dq:=cl.po i hi hD q M q3;have Dr:=cl.lk q M Dq r M _ (.inl ⟨q4,.inl A⟩);have rk:r≠k:=λz=>by
   subst z;rcases A with A|A<;>omega
  exact k2 (cl.po r M Dr k M r3.symm)
 cases h1:FX (eN L i).2.2.1 (gT (fS w L i).2.2.2 a) with
 |true=>exact (ML.2 (main.1 (ML.1 h1))).symm
 |false=>
  cases h2:FX (eN L i).2.2.1 (gT s'.2.2.2 a) with
  |false=>rfl
  |true=>rw[ML.2 (main.2 (ML.1 h2))]at h1;cases h1
def R6.rdy {w:WT} (tr:TR (w,L)) (cl:ClD w L O) (hi:i<l! L) (hD:O i) {s':SY} (S:R6 w L O i (fS w L i) s'):EN w s' (eN L i).1 (eN L i).2.1 (eN L i).2.2.1/\FO w s' (eN L i).1 (eN L i).2.1 (eN L i).2.2.1:=by
 have sc:=tr.sc hi;have en:=sc.en;have rd:=sc.rd;have nm:=en.nm;have t0:=en.t0;have t1:=en.t1;have A:G0 L O (eN L i).1 i:=λk hk e=>cl.po i hi hD k hk e
 have T:=S.T _ t0 t1;have mu:16<=(eN L i).2.1/\(eN L i).2.1<=19->0<=L7 w (eN L i).2.2.1/\L7 w (eN L i).2.2.1<l! w.2.1:=λg=>by
  let⟨a,b⟩:=nm.cd g;exact en.cd _ (be (T:=itK) a b)
 have free:∀k:Int,0<=k->k<l! w.2.1->aqw w (eN L i) k\/aqr (eN L i) k->(aE dU (fS w L i).1 k).1= -1->(aE dU s'.1 k).1= -1:=λk k0 k1 q h=>by
  rcases (S.L k k0 k1).a with a|a|⟨r,r1,r2,I⟩;exact a;exact a.trans h;refine bi (cl.lk i hi hD r r1 k ?_) r2
  grind
 refine ⟨⟨nm,t0,t1,en.cd,S.e1,S.e2,S.e3⟩,⟨λk=>?_,λk=>?_,λk k'=>T.z2 A (rd.r k k'),λk=>?_,λk=>?_,λk=>?_,λk=>?_,λk=>?_,λk=>?_,λk=>S.X.b _ t0 (rd.xe k) A,λk=>(T.za A).trans (rd.ab k),λk=>(T.za A).trans (rd.ae k),λk=>?_,λk=>⟨(rd.sp k).1,?_⟩,λk=>⟨(rd.jo k).1,?_⟩,λk=>?_,λk=>?_⟩⟩;rcases T.z1 (rd.b k) with h|⟨r,r1,r2,I,r4⟩;exact h;exact bi (cl.sp i hi hD k r r1 I r4) r2;let⟨a,b,c⟩:=rd.wk k;let⟨m0,m1⟩:=mu M;let⟨z1,z2⟩:=T.z4 A a;refine ⟨?_,z1.trans b,free _ m0 m1 (.inl (.inr ⟨k,rfl⟩)) c⟩;rcases z2 with z2|⟨_,z2⟩;exact z2;exact bi (cl.wk i hi hD k) z2;let⟨a,b⟩:=nm.lk M;refine free _ a b ?_ (rd.aq k);by_cases k8:(eN L i).2.1=8;exact .inr ⟨k8,rfl⟩;exact .inl (.inl ⟨M,rfl⟩);let⟨a,b⟩:=nm.lk M;have h:=rd.wr k;cases hr:(aE dU s'.1 (eN L i).2.2.1).2 with
 |nil=>rfl
 |cons u r=>
  rcases (S.L _ a b).ra u cf with q|⟨r,r1,r2,I⟩
  grind
  exact bi (cl.lk i hi hD r r1 _ (.inl ⟨.inl ⟨.inr k,rfl⟩,.inr I⟩)) r2
 let⟨a,b⟩:=nm.lk M;have h:=rd.ra k;cases hq:(aE dU s'.1 (eN L i).2.2.1).2.contains (eN L i).1 with
 |false=>rfl
 |true=>
  rw[ca.2 ((S.L _ a b).rc _ (ca.1 hq) A)]at h;cases h
 let⟨a,b⟩:=nm.lk M;exact (S.L _ a b).b _ t0 (rd.rl k) A;let⟨a,b⟩:=nm.lk M;exact ca.2 ((S.L _ a b).rb _ (ca.1 (rd.rr k)) A);rcases S.X.a with a|a|⟨r,r1,r2,I⟩;exact a;exact a.trans (rd.xb k);exact bi (cl.tx i hi hD k r r1 I) r2;let⟨m0,m1⟩:=mu M;exact (S.L _ m0 m1).b _ t0 (rd.nt k) A;let⟨a,b⟩:=nm.th (.inl k);exact (S.T _ a b).z0 (rd.sp k).2;let⟨a,b⟩:=nm.th (.inr k);exact (S.T _ a b).z5 (λm hm e=>cl.jo i hi hD k m hm e) (rd.jo k).2;let⟨a,b⟩:=nm.fu (.inl k);have h:=rd.se k;cases hq:aE (.bool) s'.2.2.1 (eN L i).2.2.1 with
 |false=>rfl
 |true=>rw[(S.F _ a b).a hq]at h;cases h
 let⟨a,b⟩:=nm.fu (.inr k);rcases (S.F _ a b).b (rd.ge k) with h|⟨r,r1,r2,I,r4⟩;exact h;exact bi (cl.ge i hi hD k r r1 I r4) r2
def apn (w:WT) (s:SY) (t k o v:Int):(ku w s t k o v).1.1.length=l! s.1/\(ku w s t k o v).1.2.2.1.length=l! s.2.2.1/\(ku w s t k o v).1.2.2.2.length=l! s.2.2.2:=by
 cases kdI k
 case no h _=>simp only[ku,h,dQ,L1];exact⟨trivial,trivial,trivial⟩
 all_goals simp[ku,bP,bC,dQ,fM,L1,owP,rdP,xQ,cdP,atP,bu,Es]
 all_goals first|exact⟨trivial,trivial,trivial⟩|skip
 all_goals (split<;>simp[bu])
def rdT {w:WT} {s:SY} (rd:FO w s (eN L i).1 (eN L i).2.1 (eN L i).2.2.1) (v u:Int):RdT L i u (noP s.2.2.2 (eN L i).2.1 (eN L i).2.2.1 v u) (gT s.2.2.2 u):=
 ⟨λA k=>by rw[A];exact rd.b k,λA k=>by rw[A];exact (rd.wk k).1,λA k I=>by rw[A];exact rd.r k I,λk A=>⟨by rw[A];exact (rd.sp k).2,λz=>(rd.sp k).1 (A.symm.trans z)⟩,λq=>⟨q.w.2.2.1,q.w.2.2.2,q.imp And.left And.left⟩⟩
def R6.next {w:WT} (tr:TR (w,L)) (cl:ClD w L O) (hi:i<l! L) {s':SY} (S:R6 w L O i (fS w L i) s'):R6 w L O (i+1) (fS w L (i+1)) (@ite _ (O i) (gU _) (ku w s' (eN L i).1 (eN L i).2.1 (eN L i).2.2.1 (eN L i).2.2.2.1).1 s'):=by
 have sc:=tr.sc hi;have en:=sc.en;have e3:=en.e3;have e2:=en.e2;have rd:=sc.rd;have wka:∀u:Int,0<=u->u<l! w.2.2.2.2.1->u≠(eN L i).1->((gT (fS w L i).2.2.2 u).1=4->EO L u.toNat (i+1)=EO L u.toNat i)/\(noP (fS w L i).2.2.2 (eN L i).2.1 (eN L i).2.2.1 (eN L i).2.2.2.1 u->EO L u.toNat (i+1)=(i:Int)):=λu u0 I hu=>by
  have ht:¬(dc L i).th=u.toNat:=λz=>hu (by have:=(mc tr hi).th;omega)
  have W:=JQ tr i M u.toNat M;have W':=JQ tr (i+1) M u.toNat M;have eu:((u.toNat:Nat):Int)=u:=M;have eg:Wl w L i u.toNat=gT (fS w L i).2.2.2 u:=by unfold Wl;rw[eu]
  have eg':Wl w L (i+1) u.toNat=gT (fS w L (i+1)).2.2.2 u:=by unfold Wl;rw[eu]
  rw[eg]at W;rw[eg',M3 w hi,IV w _ _ _ _ _ en u u0 (by rw[e3];exact I),Hd hu]at W';refine ⟨λg4=>aek ht (W.n g4).1,λno=>?_⟩;have hw:=no.w;have n20:¬((eN L i).2.1=20/\u=(eN L i).2.2.1):=λq=>by rcases no with n|n<;>omega
  rw[av n20,aD no]at W';have h1:=(W'.n rfl).1;have h2:=W.a hw.2.2.1;rw[EO,av ht,av M]at h1 ⊢;split at h1;rename_i q;rw[aD q];omega
 rw[M3 w hi];by_cases A:O i;rw[aD A];let⟨en',rd'⟩:=S.rdy tr cl hi A;let⟨l1,l2,l3⟩:=apn w s' (eN L i).1 (eN L i).2.1 (eN L i).2.2.1 (eN L i).2.2.2.1;refine ⟨l1.trans S.e1,l2.trans S.e2,l3.trans S.e3,λk k0 k1=>?_,?_,λo o0 o1=>?_,λu u0 I=>?_⟩;rw[M' en k0,M' en' k0];exact (S.L k k0 k1).run A;rw[V7,V7];exact S.X.run A;have h:=(S.F o o0 o1).run;rw[adz,adz];have q:∀(x:θ),l! x=l! w.2.2.2.1->aE (.bool) (if (eN L i).2.1=22 then bW x (eN L i).2.2.1 J else x) o=dnF (eN L i) o (aE (.bool) x o):=λx hx=>by
  unfold dnF;by_cases k:(eN L i).2.1=22;let⟨a,b⟩:=en.nm.fu (.inl k);rw[aD k,jT (T:=.bool) x _ _ _ a (by rw[hx];exact b) o0];by_cases z:o=(eN L i).2.2.1;rw[aD z,aD ⟨k,z.symm⟩];rw[av z,av λy=>z y.2.symm];rw[av k,av λy=>k y.1]
 rw[q _ e2,q _ S.e2];exact h;rw[IV w _ _ _ _ _ en u u0 (by rw[e3];exact I),IV w _ _ _ _ _ en' u u0 (by rw[S.e3];exact I)];refine (S.T u u0 I).run A (λhu k hk e=>cl.po i hi A k hk (by rw[e,hu])) (rdT rd _ u) (rdT rd' _ u) ?_ λhu=>(wka u u0 I hu).1
 by_cases hk:(eN L i).2.1=18\/(eN L i).2.1=19;have:wl (fS w L i).2.2.2 (eN L i).2.2.1 (fS w L i).2.2.2.length=wl s'.2.2.2 (eN L i).2.2.1 (l! s'.2.2.2):=by
  rw[show (fS w L i).2.2.2.length=l! s'.2.2.2 from e3.trans S.e3.symm];exact Ni _ λv hv=>aei tr cl hi A S hk M (by rw[S.e3]at hv;omega)
 unfold noP;rw[this];exact⟨λq=>(hk (q.imp And.left And.left)).elim,λq=>(hk (q.imp And.left And.left)).elim⟩;rw[av A];refine ⟨S.e1,S.e2,S.e3,λk k0 k1=>?_,?_,λo o0 o1=>?_,λu u0 I=>?_⟩;rw[M' en k0];exact (S.L k k0 k1).skip A λq=>aa6 rd q
 rw[V7];exact S.X.skip A rd.xb;have h:=(S.F o o0 o1).skip A;rw[adz];unfold dnF at h;by_cases k:(eN L i).2.1=22;let⟨a,b⟩:=en.nm.fu (.inl k);rw[aD k,jT (T:=.bool) _ _ _ _ a (by rw[e2];exact b) o0];by_cases z:o=(eN L i).2.2.1;rw[aD z];rw[aD ⟨k,z.symm⟩]at h;exact h;rw[av z];rw[av λy=>z y.2.symm]at h;exact h;rw[av k];rw[av λy=>k y.1]at h;exact h;rw[IV w _ _ _ _ _ en u u0 (by rw[e3];exact I)];exact (S.T u u0 I).skip A (rdT rd _ u) (λhu=>(wka u u0 I hu).1) λhu=>(wka u u0 I hu).2
def sim {w:WT} (tr:TR (w,L)) (cl:ClD w L O):∀i,i<=l! L->R6 w L O i (fS w L i) (rS w L O i)
 |0,_=>R6.zero w L O
 |i+1,h=>(sim tr cl i M).next tr cl M
def aCg {w:WT} (tr:TR (w,L)) (cl:ClD w L O) (I:i<l! L) (k1:(eN L i).2.1≠1) (k17:(eN L i).2.1≠17) (nX:¬O i) (hc:G0 L O (eN L i).1 i):∀n,i+n<=l! L->(gT (rS w L O (i+n)).2.2.2 (eN L i).1).1=2
 |0,h=>by
  have sc:=tr.sc I;exact ((sim tr cl i h).T _ sc.en.t0 sc.en.t1).z2 hc (sc.rd.r k1 k17)
 |n+1,h=>by
  have ih:=aCg tr cl I k1 k17 nX hc n M;have sx:=tr.sc I;show (gT (@ite _ (O (i+n)) (gU _) (ku w (rS w L O (i+n)) (eN L (i+n)).1 (eN L (i+n)).2.1 (eN L (i+n)).2.2.1 (eN L (i+n)).2.2.2.1).1 (rS w L O (i+n))).2.2.2 (eN L i).1).1=2;by_cases A:O (i+n);have S:=sim tr cl (i+n) M;let⟨en',rd'⟩:=S.rdy tr cl M A;have ht:(eN L i).1≠(eN L (i+n)).1:=λz=>by
   by_cases e:n=0;subst e;exact nX A;exact nX (cl.po _ M A i M z)
  rw[aD A,IV w _ _ _ _ _ en' _ sx.en.t0 (by rw[S.e3];exact sx.en.t1),Hd ht];have n1:¬((eN L (i+n)).2.1=20/\(eN L i).1=(eN L (i+n)).2.2.1):=λq=>by
   have h9:=(rd'.sp q.1).2
   grind
  rw[av n1,av λq=>bi (ih.symm.trans q.w.2.2.1) cr];exact ih
  grind
def amu {w:WT} (tr:TR (w,L)) (hi:i<l! L) (h:(dc L i).k=16\/(dc L i).k=17):L7 w (eN L i).2.2.1=(UQ w.2.2.1 (dc L i).ob:Int):=by
 have q:=mc tr hi;have en:=(tr.sc hi).en;have hob:=q.ob (by rcases h with h|h<;>rw[h]<;>decide);have A:(eN L i).2.1=16\/(eN L i).2.1=17:=by have:=q.k;omega
 let⟨a,b⟩:=en.nm.cd M;have h0:=(en.cd _ (be (T:=itK) a b)).1;unfold L7;rw[hob]at h0 ⊢;rw[sD (T:=itK)]at h0 ⊢;have:(List.getD w.2.2.1 (dc L i).ob (Ty.zero itK)).2=((UQ w.2.2.1 (dc L i).ob:Nat):Int):=by
  unfold UQ
  grind
 exact this
def apt {w:WT} (tr:TR (w,L)) (hi:i<l! L) :(aqw w (eN L i) a->R2 w (dc L i)=(a,af)/\0<=a)/\(aqr (eN L i) a->R2 w (dc L i)=(a,J)/\0<=a):=by
 have q:=mc tr hi;have I:=q.k;refine ⟨λh=>?_,λh=>?_⟩;rcases h with ⟨h,rfl⟩|⟨h,rfl⟩;have k6:(dc L i).k=6\/(dc L i).k=10:=M;have A:=q.ob cf;unfold R2
 grind
 have k17:(dc L i).k=17:=M;unfold R2;rw[av M,av M,aD k17,amu tr hi (.inr k17)];exact⟨rfl,M⟩;obtain⟨h,rfl⟩:=h;have A:=q.ob cf;unfold R2
 grind
def aa5 {w:WT} (tr:TR (w,L)) (hi:i<l! L) :(Wk w (eN L i) a->AU w (dc L i)=(a,af))/\(rrl (eN L i) a->AU w (dc L i)=(a,J)):=by
 have q:=mc tr hi;have I:=q.k;refine ⟨λh=>?_,λh=>?_⟩;rcases h with ⟨h,rfl⟩|⟨h,rfl⟩;have k7:(dc L i).k=7\/(dc L i).k=11:=M;have A:=q.ob cf;rw[am8 k7,A];have k16:(dc L i).k=16:=M;rw[aez k16,amu tr hi (.inl k16)];obtain⟨h,rfl⟩:=h;have k9:(dc L i).k=9:=M;have A:=q.ob cf;rw[am7 k9,A]
def aCk {w:WT} (tr:TR (w,L)) (hi:i<l! L) (hk:m<l! L) (h:(aqw w (eN L i) a/\(Wk w (eN L m) a\/rrl (eN L m) a))\/(aqr (eN L i) a/\Wk w (eN L m) a)):sfP w L i m:=by
 refine .inl ?_;rcases h with ⟨o,b⟩|⟨o,b⟩;let⟨e1,A⟩:=(apt tr hi).1 o;rw[e1];rcases b with b|b;rw[(aa5 tr hk).1 b];exact⟨A,rfl,λq=>by cases q.1⟩;rw[(aa5 tr hk).2 b];exact⟨A,rfl,λq=>by cases q.1⟩;let⟨e1,A⟩:=(apt tr hi).2 o;rw[e1,(aa5 tr hk).1 b]
 grind
def alm {w:WT} (tr:TR (w,L)) (hi:i<l! L) (hk:m<l! L) (h:(eN L m).1=(eN L i).1):(dc L m).th=(dc L i).th:=by
 have h1:=(mc tr hi).th;have h2:=(mc tr hk).th;omega
def ann {w:WT} (tr:TR (w,L)) (hi:i<l! L) (hk:m<l! L) (h:((eN L i).2.1=1/\(eN L m).2.1=20/\(eN L m).2.2.1=(eN L i).1)\/((eN L i).2.1=21/\(eN L m).1=(eN L i).2.2.1)\/((eN L i).2.1=23/\(eN L m).2.1=22/\(eN L m).2.2.1=(eN L i).2.2.1)):hrP w L i m:=by
 have I:=mc tr hi;have A:=mc tr hk;have i1:=I.th;have i2:=I.k;have k1:=A.th;have k2:=A.k;rcases h with ⟨a,b,c⟩|⟨a,b⟩|⟨a,b,c⟩;have q:(dc L m).k=20:=M;have eo:=A.ob (by simp_all);exact .inl ⟨M,q,M⟩;have q:(dc L i).k=21:=M;have eo:=I.ob (by simp_all);exact .inr (.inl ⟨q,M⟩);have q:(dc L i).k=23:=M;have eo:=I.ob (by simp_all);have q':(dc L m).k=22:=M;have eo':=A.ob (by simp_all);exact .inr (.inr (.inr ⟨q,q',M⟩))
def DS.cl {w:WT} (tr:TR (w,L)) {st:Nat} (R:Wa w L i m) (hs:st<=i):ClD w L (DS w L i m st):=by
 have up:∀{A k:Nat},DS w L i m st A->k<A->LE (sJ w L k) (sJ w L A)->DS w L i m st k:=λh hk hle=>h.dn tr R hk hle
 refine ⟨λA hi h k hk e=>up h hk (ath tr hi hk (alm tr hi M e)),λA hi h a k hk b c=>up h hk (ati tr hi hk (ann tr hi M (.inl ⟨a,b,c⟩))),λA hi h a k hk b=>up h hk (ati tr hi hk (ann tr hi M (.inr (.inl ⟨a,b⟩)))),λA hi h a k hk b c=>up h hk (ati tr hi hk (ann tr hi M (.inr (.inr ⟨a,b,c⟩)))),λA hi h a=>?_,λA hi h k hk o q=>up h hk (aDe tr hi hk (aCk tr hi M q)),λA hi h a k hk b=>up h hk (aDe tr hi hk (.inr ⟨?_,?_⟩))⟩;have I:=mc tr hi;have k17:(dc L A).k=17:=by have:=I.k;omega
 have e:(eN L A).1.toNat=(dc L A).th:=by have:=I.th;omega
 rw[e];have h1:=al8 L (dc L A).th A;let⟨h2,h3⟩:=e_wk tr hi k17;exact up h M h3;have:=(mc tr hi).k;omega;have:=(mc tr (show k<l! L by omega)).k;omega
def DS.rd {w:WT} (tr:TR (w,L)) {B st:Nat} (R:Wa w L m B) (I:st<=m) (h:DS w L m B st i) (q:rdN L i):DS w L m B st (rsN L i):=h.dn tr R (am4 q) (R.rd i (h.lt tr R I) q)
def DS.cgA {w:WT} (tr:TR (w,L)) {st:Nat} (R:Wa w L i m):G0 L (DS w L i m st) (eN L i).1 i:=λk hk e=>DS.dnA tr R hk (ath tr (by have:=R.ab;have:=R.bn;omega) hk (alm tr (by have:=R.ab;have:=R.bn;omega) (by have:=R.ab;have:=R.bn;omega) e))
def DS.cgB {w:WT} (tr:TR (w,L)) {st:Nat} (R:Wa w L i m):G0 L (DS w L i m st) (eN L m).1 m:=λk hk e=>DS.dnB tr R hk (ath tr R.bn hk (alm tr R.bn (by have:=R.bn;omega) e))
def Q8 (r:η):Prop:=LX r/\∀z∈r,0<=z/\z<4
def P8 (s:Y d!):Prop:=∀x∈s,Q8 x.2
def P8.get {s:Y d!} (h:P8 s) (o:Int):Q8 (aE dU s o).2:=by
 unfold aE;rw[aC];cases e:s[o.toNat]? with
 |none=>exact⟨trivial,λz q=>by cases q⟩
 |some x=>exact h x (bh e)
def P8.set {s:Y d!} (h:P8 s) (o a:Int) (A:Q8 c):P8 (bW s o (a,c)):=λx q=>by
 rcases li q with q|rfl;exact h x q;exact A
def Gz (p:Int->Bool):∀{l:η},LX l->LX (l.filter p)
 |[],_=>trivial
 |x::r,h=>by
  rw[List.filter_cons];split;exact⟨λy q=>h.1 y ((gI.1 q).1),Gz p h.2⟩;exact Gz p h.2
def P8.ite {c:Prop} [Decidable c] {a b:Y?} (A:P8 a.1.1) (q:P8 b.1.1):P8 (if c then a else b).1.1:=cf
def P8.ap {w:WT} {s:SY} (h:P8 s.1) {t:Int} (k o v:Int) (t0:0<=t) (I:t<4):P8 (ku w s t k o v).1.1:=by
 have ow:∀a b,P8 (owP s.1 a b):=λa b=>h.set a b (h.get a)
 have un:P8 (rdP s.1 o (xR (aE dU s.1 o).2 [t])):=h.set _ _ ⟨Wu _ _,λz q=>by
  rcases mA.1 q with q|q;exact (h.get o).2 z q;rw[aG]at q;subst q;exact⟨t0,I⟩⟩
 have A:P8 (rdP s.1 o (wo (aE dU s.1 o).2 t)):=h.set _ _ ⟨Gz _ (h.get o).1,λz q=>(h.get o).2 z (gI.1 q).1⟩;exact P8.ite h (P8.ite h (P8.ite (ow _ _) (P8.ite (ow _ _) (P8.ite un (P8.ite A (P8.ite h (P8.ite h (P8.ite h (P8.ite h (P8.ite (ow _ _) (P8.ite (ow _ _) (P8.ite (P8.ite h h) (P8.ite h (P8.ite h (P8.ite h h)))))))))))))))
def xS (w:WT) (l:Y ET):SN:=l.foldl (nxP w) (MN w)
def Jj (w:WT) (h:i<l! L):xS w (L.take (i+1))=nxP w (xS w (L.take i)) (eN L i):=by
 rw[lM (T:=iP) h];unfold xS;rw[dG];rfl
structure K8 (w:WT) (l:List ET) (i:Nat) (s:SN):Prop where
 a:(s.1,s.2.1,s.2.2.1)=GD w (l.take i)
 r:P8 s.1.1
 c:l! s.2.1=l! w.1
 f:l! s.2.2.1=l! w.2.2.2.1
 k:l! s.2.2.2=l! w.2.2.2.2.1
 n:CN (l.take i) s.2.2.2
def Ek {w:WT} (tr:TR (w,L)):∀i:Nat,i<=l! L->K8 w L i (xS w (L.take i))
 |0,_=>⟨rfl,λx A=>by rw[r7 A];exact⟨trivial,λz q=>by cases q⟩,by simp[xS,ce0],by simp[xS,fu0],by simp[xS],λt t0 t1=>by
   have:(aA (l! w.2.2.2.2.1) (0:Int)).getD t.toNat 0=0:=cf;exact this⟩
 |i+1,h=>by
  let⟨a,r,c,f,k,n⟩:=Ek tr i M;have sc:=tr.sc (i:=i) M;have I:=tr.len;have ht:=tr.wb.t;dsimp only at I ht;have en:=sc.en;have e1:=en.t1;have htk:=sM i L;rw[Jj w M];refine ⟨?_,r.ap _ _ _ en.t0 M,?_,?_,?_,?_⟩;rw[D8 w M,<-a];rfl;unfold nxP Zn;split;rw[bu];exact c;exact c;unfold nxP ZY;split;rw[bu];exact f;exact f;unfold nxP;rw[bu];exact k;have:=n.next (eN L i) en.t0 M M;rw[lM (T:=iP) (show i<l! L by omega)];exact this
def axz {w:WT} (tr:TR (w,L)) (hi:i<l! L):mC (w,xS w (L.take i),eN L i)=Z (xS w (L.take (i+1)),J):=by
 let⟨a,r,c,f,k,n⟩:=Ek tr i M;have sc:=tr.sc hi;have A:=tr.wx;have ht:=tr.wb.t;have hls:=tr.ls _ (DE hi);dsimp only at A ht hls;rw[Jj w hi];rw[<- a]at sc;generalize xS w (L.take i)=s at*
 generalize eN L i=e at*
 have en:=sc.en;have e1:=en.t1;have l3:l! w.2.1=3:=by rw[A.l];rfl
 have nc:=n e.1 en.t0 M;have b1:=tr.wb.c;have b4:=tr.wb.f;have b3:=tr.wb.d;dsimp only at b1 b4 b3;have q1:=en.e1;have q2:=en.e2;have q3:=en.e3;dsimp only at q1 q2 q3;refine aEa (n:=4) w s e ⟨⟨M,M,λx hx=>?_,M,M⟩,M,M,M⟩ M M ⟨c,f,k⟩ en ⟨sc.rd,sc.s1,sc.s2,sc.de,sc.fr,by rw[nc];exact sc.nd,by rw[nc];exact sc.nf,sc.va⟩ hls.1 hls.2 (λh=>?_) M r M;have:=EK x.2 0 4 (r x hx).1 (r x hx).2;omega;have I:=en.nm.lk M;have q:=en.nm.rw M;generalize e.2.2.1=o at I q;rw[A.l]at I q;have:o=0\/o=1\/o=2:=by have:G5.length=3:=rfl;omega
 rcases this with rfl|rfl|rfl;cases q;cases q;rfl
abbrev fN (l:Y ET) (i:Nat) (t:Int):θ:=fl (l.take i) t
def ayz (h:i<l! L) {t:Int} (e:(eN L i).1=t):fN L (i+1) t=fN L i t++[UC (eN L i)]:=by
 unfold fN;rw[lM (T:=iP) h,tD,yY e]
def aof (h:i<l! L) {t:Int} (e:¬(eN L i).1=t):fN L (i+1) t=fN L i t:=by
 unfold fN;rw[lM (T:=iP) h,tD,vx e,cS]
def az0 (l:Y ET) (i:Nat) (t:Int):l! (fN l i t)<=l! l:=cR (OT _ _) (List.length_take_le' ..)
structure RwB (w:WT) (l:List ET) (i:Nat) (lens:η) (rows:List θ):Prop where
 ll:l! lens=l! w.2.2.2.2.1
 lr:l! rows=l! w.2.2.2.2.1
 r:∀u:Nat,u<l! w.2.2.2.2.1->rows.getD u []=fN l i (u:Int)
 n:∀u:Nat,u<l! w.2.2.2.2.1->lens.getD u 0=aZ (l! (fN l i (u:Int)))
def RwB.zero (w:WT) (l:Y ET):RwB w l 0 (aA (l! w.2.2.2.2.1) 0) (aA (l! w.2.2.2.2.1) []):=by
 refine ⟨cQ ..,cQ ..,λu q=>?_,λu q=>?_⟩;rw[aC,kN,aD q];rfl;rw[aC,kN,aD q];rfl
def RwB.next {w:WT} (hi:i<l! L) {rows:Y θ} (h:RwB w L i c rows) {t:Int} (I:0<=t) (t1:t<l! w.2.2.2.2.1) (et:(eN L i).1=t) (hb:UC (eN L i)=b):RwB w L (i+1) (Eg c (aL t) (aZ (ah (BX (T:=.bool) rows t++[b])))) (zN (T:=.bool) (zN (T:=.bool) rows t []) t (BX (T:=.bool) rows t++[b])):=by
 let⟨h1,h2,A,h4⟩:=h;have er:BX (T:=.bool) rows t=fN L i t:=by
  have:=A t.toNat M;rw[zE I]at this;exact this
 have own:=ayz hi et;refine ⟨by rw[c_,h1],by unfold zN;rw[c_,c_,h2],λu q=>?_,λu q=>?_⟩;unfold zN;rw[aC,gy];by_cases e:t.toNat=u
 grind
 rw[av e,gy,av e,<-aC,A u q,aof hi M];rw[aC,gy];by_cases e:t.toNat=u
 grind
 rw[av e,<-aC,h4 u q,aof hi M]
def aBu {w:WT} (tr:TR (w,L)):iS (w,L)=Z (0,0):=by
 have hl:l! L<=400:=tr.len;have hT:l! w.2.2.2.2.1<=4:=tr.wb.t;refine bZ ?_;unfold iS oB bf bB bN cM dD iD ck bp bO vI bT bM a8 cW aJ cH;refine gJ (jJ.2 cf) (aV (VW8 tr.wx tr.vl) (ia (aV (azz tr.wx) ?_)));refine cq (cq (fB b8 (a? (dB cf M ?_))));refine kz (l! L) M (λi x=>∃lens rows,x=((i:Int),(w,L),xS w (L.take i),lens,rows)/\RwB w L i lens rows) ?_ ?_ ⟨_,_,by simp[ax,dH];rfl,RwB.zero w L⟩;rintro i x hi ⟨lens,rows,rfl,q⟩;have sc:=tr.sc hi;have e1:=sc.en.t1;have e0:=sc.en.t0;have st:=axz tr hi;have hls:=tr.ls _ (DE hi);have fa:=az0 L i (eN L i).1;have et:(eN L i).1=(((eN L i).1.toNat:Nat):Int):=M;have I:BX (T:=.bool) rows (eN L i).1=fN L i (eN L i).1:=by
  have:=q.r (eN L i).1.toNat M;rw[<- et]at this;exact this
 have en:aL (QR lens (eN L i).1)=l! (BX (T:=.bool) rows (eN L i).1):=by
  have:=q.n (eN L i).1.toNat M;rw[<- et,<-I]at this;unfold QR;rw[this];rfl
 have rd:fH (((((eN L i).1,aZ (l! (BX (T:=.bool) rows (eN L i).1))),eN L i),rows))=Z (J,rows):=by
  refine arq e0 (by rw[q.lr];exact e1) ?_ ?_ hls.1 hls.2;rw[I];exact sc.rd1;rw[I];exact sc.rd2
 have nx:=λb=>q.next hi e0 e1 rfl (b:=b)
 have l1:=q.ll;have l2:=q.lr;refine cV (bK (aX ?_));have hg:aE iP L (i:Int)=eN L i:=rfl;rw[hg];generalize eN L i=e at*
 refine aV st ?_;refine a6 (λx=>x=(af,(w,L),xS w (L.take i),lens,e,xS w (L.take (i+1)),rows)) ?_ ?_;refine ia (bK (bK ?_));rw[en];exact aV rd (ak rfl);rintro x rfl;refine ia (a6 (λx=>∃lens' rows',x=((w,L),xS w (L.take i),lens',xS w (L.take (i+1)),rows')/\RwB w L (i+1) lens' rows') ?_ ?_);refine bK (bK ?_);rw[en];refine aN (λh=>bK (cq (bI (x_ _) (dB cf M (bK (bK (ak ⟨_,_,rfl,nx _ ?_⟩))))))) λh=>bK (cq (bI (x_ _) (dB cf M (bK (bK (ak ⟨_,_,rfl,nx _ ?_⟩))))))
 unfold UC;rw[aP h];rfl;unfold UC;rw[bE h];rfl;rintro x ⟨lens',rows',rfl,A⟩;refine ak ⟨lens',rows',?_,A⟩;rw[iC];rintro x ⟨lens,rows,rfl,_⟩;exact cK (ak rfl)
def LU (w:WT) (s:SY) (hw:l! w.2.2.1<=1000) (I:∀c∈w.2.2.1,0<=c.2/\c.2<l! w.2.1) (e1:l! s.1=l! w.2.1) (e2:l! s.2.2.1=l! w.2.2.2.1) (e3:l! s.2.2.2=l! w.2.2.2.2.1):pE (w,s)=Z J:=by
 refine bZ ?_;unfold pE bf bB bN dh bp bO bM a8 cW aJ cH;refine bX (l! w.2.2.1) (λi x=>x=((i:Int),w,s)) ?_ ?_ rfl
 .rintro i x hi rfl;have hc:=I _ (be (T:=itK) (xs:=w.2.2.1) (j:=(i:Int)) M M);with_reducible repeat' first|apply OS.ok;constructor|refine IM.mk λ_=>?_
  all_goals try simp only[ax,sN] at*
  all_goals first|omega|skip
  rw[iC]
 rintro x rfl;refine cK (ay (P:=λb=>b=J) (a6 (λx=>x=J) ?_ λx q=>ak q) λb A=>ak A);exact aN (λ_=>aN (λ_=>ak cf) λg=>(g cf).elim) λg=>(g cf).elim
def aal (w:WT) (k o:Int) (h:NM w k o):rH (w,k,o)=Z J:=by
 refine bZ ?_;let⟨k1,k2,ce,A,cn,th,I,no,q,rw_⟩:=h;unfold rH bf bB bN cM bp bM a8 aJ;cases kdI k
 case no hk _=>omega
 all_goals simp only[bP,dP,QP,Xu]
 all_goals with_reducible repeat' first|apply OS.ok;constructor|refine IM.mk λ_=>?_
 all_goals try simp[ax,sN] at*
 all_goals first|omega|exact rw_ ⟨cr,cr⟩|(simp [*,Bool.not_false,eY];done)
set_option maxHeartbeats 4000000 in
def Wj {n:Nat} (w:WT) (s:SY) (hs:SB n s) (hw:l! w.2.2.1<=1000) (t k o:Int) (he:EN w s t k o) (hr:FO w s t k o):j5 (w,s,t,k,o)=Z J:=by
 refine bZ ?_;obtain⟨nm,t0,t1,cd,e1,e2,e3⟩:=id he;unfold j5 bf bB bN cg dD dh bp jP bM a8 aJ;refine a6 (λx=>x=(af,w,s)) ?_ ?_;refine aV (LU w s hw cd e1 e2 e3) ?_;refine ia ?_;simp only[Xu,UL];refine bY (λg=>(g ⟨t0,t1⟩).elim) λ_=>?_
 refine aV (aal w k o nm) (ak rfl);rintro x rfl;refine ia ?_;obtain⟨_,_,ce,lk,cn,th,fu,_,_,_⟩:=nm;have hm:16<=k/\k<=19->0<=(aE itK w.2.2.1 o).2/\(aE itK w.2.2.1 o).2<l! w.2.1:=λh=>cd _ (be (cn h).1 (cn h).2)
 have hH:6<=k/\k<=11->sY ((aE dU s.1 o).2,t)=Z ((aE dU s.1 o).2.contains t):=λh=>QD _ _ (by
  have:=hs.rd _ (be (T:=dU) (lk h).1 (by have:=(lk h).2;omega));have:=hs.n1;omega)
 cases kdI k
 case no hk _=>omega
 all_goals simp only[bP,dP,QP]
 all_goals with_reducible repeat' first|apply OS.ok;constructor|refine IM.mk λ_=>?_
 all_goals try simp only[hH M,UL]
 all_goals with_reducible repeat' first|apply OS.ok;constructor|refine IM.mk λ_=>?_
 all_goals try simp only[ax,sN] at*
 all_goals first|omega|exact (hm ⟨cr,cr⟩).1|(rw [e1];exact (hm ⟨cr,cr⟩).2)|skip
 all_goals first|exact hr.b cr|exact hr.aq cr|exact hr.rl cr|exact hr.rr cr|(rw [hr.ra cr];rfl)|(have:=hr.wr cr;omega)|exact hr.xb cr|exact hr.xe cr|(rw [hr.ab cr];rfl)|exact hr.ae cr|exact hr.nt cr|exact (hr.sp cr).2|exact (hr.jo cr).2|(rw [hr.se cr];rfl)|exact hr.ge cr|exact (hr.wk cr).2.2|(exfalso;first|(have:=hr.r cr cr;contradiction)|(have:=hr.aq cr;contradiction)|(have:=(hr.wk cr).1;contradiction)|(have:=(hr.wk cr).2.1;contradiction)|(have:=(hr.sp cr).1;contradiction)|(have:=(hr.jo cr).1;contradiction))|skip
def ZT (w:WT) (s:SN) (A:l! w.2.2.1<=1000) (t k o:Int) (he:EN w s.1 t k o) (hf:F16 w s):wQ (w,s)=Z J:=by
 refine bZ ?_;refine a6 (λx=>x=J) ?_ λx q=>ak q
 refine aV (LU w s.1 A he.cd he.e1 he.e2 he.e3) (afm ?_);have:=hf.c;have:=hf.f;have:=hf.k;exact aN (λ_=>aN (λ_=>ak cf) λg=>(g cf).elim) λg=>(g cf).elim
def apk:∀{l:η},LX l->∀k:Nat,k+1<l! l->l.getD k 0<l.getD (k+1) 0
 |[],_,k,h|[x],_,k,h=>by simp at h
 |x::y::r,h,0,_=>h.1 y (bU ..)
 |x::y::r,h,k+1,hk=>by have:=apk h.2 k cf;simpa using this
def HA (l:η) (c:Int) (I:l! l<=1000000000) (h:AN c l):pB (l,c)=Z J:=by
 refine bZ ?_;refine bX (l! l) (λi x=>x=(i:Int)) ?_ ?_ rfl;rintro i x hi rfl;have hm:=h.m _ (be (T:=aO) (xs:=l) (j:=(i:Int)) M M);have A:0<(i:Int)->aU .i64 ((i:Int)-1)=((i-1:Nat):Int):=λh=>by rw[iF];omega
 refine cV (a6 (λx=>x=af) ?_ ?_);refine bK (aX (bF (λg=>bi g cf) λ_=>bK (aX (eX (λg=>bi g cf) λ_=>bF (λg=>?_) λ_=>ak rfl))));refine bK (aX ?_);dsimp only;rw[A g];refine bK (aX (ak ?_));have q:=apk h.a (i-1) M;rw[show i-1+1=i by omega]at q;exact jK.2 q;rintro x rfl;exact ia (ak iC);rintro x rfl;exact cK (ak rfl)
def Z5 (w:WT) (s:SN) (hs:NB i s) (hf:F16 w s) (e:ET) (he:EN w s.1 e.1 e.2.1 e.2.2.1) (hv:VA w s.1 s.2.1 s.2.2.1 e.1 e.2.1 e.2.2.1 e.2.2.2.1):xf (s,e)=Z J:=by
 refine bZ ?_;let⟨t,k,o,v,si,de,fr⟩:=e;let⟨A,s2,s3,s4⟩:=s;let⟨nm,t0,t1,cd,e1,e2,e3⟩:=he;let⟨_,_,ce,lk,cn,th,fu,_,_,_⟩:=nm;let⟨f1,f2,f3⟩:=hf;let⟨v3,I,v5,vel⟩:=hv;have hth:=hs.sb.th;dsimp only at*
 have hW:=Qo A o hth;have hWl:=vH A.2.2.2 o (l! A.2.2.2);refine aN (λh=>?_) λn3=>?_
 have h:k=3:=h;let⟨c0,c1⟩:=ce (.inl h);exact aS c0 cf (aX (ak (aP (v3 h))));refine aN (λh=>?_) λn23=>?_
 have h:k=23:=h;let⟨c0,c1⟩:=fu (.inr h);exact aS c0 cf (aX (ak (aP (I h))));refine aN (λh=>?_) λn5=>?_
 have h:k=5:=h;exact h_ (aN (λh2=>ak (ak rfl)) λh2=>ak (ak (aP ((v5 h).resolve_left h2))));refine a6 (λx=>x.2=((A,s2,s3,s4),t,k,o,v,si,de,fr)/\(x.1=af->¬k=4/\¬k=22)) (aN (λh=>ak ⟨rfl,λg=>bi g cf⟩) λh=>ak ⟨rfl,λg=>⟨h,m8 g⟩⟩) ?_;rintro⟨b,x⟩ ⟨e,hb⟩;dsimp only at e hb;subst e;refine aR (λh=>ak rfl) λh=>?_
 let⟨n4,n22⟩:=hb h;have val:=vel n3 n23 n5 n4 n22;refine aN (λh=>?_) λn18=>?_
 have h:k=18:=h;subst h;rw[D7]at val;have hmem:¬l! (wl A.2.2.2 o (l! A.2.2.2))=0->0<=v/\v<l! A.2.2.2/\(wl A.2.2.2 o (l! A.2.2.2)).contains v=J:=λg=>by
  rw[av g]at val;dsimp only at val;unfold CJ at val;rw[av g]at val;by_cases c:(wl A.2.2.2 o (l! A.2.2.2)).contains v=J;have:=(oS (th:=A.2.2.2) (c:=o)).1 (by simpa using c:v∈wl A.2.2.2 o (l! A.2.2.2));exact⟨this.1,this.2.1,c⟩;exfalso;rw[av c]at val;refine c ?_;rw[val];have hz:wl A.2.2.2 o (l! A.2.2.2)≠[]:=λq=>g cf
  generalize wl A.2.2.2 o (l! A.2.2.2)=y at hz ⊢;cases y with
  |nil=>exact (hz rfl).elim
  |cons a r=>rw[show aE aO (a::r) 0=a from rfl];simp
 refine aV hW ?_;refine aN (λg=>ak cf) λg=>?_
 dsimp only[ax]at g;let⟨q0,q1,q2⟩:=hmem M;refine h_ (eX (λ_=>bF (λ_=>?_) λq=>bi q cf) λq=>bi q cf);exact aV (QD _ _ M) (ak (ak q2));refine aN (λh=>?_) λn19=>?_
 have h:k=19:=h;subst h;exact aV hW (ak (aP (by rw[apo]at val;exact val)));rw[apm _ _ _ _ _ _ n18 n19]at val;exact ak (aP val)
def ZF (w:WT) (s:SN) (hs:NB i s) (hw:l! w.2.2.1<=1000) (e:ET) (hcb:(aE aO s.2.2.2 e.1:Int)<=1000000) (hF:F16 w s) (hE:EN w s.1 e.1 e.2.1 e.2.2.1) (I:S16 w s e):Ok (nY (w,s,e)) λy=>y.2=J:=by
 have hd:l! e.2.2.2.2.2.1<=1000000000:=by
  have h3:(l! e.2.2.2.2.2.1:Int)<=max (0:Int) (aE aO s.2.2.2 e.1):=I.nd.len
  grind
 have hf:l! e.2.2.2.2.2.2<=1000000000:=by
  have h3:(l! e.2.2.2.2.2.2:Int)<=max (0:Int) (aE aO s.2.2.2 e.1):=I.nf.len
  grind
 have hEn:=Wj w s.1 hs.sb hw e.1 e.2.1 e.2.2.1 hE I.rd;let⟨nm,t0,t1,cd,e1,e2,e3⟩:=id hE;let⟨k1,k2,ce,lk,cn,th,fu,_,_,_⟩:=nm;let⟨f1,f2,f3⟩:=id hF;unfold nY bf bB bN cM gE cg dD dh iD sL ck bp bO jP bT bM nI a8 cW aJ cH;refine a6 (λx=>x=(af,w,s,e,0)) ?_ ?_;refine aV (ZT w s hw _ _ _ hE hF) (ia ?_);simp only[asp,UL];refine bY (λg=>(g ⟨t0,t1⟩).elim) λ_=>bF (λg=>bi g (iZ.2 k1)) λ_=>bF (λg=>bi g (iZ.2 k2)) λ_=>aV hEn (ak rfl)
 rintro x rfl;refine ia (a6 (λx=>x=(w,s,e,0)) ?_ ?_);refine a6 (λx=>x.2=(w,s,e,0)/\(x.1=J->e.2.1=1\/e.2.1=2)/\(x.1=af->¬(e.2.1=1\/e.2.1=2))) ?_ ?_;refine aN (λh=>ak ⟨rfl,λ_=>.inl h,nofun⟩) λh=>ak ⟨rfl,λh2=>.inr (a_ h2),λh2=>?_⟩
 grind
 rintro⟨x1,x2⟩ ⟨q,hy1,hy2⟩;dsimp only at q hy1 hy2;subst q;refine aR (λhk=>bY (λg=>(g (I.s1 (hy1 hk))).elim) λ_=>ak rfl) λhk=>?_
 let⟨q1,q2,q3⟩:=I.s2 (hy2 hk);refine a6 (λx=>x=(af,w,s,e,0)) ?_ ?_;simp only[asp,UL];refine bY (λg=>(g ⟨q1,q2⟩).elim) λ_=>aS q1 q2 (aX (ak ?_))
 dsimp only;rw[q3];simp;rintro x rfl;exact ia (ak rfl);rintro x rfl;refine a6 (λx=>x.2=(w,s,e,0)/\(x.1=J->e.2.1=3\/e.2.1=4)/\(x.1=af->¬(e.2.1=3\/e.2.1=4))) ?_ ?_;refine aN (λh=>ak ⟨rfl,λ_=>.inl h,nofun⟩) λh=>ak ⟨rfl,λh2=>.inr (a_ h2),λh2=>?_⟩
 grind
 rintro⟨x1,x2⟩ ⟨q,hx1,hx0⟩;dsimp only at q hx1 hx0;subst q;refine a6 (λx=>x=(af,w,s,e,0)) ?_ ?_;refine bF (λg=>bY (λn5=>?_) λ_=>ak rfl) λ_=>ak rfl
 have de:=(I.de cf).resolve_left n5;refine aR (λh=>?_) λh=>(hx0 h de.1).elim
 refine aS (ce (hx1 h)).1 (ce (hx1 h)).2 (aX (ak ?_))
 grind
 rintro x rfl;refine ia (a6 (λx=>x=(af,w,s,e,0)) ?_ ?_);refine bF (λg=>bY (λn4=>ak ?_) λ_=>ak rfl) λ_=>ak rfl
 have fr:=(I.fr cf).resolve_left n4;dsimp only;simp[fr];rintro x rfl;have hk:=hs.k;have hc:=hs.c;have hfu:=hs.f;refine ia (a6 (λx=>x=(af,w,s,e,0)) ?_ ?_);refine aS t0 (by rw[f3];exact t1) (aX (aV (HA _ _ hd I.nd) (ia ?_)));refine aS t0 (by rw[f3];exact t1) (aX (aV (HA _ _ hf I.nf) (ia ?_)));exact aV (Z5 w s hs hF e hE I.va) (ak rfl);rintro x rfl;refine ia (a! (a! (a! ?_)));refine a6 (λx=>x.2=(w,s,e,0,0,s.2.1,s.2.2.1,s.2.2.2)) ?_ ?_;exact aN (λ_=>ak rfl) λh=>ak rfl
 rintro⟨x1,x2⟩ q;dsimp only at q;subst q;refine ay (QJ w s.1 hs.sb hw e.1 e.2.1 e.2.2.1 x1) λy hy=>?_
 refine a6 (λx=>x.1=e/\l! x.2.2.2.1=l! s.2.1/\x.2.2.2.2=(s.2.2.1,s.2.2.2)) ?_ ?_;refine aN (λh=>?_) λh=>ak ⟨rfl,rfl,rfl⟩
 have A:=ce (.inr h);refine aS A.1 lX (aS A.1 lX (ak ⟨rfl,?_,rfl⟩));dsimp only;rw[bu];rintro⟨x1,x2,x3,x4,x5,x6⟩ ⟨h1,h2,h4⟩;simp only[aT]at h1 h4;obtain⟨rfl,rfl⟩:=h4;subst h1;refine a6 (λx=>x.1=x1/\x.2.2.2.2.2=s.2.2.2) ?_ ?_;refine aN (λh=>?_) λh=>ak ⟨rfl,rfl⟩
 have A:=fu (.inl h);exact aS A.1 lX (aS A.1 lX (ak ⟨rfl,rfl⟩));rintro⟨x1,x2,x3,x4,x5,x6⟩ ⟨h1,h6⟩;simp only at h1 h6;subst h1 h6;with_reducible repeat' first|apply OS.ok;constructor|refine IM.mk λ_=>?_
 all_goals try simp only[ax,sN] at*
 all_goals first|omega|skip
abbrev WN:Type:=WT×Int×SN×Y ET
structure G1 (w:WT) (s:SN) (e:ET):Prop where
 en:EN w s.1 e.1 e.2.1 e.2.2.1
 s16:S16 w s e
 eq:nY (w,s,e)=Z (nxP w s e,J)
abbrev zF (w:WT) (s:SN) (l:Y ET) (i:Nat):SN:=(l.take i).foldl (nxP w) s
def WJ (w:WT) (s:SN) (h:i<l! L):zF w s L (i+1)=nxP w (zF w s L i) (eN L i):=by
 unfold zF;rw[lM (T:=iP) h,dG];rfl
def CHN (w:WT) (s:SN) (l:Y ET):Prop:=∀i:Nat,i<l! l->G1 w (zF w s l i) (eN l i)
def G1.nb {w:WT} {s:SN} {e:ET} (g:G1 w s e) (h:NB i s) (q:l! w.2.2.1<=1000) (he:EvS e) (A:i+1<=100000):NB (i+1) (nxP w s e):=by
 let⟨y,h1,h2,_⟩:=T4 w s h q e (.inl (by have:=he.1;omega)) (.inl (by have:=he.2;omega));rw[g.eq]at h1;cases h1;exact (h2 rfl).2.1.NB h A
def aql (h:∀e∈L,EvS e) (hi:i<l! L):EvS (eN L i):=h _ (be (T:=iP) (xs:=L) (j:=(i:Int)) M M)
def CHN.nb {w:WT} {s:SN} (c:CHN w s L) (h:NB i s) (q:l! w.2.2.1<=1000) (A:∀e∈L,EvS e) (I:i+l! L<=90000):∀n,n<=l! L->NB (i+n) (zF w s L n)
 |0,_=>h
 |n+1,hi=>by
  rw[WJ w s M];exact (c n M).nb (CHN.nb c h q A I n M) q (aql A M) (by show i+n+1<=100000;omega)
def NB.mono {s:SN} (h:NB i s) (hnm:i<=m) (hm:m<=100000:=by omega):NB m s:=⟨⟨hm,h.sb.lk,λl q=>cR (h.sb.rd l q) hnm,h.sb.dn,h.sb.th⟩,h.c,h.f,h.k⟩
structure wJ (x:WN):Prop where
 vl:VL x.1
 lk:x.1.2.1=G5
 nb:NB 800 x.2.2.1
 f16:F16 x.1 x.2.2.1
 fy:l! x.2.2.1.1.1=l! x.1.2.1/\l! x.2.2.1.1.2.2.1=l! x.1.2.2.2.1/\l! x.2.2.1.1.2.2.2=l! x.1.2.2.2.2.1
 p8:P8 x.2.2.1.1.1
 ch:CHN x.1 x.2.2.1 x.2.2.2
 ln:l! x.2.2.2<=8
 es:∀e∈x.2.2.2,EvS e
def CHN.p8 {w:WT} {s:SN} (c:CHN w s L) (h:P8 s.1.1) (q:VL w):∀i,i<=l! L->P8 (zF w s L i).1.1
 |0,_=>h
 |i+1,hi=>by
  rw[WJ w s M];have g:=c i M;have:=q.t;exact (CHN.p8 c h q i M).ap _ _ _ g.en.t0 (by have:=g.en.t1;omega)
def CHN.slice {w:WT} {s:SN} (c:CHN w s L) (i m:Nat):CHN w (zF w s L i) ((L.drop i).take m):=λk hk=>by
 rw[bm,fG]at hk;have h1:((L.drop i).take m).take k=(L.drop i).take k:=by rw[Ef];congr 1;omega
 have h2:zF w (zF w s L i) ((L.drop i).take m) k=zF w s L (i+k):=by
  unfold zF;rw[h1,<-dG,List.take_add]
 have q:eN ((L.drop i).take m) k=eN L (i+k):=by
  unfold eN;rw[sD,sD];simp only[aC];rw[dF,aD M,kH]
 rw[h2,q];exact c (i+k) M
def dpE (e:ET) (n:Int):Prop:=n∈e.2.2.2.2.2.1\/n∈e.2.2.2.2.2.2
def K8.nb {w:WT} (h:K8 w L i (zF w (MN w) L i)) (tr:TR (w,L)) (hi:i<l! L):NB 4 (zF w (MN w) L i)/\EN w (zF w (MN w) L i).1 (eN L i).1 (eN L i).2.1 (eN L i).2.2.1/\S16 w (zF w (MN w) L i) (eN L i):=by
 have sc:=tr.sc hi;rw[<- h.a]at sc;have en:=sc.en;have b1:=tr.wb.c;have b2:=tr.wb.l;have I:=tr.wb.f;have A:=tr.wb.t;dsimp only at b1 b2 I A;have q1:=en.e1;have q2:=en.e2;have q3:=en.e3;dsimp only at q1 q2 q3;have hc:=h.c;have hf:=h.f;have hk:=h.k;refine ⟨⟨⟨M,M,λx q=>?_,M,M⟩,M,M,M⟩,en,⟨sc.rd,sc.s1,sc.s2,sc.de,sc.fr,?_,?_,sc.va⟩⟩;have:=EK x.2 0 4 (h.r x q).1 (h.r x q).2;omega;rw[h.n _ en.t0 (by rw[hk];exact en.t1)];exact sc.nd;rw[h.n _ en.t0 (by rw[hk];exact en.t1)];exact sc.nf
def CHN.tr {w:WT} (tr:TR (w,L)):CHN w (MN w) L:=λi hi=>by
 have h:K8 w L i (zF w (MN w) L i):=Ek tr i M;let⟨nb,en,q⟩:=h.nb tr hi;have hd:l! w.2.2.1<=1000:=by have:=tr.wb.d;dsimp only at this;omega
 have A:=tr.ls _ (DE hi);dsimp only at A;have hcb:=h.n.bd (eN L i).1;have hl:=sM i L;have I:=tr.len;dsimp only at I;let⟨y,h1,h2,_⟩:=T4 w _ nb hd (eN L i) (.inl (by have:=A.1;omega)) (.inl (by have:=A.2;omega));let⟨y',g1,g2⟩:=ZF w _ nb hd (eN L i) (yd hcb M) ⟨h.c,h.f,h.k⟩ en q;rw[h1]at g1;cases g1;exact⟨en,q,by rw[h1,<-(h2 g2).2.2.2,<-g2]⟩
def QE {e:ET} {t:Int}:T9 (L++[e]) t a->T9 L t a\/(e.1=t/\UC e=J/\a=(l! (fl L t):Int)):=by
 rintro⟨h0,h1⟩;rw[tD,aC]at h1;rcases co a.toNat (l! (fl L t)) with g|g;refine .inl ⟨h0,?_⟩
 grind
 rw[cL g]at h1;by_cases he:e.1=t;rw[yY he]at h1
 grind
 rw[vx he]at h1;simp at h1
def Nt (l:Y ET) (i t:Int) (ns:η) (hl:l! l<=1000000000) (hi:0<=i/\i<=l! l) (hn:l! ns<=1000000000) (h:∀y∈ns,T9 (l.take i.toNat) t y):uo (l,i,t,ns)=Z J:=by
 refine bZ ?_;unfold uo bf cg bp bO jP bM a8 cW aJ cH;refine bX (l! ns) (λk x=>x=(k:Int)) ?_ ?_ rfl;rintro k x hk rfl;have hy:=h _ (be (T:=aO) (xs:=ns) (j:=(k:Int)) M M);refine bF (λg4=>?_) λg4=>cf
 refine sQ (λx=>(i-x.2.2).toNat) (λx=>0<=x.2.2/\x.2.2<=i/\x.1=(l! (fl (l.take x.2.2.toNat) t):Int)/\(T9 (l.take x.2.2.toNat) t (aE aO ns (k:Int))->x.2.1=J)) ?_ ⟨b8,hi.1,by simp[fl],λq=>by have:=q.2;simp[fl]at this⟩;rintro⟨a,b,(c:Int)⟩ ⟨I,c1,ha,hb⟩;dsimp only at I c1 ha hb;subst ha;obtain⟨c,rfl⟩:∃n:Nat,c=(n:Int):=⟨c.toNat,M⟩
 dsimp only;rw[dH];have hfl:=OT (l.take c) t;have htl:=sM c l;refine bF (λA=>?_) λA=>?_
 have A:(c:Int)<i:=A;have htk:l.take (c+1)=l.take c++[aE iP l (c:Int)]:=lM (T:=iP) M;refine a6 (λy=>y.1=(l! (fl (l.take (c+1)) t):Int)/\(T9 (l.take (c+1)) t (aE aO ns (k:Int))->y.2=J)) ?_ ?_;rw[htk,tD];refine aS I M (aX ?_);refine bY (λhne=>ak ⟨by rw[vx hne];simp,λq=>(QE q).elim hb λz=>(hne z.1).elim⟩) λhe=>?_
 refine a6 (λy=>T9 (l.take c++[aE iP l (c:Int)]) t (aE aO ns (k:Int))->y=J) ?_ λy hy=>ak ⟨?_,hy⟩
 refine aR (λq=>ak λ_=>rfl) λhbf=>?_
 have nb:¬T9 (l.take c) t (aE aO ns (k:Int)):=λq=>cf
 refine bK (aX ?_);refine aN (λ_=>?_) λhnn=>ak λq=>((QE q).elim (λz=>(nb z).elim) λz=>(hnn z.2.2.symm).elim)
 refine aS I M (aX ?_);refine aN (λ_=>ak λ_=>rfl) λn3=>?_
 refine aS I M (aX (ak λq=>?_));rcases QE q with z|⟨_,z,_⟩;exact (nb z).elim;unfold UC at z;rw[bE n3,vG]at z;exact z;rw[yY he,iC];simp;rintro⟨p,q⟩ ⟨hp,hq⟩;refine ak ?_;dsimp only at hp hq ⊢;rw[iC,dH]
 grind
 have A:i<=(c:Int):=A;have hci:c=i.toNat:=M;refine ay (P:=λr=>r=lB (((k+1:Nat):Int))) ?_ λr hr=>by subst hr;exact ak rfl
 refine dJ (λq=>?_) λ_=>ak (by rw[iC])
 grind
 rintro x rfl;refine bF (λg4=>cf) λ_=>ak rfl
def aes {w:WT} (tr:TR (w,L)) (hi:i<l! L):nY (w,xS w (L.take i),eN L i)=Z (xS w (L.take (i+1)),J):=by
 rw[Jj w hi];exact (CHN.tr tr i hi).eq
def aqo {w:WT} (tr:TR (w,L)):Ok (xg (w,L)) λy=>y.2=0:=by
 have hl:l! L<=400:=tr.len;have vl:VL w:=tr.vl;unfold xg cM cg iD bO bM a8 cW aJ cH;refine bF (λg=>cf) λ_=>?_
 refine aV (Co tr.wx) (ia (aV (Qq w vl) ?_));refine bX (l! L) (λi x=>x=((i:Int),(w,L),xS w (L.take i))) ?_ ?_ rfl;rintro i x hi rfl;have sc:=tr.sc hi;have h5:=sc.nd.len;have h6:=sc.nf.len;have h7:=OT (L.take i) (eN L i).1;have htk:=sM i L;have r1:=Nt L (i:Int) (eN L i).1 (eN L i).2.2.2.2.2.1 M ⟨M,M⟩ M sc.rd1;have r2:=Nt L (i:Int) (eN L i).1 (eN L i).2.2.2.2.2.2 M ⟨M,M⟩ M sc.rd2;have hg:aE iP L (i:Int)=eN L i:=rfl;refine cV (bK (aX ?_));refine aV (aes tr hi) ?_;refine a6 (λx=>x.1=af/\x.2.1=(w,L)/\x.2.2.2=xS w (L.take (i+1))) (ia (aV r1 (ia (aV r2 (ak ⟨rfl,rfl,rfl⟩))))) ?_;rintro⟨c,p,q,r⟩ ⟨I,A,f3⟩;subst I A f3;exact ia (ak (by dsimp only;rw[iC]));rintro x rfl;exact cK (ak rfl)
def jI (x:ud×g!):aj (Yd8×Bool):=
 (jn (α:=Bool×X!) (jO 0 (aU .i64 (x.2.1-x.1.2.1)) (jO 0 (aU .i64 (x.2.2-x.1.2.1)) (bO (aU .i64 (x.2.1-x.1.2.1)) (a8 x.1.d) (aJ ((hY (aU .i64 (x.2.2-x.1.2.1)) (a8 x.1.d)),1,(aU .i64 (x.2.1-x.1.2.1)),(aU .i64 (x.2.2-x.1.2.1)),0,0)) (aJ (af,1,(aU .i64 (x.2.1-x.1.2.1)),(aU .i64 (x.2.2-x.1.2.1)),0,0))) (aJ (af,1,(aU .i64 (x.2.1-x.1.2.1)),(aU .i64 (x.2.2-x.1.2.1)),0,0))) (aJ (af,1,(aU .i64 (x.2.1-x.1.2.1)),(aU .i64 (x.2.2-x.1.2.1)),0,0))) λx1=>(Z ((x1.2.1,x1.a,x1.b,x1.c,x1.h,([]:η)),x1.1)))
def xa (_:Unit):aj (Bool):=Z J
def kL (x:u!):aj (Bool):=
 (jn (bO 200 (a8 x.1) (aJ J) (aJ (hY 60 (a8 x.2)))) λx1=>(Z x1))
def eO (x:η×x!):aj (Bool):=
 (aw (kL (x.1,x.2.1)) λy1=>(aK y1 (Z J) (aw (yk (x.1,x.2.1)) λy2=>(aw (uz y2) λA=>(aw (xd (y2,(aU .i64 ((vE (aU .i64 x.2.2) 8)+1)))) λy4=>(jn (jP A.2 0 (aJ J) (aJ (!decide ((y4.2:Int)=0)))) λx5=>(aK x5 (Z af) (iter (σ:=Int) (λx6=>(jn (bO x6 (a8 A.1) (bM gW A.1 x6 λz8=>(bM gW A.1 0 λz9=>(aJ (decide ((z8.2:Int)=z9.2))))) (aJ af)) λx7=>(aK x7 (iter (σ:=Int) (λq=>(bO q (a8 y4.1) (jn (bM CV y4.1 q λz12=>(bM gW A.1 x6 λz13=>(aw (jI (z12,z13)) λI=>(aK (!I.2) (aJ ()) (bM CV y4.1 q λz15=>(aw (sV (z15,I.1)) λy16=>(aK (!y16.2) (cW (bR (bR af))) (aJ ())))))))) λx11=>(cW (cH q))) (aJ (lB (cH x6))))) 0) (aw (aw (xa ()) λy17=>(Z y17)) λr=>Z (bR r))))) 0))))))))
def aub {w:WT} (tr:TR (w,L)) {n:Nat} (q:n<=l! L):xc ((w,L),(n:Int))=Z (xS w (L.take n)):=by
 have A:l! L<=400:=tr.len;have vl:VL w:=tr.vl;refine bZ ?_;unfold xc bf cg bO bM cW aJ cH;refine aV (Qq w vl) ?_;refine bX n (λi x=>x=((i:Int),(w,L),0,xS w (L.take i))) ?_ ?_ rfl;rintro i x hi rfl;have I:aE iP L (i:Int)=eN L i:=rfl;refine cV (bK (aX ?_));refine aV (aes tr M) (ak ?_);rw[iC];rintro x rfl;exact cK (ak rfl)
def wE (l:Y ET) (n st:Nat):Y ET:=(l.drop st).take (min (st+n) (l! l)-st)
def wn (w:WT) (l:Y ET) (n st:Nat):WT×Int×SN×Y ET:=(w,(st:Int),xS w (l.take st),wE l n st)
def ayn (a b:Nat):ab0 (a:Int) (b:Int)=((min a b:Nat):Int):=by
 unfold ab0;by_cases h:hY (b:Int) (a:Int)=J;have:=uM.1 h;rw[aD h];omega;have:=jJ.1 (Ue.2 h);rw[av h];omega
def aD9 (n:Nat) (q:1<=n):∀N:Nat,∃K:Nat,(∀k,k<K->k*n<N)/\N<=K*n
 |0=>⟨0,λk hk=>bi hk (fJ _),fE _⟩
 |N+1=>by
  let⟨K,h1,h2⟩:=aD9 n q N;by_cases h:N+1<=K*n;exact⟨K,λk hk=>wv (h1 k hk),h⟩;refine ⟨K+1,λk hk=>?_,?_⟩;by_cases e:k=K;subst e;omega;have:=h1 k M;omega;rw[ue];omega
def aur {w:WT} (tr:TR (w,L)) (q:1<=i) (I:i<=16):∃K:Nat,xd ((w,L),(i:Int))=Z ((dV K).map λk=>wn w L i (k*i),0)/\l! L<=K*i/\∀k,k<K->k*i<l! L:=by
 have hl:l! L<=400:=tr.len;let⟨K,h1,h2⟩:=aD9 i q (l! L);refine ⟨K,bZ ?_,h2,h1⟩;have hK:K<=400:=by
  rcases co 400 K with g|g;have:=h1 400 g;have:=Nat.mul_le_mul_left 400 q;omega;exact g
 unfold xd bO jP bT a8 cW aJ;refine ay (aqo tr) λy A=>?_
 refine bY (λg=>bi A g) λ_=>?_
 refine a6 (λx=>x=(af,w,L)) ?_ ?_;refine cK (ak ?_);dsimp only;rw[Dl (show (i:Int)<=16 by omega)];rintro x rfl;refine ia (bX K (λk x=>x=(((k*i:Nat):Int),(w,L),(dV k).map λk=>wn w L i (k*i))) ?_ ?_ ?_);rintro k x hk rfl;have hkn:=h1 k hk;refine cV (aV (aub tr (n:=k*i) M) ?_);have ew:aU .i64 (((k*i:Nat):Int)+(i:Int))=((k*i+i:Nat):Int):=by rw[iF];omega
 have eo:aZ (l! L)=((l! L:Nat):Int):=rfl;dsimp only;rw[ew,eo,ayn];refine bI ?_ (dB ?_ M (ak ?_));rw[ar,ar];exact⟨tp.2 M,tp.2 M,tp.2 M⟩;rw[bL,q_,bJ];omega;have e:(k+1)*i=k*i+i:=by rw[ue,Nat.one_mul]
 rw[List.range_succ,b_,e];rfl;rintro x rfl;exact cK (ak rfl);show (_,_,_)=_;simp
abbrev G?:=SY×Y (Int×Bool)×Y (Int×Bool)×η×θ×η
abbrev CFt:Type:=G?
structure CfI (w:WT) (l:List ET) (D:Nat->Prop) (st m i:Nat) (c:CFt):Prop where
 s:c.1=rS w l D i
 c1:l! c.2.1=l! w.1
 f1:l! c.2.2.1=l! w.2.2.2.1
 x1:l! c.2.2.2.2.1=m
 k1:l! c.2.2.2.2.2=m
 o1:l! c.2.2.2.1<=i
 o:∀j:Nat,(j:Int)∈c.2.2.2.1↔D (st+j)/\st+j<i
 ce:∀q:Nat,q<l! w.1->(∀s:Nat,lsN l q i=(s:Int)->D s)->c.2.1.getD q (0,af)=((GD w (l.take i)).2.1.getD q 0,J)
 fu:∀q:Nat,q<l! w.2.2.2.1->(∀k,k<i->(eN l k).2.1=22->(eN l k).2.2.1=(q:Int)->D k)->c.2.2.1.getD q (0,af)=((GD w (l.take i)).2.2.getD q 0,J)
 fx:∀p,st<=p->p<i->D p->UC (eN l p)=J->c.2.2.2.2.1.getD (p-st) af=J
variable {R:Type}
def El (xs:Y R) (v d:R) (A:0<=a) (I:i<l! xs):(bW xs a v).getD i d=if a=(i:Int) then v else xs.getD i d:=by
 have e:a=((a.toNat:Nat):Int):=M;rw[e,hZ,aC,gy]
 grind
section
variable {w:WT} {l:Y ET} (tr:TR (w,l)) {D:Nat->Prop}
include tr
omit tr in
def art (hi:i<=l! l) (h:∀k,k<i->D k):rS w l D i=fS w l i:=by
 induction i with
 |zero=>rfl
 |succ i q=>
  have q:=q M λk hk=>h k M
  rw[M3 w M,<-q];show @ite _ (D i) (gU _) _ _=_;rw[aD (h i M)]
def alw (hi:i<l! l) (q:Nat):((dc l i).k=4/\(dc l i).ob=q)↔((eN l i).2.1=4/\(eN l i).2.2.1=(q:Int)):=by
 have A:=mc tr hi;have I:=A.k;constructor;rintro⟨a,b⟩;have:=A.ob cf;omega;rintro⟨a,b⟩;have:=A.ob cf;omega
def adp (hi:i<=l! l):(GD w (l.take i)).2.1.length=l! w.1/\(GD w (l.take i)).2.2.length=l! w.2.2.2.1:=by
 let⟨a,_,c,f,_,_⟩:=Ek tr i hi;rw[<- a];exact⟨c,f⟩
def ah7 (hi:i<l! l) (A:m<l! w.1):(GD w (l.take (i+1))).2.1.getD m 0=if (eN l i).2.1=4/\(eN l i).2.2.1=(m:Int) then (eN l i).2.2.2.1 else (GD w (l.take i)).2.1.getD m 0:=by
 have en:=(tr.sc hi).en;have I:=(adp tr (gx hi)).1;rw[D8 w hi];unfold Zn;by_cases k:(eN l i).2.1=4;rw[aD k,El _ _ _ (en.nm.ce (.inr k)).1 M]
 grind
 grind
def agh (hi:i<l! l) (A:m<l! w.2.2.2.1):(GD w (l.take (i+1))).2.2.getD m 0=if (eN l i).2.1=22/\(eN l i).2.2.1=(m:Int) then (eN l i).2.2.2.1 else (GD w (l.take i)).2.2.getD m 0:=by
 have en:=(tr.sc hi).en;have I:=(adp tr (gx hi)).2;rw[D8 w hi];unfold ZY;by_cases k:(eN l i).2.1=22;rw[aD k,El _ _ _ (en.nm.fu (.inl k)).1 M]
 grind
 grind
def afs (hi:i<l! l) (q:Nat):lsN l q (i+1)=if (eN l i).2.1=4/\(eN l i).2.2.1=(q:Int) then (i:Int) else lsN l q i:=by
 rw[lsN];by_cases h:(eN l i).2.1=4/\(eN l i).2.2.1=(q:Int)
 rw[aD h,aD ((alw tr hi q).2 h)];rw[av h,av λz=>h ((alw tr hi q).1 z)]
def CfI.skip {st:Nat} {c:CFt} (h:CfI w l D st m i c) (hi:i<l! l) (hD:¬D i):CfI w l D st m (i+1) c:=by
 refine ⟨?_,h.c1,h.f1,h.x1,h.k1,gX h.o1,λj=>?_,λq I A=>?_,λq I A=>?_,λp h0 h1 hp hr=>?_⟩;rw[h.s];show _= @ite _ (D i) (gU _) _ _;rw[av hD];rw[h.o j]
 grind
 rw[afs tr hi]at A;rw[ah7 tr hi I];by_cases z:(eN l i).2.1=4/\(eN l i).2.2.1=(q:Int)
 grind
 rw[av z]at A ⊢;exact h.ce q I A;rw[agh tr hi I];by_cases z:(eN l i).2.1=22/\(eN l i).2.2.1=(q:Int)
 grind
 rw[av z];exact h.fu q I λk hk=>A k M
 by_cases e:p=i
 grind
 exact h.fx p h0 M hp hr
def CfI.run {st:Nat} {c c':CFt} (h:CfI w l D st m i c) (hi:i<l! l) (hst:st<=i) (him:i<st+m) (hD:D i) (h1:c'.1=(ku w (rS w l D i) (eN l i).1 (eN l i).2.1 (eN l i).2.2.1 (eN l i).2.2.2.1).1)
 (h2:c'.2.1=if (eN l i).2.1=4 then bW c.2.1 (eN l i).2.2.1 ((eN l i).2.2.2.1,J) else c.2.1) (h3:c'.2.2.1=if (eN l i).2.1=22 then bW c.2.2.1 (eN l i).2.2.1 ((eN l i).2.2.2.1,J) else c.2.2.1)
 (h4:c'.2.2.2.1=c.2.2.2.1++[((i-st:Nat):Int)]) (h5:c'.2.2.2.2.1=if UC (eN l i)=J then bW c.2.2.2.2.1 ((i-st:Nat):Int) J else c.2.2.2.2.1) (h6:l! c'.2.2.2.2.2=m):CfI w l D st m (i+1) c':=by
 have en:=(tr.sc hi).en;refine ⟨?_,?_,?_,?_,h6,?_,λj=>?_,λq I hs=>?_,λq I hs=>?_,λp g0 g1 hp hr=>?_⟩;rw[h1];show _= @ite _ (D i) (gU _) _ _;rw[aD hD];rw[h2];split;rw[bu];exact h.c1;exact h.c1;rw[h3];split;rw[bu];exact h.f1;exact h.f1;rw[h5];split;rw[bu];exact h.x1;exact h.x1;rw[h4,aQ,bJ];have:=h.o1;omega;rw[h4,bz,h.o j,aG]
 grind
 rw[afs tr hi]at hs;rw[ah7 tr hi I,h2];by_cases k:(eN l i).2.1=4;rw[aD k,El _ _ _ (en.nm.ce (.inr k)).1 (by rw[h.c1];exact I)];by_cases z:(eN l i).2.2.1=(q:Int)
 grind
 have A:¬((eN l i).2.1=4/\(eN l i).2.2.1=(q:Int)):=λy=>z y.2
 rw[av A]at hs;rw[av z,av A];exact h.ce q I hs;have A:¬((eN l i).2.1=4/\(eN l i).2.2.1=(q:Int)):=λy=>k y.1
 rw[av A]at hs;rw[av k,av A];exact h.ce q I hs;have old:∀k,k<i->(eN l k).2.1=22->(eN l k).2.2.1=(q:Int)->D k:=λk hk=>hs k M
 rw[agh tr hi I,h3];by_cases k:(eN l i).2.1=22;rw[aD k,El _ _ _ (en.nm.fu (.inl k)).1 (by rw[h.f1];exact I)];by_cases z:(eN l i).2.2.1=(q:Int)
 grind
 have A:¬((eN l i).2.1=22/\(eN l i).2.2.1=(q:Int)):=λy=>z y.2
 rw[av z,av A];exact h.fu q I old;have A:¬((eN l i).2.1=22/\(eN l i).2.2.1=(q:Int)):=λy=>k y.1
 rw[av k,av A];exact h.fu q I old;rw[h5];by_cases e:p=i;subst e;rw[aD hr,El _ _ _ M (by rw[h.x1];omega),aD rfl];have:=h.fx p g0 M hp hr;split;rw[El _ _ _ M cf,av M];exact this;exact this
end
def Zv (w:WT) (k o:Int):Ok (kE (w,k,o)) λb=>b=J->NM w k o:=by
 unfold kE bf bB bN cM bp bM a8 aJ;cases kdI k
 case no hk _=>
  simp only[hk,bP,dP,QP];with_reducible repeat' first|apply OS.ok;constructor|refine IM.mk λ_=>?_
  all_goals try simp only[ax,sN] at*
  all_goals first|omega|(intro h;cases h;done)|skip
 all_goals simp only[bP,dP,QP,Ej]
 all_goals with_reducible repeat' first|apply OS.ok;constructor|refine IM.mk λ_=>?_
 all_goals try simp only[ax,sN] at*
 all_goals first|omega|(intro h;cases h;done)|(intro h;constructor<;>first|omega|(intro h2;first|omega|(simpa using h)))
def aqi (w:WT) (s:SY) (hw:l! w.2.2.1<=1000):Ok (j7 (w,s)) λb=>b=J->(∀c∈w.2.2.1,0<=c.2/\c.2<l! w.2.1)/\l! s.1=l! w.2.1/\l! s.2.2.1=l! w.2.2.2.1/\l! s.2.2.2=l! w.2.2.2.2.1:=by
 unfold j7 tC bf bB bN dD bO jP bM a8 cW aJ cH;refine a6 (λx=>x.2=w/\(x.1=af->l! s.1=l! w.2.1/\l! s.2.2.1=l! w.2.2.2.1/\l! s.2.2.2=l! w.2.2.2.2.1)) ?_ ?_;refine bY (λ_=>ak ⟨rfl,nofun⟩) λh1=>bY (λ_=>ak ⟨rfl,nofun⟩) λh2=>ak ⟨rfl,λA=>?_⟩
 have A:aZ (l! s.2.2.2)=aZ (l! w.2.2.2.2.1):=by simpa using A
 exact⟨Int.ofNat.inj h1,Int.ofNat.inj h2,Int.ofNat.inj A⟩;rintro⟨b,x⟩ ⟨e,I⟩;dsimp only at e I;subst e;refine aR (λ_=>ak nofun) λh=>?_
 have hl:=I h;refine kz (l! x.2.2.1) M (λi y=>y=((i:Int),x)/\∀k:Nat,k<i->0<=(aE itK x.2.2.1 (k:Int)).2/\(aE itK x.2.2.1 (k:Int)).2<l! x.2.1) ?_ ?_ ⟨rfl,λk hk=>M⟩;rintro i y hi ⟨rfl,q⟩;refine cV (bK (aX (aV (Ej _ _) (bY (λ_=>ak nofun) λg=>ak ⟨?_,λk hk=>?_⟩))));dsimp only;rw[iC];rcases co k i with h1|h1;exact q k h1;rw[show k=i by omega];exact g;rintro y ⟨rfl,q⟩;exact cK (ak λ_=>⟨ij (T:=itK) q,hl⟩)
def ai4 (w:WT) (s:SY) (I:SB i s) (hn:i<=1000) (t k o:Int) (he:EN w s t k o) (n1:¬k=1) (A:¬k=17) (hst:(aE iH s.2.2.2 t).1=2):Ok (mf (w,s,t,k,o)) λb=>b=J->FO w s t k o:=by
 let⟨nm,t0,t1,cd,e1,e2,e3⟩:=id he;let⟨_,_,ce,q,cn,th,fu,_,_,_⟩:=nm;have hm:16<=k/\k<=19->0<=(aE itK w.2.2.1 o).2/\(aE itK w.2.2.1 o).2<l! w.2.1:=λh=>cd _ (be (cn h).1 (cn h).2)
 have hH:6<=k/\k<=11->fZ ((aE dU s.1 o).2,t)=Z ((aE dU s.1 o).2.contains t):=λh=>D' _ _ (by
  have:=I.rd _ (be (T:=dU) (q h).1 (by have:=(q h).2;omega));omega)
 unfold mf bf bB bN dD dh bp jP bM a8 aJ;cases kdI k
 case no hk _=>omega
 all_goals first|omega|skip
 all_goals simp only[bP,dP,QP]
 all_goals with_reducible repeat' first|apply OS.ok;constructor|refine IM.mk λ_=>?_
 all_goals try simp only[hH M,UL]
 all_goals with_reducible repeat' first|apply OS.ok;constructor|refine IM.mk λ_=>?_
 all_goals try simp only[ax,sN] at*
 all_goals first|omega|(intro h;cases h;done)|exact (hm ⟨cr,cr⟩).1|(rw [e1];exact (hm ⟨cr,cr⟩).2)|(intro h;constructor<;>first|omega|(intros;first|omega|assumption|(simpa using h)|exact⟨by assumption,by first|assumption|(simpa using h)⟩))|(constructor<;>(intros;first|omega|assumption))|skip
def FO.one {w:WT} {s:SY} {t:Int} (h:(aE iH s.2.2.2 t).1=1):FO w s t 1 a:=by
 constructor<;>(intros;first|omega|assumption)
def FO.wake {w:WT} {s:SY} {t:Int} (h1:(aE iH s.2.2.2 t).1=4) (h2:(aE iH s.2.2.2 t).2.1=a) (q:(aE dU s.1 (aE itK w.2.2.1 a).2).1= -1):FO w s t 17 a:=by
 constructor<;>(intros;first|omega|exact⟨h1,h2,q⟩)
def LW (w:WT) (s:SY) (hs:SB i s) (hn:i<=1000) (hw:l! w.2.2.1<=1000) (t k o:Int):Ok (gq (w,s,t,k,o)) λb=>b=J->EN w s t k o/\FO w s t k o:=by
 unfold gq bf bB bN cg dD dh bp bM a8 aJ;refine a6 (λx=>x.2=(w,s)/\(x.1=af->EN w s t k o)) ?_ ?_;refine ay (aqi w s hw) λb hb=>dJ (λ_=>ak ⟨rfl,nofun⟩) λh1=>aV (Ej _ _) ?_
 refine bY (λ_=>ak ⟨rfl,nofun⟩) λh2=>ay (Zv w k o) λc A=>ak ⟨rfl,λh3=>?_⟩
 let⟨f1,f2,f3,f4⟩:=hb h1;exact⟨A (by simpa using h3),h2.1,h2.2,f1,f2,f3,f4⟩;rintro⟨b,x⟩ ⟨e,I⟩;dsimp only at e I;subst e;refine aR (λ_=>ak nofun) λh=>?_
 have he:=I h;let⟨nm,t0,t1,cd,e1,e2,e3⟩:=id he;have t2:t<(l! s.2.2.2:Int):=M;refine aS t0 t2 (aX ?_);refine aN (λh=>ak λg=>⟨he,?_⟩) λn1=>?_
 have h:k=1:=h;subst h;exact FO.one (a_ g);refine aN (λh=>?_) λq=>?_
 have h:k=17:=h;subst h;let⟨c0,c1⟩:=nm.cd M;have hq:=cd _ (be (T:=itK) (xs:=w.2.2.1) (j:=o) c0 c1);refine h_ (aN (λg1=>aN (λg2=>?_) λ_=>ak (ak nofun)) λ_=>ak (ak nofun));exact aS c0 c1 (aX (aS hq.1 (by rw[e1];exact hq.2) (aX (ak (ak λg3=>⟨he,FO.wake g1 g2 (a_ g3)⟩)))));refine h_ (aN (λg=>?_) λ_=>ak (ak nofun));exact ay (ai4 w s hs hn t k o he n1 q g) λc A=>ak (ak λh=>⟨he,A h⟩)
abbrev CF:Type:=G?
def fdN (p:Nat->Bool):Nat->Int
 |0=> -1
 |n+1=>if fdN p n<0 then (if p n=J then (n:Int) else -1) else fdN p n
def J5 (p:Nat->Bool):∀n,(fdN p n= -1/\∀j,j<n->p j=af)\/∃k,k<n/\fdN p n=(k:Int)/\p k=J/\∀j,j<k->p j=af
 |0=>.inl ⟨rfl,λj hj=>bi hj (fJ _)⟩
 |n+1=>by
  rcases J5 p n with ⟨h1,h2⟩|⟨k,h1,h2,A,q⟩;rw[fdN,h1,aD cr];by_cases h:p n=J;rw[aD h];exact .inr ⟨n,tR n,rfl,h,h2⟩;rw[av h];refine .inl ⟨rfl,λj hj=>?_⟩;rcases co j n with g|g;exact h2 j g;rw[show j=n by omega];simpa using h;rw[fdN,h2,av M];exact .inr ⟨k,M,rfl,A,q⟩
variable {p:Nat->Bool}
def Vl (hk:m<i) (hp:p m=J) (hm:∀j,j<m->p j=af):fdN p i=(m:Int):=by
 rcases J5 p i with ⟨_,h2⟩|⟨k,h1,h2,q,A⟩;rw[h2 m hk]at hp;cases hp;rcases Ee k m with h|h|h;rw[hm k h]at q;cases q;rw[h2,h];rw[A m h]at hp;cases hp
def aoc (h:∀j,j<i->p j=af):fdN p i= -1:=by
 rcases J5 p i with ⟨h1,_⟩|⟨m,h1,h2,q,A⟩;exact h1;rw[h m h1]at q;cases q
def Ta {q:Nat->Bool}:∀{n:Nat},(∀j,j<n->p j=q j)->fdN p n=fdN q n
 |0,_=>rfl
 |n+1,h=>by rw[fdN,fdN,Ta λj hj=>h j M,h n (tR n)]
def nxp (l:Y ET) (q:η) (t:Int) (k:Nat):Bool:=decide ((eN l k).1=t)&& !q.contains (k:Int)
def Fl (x:WN) (q:η) (t:Int):Int:=if t<0\/(l! x.1.2.2.2.2.1:Int)<=t then -1 else fdN (nxp x.2.2.2 q t) (l! x.2.2.2)
def Qu (x:WN) (c:CF) (t:Int) (q:l! c.2.2.2.1<=1000) (A:l! x.2.2.2<=1000):mZ (x,c,t)=Z (Fl x c.2.2.2.1 t):=by
 refine bZ ?_;unfold mZ bN cg bp bO bM a8 cW aJ cH;refine a6 (λz=>z=(decide (t<0\/(l! x.1.2.2.2.2.1:Int)<=t),x,c)) ?_ ?_;refine bF (λh=>ak (by rw[aP (.inl h)])) λh=>ak ?_
 dsimp only[ax]at h ⊢;rcases Int.lt_or_le t (l! x.1.2.2.2.2.1:Int) with g|g;rw[jK.2 g,bE M];rw[tp.2 g,aP (.inr g)];rintro z rfl;refine aN (λh=>ak (by rw[Fl,aD h])) λh=>?_
 rw[Fl,av h];refine bX (l! x.2.2.2) (λi y=>y=((i:Int),c)/\∀j,j<i->nxp x.2.2.2 c.2.2.2.1 t j=af) ?_ ?_ ⟨rfl,λj hj=>bi hj (fJ _)⟩;rintro i y hi ⟨rfl,hp⟩;refine cV (bK (aX ?_));refine a6 (λz=>z=(nxp x.2.2.2 c.2.2.2.1 t i,c)) ?_ ?_;refine aN (λh=>aV (D' _ _ q) (ak ?_)) λh=>ak ?_
 show _=(decide ((eN x.2.2.2 i).1=t)&&_,c)
 rw[aP h,du];show _=(decide ((eN x.2.2.2 i).1=t)&&_,c)
 rw[bE h,tU];rintro z rfl;refine aR (λh=>ak (Vl hi h hp).symm) λh=>ak ⟨?_,λj hj=>?_⟩
 dsimp only;rw[iC];rcases co j i with g|g;exact hp j g;rw[show j=i by omega];exact h;rintro y ⟨rfl,hp⟩;exact cK (ak (aoc hp).symm)
def aaj (x:WN) (A:η) (t:Int):Fl x A t= -1\/(0<=t/\t<l! x.1.2.2.2.2.1)/\∃k:Nat,k<l! x.2.2.2/\Fl x A t=(k:Int)/\(eN x.2.2.2 k).1=t/\¬(k:Int)∈A:=by
 unfold Fl;split;exact .inl rfl;rename_i h;rcases J5 (nxp x.2.2.2 A t) (l! x.2.2.2) with ⟨h1,_⟩|⟨m,h1,h2,q,I⟩;exact .inl h1;unfold nxp at q;rw[ar,decide_eq_true_iff,dj]at q;exact .inr ⟨M,m,h1,h2,q.1,λg=>by rw[ca.2 g]at q;cases q.2⟩
def iO (l:Y ET) (t:Int):Nat->η
 |0=>[]
 |n+1=>if (eN l n).1=t then iO l t n++[(n:Int)] else iO l t n
def C5 (l:Y ET) (t:Int):∀n,l! (iO l t n)<=n
 |0=>bg _
 |n+1=>by
  have:=C5 l t n;rw[iO];split;rw[aQ,bJ];omega;omega
def C4 {t:Int}:∀{n:Nat},a∈iO L t n->0<=a/\a<n
 |0,h=>by cases h
 |n+1,h=>by
  rw[iO]at h;split at h;rcases bz.1 h with h|h;have:=C4 h;omega;rw[aG]at h;omega;have:=C4 h;omega
def fxK (own:η) (fx:θ) (k:Int):Bool:=decide (0<=k/\k<own.length/\aE aO own k<l! fx)&&aE (.bool) fx (aE aO own k)
def fxQ (own:η) (fx:θ) (b n:Int):Bool:=decide (n<b)||fxK own fx (aU .i64 (n-b))
def S6 (x:WN) (fx:θ) (t:Int) (ns:η):Bool:=decide (l! ns=0)||(decide (0<=t/\t<l! x.1.2.2.2.2.1/\t<l! x.2.2.1.2.2.2)&&ns.all λn=>fxQ (iO x.2.2.2 t (l! x.2.2.2)) fx (aE aO x.2.2.1.2.2.2 t) n)
def Wh (x:WN) (c:CF) (t:Int) (ns:η) (hl:l! x.2.2.2<=1000) (hn:l! ns<=1000000):pJ (x,c,t,ns)=Z (S6 x c.2.2.2.2.1 t ns):=by
 refine bZ ?_;unfold pJ S6 bf bN cg bp bO jO bT bM nI a8 cW aJ cH;refine aN (λh=>ak ?_) λh=>?_
 dsimp only[ax]at h;rw[aP M];rfl;dsimp only[ax]at h;rw[bE M,vG];refine a6 (λz=>z=(!decide (0<=t/\t<l! x.1.2.2.2.2.1/\t<l! x.2.2.1.2.2.2),x,c)) ?_ ?_;refine bF (λh=>ak (by dsimp only at h;rw[bE M];rfl)) λh=>eX (λg=>ak (by dsimp only[ax]at g;rw[bE M];rfl)) λg=>ak ?_
 dsimp only[ax]at h g ⊢;rcases Int.lt_or_le t (l! x.2.2.1.2.2.2:Int) with k|k;rw[jK.2 k,aP ⟨h,g,k⟩];rfl;rw[tp.2 k,bE M];rfl;rintro z rfl;refine dJ (λh=>ak (by rw[h];rfl)) λh=>?_
 rw[h,du];have h:=a_ h;refine aS h.1 h.2.2 (aX ?_);refine bX (l! x.2.2.2) (λi y=>y=((i:Int),c,iO x.2.2.2 t i)) ?_ ?_ rfl;rintro i y hi rfl;refine cV (a6 (λz=>z=(c,iO x.2.2.2 t (i+1))) ?_ ?_);refine bK (aX (aN (λh=>?_) λh=>ak ?_));have:=C5 x.2.2.2 t i;refine dB (by simp only[bJ];omega) cr (ak ?_);rw[iO,aD h];rw[iO,av h];rintro z rfl;exact ak (by dsimp only;rw[iC]);rintro y rfl;refine cK ?_;refine ay (P:=λb=>b=ns.all λn=>fxQ (iO x.2.2.2 t (l! x.2.2.2)) c.2.2.2.2.1 (aE aO x.2.2.1.2.2.2 t) n) ?_ λb hb=>ak hb
 have A:∀k:Int,0<=k->k<l! (iO x.2.2.2 t (l! x.2.2.2))->0<=aE aO (iO x.2.2.2 t (l! x.2.2.2)) k:=λk I k1=>(C4 (be (T:=aO) I k1)).1
 generalize iO x.2.2.2 t (l! x.2.2.2)=own at A ⊢;refine bX (l! ns) (λi y=>y=((i:Int),c,own)/\∀k:Nat,k<i->fxQ own c.2.2.2.2.1 (aE aO x.2.2.1.2.2.2 t) (aE aO ns (k:Int))=J) ?_ ?_ ⟨rfl,λj hj=>bi hj (fJ _)⟩;rintro i y hi ⟨rfl,hp⟩;have no:fxQ own c.2.2.2.2.1 (aE aO x.2.2.1.2.2.2 t) (aE aO ns (i:Int))=af->af=ns.all λn=>fxQ own c.2.2.2.2.1 (aE aO x.2.2.1.2.2.2 t) n:=λh=>by
  symm
  rw[<- tS,eS];intro g;rw[g _ (be (T:=aO) M M)]at h;cases h
 refine cV (a6 (λz=>z=(c,own)/\fxQ own c.2.2.2.2.1 (aE aO x.2.2.1.2.2.2 t) (aE aO ns (i:Int))=J) ?_ ?_);refine bK (aX (bF (λh=>ak ⟨rfl,?_⟩) λh=>?_));unfold fxQ;rw[aP h];rfl;have h:¬aE aO ns (i:Int)<aE aO x.2.2.1.2.2.2 t:=iZ.2 h;have e:fxQ own c.2.2.2.2.1 (aE aO x.2.2.1.2.2.2 t) (aE aO ns (i:Int))=fxK own c.2.2.2.2.1 (aU .i64 (aE aO ns (i:Int)-aE aO x.2.2.1.2.2.2 t)):=by unfold fxQ;rw[bE h];rfl
 rw[e]at no ⊢;generalize aU .i64 (aE aO ns (i:Int)-aE aO x.2.2.1.2.2.2 t)=k at no ⊢;refine a6 (λz=>z=(!fxK own c.2.2.2.2.1 k,c,own)) ?_ ?_;have bad:∀{p:Prop},(¬(0<=k/\k<own.length/\aE aO own k<l! c.2.2.2.2.1))->fxK own c.2.2.2.2.1 k=af:=λh=>by unfold fxK;rw[bE h];rfl
 refine bF (λh=>ak ?_) λh=>eX (λg=>ak ?_) λg=>aS h g (aS h g (aX (eX (λq=>ak ?_) λq=>aS h g (aS h g (aX (aS (A k h g) q (aX (ak ?_))))))))
 rw[bad (p:=True) (λa=>M)];rfl;rw[bad (p:=True) (λa=>by have g:(own.length:Int)<=k:=g;omega)];rfl;rw[bad (p:=True) (λa=>bi a.2.2 (iZ.2 q))];rfl;unfold fxK;rw[aP ⟨h,g,q⟩];rfl;rintro z rfl;exact dJ (λh=>ak (no h)) λh=>ak ⟨rfl,h⟩
 rintro z ⟨rfl,hz⟩;refine ak ⟨by dsimp only;rw[iC],λk hk=>?_⟩;rcases co k i with g|g;exact hp k g;rw[show k=i by omega];exact hz;rintro y ⟨rfl,hp⟩;refine cK (ak (Eq.symm ?_));rw[eS];exact ij (T:=aO) (p:=λn=>fxQ own c.2.2.2.2.1 (aE aO x.2.2.1.2.2.2 t) n=J) hp
def L3 (s y:SY):Prop:=l! y.1=l! s.1/\l! y.2.2.1=l! s.2.2.1/\l! y.2.2.2=l! s.2.2.2
def L3.ite {s:SY} {c:Prop} [Decidable c] {a b:Y?} (A:L3 s a.1) (q:L3 s b.1):L3 s (if c then a else b).1:=by by_cases h:c<;>simp[h,A,q]
def L3.ap (w:WT) (s:SY) (t k o v:Int):L3 s (ku w s t k o v).1:=by
 have h:L3 s s:=⟨rfl,rfl,rfl⟩
 have ow:∀a b (d:Int),L3 s (owP s.1 a b,d,s.2.2):=λa b d=>⟨bu ..,rfl,rfl⟩
 have th:∀(a b:Int) (x:c!),L3 s (s.1,b,s.2.2.1,bW s.2.2.2 a x):=λa b x=>⟨rfl,rfl,bu ..⟩
 have q:∀(a b c d x y:Int),L3 s (owP s.1 a b,d,s.2.2.1,cdP (xQ s.2.2.2 c x) c y):=λa b c d x y=>⟨bu ..,rfl,(bu ..).trans (bu ..)⟩
 unfold ku;exact L3.ite (th _ _ _) (L3.ite (th _ _ _) (L3.ite (ow _ _ _) (L3.ite (ow _ _ _) (L3.ite ⟨bu ..,rfl,rfl⟩ (L3.ite ⟨bu ..,rfl,rfl⟩ (L3.ite h (L3.ite h (L3.ite (th _ _ _) (L3.ite (th _ _ _) (L3.ite (q _ _ _ _ _ _) (L3.ite (q _ _ _ _ _ _) (L3.ite (L3.ite h (th _ _ _)) (L3.ite ⟨rfl,rfl,Es _ _⟩ (L3.ite (th _ _ _) (L3.ite ⟨rfl,bu ..,rfl⟩ h)))))))))))))))
def P8.le {s:Y d!} (h:P8 s):∀l∈s,l! l.2<=4:=λl q=>by
 have:=EK l.2 0 4 (h l q).1 (h l q).2;omega
structure CI (x:WN) (c:CF):Prop where
 p8:P8 c.1.1
 l1:l! c.1.1=l! x.1.2.1
 l2:l! c.1.2.2.1=l! x.1.2.2.2.1
 l3:l! c.1.2.2.2=l! x.1.2.2.2.2.1
 ce:l! c.2.1=l! x.1.1
 fu:l! c.2.2.1=l! x.1.2.2.2.1
 od:∀z∈c.2.2.2.1,0<=z/\z<l! x.2.2.2
 nd:c.2.2.2.1.Nodup
 fx:l! c.2.2.2.2.1=l! x.2.2.2
 wk:l! c.2.2.2.2.2=l! x.2.2.2
def SE:∀(n:Nat) (l:η),l.Nodup->(∀z∈l,0<=z/\z<(n:Int))->l! l<=n
 |0,l,_,h=>by
  cases l with
  |nil=>exact bg _
  |cons z r=>have:=h z (bU ..);omega
 |n+1,l,hd,h=>by
  have h1:=SE n (l.erase (n:Int)) (hd.erase _) λz q=>by
   rw[hd.mem_erase_iff]at q;have:=h z q.2;have:=q.1;omega
  by_cases hm:(n:Int)∈l;rw[List.length_erase_of_mem hm]at h1;omega;rw[List.erase_of_not_mem hm]at h1;omega
section
variable {j:WN}
def CI.ln {c:CF} (h:CI j c):l! c.2.2.2.1<=l! j.2.2.2:=SE _ _ h.nd h.od
def CI.sb {c:CF} (h:CI j c) (v:VL j.1):SB 800 c.1:=
 ⟨cr,by have:=h.l1;have:=v.l;omega,λl q=>cR (h.p8.le l q) cr,by have:=h.l2;have:=v.f;omega,by have:=h.l3;have:=v.t;omega⟩
def ad4 (s:SY) (q:SB i s):nN s=Z s:=by
 refine bZ ?_;unfold nN bf cg bO bT bM a8 cW aJ cH;have h1:=q.dn;have h2:=q.th;have h3:=q.lk;have I:=q.n1;refine aV (bZ (a! (ak rfl)):HE s.2.2.1=Z s.2.2.1) (aV (bZ (a! (ak rfl)):HC s.2.2.2=Z s.2.2.2) ?_);refine bX (l! s.1) (λn y=>y=((n:Int),0,(s.2.1,s.2.2.1,s.2.2.2),s.1.take n)) ?_ ?_ rfl;rintro n y hi rfl;have A:(aE dU s.1 (n:Int)).2.length<=i:=q.rd _ (be (T:=dU) M M);refine cV (bK (aX ?_));refine aV (bZ (a! (ak rfl)):Bd (aE dU s.1 (n:Int)).2=Z (aE dU s.1 (n:Int)).2) ?_;refine dB (by simp only[bJ,bm];omega) cr (ak ?_);dsimp only;rw[iC,lM (T:=dU) hi];rintro y rfl;refine cK (ak ?_);dsimp only;rw[cO]
def afz (l:η) (q:l! l<=1000):pI l=Z (l.map λz=>(z,J)):=by
 refine bZ ?_;unfold pI bO bT bM a8 cW aJ cH;refine cq (cq (fB (cU 0) (fB Ja (dB Ja cr ?_))));refine bX (l! l) (λi y=>y=((i:Int),(l.take i).map λz=>(z,J))) ?_ ?_ rfl;rintro i y hi rfl;refine cV (bK (aX (dB (by simp only[bJ,bL,bm];omega) cr (ak ?_))));dsimp only;rw[iC,lM (T:=aO) hi,b_];rfl;rintro y rfl;refine cK (ak ?_);dsimp only;rw[cO]
def st0 (x:WN):CF:=(x.2.2.1.1,x.2.2.1.2.1.map λz=>(z,J),x.2.2.1.2.2.1.map λz=>(z,J),[],aA (l! x.2.2.2) af,aA (l! x.2.2.2) 0)
def auq (x:WN) (h:wJ x):s6 x=Z (st0 x):=by
 refine bZ ?_;unfold s6 bf cg bT a8;have q:=h.ln;refine aV (ad4 x.2.2.1.1 h.nb.sb) (aV (afz _ h.nb.c) (aV (afz _ h.nb.f) ?_));refine cq (cq (fB Ja (fB (cU _) (dB Ja cr ?_))));refine cq (cq (fB Ja (fB (cU _) (dB Ja cr (ak rfl)))))
def Uq (h:wJ j):CI j (st0 j):=
 ⟨h.p8,h.fy.1,h.fy.2.1,h.fy.2.2,by show l! (List.map _ _)=_;rw[bL];exact h.f16.c,by show l! (List.map _ _)=_;rw[bL];exact h.f16.f,λz q=>(by cases q),List.nodup_nil,by show l! (aA _ _)=_;simp,by show l! (aA _ _)=_;simp⟩
def QW (x:WN) (c:CF) (t:Int):Bool:=(gM (x,c,t)).getD af
def wJ.ev (h:wJ j) (hk:i<l! j.2.2.2):EvS (eN j.2.2.2 i):=aql h.es hk
def aee (x:WN) (h:wJ x) (c:CF) (A:CI x c) (t:Int):gM (x,c,t)=Z (QW x c t)/\(QW x c t=J->(0<=t/\t<l! x.1.2.2.2.2.1)/\∃k:Nat,k<l! x.2.2.2/\Fl x c.2.2.2.1 t=(k:Int)/\(eN x.2.2.2 k).1=t/\¬(k:Int)∈c.2.2.2.1/\EN x.1 c.1 t (eN x.2.2.2 k).2.1 (eN x.2.2.2 k).2.2.1/\FO x.1 c.1 t (eN x.2.2.2 k).2.1 (eN x.2.2.2 k).2.2.1):=by
 suffices I:Ok (gM (x,c,t)) λb=>b=J->(0<=t/\t<l! x.1.2.2.2.2.1)/\∃k:Nat,k<l! x.2.2.2/\Fl x c.2.2.2.1 t=(k:Int)/\(eN x.2.2.2 k).1=t/\¬(k:Int)∈c.2.2.2.1/\EN x.1 c.1 t (eN x.2.2.2 k).2.1 (eN x.2.2.2 k).2.2.1/\FO x.1 c.1 t (eN x.2.2.2 k).2.1 (eN x.2.2.2 k).2.2.1 by
  let⟨b,h1,h2⟩:=I;unfold QW;rw[h1];exact⟨rfl,h2⟩
 unfold gM bf cM cg bO bM aJ;have hl:=h.ln;have ho:=A.ln;refine aV (Qu x c t M M) ?_;rcases aaj x c.2.2.2.1 t with e|⟨ht,k,hk,e,e1,e2⟩;rw[e];exact bF (λ_=>ak λh=>by cases h) λh=>bi h cr
 rw[e];refine bF (λh=>bi h M) λ_=>bK (aX ?_)
 refine a6 (λb=>b=J->EN x.1 c.1 t (eN x.2.2.2 k).2.1 (eN x.2.2.2 k).2.2.1/\FO x.1 c.1 t (eN x.2.2.2 k).2.1 (eN x.2.2.2 k).2.2.1) ?_ λb q=>ak λh=>⟨ht,k,hk,rfl,e1,e2,q h⟩
 refine ay (LW x.1 c.1 (A.sb h.vl) cr (by have:=h.vl.d;omega) t _ _) λb q=>aR (λh1=>?_) λ_=>ak nofun
 exact aV (Wh x c t _ M (h.ev hk).1) (ak λ_=>q h1)
def eqV (a b:i?):Bool:=QV (.pr aO (.pr .bool .un)) (a.1,a.2,()) (b.1,b.2,()) !=af
def mvE (x:WN) (c:CF) (i:Int) (e:ET) (t u:Int):CF:=
 ((ku x.1 c.1 t e.2.1 e.2.2.1 u).1,
   if e.2.1=4 then bW c.2.1 e.2.2.1 (if S6 x c.2.2.2.2.1 t e.2.2.2.2.2.2=J then (e.2.2.2.1,J) else (0,af)) else c.2.1,
   if e.2.1=22 then bW c.2.2.1 e.2.2.1 (if S6 x c.2.2.2.2.1 t e.2.2.2.2.2.2=J then (e.2.2.2.1,J) else (0,af)) else c.2.2.1,
   c.2.2.2.1++[i],
   if e.2.1=3 then bW c.2.2.2.2.1 i (eqV (aE BO c.2.1 e.2.2.1) (e.2.2.2.1,J)) else if e.2.1=23 then bW c.2.2.2.2.1 i (eqV (aE BO c.2.2.1 e.2.2.1) (e.2.2.2.1,J)) else c.2.2.2.2.1,
   if e.2.1=18 then (if 0<=(ku x.1 c.1 t e.2.1 e.2.2.1 u).2 then bW c.2.2.2.2.2 i 1 else c.2.2.2.2.2) else if e.2.1=19 then bW c.2.2.2.2.2 i (ku x.1 c.1 t e.2.1 e.2.2.1 u).2 else c.2.2.2.2.2)
def zQ (x:WN) (c:CF) (t u:Int):CF:=mvE x c (Fl x c.2.2.2.1 t) (aE iP x.2.2.2 (Fl x c.2.2.2.1 t)) t u
def cf0:CF:=(([],0,[],[]),[],[],[],[],[])
def ayx (x:WN) (c:CF) (q:CI x c):vk (x,c)=Z J:=by
 refine bZ ?_;unfold vk bf bB cM cg iD bp a8 aJ;have h1:=q.ce;have h2:=q.fu;have h3:=q.fx;have I:=q.wk;refine a6 (λb=>b=J) ?_ λb A=>ak A
 exact aN (λ_=>aN (λ_=>aN (λ_=>ak (aP Ja)) λh=>bi Ja h) λh=>bi Ja h) λh=>bi Ja h
def G5.two {w:WT} (h:w.2.1=G5) (h0:0<=a) (h1:a<l! w.2.1) (h2:(aE tY w.2.1 a).2=J):a=2:=by
 rw[h]at h1 h2;have h1:a<3:=h1;rcases show a=0\/a=1\/a=2 by omega with rfl|rfl|rfl
 exact bi h2 cr;exact bi h2 cr;rfl
def avu (h:wJ j) {c:CF} (q:CI j c) {t o:Int} (u:Int) (he:EN j.1 c.1 t a o) (A:FO j.1 c.1 t a o):mh (j.1,c.1,t,a,o,u)=Z ((ku j.1 c.1 t a o u).1,(ku j.1 c.1 t a o u).2,J):=by
 refine aeh j.1 c.1 (q.sb h.vl) cr (by have:=h.vl.d;omega) t a o u he A (λhk=>?_) (by rw[q.l1,h.lk];rfl) q.p8 (by have:=he.t1;have:=h.vl.t;omega);have:=he.nm.lk M;exact G5.two h.lk this.1 this.2 (he.nm.rw M)
def aox (l:θ) (h:l! l<=100000):z_ l=Z l:=bZ (a! (ak rfl))
def Zg (l:Y i?) (h:l! l<=100000):Dd l=Z l:=bZ (a! (ak rfl))
def aow (l:η) (h:l! l<=100000):ny l=Z l:=bZ (a! (ak rfl))
def azy (x:WN) (h:wJ x) (c:CF) (A:CI x c) (t u:Int):vm (x,c,t,u)=Z (if QW x c t=J then (zQ x c t u,J) else (cf0,af)):=by
 refine bZ ?_;unfold vm bf bB bN cM gE qY Eb cg dD dh iD sL xZ Prod.o ck bp jO bT bM a8 aJ;let⟨e1,e2⟩:=aee x h c A t;refine a6 (λz=>z=(!QW x c t,x,c,(t,u),0)) ?_ ?_;exact aV (ayx x c A) (gJ rfl (aV e1 (ak rfl)));rintro z rfl;refine dJ (λh=>ak (by rw[h];rfl)) λhb=>?_
 rw[aD hb];let⟨ht,k,hk,g1,g2,g3,g4,g5⟩:=e2 hb;have hl:=h.ln;have hlo:=A.ln;have hv:=h.vl;have v1:=hv.c;have v2:=hv.f;have l1:=A.ce;have l2:=A.fu;have l3:=A.fx;have l4:=A.wk;refine aV (Qu x c t M M) ?_;unfold zQ;rw[g1];refine bK (aX (aV (avu h A u g4 g5) (gJ rfl ?_)));have hev:=h.ev hk;have hnm:=g4.nm;generalize hE:eN x.2.2.2 k=e at hev hnm g2 g4 g5;have hE:aE iP x.2.2.2 (k:Int)=e:=hE;rw[hE];obtain⟨⟨⟨s1,s2,s3,s4⟩,an⟩,hA⟩:∃y,ku x.1 c.1 t e.2.1 e.2.2.1 u=y:=⟨_,rfl⟩
 refine a6 (λz=>z=(x,c,(t,u),0,e,(s1,s2,s3,s4,c.2.2.2.1++[(k:Int)]),c.2.1,c.2.2.1,c.2.2.2.2.1,c.2.2.2.2.2)) ?_ ?_;refine aV (Zg c.2.1 M) (aV (Zg c.2.2.1 M) ?_);refine cq (cq (UK rfl (fB Ja (fB (cU _) ?_))));have ht:cG (aL (aZ (l! c.2.2.2.1))) c.2.2.2.1=c.2.2.2.1:=cO;rw[ht];refine dB (by simp only[bJ];omega) cr (gJ rfl ?_);exact aV (aox c.2.2.2.2.1 M) (aV (aow c.2.2.2.2.2 M) (ak (by dsimp only;rw[hA])));rintro z rfl;refine a6 (λz=>z=(c,0,e,(s1,s2,s3,s4,c.2.2.2.1++[(k:Int)]),(e.2.2.2.1,J),(if S6 x c.2.2.2.2.1 t e.2.2.2.2.2.2=J then (e.2.2.2.1,J) else (0,af)),c.2.1,c.2.2.1,c.2.2.2.2.1,c.2.2.2.2.2)) ?_ ?_;refine aV (Wh x c t _ M hev.2) ?_;exact aR (λh=>ak (by rw[aD h])) λh=>ak (by rw[av (by rw[h];decide)])
 rintro z rfl;generalize hfv:(if S6 x c.2.2.2.2.1 t e.2.2.2.2.2.2=J then ((e.2.2.2.1,J):i?) else (0,af))=fv;let⟨et,ek,I,ev,es,ed,ef⟩:=e;dsimp only at hnm hA hE g2 g4 g5 hev hfv;have hce:=hnm.ce;have hfu:=hnm.fu;refine a6 (λz=>z=((0:Int),(s1,s2,s3,s4,c.2.2.2.1++[(k:Int)]),(if ek=4 then bW c.2.1 I fv else c.2.1),(if ek=22 then bW c.2.2.1 I fv else c.2.2.1),(if ek=3 then bW c.2.2.2.2.1 (k:Int) (eqV (aE BO c.2.1 I) (ev,J)) else if ek=23 then bW c.2.2.2.2.1 (k:Int) (eqV (aE BO c.2.2.1 I) (ev,J)) else c.2.2.2.2.1),(if ek=18 then (if 0<=an then bW c.2.2.2.2.2 (k:Int) 1 else c.2.2.2.2.2) else if ek=19 then bW c.2.2.2.2.2 (k:Int) an else c.2.2.2.2.2))) ?_ ?_;refine aN (λq=>?_) λq3=>aN (λq=>?_) λq23=>aN (λq=>?_) λq4=>aN (λq=>?_) λq22=>aN (λq=>?_) λq18=>aN (λq=>?_) λq19=>?_
 dsimp only at q;subst q;have:=hce cr;exact bK (aX (bK (bK (ak rfl))));dsimp only at q;subst q;have:=hfu cr;exact bK (aX (bK (bK (ak rfl))));dsimp only at q;subst q;have:=hce cr;exact bK (bK (ak rfl));dsimp only at q;subst q;have:=hfu cr;exact bK (bK (ak rfl));dsimp only at q;subst q;have ga:(ku x.1 c.1 t 18 I u).2=an:=by rw[hA]
 refine eX (λg=>bK (bK (ak ?_))) λg=>ak ?_
 have g:0<=(ku x.1 c.1 t 18 I u).2:=g;rw[ga]at g;simp[g];have g:(ku x.1 c.1 t 18 I u).2<0:=g;rw[ga]at g;simp[Int.not_le.2 g];dsimp only at q;subst q;have ga:(ku x.1 c.1 t 19 I u).2=an:=by rw[hA]
 exact bK (bK (ak (by rw[<- ga];rfl)));dsimp only at q3 q23 q4 q22 q18 q19;exact ak (by simp[q3,q23,q4,q22,q18,q19]);rintro z rfl;refine ak ?_;unfold mvE;dsimp only;rw[hA,hfv]
def NS (h:wJ j) {c:CF} (q:CI j c) {t:Int} (u:Int) (he:QW j c t=J):CI j (zQ j c t u):=by
 let⟨ht,k,hk,g1,g2,g3,g4,g5⟩:=(aee j h c q t).2 he;have hv:=h.vl;have ht4:=hv.t;unfold zQ;rw[g1];let⟨l1,l2,l3⟩:=L3.ap j.1 c.1 t (eN j.2.2.2 k).2.1 (eN j.2.2.2 k).2.2.1 u;refine ⟨q.p8.ap _ _ _ ht.1 M,l1.trans q.l1,l2.trans q.l2,l3.trans q.l3,?_,?_,λz A=>?_,?_,?_,?_⟩;refine Eq.trans ?_ q.ce;unfold mvE;dsimp only;split;exact bu ..;rfl;refine Eq.trans ?_ q.fu;unfold mvE;dsimp only;split;exact bu ..;rfl;rcases bz.1 A with A|A;exact q.od z A;rw[aG]at A;omega;show (c.2.2.2.1++[(k:Int)]).Nodup;rw[List.nodup_append];exact⟨q.nd,b8,λa ha b I=>by rw[aG]at I;subst I;exact λe=>g3 (e▸ha)⟩;refine Eq.trans ?_ q.fx;unfold mvE;dsimp only;split;exact bu ..;split;exact bu ..;rfl;refine Eq.trans ?_ q.wk;unfold mvE;dsimp only;split;split;exact bu ..;rfl;split;exact bu ..;rfl
def C8 {c:CF} {t:Int}:(zQ j c t a).2.2.2.1=c.2.2.2.1++[Fl j c.2.2.2.1 t]:=rfl
def Sg (c:CF) (e:ET) (n:Nat):η:=if e.2.1=18 then wl c.1.2.2.2 e.2.2.1 n else []
def chE (c:CF) (e:ET) (t:Int):Y ν:=if (l! (Sg c e (l! c.1.2.2.2)))=0 then [(t,-1)] else (Sg c e (l! c.1.2.2.2)).map λj=>(t,j)
def chT (x:WN) (c:CF) (t:Int):Y ν:=if QW x c t=J then chE c (aE iP x.2.2.2 (Fl x c.2.2.2.1 t)) t else []
def IL (x:WN) (c:CF):Nat->Y ν
 |0=>[]
 |t+1=>IL x c t++chT x c (t:Int)
def MM (c:CF) (e:ET) (n:Nat):l! (Sg c e n)<=n:=by
 unfold Sg;split;exact vH ..;exact fE _
def atw (c:CF) (e:ET) (t:Int):l! (chE c e t)<=l! c.1.2.2.2+1:=by
 have:=MM c e (l! c.1.2.2.2);unfold chE;split;simp;rw[bL];omega
def ah6 (x:WN) (c:CF) (b:Nat) (q:l! c.1.2.2.2<=b):∀n,l! (IL x c n)<=n*(b+1)
 |0=>fE _
 |n+1=>by
  have h1:=ah6 x c b q n;rw[IL,aQ,ue];have:l! (chT x c (n:Int))<=b+1:=by
   unfold chT;split;have:=atw c (aE iP x.2.2.2 (Fl x c.2.2.2.1 (n:Int))) (n:Int);omega;exact fE _
  omega
def ajw (x:WN) (h:wJ x) (c:CF) (I:CI x c):nK (x,c)=Z (IL x c (l! x.1.2.2.2.2.1)):=by
 refine bZ ?_;unfold nK bf bB bN cM gE cg dD bp bO bT bM a8 cW aJ cH;have hl:=h.ln;have hlo:=I.ln;have ht4:=h.vl.t;have hth:=I.l3;refine bX (l! x.1.2.2.2.2.1) (λi y=>y=((i:Int),x,c,IL x c i)) ?_ ?_ rfl;rintro t y hi rfl;have hcl:=ah6 x c 4 M t;refine cV (a6 (λz=>z=(x,c,IL x c (t+1))) ?_ ?_);let⟨e1,e2⟩:=aee x h c I (t:Int);refine aV e1 (dJ (λA=>ak ?_) λA=>?_);rw[IL,chT,av (by rw[A];decide),cS];rw[IL,chT,aD A];let⟨ht,k,hk,g1,g2,g3,g4,g5⟩:=e2 A;refine aV (Qu x c (t:Int) M M) ?_;rw[g1];refine bK (aX ?_);generalize aE iP x.2.2.2 (k:Int)=e;refine bX (l! c.1.2.2.2) (λj y=>y=((!decide (l! (Sg c e j)=0),(j:Int)),x,c,IL x c t++(Sg c e j).map λj=>((t:Int),j),e)) ?_ ?_ ?_;rintro j y hj rfl;have hwl:=MM c e j;refine cV (a6 (λz=>z=(!decide (l! (Sg c e (j+1))=0),x,c,IL x c t++(Sg c e (j+1)).map λj=>((t:Int),j),e)) ?_ ?_);refine bK (aX ?_);have hws:Sg c e (j+1)=if e.2.1=18/\(aE iH c.1.2.2.2 (j:Int)).1=3/\(aE iH c.1.2.2.2 (j:Int)).2.1=e.2.2.1 then Sg c e j++[(j:Int)] else Sg c e j:=by
  unfold Sg;by_cases q:e.2.1=18;rw[aD q,aD q,G_];unfold FX;by_cases q1:(aE iH c.1.2.2.2 (j:Int)).1=3<;>by_cases q2:(aE iH c.1.2.2.2 (j:Int)).2.1=e.2.2.1<;>simp[q,q1,q2];rw[av q,av q,av (λa=>q a.1)]
 refine a6 (λz=>z=(decide (e.2.1=18/\(aE iH c.1.2.2.2 (j:Int)).1=3/\(aE iH c.1.2.2.2 (j:Int)).2.1=e.2.2.1),x,c,IL x c t++(Sg c e j).map λj=>((t:Int),j),e)) ?_ ?_;refine aN (λq=>aN (λq1=>ak ?_) λq1=>ak ?_) λq=>ak ?_
 have q:e.2.1=18:=q;have q1:(aE iH c.1.2.2.2 (j:Int)).1=3:=q1;dsimp only;simp[q,q1];have q1:¬(aE iH c.1.2.2.2 (j:Int)).1=3:=q1;dsimp only;simp[q1];have q:¬e.2.1=18:=q;dsimp only;simp[q];rintro z rfl;refine aN (λq=>?_) λq=>ak ?_
 refine dB (by simp only[bJ,aQ,bL];omega) cr (ak ?_);dsimp only;rw[hws,aD q,b_,bw];simp;dsimp only;rw[hws,av q];rintro z rfl;refine ak ?_;dsimp only;rw[iC];rintro y rfl;have hwl:=MM c e (l! c.1.2.2.2);refine cK (ay (P:=λz:((Int×WN×CF×Y ν)⊕Y ν)⊕(WN×CF×Y ν)=>z=bR (x,c,IL x c t++chE c e (t:Int))) ?_ λz hz=>ak (by rw[hz]));unfold chE;refine dJ (λq=>?_) λq=>ak ?_
 have q:l! (Sg c e (l! c.1.2.2.2))=0:=by simpa using q
 have q':Sg c e (l! c.1.2.2.2)=[]:=List.eq_nil_of_length_eq_zero q;refine dB (by simp only[bJ,aQ,bL];omega) cr (ak ?_);dsimp only;rw[aD q,q'];simp;have q:¬l! (Sg c e (l! c.1.2.2.2))=0:=by simpa using q
 rw[av q];have:Sg c e 0=[]:=by unfold Sg;split<;>rfl
 dsimp only;rw[this];simp;rintro z rfl;refine ak ?_;dsimp only;rw[iC];rintro y rfl;exact cK (ak rfl)
def syL (x:WN):Nat->Y SY
 |0=>[]
 |i+1=>syL x i++[(zF x.1 x.2.2.1 x.2.2.2 i).1]
def aep (x:WN):∀n,l! (syL x n)=n
 |0=>rfl
 |n+1=>by rw[syL,aQ,aep x n];rfl
def wJ.nbi (h:wJ j) (hi:i<=l! j.2.2.2):NB 816 (zF j.1 j.2.2.1 j.2.2.2 i):=
 (h.ch.nb h.nb (by have:=h.vl.d;omega) h.es (by have:=h.ln;omega) i hi).mono (by have:=h.ln;omega)
def wJ.eni (h:wJ j) (hi:i<l! j.2.2.2):EN j.1 (zF j.1 j.2.2.1 j.2.2.2 i).1 (eN j.2.2.2 i).1 (eN j.2.2.2 i).2.1 (eN j.2.2.2 i).2.2.1:=(h.ch i hi).en
def ak7 (x:WN) (h:wJ x):qQ x=Z ((x,syL x (l! x.2.2.2)),J):=by
 refine bZ ?_;unfold qQ I4 Prod.q Prod.p Prod.u Prod.r Prod.v Prod.w bf bB bN cM gE qY Eb MJ Prod.F Prod.z cg dh iD bp bO bT bM a8 cW aJ cH;have hl:=h.ln;have ht:=h.vl.t;let⟨w,f,s,l⟩:=x;dsimp only at hl ht;refine a6 (λz=>z=(af,(w,f,s,l),(0,0),w.1,w.2.1,w.2.2.1,w.2.2.2.1,w.2.2.2.2.1,w.2.2.2.2.2,f,s.1.1,s.1.2.1,s.1.2.2.1,s.1.2.2.2,s.2.1,s.2.2.1,s.2.2.2,l)) ?_ ?_;refine cK (ak ?_);dsimp only[ax];rw[jJ.2 M];rintro z rfl;refine gJ rfl ?_;refine bX (l! l) (λi y=>y=((i:Int),(w,f,s,l),(0,0),(w.1,w.2.1,w.2.2.1,w.2.2.2.1,w.2.2.2.2.1,w.2.2.2.2.2,f,s.1.1,s.1.2.1,s.1.2.2.1,s.1.2.2.2,s.2.1,s.2.2.1,s.2.2.2,l),(zF w s l i).1,syL (w,f,s,l) i)) ?_ ?_ rfl;rintro i y hi rfl;refine cV (bK (aX ?_));have hsl:=aep (w,f,s,l) i;refine dB (by simp only[bJ];omega) cr ?_;have g:=h.ch i hi;have I:=h.nbi (gx hi);dsimp only at I g;generalize A:(if (eN l i).2.1=18 then (eN l i).2.2.2.1 else -1)=u;refine a6 (λz=>z=(u,(w,f,s,l),(0,0),(w.1,w.2.1,w.2.2.1,w.2.2.2.1,w.2.2.2.2.1,w.2.2.2.2.2,f,s.1.1,s.1.2.1,s.1.2.2.1,s.1.2.2.2,s.2.1,s.2.2.1,s.2.2.2,l),(zF w s l i).1,eN l i,syL (w,f,s,l) (i+1))) ?_ ?_;refine aN (λq=>ak ?_) λq=>ak ?_
 rw[<- A,aD q];rfl;rw[<- A,av q];rfl;rintro z rfl;have hp:=h.ch.p8 h.p8 h.vl i (gx hi);dsimp only at hp;have e3:(zF w s l i).1.1.length=3:=g.en.e1.trans (by rw[h.lk];rfl);have hap:=aeh w (zF w s l i).1 I.sb cr (by have:=h.vl.d;dsimp only at this;omega) (eN l i).1 (eN l i).2.1 (eN l i).2.2.1 u g.en g.s16.rd (λhk=>by
  have:=g.en.nm.lk M;exact G5.two h.lk this.1 this.2 (g.en.nm.rw M)) e3 hp (by have:=g.en.t1;omega)
 refine aV hap (gJ rfl (ak ?_));dsimp only;rw[iC,WJ w s hi];have:(ku w (zF w s l i).1 (eN l i).1 (eN l i).2.1 (eN l i).2.2.1 u).1=(nxP w (zF w s l i) (eN l i)).1:=by
  unfold nxP;by_cases q:(eN l i).2.1=18;rw[<- A,aD q];rw[TY w _ _ _ _ u (eN l i).2.2.2.1 q]
 rw[this];rintro y rfl;exact cK (ak rfl)
def al9 (y:WN×Y SY) (ns:η) (A:l! ns<=1000):Ok (fI (y,ns)) λb=>b=J↔∀z∈ns,0<=z/\z<l! y.1.2.2.2:=by
 unfold fI cg bO bM a8 cW aJ cH;refine bX (l! ns) (λi z=>z=((i:Int),y)/\∀k:Nat,k<i->0<=aE aO ns (k:Int)/\aE aO ns (k:Int)<l! y.1.2.2.2) ?_ ?_ ⟨rfl,λj hj=>bi hj (fJ _)⟩;rintro i z hi ⟨rfl,hp⟩;refine cV (bK (aX (a6 (λz=>z.2=y/\(z.1=af↔0<=aE aO ns (i:Int)/\aE aO ns (i:Int)<l! y.1.2.2.2)) ?_ ?_)));refine bF (λh=>ak ⟨rfl,⟨nofun,λg=>bi g.1 (Int.not_le.2 h)⟩⟩) λh=>ak ⟨rfl,?_⟩
 dsimp only[ax];rw[jK];exact⟨λg=>⟨h,g⟩,λg=>g.2⟩;rintro⟨b,z⟩ ⟨e,q⟩;dsimp only at e q;subst e;refine aR (λh=>ak ⟨nofun,λg=>?_⟩) λh=>ak ⟨?_,λk hk=>?_⟩
 have h:b=J:=h;have:=q.2 (g _ (be (T:=aO) M M));rw[h]at this;cases this;dsimp only;rw[iC];rcases co k i with g|g;exact hp k g;rw[show k=i by omega];exact q.1 h;rintro z ⟨rfl,hp⟩;exact cK (ak ⟨λ_=>ij (T:=aO) (p:=λz:Int=>0<=z/\z<l! y.1.2.2.2) hp,λ_=>rfl⟩)
def ae2 (e:ET):Bool:=decide (e.2.1=3)||decide (e.2.1=4)
def cfB (a b:ET):Bool:=ae2 a&&ae2 b&&decide (a.2.2.1=b.2.2.1)&&(decide (a.2.1=4)||decide (b.2.1=4))
def Zx (e:ET):pN e=Z (ae2 e):=by
 refine bZ ?_;unfold pN ae2 bp aJ;exact a6 (λb=>b=(decide (e.2.1=3)||decide (e.2.1=4))) (aN (λh=>ak (by rw[aP h];rfl)) λh=>ak (by rw[bE h];rfl)) λb q=>ak q
def ad6 (y:WN×Y SY) (a b:Int) (I:0<=a/\a<l! y.1.2.2.2) (A:0<=b/\b<l! y.1.2.2.2):fQ (y,a,b)=Z (cfB (aE iP y.1.2.2.2 a) (aE iP y.1.2.2.2 b)):=by
 refine bZ ?_;unfold fQ bf cg bp bM aJ;refine aS I.1 I.2 (aX (aS A.1 A.2 (aX ?_)));generalize aE iP y.1.2.2.2 a=e;generalize aE iP y.1.2.2.2 b=e';refine a6 (λz=>z=cfB e e') ?_ λz hz=>ak hz
 unfold cfB;refine aV (Zx e) (aR (λh=>aV (Zx e') (aR (λh'=>?_) λh'=>ak (by rw[h,h'];rfl))) λh=>ak (by rw[h];rfl));rw[h,h'];refine aN (λq=>?_) λq=>ak (by rw[bE q];rfl)
 rw[aP q];exact aN (λp=>ak (by rw[aP p];rfl)) λp=>ak (by rw[bE p];rfl)
def W2 (w:WT) (n:Nat) (ev:Int->ET) (a b:Int):Prop:=
 (0<=a/\a<n)/\(0<=b/\b<n)/\a<b/\cfB (ev a) (ev b)=J/\¬(ev a).1=(ev b).1/\(aE mS w.1 (ev a).2.2.1).2.2.2.1=af
def Z7 {b:Int}:(∀z∈[a,b],0<=z/\z<(i:Int))↔(0<=a/\a<i)/\(0<=b/\b<i):=
 ⟨λh=>⟨h a b8,h b b8⟩,λh z q=>by
   rcases bc.1 q with rfl|q;exact h.1;rw[aG]at q;subst q;exact h.2⟩
def wJ.at (h:wJ j) (q:0<=a/\a<l! j.2.2.2):∃i:Nat,a=i/\i<l! j.2.2.2:=⟨a.toNat,M,M⟩
def ay7 (x:WN) (h:wJ x) (S:Y SY) (a b:Int):Ok (kM ((x,S),a,b)) λr=>r=J↔W2 x.1 (l! x.2.2.2) (aE iP x.2.2.2) a b:=by
 unfold kM W2 bf cg jO jP bM aJ;have no:∀{p:Prop},¬p->((af:Bool)=J↔p):=λh=>⟨nofun,λg=>bi g h⟩
 refine a6 (λz=>z.2=(x,S)/\(z.1=af↔((0<=a/\a<l! x.2.2.2)/\(0<=b/\b<l! x.2.2.2))/\a<b/\cfB (aE iP x.2.2.2 a) (aE iP x.2.2.2 b)=J)) ?_ ?_;refine ay (al9 (x,S) [a,b] b8) λr A=>?_
 rw[Z7]at A;refine dJ (λq=>ak ⟨rfl,nofun,λg=>?_⟩) λq=>?_
 rw[A.2 g.1]at q;cases q;have hw:=A.1 q;refine eX (λq=>ak ⟨rfl,nofun,λg=>?_⟩) λq=>?_
 have:=g.2.1;dsimp only at q;omega;refine aV (ad6 (x,S) a b hw.1 hw.2) (ak ⟨rfl,?_⟩);dsimp only;rw[QM];exact⟨λg=>⟨hw,q,g⟩,λg=>g.2.2⟩;rintro⟨r,z⟩ ⟨e,A⟩;dsimp only at e A;subst e;refine aR (λq=>ak (no λg=>?_)) λq=>?_
 have q:r=J:=q;rw[A.2 ⟨⟨g.1,g.2.1⟩,g.2.2.1,g.2.2.2.1⟩]at q;cases q;let⟨⟨ha,hb⟩,hab,I⟩:=A.1 q;refine aS ha.1 ha.2 (aX (aS hb.1 hb.2 (aX ?_)));refine a6 (λz=>z=J↔¬(aE iP x.2.2.2 a).1=(aE iP x.2.2.2 b).1/\(aE mS x.1.1 (aE iP x.2.2.2 a).2.2.1).2.2.2.1=af) ?_ ?_;obtain⟨i,rfl,hi⟩:=h.at ha;have hce:=(h.eni hi).nm.ce (by
  have:ae2 (eN x.2.2.2 i)=J:=by
   unfold cfB at I;rw[ar,ar,ar]at I;exact I.1.1.1
  unfold ae2 at this;rw[gm,decide_eq_true_iff,decide_eq_true_iff]at this;exact this)
 refine bY (λq=>aS hce.1 hce.2 (aX (ak ?_))) λq=>ak (no λg=>g.1 q)
 dsimp only;rw[dj];exact⟨λg=>⟨q,g⟩,λg=>g.2⟩;rintro z hz;exact ak ⟨λg=>⟨ha,hb,hab,I,hz.1 g⟩,λg=>hz.2 g.2.2.2.2⟩
def ab1 {p:Prop} (h:¬p):((af:Bool)=J↔p):=⟨nofun,λg=>bi g h⟩
abbrev G6:Type:=k!
def GV (x:WN) (g:G6):Prop:=g.1=1/\g.2.2.2.1=0/\g.2.2.2.2.1=0/\l! g.2.2.2.2.2=0/\W2 x.1 (l! x.2.2.2) (aE iP x.2.2.2) g.2.1 g.2.2.1
def ar9 (x:WN) (h:wJ x) (g:G6) (hk:g.1=1):Ok (kj ((x,syL x (l! x.2.2.2)),g)) λr=>r=J↔GV x g:=by
 let⟨k,a,b,c,d,ns⟩:=g;unfold kj GV bf bB bN cM iD bp a8 aJ;dsimp only at hk ⊢;subst hk;refine aN (λ_=>?_) λq=>bi rfl q
 refine a6 (λr=>r=J↔c=0/\d=0/\l! ns=0/\W2 x.1 (l! x.2.2.2) (aE iP x.2.2.2) a b) ?_ λr A=>ak (A.trans ⟨λg=>⟨rfl,g⟩,λg=>g.2⟩)
 refine aN (λp=>aN (λp2=>aN (λp3=>?_) λp3=>ak (ab1 λg=>p3 (by have:=g.2.2.1;dsimp only[ax];omega))) λp2=>ak (ab1 λg=>p2 g.2.1)) λp=>ak (ab1 λg=>p g.1)
 refine ay (ay7 x h _ a b) λr A=>ak (A.trans ⟨λg=>⟨p,p2,by dsimp only[ax]at p3;omega,g⟩,λg=>g.2.2.2⟩)
def ZS (x:WN) (h:wJ x) (g:G6) (hk:g.1=1):Ok (sj (x,g)) λr=>r=J↔GV x g:=by
 unfold sj aJ;refine aV (ak7 x h) (a6 (λr=>r=J↔_) (pY rfl (ay (ar9 x h g hk) λr q=>ak q)) λr q=>ak q)
def ixN (l:η) (z:Int):Int:=fdN (λk=>decide (z=aE aO l (k:Int))) (l! l)
def ahp (l:η) (z:Int) (A:l! l<=1000):kF (l,z)=Z (ixN l z):=by
 refine bZ ?_;unfold kF xD bp bO bM a8 cW aJ cH;refine kz (l! l) M (λi x=>x=(i:Int)/\∀j,j<i->decide (z=aE aO l (j:Int))=af) ?_ ?_ ⟨rfl,λj hj=>bi hj (fJ _)⟩;rintro i x hi ⟨rfl,q⟩;refine cV (bK (aX (aN (λh=>ak (Vl hi (aP h) q).symm) λh=>ak ⟨iC,λj hj=>?_⟩)));rcases co j i with g|g;exact q j g;rw[show j=i by omega];exact bE h;rintro x ⟨rfl,q⟩;exact cK (ak (aoc q).symm)
def ag4 :0<=ixN c a↔a∈c:=by
 unfold ixN;rcases J5 (λk=>decide (a=aE aO c (k:Int))) (l! c) with ⟨h1,h2⟩|⟨k,h1,h2,q,_⟩;rw[h1];refine ⟨λg=>bi g cr,λg=>?_⟩;let⟨j,hj,e⟩:=zB g;have:=h2 j hj;rw[decide_eq_false_iff_not]at this;exact (this (by
  unfold aE;rw[aC];show a=(c[j]?).getD _;rw[aI hj];exact e.symm)).elim
 rw[h2];refine ⟨λ_=>?_,λ_=>M⟩;have q:a=aE aO c (k:Int):=a_ q;rw[q];exact be (T:=aO) M M
def nxE (x:WN) (c:CF) (e:Int):Bool:=decide (0<=e/\e<l! x.2.2.2)&&decide (Fl x c.2.2.2.1 (aE iP x.2.2.2 e).1=e)
def ryE (x:WN) (c:CF) (e:Int):Bool:=nxE x c e&&QW x c (aE iP x.2.2.2 e).1
def ayd (x:WN) (h:wJ x) (c:CF) (A:CI x c) (e:Int):uA (x,c,e)=Z (nxE x c e):=by
 refine bZ ?_;unfold uA nxE cg bO jO bM a8 aJ;have hl:=h.ln;have ho:=A.ln;refine a6 (λb=>b=(decide (0<=e/\e<l! x.2.2.2)&&decide (Fl x c.2.2.2.1 (aE iP x.2.2.2 e).1=e))) ?_ λb I=>ak I
 refine eX (λp=>bF (λq=>aS p q (aX (aV (Qu x c _ M M) (ak ?_)))) λq=>ak ?_) λp=>ak ?_
 dsimp only;rw[aP (p:=0<=e/\e<l! x.2.2.2) ⟨p,q⟩,du];have q:(l! x.2.2.2:Int)<=e:=q;rw[bE M];rfl;have p:e<0:=p;rw[bE M];rfl
def ayb {c:CF} (h:nxE j c a=J):0<=a/\a<l! j.2.2.2:=by
 unfold nxE at h;rw[ar,decide_eq_true_iff]at h;exact h.1
def af1 (x:WN) (h:wJ x) (c:CF) (A:CI x c) (e:Int):o8 (x,c,e)=Z (ryE x c e):=by
 refine bZ ?_;unfold o8 ryE cg bM aJ;refine a6 (λb=>b=(nxE x c e&&QW x c (aE iP x.2.2.2 e).1)) ?_ λb I=>ak I
 refine aV (ayd x h c A e) (aR (λp=>?_) λp=>ak (by rw[p];rfl));have q:=ayb p;refine aS q.1 q.2 (aX (aV (aee x h c A _).1 (ak ?_)));dsimp only;rw[p,du]
def awg (l:η) (z:Int):cN 0 (ixN l z)=l.contains z:=by
 by_cases h:z∈l;rw[tp.2 (ag4.2 h),ca.2 h];rw[jK.2 (by have:=mt ag4.1 h;omega)]
 symm;rw[<- tS,ca];exact h
def Q1 (x:WN) (c:CF) (g:G6):Bool:=ryE x c g.2.1&&ryE x c g.2.2.1
def ai5 (x:WN) (h:wJ x) (c:CF) (A:CI x c) (g:G6) (hk:g.1=1):qP (x,c,g)=Z (Q1 x c g):=by
 refine bZ ?_;let⟨k,a,b,d,e,ns⟩:=g;unfold qP Q1 bf bB bN cM gE cg dh sL bp bO jO bM a8 cW aJ cH;dsimp only at hk ⊢;refine aN (λp=>?_) λp=>bi hk p
 refine a6 (λr=>r=(ryE x c a&&ryE x c b)) ?_ λr I=>ak I
 refine aV (af1 x h c A a) (aR (λq=>aV (af1 x h c A b) (ak ?_)) λq=>ak (by rw[q];rfl));dsimp only;rw[q,du]
def ahq (x:WN) (h:wJ x) (c:CF) (I:CI x c) (g:G6) (A:GV x g):sq (x,c,g)=Z (Q1 x c g):=by
 refine bZ ?_;unfold sq aJ;refine a6 (λr=>r=Q1 x c g) ?_ λr q=>ak q
 refine aV (ai5 x h c I g A.1) (aR (λp=>ay (ZS x h g A.1) λr q=>ak ?_) λp=>ak p.symm);dsimp only;rw[p];exact q.2 A
def msB (c:CF) (g:G6):Bool:=c.2.2.2.1.contains g.2.1||c.2.2.2.1.contains g.2.2.1
def amw (x:WN) (h:wJ x) (c:CF) (hc:CI x c) (g:G6) (hk:g.1=1):oX (c,g)=Z (msB c g):=by
 refine bZ ?_;let⟨k,a,b,d,e,ns⟩:=g;unfold oX msB bf bB bN dh iD bp bO jO bM aJ;dsimp only at hk ⊢;have hl:=h.ln;have ho:=hc.ln;have A:l! c.2.2.2.1<=1000:=M;refine aV (ahp _ a A) (aV (ahp _ b A) ?_);have I:=awg c.2.2.2.1 a;have hb:=awg c.2.2.2.1 b;refine aN (λp=>?_) λp=>bi hk p
 refine a6 (λr=>r=(c.2.2.2.1.contains a||c.2.2.2.1.contains b)) (aR (λq=>ak ?_) λq=>ak ?_) λr hr=>ak hr
 rw[<- I,q];rfl;dsimp only;rw[<- I,q,hb];rfl
def wrU (n:Int):aU .u64 n=n%18446744073709551616:=by
 rw[Ei];show kx .u64 n=_;unfold kx;simp[IntKind.signed,IntKind.bits]
abbrev Sq:ζ:=[48,49,50,51,52,53,54,55,56,57,97,98,99,100,101,102,103,104,105,106,107,108,109,110,111,112,113,114,115,116,117,118,119,120,121,122]
def Jb:Nat->Int->η->η
 |0,u,D=>tW Sq u::D
 |n+1,u,D=>if 36<=u then Jb n (u/36) (tW Sq (u%36)::D) else tW Sq u::D
def Vq:∀(n:Nat) (u:Int) (D:η),l! (Jb n u D)<=n+1+l! D
 |0,u,D=>by rw[Jb,gQ];omega
 |n+1,u,D=>by
  rw[Jb];split;have:=Vq n (u/36) (tW Sq (u%36)::D);rw[gQ]at this;omega;rw[gQ];omega
def Vp (D:η) (h:a<36):Jb i a D=tW Sq a::D:=by
 cases i with
 |zero=>rfl
 |succ i=>rw[Jb,av M]
def Tg (l:η) (i:Nat) (d:Int) (hi:i<l! l):(bW l (i:Int) d).drop i=d::l.drop (i+1):=by
 unfold bW;rw[dH,List.drop_eq_getElem_cons (by rw[c_];exact hi),List.getElem_set_self,List.drop_set_of_lt M]
def ao6 (u:Int) (h0:0<=u) (h1:u<18446744073709551616) (buf:η) (hb:l! buf<=1000000):gu ((u,36,af,J),buf)=Z ([],buf++Jb 13 u []):=by
 refine bZ ?_;unfold gu bf cg bp bO jO vI bT cW aJ;refine a6 (λz=>z=(af,buf)) ?_ ?_;exact cK (aN (λh=>bi h (by show ¬(36:Int)=10;decide)) λ_=>ak rfl);rintro z rfl;refine gJ rfl ?_;refine a6 (λz=>z=(u,buf,aA 65 (0:Int))) (gJ rfl (ak rfl)) ?_;rintro z rfl;refine aV (show hP 36=Z af by rfl) (gJ rfl ?_);have A:aU .u64 36=36:=rfl;dsimp only;rw[A];refine bX 14 (λk y=>∃(v:Int) (arr:η),k<=13/\y=((v,((65-k:Nat):Int)),buf,arr)/\l! arr=65/\0<=v/\v*36^k<18446744073709551616/\Jb (13-k) v (arr.drop (65-k))=Jb 13 u []) ?_ ?_ ⟨u,_,M,rfl,cQ,h0,by simpa using h1,rfl⟩;rintro k y hk ⟨v,arr,k13,rfl,I,v0,v1,hd⟩;have hv:v<18446744073709551616:=by
  refine Int.lt_of_le_of_lt ?_ v1;have:(1:Int)<=36^k:=by have:(0:Int)<36^k:=Int.pow_pos cr;omega
  have:=Int.mul_le_mul_of_nonneg_left this v0;omega
 have hi:aU .i64 (((65-k:Nat):Int)-1)=((64-k:Nat):Int):=by rw[iF];omega
 dsimp only;rw[hi];refine eX (λq=>?_) λq=>?_
 have q:36<=v:=q;have:¬k=12:=λe=>by subst e;rw[show (36:Int)^12=4738381338321616896 by decide]at v1;omega
 have:¬k=13:=λe=>by subst e;rw[show (36:Int)^13=170581728179578208256 by decide]at v1;omega
 have e1:aU .u64 (Int.tdiv v 36)=v/36:=by rw[Int.tdiv_eq_ediv_of_nonneg v0,wrU];omega
 have e2:aU .u64 (v-aU .u64 (v/36*36))=v%36:=by rw[wrU,wrU];omega
 rw[e1,e2];refine zP cr (aS M (by show v%36<36;omega) (cq (a? (rf M (bK (ak ⟨v/36,bW arr ((64-k:Nat):Int) (tW Sq (v%36)),M,by rw[show 65-(k+1)=64-k by omega],?_,M,?_,?_⟩))))));unfold bW;rw[c_];exact I;rw[Int.pow_succ];have h36:v/36*36<=v:=M;have:=Int.mul_le_mul_of_nonneg_right h36 (Int.le_of_lt (Int.pow_pos cr:(0:Int)<36^k));have e:v/36*(36^k*36)=v/36*36*36^k:=by rw[Int.mul_comm (36^k) 36,Int.mul_assoc]
 rw[e];omega;rw[<- hd];have:13-k=(13-(k+1))+1:=M;rw[this,Jb,aD q];have:(65-(k+1):Nat)=64-k:=M;rw[this,Tg _ _ _ M,show 64-k+1=65-k by omega];have q:v<36:=q;refine ay (P:=λr=>r=([],buf++Jb 13 u [])) ?_ λr hr=>ak hr
 refine aS v0 (by show v<36;omega) (cq (a? (rf M (bK ?_))));refine a6 (λz=>z=(((64-k:Nat):Int),buf,bW arr ((64-k:Nat):Int) (tW Sq v))) (gJ rfl (ak rfl)) ?_;rintro z rfl;have hl:l! (bW arr ((64-k:Nat):Int) (tW Sq v))=65:=by unfold bW;rw[c_];exact I
 have hdr:(bW arr ((64-k:Nat):Int) (tW Sq v)).drop (aL ((64-k:Nat):Int))=Jb 13 u []:=by
  rw[dH,Tg _ _ _ M,<-hd,Vp _ q,show 64-k+1=65-k by omega]
 have hdl:=Vq 13 u [];refine pY rfl (cq (a? (cq (rf lX (ik lX (cq (a? (rf lX ?_))))))));dsimp only;rw[hdr];exact dB (by simp only[jB]at hdl;omega) cr (ak rfl);rintro y ⟨v,arr,k13,rfl,I,v0,v1,hd⟩;omega
def kb (i:Int):η:=(if i<0 then [45] else [])++(Jb 13 (if i<0 then aU .u64 (0-aU .u64 i) else aU .u64 i) []++[32])
def N_ (b:Bool):η:=if b=J then [49,32] else [48,32]
def tj (i:Int):l! (kb i)<=16:=by
 have:=Vq 13 (if i<0 then aU .u64 (0-aU .u64 i) else aU .u64 i) [];unfold kb;generalize Jb 13 (if i<0 then aU .u64 (0-aU .u64 i) else aU .u64 i) []=d at this ⊢;simp only[aQ,bJ,jB] at*
 split<;>simp<;>omega
def wC (b:Bool):l! (N_ b)=2:=by cases b<;>rfl
def ZV (i:Int) (buf:η) (hb:l! buf<=100000):lm ((i,36),buf)=Z (buf++((if i<0 then [45] else [])++Jb 13 (if i<0 then aU .u64 (0-aU .u64 i) else aU .u64 i) [])):=by
 refine bZ ?_;unfold lm bT;refine ay (P:=λy=>y=buf++((if i<0 then [45] else [])++Jb 13 (if i<0 then aU .u64 (0-aU .u64 i) else aU .u64 i) [])) ?_ λy q=>cq (ik rfl (pX (ak q)))
 unfold iL bO bT aJ;refine a6 (λz=>z=((if i<0 then aU .u64 (0-aU .u64 i) else aU .u64 i),buf++(if i<0 then [45] else []))) ?_ ?_;refine bF (λh=>dB ye cr (ak ?_)) λh=>ak ?_
 have h:i<0:=h;rw[aD h,aD h];have h:¬i<0:=iZ.2 h;rw[av h,av h,cS];rintro z rfl;refine ay (P:=λy=>y=buf++((if i<0 then [45] else [])++Jb 13 (if i<0 then aU .u64 (0-aU .u64 i) else aU .u64 i) [])) ?_ λy q=>cq (ik rfl (pX (ak q)))
 unfold iE bp bO bT;refine aN (λh=>bi h (by show ¬(36:Int)=10;decide)) λ_=>?_
 have A:0<=(if i<0 then aU .u64 (0-aU .u64 i) else aU .u64 i)/\(if i<0 then aU .u64 (0-aU .u64 i) else aU .u64 i)<18446744073709551616:=by
  split<;>rw[wrU]<;>omega
 have I:l! (buf++(if i<0 then [45] else []))<=1000000:=by rw[aQ];split<;>simp<;>omega
 refine aV (ao6 _ A.1 A.2 _ I) (cq (ik rfl (pX (ak ?_))));dsimp only;rw[bw]
def wB (i:Int) (buf:η) (q:l! buf<=100000):eJ (i,buf)=Z (buf++kb i):=by
 refine bZ ?_;unfold eJ bT;refine aV (ZV i buf q) (cq (ik rfl (pX (dB ?_ cr (ak ?_)))));have:=tj i;unfold kb at this;simp only[aQ,bJ]at this ⊢;omega;unfold kb;simp only[bw]
def kb_0:kb 0=[48,32]:=by unfold kb;rw[av cr,av cr,wrU,Vp _ cr];rfl
def kb_1:kb 1=[49,32]:=by unfold kb;rw[av cr,av cr,wrU,Vp _ cr];rfl
def Bi (b:Bool) (buf:η) (q:l! buf<=100000):ip (b,buf)=Z (buf++N_ b):=by
 refine bZ ?_;unfold ip bT;refine aR (λh=>aV (wB 1 buf q) (cq (ik rfl (pX (ak ?_))))) λh=>aV (wB 0 buf q) (cq (ik rfl (pX (ak ?_))))
 have h:b=J:=h;rw[h,kb_1];rfl;have h:b=af:=h;rw[h,kb_0];rfl
def exL (n:Nat) (q:η):θ:=q.foldl (λl z=>bW l z J) (aA n af)
def Vm (q:η):∀(l:θ),(∀z∈q,0<=z/\z<(l! l:Int))->l! (q.foldl (λl z=>bW l z J) l)=l! l/\∀k:Nat,k<l! l->aE (.bool) (q.foldl (λl z=>bW l z J) l) (k:Int)=(aE (.bool) l (k:Int)||q.contains (k:Int)):=by
 induction q with
 |nil=>intro l _;exact⟨rfl,λk _=>b8⟩
 |cons z r I=>
  intro l h;have hz:=h z (bU ..);have A:l! (bW l z J)=l! l:=by unfold bW;rw[c_]
  let⟨h1,h2⟩:=I (bW l z J) λy hy=>by rw[A];exact h y (bx _ hy)
  refine ⟨by rw[dN,h1,A],λk hk=>?_⟩;rw[dN,h2 k (by rw[A];exact hk)];have hg:aE (.bool) (bW l z J) (k:Int)=if (k:Int)=z then J else aE (.bool) l (k:Int):=by
   unfold aE bW;rw[aC,aC];show ((l.set z.toNat J)[k]?).getD _=_;rw[gy];by_cases e:(k:Int)=z;rw[aD e,aD M,aD M];rfl;rw[av e,av M];rfl
  rw[hg,List.contains_cons];by_cases e:(k:Int)=z;rw[aD e,e];simp;rw[av e];have:((k:Int)==z)=af:=by simp[e]
  rw[this,vG]
def ata (n:Nat) (q:η) (h:∀z∈q,0<=z/\z<(n:Int)):l! (exL n q)=n:=by
 have:=(Vm q (aA n af) (by simpa using h)).1;simpa[exL] using this
def az2 (n:Nat) (q:η) (h:∀z∈q,0<=z/\z<(n:Int)) (k:Nat) (hk:k<n):aE (.bool) (exL n q) (k:Int)=q.contains (k:Int):=by
 have:=(Vm q (aA n af) (by simpa using h)).2 k (by simpa using hk);unfold exL;rw[this];have:aE (.bool) (aA n af) (k:Int)=af:=by
  unfold aE;rw[aC];show ((aA n af)[k]?).getD _=_;rw[kN,aD hk];rfl
 rw[this,vG]
def kyU (q:η) (fx:θ) (u:Int) (k:Int):Bool:=decide (0<=u)&&(!q.contains u&&aE (.bool) fx k)
def kyA (q A:η) (fx:θ):Nat->η
 |0=>[]
 |k+1=>kyA q A fx k++(N_ (q.contains (k:Int))++N_ (kyU q fx (aE aO A (k:Int)) (k:Int)))
def Bh (q A:η) (fx:θ):∀n,l! (kyA q A fx n)=4*n
 |0=>rfl
 |n+1=>by rw[kyA,aQ,aQ,Bh q A fx n,wC,wC];omega
def oG (f:R->η):Y R->η
 |[]=>[]
 |x::r=>f x++oG f r
def agm (f:R->η):∀l m:Y R,oG f (l++m)=oG f l++oG f m
 |[],m=>rfl
 |x::r,m=>by rw[gj,oG,oG,agm f r m,bw]
def wG {f:R->η} {b:Nat}:∀{l:Y R},(∀x∈l,l! (f x)<=b)->l! (oG f l)<=l! l*b
 |[],_=>fE _
 |x::r,h=>by
  have h1:=h x (bU ..);have h2:=wG (l:=r) λy q=>h y (bx _ q)
  rw[oG,aQ,gQ,ue];omega
def kyL (x:d!):η:=kb x.1++(kb (l! x.2:Int)++oG kb x.2)
def Bg (x:c!):η:=kb x.1++(kb x.2.1++N_ x.2.2)
def Ev (x:i?):η:=kb x.1++N_ x.2
def kyB (c:CF):η:=oG kyL c.1.1++(kb c.1.2.1++(oG N_ c.1.2.2.1++(oG Bg c.1.2.2.2++(oG Ev c.2.1++oG Ev c.2.2.1))))
def JE (n:Nat) (c:CF) (q:η):ζ:=oL (kyA c.2.2.2.1 q c.2.2.2.2.1 n++kyB c)
def Ye {T:Ty} {f:T.den->η} {xs:Y T.den} (hi:i<ah xs):oG f (cG (i+1) xs)=oG f (cG i xs)++f (aE _ xs (i:Int)):=by
 rw[lM hi,agm];show _++(f _++[])=_;rw[cS]
def qK {l:Y R} (h:l! l<=i):l.take i=l:=dZ h
def Yd {f:Int->η} {l:η} (h:∀x:Int,l! (f x)<=16):l! (oG f l)<=l! l*16:=wG λx _=>h x
def aCy (x:WN) (h:wJ x) (c:CF) (hc:CI x c) (I:η) (hlu:l! I=l! x.2.2.2) (hu:∀z∈I,z<(l! x.2.2.2:Int)):uZ (c,I)=Z (JE (l! x.2.2.2) c I):=by
 refine bZ ?_;unfold uZ bf bB bN cg ck bO jO bT bM nI a8 cW aJ cH;have hl:=h.ln;have ho:=hc.ln;have hod:=hc.od;have hfx:=hc.fx;have v:=h.vl;have hl1:l! c.1.1<=4:=by rw[hc.l1];exact v.l
 have hl2:l! c.1.2.2.1<=2:=by rw[hc.l2];exact v.f
 have hl3:l! c.1.2.2.2<=4:=by rw[hc.l3];exact v.t
 have hl4:l! c.2.1<=12:=by rw[hc.ce];exact v.c
 have hl5:l! c.2.2.1<=2:=by rw[hc.fu];exact v.f
 have hrl:=hc.p8.le;unfold JE;rw[<- hlu];rw[<- hlu]at hl hod hfx hu;generalize hn:l! I=n at hl hod hfx hu ⊢;refine cq (cq (fB Ja (fB (cU _) (dB Ja cr ?_))));refine bX (l! c.2.2.2.1) (λi y=>y=((i:Int),c,(c.2.2.2.1.take i).foldl (λl z=>bW l z J) (aA n af),[])) ?_ ?_ rfl;rintro i y hi rfl;have hz:=hod _ (be (T:=aO) (xs:=c.2.2.2.1) (j:=(i:Int)) M M);have hlen:=(Vm (c.2.2.2.1.take i) (aA n af) λz hz=>by rw[cQ];exact hod z (dL hz)).1;rw[cQ]at hlen;refine cV (bK (aX (aS hz.1 (by rw[hlen];exact hz.2) (aS hz.1 (by rw[hlen];exact hz.2) (ak ?_)))));dsimp only;rw[iC,lM (T:=aO) hi,dG];rfl;rintro y rfl;rw[qK (bg _)];have hxl:=ata n c.2.2.2.1 hod;have hxa:=az2 n c.2.2.2.1 hod;show Ok (aK (hY _ _) _ (aw (iter _ (0,c,exL n c.2.2.2.1,[])) _)) _;generalize exL n c.2.2.2.1=ex at hxl hxa;refine cK (ay (P:=λr=>r=oL (kyA c.2.2.2.1 I c.2.2.2.2.1 n++kyB c)) ?_ λr hr=>ak hr);refine bX n (λi y=>y=((i:Int),c,ex,kyA c.2.2.2.1 I c.2.2.2.2.1 i)) ?_ ?_ rfl;rintro i y hi rfl;have hal:=Bh c.2.2.2.1 I c.2.2.2.2.1 i;refine cV ?_;refine a6 (λz=>z=(c,ex,kyA c.2.2.2.1 I c.2.2.2.2.1 (i+1))) ?_ ?_;refine bK (aX (bK (bK (aX (aV (Bi _ _ lX) (cq (ik rfl (pX ?_))))))));have hui:=hu _ (be (T:=aO) (xs:=I) (j:=(i:Int)) M M);rw[kyA];generalize aE aO I (i:Int)=u at hui ⊢;have hkl:=wC;dsimp only;rw[hxa i hi];have hb2:l! (kyA c.2.2.2.1 I c.2.2.2.2.1 i++N_ (c.2.2.2.1.contains (i:Int)))<=100000:=by rw[aQ,hkl];omega
 refine eX (λq=>?_) λq=>?_
 have hua:=hxa u.toNat M;rw[show ((u.toNat:Nat):Int)=u by omega]at hua;refine aS q M (aS q M (aX ?_));rw[hua];refine dJ (λp=>bK (aX (aV (Bi _ _ hb2) (cq (ik rfl (pX (ak ?_))))))) λp=>aV (Bi _ _ hb2) (cq (ik rfl (pX (ak ?_))))
 unfold kyU;rw[aP q,p,bw];rfl;unfold kyU;rw[aP q,p,bw];rfl;have q:u<0:=q;refine aV (Bi _ _ hb2) (cq (ik rfl (pX (ak ?_))));unfold kyU;rw[bE M,bw];rfl;rintro z rfl;exact ak (by dsimp only;rw[iC]);rintro y rfl;have hA:=Bh c.2.2.2.1 I c.2.2.2.2.1 n;unfold kyB;generalize kyA c.2.2.2.1 I c.2.2.2.2.1 n=A at hA;refine cK (ay (P:=λr=>r=oL (A++(oG kyL c.1.1++(kb c.1.2.1++(oG N_ c.1.2.2.1++(oG Bg c.1.2.2.2++(oG Ev c.2.1++oG Ev c.2.2.1))))))) ?_ λr hr=>ak hr);have hL:∀i,i<=l! c.1.1->l! (A++oG kyL (c.1.1.take i))<=1000:=λi hi=>by
  have:l! (oG kyL (c.1.1.take i))<=l! (c.1.1.take i)*96:=wG λx hx=>by
   have h1:=tj x.1;have h2:=tj (l! x.2:Int);have h3:=Yd (l:=x.2) tj;have h4:=hrl x (dL hx);unfold kyL;rw[aQ,aQ];omega
  rw[bm]at this;rw[aQ];omega
 refine bX (l! c.1.1) (λi y=>y=((i:Int),c,A++oG kyL (c.1.1.take i))) ?_ ?_ (by show _=(_,_,A++[]);rw[cS];rfl);rintro i y hi rfl;have hb:=hL i (gx hi);rw[show oG kyL (c.1.1.take (i+1))=oG kyL (c.1.1.take i)++kyL (aE dU c.1.1 (i:Int)) from Ye (T:=dU) hi,<-bw];have hrd:=hrl _ (be (T:=dU) (xs:=c.1.1) (j:=(i:Int)) M M);refine cV (bK (aX ?_));dsimp only;generalize A++oG kyL (c.1.1.take i)=b at hb;show Ok (aw (eJ ((aE dU c.1.1 (i:Int)).1,b)) _) _;generalize aE dU c.1.1 (i:Int)=lk at hrd ⊢;have k1:=tj lk.1;have k2:=tj (l! lk.2:Int);refine aV (wB _ _ M) (cq (ik rfl (pX (aV (wB _ _ (by rw[aQ];omega)) (cq (ik rfl (pX ?_)))))));refine bX (l! lk.2) (λj y=>y=((j:Int),c,(b++kb lk.1++kb (l! lk.2:Int))++oG kb (lk.2.take j))) ?_ ?_ (by show _=(_,_,_++[]);rw[cS];rfl);rintro j y hj rfl;have k3:=Yd (l:=lk.2.take j) tj;rw[bm]at k3;refine cV (bK (aX (aV (wB _ _ (by simp only[aQ];omega)) (cq (ik rfl (pX (ak ?_)))))));dsimp only;rw[iC,show oG kb (lk.2.take (j+1))=oG kb (lk.2.take j)++kb (aE aO lk.2 (j:Int)) from Ye (T:=aO) hj,bw];rintro y rfl;refine cK (ak ?_);dsimp only;rw[iC,qK (bg _)];unfold kyL;simp only[bw];rintro y rfl;have hb:=hL _ (bg _);rw[qK (bg _)]at hb;rw[qK (bg _)];simp only[<- bw];generalize A++oG kyL c.1.1=b at hb;refine cK (ay (P:=λr=>r=oL (b++kb c.1.2.1++oG N_ c.1.2.2.1++oG Bg c.1.2.2.2++oG Ev c.2.1++oG Ev c.2.2.1)) ?_ λr hr=>ak hr);have k1:=tj c.1.2.1;refine aV (wB _ _ M) (cq (ik rfl (pX ?_)));have hb1:l! (b++kb c.1.2.1)<=2000:=by rw[aQ];omega
 generalize b++kb c.1.2.1=b at hb1;refine bX (l! c.1.2.2.1) (λi y=>y=((i:Int),c,b++oG N_ (c.1.2.2.1.take i))) ?_ ?_ (by show _=(_,_,b++[]);rw[cS];rfl);rintro i y hi rfl;have k3:=wG (f:=N_) (b:=2) (l:=c.1.2.2.1.take i) λx _=>by rw[wC];exact bg _
 rw[bm]at k3;refine cV (bK (aX (aV (Bi _ _ (by simp only[aQ];omega)) (cq (ik rfl (pX (ak ?_)))))));dsimp only;rw[iC,show oG N_ (c.1.2.2.1.take (i+1))=oG N_ (c.1.2.2.1.take i)++N_ (aE (.bool) c.1.2.2.1 (i:Int)) from Ye (T:=.bool) hi,bw];rintro y rfl;have k3:=wG (f:=N_) (b:=2) (l:=c.1.2.2.1) λx _=>by rw[wC];exact bg _
 have hb2:l! (b++oG N_ c.1.2.2.1)<=3000:=by rw[aQ];omega
 rw[qK (bg _)];generalize b++oG N_ c.1.2.2.1=b at hb2;refine cK (ay (P:=λr=>r=oL (b++oG Bg c.1.2.2.2++oG Ev c.2.1++oG Ev c.2.2.1)) ?_ λr hr=>ak hr);have kT:∀x:c!,l! (Bg x)<=34:=λx=>by
  have:=tj x.1;have:=tj x.2.1;have:=wC x.2.2;unfold Bg;rw[aQ,aQ];omega
 refine bX (l! c.1.2.2.2) (λi y=>y=((i:Int),c,b++oG Bg (c.1.2.2.2.take i))) ?_ ?_ (by show _=(_,_,b++[]);rw[cS];rfl);rintro i y hi rfl;have k3:=wG (f:=Bg) (b:=34) (l:=c.1.2.2.2.take i) λx _=>kT x
 rw[bm]at k3;rw[show oG Bg (c.1.2.2.2.take (i+1))=oG Bg (c.1.2.2.2.take i)++Bg (aE iH c.1.2.2.2 (i:Int)) from Ye (T:=iH) hi];refine cV (bK (aX ?_));dsimp only;have hb3:l! (b++oG Bg (c.1.2.2.2.take i))<=4000:=by rw[aQ];omega
 rw[<- bw];generalize b++oG Bg (c.1.2.2.2.take i)=b at hb3;show Ok (aw (eJ ((aE iH c.1.2.2.2 (i:Int)).1,b)) _) _;generalize aE iH c.1.2.2.2 (i:Int)=th;have k4:=tj th.1;have k5:=tj th.2.1;refine aV (wB _ _ M) (cq (ik rfl (pX (aV (wB _ _ (by rw[aQ];omega)) (cq (ik rfl (pX (aV (Bi _ _ (by rw[aQ,aQ];omega)) (cq (ik rfl (pX (ak ?_))))))))))));dsimp only;rw[iC];unfold Bg;simp only[bw];rintro y rfl;have k4:=wG (f:=Bg) (b:=34) (l:=c.1.2.2.2) λx _=>kT x
 have hb3:l! (b++oG Bg c.1.2.2.2)<=4000:=by rw[aQ];omega
 rw[qK (bg _)];generalize b++oG Bg c.1.2.2.2=b at hb3;refine cK (ay (P:=λr=>r=oL (b++oG Ev c.2.1++oG Ev c.2.2.1)) ?_ λr hr=>ak hr);have kC:∀x:i?,l! (Ev x)<=18:=λx=>by
  have:=tj x.1;have:=wC x.2;unfold Ev;rw[aQ];omega
 have hkc:∀(cs:Y i?) (b:η),l! cs<=12->l! b<=5000->∀i:Nat,i<l! cs->l! (b++oG Ev (cs.take i))<=6000:=λcs b h1 h2 i hi=>by
  have k3:=wG (f:=Ev) (b:=18) (l:=cs.take i) λx _=>kC x
  rw[bm]at k3;rw[aQ];omega
 have hce:l! (b++oG Ev c.2.1)<=5000:=by
  have k3:=wG (f:=Ev) (b:=18) (l:=c.2.1) λx _=>kC x
  rw[aQ];omega
 refine bX 2 (λi y=>y=((i:Int),if i=0 then b else if i=1 then b++oG Ev c.2.1 else b++oG Ev c.2.1++oG Ev c.2.2.1)) ?_ ?_ rfl;rintro i y hi rfl;refine cV (cq (a? (rf lX (aX ?_))));obtain⟨cs,bb,hcs,hbb,e1,e2,e3⟩:∃(cs:Y i?) (bb:η),l! cs<=12/\l! bb<=5000/\aE ((.sl BO)) [c.2.1,c.2.2.1] (i:Int)=cs/\(if i=0 then b else if i=1 then b++oG Ev c.2.1 else b++oG Ev c.2.1++oG Ev c.2.2.1)=bb/\(if i+1=0 then b else if i+1=1 then b++oG Ev c.2.1 else b++oG Ev c.2.1++oG Ev c.2.2.1)=bb++oG Ev cs:=by
  rcases show i=0\/i=1 by omega with rfl|rfl
  exact⟨c.2.1,b,hl4,M,rfl,rfl,rfl⟩;exact⟨c.2.2.1,_,M,hce,rfl,rfl,rfl⟩
 rw[e3];dsimp only;rw[e2];rw[e1];refine bX (l! cs) (λj y=>y=((j:Int),bb++oG Ev (cs.take j))) ?_ ?_ (by show _=(_,_++[]);rw[cS];rfl);rintro j y hj rfl;have hb4:=hkc cs bb hcs hbb j hj;rw[show oG Ev (cs.take (j+1))=oG Ev (cs.take j)++Ev (aE BO cs (j:Int)) from Ye (T:=BO) hj,<-bw];refine cV (bK (aX ?_));dsimp only;generalize bb++oG Ev (cs.take j)=b at hb4;show Ok (aw (eJ ((aE BO cs (j:Int)).1,b)) _) _;generalize aE BO cs (j:Int)=z;have k6:=tj z.1;refine aV (wB _ _ M) (cq (ik rfl (pX (aV (Bi _ _ (by rw[aQ];omega)) (cq (ik rfl (pX (ak ?_))))))));dsimp only;rw[iC];unfold Ev;simp only[bw];rintro y rfl;refine cK (ak ?_);dsimp only;rw[iC,qK (bg _)];rintro y rfl;exact cK (ak rfl)
def Fm (own:η) (b i:Int) (q:η) (z:Int):η:=if 0<=aU .i64 (z-b)/\aU .i64 (z-b)<own.length then bW q (aE aO own (aU .i64 (z-b))) i else q
def luE (x:WN) (i:Nat) (q:η):η:=(eN x.2.2.2 i).2.2.2.2.2.2.foldl (Fm (iO x.2.2.2 (eN x.2.2.2 i).1 i) (aE aO x.2.2.1.2.2.2 (eN x.2.2.2 i).1) (i:Int)) ((eN x.2.2.2 i).2.2.2.2.2.1.foldl (Fm (iO x.2.2.2 (eN x.2.2.2 i).1 i) (aE aO x.2.2.1.2.2.2 (eN x.2.2.2 i).1) (i:Int)) q)
def HG (x:WN):Nat->η
 |0=>aA (l! x.2.2.2) (-1)
 |i+1=>luE x i (HG x i)
def US (own:η) (b i:Int) (q:η) (z:Int):l! (Fm own b i q z)=l! q:=by
 unfold Fm;split;exact bu ..;rfl
def Be (own:η) (b i:Int):∀(l q:η),l! (l.foldl (Fm own b i) q)=l! q
 |[],_=>rfl
 |z::r,q=>by rw[dN,Be own b i r,US]
def MV (x:WN):∀i,l! (HG x i)=l! x.2.2.2
 |0=>cQ
 |i+1=>by rw[HG,luE,Be,Be,MV x i]
def aan {i:Int} {m:Int} (hi:i<m):∀(l A:η),(∀z∈A,z<m)->∀z∈l.foldl (Fm c a i) A,z<m
 |[],_,h=>h
 |y::r,A,h=>by
  rw[dN];refine aan hi r _ λz q=>?_
  unfold Fm at q;split at q;rcases li q with q|rfl;exact h z q;exact hi;exact h z q
def an0 (x:WN):∀i,i<=l! x.2.2.2->∀z∈HG x i,z<(l! x.2.2.2:Int)
 |0,hi=>λz q=>by rw[(BT.1 q).2];omega
 |i+1,hi=>by
  rw[HG,luE];exact aan M _ _ (aan M _ _ (an0 x i M))
structure RWS (l:List ET) (i T:Nat) (js:η) (R:List η):Prop where
 a:l! js=T
 b:l! R=T
 c:∀t:Nat,t<T->BX (T:=aO) R (t:Int)=iO l (t:Int) i/\QR js (t:Int)=l! (iO l (t:Int) i)
def RWS.at {R:Y η} (h:RWS L i m c R) {t:Int} (I:0<=t) (A:t<m):BX (T:=aO) R t=iO L t i/\QR c t=l! (iO L t i):=by
 have:=h.c t.toNat M
 rwa [show ((t.toNat:Nat):Int)=t by omega]at this
def RWS.step {R:Y η} (h:RWS L i m c R) (t0:0<=(eN L i).1) (t1:(eN L i).1<m):RWS L (i+1) m (Eg c (aL (eN L i).1) (aZ (ah (iO L (eN L i).1 i++[(i:Int)])))) (zN (T:=aO) (zN (T:=aO) R (eN L i).1 []) (eN L i).1 (iO L (eN L i).1 i++[(i:Int)])):=by
 have ha:=h.a;have I:=h.b;refine ⟨by rw[c_];exact ha,by unfold zN;rw[c_,c_];exact I,λt ht=>?_⟩;have q:=h.c t ht;unfold BX QR at q ⊢;unfold zN;rw[aC,aC]at q ⊢;rw[dH]at q ⊢;rw[gy,gy,gy,iO];by_cases e:(eN L i).1=(t:Int)
 rw[aD (by omega:(eN L i).1.toNat=t),aD (by rw[c_];omega),aD (by omega:(eN L i).1.toNat=t),aD (show (eN L i).1.toNat<l! c by omega),aD e,e];exact⟨rfl,rfl⟩;rw[av (by omega:¬(eN L i).1.toNat=t),av (by omega:¬(eN L i).1.toNat=t),av (by omega:¬(eN L i).1.toNat=t),av e];exact q
def arp (n:Nat):∀i,i<n->bW (aA i (-1)++aA (n-i) (0:Int)) (i:Int) (-1)=aA (i+1) (-1)++aA (n-(i+1)) (0:Int):=λi hi=>by
 unfold bW;rw[dH,show n-i=(n-(i+1))+1 by omega,nV,List.set_append_right _ _ b8,xN];simp
def Xr (x:WN) (h:wJ x):ma x=Z (HG x (l! x.2.2.2)):=by
 refine bZ ?_;unfold ma bf bB bN cM cg dD dh iD ck bO jO vI bT bM a8 cW aJ cH;have hl:=h.ln;have ht4:=h.vl.t;have hk:=h.f16.k;generalize hn:l! x.2.2.2=n at hl;generalize hT:l! x.1.2.2.2.2.1=T at ht4 hk;refine cq (cq (fB Ja (fB (cU _) (dB Ja cr ?_))));have hrl:l! (aA (aL (aZ n)) (0:Int))=n:=b8;refine bX n (λi y=>y=((i:Int),x,aA i (-1)++aA (n-i) (0:Int))) ?_ ?_ rfl;rintro i y hi rfl;have hlen:l! (aA i (-1)++aA (n-i) (0:Int))=n:=ye;refine cV (h:=by rw[hrl];dsimp only[ax];omega) (aS lX (by rw[hlen];dsimp only;omega) (aS lX (by rw[hlen];dsimp only;omega) (ak ?_)));dsimp only;rw[iC,arp n i hi];rintro y rfl;refine cK (h:=by rw[hrl];exact cU _) (ay (P:=λr=>r=HG x n) ?_ λr hr=>ak hr);rw[Nat.sub_self,List.replicate_zero,cS];refine cq (cq (fB Ja (fB (cU _) (dB (by dsimp only[ax];rw[hT];omega) cr ?_))));refine bX n (λi y=>∃A R,y=((i:Int),x,HG x i,A,R)/\RWS x.2.2.2 i T A R) ?_ ?_ ⟨aA T 0,aA T [],by rw[HG,hn,<-hT];rfl,?_⟩;rintro i y hi ⟨A,R,rfl,hR⟩;have hi':i<l! x.2.2.2:=M;have hev:=h.ev hi';have hen:=h.eni hi';have t0:=hen.t0;have t1:=hen.t1;rw[hT]at t1;have hlu:=MV x i;rw[hn]at hlu;have hja:=hR.a;have hjb:=hR.b;let⟨c1,c2⟩:=hR.at t0 t1;refine cV (a6 (λz=>∃A R,z=(x,HG x (i+1),A,R)/\RWS x.2.2.2 (i+1) T A R) ?_ ?_);refine bK (aX ?_);refine a6 (λz=>z=(af,x,HG x i,A,eN x.2.2.2 i,R)) ?_ ?_;refine bF (λq=>bi q (iZ.2 t0)) λ_=>eX (λq=>?_) λ_=>ak ?_
 have q:(l! A:Int)<=(eN x.2.2.2 i).1:=q;exact bi q M;have:¬(l! x.2.2.1.2.2.2:Int)<=(eN x.2.2.2 i).1:=M;dsimp only[ax];rw[jK.2 (by show (eN x.2.2.2 i).1<_;omega)];rintro z rfl;refine gJ rfl ?_;have hst:=hR.step t0 t1;rw[HG,luE];have hcb:(eN x.2.2.2 i).1<l! x.2.2.1.2.2.2:=M;have hom:∀k:Int,0<=k->k<l! (iO x.2.2.2 (eN x.2.2.2 i).1 i)->0<=aE aO (iO x.2.2.2 (eN x.2.2.2 i).1 i) k/\aE aO (iO x.2.2.2 (eN x.2.2.2 i).1 i) k<i:=λk k0 k1=>C4 (be (T:=aO) k0 k1)
 have hol:=C5 x.2.2.2 (eN x.2.2.2 i).1 i;generalize iO x.2.2.2 (eN x.2.2.2 i).1 i=own at c1 c2 hom hst hol ⊢;generalize hbb:aE aO x.2.2.1.2.2.2 (eN x.2.2.2 i).1=I;generalize HG x i=us at hlu;generalize eN x.2.2.2 i=e at hev hst t0 t1 hcb hbb c1 c2 ⊢;have hit:aZ (aL (QR A e.1))=(own.length:Int):=by rw[c2];simp
 have hit2:aL (QR A e.1)=own.length:=by rw[c2];simp
 refine bX 2 (λa y=>y=((a:Int),x,(if a=0 then us else if a=1 then e.2.2.2.2.2.1.foldl (Fm own I (i:Int)) us else e.2.2.2.2.2.2.foldl (Fm own I (i:Int)) (e.2.2.2.2.2.1.foldl (Fm own I (i:Int)) us)),A,e,R)) ?_ ?_ rfl;rintro a y ha rfl;refine cV (cq (a? (rf lX (aX ?_))));obtain⟨ns,u0,hns,hu0,e1,e2,e3⟩:∃(ns u0:η),l! ns<=1000000/\l! u0=n/\aE ((.sl aO)) [e.2.2.2.2.2.1,e.2.2.2.2.2.2] (a:Int)=ns/\(if a=0 then us else if a=1 then e.2.2.2.2.2.1.foldl (Fm own I (i:Int)) us else e.2.2.2.2.2.2.foldl (Fm own I (i:Int)) (e.2.2.2.2.2.1.foldl (Fm own I (i:Int)) us))=u0/\(if a+1=0 then us else if a+1=1 then e.2.2.2.2.2.1.foldl (Fm own I (i:Int)) us else e.2.2.2.2.2.2.foldl (Fm own I (i:Int)) (e.2.2.2.2.2.1.foldl (Fm own I (i:Int)) us))=ns.foldl (Fm own I (i:Int)) u0:=by
  rcases show a=0\/a=1 by omega with rfl|rfl
  exact⟨e.2.2.2.2.2.1,us,hev.1,hlu,rfl,rfl,rfl⟩;exact⟨e.2.2.2.2.2.2,e.2.2.2.2.2.1.foldl (Fm own I (i:Int)) us,hev.2,by rw[Be];exact hlu,rfl,rfl,rfl⟩
 rw[e3];dsimp only;rw[e2,e1];refine bX (l! ns) (λj y=>y=((j:Int),x,(ns.take j).foldl (Fm own I (i:Int)) u0,A,e,R)) ?_ ?_ rfl;rintro j y hj rfl;refine cV ?_;have hul:l! ((ns.take j).foldl (Fm own I (i:Int)) u0)=n:=by rw[Be];exact hu0
 rw[lM (T:=aO) hj,dG];generalize (ns.take j).foldl (Fm own I (i:Int)) u0=uj at hul ⊢;refine a6 (λz=>z=(x,Fm own I (i:Int) uj (aE aO ns (j:Int)),A,e,R)) ?_ ?_;refine bK (aX (aS t0 hcb (aX ?_)));dsimp only;rw[hbb];unfold Fm;generalize aU .i64 (aE aO ns (j:Int)-I)=k;refine a6 (λz=>z=(decide (0<=k/\k<own.length),x,uj,A,e,R)) ?_ ?_;refine eX (λq=>aS t0 M (aS t0 M (ak ?_))) λq=>ak ?_
 dsimp only;rw[hit];by_cases q2:k<(own.length:Int)
 rw[uM.2 q2,aP ⟨q,q2⟩];rw[jJ.2 M,bE M];have q:k<0:=q;rw[bE M];rintro z rfl;refine aN (λq=>?_) λq=>ak (by rw[av q])
 rw[aD q];have hr:=hom k q.1 q.2;refine aS t0 lX (aS t0 lX ?_);dsimp only;rw[hit2];refine aS q.1 q.2 (aS t0 M ?_);rw[c1];refine aS q.1 q.2 (aX (aS hr.1 (by rw[hul];exact Int.lt_trans hr.2 M) (aS hr.1 (by rw[hul];exact Int.lt_trans hr.2 M) (ak rfl))));rintro z rfl;exact ak (by dsimp only;rw[iC];rfl);rintro y rfl;refine cK (ak ?_);dsimp only;rw[iC,qK (bg _)];rintro y rfl;refine cK (ay (P:=λz:((Int×WN×η×η×Y η)⊕η)⊕(WN×η×η×Y η)=>∃A R,z=bR (x,e.2.2.2.2.2.2.foldl (Fm own I (i:Int)) (e.2.2.2.2.2.1.foldl (Fm own I (i:Int)) us),A,R)/\RWS x.2.2.2 (i+1) T A R) ?_ λz hz=>ak ?_);refine aS t0 lX (aS t0 lX (aS t0 lX ?_));dsimp only;rw[c1,hit2];refine cq (ik rfl (dB (by rw[bJ];omega) cr (aS t0 M (aS t0 M (ak ⟨_,_,rfl,hst⟩)))));obtain⟨js',R',rfl,hh⟩:=hz;exact⟨js',R',rfl,hh⟩;rintro z ⟨js',R',rfl,hR'⟩;exact ak ⟨js',R',by dsimp only;rw[iC],hR'⟩;rintro y ⟨A,R,rfl,hR⟩;exact cK (ak rfl);refine ⟨b8,b8,λt ht=>?_⟩;unfold BX QR;rw[aC,aC,dH,kN,kN];simp[ht,iO]
def amx (k j:ζ) (v:Bool):∀m:Y v?,qR (K:=.str) (V:=.bool) j (Cw (K:=.str) (V:=.bool) k v m)=if j=k then Z v else qR (K:=.str) (V:=.bool) j m
 |[]=>by
  show (if decide (j=k)=J then Z v else U)=_;by_cases h:j=k<;>simp[h,qR]
 |(a,b)::r=>by
  have A:=amx k j v r;show qR (K:=.str) (V:=.bool) j (if decide (k=a)=J then (k,v)::r else (a,b)::Cw (K:=.str) (V:=.bool) k v r)=if j=k then Z v else if decide (j=a)=J then Z b else qR (K:=.str) (V:=.bool) j r
  by_cases h:k=a;subst h;rw[aD (aP rfl)];show (if decide (j=k)=J then Z v else qR (K:=.str) (V:=.bool) j r)=_;by_cases g:j=k<;>simp[g];rw[av (by simpa using h)];show (if decide (j=a)=J then Z b else qR (K:=.str) (V:=.bool) j (Cw (K:=.str) (V:=.bool) k v r))=_;rw[A];by_cases g:j=a;subst g;rw[aD (aP rfl),av λq=>h q.symm,aD (aP rfl)];simp only[g,dI,cE,dQ]
def D9 (l:Y ζ) (m:Y v?):Prop:=∀s,vp (K:=.str) (V:=.bool) s m af=decide (s∈l)
def D9.nil:D9 [] []:=λs=>by simp[vp,qR]
def D9.snoc {l:Y ζ} {m:Y v?} (h:D9 l m) (x:ζ):D9 (l++[x]) (Cw (K:=.str) (V:=.bool) x J m):=λs=>by
 have:=h s;unfold vp at this ⊢;rw[amx];by_cases e:s=x;subst e;simp;rw[av e,this];simp[e]
abbrev EL:Type:=CF×Y ν
def NA (ky:CF->ζ) (g:G6) (nx:Y EL) (d:EL):Y EL:=if msB d.1 g=J then nx else if ky d.1∈nx.map (λq=>ky q.1) then nx else nx++[d]
def ary (ky:CF->ζ) (g:G6) (nx:Y EL) (d:EL):l! (NA ky g nx d)<=l! nx+1:=by
 unfold NA;split;omega;split;omega;rw[aQ];exact bg _
def arx {ky:CF->ζ} {g:G6} {nx:Y EL} {d q:EL} (h:q∈NA ky g nx d):q∈nx\/q=d:=by
 unfold NA at h;split at h;exact .inl h;split at h;exact .inl h;rcases bz.1 h with h|h;exact .inl h;rw[aG]at h;exact .inr h
def aro {k:aj R} {Q:R->Prop} (h:i<=4294967296) (hk:Ok k Q):Ok (chk (bk i 224) λ_=>k) Q:=bI (by
 unfold bk;rw[ar];rw[Nat.ble_eq,Nat.ble_eq];exact⟨M,M⟩) hk
def aqk (x:WN) (h:wJ x) (g:G6) (hg:GV x g) (A:η) (hlu:l! A=l! x.2.2.2) (hu:∀z∈A,z<(l! x.2.2.2:Int)) (c:CF) (hc:CI x c) (p:Y ν) (hp:l! p<=100) (t u:Int) (he:QW x c t=J) (res:Y ν) (nx:Y EL) (m:Y v?) (hnx:l! nx+1<=4294967296) (hm:D9 (nx.map λq=>JE (l! x.2.2.2) q.1 A) m):
 Ok (oY (((c,p),t,u),x,g,res,A,m,nx)) λy=>(Q1 x (zQ x c t u) g=J->y.1=J/\y.2.2.2.1=p++[(t,u)])/\(Q1 x (zQ x c t u) g=af->∃m',y=(af,x,g,res,A,m',NA (λd=>JE (l! x.2.2.2) d A) g nx (zQ x c t u,p++[(t,u)]))/\D9 ((NA (λd=>JE (l! x.2.2.2) d A) g nx (zQ x c t u,p++[(t,u)])).map λq=>JE (l! x.2.2.2) q.1 A) m'):=by
 unfold oY bf bB bN cM gE iD sL bT a8 aJ;have hd:=NS h hc u he;refine aV (azy x h c hc t u) ?_;rw[aD he];generalize zQ x c t u=d at hd;refine gJ rfl ?_;refine a6 (λz=>z=(p++[(t,u)],x,g,res,A,m,d,nx)) ?_ ?_;have ht:cG (aL (aZ (l! p))) p=p:=cO;refine cq (cq (UK rfl (fB Ja (fB (cU _) ?_))));dsimp only;rw[ht];exact dB (by rw[bJ];omega) cr (gJ rfl (ak rfl));rintro z rfl;refine aV (ahq x h d hd g hg) (aR (λq=>ak ⟨λ_=>⟨rfl,rfl⟩,λq2=>?_⟩) λq=>?_);exact bi (q.symm.trans q2) cr;have q:Q1 x d g=af:=q;refine aV (amw x h d hd g hg.1) (aR (λq2=>ak ⟨λq3=>bi (q.symm.trans q3) cr,λ_=>⟨m,?_,?_⟩⟩) λq2=>?_);unfold NA;rw[aD q2];unfold NA;rw[aD q2];exact hm;have q2:msB d g=af:=q2;refine a6 (λz=>∃m',z=(x,g,res,A,m',NA (λd=>JE (l! x.2.2.2) d A) g nx (d,p++[(t,u)]))/\D9 ((NA (λd=>JE (l! x.2.2.2) d A) g nx (d,p++[(t,u)])).map λq=>JE (l! x.2.2.2) q.1 A) m') ?_ ?_;refine aV (aCy x h d hd A hlu hu) ?_;have hmk:=hm (JE (l! x.2.2.2) d A);unfold NA;rw[av (by rw[q2];decide)];refine dJ (λo=>?_) λo=>ak ⟨m,?_,?_⟩
 have hin:¬JE (l! x.2.2.2) d A∈nx.map λq=>JE (l! x.2.2.2) q.1 A:=m8 (hmk.symm.trans o)
 rw[av hin];refine aro (by rw[bJ];exact hnx) (ak ⟨_,rfl,?_⟩);rw[b_];exact hm.snoc _;have hin:JE (l! x.2.2.2) d A∈nx.map λq=>JE (l! x.2.2.2) q.1 A:=a_ (hmk.symm.trans o)
 rw[aD hin];have hin:JE (l! x.2.2.2) d A∈nx.map λq=>JE (l! x.2.2.2) q.1 A:=a_ (hmk.symm.trans o)
 rw[aD hin];exact hm;rintro z ⟨m',rfl,I⟩;exact ak ⟨λq3=>bi (q.symm.trans q3) cr,λ_=>⟨m',rfl,I⟩⟩
def cdC (x:WN) (q:EL):Y EL:=(IL x q.1 (l! x.1.2.2.2.2.1)).map λch=>(zQ x q.1 ch.1 ch.2,q.2++[ch])
def Kl (x:WN):Y EL->Y EL
 |[]=>[]
 |q::r=>cdC x q++Kl x r
def V2 (x:WN):∀l m:Y EL,Kl x (l++m)=Kl x l++Kl x m
 |[],m=>rfl
 |q::r,m=>by rw[gj,Kl,Kl,V2 x r m,bw]
def nxL (x:WN) (g:G6) (q:η) (L:Y EL):Y EL:=(Kl x L).foldl (NA (λd=>JE (l! x.2.2.2) d q) g) []
def fnd (x:WN) (g:G6) (q:η):Nat->Y EL->Prop
 |0,_=>False
 |k+1,L=>(∃d∈Kl x L,Q1 x d.1 g=J)\/fnd x g q k (nxL x g q L)
def Vj (x:WN) (g:G6) (q:η):∀k,¬fnd x g q k []
 |0=>id
 |k+1=>λh=>by
  rcases h with ⟨d,h,_⟩|h;cases h;exact Vj x g q k h
def EJ {c:CF} {z:ν}:∀{n:Nat},z∈IL j c n->QW j c z.1=J
 |0,h=>by cases h
 |n+1,h=>by
  rw[IL]at h;rcases bz.1 h with h|h;exact EJ h;unfold chT at h;split at h;rename_i he;unfold chE at h;split at h;rw[aG]at h;subst h;exact he;obtain⟨x,_,rfl⟩:=cF.1 h;exact he;cases h
def ap7 (h:wJ j) {c:CF} (q:CI j c):l! (IL j c (l! j.1.2.2.2.2.1))<=16:=by
 have ht:=h.vl.t;have I:=q.l3;have aux:∀n,l! (IL j c n)<=n*4:=λn=>by
  induction n with
  |zero=>exact fE _
  |succ n A=>
   rw[IL,aQ,ue];have:l! (chT j c (n:Int))<=4:=by
    unfold chT;split;unfold chE;split;simp;rw[bL];exact cR (MM ..) M;exact fE _
   omega
 have:=aux (l! j.1.2.2.2.2.1);omega
structure LV (x:WN) (k:Nat) (L:List EL):Prop where
 n:l! L<=16^k
 a:∀q∈L,CI x q.1/\l! q.1.2.2.2.1=k/\l! q.2=k
def LV.le {L:Y EL} (h:LV j i L) (hk:l! j.2.2.2<i):L=[]:=by
 cases L with
 |nil=>rfl
 |cons q r=>
  have:=h.a q (bU ..);have:=this.1.ln;omega
def aty (h:wJ j) {q d:EL} (A:CI j q.1) (hd:d∈cdC j q):CI j d.1/\l! d.1.2.2.2.1=l! q.1.2.2.2.1+1/\l! d.2=l! q.2+1:=by
 obtain⟨ch,h1,rfl⟩:=cF.1 hd;refine ⟨NS h A _ (EJ h1),?_,?_⟩;dsimp only;rw[C8,aQ];rfl;rw[aQ];rfl
def VZ {d:EL}:∀{L:Y EL},d∈Kl j L->∃q∈L,d∈cdC j q
 |[],h=>by cases h
 |q::r,h=>by
  rw[Kl]at h;rcases bz.1 h with h|h;exact⟨q,bU ..,h⟩;let⟨A,h1,h2⟩:=VZ h;exact⟨A,bx _ h1,h2⟩
def af6 {ky:CF->ζ} {g:G6}:∀{l nx:Y EL} {q:EL},q∈l.foldl (NA ky g) nx->q∈nx\/q∈l
 |[],nx,q,h=>.inl h
 |d::r,nx,q,h=>by
  rw[dN]at h;rcases af6 h with h|h;rcases arx h with h|rfl;exact .inl h;exact .inr (bU ..);exact .inr (bx _ h)
def UE (ky:CF->ζ) (g:G6):∀(l nx:Y EL),l! (l.foldl (NA ky g) nx)<=l! nx+l! l
 |[],nx=>bg _
 |d::r,nx=>by
  rw[dN,gQ];have h1:=UE ky g r (NA ky g nx d);have h2:=ary ky g nx d;omega
def V0 (h:wJ j):∀{L:Y EL},(∀q∈L,CI j q.1)->l! (Kl j L)<=l! L*16
 |[],_=>fE _
 |q::r,hL=>by
  have h1:=V0 h (L:=r) λq A=>hL q (bx _ A)
  have h2:=ap7 h (hL q (bU ..));have I:l! (cdC j q)=l! (IL j q.1 (l! j.1.2.2.2.2.1)):=bL ..;rw[Kl,aQ,gQ,ue];omega
def LV.next (h:wJ j) {L:Y EL} (hL:LV j i L) (g:G6) (I:η):LV j (i+1) (nxL j g I L):=by
 refine ⟨?_,λq A=>?_⟩;have h1:=UE (λd=>JE (l! j.2.2.2) d I) g (Kl j L) [];have h2:=V0 h λq A=>(hL.a q A).1
 have h3:=hL.n;rw[Nat.pow_succ];show (l! (nxL j g I L))<=_;unfold nxL;have h4:=cD 16 h3;simp only[jB]at h1;omega;rcases af6 A with A|A;cases A;let⟨q',h1,h2⟩:=VZ A;let⟨a1,a2,a3⟩:=hL.a q' h1;let⟨b1,b2,b3⟩:=aty h a1 h2;exact⟨b1,M,M⟩
def Yc {g:G6} :∀{x:Nat} {L:Y EL},fnd j g c x L->fnd j g c (x+1) L
 |0,_,h=>h.elim
 |_+1,_,h=>Or.imp id Yc h
def ac1 {g:G6} {x:Nat} {L:Y EL} (h:fnd j g c x L):∀{k:Nat},x<=k->fnd j g c k L
 |0,hk=>by rw[show x=0 by omega]at h;exact h
 |k+1,hk=>by
  rcases co k x with g|g;rw[show k+1=x by omega];exact h;exact Yc (ac1 h g)
def FOK (x:WN) (g:G6) (y:Y ν×Bool):Prop:=
 GV x g->(Q1 x (st0 x) g=J->y.2=J)/\∀j,fnd x g (HG x (l! x.2.2.2)) j [(st0 x,[])]->y.2=J
def aBp (x:WN) (h:wJ x) (g:G6) (hk:g.1=1):Ok (sV (x,g)) (FOK x g):=by
 unfold sV bf bB bN cM gE qY cg dD dh iD xZ bO bT bM nI a8 cW aJ cH;refine ay (ZS x h g hk) λb hb=>dJ (λq=>ak λa=>?_) λq=>?_
 rw[hb.2 a]at q;cases q;have hg:=hb.1 q;refine aV (Xr x h) (aV (auq x h) (aV (ahq x h _ (Uq h) g hg) (aR (λq=>ak λ_=>⟨λ_=>rfl,λ_ _=>rfl⟩) λq=>?_)));have q0:Q1 x (st0 x) g=af:=q;have hlu:=MV x (l! x.2.2.2);have hult:=an0 x (l! x.2.2.2) (bg _);unfold FOK;generalize HG x (l! x.2.2.2)=A at hlu hult ⊢;have hln:=h.ln;suffices hmain:Ok _ λy:Y ν×Bool=>∀j,fnd x g A j [(st0 x,[])]->y.2=J from hmain.mono λy hy _=>⟨λa=>bi (q0.symm.trans a) cr,hy⟩
 refine bX (l! x.2.2.2+1) (λk y=>∃fl L,y=(x,g,A,fl,L)/\LV x k L/\∀j,fnd x g A (k+j) [(st0 x,[])]->fnd x g A j L) ?_ ?_ ⟨af,_,rfl,⟨b8,λq I=>by rw[aG]at I;subst I;exact⟨Uq h,rfl,rfl⟩⟩,λj a=>by rw[bV]at a;exact a⟩;rintro k y hk ⟨fl,L,rfl,hL,hf⟩;have hLn:=hL.n;have h16:(16:Nat)^k<=16^8:=Nat.pow_le_pow_right cr M;rw[show (16:Nat)^8=4294967296 by decide]at h16;refine bF (λhpos=>?_) λhpos=>ak ?_
 refine bX (l! L) (λi y=>∃res m nx,y=((i:Int),x,g,A,res,(fl,L),nx,m)/\nx=(Kl x (L.take i)).foldl (NA (λd=>JE (l! x.2.2.2) d A) g) []/\D9 (nx.map λq=>JE (l! x.2.2.2) q.1 A) m/\∀d∈Kl x (L.take i),Q1 x d.1 g=af) ?_ ?_ ⟨[],[],[],rfl,rfl,D9.nil,λd hd=>by cases hd⟩;rintro i y hi ⟨res,m,nx,rfl,hnx,hm,hno⟩;obtain⟨q,I,hqm⟩:∃q,aE Z0 L (i:Int)=q/\L.take (i+1)=L.take i++[q]:=⟨_,rfl,lM (T:=Z0) hi⟩
 have hqL:q∈L:=by rw[<- I];exact be (T:=Z0) M M
 obtain⟨hc,ho,hp⟩:=hL.a q hqL;refine cV (bK (bK (aX ?_)));dsimp only;rw[I];refine aV (ajw x h q.1 hc) ?_;have hcd:Kl x (L.take (i+1))=Kl x (L.take i)++cdC x q:=by rw[hqm,V2,Kl,Kl,cS]
 have hch:=ap7 h hc;have hmem:∀z∈IL x q.1 (l! x.1.2.2.2.2.1),QW x q.1 z.1=J:=λz hz=>EJ hz
 have hcl:l! (Kl x (L.take i))<=i*16:=by
  have:=V0 h (L:=L.take i) λq I=>(hL.a q (dL I)).1
  rw[bm]at this;exact cR this (cD 16 M)
 unfold cdC at hcd;generalize IL x q.1 (l! x.1.2.2.2.2.1)=cs at hcd hch hmem;refine bX (l! cs) (λj y=>∃res m nx,y=((j:Int),x,g,A,res,q,(fl,L),nx,m)/\nx=(Kl x (L.take i)++(cs.take j).map λch=>(zQ x q.1 ch.1 ch.2,q.2++[ch])).foldl (NA (λd=>JE (l! x.2.2.2) d A) g) []/\D9 (nx.map λq=>JE (l! x.2.2.2) q.1 A) m/\∀d∈Kl x (L.take i)++(cs.take j).map (λch=>((zQ x q.1 ch.1 ch.2,q.2++[ch]):EL)),Q1 x d.1 g=af) ?_ ?_ ⟨res,m,nx,rfl,by rw[List.take_zero,List.map_nil,cS];exact hnx,hm,by rw[List.take_zero,List.map_nil,cS];exact hno⟩;rintro j y hj ⟨res,m,nx,rfl,hnx,hm,hno⟩;obtain⟨ch,hch1,hchm⟩:∃ch:ν,aE gW cs (j:Int)=ch/\cs.take (j+1)=cs.take j++[ch]:=⟨_,rfl,lM (T:=gW) hj⟩
 have hchc:ch∈cs:=by rw[<- hch1];exact be (T:=gW) M M
 have hen:=hmem ch hchc;have hkn:k<8:=by
  have:=(NS h hc ch.2 hen).ln;rw[C8,aQ,ho]at this;simp only[bJ]at this;omega
 have hiL:i<16^7:=by
  have:(16:Nat)^k<=16^7:=Nat.pow_le_pow_right cr M;omega
 rw[show (16:Nat)^7=268435456 by decide]at hiL;have hnl:l! nx+1<=4294967296:=by
  have:=UE (λd=>JE (l! x.2.2.2) d A) g (Kl x (L.take i)++(cs.take j).map λch=>(zQ x q.1 ch.1 ch.2,q.2++[ch])) [];rw[<- hnx,aQ,bL,bm]at this;simp only[jB]at this;omega
 refine cV (bK (aX ?_));dsimp only;rw[hch1];obtain⟨t,u⟩:=ch;obtain⟨c,p⟩:=q;refine ay (aqk x h g hg A hlu hult c hc p (by dsimp only at hp;omega) t u hen res nx m hnl hm) λy hy=>cq (ik rfl (pX ?_))
 cases hrc:Q1 x (zQ x c t u) g with
 |true=>
  obtain⟨y1,y2⟩:=hy.1 hrc;exact aR (λ_=>ak λ_ _=>rfl) λa=>bi (y1.symm.trans a) cr
 |false=>
  obtain⟨m',y2,hm'⟩:=hy.2 hrc;rw[y2];refine gJ rfl (ak ⟨res,m',_,?_,?_,hm',?_⟩);dsimp only;rw[iC];rw[hchm,b_,<-bw,dG,<-hnx];rfl;rw[hchm,b_,<-bw];intro d hd;rcases bz.1 hd with hd|hd;exact hno d hd;rw[d5,List.map_nil,aG]at hd;subst hd;exact hrc
 rintro y ⟨res,m,nx,rfl,hnx,hm,hno⟩;rw[qK (bg _),<-hcd]at hnx hno;refine cK (ak ⟨res,m,nx,?_,hnx,hm,hno⟩);dsimp only;rw[iC];rintro y ⟨res,m,nx,rfl,hnx,hm,hno⟩;rw[qK (bg _)]at hnx hno;refine cK (ak ⟨J,nx,rfl,?_,?_⟩);have:nx=nxL x g A L:=hnx;rw[this];exact hL.next h g A;have:nx=nxL x g A L:=hnx;intro j a;rw[this];exact (hf (j+1) (by rw[show k+(j+1)=k+1+j by omega];exact a)).resolve_left λ⟨d,h1,h2⟩=>bi ((hno d h1).symm.trans h2) cr
 have hpos:(l! L:Int)<=0:=hpos;have:L=[]:=List.eq_nil_of_length_eq_zero M;subst this;exact λj a=>(Vj x g A j (hf j (ac1 a (Nat.le_add_left _ _)))).elim
 rintro y ⟨fl,L,rfl,hL,hf⟩;have:L=[]:=hL.le M;subst this;exact cK (h:=cU _) (ak λj a=>(Vj x g A j (hf j (ac1 a (Nat.le_add_left _ _)))).elim)
def dvF (a z:Int):Int:=a*36+(if z<58 then z-48 else z-87)
def ay2:∀k:Nat,k<36->(if tW Sq (k:Int)<58 then tW Sq (k:Int)-48 else tW Sq (k:Int)-87)=(k:Int)/\48<=tW Sq (k:Int)/\tW Sq (k:Int)<=122:=cr
def Uw (h0:0<=a) (h:a<36):(if tW Sq a<58 then tW Sq a-48 else tW Sq a-87)=a/\48<=tW Sq a/\tW Sq a<=122:=by
 have:=ay2 a.toNat M
 rwa [show ((a.toNat:Nat):Int)=a by omega]at this
def aom {u:Int} (h0:0<=u) (h:u<36):dvF a (tW Sq u)=a*36+u:=by unfold dvF;rw[(Uw h0 h).1]
def Vo:∀(n:Nat) (u:Int) (D:η),0<=u->u<36^(n+1)->(Jb n u D).foldl dvF 0=D.foldl dvF u
 |0,u,D,h0,h=>by rw[Jb,dN,aom h0 (by simpa using h)];congr 1;omega
 |n+1,u,D,h0,h=>by
  rw[Jb];split;rw[Int.pow_succ]at h;rw[Vo n (u/36) _ M M,dN,aom M M];congr 1;omega;rw[dN,aom h0 M];congr 1;omega
def M4:∀(n:Nat) (u:Int) (D:η),0<=u->u<36^(n+1)->∀z∈Jb n u D,z∈D\/48<=z/\z<=122
 |0,u,D,h0,h=>λz q=>by
  rw[Jb]at q;rcases bc.1 q with rfl|q;exact .inr (Uw h0 (by simpa using h)).2;exact .inl q
 |n+1,u,D,h0,h=>λz q=>by
  rw[Jb]at q;split at q;rw[Int.pow_succ]at h;rcases M4 n (u/36) _ M M z q with q|q;rcases bc.1 q with rfl|q;exact .inr (Uw M M).2;exact .inl q;exact .inr q;rcases bc.1 q with rfl|q;exact .inr (Uw h0 M).2;exact .inl q
def abU (i:Int):Int:=if i<0 then -i else i
def sgD (i:Int):η:=(if i<0 then [45] else [])++Jb 13 (abU i) []
def an8 (h:IW a):kb a=sgD a++[32]:=by
 let⟨h0,h1⟩:=h;have:(if a<0 then aU .u64 (0-aU .u64 a) else aU .u64 a)=abU a:=by
  unfold abU;split;rw[wrU,wrU];omega;rw[wrU];omega
 unfold kb sgD;rw[this,bw]
def ae3 (h:IW a):0<=abU a/\abU a<36^(13+1):=by
 rw[show (36:Int)^(13+1)=6140942214464815497216 by decide];let⟨h0,h1⟩:=h;unfold abU;split<;>omega
def aw4 {s:η}:∀{a b:η},¬32∈a->¬32∈b->a++32::c=b++32::s->a=b/\c=s
 |[],[],_,_,h=>⟨rfl,(G8 h).2⟩
 |[],y::b,_,q,h=>bi (bc.2 (.inl (G8 h).1)) q
 |x::a,[],A,_,h=>bi (bc.2 (.inl (G8 h).1.symm)) A
 |x::a,y::b,A,q,h=>by
  let⟨h1,h2⟩:=G8 h;let⟨h3,I⟩:=aw4 (λg=>A (bx _ g)) (λg=>q (bx _ g)) h2;exact⟨by rw[h1,h3],I⟩
def Uu (h:IW a):∀z∈sgD a,z=45\/48<=z/\z<=122:=λz q=>by
 unfold sgD at q;rcases bz.1 q with q|q;split at q;exact .inl (aG.1 q);cases q;let⟨i,b⟩:=ae3 h;exact .inr ((M4 13 _ [] i b z q).resolve_left b8)
def arj {j:Int} (hi:IW a) (hj:IW j) (e:sgD a=sgD j):a=j:=by
 let⟨a0,I⟩:=ae3 hi;let⟨b0,b1⟩:=ae3 hj;have v1:(Jb 13 (abU a) []).foldl dvF 0=abU a:=Vo 13 _ [] a0 I;have v2:(Jb 13 (abU j) []).foldl dvF 0=abU j:=Vo 13 _ [] b0 b1;have A:=M4 13 (abU a) [] a0 I 45;have m2:=M4 13 (abU j) [] b0 b1 45;unfold sgD at e;generalize Jb 13 (abU a) []=D at v1 A e;generalize Jb 13 (abU j) []=E at v2 m2 e;unfold abU at v1 v2;by_cases p:a<0;rw[aD p]at e v1;by_cases q:j<0;rw[aD q]at e v2;rw[List.append_cancel_left e]at v1;omega;rw[av q]at e;have:=(m2 (by rw[<- show [45]++D=E from e];simp)).resolve_left b8;omega;rw[av p]at e v1;by_cases q:j<0;rw[aD q]at e;have:=(A (by rw[show D=[45]++E from e];simp)).resolve_left b8;omega;rw[av q]at e v2;rw[show D=E from e]at v1;omega
def PJx (P:R->Prop) (f:R->η):Prop:=∀{x y:R} {r s:η},P x->P y->f x++r=f y++s->x=y/\r=s
def N9:PJx IW kb:=λ{x y r s} A q e=>by
 rw[an8 A,an8 q,bw,bw]at e;let⟨h1,h2⟩:=aw4 (λh=>by have:=Uu A 32 h;omega) (λh=>by have:=Uu q 32 h;omega) e;exact⟨arj A q h1,h2⟩
def ag2 {a:Bool} (h:N_ a=N_ b):a=b:=by cases a<;>cases b<;>first|rfl|exact bi h cr
def UV:PJx (λ_=>True) N_:=λ{x y r s} _ _ e=>by
 let⟨h1,h2⟩:=List.append_inj e (by rw[wC,wC]);exact⟨ag2 h1,h2⟩
def Gs {P:R->Prop} {f:R->η} (h:PJx P f):∀{l m:Y R} {r s:η},l! l=l! m->(∀x∈l,P x)->(∀x∈m,P x)->oG f l++r=oG f m++s->l=m/\r=s
 |[],[],_,_,_,_,_,e=>⟨rfl,e⟩
 |[],_::_,_,_,q,_,_,_|_::_,[],_,_,q,_,_,_=>by cases q
 |x::l,y::m,r,s,q,h1,h2,e=>by
  rw[oG,oG,bw,bw]at e;let⟨e1,e2⟩:=h (h1 x (bU ..)) (h2 y (bU ..)) e;let⟨e3,I⟩:=Gs h (by simpa using q) (λx A=>h1 x (bx _ A)) (λx A=>h2 x (bx _ A)) e2;exact⟨by rw[e1,e3],I⟩
def asf:PJx (λx=>IW x.1/\IW x.2.1) Bg:=λ{x y r s} A q e=>by
 unfold Bg at e;simp only[bw]at e;let⟨e1,e⟩:=N9 A.1 q.1 e;let⟨e2,e⟩:=N9 A.2 q.2 e;let⟨I,e⟩:=UV trivial trivial e;exact⟨I5 e1 (I5 e2 I),e⟩
def an6:PJx (λx=>IW x.1) Ev:=λ{x y r s} A q e=>by
 unfold Ev at e;simp only[bw]at e;let⟨e1,e⟩:=N9 A q e;let⟨e2,e⟩:=UV trivial trivial e;exact⟨I5 e1 e2,e⟩
def ayl:PJx (λx=>IW x.1/\IW (l! x.2)/\∀z∈x.2,IW z) kyL:=λ{x y r s} A q e=>by
 unfold kyL at e;simp only[bw]at e;let⟨e1,e⟩:=N9 A.1 q.1 e;let⟨e2,e⟩:=N9 A.2.1 q.2.1 e;let⟨I,e⟩:=Gs N9 M A.2.2 q.2.2 e;exact⟨I5 e1 I,e⟩
def BY (z:Int):Prop:=0<=z/\z<256
def KM (h:IW a):∀z∈kb a,BY z:=λz q=>by
 rw[an8 h]at q;unfold BY;rcases bz.1 q with q|q;have:=Uu h z q;omega;rw[aG]at q;omega
def JI (b:Bool):∀z∈N_ b,BY z:=by cases b<;>(unfold N_ BY;simp)
def qH {b:η} (h1:∀z∈c,BY z) (h2:∀z∈b,BY z):∀z∈c++b,BY z:=λz q=>(bz.1 q).elim (h1 z) (h2 z)
def Gt {f:R->η}:∀{l:Y R},(∀x∈l,∀z∈f x,BY z)->∀z∈oG f l,BY z
 |[],_=>λz q=>by cases q
 |x::l,h=>qH (h x (bU ..)) (Gt λy A=>h y (bx _ A))
def aar (q A:η) (fx:θ):∀n,∀z∈kyA q A fx n,BY z
 |0=>λz I=>by cases I
 |n+1=>qH (aar q A fx n) (qH (JI _) (JI _))
def TK:∀{l m:η},(∀z∈l,BY z)->(∀z∈m,BY z)->oL l=oL m->l=m
 |[],[],_,_,_=>rfl
 |[],_::_,_,_,h|_::_,[],_,_,h=>by cases h
 |x::l,y::m,h1,h2,h=>by
  let⟨a,b⟩:=G8 (show Ct x.toNat::oL l=Ct y.toNat::oL m from h);have I:=h1 x (bU ..);have A:=h2 y (bU ..);have e:=eZ UInt8.toNat a;unfold BY at I A;rw[UInt8.toNat_ofNat',UInt8.toNat_ofNat',ml M,ml M]at e;rw[TK (λz q=>h1 z (bx _ q)) (λz q=>h2 z (bx _ q)) b];congr 1;omega
def Jc (s:SY):Prop:=(∀l∈s.1,IW l.1)/\IW s.2.1/\∀t∈s.2.2.2,IW t.1/\IW t.2.1
def RGd (c:CF):Prop:=Jc c.1/\(∀z∈c.2.1,IW z.1)/\∀z∈c.2.2.1,IW z.1
def an7 {c:CF} (h:CI j c) (g:RGd c):∀z∈kyB c,BY z:=by
 let⟨⟨g1,g2,I⟩,g4,g5⟩:=g;refine qH (Gt λl A=>?_) (qH (KM g2) (qH (Gt λb _=>JI b) (qH (Gt λt ht=>qH (KM (I t ht).1) (qH (KM (I t ht).2) (JI _))) (qH (Gt λz q=>qH (KM (g4 z q)) (JI _)) (Gt λz q=>qH (KM (g5 z q)) (JI _))))));have h4:=h.p8.le l A;exact qH (KM (g1 l A)) (qH (KM ⟨M,M⟩) (Gt λz q=>KM (by have:=(h.p8 l A).2 z q;exact⟨M,M⟩)))
def afx {od' q:η} {fx fx':θ}:∀{n:Nat},kyA c q fx n=kyA od' q fx' n->∀k:Nat,k<n->c.contains (k:Int)=od'.contains (k:Int)/\kyU c fx (aE aO q (k:Int)) (k:Int)=kyU od' fx' (aE aO q (k:Int)) (k:Int)
 |0,_=>λk hk=>bi hk (fJ _)
 |n+1,e=>λk hk=>by
  let⟨e1,e2⟩:=List.append_inj (show kyA c q fx n++_=kyA od' q fx' n++_ from e) (by rw[Bh,Bh]);rcases co k n with g|g;exact afx e1 k g;have:k=n:=M;subst this;let⟨a,e2⟩:=UV trivial trivial e2;exact⟨a,ag2 e2⟩
def asi {lu d:CF} (q:CI j lu) (hd:CI j d) (A:RGd lu) (I:RGd d) (e:JE i lu c=JE i d c):(∀k:Nat,k<i->lu.2.2.2.1.contains (k:Int)=d.2.2.2.1.contains (k:Int)/\kyU lu.2.2.2.1 lu.2.2.2.2.1 (aE aO c (k:Int)) (k:Int)=kyU d.2.2.2.1 d.2.2.2.2.1 (aE aO c (k:Int)) (k:Int))/\lu.1=d.1/\lu.2.1=d.2.1/\lu.2.2.1=d.2.2.1:=by
 have e:=TK (qH (aar _ _ _ _) (an7 q A)) (qH (aar _ _ _ _) (an7 hd I)) e;let⟨e1,e2⟩:=List.append_inj e (by rw[Bh,Bh]);refine ⟨afx e1,?_⟩;have rl:∀{lu:CF},CI j lu->RGd lu->∀l∈lu.1.1,IW l.1/\IW (l! l.2)/\∀z∈l.2,IW z:=λq A l hl=>by
  have h4:=q.p8.le l hl;exact⟨A.1.1 l hl,⟨M,M⟩,λz hz=>by have:=(q.p8 l hl).2 z hz;exact⟨M,M⟩⟩
 unfold kyB at e2;let⟨a1,e2⟩:=Gs ayl (by rw[q.l1,hd.l1]) (rl q A) (rl hd I) e2;let⟨a2,e2⟩:=N9 A.1.2.1 I.1.2.1 e2;let⟨a3,e2⟩:=Gs UV (by rw[q.l2,hd.l2]) (λ_ _=>trivial) (λ_ _=>trivial) e2;let⟨a4,e2⟩:=Gs asf (by rw[q.l3,hd.l3]) A.1.2.2 I.1.2.2 e2;let⟨a5,e2⟩:=Gs an6 (by rw[q.ce,hd.ce]) A.2.1 I.2.1 e2;have:=Gs (r:=[]) (s:=[]) an6 (by rw[q.fu,hd.fu]) A.2.2 I.2.2 (by rw[cS,cS];exact e2);exact⟨I5 a1 (I5 a2 (I5 a3 a4)),a5,this.1⟩
def X5 {T:Ty} {xs:Y T.den} {p:T.den->Prop} (h:∀x∈xs,p x) (h0:p T.zero) (j:Int):p (aE _ xs j):=by
 unfold aE;rw[aC];cases q:xs[j.toNat]? with
 |none=>exact h0
 |some x=>exact h x (bh q)
def Jc.ite {c:Prop} [Decidable c] {a b:Y?} (A:Jc a.1) (q:Jc b.1):Jc (if c then a else b).1:=by by_cases h:c<;>simp[h,A,q]
def ZH (l:Y c!):Prop:=∀t∈l,IW t.1/\IW t.2.1
def ZH.at (h:ZH Q) (j:Int):IW (aE iH Q j).1/\IW (aE iH Q j).2.1:=X5 (T:=iH) (p:=λt=>IW t.1/\IW t.2.1) h ⟨IW.sm cr cr,IW.sm cr cr⟩ j
def ZH.set (h:ZH Q) (j:Int) {t:c!} (ht:IW t.1/\IW t.2.1):ZH (bW Q j t):=λx q=>by
 rcases li q with q|rfl;exact h x q;exact ht
def ZH.st (h:ZH Q) (j a:Int) (q:IW a):ZH (xQ Q j a):=h.set j ⟨q,(h.at j).2⟩
def ZH.na:∀(q:η) {l:Y c!},ZH l->ZH (GY l q)
 |[],_,h=>h
 |u::r,l,h=>ZH.na r (h.st u 4 (IW.sm cr cr))
def Jc.ap {w:WT} {s:SY} (h:Jc s) {t:Int} (k u:Int) (ht:IW t) (ho:IW a):Jc (ku w s t k a u).1:=by
 let⟨h1,h2,q⟩:=h;have q:ZH s.2.2.2:=q;have I:IW (-1):=IW.sm cr cr;have A:∀(o b:Int) (r:η),IW b->∀x∈bW s.1 o (b,r),IW x.1:=λo b r hb x hx=>by
  rcases li hx with hx|rfl;exact h1 x hx;exact hb
 have lo:∀o:Int,IW (aE dU s.1 o).1:=λo=>X5 (T:=dU) (p:=λl=>IW l.1) h1 (IW.sm cr cr) o
 have sm:∀o:Int,0<=o->o<=5->IW o:=λo h0 h1=>IW.sm M M
 have s0:Jc s:=⟨h1,h2,q⟩
 have cd:∀(l:Y c!) (o b:Int),ZH l->IW b->ZH (cdP l o b):=λl o b hl hb=>hl.set o ⟨(hl.at o).1,hb⟩
 have at':∀(b:Bool),ZH (atP s.2.2.2 t b):=λb=>q.set t (q.at t)
 unfold ku;refine Jc.ite ⟨h1,h2,q.st _ _ (sm _ cr cr)⟩ (Jc.ite ⟨h1,h2,q.st _ _ (sm _ cr cr)⟩ (Jc.ite ⟨A _ _ _ ht,h2,q⟩ (Jc.ite ⟨A _ _ _ I,h2,q⟩ (Jc.ite ⟨A _ _ _ (lo _),h2,q⟩ (Jc.ite ⟨A _ _ _ (lo _),h2,q⟩ (Jc.ite ⟨h1,ht,q⟩ (Jc.ite ⟨h1,I,q⟩ (Jc.ite ⟨h1,h2,at' _⟩ (Jc.ite ⟨h1,h2,at' _⟩ (Jc.ite ⟨A _ _ _ I,h2,cd _ _ _ (q.st _ _ (sm _ cr cr)) ho⟩ (Jc.ite ⟨A _ _ _ ht,h2,cd _ _ _ (q.st _ _ (sm _ cr cr)) (sm _ cr cr)⟩ (Jc.ite (Jc.ite s0 ⟨h1,h2,q.st _ _ (sm _ cr cr)⟩) (Jc.ite ⟨h1,h2,ZH.na _ q⟩ (Jc.ite ⟨h1,h2,q.st _ _ (sm _ cr cr)⟩ (Jc.ite ⟨h1,h2,q⟩ s0)))))))))))))))
structure RX (x:WN):Prop where
 s:Jc x.2.2.1.1
 c:∀z∈x.2.2.1.2.1,IW z
 f:∀z∈x.2.2.1.2.2.1,IW z
 k:∀z∈x.2.2.1.2.2.2,0<=z/\z<=100000
 v:∀e∈x.2.2.2,IWe e
def NM.iw {w:WT} {o:Int} (h:NM w a o) (v:VL w):IW o:=by
 have h1:=h.k1;have h2:=h.k2;have v1:=v.c;have v2:=v.l;have I:=v.d;have A:=v.f;have q:=v.t;by_cases k:a=3\/a=4;have:=h.ce k;exact IW.sm M M;by_cases k:6<=a/\a<=11;have:=h.lk k;exact IW.sm M M;by_cases k:16<=a/\a<=19;have:=h.cd k;exact IW.sm M M;by_cases k:a=20\/a=21;have:=h.th k;exact IW.sm M M;by_cases k:a=22\/a=23;have:=h.fu k;exact IW.sm M M;have:=h.no M;exact IW.sm M M
def ay0 (r:RX j):RGd (st0 j):=⟨r.s,λz q=>by obtain⟨y,A,rfl⟩:=cF.1 q;exact r.c y A,λz q=>by obtain⟨y,A,rfl⟩:=cF.1 q;exact r.f y A⟩
def aCu (h:wJ j) (r:RX j) {c:CF} (hc:CI j c) (g:RGd c) {t:Int} (u:Int) (he:QW j c t=J):RGd (zQ j c t u):=by
 let⟨ht,k,hk,g1,g2,g3,g4,g5⟩:=(aee j h c hc t).2 he;have hv:=h.vl;have ht4:=hv.t;have z0:IW 0:=IW.sm cr cr;have hw:∀b:Prop,[Decidable b]->(eN j.2.2.2 k).2.1=4\/(eN j.2.2.2 k).2.1=22->IW (if b then ((eN j.2.2.2 k).2.2.2.1,J) else ((0:Int),af)).1:=λb _ q=>by
  split;exact r.v _ (DE hk) q;exact z0
 unfold zQ;rw[g1];have I:t<=1000000:=M;refine ⟨g.1.ap _ _ (IW.sm (yd cr ht.1) I) (g4.nm.iw hv),λz A=>?_,λz A=>?_⟩;have A:z∈if (eN j.2.2.2 k).2.1=4 then bW c.2.1 _ _ else c.2.1:=A
 split at A;rename_i q;rcases li A with A|rfl;exact g.2.1 z A;exact hw _ (.inl q);exact g.2.1 z A;have A:z∈if (eN j.2.2.2 k).2.1=22 then bW c.2.2.1 _ _ else c.2.2.1:=A
 split at A;rename_i q;rcases li A with A|rfl;exact g.2.2 z A;exact hw _ (.inr q);exact g.2.2 z A
def PF (x:WN) (q:η):Prop:=∀i j:Nat,i<j->j<l! x.2.2.2->(eN x.2.2.2 i).1=(eN x.2.2.2 j).1->(j:Int)∈q->(i:Int)∈q
def as5 {t:Int} (e:Fl j c t=(i:Int)) {x:Nat} (hj:x<i) (ht:(eN j.2.2.2 x).1=t):(x:Int)∈c:=by
 unfold Fl at e;split at e;omega;rcases J5 (nxp j.2.2.2 c t) (l! j.2.2.2) with ⟨h1,_⟩|⟨m,h1,h2,I,A⟩;rw[h1]at e;omega;have hm:=A x M;unfold nxp at hm;rw[aP ht,du,QM]at hm;exact ca.1 hm
def PF.snoc (h:PF j c) {t:Int} (hk:i<l! j.2.2.2) (e:Fl j c t=(i:Int)) (ht:(eN j.2.2.2 i).1=t):PF j (c++[(i:Int)]):=λk x hij hj he hm=>by
 rcases bz.1 hm with hm|hm;exact dM _ (h k x hij hj he hm);rw[aG]at hm;have:x=i:=M;subst this;exact dM _ (as5 e hij (he.trans ht))
def Ep {t:Int}:∀{n:Nat},a∈iO L t n->∃j:Nat,a=(j:Int)/\j<n/\(eN L j).1=t
 |0,h=>by cases h
 |n+1,h=>by
  rw[iO]at h;split at h;rename_i e;rcases bz.1 h with h|h;let⟨j,h1,h2,q⟩:=Ep h;exact⟨j,h1,M,q⟩;rw[aG]at h;exact⟨n,h,M,e⟩;let⟨j,h1,h2,q⟩:=Ep h;exact⟨j,h1,M,q⟩
def ao2 {T:Ty} (l m:Y T.den) (h0:0<=a) (h:a<ah l):aE _ (l++m) a=aE _ l a:=by
 unfold aE;rw[aC,aC];congr 1;exact cZ M
def afa {l:Y ET} {t:Int} :∀{n:Nat},i<=n->∃m,iO l t n=iO l t i++m
 |0,h=>⟨[],by rw[show i=0 by omega];rfl⟩
 |n+1,h=>by
  rcases co i (n+1) with g|g;let⟨m,hm⟩:=afa (l:=l) (t:=t) (show i<=n by omega);rw[iO];split;exact⟨m++[(n:Int)],by rw[hm,bw]⟩;exact⟨m,hm⟩;rw[show i=n+1 by omega];exact⟨[],(cS _).symm⟩
def Xd {l:Y ET} {t k:Int} {n:Nat} (h:i<=n) (q:0<=k) (hk:k<l! (iO l t i)):aE aO (iO l t n) k=aE aO (iO l t i) k/\k<l! (iO l t n):=by
 let⟨m,hm⟩:=afa (l:=l) (t:=t) h;rw[hm];exact⟨ao2 (T:=aO) _ _ q hk,by rw[aQ];omega⟩
def awu (h:wJ j) (r:RX j) {t:Int} (t0:0<=t) (t1:t<l! j.2.2.1.2.2.2):∀i:Nat,i<=l! j.2.2.2->aE aO (zF j.1 j.2.2.1 j.2.2.2 i).2.2.2 t=aE aO j.2.2.1.2.2.2 t+l! (iO j.2.2.2 t i)/\(zF j.1 j.2.2.1 j.2.2.2 i).2.2.2.length=l! j.2.2.1.2.2.2
 |0,_=>⟨by show _=_+((0:Nat):Int);rw[GU,Int.add_zero];rfl,rfl⟩
 |i+1,hi=>by
  let⟨a,b⟩:=awu h r t0 t1 i M;have hb:=r.k _ (be (T:=aO) t0 t1);have I:=C5 j.2.2.2 t i;have hln:=h.ln;have g:=h.eni (i:=i) M;have f:=h.f16.k;rw[WJ _ _ M];refine ⟨?_,(bu ..).trans b⟩;show aE aO (bW (zF j.1 j.2.2.1 j.2.2.2 i).2.2.2 (eN j.2.2.2 i).1 (aU .i64 (aE aO (zF j.1 j.2.2.1 j.2.2.2 i).2.2.2 (eN j.2.2.2 i).1+1))) t=_;have A:=g.t0;have g1:=g.t1;rw[jT (T:=aO) _ _ _ _ A (by rw[b];omega) t0,iO];by_cases q:t=(eN j.2.2.2 i).1;rw[aD q,aD q.symm,<-q,a,aQ,bJ];rw[iF];exact Int.add_assoc ..;rw[av q,av λp=>q p.symm];exact a
structure USE (x:WN) (i:Nat) (n:Int):Prop where
 w:aU .i64 (n-aE aO x.2.2.1.2.2.2 (eN x.2.2.2 i).1)=n-aE aO x.2.2.1.2.2.2 (eN x.2.2.2 i).1
 l:n-aE aO x.2.2.1.2.2.2 (eN x.2.2.2 i).1<l! (iO x.2.2.2 (eN x.2.2.2 i).1 i)
def ale (h:wJ j) (r:RX j) (hi:i<l! j.2.2.2) (q:dpE (eN j.2.2.2 i) a):USE j i a:=by
 have g:=h.ch i hi;have e:=g.en;have f:=h.f16.k;have t1:=e.t1;let⟨n,_⟩:=awu h r e.t0 (by rw[f];exact t1) i (gx hi);have hb:=r.k _ (be (T:=aO) e.t0 (by rw[f];exact t1));have I:=C5 j.2.2.2 (eN j.2.2.2 i).1 i;have hln:=h.ln;have A:0<a/\a<aE aO (zF j.1 j.2.2.1 j.2.2.2 i).2.2.2 (eN j.2.2.2 i).1:=by
  rcases q with q|q;have:=g.s16.nd.m a q;exact⟨M,this.2⟩;have:=g.s16.nf.m a q;exact⟨M,this.2⟩
 rw[n]at A;exact⟨iF,M⟩
def amz {A:η} {i n z:Int} (I:0<=z) (ho:∀y∈c,0<=y/\y<(l! A:Int)):aE aO (Fm c a i A n) z=if (0<=aU .i64 (n-a)/\aU .i64 (n-a)<c.length)/\z=aE aO c (aU .i64 (n-a)) then i else aE aO A z:=by
 unfold Fm;by_cases q:0<=aU .i64 (n-a)/\aU .i64 (n-a)<c.length;have:=ho _ (be (T:=aO) q.1 q.2);rw[aD q,jT (T:=aO) _ _ _ _ this.1 this.2 I];by_cases p:z=aE aO c (aU .i64 (n-a));rw[aD p,aD ⟨q,p⟩];rw[av p,av λb=>p b.2];rw[av q,av λb=>q b.1]
def aao {b i:Int} (I:0<=a):∀(l A:η),(∀y∈c,0<=y/\y<(l! A:Int))->aE aO (l.foldl (Fm c b i) A) a=aE aO A a\/aE aO (l.foldl (Fm c b i) A) a=i/\a∈c
 |[],_,_=>.inl rfl
 |n::r,A,ho=>by
  rw[dN];rcases aao I r (Fm c b i A n) (by rw[US];exact ho) with h|h;rw[h,amz I ho];split;rename_i q;exact .inr ⟨rfl,q.2▸be (T:=aO) q.1.1 q.1.2⟩;exact .inl rfl;exact .inr h
def UT {i z:Int} (I:0<=z):∀(l A:η),(∀y∈c,0<=y/\y<(l! A:Int))->(aE aO A z=i\/∃n∈l,(0<=aU .i64 (n-a)/\aU .i64 (n-a)<c.length)/\z=aE aO c (aU .i64 (n-a)))->aE aO (l.foldl (Fm c a i) A) z=i
 |[],A,_,h=>by
  rcases h with h|⟨n,hn,_⟩;exact h;cases hn
 |n::r,A,ho,h=>by
  rw[dN];refine UT I r _ (by rw[US];exact ho) ?_;rw[amz I ho];split;exact .inl rfl;rename_i q;rcases h with h|⟨m,hm,hq⟩;exact .inl h;rcases bc.1 hm with rfl|hm;exact bi hq q;exact .inr ⟨m,hm,hq⟩
def aCw (h:wJ j) (r:RX j) (hi:i<l! j.2.2.2) (A:dpE (eN j.2.2.2 i) a) (hb:aE aO j.2.2.1.2.2.2 (eN j.2.2.2 i).1<=a) {z:Int} (hz:z=aE aO (iO j.2.2.2 (eN j.2.2.2 i).1 i) (a-aE aO j.2.2.1.2.2.2 (eN j.2.2.2 i).1)):∀m:Nat,i<m->m<=l! j.2.2.2->∃x:Nat,i<=x/\x<m/\(eN j.2.2.2 x).1=(eN j.2.2.2 i).1/\aE aO (HG j m) z=(x:Int)
 |0,h0,_=>bi h0 (fJ _)
 |m+1,h0,hm=>by
  have hu:=ale h r hi A;have hown:z∈iO j.2.2.2 (eN j.2.2.2 i).1 i:=by rw[hz];exact be (T:=aO) (Int.sub_nonneg.2 hb) hu.l
  obtain⟨I,rfl,hzi,hzt⟩:=Ep hown;have z0:0<=(I:Int):=M;have hll:=MV j m;have ho:∀y∈iO j.2.2.2 (eN j.2.2.2 m).1 m,0<=y/\y<(l! (HG j m):Int):=λy hy=>by have:=C4 hy;rw[hll];omega
  rw[HG,luE];rcases co i m with g|g;let⟨x,h1,h2,h3,h4⟩:=aCw h r hi A hb hz m g M;have fin:∀v:Int,v=(x:Int)\/v=(m:Int)/\(I:Int)∈iO j.2.2.2 (eN j.2.2.2 m).1 m->∃x:Nat,i<=x/\x<m+1/\(eN j.2.2.2 x).1=(eN j.2.2.2 i).1/\v=(x:Int):=λv hv=>by
   rcases hv with rfl|⟨rfl,hq⟩;exact⟨x,h1,M,h3,rfl⟩;let⟨q,q1,q2,q3⟩:=Ep hq;have:q=I:=M;subst this;exact⟨m,M,M,q3.symm.trans hzt,rfl⟩
  have c1:=aao (b:=aE aO j.2.2.1.2.2.2 (eN j.2.2.2 m).1) (i:=(m:Int)) z0 (eN j.2.2.2 m).2.2.2.2.2.1 (HG j m) ho;have c2:=aao (b:=aE aO j.2.2.1.2.2.2 (eN j.2.2.2 m).1) (i:=(m:Int)) z0 (eN j.2.2.2 m).2.2.2.2.2.2 ((eN j.2.2.2 m).2.2.2.2.2.1.foldl (Fm (iO j.2.2.2 (eN j.2.2.2 m).1 m) (aE aO j.2.2.1.2.2.2 (eN j.2.2.2 m).1) (m:Int)) (HG j m)) (by rw[Be];exact ho);refine fin _ ?_;rcases c2 with q|q;rw[q];rcases c1 with p|p;rw[p];exact .inl h4;exact .inr p;exact .inr q;have:m=i:=M;subst this;refine ⟨m,bg _,M,rfl,?_⟩;have hq:(0<=aU .i64 (a-aE aO j.2.2.1.2.2.2 (eN j.2.2.2 m).1)/\aU .i64 (a-aE aO j.2.2.1.2.2.2 (eN j.2.2.2 m).1)<l! (iO j.2.2.2 (eN j.2.2.2 m).1 m))/\(I:Int)=aE aO (iO j.2.2.2 (eN j.2.2.2 m).1 m) (aU .i64 (a-aE aO j.2.2.1.2.2.2 (eN j.2.2.2 m).1)):=by
   rw[hu.w];exact⟨⟨Int.sub_nonneg.2 hb,hu.l⟩,hz⟩
  refine UT z0 _ _ (by rw[Be];exact ho) ?_;rcases A with A|A;exact .inl (UT z0 _ _ ho (.inr ⟨a,A,hq⟩));exact .inr ⟨a,A,hq⟩
section
def enP (x:WN) (c:CF) (t:Int):Bool:=if Fl x c.2.2.2.1 t<0 then af else ((gq (x.1,c.1,t,(aE iP x.2.2.2 (Fl x c.2.2.2.1 t)).2.1,(aE iP x.2.2.2 (Fl x c.2.2.2.1 t)).2.2.1)).getD af&&S6 x c.2.2.2.2.1 t (aE iP x.2.2.2 (Fl x c.2.2.2.1 t)).2.2.2.2.2.1)
def agv (h:wJ j) {c:CF} (A:CI j c) (t:Int):QW j c t=enP j c t:=by
 suffices hs:gM (j,c,t)=Z (enP j c t) by unfold QW;rw[hs];rfl
 refine bZ ?_;unfold gM enP bf cM cg bO bM aJ;have hl:=h.ln;have ho:=A.ln;refine aV (Qu j c t M M) ?_;rcases aaj j c.2.2.2.1 t with e|⟨ht,k,hk,e,e1,e2⟩;rw[e];exact bF (λ_=>ak rfl) λh=>bi h cr
 rw[e];refine bF (λh=>bi h M) λ_=>bK (aX ?_)
 rw[av M];have hev:=h.ev hk;let⟨b,hb,_⟩:=LW j.1 c.1 (A.sb h.vl) cr (by have:=h.vl.d;omega) t (eN j.2.2.2 k).2.1 (eN j.2.2.2 k).2.2.1;show Ok _ (·=((gq (j.1,c.1,t,(eN j.2.2.2 k).2.1,(eN j.2.2.2 k).2.2.1)).getD af&&S6 j c.2.2.2.2.1 t (eN j.2.2.2 k).2.2.2.2.2.1));rw[hb];refine a6 (λz=>z=(b&&S6 j c.2.2.2.2.1 t (eN j.2.2.2 k).2.2.2.2.2.1)) (aV rfl (aR (λq=>aV (Wh j c t _ M hev.1) (ak ?_)) λq=>ak ?_)) λz I=>ak I
 have q:b=J:=q;rw[q];rfl;have q:b=af:=q;rw[q];rfl
structure Sm (x:WN) (c d:CF):Prop where
 cc:CI x c
 cd:CI x d
 s:c.1=d.1
 ce:c.2.1=d.2.1
 fu:c.2.2.1=d.2.2.1
 o:∀k:Int,c.2.2.2.1.contains k=d.2.2.2.1.contains k
 f:∀k:Nat,k<l! x.2.2.2->kyU c.2.2.2.1 c.2.2.2.2.1 (aE aO (HG x (l! x.2.2.2)) (k:Int)) (k:Int)=kyU d.2.2.2.1 d.2.2.2.2.1 (aE aO (HG x (l! x.2.2.2)) (k:Int)) (k:Int)
 p:PF x c.2.2.2.1
variable {x:WN}
def Sm.nx {c d:CF} (h:Sm x c d) (t:Int):Fl x c.2.2.2.1 t=Fl x d.2.2.2.1 t:=by
 unfold Fl;split;rfl;exact Ta λj _=>by unfold nxp;rw[h.o]
def Sm.fx (w:wJ x) (r:RX x) {c d:CF} (h:Sm x c d) {t:Int} (hi:i<l! x.2.2.2) (e:Fl x c.2.2.2.1 t=(i:Int)) (et:(eN x.2.2.2 i).1=t) (en:¬(i:Int)∈c.2.2.2.1) {ns:η} (A:∀n∈ns,dpE (eN x.2.2.2 i) n):S6 x c.2.2.2.2.1 t ns=S6 x d.2.2.2.2.1 t ns:=by
 unfold S6;have:∀n∈ns,fxQ (iO x.2.2.2 t (l! x.2.2.2)) c.2.2.2.2.1 (aE aO x.2.2.1.2.2.2 t) n=fxQ (iO x.2.2.2 t (l! x.2.2.2)) d.2.2.2.2.1 (aE aO x.2.2.1.2.2.2 t) n:=λn hm=>by
  have hd:=A n hm;have hu:=ale w r hi hd;let⟨hw,hl⟩:=hu;rw[et]at hw hl;unfold fxQ;rw[hw];by_cases q:n<aE aO x.2.2.1.2.2.2 t;rw[aP q];rfl;rw[bE q,vG,vG];let⟨p1,p2⟩:=Xd (n:=l! x.2.2.2) (gx hi) (Int.sub_nonneg.2 (iZ.1 q)) hl;have hlu:=aCw w r hi hd (by rw[et];exact iZ.1 q) (z:=aE aO (iO x.2.2.2 t (l! x.2.2.2)) (n-aE aO x.2.2.1.2.2.2 t)) (by rw[et];exact p1) (l! x.2.2.2) hi (bg _);have hz:aE aO (iO x.2.2.2 t (l! x.2.2.2)) (n-aE aO x.2.2.1.2.2.2 t)∈iO x.2.2.2 t (l! x.2.2.2):=be (T:=aO) (Int.sub_nonneg.2 (iZ.1 q)) p2;unfold fxK;rw[h.cc.fx,h.cd.fx];congr 1;generalize aE aO (iO x.2.2.2 t (l! x.2.2.2)) (n-aE aO x.2.2.1.2.2.2 t)=z at hlu hz;obtain⟨k,rfl,hk,_⟩:=Ep hz;let⟨j,j1,j2,j3,j4⟩:=hlu;have hf:=h.f k hk;rw[j4]at hf;have hj:¬(j:Int)∈c.2.2.2.1:=λhj=>by
   rcases co i j with g|g;exact en (h.p i j g j2 j3.symm hj);exact en (by rw[show i=j by omega];exact hj)
  have I:c.2.2.2.1.contains (j:Int)=af:=by rw[<- tS,ca];exact hj
  unfold kyU at hf;rw[<- h.o,I,aP (by omega:(0:Int)<=(j:Int))]at hf;simpa using hf
 congr 2;rw[Bool.eq_iff_iff,eS,eS];exact⟨λa n A=>by rw[<- this n A];exact a n A,λa n A=>by rw[this n A];exact a n A⟩
def Sm.en (w:wJ x) (r:RX x) {c d:CF} (h:Sm x c d) (t:Int):QW x c t=QW x d t:=by
 rw[agv w h.cc,agv w h.cd];unfold enP;rw[<- h.nx,<-h.s];rcases aaj x c.2.2.2.1 t with e|⟨_,k,hk,e,e1,e2⟩;rw[e];rfl;rw[e];rw[h.fx w r hk e e1 e2 (ns:=(aE iP x.2.2.2 (k:Int)).2.2.2.2.2.1) λn q=>.inl q]
def Sm.ch (w:wJ x) (r:RX x) {c d:CF} (h:Sm x c d):∀n,IL x c n=IL x d n
 |0=>rfl
 |n+1=>by
  rw[IL,IL,h.ch w r n];congr 1;unfold chT chE Sg;rw[h.en w r,h.nx,h.s]
def uR (l:η) (i k:Int):(l++[i]).contains k=(l.contains k||decide (k=i)):=by
 rw[Bool.eq_iff_iff,ca,gm,ca,decide_eq_true_iff,bz,aG]
def awe {c:CF} {t:Int} (g:Fl x c.2.2.2.1 t=(i:Int)):(zQ x c t a).2.2.2.2.1=if (eN x.2.2.2 i).2.1=3 then bW c.2.2.2.2.1 (i:Int) (eqV (aE BO c.2.1 (eN x.2.2.2 i).2.2.1) ((eN x.2.2.2 i).2.2.2.1,J)) else if (eN x.2.2.2 i).2.1=23 then bW c.2.2.2.2.1 (i:Int) (eqV (aE BO c.2.2.1 (eN x.2.2.2 i).2.2.1) ((eN x.2.2.2 i).2.2.2.1,J)) else c.2.2.2.2.1:=by
 unfold zQ;rw[g];rfl
def Sm.mv (w:wJ x) (r:RX x) {c d:CF} (h:Sm x c d) {t:Int} (u:Int) (he:QW x c t=J):Sm x (zQ x c t u) (zQ x d t u):=by
 have he':QW x d t=J:=by rw[<- h.en w r];exact he
 let⟨_,k,hk,I,g2,g3,_,_⟩:=(aee x w c h.cc t).2 he;have hfr:=h.fx w r hk I g2 g3 (ns:=(eN x.2.2.2 k).2.2.2.2.2.2) λn hn=>.inr hn
 have A:Fl x d.2.2.2.1 t=(k:Int):=by rw[<- h.nx];exact I
 have hce:=h.cc.fx;have hde:=h.cd.fx;refine ⟨NS w h.cc u he,NS w h.cd u he',?_,?_,?_,λj=>?_,λj hj=>?_,?_⟩;unfold zQ;rw[I,A];show (ku _ _ _ _ _ _).1=(ku _ _ _ _ _ _).1;rw[h.s];unfold zQ;rw[I,A];show (if _ then bW c.2.1 _ (if S6 x c.2.2.2.2.1 t (eN x.2.2.2 k).2.2.2.2.2.2=J then _ else _) else c.2.1)=(if _ then bW d.2.1 _ (if S6 x d.2.2.2.2.1 t (eN x.2.2.2 k).2.2.2.2.2.2=J then _ else _) else d.2.1)
 rw[h.ce,hfr];unfold zQ;rw[I,A];show (if _ then bW c.2.2.1 _ (if S6 x c.2.2.2.2.1 t (eN x.2.2.2 k).2.2.2.2.2.2=J then _ else _) else c.2.2.1)=(if _ then bW d.2.2.1 _ (if S6 x d.2.2.2.2.1 t (eN x.2.2.2 k).2.2.2.2.2.2=J then _ else _) else d.2.2.1)
 rw[h.fu,hfr];rw[C8,C8,I,A,uR,uR,h.o];have hf:=h.f j hj;have hx:aE (.bool) (zQ x c t u).2.2.2.2.1 (j:Int)=aE (.bool) (zQ x d t u).2.2.2.2.1 (j:Int)\/aE (.bool) (zQ x c t u).2.2.2.2.1 (j:Int)=aE (.bool) c.2.2.2.2.1 (j:Int)/\aE (.bool) (zQ x d t u).2.2.2.2.1 (j:Int)=aE (.bool) d.2.2.2.2.1 (j:Int):=by
  rw[awe I,awe A,<-h.ce,<-h.fu];have sc:∀b:Bool,aE (.bool) (bW c.2.2.2.2.1 (k:Int) b) (j:Int)=if (j:Int)=(k:Int) then b else aE (.bool) c.2.2.2.2.1 (j:Int):=λb=>jT (T:=.bool) _ _ _ _ M M M
  have sd:∀b:Bool,aE (.bool) (bW d.2.2.2.2.1 (k:Int) b) (j:Int)=if (j:Int)=(k:Int) then b else aE (.bool) d.2.2.2.2.1 (j:Int):=λb=>jT (T:=.bool) _ _ _ _ M M M
  by_cases q3:(eN x.2.2.2 k).2.1=3;rw[aD q3,aD q3,sc,sd];by_cases q:(j:Int)=(k:Int)
  rw[aD q,aD q];exact .inl rfl;rw[av q,av q];exact .inr ⟨rfl,rfl⟩;rw[av q3,av q3];by_cases q23:(eN x.2.2.2 k).2.1=23;rw[aD q23,aD q23,sc,sd];by_cases q:(j:Int)=(k:Int)
  rw[aD q,aD q];exact .inl rfl;rw[av q,av q];exact .inr ⟨rfl,rfl⟩;rw[av q23,av q23];exact .inr ⟨rfl,rfl⟩
 unfold kyU at hf ⊢;rw[C8,C8,I,A,uR,uR,<-h.o];rw[<- h.o]at hf;rcases hx with e|⟨e1,e2⟩;rw[e];rw[e1,e2];revert hf;cases decide (0<=aE aO (HG x (l! x.2.2.2)) (j:Int))<;>cases c.2.2.2.1.contains (aE aO (HG x (l! x.2.2.2)) (j:Int))<;>cases decide (aE aO (HG x (l! x.2.2.2)) (j:Int)=(k:Int))<;>simp;rw[C8,I];exact h.p.snoc hk I g2
def Sm.nxE {c d:CF} (h:Sm x c d) (e:Int):nxE x c e=AI.nxE x d e:=by unfold AI.nxE;rw[h.nx]
def Sm.ry (w:wJ x) (r:RX x) {c d:CF} (h:Sm x c d) (e:Int):ryE x c e=ryE x d e:=by unfold ryE;rw[h.nxE,h.en w r]
def Sm.rc (w:wJ x) (r:RX x) {c d:CF} (h:Sm x c d) (g:G6):Q1 x c g=Q1 x d g:=by unfold Q1;rw[h.ry w r,h.ry w r]
def Sm.ms {c d:CF} (h:Sm x c d) (g:G6):msB c g=msB d g:=by unfold msB;rw[h.o,h.o]
def RP (x:WN) (g:G6):Nat->CF->Prop
 |0,_=>False
 |k+1,c=>∃ch∈IL x c (l! x.1.2.2.2.2.1),Q1 x (zQ x c ch.1 ch.2) g=J\/msB (zQ x c ch.1 ch.2) g=af/\RP x g k (zQ x c ch.1 ch.2)
def Sm.rp (w:wJ x) (r:RX x) {g:G6}:∀{k:Nat} {c d:CF},Sm x c d->RP x g k c->RP x g k d
 |0,_,_,_,hp=>hp
 |k+1,c,d,h,hp=>by
  let⟨ch,h1,h2⟩:=hp;have m:=h.mv w r ch.2 (EJ h1);refine ⟨ch,by rw[<- h.ch w r];exact h1,?_⟩;rw[<- m.rc w r,<-m.ms];exact h2.imp id λq=>⟨q.1,m.rp w r q.2⟩
structure ND (x:WN) (c:CF):Prop where
 ci:CI x c
 rg:RGd c
 pf:PF x c.2.2.2.1
def ND.st0 (w:wJ x) (r:RX x):ND x (st0 x):=⟨Uq w,ay0 r,λ_ _ _ _ _ h=>(by cases h)⟩
def ND.mv (w:wJ x) (r:RX x) {c:CF} (h:ND x c) {t u:Int} (he:QW x c t=J):ND x (zQ x c t u):=by
 let⟨_,k,hk,q,A,_⟩:=(aee x w c h.ci t).2 he;exact⟨NS w h.ci u he,aCu w r h.ci h.rg u he,by rw[C8,q];exact h.pf.snoc hk q A⟩
def amg {ky:CF->ζ} {g:G6}:∀{l nx:Y EL} {q:EL},q∈l.foldl (NA ky g) nx->q∈nx\/q∈l/\msB q.1 g=af
 |[],nx,q,h=>.inl h
 |d::r,nx,q,h=>by
  rw[dN]at h;rcases amg h with h|h;unfold NA at h;split at h;exact .inl h;rename_i hm;split at h;exact .inl h;rcases bz.1 h with h|h;exact .inl h;rw[aG]at h;subst h;exact .inr ⟨bU ..,by simpa using hm⟩;exact .inr ⟨bx _ h.1,h.2⟩
def af5 {ky:CF->ζ} {g:G6} {k:ζ}:∀{l nx:Y EL},((∃q∈nx,ky q.1=k)\/∃q∈l,msB q.1 g=af/\ky q.1=k)->∃q∈l.foldl (NA ky g) nx,ky q.1=k
 |[],nx,h=>by
  rcases h with h|⟨q,A,_⟩;exact h;cases A
 |d::r,nx,h=>by
  rw[dN];refine af5 ?_;have keep:(∃q∈nx,ky q.1=k)->∃q∈NA ky g nx d,ky q.1=k:=λ⟨q,A,e⟩=>⟨q,by
   unfold NA;split;exact A;split;exact A;exact dM _ A,e⟩
  rcases h with h|⟨q,A,hm,e⟩;exact .inl (keep h);rcases bc.1 A with rfl|A;by_cases p:ky q.1∈nx.map λq=>ky q.1
  let⟨I,h1,h2⟩:=cF.1 p;exact .inl (keep ⟨I,h1,h2.trans e⟩);refine .inl ⟨q,?_,e⟩;unfold NA;rw[av (by rw[hm];decide),av p];simp;exact .inr ⟨q,A,hm,e⟩
def ao8 (w:wJ x) (r:RX x) {g:G6}:∀{k:Nat} {L:Y EL},(∀q∈L,ND x q.1)->(∃q∈L,RP x g k q.1)->fnd x g (HG x (l! x.2.2.2)) k L
 |0,_,_,⟨_,_,h⟩=>h.elim
 |k+1,L,hL,⟨q,A,ch,h1,h2⟩=>by
  by_cases hd:∃d∈Kl x L,Q1 x d.1 g=J;exact .inl hd;have hin:((zQ x q.1 ch.1 ch.2,q.2++[ch]):EL)∈Kl x L:=by
   obtain⟨a,b,rfl⟩:=List.append_of_mem A;rw[V2,Kl,bz,bz];exact .inr (.inl (cF.2 ⟨ch,h1,rfl⟩))
  rcases h2 with h2|⟨h2,h3⟩;exact .inl ⟨_,hin,h2⟩;have hN:∀q∈nxL x g (HG x (l! x.2.2.2)) L,ND x q.1:=λq A=>by
   rcases amg A with A|⟨A,hm⟩;cases A;let⟨I,b1,b2⟩:=VZ A;obtain⟨ch',b3,rfl⟩:=cF.1 b2;exact (hL I b1).mv w r (EJ b3)
  have n1:=(hL q A).mv w r (u:=ch.2) (EJ h1);let⟨I,hq',e⟩:=af5 (ky:=λd=>JE (l! x.2.2.2) d (HG x (l! x.2.2.2))) (g:=g) (k:=JE (l! x.2.2.2) (zQ x q.1 ch.1 ch.2) (HG x (l! x.2.2.2))) (l:=Kl x L) (nx:=[]) (.inr ⟨_,hin,h2,rfl⟩);have n2:=hN I hq';let⟨k1,k2,k3,k4⟩:=asi n1.ci n2.ci n1.rg n2.rg e.symm;have hs:Sm x (zQ x q.1 ch.1 ch.2) I.1:=⟨n1.ci,n2.ci,k2,k3,k4,λj=>by
   by_cases p:0<=j/\j<l! x.2.2.2;have:=(k1 j.toNat M).1
   rwa [show ((j.toNat:Nat):Int)=j by omega]at this
   have a:¬j∈(zQ x q.1 ch.1 ch.2).2.2.2.1:=λa=>p (n1.ci.od j a)
   have b:¬j∈I.1.2.2.2.1:=λa=>p (n2.ci.od j a)
   rw[Bool.eq_iff_iff,ca,ca];exact⟨λh=>bi h a,λh=>bi h b⟩,λj hj=>(k1 j hj).2,n1.pf⟩
  exact .inr (ao8 w r hN ⟨I,hq',hs.rp w r h3⟩)
end
def RDW (y:WN):Prop:=∀i:Nat,i<l! y.2.2.2->∀n:Int,dpE (eN y.2.2.2 i) n->aE aO y.2.2.1.2.2.2 (eN y.2.2.2 i).1<=n->UC (aE iP y.2.2.2 (aE aO (iO y.2.2.2 (eN y.2.2.2 i).1 i) (n-aE aO y.2.2.1.2.2.2 (eN y.2.2.2 i).1)))=J
def wkV (e:ET):Int:=if e.2.1=18 then e.2.2.2.1 else -1
def ap6 {c:CF} {z:ν} {t:Nat} (q:z∈chT j c (t:Int)):∀{n:Nat},t<n->z∈IL j c n
 |0,h=>bi h (fJ _)
 |n+1,h=>by
  rw[IL];rcases co t n with g|g;exact dM _ (ap6 q g);have:t=n:=M;subst this;exact kf _ q
def kJ (w:WT) (l:Y ET) (z i:Nat):WN:=(w,(i:Int),zF w (MN w) l i,(l.drop i).take z)
def K8.of {w:WT} (tr:TR (w,L)) (hi:i<=l! L):K8 w L i (zF w (MN w) L i):=Ek tr i hi
def aw2 {w:WT} (tr:TR (w,L)):∀i:Nat,i<=l! L->Jc (zF w (MN w) L i).1/\(∀z∈(zF w (MN w) L i).2.1,IW z)/\∀z∈(zF w (MN w) L i).2.2.1,IW z
 |0,_=>by
  have m1:IW (-1):=IW.sm cr cr;have I:IW 0:=IW.sm cr cr;refine ⟨⟨λL hl=>?_,m1,λt ht=>?_⟩,λz A=>?_,λz A=>?_⟩;have hl:L∈aA (l! w.2.1) ((-1:Int),([]:η)):=hl;rw[(BT.1 hl).2];exact m1;have ht:t∈thP (l! w.2.2.2.2.1):=ht;cases hn:l! w.2.2.2.2.1 with
  |zero=>rw[hn]at ht;cases ht
  |succ n=>
   rw[hn]at ht;rcases bc.1 ht with rfl|ht;exact⟨IW.sm cr cr,I⟩;rw[(BT.1 ht).2];exact⟨I,I⟩
  have A:z∈ce0 w:=A;unfold ce0 at A;have hc:=tr.wx.c;dsimp only at hc;rw[hc]at A;have:∀z:Int,z∈C0.map (λc=>c.2.2.2.2)-> -1000000<=z/\z<=1000000:=cr;exact IW.sm (this z A).1 (this z A).2;have A:z∈aA (l! w.2.2.2.1) (0:Int):=A;rw[(BT.1 A).2];exact I
 |i+1,hi=>by
  let⟨a,b,c⟩:=aw2 tr i M;let⟨_,en,_⟩:=(K8.of tr (gx hi)).nb tr hi;have ht:=tr.vl.t;have t0:=en.t0;have t1:=en.t1;dsimp only at ht;have hw:=tr.iw _ (DE (show i<l! L from hi));rw[WJ _ _ hi];refine ⟨a.ap _ _ (IW.sm M M) (en.nm.iw tr.vl),λz A=>?_,λz A=>?_⟩;have A:z∈Zn _ _:=A;unfold Zn at A;split at A;rename_i q;rcases li A with A|rfl;exact b z A;exact hw (.inl q);exact b z A;have A:z∈ZY _ _:=A;unfold ZY at A;split at A;rename_i q;rcases li A with A|rfl;exact c z A;exact hw (.inr q);exact c z A
def Nk {w:WT} (tr:TR (w,L)) (q:m<=8) (hi:i<l! L):wJ (kJ w L m i):=by
 have k8:=K8.of tr (gx hi);let⟨nb,en,_⟩:=k8.nb tr hi;exact⟨tr.vl,tr.wx.l,nb.mono M,⟨k8.c,k8.f,k8.k⟩,⟨en.e1,en.e2,en.e3⟩,k8.r,(CHN.tr tr).slice i m,by show l! ((L.drop i).take m)<=8;rw[bm];omega,λe he=>tr.ls e (xO (dL he))⟩
def Z3 {w:WT} (tr:TR (w,L)) (z:Nat) (hi:i<=l! L):RX (kJ w L z i):=by
 have k8:=K8.of tr hi;let⟨a,b,c⟩:=aw2 tr i hi;have q:l! L<=400:=tr.len;refine ⟨a,b,c,?_,λe he=>tr.iw e (xO (dL he))⟩;refine ij (T:=aO) (p:=λz=>0<=z/\z<=(100000:Int)) λk hk=>?_
 have e:aE aO (kJ w L z i).2.2.1.2.2.2 (k:Int)=(l! (fl (L.take i) (k:Int)):Int):=k8.n (k:Int) M (Int.ofNat_lt.2 hk);rw[e];have:=OT (L.take i) (k:Int);rw[bm]at this;have e2:(0:Int)<=(l! (fl (L.take i) (k:Int)):Int)/\(l! (fl (L.take i) (k:Int)):Int)<=100000:=⟨M,M⟩
 exact e2
def aoa (l:Y ET) (t:Int):∀i:Nat,i<=l! l->fl (l.take i) t=(iO l t i).map λz=>UC (aE iP l z)
 |0,_=>rfl
 |i+1,hi=>by
  rw[lM (T:=iP) (show i<l! l by omega),tD,aoa l t i M,iO];by_cases q:(eN l i).1=t;rw[aD q,yY q,b_];rfl;rw[av q,vx q,cS]
def Uh {w:WT} {l:Y ET} {z k:Nat} (h:k<(kJ w l z i).2.2.2.length):eN (kJ w l z i).2.2.2 k=eN l (i+k)/\i+k<l! l:=by
 have h:k<l! ((l.drop i).take z):=h;rw[bm,fG]at h;refine ⟨?_,M⟩;show eN ((l.drop i).take z) k=_;unfold eN;rw[sD,sD];simp only[aC];rw[dF,aD M,kH]
def ala {w:WT} (tr:TR (w,L)) (z:Nat) (hi:i<=l! L):RDW (kJ w L z i):=λk hk n q A=>by
 let⟨e,hik⟩:=Uh hk;have sc:=tr.sc hik;have k8:=K8.of tr hi;have t0:=sc.en.t0;have t1:=sc.en.t1;have hB:aE aO (kJ w L z i).2.2.1.2.2.2 (eN L (i+k)).1=(l! (fl (L.take i) (eN L (i+k)).1):Int):=k8.n _ t0 (by rw[k8.k];exact t1);have hf:T9 (L.take (i+k)) (eN L (i+k)).1 n:=by
  rw[e]at q;rcases q with q|q;exact sc.rd1 n q;exact sc.rd2 n q
 rw[e]at A ⊢;rw[hB]at A ⊢;have A:(l! (fl (L.take i) (eN L (i+k)).1):Int)<=n:=A;let⟨n0,hf⟩:=hf;have hkl:k<=l! ((L.drop i).take z):=gx hk;have htk:L.take (i+k)=L.take i++((L.drop i).take z).take k:=by
  rw[List.take_add,Ef];congr 2;rw[bm]at hkl;omega
 rw[htk,tD,aC,cL M,aoa _ _ k hkl,bH]at hf;show UC (aE iP ((L.drop i).take z) (aE aO (iO ((L.drop i).take z) (eN L (i+k)).1 k) _))=J;generalize iO ((L.drop i).take z) (eN L (i+k)).1 k=own at hf ⊢;generalize (L.drop i).take z=v at hf ⊢;have e2:n-(l! (fl (L.take i) (eN L (i+k)).1):Int)=((n.toNat-l! (fl (L.take i) (eN L (i+k)).1):Nat):Int):=M;rw[e2];generalize n.toNat-l! (fl (L.take i) (eN L (i+k)).1)=m at hf ⊢;cases I:own[m]? with
 |none=>rw[I]at hf;cases hf
 |some a=>
  rw[I]at hf;have:aE aO own (m:Int)=a:=by
   unfold aE;rw[aC];show (own[m]?).getD _=a;rw[I];rfl
  rw[this];exact hf
def ayk (a b:η):Ok (kL (a,b)) λr=>r=af->l! b<=60:=by
 unfold kL bO a8 aJ;refine a6 (λr=>r=af->l! b<=60) ?_ λr q=>ak q
 refine bF (λ_=>ak nofun) λ_=>ak λh=>?_
 have:=jJ.1 h;dsimp only[ax]at this;omega
def ahb (h:(Lit.int .u8 a).wf=J):0<=a/\a<=255:=⟨a_ (i_.1 h).1,a_ (i_.1 h).2⟩
section
variable {w:WT} {l:Y ET} (tr:TR (w,l)) {z st:Nat} {D:Nat->Prop}
def abz (h:wJ j) (r:RX j) (d:RDW j) {y:Nat} (hj:y<l! j.2.2.2) {fx:θ} (hl:l! fx=l! j.2.2.2) (hf:∀k:Nat,k<y->(eN j.2.2.2 k).1=(eN j.2.2.2 y).1->UC (eN j.2.2.2 k)=J->aE (.bool) fx (k:Int)=J) {ns:η} (hn:∀n∈ns,dpE (eN j.2.2.2 y) n):S6 j fx (eN j.2.2.2 y).1 ns=J:=by
 have g:=h.eni hj;have fk:=h.f16.k;have t0:=g.t0;have t1:=g.t1;unfold S6;rw[aP (p:=0<=(eN j.2.2.2 y).1/\(eN j.2.2.2 y).1<l! j.1.2.2.2.2.1/\(eN j.2.2.2 y).1<l! j.2.2.1.2.2.2) ⟨t0,t1,by rw[fk];exact t1⟩,du,gm];refine .inr ?_;rw[eS];intro n hm;have hd:=hn n hm;let⟨uw,I⟩:=ale h r hj hd;have A:=d y hj n hd;obtain⟨B,hB⟩:∃b:Int,b=aE aO j.2.2.1.2.2.2 (eN j.2.2.2 y).1:=⟨_,rfl⟩
 rw[<- hB]at uw I A ⊢;unfold fxQ;rw[uw];by_cases q:n<B;rw[aP q];rfl;have q0:0<=n-B:=M;let⟨p1,p2⟩:=Xd (l:=j.2.2.2) (t:=(eN j.2.2.2 y).1) (k:=n-B) (gx hj) q0 I;have A:=A (iZ.1 q);rw[bE q,vG];unfold fxK;let⟨z,ez,zl,ht⟩:=Ep (be (T:=aO) (xs:=iO j.2.2.2 (eN j.2.2.2 y).1 y) (j:=n-B) q0 I);rw[p1];rw[ez]at A ⊢;rw[aP (p:=_/\_/\_) ⟨q0,p2,show (z:Int)<(l! fx:Int) by rw[hl];omega⟩,du];exact hf z zl ht A
def Ug (w:WT) (l:Y ET) (z i:Nat):(kJ w l z i).2.2.2.length=min z (l! l-i):=by
 show l! ((l.drop i).take z)=_;rw[bm,fG]
include tr
def axy (z8:z<=8) (hs:st<l! l) (cl:ClD w l D) (hrd:∀i,i<l! l->D i->rdN l i->D (rsN l i)) {c:CF} (h:CfI w l D st (kJ w l z st).2.2.2.length i c) (ci:CI (kJ w l z st) c) (h0:st<=i) (h1:i<st+(kJ w l z st).2.2.2.length) (I:D i):
 QW (kJ w l z st) c (eN l i).1=J/\((eN l i).1,wkV (eN l i))∈IL (kJ w l z st) c (l! w.2.2.2.2.1)/\CfI w l D st (kJ w l z st).2.2.2.length (i+1) (zQ (kJ w l z st) c (eN l i).1 (wkV (eN l i))):=by
 have W:=Nk tr z8 hs;have R:=Z3 tr z (gx hs);have d:=ala tr z (gx hs);have wa:=λk hk=>Uh (w:=w) (l:=l) (z:=z) (i:=st) (k:=k) hk
 obtain⟨x,hx⟩:∃x,x=kJ w l z st:=⟨_,rfl⟩
 have xw:x.1=w:=by rw[hx];rfl
 rw[<- hx]at W R d wa h ci h1 ⊢;obtain⟨j,rfl⟩:∃j,i=st+j:=⟨i-st,M⟩
 have hj:j<l! x.2.2.2:=M;let⟨ej,hi⟩:=wa j hj;have sc:=tr.sc hi;have en:=sc.en;have S:=sim tr cl (st+j) M;let⟨en',rd'⟩:=S.rdy tr cl hi I;have t0:=en.t0;have t1:=en.t1;have ejs:st+j-st=j:=M;have nx:Fl x c.2.2.2.1 (eN l (st+j)).1=(j:Int):=by
  unfold Fl;rw[xw,av M];refine Vl hj ?_ λk hk=>?_
  unfold nxp;rw[ej,aP rfl,du,dj,<-tS,ca];intro q;have:=((h.o j).1 q).2;omega;unfold nxp;let⟨ek,hk'⟩:=wa k M;by_cases e:(eN l (st+k)).1=(eN l (st+j)).1;rw[ca.2 ((h.o k).2 ⟨cl.po _ hi I _ M e,M⟩)];exact Bool.and_false _;rw[ek,bE e];rfl
 have fx:∀k:Nat,k<j->(eN x.2.2.2 k).1=(eN x.2.2.2 j).1->UC (eN x.2.2.2 k)=J->aE (.bool) c.2.2.2.2.1 (k:Int)=J:=λk hk e hr=>by
  let⟨ek,hk'⟩:=wa k M;rw[ek]at e hr;rw[ej]at e;have:=h.fx (st+k) M M (cl.po _ hi I _ M e) hr;rw[show st+k-st=k by omega]at this;rw[sD (T:=.bool)];exact this
 have fD:=abz W R d hj (fx:=c.2.2.2.2.1) ci.fx fx (ns:=(eN x.2.2.2 j).2.2.2.2.2.1) λn hn=>.inl hn
 have fR:=abz W R d hj (fx:=c.2.2.2.2.1) ci.fx fx (ns:=(eN x.2.2.2 j).2.2.2.2.2.2) λn hn=>.inr hn
 have he:aE iP x.2.2.2 (j:Int)=eN l (st+j):=ej;have hen:QW x c (eN l (st+j)).1=J:=by
  rw[agv W ci];unfold enP;rw[nx,av M,he,ar];have:=AE x.1 c.1 (ci.sb W.vl) cr (by have:=W.vl.d;omega) (eN l (st+j)).1 (eN l (st+j)).2.1 (eN l (st+j)).2.2.1 (by rw[xw,h.s];exact en') (by rw[xw,h.s];exact rd');rw[ej]at fD;exact⟨by rw[this];rfl,fD⟩
 have va:=sc.va;refine ⟨hen,?_,?_⟩;refine ap6 (t:=(eN l (st+j)).1.toNat) ?_ M;rw[show (((eN l (st+j)).1.toNat:Nat):Int)=(eN l (st+j)).1 by omega];unfold chT;rw[aD hen,nx,he];unfold chE Sg wkV;by_cases q:(eN l (st+j)).2.1=18;rw[aD q,aD q,h.s];have A:=va.el M M M M M;have hwl:wl (rS w l D (st+j)).2.2.2 (eN l (st+j)).2.2.1 (rS w l D (st+j)).2.2.2.length=wl (fS w l (st+j)).2.2.2 (eN l (st+j)).2.2.1 (fS w l (st+j)).2.2.2.length:=by
  rw[S.e3,en.e3];exact (Ni _ λu hu=>aei tr cl hi I S (.inl q) M M).symm
 rw[hwl];unfold ku at A;rw[av M,av M,av M,av M,av M,av M,av M,av M,av M,av M,av M,av M,aD q]at A;show _∈if (l! (wl (fS w l (st+j)).2.2.2 (eN l (st+j)).2.2.1 (fS w l (st+j)).2.2.2.length))=0 then [((eN l (st+j)).1,(-1:Int))] else (wl (fS w l (st+j)).2.2.2 (eN l (st+j)).2.2.1 (fS w l (st+j)).2.2.2.length).map λk=>((eN l (st+j)).1,k)
 split;rename_i p;rw[aD p]at A;rw[aG];exact I5 rfl A;rename_i p;rw[av p]at A;refine cF.2 ⟨_,?_,rfl⟩;have A:(eN l (st+j)).2.2.2.1=CJ _ _:=A;rw[A];exact BH _ p;rw[av q,av q];simp
 .have hm:zQ x c (eN l (st+j)).1 (wkV (eN l (st+j)))=mvE x c (j:Int) (eN l (st+j)) (eN l (st+j)).1 (wkV (eN l (st+j))):=by
   unfold zQ;rw[nx,he]
  rw[ej]at fR;rw[hm];have rdk:UC (eN l (st+j))=(decide ((eN l (st+j)).2.1=3)||decide ((eN l (st+j)).2.1=23)):=rfl;have ev1:∀z:Int,eqV (z,J) (z,J)=J:=λz=>by unfold eqV QV;simp[QV]
  refine CfI.run tr h hi h0 h1 I ?_ ?_ ?_ ?_ ?_ ?_;show (ku x.1 c.1 _ _ _ _).1=_;rw[xw,h.s];unfold wkV;split;rfl;rename_i q;rw[TY _ _ _ _ _ _ (eN l (st+j)).2.2.2.1 q];show (if _ then bW _ _ (if S6 x c.2.2.2.2.1 (eN l (st+j)).1 (eN l (st+j)).2.2.2.2.2.2=J then _ else _) else _)=_;rw[aD fR];show (if _ then bW _ _ (if S6 x c.2.2.2.2.1 (eN l (st+j)).1 (eN l (st+j)).2.2.2.2.2.2=J then _ else _) else _)=_;rw[aD fR];rw[ejs];rfl;rw[ejs];show (if (eN l (st+j)).2.1=3 then bW c.2.2.2.2.1 (j:Int) (eqV (aE BO c.2.1 (eN l (st+j)).2.2.1) ((eN l (st+j)).2.2.2.1,J)) else if (eN l (st+j)).2.1=23 then bW c.2.2.2.2.1 (j:Int) (eqV (aE BO c.2.2.1 (eN l (st+j)).2.2.1) ((eN l (st+j)).2.2.2.1,J)) else c.2.2.2.2.1)=_;by_cases k3:(eN l (st+j)).2.1=3;let⟨o0,o1⟩:=en.nm.ce (.inl k3);have hq:((eN l (st+j)).2.2.1.toNat:Int)=(eN l (st+j)).2.2.1:=M;have et:=mc tr hi;have ek:(dc l (st+j)).k=3:=by have:=et.k;omega
  have eo:=et.ob (by rw[ek];decide);have hcell:aE BO c.2.1 (eN l (st+j)).2.2.1=((eN l (st+j)).2.2.2.1,J):=by
   have h1:=h.ce (eN l (st+j)).2.2.1.toNat M λs hs=>by
    have e2:(dc l (st+j)).ob=(eN l (st+j)).2.2.1.toNat:=M;have q:rdN l (st+j):=⟨ek,by rw[e2,hs];omega⟩
    have:=hrd (st+j) hi I q;unfold rsN at this;rw[e2,hs,dH]at this;exact this
   have h2:=va.ld k3;rw[<- hq,OH]at h2;rw[<- hq,sD (T:=BO),h2];exact h1
  rw[aD k3,hcell,ev1,rdk,aP k3,Bool.true_or,aD rfl];rw[av k3];by_cases k23:(eN l (st+j)).2.1=23;let⟨o0,o1⟩:=en.nm.fu (.inr k23);have hq:((eN l (st+j)).2.2.1.toNat:Int)=(eN l (st+j)).2.2.1:=M;have hcell:aE BO c.2.2.1 (eN l (st+j)).2.2.1=((eN l (st+j)).2.2.2.1,J):=by
   have h1:=h.fu (eN l (st+j)).2.2.1.toNat M λk hk a b=>cl.ge (st+j) hi I k23 k hk a (b.trans hq)
   have h2:=va.gt k23;rw[<- hq,OH]at h2;rw[<- hq,sD (T:=BO),h2];exact h1
  rw[aD k23,hcell,ev1,rdk,aP k23,Bool.or_true,aD rfl];rw[av k23,rdk,bE k3,bE k23,av cr]
  .have hk:=h.k1;show (l! (if _ then _ else _:η))=_;repeat' split
   all_goals first|exact hk|(rw [bu];exact hk)
end
def alv {w:WT} (tr:TR (w,L)):sh w=Z (HS.zero w).t:=by
 have wb:=tr.wb;dsimp only at wb;exact aq3 w (by have:=wb.c;unfold CO;omega) (by have:=wb.l;unfold CO;omega) (by have:=wb.f;unfold CO;omega) (by have:=wb.t;unfold CO;omega)
def ard {w:WT} (tr:TR (w,L)) (hi:i<l! L):vo (w,(QU w (L.take i)).t,eN L i)=Z ((QU w (L.take (i+1))).t,sJ w L i):=by
 have q:=tr.len;dsimp only at q;have:=auo (JR tr i M).1 M (OY tr hi) (mc tr hi);rw[Dn w hi];exact this
def tA (n:Nat) (f:Nat->R) (z:R) (i:Nat):Y R:=(dV n).map λk=>if k<i then f k else z
def Un (n:Nat) (f:Nat->R) (z:R) (i:Nat):l! (tA n f z i)=n:=by simp[tA]
def alp {f:Nat->R} {z:R} (h:i<m):(tA m f z i).set i (f i)=tA m f z (i+1):=by
 unfold tA;apply eQ;simp;intro k h1 h2;simp only[c_,bL,q_]at h1;rw[List.getElem_set];simp only[List.getElem_map,List.getElem_range];by_cases e:i=k;subst e;rw[aD rfl,aD M];rw[av e];by_cases g:k<i;rw[aD g,aD M];rw[av g,av M]
def aeo (n:Nat) (f:Nat->R) (z:R):tA n f z 0=aA n z:=by unfold tA;simp[List.map_const']
def alq (n:Nat) (f:Nat->R) (z:R):tA n f z n=(dV n).map f:=zA λk hk=>by rw[aD (px.1 hk)]
abbrev csN (w:WT) (l:Y ET):Y η:=(dV (l! l)).map (sJ w l)
def atn {w:WT} (h:i<l! L):(csN w L).getD i []=sJ w L i:=by
 rw[aC,bH,zC h];rfl
def aon {w:WT} (h:i<l! L):aE (.sl (.int .i64)) (csN w L) (i:Int)=sJ w L i:=by rw[vQ];exact atn h
def aks {w:WT} (tr:TR (w,L)):rU (w,L)=Z (csN w L,0):=by
 have q:=tr.len;dsimp only at q;refine bZ ?_;unfold rU Bs bf cg ck bO jP bT bM a8 cW aJ cH;refine aV (aBu tr) (ia (aV (alv tr) (cq (cq (fB Ja (a? (a! ?_)))))));refine kz (l! L) M (λi x=>x=((i:Int),(w,L),(QU w (L.take i)).t,tA (l! L) (sJ w L) [] i)) ?_ ?_ ?_;rintro i x hi rfl;refine cV ?_;refine bK (aX ?_);refine aV (ard tr hi) ?_;refine aS lX (by dsimp only;rw[Un];omega) (aS lX (by dsimp only;rw[Un];omega) (ak ?_));dsimp only;rw[iC,hZ,alp hi];rintro x rfl;refine cK (ak ?_);dsimp only;rw[alq];show _=_;rw[aeo];rfl
def SS (k j v:Int):∀m:Y ν,qR (K:=.int .i64) (V:=.int .i64) j (Cw (K:=.int .i64) (V:=.int .i64) k v m)=if j=k then Z v else qR (K:=.int .i64) (V:=.int .i64) j m
 |[]=>by
  show (if decide (j=k)=J then Z v else U)=_;by_cases h:j=k<;>simp[h,qR]
 |(a,b)::r=>by
  have A:=SS k j v r;show qR (K:=.int .i64) (V:=.int .i64) j (if decide (k=a)=J then (k,v)::r else (a,b)::Cw (K:=.int .i64) (V:=.int .i64) k v r)=if j=k then Z v else if decide (j=a)=J then Z b else qR (K:=.int .i64) (V:=.int .i64) j r
  by_cases h:k=a;subst h;rw[aD (aP rfl)];show (if decide (j=k)=J then Z v else qR (K:=.int .i64) (V:=.int .i64) j r)=_;by_cases g:j=k<;>simp[g];rw[av (by simpa using h)];show (if decide (j=a)=J then Z b else qR (K:=.int .i64) (V:=.int .i64) j (Cw (K:=.int .i64) (V:=.int .i64) k v r))=_;rw[A];by_cases g:j=a;subst g;rw[aD (aP rfl),av λq=>h q.symm,aD (aP rfl)];simp only[g,dI,cE,dQ]
def SM (k j v d:Int) (m:Y ν):vp (K:=.int .i64) (V:=.int .i64) j (Cw (K:=.int .i64) (V:=.int .i64) k v m) d=if j=k then v else vp (K:=.int .i64) (V:=.int .i64) j m d:=by
 unfold vp;rw[SS];by_cases h:j=k<;>simp[h]
def epN (l:Y ET) (i:Nat):ν:=((FM l (dc l i).th i:Int)+1,((dc l i).th:Int))
def Za (l:Y ET) (u:Nat):∀i,FM l u i<=i
 |0=>bg _
 |i+1=>by have:=Za l u i;rw[FM];split<;>omega
def ajf {w:WT} (tr:TR (w,L)):rR L=Z ((dV (l! L)).map (epN L)):=by
 have hl:=tr.len;dsimp only at hl;refine bZ ?_;unfold rR Bq ck bO bT bM a8 cW aJ cH;refine cq (cq (fB Ja (a? (a! ?_))));refine kz (l! L) M (λi x=>x.1=(i:Int)/\(∀u:Nat,vp (K:=.int .i64) (V:=.int .i64) (u:Int) x.2.1 0=(FM L u i:Int))/\x.2.2=tA (l! L) (epN L) (0,0) i) ?_ ?_ ⟨rfl,λu=>rfl,by rw[aeo];rfl⟩;rintro i ⟨x,m,r⟩ hi ⟨e1,hm,e2⟩;dsimp only at e1 hm e2;subst e1 e2;refine cV ?_;refine bK (aX ?_);have et:=mc tr hi;refine aS lX (by dsimp only;rw[Un];omega) (aS lX (by dsimp only;rw[Un];omega) (ak ?_));have hc:=Za L (dc L i).th i;have A:(aE iP L (i:Int)).1=((dc L i).th:Int):=et.th;have I:aU .i64 (vp (K:=.int .i64) (V:=.int .i64) ((dc L i).th:Int) m 0+1)=(FM L (dc L i).th i:Int)+1:=by rw[hm];exact iF
 dsimp only;refine ⟨iC,λu=>?_,?_⟩;rw[A,I,SM,FM];by_cases q:(dc L i).th=u;subst q;rw[aD rfl,aD rfl];rfl;rw[av M,av q];exact hm u;rw[A,I,SM,aD rfl,hZ];exact alp (f:=epN L) hi;rintro⟨x,m,r⟩ ⟨e1,hm,e2⟩;dsimp only at e1 hm e2;subst e1 e2;refine cK (ak ?_);dsimp only;rw[alq]
def aoj (h:i<l! L):aE (.st (.pr (.int .i64) (.int .i64))) ((dV (l! L)).map (epN L)) (i:Int)=epN L i:=by
 rw[sD,aC,bH,zC h];rfl
def aef (c:η) (a:Int) (u:Nat):qS (c,a,(u:Int))=Z (decide (a<=c.getD u 0)):=by
 unfold qS;dsimp only;rw[QI];rfl
def alk {w:WT} (tr:TR (w,L)) (A:i<l! L) (q:m<l! L):(eN L i).1=(eN L m).1↔(dc L i).th=(dc L m).th:=by
 have:=(mc tr A).th;have:=(mc tr q).th;omega
def akw (x:ET):rT x=Z (decide (x.2.1=3\/x.2.1=4)):=by
 refine bZ ?_;unfold rT bp aJ;refine h_ (aN (λh=>ak (ak ((aP (.inl h)).symm))) λh=>ak (ak ?_));by_cases q:x.2.1=4<;>simp[h,q]
def acB (e:EV):Bool:=decide (e.k=3\/e.k=4)
def ZW {w:WT} (tr:TR (w,L)) (hj:i<l! L):rT (eN L i)=Z (acB (dc L i)):=by
 rw[akw,(mc tr hj).k];unfold acB;congr 1;rw[decide_eq_decide];omega
def cnB (l:Y ET) (a b:Nat):Bool:=decide (¬(dc l a).th=(dc l b).th/\acB (dc l a)=J/\acB (dc l b)=J/\(dc l a).ob=(dc l b).ob/\((dc l a).k=4\/(dc l b).k=4))
def GF {w:WT} (tr:TR (w,L)) (q:i<l! L) (h:acB (dc L i)=J):(eN L i).2.2.1=((dc L i).ob:Int):=(mc tr q).ob (by rcases a_ h with h|h<;>rw[h]<;>decide)
def Y9 {w:WT} (tr:TR (w,L)) (ha:i<l! L) (A:m<l! L):s8 ((w,L),(i:Int),(m:Int))=Z (cnB L i m&& !Ha w.1 (dc L m).ob):=by
 refine bZ ?_;unfold s8 cnB bf bB cg bp bM aJ;have ka:(eN L i).2.1=(dc L i).k:=(mc tr ha).k;have kb:(eN L m).2.1=(dc L m).k:=(mc tr A).k;refine bK (aX (bK (aX ?_)));have fin:∀{p:Prop} [Decidable p] {v:Bool},¬p->af=(decide p&&v):=λh=>by rw[bE h];rfl
 refine a6 (λx=>x.2=((w,L),eN L i,eN L m)/\(x.1=af↔¬(eN L i).1=(eN L m).1/\(eN L i).2.2.1=(eN L m).2.2.1)) (aN (λh=>ak ⟨rfl,?_⟩) λh=>ak ⟨rfl,?_⟩) ?_;have h:(eN L i).1=(eN L m).1:=h;exact⟨nofun,λq=>(q.1 h).elim⟩;have h:¬(eN L i).1=(eN L m).1:=h;change (!decide ((eN L i).2.2.1=(eN L m).2.2.1))=af↔_;rw[QM,bl];exact⟨λq=>⟨h,q⟩,λq=>q.2⟩;rintro⟨x,y⟩ ⟨e,h⟩;dsimp only at e h;subst e;refine aR (λI=>ak (fin λq=>?_)) λI=>?_
 have h1:=h.2 ⟨λr=>q.1 ((alk tr ha A).1 r),by rw[GF tr ha q.2.1,GF tr A q.2.2.1,q.2.2.2.1]⟩;rw[show x=J from I]at h1;cases h1;let⟨h3,h4⟩:=h.1 I;have h3:¬(dc L i).th=(dc L m).th:=λq=>h3 ((alk tr ha A).2 q)
 refine a6 (λx=>x.2=(eN L i,eN L m)/\(x.1=af↔acB (dc L i)=J/\acB (dc L m)=J/\Ha w.1 (dc L m).ob=af)) ?_ ?_;refine aV (ZW tr ha) (dJ (λh1=>ak ⟨rfl,nofun,λq=>(by rw[q.1]at h1;cases h1)⟩) λh1=>aV (ZW tr A) (dJ (λh2=>ak ⟨rfl,nofun,λq=>(by rw[q.2.1]at h2;cases h2)⟩) λh2=>?_));have hk:=a_ h2;have ce:=((OY tr A).ce hk).2;change Ok (chk (fO (eN L i).2.2.1 (ah w.1)) λ_=>lt (aE mS w.1 (eN L i).2.2.1) λz=>Z (bR (z.2.2.2.1,eN L i,eN L m))) _;rw[h4,GF tr A h2];refine bK (aX (ak ⟨rfl,?_⟩));rw[agd];exact⟨λq=>⟨h1,h2,q⟩,λq=>q.2.2⟩;rintro⟨x,y⟩ ⟨e,h⟩;dsimp only at e h;subst e;refine aR (λI=>ak ?_) λI=>h_ ?_
 symm
 rw[Ue];intro q;let⟨q1,q2⟩:=i_.1 q;have q1:=a_ q1;have h1:=h.2 ⟨q1.2.1,q1.2.2.1,by simpa using q2⟩;rw[show x=J from I]at h1;cases h1;let⟨h1,h2,h5⟩:=h.1 I;rw[GF tr ha h1,GF tr A h2]at h4;rw[h5,Bool.not_false,Bool.and_true];refine aN (λg=>ak (ak ?_)) λg=>ak (ak ?_)
 have g:(eN L i).2.1=4:=g;exact (aP ⟨h3,h1,h2,M,M⟩).symm;have g:¬(eN L i).2.1=4:=g;change decide ((eN L m).2.1=4)=_;rw[decide_eq_decide];exact⟨λq=>⟨h3,h1,h2,M,M⟩,λq=>M⟩
def rcH (w:WT) (l:Y ET) (a b:Nat):Bool:=cnB l a b&&(!Ha w.1 (dc l b).ob&& !decide ((FM l (dc l a).th a:Int)+1<=(sJ w l b).getD (dc l a).th 0))
def rI (w:WT) (l:Y ET) (b:Nat):Nat->Y ν
 |0=>[]
 |i+1=>if rcH w l i b=J then rI w l b i++[((i:Int),(b:Int))] else rI w l b i
def rO (w:WT) (l:Y ET):Nat->Y ν
 |0=>[]
 |b+1=>rO w l b++rI w l b b
def aa8 (w:WT) (l:Y ET) (b:Nat):∀i,l! (rI w l b i)<=i
 |0=>bg _
 |i+1=>by
  have:=aa8 w l b i;rw[rI];split;rw[aQ,bJ];omega;omega
def aa7 (w:WT) (l:Y ET):∀b,b<=1000->l! (rO w l b)<=b*1000
 |0,_=>fE _
 |b+1,h=>by
  have:=aa7 w l b M;have:=aa8 w l b b;rw[rO,aQ];omega
def Jm {w:WT} {p:ν}:∀b,p∈rI w L i b->∃a:Nat,a<b/\rcH w L a i=J/\p=((a:Int),(i:Int))
 |b+1,h=>by
  rw[rI]at h;split at h;rename_i q;rcases bz.1 h with h|h;let⟨a,h1,h2⟩:=Jm b h;exact⟨a,M,h2⟩;exact⟨b,M,q,aG.1 h⟩;let⟨a,h1,h2⟩:=Jm b h;exact⟨a,M,h2⟩
def UD {w:WT} {p:ν}:∀n,p∈rO w L n->∃a b:Nat,a<b/\b<n/\rcH w L a b=J/\p=((a:Int),(b:Int))
 |n+1,h=>by
  rw[rO]at h;rcases bz.1 h with h|h;let⟨a,b,h1,h2,q⟩:=UD n h;exact⟨a,b,h1,M,q⟩;let⟨a,h1,h2⟩:=Jm n h;exact⟨a,n,h1,M,h2⟩
def aq5 {w:WT} (tr:TR (w,L)):uz (w,L)=Z (rO w L (l! L),0):=by
 have A:=tr.len;dsimp only at A;refine bZ ?_;unfold uz EC bO jP bT bM a8 cW aJ cH;refine aV (aks tr) (ia (aV (ajf tr) ?_));refine kz (l! L) M (λb x=>x=((b:Int),(w,L),rO w L b)) ?_ ?_ rfl;rintro b x q rfl;have I:=aa7 w L b M;refine cV ?_;refine kz b M (λi x=>x=((i:Int),(w,L),rO w L b++rI w L b i)) ?_ ?_ ?_;rintro i x hi rfl;have hI:=aa8 w L b i;refine cV ?_;refine a6 (λx=>x=((w,L),rO w L b++rI w L b (i+1))) ?_ ?_;refine a6 (λx=>x=(rcH w L i b,(w,L),rO w L b++rI w L b i)) ?_ ?_;refine aV (Y9 tr (show i<l! L by omega) q) ?_;unfold rcH;refine aR (λh=>?_) λh=>ak ?_
 let⟨h1,h2⟩:=i_.1 h;refine aS lX (by dsimp only;rw[bL,q_];omega) (aX (aS lX (by dsimp only;rw[bL,q_];omega) (aX ?_)));dsimp only;rw[aon q,aoj (show i<l! L by omega)];refine aV (aef _ _ _) (ak ?_);rw[h1,h2];rfl;rw[<- Bool.and_assoc,h];rfl;rintro x rfl;rw[rI];refine aR (λh=>dB ?_ M (ak ?_)) λh=>ak ?_
 dsimp only;rw[aQ,bJ];omega;dsimp only;rw[aD h,bw];dsimp only at h ⊢;rw[av (by rw[h];decide)];rintro x rfl;refine ak ?_;dsimp only;rw[iC];rintro x rfl;refine cK (ak ?_);dsimp only;rw[iC];rfl;rw[rI,cS];rfl;rintro x rfl;exact cK (ak rfl)
def awa {w:WT} (h:rcH w L i m=J):∀a,i<a->((i:Int),(m:Int))∈rI w L m a
 |a+1,hi=>by
  rw[rI];by_cases e:i=a;subst e;rw[aD h];exact kf _ (aG.2 rfl);have q:=awa h a M;split;exact dM _ q;exact q
def aw9 {w:WT} (h:rcH w L i m=J) (hab:i<m):∀n,m<n->((i:Int),(m:Int))∈rO w L n
 |n+1,q=>by
  rw[rO];by_cases e:m=n;subst e;exact kf _ (awa h m hab);exact dM _ (aw9 h hab n M)
def Sv (w:WT) (l:Y ET):∀n,(rO w l n).Pairwise λp q=>p.2<=q.2
 |0=>List.Pairwise.nil
 |n+1=>by
  rw[rO,List.pairwise_append];refine ⟨Sv w l n,List.pairwise_of_forall_mem_list λp hp q A=>?_,λp hp q A=>?_⟩;obtain⟨_,_,_,rfl⟩:=Jm _ hp;obtain⟨_,_,_,rfl⟩:=Jm _ A;exact cU _;obtain⟨_,c,_,h2,_,rfl⟩:=UD _ hp;obtain⟨_,_,_,rfl⟩:=Jm _ A;dsimp only;omega
structure RcF (w:WT) (l:List ET) (A B:Nat):Prop where
 r:Wa w l A B
 ka:(eN l A).2.1=3\/(eN l A).2.1=4
 kb:(eN l B).2.1=3\/(eN l B).2.1=4
 ht:¬(eN l A).1=(eN l B).1
 ho:(eN l A).2.2.1=(eN l B).2.2.1
 hs:(eN l A).2.1=4\/(eN l B).2.1=4
 hv:(aE mS w.1 (eN l A).2.2.1).2.2.2.1=af
def RcF.of {w:WT} (tr:TR (w,L)) (hAB:i<m) (hB:m<l! L) (h:rcH w L i m=J) (no:∀s k,s<k->k<m->rcH w L s k=af):RcF w L i m:=by
 unfold rcH at h;let⟨h1,h2⟩:=i_.1 h;let⟨h2,h3⟩:=i_.1 h2;let⟨c1,c2,c3,c4,c5⟩:=a_ h1;have ea:=mc tr (show i<l! L by omega);have eb:=mc tr hB;have a1:=ea.th;have b1:=eb.th;have a2:=ea.k;have b2:=eb.k;have oa:=GF tr (show i<l! L by omega) c2;have ob:=GF tr hB c3;have qa:(dc L i).k=3\/(dc L i).k=4:=a_ c2;have qb:(dc L m).k=3\/(dc L m).k=4:=a_ c3;refine ⟨⟨hAB,hB,λq=>?_,λk hk rd=>?_⟩,M,M,M,M,M,?_⟩;have h3:decide ((FM L (dc L i).th i:Int)+1<=(sJ w L m).getD (dc L i).th 0)=af:=by simpa using h3
 exact m8 h3 q;have I:=am4 rd;have own:=aft k rd.2;have es:(lsN L (dc L k).ob k).toNat=rsN L k:=rfl;rw[es]at own;by_cases ht:(dc L (rsN L k)).th=(dc L k).th;exact ath tr M I ht;by_cases hv:Ha w.1 (dc L k).ob=J;exact ati tr M I (.inr (.inr (.inl ⟨rd.1,hv,own.1,own.2⟩)));have hr:=no _ k I hk;unfold rcH at hr;have hc:cnB L (rsN L k) k=J:=aP ⟨ht,aP M,aP (by have:=rd.1;omega),own.2,.inl own.1⟩;have hv':Ha w.1 (dc L k).ob=af:=by simpa using hv
 rw[hc,hv',Bool.not_false,du,du,QM,bl]at hr;exact ad3 tr M I hr;have h2:Ha w.1 (dc L m).ob=af:=by simpa using h2
 rw[oa,c4,sD (T:=mS)];exact h2
def RcF.first {w:WT} {l:Y ET} (tr:TR (w,l)) {i:Nat} (hi:i<l! (rO w l (l! l))) (he:(aE (.st (.pr (.int .i64) (.int .i64))) (rO w l (l! l)) (i:Int)).2=(aE (.st (.pr (.int .i64) (.int .i64))) (rO w l (l! l)) 0).2):∃A B:Nat,aE (.st (.pr (.int .i64) (.int .i64))) (rO w l (l! l)) (i:Int)=((A:Int),(B:Int))/\RcF w l A B:=by
 have hm:=be (T:=.st (.pr (.int .i64) (.int .i64))) (xs:=rO w l (l! l)) (j:=(i:Int)) M M;have hm0:=be (T:=.st (.pr (.int .i64) (.int .i64))) (xs:=rO w l (l! l)) (j:=(0:Int)) M M;let⟨p,q,h1,h2,h3,h4⟩:=UD _ hm;let⟨p0,q0,g1,g2,g3,g4⟩:=UD _ hm0;rw[h4,g4]at he;have hq:q=q0:=by have he:(q:Int)=(q0:Int):=he;omega
 subst hq;refine ⟨p,q,h4,RcF.of tr h1 h2 h3 λs k hs hk=>?_⟩;have so:=Sv w l (l! l);cases hr:rcH w l s k with
 |false=>rfl
 |true=>
  have hin:=aw9 hr hs (l! l) M;let⟨m,hm1,I⟩:=zB hin;have g5:(rO w l (l! l))[0]'M=((p0:Int),(q:Int)):=by
   rw[<- g4];show _=aE (.st (.pr (.int .i64) (.int .i64))) _ ((0:Nat):Int);rw[sD,aC,aI M];rfl
  by_cases hm0:m=0;subst hm0;rw[g5]at I;have:=eZ Prod.snd I;dsimp only at this;omega;have:=List.pairwise_iff_getElem.1 so 0 m M hm1 M;rw[g5,I]at this;dsimp only at this;omega
section
variable {w:WT} {l:Y ET} (tr:TR (w,l)) {z st:Nat} {D:Nat->Prop}
include tr
def af0 (z8:z<=8) (hs:st<l! l) (cl:ClD w l D) {c:CF} (h:CfI w l D st (kJ w l z st).2.2.2.length (st+(kJ w l z st).2.2.2.length) c) (ci:CI (kJ w l z st) c) (h0:st<=i) (h1:i<st+(kJ w l z st).2.2.2.length) (nX:¬D i) (hc:G0 l D (eN l i).1 i) (k:(eN l i).2.1=3\/(eN l i).2.1=4):ryE (kJ w l z st) c ((i-st:Nat):Int)=J:=by
 have W:=Nk tr z8 hs;have R:=Z3 tr z (gx hs);have d:=ala tr z (gx hs);have A:=λk hk=>Uh (w:=w) (l:=l) (z:=z) (i:=st) (k:=k) hk
 have wl:=Ug w l z st;obtain⟨x,hx⟩:∃x,x=kJ w l z st:=⟨_,rfl⟩
 have xw:x.1=w:=by rw[hx];rfl
 rw[<- hx]at W R d A h ci h1 wl ⊢;obtain⟨j,rfl⟩:∃j,i=st+j:=⟨i-st,M⟩
 have ejs:st+j-st=j:=M;rw[ejs];have hj:j<l! x.2.2.2:=M;let⟨I,hi⟩:=A j hj;have he:aE iP x.2.2.2 (j:Int)=eN l (st+j):=I;have sc:=tr.sc hi;have en:=sc.en;have S:=sim tr cl (st+l! x.2.2.2) M;have t0:=en.t0;have t1:=en.t1;have nx:Fl x c.2.2.2.1 (eN l (st+j)).1=(j:Int):=by
  unfold Fl;rw[xw,av M];refine Vl hj ?_ λk hk=>?_
  unfold nxp;rw[I,aP rfl,du,dj,<-tS,ca];intro q;exact nX ((h.o j).1 q).1;unfold nxp;let⟨ek,hk'⟩:=A k M;by_cases e:(eN l (st+k)).1=(eN l (st+j)).1;rw[ca.2 ((h.o k).2 ⟨hc _ M e,M⟩)];exact Bool.and_false _;rw[ek,bE e];rfl
 have s2:(gT (rS w l D (st+l! x.2.2.2)).2.2.2 (eN l (st+j)).1).1=2:=by
  have:=aCg tr cl hi M M nX hc (l! x.2.2.2-j) M;rw[show st+j+(l! x.2.2.2-j)=st+l! x.2.2.2 by omega]at this;exact this
 have fD:=abz W R d hj (fx:=c.2.2.2.2.1) ci.fx (λk hk e hr=>by
  let⟨ek,hk'⟩:=A k M;rw[ek]at e hr;rw[I]at e;have:=h.fx (st+k) M M (hc _ M e) hr;rw[show st+k-st=k by omega]at this;rw[sD (T:=.bool)];exact this) (ns:=(eN x.2.2.2 j).2.2.2.2.2.1) λn hn=>.inl hn
 unfold ryE nxE;rw[he,nx,aP rfl,aP (p:=0<=(j:Int)/\(j:Int)<l! x.2.2.2) ⟨M,M⟩,du,du,agv W ci];unfold enP;rw[nx,av M,he,ar];have:=AE x.1 c.1 (ci.sb W.vl) cr (by have:=W.vl.d;omega) (eN l (st+j)).1 (eN l (st+j)).2.1 (eN l (st+j)).2.2.1 (by rw[xw,h.s];exact⟨en.nm,en.t0,en.t1,en.cd,S.e1,S.e2,S.e3⟩) (by
  rw[xw,h.s];exact⟨λz=>M,λz=>M,λ_ _=>s2,λz=>M,λz=>M,λz=>M,λz=>M,λz=>M,λz=>M,λz=>M,λz=>M,λz=>M,λz=>M,λz=>M,λz=>M,λz=>M,λz=>M⟩)
 rw[I]at fD;exact⟨by rw[this];rfl,fD⟩
def gR (a b:Nat):G6:=(1,(a:Int),(b:Int),0,0,[])
def aa9 (z8:z<=8) (hs:st<l! l) (cl:ClD w l D) (hrd:∀A,A<l! l->D A->rdN l A->D (rsN l A)) (hA:st<=i) (hB:st<=m) (nA:¬D i) (nB:¬D m) (goal:∀c,CfI w l D st (kJ w l z st).2.2.2.length (st+(kJ w l z st).2.2.2.length) c->CI (kJ w l z st) c->Q1 (kJ w l z st) c (gR (i-st) (m-st))=J):∀(n A:Nat) (c:CF),A+n=st+(kJ w l z st).2.2.2.length->st<=A->CfI w l D st (kJ w l z st).2.2.2.length A c->CI (kJ w l z st) c->Q1 (kJ w l z st) c (gR (i-st) (m-st))=J\/∃k,RP (kJ w l z st) (gR (i-st) (m-st)) k c
 |0,A,c,e,_,h,I=>by
  have e2:A=st+(kJ w l z st).2.2.2.length:=M
  subst e2;exact .inl (goal c h I)
 |n+1,A,c,e,h0,h,I=>by
  have hi:A<l! l:=by have:=Ug w l z st;omega
  by_cases hD:D A;let⟨h1,h2,h3⟩:=axy tr z8 hs cl hrd h I h0 M hD;have ci':=NS (Nk tr z8 hs) I (wkV (eN l A)) h1;have no:∀X:Nat,st<=X->¬D X->(zQ (kJ w l z st) c (eN l A).1 (wkV (eN l A))).2.2.2.1.contains ((X-st:Nat):Int)=af:=λX g0 g1=>by
   rw[<- tS,ca];intro q;have:=((h3.o (X-st)).1 q).1;rw[show st+(X-st)=X by omega]at this;exact g1 this
  have ms:msB (zQ (kJ w l z st) c (eN l A).1 (wkV (eN l A))) (gR (i-st) (m-st))=af:=by
   unfold msB gR;rw[no i hA nA,no m hB nB];rfl
  rcases aa9 z8 hs cl hrd hA hB nA nB goal n (A+1) _ M M h3 ci' with q|⟨k,q⟩;exact .inr ⟨1,_,h2,.inl q⟩;exact .inr ⟨k+1,_,h2,.inr ⟨ms,q⟩⟩;exact aa9 z8 hs cl hrd hA hB nA nB goal n (A+1) c M M (h.skip tr hi hD) I
def aup (z8:z<=8) (A:st<l! l) (hd:∀k,k<st->D k):CfI w l D st (kJ w l z st).2.2.2.length st (st0 (kJ w l z st)):=by
 let⟨a,_,c,f,_,_⟩:=Ek tr st (gx A);have hrs:=art (w:=w) (D:=D) (gx A) hd;have hac:=adp tr (gx A);have e1:(zF w (MN w) l st).1=fS w l st:=eZ Prod.fst a;have e2:(zF w (MN w) l st).2.1=(GD w (l.take st)).2.1:=eZ (λz=>z.2.1) a;have e3:(zF w (MN w) l st).2.2.1=(GD w (l.take st)).2.2:=eZ (λz=>z.2.2) a;have gk:∀(q:Nat) (xs:η),q<l! xs->(xs.map λz=>(z,J)).getD q ((0:Int),af)=(xs.getD q 0,J):=λq xs h=>by
  rw[aC,bH,aI h,aC,aI h];rfl
 refine ⟨e1.trans hrs.symm,?_,?_,cQ ..,cQ ..,fE _,λj=>?_,λq I _=>?_,λq I _=>?_,λp g0 g1 _ _=>M⟩;show (l! (List.map _ (zF w (MN w) l st).2.1))=_;rw[bL,e2];exact hac.1;show (l! (List.map _ (zF w (MN w) l st).2.2.1))=_;rw[bL,e3];exact hac.2;constructor;intro q;cases q;intro q;omega;show (List.map _ (zF w (MN w) l st).2.1).getD q _=_;rw[gk _ _ (by rw[e2,hac.1];exact I),e2];show (List.map _ (zF w (MN w) l st).2.2.1).getD q _=_;rw[gk _ _ (by rw[e3,hac.2];exact I),e3]
omit tr in
def aza {a b:ET} (q:a.2.1=3\/a.2.1=4) (kb:b.2.1=3\/b.2.1=4) (I:a.2.2.1=b.2.2.1) (A:a.2.1=4\/b.2.1=4):cfB a b=J:=by
 unfold cfB ae2;simp[q,kb,I,A]
def at7 (I:z<=8) (F:RcF w l i m) (hA:st<=i) (hB:m<st+(kJ w l z st).2.2.2.length) {y:Y ν×Bool} (hy:FOK (kJ w l z st) (gR (i-st) (m-st)) y):y.2=J:=by
 have ab:=F.r.ab;have bn:=F.r.bn;have hs:st<l! l:=M;have W:=Nk tr I hs;have R:=Z3 tr z (gx hs);have wa:=λk hk=>Uh (w:=w) (l:=l) (z:=z) (i:=st) (k:=k) hk
 have cl:=DS.cl tr F.r hA;have nA:¬DS w l i m st i:=λq=>by
  rcases q with q|q;omega;exact q.1 rfl
 have nB:¬DS w l i m st m:=λq=>by
  rcases q with q|q;omega;exact q.2.1 rfl
 have eA:=wa (i-st) M;have eB:=wa (m-st) M;rw[show st+(i-st)=i by omega]at eA;rw[show st+(m-st)=m by omega]at eB;have gA:aE iP (kJ w l z st).2.2.2 ((i-st:Nat):Int)=eN l i:=eA.1;have gB:aE iP (kJ w l z st).2.2.2 ((m-st:Nat):Int)=eN l m:=eB.1;have gv:GV (kJ w l z st) (gR (i-st) (m-st)):=by
  refine ⟨rfl,rfl,rfl,rfl,?_⟩;unfold W2 gR;dsimp only;rw[gA,gB];exact⟨M,M,M,aza F.ka F.kb F.ho F.hs,F.ht,F.hv⟩
 let⟨b1,b2⟩:=hy gv;rcases aa9 tr I hs cl (λA hi h q=>DS.rd tr F.r hA h q) hA M nA nB (λc h ci=>by
  unfold Q1;rw[ar];exact⟨af0 tr I hs cl h ci hA M nA (DS.cgA tr F.r) F.ka,af0 tr I hs cl h ci M hB nB (DS.cgB tr F.r) F.kb⟩) _ st _ rfl (bg _) (aup tr I hs λk hk=>.inl hk) (Uq W) with q|⟨k,q⟩
 exact b1 q;exact b2 k (ao8 W R (λq hq=>by rw[aG]at hq;subst hq;exact ND.st0 W R) ⟨_,aG.2 rfl,q⟩)
end
end
def ali (P:Program) (f:Ty->TypeId->Bool):Y Field->Nat->Ty->Bool
 |[],_,.un=>J
 |[x],off,T=>aB x.offset off&&f T x.type&&aB (P.cellsOf x.type) T.size
 |x::y::r,off,.pr a b=>aB x.offset off&&f a x.type&&aB (P.cellsOf x.type) a.size&&ali P f (y::r) (off+a.size) b
 |_,_,_=>af
def ahu (P:Program) (f:Ty->TypeId->Bool) (e:TypeId):Nat->Ty->Bool
 |1,T=>f T e&&aB (P.cellsOf e) T.size
 |m+2,.pr a b=>f a e&&aB (P.cellsOf e) a.size&&ahu P f e (m+1) b
 |_,_=>af
def FY (P:Program):Nat->Ty->TypeId->Bool
 |0,_,_=>af
 |n+1,T,t=>match T,P.underlying t with
  |.int k,Z (.int q)=>k==q
  |.bool,Z .bool=>J
  |.str,Z .string=>J
  |.sl y,Z (.slice e)=>FY P n y e&&aB (P.cellsOf e) y.size&&dE 0 y.size
  |.st y,Z (.struct A)=>ali P (FY P n) A.toList 0 y&&aB (P.cellsOf t) y.size
  |.st y,Z (.array m e)=>ahu P (FY P n) e m y&&aB (P.cellsOf t) y.size
  |_,_=>af
def wfT:(T:Ty)->T.den->Prop
 |.int k,n=>(Lit.int k n).wf=J
 |.str,s=>ah s<=maxLen
 |.sl y,xs=>ah xs<=maxLen/\∀x∈(xs:Y y.den),wfT y x
 |.st t,v=>wfT t v
 |.pr a b,v=>wfT a v.1/\wfT b v.2
 |_,_=>True
def Qt (W:World) (T:Ty) (x:T.den) (cs:ξ):Prop:=l! cs=T.size/\∀(j:Nat) y v,(bQ T x)[j]? =Z y->cs[j]? =Z v->oz (λ_=>False) W y v
def P_ (z:R) (P:Nat->R->Prop):∀n:Nat,(∀i,i<n->∃a,P i a)->∃l:Y R,l! l=n/\∀i x,l[i]? =Z x->P i x
 |0,_=>⟨[],rfl,λi x h=>by simp at h⟩
 |n+1,h=>by
  let⟨l,q,hp⟩:=P_ z P n (λi hi=>h i M);let⟨a,I⟩:=h n M;refine ⟨l++[a],by simp[q],λi x A=>?_⟩
  by_cases hi:i<l.length
  .rw[List.getElem?_append_left hi]at A;exact hp i x A
  have e:i=l.length:=by have:=(List.getElem?_eq_some_iff.1 A).1;simp at this;omega
  subst e;rw[List.getElem?_append_right (Nat.le_refl _),Nat.sub_self]at A;cases A;rw[q];exact I
def Addr.add_plain {a:Addr} (h:a.spot=U) (n:Nat):a.add n=⟨a.block,a.off+n,U⟩:=by
 unfold Addr.add;split;rename_i h0;subst h0;cases a;subst h;rfl;rfl
variable {v:Value} {W:World}
def ak1 {a:Addr} (h:W.cell? a=Z v):a.spot=U:=by
 unfold Ud at h;split at h;simp_all;cases h
variable {S:Ty} {k:ξ}
def Qt.sub {x:S.den} {n:Nat} (h:Qt W S x ((k.drop i).take n)) (I:n=S.size) (hl:i+n<=l! k):∀(j:Nat) y v,(bQ S x)[j]? =Z y->k[i+j]? =Z v->oz (λ_=>False) W y v:=λj y v q A=>by
 refine h.2 j y v q ?_;have hj:j<S.size:=by have:=(bG.1 q).1;rwa [bA]at this
 grind
section
variable {H:Type} {enc:TypeId×Value->H} {P:Program} {W:World} {base:Nat} {sp:Nat->Bool} {hd:Bool}
def aff {f:Ty->TypeId->Bool} (ih:∀(T:Ty) (t:TypeId) (cs:ξ) x,f T t=J->DataW.trod enc P W base sp hd m t cs=Z x->∃v,Qt W T v cs/\wfT T v) (cs:ξ) (ts:Y (DataW H×Y MemPlace)):
 ∀(fs:Y Field) (off k:Nat) (T:Ty),ali P f fs off T=J->off+T.size<=l! cs->(∀(i:Nat) (fl:Field),fs[i]? =Z fl->∃z,DataW.trod enc P W base sp hd m fl.type ((cs.drop fl.offset).take (P.cellsOf fl.type))=Z z)->
 ∃v,(∀(j:Nat) y u,(bQ T v)[j]? =Z y->cs[off+j]? =Z u->oz (λ_=>False) W y u)/\wfT T v
 |[],off,k,.un,_,_,_=>⟨(),λj y u I=>by simp[bQ]at I,trivial⟩
 |[x],off,k,T,h,hl,hg=>by
  simp only[ali,ar]at h;let⟨⟨h1,h2⟩,A⟩:=h;have h1:=au h1;have A:=au A;let⟨z,hz⟩:=hg 0 x rfl;let⟨v,q,hw⟩:=ih T _ _ _ h2 hz;rw[h1]at q;exact⟨v,q.sub A M,hw⟩
 |x::x'::r,off,k,.pr a b,h,hl,hg=>by
  simp only[ali,ar]at h;let⟨⟨⟨h1,h2⟩,A⟩,h4⟩:=h;have h1:=au h1;have A:=au A;simp[Ty.size]at hl;let⟨z,hz⟩:=hg 0 x rfl;let⟨v,q,hw⟩:=ih a _ _ _ h2 hz;rw[h1]at q;have q:=q.sub A M;let⟨v',hv',hw'⟩:=aff ih cs ts (x'::r) (off+a.size) (k+1) b h4 M (λi fl hi=>hg (i+1) fl cf);refine ⟨(v,v'),λj y u I hu=>?_,hw,hw'⟩;simp[bQ]at I;by_cases hj:j<a.size;rw[cZ (by rw[bA];exact hj)]at I;exact q j y u I hu;rw[cL (by rw[bA];omega),bA]at I
  grind
variable {A:TypeId}
def afg {f:Ty->TypeId->Bool} (ih:∀(T:Ty) (t:TypeId) (cs:ξ) x,f T t=J->DataW.trod enc P W base sp hd m t cs=Z x->∃v,Qt W T v cs/\wfT T v) (cs:ξ):
 ∀(n i:Nat) (T:Ty),ahu P f A n T=J->i*P.cellsOf A+T.size<=l! cs->(∀j,j<n->∃z,DataW.trod enc P W base sp hd m A ((cs.drop ((i+j)*P.cellsOf A)).take (P.cellsOf A))=Z z)->
 ∃v,(∀(j:Nat) y u,(bQ T v)[j]? =Z y->cs[i*P.cellsOf A+j]? =Z u->oz (λ_=>False) W y u)/\wfT T v
 |0,i,T,h,_,_=>by cases h
 |1,i,T,h,hl,I=>by
  simp only[ahu,ar]at h;have h3:=au h.2;let⟨z,hz⟩:=I 0 M;let⟨v,q,hw⟩:=ih T _ _ _ h.1 hz;rw[dR]at q;exact⟨v,q.sub h3 M,hw⟩
 |n+2,i,T,h,hl,I=>by
  cases T with
  |pr a b=>
   simp only[ahu,ar]at h;let⟨⟨h1,h2⟩,h4⟩:=h;have h3:=au h2;simp[Ty.size]at hl;let⟨z,hz⟩:=I 0 M;let⟨v,q,hw⟩:=ih a _ _ _ h1 hz;rw[dR]at q;have q:=q.sub h3 M;let⟨v',hv',hw'⟩:=afg ih cs (n+1) (i+1) b h4 cf (λj hj=>by have:=I (j+1) M;rwa [show i+(j+1)=i+1+j from M]at this);refine ⟨(v,v'),λj y u e hu=>?_,hw,hw'⟩;simp[bQ]at e;by_cases hj:j<a.size;rw[cZ (by rw[bA];exact hj)]at e;exact q j y u e hu;rw[cL (by rw[bA];omega),bA]at e
   grind
  |_=>unfold ahu at h;cases h
def MS:∀(n:Nat) (T:Ty) (t:TypeId) (ii:Nat) (cs:ξ) x,FY P n T t=J->(∀b,sp b=J)->DataW.trod enc P W base sp hd ii t cs=Z x->∃v,Qt W T v cs/\wfT T v
 |0,_,_,_,_,_,h,_,_=>by unfold FY at h;cases h
 |n+1,T,t,ii,cs,x,h,hsp,ht=>by
  unfold FY at h;split at h;rename_i k k' hu;have hk:=eq_of_beq h;subst hk;obtain⟨m,rfl,_,hw⟩:=DataW.trod_int hu ht;refine ⟨m,⟨rfl,λj y v A I=>?_⟩,hw⟩;cases j with
  |zero=>simp[bQ]at A I;subst A I;exact .raw _
  |succ j=>simp[bQ]at A
  rename_i hu;obtain⟨b,rfl,_⟩:=DataW.trod_bool hu ht;refine ⟨b,⟨rfl,λj y v A I=>?_⟩,trivial⟩;cases j with
  |zero=>simp[bQ]at A I;subst A I;exact .raw _
  |succ j=>simp[bQ]at A
  rename_i hu;obtain⟨s,rfl,_,hs⟩:=DataW.trod_string hu ht;refine ⟨s.data.toList,⟨rfl,λj y v A I=>?_⟩,by simpa[wfT] using hs⟩;cases j with
  |zero=>simp[bQ]at A I;subst A I;exact .raw _
  |succ j=>simp[bQ]at A
  rename_i z e hu;simp only[ar]at h;let⟨⟨h1,h2⟩,h3⟩:=h;have h2:=au h2;have h3:0<z.size:=aY h3;rcases Go.Deep.open_slice hu ht with ⟨rfl,_⟩|⟨a,len,cap,m,k,D,Pl,rfl,hb,hl,hm,hmm,_,hi⟩;refine ⟨[],⟨rfl,λj y v A I=>?_⟩,by simp[wfT]⟩;cases j with
  |zero=>simp[bQ]at A I;subst A I;exact .nil _ _ (by unfold maxLen;omega)
  |succ j=>simp[bQ]at A
  rw[hsp,aD rfl]at hmm;rw[h2]at hi;let⟨xs,hx1,hx2⟩:=P_ z.zero (λi (v:z.den)=>∃cs',W.cells? base (a.add (i*z.size)) z.size=Z cs'/\Qt W z v cs'/\wfT z v) len (λi hil=>by
   let⟨cs',hc,htt⟩:=hi i M;let⟨v,I,hw⟩:=MS n z e k cs' _ h1 hsp htt;exact⟨v,cs',hc,I,hw⟩)
  refine ⟨xs,⟨rfl,λj y v A I=>?_⟩,by show ah xs<=maxLen;omega,λy A=>?_⟩;cases j with
  |succ j=>simp[bQ]at A
  |zero=>
   simp[bQ]at A I;subst A I;by_cases h0:len=0;have:xs=[]:=gg.1 M;subst this h0;exact .nil _ _ hm;obtain⟨x0,hx0⟩:∃x0,xs[0]? =Z x0:=⟨xs[0]'M,aI M⟩
   let⟨cs0,hc0,_⟩:=hx2 0 x0 hx0;let⟨_,hcl0,hat0⟩:=World.cells?_some hc0;have hca:=hat0 0 h3;rw[aI M]at hca;have hspot:a.spot=U:=by
    have:=ak1 hca;simpa[Addr.add] using this
   have hblk:=World.block_lt_of_cell? W _ hca;rw[Nat.zero_mul,Addr.add_plain hspot,Addr.add_plain rfl]at hca hblk;have hcell:∀(i j:Nat) x,xs[i]? =Z x->j<z.size->∃cs',W.cell? ⟨a.block,a.off+(i*z.size+j),U⟩=cs'[j]? /\j<l! cs'/\Qt W z x cs':=λi j x hx hj=>by
    let⟨cs',hc,hr,_⟩:=hx2 i x hx;let⟨_,hcl,hat⟩:=World.cells?_some hc;have:=hat j hj;rw[Addr.add_plain hspot,Addr.add_plain rfl,mw]at this;exact⟨cs',this,M,hr⟩
   have hflat:∀j,j<l! xs*z.size->∃x,xs[j/z.size]? =Z x/\j%z.size<z.size/\j=j/z.size*z.size+j%z.size:=λj hj=>by
    have h5:j/z.size<l! xs:=Nat.div_lt_of_lt_mul (by rw[Nat.mul_comm];exact hj);exact⟨xs[j/z.size],aI h5,Nat.mod_lt _ h3,by rw[Nat.mul_comm];exact (Nat.div_add_mod j z.size).symm⟩
   have hlen:l! (List.flatMap (bQ z) xs)=l! xs*z.size:=fe (bA z) xs;let⟨ab,ao,az⟩:=a;cases hspot;rw[<- hx1];refine .sl (List.flatMap (bQ z) xs) (l! xs) cap ab ao (λj=>(W.cell? ⟨ab,ao+j,U⟩).getD undef) M hm (λh=>h) hblk (uF z xs) (λj hj=>?_) (λj y A=>?_);let⟨x,hx,hjs,hje⟩:=hflat j M;let⟨cs',g1,g2,_⟩:=hcell _ _ x hx hjs;rw[<- hje]at g1;simp only[g1,aI g2,Option.getD_some];have hj:j<l! xs*z.size:=by rw[<- hlen];exact (bG.1 A).1
   let⟨x,hx,hjs,hje⟩:=hflat j hj;let⟨cs',g1,g2,g3⟩:=hcell _ _ x hx hjs;rw[<- hje]at g1;simp only[g1];rw[aI g2];refine g3.2 (j%z.size) y _ ?_ (aI g2);let⟨r,hr⟩:=J4 (bA z) xs (j/z.size) x hx;have:((List.flatMap (bQ z) xs).drop (j/z.size*z.size))[j%z.size]? =Z y:=by rw[kH,<-hje];exact A
   rw[hr,cZ (by rw[bA];exact hjs)]at this;exact this
  let⟨i,hi'⟩:=eC A;let⟨_,_,_,hw⟩:=hx2 i y hi';exact hw;rename_i z fs hu;simp only[ar]at h;have h2:=au h.2;obtain⟨xs,m,rfl,_,hl,hxl,hg⟩:=DataW.trod_struct hu ht;let⟨v,I,hw⟩:=aff (f:=FY P n) (m:=m) (λT t cs x h1 h2=>MS n T t m cs x h1 hsp h2) cs xs fs.toList 0 0 z h.1 M (λi fl hi=>by
   have hi':fs[i]? =Z fl:=by simpa using hi
   have:=hg i fl hi';have hlt:i<l! xs:=by rw[hxl];exact (c9.1 hi').1
   rw[aI hlt]at this;exact⟨_,this⟩)
  exact⟨v,⟨by rw[hl,h2];rfl,λj y u A hu=>I j y u A (by rw[bV];exact hu)⟩,hw⟩;rename_i z m e hu;simp only[ar]at h;have h2:=au h.2;obtain⟨xs,q,rfl,_,hl,hxl,hg⟩:=DataW.trod_array hu ht;let⟨v,I,hw⟩:=afg (f:=FY P n) (m:=q) (λT t cs x h1 h2=>MS n T t q cs x h1 hsp h2) cs m 0 z h.1 M (λj hj=>by
   have:=hg j hj;rw[aI M]at this;rw[bV];exact⟨_,this⟩)
  exact⟨v,⟨by rw[hl,h2];rfl,λj y u A hu=>I j y u A (by rw[Nat.zero_mul,bV];exact hu)⟩,hw⟩;cases h
def Xg {t:TypeId} {r:Reach} (q:FY P i S t=J) (h1:S.one=J) (h:MH P W r m t v):v.cells.toList=[v]:=by
 cases i with
 |zero=>unfold FY at q;cases q
 |succ i=>
  unfold FY at q;unfold MH at h;cases v with
  |agg cs=>
   split at q<;>rename_i A<;>first|(rw [A]at h;simp[]at h;unfold Cell.okWide at h;rw[A]at h;unfold Cell.ok at h;rw[A]at h;simp at h)|cases h1|cases q
  |_=>rfl
def aab {t:TypeId} {r:Reach} (q:FY P i S t=J) (h1:S.one=af) (h:MH P W r m t v):∃cs,v= .agg cs:=by
 cases i with
 |zero=>unfold FY at q;cases q
 |succ i=>
  unfold FY at q;unfold MH at h;split at q<;>rename_i A<;>first|(rw [A]at h;let⟨cs,h,_⟩:=h;exact⟨cs,h⟩)|cases h1|cases q
def open_arg {n:Nat} {T:Ty} {t:TypeId} {d:DataW H} {I:Y MemPlace} {r:Reach} (A:FY P n T t=J) (hsp:∀b,sp b=J) (hok:MH P W r i t v) (h:DataW.Trod enc P W base sp hd t v d I):∃x,oz (λ_=>False) W (iu T x) v/\wfT T x:=by
 let⟨ii,hf⟩:=h;let⟨x,q,hw⟩:=MS n T t ii _ _ A hsp hf;refine ⟨x,?_,hw⟩;by_cases h1:T.one=J;let⟨e1,e2⟩:=O5 T x h1;exact q.2 0 _ v cf (by rw[Xg A h1 hok];rfl);obtain⟨cs,rfl⟩:=aab A cf hok;rw[xG T x cf];have hl:l! cs.toList=l! (bQ T x):=by rw[bA];exact q.1
 have:=oz.agg (O:=λ_=>False) (w:=W) (bQ T x) cs.toList hl (pT T x) (λj y u hy hu=>q.2 j y u hy hu);simpa using this
end
def axk (w:WT) (l:Y ET) (n st:Nat):wn w l n st=kJ w l n st:=by
 have:wE l n st=(l.drop st).take n:=by
  unfold wE;rcases Nat.le_total (st+n) (l! l) with h|h;rw[AM h,show st+n-st=n by omega];rw[Nat.min_eq_right h,dZ (by rw[fG];omega),dZ (by rw[fG];omega)]
 unfold wn kJ;rw[this];rfl
def ang {w:WT} {A B:Nat} (hA:A<=400) (hB:B<=400) (hs:m<=400) (hl:(kJ w L i m).2.2.2.length<=400) (hAB:A<B):Ok (jI (kJ w L i m,(A:Int),(B:Int))) λy=>y.2=J->m<=A/\B<m+(kJ w L i m).2.2.2.length/\y.1=gR (A-m) (B-m):=by
 unfold jI bf bB bN cg dh bO jO a8 aJ;have e:(kJ w L i m).2.1=(m:Int):=rfl;have I:aU .i64 ((A:Int)-(m:Int))=(A:Int)-m:=iF;have wb:aU .i64 ((B:Int)-(m:Int))=(B:Int)-m:=iF;dsimp only;rw[e,I,wb];generalize (kJ w L i m).2.2.2.length=st at hl ⊢;have gr:m<=A->((1:Int),(A:Int)-m,(B:Int)-m,(0:Int),(0:Int),([]:η))=gR (A-m) (B-m):=λh=>by
  unfold gR;rw[show ((A-m:Nat):Int)=(A:Int)-m by omega,show ((B-m:Nat):Int)=(B:Int)-m by omega]
 refine a6 (λz=>z.2=(1,(A:Int)-m,(B:Int)-m,0,0)/\(z.1=J->m<=A/\B<m+st)) ?_ ?_;refine eX (λh1=>eX (λh2=>bF (λh3=>ak ⟨rfl,λq=>?_⟩) λ_=>ak ⟨rfl,nofun⟩) λ_=>ak ⟨rfl,nofun⟩) λ_=>ak ⟨rfl,nofun⟩
 have q:=uM.1 q;dsimp only[ax]at h1 h2 h3 q;omega;rintro⟨z,y⟩ ⟨rfl,hz⟩;refine ak λh=>?_
 let⟨a,b⟩:=hz h;exact⟨a,b,gr a⟩
def BP (a b:η) (s:Int) (ha:l! a<=9223372036854775807) (hx:∀z∈a,0<=z/\z<=255) (hs:0<=s/\s<=255):eO (a,b,s)=Z J:=by
 refine bZ ?_;unfold eO bO jP bM a8 cW aJ cH;have hawake:xa ()=Z J:=rfl;refine ay (ayk a b) λr hr=>aR (λ_=>ak rfl) λhb=>?_
 have hb:=hr hb;refine ay (Q7 a b ha hx M) λy tr=>?_
 let⟨w,l⟩:=y;obtain⟨n,hn,n1,n8⟩:∃n:Nat,aU .i64 (vE (aU .i64 s) 8+1)=(n:Int)/\1<=n/\n<=8:=by
  have h1:=Int.tmod_eq_emod_of_nonneg (a:=s) (b:=8) hs.1;have h2:=Int.emod_nonneg s (b:=8) cr;have h3:=Int.emod_lt_of_pos s (b:=8) cr;rw[iF (n:=s) M M,h1,iF];exact⟨(s%8+1).toNat,M,M,M⟩
 dsimp only;rw[hn];have hl:l! l<=400:=tr.len;let⟨K,hSp,_,hK⟩:=aur tr n1 M;have hro:=aa7 w l (l! l) M;have first:=λ{i:Nat}=> @RcF.first w l tr i
 refine aV (aq5 tr) (aV hSp ?_);dsimp only;generalize rO w l (l! l)=R at hro first ⊢
 refine a6 (λx=>x=af) ?_ ?_;exact bY (λh=>bi rfl h) λ_=>ak rfl
 rintro x rfl;refine gJ rfl ?_;have fin:∀{Q:Bool->Prop},Q J->Ok (aw (xa ()) λy=>Z y) Q:=λh=>aV hawake (ak h)
 refine sQ (λx:Int=>((l! R:Int)-x).toNat) (λx:Int=>0<=x/\x<=l! R) ?_ ⟨cU _,M⟩;rintro x ⟨x0,x1⟩;obtain⟨i,rfl⟩:∃i:Nat,x=(i:Int):=⟨x.toNat,M⟩
 refine a6 (λc=>c=J->i<l! R/\(aE (.st (.pr (.int .i64) (.int .i64))) R (i:Int)).2=(aE (.st (.pr (.int .i64) (.int .i64))) R 0).2) ?_ ?_;refine bF (λg=>?_) λ_=>ak nofun
 dsimp only[ax]at g;exact aS x0 g (aX (aS (cU 0) M (aX (ak λh=>⟨M,a_ h⟩))));intro c hc;refine aR (λq=>?_) λ_=>ay (P:=λy=>y=J) (fin rfl) λy I=>ak I
 let⟨hi,he⟩:=hc q;let⟨A,B,hAB,F⟩:=first hi he
 have ab:=F.r.ab;have bn:=F.r.bn;have wi:aU .i64 ((i:Int)+1)=(i:Int)+1:=iF;refine sQ (λx:Int=>((K:Int)-x).toNat) (λx:Int=>0<=x/\x<=K) ?_ ⟨cU _,M⟩;rintro x ⟨y0,y1⟩;obtain⟨k,rfl⟩:∃k:Nat,x=(k:Int):=⟨x.toNat,M⟩
 refine bF (λg=>?_) λ_=>ak ?_
 dsimp only[ax]at g;rw[bL,q_]at g;have hk:k<K:=M;have hst:=hK k hk;have hkn:k<=k*n:=Nat.le_mul_of_pos_right k M;have hw:aE CV ((dV K).map λk=>wn w l n (k*n)) (k:Int)=kJ w l n (k*n):=by
  rw[sD (T:=CV),aC,bH,zC hk,<-axk];rfl
 have hwl:(kJ w l n (k*n)).2.2.2.length<=400:=by rw[Ug];omega
 have hin:(k:Int)<(l! ((dV K).map λk=>wn w l n (k*n)):Int):=by rw[bL,q_];omega
 refine a6 (λ_=>True) ?_ λ_ _=>ak ?_
 refine aS M hin (aX (bK (aX ?_)));rw[hw,hAB];refine ay (ang M M M hwl ab) λy I=>dJ (λ_=>ak trivial) λq=>?_
 let⟨a1,a2,a3⟩:=I q;refine aS M hin (aX ?_);rw[a3];refine ay (aBp _ (Nk tr n8 hst) (gR (A-k*n) (B-k*n)) rfl) λz hz=>?_
 have:=at7 tr n8 F a1 a2 hz;exact dJ (λp=>by rw[this]at p;cases p) λ_=>ak trivial
 dsimp only;rw[iF (n:=(k:Int)+1) M M];exact⟨⟨M,M⟩,M⟩;dsimp only;rw[wi];exact⟨⟨M,M⟩,M⟩
def FirstRacePredicted_lawT (x:η×p?) (w:wfT (.pr (.sl (.int .u8)) (.pr (.sl (.int .u8)) (.int .u8))) x):eO x=Z J:=by
 let⟨a,b,s⟩:=x;let⟨⟨A,w0⟩,_,q⟩:=w;exact BP a b s A (λz I=>ahb (w0 z I)) (ahb q)
def aed (n:Nat)(k l:Y Nat)(a:Y PV)(b:Y PB):Nat×aqh:=(n,.j ⟨k,l,⟨a,b⟩,[]⟩)
def ael (n:Nat)(k l:Y Nat)(a:Y PV)(b:Y PB)(z:Y Adj):Nat×aqh:=(n,.j ⟨k,l,⟨a,b⟩,z⟩)
abbrev aeu (a:Y PV)(b:Y PB)(c:Y PV)(d:Y PB)(h:PT aqh):FT:=⟨⟨a,b⟩,⟨c,d⟩,h⟩
def afb (a:Y PV)(b:Y PB)(c:Y PV)(d:Y PB)(h:PT aqh)(m:(aeu a b c d h).pre.ty.den->aj (aeu a b c d h).post.ty.den):cu:=cn (aeu a b c d h) m
def Z!:PV:=.d aO
def Z?:PV:=.d .bool
def À:PB:=.H 2 J aO
def Á:PB:=.H 44 af (.sl aO)
def Â:PB:=.G 125 [.d iP]
def Ã:PV:=.K 0 0
def Ä:PV:=.d (.sl aO)
def Å:PB:=.H 44 J (.sl aO)
def Æ:PV:=.d gh
def Ç:PB:=.G 71 [.d xK]
def È:PB:=.G 98 [.d gW]
def É:PV:=.d (.sl .str)
def Ê:PV:=.nil
def Ì:PV:=.K 1 0
def Í:PV:=.d iP
def Î:PV:=.d (.sl iH)
def Ï:PB:=.G 30 [.d rB]
def Ð:PB:=.H 4 J .bool
def Ò:PV:=.d rB
def Ó:PB:=.H 9 J .str
def Ô:PB:=.G 189 [.d tV]
def Õ:PB:=.H 3 J aO
def Ö:PV:=.K 3 0
def Ø:PB:=.H 167 J iH
def Ù:PV:=.d xK
def Ú:PV:=.d (.sl dU)
def Û:PV:=.K 2 0
def Ü:PB:=.H 165 J dU
def Ý:PB:=.G 58 [.d CV]
def Þ:PV:=.d gW
def ß:PV:=.I 0
def à:PB:=.G 56 [.d rY]
def á:PV:=.d .str
def â:PV:=.I 3
def ã:PB:=.H 5 J (.int .u8)
def ä:PB:=.G 90 [.d MF]
def å:PV:=.I 1
def æ:PV:=.I 4
def ç:PV:=.I 2
def è:PB:=.qf (.ir 4 .bool) 0
def é:PV:=.K 4 0
def ê:PV:=.d pu
def ë:PB:=.H 3 af aO
def ì:PV:=.I 6
def í:PV:=.d rY
def î:PV:=.d CV
def ï:PB:=.G 33 [.d AB]
def ð:PV:=.I 7
def ñ:PB:=.G 119 [.d T8]
def ò:PB:=.G 176 [.d gh]
def ó:PV:=.d AL
def ô:PV:=.d (.sl LS)
def ö:PV:=.d tV
def ø:PV:=.d (.sl mS)
def ù:PV:=.d (.sl tY)
def ú:PV:=.d (.sl itK)
def û:PV:=.d MF
def ü:PB:=.mp .str .bool
def ý:PV:=.d (.sl rZ)
def ÿ:PV:=.d .ex
def Ā:PB:=.G 194 [.d aec]
def ā:PV:=.I 11
def Ă:PV:=.d zo
def ă:PB:=.G 53 [.d AL]
def Ą:PB:=.qg 9 .str
def ą:PV:=.d T8
def Ć:PV:=.I 5
def ć:PV:=.d AB
def Ċ:PB:=.G 46 [.d aO,.d aO,.d aO,.d aO,.d aO,.d (.sl aO)]
def ċ:PB:=.G 162 [.qy 61 [(1,0)]]
def Č:PV:=.d (.sl vW)
def č:PV:=.d (.sl iP)
def Ď:PV:=.qy 24 [(0,0),(1,0),(4,0),(2,0),(5,0),(3,0)]
def ď:PB:=.qm
def Đ:PB:=.G 71 [.nil,.nil,.nil,.nil,.nil,.nil,.nil]
def đ:PB:=.G 53 [.I 2,.d aO,.I 3,.I 4]
def Ē:PB:=.G 3 [.d aO]
def ē:PB:=.G 53 [.qp 4 2 3,.d aO,.d pu,.d (.sl iH)]
def Ĕ:PV:=.I 8
def ĕ:PV:=.d .sm
def Ė:PV:=.d Kd2
def ė:PB:=.qg 203 .sm
def Ę:PV:=.d (.sl gW)
def ę:PB:=.H 154 J BO
def Ě:PB:=.G 203 [.d .sm]
def ě:PB:=.G 201 [.d .ex]
def Ĝ:PV:=.qy 113 [(1,0)]
def ĝ:PB:=.G 58 [.d rB,.d aO,.d rY,.d (.sl iP)]
def Ğ:PV:=.d (.sl .sm)
def ğ:PB:=.H 165 af dU
def ġ:PB:=.G 46 [.d Kd2]
def ģ:PV:=.K 5 0
def Ĥ:PV:=.d ze
def ĥ:PV:=.I 9
def Ĩ:PB:=.H 203 J .sm
def Ī:PV:=.I 10
def ī:PB:=.G 176 [.d aO,.I 3,.I 4,.d aO]
def Ĭ:PB:=.H 94 J Z0
def ĭ:PB:=.G 109 [.d AC]
def Į:PB:=.G 225 [.d rZ]
def į:PB:=.G 53 [.I 4,.d aO,.I 5,.I 6]
def İ:PV:=.qy 61 [(1,0)]
def Ĳ:PV:=.d Kd4
def ĳ:PV:=.d (.int .u8)
def Ĵ:PB:=.G 96 [.mp 6]
def ĵ:PV:=.I 12
def Ķ:PV:=.d Qz
def ķ:PB:=.H 9 af .str
def ĺ:PB:=.G 140 [.d Kd4]
def Ļ:PB:=.H 189 J tV
def ļ:PB:=.H 225 J rZ
def Ľ:PV:=.d (.sl BO)
def ľ:PB:=.mp itK .un
def Ŀ:PV:=.d aec
def ŀ:PB:=.G 131 [.d mS]
def Ł:PV:=.qy 63 [(2,0)]
def ł:PV:=.d Kd8
def Ń:PV:=.qy 59 [(0,0)]
def ņ:PB:=.G 66 [.d zo]
def ň:PB:=.H 211 J itK
def Ŋ:PB:=.G 22 [.I 2]
def Ō:PB:=.G 95 [.I 8]
def ō:PB:=.H 131 J mS
def Ŏ:PB:=.H 223 J tY
def Ų:PB:=.G 71 [Ù]
def ŵ:PB:=.G 98 [Þ]
def Ű:PB:=.G 125 [Í]
def ų:PB:=.G 189 [ö]
def Ŕ:Y PV:=[Ú,Z!,ê,Î]
def ŕ:Y PV:=[ø,ù,ú,É,É,ý]
def Ŗ:Y PB:=[Ü,Ð,Ø,À,À]
def ŗ:Y PV:=[Z!,Z!]
def Ř:Y PV:=[Ê,Ê,Ê,Ê,Ê,Ê]
def ť:Y PV:=[Ã,Ì,Û]
def ř:Y PV:=(ť++[Ö,é])
def Ś:Y PB:=[À,Å]
def ż:PB:=.G 58 [î]
def ŝ:Y PB:=[ż,.G 46 [Ė]]
def ş:Y PB:=[Á,Á,Á,Á,Á,Á,Á,Õ]
def Š:Y PV:=[Z!,Z!,Z!,Z!,Z!]
def Ż:PB:=.G 33 [ć]
def Ź:PB:=.G 56 [í]
def Ţ:Y PB:=[Ż,Ź]
def Ŷ:PB:=.G 90 [û]
def ţ:Y PB:=[ż,Ŷ]
def Ť:Y PV:=[Ì,Z!,Z!,Z?,Z?,Z?,Z?]
def ű:PB:=.G 30 [Ò]
def Ž:PB:=.G 3 [Z!]
def Ũ:Y PB:=[Ű,Ű]
def ũ:Y PB:=[Ź,Ű]
def ū:Y PV:=[Z!,Æ,Æ]
def Ŭ:Y PB:=[ű,Į]
def ŷ:PB:=.G 119 [ą]
def ů:Y PB:=[ű,Ź,Ű]
def Ŵ:PB:=.G 176 [Æ]
def Ÿ:PB:=.G 53 [ó]
def ź:PB:=.G 194 [Ŀ]
def ž:PB:=.G 203 [ĕ]
def ſ:PB:=.G 201 [ÿ]
def FS:PB:=.G 53 [ç,Z!,â,æ]
def aap:PB:=.G 162 [İ]
def aas:PB:=.G 176 [Z!,â,æ,Z!]
def ae4:PB:=.G 140 [Ĳ]
abbrev BN:Y PV:=(Š++[Ê,Ê])
def Ë:PB:=.G 125 BN
abbrev yH:Y PV:=[Ê,Z!,Ê,Ê,Ê,Ê,Ê]
def Ñ:PB:=.G 66 yH
def ĸ:PB:=.G 56 yH
def š:Y PB:=[ŵ,Ñ,Ë,Ű]
abbrev aEo:Y PV:=(Ť++[æ])
abbrev aEs:Y PV:=[Z!,Z!,á,á,Ê,Z!,Z!,á,Ê,Ê,Ê]
abbrev La2:Y PB:=[.G 196 aEo,ź,ď,.G 203 aEs,Ą]
abbrev T7:Y PV:=(ř++[ģ,.K 6 0,.K 7 0,Z?])
abbrev La4:Y PB:=[.G 185 (ŕ++É::ç::ŗ),ď,Ļ]
abbrev La5:Y PB:=[.G 185 (ŕ++É::å::ŗ),Ļ]
abbrev La6:Y PV:=[Z!,ā,ĵ,Z!]
def þ:PB:=.G 176 La6
def Ŝ:Y PB:=[ŵ,Ñ,Ë,Ű,þ,ų,À,À]
abbrev La7:Y PB:=[.G 119 [Ê,Ê],.G 196 [ģ,Z!,Z!,Z?,Z?,Z?,Z?,ì],.G 119 [ô,ð],ķ,.G 183 [á,Z!,Ĕ,ĥ],ź,Ą,.H 183 J vW,ķ,Ĩ]
abbrev La8:Y PB:=[.G 262 [ô,Č,Z!,å,ì,ð],ė,ď,ď,ž,ŷ,Ó,Ó]
abbrev La9:Y PV:=(Ŕ++[Ĕ,ĥ,.qp 10 4 4])
def Ň:PB:=.G 66 La9
def ő:Y PB:=(Ų::Ň::Ŝ)
abbrev avd:Y PB:=[.G 66 (Ŕ++[ì,ð,.qp 8 4 4]),ŵ,Ñ,Ë,Ű,Ŵ,À,À,.G 176 [Æ,Æ,Æ,Æ]]
abbrev aEp:Y PV:=(Ť++[ç])
abbrev aki:Y PV:=[Ķ,Z!]
def ĩ:PB:=.G 194 aki
abbrev aeb:Y PB:=[.G 196 aEp,ĩ,Ą]
abbrev Sc:Y PV:=(ř++[ģ,.K 6 0,.K 7 0,Z!])
abbrev aAu:Y PV:=(Ŕ++[Ĕ,ĥ,.qp 10 4 3])
def Œ:Y PB:=(Ų::.G 66 aAu::Ŝ)
abbrev aBc:Y PB:=(Œ++.G 176 (Z!::ā::ĵ::ū)::Ś)
abbrev aBb:Y PB:=(Œ++.G 176 [Æ,Z!,ā,ĵ,Z!,Æ]::Ś)
abbrev aBa:Y PB:=(Œ++.G 176 [Æ,Æ,Z!,ā,ĵ,Z!]::Ś)
abbrev aEr:Y PV:=(Ŕ++[Ĕ,ĥ,.qp 10 4 2])
def ś:Y PB:=(Ų::.G 66 aEr::Ŝ)
abbrev aB9:Y PB:=(ś++.G 176 [Z!,ā,ĵ,Z!,Æ]::Ś)
abbrev aB8:Y PB:=(ś++.G 176 [Æ,Z!,ā,ĵ,Z!]::Ś)
abbrev akn:Y PB:=[.G 262 [ô,Č,Z!,å,æ,Ć],ė,ď,ď,Ó,Ó]
abbrev Sa:Y PV:=(ř++[ģ,.K 6 0,Z?])
abbrev akm:Y PB:=[.G 262 [ô,Č,Z!,å,ç,â],ė,Ó,Ó]
abbrev aB7:Y PB:=(Ų::.G 66 (Ŕ++[Ĕ,ĥ,.qp 10 4 1])::ŵ::Ñ::Ë::Ű::þ::ų::À::À::þ::Ś)
abbrev R_:Y PV:=(ř++[ģ,.K 6 0])
abbrev aB6:Y PB:=(ő++.G 176 [Z!,ā,ĵ,Z!,Æ,Æ,Æ]::Ś)
abbrev aB5:Y PB:=(ő++.G 176 (Æ::Z!::ā::ĵ::ū)::Ś)
abbrev aB4:Y PB:=(ő++.G 176 [Æ,Æ,Z!,ā,ĵ,Z!,Æ]::Ś)
abbrev aB3:Y PB:=(ő++.G 176 [Æ,Æ,Æ,Z!,ā,ĵ,Z!]::Ś)
abbrev iM:Y PV:=[Ã,Z?]
abbrev Qy:Y PB:=(ů++[ĸ])
abbrev MD:Y PV:=(ř++[ģ])
abbrev aB2:Y PB:=[.G 66 (Ŕ++[ì,ð,.qp 8 4 3]),ŵ,Ñ,Ë,Ű,Ŵ,À,À,.G 176 [Æ,Æ,Æ]]
abbrev ZM:Y PV:=(Ŕ++[ð,Ĕ,.qp 9 4 4])
def Ħ:PB:=.G 66 ZM
def ŏ:Y PB:=(Ų::Ħ::š)
abbrev CU:Y PV:=(ť++[Ö,Z?])
abbrev aAi:Y PV:=Ř
def ŭ:Y PB:=[ŷ,.G 30 aAi]
abbrev aB1:Y PB:=(ŭ++[.G 30 [æ,Ć,ì,ð,Ê,Ê],.G 265 [.d LS],ō,Ŏ,ň,Ó])
abbrev tP:Y PV:=[Ã,Ì,Z?]
abbrev aEz:Y PB:=[ŷ,.G 71 (Ê::Ř),.G 71 (ŕ++[Ć]),.G 185 (ŕ++É::ì::ŗ),.G 109 [Z!,ì],.H 109 J AC,Ļ]
abbrev MC:Y PV:=[ß,Z!,å,ç]
def Ġ:PV:=.agg MC
def Ģ:PV:=.agg [.agg MC,.I 3,.I 4,.qp 5 4 2]
def aai:PV:=.agg [Ġ,â,æ,.qp 5 4 2]
abbrev GJ:Y PV:=(ť++[Z!])
abbrev Qx:Y PV:=[Z!,Ä,Ĥ,Z!]
def ĉ:PB:=.G 176 Qx
abbrev akl:Y PV:=(Ŕ++[ð,Ĕ,.qp 9 4 3])
def ı:PB:=.G 66 akl
def Ő:Y PB:=(Ų::ı::š)
abbrev CS:Y PV:=(ť++[Z?])
abbrev Qw:Y PV:=[Z!,Ī,ā,Z!]
def Ĉ:PB:=.G 176 Qw
abbrev av5:Y PV:=[Z!,ß,å,Z!]
abbrev av4:Y PV:=[Z!,Ê,Ê,Z!]
def ń:PB:=.G 176 av4
abbrev aB0:Y PB:=[À,Å,ų,.G 176 av5,ń]
abbrev aAz:Y PB:=[.G 262 [ô,Č,Z!,æ,Ć,ì],ď,ď,ď,ė,Ó,Ó]
abbrev Fh:Y PV:=[Ê,Z!,Ê,Ê]
def õ:PB:=.G 53 Fh
def Ŧ:Y PB:=[ű,.G 53 [.qp 4 2 3,Z!,ê,Î],Ž,õ]
abbrev aAy:Y PB:=[FS,õ,Ü,Ð,Ø]
abbrev BL:Y PV:=[Ã,Ì,Z!]
abbrev Qv:Y PV:=[Ã,Ö,Z?]
abbrev aEy:Y PB:=[.G 66 (Ŕ++[ì,ð,.qp 8 4 2]),ŵ,Ñ,Ë,Ű,Ŵ,À,À,.G 176 [Æ,Æ]]
abbrev sI:Y PB:=[ű]
abbrev wL:Y PV:=[Ã,Z!]
abbrev avc:Y PV:=(Ŕ++[ð,Ĕ,.qp 9 4 2])
def ŉ:PB:=.G 66 avc
def œ:Y PB:=(Ų::ŉ::š)
abbrev R9:Y PV:=[Ă,Í,Z?]
abbrev aEx:Y PB:=(ŭ++[.G 30 [â,æ,Ć,ì,Ê,Ê],ō,Ŏ,ň,Ó])
abbrev aAx:Y PV:=(Ŕ++[â,æ,Ć])
abbrev R8:Y PV:=[Ù,Ă,Þ]
abbrev aAw:Y PB:=[Ü,Ð,Ø,.G 53 MC,Õ]
abbrev aAh:Y PV:=[â,Z!,æ,Ć]
abbrev aEw:Y PB:=[ű,.G 53 aAh,õ,Ü,Ð,Ø]
abbrev CR:Y PV:=ŗ
abbrev aEv:Y PB:=(ĭ::aas::ń::Ś)
abbrev aEu:Y PB:=[.G 196 aEo,ź,ď,Ĩ,Ą]
abbrev aAv:Y PB:=[.H 125 J iP,Ų,.G 66 [Ă],Ñ]
abbrev aAt:Y PV:=(Ť++[â])
abbrev aEt:Y PB:=[Ë,Ŵ,ų,.G 125 (Š++[æ,Ê]),Õ]
abbrev Wf:Y PB:=[ž]
abbrev avb:Y PV:=[.agg [Ġ,â,æ,.qp 5 4 4]]
abbrev ZL:Y PB:=[ŷ]
abbrev aAs:Y PB:=[ű,ĭ,ų]
abbrev ava:Y PB:=[ŷ,.G 183 [.d vW]]
abbrev av9:Y PB:=[ŷ,ſ]
abbrev aAr:Y PB:=[ű,Ó,ŀ]
abbrev aAq:Y PB:=[Ü,Ð,Ø]
abbrev av8:Y PB:=[ű,ų]
abbrev av7:Y PV:=[Ã,é,ģ,Z?]
abbrev av6:Y PV:=(ř++[Z!])
abbrev aea:Y PB:=[ű,Ÿ]
abbrev akk:Y PB:=[ű,Ó]
abbrev aAp:Y PB:=[Ű,ĸ,.G 56 aAx,À,À,Õ]
abbrev R7:Y PV:=[Ä,Z!]
abbrev Kw:Y PV:=[Ã,å,Z!]
abbrev akj:Y PB:=[.G 265 [.d LS]]
abbrev aAo:Y PV:=[.agg [Ġ,â,æ,.qp 5 4 3]]
abbrev aAn:Y PB:=Ś
abbrev aAm:Y PB:=[ű,ĭ]
abbrev aAl:Y PB:=[Ų,.G 66 [Ă]]
abbrev aAk:Y PV:=(ť++[Ö])
abbrev aEq:Y PV:=(Ŕ++[ð,Ĕ,.qp 9 4 1])
def ŧ:Y PB:=[Ų,.G 66 aEq,ŵ,Ñ,Ë,Ű]
abbrev aAj:Y PB:=[Ÿ,Õ]
abbrev aqc:Y PV:=[Z!,Z?]
abbrev akh:Y PV:=ť
def tyT:PT Ty:=dT [(2,aO),(3,aO),(4,.bool),(5,(.int .u8)),(9,.str),(43,gW),(44,(.sl aO)),(50,pu),(53,AL),(58,(.st (.pr rB (.pr aO (.pr rY (.sl iP)))))),(82,gW),(94,(.st (.pr (.st (.pr AL (.pr (.sl (.st (.pr aO .bool))) (.pr (.sl (.st (.pr aO .bool))) (.pr (.sl aO) (.pr pu (.sl aO))))))) (.sl gW)))),(98,gW),(109,AC),(125,iP),(131,mS),(154,(.st (.pr aO .bool))),(165,dU),(167,iH),(176,gh),(183,vW),(189,tV),(201,.ex),(203,.sm),(211,itK),(223,tY),(225,rZ),(265,LS)]
def b9 (t:TypeId):aj Ty:=tyT.get t
def RI:=afb [] [] [É] [] .leaf me
def PW:=afb [á] [] [Z?] [] (dT [aed 8 [0,3] [4] [Z!] []]) mF
def Y7:=afb [ĳ] [] [Z?] [] (dT [aed 2 [] [2] [Z?] []]) mY
def ad2:=afb [ĳ] [] [Z?] [] (dT [aed 2 [] [2] [Z?] []]) uu
def ad1:=afb [ĳ] [] [Z?] [] (dT [aed 2 [] [2] [Z?] []]) rP
def Y8:=afb [á] [] [Z?] [] (dT [aed 3 [0] [21] [Z?] [],aed 14 [0] [3] [Z!] []]) gL
def act:=afb [Z?] [] [Z!] [] .leaf ie
def acu:=afb CR [] aqc [] .leaf xl
def Y3:=afb (Z!::ŗ) [] aqc [] (dT [aed 91 [] [6,7] aqc [],aed 97 [] [6,7] aqc []]) vi
def acv:=afb CR [] [Z!] [] (dT [aed 12 [] [5] [Z!] []]) xm
def RH:=afb [Z!] [] [Z!] [] (dT [aed 4 [0] [3] [Z?] [],aed 10 [0] [10] [Z?] [],aed 16 [] [17] [Z?] []]) oe
def ru:=aeu [ÿ] [] [Z?] [] (dT [aed 2 [] [1,3] iM [ſ],aed 5 [] [1,50] iM [ſ],aed 16 [] [1,4] wL [ſ]])
def Ms:cu:=cn ru kD
def Ma (n:Nat):cu:=cn ru (jH n)
def ad0:=afb [ÿ] [] [Z?] [] (dT [aed 2 [] [2] [Z?] []]) rN
def vT:=aeu [ĕ] [] [Z?] [] (dT [aed 3 [] [1,13] iM Wf,aed 10 [] [1,3] iM Wf,aed 13 [] [1,47] iM Wf,aed 21 [] [1,66] iM Wf,aed 29 [] [1,95] iM Wf,aed 36 [] [1,4] iM Wf,aed 39 [] [1,130] iM Wf,aed 46 [] [1,5] iM Wf,aed 49 [] [1,157] iM Wf,aed 56 [] [2] [Z?] []])
def L' (n:Nat):cu:=cn vT (fP n)
def pU:=aeu [Ğ] [] [Z?] [] (dT [aed 6 [0] [3] [Z!] []])
def Kh:cu:=cn pU pH
def JF (n:Nat):cu:=cn pU (dY n)
def Mr:=afb [.d LS] [] [Z?] [] (dT [aed 3 [] [1,31] iM akj,aed 11 [] [1,50] iM akj,aed 18 [] [2] [Z?] []]) nM
def Y6:=afb [ą] [] [Z?] [] (dT [aed 6 [] [1,3] wL ZL,aed 27 [] [1,4] wL ZL,aed 42 [4] [1,5,6] BL ava,aed 59 [4] [1,56] iM ZL]) sg
def ats:=afb [É,á] [] [Z!] [] (dT [aed 6 [0,1] [5] [Z!] []]) kP
def Y5:=afb [ô,á] [] [Z!] [] (dT [aed 6 [0,1] [5] [Z!] []]) ki
def RG:=afb [Č,á] [] [Z!] [] (dT [aed 6 [0,1] [5] [Z!] []]) j6
def Y4:=afb [ą,Z!,á] [] [Z!] [] (dT [aed 3 [2] [3,27] iM ZL,aed 52 [7] [3,56] iM ZL]) vj
def ajr:=afb (ą::Z!::á::ŗ) [] [Z!] [] (dT [aed 13 [] [25] [Z?] []]) ja
def BB:=aeu [ÿ] [] CR [] (dT [aed 8 [] [1,4,5,6] (Ã::Z!::ŗ) [ſ]])
def acy:cu:=cn BB Ge
def aav (n:Nat):cu:=cn BB (pi n)
def BA:=aeu [ą,Z!,ÿ] [] [Z!] [] (dT [aed 7 [1] [3,5,7] BL av9,aed 21 [1] [3,5,7,8] (Ã::Ì::ŗ) av9,aed 23 [1,7,8] [3,5,33] tP av9])
def acw:cu:=cn BA Gb
def aau (n:Nat):cu:=cn BA (ph n)
def ajs:=afb [ą,Z!,ÿ] [] [Z!] [] (dT [aed 13 [1] [3,5,22] tP av9]) pG
def VD:=afb [Z?] [] [Z!] [] .leaf dt
def atr:=afb CR [] [Z!] [] .leaf kA
def Kg:=afb [Ã,Z!,Z!,á] akm [Z?] akm (dT [aed 6 [1,2,3] [0,9] wL akm,aed 17 [1,2,3,9] [0,46] iM akm]) e9
def RE:=afb [Ã,ĕ] akm [Z!] akn (dT [(1,(.a [.qz 0 4,.qz 0 5])),aed 28 [6,7,8,9,30] [0,3,5,67] av7 La8,aed 41 [] [4] [Z!] akn,aed 44 [6,7,8,9,30] [0,3,5,91] av7 La8,aed 51 [] [4] [Z!] akn,aed 63 [] [4] [Z!] akn,aed 66 [6,7,8,9,30] [0,3,5,119] av7 La8,aed 89 [] [4] [Z!] akn,aed 108 [] [0,3,187] [Ã,é,Z?] [.G 262 [ô,Č,Z!,å,Ć,ì],ė,ď,ď,ž,Ó,Ó],aed 131 [] [4] [Z!] akn,aed 137 [6] [0,3,5,14] [Ã,é,ģ,Z!] La8,aed 139 [6] [0,3,5,14] [Ã,é,ģ,Z!] La8,aed 140 [6,14] [0,3,5,253] av7 La8]) oc
def uQ:=aeu [Ã,Ğ] akm CR aAz (dT [(1,(.a [.qz 0 3,.qz 0 4,.qz 0 5])),aed 6 [1] [0,6] wL aAz,aed 19 [1,6] [0,7,8] [Ã,é,Z!] [.G 262 [ô,Č,Z!,Ć,ì,ð],ď,ď,ď,ž,ė,Ó,Ó],aed 37 [1,6] [0,8,9] (Ã::ŗ) aAz])
def RF:cu:=cn uQ yQ
def Ra (n:Nat):cu:=cn uQ (j9 n)
def BD:=aeu [Ğ] [] [Z!] [] (dT [aed 8 [0] [3,4] CR []])
def acz:cu:=cn BD Gf
def aaw (n:Nat):cu:=cn BD (pj n)
def acx:=afb [ô] [] CR [] (dT [aed 8 [0] [4,5,6,7,8] (Z!::Z!::Z!::ŗ) [],aed 16 [0,8] [4,5,6,7] (Z!::Z!::ŗ) [],aed 38 [0,8] [4,5,6,7,9] [Z!,Z!,Z!,Z!,Ã] akj,aed 39 [0,4,5,6,7,8,36] [9,39] iM akj,aed 47 [0,4,5,6,7,8,36] [9,47] iM akj,aed 61 [0,4,5,6,7,8] [9,69] iM akj]) ut
def VB:=afb [ą] [] CR [] (dT [aed 6 [] [1,4] wL ZL,aed 17 [4] [1,5,37] tP ava,aed 29 [] [1,6] wL ZL,aed 51 [6] [1,7,8] BL ava,aed 62 [6,8] [1,7,90] tP ava]) pF
def VF:=afb [ą] [] CR [] (dT [aed 44 [] [1,8,9] (Ã::ŗ) ZL,(67,(.a [.zk 10 3 203 .sm,.zk 10 4 9 .str,.zk 10 5 9 .str])),aed 69 [] [1,10,11] BL [ŷ,.G 262 [ô,Č,Z!,ç,â,æ],ė,Ó,Ó]]) g_
def Bz:=aeu [ß,Z!,Z!,Ğ] [ļ] [å,Z!] [ď,ļ] (dT [(1,(.a [.qz 0 0])),aed 6 [1,3] [0,2,10] (å::ŗ) [ď,ļ],(25,(.a [.nil 8 225 rZ]))])
def acn:cu:=cn Bz NT
def aat (n:Nat):cu:=cn Bz (rV n)
def Y0:=afb [ù,á] [] [Z!] [] (dT [aed 6 [0,1] [5] [Z!] []]) mX
def Y2:=afb [Ò,á] [] [Z!] [] (dT [aed 6 [1] [2,5] wL sI]) o7
def acr:=afb [ą] [] [Ò] [] (dT [ael 18 [] [1,2,3,6] GJ aEx [.zk 3 0 131 mS,.zk 3 1 223 tY,.zk 3 2 211 itK,.zk 3 3 9 .str],aed 31 [6] [1,2,3] akh aEx,aed 32 [6,31] [1,2,3,7,39] CU aB1,aed 42 [6] [1,2,3,7,8] (ť++[Ö,Z!]) aB1,aed 53 [6,31] [1,2,3,7,65] CU aB1,(69,(.a [.zk 3 5 225 rZ])),ael 71 [] [1,2,3,9] GJ (ŭ++[.G 30 [â,æ,Ć,ì,ð,Ĕ],ō,Ŏ,ň,Ó,Ó,ļ]) [.zk 3 4 9 .str]]) xk
def aco:=afb [Ò] [] [É,Z?] [] (dT [ael 8 [] [1,4,5] Kw akk [.nil 4 9 .str],aed 15 [] [1,4,5] Kw akk,aed 37 [5] [1,4,6,51] [Ã,å,Û,Z?] aAr,aed 48 [5] [1,4,6,7] [Ã,å,Û,Z!] aAr,aed 59 [5,7] [1,4,6,93] [Ã,å,Û,Z?] aAr,aed 72 [] [1,4,9] Kw akk,aed 87 [] [1,4,10] Kw akk]) rK
def Mq:=afb [Ò] [] [Z?] [] (dT [aed 3 [] [1,49] iM sI,aed 24 [3] [1,5] wL sI,aed 33 [3,5] [1,79] iM sI,aed 45 [] [1,6] wL sI,aed 56 [6] [1,109] iM sI,aed 68 [] [1,8] wL sI,aed 76 [8] [1] [Ã] sI,aed 80 [8] [1,9,132] tP Ŭ,aed 87 [8] [1,9,146] tP Ŭ,aed 90 [8] [1,165] iM sI]) jF
def PU:=afb [ö] [] [Ä] [] (dT [aed 6 [4] [1,5] iM [ų],aed 24 [4] [1,13] iM [ų],aed 46 [4] [1,37] iM [ų]]) lw
def Y1:=afb [Z!] [] [Z?] [] (dT [aed 2 [] [2] [Z?] []]) sa
def acp:=afb [.d (.sl tV),Z!] [] [Z?] [] (dT [aed 6 [0] [1,5] CR [],aed 14 [0,5] [1] [Z!] [],aed 16 [0,1,5] [19] [Z?] []]) rL
def atq:=afb CR [] [Z?] [] (dT [aed 2 [] [4] [Z?] []]) kO
def acq:=afb (Ò::ŗ) [] [Z?] [] (dT [aed 2 [] [6] [Z?] []]) rM
def Vx:=afb [Ò,ö] [] [Z?] [] (dT [aed 9 [] [4] [Z?] [],aed 15 [] [4] [Z?] [],aed 30 [6] [2,3,59] tP av8,aed 37 [] [4] [Z?] [],aed 40 [6] [2,3,78] tP av8,aed 55 [] [4] [Z?] [],aed 58 [6] [2,3,98] tP av8,aed 72 [6] [2,3,108] tP av8,aed 97 [] [4] [Z?] [],aed 103 [] [4] [Z?] []]) nj
def Kf:=afb [Ò,Z!,.d AC] [] [Z?] [] (dT [aed 5 [1,7] [3,5,26] tP aAm,aed 16 [1,7] [3,5,8] BL aAm,aed 28 [1,7,8] [3,5,9,67] CS aAs,aed 36 [1,7,8] [3,5,9,100] CS aAs,aed 44 [1,7,8] [3,5,9,122] CS aAs,aed 56 [1,7,8,10] [3,5,11] BL aAm]) jR
def acs:=afb [Ù] [] [Z?] [] (dT [aed 3 [] [1,17] iM [Ų],aed 14 [] [1,3] wL [Ų]]) lq
def Vy:=afb [Ã,ö] La5 [] La4 .leaf cJ
def tJ:=aeu [Ã,ÿ,Z!] La5 [] La4 (dT [aed 2 [] [] [] La4])
def PQ:cu:=cn tJ kh
def N5 (n:Nat):cu:=cn tJ (kl n)
def Mp:=afb [Ã,ĕ] La5 [] La4 .leaf nL
def RD:=afb [Ã,á] La5 [Z!] La5 (dT [aed 6 [1] [0,5] wL La5]) kU
def tK:=aeu [Ã,Ğ] La5 [] La4 (dT [(1,(.a [.qz 0 7])),aed 3 [1] [0,4] wL La4])
def PR:cu:=cn tK xj
def N6 (n:Nat):cu:=cn tK (ep n)
def yZ:=aeu [Ã,ĕ] La5 [] La4 (dT [(1,(.a [.qz 0 7])),aed 10 [] [] [] La4,aed 15 [4,25] [0,3,31] [Ã,Û,Z?] [.G 185 (ŕ++É::â::ŗ),ď,ž,Ļ]])
def Q_ (n:Nat):cu:=cn yZ (f_ n)
def tL:=aeu [Ã,ĕ] La5 [] La4 .leaf
def HI (n:Nat):cu:=cn tL (dy n)
def vS:=aeu (Ã::ĕ::Z!::ŗ) La5 [] La4 .leaf
def L_ (n:Nat):cu:=cn vS (d_ n)
def Vz:=afb [ą] [] (Ù::ŗ) [] (dT [ael 20 [] [1,2,7,8,9] (ť++ŗ) [ŷ,.G 71 (Ê::Ř),.G 71 (ŕ++[â]),.H 109 J AC] [.zk 7 6 109 AC],(32,(.a [.zk 10 7 189 tV])),aed 45 [8,9] [1,2,7,10,11,12] av6 aEz,aed 59 [8,9,12,13] [1,2,7,10,11,14] av6 aEz]) sZ
def aor:=afb R7 [] [Z?] [] (dT [aed 6 [0,1] [5] [Z!] []]) sY
def aoq:=afb R7 [] [Ä] [] (dT [aed 6 [0,1] [5] [Z!] [],aed 8 [0,1,5] [18] [Z?] [],aed 16 [0,1,5] [32] [Z?] []]) zV
def acm:=afb [Ä,Ä] [] [Ä] [] (dT [aed 8 [0,1] [5,6] R7 [],aed 23 [1] [5,7] R7 []]) xi
def RC:=afb [Z!] [] [Z!] [] (dT [aed 3 [0] [8] [Z?] []]) n_
def ajq:=afb [Æ] [] [.agg av5] aAn (dT [ael 8 [] [1,2,3,4] GJ (Ŵ::ń::aas::Ś) [.zk 3 2 44 (.sl aO)]]) cB
def ajp:=afb [ö,.agg av5] aAn [.agg av5,Z?] aAn (dT [aed 8 [6] [2,3,4,7] [Û,Ö,é,Z!] aB0,aed 17 [6,7] [2,3,4,33] [Û,Ö,é,Z?] aB0,aed 32 [] [2,3,4,8,9,10] [Û,Ö,é,Z!,Z?,Ä] aB0]) zU
def YZ:=afb [.d AC,Æ] [] [Æ,Z?] [] (dT [aed 3 [] [2,3,4,23] CS [ĭ,Ŵ,ń],aed 16 [] [2,3,4,6] GJ aEv,aed 26 [6] [2,3,4,44] CS aEv]) o6
def ack:=afb [Ò] [] [ó] [] (dT [ael 8 [] [1,2,3,4] GJ [ű,õ,.G 53 [â,Z!,Ê,Ê],Ü] [.zk 3 0 165 dU],ael 23 [] [1,2,3,5] GJ [ű,õ,.G 53 [â,Z!,æ,Ê],Ü,Ð] [.zk 3 2 4 .bool],ael 38 [] [1,2,3,6] GJ [ű,õ,.G 53 aAh,Ü,Ð,Ø] [.zk 3 3 167 iH],aed 49 [6] [1,2,3,7] aAk [ű,õ,.G 53 [æ,Z!,Ć,ì],.G 167 [.d iH],Ü,Ð,Ø]]) ur
def ajn:=afb [Ò,ó] [] [Z?] [] (dT [aed 6 [] [2,3,5] BL aea,aed 15 [5] [2,3,31] tP aea,aed 23 [] [4] [Z?] []]) pE
def atp:=afb CR [] [Z?] [] (dT [aed 2 [] [4] [Z?] []]) sX
def acj:=afb (Ò::ŗ) [] [Z?] [] (dT [aed 6 [2,7] [3,8] iM sI,aed 36 [2,7] [3,18] iM sI,aed 46 [2,7] [3,26] iM sI,aed 53 [] [6] [Z?] [],aed 56 [2,7] [3,43] iM sI,aed 71 [] [6] [Z?] [],aed 74 [2,7] [3,61] iM sI,aed 92 [2,7] [3,71] iM sI,aed 102 [2] [3,79] iM sI]) rH
def Vw:=afb (Ò::ó::Z!::ŗ) [] [Z?] [] (dT [aed 3 [2,3,4] [5,6,30] tP aea,aed 25 [] [10] [Z?] [],aed 50 [] [10] [Z?] [],aed 56 [] [10] [Z?] [],aed 59 [2,4,70] [5,6,11,119] CS [ű,Ÿ,.G 167 [.d iH]],aed 99 [2,4,70] [5,6,160] tP aea,aed 116 [] [10] [Z?] [],aed 122 [] [10] [Z?] []]) j5
def Vv:=afb [ó,Z!] [] [Ä] [] (dT [ael 8 [1] [2,5,6] Kw aAj [.nil 5 3 aO],aed 16 [1,6] [2,5] [Ã,å] aAj,aed 17 [1,6] [2,5,30] [Ã,å,Z?] aAj]) pD
def Vu:=afb R7 [] [Ä] [] (dT [ael 8 [0,1] [5,6] [ß,Z!] [Õ] [.nil 5 3 aO],aed 16 [0,1,6] [5] [ß] [Õ]]) sW
def ajo:=afb [ó] [] [Ġ] aAq (dT [ael 8 [] [1,2,3,4] GJ [Ÿ,õ,.G 53 aAh,Ü,Ð,Ø] [.zk 3 0 165 dU]]) jQ
def om:=aeu [Ġ,Z!] aAq [Ä] aAq (dT [ael 8 [1] [2,5,6] [Ö,æ,Z!] aAw [.nil 5 3 aO],aed 16 [1,6] [2,5] [Ö,æ] aAw,aed 17 [1,6] [2,5,30] [Ö,æ,Z?] aAw])
def RB:cu:=cn om nZ
def PP:cu:=⟨om.pre,⟨om.post.vs,[]⟩,mE⟩
def acl:=afb (Ò::ó::Z!::Z!::ŗ) [] [ó,Z!,Z?] [] (dT [aed 17 [] [7,12,15] BL aAy,aed 26 [2,4,5,15,30] [6,7,12,45] CS aEw,aed 34 [2,4,5,15,30] [6,7,12,54] CS aEw,aed 90 [] [7,12,17] BL aAy,aed 109 [18] [7,12,19] BL aAy]) rJ
def aci:=afb [Ù] [] [Ă] [] (dT [ael 16 [] [1,2,3,4] GJ [Ų,Ñ,.G 66 (Ŕ++[â,Ê,Ê]),À] [.zk 3 4 2 aO],ael 31 [] [1,2,3,5] GJ [Ų,Ñ,.G 66 (Ŕ++[â,æ,Ê]),À,À] [.zk 3 5 2 aO],ael 46 [] [1,2,3,6] GJ [Ų,Ñ,.G 66 aAx,À,À,.H 176 J gh] [.zk 3 6 176 gh]]) xh
def ajl:=afb [Ù,Ă] [] [Z?] [] (dT [aed 3 [] [2,3,46] tP aAl,aed 14 [] [2,3,5] BL aAl,aed 25 [5] [2,3,97] tP aAl]) zS
def ajj:=afb [Z!] [] [Z!] [] (dT [aed 5 [0] [3,10] [ß,Z?] [ë]]) Et
def YE:=afb [ö,Æ] [] [Z!] [] (dT [aed 6 [6] [2,3,7] tP [ų,Ŵ],aed 28 [] [2,40] iM [ų]]) yi
def Vt:=afb [Ù,Ă,Z!] [] [Í,Z?] [] (dT [aed 3 [2] [3,4,6,25] CS [Ų,.G 66 [Ă],Ë],ael 54 [] [6,8,9,10] aAk aEt [.zk 10 5 3 aO],aed 59 [] [6,8,9,10,98] CU [Ë,Ŵ,ų,Ë],ael 68 [] [6,10] [Ã,Ì] [Ë,.G 125 (Š++[ç,â]),Õ,Õ] [.zk 10 6 3 aO],aed 69 [] [6,8,9,10,123] CU aEt]) pC
def acg:=afb [Ò] [] [í] [] (dT [ael 8 [] [1,2,3,4] GJ [ű,ĸ,.G 56 aAx,À,.H 2 af aO,ë] [.zk 3 4 2 aO]]) uq
def aji:=afb [Ò,í] [] [Z?] [] (dT [aed 2 [] [4] [Z?] []]) wQ
def ato:=afb CR [] [Z?] [] (dT [aed 2 [] [4] [Z?] []]) HB
def Vs:=afb R7 [] [Z?] [] (dT [aed 6 [0,1] [5] [Z!] [],aed 15 [0,1,5] [40] [Z?] []]) pB
def ace:=afb [í,Í] [] [Z?] [] (dT [aed 21 [] [4] [Z?] [],aed 24 [7] [2,3,40] tP ũ,aed 47 [] [4] [Z?] []]) xf
def ajh:=afb [Ò,í,Í] [] [í,Z?] [] (dT [aed 3 [] [3,4,5,6,46] CU Qy,aed 10 [] [3,4,5,6] aAk Qy,aed 11 [] [3,4,5,6,55] CU Qy,aed 21 [] [3,4,5,6,78] CU Qy,aed 28 [] [3,4,5,6,8] CU Qy,aed 31 [] [3,4,5,6,110] CU Qy,aed 39 [] [3,4,5,6,125] CU Qy,aed 47 [] [3,4,5,6,154] CU Qy,aed 58 [] [3,4,5,6,9,10] av6 (ů++[ĸ,.G 56 [Ê,Z!,Ê,Ê,Ć,ì,ð],À,À,Õ]),aed 66 [] [5,6,9] akh aAp,aed 72 [] [5,6,9] akh aAp]) nY
def acf:=afb [č,Z!,Z!,Ä] [] [Z?] [] (dT [aed 6 [0,1,2,3] [9] [Z!] [],aed 23 [0,1,2,3,9] [10,11,12] [Z!,Z?,Z!] [],aed 31 [0,1,2,3,9,12] [10,11] aqc [],aed 38 [0,1,2,3,9,10,12] [11] [Z?] []]) uo
def ach:=afb [ć] [] CR [] (dT [aed 24 [] [1,4,5] BL Ţ,aed 38 [5] [1,4,7,63] CS (Ţ++[Ź])]) xg
def YY:=afb [Ă] [] [.agg [Ġ,â,æ,.qp 5 4 1]] (Ŗ++.G 176 [Z!,ì,ð,Z!]::Ś) (dT [(8,(.u 2))]) vh
def YO:=afb R8 [] R9 [] (dT [(27,(.s 5 0 0 1)),aed 37 [] [3,4,5,6,7,9,14,15,16] Sc aB7,aed 38 [16,77] [3,4,5,6,7,9,14,15,78] T7 aB7,aed 83 [16] [3,4,5,6,7,9,14] R_ (ŧ++Ĉ::À::À::Ĉ::Ś),aed 84 [16] [3,4,5,6,7,9,14,15,154] T7 aB7,aed 95 [] [4,5,6,7,9,14] MD [.G 66 (Ŕ++[ì,ð,.qp 8 4 1]),ŵ,Ñ,Ë,Ű,Ŵ,À,À,Ŵ],aed 96 [] [3,4,5,6,7,9,14,183] Sa (ŧ++[ĉ,À,À,ĉ]),(102,(.s 5 0 0 1)),(104,(.a [.pk 4 6 gh]))]) iJ
def YX:=afb [Ă] [] [aai] (Ŗ++.G 176 [Z!,ì,ð,Z!,Æ]::Ś) (dT [(8,(.u 3))]) vg
def YN:=afb R8 [] R9 [] (dT [(27,(.s 5 0 0 1)),aed 37 [] [3,4,5,6,7,9,14,15,16] Sc aB9,aed 38 [16,77] [3,4,5,6,7,9,14,15,78] T7 aB9,aed 83 [16] [3,4,5,6,7,9,14] R_ (œ++Ĉ::À::À::.G 176 [Z!,Ī,ā,Z!,Æ]::Ś),aed 84 [16] [3,4,5,6,7,9,14,15,154] T7 aB9,aed 95 [] [4,5,6,7,9,14] MD aEy,aed 96 [] [3,4,5,6,7,9,14,183] Sa (œ++[ĉ,À,À,.G 176 [Z!,Ä,Ĥ,Z!,Æ]]),(102,(.s 5 0 0 1)),(104,(.a [.pk 4 6 gh]))]) jE
def YW:=afb [Ă] [] [aai] (Ŗ++.G 176 [Æ,Z!,ì,ð,Z!]::Ś) (dT [(8,(.u 3))]) ve
def YM:=afb R8 [] R9 [] (dT [(27,(.s 5 0 1 1)),aed 37 [] [3,4,5,6,7,9,14,15,16] Sc aB8,aed 38 [16,77] [3,4,5,6,7,9,14,15,78] T7 aB8,aed 83 [16] [3,4,5,6,7,9,14] R_ (œ++Ĉ::À::À::.G 176 [Æ,Z!,Ī,ā,Z!]::Ś),aed 84 [16] [3,4,5,6,7,9,14,15,154] T7 aB8,aed 95 [] [4,5,6,7,9,14] MD aEy,aed 96 [] [3,4,5,6,7,9,14,183] Sa (œ++[ĉ,À,À,.G 176 [Æ,Z!,Ä,Ĥ,Z!]]),(102,(.s 5 0 1 1)),(104,(.a [.pk 4 6 gh]))]) iI
def YV:=afb [Ă] [] aAo (Ŗ++.G 176 (Z!::ì::ð::ū)::Ś) (dT [(8,(.u 4))]) vb
def YL:=afb R8 [] R9 [] (dT [(27,(.s 5 0 0 1)),aed 37 [] [3,4,5,6,7,9,14,15,16] Sc aBc,aed 38 [16,77] [3,4,5,6,7,9,14,15,78] T7 aBc,aed 83 [16] [3,4,5,6,7,9,14] R_ (Ő++Ĉ::À::À::.G 176 (Z!::Ī::ā::ū)::Ś),aed 84 [16] [3,4,5,6,7,9,14,15,154] T7 aBc,aed 95 [] [4,5,6,7,9,14] MD aB2,aed 96 [] [3,4,5,6,7,9,14,183] Sa (Ő++[ĉ,À,À,.G 176 (Z!::Ä::Ĥ::ū)]),(102,(.s 5 0 0 1)),(104,(.a [.pk 4 6 gh]))]) mb
def YU:=afb [Ă] [] aAo (Ŗ++.G 176 [Æ,Z!,ì,ð,Z!,Æ]::Ś) (dT [(8,(.u 4))]) u_
def YK:=afb R8 [] R9 [] (dT [(27,(.s 5 0 1 1)),aed 37 [] [3,4,5,6,7,9,14,15,16] Sc aBb,aed 38 [16,77] [3,4,5,6,7,9,14,15,78] T7 aBb,aed 83 [16] [3,4,5,6,7,9,14] R_ (Ő++Ĉ::À::À::.G 176 [Æ,Z!,Ī,ā,Z!,Æ]::Ś),aed 84 [16] [3,4,5,6,7,9,14,15,154] T7 aBb,aed 95 [] [4,5,6,7,9,14] MD aB2,aed 96 [] [3,4,5,6,7,9,14,183] Sa (Ő++[ĉ,À,À,.G 176 [Æ,Z!,Ä,Ĥ,Z!,Æ]]),(102,(.s 5 0 1 1)),(104,(.a [.pk 4 6 gh]))]) kS
def YT:=afb [Ă] [] aAo (Ŗ++.G 176 [Æ,Æ,Z!,ì,ð,Z!]::Ś) (dT [(8,(.u 4))]) u9
def YJ:=afb R8 [] R9 [] (dT [(27,(.s 5 0 2 1)),aed 37 [] [3,4,5,6,7,9,14,15,16] Sc aBa,aed 38 [16,77] [3,4,5,6,7,9,14,15,78] T7 aBa,aed 83 [16] [3,4,5,6,7,9,14] R_ (Ő++Ĉ::À::À::.G 176 [Æ,Æ,Z!,Ī,ā,Z!]::Ś),aed 84 [16] [3,4,5,6,7,9,14,15,154] T7 aBa,aed 95 [] [4,5,6,7,9,14] MD aB2,aed 96 [] [3,4,5,6,7,9,14,183] Sa (Ő++[ĉ,À,À,.G 176 [Æ,Æ,Z!,Ä,Ĥ,Z!]]),(102,(.s 5 0 2 1)),(104,(.a [.pk 4 6 gh]))]) kg
def YS:=afb [Ă] [] avb (Ŗ++.G 176 [Z!,ì,ð,Z!,Æ,Æ,Æ]::Ś) (dT [(8,(.u 5))]) u7
def dW:=aeu R8 [] R9 [] (dT [(27,(.s 5 0 0 1)),aed 37 [] [3,4,5,6,7,9,14,15,16] Sc aB6,aed 38 [16,77] [3,4,5,6,7,9,14,15,78] T7 aB6,aed 83 [16] [3,4,5,6,7,9,14] R_ (ŏ++Ĉ::À::À::.G 176 [Z!,Ī,ā,Z!,Æ,Æ,Æ]::Ś),aed 84 [16] [3,4,5,6,7,9,14,15,154] T7 aB6,aed 95 [] [4,5,6,7,9,14] MD avd,aed 96 [] [3,4,5,6,7,9,14,183] Sa (ŏ++[ĉ,À,À,.G 176 [Z!,Ä,Ĥ,Z!,Æ,Æ,Æ]]),(102,(.s 5 0 0 1)),(104,(.a [.pk 4 6 gh]))])
def YI:cu:=cn dW r_
def YR:=afb [Ă] [] avb (Ŗ++.G 176 (Æ::Z!::ì::ð::ū)::Ś) (dT [(8,(.u 5))]) u6
def YH:=afb R8 [] R9 [] (dT [(27,(.s 5 0 1 1)),aed 37 [] [3,4,5,6,7,9,14,15,16] Sc aB5,aed 38 [16,77] [3,4,5,6,7,9,14,15,78] T7 aB5,aed 83 [16] [3,4,5,6,7,9,14] R_ (ŏ++Ĉ::À::À::.G 176 (Æ::Z!::Ī::ā::ū)::Ś),aed 84 [16] [3,4,5,6,7,9,14,15,154] T7 aB5,aed 95 [] [4,5,6,7,9,14] MD avd,aed 96 [] [3,4,5,6,7,9,14,183] Sa (ŏ++[ĉ,À,À,.G 176 (Æ::Z!::Ä::Ĥ::ū)]),(102,(.s 5 0 1 1)),(104,(.a [.pk 4 6 gh]))]) r9
def YQ:=afb [Ă] [] avb (Ŗ++.G 176 [Æ,Æ,Z!,ì,ð,Z!,Æ]::Ś) (dT [(8,(.u 5))]) u5
def YG:=afb R8 [] R9 [] (dT [(27,(.s 5 0 2 1)),aed 37 [] [3,4,5,6,7,9,14,15,16] Sc aB4,aed 38 [16,77] [3,4,5,6,7,9,14,15,78] T7 aB4,aed 83 [16] [3,4,5,6,7,9,14] R_ (ŏ++Ĉ::À::À::.G 176 [Æ,Æ,Z!,Ī,ā,Z!,Æ]::Ś),aed 84 [16] [3,4,5,6,7,9,14,15,154] T7 aB4,aed 95 [] [4,5,6,7,9,14] MD avd,aed 96 [] [3,4,5,6,7,9,14,183] Sa (ŏ++[ĉ,À,À,.G 176 [Æ,Æ,Z!,Ä,Ĥ,Z!,Æ]]),(102,(.s 5 0 2 1)),(104,(.a [.pk 4 6 gh]))]) oZ
def YP:=afb [Ă] [] avb (Ŗ++.G 176 [Æ,Æ,Æ,Z!,ì,ð,Z!]::Ś) (dT [(8,(.u 5))]) u4
def YF:=afb R8 [] R9 [] (dT [(27,(.s 5 0 3 1)),aed 37 [] [3,4,5,6,7,9,14,15,16] Sc aB3,aed 38 [16,77] [3,4,5,6,7,9,14,15,78] T7 aB3,aed 83 [16] [3,4,5,6,7,9,14] R_ (ŏ++Ĉ::À::À::.G 176 [Æ,Æ,Æ,Z!,Ī,ā,Z!]::Ś),aed 84 [16] [3,4,5,6,7,9,14,15,154] T7 aB3,aed 95 [] [4,5,6,7,9,14] MD avd,aed 96 [] [3,4,5,6,7,9,14,183] Sa (ŏ++[ĉ,À,À,.G 176 [Æ,Æ,Æ,Z!,Ä,Ĥ,Z!]]),(102,(.s 5 0 3 1)),(104,(.a [.pk 4 6 gh]))]) mW
def ajm:cu:=cn dW Eu
def ajk:=afb [Ù,Ă,Ê,Ę] [] [č,Ă] [] (dT [(1,(.a [.nil 2 125 iP])),aed 6 [3] [2,4,5,9,10] [ß,Ì,Û,Ö,Z!] aAv,aed 8 [3,10] [2,4,5,9,22] [ß,Ì,Û,Ö,Z?] aAv,aed 14 [3,10] [2,4,5,9] [ß,Ì,Û,Ö] aAv]) zR
def aoo:=afb [Ù,Ę] [] [ć,Ă] [] .leaf C9
def Mx:=afb wL [ĩ] [Z!] [ĩ] (dT [aed 3 [1] [0,18] iM [ź]]) c6
def ajv:=afb [Z!] [] [ÿ] [] .leaf ux
def ad9:=afb [á] [] [ÿ] [] .leaf rQ
def VS:=afb [Z!,ÿ,ÿ] [] [ÿ] [] .leaf pK
def VU:=afb [á,ÿ] [] [ĕ] [] .leaf kQ
def Ze:=afb [] [] [ô] [] .leaf vn
def RQ:=afb [Ķ] [] [Ę] [] (dT [ael 8 [0] [3,4] [ß,Z!] [.H 98 J gW] [.nil 3 98 gW]]) uK
def pV:=aeu wL aeb [ÿ] aeb (dT [aed 8 [1,6] [0,4,5,14] [Ã,Ö,æ,Z?] [.G 196 aEp,ź,Ą,.G 201 [Z!,Z!,á,Ê],ķ]])
def Kk:cu:=cn pV gC
def JH (n:Nat):cu:=cn pV (jV n)
def IK:=afb [Ã,á] aeb [Z?] aeb .leaf fY
def oI:=aeu (Ã::ŗ) aeb [æ] [.G 196 aAt,ĩ,ď,Ą,Ĩ] (dT [(1,(.a [.qz 0 7])),ael 8 [1,2] [0,7,8] [Ã,â,Z!] aEu [.nil 7 203 .sm],aed 10 [1,2,8] [0,7,22] [Ã,â,Z?] aEu,(21,(.a [.nil 6 203 .sm]))])
def IJ:cu:=cn oI s7
def HJ (n:Nat):cu:=cn oI (ec n)
def uG:=aeu wL aeb [ĕ] [.G 196 aAt,ĩ,ď,Ą] (dT [(1,(.a [.qz 0 7])),aed 6 [1,5] [0,4,6] Qv La2,aed 28 [1,5,6] [0,4,74] Qv La2,ael 33 [] [4,7] [Ö,é] [.G 196 (Ť++[Ć]),ź,ď,.G 203 aEs,.G 203 [Z!,Z!,á,á,Ê,Z!,Z!,á,.d (.sl .ex),ì,ð],Ą,Ĩ,Ĩ] [.zk 7 10 203 .sm],aed 42 [1,5,6] [0,4,100] Qv La2,aed 56 [1,5,6] [0,4,133] Qv La2,aed 64 [1,5,6] [0,4,165] Qv La2,aed 70 [1,5,6] [0,4,188] Qv La2,aed 82 [1,5,6] [0,4,210] Qv La2,aed 94 [5,6] [0,4,235] Qv La2,aed 100 [5] [0,4,258] Qv La2,aed 106 [5] [0,4,278] Qv La2,aed 114 [] [0,4,308] Qv La2])
def JG (n:Nat):cu:=cn uG (fU n)
def tM:=aeu [Ã,á,Z!] aeb [Ğ] [.G 196 aAt,ĩ,ď,Ą] .leaf
def HK (n:Nat):cu:=cn tM (fd n)
def RO:=afb [Ķ] [] [ą] [] (dT [(5,(.a [.zk 3 7 9 .str])),ael 14 [5] [2,3,4,6,7] (ť++[â,Z!]) [.G 119 [Ê,Ê],.G 196 [é,Z!,Z!,Z?,Z?,Z?,Z?,Ć],.G 119 [ô,ì],ķ,ź,Ą,.H 183 J vW] [.zk 4 1 183 vW],ael 27 [5,7] [2,3,4,6,8] (ť++[â,é]) La7 [.zk 8 3 203 .sm],ael 34 [5,7] [2,3,4,6,8,9] (ť++[â,é,Z!]) La7 [.zk 8 3 203 .sm],aed 48 [5,7] [2,3,4,6,8] (ť++[â,é]) La7,aed 49 [5,7] [2,3,4,6,8,79] (ť++[â,é,Z?]) La7]) qO
def ada:=afb [Ķ] [] [Ù] [] .leaf Bb
def Zf:=afb [Ķ,Ķ] [] [ć] [] .leaf yk
def Rj:aM Pg 216 RI:=mk _ _ an b9
def Oo:aM Pg 155 PW:=mk _ _ (ac Rj an) b9
def KU:aM Pg 154 Y7:=mk _ _ an b9
def abn:aM Pg 217 ad2:=mk _ _ an b9
def abm:aM Pg 156 ad1:=mk _ _ (ac KU (ac abn an)) b9
def vu:aM Pg 91 Y8:=mk _ _ (ac KU (ac Oo (ac abm an))) b9
def On:aM Pg 296 act:=mk _ _ an b9
def abf:aM Pg 263 acu:=mk _ _ (ac On an) b9
def XR:aM Pg 265 Y3:=mk _ _ (ac On an) b9
def abg:aM Pg 262 acv:=mk _ _ an b9
def Ri:aM Pg 328 RH:=mk _ _ an b9
def Ad:∀n:Nat,aM Pg 297 (Ma n)
 |0=>SK ru
 |n+1=>mk ru (rm (jH n)) (ac vu (ac (Ad n) (ac Ri an))) b9
def B6:aM Pg 297 Ms:=(Ad ii)
def abl:aM Pg 298 ad0:=mk _ _ an b9
def uD:∀n:Nat,aM Pg 266 (L' n)/\aM Pg 200 (JF n)
 |0=>⟨SK vT,SK pU⟩
 |n+1=>⟨mk vT (lZ (fP n) (dY n)) (ac vu (ac (uD n).2 (ac B6 (ac abl an)))) b9,mk pU (mM (fP n) (dY n)) (ac (uD n).1 an) b9⟩
def JW:aM Pg 200 Kh:=(uD ii).2
def Md:aM Pg 199 Mr:=mk _ _ (ac vu an) b9
def XT:aM Pg 132 Y6:=mk _ _ (ac vu (ac Md (ac JW an))) b9
def yp:aM Pg 92 ats:=mk _ _ an b9
def yo:aM Pg 201 Y5:=mk _ _ an b9
def yT:aM Pg 202 RG:=mk _ _ an b9
def XS:aM Pg 299 Y4:=mk _ _ (ac yp (ac yo (ac yT an))) b9
def S4:aM Pg 269 ajr:=mk _ _ (ac XS an) b9
def KX:∀n:Nat,aM Pg 300 (aav n)
 |0=>SK BB
 |n+1=>mk BB (Bo (pi n)) (ac (KX n) an) b9
def abj:aM Pg 300 acy:=(KX ii)
def KW:∀n:Nat,aM Pg 301 (aau n)
 |0=>SK BA
 |n+1=>mk BA (xC (ph n)) (ac S4 (ac (KW n) an)) b9
def abh:aM Pg 301 acw:=(KW ii)
def air:aM Pg 270 ajs:=mk _ _ (ac B6 (ac abj (ac abh an))) b9
def U8:aM Pg 271 VD:=mk _ _ an b9
def ass:aM Pg 268 atr:=mk _ _ an b9
def JV:aM Pg 267 Kg:=mk _ _ an b9
def Rg:aM Pg 203 RE:=mk _ _ (ac yp (ac yo (ac yT (ac JV (ac ass (ac S4 (ac air (ac U8 an)))))))) b9
def Do:∀n:Nat,aM Pg 136 (Ra n)
 |0=>SK uQ
 |n+1=>mk uQ (ol (j9 n)) (ac (Do n) (ac Rg an)) b9
def Rh:aM Pg 136 RF:=(Do ii)
def KY:∀n:Nat,aM Pg 135 (aaw n)
 |0=>SK BD
 |n+1=>mk BD (Bp (pj n)) (ac (KY n) an) b9
def abk:aM Pg 135 acz:=(KY ii)
def abi:aM Pg 133 acx:=mk _ _ (ac yo an) b9
def U7:aM Pg 134 VB:=mk _ _ (ac yp (ac yo (ac yT an))) b9
def Bm:aM Pg 69 VF:=mk _ _ (ac XT (ac abi (ac U7 (ac abk (ac Rh an))))) b9
def KV:∀n:Nat,aM Pg 138 (aat n)
 |0=>SK Bz
 |n+1=>mk Bz (Bn (rV n)) (ac (KV n) an) b9
def aba:aM Pg 138 acn:=(KV ii)
def KN:aM Pg 137 Y0:=mk _ _ an b9
def KQ:aM Pg 272 Y2:=mk _ _ an b9
def abe:aM Pg 70 acr:=mk _ _ (ac Bm (ac KN (ac aba an))) b9
def abb:aM Pg 90 aco:=mk _ _ an b9
def BZ:aM Pg 40 Mq:=mk _ _ (ac abb (ac vu (ac yp an))) b9
def xx:aM Pg 73 PU:=mk _ _ an b9
def KP:aM Pg 193 Y1:=mk _ _ an b9
def abc:aM Pg 127 acp:=mk _ _ (ac KP an) b9
def U5:aM Pg 128 atq:=mk _ _ an b9
def abd:aM Pg 192 acq:=mk _ _ (ac U5 an) b9
def U4:aM Pg 126 Vx:=mk _ _ (ac U5 (ac abd an)) b9
def JU:aM Pg 66 Kf:=mk _ _ (ac xx (ac U4 (ac abc (ac U5 an)))) b9
def Gm:aM Pg 30 acs:=mk _ _ (ac BZ (ac JU an)) b9
def pP:aM Pg 72 Vy:=mk _ _ an b9
def B8:∀n:Nat,aM Pg 208 (N5 n)
 |0=>SK tJ
 |n+1=>mk tJ (tw (kl n)) (ac pP (ac yp (ac (B8 n) (ac KQ an)))) b9
def xv:aM Pg 208 PQ:=(B8 ii)
def Mc:aM Pg 204 Mp:=mk _ _ (ac pP (ac yp (ac xv (ac KQ an)))) b9
def Rf:aM Pg 207 RD:=mk _ _ an b9
def lY:∀n:Nat,aM Pg 71 (N6 n)/\aM Pg 139 (Q_ n)/\aM Pg 205 (HI n)/\aM Pg 206 (L_ n)
 |0=>⟨SK tK,SK yZ,SK tL,SK vS⟩
 |n+1=>⟨mk tK (xB (ep n) (f_ n) (dy n) (d_ n)) (ac (lY n).2.1 an) b9,mk yZ (uN (ep n) (f_ n) (dy n) (d_ n)) (ac pP (ac yp (ac KN (ac Mc (ac (lY n).2.2.1 (ac (lY n).2.2.2 (ac Rf (ac xv an)))))))) b9,mk tL (oC (ep n) (f_ n) (dy n) (d_ n)) (ac (lY n).1 (ac pP (ac xv an))) b9,mk vS (vP (ep n) (f_ n) (dy n) (d_ n)) (ac (lY n).1 (ac pP an)) b9⟩
def Om:aM Pg 71 PR:=(lY ii).1
def U6:aM Pg 33 Vz:=mk _ _ (ac Bm (ac abe (ac Om (ac pP (ac xx an))))) b9
def Ol:aM Pg 160 aor:=mk _ _ an b9
def anp:aM Pg 218 aoq:=mk _ _ an b9
def Oj:aM Pg 163 acm:=mk _ _ (ac anp an) b9
def Re:aM Pg 264 RC:=mk _ _ an b9
def mL:aM Pg 197 ajq:=mk _ _ an b9
def aiq:aM Pg 198 ajp:=mk _ _ (ac xx (ac Oj (ac abf (ac Re (ac XR an))))) b9
def kV:aM Pg 131 YZ:=mk _ _ (ac KP (ac mL (ac aiq an))) b9
def Oi:aM Pg 68 ack:=mk _ _ an b9
def JS:aM Pg 157 ajn:=mk _ _ an b9
def ag7:aM Pg 158 atp:=mk _ _ an b9
def ab9:aM Pg 159 acj:=mk _ _ (ac ag7 an) b9
def HV:aM Pg 95 Vw:=mk _ _ (ac JS (ac ag7 (ac ab9 (ac Ol an)))) b9
def U3:aM Pg 161 Vv:=mk _ _ an b9
def U2:aM Pg 164 Vu:=mk _ _ an b9
def mK:aM Pg 162 ajo:=mk _ _ an b9
def Rd:aM Pg 161 RB:=mk om nZ an b9
def Oh:aM Pg 161 PP:= @aM.ro Pg 161 om.pre om.post.vs nZ mE (Rd.holds rfl) rfl (λx _ h=>by rw[show mE x=aw (nZ x) λy=>same y.2 x.2 (Z y.1) from rfl]at h;exact h)
def ly:aM Pg 98 acl:=mk _ _ (ac HV (ac Ol (ac Oh (ac mK (ac Oj (ac U2 an)))))) b9
def ab8:aM Pg 32 aci:=mk _ _ (ac Gm (ac Oi an)) b9
def aio:aM Pg 194 ajl:=mk _ _ (ac Gm (ac JS an)) b9
def aim:aM Pg 195 ajj:=mk _ _ an b9
def Xw:aM Pg 196 YE:=mk _ _ (ac abg an) b9
def j8:aM Pg 129 Vt:=mk _ _ (ac aio (ac aim (ac Xw an))) b9
def Og:aM Pg 41 acg:=mk _ _ (ac Oi an) b9
def ail:aM Pg 93 aji:=mk _ _ (ac JS an) b9
def asr:aM Pg 94 ato:=mk _ _ an b9
def U1:aM Pg 96 Vs:=mk _ _ an b9
def ab5:aM Pg 97 ace:=mk _ _ (ac Ol (ac U3 an)) b9
def S1:aM Pg 42 ajh:=mk _ _ (ac ail (ac asr (ac HV (ac U1 (ac ab5 (ac ly an)))))) b9
def ab6:aM Pg 43 acf:=mk _ _ an b9
def ab7:aM Pg 18 ach:=mk _ _ (ac BZ (ac Og (ac S1 (ac ab6 an)))) b9
def Si (t:TypeId):aj Ty:=if aB t 176 then Z (.pr .un gh) else b9 t
def XQ:aM Pg 130 YY:=mk _ _ (ac mK (ac mL an)) Si
def XG:aM Pg 67 YO:=mk _ _ (ac ly (ac j8 (ac XQ (ac kV an)))) Si
def XP:aM Pg 130 YX:=mk _ _ (ac mK (ac mL an)) Si
def XF:aM Pg 67 YN:=mk _ _ (ac ly (ac j8 (ac XP (ac kV an)))) Si
def XO:aM Pg 130 YW:=mk _ _ (ac mK (ac mL an)) Si
def XE:aM Pg 67 YM:=mk _ _ (ac ly (ac j8 (ac XO (ac kV an)))) Si
def XN:aM Pg 130 YV:=mk _ _ (ac mK (ac mL an)) Si
def XD:aM Pg 67 YL:=mk _ _ (ac ly (ac j8 (ac XN (ac kV an)))) Si
def XM:aM Pg 130 YU:=mk _ _ (ac mK (ac mL an)) Si
def XC:aM Pg 67 YK:=mk _ _ (ac ly (ac j8 (ac XM (ac kV an)))) Si
def XL:aM Pg 130 YT:=mk _ _ (ac mK (ac mL an)) Si
def XB:aM Pg 67 YJ:=mk _ _ (ac ly (ac j8 (ac XL (ac kV an)))) Si
def XK:aM Pg 130 YS:=mk _ _ (ac mK (ac mL an)) Si
def XA:aM Pg 67 YI:=mk dW r_ (ac ly (ac j8 (ac XK (ac kV an)))) Si
def XJ:aM Pg 130 YR:=mk _ _ (ac mK (ac mL an)) Si
def Xz:aM Pg 67 YH:=mk _ _ (ac ly (ac j8 (ac XJ (ac kV an)))) Si
def XI:aM Pg 130 YQ:=mk _ _ (ac mK (ac mL an)) Si
def Xy:aM Pg 67 YG:=mk _ _ (ac ly (ac j8 (ac XI (ac kV an)))) Si
def XH:aM Pg 130 YP:=mk _ _ (ac mK (ac mL an)) Si
def Xx:aM Pg 67 YF:=mk _ _ (ac ly (ac j8 (ac XH (ac kV an)))) Si
def aip:aM Pg 67 ajm:=(aM.orE (pre:=dW.pre) (post:=dW.post) (m:=r_) (m':=(λx=>orE (r9 x) ((λx=>orE (oZ x) ((λx=>orE (mW x) ((λx=>orE (mb x) ((λx=>orE (kS x) ((λx=>orE (kg x) ((λx=>orE (jE x) ((λx=>orE (iI x) (iJ x)) x)) x)) x)) x)) x)) x)) x))) rfl XA (aM.orE (pre:=dW.pre) (post:=dW.post) (m:=r9) (m':=(λx=>orE (oZ x) ((λx=>orE (mW x) ((λx=>orE (mb x) ((λx=>orE (kS x) ((λx=>orE (kg x) ((λx=>orE (jE x) ((λx=>orE (iI x) (iJ x)) x)) x)) x)) x)) x)) x))) rfl Xz (aM.orE (pre:=dW.pre) (post:=dW.post) (m:=oZ) (m':=(λx=>orE (mW x) ((λx=>orE (mb x) ((λx=>orE (kS x) ((λx=>orE (kg x) ((λx=>orE (jE x) ((λx=>orE (iI x) (iJ x)) x)) x)) x)) x)) x))) rfl Xy (aM.orE (pre:=dW.pre) (post:=dW.post) (m:=mW) (m':=(λx=>orE (mb x) ((λx=>orE (kS x) ((λx=>orE (kg x) ((λx=>orE (jE x) ((λx=>orE (iI x) (iJ x)) x)) x)) x)) x))) rfl Xx (aM.orE (pre:=dW.pre) (post:=dW.post) (m:=mb) (m':=(λx=>orE (kS x) ((λx=>orE (kg x) ((λx=>orE (jE x) ((λx=>orE (iI x) (iJ x)) x)) x)) x))) rfl XD (aM.orE (pre:=dW.pre) (post:=dW.post) (m:=kS) (m':=(λx=>orE (kg x) ((λx=>orE (jE x) ((λx=>orE (iI x) (iJ x)) x)) x))) rfl XC (aM.orE (pre:=dW.pre) (post:=dW.post) (m:=kg) (m':=(λx=>orE (jE x) ((λx=>orE (iI x) (iJ x)) x))) rfl XB (aM.orE (pre:=dW.pre) (post:=dW.post) (m:=jE) (m':=(λx=>orE (iI x) (iJ x))) rfl XF (aM.orE (pre:=dW.pre) (post:=dW.post) (m:=iI) (m':=iJ) rfl XE XG)))))))))
def ain:aM Pg 31 ajk:=mk _ _ (ac aip an) b9
def ano:aM Pg 11 aoo:=mk _ _ (ac Gm (ac ain (ac ab8 an))) b9
def rj:aM Pg 75 Mx:=mk _ _ an b9
def JY:aM Pg 78 ajv:=mk _ _ an b9
def Ox:aM Pg 211 ad9:=mk _ _ an b9
def H4:aM Pg 210 VS:=mk _ _ an b9
def H5:aM Pg 77 VU:=mk _ _ an b9
def XX:aM Pg 74 Ze:=mk _ _ an b9
def Ro:aM Pg 13 RQ:=mk _ _ an b9
def yr:∀n:Nat,aM Pg 209 (JH n)
 |0=>SK pV
 |n+1=>mk pV (pR (jV n)) (ac rj (ac JY (ac (yr n) (ac H4 (ac Ox an))))) b9
def JZ:aM Pg 209 Kk:=(yr ii)
def H3:aM Pg 212 IK:=mk _ _ (ac yp an) b9
def lz:∀n:Nat,aM Pg 76 (HJ n)/\aM Pg 140 (JG n)/\aM Pg 213 (HK n)
 |0=>⟨SK oI,SK uG,SK tM⟩
 |n+1=>⟨mk oI (oE (ec n) (fU n) (fd n)) (ac (lz n).2.1 an) b9,mk uG (pQ (ec n) (fU n) (fd n)) (ac rj (ac (lz n).1 (ac H5 (ac JY (ac JZ (ac H4 (ac Ox (ac H3 (ac (lz n).2.2 an))))))))) b9,mk tM (oF (ec n) (fU n) (fd n)) (ac rj (ac (lz n).1 an)) b9⟩
def H0:aM Pg 76 IJ:=(lz ii).1
def Rn:aM Pg 34 RO:=mk _ _ (ac Bm (ac XX (ac rj (ac H0 (ac H5 (ac JY an)))))) b9
def abp:aM Pg 12 ada:=mk _ _ (ac U6 (ac Rn an)) b9
def XY:aM Pg 5 Zf:=mk _ _ (ac ano (ac abp (ac Ro an))) b9
abbrev aAd:Y PV:=[å,ç,â,æ,Ć,ì,Ä,ð,Ĕ]
def Ş:Y PB:=(.G 122 aAd::ş)
abbrev Ld0:Y PB:=(Ş++[ë])
abbrev av3:Y PV:=(Š++[Ä,Ä])
def Ņ:PB:=.G 125 av3
abbrev aAf:Y PV:=ŕ
abbrev Ld1:Y PB:=(Ņ::.G 122 [â,æ,Ć,ì,ð,Ĕ,Ä,ĥ,Ī]::.G 30 aAf::ş)
abbrev Ld2:Y PB:=(Ş++[ë,Ņ])
abbrev Ld3:Y PB:=[.G 90 [ó,Ľ,Ľ,Ä,ê,Ä]]
abbrev Ld4:Y PB:=[ż,ë,.qf (.rr 44 1) 4,Ű,.qf (.ir 3 aO) 0]
abbrev Ld5:Y PB:=[ğ,Ð,Ø,.G 53 MC]
abbrev Ld6:Y PB:=[ğ,Ð,Ø]
abbrev Ld7:Y PB:=[Ŷ,.G 22 [â],aap,ã]
abbrev Ld8:Y PB:=[Ź,Ű,.G 319 [.d Kd7]]
abbrev Ld9:Y PB:=[Ŷ,.G 22 [æ],aap,.H 4 af .bool,ã]
abbrev aAg:Y PV:=(Ê::Ê::Ê::Ê::Ê::Ê::Z!::Ê::Z!::Ê::Ř)
def Ů:Y PB:=[ż,.G 140 aAg]
abbrev CQ:Y PV:=[Ä]
def ħ:PB:=.G 44 CQ
abbrev I2:Y PB:=[Õ]
abbrev av2:Y PB:=(ae4::Ũ)
abbrev akg:Y PB:=[Õ,Ž]
abbrev aEm:Y PB:=[ű,.G 53 [æ,Z!,Ć,ì],Ž,õ,ğ,Ð,Ø]
abbrev av1:Y PV:=(Ê::Z!::Ê::Ř)
def ŋ:PB:=.G 90 av1
abbrev av0:Y PV:=(ť++[Ł,Z!])
abbrev aAe:Y PB:=(ţ++[.H 98 J gW,Ű])
abbrev aqb:Y PB:=[Ŷ,Õ]
abbrev We:Y PB:=[ae4]
abbrev Wd:Y PB:=[ë]
abbrev aEl:Y PB:=[õ,FS,ğ,.H 4 af .bool,.H 167 af iH]
abbrev aqa:Y PB:=[ď,ã]
abbrev auz:Y PB:=[Ż,.H 43 J gW]
abbrev auy:Y PB:=ţ
abbrev aAc:Y PB:=[ã,.H 368 af (.int .u8)]
abbrev Wc:Y PV:=[ß,Z!]
abbrev auw:Y PV:=[Ã,Ì,ç,Z!]
abbrev aq9:Y PB:=[Á]
abbrev aAb:Y PV:=(ť++[Ö,Z!])
abbrev aEk:Y PV:=(Ŕ++[ì,ð,Ä,Ĕ,ĥ])
abbrev akf:Y PB:=[Ű]
abbrev aq8:Y PB:=[ã]
abbrev aAa:Y PB:=[Á,ë]
abbrev aq7:Y PV:=(Ĳ::ŗ)
abbrev ZJ:Y PV:=[Ę]
def Ĺ:PB:=.G 59 ZJ
def Ū:Y PB:=[.G 58 [Ò,Z!,í,č],.G 46 (Š++[Ä]),Ĺ,ħ,Ĵ]
abbrev aEi:Y PB:=[ż,ë,.qf (.rr 44 1) 3,.qf (.ir 3 aO) 0]
abbrev aEh:Y PB:=[.G 22 [ç],.G 162 [.qy 61 [(0,0)]],ã]
abbrev auv:Y PV:=[î,û,Z!]
abbrev aEg:Y PV:=(ť++[Ł,â,Z!])
abbrev aEf:Y PB:=(ţ++[.H 98 J gW])
def ak3:=afb R7 [] [Z!] [] (dT [aed 3 [0,1] [12] [Z?] []]) kY
def LM:=aeu [Ä,Ä] [] CQ [] (dT [aed 8 [0,1,14] [5,15] Wc Wd])
def Zp:cu:=cn LM m6
def IP:=afb CQ [] CQ [] .leaf UR
def azc:cu:=⟨IP.pre,IP.post,Bd⟩
def Pz:=aeu [Ĥ] [] [ß] aq9 (dT [aed 8 [9,10] [3,11] Wc aq9])
def adf:cu:=cn Pz jS
def D2:=afb CQ [] [ß] I2 (dT [(8,(.a [.nil 2 3 aO])),(12,(.a [.nil 2 3 aO]))]) NZ
def au3:cu:=⟨D2.pre,D2.post,ny⟩
def adg:=afb [.d Kd5] [] [.agg [ß,å,ç,â,æ,Ć,Ä,ì,ð]] ş .leaf xp
def ajx:=afb Wc aq9 CQ aq9 (dT [aed 3 [1] [0,12] [ß,Z?] aq9]) wR
def adi:=afb akh Ld1 [Ĥ] Ld1 (dT [aed 18 [6] [0,1,2,25] CS Ld1]) xr
def Tw:=aeu [Ò] [] [.d Kd5] [] (dT [aed 8 [40] [2,3,41] BL [.G 122 (Ê::Ê::Ê::Ř),.G 122 [ç,â,æ,Ć,ì,ð,Ê,Ĕ,ĥ],Á,Á,Á,Á,Á,Á,Á,ë]])
def ajz:cu:=cn Tw sh
def Zo:=afb R7 [] [ß] Wd (dT [aed 4 [0,1,5] [6] [Z?] [],aed 6 [0,1,6] [5] [Z!] [],aed 16 [] [7] [ß] Wd,aed 17 [1] [7,33] [ß,Z?] Wd]) vq
def Ap:=aeu [ß] Wd CQ Wd .leaf
def apc:cu:=cn Ap zZ
def au2:cu:=⟨Ap.pre,⟨Ap.post.vs,[]⟩,yl⟩
def EI:=aeu [Ä,ß] Wd CQ Wd (dT [aed 8 [0,14] [1,5,15] [ß,å,Z!] [ë,ë]])
def au0:cu:=cn EI wz
def azb:cu:=⟨EI.pre,⟨EI.post.vs,[]⟩,Gi⟩
def adc:=afb [ß,Z!,å] aAa [] aAa (dT [aed 0 [1] [0,2,13] [ß,å,Z?] aAa]) nk
def ap3:=afb [Ã,Z!,ĥ] Ld0 [] Ld0 .leaf zW
def Tv:=aeu [Ò,Ã,Í,ĥ] Ld0 [] Ld0 (dT [aed 6 [] [] [] Ld0,aed 11 [20] [1,3,4,6,32] [Ã,ĥ,.K 10 0,.K 11 0,Z?] (Ş++[ë,.G 30 aAf,Ņ]),aed 48 [] [1,3,6,129] [Ã,ĥ,.K 10 0,Z?] Ld2,aed 59 [141] [1,3,6,140,142] [Ã,ĥ,.K 10 0,Ĕ,Z!] Ld2,aed 67 [141,142] [1,3,6,140] [Ã,ĥ,.K 10 0,Ĕ] Ld2])
def ajy:cu:=cn Tv uy
def Yx:=aeu [Ò,.d Kd5,Í] [] [.d Kd5,ß] Wd (dT [aed 14 [22,23] [3,5,6,7,24] aAb (.G 30 aAf::Ņ::.G 122 [æ,Ć,ì,ð,Ĕ,ĥ,Ä,Ī,ā]::ħ::ş)])
def ap4:cu:=cn Yx vo
def Ak:=aeu [á] [] [Z?] [] (dT [aed 6 [0,5] [6] [Z!] []])
def Kd:cu:=cn Ak mD
def Fs:=aeu [á] [] [Z?] [] (dT [aed 3 [0] [16] [Z?] [],aed 14 [] [18] [Ã] [ľ],aed 24 [] [18] [Ã] [ľ],aed 25 [3,4] [18,23] iM [ľ],aed 29 [] [18,38] iM [ľ]])
def Rx:cu:=cn Fs qM
def PK:=aeu R7 [] [Z!] [] (dT [aed 6 [0,1,7] [8] [Z!] []])
def adr:cu:=cn PK kF
def RZ:=afb R7 [] [Z?] [] .leaf fZ
def RY:=afb [Ä,Þ] [] [Z?] [] .leaf qS
def adh:=afb [Í] [] [Z?] [] (dT [aed 2 [] [2] [Z?] []]) rT
def VV:=afb (ć::ŗ) [] [Z?] [] (dT [aed 5 [] [3,7,8,30] CS (Ż::Ũ),aed 13 [] [7,8,48] tP Ũ,aed 20 [] [6] [Z?] []]) s8
def Py:=aeu [č] [] ZJ [] (dT [ael 10 [11,12] [3,4,13] [.mp 0,å,Z!] [.mp aO aO,.H 82 af gW] [.mpt 3 aO aO]])
def ade:cu:=cn Py rR
def Mz:=afb CR [] [Z?] [] (dT [aed 2 [] [4] [Z?] []]) vK
def MA:=afb [Ò,Z!,Z?] [] [Z?] [] (dT [aed 2 [] [6] [Z?] []]) vL
def wj:=aeu [ø] [] [É,Z?] [] (dT [ael 8 [0] [4,5] Wc [Ó] [.nil 4 9 .str],aed 15 [0] [4,5] Wc [Ó],aed 37 [0,5] [4,6,49] [ß,Ì,Z?] [Ó,ŀ],aed 48 [0,5,51] [4,6,52] [ß,Ì,Z!] [Ó,ŀ]])
def Ff:cu:=cn wj je
def wh:=aeu [Ò,É] [] [Z?] [] (dT [aed 10 [17,18] [2,5,19] Kw akk,aed 27 [30,31] [2,5,32] Kw akk,ael 50 [52] [10,51,53] [.mp 0,å,Z!] [ü,Ó] [.mpt 10 .str .bool],ael 62 [12,52,53] [10,51,64] [.mp 0,å,Z?] [ü,Ó] [.mpt 10 .str .bool]])
def Fe:cu:=cn wh eK
def wg:=aeu [Ò] [] [Z?] [] (dT [aed 8 [8,9] [1,3,4,10] (Ã::Z!::ŗ) sI,aed 20 [3,4,8,9,10] [1,6,25] tP Ŭ,aed 27 [8,9,10] [1,3,4,6] [Ã,Z!,Z!,Ì] Ŭ])
def Fd:cu:=cn wg ig
def wq:=aeu [Ò] [] [Z?] [] (dT [aed 3 [] [1,34] iM sI,aed 11 [] [1,44] iM sI,aed 21 [] [1,58] iM sI,aed 32 [60,61] [1,62] wL sI])
def Fg:cu:=cn wq ji
def FE:=aeu [Ò] [] [ó] [] (dT [aed 8 [20] [2,3,21] BL aEl,aed 21 [] [2,3] [Ã,Ì] aEl])
def RM:cu:=cn FE qN
def yA:=aeu [Ò] [] [í] [] (dT [aed 8 [22,23] [2,3,24] BL [ĸ,.G 56 (Ŕ++[ç,â,æ]),.H 2 af aO,.H 2 af aO,ë]])
def IE:cu:=cn yA fX
def PZ:=afb CR [] [Z?] [] (dT [aed 2 [] [4] [Z?] []]) gp
def Mt:=afb (Ò::ŗ) [] [Z?] [] (dT [aed 6 [2,7] [3,8] iM sI,aed 36 [2,7] [3,18] iM sI,aed 46 [2,7] [3,26] iM sI,aed 53 [] [6] [Z?] [],aed 56 [2,7] [3,43] iM sI,aed 71 [] [6] [Z?] [],aed 74 [2,7] [3,61] iM sI,aed 92 [2,7] [3,71] iM sI,aed 102 [2] [3,79] iM sI]) kE
def Iu:=aeu [Ò,ó] [] [Z?] [] (dT [aed 3 [] [2,31] iM sI,aed 14 [33,34] [2,35] wL sI])
def VK:cu:=cn Iu j7
def RK:=afb (Ò::ó::Z!::ŗ) [] [Z?] [] (dT [aed 15 [] [10] [Z?] [],aed 21 [] [10] [Z?] [],aed 24 [2,4,11] [5,6,60] tP aea,aed 64 [2,4,11] [5,6,109] tP aea,aed 81 [] [10] [Z?] [],aed 87 [] [10] [Z?] []]) mf
def Mu:=afb (Ò::ó::Z!::ŗ) [] [Z?] [] (dT [aed 3 [2,3,4] [5,6,30] tP aea,aed 25 [] [10] [Z?] [],aed 29 [] [10] [Z?] []]) gq
def Kb:=afb [Ò,í] [] [Z?] [] (dT [aed 2 [] [4] [Z?] []]) mB
def Gw:=afb [Ò,Í] [] [Z?] [] (dT [aed 3 [] [2,3,12] tP [ű,Ű],aed 10 [] [4] [Z?] []]) nh
def tI:=aeu [Ò,í,Í] [] [Z?] [] (dT [aed 2 [] [4,5,7] tP ũ,aed 4 [] [4,5,8] akh Ld8,aed 10 [51] [4,5,8,52] GJ Ld8,aed 22 [10,51,52] [4,5,8,64] CS Ld8,aed 34 [51,52,65,66] [4,5,8,11,67] (ť++ŗ) Ld8,aed 46 [13,51,52,65,66,67] [4,5,8,83] CS Ld8])
def BG:cu:=cn tI gZ
def xH:=aeu [í,Í] [] [Z?] [] (dT [aed 21 [] [4] [Z?] [],aed 24 [13] [2,3,46] tP ũ,aed 43 [53,54] [3,5,6,55] [Ã,Z!,Z?,Z!] akf,aed 51 [53,54,55] [3,5,6] [Ã,Z!,Z?] akf,aed 54 [5,6,7,53,54,55] [3,69] iM akf,aed 62 [] [4] [Z?] [],aed 74 [94,95] [3,9,96] (Ã::ŗ) akf,aed 82 [94,95,96] [3,9] wL akf,aed 85 [9,94,95,96] [3,109] iM akf])
def Gv:cu:=cn xH iG
def RJ:=afb [.d iH,Z!] [] [Z?] [] (dT [aed 2 [] [4] [Z?] []]) og
def D3:=afb [ê] [] [ê] [] .leaf N0
def au4:cu:=⟨D3.pre,D3.post,HE⟩
def Av:=afb [ê] [] [ß] [Ð] (dT [(8,(.a [.nil 2 4 .bool])),(12,(.a [.nil 2 4 .bool]))]) JD
def apf:cu:=⟨Av.pre,Av.post,z_⟩
def DZ:=afb [Î] [] [Î] [] .leaf NY
def au1:cu:=⟨DZ.pre,DZ.post,HC⟩
def As:=afb [Î] [] [ß] [Ø] (dT [(8,(.a [.nil 2 167 iH])),(12,(.a [.nil 2 167 iH]))]) JA
def apb:cu:=⟨As.pre,As.post,NX⟩
def At:=afb CQ [] [ß] [À] (dT [(8,(.a [.nil 2 2 aO])),(12,(.a [.nil 2 2 aO]))]) JB
def apd:cu:=⟨At.pre,At.post,Dc⟩
def Au:=afb [Ľ] [] [ß] [ę] (dT [(8,(.a [.nil 2 154 BO])),(12,(.a [.nil 2 154 BO]))]) JC
def ape:cu:=⟨Au.pre,Au.post,Dd⟩
def FD:=aeu [ó] [] [Ġ] Ld6 (dT [aed 8 [11,12] [1,2,3,13] auw [Ÿ,õ,ğ]])
def RL:cu:=cn FD mg
def DK:=aeu (Ġ::ŗ) Ld6 [Z!] Ld6 (dT [aed 8 [1,2,12] [3,7,11,13] [Ö,Z!,ç,Z!] Ld5,aed 16 [1,2,12,13] [3,7,11] [Ö,Z!,ç] Ld5,aed 19 [1,2,7,8,12,13] [3,11,29] [Ö,ç,Z?] Ld5,aed 25 [7] [] [] Ld6])
def P0:cu:=cn DK lx
def yD:=aeu [Ġ,Z!] Ld6 [Z!] Ld6 (dT [aed 8 [1,10] [2,5,9,11] [Ö,Z!,ç,Z!] Ld5,aed 16 [1,10,11] [2,5,9] [Ö,Z!,ç] Ld5])
def II:cu:=cn yD iT
def Qb:=afb [Z!] [] [Z?] [] .leaf s9
def RW:=afb CR [] [Z?] [] (dT [aed 2 [] [4] [Z?] []]) yR
def Kj:=afb [ł] [] [Z!] [] .leaf uv
def P9:=afb [ł] [] [Z!] [] .leaf xn
def pZ:=aeu (ß::ŗ) I2 [] I2 (dT [aed 3 [1,2] [0,6] Wc I2,aed 15 [1,2,6] [0,7] Wc I2,aed 17 [1,2,6,7] [0,30] [ß,Z?] I2])
def xW:cu:=cn pZ ib
def v6:=aeu (ß::Z!::ŗ) I2 [] I2 (dT [aed 5 [] [0,1,2,3,8,9] [ß,Z!,Z!,Z!,Z?,Z?] I2])
def E_:cu:=cn v6 kK
def ak4:=afb [ß] I2 [] I2 .leaf zY
def ID:=aeu [ß] I2 [ß] I2 (dT [aed 14 [] [0,3] Wc I2])
def V3:cu:=cn ID nu
def Mv:=afb [Z!,Ã] [Ž] [Z?] [Ž] .leaf rh
def DQ:=aeu [ß,Ĝ] akg [Z!] akg (dT [aed 6 [7] [0,1,8] [ß,Ĝ,Z!] akg])
def Qc:cu:=cn DQ pa
def Cm:=aeu [ß,Ĝ] akg [ç] [ď,Ž,ë] (dT [aed 16 [] [0,1,5,6] (ß::Ĝ::ŗ) akg,aed 24 [6] [0,1,5] [ß,Ĝ,Z!] akg])
def MB:cu:=cn Cm kG
def pn:=aeu (Ò::ó::Z!::Z!::ŗ) [] [ó,Z!,Z?] [] (dT [aed 17 [] [7,12,15] BL [FS,õ,ğ,Ð,Ø],aed 26 [4,5,15,27] [6,7,8,12,42] CU aEm,aed 34 [4,5,15,27] [6,7,8,12,51] CU aEm])
def P4:cu:=cn pn iU
def P1:=afb [ó] [] [.agg [.qp 0 2 3,Z!,ê,Î]] [.G 165 [Z!,å,Z!,ç,Z!,â],Õ,Õ,Õ] (dT [ael 7 [] [1,2,3] [Ã,Ì,.qp 2 2 3] [Ÿ,õ,.G 165 [Z!,â,Z!,æ,Z!,Ć],Õ,Õ,Õ] [.zk 3 1 3 aO,.zk 3 3 3 aO,.zk 3 5 3 aO],(8,(.u 4))]) s5
def P3:=afb (Ò::ó::Z!::Z!::ŗ) [] [ó,Z!,Z?] [] (dT [aed 17 [] [7,12,15] BL [.G 53 [.qp 2 2 3,Z!,ê,Î],õ,.G 165 [.d dU,.d dU,Z!,â],.qg 3 aO],aed 26 [4,5,15,27] [6,7,8,12,42] CU (Ŧ++[.G 165 [Z!,Ć,Z!,ì,Z!,ð],Õ,Õ,Õ]),(33,(.s 4 0 0 0)),aed 34 [4,5,15,27] [6,7,8,12,51] CU (Ŧ++[.G 165 [Z!,Ä,Z!,Ä,Z!,Ć],Õ]),(41,(.s 4 0 0 0)),(46,(.s 4 0 0 3)),(53,(.s 4 0 0 3)),(74,(.s 4 0 0 0)),(80,(.s 4 0 0 0)),(100,(.a [.pk 7 0 dU]))]) mG
def RN:cu:=cn pn mh
def Kc:=afb [Ò,í,Í] [] [í,Z?] [] (dT [aed 3 [] [3,4,5,6,39] CU Qy,aed 11 [] [3,4,5,6,70] CU Qy,aed 20 [] [3,4,5,6,8] aAb Qy,aed 41 [] [5,6,12] akh aAp]) mC
def t8:=aeu [.nr 0 1,.d iP] [è] [Z?] [è] (dT [aed 6 [13] [0,14] [.nr 0 1,.d aO] [è],aed 20 [13,14,17,18] [0,19] [.nr 0 1,.d aO] [è],aed 31 [13,14,17,18,19] [0,37] [.nr 0 1,.d .bool] [è]])
def CG:cu:=cn t8 fH
def yB:=aeu [ć] [] CR [] (dT [aed 26 [27,28] [1,4,5,29] auw (Ţ++[.qf (.rr 50 1) 3,è]),aed 40 [6,27,28,29] [1,4,5,7,8,53] [Ã,Ì,ç,Ö,é,Z?] (Ţ++[.qf (.rr 50 1) 5,Ű,Ź,è]),ael 47 [27,28,29] [1,4,5,8] [Ã,Ì,ç,Ö] (Ţ++[.qf (.rr 50 1) 4,Ź,è]) [.tak 5 0]])
def IF:cu:=cn yB iS
def PH:=aeu [ć] [] [Ĥ,Z!] [] (dT [aed 20 [25,26] [1,6,7,27] auw [Ż,.G 122 [.d Kd5],Á]])
def adk:cu:=cn PH rU
def Tx:=aeu [ć] [] [Ę,Z!] [] (dT [ael 20 [4,6,23] [1,7,24] Kw auz [.nil 7 43 gW],aed 34 [4,6,8,23,24,27] [1,7,28] Kw auz,aed 42 [4,6,8,23,24,27,28] [1,7] [Ã,å] auz,aed 45 [4,6,8,9,23,24,27,28] [1,7,46] [Ã,å,Z?] auz])
def ak0:cu:=cn Tx uz
def acb:=afb [ć,Z!] [] [í] [] (dT [aed 8 [1] [2,4,5,6] GJ [Ż,ĸ,Ź]]) xc
def acd:=afb [ć,Z!] [] [.d (.sl CV),Z!] [] (dT [aed 13 [1] [2,22] iM [Ż],ael 26 [1] [2,8,9] Kw [Ż,.H 58 J CV] [.nil 8 58 CV]]) xd
def Mw:=afb [ó] [] [ó] [] (dT [ael 8 [16,17] [2,3,18] BL [õ,.G 53 [ç,Z!,ê,Î],Ü] [.zk 3 0 165 dU]]) nN
def VP:=afb CQ [] [Ľ] [] (dT [aed 8 [9,10] [3,11] Wc [.H 154 af BO]]) pI
def VQ:=afb [î] [] [û] [] .leaf s6
def Zd:=afb auv [] [Z!] [] (dT [aed 3 [2] [3,4,18] tP auy,aed 14 [2,20,21] [4,22] wL [Ŷ],aed 25 [2,7,20,21,22] [4,37] iM [Ŷ]]) mZ
def VR:=afb [î,û,Z!,Ä] [] [Z?] [] (dT [aed 11 [2,3] [4,5,35] tP auy,ael 26 [2,3,9,43,44] [5,10,45] Kw aqb [.nil 10 3 aO],aed 34 [2,3,9,43,44,45] [5,10] [Ã,å] aqb,aed 47 [9,59,60] [5,10,61] Kw aqb,aed 55 [9,59,60,61] [5,10] [Ã,å] aqb,aed 66 [9,59,60,61] [5,10,99] [Ã,å,Z?] aqb]) pJ
def P5:=afb auv [] [Z?] [] (dT [aed 14 [] [6] [Z?] []]) gM
def Zb:=afb [î,û] [] [Z?] [] (dT [aed 2 [] [4] [Z?] []]) vk
def Zc:=afb [î,û,Þ] [] [û,Z?] [] (dT [aed 3 [] [3,4,5,6,27] CU (ţ++[ŵ,ŋ]),aed 24 [8,11] [3,4,5,6,9,13] MD (ţ++[ŵ,ŋ,Ű,.G 90 aEk,ę,ę,Ð,Õ]),aed 30 [8,11] [4,6,9,13,14,15] MD [Ŷ,ŋ,Ű,.G 90 aEk,.G 154 [.d BO],.G 154 [.d BO],ę,ę,Ð,Õ],aed 39 [] [6,13] [Ã,Ì] [ŋ,.G 90 (Ŕ++[ç,â,Ä,æ,Ć]),ę,ę,Ð,Õ]]) vm
def VX:=afb [Í] [] [Z?] [] (dT [aed 2 [] [2] [Z?] []]) pN
def Zh:=afb [Z!] [] [Z?] [] (dT [aed 6 [] [4] [Z?] []]) C_
def RU:=afb [î] [] [Ĳ,Z?] [] (dT [aed 5 [] [1,2,4,24] CS (Ů++[.G 140 (ŕ++[Z!,Ú,Z!,ê,Î,Ä,Ä,Ä,č,Ê])]),ael 18 [30,31] [1,2,4,5,32] aAb (Ů++[.G 140 (ŕ++[Z!,Ú,Z!,ê,Î,Ä,Ä,Ä,č,æ]),Ÿ,.H 53 J AL]) [.zk 4 15 53 AL],aed 33 [30,31,32] [1,2,4,5,7,8] av6 (Ů++[.G 140 (ŕ++[Z!,Ú,Z!,ê,Î,Ä,Ä,Ä,č,Ć]),Ÿ,Ű,.H 53 J AL])]) qQ
def CK:=afb [Ĳ,Ä] [] [Z?] [] (dT [aed 6 [7,8] [2,9] wL We,aed 17 [7,8,9] [2,22] iM We]) fI
def Ar:=afb aq7 [] [Z?] [] (dT [aed 4 [] [6] [Z?] []]) fQ
def Fb:=afb aq7 [] [Z?] [] (dT [aed 3 [1,2] [3,26] iM We,aed 12 [] [6] [Z?] []]) kM
def CM:=afb aq7 [] [Z?] [] (dT [aed 5 [1] [3,7,8,34] CS av2,aed 17 [1] [3,8,9,10] [Ã,Ì,Z!,Z?] [ae4,Ű],aed 18 [1,9,10,38] [3,7,8,39] CS av2,aed 45 [] [6] [Z?] []]) oy
def DW:=afb [Ĳ,Ä] [] [Z?] [] (dT [aed 3 [1] [2,22] iM We,aed 14 [1,23,24] [2,25] wL We,aed 26 [1,5,6,23,24,25] [2,48] iM We,aed 36 [1,6,23,24,25,51,52] [2,53] wL We]) o9
def Fc:=afb aq7 [] [Z?] [] (dT [aed 3 [1,2] [3,21] iM We,aed 13 [1,2] [3,7,8,60] CS av2,aed 24 [1,67,68] [3,7,8,69] GJ av2,aed 51 [] [6] [Z?] []]) qC
def DX:=afb aq7 [] [Z?] [] (dT [aed 5 [1,2,7] [3,43] iM We,aed 16 [7,50,51] [52] [Z!] [],aed 27 [7,50,51,52] [64] [Z?] []]) o_
def CL:=afb [Ĳ,Ė] [] [Z?] [] (dT [aed 4 [] [4] [Z?] []]) ox
def DV:=afb [Ĳ,Ė] [] [Z?] [] (dT [aed 9 [] [4] [Z?] [],aed 15 [] [4] [Z?] [],aed 21 [] [4] [Z?] [],aed 27 [] [4] [Z?] []]) kj
def Zj:=afb [î,Ė] [] [Z?] [] (dT [aed 4 [] [4] [Z?] []]) sj
def adl:=afb auv [] [Z?] [] (dT [aed 2 [] [6] [Z?] []]) uA
def Zi:=afb auv [] [Z?] [] (dT [aed 2 [] [6] [Z?] []]) o8
def RR:=afb [î,û,Ė] [] [Z?] [] (dT [aed 9 [] [6] [Z?] [],aed 19 [31,32] [3,4,33] BL auy,aed 40 [31,32,33] [3,4,69] tP auy,aed 56 [] [6] [Z?] [],aed 64 [] [6] [Z?] []]) qP
def Zk:=afb [î,û,Ė] [] [Z?] [] (dT [aed 2 [] [6] [Z?] []]) sq
def uI:=afb [Z!] [] [Z?] [] .leaf hP
def vU:=afb [ß,ł,Z!,Z?,Z?] aq8 [å,á] aqa (dT [aed 3 [1,2,3,4,10,11] [0,28] [ß,Z?] aq8,aed 12 [2,3,4,10,11,13] [0,1,12] [ß,ł,Ì] aAc,aed 50 [3,4,10,11,17] [0,1,12,13] [ß,ł,Ì,Z!] aAc,aed 68 [4,10,11] [0,12,13] [ß,Ì,Z!] aAc,(82,(.a [.nil 10 5 (.int .u8)]))]) gu
def vV:=afb [ß,ł,Z!] aq8 [å] aqa (dT [(28,(.a [.nil 6 5 (.int .u8)]))]) iE
def wH:=afb (ß::ŗ) aq8 [å] aqa (dT [(1,(.a [.qz 0 0])),aed 4 [2] [0,7] [å,ł] aqa,(14,(.a [.nil 6 5 (.int .u8)]))]) iL
def Gx:=afb (ß::ŗ) aq8 [å] aqa (dT [(4,(.a [.nil 6 5 (.int .u8)]))]) lm
def RA:=afb [Z!,Ã] [.G 22 [å],ã] [] [.G 22 [ç],ď,ã] .leaf eJ
def Rz:=afb [Z?,Ã] [aap,.G 22 [ç],ã] [] [aap,.G 22 [â],ď,ã] .leaf ip
def YD:=afb [û,Ä] [] [á] [] (dT [(5,(.a [.zk 5 0 5 (.int .u8)])),aed 14 [1,31,32] [2,5,6,7,8,33] aEg Ld9,aed 31 [41,42] [2,5,6,7,8,43] aEg Ld9,aed 39 [41,42,43] [2,5,6,7,8] (ť++[Ł,â]) Ld9,aed 50 [75,76] [2,5,6,7,77] av0 Ld7,aed 68 [75,76,77,91,92] [2,5,6,7,93] av0 Ld7,aed 88 [109,110] [2,5,6,7,111] av0 Ld7,aed 105 [121,122] [2,5,6,7,123] av0 Ld7,aed 126 [144] [5,6,7,145] [Ã,Ì,.qy 63 [(1,0)],Z!] aEh,aed 140 [144,145,148,149] [5,6,7,150] [Ã,Ì,.qy 63 [(1,0)],Z!] aEh]) uZ
def Ke:=afb [Z!,Ã] Ld3 [Z?] Ld3 .leaf um
def Zq:=afb [Ä,Ń] Ld3 [Z!] Ld3 (dT [aed 6 [0,7] [1,8] [Ń,Z!] [Ŷ]]) Db
def Qd:=afb [Ä,Ń] Ld3 [Z?] Ld3 .leaf xt
def PN:=afb [û,Ė] [] [Z?] [] (dT [aed 13 [] [4] [Z?] [],aed 25 [] [4] [Z?] [],aed 31 [] [4] [Z?] []]) oX
def Mo:=afb [î,û] [] ZJ [] (dT [ael 8 [14] [2,3,5,15] auw aEf [.nil 5 98 gW],aed 16 [14,15] [2,3,5] [Ã,Ì,ç] aEf,aed 33 [6,14,15,33,34] [2,3,5,7,8,35] [Ã,Ì,ç,Ö,Z?,Z!] aAe,aed 41 [6,14,15,33,34,35] [2,3,5,7,8] [Ã,Ì,ç,Ö,Z?] aAe,aed 44 [6,8,9,14,15,33,34,35] [2,3,5,7,54] [Ã,Ì,ç,Ö,Z?] aAe]) nK
def IG:=afb [î] [] CQ [] (dT [aed 8 [17] [1,3,18] Kw [ż,ë],aed 27 [31,32] [1,3,5,33] [Ã,å,ç,Z!] aEi,ael 35 [31,32,33] [1,3,5] [Ã,å,ç] aEi [.tak 5 0],aed 39 [6,31,32,33] [1,3,5,7,56] [Ã,å,ç,Ö,Z?] Ld4,aed 48 [6,31,32,33,61] [1,3,5,7,62] [Ã,å,ç,Ö,Z!] Ld4,aed 62 [6,31,32,33,61,62,65,66] [1,3,5,7,67] [Ã,å,ç,Ö,Z!] Ld4,aed 70 [6,31,32,33,61,62,65,66,67] [1,3,5,7] [Ã,å,ç,Ö] Ld4,aed 75 [6,11,31,32,33,61,62,65,66,67] [1,3,5,7,91] [Ã,å,ç,Ö,Z?] Ld4]) ma
def PO:=afb [.d Z0,Þ,Ã,Ì,Û,Ö,é,ģ] (Ū++[.G 95 [ð],ü,Ĭ]) [Z?] (Ū++[.G 95 [Ĕ],ü,ď,Ĭ]) (dT [(1,(.a [.qz 7 0])),aed 12 [] [2,3,4,5,6,7,11,13] (ř++[ģ,.K 8 0,Ę]) (ŝ++[Ĺ,ħ,Ĵ,.G 95 [ĥ],ü,ď,Ŷ,Ĭ]),aed 32 [] [] [] (ŝ++[Ĺ,ħ,Ĵ,.G 95 [Ĕ],ü,ď,Ĭ])]) oY
def Vr:=afb [î,Ė] [] [Ę,Z?] [] (dT [aed 26 [] [2,3,6,8] (ť++[â]) (ŝ++[ħ,.qg 94 Z0]),(37,(.a [.zk 9 0 94 Z0])),(41,(.a [.mpt 35 .str .bool])),aed 46 [38] [2,3,6,9,10,12,37,39] (ř++[Ď,ì,Z!]) (ŝ++[ħ,.G 95 [ð],Ĺ,.G 96 [.mp 8],.qg 94 Z0,Ĭ,ü]),aed 60 [38,39,46,47] [2,3,6,9,10,12,14,37,48] (ř++[Ď,.K 6 0,ð,Z!]) (ŝ++[ħ,.G 95 [Ĕ],Ĺ,.G 96 [.mp 9],.G 94 [.d Z0],.qg 94 Z0,Ĭ,ü])]) sV
def J0:aM Pg 39 ak3:=mk _ _ an b9
def Xh x:nU (m6 x) (C7 x):=by
 unfold m6 C7 yt ck bO bT a8 cW aJ cH;with_reducible repeat' first|apply OI.o;constructor|intro _
def X2:aM Pg 87 Zp:=Gg LM m6 C7 Xh (ac J0 an) b9
def asu:aM Pg 55 IP:=mk _ _ an b9
def abx:aM Pg 55 azc:= @aM.sub Pg 55 IP.pre IP.post UR Bd asu rfl (λx y h=>sA (b:=8) x y h)
def aad x:nU (jS x) (F9 x):=by
 unfold jS F9 Br ck bO vI bT a8 cW aJ cH;with_reducible repeat' first|apply OI.o;constructor|intro _
def abs:aM Pg 151 adf:=Gg Pz jS F9 aad (ac abx an) b9
def anw:aM Pg 55 D2:=mk _ _ an b9
def M0:aM Pg 55 au3:= @aM.sub Pg 55 D2.pre D2.post NZ ny anw rfl (λx y h=>sA (b:=8) x y h)
def abt:aM Pg 84 adg:=mk _ _ (ac M0 (ac abs an)) b9
def ais:aM Pg 86 ajx:=mk _ _ an b9
def abv:aM Pg 85 adi:=mk _ _ (ac ais an) b9
def ai9 x:nU (sh x) (Jx x):=by
 unfold sh Jx EB bf bB bN cM gE qY xZ ck bO bT a8 cW aJ cH;with_reducible repeat' first|apply OI.o;constructor|intro _
def aiu:aM Pg 36 ajz:=Gg Tw sh Jx ai9 an b9
def X1:aM Pg 88 Zo:=mk _ _ an b9
def anv:aM Pg 55 apc:=mk Ap zZ an b9
def aga:aM Pg 55 au2:= @aM.ro Pg 55 Ap.pre Ap.post.vs zZ yl (anv.holds rfl) rfl (λx _ h=>by rw[show yl x=aw (zZ x) λy=>same y.2 x (Z y.1) from eZ (aw _) (funext λ_=>WP ..)]at h;exact h)
def as4 x:nU (wz x) (UP x):=by
 unfold wz UP M2 ck bO bT a8 cW aJ cH;with_reducible repeat' first|apply OI.o;constructor|intro _
def ast:aM Pg 87 au0:=Gg EI wz UP as4 (ac J0 an) b9
def ans:aM Pg 87 azb:= @aM.ro Pg 87 EI.pre EI.post.vs wz Gi (ast.holds rfl) rfl (λx _ h=>by rw[show Gi x=aw (wz x) λy=>same y.2 x.2 (Z y.1) from eZ (aw _) (funext λ_=>WP ..)]at h;exact h)
def abq:aM Pg 152 adc:=mk _ _ (ac ans an) b9
def anq:aM Pg 153 ap3:=mk _ _ (ac aga an) b9
def ai8 x:nU (uy x) (Jw x):=by
 unfold uy Jw EA I4 Prod.q Prod.p Prod.u Prod.r Prod.v Prod.w Prod.y bf bB bN cM gE qY Eb MJ Prod.s Prod.E Prod.z Prod.B dh sL Prod.o ck bp bO jO vI bT a8 cW aJ cH;with_reducible repeat' first|apply OI.o;constructor|intro _
def ait:aM Pg 89 ajy:=Gg Tv uy Jw ai8 (ac aga (ac ans (ac abq (ac anq an)))) b9
def amo x:nU (vo x) (NR x):=by
 unfold vo NR H6 I4 Prod.q bf bB bN cM gE qY Eb MJ Prod.t Prod.C dh iD xZ Prod.o ck bO vI bT a8 cW cH;with_reducible repeat' first|apply OI.o;constructor|intro _
def anr:aM Pg 37 ap4:=Gg Yx vo NR amo (ac abt (ac abv (ac X2 (ac X1 (ac ait an))))) b9
def Ju x:nU (mD x) (uk x):=by
 unfold mD uk uE I4 Prod.q Prod.p Prod.u Prod.r Prod.v Prod.w Prod.y Prod.G Prod.H bf Prod.I bB bN cM gE qY Eb MJ Prod.K bO bT cW aJ cH;with_reducible repeat' first|apply OI.o;constructor|intro _
def JO:aM Pg 273 Kd:=Gg Ak mD uk Ju an b9
def Q3 x:nU (qM x) (yM x):=by
 unfold qM yM yV bp bO jO a8 cW aJ;with_reducible repeat' first|apply OI.o;constructor|intro _
def Rb:aM Pg 214 Rx:=Gg Fs qM yM Q3 (ac JO an) b9
def aah x:nU (kF x) (Ga x):=by
 unfold kF Ga xD bp bO bM a8 cW aJ cH;with_reducible repeat' first|apply OI.o;constructor|intro _
def Gn:aM Pg 57 adr:=Gg PK kF Ga aah an b9
def oh:aM Pg 60 RZ:=mk _ _ (ac Gn an) b9
def Rs:aM Pg 17 RY:=mk _ _ (ac J0 an) b9
def abu:aM Pg 38 adh:=mk _ _ an b9
def Va:aM Pg 16 VV:=mk _ _ (ac abu an) b9
def aac x:nU (rR x) (F8 x):=by
 unfold rR F8 Bq ck bO bT bM a8 cW aJ cH;with_reducible repeat' first|apply OI.o;constructor|intro _
def abr:aM Pg 15 ade:=Gg Py rR F8 aac an b9
def Mg:aM Pg 215 Mz:=mk _ _ an b9
def Mh:aM Pg 143 MA:=mk _ _ (ac Mg an) b9
def EW x:nU (je x) (qu x):=by
 unfold je qu qF bf bB bN cM dD iD bp bO jP bT bM a8 cW aJ cH;with_reducible repeat' first|apply OI.o;constructor|intro _
def E7:aM Pg 141 Ff:=Gg wj je qu EW an b9
def EU x:nU (eK x) (qi x):=by
 unfold eK qi qE bf bB bN bO bT bM nI a8 cW aJ cH;with_reducible repeat' first|apply OI.o;constructor|intro _
def E6:aM Pg 142 Fe:=Gg wh eK qi EU (ac Rb an) b9
def ES x:nU (ig x) (qe x):=by
 unfold ig qe mz bf bB cM dh bO jP bM a8 cW aJ cH;with_reducible repeat' first|apply OI.o;constructor|intro _
def E5:aM Pg 144 Fd:=Gg wg ig qe ES an b9
def EX x:nU (ji x) (qA x):=by
 unfold ji qA qG bf bB cM dh bO bM a8 cW aJ cH;with_reducible repeat' first|apply OI.o;constructor|intro _
def E8:aM Pg 79 Fg:=Gg wq ji qA EX (ac E7 (ac E6 (ac Mh (ac E5 an)))) b9
def Q6 x:nU (qN x) (yO x):=by
 unfold qN yO yW bf bB bN cg dD dh ck bO bT a8 cW aJ cH;with_reducible repeat' first|apply OI.o;constructor|intro _
def Rm:aM Pg 145 RM:=Gg FE qN yO Q6 an b9
def Ht x:nU (fX x) (sS x):=by
 unfold fX sS tu bf bB bN dD bO bT bM a8 cW aJ cH;with_reducible repeat' first|apply OI.o;constructor|intro _
def HP:aM Pg 80 IE:=Gg yA fX sS Ht (ac Rm an) b9
def xy:aM Pg 168 PZ:=mk _ _ an b9
def Me:aM Pg 169 Mt:=mk _ _ (ac xy an) b9
def UI x:nU (j7 x) (AZ x):=by
 unfold j7 AZ tC bf bB bN dD bO jP bM a8 cW aJ cH;with_reducible repeat' first|apply OI.o;constructor|intro _
def HY:aM Pg 167 VK:=Gg Iu j7 AZ UI (ac xy an) b9
def Rk:aM Pg 170 RK:=mk _ _ (ac oh an) b9
def ri:aM Pg 108 Mu:=mk _ _ (ac HY (ac xy (ac Me (ac Rk an)))) b9
def JM:aM Pg 146 Kb:=mk _ _ (ac HY an) b9
def Gk:aM Pg 147 Gw:=mk _ _ an b9
def AY x:nU (gZ x) (ne x):=by
 unfold gZ ne nE bf bB bN cM cg dD iD bp bO jO bT bM a8 cW aJ cH;with_reducible repeat' first|apply OI.o;constructor|intro _
def Bl:aM Pg 148 BG:=Gg tI gZ ne AY an b9
def F5 x:nU (iG x) (rF x):=by
 unfold iG rF nC bf bB bN cM cg bp bO bM a8 cW aJ cH;with_reducible repeat' first|apply OI.o;constructor|intro _
def Gj:aM Pg 149 Gv:=Gg xH iG rF F5 an b9
def Fp:aM Pg 173 RJ:=mk _ _ an b9
def ao0:aM Pg 54 D3:=mk _ _ an b9
def agb:aM Pg 54 au4:= @aM.sub Pg 54 D3.pre D3.post N0 HE ao0 rfl (λx y h=>sA (b:=1) x y h)
def aj1:aM Pg 54 Av:=mk _ _ an b9
def X4:aM Pg 54 apf:= @aM.sub Pg 54 Av.pre Av.post JD z_ aj1 rfl (λx y h=>sA (b:=1) x y h)
def anu:aM Pg 105 DZ:=mk _ _ an b9
def ag9:aM Pg 105 au1:= @aM.sub Pg 105 DZ.pre DZ.post NY HC anu rfl (λx y h=>sA (b:=24) x y h)
def aiy:aM Pg 105 As:=mk _ _ an b9
def ant:aM Pg 105 apb:= @aM.sub Pg 105 As.pre As.post JA NX aiy rfl (λx y h=>sA (b:=24) x y h)
def aiz:aM Pg 150 At:=mk _ _ an b9
def anx:aM Pg 150 apd:= @aM.sub Pg 150 At.pre At.post JB Dc aiz rfl (λx y h=>sA (b:=8) x y h)
def aj0:aM Pg 53 Au:=mk _ _ an b9
def anz:aM Pg 53 ape:= @aM.sub Pg 53 Au.pre Au.post JC Dd aj0 rfl (λx y h=>sA (b:=16) x y h)
def Q5 x:nU (mg x) (yN x):=by
 unfold mg yN uO bf cg ck bO bT bM a8 cW cH;with_reducible repeat' first|apply OI.o;constructor|intro _
def Rl:aM Pg 109 RL:=Gg FD mg yN Q5 (ac X4 (ac abx (ac ant an))) b9
def NJ x:nU (lx x) (w9 x):=by
 unfold lx w9 tB bf bB cg ck bO jO nI a8 cW aJ cH;with_reducible repeat' first|apply OI.o;constructor|intro _
def Oq:aM Pg 114 P0:=Gg DK lx w9 NJ (ac Fp an) b9
def Hy x:nU (iT x) (sU x):=by
 unfold iT sU oD bf bB cg dD ck bO nI a8 cW aJ cH;with_reducible repeat' first|apply OI.o;constructor|intro _
def HX:aM Pg 115 II:=Gg yD iT sU Hy (ac Fp an) b9
def Oz:aM Pg 279 Qb:=mk _ _ an b9
def Rr:aM Pg 227 RW:=mk _ _ (ac Oz an) b9
def JX:aM Pg 231 Kj:=mk _ _ an b9
def Ow:aM Pg 172 P9:=mk _ _ (ac JX an) b9
def xT x:nU (ib x) (lU x):=by
 unfold ib lU lV ck bO nI cW aJ cH;with_reducible repeat' first|apply OI.o;constructor|intro _
def xU:aM Pg 221 xW:=Gg pZ ib lU xT (ac Rr an) b9
def ER x:nU (kK x) (p_ x):=by
 unfold kK p_ qD bf bB bp jO bT aJ;with_reducible repeat' first|apply OI.o;constructor|intro _
def EZ:aM Pg 171 E_:=Gg v6 kK p_ ER (ac xU an) b9
def aiw:aM Pg 110 ak4:=mk _ _ (ac EZ (ac Ow an)) b9
def UN x:nU (nu x) (Ba x):=by
 unfold nu Ba Bv bp bO bT nI a8 cW aJ cH;with_reducible repeat' first|apply OI.o;constructor|intro _
def Vc:aM Pg 111 V3:=Gg ID nu Ba UN an b9
def B7:aM Pg 113 Mv:=mk _ _ an b9
def NP x:nU (pa x) (w_ x):=by
 unfold pa w_ xE bO nI a8 cW aJ cH;with_reducible repeat' first|apply OI.o;constructor|intro _
def OA:aM Pg 116 Qc:=Gg DQ pa w_ NP (ac B7 an) b9
def L6 x:nU (kG x) (vJ x):=by
 unfold kG vJ vR ck bp bO bT nI a8 cW aJ cH;with_reducible repeat' first|apply OI.o;constructor|intro _
def Mi:aM Pg 112 MB:=Gg Cm kG vJ L6 (ac B7 (ac OA an)) b9
def Ov:aM Pg 52 P4:=mk pn iU (ac ri (ac Rl (ac Oq (ac HX an)))) b9
def tv1 (t:TypeId):aj Ty:=if aB t 165 then Z (.pr .un (.pr .un (.pr .un (.pr .un dU)))) else b9 t
def Ot:aM Pg 109 P1:=mk _ _ (ac agb (ac M0 (ac ag9 an))) tv1
def Ou:aM Pg 52 P3:=mk _ _ (ac ri (ac Ot (ac aiw (ac Vc (ac Mi an))))) tv1
def yU:aM Pg 52 RN:=(aM.orE (pre:=pn.pre) (post:=pn.post) (m:=iU) (m':=mG) rfl Ov Ou)
def JN:aM Pg 81 Kc:=mk _ _ (ac yU (ac M0 (ac ri (ac JM (ac Gk (ac Bl (ac Gj (ac anx an)))))))) b9
def Cv x:nU (fH x) (ov x):=by
 unfold fH ov lG gE sL bO jO vI bT bM a8 cW aJ cH;with_reducible repeat' first|apply OI.o;constructor|intro _
def Cx:aM Pg 82 CG:=Gg t8 fH ov Cv an b9
def tv2 (t:TypeId):aj Ty:=if aB t 50 then Z (.pr .bool (.pr (.st (.st (.st (.st .un)))) pu)) else b9 t
def Hu x:nU (iS x) (sT x):=by
 unfold iS sT oB bf bB bN cM dD iD ck bp bO vI bT bM a8 cW aJ cH;with_reducible repeat' first|apply OI.o;constructor|intro _
def HQ:aM Pg 35 IF:=Gg yB iS sT Hu (ac E8 (ac HP (ac JN (ac2 3932225618 rfl Cx an)))) tv2
def aae x:nU (rU x) (F_ x):=by
 unfold rU F_ Bs bf cg ck bO jP bT bM a8 cW aJ cH;with_reducible repeat' first|apply OI.o;constructor|intro _
def abw:aM Pg 14 adk:=Gg PH rU F_ aae (ac HQ (ac aiu (ac anr an))) b9
def aia x:nU (uz x) (Jy x):=by
 unfold uz Jy EC bO jP bT bM a8 cW aJ cH;with_reducible repeat' first|apply OI.o;constructor|intro _
def aiv:aM Pg 6 ak0:=Gg Tx uz Jy aia (ac abw (ac abr (ac Va (ac Rs an)))) b9
def ab3:aM Pg 19 acb:=mk _ _ (ac Og (ac S1 an)) b9
def ab4:aM Pg 7 acd:=mk _ _ (ac ab7 (ac ab3 an)) b9
def Mf:aM Pg 46 Mw:=mk _ _ (ac agb (ac abx (ac ag9 an))) b9
def U_:aM Pg 47 VP:=mk _ _ an b9
def U':aM Pg 22 VQ:=mk _ _ (ac Mf (ac U_ an)) b9
def yq:aM Pg 51 Zd:=mk _ _ (ac oh an) b9
def HZ:aM Pg 56 VR:=mk _ _ an b9
def xA:aM Pg 50 P5:=mk _ _ (ac yq (ac HZ (ac ri an))) b9
def XV:aM Pg 49 Zb:=mk _ _ an b9
def XW:aM Pg 25 Zc:=mk _ _ (ac XV (ac xA (ac yq (ac yU (ac anz (ac X4 (ac M0 (ac HZ an)))))))) b9
def Vb:aM Pg 219 VX:=mk _ _ an b9
def XZ:aM Pg 220 Zh:=mk _ _ an b9
def Rq:aM Pg 44 RU:=mk _ _ (ac yU an) b9
def lE:aM Pg 102 CK:=mk _ _ an b9
def sr:aM Pg 165 Ar:=mk _ _ (ac Vb an) b9
def E3:aM Pg 99 Fb:=mk _ _ (ac lE (ac sr an)) b9
def CA:aM Pg 166 CM:=mk _ _ (ac oh (ac XZ an)) b9
def Ds:aM Pg 100 DW:=mk _ _ (ac lE (ac CA an)) b9
def E4:aM Pg 101 Fc:=mk _ _ (ac lE an) b9
def Dt:aM Pg 103 DX:=mk _ _ an b9
def Cz:aM Pg 104 CL:=mk _ _ (ac sr an) b9
def Dp:aM Pg 45 DV:=mk _ _ (ac E3 (ac Ds (ac E4 (ac lE (ac Dt (ac Cz an)))))) b9
def KZ:aM Pg 20 Zj:=mk _ _ (ac Rq (ac Dp an)) b9
def Oy:aM Pg 107 adl:=mk _ _ (ac yq an) b9
def X0:aM Pg 106 Zi:=mk _ _ (ac xA (ac Oy an)) b9
def Rp:aM Pg 48 RR:=mk _ _ (ac Gn (ac oh (ac X0 (ac Oy an)))) b9
def K0:aM Pg 23 Zk:=mk _ _ (ac KZ (ac Rp an)) b9
def uC:aM Pg 282 uI:=mk _ _ an b9
def vN:aM Pg 235 vU:=mk _ _ (ac uC an) b9
def vO:aM Pg 174 vV:=mk _ _ (ac vN an) b9
def wD:aM Pg 117 wH:=mk _ _ (ac vO an) b9
def Gl:aM Pg 62 Gx:=mk _ _ (ac wD an) b9
def Fo:aM Pg 61 RA:=mk _ _ (ac Gl an) b9
def Rc:aM Pg 63 Rz:=mk _ _ (ac Fo an) b9
def Xv:aM Pg 27 YD:=mk _ _ (ac Fo (ac Rc an)) b9
def JP:aM Pg 59 Ke:=mk _ _ (ac oh an) b9
def X3:aM Pg 116 Zq:=mk _ _ (ac JP an) b9
def OC:aM Pg 58 Qd:=mk _ _ (ac2 3932276 rfl X3 an) b9
def Oe:aM Pg 26 PN:=mk _ _ (ac Gn (ac OC (ac oh an))) b9
def Mb:aM Pg 28 Mo:=mk _ _ (ac xA (ac yq an)) b9
def tv3 (t:TypeId):aj Ty:=if aB t 44 then Z (.pr .bool (.pr (.st (.st (.st .un))) (.sl aO))) else b9 t
def HR:aM Pg 21 IG:=mk _ _ an tv3
def Of:aM Pg 24 PO:=mk _ _ (ac K0 (ac XW (ac Oe (ac Xv an)))) b9
def UZ:aM Pg 9 Vr:=mk _ _ (ac KZ (ac HR (ac U' (ac K0 (ac Of (ac Mb an)))))) b9
def CH:=afb [î,Þ] [] [Ė,Z?] [] (dT [aed 4 [] [4,5] iM [.G 46 (Š++[Ê])]]) jI
def ac9:cu:=⟨⟨[],[]⟩,⟨[Z?],[]⟩,xa⟩
def Fa:=afb [Ķ,Ķ] [] [Z?] [] (dT [aed 2 [] [4] [Z?] []]) kL
def sG:=afb [Ķ,Ķ,ĳ] [] [Z?] [] (dT [aed 17 [8,10] [43] [Z?] [],aed 28 [8,10] [12] [Z!] [],aed 30 [8,10,12] [59] [Z?] [],aed 40 [8,10,12] [13] [Z!] [],aed 48 [8,10,12,13] [] [] []]) eO
open Go.Shelf
def rnI:Ren:=⟨λk=>if aB k 217 then 284 else 305,λt=>t,λg=>g⟩
def afv:Lays.n217 Pg rnI:=⟨by kernel_rfl,by kernel_rfl,by kernel_rfl,by kernel_rfl,Tryz.isAgg3,Tryz.sizeOf3,Tryz.zeroValue3,by kernel_rfl,Tryz.isAgg5,Tryz.sizeOf5,Tryz.zeroValue5,by kernel_rfl,Tryz.isAgg9,Tryz.sizeOf9,Tryz.zeroValue9⟩
def IX:xM:=λf args h nx=>match aB f 284 with
 |true=>(match args with
  |[.f (.raw (.string s)),.f (.raw (.int .u8 c))]=>Z ⟨raw (.int .i64 (Lib.indexByte s.data.toList c.toNat.toUInt8)),h,nx,0⟩
  |_=>U)
 |false=>U
def aFq:BS Pg IX:=λf args h nx r q=>by
 unfold IX at q;split at q;rename_i hf;have hf:=au hf;subst hf;split at q;rename_i s c;cases q;refine ⟨⟨_,afv.f217,rfl,by kernel_rfl⟩,λ_ _=>rfl,λi hi=>by simp at hi,bg _,λφ E w vs hrep hrel _=>?_⟩
 match vs,hrel with
 |[u,v],⟨h1,h2,_⟩=>
  rw[dX h1,dX h2];refine (Any.stringslite_IndexByte afv s c w).mono ?_;rintro e w' ⟨rfl,rfl⟩;exact⟨_,φ,rfl,iX.refl _ _ _,hrep,.f (.raw _),λ_ _ h=>.inl h⟩
 cases q;cases q
def awk:am3 (Cn Pg) IX inert 1000 50 10 [] PT.leaf 0=Z ⟨raw (.bool J),.leaf,0,0⟩:=by kernel_rfl
def ab2:aM Pg 10 ac9:=(U9 (T:=.bool) (v:=J) (F3 ayp (λ_ _ h=>PY h) aFq Oc _ _ _ _ _ _ awk) xa (λ_ y h=>by cases h;rfl)).toC rfl
def Cy:aM Pg 8 CH:=mk _ _ an b9
def E0:aM Pg 4 Fa:=mk _ _ an b9
def hinterleavetop_FirstRacePredicted:aM Pg 3 sG:=mk _ _ (ac E0 (ac XY (ac aiv (ac ab4 (ac Cy (ac UZ (ac ab2 an))))))) b9
end
end Go.Proofs.YtononplakadipaaGreatDoor.AI
