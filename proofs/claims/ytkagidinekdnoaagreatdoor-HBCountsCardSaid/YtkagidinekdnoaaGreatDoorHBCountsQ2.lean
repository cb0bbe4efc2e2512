/-
  Texts of the proof, part 3 of 5: what is used to prove the statement. No condition.
-/
import Derived.Test.YtkagidinekdnoaaGreatDoorHBCountsQ1
import Derived.KernelRfl
import Derived.WalkSpells
import Derived.Laws.CopyRow
import Derived.Deep.AppendSrc
import Derived.Laws.AppendOwn
namespace Go.Proofs.YtkagidinekdnoaaGreatDoor.AI
open Go.RowKit
set_option maxRecDepth 100000
set_option maxHeartbeats 4000000
set_option linter.unusedVariables false
set_option linter.unusedSimpArgs false
open _root_.Array renaming range→xp
open _root_.Bool renaming true→ah,false→ai
open Call renaming operands→eH
open _root_.Int renaming ofNat_eq_natCast→ar,ofNat→aN,toNat→aR,reduceEq→aW,reduceNeg→bi,toNat_natCast→fh,tmod→p_
open IntKind renaming wrap→oo
open _root_.List renaming length→ak,replicate→aE,length_cons→bU,take→dF,range→eg,cons_append→fZ,length_singleton→gg,length_nil→jF,nil_append→ll,foldl_cons→Ea
open _root_.Nat renaming beq→aA,add_zero→db
open Oper renaming wp→F0
open _root_.Option renaming some→aa,none→af,bind_some→aF,map_some→b8,getD_some→tO
open _root_.Prod renaming p2→aV,p3→bk,p4→bt,q3→bI,p5→ct,q5→cQ,q4→di,p6→eo,q6→eU,p7→kc,q7→l7,q8→pj,p8→yD
open Result renaming andThen_ok→cD
open Sem renaming run_bind→em,run→mV,run_pure→ol
open _root_.Sum renaming inr→bZ
open World renaming shape?→qM,cell?→LV
noncomputable section
theorem WU {n:Nat} (hn:n+1<=100000) (c:CT) (L:List ET) (s:ST) (t u:Int) (hc:CB c) (hs:SV n L s) (Z:JC c L s):Ok (yK (c,s,t,u)) (SQ n c L):=by
 unfold yK;have I:=WL hn c L s t u hc hs Z;have J:=WJ hn c L s t u hc hs Z;have M:=WI hn c L s t u hc hs Z;have U:=WH hn c L s t u hc hs Z;have Y:=WO hn c L s t u hc hs Z;have a31:=WN hn c L s t u hc hs Z;have a32:=WM hn c L s t u hc hs Z;have a20:=WR hn c L s t u hc hs Z;have a21:=WP hn c L s t u hc hs Z;have a10:=WS hn c L s t u hc hs Z;by_cases hz:s.2.2.2.length<=4/\0<=t/\t<(s.2.2.2.length:Int)
 .obtain⟨h1,h2,h3⟩:=hz;have:(s.2.2.2.length=4/\t=0)\/(s.2.2.2.length=4/\t=1)\/(s.2.2.2.length=4/\t=2)\/(s.2.2.2.length=4/\t=3)\/(s.2.2.2.length=3/\t=0)\/(s.2.2.2.length=3/\t=1)\/(s.2.2.2.length=3/\t=2)\/(s.2.2.2.length=2/\t=0)\/(s.2.2.2.length=2/\t=1)\/(s.2.2.2.length=1/\t=0):=by omega
  rcases this with h|h|h|h|h|h|h|h|h|h
  .exact (I.2 h.1 h.2).orL
  .exact I.1.orR (J.2 h.1 h.2).orL
  .exact I.1.orR (J.1.orR (M.2 h.1 h.2).orL)
  .exact I.1.orR (J.1.orR (M.1.orR (U.2 h.1 h.2).orL))
  .exact I.1.orR (J.1.orR (M.1.orR (U.1.orR (Y.2 h.1 h.2).orL)))
  .exact I.1.orR (J.1.orR (M.1.orR (U.1.orR (Y.1.orR (a31.2 h.1 h.2).orL))))
  .exact I.1.orR (J.1.orR (M.1.orR (U.1.orR (Y.1.orR (a31.1.orR (a32.2 h.1 h.2).orL)))))
  .exact I.1.orR (J.1.orR (M.1.orR (U.1.orR (Y.1.orR (a31.1.orR (a32.1.orR (a20.2 h.1 h.2).orL))))))
  .exact I.1.orR (J.1.orR (M.1.orR (U.1.orR (Y.1.orR (a31.1.orR (a32.1.orR (a20.1.orR (a21.2 h.1 h.2).orL)))))))
  .exact I.1.orR (J.1.orR (M.1.orR (U.1.orR (Y.1.orR (a31.1.orR (a32.1.orR (a20.1.orR (a21.1.orR (a10.2 h.1 h.2)))))))))
 .refine Ok.orL ?_;unfold mq aV bk di;refine Gx hn hc hs Z (λo=>Ok o (SQ n c L)) (λy h=>al h) _ λe v sy hp _ _ _ _ _=>(hz ?_).elim
  have h1:s.2.2.2.length=c.2.length:=hp.fs.th;have h2:c.2.length=c.1.2.2.2.2.1.length:=hp.fs.vc.tl;have h3:c.1.2.2.2.2.1.length<=4:=hp.fs.vc.vl.t;have h4:0<=t:=hp.t0;have h5:t<(c.2.length:Int):=hp.t1;exact⟨by omega,h4,by omega⟩
theorem aaw (c:CT) (s:ST) (l:List (Int×Int)) (hc:CB c) (hs:SV 0 [] s) (hI:JC c [] s) (hl:l.length<=9223372036854775806):Ok (uW (c,s,l)) λy=>y.1.length<=400/\(∀ e∈y.1,EvF c.1 e/\Xf e)/\∃ sy ce fu,Z0 c.1 y.1 sy ce fu:=by
 unfold uW aV bk di bu bA bF aU cK aD cw;refine pn (λx=>((l.length:Int)-x.1).toNat) (λx=>0<=x.1/\x.2.2.1=c/\SV x.2.1.length x.2.1 x.2.2.2.1/\JC c x.2.1 x.2.2.2.1/\x.2.1.length<=400/\∀ e∈x.2.1,EvF c.1 e/\Xf e) ?_ ⟨eD _,rfl,hs,hI,by simp,λe he=>(by cases he)⟩;rintro⟨(i:Int),es,c',s',z⟩ ⟨U,e1,e2,eI,e3,I⟩;dsimp only at U e1 e2 eI e3 I;subst e1;refine aX (λx=>x.2=(es,c',s',z)/\(x.1=ah->i<(l.length:Int)/\es.length<400)) ?_ ?_
 .refine bB (λg=>al ⟨rfl,λh=>⟨g,?_⟩⟩) λ_=>al ⟨rfl,λh=>(by cases h)⟩
  dsimp only at h;rw[sd] at h;dsimp only[ar] at h;omega
 rintro⟨b,x⟩ ⟨Z,Y⟩;dsimp only at Z Y;subst Z;refine aO (λh=>?_) λ_=>al ⟨e3,I,_,_,_,eI.ac⟩
 obtain⟨g1,g2⟩:=Y h;refine aX (λx=>x.2.1=c'/\SV x.1.length x.1 x.2.2.1/\JC c' x.1 x.2.2.1/\x.1.length<=400/\∀ e∈x.1,EvF c'.1 e/\Xf e) ?_ ?_
 .refine aQ U g1 (aS ?_);refine aw (WU (n:=es.length) (by omega) c' es s' _ _ hc e2 eI) λy hy=>?_
  refine aO (λh=>?_) λ_=>al ⟨rfl,e2,eI,e3,I⟩
  obtain⟨h1,hJ,h2,h3⟩:=hy h;refine bg (by simp;omega) (by omega) (al ⟨rfl,?_,hJ,by simp;omega,λe he=>?_⟩)
  .dsimp only;rw[bn,gg];exact h1
  .rcases bR.1 he with he|he
   .exact I e he
   .rw[aK] at he;subst he;exact⟨h2,h3⟩
 rintro⟨es',c2,s2,z2⟩ ⟨k1,k2,kI,M,J⟩;dsimp only at k1 k2 kI M J;subst k1;refine al ?_;dsimp only;rw[gU (n:=i+1) (by omega) (by omega)];exact⟨⟨by omega,rfl,k2,kI,M,J⟩,by omega⟩
theorem CB.vc {c:CT} (hc:CB c):VC c:=by
 obtain⟨b,h1,h2⟩:=QQ c hc.th hc.ins;rw[hc.ok] at h1;cases h1;exact h2 rfl
theorem af8 (c:CT) (l:List (Int×Int)) (hc:CB c) (hl:l.length<=9223372036854775806):Ok (xI (c,l)) λy=>TR y.1:=by
 unfold xI;refine aT hc.ok (dY (λh=>(by cases h)) λ_=>?_);have hv:=hc.vc;refine aw (TY c hc.ok hv) λs hs=>?_
 refine aw (aaw c s l hc hs.1 hs.2 hl) λy I=>al ?_
 exact⟨hv.vl.wb,hv.vl,λe he=>(I.2.1 e he).1,by have:=I.1;dsimp only;omega,λe he=>(I.2.1 e he).2,hc.wx,I.2.2⟩
theorem T7 (l:List Int) (hl:l.length<=1000000):Ok (oc l) λy=>y.length=l.length:=by
 unfold oc bu bA bF aU cK aD cw;refine ci l.length (λi x=>x.1=(i:Int)/\x.2.length=i) ?_ ?_ ⟨rfl,rfl⟩
 .rintro i ⟨a,b⟩ hi ⟨e1,e2⟩;dsimp only at e1 e2;subst e1;refine dz ?_;refine cC (aS (cC (aS (bg (by simp;omega) (by omega) (al ?_)))));dsimp only;exact⟨gL (by omega),by simp;omega⟩
 .rintro⟨a,b⟩ ⟨e1,e2⟩;dsimp only at e1 e2;subst e1;exact du (al e2)
theorem eT (e:Xp):dQ (Xp.op e,Xp.n e,Xp.name e,Xp.l e)=e:=by cases e;rfl
theorem xC (s:Sx):ne (Sx.op s,Sx.line s,Sx.name s,Sx.arg s,Sx.index s,Sx.expr s,Sx.body s,Sx.els s)=s:=by cases s;rfl
abbrev NV:List (List UInt8):=[[97],[98],[120],[121],[118]]
def GE:Nat->Xp->Prop
 |0,_=>False
 |d+1,e=>(e.op=3->e.name=[113])/\(e.op≠1->e.op≠2->1<=e.l.length)/\e.l.length<=2/\(∀ x∈e.l,GE d x)/\(e.op=2->e.name∈NV)/\(e.op≠1->e.op≠2->e.op≠3->2<=e.l.length/\6<=e.op/\e.op<=18)
theorem GE.mono:∀ {d:Nat} {e:Xp},GE d e->GE (d+1) e
 |0,_,h=>h.elim
 |_+1,_,h=>⟨h.1,h.2.1,h.2.2.1,λx I=>(h.2.2.2.1 x I).mono,h.2.2.2.2⟩
theorem GE.le {d k:Nat} {e:Xp} (h:GE d e) (hk:d<=k):GE k e:=by
 induction hk with
 |refl=>exact h
 |step _ I=>exact I.mono
theorem Mh (n:Int):qy n=aa (.mk 1 n [] []):=rfl
theorem F8 (s:List UInt8):oO s=aa (.mk 2 0 s []):=rfl
theorem DY (o:Int) (a b:Xp):m_ (o,a,b)=aa (.mk o 0 [] [a,b]):=by
 cases a;cases b;rfl
theorem sH (s:List UInt8) (e:Xp):iW (s,e)=aa (.mk 1 0 s [] [] e [] []):=by
 cases e;rfl
abbrev MK:Type:=Int×Int×Bool×Bool×Bool×Bool
abbrev Nw:Type:=List Int×Int
abbrev HD:Type:=Bool×List (List UInt8)
theorem GE.num (n:Int) (d:Nat):GE (d+1) (.mk 1 n [] []):=⟨λh=>(by cases h),λh=>(h rfl).elim,by simp[Xp.l],λx I=>(by cases I),λh=>(by cases h),λh=>(h rfl).elim⟩
theorem GE.nm {s:List UInt8} (hs:s∈NV) (d:Nat):GE (d+1) (.mk 2 0 s []):=⟨λh=>(by cases h),λ_ h=>(h rfl).elim,by simp[Xp.l],λx I=>(by cases I),λ_=>hs,λ_ h=>(h rfl).elim⟩
theorem GE.bin {o:Int} {a b:Xp} {d:Nat} (J:6<=o/\o<=18) (M:GE d a) (hb:GE d b):GE (d+1) (.mk o 0 [] [a,b]):=
 ⟨λh=>(by have h:o=3:=h;omega),λ_ _=>by simp[Xp.l],by simp[Xp.l],λx I=>by
   simp only[Xp.l,bh,cj,fP] at I;rcases I with rfl|rfl
   .exact M
   .exact hb,λh=>(by have h:o=2:=h;omega),λ_ _ _=>⟨by simp[Xp.l],J⟩⟩
theorem GE.ix {a:Xp} {d:Nat} (J:GE d a):GE (d+1) (.mk 3 0 [113] [a]):=
 ⟨λ_=>rfl,λ_ _=>by simp[Xp.l],by simp[Xp.l],λx I=>by
   simp only[Xp.l,bh,cj,fP] at I;rw[I];exact J,λh=>(by cases h),λ_ _ h=>(h rfl).elim⟩
theorem B6:∀ (n d:Nat),d<n->d<=10->∀ (m:MK) (t:Nw) (h:HD),TP t->Ok (hX n ((d:Int),m,t,h)) λy=>GE (d+1) y.1/\y.2.1=m/\tM t y.2.2.1/\y.2.2.2=h
 |0,d,hd,_,_,_,_,_=>by omega
 |n+1,d,hd,h10,m,t,h,ht=>by
  rw[xt];unfold nu aV bk bI di cQ bc bu bA kj aU aD;refine aw (fX 10 t ht) λy I=>?_
  obtain⟨k,t1⟩:=y;obtain⟨s1,k0,k1,_⟩:=I;have k1:=k1 (by decide);dsimp only at s1 k0 k1;refine aX (λx=>x.2=(m,t1,h,(0,0,[]),[[97],[98],[120],[121],[118],[120],[121]])/\(x.1=ai->2<=k/\(d=0->k<7))) ?_ ?_
  .refine bB (λ_=>al ⟨rfl,λh=>(by cases h)⟩) λg=>aJ (λg2=>al ⟨rfl,λg3=>⟨g,λ_=>?_⟩⟩) λg2=>al ⟨rfl,λ_=>⟨g,λh=>(g2 (by dsimp only;omega)).elim⟩⟩
   dsimp only at g3;rw[kC] at g3;exact g3
  rintro⟨b,x⟩ ⟨e,hb⟩;dsimp only at e hb;subst e;refine aO (λ_=>?_) λg=>?_
  .refine aw (fX 4 t1 s1.p) λy I=>?_
   refine aT (Mh _) (al ?_);exact⟨GE.num _ _,rfl,s1.trans I.1,rfl⟩
  obtain⟨q0,q1⟩:=hb g;refine bB (λg=>?_) λg=>?_
  .refine aw (fX _ t1 s1.p) λy I=>?_
   obtain⟨u1,M,J,_⟩:=I;have J:=J (show (1:Int)<=7 by decide);refine aQ M J (aQ M J (aS ?_));refine aT (F8 _) (al ?_);have hnv:∀ z∈([[97],[98],[120],[121],[118],[120],[121]]:List (List UInt8)),z∈NV:=by decide
   exact⟨GE.nm (hnv _ (bH (T:=.str) M J)) _,rfl,s1.trans u1,rfl⟩
  dsimp only at g;have hd0:d≠0:=λh=>by have:=q1 h;omega
  obtain⟨d,rfl⟩:∃ k,d=k+1:=⟨d-1,by omega⟩
  refine aJ (λg=>?_) λg=>?_
  .refine aw (B6 n 0 (by omega) (by omega) m t1 h s1.p) λy I=>?_
   obtain⟨e,m',t',h'⟩:=y;obtain⟨v1,Z,U,Y⟩:=I;dsimp only at v1 Z U Y;subst Z;subst Y;refine ba (by simp) (al ?_);dsimp only;rw[eT];exact⟨(GE.ix (v1.le (by omega):GE (d+1) e)),rfl,s1.trans U,rfl⟩
  .refine aw (fX _ t1 s1.p) λy I=>?_
   obtain⟨k2,t2⟩:=y;obtain⟨u1,M,J,_⟩:=I;have J:=J (by decide);dsimp only at u1 M J;refine aQ M J (aQ M J (aS ?_));have ho:(6:Int)<=aH (T:=.int .i64) [6,7,8,11,13,17] k2/\aH (T:=.int .i64) [6,7,8,11,13,17] k2<=(18:Int):=by
    have h1:=bH (T:=.int .i64) (xs:=([6,7,8,11,13,17]:List Int)) M J;have:∀ z:Int,z∈([6,7,8,11,13,17]:List Int)->6<=z/\z<=18:=by decide
    exact this _ h1
   have ew:be .i64 (((d+1:Nat):Int)-1)=(d:Int):=by rw[gU (by omega) (by omega)];omega
   dsimp only;rw[ew];refine aw (B6 n d (by omega) (by omega) m t2 h u1.p) λy I=>?_
   obtain⟨e,m',t',h'⟩:=y;obtain⟨v1,Z,U,Y⟩:=I;dsimp only at v1 Z U Y;subst Z;subst Y;refine ba (by simp) ?_;refine aw (B6 n d (by omega) (by omega) m' t' h' U.p) λy I=>?_
   obtain⟨e2,m2,t2',h2⟩:=y;obtain⟨w1,w2,w3,w4⟩:=I;dsimp only at w1 w2 w3 w4;subst w2;subst w4;refine ba (by simp) ?_;refine aT (DY _ _ _) (al ?_);dsimp only;rw[eT];exact⟨GE.bin ho v1 w1,rfl,s1.trans (u1.trans (U.trans w3)),rfl⟩
theorem Yc (d:Nat) (hd:d<=10) (m:MK) (t:Nw) (h:HD) (ht:TP t):Ok (eR ((d:Int),m,t,h)) λy=>GE (d+1) y.1/\y.2.1=m/\tM t y.2.2.1/\y.2.2.2=h:=B6 fuel d (by rw[jA];omega) hd m t h ht
def NE (op:Int):Prop:=op=1\/op=2\/op=3\/op=14
def ZE (e:Xp):Prop:=GE 4 e\/e= .mk 0 0 [] []
structure NO (nT:Nat) (s:Sx):Prop where
 o0:1<=s.op
 o1:s.op<=15
 vr:s.op=1->s.index=[]->s.name∈NV
 lk:s.op=4->s.name=[109]\/s.name=[110]
 rw:s.op=5\/s.op=6->s.name=[114]
 cn:s.op=9\/s.op=10\/s.op=11->s.name=[99]
 sp:s.op=12\/s.op=13->s.name∈uN.take nT
 se:s.op=14->s.name=[102]
 ge:s.op=15->s.name=[97]/\s.arg=[102]
 el:¬s.op=2->s.els=[]
 bo:s.op=1\/9<=s.op->s.body=[]
variable {nT:Nat}
def GS (nT:Nat):Nat->Sx->Prop
 |0,_=>False
 |d+1,s=>(s.index≠[]->s.name=[113])/\s.index.length<=1/\(∀ e∈s.index,GE 4 e)/\(NE s.op->GE 4 s.expr)/\ZE s.expr/\s.body.length<=8/\s.els.length<=8/\(∀ x∈s.body,GS nT d x)/\(∀ x∈s.els,GS nT d x)/\NO nT s
theorem GS.mono:∀ {d:Nat} {s:Sx},GS nT d s->GS nT (d+1) s
 |0,_,h=>h.elim
 |_+1,_,⟨a,b,c,e,f,g,i,j,k,l⟩=>⟨a,b,c,e,f,g,i,λx I=>(j x I).mono,λx I=>(k x I).mono,l⟩
theorem GS.le {d k:Nat} {s:Sx} (h:GS nT d s) (hk:d<=k):GS nT k s:=by
 induction hk with
 |refl=>exact h
 |step _ I=>exact I.mono
theorem NO.asg {s a:List UInt8} {e:Xp} {i:List Xp} (hs:i=[]->s∈NV):NO nT (.mk 1 0 s a i e [] []):=by
 constructor<;>simp[Sx.op,Sx.name,Sx.index,Sx.els,Sx.body];exact λh=>by simpa using hs h
theorem GS.asg {d:Nat} {s:List UInt8} (hs:s∈NV) {e:Xp} (h:GE 4 e):GS nT (d+1) (.mk 1 0 s [] [] e [] []):=
 ⟨λh=>(h rfl).elim,by simp[Sx.index],λe he=>(by cases he),λ_=>h,.inl h,by simp[Sx.body],by simp[Sx.els],λx I=>(by cases I),λx I=>(by cases I),NO.asg λ_=>hs⟩
theorem GS.aix {d:Nat} {i e:Xp} (hi:GE 4 i) (h:GE 4 e):GS nT (d+1) (.mk 1 0 [113] [] [i] e [] []):=
 ⟨λ_=>rfl,by simp[Sx.index],λe he=>(by simp only[Sx.index,aK] at he;rw[he];exact hi),λ_=>h,.inl h,by simp[Sx.body],by simp[Sx.els],λx I=>(by cases I),λx I=>(by cases I),NO.asg λh=>(by cases h)⟩
theorem GS.we {d:Nat} {op:Int} {s a:List UInt8} {e:Xp} {b l:List Sx} (h:GE 4 e) (hb:b.length<=8) (hl:l.length<=8) (I:∀ x∈b,GS nT d x) (gl:∀ x∈l,GS nT d x) (hn:NO nT (.mk op 0 s a [] e b l)):GS nT (d+1) (.mk op 0 s a [] e b l):=
 ⟨λh=>(h rfl).elim,by simp[Sx.index],λe he=>(by cases he),λ_=>h,.inl h,hb,hl,I,gl,hn⟩
theorem GS.wo {d:Nat} {op ln:Int} {s a:List UInt8} {b:List Sx} (M:4<=op/\op≠14) (hb:b.length<=8) (J:∀ x∈b,GS nT d x) (hn:NO nT (.mk op ln s a [] (.mk 0 0 [] []) b [])):GS nT (d+1) (.mk op ln s a [] (.mk 0 0 [] []) b []):=
 ⟨λh=>(h rfl).elim,by simp[Sx.index],λe he=>(by cases he),λh=>(by have h:op=1\/op=2\/op=3\/op=14:=h;omega),.inr rfl,hb,by simp[Sx.els],J,λx I=>(by cases I),hn⟩
def QS (nT:Nat) (d:Nat) (n:Int) (t:Nw) (h:HD) (y:MK×Nw×HD×List Sx):Prop:=(y.2.2.2.length:Int)<=max 0 n/\(∀ s∈y.2.2.2,GS nT (d+1) s)/\tM t y.2.1/\y.2.2.1.2=h.2
def QT (nT:Nat) (d:Nat) (t:Nw) (h:HD) (y:Sx×MK×Nw×HD):Prop:=GS nT (d+1) y.1/\tM t y.2.2.1/\y.2.2.2.2=h.2
def QB (nT:Nat) (d:Nat) (t:Nw) (h:HD) (y:List Sx×MK×Nw×HD):Prop:=y.1.length<=2/\(∀ s∈y.1,GS nT (d+1) s)/\tM t y.2.2.1/\y.2.2.2.2=h.2
abbrev RS:Type:=((Int×Int)×MK×Nw×HD)->Option (MK×Nw×HD×List Sx)
abbrev RT:Type:=(Int×MK×Nw×HD)->Option (Sx×MK×Nw×HD)
abbrev RBk:Type:=((List UInt8×Int)×MK×Nw×HD)->Option (List Sx×MK×Nw×HD)
def SpS (nT:Nat) (rs:RS) (d:Nat):Prop:=∀ (n:Int) (m:MK) (t:Nw) (h:HD),n<=3->TP t->h.2.length+d<=100->Ok (rs (((d:Int),n),m,t,h)) (QS nT d n t h)
def SpT (nT:Nat) (I:RT) (d:Nat):Prop:=∀ (m:MK) (t:Nw) (h:HD),TP t->h.2.length+d<=100->Ok (I ((d:Int),m,t,h)) (QT nT d t h)
def SpB (nT:Nat) (I:RBk) (d:Nat):Prop:=∀ (s:List UInt8) (m:MK) (t:Nw) (h:HD),TP t->h.2.length+1+d<=100->Ok (I ((s,(d:Int)),m,t,h)) (QB nT d t h)
theorem V3 (rs:RS) (M:RT) (rb:RBk) (d:Nat) (ht:SpT nT M d):SpS nT (mb rs M rb) d:=by
 intro n m t h hn hp hh;unfold mb aV bk bt bI di cQ bc bu bA cK aD cw dS;refine pn (λx=>(n-x.1).toNat) (λx=>0<=x.1/\(x.1<=n\/x.1=0)/\tM t x.2.2.1/\(x.2.2.2.1.length:Int)<=x.1/\(∀ s∈x.2.2.2.1,GS nT (d+1) s)/\x.2.2.2.2.2=h.2) ?_ ⟨eD _,.inr rfl,tM.refl hp,by simp,λs hs=>(by cases hs),rfl⟩;rintro⟨(i:Int),m',t',l,h'⟩ ⟨i0,i1,e1,e2,e3,J⟩;dsimp only at i0 i1 e1 e2 e3 J;refine aX (λx=>x.2=(m',t',l,h')/\(x.1=ah->i<n)) ?_ ?_
 .refine bB (λg=>aJ (λ_=>al ⟨rfl,λ_=>g⟩) λ_=>al ⟨rfl,λ_=>g⟩) λ_=>al ⟨rfl,λh=>(by cases h)⟩
 rintro⟨b,x⟩ ⟨Z,Y⟩;dsimp only at Z Y;subst Z;refine aO (λhb=>?_) λ_=>al ⟨by dsimp only;omega,e3,e1,J⟩
 have g:=Y hb;refine aw (ht m' t' h' e1.p (by rw[J];exact hh)) λy hy=>?_
 obtain⟨s,m2,t2,h2⟩:=y;obtain⟨k1,k2,U⟩:=hy;dsimp only at k1 k2 U;refine ba (by simp) (bg (by simp;omega) (by omega) (al ?_));dsimp only;rw[eT,xC,gU (n:=i+1) (by omega) (by omega)];refine ⟨⟨by omega,by omega,e1.trans k2,by simp;omega,λx I=>?_,U.trans J⟩,by omega⟩;rcases bR.1 I with I|I
 .exact e3 x I
 .rw[aK] at I;subst I;exact k1
theorem V6 (rs:RS) (rt:RT) (rb:RBk) (d:Nat) (hs:SpS nT rs d):SpB nT (mc rs rt rb) d:=by
 intro s m t h hp hh;unfold mc aV bk bI di bA aU;refine bg (by simp;omega) (by omega) ?_;refine aw (fX 2 t hp) λy M=>?_
 obtain⟨k,t1⟩:=y;obtain⟨J,Z,I,_⟩:=M;have I:=I (by decide);dsimp only at J Z I;have ew:be .i64 (1+k)=1+k:=gU (by omega) (by omega);dsimp only;rw[ew];refine aw (hs (1+k) m t1 (h.1,h.2++[s]) (by omega) J.p (by simp;omega)) λy M=>?_
 obtain⟨m2,t2,h2,l⟩:=y;obtain⟨k1,k2,Y,U⟩:=M;dsimp only at k1 k2 Y U;refine ba (by simp) ?_;dsimp only;rw[U];have el:be .i64 ((aN (h.2++[s]).length)-1)=(h.2.length:Int):=by
  rw[bn,gg,gU (by simp<;>omega) (by simp<;>omega)];simp<;>omega
 rw[el];refine cZ (dV (by omega) (yJ (by simp;omega) (al ?_)));refine ⟨by dsimp only;omega,k2,J.trans Y,?_⟩;show dF (aR (h.2.length:Int)) (h.2++[s])=h.2;simp
theorem BS (s:List UInt8) (m:MK) (t:Nw) (h:HD) (hh:h.2.length<=100):Ok (eA (s,m,t,h)) λy=>y.2=(m,t,h):=by
 unfold eA di;exact aw (xo h.2 s (by omega)) λy _=>al rfl
theorem YF (rs:RS) (rt:RT) (rb:RBk) (d:Nat) (hd:d<=5) (h0:1<=d->SpS nT rs 0) (hS:1<=d->SpS nT rs (d-1)) (hB:1<=d->SpB nT rb (d-1)):SpT nT (nl rs rt rb) d:=by
 intro m t h hp hh;unfold nl aV bk bt bI di cQ bc bu bA kj aD dS;refine aw (fX 18 t hp) λy J=>?_
 obtain⟨k,t1⟩:=y;obtain⟨s1,k0,k1,_⟩:=J;have k1:=k1 (by decide);dsimp only at s1 k0 k1;have hE:∀ (j:Nat) (m':MK) (t':Nw) (h':HD),j<=1->TP t'->Ok (eR ((j:Int),m',t',h')) λy=>GE 4 y.1/\y.2.1=m'/\tM t' y.2.2.1/\y.2.2.2=h':=λj m' t' h' hj ht'=>(Yc j (by omega) m' t' h' ht').mono λy J=>⟨J.1.le (by omega),J.2⟩
 have ed:be .i64 ((d:Int)-1)=(d:Int)-1:=gU (by omega) (by omega);have ed1:1<=d->(d:Int)-1=((d-1:Nat):Int):=λ_=>by omega
 refine aX (λx=>x.2=((m.1,be .i64 (m.2.1-1),m.2.2),t1,(0,0,[],[],0,0,[]),h)/\(x.1=ah->1<=d)) ?_ ?_
 .refine bB (λg=>aS (bB (λ_=>al ⟨rfl,λ_=>?_⟩) λ_=>al ⟨rfl,λh=>(by cases h)⟩)) λ_=>al ⟨rfl,λh=>(by cases h)⟩
  dsimp only at g;omega
 generalize ((m.1,be .i64 (m.2.1-1),m.2.2):MK)=m0;rintro⟨nest,x⟩ ⟨e,hn⟩;dsimp only at e hn;subst e;refine bB (λ_=>?_) λg4=>?_
 .refine aQ k0 (by dsimp only[ak];omega) (aQ k0 (by dsimp only[ak];omega) (aS ?_));refine aw (hE 1 m0 t1 h (by omega) s1.p) λy J=>?_
  obtain⟨e,m2,t2,h2⟩:=y;obtain⟨v1,v2,v3,v4⟩:=J;dsimp only at v1 v2 v3 v4;subst v2;subst v4;refine ba (by simp) (aT (sH _ _) (al ?_));dsimp only;rw[eT,xC];have hnv:∀ z∈([[120],[121],[120],[118]]:List (List UInt8)),z∈NV:=by decide
  exact⟨GS.asg (hnv _ (bH (T:=.str) k0 (by dsimp only[ak];omega))) v1,s1.trans v3,rfl⟩
 dsimp only at g4;refine aJ (λ_=>?_) λg5=>?_
 .refine aw (fX 2 t1 s1.p) λy J=>?_
  obtain⟨u1,u2,u3,_⟩:=J;have u3:=u3 (by decide);refine aQ u2 u3 (aQ u2 u3 (aS ?_));refine aw (hE 1 m0 y.2 h (by omega) u1.p) λz M=>?_
  obtain⟨e,m2,t2,h2⟩:=z;obtain⟨v1,v2,v3,v4⟩:=M;dsimp only at v1 v2 v3 v4;subst v2;subst v4;refine ba (by simp) (aT (sH _ _) (al ?_));dsimp only;rw[eT,xC];have hnv:∀ z∈([[97],[98]]:List (List UInt8)),z∈NV:=by decide
  exact⟨GS.asg (hnv _ (bH (T:=.str) u2 u3)) v1,s1.trans (u1.trans v3),rfl⟩
 dsimp only at g5;refine aJ (λ_=>?_) λg6=>?_
 .refine aw (hE 0 m0 t1 h (by omega) s1.p) λz M=>?_
  obtain⟨e,m2,t2,h2⟩:=z;obtain⟨v1,v2,v3,v4⟩:=M;dsimp only at v1 v2 v3 v4;subst v2;subst v4;refine ba (by simp) ?_;refine aw (hE 1 m2 t2 h2 (by omega) v3.p) λz M=>?_
  obtain⟨e',m3,t3,h3⟩:=z;obtain⟨w1,Y,w3,Z⟩:=M;dsimp only at w1 Y w3 Z;subst Y;subst Z;refine ba (by simp) (al ?_);dsimp only;rw[eT,eT];exact⟨GS.aix v1 w1,s1.trans (v3.trans w3),rfl⟩
 dsimp only at g6;have M:∀ (c:Prop),c->c:=λ_ h=>h
 have dd:1<=d->d-1+1=d:=λ_=>by omega
 have w8:8<=k->be .i64 (k-8)=k-8:=λ_=>gU (by omega) (by omega)
 refine aX (λx=>x.2=(m0,t1,(0,0,[],[],0,0,[]),h)/\(x.1=ah->1<=d)) ?_ ?_
 .refine aJ (λ_=>al ⟨rfl,λg=>?_⟩) λ_=>al ⟨rfl,λh=>(by cases h)⟩
  dsimp only at g;rw[sd] at g;omega
 rintro⟨b,x⟩ ⟨e,hb⟩;dsimp only at e hb;subst e;refine aO (λI=>?_) λ_=>?_
 .have d1:=hb I;refine aw (hE 1 m0 t1 h (by omega) s1.p) λz M=>?_
  obtain⟨e,m2,t2,h2⟩:=z;obtain⟨v1,v2,v3,v4⟩:=M;dsimp only at v1 v2 v3 v4;subst v2;subst v4;refine ba (by simp) ?_;dsimp only;rw[ed,ed1 d1];refine aw (hS d1 1 m2 t2 h2 (by omega) v3.p (by omega)) λz M=>?_
  obtain⟨m3,t3,h3,l⟩:=z;obtain⟨w1,Y,w3,Z⟩:=M;dsimp only at w1 Y w3 Z;rw[dd d1] at Y;refine ba (by simp) ?_;refine aX (λx=>x.2.2.2.1=(2,0,[],[],e.op,e.n,e.name,e.l)/\tM t1 x.2.1/\x.2.2.2.2.1.2=h2.2/\x.2.2.2.2.2.1=l/\x.2.2.2.2.2.2.length<=8/\∀ s∈x.2.2.2.2.2.2,GS nT d s) ?_ ?_
  .refine aw (fX 2 t3 w3.p) λy J=>?_
   refine aJ (λ_=>?_) λ_=>al ⟨rfl,v3.trans (w3.trans J.1),Z,rfl,by simp,λs hs=>(by cases hs)⟩
   dsimp only;refine aw (hS d1 1 m3 y.2 h3 (by omega) J.1.p (by rw[Z];omega)) λz M=>?_
   obtain⟨m4,t4,h4,l2⟩:=z;obtain⟨x1,x2,x3,x4⟩:=M;dsimp only at x1 x2 x3 x4;rw[dd d1] at x2;exact ba (by simp) (al ⟨rfl,v3.trans (w3.trans (J.1.trans x3)),x4.trans Z,rfl,by dsimp only;omega,x2⟩)
  rintro⟨m5,t5,z5,e5,h5,l5,l6⟩ ⟨x1,x2,x3,x4,x5,x6⟩;dsimp only at x1 x2 x3 x4 x5 x6;subst x1;subst x4;refine al ?_;dsimp only;rw[eT];exact⟨GS.we v1 (by first|omega|(dsimp only;omega)) x5 Y x6 (by constructor<;>simp[Sx.op,Sx.name,Sx.index,Sx.arg,Sx.els,Sx.body]),s1.trans x2,x3⟩
 refine aX (λx=>x.2=(m0,t1,(0,0,[],[],0,0,[]),h)/\(x.1=ah->1<=d)) ?_ ?_
 .refine aJ (λ_=>al ⟨rfl,λg=>?_⟩) λ_=>al ⟨rfl,λh=>(by cases h)⟩
  dsimp only at g;rw[sd] at g;omega
 rintro⟨b,x⟩ ⟨e,hb⟩;dsimp only at e hb;subst e;refine aO (λI=>?_) λ_=>?_
 .have d1:=hb I;refine aT (F8 _) (aT (Mh _) (aT (DY _ _ _) ?_));dsimp only;rw[ed,ed1 d1];refine aw (hS d1 1 _ t1 h (by omega) s1.p (by omega)) λz M=>?_
  obtain⟨m3,t3,h3,l⟩:=z;obtain⟨w1,Y,w3,Z⟩:=M;dsimp only at w1 Y w3 Z;rw[dd d1] at Y;refine ba (by simp) ?_;refine aT (F8 _) (aT (Mh _) (aT (DY _ _ _) (aT (sH _ _) ?_)));refine bg (by simp;omega) (by omega) (al ?_);dsimp only;rw[eT,eT,xC];refine ⟨GS.we (GE.bin (by omega) (GE.nm (by decide) 2) (GE.num _ 2)) (by simp;omega) (by simp) (λx U=>?_) (λx U=>(by cases U)) (by constructor<;>simp[Sx.op,Sx.name,Sx.index,Sx.arg,Sx.els,Sx.body]),s1.trans w3,Z⟩;rcases bR.1 U with U|U
  .exact Y x U
  .rw[aK] at U;subst U;rw[<- dd d1];exact GS.asg (by decide) (GE.bin (by omega) (GE.nm (by decide) 2) (GE.num _ 2))
 refine aX (λx=>x.2=(m0,t1,(0,0,[],[],0,0,[]),h)/\(x.1=ah->nest=ah/\(k=8\/k=9))) ?_ ?_
 .refine aJ (λg=>aO (λgn=>?_) λ_=>al ⟨rfl,λh=>(by cases h)⟩) λ_=>aJ (λg=>aO (λgn=>?_) λ_=>al ⟨rfl,λh=>(by cases h)⟩) λ_=>al ⟨rfl,λh=>(by cases h)⟩
  all_goals
   dsimp only at g ⊢;rw[w8 (by omega)];refine aQ (by omega) (by simp;omega) (aQ (by omega) (by simp;omega) (aS ?_));refine aw (BS _ m0 t1 h (by omega)) λy J=>?_
   obtain⟨yb,y2⟩:=y;dsimp only at J;subst J;exact ba (by simp) (al ⟨rfl,λ_=>⟨gn,by omega⟩⟩)
 rintro⟨b,x⟩ ⟨e,hb⟩;dsimp only at e hb;subst e;refine aO (λI=>?_) λ_=>?_
 .obtain⟨q1,q2⟩:=hb I;have d1:=hn q1;have hnm:aH (T:=.str) [[109],[110]] (k-8)=[109]\/aH (T:=.str) [[109],[110]] (k-8)=[110]:=by rcases q2 with rfl|rfl<;>simp[aH]
  dsimp only;rw[w8 (by omega),ed,ed1 d1];refine aQ (by omega) (by simp;omega) (aQ (by omega) (by simp;omega) (aS ?_));refine aw (hB d1 _ m0 t1 h s1.p (by omega)) λz M=>?_
  obtain⟨l,m3,t3,h3⟩:=z;obtain⟨w1,Y,w3,Z⟩:=M;dsimp only at w1 Y w3 Z;rw[dd d1] at Y;exact ba (by simp) (al ⟨GS.wo (by omega) (by first|omega|(dsimp only;omega)) Y (by constructor<;>simp[Sx.op,Sx.name,Sx.index,Sx.arg,Sx.els,Sx.body];exact hnm),s1.trans w3,Z⟩)
 refine aX (λx=>x.2=(m0,t1,(0,0,[],[],0,0,[]),h)/\(x.1=ah->nest=ah/\(k=10\/k=11))) ?_ ?_
 .refine aJ (λg=>aO (λgn=>?_) λ_=>al ⟨rfl,λh=>(by cases h)⟩) λ_=>aJ (λg=>aO (λgn=>?_) λ_=>al ⟨rfl,λh=>(by cases h)⟩) λ_=>al ⟨rfl,λh=>(by cases h)⟩
  all_goals
   dsimp only at g ⊢;refine aw (BS _ m0 t1 h (by omega)) λy J=>?_
   obtain⟨yb,y2⟩:=y;dsimp only at J;subst J;exact ba (by simp) (al ⟨rfl,λ_=>⟨gn,by omega⟩⟩)
 rintro⟨b,x⟩ ⟨e,hb⟩;dsimp only at e hb;subst e;refine aO (λI=>?_) λ_=>?_
 .obtain⟨q1,q2⟩:=hb I;have d1:=hn q1;dsimp only;rw[ed,ed1 d1,gU (n:=k-10) (by omega) (by omega),gU (n:=k-10+5) (by omega) (by omega)];refine aw (hB d1 _ m0 t1 h s1.p (by omega)) λz M=>?_
  obtain⟨l,m3,t3,h3⟩:=z;obtain⟨w1,Y,w3,Z⟩:=M;dsimp only at w1 Y w3 Z;rw[dd d1] at Y;exact ba (by simp) (al ⟨GS.wo (by omega) (by first|omega|(dsimp only;omega)) Y (by constructor<;>simp[Sx.op,Sx.name,Sx.index,Sx.arg,Sx.els,Sx.body]<;>omega),s1.trans w3,Z⟩)
 refine aX (λx=>x.2=(m0,t1,(0,0,[],[],0,0,[]),h)/\(x.1=ah->nest=ah)) ?_ ?_
 .exact aJ (λ_=>al ⟨rfl,λg=>g⟩) λ_=>al ⟨rfl,λh=>(by cases h)⟩
 rintro⟨b,x⟩ ⟨e,hb⟩;dsimp only at e hb;subst e;refine aO (λI=>?_) λ_=>?_
 .have d1:=hn (hb I);refine aw (fX 2 t1 s1.p) λy J=>?_
  obtain⟨u1,u2,u3,_⟩:=J;have u3:=u3 (by decide);dsimp only;rw[gU (n:=1+y.1) (by omega) (by omega)];refine aw (h0 d1 (1+y.1) _ y.2 h (by omega) u1.p (by omega)) λz M=>?_
  obtain⟨m3,t3,h3,l⟩:=z;obtain⟨w1,Y,w3,Z⟩:=M;dsimp only at w1 Y w3 Z;exact ba (by simp) (al ⟨GS.wo (by omega) (by first|omega|(dsimp only;omega)) (λx U=>(Y x U).le (by omega)) (by constructor<;>simp[Sx.op,Sx.name,Sx.index,Sx.arg,Sx.els,Sx.body]),s1.trans (u1.trans w3),Z⟩)
 refine aX (λx=>x.2=(m0,t1,(0,0,[],[],0,0,[]),h)/\(x.1=ah->nest=ah)) ?_ ?_
 .exact aJ (λ_=>aO (λgn=>al ⟨rfl,λ_=>gn⟩) λ_=>al ⟨rfl,λh=>(by cases h)⟩) λ_=>al ⟨rfl,λh=>(by cases h)⟩
 rintro⟨b,x⟩ ⟨e,hb⟩;dsimp only at e hb;subst e;refine aO (λI=>?_) λ_=>?_
 .have d1:=hn (hb I);dsimp only;rw[ed,ed1 d1];refine aw (hS d1 2 _ t1 h (by omega) s1.p (by omega)) λz M=>?_
  obtain⟨m3,t3,h3,l⟩:=z;obtain⟨w1,Y,w3,Z⟩:=M;dsimp only at w1 Y w3 Z;rw[dd d1] at Y;exact ba (by simp) (al ⟨GS.wo (by omega) (by first|omega|(dsimp only;omega)) Y (by constructor<;>simp[Sx.op,Sx.name,Sx.index,Sx.arg,Sx.els,Sx.body]),s1.trans w3,Z⟩)
 refine aX (λx=>x.2=(m0,t1,(0,0,[],[],0,0,[]),h)/\(x.1=ah->nest=ah)) ?_ ?_
 .refine aJ (λ_=>aO (λgn=>aO (λ_=>?_) λ_=>al ⟨rfl,λh=>(by cases h)⟩) λ_=>al ⟨rfl,λh=>(by cases h)⟩) λ_=>al ⟨rfl,λh=>(by cases h)⟩
  refine aw (BS _ m0 t1 h (by omega)) λy J=>?_
  obtain⟨yb,y2⟩:=y;dsimp only at J;subst J;exact ba (by simp) (al ⟨rfl,λ_=>gn⟩)
 rintro⟨b,x⟩ ⟨e,hb⟩;dsimp only at e hb;subst e;refine aO (λI=>?_) λ_=>?_
 .have d1:=hn (hb I);refine aT (F8 _) (aT (sH _ _) (al ?_));dsimp only;rw[eT,xC];refine ⟨GS.wo (by omega) (by simp) (λx U=>?_) (by constructor<;>simp[Sx.op,Sx.name,Sx.index,Sx.arg,Sx.els,Sx.body]),s1,rfl⟩;simp only[bh,cj,fP] at U;rw[<- dd d1];rcases U with rfl|rfl
  .exact GS.wo (by omega) (by simp) (λx U=>(by cases U)) (by constructor<;>simp[Sx.op,Sx.name,Sx.index,Sx.arg,Sx.els,Sx.body])
  .exact GS.asg (by decide) (GE.nm (by decide) 3)
 refine aX (λx=>x.2=(m0,t1,(0,0,[],[],0,0,[]),h)/\(x.1=ah->nest=ah)) ?_ ?_
 .refine aJ (λ_=>aO (λgn=>?_) λ_=>al ⟨rfl,λh=>(by cases h)⟩) λ_=>al ⟨rfl,λh=>(by cases h)⟩
  refine aw (BS _ m0 t1 h (by omega)) λy J=>?_
  obtain⟨yb,y2⟩:=y;dsimp only at J;subst J;exact ba (by simp) (al ⟨rfl,λ_=>gn⟩)
 rintro⟨b,x⟩ ⟨e,hb⟩;dsimp only at e hb;subst e;refine aO (λI=>?_) λ_=>?_
 .have d1:=hn (hb I);refine aw (fX 2 t1 s1.p) λy J=>al ?_
  obtain⟨u1,u2,u3,_⟩:=J;have u3:=u3 (by decide);dsimp only;rw[gU (n:=10+y.1) (by omega) (by omega)];refine ⟨GS.wo (by omega) (by simp) (λx U=>?_) (by constructor<;>simp[Sx.op,Sx.name,Sx.index,Sx.arg,Sx.els,Sx.body]),s1.trans u1,rfl⟩;simp only[bh,cj,fP] at U;rw[U,<-dd d1];exact GS.wo (by omega) (by simp) (λx U=>(by cases U)) (by constructor<;>simp[Sx.op,Sx.name,Sx.index,Sx.arg,Sx.els,Sx.body]<;>omega)
 refine aX (λx=>x.2=(m0,t1,(0,0,[],[],0,0,[]),h)) ?_ ?_
 .exact aJ (λ_=>aO (λ_=>aO (λ_=>al rfl) λ_=>al rfl) λ_=>al rfl) λ_=>al rfl
 rintro⟨b,x⟩ e;dsimp only at e;subst e;refine aO (λI=>?_) λ_=>?_
 .refine aw (hE 1 _ t1 h (by omega) s1.p) λz M=>?_
  obtain⟨e,m2,t2,h2⟩:=z;obtain⟨v1,v2,v3,v4⟩:=M;dsimp only at v1 v2 v3 v4;subst v2;subst v4;refine ba (by simp) (al ?_);dsimp only;rw[eT];exact⟨GS.we v1 (by simp) (by simp) (λx U=>(by cases U)) (λx U=>(by cases U)) (by constructor<;>simp[Sx.op,Sx.name,Sx.index,Sx.arg,Sx.els,Sx.body]),s1.trans v3,rfl⟩
 refine aX (λx=>x.2.1=m0/\tM t1 x.2.2.1/\x.2.2.2.2=h) ?_ ?_
 .refine aJ (λ_=>aO (λ_=>?_) λ_=>al ⟨rfl,tM.refl s1.p,rfl⟩) λ_=>al ⟨rfl,tM.refl s1.p,rfl⟩
  exact aw (fX 2 t1 s1.p) λy J=>al ⟨rfl,J.1,rfl⟩
 rintro⟨b,m9,t9,z9,h9⟩ ⟨e1,e2,e3⟩;dsimp only at e1 e2 e3;subst e1;subst e3;refine aO (λI=>?_) λ_=>?_
 .exact al ⟨GS.wo (by omega) (by simp) (λx U=>(by cases U)) (by constructor<;>simp[Sx.op,Sx.name,Sx.index,Sx.arg,Sx.els,Sx.body]),s1.trans e2,rfl⟩
 refine aw (hE 1 _ t9 h9 (by omega) e2.p) λz M=>?_
 obtain⟨e,m2,t2,h2⟩:=z;obtain⟨v1,v2,v3,v4⟩:=M;dsimp only at v1 v2 v3 v4;subst v2;subst v4;refine ba (by simp) (aT (sH _ _) (al ?_));dsimp only;rw[eT,xC];exact⟨GS.asg (by decide) v1,s1.trans (e2.trans v3),rfl⟩
theorem Lg:∀ (n:Nat),(∀ d:Nat,d<=5->3*d+1<=n->SpT nT (ef n) d)/\(∀ d:Nat,d<=5->3*d+2<=n->SpS nT (dy n) d)/\(∀ d:Nat,d<=5->3*d+3<=n->SpB nT (dN n) d)
 |0=>⟨λd _ h=>by omega,λd _ h=>by omega,λd _ h=>by omega⟩
 |n+1=>by
  obtain⟨J,I,M⟩:=Lg n;refine ⟨λd h1 h2=>?_,λd h1 h2=>?_,λd h1 h2=>?_⟩
  .exact YF (dy n) (ef n) (dN n) d h1 (λh=>I 0 (by omega) (by omega)) (λh=>I (d-1) (by omega) (by omega)) (λh=>M (d-1) (by omega) (by omega))
  .exact V3 (dy n) (ef n) (dN n) d (J d h1 (by omega))
  .exact V6 (dy n) (ef n) (dN n) d (I d h1 (by omega))
theorem Vy (d:Nat) (hd:d<=5):SpS nT pE d:=(Lg fuel).2.1 d hd (by rw[jA];omega)
def GX:Nat->Xp->Prop
 |0,_=>False
 |d+1,e=>e.l.length<=2/\∀ x∈e.l,GX d x
theorem GE.x:∀ {d:Nat} {e:Xp},GE d e->GX d e
 |0,_,h=>h.elim
 |_+1,_,h=>⟨h.2.2.1,λx I=>(h.2.2.2.1 x I).x⟩
theorem ZE.x {e:Xp} (h:ZE e):GX 4 e:=by
 rcases h with h|rfl
 .exact h.x
 .exact⟨by simp[Xp.l],λx I=>(by cases I)⟩
def GT:Nat->Sx->Prop
 |0,_=>False
 |d+1,s=>s.index.length<=1/\(∀ e∈s.index,GX 4 e)/\GX 4 s.expr/\s.body.length<=8/\s.els.length<=8/\(∀ x∈s.body,GT d x)/\(∀ x∈s.els,GT d x)
theorem GS.t {nT:Nat}:∀ {d:Nat} {s:Sx},GS nT d s->GT d s
 |0,_,h=>h.elim
 |_+1,_,⟨_,b,c,_,f,g,i,j,k,_⟩=>⟨b,λe he=>(c e he).x,f.x,g,i,λx I=>(j x I).t,λx I=>(k x I).t⟩
theorem wR (s:Sx):ne (Sx.op s,Sx.line s,Sx.name s,Sx.arg s,Sx.index s,dQ (Xp.op (Sx.expr s),Xp.n (Sx.expr s),Xp.name (Sx.expr s),Xp.l (Sx.expr s)),Sx.body s,Sx.els s)=s:=by
 rw[eT,xC]
theorem QU (k:Int):Ok (lU k) λ_=>True:=by
 unfold lU bc jC aD;with_reducible repeat' first|(refine OS.ok ?_;constructor)|refine IM.mk λ_=>?_
 all_goals trivial
theorem pT (e:Xp):Ok (oM e) λ_=>True:=by
 unfold oM bc aD;with_reducible repeat' first|(refine OS.ok ?_;constructor)|refine IM.mk λ_=>?_
 all_goals trivial
theorem xX:∀ (n d:Nat) (e:Xp),d<n->GX d e->Ok (gQ n e) λ_=>True
 |0,_,_,h,_=>by omega
 |n+1,0,_,_,h=>h.elim
 |n+1,d+1,e,hn,h=>by
  obtain⟨h1,h2⟩:=h;rw[rq];unfold lE bc bu iL bF cK aD cw;refine aX (λx=>x.2=e) (aJ (λ_=>al (eT e)) λ_=>al (eT e)) ?_;rintro⟨b,x⟩ J;dsimp only at J;subst J;refine aX (λy=>y.2=x) ?_ ?_
  .refine aw (QU _) λ_ _=>?_
   with_reducible repeat' first|refine b7 (λ_=>?_) λ_=>?_|refine bB (λ_=>?_) λ_=>?_|refine dY (λ_=>?_) λ_=>?_|refine aO (λ_=>?_) λ_=>?_|exact al (eT x)|refine aw (h_ _) λ_ _=>?_
  rintro⟨M,y⟩ I;dsimp only at I;subst I;refine aO (λ_=>al trivial) λ_=>?_
  refine ci y.l.length (λi x=>x.1=(i:Int)/\x.2=y) ?_ ?_ ⟨rfl,eT y⟩
  .rintro i ⟨a,z⟩ hi ⟨e1,e2⟩;dsimp only at e1 e2;subst e1;subst e2;refine dz ?_;refine cC (aS ?_);refine aw (xX n d _ (by omega) (h2 _ (bH (T:=.ex) (xs:=z.l) (j:=(i:Int)) (by omega) (by omega)))) λ_ _=>?_
   refine dY (λ_=>al trivial) λ_=>al ?_
   dsimp only;exact⟨gL (by omega),eT z⟩
  .rintro⟨a,z⟩ ⟨e1,e2⟩;dsimp only at e1 e2;subst e1;subst e2;exact du (al trivial)
theorem fU (e:Xp) (h:GX 4 e):Ok (iM e) λ_=>True:=xX fuel 4 e (by rw[jA];omega) h
theorem JG (d:Int×Int×List UInt8×Int×Int×List UInt8):Ok (jJ d) λ_=>True:=by
 unfold jJ aV bk ct eU bc bu iL aD;refine aX (λ_=>True) ?_ λx _=>aO (λ_=>al trivial) λ_=>?_
 .with_reducible repeat' first|refine b7 (λ_=>?_) λ_=>?_|refine bB (λ_=>?_) λ_=>?_|refine dY (λ_=>?_) λ_=>?_|exact al trivial|refine aw (h_ _) λ_ _=>?_
 refine aX (λ_=>True) ?_ λx _=>aO (λ_=>al trivial) λ_=>?_
 .with_reducible repeat' first|refine b7 (λ_=>?_) λ_=>?_|refine aJ (λ_=>?_) λ_=>?_|refine dY (λ_=>?_) λ_=>?_|exact al trivial|refine aw (h_ _) λ_ _=>?_
 with_reducible repeat' first|(refine OS.ok ?_;constructor)|refine IM.mk λ_=>?_
 all_goals trivial
theorem FA (I:Sx->Option Bool) (rs:List Sx->Option Bool) (l:List Sx) (hl:l.length<=1000) (h:∀ s∈l,Ok (I s) λ_=>True):Ok (je I rs l) λ_=>True:=by
 unfold je bu vP aU cK aD cw;refine ci l.length (λi x=>x=(i:Int)) ?_ ?_ rfl
 .rintro i x hi rfl;refine dz ?_;refine cC ?_;refine aw (h _ (bH (T:=.sm) (xs:=l) (j:=(i:Int)) (by omega) (by omega))) λ_ _=>?_
  exact dY (λ_=>al trivial) λ_=>al (gL (by omega))
 .rintro x rfl;exact du (al trivial)
theorem HQ (J:Sx->Option Bool) (rs:List Sx->Option Bool) (s:Sx) (h1:∀ e∈s.index,GX 4 e) (h2:GX 4 s.expr) (hb:Ok (rs s.body) λ_=>True) (he:Ok (rs s.els) λ_=>True):Ok (jL J rs s) λ_=>True:=by
 unfold jL bc bu jC iL bF aD dS;refine aX (λx=>x.2=s) ?_ ?_
 .with_reducible repeat' first|refine b7 (λ_=>?_) λ_=>?_|refine aJ (λ_=>?_) λ_=>?_|refine bB (λ_=>?_) λ_=>?_|refine fm (λ_=>?_) λ_=>?_|refine dY (λ_=>?_) λ_=>?_|refine aO (λ_=>?_) λ_=>?_|exact al (wR _)|refine aw (h_ _) λ_ _=>?_|refine aw (pT _) λ_ _=>?_|refine aw (fU _ h2x) λ_ _=>?_
 rintro⟨b,x⟩ I;dsimp only at I;have I:=I.symm;subst I;refine aO (λ_=>al trivial) λ_=>?_
 refine aX (λx=>x.2=s) ?_ ?_
 .with_reducible repeat' first|refine b7 (λ_=>?_) λ_=>?_|refine aJ (λ_=>?_) λ_=>?_|refine bB (λ_=>?_) λ_=>?_|refine fm (λ_=>?_) λ_=>?_|refine dY (λ_=>?_) λ_=>?_|refine aO (λ_=>?_) λ_=>?_|exact al (wR _)|refine aw (h_ _) λ_ _=>?_|refine aw (pT _) λ_ _=>?_|refine aw (fU _ h2x) λ_ _=>?_
 rintro⟨b,x⟩ I;dsimp only at I;have I:=I.symm;subst I;refine aX (λx=>x.2=s) ?_ ?_
 .with_reducible repeat' first|refine b7 (λ_=>?_) λ_=>?_|refine aJ (λ_=>?_) λ_=>?_|refine bB (λ_=>?_) λ_=>?_|refine fm (λ_=>?_) λ_=>?_|refine dY (λ_=>?_) λ_=>?_|refine aO (λ_=>?_) λ_=>?_|exact al (wR _)|refine aw (h_ _) λ_ _=>?_|refine aw (pT _) λ_ _=>?_|refine aw (fU _ h2x) λ_ _=>?_
 rintro⟨b,x⟩ I;dsimp only at I;have I:=I.symm;subst I;refine aO (λ_=>al trivial) λ_=>?_
 refine aX (λx=>x.2=s) ?_ ?_
 .with_reducible repeat' first|refine b7 (λ_=>?_) λ_=>?_|refine aJ (λ_=>?_) λ_=>?_|refine bB (λ_=>?_) λ_=>?_|refine fm (λ_=>?_) λ_=>?_|refine dY (λ_=>?_) λ_=>?_|refine aO (λ_=>?_) λ_=>?_|exact al (wR _)|refine aw (h_ _) λ_ _=>?_|refine aw (pT _) λ_ _=>?_|refine aw (fU _ h2x) λ_ _=>?_
 rintro⟨b,x⟩ I;dsimp only at I;have I:=I.symm;subst I;refine aO (λ_=>al trivial) λ_=>?_
 refine aX (λx=>x.2=s) ?_ ?_
 .with_reducible repeat' first|refine b7 (λ_=>?_) λ_=>?_|refine aJ (λ_=>?_) λ_=>?_|refine bB (λ_=>?_) λ_=>?_|refine fm (λ_=>?_) λ_=>?_|refine dY (λ_=>?_) λ_=>?_|refine aO (λ_=>?_) λ_=>?_|exact al (wR _)|refine aw (h_ _) λ_ _=>?_|refine aw (pT _) λ_ _=>?_|refine aw (fU _ h2x) λ_ _=>?_
  all_goals
   rename_i g;dsimp only[ar] at g;refine cC (aS ?_);refine aw (fU _ (h1 _ (bH (T:=.ex) (xs:=Sx.index _) (j:=0) (by omega) (by omega)))) λ_ _=>al (wR _)
 rintro⟨b,x⟩ I;dsimp only at I;have I:=I.symm;subst I;refine aO (λ_=>al trivial) λ_=>?_
 refine aX (λx=>x.2=s) ?_ ?_
 .with_reducible repeat' first|refine b7 (λ_=>?_) λ_=>?_|refine aJ (λ_=>?_) λ_=>?_|refine bB (λ_=>?_) λ_=>?_|refine fm (λ_=>?_) λ_=>?_|refine dY (λ_=>?_) λ_=>?_|refine aO (λ_=>?_) λ_=>?_|exact al (wR _)|refine aw (h_ _) λ_ _=>?_|refine aw (pT _) λ_ _=>?_|refine aw (fU _ h2x) λ_ _=>?_
 rintro⟨b,x⟩ I;dsimp only at I;have I:=I.symm;subst I;refine aX (λx=>x.2=s) ?_ ?_
 .have h2x:GX 4 (dQ (Xp.op (Sx.expr s),Xp.n (Sx.expr s),Xp.name (Sx.expr s),Xp.l (Sx.expr s))):=by rw[eT];exact h2
  with_reducible repeat' first|refine b7 (λ_=>?_) λ_=>?_|refine aJ (λ_=>?_) λ_=>?_|refine bB (λ_=>?_) λ_=>?_|refine fm (λ_=>?_) λ_=>?_|refine dY (λ_=>?_) λ_=>?_|refine aO (λ_=>?_) λ_=>?_|exact al (wR _)|refine aw (h_ _) λ_ _=>?_|refine aw (pT _) λ_ _=>?_|refine aw (fU _ h2x) λ_ _=>?_
 rintro⟨b,x⟩ I;dsimp only at I;have I:=I.symm;subst I;refine aO (λ_=>al trivial) λ_=>?_
 refine aX (λx=>x.2=s) ?_ ?_
 .with_reducible repeat' first|refine b7 (λ_=>?_) λ_=>?_|refine aJ (λ_=>?_) λ_=>?_|refine bB (λ_=>?_) λ_=>?_|refine fm (λ_=>?_) λ_=>?_|refine dY (λ_=>?_) λ_=>?_|refine aO (λ_=>?_) λ_=>?_|exact al (wR _)|refine aw (h_ _) λ_ _=>?_|refine aw (pT _) λ_ _=>?_|refine aw (fU _ h2x) λ_ _=>?_
 rintro⟨b,x⟩ I;dsimp only at I;have I:=I.symm;subst I;refine aX (λx=>x.2=s) ?_ ?_
 .with_reducible repeat' first|refine b7 (λ_=>?_) λ_=>?_|refine aJ (λ_=>?_) λ_=>?_|refine bB (λ_=>?_) λ_=>?_|refine fm (λ_=>?_) λ_=>?_|refine dY (λ_=>?_) λ_=>?_|refine aO (λ_=>?_) λ_=>?_|exact al (wR _)|refine aw (h_ _) λ_ _=>?_|refine aw (pT _) λ_ _=>?_|refine aw (fU _ h2x) λ_ _=>?_
 rintro⟨b,x⟩ I;dsimp only at I;have I:=I.symm;subst I;refine aO (λ_=>al trivial) λ_=>?_
 refine aX (λ_=>True) ?_ λ_ _=>al trivial
 refine aw hb λ_ _=>aO (λ_=>aw he λ_ _=>al trivial) λ_=>al trivial
theorem HY:∀ (n:Nat),(∀ (d:Nat) (s:Sx),2*d<n->GT d s->Ok (d_ n s) λ_=>True)/\(∀ (d:Nat) (l:List Sx),2*d+1<n->l.length<=1000->(∀ s∈l,GT d s)->Ok (dw n l) λ_=>True)
 |0=>⟨λd _ h=>by omega,λd _ h=>by omega⟩
 |n+1=>by
  obtain⟨J,I⟩:=HY n;refine ⟨λd s hd h=>?_,λd l hd hl h=>?_⟩
  .cases d with
   |zero=>exact h.elim
   |succ d=>
    obtain⟨_,Z,Y,g4,g5,U,M⟩:=h;exact HQ (d_ n) (dw n) s Z Y (I d _ (by omega) (by omega) U) (I d _ (by omega) (by omega) M)
  .exact FA (d_ n) (dw n) l hl λs hs=>J d s (by omega) (h s hs)
theorem Ji (d:Nat) (hd:d<=100) (l:List Sx) (hl:l.length<=1000) (h:∀ s∈l,GT d s):Ok (m8 l) λ_=>True:=(HY fuel).2 d l (by rw[jA];omega) hl h
abbrev DT:Type:=Int×Int×List UInt8×Int×Int×List UInt8
abbrev HT:Type:=List UInt8×Int×List (List UInt8)×List Sx
abbrev PG:Type:=List DT×List HT
structure PX (p:PG):Prop where
 d:p.1.length<=100
 t:p.2.length<=8
 l:∀ t∈p.2,t.2.2.1.length<=100
 b:∀ t∈p.2,t.2.2.2.length<=100
 s:∀ t∈p.2,∀ s∈t.2.2.2,GT 5 s
theorem WV (p:PG) (h:PX p):Ok (o7 p) λ_=>True:=by
 obtain⟨hd,ht,hl,hb,hs⟩:=h;unfold o7 aV bt cQ bu bF aU cK aD cw;refine ci p.1.length (λi x=>x.1=(i:Int)/\x.2=p) ?_ ?_ ⟨rfl,rfl⟩
 .rintro i ⟨a,x⟩ hi ⟨e1,e2⟩;dsimp only at e1 e2;subst e1;subst e2;refine dz ?_;refine cC (aS ?_);refine aw (JG _) λ_ _=>?_
  exact dY (λ_=>al trivial) λ_=>al ⟨gL (by omega),rfl⟩
 rintro⟨a,x⟩ ⟨e1,e2⟩;dsimp only at e1 e2;subst e1;subst e2;refine du ?_;refine aw (P:=λ_=>True) ?_ λ_ _=>al trivial
 refine ci x.2.length (λi y=>y.1=(i:Int)/\y.2=x) ?_ ?_ ⟨rfl,rfl⟩
 .rintro i ⟨a,x⟩ hi ⟨e1,e2⟩;dsimp only at e1 e2;subst e1;have e2:=e2.symm;subst e2;refine dz ?_;refine cC (aS ?_);have hm:=bH (T:=xA) (xs:=x.2) (j:=(i:Int)) (by omega) (by omega);have h1:=hl _ hm;have h2:=hb _ hm;have M:=hs _ hm;revert h1 h2 M;generalize (aH (T:=xA) x.2 (i:Int))=t;intro h1 h2 M;refine ci t.2.2.1.length (λk y=>y.1=(k:Int)/\y.2=(x,t)) ?_ ?_ ⟨rfl,rfl⟩
  .rintro k ⟨a,z⟩ hk ⟨J,I⟩;dsimp only at J I;subst J;subst I;refine dz ?_;refine cC (aS ?_);refine aw (h_ _) λ_ _=>?_
   exact dY (λ_=>al trivial) λ_=>al ⟨gL (by omega),rfl⟩
  .rintro⟨a,z⟩ ⟨J,I⟩;dsimp only at J I;subst J;subst I;refine du ?_;refine aw (P:=λr=>match r with|.inl y=>y.1=((i+1:Nat):Int)/\y.2=x|.inr _=>True) ?_ ?_
   .refine aX (λy=>y.2=x) ?_ ?_
    .refine aw (h_ _) λ_ _=>dY (λ_=>al rfl) λ_=>?_
     exact aw (Ji 5 (by omega) _ (by dsimp only;omega) M) λ_ _=>al rfl
    rintro⟨b,y⟩ e;dsimp only at e;subst e;exact aO (λ_=>al trivial) λ_=>al ⟨gL (by omega),rfl⟩
   .rintro (y|y) U
    .exact al U
    .exact al trivial
 .rintro⟨a,y⟩ ⟨e1,e2⟩;dsimp only at e1 e2;subst e1;subst e2;exact du (al trivial)
theorem vM (l:List DT) (s:List UInt8) (hl:l.length<=1000):Ok (gP (l,s)) λr=> -1<=r/\r<(l.length:Int):=by
 unfold gP bu bF aU cK aD cw;refine ci l.length (λi x=>x=(i:Int)) ?_ ?_ rfl
 .rintro i x hi rfl;refine dz ?_;refine cC (aS ?_);exact aJ (λ_=>al ⟨by omega,by omega⟩) λ_=>al (gL (by omega))
 .rintro x rfl;exact du (al ⟨by omega,by omega⟩)
theorem rz (l:List HT) (s:List UInt8) (hl:l.length<=1000):Ok (gA (l,s)) λr=> -1<=r/\r<(l.length:Int):=by
 unfold gA bu bF aU cK aD cw;refine ci l.length (λi x=>x=(i:Int)) ?_ ?_ rfl
 .rintro i x hi rfl;refine dz ?_;refine cC (aS ?_);exact aJ (λ_=>al ⟨by omega,by omega⟩) λ_=>al (gL (by omega))
 .rintro x rfl;exact du (al ⟨by omega,by omega⟩)
def DD (p:PG) (s:List UInt8):Prop:=∃ v,gP (p.1,s)=aa v/\0<=v/\v<(p.1.length:Int)
theorem Xb (p:PG) (h:PX p) (t:Int) (s:List UInt8):Ok (o6 (p,t,s)) λk=>k≠0->k≠7->k≠8->DD p s:=by
 have hd:=h.d;have ht:=h.t;unfold o6 bc bu jC iL vP bF aU aD;refine aX (λx=>x.2=p) ?_ ?_
 .refine fm (λM=>bB (λJ=>?_) λ_=>al rfl) λ_=>al rfl
  dsimp only[ar] at M J;refine aQ M J (aS ?_);have hm:=h.l _ (bH (T:=xA) (xs:=p.2) (j:=t) M J);exact aw (xo _ s (c_ hm (by omega))) λ_ _=>al rfl
 rintro⟨b,x⟩ e;dsimp only at e;have e:=e.symm;subst e;refine aO (λ_=>al λ_ _ h=>(h rfl).elim) λ_=>?_
 obtain⟨v,hv,v0,v1⟩:=vM p.1 s (by omega);refine aT hv ?_;refine bB (λ_=>?_) λg=>?_
 .exact aw (rz p.2 s (by omega)) λ_ _=>fm (λ_=>al λ_ h=>(h rfl).elim) λ_=>al λh=>(h rfl).elim
 have I:DD p s:=⟨v,hv,g,v1⟩
 refine aQ g v1 (aS ?_);refine aJ (λ_=>?_) λ_=>?_
 .exact aQ g v1 (aS (b7 (λ_=>al λ_ _ _=>I) λ_=>al λ_ _ _=>I))
 refine aJ (λ_=>al λ_ _ _=>I) λ_=>?_
 refine aX (λx=>x.2=p) (aJ (λ_=>al rfl) λ_=>aJ (λ_=>al rfl) λ_=>aJ (λ_=>al rfl) λ_=>al rfl) ?_;rintro⟨b,x⟩ e;dsimp only at e;have e:=e.symm;subst e;exact aO (λ_=>aQ g v1 (aS (al λ_ _ _=>I))) λ_=>al λ_ _ _=>I
theorem oq (p:PG) (h:PX p) (t:Int) (s:List UInt8) (a b:Int):Ok (gk (p,t,s,a,b)) λr=>r=0->(a≠7/\a≠8)->(b≠7/\b≠8)->DD p s:=by
 unfold gk aV bk di bc iL aD;refine aw (Xb p h t s) λk hk=>?_
 refine aJ (λ_=>al λh=>(by cases h)) λg=>?_
 refine aX (λx=>x=ai->k=a\/k=b) ?_ ?_
 .refine b7 (λ_=>al λh=>?_) λh=>al λ_=>.inl h
  simp at h;exact .inr h
 rintro x I;refine aO (λ_=>al λh=>(by cases h)) λh=>al λ_ h1 h2=>hk g ?_ ?_
 .rcases I h with h|h<;>omega
 .rcases I h with h|h<;>omega
theorem Lh:∀ (n d:Nat) (e:Xp),d<n->GX d e->Ok (mM n e) λ_=>True
 |0,_,_,h,_=>by omega
 |n+1,0,_,_,h=>h.elim
 |n+1,d+1,e,hn,h=>by
  obtain⟨h1,h2⟩:=h;rw[w7];unfold s_ bu bF cK aD cw;refine ci e.l.length (λi x=>x.1.2.2=(i:Int)/\x.2=e) ?_ ?_ ⟨rfl,eT e⟩
  .rintro i ⟨⟨a,b,c⟩,z⟩ hi ⟨e1,e2⟩;dsimp only at e1 e2;subst e1;subst e2;refine dz ?_;refine cC (aS ?_);refine aw (Lh n d _ (by omega) (h2 _ (bH (T:=.ex) (xs:=z.l) (j:=(i:Int)) (by omega) (by omega)))) λ_ _=>al ?_
   exact⟨gL (by omega),eT z⟩
  .rintro⟨⟨a,b,c⟩,z⟩ ⟨e1,e2⟩;dsimp only at e1 e2;subst e1;subst e2;exact du (al trivial)
theorem Ev (p:PG) (hp:PX p) (t:Int):∀ (n d:Nat) (e:Xp),d<n->GX d e->Ok (mL n (p,t,e)) λ_=>True
 |0,_,_,h,_=>by omega
 |n+1,0,_,_,h=>h.elim
 |n+1,d+1,e,hn,h=>by
  obtain⟨h1,h2⟩:=h;rw[wZ];unfold s9 bc bu bF cK aD cw;refine aX (λx=>x.2.1=p/\x.2.2=e) ?_ ?_
  .refine aJ (λ_=>aw (oq p hp t _ _ _) λ_ _=>al ⟨rfl,eT e⟩) λ_=>aJ (λ_=>aw (oq p hp t _ _ _) λ_ _=>al ⟨rfl,eT e⟩) λ_=>al ⟨rfl,eT e⟩
  rintro⟨r,M,e'⟩ ⟨J,I⟩;dsimp only at J I;have J:=J.symm;subst J;have I:=I.symm;subst I;refine pn (λx=>((e.l.length:Int)-x.1.2).toNat) (λx=>0<=x.1.2/\x.2.1=p/\x.2.2=e) ?_ ⟨eD _,rfl,eT e⟩;rintro⟨⟨a,(b:Int)⟩,M,e'⟩ ⟨b0,J,I⟩;dsimp only at b0 J I;have J:=J.symm;subst J;have I:=I.symm;subst I;refine aX (λx=>x.2.1=p/\x.2.2=e/\(x.1=ah->b<(e.l.length:Int))) ?_ ?_
  .exact bB (λg=>al ⟨rfl,eT e,λ_=>g⟩) λ_=>al ⟨rfl,eT e,λh=>(by cases h)⟩
  rintro⟨c,M,e'⟩ ⟨J,I,U⟩;dsimp only at J I U;have J:=J.symm;subst J;have I:=I.symm;subst I;refine aO (λhc=>?_) λ_=>al trivial
  have g:=U hc;refine aQ b0 g (aS ?_);refine aw (Ev p hp t n d _ (by omega) (h2 _ (bH (T:=.ex) (xs:=e.l) (j:=b) b0 g))) λ_ _=>al ?_
  dsimp only;rw[gU (n:=b+1) (by omega) (by omega)];exact⟨⟨by omega,rfl,eT e⟩,by omega⟩
theorem vL (p:PG) (hp:PX p) (t:Int) (e:Xp) (h:GX 4 e):Ok (lQ (p,t,e)) λ_=>True:=by
 unfold lQ bu aD;have M:GX 4 (dQ (Xp.op e,Xp.n e,Xp.name e,Xp.l e)):=by rw[eT];exact h
 refine aw (fU _ M) λ_ _=>dY (λ_=>al trivial) λ_=>?_
 refine aw (Lh fuel 4 _ (by rw[jA];omega) M) λ_ _=>?_
 refine aX (λx=>x.2.1=p/\x.2.2=e) (bB (λ_=>al ⟨rfl,eT e⟩) λ_=>al ⟨rfl,eT e⟩) ?_;rintro⟨r,U,e'⟩ ⟨J,I⟩;dsimp only at J I;have J:=J.symm;subst J;have I:=I.symm;subst I;exact aO (λ_=>al trivial) λ_=>aw (Ev p hp t fuel 4 _ (by rw[jA];omega) M) λ_ _=>al trivial
theorem e9 (b:Bool):Ok (cS b) λ_=>True:=by
 unfold cS;exact aO (λ_=>al trivial) λ_=>al trivial
theorem sL (x:Int×Int):Ok (iF x) λr=>r=0->x.1=0/\x.2=0:=by
 unfold iF iL;exact b7 (λh=>al λh2=>(h h2).elim) λh=>al λh2=>⟨h,h2⟩
abbrev WK:Type:=(List DT×List HT×Int)×(Bool×List Sx)×List (List UInt8)×List (List UInt8)
theorem VH (a b:Int) (s:List UInt8) (w:WK) (h:w.2.1.2.length<=100):Ok (dK ((a,b,s),w)) λy=>y.2=w:=by
 unfold dK aV bc bu kj aU cK aD cw;refine ci w.2.1.2.length (λi x=>x.1=(i:Int)/\x.2=w) ?_ ?_ ⟨rfl,rfl⟩
 .rintro i ⟨c,x⟩ hi ⟨e1,e2⟩;dsimp only at e1 e2;subst e1;have e2:=e2.symm;subst e2;refine dz ?_;refine cC (cC (aS ?_));refine aX (λx=>x.2=w) ?_ ?_
  .refine aJ (λ_=>aJ (λ_=>al rfl) λ_=>al rfl) λ_=>aJ (λ_=>aJ (λ_=>al rfl) λ_=>al rfl) λ_=>al rfl
  rintro⟨c,x⟩ e;dsimp only at e;have e:=e.symm;subst e;exact aO (λ_=>al rfl) λ_=>al ⟨gL (by omega),rfl⟩
 .rintro⟨c,x⟩ ⟨e1,e2⟩;dsimp only at e1 e2;subst e1;have e2:=e2.symm;subst e2;exact du (al rfl)
def NK:Nat->Sx->Nat
 |0,_=>0
 |d+1,s=>1+(s.body.map (NK d)).sum+(s.els.map (NK d)).sum
def mU (d:Nat) (l:List Sx):Nat:=(l.map (NK d)).sum
def KS:Nat->Nat
 |0=>0
 |d+1=>1+16*KS d
theorem L6 {α:Type} {f:α->Nat} {k:Nat}:∀ {l:List α},(∀ x∈l,f x<=k)->(l.map f).sum<=l.length*k
 |[],_=>by simp
 |x::r,h=>by
  have:=L6 (l:=r) λy I=>h y (cN _ I)
  have:=h x (dH ..);rw[fY,List.sum_cons,bU,iz];omega
theorem Ti:∀ {d:Nat} {s:Sx},GT d s->NK d s<=KS d
 |0,_,h=>h.elim
 |d+1,s,⟨_,_,_,Y,U,M,J⟩=>by
  have a:=L6 (f:=NK d) (l:=s.body) λx I=>Ti (M x I)
  have b:=L6 (f:=NK d) (l:=s.els) λx I=>Ti (J x I)
  have c:=cz (KS d) Y;have e:=cz (KS d) U;show 1+_+_<=1+16*KS d;omega
theorem M':∀ {d:Nat} {s:Sx},GT d s->NK (d+1) s=NK d s
 |0,_,h=>h.elim
 |d+1,s,⟨_,_,_,_,_,M,J⟩=>by
  show 1+(s.body.map (NK (d+1))).sum+(s.els.map (NK (d+1))).sum=1+(s.body.map (NK d)).sum+(s.els.map (NK d)).sum;rw[lK λx I=>M' (M x I),lK λx I=>M' (J x I)]
theorem YW {d:Nat} {l:List Sx} (h:∀ s∈l,GT d s):mU d l<=l.length*KS d:=L6 λx I=>Ti (h x I)
theorem vD {d:Nat} {l:List Sx} {i:Nat} (hi:i<l.length):mU d (l.take (i+1))=mU d (l.take i)+NK d (aH (T:=.sm) l (i:Int)):=by
 unfold mU;rw[nC (T:=.sm) hi,cI,D_];simp
theorem Na {d:Nat} (l:List Sx) (i:Nat):mU d (l.take i)<=mU d l:=by
 conv=>rhs;rw[<- Aa i l]
 unfold mU;rw[cI,D_];omega
theorem DF:∀ (n d:Nat) (l:List Sx),d<n->l.length<=1000->(∀ s∈l,GT d s)->KS d<=100000->mN n l=aa ((mU d l:Nat):Int)
 |0,_,_,h,_,_,_=>by omega
 |n+1,d,l,hn,hl,h,J=>by
  refine cE ?_;rw[w9];unfold ta bu vP aU cK aD cw;have hb:=YW h;have I:=Nat.mul_le_mul hl J;refine ci l.length (λi x=>x.2=(i:Int)/\x.1=(l.length:Int)-i+(mU d (l.take i):Nat)) ?_ ?_ ⟨rfl,by simp[mU]⟩
  .rintro i ⟨a,b⟩ hi ⟨e1,e2⟩;dsimp only at e1 e2;subst e1;subst e2;have hp:=Na (d:=d) l (i+1);rw[vD hi] at hp;refine dz ?_;refine cC (aS ?_);rw[vD hi];have hm:=h _ (bH (T:=.sm) (xs:=l) (j:=(i:Int)) (by omega) (by omega));revert hm hp;generalize (aH (T:=.sm) l (i:Int))=s;intro hp hm;cases d with
   |zero=>exact hm.elim
   |succ d=>
    obtain⟨_,_,_,Z,Y,U,M⟩:=hm;have hk:KS (d+1)=1+16*KS d:=rfl;have hc:NK (d+1) s=1+mU d s.body+mU d s.els:=rfl;rw[hc] at hp ⊢;refine aT (DF n d _ (by omega) (by omega) U (by omega)) ?_;refine cC (aS ?_);refine aT (DF n d _ (by omega) (by omega) M (by omega)) (al ⟨gL (by omega),?_⟩);dsimp only;rw[gU (n:=(l.length:Int)-i+(mU (d+1) (l.take i):Nat)+(mU d s.body:Nat)) (by omega) (by omega),gU (by omega) (by omega)];omega
  .rintro⟨a,b⟩ ⟨e1,e2⟩;dsimp only at e1 e2;subst e1;subst e2;rw[cL];exact du (al (by dsimp only;omega))
theorem Sw (l:List DT) (hl:l.length<=100):Ok (qv l) λ_=>True:=by
 unfold qv aV bk bt bI di eU bc bu jC iL bA bF aU cK aD cw;refine ci l.length (λi x=>x.2.2.2.2=(i:Int)) ?_ ?_ rfl
 .rintro i ⟨a,b,c,d,e⟩ hi e1;dsimp only at e1;subst e1;refine dz ?_;refine aX (λ_=>True) ?_ λx _=>al (gL (by omega))
  refine cC (aS ?_);have htk:(dF (aR (i:Int)) l).length<=100:=by rw[bz];omega
  refine cZ (dV (by dsimp only;omega) (dV (by dsimp only;omega) ?_));refine aw (vM _ _ (c_ htk (by omega))) λv hv=>?_
  refine fm (λ_=>al trivial) λ_=>bB (λ_=>al trivial) λ_=>?_
  refine aX (λ_=>True) ?_ λx _=>?_
  .refine aX (λ_=>True) (aJ (λ_=>al trivial) λ_=>al trivial) λx _=>aO (λ_=>al trivial) λ_=>?_
   refine aX (λ_=>True) (aJ (λ_=>al trivial) λ_=>al trivial) λx _=>aO (λ_=>al trivial) λ_=>?_
   exact aJ (λ_=>al trivial) λ_=>al trivial
  refine aX (λ_=>True) (bB (λ_=>al trivial) λ_=>bB (λ_=>al trivial) λ_=>bB (λ_=>al trivial) λ_=>al trivial) λx _=>aO (λ_=>al trivial) λ_=>?_
  refine aJ (λ_=>?_) λ_=>al trivial
  refine cZ (dV (by dsimp only;omega) (dV (by dsimp only;omega) ?_));refine aw (vM _ _ (c_ htk (by omega))) λv hv=>?_
  refine bB (λ_=>al trivial) λg=>?_
  have h2:=hv.2;rw[bz] at h2;exact aQ g (by dsimp only at h2 ⊢;omega) (aS (b7 (λ_=>al trivial) λ_=>al trivial))
 .rintro⟨a,b,c,d,e⟩ e1;dsimp only at e1;subst e1;exact du (al trivial)
theorem L3 (p:PG) (h:PX p):Ok (m7 p) λ_=>True:=by
 have hd:=h.d;have ht:=h.t;unfold m7 aV bk bt bu jC bA bF aU cK aD cw;refine ci p.2.length (λi x=>x.1=(i:Int)/\x.2=p) ?_ ?_ ⟨rfl,rfl⟩
 .rintro i ⟨a,x⟩ hi ⟨e1,e2⟩;dsimp only at e1 e2;subst e1;have e2:=e2.symm;subst e2;refine dz ?_;refine cC (aS ?_);refine aX (λx=>x.2.1=p) ?_ ?_
  .refine aw (vM _ _ (by dsimp only;omega)) λv hv=>fm (λ_=>al rfl) λ_=>?_
   refine cZ (dV (by dsimp only;omega) (dV (by dsimp only;omega) ?_));exact aw (rz _ _ (by rw[bz];dsimp only;omega)) λ_ _=>al rfl
  rintro⟨b,x,z⟩ e;dsimp only at e;have e:=e.symm;subst e;exact aO (λ_=>al trivial) λ_=>al ⟨gL (by omega),rfl⟩
 rintro⟨a,x⟩ ⟨e1,e2⟩;dsimp only at e1 e2;subst e1;have e2:=e2.symm;subst e2;refine du ?_;refine aw (P:=λ_=>True) ?_ λ_ _=>al trivial
 refine ci p.2.length (λi x=>x.1=(i:Int)/\x.2=p) ?_ ?_ ⟨rfl,rfl⟩
 .rintro i ⟨a,x⟩ hi ⟨e1,e2⟩;dsimp only at e1 e2;subst e1;have e2:=e2.symm;subst e2;refine dz ?_;refine cC (aS ?_);have hm:=h.l _ (bH (T:=xA) (xs:=p.2) (j:=(i:Int)) (by omega) (by omega));revert hm;generalize (aH (T:=xA) p.2 (i:Int))=t;intro hm;refine bB (λ_=>al trivial) λ_=>?_
  refine ci t.2.2.1.length (λk y=>y.1=(k:Int)/\y.2=(p,t)) ?_ ?_ ⟨rfl,rfl⟩
  .rintro k ⟨a,z⟩ hk ⟨J,I⟩;dsimp only at J I;subst J;subst I;refine dz ?_;refine cC (aS ?_);refine aX (λx=>x.2=(p,t)) ?_ ?_
   .refine aw (vM _ _ (by dsimp only;omega)) λv hv=>fm (λ_=>al rfl) λ_=>?_
    refine aw (rz _ _ (by dsimp only;omega)) λv hv=>fm (λ_=>al rfl) λ_=>?_
    refine cZ (dV (by dsimp only;omega) (dV (by dsimp only;omega) ?_));exact aw (xo _ _ (by rw[bz];dsimp only;omega)) λ_ _=>al rfl
   rintro⟨b,x⟩ e;dsimp only at e;subst e;exact aO (λ_=>al trivial) λ_=>al ⟨gL (by omega),rfl⟩
  .rintro⟨a,z⟩ ⟨J,I⟩;dsimp only at J I;subst J;subst I;exact du (al ⟨gL (by omega),rfl⟩)
 .rintro⟨a,x⟩ ⟨e1,e2⟩;dsimp only at e1 e2;subst e1;have e2:=e2.symm;subst e2;exact du (al trivial)
structure WQ (w:WK) (y:Int×WK):Prop where
 p:y.2.1=w.1
 a:y.2.2.1=w.2.1
 s:y.2.2.2.1.length<=w.2.2.1.length+1
 t:y.2.2.2.2.length<=w.2.2.2.length+1
theorem WQ.same (w:WK) (e:Int):WQ w (e,w):=⟨rfl,rfl,Nat.le_succ _,Nat.le_succ _⟩
theorem ae4 (s:Sx) (D:List DT) (T:List HT) (t:Int) (A:Bool×List Sx) (sp se:List (List UInt8)) (hp:PX (D,T)) (hA:A.2.length<=100) (h1:sp.length<=100000000) (h2:se.length<=100000000) (J:∀ e∈s.index,GX 4 e) (he:GX 4 s.expr):Ok (lP (s,((D,T,t),A,sp,se))) (WQ ((D,T,t),A,sp,se)):=by
 have hex:GX 4 (dQ (Xp.op s.expr,Xp.n s.expr,Xp.name s.expr,Xp.l s.expr)):=by rw[eT];exact he
 have hin:∀ (a b:Int) (n:List UInt8),Ok (dK ((a,b,n),((D,T,t),A,sp,se))) λy=>y.2=((D,T,t),A,sp,se):=λa b n=>VH a b n _ hA
 have hth:T.length<=1000:=by have:=hp.t;dsimp only at this;omega
 have hdl:D.length<=1000:=by have:=hp.d;dsimp only at this;omega
 have sm:∀ e,WQ ((D,T,t),A,sp,se) (e,((D,T,t),A,sp,se)):=WQ.same _;unfold lP aV bk bt ct bI di cQ eU bc jC iL bA bF aD dS;refine aw (hin _ _ _) λy I=>?_
 obtain⟨b1,M⟩:=y;dsimp only at I;subst I;refine ba (by simp) ?_;refine aw (hin _ _ _) λy I=>?_
 obtain⟨Z,M⟩:=y;dsimp only at I;subst I;refine ba (by simp) ?_;refine aw (hin _ _ _) λy I=>?_
 obtain⟨Y,M⟩:=y;dsimp only at I;subst I;refine ba (by simp) ?_;refine aJ (λ_=>?_) λ_=>?_
 .refine aJ (λ_=>?_) λg=>?_
  .exact aw (oq _ hp _ _ _ _) λ_ _=>aw (vL _ hp _ _ hex) λ_ _=>aw (sL _) λ_ _=>al (sm _)
  .refine aw (oq _ hp _ _ _ _) λ_ _=>?_
   dsimp only[ar] at g;refine cC (aS ?_);refine aw (vL _ hp _ _ (J _ (bH (T:=.ex) (xs:=s.index) (j:=0) (by omega) (by omega)))) λ_ _=>?_
   exact aw (vL _ hp _ _ hex) λ_ _=>aw (sL _) λ_ _=>aw (sL _) λ_ _=>al (sm _)
 refine aX (λx=>x.2=((D,T,t),A,s,(D,T),sp,se)) (aJ (λ_=>al (by dsimp only;rw[wR])) λ_=>al (by dsimp only;rw[wR])) ?_;rintro⟨b,x⟩ e;dsimp only at e;subst e;refine aO (λ_=>aw (vL _ hp _ _ hex) λ_ _=>al (sm _)) λ_=>?_
 refine aJ (λ_=>?_) λ_=>?_
 .refine aX (λx=>WQ ((D,T,t),A,sp,se) x) ?_ λx J=>al J
  refine aw (oq _ hp _ _ _ _) λ_ _=>aO (λ_=>?_) λ_=>?_
  .exact aw (e9 _) λ_ _=>aw (sL _) λ_ _=>al (sm _)
  .refine aw (hin _ _ _) λy I=>?_
   obtain⟨U,M⟩:=y;dsimp only at I;subst I;exact ba (by simp) (aw (e9 _) λ_ _=>aw (sL _) λ_ _=>al (sm _))
 refine aX (λx=>x.2=((D,T,t),A,s,(D,T),sp,se)) (aJ (λ_=>al (by dsimp only;rw[wR])) λ_=>al (by dsimp only;rw[wR])) ?_;rintro⟨b,x⟩ e;dsimp only at e;subst e;refine aO (λ_=>?_) λ_=>?_
 .refine aX (λx=>WQ ((D,T,t),A,sp,se) x) ?_ λx J=>al J
  refine aw (oq _ hp _ _ _ _) λ_ _=>aO (λ_=>?_) λ_=>?_
  .exact aw (e9 _) λ_ _=>aw (sL _) λ_ _=>al (sm _)
  .refine aw (hin _ _ _) λy I=>?_
   obtain⟨U,M⟩:=y;dsimp only at I;subst I;exact ba (by simp) (aw (e9 _) λ_ _=>aw (sL _) λ_ _=>al (sm _))
 refine aJ (λ_=>aw (e9 _) λ_ _=>al (sm _)) λ_=>?_
 refine aJ (λ_=>?_) λ_=>?_
 .refine aX (λx=>WQ ((D,T,t),A,sp,se) x) ?_ λx J=>al J
  exact aO (λ_=>aw (e9 _) λ_ _=>al (sm _)) λ_=>aw (e9 _) λ_ _=>al (sm _)
 refine aX (λx=>x.2=((D,T,t),A,s,(D,T),sp,se)) (aJ (λ_=>al (by dsimp only;rw[wR])) λ_=>aJ (λ_=>al (by dsimp only;rw[wR])) λ_=>al (by dsimp only;rw[wR])) ?_;rintro⟨b,x⟩ e;dsimp only at e;subst e;refine aO (λ_=>?_) λ_=>?_
 .refine aw (oq _ hp _ _ _ _) λr hr=>b7 (λ_=>al (sm _)) λg=>?_
  obtain⟨v,hv,v0,v1⟩:=hr g (by omega) (by omega);refine aT hv (aQ v0 v1 (aS ?_));refine aw (hin _ _ _) λy I=>?_
  obtain⟨U,M⟩:=y;dsimp only at I;subst I;refine ba (by simp) ?_;refine aX (λx=>WQ ((D,T,t),A,sp,se) x) ?_ λx J=>al J
  refine aO (λ_=>aw (e9 _) λ_ _=>al (sm _)) λ_=>dY (λ_=>aw (e9 _) λ_ _=>al (sm _)) λ_=>?_
  exact aJ (λ_=>aw (e9 _) λ_ _=>al (sm _)) λ_=>aw (e9 _) λ_ _=>al (sm _)
 refine aJ (λ_=>?_) λ_=>?_
 .refine aw (oq _ hp _ _ _ _) λr hr=>b7 (λ_=>al (sm _)) λg=>?_
  refine aw (rz T _ hth) λv hv=>?_
  refine aX (λx=>x.2=((D,T,t),A,s,sp,se)) ?_ ?_
  .refine aO (λ_=>al (by dsimp only;rw[wR])) λ_=>aO (λ_=>al (by dsimp only;rw[wR])) λ_=>aO (λ_=>al (by dsimp only;rw[wR])) λ_=>aJ (λ_=>al (by dsimp only;rw[wR])) λ_=>al (by dsimp only;rw[wR])
  rintro⟨b,x⟩ e;dsimp only at e;subst e;refine aO (λ_=>al (sm _)) λ_=>?_
  refine aw (xo sp _ (by omega)) λ_ _=>fm (λ_=>al (sm _)) λ_=>?_
  exact bg (by simp;omega) (by omega) (al ⟨rfl,rfl,by simp,Nat.le_succ _⟩)
 refine aJ (λ_=>?_) λ_=>?_
 .refine aX (λx=>WQ ((D,T,t),A,sp,se) x) ?_ λx J=>al J
  refine aw (oq _ hp _ _ _ _) λr hr=>?_
  refine aO (λ_=>aw (e9 _) λ_ _=>aw (sL _) λ_ _=>al (sm _)) λ_=>?_
  refine aO (λ_=>aw (e9 _) λ_ _=>aw (sL _) λ_ _=>al (sm _)) λ_=>?_
  exact aw (rz T _ hth) λv hv=>aw (e9 _) λ_ _=>aw (sL _) λ_ _=>al (sm _)
 refine aJ (λ_=>?_) λ_=>?_
 .refine aX (λx=>x.2=((D,T,t),A,s,(D,T),sp,se)) ?_ ?_
  .refine aw (oq _ hp _ _ _ _) λr hr=>?_
   exact aO (λ_=>aw (e9 _) λ_ _=>aw (sL _) λ_ _=>al (by dsimp only;rw[wR])) λ_=>aw (e9 _) λ_ _=>aw (sL _) λ_ _=>al (by dsimp only;rw[wR])
  rintro⟨b,x⟩ e;dsimp only at e;subst e;refine aX (λx=>x.2=((D,T,t),A,s,(D,T),sp,se)) ?_ ?_
  .refine aX (λx=>x.2=((D,T,t),A,s,(D,T),sp,se)) ?_ ?_
   .exact aJ (λ_=>aw (xo se _ (by omega)) λ_ _=>al (by dsimp only;rw[wR])) λ_=>al (by dsimp only;rw[wR])
   rintro⟨b,x⟩ e;dsimp only at e;subst e;exact aO (λ_=>al (by dsimp only;rw[wR])) λ_=>al (by dsimp only;rw[wR])
  rintro⟨b,x⟩ e;dsimp only at e;subst e;refine bg (by simp;omega) (by omega) ?_;exact aw (vL _ hp _ _ hex) λ_ _=>aw (sL _) λ_ _=>al ⟨rfl,rfl,Nat.le_succ _,by simp⟩
 exact aw (oq _ hp _ _ _ _) λ_ _=>aw (oq _ hp _ _ _ _) λ_ _=>aw (e9 _) λ_ _=>aw (sL _) λ_ _=>aw (sL _) λ_ _=>al (sm _)
abbrev RA4:Type:=(List Sx×WK)->Option ((Int×Int)×WK)
structure QA (l:List Sx) (d:Nat) (w:WK) (y:(Int×Int)×WK):Prop where
 p:y.2.1=w.1
 a:y.2.2.1.2.length=w.2.1.2.length
 s:y.2.2.2.1.length<=w.2.2.1.length+l.length*KS d
 t:y.2.2.2.2.length<=w.2.2.2.length+l.length*KS d
def SpA (rr:RA4) (d:Nat):Prop:=∀ (l:List Sx) (w:WK),l.length<=100->(∀ s∈l,GT d s)->PX (w.1.1,w.1.2.1)->w.2.1.2.length+d<=50->w.2.2.1.length+l.length*KS d<=100000000->w.2.2.2.length+l.length*KS d<=100000000->Ok (rr (l,w)) (QA l d w)
theorem aav (rr:RA4) (d:Nat) (hr:∀ d',d=d'+1->SpA rr d'):SpA (lY rr) d:=by
 rintro l ⟨⟨D,T,t⟩,A,sp,se⟩ hl hg hp hA h1 h2;dsimp only at hp hA h1 h2;have hK:∀ i:Nat,i<=l.length->i*KS d<=l.length*KS d:=λi hi=>cz _ hi
 unfold lY aV bk bt bI di cQ ck bc bu iL bA bF aU cK aD cw dS;refine ci l.length (λi x=>x.1=(i:Int)/\x.2.1=(D,T,t)/\x.2.2.1.2.length=A.2.length/\x.2.2.2.1.length<=sp.length+i*KS d/\x.2.2.2.2.length<=se.length+i*KS d) ?_ ?_ ⟨rfl,rfl,rfl,by simp,by simp⟩
 .rintro i ⟨a,P,A',sp',se'⟩ hi ⟨e1,e2,e3,U,M⟩;dsimp only at e1 e2 e3 U M;subst e1;subst e2;have hKi:=hK (i+1) (by omega);have hKs:=iz i (KS d);rw[Nat.succ_eq_add_one] at hKs;refine dz ?_;refine cC (aS ?_);have hm:=hg _ (bH (T:=.sm) (xs:=l) (j:=(i:Int)) (by omega) (by omega));revert hm;generalize (aH (T:=.sm) l (i:Int))=s;intro hm;cases d with
  |zero=>exact hm.elim
  |succ d=>
   have hR:=hr d rfl;obtain⟨_,g2,g3,g4,g5,g6,g7⟩:=hm;have hk:KS (d+1)=1+16*KS d:=rfl;have kb:s.body.length*KS d<=8*KS d:=cz _ g4;have ke:s.els.length*KS d<=8*KS d:=cz _ g5;dsimp only;rw[wR];refine aw (ae4 s D T t A' sp' se' hp (by omega) (by omega) (by omega) g2 g3) λy J=>?_
   obtain⟨e,P2,A2,sp2,se2⟩:=y;obtain⟨q1,I,q3,q4⟩:=J;dsimp only at q1 I q3 q4;subst q1;subst I;refine ba (by simp) ?_;refine aX (λx=>x.2=((D,T,t),s,A2,sp2,se2)) (bB (λ_=>al rfl) λ_=>al rfl) ?_;rintro⟨e,x⟩ ex;dsimp only at ex;subst ex;refine b7 (λ_=>al ⟨rfl,e3,by dsimp only;omega,by dsimp only;omega⟩) λ_=>?_
   refine bg (by simp;omega) (by omega) (aQ (by simp) (by simp;omega) (aQ (by simp) (by simp;omega) ?_));dsimp only;rw[wR];refine aw (hR s.body ((D,T,t),(A2.1,cJ (A2.2++[_]) _ s),sp2,se2) (by omega) g6 hp ?_ ?_ ?_) λy J=>?_
   .dsimp only;rw[bT];simp;omega
   .dsimp only;omega
   .dsimp only;omega
   obtain⟨e6,P6,A6,sp6,se6⟩:=y;obtain⟨q1,I,q5,q6⟩:=J;dsimp only at q1 I q5 q6;subst q1;rw[bT,bn,gg] at I;refine ba (by simp) ?_;refine aX (λx=>x.2.1=(D,T,t)/\x.2.2.1.2.length=A2.2.length+1/\x.2.2.2.1.length<=sp2.length+16*KS d/\x.2.2.2.2.length<=se2.length+16*KS d) ?_ ?_
   .refine aJ (λ_=>?_) λ_=>al ⟨rfl,I,by dsimp only;omega,by dsimp only;omega⟩
    refine aw (hR s.els ((D,T,t),A6,sp6,se6) (by omega) g7 hp (by dsimp only;omega) (by dsimp only;omega) (by dsimp only;omega)) λy J=>?_
    obtain⟨e7,P7,A7,sp7,se7⟩:=y;obtain⟨r1,r2,Z,Y⟩:=J;dsimp only at r1 r2 Z Y;subst r1;exact ba (by simp) (al ⟨rfl,r2.trans I,by dsimp only;omega,by dsimp only;omega⟩)
   rintro⟨e8,P8,A8,sp8,se8⟩ ⟨r1,r2,Z,Y⟩;dsimp only at r1 r2 Z Y;subst r1;have el:be .i64 ((aN A8.2.length)-1)=(A2.2.length:Int):=by
    rw[r2,gU (by simp<;>omega) (by simp<;>omega)];simp<;>omega
   dsimp only;rw[el];have tk:(dF (aR (A2.2.length:Int)) A8.2).length=A2.2.length:=by rw[bz];omega
   refine cZ (dV (by omega) (yJ (by rw[r2];omega) ?_));refine b7 (λ_=>al ⟨rfl,by dsimp only;omega,by dsimp only;omega,by dsimp only;omega⟩) λ_=>al ?_
   exact⟨gL (by omega),rfl,by dsimp only;omega,by dsimp only;omega,by dsimp only;omega⟩
 .rintro⟨a,P,A',sp',se'⟩ ⟨e1,e2,e3,U,M⟩;dsimp only at e1 e2 e3 U M;subst e1;subst e2;exact du (al ⟨rfl,e3,U,M⟩)
theorem UP:∀ (n d:Nat),d<n->SpA (ii n) d
 |0,_,h=>by omega
 |n+1,d,h=>aav (ii n) d λI hd=>UP n I (by omega)
theorem CP (p:PG) (h:PX p):Ok (eV p) λr=>r.1=0->(p.2.map λt=>mU 5 t.2.2.2).sum<=60:=by
 have hd:=h.d;have ht:=h.t;unfold eV aV bk bt bI cQ bu iL bA bF aU cK aD cw;refine aw (WV p h) λ_ _=>dY (λ_=>al λh=>(by cases h)) λ_=>?_
 refine aw (Sw p.1 hd) λ_ _=>b7 (λhn=>al λh=>(hn h).elim) λ_=>bB (λ_=>al λh=>(by cases h)) λ_=>?_
 refine aw (L3 p h) λ_ _=>b7 (λhn=>al λh=>(hn h).elim) λ_=>?_
 have J:KS 5=69905:=rfl;refine ci p.2.length (λi x=>x.1.2=(i:Int)/\x.2=p/\x.1.1=((((p.2.take i).map λt=>mU 5 t.2.2.2).sum:Nat):Int)/\(x.1.1:Int)<=((i*6990500:Nat):Int)) ?_ ?_ ⟨rfl,rfl,by simp,by simp⟩
 .rintro i ⟨⟨(c:Int),a⟩,x⟩ hi ⟨e1,e2,e3,I⟩;dsimp only at e1 e2 e3 I;subst e1;have e2:=e2.symm;subst e2;refine dz ?_;refine cC (aS ?_);have hm:=bH (T:=xA) (xs:=p.2) (j:=(i:Int)) (by omega) (by omega);have hb:=h.b _ hm;have hcb:=YW (h.s _ hm);have hcb2:=cz (KS 5) hb;rw[J] at hcb hcb2;refine aT (DF fuel 5 _ (by rw[jA];omega) (c_ hb (by omega)) (h.s _ hm) (by rw[J];omega)) (al ⟨gL (by omega),rfl,?_,?_⟩)
  .dsimp only;rw[nC (T:=xA) hi,cI,D_,gU (by omega) (by omega),e3];simp
  .dsimp only;rw[gU (by omega) (by omega)];omega
 rintro⟨⟨(c:Int),a⟩,x⟩ ⟨e1,e2,e3,I⟩;dsimp only at e1 e2 e3 I;subst e1;have e2:=e2.symm;subst e2;rw[cL] at e3;refine du ?_;refine aw (P:=λr=>r.1=0->(p.2.map λt=>mU 5 t.2.2.2).sum<=60) ?_ λ_ h=>al h
 refine bB (λ_=>al λh=>(by cases h)) λM=>?_
 have M:c<=60:=M;refine ci p.2.length (λi x=>x.1=(i:Int)/\x.2.1=p/\x.2.2.1.1=p.1/\x.2.2.1.2.1=p.2/\x.2.2.2.1.2.length=0/\x.2.2.2.2.1.length<=i*6990500/\x.2.2.2.2.2.length<=i*6990500) ?_ ?_ ⟨rfl,rfl,rfl,rfl,rfl,by simp,by simp⟩
 .rintro i ⟨a,x,⟨D,T,t⟩,A,sp,se⟩ hi ⟨e1,e2,e3,I,e5,e6,Z⟩;dsimp only at e1 e2 e3 I e5 e6 Z;subst e1;have e2:=e2.symm;subst e2;subst e3;subst I;refine dz ?_;refine cC (aS ?_);have hm:=bH (T:=xA) (xs:=p.2) (j:=(i:Int)) (by omega) (by omega);have hb:=h.b _ hm;have hs:=h.s _ hm;revert hb hs;dsimp only;generalize (aH (T:=xA) p.2 (i:Int))=th;intro hb hs;have hk:KS 5=69905:=rfl;have hle:th.2.2.2.length*KS 5<=100*KS 5:=cz _ hb;rw[hk] at hle;refine aw (UP fuel 5 (by rw[jA];omega) th.2.2.2 ((p.1,p.2,(i:Int)),A,sp,se) hb hs h (by dsimp only;omega) (by dsimp only;rw[hk];omega) (by dsimp only;rw[hk];omega)) λy Y=>?_
  obtain⟨e,P2,A2,sp2,se2⟩:=y;obtain⟨q1,U,q3,q4⟩:=Y;dsimp only at q1 U q3 q4;subst q1;rw[hk] at q3 q4;refine ba (by simp) (b7 (λhn=>al λh=>(hn h).elim) λ_=>al ?_);exact⟨gL (by omega),rfl,rfl,rfl,by dsimp only;omega,by dsimp only;omega,by dsimp only;omega⟩
 .rintro⟨a,x,P,w⟩ ⟨e1,e2,_⟩;dsimp only at e1 e2;subst e1;have e2:=e2.symm;subst e2;exact du (al λ_=>by omega)
theorem cU {R:Type} {o o':Option R} {Q:R->Prop} (h:o=o') (hk:Ok o' Q):Ok o Q:=h▸hk
def D0:List DT:=[(1,0,[120],0,0,[]),(1,0,[121],0,1,[]),(2,0,[118],0,0,[]),(1,0,[113],2,0,[]),(3,0,[109],0,0,[]),(3,0,[110],0,0,[]),(4,0,[114],0,0,[]),(5,0,[99],0,0,[109]),(6,0,[102],0,0,[])]
def L0:List (List UInt8):=[[97],[98]]
set_option maxHeartbeats 20000000 in
theorem ahh:∃ r,eV (D0,[([109,97,105,110],0,L0,[ne (1,0,[120],[],[],dQ (1,1,[],[]),[],[])])])=aa r/\r.1=0:=by
 suffices h:Ok (eV (D0,[([109,97,105,110],0,L0,[ne (1,0,[120],[],[],dQ (1,1,[],[]),[],[])])])) λr=>r.1=0 by
  obtain⟨y,h1,h2⟩:=h;exact⟨y,h1,h2⟩
 unfold eV aV bk bt bI cQ bu iL bA bF aU cK aD cw;with_reducible repeat' first|exact al rfl|refine Uv ?_|refine Uu ?_|refine Ut ?_|refine Ur ?_|refine Oj ?_|refine aa3 ?_|refine aS ?_|refine fd rfl ?_|refine fA rfl ?_|refine ba rfl ?_|refine Us ?_|refine Ol ?_|refine cU (o7.eq_1 ..) ?_|refine cU (jJ.eq_1 ..) ?_|refine cU (eS.eq_1 ..) ?_|refine cU (jp.eq_1 ..) ?_|refine cU (jY.eq_1 ..) ?_|refine cU (kO.eq_1 ..) ?_|refine cU (oN.eq_1 ..) ?_|refine cU (qw.eq_1 ..) ?_|refine cU (m8.eq_1 ..) ?_|refine cU (je.eq_1 ..) ?_|refine cU (jL.eq_1 ..) ?_|refine cU (lE.eq_1 ..) ?_|refine cU (iM.eq_1 ..) ?_|refine cU (lU.eq_1 ..) ?_|refine cU (oM.eq_1 ..) ?_|refine cU (qv.eq_1 ..) ?_|refine cU (gP.eq_1 ..) ?_|refine cU (m7.eq_1 ..) ?_|refine cU (gA.eq_1 ..) ?_|refine cU (iG.eq_1 ..) ?_|refine cU (Av.eq_1 ..) ?_|refine cU (ta.eq_1 ..) ?_|refine cU (uv.eq_1 ..) ?_|refine cU (lY.eq_1 ..) ?_|refine cU (lP.eq_1 ..) ?_|refine cU (dK.eq_1 ..) ?_|refine cU (gk.eq_1 ..) ?_|refine cU (o6.eq_1 ..) ?_|refine cU (lQ.eq_1 ..) ?_|refine cU (Au.eq_1 ..) ?_|refine cU (s_.eq_1 ..) ?_|refine cU (At.eq_1 ..) ?_|refine cU (s9.eq_1 ..) ?_|refine cU (iF.eq_1 ..) ?_|refine cU (cS.eq_1 ..) ?_|refine cU (ck.eq_1 ..) ?_|refine cU (congrFun (gx dw jA) _) ?_|refine cU (xr _ _) ?_|refine cU (congrFun (gx d_ jA) _) ?_|refine cU (xU _ _) ?_|refine cU (congrFun (gx gQ jA) _) ?_|refine cU (rq _ _) ?_|refine cU (congrFun (gx mN jA) _) ?_|refine cU (w9 _ _) ?_|refine cU (congrFun (gx ii jA) _) ?_|refine cU (AH _ _) ?_|refine cU (congrFun (gx mM jA) _) ?_|refine cU (w7 _ _) ?_|refine cU (congrFun (gx mL jA) _) ?_|refine cU (wZ _ _) ?_
 all_goals trace_state
structure TM (nT:Nat) (t:HT):Prop where
 l:t.2.2.1=L0
 b:t.2.2.2.length<=8
 s:∀ s∈t.2.2.2,GS nT 3 s
structure PJ (p:PG):Prop where
 d:p.1=D0
 t0:1<=p.2.length
 t:p.2.length<=4
 m:∀ t∈p.2,TM p.2.length t
 n:p.2.map Prod.fst=uN.take p.2.length
theorem PJ.x {p:PG} (h:PJ p):PX p:=⟨by rw[h.d];decide,by have:=h.t;omega,λt ht=>by rw[(h.m t ht).l];decide,λt ht=>by have:=(h.m t ht).b;omega,λt ht s hs=>((h.m t ht).s s hs).le (by omega:3<=5) |>.t⟩
theorem PD:ri ()=aa D0:=rfl
theorem Zo:∀ m:Nat,m<5->∀ j:Nat,j<m->aH (T:=.str) uN (j:Int)∈uN.take m:=by decide
theorem N5 {nT:Nat} (op:Int) {n:List UInt8} (J:op=12\/op=13) (hn:n∈uN.take nT):GS nT 3 (ne (op,0,n,[],[],dQ (0,0,[],[]),[],[])):=GS.wo (by omega) (by simp) (λx I=>(by cases I)) (by rcases J with rfl|rfl<;>(constructor<;>simp[Sx.op,Sx.name,Sx.index,Sx.arg,Sx.els,Sx.body]<;>exact hn))
theorem Fp (x:List Int) (hl:x.length<=9223372036854775807) (hx:∀ z∈x,0<=z/\z<=255):Ok (oa x) λp=>PJ p/\∃ r,eV p=aa r/\r.1=0:=by
 unfold oa aV bk bt ct eo kc yD bI eU l7 pj Prod.q9 bc bu iL bA kj cK aD cw dS;refine aT PD ?_;refine aw (fX 3 (x,0) ⟨hl,hx,by dsimp only;omega,by dsimp only;omega⟩) λy J=>?_
 obtain⟨n,t0⟩:=y;obtain⟨s0,n0,n1,_⟩:=J;have n1:=n1 (by decide);dsimp only at s0 n0 n1;have ew:be .i64 (2+n)=2+n:=gU (by omega) (by omega);obtain⟨nT,hnT⟩:∃ m:Nat,2+n=(m:Int):=⟨(2+n).toNat,by omega⟩
 refine ci nT (λi x=>x.1=(i:Int)/\x.2.2.1=D0/\x.2.2.2.1=uN/\TP x.2.2.2.2.1/\x.2.2.2.2.2.1.2=[]/\x.2.2.2.2.2.2.map Prod.fst=uN.take i/\∀ t∈x.2.2.2.2.2.2,TM nT t) ?_ ?_ ⟨rfl,rfl,rfl,s0.p,rfl,rfl,λt ht=>(by cases ht)⟩
 .rintro i ⟨a,m,D,N,t,h,th⟩ hi ⟨e1,e2,e3,e4,e5,e6,e7⟩;dsimp only at e1 e2 e3 e4 e5 e6 e7;subst e1;subst e2;refine bB (λg=>?_) λg=>(by dsimp only at g;rw[ew] at g;omega)
  have l4:N.length=4:=by rw[e3];rfl
  refine cC (cC (aS ?_));have hthl:th.length=i:=by have:=gx ak e6;rw[bS,bz] at this;have q4:uN.length=4:=rfl;omega
  refine aX (λx=>x.2.2.2.1.1=aH (T:=.str) N (i:Int)/\x.2.1=D0/\x.2.2.1=uN/\TP x.2.2.2.2.1/\x.2.2.2.2.2.1.2=[]/\x.2.2.2.2.2.2.1=th/\x.2.2.2.2.2.2.2.1=L0/\x.2.2.2.2.2.2.2.2.length<=3/\∀ s∈x.2.2.2.2.2.2.2.2,GS nT 3 s) ?_ ?_
  .refine aJ (λ_=>?_) λ_=>al ⟨rfl,rfl,e3,e4,e5,rfl,rfl,by simp,λs hs=>(by cases hs)⟩
   refine ci (1+n).toNat (λk x=>x.2.2.2.2.1.1=aH (T:=.str) N (i:Int)/\x.1=1+(k:Int)/\x.2.2.1=D0/\x.2.2.2.1=uN/\TP x.2.2.2.2.2.1/\x.2.2.2.2.2.2.1.2=[]/\x.2.2.2.2.2.2.2.1=th/\x.2.2.2.2.2.2.2.2.1=L0/\x.2.2.2.2.2.2.2.2.2.length<=k/\∀ s∈x.2.2.2.2.2.2.2.2.2,GS nT 3 s) ?_ ?_ ⟨rfl,rfl,rfl,e3,e4,e5,rfl,rfl,by simp,λs hs=>(by cases hs)⟩
   .rintro k ⟨c,m1,D1,N1,z1,t1,h1,th1,l1,b1⟩ hk ⟨fz,f1,f2,I,f4,M,Z,Y,f8,U⟩;dsimp only at fz f1 f2 I f4 M Z Y f8 U;subst f1;refine bB (λ_=>?_) λg=>(by dsimp only at g;rw[ew] at g;omega)
    have l41:N1.length=4:=by rw[I];rfl
    refine cC (cC (aS ?_));refine bg (by simp;omega) (by omega) (al ?_);dsimp only;rw[gU (n:=1+(k:Int)+1) (by omega) (by omega)];refine ⟨fz,by omega,f2,I,f4,M,Z,Y,by simp;omega,λs hs=>?_⟩;rcases bR.1 hs with hs|hs
    .exact U s hs
    .rw[aK] at hs;rw[hs];refine N5 12 (.inl rfl) ?_;rw[I,show 1+(k:Int)=((1+k:Nat):Int) by omega];exact Zo nT (by omega) (1+k) (by omega)
   .rintro⟨c,m1,D1,N1,z1,t1,h1,th1,l1,b1⟩ ⟨fz,f1,f2,I,f4,M,Z,Y,f8,U⟩;dsimp only at fz f1 f2 I f4 M Z Y f8 U;subst f1;refine bB (λg=>(by dsimp only at g;rw[ew] at g;omega)) λ_=>al ?_
    exact⟨fz,f2,I,f4,M,Z,Y,by dsimp only;omega,U⟩
  rintro⟨m1,D1,N1,z1,t1,h1,th1,l1,b1⟩ ⟨fz,f2,I,f4,M,Z,Y,f8,U⟩;dsimp only at fz f2 I f4 M Z Y f8 U;subst f2;subst Z;subst Y;refine aw (fX 3 t1 f4) λy J=>?_
  obtain⟨k2,t2⟩:=y;obtain⟨u1,u2,u3,_⟩:=J;have u3:=u3 (by decide);dsimp only at u1 u2 u3;dsimp only;rw[gU (n:=1+k2) (by omega) (by omega)];refine aw (Vy (nT:=nT) 2 (by omega) (1+k2) m1 t2 h1 (by omega) u1.p (by rw[M];simp)) λy J=>?_
  obtain⟨m3,t3,h3,l3⟩:=y;obtain⟨w1,w2,w3,w4⟩:=J;dsimp only at w1 w2 w3 w4;refine ba (by simp) (bg (by simp;omega) (by omega) ?_);have hbody:∀ s∈b1++l3,GS nT 3 s:=λs hs=>by
   rcases bR.1 hs with hs|hs
   .exact U s hs
   .exact w2 s hs
  have hlen:(b1++l3).length<=6:=by rw[bn];omega
  refine aX (λx=>x.2.2.2.1.1=aH (T:=.str) N (i:Int)/\x.2.1=D0/\x.2.2.1=uN/\TP x.2.2.2.2.1/\x.2.2.2.2.2.1.2=[]/\x.2.2.2.2.2.2.1=th1/\x.2.2.2.2.2.2.2.1=L0/\x.2.2.2.2.2.2.2.2.length<=8/\∀ s∈x.2.2.2.2.2.2.2.2,GS nT 3 s) ?_ ?_
  .refine aX (λx=>x.2.2.2.2.1.1=aH (T:=.str) N (i:Int)/\x.2.2.1=D0/\x.2.2.2.1=uN/\TP x.2.2.2.2.2.1/\x.2.2.2.2.2.2.1.2=[]/\x.2.2.2.2.2.2.2.1=th1/\x.2.2.2.2.2.2.2.2.1=L0/\x.2.2.2.2.2.2.2.2.2=b1++l3) ?_ ?_
   .refine aJ (λ_=>?_) λ_=>al ⟨fz,rfl,I,w3.p,w4.trans M,rfl,rfl,rfl⟩
    exact aw (fX 3 t3 w3.p) λy J=>al ⟨fz,rfl,I,J.1.p,w4.trans M,rfl,rfl,rfl⟩
   rintro⟨b,m4,D4,N4,z4,t4,h4,th4,l4,b4⟩ ⟨pz,p2,p3,p4,p5,p6,p7,p8⟩;dsimp only at pz p2 p3 p4 p5 p6 p7 p8;subst p2;subst p6;subst p7;subst p8;have l44:N4.length=4:=by rw[p3];rfl
   refine aO (λ_=>?_) λ_=>al ⟨pz,rfl,p3,p4,p5,rfl,rfl,by dsimp only;omega,hbody⟩
   refine cC (cC (aS ?_));refine bg (by simp at hlen ⊢;omega) (by omega) (al ⟨pz,rfl,p3,p4,p5,rfl,rfl,by dsimp only;rw[bn,gg];omega,λs hs=>?_⟩);rcases bR.1 hs with hs|hs
   .exact hbody s hs
   .rw[aK] at hs;rw[hs];refine N5 13 (.inr rfl) ?_;rw[p3];exact Zo nT (by omega) 1 (by omega)
  rintro⟨m4,D4,N4,z4,t4,h4,th4,l4,b4⟩ ⟨pz,p2,p3,p4,p5,p6,p7,p8,p9⟩;dsimp only at pz p2 p3 p4 p5 p6 p7 p8 p9;subst p2;subst p6;subst p7;refine bg (by simp;omega) (by omega) (al ?_);dsimp only;refine ⟨gL (by omega),rfl,p3,p4,p5,by rw[nC (T:=.str) (xs:=uN) (i:=i) (by have q4:uN.length=4:=rfl;omega),cI,e6,<-e3];show _++[z4.1]=_;rw[pz],λt ht=>?_⟩;rcases bR.1 ht with ht|ht
  .exact e7 t ht
  .rw[aK] at ht;rw[ht];exact⟨rfl,p8,p9⟩
 .rintro⟨a,m,D,N,t,h,th⟩ ⟨e1,e2,e3,e4,e5,e6,e7⟩;dsimp only at e1 e2 e3 e4 e5 e6 e7;subst e1;subst e2;refine bB (λg=>(by dsimp only at g;rw[ew] at g;omega)) λ_=>?_
  have hthl:th.length=nT:=by have:=gx ak e6;rw[bS,bz] at this;have q4:uN.length=4:=rfl;omega
  have hpm:PJ (D0,th):=⟨rfl,by dsimp only;omega,by dsimp only;omega,by dsimp only;rw[hthl];exact e7,by dsimp only;rw[hthl];exact e6⟩
  refine aw (P:=λp=>PJ p/\∃ r,eV p=aa r/\r.1=0) ?_ λr hr=>al hr
  obtain⟨y,J,_⟩:=CP (D0,th) hpm.x;refine aT J (b7 (λ_=>?_) λh=>al ⟨hpm,y,J,h⟩);refine aT PD (aT (Mh _) (aT (sH _ _) (al ?_)));refine ⟨⟨rfl,by simp,by simp,λt ht=>?_,rfl⟩,ahh⟩;simp only[aK] at ht;rw[ht];refine ⟨rfl,by simp,λs hs=>?_⟩;simp only[aK] at hs;rw[hs,eT,xC];exact GS.asg (by decide) (GE.num _ 3)
abbrev iA (l:List IT) (k:Nat):IT:=aH (T:=Ad) l (k:Int)
def JT (l:List IT) (ρ:Nat->Nat) (a e k:Nat):Prop:=(iA l k).1=5->∃ k':Nat,(iA l k).2.1=(k':Int)/\(k'=e\/a<=k'/\k'<e/\ρ k'<ρ k)
def pW (l:List IT) (a e:Nat):Prop:=a<=e/\∃ ρ:Nat->Nat,∀ k,a<=k->k<e->1<=ρ k/\ρ k<=e-a/\JT l ρ a e k/\((iA l k).1<5->k+1=e\/ρ (k+1)<ρ k)
theorem pW.nil (l:List IT) (a:Nat):pW l a a:=⟨bO _,λ_=>0,λk h1 h2=>by omega⟩
theorem pW.one {l:List IT} {a:Nat} (h:¬(iA l a).1=5):pW l a (a+1):=⟨by omega,λ_=>1,λk h1 h2=>⟨bO 1,by show 1<=a+1-a;omega,λI=>by rw[show k=a by omega] at I;exact (h I).elim,λ_=>.inl (by omega)⟩⟩
theorem pW.congr {l I:List IT} {a e:Nat} (h:pW l a e) (hc:∀ k,a<=k->k<e->iA I k=iA l k):pW I a e:=by
 obtain⟨h1,ρ,h2⟩:=h;exact⟨h1,ρ,λk M J=>by unfold JT;rw[hc k M J];exact h2 k M J⟩
theorem pW.app {l:List IT} {a b c:Nat} (h:pW l a b) (k:pW l b c):pW l a c:=by
 obtain⟨h1,ρ,h2⟩:=h;obtain⟨k1,σ,k2⟩:=k;refine ⟨by omega,λk=>if k<b then ρ k+(c-b) else σ k,λk U M=>?_⟩;by_cases hk:k<b
 .obtain⟨q1,J,q3,q4⟩:=h2 k U hk;simp only[aI hk];refine ⟨by omega,by omega,?_,λI=>?_⟩
  .intro I;simp only[aI hk];obtain⟨k',e,r⟩:=q3 I;refine ⟨k',e,?_⟩;rcases r with r|⟨r1,r2,r3⟩
   .subst r;by_cases hc:k'=c
    .exact .inl hc
    .have:=(k2 k' (bO _) (by omega)).2.1;rw[aC (Bg _)];exact .inr ⟨by omega,by omega,by omega⟩
   .rw[aI r2];exact .inr ⟨r1,by omega,by omega⟩
  .rcases q4 I with r|r
   .by_cases hc:k+1=c
    .exact .inl hc
    .have:=(k2 (k+1) (by omega) (by omega)).2.1;rw[aC (by omega)];exact .inr (by omega)
   .by_cases hb:k+1<b
    .rw[aI hb];exact .inr (by omega)
    .rw[aC hb];by_cases hc:k+1=c
     .exact .inl hc
     .have:=(k2 (k+1) (by omega) (by omega)).2.1;exact .inr (by omega)
 .obtain⟨q1,J,q3,q4⟩:=k2 k (by omega) M;simp only[aC hk];refine ⟨q1,by omega,?_,λI=>?_⟩
  .intro I;simp only[aC hk];obtain⟨k',e,r⟩:=q3 I;refine ⟨k',e,r.imp id λ⟨r1,r2,r3⟩=>⟨by omega,r2,?_⟩⟩;rw[aC (by omega)];exact r3
  .rw[aC (by omega)];exact q4 I
theorem pW.ite {l:List IT} {a j e:Nat} (h:pW l a j) (hj:(iA l j).1=5) (M:(iA l j).2.1=(e:Int)) (k:pW l (j+1) e):pW l a e:=by
 obtain⟨h1,ρ,h2⟩:=h;obtain⟨k1,σ,k2⟩:=k;refine ⟨by omega,λk=>if k<j then ρ k+(e-j) else if k=j then e-j else σ k,λk Y U=>?_⟩;by_cases hk:k<j
 .obtain⟨q1,J,q3,q4⟩:=h2 k Y hk;simp only[aI hk];refine ⟨by omega,by omega,?_,λI=>?_⟩
  .intro I;simp only[aI hk];obtain⟨k',e',r⟩:=q3 I;refine ⟨k',e',.inr ?_⟩;rcases r with r|⟨r1,r2,r3⟩
   .rw[r,aC (Bg _),aI rfl];exact⟨by omega,by omega,by omega⟩
   .rw[aI r2];exact⟨r1,by omega,by omega⟩
  .refine .inr ?_;by_cases hb:k+1<j
   .rw[aI hb];rcases q4 I with r|r<;>omega
   .rw[aC hb,aI (by omega)];omega
 .by_cases hkj:k=j
  .subst hkj;simp only[aC hk,aI];exact⟨by omega,by omega,λ_=>⟨e,M,.inl rfl⟩,λI=>by rw[hj] at I;omega⟩
  .obtain⟨q1,J,q3,q4⟩:=k2 k (by omega) U;simp only[aC hk,aC hkj];refine ⟨q1,by omega,?_,λI=>?_⟩
   .intro I;simp only[aC hk,aC hkj];obtain⟨k',e',r⟩:=q3 I;refine ⟨k',e',r.imp id λ⟨r1,r2,r3⟩=>⟨by omega,r2,?_⟩⟩;rw[aC (by omega),aC (by omega)];exact r3
   .rw[aC (by omega),aC (by omega)];exact q4 I
theorem pW.whl {l:List IT} {a c j:Nat} (h:pW l a c) (hc:(iA l c).1=10) (k:pW l (c+1) j) (hj:(iA l j).1=5) (U:(iA l j).2.1=(a:Int)):pW l a (j+1):=by
 obtain⟨h1,ρ,h2⟩:=h;obtain⟨k1,σ,k2⟩:=k;refine ⟨by omega,λk=>if k<c then ρ k+1 else if k=c then 1 else if k<j then σ k+(c-a)+2 else c-a+2,λk Y Z=>?_⟩;by_cases hk:k<c
 .obtain⟨q1,M,q3,q4⟩:=h2 k Y hk;simp only[aI hk];refine ⟨by omega,by omega,?_,λI=>?_⟩
  .intro I;simp only[aI hk];obtain⟨k',e',r⟩:=q3 I;refine ⟨k',e',.inr ?_⟩;rcases r with r|⟨r1,r2,r3⟩
   .rw[r,aC (Bg _),aI rfl];exact⟨by omega,by omega,by omega⟩
   .rw[aI r2];exact⟨r1,by omega,by omega⟩
  .refine .inr ?_;by_cases hb:k+1<c
   .rw[aI hb];rcases q4 I with r|r<;>omega
   .rw[aC hb,aI (by omega)];omega
 .by_cases hkc:k=c
  .subst hkc;simp only[aC hk,aI];exact⟨by omega,by omega,λI=>by rw[hc] at I;omega,λI=>by rw[hc] at I;omega⟩
  .simp only[aC hk,aC hkc];by_cases hkj:k<j
   .obtain⟨q1,M,q3,q4⟩:=k2 k (by omega) hkj;simp only[aI hkj];refine ⟨by omega,by omega,?_,λI=>?_⟩
    .intro I;simp only[aC hk,aC hkc,aI hkj];obtain⟨k',e',r⟩:=q3 I;refine ⟨k',e',.inr ?_⟩;rcases r with r|⟨r1,r2,r3⟩
     .rw[r,aC (by omega),aC (by omega),aC (Bg _)];exact⟨by omega,by omega,by omega⟩
     .rw[aC (by omega),aC (by omega),aI r2];exact⟨by omega,by omega,by omega⟩
    .refine .inr ?_;rw[aC (by omega),aC (by omega)];by_cases hb:k+1<j
     .rw[aI hb];rcases q4 I with r|r<;>omega
     .rw[aC hb];omega
   .have hkj:k=j:=by omega
    subst hkj;simp only[aC (Bg _)];refine ⟨by omega,by omega,λ_=>⟨a,U,.inr ⟨bO _,by omega,?_⟩⟩,λI=>by rw[hj] at I;omega⟩;simp only[aC hk,aC hkc,aC (Bg _)];by_cases J:a<c
    .rw[aI J];have:=(h2 a (bO _) J).2.1;omega
    .rw[aC J,aI (by omega)];omega
def OB (nT:Nat) (i:IT):Prop:=
 if i.1=6 then 0<=i.2.2.1/\i.2.2.1<=2 else if i.1=8 then 0<=i.2.1/\i.2.1<=2 else if i.1=7 then i.2.2.1=3/\i.2.2.2.2.1=2 else if i.1=9 then i.2.1=3/\i.2.2.2.2.1=2 else if i.1=11\/i.1=12 then i.2.1=0\/i.2.1=1 else if 13<=i.1/\i.1<=16 then i.2.1=2 else if 21<=i.1/\i.1<=23 then i.2.1=0 else if i.1=24\/i.1=25 then 0<=i.2.1/\i.2.1<(nT:Int) else if i.1=26 then i.2.1=0 else if i.1=27 then i.2.2.1=0 else if i.1=4 then 6<=i.2.2.2.2.1/\i.2.2.2.2.1<=18 else ¬i.1=3
structure GO (nT:Nat) (i:IT):Prop where
 o1:1<=i.1
 o2:i.1<=27
 r:∀ j:Int,j∈iv i->0<=j/\j<32
 b:OB nT i
def SO (ss:List (Int×Int×Int)) (t s:Int):Prop:=0<=s/\s<ss.length/\(aH (T:=wQ) ss s).1=t
structure GI (nT:Nat) (ss:List (Int×Int×Int)) (t:Int) (i:IT):Prop where
 o:GO nT i
 s:SO ss t i.2.2.2.2.2
theorem RO (l:List IT) (hl:l.length<=1000000) (h1:1<=l.length) (hb:pW l 0 (l.length-1)) (he:(iA l (l.length-1)).1=28) (k:Nat) (hk:k<l.length):oL (l,(k:Int))=aa ah:=by
 obtain⟨_,ρ,hρ⟩:=hb;refine cE ?_;unfold oL bc bu jC bF aU cK aD cw;refine pn (λx=>((l.length:Int)+1-x.2).toNat) (λx=>0<=x.2/\∃ q:Nat,x.1=(q:Int)/\q<l.length/\((if q<l.length-1 then ρ q else 0:Nat):Int)+x.2<=(l.length:Int)) ?_ ⟨by dsimp only;omega,k,rfl,hk,?_⟩
 .rintro⟨a,(n:Int)⟩ ⟨n0,q,e,hq,hr⟩;dsimp only at n0 e hr;subst e;refine fm (λ_=>?_) λg=>(by dsimp only[ar] at g;omega)
  refine gD ?_;refine gD (bB (λg=>by dsimp only at g;omega) λ_=>al ?_);refine fA (by rw[kC];dsimp only[ar];omega) ?_;refine cC (aS ?_);refine aT (D6 _) ?_;refine dY (λ_=>al rfl) λhs=>?_
  have hs:1<=(iA l q).1/\(iA l q).1<=5:=bm hs;have J:q<l.length-1:=um λh=>by rw[show q=l.length-1 by omega] at hs;rw[he] at hs;omega
  obtain⟨r1,r2,r3,Z⟩:=hρ q (kG _) J;rw[aI J] at hr;refine cC (aS ?_);have fin:∀ I:Nat,I=l.length-1\/I<l.length-1/\ρ I<ρ q->0<=n+1/\∃ M:Nat,(I:Int)=(M:Int)/\M<l.length/\((if M<l.length-1 then ρ M else 0:Nat):Int)+(n+1)<=(l.length:Int):=λI h=>⟨by omega,I,rfl,by omega,by
   rcases h with h|⟨h,h'⟩
   .rw[aC (by omega)];omega
   .rw[aI h];omega⟩
  refine aJ (λU=>?_) λU=>al (al ?_)
  .obtain⟨I,e,Y⟩:=r3 U;refine aQ (dt _) (by dsimp only;omega) (aS (al (al ?_)));dsimp only;rw[gU (n:=n+1) (by omega) (by omega)];have:=fin I (Y.imp id λh=>⟨h.2.1,h.2.2⟩);rw[<- e] at this;exact⟨this,by omega⟩
  .dsimp only;have U:¬(iA l q).1=5:=U;rw[gU (n:=n+1) (by omega) (by omega),gL (by omega)];refine ⟨fin (q+1) ?_,by omega⟩;rcases Z (by omega) with h|h
   .exact .inl h
   .by_cases hb:q+1=l.length-1
    .exact .inl hb
    .exact .inr ⟨by omega,h⟩
 .dsimp only;split
  .rename_i h;have:=(hρ k (kG _) h).2.1;omega
  .omega
theorem I9 (w:WT) (I:w.1=C0):mH (w,3,2)=aa ah:=by
 refine cE ?_;have h0:(0:Int)<=3:=by decide
 have h1:(3:Int)<(w.1.length:Int):=by rw[I];decide
 have J:aH (T:=NT) w.1 3=([113],0,2,ai,0):=by rw[I];rfl
 unfold mH bc iL bF aU aD;refine gD (aT (qS _ _) (aJ (λ_=>?_) λh=>(h ⟨h0,h1⟩).elim));dsimp only;rw[J];refine aQ h0 h1 (aS (aJ (λ_=>?_) λh=>(h rfl).elim));refine aQ h0 h1 (aS (b7 (λ_=>?_) λh=>cW h (by decide)));exact aQ h0 h1 (aS (al (al rfl)))
theorem Mf {nT:Nat} (w:WT) (i:IT) (hw:WX w) (hT:w.2.2.2.2.1.length=nT) (hb:OB nT i):kU (w,i)=aa ah:=by
 obtain⟨hc,hl,hd,hf,_,_,_⟩:=hw;refine cE ?_;unfold kU aV bk bt ct eo bc jC bF aU aD;unfold OB at hb;simp only[qS,Ux];refine aJ (λh=>?_) λn6=>?_
 .rw[aI h] at hb;have J:(aH (T:=NT) w.1 i.2.2.1).2.2.1=(0:Int):=by
   rw[hc];rcases (by omega:i.2.2.1=0\/i.2.2.1=1\/i.2.2.1=2) with h|h|h<;>rw[h]<;>rfl
  have hi:0<=i.2.2.1/\i.2.2.1<(w.1.length:Int):=⟨hb.1,by rw[hc];have:=hb.2;show i.2.2.1<5;omega⟩
  exact gD (aJ (λ_=>aQ hi.1 hi.2 (aS (al (al (aP J))))) λh=>(h hi).elim)
 rw[aC n6] at hb;refine aJ (λh=>?_) λZ=>?_
 .rw[aI h] at hb;have J:(aH (T:=NT) w.1 i.2.1).2.2.1=(0:Int):=by
   rw[hc];rcases (by omega:i.2.1=0\/i.2.1=1\/i.2.1=2) with h|h|h<;>rw[h]<;>rfl
  have hi:0<=i.2.1/\i.2.1<(w.1.length:Int):=⟨hb.1,by rw[hc];have:=hb.2;show i.2.1<5;omega⟩
  exact gD (aJ (λ_=>aQ hi.1 hi.2 (aS (al (al (aP J))))) λh=>(h hi).elim)
 rw[aC Z] at hb;refine aJ (λh=>?_) λn7=>?_
 .rw[aI h] at hb;rw[hb.1,hb.2];exact aT (I9 w hc) (al rfl)
 rw[aC n7] at hb;refine aJ (λh=>?_) λY=>?_
 .rw[aI h] at hb;rw[hb.1,hb.2];exact aT (I9 w hc) (al rfl)
 rw[aC Y] at hb;refine aX (λx=>x.2=(w,i)/\(x.1=ah↔i.1=11\/i.1=12)) (aJ (λh=>al ⟨rfl,λ_=>.inl h,λ_=>aP h⟩) λh=>al ⟨rfl,λh2=>.inr (bm h2),λh2=>aP (h2.resolve_left h)⟩) ?_;rintro⟨b,x⟩ ⟨e,M⟩;dsimp only at e M;subst e;refine aO (λh=>?_) λh=>?_
 .rw[aI (M.1 h)] at hb;have J:(aH (T:=Rt) w.2.1 i.2.1).2=ai:=by
   rw[hl];rcases hb with h|h<;>rw[h]<;>rfl
  have hi:0<=i.2.1/\i.2.1<(w.2.1.length:Int):=⟨by omega,by rw[hl];show i.2.1<3;omega⟩
  exact gD (aJ (λ_=>aQ hi.1 hi.2 (aS (al (al (by dsimp only;rw[J];rfl))))) λh=>(h hi).elim)
 rw[aC λh2=>by rw[M.2 h2] at h;cases h] at hb;have hj:∀ {p:Prop} {b:Bool},(b=ah->p)->(p->b=ah)->b=ai->¬p:=λ_ h2 U I=>by rw[h2 I] at U;cases U
 refine aX (λx=>x.2=(w,i)/\(x.1=ah->13<=i.1/\i.1<=16)/\(13<=i.1/\i.1<=16->x.1=ah)) (aJ (λh=>al ⟨rfl,λ_=>by first|omega|(dsimp only at h;omega),λ_=>aP h⟩) λ_=>aJ (λh=>al ⟨rfl,λ_=>by first|omega|(dsimp only at h;omega),λ_=>aP h⟩) λ_=>aJ (λh=>al ⟨rfl,λ_=>by first|omega|(dsimp only at h;omega),λ_=>aP h⟩) λ_=>al ⟨rfl,λh=>by have:=bm h;first|omega|(dsimp only at this;omega),λh=>aP (by first|omega|(dsimp only at *;omega))⟩) ?_;rintro⟨b,x⟩ ⟨e,h1,h2⟩;dsimp only at e h1 h2;subst e;refine aO (λh=>?_) λh=>?_
 .rw[aI (h1 h)] at hb;have hi:0<=i.2.1/\i.2.1<(w.2.1.length:Int):=⟨by omega,by rw[hl];show i.2.1<3;omega⟩
  exact gD (aJ (λ_=>aQ hi.1 hi.2 (aS (al (al (by dsimp only;rw[hb,hl];rfl))))) λh=>(h hi).elim)
 rw[aC (hj h1 h2 h)] at hb;refine aX (λx=>x.2=(w,i)/\(x.1=ah->21<=i.1/\i.1<=23)/\(21<=i.1/\i.1<=23->x.1=ah)) (aJ (λh=>al ⟨rfl,λ_=>by first|omega|(dsimp only at h;omega),λ_=>aP h⟩) λ_=>aJ (λh=>al ⟨rfl,λ_=>by first|omega|(dsimp only at h;omega),λ_=>aP h⟩) λ_=>al ⟨rfl,λh=>by have:=bm h;first|omega|(dsimp only at this;omega),λh=>aP (by first|omega|(dsimp only at *;omega))⟩) ?_;rintro⟨b,x⟩ ⟨e,h1,h2⟩;dsimp only at e h1 h2;subst e;refine aO (λh=>?_) λh=>?_
 .rw[aI (h1 h)] at hb;exact al (aP ⟨by dsimp only;omega,by dsimp only;rw[hd];show i.2.1<1;omega⟩)
 rw[aC (hj h1 h2 h)] at hb;refine aX (λx=>x.2=(w,i)/\(x.1=ah->i.1=24\/i.1=25)/\(i.1=24\/i.1=25->x.1=ah)) (aJ (λh=>al ⟨rfl,λ_=>.inl h,λ_=>aP h⟩) λh=>al ⟨rfl,λh2=>.inr (bm h2),λh2=>aP (h2.resolve_left h)⟩) ?_;rintro⟨b,x⟩ ⟨e,h1,h2⟩;dsimp only at e h1 h2;subst e;refine aO (λh=>?_) λh=>?_
 .rw[aI (h1 h)] at hb;exact al (aP ⟨hb.1,by dsimp only;rw[hT];exact hb.2⟩)
 rw[aC (hj h1 h2 h)] at hb;refine aJ (λh=>?_) λn=>?_
 .rw[aI h] at hb;exact al (aP ⟨by dsimp only;omega,by dsimp only;rw[hf];show i.2.1<1;omega⟩)
 rw[aC n] at hb;refine aJ (λh=>?_) λn=>?_
 .rw[aI h] at hb;exact al (aP ⟨by dsimp only;omega,by dsimp only;rw[hf];show i.2.2.1<1;omega⟩)
 rw[aC n] at hb;by_cases I:i.1=4
 .rw[aI I] at hb;refine aJ (λh=>by have h:i.1=3:=h;omega) λ_=>aJ (λ_=>?_) λh=>(h I).elim
  refine gD (fm (λ_=>al (al (F'.2 hb.2))) λh=>by dsimp only at h;omega)
 .rw[aC I] at hb;exact aJ (λh=>(hb h).elim) λ_=>aJ (λh=>(I h).elim) λ_=>al rfl
structure GC (nT:Nat) (ss:List (Int×Int×Int)) (k:Int) (c:Int×List IT):Prop where
 r0:1<=c.1
 r1:c.1<=32
 n:1<=c.2.length
 u:c.2.length<=1000000
 e:(iA c.2 (c.2.length-1)).1=28/\(iA c.2 (c.2.length-1)).2.2.2.2.2= -1
 b:pW c.2 0 (c.2.length-1)
 i:∀ q:Nat,q<c.2.length-1->GI nT ss k (iA c.2 q)
 r:∀ q:Nat,q<c.2.length-1->(iA c.2 q).1=10->0<=(iA c.2 q).2.2.1/\(iA c.2 q).2.2.1<(c.2.length:Int)
 g:∀ q:Nat,q<c.2.length-1->∀ j:Int,j∈iv (iA c.2 q)->j<c.1
theorem C1 {nT:Nat} {w:WT} {k:Int} {c:Int×List IT} (hw:WX w) (hT:w.2.2.2.2.1.length=nT) (hc:GC nT w.2.2.2.2.2 k c):g_ (w,k,c)=aa ah:=by
 obtain⟨r0,r1,n1,hu,he,hb,hi,hr,hg⟩:=hc;refine cE ?_;unfold g_ aV bk bt ct bI cQ pj bc bu iL bF aU cK aD cw;refine aX (λx=>x.2=(w,c)/\x.1=ai) ?_ ?_
 .refine bB (λh=>by have h:c.1<0:=h;omega) λ_=>bB (λh=>by have h:32<c.1:=h;omega) λ_=>al ⟨rfl,bM λh=>by have h:aN c.2.length=0:=h;dsimp only[ar] at h;omega⟩
 rintro⟨b,x⟩ ⟨e,Y⟩;dsimp only at e Y;subst e;subst Y;refine fK ?_;refine ci c.2.length (λi x=>x.1=(i:Int)/\x.2=(w,c)) ?_ ?_ ⟨rfl,rfl⟩
 .rintro i ⟨a,x⟩ hi2 ⟨e1,e2⟩;dsimp only at e1 e2;subst e1;subst e2;have hla:=RO c.2 hu n1 hb he.1 i hi2;have Z:∀ z:IT,z=iA c.2 i->(i<c.2.length-1->GI nT w.2.2.2.2.2 k z/\(z.1=10->0<=z.2.2.1/\z.2.2.1<(c.2.length:Int))/\(z.1=5->0<=z.2.1/\z.2.1<(c.2.length:Int))/\∀ j:Int,j∈iv z->j<c.1)/\(i=c.2.length-1->z.1=28/\z.2.2.2.2.2= -1):=λz Z=>by
   subst Z;refine ⟨λh=>⟨hi i h,hr i h,λh5=>?_,hg i h⟩,λh=>by rw[h];exact he⟩;obtain⟨_,ρ,hρ⟩:=hb;obtain⟨q',e,hq'⟩:=(hρ i (kG _) h).2.2.1 h5;rw[e];omega
  refine dz ?_;refine cC (aS ?_);generalize hzz:(aH (T:=Ad) c.2 (i:Int))=z;obtain⟨I,J⟩:=Z z hzz.symm;have hcs:i<c.2.length-1\/i=c.2.length-1:=by omega
  have o1:1<=z.1:=by
   rcases hcs with h|h
   .exact (I h).1.o.o1
   .rw[(J h).1];decide
  have o2:z.1<=28:=by
   rcases hcs with h|h
   .exact Int.le_trans (I h).1.o.o2 (by decide)
   .rw[(J h).1];decide
  have M:z.1=28->i=c.2.length-1:=λh=>hcs.resolve_left λg=>by have:=(I g).1.o.o2;rw[h] at this;exact cW this (by decide)
  have hob:OB nT z:=by
   rcases hcs with h|h
   .exact (I h).1.o.b
   .unfold OB;rw[(J h).1];simp
  have hrg:∀ j:Int,j∈iv z->0<=j/\j<c.1:=λj hj=>by
   rcases hcs with h|h
   .exact⟨((I h).1.o.r j hj).1,(I h).2.2.2 j hj⟩
   .unfold iv at hj;rw[(J h).1] at hj;simp at hj
  have hwr:be .i64 (aN c.2.length-1)=((c.2.length-1:Nat):Int):=by rw[gU (by dsimp only[ar];omega) (by dsimp only[ar];omega)];dsimp only[ar];omega
  have hcd:((decide (z.1=28)==decide ((i:Int)=be .i64 (aN c.2.length-1))) !=ah)=ai:=by
   rw[hwr];rcases hcs with h|h
   .rw[bM λh2=>by have:=M h2;omega,bM (by omega:¬(i:Int)=((c.2.length-1:Nat):Int))];rfl
   .rw[aP (J h).1,aP (by omega:(i:Int)=((c.2.length-1:Nat):Int))];rfl
  refine aX (λx=>x=(ai,w,c,z)) ?_ ?_
  .refine bB (λh=>cW h (Bb.2 o1)) λ_=>bB (λh=>cW h (Bb.2 o2)) λ_=>fA hcd ?_
   refine aT (Mf w z hw hT hob) (fA rfl (aT hla (al rfl)))
  rintro x rfl;refine fK (aX (λx=>x=(ai,w,c,z)) ?_ ?_)
  .simp only[qS,Ux];refine aJ (λh=>?_) λh=>?_
   .have h5:=(J (M h)).2;exact b7 (λg=>(g h5).elim) λ_=>b7 (λg=>(g h).elim) λ_=>al rfl
   .have hsi:=(I (hcs.resolve_right λg=>h (J g).1)).1.s;refine b7 (λ_=>b7 (λg=>(g ⟨hsi.1,hsi.2.1⟩).elim) λg=>aQ g.1 g.2 (aS (al ?_))) λg=>(h g).elim
    rw[aP hsi.2.2];rfl
  rintro x rfl;refine fK (aX (λx=>x=(ai,w,c,z)) ?_ ?_)
  .simp only[qS,Ux];have U:z.1=5\/z.1=10->i<c.2.length-1:=λh=>hcs.resolve_right λg=>by rw[(J g).1] at h;exact cW h (by decide)
   refine aJ (λh=>?_) λh=>?_
   .have h2:=(I (U (.inl h))).2.2.1 h;refine b7 (λg=>(g h2).elim) λ_=>aJ (λg=>?_) λ_=>al rfl
    rw[h] at g;exact cW g (by decide)
   .refine aJ (λg=>al ?_) λ_=>al rfl
    have h2:=(I (U (.inr g))).2.1 g;rw[aP (show 0<=z.2.2.1/\z.2.2.1<aN c.2.length from h2)];rfl
  rintro x rfl;refine fK (aT (sq z) ?_);have hrl:=Bw z;refine ci (iv z).length (λj x=>x=((j:Int),w,c)) ?_ ?_ rfl
  .rintro j x hj rfl;refine dz ?_;refine cC (aS ?_);refine aT (qS _ _) (b7 (λg=>(g (hrg _ (bH (T:=.int .i64) (xs:=iv z) (j:=(j:Int)) (by omega) (by omega)))).elim) λ_=>al ?_);dsimp only;rw[gL (by omega)]
  .rintro x rfl;exact du (al ⟨gL (by omega),rfl⟩)
 .rintro⟨a,x⟩ ⟨e1,e2⟩;dsimp only at e1 e2;subst e1;subst e2;exact du (al rfl)
abbrev GN:Type:=List (List UInt8×Int×Int×Bool×Int)×List (List UInt8×Bool)×List (List UInt8×Int)×List (List UInt8)×List (List UInt8)×List (Int×Int×Int)×List (List UInt8)×Int×Int
theorem K9 (l:List (List UInt8×Bool)) (s:List UInt8) (hl:l.length<=1000):Ok (jP (l,s)) λr=> -1<=r/\r<l.length/\(0<=r->(aH (T:=Rt) l r).1=s)/\(r<0->∀ c∈l,c.1≠s):=by
 unfold jP bu bF aU cK aD cw;refine ci l.length (λi x=>x=(i:Int)/\∀ k:Nat,k<i->(aH (T:=Rt) l (k:Int)).1≠s) ?_ ?_ ⟨rfl,λk hk=>by omega⟩
 .rintro i x hi ⟨rfl,I⟩;refine dz ?_;refine cC (aS ?_);refine aJ (λh=>al ⟨by omega,by omega,λ_=>h,λh=>by omega⟩) λh=>al ⟨gL (by omega),λk hk=>?_⟩
  rcases bV k i with h1|h1
  .exact I k h1
  .rw[show k=i by omega];exact h
 .rintro x ⟨rfl,I⟩;exact du (al ⟨by omega,by omega,λh=>by omega,λ_=>hY (T:=Rt) (p:=λc=>c.1≠s) I⟩)
theorem ad1 {r:Int} {s:List UInt8} (h: -1<=r/\r<Fi.length/\(0<=r->(aH (T:=Rt) Fi r).1=s)/\(r<0->∀ c∈Fi,c.1≠s)):(s=[109]->r=0)/\(s=[110]->r=1)/\(s=[114]->r=2):=by
 obtain⟨h0,h1,h2,I⟩:=h;have h1:r<3:=h1;rcases (by omega:r= -1\/r=0\/r=1\/r=2) with rfl|rfl|rfl|rfl
 .have I:=I (by decide);exact⟨λh=>(I ([109],ai) (by decide) h.symm).elim,λh=>(I ([110],ai) (by decide) h.symm).elim,λh=>(I ([114],ah) (by decide) h.symm).elim⟩
 .have h2:[109]=s:=h2 (by decide);subst h2;exact⟨λ_=>rfl,λh=>(by cases h),λh=>(by cases h)⟩
 .have h2:[110]=s:=h2 (by decide);subst h2;exact⟨λh=>(by cases h),λ_=>rfl,λh=>(by cases h)⟩
 .have h2:[114]=s:=h2 (by decide);subst h2;exact⟨λh=>(by cases h),λh=>(by cases h),λ_=>rfl⟩
theorem yU (w:WT) (s:List UInt8) (J:w.1=C0):Ok (kN (w,s)) λr=>(s∈NV->s∉L0->0<=r/\r<=2)/\(s=[113]->r=3):=by
 have hl:w.1.length=5:=by rw[J];rfl
 unfold kN bu bF aU cK aD cw;refine ci w.1.length (λi x=>x.1=(i:Int)/\x.2=w/\∀ k:Nat,k<i->(aH (T:=NT) w.1 (k:Int)).1≠s) ?_ ?_ ⟨rfl,rfl,λk hk=>by omega⟩
 .rintro i ⟨a,x⟩ hi ⟨e1,e2,e3⟩;dsimp only at e1 e2 e3;subst e1;have e2:=e2.symm;subst e2;refine dz ?_;refine cC (aS ?_);refine aJ (λh=>al ?_) λg=>al ?_
  .rw[J] at h e3;rw[hl] at hi;rcases (by omega:i=0\/i=1\/i=2\/i=3\/i=4) with rfl|rfl|rfl|rfl|rfl
   .have h:[120]=s:=h;subst h;exact⟨λ_ _=>⟨by dsimp only;omega,by dsimp only;omega⟩,λh=>(by cases h)⟩
   .have h:[121]=s:=h;subst h;exact⟨λ_ _=>⟨by dsimp only;omega,by dsimp only;omega⟩,λh=>(by cases h)⟩
   .have h:[118]=s:=h;subst h;exact⟨λ_ _=>⟨by dsimp only;omega,by dsimp only;omega⟩,λh=>(by cases h)⟩
   .have h:[113]=s:=h;subst h;exact⟨λh=>cW h (by decide),λ_=>rfl⟩
   .have h:[113]=s:=h;exact (e3 3 (by omega) h).elim
  .refine ⟨gL (by omega),rfl,λk hk=>?_⟩;rcases bV k i with h1|h1
   .exact e3 k h1
   .rw[show k=i by omega];exact g
 .rintro⟨a,x⟩ ⟨e1,e2,e3⟩;dsimp only at e1 e2 e3;subst e1;have e2:=e2.symm;subst e2;refine du (al ?_);have hn:=hY (T:=NT) (p:=λc=>c.1≠s) e3;rw[J] at hn;have a1:=hn ([120],0,0,ai,0) (by decide);have a2:=hn ([121],0,0,ai,1) (by decide);have a3:=hn ([118],0,0,ah,0) (by decide);have M:=hn ([113],0,2,ai,0) (by decide);refine ⟨λh I=>?_,λh=>(M h.symm).elim⟩;simp only[bh,cj,fP,L0] at h I;rcases h with rfl|rfl|rfl|rfl|rfl
  .exact (I (.inl rfl)).elim
  .exact (I (.inr rfl)).elim
  .exact (a1 rfl).elim
  .exact (a2 rfl).elim
  .exact (a3 rfl).elim
theorem GJ (i:IT) (g:GN) (out:List IT) (h:out.length<=100000000):Ok (cr (i,g,out)) λy=>y.1=g/\y.2=out++[(i.1,i.2.1,i.2.2.1,i.2.2.2.1,i.2.2.2.2.1,g.2.2.2.2.2.2.2.1)]:=by
 unfold cr aV bk bt kc bA;exact bg (by simp;omega) (by omega) (al ⟨rfl,rfl⟩)
def VE:Nat->Nat
 |0=>0
 |d+1=>1+2*VE d
theorem Hl {l m:List IT} {k:Nat} (h:k<l.length):iA (l++m) k=iA l k:=by
 unfold iA;rw[xq,xq,ax,ax,bL h]
theorem wg (l:List IT) (x:IT):iA (l++[x]) l.length=x:=by
 unfold iA;rw[xq,ax,bW (bO _)];simp
structure QC (nT:Nat) (ss:List (Int×Int×Int)) (t:Int) (n:Nat) (out o:List IT):Prop where
 l:out.length<=o.length
 u:o.length<=out.length+n
 p:∀ k:Nat,k<out.length->iA o k=iA out k
 b:pW o out.length o.length
 i:∀ k:Nat,out.length<=k->k<o.length->GI nT ss t (iA o k)
 r:∀ k:Nat,out.length<=k->k<o.length->(iA o k).1=10->0<=(iA o k).2.2.1/\(iA o k).2.2.1<=(o.length:Int)
variable {nT:Nat} {ss:List (Int×Int×Int)} {t:Int}
theorem QC.nil (n:Nat) (out:List IT):QC nT ss t n out out:=⟨bO _,by omega,λ_ _=>rfl,pW.nil _ _,λk h1 h2=>by omega,λk h1 h2=>by omega⟩
theorem QC.trans {a b c:Nat} {x y z:List IT} (h:QC nT ss t a x y) (k:QC nT ss t b y z) (hc:a+b<=c):QC nT ss t c x z:=by
 obtain⟨h1,h2,h3,h4,h5,h6⟩:=h;obtain⟨k1,k2,I,k4,Z,Y⟩:=k;refine ⟨by omega,by omega,λq hq=>(I q (by omega)).trans (h3 q hq),(h4.congr λq _ hq=>I q hq).app k4,λq U M=>?_,λq U M J=>?_⟩
 .by_cases hq:q<y.length
  .rw[I q hq];exact h5 q U hq
  .exact Z q (by omega) M
 .by_cases hq:q<y.length
  .rw[I q hq] at J ⊢;have:=h6 q U hq J;omega
  .exact Y q (by omega) M J
theorem QC.one {out:List IT} {i:IT} (h:GI nT ss t i) (I:¬i.1=5/\¬i.1=10):QC nT ss t 1 out (out++[i]):=by
 have hl:(out++[i]).length=out.length+1:=by rw[bn];rfl
 refine ⟨by omega,by omega,λk hk=>Hl hk,?_,λk h1 h2=>?_,λk h1 h2 J=>?_⟩
 .rw[hl];exact pW.one (by rw[wg];exact I.1)
 .rw[show k=out.length by omega,wg];exact h
 .rw[show k=out.length by omega,wg] at J;exact (I.2 J).elim
structure GK (ss:List (Int×Int×Int)) (t:Int) (g:GN):Prop where
 c:g.1=C0
 l:g.2.2.2.2.2.2.1=L0
 s:SO ss t g.2.2.2.2.2.2.2.1
theorem V5 {nT:Nat} {op A B C N Z:Int} (h1:1<=op) (h2:op<=27) (hr:∀ j:Int,j∈iv (op,A,B,C,N,Z)->0<=j/\j<32) (hb:OB nT (op,A,B,C,N,Z)):GO nT (op,A,B,C,N,Z):=⟨h1,h2,hr,hb⟩
theorem C7 {op:Int} {r:Int×Int×Int×Int×Int} {g:GN} {out:List IT} (h:out.length<=100000000) (hg:GK ss t g) (hi:GO nT (op,r)) (J:¬op=5/\¬op=10):Ok (cr ((op,r),g,out)) λy=>y.1=g/\QC nT ss t 1 out y.2:=(GJ (op,r) g out h).mono λy I=>⟨I.1,by rw[I.2];exact QC.one ⟨⟨hi.o1,hi.o2,hi.r,hi.b⟩,hg.s⟩ J⟩
theorem Ld:∀ (n d:Nat),d<n->∀ (e:Xp) (k:Int) (g:GN) (out:List IT),GE d e->GK ss t g->0<=k->k+d<=31->out.length+VE d<=100000000->Ok (im n ((e,k),g,out)) λy=>y.1=g/\QC nT ss t (VE d) out y.2
 |0,_,h,_,_,_,_,_,_,_,_,_=>by omega
 |n+1,0,_,e,_,_,_,h,_,_,_,_=>h.elim
 |n+1,d+1,hn,e,k,g,out,h,hg,k0,k1,hb=>by
  obtain⟨h1,h2,h3,h4,h5,h6⟩:=h;obtain⟨Y,gl,gs⟩:=id hg;have hv:VE (d+1)=1+2*VE d:=rfl;rw[zj];unfold pJ aV bk bt ct eo bc jC bA bF aD cw;refine aX (λy=>y.1=g/\QC nT ss t (VE (d+1)) out y.2) ?_ λx hx=>al hx
  have fin:∀ {y:GN×List IT},(y.1=g/\QC nT ss t 1 out y.2)->y.1=g/\QC nT ss t (VE (d+1)) out y.2:=λh=>⟨h.1,(QC.nil 0 out).trans h.2 (by omega)⟩
  refine aJ (λ_=>?_) λn1=>?_
  .refine aw (C7 (nT:=nT) (by omega) hg (V5 (by decide) (by decide) (by simp[iv];omega) ((by decide:¬(1:Int)=3))) (by decide)) λy I=>ba (by simp) (al (fin I))
  refine aJ (λU=>?_) λU=>?_
  .refine aw (xo _ _ (by dsimp only;rw[gl];decide)) λv hv=>fm (λg0=>?_) λg0=>?_
   .have v1:=hv.2.1;dsimp only at v1 g0;rw[gl] at v1;have v1:v<2:=v1;refine aw (C7 (nT:=nT) (by omega) hg (V5 (by decide) (by decide) (by simp[iv];omega) ((by decide:¬(2:Int)=3))) (by decide)) λy I=>ba (by simp) (al (fin I))
   .have v1:=hv.2.2.2 g0;dsimp only at v1;rw[gl] at v1;refine aw (yU _ _ Y) λv M=>?_
    have v2:=M.1 (h5 U) v1;refine aw (C7 (nT:=nT) (by omega) hg (V5 (by decide) (by decide) (by simp[iv];omega) (v2)) (by decide)) λy I=>ba (by simp) (al (fin I))
  have hl:=h2 n1 U;have hrec:∀ (j:Nat),j<e.l.length->∀ (k':Int) (o:List IT),0<=k'->k'+d<=31->o.length+VE d<=100000000->Ok (im n ((aH (T:=.ex) e.l (j:Int),k'),g,o)) λy=>y.1=g/\QC nT ss t (VE d) o y.2:=λj hj k' o q0 q1 ho=>Ld n d (by omega) _ k' g o (h4 _ (bH (T:=.ex) (xs:=e.l) (j:=(j:Int)) (by omega) (by omega))) hg q0 q1 ho
  refine aJ (λn3=>?_) λn3=>?_
  .refine cC (aS ?_);refine aw (hrec 0 hl k out k0 (by omega) (by omega)) λy I=>?_
   obtain⟨g2,o2⟩:=y;obtain⟨q1,J⟩:=I;dsimp only at q1 J;subst q1;have q3:=J.u;refine ba (by simp) ?_;refine aw (yU _ _ Y) λv M=>?_
   have Z:=M.2 (h1 n3);have Z:v=3:=Z;subst Z;refine aQ (by decide) (by dsimp only;rw[Y];decide) (aS ?_);refine aw (C7 (nT:=nT) (by omega) hg (V5 (by decide) (by decide) (by simp[iv];omega) (⟨rfl,by dsimp only;rw[Y];rfl⟩)) (by decide)) λy I=>ba (by simp) (al ⟨I.1,J.trans I.2 (by omega)⟩)
  obtain⟨h7,h8,h9⟩:=h6 n1 U n3;refine aJ (λn4=>?_) λn4=>?_
  .dsimp only[ar] at n4;omega
  .have hl2:1<e.l.length:=by omega
   refine cC (aS ?_);refine aw (hrec 0 hl k out k0 (by omega) (by omega)) λy I=>?_
   obtain⟨g2,o2⟩:=y;obtain⟨q1,J⟩:=I;dsimp only at q1 J;subst q1;have q3:=J.u;refine ba (by simp) ?_;refine cC (aS ?_);dsimp only;rw[gU (n:=k+1) (by omega) (by omega)];refine aw (hrec 1 hl2 _ o2 (by omega) (by omega) (by omega)) λy I=>?_
   obtain⟨g3,o3⟩:=y;obtain⟨r1,r2⟩:=I;dsimp only at r1 r2;subst r1;have r3:=r2.u;refine ba (by simp) ?_;refine aw (C7 (nT:=nT) (by omega) hg (V5 (by decide) (by decide) (by simp[iv];omega) (⟨h8,h9⟩)) (by decide)) λy I=>ba (by simp) (al ⟨I.1,(J.trans r2 (bO _)).trans I.2 (by omega)⟩)
theorem Rq (e:Xp) (k:Int) (g:GN) (out:List IT) (he:GE 4 e) (hg:GK ss t g) (I:0<=k) (k1:k<=27) (h:out.length<=99999900):Ok (il ((e,k),g,out)) λy=>y.1=g/\QC nT ss t 15 out y.2:=Ld fuel 4 (by rw[jA];omega) e k g out he hg I (by omega) (by have:VE 4=15:=rfl;omega)
structure GB (nT:Nat) (g:GN):Prop where
 c:g.1=C0
 l:g.2.1=Fi
 d:g.2.2.1=KF
 f:g.2.2.2.1=Q4
 t:g.2.2.2.2.1=uN.take nT
 h:g.2.2.2.2.2.2.1=L0
structure GQ (g y:GN):Prop where
 a:y.1=g.1
 b:y.2.1=g.2.1
 c:y.2.2.1=g.2.2.1
 d:y.2.2.2.1=g.2.2.2.1
 e:y.2.2.2.2.1=g.2.2.2.2.1
 h:y.2.2.2.2.2.2.1=g.2.2.2.2.2.2.1
theorem GQ.refl (g:GN):GQ g g:=⟨rfl,rfl,rfl,rfl,rfl,rfl⟩
theorem GQ.trans {a b c:GN} (h:GQ a b) (k:GQ b c):GQ a c:=⟨k.a.trans h.a,k.b.trans h.b,k.c.trans h.c,k.d.trans h.d,k.e.trans h.e,k.h.trans h.h⟩
variable {nT:Nat} {ss:List (Int×Int×Int)} {t:Int}
theorem GB.of {g y:GN} (h:GB nT g) (q:GQ g y):GB nT y:=⟨q.a.trans h.c,q.b.trans h.l,q.c.trans h.d,q.d.trans h.f,q.e.trans h.t,q.h.trans h.h⟩
theorem GQ.site (g:GN) (x:List (Int×Int×Int)) (a b:Int):GQ g (g.1,g.2.1,g.2.2.1,g.2.2.2.1,g.2.2.2.2.1,x,g.2.2.2.2.2.2.1,a,b):=⟨rfl,rfl,rfl,rfl,rfl,rfl⟩
abbrev gS (g:GN):Int:=g.2.2.2.2.2.2.2.1
abbrev gN (g:GN):Int:=g.2.2.2.2.2.2.2.2
structure QG (nT:Nat) (ss:List (Int×Int×Int)) (t:Int) (n m:Nat) (g:GN) (out:List IT) (y:GN×List IT):Prop where
 q:GQ g y.1
 c:QC nT ss t n out y.2
 x:gN y.1=gN g+(m:Int)
theorem vW {op:Int} {r:Int×Int×Int×Int×Int} {g:GN} {out:List IT} (h:out.length<=100000000) (hg:GB nT g) (hs:SO ss t (gS g)) (hi:GO nT (op,r)) (I:¬op=5/\¬op=10):Ok (cr ((op,r),g,out)) λy=>y.1=g/\QC nT ss t 1 out y.2:=C7 h ⟨hg.c,hg.h,hs⟩ hi I
theorem Bk (e:Xp) (k:Int) (g:GN) (out:List IT) (he:GE 4 e) (hg:GB nT g) (hs:SO ss t (gS g)) (I:0<=k) (k1:k<=27) (h:out.length<=99999000):Ok (il ((e,k),g,out)) λy=>y.1=g/\QC nT ss t 15 out y.2:=Rq e k g out he ⟨hg.c,hg.h,hs⟩ I k1 (by omega)
theorem GB.len {g:GN} (h:GB nT g):aN (ak g.2.2.2.2.2.2.1)=2:=by rw[h.h];rfl
theorem TJ (s:Sx) (g:GN) (out:List IT) (h1:s.index≠[]->s.name=[113]) (h2:∀ e∈s.index,GE 4 e) (h3:GE 4 s.expr) (h4:s.index=[]->s.name∈NV) (hg:GB nT g) (hs:SO ss t (gS g)) (h:out.length<=99990000):Ok (ly (s,g,out)) λy=>y.1=g/\QC nT ss t 40 out y.2:=by
 have hex:GE 4 (dQ (Xp.op s.expr,Xp.n s.expr,Xp.name s.expr,Xp.l s.expr)):=by rw[eT];exact h3
 have e3:be .i64 ((2:Int)+1)=3:=gU (by decide) (by decide);unfold ly aV bk bt ct eo bu jC bA bF aU;refine bB (λJ=>?_) λJ=>?_
 .dsimp only[ar] at J;refine cC (aS ?_);refine aw (Bk _ _ g out (h2 _ (bH (T:=.ex) (xs:=s.index) (j:=0) (by omega) (by omega))) hg hs (by rw[hg.len];decide) (by rw[hg.len];decide) (by omega)) λy I=>?_
  obtain⟨g2,o2⟩:=y;obtain⟨q1,M⟩:=I;dsimp only at q1 M;subst q1;have q3:=M.u;refine ba (by simp) ?_;dsimp only;rw[hg.len,e3];refine aw (Bk _ _ g2 o2 hex hg hs (by decide) (by decide) (by omega)) λy I=>?_
  obtain⟨g3,o3⟩:=y;obtain⟨r1,r2⟩:=I;dsimp only at r1 r2;subst r1;have r3:=r2.u;refine ba (by simp) ?_;refine aw (yU _ _ hg.c) λv hv=>?_
  have U:=hv.2 (h1 (λh=>by rw[h] at J;simp at J));have U:v=3:=U;subst U;refine aQ (by decide) (by dsimp only;rw[hg.c];decide) (aS ?_);refine aw (vW (by omega) hg hs (V5 (by decide) (by decide) (by simp[iv,hg.h,L0]) (⟨rfl,by dsimp only;rw[hg.c];rfl⟩)) (by decide)) λy I=>ba (by simp) (al ⟨I.1,(M.trans r2 (bO _)).trans I.2 (by omega)⟩)
 .have Z:s.index=[]:=gw.1 (by dsimp only[ar] at J;omega);refine aw (Bk _ _ g out hex hg hs (by rw[hg.len];decide) (by rw[hg.len];decide) (by omega)) λy I=>?_
  obtain⟨g2,o2⟩:=y;obtain⟨q1,M⟩:=I;dsimp only at q1 M;subst q1;have q3:=M.u;refine ba (by simp) ?_;refine aw (xo _ _ (by dsimp only;rw[hg.h];decide)) λv hv=>fm (λJ=>?_) λJ=>?_
  .have v1:=hv.2.1;dsimp only at v1 J;rw[hg.h] at v1;have v1:v<2:=v1;refine aw (vW (by omega) hg hs (V5 (by decide) (by decide) (by simp[iv,hg.h,L0];omega) ((by decide:¬(2:Int)=3))) (by decide)) λy I=>ba (by simp) (al ⟨I.1,M.trans I.2 (by omega)⟩)
  .have v1:=hv.2.2.2 J;dsimp only at v1;rw[hg.h] at v1;refine aw (yU _ _ hg.c) λv Y=>?_
   have v2:=Y.1 (h4 Z) v1;refine aw (vW (by omega) hg hs (V5 (by decide) (by decide) (by simp[iv,hg.h,L0]) (v2)) (by decide)) λy I=>ba (by simp) (al ⟨I.1,M.trans I.2 (by omega)⟩)
theorem YV (s:List UInt8) (g:GN) (out:List IT) (hg:GB nT g):Ok (i_ (s,g,out)) λy=>y.2=(g,out)/\(s=[99]->y.1=0):=by
 have hd:g.2.2.1.length=1:=by rw[hg.d];rfl
 unfold i_ aV bu bF aU cK aD cw;refine ci 1 (λi x=>x.1=(i:Int)/\x.2=(g,out)/\(s=[99]->i=0)) ?_ ?_ ⟨rfl,rfl,λ_=>rfl⟩
 .rintro i ⟨a,x⟩ hi ⟨e1,e2,e3⟩;dsimp only at e1 e2 e3;subst e1;subst e2;refine dz ?_;refine cC (aS ?_);refine aJ (λ_=>al ⟨rfl,λ_=>by dsimp only;omega⟩) λh=>al ⟨gL (by omega),rfl,λh2=>?_⟩
  refine (h ?_).elim;dsimp only;rw[hg.d,show i=0 by omega,h2];rfl
 .rintro⟨a,x⟩ ⟨e1,e2,e3⟩;dsimp only at e1 e2 e3;subst e1;subst e2;exact du (al ⟨rfl,λh=>by have:=e3 h;omega⟩)
def ME:Nat->Nat
 |0=>0
 |d+1=>50+16*ME d
def SR (ss:List (Int×Int×Int)) (t a:Int) (m:Nat):Prop:=0<=a/\a+m<=1000/\∀ i:Int,a<=i->i<a+m->SO ss t i
def SpG (nT:Nat) (ss:List (Int×Int×Int)) (t:Int) (I:Sx×GN×List IT->Option (GN×List IT)) (d:Nat):Prop:=∀ (s:Sx) (g:GN) (out:List IT),GS nT d s->GB nT g->SR ss t (gN g) (NK d s)->out.length+ME d<=90000000->Ok (I (s,g,out)) (QG nT ss t (ME d) (NK d s) g out)
def Zs (nT:Nat) (ss:List (Int×Int×Int)) (t:Int) (rs:List Sx×GN×List IT->Option (GN×List IT)) (d:Nat):Prop:=∀ (l:List Sx) (g:GN) (out:List IT),l.length<=100->(∀ s∈l,GS nT d s)->GB nT g->SR ss t (gN g) (mU d l)->out.length+l.length*ME d<=90000000->Ok (rs (l,g,out)) (QG nT ss t (l.length*ME d) (mU d l) g out)
abbrev FS6:Type:=List Sx×GN×List IT->Option (GN×List IT)
abbrev FT6:Type:=Sx×GN×List IT->Option (GN×List IT)
abbrev FA6:Type:=(Sx×Int×Int×Int)×GN×List IT->Option (GN×List IT)
variable {nT:Nat} {ss:List (Int×Int×Int)} {t:Int}
def af6 (nT:Nat) (ss:List (Int×Int×Int)) (t:Int) (I:FT6) (d:Nat):Prop:=∀ (s:Sx) (g:GN) (out:List IT),s.op=2\/s.op=3->GE 4 s.expr->s.body.length<=8->s.els.length<=8->(∀ x∈s.body,GS nT d x)->(∀ x∈s.els,GS nT d x)->(¬s.op=2->s.els=[])->GB nT g->SO ss t (gS g)->SR ss t (gN g) (mU d s.body+mU d s.els)->out.length+ME (d+1)<=90000000->Ok (I (s,g,out)) (QG nT ss t (17+16*ME d) (mU d s.body+mU d s.els) g out)
def af7 (nT:Nat) (ss:List (Int×Int×Int)) (t:Int) (ra:FA6) (d:Nat):Prop:=∀ (s:Sx) (a b c:Int) (g:GN) (out:List IT),s.body.length<=8->(∀ x∈s.body,GS nT d x)->GO nT (a,c,0,0,0,0)->GO nT (b,c,0,0,0,0)->¬a=5/\¬a=10->¬b=5/\¬b=10->GB nT g->SO ss t (gS g)->SR ss t (gN g) (mU d s.body)->out.length+ME (d+1)<=90000000->Ok (ra ((s,a,b,c),g,out)) (QG nT ss t (17+16*ME d) (mU d s.body) g out)
theorem SR.sub {a b:Int} {m n:Nat} (h:SR ss t a m) (h1:a<=b) (h2:b+n<=a+m):SR ss t b n:=⟨by have:=h.1;omega,by have:=h.2.1;omega,λi J I=>h.2.2 i (by omega) (by omega)⟩
theorem Ss (rs:FS6) (M:FT6) (Y:FT6) (ra:FA6) (d:Nat) (ht:SpG nT ss t M d):Zs nT ss t (pK rs M Y ra) d:=by
 intro l g out hl hs hg hso hb;unfold pK bu bA bF aU cK aD cw;refine ci l.length (λi x=>x.1=(i:Int)/\QG nT ss t (i*ME d) (mU d (l.take i)) g out x.2) ?_ ?_ ⟨rfl,GQ.refl g,QC.nil _ _,by simp[mU]⟩
 .rintro i ⟨a,U,o2⟩ hi ⟨e1,q1,I,q3⟩;dsimp only at e1 q1 I q3;subst e1;have Z:(i+1)*ME d<=l.length*ME d:=cz _ (by omega);have hKs:=iz i (ME d);rw[Nat.succ_eq_add_one] at hKs;have hp:=Na (d:=d) l (i+1);rw[vD hi] at hp;have q4:=I.u;refine dz ?_;refine cC (aS ?_);refine aw (ht _ U o2 (hs _ (bH (T:=.sm) (xs:=l) (j:=(i:Int)) (by omega) (by omega))) (hg.of q1) (hso.sub (by rw[q3];omega) (by rw[q3];dsimp only;omega)) (by omega)) λy J=>ba (by simp) (al ?_)
  rw[vD hi];exact⟨gL (by omega),q1.trans J.q,I.trans J.c (by omega),by rw[J.x,q3];dsimp only;omega⟩
 .rintro⟨a,U,o2⟩ ⟨e1,q⟩;dsimp only at e1;subst e1;rw[cL] at q;exact du (al q)
theorem O_ (rs:FS6) (Z:FT6) (rb:FT6) (ra:FA6) (d:Nat) (hS:Zs nT ss t rs d):af7 nT ss t (ox rs Z rb ra) d:=by
 intro s a b c g out h1 h2 ga gb na nb hg hs hso hb;have hm:ME (d+1)=50+16*ME d:=rfl;have kb:s.body.length*ME d<=8*ME d:=cz _ h1;unfold ox aV bk bt ct eo kc bI pj bA;refine aw (vW (by omega) hg hs ga na) λy I=>?_
 obtain⟨Y,o2⟩:=y;obtain⟨q1,J⟩:=I;dsimp only at q1 J;subst q1;have q3:=J.u;refine ba (by simp) ?_;refine aw (hS s.body Y o2 (by omega) h2 hg hso (by omega)) λy I=>?_
 obtain⟨M,o3⟩:=y;obtain⟨r1,r2,r3⟩:=I;dsimp only at r1 r2 r3;have r4:=r2.u;refine ba (by simp) ?_;have U:=r1.trans (GQ.site M M.2.2.2.2.2.1 Y.2.2.2.2.2.2.2.1 M.2.2.2.2.2.2.2.2);refine aw (vW (by dsimp only;omega) (hg.of U) hs gb nb) λy I=>ba (by simp) (al ⟨?_,?_,?_⟩)
 .rw[I.1];exact U
 .exact (J.trans r2 (bO _)).trans I.2 (by omega)
 .rw[I.1];exact r3
theorem xP {l:List IT} {j k:Nat} {x:IT} (h:j<l.length):iA (cJ l (j:Int) x) k=if k=j then x else iA l k:=HK (T:=Ad) l j k x h
abbrev ptB (l:List IT) (j:Nat) (b:Int):List IT:=cJ l (j:Int) ((iA l j).1,(iA l j).2.1,b,(iA l j).2.2.2.1,(iA l j).2.2.2.2.1,(iA l j).2.2.2.2.2)
abbrev ptA (l:List IT) (j:Nat) (a:Int):List IT:=cJ l (j:Int) ((iA l j).1,a,(iA l j).2.2.1,(iA l j).2.2.2.1,(iA l j).2.2.2.2.1,(iA l j).2.2.2.2.2)
theorem GI.pb {i:IT} {b:Int} (h:GI nT ss t i) (h1:i.1=10):GI nT ss t (i.1,i.2.1,b,i.2.2.2.1,i.2.2.2.2.1,i.2.2.2.2.2):=by
 obtain⟨Z,Y,U,M,J,I⟩:=i;dsimp only at h1;subst h1;exact⟨⟨h.o.o1,h.o.o2,h.o.r,(by decide:¬(10:Int)=3)⟩,h.s⟩
theorem QC.cbr {n m:Nat} {out o1 o2 I:List IT} {br:IT} (h1:QC nT ss t n out o1) (h2:o2=o1++[br]) (hb:GI nT ss t br) (U:br.1=10) (M:QC nT ss t m o2 I) (F:List IT) (hl:I.length<=F.length) (Y:∀ k:Nat,k<I.length->¬k=o1.length->iA F k=iA I k) (hFb:∃ b:Int,(0<=b/\b<=(F.length:Int))/\iA F o1.length=(br.1,br.2.1,b,br.2.2.2.1,br.2.2.2.2.1,br.2.2.2.2.2)):(∀ k:Nat,k<out.length->iA F k=iA out k)/\pW F out.length o1.length/\(iA F o1.length).1=10/\pW F (o1.length+1) I.length/\(∀ k:Nat,out.length<=k->k<I.length->GI nT ss t (iA F k))/\∀ k:Nat,out.length<=k->k<I.length->(iA F k).1=10->0<=(iA F k).2.2.1/\(iA F k).2.2.1<=(F.length:Int):=by
 have l2:o2.length=o1.length+1:=by rw[h2,bn];rfl
 have l1:=h1.l;have l3:=M.l;have e1:∀ k:Nat,k<o1.length->iA F k=iA o1 k:=λk hk=>by rw[Y k (by omega) (by omega),M.p k (by omega),h2,Hl hk]
 obtain⟨b,hb0,eb⟩:=hFb;refine ⟨λk hk=>(e1 k (by omega)).trans (h1.p k hk),h1.b.congr λk _ hk=>e1 k hk,by rw[eb];exact U,?_,λk g1 J=>?_,λk g1 J Z=>?_⟩
 .have:=M.b;rw[l2] at this;exact this.congr λk g1 J=>Y k J (by omega)
 .rcases LW k o1.length with hk|hk|hk
  .rw[e1 k hk];exact h1.i k g1 hk
  .rw[hk,eb];exact hb.pb U
  .rw[Y k J (by omega)];exact M.i k (by omega) J
 .rcases LW k o1.length with hk|hk|hk
  .rw[e1 k hk] at Z ⊢;have:=h1.r k g1 hk Z;omega
  .rw[hk,eb];exact hb0
  .rw[Y k J (by omega)] at Z ⊢;have:=M.r k (by omega) J Z;omega
theorem Ka (rs:FS6) (rt:FT6) (rb:FT6) (ra:FA6) (d:Nat) (hS:Zs nT ss t rs d):af6 nT ss t (l_ rs rt rb ra) d:=by
 intro s g out hop he h1 h2 h3 h4 hel hg hs hso hb;have hm:ME (d+1)=50+16*ME d:=rfl;have kb:s.body.length*ME d<=8*ME d:=cz _ h1;have ke:s.els.length*ME d<=8*ME d:=cz _ h2;have hex:GE 4 (dQ (Xp.op s.expr,Xp.n s.expr,Xp.name s.expr,Xp.l s.expr)):=by rw[eT];exact he
 unfold l_ aV bk bt ct eo kc pj ck bc bA aU;refine aw (Bk _ _ g out hex hg hs (by rw[hg.len];decide) (by rw[hg.len];decide) (by omega)) λy hy=>?_
 obtain⟨Y,o1⟩:=y;obtain⟨p1,p2⟩:=hy;dsimp only at p1 p2;subst p1;have p3:=p2.u;have p4:=p2.l;refine ba (by simp) ?_;refine aw (GJ _ Y o1 (by omega)) λy hy=>?_
 obtain⟨J,o2⟩:=y;obtain⟨q1,q2⟩:=hy;dsimp only at q1 q2;subst q1;rw[hg.len] at q2;have hbr:GI nT ss t ((10,2,0,0,0,J.2.2.2.2.2.2.2.1):IT):=⟨V5 (by decide) (by decide) (by simp[iv]) (by decide:¬(10:Int)=3),hs⟩
 have l2:o2.length=o1.length+1:=by rw[q2,bn];rfl
 refine ba (by simp) ?_;refine aw (hS s.body J o2 (by omega) h3 hg (hso.sub (eD _) (by omega)) (by omega)) λy hy=>?_
 obtain⟨U,I⟩:=y;obtain⟨r1,r2,r3⟩:=hy;dsimp only at r1 r2 r3;have r4:=r2.u;have r5:=r2.l;have ebr:iA I o1.length=(10,2,0,0,0,J.2.2.2.2.2.2.2.1):=by rw[r2.p _ (by omega),q2,wg]
 refine ba (by simp) ?_;have qs:=r1.trans (GQ.site U U.2.2.2.2.2.1 J.2.2.2.2.2.2.2.1 U.2.2.2.2.2.2.2.2);refine aJ (λh3w=>?_) λh3w=>?_
 .have hels:mU d s.els=0:=by rw[hel (by have h3w:s.op=3:=h3w;omega)];rfl
  rw[hels,db];refine aw (GJ _ _ I (by omega)) λy hy=>?_
  obtain⟨g4,M⟩:=y;obtain⟨w1,w2⟩:=hy;dsimp only at w1 w2;have l4:M.length=I.length+1:=by rw[w2,bn];rfl
  refine ba (by simp) (aQ (dt _) (by dsimp only[ar];omega) (aQ (dt _) (by dsimp only[ar];omega) (al ?_)));have hat:o1.length<M.length:=by omega
  have ej:iA M I.length=(5,(out.length:Int),0,0,0,J.2.2.2.2.2.2.2.1):=by rw[w2,wg];rfl
  have e43:∀ k:Nat,k<I.length->iA M k=iA I k:=λk hk=>by rw[w2,Hl hk]
  refine ⟨by dsimp only;rw[w1];exact qs,?_,by dsimp only;rw[w1];exact r3⟩;dsimp only;have eF:∀ {z:IT} {k:Nat},¬k=o1.length->iA (cJ M ((o1.length:Nat):Int) z) k=iA M k:=λh=>by rw[xP hat,aC h]
  obtain⟨f1,f2,f3,f4,f5,f6⟩:=p2.cbr q2 hbr rfl r2 (ptB M o1.length (aN M.length)) (by rw[bT];omega) (λk hk hn=>(eF hn).trans (e43 k hk)) ⟨_,⟨dt _,by rw[bT];exact eD _⟩,by rw[xP hat,aI rfl,e43 _ (by omega),ebr];rfl⟩;show QC nT ss t _ out (ptB M o1.length (aN M.length));have ejF:iA (ptB M o1.length (aN M.length)) I.length=(5,(out.length:Int),0,0,0,J.2.2.2.2.2.2.2.1):=(eF (by omega:¬I.length=o1.length)).trans ej;refine ⟨by rw[bT];omega,by rw[bT];omega,f1,?_,λk Y J=>?_,λk Y J U=>?_⟩
  .rw[(bT _ _ _).trans l4];exact f2.whl f3 f4 (by rw[ejF]) (by rw[ejF])
  .rw[bT,l4] at J;by_cases hk:k<I.length
   .exact f5 k Y hk
   .rw[show k=I.length by omega,ejF];exact⟨V5 (by decide) (by decide) (by simp[iv]) (by decide:¬(5:Int)=3),hs⟩
  .have g2':=J;rw[bT,l4] at g2';by_cases hk:k<I.length
   .exact f6 k Y hk U
   .rw[show k=I.length by omega,ejF] at U;cases U
 refine aJ (λhz=>?_) λ_=>?_
 .have hels:mU d s.els=0:=by rw[gw.1 (by dsimp only[ar] at hz;omega:s.els.length=0)];rfl
  rw[hels,db];refine aQ (dt _) (by dsimp only[ar];omega) (aQ (dt _) (by dsimp only[ar];omega) (al ⟨qs,?_,r3⟩));dsimp only;have hat:o1.length<I.length:=by omega
  obtain⟨f1,f2,f3,f4,f5,f6⟩:=p2.cbr q2 hbr rfl r2 (ptB I o1.length (aN I.length)) (by rw[bT];omega) (λk hk hn=>by rw[xP hat,aC hn]) ⟨_,⟨dt _,by rw[bT];exact eD _⟩,by rw[xP hat,aI rfl,ebr];rfl⟩;show QC nT ss t _ out (ptB I o1.length (aN I.length));refine ⟨by rw[bT];omega,by rw[bT];omega,f1,?_,λk Y J=>?_,λk Y J U=>?_⟩
  .rw[bT];exact (f2.app (pW.one (by rw[f3];decide))).app f4
  .rw[bT] at J;exact f5 k Y J
  .exact f6 k Y (by rw[bT] at J;exact J) U
 .refine aw (GJ _ _ I (by omega)) λy hy=>?_
  obtain⟨g4,M⟩:=y;obtain⟨w1,w2⟩:=hy;dsimp only at w1 w2;have l4:M.length=I.length+1:=by rw[w2,bn];rfl
  have qs4:GQ J g4:=by rw[w1];exact qs
  have x4:gN g4=gN J+(mU d s.body:Nat):=by rw[w1];exact r3
  have hat:o1.length<M.length:=by omega
  have ej:iA M I.length=(5,0,0,0,0,J.2.2.2.2.2.2.2.1):=by rw[w2,wg]
  have e43:∀ k:Nat,k<I.length->iA M k=iA I k:=λk hk=>by rw[w2,Hl hk]
  refine ba (by simp) (aQ (dt _) (by dsimp only[ar];omega) (aQ (dt _) (by dsimp only[ar];omega) ?_));have eF:∀ {z:IT} {k:Nat},¬k=o1.length->iA (cJ M ((o1.length:Nat):Int) z) k=iA M k:=λh=>by rw[xP hat,aC h]
  refine aw (hS s.els g4 (ptB M o1.length (aN M.length)) (by omega) h4 (hg.of qs4) (hso.sub (by rw[x4];omega) (by rw[x4];omega)) (by rw[bT];omega)) λy hy=>?_
  obtain⟨g5,Z⟩:=y;obtain⟨z1,z2,z3⟩:=hy;dsimp only at z1 z2 z3;have z4:=z2.l;have z5:=z2.u;have zp:=z2.p;have zb:=z2.b;have zi:=z2.i;have zr:=z2.r;rw[bT] at z4 z5 zp zb zi zr;have hj5:I.length<Z.length:=by omega
  refine ba (by simp) (aQ (dt _) (by dsimp only[ar];omega) (aQ (dt _) (by dsimp only[ar];omega) (al ⟨qs4.trans z1,?_,by dsimp only;rw[z3,x4];omega⟩)));dsimp only;show QC nT ss t _ out (ptA Z I.length (aN Z.length));have eG:∀ {z:IT} {k:Nat},¬k=I.length->iA (cJ Z ((I.length:Nat):Int) z) k=iA Z k:=λh=>by rw[xP hj5,aC h]
  have ej5:iA Z I.length=(5,0,0,0,0,J.2.2.2.2.2.2.2.1):=by rw[zp _ (by omega),eF (by omega),ej]
  obtain⟨f1,f2,f3,f4,f5,f6⟩:=p2.cbr q2 hbr rfl r2 (ptA Z I.length (aN Z.length)) (by rw[bT];omega) (λk hk hn=>by rw[eG (by omega),zp k (by omega),eF hn,e43 k hk]) ⟨aN M.length,⟨dt _,by rw[bT];dsimp only[ar];omega⟩,by rw[eG (by omega),zp _ (by omega),xP hat,aI rfl,e43 _ (by omega),ebr]⟩;have ejF:iA (ptA Z I.length (aN Z.length)) I.length=(5,aN Z.length,0,0,0,J.2.2.2.2.2.2.2.1):=by rw[xP hj5,aI rfl,ej5]
  refine ⟨by rw[bT];omega,by rw[bT];omega,f1,?_,λk Y J=>?_,λk Y J U=>?_⟩
  .rw[bT];refine ((f2.app (pW.one (by rw[f3];decide))).app f4).ite (by rw[ejF]) (by rw[ejF];rfl) ?_;rw[l4] at zb;exact zb.congr λk Y J=>eG (by omega)
  .rw[bT] at J;rcases LW k I.length with hk|hk|hk
   .exact f5 k Y hk
   .rw[hk,ejF];exact⟨V5 (by decide) (by decide) (by simp[iv]) (by decide:¬(5:Int)=3),hs⟩
   .rw[eG (by omega)];exact zi k (by omega) J
  .have g2':=J;rw[bT] at g2';rcases LW k I.length with hk|hk|hk
   .exact f6 k Y hk U
   .rw[hk,ejF] at U;cases U
   .rw[eG (by omega)] at U ⊢;rw[bT];exact zr k (by omega) g2' U
theorem V4 (rs:FS6) (rt:FT6) (rb:FT6) (ra:FA6) (d:Nat) (hB:af6 nT ss t rb d) (hA:af7 nT ss t ra d):SpG nT ss t (qT rs rt rb ra) (d+1):=by
 intro s g out hs hg hso hb;have hm:ME (d+1)=50+16*ME d:=rfl;obtain⟨i1,i2,i3,i4,i5,i6,i7,i8,i9,Y⟩:=hs;have hcn:NK (d+1) s=1+mU d s.body+mU d s.els:=rfl;rw[hcn] at hso ⊢;obtain⟨so0,so1,so2⟩:=id hso;have so0:0<=g.2.2.2.2.2.2.2.2:=so0;have so1:g.2.2.2.2.2.2.2.2+((1+mU d s.body+mU d s.els:Nat):Int)<=1000:=so1;have ew:be .i64 (g.2.2.2.2.2.2.2.2+1)=g.2.2.2.2.2.2.2.2+1:=gU (by omega) (by omega);have gs:=GQ.site g g.2.2.2.2.2.1 g.2.2.2.2.2.2.2.2 (be .i64 (g.2.2.2.2.2.2.2.2+1));unfold qT aV bk bt ct eo bI pj bc bA aU aD cw dS;refine aX (λx=>QG nT ss t (ME (d+1)) (1+mU d s.body+mU d s.els) g out x) ?_ λx hx=>al hx
 dsimp only;have Z:SO ss t (gS ((g.1,g.2.1,g.2.2.1,g.2.2.2.1,g.2.2.2.2.1,g.2.2.2.2.2.1,g.2.2.2.2.2.2.1,g.2.2.2.2.2.2.2.2,be .i64 (g.2.2.2.2.2.2.2.2+1)):GN)):=so2 _ (eD _) (by show g.2.2.2.2.2.2.2.2<g.2.2.2.2.2.2.2.2+((1+mU d s.body+mU d s.els:Nat):Int);omega);have hn1:gN ((g.1,g.2.1,g.2.2.1,g.2.2.2.1,g.2.2.2.2.1,g.2.2.2.2.2.1,g.2.2.2.2.2.2.1,g.2.2.2.2.2.2.2.2,be .i64 (g.2.2.2.2.2.2.2.2+1)):GN)=gN g+1:=ew;revert gs Z hn1;generalize ((g.1,g.2.1,g.2.2.1,g.2.2.2.1,g.2.2.2.2.1,g.2.2.2.2.2.1,g.2.2.2.2.2.2.1,g.2.2.2.2.2.2.2.2,be .i64 (g.2.2.2.2.2.2.2.2+1)):GN)=U;intro gs Z hn1;have M:=hg.of gs;have hso1:=hso.sub (b:=gN U) (n:=mU d s.body+mU d s.els) (by rw[hn1];omega) (by rw[hn1];omega);have fin:∀ (n m:Nat) (y:GN×List IT),QG nT ss t n m U out y->n<=ME (d+1)->m=mU d s.body+mU d s.els->QG nT ss t (ME (d+1)) (1+mU d s.body+mU d s.els) g out y:=λn m y J hn hm=>⟨gs.trans J.q,(QC.nil 0 out).trans J.c (by omega),by rw[J.x,hn1];omega⟩
 have fin0:s.op=1\/9<=s.op->∀ (n:Nat) (y:GN×List IT),y.1=U/\QC nT ss t n out y.2->n<=ME (d+1)->QG nT ss t (ME (d+1)) (1+mU d s.body+mU d s.els) g out y:=λI n y J hn=>fin n 0 y ⟨by rw[J.1];exact GQ.refl U,J.2,by rw[J.1];simp⟩ hn (by rw[Y.bo I,Y.el (by omega)];rfl)
 refine aJ (λI=>?_) λ_=>?_
 .refine aw (TJ (ne _) U out ?_ ?_ ?_ ?_ M Z (by omega)) λy J=>ba (by simp) (al (fin0 (.inl I) _ _ J (by omega)))
  .rw[wR];exact i1
  .rw[wR];exact i3
  .rw[wR];exact i4 (.inl I)
  .rw[wR];exact Y.vr I
 refine aX (λx=>x.2=(U,s,out)/\(x.1=ah↔s.op=2\/s.op=3)) ?_ ?_
 .exact aJ (λh=>al ⟨by dsimp only;rw[wR],λ_=>.inl h,λ_=>aP h⟩) λh=>al ⟨by dsimp only;rw[wR],λh2=>.inr (bm h2),λh2=>aP (h2.resolve_left h)⟩
 rintro⟨b,x⟩ ⟨e,hb2⟩;dsimp only at e hb2;subst e;refine aO (λhb3=>?_) λhbf=>?_
 .dsimp only;rw[wR];refine aw (hB s U out (hb2.1 hb3) (i4 (by rcases hb2.1 hb3 with h|h;exact .inr (.inl h);exact .inr (.inr (.inl h)))) i6 i7 i8 i9 Y.el M Z hso1 hb) λy J=>ba (by simp) (al (fin _ _ _ J (by omega) rfl))
 have har:∀ (a b c:Int),4<=s.op->GO nT (a,c,0,0,0,0)->GO nT (b,c,0,0,0,0)->¬a=5/\¬a=10->¬b=5/\¬b=10->Ok (ra ((s,a,b,c),U,out)) λy=>QG nT ss t (ME (d+1)) (1+mU d s.body+mU d s.els) g out y:=λa b c h4 ga gb na nb=>(hA s a b c U out i6 i8 ga gb na nb M Z (hso1.sub (eD _) (by omega)) hb).mono λy J=>fin _ _ _ J (by omega) (by rw[Y.el (by omega)];rfl)
 have hput:∀ {op:Int} {r:Int×Int×Int×Int×Int},9<=s.op->GO nT (op,r)->¬op=5/\¬op=10->Ok (cr ((op,r),U,out)) (QG nT ss t (ME (d+1)) (1+mU d s.body+mU d s.els) g out):=λh9 hi h5=>(vW (by omega) M Z hi h5).mono λy J=>fin0 (.inr h9) _ _ J (by omega)
 have hlk:∀ n:List UInt8,Ok (jP (U.2.1,n)) λr=>(n=[109]->r=0)/\(n=[110]->r=1)/\(n=[114]->r=2):=λn=>(K9 U.2.1 n (by rw[M.l];decide)).mono λr h=>ad1 (by rw[M.l] at h;exact h)
 have hcond:∀ (n:List UInt8),Ok (i_ (n,U,out)) λy=>y.2=(U,out)/\(n=[99]->y.1=0):=λn=>YV n U out M
 have hth:Ok (iG (U.2.2.2.2.1,s.name)) λr=>s.op=12\/s.op=13->0<=r/\r<(nT:Int):=(xo U.2.2.2.2.1 s.name (by rw[M.t,bz];have q4:uN.length=4:=rfl;omega)).mono λr hr I=>by
  have hn:=Y.sp I;have hl:(uN.take nT).length<=nT:=pl ..;obtain⟨_,h2,_,h4⟩:=hr;rw[M.t] at h2 h4;exact⟨Bb.1 λh=>h4 h hn,by omega⟩
 have hft:∀ n:List UInt8,Ok (iG (U.2.2.2.1,n)) λr=>n=[102]->r=0:=λn=>(xo U.2.2.2.1 n (by rw[M.f];decide)).mono λr hr hn=>by
  obtain⟨h1,h2,_,h4⟩:=hr;rw[M.f] at h2 h4;have h2:r<1:=h2;have:¬r<0:=λh=>h4 h (by rw[hn];decide)
  omega
 dsimp only;rw[wR];have gor:∀ {a c:Int},1<=a->a<=27->iv (a,c,0,0,0,0)=[]->OB nT (a,c,0,0,0,0)->GO nT (a,c,0,0,0,0):=λh1 h2 h3 h4=>⟨h1,h2,by rw[h3];exact λj hj=>(by cases hj),h4⟩
 refine aJ (λI=>aw (hlk _) λv hv=>aw (har _ _ _ (by have I:s.op=4:=I;omega) (gor (by decide) (by decide) rfl ?_) (gor (by decide) (by decide) rfl ?_) (by decide) (by decide)) λy J=>ba (by simp) (al J)) λ_=>?_
 .exact (Y.lk I).imp hv.1 hv.2.1
 .exact (Y.lk I).imp hv.1 hv.2.1
 refine aJ (λI=>aw (hlk _) λv hv=>aw (har _ _ _ (by have I:s.op=5:=I;omega) (gor (by decide) (by decide) rfl ?_) (gor (by decide) (by decide) rfl ?_) (by decide) (by decide)) λy J=>ba (by simp) (al J)) λ_=>?_
 .exact hv.2.2 (Y.rw (.inl I))
 .exact hv.2.2 (Y.rw (.inl I))
 refine aJ (λI=>aw (hlk _) λv hv=>aw (har _ _ _ (by have I:s.op=6:=I;omega) (gor (by decide) (by decide) rfl ?_) (gor (by decide) (by decide) rfl ?_) (by decide) (by decide)) λy J=>ba (by simp) (al J)) λ_=>?_
 .exact hv.2.2 (Y.rw (.inr I))
 .exact hv.2.2 (Y.rw (.inr I))
 refine aJ (λI=>aw (har _ _ _ (by have I:s.op=7:=I;omega) (gor (by decide) (by decide) rfl (by decide:¬(17:Int)=3)) (gor (by decide) (by decide) rfl (by decide:¬(18:Int)=3)) (by decide) (by decide)) λy J=>ba (by simp) (al J)) λ_=>?_
 refine aJ (λI=>aw (har _ _ _ (by have I:s.op=8:=I;omega) (gor (by decide) (by decide) rfl (by decide:¬(19:Int)=3)) (gor (by decide) (by decide) rfl (by decide:¬(20:Int)=3)) (by decide) (by decide)) λy J=>ba (by simp) (al J)) λ_=>?_
 refine aJ (λI=>aw (hcond _) λy J=>?_) λ_=>?_
 .obtain⟨v,y2⟩:=y;obtain⟨y3,y4⟩:=J;dsimp only at y3;subst y3;exact ba (by simp) (aw (hput (by have I:s.op=9:=I;omega) (gor (by decide) (by decide) rfl (y4 (Y.cn (.inl I)))) (by decide)) λy J=>ba (by simp) (al J))
 refine aJ (λI=>aw (hcond _) λy J=>?_) λ_=>?_
 .obtain⟨v,y2⟩:=y;obtain⟨y3,y4⟩:=J;dsimp only at y3;subst y3;exact ba (by simp) (aw (hput (by have I:s.op=10:=I;omega) (gor (by decide) (by decide) rfl (y4 (Y.cn (.inr (.inl I))))) (by decide)) λy J=>ba (by simp) (al J))
 refine aJ (λI=>aw (hcond _) λy J=>?_) λ_=>?_
 .obtain⟨v,y2⟩:=y;obtain⟨y3,y4⟩:=J;dsimp only at y3;subst y3;exact ba (by simp) (aw (hput (by have I:s.op=11:=I;omega) (gor (by decide) (by decide) rfl (y4 (Y.cn (.inr (.inr I))))) (by decide)) λy J=>ba (by simp) (al J))
 refine aJ (λI=>aw hth λv hv=>aw (hput (by have I:s.op=12:=I;omega) (gor (by decide) (by decide) rfl (hv (.inl I))) (by decide)) λy J=>ba (by simp) (al J)) λ_=>?_
 refine aJ (λI=>aw hth λv hv=>aw (hput (by have I:s.op=13:=I;omega) (gor (by decide) (by decide) rfl (hv (.inr I))) (by decide)) λy J=>ba (by simp) (al J)) λ_=>?_
 refine aJ (λI=>?_) λn14=>?_
 .have hex:GE 4 (dQ (Xp.op s.expr,Xp.n s.expr,Xp.name s.expr,Xp.l s.expr)):=by rw[eT];exact i4 (.inr (.inr (.inr I)))
  refine aw (Bk _ _ U out hex M Z (by rw[hg.len];decide) (by rw[hg.len];decide) (by omega)) λy J=>?_
  obtain⟨g2,o2⟩:=y;obtain⟨q1,q2⟩:=J;dsimp only at q1 q2;subst q1;have q3:=q2.u;refine ba (by simp) (aw (hft _) λv hv=>?_);refine aw (vW (by omega) M Z (V5 (by decide) (by decide) (by simp[iv,hg.h,L0]) (hv (Y.se I))) (by decide)) λy J=>ba (by simp) (al (fin0 (.inr (by have I:s.op=14:=I;omega)) 16 _ ⟨J.1,q2.trans J.2 (bO _)⟩ (by omega)))
 refine aJ (λI=>?_) λn15=>?_
 .refine aw (xo _ _ (by rw[M.h];decide)) λv hv=>aw (hft _) λv2 hv2=>?_
  have hge:=Y.ge I;have hl:(0:Int)<=v/\v<2:=by
   obtain⟨_,h2,_,h4⟩:=hv;rw[M.h] at h2 h4;exact⟨Bb.1 λh=>h4 h (by rw[hge.1];decide),h2⟩
  exact aw (hput (by have I:s.op=15:=I;omega) (V5 (by decide) (by decide) (by simp[iv];omega) (hv2 hge.2)) (by decide)) λy J=>ba (by simp) (al J)
 .exfalso;have h1:=Y.o0;have h2:=Y.o1;have h3:¬(s.op=2\/s.op=3):=λh=>by have hbf:b=ai:=hbf;rw[hb2.2 h] at hbf;cases hbf
  omega
variable {nT:Nat} {ss:List (Int×Int×Int)} {t:Int}
theorem UO:∀ (n:Nat),(∀ d:Nat,3*d<n->SpG nT ss t (eC n) d)/\(∀ d:Nat,3*d+1<n->Zs nT ss t (dC n) d)/\(∀ d:Nat,3*d+2<n->af6 nT ss t (cV n) d)/\(∀ d:Nat,3*d+2<n->af7 nT ss t (dx n) d)
 |0=>⟨λd h=>by omega,λd h=>by omega,λd h=>by omega,λd h=>by omega⟩
 |n+1=>by
  obtain⟨J,I,M,hA⟩:=UO n;refine ⟨λd h=>?_,λd h=>?_,λd h=>?_,λd h=>?_⟩
  .cases d with
   |zero=>exact λs g out hs=>hs.elim
   |succ d=>exact V4 (dC n) (eC n) (cV n) (dx n) d (M d (by omega)) (hA d (by omega))
  .exact Ss (dC n) (eC n) (cV n) (dx n) d (J d (by omega))
  .exact Ka (dC n) (eC n) (cV n) (dx n) d (I d (by omega))
  .exact O_ (dC n) (eC n) (cV n) (dx n) d (I d (by omega))
theorem MJ (d:Nat) (hd:d<=100):Zs nT ss t sS d:=(UO fuel).2.1 d (by rw[jA];omega)
structure SL (t k:Int) (m:Nat) (S:List (Int×Int×Int)):Prop where
 l:S.length=m
 v:∀ i:Nat,i<m->(aH (T:=wQ) S (i:Int)).1=t/\(aH (T:=wQ) S (i:Int)).2.1=k+i
theorem HM {T:Ty} {l m:List T.den} {k:Nat} (h:k<l.length):aH (l++m) (k:Int)=aH l (k:Int):=by
 rw[xq,xq,ax,ax,bL h]
theorem HL {T:Ty} {l m:List T.den} {k:Nat} (h:l.length<=k):aH (l++m) (k:Int)=aH m ((k-l.length:Nat):Int):=by
 rw[xq,xq,ax,ax,bW h]
theorem SL.nil (t k:Int):SL t k 0 []:=⟨rfl,λi h=>by omega⟩
theorem SL.one (t k z:Int):SL t k 1 [(t,k,z)]:=⟨rfl,λi h=>by rw[show i=0 by omega];exact⟨rfl,by show k=k+((0:Nat):Int);omega⟩⟩
theorem SL.app {k k':Int} {a b:Nat} {S S':List (Int×Int×Int)} (h:SL t k a S) (h':SL t k' b S') (hk:k'=k+a):SL t k (a+b) (S++S'):=by
 obtain⟨h1,h2⟩:=h;obtain⟨J,I⟩:=h';refine ⟨by rw[bn];omega,λi hi=>?_⟩;by_cases hl:i<S.length
 .rw[HM (T:=wQ) hl];exact h2 i (by omega)
 .rw[HL (T:=wQ) (by omega)];have:=I (i-S.length) (by omega);exact⟨this.1,this.2.trans (show k'+((i-S.length:Nat):Int)=k+(i:Int) by omega)⟩
theorem DB:∀ (n d:Nat),d<n->∀ (t k:Int) (l:List Sx) (out:List (Int×Int×Int)),l.length<=100->(∀ s∈l,GT d s)->0<=k->k+mU d l<=100000000->out.length+mU d l<=100000000->Ok (oS n ((t,k,l),out)) λy=>y.1=k+mU d l/\∃ S,y.2=out++S/\SL t k (mU d l) S
 |0,_,h,_,_,_,_,_,_,_,_,_=>by omega
 |n+1,d,hn,t,k,l,out,hl,hs,k0,hkb,hb=>by
  rw[FB];unfold wq bu vP bA aU cK aD cw;refine ci l.length (λi x=>x.1.2=(i:Int)/\x.1.1=k+mU d (l.take i)/\∃ S,x.2=out++S/\SL t k (mU d (l.take i)) S) ?_ ?_ ⟨rfl,by simp[mU],[],by simp,by simp[mU];exact SL.nil t k⟩
  .rintro i ⟨⟨a,b⟩,o⟩ hi ⟨e1,e2,S,e3,e4⟩;dsimp only at e1 e2 e3;subst e1;subst e2;subst e3;have hp:=Na (d:=d) l (i+1);rw[vD hi] at hp;rw[vD hi];refine dz ?_;have hin:((i:Nat):Int)<(l.length:Int):=by omega
   have hm:=hs _ (bH (T:=.sm) (xs:=l) (j:=(i:Int)) (by omega) (by omega));have hSl:=e4.l;cases d with
   |zero=>exact hm.elim
   |succ d=>
    obtain⟨_,_,_,g4,g5,g6,g7⟩:=hm;have hc:NK (d+1) (aH (T:=.sm) l (i:Int))=1+mU d (Sx.body (aH (T:=.sm) l (i:Int)))+mU d (Sx.els (aH (T:=.sm) l (i:Int))):=rfl;rw[hc] at hp ⊢;dsimp only;refine aQ (by omega) hin (aS (bg (by simp;omega) (by omega) (aQ (by omega) hin (aS ?_))));rw[gU (n:=k+(mU (d+1) (l.take i):Nat)+1) (by omega) (by omega)];refine aw (DB n d (by omega) _ _ _ _ (by omega) g6 (by omega) (by omega) (by simp;omega)) λy I=>ba (by simp) ?_
    obtain⟨a2,o2⟩:=y;obtain⟨Z,S2,Y,U⟩:=I;dsimp only at Z Y;subst Z;subst Y;have hSl2:=U.l;refine aQ (by omega) hin (aS ?_);refine aw (DB n d (by omega) _ _ _ _ (by omega) g7 (by omega) (by omega) (by simp;omega)) λy I=>ba (by simp) (al ?_)
    obtain⟨a3,o3⟩:=y;obtain⟨M,S3,J,z3⟩:=I;dsimp only at M J;subst M;subst J;refine ⟨gL (by omega),by dsimp only;omega,S++([_]++(S2++S3)),by simp only[jy];rfl,?_⟩;refine e4.app ?_ rfl;rw[rD];exact (SL.one t _ _).app (U.app z3 rfl) (by simp)
  .rintro⟨⟨a,b⟩,o⟩ ⟨e1,e2,e3⟩;dsimp only at e1 e2 e3;subst e1;subst e2;rw[cL] at e3 ⊢;exact du (al ⟨rfl,e3⟩)
theorem Ug {T k' M k:Int} {l S:List (Int×Int×Int)} {m:Nat} (h:JA T l=aa (k',M)) (U:SL t k m S) (hk:(k'=t/\M=k)\/(k'<t/\t<T/\k=0)):∀ i:Nat,i<=m->JA T (l++S.take i)=aa (if i=0 then (k',M) else (t,k+i))
 |0,_=>by rw[List.take_zero,lm,aI rfl];exact h
 |i+1,hi=>by
  have Z:=Ug h U hk i (by omega);rw[nC (T:=wQ) (xs:=S) (i:=i) (by rw[U.l];omega),<-jy,Ui,Z];obtain⟨v1,J⟩:=U.v i (by omega);rw[aC (Nat.succ_ne_zero i)];by_cases I:i=0
  .subst I;rw[aI rfl];unfold Rk;dsimp only;rcases hk with ⟨h1,h2⟩|⟨h1,h2,Y⟩
   .rw[aI ⟨by rw[v1,h1],by rw[J,h2];simp⟩,h1,h2];simp
   .rw[aC (λh=>by rw[v1] at h;omega),aI ⟨by rw[v1];exact h1,by rw[v1];exact h2,by rw[J,Y];rfl⟩,v1,Y];simp
  .rw[aC I];unfold Rk;dsimp only;rw[aI ⟨v1,J⟩];congr 2;omega
abbrev CE6:Type:=List UInt8×Int×Int×Bool×Int
abbrev W4T:Type:=List CE6×List (List UInt8×Bool)×List (List UInt8×Int)×List (List UInt8)
def ceD (z:DT):List CE6:=(eg (aR (jR z.2.2.2.1 1))).map λ(k:Nat)=>(z.2.2.1,(k:Int),z.2.2.2.1,decide (z.1=2),z.2.2.2.2.1)
def adD (y:W4T) (z:DT):W4T:=
 if z.1=1\/z.1=2 then (y.1++ceD z,y.2) else if z.1=3\/z.1=4 then (y.1,y.2.1++[(z.2.2.1,decide (z.1=4))],y.2.2) else if z.1=5 then (y.1,y.2.1,y.2.2.1++[(z.2.2.1,0)],y.2.2.2) else (y.1,y.2.1,y.2.2.1,y.2.2.2++[z.2.2.1])
def W4 (i:Nat):W4T:=(D0.take i).foldl adD ([],[],[],[])
theorem W4_9:W4 9=(C0,Fi,KF,Q4):=rfl
theorem W4_s {i:Nat} (hi:i<9):W4 (i+1)=adD (W4 i) (aH (T:=tDc) D0 (i:Int)):=by
 unfold W4;rw[nC (T:=tDc) (xs:=D0) hi,fe];rfl
theorem D0_c:∀ i:Nat,i<9->(aH (T:=tDc) D0 (i:Int)).1=5->i=7:=by decide
theorem ahq:∀ i:Nat,i<9->(W4 i).1.length<=5/\(W4 i).2.1.length<=3/\(W4 i).2.2.1.length<=1/\(W4 i).2.2.2.length<=1/\jR (aH (T:=tDc) D0 (i:Int)).2.2.2.1 1<=2/\1<=jR (aH (T:=tDc) D0 (i:Int)).2.2.2.1 1:=by decide
def ZU (p:PG) (i:Nat):Nat:=((p.2.take i).map λt=>mU 5 t.2.2.2).sum
def boN (p:PG) (i:Nat):Nat:=mU 5 (aH (T:=xA) p.2 (i:Int)).2.2.2
theorem ad8 {p:PG} {i:Nat} (hi:i<p.2.length):ZU p (i+1)=ZU p i+boN p i:=by
 unfold ZU boN;rw[nC (T:=xA) hi,cI,D_];simp
theorem TB {p:PG} (i:Nat) (h:(p.2.map λt=>mU 5 t.2.2.2).sum<=60):ZU p i<=60:=by
 refine c_ ?_ h
 conv=>rhs;rw[<- Aa i p.2]
 unfold ZU;rw[cI,D_];omega
structure SW (p:PG) (i:Nat) (S:List (Int×Int×Int)):Prop where
 l:S.length=ZU p i
 f:∃ a b,JA p.2.length S=aa (a,b)/\(a<i\/a=0/\b=0)
 s:∀ j:Nat,j<i->SR S (j:Int) (ZU p j:Nat) (boN p j)
structure WW (p:PG) (w:WT):Prop where
 x:WX w
 t:w.2.2.2.2.1=uN.take p.2.length
 s:∀ j:Nat,j<p.2.length->SR w.2.2.2.2.2 (j:Int) (ZU p j:Nat) (boN p j)
theorem SO.app {S S':List (Int×Int×Int)} {t s:Int} (h:SO S t s):SO (S++S') t s:=by
 obtain⟨h0,h1,h2⟩:=h;obtain⟨s,rfl⟩:∃ n:Nat,s=(n:Int):=⟨s.toNat,by omega⟩
 exact⟨h0,by rw[bn];omega,by rw[HM (T:=wQ) (by omega)];exact h2⟩
theorem TO (p:PG) (hp:PJ p) (r:Int×Int) (hr:eV p=aa r) (h0:r.1=0) (hc:(p.2.map λt=>mU 5 t.2.2.2).sum<=60):Ok (sT p) (WW p):=by
 have hpt:=hp.t;unfold sT aV bk bt ct eo bI di cQ eU l7 bc bu iL bA bF aU cK aD cw;refine aT hr (b7 (λh=>(h h0).elim) λ_=>?_);have hD:p.1=D0:=hp.d;have hlen:p.1.length=9:=by rw[hD];rfl
 refine ci 9 (λi x=>x.1=(i:Int)/\x.2.1=p/\x.2.2=W4 i) ?_ ?_ ⟨rfl,rfl,rfl⟩
 .rintro i ⟨a,p',y⟩ hi ⟨e1,e2,e3⟩;dsimp only at e1 e2 e3;subst e1;have e2:=e2.symm;subst e2;obtain⟨b1,b2,b3,b4,b5,b6⟩:=ahq i hi;rw[<- e3] at b1 b2 b3 b4;have hW:=W4_s hi;rw[<- e3] at hW;have hcd:=D0_c i hi;have hlk:i=7->y.2.1=Fi/\(aH (T:=tDc) D0 (i:Int)).2.2.2.2.2=[109]:=λh=>by subst h;rw[e3];exact⟨rfl,rfl⟩
  refine dz ?_;refine cC (aS ?_);dsimp only;rw[hD];revert hW hcd hlk b5 b6;generalize (aH (T:=tDc) D0 (i:Int))=z;intro b5 b6 hW hcd hlk;refine aX (λx=>x=(p,W4 (i+1))) ?_ ?_
  .rw[hW];unfold adD;refine aX (λx=>x.2=(p,z,y)/\(x.1=ah↔(z.1=1\/z.1=2))) ?_ ?_
   .exact aJ (λh=>al ⟨rfl,λ_=>.inl h,λ_=>aP h⟩) λh=>al ⟨rfl,λh2=>.inr (bm h2),λh2=>aP (h2.resolve_left h)⟩
   rintro⟨b,x⟩ ⟨e,hb⟩;dsimp only at e hb;subst e;refine aO (λI=>?_) λI=>?_
   .rw[aI (hb.1 I)];unfold ceD;obtain⟨m,hm⟩:∃ m:Nat,jR z.2.2.2.1 1=(m:Int):=⟨(jR z.2.2.2.1 1).toNat,by omega⟩
    rw[hm,fh];refine ci m (λk x=>x=((k:Int),p,z,y.1++(eg k).map (λ(k:Nat)=>(z.2.2.1,(k:Int),z.2.2.2.1,decide (z.1=2),z.2.2.2.2.1)),y.2)) ?_ ?_ (by simp)
    .rintro k x hk rfl;refine bB (λ_=>?_) λg=>(by dsimp only at g;rw[hm] at g;omega)
     refine bg (by simp;omega) (by omega) (al ?_);dsimp only;rw[gL (by omega),List.range_succ,cI,<-jy];rfl
    .rintro x rfl;exact bB (λg=>(by dsimp only at g;rw[hm] at g;omega)) λ_=>al rfl
   rw[aC λh=>by have I:b=ai:=I;rw[hb.2 h] at I;cases I];refine aX (λx=>x.2=(p,z,y)/\(x.1=ah↔(z.1=3\/z.1=4))) ?_ ?_
   .exact aJ (λh=>al ⟨rfl,λ_=>.inl h,λ_=>aP h⟩) λh=>al ⟨rfl,λh2=>.inr (bm h2),λh2=>aP (h2.resolve_left h)⟩
   rintro⟨c,x⟩ ⟨e,U⟩;dsimp only at e U;subst e;refine aO (λh=>?_) λh=>?_
   .rw[aI (U.1 h)];exact bg (by simp;omega) (by omega) (al rfl)
   rw[aC λh2=>by have h:c=ai:=h;rw[U.2 h2] at h;cases h];refine aJ (λh5=>?_) λh5=>?_
   .obtain⟨l1,l2⟩:=hlk (hcd h5);rw[aI h5];refine aw (K9 _ _ (by dsimp only;rw[l1];decide)) λv hv=>?_
    have hv:=(ad1 (by dsimp only at hv;rw[l1] at hv;exact hv)).1 l2;subst hv;exact bg (by simp;omega) (by omega) (al rfl)
   .rw[aC h5];exact bg (by simp;omega) (by omega) (al rfl)
  rintro x rfl;exact al ⟨gL (by omega),rfl,rfl⟩
 .rintro⟨a,p',y⟩ ⟨e1,e2,j⟩;dsimp only at e1 e2 j;subst e1;have e2:=e2.symm;subst e2;rw[W4_9] at j;subst j;refine du ?_;refine aw (P:=WW p) ?_ λr hr=>al hr
  refine ci p.2.length (λi x=>x.1=(i:Int)/\x.2.1=p/\x.2.2.1=C0/\x.2.2.2.1=Fi/\x.2.2.2.2.1=KF/\x.2.2.2.2.2.1=Q4/\x.2.2.2.2.2.2.1=uN.take i/\SW p i x.2.2.2.2.2.2.2) ?_ ?_ ⟨rfl,rfl,rfl,rfl,rfl,rfl,rfl,rfl,⟨0,0,rfl,.inr ⟨rfl,rfl⟩⟩,λj hj=>by omega⟩
  .rintro i ⟨a,p2,c2,l2,d2,f2,t2,s2⟩ hi ⟨e1,e2,e3,e4,e5,e6,Z,M,⟨fa,fb,f8,f9⟩,J⟩;dsimp only at e1 e2 e3 e4 e5 e6 Z M f8 J;subst e1;have e2:=e2.symm;subst e2;have hb8:=TB (i+1) hc;have hbs:=ad8 hi;refine dz ?_;have hin:((i:Nat):Int)<(p.2.length:Int):=by omega
   have hm:=hp.m _ (bH (T:=xA) (xs:=p.2) (j:=(i:Int)) (by omega) hin);have hnm:(aH (T:=xA) p.2 (i:Int)).1=aH (T:=.str) uN (i:Int):=by
    have h1:=nC (T:=xA) hi;have h2:=gx (List.map Prod.fst) h1;rw[cI,kh,kh,hp.n,List.take_take,List.take_take,rB (by omega),rB (by omega),nC (T:=.str) (xs:=uN) (i:=i) (by have q4:uN.length=4:=rfl;omega)] at h2;exact ((List.cons.inj (List.append_cancel_left h2)).1).symm
   have htl:t2.length=i:=by rw[Z,bz];have q4:uN.length=4:=rfl;omega
   dsimp only;refine aQ (by omega) hin (aS (bg (by simp;omega) (by omega) (aQ (by omega) hin (aS ?_))));refine aw (DB fuel 5 (by rw[jA];omega) _ _ _ s2 (by have:=hm.b;omega) (λs hs=>((hm.s s hs).le (by omega:3<=5)).t) (eD _) ?_ ?_) λy hy=>ba (by simp) (al ?_)
   .show (0:Int)+(boN p i:Nat)<=_;omega
   .show s2.length+boN p i<=_;omega
   obtain⟨_,S,h2,Y⟩:=hy;have Y:SL (i:Int) 0 (boN p i) S:=Y;refine ⟨gL (by omega),rfl,e3,e4,e5,e6,?_,?_⟩
   .dsimp only;rw[Z,hnm,<-nC (T:=.str) (xs:=uN) (i:=i) (by have q4:uN.length=4:=rfl;omega)]
   .dsimp only;rw[h2];refine ⟨by rw[bn,Y.l,M,hbs],?_,λj hj=>?_⟩
    .have hr:=Ug f8 Y (by rcases f9 with h|⟨h,h'⟩;exact .inr ⟨h,by omega,rfl⟩;rcases Jv i with hi0|hi0;exact .inl ⟨by omega,h'⟩;exact .inr ⟨by omega,by omega,rfl⟩) (boN p i) (bO _);rw[<- Y.l,cL] at hr;rw[hr];split
     .exact⟨_,_,rfl,f9.imp (λh=>by omega) id⟩
     .exact⟨_,_,rfl,.inl (by omega)⟩
    .rcases bV j i with h1|h1
     .obtain⟨g1,g2,g3⟩:=J j h1;exact⟨g1,g2,λq q1 q2=>(g3 q q1 q2).app⟩
     .have hj:j=i:=by omega
      subst hj;refine ⟨by omega,by omega,λq q1 q2=>?_⟩;obtain⟨q,rfl⟩:∃ n:Nat,q=(n:Int):=⟨q.toNat,by omega⟩
      refine ⟨by omega,by rw[bn,Y.l];omega,?_⟩;rw[HL (T:=wQ) (by omega)];exact (Y.v _ (by omega)).1
  .rintro⟨a,p2,c2,l2,d2,f2,t2,s2⟩ ⟨e1,e2,e3,e4,e5,e6,Z,M,⟨fa,fb,f8,f9⟩,J⟩;dsimp only at e1 e2 e3 e4 e5 e6 Z M f8 J;subst e1;have e2:=e2.symm;subst e2;subst e3;subst e4;subst e5;subst e6;subst Z;refine du (al ?_);have hb8:=TB p.2.length hc;refine ⟨⟨rfl,rfl,rfl,rfl,⟨p.2.length,hp.t0,hp.t,rfl⟩,by dsimp only;omega,?_⟩,rfl,J⟩;unfold Zt;have hTl:(uN.take p.2.length).length=p.2.length:=by rw[bz];have q4:uN.length=4:=rfl;omega
   dsimp only;rw[hTl,f8];simp
def W1:List (List UInt8):=[[120],[121],[118],[113],[109],[110],[114],[99],[102]]
set_option maxHeartbeats 20000000 in
theorem X9 (t:List (List UInt8)) (ht:t.length<=4) (s:List (Int×Int×Int)):oK (C0,Fi,KF,Q4,t,s)=aa (W1++t,ah):=by
 refine cE ?_;unfold oK aV bk bt ct di l7 bc bu iL bA bF aU cK aD cw;with_reducible repeat' first|exact al rfl|refine Uv ?_|refine Uu ?_|refine Ut ?_|refine Ur ?_|refine aa3 ?_|refine aS ?_|refine fd rfl ?_|refine fA rfl ?_|refine ba rfl ?_|refine Us ?_|refine Ol ?_|refine Oj ?_
 refine bg (by show 9+t.length<=1073741824;omega) (by decide) ?_;with_reducible repeat' first|exact al rfl|refine Uv ?_|refine Uu ?_|refine Ut ?_|refine Ur ?_|refine aa3 ?_|refine aS ?_|refine fd rfl ?_|refine fA rfl ?_|refine ba rfl ?_|refine Us ?_|refine Ol ?_|refine Oj ?_
theorem Q2:∀ x∈W1++uN,Ok (eS x) λb=>b=ah:=by
 intro x I;simp only[W1,uN,fZ,ll,bh,cj,fP] at I;rcases I with rfl|rfl|rfl|rfl|rfl|rfl|rfl|rfl|rfl|rfl|rfl|rfl|rfl;all_goals with_reducible repeat' first|exact al rfl|refine Uv ?_|refine Uu ?_|refine Ut ?_|refine Ur ?_|refine Oj ?_|refine aa3 ?_|refine aS ?_|refine fd rfl ?_|refine fA rfl ?_|refine ba rfl ?_|refine Us ?_|refine Ol ?_|refine cU (eS.eq_1 ..) ?_|refine cU (jp.eq_1 ..) ?_|refine cU (jY.eq_1 ..) ?_|refine cU (kO.eq_1 ..) ?_|refine cU (oN.eq_1 ..) ?_|refine cU (qw.eq_1 ..) ?_
theorem GT.up:∀ {d:Nat} {s:Sx},GT d s->GT (d+1) s
 |0,_,h=>h.elim
 |_+1,_,⟨a,b,c,e,f,g,i⟩=>⟨a,b,c,e,f,λx I=>GT.up (g x I),λx I=>GT.up (i x I)⟩
theorem aei {l:List Sx} (h:∀ s∈l,GT 3 s):mU 5 l=mU 3 l:=by
 unfold mU;rw[lK λx I=>(M' (GT.up (h x I))).trans (M' (h x I))]
theorem af9:∀ i:Nat,i<13->∀ r:Nat,r<i->aH (T:=.str) (W1++uN) (r:Int)≠aH (T:=.str) (W1++uN) (i:Int):=by decide
theorem N6 (T:Int):∀ l:List (Int×Int×Int),l.foldl (Rk T) af=af
 |[]=>rfl
 |_::r=>N6 T r
theorem Uh {T:Int} {l:List (Int×Int×Int)} (h:JA T l≠af) (i:Nat):JA T (l.take i)≠af:=λhn=>h (by
 unfold JA at hn ⊢;rw[<- Aa i l,fe,hn,N6])
theorem XQ {T t n:Int} {z:Int×Int×Int} (h:Rk T (aa (t,n)) z≠af):Rk T (aa (t,n)) z=aa (z.1,z.2.1+1)/\(z.1=t/\z.2.1=n\/t<z.1/\z.1<T/\z.2.1=0):=by
 unfold Rk at h ⊢;dsimp only at h ⊢;by_cases h1:z.1=t/\z.2.1=n
 .rw[aI h1];exact⟨by rw[h1.1,h1.2],.inl h1⟩
 .rw[aC h1] at h ⊢;by_cases h2:t<z.1/\z.1<T/\z.2.1=0
  .rw[aI h2];exact⟨by rw[h2.2.2];rfl,.inr h2⟩
  .rw[aC h2] at h;exact (h rfl).elim
theorem An {R:Type} {a b:Int} {t f:Option R} {Q:R->Prop} (h:b<=a) (hf:Ok f Q):Ok (bcase (fG a b) t f) Q:=fA (fR.2 h) hf
theorem FR {w:WT} (hx:WX w):gO w=aa ah:=by
 obtain⟨w1,w2,w3,w4,I,J⟩:=w;obtain⟨hc,hl,hd,hf,⟨n,n1,n4,ht⟩,hs,hv⟩:=hx;dsimp only at hc hl hd hf ht hs;subst hc;subst hl;subst hd;subst hf;have hT:I.length=n:=by rw[ht,bz];have q4:uN.length=4:=rfl;omega
 have hv:JA I.length J≠af:=hv;refine cE ?_;unfold gO aV bk bt ct cQ eU bc bu jC iL bA bF aU cK aD cw;refine aX (λx=>x=(ai,C0,Fi,KF,Q4,I,J)) ?_ ?_
 .refine An (show (5:Int)<=12 by decide) (An (show (3:Int)<=4 by decide) (An (show (1:Int)<=2 by decide) (An (show (1:Int)<=2 by decide) (An (show (1:Int)<=(I.length:Int) by omega) (An (show (I.length:Int)<=4 by omega) (al ?_))))));dsimp only[ar];rw[fR.2 (show (J.length:Int)<=60 by omega)]
 rintro x rfl;refine fK (aT (X9 I (by omega) J) (fA rfl ?_));have hN:W1++I=(W1++uN).take (9+n):=by rw[ht];rcases (by omega:n=1\/n=2\/n=3\/n=4) with rfl|rfl|rfl|rfl<;>rfl
 have hNl:(W1++I).length=9+n:=by rw[bn,hT];rfl
 have hNg:∀ i:Nat,i<9+n->aH (T:=.str) (W1++I) (i:Int)=aH (T:=.str) (W1++uN) (i:Int):=λi hi=>by
  rw[hN,xq,xq,ax,ax,List.getElem?_take_of_lt hi]
 refine ci (9+n) (λi x=>x=((i:Int),C0,Fi,KF,Q4,I,J)) ?_ ?_ rfl
 .rintro i x hi rfl;refine bB (λ_=>?_) λg=>(by dsimp only[ar] at g;rw[hNl] at g;omega)
  refine aX (λx=>x=(ai,C0,Fi,KF,Q4,I,J)) ?_ ?_
  .refine aQ (by dsimp only;omega) (by dsimp only;rw[hNl];omega) (aS ?_);have hmem:aH (T:=.str) (W1++I) (i:Int)∈W1++uN:=by rw[hNg i hi];exact bH (T:=.str) (by omega) (by have:(W1++uN).length=13:=rfl;omega)
   refine aw (Q2 _ hmem) λb hb=>?_
   refine fA (by rw[hb];rfl) (cZ (dV (by dsimp only;omega) (dV (by dsimp only;rw[hNl];omega) ?_)));refine aQ (by dsimp only;omega) (by dsimp only;rw[hNl];omega) (aS ?_);refine aw (xo _ _ (by dsimp only;rw[bz,hNl];omega)) λr hr=>al ?_
   obtain⟨_,h2,Z,_⟩:=hr;dsimp only at h2 Z;rw[bz,hNl] at h2;have hr0:¬0<=r:=λh0=>by
    have Z:=Z h0;obtain⟨r,rfl⟩:∃ m:Nat,r=(m:Int):=⟨r.toNat,by omega⟩
    rw[xq,ax,List.getElem?_take_of_lt (by omega),<-ax,<-xq (T:=.str),hNg r (by omega),hNg i hi] at Z;exact af9 i (by omega) r (by omega) Z
   rw[kC.2 (by omega)]
  .rintro x rfl;exact fK (al (by dsimp only;rw[gL (by omega)]))
 rintro x rfl;refine bB (λg=>(by dsimp only[ar] at g;rw[hNl] at g;omega)) λ_=>?_
 refine aw (P:=λb=>b=ah) ?_ λy hy=>al hy
 refine ci 1 (λi x=>x=((i:Int),C0,Fi,KF,Q4,I,J)) ?_ ?_ rfl
 .rintro i x hi rfl;have hi0:i=0:=by omega
  subst hi0;refine fd rfl (ba rfl (aS (aX (λx=>x=(ai,C0,Fi,KF,Q4,I,J)) ?_ ?_)))
  .exact fA rfl (fA rfl (ba rfl (aS (al rfl))))
  .rintro x rfl;exact fK (al (by dsimp only;rw[gL (by omega)]))
 rintro x rfl;refine bB (λg=>(by have g:(1:Int)<1:=g;omega)) λ_=>?_
 refine aw (P:=λb=>b=ah) ?_ λy hy=>al hy
 refine ci J.length (λi x=>x=((i:Int),C0,Fi,KF,Q4,I,J)/\∃ t k:Int,JA I.length (J.take i)=aa (t,k)/\0<=t/\t<(I.length:Int)/\(i=0->t=0/\k=0)/\(¬i=0->(aH (T:=wQ) J ((i-1:Nat):Int)).1=t/\(aH (T:=wQ) J ((i-1:Nat):Int)).2.1+1=k/\0<k/\k<=i)) ?_ ?_ ⟨rfl,0,0,rfl,by omega,by omega,λ_=>⟨rfl,rfl⟩,λh=>(h rfl).elim⟩
 .rintro i x hi ⟨rfl,t,k,hF,t0,tT,hz,hp⟩;have hw:¬(i:Int)=0->be .i64 ((i:Int)-1)=((i-1:Nat):Int):=λh=>by rw[gU (by omega) (by omega)];omega
  have hnx:=GA (T:=I.length) hi;have hne:=Uh hv (i+1);rw[hnx,hF] at hne;obtain⟨hs1,M⟩:=XQ hne;rw[hF,hs1] at hnx;refine dz ?_;refine aX (λx=>x=(C0,Fi,KF,Q4,I,J)) ?_ ?_
  .refine cC (aS ?_);revert M;generalize (aH (T:=wQ) J (i:Int))=z;obtain⟨(U:Int),(z2:Int),z3⟩:=z;intro M;dsimp only at M;refine aX (λx=>x=(ai,(C0,Fi,KF,Q4,I,J),U,z2,z3)) ?_ ?_
   .refine An (show (0:Int)<=U by omega) (al ?_);dsimp only[ar];rw[kC.2 (show U<(I.length:Int) by omega)]
   rintro x rfl;refine fK (aX (λx=>x.2=((C0,Fi,KF,Q4,I,J),U,z2,z3)/\(x.1=ah->i=0\/¬t=U)/\(x.1=ai->¬i=0/\t=U)) ?_ ?_)
   .refine aJ (λh=>al ⟨rfl,λ_=>.inl (by have h:((i:Nat):Int)=0:=h;omega),λh=>(by cases h)⟩) λh=>?_
    have h:¬((i:Nat):Int)=0:=h;dsimp only;rw[hw h];have hq:=(hp (by omega)).1;exact aQ (by omega) (by first|omega|(dsimp only;omega)) (aS (al ⟨rfl,λh2=>.inr (by rw[<- hq];simpa using h2),λh2=>⟨by omega,by rw[<- hq];simpa using h2⟩⟩))
   rintro⟨c,x⟩ ⟨e,Y,hc⟩;dsimp only at e Y hc;subst e;refine aO (λhct=>?_) λhcf=>?_
   .have hz2:z2=0:=by
     rcases Y hct with h|h
     .have:=hz h;omega
     .omega
    refine aX (λx=>x=(ai,C0,Fi,KF,Q4,I,J)) ?_ ?_
    .refine b7 (λh=>(h hz2).elim) λ_=>bB (λh=>?_) λ_=>al rfl
     have h:(0:Int)<((i:Nat):Int):=h;dsimp only;rw[hw (by omega)];have hq:=(hp (by omega)).1;refine aQ (by omega) (by first|omega|(dsimp only;omega)) (aS (al ?_));dsimp only;rw[hq,fR.2 (show t<=U by omega)]
    rintro x rfl;exact fK (al rfl)
   .obtain⟨h1,h2⟩:=hc hcf;obtain⟨_,p2,p3,p4⟩:=hp h1;dsimp only;rw[hw (by omega)];refine aQ (by omega) (by first|omega|(dsimp only;omega)) (aS ?_);refine b7 (λh=>(h ?_).elim) λ_=>al rfl
    try dsimp only
    rw[p2,gU (by omega) (by omega)];omega
  .rintro x rfl;refine al ⟨by dsimp only;rw[gL (by omega)],_,_,hnx,?_⟩;revert M;rw[show i+1-1=i by omega];generalize (aH (T:=wQ) J (i:Int))=z;obtain⟨(U:Int),(z2:Int),z3⟩:=z;intro M;dsimp only at M ⊢;refine ⟨by omega,by omega,λh=>by omega,λ_=>⟨rfl,rfl,?_,?_⟩⟩
   .by_cases h0:i=0
    .have:=hz h0;omega
    .have:=hp h0;omega
   .by_cases h0:i=0
    .have:=hz h0;omega
    .have:=hp h0;omega
 .rintro x ⟨rfl,_⟩;exact du (al rfl)
theorem TU {c:CT} (I:WX c.1) (hl:c.2.length=c.1.2.2.2.2.1.length) (h:∀ k:Nat,k<c.2.length->GC c.2.length c.1.2.2.2.2.2 (k:Int) (aH (T:=uM) c.2 (k:Int))):jk c=aa ah:=by
 obtain⟨w,l⟩:=c;dsimp only at I hl h;have M:l.length<=4:=by
  obtain⟨n,_,J,ht⟩:=I.t;rw[hl,ht,bz];omega
 refine cE ?_;unfold jk bt bu bF aU cK aD cw;refine aX (λx=>x=(ai,w,l)) ?_ ?_
 .refine aT (FR I) (fA rfl (al ?_));dsimp only;rw[hl];simp
 rintro x rfl;refine fK (ci l.length (λi x=>x=((i:Int),w,l)) ?_ ?_ rfl)
 .rintro i x hi rfl;refine dz ?_;refine cC (aS (aT (C1 I hl.symm (h i hi)) (fA rfl (al ?_))));dsimp only;rw[gL (by omega)]
 .rintro x rfl;exact du (al rfl)
theorem Ny (p:PG) (hp:PJ p) (hr4:∃ r,eV p=aa r/\r.1=0):Ok (pD p) λy=>CB y.1:=by
 have hpt:=hp.t;obtain⟨r,hr,h0⟩:=hr4;obtain⟨r',hr',Y⟩:=CP p hp.x;rw[hr] at hr';cases hr';have Y:=Y h0;unfold pD aV bk bt ct eo bI cQ eU pj bu iL bA bF kj aU cK aD cw;refine aT hr (b7 (λh=>(h h0).elim) λ_=>?_);refine aw (TO p hp r hr h0 Y) λw M=>?_
 have hwT:w.2.2.2.2.1.length=p.2.length:=by rw[M.t,bz];have q4:uN.length=4:=rfl;omega
 refine ci p.2.length (λi x=>x.1.1=((ZU p i:Nat):Int)/\x.1.2=(i:Int)/\x.2.1=p/\x.2.2.1=w/\x.2.2.2.length=i/\∀ j:Nat,j<i->GC p.2.length w.2.2.2.2.2 (j:Int) (aH (T:=uM) x.2.2.2 (j:Int))) ?_ ?_ ⟨rfl,rfl,rfl,rfl,rfl,λj hj=>by omega⟩
 .rintro i ⟨⟨a,b⟩,p2,w2,cs⟩ hi ⟨e0,e1,e2,e3,Z,e5⟩;dsimp only at e0 e1 e2 e3 Z e5;subst e0;subst e1;have e2:=e2.symm;subst e2;have e3:=e3.symm;subst e3;have hin:((i:Nat):Int)<(p.2.length:Int):=by omega
  refine dz ?_;have hm:=hp.m _ (bH (T:=xA) (xs:=p.2) (j:=(i:Int)) (by omega) hin);have hsr:=M.s i hi;have hbs:=ad8 hi;have hb1:=TB (i+1) Y;have hbo:boN p i=mU 3 (aH (T:=xA) p.2 (i:Int)).2.2.2:=aei λs hs=>(hm.s s hs).t
  rw[hbo] at hsr hbs;dsimp only;refine aQ (by omega) hin (aS (aQ (by omega) hin (aS ?_)));revert hm hsr hbs;generalize (aH (T:=xA) p.2 (i:Int))=t;intro hm hsr hbs;have hk:ME 3=50+16*(50+16*50):=rfl;have hle:=cz (ME 3) hm.b;rw[hk] at hle;have hll:t.2.2.1.length=2:=by rw[hm.l];rfl
  refine aw (MJ (nT:=p.2.length) (ss:=w.2.2.2.2.2) (t:=(i:Int)) 3 (by omega) _ _ [] (by have:=hm.b;omega) hm.s ⟨M.x.c,M.x.l,M.x.d,M.x.f,M.t,hm.l⟩ hsr (by rw[hk,jF];omega)) λy hy=>ba (by simp) ?_
  obtain⟨g2,o2⟩:=y;obtain⟨q1,q2,q3⟩:=hy;dsimp only at q1 q2 q3;have q4:=q2.u;rw[hk,jF] at q4;refine aw (GJ _ _ o2 (by omega)) λy hy=>ba (by simp) ?_
  obtain⟨g3,I⟩:=y;obtain⟨hg3,U⟩:=hy;dsimp only at hg3 U;have hL:aN (ak g3.2.2.2.2.2.2.1)=2:=by
   rw[hg3];show aN (ak g2.2.2.2.2.2.2.1)=2;rw[q1.h];show aN (ak t.2.2.1)=2;rw[hll];rfl
  have l3:I.length=o2.length+1:=by rw[U,bn];rfl
  have J:I.length-1=o2.length:=by omega
  have iq:∀ q:Nat,q<o2.length->iA I q=iA o2 q:=λq hq=>by rw[U,Hl hq]
  have iend:iA I o2.length=(28,0,0,0,0,-1):=by rw[U,wg]
  have hreg:∀ q:Nat,q<I.length->∀ j:Int,j∈iv (iA I q)->0<=j/\j<32:=λq hq j hj=>by
   by_cases h:q<o2.length
   .rw[iq q h] at hj;exact (q2.i q (kG _) h).o.r j hj
   .rw[show q=o2.length by omega,iend] at hj;simp[iv] at hj
  dsimp only;rw[hL];refine ci I.length (λk x=>∃ rg:Int,x=((k:Int),p,w,g3,rg,cs,I)/\2<=rg/\rg<=32/\∀ q:Nat,q<k->∀ j:Int,j∈iv (iA I q)->j<rg) ?_ ?_ ⟨2,rfl,by omega,by omega,λq hq=>by omega⟩
  .rintro k x hk2 ⟨rg,rfl,r0,r1,r2⟩;refine dz ?_;dsimp only;refine cC (cC (aS (aT (sq _) ?_)));have hrk:=hreg k hk2;have hrl:=Bw (iA I k);revert hrk hrl;generalize hins:(aH (T:=Ad) I (k:Int))=ins;rw[show iA I k=ins from hins];intro hrk hrl;refine ci (iv ins).length (λj x=>∃ rg':Int,x=((j:Int),p,w,g3,rg',cs,I)/\rg<=rg'/\rg'<=32/\∀ q:Nat,q<j->rg'>aH (T:=.int .i64) (iv ins) (q:Int)) ?_ ?_ ⟨rg,rfl,eD _,r1,λq hq=>by omega⟩
   .rintro j x hj ⟨rg',rfl,s0,s1,s2⟩;refine dz ?_;refine cC (aS (al ?_));have hz:=hrk _ (bH (T:=.int .i64) (xs:=iv ins) (j:=(j:Int)) (by omega) (by omega));dsimp only;obtain⟨z,hzj⟩:∃ z:Int,aH (T:=.int .i64) (iv ins) (j:Int)=z:=⟨_,rfl⟩
    rw[hzj] at hz ⊢;have hz0:(0:Int)<=z:=hz.1;have hz1:(32:Int)>z:=hz.2;rw[gL (by omega),gU (n:=z+1) (by omega) (by omega)];have him:rg'<=jR rg' (z+1)/\z+1<=jR rg' (z+1)/\jR rg' (z+1)<=32:=by
     unfold jR;split
     .rename_i h;have h:=sd.1 h;omega
     .rename_i h;have h:=fR.1 (Bool.eq_false_iff.2 h);omega
    refine ⟨_,rfl,by omega,him.2.2,λq hq=>?_⟩;rcases bV q j with h1|h1
    .have:=s2 q h1;omega
    .rw[show q=j by omega,hzj];exact Int.lt_of_lt_of_le (show z<z+1 by omega) him.2.1
   .rintro x ⟨rg',rfl,s0,s1,s2⟩;refine du (al ?_);refine ⟨rg',by dsimp only;rw[gL (by omega)],by omega,s1,λq hq j hj=>?_⟩;rcases bV q k with h1|h1
    .have:=r2 q h1 j hj;omega
    .rw[show q=k by omega,show iA I k=ins from hins] at hj;exact hY (T:=.int .i64) (p:=λc=>rg'>c) s2 j hj
  .rintro x ⟨rg,rfl,r0,r1,r2⟩;refine du (Ol (bg (by simp;omega) (by omega) (Oj (al ?_))));dsimp only;have q3':(g2.2.2.2.2.2.2.2.2:Int)=(ZU p i:Nat)+(mU 3 t.2.2.2:Nat):=q3;refine ⟨by rw[q3',hbs];omega,gL (by omega),rfl,rfl,by simp;omega,λj hj=>?_⟩;rcases bV j i with h1|h1
   .rw[HM (T:=uM) (by rw[Z];exact h1)];exact e5 j h1
   .rw[show j=i by omega,HL (T:=uM) (by rw[Z];omega),Z,Nat.sub_self];refine ⟨show (1:Int)<=rg by omega,r1,show 1<=I.length by omega,show I.length<=1000000 by omega,?_,?_,?_,?_,?_⟩
    .show (iA I (I.length-1)).1=28/\(iA I (I.length-1)).2.2.2.2.2= -1;rw[J,iend];exact⟨rfl,rfl⟩
    .show pW I 0 (I.length-1);rw[J];exact q2.b.congr λq _ hq=>iq q hq
    .show ∀ q:Nat,q<I.length-1->GI p.2.length w.2.2.2.2.2 (i:Int) (iA I q);rw[J];exact λq hq=>by rw[iq q hq];exact q2.i q (kG _) hq
    .show ∀ q:Nat,q<I.length-1->(iA I q).1=10->0<=(iA I q).2.2.1/\(iA I q).2.2.1<(I.length:Int)
     rw[J];intro q hq h10;rw[iq q hq] at h10 ⊢;have:=q2.r q (kG _) hq h10;omega
    .exact λq hq j hj=>r2 q (show q<I.length by have hq:q<I.length-1:=hq;omega) j hj
 .rintro⟨⟨a,b⟩,p2,w2,cs⟩ ⟨e0,e1,e2,e3,Z,e5⟩;dsimp only at e0 e1 e2 e3 Z e5;subst e1;subst e2;subst e3;refine du (al ?_);have hgc:∀ t∈cs,∃ k:Nat,GC p2.2.length w2.2.2.2.2.2 (k:Int) t:=hY (T:=uM) λk hk=>⟨k,e5 k (by omega)⟩
  refine ⟨by dsimp only;omega,λt ht=>?_,λt ht=>?_,M.x,TU M.x ?_ ?_⟩
  .obtain⟨k,hk⟩:=hgc t ht;exact hk.u
  .obtain⟨k,hk⟩:=hgc t ht;exact hk.r0
  .dsimp only;rw[Z,hwT]
  .dsimp only;rw[Z];exact e5
theorem JN (a b:List Int) (M:a.length<=9223372036854775807) (J:∀ z∈a,0<=z/\z<=255) (hb:b.length<=1000000):Ok (rj (a,b)) TR:=by
 unfold rj;refine aw (P:=CB) ?_ λc hc=>aw (T7 b hb) λl hl=>?_
 .unfold v8;exact aw (Fp a M J) λp hp=>aw (Ny p hp.1 hp.2) λy I=>al I
 .exact aw (af8 c l hc (by omega)) λy I=>al I
theorem Nx (a b c:List Int) (n:Int) (n0:0<=n) (n1:n<=1000000) (M:a.length<=9223372036854775807) (J:∀ z∈a,0<=z/\z<=255) (hc:c.length<=9223372036854775807) (I:∀ z∈c,0<=z/\z<=255):Ok (kA ((a,b,c),n)) TR:=by
 unfold kA bu bA aU;refine bB (λ_=>aw (GD c n hc I) λy h=>al h) λ_=>?_
 have h0:0<=Ft (aN b.length) n/\Ft (aN b.length) n<=(b.length:Int)/\Ft (aN b.length) n<=n:=by
  unfold Ft;split
  .rename_i h;rw[sd] at h;dsimp only[ar] at h;exact⟨n0,by omega,eD _⟩
  .rename_i h;have h:=fR.1 (Bool.eq_false_iff.2 h);dsimp only[ar] at h ⊢;exact⟨by omega,eD _,h⟩
 refine cZ (dV h0.1 (dV h0.2.1 ?_));have h1:(dF (aR (Ft (aN b.length) n)) b).length<=1000000:=by rw[bz];have:=h0.1;have:=h0.2.2;omega
 exact aw (JN a _ M J h1) λy h=>al h
def HS.zero (w:Fh):HS:=⟨aE w.2.2.2.2.1.length [],aE w.2.2.2.2.1.length [],aE w.2.1.length [],aE w.2.1.length [],aE w.1.length [],aE w.2.2.2.1.length [],[],aE w.2.2.2.2.1.length [],aE w.2.2.2.2.1.length (-1)⟩
theorem HS.zero_ok {w:Fh} (h1:w.1.length<=1000) (h2:w.2.1.length<=1000) (J:w.2.2.2.1.length<=1000) (I:w.2.2.2.2.1.length<=1000):Xd 0 (HS.zero w):=by
 have z:(0:Int)<=0:=by omega
 exact⟨z,by omega,zZ.repl z _,zZ.repl z _,zZ.repl z _,zZ.repl z _,zZ.repl z _,zZ.repl z _,En.nil z,zZ.repl z _,by simpa[HS.zero] using I,by simp[HS.zero],by simp[HS.zero],by simp[HS.zero],by simpa[HS.zero] using h2,by simp[HS.zero],by simpa[HS.zero] using h1,by simpa[HS.zero] using J⟩
structure Fit (w:Fh) (h:HS):Prop where
 T:h.T.length=w.2.2.2.2.1.length
 L:h.L.length=w.2.1.length
 C:h.C.length=w.1.length
 F:h.F.length=w.2.2.2.1.length
theorem Fit.zero (w:Fh):Fit w (HS.zero w):=⟨by simp[HS.zero],by simp[HS.zero],by simp[HS.zero],by simp[HS.zero]⟩
theorem Fit.step {w:Fh} {h:HS} (f:Fit w h) (e:EV):Fit w (KN w h e).1:=by
 obtain⟨a,b,c,d,g,i,j,k⟩:=Ew w h e (CG w h e);exact⟨a.trans f.T,c.trans f.L,g.trans f.C,i.trans f.F⟩
def evP (e:ET):EV:=⟨e.1.toNat,e.2.1.toNat,e.2.2.1.toNat,e.2.2.2.1⟩
theorem ahi {w:WT} {e:ET} (f:EvF w e):EvT (evP e) e:=by
 obtain⟨⟨k1,k2,ce,lk,cd,th,fu⟩,t0,_,_⟩:=f;refine ⟨(Fk t0).symm,(Fk (by omega)).symm,λh=>(Fk ?_).symm,rfl⟩;unfold evP at h;simp only[bh,cj,fP] at h;by_cases h1:e.2.1=3\/e.2.1=4
 .exact (ce h1).1
 by_cases h2:6<=e.2.1/\e.2.1<=11
 .exact (lk h2).1
 by_cases M:16<=e.2.1/\e.2.1<=19
 .exact (cd M).1
 by_cases J:e.2.1=20\/e.2.1=21
 .exact (th J).1
 by_cases I:e.2.1=22\/e.2.1=23
 .exact (fu I).1
 omega
theorem YK {w:WT} {e:ET} (f:EvF w e) (wb:WB w) {h:HS} (I:Fit w h):EOK w h (evP e):=by
 obtain⟨⟨k1,k2,ce,lk,cd,th,fu⟩,t0,t1,J⟩:=f;have b5:=wb.t;have Z:=I.T;have Y:=I.L;have U:=I.C;have M:=I.F;unfold evP;refine ⟨by dsimp only;omega,by dsimp only;omega,by dsimp only;omega,by dsimp only;omega,λq=>?_,λq=>?_,λq=>?_,λq=>?_,λq=>?_⟩<;>dsimp only at q ⊢
 .have:=th (by omega);omega
 .have:=lk (by omega);omega
 .have g:=cd (by omega);have hl:e.2.2.1.toNat<w.2.2.1.length:=by omega
  have hm:=J (w.2.2.1.getD e.2.2.1.toNat ([],0)) (by rw[ax,ay hl];exact tR hl);refine ⟨hl,hm.1,?_⟩;unfold ZS;have:=hm.2;have:=hm.1;omega
 .have:=ce (by omega);omega
 .have:=fu (by omega);omega
theorem iU {σ R:Type} {f:σ->Option (σ⊕R)} {Q:R->Prop} (n:Nat) (hn:n<=1000000) (I:Nat->σ->Prop) (h0:∀ i x,i<n->I i x->Ok (f x) λr=>match r with|.inl y=>I (i+1) y|.inr r=>Q r) (h1:∀ x,I n x->Ok (f x) λr=>match r with|.inl _=>False|.inr r=>Q r) {x:σ} (U:I 0 x):Ok (fQ f x) Q:=by
 have key:∀ m i x,i+m=n->I i x->∃ r,iterN f (m+1) x=aa r/\Q r:=by
  intro m;induction m with
  |zero=>
   intro i x hi U;have:i=n:=by omega
   subst this;obtain⟨r,M,J⟩:=h1 x U;cases r with
   |inl y=>exact J.elim
   |inr r=>exact⟨r,by rw[iterN,M],J⟩
  |succ m Y=>
   intro i x hi U;obtain⟨r,M,J⟩:=h0 i x (by omega) U;cases r with
   |inl y=>
    obtain⟨r,g3,Z⟩:=Y (i+1) y (by omega) J;exact⟨r,by rw[iterN,M];exact g3,Z⟩
   |inr r=>exact⟨r,xN (n:=1) (by rw[iterN,M]) (by omega),J⟩
 obtain⟨r,M,J⟩:=key n 0 x (by omega) U;exact⟨r,xN M (by omega),J⟩
theorem LZ (a b:Int):eP (a,b)=aa (decide (0<=a/\a<b)):=by
 refine cE ?_;unfold eP jC aD;with_reducible repeat' first|(refine OS.ok ?_;constructor)|refine IM.mk λ_=>?_
 .by_cases h:a<b<;>simp[*,fG]
 .simp;omega
theorem Rf (l:List Int) (t:Int) (hl:l.length<=1000):j6 (l,t)=aa (l.contains t):=by
 refine cE ?_;unfold j6 qA wB bc bu bF aU cK aD cw;refine aw (P:=λy:Int=>0<=y↔t∈l) ?_ λy I=>al ?_
 .refine iU l.length (by omega) (λi x=>x=(i:Int)/\∀ j,j<i->¬l.getD j 0=t) ?_ ?_ ⟨rfl,λj hj=>by omega⟩
  .rintro i x hi ⟨rfl,hn⟩;refine dz ?_;refine cC (aS (aJ (λh=>al ?_) λh=>al ?_))
   .refine ⟨λ_=>?_,λ_=>by omega⟩;have h:t=aH (T:=.int .i64) l (i:Int):=h;rw[h];exact bH (T:=.int .i64) (xs:=l) (by omega) (by omega)
   .refine ⟨gL (by omega),λj hj=>?_⟩;have h:¬t=l.getD i 0:=h;by_cases e:j=i
    .subst e;exact λg=>h g.symm
    .exact hn j (by omega)
  .rintro x ⟨rfl,hn⟩;refine du (al ?_);refine ⟨λg=>(by omega),λg=>?_⟩;obtain⟨j,hj,e⟩:=List.getElem_of_mem g;exact (hn j hj (by rw[ax,ay hj];exact e)).elim
 .by_cases h:t∈l
  .have:=I.2 h;simp[cR,h,this]
  .have:¬0<=y:=λg=>h (I.1 g)
   simp[cR,h,this]
theorem adu (w:WT) (s:SY) (I:w.2.2.1.length<=1000) (cd:∀ c∈w.2.2.1,0<=c.2/\c.2<w.2.1.length) (e1:s.1.length=w.2.1.length) (e2:s.2.2.1.length=w.2.2.2.1.length) (e3:s.2.2.2.length=w.2.2.2.2.1.length):jQ (w,s)=aa ah:=by
 refine cE ?_;unfold jQ sg aV bk bt di bu iL bF aU cK aD cw;refine aX (λx=>x=(ai,w)) ?_ ?_
 .refine b7 (λh=>(h (by dsimp only[ar];omega)).elim) λ_=>b7 (λh=>(h (by dsimp only[ar];omega)).elim) λ_=>al ?_
  dsimp only[ar];rw[e3];simp
 rintro x rfl;refine fK (iU w.2.2.1.length (by omega) (λi x=>x=((i:Int),w)) ?_ ?_ rfl)
 .rintro i x hi rfl;refine dz ?_;refine cC (aS (aT (LZ _ _) (b7 (λh=>(h ?_).elim) λ_=>al ?_)))
  .exact cd _ (bH (T:=Rj) (xs:=w.2.2.1) (j:=(i:Int)) (by omega) (by omega))
  .dsimp only;rw[gL (by omega)]
 .rintro x rfl;exact du (al rfl)
theorem Ze (w:WT) (k o:Int) (h:NM w k o):lz (w,k,o)=aa ah:=by
 refine cE ?_;obtain⟨k1,k2,ce,lk,cn,th,fu,no,mu,rw_⟩:=h;unfold lz aV bk bt ct bc bF aU aD;rcases @Hg k with rfl|rfl|rfl|rfl|rfl|rfl|rfl|rfl|rfl|rfl|rfl|rfl|rfl|rfl|rfl|rfl|rfl|rfl|rfl|rfl|rfl|rfl|rfl|⟨hk,I⟩
 case inr.inr.inr.inr.inr.inr.inr.inr.inr.inr.inr.inr.inr.inr.inr.inr.inr.inr.inr.inr.inr.inr.inr=>omega
 all_goals simp only[aW,bi,rR,LZ]
 all_goals with_reducible repeat' first|(refine OS.ok ?_;constructor)|refine IM.mk λ_=>?_
 all_goals try simp only[ar,qd] at*
 all_goals first|omega|exact rw_ ⟨by decide,by decide⟩|(simp only[*,Bool.not_false,dJ];done)
theorem ae2 {n:Nat} (w:WT) (s:SY) (hs:SB n s) (hn:n<=1000) (t k o:Int) (he:EN w s t k o) (hr:Vf w s t k o):nZ (w,s,t,k,o)=aa ah:=by
 refine cE ?_;obtain⟨nm,t0,t1,cd,e1,e2,e3⟩:=id he;obtain⟨_,_,ce,lk,cn,th,fu,no,mu,rw_⟩:=nm;obtain⟨_,_,_,aq,wr,ra,rl,rr,xb,xe,ab,ae,nt,sp,jo,se,ge⟩:=hr;have hm:16<=k/\k<=19->0<=(aH (T:=Rj) w.2.2.1 o).2/\(aH (T:=Rj) w.2.2.1 o).2<w.2.1.length:=λh=>cd _ (bH (cn h).1 (cn h).2)
 have M:6<=k/\k<=11->j6 ((aH (T:=yV) s.1 o).2,t)=aa ((aH (T:=yV) s.1 o).2.contains t):=λh=>Rf _ _ (by
  have:=hs.rd _ (bH (T:=yV) (lk h).1 (by have:=(lk h).2;omega));omega)
 have lk1:6<=k/\k<=11->0<=o/\o<(s.1.length:Int):=λh=>by have:=lk h;omega
 have J:t<(s.2.2.2.length:Int):=by omega
 have fu1:k=22\/k=23->0<=o/\o<(s.2.2.1.length:Int):=λh=>by have:=fu h;omega
 have th1:k=20\/k=21->0<=o/\o<(s.2.2.2.length:Int):=λh=>by have:=th h;omega
 have I:∀ {p:Prop} [Decidable p],p->decide p=ah:=λh=>aP h
 unfold nZ aV bk bt di cQ bc iL bF aU aD;refine aJ (λh=>?_) λn6=>?_
 .have h:k=6:=h;exact aQ (lk1 (by omega)).1 (lk1 (by omega)).2 (aS (al (I (aq (.inl h)))))
 refine aJ (λh=>?_) λU=>?_
 .have h:k=10:=h;refine gD (aQ (lk1 (by omega)).1 (lk1 (by omega)).2 (aS (aJ (λ_=>?_) λg=>(g (aq (.inr (.inr h)))).elim)));refine aQ (lk1 (by omega)).1 (lk1 (by omega)).2 (aS (al (al (I ?_))));have:=wr h;dsimp only[ar] at this ⊢;omega
 refine aJ (λh=>?_) λZ=>?_
 .have h:k=8:=h;refine gD (aQ (lk1 (by omega)).1 (lk1 (by omega)).2 (aS (aJ (λ_=>?_) λg=>(g (aq (.inr (.inl h)))).elim)));refine aQ (lk1 (by omega)).1 (lk1 (by omega)).2 (aS (aT (M (by omega)) (al (al ?_))));rw[ra h];rfl
 refine aX (λx=>x.2=(w,s)/\(x.1=ah↔k=7\/k=11)) (aJ (λh=>al ⟨rfl,λ_=>.inl h,λ_=>I h⟩) λh=>al ⟨rfl,λh2=>.inr (bm h2),λh2=>I (h2.resolve_left h)⟩) ?_;rintro⟨b,x⟩ ⟨e,hb⟩;dsimp only at e hb;subst e;refine aO (λh=>?_) λ_=>?_
 .have h:=hb.1 h;exact aQ (lk1 (by omega)).1 (lk1 (by omega)).2 (aS (al (I (rl h))))
 refine aJ (λh=>?_) λY=>?_
 .have h:k=9:=h;refine aQ (lk1 (by omega)).1 (lk1 (by omega)).2 (aS (aT (M (by omega)) (al (rr h))))
 refine aJ (λh=>al (I (xb h))) λ_=>aJ (λh=>al (I (xe h))) λ_=>?_
 refine aJ (λh=>aQ t0 J (aS (al (by have:=ab h;dsimp only at this ⊢;rw[this];rfl)))) λ_=>aJ (λh=>aQ t0 J (aS (al (ae h)))) λ_=>?_
 refine aX (λx=>x.2=(w,s)/\(x.1=ah->k=16\/k=18\/k=19)) (aJ (λh=>al ⟨rfl,λ_=>.inl h⟩) λ_=>aJ (λh=>al ⟨rfl,λ_=>.inr (.inl h)⟩) λ_=>al ⟨rfl,λh=>.inr (.inr (bm h))⟩) ?_;rintro⟨c,x⟩ ⟨e,hc⟩;dsimp only at e hc;subst e;refine aO (λh=>?_) λ_=>?_
 .have h:=hc h;have hq:=hm (by omega);exact aQ (cn (by omega)).1 (cn (by omega)).2 (aS (aQ hq.1 (by rw[e1];exact hq.2) (aS (al (I (nt h))))))
 refine aJ (λh=>?_) λ_=>?_
 .have h:k=20:=h;exact gD (b7 (λ_=>aQ (th1 (.inl h)).1 (th1 (.inl h)).2 (aS (al (al (I (sp h).2))))) λg=>((sp h).1 g).elim)
 refine aJ (λh=>?_) λ_=>?_
 .have h:k=21:=h;exact gD (b7 (λ_=>aQ (th1 (.inr h)).1 (th1 (.inr h)).2 (aS (al (al (I (jo h).2))))) λg=>((jo h).1 g).elim)
 refine aJ (λh=>aQ (fu1 (.inl h)).1 (fu1 (.inl h)).2 (aS (al (by have:=se h;dsimp only at this ⊢;rw[this];rfl)))) λ_=>aJ (λh=>aQ (fu1 (.inr h)).1 (fu1 (.inr h)).2 (aS (al (ge h)))) λ_=>al rfl
theorem CS {n:Nat} (w:WT) (s:SY) (hs:SB n s) (hn:n<=1000) (U:w.2.2.1.length<=1000) (t k o:Int) (he:EN w s t k o) (hr:Vf w s t k o):iN (w,s,t,k,o)=aa ah:=by
 refine cE ?_;obtain⟨nm,t0,t1,cd,e1,e2,e3⟩:=id he;have hrd:=ae2 w s hs hn t k o he hr;have M:t<(s.2.2.2.length:Int):=by omega
 unfold iN aV bk bt bI di cQ bc bF aU aD;refine aX (λx=>x=(ai,w,s)) ?_ ?_
 .refine aT (adu w s U cd e1 e2 e3) (fA rfl (aT (LZ _ _) ?_));refine b7 (λh=>(h ⟨t0,t1⟩).elim) λ_=>aT (Ze w k o nm) (al rfl)
 rintro x rfl;refine fK (aQ t0 M (aS ?_));refine aJ (λh=>al (aP (hr.b h))) λn1=>?_
 refine aJ (λh=>?_) λn17=>?_
 .have h:k=17:=h;obtain⟨a1,a2,a3⟩:=hr.wk h;obtain⟨J,I⟩:=nm.cd (by omega);have hq:=cd _ (bH (T:=Rj) (xs:=w.2.2.1) (j:=o) J I);refine gD (aJ (λ_=>aJ (λ_=>?_) λg=>(g a2).elim) λg=>(g a1).elim);exact aQ J I (aS (aQ hq.1 (by rw[e1];exact hq.2) (aS (al (al (aP a3))))))
 refine gD (aJ (λ_=>aT hrd (al (al rfl))) λg=>(g (hr.r n1 n17)).elim)
theorem aa2 (w:WT) (e:ET) (h1:e.2.1=1\/e.2.1=2->e.2.2.2.2.1= -1) (h2:¬(e.2.1=1\/e.2.1=2)->0<=e.2.2.2.2.1/\e.2.2.2.2.1<w.2.2.2.2.2.length/\(aH (T:=wQ) w.2.2.2.2.2 e.2.2.2.2.1).1=e.1):jh (w,e)=aa ah:=by
 refine cE ?_;unfold jh aV eo cQ bc bu jC bF aU aD;refine aX (λx=>x.2=(w,e)/\(x.1=ah↔e.2.1=1\/e.2.1=2)) (aJ (λh=>al ⟨rfl,λ_=>.inl h,λ_=>rfl⟩) λh=>al ⟨rfl,λh2=>.inr (bm h2),λh2=>aP (h2.resolve_left h)⟩) ?_;rintro⟨b,x⟩ ⟨e1,hb⟩;dsimp only at e1 hb;subst e1;refine aO (λh=>al (aP (h1 (hb.1 h)))) λh=>?_
 obtain⟨a1,a2,a3⟩:=h2 λg=>by rw[hb.2 g] at h;cases h
 exact gD (fm (λ_=>dz (aQ a1 a2 (aS (al (al (aP a3)))))) λg=>(by dsimp only at g;omega))
theorem Zc {l:List Int} (h:FX l) (i:Nat) (hi:i<l.length):∀ z∈l.drop (i+1),l.getD i 0<z:=by
 induction l generalizing i with
 |nil=>cases hi
 |cons a l I=>
  cases i with
  |zero=>exact λz J=>h.1 z (by simpa using J)
  |succ i=>exact I h.2 i (by simpa using hi)
theorem PA (w:WT) (s:SN) (e:ET) (ce:e.2.1=3\/e.2.1=4->0<=e.2.2.1/\e.2.2.1<w.1.length) (de:0<e.2.2.2.2.2.1.length->e.2.1=5\/(e.2.1=3\/e.2.1=4)/\¬(aH (T:=NT) w.1 e.2.2.1).2.2.1=0) (fr:0<e.2.2.2.2.2.2.length->e.2.1=4\/e.2.1=22) (t0:0<=e.1) (t1:e.1<s.2.2.2.length) (nd:AN (aH (T:=.int .i64) s.2.2.2 e.1) e.2.2.2.2.2.1) (nf:AN (aH (T:=.int .i64) s.2.2.2 e.1) e.2.2.2.2.2.2) (ld:e.2.2.2.2.2.1.length<=1000000) (lf:e.2.2.2.2.2.2.length<=1000000):eL (w,s,e)=aa ah:=by
 refine cE ?_;unfold eL iX aV bk bt ct bI di eU bc bu jC bA bF aU cK aD cw;refine aX (λx=>x.2=(s,e)/\((e.2.1=3\/e.2.1=4)/\¬(aH (T:=NT) w.1 e.2.2.1).2.2.1=0->x.1=ah)) ?_ ?_
 .refine aJ (λh=>?_) λn3=>aJ (λh=>?_) λn4=>?_
  .exact aQ (ce (.inl h)).1 (ce (.inl h)).2 (aS (al ⟨rfl,λg=>by simpa using g.2⟩))
  .exact aQ (ce (.inr h)).1 (ce (.inr h)).2 (aS (al ⟨rfl,λg=>by simpa using g.2⟩))
  .exact al ⟨rfl,λg=>(g.1.elim n3 n4).elim⟩
 rintro⟨b,x⟩ ⟨e1,hb⟩;dsimp only at e1 hb;subst e1;refine aX (λx=>x.1=s/\x.2.1=e/\(0<e.2.2.2.2.2.1.length->x.2.2.1=ah)/\(0<e.2.2.2.2.2.2.length->x.2.2.2=ah)) ?_ ?_
 .refine aJ (λZ=>aJ (λI=>al ⟨rfl,rfl,λ_=>rfl,λ_=>rfl⟩) λI=>al ⟨rfl,rfl,λ_=>rfl,λg=>?_⟩) λZ=>aJ (λI=>al ⟨rfl,rfl,λg=>?_,λ_=>rfl⟩) λI=>al ⟨rfl,rfl,λg=>?_,λg=>?_⟩
  .exact aP ((fr g).resolve_left I)
  .exact hb ((de g).resolve_left Z)
  .exact hb ((de g).resolve_left Z)
  .exact aP ((fr g).resolve_left I)
 rintro⟨s',e',a,b'⟩ ⟨e1,e2,h1,h2⟩;dsimp only at e1 e2 h1 h2;subst e1;subst e2;have key:∀ (r:List Int),r.length<=1000000->AN (aH (T:=.int .i64) s'.2.2.2 e'.1) r->∀ j:Nat,j<r.length->∀ z∈r.drop (j+1),aH (T:=.int .i64) r (j:Int)<z:=λr _ h j hj z U=>Zc h.a j hj z U
 refine iU 2 (by omega) (λi x=>x=((i:Int),s',e',a,b')) ?_ ?_ rfl
 .rintro i x hi rfl;refine dz ?_;refine cZ (dV (by dsimp only;omega) (yJ (by dsimp only;omega) (aS ?_)));have hr:∃ r:List Int,aH (T:=.sl (.int .i64)) [e'.2.2.2.2.2.1,e'.2.2.2.2.2.2] (i:Int)=r/\AN (aH (T:=.int .i64) s'.2.2.2 e'.1) r/\r.length<=1000000/\(0<r.length->aH (T:=.bool) [a,b'] (i:Int)=ah):=by
   match i,hi with
   |0,_=>exact⟨_,rfl,nd,ld,h1⟩
   |1,_=>exact⟨_,rfl,nf,lf,h2⟩
  obtain⟨r,er,hA,hl,Y⟩:=hr;have er':aH (T:=.sl aM) [e'.2.2.2.2.2.1,e'.2.2.2.2.2.2] (i:Int)=r:=er;dsimp only at er' ⊢;rw[er'];refine aX (λx=>x=(ai,s',e',a,b')) ?_ ?_
  .refine bB (λg=>?_) λ_=>al rfl
   have g':0<r.length:=by dsimp only[ar] at g;omega
   refine cZ (dV (by omega) (yJ (by omega) (cC (aS (al ?_)))));rw[Y g'];rfl
  rintro x rfl;refine fK ?_;refine iU r.length (by omega) (λj x=>x.1.2=(j:Int)/\x.2=(s',e',a,b')/\∀ z∈r.drop j,x.1.1<z) ?_ ?_ ⟨rfl,rfl,λz U=>?_⟩
  .rintro j ⟨⟨la,ix⟩,x⟩ hj ⟨M,J,g3⟩;dsimp only at M J g3;subst M;subst J;have m:aH (T:=.int .i64) r (j:Int)∈r:=bH (T:=.int .i64) (xs:=r) (by omega) (by omega);have m2:aH (T:=.int .i64) r (j:Int)∈r.drop j:=by
    have:aH (T:=.int .i64) r (j:Int)=r[j]:=by
     show r.getD j 0=_;rw[ax,ay hj];rfl
    rw[this,List.drop_eq_getElem_cons hj];exact dH
   refine dz ?_;refine cC (aS (aX (λx=>x=(ai,s',e',a,b')) ?_ ?_))
   .refine fm (λg=>?_) λ_=>aQ t0 t1 (aS (al ?_))
    .have q1:=g3 _ m2;exact cW q1 (by dsimp only at g;exact λq=>cW (Int.lt_of_lt_of_le q g) (Int.lt_irrefl _))
    .have:=(hA.m _ m).2;rw[kC.2 (show aH (T:=.int .i64) r (j:Int)<aH (T:=.int .i64) s'.2.2.2 e'.1 from this)]
   rintro x rfl;exact fK (al ⟨gL (by omega),rfl,key r hl hA j hj⟩)
  .rintro⟨⟨la,ix⟩,x⟩ ⟨M,J,_⟩;dsimp only at M J;subst M;subst J;exact du (al (gx (·,s',e',a,b') (gL (by omega))))
  .have:=(hA.m z (by simpa using U)).1;dsimp only;omega
 .rintro x rfl;exact du (al rfl)
theorem ahg (w:WT) (s:SN) (I:w.2.2.1.length<=1000) (t k o:Int) (he:EN w s.1 t k o) (hf:F16 w s):kx (w,s)=aa ah:=by
 obtain⟨_,_,_,cd,e1,e2,e3⟩:=he;obtain⟨U,M,J⟩:=hf;refine cE ?_;unfold kx aV bk bt di bc aU aD;refine gD (aT (adu w s.1 I cd e1 e2 e3) (Om (aJ (λ_=>aJ (λ_=>al (al (aP ?_))) λg=>(g ?_).elim) λg=>(g ?_).elim)));all_goals dsimp only[ar];omega
theorem F4 (th:List (Int×Int×Bool)) (c:Int) (i:Nat):wl th c (i+1)=if JD c (aH (T:=jB) th (i:Int)) then wl th c i++[(i:Int)] else wl th c i:=rfl
theorem Z1 {n:Nat} (w:WT) (s:SN) (hs:SB n s.1) (e:ET) (hf:F16 w s) (he:EN w s.1 e.1 e.2.1 e.2.2.1) (va:VA w s.1 s.2.1 s.2.2.1 e.1 e.2.1 e.2.2.1 e.2.2.2.1):gf (s,e)=aa ah:=by
 refine cE ?_;obtain⟨t,k,o,v,si,de,fr⟩:=e;obtain⟨s1,s2,s3,s4⟩:=s;obtain⟨nm,t0,t1,cd,e1,e2,e3⟩:=he;obtain⟨_,_,ce,lk,cn,th,fu,_,_,_⟩:=nm;obtain⟨f1,f2,f3⟩:=hf;have hth:=hs.th;obtain⟨v3,Y,v5,vel⟩:=va;dsimp only at*
 unfold gf kY aV bk bt ct bI bc bu bF aU cK aD cw;refine aJ (λh=>?_) λn3=>?_
 .have h:k=3:=h;obtain⟨c0,c1⟩:=ce (.inl h);exact aQ c0 (by rw[f1];exact c1) (aS (al (aP (v3 h))))
 refine aJ (λh=>?_) λZ=>?_
 .have h:k=23:=h;obtain⟨c0,c1⟩:=fu (.inr h);exact aQ c0 (by rw[f2];exact c1) (aS (al (aP (Y h))))
 refine aJ (λh=>?_) λn5=>?_
 .have h:k=5:=h;exact gD (aJ (λ_=>al (al rfl)) λg=>al (al (aP ((v5 h).resolve_left g))))
 refine aX (λx=>x.2=((s1,s2,s3,s4),t,k,o,v,si,de,fr)/\(x.1=ai->¬k=4/\¬k=22)) (aJ (λh=>al ⟨rfl,λh2=>(by rw[aP h] at h2;cases h2)⟩) λh=>al ⟨rfl,λh2=>⟨h,Rm h2⟩⟩) ?_;rintro⟨b,x⟩ ⟨e,hb⟩;dsimp only at e hb;subst e;refine aO (λh=>al rfl) λh=>?_
 obtain⟨n4,n22⟩:=hb h;have vel:=vel n3 Z n5 n4 n22;have hWl:=uq s1.2.2.2 o s1.2.2.2.length;refine aJ (λh=>?_) λn18=>?_
 .have h:k=18:=h;subst h;rw[Ja] at vel;refine iU s1.2.2.2.length (by omega) (λi x=>x.1.2.2=(i:Int)/\x.2=(t,18,o,v,si,de,fr)/\x.1.1=((wl s1.2.2.2 o i).length:Int)/\(x.1.2.1=ah↔v∈wl s1.2.2.2 o i)) ?_ ?_ ⟨rfl,rfl,rfl,by simp[wl]⟩
  .rintro i ⟨⟨c,hit,ix⟩,x⟩ hi ⟨J,I,M,U⟩;dsimp only at J I M U;subst J;subst I;subst M;have hl:=uq s1.2.2.2 o i;refine dz ?_;refine aX (λx=>x.2=(t,18,o,v,si,de,fr)/\x.1.1=((wl s1.2.2.2 o (i+1)).length:Int)/\(x.1.2=ah↔v∈wl s1.2.2.2 o (i+1))) ?_ ?_
   .refine cC (aS (aX (λx=>x=(JD o (aH (T:=jB) s1.2.2.2 (i:Int)),t,18,o,v,si,de,fr)) ?_ ?_))
    .unfold JD;refine aJ (λh=>al ?_) λh=>al ?_
     .dsimp only at h ⊢;rw[h];rfl
     .dsimp only at h ⊢;rw[bM h];rfl
    rintro x rfl;rw[F4];dsimp only;cases hw:JD o (aH (T:=jB) s1.2.2.2 (i:Int)) with
    |true=>
     refine Om (aO (λh=>al ⟨rfl,?_,?_⟩) λh=>al ⟨rfl,?_,?_⟩)
     .dsimp only;rw[gL (by omega)];simp
     .simp[U.1 h]
     .dsimp only;rw[gL (by omega)];simp
     .have:¬v∈wl s1.2.2.2 o i:=λg=>by rw[U.2 g] at h;cases h
      simp[this]
    |false=>exact fK (al ⟨rfl,rfl,U⟩)
   rintro⟨⟨c,hit'⟩,x⟩ ⟨J,I,M⟩;dsimp only at J I M;subst J;subst I;exact al ⟨gL (by omega),rfl,rfl,M⟩
  .rintro⟨⟨c,hit,ix⟩,x⟩ ⟨J,I,M,U⟩;dsimp only at J I M U;subst J;subst I;subst M;refine du (aw (P:=λy=>y=ah) (gD (aO (λ_=>al (al rfl)) λh=>?_)) λy hy=>al hy);have hn:¬v∈wl s1.2.2.2 o s1.2.2.2.length:=λg=>by rw[U.2 g] at h;cases h
   by_cases h0:(wl s1.2.2.2 o s1.2.2.2.length).length=0
   .rw[aI h0] at vel;refine aJ (λ_=>al (al (aP vel))) λg=>(g (by dsimp only;omega)).elim
   .rw[aC h0] at vel;have vel:v=AT (wl s1.2.2.2 o s1.2.2.2.length) v:=vel;exact (hn (vel▸Gk v h0)).elim
 refine aJ (λh=>?_) λn19=>?_
 .have h:k=19:=h;subst h;rw[aep] at vel;refine iU s1.2.2.2.length (by omega) (λi x=>x.1.2=(i:Int)/\x.2=(t,19,o,v,si,de,fr)/\x.1.1=((wl s1.2.2.2 o i).length:Int)) ?_ ?_ ⟨rfl,rfl,rfl⟩
  .rintro i ⟨⟨c,ix⟩,x⟩ hi ⟨J,I,M⟩;dsimp only at J I M;subst J;subst I;subst M;have hl:=uq s1.2.2.2 o i;refine dz ?_;refine aX (λx=>x.2=(t,19,o,v,si,de,fr)/\x.1=((wl s1.2.2.2 o (i+1)).length:Int)) ?_ ?_
   .refine cC (aS (aX (λx=>x=(JD o (aH (T:=jB) s1.2.2.2 (i:Int)),t,19,o,v,si,de,fr)) ?_ ?_))
    .unfold JD;refine aJ (λh=>al ?_) λh=>al ?_
     .dsimp only at h ⊢;rw[h];rfl
     .dsimp only at h ⊢;rw[bM h];rfl
    rintro x rfl;rw[F4];dsimp only;cases hw:JD o (aH (T:=jB) s1.2.2.2 (i:Int)) with
    |true=>
     refine Om (al ⟨rfl,?_⟩);dsimp only;rw[gL (by omega)];simp
    |false=>exact fK (al ⟨rfl,rfl⟩)
   rintro⟨c,x⟩ ⟨J,I⟩;dsimp only at J I;subst J;subst I;exact al ⟨gL (by omega),rfl,rfl⟩
  .rintro⟨⟨c,ix⟩,x⟩ ⟨J,I,M⟩;dsimp only at J I M;subst J;subst I;subst M;exact du (al (aP vel))
 exact al (aP (by rw[adc _ _ _ _ _ _ n18 n19] at vel;exact vel))
theorem XA (x:Int×Int×Bool) (c:Int):lV (x,c)=aa (JD c x):=by
 refine cE ?_;unfold lV JD bc aD;refine gD (aJ (λh=>al (al ?_)) λh=>al (al ?_))
 .have h:x.1=3:=h;rw[h];rfl
 .have h:¬x.1=3:=h;rw[bM h];rfl
theorem YX {n:Nat} (s:SY) (hs:SB n s):jZ s=aa (s.2.1,s.1,s.2.2.1,s.2.2.2):=by
 refine cE ?_;obtain⟨s1,s2,J,I⟩:=s;have hn:=hs.n1;have hlk:=hs.lk;have hdn:=hs.dn;have hth:=hs.th;have hrd:=hs.rd;dsimp only at hlk hdn hth hrd;unfold jZ qU aV bI ck bu bA bF aU cK cw;dsimp only[ar];refine cZ (cZ (dV (by omega) (dV (by omega) (bg (by simp;omega) (by omega) ?_))));refine iU s1.length (by omega) (λi x=>∃ c d,x=((i:Int),(s1,s2,J,I),c,d)/\d.length=s1.length/\∀ j,j<i->d.getD j (0,[])=s1.getD j (0,[])) ?_ ?_ ⟨_,_,rfl,by simp,λj hj=>by omega⟩
 .rintro i x hi ⟨c,d,rfl,hd,he⟩;have hr:=hrd _ (bH (T:=yV) (xs:=s1) (j:=(i:Int)) (by omega) (by omega));refine dz ?_;refine cC (aS (aT (x:=(aH (T:=yV) s1 (i:Int)).2) (cE ?_) ?_))
  .exact bg (by dsimp only;omega) (by omega) (al rfl)
  refine cC (cC (al ⟨c,d.set i (aH (T:=yV) s1 (i:Int)),?_,by simp[hd],λj hj=>?_⟩))
  .dsimp only;rw[gL (by omega)];rfl
  .by_cases e:i=j
   .subst e;rw[ax,List.getElem?_set_self (by omega)];rfl
   .rw[ax,List.getElem?_set_ne e,<-ax];exact he j (by omega)
 .rintro x ⟨c,d,rfl,hd,he⟩;have:d=s1:=by
   refine c6 hd λj Y M=>?_
   have:=he j M;rw[ax,ax,ay Y,ay M] at this;exact this
  subst this;refine du (aw (P:=λy=>y=(s2,d,J,I)) ?_ λy U=>al U);refine aT (x:=J) (cE (bg (by dsimp only;omega) (by omega) (al rfl))) (aT (x:=I) (cE (bg (by dsimp only;omega) (by omega) (al rfl))) (al rfl))
theorem U3 (l:List Int) (i u:Int):AT (l++[i]) u=if l.length=0 then i else if i=u then i else AT l u:=by
 unfold AT;cases l with
 |nil=>
  by_cases h:u=i
  .subst h;simp
  .simp[h];rfl
 |cons a r=>
  have e1:¬(a::r++[i]).length=0:=by simp
  have e2:¬(a::r).length=0:=by simp
  simp only[aC e1,aC e2];by_cases h:i=u
  .subst h;simp
  .have h':¬u=i:=λg=>h g.symm
   rw[aC h];have:(a::r++[i]).contains u=(a::r).contains u:=by simp[h']
   rw[this];rfl
theorem Nj {th:List (Int×Int×Bool)} {c u:Int} {i:Nat} (h:¬(wl th c i).length=0):0<=AT (wl th c i) u/\AT (wl th c i) u<i:=by
 have:=uo.1 (Gk u h);exact⟨this.1,this.2.1⟩
theorem I0 {l:List Int} {u:Int} (h:l.length=0):AT l u= -1:=by unfold AT;rw[aI h]
theorem aa7 (s:SY) (o u:Int) (hs:s.2.2.2.length<=1000):jq ((s.2.1,o,u),s.1,s.2.2.1,s.2.2.2)=aa (AT (wl s.2.2.2 o s.2.2.2.length) u,s.1,s.2.2.1,if (wl s.2.2.2 o s.2.2.2.length).length=0 then s.2.2.2 else Bc s.2.2.2 (AT (wl s.2.2.2 o s.2.2.2.length) u) 4):=by
 refine cE ?_;obtain⟨s1,s2,J,I⟩:=s;dsimp only at hs ⊢;unfold jq pL aV bk bI ck bu jC kj aU cK aD cw;dsimp only[ar];refine iU I.length (by omega) (λi x=>x=((AT (wl I o i) u,(i:Int)),s1,J,I,s2)) ?_ ?_ rfl
 .rintro i x hi rfl;refine dz ?_;refine aX (λx=>x=(AT (wl I o (i+1)) u,s1,J,I,s2)) ?_ ?_
  .refine cC (cC (aS ?_));refine aX (λx=>x=(decide (JD o (aH (T:=jB) I (i:Int))=ah/\((wl I o i).length=0\/(i:Int)=u)),s1,J,I,s2)) ?_ ?_
   .refine aT (XA _ _) (aO (λh=>?_) λh=>al ?_)
    .have h:JD o (aH (T:=jB) I (i:Int))=ah:=h;refine bB (λg=>al ?_) λg=>al ?_
     .have:(wl I o i).length=0:=um λq=>by have:=(Nj (u:=u) q).1;dsimp only at g;omega
      simp[h,this]
     .have:¬(wl I o i).length=0:=λq=>by have:=I0 (u:=u) q;dsimp only at g;omega
      simp[h,this]
    .have h:JD o (aH (T:=jB) I (i:Int))=ai:=h;simp[h]
   rintro x rfl;rw[F4];refine aJ (λh=>al ?_) λh=>al ?_
   .rw[aI h.1,U3];rcases h.2 with g|g
    .rw[aI g]
    .rw[aI g];simp
   .by_cases g:JD o (aH (T:=jB) I (i:Int))=ah
    .rw[aI g,U3,aC λq=>h ⟨g,.inl q⟩,aC λq=>h ⟨g,.inr q⟩]
    .rw[aC g]
  rintro x rfl;exact al (by dsimp only;rw[gL (by omega)])
 .rintro x rfl;refine du (aw (P:=λy=>y=(AT (wl I o I.length) u,s1,J,if (wl I o I.length).length=0 then I else Bc I (AT (wl I o I.length) u) 4)) ?_ λy M=>al M);refine aX (λx=>x=(s1,J,if (wl I o I.length).length=0 then I else Bc I (AT (wl I o I.length) u) 4)) ?_ ?_
  .refine fm (λg=>?_) λg=>al ?_
   .have h0:¬(wl I o I.length).length=0:=λq=>by have:=I0 (u:=u) q;dsimp only at g;omega
    have hp:=Nj (u:=u) h0;refine aQ hp.1 hp.2 (aQ hp.1 hp.2 (al ?_));rw[aC h0];rfl
   .have:(wl I o I.length).length=0:=um λq=>by have:=(Nj (u:=u) q).1;dsimp only at g;omega
    rw[aI this]
  rintro x rfl;exact al rfl
theorem aab (th:List (Int×Int×Bool)) (l:List Int) (i:Int):Fo th (l++[i])=Bc (Fo th l) i 4:=by unfold Fo;rw[fe];rfl
theorem aaa (l:List Int):∀ (th:List (Int×Int×Bool)) (j:Int),0<=j->(∀ z∈l,0<=z/\z<th.length/\¬z=j)->aH (T:=jB) (Fo th l) j=aH (T:=jB) th j:=by
 induction l with
 |nil=>intro th j _ _;rfl
 |cons x r J=>
  intro th j hj h;have I:=h x (by simp);refine (J (Bc th x 4) j hj λz M=>?_).trans ?_
  .have:=h z (by simp[M]);unfold Bc;rw[bT];exact this
  .unfold Bc;rw[sF (T:=jB) th x j _ I.1 I.2.1 hj,aC λq=>I.2.2 q.symm]
theorem RK (s:SY) (o:Int) (hs:s.2.2.2.length<=1000):gE ((s.2.1,o),s.1,s.2.2.1,s.2.2.2)=aa (((wl s.2.2.2 o s.2.2.2.length).length:Int),s.1,s.2.2.1,Fo s.2.2.2 (wl s.2.2.2 o s.2.2.2.length)):=by
 refine cE ?_;obtain⟨s1,s2,J,I⟩:=s;dsimp only at hs ⊢;unfold gE ma aV bk bI di ck bu kj aU cK aD cw;dsimp only[ar];refine iU I.length (by omega) (λi x=>x=((((wl I o i).length:Int),(i:Int)),s1,J,Fo I (wl I o i),s2)) ?_ ?_ rfl
 .rintro i x hi rfl;have hl:=uq I o i;have hg:aH (T:=jB) (Fo I (wl I o i)) (i:Int)=aH (T:=jB) I (i:Int):=aaa _ _ _ (by omega) λz M=>by have:=uo.1 M;exact⟨this.1,by omega,by omega⟩
  have hq:=F9 (wl I o i) I;refine dz ?_;refine aX (λx=>x=(((wl I o (i+1)).length:Int),s1,J,Fo I (wl I o (i+1)),s2)) ?_ ?_
  .refine cC (cC (aS (aT (XA _ _) ?_)));rw[F4];refine aO (λh=>?_) λh=>al ?_
   .have h:JD o (aH (T:=jB) I (i:Int))=ah:=hg▸h;refine cC (cC (al ?_));rw[aI h,aab];dsimp only;rw[gL (by omega)];simp only[bn,bU,jF];rfl
   .have h:JD o (aH (T:=jB) I (i:Int))=ai:=hg▸h;rw[h];rfl
  rintro x rfl;exact al (by dsimp only;rw[gL (by omega)])
 .rintro x rfl;exact du (al rfl)
theorem acm {n:Nat} (w:WT) (s:SY) (hs:SB n s) (hn:n<=1000) (U:w.2.2.1.length<=1000) (t k o u:Int) (he:EN w s t k o) (hr:Vf w s t k o) (J:¬k=8) (I:¬k=9):gF (w,s,t,k,o,u)=aa ((uC w s t k o u).1,(uC w s t k o u).2,ah):=by
 refine cE ?_;unfold gF aV bk bt ct eo bI di cQ eU l7 ck bc bA bF kj aD;refine aT (CS w s hs hn U t k o he hr) (fA rfl (aT (YX s hs) ?_));suffices hmain:Ok _ _ from aX (λx=>((x.2.2.2.1,x.2.1,x.2.2.2.2),x.1)=uC w s t k o u) hmain λx M=>al (by rw[<- M])
 obtain⟨nm,t0,t1,cd,e1,e2,e3⟩:=id he;obtain⟨_,_,ce,lk,cn,th,fu⟩:=nm;have hm:16<=k/\k<=19->0<=(aH (T:=Rj) w.2.2.1 o).2/\(aH (T:=Rj) w.2.2.1 o).2<w.2.1.length:=λh=>cd _ (bH (cn h).1 (cn h).2)
 rcases @Hg k with rfl|rfl|rfl|rfl|rfl|rfl|rfl|rfl|rfl|rfl|rfl|rfl|rfl|rfl|rfl|rfl|rfl|rfl|rfl|rfl|rfl|rfl|rfl|⟨hk,Y⟩
 case inr.inr.inr.inr.inr.inr.inr.inr.inr.inr.inr.inr.inr.inr.inr.inr.inr.inr.inr.inr.inr.inr.inr=>omega
 all_goals first|exact (J rfl).elim|exact (I rfl).elim|skip
 all_goals simp only[aW,bi,rR]
 all_goals with_reducible repeat' first|(refine OS.ok ?_;constructor)|refine IM.mk λ_=>?_
 all_goals try simp only[ar,qd] at*
 all_goals try rw[bT]
 all_goals first|omega|exact (hm ⟨by decide,by decide⟩).1|exact e1▸(hm ⟨by decide,by decide⟩).2|exact rfl|skip
 .refine aT (aa7 s o u hs.th) (ba ?_ (al ?_))
  .have:ak (if (wl s.2.2.2 o s.2.2.2.length).length=0 then s.2.2.2 else Bc s.2.2.2 (AT (wl s.2.2.2 o s.2.2.2.length) u) 4)=s.2.2.2.length:=by
    split
    .rfl
    .exact bT ..
   dsimp only;rw[this];simp
  .rw[Ja];by_cases h:(wl s.2.2.2 o s.2.2.2.length).length=0
   .rw[aI h,aI h,I0 h]
   .rw[aC h,aC h]
 .refine aT (RK s o hs.th) (ba ?_ (al rfl));dsimp only;rw[F9];simp
def zu:Nat->List (List Int)
 |0=>[[]]
 |m+1=>zu m++(zu m).map ((3-(m:Int))::·)
theorem KL:∀ m,[]∈zu m
 |0=>by simp[zu]
 |m+1=>by simp[zu,KL m]
theorem C3:∀ (m:Nat) (l:List Int),FX l->(∀ z∈l,4-(m:Int)<=z/\z<4)->l∈zu m
 |m,[],_,_=>KL m
 |0,a::r,_,h=>by have:=h a (by simp);omega
 |m+1,a::r,hA,h=>by
  have J:=h a (by simp);rw[zu,bR];by_cases e:a=3-(m:Int)
  .refine .inr (dc.2 ⟨r,C3 m r hA.2 λz I=>?_,by rw[e]⟩);have:=h z (by simp[I]);have:=hA.1 z I;omega
  .refine .inl (C3 m (a::r) hA λz I=>?_);have:=h z I;rcases bh.1 I with rfl|I
   .omega
   .have:=hA.1 z I;omega
theorem acs {l:List Int} (h:FX l) (h2:∀ z∈l,0<=z/\z<4):l∈zu 4:=C3 4 l h λz I=>by have:=h2 z I;omega
def in4:List Int:=[0,1,2,3]
theorem UE {t:Int} (h0:0<=t) (h1:t<4):t∈in4:=by
 have:t=0\/t=1\/t=2\/t=3:=by omega
 rcases this with rfl|rfl|rfl|rfl<;>simp[in4]
def agx (l:List Int) (t:Int):Bool:=l.contains t||((vb (l++[t])==aa (vS l [t]))&&(kX (vS l [t])==aa (vS l [t]))&&aA (vS l [t]).length (l++[t]).length)
def ahl (l:List Int) (t:Int):Bool:= !l.contains t||(iO (l,t)==aa (t,wo l t))
theorem Z5:((zu 4).all λl=>in4.all λt=>agx l t)=ah:=by kernel_rfl
theorem ab1:((zu 4).all λl=>in4.all λt=>ahl l t)=ah:=by kernel_rfl
theorem srt8 {l:List Int} {t:Int} (h:FX l) (h2:∀ z∈l,0<=z/\z<4) (h0:0<=t) (h1:t<4) (hn:¬t∈l):vb (l++[t])=aa (vS l [t])/\kX (vS l [t])=aa (vS l [t])/\(vS l [t]).length=(l++[t]).length:=by
 have:=f_.1 (f_.1 Z5 l (acs h h2)) t (UE h0 h1);unfold agx at this;have hc:l.contains t=ai:=by simp[hn]
 rw[hc,Bool.false_or,au,au] at this;exact⟨eq_of_beq this.1.1,eq_of_beq this.1.2,av this.2⟩
theorem del8 {l:List Int} {t:Int} (h:FX l) (h2:∀ z∈l,0<=z/\z<4) (h0:0<=t) (h1:t<4) (hn:l.contains t=ah):iO (l,t)=aa (t,wo l t):=by
 have:=f_.1 (f_.1 ab1 l (acs h h2)) t (UE h0 h1);unfold ahl at this;rw[hn,Bool.not_true,Bool.false_or] at this;exact eq_of_beq this
theorem aba (a0 a1 a2:Int) (r0 r1 r2:List Int) (h:Int) (d:List Bool) (th:List (Int×Int×Bool)) (h0:r0.length<=1000) (h1:r1.length<=1000) (h2:r2.length<=1000) (hd:d.length<=1000) (ht:th.length<=1000):mI ([(a0,r0),(a1,r1),(a2,r2)],h,d,th)=aa ((h,d,th),(a0,a1,a2),r0,r1,r2):=by
 refine cE ?_;have I:∀ l:List Int,l.length<=1000->ov l=aa l:=λl hl=>cE (bg (by omega) (by omega) (al rfl))
 unfold mI aV bI bu bA bF aU aD;refine ba rfl (aX (λx=>x=(([(a0,r0),(a1,r1),(a2,r2)],h,d,th),0,(a0,a1,a2),r0,r1,r2)) ?_ ?_)
 .exact fd rfl (ba rfl (aS (aT (I _ h0) (fd rfl (ba rfl (aS (aT (I _ h1) (fd rfl (ba rfl (aS (aT (I _ h2) (fA rfl (al rfl)))))))))))))
 rintro x rfl;refine aT (x:=d) (cE (bg (by dsimp only;omega) (by omega) (al rfl))) (aT (x:=th) (cE (bg (by dsimp only;omega) (by omega) (al rfl))) (al rfl))
theorem acn {n:Nat} (w:WT) (s:SY) (hs:SB n s) (hn:n<=1000) (I:w.2.2.1.length<=1000) (t k o u:Int) (he:EN w s t k o) (hr:Vf w s t k o) (hk:k=8\/k=9):gF (w,s,t,k,o,u)=af:=by
 have h1:=CS w s hs hn I t k o he hr;have h2:=YX s hs;rcases hk with rfl|rfl
 .unfold gF aV bk bt ct eo bI di cQ eU l7 ck bc bA bF kj aD;simp only[h1,h2,aW,bi,rR];cases fD o (ak s.1)<;>rfl
 .unfold gF aV bk bt ct eo bI di cQ eU l7 ck bc bA bF kj aD;simp only[h1,h2,aW,bi,rR];cases fD o (ak s.1)<;>rfl
theorem acl {n:Nat} (w:WT) (s:SY) (hs:SB n s) (hn:n<=900) (U:w.2.2.1.length<=1000) (t k u:Int) (he:EN w s t k 2) (hr:Vf w s t k 2) (hk:k=8\/k=9) (Y:s.1.length=3) (hA:FX (aH (T:=yV) s.1 2).2) (I:∀ z∈(aH (T:=yV) s.1 2).2,0<=z/\z<4) (J:t<4):kB (w,s,t,k,2,u)=aa ((uC w s t k 2 u).1,(uC w s t k 2 u).2,ah):=by
 have h1:=CS w s hs (by omega) U t k 2 he hr;have t0:=he.t0;have ra:=hr.ra;have rr:=hr.rr;have hrd:=hs.rd;have hdn:=hs.dn;have hth:=hs.th;obtain⟨s1,h,d,th⟩:=s
 match s1,Y with
 |[(a0,r0),(a1,r1),(a2,r2)],_=>
  have g0:r0.length<=n:=hrd (a0,r0) (by simp);have g1:r1.length<=n:=hrd (a1,r1) (by simp);have Z:r2.length<=n:=hrd (a2,r2) (by simp);have hA:FX r2:=hA;have I:∀ z∈r2,0<=z/\z<4:=I;dsimp only at hdn hth;have hc:=aba a0 a1 a2 r0 r1 r2 h d th (by omega) (by omega) (by omega) hdn hth;refine cE ?_;unfold kB aV bk bt ct eo kc di cQ eU pj bc vP bA aD;rcases hk with rfl|rfl
  .have ra:r2.contains t=ai:=ra rfl;obtain⟨q1,M,q3⟩:=srt8 hA I t0 J (by simpa using ra);simp only[h1,hc,aW,bi,rR];refine aX (λx=>x=(0,(h,d,th),0,(((a0,r0),(a1,r1),a2)),ah,vS r2 [t])) ?_ ?_
   .refine bg (by simp;omega) (by omega) (aT q1 (ba ?_ (aT M (ba ?_ (al ?_)))))
    .rw[q3];simp
    .simp
    .rfl
   rintro x rfl;exact al rfl
  .have rr:r2.contains t=ah:=rr rfl;have q1:=del8 hA I t0 J rr;simp only[h1,hc,aW,bi,rR];refine aX (λx=>x=(0,(h,d,th),0,(((a0,r0),(a1,r1),a2)),ai,wo r2 t)) ?_ ?_
   .exact aT q1 (ba (by simp) (al rfl))
   rintro x rfl;exact al rfl
theorem agl {n:Nat} (w:WT) (s:SY) (hs:SB n s) (hn:n<=900) (I:w.2.2.1.length<=1000) (t k o u:Int) (he:EN w s t k o) (hr:Vf w s t k o) (h2:k=8\/k=9->o=2) (M:s.1.length=3) (hA:∀ l∈s.1,FX l.2/\∀ z∈l.2,0<=z/\z<4) (J:t<4):qQ (w,s,t,k,o,u)=aa ((uC w s t k o u).1,(uC w s t k o u).2,ah):=by
 unfold qQ;by_cases hk:k=8\/k=9
 .have:=h2 hk;subst this;have hg:=hA _ (bH (T:=yV) (xs:=s.1) (j:=2) (by omega) (by omega));rw[acn w s hs (by omega) I t k 2 u he hr hk,acl w s hs hn I t k u he hr hk M hg.1 hg.2 J];rfl
 .rw[acm w s hs (by omega) I t k o u he hr (λh=>hk (.inl h)) λh=>hk (.inr h)];rfl
theorem U0 (l:List Int) (h:l.length<=100000):xK l=aa l:=cE (bg (by omega) (by omega) (al rfl))
theorem abb (l:List Int) (h:l.length<=100000):ov l=aa l:=cE (bg (by omega) (by omega) (al rfl))
theorem aia {n:Nat} (w:WT) (s:SN) (e:ET) (hs:NB n s) (hn:n<=900) (U:w.2.2.1.length<=1000) (Y:F16 w s) (J:EN w s.1 e.1 e.2.1 e.2.2.1) (hS:S16 w s e) (ld:e.2.2.2.2.2.1.length<=1000000) (lf:e.2.2.2.2.2.2.length<=1000000) (h2:e.2.1=8\/e.2.1=9->e.2.2.1=2) (h3:s.1.1.length=3) (hA:∀ l∈s.1.1,FX l.2/\∀ z∈l.2,0<=z/\z<4) (t4:e.1<4):fw (w,s,e)=aa (ZR w s e,ah):=by
 refine cE ?_;obtain⟨rd,q1,q2,de,fr,nd,nf,va⟩:=id hS;obtain⟨nm,t0,t1,cd,e1,e2,e3⟩:=id J;obtain⟨k1,k2,ce,lk,cn,th,fu,_,_,_⟩:=nm;obtain⟨f1,f2,f3⟩:=id Y;have hsc:=hs.c;have hsf:=hs.f;have hsk:=hs.k;unfold fw aV bk bt bI di cQ ck bc bu jC kj aU aD cw;refine aX (λx=>x=(ai,w,s,e,0)) ?_ ?_
 .refine aT (ahg w s U _ _ _ J Y) (fA rfl (du (fm (λg=>(by dsimp only[ar] at g;omega)) λ_=>du (al ?_))));rw[fR.2 (show e.2.1<=23 by omega)]
 rintro x rfl;refine fK (aX (λx=>x=(ai,w,s,e,0)) ?_ ?_)
 .exact aT (CS w s.1 hs.sb (by omega) U _ _ _ J rd) (fA rfl (aT (aa2 w e q1 q2) (fA rfl (aT (PA w s e (λh=>ce h) de fr t0 (by rw[f3];exact t1) nd nf ld lf) (fA rfl (aT (Z1 w s hs.sb e Y J va) (al rfl)))))))
 rintro x rfl;refine fK (aX (λx=>x.2=(w,s,e,0)/\uC w s.1 e.1 e.2.1 e.2.2.1 x.1=uC w s.1 e.1 e.2.1 e.2.2.1 e.2.2.2.1) ?_ ?_)
 .exact aJ (λ_=>al ⟨rfl,rfl⟩) λh=>al ⟨rfl,U_ _ _ _ _ _ _ _ h⟩
 rintro⟨u,x⟩ ⟨Z,hu⟩;dsimp only at Z hu;subst Z;refine aT (agl w s.1 hs.sb hn U _ _ _ u J rd h2 h3 hA t4) (fA rfl (aT (U0 _ (by dsimp only;omega)) (aT (U0 _ (by dsimp only;omega)) (aT (abb _ (by dsimp only;omega)) ?_))));rw[hu];refine aX (λx=>x.1=e/\x.2.2.1=(uC w s.1 e.1 e.2.1 e.2.2.1 e.2.2.2.1).1/\x.2.2.2.1=Wy s.2.1 e/\x.2.2.2.2.1=Xv s.2.2.1 e/\x.2.2.2.2.2=s.2.2.2) ?_ ?_
 .unfold Wy Xv;refine aJ (λh=>?_) λh=>aJ (λh'=>?_) λh'=>al ⟨rfl,rfl,(aC h).symm,(aC h').symm,rfl⟩
  .have h:e.2.1=4:=h;have I:=ce (.inr h);exact aQ I.1 (by rw[f1];exact I.2) (aQ I.1 (by rw[f1];exact I.2) (al ⟨rfl,rfl,(aI h).symm,(aC (by omega)).symm,rfl⟩))
  .have h:e.2.1=22:=h';have I:=fu (.inl h);exact aQ I.1 (by rw[f2];exact I.2) (aQ I.1 (by rw[f2];exact I.2) (al ⟨rfl,rfl,(aC (by omega)).symm,(aI h).symm,rfl⟩))
 rintro⟨x1,x2,x3,x4,x5,x6⟩ ⟨h1,h2,h4,h5,h6⟩;simp only at h1 h2 h4 h5 h6;subst h1;subst h2;subst h4;subst h5;subst h6;have M:x1.1<(s.2.2.2.length:Int):=by rw[f3];exact t1
 exact aQ t0 M (aQ t0 M (aS (aQ t0 M (aQ t0 M (al rfl)))))
theorem WD (r:List Bool) (e:ET) (h1:∀ y∈e.2.2.2.2.2.1,0<=y/\r.getD y.toNat ai=ah) (h2:∀ y∈e.2.2.2.2.2.2,0<=y/\r.getD y.toNat ai=ah) (ld:e.2.2.2.2.2.1.length<=1000000) (I:e.2.2.2.2.2.2.length<=1000000):b_ (r,e)=aa ah:=by
 refine cE ?_;unfold b_ jT eo l7 bu jC bA bF aU cK aD cw;refine iU 2 (by omega) (λi x=>x=(i:Int)) ?_ ?_ rfl
 .rintro i x hi rfl;refine bB (λ_=>?_) λg=>(by omega)
  refine cZ (dV (by omega) (yJ (by omega) (aS ?_)));have hr:∃ l:List Int,aH (T:=.sl (.int .i64)) [e.2.2.2.2.2.1,e.2.2.2.2.2.2] (i:Int)=l/\(∀ y∈l,0<=y/\r.getD y.toNat ai=ah)/\l.length<=1000000:=by
   match i,hi with
   |0,_=>exact⟨_,rfl,h1,ld⟩
   |1,_=>exact⟨_,rfl,h2,I⟩
  obtain⟨l,J,hA,hl⟩:=hr;have er':aH (T:=.sl aM) [e.2.2.2.2.2.1,e.2.2.2.2.2.2] (i:Int)=l:=J;dsimp only at er' ⊢;rw[er'];refine iU l.length (by omega) (λj x=>x=(j:Int)) ?_ ?_ rfl
  .rintro j x hj rfl;refine dz ?_;have m:=hA _ (bH (T:=.int .i64) (xs:=l) (j:=(j:Int)) (by omega) (by omega));refine cC (aS (aX (λx=>x=ai) ?_ ?_))
   .revert m;generalize aH (T:=.int .i64) l (j:Int)=z;intro m;have M:z.toNat<r.length:=by
     rcases bV z.toNat r.length with g|g
     .exact g
     .have:=m.2;rw[ax,bK g] at this;cases this
    refine bB (λg=>(by have:=m.1;omega)) λ_=>fm (λg=>(by have:=m.1;dsimp only[ar] at g;omega)) λ_=>aQ m.1 (by have:=m.1;omega) (aS (al ?_))
    have:aH (T:=.bool) r z=ah:=m.2;show (!aH (T:=.bool) r z)=ai;rw[this];rfl
   rintro x rfl;exact fK (al (gL (by omega)))
  .rintro x rfl;exact du (al (gL (by omega)))
 .rintro x rfl;exact bB (λg=>(by omega)) λ_=>al rfl
abbrev W8 (n:Nat) (s:List (Int×Int×Int)):WT:=(C0,Fi,KF,Q4,uN.take n,s)
theorem WX.w8 {w:WT} (U:WX w):∃ n,(n=1\/n=2\/n=3\/n=4)/\w=W8 n w.2.2.2.2.2:=by
 obtain⟨h1,h2,M,J,⟨n,n1,Y,I⟩,_,_⟩:=U;obtain⟨c,l,d,f,t,s⟩:=w;dsimp only at h1 h2 M J I;subst h1;subst h2;subst M;subst J;subst I;exact⟨n,by omega,rfl⟩
abbrev sn8 (w:WT):SN:=(NH w,Y4 w,ZT w,aE w.2.2.2.2.1.length 0)
theorem Gz (s:List (Int×Int×Int)):c7 (W8 1 s)=aa (sn8 (W8 1 s)):=by kernel_rfl
theorem XO (s:List (Int×Int×Int)):c7 (W8 2 s)=aa (sn8 (W8 2 s)):=by kernel_rfl
theorem st3 (s:List (Int×Int×Int)):c7 (W8 3 s)=aa (sn8 (W8 3 s)):=by kernel_rfl
theorem st4 (s:List (Int×Int×Int)):c7 (W8 4 s)=aa (sn8 (W8 4 s)):=by kernel_rfl
theorem AW {w:WT} (I:WX w):c7 w=aa (sn8 w):=by
 obtain⟨n,hn,e⟩:=I.w8;rw[e];rcases hn with rfl|rfl|rfl|rfl
 .exact Gz _
 .exact XO _
 .exact st3 _
 .exact st4 _
abbrev VN4:List (List UInt8):=[[120],[121],[118],[113]]
theorem vc8:gK C0=aa (VN4,ah):=by kernel_rfl
theorem vn1 (s:List (Int×Int×Int)):dD (W8 1 s,VN4)=aa ah:=by kernel_rfl
theorem vn2 (s:List (Int×Int×Int)):dD (W8 2 s,VN4)=aa ah:=by kernel_rfl
theorem vn3 (s:List (Int×Int×Int)):dD (W8 3 s,VN4)=aa ah:=by kernel_rfl
theorem vn4 (s:List (Int×Int×Int)):dD (W8 4 s,VN4)=aa ah:=by kernel_rfl
theorem vs8 {w:WT} (M:WX w) (hb:VL w):fI w=aa ah:=by
 have hv:=M.v;have hs:=M.s;have ht:=hb.t0;unfold Zt at hv;refine cE ?_;unfold fI km aV bk ct cQ bu iL bF aU cK aD cw;refine iU w.2.2.2.2.2.length (by omega) (λi x=>∃ t n:Int,x=((t,n,(i:Int)),w)/\JA w.2.2.2.2.1.length (w.2.2.2.2.2.take i)=aa (t,n)/\0<=t/\t<w.2.2.2.2.1.length/\0<=n/\n<=i) ?_ ?_ ⟨0,0,rfl,rfl,by omega,by omega,by omega,by omega⟩
 .rintro i x hi ⟨t,n,rfl,h1,t0,t1,n0,n1⟩;refine dz ?_;refine cC (aS ?_);have h2:=Uh hv (i+1);have I:JA w.2.2.2.2.1.length (w.2.2.2.2.2.take (i+1))=Rk w.2.2.2.2.1.length (aa (t,n)) (aH (T:=wQ) w.2.2.2.2.2 (i:Int)):=by rw[GA hi,h1]
  rw[I] at h2;dsimp only;revert h2 I;change _->_->Ok _ _;generalize aH (T:=wQ) w.2.2.2.2.2 (i:Int)=z;intro h2 I;obtain⟨(a:Int),(b:Int),(c:Int)⟩:=z;have U:(a=t/\b=n)\/(t<a/\a<w.2.2.2.2.1.length/\b=0):=by
   simp only[Rk] at h2;split at h2
   .rename_i h;exact .inl h
   .split at h2
    .rename_i h;exact .inr h
    .exact (h2 rfl).elim
  refine aX (λx=>x=(ai,w,a,b,c)) ?_ ?_
  .refine du (al ?_);dsimp only;rw[kC.2 (by dsimp only[ar];omega)]
  rintro x rfl;refine fK ?_;rcases U with ⟨rfl,rfl⟩|⟨q1,J,rfl⟩
  .refine aX (λx=>x=((a,b),w,a,b,c)) (du (al rfl)) ?_;rintro x rfl;refine b7 (λg=>(g rfl).elim) λ_=>al ⟨a,b+1,?_,?_,t0,t1,by omega,by omega⟩
   .dsimp only;rw[gU (n:=b+1) (by omega) (by omega),gL (by omega)]
   .rw[I];simp[Rk]
  .refine aX (λx=>x=((a,0),w,a,0,c)) (dz (al rfl)) ?_;rintro x rfl;refine b7 (λg=>(g rfl).elim) λ_=>al ⟨a,1,?_,?_,by omega,J,by omega,by omega⟩
   .dsimp only;rw[gU (n:=0+1) (by omega) (by omega),gL (by omega)];rfl
   .rw[I];show (if a=t/\(0:Int)=n then aa (t,n+1) else if t<a/\a<_/\(0:Int)=0 then aa (a,1) else af)=aa (a,1);rw[aC (by omega),aI ⟨q1,J,rfl⟩]
 .rintro x ⟨t,n,rfl,_⟩;exact du (al rfl)
theorem VW8 {w:WT} (M:WX w) (hb:VL w):dE w=aa ah:=by
 have hs:=vs8 M hb;have hvn:dD (w,VN4)=aa ah:=by
  obtain⟨n,hn,e⟩:=M.w8;rw[e];rcases hn with rfl|rfl|rfl|rfl
  .exact vn1 _
  .exact vn2 _
  .exact vn3 _
  .exact vn4 _
 have hc:=M.c;have hd:=M.d;have hl:=M.l;obtain⟨w1,w2,w3,U,J,I⟩:=w;obtain⟨b1,b2,b3,b4,b0,Z,Y⟩:=hb;dsimp only at hc hd hl b1 b2 b3 b4 Z Y b0;subst hc;subst hd;subst hl;refine cE ?_;unfold dE kn aV bk ct cQ bu bF aU cK aD cw;have f:∀ n m:Nat,n<=m->fG (m:Int) (aN n)=ai:=λn m h=>fR.2 (by dsimp only[ar];omega)
 refine aX (λx=>x=(ai,C0,Fi,KF,U,J,I)) ?_ ?_
 .refine fA rfl (fA rfl (fA rfl (fA (f _ 2 b4) (al ?_))));rw[show fG 60 (aN (ak I))=ai from f _ 60 Y]
 rintro x rfl;refine fK (aX (λx=>x=(ai,C0,Fi,KF,U,J,I)) ?_ ?_)
 .refine fA (fR.2 (by dsimp only[ar];omega)) (al ?_);rw[show fG 4 (aN (ak J))=ai from f _ 4 Z]
 rintro x rfl;refine fK (aT vc8 (aX (λx=>x=(ai,C0,Fi,KF,U,J,I)) ?_ ?_))
 .exact fK (aT hvn (al rfl))
 rintro x rfl;refine fK (iU 1 (by omega) (λi x=>x=((i:Int),C0,Fi,KF,U,J,I)) ?_ ?_ rfl)
 .rintro i x hi rfl;have:i=0:=by omega
  subst this;refine fd rfl (ba rfl (aS (aT (x:=ah) ?_ (fK (al rfl)))));rfl
 .rintro x rfl;exact fA rfl (aT (x:=ah) (by rw[hs];rfl) (al rfl))
abbrev eN (l:List ET) (i:Nat):ET:=aH (T:=tE) l (i:Int)
theorem H9 {l:List ET} {i:Nat} (h:i<l.length):eN l i∈l:=bH (T:=tE) (by omega) (by omega)
theorem aef {l:List ET} {e:ET} {i:Nat} (h:i<l.length):eN (l++[e]) i=eN l i:=by
 unfold eN;rw[xq,xq,ax,ax,bL h]
theorem ab0 (l:List ET) (e:ET):eN (l++[e]) l.length=e:=by
 unfold eN;rw[xq,ax,bW (bO _),Nat.sub_self];rfl
def Vb (w:WT) (l:List ET):SY×List Int×List Int:=l.foldl (λs e=>((uC w s.1 e.1 e.2.1 e.2.2.1 e.2.2.2.1).1,Wy s.2.1 e,Xv s.2.2 e)) (NH w,Y4 w,ZT w)
theorem Zh (w:WT) {l:List ET} {i:Nat} (h:i<l.length):Vb w (l.take (i+1))=((uC w (Vb w (l.take i)).1 (eN l i).1 (eN l i).2.1 (eN l i).2.2.1 (eN l i).2.2.2.1).1,Wy (Vb w (l.take i)).2.1 (eN l i),Xv (Vb w (l.take i)).2.2 (eN l i)):=by
 rw[nC (T:=tE) h];unfold Vb;rw[fe];rfl
theorem Z0.all {w:WT} {l:List ET} {sy:SY} {ce fu:List Int} (h:Z0 w l sy ce fu):Vb w l=(sy,ce,fu)/\∀ i,i<l.length->SCx w (l.take i) (Vb w (l.take i)).1 (Vb w (l.take i)).2.1 (Vb w (l.take i)).2.2 (eN l i):=by
 induction h with
 |nil=>exact⟨rfl,λi hi=>cW hi (vQ _)⟩
 |snoc h hs I=>
  rename_i l sy ce fu e;obtain⟨h1,h2⟩:=I;refine ⟨by unfold Vb at h1 ⊢;rw[fe,h1];rfl,λi hi=>?_⟩;rw[bn,gg] at hi;rcases bV i l.length with g|g
  .rw[kH (by omega),aef g];exact h2 i g
  .have:i=l.length:=by omega
   subst this;rw[kH (bO _),cL,ab0,h1];exact hs
theorem TR.sc {w:WT} {l:List ET} (I:TR (w,l)) {i:Nat} (h:i<l.length):SCx w (l.take i) (Vb w (l.take i)).1 (Vb w (l.take i)).2.1 (Vb w (l.take i)).2.2 (eN l i):=by
 obtain⟨sy,ce,fu,ac⟩:=I.ac;exact ac.all.2 i h
def OD (w:WT) (l:List ET):HS:=l.foldl (λh e=>(KN w h (evP e)).1) (HS.zero w)
def pg (l:List ET) (i:Nat):EV:=evP (eN l i)
def FL (w:WT) (l:List ET) (i:Nat):List Int:=CG w (OD w (l.take i)) (pg l i)
theorem Hn (w:WT) {l:List ET} {i:Nat} (h:i<l.length):OD w (l.take (i+1))=vp w (OD w (l.take i)) (pg l i) (FL w l i):=by
 rw[nC (T:=tE) h];unfold OD;rw[fe];rfl
theorem Ho {w:WT} {l:List ET} (I:TR (w,l)):∀ i:Nat,i<=l.length->Xd (i:Int) (OD w (l.take i))/\Fit w (OD w (l.take i))
 |0,_=>by
  have wb:=I.wb;dsimp only at wb;exact⟨HS.zero_ok (by have:=wb.c;omega) (by have:=wb.l;omega) (by have:=wb.f;omega) (by have:=wb.t;omega),Fit.zero w⟩
 |i+1,h=>by
  obtain⟨o,J⟩:=Ho I i (by omega);have hl:=I.len;dsimp only at hl;have ok:=YK (I.ev _ (H9 (l:=l) (i:=i) (by omega))) I.wb J;rw[Hn w (by omega)];exact⟨XM (w:=w) (e:=pg l i) o (by omega) ok.th4,J.step (pg l i)⟩
theorem MT {w:WT} {l:List ET} (I:TR (w,l)) {i:Nat} (h:i<l.length):EOK w (OD w (l.take i)) (pg l i):=YK (I.ev _ (H9 h)) I.wb (Ho I i (by omega)).2
theorem YL {w:WT} {l:List ET} (I:TR (w,l)) {i:Nat} (h:i<l.length):EvT (pg l i) (eN l i):=ahi (I.ev _ (H9 h))
theorem YY {w:WT} {l:List ET} (I:TR (w,l)) {i:Nat} (h:i<l.length):En ((i:Int)+1) (FL w l i):=Tl (Ho I i (by omega)).1 (MT I h).th4
def LE (a b:List Int):Prop:=a.length<=b.length/\∀ k,a.getD k 0<=b.getD k 0
theorem LE.refl (a:List Int):LE a a:=⟨bO _,λ_=>eD _⟩
theorem LE.trans {a b c:List Int} (h:LE a b) (g:LE b c):LE a c:=⟨c_ h.1 g.1,λk=>Int.le_trans (h.2 k) (g.2 k)⟩
theorem LE.jl {a b:List Int} (h:LE a b):jl a b=b:=VB (by rw[yM];have:=h.1;omega) λi=>by rw[Dm,xO];have:=h.2 i;omega
theorem aiu (a b:List Int):LE a (jl a b):=⟨by rw[yM];omega,λk=>by rw[Dm,xO];omega⟩
theorem LE_r (a b:List Int):LE b (jl a b):=⟨by rw[yM];omega,λk=>by rw[Dm,xO];omega⟩
theorem adt (a:List Int) (t:Nat):LE a (tk a t):=⟨by rw[KK];omega,λk=>by rw[Gw];split<;>(try subst k)<;>omega⟩
theorem ND:∀ (l:List (List Int)) (c:List Int),LE c (l.foldl jl c)
 |[],c=>LE.refl c
 |x::r,c=>(aiu c x).trans (ND r _)
theorem ahn (w:Fh) (h:HS) (e:EV):LE (h.T.getD e.th []) (CG w h e):=(ND _ _).trans (adt _ _)
theorem O9 {α:Type} (l:List α) (i j:Nat) (x d:α):(l.set i x).getD j d=if i=j/\i<l.length then x else l.getD j d:=by
 rw[ax,rY];by_cases e:i=j
 .subst e;by_cases g:i<l.length
  .rw[aI rfl,aI g,aI ⟨rfl,g⟩];rfl
  .rw[aI rfl,aC g,aC λq=>g q.2,ax,bK (by omega)]
 .rw[aC e,aC λq=>e q.1,ax]
structure og (P:List Int->Prop) (h:HS):Prop where
 T:∀ u,P (h.T.getD u [])
 S:∀ u,P (h.S.getD u [])
 L:∀ u,P (h.L.getD u [])
 R:∀ u,P (h.R.getD u [])
 C:∀ u,P (h.C.getD u [])
 F:∀ u,P (h.F.getD u [])
 X:P h.X
 N:∀ u,P (h.N.getD u [])
theorem og.mono {P Q:List Int->Prop} {h:HS} (a:og P h) (g:∀ x,P x->Q x):og Q h:=⟨λu=>g _ (a.T u),λu=>g _ (a.S u),λu=>g _ (a.L u),λu=>g _ (a.R u),λu=>g _ (a.C u),λu=>g _ (a.F u),g _ a.X,λu=>g _ (a.N u)⟩
theorem og.set {P:List Int->Prop} {l:List (List Int)} {c:List Int} (h:∀ u,P (l.getD u [])) (hc:P c) (i:Nat):∀ u,P ((l.set i c).getD u []):=λu=>by
 rw[O9];split
 .exact hc
 .exact h u
theorem og.repl {P:List Int->Prop} (h:P []) (n:Nat):∀ u,P ((aE n []).getD u []):=λu=>by
 rw[ax,pY];split<;>exact h
theorem og.zero {P:List Int->Prop} (h:P []) (w:Fh):og P (HS.zero w):=⟨og.repl h _,og.repl h _,og.repl h _,og.repl h _,og.repl h _,og.repl h _,h,og.repl h _⟩
theorem og.step {P:List Int->Prop} (hj:∀ a b,P a->P b->P (jl a b)) {w:Fh} {h:HS} (a:og P h) (e:EV) {c:List Int} (hc:P c):og P (vp w h e c):=by
 have b:og P {h with T:=h.T.set e.th c}:={a with T:=og.set a.T hc _}
 unfold vp;simp only[];repeat' split
 .exact {b with S:=og.set a.S hc _}
 .exact {b with L:=og.set a.L (hj _ _ (a.L _) hc) _}
 .exact {b with R:=og.set a.R (hj _ _ (a.R _) hc) _}
 .exact {b with L:=og.set a.L (hj _ _ (a.L _) hc) _}
 .exact {b with C:=og.set a.C (hj _ _ (a.C _) hc) _}
 .exact b
 .exact {b with F:=og.set a.F (hj _ _ (a.F _) hc) _}
 .exact {b with X:=hj _ _ a.X hc}
 .exact {b with N:=og.set a.N hc _}
 .exact b
 .refine {b with N:=λu=>?_};have:=a.N u;simp only[Bj];rw[ax] at this ⊢;rw[List.getElem?_mapIdx];cases I:h.N[u]? with
  |none=>rw[I] at this;exact this
  |some x=>
   rw[I] at this;simp only[b8,tO];split
   .exact hc
   .exact this
 .exact b
theorem og.src {P:List Int->Prop} {w:Fh} {h:HS} (a:og P h) (e:EV):∀ x∈Af w h e,P x:=by
 intro c hc;unfold Af at hc;repeat' (split at hc)
 all_goals simp only[bh,cj,fP] at hc
 .subst hc;exact a.S _
 .subst hc;exact a.T _
 .rcases hc with rfl|rfl
  .exact a.L _
  .exact a.R _
 .subst hc;exact a.L _
 .rcases hc with rfl|rfl|rfl
  .exact a.L _
  .exact a.R _
  .exact a.N _
 .subst hc;exact a.C _
 .subst hc;exact a.F _
 .subst hc;exact a.X
theorem YH {P:List Int->Prop} (hj:∀ a b,P a->P b->P (jl a b)):∀ (l:List (List Int)) (c:List Int),P c->(∀ x∈l,P x)->P (l.foldl jl c)
 |[],_,hc,_=>hc
 |x::r,_,hc,h=>YH hj r _ (hj _ _ hc (h x (dH ..))) λy I=>h y (cN _ I)
theorem ahk (w:Fh) (h:HS) (e:EV) (c:List Int):(vp w h e c).T=h.T.set e.th c:=by
 unfold vp;simp only[];repeat' split
 all_goals rfl
def zl (l:List ET) (u:Nat):Nat->Nat
 |0=>0
 |i+1=>if (pg l i).th=u then zl l u i+1 else zl l u i
theorem Qr (l:List ET) (u i:Nat):∀ j,zl l u i<=zl l u (i+j)
 |0=>bO _
 |j+1=>by
  have:=Qr l u i j;show zl l u i<=zl l u (i+j+1);rw[zl];split<;>omega
theorem Th (l:List ET) (u:Nat) {i j:Nat} (h:i<=j):zl l u i<=zl l u j:=by
 obtain⟨k,rfl⟩:∃ k,j=i+k:=⟨j-i,by omega⟩
 exact Qr l u i k
theorem Gj (l:List ET) (i:Nat):zl l (pg l i).th (i+1)=zl l (pg l i).th i+1:=by rw[zl,aI rfl]
structure Gd (w:WT) (l:List ET) (i:Nat) (x:List Int):Prop where
 le:∀ u,x.getD u 0<=(zl l u i:Int)
 dn:∀ k,k<i->(zl l (pg l k).th k:Int)+1<=x.getD (pg l k).th 0->LE (FL w l k) x
theorem Gd.nil (w:WT) (l:List ET) (i:Nat):Gd w l i []:=⟨λu=>by simp,λk _ h=>by simp at h;omega⟩
theorem Gd.jl {w:WT} {l:List ET} {i:Nat} (a b:List Int) (I:Gd w l i a) (hb:Gd w l i b):Gd w l i (jl a b):=by
 refine ⟨λu=>?_,λk hk h=>?_⟩
 .rw[Dm,xO];have:=I.le u;have:=hb.le u;omega
 .rw[Dm,xO] at h;by_cases g:(zl l (pg l k).th k:Int)+1<=a.getD (pg l k).th 0
  .exact (I.dn k hk g).trans (aiu _ _)
  .exact (hb.dn k hk (by omega)).trans (LE_r _ _)
theorem Gd.succ {w:WT} {l:List ET} {i:Nat} {x:List Int} (h:Gd w l i x):Gd w l (i+1) x:=by
 refine ⟨λu=>?_,λk hk g=>?_⟩
 .have:=h.le u;have:=Th l u (show i<=i+1 by omega);omega
 .by_cases e:k=i
  .subst e;have:=h.le (pg l k).th;omega
  .exact h.dn k (by omega) g
structure GS1 (w:WT) (l:List ET) (i:Nat) (h:HS):Prop where
 a:og (Gd w l i) h
 t:∀ u,(h.T.getD u []).getD u 0=(zl l u i:Int)
theorem Nf {w:WT} {l:List ET} {i:Nat} (g:GS1 w l i (OD w (l.take i))):Gd w l (i+1) (FL w l i)/\(FL w l i).getD (pg l i).th 0=(zl l (pg l i).th i:Int)+1:=by
 have J:Gd w l i ((Af w (OD w (l.take i)) (pg l i)).foldl AI.jl ((OD w (l.take i)).T.getD (pg l i).th [])):=YH Gd.jl _ _ (g.a.T _) (g.a.src (w:=w) _);have M:=g.t (pg l i).th;have hL:=ND (Af w (OD w (l.take i)) (pg l i)) ((OD w (l.take i)).T.getD (pg l i).th []);have U:=(g.a.T (pg l i).th).dn;have I:=ahn w (OD w (l.take i)) (pg l i);have e:(FL w l i).getD (pg l i).th 0=(zl l (pg l i).th i:Int)+1:=by
  unfold FL CG;rw[Gw,aI rfl];have:=hL.2 (pg l i).th;have:=J.le (pg l i).th;omega
 refine ⟨⟨λu=>?_,λk hk h=>?_⟩,e⟩
 .by_cases hu:(pg l i).th=u
  .subst hu;rw[e,Gj];omega
  .have:=J.le u;unfold FL CG;rw[Gw,aC λq=>hu q.symm,zl,aC hu];exact this
 .by_cases hki:k=i
  .subst hki;exact LE.refl _
  have hk:k<i:=by omega
  by_cases hu:(pg l k).th=(pg l i).th
  .refine (U k hk ?_).trans I;rw[hu,M];have:=Th l (pg l k).th (show k+1<=i from hk);rw[Gj,hu] at this;omega
  .refine (J.dn k hk ?_).trans (adt _ _);unfold FL CG at h;rw[Gw,aC hu] at h;exact h
theorem Hp {w:WT} {l:List ET} (I:TR (w,l)):∀ i:Nat,i<=l.length->GS1 w l i (OD w (l.take i))
 |0,_=>⟨og.zero (Gd.nil w l 0) w,λu=>by have:=og.repl (P:=λx=>x.getD u 0=0) (by simp) w.2.2.2.2.1.length u;exact this⟩
 |i+1,h=>by
  have g:=Hp I i (by omega);obtain⟨M,J⟩:=Nf g;have ht:=(MT I (show i<l.length by omega)).th;rw[Hn w (by omega)];refine ⟨og.step Gd.jl (g.a.mono λx h=>h.succ) _ M,λu=>?_⟩;rw[ahk,O9];by_cases hu:(pg l i).th=u
  .subst hu;rw[aI ⟨rfl,ht⟩,J,Gj];omega
  .rw[aC λq=>hu q.1,g.t u,zl,aC hu]
theorem Ng {w:WT} {l:List ET} (I:TR (w,l)) {i:Nat} (h:i<l.length):(FL w l i).getD (pg l i).th 0=(zl l (pg l i).th i:Int)+1:=(Nf (Hp I i (by omega))).2
theorem Qv {w:WT} {l:List ET} (I:TR (w,l)) {i:Nat} (h:i<l.length):Gd w l (i+1) (FL w l i):=(Nf (Hp I i (by omega))).1
def Vi (w:WT) (l:List ET) (k j:Nat):Prop:=(zl l (pg l k).th k:Int)+1<=(FL w l j).getD (pg l k).th 0
theorem Vi.le {w:WT} {l:List ET} (I:TR (w,l)) {k j:Nat} (hk:k<=j) (hj:j<l.length) (h:Vi w l k j):LE (FL w l k) (FL w l j):=(Qv I hj).dn k (by omega) h
theorem Vi.of {w:WT} {l:List ET} (I:TR (w,l)) {k j:Nat} (hk:k<l.length) (h:LE (FL w l k) (FL w l j)):Vi w l k j:=by
 have:=h.2 (pg l k).th;rw[Ng I hk] at this;exact this
theorem Vi.own {w:WT} {l:List ET} (I:TR (w,l)) {k j:Nat} (hk:k<j) (hj:j<l.length) (h:(pg l k).th=(pg l j).th):Vi w l k j:=by
 unfold Vi;rw[h,Ng I hj];have:=Th l (pg l k).th (show k+1<=j from hk);rw[Gj,h] at this;omega
theorem Vi.trans {w:WT} {l:List ET} (I:TR (w,l)) {i j k:Nat} (hi:i<=j) (hj:j<=k) (hk:k<l.length) (h:Vi w l i j) (g:Vi w l j k):Vi w l i k:=Vi.of I (by omega) ((h.le I hi (by omega)).trans (g.le I hj hk))
def Q8 (r:List Int):Prop:=FX r/\∀ z∈r,0<=z/\z<4
def P8 (s:List (Int×List Int)):Prop:=∀ x∈s,Q8 x.2
theorem P8.get {s:List (Int×List Int)} (h:P8 s) (o:Int):Q8 (aH (T:=yV) s o).2:=by
 unfold aH;rw[ax];cases e:s[o.toNat]? with
 |none=>exact⟨trivial,λz I=>by cases I⟩
 |some x=>exact h x (a8 e)
theorem P8.set {s:List (Int×List Int)} (h:P8 s) (o a:Int) {r:List Int} (hr:Q8 r):P8 (cJ s o (a,r)):=λx I=>by
 rcases Bp I with I|rfl
 .exact h x I
 .exact hr
theorem AU (p:Int->Bool):∀ {l:List Int},FX l->FX (l.filter p)
 |[],_=>trivial
 |x::r,h=>by
  rw[List.filter_cons];split
  .exact⟨λy I=>h.1 y ((D'.1 I).1),AU p h.2⟩
  .exact AU p h.2
theorem P8.ite {c:Prop} [Decidable c] {a b:SY×Int} (I:P8 a.1.1) (hb:P8 b.1.1):P8 (if c then a else b).1.1:=by by_cases h:c<;>simp[h,I,hb]
theorem P8.ap {w:WT} {s:SY} (h:P8 s.1) {t:Int} (k o v:Int) (t0:0<=t) (J:t<4):P8 (uC w s t k o v).1.1:=by
 have ow:∀ a b,P8 (owP s.1 a b):=λa b=>h.set a b (h.get a)
 have un:P8 (rdP s.1 o (vS (aH (T:=yV) s.1 o).2 [t])):=h.set _ _ ⟨NS _ _,λz I=>by
  rcases Gv.1 I with I|I
  .exact (h.get o).2 z I
  .rw[aK] at I;subst I;exact⟨t0,J⟩⟩
 have wt:P8 (rdP s.1 o (wo (aH (T:=yV) s.1 o).2 t)):=h.set _ _ ⟨AU _ (h.get o).1,λz I=>(h.get o).2 z (D'.1 I).1⟩;unfold uC;exact P8.ite h (P8.ite h (P8.ite (ow _ _) (P8.ite (ow _ _) (P8.ite un (P8.ite wt (P8.ite h (P8.ite h (P8.ite h (P8.ite h (P8.ite (ow _ _) (P8.ite (ow _ _) (P8.ite (P8.ite h h) (P8.ite h (P8.ite h (P8.ite h h)))))))))))))))
def ie (w:WT) (l:List ET):SN:=l.foldl (ZR w) (sn8 w)
theorem KP (w:WT) {l:List ET} {i:Nat} (h:i<l.length):ie w (l.take (i+1))=ZR w (ie w (l.take i)) (eN l i):=by
 rw[nC (T:=tE) h];unfold ie;rw[fe];rfl
structure K8 (w:WT) (l:List ET) (i:Nat) (s:SN):Prop where
 a:(s.1,s.2.1,s.2.2.1)=Vb w (l.take i)
 r:P8 s.1.1
 c:s.2.1.length=w.1.length
 f:s.2.2.1.length=w.2.2.2.1.length
 k:s.2.2.2.length=w.2.2.2.2.1.length
 n:CN (l.take i) s.2.2.2
theorem Ue {w:WT} {l:List ET} (I:TR (w,l)):∀ i:Nat,i<=l.length->K8 w l i (ie w (l.take i))
 |0,_=>⟨rfl,λx M=>by rw[vO M];exact⟨trivial,λz J=>by cases J⟩,by simp[ie,Y4],by simp[ie,ZT],by simp[ie],λt t0 t1=>by
   have:(aE w.2.2.2.2.1.length (0:Int)).getD t.toNat 0=0:=by rw[ax,pY];split<;>rfl
   exact this⟩
 |i+1,h=>by
  obtain⟨a,r,c,f,k,n⟩:=Ue I i (by omega);have sc:=I.sc (i:=i) (by omega);have hl:=I.len;have ht:=I.wb.t;dsimp only at hl ht;have en:=sc.en;have e1:=en.t1;have htk:=pl i l;rw[KP w (by omega)];refine ⟨?_,r.ap _ _ _ en.t0 (by omega),?_,?_,?_,?_⟩
  .rw[Zh w (by omega),<-a];rfl
  .unfold ZR Wy;dsimp only;split
   .rw[bT];exact c
   .exact c
  .unfold ZR Xv;dsimp only;split
   .rw[bT];exact f
   .exact f
  .unfold ZR;rw[bT];exact k
  .have:=n.next (eN l i) en.t0 (by rw[k];exact e1) (by omega);rw[nC (T:=tE) (show i<l.length by omega)];exact this
theorem L8 {w:WT} {l:List ET} (I:TR (w,l)) {i:Nat} (hi:i<l.length):fw (w,ie w (l.take i),eN l i)=aa (ie w (l.take (i+1)),ah):=by
 obtain⟨a,r,c,f,k,n⟩:=Ue I i (by omega);have sc:=I.sc hi;have J:=I.wx;have ht:=I.wb.t;have hls:=I.ls _ (H9 hi);dsimp only at J ht hls;rw[KP w hi];rw[<- a] at sc;generalize ie w (l.take i)=s at*
 generalize eN l i=e at*
 have en:=sc.en;have e1:=en.t1;have l3:w.2.1.length=3:=by rw[J.l];rfl
 have M:=n e.1 en.t0 (by rw[k];exact e1);have b1:=I.wb.c;have Z:=I.wb.f;have b3:=I.wb.d;dsimp only at b1 Z b3;have q1:=en.e1;have Y:=en.e2;have q3:=en.e3;dsimp only at q1 Y q3;refine aia (n:=4) w s e ⟨⟨by omega,by omega,λx U=>?_,by omega,by omega⟩,by omega,by omega,by omega⟩ (by omega) (by omega) ⟨c,f,k⟩ en ⟨sc.rd,sc.s1,sc.s2,sc.de,sc.fr,by rw[M];exact sc.nd,by rw[M];exact sc.nf,sc.va⟩ hls.1 hls.2 (λh=>?_) (by omega) r (by omega)
 .have:=Ns x.2 0 4 (r x U).1 (r x U).2;omega
 .have o1:=en.nm.lk (by omega);have o2:=en.nm.rw (by omega);generalize e.2.2.1=o at o1 o2;rw[J.l] at o1 o2;have:o=0\/o=1\/o=2:=by have:Fi.length=3:=rfl;omega
  rcases this with rfl|rfl|rfl
  .cases o2
  .cases o2
  .rfl
abbrev fN (l:List ET) (i:Nat) (t:Int):List Bool:=fl (l.take i) t
theorem MP {l:List ET} {i:Nat} (h:i<l.length) {t:Int} (e:(eN l i).1=t):fN l (i+1) t=fN l i t++[rZ (eN l i)]:=by
 unfold fN;rw[nC (T:=tE) h,tf,xV e]
theorem MQ {l:List ET} {i:Nat} (h:i<l.length) {t:Int} (e:¬(eN l i).1=t):fN l (i+1) t=fN l i t:=by
 unfold fN;rw[nC (T:=tE) h,tf,vn e,lm]
theorem F6 {w:WT} {l:List ET} (I:TR (w,l)) {i:Nat} (hi:i<l.length) {t:Int} (e:(eN l i).1=t):b_ (fN l i t,eN l i)=aa ah:=by
 have sc:=I.sc hi;have hls:=I.ls _ (H9 hi);subst e;exact WD _ _ sc.rd1 sc.rd2 hls.1 hls.2
theorem MR (l:List ET) (i:Nat) (t:Int):(fN l i t).length<=l.length:=c_ (UL _ _) (List.length_take_le' ..)
theorem ZL {w:WT} {l:List ET} (I:TR (w,l)) (hn:w.2.2.2.2.1.length=4):dT (w,l)=aa (0,0):=by
 have hl:=I.len;dsimp only at hl;refine cE ?_;unfold dT jt aV bk bt ct eo kc bI eU l7 pj bc bu bA bF aU cK aD cw;refine fA (fR.2 (by dsimp only[ar];omega)) (aT (VW8 I.wx I.vl) (fK (aT (AW I.wx) (ba (by show (cR 0 (aN w.2.2.2.2.1.length)&&cR (aN w.2.2.2.2.1.length) (aN w.2.2.2.2.1.length)&&a_ (aR (aN w.2.2.2.2.1.length)) 24&&decide ((aN w.2.2.2.2.1.length:Int)=4))=ah;rw[hn];rfl) ?_))));refine iU l.length (by omega) (λi x=>x=((i:Int),(w,l),ie w (l.take i),fN l i 0,fN l i 1,fN l i 2,fN l i 3)) ?_ ?_ rfl
 .rintro i x hi rfl;have e1:=(I.sc hi).en.t1;have e0:=(I.sc hi).en.t0;have st:=L8 I hi;have fa:=λt=>MR l i t
  have rd:=λt=>F6 I hi (t:=t)
  have own:=λt=>MP hi (t:=t)
  have oth:=λt=>MQ hi (t:=t)
  refine dz ?_;refine cC (aS ?_);have ht:(eN l i).1=0\/(eN l i).1=1\/(eN l i).1=2\/(eN l i).1=3:=by omega
  have hg:aH (T:=tE) l (i:Int)=eN l i:=rfl;dsimp only;rw[hg];generalize eN l i=e at*
  refine aT st ?_;obtain⟨(t:Int),e⟩:=e;dsimp only at ht;rcases ht with rfl|rfl|rfl|rfl
  .refine aX (λx=>x=(ai,(w,l),ie w (l.take i),(0,e),ie w (l.take (i+1)),fN l i 0,fN l i 1,fN l i 2,fN l i 3)) ?_ ?_
   .simp only[aW,bi,rR];exact aT (rd 0 rfl) (al rfl)
   rintro x rfl;refine fK (aX (λx=>x=((w,l),ie w (l.take i),ie w (l.take (i+1)),fN l (i+1) 0,fN l (i+1) 1,fN l (i+1) 2,fN l (i+1) 3)) ?_ ?_)
   .simp only[aW,bi,rR];rw[own 0 rfl,oth 1 (by show ¬(0:Int)=1;decide),oth 2 (by show ¬(0:Int)=2;decide),oth 3 (by show ¬(0:Int)=3;decide)];have:=fa 0;refine aJ (λh=>bg (by simp;omega) (by omega) (al ?_)) λh=>bg (by simp;omega) (by omega) (al ?_)
    .have:rZ (0,e)=ah:=by unfold rZ;rw[aP h];rfl
     rw[this]
    .have:rZ (0,e)=decide (e.1=23):=by unfold rZ;rw[bM h];rfl
     rw[this]
   rintro x rfl;exact al (by rw[gL (by omega)])
  .refine aX (λx=>x=(ai,(w,l),ie w (l.take i),(1,e),ie w (l.take (i+1)),fN l i 0,fN l i 1,fN l i 2,fN l i 3)) ?_ ?_
   .simp only[aW,bi,rR];exact aT (rd 1 rfl) (al rfl)
   rintro x rfl;refine fK (aX (λx=>x=((w,l),ie w (l.take i),ie w (l.take (i+1)),fN l (i+1) 0,fN l (i+1) 1,fN l (i+1) 2,fN l (i+1) 3)) ?_ ?_)
   .simp only[aW,bi,rR];rw[own 1 rfl,oth 0 (by show ¬(1:Int)=0;decide),oth 2 (by show ¬(1:Int)=2;decide),oth 3 (by show ¬(1:Int)=3;decide)];have:=fa 1;refine aJ (λh=>bg (by simp;omega) (by omega) (al ?_)) λh=>bg (by simp;omega) (by omega) (al ?_)
    .have:rZ (1,e)=ah:=by unfold rZ;rw[aP h];rfl
     rw[this]
    .have:rZ (1,e)=decide (e.1=23):=by unfold rZ;rw[bM h];rfl
     rw[this]
   rintro x rfl;exact al (by rw[gL (by omega)])
  .refine aX (λx=>x=(ai,(w,l),ie w (l.take i),(2,e),ie w (l.take (i+1)),fN l i 0,fN l i 1,fN l i 2,fN l i 3)) ?_ ?_
   .simp only[aW,bi,rR];exact aT (rd 2 rfl) (al rfl)
   rintro x rfl;refine fK (aX (λx=>x=((w,l),ie w (l.take i),ie w (l.take (i+1)),fN l (i+1) 0,fN l (i+1) 1,fN l (i+1) 2,fN l (i+1) 3)) ?_ ?_)
   .simp only[aW,bi,rR];rw[own 2 rfl,oth 0 (by show ¬(2:Int)=0;decide),oth 1 (by show ¬(2:Int)=1;decide),oth 3 (by show ¬(2:Int)=3;decide)];have:=fa 2;refine aJ (λh=>bg (by simp;omega) (by omega) (al ?_)) λh=>bg (by simp;omega) (by omega) (al ?_)
    .have:rZ (2,e)=ah:=by unfold rZ;rw[aP h];rfl
     rw[this]
    .have:rZ (2,e)=decide (e.1=23):=by unfold rZ;rw[bM h];rfl
     rw[this]
   rintro x rfl;exact al (by rw[gL (by omega)])
  .refine aX (λx=>x=(ai,(w,l),ie w (l.take i),(3,e),ie w (l.take (i+1)),fN l i 0,fN l i 1,fN l i 2,fN l i 3)) ?_ ?_
   .simp only[aW,bi,rR];exact aT (rd 3 rfl) (al rfl)
   rintro x rfl;refine fK (aX (λx=>x=((w,l),ie w (l.take i),ie w (l.take (i+1)),fN l (i+1) 0,fN l (i+1) 1,fN l (i+1) 2,fN l (i+1) 3)) ?_ ?_)
   .simp only[aW,bi,rR];rw[own 3 rfl,oth 0 (by show ¬(3:Int)=0;decide),oth 1 (by show ¬(3:Int)=1;decide),oth 2 (by show ¬(3:Int)=2;decide)];have:=fa 3;refine aJ (λh=>bg (by simp;omega) (by omega) (al ?_)) λh=>bg (by simp;omega) (by omega) (al ?_)
    .have:rZ (3,e)=ah:=by unfold rZ;rw[aP h];rfl
     rw[this]
    .have:rZ (3,e)=decide (e.1=23):=by unfold rZ;rw[bM h];rfl
     rw[this]
   rintro x rfl;exact al (by rw[gL (by omega)])
 .rintro x rfl;exact du (al rfl)
theorem D9 {w:WT} {l:List ET} (I:TR (w,l)) (hn:¬w.2.2.2.2.1.length=4):dT (w,l)=af:=by
 have hl:=I.len;dsimp only at hl;unfold dT jt aV bk bt ct eo kc bI eU l7 pj bc bu bA bF aU cK aD cw;rw[show fG 400 (aN (ak (w,l).2))=ai from fR.2 (by dsimp only[ar];omega)];simp only[aW,bi,rR];rw[VW8 I.wx I.vl];simp only[aW,bi,rR];rw[AW I.wx];simp only[aW,bi,rR];rw[show decide ((aN w.2.2.2.2.1.length:Int)=4)=ai from bM (by dsimp only[ar];omega),Bool.and_false];rfl
theorem ZM {w:WT} {l:List ET} (I:TR (w,l)) (hn:w.2.2.2.2.1.length=3):dB (w,l)=aa (0,0):=by
 have hl:=I.len;dsimp only at hl;refine cE ?_;unfold dB ju aV bk bt ct eo bI cQ eU l7 bc bu bA bF aU cK aD cw;refine fA (fR.2 (by dsimp only[ar];omega)) (aT (VW8 I.wx I.vl) (fK (aT (AW I.wx) (ba (by show (cR 0 (aN w.2.2.2.2.1.length)&&cR (aN w.2.2.2.2.1.length) (aN w.2.2.2.2.1.length)&&a_ (aR (aN w.2.2.2.2.1.length)) 24&&decide ((aN w.2.2.2.2.1.length:Int)=3))=ah;rw[hn];rfl) ?_))));refine iU l.length (by omega) (λi x=>x=((i:Int),(w,l),ie w (l.take i),fN l i 0,fN l i 1,fN l i 2)) ?_ ?_ rfl
 .rintro i x hi rfl;have e1:=(I.sc hi).en.t1;have e0:=(I.sc hi).en.t0;have st:=L8 I hi;have fa:=λt=>MR l i t
  have rd:=λt=>F6 I hi (t:=t)
  have own:=λt=>MP hi (t:=t)
  have oth:=λt=>MQ hi (t:=t)
  refine dz ?_;refine cC (aS ?_);have ht:(eN l i).1=0\/(eN l i).1=1\/(eN l i).1=2:=by omega
  have hg:aH (T:=tE) l (i:Int)=eN l i:=rfl;dsimp only;rw[hg];generalize eN l i=e at*
  refine aT st ?_;obtain⟨(t:Int),e⟩:=e;dsimp only at ht;rcases ht with rfl|rfl|rfl
  .refine aX (λx=>x=(ai,(w,l),ie w (l.take i),(0,e),ie w (l.take (i+1)),fN l i 0,fN l i 1,fN l i 2)) ?_ ?_
   .simp only[aW,bi,rR];exact aT (rd 0 rfl) (al rfl)
   rintro x rfl;refine fK (aX (λx=>x=((w,l),ie w (l.take i),ie w (l.take (i+1)),fN l (i+1) 0,fN l (i+1) 1,fN l (i+1) 2)) ?_ ?_)
   .simp only[aW,bi,rR];rw[own 0 rfl,oth 1 (by show ¬(0:Int)=1;decide),oth 2 (by show ¬(0:Int)=2;decide)];have:=fa 0;refine aJ (λh=>bg (by simp;omega) (by omega) (al ?_)) λh=>bg (by simp;omega) (by omega) (al ?_)
    .have:rZ (0,e)=ah:=by unfold rZ;rw[aP h];rfl
     rw[this]
    .have:rZ (0,e)=decide (e.1=23):=by unfold rZ;rw[bM h];rfl
     rw[this]
   rintro x rfl;exact al (by rw[gL (by omega)])
  .refine aX (λx=>x=(ai,(w,l),ie w (l.take i),(1,e),ie w (l.take (i+1)),fN l i 0,fN l i 1,fN l i 2)) ?_ ?_
   .simp only[aW,bi,rR];exact aT (rd 1 rfl) (al rfl)
   rintro x rfl;refine fK (aX (λx=>x=((w,l),ie w (l.take i),ie w (l.take (i+1)),fN l (i+1) 0,fN l (i+1) 1,fN l (i+1) 2)) ?_ ?_)
   .simp only[aW,bi,rR];rw[own 1 rfl,oth 0 (by show ¬(1:Int)=0;decide),oth 2 (by show ¬(1:Int)=2;decide)];have:=fa 1;refine aJ (λh=>bg (by simp;omega) (by omega) (al ?_)) λh=>bg (by simp;omega) (by omega) (al ?_)
    .have:rZ (1,e)=ah:=by unfold rZ;rw[aP h];rfl
     rw[this]
    .have:rZ (1,e)=decide (e.1=23):=by unfold rZ;rw[bM h];rfl
     rw[this]
   rintro x rfl;exact al (by rw[gL (by omega)])
  .refine aX (λx=>x=(ai,(w,l),ie w (l.take i),(2,e),ie w (l.take (i+1)),fN l i 0,fN l i 1,fN l i 2)) ?_ ?_
   .simp only[aW,bi,rR];exact aT (rd 2 rfl) (al rfl)
   rintro x rfl;refine fK (aX (λx=>x=((w,l),ie w (l.take i),ie w (l.take (i+1)),fN l (i+1) 0,fN l (i+1) 1,fN l (i+1) 2)) ?_ ?_)
   .simp only[aW,bi,rR];rw[own 2 rfl,oth 0 (by show ¬(2:Int)=0;decide),oth 1 (by show ¬(2:Int)=1;decide)];have:=fa 2;refine aJ (λh=>bg (by simp;omega) (by omega) (al ?_)) λh=>bg (by simp;omega) (by omega) (al ?_)
    .have:rZ (2,e)=ah:=by unfold rZ;rw[aP h];rfl
     rw[this]
    .have:rZ (2,e)=decide (e.1=23):=by unfold rZ;rw[bM h];rfl
     rw[this]
   rintro x rfl;exact al (by rw[gL (by omega)])
 .rintro x rfl;exact du (al rfl)
theorem LU {w:WT} {l:List ET} (I:TR (w,l)) (hn:¬w.2.2.2.2.1.length=3):dB (w,l)=af:=by
 have hl:=I.len;dsimp only at hl;unfold dB ju aV bk bt ct eo bI cQ eU l7 bc bu bA bF aU cK aD cw;rw[show fG 400 (aN (ak (w,l).2))=ai from fR.2 (by dsimp only[ar];omega)];simp only[aW,bi,rR];rw[VW8 I.wx I.vl];simp only[aW,bi,rR];rw[AW I.wx];simp only[aW,bi,rR];rw[show decide ((aN w.2.2.2.2.1.length:Int)=3)=ai from bM (by dsimp only[ar];omega),Bool.and_false];rfl
theorem ZN {w:WT} {l:List ET} (I:TR (w,l)) (hn:w.2.2.2.2.1.length=2):c8 (w,l)=aa (0,0):=by
 have hl:=I.len;dsimp only at hl;refine cE ?_;unfold c8 jv aV bk bt ct bI di eU bc bu bA bF aU cK aD cw;refine fA (fR.2 (by dsimp only[ar];omega)) (aT (VW8 I.wx I.vl) (fK (aT (AW I.wx) (ba (by show (cR 0 (aN w.2.2.2.2.1.length)&&cR (aN w.2.2.2.2.1.length) (aN w.2.2.2.2.1.length)&&a_ (aR (aN w.2.2.2.2.1.length)) 24&&decide ((aN w.2.2.2.2.1.length:Int)=2))=ah;rw[hn];rfl) ?_))));refine iU l.length (by omega) (λi x=>x=((i:Int),(w,l),ie w (l.take i),fN l i 0,fN l i 1)) ?_ ?_ rfl
 .rintro i x hi rfl;have e1:=(I.sc hi).en.t1;have e0:=(I.sc hi).en.t0;have st:=L8 I hi;have fa:=λt=>MR l i t
  have rd:=λt=>F6 I hi (t:=t)
  have own:=λt=>MP hi (t:=t)
  have oth:=λt=>MQ hi (t:=t)
  refine dz ?_;refine cC (aS ?_);have ht:(eN l i).1=0\/(eN l i).1=1:=by omega
  have hg:aH (T:=tE) l (i:Int)=eN l i:=rfl;dsimp only;rw[hg];generalize eN l i=e at*
  refine aT st ?_;obtain⟨(t:Int),e⟩:=e;dsimp only at ht;rcases ht with rfl|rfl
  .refine aX (λx=>x=(ai,(w,l),ie w (l.take i),(0,e),ie w (l.take (i+1)),fN l i 0,fN l i 1)) ?_ ?_
   .simp only[aW,bi,rR];exact aT (rd 0 rfl) (al rfl)
   rintro x rfl;refine fK (aX (λx=>x=((w,l),ie w (l.take i),ie w (l.take (i+1)),fN l (i+1) 0,fN l (i+1) 1)) ?_ ?_)
   .simp only[aW,bi,rR];rw[own 0 rfl,oth 1 (by show ¬(0:Int)=1;decide)];have:=fa 0;refine aJ (λh=>bg (by simp;omega) (by omega) (al ?_)) λh=>bg (by simp;omega) (by omega) (al ?_)
    .have:rZ (0,e)=ah:=by unfold rZ;rw[aP h];rfl
     rw[this]
    .have:rZ (0,e)=decide (e.1=23):=by unfold rZ;rw[bM h];rfl
     rw[this]
   rintro x rfl;exact al (by rw[gL (by omega)])
  .refine aX (λx=>x=(ai,(w,l),ie w (l.take i),(1,e),ie w (l.take (i+1)),fN l i 0,fN l i 1)) ?_ ?_
   .simp only[aW,bi,rR];exact aT (rd 1 rfl) (al rfl)
   rintro x rfl;refine fK (aX (λx=>x=((w,l),ie w (l.take i),ie w (l.take (i+1)),fN l (i+1) 0,fN l (i+1) 1)) ?_ ?_)
   .simp only[aW,bi,rR];rw[own 1 rfl,oth 0 (by show ¬(1:Int)=0;decide)];have:=fa 1;refine aJ (λh=>bg (by simp;omega) (by omega) (al ?_)) λh=>bg (by simp;omega) (by omega) (al ?_)
    .have:rZ (1,e)=ah:=by unfold rZ;rw[aP h];rfl
     rw[this]
    .have:rZ (1,e)=decide (e.1=23):=by unfold rZ;rw[bM h];rfl
     rw[this]
   rintro x rfl;exact al (by rw[gL (by omega)])
 .rintro x rfl;exact du (al rfl)
theorem Xr {w:WT} {l:List ET} (I:TR (w,l)) (hn:¬w.2.2.2.2.1.length=2):c8 (w,l)=af:=by
 have hl:=I.len;dsimp only at hl;unfold c8 jv aV bk bt ct bI di eU bc bu bA bF aU cK aD cw;rw[show fG 400 (aN (ak (w,l).2))=ai from fR.2 (by dsimp only[ar];omega)];simp only[aW,bi,rR];rw[VW8 I.wx I.vl];simp only[aW,bi,rR];rw[AW I.wx];simp only[aW,bi,rR];rw[show decide ((aN w.2.2.2.2.1.length:Int)=2)=ai from bM (by dsimp only[ar];omega),Bool.and_false];rfl
theorem ZO {w:WT} {l:List ET} (I:TR (w,l)) (hn:w.2.2.2.2.1.length=1):dU (w,l)=aa (0,0):=by
 have hl:=I.len;dsimp only at hl;refine cE ?_;unfold dU kZ aV bk bt bI cQ bc bu bA bF aU cK aD cw;refine fA (fR.2 (by dsimp only[ar];omega)) (aT (VW8 I.wx I.vl) (fK (aT (AW I.wx) (ba (by show (cR 0 (aN w.2.2.2.2.1.length)&&cR (aN w.2.2.2.2.1.length) (aN w.2.2.2.2.1.length)&&a_ (aR (aN w.2.2.2.2.1.length)) 24&&decide ((aN w.2.2.2.2.1.length:Int)=1))=ah;rw[hn];rfl) ?_))));refine iU l.length (by omega) (λi x=>x=((i:Int),(w,l),ie w (l.take i),fN l i 0)) ?_ ?_ rfl
 .rintro i x hi rfl;have e1:=(I.sc hi).en.t1;have e0:=(I.sc hi).en.t0;have st:=L8 I hi;have fa:=λt=>MR l i t
  have rd:=λt=>F6 I hi (t:=t)
  have own:=λt=>MP hi (t:=t)
  have oth:=λt=>MQ hi (t:=t)
  refine dz ?_;refine cC (aS ?_);have ht:(eN l i).1=0:=by omega
  have hg:aH (T:=tE) l (i:Int)=eN l i:=rfl;dsimp only;rw[hg];generalize eN l i=e at*
  refine aT st ?_;obtain⟨(t:Int),e⟩:=e;dsimp only at ht;subst ht
  .refine aX (λx=>x=(ai,(w,l),ie w (l.take i),(0,e),ie w (l.take (i+1)),fN l i 0)) ?_ ?_
   .simp only[aW,bi,rR];exact aT (rd 0 rfl) (al rfl)
   rintro x rfl;refine fK (aX (λx=>x=((w,l),ie w (l.take i),ie w (l.take (i+1)),fN l (i+1) 0)) ?_ ?_)
   .simp only[aW,bi,rR];rw[own 0 rfl];have:=fa 0;refine aJ (λh=>bg (by simp;omega) (by omega) (al ?_)) λh=>bg (by simp;omega) (by omega) (al ?_)
    .have:rZ (0,e)=ah:=by unfold rZ;rw[aP h];rfl
     rw[this]
    .have:rZ (0,e)=decide (e.1=23):=by unfold rZ;rw[bM h];rfl
     rw[this]
   rintro x rfl;exact al (by rw[gL (by omega)])
 .rintro x rfl;exact du (al rfl)
theorem agk {w:WT} {l:List ET} (I:TR (w,l)):l8 (w,l)=aa (0,0):=by
 have h1:=I.vl.t0;have J:=I.vl.t;dsimp only at h1 J;unfold l8;have:w.2.2.2.2.1.length=4\/w.2.2.2.2.1.length=3\/w.2.2.2.2.1.length=2\/w.2.2.2.2.1.length=1:=by omega
 rcases this with h|h|h|h
 .rw[ZL I h];rfl
 .rw[D9 I (by omega),ZM I h];rfl
 .rw[D9 I (by omega),LU I (by omega),ZN I h];rfl
 .rw[D9 I (by omega),LU I (by omega),Xr I (by omega),ZO I h];rfl
theorem XN {w:WT} {l:List ET} (I:TR (w,l)):o8 w=aa (HS.zero w).t:=by
 have wb:=I.wb;dsimp only at wb;exact Zr w (by have:=wb.c;unfold uB;omega) (by have:=wb.l;unfold uB;omega) (by have:=wb.f;unfold uB;omega) (by have:=wb.t;unfold uB;omega)
theorem Z4 {w:WT} {l:List ET} (I:TR (w,l)) {i:Nat} (hi:i<l.length):rk (w,(OD w (l.take i)).t,eN l i)=aa ((OD w (l.take (i+1))).t,FL w l i):=by
 have hl:=I.len;dsimp only at hl;have:=abx (Ho I i (by omega)).1 (by omega) (MT I hi) (YL I hi);rw[Hn w hi];exact this
def tA {α:Type} (n:Nat) (f:Nat->α) (z:α) (i:Nat):List α:=(eg n).map λk=>if k<i then f k else z
theorem L5 {α:Type} (n:Nat) (f:Nat->α) (z:α) (i:Nat):(tA n f z i).length=n:=by simp[tA]
theorem XK {α:Type} {n:Nat} {f:Nat->α} {z:α} {i:Nat} (h:i<n):(tA n f z i).set i (f i)=tA n f z (i+1):=by
 unfold tA;apply c6
 .simp
 intro k h1 h2;simp only[rC,bS,ic] at h1;rw[pX];simp only[mg,j8];by_cases e:i=k
 .subst e;rw[aI rfl,aI (by omega)]
 .rw[aC e];by_cases g:k<i
  .rw[aI g,aI (by omega)]
  .rw[aC g,aC (by omega)]
theorem Ua {α:Type} (n:Nat) (f:Nat->α) (z:α):tA n f z 0=aE n z:=by unfold tA;simp[List.map_const']
theorem XL {α:Type} (n:Nat) (f:Nat->α) (z:α):tA n f z n=(eg n).map f:=lK λk hk=>by rw[aI (mS.1 hk)]
abbrev csN (w:WT) (l:List ET):List (List Int):=(eg l.length).map (FL w l)
theorem ab3 {w:WT} {l:List ET} {i:Nat} (h:i<l.length):(csN w l).getD i []=FL w l i:=by
 rw[ax,aZ,uK h];rfl
theorem PN {w:WT} {l:List ET} {i:Nat} (h:i<l.length):aH (T:=.sl (.int .i64)) (csN w l) (i:Int)=FL w l i:=by rw[qF];exact ab3 h
theorem LS {w:WT} {l:List ET} (I:TR (w,l)):kW (w,l)=aa (csN w l,0):=by
 have hl:=I.len;dsimp only at hl;refine cE ?_;unfold kW ww aV bI ck bu iL bA bF aU cK aD cw;refine aT (agk I) (fK (aT (XN I) (cZ (cZ (dV (by dsimp only[ar];omega) (dV (by omega) (bg (by simp;omega) (by omega) ?_)))))));refine iU l.length (by omega) (λi x=>x=((i:Int),(w,l),(OD w (l.take i)).t,tA l.length (FL w l) [] i)) ?_ ?_ ?_
 .rintro i x hi rfl;refine dz ?_;refine cC (aS ?_);refine aT (Z4 I hi) ?_;refine aQ (by dsimp only;omega) (by dsimp only;rw[L5];omega) (aQ (by dsimp only;omega) (by dsimp only;rw[L5];omega) (al ?_));dsimp only;rw[gL (by omega),fy,XK hi]
 .rintro x rfl;refine du (al ?_);dsimp only;rw[XL]
 .show _=_;rw[Ua];rfl
abbrev Ke0:Ty:=(.st (.pr CR (.pr CR CR)))
def sY (x:(dL×List gB)×Int×Int):Option (Bool):=
 (jn (α:=Bool×dL×List gB) (bu x.2.1 0 (aD (ah,x.1)) (jC x.2.2 x.2.1 (aD (ah,x.1)) (aD ((cR (aU x.1.2) x.2.2),x.1)))) λx1=>(bcase x1.1 (aa ai) (obind (kW x1.2) λI=>(iL I.2 0 (aa ai) (bF (.sl aM) I.1 x.2.2 λM=>(obind (mJ x1.2.2) λY=>(bF ip Y x.2.1 λJ=>(obind (lX (M,J)) λU=>(aa U)))))))))
def lA (x:((List Int)×(List Int)×List Int)×Int):Option (Bool):=
 (obind (kA (x.1,20)) λU=>(obind (kW U) λy2=>(jn (α:=Bool×dL×List gB) (iL y2.2 0 (aD (ah,U)) (aD ((!decide (((aU y2.1):Int)=(aU U.2))),U))) λI=>(bcase I.1 (aa ai) (bc (aU I.2.2) 0 (obind (pF ()) λy4=>(aa y4)) (bA (!decide (((aU I.2.2):Int)=0)) (bA (cR 0 (aU I.2.1.p4)&&cR (aU I.2.1.p4) (aU I.2.1.p4)&&a_ (aR (aU I.2.1.p4)) 8) (iter (σ:=Int×(dL×List gB)×List Int) (λJ=>(bu J.1 (aU I.2.2) (jn (α:=(dL×List gB)×List Int) (jn (α:=Bool×(dL×List gB)×List Int) (bc J.1 (p_ (be .i64 x.2) (aU I.2.2)) (aD (ah,J.2)) (obind (sY (J.2.1,J.1,(p_ (be .i64 x.2) (aU I.2.2)))) λy8=>(aD (y8,J.2)))) λM=>(bcase M.1 (bF iS M.2.1.2 J.1 λY=>(kj aM M.2.2 Y.1 λz10=>(ck (fD Y.1 (ak M.2.2)) (aD (M.2.1,(cJ M.2.2 Y.1 (cw z10))))))) (aD M.2))) λx6=>(cK ((cw J.1),x6))) (obind (jn (α:=Bool) (bF (.sl aM) y2.1 (p_ (be .i64 x.2) (aU I.2.2)) λZ=>(obind (uT (J.2.2,Z)) λy13=>(bcase y13 (obind (pF ()) λy14=>(aD y14)) (aD ai)))) λx11=>(aa x11)) λr=>aa (bZ r)))) (0,I.2,(aE (aR (aU I.2.1.p4)) (0:Int)))))))))))
theorem K5 (k j v:Int):∀ m:List (Int×Int),wT (K:=.int .i64) (V:=.int .i64) j (De (K:=.int .i64) (V:=.int .i64) k v m)=if j=k then aa v else wT (K:=.int .i64) (V:=.int .i64) j m
 |[]=>by
  show (if decide (j=k)=ah then aa v else af)=_;by_cases h:j=k<;>simp[h,wT]
 |(a,b)::r=>by
  have I:=K5 k j v r;show wT (K:=.int .i64) (V:=.int .i64) j (if decide (k=a)=ah then (k,v)::r else (a,b)::De (K:=.int .i64) (V:=.int .i64) k v r)=if j=k then aa v else if decide (j=a)=ah then aa b else wT (K:=.int .i64) (V:=.int .i64) j r
  by_cases h:k=a
  .subst h;rw[aI (aP rfl)];show (if decide (j=k)=ah then aa v else wT (K:=.int .i64) (V:=.int .i64) j r)=_;by_cases g:j=k<;>simp[g]
  .rw[aC (by simpa using h)];show (if decide (j=a)=ah then aa b else wT (K:=.int .i64) (V:=.int .i64) j (De (K:=.int .i64) (V:=.int .i64) k v r))=_;rw[I];by_cases g:j=a
   .subst g;rw[aI (aP rfl),aC λq=>h q.symm,aI (aP rfl)]
   .simp only[g,c5,co,dR]
theorem K4 (k j v d:Int) (m:List (Int×Int)):wS (K:=.int .i64) (V:=.int .i64) j (De (K:=.int .i64) (V:=.int .i64) k v m) d=if j=k then v else wS (K:=.int .i64) (V:=.int .i64) j m d:=by
 unfold wS;rw[K5];by_cases h:j=k<;>simp[h]
def epN (l:List ET) (i:Nat):Int×Int:=((zl l (pg l i).th i:Int)+1,((pg l i).th:Int))
theorem Qs (l:List ET) (u:Nat):∀ i,zl l u i<=i
 |0=>bO _
 |i+1=>by have:=Qs l u i;rw[zl];split<;>omega
theorem Wa {w:WT} {l:List ET} (I:TR (w,l)):mJ l=aa ((eg l.length).map (epN l)):=by
 have hl:=I.len;dsimp only at hl;refine cE ?_;unfold mJ wu ck bu bA bF aU cK aD cw;refine cZ (cZ (dV (by dsimp only[ar];omega) (dV (by omega) (bg (by simp;omega) (by omega) ?_))));refine iU l.length (by omega) (λi x=>x.1=(i:Int)/\(∀ u:Nat,wS (K:=.int .i64) (V:=.int .i64) (u:Int) x.2.1 0=(zl l u i:Int))/\x.2.2=tA l.length (epN l) (0,0) i) ?_ ?_ ⟨rfl,λu=>rfl,by rw[Ua];rfl⟩
 .rintro i ⟨x,m,r⟩ hi ⟨e1,hm,e2⟩;dsimp only at e1 hm e2;subst e1;subst e2;refine dz ?_;refine cC (aS ?_);have et:=YL I hi;refine aQ (by dsimp only;omega) (by dsimp only;rw[L5];omega) (aQ (by dsimp only;omega) (by dsimp only;rw[L5];omega) (al ?_));have hc:=Qs l (pg l i).th i;have J:(aH (T:=tE) l (i:Int)).1=((pg l i).th:Int):=et.th;have M:be .i64 (wS (K:=.int .i64) (V:=.int .i64) ((pg l i).th:Int) m 0+1)=(zl l (pg l i).th i:Int)+1:=by rw[hm];exact gU (by omega) (by omega)
  dsimp only;refine ⟨gL (by omega),λu=>?_,?_⟩
  .rw[J,M,K4,zl];by_cases q:(pg l i).th=u
   .subst q;rw[aI rfl,aI rfl];rfl
   .rw[aC (by omega),aC q];exact hm u
  .rw[J,M,K4,aI rfl,fy];exact XK (f:=epN l) hi
 .rintro⟨x,m,r⟩ ⟨e1,hm,e2⟩;dsimp only at e1 hm e2;subst e1;subst e2;refine du (al ?_);dsimp only;rw[XL]
theorem YN {l:List ET} {i:Nat} (h:i<l.length):aH (T:=.st (.pr (.int .i64) (.int .i64))) ((eg l.length).map (epN l)) (i:Int)=epN l i:=by
 rw[xq,ax,aZ,uK h];rfl
theorem T6 (c:List Int) (a:Int) (u:Nat):lX (c,a,(u:Int))=aa (decide (a<=c.getD u 0)):=by
 unfold lX;dsimp only;rw[AZ];rfl
def ZV (w:WT) (l:List ET) (i j:Int):Bool:=decide (0<=i/\i<j/\j<l.length/\(zl l (pg l i.toNat).th i.toNat:Int)+1<=(FL w l j.toNat).getD (pg l i.toNat).th 0)
theorem Np {w:WT} {l:List ET} {i j:Nat}:ZV w l (i:Int) (j:Int)=ah↔i<j/\j<l.length/\Vi w l i j:=by
 unfold ZV Vi;rw[bQ,fh,fh];exact⟨λh=>⟨by omega,by omega,h.2.2.2⟩,λh=>⟨by omega,by omega,by omega,h.2.2⟩⟩
theorem Xt {w:WT} {l:List ET} (I:TR (w,l)) (i j:Int):sY ((w,l),i,j)=aa (ZV w l i j):=by
 refine cE ?_;unfold sY bu jC iL bF aU aD;by_cases h:0<=i/\i<j/\j<l.length
 .obtain⟨h0,h1,h2⟩:=h;obtain⟨i,rfl⟩:∃ k:Nat,i=k:=⟨i.toNat,by omega⟩
  obtain⟨j,rfl⟩:∃ k:Nat,j=k:=⟨j.toNat,by omega⟩
  refine aX (λx=>x=(ai,w,l)) ?_ ?_
  .refine bB (λg=>by dsimp only at g;omega) λ_=>fm (λg=>by dsimp only at g;omega) λ_=>al ?_
   show (cR (aN l.length) (j:Int),w,l)=_;rw[kC.2 (by dsimp only[ar];omega)]
  rintro x rfl;refine fK (aT (LS I) (fK (aQ (by dsimp only;omega) (by dsimp only;rw[bS,ic];omega) (aS (aT (Wa I) (aQ (by dsimp only;omega) (by dsimp only;rw[bS,ic];omega) (aS ?_)))))));dsimp only;rw[PN (by omega),YN (by omega)];refine aT (T6 _ _ _) (al ?_);rw[Bool.eq_iff_iff,Np,bQ];exact⟨λh=>⟨by omega,by omega,h⟩,λh=>h.2.2⟩
 .refine aX (λx=>x=(ah,w,l)) ?_ ?_
  .refine bB (λg=>al rfl) λ_=>fm (λg=>al rfl) λ_=>al ?_
   rename_i M J;dsimp only at M J;show (cR (aN l.length) j,w,l)=_;rw[F'.2 (by dsimp only[ar];omega)]
  rintro x rfl;refine Om (al ?_)
  symm;unfold ZV;exact bM λq=>h ⟨q.1,q.2.1,q.2.2.1⟩
theorem I7:pF ()=aa ah:=by kernel_rfl
theorem eZ {φ:PM} {O:Nat->Prop} {w:World} {v u:Value} (h:cG φ O w (.f (.raw v)) u):u=v:=by
 cases h with
 |f h=>cases h;rfl
theorem sJ (h:HF) (nw:HF):eJ h [] nw=h:=by funext t;simp[eJ]
theorem Fd:∀ {l:List Value},I1 l=ah->∀ v∈l,v.oneCell'=ah
 |[],_,v,hv=>by cases hv
 |x::r,h,v,hv=>by
  simp only[I1,au] at h;rcases bh.1 hv with rfl|hv
  .exact h.1
  .exact Fd h.2 v hv
theorem Tf {φ:PM} {O:Nat->Prop} {w:World} (v:Value):cG φ O w (DR v) v:=by
 unfold DR;split
 .rename_i vs;split
  .rename_i h1;refine cG.agg (vs:=vs.toList) (by simp) (λx I=>?_) (λj x v I hv=>?_)
   .obtain⟨u,hu,rfl⟩:=dc.1 I;exact Fd h1 u hu
   .rw[aZ,hv] at I;simp only[b8,aj] at I;subst I;exact .f (.raw _)
  .exact .f (.raw _)
 .exact .f (.raw _)
theorem sj {φ:PM} {E:Nat->Prop} {h':HF} {w:World} {e:yA} {a:Act} {xs:Array Operand} (hrep:qh φ E h' w) (h:∀ t,.tmp t∈xs->∀ y,e.get t=aa y->cG φ (tot E φ h') w y (a.tmps.getD t undef)) {x:Operand} {y:AV} (J:x∈xs) (I:mh e x=aa y):cG φ (tot E φ h') w y (a.eval x):=by
 cases x with
 |tmp t=>exact h t J y I
 |const v=>simp only[mh,aj] at I;subst I;exact Tf v
 |func g=>
  simp only[mh,aj] at I;subst I;exact cG.clo (vs:=[]) (g:=g) (cells:=[]) rfl (by intro j x v J;simp at J)
 |global g=>
  simp only[mh] at I;cases hg:G g with
  |none=>rw[hg] at I;cases I
  |some cells=>rw[hg] at I;simp only[aj] at I;subst I;exact .f (hrep.gl g cells hg)
abbrev TZ (φ:PM) (E:Nat->Prop) (h':HF) (w:World) (a:Act) (e:yA) (o:Oper):Prop:=∀ x y,x∈o.op.operands->mh e x=aa y->cG φ (tot E φ h') w y (a.eval x)
theorem gz.reads {P:Program} {o:Oper} {e:yA} {h:HF} {val:AV} {rd:List Nat} {nw:HF}
 (hv:∀ (φ:PM) (E:Nat->Prop) (h':HF) (w:World) (a:Act),(∀ i∈rd,h' i=h i)->TZ φ E h' w a e o->qh φ E h' w->
   ∃ v,(execOp a.eval o).run P w= .ok (.value v) w/\cG φ (tot E φ h') w val v):gz P o e.get h ⟨val,rd,[],nw,[]⟩:=by
 intro φ E h' w a h1 h2 U I Y;obtain⟨v,r,rel⟩:=hv φ E h' w a h1 (λx y M J=>sj I U M J) I;unfold F0;rw[r];refine ⟨v,φ,rfl,?_,λ_ _ h=>.inl h,?_,?_⟩<;>rw[sJ]
 .exact iK.refl _ _ _
 .exact I
 .exact rel
theorem dj {x:AV} {R:AX} (h:rv x=aa R):R=⟨x,[],[],[],[]⟩:=by simp only[rv,aj] at h;exact h.symm
section pure
variable {P:Program} {o:Oper} {e:yA} {h:nB} {nx:Nat} {R:AX}
theorem ahw {x:Operand} (I:o.op= .move x\/o.op= .assign x) (J:eE (.mv x) e h nx=aa R):gz P o e.get h.get R.eff:=by
 simp only[eE] at J;split at J
 .rename_i v hv;rw[dj J];exact gz.reads λφ E h' w a _ hop _=>⟨a.eval x,by unfold execOp;rcases I with I|I<;>rw[I]<;>rfl,hop x v (by rcases I with I|I<;>rw[I]<;>simp[Op.operands]) hv⟩
 .cases J
theorem aew {c x y:Operand} (J:o.op= .pick c x y) (I:eE (.pick c x y) e h nx=aa R):gz P o e.get h.get R.eff:=by
 simp only[eE] at I;split at I
 .rename_i t hc;split at I
  .rename_i v hv;rw[dj I];refine gz.reads λφ E h' w a _ hop _=>?_
   have hcv:=eZ (hop c _ (by rw[J];simp[Op.operands]) hc);refine ⟨a.eval (if t then x else y),?_,hop _ v (by rw[J];cases t<;>simp[Op.operands]) hv⟩;unfold execOp;rw[J];simp only[hcv];cases t<;>rfl
  .cases I
 .cases I
theorem aex {x:Operand} (I:o.op= .nilCheck x) (J:eE (.nilc x) e h nx=aa R):gz P o e.get h.get R.eff:=by
 simp only[eE] at J;split at J
 .rename_i id off U;rw[dj J];refine gz.reads λφ E h' w a _ hop _=>?_
  have h1:=hop x _ (by rw[I];simp[Op.operands]) U;generalize M:a.eval x=z at h1;cases h1 with
  |ptr hφ=>exact⟨_,by unfold execOp;rw[I];simp only[M];rfl,.ptr hφ⟩
 .rename_i cells off U;rw[dj J];refine gz.reads λφ E h' w a _ hop _=>?_
  have h1:=hop x _ (by rw[I];simp[Op.operands]) U;generalize M:a.eval x=z at h1;cases h1 with
  |f h1=>
   have h2:=h1;cases h2 with
   |ptr _ _ b base us hO hb hcl hu hr=>exact⟨_,by unfold execOp;rw[I];simp only[M];rfl,.f h1⟩
 .rename_i g cap U;rw[dj J];refine gz.reads λφ E h' w a _ hop _=>?_
  have h1:=hop x _ (by rw[I];simp[Op.operands]) U;generalize M:a.eval x=z at h1;cases h1 with
  |clo hl hr=>exact⟨_,by unfold execOp;rw[I];simp only[M];rfl,.clo hl hr⟩
 .cases J
theorem ahu {x:Operand} {t:TypeId} (J:o.op= .unOp .not t x) (I:eE (.not x) e h nx=aa R):gz P o e.get h.get R.eff:=by
 simp only[eE] at I;split at I
 .rename_i b M;rw[dj I];refine gz.reads λφ E h' w a _ hop _=>?_
  have h1:=eZ (hop x _ (by rw[J];simp[Op.operands]) M);exact⟨_,by unfold execOp;rw[J];simp only[h1];rfl,.f (.raw _)⟩
 .cases I
theorem xz (k:IntKind) (n:Int):be k n=k.wrap n:=by
 rw[F3];unfold KH;split
 .split
  .rename_i h;simp only[cR,au,bQ] at h;have:oo .i64 n=if n%18446744073709551616≥9223372036854775808 then n%18446744073709551616-18446744073709551616 else n%18446744073709551616:=by
    simp[oo,IntKind.bits,IntKind.signed]
   rw[this];split<;>omega
  .rfl
 .split
  .rename_i h;simp only[cR,au,bQ] at h;have:oo .u8 n=n%256:=by
    simp[oo,IntKind.bits,IntKind.signed]
   rw[this];omega
  .rfl
 .rfl
theorem af5 {x:Operand} {s d:TypeId} {k k':IntKind} (J:o.op= .convert s d x) (hs:P.underlying s=aa (.int k')) (hd:P.underlying d=aa (.int k)) (I:eE (.conv k x) e h nx=aa R):gz P o e.get h.get R.eff:=by
 simp only[eE] at I;split at I
 .rename_i U n M;rw[dj I];refine gz.reads λφ E h' w a _ hop _=>?_
  have h1:=eZ (hop x _ (by rw[J];simp[Op.operands]) M);refine ⟨_,?_,.f (.raw _)⟩;unfold execOp;rw[J];simp[h1,convert,run_underlying hs,run_underlying hd,Conv.intToInt,xz]
 .cases I
theorem Nn (a:ByteArray):a.toList=a.data.toList:=by
 first|exact ByteArray.toList_eq a|simp[ByteArray.toList]|rfl
theorem XS {op:BinOp} {t:TypeId} {u v r:Value} (hr:tL op u v=aa r) (x y:Operand) (w:World):
 (do eqGuard op t x y u v;binOp op t u v:Sem Value).run P w= .ok r w:=by
 unfold tL at hr;split at hr
 .rename_i k a k' b;split at hr
  .rename_i hk;have I:k=k':=by simpa using hk
   subst I;split at hr<;>first|(simp only[aj] at hr;subst hr;simp[eqGuard,binOp,Op.intCmp,Op.intArith,xz,cR,fG];done)|(split at hr<;>first|(cases hr;done)|(rename_i hb;simp only[aj] at hr;subst hr;simp[eqGuard,binOp,Op.intDiv,xz,show b≠0 from by simpa using hb];done))|(cases hr;done)
  .cases hr
 .rename_i a b;split at hr<;>first|(simp only[aj] at hr;subst hr;simp[eqGuard,binOp,Op.stringOp,qX,Nn];done)|(cases hr;done)
 .cases hr
theorem acw {s:Sem Value} {r:Value} {w w':World} (hs:s.run P w= .ok r w'):(do let x<-s;pure (Next.value x):Sem Next).run P w= .ok (.value r) w':=by
 simp[hs]
theorem adi {op:BinOp} {x y:Operand} {t t':TypeId} (J:o.op= .binOp op t x y t') (I:eE (.bin op x y) e h nx=aa R):gz P o e.get h.get R.eff:=by
 simp only[eE] at I;split at I
 .rename_i u v U M;split at I
  .rename_i r hr;rw[dj I];refine gz.reads λφ E h' w a _ hop _=>?_
   have h1:=eZ (hop x _ (by rw[J];simp[Op.operands]) U);have h2:=eZ (hop y _ (by rw[J];simp[Op.operands]) M);refine ⟨r,?_,.f (.raw _)⟩;unfold execOp;rw[J];simp only[h1,h2];exact acw (XS (P:=P) (t:=t) hr x y w)
  .cases I
 .cases I
theorem Su {t:TypeId} (hu:P.underlying t=aa .bool) (u v:Bool) (w:World):(Op.equal t (.bool u) (.bool v)).run P w= .ok (u==v) w:=by
 have key:∀ d,(Op.equalIn (d+1) t (.bool u) (.bool v)).run P w= .ok (u==v) w:=λd=>by simp[Op.equalIn,run_underlying hu]
 exact key 9999
theorem Pp {t el:TypeId} (hu:P.underlying t=aa (.slice el)) (A:Option Addr) (n c:Nat) (w:World):(Op.equal t (.slice A n c) (.slice af 0 0)).run P w= .ok A.isNone w:=by
 have key:∀ d,(Op.equalIn (d+1) t (.slice A n c) (.slice af 0 0)).run P w= .ok A.isNone w:=λd=>by cases A<;>simp[Op.equalIn,run_underlying hu]
 exact key 9999
theorem adh {neg:Bool} {op:BinOp} {x y:Operand} {t t':TypeId} (J:o.op= .binOp op t x y t') (hop:op=if neg then .neq else .eql) (hu:P.underlying t=aa .bool) (I:eE (.eqb neg x y) e h nx=aa R):gz P o e.get h.get R.eff:=by
 simp only[eE] at I;split at I
 .rename_i u v U M;rw[dj I];refine gz.reads λφ E h' w a _ hp _=>?_
  have h1:=eZ (hp x _ (by rw[J];simp[Op.operands]) U);have h2:=eZ (hp y _ (by rw[J];simp[Op.operands]) M);refine ⟨_,?_,.f (.raw _)⟩;unfold execOp;rw[J];simp only[h1,h2];subst hop;cases neg<;>simp[eqGuard,binOp,Su hu]
 .cases I
theorem Vc {neg:Bool} {op:BinOp} {x y:Operand} {t t' el:TypeId} (U:o.op= .binOp op t x y t') (hop:op=if neg then .neq else .eql) (Y:y= .const (.slice af 0 0)) (hu:P.underlying t=aa (.slice el)) (J:eE (.isnil neg x) e h nx=aa R):gz P o e.get h.get R.eff:=by
 have key:∀ (v:Value) (w:World) (ρ:Operand->Value) (A:Option Addr) (n c:Nat),ρ x= .slice A n c->ρ y= .slice af 0 0->(execOp ρ o).run P w= .ok (.value (.bool (A.isNone !=neg))) w:=by
  intro v w ρ A n c h1 h2;unfold execOp;rw[U];simp only[h1,h2];subst hop;cases neg<;>simp[eqGuard,binOp,Pp hu]
 have hyv:∀ a:Act,a.eval y= .slice af 0 0:=λa=>by rw[Y];rfl
 simp only[eE] at J;split at J
 .rename_i id sz n I;rw[dj J];refine gz.reads λφ E h' w a _ hp _=>?_
  have h1:=hp x _ (by rw[U];simp[Op.operands]) I;generalize M:a.eval x=z at h1;cases h1 with
  |row hφ hn hc hs=>exact⟨_,key (.bool ah) w a.eval _ _ _ M (hyv a),by simpa[raw] using cG.f (.raw _)⟩
 .rename_i id off n I;rw[dj J];refine gz.reads λφ E h' w a _ hp _=>?_
  have h1:=hp x _ (by rw[U];simp[Op.operands]) I;generalize M:a.eval x=z at h1;cases h1 with
  |sl hφ hn hc=>exact⟨_,key (.bool ah) w a.eval _ _ _ M (hyv a),by simpa[raw] using cG.f (.raw _)⟩
 .rename_i cells n I;rw[dj J];refine gz.reads λφ E h' w a _ hp _=>?_
  have h1:=hp x _ (by rw[U];simp[Op.operands]) I;generalize M:a.eval x=z at h1;cases h1 with
  |f h1=>
   cases h1 with
   |sl=>exact⟨_,key (.bool ah) w a.eval _ _ _ M (hyv a),by simpa[raw] using cG.f (.raw _)⟩
 .rename_i cells I;rw[dj J];refine gz.reads λφ E h' w a _ hp _=>?_
  have h1:=hp x _ (by rw[U];simp[Op.operands]) I;generalize M:a.eval x=z at h1;cases h1 with
  |f h1=>
   cases h1 with
   |nil=>exact⟨_,key (.bool ah) w a.eval _ _ _ M (hyv a),.anyb⟩
   |sl=>exact⟨_,key (.bool ah) w a.eval _ _ _ M (hyv a),.anyb⟩
 .rename_i I;rw[dj J];refine gz.reads λφ E h' w a _ hp _=>?_
  have h1:=hp x _ (by rw[U];simp[Op.operands]) I;generalize M:a.eval x=z at h1;cases h1 with
  |emp=>exact⟨_,key (.bool ah) w a.eval _ _ _ M (hyv a),.anyb⟩
 .rename_i v I;split at J
  .rename_i hv;rw[dj J];refine gz.reads λφ E h' w a _ hp _=>?_
   have h1:=eZ (hp x _ (by rw[U];simp[Op.operands]) I);unfold yN at hv;split at hv
   .exact⟨_,key (.bool ah) w a.eval _ _ _ h1 (hyv a),by simpa[raw] using cG.f (.raw _)⟩
   .cases hv
  .cases J
 .cases J
theorem gh {t:TypeId} {sz:Nat} (hs:eX P t=aa sz) (w:World):(sizeOf t).run P w= .ok sz w:=by
 unfold eX at hs;cases hi:P.info? t with
 |none=>rw[hi] at hs;cases hs
 |some i=>rw[hi] at hs;simp at hs;simp[sizeOf,typeInfo,program,hi,mV,hs]
theorem N_ {t:TypeId} {ag:Bool} (hs:CM P t=aa ag) (w:World):(isAgg t).run P w= .ok ag w:=by
 unfold CM at hs;cases hi:P.underlying t with
 |none=>rw[hi] at hs;cases hs
 |some d=>
  rw[hi] at hs;simp only[b8,aj] at hs;rw[<- hs];simp only[isAgg,em,run_underlying hi,cD];cases d<;>rfl
theorem kF (b off i:Nat):(⟨b,off,af⟩:Addr).add i=⟨b,off+i,af⟩:=by
 unfold Addr.add;split<;>simp_all
theorem N9 {s:TypeId} {fs:Array Field} {k:Nat} {f:Field} {sz:Nat} (hu:P.underlying s=aa (.struct fs)) (hf:fs[k]? =aa f) (hs:eX P f.type=aa sz) (h0:sz≠0) (w:World) (b i:Nat):
 (Instr.fieldAt s (.pointer (aa ⟨b,i,af⟩)) k).run P w= .ok (.pointer (aa ⟨b,i+f.offset,af⟩)) w:=by
 have h1:=gh hs w;simp[Instr.fieldAt,run_underlying hu,hf,Instr.sureAddr,fieldPlace,h1,h0,kF]
theorem ai4 {s:TypeId} {fs:Array Field} {k:Nat} {f:Field} {sz:Nat} {x:Operand} (U:o.op= .fieldAddr s x k) (hu:P.underlying s=aa (.struct fs)) (hf:fs[k]? =aa f) (hs:eX P f.type=aa sz) (h0:sz≠0) (I:eE (.fad f.offset x) e h nx=aa R):gz P o e.get h.get R.eff:=by
 have key:∀ (w:World) (ρ:Operand->Value) (b i:Nat),ρ x= .pointer (aa ⟨b,i,af⟩)->(execOp ρ o).run P w= .ok (.value (.pointer (aa ⟨b,i+f.offset,af⟩))) w:=by
  intro w ρ b i h1;unfold execOp;rw[U];simp only[h1];exact acw (N9 hu hf hs h0 w b i)
 simp only[eE] at I;split at I
 .rename_i id off M;rw[dj I];refine gz.reads λφ E h' w a _ hp _=>?_
  have h1:=hp x _ (by rw[U];simp[Op.operands]) M;generalize J:a.eval x=z at h1;cases h1 with
  |ptr hφ=>exact⟨_,key w a.eval _ _ J,.ptr hφ⟩
 .rename_i cells off M;rw[dj I];refine gz.reads λφ E h' w a _ hp _=>?_
  have h1:=hp x _ (by rw[U];simp[Op.operands]) M;generalize J:a.eval x=z at h1;cases h1 with
  |f h1=>
   cases h1 with
   |ptr _ _ b base us hO hb hcl hu hr=>
    refine ⟨_,key w a.eval _ _ J,.f ?_⟩;rw[rD];exact .ptr cells _ b base us hO hb hcl hu hr
 .cases I
theorem HZ {t el:TypeId} {x y:Operand} {sz b off n c:Nat} {k:IntKind} {i:Int} {ρ:Operand->Value} {w:World} (M:o.op= .indexAddr t x y) (hu:P.underlying t=aa (.slice el)) (hs:eX P el=aa sz) (J:ρ x= .slice (aa ⟨b,off,af⟩) n c) (I:ρ y= .int k i) (h0:0<=i) (h1:i<n):
 (execOp ρ o).run P w= .ok (.value (.pointer (aa ⟨b,off+i.toNat*sz,af⟩))) w:=by
 have h2:=gh hs w;unfold execOp;rw[M];simp[J,I,Instr.indexAt,asIntOf,run_underlying hu,h2,h0,h1,kF]
theorem ai2 {t el:TypeId} {x y:Operand} {sz:Nat} (J:o.op= .indexAddr t x y) (hu:P.underlying t=aa (.slice el)) (hs:eX P el=aa sz) (I:eE (.iad sz x y) e h nx=aa R):gz P o e.get h.get R.eff:=by
 simp only[eE] at I;split at I
 .rename_i v k j Y hy;have hyv:∀ {φ:PM} {E:Nat->Prop} {h':HF} {w:World} {a:Act},TZ φ E h' w a e o->a.eval y= .int k j:=λhp=>eZ (hp y _ (by rw[J];simp[Op.operands]) hy)
  split at I
  .split at I
   .rename_i id sz' n hc;simp only[cR,fG,au,bQ,cM] at hc;obtain⟨⟨rfl,h0⟩,h1⟩:=hc;rw[dj I];refine gz.reads λφ E h' w a _ hp _=>?_
    have hr:=hp x _ (by rw[J];simp[Op.operands]) Y;generalize M:a.eval x=z at hr;cases hr with
    |row hφ hn U hsh=>
     refine ⟨_,HZ J hu hs M (hyv hp) h0 h1,?_⟩;rw[bJ];exact .ptr hφ
   .cases I
  .split at I
   .rename_i id off n hc;simp only[cR,fG,au,bQ] at hc;obtain⟨h0,h1⟩:=hc;rw[dj I];refine gz.reads λφ E h' w a _ hp _=>?_
    have hr:=hp x _ (by rw[J];simp[Op.operands]) Y;generalize M:a.eval x=z at hr;cases hr with
    |sl hφ hn U=>exact⟨_,HZ J hu hs M (hyv hp) h0 h1,.ptr hφ⟩
   .cases I
  .split at I
   .rename_i cells n hc;simp only[cR,fG,au,bQ] at hc;obtain⟨h0,h1⟩:=hc;rw[dj I];refine gz.reads λφ E h' w a _ hp _=>?_
    have hr:=hp x _ (by rw[J];simp[Op.operands]) Y;generalize M:a.eval x=z at hr;cases hr with
    |f hr=>
     cases hr with
     |nil=>omega
     |sl _ _ c b base us hn U hO hb hcl Z hr'=>exact⟨_,HZ J hu hs M (hyv hp) h0 h1,.f (.ptr cells _ b base us hO hb hcl Z hr')⟩
   .cases I
  .cases I
 .cases I
theorem af3 {t el:TypeId} {x y:Operand} {n sz:Nat} (J:o.op= .indexAddr t x y) (hu:P.underlying t=aa (.array n el)) (hs:eX P el=aa sz) (I:eE (.iada n sz x y) e h nx=aa R):gz P o e.get h.get R.eff:=by
 have key:∀ (w:World) (ρ:Operand->Value) (b off:Nat) (k:IntKind) (i:Int),ρ x= .pointer (aa ⟨b,off,af⟩)->ρ y= .int k i->0<=i->i<n->(execOp ρ o).run P w= .ok (.value (.pointer (aa ⟨b,off+i.toNat*sz,af⟩))) w:=by
  intro w ρ b off k i h1 h2 h3 h4;have h5:=gh hs w;unfold execOp;rw[J];simp[h1,h2,Instr.indexAt,asIntOf,run_underlying hu,h5,h3,h4,kF,Instr.sureAddr]
 simp only[eE] at I;split at I
 .rename_i v k j hx Z;split at I
  .rename_i hc;simp only[cR,fG,au,bQ] at hc;obtain⟨h0,h1⟩:=hc;split at I
   .rw[dj I];refine gz.reads λφ E h' w a _ hp _=>?_
    have hr:=hp x _ (by rw[J];simp[Op.operands]) hx;have hyv:=eZ (hp y _ (by rw[J];simp[Op.operands]) Z);generalize M:a.eval x=z at hr;cases hr with
    |ptr hφ=>exact⟨_,key w a.eval _ _ k j M hyv h0 h1,.ptr hφ⟩
   .rw[dj I];refine gz.reads λφ E h' w a _ hp _=>?_
    have hr:=hp x _ (by rw[J];simp[Op.operands]) hx;have hyv:=eZ (hp y _ (by rw[J];simp[Op.operands]) Z);generalize M:a.eval x=z at hr;cases hr with
    |f hr=>
     cases hr with
     |ptr _ _ b base us hO hb hcl U Y=>
      refine ⟨_,key w a.eval _ _ k j M hyv h0 h1,.f ?_⟩;rw[rD];exact .ptr _ _ b base us hO hb hcl U Y
   .cases I
  .cases I
 .cases I
theorem ai5 {x:Operand} {i:Nat} (J:o.op= .extract x i) (I:eE (.ext x i) e h nx=aa R):gz P o e.get h.get R.eff:=by
 simp only[eE] at I;split at I
 .rename_i l U;split at I
  .rename_i v hv;rw[dj I];refine gz.reads λφ E h' w a _ hp _=>?_
   have hr:=hp x _ (by rw[J];simp[Op.operands]) U;generalize M:a.eval x=z at hr;cases hr with
   |@tup _ vs hl hrr=>
    have hlt:i<vs.length:=by
     rw[hl];exact (bf.1 hv).1
    refine ⟨vs[i],?_,hrr i v _ hv (ay hlt)⟩;unfold execOp;rw[J];simp[M,Instr.extract,hlt]
  .cases I
 .cases I
theorem ai0 {x y:Operand} {M:Array TypeId} (J:o.op= .call {callee:=.builtin .max,args:=#[x,y],argTypes:=M}) (I:eE (.max x y) e h nx=aa R):gz P o e.get h.get R.eff:=by
 simp only[eE] at I;split at I
 .rename_i k a b k' Y U;rw[dj I];refine gz.reads λφ E h' w a _ hp _=>?_
  have h1:=eZ (hp x _ (by rw[J];simp[Op.operands,eH]) Y);have h2:=eZ (hp y _ (by rw[J];simp[Op.operands,eH]) U);refine ⟨_,?_,.f (.raw _)⟩;unfold execOp;rw[J];simp[resolve,invoke,builtin,Builtin.max_,Builtin.max2,h1,h2,fG]
 .cases I
theorem ahz {x y:Operand} {M:Array TypeId} (J:o.op= .call {callee:=.builtin .min,args:=#[x,y],argTypes:=M}) (I:eE (.min x y) e h nx=aa R):gz P o e.get h.get R.eff:=by
 simp only[eE] at I;split at I
 .rename_i k a b k' Y U;rw[dj I];refine gz.reads λφ E h' w a _ hp _=>?_
  have h1:=eZ (hp x _ (by rw[J];simp[Op.operands,eH]) Y);have h2:=eZ (hp y _ (by rw[J];simp[Op.operands,eH]) U);refine ⟨_,?_,.f (.raw _)⟩;unfold execOp;rw[J];simp[resolve,invoke,builtin,Builtin.min_,Builtin.min2,h1,h2,fG]
 .cases I
theorem ahv {x:Operand} {t:TypeId} {k:IntKind} (J:o.op= .unOp .neg t x) (I:eE (.bin .sub (.const (.int k 0)) x) e h nx=aa R):gz P o e.get h.get R.eff:=by
 simp only[eE,mh,DR] at I;split at I
 .rename_i u v hu M;cases hu;split at I
  .rename_i r hb;rw[dj I];refine gz.reads λφ E h' w a _ hop _=>?_
   have h1:=eZ (hop x _ (by rw[J];simp[Op.operands]) M);refine ⟨r,?_,.f (.raw _)⟩;unfold execOp;rw[J];cases v<;>simp only[tL] at hb<;>try (cases hb;done)
   split at hb
   .rename_i hk;have hk:=eq_of_beq hk;subst hk;simp only[aj] at hb;subst hb;simp[h1,Op.unary,Op.intArith,xz]
   .cases hb
  .cases I
 .cases I
theorem aev {x i:Operand} {t:TypeId} (J:o.op= .index t x i) (hu:P.underlying t=aa .string) (I:eE (.sidx x i) e h nx=aa R):gz P o e.get h.get R.eff:=by
 simp only[eE] at I;split at I
 .rename_i s k j M hi;split at I
  .rename_i h0;simp only[cR,bQ] at h0;split at I
   .rename_i b hb;rw[dj I];refine gz.reads λφ E h' w a _ hop _=>?_
    have h1:=eZ (hop x _ (by rw[J];simp[Op.operands]) M);have h2:=eZ (hop i _ (by rw[J];simp[Op.operands]) hi);refine ⟨_,?_,.f (.raw _)⟩;have hs:s[j.toNat]? =aa b:=by
     rw[cB] at hb;obtain⟨hl,he⟩:=cu.1 hb;exact getElem?_pos s j.toNat hl▸gx aa he
    unfold execOp;rw[J];simp[Instr.index,run_underlying hu,h1,h2,asIntOf,h0,hs]
   .cases I
  .cases I
 .cases I
theorem ahy {f:FuncId} {caps:Array Operand} (Y:o.op= .makeFunc (.func f) #[] caps) (M:eE (.mkf f caps.toList) e h nx=aa R):gz P o e.get h.get R.eff:=by
 simp only[eE] at M;split at M
 .rename_i l hl;rw[dj M];refine gz.reads λφ E h' w a _ hp _=>?_
  refine ⟨_,by unfold execOp;rw[Y];rfl,?_⟩;have key:∀ (xs:List Operand) (I:List AV),(∀ x∈xs,x∈o.op.operands)->UQ e xs=aa I->I.length=xs.length/\∀ (j:Nat) x v,I[j]? =aa x->(xs.map a.eval)[j]? =aa v->cG φ (tot E φ h') w x v:=by
   intro xs;induction xs with
   |nil=>intro I _ h;simp only[UQ,aj] at h;subst h;exact⟨rfl,λj x v J=>by simp at J⟩
   |cons x xs Z=>
    intro I hm h;simp only[UQ] at h;split at h
    .rename_i y hy;split at h
     .rename_i ys' hys;simp only[aj] at h;subst h;obtain⟨h1,h2⟩:=Z ys' (λx J=>hm x (cN _ J)) hys;refine ⟨by simp[h1],λj z v U hv=>?_⟩;cases j with
      |zero=>simp at U hv;subst U;subst hv;exact hp x _ (hm x (dH ..)) hy
      |succ j=>exact h2 j z v (by simpa using U) (by simpa using hv)
     .cases h
    .cases h
  obtain⟨h1,h2⟩:=key caps.toList l (λx J=>by rw[Y];simpa[Op.operands] using J) hl;have h3:(caps.map a.eval)=(caps.toList.map a.eval).toArray:=by
   apply Jx;simp
  have h4:(#[]:Array Operand).map a.eval=#[]:=by simp
  rw[h4,h3];exact .clo (by simp[h1]) h2
 .cases M
end pure
section
variable {P:Program} {o:Oper} {e:yA} {h:nB} {nx:Nat} {R:AX}
theorem Uc {α:Type} {l cs:List α} {off sz:Nat} (h:off+sz<=l.length) (he:(l.drop off).take sz=cs):cs.length=sz/\∀ (j:Nat) x,cs[j]? =aa x->l[off+j]? =aa x:=by
 subst he;constructor
 .simp;omega
 .intro j x I;rw[cH] at I;split at I
  .rw[gJ] at I;exact I
  .cases I
theorem wz (f:Nat->Value) (n j:Nat) (v:Value) (h:((eg n).map f)[j]? =aa v):v=f j/\j<n:=by
 rw[aZ] at h;rcases bV j n with hj|hj
 .rw[uK hj] at h;simp at h;exact⟨h.symm,hj⟩
 .rw[bK (by simpa using hj)] at h;cases h
def wP (φ:PM) (O:Nat->Prop) (w:World) (c:BC) (f:Nat->Option Value):Prop:=∀ j x,c.get j=aa x->x.isCell=ah/\∃ v,f j=aa v/\cG φ O w x v
theorem Ub {φ:PM} {O:Nat->Prop} {w:World} {c:BC} {off sz:Nat} {ag:Bool} {val:AV} (hs:c.sub? off sz ag=aa val) {f:Nat->Option Value} (hc:wP φ O w c f):
 ∃ cs:List Value,cs.length=sz/\(∀ (j:Nat) v,cs[j]? =aa v->f (off+j)=aa v)/\(ag=ai->sz=1)/\cG φ O w val (if ag then .agg cs.toArray else cs.getD 0 undef):=by
 cases ag with
 |false=>
  simp only[BC.sub?] at hs;split at hs
  .obtain⟨h0,v,h1,h2⟩:=hc off val hs;exact⟨[v],rfl,λj u hu=>by cases j with|zero=>simp at hu;subst hu;exact h1|succ j=>simp at hu,λ_=>rfl,by simpa using h2⟩
  .cases hs
 |true=>
  have fin:∀ (g:Nat->Option AV),(∀ j,j<sz->∃ x,g j=aa x/\c.get (off+j)=aa x)->
   ∃ cs:List Value,cs.length=sz/\(∀ (j:Nat) v,cs[j]? =aa v->f (off+j)=aa v)/\∀ (j:Nat) x v,g j=aa x->cs[j]? =aa v->cG φ O w x v:=by
   intro g hg;refine ⟨(eg sz).map λj=>(f (off+j)).getD undef,by simp,λj v hv=>?_,λj x v I hv=>?_⟩
   .obtain⟨rfl,hj⟩:=wz _ _ _ _ hv;obtain⟨x,_,h2⟩:=hg j hj;obtain⟨_,v,J,_⟩:=hc _ _ h2;rw[J];rfl
   .obtain⟨rfl,hj⟩:=wz _ _ _ _ hv;obtain⟨U,h1,h2⟩:=hg j hj;rw[I] at h1;cases h1;obtain⟨_,v,J,M⟩:=hc _ _ h2;rw[J];exact M
  simp only[BC.sub?] at hs;split at hs
  .rename_i l;split at hs
   .rename_i hle;simp only[aj] at hs;subst hs;obtain⟨hl,hg⟩:=Uc (aY hle) (rfl:(l.drop off).take sz=_);obtain⟨cs,h1,h2,J⟩:=fin (λj=>(((l.drop off).take sz)[j]?).map AV.f) (λj hj=>by
     have hlt:j<((l.drop off).take sz).length:=by rw[hl];exact hj
     refine ⟨.f ((l.drop off).take sz)[j],by simp only[ay hlt,b8],?_⟩;simp only[BC.get,hg j _ (ay hlt),b8])
    refine ⟨cs,h1,h2,(λh=>by cases h),.f (.agg _ _ (by rw[h1,hl]) ?_ ?_)⟩
    .intro x I;obtain⟨j,hj⟩:=eQ I;exact (hc (off+j) (.f x) (by simp only[BC.get,hg j x hj,b8])).1
    .intro j x v I hv;have:=J j (.f x) v (by simp only[I,b8]) hv;cases this with
     |f h=>exact h
   .cases hs
  .rename_i l;split at hs
   .rename_i hle;simp only[aj] at hs;subst hs;obtain⟨hl,hg⟩:=Uc (aY hle) (rfl:(l.drop off).take sz=_);obtain⟨cs,h1,h2,J⟩:=fin (λj=>(((l.drop off).take sz)[j]?)) (λj hj=>by
     have hlt:j<((l.drop off).take sz).length:=by rw[hl];exact hj
     exact⟨_,ay hlt,hg j _ (ay hlt)⟩)
    refine ⟨cs,h1,h2,(λh=>by cases h),.agg (by rw[h1,hl]) ?_ ?_⟩
    .intro x I;obtain⟨j,hj⟩:=eQ I;exact (hc (off+j) x (hg j x hj)).1
    .intro j x v I hv;exact J j x v I hv
   .cases hs
  .cases hs
theorem Mb {t:TypeId} {sz:Nat} {ag:Bool} (hs:eX P t=aa sz) (I:CM P t=aa ag) (w:World) (b off:Nat) (cs:List Value) (hl:cs.length=sz) (hc:∀ (j:Nat) v,cs[j]? =aa v->w.cell? ⟨b,off+j,af⟩=aa v) (h1:ag=ai->sz=1):
 (loadVar t ⟨b,off,af⟩).run P w= .ok (if ag then .agg cs.toArray else cs.getD 0 undef) w:=by
 unfold loadVar;simp only[em,N_ I w,cD];cases ag with
 |true=>
  simp only[bC,em,gh hs w,cD];rw[<- hl,run_loadCells_list (P:=P) w ⟨b,off,af⟩ cs (λj v hv=>by rw[kF];exact hc j v hv)];rfl
 |false=>
  have h1:=h1 rfl;cases cs with
  |nil=>simp at hl;omega
  |cons v r=>
   have:=hc 0 v rfl;simp only[db] at this;simp[load,mV,this]
theorem Hd {φ:PM} {O:Nat->Prop} {w:World} {t:TypeId} {sz:Nat} {ag:Bool} (hs:eX P t=aa sz) (I:CM P t=aa ag) {c:BC} {b base off:Nat} {val:AV} (hv:c.sub? off sz ag=aa val)
 (hc:wP φ O w c λj=>w.cell? ⟨b,base+j,af⟩):∃ v,(loadVar t ⟨b,base+off,af⟩).run P w= .ok v w/\cG φ O w val v:=by
 obtain⟨cs,h1,h2,M,J⟩:=Ub hv hc;exact⟨_,Mb hs I w b (base+off) cs h1 (λj v hj=>by rw[rD];exact h2 j v hj) M,J⟩
theorem Qx {φ:PM} {E:Nat->Prop} {h':HF} {w:World} (hrep:qh φ E h' w) {id k:Nat} {b:vN} (hb:h' id=aa b) (hk:φ id=aa k) (hc:b.c.isCells=ah):wP φ (tot E φ h') w b.c λj=>w.cell? ⟨k,0+j,af⟩:=by
 obtain⟨k',h1,_,h2⟩:=hrep.at_ id b hb;rw[hk] at h1;cases h1;obtain⟨arr,M,h4,J⟩:=h2.cells hc;intro j x I;obtain⟨Z,v,Y,U⟩:=J j x I;exact⟨Z,v,by simp[LV,M,Y],U⟩
theorem Tw {φ:PM} {O:Nat->Prop} {w:World} {cells:List FV} {b base:Nat} {us:Nat->Value} (hcl:∀ x∈cells,x.isCell=ah) (hu:∀ j,j<cells.length->w.cell? ⟨b,base+j,af⟩=aa (us j)) (hr:∀ (j:Nat) x,cells[j]? =aa x->mR O w x (us j)):
 wP φ O w (.fz cells) λj=>w.cell? ⟨b,base+j,af⟩:=by
 intro j y I;simp only[BC.get] at I;cases hc:cells[j]? with
 |none=>rw[hc] at I;cases I
 |some q=>
  rw[hc] at I;simp at I;subst I;have hj:j<cells.length:=(bf.1 hc).1;exact⟨hcl q (a8 hc),us j,hu j hj,.f (hr j q hc)⟩
theorem NU {c:BC} {off sz:Nat} {ag:Bool} {v:AV} (h:c.sub? off sz ag=aa v):c.isCells=ah:=by
 cases c with
 |fz=>rfl
 |mx=>rfl
 |mp es=>cases ag<;>simp only[BC.sub?,BC.get] at h<;>(try split at h)<;>cases h
 |it s p=>cases ag<;>simp only[BC.sub?,BC.get] at h<;>(try split at h)<;>cases h
theorem QK {t:TypeId} {sz:Nat} {ag:Bool} (hs:eX P t=aa sz) (hag:CM P t=aa ag) {p:AV} (I:CL h sz ag p=aa R):
 R.wr=[]/\R.nw=[]/\R.N=[]/\∀ (φ:PM) (E:Nat->Prop) (h':HF) (w:World) (pv:Value),(∀ i∈R.rd,h' i=h.get i)->qh φ E h' w->cG φ (tot E φ h') w p pv->
  ∃ J v,pv= .pointer (aa J)/\(loadVar t J).run P w= .ok v w/\cG φ (tot E φ h') w R.val v:=by
 unfold CL at I;split at I
 .rename_i id off;split at I
  .rename_i b hb;split at I
   .rename_i v hv;simp only[aj] at I;subst I;refine ⟨rfl,rfl,rfl,λφ E h' w pv hrd hrep hr=>?_⟩;have hh:h' id=aa b:=by rw[hrd id (by simp)];exact hb
    cases hr with
    |@ptr _ _ k hφ=>
     obtain⟨u,h1,h2⟩:=Hd hs hag (w:=w) (b:=k) (base:=0) hv (Qx hrep hh hφ (NU hv));rw[bJ] at h1;exact⟨_,u,rfl,h1,h2⟩
   .cases I
  .cases I
 .rename_i cells off;split at I
  .rename_i v hv;rw[dj I];refine ⟨rfl,rfl,rfl,λφ E h' w pv hrd hrep hr=>?_⟩;cases hr with
   |f hr=>
    cases hr with
    |ptr _ _ b base us hO hb hcl hu hr=>
     obtain⟨u,h1,h2⟩:=Hd (φ:=φ) (O:=tot E φ h') hs hag (w:=w) (b:=b) (base:=base) hv (Tw hcl hu hr);exact⟨_,u,rfl,h1,h2⟩
  .cases I
 .cases I
theorem aez {t:TypeId} {x:Operand} {sz:Nat} {ag:Bool} (J:o.op= .load t x) (hs:eX P t=aa sz) (hag:CM P t=aa ag) (I:eE (.load sz ag x) e h nx=aa R):gz P o e.get h.get R.eff:=by
 simp only[eE] at I;split at I
 .rename_i p Y;obtain⟨h1,h2,U,M⟩:=QK hs hag I;obtain⟨val,rd,wr,nw,N⟩:=R;simp only at h1 h2 U M;subst h1;subst h2;subst U;refine gz.reads λφ E h' w a hrd hp hrep=>?_
  obtain⟨ad,v,h5,h6,Z⟩:=M φ E h' w _ hrd hrep (hp x _ (by rw[J];simp[Op.operands]) Y);refine ⟨v,?_,Z⟩;unfold execOp;rw[J];simp[Instr.loadAt,h5,Instr.sureAddr,h6]
 .cases I
theorem Uo {φ:PM} {O:Nat->Prop} {w:World} {t:TypeId} {sz:Nat} {ag:Bool} (hs:eX P t=aa sz) (hag:CM P t=aa ag) {c:BC} {off:Nat} {val:AV} (hv:c.sub? off sz ag=aa val) {vs:List Value}
 (hc:wP φ O w c λj=>vs[j]?):∃ v,(part t vs.toArray off).run P w= .ok v w/\cG φ O w val v:=by
 obtain⟨cs,h1,h2,J,I⟩:=Ub hv hc;refine ⟨_,?_,I⟩;unfold part;simp only[em,N_ hag w,cD];cases ag with
 |true=>
  simp only[bC,em,gh hs w,cD];have:vs.toArray.extract off (off+sz)=cs.toArray:=by
   apply Jx;simp only[Array.toList_extract,List.extract_eq_take_drop];apply List.ext_getElem?;intro j;rw[show off+sz-off=sz from by omega,cH,gJ];rcases bV j sz with hj|hj
   .rw[aI hj];have:=h2 j _ (ay (by omega:j<cs.length));rw[this,ay (by omega:j<cs.length)]
   .rw[aC (by omega),bK (by omega)]
  rw[this];rfl
 |false=>
  have M:=J rfl;cases cs with
  |nil=>simp at h1;omega
  |cons v r=>
   have:=h2 0 v rfl;simp only[db] at this;simp[this]
theorem Qy {φ:PM} {O:Nat->Prop} {w:World} {l:List AV} {vs:List Value} (hl:vs.length=l.length) (hcl:∀ x∈l,x.isCell=ah) (hr:∀ (j:Nat) x v,l[j]? =aa x->vs[j]? =aa v->cG φ O w x v):wP φ O w (.mx l) λj=>vs[j]? :=by
 intro j x I;simp only[BC.get] at I;have hj:j<vs.length:=by rw[hl];exact (bf.1 I).1
 exact⟨hcl x (a8 I),vs[j],ay hj,hr j x _ I (ay hj)⟩
theorem Nk {φ:PM} {O:Nat->Prop} {w:World} {l:List FV} {vs:List Value} (hl:vs.length=l.length) (hcl:∀ x∈l,x.isCell=ah) (hr:∀ (j:Nat) x v,l[j]? =aa x->vs[j]? =aa v->mR O w x v):wP φ O w (.fz l) λj=>vs[j]? :=by
 intro j x I;simp only[BC.get] at I;cases hc:l[j]? with
 |none=>rw[hc] at I;cases I
 |some q=>
  rw[hc] at I;simp at I;subst I;have hj:j<vs.length:=by rw[hl];exact (bf.1 hc).1
  exact⟨hcl q (a8 hc),vs[j],ay hj,.f (hr j q _ hc (ay hj))⟩
theorem Jc {φ:PM} {O:Nat->Prop} {w:World} {t:TypeId} {sz:Nat} {ag:Bool} (hs:eX P t=aa sz) (hag:CM P t=aa ag) {x:AV} {z:Value} (hr:cG φ O w x z) {off:Nat} {val:AV}
 (hv:(∃ l,x= .agg l/\(BC.mx l).sub? off sz ag=aa val)\/(∃ l,x= .f (.agg l)/\(BC.fz l).sub? off sz ag=aa val)):∃ cs v,z= .agg cs/\(part t cs off).run P w= .ok v w/\cG φ O w val v:=by
 rcases hv with ⟨l,rfl,hv⟩|⟨l,rfl,hv⟩
 .cases hr with
  |agg hl hcl hr=>
   obtain⟨v,h1,h2⟩:=Uo hs hag hv (Qy hl hcl hr);exact⟨_,v,rfl,h1,h2⟩
 .cases hr with
  |f hr=>
   cases hr with
   |agg _ vs hl hcl hr=>
    obtain⟨v,h1,h2⟩:=Uo (φ:=φ) hs hag hv (Nk hl hcl hr);exact⟨_,v,rfl,h1,h2⟩
theorem ai3 {s:TypeId} {fs:Array Field} {k:Nat} {f:Field} {sz:Nat} {ag:Bool} {x:Operand} (M:o.op= .field s x k) (hu:P.underlying s=aa (.struct fs)) (hf:fs[k]? =aa f) (hs:eX P f.type=aa sz) (hag:CM P f.type=aa ag) (I:eE (.fld f.offset sz ag x) e h nx=aa R):gz P o e.get h.get R.eff:=by
 have fin:∀ (y:AV) (val:AV),mh e x=aa y->((∃ l,y= .agg l/\(BC.mx l).sub? f.offset sz ag=aa val)\/(∃ l,y= .f (.agg l)/\(BC.fz l).sub? f.offset sz ag=aa val))->rv val=aa R->gz P o e.get h.get R.eff:=by
  intro y val J hv U;rw[dj U];refine gz.reads λφ E h' w a _ hp _=>?_
  obtain⟨cs,v,h1,h2,Y⟩:=Jc hs hag (hp x _ (by rw[M];simp[Op.operands]) J) hv;refine ⟨v,?_,Y⟩;unfold execOp;rw[M];simp[Instr.field,run_underlying hu,hf,h1,asAgg,h2]
 simp only[eE] at I;split at I
 .rename_i l J;split at I
  .rename_i v hv;exact fin _ v J (.inl ⟨l,rfl,hv⟩) I
  .cases I
 .rename_i l J;split at I
  .rename_i v hv;exact fin _ v J (.inr ⟨l,rfl,hv⟩) I
  .cases I
 .cases I
theorem ai1 {t el:TypeId} {n sz:Nat} {ag:Bool} {x y:Operand} (J:o.op= .index t x y) (hu:P.underlying t=aa (.array n el)) (hs:eX P el=aa sz) (hag:CM P el=aa ag) (I:eE (.idx n sz ag x y) e h nx=aa R):gz P o e.get h.get R.eff:=by
 simp only[eE] at I;split at I
 .rename_i v0 k j U M;split at I
  .rename_i hc;simp only[cR,fG,au,bQ] at hc;obtain⟨h0,h1⟩:=hc;have fin:∀ (val:AV),((∃ l,v0= .agg l/\(BC.mx l).sub? (j.toNat*sz) sz ag=aa val)\/(∃ l,v0= .f (.agg l)/\(BC.fz l).sub? (j.toNat*sz) sz ag=aa val))->rv val=aa R->gz P o e.get h.get R.eff:=by
    intro val hv Y;rw[dj Y];refine gz.reads λφ E h' w a _ hp _=>?_
    have hyv:=eZ (hp y _ (by rw[J];simp[Op.operands]) M);obtain⟨cs,v,h3,h4,h5⟩:=Jc hs hag (hp x _ (by rw[J];simp[Op.operands]) U) hv;refine ⟨v,?_,h5⟩;have Z:=gh hs w;unfold execOp;rw[J];simp[Instr.index,run_underlying hu,hyv,asIntOf,h3,h0,h1,Z,h4]
   split at I
   .rename_i l;split at I
    .rename_i v hv;exact fin v (.inl ⟨l,rfl,hv⟩) I
    .cases I
   .rename_i l;split at I
    .rename_i v hv;exact fin v (.inr ⟨l,rfl,hv⟩) I
    .cases I
   .cases I
  .cases I
 .cases I
theorem af2 {t el:TypeId} {x:Operand} (M:o.op= .call {callee:=.builtin .len,args:=#[x],argTypes:=#[t]}) (hu:P.underlying t=aa (.slice el)) (I:eE (.len x) e h nx=aa R):gz P o e.get h.get R.eff:=by
 simp only[eE] at I;split at I
 .rename_i y U;split at I
  .rename_i n hn;rw[dj I];refine gz.reads λφ E h' w a _ hp _=>?_
   have hr:=hp x _ (by rw[M];simp[Op.operands,eH]) U;refine ⟨_,?_,.f (.raw _)⟩;have J:∃ A c,a.eval x= .slice A n c:=by
    generalize a.eval x=z at hr;unfold AV.slen at hn;split at hn<;>try (simp only[aj] at hn;subst hn)
    .cases hr with
     |f hr=>cases hr with
      |nil=>exact⟨_,_,rfl⟩
      |sl=>exact⟨_,_,rfl⟩
    .cases eZ hr;exact⟨_,_,rfl⟩
    .cases hr;exact⟨_,_,rfl⟩
    .cases hr;exact⟨_,_,rfl⟩
    .cases hr;exact⟨_,_,rfl⟩
    .cases hn
   obtain⟨A,c,J⟩:=J;unfold execOp;rw[M];simp[resolve,invoke,builtin,Builtin.len_,run_underlying hu,J,goInt]
  .cases I
 .cases I
theorem af1 {t:TypeId} {x:Operand} (J:o.op= .call {callee:=.builtin .len,args:=#[x],argTypes:=#[t]}) (hu:P.underlying t=aa .string) (I:eE (.lens x) e h nx=aa R):gz P o e.get h.get R.eff:=by
 simp only[eE] at I;split at I
 .rename_i s M;rw[dj I];refine gz.reads λφ E h' w a _ hp _=>?_
  have hr:=eZ (hp x _ (by rw[J];simp[Op.operands,eH]) M);refine ⟨_,?_,.f (.raw _)⟩;unfold execOp;rw[J];simp[resolve,invoke,builtin,Builtin.len_,run_underlying hu,hr,goInt]
 .cases I
theorem af0 {t k v:TypeId} {x:Operand} (J:o.op= .call {callee:=.builtin .len,args:=#[x],argTypes:=#[t]}) (hu:P.underlying t=aa (.map k v)) (I:eE (.lenm x) e h nx=aa R):gz P o e.get h.get R.eff:=by
 simp only[eE] at I;split at I
 .rename_i id U;split at I
  .rename_i ty es hid;simp only[aj] at I;subst I;refine gz.reads λφ E h' w a hrd hp hrep=>?_
   have hr:=hp x _ (by rw[J];simp[Op.operands,eH]) U;have hh:h' id=aa ⟨ty,.mp es⟩:=by rw[hrd id (by simp)];exact hid
   generalize M:a.eval x=z at hr;cases hr with
   |@mp _ b hφ=>
    obtain⟨b',h1,_,ob,h2,h3⟩:=hrep.at_ id _ hh;rw[hφ] at h1;cases h1;obtain⟨ents,clock,rfl,Z,_⟩:=h3;have Y:ents.size=es.length:=by have:=gx ak Z;simpa using this
    refine ⟨_,?_,.f (.raw _)⟩;unfold execOp;rw[J];simp[resolve,invoke,builtin,Builtin.len_,run_underlying hu,M,goInt,getObj,mV,h2,Y]
  .cases I
 .cases I
end
structure D3 (w w':World) (k:Nat) (ob:Obj):Prop where
 os:w'.os=w.os
 tape:w'.tape=w.tape
 output:w'.output=w.output
 size:w'.heap.size=w.heap.size
 at_:w'.heap[k]? =aa ob
 other:∀ j,j≠k->w'.heap[j]? =w.heap[j]?
 shp:∀ j,w'.shape? j=w.shape? j
structure QP (w w':World) (ob:Obj):Prop where
 os:w'.os=w.os
 tape:w'.tape=w.tape
 output:w'.output=w.output
 size:w'.heap.size=w.heap.size+1
 at_:w'.heap[w.heap.size]? =aa ob
 other:∀ j,j<w.heap.size->w'.heap[j]? =w.heap[j]?
theorem qh.wset {φ:PM} {E:Nat->Prop} {h:HF} {w w':World} (r:qh φ E h w) {id k:Nat} {b b':vN} {ob:Obj} (hb:h id=aa b) (hk:φ id=aa k) (I:D3 w w' k ob) (hob:jd φ (tot E φ h) w b' ob) (nw:HF) (hnw:nw id=aa b'):
 iK φ φ h (eJ h [id] nw) w w'/\qh φ E (eJ h [id] nw) w':=by
 have hdom:∀ i,(∃ x,eJ h [id] nw i=aa x)↔∃ x,h i=aa x:=λi=>by
  unfold eJ;by_cases hi:i=id
  .subst hi;simp[hnw,hb]
  .simp[hi]
 have hown:∀ j,own φ (eJ h [id] nw) j↔own φ h j:=λj=>by
  constructor
  .rintro⟨i,x,h1,h2⟩;obtain⟨y,M⟩:=(hdom i).1 ⟨x,h1⟩;exact⟨i,y,M,h2⟩
  .rintro⟨i,x,h1,h2⟩;obtain⟨y,M⟩:=(hdom i).2 ⟨x,h1⟩;exact⟨i,y,M,h2⟩
 have m:iK φ φ h (eJ h [id] nw) w w':=by
  refine ⟨λ_ _ h=>h,⟨I.os,I.tape,I.output,by rw[I.size];exact bO _,λj hj ho=>?_,λj _=>I.shp j⟩,λj _ h=>(hown j).1 h⟩;exact I.other j (λe=>ho (e▸⟨id,b,hb,hk⟩))
 refine ⟨m,⟨λi j x y kk hi hj h1 h2=>?_,λi x hi=>?_,λk hk=>dl (r.el k hk) m.ext.size,λg cells hg=>m.keepF (r.gl g cells hg)⟩⟩
 .obtain⟨x',U⟩:=(hdom i).1 ⟨x,hi⟩;obtain⟨Z,J⟩:=(hdom j).1 ⟨y,hj⟩;exact r.inj i j x' Z kk U J h1 h2
 .by_cases hid:i=id
  .subst hid;have:x=b':=by unfold eJ at hi;simp[hnw] at hi;exact hi.symm
   subst this;obtain⟨k',h1,h2,_⟩:=r.at_ i b hb;rw[hk] at h1;cases h1;exact⟨k,hk,h2,ob,I.at_,hob.mono λ_ _ h=>m.keep h⟩
  .have Y:h i=aa x:=by unfold eJ at hi;simpa[hid] using hi
   obtain⟨k',h1,h2,ob',h3,h4⟩:=r.at_ i x Y;have hne:k'≠k:=λe=>hid (r.inj i id x b k Y hb (e▸h1) hk)
   exact⟨k',h1,h2,ob',by rw[I.other k' hne];exact h3,h4.mono λ_ _ h=>m.keep h⟩
theorem qh.wnew {φ:PM} {E:Nat->Prop} {h:HF} {w w':World} (r:qh φ E h w) {id:Nat} (hid:φ id=af) {b:vN} {ob:Obj} (M:QP w w' ob) (hob:jd φ (tot E φ h) w b ob) (del:List Nat) (nw:HF) (hnw:nw id=aa b) (hdel:∀ i∈del,i≠id->nw i=af):
 ∃ φ',φ' id=aa w.heap.size/\iK φ φ' h (eJ h (id::del) nw) w w'/\(∀ i k,φ' i=aa k->φ i=aa k\/i∈[id])/\qh φ' E (eJ h (id::del) nw) w':=by
 have hsub:∀ i x,eJ h (id::del) nw i=aa x->i≠id->h i=aa x/\i∉del:=λi x U hi=>by
  unfold eJ at U;by_cases hd:i∈del
  .rw[aI (by simp[hd]),hdel i hd hi] at U;cases U
  .rw[aC (by simp[hi,hd])] at U;exact⟨U,hd⟩
 have hlt:∀ i x k,h i=aa x->φ i=aa k->k<w.heap.size:=λi x k hi hk=>by
  obtain⟨k',h1,_,ob',Y,_⟩:=r.at_ i x hi;rw[hk] at h1;cases h1;exact (cu.1 Y).1
 have hφ:∀ i,i≠id->(if i=id then aa w.heap.size else φ i)=φ i:=λi hi=>by simp[hi]
 have m:iK φ (λi=>if i=id then aa w.heap.size else φ i) h (eJ h (id::del) nw) w w':=by
  refine ⟨λi k hk=>?_,⟨M.os,M.tape,M.output,by rw[M.size];omega,λj hj _=>M.other j hj,λj hj=>?_⟩,?_⟩
  .have:i≠id:=λe=>by rw[e,hid] at hk;cases hk
   rw[hφ i this];exact hk
  .unfold qM;rw[M.other j hj]
  .rintro j hj ⟨i,x,h1,h2⟩;by_cases hi:i=id
   .simp[hi] at h2;omega
   .have Y:φ i=aa j:=by simpa[hi] using h2
    exact⟨i,x,(hsub i x h1 hi).1,Y⟩
 refine ⟨_,by simp,m,λi k hk=>?_,⟨λi j x y k hi hj h1 h2=>?_,λi x hi=>?_,λk hk=>dl (r.el k hk) m.ext.size,λg cells hg=>m.keepF (r.gl g cells hg)⟩⟩
 .by_cases hi:i=id
  .right;simp[hi]
  .left;rw[hφ i hi] at hk;exact hk
 .by_cases I:i=id
  .by_cases J:j=id
   .rw[I,J]
   .exfalso;rw[hφ j J] at h2;have:=hlt j y k (hsub j y hj J).1 h2;simp[I] at h1;omega
  .rw[hφ i I] at h1;have hix:=(hsub i x hi I).1;by_cases J:j=id
   .exfalso;have:=hlt i x k hix h1;simp[J] at h2;omega
   .rw[hφ j J] at h2;exact r.inj i j x y k hix (hsub j y hj J).1 h1 h2
 .by_cases I:i=id
  .subst I;have:x=b:=by unfold eJ at hi;simp[hnw] at hi;exact hi.symm
   subst this;refine ⟨w.heap.size,by simp,λhe=>?_,ob,M.at_,hob.mono λ_ _ h=>m.keep h⟩;have:=r.el _ he;omega
  .obtain⟨k,h1,h2,ob',Y,Z⟩:=r.at_ i x (hsub i x hi I).1;refine ⟨k,by rw[hφ i I];exact h1,h2,ob',?_,Z.mono λ_ _ h=>m.keep h⟩;rw[M.other k (hlt i x k (hsub i x hi I).1 h1)];exact Y
theorem qj (w:World) (ob:Obj):QP w {w with heap:=w.heap.push ob} ob:=by
 refine ⟨rfl,rfl,rfl,by simp,by simp,λj hj=>?_⟩;rw[Array.getElem?_push,aC (by omega)]
theorem QP.drawn {w w':World} {ob:Obj} (d:Nat) (h:QP {w with drawn:=d} w' ob):QP w w' ob:=⟨h.os,h.tape,h.output,h.size,h.at_,h.other⟩
theorem gz.makes {P:Program} {o:Oper} {e:yA} {h:HF} {rd:List Nat} {nx:Nat} {b:vN} {val:AV}
 (hv:∀ (φ:PM) (E:Nat->Prop) (h':HF) (w:World) (a:Act),(∀ i∈rd,h' i=h i)->TZ φ E h' w a e o->qh φ E h' w->
   ∃ v w' ob,(execOp a.eval o).run P w= .ok (.value v) w'/\QP w w' ob/\jd φ (tot E φ h') w b ob/\∀ φ' O,φ' nx=aa w.heap.size->cG φ' O w' val v):
 gz P o e.get h ⟨val,rd,[nx],iP [(nx,b)],[nx]⟩:=by
 intro φ E h' w a h1 h2 Z I Y;obtain⟨v,w',ob,hrun,U,hob,hval⟩:=hv φ E h' w a h1 (λx y M J=>sj I Z M J) I;obtain⟨φ',g1,g2,g3,g4⟩:=I.wnew (id:=nx) (Y nx (by simp)) U hob [] (iP [(nx,b)]) (by simp[iP]) (by simp);unfold F0;rw[hrun];exact⟨v,φ',rfl,g2,g3,g4,hval φ' _ g1⟩
theorem gz.writes {P:Program} {o:Oper} {e:yA} {h:HF} {rd:List Nat} {id:Nat} {b b':vN} {val:AV} (hb:h id=aa b)
 (hv:∀ (φ:PM) (E:Nat->Prop) (h':HF) (w:World) (a:Act),(∀ i∈rd,h' i=h i)->h' id=aa b->TZ φ E h' w a e o->qh φ E h' w->
   ∃ r w' k ob,(execOp a.eval o).run P w= .ok r w'/\φ id=aa k/\D3 w w' k ob/\jd φ (tot E φ h') w b' ob/\(∃ v,(r= .value v\/r= .skip/\v=undef)/\cG φ (tot E φ (eJ h' [id] (iP [(id,b')]))) w' val v)):
 gz P o e.get h ⟨val,rd,[id],iP [(id,b')],[]⟩:=by
 intro φ E h' w a h1 h2 h3 I h5;obtain⟨r,w',k,ob,hrun,hk,Z,hob,v,hr,hval⟩:=hv φ E h' w a h1 (by rw[h2 id (by simp)];exact hb) (λx y Y U=>sj I h3 Y U) I;obtain⟨M,J⟩:=I.wset (id:=id) (by rw[h2 id (by simp)];exact hb) hk Z hob (iP [(id,b')]) (by simp[iP]);unfold F0;rw[hrun];rcases hr with rfl|⟨rfl,rfl⟩
 .exact⟨v,φ,rfl,M,λ_ _ h=>.inl h,J,hval⟩
 .exact⟨undef,φ,rfl,M,λ_ _ h=>.inl h,J,hval⟩
theorem lh {l:List AV} (h:gu l=ah):∀ x∈l,x.isCell=ah:=by
 induction l with
 |nil=>intro x I;cases I
 |cons y l J=>
  simp only[gu,au] at h;intro x I;rcases bh.1 I with rfl|I
  .exact h.1
  .exact J h.2 x I
theorem pa:∀ {l:List AV} {fs:List FV},wN l=aa fs->l=fs.map .f
 |[],fs,h=>by simp only[wN,aj] at h;subst h;rfl
 |.f x::r,fs,h=>by
  simp only[wN] at h;split at h
  .rename_i l hl;simp only[aj] at h;subst h;rw[pa hl];rfl
  .cases h
 |.ptr _ _::_,_,h=>by simp[wN] at h
 |.sl _ _ _::_,_,h=>by simp[wN] at h
 |.row _ _ _::_,_,h=>by simp[wN] at h
 |.mp _::_,_,h=>by simp[wN] at h
 |.emp::_,_,h=>by simp[wN] at h
 |.agg _::_,_,h=>by simp[wN] at h
 |.tup _::_,_,h=>by simp[wN] at h
 |.clo _ _::_,_,h=>by simp[wN] at h
def Cs (φ:PM) (O:Nat->Prop) (w:World) (l:List AV) (vs:List Value):Prop:=vs.length=l.length/\(∀ x∈l,x.isCell=ah)/\∀ (j:Nat) x v,l[j]? =aa x->vs[j]? =aa v->cG φ O w x v
theorem BC.get_toMx {c:BC} (hc:c.isCells=ah) (j:Nat):c.get j=c.toMx[j]? :=by
 cases c with
 |fz l=>simp[BC.get,BC.toMx]
 |mx l=>rfl
 |mp _=>cases hc
 |it _ _=>cases hc
theorem BC.len_toMx {c:BC} (hc:c.isCells=ah):c.len=c.toMx.length:=by
 cases c with
 |fz l=>simp[BC.len,BC.toMx]
 |mx l=>rfl
 |mp _=>cases hc
 |it _ _=>cases hc
theorem ng (l:List AV):(oP l).toMx=l/\(oP l).isCells=ah:=by
 unfold oP;cases h:wN l with
 |none=>exact⟨rfl,rfl⟩
 |some fs=>exact⟨(pa h).symm,rfl⟩
theorem pq {φ:PM} {O:Nat->Prop} {w:World} {ty:TypeId} {c:BC} (hc:c.isCells=ah) {arr:Array Value} (hl:c.toMx.length<=arr.size)
 (h:∀ (j:Nat) x,c.toMx[j]? =aa x->x.isCell=ah/\∃ v,arr[j]? =aa v/\cG φ O w x v):jd φ O w ⟨ty,c⟩ (.cells arr ty (0,0)):=by
 have h2:ul φ O w c arr:=⟨by rw[BC.len_toMx hc];exact hl,λj x I=>h j x (by rw[<- BC.get_toMx hc];exact I)⟩
 unfold jd;cases hb:c with
 |fz l=>rw[hb] at h2;exact⟨arr,rfl,h2⟩
 |mx l=>rw[hb] at h2;exact⟨arr,rfl,h2⟩
 |mp _=>rw[hb] at hc;cases hc
 |it _ _=>rw[hb] at hc;cases hc
theorem G2 {φ:PM} {O:Nat->Prop} {w:World} {ty:TypeId} {l:List AV} {vs:List Value} (h:Cs φ O w l vs):jd φ O w ⟨ty,oP l⟩ (.cells vs.toArray ty (0,0)):=by
 obtain⟨h1,h2⟩:=ng l;refine pq h2 (by rw[h1];simp[h.1]) λj x I=>?_
 rw[h1] at I;have hj:j<vs.length:=by rw[h.1];exact (bf.1 I).1
 exact⟨h.2.1 x (a8 I),vs[j],by simp[hj],h.2.2 j x _ I (ay hj)⟩
theorem Sy {φ:PM} {O:Nat->Prop} {w:World} {x:AV} {v:Value} (h:cG φ O w x v) (hc:gu x.cs=ah):Cs φ O w x.cs v.cells.toList:=by
 have one:x.cs=[x]->v.cells=#[v]->Cs φ O w x.cs v.cells.toList:=λh1 h2=>by
  rw[h1] at hc ⊢;rw[h2];exact⟨rfl,lh hc,λj y u I hu=>by cases j with|zero=>simp at I hu;subst I;subst hu;exact h|succ j=>simp at I⟩
 cases h with
 |ptr h=>exact one rfl rfl
 |sl h _ _=>exact one rfl rfl
 |row h _ _ _=>exact one rfl rfl
 |emp=>exact one rfl rfl
 |anyb=>exact one rfl rfl
 |mp h=>exact one rfl rfl
 |clo _ _=>exact one rfl rfl
 |tup _ _=>exact cW hc (by simp[AV.cs,gu,AV.isCell])
 |@agg l vs hl hcl hr=>exact⟨hl,hcl,hr⟩
 |@f y u hf=>
  cases hf with
  |raw v=>
   have hv:v.oneCell'=ah:=by
    have:(AV.f (.raw v)).cs=[.f (.raw v)]:=rfl;rw[this] at hc;simpa[gu,AV.isCell,FV.isCell] using hc
   refine one rfl ?_;cases v<;>first|rfl|simp[Value.oneCell'] at hv
  |nil=>exact one rfl rfl
  |sl=>exact one rfl rfl
  |ptr=>exact one rfl rfl
  |agg l vs hl hcl hr=>
   refine ⟨by simp[AV.cs,Value.cells,hl],lh hc,λj y u I hu=>?_⟩;simp only[AV.cs,aZ] at I;cases hq:l[j]? with
   |none=>rw[hq] at I;cases I
   |some q=>rw[hq] at I;simp at I;subst I;exact .f (hr j q u hq (by simpa[Value.cells] using hu))
theorem mR.one {O:Nat->Prop} {w:World} {x:FV} {v:Value} (h:mR O w x v) (hc:x.isCell=ah):v.oneCell'=ah:=by
 cases h with
 |raw v=>exact hc
 |nil=>rfl
 |sl=>rfl
 |ptr=>rfl
 |agg=>cases hc
theorem cG.one {φ:PM} {O:Nat->Prop} {w:World} {x:AV} {v:Value} (h:cG φ O w x v) (hc:x.isCell=ah):v.oneCell'=ah:=by
 cases h with
 |f h=>exact h.one hc
 |ptr=>rfl
 |sl=>rfl
 |row=>rfl
 |emp=>rfl
 |anyb=>rfl
 |mp=>rfl
 |agg=>cases hc
 |tup=>cases hc
 |clo=>rfl
theorem Cs.one {φ:PM} {O:Nat->Prop} {w:World} {l:List AV} {vs:List Value} (h:Cs φ O w l vs):∀ v∈vs,v.oneCell'=ah:=by
 intro v hv;obtain⟨j,hj⟩:=eQ hv;have hlt:j<l.length:=by rw[<- h.1];exact (bf.1 hj).1
 exact (h.2.2 j _ v (ay hlt) hj).one (h.2.1 _ (tR hlt))
theorem Cs.append {φ:PM} {O:Nat->Prop} {w:World} {l J:List AV} {vs vs':List Value} (h:Cs φ O w l vs) (h':Cs φ O w J vs'):Cs φ O w (l++J) (vs++vs'):=by
 refine ⟨by simp[h.1,h'.1],λx I=>(bR.1 I).elim (h.2.1 x) (h'.2.1 x),λj x v I hv=>?_⟩;rcases bV j l.length with hj|hj
 .rw[bL hj] at I;rw[bL (by rw[h.1];exact hj)] at hv;exact h.2.2 j x v I hv
 .rw[bW hj] at I;rw[bW (by rw[h.1];exact hj),h.1] at hv;exact h'.2.2 _ x v I hv
theorem Cs.take {φ:PM} {O:Nat->Prop} {w:World} {l:List AV} {vs:List Value} (h:Cs φ O w l vs) (n:Nat):Cs φ O w (l.take n) (vs.take n):=by
 refine ⟨by simp[h.1],λx I=>h.2.1 x (iT I),λj x v I hv=>?_⟩;rw[cH] at I hv;split at I
 .rename_i hj;rw[aI hj] at hv;exact h.2.2 j x v I hv
 .cases I
theorem Cs.drop {φ:PM} {O:Nat->Prop} {w:World} {l:List AV} {vs:List Value} (h:Cs φ O w l vs) (n:Nat):Cs φ O w (l.drop n) (vs.drop n):=by
 refine ⟨by simp[h.1],λx I=>h.2.1 x (List.mem_of_mem_drop I),λj x v I hv=>?_⟩;rw[gJ] at I hv;exact h.2.2 _ x v I hv
theorem Cs.splice {φ:PM} {O:Nat->Prop} {w:World} {l I:List AV} {vs vs':List Value} (h:Cs φ O w l vs) (h':Cs φ O w I vs') (off:Nat):Cs φ O w (splice l off I) (splice vs off vs'):=by
 unfold AI.splice;rw[h'.1];exact ((h.take off).append h').append (h.drop _)
theorem Cs.raws {φ:PM} {O:Nat->Prop} {w:World} (z:List Value) (J:me z=ah):Cs φ O w (z.map raw) z:=by
 refine ⟨by simp,λx I=>?_,λj x v I hv=>?_⟩
 .obtain⟨v,hv,rfl⟩:=dc.1 I;exact f_.1 J v hv
 .rw[aZ] at I;rw[hv] at I;simp at I;subst I;exact .f (.raw v)
theorem Cs.mono {φ φ':PM} {O O':Nat->Prop} {w w':World} {l:List AV} {vs:List Value} (h:Cs φ O w l vs) (hk:∀ x v,cG φ O w x v->cG φ' O' w' x v):Cs φ' O' w' l vs:=⟨h.1,h.2.1,λj x v I hv=>hk _ _ (h.2.2 j x v I hv)⟩
theorem D3.setRow {w:World} {k:Nat} {arr arr':Array Value} {ty:TypeId} (I:w.heap[k]? =aa (.cells arr ty (0,0))) (hs:arr'.size=arr.size):D3 w (w.setRow k arr') k (.cells arr' ty (0,0)):=by
 refine ⟨rfl,rfl,rfl,by simp,setRow_heap w k arr arr' ty (0,0) I,λj hj=>setRow_other w k j arr' hj,λj=>?_⟩;unfold qM;by_cases hj:j=k
 .subst hj;rw[setRow_heap w j arr arr' ty (0,0) I,I];simp[hs]
 .rw[setRow_other w k j arr' hj]
section
variable {P:Program} {o:Oper} {e:yA} {h:nB} {nx:Nat} {R:AX}
theorem su {t:TypeId} {z:List Value} (I:rQ P t=aa z) (w:World):∃ v,(zeroValue t).run P w= .ok v w/\v.cells.toList=z/\∃ i,P.info? t=aa i/\i.zero=aa v:=by
 unfold rQ at I;cases hi:P.info? t with
 |none=>rw[hi] at I;cases I
 |some i=>
  rw[hi] at I;simp only[aF] at I;cases hv:i.zero with
  |none=>rw[hv] at I;cases I
  |some v=>
   rw[hv] at I;simp only[b8,aj] at I;exact⟨v,by simp[zeroValue,typeInfo,hi,hv],I,i,rfl,hv⟩
theorem abw {t:TypeId} {z:List Value} (Y:o.op= .alloc t) (U:rQ P t=aa z) (hc:me z=ah) (M:eE (.alloc t z) e h nx=aa R):gz P o e.get h.get R.eff:=by
 simp only[eE,aj] at M;subst M;refine gz.makes λφ E h' w a _ _ _=>?_
 obtain⟨v,h1,h2,_⟩:=su U w;refine ⟨.pointer (aa ⟨w.heap.size,0,af⟩),{w with heap:=w.heap.push (.cells v.cells t)},.cells v.cells t (0,0),?_,qj w _,?_,λφ' O hφ=>.ptr hφ⟩
 .unfold execOp;rw[Y];simp[Instr.alloc,h1,newVar,newRow,newObj,mV]
 .have I:BC.toMx (.fz (z.map .raw))=z.map raw:=by simp[BC.toMx,raw]
  refine pq rfl (by rw[I,<-h2];simp) λj x J=>?_
  rw[I] at J;have cs:=Cs.raws (φ:=φ) (O:=tot E φ h') (w:=w) z hc;have hj:j<z.length:=by have:=(bf.1 J).1;simpa using this
  refine ⟨cs.2.1 x (a8 J),z[j],?_,cs.2.2 j x _ J (ay hj)⟩;have:v.cells.toList[j]? =aa z[j]:=by rw[h2];exact ay hj
  simpa using this
theorem ai8 {t:TypeId} {x:Operand} (J:o.op= .box t x) (I:eE (.box t x) e h nx=aa R):gz P o e.get h.get R.eff:=by
 simp only[eE] at I;split at I
 .rename_i v M;split at I
  .rename_i hc;simp only[aj] at I;subst I;refine gz.makes λφ E h' w a _ hp _=>?_
   have hr:=Sy (hp x _ (by rw[J];simp[Op.operands]) M) hc;refine ⟨.pointer (aa ⟨w.heap.size,0,af⟩),{w with heap:=w.heap.push (.cells (a.eval x).cells t)},.cells (a.eval x).cells t (0,0),?_,qj w _,?_,λφ' O hφ=>.ptr hφ⟩
   .unfold execOp;rw[J];simp[Instr.box,newVar,newRow,newObj,mV]
   .have:=G2 (ty:=t) hr;simpa using this
  .cases I
 .cases I
theorem mi {α:Type} {l vs:List α} {off:Nat} (hle:off+vs.length<=l.length) (j:Nat):(splice l off vs)[j]? =if j<off then l[j]? else if j<off+vs.length then vs[j-off]? else l[j]? :=by
 unfold splice;rw[jy];have h1:(l.take off).length=off:=by simp;omega
 by_cases hj:j<off
 .rw[aI hj,bL (by rw[h1];exact hj),cH,aI hj]
 .rw[aC hj,bW (by omega),h1];by_cases I:j<off+vs.length
  .rw[aI I,bL (by omega)]
  .rw[aC I,bW (by omega),gJ];congr 1;omega
theorem nS {α:Type} {l vs:List α} {off:Nat} (hle:off+vs.length<=l.length):(splice l off vs).length=l.length:=by
 unfold splice;simp;omega
theorem Pf (off:Nat):∀ (vs:List Value) (k:Nat) (arr:Array Value),off+k+vs.length<=arr.size->∀ j:Nat,
 ((vs.zipIdx k).foldl (λcs (p:Value×Nat)=>cs.setIfInBounds (off+p.2) p.1) arr)[j]? =if j<off+k then arr[j]? else if j<off+k+vs.length then vs[j-(off+k)]? else arr[j]?
 |[],k,arr,_,j=>by
  simp only[List.zipIdx_nil,List.foldl_nil,jF,db];split<;>rfl
 |v::vs,k,arr,hle,j=>by
  simp only[bU] at hle;rw[List.zipIdx_cons,Ea,Pf off vs (k+1) _ (by simp;omega) j];simp only[bU];by_cases h1:j<off+k
  .rw[aI (by omega),aI h1,pe (by omega)]
  .by_cases h2:j=off+k
   .subst h2;rw[aI (by omega),aC (by omega),aI (by omega)];simp[show off+k<arr.size by omega]
   .rw[aC (by omega),aC h1];by_cases I:j<off+k+(vs.length+1)
    .rw[aI (by omega),aI I,show j-(off+k)=(j-(off+(k+1)))+1 from by omega];simp
    .rw[aC (by omega),aC I,pe (by omega)]
theorem Pe (off:Nat) (c:Array Value) (l:List Value) (hle:off+c.size<=l.length):(c.zipIdx.foldl (λcs (p:Value×Nat)=>cs.setIfInBounds (off+p.2) p.1) l.toArray)=(splice l off c.toList).toArray:=by
 rw[<- Array.foldl_toList,Array.toList_zipIdx];apply Array.ext_getElem?;intro j;rw[Pf off c.toList 0 l.toArray (by simpa using hle) j];simp only[db,jW];rw[mi (by simpa using hle)]
theorem MO {φ:PM} {E:Nat->Prop} {h':HF} {w:World} {a:Act} (hp:TZ φ E h' w a e o) {place:Nat->Option (Nat×Nat)}:∀ (ps:List (Nat×Operand)) (ps':List (Nat×Nat×Operand)) (cells cs:List AV) (vs:List Value),
 (ps'.length=ps.length)->(∀ (j:Nat) i x,ps[j]? =aa (i,x)->∃ of sz,ps'[j]? =aa (of,sz,x)/\place i=aa (of,sz))->(∀ p∈ps,p.2∈o.op.operands)->Cs φ (tot E φ h') w cells vs->xW cells e ps'=aa cs->
 ∃ vs',Instr.fill place vs.toArray (ps.map λp=>(p.1,a.eval p.2))=aa vs'.toArray/\Cs φ (tot E φ h') w cs vs'
 |[],ps',cells,cs,vs,hl,_,_,hcs,hf=>by
  cases ps' with
  |nil=>simp only[xW,aj] at hf;subst hf;exact⟨vs,rfl,hcs⟩
  |cons _ _=>simp at hl
 |(i,x)::ps,ps',cells,cs,vs,hl,hpl,hm,hcs,hf=>by
  obtain⟨of,sz,h1,h2⟩:=hpl 0 i x rfl;cases ps' with
  |nil=>simp at h1
  |cons p ps'=>
   simp at h1;subst h1;simp only[xW] at hf;split at hf
   .rename_i v hv;split at hf
    .rename_i hc;simp only[au,cM] at hc;obtain⟨⟨M,J⟩,I⟩:=hc;have hr:=Sy (hp x v (hm _ (dH ..)) hv) I;have hsz:(a.eval x).cells.size=sz:=by have:=hr.1;simp at this;omega
     have hle:of+sz<=vs.length:=by rw[hcs.1];exact aY J
     obtain⟨vs',Y,U⟩:=MO hp ps ps' _ cs _ (by simpa using hl) (λj i x hj=>by have:=hpl (j+1) i x (by simpa using hj);simpa using this) (λp hp=>hm p (cN _ hp)) (hcs.splice hr of) hf;refine ⟨vs',?_,U⟩;simp only[fY,Instr.fill,h2];have hcd:((decide ((a.eval x).cells.size≠sz))||decide (of+(a.eval x).cells.size>vs.toArray.size))=ai:=by
      rw[hsz];simp;omega
     rw[aC (by rw[hcd];simp)];have:=Pe of (a.eval x).cells vs (by rw[hsz];exact hle);rw[<- Y,<-this]
    .cases hf
   .cases hf
theorem C_ {t:TypeId}:∀ (ps:List (Nat×Operand)) (ps':List (Nat×Nat×Operand)),vX P t ps=aa ps'->ps'.length=ps.length/\∀ (j:Nat) i x,ps[j]? =aa (i,x)->∃ of sz,ps'[j]? =aa (of,sz,x)/\Ah P t i=aa (of,sz)
 |[],ps',h=>by simp only[vX,aj] at h;subst h;exact⟨rfl,λj i x M=>by simp at M⟩
 |(i,x)::ps,ps',h=>by
  simp only[vX] at h;split at h
  .rename_i of sz l h1 h2;simp only[aj] at h;subst h;obtain⟨Y,U⟩:=C_ ps l h2;refine ⟨by simp[Y],λj J I hj=>?_⟩;cases j with
   |zero=>simp at hj;obtain⟨rfl,rfl⟩:=hj;exact⟨of,sz,rfl,h1⟩
   |succ j=>simpa using U j J I (by simpa using hj)
  .cases h
theorem G8 (w:World):∀ (fs:List Field),(fs.all λf=>(eX P f.type).isSome)=ah->(fs.mapM (λf=>do pure (f.offset,<-sizeOf f.type)):Sem (List (Nat×Nat))).run P w= .ok (fs.map λf=>(f.offset,(eX P f.type).getD 0)) w
 |[],_=>by simp
 |f::fs,h=>by
  simp only[List.all_cons,au] at h;obtain⟨sz,hs⟩:=iu.1 h.1;have h1:=gh hs w;have I:=G8 w fs h.2;simp only[List.mapM_cons,em,h1,cD,ol,I,fY,hs,tO]
theorem Vd {t:TypeId} {ps:Array (Nat×Operand)} {z:List Value} {ps':List (Nat×Nat×Operand)} (M:o.op= .build t ps) (Z:rQ P t=aa z) (hc:me z=ah) (hps:vX P t ps.toList=aa ps')
 (hu:(∃ fs,P.underlying t=aa (.struct fs)/\(fs.toList.all λf=>(eX P f.type).isSome)=ah)\/∃ n el sz,P.underlying t=aa (.array n el)/\eX P el=aa sz) (I:eE (.build z ps') e h nx=aa R):gz P o e.get h.get R.eff:=by
 simp only[eE] at I;split at I
 .rename_i cs hf;rw[dj I];refine gz.reads λφ E h' w a _ hp _=>?_
  obtain⟨v,h1,h2,_⟩:=su Z w;have hcells:v.cells=z.toArray:=by rw[<- h2]
  obtain⟨g1,g2⟩:=C_ ps.toList ps' hps;have hops:∀ p∈ps.toList,p.2∈o.op.operands:=λp hp=>by
   rw[M];simp only[Op.operands,List.mem_toArray,dc];exact⟨p,hp,rfl⟩
  have hmap:(ps.map λx:Nat×Operand=>(x.1,a.eval x.2)).toList=ps.toList.map λp=>(p.1,a.eval p.2):=by simp
  have fin:∀ place:Nat->Option (Nat×Nat),(∀ i,Ah P t i≠af->place i=Ah P t i)->∃ vs':List Value,Instr.fill place v.cells (ps.map λx:Nat×Operand=>(x.1,a.eval x.2)).toList=aa vs'.toArray/\cG φ (tot E φ h') w (K3 cs) (.agg vs'.toArray):=by
   intro place hpl;obtain⟨vs',k1,k2⟩:=MO (place:=place) hp ps.toList ps' _ cs z g1 (λj i x hj=>by
    obtain⟨of,sz,q1,Y⟩:=g2 j i x hj;exact⟨of,sz,q1,by rw[hpl i (by rw[Y];simp),Y]⟩) hops (Cs.raws z hc) hf
   refine ⟨vs',by rw[hmap,hcells];exact k1,?_⟩;unfold K3;cases hfs:wN cs with
   |none=>exact .agg k2.1 k2.2.1 k2.2.2
   |some fs=>
    have he:=pa hfs;refine .f (.agg fs vs' (by rw[k2.1,he];simp) (λx J=>k2.2.1 (.f x) (by rw[he];exact dc.2 ⟨x,J,rfl⟩)) λj x u J hu=>?_);have:=k2.2.2 j (.f x) u (by rw[he,aZ,J];rfl) hu;cases this with
    |f h=>exact h
  rcases hu with ⟨fs,hu,hall⟩|⟨n,el,sz,hu,hs⟩
  .obtain⟨vs',k1,k2⟩:=fin (λi=>(fs.map λf=>(f.offset,(eX P f.type).getD 0))[i]?) (λi hi=>by
    unfold Ah at hi ⊢;rw[hu] at hi ⊢;simp only[Array.getElem?_map] at hi ⊢;cases hf:fs[i]? with
    |none=>rw[hf] at hi;simp at hi
    |some f=>
     simp only[b8,aF];cases hs:eX P f.type with
     |none=>rw[hf] at hi;simp[hs] at hi
     |some sz=>simp)
   refine ⟨_,?_,k2⟩;have hm:=G8 w fs.toList hall;have U:(fs.mapM (λf=>do pure (f.offset,<-sizeOf f.type)):Sem (Array (Nat×Nat))).run P w= .ok (fs.map λf=>(f.offset,(eX P f.type).getD 0)) w:=by
    rw[Array.mapM_eq_mapM_toList];simp only[Sem.run_map,hm,cD];congr 1;apply Jx;simp
   unfold execOp;rw[M];simp only[Instr.build,em,h1,cD,run_underlying hu,U,ol,k1]
  .obtain⟨vs',k1,k2⟩:=fin (λi=>aa (i*sz,sz)) (λi hi=>by
    unfold Ah;rw[hu];simp[hs])
   refine ⟨_,?_,k2⟩;have h3:=gh hs w;unfold execOp;rw[M];simp only[Instr.build,em,h1,cD,run_underlying hu,h3,ol,k1]
 .cases I
end
section
variable {P:Program} {o:Oper} {e:yA} {h:nB} {nx:Nat} {R:AX}
theorem rx {t el:TypeId} (h:zD P t=aa el):P.underlying t=aa (.slice el):=by
 unfold zD at h;split at h
 .rename_i e hu;simp only[aj] at h;subst h;exact hu
 .cases h
theorem ml (z:List Value):∀ n,(repl z n).length=n*z.length
 |0=>by simp[repl]
 |n+1=>by simp[repl,ml z n,iz];omega
theorem Bs (z:List Value):∀ (n j:Nat),j<n*z.length->(repl z n)[j]? =(z[j%z.length]?).map .raw
 |0,j,h=>by simp at h
 |n+1,j,h=>by
  have I:0<z.length:=by
   rcases Jv z.length with h0|h0
   .rw[h0] at h;simp at h
   .exact h0
  rw[repl];rcases bV j z.length with hj|hj
  .rw[bL (by simpa using hj),aZ,Nat.mod_eq_of_lt hj]
  .rw[bW (by simpa using hj),bS,Bs z n (j-z.length) (by rw[iz] at h;omega),Nat.mod_eq_sub_mod hj]
theorem Vl {v:Value} {z:List Value} (hv:v.cells.toList=z) (n sz:Nat) (hl:z.length=sz) (hsz:sz≠0) (j:Nat) (hj:j<n*sz):
 ((xp (n*sz)).map (λi=>v.cells[i%v.cells.size]!))[j]? =z[j%sz]? :=by
 have hs:v.cells.size=sz:=by rw[<- hl,<-hv];simp
 have hlt:j%sz<v.cells.size:=by rw[hs];exact Nat.mod_lt _ (by omega)
 rw[Array.getElem?_map,Array.getElem?_range];simp only[hj,bC,b8,hs];rw[<- hv,cB,getElem!_pos v.cells _ hlt,gX hlt]
theorem Cs.repl {φ:PM} {O:Nat->Prop} {w:World} {v:Value} {z:List Value} (hv:v.cells.toList=z) (n sz:Nat) (hl:z.length=sz) (hsz:sz≠0) (hc:me z=ah):
 Cs φ O w ((repl z n).map .f) ((xp (n*sz)).map (λi=>v.cells[i%v.cells.size]!)).toList:=by
 have key:∀ (j:Nat) (x:AV),((AI.repl z n).map AV.f)[j]? =aa x->∃ u,z[j%sz]? =aa u/\x=raw u/\j<n*sz:=by
  intro j x I;rw[aZ] at I;have hj:j<n*z.length:=by
   rcases bV j (n*z.length) with h|h
   .exact h
   .rw[bK (by rw[ml];exact h)] at I;cases I
  rw[Bs z n j hj,hl] at I;cases hu:z[j%sz]? with
  |none=>rw[hu] at I;cases I
  |some u=>rw[hu] at I;simp at I;exact⟨u,rfl,I.symm,by rw[<- hl];exact hj⟩
 refine ⟨by simp[ml,hl],λx I=>?_,λj x u I hu=>?_⟩
 .obtain⟨j,hj⟩:=eQ I;obtain⟨u,h1,rfl,_⟩:=key j x hj;exact f_.1 hc u (a8 h1)
 .obtain⟨J,h1,rfl,hj⟩:=key j x I;rw[cB,Vl hv n sz hl hsz j hj,h1] at hu;cases hu;exact .f (.raw _)
theorem ai7 {t el:TypeId} {n sz:Nat} {ps:Array (Nat×Operand)} {z:List Value} {ps':List (Nat×Nat×Operand)} (Y:o.op= .buildSlice t n ps) (hu:P.underlying t=aa (.slice el)) (hz:rQ P el=aa z) (hs:eX P el=aa sz) (hc:me z=ah) (hl:z.length=sz) (hsz:sz≠0) (hb:n*sz<=65536)
 (hps:vX P t ps.toList=aa ps') (I:eE (.bsl el sz n z ps') e h nx=aa R):gz P o e.get h.get R.eff:=by
 simp only[eE] at I;split at I
 .rename_i cs hf;simp only[aj] at I;subst I;refine gz.makes λφ E h' w a _ hp _=>?_
  obtain⟨v,h1,h2,_⟩:=su hz w;obtain⟨g1,g2⟩:=C_ ps.toList ps' hps;have hops:∀ p∈ps.toList,p.2∈o.op.operands:=λp hp=>by
   rw[Y];simp only[Op.operands,List.mem_toArray,dc];exact⟨p,hp,rfl⟩
  have hmap:(ps.map λx:Nat×Operand=>(x.1,a.eval x.2)).toList=ps.toList.map λp=>(p.1,a.eval p.2):=by simp
  obtain⟨vs',k1,k2⟩:=MO (place:=λi=>aa (i*sz,sz)) hp ps.toList ps' _ cs _ g1 (λj i x hj=>by
   obtain⟨of,s',q1,J⟩:=g2 j i x hj;unfold Ah at J;rw[hu] at J;simp[hs] at J;obtain⟨rfl,rfl⟩:=J;exact⟨_,_,q1,rfl⟩) hops (Cs.repl h2 n sz hl hsz hc) hf
  have hcells:(xp (n*sz)).map ((if n*sz=0 then #[] else v.cells)[·%(if n*sz=0 then #[] else v.cells).size]!)=((xp (n*sz)).map (λi=>v.cells[i%v.cells.size]!)).toList.toArray:=by
   by_cases h0:n*sz=0
   .simp[h0]
   .rw[Array.toArray_toList];simp only[aC h0]
  have hlen:vs'.length=n*sz:=by
   have e1:=k2.1;have e2:cs.length=((AI.repl z n).map AV.f).length:=by
    have:∀ (ps':List (Nat×Nat×Operand)) (U M:List AV),xW U e ps'=aa M->M.length=U.length:=by
     intro ps';induction ps' with
     |nil=>intro U M h;simp only[xW,aj] at h;rw[h]
     |cons p ps' Z=>
      intro U M h;obtain⟨of,s',x⟩:=p;simp only[xW] at h;split at h
      .split at h
       .rename_i hcc;simp only[au,cM] at hcc;rw[Z _ _ h,nS (by rw[hcc.1.1];exact aY hcc.1.2)]
       .cases h
      .cases h
    exact this ps' _ _ hf
   rw[e1,e2];simp[ml,hl]
  refine ⟨.slice (aa ⟨w.heap.size,0,af⟩) n n,{w with heap:=w.heap.push (.cells vs'.toArray el)},.cells vs'.toArray el (0,0),?_,qj w _,G2 k2,λφ' O hφ=>?_⟩
  .have h3:=gh hs w;have hk:Instr.fill (λi=>aa (i*sz,sz)) ((xp (n*sz)).map ((if n*sz=0 then #[] else v.cells)[·%(if n*sz=0 then #[] else v.cells).size]!)) (ps.map λx:Nat×Operand=>(x.1,a.eval x.2)).toList=aa vs'.toArray:=by
    rw[hcells,hmap];exact k1
   unfold execOp;rw[Y];simp only[Instr.buildSlice,em,run_underlying hu,cD,h3];rw[aC (by omega)];by_cases h0:n*sz=0
   .simp only[aI h0] at hk ⊢;simp only[em,ol,cD,hk,newRow,newObj,mV]
   .simp only[aC h0] at hk ⊢;simp only[em,ol,cD,h1,hk,newRow,newObj,mV]
  .simp only[];split
   .rename_i h0;subst h0;exact .emp
   refine .row hφ (bO _) ?_ ⟨el,?_⟩
   .have:n<=n*sz:=Nat.le_mul_of_pos_right _ (by omega);unfold maxLen;omega
   .unfold qM;simp[hlen]
 .cases I
end
end
end Go.Proofs.YtkagidinekdnoaaGreatDoor.AI
