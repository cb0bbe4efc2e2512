/-
  Texts of the proof, part 4 of 6: what is used to prove the statement. No condition.
-/
import Derived.Test.YtecomllighcieaaGreatDoorHBStepsQ2
import Derived.KernelRfl
import Derived.WalkSpells
import Derived.Laws.CopyRow
import Derived.Deep.AppendSrc
import Derived.Laws.AppendOwn
namespace Go.Proofs.YtecomllighcieaaGreatDoor.AI
open Go.RowKit
set_option maxRecDepth 100000
set_option maxHeartbeats 4000000
set_option linter.unusedVariables false
set_option linter.unusedSimpArgs false
open _root_.Array renaming getElem?_eq_some_iff→b6,getElem?_toList→b8,getElem?_eq_getElem→em,length_toList→ic,getElem?_setIfInBounds_ne→kx,range→s9,ext'→wV
open _root_.Bool renaming and_eq_true→ak,not_true→cu,not_false→cF,not_eq_true'→cV,or_eq_true→eO
open Builtin renaming zeroCells→qB,firstCells→wU
open Call renaming operands→dj
open Instr renaming sliceBounds→fG,sliceBound→go,sliceAt→ki,slice→nQ
open _root_.Int renaming ofNat→ah,ofNat_eq_natCast→aj,toNat→aM,reduceEq→aT,natCast_nonneg→bA,reduceNeg→dw,le_refl→fM,ofNat_lt→gu,toNat_of_nonneg→uA
open IntKind renaming wrap→jN
open _root_.List renaming length→aa,getElem?_eq_getElem→aw,replicate→aF,mem_singleton→aH,getD_eq_getElem?_getD→aN,getElem?_map→aY,mem_of_getElem?→bc,getElem?_eq_some_iff→bg,mem_cons→bo,mem_append→bD,length_cons→bO,getElem?_eq_none→bU,getElem?_append_left→bV,not_mem_nil→cf,length_take→cj,getElem?_append_right→co,length_append→cq,getElem?_take→cr,length_map→cK,mem_map→cQ,mem_cons_of_mem→cS,getElem?_of_mem→db,take→dD,length_singleton→dM,getElem?_drop→dY,length_replicate→eE,map_cons→eL,mem_cons_self→eU,mem_of_mem_take→fa,mem_append_left→fb,range→fE,mem_append_right→gh,take_length→gm,length_nil→gY,getElem?_toArray→iP,append_assoc→jM,length_drop→lf,all_eq_true→li,map_take→mJ,getElem_mem→nY,size_toArray→qw,foldl_cons→uk
open _root_.Nat renaming eq_of_beq_eq_true→au,le_of_ble_eq_true→aW,zero_add→bw,mul_le_mul_right→bT,lt_or_ge→cA,le_refl→cD,lt_of_lt_of_le→cI,le_trans→cO,add_zero→cP,succ_mul→eM,min→eN,zero_le→nP,beq_refl→nW,add_assoc→pi,min_eq_left→ui
open Oper renaming wp→uS
open _root_.Option renaming bind_some→aC,map_some→bN,isSome_iff_exists→eK,getD_some→rK
open _root_.Option.some renaming injEq→ae
open _root_.Prod.mk renaming injEq→ay
open Result renaming andThen_ok→ca
open Sem renaming run_bind→cY,run→iO,run_pure→jL
open _root_.Sum renaming inr→af,inl→aO
open World renaming shape?→ma,cell?→xP
abbrev IT:Type:=Int×Int×Int×Int×Int×Int
abbrev CT:Type:=WT×List (Int×List IT)
theorem sG (a b:Int):fd (a,b)=some (decide (0≤a∧a<b)):=by
 refine ii ?_;unfold fd;with_reducible repeat' first|apply aQ|apply aA|apply aK|apply aU|apply a8|apply a9|apply aR|apply aV|apply bE|apply aL|apply bK|apply bL|refine aG (fun _=>?_) fun _=>?_|refine be (fun _=>?_) fun _=>?_|refine aE (fun _=>?_) fun _=>?_|refine aP (fun _=>?_) fun _=>?_|refine aX (fun _=>?_) fun _=>?_|refine ax (fun _=>?_) fun _=>?_|apply ba|apply ai
 ·by_cases h:a<b<;>simp[*,bz]
 ·simp;omega
theorem xK (k:Int):ko k=some (decide (1≤k∧k≤5)):=by
 refine ii ?_;unfold ko;with_reducible repeat' first|apply aQ|apply aA|apply aK|apply aU|apply a8|apply a9|apply aR|apply aV|apply bE|apply aL|apply bK|apply bL|refine aG (fun _=>?_) fun _=>?_|refine be (fun _=>?_) fun _=>?_|refine aE (fun _=>?_) fun _=>?_|refine aP (fun _=>?_) fun _=>?_|refine aX (fun _=>?_) fun _=>?_|refine ax (fun _=>?_) fun _=>?_|apply ba|apply ai
 ·by_cases h:k≤5<;>simp[*,b9]
 ·simp;omega
def mQ (i:IT):List Int:=
 if i.1=1∨i.1=6∨i.1=10∨i.1=27 then [i.2.1]
 else if i.1=2∨i.1=3 then [i.2.1,i.2.2.1]
 else if i.1=4 then [i.2.1,i.2.2.1,i.2.2.2.1]
 else if i.1=7 then [i.2.1,i.2.2.2.1]
 else if i.1=8∨i.1=26 then [i.2.2.1]
 else if i.1=9 then [i.2.2.1,i.2.2.2.1]
 else []
theorem pQ (i:IT):fA i=some (mQ i):=by
 obtain⟨i1,i2⟩:=i;unfold fA mQ;by_cases h1:i1=1
 ·subst h1;rfl
 by_cases h2:i1=6
 ·subst h2;rfl
 by_cases h3:i1=10
 ·subst h3;rfl
 by_cases h4:i1=27
 ·subst h4;rfl
 by_cases h5:i1=2
 ·subst h5;rfl
 by_cases h6:i1=3
 ·subst h6;rfl
 by_cases h7:i1=4
 ·subst h7;rfl
 by_cases h8:i1=7
 ·subst h8;rfl
 by_cases h9:i1=8
 ·subst h9;rfl
 by_cases h10:i1=26
 ·subst h10;rfl
 by_cases h11:i1=9
 ·subst h11;rfl
 simp only[h1,h2,h3,h4,h5,h6,h7,h8,h9,h10,h11,decide_false,uc,zF,or_false,if_false]
theorem vy (z:IT):(mQ z).length≤3:=by
 unfold mQ
 (repeat' split)<;>simp
theorem D5 (l:List IT) (a:Int) (hl:l.length≤1000000):Ok (nB (l,a)) fun _=>True:=by
 unfold nB;refine kz (fun x=>((l.length:Int)+1-x.2).toNat) (fun x=>0≤x.2∧x.2≤(l.length:Int)+1) ?_ ⟨by dsimp only;omega,by dsimp only;omega⟩;rintro⟨(a:Int),(n:Int)⟩ ⟨h0,h1⟩;dsimp only at h0 h1;refine be (fun g=>?_) fun _=>ai trivial
 dsimp only[aj] at g;refine bn (fun _=>True) ?_ fun b _=>ai ?_
 ·refine bn (fun b=>b=false→0≤a∧a<(l.length:Int)) ?_ ?_
  ·refine aG (fun _=>ai fun h=>(by cases h)) fun g1=>ai fun h=>?_
   rw[o9] at h;dsimp only[aj] at h g1;exact⟨g1,h⟩
  ·intro b hb;refine ax (fun _=>ai trivial) fun h=>?_
   obtain⟨q0,q1⟩:=hb h;refine aA q0 (by dsimp only;omega) (aL ?_);refine bC (xK _) ?_;refine aX (fun _=>ai trivial) fun _=>?_
   refine aA q0 (by dsimp only;omega) (aL ?_);refine aE (fun _=>?_) fun _=>ai trivial
   exact aA q0 (by dsimp only;omega) (aL (ai trivial))
 ·dsimp only;rw[io (by omega) (by omega)];exact⟨⟨by omega,by omega⟩,by omega⟩
theorem Ag (w:WT) (b n:Int):Ok (lP (w,b,n)) fun _=>True:=by
 unfold lP;refine bn (fun _=>True) ?_ fun _ _=>ai trivial
 refine bC (sG _ _) ?_;refine aE (fun h=>?_) fun _=>ai trivial
 dsimp only[aj] at h;with_reducible repeat' first|apply aQ|apply aA|apply aK|apply aU|apply a8|apply a9|apply aR|apply aV|apply bE|apply aL|apply bK|apply bL|refine aG (fun _=>?_) fun _=>?_|refine be (fun _=>?_) fun _=>?_|refine aE (fun _=>?_) fun _=>?_|refine aP (fun _=>?_) fun _=>?_|refine aX (fun _=>?_) fun _=>?_|refine ax (fun _=>?_) fun _=>?_|apply ba|apply ai
 all_goals try simp only[aj,decide_eq_true_eq,true_or,or_true,true_implies,true_and,and_true] at*
 all_goals first|omega|trivial
theorem A9 (w:WT) (i:IT):Ok (kK (w,i)) fun _=>True:=by
 unfold kK;simp only[sG,tB];refine aE (fun _=>?_) fun _=>?_
 ·refine bn (fun _=>True) ?_ fun _ _=>ai trivial
  refine aE (fun h=>?_) fun _=>ai trivial
  exact aA h.1 h.2 (aL (ai trivial))
 refine aE (fun _=>?_) fun _=>?_
 ·refine bn (fun _=>True) ?_ fun _ _=>ai trivial
  refine aE (fun h=>?_) fun _=>ai trivial
  exact aA h.1 h.2 (aL (ai trivial))
 refine aE (fun _=>?_) fun _=>?_
 ·exact al (Ag _ _ _) fun _ _=>ai trivial
 refine aE (fun _=>?_) fun _=>?_
 ·exact al (Ag _ _ _) fun _ _=>ai trivial
 refine bn (fun x=>x.2=(w,i)) (aE (fun _=>ai rfl) fun _=>ai rfl) ?_;rintro⟨b,x⟩ e;dsimp only at e;subst e;refine ax (fun _=>?_) fun _=>?_
 ·refine bn (fun _=>True) ?_ fun _ _=>ai trivial
  refine aE (fun h=>?_) fun _=>ai trivial
  exact aA h.1 h.2 (aL (ai trivial))
 refine bn (fun x=>x.2=(w,i)) (aE (fun _=>ai rfl) fun _=>aE (fun _=>ai rfl) fun _=>aE (fun _=>ai rfl) fun _=>ai rfl) ?_;rintro⟨b,x⟩ e;dsimp only at e;subst e;refine ax (fun _=>?_) fun _=>?_
 ·refine bn (fun _=>True) ?_ fun _ _=>ai trivial
  refine aE (fun h=>?_) fun _=>ai trivial
  exact aA h.1 h.2 (aL (ai trivial))
 refine bn (fun x=>x.2=(w,i)) (aE (fun _=>ai rfl) fun _=>aE (fun _=>ai rfl) fun _=>ai rfl) ?_;rintro⟨b,x⟩ e;dsimp only at e;subst e;refine ax (fun _=>ai trivial) fun _=>?_
 refine bn (fun x=>x.2=(w,i)) (aE (fun _=>ai rfl) fun _=>ai rfl) ?_;rintro⟨b,x⟩ e;dsimp only at e;subst e;with_reducible repeat' first|apply aQ|apply aA|apply aK|apply aU|apply a8|apply a9|apply aR|apply aV|apply bE|apply aL|apply bK|apply bL|refine aG (fun _=>?_) fun _=>?_|refine be (fun _=>?_) fun _=>?_|refine aE (fun _=>?_) fun _=>?_|refine aP (fun _=>?_) fun _=>?_|refine aX (fun _=>?_) fun _=>?_|refine ax (fun _=>?_) fun _=>?_|apply ba|apply ai
 all_goals trivial
structure VI (n:Int) (i:IT):Prop where
 o1:1≤i.1
 o2:i.1≤28
 r:∀ j∈mQ i,0≤j∧j<n
structure VT (t:Int×List IT):Prop where
 r0:0≤t.1
 r1:t.1≤32
 i:∀ i∈t.2,VI t.1 i
theorem vp (w:WT) (k:Int) (c:Int×List IT) (hc:c.2.length≤1000000):Ok (gF (w,k,c)) fun b=>b=true→VT c:=by
 unfold gF;refine bn (fun x=>x.2=(w,c)∧(x.1=false→0≤c.1∧c.1≤32)) ?_ ?_
 ·refine aG (fun _=>ai ⟨rfl,fun h=>(by cases h)⟩) fun h0=>aG (fun _=>ai ⟨rfl,fun h=>(by cases h)⟩) fun h1=>ai ⟨rfl,fun _=>⟨h0,h1⟩⟩
 rintro⟨b,x⟩ ⟨e,hb⟩;dsimp only at e hb;subst e;refine ax (fun _=>ai fun h=>(by cases h)) fun h=>?_
 obtain⟨r0,r1⟩:=hb h;refine bY c.2.length (fun i x=>x.1=(i:Int)∧x.2=(w,c)∧∀ k:Nat,k<i→VI c.1 (aB (T:=.st (.pr (.int .i64) (.pr (.int .i64) (.pr (.int .i64) (.pr (.int .i64) (.pr (.int .i64) (.int .i64))))))) c.2 (k:Int))) ?_ ?_ ⟨rfl,rfl,fun k hk=>by omega⟩
 ·rintro i ⟨a,x⟩ hi ⟨e1,e2,e3⟩;dsimp only at e1 e2 e3;subst e1;subst e2;refine aG (fun _=>?_) fun g=>(by dsimp only[aj] at g;omega)
  refine aA (by dsimp only;omega) (by dsimp only;omega) (aL ?_);generalize hz:(aB _ _)=z;refine bn (fun x=>x.2=(w,c,z)∧(x.1=false→1≤z.1∧z.1≤28)) ?_ ?_
  ·refine aG (fun _=>ai ⟨rfl,fun h=>(by cases h)⟩) fun h0=>aG (fun _=>ai ⟨rfl,fun h=>(by cases h)⟩) fun h1=>?_
   refine ax (fun _=>ai ⟨rfl,fun h=>(by cases h)⟩) fun _=>?_
   refine al (A9 w z) fun y _=>?_
   refine aX (fun _=>ai ⟨rfl,fun h=>(by cases h)⟩) fun _=>?_
   exact al (D5 c.2 _ hc) fun y _=>ai ⟨rfl,fun _=>⟨h0,h1⟩⟩
  rintro⟨b,x⟩ ⟨e,hb⟩;dsimp only at e hb;subst e;refine ax (fun _=>ai fun h=>(by cases h)) fun h=>?_
  obtain⟨o1,o2⟩:=hb h;refine bn (fun x=>x.2=(w,c,z)) ?_ ?_
  ·simp only[sG,tB];have key:∀ (f:Int×Int×Int→Bool),Ok (bcase (!decide (0≤z.2.2.2.2.2∧z.2.2.2.2.2<ah w.2.2.2.2.2.length)) (some (af (true,w,c,z)):Option (Bool⊕(Bool×WT×(Int×List IT)×IT))) (chk (aS z.2.2.2.2.2 w.2.2.2.2.2.length) fun _=>lt (aB (T:=.st (.pr (.int .i64) (.pr (.int .i64) (.int .i64)))) w.2.2.2.2.2 z.2.2.2.2.2).1 fun z9=>some (af (!decide ((z9:Int)=k),w,c,z)))) (fun r=>match r with|.inl r=>(match (r:Bool) with|_=>True)|.inr x=>x.2=(w,c,z)):=fun f=>by
    refine aP (fun _=>ai rfl) fun h=>?_
    exact aA h.1 h.2 (aL (ai rfl))
   with_reducible repeat' first|apply aQ|apply aA|apply aK|apply aU|apply a8|apply a9|apply aR|apply aV|apply bE|apply aL|apply bK|apply bL|refine aG (fun _=>?_) fun _=>?_|refine be (fun _=>?_) fun _=>?_|refine aE (fun _=>?_) fun _=>?_|refine aP (fun _=>?_) fun _=>?_|refine aX (fun _=>?_) fun _=>?_|refine ax (fun _=>?_) fun _=>?_|apply ba|apply ai
   all_goals first|rfl|(simp only[aj] at *;omega)|skip
  rintro⟨b,x⟩ e;dsimp only at e;subst e;refine ax (fun _=>ai fun h=>(by cases h)) fun _=>?_
  refine bn (fun x=>x.2=(w,c,z)) ?_ ?_
  ·simp only[sG,tB];with_reducible repeat' first|apply aQ|apply aA|apply aK|apply aU|apply a8|apply a9|apply aR|apply aV|apply bE|apply aL|apply bK|apply bL|refine aG (fun _=>?_) fun _=>?_|refine be (fun _=>?_) fun _=>?_|refine aE (fun _=>?_) fun _=>?_|refine aP (fun _=>?_) fun _=>?_|refine aX (fun _=>?_) fun _=>?_|refine ax (fun _=>?_) fun _=>?_|apply ba|apply ai
   all_goals rfl
  rintro⟨b,x⟩ e;dsimp only at e;subst e;refine ax (fun _=>ai fun h=>(by cases h)) fun _=>?_
  refine bC (pQ z) ?_;refine bY (mQ z).length (fun j x=>x.1=(j:Int)∧x.2=(w,c)∧∀ k:Nat,k<j→0≤aB (T:=.int .i64) (mQ z) (k:Int)∧aB (T:=.int .i64) (mQ z) (k:Int)<c.1) ?_ ?_ ⟨rfl,rfl,fun k hk=>by omega⟩
  ·rintro j ⟨a,x⟩ hj ⟨d1,d2,d3⟩;dsimp only at d1 d2 d3;subst d1;subst d2;refine aG (fun _=>?_) fun g=>(by dsimp only[aj] at g;omega)
   refine aA (by dsimp only;omega) (by dsimp only;omega) (aL ?_);refine bC (sG _ _) ?_;refine aP (fun _=>ai fun h=>(by cases h)) fun h=>ai ?_
   dsimp only at h ⊢;have hj32:(mQ z).length≤3:=vy z;refine ⟨hJ (by omega),rfl,fun k hk=>?_⟩;rcases cA k j with h1|h1
   ·exact d3 k h1
   ·rw[show k=j by omega];exact h
  ·rintro⟨a,x⟩ ⟨d1,d2,d3⟩;dsimp only at d1 d2 d3;subst d1;subst d2;refine aG (fun g=>(by dsimp only[aj] at g;omega)) fun _=>ai ?_
   dsimp only;refine ⟨hJ (by omega),rfl,fun k hk=>?_⟩;rcases cA k i with h1|h1
   ·exact e3 k h1
   ·rw[show k=i by omega,hz];exact⟨o1,o2,kg (T:=.int .i64) d3⟩
 ·rintro⟨a,x⟩ ⟨e1,e2,e3⟩;dsimp only at e1 e2 e3;subst e1;subst e2;refine aG (fun g=>(by dsimp only[aj] at g;omega)) fun _=>ai fun _=>⟨r0,r1,kg (T:=.st (.pr (.int .i64) (.pr (.int .i64) (.pr (.int .i64) (.pr (.int .i64) (.pr (.int .i64) (.int .i64))))))) (p:=VI c.1) e3⟩
structure VC (c:CT):Prop where
 vl:VL c.1
 tl:c.2.length=c.1.2.2.2.2.1.length
 t:∀ t∈c.2,VT t
structure CB (c:CT):Prop where
 th:c.2.length≤1000000
 ins:∀ t∈c.2,t.2.length≤1000000
theorem wJ (c:CT) (hb:CB c):Ok (j8 c) fun b=>b=true→VC c:=by
 obtain⟨w,l⟩:=c;obtain⟨h1,h2⟩:=hb;dsimp only at h1 h2;unfold j8;refine bn (fun x=>x.2=(w,l)∧(x.1=false→VL w∧l.length=w.2.2.2.2.1.length)) ?_ ?_
 ·refine al (qZ w) fun b hb=>?_
  refine aX (fun _=>ai ⟨rfl,fun h=>(by cases h)⟩) fun h=>ai ⟨rfl,fun h3=>⟨hb h,?_⟩⟩
  simp at h3;omega
 rintro⟨b,x⟩ ⟨e,hx⟩;dsimp only at e hx;subst e;refine ax (fun _=>ai fun h=>(by cases h)) fun h=>?_
 obtain⟨hv,hl⟩:=hx h;refine bY l.length (fun i x=>x.1=(i:Int)∧x.2=(w,l)∧∀ k:Nat,k<i→VT (aB (T:=(.st (.pr (.int .i64) (.sl (.st (.pr (.int .i64) (.pr (.int .i64) (.pr (.int .i64) (.pr (.int .i64) (.pr (.int .i64) (.int .i64))))))))))) l (k:Int))) ?_ ?_ ⟨rfl,rfl,fun k hk=>by omega⟩
 ·rintro i ⟨a,x⟩ hi ⟨e1,e2,e3⟩;dsimp only at e1 e2 e3;subst e1;subst e2;refine aG (fun _=>?_) fun g=>(by dsimp only[aj] at g;omega)
  refine aA (by dsimp only;omega) (by dsimp only;omega) (aL ?_);have hm:=bZ (T:=(.st (.pr (.int .i64) (.sl (.st (.pr (.int .i64) (.pr (.int .i64) (.pr (.int .i64) (.pr (.int .i64) (.pr (.int .i64) (.int .i64))))))))))) (xs:=l) (j:=(i:Int)) (by omega) (by omega);revert hm;generalize hz:(aB (T:=(.st (.pr (.int .i64) (.sl (.st (.pr (.int .i64) (.pr (.int .i64) (.pr (.int .i64) (.pr (.int .i64) (.pr (.int .i64) (.int .i64))))))))))) l (i:Int))=z;intro hm;refine al (vp w _ z (h2 z hm)) fun b hb=>?_
  refine aX (fun _=>ai fun h=>(by cases h)) fun h=>ai ?_
  dsimp only;refine ⟨hJ (by omega),rfl,fun k hk=>?_⟩;rcases cA k i with h1|h1
  ·exact e3 k h1
  ·rw[show k=i by omega,hz];exact hb h
 ·rintro⟨a,x⟩ ⟨e1,e2,e3⟩;dsimp only at e1 e2 e3;subst e1;subst e2;refine aG (fun g=>(by dsimp only[aj] at g;omega)) fun _=>ai fun _=>⟨hv,hl,kg (T:=(.st (.pr (.int .i64) (.sl (.st (.pr (.int .i64) (.pr (.int .i64) (.pr (.int .i64) (.pr (.int .i64) (.pr (.int .i64) (.int .i64))))))))))) (p:=VT) e3⟩
abbrev TT:Type:=Int×List Int×List (List Int)×Int
structure TL (E:Nat) (l:List Int):Prop where
 a:Asc l
 m:∀ y∈l,0≤y∧y<(E:Int)
theorem asc_len:∀ (l:List Int) (lo hi:Int),Asc l→(∀ y∈l,lo≤y∧y<hi)→(l.length:Int)≤max 0 (hi-lo)
 |[],lo,hi,_,_=>by simp;omega
 |x::r,lo,hi,h,hm=>by
  have h1:=hm x (eU ..);have h2:=asc_len r (x+1) hi h.2 fun y hy=>⟨by have:=h.1 y hy;omega,(hm y (cS _ hy)).2⟩
  rw[bO];omega
theorem TL.len {E:Nat} {l:List Int} (h:TL E l):l.length≤E:=by
 have:=asc_len l 0 E h.a h.m;omega
theorem TL.nil (E:Nat):TL E []:=⟨trivial,fun y hy=>(by cases hy)⟩
theorem TL.uni {E:Nat} {a b:List Int} (ha:TL E a) (hb:TL E b):TL E (yV a b):=
 ⟨Dw a b,fun y hy=>by
   rcases Du.1 hy with h|h
   ·exact ha.m y h
   ·exact hb.m y h⟩
theorem TL.mono {E F:Nat} {l:List Int} (h:TL E l) (hf:E≤F):TL F l:=⟨h.a,fun y hy=>⟨(h.m y hy).1,by have:=(h.m y hy).2;omega⟩⟩
structure TH (E:Nat) (s:TT):Prop where
 r:s.2.1.length≤32
 t:s.2.2.1.length≤32
 l:∀ l∈s.2.2.1,TL E l
 e0:0≤s.2.2.2
 e1:s.2.2.2≤(E:Int)
theorem TH.zero (E:Nat):TH E (0,[],[],0):=⟨by simp,by simp,fun l hl=>(by cases hl),by simp,by simp⟩
theorem TH.mono {E F:Nat} {s:TT} (h:TH E s) (hf:E≤F):TH F s:=⟨h.r,h.t,fun l hl=>(h.l l hl).mono hf,h.e0,by have:=h.e1;omega⟩
theorem cB (s:TT) (E:Nat) (hE:E≤100000) (h:TH E s):bJ s=some ((s.1,s.2.2.2),s.2.1,s.2.2.1):=by
 obtain⟨h1,h2,h3,h4,h5⟩:=h;refine ii ?_;unfold bJ;refine aK (by simp;omega) (by omega) ?_;refine bY s.2.2.1.length (fun i x=>x.1=(i:Int)∧x.2.1=s∧x.2.2.2.1=(s.1,s.2.2.2)∧x.2.2.2.2.1=s.2.1∧x.2.2.2.2.2=s.2.2.1.take i) ?_ ?_ ⟨rfl,rfl,rfl,rfl,rfl⟩
 ·rintro i ⟨a,b,c,d,e,f⟩ hi ⟨e1,e2,e3,e4,e5⟩;dsimp only at e1 e2 e3 e4 e5;subst e1;subst e2;subst e5;refine aG (fun _=>?_) fun g=>(by dsimp only[aj] at g;omega)
  refine aA (by dsimp only;omega) (by dsimp only;omega) (aL ?_);have hz:=(h3 _ (bZ (T:=.sl (.int .i64)) (xs:=b.2.2.1) (j:=(i:Int)) (by omega) (by omega))).len;refine aK (by simp only[gY,bw];exact cO hz (by omega)) (by omega) ?_;refine aK (by simp;omega) (by omega) (ai ?_);dsimp only;refine ⟨hJ (by omega),rfl,e3,e4,?_⟩;rw[Fz (T:=.sl (.int .i64)) hi];rfl
 ·rintro⟨a,b,c,d,e,f⟩ ⟨e1,e2,e3,e4,e5⟩;dsimp only at e1 e2 e3 e4 e5;subst e1;subst e2;subst e5;refine aG (fun g=>(by dsimp only[aj] at g;omega)) fun _=>ai ?_
  show (d,e,_)=_;rw[e3,e4,gm]
theorem oK (b:Bool):Ok (dE b) fun _=>True:=by
 unfold dE;with_reducible repeat' first|apply aQ|apply aA|apply aK|apply aU|apply a8|apply a9|apply aR|apply aV|apply bE|apply aL|apply bK|apply bL|refine aG (fun _=>?_) fun _=>?_|refine be (fun _=>?_) fun _=>?_|refine aE (fun _=>?_) fun _=>?_|refine aP (fun _=>?_) fun _=>?_|refine aX (fun _=>?_) fun _=>?_|refine ax (fun _=>?_) fun _=>?_|apply ba|apply ai
 all_goals trivial
theorem ut (n:Int):Ok (ig n) fun _=>True:=by
 unfold ig;with_reducible repeat' first|apply aQ|apply aA|apply aK|apply aU|apply a8|apply a9|apply aR|apply aV|apply bE|apply aL|apply bK|apply bL|refine aG (fun _=>?_) fun _=>?_|refine be (fun _=>?_) fun _=>?_|refine aE (fun _=>?_) fun _=>?_|refine aP (fun _=>?_) fun _=>?_|refine aX (fun _=>?_) fun _=>?_|refine ax (fun _=>?_) fun _=>?_|apply ba|apply ai
 all_goals trivial
theorem Ew (x:Int×Int):Ok (nE x) fun _=>True:=by
 unfold nE;refine aE (fun _=>ai trivial) fun _=>aE (fun _=>?_) fun _=>ai trivial
 exact al (oK _) fun _ _=>ai trivial
theorem Dm (x:Int×Int×Int):Ok (mz x) fun _=>True:=by
 unfold mz;have t1:∀ b,Ok (obind (dE b) fun y=>some (y,true)) fun _=>True:=fun b=>al (oK _) fun _ _=>ai trivial
 refine aE (fun _=>ai trivial) fun _=>aE (fun _=>ai trivial) fun _=>aE (fun _=>ai trivial) fun _=>?_
 refine aE (fun _=>aE (fun _=>ai trivial) fun h=>aR h (ai trivial)) fun _=>?_
 refine aE (fun _=>aE (fun _=>ai trivial) fun h=>aR h (ai trivial)) fun _=>?_
 refine aE (fun _=>t1 _) fun _=>aE (fun _=>t1 _) fun _=>aE (fun _=>t1 _) fun _=>aE (fun _=>t1 _) fun _=>aE (fun _=>t1 _) fun _=>aE (fun _=>t1 _) fun _=>?_
 refine aE (fun _=>bn (fun _=>True) (aP (fun _=>al (oK _) fun _ _=>ai trivial) fun _=>al (oK _) fun _ _=>ai trivial) fun _ _=>ai trivial) fun _=>?_
 exact aE (fun _=>bn (fun _=>True) (aP (fun _=>al (oK _) fun _ _=>ai trivial) fun _=>al (oK _) fun _ _=>ai trivial) fun _ _=>ai trivial) fun _=>ai trivial
theorem Cp (E:Nat) (hE:E≤100000) (i:IT) (p:Int×Int) (R:List Int) (T:List (List Int)) (hr:∀ j∈mQ i,0≤j∧j<(R.length:Int)) (o1:1≤i.1) (o2:i.1≤5) (hR:R.length≤32) (hT:T.length=R.length) (hl:∀ l∈T,TL E l):Ok (oU ((i,p),R,T)) fun y=>y.1.1.2=p.2∧y.2.1.length=R.length∧y.2.2.length=T.length∧∀ l∈y.2.2,TL E l:=by
 unfold oU;refine bC (pQ i) ?_;have h3:=vy i;refine bY (mQ i).length (fun j x=>x.1=(j:Int)∧x.2.1=R∧x.2.2.1=T∧x.2.2.2.1=i∧x.2.2.2.2.1=p) ?_ ?_ ⟨rfl,rfl,rfl,rfl,rfl⟩
 ·rintro j ⟨a,b,c,d,e⟩ hj ⟨e1,e2,e3,e4,e5⟩;dsimp only at e1 e2 e3 e4 e5;subst e1;subst e2;subst e3;subst e4;refine aG (fun _=>?_) fun g=>(by dsimp only[aj] at g;omega)
  have hz:=hr _ (bZ (T:=.int .i64) (xs:=mQ d) (j:=(j:Int)) (by omega) (by omega));refine bn (fun x=>x.2=(b,c,d,e)∧x.1=false) ?_ ?_
  ·refine aA (by dsimp only;omega) (by dsimp only;omega) (aL ?_);refine aG (fun g=>?_) fun _=>?_
   ·dsimp only at g;omega
   refine aA (by dsimp only;omega) (by dsimp only;omega) (aL (ai ⟨rfl,?_⟩));dsimp only;rw[o9];exact hz.2
  rintro⟨b',x⟩ ⟨f1,f2⟩;dsimp only at f1 f2;subst f1;subst f2;refine ax (fun h=>(by cases h)) fun _=>ai ?_
  dsimp only;exact⟨hJ (by omega),rfl,rfl,rfl,e5⟩
 ·rintro⟨a,b,c,d,e⟩ ⟨e1,e2,e3,e4,e5⟩;dsimp only at e1 e2 e3 e4 e5;subst e1;subst e2;subst e3;subst e4;refine aG (fun g=>(by dsimp only[aj] at g;omega)) fun _=>?_
  obtain⟨e,e'⟩:=e;dsimp only at e5;subst e5;refine al (P:=fun y=>y.1.1.2=e.2∧y.2.1.length=b.length∧y.2.2.length=c.length∧∀ l∈y.2.2,TL E l) ?_ fun r hr=>ai hr
  have hA:d.1≠5→0≤d.2.1∧d.2.1<(b.length:Int):=fun h5=>hr _ (by
   unfold mQ;(repeat' split)<;>simp<;>omega)
  have hB:2≤d.1→d.1≠5→0≤d.2.2.1∧d.2.2.1<(b.length:Int):=fun h2 h5=>hr _ (by
   unfold mQ;(repeat' split)<;>simp<;>omega)
  have hC:d.1=4→0≤d.2.2.2.1∧d.2.2.2.1<(b.length:Int):=fun h5=>hr _ (by
   unfold mQ;(repeat' split)<;>simp<;>omega)
  have hg:∀ {j:Int},0≤j→j<(b.length:Int)→TL E (aB (T:=.sl (.int .i64)) c j):=fun h0 h1=>hl _ (bZ (T:=.sl (.int .i64)) (xs:=c) h0 (by rw[hT];exact h1))
  refine bn (fun x=>x.2.1=b∧x.2.2.1=c∧x.2.2.2.1=d∧x.2.2.2.2.1=e∧TL E x.1.2.2∧d.1≠5) ?_ ?_
  ·refine aE (fun _=>ai ⟨rfl,rfl,rfl,hl⟩) fun n5=>?_
   refine aE (fun _=>ai ⟨rfl,rfl,rfl,rfl,TL.nil E,n5⟩) fun n1=>?_
   dsimp only at n1 n5;obtain⟨b0,b1⟩:=hB (by omega) n5;refine aE (fun _=>?_) fun n2=>?_
   ·refine aA b0 b1 (aA b0 b1 (aL ?_));refine aA b0 (by dsimp only;rw[hT];exact b1) (aA b0 (by dsimp only;rw[hT];exact b1) (aL ?_));exact ai ⟨rfl,rfl,rfl,rfl,hg b0 b1,n5⟩
   refine aE (fun _=>?_) fun n3=>?_
   ·refine al (ut _) fun y _=>?_
    refine aA b0 b1 (aA b0 b1 (aL ?_));refine al (Ew _) fun y _=>?_
    refine aA b0 (by dsimp only;rw[hT];exact b1) (aA b0 (by dsimp only;rw[hT];exact b1) (aL ?_));exact ai ⟨rfl,rfl,rfl,rfl,hg b0 b1,n5⟩
   dsimp only at n2 n3;obtain⟨c0,c1⟩:=hC (by omega);refine al (ut _) fun y _=>?_
   refine aA b0 b1 (aA b0 b1 (aL ?_));refine aA c0 c1 (aA c0 c1 (aL ?_));refine al (Dm _) fun y _=>?_
   refine aA b0 (by dsimp only;rw[hT];exact b1) (aA b0 (by dsimp only;rw[hT];exact b1) (aL ?_));refine aA c0 (by dsimp only;rw[hT];exact c1) (aA c0 (by dsimp only;rw[hT];exact c1) (aL ?_));have g1:=hg b0 b1;have g2:=hg c0 c1;refine bC (Am _ _ (cO g1.len (by omega)) (cO g2.len (by omega))) ?_;exact ai ⟨rfl,rfl,rfl,rfl,g1.uni g2,n5⟩
  rintro⟨⟨v,ok,tn⟩,b',c',d',e',e''⟩ ⟨f1,f2,f3,f4,f5,f6⟩;dsimp only at f1 f2 f3 f4 f5 f6;subst f1;subst f2;subst f3;subst f4;obtain⟨a0,a1⟩:=hA f6;have ht:=f5.len;refine aK (by simp;omega) (by omega) ?_;refine aA a0 a1 (aA a0 a1 (aA a0 (by dsimp only;rw[hT];exact a1) (aA a0 (by dsimp only;rw[hT];exact a1) (ai ?_))));refine ⟨rfl,cJ ..,cJ ..,fun l hm=>?_⟩;rcases vr hm with h|h
  ·exact hl l h
  ·rw[h];exact f5
theorem C7 (E:Nat) (hE:E≤100000) (c:Int×List IT) (hc:c.2.length≤1000000) (hv:VT c) (s:TT) (h:TH E s):Ok (dh (c,s)) fun y=>TH E y.1:=by
 unfold dh;have hs0:=h;obtain⟨h1,h2,h3,h4,h5⟩:=h;refine bn (fun x=>x.2.1=c∧x.2.2.1=s∧(x.1=false→(s.2.1.length:Int)=c.1∧(s.2.2.1.length:Int)=c.1)) ?_ ?_
 ·refine aP (fun _=>ai ⟨rfl,rfl,fun h=>(by cases h)⟩) fun g=>ai ⟨rfl,rfl,fun h=>?_⟩
  simp at h;exact⟨g,h⟩
 rintro⟨b,c',s',z⟩ ⟨e1,e2,e3⟩;dsimp only at e1 e2 e3;subst e1;subst e2;refine ax (fun _=>ai (TH.zero E)) fun hb=>?_
 obtain⟨q1,q2⟩:=e3 hb;refine bC (cB s' E hE hs0) ?_;refine kz (fun x=>((c'.2.length:Int)+1-x.1).toNat) (fun x=>0≤x.1∧x.1≤(c'.2.length:Int)+1∧x.2.1=c'∧x.2.2.1.2=s'.2.2.2∧x.2.2.2.2.1.length=s'.2.1.length∧x.2.2.2.2.2.length=s'.2.2.1.length∧∀ l∈x.2.2.2.2.2,TL E l) ?_ ⟨by dsimp only;omega,by dsimp only;omega,rfl,rfl,rfl,rfl,h3⟩;rintro⟨(n:Int),c,⟨(pc:Int),ev⟩,z',R,T⟩ ⟨n0,n1,e1,e2,e3,e4,e5⟩;dsimp only at n0 n1 e1 e2 e3 e4 e5;subst e1;subst e2;refine be (fun g=>?_) fun _=>ai (TH.zero E)
 dsimp only[aj] at g;refine bn (fun x=>x.2=(c,(pc,s'.2.2.2),z',R,T)∧(x.1=false→0≤pc∧pc<(c.2.length:Int))) ?_ ?_
 ·refine aG (fun _=>ai ⟨rfl,fun h=>(by cases h)⟩) fun g1=>ai ⟨rfl,fun h=>?_⟩
  dsimp only at g1 h;rw[o9] at h;exact⟨g1,h⟩
 rintro⟨b',x⟩ ⟨f1,f2⟩;dsimp only at f1 f2;subst f1;refine ax (fun _=>ai (TH.zero E)) fun hb=>?_
 obtain⟨p0,p1⟩:=f2 hb;refine aA p0 p1 (aL ?_);have hi:=hv.i _ (bZ (T:=(.st (.pr (.int .i64) (.pr (.int .i64) (.pr (.int .i64) (.pr (.int .i64) (.pr (.int .i64) (.int .i64)))))))) (xs:=c.2) (j:=pc) p0 p1);revert hi;generalize (aB (T:=(.st (.pr (.int .i64) (.pr (.int .i64) (.pr (.int .i64) (.pr (.int .i64) (.pr (.int .i64) (.int .i64)))))))) _ _)=i;intro hi;refine bC (xK _) ?_;refine aP (fun _=>ai ⟨by dsimp only;omega,by dsimp only;omega,e5,h4,h5⟩) fun hsil=>?_
 refine aE (fun _=>ai (TH.zero E)) fun hn=>?_
 dsimp only[aj] at hn;refine al (Cp E hE i (pc,s'.2.2.2) R T (fun j hj=>by have:=hi.r j hj;omega) hsil.1 hsil.2 (by omega) (by omega) e5) fun y hy=>?_
 obtain⟨⟨⟨pc',ev'⟩,ok⟩,R',T'⟩:=y;obtain⟨k1,k2,k3,k4⟩:=hy;dsimp only at k1 k2 k3 k4;refine aQ (aV k3.symm (aQ (aV k2.symm (bE ?_))));refine aX (fun _=>ai (TH.zero E)) fun _=>ai ?_
 dsimp only;rw[io (by omega) (by omega)];exact⟨⟨by omega,by omega,rfl,k1,by omega,by omega,k4⟩,by omega⟩
abbrev ST:Type:=SY×List Int×List Int×List TT
structure TF (c:Int×List IT) (t:TT):Prop where
 p0:0≤t.1
 p1:t.1<(c.2.length:Int)
 r:(t.2.1.length:Int)=c.1
 t:(t.2.2.1.length:Int)=c.1
structure FSq (c:CT) (s:ST):Prop where
 vc:VC c
 cd:∀ d∈c.1.2.2.1,0≤d.2∧d.2<(c.1.2.1.length:Int)
 e3:s.1.2.2.2.length=c.1.2.2.2.2.1.length
 ce:s.2.1.length=c.1.1.length
 fu:s.2.2.1.length=c.1.2.2.2.1.length
 th:s.2.2.2.length=c.2.length
 t:∀ k:Nat,k<c.2.length→TF (aB (T:=(.st (.pr (.int .i64) (.sl (.st (.pr (.int .i64) (.pr (.int .i64) (.pr (.int .i64) (.pr (.int .i64) (.pr (.int .i64) (.int .i64))))))))))) c.2 (k:Int)) (aB (T:=(.st (.pr (.int .i64) (.pr (.sl (.int .i64)) (.pr (.sl (.sl (.int .i64))) (.int .i64)))))) s.2.2.2 (k:Int))
structure SV (n:Nat) (s:ST):Prop where
 sb:SB n s.1
 t:∀ t∈s.2.2.2,TH n t
theorem Ff (c:CT) (s:ST) (hc:CB c):Ok (oS (c,s)) fun b=>b=true→FSq c s:=by
 unfold oS;refine bn (fun x=>x.2=(c,s)∧(x.1=false→VC c∧(∀ d∈c.1.2.2.1,0≤d.2∧d.2<(c.1.2.1.length:Int))∧s.1.2.2.2.length=c.1.2.2.2.2.1.length∧s.2.1.length=c.1.1.length∧s.2.2.1.length=c.1.2.2.2.1.length∧s.2.2.2.length=c.2.length)) ?_ ?_
 ·refine al (wJ c hc) fun b hb=>?_
  refine aX (fun _=>ai ⟨rfl,fun h=>(by cases h)⟩) fun h=>?_
  have hv:=hb h;refine al (yO c.1 s.1 (by have:=hv.vl.d;omega)) fun b2 hb2=>?_
  refine aX (fun _=>ai ⟨rfl,fun h=>(by cases h)⟩) fun h2=>?_
  obtain⟨g1,_,_,g4⟩:=hb2 h2;refine aP (fun _=>ai ⟨rfl,fun h=>(by cases h)⟩) fun k1=>?_
  refine aP (fun _=>ai ⟨rfl,fun h=>(by cases h)⟩) fun k2=>ai ⟨rfl,fun k3=>⟨hv,g1,g4,?_,?_,?_⟩⟩
  ·dsimp only[aj] at k1;omega
  ·dsimp only[aj] at k2;omega
  ·simp at k3;omega
 rintro⟨b,x⟩ ⟨e,hb⟩;dsimp only at e hb;subst e;refine ax (fun _=>ai fun h=>(by cases h)) fun h=>?_
 obtain⟨hv,hcd,h3,hce,hfu,hth⟩:=hb h;have hcl:=hc.th;refine bY c.2.length (fun i x=>x.1=(i:Int)∧x.2=(c,s)∧∀ k:Nat,k<i→TF (aB (T:=(.st (.pr (.int .i64) (.sl (.st (.pr (.int .i64) (.pr (.int .i64) (.pr (.int .i64) (.pr (.int .i64) (.pr (.int .i64) (.int .i64))))))))))) c.2 (k:Int)) (aB (T:=(.st (.pr (.int .i64) (.pr (.sl (.int .i64)) (.pr (.sl (.sl (.int .i64))) (.int .i64)))))) s.2.2.2 (k:Int))) ?_ ?_ ⟨rfl,rfl,fun k hk=>by omega⟩
 ·rintro i ⟨a,x⟩ hi ⟨e1,e2,e3⟩;dsimp only at e1 e2 e3;subst e1;subst e2;refine aG (fun _=>?_) fun g=>(by dsimp only[aj] at g;omega)
  have hin:((i:Nat):Int)<(c.2.length:Int):=by omega
  refine aA (by dsimp only;omega) (by dsimp only;omega) (aL ?_);refine bn (fun x=>x.2=(c,s)∧(x.1=false→TF (aB (T:=(.st (.pr (.int .i64) (.sl (.st (.pr (.int .i64) (.pr (.int .i64) (.pr (.int .i64) (.pr (.int .i64) (.pr (.int .i64) (.int .i64))))))))))) c.2 (i:Int)) (aB (T:=(.st (.pr (.int .i64) (.pr (.sl (.int .i64)) (.pr (.sl (.sl (.int .i64))) (.int .i64)))))) s.2.2.2 (i:Int)))) ?_ ?_
  ·refine aG (fun _=>ai ⟨rfl,fun h=>(by cases h)⟩) fun g0=>?_
   refine aA (by dsimp only;omega) hin (aL ?_);refine be (fun _=>ai ⟨rfl,fun h=>(by cases h)⟩) fun g1=>?_
   refine aA (by dsimp only;omega) hin (aL ?_);refine aP (fun _=>ai ⟨rfl,fun h=>(by cases h)⟩) fun g2=>?_
   refine aA (by dsimp only;omega) hin (aL (ai ⟨rfl,fun g3=>⟨g0,g1,g2,?_⟩⟩));simp at g3;exact g3
  rintro⟨b,x⟩ ⟨e,hb⟩;dsimp only at e hb;subst e;refine ax (fun _=>ai fun h=>(by cases h)) fun h=>ai ?_
  dsimp only;refine ⟨hJ (by omega),rfl,fun k hk=>?_⟩;rcases cA k i with h1|h1
  ·exact e3 k h1
  ·rw[show k=i by omega];exact hb h
 ·rintro⟨a,x⟩ ⟨e1,e2,e3⟩;dsimp only at e1 e2 e3;subst e1;subst e2;refine aG (fun g=>(by dsimp only[aj] at g;omega)) fun _=>ai fun _=>⟨hv,hcd,h3,hce,hfu,hth,e3⟩
theorem FF {i:IT} (h:i.1=6∨i.1=7∨i.1=27∨i.1=10):i.2.1∈mQ i:=by
 unfold mQ;(repeat' split)<;>simp<;>omega
theorem FE {i:IT} (h:i.1=8∨i.1=9∨i.1=26):i.2.2.1∈mQ i:=by
 unfold mQ;(repeat' split)<;>simp<;>omega
theorem G3 {i:IT} (h:i.1=7∨i.1=9):i.2.2.2.1∈mQ i:=by
 unfold mQ;(repeat' split)<;>simp<;>omega
structure KD (op k:Int):Prop where
 ld:k=3→op=6∨op=7
 st:k=4→op=8∨op=9
 br:k=5→op=10
 se:k=22→op=26
 ge:k=23→op=27
theorem E4 (op:Int):Ok (oQ op) fun k=>KD op k:=by
 unfold oQ;refine bn (fun x=>x.2=[3,3,4,4,5,6,7,8,9,10,11,12,13,14,15,16,18,19,20,21,22,23,2]∧(x.1=false→6≤op∧op≤28)) ?_ ?_
 ·refine aG (fun _=>ai ⟨rfl,fun h=>(by cases h)⟩) fun g=>ai ⟨rfl,fun h=>?_⟩
  dsimp only at h;rw[o8] at h;exact⟨g,h⟩
 rintro⟨b,x⟩ ⟨e,hb⟩;dsimp only at e hb;subst e;refine ax (fun _=>ai ⟨fun h=>(by cases h),fun h=>(by cases h),fun h=>(by cases h),fun h=>(by cases h),fun h=>(by cases h)⟩) fun h=>?_
 obtain⟨h1,h2⟩:=hb h;dsimp only;rw[io (n:=op-6) (by omega) (by omega)];refine aA (by omega) (by simp;omega) (aA (by omega) (by simp;omega) (aL (ai ?_)));have:op=6∨op=7∨op=8∨op=9∨op=10∨op=11∨op=12∨op=13∨op=14∨op=15∨op=16∨op=17∨op=18∨op=19∨op=20∨op=21∨op=22∨op=23∨op=24∨op=25∨op=26∨op=27∨op=28:=by omega
 rcases this with rfl|rfl|rfl|rfl|rfl|rfl|rfl|rfl|rfl|rfl|rfl|rfl|rfl|rfl|rfl|rfl|rfl|rfl|rfl|rfl|rfl|rfl|rfl;all_goals exact⟨by decide,by decide,by decide,by decide,by decide⟩
theorem Aq (a n:Int):Ok (lQ (a,n)) fun _=>True:=by
 unfold lQ;refine aG (fun _=>ai trivial) fun h=>?_
 dsimp only at h;refine aR (by dsimp only;omega) ?_;refine bn (fun _=>True) (aG (fun _=>ai trivial) fun _=>ai trivial) fun _ _=>ai trivial
theorem zw (i:IT) (t:TT) (hr:∀ j∈mQ i,0≤j∧j<(t.2.1.length:Int)):Ok (my (i,t)) fun _=>True:=by
 unfold my;have hC:i.1=7∨i.1=9→0≤i.2.2.2.1∧i.2.2.2.1<(t.2.1.length:Int):=fun h=>hr _ (by
  unfold mQ;(repeat' split)<;>simp<;>omega)
 refine bn (fun x=>x.2=(i,t)) (aE (fun _=>ai rfl) fun _=>ai rfl) ?_;rintro⟨b,x⟩ e;dsimp only at e;subst e;refine ax (fun _=>ai trivial) fun _=>?_
 refine aE (fun h=>?_) fun _=>?_
 ·exact aA (hC (.inl h)).1 (hC (.inl h)).2 (aL (al (Aq _ _) fun _ _=>ai trivial))
 refine aE (fun h=>?_) fun _=>?_
 ·exact aA (hC (.inr h)).1 (hC (.inr h)).2 (aL (al (Aq _ _) fun _ _=>ai trivial))
 refine bn (fun _=>True) ?_ fun x _=>ax (fun _=>ai trivial) fun _=>ai trivial
 with_reducible repeat' first|apply aQ|apply aA|apply aK|apply aU|apply a8|apply a9|apply aR|apply aV|apply bE|apply aL|apply bK|apply bL|refine aG (fun _=>?_) fun _=>?_|refine be (fun _=>?_) fun _=>?_|refine aE (fun _=>?_) fun _=>?_|refine aP (fun _=>?_) fun _=>?_|refine aX (fun _=>?_) fun _=>?_|refine ax (fun _=>?_) fun _=>?_|apply ba|apply ai
 all_goals trivial
structure PE (n:Nat) (c:CT) (s:ST) (t:Int) (e:ET):Prop where
 fs:FSq c s
 t0:0≤t
 t1:t<(c.2.length:Int)
 et:e.1=t
 d:e.2.2.2.2.2.1.length≤n
 f:e.2.2.2.2.2.2.length≤n
 a:e.2.1=3∨e.2.1=23∨e.2.1=5→0≤(aB (T:=(.st (.pr (.int .i64) (.pr (.int .i64) (.pr (.int .i64) (.pr (.int .i64) (.pr (.int .i64) (.int .i64)))))))) (aB (T:=(.st (.pr (.int .i64) (.sl (.st (.pr (.int .i64) (.pr (.int .i64) (.pr (.int .i64) (.pr (.int .i64) (.pr (.int .i64) (.int .i64))))))))))) c.2 t).2 (aB (T:=(.st (.pr (.int .i64) (.pr (.sl (.int .i64)) (.pr (.sl (.sl (.int .i64))) (.int .i64)))))) s.2.2.2 t).1).2.1∧(aB (T:=(.st (.pr (.int .i64) (.pr (.int .i64) (.pr (.int .i64) (.pr (.int .i64) (.pr (.int .i64) (.int .i64)))))))) (aB (T:=(.st (.pr (.int .i64) (.sl (.st (.pr (.int .i64) (.pr (.int .i64) (.pr (.int .i64) (.pr (.int .i64) (.pr (.int .i64) (.int .i64))))))))))) c.2 t).2 (aB (T:=(.st (.pr (.int .i64) (.pr (.sl (.int .i64)) (.pr (.sl (.sl (.int .i64))) (.int .i64)))))) s.2.2.2 t).1).2.1<((aB (T:=(.st (.pr (.int .i64) (.pr (.sl (.int .i64)) (.pr (.sl (.sl (.int .i64))) (.int .i64)))))) s.2.2.2 t).2.1.length:Int)
 b:e.2.1=4∨e.2.1=22→0≤(aB (T:=(.st (.pr (.int .i64) (.pr (.int .i64) (.pr (.int .i64) (.pr (.int .i64) (.pr (.int .i64) (.int .i64)))))))) (aB (T:=(.st (.pr (.int .i64) (.sl (.st (.pr (.int .i64) (.pr (.int .i64) (.pr (.int .i64) (.pr (.int .i64) (.pr (.int .i64) (.int .i64))))))))))) c.2 t).2 (aB (T:=(.st (.pr (.int .i64) (.pr (.sl (.int .i64)) (.pr (.sl (.sl (.int .i64))) (.int .i64)))))) s.2.2.2 t).1).2.2.1∧(aB (T:=(.st (.pr (.int .i64) (.pr (.int .i64) (.pr (.int .i64) (.pr (.int .i64) (.pr (.int .i64) (.int .i64)))))))) (aB (T:=(.st (.pr (.int .i64) (.sl (.st (.pr (.int .i64) (.pr (.int .i64) (.pr (.int .i64) (.pr (.int .i64) (.pr (.int .i64) (.int .i64))))))))))) c.2 t).2 (aB (T:=(.st (.pr (.int .i64) (.pr (.sl (.int .i64)) (.pr (.sl (.sl (.int .i64))) (.int .i64)))))) s.2.2.2 t).1).2.2.1<((aB (T:=(.st (.pr (.int .i64) (.pr (.sl (.int .i64)) (.pr (.sl (.sl (.int .i64))) (.int .i64)))))) s.2.2.2 t).2.1.length:Int)
theorem BG (n:Nat) (hn:n≤100000) (c:CT) (s:ST) (hc:CB c) (hs:SV n s) (t:Int):Ok (iU (c,s,t)) fun y=>y.2=true→PE n c s t y.1:=by
 unfold iU;refine bn (fun x=>x.2.1=c∧x.2.2.1=s∧(x.1=false→FSq c s∧0≤t∧t<(c.2.length:Int))) ?_ ?_
 ·refine al (Ff c s hc) fun b hb=>?_
  refine aX (fun _=>ai ⟨rfl,rfl,fun h=>(by cases h)⟩) fun h=>?_
  refine aG (fun _=>ai ⟨rfl,rfl,fun h=>(by cases h)⟩) fun g0=>ai ⟨rfl,rfl,fun g1=>?_⟩
  dsimp only at g0 g1;rw[o9] at g1;exact⟨hb h,g0,g1⟩
 rintro⟨b,c',s',z⟩ ⟨e1,e2,hb⟩;dsimp only at e1 e2 hb;subst e1;subst e2;refine ax (fun _=>ai fun h=>(by cases h)) fun h=>?_
 obtain⟨hf,t0,t1⟩:=hb h;have hk:((t.toNat:Nat):Int)=t:=by omega
 have htf:=hf.t t.toNat (by omega);rw[hk] at htf;have hvt:=hf.vc.t _ (bZ (T:=(.st (.pr (.int .i64) (.sl (.st (.pr (.int .i64) (.pr (.int .i64) (.pr (.int .i64) (.pr (.int .i64) (.pr (.int .i64) (.int .i64))))))))))) (xs:=c'.2) (j:=t) t0 t1);have hth:=hs.t _ (bZ (T:=(.st (.pr (.int .i64) (.pr (.sl (.int .i64)) (.pr (.sl (.sl (.int .i64))) (.int .i64)))))) (xs:=s'.2.2.2) (j:=t) t0 (by rw[hf.th];exact t1));have key:∀ e:ET,e.1=t→e.2.2.2.2.2.1.length≤n→e.2.2.2.2.2.2.length≤n→(e.2.1=1∨e.2.1=17∨KD (aB (T:=(.st (.pr (.int .i64) (.pr (.int .i64) (.pr (.int .i64) (.pr (.int .i64) (.pr (.int .i64) (.int .i64)))))))) (aB (T:=(.st (.pr (.int .i64) (.sl (.st (.pr (.int .i64) (.pr (.int .i64) (.pr (.int .i64) (.pr (.int .i64) (.pr (.int .i64) (.int .i64))))))))))) c'.2 t).2 (aB (T:=(.st (.pr (.int .i64) (.pr (.sl (.int .i64)) (.pr (.sl (.sl (.int .i64))) (.int .i64)))))) s'.2.2.2 t).1).1 e.2.1)→PE n c' s' t e:=by
  intro e h1 h2 h3 h4;have hi:=hvt.i _ (bZ (T:=(.st (.pr (.int .i64) (.pr (.int .i64) (.pr (.int .i64) (.pr (.int .i64) (.pr (.int .i64) (.int .i64)))))))) (xs:=(aB (T:=(.st (.pr (.int .i64) (.sl (.st (.pr (.int .i64) (.pr (.int .i64) (.pr (.int .i64) (.pr (.int .i64) (.pr (.int .i64) (.int .i64))))))))))) c'.2 t).2) (j:=(aB (T:=(.st (.pr (.int .i64) (.pr (.sl (.int .i64)) (.pr (.sl (.sl (.int .i64))) (.int .i64)))))) s'.2.2.2 t).1) htf.p0 htf.p1);refine ⟨hf,t0,t1,h1,h2,h3,fun h5=>?_,fun h5=>?_⟩
  ·rw[htf.r];rcases h4 with h4|h4|h4
   ·omega
   ·omega
   ·refine hi.r _ ?_;have a1:=h4.ld;have a2:=h4.ge;have a3:=h4.br;revert a1 a2 a3 h5;generalize (aB (T:=(.st (.pr (.int .i64) (.pr (.int .i64) (.pr (.int .i64) (.pr (.int .i64) (.pr (.int .i64) (.int .i64)))))))) (aB (T:=(.st (.pr (.int .i64) (.sl (.st (.pr (.int .i64) (.pr (.int .i64) (.pr (.int .i64) (.pr (.int .i64) (.pr (.int .i64) (.int .i64))))))))))) c'.2 t).2 (aB (T:=(.st (.pr (.int .i64) (.pr (.sl (.int .i64)) (.pr (.sl (.sl (.int .i64))) (.int .i64)))))) s'.2.2.2 t).1)=i;intro h5 a1 a2 a3;exact FF (by omega)
  ·rw[htf.r];rcases h4 with h4|h4|h4
   ·omega
   ·omega
   ·refine hi.r _ ?_;have a1:=h4.st;have a2:=h4.se;revert a1 a2 h5;generalize (aB (T:=(.st (.pr (.int .i64) (.pr (.int .i64) (.pr (.int .i64) (.pr (.int .i64) (.pr (.int .i64) (.int .i64)))))))) (aB (T:=(.st (.pr (.int .i64) (.sl (.st (.pr (.int .i64) (.pr (.int .i64) (.pr (.int .i64) (.pr (.int .i64) (.pr (.int .i64) (.int .i64))))))))))) c'.2 t).2 (aB (T:=(.st (.pr (.int .i64) (.pr (.sl (.int .i64)) (.pr (.sl (.sl (.int .i64))) (.int .i64)))))) s'.2.2.2 t).1)=i;intro h5 a1 a2;exact FE (by omega)
 have hir:=(hvt.i _ (bZ (T:=(.st (.pr (.int .i64) (.pr (.int .i64) (.pr (.int .i64) (.pr (.int .i64) (.pr (.int .i64) (.int .i64)))))))) (xs:=(aB (T:=(.st (.pr (.int .i64) (.sl (.st (.pr (.int .i64) (.pr (.int .i64) (.pr (.int .i64) (.pr (.int .i64) (.pr (.int .i64) (.int .i64))))))))))) c'.2 t).2) (j:=(aB (T:=(.st (.pr (.int .i64) (.pr (.sl (.int .i64)) (.pr (.sl (.sl (.int .i64))) (.int .i64)))))) s'.2.2.2 t).1) htf.p0 htf.p1)).r;rw[← htf.r] at hir;refine aA t0 (by dsimp only;rw[hf.th];exact t1) (aL ?_);refine aA t0 t1 (aL ?_);refine aA htf.p0 htf.p1 (aL ?_);have t4:t<(s'.1.2.2.2.length:Int):=by rw[hf.e3,←hf.vc.tl];exact t1
 have tz:(aB (T:=(.st (.pr (.int .i64) (.pr (.sl (.int .i64)) (.pr (.sl (.sl (.int .i64))) (.int .i64)))))) s'.2.2.2 t).2.2.1.length=(aB (T:=(.st (.pr (.int .i64) (.pr (.sl (.int .i64)) (.pr (.sl (.sl (.int .i64))) (.int .i64)))))) s'.2.2.2 t).2.1.length:=by have:=htf.r;have:=htf.t;omega
 refine aA t0 t4 (aL ?_);refine aE (fun _=>ai fun _=>key _ rfl (nP _) (nP _) (.inl rfl)) fun _=>?_
 refine aE (fun _=>aA t0 t4 (aL (ai fun _=>key _ rfl (nP _) (nP _) (.inr (.inl rfl))))) fun _=>?_
 refine aE (fun _=>?_) fun _=>ai fun h=>(by cases h)
 refine al (E4 _) fun k hk2=>?_
 refine al (zw _ _ hir) fun o _=>?_
 refine aE (fun _=>ai fun h=>(by cases h)) fun _=>?_
 revert key htf hvt hth hir tz hk2;dsimp only;generalize (aB (T:=(.st (.pr (.int .i64) (.pr (.sl (.int .i64)) (.pr (.sl (.sl (.int .i64))) (.int .i64)))))) s'.2.2.2 t)=th;generalize (aB (T:=(.st (.pr (.int .i64) (.pr (.int .i64) (.pr (.int .i64) (.pr (.int .i64) (.pr (.int .i64) (.int .i64)))))))) _ th.1)=i;intro htf hvt hth key hir tz hk2;have hlen:∀ {j:Int},0≤j→j<(th.2.2.1.length:Int)→(aB (T:=.sl (.int .i64)) th.2.2.1 j).length≤n:=fun h0 h1=>(hth.l _ (bZ (T:=.sl (.int .i64)) (xs:=th.2.2.1) h0 h1)).len
 have hA:i.1=10→0≤i.2.1∧i.2.1<(th.2.2.1.length:Int):=fun h=>by
  rw[tz];exact hir _ (FF (.inr (.inr (.inr h))))
 have hB:i.1=8∨i.1=9∨i.1=26→0≤i.2.2.1∧i.2.2.1<(th.2.2.1.length:Int):=fun h=>by
  rw[tz];exact hir _ (FE (h))
 have hC:i.1=7∨i.1=9→0≤i.2.2.2.1∧i.2.2.2.1<(th.2.2.1.length:Int):=fun h=>by
  rw[tz];exact hir _ (G3 (h))
 refine bn (fun x=>x.2.1=th∧x.2.2.1=i∧x.2.2.2.1.1=t∧x.2.2.2.1.2.1=k∧x.2.2.2.2.length≤n) ?_ ?_
 ·refine aE (fun h=>?_) fun _=>?_
  ·obtain⟨a0,a1⟩:=hA h;refine aA a0 a1 (aL ?_);have:=hlen a0 a1;exact aK (cO this (by omega)) (by omega) (ai ⟨rfl,rfl,rfl,rfl,this⟩)
  refine bn (fun x=>x.2.2.1=th∧x.2.2.2.1=i∧x.2.2.2.2.1=t∧x.2.2.2.2.2.1=k∧(x.1=true→i.1=7∨i.1=9)) ?_ ?_
  ·refine aE (fun h=>ai ⟨rfl,rfl,rfl,rfl,fun _=>.inl h⟩) fun _=>ai ⟨rfl,rfl,rfl,rfl,fun h=>.inr (of_decide_eq_true h)⟩
  rintro⟨b,z0,th',i',t',k',z1⟩ ⟨e1,e2,e3,e4,hb9⟩;dsimp only at e1 e2 e3 e4 hb9;subst e1;subst e2;subst e3;subst e4;refine ax (fun h=>?_) fun _=>ai ⟨rfl,rfl,rfl,rfl,nP _⟩
  obtain⟨a0,a1⟩:=hC (hb9 h);refine aA a0 a1 (aL ?_);have:=hlen a0 a1;exact aK (cO this (by omega)) (by omega) (ai ⟨rfl,rfl,rfl,rfl,this⟩)
 rintro⟨z0,th',i',⟨t',k',z1⟩,ds⟩ ⟨e1,e2,e3,e4,hd⟩;dsimp only at e1 e2 e3 e4 hd;subst e1;subst e2;subst e3;subst e4;refine bn (fun x=>x.2.1.1=t'∧x.2.1.2.1=k'∧x.2.2.1.length≤n∧x.2.2.2.length≤n) ?_ ?_
 ·refine bn (fun x=>x.2=(z0,th',i',(t',k',z1),ds)∧(x.1=true→i'.1=8∨i'.1=9∨i'.1=26)) ?_ ?_
  ·exact aE (fun h=>ai ⟨rfl,fun _=>.inl h⟩) fun _=>aE (fun h=>ai ⟨rfl,fun _=>.inr (.inl h)⟩) fun _=>ai ⟨rfl,fun h=>.inr (.inr (of_decide_eq_true h))⟩
  rintro⟨b,x⟩ ⟨e,hb9⟩;dsimp only at e hb9;subst e;refine ax (fun h=>?_) fun _=>ai ⟨rfl,rfl,hd,nP _⟩
  obtain⟨a0,a1⟩:=hB (hb9 h);refine aA a0 a1 (aL ?_);have:=hlen a0 a1;exact aK (cO this (by omega)) (by omega) (ai ⟨rfl,rfl,hd,this⟩)
 rintro⟨z2,⟨t2,k2,z3⟩,d2,f2⟩ ⟨e1,e2,h1,h2⟩;dsimp only at e1 e2 h1 h2;subst e1;subst e2;exact ai fun _=>key _ rfl h1 h2 (.inr (.inr hk2))
theorem SV.zero (n:Nat) (hn:n≤100000):SV n (([],0,[],[]),[],[],[]):=⟨⟨hn,by simp,fun l hl=>(by cases hl),by simp,by simp⟩,fun t ht=>(by cases ht)⟩
theorem BE (c:CT) (hc:CB c):Ok (ny c) fun s=>SV 0 s:=by
 unfold ny;refine al (wJ c hc) fun b hb=>?_
 refine aX (fun _=>ai (SV.zero 0 (by omega))) fun h=>?_
 have hv:=hb h;obtain⟨vc,vl,vd,vf,_,vt,_⟩:=id hv.vl;have htl:=hv.tl;refine al (wM c.1 hv.vl) fun y hy=>?_
 refine bY c.1.1.length (fun i x=>x.1=(i:Int)∧x.2.1=c∧x.2.2.2.1=y∧x.2.2.2.2.length=i) ?_ ?_ ⟨rfl,rfl,rfl,rfl⟩
 ·rintro i ⟨a,c',z,y',l⟩ hi ⟨e1,e2,e3,e4⟩;dsimp only at e1 e2 e3 e4;subst e1;subst e2;subst e3;refine aG (fun _=>?_) fun g=>(by dsimp only[aj] at g;omega)
  refine aA (by dsimp only;omega) (by dsimp only;omega) (aL (aK (by simp;omega) (by omega) (ai ?_)));dsimp only;exact⟨hJ (by omega),rfl,rfl,by simp;omega⟩
 rintro⟨a,c',z,y',l⟩ ⟨e1,e2,e3,e4⟩;dsimp only at e1 e2 e3 e4;subst e1;subst e2;subst e3;refine aG (fun g=>(by dsimp only[aj] at g;omega)) fun _=>?_
 refine al (P:=SV 0) ?_ fun r hr=>ai hr
 refine bY c'.1.2.2.2.1.length (fun i x=>x.1=(i:Int)∧x.2.1=c'∧x.2.2.2.1=y'∧x.2.2.2.2.2.length=i) ?_ ?_ ⟨rfl,rfl,rfl,rfl⟩
 ·rintro i ⟨a,c,z,y,l,f⟩ hi ⟨e1,e2,e3,e4⟩;dsimp only at e1 e2 e3 e4;subst e1;subst e2;subst e3;refine aG (fun _=>?_) fun g=>(by dsimp only[aj] at g;omega)
  refine aK (by simp;omega) (by omega) (ai ?_);dsimp only;exact⟨hJ (by omega),rfl,rfl,by simp;omega⟩
 rintro⟨a,c,z,y,l,f⟩ ⟨e1,e2,e3,e4⟩;dsimp only at e1 e2 e3 e4;subst e1;subst e2;subst e3;refine aG (fun g=>(by dsimp only[aj] at g;omega)) fun _=>?_
 refine al (P:=SV 0) ?_ fun r hr=>ai hr
 refine bY c.2.length (fun i x=>x.1=(i:Int)∧x.2.1=c∧x.2.2.2.1=y∧x.2.2.2.2.2.2.length=i∧∀ t∈x.2.2.2.2.2.2,TH 0 t) ?_ ?_ ⟨rfl,rfl,rfl,rfl,fun t ht=>(by cases ht)⟩
 ·rintro i ⟨a,c,z,y,l,f,th⟩ hi ⟨e1,e2,e3,e4,e5⟩;dsimp only at e1 e2 e3 e4 e5;subst e1;subst e2;subst e3;refine aG (fun _=>?_) fun g=>(by dsimp only[aj] at g;omega)
  have hin:((i:Nat):Int)<(c.2.length:Int):=by omega
  have hvt:=hv.t _ (bZ (T:=(.st (.pr (.int .i64) (.sl (.st (.pr (.int .i64) (.pr (.int .i64) (.pr (.int .i64) (.pr (.int .i64) (.pr (.int .i64) (.int .i64))))))))))) (xs:=c.2) (j:=(i:Int)) (by omega) hin);have q0:=hvt.r0;have q1:=hvt.r1;refine aA (by dsimp only;omega) hin (aL ?_);refine aQ (aQ (aU q0 (aU (fM _) (aK (by dsimp only;omega) (by omega) ?_))));refine aA (by dsimp only;omega) hin (aL ?_);refine aQ (aQ (aU q0 (aU (fM _) (aK (by dsimp only;omega) (by omega) ?_))));refine aK (by simp;omega) (by omega) (ai ?_);dsimp only;refine ⟨hJ (by omega),rfl,rfl,by simp;omega,fun t ht=>?_⟩;rcases bD.1 ht with h|h
  ·exact e5 t h
  ·rw[aH] at h;subst h;refine ⟨?_,?_,fun l hl=>?_,fM _,fM _⟩
   ·dsimp only;rw[eE];omega
   ·dsimp only;rw[eE];omega
   ·rw[List.eq_of_mem_replicate hl];exact TL.nil 0
 ·rintro⟨a,c,z,y,l,f,th⟩ ⟨e1,e2,e3,e4,e5⟩;dsimp only at e1 e2 e3 e4 e5;subst e1;subst e2;subst e3;refine aG (fun g=>(by dsimp only[aj] at g;omega)) fun _=>ai ?_
  exact⟨hy,e5⟩
theorem gi {α R:Type} (o:Option α):obind o (fun _=>(none:Option R))=none:=by cases o<;>rfl
theorem jJ {R:Type} (b:Bool):chk b (fun _=>(none:Option R))=none:=by cases b<;>rfl
theorem mi {α R:Type} (x:α):lt x (fun _=>(none:Option R))=none:=rfl
def yR {R:Type} (o:Option R) (Q:R→Prop):Prop:=o=none∨Ok o Q
theorem yR.or {R:Type} {a b:Option R} {Q:R→Prop} (ha:yR a Q) (hb:yR b Q):yR (orE a b) Q:=by
 rcases ha with rfl|⟨y,rfl,h⟩
 ·exact hb
 ·exact .inr ⟨y,rfl,h⟩
theorem Ok.orL {R:Type} {a b:Option R} {Q:R→Prop} (ha:Ok a Q):Ok (orE a b) Q:=by
 obtain⟨y,rfl,h⟩:=ha;exact⟨y,rfl,h⟩
theorem yR.orR {R:Type} {a b:Option R} {Q:R→Prop} (ha:yR a Q) (hb:Ok b Q):Ok (orE a b) Q:=by
 rcases ha with rfl|⟨y,rfl,h⟩
 ·exact hb
 ·exact⟨y,rfl,h⟩
def SQ (n:Nat) (c:CT) (y:ST×ET×Bool):Prop:=y.2.2=true→SV (n+1) y.1∧EL c.1 y.2.1∧Cj y.2.1
theorem vq {n:Nat} (hn:n+1≤100000) {c:CT} {s:ST} {t u:Int} (hc:CB c) (hs:SV n s) (G:Option (ST×ET×Bool)→Prop) (hG:∀ y,SQ n c y→G (some y)) (k:ET×Bool→SY×Int×Bool→Option (ST×ET×Bool))
 (hk:∀ e v sy,PE n c s t e→EN c.1 s.1 t e.2.1 e.2.2.1→AP n s.1 sy→G (k (e,true) (sy,v,true))):
 G (obind (iU (c,s,t)) fun y1=>bcase (!y1.2) (some ((([],0,[],[]),[],[],[]),(0,0,0,0,0,[],[]),false)) (obind (j7 (c.1,s.1,t,y1.1.2.1,y1.1.2.2.1,u)) fun y2=>bcase (!y2.2.2) (some ((([],0,[],[]),[],[],[]),(0,0,0,0,0,[],[]),false)) (k y1 y2))):=by
 have hz:=hG ((([],0,[],[]),[],[],[]),(0,0,0,0,0,[],[]),false) fun h=>(by cases h)
 obtain⟨⟨e,b⟩,h1,h2⟩:=BG n (by omega) c s hc hs t;rw[h1,tB];cases b with
 |false=>exact hz
 |true=>
  have hp:=h2 rfl;have hcd:c.1.2.2.1.length≤1000:=by have:=hp.fs.vc.vl.d;omega
  obtain⟨⟨sy,v,b⟩,h3,h4,_,_⟩:=AD c.1 s.1 hs.sb hcd t e.2.1 e.2.2.1 u;have e0:∀ {R:Type} (a b:Option R),bcase (!true) a b=b:=fun _ _=>rfl
  rw[e0,h3,tB];cases b with
  |false=>exact hz
  |true=>exact hk e v sy hp (h4 rfl).1 (h4 rfl).2
theorem Dl {E:Nat} (sy:SY) (ce fu:List Int) (a:TT) (h:SV E (sy,ce,fu,[a])) (hce:ce.length≤1000) (hfu:fu.length≤1000):iE (sy,ce,fu,[a])=some ((sy.2.1,sy.1,sy.2.2.1,sy.2.2.2).1,(sy.2.1,sy.1,sy.2.2.1,sy.2.2.2).2.1,(sy.2.1,sy.1,sy.2.2.1,sy.2.2.2).2.2.1,(sy.2.1,sy.1,sy.2.2.1,sy.2.2.2).2.2.2,(([]:List Int)++ce),(([]:List Int)++fu),((a.1,a.2.2.2),a.2.1,a.2.2.1)):=by
 have hE:=h.sb.n1;have ha:=h.t a (by simp);refine ii ?_;unfold iE;refine bC (kZ sy h.sb) ?_;refine aK (by simp;omega) (by omega) (aK (by simp;omega) (by omega) ?_);refine b7 rfl (bf rfl (aL (bC (cB a E hE ha) ?_)));exact dq rfl (ai rfl)
theorem AB (sy:SY) (ce fu:List Int) (l:List TT) (h0:l.length≤4) (h:l.length≠1):iE (sy,ce,fu,l)=none:=by
 unfold iE;rcases l with _|⟨a,_|⟨b,_|⟨c,_|⟨d,_|⟨e,l⟩⟩⟩⟩⟩;all_goals first|(simp at h;done)|(exfalso;simp only[bO] at h0;omega)|simp[bz,gi,jJ,mi,ux,uc]
theorem Dk {E:Nat} (sy:SY) (ce fu:List Int) (a b:TT) (h:SV E (sy,ce,fu,[a,b])) (hce:ce.length≤1000) (hfu:fu.length≤1000):iD (sy,ce,fu,[a,b])=some ((sy.2.1,sy.1,sy.2.2.1,sy.2.2.2).1,(sy.2.1,sy.1,sy.2.2.1,sy.2.2.2).2.1,(sy.2.1,sy.1,sy.2.2.1,sy.2.2.2).2.2.1,(sy.2.1,sy.1,sy.2.2.1,sy.2.2.2).2.2.2,(([]:List Int)++ce),(([]:List Int)++fu),(((a.1,a.2.2.2),a.2.1,a.2.2.1).1.1,((a.1,a.2.2.2),a.2.1,a.2.2.1).1.2,((b.1,b.2.2.2),b.2.1,b.2.2.1).1.1,((b.1,b.2.2.2),b.2.1,b.2.2.1).2.1,((b.1,b.2.2.2),b.2.1,b.2.2.1).2.2,((b.1,b.2.2.2),b.2.1,b.2.2.1).1.2),((a.1,a.2.2.2),a.2.1,a.2.2.1).2):=by
 have hE:=h.sb.n1;have ha:=h.t a (by simp);have hb:=h.t b (by simp);refine ii ?_;unfold iD;refine bC (kZ sy h.sb) ?_;refine aK (by simp;omega) (by omega) (aK (by simp;omega) (by omega) ?_);refine b7 rfl (bf rfl (aL (bC (cB a E hE ha) ?_)));refine b7 rfl (bf rfl (aL (bC (cB b E hE hb) ?_)));exact dq rfl (ai rfl)
theorem AA (sy:SY) (ce fu:List Int) (l:List TT) (h0:l.length≤4) (h:l.length≠2):iD (sy,ce,fu,l)=none:=by
 unfold iD;rcases l with _|⟨a,_|⟨b,_|⟨c,_|⟨d,_|⟨e,l⟩⟩⟩⟩⟩;all_goals first|(simp at h;done)|(exfalso;simp only[bO] at h0;omega)|simp[bz,gi,jJ,mi,ux,uc]
theorem Dj {E:Nat} (sy:SY) (ce fu:List Int) (a b:TT) (h:SV E (sy,ce,fu,[a,b])) (hce:ce.length≤1000) (hfu:fu.length≤1000):iC (sy,ce,fu,[a,b])=some ((sy.2.1,sy.1,sy.2.2.1,sy.2.2.2).1,(sy.2.1,sy.1,sy.2.2.1,sy.2.2.2).2.1,(sy.2.1,sy.1,sy.2.2.1,sy.2.2.2).2.2.1,(sy.2.1,sy.1,sy.2.2.1,sy.2.2.2).2.2.2,(([]:List Int)++ce),(([]:List Int)++fu),((((a.1,a.2.2.2),a.2.1,a.2.2.1).1.1,((a.1,a.2.2.2),a.2.1,a.2.2.1).2.1,((a.1,a.2.2.2),a.2.1,a.2.2.1).2.2,((a.1,a.2.2.2),a.2.1,a.2.2.1).1.2),((b.1,b.2.2.2),b.2.1,b.2.2.1).1),((b.1,b.2.2.2),b.2.1,b.2.2.1).2):=by
 have hE:=h.sb.n1;have ha:=h.t a (by simp);have hb:=h.t b (by simp);refine ii ?_;unfold iC;refine bC (kZ sy h.sb) ?_;refine aK (by simp;omega) (by omega) (aK (by simp;omega) (by omega) ?_);refine b7 rfl (bf rfl (aL (bC (cB a E hE ha) ?_)));refine b7 rfl (bf rfl (aL (bC (cB b E hE hb) ?_)));exact dq rfl (ai rfl)
theorem Az (sy:SY) (ce fu:List Int) (l:List TT) (h0:l.length≤4) (h:l.length≠2):iC (sy,ce,fu,l)=none:=by
 unfold iC;rcases l with _|⟨a,_|⟨b,_|⟨c,_|⟨d,_|⟨e,l⟩⟩⟩⟩⟩;all_goals first|(simp at h;done)|(exfalso;simp only[bO] at h0;omega)|simp[bz,gi,jJ,mi,ux,uc]
theorem Di {E:Nat} (sy:SY) (ce fu:List Int) (a b c:TT) (h:SV E (sy,ce,fu,[a,b,c])) (hce:ce.length≤1000) (hfu:fu.length≤1000):iB (sy,ce,fu,[a,b,c])=some ((sy.2.1,sy.1,sy.2.2.1,sy.2.2.2).1,(sy.2.1,sy.1,sy.2.2.1,sy.2.2.2).2.1,(sy.2.1,sy.1,sy.2.2.1,sy.2.2.2).2.2.1,(sy.2.1,sy.1,sy.2.2.1,sy.2.2.2).2.2.2,(([]:List Int)++ce),(([]:List Int)++fu),(((a.1,a.2.2.2),a.2.1,a.2.2.1).1.1,((a.1,a.2.2.2),a.2.1,a.2.2.1).1.2,(((b.1,b.2.2.2),b.2.1,b.2.2.1).1.1,((b.1,b.2.2.2),b.2.1,b.2.2.1).2.1,((b.1,b.2.2.2),b.2.1,b.2.2.1).2.2,((b.1,b.2.2.2),b.2.1,b.2.2.1).1.2),((c.1,c.2.2.2),c.2.1,c.2.2.1).1.1,((c.1,c.2.2.2),c.2.1,c.2.2.1).2.1,((c.1,c.2.2.2),c.2.1,c.2.2.1).2.2,((c.1,c.2.2.2),c.2.1,c.2.2.1).1.2),((a.1,a.2.2.2),a.2.1,a.2.2.1).2):=by
 have hE:=h.sb.n1;have ha:=h.t a (by simp);have hb:=h.t b (by simp);have hc:=h.t c (by simp);refine ii ?_;unfold iB;refine bC (kZ sy h.sb) ?_;refine aK (by simp;omega) (by omega) (aK (by simp;omega) (by omega) ?_);refine b7 rfl (bf rfl (aL (bC (cB a E hE ha) ?_)));refine b7 rfl (bf rfl (aL (bC (cB b E hE hb) ?_)));refine b7 rfl (bf rfl (aL (bC (cB c E hE hc) ?_)));exact dq rfl (ai rfl)
theorem Ay (sy:SY) (ce fu:List Int) (l:List TT) (h0:l.length≤4) (h:l.length≠3):iB (sy,ce,fu,l)=none:=by
 unfold iB;rcases l with _|⟨a,_|⟨b,_|⟨c,_|⟨d,_|⟨e,l⟩⟩⟩⟩⟩;all_goals first|(simp at h;done)|(exfalso;simp only[bO] at h0;omega)|simp[bz,gi,jJ,mi,ux,uc]
theorem Dh {E:Nat} (sy:SY) (ce fu:List Int) (a b c:TT) (h:SV E (sy,ce,fu,[a,b,c])) (hce:ce.length≤1000) (hfu:fu.length≤1000):iA (sy,ce,fu,[a,b,c])=some ((sy.2.1,sy.1,sy.2.2.1,sy.2.2.2).1,(sy.2.1,sy.1,sy.2.2.1,sy.2.2.2).2.1,(sy.2.1,sy.1,sy.2.2.1,sy.2.2.2).2.2.1,(sy.2.1,sy.1,sy.2.2.1,sy.2.2.2).2.2.2,(([]:List Int)++ce),(([]:List Int)++fu),((((a.1,a.2.2.2),a.2.1,a.2.2.1).1.1,((a.1,a.2.2.2),a.2.1,a.2.2.1).2.1,((a.1,a.2.2.2),a.2.1,a.2.2.1).2.2,((a.1,a.2.2.2),a.2.1,a.2.2.1).1.2),((b.1,b.2.2.2),b.2.1,b.2.2.1).1.1,((b.1,b.2.2.2),b.2.1,b.2.2.1).1.2,((c.1,c.2.2.2),c.2.1,c.2.2.1).1.1,((c.1,c.2.2.2),c.2.1,c.2.2.1).2.1,((c.1,c.2.2.2),c.2.1,c.2.2.1).2.2,((c.1,c.2.2.2),c.2.1,c.2.2.1).1.2),((b.1,b.2.2.2),b.2.1,b.2.2.1).2):=by
 have hE:=h.sb.n1;have ha:=h.t a (by simp);have hb:=h.t b (by simp);have hc:=h.t c (by simp);refine ii ?_;unfold iA;refine bC (kZ sy h.sb) ?_;refine aK (by simp;omega) (by omega) (aK (by simp;omega) (by omega) ?_);refine b7 rfl (bf rfl (aL (bC (cB a E hE ha) ?_)));refine b7 rfl (bf rfl (aL (bC (cB b E hE hb) ?_)));refine b7 rfl (bf rfl (aL (bC (cB c E hE hc) ?_)));exact dq rfl (ai rfl)
theorem Ax (sy:SY) (ce fu:List Int) (l:List TT) (h0:l.length≤4) (h:l.length≠3):iA (sy,ce,fu,l)=none:=by
 unfold iA;rcases l with _|⟨a,_|⟨b,_|⟨c,_|⟨d,_|⟨e,l⟩⟩⟩⟩⟩;all_goals first|(simp at h;done)|(exfalso;simp only[bO] at h0;omega)|simp[bz,gi,jJ,mi,ux,uc]
theorem Dg {E:Nat} (sy:SY) (ce fu:List Int) (a b c:TT) (h:SV E (sy,ce,fu,[a,b,c])) (hce:ce.length≤1000) (hfu:fu.length≤1000):iz (sy,ce,fu,[a,b,c])=some ((sy.2.1,sy.1,sy.2.2.1,sy.2.2.2).1,(sy.2.1,sy.1,sy.2.2.1,sy.2.2.2).2.1,(sy.2.1,sy.1,sy.2.2.1,sy.2.2.2).2.2.1,(sy.2.1,sy.1,sy.2.2.1,sy.2.2.2).2.2.2,(([]:List Int)++ce),(([]:List Int)++fu),((((a.1,a.2.2.2),a.2.1,a.2.2.1).1.1,((a.1,a.2.2.2),a.2.1,a.2.2.1).2.1,((a.1,a.2.2.2),a.2.1,a.2.2.1).2.2,((a.1,a.2.2.2),a.2.1,a.2.2.1).1.2),(((b.1,b.2.2.2),b.2.1,b.2.2.1).1.1,((b.1,b.2.2.2),b.2.1,b.2.2.1).2.1,((b.1,b.2.2.2),b.2.1,b.2.2.1).2.2,((b.1,b.2.2.2),b.2.1,b.2.2.1).1.2),((c.1,c.2.2.2),c.2.1,c.2.2.1).1),((c.1,c.2.2.2),c.2.1,c.2.2.1).2):=by
 have hE:=h.sb.n1;have ha:=h.t a (by simp);have hb:=h.t b (by simp);have hc:=h.t c (by simp);refine ii ?_;unfold iz;refine bC (kZ sy h.sb) ?_;refine aK (by simp;omega) (by omega) (aK (by simp;omega) (by omega) ?_);refine b7 rfl (bf rfl (aL (bC (cB a E hE ha) ?_)));refine b7 rfl (bf rfl (aL (bC (cB b E hE hb) ?_)));refine b7 rfl (bf rfl (aL (bC (cB c E hE hc) ?_)));exact dq rfl (ai rfl)
theorem Aw (sy:SY) (ce fu:List Int) (l:List TT) (h0:l.length≤4) (h:l.length≠3):iz (sy,ce,fu,l)=none:=by
 unfold iz;rcases l with _|⟨a,_|⟨b,_|⟨c,_|⟨d,_|⟨e,l⟩⟩⟩⟩⟩;all_goals first|(simp at h;done)|(exfalso;simp only[bO] at h0;omega)|simp[bz,gi,jJ,mi,ux,uc]
theorem Df {E:Nat} (sy:SY) (ce fu:List Int) (a b c d:TT) (h:SV E (sy,ce,fu,[a,b,c,d])) (hce:ce.length≤1000) (hfu:fu.length≤1000):iy (sy,ce,fu,[a,b,c,d])=some ((sy.2.1,sy.1,sy.2.2.1,sy.2.2.2).1,(sy.2.1,sy.1,sy.2.2.1,sy.2.2.2).2.1,(sy.2.1,sy.1,sy.2.2.1,sy.2.2.2).2.2.1,(sy.2.1,sy.1,sy.2.2.1,sy.2.2.2).2.2.2,(([]:List Int)++ce),(([]:List Int)++fu),(((a.1,a.2.2.2),a.2.1,a.2.2.1).1.1,((a.1,a.2.2.2),a.2.1,a.2.2.1).1.2,(((b.1,b.2.2.2),b.2.1,b.2.2.1).1.1,((b.1,b.2.2.2),b.2.1,b.2.2.1).2.1,((b.1,b.2.2.2),b.2.1,b.2.2.1).2.2,((b.1,b.2.2.2),b.2.1,b.2.2.1).1.2),(((c.1,c.2.2.2),c.2.1,c.2.2.1).1.1,((c.1,c.2.2.2),c.2.1,c.2.2.1).2.1,((c.1,c.2.2.2),c.2.1,c.2.2.1).2.2,((c.1,c.2.2.2),c.2.1,c.2.2.1).1.2),((d.1,d.2.2.2),d.2.1,d.2.2.1).1.1,((d.1,d.2.2.2),d.2.1,d.2.2.1).2.1,((d.1,d.2.2.2),d.2.1,d.2.2.1).2.2,((d.1,d.2.2.2),d.2.1,d.2.2.1).1.2),((a.1,a.2.2.2),a.2.1,a.2.2.1).2):=by
 have hE:=h.sb.n1;have ha:=h.t a (by simp);have hb:=h.t b (by simp);have hc:=h.t c (by simp);have hd:=h.t d (by simp);refine ii ?_;unfold iy;refine bC (kZ sy h.sb) ?_;refine aK (by simp;omega) (by omega) (aK (by simp;omega) (by omega) ?_);refine b7 rfl (bf rfl (aL (bC (cB a E hE ha) ?_)));refine b7 rfl (bf rfl (aL (bC (cB b E hE hb) ?_)));refine b7 rfl (bf rfl (aL (bC (cB c E hE hc) ?_)));refine b7 rfl (bf rfl (aL (bC (cB d E hE hd) ?_)));exact dq rfl (ai rfl)
theorem Av (sy:SY) (ce fu:List Int) (l:List TT) (h0:l.length≤4) (h:l.length≠4):iy (sy,ce,fu,l)=none:=by
 unfold iy;rcases l with _|⟨a,_|⟨b,_|⟨c,_|⟨d,_|⟨e,l⟩⟩⟩⟩⟩;all_goals first|(simp at h;done)|(exfalso;simp only[bO] at h0;omega)|simp[bz,gi,jJ,mi,ux,uc]
theorem De {E:Nat} (sy:SY) (ce fu:List Int) (a b c d:TT) (h:SV E (sy,ce,fu,[a,b,c,d])) (hce:ce.length≤1000) (hfu:fu.length≤1000):iw (sy,ce,fu,[a,b,c,d])=some ((sy.2.1,sy.1,sy.2.2.1,sy.2.2.2).1,(sy.2.1,sy.1,sy.2.2.1,sy.2.2.2).2.1,(sy.2.1,sy.1,sy.2.2.1,sy.2.2.2).2.2.1,(sy.2.1,sy.1,sy.2.2.1,sy.2.2.2).2.2.2,(([]:List Int)++ce),(([]:List Int)++fu),((((a.1,a.2.2.2),a.2.1,a.2.2.1).1.1,((a.1,a.2.2.2),a.2.1,a.2.2.1).2.1,((a.1,a.2.2.2),a.2.1,a.2.2.1).2.2,((a.1,a.2.2.2),a.2.1,a.2.2.1).1.2),((b.1,b.2.2.2),b.2.1,b.2.2.1).1.1,((b.1,b.2.2.2),b.2.1,b.2.2.1).1.2,(((c.1,c.2.2.2),c.2.1,c.2.2.1).1.1,((c.1,c.2.2.2),c.2.1,c.2.2.1).2.1,((c.1,c.2.2.2),c.2.1,c.2.2.1).2.2,((c.1,c.2.2.2),c.2.1,c.2.2.1).1.2),((d.1,d.2.2.2),d.2.1,d.2.2.1).1.1,((d.1,d.2.2.2),d.2.1,d.2.2.1).2.1,((d.1,d.2.2.2),d.2.1,d.2.2.1).2.2,((d.1,d.2.2.2),d.2.1,d.2.2.1).1.2),((b.1,b.2.2.2),b.2.1,b.2.2.1).2):=by
 have hE:=h.sb.n1;have ha:=h.t a (by simp);have hb:=h.t b (by simp);have hc:=h.t c (by simp);have hd:=h.t d (by simp);refine ii ?_;unfold iw;refine bC (kZ sy h.sb) ?_;refine aK (by simp;omega) (by omega) (aK (by simp;omega) (by omega) ?_);refine b7 rfl (bf rfl (aL (bC (cB a E hE ha) ?_)));refine b7 rfl (bf rfl (aL (bC (cB b E hE hb) ?_)));refine b7 rfl (bf rfl (aL (bC (cB c E hE hc) ?_)));refine b7 rfl (bf rfl (aL (bC (cB d E hE hd) ?_)));exact dq rfl (ai rfl)
theorem Au (sy:SY) (ce fu:List Int) (l:List TT) (h0:l.length≤4) (h:l.length≠4):iw (sy,ce,fu,l)=none:=by
 unfold iw;rcases l with _|⟨a,_|⟨b,_|⟨c,_|⟨d,_|⟨e,l⟩⟩⟩⟩⟩;all_goals first|(simp at h;done)|(exfalso;simp only[bO] at h0;omega)|simp[bz,gi,jJ,mi,ux,uc]
theorem Dd {E:Nat} (sy:SY) (ce fu:List Int) (a b c d:TT) (h:SV E (sy,ce,fu,[a,b,c,d])) (hce:ce.length≤1000) (hfu:fu.length≤1000):iv (sy,ce,fu,[a,b,c,d])=some ((sy.2.1,sy.1,sy.2.2.1,sy.2.2.2).1,(sy.2.1,sy.1,sy.2.2.1,sy.2.2.2).2.1,(sy.2.1,sy.1,sy.2.2.1,sy.2.2.2).2.2.1,(sy.2.1,sy.1,sy.2.2.1,sy.2.2.2).2.2.2,(([]:List Int)++ce),(([]:List Int)++fu),((((a.1,a.2.2.2),a.2.1,a.2.2.1).1.1,((a.1,a.2.2.2),a.2.1,a.2.2.1).2.1,((a.1,a.2.2.2),a.2.1,a.2.2.1).2.2,((a.1,a.2.2.2),a.2.1,a.2.2.1).1.2),(((b.1,b.2.2.2),b.2.1,b.2.2.1).1.1,((b.1,b.2.2.2),b.2.1,b.2.2.1).2.1,((b.1,b.2.2.2),b.2.1,b.2.2.1).2.2,((b.1,b.2.2.2),b.2.1,b.2.2.1).1.2),((c.1,c.2.2.2),c.2.1,c.2.2.1).1.1,((c.1,c.2.2.2),c.2.1,c.2.2.1).1.2,((d.1,d.2.2.2),d.2.1,d.2.2.1).1.1,((d.1,d.2.2.2),d.2.1,d.2.2.1).2.1,((d.1,d.2.2.2),d.2.1,d.2.2.1).2.2,((d.1,d.2.2.2),d.2.1,d.2.2.1).1.2),((c.1,c.2.2.2),c.2.1,c.2.2.1).2):=by
 have hE:=h.sb.n1;have ha:=h.t a (by simp);have hb:=h.t b (by simp);have hc:=h.t c (by simp);have hd:=h.t d (by simp);refine ii ?_;unfold iv;refine bC (kZ sy h.sb) ?_;refine aK (by simp;omega) (by omega) (aK (by simp;omega) (by omega) ?_);refine b7 rfl (bf rfl (aL (bC (cB a E hE ha) ?_)));refine b7 rfl (bf rfl (aL (bC (cB b E hE hb) ?_)));refine b7 rfl (bf rfl (aL (bC (cB c E hE hc) ?_)));refine b7 rfl (bf rfl (aL (bC (cB d E hE hd) ?_)));exact dq rfl (ai rfl)
theorem At (sy:SY) (ce fu:List Int) (l:List TT) (h0:l.length≤4) (h:l.length≠4):iv (sy,ce,fu,l)=none:=by
 unfold iv;rcases l with _|⟨a,_|⟨b,_|⟨c,_|⟨d,_|⟨e,l⟩⟩⟩⟩⟩;all_goals first|(simp at h;done)|(exfalso;simp only[bO] at h0;omega)|simp[bz,gi,jJ,mi,ux,uc]
theorem Dc {E:Nat} (sy:SY) (ce fu:List Int) (a b c d:TT) (h:SV E (sy,ce,fu,[a,b,c,d])) (hce:ce.length≤1000) (hfu:fu.length≤1000):iu (sy,ce,fu,[a,b,c,d])=some ((sy.2.1,sy.1,sy.2.2.1,sy.2.2.2).1,(sy.2.1,sy.1,sy.2.2.1,sy.2.2.2).2.1,(sy.2.1,sy.1,sy.2.2.1,sy.2.2.2).2.2.1,(sy.2.1,sy.1,sy.2.2.1,sy.2.2.2).2.2.2,(([]:List Int)++ce),(([]:List Int)++fu),((((a.1,a.2.2.2),a.2.1,a.2.2.1).1.1,((a.1,a.2.2.2),a.2.1,a.2.2.1).2.1,((a.1,a.2.2.2),a.2.1,a.2.2.1).2.2,((a.1,a.2.2.2),a.2.1,a.2.2.1).1.2),(((b.1,b.2.2.2),b.2.1,b.2.2.1).1.1,((b.1,b.2.2.2),b.2.1,b.2.2.1).2.1,((b.1,b.2.2.2),b.2.1,b.2.2.1).2.2,((b.1,b.2.2.2),b.2.1,b.2.2.1).1.2),(((c.1,c.2.2.2),c.2.1,c.2.2.1).1.1,((c.1,c.2.2.2),c.2.1,c.2.2.1).2.1,((c.1,c.2.2.2),c.2.1,c.2.2.1).2.2,((c.1,c.2.2.2),c.2.1,c.2.2.1).1.2),((d.1,d.2.2.2),d.2.1,d.2.2.1).1),((d.1,d.2.2.2),d.2.1,d.2.2.1).2):=by
 have hE:=h.sb.n1;have ha:=h.t a (by simp);have hb:=h.t b (by simp);have hc:=h.t c (by simp);have hd:=h.t d (by simp);refine ii ?_;unfold iu;refine bC (kZ sy h.sb) ?_;refine aK (by simp;omega) (by omega) (aK (by simp;omega) (by omega) ?_);refine b7 rfl (bf rfl (aL (bC (cB a E hE ha) ?_)));refine b7 rfl (bf rfl (aL (bC (cB b E hE hb) ?_)));refine b7 rfl (bf rfl (aL (bC (cB c E hE hc) ?_)));refine b7 rfl (bf rfl (aL (bC (cB d E hE hd) ?_)));exact dq rfl (ai rfl)
theorem As (sy:SY) (ce fu:List Int) (l:List TT) (h0:l.length≤4) (h:l.length≠4):iu (sy,ce,fu,l)=none:=by
 unfold iu;rcases l with _|⟨a,_|⟨b,_|⟨c,_|⟨d,_|⟨e,l⟩⟩⟩⟩⟩;all_goals first|(simp at h;done)|(exfalso;simp only[bO] at h0;omega)|simp[bz,gi,jJ,mi,ux,uc]
theorem kdx (k:Int):k=1∨k=16∨k=2∨k=3∨k=23∨k=4∨k=22∨k=5∨((k=1)=False∧(k=16)=False∧(k=2)=False∧(k=3)=False∧(k=23)=False∧(k=4)=False∧(k=22)=False∧(k=5)=False):=by
 by_cases h:k=1∨k=16∨k=2∨k=3∨k=23∨k=4∨k=22∨k=5
 ·omega
 ·repeat (first|exact⟨eq_false (by omega),eq_false (by omega),eq_false (by omega),eq_false (by omega),eq_false (by omega),eq_false (by omega),eq_false (by omega),eq_false (by omega)⟩|refine Or.inr ?_)
def KR {Z:Type} (n:Nat) (c0:CT) (i:Nat) (u:Int) (l:List TT) (z:Z) (k:Int→(CT×SY×(Int×Int)×Int×(Int×Int×Int×Int×Int)×ET×(Int×Int)×(List Int)×(List Int)×Z×(List Int)×List (List Int))→Option (ST×ET×Bool)):Prop:=
 ∀ (p:Int) (sy:SY) (kd o v si:Int) (ds fs ce fu R:List Int) (T:List (List Int)) (ev:Int),
  (kd≠16→kd≠2→Ok (dh (aB (T:=(.st (.pr (.int .i64) (.sl (.st (.pr (.int .i64) (.pr (.int .i64) (.pr (.int .i64) (.pr (.int .i64) (.pr (.int .i64) (.int .i64))))))))))) c0.2 (i:Int),(p,R,T,aJ .i64 (ev+1)))) fun y=>TH (n+1) y.1)→
  (kd=16∨kd=2→TH (n+1) (p,R,T,aJ .i64 (ev+1)))→
  (∀ t',TH (n+1) t'→SQ n c0 ((sy,ce,fu,l.set i t'),((i:Int),kd,o,v,si,ds,fs),true))→(i:Int)<(c0.2.length:Int)→
  ∀ pc,Ok (k p (c0,sy,((i:Int),u),0,(0,0,0,0,0),((i:Int),kd,o,v,si,ds,fs),(pc,ev),ce,fu,z,R,T)) (SQ n c0)
theorem q7 {Z:Type} (N i:Nat) {cp:SY×(List Int)×(List Int)×List TT→Option (Int×(List (Int×List Int))×(List Bool)×(List (Int×Int×Bool))×(List Int)×(List Int)×Z×(List Int)×List (List Int))} {pc ev:Z→Int} {k:Int→(CT×SY×(Int×Int)×Int×(Int×Int×Int×Int×Int)×ET×(Int×Int)×(List Int)×(List Int)×Z×(List Int)×List (List Int))→Option (ST×ET×Bool)} {n:Nat} (hn:n+1≤100000) (c0:CT) (s:ST) (t u:Int) (hc:CB c0) (hs:SV n s)
 (h0:∀ sy ce fu (l:List TT),l.length≤4→l.length≠N→cp (sy,ce,fu,l)=none)
 (h1:∀ sy ce fu (l:List TT),SV n (sy,ce,fu,l)→ce.length≤1000→fu.length≤1000→l.length=N→i<N∧∃ q1 q2 q3 q4 z,cp (sy,ce,fu,l)=some (q1,q2,q3,q4,ce,fu,z,(aB (T:=(.st (.pr (.int .i64) (.pr (.sl (.int .i64)) (.pr (.sl (.sl (.int .i64))) (.int .i64)))))) l (i:Int)).2.1,(aB (T:=(.st (.pr (.int .i64) (.pr (.sl (.int .i64)) (.pr (.sl (.sl (.int .i64))) (.int .i64)))))) l (i:Int)).2.2.1)∧pc z=(aB (T:=(.st (.pr (.int .i64) (.pr (.sl (.int .i64)) (.pr (.sl (.sl (.int .i64))) (.int .i64)))))) l (i:Int)).1∧ev z=(aB (T:=(.st (.pr (.int .i64) (.pr (.sl (.int .i64)) (.pr (.sl (.sl (.int .i64))) (.int .i64)))))) l (i:Int)).2.2.2∧KR n c0 i u l z k):
 yR (SG (i:Int) cp pc ev k (c0,s,t,u)) (SQ n c0)∧(s.2.2.2.length=N→t=(i:Int)→Ok (SG (i:Int) cp pc ev k (c0,s,t,u)) (SQ n c0)):=by
 by_cases hz:s.2.2.2.length=N∧t=(i:Int)
 ·obtain⟨hz1,rfl⟩:=hz;suffices h:Ok (SG (i:Int) cp pc ev k (c0,s,(i:Int),u)) (SQ n c0) from ⟨.inr h,fun _ _=>h⟩
  unfold SG;refine vq hn hc hs (fun o=>Ok o (SQ n c0)) (fun y h=>ai h) _ fun e v sy hp he ha=>?_
  obtain⟨sy0,ce,fu,l⟩:=s;dsimp only at hz1 he ha;have hE:=hs.sb.n1;have vl:=hp.fs.vc.vl;have hce:=hp.fs.ce;have hfu:=hp.fs.fu;dsimp only at hce hfu;obtain⟨hiN,q1,q2,q3,q4,z,hcp,hpc,hve,hk⟩:=h1 sy0 ce fu l hs (by have:=vl.c;omega) (by have:=vl.f;omega) hz1;have hsb:=ha.toSB hs.sb hn;obtain⟨_,_,nmce,_,_,_,nmfu⟩:=id he.nm;have hev:EL c0.1 e:=⟨he.nm,hp.et▸hp.t0,by rw[hp.et,←hp.fs.vc.tl];exact hp.t1,he.cd⟩
  have hes:Cj e:=⟨cO hp.d (by omega),cO hp.f (by omega)⟩
  have t1:(i:Int)<(c0.2.length:Int):=hp.t1;have htf:TF (aB (T:=(.st (.pr (.int .i64) (.sl (.st (.pr (.int .i64) (.pr (.int .i64) (.pr (.int .i64) (.pr (.int .i64) (.pr (.int .i64) (.int .i64))))))))))) c0.2 (i:Int)) (aB (T:=(.st (.pr (.int .i64) (.pr (.sl (.int .i64)) (.pr (.sl (.sl (.int .i64))) (.int .i64)))))) l (i:Int)):=hp.fs.t i (by omega);have hA:=hp.a;have hB:=hp.b;dsimp only at hA hB;have hvt:=hp.fs.vc.t _ (bZ (T:=(.st (.pr (.int .i64) (.sl (.st (.pr (.int .i64) (.pr (.int .i64) (.pr (.int .i64) (.pr (.int .i64) (.pr (.int .i64) (.int .i64))))))))))) (xs:=c0.2) (j:=(i:Int)) (by omega) t1);have hci:=hc.ins _ (bZ (T:=(.st (.pr (.int .i64) (.sl (.st (.pr (.int .i64) (.pr (.int .i64) (.pr (.int .i64) (.pr (.int .i64) (.pr (.int .i64) (.int .i64))))))))))) (xs:=c0.2) (j:=(i:Int)) (by omega) t1);have hth:TH n (aB (T:=(.st (.pr (.int .i64) (.pr (.sl (.int .i64)) (.pr (.sl (.sl (.int .i64))) (.int .i64)))))) l (i:Int)):=hs.t _ (bZ (T:=(.st (.pr (.int .i64) (.pr (.sl (.int .i64)) (.pr (.sl (.sl (.int .i64))) (.int .i64)))))) (xs:=l) (j:=(i:Int)) (by omega) (by omega));have hl:=hs.t;dsimp only at hl;generalize aB (T:=(.st (.pr (.int .i64) (.pr (.sl (.int .i64)) (.pr (.sl (.sl (.int .i64))) (.int .i64)))))) l (i:Int)=th at hcp hpc hve htf hA hB hth;obtain⟨e1,kd,o,e4,site,ds,fs⟩:=e;have het:=hp.et;dsimp only at het nmce nmfu hA hB;subst het;refine bC hcp ?_;dsimp only;rw[hpc,hve];refine b7 (decide_eq_true rfl) ?_;refine aA (by omega) t1 (aL (aA htf.p0 htf.p1 (aL ?_)));have htz:th.2.2.1.length=th.2.1.length:=by have:=htf.r;have:=htf.t;omega
  have fin:∀ (p:Int) (R:List Int) (T:List (List Int)),R.length=th.2.1.length→T.length=th.2.2.1.length→(∀ x∈T,TL (n+1) x)→Ok (dh (aB (T:=(.st (.pr (.int .i64) (.sl (.st (.pr (.int .i64) (.pr (.int .i64) (.pr (.int .i64) (.pr (.int .i64) (.pr (.int .i64) (.int .i64))))))))))) c0.2 (i:Int),(p,R,T,aJ .i64 (th.2.2.2+1)))) fun y=>TH (n+1) y.1:=fun p R T h1 h2 h3=>by
   have a1:=hth.e0;have a2:=hth.e1;have a3:=hth.r;have a4:=hth.t;rw[io (n:=th.2.2.2+1) (by omega) (by omega)];exact C7 (n+1) hn _ hci hvt _ ⟨by dsimp only;omega,by dsimp only;omega,h3,by dsimp only;omega,by dsimp only;omega⟩
  have keep:∀ x∈th.2.2.1,TL (n+1) x:=fun x hx=>(hth.l x hx).mono (by omega)
  have mark:∀ j:Int,∀ x∈ch th.2.2.1 j [th.2.2.2],TL (n+1) x:=fun j x hx=>by
   rcases vr hx with h|h
   ·exact keep x h
   ·rw[h];exact⟨⟨fun y hy=>(by cases hy),trivial⟩,fun y hy=>by rw[aH] at hy;have:=hth.e0;have:=hth.e1;rw[hy];exact⟨by omega,by omega⟩⟩
  have nopark:TH (n+1) (th.1,th.2.1,th.2.2.1,aJ .i64 (th.2.2.2+1)):=by
   have a1:=hth.e0;have a2:=hth.e1;rw[io (n:=th.2.2.2+1) (by omega) (by omega)];exact⟨hth.r,hth.t,keep,by dsimp only;omega,by dsimp only;omega⟩
  have done:∀ (ce' fu':List Int) (v':Int) (t':TT),TH (n+1) t'→SQ n c0 ((sy,ce',fu',l.set i t'),((i:Int),kd,o,v',site,ds,fs),true):=fun ce' fu' v' t' ht' _=>⟨⟨hsb,fun x hx=>(List.mem_or_eq_of_mem_set hx).elim (fun h=>(hl x h).mono (by omega)) fun h=>h▸ht'⟩,⟨hev.nm,hev.t0,hev.t1,hev.cd⟩,hes⟩
  clear hp hs hc h0 h1 hcp;generalize (aB (T:=(.st (.pr (.int .i64) (.pr (.int .i64) (.pr (.int .i64) (.pr (.int .i64) (.pr (.int .i64) (.int .i64)))))))) (aB (T:=(.st (.pr (.int .i64) (.sl (.st (.pr (.int .i64) (.pr (.int .i64) (.pr (.int .i64) (.pr (.int .i64) (.pr (.int .i64) (.int .i64))))))))))) c0.2 (i:Int)).2 th.1)=ins at hA hB ⊢;rcases kdx kd with rfl|rfl|rfl|rfl|rfl|rfl|rfl|rfl|⟨k1,k2,k3,k4,k5,k6,k7,k8⟩
  case inr.inr.inr.inr.inr.inr.inr.inr=>
   simp only[k1,k2,k3,k4,k5,k6,k7,k8,aT,dw,decide_true,decide_false,ux,uc,zF,AG,tB,AF,cu,cF];exact hk _ _ _ _ _ _ _ _ _ _ _ _ _ (fun _ _=>fin _ _ _ rfl rfl keep) (fun h=>by rw[k2,k3] at h;exact (h.elim id id).elim) (done _ _ _) t1 _
  all_goals simp only[aT,dw,decide_true,decide_false,ux,uc,zF,AG,tB,AF,cu,cF]
  ·exact hk _ _ _ _ _ _ _ _ _ _ _ _ _ (fun _ _=>fin _ _ _ rfl rfl keep) (fun h=>by omega) (done _ _ _) t1 _
  ·exact hk _ _ _ _ _ _ _ _ _ _ _ _ _ (fun h _=>(h rfl).elim) (fun _=>nopark) (done _ _ _) t1 _
  ·exact hk _ _ _ _ _ _ _ _ _ _ _ _ _ (fun _ h=>(h rfl).elim) (fun _=>nopark) (done _ _ _) t1 _
  ·obtain⟨o0,o1⟩:=nmce (.inl rfl);rw[← hce] at o1;obtain⟨a0,a1⟩:=hA (.inl rfl);have a2:ins.2.1<(th.2.2.1.length:Int):=by rw[htz];exact a1
   refine ba (aA o0 o1 (aA o0 o1 (ai ?_)));simp only[aT,dw,decide_true,decide_false,ux,uc,zF,AG,tB,AF,cu,cF];refine ba (aA a0 a1 (aA a0 a1 (aA a0 a2 (aA a0 a2 (ai ?_)))));exact hk _ _ _ _ _ _ _ _ _ _ _ _ _ (fun _ _=>fin _ _ _ (cJ ..) (cJ ..) (mark _)) (fun h=>by omega) (done _ _ _) t1 _
  ·obtain⟨o0,o1⟩:=nmfu (.inr rfl);rw[← hfu] at o1;obtain⟨a0,a1⟩:=hA (.inr (.inl rfl));have a2:ins.2.1<(th.2.2.1.length:Int):=by rw[htz];exact a1
   refine ba (aA o0 o1 (aA o0 o1 (ai ?_)));simp only[aT,dw,decide_true,decide_false,ux,uc,zF,AG,tB,AF,cu,cF];refine ba (aA a0 a1 (aA a0 a1 (aA a0 a2 (aA a0 a2 (ai ?_)))));exact hk _ _ _ _ _ _ _ _ _ _ _ _ _ (fun _ _=>fin _ _ _ (cJ ..) (cJ ..) (mark _)) (fun h=>by omega) (done _ _ _) t1 _
  ·obtain⟨o0,o1⟩:=nmce (.inr rfl);rw[← hce] at o1;obtain⟨a0,a1⟩:=hB (.inl rfl);refine ba (aA a0 a1 (aA a0 a1 (aA o0 o1 (aA o0 o1 (ai ?_)))));simp only[aT,dw,decide_true,decide_false,ux,uc,zF,AG,tB,AF,cu,cF];exact hk _ _ _ _ _ _ _ _ _ _ _ _ _ (fun _ _=>fin _ _ _ rfl rfl keep) (fun h=>by omega) (done _ _ _) t1 _
  ·obtain⟨o0,o1⟩:=nmfu (.inl rfl);rw[← hfu] at o1;obtain⟨a0,a1⟩:=hB (.inr rfl);refine ba (aA a0 a1 (aA a0 a1 (aA o0 o1 (aA o0 o1 (ai ?_)))));simp only[aT,dw,decide_true,decide_false,ux,uc,zF,AG,tB,AF,cu,cF];exact hk _ _ _ _ _ _ _ _ _ _ _ _ _ (fun _ _=>fin _ _ _ rfl rfl keep) (fun h=>by omega) (done _ _ _) t1 _
  ·obtain⟨a0,a1⟩:=hA (.inr (.inr rfl));refine ba (aA a0 a1 (aA a0 a1 (aE (fun _=>ai ?_) fun _=>ai ?_)));all_goals
    simp only[aT,dw,decide_true,decide_false,ux,uc,zF,AG,tB,AF,cu,cF];exact hk _ _ _ _ _ _ _ _ _ _ _ _ _ (fun _ _=>fin _ _ _ rfl rfl keep) (fun h=>by omega) (done _ _ _) t1 _
 ·refine ⟨?_,fun h1 h2=>(hz ⟨h1,h2⟩).elim⟩;unfold SG;refine vq hn hc hs (fun o=>yR o (SQ n c0)) (fun y h=>.inr (ai h)) _ fun e v sy hp he ha=>.inl ?_
  obtain⟨sy0,ce,fu,l⟩:=s;have vl:=hp.fs.vc.vl;by_cases hl:l.length=N
  ·have ht:¬t=(i:Int):=fun h=>hz ⟨hl,h⟩
   dsimp only;cases cp (sy0,ce,fu,l) with
   |none=>rfl
   |some y=>rw[tB,decide_eq_false ht];rfl
  ·show obind (cp (sy0,ce,fu,l)) _=none;rw[h0 sy0 ce fu l (by have h1:l.length=c0.2.length:=hp.fs.th;have:=hp.fs.vc.tl;have:=vl.t;omega) hl];rfl
theorem CY {n:Nat} (hn:n+1≤100000) (c0:CT) (s:ST) (t u:Int) (hc:CB c0) (hs:SV n s):yR (ir (c0,s,t,u)) (SQ n c0)∧(s.2.2.2.length=4→t=0→Ok (ir (c0,s,t,u)) (SQ n c0)):=by
 refine q7 4 0 hn c0 s t u hc hs Av fun sy ce fu l hs hce hfu hl=>⟨by decide,?_⟩
 obtain⟨a,b,c,d,rfl⟩:∃ a b c d,l=[a,b,c,d]:=by
  rcases l with _|⟨a,_|⟨b,_|⟨c,_|⟨d,_|⟨e,l⟩⟩⟩⟩⟩;all_goals first|exact⟨_,_,_,_,rfl⟩|(simp at hl;done)|(exfalso;simp only[bO] at hl;omega)
 refine ⟨_,_,_,_,_,Df sy ce fu a b c d hs hce hfu,rfl,rfl,fun p sy kd o v si ds fs ce fu R T ev fin park done ht pc=>?_⟩;dsimp only;by_cases h1:kd=16
 ·subst h1;exact ba (ba (dq rfl (ai (dq rfl (ai (b7 rfl (ai (done _ (park (.inl rfl))))))))))
 by_cases h2:kd=2
 ·subst h2;exact ba (ba (b7 rfl (ai (dq rfl (ai (b7 rfl (ai (done _ (park (.inr rfl))))))))))
 rw[decide_eq_false h1,decide_eq_false h2];exact ba (ba (b7 rfl (ai (b7 rfl (aA (bA 0) ht (aL (al (fin h1 h2) fun y hy=>ai (b7 rfl (ai (done _ hy))))))))))
theorem CX {n:Nat} (hn:n+1≤100000) (c0:CT) (s:ST) (t u:Int) (hc:CB c0) (hs:SV n s):yR (iq (c0,s,t,u)) (SQ n c0)∧(s.2.2.2.length=4→t=1→Ok (iq (c0,s,t,u)) (SQ n c0)):=by
 refine q7 4 1 hn c0 s t u hc hs Au fun sy ce fu l hs hce hfu hl=>⟨by decide,?_⟩
 obtain⟨a,b,c,d,rfl⟩:∃ a b c d,l=[a,b,c,d]:=by
  rcases l with _|⟨a,_|⟨b,_|⟨c,_|⟨d,_|⟨e,l⟩⟩⟩⟩⟩;all_goals first|exact⟨_,_,_,_,rfl⟩|(simp at hl;done)|(exfalso;simp only[bO] at hl;omega)
 refine ⟨_,_,_,_,_,De sy ce fu a b c d hs hce hfu,rfl,rfl,fun p sy kd o v si ds fs ce fu R T ev fin park done ht pc=>?_⟩;dsimp only;by_cases h1:kd=16
 ·subst h1;exact ba (ba (dq rfl (ai (dq rfl (ai (b7 rfl (ai (done _ (park (.inl rfl))))))))))
 by_cases h2:kd=2
 ·subst h2;exact ba (ba (b7 rfl (ai (dq rfl (ai (b7 rfl (ai (done _ (park (.inr rfl))))))))))
 rw[decide_eq_false h1,decide_eq_false h2];exact ba (ba (b7 rfl (ai (b7 rfl (aA (bA 1) ht (aL (al (fin h1 h2) fun y hy=>ai (b7 rfl (ai (done _ hy))))))))))
theorem CW {n:Nat} (hn:n+1≤100000) (c0:CT) (s:ST) (t u:Int) (hc:CB c0) (hs:SV n s):yR (gK (c0,s,t,u)) (SQ n c0)∧(s.2.2.2.length=4→t=2→Ok (gK (c0,s,t,u)) (SQ n c0)):=by
 refine q7 4 2 hn c0 s t u hc hs At fun sy ce fu l hs hce hfu hl=>⟨by decide,?_⟩
 obtain⟨a,b,c,d,rfl⟩:∃ a b c d,l=[a,b,c,d]:=by
  rcases l with _|⟨a,_|⟨b,_|⟨c,_|⟨d,_|⟨e,l⟩⟩⟩⟩⟩;all_goals first|exact⟨_,_,_,_,rfl⟩|(simp at hl;done)|(exfalso;simp only[bO] at hl;omega)
 refine ⟨_,_,_,_,_,Dd sy ce fu a b c d hs hce hfu,rfl,rfl,fun p sy kd o v si ds fs ce fu R T ev fin park done ht pc=>?_⟩;dsimp only;by_cases h1:kd=16
 ·subst h1;exact ba (ba (dq rfl (ai (dq rfl (ai (b7 rfl (ai (done _ (park (.inl rfl))))))))))
 by_cases h2:kd=2
 ·subst h2;exact ba (ba (b7 rfl (ai (dq rfl (ai (b7 rfl (ai (done _ (park (.inr rfl))))))))))
 rw[decide_eq_false h1,decide_eq_false h2];exact ba (ba (b7 rfl (ai (b7 rfl (aA (bA 2) ht (aL (al (fin h1 h2) fun y hy=>ai (b7 rfl (ai (done _ hy))))))))))
theorem CV {n:Nat} (hn:n+1≤100000) (c0:CT) (s:ST) (t u:Int) (hc:CB c0) (hs:SV n s):yR (fX (c0,s,t,u)) (SQ n c0)∧(s.2.2.2.length=4→t=3→Ok (fX (c0,s,t,u)) (SQ n c0)):=by
 refine q7 4 3 hn c0 s t u hc hs As fun sy ce fu l hs hce hfu hl=>⟨by decide,?_⟩
 obtain⟨a,b,c,d,rfl⟩:∃ a b c d,l=[a,b,c,d]:=by
  rcases l with _|⟨a,_|⟨b,_|⟨c,_|⟨d,_|⟨e,l⟩⟩⟩⟩⟩;all_goals first|exact⟨_,_,_,_,rfl⟩|(simp at hl;done)|(exfalso;simp only[bO] at hl;omega)
 refine ⟨_,_,_,_,_,Dc sy ce fu a b c d hs hce hfu,rfl,rfl,fun p sy kd o v si ds fs ce fu R T ev fin park done ht pc=>?_⟩;dsimp only;by_cases h1:kd=16
 ·subst h1;exact ba (ba (dq rfl (ai (dq rfl (ai (b7 rfl (ai (done _ (park (.inl rfl))))))))))
 by_cases h2:kd=2
 ·subst h2;exact ba (ba (b7 rfl (ai (dq rfl (ai (b7 rfl (ai (done _ (park (.inr rfl))))))))))
 rw[decide_eq_false h1,decide_eq_false h2];exact ba (ba (b7 rfl (ai (b7 rfl (aA (bA 3) ht (aL (al (fin h1 h2) fun y hy=>ai (b7 rfl (ai (done _ hy))))))))))
theorem C1 {n:Nat} (hn:n+1≤100000) (c0:CT) (s:ST) (t u:Int) (hc:CB c0) (hs:SV n s):yR (fg (c0,s,t,u)) (SQ n c0)∧(s.2.2.2.length=3→t=0→Ok (fg (c0,s,t,u)) (SQ n c0)):=by
 refine q7 3 0 hn c0 s t u hc hs Ay fun sy ce fu l hs hce hfu hl=>⟨by decide,?_⟩
 obtain⟨a,b,c,rfl⟩:∃ a b c,l=[a,b,c]:=by
  rcases l with _|⟨a,_|⟨b,_|⟨c,_|⟨d,_|⟨e,l⟩⟩⟩⟩⟩;all_goals first|exact⟨_,_,_,rfl⟩|(simp at hl;done)|(exfalso;simp only[bO] at hl;omega)
 refine ⟨_,_,_,_,_,Di sy ce fu a b c hs hce hfu,rfl,rfl,fun p sy kd o v si ds fs ce fu R T ev fin park done ht pc=>?_⟩;dsimp only;by_cases h1:kd=16
 ·subst h1;exact ba (ba (dq rfl (ai (dq rfl (ai (b7 rfl (ai (done _ (park (.inl rfl))))))))))
 by_cases h2:kd=2
 ·subst h2;exact ba (ba (b7 rfl (ai (dq rfl (ai (b7 rfl (ai (done _ (park (.inr rfl))))))))))
 rw[decide_eq_false h1,decide_eq_false h2];exact ba (ba (b7 rfl (ai (b7 rfl (aA (bA 0) ht (aL (al (fin h1 h2) fun y hy=>ai (b7 rfl (ai (done _ hy))))))))))
theorem C0 {n:Nat} (hn:n+1≤100000) (c0:CT) (s:ST) (t u:Int) (hc:CB c0) (hs:SV n s):yR (eF (c0,s,t,u)) (SQ n c0)∧(s.2.2.2.length=3→t=1→Ok (eF (c0,s,t,u)) (SQ n c0)):=by
 refine q7 3 1 hn c0 s t u hc hs Ax fun sy ce fu l hs hce hfu hl=>⟨by decide,?_⟩
 obtain⟨a,b,c,rfl⟩:∃ a b c,l=[a,b,c]:=by
  rcases l with _|⟨a,_|⟨b,_|⟨c,_|⟨d,_|⟨e,l⟩⟩⟩⟩⟩;all_goals first|exact⟨_,_,_,rfl⟩|(simp at hl;done)|(exfalso;simp only[bO] at hl;omega)
 refine ⟨_,_,_,_,_,Dh sy ce fu a b c hs hce hfu,rfl,rfl,fun p sy kd o v si ds fs ce fu R T ev fin park done ht pc=>?_⟩;dsimp only;by_cases h1:kd=16
 ·subst h1;exact ba (ba (dq rfl (ai (dq rfl (ai (b7 rfl (ai (done _ (park (.inl rfl))))))))))
 by_cases h2:kd=2
 ·subst h2;exact ba (ba (b7 rfl (ai (dq rfl (ai (b7 rfl (ai (done _ (park (.inr rfl))))))))))
 rw[decide_eq_false h1,decide_eq_false h2];exact ba (ba (b7 rfl (ai (b7 rfl (aA (bA 1) ht (aL (al (fin h1 h2) fun y hy=>ai (b7 rfl (ai (done _ hy))))))))))
theorem CZ {n:Nat} (hn:n+1≤100000) (c0:CT) (s:ST) (t u:Int) (hc:CB c0) (hs:SV n s):yR (d8 (c0,s,t,u)) (SQ n c0)∧(s.2.2.2.length=3→t=2→Ok (d8 (c0,s,t,u)) (SQ n c0)):=by
 refine q7 3 2 hn c0 s t u hc hs Aw fun sy ce fu l hs hce hfu hl=>⟨by decide,?_⟩
 obtain⟨a,b,c,rfl⟩:∃ a b c,l=[a,b,c]:=by
  rcases l with _|⟨a,_|⟨b,_|⟨c,_|⟨d,_|⟨e,l⟩⟩⟩⟩⟩;all_goals first|exact⟨_,_,_,rfl⟩|(simp at hl;done)|(exfalso;simp only[bO] at hl;omega)
 refine ⟨_,_,_,_,_,Dg sy ce fu a b c hs hce hfu,rfl,rfl,fun p sy kd o v si ds fs ce fu R T ev fin park done ht pc=>?_⟩;dsimp only;by_cases h1:kd=16
 ·subst h1;exact ba (ba (dq rfl (ai (dq rfl (ai (b7 rfl (ai (done _ (park (.inl rfl))))))))))
 by_cases h2:kd=2
 ·subst h2;exact ba (ba (b7 rfl (ai (dq rfl (ai (b7 rfl (ai (done _ (park (.inr rfl))))))))))
 rw[decide_eq_false h1,decide_eq_false h2];exact ba (ba (b7 rfl (ai (b7 rfl (aA (bA 2) ht (aL (al (fin h1 h2) fun y hy=>ai (b7 rfl (ai (done _ hy))))))))))
theorem C3 {n:Nat} (hn:n+1≤100000) (c0:CT) (s:ST) (t u:Int) (hc:CB c0) (hs:SV n s):yR (dP (c0,s,t,u)) (SQ n c0)∧(s.2.2.2.length=2→t=0→Ok (dP (c0,s,t,u)) (SQ n c0)):=by
 refine q7 2 0 hn c0 s t u hc hs AA fun sy ce fu l hs hce hfu hl=>⟨by decide,?_⟩
 obtain⟨a,b,rfl⟩:∃ a b,l=[a,b]:=by
  rcases l with _|⟨a,_|⟨b,_|⟨c,_|⟨d,_|⟨e,l⟩⟩⟩⟩⟩;all_goals first|exact⟨_,_,rfl⟩|(simp at hl;done)|(exfalso;simp only[bO] at hl;omega)
 refine ⟨_,_,_,_,_,Dk sy ce fu a b hs hce hfu,rfl,rfl,fun p sy kd o v si ds fs ce fu R T ev fin park done ht pc=>?_⟩;dsimp only;by_cases h1:kd=16
 ·subst h1;exact ba (ba (dq rfl (ai (dq rfl (ai (b7 rfl (ai (done _ (park (.inl rfl))))))))))
 by_cases h2:kd=2
 ·subst h2;exact ba (ba (b7 rfl (ai (dq rfl (ai (b7 rfl (ai (done _ (park (.inr rfl))))))))))
 rw[decide_eq_false h1,decide_eq_false h2];exact ba (ba (b7 rfl (ai (b7 rfl (aA (bA 0) ht (aL (al (fin h1 h2) fun y hy=>ai (b7 rfl (ai (done _ hy))))))))))
theorem C2 {n:Nat} (hn:n+1≤100000) (c0:CT) (s:ST) (t u:Int) (hc:CB c0) (hs:SV n s):yR (dG (c0,s,t,u)) (SQ n c0)∧(s.2.2.2.length=2→t=1→Ok (dG (c0,s,t,u)) (SQ n c0)):=by
 refine q7 2 1 hn c0 s t u hc hs Az fun sy ce fu l hs hce hfu hl=>⟨by decide,?_⟩
 obtain⟨a,b,rfl⟩:∃ a b,l=[a,b]:=by
  rcases l with _|⟨a,_|⟨b,_|⟨c,_|⟨d,_|⟨e,l⟩⟩⟩⟩⟩;all_goals first|exact⟨_,_,rfl⟩|(simp at hl;done)|(exfalso;simp only[bO] at hl;omega)
 refine ⟨_,_,_,_,_,Dj sy ce fu a b hs hce hfu,rfl,rfl,fun p sy kd o v si ds fs ce fu R T ev fin park done ht pc=>?_⟩;dsimp only;by_cases h1:kd=16
 ·subst h1;exact ba (ba (dq rfl (ai (dq rfl (ai (b7 rfl (ai (done _ (park (.inl rfl))))))))))
 by_cases h2:kd=2
 ·subst h2;exact ba (ba (b7 rfl (ai (dq rfl (ai (b7 rfl (ai (done _ (park (.inr rfl))))))))))
 rw[decide_eq_false h1,decide_eq_false h2];exact ba (ba (b7 rfl (ai (b7 rfl (aA (bA 1) ht (aL (al (fin h1 h2) fun y hy=>ai (b7 rfl (ai (done _ hy))))))))))
theorem C4 {n:Nat} (hn:n+1≤100000) (c0:CT) (s:ST) (t u:Int) (hc:CB c0) (hs:SV n s):yR (dH (c0,s,t,u)) (SQ n c0)∧(s.2.2.2.length=1→t=0→Ok (dH (c0,s,t,u)) (SQ n c0)):=by
 refine q7 1 0 hn c0 s t u hc hs AB fun sy ce fu l hs hce hfu hl=>⟨by decide,?_⟩
 obtain⟨a,rfl⟩:∃ a,l=[a]:=by
  rcases l with _|⟨a,_|⟨b,_|⟨c,_|⟨d,_|⟨e,l⟩⟩⟩⟩⟩;all_goals first|exact⟨_,rfl⟩|(simp at hl;done)|(exfalso;simp only[bO] at hl;omega)
 refine ⟨_,_,_,_,_,Dl sy ce fu a hs hce hfu,rfl,rfl,fun p sy kd o v si ds fs ce fu R T ev fin park done ht pc=>?_⟩;dsimp only;by_cases h1:kd=16
 ·subst h1;exact ba (ba (dq rfl (ai (dq rfl (ai (b7 rfl (ai (done _ (park (.inl rfl))))))))))
 by_cases h2:kd=2
 ·subst h2;exact ba (ba (b7 rfl (ai (dq rfl (ai (b7 rfl (ai (done _ (park (.inr rfl))))))))))
 rw[decide_eq_false h1,decide_eq_false h2];exact ba (ba (b7 rfl (ai (b7 rfl (aA (bA 0) ht (aL (al (fin h1 h2) fun y hy=>ai (b7 rfl (ai (done _ hy))))))))))
theorem C5 {n:Nat} (hn:n+1≤100000) (c:CT) (s:ST) (t u:Int) (hc:CB c) (hs:SV n s):Ok (qF (c,s,t,u)) (SQ n c):=by
 unfold qF;have a40:=CY hn c s t u hc hs;have a41:=CX hn c s t u hc hs;have a42:=CW hn c s t u hc hs;have a43:=CV hn c s t u hc hs;have a30:=C1 hn c s t u hc hs;have a31:=C0 hn c s t u hc hs;have a32:=CZ hn c s t u hc hs;have a20:=C3 hn c s t u hc hs;have a21:=C2 hn c s t u hc hs;have a10:=C4 hn c s t u hc hs;by_cases hz:s.2.2.2.length≤4∧0≤t∧t<(s.2.2.2.length:Int)
 ·obtain⟨h1,h2,h3⟩:=hz;have:(s.2.2.2.length=4∧t=0)∨(s.2.2.2.length=4∧t=1)∨(s.2.2.2.length=4∧t=2)∨(s.2.2.2.length=4∧t=3)∨(s.2.2.2.length=3∧t=0)∨(s.2.2.2.length=3∧t=1)∨(s.2.2.2.length=3∧t=2)∨(s.2.2.2.length=2∧t=0)∨(s.2.2.2.length=2∧t=1)∨(s.2.2.2.length=1∧t=0):=by omega
  rcases this with h|h|h|h|h|h|h|h|h|h
  ·exact (a40.2 h.1 h.2).orL
  ·exact a40.1.orR (a41.2 h.1 h.2).orL
  ·exact a40.1.orR (a41.1.orR (a42.2 h.1 h.2).orL)
  ·exact a40.1.orR (a41.1.orR (a42.1.orR (a43.2 h.1 h.2).orL))
  ·exact a40.1.orR (a41.1.orR (a42.1.orR (a43.1.orR (a30.2 h.1 h.2).orL)))
  ·exact a40.1.orR (a41.1.orR (a42.1.orR (a43.1.orR (a30.1.orR (a31.2 h.1 h.2).orL))))
  ·exact a40.1.orR (a41.1.orR (a42.1.orR (a43.1.orR (a30.1.orR (a31.1.orR (a32.2 h.1 h.2).orL)))))
  ·exact a40.1.orR (a41.1.orR (a42.1.orR (a43.1.orR (a30.1.orR (a31.1.orR (a32.1.orR (a20.2 h.1 h.2).orL))))))
  ·exact a40.1.orR (a41.1.orR (a42.1.orR (a43.1.orR (a30.1.orR (a31.1.orR (a32.1.orR (a20.1.orR (a21.2 h.1 h.2).orL)))))))
  ·exact a40.1.orR (a41.1.orR (a42.1.orR (a43.1.orR (a30.1.orR (a31.1.orR (a32.1.orR (a20.1.orR (a21.1.orR (a10.2 h.1 h.2)))))))))
 ·refine Ok.orL ?_;unfold ir;refine vq hn hc hs (fun o=>Ok o (SQ n c)) (fun y h=>ai h) _ fun e v sy hp he ha=>(hz ?_).elim
  have h1:s.2.2.2.length=c.2.length:=hp.fs.th;have h2:c.2.length=c.1.2.2.2.2.1.length:=hp.fs.vc.tl;have h3:c.1.2.2.2.2.1.length≤4:=hp.fs.vc.vl.t;have h4:0≤t:=hp.t0;have h5:t<(c.2.length:Int):=hp.t1;exact⟨by omega,h4,by omega⟩
theorem Fe (c:CT) (s:ST) (l:List (Int×Int)) (hc:CB c) (hs:SV 0 s) (hl:l.length≤9223372036854775806):Ok (oR (c,s,l)) fun y=>y.1.length≤400∧∀ e∈y.1,EL c.1 e∧Cj e:=by
 unfold oR;refine kz (fun x=>((l.length:Int)-x.1).toNat) (fun x=>0≤x.1∧x.2.2.1=c∧SV x.2.1.length x.2.2.2.1∧x.2.1.length≤400∧∀ e∈x.2.1,EL c.1 e∧Cj e) ?_ ⟨fM _,rfl,hs,by simp,fun e he=>(by cases he)⟩;rintro⟨(i:Int),es,c',s',z⟩ ⟨i0,e1,e2,e3,e4⟩;dsimp only at i0 e1 e2 e3 e4;subst e1;refine bn (fun x=>x.2=(es,c',s',z)∧(x.1=true→i<(l.length:Int)∧es.length<400)) ?_ ?_
 ·refine aG (fun g=>ai ⟨rfl,fun h=>⟨g,?_⟩⟩) fun _=>ai ⟨rfl,fun h=>(by cases h)⟩
  dsimp only at h;rw[og] at h;dsimp only[aj] at h;omega
 rintro⟨b,x⟩ ⟨f1,f2⟩;dsimp only at f1 f2;subst f1;refine ax (fun h=>?_) fun _=>ai ⟨e3,e4⟩
 obtain⟨g1,g2⟩:=f2 h;refine bn (fun x=>x.2.1=c'∧SV x.1.length x.2.2.1∧x.1.length≤400∧∀ e∈x.1,EL c'.1 e∧Cj e) ?_ ?_
 ·refine aA i0 g1 (aL ?_);refine al (C5 (n:=es.length) (by omega) c' s' _ _ hc e2) fun y hy=>?_
  refine ax (fun h=>?_) fun _=>ai ⟨rfl,e2,e3,e4⟩
  obtain⟨h1,h2,h3⟩:=hy h;refine aK (by simp;omega) (by omega) (ai ⟨rfl,?_,by simp;omega,fun e he=>?_⟩)
  ·dsimp only;rw[cq,dM];exact h1
  ·rcases bD.1 he with he|he
   ·exact e4 e he
   ·rw[aH] at he;subst he;exact⟨h2,h3⟩
 rintro⟨es',c2,s2,z2⟩ ⟨k1,k2,k3,k4⟩;dsimp only at k1 k2 k3 k4;subst k1;refine ai ?_;dsimp only;rw[io (n:=i+1) (by omega) (by omega)];exact⟨⟨by omega,rfl,k2,k3,k4⟩,by omega⟩
theorem GC (c:CT) (l:List (Int×Int)) (hc:CB c) (hl:l.length≤9223372036854775806):Ok (qf (c,l)) fun y=>TR y.1:=by
 unfold qf;refine al (wJ c hc) fun b hb=>?_
 refine aX (fun _=>ai ⟨⟨by simp,by simp,by simp,by simp,by simp,by simp⟩,fun h=>(h rfl).elim,fun e he=>(by cases he),by simp,fun e he=>(by cases he)⟩) fun h=>?_
 have hv:=hb h;refine al (BE c hc) fun s hs=>?_
 refine al (Fe c s l hc hs hl) fun y hy=>ai ?_
 exact⟨hv.vl.wb,fun _=>hv.vl,fun e he=>(hy.2 e he).1,by have:=hy.1;dsimp only;omega,fun e he=>(hy.2 e he).2⟩
theorem BJ (l:List Int) (hl:l.length≤1000000):Ok (jH l) fun y=>y.length=l.length:=by
 unfold jH;refine bY l.length (fun i x=>x.1=(i:Int)∧x.2.length=i) ?_ ?_ ⟨rfl,rfl⟩
 ·rintro i ⟨a,b⟩ hi ⟨e1,e2⟩;dsimp only at e1 e2;subst e1;refine aG (fun _=>?_) fun g=>(by dsimp only[aj] at g;omega)
  refine aA (by dsimp only;omega) (by dsimp only;omega) (aL (aA (by dsimp only;omega) (by dsimp only;omega) (aL (aK (by simp;omega) (by omega) (ai ?_)))));dsimp only;exact⟨hJ (by omega),by simp;omega⟩
 ·rintro⟨a,b⟩ ⟨e1,e2⟩;dsimp only at e1 e2;subst e1;exact aG (fun g=>(by dsimp only[aj] at g;omega)) fun _=>ai e2
theorem di (e:Xp):bG (Xp.op e,Xp.n e,Xp.name e,Xp.l e)=e:=by cases e;rfl
theorem pZ (s:Sx):cz (Sx.op s,Sx.line s,Sx.name s,Sx.arg s,Sx.index s,Sx.expr s,Sx.body s,Sx.els s)=s:=by cases s;rfl
def GE:Nat→Xp→Prop
 |0,_=>False
 |d+1,e=>(e.op=3→e.name=[113])∧(e.op≠1→e.op≠2→1≤e.l.length)∧e.l.length≤2∧∀ x∈e.l,GE d x
theorem GE.mono:∀ {d:Nat} {e:Xp},GE d e→GE (d+1) e
 |0,_,h=>h.elim
 |_+1,_,h=>⟨h.1,h.2.1,h.2.2.1,fun x hx=>(h.2.2.2 x hx).mono⟩
theorem GE.le {d k:Nat} {e:Xp} (h:GE d e) (hk:d≤k):GE k e:=by
 induction hk with
 |refl=>exact h
 |step _ ih=>exact ih.mono
theorem yi (n:Int):lX n=some (.mk 1 n [] []):=rfl
theorem uX (s:List UInt8):j9 s=some (.mk 2 0 s []):=rfl
theorem ub (o:Int) (a b:Xp):iY (o,a,b)=some (.mk o 0 [] [a,b]):=by
 cases a;cases b;rfl
theorem ng (s:List UInt8) (e:Xp):ff (s,e)=some (.mk 1 0 s [] [] e [] []):=by
 cases e;rfl
abbrev MK:Type:=Int×Int×Bool×Bool×Bool×Bool
abbrev TY9:Type:=List Int×Int
abbrev HD:Type:=Bool×List (List UInt8)
theorem GE.num (n:Int) (d:Nat):GE (d+1) (.mk 1 n [] []):=⟨fun h=>(by cases h),fun h=>(h rfl).elim,by simp[Xp.l],fun x hx=>(by cases hx)⟩
theorem GE.nm (s:List UInt8) (d:Nat):GE (d+1) (.mk 2 0 s []):=⟨fun h=>(by cases h),fun _ h=>(h rfl).elim,by simp[Xp.l],fun x hx=>(by cases hx)⟩
theorem GE.bin {o:Int} {a b:Xp} {d:Nat} (ho:o≠3) (ha:GE d a) (hb:GE d b):GE (d+1) (.mk o 0 [] [a,b]):=
 ⟨fun h=>(ho h).elim,fun _ _=>by simp[Xp.l],by simp[Xp.l],fun x hx=>by
   simp only[Xp.l,bo,cf,or_false] at hx;rcases hx with rfl|rfl
   ·exact ha
   ·exact hb⟩
theorem GE.ix {a:Xp} {d:Nat} (ha:GE d a):GE (d+1) (.mk 3 0 [113] [a]):=
 ⟨fun _=>rfl,fun _ _=>by simp[Xp.l],by simp[Xp.l],fun x hx=>by
   simp only[Xp.l,bo,cf,or_false] at hx;rw[hx];exact ha⟩
theorem fexpr_ok:∀ (n d:Nat),d<n→d≤10→∀ (m:MK) (t:TY9) (h:HD),TP t→Ok (fmade_maker_expr n ((d:Int),m,t,h)) fun y=>GE (d+1) y.1∧y.2.1=m∧nV t y.2.2.1∧y.2.2.2=h
 |0,d,hd,_,_,_,_,_=>by omega
 |n+1,d,hd,h10,m,t,h,ht=>by
  rw[pV];unfold je;refine al (dK 10 t ht) fun y hy=>?_
  obtain⟨k,t1⟩:=y;obtain⟨s1,k0,k1,_⟩:=hy;have k1:=k1 (by decide);dsimp only at s1 k0 k1;refine bn (fun x=>x.2=(m,t1,h,(0,0,[]),[[97],[98],[120],[121],[118],[120],[121]])∧(x.1=false→2≤k∧(d=0→k<7))) ?_ ?_
  ·refine aG (fun _=>ai ⟨rfl,fun h=>(by cases h)⟩) fun g=>aE (fun g2=>ai ⟨rfl,fun g3=>⟨g,fun _=>?_⟩⟩) fun g2=>ai ⟨rfl,fun _=>⟨g,fun h=>(g2 (by dsimp only;omega)).elim⟩⟩
   dsimp only at g3;rw[o9] at g3;exact g3
  rintro⟨b,x⟩ ⟨e,hb⟩;dsimp only at e hb;subst e;refine ax (fun _=>?_) fun g=>?_
  ·refine al (dK 4 t1 s1.p) fun y hy=>?_
   refine bC (yi _) (ai ?_);exact⟨GE.num _ _,rfl,s1.trans hy.1,rfl⟩
  obtain⟨q0,q1⟩:=hb g;refine aG (fun g=>?_) fun g=>?_
  ·refine al (dK _ t1 s1.p) fun y hy=>?_
   obtain⟨u1,u2,u3,_⟩:=hy;have u3:=u3 (show (1:Int)≤7 by decide);refine aA u2 u3 (aA u2 u3 (aL ?_));refine bC (uX _) (ai ?_);exact⟨GE.nm _ _,rfl,s1.trans u1,rfl⟩
  dsimp only at g;have hd0:d≠0:=fun h=>by have:=q1 h;omega
  obtain⟨d,rfl⟩:∃ k,d=k+1:=⟨d-1,by omega⟩
  refine aE (fun g=>?_) fun g=>?_
  ·refine al (fexpr_ok n 0 (by omega) (by omega) m t1 h s1.p) fun y hy=>?_
   obtain⟨e,m',t',h'⟩:=y;obtain⟨v1,v2,v3,v4⟩:=hy;dsimp only at v1 v2 v3 v4;subst v2;subst v4;refine bf (by simp) (ai ?_);dsimp only;rw[di];exact⟨(GE.ix (v1.le (by omega):GE (d+1) e)),rfl,s1.trans v3,rfl⟩
  ·refine al (dK _ t1 s1.p) fun y hy=>?_
   obtain⟨k2,t2⟩:=y;obtain⟨u1,u2,u3,_⟩:=hy;have u3:=u3 (by decide);dsimp only at u1 u2 u3;refine aA u2 u3 (aA u2 u3 (aL ?_));have ho:aB (T:=.int .i64) [6,7,8,11,13,17] k2≠(3:Int):=by
    have h1:=bZ (T:=.int .i64) (xs:=([6,7,8,11,13,17]:List Int)) u2 u3;have:∀ z:Int,z∈([6,7,8,11,13,17]:List Int)→z≠3:=by decide
    exact this _ h1
   have ew:aJ .i64 (((d+1:Nat):Int)-1)=(d:Int):=by rw[io (by omega) (by omega)];omega
   dsimp only;rw[ew];refine al (fexpr_ok n d (by omega) (by omega) m t2 h u1.p) fun y hy=>?_
   obtain⟨e,m',t',h'⟩:=y;obtain⟨v1,v2,v3,v4⟩:=hy;dsimp only at v1 v2 v3 v4;subst v2;subst v4;refine bf (by simp) ?_;refine al (fexpr_ok n d (by omega) (by omega) m' t' h' v3.p) fun y hy=>?_
   obtain⟨e2,m2,t2',h2⟩:=y;obtain⟨w1,w2,w3,w4⟩:=hy;dsimp only at w1 w2 w3 w4;subst w2;subst w4;refine bf (by simp) ?_;refine bC (ub _ _ _) (ai ?_);dsimp only;rw[di];exact⟨GE.bin ho v1 w1,rfl,s1.trans (u1.trans (v3.trans w3)),rfl⟩
theorem DZ (d:Nat) (hd:d≤10) (m:MK) (t:TY9) (h:HD) (ht:TP t):Ok (dc ((d:Int),m,t,h)) fun y=>GE (d+1) y.1∧y.2.1=m∧nV t y.2.2.1∧y.2.2.2=h:=fexpr_ok fuel d (by rw[fuel_eq];omega) hd m t h ht
def NE (op:Int):Prop:=op=1∨op=2∨op=3∨op=14
def ZE (e:Xp):Prop:=GE 4 e∨e= .mk 0 0 [] []
def GS:Nat→Sx→Prop
 |0,_=>False
 |d+1,s=>(s.index≠[]→s.name=[113])∧s.index.length≤1∧(∀ e∈s.index,GE 4 e)∧(NE s.op→GE 4 s.expr)∧ZE s.expr∧s.body.length≤8∧s.els.length≤8∧(∀ x∈s.body,GS d x)∧(∀ x∈s.els,GS d x)
theorem GS.mono:∀ {d:Nat} {s:Sx},GS d s→GS (d+1) s
 |0,_,h=>h.elim
 |_+1,_,⟨a,b,c,e,f,g,i,j,k⟩=>⟨a,b,c,e,f,g,i,fun x hx=>(j x hx).mono,fun x hx=>(k x hx).mono⟩
theorem GS.le {d k:Nat} {s:Sx} (h:GS d s) (hk:d≤k):GS k s:=by
 induction hk with
 |refl=>exact h
 |step _ ih=>exact ih.mono
theorem GS.asg {d:Nat} (s:List UInt8) {e:Xp} (h:GE 4 e):GS (d+1) (.mk 1 0 s [] [] e [] []):=
 ⟨fun h=>(h rfl).elim,by simp[Sx.index],fun e he=>(by cases he),fun _=>h,.inl h,by simp[Sx.body],by simp[Sx.els],fun x hx=>(by cases hx),fun x hx=>(by cases hx)⟩
theorem GS.aix {d:Nat} {i e:Xp} (hi:GE 4 i) (h:GE 4 e):GS (d+1) (.mk 1 0 [113] [] [i] e [] []):=
 ⟨fun _=>rfl,by simp[Sx.index],fun e he=>(by simp only[Sx.index,aH] at he;rw[he];exact hi),fun _=>h,.inl h,by simp[Sx.body],by simp[Sx.els],fun x hx=>(by cases hx),fun x hx=>(by cases hx)⟩
theorem GS.we {d:Nat} {op:Int} {s a:List UInt8} {e:Xp} {b l:List Sx} (h:GE 4 e) (hb:b.length≤8) (hl:l.length≤8) (gb:∀ x∈b,GS d x) (gl:∀ x∈l,GS d x):GS (d+1) (.mk op 0 s a [] e b l):=
 ⟨fun h=>(h rfl).elim,by simp[Sx.index],fun e he=>(by cases he),fun _=>h,.inl h,hb,hl,gb,gl⟩
theorem GS.wo {d:Nat} {op ln:Int} {s a:List UInt8} {b:List Sx} (ho:4≤op∧op≠14) (hb:b.length≤8) (gb:∀ x∈b,GS d x):GS (d+1) (.mk op ln s a [] (.mk 0 0 [] []) b []):=
 ⟨fun h=>(h rfl).elim,by simp[Sx.index],fun e he=>(by cases he),fun h=>(by have h:op=1∨op=2∨op=3∨op=14:=h;omega),.inr rfl,hb,by simp[Sx.els],gb,fun x hx=>(by cases hx)⟩
def QS (d:Nat) (n:Int) (t:TY9) (h:HD) (y:MK×TY9×HD×List Sx):Prop:=(y.2.2.2.length:Int)≤max 0 n∧(∀ s∈y.2.2.2,GS (d+1) s)∧nV t y.2.1∧y.2.2.1.2=h.2
def QT (d:Nat) (t:TY9) (h:HD) (y:Sx×MK×TY9×HD):Prop:=GS (d+1) y.1∧nV t y.2.2.1∧y.2.2.2.2=h.2
def QB (d:Nat) (t:TY9) (h:HD) (y:List Sx×MK×TY9×HD):Prop:=y.1.length≤2∧(∀ s∈y.1,GS (d+1) s)∧nV t y.2.2.1∧y.2.2.2.2=h.2
abbrev RS:Type:=((Int×Int)×MK×TY9×HD)→Option (MK×TY9×HD×List Sx)
abbrev RT:Type:=(Int×MK×TY9×HD)→Option (Sx×MK×TY9×HD)
abbrev RBk:Type:=((List UInt8×Int)×MK×TY9×HD)→Option (List Sx×MK×TY9×HD)
def G0 (rs:RS) (d:Nat):Prop:=∀ (n:Int) (m:MK) (t:TY9) (h:HD),n≤3→TP t→h.2.length+d≤100→Ok (rs (((d:Int),n),m,t,h)) (QS d n t h)
def SpT (rt:RT) (d:Nat):Prop:=∀ (m:MK) (t:TY9) (h:HD),TP t→h.2.length+d≤100→Ok (rt ((d:Int),m,t,h)) (QT d t h)
def SpB (rb:RBk) (d:Nat):Prop:=∀ (s:List UInt8) (m:MK) (t:TY9) (h:HD),TP t→h.2.length+1+d≤100→Ok (rb ((s,(d:Int)),m,t,h)) (QB d t h)
theorem CI (rs:RS) (rt:RT) (rb:RBk) (d:Nat) (ht:SpT rt d):G0 (il rs rt rb) d:=by
 intro n m t h hn hp hh;unfold il;refine kz (fun x=>(n-x.1).toNat) (fun x=>0≤x.1∧(x.1≤n∨x.1=0)∧nV t x.2.2.1∧(x.2.2.2.1.length:Int)≤x.1∧(∀ s∈x.2.2.2.1,GS (d+1) s)∧x.2.2.2.2.2=h.2) ?_ ⟨fM _,.inr rfl,nV.refl hp,by simp,fun s hs=>(by cases hs),rfl⟩;rintro⟨(i:Int),m',t',l,h'⟩ ⟨i0,i1,e1,e2,e3,e4⟩;dsimp only at i0 i1 e1 e2 e3 e4;refine bn (fun x=>x.2=(m',t',l,h')∧(x.1=true→i<n)) ?_ ?_
 ·refine aG (fun g=>aE (fun _=>ai ⟨rfl,fun _=>g⟩) fun _=>ai ⟨rfl,fun _=>g⟩) fun _=>ai ⟨rfl,fun h=>(by cases h)⟩
 rintro⟨b,x⟩ ⟨f1,f2⟩;dsimp only at f1 f2;subst f1;refine ax (fun hb=>?_) fun _=>ai ⟨by dsimp only;omega,e3,e1,e4⟩
 have g:=f2 hb;refine al (ht m' t' h' e1.p (by rw[e4];exact hh)) fun y hy=>?_
 obtain⟨s,m2,t2,h2⟩:=y;obtain⟨k1,k2,k3⟩:=hy;dsimp only at k1 k2 k3;refine bf (by simp) (aK (by simp;omega) (by omega) (ai ?_));dsimp only;rw[di,pZ,io (n:=i+1) (by omega) (by omega)];refine ⟨⟨by omega,by omega,e1.trans k2,by simp;omega,fun x hx=>?_,k3.trans e4⟩,by omega⟩;rcases bD.1 hx with hx|hx
 ·exact e3 x hx
 ·rw[aH] at hx;subst hx;exact k1
theorem CK (rs:RS) (rt:RT) (rb:RBk) (d:Nat) (hs:G0 rs d):SpB (im rs rt rb) d:=by
 intro s m t h hp hh;unfold im;refine aK (by simp;omega) (by omega) ?_;refine al (dK 2 t hp) fun y hy=>?_
 obtain⟨k,t1⟩:=y;obtain⟨u1,u2,u3,_⟩:=hy;have u3:=u3 (by decide);dsimp only at u1 u2 u3;have ew:aJ .i64 (1+k)=1+k:=io (by omega) (by omega);dsimp only;rw[ew];refine al (hs (1+k) m t1 (h.1,h.2++[s]) (by omega) u1.p (by simp;omega)) fun y hy=>?_
 obtain⟨m2,t2,h2,l⟩:=y;obtain⟨k1,k2,k3,k4⟩:=hy;dsimp only at k1 k2 k3 k4;refine bf (by simp) ?_;dsimp only;rw[k4];have el:aJ .i64 ((ah (h.2++[s]).length)-1)=(h.2.length:Int):=by
  rw[cq,dM,io (by simp<;>omega) (by simp<;>omega)];simp<;>omega
 rw[el];refine aQ (aU (by omega) (a8 (by simp;omega) (ai ?_)));refine ⟨by dsimp only;omega,k2,u1.trans k3,?_⟩;show dD (aM (h.2.length:Int)) (h.2++[s])=h.2;simp
theorem sH (s:List UInt8) (m:MK) (t:TY9) (h:HD) (hh:h.2.length≤100):Ok (c4 (s,m,t,h)) fun y=>y.2=(m,t,h):=by
 unfold c4;exact al (s5 h.2 s (by omega)) fun y _=>ai rfl
theorem Ef (rs:RS) (rt:RT) (rb:RBk) (d:Nat) (hd:d≤5) (h0:1≤d→G0 rs 0) (hS:1≤d→G0 rs (d-1)) (hB:1≤d→SpB rb (d-1)):SpT (jd rs rt rb) d:=by
 intro m t h hp hh;unfold jd;refine al (dK 18 t hp) fun y hy=>?_
 obtain⟨k,t1⟩:=y;obtain⟨s1,k0,k1,_⟩:=hy;have k1:=k1 (by decide);dsimp only at s1 k0 k1;have hE:∀ (j:Nat) (m':MK) (t':TY9) (h':HD),j≤1→TP t'→Ok (dc ((j:Int),m',t',h')) fun y=>GE 4 y.1∧y.2.1=m'∧nV t' y.2.2.1∧y.2.2.2=h':=fun j m' t' h' hj ht'=>(DZ j (by omega) m' t' h' ht').mono fun y hy=>⟨hy.1.le (by omega),hy.2⟩
 have ed:aJ .i64 ((d:Int)-1)=(d:Int)-1:=io (by omega) (by omega);have ed1:1≤d→(d:Int)-1=((d-1:Nat):Int):=fun _=>by omega
 refine bn (fun x=>x.2=((m.1,aJ .i64 (m.2.1-1),m.2.2),t1,(0,0,[],[],0,0,[]),h)∧(x.1=true→1≤d)) ?_ ?_
 ·refine aG (fun g=>aL (aG (fun _=>ai ⟨rfl,fun _=>?_⟩) fun _=>ai ⟨rfl,fun h=>(by cases h)⟩)) fun _=>ai ⟨rfl,fun h=>(by cases h)⟩
  dsimp only at g;omega
 generalize ((m.1,aJ .i64 (m.2.1-1),m.2.2):MK)=m0;rintro⟨nest,x⟩ ⟨e,hn⟩;dsimp only at e hn;subst e;refine aG (fun _=>?_) fun g4=>?_
 ·refine aA k0 (by dsimp only[aa];omega) (aA k0 (by dsimp only[aa];omega) (aL ?_));refine al (hE 1 m0 t1 h (by omega) s1.p) fun y hy=>?_
  obtain⟨e,m2,t2,h2⟩:=y;obtain⟨v1,v2,v3,v4⟩:=hy;dsimp only at v1 v2 v3 v4;subst v2;subst v4;refine bf (by simp) (bC (ng _ _) (ai ?_));dsimp only;rw[di,pZ];exact⟨GS.asg _ v1,s1.trans v3,rfl⟩
 dsimp only at g4;refine aE (fun _=>?_) fun g5=>?_
 ·refine al (dK 2 t1 s1.p) fun y hy=>?_
  obtain⟨u1,u2,u3,_⟩:=hy;have u3:=u3 (by decide);refine aA u2 u3 (aA u2 u3 (aL ?_));refine al (hE 1 m0 y.2 h (by omega) u1.p) fun z hz=>?_
  obtain⟨e,m2,t2,h2⟩:=z;obtain⟨v1,v2,v3,v4⟩:=hz;dsimp only at v1 v2 v3 v4;subst v2;subst v4;refine bf (by simp) (bC (ng _ _) (ai ?_));dsimp only;rw[di,pZ];exact⟨GS.asg _ v1,s1.trans (u1.trans v3),rfl⟩
 dsimp only at g5;refine aE (fun _=>?_) fun g6=>?_
 ·refine al (hE 0 m0 t1 h (by omega) s1.p) fun z hz=>?_
  obtain⟨e,m2,t2,h2⟩:=z;obtain⟨v1,v2,v3,v4⟩:=hz;dsimp only at v1 v2 v3 v4;subst v2;subst v4;refine bf (by simp) ?_;refine al (hE 1 m2 t2 h2 (by omega) v3.p) fun z hz=>?_
  obtain⟨e',m3,t3,h3⟩:=z;obtain⟨w1,w2,w3,w4⟩:=hz;dsimp only at w1 w2 w3 w4;subst w2;subst w4;refine bf (by simp) (ai ?_);dsimp only;rw[di,di];exact⟨GS.aix v1 w1,s1.trans (v3.trans w3),rfl⟩
 dsimp only at g6;have hz:∀ (c:Prop),c→c:=fun _ h=>h
 have dd:1≤d→d-1+1=d:=fun _=>by omega
 have w8:8≤k→aJ .i64 (k-8)=k-8:=fun _=>io (by omega) (by omega)
 refine bn (fun x=>x.2=(m0,t1,(0,0,[],[],0,0,[]),h)∧(x.1=true→1≤d)) ?_ ?_
 ·refine aE (fun _=>ai ⟨rfl,fun g=>?_⟩) fun _=>ai ⟨rfl,fun h=>(by cases h)⟩
  dsimp only at g;rw[og] at g;omega
 rintro⟨b,x⟩ ⟨e,hb⟩;dsimp only at e hb;subst e;refine ax (fun hb1=>?_) fun _=>?_
 ·have d1:=hb hb1;refine al (hE 1 m0 t1 h (by omega) s1.p) fun z hz=>?_
  obtain⟨e,m2,t2,h2⟩:=z;obtain⟨v1,v2,v3,v4⟩:=hz;dsimp only at v1 v2 v3 v4;subst v2;subst v4;refine bf (by simp) ?_;dsimp only;rw[ed,ed1 d1];refine al (hS d1 1 m2 t2 h2 (by omega) v3.p (by omega)) fun z hz=>?_
  obtain⟨m3,t3,h3,l⟩:=z;obtain⟨w1,w2,w3,w4⟩:=hz;dsimp only at w1 w2 w3 w4;rw[dd d1] at w2;refine bf (by simp) ?_;refine bn (fun x=>x.2.2.2.1=(2,0,[],[],e.op,e.n,e.name,e.l)∧nV t1 x.2.1∧x.2.2.2.2.1.2=h2.2∧x.2.2.2.2.2.1=l∧x.2.2.2.2.2.2.length≤8∧∀ s∈x.2.2.2.2.2.2,GS d s) ?_ ?_
  ·refine al (dK 2 t3 w3.p) fun y hy=>?_
   refine aE (fun _=>?_) fun _=>ai ⟨rfl,v3.trans (w3.trans hy.1),w4,rfl,by simp,fun s hs=>(by cases hs)⟩
   dsimp only;refine al (hS d1 1 m3 y.2 h3 (by omega) hy.1.p (by rw[w4];omega)) fun z hz=>?_
   obtain⟨m4,t4,h4,l2⟩:=z;obtain⟨x1,x2,x3,x4⟩:=hz;dsimp only at x1 x2 x3 x4;rw[dd d1] at x2;exact bf (by simp) (ai ⟨rfl,v3.trans (w3.trans (hy.1.trans x3)),x4.trans w4,rfl,by dsimp only;omega,x2⟩)
  rintro⟨m5,t5,z5,e5,h5,l5,l6⟩ ⟨x1,x2,x3,x4,x5,x6⟩;dsimp only at x1 x2 x3 x4 x5 x6;subst x1;subst x4;refine ai ?_;dsimp only;rw[di];exact⟨GS.we v1 (by first|omega|(dsimp only;omega)) x5 w2 x6,s1.trans x2,x3⟩
 refine bn (fun x=>x.2=(m0,t1,(0,0,[],[],0,0,[]),h)∧(x.1=true→1≤d)) ?_ ?_
 ·refine aE (fun _=>ai ⟨rfl,fun g=>?_⟩) fun _=>ai ⟨rfl,fun h=>(by cases h)⟩
  dsimp only at g;rw[og] at g;omega
 rintro⟨b,x⟩ ⟨e,hb⟩;dsimp only at e hb;subst e;refine ax (fun hb1=>?_) fun _=>?_
 ·have d1:=hb hb1;refine bC (uX _) (bC (yi _) (bC (ub _ _ _) ?_));dsimp only;rw[ed,ed1 d1];refine al (hS d1 1 _ t1 h (by omega) s1.p (by omega)) fun z hz=>?_
  obtain⟨m3,t3,h3,l⟩:=z;obtain⟨w1,w2,w3,w4⟩:=hz;dsimp only at w1 w2 w3 w4;rw[dd d1] at w2;refine bf (by simp) ?_;refine bC (uX _) (bC (yi _) (bC (ub _ _ _) (bC (ng _ _) ?_)));refine aK (by simp;omega) (by omega) (ai ?_);dsimp only;rw[di,di,pZ];refine ⟨GS.we (GE.bin (by omega) (GE.nm _ 2) (GE.num _ 2)) (by simp;omega) (by simp) (fun x hx=>?_) (fun x hx=>(by cases hx)),s1.trans w3,w4⟩;rcases bD.1 hx with hx|hx
  ·exact w2 x hx
  ·rw[aH] at hx;subst hx;rw[← dd d1];exact GS.asg _ (GE.bin (by omega) (GE.nm _ 2) (GE.num _ 2))
 refine bn (fun x=>x.2=(m0,t1,(0,0,[],[],0,0,[]),h)∧(x.1=true→nest=true∧(k=8∨k=9))) ?_ ?_
 ·refine aE (fun g=>ax (fun gn=>?_) fun _=>ai ⟨rfl,fun h=>(by cases h)⟩) fun _=>aE (fun g=>ax (fun gn=>?_) fun _=>ai ⟨rfl,fun h=>(by cases h)⟩) fun _=>ai ⟨rfl,fun h=>(by cases h)⟩
  all_goals
   dsimp only at g ⊢;rw[w8 (by omega)];refine aA (by omega) (by simp;omega) (aA (by omega) (by simp;omega) (aL ?_));refine al (sH _ m0 t1 h (by omega)) fun y hy=>?_
   obtain⟨yb,y2⟩:=y;dsimp only at hy;subst hy;exact bf (by simp) (ai ⟨rfl,fun _=>⟨gn,by omega⟩⟩)
 rintro⟨b,x⟩ ⟨e,hb⟩;dsimp only at e hb;subst e;refine ax (fun hb1=>?_) fun _=>?_
 ·obtain⟨q1,q2⟩:=hb hb1;have d1:=hn q1;dsimp only;rw[w8 (by omega),ed,ed1 d1];refine aA (by omega) (by simp;omega) (aA (by omega) (by simp;omega) (aL ?_));refine al (hB d1 _ m0 t1 h s1.p (by omega)) fun z hz=>?_
  obtain⟨l,m3,t3,h3⟩:=z;obtain⟨w1,w2,w3,w4⟩:=hz;dsimp only at w1 w2 w3 w4;rw[dd d1] at w2;exact bf (by simp) (ai ⟨GS.wo (by omega) (by first|omega|(dsimp only;omega)) w2,s1.trans w3,w4⟩)
 refine bn (fun x=>x.2=(m0,t1,(0,0,[],[],0,0,[]),h)∧(x.1=true→nest=true∧(k=10∨k=11))) ?_ ?_
 ·refine aE (fun g=>ax (fun gn=>?_) fun _=>ai ⟨rfl,fun h=>(by cases h)⟩) fun _=>aE (fun g=>ax (fun gn=>?_) fun _=>ai ⟨rfl,fun h=>(by cases h)⟩) fun _=>ai ⟨rfl,fun h=>(by cases h)⟩
  all_goals
   dsimp only at g ⊢;refine al (sH _ m0 t1 h (by omega)) fun y hy=>?_
   obtain⟨yb,y2⟩:=y;dsimp only at hy;subst hy;exact bf (by simp) (ai ⟨rfl,fun _=>⟨gn,by omega⟩⟩)
 rintro⟨b,x⟩ ⟨e,hb⟩;dsimp only at e hb;subst e;refine ax (fun hb1=>?_) fun _=>?_
 ·obtain⟨q1,q2⟩:=hb hb1;have d1:=hn q1;dsimp only;rw[ed,ed1 d1,io (n:=k-10) (by omega) (by omega),io (n:=k-10+5) (by omega) (by omega)];refine al (hB d1 _ m0 t1 h s1.p (by omega)) fun z hz=>?_
  obtain⟨l,m3,t3,h3⟩:=z;obtain⟨w1,w2,w3,w4⟩:=hz;dsimp only at w1 w2 w3 w4;rw[dd d1] at w2;exact bf (by simp) (ai ⟨GS.wo (by omega) (by first|omega|(dsimp only;omega)) w2,s1.trans w3,w4⟩)
 refine bn (fun x=>x.2=(m0,t1,(0,0,[],[],0,0,[]),h)∧(x.1=true→nest=true)) ?_ ?_
 ·exact aE (fun _=>ai ⟨rfl,fun g=>g⟩) fun _=>ai ⟨rfl,fun h=>(by cases h)⟩
 rintro⟨b,x⟩ ⟨e,hb⟩;dsimp only at e hb;subst e;refine ax (fun hb1=>?_) fun _=>?_
 ·have d1:=hn (hb hb1);refine al (dK 2 t1 s1.p) fun y hy=>?_
  obtain⟨u1,u2,u3,_⟩:=hy;have u3:=u3 (by decide);dsimp only;rw[io (n:=1+y.1) (by omega) (by omega)];refine al (h0 d1 (1+y.1) _ y.2 h (by omega) u1.p (by omega)) fun z hz=>?_
  obtain⟨m3,t3,h3,l⟩:=z;obtain⟨w1,w2,w3,w4⟩:=hz;dsimp only at w1 w2 w3 w4;exact bf (by simp) (ai ⟨GS.wo (by omega) (by first|omega|(dsimp only;omega)) (fun x hx=>(w2 x hx).le (by omega)),s1.trans (u1.trans w3),w4⟩)
 refine bn (fun x=>x.2=(m0,t1,(0,0,[],[],0,0,[]),h)∧(x.1=true→nest=true)) ?_ ?_
 ·exact aE (fun _=>ax (fun gn=>ai ⟨rfl,fun _=>gn⟩) fun _=>ai ⟨rfl,fun h=>(by cases h)⟩) fun _=>ai ⟨rfl,fun h=>(by cases h)⟩
 rintro⟨b,x⟩ ⟨e,hb⟩;dsimp only at e hb;subst e;refine ax (fun hb1=>?_) fun _=>?_
 ·have d1:=hn (hb hb1);dsimp only;rw[ed,ed1 d1];refine al (hS d1 2 _ t1 h (by omega) s1.p (by omega)) fun z hz=>?_
  obtain⟨m3,t3,h3,l⟩:=z;obtain⟨w1,w2,w3,w4⟩:=hz;dsimp only at w1 w2 w3 w4;rw[dd d1] at w2;exact bf (by simp) (ai ⟨GS.wo (by omega) (by first|omega|(dsimp only;omega)) w2,s1.trans w3,w4⟩)
 refine bn (fun x=>x.2=(m0,t1,(0,0,[],[],0,0,[]),h)∧(x.1=true→nest=true)) ?_ ?_
 ·refine aE (fun _=>ax (fun gn=>ax (fun _=>?_) fun _=>ai ⟨rfl,fun h=>(by cases h)⟩) fun _=>ai ⟨rfl,fun h=>(by cases h)⟩) fun _=>ai ⟨rfl,fun h=>(by cases h)⟩
  refine al (sH _ m0 t1 h (by omega)) fun y hy=>?_
  obtain⟨yb,y2⟩:=y;dsimp only at hy;subst hy;exact bf (by simp) (ai ⟨rfl,fun _=>gn⟩)
 rintro⟨b,x⟩ ⟨e,hb⟩;dsimp only at e hb;subst e;refine ax (fun hb1=>?_) fun _=>?_
 ·have d1:=hn (hb hb1);refine bC (uX _) (bC (ng _ _) (ai ?_));dsimp only;rw[di,pZ];refine ⟨GS.wo (by omega) (by simp) (fun x hx=>?_),s1,rfl⟩;simp only[bo,cf,or_false] at hx;rw[← dd d1];rcases hx with rfl|rfl
  ·exact GS.wo (by omega) (by simp) (fun x hx=>(by cases hx))
  ·exact GS.asg _ (GE.nm _ 3)
 refine bn (fun x=>x.2=(m0,t1,(0,0,[],[],0,0,[]),h)∧(x.1=true→nest=true)) ?_ ?_
 ·refine aE (fun _=>ax (fun gn=>?_) fun _=>ai ⟨rfl,fun h=>(by cases h)⟩) fun _=>ai ⟨rfl,fun h=>(by cases h)⟩
  refine al (sH _ m0 t1 h (by omega)) fun y hy=>?_
  obtain⟨yb,y2⟩:=y;dsimp only at hy;subst hy;exact bf (by simp) (ai ⟨rfl,fun _=>gn⟩)
 rintro⟨b,x⟩ ⟨e,hb⟩;dsimp only at e hb;subst e;refine ax (fun hb1=>?_) fun _=>?_
 ·have d1:=hn (hb hb1);refine al (dK 2 t1 s1.p) fun y hy=>ai ?_
  obtain⟨u1,u2,u3,_⟩:=hy;have u3:=u3 (by decide);dsimp only;rw[io (n:=10+y.1) (by omega) (by omega)];refine ⟨GS.wo (by omega) (by simp) (fun x hx=>?_),s1.trans u1,rfl⟩;simp only[bo,cf,or_false] at hx;rw[hx,←dd d1];exact GS.wo (by omega) (by simp) (fun x hx=>(by cases hx))
 refine bn (fun x=>x.2=(m0,t1,(0,0,[],[],0,0,[]),h)) ?_ ?_
 ·exact aE (fun _=>ax (fun _=>ax (fun _=>ai rfl) fun _=>ai rfl) fun _=>ai rfl) fun _=>ai rfl
 rintro⟨b,x⟩ e;dsimp only at e;subst e;refine ax (fun hb1=>?_) fun _=>?_
 ·refine al (hE 1 _ t1 h (by omega) s1.p) fun z hz=>?_
  obtain⟨e,m2,t2,h2⟩:=z;obtain⟨v1,v2,v3,v4⟩:=hz;dsimp only at v1 v2 v3 v4;subst v2;subst v4;refine bf (by simp) (ai ?_);dsimp only;rw[di];exact⟨GS.we v1 (by simp) (by simp) (fun x hx=>(by cases hx)) (fun x hx=>(by cases hx)),s1.trans v3,rfl⟩
 refine bn (fun x=>x.2.1=m0∧nV t1 x.2.2.1∧x.2.2.2.2=h) ?_ ?_
 ·refine aE (fun _=>ax (fun _=>?_) fun _=>ai ⟨rfl,nV.refl s1.p,rfl⟩) fun _=>ai ⟨rfl,nV.refl s1.p,rfl⟩
  exact al (dK 2 t1 s1.p) fun y hy=>ai ⟨rfl,hy.1,rfl⟩
 rintro⟨b,m9,t9,z9,h9⟩ ⟨e1,e2,e3⟩;dsimp only at e1 e2 e3;subst e1;subst e3;refine ax (fun hb1=>?_) fun _=>?_
 ·exact ai ⟨GS.wo (by omega) (by simp) (fun x hx=>(by cases hx)),s1.trans e2,rfl⟩
 refine al (hE 1 _ t9 h9 (by omega) e2.p) fun z hz=>?_
 obtain⟨e,m2,t2,h2⟩:=z;obtain⟨v1,v2,v3,v4⟩:=hz;dsimp only at v1 v2 v3 v4;subst v2;subst v4;refine bf (by simp) (bC (ng _ _) (ai ?_));dsimp only;rw[di,pZ];exact⟨GS.asg _ v1,s1.trans (e2.trans v3),rfl⟩
theorem fmaker_ok:∀ (n:Nat),(∀ d:Nat,d≤5→3*d+1≤n→SpT (fmade_maker_stmt n) d)∧(∀ d:Nat,d≤5→3*d+2≤n→G0 (fmade_maker_stmts n) d)∧(∀ d:Nat,d≤5→3*d+3≤n→SpB (fmade_maker_block n) d)
 |0=>⟨fun d _ h=>by omega,fun d _ h=>by omega,fun d _ h=>by omega⟩
 |n+1=>by
  obtain⟨hT,hS,hB⟩:=fmaker_ok n;refine ⟨fun d h1 h2=>?_,fun d h1 h2=>?_,fun d h1 h2=>?_⟩
  ·exact Ef (fmade_maker_stmts n) (fmade_maker_stmt n) (fmade_maker_block n) d h1 (fun h=>hS 0 (by omega) (by omega)) (fun h=>hS (d-1) (by omega) (by omega)) (fun h=>hB (d-1) (by omega) (by omega))
  ·exact CI (fmade_maker_stmts n) (fmade_maker_stmt n) (fmade_maker_block n) d (hT d h1 (by omega))
  ·exact CK (fmade_maker_stmts n) (fmade_maker_stmt n) (fmade_maker_block n) d (hS d h1 (by omega))
theorem CD (d:Nat) (hd:d≤5):G0 kN d:=(fmaker_ok fuel).2.1 d hd (by rw[fuel_eq];omega)
def GX:Nat→Xp→Prop
 |0,_=>False
 |d+1,e=>e.l.length≤2∧∀ x∈e.l,GX d x
theorem GE.x:∀ {d:Nat} {e:Xp},GE d e→GX d e
 |0,_,h=>h.elim
 |_+1,_,h=>⟨h.2.2.1,fun x hx=>(h.2.2.2 x hx).x⟩
theorem ZE.x {e:Xp} (h:ZE e):GX 4 e:=by
 rcases h with h|rfl
 ·exact h.x
 ·exact⟨by simp[Xp.l],fun x hx=>(by cases hx)⟩
def GT:Nat→Sx→Prop
 |0,_=>False
 |d+1,s=>s.index.length≤1∧(∀ e∈s.index,GX 4 e)∧GX 4 s.expr∧s.body.length≤8∧s.els.length≤8∧(∀ x∈s.body,GT d x)∧(∀ x∈s.els,GT d x)
theorem GS.t:∀ {d:Nat} {s:Sx},GS d s→GT d s
 |0,_,h=>h.elim
 |_+1,_,⟨_,b,c,_,f,g,i,j,k⟩=>⟨b,fun e he=>(c e he).x,f.x,g,i,fun x hx=>(j x hx).t,fun x hx=>(k x hx).t⟩
theorem pU (s:Sx):cz (Sx.op s,Sx.line s,Sx.name s,Sx.arg s,Sx.index s,bG (Xp.op (Sx.expr s),Xp.n (Sx.expr s),Xp.name (Sx.expr s),Xp.l (Sx.expr s)),Sx.body s,Sx.els s)=s:=by
 rw[di,pZ]
theorem An (k:Int):Ok (jC k) fun _=>True:=by
 unfold jC;with_reducible repeat' first|apply aQ|apply aA|apply aK|apply aU|apply a8|apply a9|apply aR|apply aV|apply bE|apply aL|apply bK|apply bL|refine aG (fun _=>?_) fun _=>?_|refine be (fun _=>?_) fun _=>?_|refine aE (fun _=>?_) fun _=>?_|refine aP (fun _=>?_) fun _=>?_|refine aX (fun _=>?_) fun _=>?_|refine ax (fun _=>?_) fun _=>?_|apply ba|apply ai
 all_goals trivial
theorem kX (e:Xp):Ok (lU e) fun _=>True:=by
 unfold lU;with_reducible repeat' first|apply aQ|apply aA|apply aK|apply aU|apply a8|apply a9|apply aR|apply aV|apply bE|apply aL|apply bK|apply bL|refine aG (fun _=>?_) fun _=>?_|refine be (fun _=>?_) fun _=>?_|refine aE (fun _=>?_) fun _=>?_|refine aP (fun _=>?_) fun _=>?_|refine aX (fun _=>?_) fun _=>?_|refine ax (fun _=>?_) fun _=>?_|apply ba|apply ai
 all_goals trivial
theorem fShapedExpr_ok:∀ (n d:Nat) (e:Xp),d<n→GX d e→Ok (fr02_ShapedExpr n e) fun _=>True
 |0,_,_,h,_=>by omega
 |n+1,0,_,_,h=>h.elim
 |n+1,d+1,e,hn,h=>by
  obtain⟨h1,h2⟩:=h;rw[ql];unfold jS;refine bn (fun x=>x.2=e) (aE (fun _=>ai (di e)) fun _=>ai (di e)) ?_;rintro⟨b,x⟩ hx;dsimp only at hx;subst hx;refine bn (fun y=>y.2=x) ?_ ?_
  ·refine al (An _) fun _ _=>?_
   with_reducible repeat' first|refine aP (fun _=>?_) fun _=>?_|refine aG (fun _=>?_) fun _=>?_|refine aX (fun _=>?_) fun _=>?_|refine ax (fun _=>?_) fun _=>?_|exact ai (di x)|refine al (eB _) fun _ _=>?_
  rintro⟨b2,y⟩ hy;dsimp only at hy;subst hy;refine ax (fun _=>ai trivial) fun _=>?_
  refine bY y.l.length (fun i x=>x.1=(i:Int)∧x.2=y) ?_ ?_ ⟨rfl,di y⟩
  ·rintro i ⟨a,z⟩ hi ⟨e1,e2⟩;dsimp only at e1 e2;subst e1;subst e2;refine aG (fun _=>?_) fun g=>(by dsimp only[aj] at g;omega)
   refine aA (by dsimp only;omega) (by dsimp only;omega) (aL ?_);refine al (fShapedExpr_ok n d _ (by omega) (h2 _ (bZ (T:=.ex) (xs:=z.l) (j:=(i:Int)) (by omega) (by omega)))) fun _ _=>?_
   refine aX (fun _=>ai trivial) fun _=>ai ?_
   dsimp only;exact⟨hJ (by omega),di z⟩
  ·rintro⟨a,z⟩ ⟨e1,e2⟩;dsimp only at e1 e2;subst e1;subst e2;exact aG (fun g=>(by dsimp only[aj] at g;omega)) fun _=>ai trivial
theorem dJ (e:Xp) (h:GX 4 e):Ok (fR e) fun _=>True:=fShapedExpr_ok fuel 4 e (by rw[fuel_eq];omega) h
theorem wY (d:Int×Int×List UInt8×Int×Int×List UInt8):Ok (hY d) fun _=>True:=by
 unfold hY;refine bn (fun _=>True) ?_ fun x _=>ax (fun _=>ai trivial) fun _=>?_
 ·with_reducible repeat' first|refine aP (fun _=>?_) fun _=>?_|refine aG (fun _=>?_) fun _=>?_|refine aX (fun _=>?_) fun _=>?_|exact ai trivial|refine al (eB _) fun _ _=>?_
 refine bn (fun _=>True) ?_ fun x _=>ax (fun _=>ai trivial) fun _=>?_
 ·with_reducible repeat' first|refine aP (fun _=>?_) fun _=>?_|refine aE (fun _=>?_) fun _=>?_|refine aX (fun _=>?_) fun _=>?_|exact ai trivial|refine al (eB _) fun _ _=>?_
 with_reducible repeat' first|apply aQ|apply aA|apply aK|apply aU|apply a8|apply a9|apply aR|apply aV|apply bE|apply aL|apply bK|apply bL|refine aG (fun _=>?_) fun _=>?_|refine be (fun _=>?_) fun _=>?_|refine aE (fun _=>?_) fun _=>?_|refine aP (fun _=>?_) fun _=>?_|refine aX (fun _=>?_) fun _=>?_|refine ax (fun _=>?_) fun _=>?_|apply ba|apply ai
 all_goals trivial
theorem uK (rt:Sx→Option Bool) (rs:List Sx→Option Bool) (l:List Sx) (hl:l.length≤1000) (h:∀ s∈l,Ok (rt s) fun _=>True):Ok (jc rt rs l) fun _=>True:=by
 unfold jc;refine bY l.length (fun i x=>x=(i:Int)) ?_ ?_ rfl
 ·rintro i x hi rfl;refine aG (fun _=>?_) fun g=>(by dsimp only[aj] at g;omega)
  refine aA (by omega) (by omega) ?_;refine al (h _ (bZ (T:=.sm) (xs:=l) (j:=(i:Int)) (by omega) (by omega))) fun _ _=>?_
  exact aX (fun _=>ai trivial) fun _=>ai (hJ (by omega))
 ·rintro x rfl;exact aG (fun g=>(by dsimp only[aj] at g;omega)) fun _=>ai trivial
theorem wk (rt:Sx→Option Bool) (rs:List Sx→Option Bool) (s:Sx) (h1:∀ e∈s.index,GX 4 e) (h2:GX 4 s.expr) (hb:Ok (rs s.body) fun _=>True) (he:Ok (rs s.els) fun _=>True):Ok (jR rt rs s) fun _=>True:=by
 unfold jR;refine bn (fun x=>x.2=s) ?_ ?_
 ·with_reducible repeat' first|refine aP (fun _=>?_) fun _=>?_|refine aE (fun _=>?_) fun _=>?_|refine aG (fun _=>?_) fun _=>?_|refine be (fun _=>?_) fun _=>?_|refine aX (fun _=>?_) fun _=>?_|refine ax (fun _=>?_) fun _=>?_|exact ai (pU _)|refine al (eB _) fun _ _=>?_|refine al (kX _) fun _ _=>?_|refine al (dJ _ h2x) fun _ _=>?_
 rintro⟨b,x⟩ hx;dsimp only at hx;have hx:=hx.symm;subst hx;refine ax (fun _=>ai trivial) fun _=>?_
 refine bn (fun x=>x.2=s) ?_ ?_
 ·with_reducible repeat' first|refine aP (fun _=>?_) fun _=>?_|refine aE (fun _=>?_) fun _=>?_|refine aG (fun _=>?_) fun _=>?_|refine be (fun _=>?_) fun _=>?_|refine aX (fun _=>?_) fun _=>?_|refine ax (fun _=>?_) fun _=>?_|exact ai (pU _)|refine al (eB _) fun _ _=>?_|refine al (kX _) fun _ _=>?_|refine al (dJ _ h2x) fun _ _=>?_
 rintro⟨b,x⟩ hx;dsimp only at hx;have hx:=hx.symm;subst hx;refine bn (fun x=>x.2=s) ?_ ?_
 ·with_reducible repeat' first|refine aP (fun _=>?_) fun _=>?_|refine aE (fun _=>?_) fun _=>?_|refine aG (fun _=>?_) fun _=>?_|refine be (fun _=>?_) fun _=>?_|refine aX (fun _=>?_) fun _=>?_|refine ax (fun _=>?_) fun _=>?_|exact ai (pU _)|refine al (eB _) fun _ _=>?_|refine al (kX _) fun _ _=>?_|refine al (dJ _ h2x) fun _ _=>?_
 rintro⟨b,x⟩ hx;dsimp only at hx;have hx:=hx.symm;subst hx;refine ax (fun _=>ai trivial) fun _=>?_
 refine bn (fun x=>x.2=s) ?_ ?_
 ·with_reducible repeat' first|refine aP (fun _=>?_) fun _=>?_|refine aE (fun _=>?_) fun _=>?_|refine aG (fun _=>?_) fun _=>?_|refine be (fun _=>?_) fun _=>?_|refine aX (fun _=>?_) fun _=>?_|refine ax (fun _=>?_) fun _=>?_|exact ai (pU _)|refine al (eB _) fun _ _=>?_|refine al (kX _) fun _ _=>?_|refine al (dJ _ h2x) fun _ _=>?_
 rintro⟨b,x⟩ hx;dsimp only at hx;have hx:=hx.symm;subst hx;refine ax (fun _=>ai trivial) fun _=>?_
 refine bn (fun x=>x.2=s) ?_ ?_
 ·with_reducible repeat' first|refine aP (fun _=>?_) fun _=>?_|refine aE (fun _=>?_) fun _=>?_|refine aG (fun _=>?_) fun _=>?_|refine be (fun _=>?_) fun _=>?_|refine aX (fun _=>?_) fun _=>?_|refine ax (fun _=>?_) fun _=>?_|exact ai (pU _)|refine al (eB _) fun _ _=>?_|refine al (kX _) fun _ _=>?_|refine al (dJ _ h2x) fun _ _=>?_
  all_goals
   rename_i g;dsimp only[aj] at g;refine aA (by omega) (by dsimp only;omega) (aL ?_);refine al (dJ _ (h1 _ (bZ (T:=.ex) (xs:=Sx.index _) (j:=0) (by omega) (by omega)))) fun _ _=>ai (pU _)
 rintro⟨b,x⟩ hx;dsimp only at hx;have hx:=hx.symm;subst hx;refine ax (fun _=>ai trivial) fun _=>?_
 refine bn (fun x=>x.2=s) ?_ ?_
 ·with_reducible repeat' first|refine aP (fun _=>?_) fun _=>?_|refine aE (fun _=>?_) fun _=>?_|refine aG (fun _=>?_) fun _=>?_|refine be (fun _=>?_) fun _=>?_|refine aX (fun _=>?_) fun _=>?_|refine ax (fun _=>?_) fun _=>?_|exact ai (pU _)|refine al (eB _) fun _ _=>?_|refine al (kX _) fun _ _=>?_|refine al (dJ _ h2x) fun _ _=>?_
 rintro⟨b,x⟩ hx;dsimp only at hx;have hx:=hx.symm;subst hx;refine bn (fun x=>x.2=s) ?_ ?_
 ·have h2x:GX 4 (bG (Xp.op (Sx.expr s),Xp.n (Sx.expr s),Xp.name (Sx.expr s),Xp.l (Sx.expr s))):=by rw[di];exact h2
  with_reducible repeat' first|refine aP (fun _=>?_) fun _=>?_|refine aE (fun _=>?_) fun _=>?_|refine aG (fun _=>?_) fun _=>?_|refine be (fun _=>?_) fun _=>?_|refine aX (fun _=>?_) fun _=>?_|refine ax (fun _=>?_) fun _=>?_|exact ai (pU _)|refine al (eB _) fun _ _=>?_|refine al (kX _) fun _ _=>?_|refine al (dJ _ h2x) fun _ _=>?_
 rintro⟨b,x⟩ hx;dsimp only at hx;have hx:=hx.symm;subst hx;refine ax (fun _=>ai trivial) fun _=>?_
 refine bn (fun x=>x.2=s) ?_ ?_
 ·with_reducible repeat' first|refine aP (fun _=>?_) fun _=>?_|refine aE (fun _=>?_) fun _=>?_|refine aG (fun _=>?_) fun _=>?_|refine be (fun _=>?_) fun _=>?_|refine aX (fun _=>?_) fun _=>?_|refine ax (fun _=>?_) fun _=>?_|exact ai (pU _)|refine al (eB _) fun _ _=>?_|refine al (kX _) fun _ _=>?_|refine al (dJ _ h2x) fun _ _=>?_
 rintro⟨b,x⟩ hx;dsimp only at hx;have hx:=hx.symm;subst hx;refine bn (fun x=>x.2=s) ?_ ?_
 ·with_reducible repeat' first|refine aP (fun _=>?_) fun _=>?_|refine aE (fun _=>?_) fun _=>?_|refine aG (fun _=>?_) fun _=>?_|refine be (fun _=>?_) fun _=>?_|refine aX (fun _=>?_) fun _=>?_|refine ax (fun _=>?_) fun _=>?_|exact ai (pU _)|refine al (eB _) fun _ _=>?_|refine al (kX _) fun _ _=>?_|refine al (dJ _ h2x) fun _ _=>?_
 rintro⟨b,x⟩ hx;dsimp only at hx;have hx:=hx.symm;subst hx;refine ax (fun _=>ai trivial) fun _=>?_
 refine bn (fun _=>True) ?_ fun _ _=>ai trivial
 refine al hb fun _ _=>ax (fun _=>al he fun _ _=>ai trivial) fun _=>ai trivial
theorem fShaped_ok:∀ (n:Nat),(∀ (d:Nat) (s:Sx),2*d<n→GT d s→Ok (fr02_ShapedStmt n s) fun _=>True)∧(∀ (d:Nat) (l:List Sx),2*d+1<n→l.length≤1000→(∀ s∈l,GT d s)→Ok (fr02_ShapedStmts n l) fun _=>True)
 |0=>⟨fun d _ h=>by omega,fun d _ h=>by omega⟩
 |n+1=>by
  obtain⟨hT,hS⟩:=fShaped_ok n;refine ⟨fun d s hd h=>?_,fun d l hd hl h=>?_⟩
  ·cases d with
   |zero=>exact h.elim
   |succ d=>
    obtain⟨_,g2,g3,g4,g5,g6,g7⟩:=h;exact wk (fr02_ShapedStmt n) (fr02_ShapedStmts n) s g2 g3 (hS d _ (by omega) (by omega) g6) (hS d _ (by omega) (by omega) g7)
  ·exact uK (fr02_ShapedStmt n) (fr02_ShapedStmts n) l hl fun s hs=>hT d s (by omega) (h s hs)
theorem wN (d:Nat) (hd:d≤100) (l:List Sx) (hl:l.length≤1000) (h:∀ s∈l,GT d s):Ok (lV l) fun _=>True:=(fShaped_ok fuel).2 d l (by rw[fuel_eq];omega) hl h
abbrev DT:Type:=Int×Int×List UInt8×Int×Int×List UInt8
abbrev HT:Type:=List UInt8×Int×List (List UInt8)×List Sx
abbrev PG:Type:=List DT×List HT
structure PX (p:PG):Prop where
 d:p.1.length≤100
 t:p.2.length≤8
 l:∀ t∈p.2,t.2.2.1.length≤100
 b:∀ t∈p.2,t.2.2.2.length≤100
 s:∀ t∈p.2,∀ s∈t.2.2.2,GT 5 s
theorem C6 (p:PG) (h:PX p):Ok (mB p) fun _=>True:=by
 obtain⟨hd,ht,hl,hb,hs⟩:=h;unfold mB;refine bY p.1.length (fun i x=>x.1=(i:Int)∧x.2=p) ?_ ?_ ⟨rfl,rfl⟩
 ·rintro i ⟨a,x⟩ hi ⟨e1,e2⟩;dsimp only at e1 e2;subst e1;subst e2;refine aG (fun _=>?_) fun g=>(by dsimp only[aj] at g;omega)
  refine aA (by dsimp only;omega) (by dsimp only;omega) (aL ?_);refine al (wY _) fun _ _=>?_
  exact aX (fun _=>ai trivial) fun _=>ai ⟨hJ (by omega),rfl⟩
 rintro⟨a,x⟩ ⟨e1,e2⟩;dsimp only at e1 e2;subst e1;subst e2;refine aG (fun g=>(by dsimp only[aj] at g;omega)) fun _=>?_
 refine al (P:=fun _=>True) ?_ fun _ _=>ai trivial
 refine bY x.2.length (fun i y=>y.1=(i:Int)∧y.2=x) ?_ ?_ ⟨rfl,rfl⟩
 ·rintro i ⟨a,x⟩ hi ⟨e1,e2⟩;dsimp only at e1 e2;subst e1;have e2:=e2.symm;subst e2;refine aG (fun _=>?_) fun g=>(by dsimp only[aj] at g;omega)
  refine aA (by dsimp only;omega) (by dsimp only;omega) (aL ?_);have hm:=bZ (T:=(.st (.pr .str (.pr (.int .i64) (.pr (.sl .str) (.sl .sm)))))) (xs:=x.2) (j:=(i:Int)) (by omega) (by omega);have h1:=hl _ hm;have h2:=hb _ hm;have h3:=hs _ hm;revert h1 h2 h3;generalize (aB (T:=(.st (.pr .str (.pr (.int .i64) (.pr (.sl .str) (.sl .sm)))))) x.2 (i:Int))=t;intro h1 h2 h3;refine bY t.2.2.1.length (fun k y=>y.1=(k:Int)∧y.2=(x,t)) ?_ ?_ ⟨rfl,rfl⟩
  ·rintro k ⟨a,z⟩ hk ⟨f1,f2⟩;dsimp only at f1 f2;subst f1;subst f2;refine aG (fun _=>?_) fun g=>(by dsimp only[aj] at g;omega)
   refine aA (by dsimp only;omega) (by dsimp only;omega) (aL ?_);refine al (eB _) fun _ _=>?_
   exact aX (fun _=>ai trivial) fun _=>ai ⟨hJ (by omega),rfl⟩
  ·rintro⟨a,z⟩ ⟨f1,f2⟩;dsimp only at f1 f2;subst f1;subst f2;refine aG (fun g=>(by dsimp only[aj] at g;omega)) fun _=>?_
   refine al (P:=fun r=>match r with|.inl y=>y.1=((i+1:Nat):Int)∧y.2=x|.inr _=>True) ?_ ?_
   ·refine bn (fun y=>y.2=x) ?_ ?_
    ·refine al (eB _) fun _ _=>aX (fun _=>ai rfl) fun _=>?_
     exact al (wN 5 (by omega) _ (by dsimp only;omega) h3) fun _ _=>ai rfl
    rintro⟨b,y⟩ e;dsimp only at e;subst e;exact ax (fun _=>ai trivial) fun _=>ai ⟨hJ (by omega),rfl⟩
   ·rintro (y|y) hy
    ·exact ai hy
    ·exact ai trivial
 ·rintro⟨a,y⟩ ⟨e1,e2⟩;dsimp only at e1 e2;subst e1;subst e2;exact aG (fun g=>(by dsimp only[aj] at g;omega)) fun _=>ai trivial
theorem pg (l:List DT) (s:List UInt8) (hl:l.length≤1000):Ok (eH (l,s)) fun r=> -1≤r∧r<(l.length:Int):=by
 unfold eH;refine bY l.length (fun i x=>x=(i:Int)) ?_ ?_ rfl
 ·rintro i x hi rfl;refine aG (fun _=>?_) fun g=>(by dsimp only[aj] at g;omega)
  refine aA (by omega) (by dsimp only;omega) (aL ?_);exact aE (fun _=>ai ⟨by omega,by omega⟩) fun _=>ai (hJ (by omega))
 ·rintro x rfl;exact aG (fun g=>(by dsimp only[aj] at g;omega)) fun _=>ai ⟨by omega,by omega⟩
theorem mH (l:List HT) (s:List UInt8) (hl:l.length≤1000):Ok (eD (l,s)) fun r=> -1≤r∧r<(l.length:Int):=by
 unfold eD;refine bY l.length (fun i x=>x=(i:Int)) ?_ ?_ rfl
 ·rintro i x hi rfl;refine aG (fun _=>?_) fun g=>(by dsimp only[aj] at g;omega)
  refine aA (by omega) (by dsimp only;omega) (aL ?_);exact aE (fun _=>ai ⟨by omega,by omega⟩) fun _=>ai (hJ (by omega))
 ·rintro x rfl;exact aG (fun g=>(by dsimp only[aj] at g;omega)) fun _=>ai ⟨by omega,by omega⟩
def DD (p:PG) (s:List UInt8):Prop:=∃ v,eH (p.1,s)=some v∧0≤v∧v<(p.1.length:Int)
theorem C9 (p:PG) (h:PX p) (t:Int) (s:List UInt8):Ok (mA (p,t,s)) fun k=>k≠0→k≠7→k≠8→DD p s:=by
 have hd:=h.d;have ht:=h.t;unfold mA;refine bn (fun x=>x.2=p) ?_ ?_
 ·refine be (fun g0=>aG (fun g1=>?_) fun _=>ai rfl) fun _=>ai rfl
  dsimp only[aj] at g0 g1;refine aA g0 g1 (aL ?_);have hm:=h.l _ (bZ (T:=(.st (.pr .str (.pr (.int .i64) (.pr (.sl .str) (.sl .sm)))))) (xs:=p.2) (j:=t) g0 g1);exact al (s5 _ s (cO hm (by omega))) fun _ _=>ai rfl
 rintro⟨b,x⟩ e;dsimp only at e;have e:=e.symm;subst e;refine ax (fun _=>ai fun _ _ h=>(h rfl).elim) fun _=>?_
 obtain⟨v,hv,v0,v1⟩:=pg p.1 s (by omega);refine bC hv ?_;refine aG (fun _=>?_) fun g=>?_
 ·exact al (mH p.2 s (by omega)) fun _ _=>be (fun _=>ai fun _ h=>(h rfl).elim) fun _=>ai fun h=>(h rfl).elim
 have hD:DD p s:=⟨v,hv,g,v1⟩
 refine aA g v1 (aL ?_);refine aE (fun _=>?_) fun _=>?_
 ·exact aA g v1 (aL (aP (fun _=>ai fun _ _ _=>hD) fun _=>ai fun _ _ _=>hD))
 refine aE (fun _=>ai fun _ _ _=>hD) fun _=>?_
 refine bn (fun x=>x.2=p) (aE (fun _=>ai rfl) fun _=>aE (fun _=>ai rfl) fun _=>aE (fun _=>ai rfl) fun _=>ai rfl) ?_;rintro⟨b,x⟩ e;dsimp only at e;have e:=e.symm;subst e;exact ax (fun _=>aA g v1 (aL (ai fun _ _ _=>hD))) fun _=>ai fun _ _ _=>hD
theorem jO (p:PG) (h:PX p) (t:Int) (s:List UInt8) (a b:Int):Ok (dZ (p,t,s,a,b)) fun r=>r=0→(a≠7∧a≠8)→(b≠7∧b≠8)→DD p s:=by
 unfold dZ;refine al (C9 p h t s) fun k hk=>?_
 refine aE (fun _=>ai fun h=>(by cases h)) fun g=>?_
 refine bn (fun x=>x=false→k=a∨k=b) ?_ ?_
 ·refine aP (fun _=>ai fun h=>?_) fun h=>ai fun _=>.inl h
  simp at h;exact .inr h
 rintro x hx;refine ax (fun _=>ai fun h=>(by cases h)) fun h=>ai fun _ h1 h2=>hk g ?_ ?_
 ·rcases hx h with h|h<;>omega
 ·rcases hx h with h|h<;>omega
theorem fNodes_ok:∀ (n d:Nat) (e:Xp),d<n→GX d e→Ok (fr04_Nodes n e) fun _=>True
 |0,_,_,h,_=>by omega
 |n+1,0,_,_,h=>h.elim
 |n+1,d+1,e,hn,h=>by
  obtain⟨h1,h2⟩:=h;rw[uN];unfold pF;refine bY e.l.length (fun i x=>x.1.2.2=(i:Int)∧x.2=e) ?_ ?_ ⟨rfl,di e⟩
  ·rintro i ⟨⟨a,b,c⟩,z⟩ hi ⟨e1,e2⟩;dsimp only at e1 e2;subst e1;subst e2;refine aG (fun _=>?_) fun g=>(by dsimp only[aj] at g;omega)
   refine aA (by dsimp only;omega) (by dsimp only;omega) (aL ?_);refine al (fNodes_ok n d _ (by omega) (h2 _ (bZ (T:=.ex) (xs:=z.l) (j:=(i:Int)) (by omega) (by omega)))) fun _ _=>ai ?_
   exact⟨hJ (by omega),di z⟩
  ·rintro⟨⟨a,b,c⟩,z⟩ ⟨e1,e2⟩;dsimp only at e1 e2;subst e1;subst e2;exact aG (fun g=>(by dsimp only[aj] at g;omega)) fun _=>ai trivial
theorem uv (p:PG) (hp:PX p) (t:Int):∀ (n d:Nat) (e:Xp),d<n→GX d e→Ok (fr04_names n (p,t,e)) fun _=>True
 |0,_,_,h,_=>by omega
 |n+1,0,_,_,h=>h.elim
 |n+1,d+1,e,hn,h=>by
  obtain⟨h1,h2⟩:=h;rw[uM];unfold pE;refine bn (fun x=>x.2.1=p∧x.2.2=e) ?_ ?_
  ·refine aE (fun _=>al (jO p hp t _ _ _) fun _ _=>ai ⟨rfl,di e⟩) fun _=>aE (fun _=>al (jO p hp t _ _ _) fun _ _=>ai ⟨rfl,di e⟩) fun _=>ai ⟨rfl,di e⟩
  rintro⟨r,p',e'⟩ ⟨f1,f2⟩;dsimp only at f1 f2;have f1:=f1.symm;subst f1;have f2:=f2.symm;subst f2;refine kz (fun x=>((e.l.length:Int)-x.1.2).toNat) (fun x=>0≤x.1.2∧x.2.1=p∧x.2.2=e) ?_ ⟨fM _,rfl,di e⟩;rintro⟨⟨a,(b:Int)⟩,p',e'⟩ ⟨b0,f1,f2⟩;dsimp only at b0 f1 f2;have f1:=f1.symm;subst f1;have f2:=f2.symm;subst f2;refine bn (fun x=>x.2.1=p∧x.2.2=e∧(x.1=true→b<(e.l.length:Int))) ?_ ?_
  ·exact aG (fun g=>ai ⟨rfl,di e,fun _=>g⟩) fun _=>ai ⟨rfl,di e,fun h=>(by cases h)⟩
  rintro⟨c,p',e'⟩ ⟨f1,f2,f3⟩;dsimp only at f1 f2 f3;have f1:=f1.symm;subst f1;have f2:=f2.symm;subst f2;refine ax (fun hc=>?_) fun _=>ai trivial
  have g:=f3 hc;refine aA b0 g (aL ?_);refine al (uv p hp t n d _ (by omega) (h2 _ (bZ (T:=.ex) (xs:=e.l) (j:=b) b0 g))) fun _ _=>ai ?_
  dsimp only;rw[io (n:=b+1) (by omega) (by omega)];exact⟨⟨by omega,rfl,di e⟩,by omega⟩
theorem pf (p:PG) (hp:PX p) (t:Int) (e:Xp) (h:GX 4 e):Ok (iW (p,t,e)) fun _=>True:=by
 unfold iW;have hx:GX 4 (bG (Xp.op e,Xp.n e,Xp.name e,Xp.l e)):=by rw[di];exact h
 refine al (dJ _ hx) fun _ _=>aX (fun _=>ai trivial) fun _=>?_
 refine al (fNodes_ok fuel 4 _ (by rw[fuel_eq];omega) hx) fun _ _=>?_
 refine bn (fun x=>x.2.1=p∧x.2.2=e) (aG (fun _=>ai ⟨rfl,di e⟩) fun _=>ai ⟨rfl,di e⟩) ?_;rintro⟨r,p',e'⟩ ⟨f1,f2⟩;dsimp only at f1 f2;have f1:=f1.symm;subst f1;have f2:=f2.symm;subst f2;exact ax (fun _=>ai trivial) fun _=>al (uv p hp t fuel 4 _ (by rw[fuel_eq];omega) hx) fun _ _=>ai trivial
theorem dt (b:Bool):Ok (cC b) fun _=>True:=by
 unfold cC;exact ax (fun _=>ai trivial) fun _=>ai trivial
theorem nk (x:Int×Int):Ok (fe x) fun r=>r=0→x.1=0∧x.2=0:=by
 unfold fe;exact aP (fun h=>ai fun h2=>(h h2).elim) fun h=>ai fun h2=>⟨h,h2⟩
abbrev WK:Type:=(List DT×List HT×Int)×(Bool×List Sx)×List (List UInt8)×List (List UInt8)
theorem CH (a b:Int) (s:List UInt8) (w:WK) (h:w.2.1.2.length≤100):Ok (cW ((a,b,s),w)) fun y=>y.2=w:=by
 unfold cW;refine bY w.2.1.2.length (fun i x=>x.1=(i:Int)∧x.2=w) ?_ ?_ ⟨rfl,rfl⟩
 ·rintro i ⟨c,x⟩ hi ⟨e1,e2⟩;dsimp only at e1 e2;subst e1;have e2:=e2.symm;subst e2;refine aG (fun _=>?_) fun g=>(by dsimp only[aj] at g;omega)
  refine aA (by dsimp only;omega) (by dsimp only;omega) (aA (by dsimp only;omega) (by dsimp only;omega) (aL ?_));refine bn (fun x=>x.2=w) ?_ ?_
  ·refine aE (fun _=>aE (fun _=>ai rfl) fun _=>ai rfl) fun _=>aE (fun _=>aE (fun _=>ai rfl) fun _=>ai rfl) fun _=>ai rfl
  rintro⟨c,x⟩ e;dsimp only at e;have e:=e.symm;subst e;exact ax (fun _=>ai rfl) fun _=>ai ⟨hJ (by omega),rfl⟩
 ·rintro⟨c,x⟩ ⟨e1,e2⟩;dsimp only at e1 e2;subst e1;have e2:=e2.symm;subst e2;exact aG (fun g=>(by dsimp only[aj] at g;omega)) fun _=>ai rfl
theorem fCount_ok:∀ (n d:Nat) (l:List Sx),d<n→l.length≤1000→(∀ s∈l,GT d s)→Ok (fr04_Count n l) fun _=>True
 |0,_,_,h,_,_=>by omega
 |n+1,d,l,hn,hl,h=>by
  rw[uO];unfold pG;refine bY l.length (fun i x=>x.2=(i:Int)) ?_ ?_ rfl
  ·rintro i ⟨a,b⟩ hi e1;dsimp only at e1;subst e1;refine aG (fun _=>?_) fun g=>(by dsimp only[aj] at g;omega)
   refine aA (by dsimp only;omega) (by dsimp only;omega) (aL ?_);have hm:=h _ (bZ (T:=.sm) (xs:=l) (j:=(i:Int)) (by omega) (by omega));revert hm;generalize (aB (T:=.sm) l (i:Int))=s;intro hm;cases d with
   |zero=>exact hm.elim
   |succ d=>
    obtain⟨_,_,_,g4,g5,g6,g7⟩:=hm;refine al (fCount_ok n d _ (by omega) (by omega) g6) fun _ _=>?_
    refine aA (by dsimp only;omega) (by dsimp only;omega) (aL ?_);exact al (fCount_ok n d _ (by omega) (by omega) g7) fun _ _=>ai (hJ (by omega))
  ·rintro⟨a,b⟩ e1;dsimp only at e1;subst e1;exact aG (fun g=>(by dsimp only[aj] at g;omega)) fun _=>ai trivial
theorem Bo (l:List DT) (hl:l.length≤100):Ok (nF l) fun _=>True:=by
 unfold nF;refine bY l.length (fun i x=>x.2.2.2.2=(i:Int)) ?_ ?_ rfl
 ·rintro i ⟨a,b,c,d,e⟩ hi e1;dsimp only at e1;subst e1;refine aG (fun _=>?_) fun g=>(by dsimp only[aj] at g;omega)
  refine bn (fun _=>True) ?_ fun x _=>ai (hJ (by omega))
  refine aA (by dsimp only;omega) (by dsimp only;omega) (aL ?_);have htk:(dD (aM (i:Int)) l).length≤100:=by rw[cj];omega
  refine aQ (aU (by dsimp only;omega) (aU (by dsimp only;omega) ?_));refine al (pg _ _ (cO htk (by omega))) fun v hv=>?_
  refine be (fun _=>ai trivial) fun _=>aG (fun _=>ai trivial) fun _=>?_
  refine bn (fun _=>True) ?_ fun x _=>?_
  ·refine bn (fun _=>True) (aE (fun _=>ai trivial) fun _=>ai trivial) fun x _=>ax (fun _=>ai trivial) fun _=>?_
   refine bn (fun _=>True) (aE (fun _=>ai trivial) fun _=>ai trivial) fun x _=>ax (fun _=>ai trivial) fun _=>?_
   exact aE (fun _=>ai trivial) fun _=>ai trivial
  refine bn (fun _=>True) (aG (fun _=>ai trivial) fun _=>aG (fun _=>ai trivial) fun _=>aG (fun _=>ai trivial) fun _=>ai trivial) fun x _=>ax (fun _=>ai trivial) fun _=>?_
  refine aE (fun _=>?_) fun _=>ai trivial
  refine aQ (aU (by dsimp only;omega) (aU (by dsimp only;omega) ?_));refine al (pg _ _ (cO htk (by omega))) fun v hv=>?_
  refine aG (fun _=>ai trivial) fun g=>?_
  have h2:=hv.2;rw[cj] at h2;exact aA g (by dsimp only at h2 ⊢;omega) (aL (aP (fun _=>ai trivial) fun _=>ai trivial))
 ·rintro⟨a,b,c,d,e⟩ e1;dsimp only at e1;subst e1;exact aG (fun g=>(by dsimp only[aj] at g;omega)) fun _=>ai trivial
theorem xV (p:PG) (h:PX p):Ok (kM p) fun _=>True:=by
 have hd:=h.d;have ht:=h.t;unfold kM;refine bY p.2.length (fun i x=>x.1=(i:Int)∧x.2=p) ?_ ?_ ⟨rfl,rfl⟩
 ·rintro i ⟨a,x⟩ hi ⟨e1,e2⟩;dsimp only at e1 e2;subst e1;have e2:=e2.symm;subst e2;refine aG (fun _=>?_) fun g=>(by dsimp only[aj] at g;omega)
  refine aA (by dsimp only;omega) (by dsimp only;omega) (aL ?_);refine bn (fun x=>x.2.1=p) ?_ ?_
  ·refine al (pg _ _ (by dsimp only;omega)) fun v hv=>be (fun _=>ai rfl) fun _=>?_
   refine aQ (aU (by dsimp only;omega) (aU (by dsimp only;omega) ?_));exact al (mH _ _ (by rw[cj];dsimp only;omega)) fun _ _=>ai rfl
  rintro⟨b,x,z⟩ e;dsimp only at e;have e:=e.symm;subst e;exact ax (fun _=>ai trivial) fun _=>ai ⟨hJ (by omega),rfl⟩
 rintro⟨a,x⟩ ⟨e1,e2⟩;dsimp only at e1 e2;subst e1;have e2:=e2.symm;subst e2;refine aG (fun g=>(by dsimp only[aj] at g;omega)) fun _=>?_
 refine al (P:=fun _=>True) ?_ fun _ _=>ai trivial
 refine bY p.2.length (fun i x=>x.1=(i:Int)∧x.2=p) ?_ ?_ ⟨rfl,rfl⟩
 ·rintro i ⟨a,x⟩ hi ⟨e1,e2⟩;dsimp only at e1 e2;subst e1;have e2:=e2.symm;subst e2;refine aG (fun _=>?_) fun g=>(by dsimp only[aj] at g;omega)
  refine aA (by dsimp only;omega) (by dsimp only;omega) (aL ?_);have hm:=h.l _ (bZ (T:=(.st (.pr .str (.pr (.int .i64) (.pr (.sl .str) (.sl .sm)))))) (xs:=p.2) (j:=(i:Int)) (by omega) (by omega));revert hm;generalize (aB (T:=(.st (.pr .str (.pr (.int .i64) (.pr (.sl .str) (.sl .sm)))))) p.2 (i:Int))=t;intro hm;refine aG (fun _=>ai trivial) fun _=>?_
  refine bY t.2.2.1.length (fun k y=>y.1=(k:Int)∧y.2=(p,t)) ?_ ?_ ⟨rfl,rfl⟩
  ·rintro k ⟨a,z⟩ hk ⟨f1,f2⟩;dsimp only at f1 f2;subst f1;subst f2;refine aG (fun _=>?_) fun g=>(by dsimp only[aj] at g;omega)
   refine aA (by dsimp only;omega) (by dsimp only;omega) (aL ?_);refine bn (fun x=>x.2=(p,t)) ?_ ?_
   ·refine al (pg _ _ (by dsimp only;omega)) fun v hv=>be (fun _=>ai rfl) fun _=>?_
    refine al (mH _ _ (by dsimp only;omega)) fun v hv=>be (fun _=>ai rfl) fun _=>?_
    refine aQ (aU (by dsimp only;omega) (aU (by dsimp only;omega) ?_));exact al (s5 _ _ (by rw[cj];dsimp only;omega)) fun _ _=>ai rfl
   rintro⟨b,x⟩ e;dsimp only at e;subst e;exact ax (fun _=>ai trivial) fun _=>ai ⟨hJ (by omega),rfl⟩
  ·rintro⟨a,z⟩ ⟨f1,f2⟩;dsimp only at f1 f2;subst f1;subst f2;exact aG (fun g=>(by dsimp only[aj] at g;omega)) fun _=>ai ⟨hJ (by omega),rfl⟩
 ·rintro⟨a,x⟩ ⟨e1,e2⟩;dsimp only at e1 e2;subst e1;have e2:=e2.symm;subst e2;exact aG (fun g=>(by dsimp only[aj] at g;omega)) fun _=>ai trivial
structure WQ (w:WK) (y:Int×WK):Prop where
 p:y.2.1=w.1
 a:y.2.2.1=w.2.1
 s:y.2.2.2.1.length≤w.2.2.1.length+1
 t:y.2.2.2.2.length≤w.2.2.2.length+1
theorem WQ.same (w:WK) (e:Int):WQ w (e,w):=⟨rfl,rfl,Nat.le_succ _,Nat.le_succ _⟩
theorem F5 (s:Sx) (D:List DT) (T:List HT) (t:Int) (A:Bool×List Sx) (sp se:List (List UInt8)) (hp:PX (D,T)) (hA:A.2.length≤100) (h1:sp.length≤100000000) (h2:se.length≤100000000) (hx:∀ e∈s.index,GX 4 e) (he:GX 4 s.expr):Ok (jB (s,((D,T,t),A,sp,se))) (WQ ((D,T,t),A,sp,se)):=by
 have hex:GX 4 (bG (Xp.op s.expr,Xp.n s.expr,Xp.name s.expr,Xp.l s.expr)):=by rw[di];exact he
 have hin:∀ (a b:Int) (n:List UInt8),Ok (cW ((a,b,n),((D,T,t),A,sp,se))) fun y=>y.2=((D,T,t),A,sp,se):=fun a b n=>CH a b n _ hA
 have hth:T.length≤1000:=by have:=hp.t;dsimp only at this;omega
 have hdl:D.length≤1000:=by have:=hp.d;dsimp only at this;omega
 have sm:∀ e,WQ ((D,T,t),A,sp,se) (e,((D,T,t),A,sp,se)):=WQ.same _;unfold jB;refine al (hin _ _ _) fun y hy=>?_
 obtain⟨b1,y2⟩:=y;dsimp only at hy;subst hy;refine bf (by simp) ?_;refine al (hin _ _ _) fun y hy=>?_
 obtain⟨b2,y2⟩:=y;dsimp only at hy;subst hy;refine bf (by simp) ?_;refine al (hin _ _ _) fun y hy=>?_
 obtain⟨b3,y2⟩:=y;dsimp only at hy;subst hy;refine bf (by simp) ?_;refine aE (fun _=>?_) fun _=>?_
 ·refine aE (fun _=>?_) fun g=>?_
  ·exact al (jO _ hp _ _ _ _) fun _ _=>al (pf _ hp _ _ hex) fun _ _=>al (nk _) fun _ _=>ai (sm _)
  ·refine al (jO _ hp _ _ _ _) fun _ _=>?_
   dsimp only[aj] at g;refine aA (by omega) (by dsimp only;omega) (aL ?_);refine al (pf _ hp _ _ (hx _ (bZ (T:=.ex) (xs:=s.index) (j:=0) (by omega) (by omega)))) fun _ _=>?_
   exact al (pf _ hp _ _ hex) fun _ _=>al (nk _) fun _ _=>al (nk _) fun _ _=>ai (sm _)
 refine bn (fun x=>x.2=((D,T,t),A,s,(D,T),sp,se)) (aE (fun _=>ai (by dsimp only;rw[pU])) fun _=>ai (by dsimp only;rw[pU])) ?_;rintro⟨b,x⟩ e;dsimp only at e;subst e;refine ax (fun _=>al (pf _ hp _ _ hex) fun _ _=>ai (sm _)) fun _=>?_
 refine aE (fun _=>?_) fun _=>?_
 ·refine bn (fun x=>WQ ((D,T,t),A,sp,se) x) ?_ fun x hx=>ai hx
  refine al (jO _ hp _ _ _ _) fun _ _=>ax (fun _=>?_) fun _=>?_
  ·exact al (dt _) fun _ _=>al (nk _) fun _ _=>ai (sm _)
  ·refine al (hin _ _ _) fun y hy=>?_
   obtain⟨b4,y2⟩:=y;dsimp only at hy;subst hy;exact bf (by simp) (al (dt _) fun _ _=>al (nk _) fun _ _=>ai (sm _))
 refine bn (fun x=>x.2=((D,T,t),A,s,(D,T),sp,se)) (aE (fun _=>ai (by dsimp only;rw[pU])) fun _=>ai (by dsimp only;rw[pU])) ?_;rintro⟨b,x⟩ e;dsimp only at e;subst e;refine ax (fun _=>?_) fun _=>?_
 ·refine bn (fun x=>WQ ((D,T,t),A,sp,se) x) ?_ fun x hx=>ai hx
  refine al (jO _ hp _ _ _ _) fun _ _=>ax (fun _=>?_) fun _=>?_
  ·exact al (dt _) fun _ _=>al (nk _) fun _ _=>ai (sm _)
  ·refine al (hin _ _ _) fun y hy=>?_
   obtain⟨b4,y2⟩:=y;dsimp only at hy;subst hy;exact bf (by simp) (al (dt _) fun _ _=>al (nk _) fun _ _=>ai (sm _))
 refine aE (fun _=>al (dt _) fun _ _=>ai (sm _)) fun _=>?_
 refine aE (fun _=>?_) fun _=>?_
 ·refine bn (fun x=>WQ ((D,T,t),A,sp,se) x) ?_ fun x hx=>ai hx
  exact ax (fun _=>al (dt _) fun _ _=>ai (sm _)) fun _=>al (dt _) fun _ _=>ai (sm _)
 refine bn (fun x=>x.2=((D,T,t),A,s,(D,T),sp,se)) (aE (fun _=>ai (by dsimp only;rw[pU])) fun _=>aE (fun _=>ai (by dsimp only;rw[pU])) fun _=>ai (by dsimp only;rw[pU])) ?_;rintro⟨b,x⟩ e;dsimp only at e;subst e;refine ax (fun _=>?_) fun _=>?_
 ·refine al (jO _ hp _ _ _ _) fun r hr=>aP (fun _=>ai (sm _)) fun g=>?_
  obtain⟨v,hv,v0,v1⟩:=hr g (by omega) (by omega);refine bC hv (aA v0 v1 (aL ?_));refine al (hin _ _ _) fun y hy=>?_
  obtain⟨b4,y2⟩:=y;dsimp only at hy;subst hy;refine bf (by simp) ?_;refine bn (fun x=>WQ ((D,T,t),A,sp,se) x) ?_ fun x hx=>ai hx
  refine ax (fun _=>al (dt _) fun _ _=>ai (sm _)) fun _=>aX (fun _=>al (dt _) fun _ _=>ai (sm _)) fun _=>?_
  exact aE (fun _=>al (dt _) fun _ _=>ai (sm _)) fun _=>al (dt _) fun _ _=>ai (sm _)
 refine aE (fun _=>?_) fun _=>?_
 ·refine al (jO _ hp _ _ _ _) fun r hr=>aP (fun _=>ai (sm _)) fun g=>?_
  refine al (mH T _ hth) fun v hv=>?_
  refine bn (fun x=>x.2=((D,T,t),A,s,sp,se)) ?_ ?_
  ·refine ax (fun _=>ai (by dsimp only;rw[pU])) fun _=>ax (fun _=>ai (by dsimp only;rw[pU])) fun _=>ax (fun _=>ai (by dsimp only;rw[pU])) fun _=>aE (fun _=>ai (by dsimp only;rw[pU])) fun _=>ai (by dsimp only;rw[pU])
  rintro⟨b,x⟩ e;dsimp only at e;subst e;refine ax (fun _=>ai (sm _)) fun _=>?_
  refine al (s5 sp _ (by omega)) fun _ _=>be (fun _=>ai (sm _)) fun _=>?_
  exact aK (by simp;omega) (by omega) (ai ⟨rfl,rfl,by simp,Nat.le_succ _⟩)
 refine aE (fun _=>?_) fun _=>?_
 ·refine bn (fun x=>WQ ((D,T,t),A,sp,se) x) ?_ fun x hx=>ai hx
  refine al (jO _ hp _ _ _ _) fun r hr=>?_
  refine ax (fun _=>al (dt _) fun _ _=>al (nk _) fun _ _=>ai (sm _)) fun _=>?_
  refine ax (fun _=>al (dt _) fun _ _=>al (nk _) fun _ _=>ai (sm _)) fun _=>?_
  exact al (mH T _ hth) fun v hv=>al (dt _) fun _ _=>al (nk _) fun _ _=>ai (sm _)
 refine aE (fun _=>?_) fun _=>?_
 ·refine bn (fun x=>x.2=((D,T,t),A,s,(D,T),sp,se)) ?_ ?_
  ·refine al (jO _ hp _ _ _ _) fun r hr=>?_
   exact ax (fun _=>al (dt _) fun _ _=>al (nk _) fun _ _=>ai (by dsimp only;rw[pU])) fun _=>al (dt _) fun _ _=>al (nk _) fun _ _=>ai (by dsimp only;rw[pU])
  rintro⟨b,x⟩ e;dsimp only at e;subst e;refine bn (fun x=>x.2=((D,T,t),A,s,(D,T),sp,se)) ?_ ?_
  ·refine bn (fun x=>x.2=((D,T,t),A,s,(D,T),sp,se)) ?_ ?_
   ·exact aE (fun _=>al (s5 se _ (by omega)) fun _ _=>ai (by dsimp only;rw[pU])) fun _=>ai (by dsimp only;rw[pU])
   rintro⟨b,x⟩ e;dsimp only at e;subst e;exact ax (fun _=>ai (by dsimp only;rw[pU])) fun _=>ai (by dsimp only;rw[pU])
  rintro⟨b,x⟩ e;dsimp only at e;subst e;refine aK (by simp;omega) (by omega) ?_;exact al (pf _ hp _ _ hex) fun _ _=>al (nk _) fun _ _=>ai ⟨rfl,rfl,Nat.le_succ _,by simp⟩
 exact al (jO _ hp _ _ _ _) fun _ _=>al (jO _ hp _ _ _ _) fun _ _=>al (dt _) fun _ _=>al (nk _) fun _ _=>al (nk _) fun _ _=>ai (sm _)
def KS:Nat→Nat
 |0=>0
 |d+1=>1+16*KS d
abbrev RA4:Type:=(List Sx×WK)→Option ((Int×Int)×WK)
structure QA (l:List Sx) (d:Nat) (w:WK) (y:(Int×Int)×WK):Prop where
 p:y.2.1=w.1
 a:y.2.2.1.2.length=w.2.1.2.length
 s:y.2.2.2.1.length≤w.2.2.1.length+l.length*KS d
 t:y.2.2.2.2.length≤w.2.2.2.length+l.length*KS d
def SpA (rr:RA4) (d:Nat):Prop:=∀ (l:List Sx) (w:WK),l.length≤100→(∀ s∈l,GT d s)→PX (w.1.1,w.1.2.1)→w.2.1.2.length+d≤50→w.2.2.1.length+l.length*KS d≤100000000→w.2.2.2.length+l.length*KS d≤100000000→Ok (rr (l,w)) (QA l d w)
theorem Fd (rr:RA4) (d:Nat) (hr:∀ d',d=d'+1→SpA rr d'):SpA (ml rr) d:=by
 rintro l ⟨⟨D,T,t⟩,A,sp,se⟩ hl hg hp hA h1 h2;dsimp only at hp hA h1 h2;have hK:∀ i:Nat,i≤l.length→i*KS d≤l.length*KS d:=fun i hi=>bT _ hi
 unfold ml;refine bY l.length (fun i x=>x.1=(i:Int)∧x.2.1=(D,T,t)∧x.2.2.1.2.length=A.2.length∧x.2.2.2.1.length≤sp.length+i*KS d∧x.2.2.2.2.length≤se.length+i*KS d) ?_ ?_ ⟨rfl,rfl,rfl,by simp,by simp⟩
 ·rintro i ⟨a,P,A',sp',se'⟩ hi ⟨e1,e2,e3,e4,e5⟩;dsimp only at e1 e2 e3 e4 e5;subst e1;subst e2;have hKi:=hK (i+1) (by omega);have hKs:=eM i (KS d);rw[Nat.succ_eq_add_one] at hKs;refine aG (fun _=>?_) fun g=>(by dsimp only[aj] at g;omega)
  refine aA (by dsimp only;omega) (by dsimp only;omega) (aL ?_);have hm:=hg _ (bZ (T:=.sm) (xs:=l) (j:=(i:Int)) (by omega) (by omega));revert hm;generalize (aB (T:=.sm) l (i:Int))=s;intro hm;cases d with
  |zero=>exact hm.elim
  |succ d=>
   have hR:=hr d rfl;obtain⟨_,g2,g3,g4,g5,g6,g7⟩:=hm;have hk:KS (d+1)=1+16*KS d:=rfl;have kb:s.body.length*KS d≤8*KS d:=bT _ g4;have ke:s.els.length*KS d≤8*KS d:=bT _ g5;dsimp only;rw[pU];refine al (F5 s D T t A' sp' se' hp (by omega) (by omega) (by omega) g2 g3) fun y hy=>?_
   obtain⟨e,P2,A2,sp2,se2⟩:=y;obtain⟨q1,q2,q3,q4⟩:=hy;dsimp only at q1 q2 q3 q4;subst q1;subst q2;refine bf (by simp) ?_;refine bn (fun x=>x.2=((D,T,t),s,A2,sp2,se2)) (aG (fun _=>ai rfl) fun _=>ai rfl) ?_;rintro⟨e,x⟩ ex;dsimp only at ex;subst ex;refine aP (fun _=>ai ⟨rfl,e3,by dsimp only;omega,by dsimp only;omega⟩) fun _=>?_
   refine aK (by simp;omega) (by omega) (aA (by simp) (by simp;omega) (aA (by simp) (by simp;omega) ?_));dsimp only;rw[pU];refine al (hR s.body ((D,T,t),(A2.1,ch (A2.2++[_]) _ s),sp2,se2) (by omega) g6 hp ?_ ?_ ?_) fun y hy=>?_
   ·dsimp only;rw[cJ];simp;omega
   ·dsimp only;omega
   ·dsimp only;omega
   obtain⟨e6,P6,A6,sp6,se6⟩:=y;obtain⟨q1,q2,q5,q6⟩:=hy;dsimp only at q1 q2 q5 q6;subst q1;rw[cJ,cq,dM] at q2;refine bf (by simp) ?_;refine bn (fun x=>x.2.1=(D,T,t)∧x.2.2.1.2.length=A2.2.length+1∧x.2.2.2.1.length≤sp2.length+16*KS d∧x.2.2.2.2.length≤se2.length+16*KS d) ?_ ?_
   ·refine aE (fun _=>?_) fun _=>ai ⟨rfl,q2,by dsimp only;omega,by dsimp only;omega⟩
    refine al (hR s.els ((D,T,t),A6,sp6,se6) (by omega) g7 hp (by dsimp only;omega) (by dsimp only;omega) (by dsimp only;omega)) fun y hy=>?_
    obtain⟨e7,P7,A7,sp7,se7⟩:=y;obtain⟨r1,r2,r5,r6⟩:=hy;dsimp only at r1 r2 r5 r6;subst r1;exact bf (by simp) (ai ⟨rfl,r2.trans q2,by dsimp only;omega,by dsimp only;omega⟩)
   rintro⟨e8,P8,A8,sp8,se8⟩ ⟨r1,r2,r5,r6⟩;dsimp only at r1 r2 r5 r6;subst r1;have el:aJ .i64 ((ah A8.2.length)-1)=(A2.2.length:Int):=by
    rw[r2,io (by simp<;>omega) (by simp<;>omega)];simp<;>omega
   dsimp only;rw[el];have tk:(dD (aM (A2.2.length:Int)) A8.2).length=A2.2.length:=by rw[cj];omega
   refine aQ (aU (by omega) (a8 (by rw[r2];omega) ?_));refine aP (fun _=>ai ⟨rfl,by dsimp only;omega,by dsimp only;omega,by dsimp only;omega⟩) fun _=>ai ?_
   exact⟨hJ (by omega),rfl,by dsimp only;omega,by dsimp only;omega,by dsimp only;omega⟩
 ·rintro⟨a,P,A',sp',se'⟩ ⟨e1,e2,e3,e4,e5⟩;dsimp only at e1 e2 e3 e4 e5;subst e1;subst e2;exact aG (fun g=>(by dsimp only[aj] at g;omega)) fun _=>ai ⟨rfl,e3,e4,e5⟩
theorem fall_ok:∀ (n d:Nat),d<n→SpA (fr04_walk_all n) d
 |0,_,h=>by omega
 |n+1,d,h=>Fd (fr04_walk_all n) d fun d' hd=>fall_ok n d' (by omega)
theorem sX (p:PG) (h:PX p):Ok (fZ p) fun _=>True:=by
 have hd:=h.d;have ht:=h.t;unfold fZ;refine al (C6 p h) fun _ _=>aX (fun _=>ai trivial) fun _=>?_
 refine al (Bo p.1 hd) fun _ _=>aP (fun _=>ai trivial) fun _=>aG (fun _=>ai trivial) fun _=>?_
 refine al (xV p h) fun _ _=>aP (fun _=>ai trivial) fun _=>?_
 refine bY p.2.length (fun i x=>x.1.2=(i:Int)∧x.2=p) ?_ ?_ ⟨rfl,rfl⟩
 ·rintro i ⟨⟨c,a⟩,x⟩ hi ⟨e1,e2⟩;dsimp only at e1 e2;subst e1;have e2:=e2.symm;subst e2;refine aG (fun _=>?_) fun g=>(by dsimp only[aj] at g;omega)
  refine aA (by dsimp only;omega) (by dsimp only;omega) (aL ?_);have hm:=bZ (T:=(.st (.pr .str (.pr (.int .i64) (.pr (.sl .str) (.sl .sm)))))) (xs:=p.2) (j:=(i:Int)) (by omega) (by omega);have hb:=h.b _ hm;exact al (fCount_ok fuel 5 _ (by rw[fuel_eq];omega) (cO hb (by omega)) (h.s _ hm)) fun _ _=>ai ⟨hJ (by omega),rfl⟩
 rintro⟨⟨c,a⟩,x⟩ ⟨e1,e2⟩;dsimp only at e1 e2;subst e1;have e2:=e2.symm;subst e2;refine aG (fun g=>(by dsimp only[aj] at g;omega)) fun _=>?_
 refine al (P:=fun _=>True) ?_ fun _ _=>ai trivial
 refine aG (fun _=>ai trivial) fun _=>?_
 refine bY p.2.length (fun i x=>x.1=(i:Int)∧x.2.1=p∧x.2.2.1.1=p.1∧x.2.2.1.2.1=p.2∧x.2.2.2.1.2.length=0∧x.2.2.2.2.1.length≤i*6990500∧x.2.2.2.2.2.length≤i*6990500) ?_ ?_ ⟨rfl,rfl,rfl,rfl,rfl,by simp,by simp⟩
 ·rintro i ⟨a,x,⟨D,T,t⟩,A,sp,se⟩ hi ⟨e1,e2,e3,e4,e5,e6,e7⟩;dsimp only at e1 e2 e3 e4 e5 e6 e7;subst e1;have e2:=e2.symm;subst e2;subst e3;subst e4;refine aG (fun _=>?_) fun g=>(by dsimp only[aj] at g;omega)
  refine aA (by dsimp only;omega) (by dsimp only;omega) (aL ?_);have hm:=bZ (T:=(.st (.pr .str (.pr (.int .i64) (.pr (.sl .str) (.sl .sm)))))) (xs:=p.2) (j:=(i:Int)) (by omega) (by omega);have hb:=h.b _ hm;have hs:=h.s _ hm;revert hb hs;dsimp only;generalize (aB (T:=(.st (.pr .str (.pr (.int .i64) (.pr (.sl .str) (.sl .sm)))))) p.2 (i:Int))=th;intro hb hs;have hk:KS 5=69905:=rfl;have hle:th.2.2.2.length*KS 5≤100*KS 5:=bT _ hb;rw[hk] at hle;refine al (fall_ok fuel 5 (by rw[fuel_eq];omega) th.2.2.2 ((p.1,p.2,(i:Int)),A,sp,se) hb hs h (by dsimp only;omega) (by dsimp only;rw[hk];omega) (by dsimp only;rw[hk];omega)) fun y hy=>?_
  obtain⟨e,P2,A2,sp2,se2⟩:=y;obtain⟨q1,q2,q3,q4⟩:=hy;dsimp only at q1 q2 q3 q4;subst q1;rw[hk] at q3 q4;refine bf (by simp) (aP (fun _=>ai trivial) fun _=>ai ?_);exact⟨hJ (by omega),rfl,rfl,rfl,by dsimp only;omega,by dsimp only;omega,by dsimp only;omega⟩
 ·rintro⟨a,x,P,w⟩ ⟨e1,e2,_⟩;dsimp only at e1 e2;subst e1;have e2:=e2.symm;subst e2;exact aG (fun g=>(by dsimp only[aj] at g;omega)) fun _=>ai trivial
def D0:List DT:=[(1,0,[120],0,0,[]),(1,0,[121],0,1,[]),(2,0,[118],0,0,[]),(1,0,[113],2,0,[]),(3,0,[109],0,0,[]),(3,0,[110],0,0,[]),(4,0,[114],0,0,[]),(5,0,[99],0,0,[109]),(6,0,[102],0,0,[])]
def L0:List (List UInt8):=[[97],[98]]
structure TM (t:HT):Prop where
 l:t.2.2.1=L0
 b:t.2.2.2.length≤8
 s:∀ s∈t.2.2.2,GS 3 s
structure PJ (p:PG):Prop where
 d:p.1=D0
 t:p.2.length≤4
 m:∀ t∈p.2,TM t
theorem PJ.x {p:PG} (h:PJ p):PX p:=⟨by rw[h.d];decide,by have:=h.t;omega,fun t ht=>by rw[(h.m t ht).l];decide,fun t ht=>by have:=(h.m t ht).b;omega,fun t ht s hs=>((h.m t ht).s s hs).le (by omega:3≤5) |>.t⟩
theorem decls_eq:mC ()=some D0:=rfl
theorem ze (op:Int) (n:List UInt8) (ho:4≤op∧op≠14):GS 3 (cz (op,0,n,[],[],bG (0,0,[],[]),[],[])):=GS.wo ho (by simp) fun x hx=>(by cases hx)
theorem uF (x:List Int) (hl:x.length≤9223372036854775807) (hx:∀ z∈x,0≤z∧z≤255):Ok (jG x) PJ:=by
 unfold jG;refine bC decls_eq ?_;refine al (dK 3 (x,0) ⟨hl,hx,by dsimp only;omega,by dsimp only;omega⟩) fun y hy=>?_
 obtain⟨n,t0⟩:=y;obtain⟨s0,n0,n1,_⟩:=hy;have n1:=n1 (by decide);dsimp only at s0 n0 n1;have ew:aJ .i64 (2+n)=2+n:=io (by omega) (by omega);refine bY (2+n).toNat (fun i x=>x.1=(i:Int)∧x.2.2.1=D0∧x.2.2.2.1.length=4∧TP x.2.2.2.2.1∧x.2.2.2.2.2.1.2=[]∧x.2.2.2.2.2.2.length=i∧∀ t∈x.2.2.2.2.2.2,TM t) ?_ ?_ ⟨rfl,rfl,rfl,s0.p,rfl,rfl,fun t ht=>(by cases ht)⟩
 ·rintro i ⟨a,m,D,N,t,h,th⟩ hi ⟨e1,e2,e3,e4,e5,e6,e7⟩;dsimp only at e1 e2 e3 e4 e5 e6 e7;subst e1;subst e2;refine aG (fun g=>?_) fun g=>(by dsimp only at g;rw[ew] at g;omega)
  refine aA (by dsimp only;omega) (by dsimp only;omega) (aA (by dsimp only;omega) (by dsimp only;omega) (aL ?_));refine bn (fun x=>x.2.1=D0∧x.2.2.1.length=4∧TP x.2.2.2.2.1∧x.2.2.2.2.2.1.2=[]∧x.2.2.2.2.2.2.1=th∧x.2.2.2.2.2.2.2.1=L0∧x.2.2.2.2.2.2.2.2.length≤3∧∀ s∈x.2.2.2.2.2.2.2.2,GS 3 s) ?_ ?_
  ·refine aE (fun _=>?_) fun _=>ai ⟨rfl,e3,e4,e5,rfl,rfl,by simp,fun s hs=>(by cases hs)⟩
   refine bY (1+n).toNat (fun k x=>x.1=1+(k:Int)∧x.2.2.1=D0∧x.2.2.2.1.length=4∧TP x.2.2.2.2.2.1∧x.2.2.2.2.2.2.1.2=[]∧x.2.2.2.2.2.2.2.1=th∧x.2.2.2.2.2.2.2.2.1=L0∧x.2.2.2.2.2.2.2.2.2.length≤k∧∀ s∈x.2.2.2.2.2.2.2.2.2,GS 3 s) ?_ ?_ ⟨rfl,rfl,e3,e4,e5,rfl,rfl,by simp,fun s hs=>(by cases hs)⟩
   ·rintro k ⟨c,m1,D1,N1,z1,t1,h1,th1,l1,b1⟩ hk ⟨f1,f2,f3,f4,f5,f6,f7,f8,f9⟩;dsimp only at f1 f2 f3 f4 f5 f6 f7 f8 f9;subst f1;refine aG (fun _=>?_) fun g=>(by dsimp only at g;rw[ew] at g;omega)
    refine aA (by dsimp only;omega) (by dsimp only;omega) (aA (by dsimp only;omega) (by dsimp only;omega) (aL ?_));refine aK (by simp;omega) (by omega) (ai ?_);dsimp only;rw[io (n:=1+(k:Int)+1) (by omega) (by omega)];refine ⟨by omega,f2,f3,f4,f5,f6,f7,by simp;omega,fun s hs=>?_⟩;rcases bD.1 hs with hs|hs
    ·exact f9 s hs
    ·rw[aH] at hs;rw[hs];exact ze 12 _ (by omega)
   ·rintro⟨c,m1,D1,N1,z1,t1,h1,th1,l1,b1⟩ ⟨f1,f2,f3,f4,f5,f6,f7,f8,f9⟩;dsimp only at f1 f2 f3 f4 f5 f6 f7 f8 f9;subst f1;refine aG (fun g=>(by dsimp only at g;rw[ew] at g;omega)) fun _=>ai ?_
    exact⟨f2,f3,f4,f5,f6,f7,by dsimp only;omega,f9⟩
  rintro⟨m1,D1,N1,z1,t1,h1,th1,l1,b1⟩ ⟨f2,f3,f4,f5,f6,f7,f8,f9⟩;dsimp only at f2 f3 f4 f5 f6 f7 f8 f9;subst f2;subst f6;subst f7;refine al (dK 3 t1 f4) fun y hy=>?_
  obtain⟨k2,t2⟩:=y;obtain⟨u1,u2,u3,_⟩:=hy;have u3:=u3 (by decide);dsimp only at u1 u2 u3;dsimp only;rw[io (n:=1+k2) (by omega) (by omega)];refine al (CD 2 (by omega) (1+k2) m1 t2 h1 (by omega) u1.p (by rw[f5];simp)) fun y hy=>?_
  obtain⟨m3,t3,h3,l3⟩:=y;obtain⟨w1,w2,w3,w4⟩:=hy;dsimp only at w1 w2 w3 w4;refine bf (by simp) (aK (by simp;omega) (by omega) ?_);have hbody:∀ s∈b1++l3,GS 3 s:=fun s hs=>by
   rcases bD.1 hs with hs|hs
   ·exact f9 s hs
   ·exact w2 s hs
  have hlen:(b1++l3).length≤6:=by rw[cq];omega
  refine bn (fun x=>x.2.1=D0∧x.2.2.1.length=4∧TP x.2.2.2.2.1∧x.2.2.2.2.2.1.2=[]∧x.2.2.2.2.2.2.1=th1∧x.2.2.2.2.2.2.2.1=L0∧x.2.2.2.2.2.2.2.2.length≤8∧∀ s∈x.2.2.2.2.2.2.2.2,GS 3 s) ?_ ?_
  ·refine bn (fun x=>x.2.2.1=D0∧x.2.2.2.1.length=4∧TP x.2.2.2.2.2.1∧x.2.2.2.2.2.2.1.2=[]∧x.2.2.2.2.2.2.2.1=th1∧x.2.2.2.2.2.2.2.2.1=L0∧x.2.2.2.2.2.2.2.2.2=b1++l3) ?_ ?_
   ·refine aE (fun _=>?_) fun _=>ai ⟨rfl,f3,w3.p,w4.trans f5,rfl,rfl,rfl⟩
    exact al (dK 3 t3 w3.p) fun y hy=>ai ⟨rfl,f3,hy.1.p,w4.trans f5,rfl,rfl,rfl⟩
   rintro⟨b,m4,D4,N4,z4,t4,h4,th4,l4,b4⟩ ⟨p2,p3,p4,p5,p6,p7,p8⟩;dsimp only at p2 p3 p4 p5 p6 p7 p8;subst p2;subst p6;subst p7;subst p8;refine ax (fun _=>?_) fun _=>ai ⟨rfl,p3,p4,p5,rfl,rfl,by dsimp only;omega,hbody⟩
   refine aA (by omega) (by dsimp only;omega) (aA (by omega) (by dsimp only;omega) (aL ?_));refine aK (by simp at hlen ⊢;omega) (by omega) (ai ⟨rfl,p3,p4,p5,rfl,rfl,by dsimp only;rw[cq,dM];omega,fun s hs=>?_⟩);rcases bD.1 hs with hs|hs
   ·exact hbody s hs
   ·rw[aH] at hs;rw[hs];exact ze 13 _ (by omega)
  rintro⟨m4,D4,N4,z4,t4,h4,th4,l4,b4⟩ ⟨p2,p3,p4,p5,p6,p7,p8,p9⟩;dsimp only at p2 p3 p4 p5 p6 p7 p8 p9;subst p2;subst p6;subst p7;refine aK (by simp;omega) (by omega) (ai ?_);dsimp only;refine ⟨hJ (by omega),rfl,p3,p4,p5,by simp;omega,fun t ht=>?_⟩;rcases bD.1 ht with ht|ht
  ·exact e7 t ht
  ·rw[aH] at ht;rw[ht];exact⟨rfl,p8,p9⟩
 ·rintro⟨a,m,D,N,t,h,th⟩ ⟨e1,e2,e3,e4,e5,e6,e7⟩;dsimp only at e1 e2 e3 e4 e5 e6 e7;subst e1;subst e2;refine aG (fun g=>(by dsimp only at g;rw[ew] at g;omega)) fun _=>?_
  have hpm:PJ (D0,th):=⟨rfl,by dsimp only;omega,e7⟩
  refine al (P:=PJ) ?_ fun r hr=>ai hr
  refine al (sX (D0,th) hpm.x) fun y _=>aP (fun _=>?_) fun _=>ai hpm
  refine bC decls_eq (bC (yi _) (bC (ng _ _) (ai ?_)));refine ⟨rfl,by simp,fun t ht=>?_⟩;simp only[aH] at ht;rw[ht];refine ⟨rfl,by simp,fun s hs=>?_⟩;simp only[aH] at hs;rw[hs,di,pZ];exact GS.asg _ (GE.num _ 3)
abbrev GN:Type:=List (List UInt8×Int×Int×Bool×Int)×List (List UInt8×Bool)×List (List UInt8×Int)×List (List UInt8)×List (List UInt8)×List (Int×Int×Int)×List (List UInt8)×Int×Int
theorem qH (l:List (List UInt8×Bool)) (s:List UInt8) (hl:l.length≤1000):Ok (gL (l,s)) fun _=>True:=by
 unfold gL;refine bY l.length (fun i x=>x=(i:Int)) ?_ ?_ rfl
 ·rintro i x hi rfl;refine aG (fun _=>?_) fun g=>(by dsimp only[aj] at g;omega)
  refine aA (by omega) (by dsimp only;omega) (aL ?_);exact aE (fun _=>ai trivial) fun _=>ai (hJ (by omega))
 ·rintro x rfl;exact aG (fun g=>(by dsimp only[aj] at g;omega)) fun _=>ai trivial
theorem qQ (w:WT) (s:List UInt8) (hl:w.1.length≤1000):Ok (gM (w,s)) fun r=>(∃ c∈w.1,c.1=s)→0≤r∧r<(w.1.length:Int):=by
 unfold gM;refine bY w.1.length (fun i x=>x.1=(i:Int)∧x.2=w∧∀ k:Nat,k<i→(aB (T:=.st (.pr .str (.pr (.int .i64) (.pr (.int .i64) (.pr .bool (.int .i64)))))) w.1 (k:Int)).1≠s) ?_ ?_ ⟨rfl,rfl,fun k hk=>by omega⟩
 ·rintro i ⟨a,x⟩ hi ⟨e1,e2,e3⟩;dsimp only at e1 e2 e3;subst e1;have e2:=e2.symm;subst e2;refine aG (fun _=>?_) fun g=>(by dsimp only[aj] at g;omega)
  refine aA (by dsimp only;omega) (by dsimp only;omega) (aL ?_);refine aE (fun _=>ai fun _=>⟨by dsimp only;omega,by dsimp only;omega⟩) fun g=>ai ?_
  refine ⟨hJ (by omega),rfl,fun k hk=>?_⟩;rcases cA k i with h1|h1
  ·exact e3 k h1
  ·rw[show k=i by omega];exact g
 ·rintro⟨a,x⟩ ⟨e1,e2,e3⟩;dsimp only at e1 e2 e3;subst e1;have e2:=e2.symm;subst e2;refine aG (fun g=>(by dsimp only[aj] at g;omega)) fun _=>ai fun ⟨c,hc,h⟩=>?_
  exact (kg (T:=.st (.pr .str (.pr (.int .i64) (.pr (.int .i64) (.pr .bool (.int .i64)))))) (p:=fun c=>c.1≠s) e3 c hc h).elim
theorem oy (i:IT) (g:GN) (out:List IT) (h:out.length≤100000000):Ok (bX (i,g,out)) fun y=>y.1=g∧y.2.length=out.length+1:=by
 unfold bX;exact aK (by simp;omega) (by omega) (ai ⟨rfl,by simp⟩)
def VE:Nat→Nat
 |0=>0
 |d+1=>1+2*VE d
structure GK (g:GN):Prop where
 c:g.1.length≤1000
 q:∃ c∈g.1,c.1=[113]
 l:g.2.2.2.2.2.2.1.length≤1000
theorem fvalue_ok:∀ (n d:Nat),d<n→∀ (e:Xp) (k:Int) (g:GN) (out:List IT),GE d e→GK g→out.length+VE d≤100000000→Ok (fr06_gen_value n ((e,k),g,out)) fun y=>y.1=g∧out.length≤y.2.length∧y.2.length≤out.length+VE d
 |0,_,h,_,_,_,_,_,_,_=>by omega
 |n+1,0,_,e,_,_,_,h,_,_=>h.elim
 |n+1,d+1,hn,e,k,g,out,h,hg,hb=>by
  obtain⟨h1,h2,h3,h4⟩:=h;obtain⟨gc,gq,gl⟩:=id hg;have hv:VE (d+1)=1+2*VE d:=rfl;rw[qW];unfold kS;refine bn (fun y=>y.1=g∧out.length≤y.2.length∧y.2.length≤out.length+VE (d+1)) ?_ fun x hx=>ai hx
  refine aE (fun _=>?_) fun n1=>?_
  ·refine al (oy _ g out (by omega)) fun y hy=>bf (by simp) (ai ⟨hy.1,by omega,by omega⟩)
  refine aE (fun _=>?_) fun n2=>?_
  ·refine al (s5 _ _ (by dsimp only;omega)) fun v _=>be (fun _=>?_) fun _=>?_
   ·refine al (oy _ g out (by omega)) fun y hy=>bf (by simp) (ai ⟨hy.1,by omega,by omega⟩)
   ·refine al (qQ _ _ gc) fun v _=>?_
    refine al (oy _ g out (by omega)) fun y hy=>bf (by simp) (ai ⟨hy.1,by omega,by omega⟩)
  have hl:=h2 n1 n2;have hrec:∀ (j:Nat),j<e.l.length→∀ (k':Int) (o:List IT),o.length+VE d≤100000000→Ok (fr06_gen_value n ((aB (T:=.ex) e.l (j:Int),k'),g,o)) fun y=>y.1=g∧o.length≤y.2.length∧y.2.length≤o.length+VE d:=fun j hj k' o ho=>fvalue_ok n d (by omega) _ k' g o (h4 _ (bZ (T:=.ex) (xs:=e.l) (j:=(j:Int)) (by omega) (by omega))) hg ho
  refine aE (fun n3=>?_) fun n3=>?_
  ·refine aA (by omega) (by dsimp only;omega) (aL ?_);refine al (hrec 0 hl k out (by omega)) fun y hy=>?_
   obtain⟨g2,o2⟩:=y;obtain⟨q1,q2,q3⟩:=hy;dsimp only at q1 q2 q3;subst q1;refine bf (by simp) ?_;refine al (qQ _ _ gc) fun v hv2=>?_
   obtain⟨v0,v1⟩:=hv2 (by dsimp only;rw[h1 n3];exact gq);refine aA v0 v1 (aL ?_);refine al (oy _ g2 o2 (by omega)) fun y hy=>bf (by simp) (ai ⟨hy.1,by omega,by omega⟩)
  refine aE (fun n4=>?_) fun n4=>?_
  ·refine aA (by omega) (by dsimp only;omega) (aL ?_);refine al (hrec 0 hl k out (by omega)) fun y hy=>?_
   obtain⟨g2,o2⟩:=y;obtain⟨q1,q2,q3⟩:=hy;dsimp only at q1 q2 q3;subst q1;refine bf (by simp) ?_;refine al (oy _ g2 o2 (by omega)) fun y hy=>bf (by simp) (ai ⟨hy.1,by omega,by omega⟩)
  ·dsimp only[aj] at n4;have hl2:1<e.l.length:=by omega
   refine aA (by omega) (by dsimp only;omega) (aL ?_);refine al (hrec 0 hl k out (by omega)) fun y hy=>?_
   obtain⟨g2,o2⟩:=y;obtain⟨q1,q2,q3⟩:=hy;dsimp only at q1 q2 q3;subst q1;refine bf (by simp) ?_;refine aA (by omega) (by dsimp only;omega) (aL ?_);refine al (hrec 1 hl2 _ o2 (by omega)) fun y hy=>?_
   obtain⟨g3,o3⟩:=y;obtain⟨r1,r2,r3⟩:=hy;dsimp only at r1 r2 r3;subst r1;refine bf (by simp) ?_;refine al (oy _ g3 o3 (by omega)) fun y hy=>bf (by simp) (ai ⟨hy.1,by omega,by omega⟩)
theorem AL (e:Xp) (k:Int) (g:GN) (out:List IT) (he:GE 4 e) (hg:GK g) (h:out.length≤99999900):Ok (eG ((e,k),g,out)) fun y=>y.1=g∧out.length≤y.2.length∧y.2.length≤out.length+15:=fvalue_ok fuel 4 (by rw[fuel_eq];omega) e k g out he hg (by have:VE 4=15:=rfl;omega)
structure GB (g:GN):Prop where
 k:GK g
 l:g.2.1.length≤1000
 d:g.2.2.1.length≤1000
 f:g.2.2.2.1.length≤1000
 t:g.2.2.2.2.1.length≤1000
structure GQ (g y:GN):Prop where
 a:y.1=g.1
 b:y.2.1=g.2.1
 c:y.2.2.1=g.2.2.1
 d:y.2.2.2.1=g.2.2.2.1
 e:y.2.2.2.2.1=g.2.2.2.2.1
 f:y.2.2.2.2.2.1=g.2.2.2.2.2.1
 h:y.2.2.2.2.2.2.1=g.2.2.2.2.2.2.1
theorem GQ.refl (g:GN):GQ g g:=⟨rfl,rfl,rfl,rfl,rfl,rfl,rfl⟩
theorem GQ.trans {a b c:GN} (h:GQ a b) (k:GQ b c):GQ a c:=⟨k.a.trans h.a,k.b.trans h.b,k.c.trans h.c,k.d.trans h.d,k.e.trans h.e,k.f.trans h.f,k.h.trans h.h⟩
theorem GB.of {g y:GN} (h:GB g) (q:GQ g y):GB y:=
 ⟨⟨by rw[q.a];exact h.k.c,by rw[q.a];exact h.k.q,by rw[q.h];exact h.k.l⟩,by rw[q.b];exact h.l,by rw[q.c];exact h.d,by rw[q.d];exact h.f,by rw[q.e];exact h.t⟩
theorem GQ.site (g:GN) (a b:Int):GQ g (g.1,g.2.1,g.2.2.1,g.2.2.2.1,g.2.2.2.2.1,g.2.2.2.2.2.1,g.2.2.2.2.2.2.1,a,b):=⟨rfl,rfl,rfl,rfl,rfl,rfl,rfl⟩
structure QG (n:Nat) (g:GN) (out:List IT) (y:GN×List IT):Prop where
 q:GQ g y.1
 l:out.length≤y.2.length
 u:y.2.length≤out.length+n
theorem n9 (i:IT) (g:GN) (out:List IT) (h:out.length≤100000000):Ok (bX (i,g,out)) (QG 1 g out):=(oy i g out h).mono fun y hy=>⟨by rw[hy.1];exact GQ.refl g,by omega,by omega⟩
theorem rT (e:Xp) (k:Int) (g:GN) (out:List IT) (he:GE 4 e) (hg:GB g) (h:out.length≤99999000):Ok (eG ((e,k),g,out)) (QG 15 g out):=(AL e k g out he hg.k (by omega)).mono fun y hy=>⟨by rw[hy.1];exact GQ.refl g,hy.2.1,hy.2.2⟩
theorem Bw (s:Sx) (g:GN) (out:List IT) (h1:s.index≠[]→s.name=[113]) (h2:∀ e∈s.index,GE 4 e) (h3:GE 4 s.expr) (hg:GB g) (h:out.length≤99990000):Ok (hX (s,g,out)) (QG 40 g out):=by
 have hex:GE 4 (bG (Xp.op s.expr,Xp.n s.expr,Xp.name s.expr,Xp.l s.expr)):=by rw[di];exact h3
 unfold hX;refine aG (fun g0=>?_) fun _=>?_
 ·dsimp only[aj] at g0;refine aA (by omega) (by dsimp only;omega) (aL ?_);refine al (rT _ _ g out (h2 _ (bZ (T:=.ex) (xs:=s.index) (j:=0) (by omega) (by omega))) hg (by omega)) fun y hy=>?_
  obtain⟨g2,o2⟩:=y;obtain⟨q1,q2,q3⟩:=hy;dsimp only at q1 q2 q3;refine bf (by simp) ?_;refine al (rT _ _ g2 o2 hex (hg.of q1) (by omega)) fun y hy=>?_
  obtain⟨g3,o3⟩:=y;obtain⟨r1,r2,r3⟩:=hy;dsimp only at r1 r2 r3;refine bf (by simp) ?_;have hg3:=hg.of (q1.trans r1);refine al (qQ _ _ hg3.k.c) fun v hv=>?_
  obtain⟨v0,v1⟩:=hv (by
   have:s.name=[113]:=h1 (fun h=>by rw[h] at g0;simp at g0);dsimp only;rw[this];exact hg3.k.q)
  refine aA v0 v1 (aL ?_);refine al (n9 _ g3 o3 (by omega)) fun y hy=>bf (by simp) (ai ⟨q1.trans (r1.trans hy.q),by have:=hy.l;omega,by have:=hy.u;omega⟩)
 ·refine al (rT _ _ g out hex hg (by omega)) fun y hy=>?_
  obtain⟨g2,o2⟩:=y;obtain⟨q1,q2,q3⟩:=hy;dsimp only at q1 q2 q3;have hg2:=hg.of q1;refine bf (by simp) ?_;refine al (s5 _ _ (cO hg2.k.l (by omega))) fun v _=>be (fun _=>?_) fun _=>?_
  ·refine al (n9 _ g2 o2 (by omega)) fun y hy=>bf (by simp) (ai ⟨q1.trans hy.q,by have:=hy.l;omega,by have:=hy.u;omega⟩)
  ·refine al (qQ _ _ hg2.k.c) fun v _=>?_
   refine al (n9 _ g2 o2 (by omega)) fun y hy=>bf (by simp) (ai ⟨q1.trans hy.q,by have:=hy.l;omega,by have:=hy.u;omega⟩)
theorem Em (s:List UInt8) (g:GN) (out:List IT) (hg:GB g):Ok (fh (s,g,out)) fun y=>y.2=(g,out):=by
 have hd:=hg.d;unfold fh;refine bY g.2.2.1.length (fun i x=>x.1=(i:Int)∧x.2=(g,out)) ?_ ?_ ⟨rfl,rfl⟩
 ·rintro i ⟨a,x⟩ hi ⟨e1,e2⟩;dsimp only at e1 e2;subst e1;subst e2;refine aG (fun _=>?_) fun g=>(by dsimp only[aj] at g;omega)
  refine aA (by dsimp only;omega) (by dsimp only;omega) (aL ?_);exact aE (fun _=>ai rfl) fun _=>ai ⟨hJ (by omega),rfl⟩
 ·rintro⟨a,x⟩ ⟨e1,e2⟩;dsimp only at e1 e2;subst e1;subst e2;exact aG (fun g=>(by dsimp only[aj] at g;omega)) fun _=>ai rfl
def ME:Nat→Nat
 |0=>0
 |d+1=>50+16*ME d
def SpG (rt:Sx×GN×List IT→Option (GN×List IT)) (d:Nat):Prop:=∀ (s:Sx) (g:GN) (out:List IT),GS d s→GB g→out.length+ME d≤90000000→Ok (rt (s,g,out)) (QG (ME d) g out)
def EB (rs:List Sx×GN×List IT→Option (GN×List IT)) (d:Nat):Prop:=∀ (l:List Sx) (g:GN) (out:List IT),l.length≤100→(∀ s∈l,GS d s)→GB g→out.length+l.length*ME d≤90000000→Ok (rs (l,g,out)) (QG (l.length*ME d) g out)
abbrev FS6:Type:=List Sx×GN×List IT→Option (GN×List IT)
abbrev FT6:Type:=Sx×GN×List IT→Option (GN×List IT)
abbrev FA6:Type:=(Sx×Int×Int×Int)×GN×List IT→Option (GN×List IT)
def Gz (rb:FT6) (d:Nat):Prop:=∀ (s:Sx) (g:GN) (out:List IT),GE 4 s.expr→s.body.length≤8→s.els.length≤8→(∀ x∈s.body,GS d x)→(∀ x∈s.els,GS d x)→GB g→out.length+ME (d+1)≤90000000→Ok (rb (s,g,out)) (QG (17+16*ME d) g out)
def GA (ra:FA6) (d:Nat):Prop:=∀ (s:Sx) (a b c:Int) (g:GN) (out:List IT),s.body.length≤8→(∀ x∈s.body,GS d x)→GB g→out.length+ME (d+1)≤90000000→Ok (ra ((s,a,b,c),g,out)) (QG (17+16*ME d) g out)
theorem QG.trans {a b c:Nat} {g g2:GN} {o o2:List IT} {y:GN×List IT} (h:GQ g g2) (h1:o.length≤o2.length) (h2:o2.length≤o.length+a) (k:QG b g2 o2 y) (hc:a+b≤c):QG c g o y:=⟨h.trans k.q,by have:=k.l;omega,by have:=k.u;omega⟩
theorem QG.le {a b:Nat} {g:GN} {o:List IT} {y:GN×List IT} (k:QG a g o y) (h:a≤b):QG b g o y:=⟨k.q,k.l,by have:=k.u;omega⟩
theorem Bk (rs:FS6) (rt:FT6) (rb:FT6) (ra:FA6) (d:Nat) (ht:SpG rt d):EB (kT rs rt rb ra) d:=by
 intro l g out hl hs hg hb;unfold kT;refine bY l.length (fun i x=>x.1=(i:Int)∧QG (i*ME d) g out x.2) ?_ ?_ ⟨rfl,GQ.refl g,by simp,by simp⟩
 ·rintro i ⟨a,g2,o2⟩ hi ⟨e1,q1,q2,q3⟩;dsimp only at e1 q1 q2 q3;subst e1;have hK:(i+1)*ME d≤l.length*ME d:=bT _ (by omega);have hKs:=eM i (ME d);rw[Nat.succ_eq_add_one] at hKs;refine aG (fun _=>?_) fun g=>(by dsimp only[aj] at g;omega)
  refine aA (by dsimp only;omega) (by dsimp only;omega) (aL ?_);refine al (ht _ g2 o2 (hs _ (bZ (T:=.sm) (xs:=l) (j:=(i:Int)) (by omega) (by omega))) (hg.of q1) (by omega)) fun y hy=>bf (by simp) (ai ?_)
  exact⟨hJ (by omega),QG.trans q1 q2 q3 hy (by omega)⟩
 ·rintro⟨a,g2,o2⟩ ⟨e1,q⟩;dsimp only at e1;subst e1;exact aG (fun g=>(by dsimp only[aj] at g;omega)) fun _=>ai q
theorem zI (rs:FS6) (rt:FT6) (rb:FT6) (ra:FA6) (d:Nat) (hS:EB rs d):GA (jQ rs rt rb ra) d:=by
 intro s a b c g out h1 h2 hg hb;have hm:ME (d+1)=50+16*ME d:=rfl;have kb:s.body.length*ME d≤8*ME d:=bT _ h1;unfold jQ;refine al (n9 _ g out (by omega)) fun y hy=>?_
 obtain⟨g2,o2⟩:=y;obtain⟨q1,q2,q3⟩:=hy;dsimp only at q1 q2 q3;refine bf (by simp) ?_;refine al (hS s.body g2 o2 (by omega) h2 (hg.of q1) (by omega)) fun y hy=>?_
 obtain⟨g3,o3⟩:=y;obtain⟨r1,r2,r3⟩:=hy;dsimp only at r1 r2 r3;refine bf (by simp) ?_;refine al (n9 _ _ o3 (by omega)) fun y hy=>bf (by simp) (ai ?_)
 exact QG.trans (a:=1+8*ME d) (q1.trans (r1.trans (GQ.site g3 _ _))) (by omega) (by omega) hy (by omega)
theorem xf (rs:FS6) (rt:FT6) (rb:FT6) (ra:FA6) (d:Nat) (hS:EB rs d):Gz (ik rs rt rb ra) d:=by
 intro s g out he h1 h2 h3 h4 hg hb;have hm:ME (d+1)=50+16*ME d:=rfl;have kb:s.body.length*ME d≤8*ME d:=bT _ h1;have ke:s.els.length*ME d≤8*ME d:=bT _ h2;have hex:GE 4 (bG (Xp.op s.expr,Xp.n s.expr,Xp.name s.expr,Xp.l s.expr)):=by rw[di];exact he
 unfold ik;refine al (rT _ _ g out hex hg (by omega)) fun y hy=>?_
 obtain⟨g1,o1⟩:=y;obtain⟨p1,p2,p3⟩:=hy;dsimp only at p1 p2 p3;refine bf (by simp) ?_;refine al (oy _ g1 o1 (by omega)) fun y hy=>?_
 obtain⟨g2,o2⟩:=y;obtain⟨q1,q2⟩:=hy;dsimp only at q1 q2;subst q1;refine bf (by simp) ?_;refine al (hS s.body g2 o2 (by omega) h3 (hg.of p1) (by omega)) fun y hy=>?_
 obtain⟨g3,o3⟩:=y;obtain⟨r1,r2,r3⟩:=hy;dsimp only at r1 r2 r3;refine bf (by simp) ?_;have qs:=p1.trans (r1.trans (GQ.site g3 g.2.2.2.2.2.2.2.1 g3.2.2.2.2.2.2.2.2));refine aE (fun _=>?_) fun _=>?_
 ·refine al (oy _ _ o3 (by omega)) fun y hy=>?_
  obtain⟨g4,o4⟩:=y;obtain⟨w1,w2⟩:=hy;dsimp only at w1 w2;refine bf (by simp) (aA (bA _) (by dsimp only[aj];omega) (aA (bA _) (by dsimp only[aj];omega) (ai ⟨?_,?_,?_⟩)))
  ·dsimp only;rw[w1];exact qs
  ·dsimp only;rw[cJ];omega
  ·dsimp only;rw[cJ];omega
 refine aE (fun _=>?_) fun _=>?_
 ·refine aA (bA _) (by dsimp only[aj];omega) (aA (bA _) (by dsimp only[aj];omega) (ai ⟨qs,?_,?_⟩))
  ·dsimp only;rw[cJ];omega
  ·dsimp only;rw[cJ];omega
 ·refine al (oy _ _ o3 (by omega)) fun y hy=>?_
  obtain⟨g4,o4⟩:=y;obtain⟨w1,w2⟩:=hy;dsimp only at w1 w2;have qs4:GQ g g4:=by rw[w1];exact qs
  refine bf (by simp) (aA (bA _) (by dsimp only[aj];omega) (aA (bA _) (by dsimp only[aj];omega) ?_));refine al (hS s.els g4 (ch o4 _ _) (by omega) h4 (hg.of qs4) (by rw[cJ];omega)) fun y hy=>?_
  obtain⟨g5,o5⟩:=y;obtain⟨z1,z2,z3⟩:=hy;dsimp only at z1 z2 z3;rw[cJ] at z2 z3;refine bf (by simp) (aA (bA _) (by dsimp only[aj];omega) (aA (bA _) (by dsimp only[aj];omega) (ai ⟨qs4.trans z1,?_,?_⟩)))
  ·dsimp only;rw[cJ];omega
  ·dsimp only;rw[cJ];omega
theorem CJ (rs:FS6) (rt:FT6) (rb:FT6) (ra:FA6) (d:Nat) (hB:Gz rb d) (hA:GA ra d):SpG (mj rs rt rb ra) (d+1):=by
 intro s g out hs hg hb;have hm:ME (d+1)=50+16*ME d:=rfl;obtain⟨i1,i2,i3,i4,i5,i6,i7,i8,i9⟩:=hs;have gs:=GQ.site g g.2.2.2.2.2.2.2.2 (aJ .i64 (g.2.2.2.2.2.2.2.2+1));unfold mj;refine bn (fun x=>QG (ME (d+1)) g out x) ?_ fun x hx=>ai hx
 dsimp only;revert gs;generalize ((g.1,g.2.1,g.2.2.1,g.2.2.2.1,g.2.2.2.2.1,g.2.2.2.2.2.1,g.2.2.2.2.2.2.1,g.2.2.2.2.2.2.2.2,aJ .i64 (g.2.2.2.2.2.2.2.2+1)):GN)=g1;intro gs;have hg1:=hg.of gs;have fin:∀ (n:Nat) (y:GN×List IT),QG n g1 out y→n≤ME (d+1)→QG (ME (d+1)) g out y:=fun n y hy hn=>QG.trans (a:=0) gs (cD _) (by omega) hy (by omega)
 refine aE (fun ho=>?_) fun _=>?_
 ·refine al (Bw (cz _) g1 out ?_ ?_ ?_ hg1 (by omega)) fun y hy=>bf (by simp) (ai (fin _ _ hy (by omega)))
  ·rw[pU];exact i1
  ·rw[pU];exact i3
  ·rw[pU];exact i4 (.inl ho)
 refine bn (fun x=>x.2=(g1,s,out)∧(x.1=true→s.op=2∨s.op=3)) ?_ ?_
 ·exact aE (fun h=>ai ⟨by dsimp only;rw[pU],fun _=>.inl h⟩) fun _=>ai ⟨by dsimp only;rw[pU],fun h=>.inr (of_decide_eq_true h)⟩
 rintro⟨b,x⟩ ⟨e,hb2⟩;dsimp only at e hb2;subst e;refine ax (fun hb3=>?_) fun _=>?_
 ·dsimp only;rw[pU];refine al (hB s g1 out (i4 (by rcases hb2 hb3 with h|h;exact .inr (.inl h);exact .inr (.inr (.inl h)))) i6 i7 i8 i9 hg1 hb) fun y hy=>bf (by simp) (ai (fin _ _ hy (by omega)))
 have har:∀ (a b c:Int),Ok (ra ((s,a,b,c),g1,out)) (QG (17+16*ME d) g1 out):=fun a b c=>hA s a b c g1 out i6 i8 hg1 hb
 have hput:∀ (i:IT),Ok (bX (i,g1,out)) (QG 1 g1 out):=fun i=>n9 i g1 out (by omega)
 have hat:∀ (l:List (List UInt8)) (n:List UInt8),l.length≤1000→Ok (fH (l,n)) fun _=>True:=fun l n h=>(s5 l n (by omega)).mono fun _ _=>trivial
 dsimp only;rw[pU];refine aE (fun _=>al (qH _ _ hg1.l) fun _ _=>al (har _ _ _) fun y hy=>bf (by simp) (ai (fin _ _ hy (by omega)))) fun _=>?_
 refine aE (fun _=>al (qH _ _ hg1.l) fun _ _=>al (har _ _ _) fun y hy=>bf (by simp) (ai (fin _ _ hy (by omega)))) fun _=>?_
 refine aE (fun _=>al (qH _ _ hg1.l) fun _ _=>al (har _ _ _) fun y hy=>bf (by simp) (ai (fin _ _ hy (by omega)))) fun _=>?_
 refine aE (fun _=>al (har _ _ _) fun y hy=>bf (by simp) (ai (fin _ _ hy (by omega)))) fun _=>?_
 refine aE (fun _=>al (har _ _ _) fun y hy=>bf (by simp) (ai (fin _ _ hy (by omega)))) fun _=>?_
 have hcond:∀ (n:List UInt8),Ok (fh (n,g1,out)) fun y=>y.2=(g1,out):=fun n=>Em n g1 out hg1
 refine aE (fun _=>al (hcond _) fun y hy=>?_) fun _=>?_
 ·obtain⟨v,y2⟩:=y;dsimp only at hy;subst hy;exact bf (by simp) (al (hput _) fun y hy=>bf (by simp) (ai (fin _ _ hy (by omega))))
 refine aE (fun _=>al (hcond _) fun y hy=>?_) fun _=>?_
 ·obtain⟨v,y2⟩:=y;dsimp only at hy;subst hy;exact bf (by simp) (al (hput _) fun y hy=>bf (by simp) (ai (fin _ _ hy (by omega))))
 refine aE (fun _=>al (hcond _) fun y hy=>?_) fun _=>?_
 ·obtain⟨v,y2⟩:=y;dsimp only at hy;subst hy;exact bf (by simp) (al (hput _) fun y hy=>bf (by simp) (ai (fin _ _ hy (by omega))))
 refine aE (fun _=>al (hat _ _ hg1.t) fun _ _=>al (hput _) fun y hy=>bf (by simp) (ai (fin _ _ hy (by omega)))) fun _=>?_
 refine aE (fun _=>al (hat _ _ hg1.t) fun _ _=>al (hput _) fun y hy=>bf (by simp) (ai (fin _ _ hy (by omega)))) fun _=>?_
 refine aE (fun ho=>?_) fun _=>?_
 ·have hex:GE 4 (bG (Xp.op s.expr,Xp.n s.expr,Xp.name s.expr,Xp.l s.expr)):=by rw[di];exact i4 (.inr (.inr (.inr ho)))
  refine al (rT _ _ g1 out hex hg1 (by omega)) fun y hy=>?_
  obtain⟨g2,o2⟩:=y;obtain⟨q1,q2,q3⟩:=hy;dsimp only at q1 q2 q3;refine bf (by simp) (al (hat _ _ (hg1.of q1).f) fun _ _=>?_);exact al (n9 _ g2 o2 (by omega)) fun y hy=>bf (by simp) (ai (fin 16 _ (QG.trans q1 q2 q3 hy (by omega)) (by omega)))
 refine aE (fun ho=>?_) fun _=>ai (fin 0 _ ⟨GQ.refl _,cD _,by dsimp only;omega⟩ (by omega))
 exact al (hat _ _ hg1.k.l) fun _ _=>al (hat _ _ hg1.f) fun _ _=>al (hput _) fun y hy=>bf (by simp) (ai (fin _ _ hy (by omega)))
theorem fgen_ok:∀ (n:Nat),(∀ d:Nat,3*d<n→SpG (fr06_gen_stmt n) d)∧(∀ d:Nat,3*d+1<n→EB (fr06_gen_stmts n) d)∧(∀ d:Nat,3*d+2<n→Gz (fr06_gen_branches n) d)∧(∀ d:Nat,3*d+2<n→GA (fr06_gen_around n) d)
 |0=>⟨fun d h=>by omega,fun d h=>by omega,fun d h=>by omega,fun d h=>by omega⟩
 |n+1=>by
  obtain⟨hT,hS,hB,hA⟩:=fgen_ok n;refine ⟨fun d h=>?_,fun d h=>?_,fun d h=>?_,fun d h=>?_⟩
  ·cases d with
   |zero=>exact fun s g out hs=>hs.elim
   |succ d=>exact CJ (fr06_gen_stmts n) (fr06_gen_stmt n) (fr06_gen_branches n) (fr06_gen_around n) d (hB d (by omega)) (hA d (by omega))
  ·exact Bk (fr06_gen_stmts n) (fr06_gen_stmt n) (fr06_gen_branches n) (fr06_gen_around n) d (hT d (by omega))
  ·exact xf (fr06_gen_stmts n) (fr06_gen_stmt n) (fr06_gen_branches n) (fr06_gen_around n) d (hS d (by omega))
  ·exact zI (fr06_gen_stmts n) (fr06_gen_stmt n) (fr06_gen_branches n) (fr06_gen_around n) d (hS d (by omega))
theorem yz (d:Nat) (hd:d≤100):EB nC d:=(fgen_ok fuel).2.1 d (by rw[fuel_eq];omega)
theorem fsites_ok:∀ (n d:Nat),d<n→∀ (t k:Int) (l:List Sx) (out:List (Int×Int×Int)),l.length≤100→(∀ s∈l,GT d s)→out.length+l.length*KS d≤100000000→Ok (fr06_sites n ((t,k,l),out)) fun y=>y.2.length≤out.length+l.length*KS d
 |0,_,h,_,_,_,_,_,_,_=>by omega
 |n+1,d,hn,t,k,l,out,hl,hs,hb=>by
  rw[uL];unfold pD;refine bY l.length (fun i x=>x.1.2=(i:Int)∧x.2.length≤out.length+i*KS d) ?_ ?_ ⟨rfl,by simp⟩
  ·rintro i ⟨⟨a,b⟩,o⟩ hi ⟨e1,e2⟩;dsimp only at e1 e2;subst e1;have hKi:(i+1)*KS d≤l.length*KS d:=bT _ (by omega);have hKs:=eM i (KS d);rw[Nat.succ_eq_add_one] at hKs;refine aG (fun _=>?_) fun g=>(by dsimp only[aj] at g;omega)
   have hin:((i:Nat):Int)<(l.length:Int):=by omega
   have hm:=hs _ (bZ (T:=.sm) (xs:=l) (j:=(i:Int)) (by omega) (by omega));cases d with
   |zero=>exact hm.elim
   |succ d=>
    obtain⟨_,_,_,g4,g5,g6,g7⟩:=hm;have hk:KS (d+1)=1+16*KS d:=rfl;have kb:=bT (KS d) g4;have ke:=bT (KS d) g5;dsimp only;refine aA (by omega) hin (aL (aK (by simp;omega) (by omega) (aA (by omega) hin (aL ?_))));refine al (fsites_ok n d (by omega) _ _ _ _ (by omega) g6 (by simp;omega)) fun y hy=>bf (by simp) ?_
    obtain⟨a2,o2⟩:=y;simp only[cq,dM] at hy;refine aA (by omega) hin (aL ?_);refine al (fsites_ok n d (by omega) _ _ _ o2 (by omega) g7 (by omega)) fun y hy2=>bf (by simp) (ai ?_)
    exact⟨hJ (by omega),by dsimp only at hy2 ⊢;omega⟩
  ·rintro⟨⟨a,b⟩,o⟩ ⟨e1,e2⟩;dsimp only at e1 e2;subst e1;exact aG (fun g=>(by dsimp only[aj] at g;omega)) fun _=>ai e2
abbrev CE6:Type:=List UInt8×Int×Int×Bool×Int
structure J6 (i:Nat) (y:List CE6×List (List UInt8×Bool)×List (List UInt8×Int)×List (List UInt8)):Prop where
 c:y.1.length≤2*i
 q:3<i→∃ c∈y.1,c.1=[113]
 l:y.2.1.length≤i
 d:y.2.2.1.length≤i
 f:y.2.2.2.length≤i
structure WW (w:WT):Prop where
 c:w.1.length≤18
 q:∃ c∈w.1,c.1=[113]
 l:w.2.1.length≤9
 d:w.2.2.1.length≤9
 f:w.2.2.2.1.length≤9
 t:w.2.2.2.2.1.length≤4
theorem BA (p:PG) (hp:PJ p) (r:Int×Int) (hr:fZ p=some r) (h0:r.1=0):Ok (nD p) WW:=by
 have hpt:=hp.t;unfold nD;refine bC hr (aP (fun h=>(h h0).elim) fun _=>?_);have hD:p.1=D0:=hp.d;have hlen:p.1.length=9:=by rw[hD];rfl
 have hz:∀ z∈p.1,z.2.2.2.1≤(2:Int):=by rw[hD];decide
 have h3:aB (T:=(.st (.pr (.int .i64) (.pr (.int .i64) (.pr .str (.pr (.int .i64) (.pr (.int .i64) .str))))))) p.1 ((3:Nat):Int)=(1,0,[113],2,0,[]):=by rw[hD];rfl
 refine bY 9 (fun i x=>x.1=(i:Int)∧x.2.1=p∧J6 i x.2.2) ?_ ?_ ⟨rfl,rfl,by simp,fun h=>by omega,by simp,by simp,by simp⟩
 ·rintro i ⟨a,p',cs,ls,ds,fs⟩ hi ⟨e1,e2,j1,j2,j3,j4,j5⟩;dsimp only at e1 e2 j1 j2 j3 j4 j5;subst e1;have e2:=e2.symm;subst e2;refine aG (fun _=>?_) fun g=>(by dsimp only[aj] at g;omega)
  refine aA (by dsimp only;omega) (by dsimp only;omega) (aL ?_);have hm:=hz _ (bZ (T:=(.st (.pr (.int .i64) (.pr (.int .i64) (.pr .str (.pr (.int .i64) (.pr (.int .i64) .str))))))) (xs:=p.1) (j:=(i:Int)) (by omega) (by omega));have h3i:i=3→(aB (T:=(.st (.pr (.int .i64) (.pr (.int .i64) (.pr .str (.pr (.int .i64) (.pr (.int .i64) .str))))))) p.1 (i:Int))=(1,0,[113],2,0,[]):=fun h=>by rw[h];exact h3
  revert hm h3i;generalize (aB (T:=(.st (.pr (.int .i64) (.pr (.int .i64) (.pr .str (.pr (.int .i64) (.pr (.int .i64) .str))))))) p.1 (i:Int))=z;intro hm h3i;have hq:∀ cs':List CE6,(∀ c∈cs,c∈cs')→i≠3→3<i+1→∃ c∈cs',c.1=[113]:=fun cs' h1 h2 h3=>by
   obtain⟨c,hc,e⟩:=j2 (by omega);exact⟨c,h1 c hc,e⟩
  refine bn (fun x=>x.1=p∧J6 (i+1) x.2) ?_ ?_
  ·refine bn (fun x=>x.2=(p,z,cs,ls,ds,fs)∧(x.1=false→i≠3)) ?_ ?_
   ·refine aE (fun h=>ai ⟨rfl,fun h2=>?_⟩) fun h=>ai ⟨rfl,fun _ h2=>h (by rw[h3i h2])⟩
    rw[decide_eq_true h] at h2;cases h2
   rintro⟨b,x⟩ ⟨e,hb⟩;dsimp only at e hb;subst e;refine ax (fun _=>?_) fun hb2=>?_
   ·refine kz (fun x=>(2-x.1).toNat) (fun x=>0≤x.1∧x.1≤2∧x.2.1=p∧x.2.2.1=z∧(x.2.2.2.1.length:Int)≤2*i+x.1∧(∀ c∈cs,c∈x.2.2.2.1)∧(1≤x.1→∃ c∈x.2.2.2.1,c.1=z.2.2.1)∧x.2.2.2.2=(ls,ds,fs)) ?_ ⟨by dsimp only;omega,by dsimp only;omega,rfl,rfl,by dsimp only;omega,fun c hc=>hc,fun h=>by dsimp only at h;omega,rfl⟩;rintro⟨(k:Int),p2,z2,cs2,x⟩ ⟨k0,k1,f1,f2,f3,f4,f5,f6⟩;dsimp only at k0 k1 f1 f2 f3 f4 f5 f6;have f1:=f1.symm;subst f1;have f2:=f2.symm;subst f2;subst f6;refine aG (fun g=>?_) fun g=>?_
    ·refine aK (by simp;omega) (by omega) (ai ?_);have hg:k<eI (z.2.2.2.1) 1:=g;have hx:eI (z.2.2.2.1) 1≤2:=by unfold eI;split<;>omega
     dsimp only;rw[io (n:=k+1) (by omega) (by omega)];refine ⟨⟨by omega,by omega,rfl,rfl,by simp;omega,fun c hc=>fb _ (f4 c hc),fun _=>⟨_,gh _ (aH.2 rfl),rfl⟩,rfl⟩,by omega⟩
    ·have hg:eI (z.2.2.2.1) 1≤k:=g;have hx:1≤eI (z.2.2.2.1) 1:=by
      unfold eI;split
      ·omega
      ·rename_i h;simp[bz] at h;omega
     refine ai ⟨rfl,⟨by dsimp only;omega,fun h=>?_,by dsimp only;omega,by dsimp only;omega,by dsimp only;omega⟩⟩;by_cases hi3:i=3
     ·obtain⟨c,hc,e⟩:=f5 (by omega);exact⟨c,hc,by rw[e,h3i hi3]⟩
     ·exact hq _ f4 hi3 h
   have ni:=hb hb2;refine bn (fun x=>x.2=(p,z,cs,ls,ds,fs)) (aE (fun _=>ai rfl) fun _=>ai rfl) ?_;rintro⟨b,x⟩ e;dsimp only at e;subst e;have hqq:=hq cs (fun c h=>h) ni;refine ax (fun _=>?_) fun _=>aE (fun _=>?_) fun _=>?_
   ·exact aK (by simp;omega) (by omega) (ai ⟨rfl,⟨by dsimp only;omega,hqq,by simp;omega,by dsimp only;omega,by dsimp only;omega⟩⟩)
   ·refine al (qH _ _ (by dsimp only;omega)) fun _ _=>?_
    exact aK (by simp;omega) (by omega) (ai ⟨rfl,⟨by dsimp only;omega,hqq,by dsimp only;omega,by simp;omega,by dsimp only;omega⟩⟩)
   ·exact aK (by simp;omega) (by omega) (ai ⟨rfl,⟨by dsimp only;omega,hqq,by dsimp only;omega,by dsimp only;omega,by simp;omega⟩⟩)
  rintro⟨p2,y⟩ ⟨f1,f2⟩;dsimp only at f1 f2;have f1:=f1.symm;subst f1;exact ai ⟨hJ (by omega),rfl,f2⟩
 ·rintro⟨a,p',y⟩ ⟨e1,e2,j⟩;dsimp only at e1 e2 j;subst e1;have e2:=e2.symm;subst e2;refine aG (fun g=>(by dsimp only[aj] at g;omega)) fun _=>?_
  obtain⟨cs,ls,ds,fs⟩:=y;obtain⟨j1,j2,j3,j4,j5⟩:=j;dsimp only at j1 j2 j3 j4 j5;refine al (P:=WW) ?_ fun r hr=>ai hr
  refine bY p.2.length (fun i x=>x.1=(i:Int)∧x.2.1=p∧x.2.2.1=cs∧x.2.2.2.1=ls∧x.2.2.2.2.1=ds∧x.2.2.2.2.2.1=fs∧x.2.2.2.2.2.2.1.length=i∧x.2.2.2.2.2.2.2.length≤i*2184) ?_ ?_ ⟨rfl,rfl,rfl,rfl,rfl,rfl,rfl,by simp⟩
  ·rintro i ⟨a,p2,c2,l2,d2,f2,t2,s2⟩ hi ⟨e1,e2,e3,e4,e5,e6,e7,e8⟩;dsimp only at e1 e2 e3 e4 e5 e6 e7 e8;subst e1;have e2:=e2.symm;subst e2;refine aG (fun _=>?_) fun g=>(by dsimp only[aj] at g;omega)
   have hin:((i:Nat):Int)<(p.2.length:Int):=by omega
   have hm:=hp.m _ (bZ (T:=(.st (.pr .str (.pr (.int .i64) (.pr (.sl .str) (.sl .sm)))))) (xs:=p.2) (j:=(i:Int)) (by omega) hin);have hk:KS 3=273:=rfl;have hb:=hm.b;have hle:=bT (KS 3) hb;rw[hk] at hle;dsimp only;refine aA (by omega) hin (aL (aK (by simp;omega) (by omega) (aA (by omega) hin (aL ?_))));refine al (fsites_ok fuel 3 (by rw[fuel_eq];omega) _ _ _ s2 (by omega) (fun s hs=>(hm.s s hs).t) (by rw[hk];omega)) fun y hy=>bf (by simp) (ai ?_)
   rw[hk] at hy;exact⟨hJ (by omega),rfl,e3,e4,e5,e6,by simp;omega,by dsimp only;omega⟩
  ·rintro⟨a,p2,c2,l2,d2,f2,t2,s2⟩ ⟨e1,e2,e3,e4,e5,e6,e7,e8⟩;dsimp only at e1 e2 e3 e4 e5 e6 e7 e8;subst e1;have e2:=e2.symm;subst e2;subst e3;subst e4;subst e5;subst e6;refine aG (fun g=>(by dsimp only[aj] at g;omega)) fun _=>ai ?_
   exact⟨j1,j2 (by omega),j3,j4,j5,by dsimp only;omega⟩
theorem yM (p:PG) (hp:PJ p):Ok (kL p) fun y=>CB y.1:=by
 have hpt:=hp.t;unfold kL;obtain⟨r,hr,_⟩:=sX p hp.x;refine bC hr (aP (fun _=>ai ⟨by simp,fun t ht=>(by cases ht)⟩) fun h0=>?_);refine al (BA p hp r hr h0) fun w hw=>?_
 refine bY p.2.length (fun i x=>x.1.2=(i:Int)∧x.2.1=p∧x.2.2.1=w∧x.2.2.2.length=i∧∀ t∈x.2.2.2,t.2.length≤1000000) ?_ ?_ ⟨rfl,rfl,rfl,rfl,fun t ht=>(by cases ht)⟩
 ·rintro i ⟨⟨a,b⟩,p2,w2,cs⟩ hi ⟨e1,e2,e3,e4,e5⟩;dsimp only at e1 e2 e3 e4 e5;subst e1;have e2:=e2.symm;subst e2;have e3:=e3.symm;subst e3;have hin:((i:Nat):Int)<(p.2.length:Int):=by omega
  refine aG (fun _=>?_) fun g=>(by dsimp only[aj] at g;omega)
  have hm:=hp.m _ (bZ (T:=(.st (.pr .str (.pr (.int .i64) (.pr (.sl .str) (.sl .sm)))))) (xs:=p.2) (j:=(i:Int)) (by omega) hin);dsimp only;refine aA (by omega) hin (aL (aA (by omega) hin (aL ?_)));revert hm;generalize (aB (T:=(.st (.pr .str (.pr (.int .i64) (.pr (.sl .str) (.sl .sm)))))) p.2 (i:Int))=t;intro hm;have hk:ME 3=50+16*(50+16*50):=rfl;have hle:=bT (ME 3) hm.b;rw[hk] at hle;have hll:t.2.2.1.length=2:=by rw[hm.l];rfl
  refine al (yz 3 (by omega) _ _ [] (by have:=hm.b;omega) hm.s ⟨⟨by have:=hw.c;dsimp only;omega,hw.q,by dsimp only;omega⟩,by have:=hw.l;dsimp only;omega,by have:=hw.d;dsimp only;omega,by have:=hw.f;dsimp only;omega,by have:=hw.t;dsimp only;omega⟩ (by rw[hk,gY];omega)) fun y hy=>bf (by simp) ?_
  obtain⟨g2,o2⟩:=y;obtain⟨q1,q2,q3⟩:=hy;rw[hk] at q3;dsimp only at q1 q2 q3;rw[gY] at q3;refine al (n9 _ _ o2 (by omega)) fun y hy=>bf (by simp) ?_
  obtain⟨g3,o3⟩:=y;have o3l:=hy.u;dsimp only at o3l;refine bY o3.length (fun k x=>x.1=(k:Int)∧x.2.1=p∧x.2.2.1=w∧x.2.2.2.2.2.1=cs∧x.2.2.2.2.2.2=o3) ?_ ?_ ⟨rfl,rfl,rfl,rfl,rfl⟩
  ·rintro k ⟨a,p2,w2,g4,rg,c2,o4⟩ hk2 ⟨f1,f2,f3,f4,f5⟩;dsimp only at f1 f2 f3 f4 f5;subst f1;have f2:=f2.symm;subst f2;have f3:=f3.symm;subst f3;have f4:=f4.symm;subst f4;have f5:=f5.symm;subst f5;refine aG (fun _=>?_) fun g=>(by dsimp only[aj] at g;omega)
   dsimp only;refine aA (by omega) (by omega) (aA (by omega) (by omega) (aL (bC (pQ _) ?_)));generalize (aB (T:=(.st (.pr (.int .i64) (.pr (.int .i64) (.pr (.int .i64) (.pr (.int .i64) (.pr (.int .i64) (.int .i64)))))))) o3 (k:Int))=ins;have hrl:=vy ins;refine bY (mQ ins).length (fun j x=>x.1=(j:Int)∧x.2.1=p∧x.2.2.1=w∧x.2.2.2.2.2.1=cs∧x.2.2.2.2.2.2=o3) ?_ ?_ ⟨rfl,rfl,rfl,rfl,rfl⟩
   ·rintro j ⟨a,p2,w2,g4,rg,c2,o4⟩ hj ⟨f1,f2,f3,f4,f5⟩;dsimp only at f1 f2 f3 f4 f5;subst f1;refine aG (fun _=>?_) fun g=>(by dsimp only[aj] at g;omega)
    exact aA (by dsimp only;omega) (by dsimp only;omega) (aL (ai ⟨hJ (by omega),f2,f3,f4,f5⟩))
   ·rintro⟨a,p2,w2,g4,rg,c2,o4⟩ ⟨f1,f2,f3,f4,f5⟩;dsimp only at f1 f2 f3 f4 f5;subst f1;exact aG (fun g=>(by dsimp only[aj] at g;omega)) fun _=>ai ⟨hJ (by omega),f2,f3,f4,f5⟩
  ·rintro⟨a,p2,w2,g4,rg,c2,o4⟩ ⟨f1,f2,f3,f4,f5⟩;dsimp only at f1 f2 f3 f4 f5;subst f1;have f2:=f2.symm;subst f2;have f3:=f3.symm;subst f3;have f4:=f4.symm;subst f4;have f5:=f5.symm;subst f5;refine aG (fun g=>(by dsimp only[aj] at g;omega)) fun _=>?_
   refine al (P:=fun r=>match r with|.inl y=>y.1.2=((i+1:Nat):Int)∧y.2.1=p∧y.2.2.1=w∧y.2.2.2.length=i+1∧∀ t∈y.2.2.2,t.2.length≤1000000|.inr y=>CB y.1) ?_ ?_
   ·refine aK (by simp;omega) (by omega) (ai ⟨hJ (by omega),rfl,rfl,by simp;omega,fun t ht=>?_⟩);rcases bD.1 ht with ht|ht
    ·exact e5 t ht
    ·rw[aH] at ht;rw[ht];dsimp only;omega
   ·rintro (y|y) hy
    ·exact ai hy
    ·exact ai hy
 ·rintro⟨⟨a,b⟩,p2,w2,cs⟩ ⟨e1,e2,e3,e4,e5⟩;dsimp only at e1 e2 e3 e4 e5;subst e1;exact aG (fun g=>(by dsimp only[aj] at g;rw[e2] at g;omega)) fun _=>ai ⟨by dsimp only;omega,e5⟩
theorem xc (a b:List Int) (ha:a.length≤9223372036854775807) (hx:∀ z∈a,0≤z∧z≤255) (hb:b.length≤1000000):Ok (mD (a,b)) TR:=by
 unfold mD;refine al (P:=CB) ?_ fun c hc=>al (BJ b hb) fun l hl=>?_
 ·unfold py;exact al (uF a ha hx) fun p hp=>al (yM p hp) fun y hy=>ai hy
 ·exact al (GC c l hc (by omega)) fun y hy=>ai hy
theorem yL (a b c:List Int) (n:Int) (n0:0≤n) (n1:n≤1000000) (ha:a.length≤9223372036854775807) (hx:∀ z∈a,0≤z∧z≤255) (hc:c.length≤9223372036854775807) (hy:∀ z∈c,0≤z∧z≤255):Ok (gD ((a,b,c),n)) TR:=by
 unfold gD;refine aG (fun _=>al (vu c n hc hy) fun y h=>ai h) fun _=>?_
 have h0:0≤uJ (ah b.length) n∧uJ (ah b.length) n≤(b.length:Int)∧uJ (ah b.length) n≤n:=by
  unfold uJ;split
  ·rename_i h;rw[og] at h;dsimp only[aj] at h;exact⟨n0,by omega,fM _⟩
  ·rename_i h;have h:=o8.1 (Bool.eq_false_iff.2 h);dsimp only[aj] at h ⊢;exact⟨by omega,fM _,h⟩
 refine aQ (aU h0.1 (aU h0.2.1 ?_));have h1:(dD (aM (uJ (ah b.length) n)) b).length≤1000000:=by rw[cj];have:=h0.1;have:=h0.2.2;omega
 exact al (xc a _ ha hx h1) fun y h=>ai h
def HS.zero (w:WTp):HS:=⟨aF w.2.2.2.2.1.length [],aF w.2.2.2.2.1.length [],aF w.2.1.length [],aF w.2.1.length [],aF w.1.length [],aF w.2.2.2.1.length [],[],aF w.2.2.2.2.1.length [],aF w.2.2.2.2.1.length (-1)⟩
theorem HS.zero_ok {w:WTp} (h1:w.1.length≤1000) (h2:w.2.1.length≤1000) (h3:w.2.2.2.1.length≤1000) (h4:w.2.2.2.2.1.length≤1000):yS 0 (HS.zero w):=by
 have z:(0:Int)≤0:=by omega
 exact⟨z,by omega,q8.repl z _,q8.repl z _,q8.repl z _,q8.repl z _,q8.repl z _,q8.repl z _,En.nil z,q8.repl z _,by simpa[HS.zero] using h4,by simp[HS.zero],by simp[HS.zero],by simp[HS.zero],by simpa[HS.zero] using h2,by simp[HS.zero],by simpa[HS.zero] using h1,by simpa[HS.zero] using h3⟩
structure FY (w:WTp) (h:HS):Prop where
 T:h.T.length=w.2.2.2.2.1.length
 L:h.L.length=w.2.1.length
 C:h.C.length=w.1.length
 F:h.F.length=w.2.2.2.1.length
theorem FY.zero (w:WTp):FY w (HS.zero w):=⟨by simp[HS.zero],by simp[HS.zero],by simp[HS.zero],by simp[HS.zero]⟩
theorem FY.step {w:WTp} {h:HS} (f:FY w h) (e:EV):FY w (rV w h e).1:=by
 obtain⟨a,b,c,d,g,i,j,k⟩:=uw w h e (rH w h e);exact⟨a.trans f.T,c.trans f.L,g.trans f.C,i.trans f.F⟩
def FJ (e:ET):EV:=⟨e.1.toNat,e.2.1.toNat,e.2.2.1.toNat,e.2.2.2.1⟩
theorem Hd {w:WT} {e:ET} (f:EL w e):Fx (FJ e) e:=by
 obtain⟨⟨k1,k2,ce,lk,cd,th,fu⟩,t0,_,_⟩:=f;refine ⟨(uA t0).symm,(uA (by omega)).symm,fun h=>(uA ?_).symm,rfl⟩;unfold FJ at h;simp only[bo,cf,or_false] at h;by_cases h1:e.2.1=3∨e.2.1=4
 ·exact (ce h1).1
 by_cases h2:6≤e.2.1∧e.2.1≤11
 ·exact (lk h2).1
 by_cases h3:16≤e.2.1∧e.2.1≤19
 ·exact (cd h3).1
 by_cases h4:e.2.1=20∨e.2.1=21
 ·exact (th h4).1
 by_cases h5:e.2.1=22∨e.2.1=23
 ·exact (fu h5).1
 omega
theorem Gg {w:WT} {e:ET} (f:EL w e) (wb:WB w) {h:HS} (ft:FY w h):Fy w h (FJ e):=by
 obtain⟨⟨k1,k2,ce,lk,cd,th,fu⟩,t0,t1,cm⟩:=f;have b5:=wb.t;have f1:=ft.T;have f2:=ft.L;have f3:=ft.C;have f4:=ft.F;unfold FJ;refine ⟨by dsimp only;omega,by dsimp only;omega,by dsimp only;omega,by dsimp only;omega,fun q=>?_,fun q=>?_,fun q=>?_,fun q=>?_,fun q=>?_⟩<;>dsimp only at q ⊢
 ·have:=th (by omega);omega
 ·have:=lk (by omega);omega
 ·have g:=cd (by omega);have hl:e.2.2.1.toNat<w.2.2.1.length:=by omega
  have hm:=cm (w.2.2.1.getD e.2.2.1.toNat ([],0)) (by rw[aN,aw hl];exact nY hl);refine ⟨hl,hm.1,?_⟩;unfold uE;have:=hm.2;have:=hm.1;omega
 ·have:=ce (by omega);omega
 ·have:=fu (by omega);omega
theorem xi (a b c:List Int) (ha:a.length≤9223372036854775807) (hx:∀ z∈a,0≤z∧z≤255) (hc:c.length≤9223372036854775807) (hy:∀ z∈c,0≤z∧z≤255) (haw:kO ()=some true):Ok (iH (a,b,c)) fun y=>y=true:=by
 unfold iH;refine al (P:=TR) (yL a b c 40 (by omega) (by omega) ha hx hc hy) ?_;rintro⟨w,l⟩ tr;have wb:=tr.wb;dsimp only at wb;have s0:=EA w (by have:=wb.c;unfold big;omega) (by have:=wb.l;unfold big;omega) (by have:=wb.f;unfold big;omega) (by have:=wb.t;unfold big;omega);rw[r22Start];refine bC s0 (bC s0 ?_);have hlen:=tr.len;dsimp only at hlen;refine bY l.length (fun i x=>∃ h:HS,x=((i:Int),(w,l),h.t,h.t)∧yS (i:Int) h∧FY w h) ?_ ?_ ⟨HS.zero w,rfl,HS.zero_ok (by have:=wb.c;omega) (by have:=wb.l;omega) (by have:=wb.f;omega) (by have:=wb.t;omega),FY.zero w⟩
 ·rintro i x hi ⟨h,rfl,o,ft⟩;dsimp only;refine b7 (gf (gu.2 hi)) (bf (bi hi) (aL ?_));have hm:aB (T:=.st (.pr (.int .i64) (.pr (.int .i64) (.pr (.int .i64) (.pr (.int .i64) (.pr (.int .i64) (.pr (.sl (.int .i64)) (.sl (.int .i64))))))))) l (i:Int)∈l:=bZ (by omega) (gu.2 hi);generalize aB (T:=.st (.pr (.int .i64) (.pr (.int .i64) (.pr (.int .i64) (.pr (.int .i64) (.pr (.int .i64) (.pr (.sl (.int .i64)) (.sl (.int .i64))))))))) l (i:Int)=e at hm ⊢;have ef:=tr.ev e hm;dsimp only at ef;have ok:=Gg ef wb ft;have et:=Hd ef;have hn:(i:Int)+1≤1000000:=by omega
  have s1:=Fq o hn ok et;have s2:=DI o hn ok et;have o':=DB (w:=w) o hn ok.th4;have ft':=ft.step (FJ e);have sm:=uf _ (wB (w:=w) o ok.th4).lb;have sh:=uz _ o.GH;have sh':=uz _ o'.GH;refine bC s1 (bC s2 ?_);unfold rV at s1 s2 o' ft' sh' ⊢;dsimp only at o' ft' sh' ⊢;generalize pK w h (FJ e) (rH w h (FJ e))=h' at o' ft' sh' ⊢;have hck:=(wB (w:=w) o ok.th4).lb;unfold big at hck;generalize rH w h (FJ e)=ck at sm hck ⊢;refine ba (bC sm (dq rfl (bC sh' (dq rfl (bC sh (ai ?_))))));refine dq rfl ?_;dsimp only;refine bY ck.length (fun j y=>∃ c',y=((j:Int),(w,l),h.t,h.t,h'.t,c',h'.t)∧c'.length=ck.length) ?_ ?_ ⟨ck,rfl,rfl⟩
  ·rintro j y hj ⟨c',rfl,hc'⟩;dsimp only;refine b7 (gf (gu.2 hj)) (bf (bi (by omega)) (bf (bi (by omega)) (ai ⟨c'.set j (-9),?_,by simpa using hc'⟩)));rw[hJ (by omega),cw]
  ·rintro y ⟨c',rfl,hc'⟩;dsimp only;refine dq (jI (fM _)) (al (P:=fun r=>r=aO (((i+1:Nat):Int),(w,l),h'.t,h'.t)) (ba (bC sh' (dq rfl (bC sh (ai (dq rfl (ai ?_))))))) ?_)
   ·rw[hJ (by omega)]
   ·rintro _ rfl;exact ai ⟨h',rfl,o',ft'⟩
 ·rintro x ⟨h,rfl,o,ft⟩;dsimp only;refine dq (jI (fM _)) (bC (x:=true) (by rw[haw,bd]) (ai rfl))
theorem awake_true:kO ()=some true:=by kernel_rfl
theorem dl {φ:PM} {O:Nat→Prop} {w:World} {v u:Value} (h:cg φ O w (.f (.raw v)) u):u=v:=by
 cases h with
 |f h=>cases h;rfl
theorem nh (h:HF) (nw:HF):c5 h [] nw=h:=by funext t;simp[c5]
theorem cells1_spec:∀ {l:List Value},cells1 l=true→∀ v∈l,v.oneCell'=true
 |[],_,v,hv=>by cases hv
 |x::r,h,v,hv=>by
  simp only[cells1,ak] at h;rcases bo.1 hv with rfl|hv
  ·exact h.1
  ·exact cells1_spec h.2 v hv
theorem Bq {φ:PM} {O:Nat→Prop} {w:World} (v:Value):cg φ O w (constA v) v:=by
 unfold constA;split
 ·rename_i vs;split
  ·rename_i h1;refine cg.agg (vs:=vs.toList) (by simp) (fun x hx=>?_) (fun j x v hx hv=>?_)
   ·obtain⟨u,hu,rfl⟩:=cQ.1 hx;exact cells1_spec h1 u hu
   ·rw[aY,hv] at hx;simp only[bN,ae] at hx;subst hx;exact .f (.raw _)
  ·exact .f (.raw _)
 ·exact .f (.raw _)
theorem mY {φ:PM} {E:Nat→Prop} {h':HF} {w:World} {e:Env} {a:Act} {xs:Array Operand} (hrep:lm φ E h' w) (h:∀ t,.tmp t∈xs→∀ y,e.get t=some y→cg φ (tot E φ h') w y (a.tmps.getD t undef)) {x:Operand} {y:AV} (hx:x∈xs) (hy:iK e x=some y):cg φ (tot E φ h') w y (a.eval x):=by
 cases x with
 |tmp t=>exact h t hx y hy
 |const v=>simp only[iK,ae] at hy;subst hy;exact Bq v
 |func g=>
  simp only[iK,ae] at hy;subst hy;exact cg.clo (vs:=[]) (g:=g) (cells:=[]) rfl (by intro j x v hx;simp at hx)
 |global g=>
  simp only[iK] at hy;cases hg:G g with
  |none=>rw[hg] at hy;cases hy
  |some cells=>rw[hg] at hy;simp only[ae] at hy;subst hy;exact .f (hrep.gl g cells hg)
abbrev BF (φ:PM) (E:Nat→Prop) (h':HF) (w:World) (a:Act) (e:Env) (o:Oper):Prop:=∀ x y,x∈o.op.operands→iK e x=some y→cg φ (tot E φ h') w y (a.eval x)
theorem dX.reads {P:Program} {o:Oper} {e:Env} {h:HF} {val:AV} {rd:List Nat} {nw:HF}
 (hv:∀ (φ:PM) (E:Nat→Prop) (h':HF) (w:World) (a:Act),(∀ i∈rd,h' i=h i)→BF φ E h' w a e o→lm φ E h' w→
   ∃ v,(execOp a.eval o).run P w= .ok (.value v) w∧cg φ (tot E φ h') w val v):dX P o e.get h ⟨val,rd,[],nw,[]⟩:=by
 intro φ E h' w a h1 h2 h3 h4 h5;obtain⟨v,r,rel⟩:=hv φ E h' w a h1 (fun x y hx hy=>mY h4 h3 hx hy) h4;unfold uS;rw[r];refine ⟨v,φ,rfl,?_,fun _ _ h=>.inl h,?_,?_⟩<;>rw[nh]
 ·exact eT.refl _ _ _
 ·exact h4
 ·exact rel
theorem cH {x:AV} {R:rI} (h:rv x=some R):R=⟨x,[],[],[],[]⟩:=by simp only[rv,ae] at h;exact h.symm
section pure
variable {P:Program} {o:Oper} {e:Env} {h:Heap} {nx:Nat} {R:rI}
theorem Hm {x:Operand} (ho:o.op= .move x∨o.op= .assign x) (ha:da (.mv x) e h nx=some R):dX P o e.get h.get R.eff:=by
 simp only[da] at ha;split at ha
 ·rename_i v hv;rw[cH ha];exact dX.reads fun φ E h' w a _ hop _=>⟨a.eval x,by unfold execOp;rcases ho with ho|ho<;>rw[ho]<;>rfl,hop x v (by rcases ho with ho|ho<;>rw[ho]<;>simp[Op.operands]) hv⟩
 ·cases ha
theorem Gp {c x y:Operand} (ho:o.op= .pick c x y) (ha:da (.pick c x y) e h nx=some R):dX P o e.get h.get R.eff:=by
 simp only[da] at ha;split at ha
 ·rename_i t hc;split at ha
  ·rename_i v hv;rw[cH ha];refine dX.reads fun φ E h' w a _ hop _=>?_
   have hcv:=dl (hop c _ (by rw[ho];simp[Op.operands]) hc);refine ⟨a.eval (if t then x else y),?_,hop _ v (by rw[ho];cases t<;>simp[Op.operands]) hv⟩;unfold execOp;rw[ho];simp only[hcv];cases t<;>rfl
  ·cases ha
 ·cases ha
theorem Gq {x:Operand} (ho:o.op= .nilCheck x) (ha:da (.nilc x) e h nx=some R):dX P o e.get h.get R.eff:=by
 simp only[da] at ha;split at ha
 ·rename_i id off hx;rw[cH ha];refine dX.reads fun φ E h' w a _ hop _=>?_
  have h1:=hop x _ (by rw[ho];simp[Op.operands]) hx;generalize hz:a.eval x=z at h1;cases h1 with
  |ptr hφ=>exact⟨_,by unfold execOp;rw[ho];simp only[hz];rfl,.ptr hφ⟩
 ·rename_i cells off hx;rw[cH ha];refine dX.reads fun φ E h' w a _ hop _=>?_
  have h1:=hop x _ (by rw[ho];simp[Op.operands]) hx;generalize hz:a.eval x=z at h1;cases h1 with
  |f h1=>
   have h2:=h1;cases h2 with
   |ptr _ _ b base us hO hb hcl hu hr=>exact⟨_,by unfold execOp;rw[ho];simp only[hz];rfl,.f h1⟩
 ·rename_i g cap hx;rw[cH ha];refine dX.reads fun φ E h' w a _ hop _=>?_
  have h1:=hop x _ (by rw[ho];simp[Op.operands]) hx;generalize hz:a.eval x=z at h1;cases h1 with
  |clo hl hr=>exact⟨_,by unfold execOp;rw[ho];simp only[hz];rfl,.clo hl hr⟩
 ·cases ha
theorem Hk {x:Operand} {t:TypeId} (ho:o.op= .unOp .not t x) (ha:da (.not x) e h nx=some R):dX P o e.get h.get R.eff:=by
 simp only[da] at ha;split at ha
 ·rename_i b hx;rw[cH ha];refine dX.reads fun φ E h' w a _ hop _=>?_
  have h1:=dl (hop x _ (by rw[ho];simp[Op.operands]) hx);exact⟨_,by unfold execOp;rw[ho];simp only[h1];rfl,.f (.raw _)⟩
 ·cases ha
theorem pX (k:IntKind) (n:Int):aJ k n=k.wrap n:=by
 rw[uU];unfold xj;split
 ·split
  ·rename_i h;simp only[b9,ak,decide_eq_true_eq] at h;have:jN .i64 n=if n%18446744073709551616≥9223372036854775808 then n%18446744073709551616-18446744073709551616 else n%18446744073709551616:=by
    simp[jN,IntKind.bits,IntKind.signed]
   rw[this];split<;>omega
  ·rfl
 ·split
  ·rename_i h;simp only[b9,ak,decide_eq_true_eq] at h;have:jN .u8 n=n%256:=by
    simp[jN,IntKind.bits,IntKind.signed]
   rw[this];omega
  ·rfl
 ·rfl
theorem Gy {x:Operand} {s d:TypeId} {k k':IntKind} (ho:o.op= .convert s d x) (hs:P.underlying s=some (.int k')) (hd:P.underlying d=some (.int k)) (ha:da (.conv k x) e h nx=some R):dX P o e.get h.get R.eff:=by
 simp only[da] at ha;split at ha
 ·rename_i kk n hx;rw[cH ha];refine dX.reads fun φ E h' w a _ hop _=>?_
  have h1:=dl (hop x _ (by rw[ho];simp[Op.operands]) hx);refine ⟨_,?_,.f (.raw _)⟩;unfold execOp;rw[ho];simp[h1,convert,run_underlying hs,run_underlying hd,Conv.intToInt,pX]
 ·cases ha
theorem yF (a:ByteArray):a.toList=a.data.toList:=by
 first|exact ByteArray.toList_eq a|simp[ByteArray.toList]|rfl
theorem DF {op:BinOp} {t:TypeId} {u v r:Value} (hr:nU op u v=some r) (x y:Operand) (w:World):
 (do eqGuard op t x y u v;binOp op t u v:Sem Value).run P w= .ok r w:=by
 unfold nU at hr;split at hr
 ·rename_i k a k' b;split at hr
  ·rename_i hk;have hk':k=k':=by simpa using hk
   subst hk';split at hr<;>first|(simp only[ae] at hr;subst hr;simp[eqGuard,binOp,Op.intCmp,Op.intArith,pX,b9,bz];done)|(split at hr<;>first|(cases hr;done)|(rename_i hb;simp only[ae] at hr;subst hr;simp[eqGuard,binOp,Op.intDiv,pX,show b≠0 from by simpa using hb];done))|(cases hr;done)
  ·cases hr
 ·rename_i a b;split at hr<;>first|(simp only[ae] at hr;subst hr;simp[eqGuard,binOp,Op.stringOp,mn,yF];done)|(cases hr;done)
 ·cases hr
theorem FD {s:Sem Value} {r:Value} {w w':World} (hs:s.run P w= .ok r w'):(do let x←s;pure (Next.value x):Sem Next).run P w= .ok (.value r) w':=by
 simp[hs]
theorem FQ {op:BinOp} {x y:Operand} {t t':TypeId} (ho:o.op= .binOp op t x y t') (ha:da (.bin op x y) e h nx=some R):dX P o e.get h.get R.eff:=by
 simp only[da] at ha;split at ha
 ·rename_i u v hx hy;split at ha
  ·rename_i r hr;rw[cH ha];refine dX.reads fun φ E h' w a _ hop _=>?_
   have h1:=dl (hop x _ (by rw[ho];simp[Op.operands]) hx);have h2:=dl (hop y _ (by rw[ho];simp[Op.operands]) hy);refine ⟨r,?_,.f (.raw _)⟩;unfold execOp;rw[ho];simp only[h1,h2];exact FD (DF (P:=P) (t:=t) hr x y w)
  ·cases ha
 ·cases ha
theorem Bm {t:TypeId} (hu:P.underlying t=some .bool) (u v:Bool) (w:World):(Op.equal t (.bool u) (.bool v)).run P w= .ok (u==v) w:=by
 have key:∀ d,(Op.equalIn (d+1) t (.bool u) (.bool v)).run P w= .ok (u==v) w:=fun d=>by simp[Op.equalIn,run_underlying hu]
 exact key 9999
theorem zU {t el:TypeId} (hu:P.underlying t=some (.slice el)) (A:Option Addr) (n c:Nat) (w:World):(Op.equal t (.slice A n c) (.slice none 0 0)).run P w= .ok A.isNone w:=by
 have key:∀ d,(Op.equalIn (d+1) t (.slice A n c) (.slice none 0 0)).run P w= .ok A.isNone w:=fun d=>by cases A<;>simp[Op.equalIn,run_underlying hu]
 exact key 9999
theorem FP {neg:Bool} {op:BinOp} {x y:Operand} {t t':TypeId} (ho:o.op= .binOp op t x y t') (hop:op=if neg then .neq else .eql) (hu:P.underlying t=some .bool) (ha:da (.eqb neg x y) e h nx=some R):dX P o e.get h.get R.eff:=by
 simp only[da] at ha;split at ha
 ·rename_i u v hx hy;rw[cH ha];refine dX.reads fun φ E h' w a _ hp _=>?_
  have h1:=dl (hp x _ (by rw[ho];simp[Op.operands]) hx);have h2:=dl (hp y _ (by rw[ho];simp[Op.operands]) hy);refine ⟨_,?_,.f (.raw _)⟩;unfold execOp;rw[ho];simp only[h1,h2];subst hop;cases neg<;>simp[eqGuard,binOp,Bm hu]
 ·cases ha
theorem Cg {neg:Bool} {op:BinOp} {x y:Operand} {t t' el:TypeId} (ho:o.op= .binOp op t x y t') (hop:op=if neg then .neq else .eql) (hy:y= .const (.slice none 0 0)) (hu:P.underlying t=some (.slice el)) (ha:da (.isnil neg x) e h nx=some R):dX P o e.get h.get R.eff:=by
 have key:∀ (v:Value) (w:World) (ρ:Operand→Value) (A:Option Addr) (n c:Nat),ρ x= .slice A n c→ρ y= .slice none 0 0→(execOp ρ o).run P w= .ok (.value (.bool (A.isNone !=neg))) w:=by
  intro v w ρ A n c h1 h2;unfold execOp;rw[ho];simp only[h1,h2];subst hop;cases neg<;>simp[eqGuard,binOp,zU hu]
 have hyv:∀ a:Act,a.eval y= .slice none 0 0:=fun a=>by rw[hy];rfl
 simp only[da] at ha;split at ha
 ·rename_i id sz n hx;rw[cH ha];refine dX.reads fun φ E h' w a _ hp _=>?_
  have h1:=hp x _ (by rw[ho];simp[Op.operands]) hx;generalize hz:a.eval x=z at h1;cases h1 with
  |row hφ hn hc hs=>exact⟨_,key (.bool true) w a.eval _ _ _ hz (hyv a),by simpa[raw] using cg.f (.raw _)⟩
 ·rename_i id off n hx;rw[cH ha];refine dX.reads fun φ E h' w a _ hp _=>?_
  have h1:=hp x _ (by rw[ho];simp[Op.operands]) hx;generalize hz:a.eval x=z at h1;cases h1 with
  |sl hφ hn hc=>exact⟨_,key (.bool true) w a.eval _ _ _ hz (hyv a),by simpa[raw] using cg.f (.raw _)⟩
 ·rename_i cells n hx;rw[cH ha];refine dX.reads fun φ E h' w a _ hp _=>?_
  have h1:=hp x _ (by rw[ho];simp[Op.operands]) hx;generalize hz:a.eval x=z at h1;cases h1 with
  |f h1=>
   cases h1 with
   |sl=>exact⟨_,key (.bool true) w a.eval _ _ _ hz (hyv a),by simpa[raw] using cg.f (.raw _)⟩
 ·rename_i cells hx;rw[cH ha];refine dX.reads fun φ E h' w a _ hp _=>?_
  have h1:=hp x _ (by rw[ho];simp[Op.operands]) hx;generalize hz:a.eval x=z at h1;cases h1 with
  |f h1=>
   cases h1 with
   |nil=>exact⟨_,key (.bool true) w a.eval _ _ _ hz (hyv a),.anyb⟩
   |sl=>exact⟨_,key (.bool true) w a.eval _ _ _ hz (hyv a),.anyb⟩
 ·rename_i hx;rw[cH ha];refine dX.reads fun φ E h' w a _ hp _=>?_
  have h1:=hp x _ (by rw[ho];simp[Op.operands]) hx;generalize hz:a.eval x=z at h1;cases h1 with
  |emp=>exact⟨_,key (.bool true) w a.eval _ _ _ hz (hyv a),.anyb⟩
 ·rename_i v hx;split at ha
  ·rename_i hv;rw[cH ha];refine dX.reads fun φ E h' w a _ hp _=>?_
   have h1:=dl (hp x _ (by rw[ho];simp[Op.operands]) hx);unfold isNilSl at hv;split at hv
   ·exact⟨_,key (.bool true) w a.eval _ _ _ h1 (hyv a),by simpa[raw] using cg.f (.raw _)⟩
   ·cases hv
  ·cases ha
 ·cases ha
theorem dN {t:TypeId} {sz:Nat} (hs:dk P t=some sz) (w:World):(sizeOf t).run P w= .ok sz w:=by
 unfold dk at hs;cases hi:P.info? t with
 |none=>rw[hi] at hs;cases hs
 |some i=>rw[hi] at hs;simp at hs;simp[sizeOf,typeInfo,program,hi,iO,hs]
theorem zi {t:TypeId} {ag:Bool} (hs:sW P t=some ag) (w:World):(isAgg t).run P w= .ok ag w:=by
 unfold sW at hs;cases hi:P.underlying t with
 |none=>rw[hi] at hs;cases hs
 |some d=>
  rw[hi] at hs;simp only[bN,ae] at hs;rw[← hs];simp only[isAgg,cY,run_underlying hi,ca];cases d<;>rfl
theorem gG (b off i:Nat):(⟨b,off,none⟩:Addr).add i=⟨b,off+i,none⟩:=by
 unfold Addr.add;split<;>simp_all
theorem zh {s:TypeId} {fs:Array Field} {k:Nat} {f:Field} {sz:Nat} (hu:P.underlying s=some (.struct fs)) (hf:fs[k]? =some f) (hs:dk P f.type=some sz) (h0:sz≠0) (w:World) (b i:Nat):
 (Instr.fieldAt s (.pointer (some ⟨b,i,none⟩)) k).run P w= .ok (.pointer (some ⟨b,i+f.offset,none⟩)) w:=by
 have h1:=dN hs w;simp[Instr.fieldAt,run_underlying hu,hf,Instr.sureAddr,fieldPlace,h1,h0,gG]
theorem Hu {s:TypeId} {fs:Array Field} {k:Nat} {f:Field} {sz:Nat} {x:Operand} (ho:o.op= .fieldAddr s x k) (hu:P.underlying s=some (.struct fs)) (hf:fs[k]? =some f) (hs:dk P f.type=some sz) (h0:sz≠0) (ha:da (.fad f.offset x) e h nx=some R):dX P o e.get h.get R.eff:=by
 have key:∀ (w:World) (ρ:Operand→Value) (b i:Nat),ρ x= .pointer (some ⟨b,i,none⟩)→(execOp ρ o).run P w= .ok (.value (.pointer (some ⟨b,i+f.offset,none⟩))) w:=by
  intro w ρ b i h1;unfold execOp;rw[ho];simp only[h1];exact FD (zh hu hf hs h0 w b i)
 simp only[da] at ha;split at ha
 ·rename_i id off hx;rw[cH ha];refine dX.reads fun φ E h' w a _ hp _=>?_
  have h1:=hp x _ (by rw[ho];simp[Op.operands]) hx;generalize hz:a.eval x=z at h1;cases h1 with
  |ptr hφ=>exact⟨_,key w a.eval _ _ hz,.ptr hφ⟩
 ·rename_i cells off hx;rw[cH ha];refine dX.reads fun φ E h' w a _ hp _=>?_
  have h1:=hp x _ (by rw[ho];simp[Op.operands]) hx;generalize hz:a.eval x=z at h1;cases h1 with
  |f h1=>
   cases h1 with
   |ptr _ _ b base us hO hb hcl hu hr=>
    refine ⟨_,key w a.eval _ _ hz,.f ?_⟩;rw[pi];exact .ptr cells _ b base us hO hb hcl hu hr
 ·cases ha
theorem wu {t el:TypeId} {x y:Operand} {sz b off n c:Nat} {k:IntKind} {i:Int} {ρ:Operand→Value} {w:World} (ho:o.op= .indexAddr t x y) (hu:P.underlying t=some (.slice el)) (hs:dk P el=some sz) (hx:ρ x= .slice (some ⟨b,off,none⟩) n c) (hy:ρ y= .int k i) (h0:0≤i) (h1:i<n):
 (execOp ρ o).run P w= .ok (.value (.pointer (some ⟨b,off+i.toNat*sz,none⟩))) w:=by
 have h2:=dN hs w;unfold execOp;rw[ho];simp[hx,hy,Instr.indexAt,asIntOf,run_underlying hu,h2,h0,h1,gG]
theorem Hs {t el:TypeId} {x y:Operand} {sz:Nat} (ho:o.op= .indexAddr t x y) (hu:P.underlying t=some (.slice el)) (hs:dk P el=some sz) (ha:da (.iad sz x y) e h nx=some R):dX P o e.get h.get R.eff:=by
 simp only[da] at ha;split at ha
 ·rename_i v k j hx hy;have hyv:∀ {φ:PM} {E:Nat→Prop} {h':HF} {w:World} {a:Act},BF φ E h' w a e o→a.eval y= .int k j:=fun hp=>dl (hp y _ (by rw[ho];simp[Op.operands]) hy)
  split at ha
  ·split at ha
   ·rename_i id sz' n hc;simp only[b9,bz,ak,decide_eq_true_eq,beq_iff_eq] at hc;obtain⟨⟨rfl,h0⟩,h1⟩:=hc;rw[cH ha];refine dX.reads fun φ E h' w a _ hp _=>?_
    have hr:=hp x _ (by rw[ho];simp[Op.operands]) hx;generalize hz:a.eval x=z at hr;cases hr with
    |row hφ hn hc' hsh=>
     refine ⟨_,wu ho hu hs hz (hyv hp) h0 h1,?_⟩;rw[bw];exact .ptr hφ
   ·cases ha
  ·split at ha
   ·rename_i id off n hc;simp only[b9,bz,ak,decide_eq_true_eq] at hc;obtain⟨h0,h1⟩:=hc;rw[cH ha];refine dX.reads fun φ E h' w a _ hp _=>?_
    have hr:=hp x _ (by rw[ho];simp[Op.operands]) hx;generalize hz:a.eval x=z at hr;cases hr with
    |sl hφ hn hc'=>exact⟨_,wu ho hu hs hz (hyv hp) h0 h1,.ptr hφ⟩
   ·cases ha
  ·split at ha
   ·rename_i cells n hc;simp only[b9,bz,ak,decide_eq_true_eq] at hc;obtain⟨h0,h1⟩:=hc;rw[cH ha];refine dX.reads fun φ E h' w a _ hp _=>?_
    have hr:=hp x _ (by rw[ho];simp[Op.operands]) hx;generalize hz:a.eval x=z at hr;cases hr with
    |f hr=>
     cases hr with
     |nil=>omega
     |sl _ _ c b base us hn hc' hO hb hcl hu' hr'=>exact⟨_,wu ho hu hs hz (hyv hp) h0 h1,.f (.ptr cells _ b base us hO hb hcl hu' hr')⟩
   ·cases ha
  ·cases ha
 ·cases ha
theorem Gw {t el:TypeId} {x y:Operand} {n sz:Nat} (ho:o.op= .indexAddr t x y) (hu:P.underlying t=some (.array n el)) (hs:dk P el=some sz) (ha:da (.iada n sz x y) e h nx=some R):dX P o e.get h.get R.eff:=by
 have key:∀ (w:World) (ρ:Operand→Value) (b off:Nat) (k:IntKind) (i:Int),ρ x= .pointer (some ⟨b,off,none⟩)→ρ y= .int k i→0≤i→i<n→(execOp ρ o).run P w= .ok (.value (.pointer (some ⟨b,off+i.toNat*sz,none⟩))) w:=by
  intro w ρ b off k i h1 h2 h3 h4;have h5:=dN hs w;unfold execOp;rw[ho];simp[h1,h2,Instr.indexAt,asIntOf,run_underlying hu,h5,h3,h4,gG,Instr.sureAddr]
 simp only[da] at ha;split at ha
 ·rename_i v k j hx hy;split at ha
  ·rename_i hc;simp only[b9,bz,ak,decide_eq_true_eq] at hc;obtain⟨h0,h1⟩:=hc;split at ha
   ·rw[cH ha];refine dX.reads fun φ E h' w a _ hp _=>?_
    have hr:=hp x _ (by rw[ho];simp[Op.operands]) hx;have hyv:=dl (hp y _ (by rw[ho];simp[Op.operands]) hy);generalize hz:a.eval x=z at hr;cases hr with
    |ptr hφ=>exact⟨_,key w a.eval _ _ k j hz hyv h0 h1,.ptr hφ⟩
   ·rw[cH ha];refine dX.reads fun φ E h' w a _ hp _=>?_
    have hr:=hp x _ (by rw[ho];simp[Op.operands]) hx;have hyv:=dl (hp y _ (by rw[ho];simp[Op.operands]) hy);generalize hz:a.eval x=z at hr;cases hr with
    |f hr=>
     cases hr with
     |ptr _ _ b base us hO hb hcl hu' hr'=>
      refine ⟨_,key w a.eval _ _ k j hz hyv h0 h1,.f ?_⟩;rw[pi];exact .ptr _ _ b base us hO hb hcl hu' hr'
   ·cases ha
  ·cases ha
 ·cases ha
theorem Hw {x:Operand} {i:Nat} (ho:o.op= .extract x i) (ha:da (.ext x i) e h nx=some R):dX P o e.get h.get R.eff:=by
 simp only[da] at ha;split at ha
 ·rename_i l hx;split at ha
  ·rename_i v hv;rw[cH ha];refine dX.reads fun φ E h' w a _ hp _=>?_
   have hr:=hp x _ (by rw[ho];simp[Op.operands]) hx;generalize hz:a.eval x=z at hr;cases hr with
   |@tup _ vs hl hrr=>
    have hlt:i<vs.length:=by
     rw[hl];exact (bg.1 hv).1
    refine ⟨vs[i],?_,hrr i v _ hv (aw hlt)⟩;unfold execOp;rw[ho];simp[hz,Instr.extract,hlt]
  ·cases ha
 ·cases ha
theorem Hq {x y:Operand} {ts:Array TypeId} (ho:o.op= .call {callee:=.builtin .max,args:=#[x,y],argTypes:=ts}) (ha:da (.max x y) e h nx=some R):dX P o e.get h.get R.eff:=by
 simp only[da] at ha;split at ha
 ·rename_i k a b k' hx hy;rw[cH ha];refine dX.reads fun φ E h' w a _ hp _=>?_
  have h1:=dl (hp x _ (by rw[ho];simp[Op.operands,dj]) hx);have h2:=dl (hp y _ (by rw[ho];simp[Op.operands,dj]) hy);refine ⟨_,?_,.f (.raw _)⟩;unfold execOp;rw[ho];simp[resolve,invoke,builtin,Builtin.max_,Builtin.max2,h1,h2,bz]
 ·cases ha
theorem Hp {x y:Operand} {ts:Array TypeId} (ho:o.op= .call {callee:=.builtin .min,args:=#[x,y],argTypes:=ts}) (ha:da (.min x y) e h nx=some R):dX P o e.get h.get R.eff:=by
 simp only[da] at ha;split at ha
 ·rename_i k a b k' hx hy;rw[cH ha];refine dX.reads fun φ E h' w a _ hp _=>?_
  have h1:=dl (hp x _ (by rw[ho];simp[Op.operands,dj]) hx);have h2:=dl (hp y _ (by rw[ho];simp[Op.operands,dj]) hy);refine ⟨_,?_,.f (.raw _)⟩;unfold execOp;rw[ho];simp[resolve,invoke,builtin,Builtin.min_,Builtin.min2,h1,h2,bz]
 ·cases ha
theorem Hl {x:Operand} {t:TypeId} {k:IntKind} (ho:o.op= .unOp .neg t x) (ha:da (.bin .sub (.const (.int k 0)) x) e h nx=some R):dX P o e.get h.get R.eff:=by
 simp only[da,iK,constA] at ha;split at ha
 ·rename_i u v hu hx;cases hu;split at ha
  ·rename_i r hb;rw[cH ha];refine dX.reads fun φ E h' w a _ hop _=>?_
   have h1:=dl (hop x _ (by rw[ho];simp[Op.operands]) hx);refine ⟨r,?_,.f (.raw _)⟩;unfold execOp;rw[ho];cases v<;>simp only[nU] at hb<;>try (cases hb;done)
   split at hb
   ·rename_i hk;have hk:=eq_of_beq hk;subst hk;simp only[ae] at hb;subst hb;simp[h1,Op.unary,Op.intArith,pX]
   ·cases hb
  ·cases ha
 ·cases ha
theorem Gn {x i:Operand} {t:TypeId} (ho:o.op= .index t x i) (hu:P.underlying t=some .string) (ha:da (.sidx x i) e h nx=some R):dX P o e.get h.get R.eff:=by
 simp only[da] at ha;split at ha
 ·rename_i s k j hx hi;split at ha
  ·rename_i h0;simp only[b9,decide_eq_true_eq] at h0;split at ha
   ·rename_i b hb;rw[cH ha];refine dX.reads fun φ E h' w a _ hop _=>?_
    have h1:=dl (hop x _ (by rw[ho];simp[Op.operands]) hx);have h2:=dl (hop i _ (by rw[ho];simp[Op.operands]) hi);refine ⟨_,?_,.f (.raw _)⟩;have hs:s[j.toNat]? =some b:=by
     rw[b8] at hb;obtain⟨hl,he⟩:=b6.1 hb;exact getElem?_pos s j.toNat hl▸congrArg some he
    unfold execOp;rw[ho];simp[Instr.index,run_underlying hu,h1,h2,asIntOf,h0,hs]
   ·cases ha
  ·cases ha
 ·cases ha
theorem Ho {f:FuncId} {caps:Array Operand} (ho:o.op= .makeFunc (.func f) #[] caps) (ha:da (.mkf f caps.toList) e h nx=some R):dX P o e.get h.get R.eff:=by
 simp only[da] at ha;split at ha
 ·rename_i l hl;rw[cH ha];refine dX.reads fun φ E h' w a _ hp _=>?_
  refine ⟨_,by unfold execOp;rw[ho];rfl,?_⟩;have key:∀ (xs:List Operand) (ys:List AV),(∀ x∈xs,x∈o.op.operands)→B7 e xs=some ys→ys.length=xs.length∧∀ (j:Nat) x v,ys[j]? =some x→(xs.map a.eval)[j]? =some v→cg φ (tot E φ h') w x v:=by
   intro xs;induction xs with
   |nil=>intro ys _ h;simp only[B7,ae] at h;subst h;exact⟨rfl,fun j x v hx=>by simp at hx⟩
   |cons x xs ih=>
    intro ys hm h;simp only[B7] at h;split at h
    ·rename_i y hy;split at h
     ·rename_i ys' hys;simp only[ae] at h;subst h;obtain⟨h1,h2⟩:=ih ys' (fun x hx=>hm x (cS _ hx)) hys;refine ⟨by simp[h1],fun j z v hz hv=>?_⟩;cases j with
      |zero=>simp at hz hv;subst hz;subst hv;exact hp x _ (hm x (eU ..)) hy
      |succ j=>exact h2 j z v (by simpa using hz) (by simpa using hv)
     ·cases h
    ·cases h
  obtain⟨h1,h2⟩:=key caps.toList l (fun x hx=>by rw[ho];simpa[Op.operands] using hx) hl;have h3:(caps.map a.eval)=(caps.toList.map a.eval).toArray:=by
   apply wV;simp
  have h4:(#[]:Array Operand).map a.eval=#[]:=by simp
  rw[h4,h3];exact .clo (by simp[h1]) h2
 ·cases ha
end pure
section
variable {P:Program} {o:Oper} {e:Env} {h:Heap} {nx:Nat} {R:rI}
theorem BN {α:Type} {l cs:List α} {off sz:Nat} (h:off+sz≤l.length) (he:(l.drop off).take sz=cs):cs.length=sz∧∀ (j:Nat) x,cs[j]? =some x→l[off+j]? =some x:=by
 subst he;constructor
 ·simp;omega
 ·intro j x hx;rw[cr] at hx;split at hx
  ·rw[dY] at hx;exact hx
  ·cases hx
theorem pJ (f:Nat→Value) (n j:Nat) (v:Value) (h:((fE n).map f)[j]? =some v):v=f j∧j<n:=by
 rw[aY] at h;rcases cA j n with hj|hj
 ·rw[List.getElem?_range hj] at h;simp at h;exact⟨h.symm,hj⟩
 ·rw[bU (by simpa using hj)] at h;cases h
def pR (φ:PM) (O:Nat→Prop) (w:World) (c:BC) (f:Nat→Option Value):Prop:=∀ j x,c.get j=some x→x.isCell=true∧∃ v,f j=some v∧cg φ O w x v
theorem BL {φ:PM} {O:Nat→Prop} {w:World} {c:BC} {off sz:Nat} {ag:Bool} {val:AV} (hs:c.sub? off sz ag=some val) {f:Nat→Option Value} (hc:pR φ O w c f):
 ∃ cs:List Value,cs.length=sz∧(∀ (j:Nat) v,cs[j]? =some v→f (off+j)=some v)∧(ag=false→sz=1)∧cg φ O w val (if ag then .agg cs.toArray else cs.getD 0 undef):=by
 cases ag with
 |false=>
  simp only[BC.sub?] at hs;split at hs
  ·obtain⟨h0,v,h1,h2⟩:=hc off val hs;exact⟨[v],rfl,fun j u hu=>by cases j with|zero=>simp at hu;subst hu;exact h1|succ j=>simp at hu,fun _=>rfl,by simpa using h2⟩
  ·cases hs
 |true=>
  have fin:∀ (g:Nat→Option AV),(∀ j,j<sz→∃ x,g j=some x∧c.get (off+j)=some x)→
   ∃ cs:List Value,cs.length=sz∧(∀ (j:Nat) v,cs[j]? =some v→f (off+j)=some v)∧∀ (j:Nat) x v,g j=some x→cs[j]? =some v→cg φ O w x v:=by
   intro g hg;refine ⟨(fE sz).map fun j=>(f (off+j)).getD undef,by simp,fun j v hv=>?_,fun j x v hx hv=>?_⟩
   ·obtain⟨rfl,hj⟩:=pJ _ _ _ _ hv;obtain⟨x,_,h2⟩:=hg j hj;obtain⟨_,v,h3,_⟩:=hc _ _ h2;rw[h3];rfl
   ·obtain⟨rfl,hj⟩:=pJ _ _ _ _ hv;obtain⟨x',h1,h2⟩:=hg j hj;rw[hx] at h1;cases h1;obtain⟨_,v,h3,h4⟩:=hc _ _ h2;rw[h3];exact h4
  simp only[BC.sub?] at hs;split at hs
  ·rename_i l;split at hs
   ·rename_i hle;simp only[ae] at hs;subst hs;obtain⟨hl,hg⟩:=BN (aW hle) (rfl:(l.drop off).take sz=_);obtain⟨cs,h1,h2,h3⟩:=fin (fun j=>(((l.drop off).take sz)[j]?).map AV.f) (fun j hj=>by
     have hlt:j<((l.drop off).take sz).length:=by rw[hl];exact hj
     refine ⟨.f ((l.drop off).take sz)[j],by simp only[aw hlt,bN],?_⟩;simp only[BC.get,hg j _ (aw hlt),bN])
    refine ⟨cs,h1,h2,(fun h=>by cases h),.f (.agg _ _ (by rw[h1,hl]) ?_ ?_)⟩
    ·intro x hx;obtain⟨j,hj⟩:=db hx;exact (hc (off+j) (.f x) (by simp only[BC.get,hg j x hj,bN])).1
    ·intro j x v hx hv;have:=h3 j (.f x) v (by simp only[hx,bN]) hv;cases this with
     |f h=>exact h
   ·cases hs
  ·rename_i l;split at hs
   ·rename_i hle;simp only[ae] at hs;subst hs;obtain⟨hl,hg⟩:=BN (aW hle) (rfl:(l.drop off).take sz=_);obtain⟨cs,h1,h2,h3⟩:=fin (fun j=>(((l.drop off).take sz)[j]?)) (fun j hj=>by
     have hlt:j<((l.drop off).take sz).length:=by rw[hl];exact hj
     exact⟨_,aw hlt,hg j _ (aw hlt)⟩)
    refine ⟨cs,h1,h2,(fun h=>by cases h),.agg (by rw[h1,hl]) ?_ ?_⟩
    ·intro x hx;obtain⟨j,hj⟩:=db hx;exact (hc (off+j) x (hg j x hj)).1
    ·intro j x v hx hv;exact h3 j x v hx hv
   ·cases hs
  ·cases hs
theorem ya {t:TypeId} {sz:Nat} {ag:Bool} (hs:dk P t=some sz) (ha:sW P t=some ag) (w:World) (b off:Nat) (cs:List Value) (hl:cs.length=sz) (hc:∀ (j:Nat) v,cs[j]? =some v→w.cell? ⟨b,off+j,none⟩=some v) (h1:ag=false→sz=1):
 (loadVar t ⟨b,off,none⟩).run P w= .ok (if ag then .agg cs.toArray else cs.getD 0 undef) w:=by
 unfold loadVar;simp only[cY,zi ha w,ca];cases ag with
 |true=>
  simp only[if_true,cY,dN hs w,ca];rw[← hl,run_loadCells_list (P:=P) w ⟨b,off,none⟩ cs (fun j v hv=>by rw[gG];exact hc j v hv)];rfl
 |false=>
  have h1:=h1 rfl;cases cs with
  |nil=>simp at hl;omega
  |cons v r=>
   have:=hc 0 v rfl;simp only[cP] at this;simp[load,iO,this]
theorem vX {φ:PM} {O:Nat→Prop} {w:World} {t:TypeId} {sz:Nat} {ag:Bool} (hs:dk P t=some sz) (ha:sW P t=some ag) {c:BC} {b base off:Nat} {val:AV} (hv:c.sub? off sz ag=some val)
 (hc:pR φ O w c fun j=>w.cell? ⟨b,base+j,none⟩):∃ v,(loadVar t ⟨b,base+off,none⟩).run P w= .ok v w∧cg φ O w val v:=by
 obtain⟨cs,h1,h2,h3,h4⟩:=BL hv hc;exact⟨_,ya hs ha w b (base+off) cs h1 (fun j v hj=>by rw[pi];exact h2 j v hj) h3,h4⟩
theorem Ad {φ:PM} {E:Nat→Prop} {h':HF} {w:World} (hrep:lm φ E h' w) {id k:Nat} {b:ph} (hb:h' id=some b) (hk:φ id=some k) (hc:b.c.isCells=true):pR φ (tot E φ h') w b.c fun j=>w.cell? ⟨k,0+j,none⟩:=by
 obtain⟨k',h1,_,h2⟩:=hrep.at_ id b hb;rw[hk] at h1;cases h1;obtain⟨arr,h3,h4,h5⟩:=h2.cells hc;intro j x hx;obtain⟨c1,v,c2,c3⟩:=h5 j x hx;exact⟨c1,v,by simp[xP,h3,c2],c3⟩
theorem Br {φ:PM} {O:Nat→Prop} {w:World} {cells:List FV} {b base:Nat} {us:Nat→Value} (hcl:∀ x∈cells,x.isCell=true) (hu:∀ j,j<cells.length→w.cell? ⟨b,base+j,none⟩=some (us j)) (hr:∀ (j:Nat) x,cells[j]? =some x→iM O w x (us j)):
 pR φ O w (.fz cells) fun j=>w.cell? ⟨b,base+j,none⟩:=by
 intro j y hy;simp only[BC.get] at hy;cases hc:cells[j]? with
 |none=>rw[hc] at hy;cases hy
 |some q=>
  rw[hc] at hy;simp at hy;subst hy;have hj:j<cells.length:=(bg.1 hc).1;exact⟨hcl q (bc hc),us j,hu j hj,.f (hr j q hc)⟩
theorem yW {c:BC} {off sz:Nat} {ag:Bool} {v:AV} (h:c.sub? off sz ag=some v):c.isCells=true:=by
 cases c with
 |fz=>rfl
 |mx=>rfl
 |mp es=>cases ag<;>simp only[BC.sub?,BC.get] at h<;>(try split at h)<;>cases h
 |it s p=>cases ag<;>simp only[BC.sub?,BC.get] at h<;>(try split at h)<;>cases h
theorem Ai {t:TypeId} {sz:Nat} {ag:Bool} (hs:dk P t=some sz) (hag:sW P t=some ag) {p:AV} (ha:sV h sz ag p=some R):
 R.wr=[]∧R.nw=[]∧R.N=[]∧∀ (φ:PM) (E:Nat→Prop) (h':HF) (w:World) (pv:Value),(∀ i∈R.rd,h' i=h.get i)→lm φ E h' w→cg φ (tot E φ h') w p pv→
  ∃ ad v,pv= .pointer (some ad)∧(loadVar t ad).run P w= .ok v w∧cg φ (tot E φ h') w R.val v:=by
 unfold sV at ha;split at ha
 ·rename_i id off;split at ha
  ·rename_i b hb;split at ha
   ·rename_i v hv;simp only[ae] at ha;subst ha;refine ⟨rfl,rfl,rfl,fun φ E h' w pv hrd hrep hr=>?_⟩;have hh:h' id=some b:=by rw[hrd id (by simp)];exact hb
    cases hr with
    |@ptr _ _ k hφ=>
     obtain⟨u,h1,h2⟩:=vX hs hag (w:=w) (b:=k) (base:=0) hv (Ad hrep hh hφ (yW hv));rw[bw] at h1;exact⟨_,u,rfl,h1,h2⟩
   ·cases ha
  ·cases ha
 ·rename_i cells off;split at ha
  ·rename_i v hv;rw[cH ha];refine ⟨rfl,rfl,rfl,fun φ E h' w pv hrd hrep hr=>?_⟩;cases hr with
   |f hr=>
    cases hr with
    |ptr _ _ b base us hO hb hcl hu hr=>
     obtain⟨u,h1,h2⟩:=vX (φ:=φ) (O:=tot E φ h') hs hag (w:=w) (b:=b) (base:=base) hv (Br hcl hu hr);exact⟨_,u,rfl,h1,h2⟩
  ·cases ha
 ·cases ha
theorem Gs {t:TypeId} {x:Operand} {sz:Nat} {ag:Bool} (ho:o.op= .load t x) (hs:dk P t=some sz) (hag:sW P t=some ag) (ha:da (.load sz ag x) e h nx=some R):dX P o e.get h.get R.eff:=by
 simp only[da] at ha;split at ha
 ·rename_i p hx;obtain⟨h1,h2,h3,h4⟩:=Ai hs hag ha;obtain⟨val,rd,wr,nw,N⟩:=R;simp only at h1 h2 h3 h4;subst h1;subst h2;subst h3;refine dX.reads fun φ E h' w a hrd hp hrep=>?_
  obtain⟨ad,v,h5,h6,h7⟩:=h4 φ E h' w _ hrd hrep (hp x _ (by rw[ho];simp[Op.operands]) hx);refine ⟨v,?_,h7⟩;unfold execOp;rw[ho];simp[Instr.loadAt,h5,Instr.sureAddr,h6]
 ·cases ha
theorem BV {φ:PM} {O:Nat→Prop} {w:World} {t:TypeId} {sz:Nat} {ag:Bool} (hs:dk P t=some sz) (hag:sW P t=some ag) {c:BC} {off:Nat} {val:AV} (hv:c.sub? off sz ag=some val) {vs:List Value}
 (hc:pR φ O w c fun j=>vs[j]?):∃ v,(part t vs.toArray off).run P w= .ok v w∧cg φ O w val v:=by
 obtain⟨cs,h1,h2,h3,h4⟩:=BL hv hc;refine ⟨_,?_,h4⟩;unfold part;simp only[cY,zi hag w,ca];cases ag with
 |true=>
  simp only[if_true,cY,dN hs w,ca];have:vs.toArray.extract off (off+sz)=cs.toArray:=by
   apply wV;simp only[Array.toList_extract,List.extract_eq_take_drop];apply List.ext_getElem?;intro j;rw[show off+sz-off=sz from by omega,cr,dY];rcases cA j sz with hj|hj
   ·rw[if_pos hj];have:=h2 j _ (aw (by omega:j<cs.length));rw[this,aw (by omega:j<cs.length)]
   ·rw[if_neg (by omega),bU (by omega)]
  rw[this];rfl
 |false=>
  have h5:=h3 rfl;cases cs with
  |nil=>simp at h1;omega
  |cons v r=>
   have:=h2 0 v rfl;simp only[cP] at this;simp[this]
theorem Ae {φ:PM} {O:Nat→Prop} {w:World} {l:List AV} {vs:List Value} (hl:vs.length=l.length) (hcl:∀ x∈l,x.isCell=true) (hr:∀ (j:Nat) x v,l[j]? =some x→vs[j]? =some v→cg φ O w x v):pR φ O w (.mx l) fun j=>vs[j]? :=by
 intro j x hx;simp only[BC.get] at hx;have hj:j<vs.length:=by rw[hl];exact (bg.1 hx).1
 exact⟨hcl x (bc hx),vs[j],aw hj,hr j x _ hx (aw hj)⟩
theorem yE {φ:PM} {O:Nat→Prop} {w:World} {l:List FV} {vs:List Value} (hl:vs.length=l.length) (hcl:∀ x∈l,x.isCell=true) (hr:∀ (j:Nat) x v,l[j]? =some x→vs[j]? =some v→iM O w x v):pR φ O w (.fz l) fun j=>vs[j]? :=by
 intro j x hx;simp only[BC.get] at hx;cases hc:l[j]? with
 |none=>rw[hc] at hx;cases hx
 |some q=>
  rw[hc] at hx;simp at hx;subst hx;have hj:j<vs.length:=by rw[hl];exact (bg.1 hc).1
  exact⟨hcl q (bc hc),vs[j],aw hj,.f (hr j q _ hc (aw hj))⟩
theorem wG {φ:PM} {O:Nat→Prop} {w:World} {t:TypeId} {sz:Nat} {ag:Bool} (hs:dk P t=some sz) (hag:sW P t=some ag) {x:AV} {z:Value} (hr:cg φ O w x z) {off:Nat} {val:AV}
 (hv:(∃ l,x= .agg l∧(BC.mx l).sub? off sz ag=some val)∨(∃ l,x= .f (.agg l)∧(BC.fz l).sub? off sz ag=some val)):∃ cs v,z= .agg cs∧(part t cs off).run P w= .ok v w∧cg φ O w val v:=by
 rcases hv with ⟨l,rfl,hv⟩|⟨l,rfl,hv⟩
 ·cases hr with
  |agg hl hcl hr=>
   obtain⟨v,h1,h2⟩:=BV hs hag hv (Ae hl hcl hr);exact⟨_,v,rfl,h1,h2⟩
 ·cases hr with
  |f hr=>
   cases hr with
   |agg _ vs hl hcl hr=>
    obtain⟨v,h1,h2⟩:=BV (φ:=φ) hs hag hv (yE hl hcl hr);exact⟨_,v,rfl,h1,h2⟩
theorem Ht {s:TypeId} {fs:Array Field} {k:Nat} {f:Field} {sz:Nat} {ag:Bool} {x:Operand} (ho:o.op= .field s x k) (hu:P.underlying s=some (.struct fs)) (hf:fs[k]? =some f) (hs:dk P f.type=some sz) (hag:sW P f.type=some ag) (ha:da (.fld f.offset sz ag x) e h nx=some R):dX P o e.get h.get R.eff:=by
 have fin:∀ (y:AV) (val:AV),iK e x=some y→((∃ l,y= .agg l∧(BC.mx l).sub? f.offset sz ag=some val)∨(∃ l,y= .f (.agg l)∧(BC.fz l).sub? f.offset sz ag=some val))→rv val=some R→dX P o e.get h.get R.eff:=by
  intro y val hx hv hR;rw[cH hR];refine dX.reads fun φ E h' w a _ hp _=>?_
  obtain⟨cs,v,h1,h2,h3⟩:=wG hs hag (hp x _ (by rw[ho];simp[Op.operands]) hx) hv;refine ⟨v,?_,h3⟩;unfold execOp;rw[ho];simp[Instr.field,run_underlying hu,hf,h1,asAgg,h2]
 simp only[da] at ha;split at ha
 ·rename_i l hx;split at ha
  ·rename_i v hv;exact fin _ v hx (.inl ⟨l,rfl,hv⟩) ha
  ·cases ha
 ·rename_i l hx;split at ha
  ·rename_i v hv;exact fin _ v hx (.inr ⟨l,rfl,hv⟩) ha
  ·cases ha
 ·cases ha
theorem Hr {t el:TypeId} {n sz:Nat} {ag:Bool} {x y:Operand} (ho:o.op= .index t x y) (hu:P.underlying t=some (.array n el)) (hs:dk P el=some sz) (hag:sW P el=some ag) (ha:da (.idx n sz ag x y) e h nx=some R):dX P o e.get h.get R.eff:=by
 simp only[da] at ha;split at ha
 ·rename_i v0 k j hx hy;split at ha
  ·rename_i hc;simp only[b9,bz,ak,decide_eq_true_eq] at hc;obtain⟨h0,h1⟩:=hc;have fin:∀ (val:AV),((∃ l,v0= .agg l∧(BC.mx l).sub? (j.toNat*sz) sz ag=some val)∨(∃ l,v0= .f (.agg l)∧(BC.fz l).sub? (j.toNat*sz) sz ag=some val))→rv val=some R→dX P o e.get h.get R.eff:=by
    intro val hv hR;rw[cH hR];refine dX.reads fun φ E h' w a _ hp _=>?_
    have hyv:=dl (hp y _ (by rw[ho];simp[Op.operands]) hy);obtain⟨cs,v,h3,h4,h5⟩:=wG hs hag (hp x _ (by rw[ho];simp[Op.operands]) hx) hv;refine ⟨v,?_,h5⟩;have h6:=dN hs w;unfold execOp;rw[ho];simp[Instr.index,run_underlying hu,hyv,asIntOf,h3,h0,h1,h6,h4]
   split at ha
   ·rename_i l;split at ha
    ·rename_i v hv;exact fin v (.inl ⟨l,rfl,hv⟩) ha
    ·cases ha
   ·rename_i l;split at ha
    ·rename_i v hv;exact fin v (.inr ⟨l,rfl,hv⟩) ha
    ·cases ha
   ·cases ha
  ·cases ha
 ·cases ha
theorem Gv {t el:TypeId} {x:Operand} (ho:o.op= .call {callee:=.builtin .len,args:=#[x],argTypes:=#[t]}) (hu:P.underlying t=some (.slice el)) (ha:da (.len x) e h nx=some R):dX P o e.get h.get R.eff:=by
 simp only[da] at ha;split at ha
 ·rename_i y hx;split at ha
  ·rename_i n hn;rw[cH ha];refine dX.reads fun φ E h' w a _ hp _=>?_
   have hr:=hp x _ (by rw[ho];simp[Op.operands,dj]) hx;refine ⟨_,?_,.f (.raw _)⟩;have hz:∃ A c,a.eval x= .slice A n c:=by
    generalize a.eval x=z at hr;unfold AV.slen at hn;split at hn<;>try (simp only[ae] at hn;subst hn)
    ·cases hr with
     |f hr=>cases hr with
      |nil=>exact⟨_,_,rfl⟩
      |sl=>exact⟨_,_,rfl⟩
    ·cases dl hr;exact⟨_,_,rfl⟩
    ·cases hr;exact⟨_,_,rfl⟩
    ·cases hr;exact⟨_,_,rfl⟩
    ·cases hr;exact⟨_,_,rfl⟩
    ·cases hn
   obtain⟨A,c,hz⟩:=hz;unfold execOp;rw[ho];simp[resolve,invoke,builtin,Builtin.len_,run_underlying hu,hz,goInt]
  ·cases ha
 ·cases ha
theorem Gu {t:TypeId} {x:Operand} (ho:o.op= .call {callee:=.builtin .len,args:=#[x],argTypes:=#[t]}) (hu:P.underlying t=some .string) (ha:da (.lens x) e h nx=some R):dX P o e.get h.get R.eff:=by
 simp only[da] at ha;split at ha
 ·rename_i s hx;rw[cH ha];refine dX.reads fun φ E h' w a _ hp _=>?_
  have hr:=dl (hp x _ (by rw[ho];simp[Op.operands,dj]) hx);refine ⟨_,?_,.f (.raw _)⟩;unfold execOp;rw[ho];simp[resolve,invoke,builtin,Builtin.len_,run_underlying hu,hr,goInt]
 ·cases ha
theorem Gt {t k v:TypeId} {x:Operand} (ho:o.op= .call {callee:=.builtin .len,args:=#[x],argTypes:=#[t]}) (hu:P.underlying t=some (.map k v)) (ha:da (.lenm x) e h nx=some R):dX P o e.get h.get R.eff:=by
 simp only[da] at ha;split at ha
 ·rename_i id hx;split at ha
  ·rename_i ty es hid;simp only[ae] at ha;subst ha;refine dX.reads fun φ E h' w a hrd hp hrep=>?_
   have hr:=hp x _ (by rw[ho];simp[Op.operands,dj]) hx;have hh:h' id=some ⟨ty,.mp es⟩:=by rw[hrd id (by simp)];exact hid
   generalize hz:a.eval x=z at hr;cases hr with
   |@mp _ b hφ=>
    obtain⟨b',h1,_,ob,h2,h3⟩:=hrep.at_ id _ hh;rw[hφ] at h1;cases h1;obtain⟨ents,clock,rfl,h4,_⟩:=h3;have h5:ents.size=es.length:=by have:=congrArg aa h4;simpa using this
    refine ⟨_,?_,.f (.raw _)⟩;unfold execOp;rw[ho];simp[resolve,invoke,builtin,Builtin.len_,run_underlying hu,hz,goInt,getObj,iO,h2,h5]
  ·cases ha
 ·cases ha
end
structure uP (w w':World) (k:Nat) (ob:Obj):Prop where
 os:w'.os=w.os
 tape:w'.tape=w.tape
 output:w'.output=w.output
 size:w'.heap.size=w.heap.size
 at_:w'.heap[k]? =some ob
 other:∀ j,j≠k→w'.heap[j]? =w.heap[j]?
 shp:∀ j,w'.shape? j=w.shape? j
structure Al (w w':World) (ob:Obj):Prop where
 os:w'.os=w.os
 tape:w'.tape=w.tape
 output:w'.output=w.output
 size:w'.heap.size=w.heap.size+1
 at_:w'.heap[w.heap.size]? =some ob
 other:∀ j,j<w.heap.size→w'.heap[j]? =w.heap[j]?
theorem lm.wset {φ:PM} {E:Nat→Prop} {h:HF} {w w':World} (r:lm φ E h w) {id k:Nat} {b b':ph} {ob:Obj} (hb:h id=some b) (hk:φ id=some k) (hw:uP w w' k ob) (hob:fm φ (tot E φ h) w b' ob) (nw:HF) (hnw:nw id=some b'):
 eT φ φ h (c5 h [id] nw) w w'∧lm φ E (c5 h [id] nw) w':=by
 have hdom:∀ i,(∃ x,c5 h [id] nw i=some x)↔∃ x,h i=some x:=fun i=>by
  unfold c5;by_cases hi:i=id
  ·subst hi;simp[hnw,hb]
  ·simp[hi]
 have hown:∀ j,own φ (c5 h [id] nw) j↔own φ h j:=fun j=>by
  constructor
  ·rintro⟨i,x,h1,h2⟩;obtain⟨y,hy⟩:=(hdom i).1 ⟨x,h1⟩;exact⟨i,y,hy,h2⟩
  ·rintro⟨i,x,h1,h2⟩;obtain⟨y,hy⟩:=(hdom i).2 ⟨x,h1⟩;exact⟨i,y,hy,h2⟩
 have m:eT φ φ h (c5 h [id] nw) w w':=by
  refine ⟨fun _ _ h=>h,⟨hw.os,hw.tape,hw.output,by rw[hw.size];exact cD _,fun j hj ho=>?_,fun j _=>hw.shp j⟩,fun j _ h=>(hown j).1 h⟩;exact hw.other j (fun e=>ho (e▸⟨id,b,hb,hk⟩))
 refine ⟨m,⟨fun i j x y kk hi hj h1 h2=>?_,fun i x hi=>?_,fun k hk=>cI (r.el k hk) m.ext.size,fun g cells hg=>m.keepF (r.gl g cells hg)⟩⟩
 ·obtain⟨x',hx'⟩:=(hdom i).1 ⟨x,hi⟩;obtain⟨y',hy'⟩:=(hdom j).1 ⟨y,hj⟩;exact r.inj i j x' y' kk hx' hy' h1 h2
 ·by_cases hid:i=id
  ·subst hid;have:x=b':=by unfold c5 at hi;simp[hnw] at hi;exact hi.symm
   subst this;obtain⟨k',h1,h2,_⟩:=r.at_ i b hb;rw[hk] at h1;cases h1;exact⟨k,hk,h2,ob,hw.at_,hob.mono fun _ _ h=>m.keep h⟩
  ·have hx:h i=some x:=by unfold c5 at hi;simpa[hid] using hi
   obtain⟨k',h1,h2,ob',h3,h4⟩:=r.at_ i x hx;have hne:k'≠k:=fun e=>hid (r.inj i id x b k hx hb (e▸h1) hk)
   exact⟨k',h1,h2,ob',by rw[hw.other k' hne];exact h3,h4.mono fun _ _ h=>m.keep h⟩
theorem lm.wnew {φ:PM} {E:Nat→Prop} {h:HF} {w w':World} (r:lm φ E h w) {id:Nat} (hid:φ id=none) {b:ph} {ob:Obj} (hw:Al w w' ob) (hob:fm φ (tot E φ h) w b ob) (del:List Nat) (nw:HF) (hnw:nw id=some b) (hdel:∀ i∈del,i≠id→nw i=none):
 ∃ φ',φ' id=some w.heap.size∧eT φ φ' h (c5 h (id::del) nw) w w'∧(∀ i k,φ' i=some k→φ i=some k∨i∈[id])∧lm φ' E (c5 h (id::del) nw) w':=by
 have hsub:∀ i x,c5 h (id::del) nw i=some x→i≠id→h i=some x∧i∉del:=fun i x hx hi=>by
  unfold c5 at hx;by_cases hd:i∈del
  ·rw[if_pos (by simp[hd]),hdel i hd hi] at hx;cases hx
  ·rw[if_neg (by simp[hi,hd])] at hx;exact⟨hx,hd⟩
 have hlt:∀ i x k,h i=some x→φ i=some k→k<w.heap.size:=fun i x k hi hk=>by
  obtain⟨k',h1,_,ob',h3,_⟩:=r.at_ i x hi;rw[hk] at h1;cases h1;exact (b6.1 h3).1
 have hφ:∀ i,i≠id→(if i=id then some w.heap.size else φ i)=φ i:=fun i hi=>by simp[hi]
 have m:eT φ (fun i=>if i=id then some w.heap.size else φ i) h (c5 h (id::del) nw) w w':=by
  refine ⟨fun i k hk=>?_,⟨hw.os,hw.tape,hw.output,by rw[hw.size];omega,fun j hj _=>hw.other j hj,fun j hj=>?_⟩,?_⟩
  ·have:i≠id:=fun e=>by rw[e,hid] at hk;cases hk
   rw[hφ i this];exact hk
  ·unfold ma;rw[hw.other j hj]
  ·rintro j hj ⟨i,x,h1,h2⟩;by_cases hi:i=id
   ·simp[hi] at h2;omega
   ·have h3:φ i=some j:=by simpa[hi] using h2
    exact⟨i,x,(hsub i x h1 hi).1,h3⟩
 refine ⟨_,by simp,m,fun i k hk=>?_,⟨fun i j x y k hi hj h1 h2=>?_,fun i x hi=>?_,fun k hk=>cI (r.el k hk) m.ext.size,fun g cells hg=>m.keepF (r.gl g cells hg)⟩⟩
 ·by_cases hi:i=id
  ·right;simp[hi]
  ·left;rw[hφ i hi] at hk;exact hk
 ·by_cases hi':i=id
  ·by_cases hj':j=id
   ·rw[hi',hj']
   ·exfalso;rw[hφ j hj'] at h2;have:=hlt j y k (hsub j y hj hj').1 h2;simp[hi'] at h1;omega
  ·rw[hφ i hi'] at h1;have hix:=(hsub i x hi hi').1;by_cases hj':j=id
   ·exfalso;have:=hlt i x k hix h1;simp[hj'] at h2;omega
   ·rw[hφ j hj'] at h2;exact r.inj i j x y k hix (hsub j y hj hj').1 h1 h2
 ·by_cases hi':i=id
  ·subst hi';have:x=b:=by unfold c5 at hi;simp[hnw] at hi;exact hi.symm
   subst this;refine ⟨w.heap.size,by simp,fun he=>?_,ob,hw.at_,hob.mono fun _ _ h=>m.keep h⟩;have:=r.el _ he;omega
  ·obtain⟨k,h1,h2,ob',h3,h4⟩:=r.at_ i x (hsub i x hi hi').1;refine ⟨k,by rw[hφ i hi'];exact h1,h2,ob',?_,h4.mono fun _ _ h=>m.keep h⟩;rw[hw.other k (hlt i x k (hsub i x hi hi').1 h1)];exact h3
theorem lq (w:World) (ob:Obj):Al w {w with heap:=w.heap.push ob} ob:=by
 refine ⟨rfl,rfl,rfl,by simp,by simp,fun j hj=>?_⟩;rw[Array.getElem?_push,if_neg (by omega)]
theorem Al.drawn {w w':World} {ob:Obj} (d:Nat) (h:Al {w with drawn:=d} w' ob):Al w w' ob:=⟨h.os,h.tape,h.output,h.size,h.at_,h.other⟩
theorem dX.makes {P:Program} {o:Oper} {e:Env} {h:HF} {rd:List Nat} {nx:Nat} {b:ph} {val:AV}
 (hv:∀ (φ:PM) (E:Nat→Prop) (h':HF) (w:World) (a:Act),(∀ i∈rd,h' i=h i)→BF φ E h' w a e o→lm φ E h' w→
   ∃ v w' ob,(execOp a.eval o).run P w= .ok (.value v) w'∧Al w w' ob∧fm φ (tot E φ h') w b ob∧∀ φ' O,φ' nx=some w.heap.size→cg φ' O w' val v):
 dX P o e.get h ⟨val,rd,[nx],nwGet [(nx,b)],[nx]⟩:=by
 intro φ E h' w a h1 h2 h3 h4 h5;obtain⟨v,w',ob,hrun,hw,hob,hval⟩:=hv φ E h' w a h1 (fun x y hx hy=>mY h4 h3 hx hy) h4;obtain⟨φ',g1,g2,g3,g4⟩:=h4.wnew (id:=nx) (h5 nx (by simp)) hw hob [] (nwGet [(nx,b)]) (by simp[nwGet]) (by simp);unfold uS;rw[hrun];exact⟨v,φ',rfl,g2,g3,g4,hval φ' _ g1⟩
theorem dX.writes {P:Program} {o:Oper} {e:Env} {h:HF} {rd:List Nat} {id:Nat} {b b':ph} {val:AV} (hb:h id=some b)
 (hv:∀ (φ:PM) (E:Nat→Prop) (h':HF) (w:World) (a:Act),(∀ i∈rd,h' i=h i)→h' id=some b→BF φ E h' w a e o→lm φ E h' w→
   ∃ r w' k ob,(execOp a.eval o).run P w= .ok r w'∧φ id=some k∧uP w w' k ob∧fm φ (tot E φ h') w b' ob∧(∃ v,(r= .value v∨r= .skip∧v=undef)∧cg φ (tot E φ (c5 h' [id] (nwGet [(id,b')]))) w' val v)):
 dX P o e.get h ⟨val,rd,[id],nwGet [(id,b')],[]⟩:=by
 intro φ E h' w a h1 h2 h3 h4 h5;obtain⟨r,w',k,ob,hrun,hk,hw,hob,v,hr,hval⟩:=hv φ E h' w a h1 (by rw[h2 id (by simp)];exact hb) (fun x y hx hy=>mY h4 h3 hx hy) h4;obtain⟨g1,g2⟩:=h4.wset (id:=id) (by rw[h2 id (by simp)];exact hb) hk hw hob (nwGet [(id,b')]) (by simp[nwGet]);unfold uS;rw[hrun];rcases hr with rfl|⟨rfl,rfl⟩
 ·exact⟨v,φ,rfl,g1,fun _ _ h=>.inl h,g2,hval⟩
 ·exact⟨undef,φ,rfl,g1,fun _ _ h=>.inl h,g2,hval⟩
theorem gV {l:List AV} (h:allCell l=true):∀ x∈l,x.isCell=true:=by
 induction l with
 |nil=>intro x hx;cases hx
 |cons y l ih=>
  simp only[allCell,ak] at h;intro x hx;rcases bo.1 hx with rfl|hx
  ·exact h.1
  ·exact ih h.2 x hx
theorem allF_spec:∀ {l:List AV} {fs:List FV},allF l=some fs→l=fs.map .f
 |[],fs,h=>by simp only[allF,ae] at h;subst h;rfl
 |.f x::r,fs,h=>by
  simp only[allF] at h;split at h
  ·rename_i l hl;simp only[ae] at h;subst h;rw[allF_spec hl];rfl
  ·cases h
 |.ptr _ _::_,_,h=>by simp[allF] at h
 |.sl _ _ _::_,_,h=>by simp[allF] at h
 |.row _ _ _::_,_,h=>by simp[allF] at h
 |.mp _::_,_,h=>by simp[allF] at h
 |.emp::_,_,h=>by simp[allF] at h
 |.agg _::_,_,h=>by simp[allF] at h
 |.tup _::_,_,h=>by simp[allF] at h
 |.clo _ _::_,_,h=>by simp[allF] at h
def Cs (φ:PM) (O:Nat→Prop) (w:World) (l:List AV) (vs:List Value):Prop:=vs.length=l.length∧(∀ x∈l,x.isCell=true)∧∀ (j:Nat) x v,l[j]? =some x→vs[j]? =some v→cg φ O w x v
theorem BC.get_toMx {c:BC} (hc:c.isCells=true) (j:Nat):c.get j=c.toMx[j]? :=by
 cases c with
 |fz l=>simp[BC.get,BC.toMx]
 |mx l=>rfl
 |mp _=>cases hc
 |it _ _=>cases hc
theorem BC.len_toMx {c:BC} (hc:c.isCells=true):c.len=c.toMx.length:=by
 cases c with
 |fz l=>simp[BC.len,BC.toMx]
 |mx l=>rfl
 |mp _=>cases hc
 |it _ _=>cases hc
theorem iZ (l:List AV):(ka l).toMx=l∧(ka l).isCells=true:=by
 unfold ka;cases h:allF l with
 |none=>exact⟨rfl,rfl⟩
 |some fs=>exact⟨(allF_spec h).symm,rfl⟩
theorem mq {φ:PM} {O:Nat→Prop} {w:World} {ty:TypeId} {c:BC} (hc:c.isCells=true) {arr:Array Value} (hl:c.toMx.length≤arr.size)
 (h:∀ (j:Nat) x,c.toMx[j]? =some x→x.isCell=true∧∃ v,arr[j]? =some v∧cg φ O w x v):fm φ O w ⟨ty,c⟩ (.cells arr ty (0,0)):=by
 have h2:ox φ O w c arr:=⟨by rw[BC.len_toMx hc];exact hl,fun j x hx=>h j x (by rw[← BC.get_toMx hc];exact hx)⟩
 unfold fm;cases hb:c with
 |fz l=>rw[hb] at h2;exact⟨arr,rfl,h2⟩
 |mx l=>rw[hb] at h2;exact⟨arr,rfl,h2⟩
 |mp _=>rw[hb] at hc;cases hc
 |it _ _=>rw[hb] at hc;cases hc
theorem vI {φ:PM} {O:Nat→Prop} {w:World} {ty:TypeId} {l:List AV} {vs:List Value} (h:Cs φ O w l vs):fm φ O w ⟨ty,ka l⟩ (.cells vs.toArray ty (0,0)):=by
 obtain⟨h1,h2⟩:=iZ l;refine mq h2 (by rw[h1];simp[h.1]) fun j x hx=>?_
 rw[h1] at hx;have hj:j<vs.length:=by rw[h.1];exact (bg.1 hx).1
 exact⟨h.2.1 x (bc hx),vs[j],by simp[hj],h.2.2 j x _ hx (aw hj)⟩
theorem Bp {φ:PM} {O:Nat→Prop} {w:World} {x:AV} {v:Value} (h:cg φ O w x v) (hc:allCell x.cs=true):Cs φ O w x.cs v.cells.toList:=by
 have one:x.cs=[x]→v.cells=#[v]→Cs φ O w x.cs v.cells.toList:=fun h1 h2=>by
  rw[h1] at hc ⊢;rw[h2];exact⟨rfl,gV hc,fun j y u hy hu=>by cases j with|zero=>simp at hy hu;subst hy;subst hu;exact h|succ j=>simp at hy⟩
 cases h with
 |ptr h=>exact one rfl rfl
 |sl h _ _=>exact one rfl rfl
 |row h _ _ _=>exact one rfl rfl
 |emp=>exact one rfl rfl
 |anyb=>exact one rfl rfl
 |mp h=>exact one rfl rfl
 |clo _ _=>exact one rfl rfl
 |tup _ _=>exact absurd hc (by simp[AV.cs,allCell,AV.isCell])
 |@agg l vs hl hcl hr=>exact⟨hl,hcl,hr⟩
 |@f y u hf=>
  cases hf with
  |raw v=>
   have hv:v.oneCell'=true:=by
    have:(AV.f (.raw v)).cs=[.f (.raw v)]:=rfl;rw[this] at hc;simpa[allCell,AV.isCell,FV.isCell] using hc
   refine one rfl ?_;cases v<;>first|rfl|simp[Value.oneCell'] at hv
  |nil=>exact one rfl rfl
  |sl=>exact one rfl rfl
  |ptr=>exact one rfl rfl
  |agg l vs hl hcl hr=>
   refine ⟨by simp[AV.cs,Value.cells,hl],gV hc,fun j y u hy hu=>?_⟩;simp only[AV.cs,aY] at hy;cases hq:l[j]? with
   |none=>rw[hq] at hy;cases hy
   |some q=>rw[hq] at hy;simp at hy;subst hy;exact .f (hr j q u hq (by simpa[Value.cells] using hu))
theorem iM.one {O:Nat→Prop} {w:World} {x:FV} {v:Value} (h:iM O w x v) (hc:x.isCell=true):v.oneCell'=true:=by
 cases h with
 |raw v=>exact hc
 |nil=>rfl
 |sl=>rfl
 |ptr=>rfl
 |agg=>cases hc
theorem cg.one {φ:PM} {O:Nat→Prop} {w:World} {x:AV} {v:Value} (h:cg φ O w x v) (hc:x.isCell=true):v.oneCell'=true:=by
 cases h with
 |f h=>exact h.one hc
 |ptr=>rfl
 |sl=>rfl
 |row=>rfl
 |emp=>rfl
 |anyb=>rfl
 |mp=>rfl
 |agg=>cases hc
 |tup=>cases hc
 |clo=>rfl
theorem Cs.one {φ:PM} {O:Nat→Prop} {w:World} {l:List AV} {vs:List Value} (h:Cs φ O w l vs):∀ v∈vs,v.oneCell'=true:=by
 intro v hv;obtain⟨j,hj⟩:=db hv;have hlt:j<l.length:=by rw[← h.1];exact (bg.1 hj).1
 exact (h.2.2 j _ v (aw hlt) hj).one (h.2.1 _ (nY hlt))
theorem Cs.append {φ:PM} {O:Nat→Prop} {w:World} {l l':List AV} {vs vs':List Value} (h:Cs φ O w l vs) (h':Cs φ O w l' vs'):Cs φ O w (l++l') (vs++vs'):=by
 refine ⟨by simp[h.1,h'.1],fun x hx=>(bD.1 hx).elim (h.2.1 x) (h'.2.1 x),fun j x v hx hv=>?_⟩;rcases cA j l.length with hj|hj
 ·rw[bV hj] at hx;rw[bV (by rw[h.1];exact hj)] at hv;exact h.2.2 j x v hx hv
 ·rw[co hj] at hx;rw[co (by rw[h.1];exact hj),h.1] at hv;exact h'.2.2 _ x v hx hv
theorem Cs.take {φ:PM} {O:Nat→Prop} {w:World} {l:List AV} {vs:List Value} (h:Cs φ O w l vs) (n:Nat):Cs φ O w (l.take n) (vs.take n):=by
 refine ⟨by simp[h.1],fun x hx=>h.2.1 x (fa hx),fun j x v hx hv=>?_⟩;rw[cr] at hx hv;split at hx
 ·rename_i hj;rw[if_pos hj] at hv;exact h.2.2 j x v hx hv
 ·cases hx
theorem Cs.drop {φ:PM} {O:Nat→Prop} {w:World} {l:List AV} {vs:List Value} (h:Cs φ O w l vs) (n:Nat):Cs φ O w (l.drop n) (vs.drop n):=by
 refine ⟨by simp[h.1],fun x hx=>h.2.1 x (List.mem_of_mem_drop hx),fun j x v hx hv=>?_⟩;rw[dY] at hx hv;exact h.2.2 _ x v hx hv
theorem Cs.splice {φ:PM} {O:Nat→Prop} {w:World} {l l':List AV} {vs vs':List Value} (h:Cs φ O w l vs) (h':Cs φ O w l' vs') (off:Nat):Cs φ O w (splice l off l') (splice vs off vs'):=by
 unfold AI.splice;rw[h'.1];exact ((h.take off).append h').append (h.drop _)
theorem Cs.raws {φ:PM} {O:Nat→Prop} {w:World} (z:List Value) (hz:kW z=true):Cs φ O w (z.map raw) z:=by
 refine ⟨by simp,fun x hx=>?_,fun j x v hx hv=>?_⟩
 ·obtain⟨v,hv,rfl⟩:=cQ.1 hx;exact li.1 hz v hv
 ·rw[aY] at hx;rw[hv] at hx;simp at hx;subst hx;exact .f (.raw v)
theorem Cs.mono {φ φ':PM} {O O':Nat→Prop} {w w':World} {l:List AV} {vs:List Value} (h:Cs φ O w l vs) (hk:∀ x v,cg φ O w x v→cg φ' O' w' x v):Cs φ' O' w' l vs:=⟨h.1,h.2.1,fun j x v hx hv=>hk _ _ (h.2.2 j x v hx hv)⟩
theorem uP.setRow {w:World} {k:Nat} {arr arr':Array Value} {ty:TypeId} (ha:w.heap[k]? =some (.cells arr ty (0,0))) (hs:arr'.size=arr.size):uP w (w.setRow k arr') k (.cells arr' ty (0,0)):=by
 refine ⟨rfl,rfl,rfl,by simp,setRow_heap w k arr arr' ty (0,0) ha,fun j hj=>setRow_other w k j arr' hj,fun j=>?_⟩;unfold ma;by_cases hj:j=k
 ·subst hj;rw[setRow_heap w j arr arr' ty (0,0) ha,ha];simp[hs]
 ·rw[setRow_other w k j arr' hj]
section
variable {P:Program} {o:Oper} {e:Env} {h:Heap} {nx:Nat} {R:rI}
theorem oN {t:TypeId} {z:List Value} (hz:n7 P t=some z) (w:World):∃ v,(zeroValue t).run P w= .ok v w∧v.cells.toList=z∧∃ i,P.info? t=some i∧i.zero=some v:=by
 unfold n7 at hz;cases hi:P.info? t with
 |none=>rw[hi] at hz;cases hz
 |some i=>
  rw[hi] at hz;simp only[aC] at hz;cases hv:i.zero with
  |none=>rw[hv] at hz;cases hz
  |some v=>
   rw[hv] at hz;simp only[bN,ae] at hz;exact⟨v,by simp[zeroValue,typeInfo,hi,hv],hz,i,rfl,hv⟩
theorem Fp {t:TypeId} {z:List Value} (ho:o.op= .alloc t) (hz:n7 P t=some z) (hc:kW z=true) (ha:da (.alloc t z) e h nx=some R):dX P o e.get h.get R.eff:=by
 simp only[da,ae] at ha;subst ha;refine dX.makes fun φ E h' w a _ _ _=>?_
 obtain⟨v,h1,h2,_⟩:=oN hz w;refine ⟨.pointer (some ⟨w.heap.size,0,none⟩),{w with heap:=w.heap.push (.cells v.cells t)},.cells v.cells t (0,0),?_,lq w _,?_,fun φ' O hφ=>.ptr hφ⟩
 ·unfold execOp;rw[ho];simp[Instr.alloc,h1,newVar,newRow,newObj,iO]
 ·have hz':BC.toMx (.fz (z.map .raw))=z.map raw:=by simp[BC.toMx,raw]
  refine mq rfl (by rw[hz',←h2];simp) fun j x hx=>?_
  rw[hz'] at hx;have cs:=Cs.raws (φ:=φ) (O:=tot E φ h') (w:=w) z hc;have hj:j<z.length:=by have:=(bg.1 hx).1;simpa using this
  refine ⟨cs.2.1 x (bc hx),z[j],?_,cs.2.2 j x _ hx (aw hj)⟩;have:v.cells.toList[j]? =some z[j]:=by rw[h2];exact aw hj
  simpa using this
theorem Hy {t:TypeId} {x:Operand} (ho:o.op= .box t x) (ha:da (.box t x) e h nx=some R):dX P o e.get h.get R.eff:=by
 simp only[da] at ha;split at ha
 ·rename_i v hx;split at ha
  ·rename_i hc;simp only[ae] at ha;subst ha;refine dX.makes fun φ E h' w a _ hp _=>?_
   have hr:=Bp (hp x _ (by rw[ho];simp[Op.operands]) hx) hc;refine ⟨.pointer (some ⟨w.heap.size,0,none⟩),{w with heap:=w.heap.push (.cells (a.eval x).cells t)},.cells (a.eval x).cells t (0,0),?_,lq w _,?_,fun φ' O hφ=>.ptr hφ⟩
   ·unfold execOp;rw[ho];simp[Instr.box,newVar,newRow,newObj,iO]
   ·have:=vI (ty:=t) hr;simpa using this
  ·cases ha
 ·cases ha
theorem lw {α:Type} {l vs:List α} {off:Nat} (hle:off+vs.length≤l.length) (j:Nat):(splice l off vs)[j]? =if j<off then l[j]? else if j<off+vs.length then vs[j-off]? else l[j]? :=by
 unfold splice;rw[jM];have h1:(l.take off).length=off:=by simp;omega
 by_cases hj:j<off
 ·rw[if_pos hj,bV (by rw[h1];exact hj),cr,if_pos hj]
 ·rw[if_neg hj,co (by omega),h1];by_cases hj2:j<off+vs.length
  ·rw[if_pos hj2,bV (by omega)]
  ·rw[if_neg hj2,co (by omega),dY];congr 1;omega
theorem md {α:Type} {l vs:List α} {off:Nat} (hle:off+vs.length≤l.length):(splice l off vs).length=l.length:=by
 unfold splice;simp;omega
theorem zN (off:Nat):∀ (vs:List Value) (k:Nat) (arr:Array Value),off+k+vs.length≤arr.size→∀ j:Nat,
 ((vs.zipIdx k).foldl (fun cs (p:Value×Nat)=>cs.setIfInBounds (off+p.2) p.1) arr)[j]? =if j<off+k then arr[j]? else if j<off+k+vs.length then vs[j-(off+k)]? else arr[j]?
 |[],k,arr,_,j=>by
  simp only[List.zipIdx_nil,List.foldl_nil,gY,cP];split<;>rfl
 |v::vs,k,arr,hle,j=>by
  simp only[bO] at hle;rw[List.zipIdx_cons,uk,zN off vs (k+1) _ (by simp;omega) j];simp only[bO];by_cases h1:j<off+k
  ·rw[if_pos (by omega),if_pos h1,kx (by omega)]
  ·by_cases h2:j=off+k
   ·subst h2;rw[if_pos (by omega),if_neg (by omega),if_pos (by omega)];simp[show off+k<arr.size by omega]
   ·rw[if_neg (by omega),if_neg h1];by_cases h3:j<off+k+(vs.length+1)
    ·rw[if_pos (by omega),if_pos h3,show j-(off+k)=(j-(off+(k+1)))+1 from by omega];simp
    ·rw[if_neg (by omega),if_neg h3,kx (by omega)]
theorem zM (off:Nat) (c:Array Value) (l:List Value) (hle:off+c.size≤l.length):(c.zipIdx.foldl (fun cs (p:Value×Nat)=>cs.setIfInBounds (off+p.2) p.1) l.toArray)=(splice l off c.toList).toArray:=by
 rw[← Array.foldl_toList,Array.toList_zipIdx];apply Array.ext_getElem?;intro j;rw[zN off c.toList 0 l.toArray (by simpa using hle) j];simp only[cP,iP];rw[lw (by simpa using hle)]
theorem yC {φ:PM} {E:Nat→Prop} {h':HF} {w:World} {a:Act} (hp:BF φ E h' w a e o) {place:Nat→Option (Nat×Nat)}:∀ (ps:List (Nat×Operand)) (ps':List (Nat×Nat×Operand)) (cells cs:List AV) (vs:List Value),
 (ps'.length=ps.length)→(∀ (j:Nat) i x,ps[j]? =some (i,x)→∃ of sz,ps'[j]? =some (of,sz,x)∧place i=some (of,sz))→(∀ p∈ps,p.2∈o.op.operands)→Cs φ (tot E φ h') w cells vs→qm cells e ps'=some cs→
 ∃ vs',Instr.fill place vs.toArray (ps.map fun p=>(p.1,a.eval p.2))=some vs'.toArray∧Cs φ (tot E φ h') w cs vs'
 |[],ps',cells,cs,vs,hl,_,_,hcs,hf=>by
  cases ps' with
  |nil=>simp only[qm,ae] at hf;subst hf;exact⟨vs,rfl,hcs⟩
  |cons _ _=>simp at hl
 |(i,x)::ps,ps',cells,cs,vs,hl,hpl,hm,hcs,hf=>by
  obtain⟨of,sz,h1,h2⟩:=hpl 0 i x rfl;cases ps' with
  |nil=>simp at h1
  |cons p ps'=>
   simp at h1;subst h1;simp only[qm] at hf;split at hf
   ·rename_i v hv;split at hf
    ·rename_i hc;simp only[ak,beq_iff_eq] at hc;obtain⟨⟨hc1,hc2⟩,hc3⟩:=hc;have hr:=Bp (hp x v (hm _ (eU ..)) hv) hc3;have hsz:(a.eval x).cells.size=sz:=by have:=hr.1;simp at this;omega
     have hle:of+sz≤vs.length:=by rw[hcs.1];exact aW hc2
     obtain⟨vs',g1,g2⟩:=yC hp ps ps' _ cs _ (by simpa using hl) (fun j i x hj=>by have:=hpl (j+1) i x (by simpa using hj);simpa using this) (fun p hp=>hm p (cS _ hp)) (hcs.splice hr of) hf;refine ⟨vs',?_,g2⟩;simp only[eL,Instr.fill,h2];have hcd:((decide ((a.eval x).cells.size≠sz))||decide (of+(a.eval x).cells.size>vs.toArray.size))=false:=by
      rw[hsz];simp;omega
     rw[if_neg (by rw[hcd];simp)];have:=zM of (a.eval x).cells vs (by rw[hsz];exact hle);rw[← g1,←this]
    ·cases hf
   ·cases hf
theorem tw {t:TypeId}:∀ (ps:List (Nat×Operand)) (ps':List (Nat×Nat×Operand)),pn P t ps=some ps'→ps'.length=ps.length∧∀ (j:Nat) i x,ps[j]? =some (i,x)→∃ of sz,ps'[j]? =some (of,sz,x)∧ri P t i=some (of,sz)
 |[],ps',h=>by simp only[pn,ae] at h;subst h;exact⟨rfl,fun j i x hx=>by simp at hx⟩
 |(i,x)::ps,ps',h=>by
  simp only[pn] at h;split at h
  ·rename_i of sz l h1 h2;simp only[ae] at h;subst h;obtain⟨g1,g2⟩:=tw ps l h2;refine ⟨by simp[g1],fun j i' x' hj=>?_⟩;cases j with
   |zero=>simp at hj;obtain⟨rfl,rfl⟩:=hj;exact⟨of,sz,rfl,h1⟩
   |succ j=>simpa using g2 j i' x' (by simpa using hj)
  ·cases h
theorem vS (w:World):∀ (fs:List Field),(fs.all fun f=>(dk P f.type).isSome)=true→(fs.mapM (fun f=>do pure (f.offset,←sizeOf f.type)):Sem (List (Nat×Nat))).run P w= .ok (fs.map fun f=>(f.offset,(dk P f.type).getD 0)) w
 |[],_=>by simp
 |f::fs,h=>by
  simp only[List.all_cons,ak] at h;obtain⟨sz,hs⟩:=eK.1 h.1;have h1:=dN hs w;have ih:=vS w fs h.2;simp only[List.mapM_cons,cY,h1,ca,jL,ih,eL,hs,rK]
theorem Ch {t:TypeId} {ps:Array (Nat×Operand)} {z:List Value} {ps':List (Nat×Nat×Operand)} (ho:o.op= .build t ps) (hz:n7 P t=some z) (hc:kW z=true) (hps:pn P t ps.toList=some ps')
 (hu:(∃ fs,P.underlying t=some (.struct fs)∧(fs.toList.all fun f=>(dk P f.type).isSome)=true)∨∃ n el sz,P.underlying t=some (.array n el)∧dk P el=some sz) (ha:da (.build z ps') e h nx=some R):dX P o e.get h.get R.eff:=by
 simp only[da] at ha;split at ha
 ·rename_i cs hf;rw[cH ha];refine dX.reads fun φ E h' w a _ hp _=>?_
  obtain⟨v,h1,h2,_⟩:=oN hz w;have hcells:v.cells=z.toArray:=by rw[← h2]
  obtain⟨g1,g2⟩:=tw ps.toList ps' hps;have hops:∀ p∈ps.toList,p.2∈o.op.operands:=fun p hp=>by
   rw[ho];simp only[Op.operands,List.mem_toArray,cQ];exact⟨p,hp,rfl⟩
  have hmap:(ps.map fun x:Nat×Operand=>(x.1,a.eval x.2)).toList=ps.toList.map fun p=>(p.1,a.eval p.2):=by simp
  have fin:∀ place:Nat→Option (Nat×Nat),(∀ i,ri P t i≠none→place i=ri P t i)→∃ vs':List Value,Instr.fill place v.cells (ps.map fun x:Nat×Operand=>(x.1,a.eval x.2)).toList=some vs'.toArray∧cg φ (tot E φ h') w (xw cs) (.agg vs'.toArray):=by
   intro place hpl;obtain⟨vs',k1,k2⟩:=yC (place:=place) hp ps.toList ps' _ cs z g1 (fun j i x hj=>by
    obtain⟨of,sz,q1,q2⟩:=g2 j i x hj;exact⟨of,sz,q1,by rw[hpl i (by rw[q2];simp),q2]⟩) hops (Cs.raws z hc) hf
   refine ⟨vs',by rw[hmap,hcells];exact k1,?_⟩;unfold xw;cases hfs:allF cs with
   |none=>exact .agg k2.1 k2.2.1 k2.2.2
   |some fs=>
    have he:=allF_spec hfs;refine .f (.agg fs vs' (by rw[k2.1,he];simp) (fun x hx=>k2.2.1 (.f x) (by rw[he];exact cQ.2 ⟨x,hx,rfl⟩)) fun j x u hx hu=>?_);have:=k2.2.2 j (.f x) u (by rw[he,aY,hx];rfl) hu;cases this with
    |f h=>exact h
  rcases hu with ⟨fs,hu,hall⟩|⟨n,el,sz,hu,hs⟩
  ·obtain⟨vs',k1,k2⟩:=fin (fun i=>(fs.map fun f=>(f.offset,(dk P f.type).getD 0))[i]?) (fun i hi=>by
    unfold ri at hi ⊢;rw[hu] at hi ⊢;simp only[Array.getElem?_map] at hi ⊢;cases hf:fs[i]? with
    |none=>rw[hf] at hi;simp at hi
    |some f=>
     simp only[bN,aC];cases hs:dk P f.type with
     |none=>rw[hf] at hi;simp[hs] at hi
     |some sz=>simp)
   refine ⟨_,?_,k2⟩;have hm:=vS w fs.toList hall;have hm':(fs.mapM (fun f=>do pure (f.offset,←sizeOf f.type)):Sem (Array (Nat×Nat))).run P w= .ok (fs.map fun f=>(f.offset,(dk P f.type).getD 0)) w:=by
    rw[Array.mapM_eq_mapM_toList];simp only[Sem.run_map,hm,ca];congr 1;apply wV;simp
   unfold execOp;rw[ho];simp only[Instr.build,cY,h1,ca,run_underlying hu,hm',jL,k1]
  ·obtain⟨vs',k1,k2⟩:=fin (fun i=>some (i*sz,sz)) (fun i hi=>by
    unfold ri;rw[hu];simp[hs])
   refine ⟨_,?_,k2⟩;have h3:=dN hs w;unfold execOp;rw[ho];simp only[Instr.build,cY,h1,ca,run_underlying hu,h3,jL,k1]
 ·cases ha
end
section
variable {P:Program} {o:Oper} {e:Env} {h:Heap} {nx:Nat} {R:rI}
theorem nO {t el:TypeId} (h:sP P t=some el):P.underlying t=some (.slice el):=by
 unfold sP at h;split at h
 ·rename_i e hu;simp only[ae] at h;subst h;exact hu
 ·cases h
theorem kl (z:List Value):∀ n,(repl z n).length=n*z.length
 |0=>by simp[repl]
 |n+1=>by simp[repl,kl z n,eM];omega
theorem r4 (z:List Value):∀ (n j:Nat),j<n*z.length→(repl z n)[j]? =(z[j%z.length]?).map .raw
 |0,j,h=>by simp at h
 |n+1,j,h=>by
  have hz:0<z.length:=by
   rcases Nat.eq_zero_or_pos z.length with h0|h0
   ·rw[h0] at h;simp at h
   ·exact h0
  rw[repl];rcases cA j z.length with hj|hj
  ·rw[bV (by simpa using hj),aY,Nat.mod_eq_of_lt hj]
  ·rw[co (by simpa using hj),cK,r4 z n (j-z.length) (by rw[eM] at h;omega),Nat.mod_eq_sub_mod hj]
theorem Cl {v:Value} {z:List Value} (hv:v.cells.toList=z) (n sz:Nat) (hl:z.length=sz) (hsz:sz≠0) (j:Nat) (hj:j<n*sz):
 ((s9 (n*sz)).map (fun i=>v.cells[i%v.cells.size]!))[j]? =z[j%sz]? :=by
 have hs:v.cells.size=sz:=by rw[← hl,←hv];simp
 have hlt:j%sz<v.cells.size:=by rw[hs];exact Nat.mod_lt _ (by omega)
 rw[Array.getElem?_map,Array.getElem?_range];simp only[hj,if_true,bN,hs];rw[← hv,b8,getElem!_pos v.cells _ hlt,em hlt]
theorem Cs.repl {φ:PM} {O:Nat→Prop} {w:World} {v:Value} {z:List Value} (hv:v.cells.toList=z) (n sz:Nat) (hl:z.length=sz) (hsz:sz≠0) (hc:kW z=true):
 Cs φ O w ((repl z n).map .f) ((s9 (n*sz)).map (fun i=>v.cells[i%v.cells.size]!)).toList:=by
 have key:∀ (j:Nat) (x:AV),((AI.repl z n).map AV.f)[j]? =some x→∃ u,z[j%sz]? =some u∧x=raw u∧j<n*sz:=by
  intro j x hx;rw[aY] at hx;have hj:j<n*z.length:=by
   rcases cA j (n*z.length) with h|h
   ·exact h
   ·rw[bU (by rw[kl];exact h)] at hx;cases hx
  rw[r4 z n j hj,hl] at hx;cases hu:z[j%sz]? with
  |none=>rw[hu] at hx;cases hx
  |some u=>rw[hu] at hx;simp at hx;exact⟨u,rfl,hx.symm,by rw[← hl];exact hj⟩
 refine ⟨by simp[kl,hl],fun x hx=>?_,fun j x u hx hu=>?_⟩
 ·obtain⟨j,hj⟩:=db hx;obtain⟨u,h1,rfl,_⟩:=key j x hj;exact li.1 hc u (bc h1)
 ·obtain⟨u',h1,rfl,hj⟩:=key j x hx;rw[b8,Cl hv n sz hl hsz j hj,h1] at hu;cases hu;exact .f (.raw _)
theorem Hx {t el:TypeId} {n sz:Nat} {ps:Array (Nat×Operand)} {z:List Value} {ps':List (Nat×Nat×Operand)} (ho:o.op= .buildSlice t n ps) (hu:P.underlying t=some (.slice el)) (hz:n7 P el=some z) (hs:dk P el=some sz) (hc:kW z=true) (hl:z.length=sz) (hsz:sz≠0) (hb:n*sz≤65536)
 (hps:pn P t ps.toList=some ps') (ha:da (.bsl el sz n z ps') e h nx=some R):dX P o e.get h.get R.eff:=by
 simp only[da] at ha;split at ha
 ·rename_i cs hf;simp only[ae] at ha;subst ha;refine dX.makes fun φ E h' w a _ hp _=>?_
  obtain⟨v,h1,h2,_⟩:=oN hz w;obtain⟨g1,g2⟩:=tw ps.toList ps' hps;have hops:∀ p∈ps.toList,p.2∈o.op.operands:=fun p hp=>by
   rw[ho];simp only[Op.operands,List.mem_toArray,cQ];exact⟨p,hp,rfl⟩
  have hmap:(ps.map fun x:Nat×Operand=>(x.1,a.eval x.2)).toList=ps.toList.map fun p=>(p.1,a.eval p.2):=by simp
  obtain⟨vs',k1,k2⟩:=yC (place:=fun i=>some (i*sz,sz)) hp ps.toList ps' _ cs _ g1 (fun j i x hj=>by
   obtain⟨of,s',q1,q2⟩:=g2 j i x hj;unfold ri at q2;rw[hu] at q2;simp[hs] at q2;obtain⟨rfl,rfl⟩:=q2;exact⟨_,_,q1,rfl⟩) hops (Cs.repl h2 n sz hl hsz hc) hf
  have hcells:(s9 (n*sz)).map ((if n*sz=0 then #[] else v.cells)[·%(if n*sz=0 then #[] else v.cells).size]!)=((s9 (n*sz)).map (fun i=>v.cells[i%v.cells.size]!)).toList.toArray:=by
   by_cases h0:n*sz=0
   ·simp[h0]
   ·rw[Array.toArray_toList];simp only[if_neg h0]
  have hlen:vs'.length=n*sz:=by
   have e1:=k2.1;have e2:cs.length=((AI.repl z n).map AV.f).length:=by
    have:∀ (ps':List (Nat×Nat×Operand)) (c0 c1:List AV),qm c0 e ps'=some c1→c1.length=c0.length:=by
     intro ps';induction ps' with
     |nil=>intro c0 c1 h;simp only[qm,ae] at h;rw[h]
     |cons p ps' ih=>
      intro c0 c1 h;obtain⟨of,s',x⟩:=p;simp only[qm] at h;split at h
      ·split at h
       ·rename_i hcc;simp only[ak,beq_iff_eq] at hcc;rw[ih _ _ h,md (by rw[hcc.1.1];exact aW hcc.1.2)]
       ·cases h
      ·cases h
    exact this ps' _ _ hf
   rw[e1,e2];simp[kl,hl]
  refine ⟨.slice (some ⟨w.heap.size,0,none⟩) n n,{w with heap:=w.heap.push (.cells vs'.toArray el)},.cells vs'.toArray el (0,0),?_,lq w _,vI k2,fun φ' O hφ=>?_⟩
  ·have h3:=dN hs w;have hk:Instr.fill (fun i=>some (i*sz,sz)) ((s9 (n*sz)).map ((if n*sz=0 then #[] else v.cells)[·%(if n*sz=0 then #[] else v.cells).size]!)) (ps.map fun x:Nat×Operand=>(x.1,a.eval x.2)).toList=some vs'.toArray:=by
    rw[hcells,hmap];exact k1
   unfold execOp;rw[ho];simp only[Instr.buildSlice,cY,run_underlying hu,ca,h3];rw[if_neg (by omega)];by_cases h0:n*sz=0
   ·simp only[if_pos h0] at hk ⊢;simp only[cY,jL,ca,hk,newRow,newObj,iO]
   ·simp only[if_neg h0] at hk ⊢;simp only[cY,jL,ca,h1,hk,newRow,newObj,iO]
  ·simp only[];split
   ·rename_i h0;subst h0;exact .emp
   refine .row hφ (cD _) ?_ ⟨el,?_⟩
   ·have:n≤n*sz:=Nat.le_mul_of_pos_right _ (by omega);unfold maxLen;omega
   ·unfold ma;simp[hlen]
 ·cases ha
end
theorem lm.wren {φ:PM} {E:Nat→Prop} {h:HF} {w w':World} (r:lm φ E h w) {id nx k:Nat} {b b':ph} {ob:Obj} (hb:h id=some b) (hk:φ id=some k) (hnx:φ nx=none) (hw:uP w w' k ob) (hob:fm φ (tot E φ h) w b' ob) (nw:HF) (hnw:nw nx=some b') (hnid:nw id=none):
 ∃ φ',φ' nx=some k∧eT φ φ' h (c5 h [nx,id] nw) w w'∧(∀ i k,φ' i=some k→φ i=some k∨i∈[nx])∧lm φ' E (c5 h [nx,id] nw) w':=by
 have hne:nx≠id:=fun e=>by rw[e,hk] at hnx;cases hnx
 have hsub:∀ i x,c5 h [nx,id] nw i=some x→i≠nx→h i=some x∧i≠id:=fun i x hx hi=>by
  unfold c5 at hx;by_cases hd:i=id
  ·subst hd;simp[hnid] at hx
  ·simp[hi,hd] at hx;exact⟨hx,hd⟩
 have hφ:∀ i,i≠nx→(if i=nx then some k else φ i)=φ i:=fun i hi=>by simp[hi]
 have m:eT φ (fun i=>if i=nx then some k else φ i) h (c5 h [nx,id] nw) w w':=by
  refine ⟨fun i k' hk'=>?_,⟨hw.os,hw.tape,hw.output,by rw[hw.size];exact cD _,fun j hj ho=>?_,fun j _=>hw.shp j⟩,?_⟩
  ·have:i≠nx:=fun e=>by rw[e,hnx] at hk';cases hk'
   rw[hφ i this];exact hk'
  ·exact hw.other j (fun e=>ho (e▸⟨id,b,hb,hk⟩))
  ·rintro j hj ⟨i,x,h1,h2⟩;by_cases hi:i=nx
   ·simp[hi] at h2;subst h2;exact⟨id,b,hb,hk⟩
   ·have h3:φ i=some j:=by simpa[hi] using h2
    exact⟨i,x,(hsub i x h1 hi).1,h3⟩
 refine ⟨_,by simp,m,fun i k' hk'=>?_,⟨fun i j x y kk hi hj h1 h2=>?_,fun i x hi=>?_,fun k hk=>cI (r.el k hk) m.ext.size,fun g cells hg=>m.keepF (r.gl g cells hg)⟩⟩
 ·by_cases hi:i=nx
  ·right;simp[hi]
  ·left;rw[hφ i hi] at hk';exact hk'
 ·by_cases hi':i=nx
  ·by_cases hj':j=nx
   ·rw[hi',hj']
   ·exfalso;rw[hφ j hj'] at h2;simp[hi'] at h1;subst h1;obtain⟨q1,q2⟩:=hsub j y hj hj';exact q2 (r.inj j id y b k q1 hb h2 hk)
  ·rw[hφ i hi'] at h1;obtain⟨p1,p2⟩:=hsub i x hi hi';by_cases hj':j=nx
   ·exfalso;simp[hj'] at h2;subst h2;exact p2 (r.inj i id x b k p1 hb h1 hk)
   ·rw[hφ j hj'] at h2;exact r.inj i j x y kk p1 (hsub j y hj hj').1 h1 h2
 ·by_cases hi':i=nx
  ·subst hi';have:x=b':=by unfold c5 at hi;simp[hnw] at hi;exact hi.symm
   subst this;obtain⟨k',h1,h2,_⟩:=r.at_ id b hb;rw[hk] at h1;cases h1;exact⟨k,by simp,h2,ob,hw.at_,hob.mono fun _ _ h=>m.keep h⟩
  ·obtain⟨p1,p2⟩:=hsub i x hi hi';obtain⟨k',h1,h2,ob',h3,h4⟩:=r.at_ i x p1;have hne':k'≠k:=fun e=>p2 (r.inj i id x b k p1 hb (e▸h1) hk)
   exact⟨k',by rw[hφ i hi'];exact h1,h2,ob',by rw[hw.other k' hne'];exact h3,h4.mono fun _ _ h=>m.keep h⟩
theorem lm.cs {φ:PM} {E:Nat→Prop} {h':HF} {w:World} (hrep:lm φ E h' w) {id k:Nat} {b:ph} (hb:h' id=some b) (hk:φ id=some k) (hc:b.c.isCells=true):
 ∃ arr,w.heap[k]? =some (.cells arr b.ty (0,0))∧Cs φ (tot E φ h') w b.c.toMx (arr.toList.take b.c.toMx.length)∧b.c.toMx.length≤arr.size:=by
 obtain⟨k',h1,_,h2⟩:=hrep.at_ id b hb;rw[hk] at h1;cases h1;obtain⟨arr,h3,h4,h5⟩:=h2.cells hc;rw[BC.len_toMx hc] at h4;refine ⟨arr,h3,⟨by simp;omega,fun x hx=>?_,fun j x v hx hv=>?_⟩,h4⟩
 ·obtain⟨j,hj⟩:=db hx;exact (h5 j x (by rw[BC.get_toMx hc];exact hj)).1
 ·obtain⟨_,u,h6,h7⟩:=h5 j x (by rw[BC.get_toMx hc];exact hx);rw[cr] at hv;split at hv
  ·rw[b8,h6] at hv;cases hv;exact h7
  ·cases hv
section
variable {P:Program} {o:Oper} {e:Env} {h:Heap} {nx:Nat} {R:rI}
theorem xG {t:TypeId} {b:Nat} (hb:ua P t=some b):∃ i,P.info? t=some i∧i.bytes=b:=by
 unfold ua at hb;cases hi:P.info? t with
 |none=>rw[hi] at hb;cases hb
 |some i=>rw[hi] at hb;simp at hb;exact⟨i,rfl,hb⟩
theorem vx {n b:Nat} (h:aZ n b=true):n≤1099511627776∧n*b≤1099511627776:=by
 simp only[aZ,ak] at h;exact⟨aW h.1,aW h.2⟩
theorem Dp {n:Int} (h1: -9223372036854775808≤n) (h2:n≤9223372036854775807):jN .i64 n=n:=by
 rw[← pX];have:(b9 (-9223372036854775808) n&&b9 n 9223372036854775807)=true:=by simp[b9,h1,h2]
 simp only[uU,xj,this,if_true]
theorem Gr {t el:TypeId} {sz bytes:Nat} {z:List Value} {l c:Operand} (ho:o.op= .makeSlice t l c) (hu:P.underlying t=some (.slice el)) (hz:n7 P el=some z) (hs:dk P el=some sz) (hb:ua P el=some bytes) (hc:kW z=true) (hl:z.length=sz) (hsz:sz≠0)
 (ha:da (.mksl el sz bytes z l c) e h nx=some R):dX P o e.get h.get R.eff:=by
 simp only[da] at ha;split at ha
 ·rename_i k1 n k2 m hx hy;split at ha
  ·rename_i hcd;simp only[b9,ak,decide_eq_true_eq] at hcd;obtain⟨⟨h0,h1⟩,h2⟩:=hcd;obtain⟨r1,r2⟩:=vx h2;simp only[ae] at ha;subst ha;refine dX.makes fun φ E h' w a _ hp _=>?_
   have e1:=dl (hp l _ (by rw[ho];simp[Op.operands]) hx);have e2:=dl (hp c _ (by rw[ho];simp[Op.operands]) hy);obtain⟨v,z1,z2,_⟩:=oN hz w;obtain⟨i,i1,i2⟩:=xG hb;have s1:=dN hs w;have w1:jN .i64 n=n:=Dp (by omega) (by omega);have w2:jN .i64 m=m:=Dp (by omega) (by omega);have hbm:(bytes:Int)*m=((m.toNat*bytes:Nat):Int):=by
    rw[Int.natCast_mul,uA (by omega),Int.mul_comm]
   have t1:¬(m<0∨(281474976710656:Int)<bytes*m):=by rw[hbm];omega
   have hr:¬(m.toNat*bytes>roomBytes):=by unfold roomBytes;omega
   have hn0:m.toNat*sz=0→m.toNat=0:=fun h=>(Nat.mul_eq_zero.1 h).resolve_right hsz
   let cells:Array Value:=(s9 (m.toNat*sz)).map (fun i=>v.cells[i%v.cells.size]!)
   refine ⟨.slice (some ⟨w.heap.size,0,none⟩) n.toNat m.toNat,{w with heap:=w.heap.push (.cells cells el)},.cells cells el (0,0),?_,lq w _,?_,fun φ' O hφ=>?_⟩
   ·unfold execOp;rw[ho];by_cases hm0:m.toNat*sz=0
    ·obtain rfl:m=0:=by have:=hn0 hm0;omega
     obtain rfl:n=0:=by omega
     simp[Instr.makeSlice,run_underlying hu,e1,e2,asInt,asIntOf,typeInfo,i1,w1,askRoom,s1,newRow,newObj,iO,cells];rw[show s9 0=#[] from rfl];simp
    ·simp[Instr.makeSlice,run_underlying hu,e1,e2,asInt,asIntOf,typeInfo,i1,i2,w1,w2,t1,show ¬n<0 by omega,show ¬m<n by omega,askRoom,hr,s1,hm0,z1,newRow,newObj,iO,cells]
   ·have cs:=Cs.repl (φ:=φ) (O:=tot E φ h') (w:=w) z2 m.toNat sz hl hsz hc;have hle:n.toNat≤m.toNat:=by omega
    have hlen:n.toNat*sz≤m.toNat*sz:=bT _ hle;refine mq rfl (by simp[BC.toMx,kl,hl,cells];exact hlen) fun j x hx=>?_
    simp only[BC.toMx,aY] at hx;have hj:j<n.toNat*z.length:=by
     rcases cA j (n.toNat*z.length) with h|h
     ·exact h
     ·rw[bU (by rw[kl];exact h)] at hx;cases hx
    have hj2:j<m.toNat*z.length:=by rw[hl] at hj ⊢;omega
    rw[r4 z _ j hj,←r4 z m.toNat j hj2] at hx;have hx2:((repl z m.toNat).map AV.f)[j]? =some x:=by rw[aY];exact hx
    have hj3:j<cells.toList.length:=by simp[cells];rw[← hl];exact hj2
    exact⟨cs.2.1 x (bc hx2),cells.toList[j],by rw[← b8];exact aw hj3,cs.2.2 j x _ hx2 (aw hj3)⟩
   ·refine .row hφ (by omega) (by unfold maxLen;omega) ⟨el,?_⟩;unfold ma;simp[cells]
  ·cases ha
 ·cases ha
theorem Fo {t:TypeId} {x y:Operand} {sz:Nat} (ho:o.op= .store t x y) (hs:dk P t=some sz) (ha:da (.store sz x y) e h nx=some R):dX P o e.get h.get R.eff:=by
 simp only[da] at ha;split at ha
 ·rename_i p v hx hy;unfold yG at ha;split at ha
  ·rename_i id off;split at ha
   ·rename_i b hb;split at ha
    ·rename_i hl;split at ha
     ·rename_i c' hput;simp only[ae] at ha;subst ha;unfold BC.put at hput;split at hput
      ·rename_i hcc;simp only[ak] at hcc;obtain⟨⟨c1,c2⟩,c3⟩:=hcc;have c2:=aW c2;have hl:v.cs.length=sz:=by simpa using hl
       have hc':c'.toMx=splice b.c.toMx off v.cs∧c'.isCells=true:=by
        split at hput
        ·rename_i l ys hbl hys;simp only[ae] at hput;subst hput;refine ⟨?_,rfl⟩;have hv:=allF_spec hys;rw[hv,hbl];simp only[BC.toMx];unfold splice;simp[mJ,List.map_drop]
        ·simp only[ae] at hput;subst hput;exact⟨rfl,rfl⟩
       refine dX.writes hb fun φ E h' w a hrd hb' hp hrep=>?_
       have hr:=Bp (hp y _ (by rw[ho];simp[Op.operands]) hy) c3;have hpx:=hp x _ (by rw[ho];simp[Op.operands]) hx;generalize hz:a.eval x=pv at hpx;cases hpx with
       |@ptr _ _ k hφ=>
        obtain⟨arr,g1,g2,g3⟩:=hrep.cs hb' hφ c1;have hvl:(a.eval y).cells.toList.length=sz:=by rw[hr.1];exact hl
        rw[BC.len_toMx c1] at c2;have hst:=run_storeCells_at (P:=P) k off b.ty (a.eval y).cells.toList 0 arr w g1 (by rw[hvl];omega) hr.one
        let arr':Array Value:=(arr.toList.take off++(a.eval y).cells.toList++arr.toList.drop (off+sz)).toArray
        have hsize:arr'.size=arr.size:=by simp only[arr',qw,cq,cj,lf,ic,hvl];omega
        refine ⟨.skip,w.setRow k arr',k,.cells arr' b.ty (0,0),?_,hφ,uP.setRow g1 hsize,?_,undef,.inr ⟨rfl,rfl⟩,.f (.raw _)⟩
        ·have s1:=dN hs w;have hvs:(a.eval y).cells.size=sz:=by simpa using hvl
         simp only[cP,hvl] at hst;unfold execOp;rw[ho];simp[Instr.storeAt,hz,Instr.sureAddr,storeVar,s1,hvs,hst,arr']
        ·refine mq hc'.2 (by rw[hc'.1,md (by omega),hsize];exact g3) fun j q hq=>?_
         rw[hc'.1,lw (by omega)] at hq;have ha':arr'[j]? =if j<off then arr.toList[j]? else if j<off+sz then (a.eval y).cells.toList[j-off]? else arr.toList[j]? :=by
          have:=lw (l:=arr.toList) (vs:=(a.eval y).cells.toList) (off:=off) (by have:=hvl;simp only[ic] at this ⊢;omega) j;unfold splice at this;rw[hvl] at this;simp only[arr',iP];exact this
         have old:b.c.toMx[j]? =some q→q.isCell=true∧∃ u,arr.toList[j]? =some u∧cg φ (tot E φ h') w q u:=fun hq=>by
          have hj:j<b.c.toMx.length:=(bg.1 hq).1;have hj2:j<arr.toList.length:=by simp;omega
          refine ⟨g2.2.1 q (bc hq),arr.toList[j],aw hj2,g2.2.2 j q _ hq ?_⟩;rw[cr,if_pos hj,aw hj2]
         rw[ha'];by_cases h1:j<off
         ·rw[if_pos h1] at hq ⊢;exact old hq
         ·rw[if_neg h1] at hq ⊢;by_cases h2:j<off+sz
          ·rw[if_pos (by omega)] at hq;rw[if_pos h2];have hj3:j-off<(a.eval y).cells.toList.length:=by omega
           exact⟨hr.2.1 q (bc hq),_,aw hj3,hr.2.2 _ q _ hq (aw hj3)⟩
          ·rw[if_neg (by omega)] at hq;rw[if_neg h2];exact old hq
      ·cases hput
     ·cases ha
    ·cases ha
   ·cases ha
  ·cases ha
 ·cases ha
end
section
variable {P:Program} {o:Oper} {e:Env} {h:Heap} {nx:Nat} {R:rI}
theorem Hg (A:Addr):A.add 0=A:=by cases A;simp[Addr.add]
theorem Hh {t el:TypeId} {sz:Nat} {x:Operand} {lo hi mx:Option Operand} (ho:o.op= .slice t x lo hi mx) (hu:P.underlying t=some (.slice el)) (hs:dk P el=some sz) (ha:da (.slc sz x lo hi mx) e h nx=some R):dX P o e.get h.get R.eff:=by
 simp only[da] at ha;split at ha
 ·rename_i v hx;split at ha
  ·
   rename_i k k';split at ha
   ·rename_i hsl;rw[cH ha];refine dX.reads fun φ E h' w a _ hp _=>?_
    have hr:=hp x _ (by rw[ho];simp[Op.operands]) hx;have hz:∃ A n c,a.eval x= .slice A n c:=by
     generalize a.eval x=z at hr;obtain⟨n,hn⟩:=eK.1 hsl;unfold AV.slen at hn;split at hn
     ·cases hr with
      |f hr=>cases hr with
       |nil=>exact⟨_,_,_,rfl⟩
       |sl=>exact⟨_,_,_,rfl⟩
     ·cases dl hr;exact⟨_,_,_,rfl⟩
     ·cases hr;exact⟨_,_,_,rfl⟩
     ·cases hr;exact⟨_,_,_,rfl⟩
     ·cases hr;exact⟨_,_,_,rfl⟩
     ·cases hn
    obtain⟨A,n,c,hz⟩:=hz;have s1:=dN hs w;refine ⟨.slice A 0 0,?_,.emp⟩;unfold execOp;rw[ho];have z0:∀ k,a.eval (.const (.int k 0))= .int k 0:=fun _=>rfl
    simp[ki,nQ,run_underlying hu,hz,fG,go,asIntOf,s1,z0]
   ·cases ha
  ·
   rename_i b;split at ha
   ·rename_i id sz' n k j hb;split at ha
    ·rename_i hc;simp only[b9,ak,decide_eq_true_eq,beq_iff_eq] at hc;obtain⟨⟨rfl,h0⟩,h1⟩:=hc;split at ha
     ·rename_i blk hblk;split at ha
      ·rename_i hcl;simp only[ak] at hcl;obtain⟨hcells,hlen⟩:=hcl;have hlen:=aW hlen;rw[BC.len_toMx hcells] at hlen;simp only[ae] at ha;subst ha;intro φ E h' w a g1 g2 g3 hrep g5;have hp:BF φ E h' w a e o:=fun x y hx hy=>mY hrep g3 hx hy
       have hb':h' id=some blk:=by rw[g1 id (by simp[rI.eff])];exact hblk
       have hr:=hp x _ (by rw[ho];simp[Op.operands]) hx;have hbv:=dl (hp b _ (by rw[ho];simp[Op.operands]) hb);have hnx:φ nx=none:=g5 nx (by simp[rI.eff]);generalize hz:a.eval x=z at hr;cases hr with
       |@row _ _ _ c q hφ hn hcap hsh=>
        obtain⟨arr,a1,a2,a3⟩:=hrep.cs hb' hφ hcells;have s1:=dN hs w;have hne:nx≠id:=fun e=>by rw[e,hφ] at hnx;cases hnx
        have hnw1:nwGet [(nx,⟨blk.ty,ka (blk.c.toMx.take (j.toNat*sz'))⟩)] nx=some (⟨blk.ty,ka (blk.c.toMx.take (j.toNat*sz'))⟩:ph):=by simp[nwGet]
        have hnw2:nwGet [(nx,⟨blk.ty,ka (blk.c.toMx.take (j.toNat*sz'))⟩)] id=none:=by
         simp only[nwGet];rw[if_neg];intro hb;exact hne (au hb)
        have a4:=a2.take (j.toNat*sz');obtain⟨φ',p1,p2,p3,p4⟩:=hrep.wren hb' hφ hnx (w':=w) ⟨rfl,rfl,rfl,rfl,a1,fun _ _=>rfl,fun _=>rfl⟩ (b':=⟨blk.ty,ka (blk.c.toMx.take (j.toNat*sz'))⟩) (by
         obtain⟨q1,q2⟩:=iZ (blk.c.toMx.take (j.toNat*sz'));refine mq q2 (by rw[q1,cj];omega) fun i x hx=>?_
         rw[q1] at hx;have hi:i<((arr.toList.take blk.c.toMx.length).take (j.toNat*sz')).length:=by rw[a4.1];exact (bg.1 hx).1
         refine ⟨a4.2.1 x (bc hx),_,?_,a4.2.2 i x _ hx (aw hi)⟩;have hi':i<arr.size:=by simp at hi;omega
         simp[hi']) _ hnw1 hnw2
        have hrun:(execOp a.eval o).run P w= .ok (.value (.slice (some ⟨q,0,none⟩) j.toNat c)) w:=by
         unfold execOp;rw[ho];simp[ki,nQ,run_underlying hu,hz,fG,go,asIntOf,s1,hbv,h0,show j≤c by omega,gG]
        unfold uS;rw[hrun];exact⟨_,φ',rfl,p2,p3,p4,.row p1 (by omega) hcap hsh⟩
      ·cases ha
     ·cases ha
    ·cases ha
   ·rename_i cells n k j hb;split at ha
    ·rename_i hc;simp only[b9,ak,decide_eq_true_eq] at hc;obtain⟨⟨h0,h1⟩,h2⟩:=hc;have h2:=aW h2;rw[cH ha];refine dX.reads fun φ E h' w a _ hp _=>?_
     have hr:=hp x _ (by rw[ho];simp[Op.operands]) hx;have hbv:=dl (hp b _ (by rw[ho];simp[Op.operands]) hb);generalize hz:a.eval x=z at hr;have s1:=dN hs w;cases hr with
     |f hr=>
      cases hr with
      |nil A c hc=>
       have hj:j=0:=by omega
       subst hj;refine ⟨.slice A 0 c,?_,by simpa using cg.f (.nil A c hc)⟩;unfold execOp;rw[ho];cases A<;>simp[ki,nQ,run_underlying hu,hz,fG,go,asIntOf,s1,hbv,Hg]
      |sl _ _ c q off us hn hc hO hq hcl hu' hr=>
       refine ⟨.slice (some ⟨q,off,none⟩) j.toNat c,?_,.f (.sl _ _ _ _ _ us (by omega) hc hO hq (fun y hy=>hcl y (fa hy)) (fun i hi=>hu' i (by rw[cj] at hi;omega)) fun i y hy=>?_)⟩
       ·unfold execOp;rw[ho];simp[ki,nQ,run_underlying hu,hz,fG,go,asIntOf,s1,hbv,h0,show j≤c by omega,gG]
       ·rw[cr] at hy;split at hy
        ·exact hr i y hy
        ·cases hy
    ·cases ha
   ·cases ha
  ·
   rename_i b;split at ha
   ·rename_i id sz' n k j hb;split at ha
    ·rename_i hc;simp only[b9,bz,ak,decide_eq_true_eq,beq_iff_eq] at hc;obtain⟨⟨rfl,h0⟩,h1⟩:=hc;rw[cH ha];refine dX.reads fun φ E h' w a _ hp _=>?_
     have hr:=hp x _ (by rw[ho];simp[Op.operands]) hx;have hbv:=dl (hp b _ (by rw[ho];simp[Op.operands]) hb);generalize hz:a.eval x=z at hr;cases hr with
     |@row _ _ _ c q hφ hn hc hsh=>
      have s1:=dN hs w;refine ⟨.slice (some ⟨q,0+j.toNat*sz',none⟩) (n-j.toNat) (c-j.toNat),?_,?_⟩
      ·unfold execOp;rw[ho];simp[ki,nQ,run_underlying hu,hz,fG,go,asIntOf,s1,hbv,h0,show j≤n by omega,show ¬c=j.toNat by omega,gG]
      ·rw[bw];exact .sl hφ (by omega) (by omega)
    ·cases ha
   ·rename_i cells n k j hb;split at ha
    ·rename_i hc;simp only[b9,ak,decide_eq_true_eq] at hc;obtain⟨⟨h0,h1⟩,h2⟩:=hc;have h2:=aW h2;rw[cH ha];refine dX.reads fun φ E h' w a _ hp _=>?_
     have hr:=hp x _ (by rw[ho];simp[Op.operands]) hx;have hbv:=dl (hp b _ (by rw[ho];simp[Op.operands]) hb);generalize hz:a.eval x=z at hr;have s1:=dN hs w;cases hr with
     |f hr=>
      cases hr with
      |nil A c hc=>
       have hj:j=0:=by omega
       subst hj;have hex:∃ A',(execOp a.eval o).run P w= .ok (.value (.slice A' 0 c)) w:=by
        unfold execOp;rw[ho];cases A with
        |none=>exact⟨none,by simp[ki,nQ,run_underlying hu,hz,fG,go,asIntOf,s1,hbv]⟩
        |some A=>exact⟨some A,by simp[ki,nQ,run_underlying hu,hz,fG,go,asIntOf,s1,hbv,Hg]⟩
       obtain⟨A',hex⟩:=hex;exact⟨.slice A' 0 c,hex,by simpa using cg.f (.nil A' c hc)⟩
      |sl _ _ c q off us hn hc hO hq hcl hu' hr=>
       by_cases hcj:c=j.toNat
       ·refine ⟨.slice (some ⟨q,off,none⟩) 0 0,?_,?_⟩
        ·unfold execOp;rw[ho];simp[ki,nQ,run_underlying hu,hz,fG,go,asIntOf,s1,hbv,h0,show j≤n by omega,hcj,show n-j.toNat=0 by omega,gG]
        ·rw[show n-j.toNat=0 by omega];simpa using cg.f (.nil (some ⟨q,off,none⟩) 0 (by unfold maxLen;omega))
       ·refine ⟨.slice (some ⟨q,off+j.toNat*sz,none⟩) (n-j.toNat) (c-j.toNat),?_,.f (.sl _ _ _ _ _ (fun i=>us (j.toNat*sz+i)) (by omega) (by omega) hO hq (fun y hy=>hcl y (List.mem_of_mem_drop (fa hy))) (fun i hi=>?_) fun i y hy=>?_)⟩
        ·unfold execOp;rw[ho];simp[ki,nQ,run_underlying hu,hz,fG,go,asIntOf,s1,hbv,h0,show j≤n by omega,hcj,gG]
        ·rw[pi];refine hu' _ ?_;rw[cj,lf] at hi;omega
        ·rw[cr] at hy;split at hy
         ·rw[dY] at hy;exact hr _ y hy
         ·cases hy
    ·cases ha
   ·cases ha
  ·cases ha
 ·cases ha
theorem DG {sz:Nat} {x:AV} {src:List AV} {m:Nat} {rd:List Nat} (hrow:x.row? h sz=some (src,m,rd)) {φ:PM} {E:Nat→Prop} {h':HF} {w:World} (hrd:∀ i∈rd,h' i=h.get i) (hrep:lm φ E h' w) {v:Value} (hr:cg φ (tot E φ h') w x v):
 ∃ A c vs,v= .slice A m c∧Cs φ (tot E φ h') w src vs∧vs.length=m*sz∧(A=none→vs=[])∧(∀ ad,A=some ad→∀ (j:Nat) u,vs[j]? =some u→w.cell? (ad.add j)=some u):=by
 have emp:∀ A c,v= .slice A 0 c→src=[]→m=0→∃ A c vs,v= .slice A m c∧Cs φ (tot E φ h') w src vs∧vs.length=m*sz∧(A=none→vs=[])∧(∀ ad,A=some ad→∀ (j:Nat) u,vs[j]? =some u→w.cell? (ad.add j)=some u):=by
  rintro A c rfl rfl rfl;exact⟨A,c,[],rfl,⟨rfl,(by intro x hx;cases hx),(by intro j x v hx;simp at hx)⟩,by simp,fun _=>rfl,by intro ad _ j u hu;simp at hu⟩
 have own:∀ (id off n c k:Nat) (b:ph),φ id=some k→h' id=some b→b.c.isCells=true→off+n*sz≤b.c.len→v= .slice (some ⟨k,off,none⟩) n c→src=(b.c.toMx.drop off).take (n*sz)→m=n→
  ∃ A c vs,v= .slice A m c∧Cs φ (tot E φ h') w src vs∧vs.length=m*sz∧(A=none→vs=[])∧(∀ ad,A=some ad→∀ (j:Nat) u,vs[j]? =some u→w.cell? (ad.add j)=some u):=by
  rintro id off n c k b hφ hb hc hle rfl rfl rfl;obtain⟨arr,g1,g2,g3⟩:=hrep.cs hb hφ hc;rw[BC.len_toMx hc] at hle;refine ⟨_,c,((arr.toList.take b.c.toMx.length).drop off).take (m*sz),rfl,(g2.drop off).take _,?_,(fun h=>by cases h),?_⟩
  ·simp;omega
  ·intro ad had j u hu;cases had;rw[gG];rw[cr] at hu;split at hu
   ·rw[dY,cr] at hu;split at hu
    ·rw[b8] at hu;simp[xP,g1,hu]
    ·cases hu
   ·cases hu
 unfold AV.row? at hrow;split at hrow
 ·rename_i cells n;split at hrow
  ·rename_i hle;have hle:=aW hle;simp only[ae,ay] at hrow;obtain⟨rfl,rfl,rfl⟩:=hrow;cases hr with
   |f hr=>
    cases hr with
    |nil a c hc=>exact emp a c rfl (by simp) rfl
    |sl _ _ c b off us hn hc hO hb hcl hu hr=>
     refine ⟨_,c,(fE (n*sz)).map us,rfl,⟨by simp;omega,fun x hx=>?_,fun j x u hx hu'=>?_⟩,by simp,(fun h=>by cases h),?_⟩
     ·obtain⟨y,hy,rfl⟩:=cQ.1 hx;exact hcl y (fa hy)
     ·obtain⟨rfl,hj⟩:=pJ us _ _ _ hu';rw[aY,cr,if_pos hj] at hx;cases hq:cells[j]? with
      |none=>rw[hq] at hx;cases hx
      |some q=>rw[hq] at hx;simp at hx;subst hx;exact .f (hr j q hq)
     ·intro ad had j u hu';cases had;obtain⟨rfl,hj⟩:=pJ us _ _ _ hu';rw[gG];exact hu j (by omega)
  ·cases hrow
 ·simp only[ae,ay] at hrow;obtain⟨rfl,rfl,rfl⟩:=hrow;exact emp none 0 (dl hr) rfl rfl
 ·simp only[ae,ay] at hrow;obtain⟨rfl,rfl,rfl⟩:=hrow;cases hr with
  |@emp a=>exact emp a 0 rfl rfl rfl
 ·rename_i id sz' n;split at hrow
  ·rename_i hsz;split at hrow
   ·rename_i b hb;split at hrow
    ·rename_i hc;simp only[ak] at hc;simp only[ae,ay] at hrow;obtain⟨rfl,rfl,rfl⟩:=hrow;cases hr with
     |@row _ _ _ c k hφ hn hc' hsh=>
      exact own id 0 n c k b hφ (by rw[hrd id (by simp)];exact hb) hc.1 (by rw[bw];exact aW hc.2) rfl (by simp) rfl
    ·cases hrow
   ·cases hrow
  ·cases hrow
 ·rename_i id off n;split at hrow
  ·rename_i b hb;split at hrow
   ·rename_i hc;simp only[ak] at hc;simp only[ae,ay] at hrow;obtain⟨rfl,rfl,rfl⟩:=hrow;cases hr with
    |@sl _ _ _ c k hφ hn hc'=>exact own id off n c k b hφ (by rw[hrd id (by simp)];exact hb) hc.1 (aW hc.2) rfl rfl rfl
   ·cases hrow
  ·cases hrow
 ·cases hrow
theorem EQ {sz:Nat} {x:AV} {src:List AV} {m:Nat} {rd:List Nat} (hrow:x.row? h sz=some (src,m,rd)) {φ:PM} {E:Nat→Prop} {h':HF} {w:World} (hrd:∀ i∈rd,h' i=h.get i) (hrep:lm φ E h' w) {v:Value} (hr:cg φ (tot E φ h') w x v) {tx el:TypeId} (hk:P.underlying tx=some (.slice el)):
 ∃ vs,Src P sz tx v m vs w∧Cs φ (tot E φ h') w src vs:=by
 obtain⟨A,c,vs,rfl,h1,h2,h3,h4⟩:=DG hrow hrd hrep hr;refine ⟨vs,?_,h1⟩;cases A with
 |none=>
  have:=h3 rfl;subst this;have hm:m*sz=0:=by simpa using h2.symm
  refine ⟨.inl ⟨el,hk⟩,fun _=>rfl,run_firstCells_none w sz m m c,run_firstCells_none w.drew sz m m c,by simp[hm],fun _ h=>by cases h⟩
 |some ad=>exact Src.ofSlice w hk ad m c vs h2 (h4 ad rfl) h1.one
theorem F7 {x:Nat}:∀ {l:List Nat},CE x l=true↔x∈l
 |[]=>by simp[CE]
 |y::r=>by
  simp only[CE,eO,F7 (l:=r),bo];constructor
  ·rintro (h|h)
   ·exact .inl (au h).symm
   ·exact .inr h
  ·rintro (h|h)
   ·subst h;exact .inl (nW x)
   ·exact .inr h
theorem Gx {t u el el':TypeId} {d x:Operand} {sz:Nat} (ho:o.op= .call {callee:=.builtin .copy,args:=#[d,x],argTypes:=#[t,u]}) (hu:P.underlying t=some (.slice el)) (hu':P.underlying u=some (.slice el')) (hs:dk P el=some sz) (ha:da (.copy sz d x) e h nx=some R):dX P o e.get h.get R.eff:=by
 simp only[da] at ha;split at ha
 ·rename_i id sz' n y hd hx;split at ha
  ·rename_i blk src m rd hblk hrow;split at ha
   ·rename_i hc;simp only[ak,beq_iff_eq,cV] at hc;obtain⟨⟨rfl,hmem⟩,hlen⟩:=hc;split at ha
    ·rename_i c' hput;simp only[ae] at ha;subst ha;unfold BC.put at hput;split at hput
     ·rename_i hcc;simp only[ak] at hcc;obtain⟨⟨c1,c2⟩,c3⟩:=hcc;have c2:=aW c2;rw[bw] at c2;have hc':c'.toMx=splice blk.c.toMx 0 (src.take (eN m n*sz'))∧c'.isCells=true:=by
       split at hput
       ·rename_i l ys hbl hys;simp only[ae] at hput;subst hput;refine ⟨?_,rfl⟩;have hv:=allF_spec hys;rw[hv,hbl];simp only[BC.toMx];unfold splice;simp[mJ,List.map_drop]
       ·simp only[ae] at hput;subst hput;exact⟨rfl,rfl⟩
      refine dX.writes hblk fun φ E h' w a hrd hb' hp hrep=>?_
      have hpd:=hp d _ (by rw[ho];simp[Op.operands,dj]) hd;have hpx:=hp x _ (by rw[ho];simp[Op.operands,dj]) hx;obtain⟨A,c,vs,hv,q1,q2,q3,q4⟩:=DG hrow (fun i hi=>hrd i (by simp[hi])) hrep hpx;generalize hz:a.eval d=pv at hpd;cases hpd with
      |@row _ _ _ cap k hφ hn hcap hsh=>
       obtain⟨arr,g1,g2,g3⟩:=hrep.cs hb' hφ c1;rw[BC.len_toMx c1] at c2;have hmn:eN m n≤m:=Nat.min_le_left _ _;have hle:eN m n*sz'≤m*sz':=bT _ hmn
       let ns:=vs.take (eN m n*sz')
       have hnl:ns.length=eN m n*sz':=by simp only[ns,cj,q2];omega
       have hsl:(src.take (eN m n*sz')).length=eN m n*sz':=by rw[cj,←q1.1,q2];omega
       have csn:=q1.take (eN m n*sz');rw[hsl] at c2;have hst:=run_storeCells_at (P:=P) k 0 blk.ty ns 0 arr w g1 (by rw[hnl];omega) csn.one
       let arr':Array Value:=(arr.toList.take 0++ns++arr.toList.drop (0+eN m n*sz')).toArray
       have hsize:arr'.size=arr.size:=by simp only[arr',qw,cq,cj,lf,ic,hnl];omega
       have hfc:(wU sz' (eN m n) (.slice A m c)).run P w= .ok ns.toArray w:=by
        cases A with
        |none=>
         have:ns=[]:=by simp[ns,q3 rfl]
         rw[this];exact run_firstCells_none w sz' _ _ _
        |some ad=>exact run_firstCells_some w sz' _ ad m c ns hnl (fun j u hu=>q4 ad rfl j u (by
          simp only[ns,cr] at hu;split at hu
          ·exact hu
          ·cases hu))
       refine ⟨.value (.int .i64 (eN m n)),w.setRow k arr',k,.cells arr' blk.ty (0,0),?_,hφ,uP.setRow g1 hsize,?_,_,.inl rfl,.f (.raw _)⟩
       ·have s1:=dN hs w;simp only[cP,hnl] at hst;unfold execOp;rw[ho];simp[resolve,invoke,builtin,Builtin.copy_,run_underlying hu,hz,hv,Builtin.lenOf,s1,hfc,hst,goInt,arr']
       ·refine mq hc'.2 (by rw[hc'.1,md (by rw[hsl];omega),hsize];exact g3) fun j q hq=>?_
        rw[hc'.1,lw (by rw[hsl];omega)] at hq;have ha':arr'[j]? =if j<0 then arr.toList[j]? else if j<0+ns.length then ns[j-0]? else arr.toList[j]? :=by
         have:=lw (l:=arr.toList) (vs:=ns) (off:=0) (by simp only[ic];omega) j;unfold splice at this;simp only[arr',iP];rw[← this,hnl]
        rw[ha',if_neg (by omega)];rw[if_neg (by omega),hsl] at hq;rw[hnl];by_cases h2:j<0+eN m n*sz'
        ·rw[if_pos h2] at hq ⊢;have hj3:j-0<ns.length:=by rw[hnl];omega
         exact⟨csn.2.1 q (bc hq),_,aw hj3,csn.2.2 _ q _ hq (aw hj3)⟩
        ·rw[if_neg h2] at hq ⊢;have hj:j<blk.c.toMx.length:=(bg.1 hq).1;have hj2:j<arr.toList.length:=by simp;omega
         refine ⟨g2.2.1 q (bc hq),arr.toList[j],aw hj2,g2.2.2 j q _ hq ?_⟩;rw[cr,if_pos hj,aw hj2]
     ·cases hput
    ·cases ha
   ·cases ha
  ·cases ha
 ·cases ha
end
theorem xk (w:World) (ob:Obj):Al w (w.drew.alloc ob) ob:=Al.drawn (w.drawn+1) (lq {w with drawn:=w.drawn+1} ob)
section
variable {P:Program} {o:Oper} {e:Env} {h:Heap} {nx:Nat} {R:rI}
theorem vm {v:Value} {z:List Value} {sz:Nat} (hv:v.cells.toList=z) (hl:z.length=sz) (n:Nat):(qB v.cells n).size=n*sz:=by
 have:v.cells.size=sz:=by rw[← hl,←hv];simp
 simp[qB,this]
theorem Ah {t u el:TypeId} {s x:Operand} {i:TypeInfo} {z:List Value} (ho:o.op= .call {callee:=.builtin .append,args:=#[s,x],argTypes:=#[t,u]}) (hu:P.underlying t=some (.slice el)) (i1:P.info? el=some i) (hz:n7 P el=some z) (hzl:z.length=i.size)
 {φ:PM} {E:Nat→Prop} {h':HF} {w:World} {a:Act} (hrep:lm φ E h' w) (hnx:φ nx=none) {A:Option Addr} {n cap m:Nat} {olds vs:List Value} {oldA src:List AV} (hsl:a.eval s= .slice A n cap)
 (hold:(wU i.size n (.slice A n cap)).run P w.drew= .ok olds.toArray w.drew) (csold:Cs φ (tot E φ h') w oldA olds) (hol:olds.length=n*i.size) (hsrc:Src P i.size u (a.eval x) m vs w) (hcs:Cs φ (tot E φ h') w src vs)
 (hg:cap<n+m) (r1:n+m≤1099511627776) (r2:(n+m)*i.bytes≤1099511627776) (del:List Nat) (hdel:∀ j∈del,j≠nx):
 o.wp P a w (fun a' w'=>∃ v φ',a'=a.put o.dst v∧eT φ φ' h' (c5 h' (nx::del) (nwGet [(nx,⟨el,ka (oldA++src)⟩)])) w w'∧(∀ i k,φ' i=some k→φ i=some k∨i∈[nx])∧
  lm φ' E (c5 h' (nx::del) (nwGet [(nx,⟨el,ka (oldA++src)⟩)])) w'∧cg φ' (tot E φ' (c5 h' (nx::del) (nwGet [(nx,⟨el,ka (oldA++src)⟩)]))) w' (.row nx i.size (n+m)) v) (fun _ _ _=>False):=by
 obtain⟨zv,z1,z2,i',i1',z3⟩:=oN hz w;rw[i1] at i1';cases i1';have hfb:=growslice_fits (need:=n+m) (old:=cap) (bytes:=i.bytes) hg (by omega);have hrun:=run_append_grow_src w t u o.type el i zv hu i1 z3 A n cap olds hold (a.eval x) m vs hsrc hg (by omega) hfb;have hgc:=grownCap_ge w (n+m) cap el;have hgm:=grownCap_le_maxLen w (n+m) cap el (by unfold maxLen;omega);generalize grownCap w (n+m) cap el=Gc at hrun hgc hgm;have cs:=csold.append hcs;have hnl:=hsrc.newsLen;obtain⟨φ',p1,p2,p3,p4⟩:=hrep.wnew hnx (xk w _) (b:=⟨el,ka (oldA++src)⟩) (ob:=.cells ((olds++vs).toArray++qB zv.cells (Gc-(n+m))) el (0,0)) (by
  obtain⟨q1,q2⟩:=iZ (oldA++src);refine mq q2 (by rw[q1,←cs.1];simp) fun j q hq=>?_
  rw[q1] at hq;have hj:j<(olds++vs).length:=by rw[cs.1];exact (bg.1 hq).1
  refine ⟨cs.2.1 q (bc hq),_,?_,cs.2.2 j q _ hq (aw hj)⟩;rw[Array.getElem?_append_left (by simpa using hj),iP,aw hj]) del (nwGet [(nx,⟨el,ka (oldA++src)⟩)]) (by simp[nwGet]) (fun j hj hne=>by
   simp only[nwGet];rw[if_neg];intro hb;exact hne (au hb).symm)
 have hexec:(execOp a.eval o).run P w= .ok (.value (.slice (some ⟨w.heap.size,0,none⟩) (n+m) Gc)) (w.drew.alloc (.cells ((olds++vs).toArray++qB zv.cells (Gc-(n+m))) el)):=by
  unfold execOp;rw[ho];simp only[resolve,invoke,builtin,cY,jL,ca,List.map_toArray,eL,List.map_nil,hsl,hrun]
 unfold uS;rw[hexec];refine ⟨_,φ',rfl,p2,p3,p4,.row p1 hgc hgm ⟨el,?_⟩⟩;have:=(xk w (.cells ((olds++vs).toArray++qB zv.cells (Gc-(n+m))) el (0,0))).at_;unfold ma;rw[this];have hzs:=vm z2 hzl (Gc-(n+m));have e1:(n+m)*i.size+(Gc-(n+m))*i.size=Gc*i.size:=by rw[← Nat.add_mul];congr 1;omega
 simp only[Array.size_append,qw,cq,hol,hnl,hzs];congr 2;rw[← e1,Nat.add_mul]
theorem Hz {t u el el':TypeId} {s x:Operand} {sz bytes:Nat} {z:List Value} (ho:o.op= .call {callee:=.builtin .append,args:=#[s,x],argTypes:=#[t,u]}) (hu:P.underlying t=some (.slice el)) (hu':P.underlying u=some (.slice el')) (hs:dk P el=some sz) (hb:ua P el=some bytes) (hz:n7 P el=some z) (hzl:z.length=sz) (hsz:sz≠0)
 (ha:da (.app el sz bytes s x) e h nx=some R):dX P o e.get h.get R.eff:=by
 obtain⟨i,i1,i2⟩:=xG hb;have i3:i.size=sz:=by unfold dk at hs;rw[i1] at hs;simpa using hs
 subst i2;subst i3;simp only[da] at ha;split at ha
 ·rename_i bv y hsv hx;split at ha
  ·rename_i src m rd hrow;have common:∀ {φ:PM} {E:Nat→Prop} {h':HF} {w:World} {a:Act},(∀ i∈rd,h' i=h.get i)→BF φ E h' w a e o→lm φ E h' w→∃ vs,Src P i.size u (a.eval x) m vs w∧Cs φ (tot E φ h') w src vs:=
    fun hrd hp hrep=>EQ hrow hrd hrep (hp x _ (by rw[ho];simp[Op.operands,dj]) hx) hu'
   have exec:∀ {w w':World} {a:Act} {v:Value},(Builtin.append_ #[t,u] o.type #[a.eval s,a.eval x]).run P w= .ok v w'→(execOp a.eval o).run P w= .ok (.value v) w':=by
    intro w w' a v hrun;unfold execOp;rw[ho];simp[resolve,invoke,builtin,hrun]
   split at ha
   ·rename_i id sz' n;split at ha
    ·rename_i blk hblk;split at ha
     ·rename_i hc;simp only[ak,beq_iff_eq,cV] at hc;obtain⟨⟨⟨⟨⟨rfl,hmem⟩,hcells⟩,hlen⟩,hty⟩,hroom⟩:=hc;have hlen:=aW hlen;rw[BC.len_toMx hcells] at hlen;obtain⟨r1,r2⟩:=vx hroom;simp only[ae] at ha;subst ha;subst hty;intro φ E h' w a h1 h2 h3 hrep h5;have hp:BF φ E h' w a e o:=fun x y hx hy=>mY hrep h3 hx hy
      have hb':h' id=some blk:=by rw[h1 id (by simp[rI.eff])];exact hblk
      obtain⟨vs,hsrc,hcs⟩:=common (fun i hi=>h1 i (by simp[rI.eff,hi])) hp hrep;have hpd:=hp s _ (by rw[ho];simp[Op.operands,dj]) hsv;have hnx:φ nx=none:=h5 nx (by simp[rI.eff]);have hwv:=hp s _ (by rw[ho];simp[Op.operands,dj]) hsv;generalize hzv:a.eval s=pv at hpd;cases hpd with
      |@row _ _ _ cap k hφ hn hcap hsh=>
       obtain⟨arr,g1,g2,g3⟩:=hrep.cs hb' hφ hcells;have hne:nx≠id:=fun e=>by rw[e,hφ] at hnx;cases hnx
       have harr:arr.size=cap*i.size:=by
        obtain⟨ty,hty⟩:=hsh;unfold ma at hty;rw[g1] at hty;simp at hty;exact hty.2
       have hnl:=hsrc.newsLen;have hnn:n*i.size≤arr.size:=by omega
       have csnew:Cs φ (tot E φ h') w (blk.c.toMx.take (n*i.size)++src) (arr.toList.take (n*i.size)++vs):=by
        have:=(g2.take (n*i.size)).append hcs
        rwa [List.take_take,ui hlen] at this
       have hnw1:nwGet [(nx,⟨blk.ty,ka (blk.c.toMx.take (n*i.size)++src)⟩)] nx=some ⟨blk.ty,ka (blk.c.toMx.take (n*i.size)++src)⟩:=by simp[nwGet]
       have hnw2:nwGet [(nx,⟨blk.ty,ka (blk.c.toMx.take (n*i.size)++src)⟩)] id=none:=by
        simp only[nwGet];rw[if_neg];intro hb;exact hne (au hb)
       by_cases hfit:n+m≤cap
       ·
        have hend:n*i.size+vs.length≤arr.size:=by
         rw[hnl,harr,←Nat.add_mul];exact bT _ hfit
        have hst:=run_storeCells_at (P:=P) k (n*i.size) blk.ty vs 0 arr w g1 (by omega) hsrc.one;simp only[cP] at hst
        let arr':Array Value:=(arr.toList.take (n*i.size)++vs++arr.toList.drop (n*i.size+vs.length)).toArray
        have hsize:arr'.size=arr.size:=by simp only[arr',qw,cq,cj,lf,ic];omega
        have hrun:(Builtin.append_ #[t,u] o.type #[a.eval s,a.eval x]).run P w= .ok (.slice (some ⟨k,0,none⟩) (n+m) cap) (w.setRow k arr'):=by
         rw[hzv];rcases hsrc.kind with ⟨e',hk⟩|hk<;>simp[Builtin.append_,run_underlying hu,run_underlying hk,sizeOf,typeInfo,i1,hsrc.len,hfit,hsrc.cells,gG,hst,arr']
        obtain⟨φ',p1,p2,p3,p4⟩:=hrep.wren hb' hφ hnx (uP.setRow g1 hsize) (b':=⟨blk.ty,ka (blk.c.toMx.take (n*i.size)++src)⟩) (by
         obtain⟨q1,q2⟩:=iZ (blk.c.toMx.take (n*i.size)++src);refine mq q2 (by rw[q1,←csnew.1,hsize];simp;omega) fun j q hq=>?_
         rw[q1] at hq;have hj:j<(arr.toList.take (n*i.size)++vs).length:=by rw[csnew.1];exact (bg.1 hq).1
         refine ⟨csnew.2.1 q (bc hq),_,?_,csnew.2.2 j q _ hq (aw hj)⟩;simp only[arr',iP];rw[bV hj,aw hj]) _ hnw1 hnw2
        unfold uS;rw[exec hrun];refine ⟨_,φ',rfl,p2,p3,p4,.row p1 hfit hcap ⟨blk.ty,?_⟩⟩;unfold ma;rw[setRow_heap w k arr arr' blk.ty (0,0) g1];simp[hsize,harr]
       ·
        have hold:(wU i.size n (.slice (some ⟨k,0,none⟩) n cap)).run P w.drew= .ok (arr.toList.take (n*i.size)).toArray w.drew:=by
         refine run_firstCells_some w.drew i.size n _ n cap _ (by simp;omega) fun j v hv=>?_
         rw[cr] at hv;split at hv
         ·rw[b8] at hv;rw[gG,bw];have hcl:w.cell? ⟨k,j,none⟩=some v:=by simp[xP,g1,hv]
          simpa using hcl
         ·cases hv
        exact Ah ho hu i1 hz hzl hrep hnx hzv hold (by
         have:=g2.take (n*i.size)
         rwa [List.take_take,ui hlen] at this) (by simp;omega) hsrc hcs (by omega) r1 r2 [id] (fun j hj=>by simp at hj;subst hj;exact fun e=>hne e.symm)
     ·cases ha
    ·cases ha
   ·split at ha
    ·rename_i hc;simp only[ak] at hc;obtain⟨hb0,hroom⟩:=hc;obtain⟨r1,r2⟩:=vx hroom;have hbase:∀ {φ:PM} {O:Nat→Prop} {w:World} {v:Value},cg φ O w bv v→∃ A,v= .slice A 0 0:=by
      intro φ O w v hr;unfold isEmpB at hb0;split at hb0
      ·cases hr;exact⟨_,rfl⟩
      ·rename_i q;cases dl hr;unfold isNilSl at hb0;split at hb0
       ·exact⟨_,rfl⟩
       ·cases hb0
      ·cases hb0
     split at ha
     ·rename_i hm;have hm:m=0:=by simpa using hm
      subst hm;simp only[ae] at ha;subst ha;refine dX.reads fun φ E h' w a hrd hp hrep=>?_
      obtain⟨vs,hsrc,hcs⟩:=common hrd hp hrep;have hr:=hp s _ (by rw[ho];simp[Op.operands,dj]) hsv;obtain⟨A,hA⟩:=hbase hr;refine ⟨a.eval s,exec ?_,hr⟩;rw[hA];have hvs:vs=[]:=by have:=hsrc.newsLen;simpa using this
      have hc0:=hsrc.cells;rw[hvs] at hc0;rcases hsrc.kind with ⟨e',hk⟩|hk<;>cases A<;>simp[Builtin.append_,run_underlying hu,run_underlying hk,sizeOf,typeInfo,i1,hsrc.len,hc0,storeCells]
     ·rename_i hm;have hm:m≠0:=by simpa using hm
      simp only[ae] at ha;subst ha;intro φ E h' w a h1 h2 h3 hrep h5;have hp:BF φ E h' w a e o:=fun x y hx hy=>mY hrep h3 hx hy
      obtain⟨vs,hsrc,hcs⟩:=common (fun i hi=>h1 i hi) hp hrep;obtain⟨A,hA⟩:=hbase (hp s _ (by rw[ho];simp[Op.operands,dj]) hsv);have hold:(wU i.size 0 (.slice A 0 0)).run P w.drew= .ok ([]:List Value).toArray w.drew:=by
       cases A with
       |none=>exact run_firstCells_none w.drew i.size 0 0 0
       |some ad=>exact run_firstCells_some w.drew i.size 0 ad 0 0 [] (by simp) (by intro j v hv;simp at hv)
      have:=Ah (nx:=nx) (n:=0) (cap:=0) (olds:=[]) (oldA:=[]) ho hu i1 hz hzl hrep (h5 nx (by simp[rI.eff])) hA hold ⟨rfl,(by intro x hx;cases hx),(by intro j x v hx;simp at hx)⟩ (by simp) hsrc hcs (by omega) (by omega) (by simpa using r2) [] (by simp);simpa[rI.eff] using this
    ·cases ha
  ·cases ha
 ·cases ha
end
end Go.Proofs.YtecomllighcieaaGreatDoor.AI
