/-
  Texts of the proof, part 4 of 5: what is used to prove the statement. No condition.
-/
import Derived.Test.YtcmnmakaoonfgaaGreatDoorWeakClosesQ2
import Derived.Defers
namespace Go.Proofs.YtcmnmakaoonfgaaGreatDoor.AI
open Go.RowKit
set_option maxRecDepth 100000
set_option maxHeartbeats 4000000
set_option linter.unusedVariables false
set_option linter.unusedSimpArgs false
set_option linter.defProp false
open _root_.Array renaming getElem?_modify→uw,getElem?_push→xI
open _root_.Bool renaming true→J,false→aa,false_or→EC
open Call renaming operands→dI
open ForInStep renaming yield→yU
open Instr renaming findAsking→c_,findNow→dP,sameBits→jC,findKey→lU,checkKey→ms,mapUpdate→yT,sameNow→EB,lookup→J2
open _root_.Int renaming ofNat→aP,toNat→aQ
open _root_.List renaming length→l!,length→ah,replicate→aF,length_cons→bK,take→dF,map→fP,cons_append→gG,range→iR,toArray→jI,replicate_succ→kR,nil_append→kV,length_nil→kW,getElem?_cons_succ→mG,map_drop→uc,map_nil→wJ,take_succ_cons→xF,flatMap_append→xG,ext_getElem?→Cb
open _root_.Nat renaming beq→aA,testBit→aK,add_zero→cX,ble→dK,blt→ef,min→jH,mul_assoc→Ez,mul_one→Gx
open _root_.Option renaming some→Z,none→U,bind_some→aB,map_some→bm,map→ii
open _root_.Prod renaming ext→oS
open Result renaming andThen_ok→cM
open Sem renaming run_bind→ec,run→hZ
open Value.bool renaming injEq→Ep
open World renaming cell?→Qm
noncomputable section
section
variable {P:Program} {o:Oper} {e:Dx} {h:mY} {nx:Nat} {R:Cv}
def KW {t:TypeId} {d:TypeDesc} (A:P.underlying t=Z d) (hd:(match d with|.int _=>J|.bool=>J|.string=>J|_=>aa)=J) (cs:Array Value) (j:Nat) (v:Value) (z:cs[j]? =Z v) (w:World):(part t cs j).run P w= .ok v w:=by
 unfold part;simp only[isAgg,ec,run_underlying A,cM];cases d<;>simp at hd<;>simp[z]
variable {b:Bool} {v:Value}
def abg {t:TypeId} {d:TypeDesc} (z:P.underlying t=Z d) (hd:(match d with|.int _=>J|.bool=>J|.string=>J|_=>aa)=J) {x y:FV} (hxy:vY d x y=Z b) {u:Value} (L:x= .raw u) (D:y= .raw v) (n:Nat) (w:World):(Op.equalIn (n+1) t u v).run P w= .ok b w:=by
 subst L D;cases d<;>simp at hd<;>cases u<;>cases v<;>simp only[vY]at hxy<;>first|(cases hxy;done)|skip
 .cases hxy;simp[Op.equalIn,run_underlying z]
 .split at hxy
  .rename_i N;have A:=eq_of_beq N;subst A;cases hxy;simp[Op.equalIn,run_underlying z]
  .cases hxy
 .cases hxy;simp[Op.equalIn,run_underlying z,Cr]
abbrev Mf (n:Nat) (xs z:Array Value) (f:Field) (_:M Bool×Unit):Sem (ForInStep (M Bool×Unit)):=
 if f.name≠ "_" then do
  let a←part f.type xs f.offset
  let b←part f.type z f.offset
  let c←Op.equalIn (n+1) f.type a b
  if (!c)=J then pure (ForInStep.done (Z aa,())) else pure (yU (U,()))
 else pure (yU (U,()))
def PI (n:Nat) (w:World) (xs A:Array Value):∀(fs:Y Field) (ds:Y TypeDesc) (a b:Y FV) (k:Nat) (r:Bool),lV P k fs=Z ds->
 (∀(j:Nat) x u,a[j]? =Z x->xs[k+j]? =Z u->x= .raw u\/∀v,x≠ .raw v)->(∀(j:Nat) x u,b[j]? =Z x->A[k+j]? =Z u->x= .raw u\/∀v,x≠ .raw v)->(∀(j:Nat),j<l! a->k+j<xs.size)->(∀(j:Nat),j<l! b->k+j<A.size)->jM ds a b=Z r->
 (forIn fs (U,()) (Mf n xs A)).run P w= .ok (if r then (U,()) else (Z aa,())) w
 |[],ds,a,b,k,r,hp,_,_,_,_,he=>by
  simp only[lV,af]at hp;subst hp;cases a<;>cases b<;>simp[jM]at he;subst he;simp
 |f::fs,ds,a,b,k,r,hp,ha,hb,hla,hlb,he=>by
  simp only[lV]at hp;split at hp
  .rename_i d ds' hu hp';split at hp
   .rename_i hc;simp only[ak,bne_iff_ne,ne_eq,cG]at hc;obtain⟨⟨hn,hof⟩,hd⟩:=hc;cases hp;cases a with
    |nil=>cases b<;>simp[jM]at he
    |cons x a=>
     cases b with
     |nil=>simp[jM]at he
     |cons y b=>
      simp only[jM]at he;have N:k<xs.size:=by have:=hla 0 (by simp);omega
      have L:k<A.size:=by have:=hlb 0 (by simp);omega
      have hraw:∀(z:FV) (q:Value),(z= .raw q\/∀v,z≠ .raw v)->(∃v,z= .raw v)->z= .raw q:=by
       rintro z q (h|h) ⟨v,hv⟩
       .exact h
       .exact co hv (h v)
      have hxr:∀D,vY d x y=Z D->x= .raw xs[k]/\y= .raw A[k]:=by
       intro D hbb;have hrr:(∃v,x= .raw v)/\∃v,y= .raw v:=by
        unfold vY at hbb;split at hbb
        .exact⟨⟨_,rfl⟩,⟨_,rfl⟩⟩
        .exact⟨⟨_,rfl⟩,⟨_,rfl⟩⟩
        .exact⟨⟨_,rfl⟩,⟨_,rfl⟩⟩
        .cases hbb
       exact⟨hraw x _ (ha 0 x _ rfl (by simp[N])) hrr.1,hraw y _ (hb 0 y _ rfl (by simp[L])) hrr.2⟩
      have hstep:∀D,vY d x y=Z D->(Mf n xs A f (U,())).run P w= .ok (if D then yU (U,()) else ForInStep.done (Z aa,())) w:=by
       intro D hbb;obtain⟨h1,h2⟩:=hxr D hbb;have p1:=KW hu (by cases d<;>simp[DI]at hd<;>rfl) xs k xs[k] (by simp[N]) w;have p2:=KW hu (by cases d<;>simp[DI]at hd<;>rfl) A k A[k] (by simp[L]) w;have p3:=abg hu (by cases d<;>simp[DI]at hd<;>rfl) hbb h1 h2 n w;unfold Mf;rw[aC hn,hof];simp only[ec,p1,p2,p3,cM];cases D<;>simp
      rw[List.forIn_cons];simp only[ec];split at he
      .rename_i hbb;rw[hstep J hbb];simp only[cM,bk];exact PI n w xs A fs ds' a b (k+1) r hp' (λj x u h1 h2=>ha (j+1) x u (by simpa using h1) (by rw[<- h2];congr 1;omega)) (λj x u h1 h2=>hb (j+1) x u (by simpa using h1) (by rw[<- h2];congr 1;omega))
        (λj hj=>by have:=hla (j+1) (by simpa using hj);omega) (λj hj=>by have:=hlb (j+1) (by simpa using hj);omega) he
      .rename_i hbb;rw[hstep aa hbb];cases he;simp
      .cases he
   .cases hp
  .cases hp
variable {K:Array Field} {E:Y TypeDesc}
def PH {t:TypeId} (L:P.underlying t=Z (.struct K)) (N:P.stoodInHeld t=aa) (hp:lV P 0 K.toList=Z E) (xs z:Array Value) {a r:Y FV} 
 (ha:∀(j:Nat) x u,a[j]? =Z x->xs[j]? =Z u->x= .raw u\/∀v,x≠ .raw v) (hb:∀(j:Nat) x u,r[j]? =Z x->z[j]? =Z u->x= .raw u\/∀v,x≠ .raw v) (hla:l! a=xs.size) (hlb:l! r=z.size) (he:jM E a r=Z b) (w:World):
 (Op.equal t (.agg xs) (.agg z)).run P w= .ok b w:=by
 have key:∀n,(Op.equalIn (n+2) t (.agg xs) (.agg z)).run P w= .ok b w:=by
  intro n;rw[Op.equalIn];have h1:=PI (P:=P) n w xs z K.toList E a r 0 b hp (λj x u h1 A=>ha j x u h1 (by simpa using A)) (λj x u h1 A=>hb j x u h1 (by simpa using A)) (λj hj=>by omega) (λj hj=>by omega) he;rw[Array.forIn_toList]at h1;simp only[ec,run_underlying L,cM,program,hZ,N,bY,c7];have A:(forIn K (U,()) (λf __s=>Mf n xs z f __s)).run P w= .ok (if b then (U,()) else (Z aa,())) w:=h1;unfold Mf at A;rw[A];cases b<;>simp
 exact key 9998
def UP {t:TypeId} (hu:P.underlying t=Z (.struct K)) (hp:lV P 0 K.toList=Z E):P.eqGuardType P.depth t=aa:=by
 have key:∀(K:Y Field) (k:Nat) (E:Y TypeDesc),lV P k K=Z E→∀d,(K.any λf=>f.name != "_" &&P.eqGuardType (d+1) f.type)=aa:=by
  intro K;induction K with
  |nil=>intros;rfl
  |cons f K N=>
   intro k E hp d;simp only[lV]at hp;split at hp
   .rename_i dd ds' A D;split at hp
    .rename_i L;simp only[ak]at L;have:P.eqGuardType (d+1) f.type=aa:=by
      unfold Program.eqGuardType;rw[A];have:=L.2;cases dd<;>simp[DI]at this<;>rfl
     simp only[List.any_cons,this,Bool.and_false,EC];exact N (k+1) ds' D d
    .cases hp
   .cases hp
 unfold Program.depth Program.eqGuardType;rw[hu];simp only[];rw[← Array.any_toList];exact key K.toList 0 E hp _
variable {z:TypeId} {s:Operand}
def aml {t:TypeId} {op:BinOp} {neg:Bool} {y:Operand} (ho:o.op= .binOp op t s y z) (hop:op=if neg then .neq else .eql) (A:P.underlying t=Z (.struct K)) (hs:P.stoodInHeld t=aa) (hp:lV P 0 K.toList=Z E) (t':dx (.jm neg E s y) e h nx=Z R):gh P o e.get h.get R.eff:=by
 simp only[dx]at t';split at t'
 .rename_i a b L hy;split at t'
  .rename_i r hr;rw[dt t'];refine gh.reads λφ ds h' w ac _ hpp _=>?_
   have h1:=hpp s _ (by rw[ho];simp[Op.operands]) L;have D:=hpp y _ (by rw[ho];simp[Op.operands]) hy;generalize hzx:ac.eval s=zx at h1;generalize hzy:ac.eval y=zy at D;have rawOr:∀(l:Y FV) (vs:ξ),(∀(j:Nat) s v,l[j]? =Z s->vs[j]? =Z v->mX (tot ds φ h') w s v)->∀(j:Nat) s u,l[j]? =Z s->vs.toArray[j]? =Z u->s= .raw u\/∀v,s≠ .raw v:=by
    intro l vs hr j s u L A;have:=hr j s u L (by simpa using A);cases this with
    |raw v=>exact .inl rfl
    |_=>exact .inr (by simp)
   cases h1 with
   |f h1=>
    cases h1 with
    |agg _ vs hl hcl hr1=>
     cases D with
     |f D=>
      cases D with
      |agg _ us hl' hcl' N=>
       have heq:=PH A hs hp vs.toArray us.toArray (rawOr a vs hr1) (rawOr b us N) (by simp[hl]) (by simp[hl']) hr w;refine ⟨_,?_,.f (.raw _)⟩;have hg:=UP A hp;unfold execOp;rw[ho];simp only[hzx,hzy];subst hop;cases neg<;>simp[eqGuard,program,hZ,hg,binOp,heq]
  .cases t'
 .cases t'
end
section
variable {P:Program} {o:Oper} {e:Dx} {h:mY} {nx:Nat} {R:Cv}
def GL:∀{l:Y FV} {vs:ξ},H9 l=Z vs->l=vs.map .raw
 |[],vs,h=>by simp only[H9,af]at h;subst h;rfl
 |x::r,vs,h=>by
  cases x with
  |raw v=>
   simp only[H9]at h;split at h
   .rename_i l z;cases h;rw[bZ,<-GL z]
   .cases h
  |_=>simp[H9]at h
variable {O:Nat->Prop} {v:Value}
def aed {w:World} {u:Value} (h:mX O w (.raw v) u):u=v:=by cases h;rfl
variable {N:ξ}
def Tj {w:World} {vs:ξ} (z:l! vs=l! N) (L:∀(j:Nat) x v,(N.map FV.raw)[j]? =Z x->vs[j]? =Z v->mX O w x v):vs=N:=by
 apply Cb;intro j;rcases bx j (l! N) with A|A
 .have h1:(N.map FV.raw)[j]? =Z (.raw N[j]):=by simp[A]
  have D:vs[j]? =Z (vs[j]'(by omega)):=aD (by omega);have:=L j _ _ h1 D;rw[D,aD A,aed this]
 .rw[bJ (by omega),bJ A]
variable {y:AV} {V:PM}
def Ls {w:World} (z:aao y=Z N) (D:cq V O w y v):v= .agg N.toArray:=by
 cases D with
 |f D=>
  cases D with
  |agg cells vs L hcl hrr=>
   have:=GL (show H9 cells=Z N from z);subst this;rw[Tj (by simpa using L) hrr]
  |_=>simp[aao]at z
 |@agg cells vs L hcl hrr=>
  simp only[aao]at z;split at z
  .rename_i fs hfs;have:=GL z;subst this;have:=nI hfs;subst this;have key:vs=N:=Tj (O:=O) (w:=w) (by simpa using L) λj x u A hu=>by
    have:=hrr j (.f x) u (by rw[aT,A];rfl) hu;cases this with
    |f h=>exact h
   rw[key]
  .cases z
 |_=>simp[aao]at z
structure Dv (P:Program) (kt:TypeId) (fs:Array Field) (ds:List TypeDesc):Prop where
 hu:P.underlying kt=Z (.struct fs)
 hs:P.stoodInHeld kt=aa
 hp:lV P 0 fs.toList=Z ds
variable {z:TypeId} {E:Y TypeDesc}
def GV (h:DH P z=Z E):∃A,Dv P z A E:=by
 unfold DH at h;split at h
 .rename_i A D;split at h
  .cases h
  .rename_i hst;exact⟨A,D,by simpa using hst,h⟩
 .cases h
variable {b:Bool} {K:Array Field}
def rk (fs:Dv P z K E) {A:Value} (D:C5 E N A=Z b) (w:World):(Op.equal z (.agg N.toArray) A).run P w= .ok b w:=by
 unfold C5 at D;split at D
 .rename_i ws;refine PH fs.hu fs.hs fs.hp N.toArray ws (λj x u L hu=>?_) (λj x u L hu=>?_) (by simp) (by simp) D w
  .rw[aT]at L;have hu:N[j]? =Z u:=by simpa using hu
   rw[hu]at L;cases L;exact .inl rfl
  .rw[aT,bE,hu]at L;cases L;exact .inl rfl
 .cases D
abbrev M8 (z:Bool) (n:Nat) (cs:Array Value) (f:Field) (_:Unit):Sem (ForInStep Unit):=
 if f.name≠ "_" then do
  let a←part f.type cs f.offset
  ms z (n+1) f.type a
  pure (yU ())
 else pure (yU ())
def P' (A:Bool) (n:Nat) (w:World) (cs:Array Value):∀(z:Y Field) (ds:Y TypeDesc) (k:Nat),lV P k z=Z ds->k+l! z<=cs.size->
 (forIn z () (M8 A n cs)).run P w= .ok () w
 |[],ds,k,hp,_=>by simp
 |f::z,ds,k,hp,hk=>by
  simp only[lV]at hp;split at hp
  .rename_i d ds' L D;split at hp
   .rename_i N;simp only[ak,bne_iff_ne,ne_eq,cG]at N;obtain⟨⟨hn,hof⟩,hd⟩:=N;simp only[bK]at hk;have p1:=KW L (by cases d<;>simp[DI]at hd<;>rfl) cs k (cs[k]'(by omega)) (by simp[show k<cs.size by omega]) w;have p2:(ms A (n+1) f.type (cs[k]'(by omega))).run P w= .ok () w:=by
     cases d<;>simp[DI]at hd<;>simp[ms,run_underlying L]
    have ih:=P' A n w cs z ds' (k+1) D (by omega);have hstep:(M8 A n cs f ()).run P w= .ok (yU ()) w:=by
     unfold M8;rw[aC hn,hof];simp[p1,p2]
    rw[List.forIn_cons];simp only[ec,hstep,cM];exact ih
   .cases hp
  .cases hp
def Ys {D:Array Field} (K:Dv P z D E) (A:Bool) {cs:Array Value} (N:l! D.toList<=cs.size) (w:World):(ms A 10000 z (.agg cs)).run P w= .ok () w:=by
 have key:∀n,(ms A (n+2) z (.agg cs)).run P w= .ok () w:=by
  intro n;rw[ms];have h1:=P' (P:=P) A n w cs D.toList E 0 K.hp (by omega);rw[Array.forIn_toList]at h1;simp only[ec,run_underlying K.hu,cM];have L:(forIn D () λf s=>M8 A n cs f s).run P w= .ok () w:=h1;unfold M8 at L;rw[L];rfl
 exact key 9998
variable {i:Nat}
def L7 {m:MapEntry} {r:Y MapEntry} :dP (.struct K) v (m::r) i=U:=by
 simp only[dP];have:EB (.struct K) v m.key=U:=by unfold EB;rfl
 rw[this]
def Bw (A:Dv P z K E) (k:Value) (ents:Y MapEntry) (w:World):(lU z k ents).run P w=(c_ z k ents).run P w:=by
 cases ents with
 |nil=>simp[lU,run_underlying A.hu,dP,c_]
 |cons m r=>simp[lU,run_underlying A.hu,L7]
def UG (fs:Dv P z K E) (w:World):∀(es:Y j!) (ents:Y MapEntry) (i:Nat),ents.map (·.key)=es.map (·.1)->∀r,H7 E N es=Z r->
 (r=U/\(c_ z (.agg N.toArray) ents i).run P w= .ok U w)\/∃(j:Nat) (v:AV) (m:MapEntry) (L:Value),r=Z v/\es[j]? =Z (L,v)/\ents[j]? =Z m/\(c_ z (.agg N.toArray) ents i).run P w= .ok (Z (i+j,m.val)) w
 |[],ents,i,he,r,h=>by
  cases ents with
  |nil=>simp only[H7,af]at h;exact .inl ⟨h.symm,by simp[c_]⟩
  |cons _ _=>simp at he
 |(L,v)::es,ents,i,he,r,h=>by
  cases ents with
  |nil=>simp at he
  |cons m ents=>
   simp only[bZ,fk]at he;obtain⟨D,he2⟩:=he;simp only[H7]at h;split at h
   .rename_i A;simp only[af]at h;refine .inr ⟨0,v,m,L,h.symm,rfl,rfl,?_⟩;rw[c_,D];simp[rk fs A w]
   .rename_i A;rcases UG fs w es ents (i+1) he2 r h with ⟨h1,h2⟩|⟨j,v',m',k'',h1,h2,h3,h4⟩
    .refine .inl ⟨h1,?_⟩;rw[c_,D];simp[rk fs A w,h2]
    .refine .inr ⟨j+1,v',m',k'',h1,by simpa using h2,by simpa using h3,?_⟩;rw[c_,D];simp[rk fs A w,h4];omega
   .cases h
def S8 (fs:Dv P z K E) (w:World):∀(es es':Y j!) (ents:Y MapEntry) (i:Nat),ents.map (·.key)=es.map (·.1)->WZ E N y es=Z es'->
 ((c_ z (.agg N.toArray) ents i).run P w= .ok U w/\es'=es++[(.agg N.toArray,y)])\/∃(j:Nat) (m:MapEntry) (L:Value) (A:AV),es[j]? =Z (L,A)/\ents[j]? =Z m/\(c_ z (.agg N.toArray) ents i).run P w= .ok (Z (i+j,m.val)) w/\C5 E N L=Z J/\es'=es.set j (.agg N.toArray,y)
 |[],es',ents,i,he,h=>by
  cases ents with
  |nil=>simp only[WZ,af]at h;exact .inl ⟨by simp[c_],by simp[h]⟩
  |cons _ _=>simp at he
 |(L,A)::es,es',ents,i,he,h=>by
  cases ents with
  |nil=>simp at he
  |cons m ents=>
   simp only[bZ,fk]at he;obtain⟨kt,he2⟩:=he;simp only[WZ]at h;split at h
   .rename_i D;simp only[af]at h;refine .inr ⟨0,m,L,A,rfl,rfl,?_,D,by simp[h]⟩;rw[c_,kt];simp[rk fs D w]
   .rename_i D;split at h
    .rename_i es2 hes2;cases h;rcases S8 fs w es es2 ents (i+1) he2 hes2 with ⟨h1,h2⟩|⟨j,m',k'',v'',h1,h2,h3,h4,h5⟩
     .refine .inl ⟨?_,by simp[h2]⟩;rw[c_,kt];simp[rk fs D w,h1]
     .refine .inr ⟨j+1,m',k'',v'',by simpa using h1,by simpa using h2,?_,h4,by simp[h5]⟩;rw[c_,kt];simp[rk fs D w,h3];omega
    .cases h
   .cases h
def S_ (fs:Dv P z K E) (w:World):∀(es es':Y j!) (ents:Y MapEntry) (i:Nat),ents.map (·.key)=es.map (·.1)->W1 E N es=Z es'->
 ((c_ z (.agg N.toArray) ents i).run P w= .ok U w/\es'=es)\/∃(j:Nat) (m:MapEntry),j<l! es/\ents[j]? =Z m/\(c_ z (.agg N.toArray) ents i).run P w= .ok (Z (i+j,m.val)) w/\es'=es.eraseIdx j
 |[],es',ents,i,he,h=>by
  cases ents with
  |nil=>simp only[W1,af]at h;exact .inl ⟨by simp[c_],h.symm⟩
  |cons _ _=>simp at he
 |(k',v')::es,es',ents,i,he,h=>by
  cases ents with
  |nil=>simp at he
  |cons m ents=>
   simp only[bZ,fk]at he;obtain⟨D,L⟩:=he;simp only[W1]at h;split at h
   .rename_i A;simp only[af]at h;refine .inr ⟨0,m,by simp,rfl,?_,by simp[h]⟩;rw[c_,D];simp[rk fs A w]
   .rename_i A;split at h
    .rename_i es2 hes2;cases h;rcases S_ fs w es es2 ents (i+1) L hes2 with ⟨h1,h2⟩|⟨j,m',h1,h2,h3,h5⟩
     .refine .inl ⟨?_,by simp[h2]⟩;rw[c_,D];simp[rk fs A w,h1]
     .refine .inr ⟨j+1,m',by simp;omega,by simpa using h2,?_,by simp[h5]⟩;rw[c_,D];simp[rk fs A w,h3];omega
    .cases h
   .cases h
def Me:∀{ds:Y TypeDesc} {L A:ξ},jM ds (L.map .raw) (A.map .raw)=Z J->L=A/\∀x∈L,∀n,jC n x x=J
 |[],[],[],_=>⟨rfl,λx D=>by cases D⟩
 |[],[],_::_,h|[],_::_,A,h|_::_,[],A,h|_::_,_::_,[],h=>by simp[jM]at h
 |d::ds,k::L,v::A,h=>by
  simp only[bZ,jM]at h;split at h
  .rename_i z;obtain⟨e1,e2⟩:=Me h;have key:k=v/\∀n,jC n k k=J:=by
    cases d<;>cases k<;>cases v<;>simp only[vY]at z<;>first|(cases z;done)|skip
    .simp only[af,cG]at z;subst z;exact⟨rfl,λn=>by cases n<;>simp[jC]⟩
    .split at z
     .rename_i N;have N:=eq_of_beq N;simp only[af,cG]at z;subst z N;exact⟨rfl,λn=>by cases n<;>simp[jC]⟩
     .cases z
    .simp only[af]at z;have:=w_.1 z;subst this;exact⟨rfl,λn=>by cases n<;>simp[jC,Cr,z]⟩
   refine ⟨by rw[key.1,e1],λx D n=>?_⟩;rcases aZ.1 D with rfl|D
   .exact key.2 n
   .exact e2 x D n
  .cases h
  .cases h
def ae6 (h:C5 E N v=Z J):v= .agg N.toArray/\jC 10000 (.agg N.toArray) (.agg N.toArray)=J:=by
 unfold C5 at h;split at h
 .rename_i ws;obtain⟨e1,e2⟩:=Me h;refine ⟨by rw[e1],?_⟩;rw[jC];simp only[cm,eh,gH];rintro⟨x,y⟩ hxy;have L:x=y/\x∈N:=by
   rw[List.mem_iff_getElem?]at hxy;obtain⟨j,A⟩:=hxy;rw[List.getElem?_zip_eq_some]at A;have h1:N[j]? =Z x:=by simpa using A.1
   have z:N[j]? =Z y:=by simpa using A.2
   rw[h1]at z;cases z;exact⟨rfl,aX h1⟩
  rw[<- L.1];exact e2 x L.2 _
 .cases h
def XU {t:TypeId} (D:P.underlying t=Z (.pointer z)) (A:M Addr) (w:World):(Op.equal t (.pointer A) (.pointer U)).run P w= .ok A.isNone w:=by
 have key:∀d,(Op.equalIn (d+1) t (.pointer A) (.pointer U)).run P w= .ok A.isNone w:=λd=>by cases A<;>simp[Op.equalIn,run_underlying D]
 exact key 9999
variable {s:Operand}
def ah5 {neg:Bool} {op:BinOp} {y:Operand} {t el:TypeId} (N:o.op= .binOp op t s y z) (hop:op=if neg then .neq else .eql) (hy:y= .const (.pointer U)) (hu:P.underlying t=Z (.pointer el)) (D:dx (.zl neg s) e h nx=Z R):gh P o e.get h.get R.eff:=by
 have key:∀(w:World) (ρ:Operand->Value) (A:M Addr),ρ s= .pointer A->ρ y= .pointer U->(execOp ρ o).run P w= .ok (.value (.bool (A.isNone !=neg))) w:=by
  intro w ρ A h1 h2;unfold execOp;rw[N];simp only[h1,h2];subst hop;cases neg<;>simp[eqGuard,binOp,XU hu]
 have hyv:∀a:Act,a.eval y= .pointer U:=λa=>by rw[hy];rfl
 simp only[dx]at D;split at D
 .rename_i id off L;rw[dt D];refine gh.reads λφ E h' w a _ hp _=>?_
  have h1:=hp s _ (by rw[N];simp[Op.operands]) L;generalize hz:a.eval s=t' at h1;cases h1 with
  |H hφ=>exact⟨_,key w a.eval _ hz (hyv a),by simpa[raw] using cq.f (.raw _)⟩
 .rename_i cells off L;rw[dt D];refine gh.reads λφ E h' w a _ hp _=>?_
  have h1:=hp s _ (by rw[N];simp[Op.operands]) L;generalize hz:a.eval s=t' at h1;cases h1 with
  |f h1=>
   cases h1 with
   |H=>exact⟨_,key w a.eval _ hz (hyv a),by simpa[raw] using cq.f (.raw _)⟩
 .rename_i L;rw[dt D];refine gh.reads λφ E h' w a _ hp _=>?_
  have h1:=e9 (hp s _ (by rw[N];simp[Op.operands]) L);exact⟨_,key w a.eval _ h1 (hyv a),by simpa[raw] using cq.f (.raw _)⟩
 .cases D
def rn:∀{A:Y Field} {k:Nat} {ds:Y TypeDesc},lV P k A=Z ds->l! ds=l! A
 |[],k,ds,h=>by simp only[lV,af]at h;subst h;rfl
 |f::A,k,ds,h=>by
  simp only[lV]at h;split at h
  .rename_i d ds' _ z;split at h
   .cases h;rw[bK,rn z,bK]
   .cases h
  .cases h
def Xn {y:M AV} (h:y.bind (Xo E)=Z N):∃v,y=Z v/\aao v=Z N/\l! N=l! E:=by
 cases y with
 |none=>cases h
 |some v=>
  have h:Xo E v=Z N:=h;unfold Xo at h;split at h
  .rename_i l A;split at h
   .rename_i D;cases h;exact⟨v,rfl,A,eq_of_beq D⟩
   .cases h
  .cases h
def ary {t el:TypeId} {k:Operand} {kt:Value} (ho:o.op= .lookup t s k aa) (hu:P.underlying t=Z (.map z el)) (fs:Dv P z K E) (N:(P.info? el).bind (·.zero)=Z kt) (A:dx (.xz E kt s k) e h nx=Z R):gh P o e.get h.get R.eff:=by
 simp only[dx]at A;split at A
 .rename_i id ks hx hkx;obtain⟨yk,hkx,hkl,hkn⟩:=Xn hkx;split at A
  .rename_i es hid;have zrun:∀w:World,(zeroValue el).run P w= .ok kt w:=λw=>by
    cases hi:P.info? el with
    |none=>rw[hi]at N;cases N
    |some i=>rw[hi]at N;simp only[aB]at N;simp[zeroValue,typeInfo,hi,N]
   have main:∀r,H7 E ks es=Z r->∀(φ:PM) (ds:Nat->Prop) (h':HF) (w:World) (a:Act),h' id=Z ⟨0,.mp es⟩->WA φ ds h' w a e o->r_ φ ds h' w->
    ∃v,(execOp a.eval o).run P w= .ok (.value v) w/\cq φ (tot ds φ h') w (match r with|some v=>v|none=>raw kt) v:=by
    intro r hr φ ds h' w a hb' hp hrep;have hrx:=hp s _ (by rw[ho];simp[Op.operands]) hx;have hrk:=Ls hkl (hp k _ (by rw[ho];simp[Op.operands]) hkx);generalize L:a.eval s=zz at hrx;cases hrx with
    |@mp _ b hφ=>
     obtain⟨k',q1,_,ob,q2,q3⟩:=hrep.at_ id _ hb';rw[hφ]at q1;cases q1;obtain⟨ents,clock,rfl,q4,q5⟩:=q3;have q4:ents.toList.map (·.key)=es.map (·.1):=by unfold Qg at q4;rw[aC rfl]at q4;exact q4
     have hlen:l! K.toList<=ks.toArray.size:=by have:=rn fs.hp;simp only[kM];omega
     have hck:=Ys fs ents.isEmpty hlen w;have hfk:=Bw (P:=P) fs (.agg ks.toArray) ents.toList w;rcases UG fs w es ents.toList 0 q4 r hr with ⟨h1,h2⟩|⟨j,v,m,k',h1,h2,h3,h4⟩
     .subst h1;rw[h2]at hfk;refine ⟨_,?_,.f (.raw kt)⟩;unfold execOp;rw[ho];simp[J2,run_underlying hu,L,hrk,getObj,hZ,q2,hck,hfk,zrun]
     .subst h1;rw[h4]at hfk;obtain⟨_,D,h7⟩:=q5 j _ h2;unfold MpV at D;rw[aC rfl]at D;obtain⟨m',D,rfl⟩:=D;rw[bE]at h3;rw[h3]at D;cases D;refine ⟨_,?_,h7⟩;unfold execOp;rw[ho];simp[J2,run_underlying hu,L,hrk,getObj,hZ,q2,hck,hfk]
   split at A
   .rename_i v hf;cases A;exact gh.reads λφ ds h' w a hrd hp hrep=>main _ hf φ ds h' w a (by rw[hrd id (by simp)];exact hid) hp hrep
   .rename_i hf;cases A;exact gh.reads λφ ds h' w a hrd hp hrep=>main _ hf φ ds h' w a (by rw[hrd id (by simp)];exact hid) hp hrep
   .cases A
  .cases A
 .cases A
def art {t el:TypeId} {k y:Operand} (ho:o.op= .mapUpdate t s k y) (hu:P.underlying t=Z (.map z el)) (fs:Dv P z K E) (A:dx (.xq E s k y) e h nx=Z R):gh P o e.get h.get R.eff:=by
 simp only[dx]at A;split at A
 .rename_i id L v hx hkx hy;obtain⟨yk,hkx,hkl,hkn⟩:=Xn hkx;split at A
  .rename_i es hid;split at A
   .rename_i es' hput;cases A;refine gh.writes hid λφ ds h' w a hrd hb' hp hrep=>?_
    have hrx:=hp s _ (by rw[ho];simp[Op.operands]) hx;have hrk:=Ls hkl (hp k _ (by rw[ho];simp[Op.operands]) hkx);have hry:=hp y _ (by rw[ho];simp[Op.operands]) hy;generalize hz':a.eval s=zz at hrx;cases hrx with
    |@mp _ b hφ=>
     obtain⟨k',q1,_,ob,q2,q3⟩:=hrep.at_ id _ hb';rw[hφ]at q1;cases q1;obtain⟨ents,clock,rfl,q4,q5⟩:=q3;have q4:ents.toList.map (·.key)=es.map (·.1):=by unfold Qg at q4;rw[aC rfl]at q4;exact q4
     have q5:∀(j:Nat) s,es[j]? =Z s->∃m,ents[j]? =Z m/\cq φ (tot ds φ h') w s.2 m.val:=λj s hx=>by
      obtain⟨_,D,g2⟩:=q5 j s hx;unfold MpV at D;rw[aC rfl]at D;obtain⟨m,D,rfl⟩:=D;exact⟨m,D,g2⟩
     have Ie:∀(es:Y j!) (ents:Array MapEntry) (clock:Nat),ents.toList.map (·.key)=es.map (·.1)->(∀(j:Nat) s,es[j]? =Z s->∃m,ents[j]? =Z m/\cq φ (tot ds φ h') w s.2 m.val)->gy φ (tot ds φ h') w ⟨0,.mp es⟩ (.map ents clock):=λes ents clock D g2=>⟨ents,clock,rfl,by unfold Qg;rw[aC rfl];exact D,λj s hx=>by
      obtain⟨m,g3,g4⟩:=g2 j s hx;exact⟨_,by unfold MpV;rw[aC rfl];exact⟨m,g3,rfl⟩,g4⟩⟩
     have hck:=Ys fs aa (cs:=L.toArray) (by have:=rn fs.hp;simp only[kM];omega) w;have hfk:=Bw (P:=P) fs (.agg L.toArray) ents.toList w;have hlen:ents.size=l! es:=by have:=dT ah q4;simpa using this
     rcases S8 fs w es es' ents.toList 0 q4 hput with ⟨h1,rfl⟩|⟨j,m,k',v',h1,N,h3,h4,rfl⟩
     .rw[h1]at hfk;refine ⟨.skip,_,b,.map (ents.push {key:=.agg L.toArray,val:=a.eval y,born:=clock}) (clock+1),?_,hφ,rj q2 (by simp) (by simp),Ie _ _ _ (by simp[q4]) λj q kt=>?_,undef,.inr ⟨rfl,rfl⟩,.f (.raw _)⟩
      .unfold execOp;rw[ho];simp[yT,run_underlying hu,hz',hrk,getObj,hZ,q2,hck,hfk,setObj]
      .rcases bx j (l! es) with hj|hj
       .rw[bj hj]at kt;obtain⟨m,D,g2⟩:=q5 j q kt;exact⟨m,by rw[xI,av (by omega)];exact D,g2⟩
       .rw[bO hj]at kt;have hj0:j-l! es=0:=by
         rcases s5 (j-l! es) with h0|h0
         .exact h0
         .rw[bJ (by simp;omega)]at kt;cases kt
        rw[hj0]at kt;simp at kt;subst kt;exact⟨_,by rw[xI,aC (by omega)],hry⟩
     .obtain⟨s2,s1⟩:=ae6 h4;subst s2;rw[h3]at hfk;rw[bE]at N;rw[bF]at hfk;have hjl:j<ents.size:=(cw.1 N).1;have hmk:m.key= .agg L.toArray:=by
       have e1:(ents.toList.map (·.key))[j]? =Z m.key:=by rw[aT,bE,N];rfl
       rw[q4,aT,h1]at e1;simpa using e1.symm
      refine ⟨.skip,_,b,.map (ents.modify j λe=>{e with key:=.agg L.toArray,val:=a.eval y}) clock,?_,hφ,rj q2 (by simp) (by simp),Ie _ _ _ ?_ λi q kt=>?_,undef,.inr ⟨rfl,rfl⟩,.f (.raw _)⟩
      .unfold execOp;rw[ho];simp[yT,run_underlying hu,hz',hrk,getObj,hZ,q2,hck,hfk,setObj,N,hmk,Instr.keyThatStays,s1]
      .apply Cb;intro i;simp only[aT,bE,c6,uw];have e2:∀i:Nat,(ents[i]?).map (λm:MapEntry=>m.key)=(es[i]?).map (λp:Value×AV=>p.1):=λi=>by
        have:=dT (λl=>l[i]?) q4;simpa[aT,bE] using this
       by_cases hij:j=i
       .subst hij;simp[N,show j<l! es by omega]
       .simp only[hij,c7];exact e2 i
      .rw[c6]at kt;rw[uw];by_cases hij:j=i
       .subst hij;simp[show j<l! es by omega]at kt;subst kt;exact⟨{m with key:=.agg L.toArray,val:=a.eval y},by simp[N],hry⟩
       .simp only[hij,c7]at kt ⊢;exact q5 i q kt
   .cases A
  .cases A
 .cases A
def Hq {α β:Type} (f:α->β):∀(l:Y α) (j:Nat),(l.map f).eraseIdx j=(l.eraseIdx j).map f
 |[],_|_::_,0=>rfl
 |x::r,j+1=>by simp only[bZ,List.eraseIdx_cons_succ,Hq f r j]
def as4 {t kt el:TypeId} {k:Operand} (ho:o.op= .call {callee:=.builtin .delete,args:=#[s,k],argTypes:=#[t,z]}) (hu:P.underlying t=Z (.map kt el)) (fs:Dv P kt K E) (t2:dx (.xx E s k) e h nx=Z R):gh P o e.get h.get R.eff:=by
 simp only[dx]at t2;split at t2
 .rename_i id ks L hkx;obtain⟨yk,hkx,hkl,hkn⟩:=Xn hkx;split at t2
  .rename_i es hid;split at t2
   .rename_i es' hput;cases t2;refine gh.writes hid λφ ds h' w a hrd hb' hp hrep=>?_
    have hrx:=hp s _ (by rw[ho];simp[Op.operands,dI]) L;have hrk:=Ls hkl (hp k _ (by rw[ho];simp[Op.operands,dI]) hkx);generalize D:a.eval s=zz at hrx;cases hrx with
    |@mp _ b hφ=>
     obtain⟨k',q1,_,ob,N,q3⟩:=hrep.at_ id _ hb';rw[hφ]at q1;cases q1;obtain⟨ents,clock,rfl,q4,q5⟩:=q3;have q4:ents.toList.map (·.key)=es.map (·.1):=by unfold Qg at q4;rw[aC rfl]at q4;exact q4
     have q5:∀(j:Nat) s,es[j]? =Z s->∃m,ents[j]? =Z m/\cq φ (tot ds φ h') w s.2 m.val:=λj s L=>by
      obtain⟨_,A,g2⟩:=q5 j s L;unfold MpV at A;rw[aC rfl]at A;obtain⟨m,A,rfl⟩:=A;exact⟨m,A,g2⟩
     have Ie:∀(es:Y j!) (ents:Array MapEntry) (clock:Nat),ents.toList.map (·.key)=es.map (·.1)->(∀(j:Nat) s,es[j]? =Z s->∃m,ents[j]? =Z m/\cq φ (tot ds φ h') w s.2 m.val)->gy φ (tot ds φ h') w ⟨0,.mp es⟩ (.map ents clock):=λes ents clock A g2=>⟨ents,clock,rfl,by unfold Qg;rw[aC rfl];exact A,λj s L=>by
      obtain⟨m,g3,g4⟩:=g2 j s L;exact⟨_,by unfold MpV;rw[aC rfl];exact⟨m,g3,rfl⟩,g4⟩⟩
     have hck:=Ys fs ents.isEmpty (cs:=ks.toArray) (by have:=rn fs.hp;simp only[kM];omega) w;have hfk:=Bw (P:=P) fs (.agg ks.toArray) ents.toList w;have hlen:ents.size=l! es:=by have:=dT ah q4;simpa using this
     rcases S_ fs w es es' ents.toList 0 q4 hput with ⟨h1,rfl⟩|⟨j,m,h1,h2,h3,rfl⟩
     .rw[h1]at hfk;refine ⟨.value (.tuple #[]),_,b,.map ents clock,?_,hφ,rj N (by simp) (by simp),Ie _ _ _ q4 q5,_,.inl rfl,cq.qg (vs:=[]) rfl (by simp)⟩;unfold execOp;rw[ho];simp[resolve,invoke,builtin,Builtin.delete_,run_underlying hu,D,hrk,getObj,hZ,N,hck,hfk,setObj]
     .rw[h3]at hfk;rw[bF]at hfk;have hel:(ents.eraseIdxIfInBounds j).toList=ents.toList.eraseIdx j:=by
       unfold Array.eraseIdxIfInBounds;rw[dif_pos (show j<ents.size by omega)];simp
      refine ⟨.value (.tuple #[]),_,b,.map (ents.eraseIdxIfInBounds j) clock,?_,hφ,rj N (by simp) (by simp),Ie _ _ _ ?_ λi q hq=>?_,_,.inl rfl,cq.qg (vs:=[]) rfl (by simp)⟩
      .unfold execOp;rw[ho];simp[resolve,invoke,builtin,Builtin.delete_,run_underlying hu,D,hrk,getObj,hZ,N,hck,hfk,setObj]
      .rw[hel,<-Hq,q4,Hq]
      .rw[List.getElem?_eraseIdx]at hq;rw[<- bE,hel,List.getElem?_eraseIdx,bE,bE];split at hq
       .rename_i hij;rw[aC hij];exact q5 i q hq
       .rename_i hij;rw[av hij];exact q5 (i+1) q hq
   .cases t2
  .cases t2
 .cases t2
end
variable {R:Type}
def bind_some {β:Type} {x:M R} {f:R->M β} {y:β} (h:x.bind f=Z y):∃a,x=Z a/\f a=Z y:=by
 cases x with
 |none=>cases h
 |some a=>exact⟨a,rfl,h⟩
def map_some {β:Type} {x:M R} {f:R->β} {y:β} (h:x.map f=Z y):∃a,x=Z a/\f a=y:=by
 cases x with
 |none=>cases h
 |some a=>exact⟨a,rfl,by simpa using h⟩
def mh {c:Bool} {x:M R} {y:R} (h:(if c then x else U)=Z y):c=J/\x=Z y:=by
 cases c with
 |true=>exact⟨rfl,by simpa using h⟩
 |false=>simp at h
variable {P:Program} {d:Oper} {i:Nat}
def K4 {e:Dx} {h:mY} {s:OT} {R:Cv} (A:cZ P d.op=Z s) (L:dx s e h i=Z R):gh P d e.get h.get R.eff:=by
 unfold cZ at A;split at A
 .rename_i x D;cases A;exact ars (.inl D) L
 .rename_i x D;cases A;exact ars (.inr D) L
 .rename_i c a b D;cases A;exact aoc D L
 .rename_i t D;obtain⟨z,h1,A⟩:=bind_some A;obtain⟨N,A⟩:=mh A;cases A;exact akw D h1 N L
 .rename_i t x D;cases A;exact as7 D L
 .rename_i t ps D;split at A
  .rename_i fs hu;obtain⟨z,h1,A⟩:=bind_some A;obtain⟨N,A⟩:=mh A;obtain⟨ps',h3,rfl⟩:=map_some A;simp only[ak]at N;exact Z9 D h1 N.1 h3 (.inl ⟨fs,hu,N.2⟩) L
  .rename_i n el hu;obtain⟨z,h1,A⟩:=bind_some A;obtain⟨N,A⟩:=mh A;obtain⟨ps',h3,rfl⟩:=map_some A;simp only[ak]at N;obtain⟨sz,h4⟩:=jB.1 N.2;exact Z9 D h1 N.1 h3 (.inr ⟨n,el,sz,hu,h4⟩) L
  .cases A
 .rename_i t n ps D;obtain⟨el,h1,A⟩:=bind_some A;obtain⟨z,N,A⟩:=bind_some A;obtain⟨sz,h3,A⟩:=bind_some A;obtain⟨h4,A⟩:=mh A;obtain⟨ps',h5,rfl⟩:=map_some A;simp only[ak,cG,bne_iff_ne]at h4;exact as6 D (tR h1) N h3 h4.1.1.1 h4.1.1.2 h4.2 (aU h4.1.2) h5 L
 .rename_i t x D;obtain⟨sz,h1,A⟩:=bind_some A;obtain⟨ag,N,rfl⟩:=map_some A;exact aof D h1 N L
 .rename_i t x v D;obtain⟨sz,h1,rfl⟩:=map_some A;exact akv D h1 L
 .rename_i x D;cases A;exact aod D L
 .rename_i op t x y t' D;split at A
  .cases A;exact amn D L
  .cases A;exact amn D L
  .rename_i hu;split at A
   .cases A;exact amm (neg:=aa) D rfl hu L
   .cases A;exact amm (neg:=J) D rfl hu L
   .cases A
  .rename_i el hu;split at A
   .cases A;exact Z8 (neg:=aa) D rfl rfl hu L
   .cases A;exact Z8 (neg:=J) D rfl rfl hu L
   .cases A
  .rename_i el hu;split at A
   .cases A;exact ah5 (neg:=aa) D rfl rfl hu L
   .cases A;exact ah5 (neg:=J) D rfl rfl hu L
   .cases A
  .rename_i fs hu;obtain⟨ds,h1,A⟩:=bind_some A;unfold DH at h1;rw[hu]at h1;simp only[]at h1;split at h1
   .cases h1
   .rename_i hst;have hst:P.stoodInHeld t=aa:=by simpa using hst
    split at A
    .cases A;exact aml (neg:=aa) D rfl hu hst h1 L
    .cases A;exact aml (neg:=J) D rfl hu hst h1 L
    .cases A
  .cases A
 .rename_i t x D;cases A;exact arp D L
 .rename_i t x D;split at A
  .cases A;exact arq D L
  .cases A
 .rename_i s' o x D;split at A
  .rename_i k k' h1 N;cases A;exact aol D h1 N L
  .cases A
 .rename_i t l c D;obtain⟨el,h1,A⟩:=bind_some A;obtain⟨z,N,A⟩:=bind_some A;obtain⟨sz,h3,A⟩:=bind_some A;obtain⟨b,h5,A⟩:=bind_some A;obtain⟨h4,A⟩:=mh A;simp only[ak,cG,bne_iff_ne]at h4;cases A;exact aoe D (tR h1) N h3 h5 h4.1.1 h4.1.2 h4.2 L
 .rename_i t x lo hi mx D;obtain⟨el,h1,A⟩:=bind_some A;obtain⟨sz,N,rfl⟩:=map_some A;exact arm D (tR h1) N L
 .rename_i t x k D;split at A
  .rename_i fs hu;obtain⟨f,h1,A⟩:=bind_some A;obtain⟨sz,N,A⟩:=bind_some A;obtain⟨h3,A⟩:=mh A;cases A;exact as2 D hu h1 N (by simpa using h3) L
  .cases A
 .rename_i t x k D;split at A
  .rename_i fs hu;obtain⟨f,h1,A⟩:=bind_some A;obtain⟨sz,N,A⟩:=bind_some A;obtain⟨ag,h3,rfl⟩:=map_some A;exact as1 D hu h1 N h3 L
  .cases A
 .rename_i t x nx D;split at A
  .rename_i el hu;obtain⟨sz,h1,rfl⟩:=map_some A;exact as0 D hu h1 L
  .rename_i n el hu;obtain⟨sz,h1,rfl⟩:=map_some A;exact aoj D hu h1 L
  .cases A
 .rename_i t x nx D;split at A
  .rename_i n el hu;obtain⟨sz,h1,A⟩:=bind_some A;obtain⟨ag,N,rfl⟩:=map_some A;exact arz D hu h1 N L
  .rename_i hu;cases A;exact aob D hu L
  .cases A
 .rename_i x nx D;cases A;exact as3 D L
 .rename_i f first caps D
  obtain⟨h1,A⟩:=mh A;cases A;have N:first=#[]:=by simpa using h1
  subst N;exact arv D L
 .rename_i t D;split at A
  .cases A;exact aru D L
  .cases A
 .rename_i t x k ok D;split at A
  .rename_i kt el hu;split at A
   .rename_i q z h1 N;obtain⟨h3,A⟩:=mh A;cases A;exact amk (str:=aa) D hu h1 ⟨q,rfl⟩ N L
   .rename_i z h1 N;obtain⟨h3,A⟩:=mh A;cases A;exact amk (str:=J) D hu h1 rfl N L
   .rename_i fs z h1 N;obtain⟨h3,A⟩:=mh A;simp only[ak,cV]at h3;obtain⟨ds,h4,rfl⟩:=map_some A;obtain⟨fs',K⟩:=GV h4;rw[h3.2]at D;exact ary D hu K N L
   .cases A
  .cases A
 .rename_i t m k v D;split at A
  .rename_i kt el hu;split at A
   .rename_i q h1;cases A;exact amj (str:=aa) D hu h1 ⟨q,rfl⟩ L
   .rename_i h1;cases A;exact amj (str:=J) D hu h1 rfl L
   .obtain⟨ds,h4,rfl⟩:=map_some A;obtain⟨fs',K⟩:=GV h4;exact art D hu K L
   .cases A
  .cases A
 .rename_i t x D;split at A
  .rename_i hu;cases A;exact arn D hu L
  .cases A
 .rename_i x D;cases A;exact aro D L
 .rename_i c D;obtain⟨callee,args,argTypes⟩:=c;have arr:∀{α:Type} {x:Array α} {l:Y α},x.toList=l->x=l.toArray:=λh=>by rw[<- h]
  unfold VN at A;simp only[]at A;split at A
  .split at A
   .rename_i x t h1 N;rw[arr h1,arr N]at D;split at A
    .rename_i el hu;cases A;exact aoi D hu L
    .rename_i hu;cases A;exact aoh D hu L
    .rename_i k v hu;cases A;exact aog D hu L
    .cases A
   .cases A
  .split at A
   .rename_i x y h1;rw[arr h1]at D;cases A;exact arx D L
   .cases A
  .split at A
   .rename_i x y h1;rw[arr h1]at D;cases A;exact arw D L
   .cases A
  .split at A
   .rename_i o x t u h1 N;rw[arr h1,arr N]at D;split at A
    .rename_i el el' h1 N;obtain⟨sz,h3,A⟩:=bind_some A;obtain⟨h4,A⟩:=mh A;cases A;exact aok D (tR h1) (tR N) h3 L
    .cases A
   .cases A
  .split at A
   .rename_i m k t t2 h1 N;rw[arr h1,arr N]at D;split at A
    .rename_i kt el hu;obtain⟨ds,h4,rfl⟩:=map_some A;obtain⟨fs',K⟩:=GV h4;exact as4 D hu K L
    .cases A
   .cases A
  .split at A
   .rename_i x t h1 N;rw[arr h1,arr N]at D;obtain⟨el,h3,A⟩:=bind_some A;obtain⟨z,h4,A⟩:=bind_some A;obtain⟨sz,h5,A⟩:=bind_some A;obtain⟨h6,A⟩:=mh A;simp only[ak,cG,bne_iff_ne,ne_eq]at h6;cases A;exact as5 D (tR h3) h4 h6.1.1 h6.1.2 h6.2 L
   .cases A
  .split at A
   .rename_i s' x t u h1 N;rw[arr h1,arr N]at D;split at A
    .rename_i el el' h1 N;obtain⟨sz,h3,A⟩:=bind_some A;obtain⟨b,h4,A⟩:=bind_some A;obtain⟨z,h5,A⟩:=bind_some A;obtain⟨h6,A⟩:=mh A;simp only[ak,cG,bne_iff_ne]at h6;cases A;exact as8 D (tR h1) (tR N) h3 h4 h5 h6.2 h6.1 L
    .cases A
   .cases A
  .cases A
 .cases A
variable {p:Nat->Bool}
def nj :∀{l:Y AV},AV.allL p l=J->∀x∈l,AV.all p x=J
 |[],_,x,z=>by cases z
 |y::l,h,x,z=>by
  simp only[AV.allL,ak]at h;rcases aZ.1 z with rfl|z
  .exact h.1
  .exact nj h.2 x z
variable {O:Nat->Prop} {v:Value} {V:PM} {y:AV}
def cq.restrict {φ':PM} {O':Nat->Prop} {w:World} (N:∀i k,p i=J->V i=Z k->φ' i=Z k) (ho:∀k,O' k->O k) (h:cq V O w y v):y.all p=J->cq φ' O' w y v:=by
 induction h with
 |f h=>intro _;exact .f (h.ext (O':=O') (Gt.refl O w) λk _ hk=>ho k hk)
 |H h=>intro hp;exact .H (N _ _ hp h)
 |sl h hn hc=>intro hp;exact .sl (N _ _ hp h) hn hc
 |G h hn hc hsh=>intro hp;exact .G (N _ _ hp h) hn hc hsh
 |emp=>intro _;exact .emp
 |qw=>intro _;exact .qw
 |qd h=>intro _;exact .qd (h.ext (O':=O') (Gt.refl O w) λk _ hk=>ho k hk)
 |mp h=>intro hp;exact .mp (N _ _ hp h)
 |agg L hcl hr A=>intro hp;exact .agg L hcl λj y v z D=>A j y v z D (nj hp y (aX z))
 |qg L hr A=>intro hp;exact .qg L λj y v z D=>A j y v z D (nj hp y (aX z))
 |qy L hr A=>intro hp;exact .qy L λj y v z D=>A j y v z D (nj hp y (aX z))
variable {S:kc}
def gy.restrict {φ':PM} {O':Nat->Prop} {w w':World} (hk:∀x v,x.all p=J->cq V O w x v->cq φ' O' w' x v) {o:Obj} (N:S.c.all p=J) (h:gy V O w S o):gy φ' O' w' S o:=by
 unfold gy at h ⊢;cases L:S.c with
 |fz l=>
  rw[L]at h;obtain⟨arr,h1,D,A⟩:=h;exact⟨arr,h1,D,λj x z=>by
   obtain⟨a,v,c,d⟩:=A j x z;refine ⟨a,v,c,hk _ _ ?_ d⟩;simp only[BC.get]at z;cases hl:l[j]? with
   |none=>rw[hl]at z;cases z
   |some q=>rw[hl]at z;simp at z;subst z;rfl⟩
 |mx l=>
  rw[L]at h N;obtain⟨arr,h1,D,A⟩:=h;exact⟨arr,h1,D,λj x z=>by
   obtain⟨a,v,c,d⟩:=A j x z;exact⟨a,v,c,hk _ _ (nj N x (aX z)) d⟩⟩
 |mp es=>
  rw[L]at h N;obtain⟨e,c,h1,D,A⟩:=h;exact⟨e,c,h1,D,λj x z=>by
   obtain⟨m,a,S⟩:=A j x z;exact⟨m,a,hk _ _ (nj N x.2 (ch.2 ⟨x,aX z,rfl⟩)) S⟩⟩
 |it s q=>rw[L]at h;exact h
def agr (m:Nat):ι:=(iR (m+1)).filter λi=>aK m i
variable {j:Nat}
def Pn :i∈agr j↔aK j i=J:=by
 unfold agr;rw[H0,oT];constructor
 .exact λh=>h.2
 .intro h;refine ⟨?_,h⟩;have h1:=Nat.ge_two_pow_of_testBit h;have z:=Nat.lt_two_pow_self (n:=i);omega
def lP (φ:PM) (O:Nat->Prop) (w:World):Y AV->ξ->Prop
 |[],[]=>True
 |x::xs,v::vs=>cq φ O w x v/\lP φ O w xs vs
 |_,_=>False
def lP.length {w:World}:∀{args:Y AV} {vs:ξ},lP V O w args vs->l! vs=l! args
 |[],[],_=>rfl
 |[],_::_,h|_::_,[],h=>h.elim
 |_::_,_::_,h=>by simp[lP.length h.2]
def lP.mono {φ':PM} {O':Nat->Prop} {w w':World} (z:∀x v,x.all p=J->cq V O w x v->cq φ' O' w' x v):∀{args:Y AV} {vs:ξ},AV.allL p args=J->lP V O w args vs->lP φ' O' w' args vs
 |[],[],_,_=>trivial
 |[],_::_,_,h|_::_,[],_,h=>h.elim
 |x::xs,_::_,hp,h=>by
  simp only[AV.allL,ak]at hp;exact⟨z _ _ hp.1 h.1,lP.mono z hp.2 h.2⟩
def lP.append {w:World}:∀{xs z:Y AV} {vs A:ξ},lP V O w xs vs->lP V O w z A->lP V O w (xs++z) (vs++A)
 |[],_,[],_,_,h=>h
 |[],_,_::_,_,h,_|_::_,_,[],_,h,_=>h.elim
 |_::_,_,_::_,_,h,h'=>⟨h.1,lP.append h.2 h'⟩
def lP.of {w:World}:∀{xs:Y AV} {vs:ξ},l! vs=l! xs->(∀(j:Nat) x v,xs[j]? =Z x->vs[j]? =Z v->cq V O w x v)->lP V O w xs vs
 |[],[],_,_=>trivial
 |[],_::_,h,_|_::_,[],h,_=>by simp at h
 |x::xs,v::vs,D,h=>⟨h 0 x v rfl rfl,lP.of (by simpa using D) λj x v z A=>h (j+1) x v (by simpa using z) (by simpa using A)⟩
def Gw (P:Program) (f:FuncId):Prop:=∃fn,P.funcs[f]? =Z fn∧fn.body.isNone=aa∧(fn.name== "runtime.NumGoroutine")=aa
variable {A:HF} {Q:Act}
def XT {w:World} {e:Dx} (hp:WA V O A w Q e d):∀(xs:Y Operand) (z:Y AV),(∀x∈xs,x∈d.op.operands)->evs e xs=Z z->lP V (tot O V A) w z (xs.map Q.eval)
 |[],z,_,h=>by simp only[evs,af]at h;subst h;trivial
 |x::xs,z,hm,h=>by
  simp only[evs]at h;split at h
  .rename_i y h';split at h
   .rename_i ys' hys;cases h;exact⟨hp x y (hm x (cR ..)) h',XT hp xs ys' (λx D=>hm x (bM _ D)) hys⟩
   .cases h
  .cases h
variable {f:FuncId}
def ER (L:Gw P f) (args:Array Value) (w:World):(callFunc f args).run P w= .ok (.enter f args) w:=by
 obtain⟨fn,h1,D,N⟩:=L;have z:fn.name≠ "runtime.NumGoroutine" :=by simpa using N
 have A:fn.body≠U:=by intro h;rw[h]at D;cases D
 simp[callFunc,program,hZ,h1,A,z]
def Zz:∀(z:Y FPm) (i:Nat),ab7 z i=z[i]?
 |[],i=>by simp[ab7]
 |f::z,0=>rfl
 |f::z,i+1=>by simp[ab7,Zz z i]
def zX (h:F6 i j=J) (a:Nat) (z:aK i a=J):aK j a=aa:=by
 unfold F6 at h;have h0:i&&&j=0:=au h;have:=Nat.testBit_and i j a;rw[h0,z]at this;simpa using this.symm
structure Ctx where
 n0:Nat
 φ:PM
 E:Nat->Prop
 h:HF
 w:World
def ahl (P:Program) (d:Deferred):Prop:=∀w:World,∃A cap f args,d.target= .fn A cap/\(invoke d.target d.args).run P w= .ok (.enter f args) w/\
 CallsD P f args .returning w λe z w'=>(∃v,e= .returned v)/\z= .returning/\w'=w
structure Cfg (P:Program) (C:Ctx) (nt:Nat) (s:IS) (a:Act) (w:World):Prop where
 ex:∃φ,jZ C.φ φ C.h s.h.get C.w w/\r_ φ C.E s.h.get w/\Qk φ (tot C.E φ s.h.get) w s.e.get a/\(∀i k,φ i=Z k->i<s.nx)/\∀i k,φ i=Z k->C.φ i=Z k\/C.n0<=i
 low:C.n0<=s.nx
 inert:∀d∈a.defers,ahl P d
 size:a.tmps.size=nt
variable {b:Bool}
def Cfg.bool {C:Ctx} {s:IS} {w:World} (c:Cfg P C i s Q w) {t:Nat} (ht:s.e.get t=Z (.f (.raw (.bool b)))):Q.eval (.tmp t)= .bool b:=by
 obtain⟨φ,_,_,en,_,_⟩:=c.ex;exact e9 (en t _ ht)
variable {m:Exit->Act->World->Prop}
def EE {c:Code} (I:Nat->Act->World->Prop) (round:∀n a w,I n a w->c.wp P (Exit.then (λN w'=>∃Q,Q<n/\I Q N w') m) a w) {n:Nat} {a:Act} {w:World} (h0:I n a w):(Code.loop c).wp P m a w:=by
 have least:∀(n:Nat) (a:Act) (w:World),I n a w->∃Q,I Q a w/\∀k,I k a w->Q<=k:=by
  intro n;induction n using Nat.strongRecOn with
  |_ n ih=>
   intro a w A;by_cases z:∃k,k<n/\I k a w
   .obtain⟨k,D,L⟩:=z;exact ih k D a w L
   .exact⟨n,A,λk D=>Nat.le_of_not_lt λhlt=>z ⟨k,hlt,D⟩⟩
 have pick:∀a w,∃Q,(∃n,I n a w)->I Q a w/\∀k,I k a w->Q<=k:=λa w=>by
  by_cases z:∃n,I n a w
  .obtain⟨n,A⟩:=z;obtain⟨Q,hm⟩:=least n a w A;exact⟨Q,λ_=>hm⟩
  .exact⟨0,λh=>co h z⟩
 let μ:Act->World->Nat:=λa w=>Classical.choose (pick a w)
 have hμ:∀a w,(∃n,I n a w)->I (μ a w) a w/\∀k,I k a w->μ a w<=k:=λa w=>Classical.choose_spec (pick a w)
 refine wp_loop (λa w=>∃n,I n a w) μ ⟨n,h0⟩ λa w L=>?_
 refine wp_mono (round (μ a w) a w (hμ a w L).1) λe N w' he=>?_
 cases e with
 |normal=>
  obtain⟨Q,hm,hIm⟩:=he;exact⟨⟨Q,hIm⟩,Nat.lt_of_le_of_lt ((hμ N w' ⟨Q,hIm⟩).2 Q hIm) hm⟩
 |_=>exact he
def Ex.to:Ex->Exit
 |.normal=>.normal
 |.exit id=>.exit id
 |.ret=>.ret
def Sn (P:Program) (inert:FuncId->Bool):Prop:=∀f,inert f=J->Gw P f/\∀(args:Array Value) (w:World),CallsD P f args .returning w λe z w'=>(∃v,e= .returned v)/\z= .returning/\w'=w
def aah (tmps:Array Value):ResultVar->Sem Value
 |.tmp t=>pure (tmps.getD t undef)
 |.cell a t=>do
  let ad<-asAddr (tmps.getD a undef)
  loadVar t ad
def W5 (fn:Func) (tmps:Array Value):results fn tmps=(do let vs<-fn.results.mapM (aah tmps);pure (if h:vs.size=1 then vs[0] else .tuple vs)):=by
 unfold results;congr 2
def E_ {fn:Func} {tmps:Array Value} {R:Ending->World->Prop} {w:World} (z:(results fn tmps).run P w= .ok v w) (A:R (.returned v) w):∀(ds:Y Deferred),(∀d∈ds,ahl P d)->Leaves P fn tmps R ds .returning w
 |[],_=>⟨v,z,A⟩
 |d::ds,h=>by
  obtain⟨N,cap,f,args,h1,L,D⟩:=h d (cR ..) w;refine ⟨by simp,N,cap,f,args,h1,L,D.mono ?_⟩;rintro e u' w' ⟨⟨v',rfl⟩,rfl,rfl⟩;exact E_ z A ds λd hd=>h d (bM _ hd)
def lP.get {w:World}:∀{xs:Y AV} {vs:ξ},lP V O w xs vs->∀(j:Nat) x,xs[j]? =Z x->∃v,vs[j]? =Z v/\cq V O w x v
 |[],_,_,j,x,z=>by simp at z
 |_::_,[],h,_,_,_=>h.elim
 |y::xs,u::vs,h,j,x,z=>by
  cases j with
  |zero=>simp at z;subst z;exact⟨u,rfl,h.1⟩
  |succ j=>exact lP.get h.2 j x (by simpa using z)
def VM {z:SF} (h:BT P f=Z z):∃fn c,P.funcs[f]? =Z fn∧fn.body=Z c∧(fn.name== "runtime.NumGoroutine")=aa∧z.code=cK P fn.ntmps c∧w7 P fn.results.toList=Z z.res∧z.nt=fn.ntmps:=by
 unfold BT at h;split at h
 .rename_i fn hf;split at h
  .cases h
  .rename_i D;split at h
   .rename_i c r L A;cases h;exact⟨fn,c,hf,L,by simpa using D,rfl,A,rfl⟩
   .cases h
 .cases h
def akh {b:Value} (h:ao2 v b=J):v=b:=by
 unfold ao2 at h;split at h
 .simp at h;rw[h]
 .simp at h;rw[h.1,h.2]
 .rw[w_.1 h]
 .simp only[ak]at h;rw[au h.1,au h.2]
 .rfl
 .rename_i x y;simp only[ak,Array.isEmpty_iff]at h;rw[h.1,h.2]
 .cases h
def PT.mapO {β:Type} (g:R->M β):PT R->PT β
 |.leaf=>.leaf
 |.node v l r=>.node (v.bind g) (PT.mapO g l) (PT.mapO g r)
def PT.get_mapO {β:Type} (g:R->M β):∀(t:PT R) (i:Nat),(PT.mapO g t).get i=(t.get i).bind g
 |.leaf,i|.node v l r,0=>by simp[PT.mapO,PT.get]
 |.node v l r,j+1=>by
  simp only[PT.mapO,PT.get];split
  .exact PT.get_mapO g l _
  .exact PT.get_mapO g r _
def PT.get_updI (f:Nat->R->R):∀(t:PT R) (a b i:Nat),(PT.updI f a b t).get i=(t.get i).map (f (a*i+b))
 |.leaf,_,_,i=>by simp[PT.updI,PT.get]
 |.node v l r,a,b,0=>by cases v<;>simp[PT.updI,PT.get]
 |.node v l r,a,b,j+1=>by
  simp only[PT.updI,PT.get];split
  .rename_i z;rw[PT.get_updI f l];have:2*a*(j/2)+(a+b)=a*(j+1)+b:=by
    have D:j=2*(j/2):=by have:=au z;omega
    have A:2*a*(j/2)=a*j:=by rw[wI 2 a,Ez,<-D]
    rw[A,Nat.mul_add];omega
   rw[this]
  .rename_i z;rw[PT.get_updI f r];have:2*a*(j/2)+(2*a+b)=a*(j+1)+b:=by
    have h1:j%2≠0:=λh=>z (by rw[h];rfl)
    have D:j=2*(j/2)+1:=by omega
    have A:2*a*(j/2)=a*(2*(j/2)):=by rw[wI 2 a,Ez]
    have L:a*(j+1)=a*(2*(j/2))+2*a:=by
     conv=>lhs;rw[D]
     rw[Nat.mul_add,Nat.mul_add];omega
    rw[A,L];omega
   rw[this]
def PT.bound :∀(t:PT R),∃B,∀i,B<=i->t.get i=U
 |.leaf=>⟨0,λi _=>rfl⟩
 |.node v l r=>by
  obtain⟨a,A⟩:=PT.bound l;obtain⟨b,z⟩:=PT.bound r;refine ⟨2*(a+b)+3,λi hi=>?_⟩;cases i with
  |zero=>omega
  |succ j=>
   simp only[PT.get];split
   .exact A _ (by omega)
   .exact z _ (by omega)
def PT.ofF (f:Nat->M R):Nat->PT R
 |0=>.leaf
 |n+1=>(PT.ofF f n).set n (f n)
def PT.get_ofF (f:Nat->M R):∀(n i:Nat),(PT.ofF f n).get i=if i<n then f i else U
 |0,i=>by simp[PT.ofF,PT.get]
 |n+1,i=>by
  rw[PT.ofF,PT.get_set,PT.get_ofF f n];by_cases h:i=n
  .subst h;simp
  .rw[av h];by_cases z:i<n
   .rw[aC z,aC (by omega)]
   .rw[av z,av (by omega)]
def jE (i k:Nat):Nat:=2^i*(2*k+1)-1
def nm (i:Nat):Nat:=jE i 0
def owA:Nat->Nat->Nat
 |0,_=>0
 |f+1,m=>if m%2=1 then 0 else owA f (m/2)+1
def ow (n:Nat):Nat:=owA (n+1) (n+1)
def ix (n:Nat):Nat:=(n+1)/2^ow n/2
def Y_:∀(i f k:Nat),i<f->owA f (2^i*(2*k+1))=i
 |0,f+1,k,_=>by rw[owA,aC (by omega)]
 |i+1,f+1,k,h=>by
  have e:2^(i+1)*(2*k+1)=2*(2^i*(2*k+1)):=by rw[Nat.pow_succ,wI (2^i) 2,Ez]
  rw[owA,av (by omega),e,Nat.mul_div_cancel_left _ (by omega),Y_ i f k (by omega)]
def Y':∀(f m:Nat),0<m->m<=f->2^owA f m*(2*(m/2^owA f m/2)+1)=m
 |0,m,h0,h=>by omega
 |f+1,m,h0,h=>by
  rw[owA];split
  .rw[Nat.pow_zero,Nat.div_one];omega
  .have z:=Y' f (m/2) (by omega) (by omega);rw[Nat.pow_succ,wI (2^owA f (m/2)) 2,<-Nat.div_div_eq_div_mul,Ez,z];omega
def QU (i k:Nat):0<2^i*(2*k+1):=Nat.mul_pos (Nat.two_pow_pos i) (by omega)
def iJ (i k:Nat):ow (jE i k)=i:=by
 have h:=QU i k;have z:i<2^i*(2*k+1):=dw Nat.lt_two_pow_self (Nat.le_mul_of_pos_right _ (by omega));unfold ow jE;rw[Nat.sub_add_cancel h,Y_ _ _ _ z]
def vN (i k:Nat):ix (jE i k)=k:=by
 have h:=QU i k;unfold ix;rw[iJ];unfold jE;rw[Nat.sub_add_cancel h,Nat.mul_div_cancel_left _ (Nat.two_pow_pos i)];omega
def kO (n:Nat):jE (ow n) (ix n)=n:=by
 have:=Y' (n+1) (n+1) (by omega) (bV _);unfold jE ix ow;rw[this];rfl
def px (h:ix i=0):i=nm (ow i):=by
 have:=kO i;rw[h]at this;exact this.symm
def dc (i:Nat):ow (nm i)=i:=iJ i 0
def aqz (i:Nat):ix (nm i)=0:=vN i 0
def uN {k l:Nat} (h:jE i k=jE j l):i=j/\k=l:=by
 have h1:=dT ow h;have z:=dT ix h;rw[iJ,iJ]at h1;rw[vN,vN]at z;exact⟨h1,z⟩
def ug (h:nm i=nm j):i=j:=(uN h).1
def dm (p:Bool) (id sz n:Nat):AV:=if p&&n==0 then .emp else .G (nm id) sz n
def pL (id:Nat) (j:Int):Nat:=jE id (3*j.toNat+1)
def ue (id:Nat) (j sz n:Nat):AV:=if n==0 then .emp else .G (jE id (j+1)) sz n
def JB:Sb->AV
 |.ob id j off=>.H (pL id j) off
 |.om id j b=>.mp (jE id (3*j.toNat+2+b))
 |.nr id j sz n=>ue id j.toNat sz n
 |.np id j sz i off=>.H (jE id (j.toNat+1)) (i.toNat*sz+off)
 |.nl=>.f (.raw (.map U))
mutual
def b9 (h:a_):TV->M AV
 |.f T v=>Z (.f (fS T v))
 |.zk T xs j _ off=>Z (.f (.H (xs.flatMap (bN T)) (j.toNat*T.size+off)))
 |.ql id sz j off=>Z (.H (nm id) (j.toNat*sz+off))
 |.H id off=>Z (.H (nm id) off)
 |.qv id sz n=>Z (.G (nm id) sz n)
 |.G id=>match eE h id with|some (p,sz,n)=>Z (dm p id sz n)|none=>U
 |.zm id j=>match eE h id with|some (_,sz,n)=>Z (.sl (nm id) (j.toNat*sz) (n-j.toNat))|none=>U
 |.emp=>Z .emp
 |.nil=>Z (.f (.raw (.slice U 0 0)))
 |.mp id=>Z (.mp (nm id))
 |.agg l=>match cP h l with|some l'=>Z (.agg l')|none=>U
 |.qg l=>match cP h l with|some l'=>Z (.qg l')|none=>U
 |.qy g l=>match cP h l with|some l'=>Z (.qy g l')|none=>U
 |.undef=>Z (.f (.raw undef))
 |.np=>Z (.f (.raw (.pointer U)))
 |.qw=>Z .qw
 |.qd T xs=>Z (.qd (xs.flatMap (bN T)) (ah xs))
 |.sb s=>Z (JB s)
def cP (h:a_):Y TV->M (Y AV)
 |[]=>Z []
 |x::r=>match b9 h x with
  |some y=>(match cP h r with|some l=>Z (y::l)|none=>U)
  |none=>U
end
def qW:(K:Ty)->K.den->Value
 |.int k,n=>.int k n
 |.str,s=>.string ⟨jI s⟩
 |_,_=>undef
def mpC:(K V:Ty)->Y (K.den×V.den)->BC
 |.st (.pr .str (.int .i64)),.un,es=>.it ⟨jI (NG es)⟩ (Lw es)
 |K,V,es=>.mp (es.map λp=>(qW K p.1,.f (fS V p.2)))
variable {T:Ty}
def zC {V:Ty} {es:Y (T.den×V.den)} (h:Xe T=J):mpC T V es= .mp (es.map λp=>(qW T p.1,.f (fS V p.2))):=by
 unfold mpC;split
 .cases h
 .rfl
def anl {V:Ty} {es:Y (T.den×V.den)} {s:ζ} (h:itE T V es=Z (s,i)):mpC T V es= .it ⟨jI s⟩ i:=by
 unfold itE at h;split at h
 .cases h;rfl
 .cases h
def pS:Nat->Y AV->Y j!
 |_,[]=>[]
 |i,v::r=>(.int .i64 (aP i),v)::pS (i+1) r
def Fe:∀(l:Y AV) (i j:Nat),(pS i l)[j]? =(l[j]?).map λv=>(.int .i64 (aP (i+j)),v)
 |[],i,j|v::r,i,0=>rfl
 |v::r,i,j+1=>by
  rw[pS,mG,Fe r (i+1) j,show i+1+j=i+(j+1) from by omega];rfl
def G8 (k:Value):∀(l:Y AV) (i:Nat),k∈(pS i l).map (·.1)->yh k
 |v::r,i,h=>by
  rcases aZ.1 h with h|h
  .exact⟨_,h⟩
  .exact G8 k r (i+1) h
def Pq:∀(l:Y AV) (i:Nat),(pS i l).map (·.2)=l
 |[],_=>rfl
 |v::r,i=>by rw[pS,bZ,Pq r (i+1)]
def TK (f:AV->AV):∀(l:Y AV) (i:Nat),(pS i l).map (λp=>(p.1,f p.2))=pS i (l.map f)
 |[],_=>rfl
 |v::r,i=>by rw[pS,bZ,TK f r (i+1)];rfl
def Pr:∀(l:Y AV) (i n:Nat),told (aP (i+n)) (pS i l)=l[n]?
 |[],i,n=>rfl
 |v::r,i,0=>by rw[pS,told,cX,aC rfl];rfl
 |v::r,i,n+1=>by
  rw[pS,told,av (λe=>by have:=Int.ofNat.inj e;omega),show i+(n+1)=i+1+n from by omega,Pr r (i+1) n];rfl
def Ps (y:AV) (n:Int):∀(l:Y AV) (i:Nat),n<aP i->mI n y (pS i l)=pS i l
 |[],i,_=>rfl
 |v::r,i,h=>by
  simp only[pS,mI];rw[Ps y n r (i+1) (Int.lt_trans h (Int.ofNat_lt.2 (nZ i))),av (λe=>by rw[e]at h;exact Int.lt_irrefl _ h)]
def TJ (y:AV):∀(l:Y AV) (i n:Nat),mI (aP (i+n)) y (pS i l)=pS i (l.set n y)
 |[],i,n=>rfl
 |v::r,i,0=>by
  simp only[pS,mI,cX,List.set_cons_zero];rw[Ps y (aP i) r (i+1) (Int.ofNat_lt.2 (nZ i)),aC trivial]
 |v::r,i,n+1=>by
  simp only[pS,mI,List.set_cons_succ];rw[av (λe=>by have:=Int.ofNat.inj e;omega),show i+(n+1)=i+1+n from by omega,TJ y r (i+1) n]
variable {z:TypeId}
def aa1 {es:Y j!} {ents:Array MapEntry} (f:AV->AV):Qg z (es.map λp=>(p.1,f p.2)) ents=Qg z es ents:=by unfold Qg;rw[kN];rfl
def KI {l:Y R} {x:R} (h:i<l! l):splice l i [x]=l.set i x:=by
 rw[List.set_eq_take_append_cons_drop,aC h];simp[splice]
def aap (k:ν):Value:=.agg #[.int .i64 k.1,.int .i64 k.2]
def wA (a:Nat) (es:Y e!):Y j!:=es.map λe=>(aap e.1,.H (pL a e.2) 0)
def Mg (a:Nat) (k:ν) (v:AV):Y e!->Y j!
 |[]=>[(aap k,v)]
 |e::r=>if k=e.1 then (aap k,v)::wA a r else (aap e.1,.H (pL a e.2) 0)::Mg a k v r
def lQ (a sz:Nat):Nat->η->Y AV
 |_,[]=>[]
 |k,l::r=>ue a k sz l.toNat::lQ a sz (k+1) r
def sq (a:Nat):(F:tZ)->F.ty.den->M kc
 |.qc ty,z=>if ah z==0 then U else Z ⟨ty,.mx (fP (λj=>.H (pL a j) 0) z)⟩
 |.qh,es=>Z ⟨0,.mp (wA a es)⟩
 |.rr ty sz,A=>Z ⟨ty,.mx (lQ a sz 0 A)⟩
 |_,_=>U
def ZD (a:Nat) (k:ν):(F:tZ)->F.ty.den->M (Nat×Bool×Nat)->M kc
 |.qh,es,Z (p,_,_)=>Z ⟨0,.mp (Mg a k (.H (nm p) 0) es)⟩
 |.rr ty sz,z,Z (r,b,n)=>Z ⟨ty,.mx ((lQ a sz 0 z).set k.1.toNat (dm b r sz n))⟩
 |_,_,_=>U
def G1 (es:Y u?):Y j!:=es.map λe=>(.int .i64 e.1,.f (.raw (.bool e.2)))
def vX (id k:Nat) (ty:TypeId) (S:Ty) (o:S.den×Y (Int×Bool)×Y (Int×Bool)):kc:=
 if k%3=0 then ⟨ty,.mx ((bN S o.1).map .f++[.mp (jE id (k+2)),.mp (jE id (k+3))])⟩ else ⟨0,.mp (G1 (if k%3=1 then o.2.1 else o.2.2))⟩
def XR (ty:TypeId) (T:Ty) (xs:Y T.den):M kc:=if (l! xs)==0 then U else Z ⟨ty,.fz (xs.flatMap (bN T))⟩
def oN (id k:Nat) (ty:TypeId) (S:Ty) (xs:Y (BZ S)):M kc:=(xs[k/3]?).map (vX id k ty S)
def pq (k:Nat) (ty:TypeId) (T:Ty) (xss:Y (Y T.den)):M kc:=(xss[k]?).bind (XR ty T)
def By (id:Nat) (k:Nat):(F:tZ)->F.ty.den->M kc
 |.ar ty S,xs=>oN id k ty S xs
 |.ir ty T,xss=>pq k ty T xss
 |_,_=>U
def ww (id k:Nat):eP->M kc
 |.I F _ x=>By id k F x
 |.qm F _ x j U=>if k=j.1.toNat then U else By id k F x
 |.qm F _ x _ (Z _)=>By id k F x
 |_=>U
def jR (h:a_):eP->M kc
 |.F ty p T xs=>if p&&l! xs==0 then U else Z ⟨ty,.fz (xs.flatMap (bN T))⟩
 |.C (Z ty) l=>match cP h l with|some l'=>Z ⟨ty,.mx l'⟩|none=>U
 |.C U l=>match cP h l with|some l'=>Z ⟨1,.mp (pS 0 l')⟩|none=>U
 |.qj _ _ _=>U
 |.mp K V es=>Z ⟨0,mpC K V es⟩
 |.I F a x=>sq a F x
 |.qm F a x k p=>ZD a k F x p
def fG (e:hX) (h:a_):EF:=λt=>(e.get t).bind (b9 h)
def NH (h:a_) (id:Nat):Nat->eP->M kc
 |0,b=>jR h b
 |k+1,b=>ww id k b
def erHF (h:a_):HF:=λn=>(h.get (ow n)).bind (NH h (ow n) (ix n))
def bL (h:a_) (i:Nat):erHF h (nm i)=(h.get i).bind (jR h):=by
 unfold erHF;rw[dc,aqz];rfl
def kH (h:a_) (i k:Nat):erHF h (jE i (k+1))=(h.get i).bind (ww i k):=by
 unfold erHF;rw[iJ,vN];rfl
variable {h:a_}
def iO (z:erHF h i=Z S):∃c,h.get (ow i)=Z c/\NH h (ow i) (ix i) c=Z S:=by
 unfold erHF at z;cases A:h.get (ow i) with
 |none=>rw[A]at z;cases z
 |some c=>rw[A]at z;exact⟨c,rfl,z⟩
def G0:eP->Nat
 |.I (.ar _ _) _ x=>3*ah x
 |.I (.ir _ _) _ x=>ah x
 |.qm (.ar _ _) _ x _ _=>3*ah x
 |.qm (.ir _ _) _ x _ _=>ah x
 |_=>0
def ZF {id:Nat} {F:tZ} {x:F.ty.den} (z:By id i F x=Z S) (a:Nat):i<G0 (.I F a x):=by
 cases F with
 |ar ty b=>
  simp only[By,oN]at z;obtain⟨o,A,_⟩:=dv.1 z;have:=(bi.1 A).1;simp only[G0];omega
 |ir ty T=>
  simp only[By,pq]at z;obtain⟨o,A,_⟩:=Option.bind_eq_some_iff.1 z;exact (bi.1 A).1
 |_=>cases z
def Zl {c:eP} (z:ww i j c=Z S):j<G0 c:=by
 cases c with
 |I F a x=>exact ZF (id:=i) z a
 |qm F a x k p=>
  have:By i j F x=Z S:=by
   cases p with
   |none=>simp only[ww]at z;split at z;cases z;exact z
   |some q=>exact z
  have:=ZF (id:=i) this a;cases F<;>exact this
 |_=>cases z
def CU (e:hX) (h:a_):Dx:=PT.mapO (b9 h) e
def Co (e:hX) (h:a_):(CU e h).get=fG e h:=by funext t;exact PT.get_mapO _ _ _
def aju (L:∀y c,h.get y=Z c->G0 c<=i) (D:erHF h j=Z S):ix j<=i:=by
 obtain⟨c,h1,z⟩:=iO D;have:=L _ c h1;cases A:ix j with
 |zero=>omega
 |succ k=>
  rw[A]at z;have:=Zl z;omega
def Zk (h:a_):∃y,∀i c,h.get i=Z c->G0 c<=y:=by
 obtain⟨B,N⟩:=PT.bound h;have:∀B,∃y,∀i c,i<B->h.get i=Z c->G0 c<=y:=by
  intro B;induction B with
  |zero=>exact⟨0,λi c hi=>by omega⟩
  |succ B L=>
   obtain⟨y,A⟩:=L;cases D:h.get B with
   |none=>exact⟨y,λi c hi z=>by
     by_cases e:i=B
     .subst e;rw[D]at z;cases z
     .exact A i c (by omega) z⟩
   |some b=>exact⟨max y (G0 b),λi c hi z=>by
     by_cases e:i=B
     .subst e;rw[D]at z;cases z;omega
     .have:=A i c (by omega) z;omega⟩
 obtain⟨y,A⟩:=this B;refine ⟨y,λi c z=>A i c ?_ z⟩;rcases bx i B with h1|h1
 .exact h1
 .rw[N i h1]at z;cases z
def gC (h:a_):∃H:mY,H.get=erHF h:=by
 obtain⟨B,hB⟩:=PT.bound h;obtain⟨y,hM⟩:=Zk h;refine ⟨PT.ofF (erHF h) (2^B*(2*y+2)),?_⟩;funext n;rw[PT.get_ofF];split
 .rfl
 .rename_i L;cases D:erHF h n with
  |none=>rfl
  |some b=>
   exfalso;obtain⟨c,h1,A⟩:=iO D;have ho:ow n<B:=by
    rcases bx (ow n) B with z|z
    .exact z
    .rw[hB _ z]at h1;cases h1
   have hi:ix n<=y:=by
    have:=hM _ c h1;cases N:ix n with
    |zero=>omega
    |succ k=>
     rw[N]at A;have:=Zl A;omega
   have he:=kO n;unfold jE at he;have z:2^ow n*(2*ix n+1)<=2^B*(2*y+2):=Nat.mul_le_mul (Nat.pow_le_pow_right (by omega) (by omega)) (by omega);have h4:=QU (ow n) (ix n);generalize 2^ow n*(2*ix n+1)=p at he z h4;generalize 2^B*(2*y+2)=q at L z;omega
variable {u:TV}
def c9 {r:Y TV} {l:Y AV} (he:cP h (u::r)=Z l):∃y l',l=y::l'/\b9 h u=Z y/\cP h r=Z l':=by
 simp only[cP]at he;split at he
 .rename_i y z;split at he
  .rename_i l' A;simp only[af]at he;exact⟨y,l',he.symm,z,A⟩
  .cases he
 .cases he
def qo {r:Y TV} {l':Y AV} (h1:b9 h u=Z y) (z:cP h r=Z l'):cP h (u::r)=Z (y::l'):=by
 simp only[cP,h1,z]
def gU :∀{l:Y TV} {l':Y AV},cP h l=Z l'->l! l'=l! l
 |[],l',he=>by simp only[cP,af]at he;subst he;rfl
 |x::r,l',he=>by
  obtain⟨y,A,rfl,_,z⟩:=c9 he;simp[gU z]
def oP :∀{a b:Y TV} {A b':Y AV},cP h a=Z A->cP h b=Z b'->cP h (a++b)=Z (A++b')
 |[],b,A,b',z,D=>by simp only[cP,af]at z;subst z;exact D
 |x::r,b,A,b',z,D=>by
  obtain⟨y,N,rfl,h1,L⟩:=c9 z;exact qo h1 (oP L D)
def Ec :∀{a b:Y TV} {l:Y AV},cP h (a++b)=Z l->∃z b',l=z++b'/\cP h a=Z z/\cP h b=Z b'
 |[],b,l,he=>⟨[],l,rfl,rfl,he⟩
 |x::r,b,l,he=>by
  obtain⟨y,N,rfl,h1,L⟩:=c9 he;obtain⟨z,b',rfl,D,A⟩:=Ec L;exact⟨y::z,b',rfl,qo h1 D,A⟩
def Hs :∀{l:Y TV} {l':Y AV} (n:Nat),cP h l=Z l'->cP h (l.take n)=Z (l'.take n)
 |[],l',n,he=>by simp only[cP,af]at he;subst he;simp[cP]
 |x::r,l',n,he=>by
  obtain⟨y,A,rfl,h1,z⟩:=c9 he;cases n with
  |zero=>simp[cP]
  |succ n=>exact qo h1 (Hs n z)
def Hu :∀{l:Y TV} {l':Y AV} (n:Nat),cP h l=Z l'->cP h (l.drop n)=Z (l'.drop n)
 |[],l',n,he=>by simp only[cP,af]at he;subst he;simp[cP]
 |x::r,l',n,he=>by
  obtain⟨y,A,rfl,h1,z⟩:=c9 he;cases n with
  |zero=>exact he
  |succ n=>simpa using Hu n z
def oO {l vs:Y TV} {l' vs':Y AV} (off:Nat) (h1:cP h l=Z l') (z:cP h vs=Z vs'):cP h (splice l off vs)=Z (splice l' off vs'):=by
 unfold splice;rw[gU z];exact oP (oP (Hs _ h1) z) (Hu _ h1)
def lF :∀{l:Y TV} {l':Y AV},cP h l=Z l'->∀(j:Nat) x,l[j]? =Z x->∃y,l'[j]? =Z y/\b9 h x=Z y
 |[],l',he,j,x,D=>by simp at D
 |x::r,l',he,j,z,A=>by
  obtain⟨y,N,rfl,h1,L⟩:=c9 he;cases j with
  |zero=>simp at A;subst A;exact⟨y,rfl,h1⟩
  |succ j=>simpa using lF L j z (by simpa using A)
mutual
def oe (h:a_):∀(u:TV),N0 h u=J->∃y,b9 h u=Z y
 |.f _ _,_|.zk _ _ _ _ _,_|.ql _ _ _ _,_|.H _ _,_|.qv _ _ _,_=>⟨_,rfl⟩
 |.G id,he|.zm id jj,he=>by
  simp only[N0]at he;cases hr:eE h id with
  |none=>rw[hr]at he;cases he
  |some r=>obtain⟨p,sz,n⟩:=r;exact⟨_,by simp only[b9,hr];rfl⟩
 |.emp,_|.nil,_|.mp _,_=>⟨_,rfl⟩
 |.agg l,he|.qg l,he|.qy g l,he=>by obtain⟨y,hy⟩:=eX h l he;exact⟨_,by simp only[b9,hy];rfl⟩
 |.undef,_|.np,_|.qw,_|.qd _ _,_|.sb _,_=>⟨_,rfl⟩
def eX (h:a_):∀(l:Y TV),lR h l=J->∃l',cP h l=Z l'
 |[],_=>⟨[],rfl⟩
 |x::r,he=>by
  simp only[lR,ak]at he;obtain⟨y,hy⟩:=oe h x he.1;obtain⟨l',hl⟩:=eX h r he.2;exact⟨_,qo hy hl⟩
end
def b7 (h h':a_):Prop:=∀id r,eE h id=Z r->eE h' id=Z r
mutual
def ft {h h':a_} (hk:b7 h h'):∀(u:TV) (y:AV),b9 h u=Z y->b9 h' u=Z y
 |.f _ _,y,he=>he
 |.zk _ _ _ _ _,y,he=>he
 |.ql _ _ _ _,y,he=>he
 |.H _ _,y,he=>he
 |.qv _ _ _,y,he=>he
 |.G id,y,he|.zm id jj,y,he=>by
  simp only[b9]at he ⊢;split at he
  .rename_i p sz n hr;rw[hk _ _ hr];exact he
  .cases he
 |.emp,y,he=>he
 |.nil,y,he=>he
 |.mp _,y,he=>he
 |.agg l,y,he|.qg l,y,he|.qy g l,y,he=>by
  simp only[b9]at he ⊢;split at he
  .rename_i l' hl;rw[fY hk l l' hl];exact he
  .cases he
 |.undef,y,he=>he
 |.np,y,he=>he
 |.qw,y,he=>he
 |.qd _ _,y,he=>he
 |.sb _,y,he=>he
def fY {h h':a_} (hk:b7 h h'):∀(l:Y TV) (l':Y AV),cP h l=Z l'->cP h' l=Z l'
 |[],l',he=>he
 |x::r,l',he=>by
  obtain⟨y,l2,rfl,h1,h2⟩:=c9 he;exact qo (ft hk x y h1) (fY hk r l2 h2)
end
mutual
def l_ {h h':a_} (hk:b7 h h'):∀(u:TV),N0 h u=J->N0 h' u=J
 |.f _ _,_|.zk _ _ _ _ _,_|.ql _ _ _ _,_|.H _ _,_|.qv _ _ _,_=>rfl
 |.G id,he|.zm id jj,he=>by
  simp only[N0]at he ⊢;cases hr:eE h id with
  |none=>rw[hr]at he;cases he
  |some r=>rw[hk _ _ hr];rfl
 |.emp,_|.nil,_|.mp _,_=>rfl
 |.agg l,he|.qg l,he|.qy g l,he=>fd hk l he
 |.undef,_|.np,_|.qw,_|.qd _ _,_|.sb _,_=>rfl
def fd {h h':a_} (hk:b7 h h'):∀(l:Y TV),lR h l=J->lR h' l=J
 |[],_=>rfl
 |x::r,he=>by
  simp only[lR,ak]at he ⊢;exact⟨l_ hk x he.1,fd hk r he.2⟩
end
mutual
def Hr (h:a_):∀(u:TV) (y:AV),b9 h u=Z y->N0 h u=J
 |.f _ _,_,_|.zk _ _ _ _ _,_,_|.ql _ _ _ _,_,_|.H _ _,_,_|.qv _ _ _,_,_=>rfl
 |.G id,y,he|.zm id jj,y,he=>by
  simp only[N0,b9]at he ⊢;cases hr:eE h id with
  |none=>rw[hr]at he;cases he
  |some r=>rfl
 |.emp,_,_|.nil,_,_|.mp _,_,_=>rfl
 |.agg l,y,he|.qg l,y,he|.qy g l,y,he=>by
  simp only[b9]at he;split at he
  .rename_i l' hl;exact kQ h l l' hl
  .cases he
 |.undef,_,_|.np,_,_|.qw,_,_|.qd _ _,_,_|.sb _,_,_=>rfl
def kQ (h:a_):∀(l:Y TV) (l':Y AV),cP h l=Z l'->lR h l=J
 |[],_,_=>rfl
 |x::r,l',he=>by
  obtain⟨y,l2,rfl,h1,h2⟩:=c9 he;simp only[lR,ak];exact⟨Hr h x y h1,kQ h r l2 h2⟩
end
mutual
def UL (h h':a_):∀(u:TV),vO u=J->b9 h u=b9 h' u
 |.f _ _,_|.zk _ _ _ _ _,_|.ql _ _ _ _,_|.H _ _,_|.qv _ _ _,_=>rfl
 |.G id,he=>by cases he
 |.emp,_|.nil,_|.mp _,_=>rfl
 |.agg l,he|.qg l,he=>by simp only[b9];rw[Ht h h' l he]
 |.qy g l,he=>by cases he
 |.undef,_|.np,_|.qw,_|.qd _ _,_=>rfl
 |.sb _,he=>by cases he
def Ht (h h':a_):∀(l:Y TV),rO l=J->cP h l=cP h' l
 |[],_=>rfl
 |x::r,he=>by
  simp only[rO,ak]at he;simp only[cP];rw[UL h h' x he.1,Ht h h' r he.2]
end
def Q9 (he:b9 h u=Z y) (A:u.isC=J):y.isCell=J:=by
 cases u with
 |f T v=>cases T<;>simp only[b9,af]at he<;>subst he<;>first|rfl|(simp [TV.isC,Ty.one]at A)
 |G id=>
  simp only[b9]at he;split at he
  .cases he;unfold dm;split<;>rfl
  .cases he
 |zm id D|agg l|qg l|undef|qw|qd T xs=>cases A
 |qy g l=>
  simp only[b9]at he;split at he
  .cases he;rfl
  .cases he
 |sb s=>simp only[b9,af]at he;subst he;cases s<;>first|rfl|(simp only[JB,ue];split<;>rfl)
 |_=>simp only[b9,af]at he;subst he;rfl
def tC :∀{l:Y TV} {l':Y AV},cP h l=Z l'->lO l=J->gw l'=J
 |[],l',he,_=>by simp only[cP,af]at he;subst he;rfl
 |x::r,l',he,z=>by
  obtain⟨y,D,rfl,h1,A⟩:=c9 he;simp only[lO,ak]at z;simp only[gw,ak];exact⟨Q9 h1 z.1,tC A z.2⟩
def Le (x y:AV):Prop:=∀(φ:PM) (O:Nat->Prop) (w:World) (v:Value),cq φ O w x v->cq φ O w y v
def Le.refl (x:AV):Le x x:=λ_ _ _ _ h=>h
def kl (H H':HF) (x y:AV):Prop:=∀(φ:PM) (E:Nat->Prop) (w:World) (v:Value),r_ φ E H w->cq φ (tot E φ H) w x v->cq φ (tot E φ H') w y v
def rh (H H':HF):Prop:=∀i b,H' i=Z b->∃b0,H i=Z b0
def rh.refl (H:HF):rh H H:=λ_ b h=>⟨b,h⟩
def rh.own {H':HF} (d:rh A H') (h:own V H' i):own V A i:=by
 obtain⟨k,b,h1,H⟩:=h;obtain⟨b0,z⟩:=d k b h1;exact⟨k,b0,z,H⟩
def rh.tot {H':HF} (d:rh A H') (h:tot O V H' i):tot O V A i:=h.imp id d.own
def cq.dom {H':HF} (d:rh A H') {w:World} (h:cq V (tot O V A) w y v):cq V (tot O V H') w y v:=
 h.ext (λ_ _ h=>h) (Gt.refl _ w) λ_ _ z=>d.tot z
def mX.dom {H':HF} (d:rh A H') {w:World} {x:FV} (h:mX (tot O V A) w x v):mX (tot O V H') w x v:=
 h.ext (Gt.refl _ w) λ_ _ z=>d.tot z
def Le.toH {H':HF} (d:rh A H') {x:AV} (h:Le x y):kl A H' x y:=λφ E w v _ z=>(h _ _ _ _ z).dom d
def kl.refl {H':HF} (d:rh A H') (x:AV):kl A H' x x:=(Le.refl x).toH d
def gL (H H':HF):Y AV->Y AV->Prop
 |[],[]=>True
 |x::xs,y::z=>kl H H' x y/\gL H H' xs z
 |_,_=>False
def gL.refl {H':HF} (d:rh A H'):∀l,gL A H' l l
 |[]=>trivial
 |x::r=>⟨kl.refl d x,gL.refl d r⟩
def gL.length {H':HF}:∀{l l':Y AV},gL A H' l l'->l! l'=l! l
 |[],[],_=>rfl
 |[],_::_,h|_::_,[],h=>h.elim
 |_::_,_::_,h=>by simp[gL.length h.2]
def gL.get {H':HF}:∀{l l':Y AV},gL A H' l l'->∀(j:Nat) y,l'[j]? =Z y->∃x,l[j]? =Z x/\kl A H' x y
 |[],[],_,j,y,H=>by simp at H
 |[],_::_,h,_,_,_|_::_,[],h,_,_,_=>h.elim
 |x::xs,z::ys,h,j,y,H=>by
  cases j with
  |zero=>simp at H;subst H;exact⟨x,rfl,h.1⟩
  |succ j=>simpa using gL.get h.2 j y (by simpa using H)
def gL.append {H':HF}:∀{a z b b':Y AV},gL A H' a z->gL A H' b b'->gL A H' (a++b) (z++b')
 |[],[],_,_,_,h=>h
 |[],_::_,_,_,h,_|_::_,[],_,_,h,_=>h.elim
 |_::_,_::_,_,_,h,h'=>⟨h.1,gL.append h.2 h'⟩
def gL.take {H':HF}:∀{a z:Y AV} (n:Nat),gL A H' a z->gL A H' (a.take n) (z.take n)
 |[],[],n,_=>by simp[gL]
 |[],_::_,_,h|_::_,[],_,h=>h.elim
 |_::_,_::_,0,_=>trivial
 |_::_,_::_,n+1,h=>⟨h.1,gL.take n h.2⟩
def gL.drop {H':HF}:∀{a z:Y AV} (n:Nat),gL A H' a z->gL A H' (a.drop n) (z.drop n)
 |[],[],n,_=>by simp[gL]
 |[],_::_,_,h|_::_,[],_,h=>h.elim
 |_::_,_::_,0,h=>h
 |_::_,_::_,n+1,h=>gL.drop n h.2
def gL.splice {H':HF} {a H b b':Y AV} (off:Nat) (h1:gL A H' a H) (z:gL A H' b b'):gL A H' (splice a off b) (splice H off b'):=by
 unfold AI.splice;rw[z.length];exact ((h1.take off).append z).append (h1.drop _)
def fH (H H':HF) (b b':kc):Prop:=∀(φ:PM) (E:Nat->Prop) (w:World) (o:Obj),r_ φ E H w->gy φ (tot E φ H) w b o->gy φ (tot E φ H') w b' o
def fH.refl {H':HF} (d:rh A H') (b:kc):fH A H' b b:=λ_ _ _ _ _ h=>h.mono λ_ _ h=>h.dom d
def mB {w:World} {c:BC} {o:Obj} (ty:c.isCells=J):gy V O w ⟨z,c⟩ o↔∃arr,o= .cells arr z (0,0)/\vb V O w c arr:=by
 unfold gy;cases c<;>simp[BC.isCells]at ty<;>rfl
def fH.C {H':HF} {c H:BC} (L:c.isCells=J) (ty:H.isCells=J) (hl:gL A H' c.toMx H.toMx) (hcell:∀x∈H.toMx,x.isCell=J):fH A H' ⟨z,c⟩ ⟨z,H⟩:=by
 intro φ E w o hrep N;rw[mB L]at N;rw[mB ty];obtain⟨arr,h1,h2,h3⟩:=N;refine ⟨arr,h1,by rw[BC.len_toMx ty,hl.length,<-BC.len_toMx L];exact h2,λj x D=>?_⟩;rw[BC.get_toMx ty]at D;refine ⟨hcell x (aX D),?_⟩;obtain⟨y,hy,hle⟩:=hl.get j x D;obtain⟨_,v,h5,h6⟩:=h3 j y (by rw[BC.get_toMx L];exact hy);exact⟨v,h5,hle _ _ _ _ hrep h6⟩
def ZV (ty:M TypeId) (l:Y AV):kc:=match ty with
 |some ty=>⟨ty,.mx l⟩
 |none=>⟨1,.mp (pS 0 l)⟩
def aor {es:Y j!} {ents:Array MapEntry}:Qg 1 es ents↔(∀m∈ents.toList,yh m.key)/\∀k∈es.map (·.1),yh k:=by
 unfold Qg;rw[av (by decide)]
def MpV1 {ents:Array MapEntry} {k:Value}:MpV 1 ents j k v↔v=lC k ents.toList:=by
 unfold MpV;rw[av (by decide)]
def fH.told {H':HF} {l l':Y AV} (hl:gL A H' l l'):fH A H' ⟨1,.mp (pS 0 l)⟩ ⟨1,.mp (pS 0 l')⟩:=by
 intro φ E w o hrep N;obtain⟨ents,clock,h1,h2,h3⟩:=N;refine ⟨ents,clock,h1,aor.2 ⟨(aor.1 h2).1,λk hk=>G8 k _ _ hk⟩,λj x H=>?_⟩;rw[Fe]at H;cases D:l'[j]? with
 |none=>rw[D]at H;cases H
 |some y=>
  rw[D]at H;cases H;obtain⟨z,L,hle⟩:=hl.get j y D;obtain⟨v,h4,h5⟩:=h3 j _ (by rw[Fe,L];rfl);exact⟨v,h4,hle _ _ _ _ hrep h5⟩
def fH.lay {H':HF} (n:Nat):fH A H' ⟨0,.mp []⟩ ⟨1,.mp (pS 0 (aF n (.f (.raw (.slice U 0 0)))))⟩:=by
 intro φ E w o hrep N;obtain⟨ents,clock,h1,H,h3⟩:=N;have H:ents.toList.map (·.key)=[]:=by unfold Qg at H;rw[aC rfl]at H;exact H
 have L:ents.toList=[]:=List.map_eq_nil_iff.1 H;refine ⟨ents,clock,h1,aor.2 ⟨λm hm=>(by rw[L]at hm;cases hm),λk hk=>G8 k _ _ hk⟩,λj x z=>?_⟩;rw[Fe]at z;cases D:(aF n (AV.f (.raw (.slice U 0 0))))[j]? with
 |none=>rw[D]at z;cases z
 |some y=>
  rw[D]at z;cases z;have hm:=aX D;rw[List.mem_replicate]at hm;obtain⟨_,rfl⟩:=hm;exact⟨_,MpV1.2 rfl,by rw[L];exact .f (.raw _)⟩
def fH.eq {H':HF} (d:rh A H') {c D:BC} (H:c.isCells=J) (ty:D.isCells=J) (hl:c.toMx=D.toMx):fH A H' ⟨z,c⟩ ⟨z,D⟩:=by
 intro φ E w o hrep N;rw[mB H]at N;rw[mB ty];obtain⟨arr,h1,h2,h3⟩:=N;refine ⟨arr,h1,by rw[BC.len_toMx ty,<-hl,<-BC.len_toMx H];exact h2,λj x L=>?_⟩;rw[BC.get_toMx ty,<-hl,<-BC.get_toMx H]at L;obtain⟨h4,v,h5,h6⟩:=h3 j x L;exact⟨h4,v,h5,h6.dom d⟩
structure JQ (H H':HF):Prop where
 dom:rh H H'
 jb:∀i b b',H i=Z b->H' i=Z b'->fH H H' b b'
def JQ.refl (H:HF):JQ H H:=⟨rh.refl H,λi b b' h h'=>by rw[h]at h';cases h';exact fH.refl (rh.refl H) b⟩
def JQ.qn {H':HF} (φ:JQ A H') {w:World} (r:r_ V O A w):r_ V O H' w:=by
 refine ⟨λi j b b' k H g2 g3 g4=>?_,λi b H=>?_,r.el,λg cells N=>(r.gl g cells N).dom φ.dom⟩
 .obtain⟨b0,z⟩:=φ.dom i b H;obtain⟨b1,D⟩:=φ.dom j b' g2;exact r.inj i j b0 b1 k z D g3 g4
 .obtain⟨b0,z⟩:=φ.dom i b H;obtain⟨k,L,p2,ob,p3,p4⟩:=r.at_ i b0 z;exact⟨k,L,p2,ob,p3,φ.jb i b0 b z H V O w ob r p4⟩
def gh.view {e:EF} {h:HF} {val':AV} {rd z wr' N:ι} {nw':HF} (ht:gh P d e h ⟨y,rd,z,A,N⟩) (hsub:∀i∈z,i∈wr'\/i∈rd)
 (hv:∀h':HF,(∀i∈rd,h' i=h i)->(∀i∈wr',h' i=h i)->JQ (e_ h' z A) (e_ h' wr' nw')/\kl (e_ h' z A) (e_ h' wr' nw') y val'):gh P d e h ⟨val',rd,wr',nw',N⟩:=by
 intro φ E h' w a h1 L h3 h4 h5;have hw:=ht φ E h' w a h1 (λi hi=>(hsub i hi).elim (L i) (h1 i)) h3 h4 h5;obtain⟨V,hle⟩:=hv h' h1 L;refine Sv ?_ hw;rintro a' w' ⟨v,φ',rfl,mv,nm',D,rel⟩;exact⟨v,φ',rfl,⟨mv.sub,mv.ext,λk hk ho=>mv.qr k hk (V.dom.own ho)⟩,nm',V.qn D,hle _ _ _ _ D rel⟩
def Le.nil:Le (.f (.raw (.slice U 0 0))) (.f (.sl [] 0)):=by
 intro φ O w v z;cases z with
 |f z=>cases z;exact .f (.nil U 0 (by unfold maxLen;omega))
def Le.emp:Le .emp (.f (.sl [] 0)):=by
 intro φ O w v z;cases z with
 |emp=>exact .f (.nil _ 0 (by unfold maxLen;omega))
def Le.nilEmp:Le (.f (.raw (.slice U 0 0))) .emp:=by
 intro φ O w v z;cases z with
 |f z=>cases z;exact .emp
def Le.aggF {l:Y FV}:Le (.f (.agg l)) (.agg (l.map .f)):=by
 intro φ O w v A;cases A with
 |f A=>
  cases A with
  |agg _ vs hl hcl hrr=>
   refine .agg (by simp[hl]) (λx z=>?_) λj x u z N=>?_
   .obtain⟨y,L,rfl⟩:=ch.1 z;exact hcl y L
   .rw[aT]at z;cases D:l[j]? with
    |none=>rw[D]at z;cases z
    |some y=>rw[D]at z;simp at z;subst z;exact .f (hrr j y u D N)
def af3 (l:Y AV):Le (Pm l) (.agg l):=by
 unfold Pm;split
 .rename_i z h;rw[nI h];exact Le.aggF
 .exact Le.refl _
def kl.aggL {H':HF} {l:Y AV} {l':Y FV} (h:gL A H' l (l'.map .f)) (hc:∀x∈l',x.isCell=J):kl A H' (.agg l) (.f (.agg l')):=by
 intro φ E w v hrep L;cases L with
 |@agg _ vs N hcl hrr=>
  refine .f (.agg l' vs (by rw[N,<-h.length];simp) hc λj y u z D=>?_);obtain⟨x,H,hle⟩:=h.get j (.f y) (by rw[aT,z];rfl);have:=hle φ E w u hrep (hrr j x u H D);cases this with
  |f h=>exact h
def kl.G {H':HF} (d:rh A H') {n:Nat} {cells:Y FV} (h1:A i=Z ⟨z,.fz cells⟩) (h2:H' i=U) (hl:l! cells=n*j):kl A H' (.G i j n) (.f (.sl cells n)):=by
 intro φ E w v r hr;cases hr with
 |@G _ _ _ c k hφ hn hcap hsh=>
  obtain⟨k',L,q2,_⟩:=r.at_ i _ h1;rw[hφ]at L;cases L;obtain⟨arr,N,p2,p3⟩:=r.cs h1 hφ rfl;have hk:k<w.heap.size:=(cw.1 N).1;have hlen:l! cells<=arr.size:=by simpa[BC.toMx] using p3
  have hnk:¬tot E φ H' k:=by
   rintro (hE|⟨sz,b,H,D⟩)
   .exact q2 hE
   .obtain⟨b0,g3⟩:=d sz b H;have:=r.inj sz i b0 _ k g3 h1 D hφ;subst this;rw[h2]at H;cases H
  have hget:∀(sz:Nat) x,cells[sz]? =Z x->∃u,arr[sz]? =Z u/\mX (tot E φ A) w x u:=λsz x ty=>by
   have hj:sz<l! cells:=(bi.1 ty).1;have hja:sz<arr.size:=by omega
   refine ⟨arr[sz],by simp[hja],?_⟩;have:=p2.2.2 sz (.f x) arr[sz] (by simp[BC.toMx,ty]) (by
    rw[cS,aC (by simpa[BC.toMx] using hj),bE];simp[hja])
   cases this with
   |f h=>exact h
  refine .f (.sl cells n c k 0 (λsz=>(arr[sz]?).getD undef) hn hcap hnk hk (λx ty=>?_) (λsz hj=>?_) (λsz x ty=>?_))
  .have:=p2.2.1 (.f x) (by simp only[BC.toMx];exact ch.2 ⟨x,ty,rfl⟩);exact this
  .have:sz<arr.size:=by omega
   simp[Qm,N,this]
  .obtain⟨u,H,D⟩:=hget sz x ty;rw[H];exact D.dom d
def tQ:∀l:Y Xp,Ml l=l.flatMap yp
 |[]=>rfl
 |x::r=>by rw[Ml,tQ r];rfl
def BA:∀l:Y Sx,Mk l=l.flatMap Ar
 |[]=>rfl
 |x::r=>by rw[Mk,BA r];rfl
def Mj (e:Xp):bN PF (Qt e)=yp e:=by
 cases e with
 |mk op n name l=>simp only[PF,Qt,bN,yp,Xp.op,Xp.n,Xp.name,Xp.l,tQ];rfl
def UW (x:PF.den):yp (eD x)=bN PF x:=by
 simp only[PF,eD,bN,yp,tQ];rfl
def Mi (e:Sx):bN O9 (Qs e)=Ar e:=by
 cases e with
 |mk op line name arg index expr body els=>simp only[O9,Qs,bN,Ar,Sx.op,Sx.line,Sx.name,Sx.arg,Sx.index,Sx.expr,Sx.body,Sx.els,tQ,BA];rfl
def UV (x:O9.den):Ar (pa x)=bN O9 x:=by
 simp only[O9,pa,bN,Ar,tQ,BA];rfl
def zR (e:Xp):l! (yp e)=4:=by cases e;simp[yp]
def FA (e:Sx):l! (Ar e)=11:=by cases e;simp[Ar,zR]
def bw:∀(T:Ty) (v:T.den),l! (bN T v)=T.size
 |.int _,_|.bool,_|.str,_|.sl _,_=>rfl
 |.st t,v=>bw t v
 |.pr a b,v=>by simp[bN,Ty.size,bw a,bw b]
 |.un,_=>rfl
 |.ex,v=>zR v
 |.sm,v=>FA v
def Mm (e:Xp):∀x∈yp e,x.isCell=J:=by
 cases e with
 |mk op n name l=>
  intro x z;simp only[yp,aZ,cu,fJ]at z;rcases z with rfl|rfl|rfl|rfl<;>rfl
def XW (e:Sx):∀x∈Ar e,x.isCell=J:=by
 cases e with
 |mk op line name arg index expr body els=>
  intro x z;simp only[Ar,bG,aZ,cu,fJ]at z;rcases z with (z|z)|z
  .rcases z with rfl|rfl|rfl|rfl|rfl<;>rfl
  .exact Mm _ _ z
  .rcases z with rfl|rfl<;>rfl
def pj:∀(T:Ty) (v:T.den),∀x∈bN T v,x.isCell=J
 |.int _,_,x,z|.bool,_,x,z|.str,_,x,z|.sl _,_,x,z=>by simp only[bN,aE]at z;subst z;rfl
 |.st t,v,x,z=>pj t v x z
 |.pr a b,v,x,z=>by
  simp only[bN,bG]at z;exact z.elim (pj a v.1 x) (pj b v.2 x)
 |.un,_,x,z=>by simp[bN]at z
 |.ex,v,x,z=>Mm v x z
 |.sm,v,x,z=>XW v x z
def FB:∀(T:Ty) (v:T.den),T.one=J->bN T v=[fS T v]/\T.size=1
 |.int _,_,_|.bool,_,_|.str,_,_|.sl _,_,_=>⟨rfl,rfl⟩
 |.st _,_,h|.pr _ _,_,h|.un,_,h|.ex,_,h|.sm,_,h=>by cases h
def rW:∀(T:Ty) (v:T.den),T.one=aa->fS T v= .agg (bN T v)
 |.int _,_,h|.bool,_,h|.str,_,h|.sl _,_,h=>by cases h
 |.st _,_,_|.pr _ _,_,_|.un,_,_|.ex,_,_|.sm,_,_=>rfl
def Cq (T:Ty) (v:T.den):(AV.f (fS T v)).cs=(bN T v).map .f:=by
 cases h:T.one with
 |true=>
  rw[(FB T v h).1];cases T<;>simp only[Ty.one]at h<;>first|rfl|cases h
 |false=>rw[rW T v h];rfl
def dY {f:R->Y FV} (hf:∀x,l! (f x)=i):∀(xs:Y R),l! (xs.flatMap f)=l! xs*i
 |[]=>by simp
 |x::r=>by rw[fW,bc,hf,dY hf r,bK,iD];omega
def Hm {f:R->Y FV} (hf:∀x,l! (f x)=i):∀(xs:Y R) (j:Nat) (x:R),xs[j]? =Z x->∃r,(xs.flatMap f).drop (j*i)=f x++r
 |[],j,x,h=>by simp at h
 |y::r,j,x,h=>by
  cases j with
  |zero=>simp at h;subst h;exact⟨r.flatMap f,by simp⟩
  |succ j=>
   obtain⟨q,z⟩:=Hm hf r j x (by simpa using h);refine ⟨q,?_⟩;rw[fW,show (j+1)*i=l! (f y)+j*i from by rw[hf,iD];omega,wK];simp[z]
def L5 {f:R->Y FV} (hf:∀x,l! (f x)=i):∀(xs:Y R) (j:Nat) (x z:R),xs[j]? =Z x->∀(off:Nat) (vs:Y FV),off+l! vs<=i->f z=AI.splice (f x) off vs->(xs.set j z).flatMap f=AI.splice (xs.flatMap f) (j*i+off) vs
 |[],j,x,z,h,_,_,_,_=>by simp at h
 |y::r,j,x,z,h,off,vs,hle,D=>by
  cases j with
  |zero=>
   simp at h;subst h;simp only[List.set_cons_zero,fW,D,Nat.zero_mul,bF];unfold AI.splice;have N:=hf y;rw[List.take_append,wK];have A:off-l! (f y)=0:=by omega
   have e2:off+l! vs-l! (f y)=0:=by omega
   rw[A,e2];simp[iV]
  |succ j=>
   have L:=L5 hf r j x z (by simpa using h) off vs hle D;simp only[List.set_cons_succ,fW,L];unfold AI.splice;have N:=hf y;have e0:(j+1)*i=l! (f y)+j*i:=by rw[hf,iD];omega
   rw[e0,List.take_append,wK];have A:l! (f y)+j*i+off-l! (f y)=j*i+off:=by omega
   have e2:l! (f y)+j*i+off+l! vs-l! (f y)=j*i+off+l! vs:=by omega
   rw[A,e2,gp (by omega:l! (f y)<=l! (f y)+j*i+off),s6 (by omega:l! (f y)<=l! (f y)+j*i+off+l! vs)];simp[iV]
def ml (T:Ty) (xs:Y T.den):∀x∈xs.flatMap (bN T),x.isCell=J:=λx z=>by
 obtain⟨y,_,h⟩:=sh.1 z;exact pj T y x h
def gV {S:Ty} {v:S.den} {x:T.den} (h:tV T v=Z x):∃e:S=T,x=e▸v:=by
 unfold tV at h;split at h
 .rename_i e;simp only[af]at h;exact⟨e,h.symm⟩
 .cases h
def mV (h:a_):∀(n:Nat) (T:Ty) (v:T.den) (l:Y TV),cellsOf n T v=Z l->cP h l=Z ((bN T v).map .f)/\lO l=J
 |0,_,_,_,he=>by simp[cellsOf]at he
 |n+1,.st t,v,l,he=>mV h n t v l he
 |n+1,.pr a b,v,l,he=>by
  simp only[cellsOf]at he;split at he
  .rename_i x y L D;cases he;obtain⟨h1,A⟩:=mV h n a v.1 x L;obtain⟨N,h4⟩:=mV h n b v.2 y D;refine ⟨by rw[bN,cJ];exact oP h1 N,?_⟩;clear h1 N L D;induction x with
   |nil=>exact h4
   |cons z r ih=>simp only[lO,ak,gG]at A ⊢;exact⟨A.1,ih A.2⟩
  .cases he
 |n+1,.un,v,l,he=>by simp only[cellsOf,af]at he;subst he;exact⟨rfl,rfl⟩
 |n+1,.ex,v,l,he=>by rw[bN,<-Mj];exact mV h n PF (Qt v) l he
 |n+1,.sm,v,l,he=>by rw[bN,<-Mi];exact mV h n O9 (Qs v) l he
 |n+1,.int k,v,l,he|n+1,.bool,v,l,he|n+1,.str,v,l,he|n+1,.sl t,v,l,he=>by simp only[cellsOf,af]at he;subst he;exact⟨rfl,rfl⟩
def QM (h:y.isCell=J):y.cs=[y]:=by
 cases y with
 |f x=>cases x<;>first|rfl|cases h
 |agg l=>cases h
 |_=>rfl
def I6 {l:Y TV} (A:u.cs=Z l) (D:b9 h u=Z y):cP h l=Z y.cs/\lO l=J:=by
 have one:(if u.isC then Z [u] else U)=Z l->cP h l=Z y.cs/\lO l=J:=λA=>by
  split at A
  .rename_i L;cases A;exact⟨by rw[QM (Q9 D L)];exact qo D rfl,by simp[lO,L]⟩
  .cases A
 cases u with
 |agg q=>
  simp only[TV.cs]at A;split at A
  .rename_i L;cases A;simp only[b9]at D;split at D
   .rename_i l' N;cases D;exact⟨N,L⟩
   .cases D
  .cases A
 |f T x=>
  simp only[TV.cs]at A;simp only[b9,af]at D;subst D;rw[Cq];exact mV h 40 T x l A
 |_=>exact one A
def Eo (h:a_) (H H':HF) (m:Nat):Prop:=∀id,aK m id=J->H (nm id)=erHF h (nm id)/\H' (nm id)=U
def Eo.zero {H':HF}:Eo h A H' 0:=λid hid=>by simp at hid
def Eo.or {H':HF} (g:Eo h A H' (i|||j)):Eo h A H' i/\Eo h A H' j:=
 ⟨λid hid=>g id (by rw[bn,hid];rfl),λid hid=>g id (by rw[bn,hid];simp)⟩
def bu :aK (gf i) j=J↔i=j:=by
 unfold gf;rw[Nat.one_shiftLeft,Nat.testBit_two_pow];simp
section pack
variable {h:a_} {H H':HF}
def z_ (d:rh H H') {x:T.den} (A:ie h T u=Z (x,i)) (D:b9 h u=Z y) (g:Eo h H H' i):kl H H' y (.f (fS T x))/\l! y.cs=T.size/\(T.one=J->y.isCell=J)/\gL H H' y.cs ((bN T x).map .f):=by
 cases u with
 |f S u=>
  simp only[ie]at A;split at A
  .rename_i z L;simp only[af,aG]at A;obtain⟨rfl,_⟩:=A;obtain⟨e,rfl⟩:=gV L;subst e;simp only[b9,af]at D;subst D;refine ⟨kl.refl d _,by rw[Cq,bH,bw],λho=>?_,by rw[Cq];exact gL.refl d _⟩;cases S<;>simp only[Ty.one]at ho<;>first|rfl|cases ho
  .cases A
 |emp=>
  simp only[ie]at A;split at A
  .simp only[af,aG]at A;obtain⟨rfl,_⟩:=A;simp only[b9,af]at D;subst D;exact⟨Le.emp.toH d,rfl,λ_=>rfl,⟨Le.emp.toH d,trivial⟩⟩
  .cases A
 |nil=>
  simp only[ie]at A;split at A
  .simp only[af,aG]at A;obtain⟨rfl,_⟩:=A;simp only[b9,af]at D;subst D;exact⟨Le.nil.toH d,rfl,λ_=>rfl,⟨Le.nil.toH d,trivial⟩⟩
  .cases A
 |G id=>
  simp only[ie]at A;split at A
  .rename_i ty p S xs hb;split at A
   .rename_i z L;cases A;obtain⟨e,rfl⟩:=gV L;subst e;obtain⟨g1,g2⟩:=g id (bu.2 rfl);rw[bL,hb]at g1;simp only[b9,eE,hb,af]at D;subst D;have key:kl H H' (dm p id S.size (l! xs)) (.f (fS (.sl S) xs)):=by
     unfold dm;split
     .rename_i hp;simp only[ak,cG]at hp;have:xs=[]:=dG.1 hp.2;subst this;exact Le.emp.toH d
     .rename_i hp;simp only[aB,jR,av hp]at g1;exact kl.G d g1 g2 (dY (bw S) xs)
    have N:(dm p id S.size (l! xs)).isCell=J:=by unfold dm;split<;>rfl
    refine ⟨key,by rw[QM N];rfl,λ_=>N,?_⟩;rw[QM N];exact⟨key,trivial⟩
   .cases A
  .cases A
 |_=>simp[ie]at A
def rq (d:rh H H'):∀(n:Nat) (T:Ty) (l:Y TV) (x:T.den) (m:Nat) (r:Y TV) (l':Y AV),fc h n T l=Z (x,m,r)->cP h l=Z l'->Eo h H H' m->∃l1 A,l'=l1++A/\cP h r=Z A/\gL H H' l1 ((bN T x).map .f)
 |0,_,_,_,_,_,_,hp,_,_=>by simp[fc]at hp
 |n+1,.st t,l,x,m,r,l',hp,z,g=>rq d n t l x m r l' hp z g
 |n+1,.pr a b,l,x,m,r,l',hp,z,g=>by
  simp only[fc]at hp;split at hp
  .rename_i D m1 r1 h1;split at hp
   .rename_i x2 m2 r2 h2;simp only[af,aG]at hp;obtain⟨rfl,rfl,rfl⟩:=hp;obtain⟨ga,gb⟩:=g.or;obtain⟨l1,A,rfl,N,L⟩:=rq d n a l D m1 r1 l' h1 z ga;obtain⟨l3,l4,rfl,q3,q4⟩:=rq d n b r1 x2 m2 r2 A h2 N gb;refine ⟨l1++l3,l4,by simp,q3,?_⟩;rw[bN,cJ];exact L.append q4
   .cases hp
  .cases hp
 |n+1,.un,l,x,m,r,l',hp,z,g=>by
  simp only[fc,af,aG]at hp;obtain⟨_,_,rfl⟩:=hp;exact⟨[],l',rfl,z,trivial⟩
 |n+1,.ex,l,x,m,r,l',hp,z,g=>by
  simp only[fc]at hp;split at hp
  .rename_i D m1 r1 h1;simp only[af,aG]at hp;obtain⟨rfl,rfl,rfl⟩:=hp;rw[bN,UW];exact rq d n PF l D m1 r1 l' h1 z g
  .cases hp
 |n+1,.sm,l,x,m,r,l',hp,z,g=>by
  simp only[fc]at hp;split at hp
  .rename_i D m1 r1 h1;simp only[af,aG]at hp;obtain⟨rfl,rfl,rfl⟩:=hp;rw[bN,UV];exact rq d n O9 l D m1 r1 l' h1 z g
  .cases hp
 |n+1,.int k,l,x,m,r,l',hp,z,g|n+1,.bool,l,x,m,r,l',hp,z,g|n+1,.str,l,x,m,r,l',hp,z,g|n+1,.sl t,l,x,m,r,l',hp,z,g=>by
  simp only[fc]at hp;split at hp
  .rename_i c q;split at hp
   .rename_i D m1 h1;simp only[af,aG]at hp;obtain⟨rfl,rfl,rfl⟩:=hp;obtain⟨y,A,rfl,N,L⟩:=c9 z;exact⟨[y],A,rfl,L,⟨(z_ d h1 N g).1,trivial⟩⟩
   .cases hp
  .cases hp
def W7 (d:rh H H') {l:Y TV} {x:T.den} {l':Y AV} (hp:fc h i T l=Z (x,j,[])) (D:cP h l=Z l') (g:Eo h H H' j):gL H H' l' ((bN T x).map .f):=by
 obtain⟨N,L,rfl,z,A⟩:=rq d i T l x j [] l' hp D g;simp only[cP,af]at z;subst z;simpa using A
def Sc (d:rh H H') {x:T.den} (A:Ds h T u=Z (x,i)) (D:b9 h u=Z y) (g:Eo h H H' i):kl H H' y (.f (fS T x))/\gL H H' y.cs ((bN T x).map .f):=by
 have other:ie h T u=Z (x,i)->kl H H' y (.f (fS T x))/\gL H H' y.cs ((bN T x).map .f):=λA=>by
  obtain⟨h1,_,_,h2⟩:=z_ d A D g;exact⟨h1,h2⟩
 cases u with
 |agg l=>
  simp only[Ds]at A;split at A
  .cases A
  .rename_i N;split at A
   .rename_i L m1 h1;simp only[af,aG]at A;obtain⟨rfl,rfl⟩:=A;simp only[b9]at D;split at D
    .rename_i l' hl;simp only[af]at D;subst D;have:=W7 d h1 hl g;refine ⟨?_,this⟩;rw[rW T L (by simpa using N)];exact kl.aggL this (pj T L)
    .cases D
   .cases A
 |_=>exact other A
def E0 (d:rh H H') :∀(n:Nat) (l:Y TV) (xs:Y T.den) (m:Nat) (l':Y AV),AY h T n l=Z (xs,m)->cP h l=Z l'->Eo h H H' m->gL H H' l' ((xs.flatMap (bN T)).map .f)/\l! xs=n
 |0,[],xs,m,l',hp,z,g=>by
  simp only[AY,af,aG]at hp;obtain⟨rfl,_⟩:=hp;simp only[cP,af]at z;subst z;exact⟨trivial,rfl⟩
 |0,_::_,xs,m,l',hp,z,g=>by simp[AY]at hp
 |n+1,l,xs,m,l',hp,z,g=>by
  simp only[AY]at hp;split at hp
  .rename_i L m1 A h1;split at hp
   .rename_i D m2 h2;cases hp;obtain⟨ga,gb⟩:=g.or;obtain⟨l1,l2,rfl,q1,N⟩:=rq d 40 T l L m1 A l' h1 z ga;obtain⟨q3,q4⟩:=E0 d n A D m2 l2 h2 q1 gb;refine ⟨?_,by simp[q4]⟩;rw[fW,cJ];exact N.append q3
   .cases hp
  .cases hp
def tO (h:a_):∀(n:Nat) (T:Ty) (v:T.den) (off sz:Nat) (L:Bool) (u:TV),nQ n T v off sz L=Z u->off+sz<=T.size/\∃y,b9 h u=Z (.f y)/\(L=aa->sz=1/\(bN T v)[off]? =Z y)/\(L=J->y= .agg (((bN T v).drop off).take sz))
 |0,_,_,_,_,_,_,z=>by simp[nQ]at z
 |n+1,.st t,v,off,sz,L,u,z=>by
  simp only[nQ]at z;split at z
  .rename_i D;simp only[ak]at D;obtain⟨⟨h1,A⟩,rfl⟩:=D;have h1:=au h1;have A:=au A;subst h1 A;cases z;refine ⟨by simp[Ty.size],_,rfl,nofun,λ_=>?_⟩;simp only[fS,bN,List.drop_zero];rw[<- bw t v,cr]
  .exact tO h n t v off sz L u z
 |n+1,.pr a b,v,off,sz,L,u,z=>by
  simp only[nQ]at z;have hla:=bw a v.1;have hlb:=bw b v.2;split at z
  .rename_i hlt;have hlt:off<a.size:=aU hlt;obtain⟨h1,y,A,h3,N⟩:=tO h n a v.1 off sz L u z;refine ⟨by simp only[Ty.size];omega,y,A,λe=>?_,λe=>?_⟩
   .obtain⟨h5,h6⟩:=h3 e;exact⟨h5,by rw[bN,bj (by omega)];exact h6⟩
   .rw[N e,bN];have:((bN a v.1++bN b v.2).drop off).take sz=((bN a v.1).drop off).take sz:=by
     rw[sD (by omega),iU (by simp;omega)]
    rw[this]
  .rename_i hlt;have hlt:¬off<a.size:=λh=>hlt (aW h)
   obtain⟨h1,y,A,h3,N⟩:=tO h n b v.2 (off-a.size) sz L u z;refine ⟨by simp only[Ty.size];omega,y,A,λe=>?_,λe=>?_⟩
   .obtain⟨h5,h6⟩:=h3 e;exact⟨h5,by rw[bN,bO (by omega),hla];exact h6⟩
   .rw[N e,bN];have:(bN a v.1++bN b v.2).drop off=(bN b v.2).drop (off-a.size):=by
     rw[wK,hla,s6 (by omega)];simp
    rw[this]
 |n+1,.un,v,off,sz,L,u,z=>by simp[nQ]at z
 |n+1,.ex,v,off,sz,L,u,z=>by
  simp only[nQ]at z;split at z
  .rename_i D;simp only[ak]at D;obtain⟨⟨h1,A⟩,rfl⟩:=D;have h1:=au h1;have A:=au A;subst h1 A;cases z;refine ⟨by simp[Ty.size],_,rfl,nofun,λ_=>?_⟩;simp only[fS,bN,List.drop_zero];rw[<- zR v,cr]
  .obtain⟨h1,y,A,h3,N⟩:=tO h n PF (Qt v) off sz L u z;rw[Mj]at h3 N;exact⟨h1,y,A,h3,N⟩
 |n+1,.sm,v,off,sz,L,u,z=>by
  simp only[nQ]at z;split at z
  .rename_i D;simp only[ak]at D;obtain⟨⟨h1,A⟩,rfl⟩:=D;have h1:=au h1;have A:=au A;subst h1 A;cases z;refine ⟨by simp[Ty.size],_,rfl,nofun,λ_=>?_⟩;simp only[fS,bN,List.drop_zero];rw[<- FA v,cr]
  .obtain⟨h1,y,A,h3,N⟩:=tO h n O9 (Qs v) off sz L u z;rw[Mi]at h3 N;exact⟨h1,y,A,h3,N⟩
 |n+1,.int k,v,off,sz,L,u,z|n+1,.bool,v,off,sz,L,u,z|n+1,.str,v,off,sz,L,u,z|n+1,.sl t,v,off,sz,L,u,z=>by
  simp only[nQ]at z;split at z
  .rename_i D;simp only[ak,cV]at D;obtain⟨⟨h1,A⟩,rfl⟩:=D;have h1:=au h1;have A:=au A;subst h1 A;cases z;exact⟨by simp[Ty.size],_,rfl,λ_=>⟨rfl,rfl⟩,nofun⟩
  .cases z
def WR (l vs:Y R) (h:l! vs=l! l):AI.splice l 0 vs=vs:=by
 unfold AI.splice;rw[bF,h,List.drop_length];simp
def SU (a b vs:Y R) (off:Nat) (h:off+l! vs<=l! a):AI.splice (a++b) off vs=AI.splice a off vs++b:=by
 unfold AI.splice;rw[iU (by omega),sD (by omega)];simp[iV]
def QD (a b vs:Y R) (off:Nat) (h:l! a<=off):AI.splice (a++b) off vs=a++AI.splice b (off-l! a) vs:=by
 unfold AI.splice;rw[List.take_append,wK,gp h,s6 (by omega),show off+l! vs-l! a=off-l! a+l! vs from by omega];simp[iV]
def Qf (H H':HF) (y:AV) (T:Ty) (v z:T.den) (off sz:Nat):Prop:=∃A:Y FV,gL H H' y.cs (A.map .f)/\l! A=sz/\off+sz<=T.size/\bN T z=AI.splice (bN T v) off A/\∀x∈A,x.isCell=J
def Qf.whole {v z:T.den} (h0:i=0) (A:j=T.size) (D:gL H H' y.cs ((bN T z).map .f)):Qf H H' y T v z i j:=by
 subst h0 A;exact⟨bN T z,D,bw T z,by omega,(WR _ _ (by rw[bw,bw])).symm,pj T z⟩
def tF (d:rh H H') (L:b9 h u=Z y):∀(n:Nat) (T:Ty) (v:T.den) (off sz:Nat) (z:T.den) (m:Nat),gO h u n T v off sz=Z (z,m)->Eo h H H' m->Qf H H' y T v z off sz
 |0,_,_,_,_,_,_,A,_=>by simp[gO]at A
 |n+1,.st t,v,off,sz,z,m,A,g=>by
  simp only[gO]at A;split at A
  .rename_i q N;split at N
   .rename_i D;simp only[ak]at D;simp only[af]at A;subst A;exact .whole (au D.1) (au D.2) (Sc d N L g).2
   .cases N
  .exact tF d L n t v off sz z m A g
 |n+1,.pr a b,v,off,sz,z,m,A,g=>by
  simp only[gO]at A;have hla:=bw a v.1;split at A
  .rename_i hlt;split at A
   .rename_i z1 m1 h1;simp only[af,aG]at A;obtain⟨rfl,rfl⟩:=A;obtain⟨fs,q1,q2,q3,q4,q5⟩:=tF d L n a v.1 off sz z1 m1 h1 g;refine ⟨fs,q1,q2,by simp only[Ty.size];omega,?_,q5⟩;rw[bN,bN,SU _ _ _ _ (by omega),q4]
   .cases A
  .rename_i hlt;have hlt:¬off<a.size:=λh=>hlt (aW h)
   split at A
   .rename_i z1 m1 h1;simp only[af,aG]at A;obtain⟨rfl,rfl⟩:=A;obtain⟨fs,q1,q2,q3,q4,q5⟩:=tF d L n b v.2 (off-a.size) sz z1 m1 h1 g;refine ⟨fs,q1,q2,by simp only[Ty.size];omega,?_,q5⟩;rw[bN,bN,QD _ _ _ _ (by omega),q4,hla]
   .cases A
 |n+1,.un,v,off,sz,z,m,A,g=>by simp[gO]at A
 |n+1,.ex,v,off,sz,z,m,A,g=>by
  simp only[gO]at A;split at A
  .rename_i q N;split at N
   .rename_i D;simp only[ak]at D;simp only[af]at A;subst A;exact .whole (au D.1) (au D.2) (Sc d N L g).2
   .cases N
  .split at A
   .rename_i z1 m1 h1;simp only[af,aG]at A;obtain⟨rfl,rfl⟩:=A;obtain⟨fs,q1,q2,q3,q4,q5⟩:=tF d L n PF (Qt v) off sz z1 m1 h1 g;exact⟨fs,q1,q2,q3,by rw[bN,bN,UW,q4,Mj],q5⟩
   .cases A
 |n+1,.sm,v,off,sz,z,m,A,g=>by
  simp only[gO]at A;split at A
  .rename_i q N;split at N
   .rename_i D;simp only[ak]at D;simp only[af]at A;subst A;exact .whole (au D.1) (au D.2) (Sc d N L g).2
   .cases N
  .split at A
   .rename_i z1 m1 h1;simp only[af,aG]at A;obtain⟨rfl,rfl⟩:=A;obtain⟨fs,q1,q2,q3,q4,q5⟩:=tF d L n O9 (Qs v) off sz z1 m1 h1 g;exact⟨fs,q1,q2,q3,by rw[bN,bN,UV,q4,Mi],q5⟩
   .cases A
 |n+1,.int k,v,off,sz,z,m,A,g|n+1,.bool,v,off,sz,z,m,A,g|n+1,.str,v,off,sz,z,m,A,g|n+1,.sl t,v,off,sz,z,m,A,g=>by
  simp only[gO]at A;split at A
  .rename_i D;simp only[ak]at D;exact .whole (au D.1) (au D.2) (z_ d A L g).2.2.2
  .cases A
def Nd:∀{a b:ξ},VV a b=J->a=b
 |[],[],_=>rfl
 |[],_::_,h|_::_,[],h=>by cases h
 |x::xs,y::ys,h=>by
  simp only[VV,ak]at h;rw[akh h.1,Nd h.2]
def J3 (d:rh H H'):∀T:Ty,gL H H' ((ux T).map raw) ((bN T T.zero).map .f)
 |.int k|.bool|.str=>⟨kl.refl d _,trivial⟩
 |.sl t=>⟨Le.nil.toH d,trivial⟩
 |.st t=>J3 d t
 |.pr a b=>by
  simp only[ux,Ty.zero,bN,cJ];exact (J3 d a).append (J3 d b)
 |.un=>trivial
 |.ex=>⟨kl.refl d _,kl.refl d _,kl.refl d _,Le.nil.toH d,trivial⟩
 |.sm=>⟨kl.refl d _,kl.refl d _,kl.refl d _,kl.refl d _,Le.nil.toH d,kl.refl d _,kl.refl d _,kl.refl d _,Le.nil.toH d,Le.nil.toH d,Le.nil.toH d,trivial⟩
def J7 (d:rh H H') (T:Ty):∀n,gL H H' ((repl (ux T) n).map .f) (((aF n T.zero).flatMap (bN T)).map .f)
 |0=>trivial
 |n+1=>by
  rw[repl,kR,fW,cJ,cJ];have h1:=J3 (H:=H) (H':=H') d T;have:((ux T).map .raw).map AV.f=(ux T).map raw:=by rw[kN];rfl
  rw[this];exact h1.append (J7 d T n)
end pack
structure gW (h:a_) (nx:Nat):Prop where
 C:∀id ty l,h.get id=Z (.C ty l)->lR h l=J
 low:∀id b,h.get id=Z b->id<nx
def su (e:hX) (h:a_):Prop:=∀t v,e.get t=Z v->N0 h v=J
structure eT (P:Program) (o:Oper) (still:Bool) (e:hX) (h:a_) (nx:Nat) (v:TV) (rd wr:Nat) (h':a_) (nx':Nat):Prop where
 ex:∃f:Dy,gh P o (fG e h) (erHF h) f/\(∀y,b9 h' v=Z y->f.val=y)/\e_ (erHF h) f.wr f.nw=erHF h'/\(∀n∈f.rd,aK rd (ow n)=J)/\(∀n∈f.wr,aK wr (ow n)=J)/\(∀n∈f.N,nx<=ow n/\ow n<nx')
 F:b7 h h'
 inv:gW h' nx'
 jp:nx<=nx'
 st:still=J->rd=0/\wr=0
def iT (P:Program) (o:Oper) (still:Bool) (e:hX) (h:a_) (nx:Nat) (K:KO R) (r:R):Prop:=
 ∃v rd z h' nx',K v rd z h' nx'=Z r/\eT P o still e h nx v rd z h' nx'
def cL {k:b=J->M R} {r:R} (h:chk b k=Z r):∃z:b=J,k z=Z r:=by
 cases b with
 |true=>exact⟨rfl,h⟩
 |false=>cases h
def lN {t f:M R} {r:R} (h:aI b t f=Z r):(b=J/\t=Z r)\/(b=aa/\f=Z r):=by
 cases b with
 |true=>exact .inl ⟨rfl,h⟩
 |false=>exact .inr ⟨rfl,h⟩
def dV {α:Type} {o:M α} {k:α->M R} {r:R} (h:ay o k=Z r):∃x,o=Z x/\k x=Z r:=by
 cases o with
 |some x=>exact⟨x,rfl,h⟩
 |none=>cases h
variable {a:Int}
def mQ (h:fA a i=J):0<=a/\a<i/\a.toNat<i:=by
 simp only[fA,dg,fQ,ak,bR]at h;omega
def gh.envLe {e e2:EF} {f:Dy} (ht:gh P d e A f) (hle:∀t y,.tmp t∈d.op.operands->e t=Z y->∃h,e2 t=Z h/\Le h y):gh P d e2 A f:=by
 intro φ E h' w a h1 h2 h3 N L;refine ht φ E h' w a h1 h2 (λt z y D=>?_) N L;obtain⟨h,g1,g2⟩:=hle t y z D;exact g2 _ _ _ _ (h3 t z h g1)
def MV (h:a_) (z:cst v=Z u):b9 h u=Z (raw v)/\v.oneCell'=J/\u.isC=J:=by
 unfold cst at z;split at z<;>cases z<;>exact⟨rfl,rfl,rfl⟩
def wZ (h:a_):∀{z:ξ} {l:Y TV},MU z=Z l->cP h l=Z (z.map raw)/\(∀x∈z,x.oneCell'=J)/\lO l=J
 |[],l,A=>by simp only[MU,af]at A;subst A;exact⟨rfl,by simp,rfl⟩
 |v::r,l,A=>by
  simp only[MU]at A;split at A
  .rename_i x l' L N;cases A;obtain⟨h1,h2,h3⟩:=MV h L;obtain⟨h4,h5,h6⟩:=wZ h N;refine ⟨qo h1 h4,λy D=>?_,by simp[lO,h3,h6]⟩;rcases aZ.1 D with rfl|D
   .exact h2
   .exact h5 y D
  .cases A
variable {s:Operand}
def ba {e:hX} (hi:su e h) (z:dA e s=Z u):∃y,lZ (CU e h) s=Z y/\b9 h u=Z y:=by
 cases s with
 |tmp t=>
  simp only[dA]at z;obtain⟨y,D⟩:=oe h u (hi t u z);refine ⟨y,?_,D⟩;simp only[lZ];rw[Co];simp only[fG,z,aB,D]
 |const c=>
  simp only[dA]at z;unfold anv at z;split at z
  .rename_i vs;split at z
   .rename_i h1;split at z
    .rename_i l N;cases z;refine ⟨.agg (vs.toList.map raw),?_,by simp only[b9,(wZ h N).1]⟩;simp only[lZ,HE,h1,bk];rfl
    .cases z
   .cases z
  .rename_i L;refine ⟨raw c,?_,(MV h z).1⟩;simp only[lZ];unfold HE;split
   .rename_i vs;exact co rfl (L vs)
   .rfl
 |func g=>
  simp only[dA,af]at z;subst z;exact⟨_,rfl,rfl⟩
 |global g=>
  simp only[dA]at z;cases A:G g with
  |none=>rw[A]at z;cases z
  |some cells=>
   rw[A]at z;cases z;have hcells:cells=Fa:=by
    unfold G at A;split at A
    .cases A;rfl
    .cases A
   subst hcells;exact⟨_,by simp only[lZ,A];rfl,rfl⟩
def E5 {e:hX} (hi:su e h):∀{xs:Y Operand} {l:Y TV},K3 e xs=Z l->∃l',evs (CU e h) xs=Z l'/\cP h l=Z l'
 |[],l,z=>by simp only[K3,af]at z;subst z;exact⟨[],rfl,rfl⟩
 |x::xs,l,z=>by
  simp only[K3]at z;split at z
  .rename_i y D;split at z
   .rename_i ys hys;cases z;obtain⟨A,h1,h2⟩:=ba hi D;obtain⟨l',N,L⟩:=E5 hi hys;exact⟨A::l',by simp only[evs,h1,N],qo h2 L⟩
   .cases z
  .cases z
section ops
variable {R:Type} {P:Program} {o:Oper} {e:hX} {h:a_} {nx:Nat} {K:KO R} {r:R}
def eT.pure {s:OT} {st:Bool} (hinv:gW h nx) (N:cZ P o.op=Z s) {H:mY} (hH:H.get=erHF h) {k:Nat} {y0:AV} {rdl:ι} (ha:dx s (CU e h) H k=Z ⟨y0,rdl,[],[],[]⟩) (D:∀y,b9 h u=Z y->Le y0 y) (hrd:∀n∈rdl,aK i (ow n)=J) (hst:st=J->i=0):eT P o st e h nx u i 0 h nx:=by
 have ht:=K4 N ha;rw[Co,hH]at ht;refine ⟨?_,λ_ _ h=>h,hinv,bV _,λL=>⟨hst L,rfl⟩⟩;have key:∀y,Le y0 y->gh P o (fG e h) (erHF h) ⟨y,rdl,[],jS [],[]⟩:=λy hle=>
  gh.view ht (λrd hi=>by cases hi) λh' _ _=>⟨JQ.refl _,hle.toH (rh.refl _)⟩
 cases A:b9 h u with
 |none=>exact⟨_,ht,λy z=>by simp at z,by simp[Cv.eff,vp],hrd,by simp[Cv.eff],by simp[Cv.eff]⟩
 |some y=>exact⟨_,key y (D y A),λy' z=>by simpa using z,by simp[vp],hrd,by simp,by simp⟩
def iT.q {s:OT} {st:Bool} (hinv:gW h nx) (L:cZ P o.op=Z s) {k:Nat} {y0:AV} (N:∀H:mY,H.get=erHF h->dx s (CU e h) H k=rv y0) (A:∀y,b9 h u=Z y->Le y0 y) (D:K u 0 0 h nx=Z r):iT P o st e h nx K r:=by
 obtain⟨H,z⟩:=gC h;exact⟨u,0,0,h,nx,D,eT.pure hinv L z (N H z) A (by simp) λ_=>rfl⟩
def cU (A:b9 h u=Z y):∀y0,b9 h u=Z y0->Le y y0:=λy0 z=>by rw[A]at z;cases z;exact Le.refl _
def adz {xs:Y T.den} (L:fA a (l! xs)=J) {sz:Nat} (N:nQ 40 T (geti _ xs a) i sz b=Z u):
 ∃y,b9 h u=Z (.f y)/\(BC.fz (xs.flatMap (bN T))).sub? (a.toNat*T.size+i) sz b=Z (.f y):=by
 obtain⟨h1,y,h2,h3,h4⟩:=tO h 40 T _ i sz b u N;refine ⟨y,h2,?_⟩;obtain⟨_,_,hlt⟩:=mQ L;have D:xs[a.toNat]? =Z (geti _ xs a):=by
  unfold geti;rw[ax,aD hlt];rfl
 obtain⟨q,A⟩:=Hm (bw T) xs a.toNat _ D;have hlen:=dY (bw T) xs;have hle:(a.toNat+1)*T.size<=l! xs*T.size:=cQ _ hlt;rw[iD]at hle;have hl:=bw T (geti _ xs a);cases b with
 |false=>
  obtain⟨h5,h6⟩:=h3 rfl;subst h5;simp only[BC.sub?,BC.get];have:(xs.flatMap (bN T))[a.toNat*T.size+i]? =Z y:=by
   rw[<- il,A,bj (by omega)];exact h6
  rw[this];rfl
 |true=>
  simp only[BC.sub?];rw[aC (aW (by omega)),h4 rfl,<-List.drop_drop,A,sD (by omega),iU (by simp;omega)]
def alu {v:T.den} (A:nQ 40 T v i j b=Z u):
 ∃y,b9 h u=Z (.f y)/\(BC.fz (bN T v)).sub? i j b=Z (.f y):=by
 obtain⟨h1,y,h2,h3,N⟩:=tO h 40 T _ i j b u A;refine ⟨y,h2,?_⟩;have hl:=bw T v;cases b with
 |false=>
  obtain⟨L,D⟩:=h3 rfl;subst L;simp only[BC.sub?,BC.get,D];rfl
 |true=>
  simp only[BC.sub?];rw[aC (aW (by omega)),N rfl]
def YV {l:Y TV} {l':Y AV} (A:cP h l=Z l') (z:WN l i j b=Z u):∃y,b9 h u=Z y/\(BC.mx l').sub? i j b=Z y:=by
 cases b with
 |false=>
  simp only[WN]at z;split at z
  .rename_i h1;have h1:=au h1;subst h1;obtain⟨y,D,N⟩:=lF A i u z;exact⟨y,N,by simp only[BC.sub?,BC.get,D]⟩
  .cases z
 |true=>
  simp only[WN]at z;split at z
  .rename_i h1;cases z;have D:=Hs j (Hu i A);exact⟨.agg ((l'.drop i).take j),by simp only[b9,D],by simp only[BC.sub?,gU A,h1,bk]⟩
  .cases z
def TI (z:lenOf h u=Z i) (A:b9 h u=Z y):y.slen=Z i:=by
 unfold lenOf at z;split at z
 .cases z;simp only[b9,af]at A;subst A;rfl
 .cases z;simp only[b9,af]at A;subst A;rfl
 .cases z;simp only[b9,af]at A;subst A;rfl
 .rename_i id;simp only[b9]at A;cases D:eE h id with
  |none=>rw[D]at z;cases z
  |some q=>
   obtain⟨p,sz,m⟩:=q;rw[D]at z A;simp only[af]at z A;subst z A;unfold dm;split
   .rename_i hp;simp only[ak,cG]at hp;rw[hp.2];rfl
   .rfl
 .cases z;simp only[b9,af]at A;subst A;rfl
 .cases z;simp only[b9,af]at A;subst A;simp only[JB,ue];split
  .rename_i hp;rw[cG]at hp;rw[hp];rfl
  .rfl
 .cases z
def Gj (a b:ζ):tB ⟨a.toArray⟩ ⟨b.toArray⟩=decide (a=b):=by
 unfold tB;simp only[Bool.beq_eq_decide_eq]
def akg {op:BinOp} {v:TV} {q:TV->M R} (z:ao1 op u v q=Z r):∃a b c t,b9 h u=Z (raw a)/\b9 h v=Z (raw b)/\uX op a b=Z c/\b9 h t=Z (raw c)/\q t=Z r:=by
 unfold ao1 at z;split at z
 .rename_i k a D b;split at z
  .rename_i hkk;have hkk':k=D:=by simpa using hkk
   subst hkk';refine ⟨.int k a,.int k b,?_⟩;cases op<;>simp only[reduceCtorEq]at z<;>first
    |cases z
    |exact⟨_,_,rfl,rfl,(by simp only[uX,cm,bk]<;>rfl),rfl,z⟩
    |(obtain ⟨L,z⟩:=cL z
      have A:(b==(0:Int))=aa:=by simpa using L
      exact⟨_,_,rfl,rfl,by simp only[uX,cm,bk,A,bY,c7],rfl,z⟩)
  .cases z
 .rename_i a b;refine ⟨.string ⟨jI a⟩,.string ⟨jI b⟩,?_⟩;split at z
  .exact⟨.bool (decide ((a:ζ)=b)),_,rfl,rfl,by simp only[uX,Gj],rfl,z⟩
  .exact⟨.bool (!decide ((a:ζ)=b)),_,rfl,rfl,by simp only[uX,Gj],rfl,z⟩
  .cases z
 .cases z
def Z2 :∀{l:Y TV} {xs:Y T.den},yH T l=Z xs->∀k,k<l! l->l[k]? =Z (.f T (xs.getD k T.zero))
 |[],xs,_,k,A=>by simp at A
 |.f S v::r,xs,z,k,A=>by
  simp only[yH]at z;split at z
  .rename_i x D;split at z
   .rename_i l L;cases z;obtain⟨es,ex⟩:=gV D;cases es;subst ex;cases k with
    |zero=>rfl
    |succ k=>simpa using Z2 L k (by simpa using A)
   .cases z
  .cases z
 |.zk _ _ _ _ _::r,xs,z,k,A|.ql _ _ _ _::r,xs,z,k,A|.H _ _::r,xs,z,k,A|.qv _ _ _::r,xs,z,k,A|.G _::r,xs,z,k,A|.emp::r,xs,z,k,A|.nil::r,xs,z,k,A|.mp _::r,xs,z,k,A|.agg _::r,xs,z,k,A|.qg _::r,xs,z,k,A|.qy _ _::r,xs,z,k,A|.undef::r,xs,z,k,A|.np::r,xs,z,k,A|.qw::r,xs,z,k,A|.qd _ _::r,xs,z,k,A|.sb _::r,xs,z,k,A=>by simp[yH]at z
def Z1 {l:Y TV} {xs:Y T.den} (z:agv l=Z ⟨T,xs⟩):∀k,k<l! l->l[k]? =Z (.f T (xs.getD k T.zero)):=by
 unfold agv at z;split at z
 .split at z
  .rename_i D A;simp only[af]at z;cases z;exact Z2 A
  .cases z
 .cases z
variable (hinv:gW h nx) (hi:su e h)
include hinv hi
variable {X:FuncId->M cF} {W:TypeId->M Ty}
def K_mv {st:Bool} (D:cZ P o.op=Z (.mv s)) (z:eC X W (.op (.mv s)) e h nx K=Z r):iT P o st e h nx K r:=by
 simp only[eC]at z;split at z
 .rename_i v A;obtain⟨y,h1,L⟩:=ba hi A;exact iT.q (k:=0) hinv D (λH _=>by simp only[dx,h1]) (cU L) z
 .cases z
def apo {c b:Operand} {st:Bool} (hc:cZ P o.op=Z (.pick c s b)) (D:eC X W (.op (.pick c s b)) e h nx K=Z r):iT P o st e h nx K r:=by
 simp only[eC]at D;split at D
 .rename_i t hv;obtain⟨y,h1,h2⟩:=ba hi hv;simp only[b9,af]at h2;subst h2;rcases lN D with ⟨rfl,z⟩|⟨rfl,z⟩
  .split at z
   .rename_i v A;obtain⟨y2,N,L⟩:=ba hi A;exact iT.q (k:=0) hinv hc (λH _=>by simp only[dx,h1,fS,bk,N]) (cU L) z
   .cases z
  .split at z
   .rename_i v A;obtain⟨y2,N,L⟩:=ba hi A;exact iT.q (k:=0) hinv hc (λH _=>by simp only[dx,h1,fS,N,bY,c7]) (cU L) z
   .cases z
 .cases D
def apq {st:Bool} (N:cZ P o.op=Z (.zh s)) (D:eC X W (.op (.zh s)) e h nx K=Z r):iT P o st e h nx K r:=by
 simp only[eC]at D;split at D;all_goals first
  |(rename_i L
    obtain⟨y,h1,z⟩:=ba hi L;have A:=z;simp only[b9,af]at z;subst z;exact iT.q (k:=0) hinv N (λH _=>by simp only[dx,h1]) (cU A) D)
  |skip
 .rename_i g cap L;obtain⟨y,h1,z⟩:=ba hi L;have A:=z;simp only[b9]at z;split at z
  .cases z;exact iT.q (k:=0) hinv N (λH _=>by simp only[dx,h1]) (cU A) D
  .cases z
 .cases D
def asz {st:Bool} (L:cZ P o.op=Z (.not s)) (z:eC X W (.op (.not s)) e h nx K=Z r):iT P o st e h nx K r:=by
 simp only[eC]at z;split at z
 .rename_i b D;obtain⟨y,h1,A⟩:=ba hi D;simp only[b9,af]at A;subst A;exact iT.q (k:=0) hinv L (λH _=>by simp only[dx,h1,fS];rfl) (cU rfl) z
 .cases z
def apx {k:IntKind} {st:Bool} (L:cZ P o.op=Z (.conv k s)) (z:eC X W (.op (.conv k s)) e h nx K=Z r):iT P o st e h nx K r:=by
 simp only[eC]at z;split at z
 .rename_i N n D;obtain⟨y,h1,A⟩:=ba hi D;simp only[b9,af]at A;subst A;exact iT.q (k:=0) hinv L (λH _=>by simp only[dx,h1,fS];rfl) (cU rfl) z
 .cases z
def atd {y:Operand} {st:Bool} (hc:cZ P o.op=Z (.xj b s y)) (z:eC X W (.op (.xj b s y)) e h nx K=Z r):iT P o st e h nx K r:=by
 simp only[eC]at z;split at z
 .rename_i a neg N A;obtain⟨y,h1,L⟩:=ba hi N;obtain⟨y2,h3,D⟩:=ba hi A;simp only[b9,af]at L D;subst L D;exact iT.q (k:=0) hinv hc (λH _=>by simp only[dx,h1,h3,fS];rfl) (cU rfl) z
 .cases z
def ald {st:Bool} (hc:cZ P o.op=Z (.zf b s)) (A:eC X W (.op (.zf b s)) e h nx K=Z r):iT P o st e h nx K r:=by
 simp only[eC]at A;split at A
 .rename_i D;obtain⟨y,h1,z⟩:=ba hi D;simp only[b9,af]at z;subst z;exact iT.q (k:=0) hinv hc (λH _=>by simp only[dx,h1,uR,bk];rfl) (cU rfl) A
 .rename_i D;obtain⟨y,h1,z⟩:=ba hi D;simp only[b9,af]at z;subst z;exact iT.q (k:=0) hinv hc (λH _=>by simp only[dx,h1]) (cU rfl) A
 .rename_i T xs D;obtain⟨y,h1,z⟩:=ba hi D;simp only[b9,af]at z;subst z;rcases lN A with ⟨N,L⟩|⟨N,L⟩
  .have N:=au N;exact iT.q (k:=0) (y0:=.qw) hinv hc (λH _=>by simp only[dx,h1,fS,N]) (cU rfl) L
  .have N:=iE N;obtain⟨n,hn⟩:=Nat.exists_eq_succ_of_ne_zero N;exact iT.q (k:=0) (y0:=raw (.bool b)) hinv hc (λH _=>by simp only[dx,h1,fS,hn]) (cU rfl) L
 .rename_i id D;split at A
  .rename_i ty T xs hb;obtain⟨y,h1,z⟩:=ba hi D;simp only[b9,eE,hb,dm,eV,bY,c7,af]at z;subst z;exact iT.q (k:=0) (y0:=raw (.bool b)) hinv hc (λH _=>by simp only[dx,h1]) (cU rfl) A
  .cases A
 .cases A
def at4 {y:Operand} {st:Bool} (hc:cZ P o.op=Z (.max s y)) (z:eC X W (.op (.max s y)) e h nx K=Z r):iT P o st e h nx K r:=by
 simp only[eC]at z;split at z
 .rename_i k a k' b N A;obtain⟨y,h1,L⟩:=ba hi N;obtain⟨y2,h3,D⟩:=ba hi A;simp only[b9,af]at L D;subst L D;split at z
  .exact iT.q (k:=0) hinv hc (λH _=>by simp only[dx,h1,h3,fS];rfl) (cU rfl) z
  .cases z
 .cases z
def at3 {y:Operand} {st:Bool} (hc:cZ P o.op=Z (.min s y)) (z:eC X W (.op (.min s y)) e h nx K=Z r):iT P o st e h nx K r:=by
 simp only[eC]at z;split at z
 .rename_i k a k' b N A;obtain⟨y,h1,L⟩:=ba hi N;obtain⟨y2,h3,D⟩:=ba hi A;simp only[b9,af]at L D;subst L D;split at z
  .exact iT.q (k:=0) hinv hc (λH _=>by simp only[dx,h1,h3,fS];rfl) (cU rfl) z
  .cases z
 .cases z
def ata {st:Bool} (L:cZ P o.op=Z (.jf i s)) (z:eC X W (.op (.jf i s)) e h nx K=Z r):iT P o st e h nx K r:=by
 simp only[eC]at z;split at z;all_goals first
  |(rename_i D
    obtain⟨y,h1,A⟩:=ba hi D;simp only[b9,af]at A;subst A;exact iT.q (k:=0) hinv L (λH _=>by simp only[dx,h1,qP]) (cU rfl) z)
  |cases z
def at9 {st:Bool} (hc:cZ P o.op=Z (.fld i j b s)) (z:eC X W (.op (.fld i j b s)) e h nx K=Z r):iT P o st e h nx K r:=by
 simp only[eC]at z;split at z
 .rename_i l D;split at z
  .rename_i u L;obtain⟨y,h1,A⟩:=ba hi D;simp only[b9]at A;split at A
   .rename_i l' hl;cases A;obtain⟨y,h3,N⟩:=YV hl L;exact iT.q (k:=0) hinv hc (λH _=>by simp only[dx,h1,N]) (cU h3) z
   .cases A
  .cases z
 .rename_i T v D;split at z
  .cases z
  .rename_i ho;split at z
   .rename_i u L;obtain⟨y,h1,A⟩:=ba hi D;simp only[b9,af]at A;rw[rW T v (by simpa using ho)]at A;subst A;obtain⟨y,h3,N⟩:=alu (h:=h) L;exact iT.q (k:=0) hinv hc (λH _=>by simp only[dx,h1,N]) (cU h3) z
   .cases z
 .cases z
def at7 {n:Operand} {st:Bool} (hc:cZ P o.op=Z (.idx i j b s n)) (A:eC X W (.op (.idx i j b s n)) e h nx K=Z r):iT P o st e h nx K r:=by
 simp only[eC]at A;split at A
 .rename_i v0 k sz hv hv2;split at A
  .rename_i T xs hA;obtain⟨hb,A⟩:=cL A;cases b with
   |true=>cases hA
   |false=>
   simp only[ar7]at hA;split at hA
   .rename_i hsz;simp only[ak,cV]at hsz;have hsz1:=au hsz.1;subst hsz1;split at hA
    .rename_i l hl;split at hA
     .rename_i hn;have hn:=au hn;obtain⟨y,h1,D⟩:=ba hi hv;obtain⟨y2,h5,N⟩:=ba hi hv2;simp only[b9,af]at N;subst N;have hj:sz.toNat<l! l:=by
       simp only[ak,dg,fQ,bR]at hb;omega
      have hg:=Z1 hA sz.toNat hj;obtain⟨he,_⟩:=I6 hl D;obtain⟨z,L,hz2⟩:=lF he sz.toNat _ hg;have hz2:b9 h (.f T (geti _ xs sz))=Z z:=hz2;refine iT.q (k:=0) hinv hc (λH _=>?_) (cU hz2) A;cases v0 with
      |agg q=>
       simp only[b9]at D;split at D
       .rename_i l' _;cases D;have L:l'[sz.toNat]? =Z z:=L;simp only[dx,h1,h5,fS,hb,bk,BC.sub?,BC.get,Gx,L]
       .cases D
      |f S u=>
       have ho:S.one=aa:=by
        have:=hsz.2;simpa[TV.isC] using this
       simp only[b9,af]at D;rw[rW S u ho]at D;subst D;have L:((bN S u).map AV.f)[sz.toNat]? =Z z:=L;rw[aT]at L;simp only[dx,h1,h5,fS,hb,bk,BC.sub?,BC.get,Gx,L]
      |_=>simp[TV.cs,TV.isC]at hl hsz
     .cases hA
    .cases hA
   .cases hA
  .split at A
   .rename_i l;obtain⟨hb,A⟩:=cL A;split at A
    .rename_i u hs;obtain⟨y,h1,D⟩:=ba hi hv;obtain⟨y2,h5,N⟩:=ba hi hv2;simp only[b9,af]at N;subst N;simp only[b9]at D;split at D
     .rename_i l' hl;cases D;obtain⟨y,h3,h4⟩:=YV hl hs;exact iT.q (k:=0) hinv hc (λH _=>by simp only[dx,h1,h5,fS,hb,bk,h4]) (cU h3) A
     .cases D
    .cases A
   .rename_i T v _;split at A
    .cases A
    .rename_i ho;obtain⟨hb,A⟩:=cL A;split at A
     .rename_i u hs;obtain⟨y,h1,D⟩:=ba hi hv;obtain⟨y2,h5,N⟩:=ba hi hv2;simp only[b9,af]at N D;subst N;rw[rW T v (by simpa using ho)]at D;subst D;obtain⟨y,h3,h4⟩:=alu (h:=h) hs;exact iT.q (k:=0) hinv hc (λH _=>by simp only[dx,h1,h5,fS,hb,bk,h4]) (cU h3) A
     .cases A
   .cases A
 .cases A
def apv {n:Operand} {st:Bool} (L:cZ P o.op=Z (.jx i j s n)) (z:eC X W (.op (.jx i j s n)) e h nx K=Z r):iT P o st e h nx K r:=by
 simp only[eC]at z;split at z
 .rename_i id off k sz hv A;obtain⟨y,h1,h2⟩:=ba hi hv;obtain⟨y2,h5,N⟩:=ba hi A;simp only[b9,af]at N h2;subst N h2;split at z
  .obtain⟨D,z⟩:=cL z;exact iT.q (k:=0) (y0:=.H (nm id) (off+sz.toNat*j)) hinv L (λH _=>by simp only[dx,h1,h5,fS,D,bk]) (cU (by simp only[b9];rw[Nat.add_comm])) z
  .obtain⟨D,z⟩:=cL z;exact iT.q (k:=0) hinv L (λH _=>by simp only[dx,h1,h5,fS,D,bk]) (cU rfl) z
 .cases z
def atb {st:Bool} (hc:cZ P o.op=Z (.ext s i)) (z:eC X W (.op (.ext s i)) e h nx K=Z r):iT P o st e h nx K r:=by
 simp only[eC]at z;split at z
 .rename_i l D;split at z
  .rename_i u L;obtain⟨y,h1,A⟩:=ba hi D;simp only[b9]at A;split at A
   .rename_i l' N;cases A;obtain⟨y,h3,h4⟩:=lF N i u L;exact iT.q (k:=0) hinv hc (λH _=>by simp only[dx,h1,h3]) (cU h4) z
   .cases A
  .cases z
 .cases z
def at6 {st:Bool} (L:cZ P o.op=Z (.len s)) (z:eC X W (.op (.len s)) e h nx K=Z r):iT P o st e h nx K r:=by
 simp only[eC]at z;split at z
 .rename_i v A;split at z
  .rename_i n D;obtain⟨y,h1,h2⟩:=ba hi A;have N:=TI D h2;exact iT.q (k:=0) hinv L (λH _=>by simp only[dx,h1,N];rfl) (cU rfl) z
  .cases z
 .cases z
def apt {st:Bool} (L:cZ P o.op=Z (.lens s)) (z:eC X W (.op (.lens s)) e h nx K=Z r):iT P o st e h nx K r:=by
 simp only[eC]at z;split at z
 .rename_i x D;obtain⟨y,h1,A⟩:=ba hi D;simp only[b9,af]at A;subst A;exact iT.q (k:=0) hinv L (λH _=>by simp only[dx,h1,fS];rfl) (cU rfl) z
 .cases z
def apn {i:Operand} {st:Bool} (hc:cZ P o.op=Z (.jq s i)) (z:eC X W (.op (.jq s i)) e h nx K=Z r):iT P o st e h nx K r:=by
 simp only[eC]at z;split at z
 .rename_i x k j hv A;obtain⟨hj,z⟩:=cL z;obtain⟨y,h1,L⟩:=ba hi hv;obtain⟨y2,h3,D⟩:=ba hi A;simp only[b9,af]at L D;subst L D;obtain⟨j0,j1,N⟩:=mQ hj;have e1:dg 0 j=J:=by simp[dg,j0]
  have e2:(⟨jI x⟩:ByteArray).data.toList[j.toNat]? =Z (List.getD x j.toNat 0):=by
   show x[j.toNat]? =_;rw[ax,aD N];rfl
  exact iT.q (k:=0) (y0:=raw (.int .u8 (aP (List.getD x j.toNat 0).toNat))) hinv hc (λH _=>by simp only[dx,h1,h3,fS,e1,bk,e2];rfl) (cU rfl) z
 .cases z
def at8 {sz:Operand} {st:Bool} (hc:cZ P o.op=Z (.jg i s sz)) (z:eC X W (.op (.jg i s sz)) e h nx K=Z r):iT P o st e h nx K r:=by
 simp only[eC]at z;split at z
 .rename_i id k j hv A;split at z
  .rename_i ty p T xs hb;split at z
   .rename_i D;have D:=au D;obtain⟨L,z⟩:=cL z;obtain⟨y,h1,h2⟩:=ba hi hv;obtain⟨y2,h3,N⟩:=ba hi A;simp only[b9,af]at N;subst N;obtain⟨j0,j1,j2⟩:=mQ L;have hne:¬((p&&l! xs==0)=J):=by
     simp only[ak,cG];omega
    simp only[b9,eE,hb,dm,av hne,af]at h2;subst h2;have hc1:(T.size==i&&dg 0 j&&fQ j (l! xs))=J:=by
     simp only[fA,ak]at L;simp[D,L.1,L.2]
    exact iT.q (k:=0) hinv hc (λH _=>by simp only[dx,h1,h3,fS,hc1,bk,cX]) (cU rfl) z
   .cases z
  .cases z
 .rename_i T xs k j hv A;split at z
  .rename_i D;have D:=au D;obtain⟨L,z⟩:=cL z;obtain⟨y,h1,h2⟩:=ba hi hv;obtain⟨y2,h3,N⟩:=ba hi A;simp only[b9,af]at N h2;subst N h2;have hj':(dg 0 j&&fQ j (ah xs))=J:=L;exact iT.q (k:=0) hinv hc (λH _=>by simp only[dx,h1,h3,fS,hj',bk,cX,D]) (cU rfl) z
  .cases z
 .rename_i id sz' n k j hv A;split at z
  .rename_i D;have D:=au D;subst D;obtain⟨L,z⟩:=cL z;obtain⟨y,h1,h2⟩:=ba hi hv;obtain⟨y2,h3,N⟩:=ba hi A;simp only[b9,af]at N h2;subst N h2;have hj':(sz'==sz'&&dg 0 j&&fQ j n)=J:=by simp only[ak]at L ⊢;exact⟨⟨cm _,L.1⟩,L.2⟩
   exact iT.q (k:=0) hinv hc (λH _=>by simp only[dx,h1,h3,fS,hj',bk]) (cU rfl) z
  .cases z
 .cases z
def at2 {caps:Y Operand} {st:Bool} (D:cZ P o.op=Z (.mkf f caps)) (z:eC X W (.op (.mkf f caps)) e h nx K=Z r):iT P o st e h nx K r:=by
 simp only[eC]at z;split at z
 .rename_i l A;obtain⟨l',h1,L⟩:=E5 hi A;exact iT.q (k:=0) hinv D (y0:=.qy f l') (λH _=>by simp only[dx,h1]) (cU (by simp only[b9,L])) z
 .cases z
def ath {op:BinOp} {y:Operand} {st:Bool} (hc:cZ P o.op=Z (.bin op s y)) (z:eC X W (.op (.bin op s y)) e h nx K=Z r):iT P o st e h nx K r:=by
 simp only[eC]at z;split at z
 .rename_i u v hv A;obtain⟨a,b,c,t,h1,h2,h3,h4,h5⟩:=akg (h:=h) z;obtain⟨y,g1,N⟩:=ba hi hv;obtain⟨y2,L,D⟩:=ba hi A;rw[h1]at N;cases N;rw[h2]at D;cases D;simp only[raw]at g1 L;exact iT.q (k:=0) hinv hc (λH _=>by simp only[dx,g1,L,h3]) (cU h4) h5
 .cases z
end ops
def iG:eP->M (Bool×o?)
 |.F _ p T xs=>Z (p,T.size,l! xs)
 |.qj p sz n=>Z (p,sz,n)
 |.I F _ x|.qm F _ x _ _=>rV F x
 |_=>U
def bC (h:a_) (i:Nat):eE h i=(h.get i).bind iG:=by
 unfold eE;cases h.get i with
 |none=>rfl
 |some b=>cases b<;>rfl
def b7.refl (h:a_):b7 h h:=λ_ _ h=>h
def b7.trans {b c:a_} (h1:b7 h b) (z:b7 b c):b7 h c:=λi r a=>z i r (h1 i r a)
def b7.set {b:eP} (A:∀r,eE h i=Z r->iG b=Z r):b7 h (h.set i (Z b)):=λj r z=>by
 rw[bC,PT.get_set];by_cases e:j=i
 .subst e;rw[aC rfl];exact A r z
 .rw[av e,<-bC];exact z
def Pa {b:eP} {r:Bool×o?} (h:iG b=Z r):iG (uA b)=Z r:=by
 cases b with
 |I F a x|qm F a x k p=>simp only[iG]at h;simp only[uA,h,iG]
 |_=>first|exact h|cases h
def Bh {b:eP} {ty:M TypeId} {l:Y TV} (h:uA b= .C ty l):False:=by
 cases b<;>simp only[uA]at h<;>first|cases h|(split at h<;>cases h)
def Lr (b:eP):∃p s n,uA b= .qj p s n:=by
 cases b with
 |I F a x|qm F a x k p=>simp only[uA];split<;>exact⟨_,_,_,rfl⟩
 |_=>exact⟨_,_,_,rfl⟩
def Mc {k:Nat} {b:eP} (A:NH h i k (uA b)=Z S):False:=by
 obtain⟨p,s,n,e⟩:=Lr b;rw[e]at A;cases k<;>cases A
def iM (m:Nat) (h:a_) (i:Nat):(dL m h).get i=if aK m i then (h.get i).map uA else h.get i:=by
 unfold dL;split
 .rename_i hm;have:=au hm;subst this;simp
 .rw[PT.get_updI];simp only[Nat.one_mul,cX];cases h.get i with
  |none=>simp
  |some b=>simp only[bm];split<;>rfl
def b7.kill (m:Nat) (h:a_):b7 h (dL m h):=λi r z=>by
 rw[bC]at z ⊢;rw[iM];split
 .cases A:h.get i with
  |none=>rw[A]at z;cases z
  |some b=>rw[A]at z;exact Pa z
 .exact z
def gW.set {nx':Nat} {b:eP} (hi:gW h j) (A:b7 h (h.set i (Z b))) (hlt:i<nx') (hle:j<=nx') (D:∀ty l,b= .C ty l->lR (h.set i (Z b)) l=J):gW (h.set i (Z b)) nx':=by
 refine ⟨λnx ty l z=>?_,λnx c z=>?_⟩
 .rw[PT.get_set]at z;split at z
  .simp only[af]at z;exact D ty l z
  .exact fd A l (hi.C nx _ l z)
 .rw[PT.get_set]at z;split at z
  .rename_i e;subst e;exact hlt
  .exact dw (hi.low nx c z) hle
def gW.kill (hi:gW h i) (m:Nat):gW (dL m h) i:=by
 refine ⟨λj ty l z=>?_,λj c z=>?_⟩
 .rw[iM]at z;refine fd (b7.kill m h) l (hi.C j ty l ?_);split at z
  .cases A:h.get j with
   |none=>rw[A]at z;cases z
   |some b=>rw[A]at z;exact (Bh (fK z)).elim
  .exact z
 .rw[iM]at z;split at z
  .cases A:h.get j with
   |none=>rw[A]at z;cases z
   |some b=>exact hi.low j b A
  .exact hi.low j c z
def UN {h':a_} (A:b7 h h') {b:eP} (D:∀ty l,b= .C ty l->lR h l=J):jR h' b=jR h b:=by
 cases b with
 |C ty l=>
  obtain⟨l',z⟩:=eX h l (D ty l rfl);cases ty<;>simp only[jR,z,fY A l l' z]
 |_=>rfl
def mm {h':a_} (z:b7 h h') {b:eP} (A:∀ty l,b= .C ty l->lR h l=J) (i:Nat):∀k,NH h' i k b=NH h i k b
 |0=>UN z A
 |_+1=>rfl
def abf {h':a_} (hi:gW h j) (z:b7 h h') (A:h'.get i=h.get i):erHF h' (nm i)=erHF h (nm i):=by
 rw[bL,bL,A];cases D:h.get i with
 |none=>rfl
 |some b=>exact UN z λty l e=>hi.C i _ l (by rw[D,e])
def iz (h h':a_):Prop:=∀i k,(h'.get i).bind (ww i k)=(h.get i).bind (ww i k)
def iz.refl (h:a_):iz h h:=λ_ _=>rfl
def iz.trans {b c:a_} (h1:iz h b) (z:iz b c):iz h c:=λi k=>(z i k).trans (h1 i k)
def noM:M eP->Bool
 |some (.I _ _ _)=>aa
 |some (.qm _ _ _ _ _)=>aa
 |_=>J
def Kc {c:M eP} (z:noM c=J) (i k:Nat):c.bind (ww i k)=U:=by
 cases c with
 |none=>rfl
 |some b=>cases b<;>first|rfl|cases z
def iz.set {b:M eP} (h1:noM (h.get i)=J) (z:noM b=J):iz h (h.set i b):=λj k=>by
 rw[PT.get_set];by_cases e:j=i
 .subst e;rw[aC rfl,Kc h1,Kc z]
 .rw[av e]
def iz.at_ {b:M eP} (h1:∀k,b.bind (ww i k)=(h.get i).bind (ww i k)):iz h (h.set i b):=λj k=>by
 rw[PT.get_set];by_cases e:j=i
 .subst e;rw[aC rfl];exact h1 k
 .rw[av e]
def iz.of {h':a_} (z:∀i,h'.get i=h.get i\/(noM (h.get i)=J/\noM (h'.get i)=J)):iz h h':=λj k=>by
 rcases z j with e|⟨A,e2⟩
 .rw[e]
 .rw[Kc A,Kc e2]
def iz.kill (hm:∀m,aK i m=J->∃ty p T xs,h.get m=Z (.F ty p T xs)):iz h (dL i h):=λj k=>by
 rw[iM];split
 .rename_i A;obtain⟨ty,p,T,xs,z⟩:=hm j A;rw[z];rfl
 .rfl
def l7 {h':a_} (hi:gW h i) (A:b7 h h') (hm:iz h h') (D:∀nx,j=nm nx->h'.get nx=h.get nx):erHF h' j=erHF h j:=by
 cases z:ix j with
 |zero=>rw[px z];exact abf hi A (D _ (px z))
 |succ k=>
  have e:=kO j;rw[z]at e;rw[<- e,kH,kH];exact hm _ k
def Md {h':a_} (hme:iz h h') (A:erHF h' i=Z S):erHF h i=Z S\/∃q z,i=nm q/\h'.get q=Z z/\jR h' z=Z S:=by
 cases D:ix i with
 |zero=>
  obtain⟨z,h1,L⟩:=iO A;rw[D]at L;exact .inr ⟨ow i,z,px D,h1,L⟩
 |succ k=>
  have e:=kO i;rw[D]at e;rw[<- e,kH]at A ⊢;exact .inl ((hme _ _).symm.trans A)
def GZ (m:Nat):ι:=(agr m).map nm
def pd :j∈GZ i↔∃m,j=nm m/\aK i m=J:=by
 unfold GZ;rw[ch];constructor
 .rintro⟨m,h1,rfl⟩;exact⟨m,rfl,Pn.1 h1⟩
 .rintro⟨m,rfl,h1⟩;exact⟨m,Pn.2 h1,rfl⟩
def mM :nm i∈GZ j↔aK j i=J:=by
 rw[pd];constructor
 .rintro⟨m,h1,z⟩;rw[ug h1];exact z
 .exact λh=>⟨i,rfl,h⟩
def dE (h:a_) (m:Nat):Prop:=∀i,aK m i=J->∃ty p T xs,h.get i=Z (.F ty p T xs)
def dE.zero (h:a_):dE h 0:=λi hi=>by simp at hi
def dE.or (A:dE h i) (z:dE h j):dE h (i|||j):=λa hi=>by
 rw[bn,jJ]at hi;exact hi.elim (A a) (z a)
def nh {v:TV} {x:T.den} (A:ie h T v=Z (x,i)):dE h i:=by
 cases v with
 |f S v|emp|nil=>
  simp only[ie]at A;split at A
  .simp only[af,aG]at A;rw[<- A.2];exact dE.zero h
  .cases A
 |G id=>
  simp only[ie]at A;split at A
  .rename_i ty p S xs D;split at A
   .simp only[af,aG]at A;rw[<- A.2];intro m hi;have:=bu.1 hi;subst this;exact⟨ty,p,S,xs,D⟩
   .cases A
  .cases A
 |_=>simp[ie]at A
def wM :∀(n:Nat) (T:Ty) (l:Y TV) (x:T.den) (m:Nat) (r:Y TV),fc h n T l=Z (x,m,r)->dE h m
 |0,_,_,_,_,_,hp=>by simp[fc]at hp
 |n+1,.st t,l,x,m,r,hp=>wM n t l x m r hp
 |n+1,.pr a b,l,x,m,r,hp=>by
  simp only[fc]at hp;split at hp
  .rename_i z m1 A h1;split at hp
   .rename_i D m2 L N;simp only[af,aG]at hp;obtain⟨_,rfl,_⟩:=hp;exact (wM n a l z m1 A h1).or (wM n b A D m2 L N)
   .cases hp
  .cases hp
 |n+1,.un,l,x,m,r,hp=>by
  simp only[fc,af,aG]at hp;obtain⟨_,rfl,_⟩:=hp;exact dE.zero h
 |n+1,.ex,l,x,m,r,hp=>by
  simp only[fc]at hp;split at hp
  .rename_i z m1 A h1;simp only[af,aG]at hp;obtain⟨_,rfl,_⟩:=hp;exact wM n PF l z m1 A h1
  .cases hp
 |n+1,.sm,l,x,m,r,hp=>by
  simp only[fc]at hp;split at hp
  .rename_i z m1 A h1;simp only[af,aG]at hp;obtain⟨_,rfl,_⟩:=hp;exact wM n O9 l z m1 A h1
  .cases hp
 |n+1,.int k,l,x,m,r,hp|n+1,.bool,l,x,m,r,hp|n+1,.str,l,x,m,r,hp|n+1,.sl t,l,x,m,r,hp=>by
  simp only[fc]at hp;split at hp
  .split at hp
   .rename_i z m1 h1;simp only[af,aG]at hp;obtain⟨_,rfl,_⟩:=hp;exact nh h1
   .cases hp
  .cases hp
def Z0 {x:T.den} (A:Ds h T u=Z (x,i)):dE h i:=by
 cases u with
 |agg l=>
  simp only[Ds]at A;split at A
  .cases A
  .split at A
   .rename_i D m1 h1;simp only[af,aG]at A;obtain⟨_,rfl⟩:=A;exact wM 40 T l D m1 [] h1
   .cases A
 |f S u=>exact nh (v:=.f S u) A
 |zk T xs j N off=>exact nh (v:=.zk T xs j N off) A
 |ql id sz j off=>exact nh (v:=.ql id sz j off) A
 |H id off=>exact nh (v:=.H id off) A
 |qv id off z=>exact nh (v:=.qv id off z) A
 |G id=>exact nh (v:=.G id) A
 |emp=>exact nh (v:=.emp) A
 |nil=>exact nh (v:=.nil) A
 |mp id=>exact nh (v:=.mp id) A
 |zm id L=>exact nh (v:=.zm id L) A
 |qg q=>exact nh (v:=.qg q) A
 |qy g q=>exact nh (v:=.qy g q) A
 |undef=>exact nh (v:=.undef) A
 |np=>exact nh (v:=.np) A
 |qw=>exact nh (v:=.qw) A
 |qd S q=>exact nh (v:=.qd S q) A
 |sb q=>exact nh (v:=.sb q) A
def QJ :∀(n:Nat) (l:Y TV) (xs:Y T.den) (m:Nat),AY h T n l=Z (xs,m)->dE h m
 |0,[],xs,m,hp=>by simp only[AY,af,aG]at hp;rw[<- hp.2];exact dE.zero h
 |0,_::_,xs,m,hp=>by simp[AY]at hp
 |n+1,l,xs,m,hp=>by
  simp only[AY]at hp;split at hp
  .rename_i D m1 z h1;split at hp
   .rename_i A m2 L;simp only[af,aG]at hp;obtain⟨_,rfl⟩:=hp;exact (wM 40 T l D m1 z h1).or (QJ n z A m2 L)
   .cases hp
  .cases hp
def Cd :∀(n:Nat) (T:Ty) (v:T.den) (off sz:Nat) (z:T.den) (m:Nat),gO h u n T v off sz=Z (z,m)->dE h m
 |0,_,_,_,_,_,_,A=>by simp[gO]at A
 |n+1,.st t,v,off,sz,z,m,A=>by
  simp only[gO]at A;split at A
  .rename_i q D;split at D
   .cases A;exact Z0 D
   .cases D
  .exact Cd n t v off sz z m A
 |n+1,.pr a b,v,off,sz,z,m,A=>by
  simp only[gO]at A;split at A
  .split at A
   .rename_i L m1 h1;simp only[af,aG]at A;obtain⟨_,rfl⟩:=A;exact Cd n a v.1 off sz L m1 h1
   .cases A
  .split at A
   .rename_i L m1 h1;simp only[af,aG]at A;obtain⟨_,rfl⟩:=A;exact Cd n b v.2 _ sz L m1 h1
   .cases A
 |n+1,.un,v,off,sz,z,m,A=>by simp[gO]at A
 |n+1,.ex,v,off,sz,z,m,A=>by
  simp only[gO]at A;split at A
  .rename_i q D;split at D
   .cases A;exact Z0 D
   .cases D
  .split at A
   .rename_i L m1 h1;simp only[af,aG]at A;obtain⟨_,rfl⟩:=A;exact Cd n PF _ off sz L m1 h1
   .cases A
 |n+1,.sm,v,off,sz,z,m,A=>by
  simp only[gO]at A;split at A
  .rename_i q D;split at D
   .cases A;exact Z0 D
   .cases D
  .split at A
   .rename_i L m1 h1;simp only[af,aG]at A;obtain⟨_,rfl⟩:=A;exact Cd n O9 _ off sz L m1 h1
   .cases A
 |n+1,.int k,v,off,sz,z,m,A|n+1,.bool,v,off,sz,z,m,A|n+1,.str,v,off,sz,z,m,A|n+1,.sl t,v,off,sz,z,m,A=>by
  simp only[gO]at A;split at A
  .exact nh A
  .cases A
def vm (hm:dE h j) (z:aK j i=J):∃p sz n,(dL j h).get i=Z (.qj p sz n):=by
 obtain⟨ty,p,T,xs,h1⟩:=hm i z;exact⟨p,T.size,l! xs,by rw[iM,aC z,h1];rfl⟩
section ops
variable {R:Type} {P:Program} {o:Oper} {e:hX} {h:a_} {nx:Nat} {K:KO R} {r:R}
def eR (n:Nat) (b:kc):jS [(n,b)] n=Z b:=by simp[jS]
def eT.mk' {s:OT} (hc:cZ P o.op=Z s) {H:mY} (hH:H.get=erHF h) {k:Nat} {rdl wrl N:ι} {nw:NW} (ha:dx s (CU e h) H k=Z ⟨y,rdl,wrl,nw,N⟩) {h':a_} {wr:Nat} (wr':ι)
 (hsub:∀nx'∈wrl,nx'∈wr') (hsame:∀n,n∉wr'->erHF h' n=erHF h n)
 (hdom:∀nx'∈wr',∀b',erHF h' nx'=Z b'->∃b,(if nx'∈wrl then jS nw nx' else erHF h nx')=Z b)
 (hblk:∀(H1 H2:HF),rh H1 H2->(∀nx'∈wrl,H1 nx'=jS nw nx')->(∀nx'∈wr',nx'∉wrl->H1 nx'=erHF h nx')->(∀nx'∈wr',H2 nx'=erHF h' nx')->(∀nx'∈wr',∀b b',H1 nx'=Z b->H2 nx'=Z b'->fH H1 H2 b b')/\∀y0,b9 h' u=Z y0->kl H1 H2 y y0)
 (hrd:∀n∈rdl,aK j (ow n)=J) (hwr:∀n∈wr',aK wr (ow n)=J) (hN:∀n∈N,nx<=ow n/\ow n<i) (hrows:b7 h h') (hinv':gW h' i) (hg:nx<=i):eT P o aa e h nx u j wr h' i:=by
 have ht:=K4 hc ha;rw[Co,hH]at ht;refine ⟨?_,hrows,hinv',hg,nofun⟩;have base:∀(val:AV),(∀y0,b9 h' u=Z y0->y0=val)->(b9 h' u=U->val=y)->gh P o (fG e h) (erHF h) ⟨val,rdl,wr',erHF h',N⟩:=by
  intro val hval hnone;refine gh.view ht (λnx' hi=>.inl (hsub nx' hi)) λh1 hr1 hw1=>?_
  have hd:rh (e_ h1 wrl (jS nw)) (e_ h1 wr' (erHF h')):=by
   intro nx' b z;unfold e_ at z ⊢;by_cases hi:nx'∈wr'
   .rw[aC hi]at z;obtain⟨b0,D⟩:=hdom nx' hi b z;refine ⟨b0,?_⟩;by_cases hw:nx'∈wrl
    .rw[aC hw]at D ⊢;exact D
    .rw[av hw]at D ⊢;rw[hw1 nx' hi];exact D
   .rw[av hi]at z;rw[av (λhw=>hi (hsub nx' hw))];exact⟨b,z⟩
  obtain⟨q1,q2⟩:=hblk _ _ hd (λnx' hi=>by unfold e_;rw[aC hi]) (λnx' hi hw=>by unfold e_;rw[av hw];exact hw1 nx' hi) (λnx' hi=>by unfold e_;rw[aC hi]);refine ⟨⟨hd,λnx' b b' z L=>?_⟩,?_⟩
  .by_cases hi:nx'∈wr'
   .exact q1 nx' hi b b' z L
   .unfold e_ at z L;rw[av (λhw=>hi (hsub nx' hw))]at z;rw[av hi,z]at L;cases L;exact fH.refl hd b
  .cases hv:b9 h' u with
   |none=>rw[hnone hv];exact kl.refl hd _
   |some y0=>rw[<- hval y0 hv];exact q2 y0 hv
 have hu:e_ (erHF h) wr' (erHF h')=erHF h':=by
  funext n;unfold e_;split
  .rfl
  .rename_i hn;exact (hsame n hn).symm
 cases hv:b9 h' u with
 |none=>exact⟨_,base y (λy0 A=>by rw[hv]at A;cases A) (λ_=>rfl),λy0 A=>(by cases A),hu,hrd,hwr,hN⟩
 |some y0=>exact⟨_,base y0 (λy' A=>by rw[hv]at A;cases A;rfl) (λhn=>by rw[hv]at hn;cases hn),λy' A=>by cases A;rfl,hu,hrd,hwr,hN⟩
def Fx (hi:su e h):∀(parts:Y m?) (cells cs:Y TV) (cells':Y AV),L8 cells e parts=Z cs->cP h cells=Z cells'->∃cs',Bx cells' (CU e h) parts=Z cs'/\cP h cs=Z cs'/\(lO cells=J->lO cs=J)
 |[],cells,cs,cells',hf,he=>by simp only[L8,af]at hf;subst hf;exact⟨cells',rfl,he,id⟩
 |(off,sz,x)::rest,cells,cs,cells',hf,he=>by
  simp only[L8]at hf;split at hf
  .rename_i v hv;split at hf
   .rename_i q hq;split at hf
    .rename_i L;simp only[ak,cG]at L;obtain⟨y,h1,h2⟩:=ba hi hv;obtain⟨N,h4⟩:=I6 hq h2;obtain⟨cs',h5,h6,h7⟩:=Fx hi rest (splice cells off q) cs (splice cells' off y.cs) hf (oO off he N);refine ⟨cs',?_,h6,λA=>h7 ?_⟩
     .simp only[Bx,h1];rw[aC,h5];simp only[ak,cG];exact⟨⟨by rw[gU N];exact L.1,by rw[gU he];exact L.2⟩,tC N h4⟩
     .clear h5 h6 h7 hf;have app:∀a b:Y TV,lO a=J->lO b=J->lO (a++b)=J:=by
       intro a b A hb;induction a with
       |nil=>exact hb
       |cons z r D=>simp only[lO,ak,gG]at A ⊢;exact⟨A.1,D A.2⟩
      have tk:∀(a:Y TV) n,lO a=J->lO (a.take n)=J:=by
       intro a;induction a with
       |nil=>intro n h;simp[lO]
       |cons z r D=>
        intro n h;cases n with
        |zero=>rfl
        |succ n=>simp only[lO,ak,xF]at h ⊢;exact⟨h.1,D n h.2⟩
      have dr:∀(a:Y TV) n,lO a=J->lO (a.drop n)=J:=by
       intro a;induction a with
       |nil=>intro n h;simp[lO]
       |cons z r D=>
        intro n h;cases n with
        |zero=>exact h
        |succ n=>simp only[lO,ak,xH]at h ⊢;exact D n h.2
      unfold splice;exact app _ _ (app _ _ (tk _ _ A) h4) (dr _ _ A)
    .cases hf
   .cases hf
  .cases hf
variable (hinv:gW h nx) (hi:su e h)
include hinv hi
variable {X:FuncId->M cF} {W:TypeId->M Ty} {N:ξ}
def ale {parts:Y m?} {st:Bool} (z:cZ P o.op=Z (.build N parts)) (A:eC X W (.op (.build N parts)) e h nx K=Z r):iT P o st e h nx K r:=by
 simp only[eC]at A;split at A
 .rename_i l L;split at A
  .rename_i cs hf;obtain⟨h1,_,_⟩:=wZ h L;obtain⟨cs',h2,h3,_⟩:=Fx hi parts l cs _ hf h1;refine iT.q (k:=0) (y0:=Pm cs') hinv z (λH _=>by simp only[dx,h2]) (λy D=>?_) A;simp only[b9,h3,af]at D;subst D;exact af3 cs'
  .cases A
 .cases A
def aps (hc:cZ P o.op=Z (.load i b s)) (A:eC X W (.op (.load i b s)) e h nx K=Z r):iT P o aa e h nx K r:=by
 obtain⟨H,hH⟩:=gC h;simp only[eC]at A;split at A
 .rename_i id off hv;obtain⟨y,h1,L⟩:=ba hi hv;simp only[b9,af]at L;subst L;split at A
  .rename_i ty l hb;split at A
   .rename_i v hs;obtain⟨l',hl⟩:=eX h l (hinv.C id _ l hb);obtain⟨y,h3,h4⟩:=YV hl hs;have hg:H.get (nm id)=Z ⟨ty,.mx l'⟩:=by rw[hH,bL,hb];simp only[aB,jR,hl]
    exact⟨v,gf id,0,h,nx,A,eT.pure (k:=0) hinv hc hH (y0:=y) (rdl:=[nm id]) (by simp only[dx,h1,xa,hg,h4]) (cU h3) (λn D=>by simp only[aE]at D;subst D;rw[dc];exact bu.2 rfl) nofun⟩
   .cases A
  .cases A
 .rename_i id sz' j off hv;obtain⟨y,h1,L⟩:=ba hi hv;simp only[b9,af]at L;subst L;split at A
  .rename_i ty p T xs hb;split at A
   .rename_i hsz;have hsz:=au hsz;obtain⟨hj,A⟩:=cL A;split at A
    .rename_i v hs;obtain⟨y,h3,h4⟩:=adz (h:=h) hj hs;have hne:¬((p&&l! xs==0)=J):=by
      have:=mQ hj;simp only[ak,cG];omega
     have hg:H.get (nm id)=Z ⟨ty,.fz (xs.flatMap (bN T))⟩:=by rw[hH,bL,hb];simp only[aB,jR,av hne]
     exact⟨v,gf id,0,h,nx,A,eT.pure (k:=0) hinv hc hH (y0:=.f y) (rdl:=[nm id]) (by simp only[dx,h1,xa,hg,hsz,h4]) (cU h3) (λn D=>by simp only[aE]at D;subst D;rw[dc];exact bu.2 rfl) nofun⟩
    .cases A
   .cases A
  .rename_i ty l hb;split at A
   .cases A
   .split at A
    .rename_i hsz;simp only[ak]at hsz;have e1:=au hsz.1.1;have e2:=au hsz.1.2;have e3:=au hsz.2;subst e1 e2 e3;split at A
     .rename_i T xs hA;obtain⟨hj,A⟩:=cL A;obtain⟨l',hl⟩:=eX h l (hinv.C id _ l hb);have hg:H.get (nm id)=Z ⟨ty,.mx l'⟩:=by rw[hH,bL,hb];simp only[aB,jR,hl]
      have hlt:j.toNat<l! l:=by
       simp only[fA,ak,dg,fQ,bR]at hj;omega
      obtain⟨z,hz1,N⟩:=lF hl j.toNat _ (Z1 hA j.toNat hlt);have N:b9 h (.f T (geti _ xs j))=Z z:=N;exact⟨_,gf id,0,h,nx,A,eT.pure (k:=0) hinv hc hH (y0:=z) (rdl:=[nm id]) (by simp only[dx,h1,xa,hg,BC.sub?,BC.get,Gx,cX,hz1]) (cU N) (λn D=>by simp only[aE]at D;subst D;rw[dc];exact bu.2 rfl) nofun⟩
     .cases A
    .cases A
  .cases A
 .rename_i T xs j hj off hv;obtain⟨y,h1,L⟩:=ba hi hv;simp only[b9,af]at L;subst L;split at A
  .rename_i v hs;obtain⟨y,h3,h4⟩:=adz (h:=h) hj hs;exact iT.q (k:=0) (y0:=.f y) hinv hc (λH _=>by simp only[dx,h1,xa,h4]) (cU h3) A
  .cases A
 .cases A
def alf {ty:ξ} (hc:cZ P o.op=Z (.alloc z ty)) (hk:eC X W (.op (.alloc z ty)) e h nx K=Z r):iT P o aa e h nx K r:=by
 have _:=hi;obtain⟨H,hH⟩:=gC h;simp only[eC]at hk;split at hk
 .rename_i l hl;obtain⟨_,hz,_⟩:=wZ h hl;have hnone:h.get nx=U:=by
   cases N:h.get nx with
   |none=>rfl
   |some b=>have:=hinv.low nx b N;omega
  have L:b7 h (h.set nx (Z (.C (Z z) l))):=b7.set λr L=>by rw[bC,hnone]at L;cases L
  obtain⟨h1,_,_⟩:=wZ (h.set nx (Z (.C (Z z) l))) hl;have hb':erHF (h.set nx (Z (.C (Z z) l))) (nm nx)=Z ⟨z,.mx (ty.map raw)⟩:=by rw[bL,PT.get_set,aC rfl];simp only[aB,jR,h1]
  refine ⟨_,_,_,_,_,hk,eT.mk' hc hH (k:=nm nx) (by simp only[dx];rfl) [nm nx] (λi hi=>hi) (λn A=>?_) (λi hi b' _=>⟨⟨z,.fz (ty.map .raw)⟩,?_⟩) (λH1 H2 d hw1 _ hw2=>⟨λi hi b b' N D=>?_,λy hy=>?_⟩) (by simp) ?_ ?_ L (hinv.set L (by omega) (by omega) λty' l' he=>?_) (by omega)⟩
  .refine l7 hinv L (iz.set (by rw[hnone];rfl) rfl) λi e=>?_
   subst e;rw[PT.get_set,av (λe=>A (by rw[e];simp))]
  .rw[aC hi];simp only[aE]at hi;subst hi;simp[jS]
  .simp only[aE]at hi;subst hi;rw[hw1 _ (by simp)]at N;rw[hw2 _ (by simp),hb']at D;rw[eR]at N;simp only[af]at N D;subst N D;refine fH.C rfl rfl ?_ λx hx=>?_
   .simp only[BC.toMx,kN];exact gL.refl d _
   .simp only[BC.toMx]at hx;obtain⟨q,hq,rfl⟩:=ch.1 hx;exact hz q hq
  .simp only[b9,af]at hy;subst hy;exact kl.refl d _
  .intro n A;simp only[aE]at A;subst A;rw[dc];exact bu.2 rfl
  .intro n A;simp only[aE]at A;subst A;rw[dc];omega
  .cases he;exact kQ _ _ _ h1
 .cases hk
def atg (hc:cZ P o.op=Z (.box z s)) (L:eC X W (.op (.box z s)) e h nx K=Z r):iT P o aa e h nx K r:=by
 obtain⟨H,hH⟩:=gC h;simp only[eC]at L;split at L
 .rename_i v hv;split at L
  .rename_i l hl;obtain⟨y,h1,h2⟩:=ba hi hv;obtain⟨h3,h4⟩:=I6 hl h2;have hcell:=tC h3 h4;have hnone:h.get nx=U:=by
    cases N:h.get nx with
    |none=>rfl
    |some b=>have:=hinv.low nx b N;omega
   have ty:b7 h (h.set nx (Z (.C (Z z) l))):=b7.set λr ty=>by rw[bC,hnone]at ty;cases ty
   have h5:=fY ty l _ h3;have hb':erHF (h.set nx (Z (.C (Z z) l))) (nm nx)=Z ⟨z,.mx y.cs⟩:=by rw[bL,PT.get_set,aC rfl];simp only[aB,jR,h5]
   refine ⟨_,_,_,_,_,L,eT.mk' hc hH (k:=nm nx) (by simp only[dx,h1,hcell,bk];rfl) [nm nx] (λi hi=>hi) (λn A=>?_) (λi hi b' _=>⟨⟨z,nV y.cs⟩,?_⟩) (λH1 H2 d hw1 _ hw2=>⟨λi hi b b' N D=>?_,λy hy=>?_⟩) (by simp) ?_ ?_ ty (hinv.set ty (by omega) (by omega) λty' l' he=>?_) (by omega)⟩
   .refine l7 hinv ty (iz.set (by rw[hnone];rfl) rfl) λi e=>?_
    subst e;rw[PT.get_set,av (λe=>A (by rw[e];simp))]
   .rw[aC hi];simp only[aE]at hi;subst hi;simp[jS]
   .simp only[aE]at hi;subst hi;rw[hw1 _ (by simp)]at N;rw[hw2 _ (by simp),hb']at D;rw[eR]at N;simp only[af]at N D;subst N D;obtain⟨q1,q2⟩:=nE y.cs;refine fH.C q2 rfl ?_ λs hx=>?_
    .rw[q1];exact gL.refl d _
    .exact mW hcell s hx
   .simp only[b9,af]at hy;subst hy;exact kl.refl d _
   .intro n A;simp only[aE]at A;subst A;rw[dc];exact bu.2 rfl
   .intro n A;simp only[aE]at A;subst A;rw[dc];omega
   .cases he;exact kQ _ _ _ h5
  .cases L
 .cases L
def alc {ty:ξ} {l c:Operand} (hcm:Gb (W z)=U) (hc:cZ P o.op=Z (.zg z i j ty l c)) (A:eC X W (.op (.zg z i j ty l c)) e h nx K=Z r):iT P o aa e h nx K r:=by
 obtain⟨H,hH⟩:=gC h;simp only[eC,hcm]at A;split at A
 .rename_i T k a k' b hT hv hv2;split at A
  .rename_i hsz;simp only[ak]at hsz;have hs:=au hsz.1;have hz:=Nd hsz.2;subst hs hz;obtain⟨hck,A⟩:=cL A;obtain⟨y,h1,h2⟩:=ba hi hv;obtain⟨y2,h3,h4⟩:=ba hi hv2;simp only[b9,af]at h2 h4;subst h2 h4;have hnone:h.get nx=U:=by
    cases hb:h.get nx with
    |none=>rfl
    |some b=>have:=hinv.low nx b hb;omega
   generalize hB:eP.F z aa T (aF (aQ a) T.zero)=B at A;have N:b7 h (h.set nx (Z B)):=b7.set λr N=>by rw[bC,hnone]at N;cases N
   have hb':erHF (h.set nx (Z B)) (nm nx)=Z ⟨z,.fz ((aF (aQ a) T.zero).flatMap (bN T))⟩:=by rw[bL,PT.get_set,aC rfl,<-hB];simp[jR]
   refine ⟨_,_,_,_,_,A,eT.mk' hc hH (k:=nm nx) (by simp only[dx,h1,h3,fS,hck,bk];rfl) [nm nx] (λsz hi=>hi) (λn D=>?_) (λsz hi b' _=>⟨⟨z,.fz (repl (ux T) (aQ a))⟩,?_⟩) (λH1 H2 d hw1 _ hw2=>⟨λsz hi b b' hb L=>?_,λy hy=>?_⟩) (by simp) ?_ ?_ N (hinv.set N (by omega) (by omega) λty' l' he=>?_) (by omega)⟩
   .refine l7 hinv N (iz.set (by rw[hnone];rfl) (by rw[<- hB];rfl)) λsz e=>?_
    subst e;rw[PT.get_set,av (λe=>D (by rw[e];simp))]
   .rw[aC hi];simp only[aE]at hi;subst hi;simp[jS]
   .simp only[aE]at hi;subst hi;rw[hw1 _ (by simp)]at hb;rw[hw2 _ (by simp),hb']at L;rw[eR]at hb;simp only[af]at hb L;subst hb L;refine fH.C rfl rfl (J7 d T _) λx hx=>?_
    simp only[BC.toMx]at hx;obtain⟨q,hq,rfl⟩:=ch.1 hx;exact ml T _ q hq
   .simp only[b9,bC,PT.get_set,bk,<-hB,aB,iG,dm,eV,bY,c7,af,c4]at hy;subst hy;exact kl.refl d _
   .intro n D;simp only[aE]at D;subst D;rw[dc];exact bu.2 rfl
   .intro n D;simp only[aE]at D;subst D;rw[dc];omega
   .rw[<- hB]at he;cases he
  .cases A
 .cases A
end ops
def yn {f:R->Y FV} (hf:∀x,l! (f x)=i):∀(xs:Y R) (j:Nat),(xs.take j).flatMap f=(xs.flatMap f).take (j*i)
 |[],j|x::r,0=>by simp
 |x::r,j+1=>by
  rw[xF,fW,fW,yn hf r j,show (j+1)*i=l! (f x)+j*i from by rw[hf,iD];omega,List.take_length_add_append]
def L6 {f:R->Y FV} (hf:∀x,l! (f x)=i):∀(xs:Y R) (j:Nat),(xs.drop j).flatMap f=(xs.flatMap f).drop (j*i)
 |[],j|x::r,0=>by simp
 |x::r,j+1=>by
  rw[xH,fW,L6 hf r j,show (j+1)*i=l! (f x)+j*i from by rw[hf,iD];omega,List.drop_length_add_append]
variable {N:ξ}
def Th :∀(n:Nat) (x:FV),x∈repl N n->∃v∈N,x= .raw v
 |0,x,h=>by simp[repl]at h
 |n+1,x,h=>by
  rw[repl,bG]at h;rcases h with h|h
  .obtain⟨v,A,rfl⟩:=ch.1 h;exact⟨v,A,rfl⟩
  .exact Th n x h
def I9:∀l:Y FV,(∀x∈l,x.isCell=J)->gw (l.map .f)=J
 |[],_=>rfl
 |z::r,h=>by simp only[bZ,gw,ak];exact⟨h z (by simp),I9 r λx A=>h x (by simp[A])⟩
section ops
variable {R:Type} {P:Program} {o:Oper} {e:hX} {h:a_} {nx:Nat} {K:KO R} {r:R}
def gW.fresh (hinv:gW h nx):h.get nx=U:=by
 cases z:h.get nx with
 |none=>rfl
 |some b=>have:=hinv.low nx b z;omega
def rh.kill (hinv:gW h nx) (hm:dE h i):rh (erHF h) (erHF (dL i h)):=λn b N=>by
 obtain⟨c,z,A⟩:=iO N;rw[iM]at z;by_cases ht:aK i (ow n)=J
 .obtain⟨pp,ss,nn,L⟩:=vm hm ht;rw[iM]at L;rw[L]at z;cases z;cases D:ix n with
  |_=>rw[D]at A;cases A
 .rw[av ht]at z;refine ⟨b,?_⟩;unfold erHF;rw[z];simp only[aB];rw[<- mm (b7.kill i h) (λty l e=>hinv.C (ow n) _ l (by rw[z,e]))];exact A
def dE.lt (hinv:gW h nx) (hm:dE h j) (hi:aK j i=J):i<nx:=by
 obtain⟨_,_,_,_,z⟩:=hm i hi;exact hinv.low i _ z
def eT.new {s:OT} (hinv:gW h nx) (hc:cZ P o.op=Z s) {H:mY} (hH:H.get=erHF h) {y0:AV} {rdl:ι} {b0:kc} (ha:dx s (CU e h) H (nm nx)=Z ⟨y0,rdl,[nm nx],[(nm nx,b0)],[nm nx]⟩) {B:eP} {v:TV} {m rd:Nat} (hm:dE h m)
 (hB:∀ty l,B= .C ty l->lR ((dL m h).set nx (Z B)) l=J)
 (hblk:∀A z,rh A z->Eo h A z m->∀b',jR ((dL m h).set nx (Z B)) B=Z b'->fH A z b0 b')
 (hval:∀A z y,rh A z->Eo h A z m->b9 ((dL m h).set nx (Z B)) v=Z y->kl A z y0 y)
 (hrd:∀n∈rdl,aK rd (ow n)=J) (hMem:∀i k,ww i k B=U:=by exact λ_ _=>rfl):eT P o aa e h nx v rd (m|||gf nx) ((dL m h).set nx (Z B)) (nx+1):=by
 have hk:=hinv.kill m;have hme:iz h ((dL m h).set nx (Z B)):=(iz.kill hm).trans (iz.at_ λk=>by rw[hk.fresh];exact hMem nx k);have hr0:=b7.kill m h;have hr1:b7 (dL m h) ((dL m h).set nx (Z B)):=b7.set λr hr=>by rw[bC,hk.fresh]at hr;cases hr
 have hr:=hr0.trans hr1;have hgiv:∀i,aK m i=J->erHF ((dL m h).set nx (Z B)) (nm i)=U:=λi hi=>by
  have hlt:=hm.lt hinv hi;obtain⟨p,sz,n,hd⟩:=vm hm hi;rw[bL,PT.get_set,av (by omega),hd];rfl
 refine eT.mk' hc hH ha (nm nx::GZ m) (λi hi=>by simp only[aE]at hi;subst hi;simp) (λn D=>?_) (λi hi b' hb'=>?_) (λA z d hw1 hw0 N=>?_) hrd ?_ ?_ hr (hk.set hr1 (by omega) (by omega) hB) (by omega)
 .refine l7 hinv hr hme λi e=>?_
  subst e;rw[PT.get_set,av (λe=>D (by rw[e];simp)),iM,av];intro hb;exact D (bM _ (mM.2 hb))
 .rcases aZ.1 hi with rfl|hi
  .exact⟨b0,by rw[aC (by simp),eR]⟩
  .obtain⟨j,rfl,hj⟩:=pd.1 hi;rw[hgiv j hj]at hb';cases hb'
 .have g:Eo h A z m:=λi hi=>by
   have hlt:=hm.lt hinv hi;have hmem:nm i∈nm nx::GZ m:=bM _ (mM.2 hi);exact⟨hw0 _ hmem (λhc=>by simp only[aE]at hc;have:=ug hc;omega),by rw[N _ hmem,hgiv i hi]⟩
  refine ⟨λi hi b b' hb L=>?_,λy hy=>hval A z y d g hy⟩;rcases aZ.1 hi with rfl|hi'
  .rw[hw1 _ (by simp),eR]at hb;rw[N _ hi,bL,PT.get_set,aC rfl]at L;cases hb;exact hblk A z d g b' L
  .obtain⟨j,rfl,hj⟩:=pd.1 hi';rw[N _ hi,hgiv j hj]at L;cases L
 .intro n D;rw[bn];rcases aZ.1 D with rfl|D
  .rw[dc,bu.2 rfl];simp
  .obtain⟨j,rfl,hj⟩:=pd.1 D;rw[dc,hj];rfl
 .intro n D;simp only[aE]at D;subst D;rw[dc];omega
def eT.wrt {s:OT} (hinv:gW h nx) (hc:cZ P o.op=Z s) {H:mY} (hH:H.get=erHF h) {y0:AV} {rdl:ι} {b0:kc} {k:Nat} (ha:dx s (CU e h) H k=Z ⟨y0,rdl,[nm i],[(nm i,b0)],[]⟩) {B0 B:eP} (hb0:h.get i=Z B0) {v:TV} {m rd:Nat} (hm:dE h m) (hmid:aK m i=aa)
 (hrow:iG B=iG B0) (hB:∀ty l,B= .C ty l->lR ((dL m h).set i (Z B)) l=J)
 (hblk:∀A z,rh A z->Eo h A z m->∀b',jR ((dL m h).set i (Z B)) B=Z b'->fH A z b0 b')
 (hval:∀A z y,rh A z->Eo h A z m->b9 ((dL m h).set i (Z B)) v=Z y->kl A z y0 y)
 (hrd:∀n∈rdl,aK rd (ow n)=J) (hMem:∀k,ww i k B=ww i k B0:=by exact λ_=>rfl):eT P o aa e h nx v rd (m|||gf i) ((dL m h).set i (Z B)) nx:=by
 have hk:=hinv.kill m;have hr0:=b7.kill m h;have hkid:(dL m h).get i=Z B0:=by rw[iM,hmid];simpa using hb0
 have hr1:b7 (dL m h) ((dL m h).set i (Z B)):=b7.set λr hr=>by rw[bC,hkid]at hr;rw[hrow];exact hr
 have hme:iz h ((dL m h).set i (Z B)):=(iz.kill hm).trans (iz.at_ λk=>by rw[hkid];exact hMem k);have hr:=hr0.trans hr1;have hgiv:∀id,aK m id=J->erHF ((dL m h).set i (Z B)) (nm id)=U:=λid hi=>by
  have hne:id≠i:=λe=>by rw[e,hmid]at hi;cases hi
  obtain⟨p,sz,n,hd⟩:=vm hm hi;rw[bL,PT.get_set,av hne,hd];rfl
 refine eT.mk' hc hH ha (nm i::GZ m) (λid hi=>by simp only[aE]at hi;subst hi;simp) (λn N=>?_) (λid hi b' hb'=>?_) (λA z d hw1 hw0 L=>?_) hrd ?_ (by simp) hr (hk.set hr1 (hinv.low i B0 hb0) (by omega) hB) (by omega)
 .refine l7 hinv hr hme λid e=>?_
  subst e;rw[PT.get_set,av (λe=>N (by rw[e];simp)),iM,av];intro hb;exact N (bM _ (mM.2 hb))
 .rcases aZ.1 hi with rfl|hi
  .exact⟨b0,by rw[aC (by simp),eR]⟩
  .obtain⟨j,rfl,hj⟩:=pd.1 hi;rw[hgiv j hj]at hb';cases hb'
 .have g:Eo h A z m:=λid hi=>by
   have hne:id≠i:=λe=>by rw[e,hmid]at hi;cases hi
   have hmem:nm id∈nm i::GZ m:=bM _ (mM.2 hi);exact⟨hw0 _ hmem (λhc=>by simp only[aE]at hc;exact hne (ug hc)),by rw[L _ hmem,hgiv id hi]⟩
  refine ⟨λid hi b b' hb D=>?_,λy hy=>hval A z y d g hy⟩;rcases aZ.1 hi with rfl|hi'
  .rw[hw1 _ (by simp),eR]at hb;rw[L _ hi,bL,PT.get_set,aC rfl]at D;cases hb;exact hblk A z d g b' D
  .obtain⟨j,rfl,hj⟩:=pd.1 hi';rw[L _ hi,hgiv j hj]at D;cases D
 .intro n N;rw[bn];rcases aZ.1 N with rfl|N
  .rw[dc,bu.2 rfl];simp
  .obtain⟨j,rfl,hj⟩:=pd.1 N;rw[dc,hj];rfl
def Pb (h:a_) {A:Y TV} (D:MU N=Z A):∀len,cP h (aF len A).flatten=Z ((repl N len).map .f)
 |0=>rfl
 |n+1=>by
  rw[kR,List.flatten_cons,repl,cJ];refine oP ?_ (Pb h D n);rw[(wZ h D).1];simp only[kN];rfl
def QI {H:mY} (hH:H.get=erHF h) {N:Y T.den} (A:Ds h (.sl T) u=Z (N,i)) (D:b9 h u=Z y):∃rd,y.row? H T.size=Z ((N.flatMap (bN T)).map .f,l! N,rd)/\∀n∈rd,∃m,n=nm m/\aK i m=J:=by
 have fl:=λL:Y T.den=>dY (bw T) L
 have tk:∀L:Y T.den,(L.flatMap (bN T)).take (l! L*T.size)=L.flatMap (bN T):=λL=>by rw[<- fl,cr]
 cases u with
 |f S x=>
  simp only[Ds,ie]at A;split at A
  .rename_i z hz;simp only[af,aG]at A;obtain⟨rfl,_⟩:=A;obtain⟨e,rfl⟩:=gV hz;subst e;simp only[b9,af]at D;subst D;refine ⟨[],?_,by simp⟩;simp only[fS,AV.row?];rw[aC (aW (by rw[fl x];exact bV _)),tk]
  .cases A
 |emp|nil=>
  simp only[Ds,ie,af,aG]at A;obtain⟨rfl,_⟩:=A;simp only[b9,af]at D;subst D;exact⟨[],rfl,by simp⟩
 |G id=>
  simp only[Ds,ie]at A;split at A
  .rename_i ty p S xs hb;split at A
   .rename_i z hz;cases A;obtain⟨e,rfl⟩:=gV hz;cases e;simp only[b9,eE,hb,af]at D;subst D;unfold dm;split
    .rename_i hp;simp only[ak,cG]at hp;have:xs=[]:=dG.1 hp.2;subst this;exact⟨[],rfl,by simp⟩
    .rename_i hp;have hg:H.get (nm id)=Z ⟨ty,.fz (xs.flatMap (bN T))⟩:=by rw[hH,bL,hb];simp only[aB,jR,av hp]
     refine ⟨[nm id],?_,λn hn=>?_⟩
     .simp only[AV.row?,hg,cm,bk,BC.isCells,BC.len,eh];rw[aC (aW (by rw[fl xs];exact bV _))];simp only[BC.toMx,<-fV,tk]
     .simp only[aE]at hn;exact⟨id,hn,bu.2 rfl⟩
   .cases A
  .cases A
 |agg l=>simp[Ds,Ty.one]at A
 |_=>simp[Ds,ie]at A
def Xr (z:b9 h u=Z y) (A:u.isC=J):gw y.cs=J:=by
 rw[QM (Q9 z A)];simp only[gw,Bool.and_true];exact Q9 z A
def abh (T:Ty) (x:T.den):gw ((bN T x).map .f)=J:=by
 have:∀l:Y FV,(∀x∈l,x.isCell=J)->gw (l.map .f)=J:=by
  intro l A;induction l with
  |nil=>rfl
  |cons z r D=>simp only[bZ,gw,ak];exact⟨A z (by simp),D λx L=>A x (by simp[L])⟩
 exact this _ (pj T x)
def gD {v:TV} {x:T.den} (A:ie h T v=Z (x,i)) (D:b9 h v=Z y):gw y.cs=J:=by
 cases v with
 |f S v=>simp only[b9,af]at D;subst D;rw[Cq];exact abh S v
 |emp|nil|G id=>exact Xr D rfl
 |_=>simp[ie]at A
def Kt (L:T.one=J) {x:T.den} (A:ie h T u=Z (x,i)):u.isC=J:=by
 cases u with
 |f S u=>
  simp only[ie]at A;split at A
  .rename_i z D;obtain⟨e,_⟩:=gV D;subst e;exact L
  .cases A
 |emp|nil|G id=>rfl
 |_=>simp[ie]at A
def V0 {a b:Y TV} (A:lO a=J) (L:lO b=J):lO (a++b)=J:=by
 induction a with
 |nil=>exact L
 |cons z r D=>simp only[lO,ak,gG]at A ⊢;exact⟨A.1,D A.2⟩
def vi:∀(n:Nat) (T:Ty) (l:Y TV) (x:T.den) (m:Nat) (r:Y TV),fc h n T l=Z (x,m,r)->∃a,l=a++r/\lO a=J
 |0,_,_,_,_,_,hp=>by simp[fc]at hp
 |n+1,.st t,l,x,m,r,hp=>vi n t l x m r hp
 |n+1,.pr a b,l,x,m,r,hp=>by
  simp only[fc]at hp;split at hp
  .rename_i z m1 A h1;split at hp
   .rename_i D m2 L N;simp only[af,aG]at hp;obtain⟨_,_,rfl⟩:=hp;obtain⟨a1,rfl,g1⟩:=vi n a l z m1 A h1;obtain⟨a2,rfl,g2⟩:=vi n b A D m2 L N;exact⟨a1++a2,by simp,V0 g1 g2⟩
   .cases hp
  .cases hp
 |n+1,.un,l,x,m,r,hp=>by
  simp only[fc,af,aG]at hp;obtain⟨_,_,rfl⟩:=hp;exact⟨[],rfl,rfl⟩
 |n+1,.ex,l,x,m,r,hp=>by
  simp only[fc]at hp;split at hp
  .rename_i z m1 A h1;simp only[af,aG]at hp;obtain⟨_,_,rfl⟩:=hp;exact vi n PF l z m1 A h1
  .cases hp
 |n+1,.sm,l,x,m,r,hp=>by
  simp only[fc]at hp;split at hp
  .rename_i z m1 A h1;simp only[af,aG]at hp;obtain⟨_,_,rfl⟩:=hp;exact vi n O9 l z m1 A h1
  .cases hp
 |n+1,.int k,l,x,m,r,hp|n+1,.bool,l,x,m,r,hp|n+1,.str,l,x,m,r,hp|n+1,.sl t,l,x,m,r,hp=>by
  simp only[fc]at hp;split at hp
  .rename_i c q;split at hp
   .rename_i z m1 h1;simp only[af,aG]at hp;obtain⟨_,_,rfl⟩:=hp;exact⟨[c],rfl,by simp[lO,Kt rfl h1]⟩
   .cases hp
  .cases hp
def Nh {x:T.den} (D:Ds h T u=Z (x,i)) (A:b9 h u=Z y):gw y.cs=J:=by
 cases u with
 |agg l=>
  simp only[Ds]at D;split at D
  .cases D
  .split at D
   .rename_i L m1 h1;obtain⟨a,e,ga⟩:=vi 40 T l L m1 [] h1;rw[mZ]at e;subst e;simp only[b9]at A;split at A
    .rename_i l' hl;cases A;exact tC hl ga
    .cases A
   .cases D
 |f S u=>exact gD (v:=.f S u) D A
 |zk T xs j hj off=>exact gD (v:=.zk T xs j hj off) D A
 |ql id sz j off=>exact gD (v:=.ql id sz j off) D A
 |H id off=>exact gD (v:=.H id off) D A
 |qv id off z=>exact gD (v:=.qv id off z) D A
 |G id=>exact gD (v:=.G id) D A
 |emp=>exact gD (v:=.emp) D A
 |nil=>exact gD (v:=.nil) D A
 |mp id=>exact gD (v:=.mp id) D A
 |zm id N=>exact gD (v:=.zm id N) D A
 |qg q=>exact gD (v:=.qg q) D A
 |qy g q=>exact gD (v:=.qy g q) D A
 |undef=>exact gD (v:=.undef) D A
 |np=>exact gD (v:=.np) D A
 |qw=>exact gD (v:=.qw) D A
 |qd S q=>exact gD (v:=.qd S q) D A
 |sb q=>exact gD (v:=.sb q) D A
def oa (D:b9 h u=Z y):∀(n:Nat) (T:Ty) (v:T.den) (off sz:Nat) (z:T.den) (m:Nat),gO h u n T v off sz=Z (z,m)->gw y.cs=J
 |0,_,_,_,_,_,_,A=>by simp[gO]at A
 |n+1,.st t,v,off,sz,z,m,A=>by
  simp only[gO]at A;split at A
  .rename_i q L;split at L
   .exact Nh L D
   .cases L
  .exact oa D n t v off sz z m A
 |n+1,.pr a b,v,off,sz,z,m,A=>by
  simp only[gO]at A;split at A
  .split at A
   .rename_i N m1 h1;exact oa D n a v.1 off sz N m1 h1
   .cases A
  .split at A
   .rename_i N m1 h1;exact oa D n b v.2 _ sz N m1 h1
   .cases A
 |n+1,.un,v,off,sz,z,m,A=>by simp[gO]at A
 |n+1,.ex,v,off,sz,z,m,A=>by
  simp only[gO]at A;split at A
  .rename_i q L;split at L
   .exact Nh L D
   .cases L
  .split at A
   .rename_i N m1 h1;exact oa D n PF _ off sz N m1 h1
   .cases A
 |n+1,.sm,v,off,sz,z,m,A=>by
  simp only[gO]at A;split at A
  .rename_i q L;split at L
   .exact Nh L D
   .cases L
  .split at A
   .rename_i N m1 h1;exact oa D n O9 _ off sz N m1 h1
   .cases A
 |n+1,.int k,v,off,sz,z,m,A|n+1,.bool,v,off,sz,z,m,A|n+1,.str,v,off,sz,z,m,A|n+1,.sl t,v,off,sz,z,m,A=>by
  simp only[gO]at A;split at A
  .exact gD A D
  .cases A
def Nl (l:Y FV):yI (l.map .f)=Z l:=by
 induction l with
 |nil=>rfl
 |cons x r z=>simp only[bZ,yI,z]
def vM (l:Y FV):nV (l.map .f)= .fz l:=by unfold nV;rw[Nl]
def I_:∀{a b:Y TV},lO a=J->lO b=J->lO (a++b)=J
 |[],_,_,z=>z
 |x::r,b,A,z=>by
  simp only[lO,ak]at A;simp only[gG,lO,ak];exact⟨A.1,I_ A.2 z⟩
def HO {z:Y TV} (A:lO z=J):∀n,lO (aF n z).flatten=J
 |0=>rfl
 |n+1=>by rw[kR,List.flatten_cons];exact I_ A (HO A n)
def ZR {H:mY} (L:H.get=erHF h) {l:Y TV} {l':Y AV} (D:h.get i=Z (.C (Z j) l)) (z:cP h l=Z l') {n sz:Nat} (N:l! l=n*sz):AV.row? H sz (.G (nm i) sz n)=Z (l',n,[nm i]):=by
 have A:H.get (nm i)=Z ⟨j,.mx l'⟩:=by rw[L,bL,D];simp only[aB,jR,z]
 have hln:=gU z;simp only[AV.row?,cm,bk,A,BC.isCells,eh,BC.len,BC.toMx];rw[aC (aW (by omega)),gp (by omega)]
variable (hinv:gW h nx) (hi:su e h)
include hinv hi
variable {X:FuncId->M cF} {W:TypeId->M Ty}
def apy {ty:ξ} {parts:Y m?} (hcm:Gb (W z)=U) (hc:cZ P o.op=Z (.xw z i j ty parts)) (D:eC X W (.op (.xw z i j ty parts)) e h nx K=Z r):iT P o aa e h nx K r:=by
 obtain⟨H,hH⟩:=gC h;simp only[eC,hcm]at D;split at D
 .rename_i T zc hT hz;split at D
  .rename_i hs;have hs:=au hs;subst hs;split at D
   .rename_i cs hf;split at D
    .rename_i xs m hp;obtain⟨cs',h1,h2,_⟩:=Fx hi parts _ cs _ hf (Pb h hz j);have hm:=QJ j cs xs m hp;refine ⟨_,_,_,_,_,D,eT.new hinv hc hH (y0:=if j=0 then .emp else .G (nm nx) T.size j) (rdl:=[]) (b0:=⟨z,nV cs'⟩) (by simp only[dx,h1]) hm (λ_ _ he=>by cases he) (λH1 H2 d g b' A=>?_) (λH1 H2 y d g N=>?_) (by simp)⟩
     .simp only[jR]at A;split at A
      .cases A
      rw[af]at A;subst A;obtain⟨q1,q2⟩:=nE cs';refine fH.C q2 rfl ?_ λx hx=>?_
      .rw[q1];exact (E0 d j cs xs m cs' hp h2 g).1
      .simp only[BC.toMx]at hx;obtain⟨q,L,rfl⟩:=ch.1 hx;exact ml T _ q L
     .simp only[b9,bC,PT.get_set,bk,aB,iG,dm,af]at N;rw[(E0 d j cs xs m cs' hp h2 g).2]at N;split at N
      .rename_i L;simp only[ak,cG]at L;subst N;rw[aC L.2];exact kl.refl d _
      .rename_i L;subst N;rw[av (λh0=>L (by subst h0;rfl))];exact kl.refl d _
    .cases D
   .cases D
  .cases D
 .cases D
def Sd {H:mY} (hH:H.get=erHF h) {x:Operand} {ty:Y T.den} {yy:AV} {rdl:ι} (hc:cZ P o.op=Z (.app z T.size i s x)) (h1:lZ (CU e h) s=Z y) (h2:b9 h u=Z y) (h3:lZ (CU e h) x=Z yy) (h5:yy.row? H T.size=Z ((ty.flatMap (bN T)).map .f,l! ty,rdl)) (h6:∀n∈rdl,aK j (ow n)=J) (A:akj z T.size i T u ty j h nx K=Z r):iT P o aa e h nx K r:=by
 have hfr:=hinv.fresh;have _:=hi;unfold akj at A;have onEmp:∀(rd':Nat),(∀n∈rdl,aK rd' (ow n)=J)->D2 y=J->Le y .emp->be (ah ty) i=J->eT P o aa e h nx (.G nx) rd' (gf nx) (h.set nx (Z (.F z J T ty))) (nx+1):=by
  intro rd' hrd' he hle hroom;have hr1:b7 h (h.set nx (Z (.F z J T ty))):=b7.set λr hr=>by rw[bC,hfr]at hr;cases hr
  have hyb:∀id sz' n,y≠ .G id sz' n:=by rintro id sz' n rfl;cases he
  have L:dx (.app z T.size i s x) (CU e h) H (nm nx)=if ah ty==0 then Z ⟨y,rdl,[],[],[]⟩ else Z ⟨.G (nm nx) T.size (ah ty),rdl,[nm nx],[(nm nx,⟨z,nV ((ty.flatMap (bN T)).map .f)⟩)],[nm nx]⟩:=by
   simp only[dx,h1,h3,h5];cases y with
   |G id sz' n=>exact co rfl (hyb id sz' n)
   |qd l n=>cases he
   |_=>simp only[he,hroom,fC,bk]
  by_cases hl:ah ty=0
  .rw[hl]at L;simp only[cm,bk]at L;have hnil:ty=[]:=dG.1 hl;subst hnil;refine eT.mk' hc hH L [] (by simp) (λn _=>?_) (by simp) (λH1 H2 d _ _ _=>⟨by simp,λyb N=>?_⟩) hrd' (by simp) (by simp) hr1 (hinv.set hr1 (by omega) (by omega) λ_ _ he=>by cases he) (by omega)
   .by_cases D:n=nm nx
    .subst D;rw[bL,bL,PT.get_set,aC rfl,hfr];rfl
    .refine l7 hinv hr1 (iz.set (by rw[hfr];rfl) rfl) λbytes e=>?_
     subst e;rw[PT.get_set,av (λe=>D (by rw[e]))]
   .simp only[b9,bC,PT.get_set,bk,aB,iG,dm,kW,cm,fC,af]at N;subst N;exact hle.toH d
  .rw[av (by simpa using hl)]at L;rw[vM]at L;have key:=eT.new (m:=0) (rd:=rd') hinv hc hH L (B:=.F z J T ty) (v:=.G nx) (dE.zero h) (λ_ _ he=>by cases he) (λH1 H2 d g b' hb'=>by
    simp only[jR]at hb';rw[av (by simpa using hl)]at hb';cases hb';exact fH.refl d _) (λH1 H2 yb d g N=>by
    simp only[b9,bC,PT.get_set,bk,aB,iG,dm]at N;rw[av (by simpa using hl)]at N;cases N;exact kl.refl d _) hrd'
   rw[wh]at key;exact key
 split at A
 .rename_i id;split at A
  .rename_i ty' p S xs0 hb;split at A
   .rename_i xs hxs;obtain⟨ee,rfl⟩:=gV hxs;cases ee;split at A
    .rename_i hcond;simp only[ak,cG,cV]at hcond;obtain⟨rfl,hmid⟩:=hcond;obtain⟨hroom,A⟩:=cL A;simp only[b9,eE,hb,af]at h2;have hidlt:=hinv.low id _ hb;have hne:nx≠id:=by omega
     have hrd:∀n∈rdl,aK (gf id|||j) (ow n)=J:=λn D=>by
      rw[bn,h6 n D];simp
     generalize hh':(h.set id (Z (.qj p T.size (ah xs0)))).set nx (Z (.F ty' p T (xs0++ty)))=h' at A;have hrA:b7 h (h.set id (Z (.qj p T.size (ah xs0)))):=b7.set λr hr=>by rw[bC,hb]at hr;exact hr
     have hg2:∀bytes,h'.get bytes=if bytes=nx then Z (.F ty' p T (xs0++ty)) else if bytes=id then Z (.qj p T.size (ah xs0)) else h.get bytes:=λbytes=>by rw[<- hh',PT.get_set,PT.get_set]
     have hr:b7 h h':=by
      rw[<- hh'];refine hrA.trans (b7.set λr hr=>?_);rw[bC,PT.get_set,av hne,hfr]at hr;cases hr
     have hinv':gW h' (nx+1):=by
      refine ⟨λbytes z l hil=>?_,λbytes c hic=>?_⟩
      .rw[hg2]at hil;split at hil
       .cases hil
       .split at hil
        .cases hil
        .exact fd hr l (hinv.C bytes _ l hil)
      .rw[hg2]at hic;split at hic
       .omega
       .split at hic
        .omega
        .have:=hinv.low bytes c hic;omega
     have hme:iz h h':=(iz.of λbytes=>by
      rw[hg2];by_cases e1:bytes=nx
      .rw[aC e1,e1,hfr];exact .inr ⟨rfl,rfl⟩
      .rw[av e1];by_cases e2:bytes=id
       .rw[aC e2,e2,hb];exact .inr ⟨rfl,rfl⟩
       .rw[av e2];exact .inl rfl)
     have hsame:∀n,n≠nm nx->n≠nm id->erHF h' n=erHF h n:=λn h1 h2=>l7 hinv hr hme λbytes e=>by
      subst e;rw[hg2,av (λe=>h1 (by rw[e])),av (λe=>h2 (by rw[e]))]
     have hdead:erHF h' (nm id)=U:=by rw[bL,hg2,av (by omega),aC rfl];rfl
     have hnew:erHF h' (nm nx)=if p&&l! (xs0++ty)==0 then U else Z ⟨ty',.fz ((xs0++ty).flatMap (bN T))⟩:=by rw[bL,hg2,aC rfl];rfl
     have hval:b9 h' (.G nx)=Z (dm p nx T.size (l! (xs0++ty))):=by simp only[b9,bC,hg2,bk,aB,iG]
     have hwm:∀n,n=nm nx\/n=nm id->aK (gf id|||gf nx) (ow n)=J:=λn D=>by
      rcases D with rfl|rfl<;>rw[dc,bn,bu.2 rfl]<;>simp
     refine ⟨_,_,_,_,_,A,?_⟩;by_cases hp:(p&&l! xs0==0)=J
     ·
      have hyb:y= .emp:=by rw[<- h2];unfold dm;rw[aC hp]
      subst hyb;simp only[ak,cG]at hp;obtain⟨rfl,hl0⟩:=hp;have hnil:xs0=[]:=dG.1 hl0;subst hnil;have hroom':be (ah ty) i=J:=by simpa using hroom
      have L:dx (.app ty' T.size i s x) (CU e h) H (nm nx)=if ah ty==0 then Z ⟨.emp,rdl,[],[],[]⟩ else Z ⟨.G (nm nx) T.size (ah ty),rdl,[nm nx],[(nm nx,⟨ty',nV ((ty.flatMap (bN T)).map .f)⟩)],[nm nx]⟩:=by
       simp only[dx,h1,h3,h5,D2,hroom',fC,bk]
      have hdead0:erHF h (nm id)=U:=by rw[bL,hb];rfl
      by_cases hl:ah ty=0
      .rw[hl]at L;simp only[cm,bk]at L;have hnil:ty=[]:=dG.1 hl;subst hnil;refine eT.mk' hc hH L [] (by simp) (λn _=>?_) (by simp) (λH1 H2 d _ _ _=>⟨by simp,λyb N=>?_⟩) hrd (by simp) (by simp) hr hinv' (by omega)
       .by_cases D:n=nm nx
        .subst D;rw[hnew,bL,hfr];rfl
        .by_cases hn2:n=nm id
         .subst hn2;rw[hdead,hdead0]
         .exact hsame n D hn2
       .rw[hval]at N;simp only[dm,mZ,kW,cm,fC,bk,af]at N;subst N;exact kl.refl d _
      .rw[av (by simpa using hl),vM]at L;refine eT.mk' hc hH L [nm nx] (λbytes hi=>hi) (λn D=>?_) (λbytes hi b' _=>⟨_,by rw[aC hi];simp only[aE]at hi;subst hi;exact eR _ _⟩) (λH1 H2 d hw1 _ hw2=>⟨λbytes hi u b' hb1 hb2=>?_,λyb N=>?_⟩) hrd (λn D=>hwm n (.inl (by simpa using D))) (λn D=>by simp only[aE]at D;subst D;rw[dc];omega) hr hinv' (by omega)
       .have hn1:n≠nm nx:=by simpa using D
        by_cases hn2:n=nm id
        .subst hn2;rw[hdead,hdead0]
        .exact hsame n hn1 hn2
       .simp only[aE]at hi;subst hi;rw[hw1 _ (by simp),eR]at hb1;rw[hw2 _ (by simp),hnew,av (by simpa using hl)]at hb2;simp only[af,kV]at hb1 hb2;subst hb1 hb2;exact fH.refl d _
       .rw[hval]at N;simp only[dm,kV]at N;rw[av (by simpa using hl)]at N;cases N;exact kl.refl d _
     .have hyb:y= .G (nm id) T.size (l! xs0):=by rw[<- h2];unfold dm;rw[av hp]
      subst hyb;have hg:H.get (nm id)=Z ⟨ty',.fz (xs0.flatMap (bN T))⟩:=by rw[hH,bL,hb];simp only[aB,jR,av hp]
      have fl:=dY (bw T) xs0;have tk:(xs0.flatMap (bN T)).take (l! xs0*T.size)=xs0.flatMap (bN T):=by rw[<- fl,cr]
      have hmem:mem (nm id) rdl=aa:=by
       cases hx:mem (nm id) rdl with
       |false=>rfl
       |true=>
        have hm:=h6 _ (af5.1 hx);rw[dc,hmid]at hm;cases hm
      have L:dx (.app ty' T.size i s x) (CU e h) H (nm nx)=Z ⟨.G (nm nx) T.size (l! xs0+l! ty),nm id::rdl,[nm nx,nm id],[(nm nx,⟨ty',.fz ((xs0++ty).flatMap (bN T))⟩)],[nm nx]⟩:=by
       have hcnd:(T.size==T.size&& !(mem (nm id) rdl)&&(BC.fz (xs0.flatMap (bN T))).isCells&&dK (l! xs0*T.size) (BC.fz (xs0.flatMap (bN T))).len&&ty'==ty'&&be (l! xs0+l! ty) i)=J:=by
        have:dK (l! xs0*T.size) (BC.fz (xs0.flatMap (bN T))).len=J:=aW (by simp only[BC.len];omega);rw[this,hmem,hroom];simp[BC.isCells]
       simp only[dx,h1,h3,h5,hg,hcnd,bk,BC.toMx,<-fV,tk,<-cJ,vM,xG]
      have hne2:¬((p&&l! (xs0++ty)==0)=J):=by
       simp only[ak,cG,bc]at hp ⊢;intro hh;exact hp ⟨hh.1,by omega⟩
      refine eT.mk' hc hH L [nm nx,nm id] (λbytes hi=>hi) (λn D=>?_) (λbytes hi b' hb'=>?_) (λH1 H2 d hw1 _ hw2=>⟨λbytes hi u b' hb1 hb2=>?_,λyb N=>?_⟩) (λn D=>?_) (λn D=>hwm n (by simpa using D)) (λn D=>by simp only[aE]at D;subst D;rw[dc];omega) hr hinv' (by omega)
      .simp only[aZ,cu,fJ,not_or]at D;exact hsame n D.1 D.2
      .simp only[aZ,cu,fJ]at hi;rcases hi with rfl|rfl
       .exact⟨_,by rw[aC (by simp)];exact eR _ _⟩
       .rw[hdead]at hb';cases hb'
      .simp only[aZ,cu,fJ]at hi;rcases hi with rfl|rfl
       .rw[hw1 _ (by simp),eR]at hb1;rw[hw2 _ (by simp),hnew,av hne2]at hb2;simp only[af]at hb1 hb2;subst hb1 hb2;exact fH.refl d _
       .rw[hw2 _ (by simp),hdead]at hb2;cases hb2
      .rw[hval]at N;simp only[dm]at N;rw[av hne2]at N;simp only[bc,af]at N;subst N;exact kl.refl d _
      .rcases aZ.1 D with rfl|D
       .rw[dc,bn,bu.2 rfl];rfl
       .exact hrd n D
    .cases A
   .cases A
  .cases A
 .rename_i S xs1;split at A
  .rename_i hm0;have hm0:=au hm0;subst hm0;split at A
   .rename_i xs hxs;obtain⟨ee,rfl⟩:=gV hxs;cases ee;obtain⟨hroom,A⟩:=cL A;simp only[b9,af]at h2;subst h2;have hr0:rdl=[]:=by
     cases rdl with
     |nil=>rfl
     |cons a q=>have hz:=h6 a (by simp);simp at hz
    subst hr0;have fl:=dY (bw T) xs1;have tk:(xs1.flatMap (bN T)).take (l! xs1*T.size)=xs1.flatMap (bN T):=by rw[<- fl,cr]
    have hcnd:(dK (l! xs1*T.size) (l! (xs1.flatMap (bN T)))&&be (l! xs1+l! ty) i)=J:=by
     have hroom:be (l! xs1+l! ty) i=J:=hroom;rw[hroom,Bool.and_true];exact aW (by omega)
    rcases lN A with ⟨hl,A⟩|⟨hl,A⟩
    .have hl:=au hl;have hl':(ah ty==0)=J:=by rw[hl];rfl
     exact⟨_,0,0,h,nx,A,eT.pure (y0:=.f (.sl (xs1.flatMap (bN T)) (l! xs1))) (k:=nm nx) hinv hc hH (by simp only[dx,h1,h3,h5,hcnd,bk,hl'];rfl) (cU rfl) (by simp) λ_=>rfl⟩
    .have hl':¬(ah ty==0)=J:=λe=>by
      have e:ah ty=0:=by simpa using e
      rw[e]at hl;cases hl
     exact⟨_,_,_,_,_,A,eT.new hinv hc hH (y0:=.G (nm nx) T.size (l! xs1+l! ty)) (rdl:=[]) (b0:=⟨z,.fz ((xs1++ty).flatMap (bN T))⟩) (by
      simp only[dx,h1,h3,h5,hcnd,bk];rw[av hl',tk,<-cJ,vM,<-xG]) (B:=.F z aa T (xs1++ty)) (v:=.G nx) (dE.zero h) (λ_ _ he=>by cases he) (λH1 H2 d g b' hb'=>by
      simp only[jR,eV,bY,c7,af]at hb';subst hb';exact fH.refl d _) (λH1 H2 yb d g N=>by
      simp only[b9,bC,PT.get_set,bk,aB,iG,dm,eV,bY,c7,bc,af]at N;subst N;exact kl.refl d _) (by simp)⟩
   .cases A
  .cases A
 .obtain⟨hroom,A⟩:=cL A;simp only[b9,af]at h2;subst h2;exact⟨_,_,_,_,_,A,onEmp j h6 rfl (Le.refl _) hroom⟩
 .obtain⟨hroom,A⟩:=cL A;simp only[b9,af]at h2;subst h2;exact⟨_,_,_,_,_,A,onEmp j h6 rfl Le.nilEmp hroom⟩
 .cases A
def apz {x:Operand} (hcm:Gb (W z)=U) (hc:cZ P o.op=Z (.app z i j s x)) (ty:eC X W (.op (.app z i j s x)) e h nx K=Z r):iT P o aa e h nx K r:=by
 obtain⟨H,L⟩:=gC h;have hfr:=hinv.fresh;simp only[eC,hcm]at ty;split at ty
 .rename_i T b y hT N A;split at ty
  .rename_i D;have D:=au D;subst D;split at ty
   .rename_i ys m hys;obtain⟨yb,h1,h2⟩:=ba hi N;obtain⟨yy,h3,h4⟩:=ba hi A;obtain⟨rdl,h5,h6⟩:=QI L hys h4;exact Sd hinv hi L hc h1 h2 h3 h5 (λn hn=>by obtain⟨sz,rfl,hm⟩:=h6 n hn;rw[dc];exact hm) ty
   .cases ty
  .cases ty
 .cases ty
def agh (xs A:Y T.den):(Wz xs A).flatMap (bN T)=AI.splice (xs.flatMap (bN T)) 0 ((A.flatMap (bN T)).take (jH (l! A) (l! xs)*T.size)):=by
 have _:=hinv;have _:=hi;have fl:=λD:Y T.den=>dY (bw T) D
 have tk:∀(D:Y T.den) n,(D.flatMap (bN T)).take (n*T.size)=(D.take n).flatMap (bN T):=by
  intro D;induction D with
  |nil=>intro n;simp
  |cons z r L=>
   intro n;cases n with
   |zero=>simp
   |succ n=>rw[fW,xF,fW,iD,List.take_append,bw,gp (by rw[bw];omega),show n*T.size+T.size-T.size=n*T.size from by omega,L n]
 have dp:∀(D:Y T.den) n,(D.flatMap (bN T)).drop (n*T.size)=(D.drop n).flatMap (bN T):=by
  intro D;induction D with
  |nil=>intro n;simp
  |cons z r L=>
   intro n;cases n with
   |zero=>simp
   |succ n=>rw[fW,xH,iD,wK,bw,s6 (by rw[bw];omega),show n*T.size+T.size-T.size=n*T.size from by omega,L n,kV]
 unfold Wz AI.splice;rw[tk,xG,fl,bQ];have N:A.take (jH (l! A) (l! xs))=A.take (l! xs):=by
  rcases Nat.le_total (l! A) (l! xs) with h|h
  .rw[show jH (l! A) (l! xs)=l! A from t7 h,cr,gp h]
  .rw[show jH (l! A) (l! xs)=l! xs from Nat.min_eq_right h]
 rw[N];have e2:min (jH (l! A) (l! xs)) (l! A)=jH (l! A) (l! xs):=t7 (Nat.min_le_left _ _);rw[e2];simp only[List.take_zero,kV,bF];rw[dp];congr 1;rcases Nat.le_total (l! A) (l! xs) with h|h
 .rw[show jH (l! A) (l! xs)=l! A from t7 h]
 .rw[show jH (l! A) (l! xs)=l! xs from Nat.min_eq_right h,List.drop_length,s6 h]
def apw {x:Operand} (hc:cZ P o.op=Z (.copy i s x)) (D:eC X W (.op (.copy i s x)) e h nx K=Z r):iT P o aa e h nx K r:=by
 obtain⟨H,hH⟩:=gC h;simp only[eC]at D;split at D
 .rename_i id y hv hv2;split at D
  .rename_i ty p T xs hb;split at D
   .rename_i hs;have hs:=au hs;subst hs;split at D
    .rename_i A m hys;split at D
     .rename_i hcond;simp only[ak,cV]at hcond;obtain⟨hmid,rfl⟩:=hcond;obtain⟨yb,h1,h2⟩:=ba hi hv;obtain⟨yy,h3,h4⟩:=ba hi hv2;obtain⟨rdl,h5,h6⟩:=QI hH hys h4;simp only[b9,eE,hb,dm,eV,bY,c7,af]at h2;subst h2;have fl:=dY (bw T) xs;have fl2:=dY (bw T) A;have hg:H.get (nm id)=Z ⟨ty,.fz (xs.flatMap (bN T))⟩:=by rw[hH,bL,hb];simp[jR]
      have hmem:mem (nm id) rdl=aa:=by
       cases L:mem (nm id) rdl with
       |false=>rfl
       |true=>
        obtain⟨sz,e,hm⟩:=h6 _ (af5.1 L);rw[<- ug e,hmid]at hm;cases hm
      have hle:jH (l! A) (l! xs)*T.size<=l! xs*T.size:=cQ _ (Nat.min_le_right _ _);have ha0:dx (.copy T.size s x) (CU e h) H (nm nx)=Z ⟨raw (.int .i64 (jH (l! A) (l! xs))),nm id::rdl,[nm id],[(nm id,⟨ty,.fz ((Wz xs A).flatMap (bN T))⟩)],[]⟩:=by
       have hcnd:(T.size==T.size&& !(mem (nm id) rdl)&&dK (l! xs*T.size) (BC.fz (xs.flatMap (bN T))).len)=J:=by
        have:dK (l! xs*T.size) (BC.fz (xs.flatMap (bN T))).len=J:=aW (by simp only[BC.len];omega);rw[this,hmem];simp
       have hput:(BC.fz (xs.flatMap (bN T))).put 0 (((A.flatMap (bN T)).map .f).take (jH (l! A) (l! xs)*T.size))=Z (.fz ((Wz xs A).flatMap (bN T))):=by
        rw[<- fV];unfold BC.put;rw[aC]
        .simp only[Nl];rw[agh hinv hi]
        .simp only[ak];refine ⟨⟨rfl,aW ?_⟩,?_⟩
         .simp only[BC.len,bH,bQ];omega
         .have:∀l:Y FV,(∀x∈l,x.isCell=J)->gw (l.map .f)=J:=by
           intro l hl;induction l with
           |nil=>rfl
           |cons z r ih=>simp only[bZ,gw,ak];exact⟨hl z (by simp),ih λx L=>hl x (by simp[L])⟩
          exact this _ λx L=>ml T A x (ij L)
       simp only[dx,h1,h3,hg,h5,hcnd,bk,hput]
      have hrow:iG (.F ty aa T (Wz xs A))=iG (.F ty aa T xs):=by
       have:l! (Wz xs A)=l! xs:=by unfold Wz;rw[bc,bQ,n_];omega
       simp only[iG,this]
      have key:=eT.wrt (m:=0) (v:=.f (.int .i64) (aP (jH (ah A) (ah xs)))) (rd:=gf id|||m) hinv hc hH ha0 (B:=.F ty aa T (Wz xs A)) hb (dE.zero h) (by simp) hrow (λ_ _ he=>by cases he) (λH1 H2 s g b' N=>by
       simp only[jR,eV,bY,c7,af]at N;subst N;exact fH.refl s _) (λH1 H2 y s g hy=>by
       simp only[b9,af]at hy;subst hy;exact kl.refl s _) (λn hn=>by
       rcases aZ.1 hn with rfl|hn
       .rw[dc,bn,bu.2 rfl];rfl
       .obtain⟨sz,rfl,hm⟩:=h6 n hn;rw[dc,bn,hm];simp)
      rw[wh]at key;exact⟨_,_,_,_,_,D,key⟩
     .cases D
    .cases D
   .cases D
  .cases D
 .cases D
def alb {v:Operand} (hc:cZ P o.op=Z (.store i s v)) (A:eC X W (.op (.store i s v)) e h nx K=Z r):iT P o aa e h nx K r:=by
 obtain⟨H,hH⟩:=gC h;simp only[eC]at A;split at A
 .rename_i id off y hv hv2;obtain⟨yb,h1,h2⟩:=ba hi hv;obtain⟨L,h3,h4⟩:=ba hi hv2;simp only[b9,af]at h2;subst h2;split at A
  .rename_i ty l N;split at A
   .rename_i cs hcs;split at A
    .rename_i hcond;simp only[ak,cG]at hcond;obtain⟨h5,h6⟩:=I6 hcs h4;obtain⟨l',hl⟩:=eX h l (hinv.C id _ l N);have hg:H.get (nm id)=Z ⟨ty,.mx l'⟩:=by rw[hH,bL,N];simp only[aB,jR,hl]
     have hcell:=tC h5 h6;have hlen:L.cs.length=i:=by rw[gU h5];exact hcond.1
     have hput:(BC.mx l').put off L.cs=Z (.mx (splice l' off L.cs)):=by
      unfold BC.put;rw[aC]
      .rfl
      .simp only[ak];exact⟨⟨rfl,by simp only[BC.len];rw[hlen,gU hl];exact hcond.2⟩,hcell⟩
     have ha0:dx (.store i s v) (CU e h) H (nm nx)=Z ⟨raw undef,[nm id],[nm id],[(nm id,⟨ty,.mx (splice l' off L.cs)⟩)],[]⟩:=by
      simp only[dx,h1,h3,BX,hg,hlen,cm,bk,hput]
     have hspl:∀h',b7 h h'->cP h' (splice l off cs)=Z (splice l' off L.cs):=λh' hr=>oO off (fY hr l l' hl) (fY hr cs _ h5)
     have hr1:b7 h (h.set id (Z (.C (Z ty) (splice l off cs)))):=b7.set λr hr=>by rw[bC,N]at hr;cases hr
     have key:=eT.wrt (m:=0) (v:=.undef) (rd:=gf id) hinv hc hH ha0 (B:=.C (Z ty) (splice l off cs)) N (dE.zero h) (by simp) rfl (λty' l2 he=>by cases he;exact kQ _ _ _ (hspl _ hr1)) (λH1 H2 d g b' D=>by
      have:=hspl _ hr1;simp only[dL,eW,bk,jR,this,af]at D;subst D;exact fH.refl d _) (λH1 H2 y d g hy=>by
      simp only[b9,af]at hy;subst hy;exact kl.refl d _) (λn hn=>by simp only[aE]at hn;subst hn;rw[dc];exact bu.2 rfl)
     rw[wh]at key;exact⟨_,_,_,_,_,A,key⟩
    .cases A
   .cases A
  .cases A
 .rename_i id sz' j off y hv hv2;obtain⟨yb,h1,h2⟩:=ba hi hv;obtain⟨L,h3,h4⟩:=ba hi hv2;simp only[b9,af]at h2;subst h2;split at A
  .rename_i ty p T xs N;split at A
   .rename_i hsz;have hsz:=au hsz;subst hsz;obtain⟨hj,A⟩:=cL A;split at A
    .rename_i z m hset;split at A
     .cases A
     .rename_i hmid;have hmid:aK m id=aa:=by simpa using hmid
      have hm:=Cd 40 T _ off i z m hset;obtain⟨j0,j1,j2⟩:=mQ hj;have hne:¬((p&&xs.length==0)=J):=by simp only[ak,cG];omega
      have hne2:¬((p&&(cN xs j z).length==0)=J):=by unfold cN;rw[fL];exact hne
      have hg:H.get (nm id)=Z ⟨ty,.fz (xs.flatMap (bN T))⟩:=by rw[hH,bL,N];simp only[aB,jR,av hne]
      have fl:=dY (bw T) xs;have hx:xs[j.toNat]? =Z (geti _ xs j):=by
       unfold geti;rw[ax,aD j2];rfl
      have hle:(j.toNat+1)*T.size<=xs.length*T.size:=cQ _ j2;rw[iD]at hle;have hso:∀H1 H2,rh H1 H2->Eo h H1 H2 m->Qf H1 H2 L T (geti _ xs j) z off i:=λH1 H2 d g=>tF d h4 40 T _ off i z m hset g
      have hshape:L.cs.length=i/\off+i<=T.size/\gw L.cs=J:=by
       have d0:rh (erHF h) (erHF (dL m h)):=rh.kill hinv hm;obtain⟨fs,q1,q2,q3,q4,q5⟩:=hso _ _ d0 (λsz hi=>⟨rfl,by
        obtain⟨pp,ss,nn,g3⟩:=vm hm hi;rw[bL,g3];rfl⟩)
       refine ⟨by rw[<- q2,<-bH (f:=AV.f),q1.length],q3,?_⟩;exact oa h4 40 T _ off i z m hset
      obtain⟨hlen,hoff,hcell⟩:=hshape;obtain⟨c',hput,hc1,hc2⟩:∃c',(BC.fz (xs.flatMap (bN T))).put (j.toNat*T.size+off) L.cs=Z c'/\c'.toMx=splice ((xs.flatMap (bN T)).map .f) (j.toNat*T.size+off) L.cs/\c'.isCells=J:=by
       unfold BC.put;rw[aC]
       .split
        .rename_i l ys hl hys;simp only[BC.fz.injEq]at hl;subst hl;refine ⟨_,rfl,?_,rfl⟩;rw[nI hys];simp only[BC.toMx];unfold splice;simp[fV,uc]
        .exact⟨_,rfl,rfl,rfl⟩
       .simp only[ak];exact⟨⟨rfl,aW (by simp only[BC.len];omega)⟩,hcell⟩
      have ha0:dx (.store i s v) (CU e h) H (nm nx)=Z ⟨raw undef,[nm id],[nm id],[(nm id,⟨ty,c'⟩)],[]⟩:=by
       simp only[dx,h1,h3,BX,hg,hlen,cm,bk,hput]
      have hrow:iG (.F ty p T (cN xs j z))=iG (.F ty p T xs):=by
       unfold cN;simp only[iG,fL]
      refine ⟨_,_,_,_,_,A,eT.wrt hinv hc hH ha0 (B:=.F ty p T (cN xs j z)) N hm hmid hrow (λ_ _ he=>by cases he) (λH1 H2 d g b' D=>?_) (λH1 H2 y d g hy=>?_) (λn hn=>?_)⟩
      .simp only[jR,av hne2,af]at D;subst D;obtain⟨fs,q1,q2,q3,q4,q5⟩:=hso H1 H2 d g;have hfl:(cN xs j z).flatMap (bN T)=AI.splice (xs.flatMap (bN T)) (j.toNat*T.size+off) fs:=L5 (bw T) xs j.toNat _ z hx off fs (by omega) q4;refine fH.C hc2 rfl ?_ λs hx=>?_
       .rw[hc1];simp only[BC.toMx];rw[hfl];have:(AI.splice (xs.flatMap (bN T)) (j.toNat*T.size+off) fs).map AV.f=AI.splice ((xs.flatMap (bN T)).map .f) (j.toNat*T.size+off) (fs.map .f):=by unfold AI.splice;simp[fV,uc]
        rw[this];exact (gL.refl d _).splice _ q1
       .simp only[BC.toMx]at hx;obtain⟨q,hq,rfl⟩:=ch.1 hx;exact ml T _ q hq
      .simp only[b9,af]at hy;subst hy;exact kl.refl d _
      .simp only[aE]at hn;subst hn;rw[dc,bn,bu.2 rfl];simp
    .cases A
   .cases A
  .rename_i ty l N;split at A
   .rename_i hsz;simp only[ak]at hsz;obtain⟨s1,s2,s3⟩:=hsz;have s1:=au s1;have s2:=au s2;have s3:=au s3;subst s1 s2 s3;obtain⟨hj,A⟩:=cL A;obtain⟨j0,j1,j2⟩:=mQ hj;split at A
    .rename_i cs hcs;split at A
     .rename_i hc1;have hc1:=au hc1;obtain⟨h5,h6⟩:=I6 hcs h4;obtain⟨l',hl⟩:=eX h l (hinv.C id _ l N);have hg:H.get (nm id)=Z ⟨ty,.mx l'⟩:=by rw[hH,bL,N];simp only[aB,jR,hl]
      have hcell:=tC h5 h6;have hlen:L.cs.length=1:=by rw[gU h5];exact hc1
      have e0:j.toNat*1+0=j.toNat:=by omega
      rw[e0]at h1;have hput:(BC.mx l').put j.toNat L.cs=Z (.mx (splice l' j.toNat L.cs)):=by
       unfold BC.put;rw[aC]
       .rfl
       .simp only[ak];exact⟨⟨rfl,aW (by simp only[BC.len];rw[hlen,gU hl];omega)⟩,hcell⟩
      have ha0:dx (.store 1 s v) (CU e h) H (nm nx)=Z ⟨raw undef,[nm id],[nm id],[(nm id,⟨ty,.mx (splice l' j.toNat L.cs)⟩)],[]⟩:=by
       simp only[dx,h1,h3,BX,hg,hlen,cm,bk,hput]
      have hspl:∀h',b7 h h'->cP h' (splice l j.toNat cs)=Z (splice l' j.toNat L.cs):=λh' hr=>oO j.toNat (fY hr l l' hl) (fY hr cs _ h5)
      have hr1:b7 h (h.set id (Z (.C (Z ty) (splice l j.toNat cs)))):=b7.set λr hr=>by rw[bC,N]at hr;cases hr
      have key:=eT.wrt (m:=0) (v:=.undef) (rd:=gf id) hinv hc hH ha0 (B:=.C (Z ty) (splice l j.toNat cs)) N (dE.zero h) (by simp) rfl (λty' l2 he=>by cases he;exact kQ _ _ _ (hspl _ hr1)) (λH1 H2 d g b' D=>by
       have:=hspl _ hr1;simp only[dL,eW,bk,jR,this,af]at D;subst D;exact fH.refl d _) (λH1 H2 y d g hy=>by
       simp only[b9,af]at hy;subst hy;exact kl.refl d _) (λn hn=>by simp only[aE]at hn;subst hn;rw[dc];exact bu.2 rfl)
      rw[wh]at key;exact⟨_,_,_,_,_,A,key⟩
     .cases A
    .cases A
   .cases A
  .cases A
 .cases A
def apr {ty:ξ} {l c:Operand} (hc:cZ P o.op=Z (.zg z i j ty l c)) (A:eC X W (.op (.zg z i j ty l c)) e h nx K=Z r):iT P o aa e h nx K r:=by
 cases hcm:Gb (W z) with
 |none=>exact alc hinv hi hcm hc A
 |some n=>
  obtain⟨H,hH⟩:=gC h;simp only[eC,hcm]at A;split at A
  .rename_i zc k a k' b L hv N;obtain⟨hck,A⟩:=cL A;rw[ak]at hck;obtain⟨hcond,hn⟩:=hck;have hn:=bD hn;obtain⟨y,h1,h2⟩:=ba hi hv;obtain⟨y2,h3,h4⟩:=ba hi N;simp only[b9,af]at h2 h4;subst h2 h4;have han:aQ a=n:=by rw[hn];rfl
   obtain⟨_,_,hzc⟩:=wZ h L;refine ⟨_,_,_,_,_,A,eT.new hinv hc hH (y0:=.G (nm nx) i n) (rdl:=[]) (b0:=⟨z,.fz (repl ty n)⟩) (by simp only[dx,h1,h3,fS,hcond,bk,han]) (dE.zero h) (λty' l' he=>?_) (λH1 H2 d g b' D=>?_) (λH1 H2 y d g hy=>?_) (by simp)⟩
   .cases he;exact kQ _ _ _ (Pb _ L n)
   .simp only[jR,Pb _ L n,af]at D;subst D;refine fH.C rfl rfl (gL.refl d _) λx hx=>?_
    exact mW (tC (Pb h L n) (HO hzc n)) x hx
   .simp only[b9,af]at hy;subst hy;exact kl.refl d _
  .cases A
def atf {ty:ξ} {parts:Y m?} (hc:cZ P o.op=Z (.xw z i j ty parts)) (A:eC X W (.op (.xw z i j ty parts)) e h nx K=Z r):iT P o aa e h nx K r:=by
 cases hcm:Gb (W z) with
 |none=>exact apy hinv hi hcm hc A
 |some n=>
  obtain⟨H,hH⟩:=gC h;simp only[eC,hcm]at A;split at A
  .rename_i zc hz;split at A
   .rename_i cs hf;split at A
    .cases A
    .rename_i hl;have hl:j≠0:=λe=>hl (by rw[e];rfl)
     obtain⟨cs',h1,h2,h3⟩:=Fx hi parts _ cs _ hf (Pb h hz j);obtain⟨_,_,hzc⟩:=wZ h hz;have hcs:=h3 (HO hzc j);have N:b7 h ((dL 0 h).set nx (Z (.C (Z z) cs))):=(b7.kill 0 h).trans (b7.set λr N=>by rw[bC,(hinv.kill 0).fresh]at N;cases N);have L:=fY N _ _ h2;refine ⟨_,_,_,_,_,A,eT.new hinv hc hH (y0:=.G (nm nx) i j) (rdl:=[]) (b0:=⟨z,nV cs'⟩) (by simp only[dx,h1,av hl]) (dE.zero h) (λty' l' he=>?_) (λH1 H2 d g b' D=>?_) (λH1 H2 y d g hy=>?_) (by simp)⟩
     .cases he;exact kQ _ _ _ L
     .simp only[jR,L,af]at D;subst D;obtain⟨q1,q2⟩:=nE cs';refine fH.C q2 rfl ?_ λx hx=>?_
      .rw[q1];exact gL.refl d _
      .exact mW (tC h2 hcs) x hx
     .simp only[b9,af]at hy;subst hy;exact kl.refl d _
   .cases A
  .cases A
def ati {x:Operand} (hc:cZ P o.op=Z (.app z i j s x)) (ty:eC X W (.op (.app z i j s x)) e h nx K=Z r):iT P o aa e h nx K r:=by
 cases hcm:Gb (W z) with
 |none=>exact apz hinv hi hcm hc ty
 |some n0=>
  obtain⟨H,hH⟩:=gC h;have hfr:=hinv.fresh;simp only[eC,hcm]at ty;split at ty
  .rename_i b y hv hv2;obtain⟨yb,h1,h2⟩:=ba hi hv;obtain⟨yy,h3,h4⟩:=ba hi hv2;unfold amb at ty;split at ty
   .rename_i id2 sz2 m;simp only[b9,af]at h4;subst h4;split at ty
    .rename_i ty2 l2 D;split at ty
     .rename_i A;simp only[ak,cV]at A;obtain⟨⟨q1,q2⟩,q3⟩:=A;have q1:=au q1;have q2:=au q2;have q3:m≠0:=λe=>by rw[e]at q3;cases q3
      subst q1;obtain⟨N,hl2⟩:=eX h l2 (hinv.C id2 _ l2 D);have hrow:=ZR hH D hl2 q2;split at ty
      .rename_i id sz1 n;simp only[b9,af]at h2;subst h2;split at ty
       .rename_i ty1 l1 hb1;split at ty
        .rename_i A;simp only[ak,cV]at A;obtain⟨⟨⟨p1,p2⟩,p3⟩,p4⟩:=A;have p1:=au p1;have p2:=eq_of_beq p2;have p3:=au p3;have p4:id≠id2:=λe=>by rw[e,eW]at p4;cases p4
         subst p1 p2;obtain⟨hroom,ty⟩:=cL ty;obtain⟨l1',hl1⟩:=eX h l1 (hinv.C id _ l1 hb1);have hln:=gU hl1;have hg:H.get (nm id)=Z ⟨ty1,.mx l1'⟩:=by rw[hH,bL,hb1];simp only[aB,jR,hl1]
         have hidlt:id<nx:=hinv.low id _ hb1;generalize hB:eP.C (Z ty1) (l1++l2)=B at ty;have hd1:b7 h (h.set id (Z (.qj J 0 0))):=b7.set λr L=>by rw[bC,hb1]at L;cases L
         have hd2:b7 (h.set id (Z (.qj J 0 0))) ((h.set id (Z (.qj J 0 0))).set nx (Z B)):=b7.set λr L=>by
          rw[bC,PT.get_set,av (by omega),hfr]at L;cases L
         have L:=hd1.trans hd2;have hsp:cP ((h.set id (Z (.qj J 0 0))).set nx (Z B)) (l1++l2)=Z (l1'++N):=fY L _ _ (oP hl1 hl2);have hb':erHF ((h.set id (Z (.qj J 0 0))).set nx (Z B)) (nm nx)=Z ⟨ty1,.mx (l1'++N)⟩:=by rw[bL,PT.get_set,aC rfl,<-hB]at *;simp only[aB,jR,hsp]
         have hbd:erHF ((h.set id (Z (.qj J 0 0))).set nx (Z B)) (nm id)=U:=by rw[bL,PT.get_set,av (by omega),PT.get_set,aC rfl];rfl
         have hinv1:gW (h.set id (Z (.qj J 0 0))) nx:=hinv.set hd1 hidlt (bV _) (λ_ _ he=>by cases he);have ha:dx (.app ty1 sz1 j s x) (CU e h) H (nm nx)=Z ⟨.G (nm nx) sz1 (n+m),[nm id,nm id2],[nm nx,nm id],[(nm nx,⟨ty1,nV (l1'++N)⟩)],[nm nx]⟩:=by
          simp only[dx,h1,h3,hrow,hg];rw[aC (by
           simp only[cm,eh,Bool.and_true,BC.isCells,BC.len,hroom,ak,cV];refine ⟨?_,aW (by omega)⟩;simp only[mem,Bool.or_false];cases A:aA (nm id2) (nm id) with
           |false=>rfl
           |true=>exact co (ug (au A)).symm p4)]
          simp only[BC.toMx,gp (show (l! l1')<=n*sz1 by omega)]
         refine ⟨_,_,_,_,_,ty,eT.mk' hc hH ha [nm nx,nm id] (λsz hi=>hi) (λq A=>?_) (λsz hi b' hbb=>?_) (λH1 H2 d hw1 _ hw2=>⟨λsz hi b b' hb D=>?_,λy hy=>?_⟩) (λq A=>?_) (λq A=>?_) (λq A=>?_) L (hinv1.set hd2 (by omega) (by omega) λty' l' he=>?_) (by omega)⟩
         .simp only[aZ,cu,fJ,not_or]at A;refine l7 hinv L (iz.of λsz=>by
           by_cases e1:sz=nx
           .rw[e1,hfr,PT.get_set,aC rfl];exact .inr ⟨rfl,by rw[<- hB];rfl⟩
           .rw[PT.get_set,av e1];by_cases e2:sz=id
            .rw[e2,hb1,PT.get_set,aC rfl];exact .inr ⟨rfl,rfl⟩
            .rw[PT.get_set,av e2];exact .inl rfl) λsz ei=>?_
          subst ei;rw[PT.get_set,av (λe=>A.1 (by rw[e])),PT.get_set,av (λe=>A.2 (by rw[e]))]
         .simp only[aZ,cu,fJ]at hi;rcases hi with rfl|rfl
          .rw[aC (by simp)];exact⟨_,eR _ _⟩
          .rw[hbd]at hbb;cases hbb
         .simp only[aZ,cu,fJ]at hi;rcases hi with rfl|rfl
          .rw[hw1 _ (by simp),eR]at hb;rw[hw2 _ (by simp),hb']at D;simp only[af]at hb D;subst hb D;obtain⟨m1,m2⟩:=nE (l1'++N);exact fH.eq d m2 rfl m1
          .rw[hw2 _ (by simp),hbd]at D;cases D
         .simp only[b9,af]at hy;subst hy;exact kl.refl d _
         .simp only[aZ,cu,fJ]at A;rw[bn,jJ];rcases A with rfl|rfl
          .rw[dc];exact .inl (bu.2 rfl)
          .rw[dc];exact .inr (bu.2 rfl)
         .simp only[aZ,cu,fJ]at A;rw[bn,jJ];rcases A with rfl|rfl
          .rw[dc];exact .inr (bu.2 rfl)
          .rw[dc];exact .inl (bu.2 rfl)
         .simp only[aE]at A;subst A;rw[dc];omega
         .rw[<- hB]at he;cases he;exact kQ _ _ _ hsp
        .cases ty
       .cases ty
      .simp only[b9,af]at h2;subst h2;obtain⟨hroom,ty⟩:=cL ty;have L:b7 h ((dL 0 h).set nx (Z (.C (Z z) l2))):=(b7.kill 0 h).trans (b7.set λr L=>by rw[bC,(hinv.kill 0).fresh]at L;cases L);have h2':=fY L _ _ hl2;refine ⟨_,_,_,_,_,ty,eT.new hinv hc hH (y0:=.G (nm nx) sz2 m) (rdl:=[nm id2]) (b0:=⟨z,nV N⟩) (by simp only[dx,h1,h3,hrow];simp[D2,uR,hroom,q3]) (dE.zero h) (λty' l' he=>?_) (λH1 H2 d g b' hb'=>?_) (λH1 H2 y d g hy=>?_) (λn hn=>?_)⟩
       .cases he;exact kQ _ _ _ h2'
       .simp only[jR,h2',af]at hb';subst hb';obtain⟨p1,p2⟩:=nE N;exact fH.eq d p2 rfl p1
       .simp only[b9,af]at hy;subst hy;exact kl.refl d _
       .simp only[aE]at hn;subst hn;rw[dc];exact bu.2 rfl
      .cases ty
     .cases ty
    .cases ty
   .cases ty
  .cases ty
def asw {lo hi' mx:M Operand} (hc:cZ P o.op=Z (.slc i s lo hi' mx)) (z:eC X W (.op (.slc i s lo hi' mx)) e h nx K=Z r):iT P o aa e h nx K r:=by
 have hfr:=hinv.fresh;simp only[eC]at z;split at z
 .rename_i v hv;obtain⟨y,h1,h2⟩:=ba hi hv;split at z
  .split at z
   .rename_i L;obtain⟨n,L⟩:=jB.1 L;have h3:=TI L h2;exact iT.q (k:=0) hinv hc (λH _=>by simp only[dx,h1,h3,Option.isSome_some,bk]) (cU rfl) z
   .cases z
  .rename_i b;split at z
   .rename_i T xs k j hb;obtain⟨y2,h3,h4⟩:=ba hi hb;simp only[b9,af]at h2 h4;subst h2 h4;split at z
    .rename_i A;have A:=au A;subst A;obtain⟨N,z⟩:=cL z;have hfl:=dY (bw T) xs;have hcond:(dg 0 j&&dg j (ah xs)&&dK (ah xs*T.size) (l! (xs.flatMap (bN T))))=J:=by
      rw[N,eh];exact aW (by omega)
     simp only[dg,ak,bR]at N;have hlen:l! (xs.take j.toNat)=j.toNat:=by rw[bQ];omega
     exact iT.q (k:=0) (y0:=.f (.sl ((xs.flatMap (bN T)).take (j.toNat*T.size)) j.toNat)) hinv hc (λH _=>by simp only[dx,h1,h3,fS,hcond,bk]) (cU (by simp only[b9,fS];rw[yn (bw T),hlen])) z
    .cases z
   .rename_i id k j hb;obtain⟨y2,h3,h4⟩:=ba hi hb;simp only[b9,af]at h4;subst h4;split at z
    .rename_i ty p T xs D;split at z
     .rename_i A;have A:=au A;subst A;obtain⟨N,z⟩:=cL z;obtain⟨H,hH⟩:=gC h;have hj0:=N;simp only[dg,fQ,ak,bR]at N;have hp:¬((p&&l! xs==0)=J):=by
       simp only[ak,cG];omega
      simp only[b9,bC,D,aB,iG,dm,av hp,af]at h2;subst h2;have hidlt:=hinv.low id _ D;have hne:nx≠id:=by omega
      have hg:H.get (nm id)=Z ⟨ty,.fz (xs.flatMap (bN T))⟩:=by rw[hH,bL,D];simp only[aB,jR,av hp]
      have fl:=dY (bw T) xs;have hcond:(T.size==T.size&&dg 0 j&&dg j (ah xs))=J:=by
       simp only[dg,ak,bR,cm,true_and];omega
      have hlen:l! (xs.take j.toNat)=j.toNat:=by rw[bQ];omega
      have ha0:dx (.slc T.size s U (Z b) U) (CU e h) H (nm nx)=Z ⟨.G (nm nx) T.size j.toNat,[nm id],[nm nx,nm id],[(nm nx,⟨ty,.fz ((xs.take j.toNat).flatMap (bN T))⟩)],[nm nx]⟩:=by
       have hc2:((BC.fz (xs.flatMap (bN T))).isCells&&dK (ah xs*T.size) (BC.fz (xs.flatMap (bN T))).len)=J:=by
        simp only[BC.isCells,eh,BC.len];exact aW (by omega)
       simp only[dx,h1,h3,fS,hcond,bk,hg,hc2,BC.toMx,<-fV,vM,yn (bw T)]
      generalize hh':(h.set id (Z (.qj p T.size (ah xs)))).set nx (Z (.F ty aa T (dF j.toNat xs)))=h' at z;have hrA:b7 h (h.set id (Z (.qj p T.size (ah xs)))):=b7.set λr hr=>by rw[bC,D]at hr;exact hr
      have hg2:∀sz,h'.get sz=if sz=nx then Z (.F ty aa T (dF j.toNat xs)) else if sz=id then Z (.qj p T.size (ah xs)) else h.get sz:=λsz=>by rw[<- hh',PT.get_set,PT.get_set]
      have hr:b7 h h':=by
       rw[<- hh'];refine hrA.trans (b7.set λr hr=>?_);rw[bC,PT.get_set,av hne,hfr]at hr;cases hr
      have hinv':gW h' (nx+1):=by
       refine ⟨λsz ty l hil=>?_,λsz c hic=>?_⟩
       .rw[hg2]at hil;split at hil
        .cases hil
        .split at hil
         .cases hil
         .exact fd hr l (hinv.C sz _ l hil)
       .rw[hg2]at hic;split at hic
        .omega
        .split at hic
         .omega
         .have:=hinv.low sz c hic;omega
      have hme:iz h h':=(iz.of λsz=>by
       rw[hg2];by_cases e1:sz=nx
       .rw[aC e1,e1,hfr];exact .inr ⟨rfl,rfl⟩
       .rw[av e1];by_cases e2:sz=id
        .rw[aC e2,e2,D];exact .inr ⟨rfl,rfl⟩
        .rw[av e2];exact .inl rfl)
      have hsame:∀n,n≠nm nx->n≠nm id->erHF h' n=erHF h n:=λn h1 h2=>l7 hinv hr hme λsz e=>by
       subst e;rw[hg2,av (λe=>h1 (by rw[e])),av (λe=>h2 (by rw[e]))]
      have hdead:erHF h' (nm id)=U:=by rw[bL,hg2,av (by omega),aC rfl];rfl
      have hnew:erHF h' (nm nx)=Z ⟨ty,.fz ((xs.take j.toNat).flatMap (bN T))⟩:=by rw[bL,hg2,aC rfl];rfl
      have hval:b9 h' (.G nx)=Z (.G (nm nx) T.size j.toNat):=by simp only[b9,bC,hg2,bk,aB,iG,dm,eV,bY,c7,hlen]
      refine ⟨_,_,_,_,_,z,?_⟩;refine eT.mk' hc hH ha0 [nm nx,nm id] (λsz hi=>hi) (λn L=>?_) (λsz hi b' hb'=>?_) (λH1 H2 d hw1 _ hw2=>⟨λsz hi b b' hb1 hb2=>?_,λy hy=>?_⟩) (λn L=>?_) (λn L=>?_) (λn L=>by simp only[aE]at L;subst L;rw[dc];omega) hr hinv' (by omega)
      .simp only[aZ,cu,fJ,not_or]at L;exact hsame n L.1 L.2
      .simp only[aZ,cu,fJ]at hi;rcases hi with rfl|rfl
       .exact⟨_,by rw[aC (by simp)];exact eR _ _⟩
       .rw[hdead]at hb';cases hb'
      .simp only[aZ,cu,fJ]at hi;rcases hi with rfl|rfl
       .rw[hw1 _ (by simp),eR]at hb1;rw[hw2 _ (by simp),hnew]at hb2;simp only[af]at hb1 hb2;subst hb1 hb2;exact fH.refl d _
       .rw[hw2 _ (by simp),hdead]at hb2;cases hb2
      .rw[hval]at hy;cases hy;exact kl.refl d _
      .simp only[aE]at L;subst L;rw[dc];exact bu.2 rfl
      .simp only[aZ,cu,fJ]at L;rcases L with rfl|rfl<;>rw[dc,bn,bu.2 rfl]<;>simp
     .cases z
    .cases z
   .cases z
  .rename_i b;split at z
   .rename_i T xs k j hb;obtain⟨y2,h3,h4⟩:=ba hi hb;simp only[b9,af]at h2 h4;subst h2 h4;split at z
    .rename_i A;have A:=au A;subst A;obtain⟨N,z⟩:=cL z;have hfl:=dY (bw T) xs;have hcond:(dg 0 j&&dg j (ah xs)&&dK (ah xs*T.size) (l! (xs.flatMap (bN T))))=J:=by
      rw[N,eh];exact aW (by omega)
     simp only[dg,ak,bR]at N;have hlen:l! (xs.drop j.toNat)=ah xs-j.toNat:=by rw[n_]
     have htk:((xs.flatMap (bN T)).drop (j.toNat*T.size)).take ((ah xs-j.toNat)*T.size)=(xs.flatMap (bN T)).drop (j.toNat*T.size):=by
      refine gp ?_;rw[n_,hfl,Nat.sub_mul];exact bV _
     exact iT.q (k:=0) (y0:=.f (.sl ((xs.flatMap (bN T)).drop (j.toNat*T.size)) (ah xs-j.toNat))) hinv hc (λH _=>by simp only[dx,h1,h3,fS,hcond,bk,htk]) (cU (by simp only[b9,fS];rw[L6 (bw T),hlen])) z
    .cases z
   .rename_i id k j hb;obtain⟨y2,h3,h4⟩:=ba hi hb;simp only[b9,af]at h4;subst h4;split at z
    .rename_i ty p T xs D;split at z
     .rename_i A;have A:=au A;subst A;obtain⟨N,z⟩:=cL z;have hcond:(T.size==T.size&&dg 0 j&&fQ j (ah xs))=J:=by
       simp only[ak]at N;rw[N.1,N.2,cm];rfl
      simp only[dg,fQ,ak,bR]at N;have hp:¬((p&&l! xs==0)=J):=by
       simp only[ak,cG];omega
      simp only[b9,bC,D,aB,iG,dm,av hp,af]at h2;subst h2;exact iT.q (k:=0) (y0:=.sl (nm id) (j.toNat*T.size) (ah xs-j.toNat)) hinv hc (λH _=>by simp only[dx,h1,h3,fS,hcond,bk]) (cU (by simp only[b9,bC,D,aB,iG])) z
     .cases z
    .cases z
   .cases z
  .rename_i b b' hne;split at z
   .rename_i T xs k j k' j' hb hb';obtain⟨y2,h3,h4⟩:=ba hi hb;obtain⟨y3,h5,h6⟩:=ba hi hb';simp only[b9,af]at h2 h4 h6;subst h2 h4 h6;split at z
    .rename_i A;have A:=au A;subst A;obtain⟨N,z⟩:=cL z;have hfl:=dY (bw T) xs;have hcond:(decide (j=j')&&dg 0 j&&dg j (ah xs)&&dK (ah xs*T.size) (l! (xs.flatMap (bN T))))=J:=by
      rw[N,eh];exact aW (by omega)
     simp only[dg,ak,bR]at N;have hlen:l! (xs.take j.toNat)=j.toNat:=by rw[bQ];omega
     refine iT.q (k:=0) (y0:=.qd ((xs.flatMap (bN T)).take (j.toNat*T.size)) j.toNat) hinv hc (λH _=>?_) (cU (by simp only[b9];rw[yn (bw T),hlen])) z;simp only[dx,h1,h3,h5,fS,hcond,bk]
    .cases z
   .cases z
  .cases z
 .cases z
def ate (hc:cZ P o.op=Z (.clr i N s)) (A:eC X W (.op (.clr i N s)) e h nx K=Z r):iT P o aa e h nx K r:=by
 obtain⟨H,hH⟩:=gC h;simp only[eC]at A;split at A
 .rename_i id j hv;split at A
  .rename_i ty p T xs z;split at A
   .rename_i D;simp only[ak]at D;obtain⟨⟨D,hz⟩,hco⟩:=D;have D:=au D;have hz:=Nd hz;subst D hz;obtain⟨hj,A⟩:=cL A;simp only[dg,fQ,ak,bR]at hj;obtain⟨j0,j1⟩:=hj;obtain⟨y,h1,h2⟩:=ba hi hv;simp only[b9,bC,z,aB,iG,af]at h2;subst h2;have hp:¬((p&&xs.length==0)=J):=by
     simp only[ak,cG];omega
    have fl:=dY (bw T) xs;have hg:H.get (nm id)=Z ⟨ty,.fz (xs.flatMap (bN T))⟩:=by rw[hH,bL,z];simp only[aB,jR,av hp]
    have hrl:(repl (ux T) (xs.length-j.toNat)).length=(xs.length-j.toNat)*T.size:=by
     have h9:=(J7 (H:=λ_=>U) (H':=λ_=>U) (λn b z=>by cases z) T (xs.length-j.toNat)).length;rw[bH,bH,dY (bw T),c4]at h9;exact h9.symm
    have hoff:j.toNat*T.size+(xs.length-j.toNat)*T.size=xs.length*T.size:=by rw[<- Qp];congr 1;omega
    have hput:(BC.fz (xs.flatMap (bN T))).put (j.toNat*T.size) ((repl (ux T) (xs.length-j.toNat)).map .f)=Z (.fz (splice (xs.flatMap (bN T)) (j.toNat*T.size) (repl (ux T) (xs.length-j.toNat)))):=by
     unfold BC.put;rw[aC]
     .simp only[Nl]
     .simp only[ak];refine ⟨⟨rfl,aW ?_⟩,I9 _ λq hq=>?_⟩
      .simp only[BC.len,bH];omega
      .obtain⟨v,hv,rfl⟩:=Th _ q hq;exact gH.1 hco v hv
    have hblt:ef 0 (xs.length-j.toNat)=J:=aW (by omega);have ha0:dx (.clr T.size (ux T) s) (CU e h) H (nm nx)=Z ⟨.qg [],[nm id],[nm id],[(nm id,⟨ty,.fz (splice (xs.flatMap (bN T)) (j.toNat*T.size) (repl (ux T) (xs.length-j.toNat)))⟩)],[]⟩:=by
     simp only[dx,h1,hg,hblt,bk,hput]
    have hlen:(dF j.toNat xs++aF (ah xs-j.toNat) T.zero).length=xs.length:=by
     rw[bc,bQ,c4];omega
    have hrow:iG (.F ty p T (dF j.toNat xs++aF (ah xs-j.toNat) T.zero))=iG (.F ty p T xs):=by simp only[iG,hlen]
    refine ⟨_,_,_,_,_,A,eT.wrt (m:=0) (v:=.qg []) (rd:=gf id) hinv hc hH ha0 z (dE.zero h) (by simp) hrow (λ_ _ he=>by cases he) (λH1 H2 d g b' L=>?_) (λH1 H2 y d g hy=>?_) (λn hn=>?_)⟩
    .have hp2:¬((p&&(dF j.toNat xs++aF (ah xs-j.toNat) T.zero).length==0)=J):=by rw[hlen];exact hp
     simp only[jR,av hp2,af]at L;subst L;refine fH.C rfl rfl ?_ λq hq=>?_
     .simp only[BC.toMx];unfold splice;rw[hrl,hoff,<-fl,List.drop_length,mZ,xG,yn (bw T),cJ,cJ];exact (gL.refl d _).append (J7 d T _)
     .simp only[BC.toMx]at hq;obtain⟨q',hq',rfl⟩:=ch.1 hq;exact ml T _ q' hq'
    .simp only[b9,cP,af]at hy;subst hy;exact kl.refl d _
    .simp only[aE]at hn;subst hn;rw[dc];exact bu.2 rfl
   .cases A
  .cases A
 .cases A
end ops
def Ld {V:Ty} {es:Y (T.den×V.den)} (z:mpE T V es=J):es.map (λp=>(qW T p.1,AV.f (fS V p.2)))=[]:=by
 unfold mpE at z;split at z
 .rfl
 .cases z
def Xf {V:Ty} {es:Y (T.den×V.den)} (z:mpE T V es=J):Xe T=J:=by
 unfold mpE at z;split at z
 .rfl
 .cases z
def Zo (z:aan b T=J):Xe T=J:=by
 cases T<;>cases b<;>first|rfl|cases z
def Q4 (A:aan b T=J) (k z:T.den):uX .eql (qW T k) (qW T z)=Z (.bool (Sr T k z))/\yf b (qW T k)=J/\fS T k= .raw (qW T k):=by
 cases T<;>cases b<;>first|cases A|skip
 .exact⟨by simp only[uX,qW,Sr,cm,bk,af,Ep];exact Bool.beq_eq_decide_eq _ _,rfl,rfl⟩
 .exact⟨by simp only[uX,qW,Sr,Gj],rfl,rfl⟩
def Lf {str:Bool} {K V:Ty} (A:aan str K=J) (k:K.den):∀es:Y (K.den×V.den),s_ (qW K k) (es.map λp=>(qW K p.1,AV.f (fS V p.2)))=Z ((If k es).map λv=>AV.f (fS V v))
 |[]=>rfl
 |(z,v)::r=>by
  simp only[bZ,s_,(Q4 A k z).1,If];cases D:Sr K k z with
  |true=>rfl
  |false=>simp only[bY,c7];exact Lf A k r
def QY {str:Bool} {K V:Ty} (A:aan str K=J) (k:K.den) (v:V.den):∀es:Y (K.den×V.den),zE (qW K k) (.f (fS V v)) (es.map λp=>(qW K p.1,AV.f (fS V p.2)))=Z ((zB k v es).map λp=>(qW K p.1,AV.f (fS V p.2)))
 |[]=>rfl
 |(z,D)::r=>by
  simp only[bZ,zE,(Q4 A k z).1,zB];cases L:Sr K k z with
  |true=>rfl
  |false=>simp only[QY A k v r,bY,c7,bZ]
def aem {ok:Bool} (z:b9 h u=Z y):b9 h (pkT ok u (.f .bool b))=Z (pkV ok y b):=by
 cases ok with
 |false=>exact z
 |true=>simp only[pkT,pkV,b9,cP,z];rfl
section ops
variable {R:Type} {P:Program} {o:Oper} {e:hX} {h:a_} {nx:Nat} {K:KO R} {r:R}
def Le.aggOf {l:Y FV} (N:∀x∈l,x.isCell=J):Le (.agg (l.map .f)) (.f (.agg l)):=by
 intro φ O w v D;cases D with
 |@agg _ vs L hcl hrr=>
  refine .f (.agg l vs (by simpa using L) N λj y u z A=>?_);have:=hrr j (.f y) u (by rw[aT,z];rfl) A;cases this with
  |f h=>exact h
def Tq (S:Ty) (l:Y TV):M (S.den×Nat×Y TV):=match l with
 |c::r=>(match ie PT.leaf S c with|some (x,m)=>Z (x,m,r)|none=>U)
 |[]=>U
def Po:∀{l l':Y FV},l.map AV.f=l'.map AV.f->l=l'
 |[],[],_=>rfl
 |[],_::_,h|_::_,[],h=>by simp at h
 |x::r,y::r',h=>by
  simp only[bZ,fk,AV.f.injEq]at h;rw[h.1,Po h.2]
def KX (h:a_):∀(ds:Y TypeDesc) (T:Ty),sC ds=Z T->∀(n:Nat) (l:Y TV) (x:T.den) (m:Nat) (r:Y TV),fc PT.leaf n T l=Z (x,m,r)->∀l',cP h l=Z l'->∃L,cP h r=Z L/\l'=(bN T x).map .f++L
 |[],T,hd,n,l,x,m,r,hp,l',hl=>by
  simp only[sC,af]at hd;subst hd;cases n with
  |zero=>simp[fc]at hp
  |succ n=>
   simp only[fc,af,aG]at hp;obtain⟨_,_,rfl⟩:=hp;exact⟨l',hl,rfl⟩
 |d::ds,T,hd,n,l,x,m,r,hp,l',hl=>by
  have plain:∀(S:Ty),S.one=J->(∀t,S≠ .sl t)->∀(v:TV) (a:S.den) (m:Nat) (y:AV),ie PT.leaf S v=Z (a,m)->b9 h v=Z y->y= .f (fS S a):=by
   intro S hS hns v a m y D hy;cases v with
   |f Q q=>
    simp only[ie]at D;split at D
    .rename_i z hz;simp only[af,aG]at D;obtain⟨rfl,_⟩:=D;obtain⟨e,rfl⟩:=gV hz;subst e;simp only[b9,af]at hy;exact hy.symm
    .cases D
   |emp|nil=>
    cases S with
    |sl t=>exact co rfl (hns t)
    |_=>simp[ie]at D
   |G id=>simp[ie,PT.get]at D
   |_=>simp[ie]at D
  have one:∀(S:Ty),S.one=J->(∀t,S≠ .sl t)->∀(n:Nat) (l:Y TV) (a:S.den) (m:Nat) (r:Y TV),fc PT.leaf n S l=Z (a,m,r)->∀l',cP h l=Z l'->∃L,cP h r=Z L/\l'=(bN S a).map .f++L:=by
   intro S hS hns n l a m r hp l' hl;cases n with
   |zero=>simp[fc]at hp
   |succ n=>
    cases l with
    |nil=>
     cases S with
     |int k|bool|str=>cases hp
     |sl t=>exact co rfl (hns t)
     |_=>cases hS
    |cons c q=>
     have hpp:Tq S (c::q)=Z (a,m,r):=by
      cases S with
      |int k=>simp only[fc]at hp;simp only[Tq];cases N:ie PT.leaf (.int k) c with
       |none=>rw[N]at hp;cases hp
       |some z=>rw[N]at hp;exact hp
      |bool=>simp only[fc]at hp;simp only[Tq];cases N:ie PT.leaf .bool c with
       |none=>rw[N]at hp;cases hp
       |some z=>rw[N]at hp;exact hp
      |str=>simp only[fc]at hp;simp only[Tq];cases N:ie PT.leaf .str c with
       |none=>rw[N]at hp;cases hp
       |some z=>rw[N]at hp;exact hp
      |sl t=>exact co rfl (hns t)
      |_=>cases hS
     simp only[Tq]at hpp;split at hpp
     .rename_i a1 m1 h1;simp only[af,aG]at hpp;obtain⟨rfl,rfl,rfl⟩:=hpp;obtain⟨y,L,rfl,g1,g2⟩:=c9 hl;have:=plain S hS hns c a1 m1 y h1 g1;subst this;exact⟨L,g2,by rw[(FB S a1 hS).1];rfl⟩
     .cases hpp
  have two:∀(S A:Ty),S.one=J->(∀t,S≠ .sl t)->sC ds=Z A->T= .pr S A->∃L,cP h r=Z L/\l'=(bN T x).map .f++L:=by
   intro S A hS hns hU e;subst e;cases n with
   |zero=>simp[fc]at hp
   |succ n=>
    simp only[fc]at hp;split at hp
    .rename_i x1 m1 r1 h1;split at hp
     .rename_i x2 m2 r2 h2;simp only[af,aG]at hp;obtain⟨rfl,rfl,rfl⟩:=hp;obtain⟨L,g1,g2⟩:=one S hS hns n l x1 m1 r1 h1 l' hl;obtain⟨l3,g3,g4⟩:=KX h ds A hU n r1 x2 m2 r2 h2 L g1;exact⟨l3,g3,by rw[g2,g4,bN,cJ,iV]⟩
     .cases hp
    .cases hp
  cases d with
  |int k=>
   simp only[sC]at hd;split at hd
   .rename_i A hU;simp only[af]at hd;exact two (.int k) A rfl (λt h=>by cases h) hU hd.symm
   .cases hd
  |bool=>
   simp only[sC]at hd;split at hd
   .rename_i A hU;simp only[af]at hd;exact two .bool A rfl (λt h=>by cases h) hU hd.symm
   .cases hd
  |string=>
   simp only[sC]at hd;split at hd
   .rename_i A hU;simp only[af]at hd;exact two .str A rfl (λt h=>by cases h) hU hd.symm
   .cases hd
  |_=>simp[sC]at hd
def Fz:∀(ds:Y TypeDesc) (T:Ty),sC ds=Z T->∀a b:T.den,jM ds (bN T a) (bN T b)=Z (Sr T a b)
 |[],T,hd,a,b=>by simp only[sC,af]at hd;subst hd;rfl
 |d::ds,T,hd,a,b=>by
  cases d with
  |int k=>
   simp only[sC]at hd;split at hd
   .rename_i y D;cases hd;have A:=Fz ds y D a.2 b.2;simp only[bN,gG,kV,jM,vY,cm,bk,Sr];cases he:((a.1:Int)==b.1) with
    |true=>have z:(a.1:Int)=b.1:=by simpa using he
           simp only[A,z,decide_true,eh]
    |false=>have z:¬(a.1:Int)=b.1:=by simpa using he
            simp only[z,decide_false,eV]
   .cases hd
  |bool=>
   simp only[sC]at hd;split at hd
   .rename_i y D;cases hd;have A:=Fz ds y D a.2 b.2;simp only[bN,gG,kV,jM,vY,Sr];cases he:((a.1:Bool)==b.1)<;>simp[he,A]
   .cases hd
  |string=>
   simp only[sC]at hd;split at hd
   .rename_i y D;cases hd;have A:=Fz ds y D a.2 b.2;simp only[bN,gG,kV,jM,vY,Sr,Gj];cases he:decide ((a.1:ζ)=b.1) with
    |true=>simp only[A,eh]
    |false=>simp only[eV]
   .cases hd
  |_=>simp[sC]at hd
variable {E:Y TypeDesc}
def Qd (A:u.isC=aa) {lu:Y TV} (L:u.cs=Z lu) (hd:sC E=Z T) {a:T.den} (hp:fc PT.leaf 40 T lu=Z (a,i,[])) (D:b9 h u=Z y):Le y (.f (.agg (bN T a))):=by
 obtain⟨h1,_⟩:=I6 L D;obtain⟨l2,h2,N⟩:=KX h E T hd 40 lu a i [] hp _ h1;simp only[cP,af]at h2;subst h2;rw[mZ]at N;cases u with
 |agg l=>
  simp only[b9]at D;split at D
  .rename_i l' _;cases D;have:l'=(bN T a).map .f:=N;rw[this];exact Le.aggOf (pj T a)
  .cases D
 |f S x=>
  simp only[b9,af]at D;subst D;have ho:S.one=aa:=A;rw[Cq]at N;have:bN S x=bN T a:=Po N;rw[rW S x ho,this];exact Le.refl _
 |qg l|undef|qw|qd S q=>simp[TV.cs,TV.isC]at L
 |zm id jj=>cases L
 |_=>cases A
variable (hinv:gW h nx) (hi:su e h)
include hinv hi
variable {X:FuncId->M cF} {W:TypeId->M Ty}
def atc {y:Operand} {st:Bool} (hc:cZ P o.op=Z (.jm b E s y)) (D:eC X W (.op (.jm b E s y)) e h nx K=Z r):iT P o st e h nx K r:=by
 obtain⟨H,hH⟩:=gC h;simp only[eC]at D;split at D
 .rename_i T u v hd hu hv;split at D
  .cases D
  .rename_i hcc;simp only[jJ,not_or,Bool.not_eq_true]at hcc;split at D
   .rename_i lu lv hlu hlv;split at D
    .rename_i a m1 neg m2 hpa hpb;obtain⟨yu,h1,h2⟩:=ba hi hu;obtain⟨yv,h3,h4⟩:=ba hi hv;obtain⟨⟨⟨hc1,hc2⟩,hc3⟩,hc4⟩:=hcc;have l1:=Qd hc1 hlu hd hpa h2;have l2:=Qd hc2 hlv hd hpb h4;have tmp:∀(z:Operand) (q:TV),dA e z=Z q->q.isC=aa->Xs z=aa->∃t,z= .tmp t:=by
      intro z q A hq hg;cases z with
      |tmp t=>exact⟨t,rfl⟩
      |const c=>
       have A:cst c=Z q:=by
        simp only[dA,anv]at A;split at A
        .cases hg
        .exact A
       have:=(MV h A).2.2;rw[hq]at this;cases this
      |func g=>simp only[dA,af]at A;subst A;cases hq
      |global g=>
       simp only[dA]at A;split at A
       .cases A;cases hq
       .cases A
     obtain⟨t,rfl⟩:=tmp s u hu hc1 hc3;obtain⟨N,rfl⟩:=tmp y v hv hc2 hc4;have same:t=N->bN T a=bN T neg:=by
      intro ht;subst ht;rw[hu]at hv;cases hv;rw[hlu]at hlv;cases hlv;rw[hpa]at hpb;cases hpb;rfl
     let L:Dx:=((CU e h).set t (Z (.f (.agg (bN T a))))).set N (Z (.f (.agg (bN T neg))))
     have e1:lZ L (.tmp t)=Z (.f (.agg (bN T a))):=by
      simp only[lZ,L,PT.get_set];by_cases ht:t=N
      .rw[aC ht,same ht]
      .rw[av ht];simp
     have e2:lZ L (.tmp N)=Z (.f (.agg (bN T neg))):=by simp only[lZ,L,PT.get_set,bk]
     have ha:dx (.jm b E (.tmp t) (.tmp N)) L H 0=Z ⟨raw (.bool (Sr T a neg !=b)),[],[],[],[]⟩:=by
      simp only[dx,e1,e2,Fz E T hd a neg];rfl
     have ht:=K4 hc ha;rw[hH]at ht;have ht2:gh P o (fG e h) (erHF h) _:=ht.envLe (e2:=fG e h) λx z _ A=>by
      simp only[L,PT.get_set]at A;rw[<- Co];simp only[lZ]at h1 h3;split at A
      .rename_i es;subst es;cases A;exact⟨yv,h3,l2⟩
      .split at A
       .rename_i es;subst es;cases A;exact⟨yu,h1,l1⟩
       .exact⟨z,A,Le.refl _⟩
     refine ⟨_,0,0,h,nx,D,⟨⟨_,ht2,λy hy=>?_,by simp[Cv.eff,vp],by simp[Cv.eff],by simp[Cv.eff],by simp[Cv.eff]⟩,λ_ _ h=>h,hinv,bV _,λ_=>⟨rfl,rfl⟩⟩⟩;simp only[b9,af]at hy;exact hy
    .cases D
   .cases D
 .cases D
def at1 (L:cZ P o.op=Z .mkm) (D:eC X W (.op .mkm) e h nx K=Z r):iT P o aa e h nx K r:=by
 have _:=hi;obtain⟨H,N⟩:=gC h;refine ⟨_,_,_,_,_,D,eT.new hinv L N (y0:=.mp (nm nx)) (rdl:=[]) (b0:=⟨0,.mp []⟩) rfl (dE.zero h) (λ_ _ he=>by cases he) (λH1 H2 d g b' z=>?_) (λH1 H2 y d g A=>?_) (by simp)⟩
 .cases z;exact fH.refl d _
 .simp only[b9,af]at A;subst A;exact kl.refl d _
def apu (hc:cZ P o.op=Z (.jw s)) (z:eC X W (.op (.jw s)) e h nx K=Z r):iT P o aa e h nx K r:=by
 obtain⟨H,L⟩:=gC h;simp only[eC]at z;split at z
 .rename_i id hv;split at z
  .rename_i K' V es hb;obtain⟨y,h1,N⟩:=ba hi hv;simp only[b9,af]at N;subst N;split at z
   case isFalse=>cases z
   rename_i hO;have hg:H.get (nm id)=Z ⟨0,.mp (es.map λp=>(qW K' p.1,.f (fS V p.2)))⟩:=by rw[L,bL,hb];show Z (kc.mk 0 (mpC K' V es))=_;rw[zC hO]
   exact⟨_,_,_,_,_,z,eT.pure (k:=0) hinv hc L (y0:=raw (.int .i64 (l! es))) (rdl:=[nm id]) (by simp only[dx,h1,hg,bH]) (λy A=>by simp only[b9,af]at A;subst A;exact Le.refl _) (λn D=>by simp only[aE]at D;subst D;rw[dc];exact bu.2 rfl) nofun⟩
  .cases z
 .cases z
def at5 {ok:Bool} {k:Operand} (hc:cZ P o.op=Z (.jk b ok v s k)) (D:eC X W (.op (.jk b ok v s k)) e h nx K=Z r):iT P o aa e h nx K r:=by
 obtain⟨H,hH⟩:=gC h;simp only[eC]at D;split at D
 .rename_i id KT N hv hv2;split at D
  .rename_i K' V es hb;split at D
   .rename_i L;obtain⟨y,h1,h2⟩:=ba hi hv;obtain⟨y2,h3,h4⟩:=ba hi hv2;simp only[b9,af]at h2 h4;subst h2 h4;simp only[ak]at L;have hg:H.get (nm id)=Z ⟨0,.mp (es.map λp=>(qW K' p.1,.f (fS V p.2)))⟩:=by rw[hH,bL,hb];show Z (kc.mk 0 (mpC K' V es))=_;rw[zC L.2]
    obtain⟨_,hok,henc⟩:=Q4 L.1 N N;rw[henc]at h3;have hrd:∀n∈[nm id],aK (gf id) (ow n)=J:=λn hn=>by simp only[aE]at hn;subst hn;rw[dc];exact bu.2 rfl
    split at D
    .rename_i hE;split at D
     .rename_i z hz;have hzz:=(MV h hz).1;exact⟨_,_,_,_,_,D,eT.pure (k:=0) hinv hc hH (y0:=pkV ok (raw v) aa) (rdl:=[nm id]) (by simp only[dx,h1,h3,hg,hok,bk,Ld hE,s_]) (λy hy=>by rw[aem hzz]at hy;cases hy;exact Le.refl _) hrd nofun⟩
     .cases D
    .split at D
     .rename_i kv' A zv hkv hz;split at D
      .rename_i zv' hzv;obtain⟨e1,e2⟩:=gV hkv;cases e1;subst e2;obtain⟨e3,e4⟩:=gV hzv;cases e3;subst e4;have hzz:=(MV h hz).1;simp only[b9,af]at hzz;refine ⟨_,_,_,_,_,D,eT.pure (k:=0) hinv hc hH (y0:=pkV ok (.f (fS _ (Ai kv' es zv'))) (aam kv' es)) (rdl:=[nm id]) ?_ (λy hy=>by rw[aem (y:=.f (fS _ (Ai kv' es zv'))) rfl]at hy;cases hy;exact Le.refl _) hrd nofun⟩;simp only[dx,h1,h3,hg,hok,bk,Lf L.1];unfold Ai aam;cases hf:If kv' es with
       |none=>simp only[Option.map_none];rw[hzz]
       |some z=>rfl
      .cases D
     .cases D
   .cases D
  .rename_i l hb;split at D
   .rename_i n hkv;split at D
    case isFalse=>cases D
    rename_i L;simp only[ak]at L;split at D
    .rename_i z hlv;obtain⟨e1,e2⟩:=gV hkv;cases e1
     replace e2:n=N:=e2
     subst n;obtain⟨y,h1,h2⟩:=ba hi hv;obtain⟨y2,h3,h4⟩:=ba hi hv2;simp only[b9,af]at h2 h4;subst h2 h4;obtain⟨l',hl⟩:=eX h l (hinv.C id _ l hb);obtain⟨y,hy,hey⟩:=lF hl _ _ hlv;have hg:H.get (nm id)=Z ⟨1,.mp (pS 0 l')⟩:=by rw[hH,bL,hb];simp only[aB,jR,hl]
     have ht:told N (pS 0 l')=Z y:=by
      have h0:(0:Int)<=N:=bD L.2.1;have hn:(N:Int)=aP (0+aQ N):=by rw[bF];exact (Int.toNat_of_nonneg h0).symm
      rw[hn,Pr];exact hy
     have henc:fS (.int .i64) N= .raw (.int .i64 N):=rfl;rw[henc]at h3;exact⟨_,_,_,_,_,D,eT.pure (k:=0) hinv hc hH (y0:=y) (rdl:=[nm id]) (by simp only[dx,h1,h3,hg,L.1.1,L.1.2.1,L.1.2.2,fC,bk,ht]) (λq hq=>by rw[hey]at hq;cases hq;exact Le.refl _) (λn hn=>by simp only[aE]at hn;subst hn;rw[dc];exact bu.2 rfl) nofun⟩
    .cases D
   .cases D
  .cases D
 .cases D
def at0 {k v:Operand} (hc:cZ P o.op=Z (.jy b s k v)) (D:eC X W (.op (.jy b s k v)) e h nx K=Z r):iT P o aa e h nx K r:=by
 obtain⟨H,hH⟩:=gC h;simp only[eC]at D;split at D
 .rename_i id KT z VT vv hv hv2 hv3;split at D
  .rename_i K' V es hb;split at D
   .rename_i L;simp only[ak]at L;obtain⟨y,h1,h2⟩:=ba hi hv;obtain⟨y2,h3,h4⟩:=ba hi hv2;obtain⟨y3,h5,h6⟩:=ba hi hv3;simp only[b9,af]at h2 h4 h6;subst h2 h4 h6;have hg:H.get (nm id)=Z ⟨0,.mp (es.map λp=>(qW K' p.1,.f (fS V p.2)))⟩:=by rw[hH,bL,hb];show Z (kc.mk 0 (mpC K' V es))=_;rw[zC L.2]
    obtain⟨_,hok,henc⟩:=Q4 L.1.1 z z;rw[henc]at h3;have hrd:∀n∈[nm id],aK (gf id) (ow n)=J:=λn hn=>by simp only[aE]at hn;subst hn;rw[dc];exact bu.2 rfl
    split at D
    .rename_i hE;exact⟨_,_,_,_,_,D,eT.wrt (k:=0) (m:=0) (v:=.undef) (rd:=gf id) hinv hc hH (y0:=raw undef) (b0:=⟨0,.mp [(qW KT z,.f (fS VT vv))]⟩) (rdl:=[nm id]) (by simp only[dx,h1,h3,h5,hg,hok,bk,Ld hE,zE]) (B:=.mp KT VT [(z,vv)]) hb (dE.zero h) (by simp) rfl (λty' l2 he=>by cases he) (λH1 H2 d g b' A=>by simp only[jR,zC (Zo L.1.1),af]at A;subst A;exact fH.refl d _) (λH1 H2 y d g N=>by simp only[b9,af]at N;subst N;exact kl.refl d _) hrd⟩
    .split at D
     .rename_i kv' vv' hkv hvv;obtain⟨e1,e2⟩:=gV hkv;cases e1;subst e2;obtain⟨e3,e4⟩:=gV hvv;cases e3;subst e4;exact⟨_,_,_,_,_,D,eT.wrt (k:=0) (m:=0) (v:=.undef) (rd:=gf id) hinv hc hH (y0:=raw undef) (b0:=⟨0,.mp ((zB kv' vv' es).map λp=>(qW _ p.1,.f (fS _ p.2)))⟩) (rdl:=[nm id]) (by simp only[dx,h1,h3,h5,hg,hok,bk,QY L.1.1]) (B:=.mp _ _ (zB kv' vv' es)) hb (dE.zero h) (by simp) rfl (λty' l2 he=>by cases he) (λH1 H2 d g b' A=>by simp only[jR,zC (Zo L.1.1),af]at A;subst A;exact fH.refl d _) (λH1 H2 y d g N=>by simp only[b9,af]at N;subst N;exact kl.refl d _) hrd⟩
     .cases D
   .cases D
  .cases D
 .rename_i id KT z i hv hv2 hv3;split at D
  .rename_i l hb;split at D
   .rename_i n hkv;split at D
    case isFalse=>cases D
    rename_i L;simp only[ak]at L;obtain⟨e1,e2⟩:=gV hkv;cases e1
    replace e2:n=z:=e2
    subst n;obtain⟨y,h1,h2⟩:=ba hi hv;obtain⟨y2,h3,h4⟩:=ba hi hv2;obtain⟨y3,h5,h6⟩:=ba hi hv3;simp only[b9,af]at h2 h4;subst h2 h4;obtain⟨l',hl⟩:=eX h l (hinv.C id _ l hb);have hg:H.get (nm id)=Z ⟨1,.mp (pS 0 l')⟩:=by rw[hH,bL,hb];simp only[aB,jR,hl]
    have h0:(0:Int)<=z:=bD L.2.1;have h9:(z:Int)<(l! l:Int):=bD L.2.2;have hlen:=gU hl;have hn:(z:Int)=aP (0+aQ z):=by rw[bF];exact (Int.toNat_of_nonneg h0).symm
    have ht:mI z y3 (pS 0 l')=pS 0 (splice l' (aQ z) [y3]):=by
     rw[KI (by rw[hlen];exact (Int.toNat_lt h0).2 h9)]
     conv=>lhs;rw[hn]
     exact TJ y3 l' 0 _
    have hs:cP h (splice l (aQ z) [.G i])=Z (splice l' (aQ z) [y3]):=oO _ hl (by simp only[cP,h6]);have hr:b7 h (h.set id (Z (.C U (splice l (aQ z) [.G i])))):=b7.set λr hr=>by rw[bC,hb]at hr;cases hr
    have henc:fS (.int .i64) z= .raw (.int .i64 z):=rfl;rw[henc]at h3;have hstr:b=aa:=by cases b with
     |false=>rfl
     |true=>cases L.1
    subst hstr;exact⟨_,_,_,_,_,D,eT.wrt (k:=0) (m:=0) (v:=.undef) (rd:=gf id) hinv hc hH (y0:=raw undef) (b0:=⟨1,.mp (pS 0 (splice l' (aQ z) [y3]))⟩) (rdl:=[nm id]) (by simp only[dx,h1,h3,h5,hg,ht,bY,c7]) (B:=.C U (splice l (aQ z) [.G i])) hb (dE.zero h) (by simp) rfl (λty' l2 he=>by cases he;exact kQ _ _ _ (fY hr _ _ hs)) (λH1 H2 d g b' A=>by
     have A:jR (h.set id (Z (.C U (splice l (aQ z) [.G i])))) (.C U (splice l (aQ z) [.G i]))=Z b':=A;simp only[jR,fY hr _ _ hs,af]at A;subst A;exact fH.refl d _) (λH1 H2 y d g N=>by simp only[b9,af]at N;subst N;exact kl.refl d _) (λn hn=>by simp only[aE]at hn;subst hn;rw[dc];exact bu.2 rfl)⟩
   .cases D
  .cases D
 .cases D
def asx (hc:cZ P o.op=Z (.rng s)) (z:eC X W (.op (.rng s)) e h nx K=Z r):iT P o aa e h nx K r:=by
 obtain⟨H,hH⟩:=gC h;simp only[eC]at z;split at z
 .rename_i x N;obtain⟨y,h1,L⟩:=ba hi N;simp only[b9,af]at L;subst L;refine ⟨_,_,_,_,_,z,eT.new hinv hc hH (y0:=.H (nm nx) 0) (rdl:=[]) (b0:=⟨0,.it ⟨jI x⟩ 0⟩) (by simp only[dx,h1];rfl) (dE.zero h) (λ_ _ he=>by cases he) (λH1 H2 d g b' A=>?_) (λH1 H2 y d g D=>?_) (by simp)⟩
  .cases A;exact fH.refl d _
  .simp only[b9,af]at D;subst D;exact kl.refl d _
 .cases z
def asy (hc:cZ P o.op=Z (.nxt s)) (z:eC X W (.op (.nxt s)) e h nx K=Z r):iT P o aa e h nx K r:=by
 obtain⟨H,N⟩:=gC h;simp only[eC]at z;split at z
 .rename_i id hv;split at z
  .rename_i K' V es L;split at z
   .rename_i x p hI;obtain⟨y,h1,h2⟩:=ba hi hv;simp only[b9,af]at h2;subst h2;have hg:H.get (nm id)=Z ⟨0,.it ⟨jI x⟩ p⟩:=by rw[N,bL,L];show Z (kc.mk 0 (mpC K' V es))=_;rw[anl hI]
    have hrd:∀n∈[nm id],aK (gf id) (ow n)=J:=λn hn=>by simp only[aE]at hn;subst hn;rw[dc];exact bu.2 rfl
    rcases lN z with ⟨hp,z⟩|⟨hp,z⟩
    .have hp:=aU hp;have e2:(⟨jI x⟩:ByteArray).data.toList[p]? =Z (List.getD x p 0):=by
      show x[p]? =_;rw[ax,aD hp];rfl
     exact⟨_,_,_,_,_,z,eT.wrt (k:=0) (m:=0) (rd:=gf id) hinv hc N (y0:=.qg [raw (.bool J),raw (.int .i64 p),raw (.int .i32 (rnP x p))]) (b0:=⟨0,.it ⟨jI x⟩ (p+wdP x p)⟩) (rdl:=[nm id]) (by simp only[dx,h1,hg,e2];rfl) (B:=.mp nX .un [((x,aP (p+wdP x p)),())]) L (dE.zero h) (by simp) rfl (λty' l2 he=>by cases he) (λH1 H2 d g b' A=>by cases A;exact fH.refl d _) (λH1 H2 y d g D=>by cases D;exact kl.refl d _) hrd⟩
    .have hp:l! x<=p:=Nat.not_lt.1 λq=>by rw[show ef p (l! x)=J from aW q]at hp;cases hp
     have e2:(⟨jI x⟩:ByteArray).data.toList[p]? =U:=by
      show x[p]? =_;exact bJ hp
     exact⟨_,_,_,_,_,z,eT.wrt (k:=0) (m:=0) (rd:=gf id) hinv hc N (y0:=.qg [raw (.bool aa)]) (b0:=⟨0,.it ⟨jI x⟩ p⟩) (rdl:=[nm id]) (by simp only[dx,h1,hg,e2]) (B:=.mp nX .un [((x,aP p),())]) L (dE.zero h) (by simp) rfl (λty' l2 he=>by cases he) (λH1 H2 d g b' A=>by cases A;exact fH.refl d _) (λH1 H2 y d g D=>by cases D;exact kl.refl d _) hrd⟩
   .cases z
  .cases z
 .cases z
def K_op {s:OT} (D:cZ P o.op=Z s) (A:eC X W (.op s) e h nx K=Z r):iT P o s.still e h nx K r:=by
 cases s with
 |mv x=>exact K_mv hinv hi D A
 |pick c a b=>exact apo hinv hi D A
 |alloc ty z=>exact alf hinv hi D A
 |box ty x=>exact atg hinv hi D A
 |build z parts=>exact ale hinv hi D A
 |xw ty sz len z parts=>exact atf hinv hi D A
 |load sz L x=>exact aps hinv hi D A
 |store sz x v=>exact alb hinv hi D A
 |zh x=>exact apq hinv hi D A
 |bin op x y=>exact ath hinv hi D A
 |jm neg ds x y=>exact atc hinv hi D A
 |xj neg x y=>exact atd hinv hi D A
 |zf neg x=>exact ald hinv hi D A
 |not x=>exact asz hinv hi D A
 |conv k x=>exact apx hinv hi D A
 |zg ty sz bytes z l c=>exact apr hinv hi D A
 |slc sz x lo N mx=>exact asw hinv hi D A
 |jf off x=>exact ata hinv hi D A
 |fld off sz L x=>exact at9 hinv hi D A
 |jg sz x i=>exact at8 hinv hi D A
 |idx n sz L x i=>exact at7 hinv hi D A
 |jx n sz x i=>exact apv hinv hi D A
 |ext x i=>exact atb hinv hi D A
 |len x=>exact at6 hinv hi D A
 |lens x=>exact apt hinv hi D A
 |max x y=>exact at4 hinv hi D A
 |min x y=>exact at3 hinv hi D A
 |jq x i=>exact apn hinv hi D A
 |app ty sz bytes s x=>exact ati hinv hi D A
 |copy sz d x=>exact apw hinv hi D A
 |clr sz z x=>exact ate hinv hi D A
 |mkf f caps=>exact at2 hinv hi D A
 |mkm=>exact at1 hinv hi D A
 |rng x=>exact asx hinv hi D A
 |nxt x=>exact asy hinv hi D A
 |jw x=>exact apu hinv hi D A
 |jk str ok z x k=>exact at5 hinv hi D A
 |jy str x k v=>exact at0 hinv hi D A
 |_=>simp[eC]at A
end ops
mutual
def AV.qx (g:Nat->Nat):AV->AV
 |.f x=>.f x
 |.H id off=>.H (g id) off
 |.sl id off n=>.sl (g id) off n
 |.G id sz n=>.G (g id) sz n
 |.mp id=>.mp (g id)
 |.emp=>.emp
 |.qw=>.qw
 |.qd l n=>.qd l n
 |.agg l=>.agg (AV.renL g l)
 |.qg l=>.qg (AV.renL g l)
 |.qy q l=>.qy q (AV.renL g l)
def AV.renL (g:Nat->Nat):Y AV->Y AV
 |[]=>[]
 |x::r=>x.qx g::AV.renL g r
end
def od (g:Nat->Nat):∀l,AV.renL g l=l.map (AV.qx g)
 |[]=>rfl
 |x::r=>by rw[AV.renL,od g r];rfl
def EV (g:Nat->Nat) (x:AV):(x.qx g).isCell=x.isCell:=by cases x<;>rfl
variable {g:Nat->Nat}
def cq.renTo {φ':PM} {w:World} (hk:∀i k,V i=Z k->φ' (g i)=Z k) (h:cq V O w y v):cq φ' O w (y.qx g) v:=by
 induction h with
 |f h=>exact .f h
 |H h=>exact .H (hk _ _ h)
 |sl h hn hc=>exact .sl (hk _ _ h) hn hc
 |G h hn hc hsh=>exact .G (hk _ _ h) hn hc hsh
 |emp=>exact .emp
 |qw=>exact .qw
 |qd h=>exact .qd h
 |mp h=>exact .mp (hk _ _ h)
 |agg N hcl hr D=>
  simp only[AV.qx,od];refine .agg (by simpa using N) (λy z=>?_) λj y v z L=>?_
  .obtain⟨x,A,rfl⟩:=ch.1 z;rw[EV];exact hcl x A
  .rw[aT]at z;obtain⟨x,A,rfl⟩:=dv.1 z;exact D j x v A L
 |qg N hr D=>
  simp only[AV.qx,od];refine .qg (by simpa using N) λj y v z L=>?_
  rw[aT]at z;obtain⟨x,A,rfl⟩:=dv.1 z;exact D j x v A L
 |qy N hr D=>
  simp only[AV.qx,od];refine .qy (by simpa using N) λj y v z L=>?_
  rw[aT]at z;obtain⟨x,A,rfl⟩:=dv.1 z;exact D j x v A L
def cq.renFrom {φ':PM} {w:World} (hk:∀i k,p i=J->V (g i)=Z k->φ' i=Z k) (h:cq V O w y v):∀x:AV,x.all p=J->y=x.qx g->cq φ' O w x v:=by
 induction h with
 |f h=>intro x hp e;cases x<;>simp only[AV.qx,reduceCtorEq]at e;cases e;exact .f h
 |H h=>intro x hp e;cases x<;>simp only[AV.qx,reduceCtorEq]at e;cases e;exact .H (hk _ _ hp h)
 |sl h hn hc=>intro x hp e;cases x<;>simp only[AV.qx,reduceCtorEq]at e;cases e;exact .sl (hk _ _ hp h) hn hc
 |G h hn hc hsh=>intro x hp e;cases x<;>simp only[AV.qx,reduceCtorEq]at e;cases e;exact .G (hk _ _ hp h) hn hc hsh
 |emp=>intro x hp e;cases x<;>simp only[AV.qx,reduceCtorEq]at e;exact .emp
 |qw=>intro x hp e;cases x<;>simp only[AV.qx,reduceCtorEq]at e;exact .qw
 |qd h=>intro x hp e;cases x<;>simp only[AV.qx,reduceCtorEq]at e;cases e;exact .qd h
 |mp h=>intro x hp e;cases x<;>simp only[AV.qx,reduceCtorEq]at e;cases e;exact .mp (hk _ _ hp h)
 |agg L hcl hr D=>
  intro x hp e;cases x<;>simp only[AV.qx,reduceCtorEq]at e;rename_i l;cases e;rw[od]at L hcl hr D;refine .agg (by simpa using L) (λx A=>?_) λj x v A N=>?_
  .have:=hcl (x.qx g) (ch.2 ⟨x,A,rfl⟩);rwa [EV]at this
  .exact D j (x.qx g) v (by rw[aT,A];rfl) N x (nj hp x (aX A)) rfl
 |qg L hr D=>
  intro x hp e;cases x<;>simp only[AV.qx,reduceCtorEq]at e;rename_i l;cases e;rw[od]at L hr D;refine .qg (by simpa using L) λj x v A N=>?_
  exact D j (x.qx g) v (by rw[aT,A];rfl) N x (nj hp x (aX A)) rfl
 |qy L hr D=>
  intro x hp e;cases x<;>simp only[AV.qx,reduceCtorEq]at e;rename_i l;cases e;rw[od]at L hr D;refine .qy (by simpa using L) λj x v A N=>?_
  exact D j (x.qx g) v (by rw[aT,A];rfl) N x (nj hp x (aX A)) rfl
def BC.qx (g:Nat->Nat):BC->BC
 |.fz l=>.fz l
 |.mx l=>.mx (l.map (AV.qx g))
 |.mp es=>.mp (es.map λp=>(p.1,p.2.qx g))
 |.it s p=>.it s p
def kc.qx (g:Nat->Nat) (b:kc):kc:=⟨b.ty,b.c.qx g⟩
def gy.renTo {φ':PM} {O':Nat->Prop} {w:World} (N:∀x v,cq V O w x v->cq φ' O' w (x.qx g) v) {o:Obj} (h:gy V O w S o):gy φ' O' w (S.qx g) o:=by
 obtain⟨ty,c⟩:=S;unfold gy at h ⊢;simp only[kc.qx];cases c with
 |fz l=>
  simp only[BC.qx];obtain⟨arr,h1,D,A⟩:=h;refine ⟨arr,h1,D,λj x z=>?_⟩;obtain⟨a,v,c,d⟩:=A j x z;simp only[BC.get]at z;obtain⟨q,_,rfl⟩:=dv.1 z;exact⟨a,v,c,N _ _ d⟩
 |mx l=>
  simp only[BC.qx];obtain⟨arr,h1,D,A⟩:=h;refine ⟨arr,h1,by simpa[BC.len] using D,λj x z=>?_⟩;simp only[BC.get,aT]at z;obtain⟨q,L,rfl⟩:=dv.1 z;obtain⟨a,v,c,d⟩:=A j q L;exact⟨by rw[EV];exact a,v,c,N _ _ d⟩
 |mp es=>
  simp only[BC.qx];obtain⟨e,c,h1,D,A⟩:=h;refine ⟨e,c,h1,by rw[aa1];exact D,λj x z=>?_⟩;rw[aT]at z;obtain⟨q,L,rfl⟩:=dv.1 z;obtain⟨m,a,S⟩:=A j q L;exact⟨m,a,N _ _ S⟩
 |it s p=>exact h
def gy.renFrom {φ':PM} {O':Nat->Prop} {w:World} (L:∀x v,x.all p=J->cq V O w (x.qx g) v->cq φ' O' w x v) (N:S.c.all p=J) {o:Obj} (h:gy V O w (S.qx g) o):gy φ' O' w S o:=by
 obtain⟨ty,c⟩:=S;unfold gy at h ⊢;simp only[kc.qx]at h;cases c with
 |fz l=>
  simp only[BC.qx]at h;obtain⟨arr,h1,A,D⟩:=h;refine ⟨arr,h1,A,λj x z=>?_⟩;obtain⟨a,v,c,d⟩:=D j x z;simp only[BC.get]at z;obtain⟨q,_,rfl⟩:=dv.1 z;exact⟨a,v,c,L _ _ rfl d⟩
 |mx l=>
  simp only[BC.qx]at h;obtain⟨arr,h1,A,D⟩:=h;refine ⟨arr,h1,by simpa[BC.len] using A,λj x z=>?_⟩;simp only[BC.get]at z;obtain⟨a,v,c,d⟩:=D j (x.qx g) (by simp only[BC.get,aT,z];rfl);rw[EV]at a;exact⟨a,v,c,L _ _ (nj N x (aX z)) d⟩
 |mp es=>
  simp only[BC.qx]at h;obtain⟨e,c,h1,A,D⟩:=h;refine ⟨e,c,h1,by rw[aa1]at A;exact A,λj x z=>?_⟩;obtain⟨m,a,S⟩:=D j (x.1,x.2.qx g) (by rw[aT,z];rfl);exact⟨m,a,L _ _ (nj N x.2 (ch.2 ⟨x,aX z,rfl⟩)) S⟩
 |it s p=>exact h
mutual
def AX (g:Nat->Nat):TV->TV
 |.G i=>.G (g i)
 |.zm i j=>.zm (g i) j
 |.agg l=>.agg (ll g l)
 |.qg l=>.qg (ll g l)
 |.qy q l=>.qy q (ll g l)
 |.f T v=>.f T v
 |.zk T xs j h off=>.zk T xs j h off
 |.ql a b c d=>.ql (g a) b c d
 |.H a b=>.H (g a) b
 |.qv a b c=>.qv (g a) b c
 |.emp=>.emp
 |.nil=>.nil
 |.mp i=>.mp (g i)
 |.undef=>.undef
 |.np=>.np
 |.qw=>.qw
 |.qd T xs=>.qd T xs
 |.sb s=>.sb (s.to (g s.id))
def ll (g:Nat->Nat):Y TV->Y TV
 |[]=>[]
 |x::r=>AX g x::ll g r
end
def vg (g:Nat->Nat):∀l,ll g l=l.map (AX g)
 |[]=>rfl
 |x::r=>by rw[ll,vg g r];rfl
def kT (g:Nat->Nat):eP->eP
 |.C ty l=>.C ty (ll g l)
 |.F ty p T xs=>.F ty p T xs
 |.qj p sz n=>.qj p sz n
 |.mp K V es=>.mp K V es
 |.I F a x=>.I F (F.aid (g a)) x
 |.qm F a x k p=>.qm F (F.aid (g a)) x k (p.map λq=>(g q.1,q.2))
def KM (g:Nat->Nat) (b:eP):iG (kT g b)=iG b:=by cases b<;>rfl
def pI (g:Nat->Nat) (n:Nat):Nat:=jE (g (ow n)) (ix n)
def Cm (g:Nat->Nat) (i k:Nat):pI g (jE i k)=jE (g i) k:=by unfold pI;rw[iJ,vN]
def Bt (g:Nat->Nat) (i:Nat):pI g (nm i)=nm (g i):=Cm g i 0
def Ko (g:Nat->Nat) (i:Nat) (j:Int):pI g (pL i j)=pL (g i) j:=Cm g i _
def xh (g:Nat->Nat) (n:Nat):ow (pI g n)=g (ow n):=iJ _ _
def zG (g:Nat->Nat) (n:Nat):ix (pI g n)=ix n:=vN _ _
def Te (g:Nat->Nat) (id j sz n:Nat):(ue id j sz n).qx (pI g)=ue (g id) j sz n:=by
 unfold ue;split
 .rfl
 .simp only[AV.qx,Cm]
def ajs (g:Nat->Nat) (s:Sb):JB (s.to (g s.id))=(JB s).qx (pI g):=by
 cases s with
 |nr id j sz n=>simp only[Sb.to,Sb.id,JB,Te]
 |_=>simp only[Sb.to,Sb.id,JB,AV.qx,Ko,Cm]
mutual
def ant {g:Nat->Nat} {h1 h2:a_} (hrow:∀i r,eE h1 i=Z r->eE h2 (g i)=Z r):∀(v:TV) (y:AV),b9 h1 v=Z y->b9 h2 (AX g v)=Z (y.qx (pI g))
 |.f _ _,y,he|.zk _ _ _ _ _,y,he=>by simp only[b9,af]at he;subst he;rfl
 |.ql _ _ _ _,y,he|.H _ _,y,he|.qv _ _ _,y,he=>by simp only[b9,af]at he;subst he;simp only[AX,b9,AV.qx,Bt]
 |.G id,y,he=>by
  simp only[b9]at he;split at he
  .rename_i p sz n hr;cases he;simp only[AX,b9,hrow id _ hr];unfold dm;split
   .rfl
   .simp only[AV.qx,Bt]
  .cases he
 |.zm id jj,y,he=>by
  simp only[b9]at he;split at he
  .rename_i p sz n hr;cases he;simp only[AX,b9,hrow id _ hr,AV.qx,Bt]
  .cases he
 |.emp,y,he|.nil,y,he=>by simp only[b9,af]at he;subst he;rfl
 |.mp _,y,he=>by simp only[b9,af]at he;subst he;simp only[AX,b9,AV.qx,Bt]
 |.agg l,y,he|.qg l,y,he|.qy q l,y,he=>by
  simp only[b9]at he;split at he
  .rename_i l' hl;cases he;simp only[AX,b9,qi hrow l l' hl,AV.qx]
  .cases he
 |.undef,y,he|.np,y,he|.qw,y,he|.qd _ _,y,he=>by simp only[b9,af]at he;subst he;rfl
 |.sb s,y,he=>by simp only[b9,af]at he;subst he;simp only[AX,b9,ajs]
def qi {g:Nat->Nat} {h1 h2:a_} (hrow:∀i r,eE h1 i=Z r->eE h2 (g i)=Z r):∀(l:Y TV) (l':Y AV),cP h1 l=Z l'->cP h2 (ll g l)=Z (AV.renL (pI g) l')
 |[],l',he=>by simp only[cP,af]at he;subst he;rfl
 |x::r,l',he=>by
  obtain⟨y,l2,rfl,e1,e2⟩:=c9 he;exact qo (ant hrow x y e1) (qi hrow r l2 e2)
end
def UT (g:Nat->Nat) (a:Nat) (es:Y e!):(wA a es).map (λp=>(p.1,p.2.qx (pI g)))=wA (g a) es:=by
 unfold wA;rw[kN];refine gI λe _=>?_
 simp only[Function.comp,AV.qx,Ko]
def UR (g:Nat->Nat) (a:Nat) (k:ν) (v:AV):∀es:Y e!,(Mg a k v es).map (λp=>(p.1,p.2.qx (pI g)))=Mg (g a) k (v.qx (pI g)) es
 |[]=>rfl
 |e::r=>by
  simp only[Mg];split
  .rw[bZ,UT]
  .rw[bZ,UR g a k v r];simp only[AV.qx,Ko]
def GJ (g:Nat->Nat) (a sz:Nat):∀(z:η) (k:Nat),(lQ a sz k z).map (AV.qx (pI g))=lQ (g a) sz k z
 |[],_=>rfl
 |l::r,k=>by simp only[lQ,bZ,Te,GJ g a sz r (k+1)]
def aaf (g:Nat->Nat) (p:Bool) (id sz n:Nat):(dm p id sz n).qx (pI g)=dm p (g id) sz n:=by
 unfold dm;split
 .rfl
 .simp only[AV.qx,Bt]
def aek (g:Nat->Nat) (a:Nat) (z:η):(z.map λj=>AV.H (pL a j) 0).map (AV.qx (pI g))=z.map λj=>.H (pL (g a) j) 0:=by
 rw[kN];refine gI λj _=>?_
 simp only[Function.comp,AV.qx,Ko]
def UJ (g:Nat->Nat) (a:Nat) (F:tZ) (x:F.ty.den):sq (F.aid (g a)) F x=(sq a F x).map (kc.qx (pI g)):=by
 cases F with
 |qc ty=>
  simp only[sq,tZ.aid];split
  .rfl
  .exact (dT (λz=>Z (kc.mk ty (.mx z))) (aek g a x)).symm
 |qh=>exact (dT (λz=>Z (kc.mk 0 (.mp z))) (UT g a x)).symm
 |rr ty sz=>exact (dT (λz=>Z (kc.mk ty (.mx z))) (GJ g a sz x 0)).symm
 |_=>rfl
def ab9 (g:Nat->Nat) (a:Nat) (k:ν) (F:tZ) (x:F.ty.den) (p:M (Nat×Bool×Nat)):ZD (F.aid (g a)) k F x (p.map λq=>(g q.1,q.2))=(ZD a k F x p).map (kc.qx (pI g)):=by
 cases F with
 |qh=>
  cases p with
  |none=>rfl
  |some q=>
   have:=UR g a k (.H (nm q.1) 0) x;simp only[AV.qx,Bt]at this;exact (dT (λz=>Z (kc.mk 0 (.mp z))) this).symm
 |rr ty sz=>
  cases p with
  |none=>rfl
  |some q=>
   have:=GJ g a sz x 0;simp only[ZD,tZ.aid,bm,kc.qx,BC.qx,List.map_set,aaf];exact (dT (λz=>Z (kc.mk ty (.mx (z.set k.1.toNat (dm q.2.1 (g q.1) sz q.2.2))))) this).symm
 |_=>rfl
def abb (g:Nat->Nat) (k:Nat) (ty:TypeId) (T:Ty) (xss:Y (Y T.den)):pq k ty T xss=(pq k ty T xss).map (kc.qx (pI g)):=by
 unfold pq;cases xss[k]? with
 |none=>rfl
 |some xs=>
  simp only[aB,XR];split<;>rfl
def abc (g:Nat->Nat) (i k:Nat) (ty:TypeId) (S:Ty) (xs:Y (BZ S)):oN (g i) k ty S xs=(oN i k ty S xs).map (kc.qx (pI g)):=by
 unfold oN;rw[Option.map_map];congr 1;funext o;simp only[Function.comp,vX];split
 .simp only[kc.qx,BC.qx,cJ,kN,bZ,wJ,AV.qx,Cm];rfl
 .simp only[kc.qx,BC.qx,G1,kN];rfl
def L9 (g:Nat->Nat) (i k:Nat) (F:tZ) (x:F.ty.den):By (g i) k F x=(By i k F x).map (kc.qx (pI g)):=by
 cases F with
 |ar ty S=>
  exact abc g i k ty S x
 |ir ty T=>
  exact abb g k ty T x
 |_=>rfl
def TE (g:Nat->Nat) (i k:Nat) (b:eP):ww (g i) k (kT g b)=(ww i k b).map (kc.qx (pI g)):=by
 cases b with
 |I F a x=>exact L9 g i k F x
 |qm F a x j p=>
  cases p with
  |none=>
   simp only[kT,ww,Option.map_none];split
   .rfl
   .exact L9 g i k F x
  |some q=>exact L9 g i k F x
 |_=>rfl
def ajv {A:a_} (hrow:∀i r,eE h i=Z r->eE A (g i)=Z r) {b:eP} (he:jR h b=Z S):jR A (kT g b)=Z (S.qx (pI g)):=by
 cases b with
 |F ty p T xs=>
  simp only[jR]at he;split at he
  .cases he
  .rename_i D;cases he;simp only[kT,jR,av D];rfl
 |C ty l=>
  cases ty with
  |some ty=>
   simp only[jR]at he;split at he
   .rename_i l' z;cases he;simp only[kT,jR,qi hrow l l' z,od];rfl
   .cases he
  |none=>
   simp only[jR]at he;split at he
   .rename_i l' z;cases he;simp only[kT,jR,qi hrow l l' z,od,kc.qx,BC.qx,<-TK]
   .cases he
 |qj p sz n=>cases he
 |mp K V es=>
  simp only[jR,af]at he;subst he;simp only[kT,jR,kc.qx,af,kc.mk.injEq,true_and];unfold mpC;split
  .rfl
  .simp only[BC.qx,kN];rfl
 |I F a x=>
  simp only[jR]at he;simp only[kT,jR,UJ,he,bm]
 |qm F a x k p=>
  simp only[jR]at he;simp only[kT,jR,ab9,he,bm]
def Cn {z:a_} (hrow:∀i r,eE h i=Z r->eE z (g i)=Z r) {b:eP} :∀{k:Nat},NH h i k b=Z S->NH z (g i) k (kT g b)=Z (S.qx (pI g))
 |0,he=>ajv hrow he
 |k+1,he=>by
  simp only[NH]at he ⊢;rw[TE,he];rfl
def EW (g:Nat->Nat) (a b:Y TV):ll g (a++b)=ll g a++ll g b:=by
 rw[vg,vg,vg,cJ]
def qX (g:Nat->Nat):∀(n:Nat) (T:Ty) (v:T.den) (l:Y TV),cellsOf n T v=Z l->ll g l=l
 |0,_,_,_,he=>by simp[cellsOf]at he
 |n+1,.st t,v,l,he=>qX g n t v l he
 |n+1,.pr a b,v,l,he=>by
  simp only[cellsOf]at he;split at he
  .rename_i x y A z;cases he;rw[EW,qX g n a v.1 x A,qX g n b v.2 y z]
  .cases he
 |n+1,.un,v,l,he=>by simp only[cellsOf,af]at he;subst he;rfl
 |n+1,.ex,v,l,he=>qX g n PF (Qt v) l he
 |n+1,.sm,v,l,he=>qX g n O9 (Qs v) l he
 |n+1,.int k,v,l,he|n+1,.bool,v,l,he|n+1,.str,v,l,he|n+1,.sl t,v,l,he=>by simp only[cellsOf,af]at he;subst he;rfl
abbrev Ki:Nat->Nat:=λi=>i
mutual
def aei (g:Nat->Nat):∀(p:PV) (x:p.ty.den),oX g p x=(oX Ki p x).map (ll g)
 |.d T,x=>by
  simp only[oX];cases h:cellsOf 40 T x with
  |none=>rfl
  |some l=>simp only[bm,qX g 40 T x l h]
 |.H i o,x|.qv i o z,x=>rfl
 |.qy q ps,x=>by simp only[oX,bm,ll,AX,vg,kN];rfl
 |.ob i o,x|.G i,x|.mp i,x|.nil,x|.emp,x=>rfl
 |.agg ps,x=>Ce g ps x
def Ce (g:Nat->Nat):∀(ps:Y PV) (x:(PV.tyL ps).den),sx g ps x=(sx Ki ps x).map (ll g)
 |[],x=>rfl
 |p::r,x=>by
  simp only[sx];rw[aei g p,Ce g r];cases oX Ki p (Ru p.ty (PV.tyL r) x) with
  |none=>rfl
  |some a=>
   cases sx Ki r (NQ p.ty (PV.tyL r) x) with
   |none=>rfl
   |some b=>simp only[bm,EW]
end
def ao5 (o:M (Y TV)):M TV:=match o with|some l=>Z (.agg l)|none=>U
def agx (g:Nat->Nat) (o:M (Y TV)):ao5 (o.map (ll g))=(ao5 o).map (AX g):=by cases o<;>rfl
def aeh (g:Nat->Nat) (p:PV) (x:p.ty.den):sG g p x=(sG Ki p x).map (AX g):=by
 cases p with
 |agg z=>exact (dT ao5 (Ce g z x)).trans (agx g _)
 |qy q z=>simp only[sG,bm,AX,vg,kN];rfl
 |_=>rfl
def vh (g:Nat->Nat):∀(z:Y PV) (x:(PV.tyL z).den),rm g z x=(rm Ki z x).map (ll g)
 |[],x=>rfl
 |p::r,x=>by
  simp only[rm];rw[aeh g p,vh g r];cases sG Ki p (Ru p.ty (PV.tyL r) x) with
  |none=>rfl
  |some a=>
   cases rm Ki r (NQ p.ty (PV.tyL r) x) with
   |_=>rfl
def Yv (ty:M TypeId) (o:M (Y TV)):M (M eP):=match o with|some l=>Z (Z (.C ty l))|none=>U
def Yu (g:Nat->Nat) (ty:M TypeId) (o:M (Y TV)):Yv ty (o.map (ll g))=(Yv ty o).map (ii (kT g)):=by cases o<;>rfl
def aej (g:Nat->Nat) (b:PB) (x:b.ty.den):Cz g b x=(Cz Ki b x).map (ii (kT g)):=by
 cases b with
 |C ty z=>exact (dT (Yv ty) (Ce g z x)).trans (Yu g ty _)
 |I F a=>cases F<;>rfl
 |_=>rfl
def xT (g:Nat->Nat):∀(bs:Y PB) (x:(PB.tyL bs).den),pK g bs x=(pK Ki bs x).map (fP (ii (kT g)))
 |[],x=>rfl
 |b::r,x=>by
  simp only[pK];rw[aej g b,xT g r];cases Cz Ki b (Ru b.ty (PB.tyL r) x) with
  |none=>rfl
  |some a=>
   cases pK Ki r (NQ b.ty (PB.tyL r) x) with
   |_=>rfl
def EY (g:Nat->Nat):∀(bs:Y PB) (x:(PB.tyL bs).den) (l:Y (M eP)),pK g bs x=Z l->l! l=l! bs
 |[],x,l,h=>by simp only[pK,af]at h;subst h;rfl
 |b::r,x,l,h=>by
  simp only[pK]at h;split at h
  .split at h
   .rename_i q z;cases h;simp[EY g r _ q z]
   .cases h
  .cases h
def LY (h:a_) (i j:Nat):(kill h i).get j=if j=i then (h.get i).map uA else h.get j:=by
 unfold kill;cases z:h.get i with
 |none=>
  simp only[Option.map_none];split
  .rename_i e;rw[e,z]
  .rfl
 |some b=>rw[PT.get_set];rfl
def wN (g:Nat->Nat):∀(l:Y (M eP)) (i:Nat) (h:a_) (j:Nat),(∀k,k<l! l->j≠g (i+k))->(CH g i l h).get j=h.get j
 |[],i,h,j,_=>rfl
 |some c::r,i,h,j,z=>by
  rw[CH,wN g r (i+1) _ j (λk A=>by have:=z (k+1) (by simpa using A);rwa [show i+1+k=i+(k+1) from by omega]),PT.get_set,av];exact z 0 (by simp)
 |none::r,i,h,j,z=>by
  rw[CH,wN g r (i+1) _ j (λk A=>by have:=z (k+1) (by simpa using A);rwa [show i+1+k=i+(k+1) from by omega]),LY,av];exact z 0 (by simp)
def wO (g:Nat->Nat):∀(l:Y (M eP)) (i:Nat) (h:a_),(∀a b,a<l! l->b<l! l->g (i+a)=g (i+b)->a=b)->∀(k:Nat) (c:M eP),l[k]? =Z c->(CH g i l h).get (g (i+k))=(match c with|some b=>Z b|none=>(h.get (g (i+k))).map uA)
 |[],i,h,_,k,c,A=>by simp at A
 |o::r,i,h,hinj,k,c,A=>by
  have hinj':∀a b,a<l! r->b<l! r->g (i+1+a)=g (i+1+b)->a=b:=λa b L D e=>by
   have:=hinj (a+1) (b+1) (by simpa using L) (by simpa using D) (by rw[show i+(a+1)=i+1+a from by omega,show i+(b+1)=i+1+b from by omega];exact e);omega
  cases k with
  |zero=>
   simp at A;subst A;have hne:∀k,k<l! r->g (i+0)≠g (i+1+k):=λk A e=>by
    have:=hinj 0 (k+1) (by simp) (by simpa using A) (by rw[show i+(k+1)=i+1+k from by omega];exact e);omega
   cases o with
   |some b=>rw[CH,wN g r (i+1) _ _ hne];simp only[cX];rw[PT.get_set,aC rfl]
   |none=>rw[CH,wN g r (i+1) _ _ hne];simp only[cX];rw[LY,aC rfl]
  |succ k=>
   have z:r[k]? =Z c:=by simpa using A
   have hkl:k<l! r:=(bi.1 z).1;have hne:g (i+(k+1))≠g i:=λe=>by
    have:=hinj (k+1) 0 (by simpa using hkl) (by simp) (by rw[e];rfl);omega
   rw[show i+(k+1)=i+1+k from by omega]at hne ⊢;cases o with
   |some b=>
    rw[CH,wO g r (i+1) _ hinj' k c z];cases c with
    |some _=>rfl
    |none=>simp only[PT.get_set,av hne]
   |none=>
    rw[CH,wO g r (i+1) _ hinj' k c z];cases c with
    |some _=>rfl
    |none=>simp only[LY,av hne]
def Ac (h' h:a_):Prop:=∀i r,eE h' i=Z r->eE h i=Z r
section get
variable {h h':a_} {H H':HF} {g:Nat->Nat}
def kl.agg {l l':Y AV} (z:gL H H' l l') (hc:∀x∈l',x.isCell=J):kl H H' (.agg l) (.agg l'):=by
 intro φ E w v hrep N;cases N with
 |@agg _ vs hlen hcl hrr=>
  refine .agg (by rw[hlen,<-z.length]) hc λj y u A L=>?_
  obtain⟨x,D,hle⟩:=z.get j y A;exact hle φ E w u hrep (hrr j x u D L)
def Td (L:Ac h' h) {D:AV} (A:b9 h (.G i)=Z y) (z:b9 h' (.G i)=Z D):D=y:=by
 simp only[b9]at A z;cases h1:eE h' i with
 |none=>rw[h1]at z;cases z
 |some r=>
  rw[h1]at z;rw[L i r h1]at A;rw[A]at z;cases z;rfl
def KU {g:Nat->Nat}:∀{z:Y o?} {vs:Y TV},KV g z vs=J->vs=z.map λp=>.H (g p.1) p.2
 |[],[],_=>rfl
 |[],_::_,h|_::_,[],h=>by simp[KV]at h
 |(i,o)::r,v::vs,h=>by
  cases v with
  |H D A=>
   simp only[KV,ak]at h;rw[bZ,<-KU h.2,au h.1.1,au h.1.2]
  |_=>simp[KV]at h
def J_ (h:a_) (g:Nat->Nat):∀z:Y o?,cP h (z.map λp=>.H (g p.1) p.2)=Z (z.map λp=>.H (nm (g p.1)) p.2)
 |[]=>rfl
 |p::r=>by simp only[bZ,cP,b9,J_ h g r]
mutual
def ajl (d:rh H H') (hr:Ac h' h):∀(p:PV) (l:Y TV) (x:p.ty.den) (m:Nat) (r:Y TV) (cs:Y TV) (l' cs':Y AV),oJ g h p l=Z (x,m,r)->oX g p x=Z cs->cP h l=Z l'->cP h' cs=Z cs'->Eo h H H' m->∃l1 l2,l'=l1++l2/\cP h r=Z l2/\gL H H' l1 cs'
 |.d T,l,x,m,r,cs,l',cs',hg,hp,hl,hc,gv=>by
  obtain⟨l1,l2,e1,e2,e3⟩:=rq d 40 T l x m r l' hg hl gv;have:=(mV h' 40 T x cs hp).1;rw[hc]at this;cases this;exact⟨l1,l2,e1,e2,e3⟩
 |.H i q,l,x,m,r,cs,l',cs',hg,hp,hl,hc,gv=>by
  simp only[oJ]at hg;split at hg
  .rename_i i' o' r';split at hg
   .rename_i hb;simp only[ak]at hb;have e1:=au hb.1;have e2:=au hb.2;subst e1 e2;simp only[af,aG]at hg;obtain⟨_,_,rfl⟩:=hg;simp only[oX,af]at hp;subst hp;obtain⟨y,l2,rfl,g1,g2⟩:=c9 hl;simp only[b9,af]at g1;subst g1;simp only[cP,b9,af]at hc;subst hc;exact⟨[_],l2,rfl,g2,kl.refl d _,trivial⟩
   .cases hg
  .cases hg
 |.qv i q z,l,x,m,r,cs,l',cs',hg,hp,hl,hc,gv=>by
  simp only[oJ]at hg;split at hg
  .rename_i i' o' z' r';split at hg
   .rename_i hb;simp only[ak]at hb;have e1:=au hb.1.1;have e2:=au hb.1.2;have e3:=au hb.2;subst e1 e2 e3;simp only[af,aG]at hg;obtain⟨_,_,rfl⟩:=hg;simp only[oX,af]at hp;subst hp;obtain⟨y,l2,rfl,g1,g2⟩:=c9 hl;simp only[b9,af]at g1;subst g1;simp only[cP,b9,af]at hc;subst hc;exact⟨[_],l2,rfl,g2,kl.refl d _,trivial⟩
   .cases hg
  .cases hg
 |.qy q ps,l,x,m,r,cs,l',cs',hg,hp,hl,hc,gv=>by
  simp only[oJ]at hg;split at hg
  .rename_i q' vs r';split at hg
   .rename_i hb;simp only[ak]at hb;have e1:=au hb.1;have e2:=KU hb.2;subst e1 e2;simp only[af,aG]at hg;obtain⟨_,_,rfl⟩:=hg;simp only[oX,af]at hp;subst hp;obtain⟨y,l2,rfl,g1,g2⟩:=c9 hl;simp only[b9,J_,af]at g1;subst g1;simp only[cP,b9,J_,af]at hc;subst hc;exact⟨[_],l2,rfl,g2,kl.refl d _,trivial⟩
   .cases hg
  .cases hg
 |.ob i q,l,x,m,r,cs,l',cs',hg,hp,hl,hc,gv=>by
  simp only[oJ]at hg;split at hg
  .rename_i i' j' o' r';split at hg
   .rename_i hb;simp only[ak]at hb;have e1:=au hb.1;have e2:=au hb.2;subst e1 e2;simp only[af,aG]at hg;obtain⟨rfl,_,rfl⟩:=hg;simp only[oX,af]at hp;subst hp;obtain⟨y,l2,rfl,g1,g2⟩:=c9 hl;simp only[b9,af]at g1;subst g1;simp only[cP,b9,af]at hc;subst hc;exact⟨[_],l2,rfl,g2,kl.refl d _,trivial⟩
   .cases hg
  .cases hg
 |.G i,l,x,m,r,cs,l',cs',hg,hp,hl,hc,gv=>by
  simp only[oJ]at hg;split at hg
  .rename_i i' r';split at hg
   .rename_i hb;have e1:=au hb;subst e1;simp only[af,aG]at hg;obtain⟨_,_,rfl⟩:=hg;simp only[oX,af]at hp;subst hp;obtain⟨y,l2,rfl,g1,g2⟩:=c9 hl;obtain⟨y',l3,rfl,g3,g4⟩:=c9 hc;simp only[cP,af]at g4;subst g4;rw[Td hr g1 g3];exact⟨[_],l2,rfl,g2,kl.refl d _,trivial⟩
   .cases hg
  .cases hg
 |.mp i,l,x,m,r,cs,l',cs',hg,hp,hl,hc,gv=>by
  simp only[oJ]at hg;split at hg
  .rename_i i' r';split at hg
   .rename_i hb;have e1:=au hb;subst e1;simp only[af,aG]at hg;obtain⟨_,_,rfl⟩:=hg;simp only[oX,af]at hp;subst hp;obtain⟨y,l2,rfl,g1,g2⟩:=c9 hl;simp only[b9,af]at g1;subst g1;simp only[cP,b9,af]at hc;subst hc;exact⟨[_],l2,rfl,g2,kl.refl d _,trivial⟩
   .cases hg
  .cases hg
 |.nil,l,x,m,r,cs,l',cs',hg,hp,hl,hc,gv=>by
  simp only[oJ]at hg;split at hg
  .simp only[af,aG]at hg;obtain⟨_,_,rfl⟩:=hg;simp only[oX,af]at hp;subst hp;obtain⟨y,l2,rfl,g1,g2⟩:=c9 hl;simp only[b9,af]at g1;subst g1;simp only[cP,b9,af]at hc;subst hc;exact⟨[_],l2,rfl,g2,kl.refl d _,trivial⟩
  .cases hg
 |.emp,l,x,m,r,cs,l',cs',hg,hp,hl,hc,gv=>by
  simp only[oJ]at hg;split at hg
  .simp only[af,aG]at hg;obtain⟨_,_,rfl⟩:=hg;simp only[oX,af]at hp;subst hp;obtain⟨y,l2,rfl,g1,g2⟩:=c9 hl;simp only[b9,af]at g1;subst g1;simp only[cP,b9,af]at hc;subst hc;exact⟨[_],l2,rfl,g2,Le.nilEmp.toH d,trivial⟩
  .simp only[af,aG]at hg;obtain⟨_,_,rfl⟩:=hg;simp only[oX,af]at hp;subst hp;obtain⟨y,l2,rfl,g1,g2⟩:=c9 hl;simp only[b9,af]at g1;subst g1;simp only[cP,b9,af]at hc;subst hc;exact⟨[_],l2,rfl,g2,kl.refl d _,trivial⟩
  .cases hg
 |.agg ps,l,x,m,r,cs,l',cs',hg,hp,hl,hc,gv=>Fv d hr ps l x m r cs l' cs' hg hp hl hc gv
def Fv (d:rh H H') (hr:Ac h' h):∀(ps:Y PV) (l:Y TV) (x:(PV.tyL ps).den) (m:Nat) (r:Y TV) (cs:Y TV) (l' cs':Y AV),Bs g h ps l=Z (x,m,r)->sx g ps x=Z cs->cP h l=Z l'->cP h' cs=Z cs'->Eo h H H' m->∃l1 l2,l'=l1++l2/\cP h r=Z l2/\gL H H' l1 cs'
 |[],l,x,m,r,cs,l',cs',hg,hp,hl,hc,gv=>by
  simp only[Bs,af,aG]at hg;obtain⟨_,_,rfl⟩:=hg;simp only[sx,af]at hp;subst hp;simp only[cP,af]at hc;subst hc;exact⟨[],l',rfl,hl,trivial⟩
 |p::ps,l,x,m,r,cs,l',cs',hg,hp,hl,hc,gv=>by
  simp only[Bs]at hg;split at hg
  .rename_i x1 m1 r1 h1;split at hg
   .rename_i x2 m2 r2 h2;cases hg;simp only[sx,uV,wL]at hp;split at hp
    .rename_i a ha;split at hp
     .rename_i b hb;cases hp;obtain⟨a',b',rfl,ea,eb⟩:=Ec hc;obtain⟨ga,gb⟩:=gv.or;obtain⟨l1,l2,rfl,q1,q2⟩:=ajl d hr p l _ _ _ a l' a' h1 ha hl ea ga;obtain⟨l3,l4,rfl,q3,q4⟩:=Fv d hr ps _ _ _ _ b l2 b' h2 hb q1 eb gb;exact⟨l1++l3,l4,by simp,q3,q2.append q4⟩
     .cases hp
    .cases hp
   .cases hg
  .cases hg
end
mutual
def aaj:∀(p:PV) (x:p.ty.den) (cs:Y TV),oX g p x=Z cs->lO cs=J
 |.d T,x,cs,hp=>(mV PT.leaf 40 T x cs hp).2
 |.H i q,x,cs,hp|.qv i q z,x,cs,hp|.qy q ps,x,cs,hp|.ob i q,x,cs,hp|.G i,x,cs,hp|.mp i,x,cs,hp|.nil,x,cs,hp|.emp,x,cs,hp=>by simp only[oX,af]at hp;subst hp;rfl
 |.agg ps,x,cs,hp=>yZ ps x cs hp
def yZ:∀(ps:Y PV) (x:(PV.tyL ps).den) (cs:Y TV),sx g ps x=Z cs->lO cs=J
 |[],x,cs,hp=>by simp only[sx,af]at hp;subst hp;rfl
 |p::ps,x,cs,hp=>by
  simp only[sx]at hp;split at hp
  .rename_i a ha;split at hp
   .rename_i b hb;cases hp;exact V0 (aaj p _ a ha) (yZ ps _ b hb)
   .cases hp
  .cases hp
end
def ajk (d:rh H H') (hr:Ac h' h) {p:PV} {v:TV} {x:p.ty.den} {y':AV} (D:xt g h p v=Z (x,i)) (hp:sG g p x=Z u) (L:b9 h v=Z y) (A:b9 h' u=Z y') (gv:Eo h H H' i):kl H H' y y':=by
 cases p with
 |d T=>
  simp only[sG,af]at hp;subst hp;simp only[b9,af]at A;subst A;exact (Sc d D L gv).1
 |agg ps=>
  simp only[xt]at D;split at D
  .cases D
  .rename_i hc;split at D
   .rename_i l hl;split at D
    .rename_i x1 m1 h1;cases D;simp only[sG]at hp;split at hp
     .rename_i cs hcs;cases hp;simp only[b9]at A;split at A
      .rename_i cs' hcs';cases A;obtain⟨e1,e2⟩:=I6 hl L;obtain⟨l1,l2,q1,q2,q3⟩:=Fv d hr ps l _ _ [] cs y.cs cs' h1 hcs e1 hcs' gv;simp only[cP,af]at q2;subst q2;rw[mZ]at q1;subst q1;have hcell:∀x∈cs',x.isCell=J:=mW (tC hcs' (yZ ps _ cs hcs));cases v with
       |agg q=>
        simp only[b9]at L;split at L
        .cases L;exact kl.agg q3 hcell
        .cases L
       |f S z=>
        simp only[b9,af]at L;subst L;have ho:S.one=aa:=by simpa[TV.isC] using hc
        rw[Cq]at q3;rw[rW S z ho];intro φ E w v hrep hrel;exact kl.agg q3 hcell φ E w v hrep (Le.aggF _ _ _ _ hrel)
       |qg q|undef|qw|qd S q=>simp[TV.cs,TV.isC]at hl
       |sb q=>exact co rfl hc
       |zm id jj=>cases hl
       |_=>simp[TV.isC]at hc
      .cases A
     .cases hp
    .cases D
   .cases D
 |H m q=>
  simp only[sG,af]at hp;subst hp;simp only[xt]at D;split at D
  .rename_i h1;simp only[oJ]at h1;split at h1
   .rename_i e;simp only[fk]at e;obtain⟨rfl,_⟩:=e;split at h1
    .rename_i N;simp only[ak]at N;have e1:=au N.1;have e2:=au N.2;subst e1 e2;simp only[b9,af]at L A;subst L A;exact kl.refl d _
    .cases h1
   .cases h1
  .cases D
 |qv m q z=>
  simp only[sG,af]at hp;subst hp;simp only[xt]at D;split at D
  .rename_i h1;simp only[oJ]at h1;split at h1
   .rename_i e;simp only[fk]at e;obtain⟨rfl,_⟩:=e;split at h1
    .rename_i N;simp only[ak]at N;have e1:=au N.1.1;have e2:=au N.1.2;have e3:=au N.2;subst e1 e2 e3;simp only[b9,af]at L A;subst L A;exact kl.refl d _
    .cases h1
   .cases h1
  .cases D
 |qy q ps=>
  simp only[sG,af]at hp;subst hp;simp only[xt]at D;split at D
  .rename_i h1;simp only[oJ]at h1;split at h1
   .rename_i e;simp only[fk]at e;obtain⟨rfl,_⟩:=e;split at h1
    .rename_i N;simp only[ak]at N;have e1:=au N.1;have e2:=KU N.2;subst e1 e2;simp only[b9,J_,af]at L A;subst L A;exact kl.refl d _
    .cases h1
   .cases h1
  .cases D
 |ob m q=>
  simp only[sG,af]at hp;subst hp;simp only[xt]at D;split at D
  .rename_i h1;simp only[oJ]at h1;split at h1
   .rename_i e;simp only[fk]at e;obtain⟨rfl,_⟩:=e;split at h1
    .rename_i N;simp only[ak]at N;have e1:=au N.1;have e2:=au N.2;subst e1 e2;simp only[af,aG]at h1 D;obtain⟨rfl,_⟩:=D;obtain⟨rfl,_⟩:=h1;simp only[b9,af]at L A;subst L A;exact kl.refl d _
    .cases h1
   .cases h1
  .cases D
 |G m=>
  simp only[sG,af]at hp;subst hp;simp only[xt]at D;split at D
  .rename_i h1;simp only[oJ]at h1;split at h1
   .rename_i e;simp only[fk]at e;obtain⟨rfl,_⟩:=e;split at h1
    .rename_i N;have e1:=au N;subst e1;rw[Td hr L A];exact kl.refl d _
    .cases h1
   .cases h1
  .cases D
 |mp m=>
  simp only[sG,af]at hp;subst hp;simp only[xt]at D;split at D
  .rename_i h1;simp only[oJ]at h1;split at h1
   .rename_i e;simp only[fk]at e;obtain⟨rfl,_⟩:=e;split at h1
    .rename_i N;have e1:=au N;subst e1;simp only[b9,af]at L A;subst L A;exact kl.refl d _
    .cases h1
   .cases h1
  .cases D
 |nil=>
  simp only[sG,af]at hp;subst hp;simp only[xt]at D;split at D
  .rename_i h1;simp only[oJ]at h1;split at h1
   .rename_i e;simp only[fk]at e;obtain⟨rfl,_⟩:=e;simp only[b9,af]at L A;subst L A;exact kl.refl d _
   .cases h1
  .cases D
 |emp=>
  simp only[sG,af]at hp;subst hp;simp only[xt]at D;split at D
  .rename_i h1;simp only[oJ]at h1;split at h1
   .rename_i e;simp only[fk]at e;obtain⟨rfl,_⟩:=e;simp only[b9,af]at L A;subst L A;exact Le.nilEmp.toH d
   .rename_i e;simp only[fk]at e;obtain⟨rfl,_⟩:=e;simp only[b9,af]at L A;subst L A;exact kl.refl d _
   .cases h1
  .cases D
def Fu (d:rh H H') (hr:Ac h' h):∀(L:Y PV) (vs:Y TV) (x:(PV.tyL L).den) (m:Nat) (D:Y TV) (l l':Y AV),An g h L vs=Z (x,m)->rm g L x=Z D->cP h vs=Z l->cP h' D=Z l'->Eo h H H' m->gL H H' l l'
 |[],[],x,m,D,l,l',z,hp,N,A,gv=>by
  simp only[rm,af]at hp;subst hp;simp only[cP,af]at N A;subst N A;trivial
 |[],_::_,x,m,D,l,l',z,_,_,_,_|_::_,[],x,m,D,l,l',z,_,_,_,_=>by simp[An]at z
 |p::L,v::vs,x,m,D,l,l',z,hp,N,A,gv=>by
  simp only[An]at z;split at z
  .rename_i x1 m1 h1;split at z
   .rename_i x2 m2 h2;cases z;simp only[rm,uV,wL]at hp;split at hp
    .rename_i a ha;split at hp
     .rename_i b hb;cases hp;obtain⟨y,l2,rfl,e1,e2⟩:=c9 N;obtain⟨y',l3,rfl,e3,e4⟩:=c9 A;obtain⟨ga,gb⟩:=gv.or;exact⟨ajk d hr h1 ha e1 e3 ga,Fu d hr L vs _ _ b l2 l3 h2 hb e2 e4 gb⟩
     .cases hp
    .cases hp
   .cases z
  .cases z
inductive BM (g:Nat->Nat) (h:a_) (m:Nat):eP->eP->Prop
 |F (ty:TypeId) (p:Bool) (T:Ty) (xs:List T.den):BM g h m (.F ty p T xs) (.F ty p T xs)
 |mp (K V:Ty) (es:List (K.den×V.den)):BM g h m (.mp K V es) (.mp K V es)
 |I (F:tZ) (a:Nat) (x:F.ty.den):BM g h m (.I F a x) (.I F a x)
 |C (ty:Option TypeId) (ps:List PV) (x:(PV.tyL ps).den) (l l2:List TV) (m':Nat) (hg:Bs g h ps l=Z (x,m',[])) (hp:sx g ps x=Z l2) (hm:∀i,aK m' i=J->aK m i=J):BM g h m (.C ty l) (.C ty l2)
def BM.mono (hm:∀m,aK i m=J->aK j m=J) {b c:eP} (h1:BM g h i b c):BM g h j b c:=by
 cases h1 with
 |F ty p T xs=>exact .F ty p T xs
 |mp K V es=>exact .mp K V es
 |I F a x=>exact .I F a x
 |C ty A x l D m' L hp z=>exact .C ty A x l D m' L hp λm hi=>hm m (z m hi)
def ajm {b:PB} {x:b.ty.den} {c:eP} (A:Ea g h i b=Z (x,j)) (hp:Cz g b x=Z (Z c)):∃b0,h.get (g i)=Z b0/\BM g h j b0 c:=by
 cases b with
 |F ty p T=>
  simp only[Ea]at A;split at A
  .rename_i ty' p' S xs L;split at A
   .rename_i D;simp only[ak,cG]at D;obtain⟨rfl,rfl⟩:=D;split at A
    .rename_i z N;cases A;obtain⟨e,rfl⟩:=gV N;cases e;simp only[Cz,af]at hp;subst hp;exact⟨_,L,.F _ _ _ _⟩
    .cases A
   .cases A
  .cases A
 |qf ty T=>
  simp only[Ea]at A;split at A
  .rename_i ty' p' S xs L;split at A
   .rename_i D;have D:ty=ty':=by simpa using D
    subst D;split at A
    .rename_i z N;cases A;obtain⟨e,rfl⟩:=gV N;cases e;simp only[Cz,af]at hp;subst hp;exact⟨_,L,.F _ _ _ _⟩
    .cases A
   .cases A
  .cases A
 |C ty ps=>
  simp only[Ea]at A;split at A
  .rename_i ty' l L;split at A
   .rename_i D;have D:ty=ty':=by simpa using D
    subst D;split at A
    .rename_i z m1 N;cases A;simp only[Cz]at hp;split at hp
     .rename_i l2 hl2;cases hp;exact⟨_,L,.C ty ps _ l l2 _ N hl2 λ_ h=>h⟩
     .cases hp
    .cases A
   .cases A
  .cases A
 |mp K V=>
  simp only[Ea]at A;split at A
  .rename_i K' V' es L;split at A
   .rename_i z N;cases A;obtain⟨e,rfl⟩:=gV N;cases e;simp only[Cz,af]at hp;subst hp;exact⟨_,L,.mp _ _ _⟩
   .cases A
  .cases A
 |I F a=>
  simp only[Ea]at A;split at A
  .rename_i F' a' z L;split at A
   .rename_i hF;subst hF;split at A
    .rename_i ha;cases A;simp only[Cz,af]at hp;subst hp;rw[au ha];exact⟨_,L,.I _ _ _⟩
    .cases A
   .cases A
  .cases A
 |qk=>simp[Cz]at hp
def LZ:∀(bs:Y PB) (i:Nat) (x:(PB.tyL bs).den) (m:Nat) (D:Y (M eP)),C_ g h i bs=Z (x,m)->pK g bs x=Z D->∀(k:Nat) c,D[k]? =Z (Z c)->∃b0,h.get (g (i+k))=Z b0/\BM g h m b0 c
 |[],i,x,m,D,z,hp,k,c,A=>by
  simp only[pK,af]at hp;subst hp;simp at A
 |b::r,i,x,m,D,z,hp,k,c,A=>by
  simp only[C_]at z;split at z
  .rename_i x1 m1 h1;split at z
   .rename_i x2 m2 h2;cases z;simp only[pK,uV,wL]at hp;split at hp
    .rename_i a ha;split at hp
     .rename_i q N;cases hp;cases k with
      |zero=>
       simp at A;subst A;obtain⟨b0,L,e2⟩:=ajm h1 ha;exact⟨b0,L,e2.mono λi hi=>by rw[bn,hi];rfl⟩
      |succ k=>
       obtain⟨b0,L,e2⟩:=LZ r (i+1) _ _ q h2 N k c (by simpa using A);rw[show i+1+k=i+(k+1) from by omega]at L;exact⟨b0,L,e2.mono λi hi=>by rw[bn,hi];simp⟩
     .cases hp
    .cases hp
   .cases z
  .cases z
end get
def Ux {σ:PT Nat} (h:σ.get i=Z j):io σ i=j:=by unfold io;rw[h]
def YY {σ:PT Nat}:∀(n i acc sm:Nat),ae1 σ n i acc=Z sm->
 (∀k,k<n->aK acc (io σ (i+k))=aa)/\(∀a b,a<n->b<n->io σ (i+a)=io σ (i+b)->a=b)/\∀q,aK sm q=J↔aK acc q=J\/∃k,k<n/\io σ (i+k)=q
 |0,i,acc,sm,h=>by
  simp only[ae1,af]at h;subst h;exact⟨λk A=>by omega,λa b L=>by omega,λq=>⟨.inl,λz=>z.elim id λ⟨k,A,_⟩=>by omega⟩⟩
 |n+1,i,acc,sm,h=>by
  simp only[ae1]at h;split at h
  .rename_i a L;split at h
   .cases h
   .rename_i hna;have hna:aK acc a=aa:=by simpa using hna
    have hga:=Ux L;obtain⟨h1,h2,N⟩:=YY n (i+1) (acc|||gf a) sm h;have hne:∀k,k<n->io σ (i+1+k)≠a/\aK acc (io σ (i+1+k))=aa:=λk A=>by
     have:=h1 k A;rw[bn,Bool.or_eq_false_iff]at this;refine ⟨λe=>?_,this.1⟩;have D:=this.2;rw[e]at D;rw[bu.2 rfl]at D;cases D
    refine ⟨λk A=>?_,λx y hx hy hxy=>?_,λq=>?_⟩
    .cases k with
     |zero=>rw[cX,hga];exact hna
     |succ k=>rw[show i+(k+1)=i+1+k from by omega];exact (hne k (by omega)).2
    .cases x with
     |zero=>
      cases y with
      |zero=>rfl
      |succ y=>
       rw[cX,hga,show i+(y+1)=i+1+y from by omega]at hxy;exact co hxy.symm (hne y (by omega)).1
     |succ x=>
      cases y with
      |zero=>
       rw[show i+0=i from rfl,hga,show i+(x+1)=i+1+x from by omega]at hxy;exact co hxy (hne x (by omega)).1
      |succ y=>
       rw[show i+(x+1)=i+1+x from by omega,show i+(y+1)=i+1+y from by omega]at hxy;have:=h2 x y (by omega) (by omega) hxy;omega
    .rw[N,bn,jJ];constructor
     .rintro ((z|z)|⟨k,A,z⟩)
      .exact .inl z
      .exact .inr ⟨0,by omega,by rw[cX,hga];exact bu.1 z⟩
      .exact .inr ⟨k+1,by omega,by rw[show i+(k+1)=i+1+k from by omega];exact z⟩
     .rintro (z|⟨k,A,z⟩)
      .exact .inl (.inl z)
      .cases k with
       |zero=>rw[cX,hga]at z;exact .inl (.inr (bu.2 z))
       |succ k=>exact .inr ⟨k,by omega,by rw[show i+1+k=i+(k+1) from by omega];exact z⟩
  .cases h
def UE {σ:PT Nat}:∀(n:Nat),ZB σ n=J->∀i,i<n->io σ i=i
 |0,_,i,hi=>by omega
 |n+1,h,i,hi=>by
  simp only[ZB,ak]at h;by_cases e:i=n
  .subst e;cases z:σ.get i with
   |none=>rw[z]at h;exact co h.1 (by simp)
   |some a=>rw[z]at h;rw[Ux z];exact au h.1
  .exact UE n h.2 i (by omega)
structure Kv (np:Nat) (t:Tm) (vs:List TV) (h:a_) (z:t.ty.den) (m:Nat) (σ:PT Nat) (sm:Nat):Prop where
 ex:∃x m1 y m2,z=Xg _ _ x y/\m=m1|||m2/\An (io σ) h t.vs vs=Z (x,m1)/\C_ (io σ) h 0 t.bs=Z (y,m2)
 inj:∀a b,a<l! t.bs->b<l! t.bs->io σ a=io σ b->a=b
 sig:∀q,aK sm q=J↔∃k,k<l! t.bs/\io σ k=q
 disj:∀i,aK m i=J->aK sm i=aa
 fix:∀i,i<np->io σ i=i
def yc {t:Tm} {vs:Y TV} {z:t.ty.den} {σ:PT Nat} {sm:Nat} (hm:DY i t vs h=Z ⟨z,j,σ,sm⟩):Kv i t vs h z j σ sm:=by
 unfold DY at hm;rw[Rv]at hm;split at hm
 .rename_i sm' N;split at hm
  .rename_i x m1 h1;split at hm
   .rename_i y m2 h2;split at hm
    .rename_i A;simp only[ak]at A;simp only[af,amr.mk.injEq]at hm;obtain⟨rfl,rfl,rfl,rfl⟩:=hm;obtain⟨g1,L,D⟩:=YY _ _ _ _ N;simp only[bF]at g1 L D;exact⟨⟨x,m1,y,m2,rfl,rfl,h1,h2⟩,L,λq=>by rw[D];simp,λnp hi=>zX A.1 np hi,UE i A.2⟩
    .cases hm
   .cases hm
  .cases hm
 .cases hm
mutual
def zO {g:Nat->Nat} {h:a_}:∀(p:PV) (l:Y TV) (x:p.ty.den) (m:Nat) (r:Y TV),oJ g h p l=Z (x,m,r)->dE h m
 |.d T,l,x,m,r,hg=>wM 40 T l x m r hg
 |.H i q,l,x,m,r,hg|.qv i q z,l,x,m,r,hg|.ob i q,l,x,m,r,hg|.qy q ps,l,x,m,r,hg|.G i,l,x,m,r,hg|.mp i,l,x,m,r,hg=>by
  simp only[oJ]at hg;split at hg
  .split at hg
   .simp only[af,aG]at hg;obtain⟨_,rfl,_⟩:=hg;exact dE.zero h
   .cases hg
  .cases hg
 |.nil,l,x,m,r,hg=>by
  simp only[oJ]at hg;split at hg
  .simp only[af,aG]at hg;obtain⟨_,rfl,_⟩:=hg;exact dE.zero h
  .cases hg
 |.emp,l,x,m,r,hg=>by
  simp only[oJ]at hg;split at hg
  .simp only[af,aG]at hg;obtain⟨_,rfl,_⟩:=hg;exact dE.zero h
  .simp only[af,aG]at hg;obtain⟨_,rfl,_⟩:=hg;exact dE.zero h
  .cases hg
 |.agg ps,l,x,m,r,hg=>Km ps l x m r hg
def Km {g:Nat->Nat} {h:a_}:∀(ps:Y PV) (l:Y TV) (x:(PV.tyL ps).den) (m:Nat) (r:Y TV),Bs g h ps l=Z (x,m,r)->dE h m
 |[],l,x,m,r,hg=>by
  simp only[Bs,af,aG]at hg;obtain⟨_,rfl,_⟩:=hg;exact dE.zero h
 |p::ps,l,x,m,r,hg=>by
  simp only[Bs]at hg;split at hg
  .rename_i x1 m1 r1 h1;split at hg
   .rename_i x2 m2 r2 h2;simp only[af,aG]at hg;obtain⟨_,rfl,_⟩:=hg;exact (zO p l x1 m1 r1 h1).or (Km ps r1 _ _ _ h2)
   .cases hg
  .cases hg
end
def anq {p:PV} {x:p.ty.den} (A:xt g h p u=Z (x,i)):dE h i:=by
 cases p with
 |d T=>exact Z0 A
 |agg D=>
  simp only[xt]at A;split at A
  .cases A
  .split at A
   .split at A
    .rename_i L m1 h1;simp only[af,aG]at A;obtain⟨_,rfl⟩:=A;exact Km D _ _ _ _ h1
    .cases A
   .cases A
 |_=>
  simp only[xt]at A;split at A
  .rename_i h1;simp only[af,aG]at A;obtain⟨_,rfl⟩:=A;exact zO _ _ _ _ _ h1
  .cases A
def Kl :∀(A:Y PV) (vs:Y TV) (x:(PV.tyL A).den) (m:Nat),An g h A vs=Z (x,m)->dE h m
 |[],[],x,m,z=>by simp only[An,af,aG]at z;obtain⟨_,rfl⟩:=z;exact dE.zero h
 |[],_::_,x,m,z|_::_,[],x,m,z=>by simp[An]at z
 |p::A,v::vs,x,m,z=>by
  simp only[An]at z;split at z
  .rename_i N m1 h1;split at z
   .rename_i D m2 L;simp only[af,aG]at z;obtain⟨_,rfl⟩:=z;exact (anq h1).or (Kl A vs D m2 L)
   .cases z
  .cases z
def anr {b:PB} {x:b.ty.den} (z:Ea g h i b=Z (x,j)):dE h j:=by
 cases b with
 |C ty A=>
  simp only[Ea]at z;split at z
  .split at z
   .split at z
    .rename_i h1;simp only[af,aG]at z;obtain⟨_,rfl⟩:=z;exact Km A _ _ _ _ h1
    .cases z
   .cases z
  .cases z
 |mp K V=>
  simp only[Ea]at z;split at z
  .split at z
   .simp only[af,aG]at z;obtain⟨_,rfl⟩:=z;exact dE.zero h
   .cases z
  .cases z
 |qk=>simp only[Ea,af,aG]at z;obtain⟨_,rfl⟩:=z;exact dE.zero h
 |_=>
  simp only[Ea]at z;split at z
  .split at z
   .split at z
    .simp only[af,aG]at z;obtain⟨_,rfl⟩:=z;exact dE.zero h
    .cases z
   .cases z
  .cases z
def Kn :∀(bs:Y PB) (i:Nat) (x:(PB.tyL bs).den) (m:Nat),C_ g h i bs=Z (x,m)->dE h m
 |[],i,x,m,z=>by simp only[C_,af,aG]at z;obtain⟨_,rfl⟩:=z;exact dE.zero h
 |b::r,i,x,m,z=>by
  simp only[C_]at z;split at z
  .rename_i L m1 h1;split at z
   .rename_i A m2 D;simp only[af,aG]at z;obtain⟨_,rfl⟩:=z;exact (anr h1).or (Kn r (i+1) A m2 D)
   .cases z
  .cases z
structure pH (t:Tm) (x:t.ty.den) (vs:List TV) (h1:a_) (l1:List (Option eP)):Prop where
 pv:rm Ki t.vs (Ru _ _ x)=Z vs
 pb:pK Ki t.bs (NQ _ _ x)=Z l1
 len:l! l1=l! t.bs
 at_:∀i b,h1.get i=Z b↔l1[i]? =Z (Z b)
 ok:lR h1 vs=J
 lt:rN (l! t.bs) vs=J
 C:∀i ty l,h1.get i=Z (.C ty l)->lR h1 l=J/\rN (l! t.bs) l=J
 I:∀i F a x,h1.get i=Z (.I F a x)->a<l! t.bs
 nox:∀i F a x k p,h1.get i≠Z (.qm F a x k p)
def af9 (l:Y (M eP)) (i:Nat) (b:eP):(CH Ki 0 l PT.leaf).get i=Z b↔l[i]? =Z (Z b):=by
 by_cases hi:i<l! l
 .obtain⟨c,z⟩:∃c,l[i]? =Z c:=⟨l[i],aD hi⟩
  have:=wO Ki l 0 PT.leaf (λa b _ _ e=>by simp only[Ki]at e;omega) i c z;rw[show Ki (0+i)=i from by simp only[Ki];omega]at this;rw[this,z];cases c with
  |some b'=>simp
  |none=>simp[PT.get]
 .rw[wN Ki l 0 PT.leaf i (λk A=>by simp only[Ki];omega),bJ (by omega)];simp[PT.get]
def yi {t:Tm} {x:t.ty.den} {vs:Y TV} {h1:a_} (hi:C7 t x=Z (vs,h1)):∃D,pH t x vs h1 D:=by
 unfold C7 at hi;split at hi
 .rename_i L hus;split at hi
  .rename_i h hh;split at hi
   .rename_i z;simp only[ak]at z;simp only[af,aG]at hi;obtain⟨rfl,rfl⟩:=hi;unfold Pc at hh;split at hh
    .rename_i D A;simp only[af]at hh;refine ⟨D,hus,A,EY _ _ _ _ A,λi b=>?_,z.1.1,z.1.2,λi ty l hil=>?_,λi F a x hil=>?_,λi F a x k p hil=>?_⟩
     .rw[<- hh];exact af9 D i b
     .have:=PT.get_all _ h 1 0 i _ z.2 hil;simpa only[ak] using this
     .have:=PT.get_all _ h 1 0 i _ z.2 hil;exact aU this
     .have:=PT.get_all _ h 1 0 i _ z.2 hil;cases this
    .cases hh
   .cases hi
  .cases hi
 .cases hi
def Pe (z:Nat) (n:Nat):Bool:=ef (ow n) z
def EZ :Pe i j=J↔ow j<i:=⟨λh=>aU h,λh=>aW h⟩
def Cg {k:Nat}:Pe j (jE i k)=J↔i<j:=by rw[EZ,iJ]
def GU :Pe j (nm i)=J↔i<j:=by
 rw[EZ,dc]
def Tf (h:j<i) (id sz n:Nat):(ue j id sz n).all (Pe i)=J:=by
 unfold ue;split
 .rfl
 .exact Cg.2 h
def ajt {s:Sb} (h:s.id<i):(JB s).all (Pe i)=J:=by
 cases s with
 |nr id j sz n=>exact Tf h _ _ _
 |nl=>rfl
 |_=>exact Cg.2 h
mutual
def anj {nb:Nat} {h:a_}:∀(v:TV) (y:AV),Kf nb v=J->b9 h v=Z y->y.all (Pe nb)=J
 |.f _ _,y,_,he|.zk _ _ _ _ _,y,_,he=>by simp only[b9,af]at he;subst he;rfl
 |.ql id _ _ _,y,hl,he|.H id _,y,hl,he|.qv id _ _,y,hl,he=>by simp only[b9,af]at he;subst he;exact GU.2 (aU hl)
 |.G id,y,hl,he=>by
  simp only[b9]at he;split at he
  .cases he;unfold dm;split
   .rfl
   .exact GU.2 (aU hl)
  .cases he
 |.zm id jj,y,hl,he=>by
  simp only[b9]at he;split at he
  .cases he;exact GU.2 (aU hl)
  .cases he
 |.emp,y,_,he|.nil,y,_,he=>by simp only[b9,af]at he;subst he;rfl
 |.mp id,y,hl,he=>by simp only[b9,af]at he;subst he;exact GU.2 (aU hl)
 |.agg l,y,hl,he|.qg l,y,hl,he|.qy q l,y,hl,he=>by
  simp only[b9]at he;split at he
  .rename_i l' hl';cases he;exact ta l l' hl hl'
  .cases he
 |.undef,y,_,he|.np,y,_,he|.qw,y,_,he|.qd _ _,y,_,he=>by simp only[b9,af]at he;subst he;rfl
 |.sb s,y,hl,he=>by simp only[b9,af]at he;subst he;exact ajt (aU hl)
def ta {nb:Nat} {h:a_}:∀(l:Y TV) (l':Y AV),rN nb l=J->cP h l=Z l'->AV.allL (Pe nb) l'=J
 |[],l',_,he=>by simp only[cP,af]at he;subst he;rfl
 |x::r,l',hl,he=>by
  obtain⟨y,l2,rfl,e1,e2⟩:=c9 he;simp only[rN,ak]at hl;simp only[AV.allL,ak];exact⟨anj x y hl.1 e1,ta r l2 hl.2 e2⟩
end
def Cu :∀{l:Y AV},(∀x∈l,x.all p=J)->AV.allL p l=J
 |[],_=>rfl
 |x::r,h=>by
  simp only[AV.allL,ak];exact⟨h x (cR ..),Cu λy z=>h y (bM _ z)⟩
def O_ (h:j<i) (sz:Nat):∀(D:η) (k:Nat),∀x∈lQ j sz k D,x.all (Pe i)=J
 |[],_,x,z=>by cases z
 |l::r,k,x,z=>by
  rcases aZ.1 z with rfl|z
  .exact Tf h _ _ _
  .exact O_ h sz r (k+1) x z
def ag4 (h:j<i) {F:tZ} {x:F.ty.den} (A:sq j F x=Z S):S.c.all (Pe i)=J:=by
 cases F with
 |qc ty=>
  simp only[sq]at A;split at A
  .cases A
  .cases A;refine Cu λz D=>?_
   obtain⟨a,_,rfl⟩:=ch.1 D;exact Cg.2 h
 |qh=>
  simp only[sq,af]at A;subst A;refine Cu λz D=>?_
  obtain⟨q,N,rfl⟩:=ch.1 D;obtain⟨e,_,rfl⟩:=ch.1 N;exact Cg.2 h
 |rr ty sz=>
  simp only[sq,af]at A;subst A;exact Cu (O_ h sz x 0)
 |_=>cases A
def ag2 (h:i<j) (k:Nat) (ty:TypeId) (S:Ty) (o:BZ S):(vX i k ty S o).c.all (Pe j)=J:=by
 unfold vX;split
 .refine Cu λz A=>?_
  rcases bG.1 A with A|A
  .obtain⟨q,_,rfl⟩:=ch.1 A;rfl
  .rcases aZ.1 A with rfl|A
   .exact Cg.2 h
   .rw[aE.1 A];exact Cg.2 h
 .refine Cu λz A=>?_
  obtain⟨q,L,rfl⟩:=ch.1 A;obtain⟨e,_,rfl⟩:=ch.1 L;rfl
def ag3 (h:i<j) {k:Nat} {F:tZ} {x:F.ty.den} (z:By i k F x=Z S):S.c.all (Pe j)=J:=by
 cases F with
 |ar ty y=>
  simp only[By,oN]at z;obtain⟨o,_,rfl⟩:=dv.1 z;exact ag2 h k ty y o
 |ir ty T=>
  simp only[By,pq]at z;obtain⟨o,_,A⟩:=Option.bind_eq_some_iff.1 z;unfold XR at A;split at A
  .cases A
  .cases A;rfl
 |_=>cases z
def pH.blk_all {t:Tm} {x:t.ty.den} {vs:Y TV} {N:Y (M eP)} (I:pH t x vs h N) {b:eP} (D:h.get i=Z b) (A:jR h b=Z S):S.c.all (Pe (l! t.bs))=J:=by
 cases b with
 |F ty p T xs=>
  simp only[jR]at A;split at A
  .cases A
  .cases A;rfl
 |C ty l=>
  cases ty with
  |some ty=>
   simp only[jR]at A;split at A
   .rename_i l' L;cases A;exact ta l l' (I.C i _ l D).2 L
   .cases A
  |none=>
   simp only[jR]at A;split at A
   .rename_i l' L;cases A;show AV.allL _ ((pS 0 l').map (·.2))=J;rw[Pq];exact ta l l' (I.C i _ l D).2 L
   .cases A
 |qj p sz n=>cases A
 |mp K V es=>
  simp only[jR,af]at A;subst A;show BC.all _ (mpC K V es)=J;unfold mpC;split
  .rfl
  .simp only[BC.all,kN];have key:∀l:Y (K.den×V.den),AV.allL (Pe (l! t.bs)) (l.map ((λx=>x.2)∘λp=>(qW K p.1,AV.f (fS V p.2))))=J:=λl=>by
    induction l with
    |nil=>rfl
    |cons e r ih=>simp only[bZ,AV.allL,ak];exact⟨rfl,ih⟩
   exact key es
 |I F a z=>exact ag4 (I.I i F a z D) A
 |qm F a z k p=>exact co D (I.nox i F a z k p)
def pH.lt_len {t:Tm} {x:t.ty.den} {vs:Y TV} {z:Y (M eP)} (a:pH t x vs h z) {b:eP} (A:h.get i=Z b):i<l! t.bs:=by
 rw[<- a.len];exact (bi.1 ((a.at_ i b).1 A)).1
def φ1 (z:Nat) (g:Nat->Nat) (φ:PM):PM:=λn=>if Pe z n then φ (pI g n) else U
def adk (hi:ow j<i):φ1 i g V j=V (pI g j):=by
 unfold φ1;rw[aC (EZ.2 hi)]
def yV {k:Nat} (h:φ1 i g V j=Z k):ow j<i/\V (pI g j)=Z k:=by
 unfold φ1 at h;split at h
 .rename_i hp;exact⟨EZ.1 hp,h⟩
 .cases h
def ajn (inj:∀a b,a<i->b<i->g a=g b->a=b) {A:Nat} (h:ow j<i) (h':ow A<i) (e:pI g j=pI g A):j=A:=by
 obtain⟨D,e2⟩:=uN e;rw[<- kO j,<-kO A,inj _ _ h h' D,e2]
def pH.erHF {t:Tm} {x:t.ty.den} {vs:Y TV} {N:Y (M eP)} (I:pH t x vs h N) (hn:AI.erHF h i=Z S):ow i<l! t.bs/\S.c.all (Pe (l! t.bs))=J:=by
 obtain⟨c,D,A⟩:=iO hn;have hi:=I.lt_len D;refine ⟨hi,?_⟩;cases L:ix i with
 |zero=>rw[L]at A;exact I.blk_all D A
 |succ k=>
  rw[L]at A;cases c with
  |I F a z=>exact ag3 hi A
  |qm F a z k p=>exact co D (I.nox _ F a z k p)
  |_=>cases A
structure akt (t:Tm) (x:t.ty.den) (vs:List TV) (h1:a_) (g:Nat->Nat) (φ:PM) (E E':Nat->Prop) (Hv:HF) (w:World):Prop where
 qn:r_ (φ1 (l! t.bs) g φ) E' (erHF h1) w
 val:∀x v,x.all (Pe (l! t.bs))=J->cq φ (tot E φ Hv) w (x.qx (pI g)) v->cq (φ1 (l! t.bs) g φ) (tot E' (φ1 (l! t.bs) g φ) (erHF h1)) w x v
 qr:∀k,own (φ1 (l! t.bs) g φ) (erHF h1) k->own φ Hv k
 tot_:∀k,tot E' (φ1 (l! t.bs) g φ) (erHF h1) k->tot E φ Hv k
def r_.toId {t:Tm} {x:t.ty.den} {vs:Y TV} {l1:Y (M eP)} (I:pH t x vs h l1) (inj:∀a b,a<l! t.bs->b<l! t.bs->g a=g b->a=b) {E':Nat->Prop} {w:World} (r:r_ V O A w)
 (hat:∀n y,AI.erHF h n=Z y->A (pI g n)=Z (y.qx (pI g)))
 (hE:∀k,E' k->tot O V A k) (hne:∀n k y,AI.erHF h n=Z y->V (pI g n)=Z k->¬E' k) (hel:∀k,E' k->k<w.heap.size):akt t x vs h g V O E' A w:=by
 have own1:∀k,own (φ1 (l! t.bs) g V) (erHF h) k->own V A k:=by
  rintro k ⟨n,y,L,h3⟩;obtain⟨hi,D⟩:=yV h3;exact⟨pI g n,_,hat n y L,D⟩
 have tot1:∀k,tot E' (φ1 (l! t.bs) g V) (erHF h) k->tot O V A k:=λk z=>z.elim (hE k) λh1=>.inr (own1 k h1)
 have val:∀x v,x.all (Pe (l! t.bs))=J->cq V (tot O V A) w (x.qx (pI g)) v->cq (φ1 (l! t.bs) g V) (tot E' (φ1 (l! t.bs) g V) (erHF h)) w x v:=λx v hx hr=>by
  have L:cq (φ1 (l! t.bs) g V) (tot O V A) w x v:=cq.renFrom (λi k hp z=>by unfold φ1;rw[aC hp];exact z) hr x hx rfl;exact L.ext (λ_ _ h1=>h1) (Gt.refl _ w) λk _ z=>tot1 k z
 refine ⟨⟨λn n' b b' k Hv g2 g3 g4=>?_,λn y Hv=>?_,hel,λg' cells hg=>(r.gl g' cells hg).ext (Gt.refl _ w) λk _ z=>tot1 k z⟩,val,own1,tot1⟩
 .obtain⟨hi,D⟩:=yV g3;obtain⟨hj,h5⟩:=yV g4;exact ajn inj hi hj (r.inj _ _ _ _ k (hat n _ Hv) (hat n' _ g2) D h5)
 .obtain⟨hi,hall⟩:=I.erHF Hv;obtain⟨k,N,p2,ob,p3,p4⟩:=r.at_ _ _ (hat n y Hv);exact⟨k,by rw[adk hi];exact N,hne n k y Hv N,ob,p3,gy.renFrom val hall p4⟩
def BM.view {N:a_} {H':HF} (d:rh A H') (gv:Eo h A H' i) (hr:Ac N h) {b0 c:eP} (hb:BM g h i b0 c) {y':kc} (e0:jR h b0=Z S) (z:jR N c=Z y'):fH A H' S y':=by
 cases hb with
 |C ty ps x l L m' hg hp hm=>
  have key:∀l' cs',cP h l=Z l'->cP N L=Z cs'->gL A H' l' cs'/\∀x∈cs',x.isCell=J:=λl' cs' D H=>by
   obtain⟨l1,l3,q1,q2,q3⟩:=Fv d hr ps l x m' [] L l' cs' hg hp D H λm hi=>gv m (hm m hi)
   simp only[cP,af]at q2;subst q2;rw[mZ]at q1;subst q1;exact⟨q3,mW (tC H (yZ ps x L hp))⟩
  cases ty with
  |some ty=>
   simp only[jR]at e0 z;split at e0
   .rename_i l' D;cases e0;split at z
    .rename_i cs' H;cases z;exact fH.C rfl rfl (key _ _ D H).1 (key _ _ D H).2
    .cases z
   .cases e0
  |none=>
   simp only[jR]at e0 z;split at e0
   .rename_i l' D;cases e0;split at z
    .rename_i cs' H;cases z;exact fH.told (key _ _ D H).1
    .cases z
   .cases e0
 |_=>
  simp only[jR]at e0 z;rw[e0]at z;cases z;exact fH.refl d S
def BM.erB_some {D:a_} {m:Nat} (hinv:gW h j) {b0 c:eP} (h0:h.get i=Z b0) (N:BM g h m b0 c) (A:jR D c=Z S):∃y,jR h b0=Z y:=by
 cases N with
 |C ty ps x l l2 m' hg hp hm=>
  obtain⟨l',L⟩:=eX h l (hinv.C i _ l h0);cases ty<;>exact⟨_,by simp only[jR,L];rfl⟩
 |_=>exact⟨S,A⟩
def BM.mem {b0 c:eP} (z:BM g h i b0 c) (m k:Nat):ww m k b0=ww m k c:=by cases z<;>rfl
def BM.G {b0 c:eP} (z:BM g h i b0 c):iG c=iG b0:=by
 cases z<;>rfl
structure qZ (P:Program) (f:FuncId) (c:cF):Prop where
 zw:Gw P f
 calls:∀x y,c.m x=Z y->∀vs hp l1 rs hq l2 la lr,pH c.pre x vs hp l1->pH c.post y rs hq l2->cP hp vs=Z la->cP hq rs=Z lr->
  ∀(φ:PM) (E:Nat->Prop) (w:World) (us:ξ),r_ φ E (erHF hp) w->lP φ (tot E φ (erHF hp)) w la us->(∀n k,φ n=Z k->ow n<l! c.pre.bs)->
  Calls P f us.toArray w λen w'=>∃v φ',en= .returned v/\Gt (own φ (erHF hp)) w w'/\(∀k,k<w.heap.size->own φ' (erHF hq) k->own φ (erHF hp) k)/\(∀n,ow n<l! c.pre.bs->φ' n=φ n)/\r_ φ' E (erHF hq) w'/\cq φ' (tot E φ' (erHF hq)) w' (EH lr) v
def Pk :∀(bs:Y PB) (x:(PB.tyL bs).den) (l:Y (M eP)),DS bs=J->pK g bs x=Z l->∀(i:Nat) (c:M eP),l[i]? =Z c->∃b,c=Z b
 |[],x,l,_,hp,i,c,A=>by simp only[pK,af]at hp;subst hp;simp at A
 |b::r,x,l,D,hp,i,c,A=>by
  simp only[pK]at hp;split at hp
  .rename_i a z;split at hp
   .rename_i q L;cases hp;cases i with
    |zero=>
     simp at A;subst A;cases b with
     |qk=>simp[DS]at D
     |C ty N=>
      simp only[Cz]at z;split at z
      .simp only[af]at z;exact⟨_,z.symm⟩
      .cases z
     |_=>simp only[Cz,af]at z;exact⟨_,z.symm⟩
    |succ i=>
     refine Pk r _ q ?_ L i c (by simpa using A);cases b<;>first|exact D|simp[DS]at D
   .cases hp
  .cases hp
def H5 {A:a_} :∀n,vw h A g n=J->∀i,i<n->∀r,eE h (g i)=Z r->eE A (g i)=Z r
 |0,_,i,hi,_,_=>by omega
 |n+1,z,i,hi,r,D=>by
  simp only[vw,ak]at z;by_cases e:i=n
  .subst e;obtain⟨p,s,k⟩:=r;have h1:=z.1;rw[D]at h1;cases L:eE A (g i) with
   |none=>rw[L]at h1;cases h1
   |some q=>
    obtain⟨N,s',k'⟩:=q;rw[L]at h1;simp only[ak,cG]at h1;rw[h1.1.1,au h1.1.2,au h1.2]
  .exact H5 n z.2 i (by omega) r D
def lP.le {H':HF} {w:World} (r:r_ V O A w):∀{l l':Y AV} {z:ξ},gL A H' l l'->lP V (tot O V A) w l z->lP V (tot O V H') w l' z
 |[],[],[],_,_=>trivial
 |[],[],_::_,_,h|_::_,_::_,[],_,h|[],_::_,_,h,_|_::_,[],_,h,_=>h.elim
 |_::_,_::_,_::_,H,h=>⟨H.1 _ _ _ _ r h.1,lP.le r H.2 h.2⟩
def lP.toId {φ':PM} {O':Nat->Prop} {w:World} (A:∀x v,x.all p=J->cq V O w (x.qx g) v->cq φ' O' w x v):∀{l:Y AV} {z:ξ},AV.allL p l=J->lP V O w (AV.renL g l) z->lP φ' O' w l z
 |[],[],_,_=>trivial
 |[],_::_,_,h|_::_,[],_,h=>h.elim
 |_::_,_::_,hp,h=>by
  simp only[AV.allL,ak]at hp;exact⟨A _ _ hp.1 h.1,lP.toId A hp.2 h.2⟩
def Y5 :∀{A:Y TV} {z:Y AV},cP h A=Z z->b9 h (Tg A)=Z (EH z)
 |[],z,he=>by simp only[cP,af]at he;subst he;rfl
 |[x],z,he=>by
  obtain⟨y,L,rfl,D,e2⟩:=c9 he;simp only[cP,af]at e2;subst e2;exact D
 |x::y::r,z,he=>by
  obtain⟨y1,L,rfl,D,e2⟩:=c9 he;obtain⟨N,l3,rfl,e3,e4⟩:=c9 e2;simp only[Tg,b9,he,EH]
def adt (γ:Nat->Nat):∀l:Y AV,EH (AV.renL γ l)=(EH l).qx γ
 |[]|[x]|x::y::r=>rfl
def SE :∀{l:Y AV},AV.allL p l=J->(EH l).all p=J
 |[],_=>rfl
 |[x],h=>by simp only[AV.allL,ak]at h;exact h.1
 |x::y::r,h=>h
def aj1 {q:Nat}:aK (((1<<<j)-1)<<<i) q=J↔i<=q/\q<i+j:=by
 rw[Nat.testBit_shiftLeft,Nat.one_shiftLeft,Nat.testBit_two_pow_sub_one];simp only[ak,bR];omega
def aiz (l:ι) (B:Nat):ι:=l.flatMap λi=>(iR (B+1)).map λk=>jE i k
def TD {l:ι} :j∈aiz l i↔ow j∈l/\ix j<=i:=by
 unfold aiz;rw[sh];constructor
 .rintro⟨B,hi,z⟩;obtain⟨k,A,rfl⟩:=ch.1 z;rw[oT]at A;rw[iJ,vN];exact⟨hi,by omega⟩
 .rintro⟨h1,D⟩;exact⟨ow j,h1,ch.2 ⟨ix j,oT.2 (by omega),kO j⟩⟩
mutual
def AV.all_and {p q:Nat->Bool}:∀x:AV,x.all p=J->x.all q=J->x.all (λn=>p n&&q n)=J
 |.f _,_,_=>rfl
 |.H _ _,h1,h2|.sl _ _ _,h1,h2|.G _ _ _,h1,h2|.mp _,h1,h2=>by simp only[AV.all]at h1 h2 ⊢;rw[h1,h2];rfl
 |.emp,_,_|.qw,_,_|.qd _ _,_,_=>rfl
 |.agg l,h1,h2|.qg l,h1,h2|.qy _ l,h1,h2=>AV.allL_and l h1 h2
def AV.allL_and {p q:Nat->Bool}:∀l:Y AV,AV.allL p l=J->AV.allL q l=J->AV.allL (λn=>p n&&q n) l=J
 |[],_,_=>rfl
 |x::r,h1,h2=>by
  simp only[AV.allL,ak]at h1 h2 ⊢;exact⟨AV.all_and x h1.1 h2.1,AV.allL_and r h1.2 h2.2⟩
end
def BC.all_and {q:Nat->Bool} {c:BC} (h1:c.all p=J) (z:c.all q=J):c.all (λn=>p n&&q n)=J:=by
 cases c with
 |mx l=>exact AV.allL_and l h1 z
 |mp es=>exact AV.allL_and _ h1 z
 |_=>rfl
def Wy (B n:Nat):Bool:=dK (ix n) B
def Fg {n:Nat} (h:i<=j) (z:Wy i n=J):Wy j n=J:=aW (c8 (aU z) h)
mutual
def AV.all_ix {B B':Nat} (h:B<=B'):∀x:AV,x.all (Wy B)=J->x.all (Wy B')=J
 |.f _,_=>rfl
 |.H _ _,h1|.sl _ _ _,h1|.G _ _ _,h1|.mp _,h1=>Fg h h1
 |.emp,_|.qw,_|.qd _ _,_=>rfl
 |.agg l,h1|.qg l,h1|.qy _ l,h1=>AV.allL_ix h l h1
def AV.allL_ix {B B':Nat} (h:B<=B'):∀l:Y AV,AV.allL (Wy B) l=J->AV.allL (Wy B') l=J
 |[],_=>rfl
 |x::r,h1=>by
  simp only[AV.allL,ak]at h1 ⊢;exact⟨AV.all_ix h x h1.1,AV.allL_ix h r h1.2⟩
end
mutual
def AV.ix_ex:∀x:AV,∃B,x.all (Wy B)=J
 |.f _=>⟨0,rfl⟩
 |.H n _|.sl n _ _|.G n _ _|.mp n=>⟨ix n,aW (bV _)⟩
 |.emp|.qw|.qd _ _=>⟨0,rfl⟩
 |.agg l|.qg l|.qy _ l=>AV.ixL_ex l
def AV.ixL_ex:∀l:Y AV,∃B,AV.allL (Wy B) l=J
 |[]=>⟨0,rfl⟩
 |x::r=>by
  obtain⟨a,ha⟩:=AV.ix_ex x;obtain⟨b,hb⟩:=AV.ixL_ex r;exact⟨a+b,by simp only[AV.allL,ak];exact⟨AV.all_ix (by omega) x ha,AV.allL_ix (by omega) r hb⟩⟩
end
def BC.ix_ex (c:BC):∃B,c.all (Wy B)=J:=by
 cases c with
 |mx l=>exact AV.ixL_ex l
 |mp es=>exact AV.ixL_ex _
 |_=>exact⟨0,rfl⟩
def BC.all_ix (h:i<=j) {c:BC} (h1:c.all (Wy i)=J):c.all (Wy j)=J:=by
 cases c with
 |mx l=>exact AV.allL_ix h l h1
 |mp es=>exact AV.allL_ix h _ h1
 |_=>rfl
def Kk (h:a_):∃B,∀n y,erHF h n=Z y->ix n<=B/\y.c.all (Wy B)=J:=by
 obtain⟨A,hM⟩:=Zk h;obtain⟨N,hN⟩:=PT.bound h;have key:∀a:Nat,∃B,∀n y,n<a->erHF h n=Z y->y.c.all (Wy B)=J:=by
  intro a;induction a with
  |zero=>exact⟨0,λn y hn=>by omega⟩
  |succ a ih=>
   obtain⟨B,hB⟩:=ih;cases hx:erHF h a with
   |none=>exact⟨B,λn y hn D=>by
     by_cases e:n=a
     .subst e;rw[hx]at D;cases D
     .exact hB n y (by omega) D⟩
   |some z=>
    obtain⟨C,hC⟩:=BC.ix_ex z.c;exact⟨B+C,λn y hn D=>by
     by_cases e:n=a
     .subst e;rw[hx]at D;cases D;exact BC.all_ix (by omega) hC
     .exact BC.all_ix (by omega) (hB n y (by omega) D)⟩
 obtain⟨H,hH⟩:=gC h;obtain⟨L,hL⟩:=PT.bound H;obtain⟨B,hB⟩:=key L;refine ⟨A+B,λn y D=>⟨c8 (aju hM D) (by omega),BC.all_ix (by omega) (hB n y ?_ D)⟩⟩;rcases bx n L with h1|h1
 .exact h1
 .have:=hL n h1;rw[hH,D]at this;cases this
def agn {o:Oper} {e:hX} {c:cF} {l:Y TV} (hinv:gW h i) (sp:qZ P f c) {x:c.pre.ty.den} {σ:PT Nat} {sm:Nat} (A:Kv 0 c.pre l h x j σ sm) {vs:Y TV} {hp:a_} {l1:Y (M eP)} (I:pH c.pre x vs hp l1) (hng:DS c.pre.bs=J) {y:c.post.ty.den} (hm:c.m x=Z y) {rs:Y TV} {hq:a_} {l2:Y (M eP)} (D:pH c.post y rs hq l2) (hle:l! c.pre.bs<=l! c.post.bs)
 (glo:∀nx,nx<l! c.pre.bs->g nx=io σ nx) (ghi:∀nx,l! c.pre.bs<=nx->g nx=i+(nx-l! c.pre.bs)) {h2:a_} (hh2:h2=CH g 0 (l2.map (ii (kT g))) (dL j h)) (hsr:vw h h2 g (l! c.pre.bs)=J) {la:Y AV} (hla:cP h l=Z la)
 (hexec:∀(φ:PM) (E:Nat->Prop) (h':HF) (w:World) (a:Act),(∀t,.tmp t∈o.op.operands->∀y,fG e h t=Z y->cq φ (tot E φ h') w y (a.tmps.getD t undef))->r_ φ E h' w->∃us:ξ,(execOp a.eval o).run P w= .ok (.enter f us.toArray) w/\lP φ (tot E φ h') w la us):
 eT P o aa e h i (Tg (ll g rs)) (sm|||j) (sm|||j|||(((1<<<(l! c.post.bs-l! c.pre.bs))-1)<<<i)) h2 (i+(l! c.post.bs-l! c.pre.bs)):=by
 obtain⟨x1,m1,x2,m2,hx,hmm,gv,gb⟩:=A.ex;have hmr:dE h j:=by rw[hmm];exact (Kl _ _ _ _ gv).or (Kn _ _ _ _ gb)
 generalize hnp:l! c.pre.bs=np at*
 generalize hnq:l! c.post.bs=nq at*
 have pvg:rm (io σ) c.pre.vs x1=Z (ll (io σ) vs):=by
  have h3:=vh (io σ) c.pre.vs x1;have h4:=I.pv;rw[hx,uV]at h4;rw[h3,h4];rfl
 have pbg:pK (io σ) c.pre.bs x2=Z (l1.map (ii (kT (io σ)))):=by
  have h3:=xT (io σ) c.pre.bs x2;have h4:=I.pb;rw[hx,wL]at h4;rw[h3,h4];rfl
 have hl1:∀nx,nx<np->∃b,l1[nx]? =Z (Z b):=λnx hi=>by
  have hi':nx<l! l1:=by rw[I.len,hnp];exact hi
  obtain⟨b,L⟩:=Pk c.pre.bs _ l1 hng I.pb nx l1[nx] (aD hi');exact⟨b,by rw[aD hi',L]⟩
 have hbm:∀nx b,l1[nx]? =Z (Z b)->∃b0,h.get (io σ nx)=Z b0/\BM (io σ) h j b0 (kT (io σ) b):=λnx b L=>by
  obtain⟨b0,q1,q2⟩:=LZ c.pre.bs 0 x2 m2 _ gb pbg nx (kT (io σ) b) (by rw[aT,L];rfl);rw[bF]at q1;exact⟨b0,q1,q2.mono λm hj=>by rw[hmm,bn,hj];simp⟩
 have inj1:∀a b,a<np->b<np->io σ a=io σ b->a=b:=λa b ha L=>A.inj a b (by rw[hnp];exact ha) (by rw[hnp];exact L)
 have sig:∀q,aK sm q=J↔∃k,k<np/\io σ k=q:=λq=>by rw[A.sig,hnp]
 have gnx:∀nx,nx<np->io σ nx<i:=λnx hi=>by
  obtain⟨b,L⟩:=hl1 nx hi;obtain⟨b0,q1,_⟩:=hbm nx b L;exact hinv.low _ _ q1
 have hmS:∀nx,nx<np->aK j (io σ nx)=aa:=λnx hi=>by
  cases hx:aK j (io σ nx) with
  |false=>rfl
  |true=>have:=A.disj _ hx;rw[(sig _).2 ⟨nx,hi,rfl⟩]at this;cases this
 have injg:∀a b,a<nq->b<nq->g a=g b->a=b:=λa b ha L hab=>by
  by_cases h1:a<np
  .by_cases h2:b<np
   .rw[glo a h1,glo b h2]at hab;exact inj1 a b h1 h2 hab
   .rw[glo a h1,ghi b (by omega)]at hab;have:=gnx a h1;omega
  .by_cases h2:b<np
   .rw[ghi a (by omega),glo b h2]at hab;have:=gnx b h2;omega
   .rw[ghi a (by omega),ghi b (by omega)]at hab;omega
 let hv:a_:=CH (io σ) 0 (l1.map (ii (kT (io σ)))) (dL j h)
 have hv_at:∀nx b,l1[nx]? =Z (Z b)->hv.get (io σ nx)=Z (kT (io σ) b):=λnx b L=>by
  have:=wO (io σ) (l1.map (ii (kT (io σ)))) 0 (dL j h) (λa b ha L=>by
   simp only[bH,I.len,hnp]at ha L;simp only[bF];exact inj1 a b ha L) nx (Z (kT (io σ) b)) (by rw[aT,L];rfl)
  rw[bF]at this;exact this
 have hv_ne:∀m,(∀nx,nx<np->m≠io σ nx)->hv.get m=(dL j h).get m:=λm hj=>
  wN (io σ) _ 0 _ m λk N=>by
   simp only[bH,I.len,hnp]at N;rw[bF];exact hj k N
 have rows_in:Ac hv h:=λm r hr=>by
  rw[bC]at hr ⊢;by_cases hj:∃nx,nx<np/\m=io σ nx
  .obtain⟨nx,hi,rfl⟩:=hj;obtain⟨b,L⟩:=hl1 nx hi;obtain⟨b0,q1,q2⟩:=hbm nx b L;rw[hv_at nx b L]at hr;rw[q1];simp only[aB]at hr ⊢;rw[<- q2.G];exact hr
  .rw[hv_ne m (λnx hi e=>hj ⟨nx,hi,e⟩),iM]at hr;split at hr
   .rename_i ht;obtain⟨ty,p,T,xs,L⟩:=hmr m ht;rw[L]at hr ⊢;exact hr
   .exact hr
 have rows_hp:∀nx r,eE hp nx=Z r->eE hv (io σ nx)=Z r:=λnx r hr=>by
  rw[bC]at hr ⊢;cases L:hp.get nx with
  |none=>rw[L]at hr;cases hr
  |some b=>
   rw[L]at hr;rw[hv_at nx b ((I.at_ nx b).1 L)];simp only[aB,KM]at hr ⊢;exact hr
 have dead_m:∀nx,aK j nx=J->erHF hv (nm nx)=U:=λnx hi=>by
  rw[bL,hv_ne nx (λk N e=>by rw[e,hmS k N]at hi;cases hi)];obtain⟨p,sz,n,hd⟩:=vm hmr hi;rw[hd];rfl
 have h2_at:∀nx cc,l2[nx]? =Z cc->h2.get (g nx)=(match cc with|some b=>Z (kT g b)|none=>((dL j h).get (g nx)).map uA):=λnx cc hc=>by
  have:=wO g (l2.map (ii (kT g))) 0 (dL j h) (λa b ha L=>by
   simp only[bH,D.len,hnq]at ha L;simp only[bF];exact injg a b ha L) nx (cc.map (kT g)) (by rw[aT,hc];rfl)
  rw[bF]at this;rw[hh2,this];cases cc<;>rfl
 have h2_ne:∀m,(∀nx,nx<nq->m≠g nx)->h2.get m=(dL j h).get m:=λm hj=>by
  rw[hh2];refine wN g _ 0 _ m λk N=>?_
  simp only[bH,D.len,hnq]at N;rw[bF];exact hj k N
 have rows_hq:∀nx r,eE hq nx=Z r->eE h2 (g nx)=Z r:=λnx r hr=>by
  rw[bC]at hr ⊢;cases L:hq.get nx with
  |none=>rw[L]at hr;cases hr
  |some b=>
   rw[L]at hr;rw[h2_at nx _ ((D.at_ nx b).1 L)];simp only[aB,KM]at hr ⊢;exact hr
 have rows2:b7 h h2:=λm r hr=>by
  by_cases hj:∃nx,nx<np/\m=io σ nx
  .obtain⟨nx,hi,rfl⟩:=hj;rw[<- glo nx hi]at hr ⊢;exact H5 np hsr nx hi r hr
  .have hjn:m<i:=by
    rw[bC]at hr;cases L:h.get m with
    |none=>rw[L]at hr;cases hr
    |some b=>exact hinv.low m b L
   have:=b7.kill j h m r hr;rw[bC]at this ⊢;rw[h2_ne m (λnx hi e=>?_)]
   .exact this
   .by_cases hip:nx<np
    .exact hj ⟨nx,hip,by rw[e,glo nx hip]⟩
    .rw[ghi nx (by omega)]at e;omega
 obtain⟨lr,hlr⟩:=eX hq rs D.ok;obtain⟨lp,hlp⟩:=eX hp vs I.ok;have er2:∀n yb,erHF hq n=Z yb->erHF h2 (pI g n)=Z (yb.qx (pI g)):=λn yb hn=>by
  obtain⟨b,L,hyb⟩:=iO hn;unfold erHF;rw[xh,zG,h2_at _ _ ((D.at_ _ b).1 L)];exact Cn rows_hq hyb
 have er2':∀n,ow n<nq->∀z,erHF h2 (pI g n)=Z z->∃yb,erHF hq n=Z yb/\z=yb.qx (pI g):=λn hi z hz=>by
  have hi':ow n<l! l2:=by rw[D.len,hnq];exact hi
  have hcc:=aD hi';unfold erHF at hz;rw[xh,zG]at hz;cases hcv:l2[ow n] with
  |none=>
   rw[hcv]at hcc;rw[h2_at _ U hcc]at hz;simp only at hz;cases hkg:(dL j h).get (g (ow n)) with
   |none=>rw[hkg]at hz;cases hz
   |some b0=>rw[hkg]at hz;exact (Mc hz).elim
  |some b=>
   rw[hcv]at hcc;have L:=(D.at_ _ b).2 hcc;rw[h2_at _ (Z b) hcc]at hz;have hz:NH h2 (g (ow n)) (ix n) (kT g b)=Z z:=hz;have hyb:∃yb,NH hq (ow n) (ix n) b=Z yb:=by
    cases N:ix n with
    |zero=>
     rw[N]at hz;cases b with
     |F ty p T xs=>exact⟨z,hz⟩
     |C ty q=>
      obtain⟨q',hq'⟩:=eX hq q (D.C _ _ q L).1;cases ty<;>exact⟨_,by simp only[NH,jR,hq'];rfl⟩
     |qj p sz n=>cases hz
     |mp K V es=>exact⟨_,rfl⟩
     |I F a x=>
      simp only[NH,kT,jR,UJ]at hz;obtain⟨y,hy,_⟩:=dv.1 hz;exact⟨y,hy⟩
     |qm F a x k p=>exact co L (D.nox _ F a x k p)
    |succ k=>
     rw[N]at hz;simp only[NH,TE]at hz;obtain⟨y,hy,_⟩:=dv.1 hz;exact⟨y,hy⟩
   obtain⟨yb,hyb⟩:=hyb;rw[Cn rows_hq hyb]at hz;refine ⟨yb,?_,by cases hz;rfl⟩;unfold erHF;rw[L];exact hyb
 have dead2:∀nx,aK j nx=J->erHF h2 (nm nx)=U:=λnx hi=>by
  have hlt:=hmr.lt hinv hi;rw[bL,h2_ne nx (λk N e=>?_)]
  .obtain⟨p,sz,n,hd⟩:=vm hmr hi;rw[hd];rfl
  .by_cases hkp:k<np
   .rw[e,glo k hkp,hmS k hkp]at hi;cases hi
   .rw[ghi k (by omega)]at e;omega
 have inv2:gW h2 (i+(nq-np)):=by
  refine ⟨λm ty q hj=>?_,λm b hj=>?_⟩
  .by_cases hjg:∃nx,nx<nq/\m=g nx
   .obtain⟨nx,hi,rfl⟩:=hjg;have hi':nx<l! l2:=by rw[D.len,hnq];exact hi
    have hcc:=aD hi';cases hcv:l2[nx] with
    |none=>
     rw[hcv]at hcc;rw[h2_at nx U hcc]at hj;simp only at hj;cases hkg:(dL j h).get (g nx) with
     |none=>rw[hkg]at hj;cases hj
     |some b0=>rw[hkg]at hj;exact (Bh (fK hj)).elim
    |some b=>
     rw[hcv]at hcc;have L:=(D.at_ nx b).2 hcc;rw[h2_at nx (Z b) hcc]at hj;simp only[af]at hj;cases b with
     |C ty' q'=>
      simp only[kT,eP.C.injEq]at hj;obtain⟨_,rfl⟩:=hj;obtain⟨z,hz⟩:=eX hq q' (D.C nx _ q' L).1;exact kQ _ _ _ (qi rows_hq q' z hz)
     |_=>simp[kT]at hj
   .rw[h2_ne m (λnx hi e=>hjg ⟨nx,hi,e⟩)]at hj;refine fd rows2 q ?_;have hkk:=(hinv.kill j).C m _ q hj;rw[iM]at hj;split at hj
    .rename_i ht;obtain⟨_,_,_,_,L⟩:=hmr m ht;rw[L]at hj;cases hj
    .exact hinv.C m _ q hj
  .by_cases hjg:∃nx,nx<nq/\m=g nx
   .obtain⟨nx,hi,rfl⟩:=hjg;by_cases hip:nx<np
    .rw[glo nx hip];have:=gnx nx hip;omega
    .rw[ghi nx (by omega)];omega
   .rw[h2_ne m (λnx hi e=>hjg ⟨nx,hi,e⟩)]at hj;have:=(hinv.kill j).low m b hj;omega
 obtain⟨B1,hB1⟩:=Kk hp;obtain⟨B2,hB2⟩:=Kk hq;obtain⟨B3,hB3⟩:=Kk h;obtain⟨B4,hB4⟩:=Kk h2;obtain⟨B5,hB5⟩:=AV.ixL_ex lr;obtain⟨B,eB⟩:∃B,B=B1+B2+B3+B4+B5:=⟨_,rfl⟩
 let S:ι:=aiz ((iR np).map (io σ)) B
 have memS:∀n,n∈S↔(∃nx,nx<np/\ow n=io σ nx)/\ix n<=B:=λn=>by
  simp only[S,TD,ch,oT];exact⟨λ⟨⟨nx,h1,h2⟩,h3⟩=>⟨⟨nx,h1,h2.symm⟩,h3⟩,λ⟨⟨nx,h1,h2⟩,h3⟩=>⟨⟨nx,h1,h2.symm⟩,h3⟩⟩
 let NN:ι:=aiz ((iR (nq-np)).map λt=>i+t) B
 have G0:∀n,n∈NN↔(∃t,t<nq-np/\ow n=i+t)/\ix n<=B:=λn=>by
  simp only[NN,TD,ch,oT];exact⟨λ⟨⟨nx,h1,h2⟩,h3⟩=>⟨⟨nx,h1,h2.symm⟩,h3⟩,λ⟨⟨nx,h1,h2⟩,h3⟩=>⟨⟨nx,h1,h2.symm⟩,h3⟩⟩
 have memW:∀n,n∈S++GZ j++NN↔((∃nx,nx<nq/\ow n=g nx)/\ix n<=B)\/n∈GZ j:=λn=>by
  rw[bG,bG,memS,G0];constructor
  .rintro ((⟨⟨nx,hi,e⟩,N⟩|hn)|⟨⟨t,ht,e⟩,N⟩)
   .exact .inl ⟨⟨nx,by omega,by rw[glo nx hi];exact e⟩,N⟩
   .exact .inr hn
   .exact .inl ⟨⟨np+t,by omega,by rw[ghi _ (by omega),show np+t-np=t from by omega];exact e⟩,N⟩
  .rintro (⟨⟨nx,hi,e⟩,N⟩|hn)
   .by_cases hip:nx<np
    .exact .inl (.inl ⟨⟨nx,hip,by rw[<- glo nx hip];exact e⟩,N⟩)
    .exact .inr ⟨⟨nx-np,by omega,by rw[e,ghi nx (by omega)]⟩,N⟩
   .exact .inl (.inr hn)
 have gamS:∀n,ow n<np->ix n<=B->pI (io σ) n∈S:=λn hi N=>(memS _).2 ⟨⟨ow n,hi,xh _ _⟩,by rw[zG];exact N⟩
 have gamg:∀n,ow n<np->pI g n=pI (io σ) n:=λn hi=>by unfold pI;rw[glo _ hi]
 have ungam:∀(g:Nat->Nat) (n nx:Nat),ow n=g nx->n=pI g (jE nx (ix n)):=λg n nx e=>by rw[Cm,<-e,kO]
 have hOpT:gh P o (fG e h) (erHF h) ⟨EH (AV.renL (pI g) lr),S++GZ j,S++GZ j++NN,erHF h2,NN⟩:=by
  intro φ E h' w a hrd hwr hops hrep hN;have hS':∀n,n∈S->h' n=erHF h n:=λn hn=>hrd _ (ik _ hn)
  have hM':∀nx,aK j nx=J->h' (nm nx)=erHF h (nm nx):=λnx hi=>hrd _ (oV _ (mM.2 hi))
  obtain⟨us,hrun,hrel⟩:=hexec φ E h' w a hops hrep
  let Hv:HF:=λn=>if n∈S++GZ j then erHF hv n else h' n
  have Hv_in:∀n,n∈S++GZ j->Hv n=erHF hv n:=λn hn=>by simp only[Hv,hn,bk]
  have Hv_out:∀n,n∉S++GZ j->Hv n=h' n:=λn hn=>by simp only[Hv,hn,c7]
  have blkS:∀n,n∈S->∀z,erHF hv n=Z z->∃b0 c y0,h.get (ow n)=Z b0/\BM (io σ) h j b0 c/\NH h (ow n) (ix n) b0=Z y0/\NH hv (ow n) (ix n) c=Z z:=λn hn z hz=>by
   obtain⟨⟨nx,hi,e⟩,_⟩:=(memS n).1 hn;obtain⟨b,L⟩:=hl1 nx hi;obtain⟨b0,q1,q2⟩:=hbm nx b L;unfold erHF at hz;rw[e,hv_at nx b L]at hz;have hz:NH hv (io σ nx) (ix n) (kT (io σ) b)=Z z:=hz;rw[e];cases N:ix n with
   |zero=>
    rw[N]at hz;obtain⟨y0,hy0⟩:=BM.erB_some hinv q1 q2 hz;exact⟨b0,_,y0,q1,q2,hy0,hz⟩
   |succ k=>
    rw[N]at hz;exact⟨b0,_,z,q1,q2,(q2.mem _ _).trans hz,hz⟩
  have hd:rh h' Hv:=λn b L=>by
   by_cases hn:n∈S++GZ j
   .rw[Hv_in n hn]at L;rcases bG.1 hn with hs|hs
    .obtain⟨b0,c,y0,q1,_,q4,_⟩:=blkS n hs b L;exact⟨y0,by rw[hS' n hs];unfold erHF;rw[q1];exact q4⟩
    .obtain⟨nx,rfl,hi⟩:=pd.1 hs;rw[dead_m nx hi]at L;cases L
   .rw[Hv_out n hn]at L;exact⟨b,L⟩
  have gvv:Eo h h' Hv j:=λnx hi=>⟨hM' nx hi,by rw[Hv_in _ (oV _ (mM.2 hi)),dead_m nx hi]⟩
  have V:JQ h' Hv:=⟨hd,λn b b' L hb'=>by
   by_cases hn:n∈S++GZ j
   .rw[Hv_in n hn]at hb';rcases bG.1 hn with hs|hs
    .obtain⟨b0,c,y0,q1,q3,q4,q5⟩:=blkS n hs b' hb';rw[hS' n hs]at L;unfold erHF at L;rw[q1]at L;have L:NH h (ow n) (ix n) b0=Z b:=L;cases N:ix n with
     |zero=>rw[N]at L q5;exact BM.view hd gvv rows_in q3 L q5
     |succ k=>
      rw[N]at L q5;have:=(q3.mem (ow n) k).symm.trans L;have q5:ww (ow n) k c=Z b':=q5;rw[q5]at this;cases this;exact fH.refl hd _
    .obtain⟨nx,rfl,hi⟩:=pd.1 hs;rw[dead_m nx hi]at hb';cases hb'
   .rw[Hv_out n hn,L]at hb';cases hb';exact fH.refl hd b⟩
  have hrepv:=V.qn hrep;have hlpg:cP hv (ll (io σ) vs)=Z (AV.renL (pI (io σ)) lp):=qi rows_hp vs lp hlp;have hrel1:lP φ (tot E φ Hv) w (AV.renL (pI (io σ)) lp) us:=
   lP.le hrep (Fu hd rows_in c.pre.vs l x1 m1 _ la _ gv pvg hla hlpg (λnx hi=>gvv nx (by rw[hmm,bn,hi];rfl))) hrel
  let E':Nat->Prop:=λk=>E k\/∃n b,Hv n=Z b/\n∉S/\φ n=Z k
  have T:akt c.pre x vs hp (io σ) φ E E' Hv w:=by
   refine r_.toId I (λa b ha L=>inj1 a b (by rw[<- hnp];exact ha) (by rw[<- hnp];exact L)) hrepv (λn yb hn=>?_) ?_ ?_ ?_
   .obtain⟨hi,_⟩:=I.erHF hn;rw[hnp]at hi;have N:=(hB1 n yb hn).1;obtain⟨b,L,hyb⟩:=iO hn;rw[Hv_in _ (ik _ (gamS n hi (by omega)))];unfold erHF;rw[xh,zG,hv_at _ b ((I.at_ _ b).1 L)];exact Cn rows_hp hyb
   .rintro k (hE|⟨n,b,h1,_,h3⟩)
    .exact .inl hE
    .exact .inr ⟨n,b,h1,h3⟩
   .intro n0 k y0 hn0 h3 hE0;obtain⟨hi,_⟩:=I.erHF hn0;rw[hnp]at hi;have N:=(hB1 n0 y0 hn0).1;have h1:Hv (pI (io σ) n0)=Z (y0.qx (pI (io σ))):=by
     obtain⟨b,L,hyb⟩:=iO hn0;rw[Hv_in _ (ik _ (gamS n0 hi (by omega)))];unfold erHF;rw[xh,zG,hv_at _ b ((I.at_ _ b).1 L)];exact Cn rows_hp hyb
    rcases hE0 with hE|⟨n,b',h4,h5,h6⟩
    .obtain⟨k',p1,p2,_⟩:=hrepv.at_ _ _ h1;rw[h3]at p1;cases p1;exact p2 hE
    .have:=hrepv.inj _ _ _ _ k h1 h4 h3 h6;exact h5 (by rw[<- this];exact gamS n0 hi (by omega))
   .rintro k (hE|⟨n,b,h1,_,h3⟩)
    .exact hrepv.el k hE
    .obtain⟨k',q1,_,ob,q3,_⟩:=hrepv.at_ n b h1;rw[h3]at q1;cases q1;exact (cw.1 q3).1
  have hcalls:=sp.calls x y hm vs hp l1 rs hq l2 lp lr I D hlp hlr (φ1 (l! c.pre.bs) (io σ) φ) E' w us T.qn (lP.toId T.val (ta vs lp I.lt hlp) hrel1) (λn k N=>(yV N).1);unfold Oper.wp;rw[hrun];refine Calls.mono hcalls ?_;rintro en w' ⟨v,φc',rfl,hext,hown,hnm,rp,rv'⟩
  let isN:Nat->Prop:=λn=>n∈NN
  let φ':PM:=λn=>if n∈NN then φc' (jE (np+(ow n-i)) (ix n)) else φ n
  have φ'_old:∀n,n∉NN->φ' n=φ n:=λn hn=>by simp only[φ',hn,c7]
  have loN:∀n,ow n<i->n∉NN:=λn hi hn=>by
   obtain⟨⟨t,_,e⟩,_⟩:=(G0 _).1 hn;omega
  have φ'_g:∀n,ow n<nq->ix n<=B->φ' (pI g n)=φc' n:=λn hi N=>by
   by_cases hip:ow n<np
   .rw[gamg n hip,φ'_old _ (loN _ (by rw[xh];exact gnx _ hip)),hnm n (by rw[hnp];exact hip),adk (by rw[hnp];exact hip)]
   .have hg:=ghi (ow n) (by omega);have:pI g n∈NN:=(G0 _).2 ⟨⟨ow n-np,by omega,by rw[xh,hg]⟩,by rw[zG];exact N⟩;simp only[φ',this,bk,xh,zG,hg];rw[show np+(i+(ow n-np)-i)=ow n from by omega,kO]
  have hsub:∀n k,φ n=Z k->φ' n=Z k:=λn k N=>by
   by_cases hn:n∈NN
   .rw[hN n hn]at N;cases N
   .rw[φ'_old n hn];exact N
  let F:HF:=e_ h' (S++GZ j++NN) (erHF h2)
  have F_g:∀n,n∈S++GZ j++NN->F n=erHF h2 n:=λn hn=>by
   simp only[F,e_,hn,bk]
  have F_out:∀n,n∉S++GZ j++NN->F n=h' n:=λn hn=>by simp only[F,e_,hn,c7]
  have from_:∀n b,F n=Z b->(∃nx yb,ow nx<nq/\ix nx<=B/\n=pI g nx/\erHF hq nx=Z yb/\b=yb.qx (pI g))\/(h' n=Z b/\Hv n=Z b/\n∉S/\n∉NN/\φ' n=φ n):=λn b L=>by
   by_cases hn:n∈S++GZ j++NN
   .rcases (memW n).1 hn with ⟨⟨nx,hi,e⟩,N⟩|hs
    .rw[F_g n hn]at L;have e2:=ungam g n nx e;have ho:ow (jE nx (ix n))<nq:=by rw[iJ];exact hi
     obtain⟨yb,q1,q2⟩:=er2' (jE nx (ix n)) ho b (by rw[<- e2];exact L);exact .inl ⟨jE nx (ix n),yb,ho,by rw[vN];exact N,e2,q1,q2⟩
    .obtain⟨nx,rfl,hi⟩:=pd.1 hs;have:F (nm nx)=erHF h2 (nm nx):=by simp only[F,e_,hn,bk]
     rw[this,dead2 nx hi]at L;cases L
   .rw[F_out n hn]at L;have h1:n∉S++GZ j:=λhh=>hn (ik _ hh)
    have h3:n∉NN:=λhh=>hn (oV _ hh)
    exact .inr ⟨L,by rw[Hv_out n h1];exact L,λhh=>h1 (ik _ hh),h3,φ'_old n h3⟩
  have own':∀k,own φ' F k->own φc' (erHF hq) k\/∃n b,Hv n=Z b/\n∉S/\φ n=Z k:=by
   rintro k ⟨n,b,h1,h3⟩;rcases from_ n b h1 with ⟨nx,yb,hi,N,rfl,q1,_⟩|⟨_,q2,q3,_,q5⟩
   .rw[φ'_g nx hi N]at h3;exact .inl ⟨nx,yb,q1,h3⟩
   .exact .inr ⟨n,b,q2,q3,by rw[<- q5];exact h3⟩
  have mv:jZ φ φ' h' F w w':=by
   refine ⟨hsub,hext.mono λk N=>hd.own (T.qr k N),λk N ho=>?_⟩;rcases own' k ho with h1|⟨n,b,h1,_,h3⟩
   .exact hd.own (T.qr k (hown k N h1))
   .exact hd.own ⟨n,b,h1,h3⟩
  have tot':∀k,tot E φ' F k->tot E' φc' (erHF hq) k:=by
   rintro k (h1|h1)
   .exact .inl (.inl h1)
   .rcases own' k h1 with h3|h3
    .exact .inr h3
    .exact .inl (.inr h3)
  let φr:PM:=λn=>if Pe nq n&&Wy B n then φc' n else U
  have rel_r:∀x v,x.all (λn=>Pe nq n&&Wy B n)=J->cq φc' (tot E' φc' (erHF hq)) w' x v->cq φr (tot E φ' F) w' x v:=λx v hx hr=>
   hr.restrict (λnx k hi N=>by simp only[φr,hi,bk];exact N) tot' hx
  have rel_g:∀x v,cq φr (tot E φ' F) w' x v->cq φ' (tot E φ' F) w' (x.qx (pI g)) v:=λx v hr=>
   hr.renTo λn k N=>by
    simp only[φr]at N;split at N
    .rename_i hpn;simp only[ak]at hpn;rw[φ'_g n (EZ.1 hpn.1) (aU hpn.2)];exact N
    .cases N
  have hnqJ:=hnq;refine ⟨v,φ',rfl,mv,λn k N=>?_,?_,?_⟩
  .by_cases hn:n∈NN
   .exact .inr hn
   .rw[φ'_old n hn]at N;exact .inl N
  .refine ⟨λn n' b b' k h1 h3 h4 h5=>?_,λn b h1=>?_,λk N=>dw (hrep.el k N) mv.ext.size,λg' cells hg=>mv.keepF (hrep.gl g' cells hg)⟩
   .rcases from_ n b h1 with ⟨nx,yb,hi,hik,rfl,hqi,_⟩|⟨q1,q2,q3,_,q5⟩
    .rw[φ'_g nx hi hik]at h4;rcases from_ n' b' h3 with ⟨m,yj,hj,hjk,rfl,t1,_⟩|⟨t1,t2,t3,_,t5⟩
     .rw[φ'_g m hj hjk]at h5;rw[rp.inj _ _ _ _ k hqi t1 h4 h5]
     .exfalso;obtain⟨k',p1,p2,_⟩:=rp.at_ _ _ hqi;rw[h4]at p1;cases p1;exact p2 (.inr ⟨n',b',t2,t3,by rw[<- t5];exact h5⟩)
    .rcases from_ n' b' h3 with ⟨m,yj,hj,hjk,rfl,hqj,_⟩|⟨t1,t2,t3,_,t5⟩
     .exfalso;rw[φ'_g m hj hjk]at h5;obtain⟨k',p1,p2,_⟩:=rp.at_ _ _ hqj;rw[h5]at p1;cases p1;exact p2 (.inr ⟨n,b,q2,q3,by rw[<- q5];exact h4⟩)
     .exact hrep.inj n n' b b' k q1 t1 (by rw[<- q5];exact h4) (by rw[<- t5];exact h5)
   .rcases from_ n b h1 with ⟨nx,yb,hi,hik,rfl,hqi,rfl⟩|⟨q1,q2,q3,_,q5⟩
    .obtain⟨k,p1,p2,ob,p3,p4⟩:=rp.at_ _ _ hqi;have hall:=(D.erHF hqi).2;rw[hnq]at hall;have hall2:=BC.all_and hall (BC.all_ix (show B2<=B by omega) (hB2 nx yb hqi).2);exact⟨k,by rw[φ'_g nx hi hik];exact p1,λhE=>p2 (.inl hE),ob,p3,(p4.restrict rel_r hall2).renTo rel_g⟩
    .obtain⟨k,p1,p2,ob,p3,p4⟩:=hrep.at_ n b q1;have N:k<w.heap.size:=(cw.1 p3).1;refine ⟨k,hsub n k p1,p2,ob,?_,p4.mono λx v hr=>mv.zq hr⟩;rw[hext.jb k N ?_]
     .exact p3
     .rintro⟨n',y',t1,t2⟩;obtain⟨hi,t3⟩:=yV t2;rw[hnp]at hi;have hik:=(hB1 n' y' t1).1;have hvi:Hv (pI (io σ) n')=Z (y'.qx (pI (io σ))):=by
       obtain⟨bb,t4,t5⟩:=iO t1;rw[Hv_in _ (ik _ (gamS n' hi (by omega)))];unfold erHF;rw[xh,zG,hv_at _ bb ((I.at_ _ bb).1 t4)];exact Cn rows_hp t5
      have:=hrepv.inj _ _ _ _ k hvi q2 t3 p1;exact q3 (by rw[<- this];exact gamS n' hi (by omega))
  .have hall:(EH lr).all (λn=>Pe nq n&&Wy B n)=J:=AV.all_and _ (SE (by have:=ta rs lr D.lt hlr;rwa [hnq]at this)) (SE (AV.allL_ix (by omega) lr hB5));show cq φ' (tot E φ' F) w' (EH (AV.renL (pI g) lr)) v;rw[adt];exact rel_g _ _ (rel_r _ _ hall rv')
 have hrsg:cP h2 (ll g rs)=Z (AV.renL (pI g) lr):=qi rows_hq rs lr hlr;refine ⟨⟨_,hOpT,λz hz=>?_,?_,λn hn=>?_,λn hn=>?_,λn hn=>?_⟩,rows2,inv2,by omega,nofun⟩
 .rw[Y5 hrsg]at hz;cases hz;rfl
 .funext n;unfold e_;split
  .rfl
  .rename_i hn;by_cases hg:∃nx,nx<nq/\ow n=g nx
   .have hB:¬ix n<=B:=λN=>hn ((memW _).2 (.inl ⟨hg,N⟩))
    have n1:∀H:a_,(∀y,erHF H n=Z y->ix n<=B)->erHF H n=U:=λH hH=>by
     cases hx:erHF H n with
     |none=>rfl
     |some y=>exact co (hH y hx) hB
    rw[n1 h λy hy=>c8 (hB3 n y hy).1 (by omega),n1 h2 λy hy=>c8 (hB4 n y hy).1 (by omega)]
   .have hg2:=h2_ne (ow n) λnx hi e=>hg ⟨nx,hi,e⟩
    unfold erHF;rw[hg2,iM];split
    .rename_i L;obtain⟨ty,p,T,xs,hx⟩:=hmr _ L;rw[hx];cases N:ix n with
     |zero=>exact co ((memW _).2 (.inr (by rw[px N];exact mM.2 L))) hn
     |succ k=>rfl
    .cases hx:h.get (ow n) with
     |none=>rfl
     |some b=>exact (mm rows2 (λty l e=>hinv.C _ _ l (by rw[hx,e])) _ _).symm
 .rw[bn];rcases bG.1 hn with hs|hs
  .obtain⟨⟨nx,hi,e⟩,_⟩:=(memS n).1 hs;rw[(sig _).2 ⟨nx,hi,e.symm⟩];rfl
  .obtain⟨nx,rfl,hi⟩:=pd.1 hs;rw[dc,hi];simp
 .rw[bn,bn];rcases bG.1 hn with hs|hs
  .rcases bG.1 hs with hs|hs
   .obtain⟨⟨nx,hi,e⟩,_⟩:=(memS n).1 hs;rw[(sig _).2 ⟨nx,hi,e.symm⟩];rfl
   .obtain⟨nx,rfl,hi⟩:=pd.1 hs;rw[dc,hi];simp
  .obtain⟨⟨t,ht,e⟩,_⟩:=(G0 n).1 hs;rw[aj1.2 ⟨by omega,by omega⟩];simp
 .obtain⟨⟨t,ht,e⟩,_⟩:=(G0 n).1 hn;omega
def Ci {S:Ty} {xs:Y (BZ S)} (z:fA a (l! xs)=J):xs[a.toNat]? =Z (dU _ xs a):=by
 obtain⟨_,_,h⟩:=mQ z;unfold dU;rw[ax,aD h];rfl
def Tn {xss:Y (Y T.den)} (z:fA a (l! xss)=J):xss[a.toNat]? =Z (xK xss a):=by
 obtain⟨_,_,h⟩:=mQ z;unfold xK;rw[ax,aD h];rfl
def TW {z:η} (A:fA a (l! z)=J):z[a.toNat]? =Z (uk z a):=by
 obtain⟨_,_,h⟩:=mQ A;unfold uk;rw[ax,aD h];rfl
def CG (id:Nat) (S:Ty) (j:Int) (o:BZ S):Y AV:=(bN S o.1).map .f++[.mp (jE id (3*j.toNat+2)),.mp (jE id (3*j.toNat+3))]
def am3 {xs:Y (BZ T)} (A:h.get i=Z (.I (.ar z T) j xs)) {a:Int} (ty:fA a (l! xs)=J):erHF h (pL i a)=Z ⟨z,.mx (CG i T a (dU _ xs a))⟩:=by
 unfold pL;rw[kH,A];show oN i (3*a.toNat) z T xs=_;unfold oN;rw[show 3*a.toNat/3=a.toNat from by omega,Ci ty];simp only[bm,vX];rw[aC (by omega)];rfl
def am2 {xs:Y (BZ T)} (A:h.get i=Z (.I (.ar z T) j xs)) {a:Int} (ty:fA a (l! xs)=J) {b:Nat} (L:b<2):erHF h (jE i (3*a.toNat+2+b))=Z ⟨0,.mp (G1 (sA b (dU _ xs a)))⟩:=by
 rw[show 3*a.toNat+2+b=3*a.toNat+1+b+1 from by omega,kH,A];show oN i (3*a.toNat+1+b) z T xs=_;unfold oN;rw[show (3*a.toNat+1+b)/3=a.toNat from by omega,Ci ty];simp only[bm,vX];rw[av (by omega)];rcases bx b 1 with D|D
 .have:b=0:=by omega
  subst this;rw[aC (by omega)];rfl
 .have:b=1:=by omega
  subst this;rw[av (by omega)];rfl
def Zq {xss:Y (Y T.den)} (D:h.get i=Z (.I (.ir z T) j xss)) {a:Int} (A:fA a (l! xss)=J) (ty:l! (xK xss a)≠0):erHF h (jE i (a.toNat+1))=Z ⟨z,.fz ((xK xss a).flatMap (bN T))⟩:=by
 rw[kH,D];show pq a.toNat z T xss=_;unfold pq;rw[Tn A];simp only[aB,XR];rw[av (by simpa using ty)]
def xS (a sz:Nat):∀(z:η) (k j:Nat),(lQ a sz k z)[j]? =(z[j]?).map λl=>ue a (k+j) sz l.toNat
 |[],_,_|l::r,k,0=>by simp[lQ]
 |l::r,k,j+1=>by
  simp only[lQ,mG,xS a sz r (k+1) j];rw[show k+1+j=k+(j+1) from by omega]
abbrev i2:Y TypeDesc:=[.int .i64,.int .i64]
def Q5 {b:Int} (A:afc u=Z (a,b)) (L:b9 h u=Z y):Xo i2 y=Z [.int .i64 a,.int .i64 b]:=by
 unfold afc at A;split at A
 .cases A
 .split at A
  .rename_i D b' N;simp only[af,aG]at A;obtain⟨rfl,rfl⟩:=A;have h1:=(I6 N L).1;simp only[cP,b9,af]at h1;have z:y.cs=[.f (.raw (.int .i64 D)),.f (.raw (.int .i64 b'))]:=h1.symm;cases y with
   |agg l=>
    have z:l=[.f (.raw (.int .i64 D)),.f (.raw (.int .i64 b'))]:=z;subst z;rfl
   |f x=>
    cases x with
    |agg l=>
     have z:l.map AV.f=[.f (.raw (.int .i64 D)),.f (.raw (.int .i64 b'))]:=z;cases l with
     |nil=>cases z
     |cons v l=>
      cases l with
      |nil=>cases z
      |cons w l=>
       cases l with
       |nil=>cases z;rfl
       |cons _ _=>cases z
    |_=>cases z
   |_=>cases z
  .cases A
def DF (k z:ν):C5 i2 [.int .i64 k.1,.int .i64 k.2] (aap z)=Z (N7 k z):=by
 unfold C5 aap N7;simp only[bZ,wJ,jM,vY,cm,bk];have A:(k.1==z.1)=decide (k.1=z.1):=rfl;have e2:(k.2==z.2)=decide (k.2=z.2):=rfl;rw[A,e2];cases decide (k.1=z.1)<;>cases decide (k.2=z.2)<;>rfl
def S9 (a:Nat) (k:ν):∀es:Y e!,H7 i2 [.int .i64 k.1,.int .i64 k.2] (wA a es)=Z (match uf k es with|true=>Z (.H (pL a (fm k es)) 0)|false=>U)
 |[]=>rfl
 |e::r=>by
  have z:=S9 a k r;unfold wA at z ⊢;simp only[bZ,H7,DF,uf,fm];cases A:N7 k e.1 with
  |true=>rfl
  |false=>simp only[EC];exact z
def Y3 (a:Nat) (k:ν):∀es:Y e!,W1 i2 [.int .i64 k.1,.int .i64 k.2] (wA a es)=Z (wA a (Bb k es))
 |[]=>rfl
 |e::r=>by
  have z:=Y3 a k r;unfold wA at z ⊢;simp only[bZ,W1,DF,Bb];cases A:N7 k e.1 with
  |true=>rfl
  |false=>simp only[z];rfl
def Kg {k z:ν}:N7 k z=J↔k=z:=by
 unfold N7;rw[ak,bR,bR];exact⟨λh=>oS h.1 h.2,λh=>by rw[h];exact⟨rfl,rfl⟩⟩
def Y2 (a:Nat) (k:ν) (v:AV):∀es:Y e!,WZ i2 [.int .i64 k.1,.int .i64 k.2] v (wA a es)=Z (Mg a k v es)
 |[]=>rfl
 |e::r=>by
  have A:=Y2 a k v r;unfold wA at A ⊢;simp only[bZ,WZ,DF,Mg];cases z:N7 k e.1 with
  |true=>rw[aC (Kg.1 z)];rfl
  |false=>rw[av (λh=>by rw[Kg.2 h]at z;cases z)];simp only[A]
section ops
variable {R:Type} {P:Program} {cg:TypeId->M Ty} {o:Oper} {e:hX} {h:a_} {nx:Nat} {K:KO R} {r:R} (hinv:gW h nx) (hi:su e h)
include hinv hi
def aq3 {st:Bool} (L:cZ P o.op=Z (.zl b s)) (A:pG cg e h nx K (.zl b s)=Z r):iT P o st e h nx K r:=by
 simp only[pG]at A;split at A
 .rename_i D;obtain⟨y,h1,z⟩:=ba hi D;simp only[b9,JB,af]at z;subst z;exact iT.q (k:=0) hinv L (λH _=>by simp only[dx,h1];rfl) (cU rfl) A
 .rename_i D;obtain⟨y,h1,z⟩:=ba hi D;simp only[b9,af]at z;subst z;exact iT.q (k:=0) hinv L (λH _=>by simp only[dx,h1];rfl) (cU rfl) A
 .rename_i D;obtain⟨y,h1,z⟩:=ba hi D;simp only[b9,af]at z;subst z;exact iT.q (k:=0) hinv L (λH _=>by simp only[dx,h1];rfl) (cU rfl) A
 .cases A
def aq0 {st:Bool} (N:cZ P o.op=Z (.zh s)) (D:pG cg e h nx K (.zh s)=Z r):iT P o st e h nx K r:=by
 simp only[pG]at D;split at D
 .rename_i L;obtain⟨y,h1,A⟩:=ba hi L;have z:=A;simp only[b9,JB,af]at A;subst A;exact iT.q (k:=0) hinv N (λH _=>by simp only[dx,h1]) (cU z) D
 .rename_i L;obtain⟨y,h1,A⟩:=ba hi L;have z:=A;simp only[b9,JB,af]at A;subst A;exact iT.q (k:=0) hinv N (λH _=>by simp only[dx,h1]) (cU z) D
 .cases D
def ato {st:Bool} (L:cZ P o.op=Z (.jf i s)) (z:pG cg e h nx K (.jf i s)=Z r):iT P o st e h nx K r:=by
 simp only[pG]at z;split at z
 .rename_i D;obtain⟨y,h1,A⟩:=ba hi D;simp only[b9,JB,af]at A;subst A;exact iT.q (k:=0) hinv L (λH _=>by simp only[dx,h1,JB]) (cU rfl) z
 .rename_i D;obtain⟨y,h1,A⟩:=ba hi D;simp only[b9,JB,af]at A;subst A;exact iT.q (k:=0) hinv L (λH _=>by simp only[dx,h1,JB,qP]) (cU rfl) z
 .cases z
def aq2 (hc:cZ P o.op=Z (.load i b s)) (A:pG cg e h nx K (.load i b s)=Z r):iT P o aa e h nx K r:=by
 obtain⟨H,N⟩:=gC h;simp only[pG]at A;split at A
 .rename_i id j off hv;obtain⟨y,h1,h2⟩:=ba hi hv;simp only[b9,JB,af]at h2;subst h2;split at A
  .rename_i ty S a xs hb;have L:=cL A;clear A;obtain⟨hj,A⟩:=L;have hg:H.get (pL id j)=Z ⟨ty,.mx (CG id S j (dU S xs j))⟩:=by rw[N];exact am3 hb hj
   have hrd:∀n∈[pL id j],aK (gf id) (ow n)=J:=λn hn=>by
    simp only[aE]at hn;subst hn;unfold pL;rw[iJ];exact bu.2 rfl
   split at A
   .cases A
   .rename_i hag;have hag:b=aa:=by simpa using hag
    subst hag;have sub1:∀y,(CG id S j (dU S xs j))[off]? =Z y->(BC.mx (CG id S j (dU S xs j))).sub? off 1 aa=Z y:=λy hy=>hy
    split at A
    .rename_i ho;split at A
     .rename_i v hv2;obtain⟨p1,z,p2,p3,_⟩:=tO h 40 S _ off i aa v hv2;obtain⟨rfl,p5⟩:=p3 rfl;have D:=sub1 (.f z) (by
       unfold CG;rw[bj (by rw[bH];exact (bi.1 p5).1),aT,p5];rfl)
      exact⟨_,_,_,_,_,A,eT.pure (k:=0) hinv hc N (y0:=.f z) (rdl:=[pL id j]) (by simp only[dx,h1,xa,hg,D]) (cU p2) hrd nofun⟩
     .cases A
    .rename_i ho;split at A
     .rename_i hq;simp only[ak]at hq;have q1:=au hq.1;have q2:=aU hq.2;subst q1;have ho:S.size<=off:=by
       rcases bx off S.size with h3|h3
       .exact co (aW h3) ho
       .exact h3
      have D:=sub1 (.mp (jE id (3*j.toNat+2+(off-S.size)))) (by
       unfold CG;rw[bO (by rw[bH,bw];exact ho),bH,bw];rcases bx (off-S.size) 1 with h3|h3
       .rw[show off-S.size=0 from by omega];rfl
       .rw[show off-S.size=1 from by omega];rfl)
      exact⟨_,_,_,_,_,A,eT.pure (k:=0) hinv hc N (y0:=.mp (jE id (3*j.toNat+2+(off-S.size)))) (rdl:=[pL id j]) (by simp only[dx,h1,xa,hg,D]) (cU rfl) hrd nofun⟩
     .cases A
  .cases A
 .rename_i id j x sz off hv;obtain⟨y,h1,h2⟩:=ba hi hv;simp only[b9,JB,af]at h2;subst h2;split at A
  .rename_i ty T a xss hb;split at A
   .rename_i D;have D:=au D;subst D;obtain⟨hj,A⟩:=cL A;obtain⟨hji,A⟩:=cL A;split at A
    .rename_i v hv2;obtain⟨z,p1,p2⟩:=adz hji hv2;have hne:l! (xK (T:=T) xss j)≠0:=by have:=(mQ hji).2.2;omega
     have hg:H.get (jE id (j.toNat+1))=Z ⟨ty,.fz ((xK (T:=T) xss j).flatMap (bN T))⟩:=by rw[N];exact Zq hb hj hne
     exact⟨_,_,_,_,_,A,eT.pure (k:=0) hinv hc N (y0:=.f z) (rdl:=[jE id (j.toNat+1)]) (by simp only[dx,h1,xa,hg,p2]) (cU p1) (λn hn=>by
      simp only[aE]at hn;subst hn;rw[iJ];exact bu.2 rfl) nofun⟩
    .cases A
   .cases A
  .cases A
 .rename_i id x j off hv;obtain⟨y,h1,h2⟩:=ba hi hv;simp only[b9,af]at h2;subst h2;split at A
  .rename_i hq;simp only[ak,cV]at hq;obtain⟨⟨q1,q2⟩,q3,q4⟩:=hq;have q1:=au q1;have q3:=au q3;have q4:=au q4;subst q1 q2 q3 q4;have hrd:∀n∈[nm id],aK (gf id) (ow n)=J:=λn hn=>by
    simp only[aE]at hn;subst hn;rw[dc];exact bu.2 rfl
   split at A
   .rename_i ty a js hb;have L:=cL A;clear A;obtain⟨hj,A⟩:=L;have hlen:ah (α:=Int) js≠0:=by have:=(mQ hj).2.2;omega
    have hg:H.get (nm id)=Z ⟨ty,.mx (fP (λj=>.H (pL a j) 0) js)⟩:=by
     rw[N,bL,hb];simp only[aB,jR,sq];rw[av (by simpa using hlen)]
    have D:(BC.mx (fP (λj=>AV.H (pL a j) 0) js)).sub? (j.toNat*1+0) 1 aa=Z (.H (pL a (uk js j)) 0):=by
     simp only[BC.sub?,BC.get,Gx,cX];exact (aT (f:=λj:Int=>AV.H (pL a j) 0) (l:=js) (i:=j.toNat)).trans (dT (ii λj=>AV.H (pL a j) 0) (TW hj))
    exact⟨_,_,_,_,_,A,eT.pure (k:=0) hinv hc N (y0:=.H (pL a (uk js j)) 0) (rdl:=[nm id]) (by simp only[dx,h1,xa,hg,D]) (cU rfl) hrd nofun⟩
   .rename_i ty z a ls hb;have L:=cL A;clear A;obtain⟨hj,A⟩:=L;have hg:H.get (nm id)=Z ⟨ty,.mx (lQ a z 0 ls)⟩:=by
     rw[N,bL,hb];rfl
    have D:(BC.mx (lQ a z 0 ls)).sub? (j.toNat*1+0) 1 aa=Z (ue a j.toNat z (uk ls j).toNat):=by
     simp only[BC.sub?,BC.get,Gx,cX];have:=xS a z ls 0 j.toNat;rw[bF]at this;refine this.trans ?_;exact dT (ii λl:Int=>ue a j.toNat z l.toNat) (TW hj)
    exact⟨_,_,_,_,_,A,eT.pure (k:=0) hinv hc N (y0:=ue a j.toNat z (uk ls j).toNat) (rdl:=[nm id]) (by simp only[dx,h1,xa,hg,D]) (cU rfl) hrd nofun⟩
   .cases A
  .cases A
 .cases A
def atn {sz:Operand} {st:Bool} (hc:cZ P o.op=Z (.jg i s sz)) (z:pG cg e h nx K (.jg i s sz)=Z r):iT P o st e h nx K r:=by
 simp only[pG]at z;split at z
 .rename_i id k j hv L;split at z
  .rename_i p x n hr;split at z
   .rename_i D;simp only[ak]at D;have D:=au D.1;obtain⟨A,z⟩:=cL z;obtain⟨y,h1,h2⟩:=ba hi hv;obtain⟨y2,h3,h4⟩:=ba hi L;simp only[b9,af]at h4;subst h4;obtain⟨j0,j1,j2⟩:=mQ A;have hne:¬((p&&n==0)=J):=by
     simp only[ak,cG];omega
    simp only[b9,hr,dm,av hne,af]at h2;subst h2;have N:(x==i&&dg 0 j&&fQ j n)=J:=by
     simp only[fA,ak]at A;simp[D,A.1,A.2]
    exact iT.q (k:=0) hinv hc (λH _=>by simp only[dx,h1,h3,fS,N,bk,cX]) (cU rfl) z
   .cases z
  .cases z
 .rename_i id j x n k i' hv L;split at z
  .rename_i D;have D:=au D;obtain⟨A,z⟩:=cL z;obtain⟨y,h1,h2⟩:=ba hi hv;obtain⟨y2,h3,h4⟩:=ba hi L;simp only[b9,af]at h4;subst h4;obtain⟨j0,j1,j2⟩:=mQ A;have hne:¬((n==0)=J):=by
    simp only[cG];omega
   simp only[b9,JB,ue,av hne,af]at h2;subst h2;have N:(x==i&&dg 0 i'&&fQ i' n)=J:=by
    simp only[fA,ak]at A;simp[D,A.1,A.2]
   exact iT.q (k:=0) hinv hc (λH _=>by simp only[dx,h1,h3,fS,N,bk,JB,cX]) (cU rfl) z
  .cases z
 .cases z
def atl {ok:Bool} {k:Operand} (hc:cZ P o.op=Z (.jk b ok v s k)) (A:pG cg e h nx K (.jk b ok v s k)=Z r):iT P o aa e h nx K r:=by
 obtain⟨H,hH⟩:=gC h;simp only[pG]at A;split at A
 .rename_i id j str D hv N;split at A
  .rename_i ty S a xs zb hb;split at A
   .rename_i hq;simp only[ak,cV]at hq;obtain⟨q1,L⟩:=hq;subst q1;have L:=aU L;have hk0:=cL A;clear A;obtain⟨hj,A⟩:=hk0;obtain⟨y,h1,h2⟩:=ba hi hv;obtain⟨y2,h3,h4⟩:=ba hi N;simp only[b9,JB,af]at h2 h4;subst h2 h4;generalize hm:sA str (dU S xs j)=m at A;have hg:H.get (jE id (3*j.toNat+2+str))=Z ⟨0,.mp (G1 m)⟩:=by rw[hH,<-hm];exact am2 hb hj L
    have hf:s_ (.int .i64 D) (G1 m)=Z ((If (K:=.int .i64) (V:=.bool) D m).map λz=>.f (.raw (.bool z))):=Lf (str:=aa) (K:=.int .i64) (V:=.bool) rfl D m;have henc:fS (.int .i64) D= .raw (.int .i64 D):=rfl;rw[henc]at h3;refine ⟨_,_,_,_,_,A,eT.pure (k:=0) hinv hc hH (y0:=pkV ok (.f (.raw (.bool (Ai (K:=.int .i64) (V:=.bool) D m zb)))) (aam (K:=.int .i64) (V:=.bool) D m)) (rdl:=[jE id (3*j.toNat+2+str)]) ?_ (λy hy=>by rw[aem (y:=.f (.raw (.bool (Ai (K:=.int .i64) (V:=.bool) D m zb)))) rfl]at hy;cases hy;exact Le.refl _) (λn hn=>by
     simp only[aE]at hn;subst hn;rw[iJ];exact bu.2 rfl) nofun⟩
    simp only[dx,h1,h3,hg,yf,bk,hf];unfold Ai aam;cases hfm:If (K:=.int .i64) (V:=.bool) D m with
    |_=>rfl
   .cases A
  .cases A
 .cases A
def atm {k:Operand} (hc:cZ P o.op=Z (.xz i2 v s k)) (A:pG cg e h nx K (.xz i2 v s k)=Z r):iT P o aa e h nx K r:=by
 obtain⟨H,N⟩:=gC h;simp only[pG]at A;split at A
 .rename_i id kv hv hkv;obtain⟨tk,D,hkk⟩:=bind_some hkv;obtain⟨ka,kb⟩:=kv;split at A
  .rename_i a es hb;obtain⟨y,h1,h2⟩:=ba hi hv;obtain⟨y2,h3,h4⟩:=ba hi D;simp only[b9,af]at h2;subst h2;have hq:=Q5 hkk h4;have hg:H.get (nm id)=Z ⟨0,.mp (wA a es)⟩:=by rw[N,bL,hb];rfl
   have hf:=S9 a (ka,kb) es;have hrd:∀n∈[nm id],aK (gf id) (ow n)=J:=λn hn=>by
    simp only[aE]at hn;subst hn;rw[dc];exact bu.2 rfl
   rcases lN A with ⟨hh,A⟩|⟨hh,A⟩
   .rw[hh]at hf;exact⟨_,_,_,_,_,A,eT.pure (k:=0) hinv hc N (y0:=.H (pL a (fm (ka,kb) es)) 0) (rdl:=[nm id]) (by simp only[dx,h1,h3,aB,hq,hg,hf]) (cU rfl) hrd nofun⟩
   .rw[hh]at hf;exact⟨_,_,_,_,_,A,eT.pure (k:=0) hinv hc N (y0:=raw (.pointer U)) (rdl:=[nm id]) (by simp only[dx,h1,h3,aB,hq,hg,hf]) (cU rfl) hrd nofun⟩
  .cases A
 .cases A
def atp {k:Operand} (hc:cZ P o.op=Z (.xx i2 s k)) (z:pG cg e h nx K (.xx i2 s k)=Z r):iT P o aa e h nx K r:=by
 obtain⟨H,hH⟩:=gC h;simp only[pG]at z;split at z
 .rename_i id kv hv hkv;obtain⟨tk,A,hkk⟩:=bind_some hkv;obtain⟨N,L⟩:=kv;split at z
  .rename_i a es hb;obtain⟨y,h1,h2⟩:=ba hi hv;obtain⟨y2,h3,h4⟩:=ba hi A;simp only[b9,af]at h2;subst h2;have hq:=Q5 hkk h4;have hg:H.get (nm id)=Z ⟨0,.mp (wA a es)⟩:=by rw[hH,bL,hb];rfl
   have hf:=Y3 a (N,L) es;have hrd:∀n∈[nm id],aK (gf id) (ow n)=J:=λn hn=>by
    simp only[aE]at hn;subst hn;rw[dc];exact bu.2 rfl
   refine ⟨_,_,_,_,_,z,eT.wrt (m:=0) (v:=.qg []) (rd:=gf id) (k:=0) (y0:=.qg []) (rdl:=[nm id]) (b0:=⟨0,.mp (wA a (Bb (N,L) es))⟩) hinv hc hH (by simp only[dx,h1,h3,aB,hq,hg,hf]) hb (dE.zero h) (by simp) rfl (λ_ _ he=>by cases he) (λH1 H2 d g b' D=>?_) (λH1 H2 y d g hy=>?_) hrd⟩
   .cases D;exact fH.refl d _
   .simp only[b9,cP,af]at hy;subst hy;exact kl.refl d _
  .cases z
 .cases z
def atk {k v:Operand} (hc:cZ P o.op=Z (.xq i2 s k v)) (z:pG cg e h nx K (.xq i2 s k v)=Z r):iT P o aa e h nx K r:=by
 obtain⟨H,hH⟩:=gC h;simp only[pG]at z;split at z
 .rename_i id kv p hv hkv hvp;obtain⟨tk,A,hkk⟩:=bind_some hkv;obtain⟨N,L⟩:=kv;split at z
  .rename_i a es hb;obtain⟨y,h1,h2⟩:=ba hi hv;obtain⟨y2,h3,h4⟩:=ba hi A;obtain⟨y3,h5,h6⟩:=ba hi hvp;simp only[b9,af]at h2 h6;subst h2 h6;have hq:=Q5 hkk h4;have hg:H.get (nm id)=Z ⟨0,.mp (wA a es)⟩:=by rw[hH,bL,hb];rfl
   have hf:=Y2 a (N,L) (.H (nm p) 0) es;have hrd:∀n∈[nm id],aK (gf id) (ow n)=J:=λn hn=>by
    simp only[aE]at hn;subst hn;rw[dc];exact bu.2 rfl
   refine ⟨_,_,_,_,_,z,eT.wrt (m:=0) (v:=.undef) (rd:=gf id) (k:=0) (y0:=raw undef) (rdl:=[nm id]) (b0:=⟨0,.mp (Mg a (N,L) (.H (nm p) 0) es)⟩) hinv hc hH (by simp only[dx,h1,h3,h5,aB,hq,hg,hf]) hb (dE.zero h) (by simp) rfl (λ_ _ he=>by cases he) (λH1 H2 d g b' D=>?_) (λH1 H2 y d g hy=>?_) hrd⟩
   .cases D;exact fH.refl d _
   .simp only[b9,af]at hy;subst hy;exact kl.refl d _
  .cases z
 .cases z
end ops
def eT.wrtM {e:hX} {s:OT} (hinv:gW h i) (hc:cZ P d.op=Z s) {H:mY} (hH:H.get=erHF h) {km:Nat} {y0:AV} {rdl:ι} {b0:kc} {k:Nat} (ha:dx s (CU e h) H k=Z ⟨y0,rdl,[jE j (km+1)],[(jE j (km+1),b0)],[]⟩) {N B:eP} (D:h.get j=Z N) {v:TV} {rd:Nat}
 (hrow:iG B=iG N) (hB:∀ty l,B≠ .C ty l) (hB0:∀ty l,N≠ .C ty l) (hanc:∀h2,jR h2 B=jR h N) (hoth:∀k',k'≠km->ww j k' B=ww j k' N)
 (hblk:∀A z,rh A z->∀b',ww j km B=Z b'->fH A z b0 b')
 (hval:∀A z y,rh A z->b9 (h.set j (Z B)) v=Z y->kl A z y0 y)
 (hrd:∀n∈rdl,aK rd (ow n)=J):eT P d aa e h i v rd (0|||gf j) (h.set j (Z B)) i:=by
 have L:b7 h (h.set j (Z B)):=b7.set λr L=>by rw[bC,D]at L;rw[hrow];exact L
 refine eT.mk' hc hH ha [jE j (km+1)] (λnx hi=>hi) (λn hn=>?_) (λnx hi b' hb'=>⟨b0,by rw[aC hi];simp only[aE]at hi;subst hi;exact eR _ _⟩) (λA z o hw1 _ hw2=>⟨λnx hi b b' hb hb2=>?_,λy hy=>hval A z y o hy⟩) hrd (λn hn=>?_) (by simp) L (hinv.set L (hinv.low j N D) (bV _) λty l he=>co he (hB ty l)) (bV _)
 .by_cases ho:ow n=j
  .unfold erHF;rw[ho,PT.get_set,aC rfl,D];simp only[aB];cases hk:ix n with
   |zero=>exact hanc _
   |succ k'=>
    refine hoth k' λe=>hn ?_
    rw[<- kO n,ho,hk,e];simp
  .unfold erHF;rw[PT.get_set,av ho];cases hx:h.get (ow n) with
   |none=>rfl
   |some b=>exact mm L (λty l e=>hinv.C _ _ l (by rw[hx,e])) _ _
 .simp only[aE]at hi;subst hi;rw[hw1 _ (by simp),eR]at hb;rw[hw2 _ (by simp),kH,PT.get_set,aC rfl]at hb2;cases hb;exact hblk A z o b' hb2
 .simp only[aE]at hn;subst hn;rw[iJ,wh];exact bu.2 rfl
end
end Go.Proofs.YtcmnmakaoonfgaaGreatDoor.AI
