/-
  Texts of the proof, part 2 of 6: what is used to prove the statement. No condition.
-/
import Derived.Test.YtlmflgjjamepmaaGreatDoorSearchEnoughQ0
import Derived.Defers
namespace Go.Proofs.YtlmflgjjamepmaaGreatDoor.AI
open Go.RowKit
set_option maxRecDepth 100000
set_option maxHeartbeats 4000000
set_option linter.unusedVariables false
set_option linter.unusedSimpArgs false
set_option linter.defProp false
open _root_.Array renaming replicate→lZ,mapM_eq_mapM_toList→NC
open _root_.Bool renaming true→J,false→aa,not_eq_true→mP
open Call renaming operands→c9
open Deferred renaming ofValue→vu
open ForInStep renaming yield→F_
open Instr renaming findAsking→c7,findNow→iL,sameBits→lB,checkKey→lC,findKey→xm
open _root_.Int renaming toNat→aS,ofNat→bC
open _root_.List renaming length→l!,length→ah,replicate→aP,length_cons→bX,take→ca,length_nil→em,cons_append→fG,map→gD,drop→gL,nil_append→gW,toArray→iO,map_nil→kV,range→lY,replicate_succ→mh,map_drop→sW,take_succ_cons→wd,flatMap_append→wg,ext_getElem?→O4
open _root_.Nat renaming beq→ay,testBit→aC,blt→db,ble→dc,add_zero→dQ,min→kU,mul_one→yQ,one_shiftLeft→AS,testBit_two_pow→HM
open Oper renaming wp→vp
open _root_.Option renaming some→Z,none→U,bind_some→aB,map_some→bw,map→gS
open Region renaming wanted→iJ
open Result renaming andThen_ok→cJ
open Sem renaming run_bind→ec,run→jZ,run_pure→mB
open _root_.UInt8 renaming ofNat→O2
open Value.bool renaming injEq→C7
open World renaming cell?→O1
noncomputable section
section
variable {P:Program} {o:Oper} {e:ve} {h:gy} {nx:Nat} {R:yf}
def E8:∀{l:Y FV} {vs:ξ},Gj l=Z vs->l=vs.map .raw
 |[],vs,h=>by simp[Gj,af]at h;subst h;rfl
 |x::r,vs,h=>by
  cases x with
  |raw v=>
   simp[Gj]at h;split at h
   next l c=>simp[af]at h;subst h;rw[b5,<-E8 c]
   .cases h
  |_=>simp[Gj]at h
variable {O:Nat->Prop} {w:World} {v:Value}
def acy {u:Value} (h:lX O w (.raw v) u):u=v:=by cases h;rfl
variable {A:ξ}
def RP {vs:ξ} (D:l! vs=l! A) (c:∀(j:Nat) x v,(A.map FV.raw)[j]? =Z x->vs[j]? =Z v->lX O w x v):vs=A:=by
 apply O4;intro j;rcases bZ j (l! A) with q|q
 .have h1:(A.map FV.raw)[j]? =Z (.raw A[j]):=by simp[q]
  have z:vs[j]? =Z (vs[j]'(by omega)):=aH (by omega);have:=c j _ _ h1 z;rw[z,aH q,acy this]
 .grind
variable {y:AV} {V:PM}
def JX (c:ZO y=Z A) (z:cm V O w y v):v= .agg A.toArray:=by
 cases z with
 |f z=>
  cases z with
  |agg cells vs D hcl hrr=>
   have:=E8 (show Gj cells=Z A from c);subst this;rw[RP (by grind) hrr]
  |_=>simp[ZO]at c
 |@agg cells vs D hcl hrr=>
  simp[ZO]at c;split at c
  .rename_i I hfs;have:=E8 c;have:=mz hfs;have key:vs=A:=RP (O:=O) (w:=w) (by grind) λj x u F q=>by
    have:=hrr j (.f x) u (by grind) q;cases this with
    |f h=>exact h
   rw[key]
  .cases c
 |_=>simp[ZO]at c
structure Co (P:Program) (kt:TypeId) (fs:Array Field) (ds:List TypeDesc):Prop where
 hu:P.underlying kt=Z (.struct fs)
 hs:P.stoodInHeld kt=aa
 hp:kX P 0 fs.toList=Z ds
variable {s:TypeId} {K:Y TypeDesc}
def Fc (h:CC P s=Z K):∃c,Co P s c K:=by
 unfold CC at h;split at h
 .rename_i c z;split at h
  .cases h
  next hst=>exact⟨c,z,by simpa using hst,h⟩
 .cases h
variable {I:Array Field} {b:Bool}
def qi (ds:Co P s I K) {q:Value} (c:BI K A q=Z b) (w:World):(Op.equal s (.agg A.toArray) q).run P w= .ok b w:=by
 unfold BI at c;split at c
 .rename_i D;refine Og ds.hu ds.hs ds.hp A.toArray D (λj x u F hu=>?_) (λj x u F hu=>?_) (by simp) (by simp) c w
  .grind
  .grind
 .cases c
abbrev af9 (c:Bool) (n:Nat) (cs:Array Value) (f:Field) (_:Unit):Sem (ForInStep Unit):=
 if f.name≠ "_" then do
  let a←part f.type cs f.offset
  lC c (n+1) f.type a
  pure (F_ ())
 else pure (F_ ())
def OH (z:Bool) (n:Nat) (w:World) (cs:Array Value):∀(c:Y Field) (ds:Y TypeDesc) (k:Nat),kX P k c=Z ds->k+l! c<=cs.size->
 (forIn c () (af9 z n cs)).run P w= .ok () w
 |[],ds,k,hp,_=>by simp
 |f::c,ds,k,hp,F=>by
  simp only[kX]at hp;split at hp
  .rename_i d ds' A q;split at hp
   .rename_i D;simp[al,bne_iff_ne,ne_eq,cV]at D;let⟨⟨N,hof⟩,hd⟩:=D;simp[bX]at F;have p1:=Js A (by cases d<;>simp[CD]at hd<;>rfl) cs k (cs[k]'(by omega)) (by simp) w;have p2:(lC z (n+1) f.type (cs[k]'(by omega))).run P w= .ok () w:=by
     cases d<;>simp[CD]at hd<;>simp[lC,run_underlying A]
    have I:=OH z n w cs c ds' (k+1) q (by omega);simp_all
   .cases hp
  .cases hp
def XE (ds:Co P s I K) (q:Bool) {cs:Array Value} (A:l! I.toList<=cs.size) (w:World):(lC q 10000 s (.agg cs)).run P w= .ok () w:=by
 have key:∀n,(lC q (n+2) s (.agg cs)).run P w= .ok () w:=by
  intro n;rw[lC];have h1:=OH (P:=P) q n w cs I.toList K 0 ds.hp (by omega);rw[Array.forIn_toList]at h1;simp[ec,run_underlying ds.hu,cJ];have D:(forIn I () λf z=>af9 q n cs f z).run P w= .ok () w:=h1;simp_all
 exact key 9998
variable {i:Nat}
def Kx {m:MapEntry} {r:Y MapEntry} :iL (.struct I) v (m::r) i=U:=by
 simp[iL];have:Instr.sameNow (.struct I) v m.key=U:=by rfl
 rw[this]
def Ai (ds:Co P s I K) (k:Value) (ents:Y MapEntry) (w:World):(xm s k ents).run P w=(c7 s k ents).run P w:=by
 cases ents with
 |nil=>simp[xm,run_underlying ds.hu,iL,c7]
 |cons m r=>simp[xm,run_underlying ds.hu,Kx]
def Tl (ds:Co P s I K) (w:World):∀(es:Y k?) (ents:Y MapEntry) (i:Nat),ents.map (·.key)=es.map (·.1)->∀r,Gh K A es=Z r->
 (r=U/\(c7 s (.agg A.toArray) ents i).run P w= .ok U w)\/∃(j:Nat) (v:AV) (m:MapEntry) (D:Value),r=Z v/\es[j]? =Z (D,v)/\ents[j]? =Z m/\(c7 s (.agg A.toArray) ents i).run P w= .ok (Z (i+j,m.val)) w
 |[],ents,i,he,r,h=>by
  cases ents with
  |nil=>simp[Gh,af]at h;exact .inl ⟨h.symm,by simp[c7]⟩
  |cons _ _=>simp at he
 |(D,v)::es,ents,i,he,r,h=>by
  cases ents with
  |nil=>simp at he
  |cons m ents=>
   simp[b5,eF]at he;let⟨c,F⟩:=he;simp[Gh]at h;split at h
   next q=>simp[af]at h;refine .inr ⟨0,v,m,D,h.symm,rfl,rfl,?_⟩;rw[c7,c];simp[qi ds q w]
   .rename_i q;rcases Tl ds w es ents (i+1) F r h with ⟨h1,fs⟩|⟨j,N,m',k'',h1,fs,h3,h4⟩
    .refine .inl ⟨h1,?_⟩;rw[c7,c];simp[qi ds q w,fs]
    .refine .inr ⟨j+1,N,m',k'',h1,by simpa using fs,by simpa using h3,?_⟩;rw[c7,c];simp[qi ds q w,h4];omega
   .cases h
def RD (ds:Co P s I K) (w:World):∀(es es':Y k?) (ents:Y MapEntry) (i:Nat),ents.map (·.key)=es.map (·.1)->VW K A y es=Z es'->
 ((c7 s (.agg A.toArray) ents i).run P w= .ok U w/\es'=es++[(.agg A.toArray,y)])\/∃(j:Nat) (m:MapEntry) (q:Value) (D:AV),es[j]? =Z (q,D)/\ents[j]? =Z m/\(c7 s (.agg A.toArray) ents i).run P w= .ok (Z (i+j,m.val)) w/\BI K A q=Z J/\es'=es.set j (.agg A.toArray,y)
 |[],es',ents,i,he,h=>by
  cases ents with
  |nil=>simp[VW,af]at h;exact .inl ⟨by simp[c7],by simp[h]⟩
  |cons _ _=>simp at he
 |(q,D)::es,es',ents,i,he,h=>by
  cases ents with
  |nil=>simp at he
  |cons m ents=>
   simp[b5,eF]at he;let⟨c,fs⟩:=he;simp[VW]at h;split at h
   next z=>simp[af]at h;refine .inr ⟨0,m,q,D,rfl,rfl,?_,z,by simp[h]⟩;rw[c7,c];simp[qi ds z w]
   .rename_i z;split at h
    .rename_i es2 hes2;simp[af]at h;subst h;rcases RD ds w es es2 ents (i+1) fs hes2 with ⟨h1,N⟩|⟨j,m',k'',v'',h1,N,h3,h4,h5⟩
     .refine .inl ⟨?_,by simp[N]⟩;rw[c7,c];simp[qi ds z w,h1]
     .refine .inr ⟨j+1,m',k'',v'',by simpa using h1,by simpa using N,?_,h4,by simp[h5]⟩;rw[c7,c];simp[qi ds z w,h3];omega
    .cases h
   .cases h
def RF (ds:Co P s I K) (w:World):∀(es es':Y k?) (ents:Y MapEntry) (i:Nat),ents.map (·.key)=es.map (·.1)->VX K A es=Z es'->
 ((c7 s (.agg A.toArray) ents i).run P w= .ok U w/\es'=es)\/∃(j:Nat) (m:MapEntry),j<l! es/\ents[j]? =Z m/\(c7 s (.agg A.toArray) ents i).run P w= .ok (Z (i+j,m.val)) w/\es'=es.eraseIdx j
 |[],es',ents,i,he,h=>by
  cases ents with
  |nil=>simp only[VX,af]at h;exact .inl ⟨by simp[c7],h.symm⟩
  |cons _ _=>simp at he
 |(k',v')::es,es',ents,i,he,h=>by
  cases ents with
  |nil=>simp at he
  |cons m ents=>
   simp[b5,eF]at he;let⟨c,D⟩:=he;simp[VX]at h;split at h
   next q=>simp[af]at h;refine .inr ⟨0,m,by simp,rfl,?_,by simp[h]⟩;rw[c7,c];simp[qi ds q w]
   .rename_i q;split at h
    .rename_i es2 hes2;simp[af]at h;subst h;rcases RF ds w es es2 ents (i+1) D hes2 with ⟨h1,F⟩|⟨j,m',h1,F,N,fs⟩
     .refine .inl ⟨?_,by simp[F]⟩;rw[c7,c];simp[qi ds q w,h1]
     .refine .inr ⟨j+1,m',by simp;omega,by simpa using F,?_,by simp[fs]⟩;rw[c7,c];simp[qi ds q w,N];omega
    .cases h
   .cases h
def KF:∀{ds:Y TypeDesc} {A q:ξ},iP ds (A.map .raw) (q.map .raw)=Z J->A=q/\∀x∈A,∀n,lB n x x=J
 |[],[],[],_=>⟨rfl,λx z=>by cases z⟩
 |[],[],_::_,h|[],_::_,q,h|_::_,[],q,h|_::_,_::_,[],h=>by simp[iP]at h
 |d::ds,k::A,v::q,h=>by
  simp only[b5,iP]at h;split at h
  .rename_i c;let⟨e1,e2⟩:=KF h;have key:k=v/\∀n,lB n k k=J:=by
    cases d<;>cases k<;>cases v<;>simp only[uS]at c<;>first|(cases c;done)|skip
    .simp only[af,cV]at c;subst c;exact⟨rfl,λn=>by cases n<;>simp[lB]⟩
    .split at c
     next D=>have D:=eq_of_beq D;simp only[af,cV]at c;subst c D;exact⟨rfl,λn=>by cases n<;>simp[lB]⟩
     .cases c
    .simp only[af]at c;have:=vS.1 c;subst this;exact⟨rfl,λn=>by cases n<;>simp[lB,Bo,c]⟩
   refine ⟨by rw[key.1,e1],λx z n=>?_⟩;rcases bB.1 z with rfl|z
   .exact key.2 n
   .exact e2 x z n
  .cases h
  .cases h
def acq (h:BI K A v=Z J):v= .agg A.toArray/\lB 10000 (.agg A.toArray) (.agg A.toArray)=J:=by
 unfold BI at h;split at h
 .rename_i z;let⟨e1,e2⟩:=KF h;refine ⟨by rw[e1],?_⟩;rw[lB];simp only[cz,dl,dq];rintro⟨x,y⟩ hxy;have c:x=y/\x∈A:=by
   rw[List.mem_iff_getElem?]at hxy
   grind
  grind
 .cases h
def WU {q:TypeId} (c:P.underlying s=Z (.pointer q)) (A:M Addr) (w:World):(Op.equal s (.pointer A) (.pointer U)).run P w= .ok A.isNone w:=by
 have key:∀d,(Op.equalIn (d+1) s (.pointer A) (.pointer U)).run P w= .ok A.isNone w:=λd=>by cases A<;>simp[Op.equalIn,run_underlying c]
 exact key 9999
variable {c:Operand}
def afz {neg:Bool} {op:BinOp} {y:Operand} {I el:TypeId} (D:o.op= .binOp op s c y I) (hop:op=if neg then .neq else .eql) (N:y= .const (.pointer U)) (hu:P.underlying s=Z (.pointer el)) (x:dk (.jq neg c) e h nx=Z R):ft P o e.get h.get R.eff:=by
 have key:∀(w:World) (ρ:Operand->Value) (A:M Addr),ρ c= .pointer A->ρ y= .pointer U->(execOp ρ o).run P w= .ok (.value (.bool (A.isNone !=neg))) w:=by
  intro w ρ A h1 h2;unfold execOp;rw[D];simp[h1,h2];subst hop;cases neg<;>simp[eqGuard,binOp,WU hu]
 have hyv:∀a:Act,a.eval y= .pointer U:=λa=>by rw[N];rfl
 simp[dk]at x;split at x
 .rename_i id off q;rw[c6 x];refine ft.reads λφ E h' w a _ hp _=>?_
  have h1:=hp c _ (by rw[D];simp[Op.operands]) q;generalize F:a.eval c=z at h1;cases h1 with
  |H hφ=>exact⟨_,key w a.eval _ F (hyv a),by simpa[raw] using cm.f (.raw _)⟩
 .rename_i cells off q;rw[c6 x];refine ft.reads λφ E h' w a _ hp _=>?_
  have h1:=hp c _ (by rw[D];simp[Op.operands]) q;generalize F:a.eval c=z at h1;cases h1 with
  |f h1=>
   cases h1 with
   |H=>exact⟨_,key w a.eval _ F (hyv a),by simpa[raw] using cm.f (.raw _)⟩
 .rename_i q;rw[c6 x];refine ft.reads λφ E h' w a _ hp _=>?_
  have h1:=dL (hp c _ (by rw[D];simp[Op.operands]) q);exact⟨_,key w a.eval _ h1 (hyv a),by simpa[raw] using cm.f (.raw _)⟩
 .cases x
def qu:∀{q:Y Field} {k:Nat} {ds:Y TypeDesc},kX P k q=Z ds->l! ds=l! q
 |[],k,ds,h=>by simp[kX,af]at h;subst h;rfl
 |f::q,k,ds,h=>by
  simp[kX]at h;split at h
  .rename_i d ds' _ c;split at h
   .simp[af]at h;subst h;rw[bX,qu c,bX]
   .cases h
  .cases h
def We {y:M AV} (h:y.bind (ZN K)=Z A):∃v,y=Z v/\ZO v=Z A/\l! A=l! K:=by
 cases y with
 |none=>cases h
 |some v=>
  unfold ZN at h
  grind
def ark {kt fs:TypeId} {k:Operand} (D:o.op= .lookup s c k aa) (hu:P.underlying s=Z (.map kt fs)) (ds:Co P kt I K) (A:(P.info? fs).bind (·.zero)=Z v) (x:dk (.lkq K v c k) e h nx=Z R):ft P o e.get h.get R.eff:=by
 simp[dk]at x;split at x
 .rename_i id N hx hkx;let⟨yk,hkx,hkl,hkn⟩:=We hkx;split at x
  .rename_i es hid;have zrun:∀w:World,(zeroValue fs).run P w= .ok v w:=λw=>by
    cases hi:P.info? fs with
    |none=>rw[hi]at A;cases A
    |some i=>rw[hi]at A;simp[aB]at A;simp[zeroValue,typeInfo,hi,A]
   have main:∀r,Gh K N es=Z r->∀(φ:PM) (E:Nat->Prop) (h':HF) (w:World) (a:Act),h' id=Z ⟨0,.mp es⟩->OT φ E h' w a e o->oM φ E h' w->
    ∃z,(execOp a.eval o).run P w= .ok (.value z) w/\cm φ (tot E φ h') w (match r with|some z=>z|none=>raw v) z:=by
    intro r hr φ E h' w a hb' hp hrep;have hrx:=hp c _ (by rw[D];simp[Op.operands]) hx;have hrk:=JX hkl (hp k _ (by rw[D];simp[Op.operands]) hkx);generalize q:a.eval c=zz at hrx;cases hrx with
    |@mp _ b hφ=>
     let⟨k',q1,_,ob,q2,q3⟩:=hrep.at_ id _ hb';rw[hφ]at q1;cases q1;obtain⟨ents,clock,rfl,q4,q5⟩:=q3;have hlen:l! I.toList<=N.toArray.size:=by have:=qu ds.hp;simp only[tL];omega
     have hck:=XE ds ents.isEmpty hlen w;have hfk:=Ai (P:=P) ds (.agg N.toArray) ents.toList w;rcases Tl ds w es ents.toList 0 q4 r hr with ⟨h1,h2⟩|⟨j,z,m,k',h1,h2,h3,h4⟩
     .subst h1;rw[h2]at hfk;refine ⟨_,?_,.f (.raw v)⟩;unfold execOp;rw[D];simp[Instr.lookup,run_underlying hu,q,hrk,getObj,jZ,q2,hck,hfk,zrun]
     .subst h1;rw[h4]at hfk;let⟨_,F,h7⟩:=q5 j _ h2;obtain⟨m',F,rfl⟩:=F;rw[c8]at h3;rw[h3]at F;cases F;refine ⟨_,?_,h7⟩;unfold execOp;rw[D];simp[Instr.lookup,run_underlying hu,q,hrk,getObj,jZ,q2,hck,hfk]
   split at x
   next z hf=>simp[af]at x;subst x;exact ft.reads λφ E h' w a hrd hp hrep=>main _ hf φ E h' w a (by grind) hp hrep
   next hf=>simp[af]at x;subst x;exact ft.reads λφ E h' w a hrd hp hrep=>main _ hf φ E h' w a (by grind) hp hrep
   .cases x
  .cases x
 .cases x
def are {kt el:TypeId} {k y:Operand} (fs:o.op= .mapUpdate s c k y) (hu:P.underlying s=Z (.map kt el)) (ds:Co P kt I K) (x:dk (.mpq K c k y) e h nx=Z R):ft P o e.get h.get R.eff:=by
 simp only[dk]at x;split at x
 .rename_i id z v D hkx hy;let⟨yk,hkx,hkl,hkn⟩:=We hkx;split at x
  .rename_i es hid;split at x
   .rename_i es' hput;cases x;refine ft.writes hid λφ E h' w a hrd hb' hp hrep=>?_
    have hrx:=hp c _ (by rw[fs];simp[Op.operands]) D;have hrk:=JX hkl (hp k _ (by rw[fs];simp[Op.operands]) hkx);have hry:=hp y _ (by rw[fs];simp[Op.operands]) hy;generalize A:a.eval c=zz at hrx;cases hrx with
    |@mp _ b hφ=>
     let⟨k',q1,_,ob,N,q3⟩:=hrep.at_ id _ hb';rw[hφ]at q1;cases q1;obtain⟨ents,clock,rfl,q4,q5⟩:=q3;have q4:ents.toList.map (·.key)=es.map (·.1):=by unfold MpK at q4;exact q4
     have q5:∀(j:Nat) c,es[j]? =Z c->∃m,ents[j]? =Z m/\cm φ (tot E φ h') w c.2 m.val:=λj c D=>by
      let⟨_,g1,g2⟩:=q5 j c D;unfold MpV at g1
      grind
     have Ff:∀(es:Y k?) (ents:Array MapEntry) (clock:Nat),ents.toList.map (·.key)=es.map (·.1)->(∀(j:Nat) c,es[j]? =Z c->∃m,ents[j]? =Z m/\cm φ (tot E φ h') w c.2 m.val)->gQ φ (tot E φ h') w ⟨0,.mp es⟩ (.map ents clock):=λes ents clock g1 g2=>⟨ents,clock,rfl,by unfold MpK;exact g1,λj c D=>by
      let⟨m,g3,g4⟩:=g2 j c D;exact⟨_,by unfold MpV;exact⟨m,g3,rfl⟩,g4⟩⟩
     have hck:=XE ds aa (cs:=z.toArray) (by have:=qu ds.hp;simp only[tL];omega) w;have hfk:=Ai (P:=P) ds (.agg z.toArray) ents.toList w;have hlen:ents.size=l! es:=by have:=iQ ah q4;simpa using this
     rcases RD ds w es es' ents.toList 0 q4 hput with ⟨h1,rfl⟩|⟨j,m,k',v',h1,h2,h3,h4,rfl⟩
     .rw[h1]at hfk;refine ⟨.skip,_,b,.map (ents.push {key:=.agg z.toArray,val:=a.eval y,born:=clock}) (clock+1),?_,hφ,ug N (by simp) (by simp),Ff _ _ _ (by simp[q4]) λj q F=>?_,undef,.inr ⟨rfl,rfl⟩,.f (.raw _)⟩
      .unfold execOp;rw[fs];simp[Instr.mapUpdate,run_underlying hu,A,hrk,getObj,jZ,N,hck,hfk,setObj]
      .rcases bZ j (l! es) with hj|hj
       .grind
       .rw[cw hj]at F;have hj0:j-l! es=0:=by grind
        rw[hj0]at F;simp at F;subst F;exact⟨_,by rw[Array.getElem?_push,aR (by omega)],hry⟩
     .obtain⟨s2,s1⟩:=acq h4;subst s2;rw[h3]at hfk;rw[c8]at h2;rw[b6]at hfk;have hjl:j<ents.size:=(cR.1 h2).1;have hmk:m.key= .agg z.toArray:=by
       have e1:(ents.toList.map (·.key))[j]? =Z m.key:=by grind
       grind
      refine ⟨.skip,_,b,.map (ents.modify j λe=>{e with key:=.agg z.toArray,val:=a.eval y}) clock,?_,hφ,ug N (by simp) (by simp),Ff _ _ _ ?_ λi q F=>?_,undef,.inr ⟨rfl,rfl⟩,.f (.raw _)⟩
      .unfold execOp;rw[fs];simp[Instr.mapUpdate,run_underlying hu,A,hrk,getObj,jZ,N,hck,hfk,setObj,h2,hmk,Instr.keyThatStays,s1]
      .apply O4;intro i;simp only[bM,c8,j7,Array.getElem?_modify];have e2:∀i:Nat,(ents[i]?).map (λm:MapEntry=>m.key)=(es[i]?).map (λp:Value×AV=>p.1):=λi=>by
        have:=iQ (λl=>l[i]?) q4
        grind
       grind
      .grind
   .cases x
  .cases x
 .cases x
def FF {α β:Type} (f:α->β):∀(l:Y α) (j:Nat),(l.map f).eraseIdx j=(l.eraseIdx j).map f
 |[],_|_::_,0=>rfl
 |x::r,j+1=>by simp[b5,List.eraseIdx_cons_succ,FF f r j]
def arq {t2 kt el:TypeId} {k:Operand} (F:o.op= .call {callee:=.builtin .delete,args:=#[c,k],argTypes:=#[s,t2]}) (hu:P.underlying s=Z (.map kt el)) (ds:Co P kt I K) (x:dk (.dlq K c k) e h nx=Z R):ft P o e.get h.get R.eff:=by
 simp[dk]at x;split at x
 .rename_i id ks A hkx;let⟨yk,hkx,hkl,hkn⟩:=We hkx;split at x
  .rename_i es hid;split at x
   .rename_i es' hput;cases x;refine ft.writes hid λφ E h' w a hrd fs hp hrep=>?_
    have hrx:=hp c _ (by rw[F];simp[Op.operands,c9]) A;have hrk:=JX hkl (hp k _ (by rw[F];simp[Op.operands,c9]) hkx);generalize z:a.eval c=zz at hrx;cases hrx with
    |@mp _ b hφ=>
     let⟨k',q1,_,ob,D,q3⟩:=hrep.at_ id _ fs;rw[hφ]at q1;cases q1;obtain⟨ents,clock,rfl,q4,q5⟩:=q3;have q5:∀(j:Nat) c,es[j]? =Z c->∃m,ents[j]? =Z m/\cm φ (tot E φ h') w c.2 m.val:=λj c A=>by
      let⟨_,N,g2⟩:=q5 j c A;unfold MpV at N
      grind
     have Ff:∀(es:Y k?) (ents:Array MapEntry) (clock:Nat),ents.toList.map (·.key)=es.map (·.1)->(∀(j:Nat) c,es[j]? =Z c->∃m,ents[j]? =Z m/\cm φ (tot E φ h') w c.2 m.val)->gQ φ (tot E φ h') w ⟨0,.mp es⟩ (.map ents clock):=λes ents clock N g2=>⟨ents,clock,rfl,by unfold MpK;exact N,λj c A=>by
      let⟨m,g3,g4⟩:=g2 j c A;exact⟨_,by unfold MpV;exact⟨m,g3,rfl⟩,g4⟩⟩
     have hck:=XE ds ents.isEmpty (cs:=ks.toArray) (by have:=qu ds.hp;simp only[tL];omega) w;have hfk:=Ai (P:=P) ds (.agg ks.toArray) ents.toList w;rcases RF ds w es es' ents.toList 0 q4 hput with ⟨h1,rfl⟩|⟨j,m,h1,h2,h3,rfl⟩
     .rw[h1]at hfk;refine ⟨.value (.tuple #[]),_,b,.map ents clock,?_,hφ,ug D (by simp) (by simp),Ff _ _ _ q4 q5,_,.inl rfl,cm.qb (vs:=[]) rfl (by simp)⟩;unfold execOp;rw[F];simp[resolve,invoke,builtin,Builtin.delete_,run_underlying hu,z,hrk,getObj,jZ,D,hck,hfk,setObj]
     .rw[h3]at hfk;have hel:(ents.eraseIdxIfInBounds j).toList=ents.toList.eraseIdx j:=by simp_all
      refine ⟨.value (.tuple #[]),_,b,.map (ents.eraseIdxIfInBounds j) clock,?_,hφ,ug D (by simp) (by simp),Ff _ _ _ ?_ λi q hq=>?_,_,.inl rfl,cm.qb (vs:=[]) rfl (by simp)⟩
      .unfold execOp;rw[F];simp[resolve,invoke,builtin,Builtin.delete_,run_underlying hu,z,hrk,getObj,jZ,D,hck,hfk,setObj]
      .rw[hel,<-FF,q4,FF]
      .grind
   .cases x
  .cases x
 .cases x
end
variable {R:Type}
def bind_some {β:Type} {x:M R} {f:R->M β} {y:β} (h:x.bind f=Z y):∃a,x=Z a/\f a=Z y:=by
 cases x with
 |none=>cases h
 |some a=>exact⟨a,rfl,h⟩
def map_some {β:Type} {x:M R} {f:R->β} {y:β} (h:x.map f=Z y):∃a,x=Z a/\f a=y:=by simp_all
variable {b:Bool}
def kD {x:M R} {y:R} (h:(if b then x else U)=Z y):b=J/\x=Z y:=by grind
variable {P:Program} {k:Oper} {i:Nat}
def Du {e:ve} {h:gy} {s:Np} {R:yf} (A:cP P k.op=Z s) (F:dk s e h i=Z R):ft P k e.get h.get R.eff:=by
 unfold cP at A;split at A
 next x D=>cases A;exact ard (.inl D) F
 next x D=>cases A;exact ard (.inr D) F
 next c a b D=>cases A;exact ant D F
 next t D=>let⟨z,h1,A⟩:=bind_some A;let⟨N,A⟩:=kD A;cases A;exact ajz D h1 N F
 next t x D=>cases A;exact arv D F
 .rename_i t ps D;split at A
  next fs I=>let⟨z,h1,A⟩:=bind_some A;let⟨N,A⟩:=kD A;obtain⟨ps',h3,rfl⟩:=map_some A;simp only[al]at N;exact Zj D h1 N.1 h3 (.inl ⟨fs,I,N.2⟩) F
  next n el I=>let⟨z,h1,A⟩:=bind_some A;let⟨N,A⟩:=kD A;obtain⟨ps',h3,rfl⟩:=map_some A;simp only[al]at N;let⟨sz,h4⟩:=iK.1 N.2;exact Zj D h1 N.1 h3 (.inr ⟨n,el,sz,I,h4⟩) F
  .cases A
 next t n ps D=>let⟨el,h1,A⟩:=bind_some A;let⟨z,N,A⟩:=bind_some A;let⟨sz,h3,A⟩:=bind_some A;let⟨h4,A⟩:=kD A;obtain⟨ps',h5,rfl⟩:=map_some A;simp only[al,cV,bne_iff_ne]at h4;exact aru D (sN h1) N h3 h4.1.1.1 h4.1.1.2 h4.2 (aW h4.1.2) h5 F
 next t x D=>let⟨sz,h1,A⟩:=bind_some A;obtain⟨ag,N,rfl⟩:=map_some A;exact anw D h1 N F
 next t x v D=>obtain⟨sz,h1,rfl⟩:=map_some A;exact ajy D h1 F
 next x D=>cases A;exact anu D F
 .rename_i op t x y t' D;split at A
  .cases A;exact alw D F
  .cases A;exact alw D F
  .rename_i I;split at A
   .cases A;exact alv (neg:=aa) D rfl I F
   .cases A;exact alv (neg:=J) D rfl I F
   .cases A
  .rename_i el I;split at A
   .cases A;exact Zi (neg:=aa) D rfl rfl I F
   .cases A;exact Zi (neg:=J) D rfl rfl I F
   .cases A
  .rename_i el I;split at A
   .cases A;exact afz (neg:=aa) D rfl rfl I F
   .cases A;exact afz (neg:=J) D rfl rfl I F
   .cases A
  .rename_i ms I;split at A
   .cases A;exact ag0 (neg:=aa) D rfl rfl I F
   .cases A;exact ag0 (neg:=J) D rfl rfl I F
   .cases A
  .rename_i fs I;let⟨ds,h1,A⟩:=bind_some A;unfold CC at h1;rw[I]at h1;simp only[]at h1;split at h1
   .cases h1
   .rename_i hst;have hst:P.stoodInHeld t=aa:=by simpa using hst
    split at A
    .cases A;exact alu (neg:=aa) D rfl I hst h1 F
    .cases A;exact alu (neg:=J) D rfl I hst h1 F
    .cases A
  .cases A
 next t x D=>cases A;exact arb D F
 .rename_i t x D;split at A
  .cases A;exact arc D F
  .cases A
 .rename_i s' d x D;split at A
  next o k' h1 N=>cases A;exact ao3 D h1 N F
  .rename_i el h1 N;split at A
   next h3=>cases A;exact art D h1 N h3 F
   .cases A
  .rename_i el h1 N;split at A
   next h3=>cases A;exact ar5 D h1 h3 N F
   .cases A
  .cases A
 next t l c D=>let⟨el,h1,A⟩:=bind_some A;let⟨z,N,A⟩:=bind_some A;let⟨sz,h3,A⟩:=bind_some A;let⟨b,h5,A⟩:=bind_some A;let⟨h4,A⟩:=kD A;simp only[al,cV,bne_iff_ne]at h4;cases A;exact anv D (sN h1) N h3 h5 h4.1.1 h4.1.2 h4.2 F
 .rename_i t x lo hi mx D;split at A
  .rename_i n el I;split at A
   .obtain⟨sz,h1,A⟩:=bind_some A;let⟨N,A⟩:=kD A;cases A;exact ar8 D I h1 (aW N) F
   .cases A
  .rename_i I;split at A
   .cases A;exact ar6 D I F
   .cases A
  .obtain⟨el,h1,A⟩:=bind_some A;obtain⟨sz,N,rfl⟩:=map_some A;exact ar7 D (sN h1) N F
 .rename_i t x o D;split at A
  next fs I=>let⟨f,h1,A⟩:=bind_some A;let⟨sz,N,A⟩:=bind_some A;let⟨h3,A⟩:=kD A;cases A;exact aro D I h1 N (by simpa using h3) F
  .cases A
 .rename_i t x o D;split at A
  next fs I=>let⟨f,h1,A⟩:=bind_some A;let⟨sz,N,A⟩:=bind_some A;obtain⟨ag,h3,rfl⟩:=map_some A;exact arn D I h1 N h3 F
  .cases A
 .rename_i t x nx D;split at A
  next el I=>obtain⟨sz,h1,rfl⟩:=map_some A;exact arm D I h1 F
  next n el I=>obtain⟨sz,h1,rfl⟩:=map_some A;exact ao1 D I h1 F
  .cases A
 .rename_i t x nx D;split at A
  next n el I=>let⟨sz,h1,A⟩:=bind_some A;obtain⟨ag,N,rfl⟩:=map_some A;exact arl D I h1 N F
  next I=>cases A;exact ans D I F
  .cases A
 next x nx D=>cases A;exact arp D F
 .rename_i f first caps D
  let⟨h1,A⟩:=kD A;cases A;have N:first=#[]:=by simpa using h1
  subst N;exact arh D F
 .rename_i t D;split at A
  .cases A;exact arf D F
  .cases A
 .rename_i t x o ok D;split at A
  .rename_i kt el I;split at A
   next q z h1 N=>let⟨h3,A⟩:=kD A;cases A;exact alt (str:=aa) D I h1 ⟨q,rfl⟩ N F
   next z h1 N=>let⟨h3,A⟩:=kD A;cases A;exact alt (str:=J) D I h1 rfl N F
   next fs z h1 N=>let⟨h3,A⟩:=kD A;simp only[al,cK]at h3;obtain⟨ds,h4,rfl⟩:=map_some A;let⟨fs',K⟩:=Fc h4;rw[h3.2]at D;exact ark D I K N F
   .cases A
  .cases A
 .rename_i t m o v D;split at A
  .rename_i kt el I;split at A
   next q h1=>cases A;exact als (str:=aa) D I h1 ⟨q,rfl⟩ F
   next h1=>cases A;exact als (str:=J) D I h1 rfl F
   .obtain⟨ds,h4,rfl⟩:=map_some A;let⟨fs',K⟩:=Fc h4;exact are D I K F
   .cases A
  .cases A
 .rename_i t x D;split at A
  next I=>cases A;exact ar9 D I F
  .cases A
 next x D=>cases A;exact ara D F
 .rename_i c D;let⟨callee,args,argTypes⟩:=c;have arr:∀{α:Type} {x:Array α} {l:Y α},x.toList=l->x=l.toArray:=λh=>by rw[<- h]
  unfold UG at A;simp only[]at A;split at A
  .split at A
   .rename_i x t h1 N;rw[arr h1,arr N]at D;split at A
    next el I=>cases A;exact ao0 D I F
    next I=>cases A;exact anz D I F
    next o v I=>cases A;exact anx D I F
    .cases A
   .cases A
  .split at A
   next x y h1=>rw[arr h1]at D;cases A;exact arj D F
   .cases A
  .split at A
   next x y h1=>rw[arr h1]at D;cases A;exact ari D F
   .cases A
  .split at A
   .rename_i d x t u h1 N;rw[arr h1,arr N]at D;split at A
    next el el' h1 N=>let⟨sz,h3,A⟩:=bind_some A;let⟨h4,A⟩:=kD A;cases A;exact ao2 D (sN h1) (sN N) h3 F
    .cases A
   .cases A
  .split at A
   .rename_i m o t t2 h1 N;rw[arr h1,arr N]at D;split at A
    next kt el I=>obtain⟨ds,h4,rfl⟩:=map_some A;let⟨fs',K⟩:=Fc h4;exact arq D I K F
    .cases A
   .cases A
  .split at A
   next x t h1 N=>rw[arr h1,arr N]at D;let⟨el,h3,A⟩:=bind_some A;let⟨z,h4,A⟩:=bind_some A;let⟨sz,h5,A⟩:=bind_some A;let⟨h6,A⟩:=kD A;simp only[al,cV,bne_iff_ne,ne_eq]at h6;cases A;exact ars D (sN h3) h4 h6.1.1 h6.1.2 h6.2 F
   .cases A
  .split at A
   .rename_i s' x t u h1 N;rw[arr h1,arr N]at D;split at A
    next el el' h1 N=>let⟨sz,h3,A⟩:=bind_some A;let⟨b,h4,A⟩:=bind_some A;let⟨z,h5,A⟩:=bind_some A;let⟨h6,A⟩:=kD A;simp only[al,cV,bne_iff_ne]at h6;cases A;exact arw D (sN h1) (sN N) h3 h4 h5 h6.2 h6.1 F
    .cases A
   .cases A
  .cases A
 .cases A
variable {p:Nat->Bool}
def mg :∀{l:Y AV},AV.allL p l=J->∀x∈l,AV.all p x=J
 |[],_,x,c=>by cases c
 |y::l,h,x,c=>by
  simp[AV.allL,al]at h;rcases bB.1 c with rfl|c
  .exact h.1
  .exact mg h.2 x c
variable {O:Nat->Prop} {w:World} {v:Value} {V:PM} {y:AV}
def cm.restrict {φ':PM} {O':Nat->Prop} (D:∀i k,p i=J->V i=Z k->φ' i=Z k) (ho:∀k,O' k->O k) (h:cm V O w y v):y.all p=J->cm φ' O' w y v:=by
 induction h with
 |f h=>intro _;exact .f (h.ext (O':=O') (C5.refl O w) λk _ I=>ho k I)
 |H h=>intro hp;exact .H (D _ _ hp h)
 |sl h F N=>intro hp;exact .sl (D _ _ hp h) F N
 |G h F N hsh=>intro hp;exact .G (D _ _ hp h) F N hsh
 |emp=>intro _;exact .emp
 |qv=>intro _;exact .qv
 |qh h=>intro _;exact .qh (h.ext (O':=O') (C5.refl O w) λk _ I=>ho k I)
 |mp h=>intro hp;exact .mp (D _ _ hp h)
 |agg A hcl hr q=>intro hp;exact .agg A hcl λj y v c z=>q j y v c z (mg hp y (bd c))
 |qb A hr q=>intro hp;exact .qb A λj y v c z=>q j y v c z (mg hp y (bd c))
 |qy A hr q=>intro hp;exact .qy A λj y v c z=>q j y v c z (mg hp y (bd c))
variable {z:jI}
def gQ.restrict {φ':PM} {O':Nat->Prop} {w':World} (N:∀x v,x.all p=J->cm V O w x v->cm φ' O' w' x v) {o:Obj} (I:z.c.all p=J) (h:gQ V O w z o):gQ φ' O' w' z o:=by
 unfold gQ at h ⊢;cases F:z.c with
 |fz l=>
  rw[F]at h;let⟨arr,h1,D,A⟩:=h;exact⟨arr,h1,D,λj x b=>by
   let⟨a,v,c,d⟩:=A j x b;refine ⟨a,v,c,N _ _ ?_ d⟩;simp only[BC.get]at b;cases hl:l[j]? with
   |none=>rw[hl]at b;cases b
   |some q=>rw[hl]at b;simp at b;subst b;rfl⟩
 |mx l=>
  rw[F]at h I;let⟨arr,h1,D,A⟩:=h;exact⟨arr,h1,D,λj x b=>by
   let⟨a,v,c,d⟩:=A j x b;exact⟨a,v,c,N _ _ (mg I x (bd b)) d⟩⟩
 |mp es=>
  rw[F]at h I;let⟨e,c,h1,D,A⟩:=h;exact⟨e,c,h1,D,λj x b=>by
   let⟨m,a,z⟩:=A j x b;exact⟨m,a,N _ _ (mg I x.2 (bR.2 ⟨x,bd b,rfl⟩)) z⟩⟩
 |it s q=>rw[F]at h;exact h
def YE {h:gy} (b:gy.all p h=J) (q:h.get i=Z z):p i=J/\z.c.all p=J:=by
 have:=PT.get_all _ h 1 0 i z b q
 grind
def OM (m:Nat):ι:=(lY (m+1)).filter λi=>aC m i
variable {m:Nat}
def lj :i∈OM m↔aC m i=J:=by
 unfold OM;rw[oN,nM];constructor
 .exact λh=>h.2
 .intro h;refine ⟨?_,h⟩;have h1:=Nat.ge_two_pow_of_testBit h;have c:=Nat.lt_two_pow_self (n:=i);omega
def ik (φ:PM) (O:Nat->Prop) (w:World):Y AV->ξ->Prop
 |[],[]=>True
 |x::xs,v::vs=>cm φ O w x v/\ik φ O w xs vs
 |_,_=>False
def ik.length :∀{args:Y AV} {vs:ξ},ik V O w args vs->l! vs=l! args
 |[],[],_=>rfl
 |[],_::_,h|_::_,[],h=>h.elim
 |_::_,_::_,h=>by simp[ik.length h.2]
def ik.mono {φ':PM} {O':Nat->Prop} {w':World} (c:∀x v,x.all p=J->cm V O w x v->cm φ' O' w' x v):∀{args:Y AV} {vs:ξ},AV.allL p args=J->ik V O w args vs->ik φ' O' w' args vs
 |[],[],_,_=>trivial
 |[],_::_,_,h|_::_,[],_,h=>h.elim
 |x::xs,_::_,hp,h=>by
  simp[AV.allL,al]at hp;exact⟨c _ _ hp.1 h.1,ik.mono c hp.2 h.2⟩
def ik.append :∀{xs c:Y AV} {vs q:ξ},ik V O w xs vs->ik V O w c q->ik V O w (xs++c) (vs++q)
 |[],_,[],_,_,h=>h
 |[],_,_::_,_,h,_|_::_,_,[],_,h,_=>h.elim
 |_::_,_,_::_,_,h,h'=>⟨h.1,ik.append h.2 h'⟩
def ik.of :∀{xs:Y AV} {vs:ξ},l! vs=l! xs->(∀(j:Nat) x v,xs[j]? =Z x->vs[j]? =Z v->cm V O w x v)->ik V O w xs vs
 |[],[],_,_=>trivial
 |[],_::_,h,_|_::_,[],h,_=>by simp at h
 |x::xs,v::vs,z,h=>⟨h 0 x v rfl rfl,ik.of (by grind) λj x v c q=>h (j+1) x v (by grind) (by grind)⟩
def xl (P:Program) (f:FuncId):Prop:=∃fn,P.funcs[f]? =Z fn∧fn.body.isNone=aa∧(fn.name== "runtime.NumGoroutine")=aa
structure ak2 (P:Program) (f:FuncId) (args:List AV) (h:gy) (nx:Nat) (r:OY):Prop where
 qd:xl P f
 frame:∀i,aC r.wr i=aa->r.h.get i=h.get i
 names:∀i,aC r.wr i=J->nx<=i->i<r.nx
 zd:nx<=r.nx
 calls:∀(φ:PM) (E:Nat->Prop) (w:World) (vs:ξ),oM φ E h.get w->ik φ (tot E φ h.get) w args vs->(∀i k,φ i=Z k->i<nx)->
  Calls P f vs.toArray w λe w'=>∃v φ',e= .returned v/\gR φ φ' h.get r.h.get w w'/\oM φ' E r.h.get w'/\cm φ' (tot E φ' r.h.get) w' r.val v/\∀i k,φ' i=Z k->φ i=Z k\/(nx<=i/\aC r.wr i=J)
def kf (ids nx:Nat) (r:OY):zD:=⟨r.val,OM ids,OM r.wr,r.h.get,(OM r.wr).filter (nx<=·)⟩
variable {f:FuncId} {N:Y AV}
def XJ {e:ve} {h:gy} {r:OY} (sp:ak2 P f N (PT.only m 1 0 h) i r) (hargs:AV.allL (db · i) N=J) (hhc:gy.all (db · i) (PT.only m 1 0 h)=J)
 (hexec:∀(φ:PM) (E:Nat->Prop) (h':HF) (w:World) (a:Act),OT φ E h' w a e k->oM φ E h' w->∃vs:ξ,(execOp a.eval k).run P w= .ok (.enter f vs.toArray) w/\ik φ (tot E φ h') w N vs):
 ft P k e.get h.get (kf m i r):=by
 intro φ E h' w a hrd hwr hops hrep hN;have hp:OT φ E h' w a e k:=λx y hx hy=>pq hrep hops hx hy
 let⟨vs,hrun,hrel⟩:=hexec φ E h' w a hp hrep;have hcg:∀nx,(PT.only m 1 0 h).get nx=if aC m nx then h.get nx else U:=λnx=>by rw[PT.get_only];simp
 generalize hhcd:PT.only m 1 0 h=hc at*
 have F:∀nx b,hc.get nx=Z b->aC m nx=J/\h' nx=Z b/\nx<i/\b.c.all (db · i)=J:=λnx b D=>by
  let⟨q1,args⟩:=YE hhc D;have q1:nx<i:=aW q1;rw[hcg]at D;split at D
  next ht=>exact⟨ht,by rw[hrd nx (lj.2 ht)];exact D,q1,args⟩
  .cases D
 let E':Nat->Prop:=λo=>E o\/∃id b,h' id=Z b/\aC m id=aa/\φ id=Z o
 let φc:PM:=λnx=>if nx<i then φ nx else U
 have φc_sub:∀nx o,φc nx=Z o->φ nx=Z o/\nx<i:=λnx o q=>by grind
 have φc_of:∀nx o,nx<i->φ nx=Z o->φc nx=Z o:=λnx o hi q=>by simp only[φc,hi,bo];exact q
 have own_c:∀o,own φc hc.get o->own φ h' o:=by
  rintro o ⟨nx,b,h1,z⟩;exact⟨nx,b,(F nx b h1).2.1,(φc_sub nx o z).1⟩
 have tot_c:∀o,tot E' φc hc.get o->tot E φ h' o:=by
  rintro o ((h1|⟨id,b,h1,_,z⟩)|h1)
  .exact .inl h1
  .exact .inr ⟨id,b,h1,z⟩
  .exact .inr (own_c o h1)
 have relc:∀x v,x.all (db · i)=J->cm φ (tot E φ h') w x v->cm φc (tot E' φc hc.get) w x v:=λx v hx hr=>
  hr.restrict (λnx o hi q=>φc_of nx o (aW hi) q) tot_c hx
 have repc:oM φc E' hc.get w:=by
  refine ⟨λnx j b b' o h1 z h3 h4=>hrep.inj nx j b b' o (F nx b h1).2.1 (F j b' z).2.1 (φc_sub nx o h3).1 (φc_sub j o h4).1,λnx b D=>?_,?_,λg cells hg=>?_⟩
  .obtain⟨t1,t2,t3,t4⟩:=F nx b D;let⟨o,q1,args,ob,q3,q4⟩:=hrep.at_ nx b t2;refine ⟨o,φc_of nx o t3 q1,?_,ob,q3,q4.restrict relc t4⟩;rintro (hE|⟨id,b',p1,p2,p3⟩)
   .exact args hE
   .have:=hrep.inj id nx b' b o p1 t2 p3 q1;subst this;rw[t1]at p2;cases p2
  .rintro o (hE|⟨id,b,p1,_,p3⟩)
   .exact hrep.el o hE
   .obtain⟨k',q1,_,ob,q3,_⟩:=hrep.at_ id b p1;rw[p3]at q1;cases q1;exact (cR.1 q3).1
  .exact (hrep.gl g cells hg).ext (C5.refl _ w) λo _ q=>tot_c o q
 have hcalls:=sp.calls φc E' w vs repc (ik.mono relc hargs hrel) (λnx o q=>(φc_sub nx o q).2);unfold vp;rw[hrun];refine Calls.mono hcalls ?_;rintro en w' ⟨v,φc',rfl,mv,rp,rv',nm⟩
 let φ':PM:=λnx=>if i<=nx/\aC r.wr nx=J then φc' nx else φ nx
 have φ'_new:∀nx,i<=nx->aC r.wr nx=J->φ' nx=φc' nx:=λnx h1 z=>by simp only[φ',h1,z,and_self,bo]
 have φ'_old:∀nx,¬(i<=nx/\aC r.wr nx=J)->φ' nx=φ nx:=λnx h1=>by simp only[φ',aE h1]
 have hfresh:∀nx,i<=nx->aC r.wr nx=J->φ nx=U:=λnx h1 z=>hN nx (by simp only[kf,oN,bG];exact⟨lj.2 z,h1⟩)
 have φc'_to:∀nx o,φc' nx=Z o->φ' nx=Z o:=λnx o q=>by grind
 have hsub:∀nx o,φ nx=Z o->φ' nx=Z o:=λnx o q=>by grind
 have H2:∀nx,dZ h' (kf m i r).wr (kf m i r).nw nx=if aC r.wr nx=J then r.h.get nx else h' nx:=λnx=>by
  unfold dZ kf;simp only[lj]
 have from_:∀nx b,dZ h' (kf m i r).wr (kf m i r).nw nx=Z b->(r.h.get nx=Z b/\∀o,φ' nx=Z o->φc' nx=Z o)\/(h' nx=Z b/\aC m nx=aa/\φ' nx=φ nx/\aC r.wr nx=aa):=λnx b D=>by
  rw[H2]at D;by_cases hwi:aC r.wr nx=J
  .rw[aR hwi]at D;refine .inl ⟨D,λo q=>?_⟩;by_cases hi:i<=nx
   .rw[φ'_new nx hi hwi]at q;exact q
   .rw[φ'_old nx (by omega)]at q;exact mv.sub nx o (φc_of nx o (by omega) q)
  .rw[aE hwi]at D;have hwi:aC r.wr nx=aa:=by simpa using hwi
   by_cases hid:aC m nx=J
   .have h1:hc.get nx=Z b:=by rw[hcg,aR hid,<-hrd nx (lj.2 hid)];exact D
    refine .inl ⟨by rw[sp.frame nx hwi];exact h1,λo q=>?_⟩;rw[φ'_old nx (by rw[hwi];simp)]at q;exact mv.sub nx o (φc_of nx o (F nx b h1).2.2.1 q)
   .exact .inr ⟨D,by simpa using hid,φ'_old nx (by rw[hwi];simp),hwi⟩
 have own':∀o,own φ' (dZ h' (kf m i r).wr (kf m i r).nw) o->own φc' r.h.get o\/∃nx b,h' nx=Z b/\aC m nx=aa/\φ nx=Z o:=by
  rintro o ⟨nx,b,h1,z⟩;rcases from_ nx b h1 with ⟨A,I⟩|⟨A,I,g3,_⟩
  .exact .inl ⟨nx,b,A,I o z⟩
  .exact .inr ⟨nx,b,A,I,by rw[<- g3];exact z⟩
 have ids:gR φ φ' h' (dZ h' (kf m i r).wr (kf m i r).nw) w w':=by
  refine ⟨hsub,mv.ext.mono own_c,λo q ho=>?_⟩;rcases own' o ho with h1|⟨nx,b,h1,_,z⟩
  .exact own_c o (mv.qn o q h1)
  .exact⟨nx,b,h1,z⟩
 have tot':∀o,tot E φ' (dZ h' (kf m i r).wr (kf m i r).nw) o->tot E' φc' r.h.get o:=by
  rintro o (h1|h1)
  .exact .inl (.inl h1)
  .rcases own' o h1 with z|⟨nx,b,A,I,g3⟩
   .exact .inr z
   .exact .inl (.inr ⟨nx,b,A,I,g3⟩)
 have relOut:∀x v,cm φc' (tot E' φc' r.h.get) w' x v->cm φ' (tot E φ' (dZ h' (kf m i r).wr (kf m i r).nw)) w' x v:=λx v hr=>
  hr.ext φc'_to (C5.refl _ w') λo _ q=>tot' o q
 refine ⟨v,φ',rfl,ids,?_,?_,relOut _ _ rv'⟩
 .intro nx o q;by_cases hi:i<=nx/\aC r.wr nx=J
  .right;simp only[kf,oN,bG];exact⟨lj.2 hi.2,hi.1⟩
  .left;rw[φ'_old nx hi]at q;exact q
 .refine ⟨λnx j x y o hi hj h1 z=>?_,λnx b hi=>?_,λo q=>dj (hrep.el o q) ids.ext.size,λg cells hg=>ids.keepF (hrep.gl g cells hg)⟩
  .rcases from_ nx x hi with ⟨A,I⟩|⟨A,I,g3,_⟩
   .rcases from_ j y hj with ⟨q1,args⟩|⟨q1,args,q3,_⟩
    .exact rp.inj nx j x y o A q1 (I o h1) (args o z)
    .exfalso;let⟨k',p1,p2,_⟩:=rp.at_ nx x A
     grind
   .rcases from_ j y hj with ⟨q1,args⟩|⟨q1,args,q3,_⟩
    .exfalso;let⟨k',p1,p2,_⟩:=rp.at_ j y q1
     grind
    .exact hrep.inj nx j x y o A q1 (by rw[<- g3];exact h1) (by rw[<- q3];exact z)
  .rcases from_ nx b hi with ⟨A,I⟩|⟨A,I,g3,_⟩
   .obtain⟨o,p1,p2,ob,p3,p4⟩:=rp.at_ nx b A;exact⟨o,φc'_to nx o p1,λhE=>p2 (.inl hE),ob,p3,p4.mono λx v hr=>relOut x v hr⟩
   .obtain⟨o,p1,p2,ob,p3,p4⟩:=hrep.at_ nx b A;have q:o<w.heap.size:=(cR.1 p3).1;refine ⟨o,hsub nx o p1,p2,ob,?_,p4.mono λx v hr=>ids.ql hr⟩;rw[mv.ext.jg o q ?_]
    .exact p3
    .rintro⟨j,b',q1,args⟩;let⟨t1,t2,_,_⟩:=F j b' q1;have:=hrep.inj nx j b b' o A t2 p1 (φc_sub j o args).1;subst this;rw[t1]at I;cases I
def yn (P:Program) (call:uY):Prop:=∀f args h nx r,call f args h nx=Z r->ak2 P f args h nx r
variable {S:HF} {Q:Act}
def FE {e:ve} (hp:OT V O S w Q e k):∀(xs:Y Operand) (c:Y AV),(∀x∈xs,x∈k.op.operands)->YT e xs=Z c->ik V (tot O V S) w c (xs.map Q.eval)
 |[],c,_,h=>by simp[YT,af]at h;subst h;trivial
 |x::xs,c,hm,h=>by
  simp[YT]at h;split at h
  .rename_i y q;split at h
   next ys' hys=>simp[af]at h;subst h;exact⟨hp x y (hm x (cS ..)) q,FE hp xs ys' (λx z=>hm x (cq _ z)) hys⟩
   .cases h
  .cases h
def nR (z:xl P f) (args:Array Value) (w:World):(callFunc f args).run P w= .ok (.enter f args) w:=by
 let⟨fn,h1,D,A⟩:=z;have c:fn.name≠ "runtime.NumGoroutine" :=by grind
 have q:fn.body≠U:=by grind
 simp[callFunc,program,jZ,h1,q,c]
structure agl (e:ve) (h:gy) (nx:Nat) (S:U7) (f:zD):Prop where
 val:f.val=S.val
 heap:dZ h.get f.wr f.nw=S.h.get
 rd:∀i∈f.rd,aC S.rd i=J
 wr:∀i∈f.wr,aC S.wr i=J
 names:∀n∈f.N,nx<=n/\n<S.nx
 zd:nx<=S.nx
def FY:∀(l:ι) (acc i:Nat),aC (bits l acc) i=J↔aC acc i=J\/i∈l
 |[],acc,i=>by simp[bits]
 |x::l,acc,i=>by
  rw[bits,FY l];rw[bj,eX,AS,HM]
  grind
def aat {s:Np} {e:ve} {h:gy} {R:yf} (c:dk s e h i=Z R):R.N=[]\/R.N=[i]:=by
 cases s<;>simp only[dk,tH,xZ]at c<;>(repeat' (split at c))<;>first|(cases c;done)|(simp [rv,af]at c;subst c;simp;done)
def acl {s:Np} {e:ve} {h:gy} {R:yf} (q:s.still=J) (c:dk s e h i=Z R):R.rd=[]/\R.wr=[]:=by
 cases s<;>first|(simp [Np.still]at q;done)|(simp only[dk]at c;(repeat' (split at c))<;>first|(cases c;done)|(simp [rv,af]at c;subst c;simp;done))
def ZH {call:uY} (hcall:yn P call) {o:Oper} {s:SI} (q:o7 P o.op=s) {e:ve} {h:gy} {S:U7} (A:opA call s e h i=Z S):
 ∃f,ft P o e.get h.get f/\agl e h i S f/\(s.still=J->f.rd=[]/\f.wr=[]):=by
 have callCase:∀(f:FuncId) (args:Y AV),Za call f args h i=Z S->s.still=aa->
  (∀(φ:PM) (E:Nat->Prop) (h':HF) (w:World) (a:Act),xl P f->OT φ E h' w a e o->oM φ E h' w->∃vs:ξ,(execOp a.eval o).run P w= .ok (.enter f vs.toArray) w/\ik φ (tot E φ h') w args vs)->
  ∃f,ft P o e.get h.get f/\agl e h i S f/\(s.still=J->f.rd=[]/\f.wr=[]):=by
  intro f args hca hst hex;unfold Za at hca;simp only[r_,vM]at hca;split at hca
  .rename_i hcond;simp only[al]at hcond;split at hca
   .rename_i val h' nx' wr hcr;simp only[Ql,r_,af]at hca;have sp:=hcall _ _ _ _ _ hcr;refine ⟨_,XJ sp hcond.1 hcond.2 (λφ E h' w a=>hex φ E h' w a sp.qd),?_,λh=>by rw[hst]at h;cases h⟩;subst hca;refine ⟨rfl,?_,λnx hi=>lj.1 hi,λnx hi=>lj.1 hi,λn F=>?_,sp.zd⟩
    .funext nx;unfold dZ kf;simp only[lj];rw[PT.get_merge]
     grind
    .simp only[kf,oN,bG]at F;exact⟨F.2,sp.names n (lj.1 F.1) F.2⟩
   .cases hca
  .cases hca
 have callOps:∀(c:Call),o.op= .call c->∀x,x∈c.operands->x∈o.op.operands:=λc D x I=>by rw[D];exact I
 unfold opA at A;split at A
 .rename_i f args;split at A
  .rename_i l hl;have D:∃c:Call,o.op= .call c/\c.callee= .value (.func f)/\c.args.toList=args:=by
    unfold o7 at q;split at q
    .rename_i nx hi;subst q;unfold AF at hi
     grind
    .grind
   let⟨c,D,h1,h2⟩:=D;refine callCase f l A rfl λφ E h' w a hcb hp hrep=>?_
   refine ⟨args.map a.eval,?_,FE hp args l (λx I=>callOps c D x (by simp[c9,h1,<-h2]at I ⊢;exact .inr I)) hl⟩;unfold execOp;rw[D];have hm:c.args.map a.eval=(args.map a.eval).toArray:=by grind
   simp[resolve,h1,Act.eval,vu,invoke,hm,nR hcb]
  .cases A
 .rename_i x args;split at A
  .rename_i f cap l I hl;have D:∃c:Call,o.op= .call c/\c.callee= .value x/\c.args.toList=args:=by
    unfold o7 at q;split at q
    .rename_i nx hi;subst q;unfold AF at hi
     grind
    .grind
   let⟨c,D,h1,h2⟩:=D;refine callCase f (l++cap) A rfl λφ E h' w a hcb hp hrep=>?_
   have hxv:=hp x _ (callOps c D x (by simp[c9,h1])) I;have hlv:=FE hp args l (λx I=>callOps c D x (by simp[c9,h1,<-h2]at I ⊢;exact .inr I)) hl;generalize hz:a.eval x=z at hxv;cases hxv with
   |@qy _ _ vs hvl hvr=>
    refine ⟨args.map a.eval++vs,?_,hlv.append (ik.of hvl hvr)⟩;unfold execOp;rw[D];have hm:c.args.map a.eval=(args.map a.eval).toArray:=by grind
    simp[resolve,h1,hz,vu,invoke,hm,nR hcb]
  .cases A
 .rename_i s;have q:s= .zh\/cP P o.op=Z s:=by
   unfold o7 at q;split at q
   .rename_i nx hi;subst q;unfold AF at hi
    grind
   .grind
  rcases q with rfl|q
  .simp[dk]at A
  split at A
  .rename_i val rd wr nw N hR;simp only[Ql,r_,O7,af]at A;refine ⟨_,Du q hR,?_,λhs=>acl hs hR⟩;subst A;refine ⟨rfl,acd _ _ _,λnx hi=>(FY _ _ _).2 (.inr hi),λnx hi=>(FY _ _ _).2 (.inr hi),λn F=>?_,by simp⟩;rcases aat hR with h1|h1
   .simp only[yf.eff]at F;simp only at h1;rw[h1]at F;cases F
   .simp only[yf.eff]at F;simp only at h1;rw[h1]at F;simp at F;subst F;simp[h1]
  .cases A
def Qm:∀(c:Y Vi) (i:Nat),Z9 c i=c[i]?
 |[],i=>by simp[Z9]
 |f::c,0=>rfl
 |f::c,i+1=>by simp[Z9,Qm c i]
structure Lay (P:Program) (ops:Array Oper) (rest:List Oper) (sl:List o9) (s s':IS) (fs:List Vi) (l:List (Oper×zD)):Prop where
 jy:l.map (·.1)=rest
 chain:yP P ops l s.e.get s.h.get s'.e.get s'.h.get
 fsl:l! fs=l! l
 jd:l! sl=l! l
 fp:∀(j:Nat) o f q,l[j]? =Z (o,f)->fs[j]? =Z q->(∀i∈f.rd,aC q.rd i=J)/\∀i∈f.wr,aC q.wr i=J
 still:∀(j:Nat) o f so,l[j]? =Z (o,f)->sl[j]? =Z so->so.op.still=J->f.rd=[]/\f.wr=[]
 names:∀(j:Nat) o f,l[j]? =Z (o,f)->∀n∈f.N,s.nx<=n/\n<s'.nx
 jz:∀(i j:Nat) oi fi oj fj,i<j->l[i]? =Z (oi,fi)->l[j]? =Z (oj,fj)->∀n∈fi.N,n∉fj.N
 zd:s.nx<=s'.nx
 frame:∀i,aC s'.wr i=aa->s'.h.get i=s.h.get i/\aC s.wr i=aa
variable {L:Array Oper}
def xt {call:uY} (hcall:yn P call) :∀(rest:Y Oper) (sl:Y o9) (s s':IS) (fs:Y Vi),mL P L rest=Z sl->zJ call sl s=Z (s',fs)->∃l,Lay P L rest sl s s' fs l
 |[],sl,s,s',fs,I,c=>by
  simp only[mL,af]at I;subst I;simp only[zJ,af,aU]at c;obtain⟨rfl,rfl⟩:=c;exact⟨[],rfl,.nil _ _,rfl,rfl,by simp,by simp,by simp,by simp,bL _,λi h=>⟨rfl,h⟩⟩
 |o::rest,sl,⟨e,h,nx,wr⟩,s',fs,I,c=>by
  simp only[mL]at I;split at I
  .rename_i sl' hsl';have hso:∃g,sl=⟨o.dst,o7 P o.op,g⟩::sl'/\((g=U/\o.guard=U)\/∃j want t,g=Z (t,want)/\o.guard=Z (j,want)/\(L[j]?).bind (·.dst)=Z t):=by grind
   obtain⟨g,rfl,D⟩:=hso;simp only[zJ]at c;have done:∀(f:zD) (S:U7) (s1:IS) (fs':Y Vi) (q:Vi),F5 P L o f e.get h.get->s1=⟨e.put o.dst S.val,S.h,S.nx,wr|||S.wr⟩->agl e h nx S f->((o7 P o.op).still=J->f.rd=[]/\f.wr=[])->q=⟨S.rd,S.wr⟩->zJ call sl' s1=Z (s',fs')->(∀i,aC S.wr i=aa->S.h.get i=h.get i)->
    ∃l,Lay P L (o::rest) (⟨o.dst,o7 P o.op,g⟩::sl') ⟨e,h,nx,wr⟩ s' (q::fs') l:=by
    rintro f S s1 fs' q hst rfl hef hstill rfl hrun hfr;let⟨l,A⟩:=xt hcall rest sl' _ s' fs' hsl' hrun;have hg2:S.nx<=s'.nx:=A.zd;refine ⟨(o,f)::l,by simp[A.jy],.cons hst ?_,by simp[A.fsl],by simp[A.jd],?_,?_,?_,?_,cA hef.zd hg2,?_⟩
    .rw[hef.val,R1,hef.heap];exact A.chain
    .intro j N f' q' h1 F;cases j with
     |zero=>simp at h1 F;obtain⟨rfl,rfl⟩:=h1;subst F;exact⟨hef.rd,hef.wr⟩
     |succ j=>exact A.fp j N f' q' (by grind) (by grind)
    .intro j N f' so h1 F h3;cases j with
     |zero=>simp at h1 F;obtain⟨rfl,rfl⟩:=h1;subst F;exact hstill h3
     |succ j=>exact A.still j N f' so (by grind) (by grind) h3
    .intro j N f' h1 n hn;cases j with
     |zero=>
      simp at h1;obtain⟨rfl,rfl⟩:=h1;have:=hef.names n hn;exact⟨this.1,by omega⟩
     |succ j=>
      have:=A.names j N f' (by grind) n hn;have h3:=hef.zd
      grind
    .intro i j oi fi oj fj hij h1 F n hn hn';cases j with
     |zero=>omega
     |succ j=>
      have hj:=A.names j oj fj (by grind) n hn';cases i with
      |zero=>
       simp at h1;obtain⟨rfl,rfl⟩:=h1;have h3:=(hef.names n hn).2
       grind
      |succ i=>exact A.jz i j oi fi oj fj (by omega) (by grind) (by grind) n hn hn'
    .intro i hi;let⟨h1,F⟩:=A.frame i hi
     grind
   split at c
   .rename_i z;split at c
    .rename_i val rd w' h' nx' hop;rw[II,r_]at c;split at c
     .rename_i s2 fs' hrun;cases c;let⟨f,hT,hef,hst⟩:=ZH hcall (o:=o) rfl hop;refine done f ⟨val,rd,w',h',nx'⟩ _ fs' _ ?_ rfl hef hst rfl hrun ?_
      .rcases D with ⟨rfl,D⟩|⟨j,want,t,rfl,D,ht⟩
       .exact .run D hT
       .simp only[X4]at z;split at z
        next b hb=>simp only[af,cV]at z;subst z;exact .runG j t b D ht hb hT
        .cases z
        .cases z
      .intro i hi;have:=congrFun hef.heap i;simp only[dZ]at this;rw[aE]at this
       .exact this.symm
       .intro hmem;have:=hef.wr i hmem
        grind
     .cases c
    .cases c
   .rename_i z;rw[II]at c;split at c
    .rename_i s2 fs' hrun;cases c;rcases D with ⟨rfl,D⟩|⟨j,want,t,rfl,D,ht⟩
     .simp[X4]at z
     .refine done lN ⟨raw undef,0,0,h,nx⟩ _ fs' _ ?_ (by simp) ⟨rfl,by funext i;simp[dZ,lN],by simp[lN],by simp[lN],by simp[lN],bL _⟩ (λ_=>⟨rfl,rfl⟩) rfl hrun (λ_ _=>rfl);simp only[X4]at z;split at z
      next b hb=>simp only[af,beq_eq_false_iff_ne,ne_eq]at z;exact .skip j t want D ht _ hb (by simpa using z) rfl
      next q hb=>exact .skip j t want D ht _ hb (by simp) rfl
      .cases z
    .cases c
   .cases c
  .cases I
def pH (h:Ax i m=J) (a:Nat) (c:aC i a=J):aC m a=aa:=by
 have h0:i&&&m=0:=au h;have:=Nat.testBit_and i m a
 grind
def amq {sl:Y o9} {s s':IS} {I:Y Vi} {l:Y u!} {prs:Y n!} (q:Lay P L L.toList sl s s' I l) (hp:Dq L sl=Z prs) (hok:zL I prs=J):NIP L l:=by
 unfold Dq at hp;simp only[]at hp;split at hp
 .rename_i hall;simp only[dq,nM,al]at hall;simp only[af]at hp;have hop:∀(j:Nat) o f,l[j]? =Z (o,f)->L[j]? =Z o:=λj o f z=>by
   have h1:(l.map (·.1))[j]? =Z o:=by rw[bM,z];rfl
   rw[q.jy]at h1;simpa using h1
  have hsize:∀(j:Nat) o,L[j]? =Z o->j<L.size:=λj o h=>(cR.1 h).1
  have hprs:∀i j,(i,j)∈prs->∃a b,I[i]? =Z a/\I[j]? =Z b/\Ax a.wr b.rd=J/\Ax a.wr b.wr=J/\Ax b.wr a.rd=J:=by
   clear hp hall;induction prs with
   |nil=>intro i j h;cases h
   |cons p prs ih=>
    let⟨i0,j0⟩:=p;simp only[zL,al,Qm]at hok
    grind
  refine ⟨λj o ho e he hb=>?_,λi j N fi F fj hij hi z=>?_,q.jz⟩
  .grind
  .have h1:=hop i N fi hi;have h2:=hop j F fj z;have hcase:=(hall j (hsize j F h2)).2 i hij;rw[h1,h2]at hcase;simp only[eX]at hcase;by_cases D:aC ((CZ L.toList []).getD j 0) i=J
   .left;rw[aT]at D;cases A:(CZ L.toList [])[j]? with
    |none=>rw[A]at D;simp at D
    |some B=>
     rw[A]at D;exact F0 (ops:=L) L.toList [] (λj o z=>by simpa using z) (λj B z=>by simp at z) j B A i (by simpa using D)
   .right;have hap:=hcase.resolve_left D;refine ⟨hap,?_⟩;have hil:i<l! l:=(bm.1 hi).1;have hjl:j<l! l:=(bm.1 z).1;have hsi:=aH (show i<l! sl by rw[q.jd];exact hil);have hsj:=aH (show j<l! sl by rw[q.jd];exact hjl);by_cases hst:(sl[i]'(by rw[q.jd];exact hil)).op.still=J
    .obtain⟨q1,q2⟩:=q.still i N fi _ hi hsi hst
     grind
    .by_cases hst2:(sl[j]'(by rw[q.jd];exact hjl)).op.still=J
     .obtain⟨q1,q2⟩:=q.still j F fj _ z hsj hst2
      grind
     .have hmem:(i,j)∈prs:=by
       rw[<- hp,kN];refine ⟨j,nM.2 (hsize j F h2),?_⟩
       grind
      let⟨a,b,ha,hb,d1,d2,d3⟩:=hprs i j hmem;let⟨f1,f2⟩:=q.fp i N fi a hi ha;let⟨g1,g2⟩:=q.fp j F fj b z hb;refine ⟨λx A=>⟨λc=>?_,λc=>?_⟩,λx A c=>?_⟩
      .have:=pH d1 x (f2 x A);rw[g1 x c]at this;cases this
      .have:=pH d2 x (f2 x A);rw[g2 x c]at this;cases this
      .have:=pH d3 x (g2 x A);rw[f1 x c]at this;cases this
 .cases hp
structure Ctx where
 n0:Nat
 φ:PM
 E:Nat->Prop
 h:HF
 w:World
def Vf (P:Program) (d:Deferred):Prop:=∀w:World,∃q cap f args,d.target= .fn q cap/\(invoke d.target d.args).run P w= .ok (.enter f args) w/\
 CallsD P f args .returning w λe c w'=>(∃v,e= .returned v)/\c= .returning/\w'=w
structure Cfg (P:Program) (C:Ctx) (nt:Nat) (s:IS) (a:Act) (w:World):Prop where
 ex:∃φ,gR C.φ φ C.h s.h.get C.w w/\oM φ C.E s.h.get w/\Mf φ (tot C.E φ s.h.get) w s.e.get a/\(∀i k,φ i=Z k->i<s.nx)/\∀i k,φ i=Z k->C.φ i=Z k\/C.n0<=i
 low:C.n0<=s.nx
 inert:∀d∈a.defers,Vf P d
 size:a.tmps.size=nt
def Po {C:Ctx} {s s':IS} {call:uY} (hm:P.follows .mixedOrders=J) (hcall:yn P call) (c:Cfg P C i s Q w) {sl:Y o9} {prs:Y n!} {F:Y Vi}
 (hd:(L.toList.all λo=>match o.dst with|some d=>decide (d<i)|none=>J)=J) (hc:mL P L L.toList=Z sl) (hp:Dq L sl=Z prs) (hr:zJ call sl s=Z (s',F)) (hok:zL F prs=J) {a:Exit->Act->World->Prop}
 (hQ:∀Q w,Cfg P C i s' Q w->a .normal Q w):(Code.region m L b).wp P a Q w:=by
 let⟨φ,id,r,en,dm,d0⟩:=c.ex;let⟨l,q⟩:=xt hcall L.toList sl s s' F hc hr;refine Gi (φ0:=φ) (E:=C.E) hm q.jy q.chain (amq q hp hok) ?_ ?_ r en ?_
 .intro n z;let⟨p,hp,z⟩:=kN.1 z;let⟨j,A⟩:=eA hp;have:=q.names j p.1 p.2 A n z;cases N:φ n with
  |none=>rfl
  |some k=>have:=dm n k N;omega
 .intro j o ho d D;have:=dq.1 hd o (by grind);rw[D]at this;rw[c.size];simpa using this
 .rintro a' w' ⟨φ',m',d',I,en',df',sz'⟩;have hnm:∀nt k,φ' nt=Z k->φ nt=Z k\/(s.nx<=nt/\nt<s'.nx):=λnt k hik=>by
   rcases d' nt k hik with h|h
   .exact .inl h
   .obtain⟨p,hp,z⟩:=kN.1 h;let⟨j,A⟩:=eA hp;exact .inr (q.names j p.1 p.2 A nt z)
  have hg:=q.zd;have hlow:=c.low;refine hQ a' w' ⟨⟨φ',id.trans m',I,en',λnt k hik=>?_,λnt k hik=>?_⟩,by omega,by rw[df'];exact c.inert,by rw[sz'];exact c.size⟩
  .grind
  .grind
def Cfg.bool {C:Ctx} {s:IS} (c:Cfg P C i s Q w) (ht:s.e.get m=Z (.f (.raw (.bool b)))):Q.eval (.tmp m)= .bool b:=by
 let⟨φ,_,_,en,_,_⟩:=c.ex;exact dL (en m _ ht)
def Cfg.weak {C:Ctx} {s:IS} (c:Cfg P C i s Q w) {q:ve} (he:∀t x,q.get t=Z x->s.e.get t=Z x) :Cfg P C i ⟨q,s.h,s.nx,m⟩ Q w:=by
 let⟨φ,z,r,en,D⟩:=c.ex;exact⟨⟨φ,z,r,λt x A=>en t x (he t x A),D⟩,c.low,c.inert,c.size⟩
variable {E:Exit->Act->World->Prop}
def xo {c:Code} (I:Nat->Act->World->Prop) (round:∀n a w,I n a w->c.wp P (Exit.then (λq w'=>∃m,m<n/\I m q w') E) a w) {n:Nat} {a:Act} (h0:I n a w):(Code.loop c).wp P E a w:=by
 have least:∀(n:Nat) (a:Act) (w:World),I n a w->∃m,I m a w/\∀k,I k a w->m<=k:=by
  intro n;induction n using Nat.strongRecOn with
  |_ n A=>grind
 have pick:∀a w,∃m,(∃n,I n a w)->I m a w/\∀k,I k a w->m<=k:=λa w=>by
  by_cases D:∃n,I n a w
  .grind
  .simp_all
 let μ:Act->World->Nat:=λa w=>Classical.choose (pick a w)
 have hμ:∀a w,(∃n,I n a w)->I (μ a w) a w/\∀k,I k a w->μ a w<=k:=λa w=>Classical.choose_spec (pick a w)
 refine wp_loop (λa w=>∃n,I n a w) μ ⟨n,h0⟩ λa w z=>?_
 refine wp_mono (round (μ a w) a w (hμ a w z).1) λe q w' he=>?_
 cases e with
 |normal=>grind
 |_=>exact he
def Ex.to:Ex->Exit
 |.normal=>.normal
 |.exit id=>.exit id
 |.ret=>.ret
def yi (P:Program) (inert:FuncId->Bool):Prop:=∀f,inert f=J->xl P f/\∀(args:Array Value) (w:World),CallsD P f args .returning w λe c w'=>(∃v,e= .returned v)/\c= .returning/\w'=w
variable {d:FuncId->Bool}
def TO {C:Ctx} (hin:yi P d) {s:IS} (c:Cfg P C i s Q w) {caps:Y Operand} {t:Nat} (hd:(L.toList.all λo=>match o.dst with|some inert=>decide (inert<i)|none=>J)=J) (hdf:xW L b=Z (f,caps,t))
 (hl:YT s.e caps=Z N) (hi:d f=J) {a:Exit->Act->World->Prop} (hQ:∀Q w,Cfg P C i ⟨s.e.put (Z t) (.qy f N),s.h,s.nx,s.wr⟩ Q w->a .normal Q w):(Code.region m L b).wp P a Q w:=by
 unfold xW at hdf;split at hdf
 .rename_i p q hops;split at hdf
  .rename_i I first caps' l cl hpo hpg hpd hqo hqg hqd
   split at hdf
   .rename_i t2 hcl hca;split at hdf
    .rename_i hcond;simp only[al]at hcond;let⟨h1,h2⟩:=hcond;have h1:=au h1;have h2:first=#[]:=by grind
     simp only[af,aU]at hdf;obtain⟨rfl,rfl,rfl⟩:=hdf;subst h1 h2;have hops':L=#[p,q]:=by grind
     let⟨φ,id,r,en,dm⟩:=c.ex;let⟨hcb,hincalls⟩:=hin I hi;have htn:l<i:=by grind
     have hrelL:ik φ (tot C.E φ s.h.get) w N (caps'.toList.map Q.eval):=by
      have hp':OT φ C.E s.h.get w Q s.e p:=λx y D hy=>pq r (xs:=p.op.operands) (λt _ y hy=>en t y hy) D hy
      exact FE hp' caps'.toList N (λx D=>by rw[hpo];simpa[Op.operands] using D) hl
     have hcm:caps'.map Q.eval=(caps'.toList.map Q.eval).toArray:=by grind
     let A:Value:=.func (.func I) #[] (caps'.map Q.eval)
     have hrel:cm φ (tot C.E φ s.h.get) w (.qy I N) A:=by
      simp only[A];rw[hcm];refine .qy (ik.length hrelL) ?_;have:∀(xs:Y AV) (vs:ξ),ik φ (tot C.E φ s.h.get) w xs vs->∀(j:Nat) x v,xs[j]? =Z x->vs[j]? =Z v->cm φ (tot C.E φ s.h.get) w x v:=by
       intro xs;induction xs with
       |nil=>intro vs _ j x v D;simp at D
       |cons y xs ih=>
        intro vs h j x v D hv;cases vs with
        |nil=>exact h.elim
        |cons u vs=>
         cases j with
         |zero=>simp at D hv;subst D hv;exact h.1
         |succ j=>exact ih vs h.2 j x v (by grind) (by grind)
      exact this _ _ hrelL
     refine wp_region ?_;have hr2:lY L.size=[0,1]:=by rw[hops'];rfl
     rw[hr2];have e0:L[0]? =Z p:=by grind
     have e1:L[1]? =Z q:=by grind
     rw[wpOps_cons];have hexec1:(execOp Q.eval p).run P w= .ok (.value A) w:=by
      unfold execOp;rw[hpo];simp[Instr.makeFunc,A]
     have w1:iJ p (yielded L Q.tmps)=J:=by unfold iJ;rw[hpg]
     unfold wpOp;simp only[e0,w1,bo];left;unfold vp;rw[hexec1];show wpOps P L a [1] (Q.put p.dst A) w;rw[wpOps_cons];unfold wpOp;have w2:iJ q (yielded L (Q.put p.dst A).tmps)=J:=by unfold iJ;rw[hqg]
     simp only[e1,w2,bo];left;have heval:(Q.put p.dst A).eval (.tmp l)=A:=by
      show (Q.put p.dst A).tmps.getD l undef=A;rw[Dn (by intro inert z;rw[hpd]at z;cases z;rw[c.size];exact htn),aR hpd]
     have hargs:cl.args=#[]:=by grind
     have hexec2:(execOp (Q.put p.dst A).eval q).run P w= .ok (.defer {target:=.fn (.func I) (caps'.map Q.eval),args:=#[]}) w:=by
      unfold execOp;rw[hqo];simp[resolve,hcl,heval,A,vu,hargs]
     unfold vp;rw[hexec2];show wpOps P L a [] _ w;refine hQ _ _ ⟨⟨φ,id,r,?_,dm⟩,c.low,?_,?_⟩
     .intro u x D;rw[hqd];show cm φ _ w x ((Q.put p.dst A).tmps.getD u undef);rw[Dn (by intro inert z;rw[hpd]at z;cases z;rw[c.size];exact htn)];have F:(s.e.put (Z l) (.qy I N)).get u=Z x:=D;rw[<- R1]at F;unfold Do at F;rw[hpd];by_cases hu:Z l=Z u
      .grind
      .rw[aE hu]at F ⊢;exact en u x F
     .intro inert z;rw[hqd]at z;have hd'':inert={target:=.fn (.func I) (caps'.map Q.eval),args:=#[]}\/inert∈(Q.put p.dst A).defers:=by
       simpa[Act.put] using z
      rcases hd'' with rfl|hd''
      .intro w0;refine ⟨_,_,I,caps'.map Q.eval,rfl,?_,hincalls _ w0⟩;simp[invoke,nR hcb]
      .rw[CA]at hd'';exact c.inert inert hd''
     .rw[hqd];show (Q.put p.dst A).tmps.size=i;rw[Jn];exact c.size
    .cases hdf
   .cases hdf
  .cases hdf
 .cases hdf
def Zy {C:Ctx} {call:uY} (hm:P.follows .mixedOrders=J) (hcall:yn P call) (hin:yi P d):∀(c:Code) (s:IS) (ex:Ex) (s':IS),run call d m (bA P i c) s=Z (ex,s')->
 ∀a w,Cfg P C i s a w->c.wp P (λe D w'=>e=ex.to/\Cfg P C i s' D w') a w:=by
 intro c;induction c with
 |skip=>
  intro s ex s' h a w z;obtain⟨rfl,rfl⟩:=h;exact wp_skip ⟨rfl,z⟩
 |region id ops dr=>
  intro s ex s' h a w z;simp only[bA]at h;split at h
  .rename_i hd;split at h
   .rename_i f caps t hdf;simp[run]at h;split at h
    .rename_i l hl;split at h
     next hi=>rw[II]at h;obtain⟨rfl,rfl⟩:=h;exact TO hin z hd hdf hl hi λa w q=>⟨rfl,q⟩
     .cases h
    .cases h
   .split at h
    .rename_i sl hsl;split at h
     .rename_i prs hprs;simp[run]at h;split at h
      .rename_i s2 fs hr;split at h
       next hok=>obtain⟨rfl,rfl⟩:=h;exact Po hm hcall z hd hsl hprs hr hok λa w q=>⟨rfl,q⟩
       .cases h
      .cases h
     .simp[run]at h
    .simp[run]at h
  .simp[run]at h
 |seq x y ihx ihy=>
  intro s ex s' h a w z;simp[bA,run]at h;split at h
  next A h1=>refine wp_seq (wp_mono (ihx s .normal A h1 a w z) ?_);rintro e D w' ⟨rfl,q⟩;exact ihy A ex s' h D w' q
  .rename_i hne;refine wp_seq (wp_mono (ihx s ex s' h a w z) ?_);rintro e D w' ⟨rfl,q⟩;cases ex with
   |normal=>exact bO h (λh=>hne s' h)
   |_=>exact⟨rfl,q⟩
 |cond o x y ihx ihy=>
  intro s ex s' h a w z;cases o with
  |tmp t=>
   simp[bA,run]at h;split at h
   next ht=>exact wp_cond_true (z.bool ht) (ihx s ex s' h a w z)
   next ht=>exact wp_cond_false (z.bool ht) (ihy s ex s' h a w z)
   .cases h
  |const v=>
   cases v with
   |bool b=>
    cases b with
    |true=>exact wp_cond_true rfl (ihx s ex s' h a w z)
    |false=>exact wp_cond_false rfl (ihy s ex s' h a w z)
   |_=>simp[bA,run]at h
  |_=>simp[bA,run]at h
 |block id x F=>
  intro s ex s' h a w z;simp only[bA,run]at h;split at h
  .rename_i nt A h1;refine wp_block (wp_mono (F s (.exit nt) A h1 a w z) ?_);simp[Ex.to,Exit.inBlock];split at h
   .rename_i N;have N:=au N
    grind
   next N=>obtain⟨rfl,rfl⟩:=h;simp_all
  .rename_i hne;refine wp_block (wp_mono (F s ex s' h a w z) ?_);rintro e D w' ⟨rfl,q⟩;cases ex with
   |exit id=>exact bO h (λh=>hne id s' h)
   |_=>exact⟨rfl,q⟩
 |loop x F=>
  intro s ex s' h a w z;refine xo (λn a w=>∃A,Gr (run call d m (bA P i x)) s.e n A=Z (ex,s')/\Cfg P C i A a w) ?_ ⟨s,h,z⟩;rintro n a1 w1 ⟨A,h1,I⟩;cases n with
  |zero=>simp[Gr]at h1
  |succ n=>
   simp[Gr]at h1;split at h1
   next e2 h2 nx2 wr2 N=>rw[vM]at h1;refine wp_mono (F A .normal _ N a1 w1 I) ?_;rintro e D w' ⟨rfl,q⟩;exact⟨n,by omega,_,h1,q.weak λt x hx=>PT.get_mask _ _ _ _ hx⟩
   .rename_i hne;refine wp_mono (F A ex s' h1 a1 w1 I) ?_;rintro e D w' ⟨rfl,q⟩;cases ex with
    |normal=>let⟨e',h',nx',wr'⟩:=s';exact bO h1 (λh=>hne e' h' nx' wr' h)
    |_=>exact⟨rfl,q⟩
 |exit id=>
  intro s ex s' h a w z;obtain⟨rfl,rfl⟩:=h;exact wp_exit ⟨rfl,z⟩
 |ret=>
  intro s ex s' h a w z;obtain⟨rfl,rfl⟩:=h;exact wp_ret ⟨rfl,z⟩
 |rangeFunc f ps as b _ _|scope b _|label l|goto l|refuse y=>intro s ex s' h;simp[bA,run]at h
def Zz {call:uY} (hcall:yn P call):∀(c:Code) (s:IS) (ex:Ex) (s':IS),run call d m (bA P i c) s=Z (ex,s')->
 (∀nt,aC s'.wr nt=aa->s'.h.get nt=s.h.get nt/\aC s.wr nt=aa):=by
 intro c;induction c with
 |skip=>
  intro s ex s' h;simp[bA,run,af,aU]at h
  grind
 |region id ops dr=>
  intro s ex s' h;simp[bA]at h;split at h
  .split at h
   .rename_i f caps t hdf;simp[run]at h;split at h
    .split at h
     .rw[II]at h
      grind
     .cases h
    .cases h
   .split at h
    .rename_i sl hsl;split at h
     .simp[run]at h;split at h
      .rename_i A fs F;split at h
       .simp[af,aU]at h;obtain⟨rfl,rfl⟩:=h;let⟨l,I⟩:=xt hcall ops.toList sl s A fs hsl F;exact I.frame
       .cases h
      .cases h
     .simp[run]at h
    .simp[run]at h
  .simp[run]at h
 |seq x y ihx ihy=>
  intro s ex s' h;simp[bA,run]at h
  grind
 |cond o x y ihx ihy=>
  intro s ex s' h;cases o with
  |tmp t=>
   simp[bA,run]at h
   grind
  |const v=>
   cases v with
   |bool b=>
    cases b with
    |true=>exact ihx s ex s' h
    |false=>exact ihy s ex s' h
   |_=>simp[bA,run]at h
  |_=>simp[bA,run]at h
 |block id x z=>
  intro s ex s' h;simp[bA,run]at h
  grind
 |loop x z=>
  intro s ex s' h;have key:∀(n:Nat) (q:IS),Gr (run call d m (bA P i x)) s.e n q=Z (ex,s')->∀nt,aC s'.wr nt=aa->s'.h.get nt=q.h.get nt/\aC q.wr nt=aa:=by
   intro n;induction n with
   |zero=>intro q h1;simp[Gr]at h1
   |succ n ihn=>
    intro q h1;simp[Gr]at h1;split at h1
    next e2 h2 nx2 wr2 N=>rw[vM]at h1;intro nt hi;let⟨q1,D⟩:=ihn _ h1 nt hi;let⟨q3,q4⟩:=z q .normal _ N nt D;exact⟨q1.trans q3,q4⟩
    .exact z q ex s' h1
  exact key m s h
 |exit id|ret=>
  intro s ex s' h;simp[bA,run,af,aU]at h
  grind
 |rangeFunc f ps as b _ _|scope b _|label l|goto l|refuse y=>intro s ex s' h;simp[bA,run]at h
def Pn (tmps:Array Value):ResultVar->Sem Value
 |.tmp t=>pure (tmps.getD t undef)
 |.cell a t=>do
  let c<-asAddr (tmps.getD a undef)
  loadVar t c
def Jk (fn:Func) (tmps:Array Value):results fn tmps=(do let vs<-fn.results.mapM (Pn tmps);pure (if h:vs.size=1 then vs[0] else .tuple vs)):=by
 congr 2
def VZ {s:IS} (r:oM V O s.h.get w) (en:Mf V (tot O V s.h.get) w s.e.get Q):∀(D:Y ResultVar) (rvs:Y RV) (l:Y AV),mK P D=Z rvs->V0 s.e s.h rvs=Z l->
 ∃vs,(D.mapM (Pn Q.tmps)).run P w= .ok vs w/\ik V (tot O V s.h.get) w l vs
 |[],rvs,l,z,c=>by
  simp[mK,af]at z;subst z;simp[V0,af]at c;subst c;exact⟨[],by simp,trivial⟩
 |.tmp t::D,rvs,l,z,c=>by
  simp[mK]at z;split at z
  .rename_i rvs' hrs;simp[af]at z;subst z;simp[V0]at c;split at c
   next v l' N A=>simp[af]at c;subst c;let⟨vs,h1,F⟩:=VZ r en D rvs' l' hrs A;refine ⟨Q.tmps.getD t undef::vs,?_,en t v N,F⟩;simp[List.mapM_cons,ec,Pn,mB,cJ];simp_all
   .cases c
  .cases z
 |.cell I t::D,rvs,l,z,c=>by
  simp[mK]at z;split at z
  .rename_i rvs' sz ag hrs hsz hag;simp[af]at z;subst z;simp[V0]at c;split at c
   .rename_i p hp;split at c
    .rename_i R l' hR A;simp[af]at c;subst c;let⟨vs,h1,F⟩:=VZ r en D rvs' l' hrs A;let⟨_,_,_,h3⟩:=LX hsz hag hR;let⟨q,v,h4,h5,h6⟩:=h3 V O s.h.get w _ (λ_ _=>rfl) r (en I p hp);refine ⟨v::vs,?_,h6,F⟩;have hone:(Pn Q.tmps (.cell I t)).run P w= .ok v w:=by
      simp[Pn,ec,h4,asAddr,mB,cJ,h5]
     simp_all
    .cases c
   .cases c
  .cases z
def xE {P:Program} {fn:Func} {tmps:Array Value} {R:Ending->World->Prop} {w:World} {v:Value} (c:(results fn tmps).run P w= .ok v w) (q:R (.returned v) w):∀(ds:Y Deferred),(∀d∈ds,Vf P d)->Leaves P fn tmps R ds .returning w
 |[],_=>⟨v,c,q⟩
 |d::ds,h=>by
  let⟨D,cap,f,args,h1,A,z⟩:=h d (cS ..) w;refine ⟨by simp,D,cap,f,args,h1,A,z.mono ?_⟩;rintro e I w' ⟨⟨F,rfl⟩,rfl,rfl⟩;exact xE c q ds λd hd=>h d (cq _ hd)
def UX:∀(args:Y AV) (k t:Nat) (x:AV),(XP k args).get t=Z x->k<=t/\args[t-k]? =Z x
 |[],k,t,x,h=>by simp[XP,PT.get]at h
 |y::args,k,t,x,h=>by
  rw[XP,PT.get_set]at h;split at h
  .grind
  .obtain⟨h1,c⟩:=UX args (k+1) t x h
   grind
def ik.get :∀{xs:Y AV} {vs:ξ},ik V O w xs vs->∀(j:Nat) x,xs[j]? =Z x->∃v,vs[j]? =Z v/\cm V O w x v
 |[],_,_,j,x,c=>by simp at c
 |_::_,[],h,_,_,_=>h.elim
 |y::xs,u::vs,h,j,x,c=>by
  cases j with
  |zero=>simp at c;subst c;exact⟨u,rfl,h.1⟩
  |succ j=>exact ik.get h.2 j x (by grind)
def ar4 (P:Program) (tbl:FuncId→M SF):Prop:=∀f q,tbl f=Z q→∃fn c,P.funcs[f]? =Z fn∧fn.body=Z c∧(fn.name== "runtime.NumGoroutine")=aa∧q.code=bA P fn.ntmps c∧mK P fn.results.toList=Z q.res∧q.nt=fn.ntmps
def LA {q:SF} (h:yO P f=Z q):∃fn c,P.funcs[f]? =Z fn∧fn.body=Z c∧(fn.name== "runtime.NumGoroutine")=aa∧q.code=bA P fn.ntmps c∧mK P fn.results.toList=Z q.res∧q.nt=fn.ntmps:=by
 unfold yO at h
 grind
def LP {call:uY} {inert:FuncId→Bool} (hm:P.follows .mixedOrders=J) (hcall:yn P call) (hin:yi P inert) {sf:SF} {fn:Func} {c:Code} (hf:P.funcs[f]? =Z fn) (D:fn.body=Z c) (hnm:(fn.name== "runtime.NumGoroutine")=aa) (hcode:sf.code=bA P fn.ntmps c) (hres:mK P fn.results.toList=Z sf.res)
 {h:gy} {ex:Ex} {s:IS} (hrun:run call inert i sf.code ⟨XP 0 N,h,m,0⟩=Z (ex,s)) (hex:ex= .ret∨ex= .normal) (hargs:l! N≤fn.ntmps) {r:OY} (F:Yr m (PT.dom 1 0 h 0) sf.res s=Z r):ak2 P f N h m r:=by
 rw[hcode]at hrun;have hfr:=Zz hcall c _ _ _ hrun;unfold Yr at F;split at F
 .rename_i l hres';simp only[Ql,r_,vM]at F;generalize hids:(NQ 1000000 s.h (AV.ids (yU l) (PT.dom 1 0 h 0)) 0|||PT.dom 1 0 h 0)=ids at F;generalize hh':PT.only ids 1 0 s.h=h' at F;generalize hexx:((PT.dom 1 0 h' 0)>>>m)<<<m=ex' at F;split at F
  .rename_i hcond;simp only[al]at hcond;let⟨⟨hlow,hall⟩,hallh⟩:=hcond;have hlow:PT.dom 1 0 h 0>>>m=0:=au hlow;simp only[af]at F;subst F;have hdom:∀fI b,h.get fI=Z b→aC (PT.dom 1 0 h 0) fI=J∧fI<m:=λfI b D=>by
    have h1:=PT.dom_get h 1 0 0 fI b D;rw[Nat.one_mul,dQ]at h1;refine ⟨h1,?_⟩;rcases bZ fI m with z|z
    .exact z
    .have:=Nat.testBit_shiftRight (PT.dom 1 0 h 0) (i:=m) (j:=fI-m);rw[hlow,show m+(fI-m)=fI from by omega,h1]at this;simp at this
   have hh'g:∀fI,h'.get fI=if aC ids fI then s.h.get fI else U:=λfI=>by rw[← hh',PT.get_only];simp
   have hexb:∀fI,aC ex' fI=J↔m≤fI∧aC (PT.dom 1 0 h' 0) fI=J:=λfI=>by grind
   have hwr:∀fI,aC (s.wr%(1<<<m)|||ex') fI=J↔(fI<m∧aC s.wr fI=J)∨aC ex' fI=J:=λfI=>by
    rw[bj,eX,AS,Nat.testBit_mod_two_pow,al,bG]
   refine ⟨⟨fn,hf,by rw[D];rfl,hnm⟩,λfI hi=>?_,λfI hi hge=>?_,?_,?_⟩
   ·
    have hi1:¬(fI<m∧aC s.wr fI=J)∧¬aC ex' fI=J:=by
     rw[← not_or,←hwr fI,hi];simp
    show h'.get fI=h.get fI;rw[hh'g];rcases bZ fI m with h1|h1
    .have z:aC s.wr fI=aa:=by
      cases A:aC s.wr fI with
      |false=>rfl
      |true=>exact bO ⟨h1,A⟩ hi1.1
     have I:=(hfr fI z).1;simp only at I;rw[I];cases A:h.get fI with
     |none=>simp
     |some b=>
      rw[aR];rw[← hids,bj,(hdom fI b A).1,Bool.or_true]
    .have z:h.get fI=U:=by
      cases A:h.get fI with
      |none=>rfl
      |some b=>have:=(hdom fI b A).2;omega
     rw[z,←hh'g];cases A:h'.get fI with
     |none=>rfl
     |some b=>
      have h4:=PT.dom_get h' 1 0 0 fI b A;rw[Nat.one_mul,dQ]at h4;exact bO ((hexb fI).2 ⟨h1,h4⟩) hi1.2
   ·
    rcases (hwr fI).1 hi with h1|h1
    .omega
    .show fI<(if ay ex' 0 then m else Nat.log2 ex'+1)
     have z:=Nat.ge_two_pow_of_testBit h1;have I:ex'≠0:=by intro h0;rw[h0]at h1;simp at h1
     rw[aE (by intro D;exact I (au D))];have:=(Nat.le_log2 I).2 z;omega
   .show m≤(if ay ex' 0 then m else Nat.log2 ex'+1)
    split
    .exact bL _
    .rename_i hne;have I:ex'≠0:=λh0=>hne (by rw[h0];rfl)
     have hbit:=Nat.testBit_log2 I;have:=((hexb _).1 hbit).1;omega
   ·
    intro φ E w vs hrep hrel hnx;have hlen:=ik.length hrel
    let C:Ctx:=⟨m,φ,E,h.get,w⟩
    refine calls_of_wp_defers hf D ?_;have hcfg:Cfg P C fn.ntmps ⟨XP 0 N,h,m,0⟩ {tmps:=vs.toArray++lZ (fn.ntmps-vs.toArray.size) undef,defers:=[]} w:=by
     refine ⟨⟨φ,gR.refl _ _ _,hrep,?_,hnx,λfI k q=>.inl q⟩,bL _,by simp,by simp;omega⟩;intro t x A;let⟨_,z⟩:=UX N 0 t x A;rw[Nat.sub_zero]at z;let⟨v,I,h4⟩:=hrel.get t x z;have hlt:t<l! vs:=(bm.1 I).1;have:(vs.toArray++lZ (fn.ntmps-vs.toArray.size) undef).getD t undef=v:=by
      rw[gE,Array.getElem?_append];simp only[tL,hlt,bo,Cr,I,Option.getD_some]
     show cm φ _ w x ((vs.toArray++lZ (fn.ntmps-vs.toArray.size) undef).getD t undef);rw[this];exact h4
    refine wp_mono (Zy (C:=C) hm hcall hin c _ ex s hrun _ w hcfg) ?_;rintro e a' w' ⟨rfl,hc'⟩;let⟨φ1,m1,r1,en1,dm1,d01⟩:=hc'.ex;let⟨rvs,hrr,hrl⟩:=VZ r1 en1 fn.results.toList sf.res l hres hres';have hresults:(results fn a'.tmps).run P w'= .ok (if h:rvs.toArray.size=1 then rvs.toArray[0] else .tuple rvs.toArray) w':=by
     rw[Jk,NC];simp only[ec,Sem.run_map,hrr,cJ,mB]
    have hval:cm φ1 (tot E φ1 s.h.get) w' (yU l) (if h:rvs.toArray.size=1 then rvs.toArray[0] else .tuple rvs.toArray):=by
     have hll:=ik.length hrl;cases l with
     |nil=>
      cases rvs with
      |nil=>exact cm.qb (vs:=[]) rfl (by intro j x v A;simp at A)
      |cons _ _=>exact hrl.elim
     |cons x l=>
      cases rvs with
      |nil=>exact hrl.elim
      |cons v rvs=>
       cases l with
       |nil=>
        cases rvs with
        |nil=>exact hrl.1
        |cons _ _=>exact hrl.2.elim
       |cons y l=>
        cases rvs with
        |nil=>exact hrl.2.elim
        |cons u rvs=>
         rw[dif_neg (by simp)];refine cm.qb (vs:=v::u::rvs) (by simpa using hll) λj x' v' A hv=>?_
         let⟨v'',q1,args⟩:=hrl.get j x' A;rw[hv]at q1;cases q1;exact args
    have hp:∀fI,(db fI m||aC ex' fI)=J→fI<m∨aC ex' fI=J:=λfI hi=>by
     rw[eX]at hi;exact hi.imp aW id
    let φ2:PM:=λfI=>if (db fI m||aC ex' fI)=J then φ1 fI else U
    have φ2_of:∀fI k,(db fI m||aC ex' fI)=J→φ1 fI=Z k→φ2 fI=Z k:=λfI k h1 z=>by simp only[φ2,h1,bo];exact z
    have φ2_sub:∀fI k,φ2 fI=Z k→φ1 fI=Z k∧(fI<m∨aC ex' fI=J):=λfI k q=>by
     simp only[φ2]at q;split at q
     next hi=>exact⟨q,hp fI hi⟩
     .cases q
    have hsubh:∀fI b,h'.get fI=Z b→s.h.get fI=Z b:=λfI b D=>by
     rw[hh'g]at D;split at D
     .exact D
     .cases D
    have own2:∀k,own φ2 h'.get k→own φ1 s.h.get k:=by
     rintro k ⟨fI,b,q1,args⟩;exact⟨fI,b,hsubh fI b q1,(φ2_sub fI k args).1⟩
    have tot2:∀k,tot E φ2 h'.get k→tot E φ1 s.h.get k:=λk q=>q.imp id (own2 k)
    have rel2:∀x v,x.all (λfI=>db fI m||aC ex' fI)=J→cm φ1 (tot E φ1 s.h.get) w' x v→cm φ2 (tot E φ2 h'.get) w' x v:=λx v A hr=>hr.restrict φ2_of tot2 A
    have final:∀R:Ending→World→Prop,R (.returned (if h:rvs.toArray.size=1 then rvs.toArray[0] else .tuple rvs.toArray)) w'→Leaves P fn a'.tmps R a'.defers .returning w':=λR hR=>xE hresults hR a'.defers hc'.inert
    have post:∃v φ',Ending.returned (if h:rvs.toArray.size=1 then rvs.toArray[0] else .tuple rvs.toArray)= .returned v∧gR φ φ' h.get h'.get w w'∧oM φ' E h'.get w'∧cm φ' (tot E φ' h'.get) w' (yU l) v∧∀fI k,φ' fI=Z k→φ fI=Z k∨(m≤fI∧aC (s.wr%(1<<<m)|||ex') fI=J):=by
     refine ⟨_,φ2,rfl,⟨λfI k q=>?_,m1.ext,λk q ho=>m1.qn k q (own2 k ho)⟩,⟨λfI j b b' k q1 args q3 q4=>r1.inj fI j b b' k (hsubh fI b q1) (hsubh j b' args) (φ2_sub fI k q3).1 (φ2_sub j k q4).1,λfI b D=>?_,r1.el,λg cells hg=>(r1.gl g cells hg).ext (C5.refl _ w') λk _ q=>tot2 k q⟩,rel2 _ _ hall hval,λfI k q=>?_⟩
     .refine φ2_of fI k ?_ (m1.sub fI k q);have:db fI m=J:=bf (hnx fI k q);rw[this];rfl
     .obtain⟨g1,g2⟩:=YE hallh D;let⟨k,q1,args,ob,q3,q4⟩:=r1.at_ fI b (hsubh fI b D);exact⟨k,φ2_of fI k g1 q1,args,ob,q3,q4.restrict rel2 g2⟩
     .obtain⟨q1,args⟩:=φ2_sub fI k q;rcases d01 fI k q1 with h1|h1
      .exact .inl h1
      .have h1:m≤fI:=h1;rcases args with z|z
       .omega
       .exact .inr ⟨h1,(hwr fI).2 (.inr z)⟩
    rcases hex with rfl|rfl
    .exact final _ post
    .exact final _ post
  .cases F
 .cases F
def Cz {tbl:FuncId->M SF} {intr:uY} (hm:P.follows .mixedOrders=J) (htbl:ar4 P tbl) (hintr:yn P intr) (hin:yi P d):∀n,yn P (acu tbl intr d i n)
 |0=>by intro f args h nx r q;simp[acu]at q
 |n+1=>by
  intro f args h nx r q;simp[acu]at q;split at q
  next r' hg=>simp[af]at q;subst q;exact hintr f args h nx _ hg
  .split at q
   .rename_i N hsf;let⟨fn,c,h1,I,F,D,A,h6⟩:=htbl f N hsf;split at q
    .rename_i hle;have hle:l! args<=fn.ntmps:=by simp_all
     rw[vM]at q;split at q
     next s z=>exact LP hm (Cz hm htbl hintr hin n) hin h1 I F D A z (.inl rfl) hle q
     next s z=>exact LP hm (Cz hm htbl hintr hin n) hin h1 I F D A z (.inr rfl) hle q
     .cases q
    .cases q
   .cases q
def ajp {b:Value} (h:anm v b=J):v=b:=by
 unfold anm at h;split at h
 .simp at h;rw[h]
 .grind
 .rw[vS.1 h]
 .simp_all
 .rfl
 .grind
 .cases h
def PT.mapO {β:Type} (g:R->M β):PT R->PT β
 |.leaf=>.leaf
 |.node v l r=>.node (v.bind g) (PT.mapO g l) (PT.mapO g r)
def PT.get_mapO {β:Type} (g:R->M β):∀(t:PT R) (i:Nat),(PT.mapO g t).get i=(t.get i).bind g
 |.leaf,i|.node v l r,0=>by simp[PT.mapO,PT.get]
 |.node v l r,j+1=>by
  simp[PT.mapO,PT.get];split
  .exact PT.get_mapO g l _
  .exact PT.get_mapO g r _
def PT.get_updI (f:Nat->R->R):∀(t:PT R) (a b i:Nat),(PT.updI f a b t).get i=(t.get i).map (f (a*i+b))
 |.leaf,_,_,i=>by simp[PT.updI,PT.get]
 |.node v l r,a,b,0=>by cases v<;>simp[PT.updI,PT.get]
 |.node v l r,a,b,j+1=>by
  simp only[PT.updI,PT.get];split
  .rename_i c;rw[PT.get_updI f l];have:2*a*(j/2)+(a+b)=a*(j+1)+b:=by
    have q:j=2*(j/2):=by have:=au c;omega
    grind
   rw[this]
  .rename_i c;rw[PT.get_updI f r];have:2*a*(j/2)+(2*a+b)=a*(j+1)+b:=by
    have h1:j%2≠0:=λh=>c (by rw[h];rfl)
    have q:j=2*(j/2)+1:=by omega
    grind
   rw[this]
def PT.bound :∀(t:PT R),∃B,∀i,B<=i->t.get i=U
 |.leaf=>⟨0,λi _=>rfl⟩
 |.node v l r=>by
  let⟨a,q⟩:=PT.bound l;let⟨b,c⟩:=PT.bound r;refine ⟨2*(a+b)+3,λi hi=>?_⟩;cases i with
  |zero=>omega
  |succ j=>
   simp[PT.get]
   grind
def PT.ofF (f:Nat->M R):Nat->PT R
 |0=>.leaf
 |n+1=>(PT.ofF f n).set n (f n)
def PT.get_ofF (f:Nat->M R):∀(n i:Nat),(PT.ofF f n).get i=if i<n then f i else U
 |0,i=>by simp[PT.ofF,PT.get]
 |n+1,i=>by
  rw[PT.ofF,PT.get_set,PT.get_ofF f n]
  grind
def iM (i k:Nat):Nat:=2^i*(2*k+1)-1
def nm (i:Nat):Nat:=iM i 0
def owA:Nat->Nat->Nat
 |0,_=>0
 |f+1,m=>if m%2=1 then 0 else owA f (m/2)+1
def ow (n:Nat):Nat:=owA (n+1) (n+1)
def ix (n:Nat):Nat:=(n+1)/2^ow n/2
def Yh:∀(i f k:Nat),i<f->owA f (2^i*(2*k+1))=i
 |0,f+1,k,_=>by rw[owA,aR (by omega)]
 |i+1,f+1,k,h=>by
  have e:2^(i+1)*(2*k+1)=2*(2^i*(2*k+1)):=by grind
  rw[owA,aE (by omega),e,Nat.mul_div_cancel_left _ (by omega),Yh i f k (by omega)]
def Yi:∀(f m:Nat),0<m->m<=f->2^owA f m*(2*(m/2^owA f m/2)+1)=m
 |0,m,h0,h=>by omega
 |f+1,m,h0,h=>by
  rw[owA];split
  .omega
  .have c:=Yi f (m/2) (by omega) (by omega);rw[Nat.pow_succ,Nat.mul_comm (2^owA f (m/2)) 2,<-Nat.div_div_eq_div_mul,Nat.mul_assoc,c];omega
def Yl (i k:Nat):0<2^i*(2*k+1):=Nat.mul_pos (Nat.two_pow_pos i) (by omega)
def im (i k:Nat):ow (iM i k)=i:=by
 have h:=Yl i k;have c:i<2^i*(2*k+1):=dj Nat.lt_two_pow_self (Nat.le_mul_of_pos_right _ (by omega));unfold ow iM;rw[Nat.sub_add_cancel h,Yh _ _ _ c]
def uH (i k:Nat):ix (iM i k)=k:=by
 have h:=Yl i k;unfold ix;rw[im];unfold iM;rw[Nat.sub_add_cancel h,Nat.mul_div_cancel_left _ (Nat.two_pow_pos i)];omega
def j9 (n:Nat):iM (ow n) (ix n)=n:=by
 have:=Yi (n+1) (n+1) (by omega) (bL _);unfold iM ix ow;rw[this];rfl
def oC (h:ix i=0):i=nm (ow i):=by
 have:=j9 i;rw[h]at this;exact this.symm
def dh (i:Nat):ow (nm i)=i:=im i 0
def aqm (i:Nat):ix (nm i)=0:=uH i 0
def tO {k l:Nat} (h:iM i k=iM m l):i=m/\k=l:=by
 have h1:=iQ ow h;have c:=iQ ix h;rw[im,im]at h1;rw[uH,uH]at c;exact⟨h1,c⟩
def s5 (h:nm i=nm m):i=m:=(tO h).1
def dA (p:Bool) (id sz n:Nat):AV:=if p&&n==0 then .emp else .G (nm id) sz n
def oP (id:Nat) (j:Int):Nat:=iM id (3*j.toNat+1)
def sZ (id:Nat) (j sz n:Nat):AV:=if n==0 then .emp else .G (iM id (j+1)) sz n
def Ib:Sb->AV
 |.ob id j off=>.H (oP id j) off
 |.om id j b=>.mp (iM id (3*j.toNat+2+b))
 |.nr id j sz n=>sZ id j.toNat sz n
 |.np id j sz i off=>.H (iM id (j.toNat+1)) (i.toNat*sz+off)
 |.nl q=>.f (.raw (match q with|true=>.map U|false=>.nilFunc))
mutual
def b7 (h:a_):TV->M AV
 |.f T v=>Z (.f (fC T v))
 |.zw T xs j _ off=>Z (.f (.H (xs.flatMap (bP T)) (j.toNat*T.size+off)))
 |.qr id sz j off=>Z (.H (nm id) (j.toNat*sz+off))
 |.H id off=>Z (.H (nm id) off)
 |.qk id sz n=>Z (.G (nm id) sz n)
 |.G id=>match ep h id with|some (p,sz,n)=>Z (dA p id sz n)|none=>U
 |.zp id j=>match ep h id with|some (_,sz,n)=>Z (.sl (nm id) (j.toNat*sz) (n-j.toNat))|none=>U
 |.emp=>Z .emp
 |.nil=>Z (.f (.raw (.slice U 0 0)))
 |.mp id=>Z (.mp (nm id))
 |.agg l=>match cN h l with|some l'=>Z (.agg l')|none=>U
 |.qb l=>match cN h l with|some l'=>Z (.qb l')|none=>U
 |.qy g l=>match cN h l with|some l'=>Z (.qy g l')|none=>U
 |.undef=>Z (.f (.raw undef))
 |.np=>Z (.f (.raw (.pointer U)))
 |.qv=>Z .qv
 |.qh T xs=>Z (.qh (xs.flatMap (bP T)) (ah xs))
 |.sb s=>Z (Ib s)
def cN (h:a_):Y TV->M (Y AV)
 |[]=>Z []
 |x::r=>match b7 h x with
  |some y=>(match cN h r with|some l=>Z (y::l)|none=>U)
  |none=>U
end
def pU:(K:Ty)->K.den->Value
 |.int k,n=>.int k n
 |.str,s=>.string ⟨iO s⟩
 |_,_=>undef
def mpC:(K V:Ty)->Y (K.den×V.den)->BC
 |.st (.pr .str (.int .i64)),.un,es=>.it ⟨iO (itS es)⟩ (itP es)
 |K,V,es=>.mp (es.map λp=>(pU K p.1,.f (fC V p.2)))
variable {T:Ty}
def zR {V:Ty} {es:Y (T.den×V.den)} (h:V9 T=J):mpC T V es= .mp (es.map λp=>(pU T p.1,.f (fC V p.2))):=by
 unfold mpC;split
 .cases h
 .rfl
def amx {V:Ty} {es:Y (T.den×V.den)} {s:ζ} (h:itE T V es=Z (s,i)):mpC T V es= .it ⟨iO s⟩ i:=by
 unfold itE at h;split at h
 .cases h;rfl
 .cases h
variable {s:TypeId}
def Zl {es:Y k?} {ents:Array MapEntry} (f:AV->AV):MpK s (es.map λp=>(p.1,f p.2)) ents=MpK s es ents:=by unfold MpK;rw[ic];rfl
def VS {l:Y R} {x:R} (h:i<l! l):splice l i [x]=l.set i x:=by
 rw[List.set_eq_take_append_cons_drop,aR h];simp[splice]
def ZP (k:ν):Value:=.agg #[.int .i64 k.1,.int .i64 k.2]
def vk (a:Nat) (es:Y r?):Y k?:=es.map λe=>(ZP e.1,.H (oP a e.2) 0)
def KH (a:Nat) (k:ν) (v:AV):Y r?->Y k?
 |[]=>[(ZP k,v)]
 |e::r=>if k=e.1 then (ZP k,v)::vk a r else (ZP e.1,.H (oP a e.2) 0)::KH a k v r
def kO (a sz:Nat):Nat->η->Y AV
 |_,[]=>[]
 |k,l::r=>sZ a k sz l.toNat::kO a sz (k+1) r
def sL (a:Nat):(F:sU)->F.ty.den->M jI
 |.zk ty,c=>if ah c==0 then U else Z ⟨ty,.mx (gD (λj=>.H (oP a j) 0) c)⟩
 |.zg,es=>Z ⟨0,.mp (vk a es)⟩
 |.rr ty sz,q=>Z ⟨ty,.mx (kO a sz 0 q)⟩
 |_,_=>U
def YQ (a:Nat) (k:ν):(F:sU)->F.ty.den->M (Nat×Bool×Nat)->M jI
 |.zg,es,Z (p,_,_)=>Z ⟨0,.mp (KH a k (.H (nm p) 0) es)⟩
 |.rr ty sz,c,Z (r,b,n)=>Z ⟨ty,.mx ((kO a sz 0 c).set k.1.toNat (dA b r sz n))⟩
 |_,_,_=>U
def Fh (es:Y c!):Y k?:=es.map λe=>(.int .i64 e.1,.f (.raw (.bool e.2)))
def uR (id k:Nat) (ty:TypeId) (S:Ty) (o:S.den×Y (Int×Bool)×Y (Int×Bool)):jI:=
 if k%3=0 then ⟨ty,.mx ((bP S o.1).map .f++[.mp (iM id (k+2)),.mp (iM id (k+3))])⟩ else ⟨0,.mp (Fh (if k%3=1 then o.2.1 else o.2.2))⟩
def WP (ty:TypeId) (T:Ty) (xs:Y T.den):M jI:=if (l! xs)==0 then U else Z ⟨ty,.fz (xs.flatMap (bP T))⟩
def pX (id k:Nat) (ty:TypeId) (S:Ty) (xs:Y (AM S)):M jI:=(xs[k/3]?).map (uR id k ty S)
def pW (k:Nat) (ty:TypeId) (T:Ty) (xss:Y (Y T.den)):M jI:=(xss[k]?).bind (WP ty T)
def Ia (id:Nat) (k:Nat):(F:sU)->F.ty.den->M jI
 |.ar ty S,xs=>pX id k ty S xs
 |.ir ty T,xss=>pW k ty T xss
 |_,_=>U
def vh (id k:Nat):eC->M jI
 |.qw F _ x=>Ia id k F x
 |.qm F _ x j U=>if k=j.1.toNat then U else Ia id k F x
 |.qm F _ x _ (Z _)=>Ia id k F x
 |_=>U
def jG (h:a_):eC->M jI
 |.F ty p T xs=>if p&&l! xs==0 then U else Z ⟨ty,.fz (xs.flatMap (bP T))⟩
 |.C (Z ty) l=>match cN h l with|some l'=>Z ⟨ty,.mx l'⟩|none=>U
 |.C U l=>match cN h l with|some l'=>Z ⟨0,.mp []⟩|none=>U
 |.qj _ _ _=>U
 |.mp K V es=>Z ⟨0,mpC K V es⟩
 |.qw F a x=>sL a F x
 |.qm F a x k p=>YQ a k F x p
def fB (e:gM) (h:a_):EF:=λt=>(e.get t).bind (b7 h)
def Mn (h:a_) (id:Nat):Nat->eC->M jI
 |0,b=>jG h b
 |k+1,b=>vh id k b
def erHF (h:a_):HF:=λn=>(h.get (ow n)).bind (Mn h (ow n) (ix n))
def bU (h:a_) (i:Nat):erHF h (nm i)=(h.get i).bind (jG h):=by
 unfold erHF;rw[dh,aqm];rfl
def jX (h:a_) (i k:Nat):erHF h (iM i (k+1))=(h.get i).bind (vh i k):=by
 unfold erHF;rw[im,uH];rfl
variable {h:a_}
def gV (q:erHF h i=Z z):∃c,h.get (ow i)=Z c/\Mn h (ow i) (ix i) c=Z z:=by
 unfold erHF at q;cases b:h.get (ow i) with
 |none=>rw[b]at q;cases q
 |some c=>rw[b]at q;exact⟨c,rfl,q⟩
def Fg:eC->Nat
 |.qw (.ar _ _) _ x=>3*ah x
 |.qw (.ir _ _) _ x=>ah x
 |.qm (.ar _ _) _ x _ _=>3*ah x
 |.qm (.ir _ _) _ x _ _=>ah x
 |_=>0
def YR {id:Nat} {F:sU} {x:F.ty.den} (q:Ia id i F x=Z z) (a:Nat):i<Fg (.qw F a x):=by
 cases F with
 |ar ty S=>
  let⟨o,c,_⟩:=fY.1 q;have:=(bm.1 c).1;simp[Fg];omega
 |ir ty T=>
  let⟨o,c,_⟩:=Option.bind_eq_some_iff.1 q;exact (bm.1 c).1
 |_=>cases q
def Yo {c:eC} (b:vh i m c=Z z):m<Fg c:=by
 cases c with
 |qw F a x=>exact YR (id:=i) b a
 |qm F a x j p=>
  have:Ia i m F x=Z z:=by
   cases p with
   |none=>simp only[vh]at b;split at b;cases b;exact b
   |some q=>exact b
  have:=YR (id:=i) this a;cases F<;>exact this
 |_=>cases b
def Bk (e:gM) (h:a_):ve:=PT.mapO (b7 h) e
def Bj (e:gM) (h:a_):(Bk e h).get=fB e h:=by funext t;exact PT.get_mapO _ _ _
def aj0 (D:∀g c,h.get g=Z c->Fg c<=i) (A:erHF h m=Z z):ix m<=i:=by
 let⟨c,h1,q⟩:=gV A;have:=D _ c h1;cases b:ix m with
 |zero=>omega
 |succ k=>
  rw[b]at q;have:=Yo q;omega
def Yn (h:a_):∃g,∀i c,h.get i=Z c->Fg c<=g:=by
 let⟨B,F⟩:=PT.bound h;have:∀B,∃g,∀i c,i<B->h.get i=Z c->Fg c<=g:=by
  intro B;induction B with
  |zero=>exact⟨0,λi c hi=>by omega⟩
  |succ B A=>
   let⟨g,z⟩:=A;cases D:h.get B with
   |none=>exact⟨g,λi c hi q=>by
     by_cases e:i=B
     .grind
     .exact z i c (by omega) q⟩
   |some b=>exact⟨max g (Fg b),λi c hi q=>by
     by_cases e:i=B
     .grind
     .have:=z i c (by omega) q;omega⟩
 let⟨g,z⟩:=this B;refine ⟨g,λi c q=>z i c ?_ q⟩
 grind
def fW (h:a_):∃H:gy,H.get=erHF h:=by
 let⟨B,N⟩:=PT.bound h;let⟨g,D⟩:=Yn h;refine ⟨PT.ofF (erHF h) (2^B*(2*g+2)),?_⟩;funext n;rw[PT.get_ofF];split
 .rfl
 .rename_i I;cases z:erHF h n with
  |none=>rfl
  |some b=>
   let⟨c,h1,q⟩:=gV z;have F:ow n<B:=by grind
   have hi:ix n<=g:=by
    have:=D _ c h1;cases A:ix n with
    |zero=>omega
    |succ k=>
     rw[A]at q;have:=Yo q;omega
   have he:=j9 n;unfold iM at he;have h3:2^ow n*(2*ix n+1)<=2^B*(2*g+2):=Nat.mul_le_mul (Nat.pow_le_pow_right (by omega) (by omega)) (by omega)
   grind
variable {u:TV} {B:Y TV}
def cY (he:cN h (u::B)=Z N):∃y l',N=y::l'/\b7 h u=Z y/\cN h B=Z l':=by
 simp[cN]at he
 grind
def pu (h1:b7 h u=Z y) (c:cN h B=Z N):cN h (u::B)=Z (y::N):=by
 simp[cN,h1,c]
def hY :∀{l:Y TV} {l':Y AV},cN h l=Z l'->l! l'=l! l
 |[],l',he=>by simp[cN,af]at he;subst he;rfl
 |x::r,l',he=>by
  obtain⟨y,q,rfl,_,c⟩:=cY he;simp[hY c]
def nI :∀{a b:Y TV} {q b':Y AV},cN h a=Z q->cN h b=Z b'->cN h (a++b)=Z (q++b')
 |[],b,q,b',c,z=>by simp[cN,af]at c;subst c;exact z
 |x::r,b,q,b',c,z=>by
  obtain⟨y,D,rfl,h1,A⟩:=cY c;exact pu h1 (nI A z)
def CU :∀{a b:Y TV} {l:Y AV},cN h (a++b)=Z l->∃c b',l=c++b'/\cN h a=Z c/\cN h b=Z b'
 |[],b,l,he=>⟨[],l,rfl,rfl,he⟩
 |x::r,b,l,he=>by
  obtain⟨y,D,rfl,h1,A⟩:=cY he;obtain⟨c,b',rfl,z,q⟩:=CU A;exact⟨y::c,b',rfl,pu h1 z,q⟩
def FH :∀{l:Y TV} {l':Y AV} (n:Nat),cN h l=Z l'->cN h (l.take n)=Z (l'.take n)
 |[],l',n,he=>by simp[cN,af]at he;subst he;simp[cN]
 |x::r,l',n,he=>by
  obtain⟨y,q,rfl,h1,c⟩:=cY he;cases n with
  |zero=>simp[cN]
  |succ n=>exact pu h1 (FH n c)
def FJ :∀{l:Y TV} {l':Y AV} (n:Nat),cN h l=Z l'->cN h (l.drop n)=Z (l'.drop n)
 |[],l',n,he=>by simp[cN,af]at he;subst he;simp[cN]
 |x::r,l',n,he=>by
  obtain⟨y,q,rfl,h1,c⟩:=cY he;cases n with
  |zero=>exact he
  |succ n=>simpa using FJ n c
def pY {vs:Y TV} {vs':Y AV} (off:Nat) (h1:cN h B=Z N) (c:cN h vs=Z vs'):cN h (splice B off vs)=Z (splice N off vs'):=by
 unfold splice;rw[hY c];exact nI (nI (FH _ h1) c) (FJ _ h1)
def lw :∀{l:Y TV} {l':Y AV},cN h l=Z l'->∀(j:Nat) x,l[j]? =Z x->∃y,l'[j]? =Z y/\b7 h x=Z y
 |[],l',he,j,x,q=>by simp at q
 |x::r,l',he,j,z,c=>by
  obtain⟨y,D,rfl,h1,A⟩:=cY he;cases j with
  |zero=>simp at c;subst c;exact⟨y,rfl,h1⟩
  |succ j=>simpa using lw A j z (by grind)
mutual
def oA (h:a_):∀(u:TV),Mv h u=J->∃y,b7 h u=Z y
 |.f _ _,_|.zw _ _ _ _ _,_|.qr _ _ _ _,_|.H _ _,_|.qk _ _ _,_=>⟨_,rfl⟩
 |.G id,he|.zp id jj,he=>by
  simp[Mv]at he;cases hr:ep h id with
  |none=>rw[hr]at he;cases he
  |some r=>obtain⟨p,sz,n⟩:=r;exact⟨_,by simp[b7,hr];rfl⟩
 |.emp,_|.nil,_|.mp _,_=>⟨_,rfl⟩
 |.agg l,he|.qb l,he|.qy g l,he=>by obtain⟨y,hy⟩:=fb h l he;exact⟨_,by simp[b7,hy];rfl⟩
 |.undef,_|.np,_|.qv,_|.qh _ _,_|.sb _,_=>⟨_,rfl⟩
def fb (h:a_):∀(l:Y TV),kR h l=J->∃l',cN h l=Z l'
 |[],_=>⟨[],rfl⟩
 |x::r,he=>by
  simp[kR,al]at he;obtain⟨y,hy⟩:=oA h x he.1;obtain⟨l',hl⟩:=fb h r he.2;exact⟨_,pu hy hl⟩
end
def b8 (h h':a_):Prop:=∀id r,ep h id=Z r->ep h' id=Z r
mutual
def fm {h h':a_} (hk:b8 h h'):∀(u:TV) (y:AV),b7 h u=Z y->b7 h' u=Z y
 |.f _ _,y,he=>he
 |.zw _ _ _ _ _,y,he=>he
 |.qr _ _ _ _,y,he=>he
 |.H _ _,y,he=>he
 |.qk _ _ _,y,he=>he
 |.G id,y,he|.zp id jj,y,he=>by
  simp[b7]at he ⊢;split at he
  .rename_i p sz n hr;rw[hk _ _ hr];exact he
  .cases he
 |.emp,y,he=>he
 |.nil,y,he=>he
 |.mp _,y,he=>he
 |.agg l,y,he|.qb l,y,he|.qy g l,y,he=>by
  simp[b7]at he ⊢;split at he
  .rename_i l' hl;rw[gB hk l l' hl];exact he
  .cases he
 |.undef,y,he=>he
 |.np,y,he=>he
 |.qv,y,he=>he
 |.qh _ _,y,he=>he
 |.sb _,y,he=>he
def gB {h h':a_} (hk:b8 h h'):∀(l:Y TV) (l':Y AV),cN h l=Z l'->cN h' l=Z l'
 |[],l',he=>he
 |x::r,l',he=>by
  obtain⟨y,l2,rfl,h1,h2⟩:=cY he;exact pu (fm hk x y h1) (gB hk r l2 h2)
end
mutual
def l9 {h h':a_} (hk:b8 h h'):∀(u:TV),Mv h u=J->Mv h' u=J
 |.f _ _,_|.zw _ _ _ _ _,_|.qr _ _ _ _,_|.H _ _,_|.qk _ _ _,_=>rfl
 |.G id,he|.zp id jj,he=>by
  simp[Mv]at he ⊢;cases hr:ep h id with
  |none=>rw[hr]at he;cases he
  |some r=>rw[hk _ _ hr];rfl
 |.emp,_|.nil,_|.mp _,_=>rfl
 |.agg l,he|.qb l,he|.qy g l,he=>eS hk l he
 |.undef,_|.np,_|.qv,_|.qh _ _,_|.sb _,_=>rfl
def eS {h h':a_} (hk:b8 h h'):∀(l:Y TV),kR h l=J->kR h' l=J
 |[],_=>rfl
 |x::r,he=>by
  simp[kR,al]at he ⊢;exact⟨l9 hk x he.1,eS hk r he.2⟩
end
mutual
def FG (h:a_):∀(u:TV) (y:AV),b7 h u=Z y->Mv h u=J
 |.f _ _,_,_|.zw _ _ _ _ _,_,_|.qr _ _ _ _,_,_|.H _ _,_,_|.qk _ _ _,_,_=>rfl
 |.G id,y,he|.zp id jj,y,he=>by
  simp[Mv,b7]at he ⊢;cases hr:ep h id with
  |none=>rw[hr]at he;cases he
  |some r=>rfl
 |.emp,_,_|.nil,_,_|.mp _,_,_=>rfl
 |.agg l,y,he|.qb l,y,he|.qy g l,y,he=>by
  simp[b7]at he;split at he
  .rename_i l' hl;exact kY h l l' hl
  .cases he
 |.undef,_,_|.np,_,_|.qv,_,_|.qh _ _,_,_|.sb _,_,_=>rfl
def kY (h:a_):∀(l:Y TV) (l':Y AV),cN h l=Z l'->kR h l=J
 |[],_,_=>rfl
 |x::r,l',he=>by
  obtain⟨y,l2,rfl,h1,h2⟩:=cY he;simp[kR,al];exact⟨FG h x y h1,kY h r l2 h2⟩
end
mutual
def Ts (h h':a_):∀(u:TV),uI u=J->b7 h u=b7 h' u
 |.f _ _,_|.zw _ _ _ _ _,_|.qr _ _ _ _,_|.H _ _,_|.qk _ _ _,_=>rfl
 |.G id,he=>by cases he
 |.emp,_|.nil,_|.mp _,_=>rfl
 |.agg l,he|.qb l,he=>by simp[b7];rw[FI h h' l he]
 |.qy g l,he=>by cases he
 |.undef,_|.np,_|.qv,_|.qh _ _,_=>rfl
 |.sb _,he=>by cases he
def FI (h h':a_):∀(l:Y TV),qT l=J->cN h l=cN h' l
 |[],_=>rfl
 |x::r,he=>by
  simp[qT,al]at he;simp[cN];rw[Ts h h' x he.1,FI h h' r he.2]
end
def PN (he:b7 h u=Z y) (c:u.isC=J):y.isCell=J:=by
 cases u with
 |f T v=>cases T<;>simp[b7,af]at he<;>subst he<;>first|rfl|(simp [TV.isC,Ty.one]at c)
 |G id=>
  simp[b7]at he;split at he
  .simp[af]at he;subst he;unfold dA;split<;>rfl
  .cases he
 |zp id q|agg l|qb l|undef|qv|qh T xs=>cases c
 |qy g l=>
  simp[b7]at he;split at he
  .simp[af]at he;subst he;rfl
  .cases he
 |sb s=>simp[b7,af]at he;subst he;cases s<;>first|rfl|(simp [Ib,sZ];split<;>rfl)
 |_=>simp[b7,af]at he;subst he;rfl
def sh :∀{l:Y TV} {l':Y AV},cN h l=Z l'->kL l=J->gf l'=J
 |[],l',he,_=>by simp[cN,af]at he;subst he;rfl
 |x::r,l',he,c=>by
  obtain⟨y,z,rfl,h1,q⟩:=cY he;simp[kL,al]at c;simp[gf,al];exact⟨PN h1 c.1,sh q c.2⟩
def Le (x y:AV):Prop:=∀(φ:PM) (O:Nat->Prop) (w:World) (v:Value),cm φ O w x v->cm φ O w y v
def Le.refl (x:AV):Le x x:=λ_ _ _ _ h=>h
def ju (H H':HF) (x y:AV):Prop:=∀(φ:PM) (E:Nat->Prop) (w:World) (v:Value),oM φ E H w->cm φ (tot E φ H) w x v->cm φ (tot E φ H') w y v
def qe (H H':HF):Prop:=∀i b,H' i=Z b->∃b0,H i=Z b0
def qe.refl (H:HF):qe H H:=λ_ b h=>⟨b,h⟩
def qe.own {H':HF} (d:qe S H') (h:own V H' i):own V S i:=by
 let⟨k,b,h1,q⟩:=h;let⟨b0,c⟩:=d k b h1;exact⟨k,b0,c,q⟩
def qe.tot {H':HF} (d:qe S H') (h:tot O V H' i):tot O V S i:=h.imp id d.own
def cm.dom {H':HF} (d:qe S H') (h:cm V (tot O V S) w y v):cm V (tot O V H') w y v:=
 h.ext (λ_ _ h=>h) (C5.refl _ w) λ_ _ c=>d.tot c
def lX.dom {H':HF} (d:qe S H') {x:FV} (h:lX (tot O V S) w x v):lX (tot O V H') w x v:=
 h.ext (C5.refl _ w) λ_ _ c=>d.tot c
def Le.toH {H':HF} (d:qe S H') {x:AV} (h:Le x y):ju S H' x y:=λφ E w v _ c=>(h _ _ _ _ c).dom d
def ju.refl {H':HF} (d:qe S H') (x:AV):ju S H' x x:=(Le.refl x).toH d
def gu (H H':HF):Y AV->Y AV->Prop
 |[],[]=>True
 |x::xs,y::c=>ju H H' x y/\gu H H' xs c
 |_,_=>False
def gu.refl {H':HF} (d:qe S H'):∀l,gu S H' l l
 |[]=>trivial
 |x::r=>⟨ju.refl d x,gu.refl d r⟩
def gu.length {H':HF}:∀{l l':Y AV},gu S H' l l'->l! l'=l! l
 |[],[],_=>rfl
 |[],_::_,h|_::_,[],h=>h.elim
 |_::_,_::_,h=>by simp[gu.length h.2]
def gu.get {H':HF}:∀{l l':Y AV},gu S H' l l'->∀(j:Nat) y,l'[j]? =Z y->∃x,l[j]? =Z x/\ju S H' x y
 |[],[],_,j,y,c=>by simp at c
 |[],_::_,h,_,_,_|_::_,[],h,_,_,_=>h.elim
 |x::xs,z::ys,h,j,y,c=>by
  cases j with
  |zero=>simp at c;subst c;exact⟨x,rfl,h.1⟩
  |succ j=>simpa using gu.get h.2 j y (by grind)
def gu.append {H':HF}:∀{a c b b':Y AV},gu S H' a c->gu S H' b b'->gu S H' (a++b) (c++b')
 |[],[],_,_,_,h=>h
 |[],_::_,_,_,h,_|_::_,[],_,_,h,_=>h.elim
 |_::_,_::_,_,_,h,h'=>⟨h.1,gu.append h.2 h'⟩
def gu.take {H':HF}:∀{a c:Y AV} (n:Nat),gu S H' a c->gu S H' (a.take n) (c.take n)
 |[],[],n,_=>by simp[gu]
 |[],_::_,_,h|_::_,[],_,h=>h.elim
 |_::_,_::_,0,_=>trivial
 |_::_,_::_,n+1,h=>⟨h.1,gu.take n h.2⟩
def gu.drop {H':HF}:∀{a c:Y AV} (n:Nat),gu S H' a c->gu S H' (a.drop n) (c.drop n)
 |[],[],n,_=>by simp[gu]
 |[],_::_,_,h|_::_,[],_,h=>h.elim
 |_::_,_::_,0,h=>h
 |_::_,_::_,n+1,h=>gu.drop n h.2
def gu.splice {H':HF} {q b b':Y AV} (off:Nat) (h1:gu S H' N q) (c:gu S H' b b'):gu S H' (splice N off b) (splice q off b'):=by
 unfold AI.splice;rw[c.length];exact ((h1.take off).append c).append (h1.drop _)
def fM (H H':HF) (b b':jI):Prop:=∀(φ:PM) (E:Nat->Prop) (w:World) (o:Obj),oM φ E H w->gQ φ (tot E φ H) w b o->gQ φ (tot E φ H') w b' o
def fM.refl {H':HF} (d:qe S H') (b:jI):fM S H' b b:=λ_ _ _ _ _ h=>h.mono λ_ _ h=>h.dom d
def pO {c:BC} {o:Obj} (q:c.isCells=J):gQ V O w ⟨s,c⟩ o↔∃arr,o= .cells arr s (0,0)/\tZ V O w c arr:=by
 cases c<;>simp[BC.isCells]at q<;>rfl
def fM.C {H':HF} {c z:BC} (D:c.isCells=J) (q:z.isCells=J) (I:gu S H' c.toMx z.toMx) (hcell:∀x∈z.toMx,x.isCell=J):fM S H' ⟨s,c⟩ ⟨s,z⟩:=by
 intro φ E w o hrep F;rw[pO D]at F;rw[pO q];let⟨arr,h1,h2,h3⟩:=F;refine ⟨arr,h1,by rw[BC.len_toMx q,I.length,<-BC.len_toMx D];exact h2,λj x A=>?_⟩;rw[BC.get_toMx q]at A;refine ⟨hcell x (bd A),?_⟩;let⟨y,N,hle⟩:=I.get j x A;let⟨_,v,h5,h6⟩:=h3 j y (by rw[BC.get_toMx D];exact N);exact⟨v,h5,hle _ _ _ _ hrep h6⟩
def afb (ty:M TypeId) (l:Y AV):jI:=match ty with
 |some ty=>⟨ty,.mx l⟩
 |none=>⟨0,.mp []⟩
def fM.none {H':HF}:fM S H' ⟨0,.mp []⟩ ⟨0,.mp []⟩:=by
 intro φ E w o hrep q;let⟨ents,clock,h1,z,A⟩:=q;exact⟨ents,clock,h1,z,λj x c=>by cases c⟩
def fM.eq {H':HF} (d:qe S H') {c A:BC} (z:c.isCells=J) (q:A.isCells=J) (I:c.toMx=A.toMx):fM S H' ⟨s,c⟩ ⟨s,A⟩:=by
 intro φ E w o hrep F;rw[pO z]at F;rw[pO q];let⟨arr,h1,h2,h3⟩:=F;refine ⟨arr,h1,by rw[BC.len_toMx q,<-I,<-BC.len_toMx z];exact h2,λj x D=>?_⟩;rw[BC.get_toMx q,<-I,<-BC.get_toMx z]at D;let⟨h4,v,h5,N⟩:=h3 j x D;exact⟨h4,v,h5,N.dom d⟩
structure L4 (H H':HF):Prop where
 dom:qe H H'
 jg:∀i b b',H i=Z b->H' i=Z b'->fM H H' b b'
def L4.refl (H:HF):L4 H H:=⟨qe.refl H,λi b b' h h'=>by rw[h]at h';cases h';exact fM.refl (qe.refl H) b⟩
def L4.zq {H':HF} (φ:L4 S H') (r:oM V O S w):oM V O H' w:=by
 refine ⟨λi j b b' k c F D A=>?_,λi b c=>?_,r.el,λg cells z=>(r.gl g cells z).dom φ.dom⟩
 .obtain⟨b0,q1⟩:=φ.dom i b c;let⟨b1,q⟩:=φ.dom j b' F;exact r.inj i j b0 b1 k q1 q D A
 .obtain⟨b0,q1⟩:=φ.dom i b c;let⟨k,p1,p2,ob,p3,p4⟩:=r.at_ i b0 q1;exact⟨k,p1,p2,ob,p3,φ.jg i b0 b q1 c V O w ob r p4⟩
def ft.view {e:EF} {val':AV} {rd c wr' N:ι} {q nw':HF} (ht:ft P k e S ⟨y,rd,c,q,N⟩) (hsub:∀i∈c,i∈wr'\/i∈rd)
 (F:∀h':HF,(∀i∈rd,h' i=S i)->(∀i∈wr',h' i=S i)->L4 (dZ h' c q) (dZ h' wr' nw')/\ju (dZ h' c q) (dZ h' wr' nw') y val'):ft P k e S ⟨val',rd,wr',nw',N⟩:=by
 intro φ E h' w a h1 A h3 h4 h5;have D:=ht φ E h' w a h1 (λi hi=>(hsub i hi).elim (A i) (h1 i)) h3 h4 h5;let⟨V,hle⟩:=F h' h1 A;refine Rq ?_ D;rintro a' w' ⟨v,φ',rfl,mv,nm',z,rel⟩;exact⟨v,φ',rfl,⟨mv.sub,mv.ext,λo hk I=>mv.qn o hk (V.dom.own I)⟩,nm',V.zq z,hle _ _ _ _ z rel⟩
def Le.nil:Le (.f (.raw (.slice U 0 0))) (.f (.sl [] 0)):=by
 intro φ O w v c;cases c with
 |f c=>cases c;exact .f (.nil U 0 (by simp))
def Le.emp:Le .emp (.f (.sl [] 0)):=by
 intro φ O w v c;cases c with
 |emp=>exact .f (.nil _ 0 (by unfold maxLen;omega))
def Le.nilEmp:Le (.f (.raw (.slice U 0 0))) .emp:=by
 intro φ O w v c;cases c with
 |f c=>cases c;exact .emp
def Le.aggF {l:Y FV}:Le (.f (.agg l)) (.agg (l.map .f)):=by
 intro φ O w v q;cases q with
 |f q=>
  cases q with
  |agg _ vs F hcl hrr=>
   refine .agg (by grind) (λx c=>?_) λj x u c D=>?_
   .obtain⟨y,A,rfl⟩:=bR.1 c;exact hcl y A
   .rw[bM]at c;cases z:l[j]? with
    |none=>rw[z]at c;cases c
    |some y=>rw[z]at c;simp at c;subst c;exact .f (hrr j y u z D)
def adm (l:Y AV):Le (N0 l) (.agg l):=by
 unfold N0;split
 next c h=>rw[mz h];exact Le.aggF
 .exact Le.refl _
def ju.aggL {H':HF} {l':Y FV} (h:gu S H' N (l'.map .f)) (D:∀x∈l',x.isCell=J):ju S H' (.agg N) (.f (.agg l')):=by
 intro φ E w v hrep z;cases z with
 |@agg _ vs A hcl hrr=>
  refine .f (.agg l' vs (by rw[A,<-h.length];simp) D λj y u F q=>?_);let⟨x,c,hle⟩:=h.get j (.f y) (by grind);have:=hle φ E w u hrep (hrr j x u c q);cases this with
  |f h=>exact h
def ju.G {H':HF} (d:qe S H') {n:Nat} {cells:Y FV} (h1:S i=Z ⟨s,.fz cells⟩) (h2:H' i=U) (hl:l! cells=n*m):ju S H' (.G i m n) (.f (.sl cells n)):=by
 intro φ E w v r I;cases I with
 |@G _ _ _ c k hφ N hcap hsh=>
  let⟨k',q1,F,_⟩:=r.at_ i _ h1;rw[hφ]at q1;cases q1;let⟨arr,p1,p2,p3⟩:=r.cs h1 hφ rfl;have hk:k<w.heap.size:=(cR.1 p1).1;have hlen:l! cells<=arr.size:=by simpa[BC.toMx] using p3
  have hnk:¬tot E φ H' k:=by
   rintro (hE|⟨j,b,A,z⟩)
   .exact F hE
   .obtain⟨b0,g3⟩:=d j b A;have:=r.inj j i b0 _ k g3 h1 z hφ
    grind
  have hget:∀(j:Nat) x,cells[j]? =Z x->∃u,arr[j]? =Z u/\lX (tot E φ S) w x u:=λj x q=>by
   have D:j<l! cells:=(bm.1 q).1;have hja:j<arr.size:=by omega
   refine ⟨arr[j],by simp[hja],?_⟩;have:=p2.2.2 j (.f x) arr[j] (by simp[BC.toMx,q]) (by
    rw[dM,aR (by simpa[BC.toMx] using D),c8];simp[hja])
   cases this with
   |f h=>exact h
  refine .f (.sl cells n c k 0 (λj=>(arr[j]?).getD undef) N hcap hnk hk (λx q=>?_) (λj D=>?_) (λj x q=>?_))
  .have:=p2.2.1 (.f x) (by simp only[BC.toMx];exact bR.2 ⟨x,q,rfl⟩);exact this
  .have:j<arr.size:=by omega
   simp[O1,p1,this]
  .obtain⟨u,A,z⟩:=hget j x q;rw[A];exact z.dom d
def sM:∀l:Y Xp,KM l=l.flatMap wU
 |[]=>rfl
 |x::r=>by rw[KM,sM r];rfl
def Al:∀l:Y Sx,KL l=l.flatMap yD
 |[]=>rfl
 |x::r=>by rw[KL,Al r];rfl
def KK (e:Xp):bP Of (O9 e)=wU e:=by
 cases e with
 |mk op n name l=>simp only[Of,O9,bP,wU,Xp.op,Xp.n,Xp.name,Xp.l,sM];rfl
def TD (x:Of.den):wU (ey x)=bP Of x:=by
 simp only[Of,ey,bP,wU,sM];rfl
def KJ (e:Sx):bP NJ (O8 e)=yD e:=by
 cases e with
 |mk op line name arg index expr body els=>simp only[NJ,O8,bP,yD,Sx.op,Sx.line,Sx.name,Sx.arg,Sx.index,Sx.expr,Sx.body,Sx.els,sM,Al];rfl
def TB (x:NJ.den):yD (oY x)=bP NJ x:=by
 simp only[NJ,oY,bP,yD,sM,Al];rfl
def xR (e:Xp):l! (wU e)=4:=by cases e;simp[wU]
def D7 (e:Sx):l! (yD e)=11:=by cases e;simp[yD,xR]
def bh:∀(T:Ty) (v:T.den),l! (bP T v)=T.size
 |.int _,_|.bool,_|.str,_|.sl _,_=>rfl
 |.st t,v=>bh t v
 |.pr a b,v=>by simp[bP,Ty.size,bh a,bh b]
 |.un,_=>rfl
 |.ex,v=>xR v
 |.sm,v=>D7 v
def KN (e:Xp):∀x∈wU e,x.isCell=J:=by
 cases e with
 |mk op n name l=>
  intro x c;simp[wU,bB,cO,gx]at c;rcases c with rfl|rfl|rfl|rfl<;>rfl
def WY (e:Sx):∀x∈yD e,x.isCell=J:=by
 cases e with
 |mk op line name arg index expr body els=>
  intro x c;simp only[yD,bF,bB,cO,gx]at c;rcases c with (c|c)|c
  .rcases c with rfl|rfl|rfl|rfl|rfl<;>rfl
  .exact KN _ _ c
  .rcases c with rfl|rfl<;>rfl
def ou:∀(T:Ty) (v:T.den),∀x∈bP T v,x.isCell=J
 |.int _,_,x,c|.bool,_,x,c|.str,_,x,c|.sl _,_,x,c=>by simp[bP,aA]at c;subst c;rfl
 |.st t,v,x,c=>ou t v x c
 |.pr a b,v,x,c=>by
  simp[bP,bF]at c;exact c.elim (ou a v.1 x) (ou b v.2 x)
 |.un,_,x,c=>by simp[bP]at c
 |.ex,v,x,c=>KN v x c
 |.sm,v,x,c=>WY v x c
def KP:∀(T:Ty) (v:T.den),T.one=J->bP T v=[fC T v]/\T.size=1
 |.int _,_,_|.bool,_,_|.str,_,_|.sl _,_,_=>⟨rfl,rfl⟩
 |.st _,_,h|.pr _ _,_,h|.un,_,h|.ex,_,h|.sm,_,h=>by cases h
def qZ:∀(T:Ty) (v:T.den),T.one=aa->fC T v= .agg (bP T v)
 |.int _,_,h|.bool,_,h|.str,_,h|.sl _,_,h=>by cases h
 |.st _,_,_|.pr _ _,_,_|.un,_,_|.ex,_,_|.sm,_,_=>rfl
def Bm (T:Ty) (v:T.den):(AV.f (fC T v)).cs=(bP T v).map .f:=by
 cases h:T.one with
 |true=>
  cases T<;>simp[Ty.one]at h<;>first|rfl|cases h
 |false=>rw[qZ T v h];rfl
def dN {f:R->Y FV} (hf:∀x,l! (f x)=i):∀(xs:Y R),l! (xs.flatMap f)=l! xs*i
 |[]=>by simp
 |x::r=>by rw[eE,aD,hf,dN hf r,bX,iN];omega
def FA {f:R->Y FV} (hf:∀x,l! (f x)=i):∀(xs:Y R) (j:Nat) (x:R),xs[j]? =Z x->∃r,(xs.flatMap f).drop (j*i)=f x++r
 |[],j,x,h=>by simp at h
 |y::r,j,x,h=>by
  cases j with
  |zero=>simp at h;subst h;exact⟨r.flatMap f,by simp⟩
  |succ j=>
   let⟨q,c⟩:=FA hf r j x (by grind);refine ⟨q,?_⟩;rw[eE,show (j+1)*i=l! (f y)+j*i from by rw[hf,iN];omega,vr];simp[c]
def Kw {f:R->Y FV} (hf:∀x,l! (f x)=i):∀(xs:Y R) (j:Nat) (x z:R),xs[j]? =Z x->∀(off:Nat) (vs:Y FV),off+l! vs<=i->f z=AI.splice (f x) off vs->(xs.set j z).flatMap f=AI.splice (xs.flatMap f) (j*i+off) vs
 |[],j,x,z,h,_,_,_,_=>by simp at h
 |y::r,j,x,z,h,off,vs,hle,c=>by
  cases j with
  |zero=>
   simp at h;subst h;simp only[List.set_cons_zero,eE,c,Nat.zero_mul,b6];unfold AI.splice;have A:=hf y;rw[List.take_append,vr];have e1:off-l! (f y)=0:=by omega
   have e2:off+l! vs-l! (f y)=0:=by omega
   rw[e1,e2];simp[cr]
  |succ j=>
   have q:=Kw hf r j x z (by simpa using h) off vs hle c;simp only[List.set_cons_succ,eE,q];unfold AI.splice;have A:=hf y;have e0:(j+1)*i=l! (f y)+j*i:=by rw[hf,iN];omega
   rw[e0,List.take_append,vr];have e1:l! (f y)+j*i+off-l! (f y)=j*i+off:=by omega
   have e2:l! (f y)+j*i+off+l! vs-l! (f y)=j*i+off+l! vs:=by omega
   rw[e1,e2,fZ (by omega:l! (f y)<=l! (f y)+j*i+off),AW (by omega:l! (f y)<=l! (f y)+j*i+off+l! vs)];simp[cr]
def lq (T:Ty) (xs:Y T.den):∀x∈xs.flatMap (bP T),x.isCell=J:=λx c=>by
 let⟨y,_,h⟩:=kN.1 c;exact ou T y x h
def gP {S:Ty} {v:S.den} {x:T.den} (h:tG T v=Z x):∃e:S=T,x=e▸v:=by
 unfold tG at h
 grind
def lU (h:a_):∀(n:Nat) (T:Ty) (v:T.den) (l:Y TV),cellsOf n T v=Z l->cN h l=Z ((bP T v).map .f)/\kL l=J
 |0,_,_,_,he=>by simp[cellsOf]at he
 |n+1,.st t,v,l,he=>lU h n t v l he
 |n+1,.pr a b,v,l,he=>by
  simp[cellsOf]at he;split at he
  .rename_i x y A q;simp[af]at he;subst he;let⟨h1,c⟩:=lU h n a v.1 x A;let⟨D,I⟩:=lU h n b v.2 y q;refine ⟨by rw[bP,cf];exact nI h1 D,?_⟩;clear h1 D A q;induction x with
   |nil=>exact I
   |cons z r F=>simp[kL,al,fG]at c ⊢;exact⟨c.1,F c.2⟩
  .cases he
 |n+1,.un,v,l,he=>by simp[cellsOf,af]at he;subst he;exact⟨rfl,rfl⟩
 |n+1,.ex,v,l,he=>by rw[bP,<-KK];exact lU h n Of (O9 v) l he
 |n+1,.sm,v,l,he=>by rw[bP,<-KJ];exact lU h n NJ (O8 v) l he
 |n+1,.int k,v,l,he|n+1,.bool,v,l,he|n+1,.str,v,l,he|n+1,.sl t,v,l,he=>by simp[cellsOf,af]at he;subst he;exact⟨rfl,rfl⟩
def Pv (h:y.isCell=J):y.cs=[y]:=by
 cases y with
 |f x=>cases x<;>first|rfl|cases h
 |agg l=>cases h
 |_=>rfl
def HE (c:u.cs=Z B) (A:b7 h u=Z y):cN h B=Z y.cs/\kL B=J:=by
 have one:(if u.isC then Z [u] else U)=Z B->cN h B=Z y.cs/\kL B=J:=λc=>by
  split at c
  next D=>simp[af]at c;subst c;exact⟨by rw[Pv (PN A D)];exact pu A rfl,by simp[kL,D]⟩
  .cases c
 cases u with
 |agg q=>
  simp only[TV.cs]at c;split at c
  .rename_i D;simp[af]at c;subst c;simp[b7]at A;split at A
   next l' F=>simp[af]at A;subst A;exact⟨F,D⟩
   .cases A
  .cases c
 |f T x=>
  simp[b7,af]at A;subst A;rw[Bm];exact lU h 40 T x B c
 |_=>exact one c
def C4 (h:a_) (H H':HF) (m:Nat):Prop:=∀id,aC m id=J->H (nm id)=erHF h (nm id)/\H' (nm id)=U
def C4.zero {H':HF}:C4 h S H' 0:=λid hid=>by simp at hid
def C4.or {H':HF} (g:C4 h S H' (i|||m)):C4 h S H' i/\C4 h S H' m:=
 ⟨λid hid=>g id (by grind),λid hid=>g id (by grind)⟩
def bq :aC (fT i) m=J↔i=m:=by
 unfold fT;rw[AS,HM];simp
section pack
variable {h:a_} {H H':HF}
def x_ (d:qe H H') {x:T.den} (c:gY h T u=Z (x,m)) (A:b7 h u=Z y) (g:C4 h H H' m):ju H H' y (.f (fC T x))/\l! y.cs=T.size/\(T.one=J->y.isCell=J)/\gu H H' y.cs ((bP T x).map .f):=by
 cases u with
 |f S u=>
  simp[gY]at c;split at c
  next z D=>obtain⟨rfl,_⟩:=c;obtain⟨e,rfl⟩:=gP D;subst e;simp[b7,af]at A;subst A;refine ⟨ju.refl d _,by rw[Bm,bN,bh],λN=>?_,by rw[Bm];exact gu.refl d _⟩;cases S<;>simp[Ty.one]at N<;>first|rfl|cases N
  .cases c
 |emp=>
  simp[gY]at c;split at c
  .simp[af,aU]at c;obtain⟨rfl,_⟩:=c;simp[b7,af]at A;subst A;exact⟨Le.emp.toH d,rfl,λ_=>rfl,⟨Le.emp.toH d,trivial⟩⟩
  .cases c
 |nil=>
  simp[gY]at c;split at c
  .simp[af,aU]at c;obtain⟨rfl,_⟩:=c;simp[b7,af]at A;subst A;exact⟨Le.nil.toH d,rfl,λ_=>rfl,⟨Le.nil.toH d,trivial⟩⟩
  .cases c
 |G id=>
  simp[gY]at c;split at c
  .rename_i ty p S xs hb;split at c
   .rename_i z D;obtain⟨rfl,rfl⟩:=c;obtain⟨e,rfl⟩:=gP D;subst e;let⟨I,g2⟩:=g id (bq.2 rfl);rw[bU,hb]at I;simp[b7,ep,hb,af]at A;subst A;have key:ju H H' (dA p id S.size (l! xs)) (.f (fC (.sl S) xs)):=by
     unfold dA;split
     next hp=>simp only[al,cV]at hp;have:xs=[]:=eR.1 hp.2;subst this;exact Le.emp.toH d
     next hp=>simp only[aB,jG,aE hp]at I;exact ju.G d I g2 (dN (bh S) xs)
    have F:(dA p id S.size (l! xs)).isCell=J:=by unfold dA;split<;>rfl
    refine ⟨key,by rw[Pv F];rfl,λ_=>F,?_⟩;rw[Pv F];exact⟨key,trivial⟩
   .cases c
  .cases c
 |_=>simp[gY]at c
def qA (d:qe H H'):∀(n:Nat) (T:Ty) (l:Y TV) (x:T.den) (m:Nat) (r:Y TV) (l':Y AV),fh h n T l=Z (x,m,r)->cN h l=Z l'->C4 h H H' m->∃F A,l'=F++A/\cN h r=Z A/\gu H H' F ((bP T x).map .f)
 |0,_,_,_,_,_,_,hp,_,_=>by simp[fh]at hp
 |n+1,.st t,l,x,m,r,l',hp,z,g=>qA d n t l x m r l' hp z g
 |n+1,.pr a b,l,x,m,r,l',hp,z,g=>by
  simp[fh]at hp;split at hp
  .rename_i x1 m1 r1 h1;split at hp
   next I m2 N h2=>simp[af,aU]at hp;obtain⟨rfl,rfl,rfl⟩:=hp;let⟨ga,gb⟩:=g.or;obtain⟨F,A,rfl,q1,D⟩:=qA d n a l x1 m1 r1 l' h1 z ga;obtain⟨l3,l4,rfl,q3,q4⟩:=qA d n b r1 I m2 N A h2 q1 gb;refine ⟨F++l3,l4,by simp,q3,?_⟩;rw[bP,cf];exact D.append q4
   .cases hp
  .cases hp
 |n+1,.un,l,x,m,r,l',hp,z,g=>by
  obtain⟨_,_,rfl⟩:=hp;exact⟨[],l',rfl,z,trivial⟩
 |n+1,.ex,l,x,m,r,l',hp,z,g=>by
  simp[fh]at hp;split at hp
  next x1 m1 r1 h1=>simp[af,aU]at hp;obtain⟨rfl,rfl,rfl⟩:=hp;rw[bP,TD];exact qA d n Of l x1 m1 r1 l' h1 z g
  .cases hp
 |n+1,.sm,l,x,m,r,l',hp,z,g=>by
  simp[fh]at hp;split at hp
  next x1 m1 r1 h1=>simp[af,aU]at hp;obtain⟨rfl,rfl,rfl⟩:=hp;rw[bP,TB];exact qA d n NJ l x1 m1 r1 l' h1 z g
  .cases hp
 |n+1,.int k,l,x,m,r,l',hp,z,g|n+1,.bool,l,x,m,r,l',hp,z,g|n+1,.str,l,x,m,r,l',hp,z,g|n+1,.sl t,l,x,m,r,l',hp,z,g=>by
  simp[fh]at hp;split at hp
  .rename_i c q;split at hp
   next x1 m1 h1=>obtain⟨rfl,rfl,rfl⟩:=hp;obtain⟨y,A,rfl,q1,D⟩:=cY z;exact⟨[y],A,rfl,D,⟨(x_ d h1 q1 g).1,trivial⟩⟩
   .cases hp
  .cases hp
def V3 (d:qe H H') {x:T.den} (hp:fh h i T B=Z (x,m,[])) (q:cN h B=Z N) (g:C4 h H H' m):gu H H' N ((bP T x).map .f):=by
 obtain⟨A,z,rfl,q1,c⟩:=qA d i T B x m [] N hp q g;simp[cN,af]at q1;subst q1;simpa using c
def Rb (d:qe H H') {x:T.den} (c:C1 h T u=Z (x,m)) (A:b7 h u=Z y) (g:C4 h H H' m):ju H H' y (.f (fC T x))/\gu H H' y.cs ((bP T x).map .f):=by
 have other:gY h T u=Z (x,m)->ju H H' y (.f (fC T x))/\gu H H' y.cs ((bP T x).map .f):=λc=>by
  let⟨h1,_,_,F⟩:=x_ d c A g;exact⟨h1,F⟩
 cases u with
 |agg l=>
  simp only[C1]at c;split at c
  .cases c
  .rename_i N;split at c
   .rename_i x1 m1 h1;simp[af,aU]at c;obtain⟨rfl,rfl⟩:=c;simp[b7]at A;split at A
    next l' D=>simp[af]at A;subst A;have:=V3 d h1 D g;refine ⟨?_,this⟩;rw[qZ T x1 (by grind)];exact ju.aggL this (ou T x1)
    .cases A
   .cases c
 |_=>exact other c
def Ds (d:qe H H') :∀(n:Nat) (l:Y TV) (xs:Y T.den) (m:Nat) (l':Y AV),BK h T n l=Z (xs,m)->cN h l=Z l'->C4 h H H' m->gu H H' l' ((xs.flatMap (bP T)).map .f)/\l! xs=n
 |0,[],xs,m,l',hp,c,g=>by
  obtain⟨rfl,_⟩:=hp;simp[cN,af]at c;subst c;exact⟨trivial,rfl⟩
 |0,_::_,xs,m,l',hp,c,g=>by simp[BK]at hp
 |n+1,l,xs,m,l',hp,c,g=>by
  simp[BK]at hp;split at hp
  .rename_i x1 m1 r1 h1;split at hp
   next q m2 D=>obtain⟨rfl,rfl⟩:=hp;let⟨I,F⟩:=g.or;obtain⟨N,A,rfl,q1,z⟩:=qA d 40 T l x1 m1 r1 l' h1 c I;let⟨q3,q4⟩:=Ds d n r1 q m2 A D q1 F;refine ⟨?_,by simp[q4]⟩;rw[eE,cf];exact z.append q3
   .cases hp
  .cases hp
def sK (h:a_):∀(n:Nat) (T:Ty) (v:T.den) (off sz:Nat) (A:Bool) (u:TV),mG n T v off sz A=Z u->off+sz<=T.size/\∃y,b7 h u=Z (.f y)/\(A=aa->sz=1/\(bP T v)[off]? =Z y)/\(A=J->y= .agg (((bP T v).drop off).take sz))
 |0,_,_,_,_,_,_,c=>by simp[mG]at c
 |n+1,.st t,v,off,sz,A,u,c=>by
  simp only[mG]at c;split at c
  next z=>simp only[al]at z;obtain⟨⟨h1,q⟩,rfl⟩:=z;have h1:=au h1;have q:=au q;subst h1 q;cases c;refine ⟨by simp[Ty.size],_,rfl,nofun,λ_=>?_⟩;simp only[fC,bP,List.drop_zero];rw[<- bh t v,dC]
  .exact sK h n t v off sz A u c
 |n+1,.pr a b,v,off,sz,A,u,c=>by
  simp only[mG]at c;have hla:=bh a v.1;have hlb:=bh b v.2;split at c
  .rename_i hlt;have hlt:off<a.size:=aW hlt;let⟨h1,y,q,F,D⟩:=sK h n a v.1 off sz A u c;refine ⟨by simp only[Ty.size];omega,y,q,λe=>?_,λe=>?_⟩
   .obtain⟨N,I⟩:=F e;exact⟨N,by rw[bP,cE (by omega)];exact I⟩
   .rw[D e,bP]
    grind
  .rename_i hlt;have hlt:¬off<a.size:=λh=>hlt (bf h)
   let⟨h1,y,q,F,D⟩:=sK h n b v.2 (off-a.size) sz A u c;refine ⟨by simp only[Ty.size];omega,y,q,λe=>?_,λe=>?_⟩
   .obtain⟨N,I⟩:=F e;exact⟨N,by rw[bP,cw (by omega),hla];exact I⟩
   .rw[D e,bP];have:(bP a v.1++bP b v.2).drop off=(bP b v.2).drop (off-a.size):=by
     rw[vr,hla,AW (by omega)];simp
    rw[this]
 |n+1,.un,v,off,sz,A,u,c=>by simp[mG]at c
 |n+1,.ex,v,off,sz,A,u,c=>by
  simp only[mG]at c;split at c
  next z=>simp only[al]at z;obtain⟨⟨h1,q⟩,rfl⟩:=z;have h1:=au h1;have q:=au q;subst h1 q;cases c;refine ⟨by simp[Ty.size],_,rfl,nofun,λ_=>?_⟩;simp only[fC,bP,List.drop_zero];rw[<- xR v,dC]
  .obtain⟨h1,y,q,F,D⟩:=sK h n Of (O9 v) off sz A u c;rw[KK]at F D;exact⟨h1,y,q,F,D⟩
 |n+1,.sm,v,off,sz,A,u,c=>by
  simp only[mG]at c;split at c
  next z=>simp only[al]at z;obtain⟨⟨h1,q⟩,rfl⟩:=z;have h1:=au h1;have q:=au q;subst h1 q;cases c;refine ⟨by simp[Ty.size],_,rfl,nofun,λ_=>?_⟩;simp only[fC,bP,List.drop_zero];rw[<- D7 v,dC]
  .obtain⟨h1,y,q,F,D⟩:=sK h n NJ (O8 v) off sz A u c;rw[KJ]at F D;exact⟨h1,y,q,F,D⟩
 |n+1,.int k,v,off,sz,A,u,c|n+1,.bool,v,off,sz,A,u,c|n+1,.str,v,off,sz,A,u,c|n+1,.sl t,v,off,sz,A,u,c=>by
  simp only[mG]at c;split at c
  next z=>simp only[al,cK]at z;obtain⟨⟨h1,q⟩,rfl⟩:=z;have h1:=au h1;have q:=au q;subst h1 q;cases c;exact⟨by simp[Ty.size],_,rfl,λ_=>⟨rfl,rfl⟩,nofun⟩
  .cases c
def VU (l vs:Y R) (h:l! vs=l! l):AI.splice l 0 vs=vs:=by
 unfold AI.splice
 grind
def Rz (a b vs:Y R) (off:Nat) (h:off+l! vs<=l! a):AI.splice (a++b) off vs=AI.splice a off vs++b:=by
 unfold AI.splice
 grind
def Pe (a b vs:Y R) (off:Nat) (h:l! a<=off):AI.splice (a++b) off vs=a++AI.splice b (off-l! a) vs:=by
 unfold AI.splice;rw[List.take_append,vr,fZ h,AW (by omega),show off+l! vs-l! a=off-l! a+l! vs from by omega];simp[cr]
def OR (H H':HF) (y:AV) (T:Ty) (v z:T.den) (off sz:Nat):Prop:=∃c:Y FV,gu H H' y.cs (c.map .f)/\l! c=sz/\off+sz<=T.size/\bP T z=AI.splice (bP T v) off c/\∀x∈c,x.isCell=J
def OR.whole {v z:T.den} (h0:i=0) (c:m=T.size) (q:gu H H' y.cs ((bP T z).map .f)):OR H H' y T v z i m:=by
 subst h0 c;exact⟨bP T z,q,bh T z,by omega,(VU _ _ (by rw[bh,bh])).symm,ou T z⟩
def sq (d:qe H H') (D:b7 h u=Z y):∀(n:Nat) (T:Ty) (v:T.den) (off sz:Nat) (z:T.den) (m:Nat),gz h u n T v off sz=Z (z,m)->C4 h H H' m->OR H H' y T v z off sz
 |0,_,_,_,_,_,_,c,_=>by simp[gz]at c
 |n+1,.st t,v,off,sz,z,m,c,g=>by
  simp only[gz]at c;split at c
  .rename_i q F;split at F
   next A=>simp only[al]at A;simp only[af]at c;subst c;exact .whole (au A.1) (au A.2) (Rb d F D g).2
   .cases F
  .exact sq d D n t v off sz z m c g
 |n+1,.pr a b,v,off,sz,z,m,c,g=>by
  simp only[gz]at c;have hla:=bh a v.1;split at c
  .rename_i hlt;split at c
   next I m1 h1=>simp only[af,aU]at c;obtain⟨rfl,rfl⟩:=c;let⟨fs,q1,N,q3,q4,q5⟩:=sq d D n a v.1 off sz I m1 h1 g;refine ⟨fs,q1,N,by simp only[Ty.size];omega,?_,q5⟩;rw[bP,bP,Rz _ _ _ _ (by omega),q4]
   .cases c
  .rename_i hlt;have hlt:¬off<a.size:=λh=>hlt (bf h)
   split at c
   next I m1 h1=>simp only[af,aU]at c;obtain⟨rfl,rfl⟩:=c;let⟨fs,q1,N,q3,q4,q5⟩:=sq d D n b v.2 (off-a.size) sz I m1 h1 g;refine ⟨fs,q1,N,by simp only[Ty.size];omega,?_,q5⟩;rw[bP,bP,Pe _ _ _ _ (by omega),q4,hla]
   .cases c
 |n+1,.un,v,off,sz,z,m,c,g=>by simp[gz]at c
 |n+1,.ex,v,off,sz,z,m,c,g=>by
  simp only[gz]at c;split at c
  .rename_i q F;split at F
   next A=>simp only[al]at A;simp only[af]at c;subst c;exact .whole (au A.1) (au A.2) (Rb d F D g).2
   .cases F
  .split at c
   next I m1 h1=>simp only[af,aU]at c;obtain⟨rfl,rfl⟩:=c;let⟨fs,q1,N,q3,q4,q5⟩:=sq d D n Of (O9 v) off sz I m1 h1 g;exact⟨fs,q1,N,q3,by rw[bP,bP,TD,q4,KK],q5⟩
   .cases c
 |n+1,.sm,v,off,sz,z,m,c,g=>by
  simp only[gz]at c;split at c
  .rename_i q F;split at F
   next A=>simp only[al]at A;simp only[af]at c;subst c;exact .whole (au A.1) (au A.2) (Rb d F D g).2
   .cases F
  .split at c
   next I m1 h1=>simp only[af,aU]at c;obtain⟨rfl,rfl⟩:=c;let⟨fs,q1,N,q3,q4,q5⟩:=sq d D n NJ (O8 v) off sz I m1 h1 g;exact⟨fs,q1,N,q3,by rw[bP,bP,TB,q4,KJ],q5⟩
   .cases c
 |n+1,.int k,v,off,sz,z,m,c,g|n+1,.bool,v,off,sz,z,m,c,g|n+1,.str,v,off,sz,z,m,c,g|n+1,.sl t,v,off,sz,z,m,c,g=>by
  simp only[gz]at c;split at c
  next A=>simp only[al]at A;exact .whole (au A.1) (au A.2) (x_ d c D g).2.2.2
  .cases c
def EM:∀{a b:ξ},ON a b=J->a=b
 |[],[],_=>rfl
 |[],_::_,h|_::_,[],h=>by cases h
 |x::xs,y::ys,h=>by
  simp[ON,al]at h;rw[ajp h.1,EM h.2]
def Iy (d:qe H H'):∀T:Ty,gu H H' ((tm T).map raw) ((bP T T.zero).map .f)
 |.int k|.bool|.str=>⟨ju.refl d _,trivial⟩
 |.sl t=>⟨Le.nil.toH d,trivial⟩
 |.st t=>Iy d t
 |.pr a b=>by
  simp[tm,Ty.zero,bP,cf];exact (Iy d a).append (Iy d b)
 |.un=>trivial
 |.ex=>⟨ju.refl d _,ju.refl d _,ju.refl d _,Le.nil.toH d,trivial⟩
 |.sm=>⟨ju.refl d _,ju.refl d _,ju.refl d _,ju.refl d _,Le.nil.toH d,ju.refl d _,ju.refl d _,ju.refl d _,Le.nil.toH d,Le.nil.toH d,Le.nil.toH d,trivial⟩
def IG (d:qe H H') (T:Ty):∀n,gu H H' ((repl (tm T) n).map .f) (((aP n T.zero).flatMap (bP T)).map .f)
 |0=>trivial
 |n+1=>by
  rw[repl,mh,eE,cf,cf];have h1:=Iy (H:=H) (H':=H') d T;have:((tm T).map .raw).map AV.f=(tm T).map raw:=by rw[ic];rfl
  rw[this];exact h1.append (IG d T n)
end pack
structure gC (h:a_) (nx:Nat):Prop where
 C:∀id ty l,h.get id=Z (.C ty l)->kR h l=J
 low:∀id b,h.get id=Z b->id<nx
def rz (e:gM) (h:a_):Prop:=∀t v,e.get t=Z v->Mv h v=J
structure eK (P:Program) (o:Oper) (still:Bool) (e:gM) (h:a_) (nx:Nat) (v:TV) (rd wr:Nat) (h':a_) (nx':Nat):Prop where
 ex:∃f:zD,ft P o (fB e h) (erHF h) f/\(∀y,b7 h' v=Z y->f.val=y)/\dZ (erHF h) f.wr f.nw=erHF h'/\(∀n∈f.rd,aC rd (ow n)=J)/\(∀n∈f.wr,aC wr (ow n)=J)/\(∀n∈f.N,nx<=ow n/\ow n<nx')
 F:b8 h h'
 inv:gC h' nx'
 zd:nx<=nx'
 st:still=J->rd=0/\wr=0
def h_ (P:Program) (o:Oper) (still:Bool) (e:gM) (h:a_) (nx:Nat) (K:KO R) (r:R):Prop:=
 ∃v rd c h' nx',K v rd c h' nx'=Z r/\eK P o still e h nx v rd c h' nx'
def cB {k:b=J->M R} {r:R} (h:chk b k=Z r):∃c:b=J,k c=Z r:=by
 cases b with
 |true=>exact⟨rfl,h⟩
 |false=>cases h
def kK {t f:M R} {r:R} (h:aI b t f=Z r):(b=J/\t=Z r)\/(b=aa/\f=Z r):=by
 cases b with
 |true=>exact .inl ⟨rfl,h⟩
 |false=>exact .inr ⟨rfl,h⟩
def dV {α:Type} {o:M α} {k:α->M R} {r:R} (h:aw o k=Z r):∃x,o=Z x/\k x=Z r:=by
 cases o with
 |some x=>exact⟨x,rfl,h⟩
 |none=>cases h
variable {a:Int}
def lR (h:gr a i=J):0<=a/\a<i/\a.toNat<i:=by
 simp[gr,cZ,fV,al,bG]at h;omega
def ft.envLe {e e2:EF} {f:zD} (ht:ft P k e S f) (hle:∀t y,.tmp t∈k.op.operands->e t=Z y->∃q,e2 t=Z q/\Le q y):ft P k e2 S f:=by
 intro φ E h' w a h1 I F D A;refine ht φ E h' w a h1 I (λt c y z=>?_) D A;let⟨q,g1,N⟩:=hle t y c z;exact N _ _ _ _ (F t c q g1)
def Lr (h:a_) (c:cst v=Z u):b7 h u=Z (raw v)/\v.oneCell'=J/\u.isC=J:=by
 unfold cst at c;split at c<;>cases c<;>exact⟨rfl,rfl,rfl⟩
def vR (h:a_):∀{z:ξ} {l:Y TV},Lq z=Z l->cN h l=Z (z.map raw)/\(∀x∈z,x.oneCell'=J)/\kL l=J
 |[],l,c=>by simp[Lq,af]at c;subst c;exact⟨rfl,by simp,rfl⟩
 |v::r,l,c=>by
  simp[Lq]at c;split at c
  .rename_i x l' q A;simp[af]at c;subst c;let⟨h1,h2,I⟩:=Lr h q;let⟨F,h5,D⟩:=vR h A;refine ⟨pu h1 F,λy N=>?_,by simp[kL,I,D]⟩
   grind
  .cases c
variable {c:Operand}
def be {e:gM} (hi:rz e h) (q:dy e c=Z u):∃y,kc (Bk e h) c=Z y/\b7 h u=Z y:=by
 cases c with
 |tmp t=>
  simp[dy]at q;let⟨y,A⟩:=oA h u (hi t u q);refine ⟨y,?_,A⟩;simp[kc];rw[Bj];simp[fB,q,aB,A]
 |const x=>
  simp[dy]at q;unfold anf at q;split at q
  .rename_i vs;split at q
   .rename_i h1;split at q
    next l D=>simp[af]at q;subst q;refine ⟨.agg (vs.toList.map raw),?_,by simp[b7,(vR h D).1]⟩;simp only[kc,FQ,h1,bo];rfl
    .cases q
   .cases q
  .rename_i F;refine ⟨raw x,?_,(Lr h q).1⟩;simp[kc];unfold FQ;split
   .grind
   .rfl
 |func g=>
  simp[dy,af]at q;subst q;exact⟨_,rfl,rfl⟩
 |global g=>
  simp[dy]at q;cases z:G g with
  |none=>rw[z]at q;cases q
  |some cells=>
   rw[z]at q;simp[af]at q;subst q;have hcells:cells=DC:=by
    unfold G at z
    grind
   subst hcells;exact⟨_,by simp[kc,z];rfl,rfl⟩
def Dt {e:gM} (hi:rz e h):∀{xs:Y Operand} {l:Y TV},Jw e xs=Z l->∃l',YT (Bk e h) xs=Z l'/\cN h l=Z l'
 |[],l,c=>by simp[Jw,af]at c;subst c;exact⟨[],rfl,rfl⟩
 |x::xs,l,c=>by
  simp[Jw]at c;split at c
  .rename_i y z;split at c
   next I hys=>simp[af]at c;subst c;let⟨q,h1,F⟩:=be hi z;let⟨l',D,A⟩:=Dt hi hys;exact⟨q::l',by simp[YT,h1,D],pu F A⟩
   .cases c
  .cases c
section ops
variable {R:Type} {P:Program} {o:Oper} {e:gM} {h:a_} {nx:Nat} {K:KO R} {r:R}
def eK.pure {s:Np} (hinv:gC h nx) (D:cP P o.op=Z s) {H:gy} (I:H.get=erHF h) {k:Nat} {y0:AV} {rdl:ι} (a:dk s (Bk e h) H k=Z ⟨y0,rdl,[],[],[]⟩) (z:∀y,b7 h u=Z y->Le y0 y) (hrd:∀n∈rdl,aC i (ow n)=J) (hst:b=J->i=0):eK P o b e h nx u i 0 h nx:=by
 have ht:=Du D a;rw[Bj,I]at ht;refine ⟨?_,λ_ _ h=>h,hinv,bL _,λA=>⟨hst A,rfl⟩⟩;have key:∀y,Le y0 y->ft P o (fB e h) (erHF h) ⟨y,rdl,[],iy [],[]⟩:=λy hle=>
  ft.view ht (λrd hi=>by cases hi) λh' _ _=>⟨L4.refl _,hle.toH (qe.refl _)⟩
 cases q:b7 h u with
 |none=>exact⟨_,ht,λy c=>by simp at c,by simp[yf.eff,sk],hrd,by simp[yf.eff],by simp[yf.eff]⟩
 |some y=>exact⟨_,key y (z y q),λN c=>by simpa using c,by simp[sk],hrd,by simp,by simp⟩
def h_.q {s:Np} (hinv:gC h nx) (D:cP P o.op=Z s) {k:Nat} {y0:AV} (F:∀H:gy,H.get=erHF h->dk s (Bk e h) H k=rv y0) (z:∀y,b7 h u=Z y->Le y0 y) (A:K u 0 0 h nx=Z r):h_ P o b e h nx K r:=by
 let⟨H,c⟩:=fW h;exact⟨u,0,0,h,nx,A,eK.pure hinv D c (F H c) z (by simp) λ_=>rfl⟩
def cL (q:b7 h u=Z y):∀y0,b7 h u=Z y0->Le y y0:=λy0 c=>by rw[q]at c;cases c;exact Le.refl _
def ack {xs:Y T.den} (D:gr a (l! xs)=J) (F:mG 40 T (aK _ xs a) i m b=Z u):
 ∃y,b7 h u=Z (.f y)/\(BC.fz (xs.flatMap (bP T))).sub? (a.toNat*T.size+i) m b=Z (.f y):=by
 let⟨h1,y,h2,h3,h4⟩:=sK h 40 T _ i m b u F;refine ⟨y,h2,?_⟩;let⟨_,_,hlt⟩:=lR D;have A:xs[a.toNat]? =Z (aK _ xs a):=by
  unfold aK;rw[aT,aH hlt];rfl
 let⟨q,z⟩:=FA (bh T) xs a.toNat _ A;have hlen:=dN (bh T) xs;have hle:(a.toNat+1)*T.size<=l! xs*T.size:=co _ hlt;rw[iN]at hle;have hl:=bh T (aK _ xs a);cases b with
 |false=>
  let⟨N,I⟩:=h3 rfl;subst N;simp only[BC.sub?,BC.get];have:(xs.flatMap (bP T))[a.toNat*T.size+i]? =Z y:=by
   rw[<- iX,z,cE (by omega)];exact I
  rw[this];rfl
 |true=>
  simp only[BC.sub?];rw[aR (bf (by omega)),h4 rfl,<-List.drop_drop,z,List.drop_append_of_le_length (by omega),EX (by grind)]
def al2 {v:T.den} (q:mG 40 T v i m b=Z u):
 ∃y,b7 h u=Z (.f y)/\(BC.fz (bP T v)).sub? i m b=Z (.f y):=by
 let⟨h1,y,F,D,N⟩:=sK h 40 T _ i m b u q;refine ⟨y,F,?_⟩;have I:=bh T v;cases b with
 |false=>
  let⟨A,z⟩:=D rfl;subst A;simp only[BC.sub?,BC.get,z];rfl
 |true=>
  simp[BC.sub?];simp_all
def X8 (q:cN h B=Z N) (c:VQ B i m b=Z u):∃y,b7 h u=Z y/\(BC.mx N).sub? i m b=Z y:=by
 cases b with
 |false=>
  simp only[VQ]at c;split at c
  next h1=>have h1:=au h1;subst h1;let⟨y,z,D⟩:=lw q i u c;exact⟨y,D,by simp[BC.sub?,BC.get,z]⟩
  .cases c
 |true=>
  simp only[VQ]at c;split at c
  next h1=>simp[af]at c;subst c;have z:=FH m (FJ i q);exact⟨.agg ((N.drop i).take m),by simp[b7,z],by simp[BC.sub?,hY q,h1,bo]⟩
  .cases c
def R_ (c:lenOf h u=Z i) (z:b7 h u=Z y):y.slen=Z i:=by
 unfold lenOf at c;split at c
 .simp[af]at c;subst c;simp[b7,af]at z;subst z;rfl
 .simp[af]at c;subst c;simp[b7,af]at z;subst z;rfl
 .simp[af]at c;subst c;simp[b7,af]at z;subst z;rfl
 .rename_i id;simp[b7]at z;cases A:ep h id with
  |none=>rw[A]at c;cases c
  |some q=>
   rw[A]at c z;simp[af]at c z;subst c z;unfold dA;split
   next hp=>simp[al,cV]at hp;rw[hp.2];rfl
   .rfl
 .simp[af]at c;subst c;simp[b7,af]at z;subst z;rfl
 .simp[af]at c;subst c;simp[b7,af]at z;subst z;simp only[Ib,sZ];split
  next hp=>rw[cV]at hp;rw[hp];rfl
  .rfl
 .cases c
def EL (a b:ζ):sg ⟨a.toArray⟩ ⟨b.toArray⟩=decide (a=b):=by
 unfold sg
 grind
def ajo {op:BinOp} {v:TV} {q:TV->M R} (z:anl op u v q=Z r):∃a b c t,b7 h u=Z (raw a)/\b7 h v=Z (raw b)/\vn op a b=Z c/\b7 h t=Z (raw c)/\q t=Z r:=by
 unfold anl at z;split at z
 .rename_i k a D b;split at z
  .rename_i hkk;have hkk':k=D:=by grind
   subst hkk';refine ⟨.int k a,.int k b,?_⟩;cases op<;>simp[reduceCtorEq]at z<;>first
    |cases z
    |exact⟨_,_,rfl,rfl,(by simp[vn,cz,bo]<;>rfl),rfl,z⟩
    |(let⟨F,z⟩:=cB z
      have A:(b==(0:Int))=aa:=by grind
      exact⟨_,_,rfl,rfl,by simp[vn,cz,bo,A,cg,eV],rfl,z⟩)
  .cases z
 .rename_i a b;refine ⟨.string ⟨iO a⟩,.string ⟨iO b⟩,?_⟩;split at z
  .exact⟨.bool (decide ((a:ζ)=b)),_,rfl,rfl,by simp[vn,EL],rfl,z⟩
  .exact⟨.bool (!decide ((a:ζ)=b)),_,rfl,rfl,by simp[vn,EL],rfl,z⟩
  .cases z
 .cases z
def Zf :∀{l:Y TV} {xs:Y T.den},xc T l=Z xs->∀k,k<l! l->l[k]? =Z (.f T (xs.getD k T.zero))
 |[],xs,_,k,q=>by simp at q
 |.f S v::r,xs,c,k,q=>by
  simp[xc]at c;split at c
  .rename_i x z;split at c
   .rename_i l A;simp[af]at c;subst c;let⟨es,ex⟩:=gP z;cases es;subst ex;cases k with
    |zero=>rfl
    |succ k=>simpa using Zf A k (by grind)
   .cases c
  .cases c
 |.zw _ _ _ _ _::r,xs,c,k,q|.qr _ _ _ _::r,xs,c,k,q|.H _ _::r,xs,c,k,q|.qk _ _ _::r,xs,c,k,q|.G _::r,xs,c,k,q|.emp::r,xs,c,k,q|.nil::r,xs,c,k,q|.mp _::r,xs,c,k,q|.agg _::r,xs,c,k,q|.qb _::r,xs,c,k,q|.qy _ _::r,xs,c,k,q|.undef::r,xs,c,k,q|.np::r,xs,c,k,q|.qv::r,xs,c,k,q|.qh _ _::r,xs,c,k,q|.sb _::r,xs,c,k,q=>by simp[xc]at c
def Ze {xs:Y T.den} (c:afn B=Z ⟨T,xs⟩):∀k,k<l! B->B[k]? =Z (.f T (xs.getD k T.zero)):=by
 unfold afn at c;split at c
 .split at c
  next z q=>cases c;exact Zf q
  .cases c
 .cases c
variable (hinv:gC h nx) (hi:rz e h)
include hinv hi
variable {X:FuncId->M cu} {W:TypeId->M Ty}
def K_mv (A:cP P o.op=Z (.mv c)) (x:d_ X W (.op (.mv c)) e h nx K=Z r):h_ P o b e h nx K r:=by
 simp[d_]at x;split at x
 next v z=>let⟨y,h1,D⟩:=be hi z;exact h_.q (k:=0) hinv A (λH _=>by simp[dk,h1]) (cL D) x
 .cases x
def ap8 {a st:Operand} (N:cP P o.op=Z (.pick c a st)) (D:d_ X W (.op (.pick c a st)) e h nx K=Z r):h_ P o b e h nx K r:=by
 simp[d_]at D;split at D
 .rename_i t hv;let⟨y,h1,h2⟩:=be hi hv;simp[b7,af]at h2;subst h2;rcases kK D with ⟨rfl,z⟩|⟨rfl,z⟩
  .split at z
   next v A=>let⟨y2,I,F⟩:=be hi A;exact h_.q (k:=0) hinv N (λH _=>by simp[dk,h1,fC,bo,I]) (cL F) z
   .cases z
  .split at z
   next v A=>let⟨y2,I,F⟩:=be hi A;exact h_.q (k:=0) hinv N (λH _=>by simp[dk,h1,fC,I,cg,eV]) (cL F) z
   .cases z
 .cases D
def ap9 (F:cP P o.op=Z (.zr c)) (A:d_ X W (.op (.zr c)) e h nx K=Z r):h_ P o b e h nx K r:=by
 simp[d_]at A;split at A;all_goals first
  |(rename_i D
    let⟨y,h1,x⟩:=be hi D;have z:=x;simp[b7,af]at x;subst x;exact h_.q (k:=0) hinv F (λH _=>by simp[dk,h1]) (cL z) A)
  |skip
 .rename_i g cap D;let⟨y,h1,x⟩:=be hi D;have z:=x;simp[b7]at x;split at x
  .simp[af]at x;subst x;exact h_.q (k:=0) hinv F (λH _=>by simp[dk,h1]) (cL z) A
  .cases x
 .cases A
def asw (D:cP P o.op=Z (.not c)) (x:d_ X W (.op (.not c)) e h nx K=Z r):h_ P o b e h nx K r:=by
 simp[d_]at x;split at x
 next st A=>let⟨y,h1,z⟩:=be hi A;simp[b7,af]at z;subst z;exact h_.q (k:=0) hinv D (λH _=>by simp[dk,h1,fC];rfl) (cL rfl) x
 .cases x
def apg {k:IntKind} (D:cP P o.op=Z (.conv k c)) (x:d_ X W (.op (.conv k c)) e h nx K=Z r):h_ P o b e h nx K r:=by
 simp[d_]at x;split at x
 next F n A=>let⟨y,h1,z⟩:=be hi A;simp[b7,af]at z;subst z;exact h_.q (k:=0) hinv D (λH _=>by simp[dk,h1,fC];rfl) (cL rfl) x
 .cases x
def ata {y:Operand} {st:Bool} (I:cP P o.op=Z (.xq b c y)) (x:d_ X W (.op (.xq b c y)) e h nx K=Z r):h_ P o st e h nx K r:=by
 simp[d_]at x;split at x
 next a neg F z=>let⟨y,h1,D⟩:=be hi F;let⟨y2,N,A⟩:=be hi z;simp[b7,af]at D A;subst D A;exact h_.q (k:=0) hinv I (λH _=>by simp[dk,h1,N,fC];rfl) (cL rfl) x
 .cases x
def akp {st:Bool} (I:cP P o.op=Z (.zm b c)) (z:d_ X W (.op (.zm b c)) e h nx K=Z r):h_ P o st e h nx K r:=by
 simp[d_]at z;split at z
 next A=>let⟨y,h1,x⟩:=be hi A;simp[b7,af]at x;subst x;exact h_.q (k:=0) hinv I (λH _=>by simp[dk,h1,Bg,bo];rfl) (cL rfl) z
 next A=>let⟨y,h1,x⟩:=be hi A;simp[b7,af]at x;subst x;exact h_.q (k:=0) hinv I (λH _=>by simp[dk,h1]) (cL rfl) z
 .rename_i T xs A;let⟨y,h1,x⟩:=be hi A;simp[b7,af]at x;subst x;rcases kK z with ⟨F,D⟩|⟨F,D⟩
  .have F:=au F;exact h_.q (k:=0) (y0:=.qv) hinv I (λH _=>by simp[dk,h1,fC,F]) (cL rfl) D
  .have F:=fa F;let⟨n,N⟩:=Nat.exists_eq_succ_of_ne_zero F;exact h_.q (k:=0) (y0:=raw (.bool b)) hinv I (λH _=>by simp[dk,h1,fC,N]) (cL rfl) D
 .rename_i id A;split at z
  next ty T xs hb=>let⟨y,h1,x⟩:=be hi A;simp[b7,ep,hb,dA,dY,cg,eV,af]at x;subst x;exact h_.q (k:=0) (y0:=raw (.bool b)) hinv I (λH _=>by simp[dk,h1]) (cL rfl) z
  .cases z
 .cases z
def at1 {y:Operand} (I:cP P o.op=Z (.max c y)) (x:d_ X W (.op (.max c y)) e h nx K=Z r):h_ P o b e h nx K r:=by
 simp[d_]at x;split at x
 .rename_i k a k' st F z;let⟨y,h1,D⟩:=be hi F;let⟨y2,N,A⟩:=be hi z;simp[b7,af]at D A;subst D A;split at x
  .exact h_.q (k:=0) hinv I (λH _=>by simp[dk,h1,N,fC];rfl) (cL rfl) x
  .cases x
 .cases x
def at0 {y:Operand} (I:cP P o.op=Z (.min c y)) (x:d_ X W (.op (.min c y)) e h nx K=Z r):h_ P o b e h nx K r:=by
 simp[d_]at x;split at x
 .rename_i k a k' st F z;let⟨y,h1,D⟩:=be hi F;let⟨y2,N,A⟩:=be hi z;simp[b7,af]at D A;subst D A;split at x
  .exact h_.q (k:=0) hinv I (λH _=>by simp[dk,h1,N,fC];rfl) (cL rfl) x
  .cases x
 .cases x
def at7 (D:cP P o.op=Z (.jm i c)) (x:d_ X W (.op (.jm i c)) e h nx K=Z r):h_ P o b e h nx K r:=by
 simp[d_]at x;split at x;all_goals first
  |(rename_i A
    let⟨y,h1,z⟩:=be hi A;simp[b7,af]at z;subst z;exact h_.q (k:=0) hinv D (λH _=>by simp[dk,h1,pL]) (cL rfl) x)
  |cases x
def at6 {st:Bool} (N:cP P o.op=Z (.fld i m b c)) (x:d_ X W (.op (.fld i m b c)) e h nx K=Z r):h_ P o st e h nx K r:=by
 simp[d_]at x;split at x
 .rename_i l A;split at x
  .rename_i u D;let⟨y,h1,z⟩:=be hi A;simp[b7]at z;split at z
   next l' hl=>simp[af]at z;subst z;let⟨y,I,F⟩:=X8 hl D;exact h_.q (k:=0) hinv N (λH _=>by simp[dk,h1,F]) (cL I) x
   .cases z
  .cases x
 .rename_i T v A;split at x
  .cases x
  .rename_i ho;split at x
   next u D=>let⟨y,h1,z⟩:=be hi A;simp[b7,af]at z;rw[qZ T v (by grind)]at z;subst z;let⟨y,I,F⟩:=al2 (h:=h) D;exact h_.q (k:=0) hinv N (λH _=>by simp[dk,h1,F]) (cL I) x
   .cases x
 .cases x
def at4 {n:Operand} {st:Bool} (hc:cP P o.op=Z (.idx i m b c n)) (x:d_ X W (.op (.idx i m b c n)) e h nx K=Z r):h_ P o st e h nx K r:=by
 simp[d_]at x;split at x
 .rename_i v0 k j hv I;split at x
  .rename_i T xs hA;let⟨N,x⟩:=cB x;cases b with
   |true=>cases hA
   |false=>
   simp only[aqs]at hA;split at hA
   .rename_i hsz;simp only[al,cK]at hsz;have hsz1:=au hsz.1;subst hsz1;split at hA
    .rename_i l hl;split at hA
     .rename_i hn;have hn:=au hn;let⟨y,h1,A⟩:=be hi hv;let⟨y2,h5,F⟩:=be hi I;simp[b7,af]at F;subst F;have hj:j.toNat<l! l:=by
       simp[al,cZ,fV,bG]at N;omega
      have hg:=Ze hA j.toNat hj;let⟨he,_⟩:=HE hl A;let⟨z,D,hz2⟩:=lw he j.toNat _ hg;refine h_.q (k:=0) hinv hc (λH _=>?_) (cL hz2) x;cases v0 with
      |agg q=>
       simp[b7]at A;split at A
       next l' _=>simp[af]at A;subst A;have D:l'[j.toNat]? =Z z:=D;simp[dk,h1,h5,fC,N,bo,BC.sub?,BC.get,yQ,D]
       .cases A
      |f S u=>
       have ho:S.one=aa:=by
        have:=hsz.2;simpa[TV.isC] using this
       simp[b7,af]at A;rw[qZ S u ho]at A;subst A;have D:((bP S u).map AV.f)[j.toNat]? =Z z:=D;rw[bM]at D;simp[dk,h1,h5,fC,N,bo,BC.sub?,BC.get,yQ,D]
      |_=>simp[TV.cs,TV.isC]at hl hsz
     .cases hA
    .cases hA
   .cases hA
  .split at x
   .rename_i l;let⟨N,x⟩:=cB x;split at x
    .rename_i u hs;let⟨y,h1,A⟩:=be hi hv;let⟨y2,h5,F⟩:=be hi I;simp[b7,af]at F;subst F;simp[b7]at A;split at A
     next l' hl=>simp[af]at A;subst A;let⟨y,h3,h4⟩:=X8 hl hs;exact h_.q (k:=0) hinv hc (λH _=>by simp[dk,h1,h5,fC,N,bo,h4]) (cL h3) x
     .cases A
    .cases x
   .rename_i T v _;split at x
    .cases x
    .rename_i ho;let⟨N,x⟩:=cB x;split at x
     next u hs=>let⟨y,h1,A⟩:=be hi hv;let⟨y2,h5,F⟩:=be hi I;simp[b7,af]at F A;subst F;rw[qZ T v (by grind)]at A;subst A;let⟨y,h3,h4⟩:=al2 (h:=h) hs;exact h_.q (k:=0) hinv hc (λH _=>by simp[dk,h1,h5,fC,N,bo,h4]) (cL h3) x
     .cases x
   .cases x
 .cases x
def ape {n:Operand} (D:cP P o.op=Z (.jv i m c n)) (x:d_ X W (.op (.jv i m c n)) e h nx K=Z r):h_ P o b e h nx K r:=by
 simp[d_]at x;split at x
 .rename_i id off k j hv z;let⟨y,h1,N⟩:=be hi hv;let⟨y2,I,F⟩:=be hi z;simp[b7,af]at F N;subst F N;have pel:(chk (cZ 0 j&&fV j i) λ_=>K (.qr id m j off) 0 0 h nx)=Z r->h_ P o b e h nx K r:=λx=>by
   let⟨A,x⟩:=cB x;exact h_.q (k:=0) (y0:=.H (nm id) (off+j.toNat*m)) hinv D (λH _=>by simp[dk,h1,I,fC,A,bo]) (cL (by simp[b7];rw[Nat.add_comm])) x
  split at x
  .exact pel x
  .split at x
   .exact pel x
   .obtain⟨A,x⟩:=cB x;exact h_.q (k:=0) hinv D (λH _=>by simp[dk,h1,I,fC,A,bo]) (cL rfl) x
 .cases x
def ast {N:Operand} (hc:cP P o.op=Z (.sla i m c N)) (x:d_ X W (.op (.sla i m c N)) e h nx K=Z r):h_ P o b e h nx K r:=by
 simp only[d_]at x;split at x
 .rename_i id off k j hv A;split at x
  .rename_i ty p T xs hb;split at x
   next I=>simp only[al]at I;have F:=au I.1;have D:=au I.2;subst F D;let⟨y,h1,h2⟩:=be hi hv;let⟨y2,h5,h6⟩:=be hi A;simp[b7,af]at h6 h2;subst h6 h2;let⟨z,x⟩:=cB x;simp only[al]at z;have hn:=au z.2.2;exact h_.q (k:=0) (y0:=.sl (nm id) (0+j.toNat*T.size) (i-j.toNat)) hinv hc (λH _=>by simp[dk,h1,h5,fC,z.1,z.2.1]) (cL (by simp[b7,ep,hb,hn])) x
   .cases x
  .cases x
 .cases x
def at8 (I:cP P o.op=Z (.ext c i)) (x:d_ X W (.op (.ext c i)) e h nx K=Z r):h_ P o b e h nx K r:=by
 simp[d_]at x;split at x
 .rename_i l A;split at x
  .rename_i u D;let⟨y,h1,z⟩:=be hi A;simp[b7]at z;split at z
   next l' F=>simp[af]at z;subst z;let⟨y,h3,N⟩:=lw F i u D;exact h_.q (k:=0) hinv I (λH _=>by simp[dk,h1,h3]) (cL N) x
   .cases z
  .cases x
 .cases x
def at3 (D:cP P o.op=Z (.len c)) (x:d_ X W (.op (.len c)) e h nx K=Z r):h_ P o b e h nx K r:=by
 simp[d_]at x;split at x
 .rename_i v z;split at x
  next n A=>let⟨y,h1,I⟩:=be hi z;have F:=R_ A I;exact h_.q (k:=0) hinv D (λH _=>by simp[dk,h1,F];rfl) (cL rfl) x
  .cases x
 .cases x
def apc (D:cP P o.op=Z (.lens c)) (x:d_ X W (.op (.lens c)) e h nx K=Z r):h_ P o b e h nx K r:=by
 simp[d_]at x;split at x
 next s A=>let⟨y,h1,z⟩:=be hi A;simp[b7,af]at z;subst z;exact h_.q (k:=0) hinv D (λH _=>by simp[dk,h1,fC];rfl) (cL rfl) x
 .cases x
def ap7 {i:Operand} (hc:cP P o.op=Z (.jx c i)) (x:d_ X W (.op (.jx c i)) e h nx K=Z r):h_ P o b e h nx K r:=by
 simp[d_]at x;split at x
 .rename_i s k j I z;let⟨N,x⟩:=cB x;let⟨y,h1,D⟩:=be hi I;let⟨y2,h3,A⟩:=be hi z;simp[b7,af]at D A;subst D A;let⟨F,j1,j2⟩:=lR N;have e1:cZ 0 j=J:=by simp[cZ,F]
  have e2:(⟨iO s⟩:ByteArray).data.toList[j.toNat]? =Z (List.getD s j.toNat 0):=by grind
  exact h_.q (k:=0) (y0:=raw (.int .u8 (bC (List.getD s j.toNat 0).toNat))) hinv hc (λH _=>by simp only[dk,h1,h3,fC,e1,bo,e2];rfl) (cL rfl) x
 .cases x
def at5 {sz:Operand} (hc:cP P o.op=Z (.jp i c sz)) (x:d_ X W (.op (.jp i c sz)) e h nx K=Z r):h_ P o b e h nx K r:=by
 simp only[d_]at x;split at x
 .rename_i id k j hv z;split at x
  .rename_i ty p T xs hb;split at x
   .rename_i A;have A:=au A;let⟨N,x⟩:=cB x;let⟨y,h1,F⟩:=be hi hv;let⟨y2,h3,D⟩:=be hi z;simp[b7,af]at D;subst D;let⟨j0,j1,j2⟩:=lR N;have hne:¬((p&&l! xs==0)=J):=by grind
    simp only[b7,ep,hb,dA,aE hne,af]at F;subst F;have hc1:(T.size==i&&cZ 0 j&&fV j (l! xs))=J:=by
     simp[gr,al]at N;simp[A,N.1,N.2]
    exact h_.q (k:=0) hinv hc (λH _=>by simp[dk,h1,h3,fC,hc1,bo,dQ]) (cL rfl) x
   .cases x
  .cases x
 .rename_i T xs k j hv z;split at x
  next A=>have A:=au A;let⟨N,x⟩:=cB x;let⟨y,h1,F⟩:=be hi hv;let⟨y2,h3,D⟩:=be hi z;simp[b7,af]at D F;subst D F;have I:(cZ 0 j&&fV j (ah xs))=J:=N;exact h_.q (k:=0) hinv hc (λH _=>by simp[dk,h1,h3,fC,I,bo,dQ,A]) (cL rfl) x
  .cases x
 .rename_i id sz' n k j hv z;split at x
  .rename_i A;have A:=au A;subst A;let⟨N,x⟩:=cB x;let⟨y,h1,F⟩:=be hi hv;let⟨y2,h3,D⟩:=be hi z;simp[b7,af]at D F;subst D F;have I:(sz'==sz'&&cZ 0 j&&fV j n)=J:=by grind
   exact h_.q (k:=0) hinv hc (λH _=>by simp only[dk,h1,h3,fC,I,bo]) (cL rfl) x
  .cases x
 .cases x
def asz {caps:Y Operand} (A:cP P o.op=Z (.mkf f caps)) (c:d_ X W (.op (.mkf f caps)) e h nx K=Z r):h_ P o b e h nx K r:=by
 simp[d_]at c;split at c
 next l z=>let⟨l',h1,D⟩:=Dt hi z;exact h_.q (k:=0) hinv A (y0:=.qy f l') (λH _=>by simp[dk,h1]) (cL (by simp[b7,D])) c
 .cases c
def ate {op:BinOp} {y:Operand} (hc:cP P o.op=Z (.bin op c y)) (z:d_ X W (.op (.bin op c y)) e h nx K=Z r):h_ P o b e h nx K r:=by
 simp[d_]at z;split at z
 next u v hv A=>let⟨a,st,x,t,h1,h2,h3,h4,h5⟩:=ajo (h:=h) z;let⟨y,N,I⟩:=be hi hv;let⟨y2,F,D⟩:=be hi A;rw[h1]at I;cases I;rw[h2]at D;cases D;simp[raw]at N F;exact h_.q (k:=0) hinv hc (λH _=>by simp[dk,N,F,h3]) (cL h4) h5
 .cases z
end ops
def hZ:eC->M (Bool×n!)
 |.F _ p T xs=>Z (p,T.size,l! xs)
 |.qj p sz n=>Z (p,sz,n)
 |.qw F _ x|.qm F _ x _ _=>qY F x
 |_=>U
def bH (h:a_) (i:Nat):ep h i=(h.get i).bind hZ:=by
 unfold ep;cases h.get i with
 |none=>rfl
 |some b=>cases b<;>rfl
def b8.refl (h:a_):b8 h h:=λ_ _ h=>h
def b8.trans {a c:a_} (h1:b8 a h) (q:b8 h c):b8 a c:=λi r b=>q i r (h1 i r b)
def b8.set {b:eC} (q:∀r,ep h i=Z r->hZ b=Z r):b8 h (h.set i (Z b)):=λj r c=>by
 rw[bH,PT.get_set];by_cases e:j=i
 .grind
 .rw[aE e,<-bH];exact c
def NO {b:eC} {r:Bool×n!} (h:hZ b=Z r):hZ (tA b)=Z r:=by
 cases b with
 |qw F a x|qm F a x k p=>simp[hZ]at h;simp[tA,h,hZ]
 |_=>first|exact h|cases h
def zV {b:eC} {ty:M TypeId} (h:tA b= .C ty B):False:=by
 cases b<;>simp[tA]at h<;>first|cases h|(split at h<;>cases h)
def JW (b:eC):∃p s n,tA b= .qj p s n:=by
 cases b with
 |qw F a x|qm F a x k p=>simp only[tA];split<;>exact⟨_,_,_,rfl⟩
 |_=>exact⟨_,_,_,rfl⟩
def aew {b:eC} (c:Mn h i m (tA b)=Z z):False:=by
 let⟨p,s,n,e⟩:=JW b;rw[e]at c;cases m<;>cases c
def iq (m:Nat) (h:a_) (i:Nat):(dI m h).get i=if aC m i then (h.get i).map tA else h.get i:=by
 unfold dI;split
 .simp_all
 .rw[PT.get_updI];simp[Nat.one_mul,dQ];cases h.get i with
  |none=>simp
  |some b=>simp[bw];split<;>rfl
def b8.kill (m:Nat) (h:a_):b8 h (dI m h):=λi r c=>by
 rw[bH]at c ⊢;rw[iq];split
 .cases q:h.get i with
  |none=>rw[q]at c;cases c
  |some b=>rw[q]at c;exact NO c
 .exact c
def gC.set {nx':Nat} {b:eC} (hi:gC h m) (z:b8 h (h.set i (Z b))) (hlt:i<nx') (hle:m<=nx') (A:∀ty l,b= .C ty l->kR (h.set i (Z b)) l=J):gC (h.set i (Z b)) nx':=by
 refine ⟨λj ty l q=>?_,λj c q=>?_⟩
 .rw[PT.get_set]at q;split at q
  .grind
  .exact eS z l (hi.C j _ l q)
 .rw[PT.get_set]at q;split at q
  .omega
  .exact dj (hi.low j c q) hle
def gC.kill (hi:gC h i) (m:Nat):gC (dI m h) i:=by
 refine ⟨λj ty l q=>?_,λj c q=>?_⟩
 .rw[iq]at q;refine eS (b8.kill m h) l (hi.C j ty l ?_);split at q
  .cases z:h.get j with
   |none=>rw[z]at q;cases q
   |some b=>rw[z]at q;exact (zV (eW q)).elim
  .exact q
 .rw[iq]at q;split at q
  .cases z:h.get j with
   |none=>rw[z]at q;cases q
   |some b=>exact hi.low j b z
  .exact hi.low j c q
def Tu {h':a_} (q:b8 h h') {b:eC} (z:∀ty l,b= .C ty l->kR h l=J):jG h' b=jG h b:=by
 cases b with
 |C ty l=>
  let⟨l',c⟩:=fb h l (z ty l rfl);cases ty<;>simp[jG,c,gB q l l' c]
 |_=>rfl
def lx {h':a_} (c:b8 h h') {b:eC} (q:∀ty l,b= .C ty l->kR h l=J) (i:Nat):∀k,Mn h' i k b=Mn h i k b
 |0=>Tu c q
 |_+1=>rfl
def aa3 {h':a_} (hi:gC h m) (c:b8 h h') (q:h'.get i=h.get i):erHF h' (nm i)=erHF h (nm i):=by
 rw[bU,bU,q];cases z:h.get i with
 |none=>rfl
 |some b=>exact Tu c λty l e=>hi.C i _ l (by rw[z,e])
def il (h h':a_):Prop:=∀i k,(h'.get i).bind (vh i k)=(h.get i).bind (vh i k)
def il.refl (h:a_):il h h:=λ_ _=>rfl
def il.trans {a c:a_} (h1:il a h) (q:il h c):il a c:=λi k=>(q i k).trans (h1 i k)
def noM:M eC->Bool
 |some (.qw _ _ _)=>aa
 |some (.qm _ _ _ _ _)=>aa
 |_=>J
def IP {c:M eC} (q:noM c=J) (i k:Nat):c.bind (vh i k)=U:=by
 cases c with
 |none=>rfl
 |some b=>cases b<;>first|rfl|cases q
def il.set {b:M eC} (h1:noM (h.get i)=J) (c:noM b=J):il h (h.set i b):=λj k=>by
 rw[PT.get_set];by_cases e:j=i
 .subst e;rw[aR rfl,IP h1,IP c]
 .rw[aE e]
def il.at_ {b:M eC} (h1:∀k,b.bind (vh i k)=(h.get i).bind (vh i k)):il h (h.set i b):=λj k=>by
 rw[PT.get_set]
 grind
def il.of {h':a_} (c:∀i,h'.get i=h.get i\/(noM (h.get i)=J/\noM (h'.get i)=J)):il h h':=λj k=>by
 rcases c j with e|⟨e1,e2⟩
 .rw[e]
 .rw[IP e1,IP e2]
def il.kill (hm:∀i,aC m i=J->∃ty p T xs,h.get i=Z (.F ty p T xs)):il h (dI m h):=λj k=>by
 rw[iq];split
 next q=>let⟨ty,p,T,xs,c⟩:=hm j q;rw[c];rfl
 .rfl
def lT {h':a_} (hi:gC h i) (q:b8 h h') (hm:il h h') (z:∀nx,m=nm nx->h'.get nx=h.get nx):erHF h' m=erHF h m:=by
 cases c:ix m with
 |zero=>rw[oC c];exact aa3 hi q (z _ (oC c))
 |succ k=>
  have e:=j9 m;rw[c]at e;rw[<- e,jX,jX];exact hm _ k
def KE {h':a_} (hme:il h h') (b:erHF h' i=Z z):erHF h i=Z z\/∃q c,i=nm q/\h'.get q=Z c/\jG h' c=Z z:=by
 cases A:ix i with
 |zero=>
  let⟨c,h1,D⟩:=gV b;rw[A]at D;exact .inr ⟨ow i,c,oC A,h1,D⟩
 |succ k=>
  have e:=j9 i;rw[A]at e;rw[<- e,jX]at b ⊢;exact .inl ((hme _ _).symm.trans b)
def Gp (m:Nat):ι:=(OM m).map nm
def oa :i∈Gp m↔∃n,i=nm n/\aC m n=J:=by
 unfold Gp;rw[bR];constructor
 .rintro⟨n,h1,rfl⟩;exact⟨n,rfl,lj.1 h1⟩
 .rintro⟨n,rfl,h1⟩;exact⟨n,lj.2 h1,rfl⟩
def lO :nm i∈Gp m↔aC m i=J:=by
 rw[oa];constructor
 .rintro⟨j,h1,c⟩;rw[s5 h1];exact c
 .grind
def dH (h:a_) (m:Nat):Prop:=∀i,aC m i=J->∃ty p T xs,h.get i=Z (.F ty p T xs)
def dH.zero (h:a_):dH h 0:=λi hi=>by simp at hi
def dH.or (q:dH h i) (c:dH h m):dH h (i|||m):=λa hi=>by
 rw[bj,eX]at hi;exact hi.elim (q a) (c a)
def mf {v:TV} {x:T.den} (c:gY h T v=Z (x,m)):dH h m:=by
 cases v with
 |f S v|emp|nil=>
  simp[gY]at c;split at c
  .simp[af,aU]at c;rw[<- c.2];exact dH.zero h
  .cases c
 |G id=>
  simp[gY]at c;split at c
  .rename_i ty p S xs F;split at c
   .simp[af,aU]at c;rw[<- c.2];intro i hi;have:=bq.1 hi
    grind
   .cases c
  .cases c
 |_=>simp[gY]at c
def vz :∀(n:Nat) (T:Ty) (l:Y TV) (x:T.den) (m:Nat) (r:Y TV),fh h n T l=Z (x,m,r)->dH h m
 |0,_,_,_,_,_,hp=>by simp[fh]at hp
 |n+1,.st t,l,x,m,r,hp=>vz n t l x m r hp
 |n+1,.pr a b,l,x,m,r,hp=>by
  simp[fh]at hp;split at hp
  .rename_i x1 m1 r1 h1;split at hp
   next c m2 q z=>simp[af,aU]at hp;obtain⟨_,rfl,_⟩:=hp;exact (vz n a l x1 m1 r1 h1).or (vz n b r1 c m2 q z)
   .cases hp
  .cases hp
 |n+1,.un,l,x,m,r,hp=>by
  obtain⟨_,rfl,_⟩:=hp;exact dH.zero h
 |n+1,.ex,l,x,m,r,hp=>by
  simp[fh]at hp;split at hp
  next x1 m1 r1 h1=>simp[af,aU]at hp;obtain⟨_,rfl,_⟩:=hp;exact vz n Of l x1 m1 r1 h1
  .cases hp
 |n+1,.sm,l,x,m,r,hp=>by
  simp[fh]at hp;split at hp
  next x1 m1 r1 h1=>simp[af,aU]at hp;obtain⟨_,rfl,_⟩:=hp;exact vz n NJ l x1 m1 r1 h1
  .cases hp
 |n+1,.int k,l,x,m,r,hp|n+1,.bool,l,x,m,r,hp|n+1,.str,l,x,m,r,hp|n+1,.sl t,l,x,m,r,hp=>by
  simp[fh]at hp;split at hp
  .split at hp
   next x1 m1 h1=>obtain⟨_,rfl,_⟩:=hp;exact mf h1
   .cases hp
  .cases hp
def Zd {x:T.den} (c:C1 h T u=Z (x,m)):dH h m:=by
 cases u with
 |agg l=>
  simp only[C1]at c;split at c
  .cases c
  .split at c
   next x1 m1 h1=>simp[af,aU]at c;obtain⟨_,rfl⟩:=c;exact vz 40 T l x1 m1 [] h1
   .cases c
 |f S u=>exact mf (v:=.f S u) c
 |zw T xs j D off=>exact mf (v:=.zw T xs j D off) c
 |qr id sz j off=>exact mf (v:=.qr id sz j off) c
 |H id off=>exact mf (v:=.H id off) c
 |qk id off z=>exact mf (v:=.qk id off z) c
 |G id=>exact mf (v:=.G id) c
 |emp=>exact mf (v:=.emp) c
 |nil=>exact mf (v:=.nil) c
 |mp id=>exact mf (v:=.mp id) c
 |zp id A=>exact mf (v:=.zp id A) c
 |qb q=>exact mf (v:=.qb q) c
 |qy g q=>exact mf (v:=.qy g q) c
 |undef=>exact mf (v:=.undef) c
 |np=>exact mf (v:=.np) c
 |qv=>exact mf (v:=.qv) c
 |qh S q=>exact mf (v:=.qh S q) c
 |sb q=>exact mf (v:=.sb q) c
def Ps :∀(n:Nat) (l:Y TV) (xs:Y T.den) (m:Nat),BK h T n l=Z (xs,m)->dH h m
 |0,[],xs,m,hp=>by simp[BK,af,aU]at hp;rw[<- hp.2];exact dH.zero h
 |0,_::_,xs,m,hp=>by simp[BK]at hp
 |n+1,l,xs,m,hp=>by
  simp[BK]at hp;split at hp
  .rename_i x1 m1 r1 h1;split at hp
   next c m2 q=>obtain⟨_,rfl⟩:=hp;exact (vz 40 T l x1 m1 r1 h1).or (Ps n r1 c m2 q)
   .cases hp
  .cases hp
def AY :∀(n:Nat) (T:Ty) (v:T.den) (off sz:Nat) (z:T.den) (m:Nat),gz h u n T v off sz=Z (z,m)->dH h m
 |0,_,_,_,_,_,_,c=>by simp[gz]at c
 |n+1,.st t,v,off,sz,z,m,c=>by
  simp[gz]at c;split at c
  .rename_i q A;split at A
   .simp[af]at c;subst c;exact Zd A
   .cases A
  .exact AY n t v off sz z m c
 |n+1,.pr a b,v,off,sz,z,m,c=>by
  simp[gz]at c;split at c
  .split at c
   next D m1 h1=>simp[af,aU]at c;obtain⟨_,rfl⟩:=c;exact AY n a v.1 off sz D m1 h1
   .cases c
  .split at c
   next D m1 h1=>simp[af,aU]at c;obtain⟨_,rfl⟩:=c;exact AY n b v.2 _ sz D m1 h1
   .cases c
 |n+1,.un,v,off,sz,z,m,c=>by simp[gz]at c
 |n+1,.ex,v,off,sz,z,m,c=>by
  simp[gz]at c;split at c
  .rename_i q A;split at A
   .simp[af]at c;subst c;exact Zd A
   .cases A
  .split at c
   next D m1 h1=>simp[af,aU]at c;obtain⟨_,rfl⟩:=c;exact AY n Of _ off sz D m1 h1
   .cases c
 |n+1,.sm,v,off,sz,z,m,c=>by
  simp[gz]at c;split at c
  .rename_i q A;split at A
   .simp[af]at c;subst c;exact Zd A
   .cases A
  .split at c
   next D m1 h1=>simp[af,aU]at c;obtain⟨_,rfl⟩:=c;exact AY n NJ _ off sz D m1 h1
   .cases c
 |n+1,.int k,v,off,sz,z,m,c|n+1,.bool,v,off,sz,z,m,c|n+1,.str,v,off,sz,z,m,c|n+1,.sl t,v,off,sz,z,m,c=>by
  simp only[gz]at c;split at c
  .exact mf c
  .cases c
def ud (hm:dH h m) (c:aC m i=J):∃p sz n,(dI m h).get i=Z (.qj p sz n):=by
 let⟨ty,p,T,xs,h1⟩:=hm i c;exact⟨p,T.size,l! xs,by rw[iq,aR c,h1];rfl⟩
section ops
variable {R:Type} {P:Program} {o:Oper} {e:gM} {h:a_} {nx:Nat} {K:KO R} {r:R}
def eG (n:Nat) (b:jI):iy [(n,b)] n=Z b:=by simp[iy]
def eK.mk' {s:Np} (hc:cP P o.op=Z s) {H:gy} (hH:H.get=erHF h) {k:Nat} {rdl wrl N:ι} {I:NW} (ha:dk s (Bk e h) H k=Z ⟨y,rdl,wrl,I,N⟩) {h':a_} {wr:Nat} (wr':ι)
 (hsub:∀nx'∈wrl,nx'∈wr') (hsame:∀n,n∉wr'->erHF h' n=erHF h n)
 (hdom:∀nx'∈wr',∀b',erHF h' nx'=Z b'->∃b,(if nx'∈wrl then iy I nx' else erHF h nx')=Z b)
 (hblk:∀(A a:HF),qe A a->(∀nx'∈wrl,A nx'=iy I nx')->(∀nx'∈wr',nx'∉wrl->A nx'=erHF h nx')->(∀nx'∈wr',a nx'=erHF h' nx')->(∀nx'∈wr',∀b b',A nx'=Z b->a nx'=Z b'->fM A a b b')/\∀y0,b7 h' u=Z y0->ju A a y y0)
 (hrd:∀n∈rdl,aC m (ow n)=J) (hwr:∀n∈wr',aC wr (ow n)=J) (hN:∀n∈N,nx<=ow n/\ow n<i) (hrows:b8 h h') (hinv':gC h' i) (hg:nx<=i):eK P o aa e h nx u m wr h' i:=by
 have ht:=Du hc ha;rw[Bj,hH]at ht;refine ⟨?_,hrows,hinv',hg,nofun⟩;have base:∀(val:AV),(∀y0,b7 h' u=Z y0->y0=val)->(b7 h' u=U->val=y)->ft P o (fB e h) (erHF h) ⟨val,rdl,wr',erHF h',N⟩:=by
  intro val hval hnone;refine ft.view ht (λnx' hi=>.inl (hsub nx' hi)) λh1 hr1 hw1=>?_
  have hd:qe (dZ h1 wrl (iy I)) (dZ h1 wr' (erHF h')):=by
   intro nx' b D;unfold dZ at D ⊢
   grind
  let⟨q1,q2⟩:=hblk _ _ hd (λnx' hi=>by unfold dZ;rw[aR hi]) (λnx' hi hw=>by unfold dZ;rw[aE hw];exact hw1 nx' hi) (λnx' hi=>by unfold dZ;rw[aR hi]);refine ⟨⟨hd,λnx' b b' D z=>?_⟩,?_⟩
  .by_cases hi:nx'∈wr'
   .grind
   .unfold dZ at D z;rw[aE (λhw=>hi (hsub nx' hw))]at D;rw[aE hi,D]at z;cases z;exact fM.refl hd b
  .cases q:b7 h' u with
   |none=>rw[hnone q];exact ju.refl hd _
   |some y0=>rw[<- hval y0 q];exact q2 y0 q
 have hu:dZ (erHF h) wr' (erHF h')=erHF h':=by
  unfold dZ
  grind
 cases q:b7 h' u with
 |none=>exact⟨_,base y (λy0 c=>by rw[q]at c;cases c) (λ_=>rfl),λy0 c=>(by cases c),hu,hrd,hwr,hN⟩
 |some y0=>exact⟨_,base y0 (λy' c=>by rw[q]at c;cases c;rfl) (λhn=>by rw[q]at hn;cases hn),λy' c=>by cases c;rfl,hu,hrd,hwr,hN⟩
def D3 (hi:rz e h):∀(parts:Y l?) (cells cs:Y TV) (cells':Y AV),Ky cells e parts=Z cs->cN h cells=Z cells'->∃cs',Aj cells' (Bk e h) parts=Z cs'/\cN h cs=Z cs'/\(kL cells=J->kL cs=J)
 |[],cells,cs,cells',hf,he=>by simp only[Ky,af]at hf;subst hf;exact⟨cells',rfl,he,id⟩
 |(off,sz,x)::rest,cells,cs,cells',hf,he=>by
  simp only[Ky]at hf;split at hf
  .rename_i v hv;split at hf
   .rename_i q hq;split at hf
    .rename_i D;simp only[al,cV]at D;let⟨y,h1,h2⟩:=be hi hv;let⟨F,h4⟩:=HE hq h2;let⟨cs',h5,N,I⟩:=D3 hi rest (splice cells off q) cs (splice cells' off y.cs) hf (pY off he F);refine ⟨cs',?_,N,λA=>I ?_⟩
     .simp only[Aj,h1];rw[aR,h5];simp only[al,cV];exact⟨⟨by rw[hY F];exact D.1,by rw[hY he];exact D.2⟩,sh F h4⟩
     .clear h5 N I hf;have app:∀a b:Y TV,kL a=J->kL b=J->kL (a++b)=J:=by
       intro a b A hb;induction a with
       |nil=>exact hb
       |cons z r c=>simp only[kL,al,fG]at A ⊢;exact⟨A.1,c A.2⟩
      have tk:∀(a:Y TV) n,kL a=J->kL (a.take n)=J:=by
       intro a;induction a with
       |nil=>intro n h;simp[kL]
       |cons z r c=>
        intro n h;cases n with
        |zero=>rfl
        |succ n=>simp only[kL,al,wd]at h ⊢;exact⟨h.1,c n h.2⟩
      have dr:∀(a:Y TV) n,kL a=J->kL (a.drop n)=J:=by
       intro a;induction a with
       |nil=>intro n h;simp[kL]
       |cons z r c=>
        intro n h;cases n with
        |zero=>exact h
        |succ n=>simp only[kL,al,HO]at h ⊢;exact c n h.2
      unfold splice
      grind
    .cases hf
   .cases hf
  .cases hf
variable (hinv:gC h nx) (hi:rz e h)
include hinv hi
variable {X:FuncId->M cu} {W:TypeId->M Ty} {A:ξ}
def akq {parts:Y l?} (F:cP P o.op=Z (.build A parts)) (c:d_ X W (.op (.build A parts)) e h nx K=Z r):h_ P o b e h nx K r:=by
 simp[d_]at c;split at c
 .rename_i l D;split at c
  next cs hf=>let⟨h1,_,_⟩:=vR h D;let⟨cs',N,I,_⟩:=D3 hi parts l cs _ hf h1;refine h_.q (k:=0) (y0:=N0 cs') hinv F (λH _=>by simp[dk,N]) (λy z=>?_) c;simp[b7,I,af]at z;subst z;exact adm cs'
  .cases c
 .cases c
def apb (hc:cP P o.op=Z (.load i b c)) (x:d_ X W (.op (.load i b c)) e h nx K=Z r):h_ P o aa e h nx K r:=by
 let⟨H,N⟩:=fW h;simp only[d_]at x;split at x
 .rename_i id off hv;let⟨y,h1,D⟩:=be hi hv;simp[b7,af]at D;subst D;split at x
  .rename_i ty l F;split at x
   .rename_i v hs;let⟨l',hl⟩:=fb h l (hinv.C id _ l F);let⟨y,h3,h4⟩:=X8 hl hs;have hg:H.get (nm id)=Z ⟨ty,.mx l'⟩:=by rw[N,bU,F];simp[aB,jG,hl]
    exact⟨v,fT id,0,h,nx,x,eK.pure (k:=0) hinv hc N (y0:=y) (rdl:=[nm id]) (by simp[dk,h1,tH,hg,h4]) (cL h3) (λn A=>by simp[aA]at A;subst A;rw[dh];exact bq.2 rfl) nofun⟩
   .cases x
  .cases x
 .rename_i id sz' j off hv;let⟨y,h1,D⟩:=be hi hv;simp[b7,af]at D;subst D;split at x
  .rename_i ty p T xs F;split at x
   .rename_i hsz;have hsz:=au hsz;let⟨I,x⟩:=cB x;split at x
    .rename_i v hs;let⟨y,h3,h4⟩:=ack (h:=h) I hs;have hne:¬((p&&l! xs==0)=J):=by
      have:=lR I
      grind
     have hg:H.get (nm id)=Z ⟨ty,.fz (xs.flatMap (bP T))⟩:=by rw[N,bU,F];simp only[aB,jG,aE hne]
     exact⟨v,fT id,0,h,nx,x,eK.pure (k:=0) hinv hc N (y0:=.f y) (rdl:=[nm id]) (by simp[dk,h1,tH,hg,hsz,h4]) (cL h3) (λn A=>by simp[aA]at A;subst A;rw[dh];exact bq.2 rfl) nofun⟩
    .cases x
   .cases x
  .rename_i ty l F;split at x
   .cases x
   .split at x
    .rename_i hsz;simp only[al]at hsz;have e1:=au hsz.1.1;have e2:=au hsz.1.2;have e3:=au hsz.2;subst e1 e2 e3;split at x
     .rename_i T xs hA;let⟨I,x⟩:=cB x;let⟨l',hl⟩:=fb h l (hinv.C id _ l F);have hg:H.get (nm id)=Z ⟨ty,.mx l'⟩:=by rw[N,bU,F];simp[aB,jG,hl]
      have hlt:j.toNat<l! l:=by
       simp[gr,al,cZ,fV,bG]at I;omega
      let⟨z,hz1,hz2⟩:=lw hl j.toNat _ (Ze hA j.toNat hlt);exact⟨_,fT id,0,h,nx,x,eK.pure (k:=0) hinv hc N (y0:=z) (rdl:=[nm id]) (by simp[dk,h1,tH,hg,BC.sub?,BC.get,yQ,dQ,hz1]) (cL hz2) (λn A=>by simp[aA]at A;subst A;rw[dh];exact bq.2 rfl) nofun⟩
     .cases x
    .cases x
  .cases x
 .rename_i T xs j I off hv;let⟨y,h1,D⟩:=be hi hv;simp[b7,af]at D;subst D;split at x
  next v hs=>let⟨y,h3,h4⟩:=ack (h:=h) I hs;exact h_.q (k:=0) (y0:=.f y) hinv hc (λH _=>by simp[dk,h1,tH,h4]) (cL h3) x
  .cases x
 .cases x
def atd (hc:cP P o.op=Z (.box s c)) (A:d_ X W (.op (.box s c)) e h nx K=Z r):h_ P o aa e h nx K r:=by
 let⟨H,hH⟩:=fW h;simp[d_]at A;split at A
 .rename_i v hv;split at A
  .rename_i l hl;let⟨y,h1,h2⟩:=be hi hv;let⟨h3,h4⟩:=HE hl h2;have hcell:=sh h3 h4;have hnone:h.get nx=U:=by
    cases D:h.get nx with
    |none=>rfl
    |some b=>have:=hinv.low nx b D;omega
   have x:b8 h (h.set nx (Z (.C (Z s) l))):=b8.set λr x=>by rw[bH,hnone]at x;cases x
   have h5:=gB x l _ h3;have N:erHF (h.set nx (Z (.C (Z s) l))) (nm nx)=Z ⟨s,.mx y.cs⟩:=by rw[bU,PT.get_set,aR rfl];simp[aB,jG,h5]
   refine ⟨_,_,_,_,_,A,eK.mk' hc hH (k:=nm nx) (by simp only[dk,h1,hcell,bo];rfl) [nm nx] (λi hi=>hi) (λn q=>?_) (λi hi b' _=>⟨⟨s,mN y.cs⟩,?_⟩) (λH1 H2 d I _ F=>⟨λi hi b b' D z=>?_,λy hy=>?_⟩) (by simp) ?_ ?_ x (hinv.set x (by omega) (by omega) λty' l' he=>?_) (by omega)⟩
   .refine lT hinv x (il.set (by rw[hnone];rfl) rfl) λi e=>?_
    rw[PT.get_set,aE (λe=>q (by grind))]
   .simp[aA]at hi;subst hi;simp[iy]
   .simp[aA]at hi;subst hi;rw[I _ (by simp)]at D;rw[F _ (by simp),N]at z;rw[eG]at D;simp[af]at D z;subst D z;let⟨q1,q2⟩:=mq y.cs;refine fM.C q2 rfl ?_ λc hx=>?_
    .rw[q1];exact gu.refl d _
    .exact lV hcell c hx
   .simp[b7,af]at hy;subst hy;exact ju.refl d _
   .intro n q;simp[aA]at q;subst q;rw[dh];exact bq.2 rfl
   .intro n q;simp[aA]at q;subst q;rw[dh];omega
   .cases he;exact kY _ _ _ h5
  .cases A
 .cases A
def ako {l:Operand} (hcm:ED (W s)=U) (hc:cP P o.op=Z (.zf s i m A l c)) (z:d_ X W (.op (.zf s i m A l c)) e h nx K=Z r):h_ P o aa e h nx K r:=by
 let⟨H,hH⟩:=fW h;simp only[d_,hcm]at z;split at z
 .rename_i T k a k' b hT hv hv2;split at z
  .rename_i hsz;simp only[al]at hsz;have hs:=au hsz.1;have hz:=EM hsz.2;subst hs hz;let⟨hck,z⟩:=cB z;let⟨y,h1,h2⟩:=be hi hv;let⟨y2,h3,h4⟩:=be hi hv2;simp[b7,af]at h2 h4;subst h2 h4;have hnone:h.get nx=U:=by
    cases hb:h.get nx with
    |none=>rfl
    |some b=>have:=hinv.low nx b hb;omega
   generalize hB:eC.F s aa T (aP (aS a) T.zero)=B at z;have N:b8 h (h.set nx (Z B)):=b8.set λr N=>by rw[bH,hnone]at N;cases N
   have hb':erHF (h.set nx (Z B)) (nm nx)=Z ⟨s,.fz ((aP (aS a) T.zero).flatMap (bP T))⟩:=by rw[bU,PT.get_set,aR rfl,<-hB];simp[jG]
   refine ⟨_,_,_,_,_,z,eK.mk' hc hH (k:=nm nx) (by simp only[dk,h1,h3,fC,hck,bo];rfl) [nm nx] (λsz hi=>hi) (λn D=>?_) (λsz hi b' _=>⟨⟨s,.fz (repl (tm T) (aS a))⟩,?_⟩) (λH1 H2 d hw1 _ hw2=>⟨λsz hi b b' hb I=>?_,λy hy=>?_⟩) (by simp) ?_ ?_ N (hinv.set N (by omega) (by omega) λty' l' he=>?_) (by omega)⟩
   .refine lT hinv N (il.set (by rw[hnone];rfl) (by rw[<- hB];rfl)) λsz e=>?_
    rw[PT.get_set,aE (λe=>D (by grind))]
   .simp[aA]at hi;subst hi;simp[iy]
   .simp[aA]at hi;subst hi;rw[hw1 _ (by simp)]at hb;rw[hw2 _ (by simp),hb']at I;rw[eG]at hb;simp[af]at hb I;subst hb I;refine fM.C rfl rfl (IG d T _) λx hx=>?_
    obtain⟨q,hq,rfl⟩:=bR.1 hx;exact lq T _ q hq
   .simp[b7,bH,PT.get_set,bo,<-hB,aB,hZ,dA,dY,cg,eV,af,eL]at hy;subst hy;exact ju.refl d _
   .intro n D;simp[aA]at D;subst D;rw[dh];exact bq.2 rfl
   .intro n D;simp[aA]at D;subst D;rw[dh];omega
   .grind
  .cases z
 .cases z
end ops
def uc {f:R->Y FV} (hf:∀x,l! (f x)=i):∀(xs:Y R) (j:Nat),(xs.take j).flatMap f=(xs.flatMap f).take (j*i)
 |[],j|x::r,0=>by simp
 |x::r,j+1=>by
  rw[wd,eE,eE,uc hf r j,show (j+1)*i=l! (f x)+j*i from by rw[hf,iN];omega,List.take_length_add_append]
def xQ {f:R->Y FV} (hf:∀x,l! (f x)=i):∀(xs:Y R) (j:Nat),(xs.drop j).flatMap f=(xs.flatMap f).drop (j*i)
 |[],j|x::r,0=>by simp
 |x::r,j+1=>by
  rw[HO,eE,xQ hf r j,show (j+1)*i=l! (f x)+j*i from by rw[hf,iN];omega,List.drop_length_add_append]
variable {A:ξ}
def RN :∀(n:Nat) (x:FV),x∈repl A n->∃v∈A,x= .raw v
 |0,x,h=>by simp[repl]at h
 |n+1,x,h=>by
  rw[repl,bF]at h;rcases h with h|h
  .grind
  .exact RN n x h
def HH:∀l:Y FV,(∀x∈l,x.isCell=J)->gf (l.map .f)=J
 |[],_=>rfl
 |z::r,h=>by simp[b5,gf,al];exact⟨h z (by simp),HH r λx c=>h x (by grind)⟩
section ops
variable {R:Type} {P:Program} {o:Oper} {e:gM} {h:a_} {nx:Nat} {K:KO R} {r:R}
def gC.fresh (hinv:gC h nx):h.get nx=U:=by
 cases c:h.get nx with
 |none=>rfl
 |some b=>have:=hinv.low nx b c;omega
def qe.kill (hinv:gC h nx) (hm:dH h m):qe (erHF h) (erHF (dI m h)):=λn b F=>by
 let⟨c,q,z⟩:=gV F;rw[iq]at q;by_cases ht:aC m (ow n)=J
 .obtain⟨N,I,nn,D⟩:=ud hm ht;rw[iq]at D;rw[D]at q;cases q;cases A:ix n with
  |_=>rw[A]at z;cases z
 .rw[aE ht]at q;refine ⟨b,?_⟩;unfold erHF;rw[q];simp[aB];rw[<- lx (b8.kill m h) (λty l e=>hinv.C (ow n) _ l (by rw[q,e]))];exact z
def dH.lt (hinv:gC h nx) (hm:dH h m) (hi:aC m i=J):i<nx:=by
 let⟨_,_,_,_,c⟩:=hm i hi;exact hinv.low i _ c
def eK.new {s:Np} (hinv:gC h nx) (I:cP P o.op=Z s) {H:gy} (hH:H.get=erHF h) {y0:AV} {rdl:ι} {b0:jI} (ha:dk s (Bk e h) H (nm nx)=Z ⟨y0,rdl,[nm nx],[(nm nx,b0)],[nm nx]⟩) {B:eC} {v:TV} {rd:Nat} (hm:dH h m)
 (hB:∀ty l,B= .C ty l->kR ((dI m h).set nx (Z B)) l=J)
 (hblk:∀q c,qe q c->C4 h q c m->∀b',jG ((dI m h).set nx (Z B)) B=Z b'->fM q c b0 b')
 (hval:∀q c y,qe q c->C4 h q c m->b7 ((dI m h).set nx (Z B)) v=Z y->ju q c y0 y)
 (hrd:∀n∈rdl,aC rd (ow n)=J) (hMem:∀i k,vh i k B=U:=by exact λ_ _=>rfl):eK P o aa e h nx v rd (m|||fT nx) ((dI m h).set nx (Z B)) (nx+1):=by
 have hk:=hinv.kill m;have hme:il h ((dI m h).set nx (Z B)):=(il.kill hm).trans (il.at_ λk=>by rw[hk.fresh];exact hMem nx k);have hr0:=b8.kill m h;have D:b8 (dI m h) ((dI m h).set nx (Z B)):=b8.set λr a=>by rw[bH,hk.fresh]at a;cases a
 have a:=hr0.trans D;have hgiv:∀i,aC m i=J->erHF ((dI m h).set nx (Z B)) (nm i)=U:=λi hi=>by
  have hlt:=hm.lt hinv hi;let⟨p,sz,n,hd⟩:=ud hm hi;rw[bU,PT.get_set,aE (by omega),hd];rfl
 refine eK.mk' I hH ha (nm nx::Gp m) (λi hi=>by simp[aA]at hi;subst hi;simp) (λn z=>?_) (λi hi b' hb'=>?_) (λq c d N hw0 A=>?_) hrd ?_ ?_ a (hk.set D (by omega) (by omega) hB) (by omega)
 .refine lT hinv a hme λi e=>?_
  subst e;rw[PT.get_set,aE (λe=>z (by grind)),iq,aE];intro hb;exact z (cq _ (lO.2 hb))
 .rcases bB.1 hi with rfl|hi
  .exact⟨b0,by rw[aR (by simp),eG]⟩
  .obtain⟨j,rfl,hj⟩:=oa.1 hi
   grind
 .have g:C4 h q c m:=λi hi=>by
   have hlt:=hm.lt hinv hi;have hmem:nm i∈nm nx::Gp m:=cq _ (lO.2 hi);exact⟨hw0 _ hmem (λI=>by simp[aA]at I;have:=s5 I;omega),by rw[A _ hmem,hgiv i hi]⟩
  refine ⟨λi hi b b' hb hb2=>?_,λy hy=>hval q c y d g hy⟩;rcases bB.1 hi with rfl|hi'
  .rw[N _ (by simp),eG]at hb;rw[A _ hi,bU,PT.get_set,aR rfl]at hb2
   grind
  .obtain⟨j,rfl,hj⟩:=oa.1 hi'
   grind
 .intro n z;rw[bj];rcases bB.1 z with rfl|z
  .rw[dh,bq.2 rfl];simp
  .obtain⟨j,rfl,hj⟩:=oa.1 z;rw[dh,hj];rfl
 .intro n z;simp[aA]at z;subst z;rw[dh];omega
def eK.wrt {s:Np} (hinv:gC h nx) (hc:cP P o.op=Z s) {H:gy} (hH:H.get=erHF h) {y0:AV} {rdl:ι} {b0:jI} {k:Nat} (ha:dk s (Bk e h) H k=Z ⟨y0,rdl,[nm i],[(nm i,b0)],[]⟩) {N B:eC} (I:h.get i=Z N) {v:TV} {rd:Nat} (hm:dH h m) (hmid:aC m i=aa)
 (hrow:hZ B=hZ N) (hB:∀ty l,B= .C ty l->kR ((dI m h).set i (Z B)) l=J)
 (hblk:∀q c,qe q c->C4 h q c m->∀b',jG ((dI m h).set i (Z B)) B=Z b'->fM q c b0 b')
 (hval:∀q c y,qe q c->C4 h q c m->b7 ((dI m h).set i (Z B)) v=Z y->ju q c y0 y)
 (hrd:∀n∈rdl,aC rd (ow n)=J) (hMem:∀k,vh i k B=vh i k N:=by exact λ_=>rfl):eK P o aa e h nx v rd (m|||fT i) ((dI m h).set i (Z B)) nx:=by
 have hk:=hinv.kill m;have hr0:=b8.kill m h;have hkid:(dI m h).get i=Z N:=by rw[iq,hmid];simpa using I
 have D:b8 (dI m h) ((dI m h).set i (Z B)):=b8.set λr a=>by rw[bH,hkid]at a;rw[hrow];exact a
 have hme:il h ((dI m h).set i (Z B)):=(il.kill hm).trans (il.at_ λk=>by rw[hkid];exact hMem k);have a:=hr0.trans D;have hgiv:∀id,aC m id=J->erHF ((dI m h).set i (Z B)) (nm id)=U:=λid hi=>by
  have hne:id≠i:=λe=>by grind
  let⟨p,sz,n,hd⟩:=ud hm hi;rw[bU,PT.get_set,aE hne,hd];rfl
 refine eK.mk' hc hH ha (nm i::Gp m) (λid hi=>by simp[aA]at hi;subst hi;simp) (λn z=>?_) (λid hi b' hb'=>?_) (λq c d hw1 hw0 A=>?_) hrd ?_ (by simp) a (hk.set D (hinv.low i N I) (by omega) hB) (by omega)
 .refine lT hinv a hme λid e=>?_
  subst e;rw[PT.get_set,aE (λe=>z (by grind)),iq,aE];intro hb;exact z (cq _ (lO.2 hb))
 .rcases bB.1 hi with rfl|hi
  .exact⟨b0,by rw[aR (by simp),eG]⟩
  .obtain⟨j,rfl,hj⟩:=oa.1 hi
   grind
 .have g:C4 h q c m:=λid hi=>by
   have hne:id≠i:=λe=>by grind
   have hmem:nm id∈nm i::Gp m:=cq _ (lO.2 hi);exact⟨hw0 _ hmem (λhc=>by simp[aA]at hc;exact hne (s5 hc)),by rw[A _ hmem,hgiv id hi]⟩
  refine ⟨λid hi b b' hb hb2=>?_,λy hy=>hval q c y d g hy⟩;rcases bB.1 hi with rfl|hi'
  .rw[hw1 _ (by simp),eG]at hb;rw[A _ hi,bU,PT.get_set,aR rfl]at hb2
   grind
  .obtain⟨j,rfl,hj⟩:=oa.1 hi'
   grind
 .intro n z;rw[bj];rcases bB.1 z with rfl|z
  .rw[dh,bq.2 rfl];simp
  .obtain⟨j,rfl,hj⟩:=oa.1 z;rw[dh,hj];rfl
def NP (h:a_) (q:Lq A=Z B):∀len,cN h (aP len B).flatten=Z ((repl A len).map .f)
 |0=>rfl
 |n+1=>by
  rw[mh,List.flatten_cons,repl,cf];refine nI ?_ (NP h q n);rw[(vR h q).1];simp only[ic];rfl
def IE {H:gy} (hH:H.get=erHF h) {F:Y T.den} (c:C1 h (.sl T) u=Z (F,m)) (A:b7 h u=Z y):∃rd,y.row? H T.size=Z ((F.flatMap (bP T)).map .f,l! F,rd)/\∀n∈rd,∃i,n=nm i/\aC m i=J:=by
 have fl:=λD:Y T.den=>dN (bh T) D
 have tk:∀D:Y T.den,(D.flatMap (bP T)).take (l! D*T.size)=D.flatMap (bP T):=λD=>by grind
 cases u with
 |f S x=>
  simp[C1,gY]at c;split at c
  next z I=>obtain⟨e,rfl⟩:=gP I;subst e;simp[b7,af]at A;subst A;simp only[fC,AV.row?];simp_all
  .cases c
 |emp|nil=>
  obtain⟨rfl,_⟩:=c;simp[b7,af]at A;subst A;exact⟨[],rfl,by simp⟩
 |G id=>
  simp[C1,gY]at c;split at c
  .rename_i ty p S xs hb;split at c
   .rename_i z I;obtain⟨rfl,rfl⟩:=c;obtain⟨e,rfl⟩:=gP I;cases e;simp[b7,ep,hb,af]at A;subst A;unfold dA;split
    next hp=>simp only[al,cV]at hp;have:xs=[]:=eR.1 hp.2;subst this;exact⟨[],rfl,by simp⟩
    .rename_i hp;have hg:H.get (nm id)=Z ⟨ty,.fz (xs.flatMap (bP T))⟩:=by rw[hH,bU,hb];simp only[aB,jG,aE hp]
     refine ⟨[nm id],?_,λn N=>?_⟩
     .simp only[AV.row?,hg,cz,bo,BC.isCells,BC.len,dl];rw[aR (bf (by grind))];simp[BC.toMx,<-gX,tk]
     .simp[aA]at N;exact⟨id,N,bq.2 rfl⟩
   .cases c
  .cases c
 |agg l=>simp[C1,Ty.one]at c
 |_=>simp[C1,gY]at c
def Wg (c:b7 h u=Z y) (q:u.isC=J):gf y.cs=J:=by
 rw[Pv (PN c q)];simp[gf,Bool.and_true];exact PN c q
def aa5 (T:Ty) (x:T.den):gf ((bP T x).map .f)=J:=by
 have:∀l:Y FV,(∀x∈l,x.isCell=J)->gf (l.map .f)=J:=by
  intro l c;induction l with
  |nil=>rfl
  |cons z r q=>simp[b5,gf,al];exact⟨c z (by simp),q λx A=>c x (by grind)⟩
 exact this _ (ou T x)
def gk {v:TV} {x:T.den} (c:gY h T v=Z (x,m)) (A:b7 h v=Z y):gf y.cs=J:=by
 cases v with
 |f S v=>simp[b7,af]at A;subst A;rw[Bm];exact aa5 S v
 |emp|nil|G id=>exact Wg A rfl
 |_=>simp[gY]at c
def I5 (D:T.one=J) {x:T.den} (c:gY h T u=Z (x,m)):u.isC=J:=by
 cases u with
 |f S u=>
  simp[gY]at c;split at c
  next z A=>let⟨e,_⟩:=gP A;subst e;exact D
  .cases c
 |emp|nil|G id=>rfl
 |_=>simp[gY]at c
def UZ {b:Y TV} (c:kL B=J) (A:kL b=J):kL (B++b)=J:=by
 induction B with
 |nil=>exact A
 |cons z r q=>simp[kL,al,fG]at c ⊢;exact⟨c.1,q c.2⟩
def ua:∀(n:Nat) (T:Ty) (l:Y TV) (x:T.den) (m:Nat) (r:Y TV),fh h n T l=Z (x,m,r)->∃a,l=a++r/\kL a=J
 |0,_,_,_,_,_,hp=>by simp[fh]at hp
 |n+1,.st t,l,x,m,r,hp=>ua n t l x m r hp
 |n+1,.pr a b,l,x,m,r,hp=>by
  simp[fh]at hp;split at hp
  .rename_i x1 m1 r1 h1;split at hp
   next z m2 A D=>simp[af,aU]at hp;obtain⟨_,_,rfl⟩:=hp;obtain⟨a1,rfl,I⟩:=ua n a l x1 m1 r1 h1;obtain⟨N,rfl,F⟩:=ua n b r1 z m2 A D;exact⟨a1++N,by simp,UZ I F⟩
   .cases hp
  .cases hp
 |n+1,.un,l,x,m,r,hp=>by
  obtain⟨_,_,rfl⟩:=hp;exact⟨[],rfl,rfl⟩
 |n+1,.ex,l,x,m,r,hp=>by
  simp[fh]at hp;split at hp
  next x1 m1 r1 h1=>simp[af,aU]at hp;obtain⟨_,_,rfl⟩:=hp;exact ua n Of l x1 m1 r1 h1
  .cases hp
 |n+1,.sm,l,x,m,r,hp=>by
  simp[fh]at hp;split at hp
  next x1 m1 r1 h1=>simp[af,aU]at hp;obtain⟨_,_,rfl⟩:=hp;exact ua n NJ l x1 m1 r1 h1
  .cases hp
 |n+1,.int k,l,x,m,r,hp|n+1,.bool,l,x,m,r,hp|n+1,.str,l,x,m,r,hp|n+1,.sl t,l,x,m,r,hp=>by
  simp[fh]at hp;split at hp
  .rename_i c q;split at hp
   next x1 m1 h1=>obtain⟨_,_,rfl⟩:=hp;exact⟨[c],rfl,by simp[kL,I5 rfl h1]⟩
   .cases hp
  .cases hp
def LS {x:T.den} (A:C1 h T u=Z (x,m)) (c:b7 h u=Z y):gf y.cs=J:=by
 cases u with
 |agg l=>
  simp only[C1]at A;split at A
  .cases A
  .split at A
   .rename_i x1 m1 h1;let⟨a,e,N⟩:=ua 40 T l x1 m1 [] h1;rw[dG]at e;subst e;simp[b7]at c;split at c
    next l' F=>simp[af]at c;subst c;exact sh F N
    .cases c
   .cases A
 |f S u=>exact gk (v:=.f S u) A c
 |zw T xs j I off=>exact gk (v:=.zw T xs j I off) A c
 |qr id sz j off=>exact gk (v:=.qr id sz j off) A c
 |H id off=>exact gk (v:=.H id off) A c
 |qk id off z=>exact gk (v:=.qk id off z) A c
 |G id=>exact gk (v:=.G id) A c
 |emp=>exact gk (v:=.emp) A c
 |nil=>exact gk (v:=.nil) A c
 |mp id=>exact gk (v:=.mp id) A c
 |zp id D=>exact gk (v:=.zp id D) A c
 |qb q=>exact gk (v:=.qb q) A c
 |qy g q=>exact gk (v:=.qy g q) A c
 |undef=>exact gk (v:=.undef) A c
 |np=>exact gk (v:=.np) A c
 |qv=>exact gk (v:=.qv) A c
 |qh S q=>exact gk (v:=.qh S q) A c
 |sb q=>exact gk (v:=.sb q) A c
def mT (A:b7 h u=Z y):∀(n:Nat) (T:Ty) (v:T.den) (off sz:Nat) (z:T.den) (m:Nat),gz h u n T v off sz=Z (z,m)->gf y.cs=J
 |0,_,_,_,_,_,_,c=>by simp[gz]at c
 |n+1,.st t,v,off,sz,z,m,c=>by
  simp[gz]at c;split at c
  .rename_i q D;split at D
   .exact LS D A
   .cases D
  .exact mT A n t v off sz z m c
 |n+1,.pr a b,v,off,sz,z,m,c=>by
  simp[gz]at c;split at c
  .split at c
   next F m1 h1=>exact mT A n a v.1 off sz F m1 h1
   .cases c
  .split at c
   next F m1 h1=>exact mT A n b v.2 _ sz F m1 h1
   .cases c
 |n+1,.un,v,off,sz,z,m,c=>by simp[gz]at c
 |n+1,.ex,v,off,sz,z,m,c=>by
  simp[gz]at c;split at c
  .rename_i q D;split at D
   .exact LS D A
   .cases D
  .split at c
   next F m1 h1=>exact mT A n Of _ off sz F m1 h1
   .cases c
 |n+1,.sm,v,off,sz,z,m,c=>by
  simp[gz]at c;split at c
  .rename_i q D;split at D
   .exact LS D A
   .cases D
  .split at c
   next F m1 h1=>exact mT A n NJ _ off sz F m1 h1
   .cases c
 |n+1,.int k,v,off,sz,z,m,c|n+1,.bool,v,off,sz,z,m,c|n+1,.str,v,off,sz,z,m,c|n+1,.sl t,v,off,sz,z,m,c=>by
  simp only[gz]at c;split at c
  .exact gk c A
  .cases c
def LY (l:Y FV):xd (l.map .f)=Z l:=by
 induction l with
 |nil=>rfl
 |cons x r c=>simp[b5,xd,c]
def uG (l:Y FV):mN (l.map .f)= .fz l:=by unfold mN;rw[LY]
def HI:∀{a b:Y TV},kL a=J->kL b=J->kL (a++b)=J
 |[],_,_,c=>c
 |x::r,b,q,c=>by
  simp[kL,al]at q;simp[fG,kL,al];exact⟨q.1,HI q.2 c⟩
def F3 (q:kL B=J):∀n,kL (aP n B).flatten=J
 |0=>rfl
 |n+1=>by exact HI q (F3 q n)
def Y4 {H:gy} (A:H.get=erHF h) {l':Y AV} (z:h.get i=Z (.C (Z m) B)) (c:cN h B=Z l') {n sz:Nat} (D:l! B=n*sz):AV.row? H sz (.G (nm i) sz n)=Z (l',n,[nm i]):=by
 have q:H.get (nm i)=Z ⟨m,.mx l'⟩:=by rw[A,bU,z];simp[aB,jG,c]
 have hln:=hY c;simp only[AV.row?,cz,bo,q,BC.isCells,dl,BC.len,BC.toMx];rw[aR (bf (by omega)),fZ (by omega)]
def ahb {H:gy} (hH:H.get=erHF h) {xs:Y T.den} (c:amh h T u=Z (a,xs,i)) (z:b7 h u=Z y) (I:(cZ 0 a&&fV a (ah xs))=J):y.row? H T.size=Z (((gL (aS a) xs).flatMap (bP T)).map .f,l! (gL (aS a) xs),[nm i])/\∀n∈[nm i],aC (fT i) (ow n)=J:=by
 refine ⟨?_,λn A=>by simp only[aA]at A;subst A;rw[dh];exact bq.2 rfl⟩;unfold amh at c;split at c
 .rename_i id' q;split at c
  .rename_i ty p S xs0 D;split at c
   .rename_i xs1 hxs;obtain⟨ee,rfl⟩:=gP hxs;cases ee;simp only[af,aU]at c;obtain⟨rfl,rfl,rfl⟩:=c;simp only[cZ,fV,al,bG]at I;have F:(ah xs0:Int)=((l! xs0:Nat):Int):=rfl;have hlt:q.toNat<l! xs0:=by omega
    simp only[b7,bH,D,aB,hZ,af]at z;subst z;have hp:¬((p&&l! xs0==0)=J):=by grind
    have fl:=dN (bh T) xs0;have N:H.get (nm id')=Z ⟨ty,.fz (xs0.flatMap (bP T))⟩:=by rw[hH,bU,D];simp only[aB,jG,aE hp]
    have hoff:q.toNat*T.size+(l! xs0-q.toNat)*T.size=l! xs0*T.size:=by rw[<- pe];congr 1;omega
    simp only[AV.row?,N];rw[aR (by simp only[BC.isCells,BC.len,dl];exact bf (by omega))];simp only[BC.toMx,gw,af,aU,and_true,<-sW,<-gX];rw[xQ (bh T),fZ (by rw[gw];omega)]
   .cases c
  .cases c
 .cases c
def OL:∀c:η,CY ((c.flatMap (bP (.int .u8))).map .f)=Z (jH c)
 |[]=>rfl
 |y::r=>by
  rw[eE];show (match CY ((r.flatMap (bP (.int .u8))).map .f) with|some l=>Z (O2 y.toNat::l)|none=>U)=_;rw[OL r];rfl
variable (hinv:gC h nx) (hi:rz e h)
include hinv hi
variable {X:FuncId->M cu} {W:TypeId->M Ty}
def akr (hc:cP P o.op=Z (.alloc s A)) (hk:d_ X W (.op (.alloc s A)) e h nx K=Z r):h_ P o aa e h nx K r:=by
 have _:=hi;let⟨H,hH⟩:=fW h;simp only[d_]at hk;split at hk
 .rename_i I;simp only[al]at I;have I:=EM I.2;exact⟨_,_,_,_,_,hk,eK.new (rd:=0) hinv hc hH (b0:=⟨s,.fz (A.map .raw)⟩) (by rfl) (B:=.F s aa (.int .u8) (aP (ah A) (0:Int))) (v:=.H nx 0) (dH.zero h) (λ_ _ he=>by cases he) (λH1 H2 d g b' c=>by
   simp only[jG,dY,cg,eV,af]at c;subst c;have:(aP (ah A) (0:Int)).flatMap (bP (.int .u8))=A.map .raw:=by
    conv=>rhs;rw[I]
    generalize ah A=n;induction n with
    |zero=>rfl
    |succ n ih=>rw[mh,eE,ih,mh,b5];rfl
   rw[this];exact fM.refl d _) (λH1 H2 y d g hy=>by simp only[b7,af]at hy;subst hy;exact ju.refl d _) (by simp)⟩
 split at hk
 .rename_i l hl;let⟨_,I,_⟩:=vR h hl;have hnone:h.get nx=U:=by
   cases hb:h.get nx with
   |none=>rfl
   |some b=>have:=hinv.low nx b hb;omega
  have N:b8 h (h.set nx (Z (.C (Z s) l))):=b8.set λr N=>by rw[bH,hnone]at N;cases N
  let⟨h1,_,_⟩:=vR (h.set nx (Z (.C (Z s) l))) hl;have c:erHF (h.set nx (Z (.C (Z s) l))) (nm nx)=Z ⟨s,.mx (A.map raw)⟩:=by rw[bU,PT.get_set,aR rfl];simp[aB,jG,h1]
  refine ⟨_,_,_,_,_,hk,eK.mk' hc hH (k:=nm nx) (by rfl) [nm nx] (λi hi=>hi) (λn z=>?_) (λi hi b' _=>⟨⟨s,.fz (A.map .raw)⟩,?_⟩) (λH1 H2 d hw1 _ hw2=>⟨λi hi b b' hb D=>?_,λy hy=>?_⟩) (by simp) ?_ ?_ N (hinv.set N (by omega) (by omega) λty' l' he=>?_) (by omega)⟩
  .refine lT hinv N (il.set (by rw[hnone];rfl) rfl) λi e=>?_
   rw[PT.get_set,aE (λe=>z (by grind))]
  .simp[aA]at hi;subst hi;simp[iy]
  .simp[aA]at hi;subst hi;rw[hw1 _ (by simp)]at hb;rw[hw2 _ (by simp),c]at D;rw[eG]at hb;simp[af]at hb D;subst hb D;refine fM.C rfl rfl ?_ λx hx=>?_
   .simp[BC.toMx,ic];exact gu.refl d _
   .simp only[BC.toMx]at hx;obtain⟨q,hq,rfl⟩:=bR.1 hx;exact I q hq
  .simp[b7,af]at hy;subst hy;exact ju.refl d _
  .intro n z;simp[aA]at z;subst z;rw[dh];exact bq.2 rfl
  .intro n z;simp[aA]at z;subst z;rw[dh];omega
  .cases he;exact kY _ _ _ h1
 .cases hk
def aph {parts:Y l?} (hcm:ED (W s)=U) (hc:cP P o.op=Z (.xz s i m A parts)) (z:d_ X W (.op (.xz s i m A parts)) e h nx K=Z r):h_ P o aa e h nx K r:=by
 let⟨H,hH⟩:=fW h;simp only[d_,hcm]at z;split at z
 .rename_i T zc hT hz;split at z
  .rename_i I;have I:=au I;subst I;split at z
   .rename_i cs hf;split at z
    .rename_i xs len hp;let⟨cs',h1,h2,_⟩:=D3 hi parts _ cs _ hf (NP h hz m);have hm:=Ps m cs xs len hp;refine ⟨_,_,_,_,_,z,eK.new hinv hc hH (y0:=if m=0 then .emp else .G (nm nx) T.size m) (rdl:=[]) (b0:=⟨s,mN cs'⟩) (by simp[dk,h1]) hm (λ_ _ he=>by cases he) (λH1 H2 d g b' c=>?_) (λH1 H2 y d g F=>?_) (by simp)⟩
     .simp only[jG]at c;split at c
      .cases c
      rw[af]at c;subst c;let⟨q1,q2⟩:=mq cs';refine fM.C q2 rfl ?_ λx N=>?_
      .rw[q1];exact (Ds d m cs xs len cs' hp h2 g).1
      .simp only[BC.toMx]at N;obtain⟨q,D,rfl⟩:=bR.1 N;exact lq T _ q D
     .simp only[b7,bH,PT.get_set,bo,aB,hZ,dA,af]at F;rw[(Ds d m cs xs len cs' hp h2 g).2]at F;split at F
      next D=>simp only[al,cV]at D;subst F;rw[aR D.2];exact ju.refl d _
      next D=>subst F;rw[aE (λh0=>D (by simp_all))];exact ju.refl d _
    .cases z
   .cases z
  .cases z
 .cases z
def asr (hc:cP P o.op=Z (.tos c)) (x:d_ X W (.op (.tos c)) e h nx K=Z r):h_ P o aa e h nx K r:=by
 let⟨H,A⟩:=fW h;simp only[d_]at x;split at x
 .rename_i v F;split at x
  .rename_i q m hys;let⟨D,h3,h4⟩:=be hi F;let⟨rdl,z,h6⟩:=IE A hys h4;exact⟨_,_,_,_,_,x,eK.pure (k:=nm nx) hinv hc A (y0:=.f (.raw (.string ⟨(jH q).toArray⟩))) (rdl:=rdl) (by
    have z:D.row? H 1=Z ((q.flatMap (bP (.int .u8))).map .f,l! q,rdl):=z;simp only[dk,h3,z];rw[OL];rfl) (cL rfl) (λn N=>by obtain⟨i,rfl,hm⟩:=h6 n N;rw[dh];exact hm) nofun⟩
  .cases x
 .cases x
def I6 {H:gy} (hH:H.get=erHF h) {ty:Operand} {q:Y T.den} {yy:AV} {rdl:ι} (hc:cP P o.op=Z (.app s T.size i ty c)) (h1:kc (Bk e h) ty=Z y) (h2:b7 h u=Z y) (h3:kc (Bk e h) c=Z yy) (h5:yy.row? H T.size=Z ((q.flatMap (bP T)).map .f,l! q,rdl)) (h6:∀n∈rdl,aC m (ow n)=J) (I:afo s T.size i T u q m h nx K=Z r):h_ P o aa e h nx K r:=by
 have hfr:=hinv.fresh;have _:=hi;unfold afo at I;have onEmp:∀(rd':Nat),(∀n∈rdl,aC rd' (ow n)=J)->CK y=J->Le y .emp->bl (ah q) i=J->eK P o aa e h nx (.G nx) rd' (fT nx) (h.set nx (Z (.F s J T q))) (nx+1):=by
  intro rd' hrd' he hle hroom;have hr1:b8 h (h.set nx (Z (.F s J T q))):=b8.set λr hr=>by rw[bH,hfr]at hr;cases hr
  have hyb:∀id sz' n,y≠ .G id sz' n:=by rintro id sz' n rfl;cases he
  have z:dk (.app s T.size i ty c) (Bk e h) H (nm nx)=if ah q==0 then Z ⟨y,rdl,[],[],[]⟩ else Z ⟨.G (nm nx) T.size (ah q),rdl,[nm nx],[(nm nx,⟨s,mN ((q.flatMap (bP T)).map .f)⟩)],[nm nx]⟩:=by
   simp only[dk,h1,h3,h5];cases y with
   |G id sz' n=>exact bO rfl (hyb id sz' n)
   |qh l n=>cases he
   |_=>simp only[he,hroom,sX,bo]
  by_cases hl:ah q=0
  .rw[hl]at z;simp only[cz,bo]at z;have hnil:q=[]:=eR.1 hl;subst hnil;refine eK.mk' hc hH z [] (by simp) (λn _=>?_) (by simp) (λH1 H2 d _ _ _=>⟨by simp,λyb A=>?_⟩) hrd' (by simp) (by simp) hr1 (hinv.set hr1 (by omega) (by omega) λ_ _ he=>by cases he) (by omega)
   .by_cases D:n=nm nx
    .subst D;rw[bU,bU,PT.get_set,aR rfl,hfr];rfl
    .refine lT hinv hr1 (il.set (by rw[hfr];rfl) rfl) λbytes e=>?_
     subst e;rw[PT.get_set,aE (λe=>D (by rw[e]))]
   .simp only[b7,bH,PT.get_set,bo,aB,hZ,dA,em,cz,sX,af]at A;subst A;exact hle.toH d
  .rw[aE (by simpa using hl)]at z;rw[uG]at z;have key:=eK.new (m:=0) (rd:=rd') hinv hc hH z (B:=.F s J T q) (v:=.G nx) (dH.zero h) (λ_ _ he=>by cases he) (λH1 H2 d g b' N=>by
    simp only[jG]at N;rw[aE (by simpa using hl)]at N;cases N;exact fM.refl d _) (λH1 H2 yb d g A=>by
    simp only[b7,bH,PT.get_set,bo,aB,hZ,dA]at A;rw[aE (by simpa using hl)]at A;cases A;exact ju.refl d _) hrd'
   rw[uZ]at key;exact key
 split at I
 .rename_i id;split at I
  .rename_i ty' p S xs0 hb;split at I
   .rename_i xs hxs;obtain⟨ee,rfl⟩:=gP hxs;cases ee;split at I
    .rename_i hcond;simp only[al,cV,cK]at hcond;obtain⟨rfl,hmid⟩:=hcond;let⟨hroom,I⟩:=cB I;simp only[b7,ep,hb,af]at h2;have hidlt:=hinv.low id _ hb;have hne:nx≠id:=by omega
     have hrd:∀n∈rdl,aC (fT id|||m) (ow n)=J:=λn D=>by
      rw[bj,h6 n D];simp
     generalize hh':(h.set id (Z (.qj p T.size (ah xs0)))).set nx (Z (.F ty' p T (xs0++q)))=h' at I;have hrA:b8 h (h.set id (Z (.qj p T.size (ah xs0)))):=b8.set λr hr=>by rw[bH,hb]at hr;exact hr
     have hg2:∀bytes,h'.get bytes=if bytes=nx then Z (.F ty' p T (xs0++q)) else if bytes=id then Z (.qj p T.size (ah xs0)) else h.get bytes:=λbytes=>by rw[<- hh',PT.get_set,PT.get_set]
     have hr:b8 h h':=by
      rw[<- hh'];refine hrA.trans (b8.set λr hr=>?_);rw[bH,PT.get_set,aE hne,hfr]at hr;cases hr
     have hinv':gC h' (nx+1):=by
      refine ⟨λbytes s l hil=>?_,λbytes x hic=>?_⟩
      .rw[hg2]at hil;split at hil
       .cases hil
       .split at hil
        .cases hil
        .exact eS hr l (hinv.C bytes _ l hil)
      .rw[hg2]at hic;split at hic
       .omega
       .split at hic
        .omega
        .have:=hinv.low bytes x hic;omega
     have hme:il h h':=(il.of λbytes=>by
      rw[hg2];by_cases e1:bytes=nx
      .rw[aR e1,e1,hfr];exact .inr ⟨rfl,rfl⟩
      .rw[aE e1];by_cases e2:bytes=id
       .rw[aR e2,e2,hb];exact .inr ⟨rfl,rfl⟩
       .rw[aE e2];exact .inl rfl)
     have hsame:∀n,n≠nm nx->n≠nm id->erHF h' n=erHF h n:=λn h1 h2=>lT hinv hr hme λbytes e=>by
      subst e;rw[hg2,aE (λe=>h1 (by rw[e])),aE (λe=>h2 (by rw[e]))]
     have hdead:erHF h' (nm id)=U:=by rw[bU,hg2,aE (by omega),aR rfl];rfl
     have hnew:erHF h' (nm nx)=if p&&l! (xs0++q)==0 then U else Z ⟨ty',.fz ((xs0++q).flatMap (bP T))⟩:=by rw[bU,hg2,aR rfl];rfl
     have hval:b7 h' (.G nx)=Z (dA p nx T.size (l! (xs0++q))):=by simp only[b7,bH,hg2,bo,aB,hZ]
     have hwm:∀n,n=nm nx\/n=nm id->aC (fT id|||fT nx) (ow n)=J:=λn D=>by
      rcases D with rfl|rfl<;>rw[dh,bj,bq.2 rfl]<;>simp
     refine ⟨_,_,_,_,_,I,?_⟩;by_cases hp:(p&&l! xs0==0)=J
     ·
      have hyb:y= .emp:=by rw[<- h2];unfold dA;rw[aR hp]
      subst hyb;simp only[al,cV]at hp;obtain⟨rfl,hl0⟩:=hp;have hnil:xs0=[]:=eR.1 hl0;subst hnil;have hroom':bl (ah q) i=J:=by simpa using hroom
      have z:dk (.app ty' T.size i ty c) (Bk e h) H (nm nx)=if ah q==0 then Z ⟨.emp,rdl,[],[],[]⟩ else Z ⟨.G (nm nx) T.size (ah q),rdl,[nm nx],[(nm nx,⟨ty',mN ((q.flatMap (bP T)).map .f)⟩)],[nm nx]⟩:=by
       simp only[dk,h1,h3,h5,CK,hroom',sX,bo]
      have hdead0:erHF h (nm id)=U:=by rw[bU,hb];rfl
      by_cases hl:ah q=0
      .rw[hl]at z;simp only[cz,bo]at z;have hnil:q=[]:=eR.1 hl;subst hnil;refine eK.mk' hc hH z [] (by simp) (λn _=>?_) (by simp) (λH1 H2 d _ _ _=>⟨by simp,λyb A=>?_⟩) hrd (by simp) (by simp) hr hinv' (by omega)
       .by_cases D:n=nm nx
        .subst D;rw[hnew,bU,hfr];rfl
        .by_cases hn2:n=nm id
         .subst hn2;rw[hdead,hdead0]
         .exact hsame n D hn2
       .rw[hval]at A;simp only[dA,dG,em,cz,sX,bo,af]at A;subst A;exact ju.refl d _
      .rw[aE (by simpa using hl),uG]at z;refine eK.mk' hc hH z [nm nx] (λbytes hi=>hi) (λn D=>?_) (λbytes hi b' _=>⟨_,by rw[aR hi];simp only[aA]at hi;subst hi;exact eG _ _⟩) (λH1 H2 d hw1 _ hw2=>⟨λbytes hi u b' hb1 hb2=>?_,λyb A=>?_⟩) hrd (λn D=>hwm n (.inl (by simpa using D))) (λn D=>by simp only[aA]at D;subst D;rw[dh];omega) hr hinv' (by omega)
       .have hn1:n≠nm nx:=by simpa using D
        by_cases hn2:n=nm id
        .subst hn2;rw[hdead,hdead0]
        .exact hsame n hn1 hn2
       .simp only[aA]at hi;subst hi;rw[hw1 _ (by simp),eG]at hb1;rw[hw2 _ (by simp),hnew,aE (by simpa using hl)]at hb2;simp only[af,gW]at hb1 hb2;subst hb1 hb2;exact fM.refl d _
       .rw[hval]at A;simp only[dA,gW]at A;rw[aE (by simpa using hl)]at A;cases A;exact ju.refl d _
     .have hyb:y= .G (nm id) T.size (l! xs0):=by rw[<- h2];unfold dA;rw[aE hp]
      subst hyb;have hg:H.get (nm id)=Z ⟨ty',.fz (xs0.flatMap (bP T))⟩:=by rw[hH,bU,hb];simp only[aB,jG,aE hp]
      have fl:=dN (bh T) xs0;have tk:(xs0.flatMap (bP T)).take (l! xs0*T.size)=xs0.flatMap (bP T):=by rw[<- fl,dC]
      have hmem:mem (nm id) rdl=aa:=by
       cases hx:mem (nm id) rdl with
       |false=>rfl
       |true=>
        have hm:=h6 _ (adq.1 hx);rw[dh,hmid]at hm;cases hm
      have z:dk (.app ty' T.size i ty c) (Bk e h) H (nm nx)=Z ⟨.G (nm nx) T.size (l! xs0+l! q),nm id::rdl,[nm nx,nm id],[(nm nx,⟨ty',.fz ((xs0++q).flatMap (bP T))⟩)],[nm nx]⟩:=by
       have hcnd:(T.size==T.size&& !(mem (nm id) rdl)&&(BC.fz (xs0.flatMap (bP T))).isCells&&dc (l! xs0*T.size) (BC.fz (xs0.flatMap (bP T))).len&&ty'==ty'&&bl (l! xs0+l! q) i)=J:=by
        have:dc (l! xs0*T.size) (BC.fz (xs0.flatMap (bP T))).len=J:=bf (by simp only[BC.len];omega);rw[this,hmem,hroom];simp[BC.isCells]
       simp only[dk,h1,h3,h5,hg,hcnd,bo,BC.toMx,<-gX,tk,<-cf,uG,wg]
      have hne2:¬((p&&l! (xs0++q)==0)=J):=by
       simp only[al,cV,aD]at hp ⊢;intro hh;exact hp ⟨hh.1,by omega⟩
      refine eK.mk' hc hH z [nm nx,nm id] (λbytes hi=>hi) (λn D=>?_) (λbytes hi b' N=>?_) (λH1 H2 d hw1 _ hw2=>⟨λbytes hi u b' hb1 hb2=>?_,λyb A=>?_⟩) (λn D=>?_) (λn D=>hwm n (by simpa using D)) (λn D=>by simp only[aA]at D;subst D;rw[dh];omega) hr hinv' (by omega)
      .simp only[bB,cO,gx,not_or]at D;exact hsame n D.1 D.2
      .simp only[bB,cO,gx]at hi;rcases hi with rfl|rfl
       .exact⟨_,by rw[aR (by simp)];exact eG _ _⟩
       .rw[hdead]at N;cases N
      .simp only[bB,cO,gx]at hi;rcases hi with rfl|rfl
       .rw[hw1 _ (by simp),eG]at hb1;rw[hw2 _ (by simp),hnew,aE hne2]at hb2;simp only[af]at hb1 hb2;subst hb1 hb2;exact fM.refl d _
       .rw[hw2 _ (by simp),hdead]at hb2;cases hb2
      .rw[hval]at A;simp only[dA]at A;rw[aE hne2]at A;simp only[aD,af]at A;subst A;exact ju.refl d _
      .rcases bB.1 D with rfl|D
       .rw[dh,bj,bq.2 rfl];rfl
       .exact hrd n D
    .cases I
   .cases I
  .cases I
 .rename_i S xs1;split at I
  .rename_i xs hxs;obtain⟨ee,rfl⟩:=gP hxs;cases ee;let⟨hroom,I⟩:=cB I;simp only[b7,af]at h2;subst h2;have fl:=dN (bh T) xs1;have tk:(xs1.flatMap (bP T)).take (l! xs1*T.size)=xs1.flatMap (bP T):=by rw[<- fl,dC]
   have hcnd:(dc (l! xs1*T.size) (l! (xs1.flatMap (bP T)))&&bl (l! xs1+l! q) i)=J:=by
    have hroom:bl (l! xs1+l! q) i=J:=hroom;rw[hroom,Bool.and_true];exact bf (by omega)
   rcases kK I with ⟨hl,I⟩|⟨hl,I⟩
   .have hl:=au hl;have hl':(ah q==0)=J:=by rw[hl];rfl
    have z:dk (.app s T.size i ty c) (Bk e h) H (nm nx)=Z ⟨.f (.sl (xs1.flatMap (bP T)) (l! xs1)),rdl,[],[],[]⟩:=by simp only[dk,h1,h3,h5,hcnd,bo,hl']
    exact⟨_,m,0,h,nx,I,eK.mk' hc hH z [] (by simp) (λn _=>rfl) (by simp) (λH1 H2 d _ _ _=>⟨by simp,λyb A=>by simp only[b7,af]at A;subst A;exact ju.refl d _⟩) h6 (by simp) (by simp) (b8.refl h) hinv (by omega)⟩
   .have hl':¬(ah q==0)=J:=λe=>by
     have e:ah q=0:=by simpa using e
     rw[e]at hl;cases hl
    exact⟨_,_,_,_,_,I,eK.new hinv hc hH (y0:=.G (nm nx) T.size (l! xs1+l! q)) (rdl:=rdl) (b0:=⟨s,.fz ((xs1++q).flatMap (bP T))⟩) (by
     simp only[dk,h1,h3,h5,hcnd,bo];rw[aE hl',tk,<-cf,uG,<-wg]) (B:=.F s aa T (xs1++q)) (v:=.G nx) (dH.zero h) (λ_ _ he=>by cases he) (λH1 H2 d g b' N=>by
     simp only[jG,dY,cg,eV,af]at N;subst N;exact fM.refl d _) (λH1 H2 yb d g A=>by
     simp only[b7,bH,PT.get_set,bo,aB,hZ,dA,dY,cg,eV,aD,af]at A;subst A;exact ju.refl d _) h6⟩
  .cases I
 .obtain⟨hroom,I⟩:=cB I;simp only[b7,af]at h2;subst h2;exact⟨_,_,_,_,_,I,onEmp m h6 rfl (Le.refl _) hroom⟩
 .obtain⟨hroom,I⟩:=cB I;simp only[b7,af]at h2;subst h2;exact⟨_,_,_,_,_,I,onEmp m h6 rfl Le.nilEmp hroom⟩
 .cases I
def api {ty:Operand} (hcm:ED (W s)=U) (I:cP P o.op=Z (.app s i m ty c)) (x:d_ X W (.op (.app s i m ty c)) e h nx K=Z r):h_ P o aa e h nx K r:=by
 let⟨H,q⟩:=fW h;simp only[d_,hcm]at x;split at x
 .rename_i T b y hT hv z;split at x
  .rename_i A;have A:=au A;subst A;let⟨yb,h1,h2⟩:=be hi hv;let⟨yy,h3,N⟩:=be hi z;split at x
   next j xs id hq=>let⟨hj,x⟩:=cB x;let⟨F,D⟩:=ahb q hq N hj;exact I6 hinv hi q I h1 h2 h3 F D x
   .split at x
    next ys bytes hys=>let⟨rdl,F,D⟩:=IE q hys N;exact I6 hinv hi q I h1 h2 h3 F (λn hn=>by obtain⟨sz,rfl,hm⟩:=D n hn;rw[dh];exact hm) x
    .cases x
  .cases x
 .cases x
def af4 (xs q:Y T.den):(cpy xs q).flatMap (bP T)=AI.splice (xs.flatMap (bP T)) 0 ((q.flatMap (bP T)).take (kU (l! q) (l! xs)*T.size)):=by
 have _:=hinv;have _:=hi;have fl:=λc:Y T.den=>dN (bh T) c
 have D:∀(c:Y T.den) n,(c.flatMap (bP T)).take (n*T.size)=(c.take n).flatMap (bP T):=by
  intro c;induction c with
  |nil=>intro n;simp
  |cons z r A=>
   intro n;cases n with
   |zero=>simp
   |succ n=>rw[eE,wd,eE,iN,List.take_append,bh,fZ (by rw[bh];omega),show n*T.size+T.size-T.size=n*T.size from by omega,A n]
 have F:∀(c:Y T.den) n,(c.flatMap (bP T)).drop (n*T.size)=(c.drop n).flatMap (bP T):=by
  intro c;induction c with
  |nil=>intro n;simp
  |cons z r A=>
   intro n;cases n with
   |zero=>simp
   |succ n=>rw[eE,HO,iN,vr,bh,AW (by rw[bh];omega),show n*T.size+T.size-T.size=n*T.size from by omega,A n,gW]
 unfold cpy AI.splice;rw[D,wg,fl,bD];have e1:q.take (kU (l! q) (l! xs))=q.take (l! xs):=by grind
 have e2:min (kU (l! q) (l! xs)) (l! q)=kU (l! q) (l! xs):=Nat.min_eq_left (Nat.min_le_left _ _);rw[e2];simp[List.take_zero,gW,b6];rw[F]
 grind
def apf {x:Operand} (hc:cP P o.op=Z (.copy i c x)) (d:d_ X W (.op (.copy i c x)) e h nx K=Z r):h_ P o aa e h nx K r:=by
 let⟨H,hH⟩:=fW h;simp only[d_]at d;split at d
 .rename_i id y hv I;split at d
  .rename_i ty p T xs hb;split at d
   .rename_i N;have N:=au N;subst N;split at d
    .rename_i q m hys;split at d
     .rename_i hcond;simp[al,cK]at hcond;obtain⟨hmid,rfl⟩:=hcond;let⟨yb,h1,h2⟩:=be hi hv;let⟨yy,h3,h4⟩:=be hi I;let⟨rdl,h5,h6⟩:=IE hH hys h4;simp[b7,ep,hb,dA,dY,cg,eV,af]at h2;subst h2;have fl:=dN (bh T) xs;have hg:H.get (nm id)=Z ⟨ty,.fz (xs.flatMap (bP T))⟩:=by rw[hH,bU,hb];simp[jG]
      have hmem:mem (nm id) rdl=aa:=by
       cases D:mem (nm id) rdl with
       |false=>rfl
       |true=>
        let⟨sz,e,hm⟩:=h6 _ (adq.1 D);rw[<- s5 e,hmid]at hm;cases hm
      have hle:kU (l! q) (l! xs)*T.size<=l! xs*T.size:=co _ (Nat.min_le_right _ _);have ha0:dk (.copy T.size c x) (Bk e h) H (nm nx)=Z ⟨raw (.int .i64 (kU (l! q) (l! xs))),nm id::rdl,[nm id],[(nm id,⟨ty,.fz ((cpy xs q).flatMap (bP T))⟩)],[]⟩:=by
       have hcnd:(T.size==T.size&& !(mem (nm id) rdl)&&dc (l! xs*T.size) (BC.fz (xs.flatMap (bP T))).len)=J:=by
        have:dc (l! xs*T.size) (BC.fz (xs.flatMap (bP T))).len=J:=bf (by simp only[BC.len];omega);rw[this,hmem];simp
       have hput:(BC.fz (xs.flatMap (bP T))).put 0 (((q.flatMap (bP T)).map .f).take (kU (l! q) (l! xs)*T.size))=Z (.fz ((cpy xs q).flatMap (bP T))):=by
        rw[<- gX];unfold BC.put;rw[aR]
        .simp only[LY];rw[af4 hinv hi]
        .simp only[al];refine ⟨⟨rfl,bf ?_⟩,?_⟩
         .simp only[BC.len,bN,bD];omega
         .have:∀l:Y FV,(∀x∈l,x.isCell=J)->gf (l.map .f)=J:=by
           intro l hl;induction l with
           |nil=>rfl
           |cons z r ih=>simp[b5,gf,al];exact⟨hl z (by simp),ih λx D=>hl x (by grind)⟩
          exact this _ λx D=>lq T q x (dF D)
       simp only[dk,h1,h3,hg,h5,hcnd,bo,hput]
      have hrow:hZ (.F ty aa T (cpy xs q))=hZ (.F ty aa T xs):=by
       have:l! (cpy xs q)=l! xs:=by unfold cpy;rw[aD,bD,gw];omega
       simp[hZ,this]
      have key:=eK.wrt (m:=0) (v:=.f (.int .i64) (bC (kU (ah q) (ah xs)))) (rd:=fT id|||m) hinv hc hH ha0 (B:=.F ty aa T (cpy xs q)) hb (dH.zero h) (by simp) hrow (λ_ _ he=>by cases he) (λH1 H2 c g b' A=>by
       simp[jG,dY,cg,eV,af]at A;subst A;exact fM.refl c _) (λH1 H2 y c g hy=>by
       simp[b7,af]at hy;subst hy;exact ju.refl c _) (λn hn=>by
       rcases bB.1 hn with rfl|hn
       .rw[dh,bj,bq.2 rfl];rfl
       .obtain⟨sz,rfl,hm⟩:=h6 n hn;rw[dh,bj,hm];simp)
      rw[uZ]at key;exact⟨_,_,_,_,_,d,key⟩
     .cases d
    .cases d
   .cases d
  .cases d
 .cases d
def akn {v:Operand} (hc:cP P o.op=Z (.store i c v)) (x:d_ X W (.op (.store i c v)) e h nx K=Z r):h_ P o aa e h nx K r:=by
 let⟨H,hH⟩:=fW h;simp only[d_]at x;split at x
 .rename_i id off y hv hv2;let⟨yb,h1,h2⟩:=be hi hv;let⟨D,h3,h4⟩:=be hi hv2;simp only[b7,af]at h2;subst h2;split at x
  .rename_i ty l I;split at x
   .rename_i cs hcs;split at x
    .rename_i hcond;simp only[al,cV]at hcond;let⟨h5,h6⟩:=HE hcs h4;let⟨l',hl⟩:=fb h l (hinv.C id _ l I);have hg:H.get (nm id)=Z ⟨ty,.mx l'⟩:=by rw[hH,bU,I];simp only[aB,jG,hl]
     have hcell:=sh h5 h6;have hlen:D.cs.length=i:=by rw[hY h5];exact hcond.1
     have hput:(BC.mx l').put off D.cs=Z (.mx (splice l' off D.cs)):=by
      unfold BC.put;rw[aR]
      .rfl
      .simp only[al];exact⟨⟨rfl,by simp only[BC.len];rw[hlen,hY hl];exact hcond.2⟩,hcell⟩
     have ha0:dk (.store i c v) (Bk e h) H (nm nx)=Z ⟨raw undef,[nm id],[nm id],[(nm id,⟨ty,.mx (splice l' off D.cs)⟩)],[]⟩:=by
      simp only[dk,h1,h3,xZ,hg,hlen,cz,bo,hput]
     have hspl:∀h',b8 h h'->cN h' (splice l off cs)=Z (splice l' off D.cs):=λh' hr=>pY off (gB hr l l' hl) (gB hr cs _ h5)
     have N:b8 h (h.set id (Z (.C (Z ty) (splice l off cs)))):=b8.set λr hr=>by rw[bH,I]at hr;cases hr
     have key:=eK.wrt (m:=0) (v:=.undef) (rd:=fT id) hinv hc hH ha0 (B:=.C (Z ty) (splice l off cs)) I (dH.zero h) (by simp) rfl (λty' l2 he=>by cases he;exact kY _ _ _ (hspl _ N)) (λH1 H2 d g b' A=>by
      have:=hspl _ N;simp only[dI,AT,bo,jG,this,af]at A;subst A;exact fM.refl d _) (λH1 H2 y d g hy=>by
      simp only[b7,af]at hy;subst hy;exact ju.refl d _) (λn hn=>by simp only[aA]at hn;subst hn;rw[dh];exact bq.2 rfl)
     rw[uZ]at key;exact⟨_,_,_,_,_,x,key⟩
    .cases x
   .cases x
  .cases x
 .rename_i id sz' j off y hv hv2;let⟨yb,h1,h2⟩:=be hi hv;let⟨D,h3,h4⟩:=be hi hv2;simp only[b7,af]at h2;subst h2;split at x
  .rename_i ty p T xs I;split at x
   .rename_i hsz;have hsz:=au hsz;subst hsz;let⟨hj,x⟩:=cB x;split at x
    .rename_i z m hset;split at x
     .cases x
     .rename_i hmid;have hmid:aC m id=aa:=by simpa using hmid
      have hm:=AY 40 T _ off i z m hset;let⟨j0,j1,j2⟩:=lR hj;have hne:¬((p&&xs.length==0)=J):=by grind
      have hne2:¬((p&&(cC xs j z).length==0)=J):=by unfold cC;rw[fD];exact hne
      have hg:H.get (nm id)=Z ⟨ty,.fz (xs.flatMap (bP T))⟩:=by rw[hH,bU,I];simp only[aB,jG,aE hne]
      have fl:=dN (bh T) xs;have hx:xs[j.toNat]? =Z (aK _ xs j):=by
       unfold aK;rw[aT,aH j2];rfl
      have hle:(j.toNat+1)*T.size<=xs.length*T.size:=co _ j2;rw[iN]at hle;have hso:∀H1 H2,qe H1 H2->C4 h H1 H2 m->OR H1 H2 D T (aK _ xs j) z off i:=λH1 H2 d g=>sq d h4 40 T _ off i z m hset g
      have hshape:D.cs.length=i/\off+i<=T.size/\gf D.cs=J:=by
       have d0:qe (erHF h) (erHF (dI m h)):=qe.kill hinv hm;let⟨fs,q1,q2,q3,q4,q5⟩:=hso _ _ d0 (λsz hi=>⟨rfl,by
        let⟨pp,ss,nn,g3⟩:=ud hm hi;rw[bU,g3];rfl⟩)
       refine ⟨by rw[<- q2,<-bN (f:=AV.f),q1.length],q3,?_⟩;exact mT h4 40 T _ off i z m hset
      let⟨hlen,hoff,hcell⟩:=hshape;obtain⟨c',hput,hc1,hc2⟩:∃c',(BC.fz (xs.flatMap (bP T))).put (j.toNat*T.size+off) D.cs=Z c'/\c'.toMx=splice ((xs.flatMap (bP T)).map .f) (j.toNat*T.size+off) D.cs/\c'.isCells=J:=by
       unfold BC.put;rw[aR]
       .split
        next l ys hl hys=>simp only[BC.fz.injEq]at hl;subst hl;refine ⟨_,rfl,?_,rfl⟩;rw[mz hys];simp only[BC.toMx];unfold splice;simp[gX,sW]
        .exact⟨_,rfl,rfl,rfl⟩
       .simp only[al];exact⟨⟨rfl,bf (by simp only[BC.len];omega)⟩,hcell⟩
      have ha0:dk (.store i c v) (Bk e h) H (nm nx)=Z ⟨raw undef,[nm id],[nm id],[(nm id,⟨ty,c'⟩)],[]⟩:=by
       simp only[dk,h1,h3,xZ,hg,hlen,cz,bo,hput]
      have hrow:hZ (.F ty p T (cC xs j z))=hZ (.F ty p T xs):=by
       unfold cC;simp only[hZ,fD]
      refine ⟨_,_,_,_,_,x,eK.wrt hinv hc hH ha0 (B:=.F ty p T (cC xs j z)) I hm hmid hrow (λ_ _ he=>by cases he) (λH1 H2 d g b' A=>?_) (λH1 H2 y d g hy=>?_) (λn hn=>?_)⟩
      .simp only[jG,aE hne2,af]at A;subst A;let⟨fs,q1,q2,q3,q4,q5⟩:=hso H1 H2 d g;have hfl:(cC xs j z).flatMap (bP T)=AI.splice (xs.flatMap (bP T)) (j.toNat*T.size+off) fs:=Kw (bh T) xs j.toNat _ z hx off fs (by omega) q4;refine fM.C hc2 rfl ?_ λc hx=>?_
       .rw[hc1];simp only[BC.toMx];rw[hfl];have:(AI.splice (xs.flatMap (bP T)) (j.toNat*T.size+off) fs).map AV.f=AI.splice ((xs.flatMap (bP T)).map .f) (j.toNat*T.size+off) (fs.map .f):=by unfold AI.splice;simp[gX,sW]
        rw[this];exact (gu.refl d _).splice _ q1
       .simp only[BC.toMx]at hx;obtain⟨q,hq,rfl⟩:=bR.1 hx;exact lq T _ q hq
      .simp only[b7,af]at hy;subst hy;exact ju.refl d _
      .simp only[aA]at hn;subst hn;rw[dh,bj,bq.2 rfl];simp
    .cases x
   .cases x
  .rename_i ty l I;split at x
   .rename_i hsz;simp only[al]at hsz;let⟨s1,s2,s3⟩:=hsz;have s1:=au s1;have s2:=au s2;have s3:=au s3;subst s1 s2 s3;let⟨hj,x⟩:=cB x;let⟨j0,j1,j2⟩:=lR hj;split at x
    .rename_i cs hcs;split at x
     .rename_i hc1;have hc1:=au hc1;let⟨h5,h6⟩:=HE hcs h4;let⟨l',hl⟩:=fb h l (hinv.C id _ l I);have hg:H.get (nm id)=Z ⟨ty,.mx l'⟩:=by rw[hH,bU,I];simp only[aB,jG,hl]
      have hcell:=sh h5 h6;have hlen:D.cs.length=1:=by rw[hY h5];exact hc1
      have e0:j.toNat*1+0=j.toNat:=by omega
      rw[e0]at h1;have hput:(BC.mx l').put j.toNat D.cs=Z (.mx (splice l' j.toNat D.cs)):=by
       unfold BC.put;rw[aR]
       .rfl
       .simp only[al];exact⟨⟨rfl,bf (by simp only[BC.len];rw[hlen,hY hl];omega)⟩,hcell⟩
      have ha0:dk (.store 1 c v) (Bk e h) H (nm nx)=Z ⟨raw undef,[nm id],[nm id],[(nm id,⟨ty,.mx (splice l' j.toNat D.cs)⟩)],[]⟩:=by
       simp only[dk,h1,h3,xZ,hg,hlen,cz,bo,hput]
      have hspl:∀h',b8 h h'->cN h' (splice l j.toNat cs)=Z (splice l' j.toNat D.cs):=λh' hr=>pY j.toNat (gB hr l l' hl) (gB hr cs _ h5)
      have N:b8 h (h.set id (Z (.C (Z ty) (splice l j.toNat cs)))):=b8.set λr hr=>by rw[bH,I]at hr;cases hr
      have key:=eK.wrt (m:=0) (v:=.undef) (rd:=fT id) hinv hc hH ha0 (B:=.C (Z ty) (splice l j.toNat cs)) I (dH.zero h) (by simp) rfl (λty' l2 he=>by cases he;exact kY _ _ _ (hspl _ N)) (λH1 H2 d g b' A=>by
       have:=hspl _ N;simp only[dI,AT,bo,jG,this,af]at A;subst A;exact fM.refl d _) (λH1 H2 y d g hy=>by
       simp only[b7,af]at hy;subst hy;exact ju.refl d _) (λn hn=>by simp only[aA]at hn;subst hn;rw[dh];exact bq.2 rfl)
      rw[uZ]at key;exact⟨_,_,_,_,_,x,key⟩
     .cases x
    .cases x
   .cases x
  .cases x
 .cases x
def apa {l:Operand} (N:cP P o.op=Z (.zf s i m A l c)) (q:d_ X W (.op (.zf s i m A l c)) e h nx K=Z r):h_ P o aa e h nx K r:=by
 cases hcm:ED (W s) with
 |none=>exact ako hinv hi hcm N q
 |some n=>
  let⟨H,hH⟩:=fW h;simp only[d_,hcm]at q;split at q
  .rename_i zc k a k' b D hv F;let⟨hck,q⟩:=cB q;rw[al]at hck;let⟨hcond,hn⟩:=hck;let⟨y,h1,h2⟩:=be hi hv;let⟨y2,h3,h4⟩:=be hi F;simp[b7,af]at h2 h4;subst h2 h4;have han:aS a=n:=by grind
   let⟨_,_,hzc⟩:=vR h D;refine ⟨_,_,_,_,_,q,eK.new hinv N hH (y0:=.G (nm nx) i n) (rdl:=[]) (b0:=⟨s,.fz (repl A n)⟩) (by simp[dk,h1,h3,fC,hcond,bo,han]) (dH.zero h) (λty' l' he=>?_) (λH1 H2 d g b' z=>?_) (λH1 H2 y d g I=>?_) (by simp)⟩
   .cases he;exact kY _ _ _ (NP _ D n)
   .simp[jG,NP _ D n,af]at z;subst z;refine fM.C rfl rfl (gu.refl d _) λx hx=>?_
    exact lV (sh (NP h D n) (F3 hzc n)) x hx
   .simp[b7,af]at I;subst I;exact ju.refl d _
  .cases q
def atc {parts:Y l?} (hc:cP P o.op=Z (.xz s i m A parts)) (c:d_ X W (.op (.xz s i m A parts)) e h nx K=Z r):h_ P o aa e h nx K r:=by
 cases hcm:ED (W s) with
 |none=>exact aph hinv hi hcm hc c
 |some n=>
  let⟨H,hH⟩:=fW h;simp only[d_,hcm]at c;split at c
  .rename_i zc I;split at c
   .rename_i cs hf;split at c
    .cases c
    .rename_i F;have F:m≠0:=λe=>F (by rw[e];rfl)
     let⟨cs',h1,h2,h3⟩:=D3 hi parts _ cs _ hf (NP h I m);let⟨_,_,hzc⟩:=vR h I;have hcs:=h3 (F3 hzc m);have D:b8 h ((dI 0 h).set nx (Z (.C (Z s) cs))):=(b8.kill 0 h).trans (b8.set λr D=>by rw[bH,(hinv.kill 0).fresh]at D;cases D);have z:=gB D _ _ h2;refine ⟨_,_,_,_,_,c,eK.new hinv hc hH (y0:=.G (nm nx) i m) (rdl:=[]) (b0:=⟨s,mN cs'⟩) (by simp[dk,h1,aE F]) (dH.zero h) (λty' l' he=>?_) (λH1 H2 d g b' q=>?_) (λH1 H2 y d g N=>?_) (by simp)⟩
     .cases he;exact kY _ _ _ z
     .simp[jG,z,af]at q;subst q;let⟨q1,q2⟩:=mq cs';refine fM.C q2 rfl ?_ λx hx=>?_
      .rw[q1];exact gu.refl d _
      .exact lV (sh h2 hcs) x hx
     .simp[b7,af]at N;subst N;exact ju.refl d _
   .cases c
  .cases c
def atf {ty:Operand} (hc:cP P o.op=Z (.app s i m ty c)) (x:d_ X W (.op (.app s i m ty c)) e h nx K=Z r):h_ P o aa e h nx K r:=by
 cases hcm:ED (W s) with
 |none=>exact api hinv hi hcm hc x
 |some n0=>
  let⟨H,hH⟩:=fW h;have hfr:=hinv.fresh;simp only[d_,hcm]at x;split at x
  .rename_i b y hv hv2;let⟨yb,h1,h2⟩:=be hi hv;let⟨yy,h3,h4⟩:=be hi hv2;unfold alp at x;split at x
   .rename_i id2 sz2 bytes;simp only[b7,af]at h4;subst h4;split at x
    .rename_i ty2 l2 I;split at x
     .rename_i z;simp only[al,cK]at z;let⟨⟨q1,q2⟩,q3⟩:=z;have q1:=au q1;have q2:=au q2;have q3:bytes≠0:=λe=>by grind
      subst q1;let⟨D,hl2⟩:=fb h l2 (hinv.C id2 _ l2 I);have hrow:=Y4 hH I hl2 q2;split at x
      .rename_i id sz1 n;simp only[b7,af]at h2;subst h2;split at x
       .rename_i ty1 l1 N;split at x
        .rename_i z;simp only[al,cK]at z;let⟨⟨⟨p1,p2⟩,p3⟩,p4⟩:=z;have p1:=au p1;have p2:=eq_of_beq p2;have p3:=au p3;have p4:id≠id2:=λe=>by simp_all
         subst p1 p2;let⟨hroom,x⟩:=cB x;let⟨F,hl1⟩:=fb h l1 (hinv.C id _ l1 N);have hln:=hY hl1;have hg:H.get (nm id)=Z ⟨ty1,.mx F⟩:=by rw[hH,bU,N];simp only[aB,jG,hl1]
         have hidlt:id<nx:=hinv.low id _ N;generalize hB:eC.C (Z ty1) (l1++l2)=B at x;have hd1:b8 h (h.set id (Z (.qj J 0 0))):=b8.set λr A=>by rw[bH,N]at A;cases A
         have hd2:b8 (h.set id (Z (.qj J 0 0))) ((h.set id (Z (.qj J 0 0))).set nx (Z B)):=b8.set λr A=>by
          rw[bH,PT.get_set,aE (by omega),hfr]at A;cases A
         have A:=hd1.trans hd2;have hsp:cN ((h.set id (Z (.qj J 0 0))).set nx (Z B)) (l1++l2)=Z (F++D):=gB A _ _ (nI hl1 hl2);have hb':erHF ((h.set id (Z (.qj J 0 0))).set nx (Z B)) (nm nx)=Z ⟨ty1,.mx (F++D)⟩:=by rw[bU,PT.get_set,aR rfl,<-hB]at *;simp only[aB,jG,hsp]
         have hbd:erHF ((h.set id (Z (.qj J 0 0))).set nx (Z B)) (nm id)=U:=by rw[bU,PT.get_set,aE (by omega),PT.get_set,aR rfl];rfl
         have hinv1:gC (h.set id (Z (.qj J 0 0))) nx:=hinv.set hd1 hidlt (bL _) (λ_ _ he=>by cases he);have ha:dk (.app ty1 sz1 m ty c) (Bk e h) H (nm nx)=Z ⟨.G (nm nx) sz1 (n+bytes),[nm id,nm id2],[nm nx,nm id],[(nm nx,⟨ty1,mN (F++D)⟩)],[nm nx]⟩:=by
          simp only[dk,h1,h3,hrow,hg];rw[aR (by
           simp only[cz,dl,Bool.and_true,BC.isCells,BC.len,hroom,al,cK];refine ⟨?_,bf (by omega)⟩;simp only[mem,Bool.or_false];cases z:ay (nm id2) (nm id) with
           |false=>rfl
           |true=>exact bO (s5 (au z)).symm p4)]
          simp only[BC.toMx,fZ (show (l! F)<=n*sz1 by omega)]
         refine ⟨_,_,_,_,_,x,eK.mk' hc hH ha [nm nx,nm id] (λsz hi=>hi) (λq z=>?_) (λsz hi b' hbb=>?_) (λH1 H2 d hw1 _ hw2=>⟨λsz hi b b' hb I=>?_,λy hy=>?_⟩) (λq z=>?_) (λq z=>?_) (λq z=>?_) A (hinv1.set hd2 (by omega) (by omega) λty' l' he=>?_) (by omega)⟩
         .simp only[bB,cO,gx,not_or]at z;refine lT hinv A (il.of λsz=>by
           by_cases e1:sz=nx
           .rw[e1,hfr,PT.get_set,aR rfl];exact .inr ⟨rfl,by rw[<- hB];rfl⟩
           .rw[PT.get_set,aE e1];by_cases e2:sz=id
            .rw[e2,N,PT.get_set,aR rfl];exact .inr ⟨rfl,rfl⟩
            .rw[PT.get_set,aE e2];exact .inl rfl) λsz ei=>?_
          subst ei;rw[PT.get_set,aE (λe=>z.1 (by rw[e])),PT.get_set,aE (λe=>z.2 (by rw[e]))]
         .simp only[bB,cO,gx]at hi;rcases hi with rfl|rfl
          .rw[aR (by simp)];exact⟨_,eG _ _⟩
          .grind
         .simp only[bB,cO,gx]at hi;rcases hi with rfl|rfl
          .rw[hw1 _ (by simp),eG]at hb;rw[hw2 _ (by simp),hb']at I;simp only[af]at hb I;subst hb I;let⟨m1,m2⟩:=mq (F++D);exact fM.eq d m2 rfl m1
          .grind
         .simp only[b7,af]at hy;subst hy;exact ju.refl d _
         .simp only[bB,cO,gx]at z;rw[bj,eX];rcases z with rfl|rfl
          .rw[dh];exact .inl (bq.2 rfl)
          .rw[dh];exact .inr (bq.2 rfl)
         .simp only[bB,cO,gx]at z;rw[bj,eX];rcases z with rfl|rfl
          .rw[dh];exact .inr (bq.2 rfl)
          .rw[dh];exact .inl (bq.2 rfl)
         .simp only[aA]at z;subst z;rw[dh];omega
         .rw[<- hB]at he;cases he;exact kY _ _ _ hsp
        .cases x
       .cases x
      .simp only[b7,af]at h2;subst h2;let⟨hroom,x⟩:=cB x;have A:b8 h ((dI 0 h).set nx (Z (.C (Z s) l2))):=(b8.kill 0 h).trans (b8.set λr A=>by rw[bH,(hinv.kill 0).fresh]at A;cases A);have h2':=gB A _ _ hl2;refine ⟨_,_,_,_,_,x,eK.new hinv hc hH (y0:=.G (nm nx) sz2 bytes) (rdl:=[nm id2]) (b0:=⟨s,mN D⟩) (by simp only[dk,h1,h3,hrow];simp[CK,Bg,hroom,q3]) (dH.zero h) (λty' l' he=>?_) (λH1 H2 d g b' hb'=>?_) (λH1 H2 y d g hy=>?_) (λn hn=>?_)⟩
       .cases he;exact kY _ _ _ h2'
       .simp only[jG,h2',af]at hb';subst hb';let⟨p1,p2⟩:=mq D;exact fM.eq d p2 rfl p1
       .simp only[b7,af]at hy;subst hy;exact ju.refl d _
       .simp only[aA]at hn;subst hn;rw[dh];exact bq.2 rfl
      .cases x
     .cases x
    .cases x
   .cases x
  .cases x
def ass {lo hi' mx:M Operand} (hc:cP P o.op=Z (.slc i c lo hi' mx)) (z:d_ X W (.op (.slc i c lo hi' mx)) e h nx K=Z r):h_ P o aa e h nx K r:=by
 have hfr:=hinv.fresh;simp only[d_]at z;split at z
 .rename_i v hv;let⟨y,h1,h2⟩:=be hi hv;split at z
  .split at z
   next hn=>let⟨n,hn⟩:=iK.1 hn;have h3:=R_ hn h2;exact h_.q (k:=0) hinv hc (λH _=>by simp only[dk,h1,h3,Option.isSome_some,bo]) (cL rfl) z
   .cases z
  .rename_i b;split at z
   .rename_i T xs k j hb;let⟨y2,h3,N⟩:=be hi hb;simp only[b7,af]at h2 N;subst h2 N;split at z
    .rename_i A;have A:=au A;subst A;let⟨D,z⟩:=cB z;have hfl:=dN (bh T) xs;have hcond:(cZ 0 j&&cZ j (ah xs)&&dc (ah xs*T.size) (l! (xs.flatMap (bP T))))=J:=by
      rw[D,dl];exact bf (by omega)
     simp only[cZ,al,bG]at D;have hlen:l! (xs.take j.toNat)=j.toNat:=by rw[bD];omega
     exact h_.q (k:=0) (y0:=.f (.sl ((xs.flatMap (bP T)).take (j.toNat*T.size)) j.toNat)) hinv hc (λH _=>by simp only[dk,h1,h3,fC,hcond,bo]) (cL (by simp only[b7,fC];rw[uc (bh T),hlen])) z
    .cases z
   .rename_i id k j hb;let⟨y2,h3,N⟩:=be hi hb;simp only[b7,af]at N;subst N;split at z
    .rename_i ty p T xs I;split at z
     .rename_i A;have A:=au A;subst A;let⟨D,z⟩:=cB z;let⟨H,hH⟩:=fW h;have hj0:=D;simp only[cZ,fV,al,bG]at D;have hp:¬((p&&l! xs==0)=J):=by
       simp only[al,cV];omega
      simp only[b7,bH,I,aB,hZ,dA,aE hp,af]at h2;subst h2;have hidlt:=hinv.low id _ I;have hne:nx≠id:=by omega
      have hg:H.get (nm id)=Z ⟨ty,.fz (xs.flatMap (bP T))⟩:=by rw[hH,bU,I];simp only[aB,jG,aE hp]
      have fl:=dN (bh T) xs;have hcond:(T.size==T.size&&cZ 0 j&&cZ j (ah xs))=J:=by
       simp only[cZ,al,bG,cz,true_and];omega
      have hlen:l! (xs.take j.toNat)=j.toNat:=by rw[bD];omega
      have ha0:dk (.slc T.size c U (Z b) U) (Bk e h) H (nm nx)=Z ⟨.G (nm nx) T.size j.toNat,[nm id],[nm nx,nm id],[(nm nx,⟨ty,.fz ((xs.take j.toNat).flatMap (bP T))⟩)],[nm nx]⟩:=by
       have hc2:((BC.fz (xs.flatMap (bP T))).isCells&&dc (ah xs*T.size) (BC.fz (xs.flatMap (bP T))).len)=J:=by
        simp only[BC.isCells,dl,BC.len];exact bf (by omega)
       simp only[dk,h1,h3,fC,hcond,bo,hg,hc2,BC.toMx,<-gX,uG,uc (bh T)]
      generalize hh':(h.set id (Z (.qj p T.size (ah xs)))).set nx (Z (.F ty aa T (ca j.toNat xs)))=h' at z;have hrA:b8 h (h.set id (Z (.qj p T.size (ah xs)))):=b8.set λr hr=>by rw[bH,I]at hr;exact hr
      have hg2:∀sz,h'.get sz=if sz=nx then Z (.F ty aa T (ca j.toNat xs)) else if sz=id then Z (.qj p T.size (ah xs)) else h.get sz:=λsz=>by rw[<- hh',PT.get_set,PT.get_set]
      have hr:b8 h h':=by
       rw[<- hh'];refine hrA.trans (b8.set λr hr=>?_);rw[bH,PT.get_set,aE hne,hfr]at hr;cases hr
      have hinv':gC h' (nx+1):=by
       refine ⟨λsz ty l hil=>?_,λsz x hic=>?_⟩
       .rw[hg2]at hil;split at hil
        .cases hil
        .split at hil
         .cases hil
         .exact eS hr l (hinv.C sz _ l hil)
       .rw[hg2]at hic;split at hic
        .omega
        .split at hic
         .omega
         .have:=hinv.low sz x hic;omega
      have hme:il h h':=(il.of λsz=>by
       rw[hg2];by_cases e1:sz=nx
       .rw[aR e1,e1,hfr];exact .inr ⟨rfl,rfl⟩
       .rw[aE e1];by_cases e2:sz=id
        .rw[aR e2,e2,I];exact .inr ⟨rfl,rfl⟩
        .rw[aE e2];exact .inl rfl)
      have hsame:∀n,n≠nm nx->n≠nm id->erHF h' n=erHF h n:=λn h1 h2=>lT hinv hr hme λsz e=>by
       subst e;rw[hg2,aE (λe=>h1 (by rw[e])),aE (λe=>h2 (by rw[e]))]
      have hdead:erHF h' (nm id)=U:=by rw[bU,hg2,aE (by omega),aR rfl];rfl
      have hnew:erHF h' (nm nx)=Z ⟨ty,.fz ((xs.take j.toNat).flatMap (bP T))⟩:=by rw[bU,hg2,aR rfl];rfl
      have hval:b7 h' (.G nx)=Z (.G (nm nx) T.size j.toNat):=by simp only[b7,bH,hg2,bo,aB,hZ,dA,dY,cg,eV,hlen]
      refine ⟨_,_,_,_,_,z,?_⟩;refine eK.mk' hc hH ha0 [nm nx,nm id] (λsz hi=>hi) (λn hn=>?_) (λsz hi b' hb'=>?_) (λH1 H2 d hw1 _ hw2=>⟨λsz hi b b' hb1 hb2=>?_,λy hy=>?_⟩) (λn hn=>?_) (λn hn=>?_) (λn hn=>by simp only[aA]at hn;subst hn;rw[dh];omega) hr hinv' (by omega)
      .simp only[bB,cO,gx,not_or]at hn;exact hsame n hn.1 hn.2
      .simp only[bB,cO,gx]at hi;rcases hi with rfl|rfl
       .exact⟨_,by rw[aR (by simp)];exact eG _ _⟩
       .rw[hdead]at hb';cases hb'
      .simp only[bB,cO,gx]at hi;rcases hi with rfl|rfl
       .rw[hw1 _ (by simp),eG]at hb1;rw[hw2 _ (by simp),hnew]at hb2;simp only[af]at hb1 hb2;subst hb1 hb2;exact fM.refl d _
       .rw[hw2 _ (by simp),hdead]at hb2;cases hb2
      .rw[hval]at hy;cases hy;exact ju.refl d _
      .simp only[aA]at hn;subst hn;rw[dh];exact bq.2 rfl
      .simp only[bB,cO,gx]at hn;rcases hn with rfl|rfl<;>rw[dh,bj,bq.2 rfl]<;>simp
     .cases z
    .cases z
   .cases z
  .rename_i b;split at z
   .rename_i T xs k j hb;let⟨y2,h3,N⟩:=be hi hb;simp only[b7,af]at h2 N;subst h2 N;split at z
    .rename_i A;have A:=au A;subst A;let⟨D,z⟩:=cB z;have hfl:=dN (bh T) xs;have hcond:(cZ 0 j&&cZ j (ah xs)&&dc (ah xs*T.size) (l! (xs.flatMap (bP T))))=J:=by
      rw[D,dl];exact bf (by omega)
     simp only[cZ,al,bG]at D;have hlen:l! (xs.drop j.toNat)=ah xs-j.toNat:=by rw[gw]
     have htk:((xs.flatMap (bP T)).drop (j.toNat*T.size)).take ((ah xs-j.toNat)*T.size)=(xs.flatMap (bP T)).drop (j.toNat*T.size):=by
      refine fZ ?_;rw[gw,hfl,Nat.sub_mul];exact bL _
     exact h_.q (k:=0) (y0:=.f (.sl ((xs.flatMap (bP T)).drop (j.toNat*T.size)) (ah xs-j.toNat))) hinv hc (λH _=>by simp only[dk,h1,h3,fC,hcond,bo,htk]) (cL (by simp only[b7,fC];rw[xQ (bh T),hlen])) z
    .cases z
   .rename_i id k j hb;let⟨y2,h3,N⟩:=be hi hb;simp only[b7,af]at N;subst N;split at z
    .rename_i ty p T xs I;split at z
     .rename_i A;have A:=au A;subst A;let⟨D,z⟩:=cB z;have hcond:(T.size==T.size&&cZ 0 j&&fV j (ah xs))=J:=by
       simp only[al]at D;rw[D.1,D.2,cz];rfl
      simp only[cZ,fV,al,bG]at D;have hp:¬((p&&l! xs==0)=J):=by
       simp only[al,cV];omega
      simp only[b7,bH,I,aB,hZ,dA,aE hp,af]at h2;subst h2;exact h_.q (k:=0) (y0:=.sl (nm id) (j.toNat*T.size) (ah xs-j.toNat)) hinv hc (λH _=>by simp only[dk,h1,h3,fC,hcond,bo]) (cL (by simp only[b7,bH,I,aB,hZ])) z
     .cases z
    .cases z
   .cases z
  .rename_i b b' hne;split at z
   .rename_i T xs k j k' j' hb hb';let⟨y2,h3,N⟩:=be hi hb;let⟨y3,h5,h6⟩:=be hi hb';simp only[b7,af]at h2 N h6;subst h2 N h6;split at z
    .rename_i A;have A:=au A;subst A;let⟨D,z⟩:=cB z;have hfl:=dN (bh T) xs;have hcond:(decide (j=j')&&cZ 0 j&&cZ j (ah xs)&&dc (ah xs*T.size) (l! (xs.flatMap (bP T))))=J:=by
      rw[D,dl];exact bf (by omega)
     simp only[cZ,al,bG]at D;have hlen:l! (xs.take j.toNat)=j.toNat:=by rw[bD];omega
     refine h_.q (k:=0) (y0:=.qh ((xs.flatMap (bP T)).take (j.toNat*T.size)) j.toNat) hinv hc (λH _=>?_) (cL (by simp only[b7];rw[uc (bh T),hlen])) z;simp only[dk,h1,h3,h5,fC,hcond,bo]
    .cases z
   .cases z
  .rename_i b b';split at z
   .rename_i T xs k j k' m hb hb';let⟨y2,h3,N⟩:=be hi hb;let⟨y3,h5,h6⟩:=be hi hb';simp only[b7,af]at h2 N h6;subst h2 N h6;split at z
    .rename_i A;have A:=au A;subst A;let⟨D,z⟩:=cB z;have hfl:=dN (bh T) xs;have hcond:(cZ 0 j&&cZ j m&&cZ m (ah xs)&&dc (ah xs*T.size) (l! (xs.flatMap (bP T))))=J:=by
      simp only[al]at D ⊢;exact⟨⟨⟨D.1,D.2.1⟩,D.2.2⟩,bf (by omega)⟩
     simp only[cZ,al,bG]at D;have hlen:l! ((xs.drop j.toNat).take (m.toNat-j.toNat))=m.toNat-j.toNat:=by rw[bD,gw];omega
     exact h_.q (k:=0) (y0:=.f (.sl (((xs.flatMap (bP T)).drop (j.toNat*T.size)).take ((m.toNat-j.toNat)*T.size)) (m.toNat-j.toNat))) hinv hc (λH _=>by simp only[dk,h1,h3,h5,fC,hcond,bo]) (cL (by simp only[b7,fC];rw[uc (bh T),xQ (bh T),hlen])) z
    .cases z
   .cases z
  .cases z
 .cases z
def atb (hc:cP P o.op=Z (.clr i A c)) (x:d_ X W (.op (.clr i A c)) e h nx K=Z r):h_ P o aa e h nx K r:=by
 let⟨H,hH⟩:=fW h;simp only[d_]at x;split at x
 .rename_i id j hv;split at x
  .rename_i ty p T xs I;split at x
   .rename_i z;simp only[al]at z;let⟨⟨z,hz⟩,hco⟩:=z;have z:=au z;have hz:=EM hz;subst z hz;let⟨hj,x⟩:=cB x;simp[cZ,fV,al,bG]at hj;let⟨y,h1,h2⟩:=be hi hv;simp[b7,bH,I,aB,hZ,af]at h2;subst h2;have hp:¬((p&&xs.length==0)=J):=by grind
    have fl:=dN (bh T) xs;have hg:H.get (nm id)=Z ⟨ty,.fz (xs.flatMap (bP T))⟩:=by rw[hH,bU,I];simp only[aB,jG,aE hp]
    have hrl:(repl (tm T) (xs.length-j.toNat)).length=(xs.length-j.toNat)*T.size:=by
     have h9:=(IG (H:=λ_=>U) (H':=λ_=>U) (λn b I=>by cases I) T (xs.length-j.toNat)).length;rw[bN,bN,dN (bh T),eL]at h9;exact h9.symm
    have hoff:j.toNat*T.size+(xs.length-j.toNat)*T.size=xs.length*T.size:=by rw[<- pe];congr 1;omega
    have hput:(BC.fz (xs.flatMap (bP T))).put (j.toNat*T.size) ((repl (tm T) (xs.length-j.toNat)).map .f)=Z (.fz (splice (xs.flatMap (bP T)) (j.toNat*T.size) (repl (tm T) (xs.length-j.toNat)))):=by
     unfold BC.put;rw[aR]
     .simp[LY]
     .simp only[al];refine ⟨⟨rfl,bf ?_⟩,HH _ λq N=>?_⟩
      .simp only[BC.len,bN];omega
      .obtain⟨v,hv,rfl⟩:=RN _ q N;exact dq.1 hco v hv
    have hblt:db 0 (xs.length-j.toNat)=J:=bf (by omega);have ha0:dk (.clr T.size (tm T) c) (Bk e h) H (nm nx)=Z ⟨.qb [],[nm id],[nm id],[(nm id,⟨ty,.fz (splice (xs.flatMap (bP T)) (j.toNat*T.size) (repl (tm T) (xs.length-j.toNat)))⟩)],[]⟩:=by
     simp[dk,h1,hg,hblt,bo,hput]
    have hlen:(ca j.toNat xs++aP (ah xs-j.toNat) T.zero).length=xs.length:=by grind
    have hrow:hZ (.F ty p T (ca j.toNat xs++aP (ah xs-j.toNat) T.zero))=hZ (.F ty p T xs):=by simp[hZ,hlen]
    refine ⟨_,_,_,_,_,x,eK.wrt (m:=0) (v:=.qb []) (rd:=fT id) hinv hc hH ha0 I (dH.zero h) (by simp) hrow (λ_ _ he=>by cases he) (λH1 H2 d g b' D=>?_) (λH1 H2 y d g hy=>?_) (λn hn=>?_)⟩
    .have hp2:¬((p&&(ca j.toNat xs++aP (ah xs-j.toNat) T.zero).length==0)=J):=by rw[hlen];exact hp
     simp only[jG,aE hp2,af]at D;subst D;refine fM.C rfl rfl ?_ λq N=>?_
     .simp only[BC.toMx];unfold splice;rw[hrl,hoff,<-fl,List.drop_length,dG,wg,uc (bh T),cf,cf];exact (gu.refl d _).append (IG d T _)
     .simp only[BC.toMx]at N;obtain⟨q',hq',rfl⟩:=bR.1 N;exact lq T _ q' hq'
    .simp[b7,cN,af]at hy;subst hy;exact ju.refl d _
    .simp[aA]at hn;subst hn;rw[dh];exact bq.2 rfl
   .cases x
  .cases x
 .cases x
end ops
def PA {V:Ty} {es:Y (T.den×V.den)} (c:mpE T V es=J):es.map (λp=>(pU T p.1,AV.f (fC V p.2)))=[]:=by
 unfold mpE at c;split at c
 .rfl
 .cases c
def adl {V:Ty} {es:Y (T.den×V.den)} (c:mpE T V es=J):V9 T=J:=by
 unfold mpE at c;split at c
 .rfl
 .cases c
def Yv (c:ZM b T=J):V9 T=J:=by
 cases T<;>cases b<;>first|rfl|cases c
def PH (q:ZM b T=J) (k c:T.den):vn .eql (pU T k) (pU T c)=Z (.bool (Qr T k c))/\wN b (pU T k)=J/\fC T k= .raw (pU T k):=by
 cases T<;>cases b<;>first|cases q|skip
 .exact⟨by simp[vn,pU,Qr,cz,bo,af,C7];exact Bool.beq_eq_decide_eq _ _,rfl,rfl⟩
 .exact⟨by simp[vn,pU,Qr,EL],rfl,rfl⟩
def JL {str:Bool} {K V:Ty} (q:ZM str K=J) (k:K.den):∀es:Y (K.den×V.den),rY (pU K k) (es.map λp=>(pU K p.1,AV.f (fC V p.2)))=Z ((tw k es).map λv=>AV.f (fC V v))
 |[]=>rfl
 |(c,v)::r=>by
  simp[b5,rY,(PH q k c).1,tw];cases z:Qr K k c with
  |true=>rfl
  |false=>simp[cg,eV];exact JL q k r
def Py {str:Bool} {K V:Ty} (q:ZM str K=J) (k:K.den) (v:V.den):∀es:Y (K.den×V.den),xD (pU K k) (.f (fC V v)) (es.map λp=>(pU K p.1,AV.f (fC V p.2)))=Z ((zQ k v es).map λp=>(pU K p.1,AV.f (fC V p.2)))
 |[]=>rfl
 |(c,z)::r=>by
  simp[b5,xD,(PH q k c).1,zQ];cases A:Qr K k c with
  |true=>rfl
  |false=>simp[Py q k v r,cg,eV,b5]
def ad6 {ok:Bool} (c:b7 h u=Z y):b7 h (pkT ok u (.f .bool b))=Z (pkV ok y b):=by
 cases ok with
 |false=>exact c
 |true=>simp[pkT,pkV,b7,cN,c];rfl
section ops
variable {R:Type} {P:Program} {o:Oper} {e:gM} {h:a_} {nx:Nat} {K:KO R} {r:R}
def Le.aggOf {l:Y FV} (z:∀x∈l,x.isCell=J):Le (.agg (l.map .f)) (.f (.agg l)):=by
 intro φ O w v q;cases q with
 |@agg _ vs D hcl hrr=>
  refine .f (.agg l vs (by grind) z λj y u A c=>?_);have:=hrr j (.f y) u (by grind) c;cases this with
  |f h=>exact h
def R3 (S:Ty) (l:Y TV):M (S.den×Nat×Y TV):=match l with
 |c::r=>(match gY PT.leaf S c with|some (x,m)=>Z (x,m,r)|none=>U)
 |[]=>U
def N2:∀{l l':Y FV},l.map AV.f=l'.map AV.f->l=l'
 |[],[],_=>rfl
 |[],_::_,h|_::_,[],h=>by simp at h
 |x::r,y::r',h=>by
  simp[b5,eF,AV.f.injEq]at h;rw[h.1,N2 h.2]
def Jt (h:a_):∀(ds:Y TypeDesc) (T:Ty),rE ds=Z T->∀(n:Nat) (l:Y TV) (x:T.den) (m:Nat) (r:Y TV),fh PT.leaf n T l=Z (x,m,r)->∀l',cN h l=Z l'->∃D,cN h r=Z D/\l'=(bP T x).map .f++D
 |[],T,hd,n,l,x,m,r,hp,l',hl=>by
  simp[rE,af]at hd;subst hd;cases n with
  |zero=>simp[fh]at hp
  |succ n=>
   obtain⟨_,_,rfl⟩:=hp;exact⟨l',hl,rfl⟩
 |d::ds,T,hd,n,l,x,m,r,hp,l',hl=>by
  have plain:∀(S:Ty),S.one=J->(∀t,S≠ .sl t)->∀(v:TV) (a:S.den) (m:Nat) (y:AV),gY PT.leaf S v=Z (a,m)->b7 h v=Z y->y= .f (fC S a):=by
   intro S N hns v a m y A hy;cases v with
   |f Q q=>
    simp[gY]at A;split at A
    next z hz=>obtain⟨rfl,_⟩:=A;obtain⟨e,rfl⟩:=gP hz;subst e;simp[b7,af]at hy;exact hy.symm
    .cases A
   |emp|nil=>
    cases S with
    |sl t=>exact bO rfl (hns t)
    |_=>simp[gY]at A
   |G id=>simp[gY,PT.get]at A
   |_=>simp[gY]at A
  have one:∀(S:Ty),S.one=J->(∀t,S≠ .sl t)->∀(n:Nat) (l:Y TV) (a:S.den) (m:Nat) (r:Y TV),fh PT.leaf n S l=Z (a,m,r)->∀l',cN h l=Z l'->∃D,cN h r=Z D/\l'=(bP S a).map .f++D:=by
   intro S N hns n l a m r hp l' hl;cases n with
   |zero=>simp[fh]at hp
   |succ n=>
    cases l with
    |nil=>
     cases S with
     |int k|bool|str=>cases hp
     |sl t=>exact bO rfl (hns t)
     |_=>cases N
    |cons c q=>
     have hpp:R3 S (c::q)=Z (a,m,r):=by
      cases S with
      |int k=>simp[fh]at hp;simp[R3];cases F:gY PT.leaf (.int k) c with
       |none=>rw[F]at hp;cases hp
       |some z=>rw[F]at hp;exact hp
      |bool=>simp[fh]at hp;simp[R3];cases F:gY PT.leaf .bool c with
       |none=>rw[F]at hp;cases hp
       |some z=>rw[F]at hp;exact hp
      |str=>simp[fh]at hp;simp[R3];cases F:gY PT.leaf .str c with
       |none=>rw[F]at hp;cases hp
       |some z=>rw[F]at hp;exact hp
      |sl t=>exact bO rfl (hns t)
      |_=>cases N
     simp[R3]at hpp;split at hpp
     next a1 m1 h1=>simp[af,aU]at hpp;obtain⟨rfl,rfl,rfl⟩:=hpp;obtain⟨y,D,rfl,g1,g2⟩:=cY hl;have:=plain S N hns c a1 m1 y h1 g1;subst this;exact⟨D,g2,by rw[(KP S a1 N).1];rfl⟩
     .cases hpp
  have two:∀(S g:Ty),S.one=J->(∀t,S≠ .sl t)->rE ds=Z g->T= .pr S g->∃D,cN h r=Z D/\l'=(bP T x).map .f++D:=by
   intro S g N hns I e;subst e;cases n with
   |zero=>simp[fh]at hp
   |succ n=>
    simp[fh]at hp;split at hp
    .rename_i x1 m1 r1 h1;split at hp
     next x2 m2 r2 h2=>simp[af,aU]at hp;obtain⟨rfl,rfl,rfl⟩:=hp;let⟨D,g1,g2⟩:=one S N hns n l x1 m1 r1 h1 l' hl;let⟨l3,g3,g4⟩:=Jt h ds g I n r1 x2 m2 r2 h2 D g1;exact⟨l3,g3,by rw[g2,g4,bP,cf,cr]⟩
     .cases hp
    .cases hp
  cases d with
  |int k=>
   simp[rE]at hd;split at hd
   next g I=>simp[af]at hd;exact two (.int k) g rfl (λt h=>by cases h) I hd.symm
   .cases hd
  |bool=>
   simp[rE]at hd;split at hd
   next g I=>simp[af]at hd;exact two .bool g rfl (λt h=>by cases h) I hd.symm
   .cases hd
  |string=>
   simp[rE]at hd;split at hd
   next g I=>simp[af]at hd;exact two .str g rfl (λt h=>by cases h) I hd.symm
   .cases hd
  |_=>simp[rE]at hd
def D6:∀(ds:Y TypeDesc) (T:Ty),rE ds=Z T->∀a b:T.den,iP ds (bP T a) (bP T b)=Z (Qr T a b)
 |[],T,hd,a,b=>by simp[rE,af]at hd;subst hd;rfl
 |d::ds,T,hd,a,b=>by
  cases d with
  |int k=>
   simp[rE]at hd;split at hd
   .rename_i g c;simp[af]at hd;subst hd;have q:=D6 ds g c a.2 b.2;simp[bP,fG,gW,iP,uS,cz,bo,Qr];cases he:((a.1:Int)==b.1) with
    |true=>have z:(a.1:Int)=b.1:=by simpa using he
           grind
    |false=>have z:¬(a.1:Int)=b.1:=by simpa using he
            grind
   .cases hd
  |bool=>
   simp[rE]at hd;split at hd
   .rename_i g c;simp[af]at hd;subst hd;have q:=D6 ds g c a.2 b.2;simp[bP,fG,gW,iP,uS,Qr]
    grind
   .cases hd
  |string=>
   simp[rE]at hd;split at hd
   .rename_i g c;simp[af]at hd;subst hd;have q:=D6 ds g c a.2 b.2;simp[bP,fG,gW,iP,uS,Qr,EL];cases he:decide ((a.1:ζ)=b.1) with
    |true=>simp[q,dl]
    |false=>simp[dY]
   .cases hd
  |_=>simp[rE]at hd
def OP (c:u.isC=aa) (D:u.cs=Z B) {ds:Y TypeDesc} (hd:rE ds=Z T) {a:T.den} (hp:fh PT.leaf 40 T B=Z (a,m,[])) (A:b7 h u=Z y):Le y (.f (.agg (bP T a))):=by
 let⟨h1,_⟩:=HE D A;let⟨l2,I,F⟩:=Jt h ds T hd 40 B a m [] hp _ h1;simp[cN,af]at I;subst I;rw[dG]at F;cases u with
 |agg l=>
  simp[b7]at A;split at A
  next l' _=>simp[af]at A;subst A;have:l'=(bP T a).map .f:=F;rw[this];exact Le.aggOf (ou T a)
  .cases A
 |f S x=>
  simp[b7,af]at A;subst A;have N:S.one=aa:=c;rw[Bm]at F;have:bP S x=bP T a:=N2 F;rw[qZ S x N,this];exact Le.refl _
 |qb l|undef|qv|qh S q=>simp[TV.cs,TV.isC]at D
 |zp id jj=>cases D
 |_=>cases c
variable (hinv:gC h nx) (hi:rz e h)
include hinv hi
variable {X:FuncId->M cu} {W:TypeId->M Ty}
def at9 {ds:Y TypeDesc} {y:Operand} {st:Bool} (hc:cP P o.op=Z (.jt b ds c y)) (D:d_ X W (.op (.jt b ds c y)) e h nx K=Z r):h_ P o st e h nx K r:=by
 let⟨H,hH⟩:=fW h;simp[d_]at D;split at D
 .rename_i T u v hd hu hv;split at D
  .cases D
  .rename_i hcc;simp[eX,not_or,mP]at hcc;split at D
   .rename_i lu lv hlu hlv;split at D
    .rename_i a m1 neg m2 hpa hpb;let⟨yu,h1,h2⟩:=be hi hu;let⟨yv,h3,h4⟩:=be hi hv;let⟨⟨⟨N,I⟩,hc3⟩,hc4⟩:=hcc;have l1:=OP N hlu hd hpa h2;have l2:=OP I hlv hd hpb h4;have tmp:∀(z:Operand) (q:TV),dy e z=Z q->q.isC=aa->Wh z=aa->∃t,z= .tmp t:=by
      intro z q A hq hg;cases z with
      |tmp t=>exact⟨t,rfl⟩
      |const x=>
       have A:cst x=Z q:=by
        simp[dy,anf]at A;split at A
        .cases hg
        .exact A
       have:=(Lr h A).2.2;rw[hq]at this;cases this
      |func g=>simp[dy,af]at A;subst A;cases hq
      |global g=>
       simp[dy]at A;split at A
       .cases A;cases hq
       .cases A
     obtain⟨t,rfl⟩:=tmp c u hu N hc3;obtain⟨t',rfl⟩:=tmp y v hv I hc4;have same:t=t'->bP T a=bP T neg:=by grind
     let F:ve:=((Bk e h).set t (Z (.f (.agg (bP T a))))).set t' (Z (.f (.agg (bP T neg))))
     have e1:kc F (.tmp t)=Z (.f (.agg (bP T a))):=by
      simp[kc,F,PT.get_set]
      grind
     have e2:kc F (.tmp t')=Z (.f (.agg (bP T neg))):=by simp[kc,F,PT.get_set,bo]
     have ha:dk (.jt b ds (.tmp t) (.tmp t')) F H 0=Z ⟨raw (.bool (Qr T a neg !=b)),[],[],[],[]⟩:=by
      simp[dk,e1,e2,D6 ds T hd a neg];rfl
     have ht:=Du hc ha;rw[hH]at ht;have ht2:ft P o (fB e h) (erHF h) _:=ht.envLe (e2:=fB e h) λs z _ A=>by
      simp[F,PT.get_set]at A;rw[<- Bj];simp[kc]at h1 h3;split at A
      .grind
      .split at A
       .grind
       .exact⟨z,A,Le.refl _⟩
     refine ⟨_,0,0,h,nx,D,⟨⟨_,ht2,λy hy=>?_,by simp[yf.eff,sk],by simp[yf.eff],by simp[yf.eff],by simp[yf.eff]⟩,λ_ _ h=>h,hinv,bL _,λ_=>⟨rfl,rfl⟩⟩⟩;simp[b7,af]at hy;exact hy
    .cases D
   .cases D
 .cases D
def asy (A:cP P o.op=Z .mkm) (z:d_ X W (.op .mkm) e h nx K=Z r):h_ P o aa e h nx K r:=by
 have _:=hi;let⟨H,D⟩:=fW h;refine ⟨_,_,_,_,_,z,eK.new hinv A D (y0:=.mp (nm nx)) (rdl:=[]) (b0:=⟨0,.mp []⟩) rfl (dH.zero h) (λ_ _ he=>by cases he) (λI F d g b' c=>?_) (λI F y d g q=>?_) (by simp)⟩
 .cases c;exact fM.refl d _
 .simp[b7,af]at q;subst q;exact ju.refl d _
def apd (N:cP P o.op=Z (.jk c)) (x:d_ X W (.op (.jk c)) e h nx K=Z r):h_ P o aa e h nx K r:=by
 let⟨H,A⟩:=fW h;simp[d_]at x;split at x
 .rename_i id F;split at x
  .rename_i K' V es hb;let⟨y,h1,D⟩:=be hi F;simp[b7,af]at D;subst D;split at x
   case isFalse=>cases x
   rename_i hO;have I:H.get (nm id)=Z ⟨0,.mp (es.map λp=>(pU K' p.1,.f (fC V p.2)))⟩:=by rw[A,bU,hb];show Z (jI.mk 0 (mpC K' V es))=_;rw[zR hO]
   exact⟨_,_,_,_,_,x,eK.pure (k:=0) hinv N A (y0:=raw (.int .i64 (l! es))) (rdl:=[nm id]) (by simp[dk,h1,I,bN]) (λy q=>by simp[b7,af]at q;subst q;exact Le.refl _) (λn z=>by simp[aA]at z;subst z;rw[dh];exact bq.2 rfl) nofun⟩
  .cases x
 .cases x
def at2 {ok:Bool} {k:Operand} (hc:cP P o.op=Z (.jb b ok v c k)) (x:d_ X W (.op (.jb b ok v c k)) e h nx K=Z r):h_ P o aa e h nx K r:=by
 let⟨H,I⟩:=fW h;simp only[d_]at x;split at x
 .rename_i id KT kv hv F;split at x
  .rename_i K' V es hb;split at x
   .rename_i A;let⟨y,h1,h2⟩:=be hi hv;let⟨y2,N,h4⟩:=be hi F;simp[b7,af]at h2 h4;subst h2 h4;simp[al]at A;have hg:H.get (nm id)=Z ⟨0,.mp (es.map λp=>(pU K' p.1,.f (fC V p.2)))⟩:=by rw[I,bU,hb];show Z (jI.mk 0 (mpC K' V es))=_;rw[zR A.2]
    let⟨_,hok,henc⟩:=PH A.1 kv kv;rw[henc]at N;have hrd:∀n∈[nm id],aC (fT id) (ow n)=J:=λn hn=>by simp[aA]at hn;subst hn;rw[dh];exact bq.2 rfl
    split at x
    .rename_i hE;split at x
     next z D=>have hzz:=(Lr h D).1;exact⟨_,_,_,_,_,x,eK.pure (k:=0) hinv hc I (y0:=pkV ok (raw v) aa) (rdl:=[nm id]) (by simp[dk,h1,N,hg,hok,bo,PA hE,rY]) (λy q=>by rw[ad6 hzz]at q;cases q;exact Le.refl _) hrd nofun⟩
     .cases x
    .split at x
     .rename_i kv' g zv hkv D;split at x
      .rename_i zv' hzv;let⟨e1,e2⟩:=gP hkv;cases e1;subst e2;let⟨e3,e4⟩:=gP hzv;cases e3;subst e4;have hzz:=(Lr h D).1;simp[b7,af]at hzz;refine ⟨_,_,_,_,_,x,eK.pure (k:=0) hinv hc I (y0:=pkV ok (.f (fC _ (yr kv' es zv'))) (ZL kv' es)) (rdl:=[nm id]) ?_ (λy q=>by rw[ad6 (y:=.f (fC _ (yr kv' es zv'))) rfl]at q;cases q;exact Le.refl _) hrd nofun⟩;simp[dk,h1,N,hg,hok,bo,JL A.1];unfold yr ZL;cases hf:tw kv' es with
       |none=>simp[Option.map_none];rw[hzz]
       |some z=>rfl
      .cases x
     .cases x
   .cases x
  .cases x
 .cases x
def asx {k v:Operand} (hc:cP P o.op=Z (.jf b c k v)) (x:d_ X W (.op (.jf b c k v)) e h nx K=Z r):h_ P o aa e h nx K r:=by
 let⟨H,hH⟩:=fW h;simp only[d_]at x;split at x
 .rename_i id KT D VT vv hv I F;split at x
  .rename_i K' V es N;split at x
   .rename_i z;simp[al]at z;let⟨y,h1,h2⟩:=be hi hv;let⟨y2,h3,h4⟩:=be hi I;let⟨y3,h5,h6⟩:=be hi F;simp[b7,af]at h2 h4 h6;subst h2 h4 h6;have hg:H.get (nm id)=Z ⟨0,.mp (es.map λp=>(pU K' p.1,.f (fC V p.2)))⟩:=by rw[hH,bU,N];show Z (jI.mk 0 (mpC K' V es))=_;rw[zR z.2]
    let⟨_,hok,henc⟩:=PH z.1.1 D D;rw[henc]at h3;have hrd:∀n∈[nm id],aC (fT id) (ow n)=J:=λn hn=>by simp[aA]at hn;subst hn;rw[dh];exact bq.2 rfl
    split at x
    next hE=>exact⟨_,_,_,_,_,x,eK.wrt (k:=0) (m:=0) (v:=.undef) (rd:=fT id) hinv hc hH (y0:=raw undef) (b0:=⟨0,.mp [(pU KT D,.f (fC VT vv))]⟩) (rdl:=[nm id]) (by simp[dk,h1,h3,h5,hg,hok,bo,PA hE,xD]) (B:=.mp KT VT [(D,vv)]) N (dH.zero h) (by simp) rfl (λty' l2 he=>by cases he) (λH1 H2 d g b' q=>by simp[jG,zR (Yv z.1.1),af]at q;subst q;exact fM.refl d _) (λH1 H2 y d g A=>by simp[b7,af]at A;subst A;exact ju.refl d _) hrd⟩
    .split at x
     next kv' vv' hkv hvv=>let⟨e1,e2⟩:=gP hkv;cases e1;subst e2;let⟨e3,e4⟩:=gP hvv;cases e3;subst e4;exact⟨_,_,_,_,_,x,eK.wrt (k:=0) (m:=0) (v:=.undef) (rd:=fT id) hinv hc hH (y0:=raw undef) (b0:=⟨0,.mp ((zQ kv' vv' es).map λp=>(pU _ p.1,.f (fC _ p.2)))⟩) (rdl:=[nm id]) (by simp[dk,h1,h3,h5,hg,hok,bo,Py z.1.1]) (B:=.mp _ _ (zQ kv' vv' es)) N (dH.zero h) (by simp) rfl (λty' l2 he=>by cases he) (λH1 H2 d g b' q=>by simp[jG,zR (Yv z.1.1),af]at q;subst q;exact fM.refl d _) (λH1 H2 y d g A=>by simp[b7,af]at A;subst A;exact ju.refl d _) hrd⟩
     .cases x
   .cases x
  .cases x
 .cases x
def asu (F:cP P o.op=Z (.rng c)) (x:d_ X W (.op (.rng c)) e h nx K=Z r):h_ P o aa e h nx K r:=by
 let⟨H,I⟩:=fW h;simp only[d_]at x;split at x
 .rename_i s D;let⟨y,h1,A⟩:=be hi D;simp[b7,af]at A;subst A;refine ⟨_,_,_,_,_,x,eK.new hinv F I (y0:=.H (nm nx) 0) (rdl:=[]) (b0:=⟨0,.it ⟨iO s⟩ 0⟩) (by simp[dk,h1];rfl) (dH.zero h) (λ_ _ he=>by cases he) (λH1 N d g b' q=>?_) (λH1 N y d g z=>?_) (by simp)⟩
  .cases q;exact fM.refl d _
  .simp[b7,af]at z;subst z;exact ju.refl d _
 .cases x
def asv (hc:cP P o.op=Z (.nxt c)) (x:d_ X W (.op (.nxt c)) e h nx K=Z r):h_ P o aa e h nx K r:=by
 let⟨H,F⟩:=fW h;simp only[d_]at x;split at x
 .rename_i id hv;split at x
  .rename_i K' V es D;split at x
   .rename_i s p hI;let⟨y,h1,h2⟩:=be hi hv;simp[b7,af]at h2;subst h2;have hg:H.get (nm id)=Z ⟨0,.it ⟨iO s⟩ p⟩:=by rw[F,bU,D];show Z (jI.mk 0 (mpC K' V es))=_;rw[amx hI]
    have hrd:∀n∈[nm id],aC (fT id) (ow n)=J:=λn hn=>by simp[aA]at hn;subst hn;rw[dh];exact bq.2 rfl
    rcases kK x with ⟨hp,x⟩|⟨hp,x⟩
    .have hp:=aW hp;have e2:(⟨iO s⟩:ByteArray).data.toList[p]? =Z (List.getD s p 0):=by grind
     exact⟨_,_,_,_,_,x,eK.wrt (k:=0) (m:=0) (rd:=fT id) hinv hc F (y0:=.qb [raw (.bool J),raw (.int .i64 p),raw (.int .i32 (rnP s p))]) (b0:=⟨0,.it ⟨iO s⟩ (p+wdP s p)⟩) (rdl:=[nm id]) (by simp only[dk,h1,hg,e2];rfl) (B:=.mp itK .un [((s,bC (p+wdP s p)),())]) D (dH.zero h) (by simp) rfl (λty' l2 he=>by cases he) (λN I d g b' z=>by cases z;exact fM.refl d _) (λN I y d g A=>by cases A;exact ju.refl d _) hrd⟩
    .have hp:l! s<=p:=Nat.not_lt.1 λq=>by rw[show db p (l! s)=J from bf q]at hp;cases hp
     have e2:(⟨iO s⟩:ByteArray).data.toList[p]? =U:=by grind
     exact⟨_,_,_,_,_,x,eK.wrt (k:=0) (m:=0) (rd:=fT id) hinv hc F (y0:=.qb [raw (.bool aa)]) (b0:=⟨0,.it ⟨iO s⟩ p⟩) (rdl:=[nm id]) (by simp[dk,h1,hg,e2]) (B:=.mp itK .un [((s,bC p),())]) D (dH.zero h) (by simp) rfl (λty' l2 he=>by cases he) (λN I d g b' z=>by cases z;exact fM.refl d _) (λN I y d g A=>by cases A;exact ju.refl d _) hrd⟩
   .cases x
  .cases x
 .cases x
def K_op {s:Np} (A:cP P o.op=Z s) (q:d_ X W (.op s) e h nx K=Z r):h_ P o s.still e h nx K r:=by
 cases s with
 |mv x=>exact K_mv hinv hi A q
 |pick c a b=>exact ap8 hinv hi A q
 |alloc ty z=>exact akr hinv hi A q
 |box ty x=>exact atd hinv hi A q
 |build z parts=>exact akq hinv hi A q
 |xz ty sz len z parts=>exact atc hinv hi A q
 |load sz D x=>exact apb hinv hi A q
 |store sz x v=>exact akn hinv hi A q
 |zr x=>exact ap9 hinv hi A q
 |bin op x y=>exact ate hinv hi A q
 |jt neg ds x y=>exact at9 hinv hi A q
 |xq neg x y=>exact ata hinv hi A q
 |zm neg x=>exact akp hinv hi A q
 |not x=>exact asw hinv hi A q
 |conv k x=>exact apg hinv hi A q
 |zf ty sz bytes z l c=>exact apa hinv hi A q
 |slc sz x F I mx=>exact ass hinv hi A q
 |jm off x=>exact at7 hinv hi A q
 |fld off sz D x=>exact at6 hinv hi A q
 |jp sz x i=>exact at5 hinv hi A q
 |idx n sz D x i=>exact at4 hinv hi A q
 |jv n sz x i=>exact ape hinv hi A q
 |ext x i=>exact at8 hinv hi A q
 |len x=>exact at3 hinv hi A q
 |lens x=>exact apc hinv hi A q
 |max x y=>exact at1 hinv hi A q
 |min x y=>exact at0 hinv hi A q
 |jx x i=>exact ap7 hinv hi A q
 |tos x=>exact asr hinv hi A q
 |sla n sz x F=>exact ast hinv hi A q
 |app ty sz bytes s x=>exact atf hinv hi A q
 |copy sz d x=>exact apf hinv hi A q
 |clr sz z x=>exact atb hinv hi A q
 |mkf f caps=>exact asz hinv hi A q
 |mkm=>exact asy hinv hi A q
 |rng x=>exact asu hinv hi A q
 |nxt x=>exact asv hinv hi A q
 |jk x=>exact apd hinv hi A q
 |jb str ok z x k=>exact at2 hinv hi A q
 |jf str x k v=>exact asx hinv hi A q
 |_=>simp[d_]at q
end ops
mutual
def AV.qx (g:Nat->Nat):AV->AV
 |.f x=>.f x
 |.H id off=>.H (g id) off
 |.sl id off n=>.sl (g id) off n
 |.G id sz n=>.G (g id) sz n
 |.mp id=>.mp (g id)
 |.emp=>.emp
 |.qv=>.qv
 |.qh l n=>.qh l n
 |.agg l=>.agg (AV.renL g l)
 |.qb l=>.qb (AV.renL g l)
 |.qy q l=>.qy q (AV.renL g l)
def AV.renL (g:Nat->Nat):Y AV->Y AV
 |[]=>[]
 |x::r=>x.qx g::AV.renL g r
end
def mV (g:Nat->Nat):∀l,AV.renL g l=l.map (AV.qx g)
 |[]=>rfl
 |x::r=>by rw[AV.renL,mV g r];rfl
def Dl (g:Nat->Nat) (x:AV):(x.qx g).isCell=x.isCell:=by cases x<;>rfl
variable {g:Nat->Nat}
def cm.renTo {φ':PM} (q:∀i k,V i=Z k->φ' (g i)=Z k) (h:cm V O w y v):cm φ' O w (y.qx g) v:=by
 induction h with
 |f h=>exact .f h
 |H h=>exact .H (q _ _ h)
 |sl h z A=>exact .sl (q _ _ h) z A
 |G h z A hsh=>exact .G (q _ _ h) z A hsh
 |emp=>exact .emp
 |qv=>exact .qv
 |qh h=>exact .qh h
 |mp h=>exact .mp (q _ _ h)
 |agg N hcl I D=>
  simp[AV.qx,mV];refine .agg (by grind) (λy c=>?_) λj y v c F=>?_
  .obtain⟨x,hy,rfl⟩:=bR.1 c;rw[Dl];exact hcl x hy
  .grind
 |qb N I D=>
  simp[AV.qx,mV];refine .qb (by grind) λj y v c F=>?_
  grind
 |qy N I D=>
  simp[AV.qx,mV];refine .qy (by grind) λj y v c F=>?_
  grind
def cm.renFrom {φ':PM} (I:∀i k,p i=J->V (g i)=Z k->φ' i=Z k) (h:cm V O w y v):∀x:AV,x.all p=J->y=x.qx g->cm φ' O w x v:=by
 induction h with
 |f h=>intro x hp e;cases x<;>simp[AV.qx,reduceCtorEq]at e;cases e;exact .f h
 |H h=>intro x hp e;cases x<;>simp only[AV.qx,reduceCtorEq]at e;cases e;exact .H (I _ _ hp h)
 |sl h N hc=>intro x hp e;cases x<;>simp only[AV.qx,reduceCtorEq]at e;cases e;exact .sl (I _ _ hp h) N hc
 |G h N hc hsh=>intro x hp e;cases x<;>simp only[AV.qx,reduceCtorEq]at e;cases e;exact .G (I _ _ hp h) N hc hsh
 |emp=>intro x hp e;cases x<;>simp[AV.qx,reduceCtorEq]at e;exact .emp
 |qv=>intro x hp e;cases x<;>simp[AV.qx,reduceCtorEq]at e;exact .qv
 |qh h=>intro x hp e;cases x<;>simp only[AV.qx,reduceCtorEq]at e;cases e;exact .qh h
 |mp h=>intro x hp e;cases x<;>simp[AV.qx,reduceCtorEq]at e;cases e;exact .mp (I _ _ hp h)
 |agg F hcl D c=>
  intro x hp e;cases x<;>simp[AV.qx,reduceCtorEq]at e;cases e;rw[mV]at F hcl D c;refine .agg (by grind) (λx q=>?_) λj x v q A=>?_
  .have:=hcl (x.qx g) (bR.2 ⟨x,q,rfl⟩);rwa [Dl]at this
  .exact c j (x.qx g) v (by grind) A x (mg hp x (bd q)) rfl
 |qb F D c=>
  intro x hp e;cases x<;>simp[AV.qx,reduceCtorEq]at e;cases e;rw[mV]at F D c;refine .qb (by grind) λj x v q A=>?_
  exact c j (x.qx g) v (by grind) A x (mg hp x (bd q)) rfl
 |qy F D c=>
  intro x hp e;cases x<;>simp only[AV.qx,reduceCtorEq]at e;cases e;rw[mV]at F D c;refine .qy (by grind) λj x v q A=>?_
  exact c j (x.qx g) v (by grind) A x (mg hp x (bd q)) rfl
def BC.qx (g:Nat->Nat):BC->BC
 |.fz l=>.fz l
 |.mx l=>.mx (l.map (AV.qx g))
 |.mp es=>.mp (es.map λp=>(p.1,p.2.qx g))
 |.it s p=>.it s p
def jI.qx (g:Nat->Nat) (b:jI):jI:=⟨b.ty,b.c.qx g⟩
def gQ.renTo {φ':PM} {O':Nat->Prop} (F:∀x v,cm V O w x v->cm φ' O' w (x.qx g) v) {o:Obj} (h:gQ V O w z o):gQ φ' O' w (z.qx g) o:=by
 let⟨ty,c⟩:=z;simp[jI.qx];cases c with
 |fz l=>
  let⟨arr,h1,A,D⟩:=h;refine ⟨arr,h1,A,λj x b=>?_⟩;let⟨a,v,c,d⟩:=D j x b;obtain⟨q,_,rfl⟩:=fY.1 b;exact⟨a,v,c,F _ _ d⟩
 |mx l=>
  simp[BC.qx];let⟨arr,h1,A,D⟩:=h;refine ⟨arr,h1,by simpa[BC.len] using A,λj x b=>?_⟩;simp only[BC.get,bM]at b;obtain⟨q,I,rfl⟩:=fY.1 b;let⟨a,v,c,d⟩:=D j q I;exact⟨by rw[Dl];exact a,v,c,F _ _ d⟩
 |mp es=>
  let⟨e,c,h1,A,D⟩:=h;refine ⟨e,c,h1,by rw[Zl];exact A,λj x b=>?_⟩
  grind
 |it s p=>exact h
def gQ.renFrom {φ':PM} {O':Nat->Prop} (F:∀x v,x.all p=J->cm V O w (x.qx g) v->cm φ' O' w x v) (I:z.c.all p=J) {o:Obj} (h:gQ V O w (z.qx g) o):gQ φ' O' w z o:=by
 let⟨ty,c⟩:=z;simp[jI.qx]at h;cases c with
 |fz l=>
  let⟨arr,h1,A,D⟩:=h;refine ⟨arr,h1,A,λj x b=>?_⟩;let⟨a,v,c,d⟩:=D j x b;obtain⟨q,_,rfl⟩:=fY.1 b;exact⟨a,v,c,F _ _ rfl d⟩
 |mx l=>
  simp[BC.qx]at h;let⟨arr,h1,A,D⟩:=h;refine ⟨arr,h1,by simpa[BC.len] using A,λj x b=>?_⟩;simp[BC.get]at b;let⟨a,v,c,d⟩:=D j (x.qx g) (by simp only[BC.get,bM,b];rfl);rw[Dl]at a;exact⟨a,v,c,F _ _ (mg I x (bd b)) d⟩
 |mp es=>
  let⟨e,c,h1,A,D⟩:=h;refine ⟨e,c,h1,by rw[Zl]at A;exact A,λj x b=>?_⟩;let⟨m,a,z⟩:=D j (x.1,x.2.qx g) (by grind);exact⟨m,a,F _ _ (mg I x.2 (bR.2 ⟨x,bd b,rfl⟩)) z⟩
 |it s p=>exact h
mutual
def zK (g:Nat->Nat):TV->TV
 |.G i=>.G (g i)
 |.zp i j=>.zp (g i) j
 |.agg l=>.agg (kq g l)
 |.qb l=>.qb (kq g l)
 |.qy q l=>.qy q (kq g l)
 |.f T v=>.f T v
 |.zw T xs j h off=>.zw T xs j h off
 |.qr a b c d=>.qr (g a) b c d
 |.H a b=>.H (g a) b
 |.qk a b c=>.qk (g a) b c
 |.emp=>.emp
 |.nil=>.nil
 |.mp i=>.mp (g i)
 |.undef=>.undef
 |.np=>.np
 |.qv=>.qv
 |.qh T xs=>.qh T xs
 |.sb s=>.sb (s.to (g s.id))
def kq (g:Nat->Nat):Y TV->Y TV
 |[]=>[]
 |x::r=>zK g x::kq g r
end
def t8 (g:Nat->Nat):∀l,kq g l=l.map (zK g)
 |[]=>rfl
 |x::r=>by rw[kq,t8 g r];rfl
def kg (g:Nat->Nat):eC->eC
 |.C ty l=>.C ty (kq g l)
 |.F ty p T xs=>.F ty p T xs
 |.qj p sz n=>.qj p sz n
 |.mp K V es=>.mp K V es
 |.qw F a x=>.qw F (F.aid (g a)) x
 |.qm F a x k p=>.qm F (F.aid (g a)) x k (p.map λq=>(g q.1,q.2))
def Jj (g:Nat->Nat) (b:eC):hZ (kg g b)=hZ b:=by cases b<;>rfl
def oL (g:Nat->Nat) (n:Nat):Nat:=iM (g (ow n)) (ix n)
def Bh (g:Nat->Nat) (i k:Nat):oL g (iM i k)=iM (g i) k:=by unfold oL;rw[im,uH]
def Ag (g:Nat->Nat) (i:Nat):oL g (nm i)=nm (g i):=Bh g i 0
def IZ (g:Nat->Nat) (i:Nat) (j:Int):oL g (oP i j)=oP (g i) j:=Bh g i _
def vV (g:Nat->Nat) (n:Nat):ow (oL g n)=g (ow n):=im _ _
def xI (g:Nat->Nat) (n:Nat):ix (oL g n)=ix n:=uH _ _
def RK (g:Nat->Nat) (id j sz n:Nat):(sZ id j sz n).qx (oL g)=sZ (g id) j sz n:=by
 unfold sZ;split
 .rfl
 .simp[AV.qx,Bh]
def aiy (g:Nat->Nat) (s:Sb):Ib (s.to (g s.id))=(Ib s).qx (oL g):=by
 cases s with
 |nr id j sz n=>simp[Sb.to,Sb.id,Ib,RK]
 |_=>simp[Sb.to,Sb.id,Ib,AV.qx,IZ,Bh]
mutual
def ana {g:Nat->Nat} {h1 h2:a_} (hrow:∀i r,ep h1 i=Z r->ep h2 (g i)=Z r):∀(v:TV) (y:AV),b7 h1 v=Z y->b7 h2 (zK g v)=Z (y.qx (oL g))
 |.f _ _,y,he|.zw _ _ _ _ _,y,he=>by simp[b7,af]at he;subst he;rfl
 |.qr _ _ _ _,y,he|.H _ _,y,he|.qk _ _ _,y,he=>by simp[b7,af]at he;subst he;simp[zK,b7,AV.qx,Ag]
 |.G id,y,he=>by
  simp[b7]at he;split at he
  .rename_i p sz n hr;simp[af]at he;subst he;simp[zK,b7,hrow id _ hr];unfold dA;split
   .rfl
   .simp[AV.qx,Ag]
  .cases he
 |.zp id jj,y,he=>by
  simp[b7]at he;split at he
  .rename_i p sz n hr;simp[af]at he;subst he;simp[zK,b7,hrow id _ hr,AV.qx,Ag]
  .cases he
 |.emp,y,he|.nil,y,he=>by simp[b7,af]at he;subst he;rfl
 |.mp _,y,he=>by simp[b7,af]at he;subst he;simp[zK,b7,AV.qx,Ag]
 |.agg l,y,he|.qb l,y,he|.qy q l,y,he=>by
  simp[b7]at he;split at he
  .rename_i l' hl;simp[af]at he;subst he;simp[zK,b7,pt hrow l l' hl,AV.qx]
  .cases he
 |.undef,y,he|.np,y,he|.qv,y,he|.qh _ _,y,he=>by simp[b7,af]at he;subst he;rfl
 |.sb s,y,he=>by simp[b7,af]at he;subst he;simp[zK,b7,aiy]
def pt {g:Nat->Nat} {h1 h2:a_} (hrow:∀i r,ep h1 i=Z r->ep h2 (g i)=Z r):∀(l:Y TV) (l':Y AV),cN h1 l=Z l'->cN h2 (kq g l)=Z (AV.renL (oL g) l')
 |[],l',he=>by simp[cN,af]at he;subst he;rfl
 |x::r,l',he=>by
  obtain⟨y,l2,rfl,e1,e2⟩:=cY he;exact pu (ana hrow x y e1) (pt hrow r l2 e2)
end
def TA (g:Nat->Nat) (a:Nat) (es:Y r?):(vk a es).map (λp=>(p.1,p.2.qx (oL g)))=vk (g a) es:=by
 unfold vk;rw[ic];refine List.map_congr_left λe _=>?_
 simp[Function.comp,AV.qx,IZ]
def Tz (g:Nat->Nat) (a:Nat) (k:ν) (v:AV):∀es:Y r?,(KH a k v es).map (λp=>(p.1,p.2.qx (oL g)))=KH (g a) k (v.qx (oL g)) es
 |[]=>rfl
 |e::r=>by
  simp[KH];split
  .rw[b5,TA]
  .rw[b5,Tz g a k v r];simp[AV.qx,IZ]
def E7 (g:Nat->Nat) (a sz:Nat):∀(c:η) (k:Nat),(kO a sz k c).map (AV.qx (oL g))=kO (g a) sz k c
 |[],_=>rfl
 |l::r,k=>by simp[kO,b5,RK,E7 g a sz r (k+1)]
def ZA (g:Nat->Nat) (p:Bool) (id sz n:Nat):(dA p id sz n).qx (oL g)=dA p (g id) sz n:=by
 unfold dA;split
 .rfl
 .simp[AV.qx,Ag]
def ad4 (g:Nat->Nat) (a:Nat) (c:η):(c.map λj=>AV.H (oP a j) 0).map (AV.qx (oL g))=c.map λj=>.H (oP (g a) j) 0:=by
 rw[ic];refine List.map_congr_left λj _=>?_
 simp[Function.comp,AV.qx,IZ]
def Tq (g:Nat->Nat) (a:Nat) (F:sU) (x:F.ty.den):sL (F.aid (g a)) F x=(sL a F x).map (jI.qx (oL g)):=by
 cases F with
 |zk ty=>
  simp[sL,sU.aid];split
  .rfl
  .exact (iQ (λz=>Z (jI.mk ty (.mx z))) (ad4 g a x)).symm
 |zg=>exact (iQ (λz=>Z (jI.mk 0 (.mp z))) (TA g a x)).symm
 |rr ty sz=>exact (iQ (λz=>Z (jI.mk ty (.mx z))) (E7 g a sz x 0)).symm
 |_=>rfl
def Z_ (g:Nat->Nat) (a:Nat) (k:ν) (F:sU) (x:F.ty.den) (p:M (Nat×Bool×Nat)):YQ (F.aid (g a)) k F x (p.map λq=>(g q.1,q.2))=(YQ a k F x p).map (jI.qx (oL g)):=by
 cases F with
 |zg=>
  cases p with
  |none=>rfl
  |some q=>
   have:=Tz g a k (.H (nm q.1) 0) x;simp[AV.qx,Ag]at this;exact (iQ (λz=>Z (jI.mk 0 (.mp z))) this).symm
 |rr ty sz=>
  cases p with
  |none=>rfl
  |some q=>
   have:=E7 g a sz x 0;simp[YQ,sU.aid,bw,jI.qx,BC.qx,List.map_set,ZA]
   grind
 |_=>rfl
def aa0 (g:Nat->Nat) (k:Nat) (ty:TypeId) (T:Ty) (xss:Y (Y T.den)):pW k ty T xss=(pW k ty T xss).map (jI.qx (oL g)):=by
 unfold pW;cases xss[k]? with
 |none=>rfl
 |some xs=>
  simp[aB,WP];split<;>rfl
def aa1 (g:Nat->Nat) (i k:Nat) (ty:TypeId) (S:Ty) (xs:Y (AM S)):pX (g i) k ty S xs=(pX i k ty S xs).map (jI.qx (oL g)):=by
 unfold pX;rw[Option.map_map];congr 1;funext o;simp[Function.comp,uR];split
 .simp only[jI.qx,BC.qx,cf,ic,b5,kV,AV.qx,Bh];rfl
 .simp only[jI.qx,BC.qx,Fh,ic];rfl
def Kz (g:Nat->Nat) (i k:Nat) (F:sU) (x:F.ty.den):Ia (g i) k F x=(Ia i k F x).map (jI.qx (oL g)):=by
 cases F with
 |ar ty S=>
  exact aa1 g i k ty S x
 |ir ty T=>
  exact aa0 g k ty T x
 |_=>rfl
def R8 (g:Nat->Nat) (i k:Nat) (b:eC):vh (g i) k (kg g b)=(vh i k b).map (jI.qx (oL g)):=by
 cases b with
 |qw F a x=>exact Kz g i k F x
 |qm F a x j p=>
  cases p with
  |none=>
   simp[kg,vh,Option.map_none];split
   .rfl
   .exact Kz g i k F x
  |some q=>exact Kz g i k F x
 |_=>rfl
def aj1 {q:a_} (hrow:∀i r,ep h i=Z r->ep q (g i)=Z r) {b:eC} (he:jG h b=Z z):jG q (kg g b)=Z (z.qx (oL g)):=by
 cases b with
 |F ty p T xs=>
  simp only[jG]at he;split at he
  .cases he
  next y=>simp[af]at he;subst he;simp only[kg,jG,aE y];rfl
 |C ty l=>
  cases ty with
  |some ty=>
   simp[jG]at he;split at he
   next l' c=>simp[af]at he;subst he;simp[kg,jG,pt hrow l l' c,mV];rfl
   .cases he
  |none=>
   simp[jG]at he;split at he
   next l' c=>simp[af]at he;subst he;simp[kg,jG,pt hrow l l' c,mV,jI.qx,BC.qx]
   .cases he
 |qj p sz n=>cases he
 |mp K V es=>
  simp[jG,af]at he;subst he;simp[kg,jG,jI.qx,af,jI.mk.injEq,true_and];unfold mpC;split
  .rfl
  .simp only[BC.qx,ic];rfl
 |qw F a x=>
  simp[jG]at he;simp[kg,jG,Tq,he,bw]
 |qm F a x k p=>
  simp[jG]at he;simp[kg,jG,Z_,he,bw]
def Bi {c:a_} (hrow:∀i r,ep h i=Z r->ep c (g i)=Z r) {b:eC} :∀{k:Nat},Mn h i k b=Z z->Mn c (g i) k (kg g b)=Z (z.qx (oL g))
 |0,he=>aj1 hrow he
 |k+1,he=>by
  simp[Mn]at he ⊢;rw[R8,he];rfl
def Dm (g:Nat->Nat) (a b:Y TV):kq g (a++b)=kq g a++kq g b:=by
 rw[t8,t8,t8,cf]
def p_ (g:Nat->Nat):∀(n:Nat) (T:Ty) (v:T.den) (l:Y TV),cellsOf n T v=Z l->kq g l=l
 |0,_,_,_,he=>by simp[cellsOf]at he
 |n+1,.st t,v,l,he=>p_ g n t v l he
 |n+1,.pr a b,v,l,he=>by
  simp[cellsOf]at he;split at he
  next x y q c=>simp[af]at he;subst he;rw[Dm,p_ g n a v.1 x q,p_ g n b v.2 y c]
  .cases he
 |n+1,.un,v,l,he=>by simp[cellsOf,af]at he;subst he;rfl
 |n+1,.ex,v,l,he=>p_ g n Of (O9 v) l he
 |n+1,.sm,v,l,he=>p_ g n NJ (O8 v) l he
 |n+1,.int k,v,l,he|n+1,.bool,v,l,he|n+1,.str,v,l,he|n+1,.sl t,v,l,he=>by simp[cellsOf,af]at he;subst he;rfl
abbrev IV:Nat->Nat:=λi=>i
mutual
def ad1 (g:Nat->Nat):∀(p:PV) (x:p.ty.den),mA g p x=(mA IV p x).map (kq g)
 |.d T,x=>by
  simp only[mA];cases h:cellsOf 40 T x with
  |none=>rfl
  |some l=>simp only[bw,p_ g 40 T x l h]
 |.H i o,x|.qk i o z,x=>rfl
 |.qy q ps,x=>by simp only[mA,bw,kq,zK,t8,ic];rfl
 |.ob i o,x|.nr i s,x|.G i,x|.mp i,x|.nil,x|.emp,x=>rfl
 |.agg ps,x=>AZ g ps x
def AZ (g:Nat->Nat):∀(ps:Y PV) (x:(PV.tyL ps).den),rA g ps x=(rA IV ps x).map (kq g)
 |[],x=>rfl
 |p::r,x=>by
  simp only[rA];rw[ad1 g p,AZ g r];cases mA IV p (Qk p.ty (PV.tyL r) x) with
  |none=>rfl
  |some a=>
   cases rA IV r (Pf p.ty (PV.tyL r) x) with
   |none=>rfl
   |some b=>simp only[bw,Dm]
end
def ann (o:M (Y TV)):M TV:=match o with|some l=>Z (.agg l)|none=>U
def afr (g:Nat->Nat) (o:M (Y TV)):ann (o.map (kq g))=(ann o).map (zK g):=by cases o<;>rfl
def ad0 (g:Nat->Nat) (p:PV) (x:p.ty.den):qo g p x=(qo IV p x).map (zK g):=by
 cases p with
 |agg c=>exact (iQ ann (AZ g c x)).trans (afr g _)
 |qy q c=>simp only[qo,bw,zK,t8,ic];rfl
 |_=>rfl
def t_ (g:Nat->Nat):∀(c:Y PV) (x:(PV.tyL c).den),oO g c x=(oO IV c x).map (kq g)
 |[],x=>rfl
 |p::r,x=>by
  simp[oO];rw[ad0 g p,t_ g r];cases qo IV p (Qk p.ty (PV.tyL r) x) with
  |none=>rfl
  |some a=>
   cases oO IV r (Pf p.ty (PV.tyL r) x) with
   |_=>rfl
def XI (ty:M TypeId) (o:M (Y TV)):M (M eC):=match o with|some l=>Z (Z (.C ty l))|none=>U
def XH (g:Nat->Nat) (ty:M TypeId) (o:M (Y TV)):XI ty (o.map (kq g))=(XI ty o).map (gS (kg g)):=by cases o<;>rfl
def ad2 (g:Nat->Nat) (b:PB) (x:b.ty.den):Bs g b x=(Bs IV b x).map (gS (kg g)):=by
 cases b with
 |C ty c=>exact (iQ (XI ty) (AZ g c x)).trans (XH g ty _)
 |qw F a=>cases F<;>rfl
 |_=>rfl
def wx (g:Nat->Nat):∀(bs:Y PB) (x:(PB.tyL bs).den),pM g bs x=(pM IV bs x).map (gD (gS (kg g)))
 |[],x=>rfl
 |b::r,x=>by
  simp[pM];rw[ad2 g b,wx g r];cases Bs IV b (Qk b.ty (PB.tyL r) x) with
  |none=>rfl
  |some a=>grind
def Dp (g:Nat->Nat):∀(bs:Y PB) (x:(PB.tyL bs).den) (l:Y (M eC)),pM g bs x=Z l->l! l=l! bs
 |[],x,l,h=>by simp[pM,af]at h;subst h;rfl
 |b::r,x,l,h=>by
  simp[pM]at h;split at h
  .split at h
   next q c=>simp[af]at h;subst h;simp[Dp g r _ q c]
   .cases h
  .cases h
def Kn (h:a_) (i j:Nat):(kill h i).get j=if j=i then (h.get i).map tA else h.get j:=by
 unfold kill;cases c:h.get i with
 |none=>grind
 |some b=>rw[PT.get_set];rfl
def vE (g:Nat->Nat):∀(l:Y (M eC)) (i:Nat) (h:a_) (j:Nat),(∀k,k<l! l->j≠g (i+k))->(Bv g i l h).get j=h.get j
 |[],i,h,j,_=>rfl
 |some c::r,i,h,j,q=>by
  rw[Bv,vE g r (i+1) _ j (λk z=>by have:=q (k+1) (by grind);rwa [show i+1+k=i+(k+1) from by omega]),PT.get_set,aE];exact q 0 (by simp)
 |none::r,i,h,j,q=>by
  rw[Bv,vE g r (i+1) _ j (λk z=>by have:=q (k+1) (by grind);rwa [show i+1+k=i+(k+1) from by omega]),Kn,aE];exact q 0 (by simp)
def vF (g:Nat->Nat):∀(l:Y (M eC)) (i:Nat) (h:a_),(∀a b,a<l! l->b<l! l->g (i+a)=g (i+b)->a=b)->∀(k:Nat) (c:M eC),l[k]? =Z c->(Bv g i l h).get (g (i+k))=(match c with|some b=>Z b|none=>(h.get (g (i+k))).map tA)
 |[],i,h,_,k,c,z=>by simp at z
 |o::r,i,h,hinj,k,c,z=>by
  have hinj':∀a b,a<l! r->b<l! r->g (i+1+a)=g (i+1+b)->a=b:=λa b D A e=>by
   have:=hinj (a+1) (b+1) (by grind) (by grind) (by grind);omega
  cases k with
  |zero=>
   simp at z;subst z;have hne:∀k,k<l! r->g (i+0)≠g (i+1+k):=λk z e=>by
    have:=hinj 0 (k+1) (by simp) (by grind) (by grind);omega
   cases o with
   |some b=>rw[Bv,vE g r (i+1) _ _ hne];simp[dQ];rw[PT.get_set,aR rfl]
   |none=>rw[Bv,vE g r (i+1) _ _ hne];simp[dQ];rw[Kn,aR rfl]
  |succ k=>
   have q:r[k]? =Z c:=by grind
   have hne:g (i+(k+1))≠g i:=λe=>by
    have:=hinj (k+1) 0 (by grind) (by simp) (by omega);omega
   rw[show i+(k+1)=i+1+k from by omega]at hne ⊢;cases o with
   |some b=>
    rw[Bv,vF g r (i+1) _ hinj' k c q];cases c with
    |some _=>rfl
    |none=>simp[PT.get_set,aE hne]
   |none=>
    rw[Bv,vF g r (i+1) _ hinj' k c q];cases c with
    |some _=>rfl
    |none=>simp[Kn,aE hne]
def yd (h' h:a_):Prop:=∀i r,ep h' i=Z r->ep h i=Z r
section get
variable {h h':a_} {H H':HF} {g:Nat->Nat}
def ju.agg {l':Y AV} (c:gu H H' N l') (F:∀x∈l',x.isCell=J):ju H H' (.agg N) (.agg l'):=by
 intro φ E w v hrep D;cases D with
 |@agg _ vs hlen hcl hrr=>
  refine .agg (by rw[hlen,<-c.length]) F λj y u q A=>?_
  let⟨x,z,hle⟩:=c.get j y q;exact hle φ E w u hrep (hrr j x u z A)
def RJ (A:yd h' h) {q:AV} (z:b7 h (.G i)=Z y) (c:b7 h' (.G i)=Z q):q=y:=by
 simp[b7]at z c;cases h1:ep h' i with
 |none=>rw[h1]at c;cases c
 |some r=>
  rw[A i r h1]at z
  grind
def Jq {g:Nat->Nat}:∀{c:Y n!} {vs:Y TV},Jr g c vs=J->vs=c.map λp=>.H (g p.1) p.2
 |[],[],_=>rfl
 |[],_::_,h|_::_,[],h=>by simp[Jr]at h
 |(i,o)::r,v::vs,h=>by
  cases v with
  |H z q=>
   simp only[Jr,al]at h;rw[b5,<-Jq h.2,au h.1.1,au h.1.2]
  |_=>simp[Jr]at h
def IJ (h:a_) (g:Nat->Nat):∀c:Y n!,cN h (c.map λp=>.H (g p.1) p.2)=Z (c.map λp=>.H (nm (g p.1)) p.2)
 |[]=>rfl
 |p::r=>by simp[b5,cN,b7,IJ h g r]
mutual
def aii (d:qe H H') (hr:yd h' h):∀(p:PV) (l:Y TV) (x:p.ty.den) (m:Nat) (r:Y TV) (cs:Y TV) (l' cs':Y AV),lS g h p l=Z (x,m,r)->mA g p x=Z cs->cN h l=Z l'->cN h' cs=Z cs'->C4 h H H' m->∃l1 l2,l'=l1++l2/\cN h r=Z l2/\gu H H' l1 cs'
 |.d T,l,x,m,r,cs,l',cs',hg,hp,hl,hc,gv=>by
  obtain⟨l1,l2,e1,e2,e3⟩:=qA d 40 T l x m r l' hg hl gv;have:=(lU h' 40 T x cs hp).1;rw[hc]at this;cases this;exact⟨l1,l2,e1,e2,e3⟩
 |.H i q,l,x,m,r,cs,l',cs',hg,hp,hl,hc,gv=>by
  simp only[lS]at hg;split at hg
  .rename_i i' o' r';split at hg
   .rename_i hb;simp only[al]at hb;have e1:=au hb.1;have e2:=au hb.2;subst e1 e2;simp only[af,aU]at hg;obtain⟨_,_,rfl⟩:=hg;simp only[mA,af]at hp;subst hp;obtain⟨y,l2,rfl,g1,g2⟩:=cY hl;simp only[b7,af]at g1;subst g1;simp only[cN,b7,af]at hc;subst hc;exact⟨[_],l2,rfl,g2,ju.refl d _,trivial⟩
   .cases hg
  .cases hg
 |.qk i q z,l,x,m,r,cs,l',cs',hg,hp,hl,hc,gv=>by
  simp only[lS]at hg;split at hg
  .rename_i i' o' z' r';split at hg
   .rename_i hb;simp only[al]at hb;have e1:=au hb.1.1;have e2:=au hb.1.2;have e3:=au hb.2;subst e1 e2 e3;simp only[af,aU]at hg;obtain⟨_,_,rfl⟩:=hg;simp only[mA,af]at hp;subst hp;obtain⟨y,l2,rfl,g1,g2⟩:=cY hl;simp only[b7,af]at g1;subst g1;simp only[cN,b7,af]at hc;subst hc;exact⟨[_],l2,rfl,g2,ju.refl d _,trivial⟩
   .cases hg
  .cases hg
 |.qy q ps,l,x,m,r,cs,l',cs',hg,hp,hl,hc,gv=>by
  simp only[lS]at hg;split at hg
  .rename_i q' vs r';split at hg
   .rename_i hb;simp only[al]at hb;have e1:=au hb.1;have e2:=Jq hb.2;subst e1 e2;simp only[af,aU]at hg;obtain⟨_,_,rfl⟩:=hg;simp only[mA,af]at hp;subst hp;obtain⟨y,l2,rfl,g1,g2⟩:=cY hl;simp only[b7,IJ,af]at g1;subst g1;simp only[cN,b7,IJ,af]at hc;subst hc;exact⟨[_],l2,rfl,g2,ju.refl d _,trivial⟩
   .cases hg
  .cases hg
 |.ob i q,l,x,m,r,cs,l',cs',hg,hp,hl,hc,gv=>by
  simp only[lS]at hg;split at hg
  .rename_i i' j' o' r';split at hg
   .rename_i hb;simp only[al]at hb;have e1:=au hb.1;have e2:=au hb.2;subst e1 e2;simp only[af,aU]at hg;obtain⟨rfl,_,rfl⟩:=hg;simp only[mA,af]at hp;subst hp;obtain⟨y,l2,rfl,g1,g2⟩:=cY hl;simp only[b7,af]at g1;subst g1;simp only[cN,b7,af]at hc;subst hc;exact⟨[_],l2,rfl,g2,ju.refl d _,trivial⟩
   .cases hg
  .cases hg
 |.nr i q,l,x,m,r,cs,l',cs',hg,hp,hl,hc,gv=>by
  simp only[lS]at hg;split at hg
  .rename_i i' j' o' n' r';split at hg
   .rename_i hb;simp only[al]at hb;have e1:=au hb.1;have e2:=au hb.2;subst e1 e2;simp only[af,aU]at hg;obtain⟨rfl,_,rfl⟩:=hg;simp only[mA,af]at hp;subst hp;obtain⟨y,l2,rfl,g1,g2⟩:=cY hl;simp only[b7,af]at g1;subst g1;simp only[cN,b7,af]at hc;subst hc;exact⟨[_],l2,rfl,g2,ju.refl d _,trivial⟩
   .cases hg
  .cases hg
 |.G i,l,x,m,r,cs,l',cs',hg,hp,hl,hc,gv=>by
  simp only[lS]at hg;split at hg
  .rename_i i' r';split at hg
   .rename_i hb;have e1:=au hb;subst e1;simp only[af,aU]at hg;obtain⟨_,_,rfl⟩:=hg;simp only[mA,af]at hp;subst hp;obtain⟨y,l2,rfl,g1,g2⟩:=cY hl;obtain⟨y',l3,rfl,g3,g4⟩:=cY hc;simp only[cN,af]at g4;subst g4;rw[RJ hr g1 g3];exact⟨[_],l2,rfl,g2,ju.refl d _,trivial⟩
   .cases hg
  .cases hg
 |.mp i,l,x,m,r,cs,l',cs',hg,hp,hl,hc,gv=>by
  simp only[lS]at hg;split at hg
  .rename_i i' r';split at hg
   .rename_i hb;have e1:=au hb;subst e1;simp only[af,aU]at hg;obtain⟨_,_,rfl⟩:=hg;simp only[mA,af]at hp;subst hp;obtain⟨y,l2,rfl,g1,g2⟩:=cY hl;simp only[b7,af]at g1;subst g1;simp only[cN,b7,af]at hc;subst hc;exact⟨[_],l2,rfl,g2,ju.refl d _,trivial⟩
   .cases hg
  .cases hg
 |.nil,l,x,m,r,cs,l',cs',hg,hp,hl,hc,gv=>by
  simp only[lS]at hg;split at hg
  .simp only[af,aU]at hg;obtain⟨_,_,rfl⟩:=hg;simp only[mA,af]at hp;subst hp;obtain⟨y,l2,rfl,g1,g2⟩:=cY hl;simp only[b7,af]at g1;subst g1;simp only[cN,b7,af]at hc;subst hc;exact⟨[_],l2,rfl,g2,ju.refl d _,trivial⟩
  .cases hg
 |.emp,l,x,m,r,cs,l',cs',hg,hp,hl,hc,gv=>by
  simp only[lS]at hg;split at hg
  .simp only[af,aU]at hg;obtain⟨_,_,rfl⟩:=hg;simp only[mA,af]at hp;subst hp;obtain⟨y,l2,rfl,g1,g2⟩:=cY hl;simp only[b7,af]at g1;subst g1;simp only[cN,b7,af]at hc;subst hc;exact⟨[_],l2,rfl,g2,Le.nilEmp.toH d,trivial⟩
  .simp only[af,aU]at hg;obtain⟨_,_,rfl⟩:=hg;simp only[mA,af]at hp;subst hp;obtain⟨y,l2,rfl,g1,g2⟩:=cY hl;simp only[b7,af]at g1;subst g1;simp only[cN,b7,af]at hc;subst hc;exact⟨[_],l2,rfl,g2,ju.refl d _,trivial⟩
  .cases hg
 |.agg ps,l,x,m,r,cs,l',cs',hg,hp,hl,hc,gv=>DY d hr ps l x m r cs l' cs' hg hp hl hc gv
def DY (d:qe H H') (hr:yd h' h):∀(ps:Y PV) (l:Y TV) (x:(PV.tyL ps).den) (m:Nat) (r:Y TV) (cs:Y TV) (l' cs':Y AV),Af g h ps l=Z (x,m,r)->rA g ps x=Z cs->cN h l=Z l'->cN h' cs=Z cs'->C4 h H H' m->∃l1 l2,l'=l1++l2/\cN h r=Z l2/\gu H H' l1 cs'
 |[],l,x,m,r,cs,l',cs',hg,hp,hl,hc,gv=>by
  simp only[Af,af,aU]at hg;obtain⟨_,_,rfl⟩:=hg;simp only[rA,af]at hp;subst hp;simp only[cN,af]at hc;subst hc;exact⟨[],l',rfl,hl,trivial⟩
 |p::ps,l,x,m,r,cs,l',cs',hg,hp,hl,hc,gv=>by
  simp only[Af]at hg;split at hg
  .rename_i x1 m1 r1 h1;split at hg
   .rename_i x2 m2 r2 h2;cases hg;simp only[rA,tT,vx]at hp;split at hp
    .rename_i a ha;split at hp
     .rename_i b hb;cases hp;obtain⟨a',b',rfl,ea,eb⟩:=CU hc;obtain⟨ga,gb⟩:=gv.or;obtain⟨l1,l2,rfl,q1,q2⟩:=aii d hr p l _ _ _ a l' a' h1 ha hl ea ga;obtain⟨l3,l4,rfl,q3,q4⟩:=DY d hr ps _ _ _ _ b l2 b' h2 hb q1 eb gb;exact⟨l1++l3,l4,by simp,q3,q2.append q4⟩
     .cases hp
    .cases hp
   .cases hg
  .cases hg
end
mutual
def ZG:∀(p:PV) (x:p.ty.den) (cs:Y TV),mA g p x=Z cs->kL cs=J
 |.d T,x,cs,hp=>(lU PT.leaf 40 T x cs hp).2
 |.H i q,x,cs,hp|.qk i q z,x,cs,hp|.qy q ps,x,cs,hp|.ob i q,x,cs,hp|.nr i q,x,cs,hp|.G i,x,cs,hp|.mp i,x,cs,hp|.nil,x,cs,hp|.emp,x,cs,hp=>by simp only[mA,af]at hp;subst hp;rfl
 |.agg ps,x,cs,hp=>xu ps x cs hp
def xu:∀(ps:Y PV) (x:(PV.tyL ps).den) (cs:Y TV),rA g ps x=Z cs->kL cs=J
 |[],x,cs,hp=>by simp only[rA,af]at hp;subst hp;rfl
 |p::ps,x,cs,hp=>by
  simp only[rA]at hp;split at hp
  .rename_i a ha;split at hp
   .rename_i b hb;cases hp;exact UZ (ZG p _ a ha) (xu ps _ b hb)
   .cases hp
  .cases hp
end
def aih (d:qe H H') (hr:yd h' h) {p:PV} {v:TV} {x:p.ty.den} {y':AV} (A:uO g h p v=Z (x,m)) (hp:qo g p x=Z u) (D:b7 h v=Z y) (c:b7 h' u=Z y') (gv:C4 h H H' m):ju H H' y y':=by
 cases p with
 |d T=>
  simp only[qo,af]at hp;subst hp;simp only[b7,af]at c;subst c;exact (Rb d A D gv).1
 |agg ps=>
  simp only[uO]at A;split at A
  .cases A
  .rename_i I;split at A
   .rename_i l N;split at A
    .rename_i x1 m1 h1;cases A;simp only[qo]at hp;split at hp
     .rename_i cs hcs;cases hp;simp only[b7]at c;split at c
      .rename_i cs' hcs';cases c;let⟨e1,e2⟩:=HE N D;let⟨l1,l2,q1,q2,q3⟩:=DY d hr ps l _ _ [] cs y.cs cs' h1 hcs e1 hcs' gv;simp only[cN,af]at q2;subst q2;rw[dG]at q1;subst q1;have hcell:∀x∈cs',x.isCell=J:=lV (sh hcs' (xu ps _ cs hcs));cases v with
       |agg q=>
        simp only[b7]at D;split at D
        .cases D;exact ju.agg q3 hcell
        .cases D
       |f S z=>
        simp only[b7,af]at D;subst D;have ho:S.one=aa:=by simpa[TV.isC] using I
        rw[Bm]at q3;rw[qZ S z ho];intro φ E w v hrep hrel;exact ju.agg q3 hcell φ E w v hrep (Le.aggF _ _ _ _ hrel)
       |qb q|undef|qv|qh S q=>simp[TV.cs,TV.isC]at N
       |sb q=>exact bO rfl I
       |zp id jj=>cases N
       |_=>simp[TV.isC]at I
      .cases c
     .cases hp
    .cases A
   .cases A
 |H i q=>
  simp only[qo,af]at hp;subst hp;simp only[uO]at A;split at A
  .rename_i h1;simp only[lS]at h1;split at h1
   .rename_i e;simp only[eF]at e;obtain⟨rfl,_⟩:=e;split at h1
    next F=>simp only[al]at F;have e1:=au F.1;have e2:=au F.2;subst e1 e2;simp only[b7,af]at D c;subst D c;exact ju.refl d _
    .cases h1
   .cases h1
  .cases A
 |qk i q z=>
  simp only[qo,af]at hp;subst hp;simp only[uO]at A;split at A
  .rename_i h1;simp only[lS]at h1;split at h1
   .rename_i e;simp only[eF]at e;obtain⟨rfl,_⟩:=e;split at h1
    next F=>simp only[al]at F;have e1:=au F.1.1;have e2:=au F.1.2;have e3:=au F.2;subst e1 e2 e3;simp only[b7,af]at D c;subst D c;exact ju.refl d _
    .cases h1
   .cases h1
  .cases A
 |qy q ps=>
  simp only[qo,af]at hp;subst hp;simp only[uO]at A;split at A
  .rename_i h1;simp only[lS]at h1;split at h1
   .rename_i e;simp only[eF]at e;obtain⟨rfl,_⟩:=e;split at h1
    next F=>simp only[al]at F;have e1:=au F.1;have e2:=Jq F.2;subst e1 e2;simp only[b7,IJ,af]at D c;subst D c;exact ju.refl d _
    .cases h1
   .cases h1
  .cases A
 |G i=>
  simp only[qo,af]at hp;subst hp;simp only[uO]at A;split at A
  .rename_i h1;simp only[lS]at h1;split at h1
   .rename_i e;simp only[eF]at e;obtain⟨rfl,_⟩:=e;split at h1
    next F=>have e1:=au F;subst e1;rw[RJ hr D c];exact ju.refl d _
    .cases h1
   .cases h1
  .cases A
 |mp i=>
  simp only[qo,af]at hp;subst hp;simp only[uO]at A;split at A
  .rename_i h1;simp only[lS]at h1;split at h1
   .rename_i e;simp only[eF]at e;obtain⟨rfl,_⟩:=e;split at h1
    next F=>have e1:=au F;subst e1;simp only[b7,af]at D c;subst D c;exact ju.refl d _
    .cases h1
   .cases h1
  .cases A
 |nil=>
  simp only[qo,af]at hp;subst hp;simp only[uO]at A;split at A
  .rename_i h1;simp only[lS]at h1;split at h1
   next e=>simp only[eF]at e;obtain⟨rfl,_⟩:=e;simp only[b7,af]at D c;subst D c;exact ju.refl d _
   .cases h1
  .cases A
 |emp=>
  simp only[qo,af]at hp;subst hp;simp only[uO]at A;split at A
  .rename_i h1;simp only[lS]at h1;split at h1
   next e=>simp only[eF]at e;obtain⟨rfl,_⟩:=e;simp only[b7,af]at D c;subst D c;exact Le.nilEmp.toH d
   next e=>simp only[eF]at e;obtain⟨rfl,_⟩:=e;simp only[b7,af]at D c;subst D c;exact ju.refl d _
   .cases h1
  .cases A
 |_=>
  simp only[qo,af]at hp;subst hp;simp only[uO]at A;split at A
  .rename_i h1;simp only[lS]at h1;split at h1
   .rename_i e;simp only[eF]at e;obtain⟨rfl,_⟩:=e;split at h1
    next F=>simp only[al]at F;have e1:=au F.1;have e2:=au F.2;subst e1 e2;simp only[af,aU]at h1 A;obtain⟨rfl,_⟩:=A;obtain⟨rfl,_⟩:=h1;simp only[b7,af]at D c;subst D c;exact ju.refl d _
    .cases h1
   .cases h1
  .cases A
def DX (d:qe H H') (F:yd h' h):∀(A:Y PV) (vs:Y TV) (x:(PV.tyL A).den) (m:Nat) (z:Y TV) (l l':Y AV),Ae g h A vs=Z (x,m)->oO g A x=Z z->cN h vs=Z l->cN h' z=Z l'->C4 h H H' m->gu H H' l l'
 |[],[],x,m,z,l,l',c,hp,D,q,gv=>by
  simp[oO,af]at hp;subst hp;simp[cN,af]at D q;subst D q;trivial
 |[],_::_,x,m,z,l,l',c,_,_,_,_|_::_,[],x,m,z,l,l',c,_,_,_,_=>by simp[Ae]at c
 |p::A,v::vs,x,m,z,l,l',c,hp,D,q,gv=>by
  simp[Ae]at c;split at c
  .rename_i x1 m1 h1;split at c
   .rename_i x2 m2 h2;obtain⟨rfl,rfl⟩:=c;simp[oO,tT,vx]at hp;split at hp
    .rename_i a ha;split at hp
     next b hb=>simp[af]at hp;subst hp;obtain⟨y,N,rfl,e1,e2⟩:=cY D;obtain⟨y',I,rfl,e3,e4⟩:=cY q;let⟨ga,gb⟩:=gv.or;exact⟨aih d F h1 ha e1 e3 ga,DX d F A vs _ _ b N I h2 hb e2 e4 gb⟩
     .cases hp
    .cases hp
   .cases c
  .cases c
inductive BM (g:Nat->Nat) (h:a_) (m:Nat):eC->eC->Prop
 |F (ty:TypeId) (p:Bool) (T:Ty) (xs:List T.den):BM g h m (.F ty p T xs) (.F ty p T xs)
 |mp (K V:Ty) (es:List (K.den×V.den)):BM g h m (.mp K V es) (.mp K V es)
 |qw (F:sU) (a:Nat) (x:F.ty.den):BM g h m (.qw F a x) (.qw F a x)
 |C (ty:Option TypeId) (ps:List PV) (x:(PV.tyL ps).den) (l l2:List TV) (m':Nat) (hg:Af g h ps l=Z (x,m',[])) (hp:rA g ps x=Z l2) (hm:∀i,aC m' i=J->aC m i=J):BM g h m (.C ty l) (.C ty l2)
def BM.mono (hm:∀m2,aC m m2=J->aC i m2=J) {b c:eC} (h1:BM g h m b c):BM g h i b c:=by
 cases h1 with
 |F ty p T xs=>exact .F ty p T xs
 |mp K V es=>exact .mp K V es
 |qw F a x=>exact .qw F a x
 |C ty z x l A m' D hp q=>exact .C ty z x l A m' D hp λm2 hi=>hm m2 (q m2 hi)
def aij {b:PB} {x:b.ty.den} {c:eC} (q:CS g h i b=Z (x,m)) (hp:Bs g b x=Z (Z c)):∃b0,h.get (g i)=Z b0/\BM g h m b0 c:=by
 cases b with
 |F ty p T=>
  simp only[CS]at q;split at q
  .rename_i ty' p' S xs A;split at q
   .rename_i D;simp[al,cV]at D;obtain⟨rfl,rfl⟩:=D;split at q
    next z I=>obtain⟨rfl,rfl⟩:=q;obtain⟨e,rfl⟩:=gP I;cases e;simp[Bs,af]at hp;subst hp;exact⟨_,A,.F _ _ _ _⟩
    .cases q
   .cases q
  .cases q
 |qg ty T=>
  simp[CS]at q;split at q
  .rename_i ty' p' S xs A;split at q
   .rename_i D;have D:ty=ty':=by grind
    subst D;split at q
    next z I=>obtain⟨rfl,rfl⟩:=q;obtain⟨e,rfl⟩:=gP I;cases e;simp[Bs,af]at hp;subst hp;exact⟨_,A,.F _ _ _ _⟩
    .cases q
   .cases q
  .cases q
 |C ty ps=>
  simp[CS]at q;split at q
  .rename_i ty' l A;split at q
   .rename_i D;have D:ty=ty':=by grind
    subst D;split at q
    .rename_i z m1 I;obtain⟨rfl,rfl⟩:=q;simp[Bs]at hp;split at hp
     next l2 N=>simp[af]at hp;subst hp;exact⟨_,A,.C ty ps _ l l2 _ I N λ_ h=>h⟩
     .cases hp
    .cases q
   .cases q
  .cases q
 |mp K V=>
  simp[CS]at q;split at q
  .rename_i K' V' es A;split at q
   next z I=>obtain⟨rfl,rfl⟩:=q;obtain⟨e,rfl⟩:=gP I;cases e;simp[Bs,af]at hp;subst hp;exact⟨_,A,.mp _ _ _⟩
   .cases q
  .cases q
 |qw F a=>
  simp only[CS]at q;split at q
  .rename_i F' a' z A;split at q
   .rename_i hF;subst hF;split at q
    next ha=>obtain⟨rfl,rfl⟩:=q;simp[Bs,af]at hp;subst hp;rw[au ha];exact⟨_,A,.qw _ _ _⟩
    .cases q
   .cases q
  .cases q
 |qf=>simp[Bs]at hp
def Ko:∀(bs:Y PB) (i:Nat) (x:(PB.tyL bs).den) (m:Nat) (A:Y (M eC)),DZ g h i bs=Z (x,m)->pM g bs x=Z A->∀(k:Nat) c,A[k]? =Z (Z c)->∃b0,h.get (g (i+k))=Z b0/\BM g h m b0 c
 |[],i,x,m,A,z,hp,k,c,D=>by
  simp[pM,af]at hp;subst hp;simp at D
 |b::r,i,x,m,A,z,hp,k,c,D=>by
  simp[DZ]at z;split at z
  .rename_i x1 m1 h1;split at z
   .rename_i x2 m2 N;obtain⟨rfl,rfl⟩:=z;simp[pM,tT,vx]at hp;split at hp
    .rename_i a I;split at hp
     .rename_i q F;simp[af]at hp;subst hp;cases k with
      |zero=>
       simp at D;subst D;let⟨b0,e1,e2⟩:=aij h1 I;exact⟨b0,e1,e2.mono λi hi=>by rw[bj,hi];rfl⟩
      |succ k=>
       let⟨b0,e1,e2⟩:=Ko r (i+1) _ _ q N F k c (by grind);rw[show i+1+k=i+(k+1) from by omega]at e1;exact⟨b0,e1,e2.mono λi hi=>by rw[bj,hi];simp⟩
     .cases hp
    .cases hp
   .cases z
  .cases z
end get
def Ta {σ:PT Nat} (h:σ.get i=Z m):gU σ i=m:=by unfold gU;rw[h]
def X_ {σ:PT Nat}:∀(n i acc sm:Nat),acm σ n i acc=Z sm->
 (∀k,k<n->aC acc (gU σ (i+k))=aa)/\(∀a b,a<n->b<n->gU σ (i+a)=gU σ (i+b)->a=b)/\∀q,aC sm q=J↔aC acc q=J\/∃k,k<n/\gU σ (i+k)=q
 |0,i,acc,sm,h=>by
  simp[acm,af]at h
  grind
 |n+1,i,acc,sm,h=>by
  simp[acm]at h;split at h
  .rename_i a D;split at h
   .cases h
   .rename_i hna;have hna:aC acc a=aa:=by grind
    have hga:=Ta D;let⟨h1,h2,F⟩:=X_ n (i+1) (acc|||fT a) sm h;have hne:∀k,k<n->gU σ (i+1+k)≠a/\aC acc (gU σ (i+1+k))=aa:=λk z=>by
     have:=h1 k z;rw[bj,Bool.or_eq_false_iff]at this;refine ⟨λe=>?_,this.1⟩;have A:=this.2;rw[e]at A;rw[bq.2 rfl]at A;cases A
    refine ⟨λk z=>?_,λx y N I hxy=>?_,λq=>?_⟩
    .cases k with
     |zero=>rw[dQ,hga];exact hna
     |succ k=>rw[show i+(k+1)=i+1+k from by omega];exact (hne k (by omega)).2
    .cases x with
     |zero=>
      cases y with
      |zero=>rfl
      |succ y=>grind
     |succ x=>
      cases y with
      |_=>grind
    .rw[F,bj,eX];constructor
     .rintro ((c|c)|⟨k,z,c⟩)
      .exact .inl c
      .exact .inr ⟨0,by omega,by rw[dQ,hga];exact bq.1 c⟩
      .exact .inr ⟨k+1,by omega,by rw[show i+(k+1)=i+1+k from by omega];exact c⟩
     .rintro (c|⟨k,z,c⟩)
      .exact .inl (.inl c)
      .cases k with
       |zero=>rw[dQ,hga]at c;exact .inl (.inr (bq.2 c))
       |succ k=>exact .inr ⟨k,by omega,by rw[show i+1+k=i+(k+1) from by omega];exact c⟩
  .cases h
def Tj {σ:PT Nat}:∀(n:Nat),YO σ n=J->∀i,i<n->gU σ i=i
 |0,_,i,hi=>by omega
 |n+1,h,i,hi=>by
  simp[YO,al]at h;by_cases e:i=n
  .subst e;cases c:σ.get i with
   |none=>rw[c]at h;exact bO h.1 (by simp)
   |some a=>rw[c]at h;rw[Ta c];exact au h.1
  .exact Tj n h.2 i (by omega)
structure I8 (np:Nat) (t:Tm) (vs:List TV) (h:a_) (z:t.ty.den) (m:Nat) (σ:PT Nat) (sm:Nat):Prop where
 ex:∃x m1 y m2,z=Ym _ _ x y/\m=m1|||m2/\Ae (gU σ) h t.vs vs=Z (x,m1)/\DZ (gU σ) h 0 t.bs=Z (y,m2)
 inj:∀a b,a<l! t.bs->b<l! t.bs->gU σ a=gU σ b->a=b
 sig:∀q,aC sm q=J↔∃k,k<l! t.bs/\gU σ k=q
 disj:∀i,aC m i=J->aC sm i=aa
 fix:∀i,i<np->gU σ i=i
def wJ {t:Tm} {z:t.ty.den} {σ:PT Nat} {sm:Nat} (hm:CJ i t B h=Z ⟨z,m,σ,sm⟩):I8 i t B h z m σ sm:=by
 unfold CJ at hm;rw[vM]at hm;split at hm
 .rename_i sm' F;split at hm
  .rename_i x m1 h1;split at hm
   .rename_i y m2 I;split at hm
    next c=>simp[al]at c;obtain⟨rfl,rfl,rfl,rfl⟩:=hm;let⟨N,D,A⟩:=X_ _ _ _ _ F;simp only[b6]at N D A;exact⟨⟨x,m1,y,m2,rfl,rfl,h1,I⟩,D,λq=>by rw[A];simp,λnp hi=>pH c.1 np hi,Tj i c.2⟩
    .cases hm
   .cases hm
  .cases hm
 .cases hm
mutual
def vZ {g:Nat->Nat} {h:a_}:∀(p:PV) (l:Y TV) (x:p.ty.den) (m:Nat) (r:Y TV),lS g h p l=Z (x,m,r)->dH h m
 |.d T,l,x,m,r,hg=>vz 40 T l x m r hg
 |.H i q,l,x,m,r,hg|.qk i q z,l,x,m,r,hg|.ob i q,l,x,m,r,hg|.nr i q,l,x,m,r,hg|.qy q ps,l,x,m,r,hg|.G i,l,x,m,r,hg|.mp i,l,x,m,r,hg=>by
  simp only[lS]at hg;split at hg
  .split at hg
   .simp only[af,aU]at hg;obtain⟨_,rfl,_⟩:=hg;exact dH.zero h
   .cases hg
  .cases hg
 |.nil,l,x,m,r,hg=>by
  simp only[lS]at hg;split at hg
  .simp only[af,aU]at hg;obtain⟨_,rfl,_⟩:=hg;exact dH.zero h
  .cases hg
 |.emp,l,x,m,r,hg=>by
  simp only[lS]at hg;split at hg
  .simp only[af,aU]at hg;obtain⟨_,rfl,_⟩:=hg;exact dH.zero h
  .simp only[af,aU]at hg;obtain⟨_,rfl,_⟩:=hg;exact dH.zero h
  .cases hg
 |.agg ps,l,x,m,r,hg=>IY ps l x m r hg
def IY {g:Nat->Nat} {h:a_}:∀(ps:Y PV) (l:Y TV) (x:(PV.tyL ps).den) (m:Nat) (r:Y TV),Af g h ps l=Z (x,m,r)->dH h m
 |[],l,x,m,r,hg=>by
  simp only[Af,af,aU]at hg;obtain⟨_,rfl,_⟩:=hg;exact dH.zero h
 |p::ps,l,x,m,r,hg=>by
  simp only[Af]at hg;split at hg
  .rename_i x1 m1 r1 h1;split at hg
   .rename_i x2 m2 r2 h2;simp only[af,aU]at hg;obtain⟨_,rfl,_⟩:=hg;exact (vZ p l x1 m1 r1 h1).or (IY ps r1 _ _ _ h2)
   .cases hg
  .cases hg
end
def an1 {p:PV} {x:p.ty.den} (c:uO g h p u=Z (x,m)):dH h m:=by
 cases p with
 |d T=>exact Zd c
 |agg A=>
  simp only[uO]at c;split at c
  .cases c
  .split at c
   .split at c
    next x1 m1 h1=>simp only[af,aU]at c;obtain⟨_,rfl⟩:=c;exact IY A _ _ _ _ h1
    .cases c
   .cases c
 |_=>
  simp only[uO]at c;split at c
  next h1=>simp only[af,aU]at c;obtain⟨_,rfl⟩:=c;exact vZ _ _ _ _ _ h1
  .cases c
def Qg :∀(q:Y PV) (vs:Y TV) (x:(PV.tyL q).den) (m:Nat),Ae g h q vs=Z (x,m)->dH h m
 |[],[],x,m,c=>by obtain⟨_,rfl⟩:=c;exact dH.zero h
 |[],_::_,x,m,c|_::_,[],x,m,c=>by simp[Ae]at c
 |p::q,v::vs,x,m,c=>by
  simp[Ae]at c;split at c
  .rename_i x1 m1 h1;split at c
   next z m2 A=>obtain⟨_,rfl⟩:=c;exact (an1 h1).or (Qg q vs z m2 A)
   .cases c
  .cases c
def an2 {b:PB} {x:b.ty.den} (c:CS g h i b=Z (x,m)):dH h m:=by
 cases b with
 |C ty q=>
  simp[CS]at c;split at c
  .split at c
   .split at c
    next h1=>obtain⟨_,rfl⟩:=c;exact IY q _ _ _ _ h1
    .cases c
   .cases c
  .cases c
 |mp K V=>
  simp[CS]at c;split at c
  .split at c
   .obtain⟨_,rfl⟩:=c;exact dH.zero h
   .cases c
  .cases c
 |qf=>simp[CS,af,aU]at c;obtain⟨_,rfl⟩:=c;exact dH.zero h
 |_=>
  simp[CS]at c;split at c
  .split at c
   .split at c
    .obtain⟨_,rfl⟩:=c;exact dH.zero h
    .cases c
   .cases c
  .cases c
def Qi :∀(bs:Y PB) (i:Nat) (x:(PB.tyL bs).den) (m:Nat),DZ g h i bs=Z (x,m)->dH h m
 |[],i,x,m,c=>by obtain⟨_,rfl⟩:=c;exact dH.zero h
 |b::r,i,x,m,c=>by
  simp[DZ]at c;split at c
  .rename_i x1 m1 h1;split at c
   next q m2 z=>obtain⟨_,rfl⟩:=c;exact (an2 h1).or (Qi r (i+1) q m2 z)
   .cases c
  .cases c
structure nL (t:Tm) (x:t.ty.den) (vs:List TV) (h1:a_) (l1:List (Option eC)):Prop where
 pv:oO IV t.vs (Qk _ _ x)=Z vs
 pb:pM IV t.bs (Pf _ _ x)=Z l1
 len:l! l1=l! t.bs
 at_:∀i b,h1.get i=Z b↔l1[i]? =Z (Z b)
 ok:kR h1 vs=J
 lt:qa (l! t.bs) vs=J
 C:∀i ty l,h1.get i=Z (.C ty l)->kR h1 l=J/\qa (l! t.bs) l=J
 qw:∀i F a x,h1.get i=Z (.qw F a x)->a<l! t.bs
 nox:∀i F a x k p,h1.get i≠Z (.qm F a x k p)
def adu (l:Y (M eC)) (i:Nat) (b:eC):(Bv IV 0 l PT.leaf).get i=Z b↔l[i]? =Z (Z b):=by
 by_cases hi:i<l! l
 .obtain⟨c,q⟩:∃c,l[i]? =Z c:=⟨l[i],aH hi⟩
  have:=vF IV l 0 PT.leaf (λa b _ _ e=>by simp[IV]at e;omega) i c q;rw[show IV (0+i)=i from by simp only[IV];omega]at this;rw[this,q];cases c with
  |some b'=>simp
  |none=>simp[PT.get]
 .rw[vE IV l 0 PT.leaf i (λk z=>by simp[IV];omega),kF (by omega)];simp[PT.get]
def wP {t:Tm} {x:t.ty.den} {vs:Y TV} {h1:a_} (hi:BQ t x=Z (vs,h1)):∃z,nL t x vs h1 z:=by
 unfold BQ at hi;split at hi
 .rename_i A hus;split at hi
  .rename_i h hh;split at hi
   .rename_i c;simp[al]at c;simp[af,aU]at hi;obtain⟨rfl,rfl⟩:=hi;unfold NR at hh;split at hh
    .rename_i z q;simp[af]at hh;refine ⟨z,hus,q,Dp _ _ _ _ q,λi b=>?_,c.1.1,c.1.2,λi ty l hil=>?_,λi F a x hil=>?_,λi F a x k p hil=>?_⟩
     .rw[<- hh];exact adu z i b
     .have:=PT.get_all _ h 1 0 i _ c.2 hil
      grind
     .have:=PT.get_all _ h 1 0 i _ c.2 hil;simp_all
     .have:=PT.get_all _ h 1 0 i _ c.2 hil;cases this
    .cases hh
   .cases hi
  .cases hi
 .cases hi
def NT (nb:Nat) (n:Nat):Bool:=db (ow n) nb
def Dr :NT i m=J↔ow m<i:=⟨λh=>aW h,λh=>bf h⟩
def Ba {k:Nat}:NT m (iM i k)=J↔i<m:=by rw[Dr,im]
def Fb :NT m (nm i)=J↔i<m:=by
 rw[Dr,dh]
def RL (h:m<i) (j sz n:Nat):(sZ m j sz n).all (NT i)=J:=by
 unfold sZ;split
 .rfl
 .exact Ba.2 h
def aiz {s:Sb} (h:s.id<i):(Ib s).all (NT i)=J:=by
 cases s with
 |nr id j sz n=>exact RL h _ _ _
 |nl q=>rfl
 |_=>exact Ba.2 h
mutual
def amt {nb:Nat} {h:a_}:∀(v:TV) (y:AV),Gq nb v=J->b7 h v=Z y->y.all (NT nb)=J
 |.f _ _,y,_,he|.zw _ _ _ _ _,y,_,he=>by simp[b7,af]at he;subst he;rfl
 |.qr id _ _ _,y,hl,he|.H id _,y,hl,he|.qk id _ _,y,hl,he=>by simp[b7,af]at he;subst he;exact Fb.2 (aW hl)
 |.G id,y,hl,he=>by
  simp[b7]at he;split at he
  .simp[af]at he;subst he;unfold dA;split
   .rfl
   .exact Fb.2 (aW hl)
  .cases he
 |.zp id jj,y,hl,he=>by
  simp[b7]at he;split at he
  .simp[af]at he;subst he;exact Fb.2 (aW hl)
  .cases he
 |.emp,y,_,he|.nil,y,_,he=>by simp[b7,af]at he;subst he;rfl
 |.mp id,y,hl,he=>by simp[b7,af]at he;subst he;exact Fb.2 (aW hl)
 |.agg l,y,hl,he|.qb l,y,hl,he|.qy q l,y,hl,he=>by
  simp[b7]at he;split at he
  .rename_i l' hl';simp[af]at he;subst he;exact tQ l l' hl hl'
  .cases he
 |.undef,y,_,he|.np,y,_,he|.qv,y,_,he|.qh _ _,y,_,he=>by simp[b7,af]at he;subst he;rfl
 |.sb s,y,hl,he=>by simp[b7,af]at he;subst he;exact aiz (aW hl)
def tQ {nb:Nat} {h:a_}:∀(l:Y TV) (l':Y AV),qa nb l=J->cN h l=Z l'->AV.allL (NT nb) l'=J
 |[],l',_,he=>by simp[cN,af]at he;subst he;rfl
 |x::r,l',hl,he=>by
  obtain⟨y,l2,rfl,e1,e2⟩:=cY he;simp[qa,al]at hl;simp[AV.allL,al];exact⟨amt x y hl.1 e1,tQ r l2 hl.2 e2⟩
end
def Bp :∀{l:Y AV},(∀x∈l,x.all p=J)->AV.allL p l=J
 |[],_=>rfl
 |x::r,h=>by
  simp[AV.allL,al];exact⟨h x (cS ..),Bp λy c=>h y (cq _ c)⟩
def NL (h:m<i) (sz:Nat):∀(q:η) (k:Nat),∀x∈kO m sz k q,x.all (NT i)=J
 |[],_,x,c=>by cases c
 |l::r,k,x,c=>by
  rcases bB.1 c with rfl|c
  .exact RL h _ _ _
  .exact NL h sz r (k+1) x c
def aet (h:m<i) {F:sU} {x:F.ty.den} (A:sL m F x=Z z):z.c.all (NT i)=J:=by
 cases F with
 |zk ty=>
  simp only[sL]at A;split at A
  .cases A
  .simp[af]at A;subst A;refine Bp λy D=>?_
   obtain⟨j,_,rfl⟩:=bR.1 D;exact Ba.2 h
 |zg=>
  simp[sL,af]at A;subst A;refine Bp λy D=>?_
  obtain⟨q,I,rfl⟩:=bR.1 D;obtain⟨e,_,rfl⟩:=bR.1 I;exact Ba.2 h
 |rr ty sz=>
  simp[sL,af]at A;subst A;exact Bp (NL h sz x 0)
 |_=>cases A
def aer (h:i<m) (k:Nat) (ty:TypeId) (S:Ty) (o:AM S):(uR i k ty S o).c.all (NT m)=J:=by
 unfold uR;split
 .refine Bp λz A=>?_
  rcases bF.1 A with A|A
  .obtain⟨q,_,rfl⟩:=bR.1 A;rfl
  .rcases bB.1 A with rfl|A
   .exact Ba.2 h
   .rw[aA.1 A];exact Ba.2 h
 .refine Bp λz A=>?_
  obtain⟨q,D,rfl⟩:=bR.1 A;obtain⟨e,_,rfl⟩:=bR.1 D;rfl
def aes (h:i<m) {k:Nat} {F:sU} {x:F.ty.den} (y:Ia i k F x=Z z):z.c.all (NT m)=J:=by
 cases F with
 |ar ty S=>
  obtain⟨o,_,rfl⟩:=fY.1 y;exact aer h k ty S o
 |ir ty T=>
  let⟨o,_,q⟩:=Option.bind_eq_some_iff.1 y;unfold WP at q;split at q
  .cases q
  .cases q;rfl
 |_=>cases y
def nL.blk_all {t:Tm} {x:t.ty.den} {N:Y (M eC)} (I:nL t x B h N) {b:eC} (A:h.get i=Z b) (q:jG h b=Z z):z.c.all (NT (l! t.bs))=J:=by
 cases b with
 |F ty p T xs=>
  simp only[jG]at q;split at q
  .cases q
  .simp[af]at q;subst q;rfl
 |C ty l=>
  cases ty with
  |some ty=>
   simp[jG]at q;split at q
   next l' D=>simp[af]at q;subst q;exact tQ l l' (I.C i _ l A).2 D
   .cases q
  |none=>
   simp[jG]at q;split at q
   next l' D=>simp[af]at q;subst q;rfl
   .cases q
 |qj p sz n=>cases q
 |mp K V es=>
  simp[jG,af]at q;subst q;unfold mpC;split
  .rfl
  .simp[BC.all,ic];have key:∀l:Y (K.den×V.den),AV.allL (NT (l! t.bs)) (l.map ((λx=>x.2)∘λp=>(pU K p.1,AV.f (fC V p.2))))=J:=λl=>by
    induction l with
    |nil=>rfl
    |cons e r ih=>simp[b5,AV.allL,al];exact⟨rfl,ih⟩
   exact key es
 |qw F a y=>exact aet (I.qw i F a y A) q
 |qm F a y k p=>exact bO A (I.nox i F a y k p)
def nL.lt_len {t:Tm} {x:t.ty.den} {c:Y (M eC)} (I:nL t x B h c) {b:eC} (q:h.get i=Z b):i<l! t.bs:=by
 rw[<- I.len];exact (bm.1 ((I.at_ i b).1 q)).1
def φ1 (nb:Nat) (g:Nat->Nat) (φ:PM):PM:=λn=>if NT nb n then φ (oL g n) else U
def ac6 (hi:ow m<i):φ1 i g V m=V (oL g m):=by
 unfold φ1;rw[aR (Dr.2 hi)]
def xn {k:Nat} (h:φ1 i g V m=Z k):ow m<i/\V (oL g m)=Z k:=by
 unfold φ1 at h;split at h
 next hp=>exact⟨Dr.1 hp,h⟩
 .cases h
def aik (inj:∀a b,a<i->b<i->g a=g b->a=b) {c:Nat} (h:ow m<i) (h':ow c<i) (e:oL g m=oL g c):m=c:=by
 let⟨e1,e2⟩:=tO e;rw[<- j9 m,<-j9 c,inj _ _ h h' e1,e2]
def nL.erHF {t:Tm} {x:t.ty.den} {N:Y (M eC)} (I:nL t x B h N) (hn:AI.erHF h i=Z z):ow i<l! t.bs/\z.c.all (NT (l! t.bs))=J:=by
 let⟨c,A,q⟩:=gV hn;have hi:=I.lt_len A;refine ⟨hi,?_⟩;cases D:ix i with
 |zero=>rw[D]at q;exact I.blk_all A q
 |succ k=>
  rw[D]at q;cases c with
  |qw F a y=>exact aes hi q
  |qm F a y k p=>exact bO A (I.nox _ F a y k p)
  |_=>cases q
structure ajx (t:Tm) (x:t.ty.den) (vs:List TV) (h1:a_) (g:Nat->Nat) (φ:PM) (E E':Nat->Prop) (Hv:HF) (w:World):Prop where
 zq:oM (φ1 (l! t.bs) g φ) E' (erHF h1) w
 val:∀x v,x.all (NT (l! t.bs))=J->cm φ (tot E φ Hv) w (x.qx (oL g)) v->cm (φ1 (l! t.bs) g φ) (tot E' (φ1 (l! t.bs) g φ) (erHF h1)) w x v
 qn:∀k,own (φ1 (l! t.bs) g φ) (erHF h1) k->own φ Hv k
 tot_:∀k,tot E' (φ1 (l! t.bs) g φ) (erHF h1) k->tot E φ Hv k
def oM.toId {t:Tm} {x:t.ty.den} {F:Y (M eC)} (I:nL t x B h F) (inj:∀a b,a<l! t.bs->b<l! t.bs->g a=g b->a=b) {E':Nat->Prop} (r:oM V O S w)
 (hat:∀n y,AI.erHF h n=Z y->S (oL g n)=Z (y.qx (oL g)))
 (hE:∀k,E' k->tot O V S k) (hne:∀n k y,AI.erHF h n=Z y->V (oL g n)=Z k->¬E' k) (hel:∀k,E' k->k<w.heap.size):ajx t x B h g V O E' S w:=by
 have own1:∀k,own (φ1 (l! t.bs) g V) (erHF h) k->own V S k:=by
  rintro k ⟨n,y,A,h3⟩;let⟨hi,z⟩:=xn h3;exact⟨oL g n,_,hat n y A,z⟩
 have tot1:∀k,tot E' (φ1 (l! t.bs) g V) (erHF h) k->tot O V S k:=λk c=>c.elim (hE k) λh1=>.inr (own1 k h1)
 have val:∀x v,x.all (NT (l! t.bs))=J->cm V (tot O V S) w (x.qx (oL g)) v->cm (φ1 (l! t.bs) g V) (tot E' (φ1 (l! t.bs) g V) (erHF h)) w x v:=λx v N hr=>by
  have A:cm (φ1 (l! t.bs) g V) (tot O V S) w x v:=cm.renFrom (λi k hp c=>by unfold φ1;rw[aR hp];exact c) hr x N rfl;exact A.ext (λ_ _ h1=>h1) (C5.refl _ w) λk _ c=>tot1 k c
 refine ⟨⟨λn D b b' k q g2 g3 g4=>?_,λn y q=>?_,hel,λg' cells hg=>(r.gl g' cells hg).ext (C5.refl _ w) λk _ c=>tot1 k c⟩,val,own1,tot1⟩
 .obtain⟨hi,z⟩:=xn g3;let⟨hj,h5⟩:=xn g4;exact aik inj hi hj (r.inj _ _ _ _ k (hat n _ q) (hat D _ g2) z h5)
 .obtain⟨hi,hall⟩:=I.erHF q;let⟨k,p1,p2,ob,p3,p4⟩:=r.at_ _ _ (hat n y q);exact⟨k,by rw[ac6 hi];exact p1,hne n k y q p1,ob,p3,gQ.renFrom val hall p4⟩
def BM.view {D:a_} {Hz':HF} (d:qe S Hz') (gv:C4 h S Hz' m) (hr:yd D h) {b0 c:eC} (hb:BM g h m b0 c) {I:jI} (e0:jG h b0=Z z) (e1:jG D c=Z I):fM S Hz' z I:=by
 cases hb with
 |F ty p T xs=>
  simp only[jG]at e0 e1;rw[e0]at e1;cases e1;exact fM.refl d z
 |C ty ps x l A m' hg hp hm=>
  have key:∀l' cs',cN h l=Z l'->cN D A=Z cs'->gu S Hz' l' cs'/\∀x∈cs',x.isCell=J:=λl' cs' y q=>by
   let⟨l1,l3,q1,N,q3⟩:=DY d hr ps l x m' [] A l' cs' hg hp y q λi hi=>gv i (hm i hi)
   simp[cN,af]at N;subst N;rw[dG]at q1;subst q1;exact⟨q3,lV (sh q (xu ps x A hp))⟩
  cases ty with
  |some ty=>
   simp[jG]at e0 e1;split at e0
   .rename_i l' y;simp[af]at e0;subst e0;split at e1
    next cs' q=>simp[af]at e1;subst e1;exact fM.C rfl rfl (key _ _ y q).1 (key _ _ y q).2
    .cases e1
   .cases e0
  |none=>
   simp[jG]at e0 e1;split at e0
   .rename_i l' y;simp[af]at e0;subst e0;split at e1
    next cs' q=>simp[af]at e1;subst e1;exact fM.none
    .cases e1
   .cases e0
 |_=>
  simp[jG]at e0 e1;rw[e0]at e1;cases e1;exact fM.refl d z
def BM.erB_some {q:a_} {nx:Nat} (hinv:gC h nx) {b0 c:eC} (h0:h.get i=Z b0) (D:BM g h m b0 c) (e1:jG q c=Z z):∃y,jG h b0=Z y:=by
 cases D with
 |C ty I x l N m' hg hp hm=>
  let⟨l',A⟩:=fb h l (hinv.C i _ l h0);cases ty<;>exact⟨_,by simp[jG,A];rfl⟩
 |_=>exact⟨z,e1⟩
def BM.mem {b0 c:eC} (q:BM g h m b0 c) (i k:Nat):vh i k b0=vh i k c:=by cases q<;>rfl
def BM.G {b0 c:eC} (q:BM g h m b0 c):hZ c=hZ b0:=by
 cases q<;>rfl
structure pa (P:Program) (f:FuncId) (c:cu):Prop where
 qd:xl P f
 calls:∀x y,c.m x=Z y->∀vs hp l1 rs hq l2 la lr,nL c.pre x vs hp l1->nL c.post y rs hq l2->cN hp vs=Z la->cN hq rs=Z lr->
  ∀(φ:PM) (E:Nat->Prop) (w:World) (us:ξ),oM φ E (erHF hp) w->ik φ (tot E φ (erHF hp)) w la us->(∀n k,φ n=Z k->ow n<l! c.pre.bs)->
  Calls P f us.toArray w λen w'=>∃v φ',en= .returned v/\C5 (own φ (erHF hp)) w w'/\(∀k,k<w.heap.size->own φ' (erHF hq) k->own φ (erHF hp) k)/\(∀n,ow n<l! c.pre.bs->φ' n=φ n)/\oM φ' E (erHF hq) w'/\cm φ' (tot E φ' (erHF hq)) w' (yU lr) v
def NY :∀(bs:Y PB) (x:(PB.tyL bs).den) (l:Y (M eC)),CG bs=J->pM g bs x=Z l->∀(i:Nat) (c:M eC),l[i]? =Z c->∃b,c=Z b
 |[],x,l,_,hp,i,c,A=>by simp[pM,af]at hp;subst hp;simp at A
 |b::r,x,l,D,hp,i,c,A=>by
  simp[pM]at hp;split at hp
  .rename_i a z;split at hp
   .rename_i q I;simp[af]at hp;subst hp;cases i with
    |zero=>
     simp at A;subst A;cases b with
     |qf=>simp[CG]at D
     |C ty N=>
      simp[Bs]at z
      grind
     |_=>simp[Bs,af]at z;exact⟨_,z.symm⟩
    |succ i=>
     refine NY r _ q ?_ I i c (by grind);cases b<;>first|exact D|simp[CG]at D
   .cases hp
  .cases hp
def Gf {z:a_} :∀n,uk h z g n=J->∀i,i<n->∀r,ep h (g i)=Z r->ep z (g i)=Z r
 |0,_,i,hi,_,_=>by omega
 |n+1,c,i,hi,r,A=>by
  simp[uk,al]at c;by_cases e:i=n
  .subst e;let⟨p,s,k⟩:=r;have h1:=c.1;rw[A]at h1;cases D:ep z (g i) with
   |none=>rw[D]at h1;cases h1
   |some q=>simp_all
  .exact Gf n c.2 i (by omega) r A
def ik.le {H':HF} (r:oM V O S w):∀{l l':Y AV} {c:ξ},gu S H' l l'->ik V (tot O V S) w l c->ik V (tot O V H') w l' c
 |[],[],[],_,_=>trivial
 |[],[],_::_,_,h|_::_,_::_,[],_,h|[],_::_,_,h,_|_::_,[],_,h,_=>h.elim
 |_::_,_::_,_::_,q,h=>⟨q.1 _ _ _ _ r h.1,ik.le r q.2 h.2⟩
def ik.toId {φ':PM} {O':Nat->Prop} (q:∀x v,x.all p=J->cm V O w (x.qx g) v->cm φ' O' w x v):∀{l:Y AV} {c:ξ},AV.allL p l=J->ik V O w (AV.renL g l) c->ik φ' O' w l c
 |[],[],_,_=>trivial
 |[],_::_,_,h|_::_,[],_,h=>h.elim
 |_::_,_::_,hp,h=>by
  simp[AV.allL,al]at hp;exact⟨q _ _ hp.1 h.1,ik.toId q hp.2 h.2⟩
def Yb :∀{q:Y TV} {c:Y AV},cN h q=Z c->b7 h (RM q)=Z (yU c)
 |[],c,he=>by simp[cN,af]at he;subst he;rfl
 |[x],c,he=>by
  obtain⟨y,z,rfl,e1,e2⟩:=cY he;simp[cN,af]at e2;subst e2;exact e1
 |x::y::r,c,he=>by
  obtain⟨D,z,rfl,e1,e2⟩:=cY he;obtain⟨A,F,rfl,N,I⟩:=cY e2;simp[RM,b7,he,yU]
def acg (γ:Nat->Nat):∀l:Y AV,yU (AV.renL γ l)=(yU l).qx γ
 |[]|[x]|x::y::r=>rfl
def Rt :∀{l:Y AV},AV.allL p l=J->(yU l).all p=J
 |[],_=>rfl
 |[x],h=>by simp only[AV.allL,al]at h;exact h.1
 |x::y::r,h=>h
def ahy {q:Nat}:aC (((1<<<m)-1)<<<i) q=J↔i<=q/\q<i+m:=by
 rw[Nat.testBit_shiftLeft,AS,Nat.testBit_two_pow_sub_one]
 grind
def ahw (l:ι) (B:Nat):ι:=l.flatMap λi=>(lY (B+1)).map λk=>iM i k
def R7 {l:ι} :m∈ahw l i↔ow m∈l/\ix m<=i:=by
 unfold ahw;rw[kN];constructor
 .rintro⟨B,hi,c⟩;obtain⟨k,q,rfl⟩:=bR.1 c;rw[nM]at q;rw[im,uH];exact⟨hi,by omega⟩
 .rintro⟨h1,z⟩;exact⟨ow m,h1,bR.2 ⟨ix m,nM.2 (by omega),j9 m⟩⟩
mutual
def AV.all_and {p q:Nat->Bool}:∀x:AV,x.all p=J->x.all q=J->x.all (λn=>p n&&q n)=J
 |.f _,_,_=>rfl
 |.H _ _,h1,h2|.sl _ _ _,h1,h2|.G _ _ _,h1,h2|.mp _,h1,h2=>by simp only[AV.all]at h1 h2 ⊢;rw[h1,h2];rfl
 |.emp,_,_|.qv,_,_|.qh _ _,_,_=>rfl
 |.agg l,h1,h2|.qb l,h1,h2|.qy _ l,h1,h2=>AV.allL_and l h1 h2
def AV.allL_and {p q:Nat->Bool}:∀l:Y AV,AV.allL p l=J->AV.allL q l=J->AV.allL (λn=>p n&&q n) l=J
 |[],_,_=>rfl
 |x::r,h1,h2=>by
  simp[AV.allL,al]at h1 h2 ⊢;exact⟨AV.all_and x h1.1 h2.1,AV.allL_and r h1.2 h2.2⟩
end
def BC.all_and {q:Nat->Bool} {c:BC} (h1:c.all p=J) (z:c.all q=J):c.all (λn=>p n&&q n)=J:=by
 cases c with
 |mx l=>exact AV.allL_and l h1 z
 |mp es=>exact AV.allL_and _ h1 z
 |_=>rfl
def VD (B n:Nat):Bool:=dc (ix n) B
def DI {n:Nat} (h:i<=m) (c:VD i n=J):VD m n=J:=bf (cA (aW c) h)
mutual
def AV.all_ix {B B':Nat} (h:B<=B'):∀x:AV,x.all (VD B)=J->x.all (VD B')=J
 |.f _,_=>rfl
 |.H _ _,h1|.sl _ _ _,h1|.G _ _ _,h1|.mp _,h1=>DI h h1
 |.emp,_|.qv,_|.qh _ _,_=>rfl
 |.agg l,h1|.qb l,h1|.qy _ l,h1=>AV.allL_ix h l h1
def AV.allL_ix {B B':Nat} (h:B<=B'):∀l:Y AV,AV.allL (VD B) l=J->AV.allL (VD B') l=J
 |[],_=>rfl
 |x::r,h1=>by
  simp[AV.allL,al]at h1 ⊢;exact⟨AV.all_ix h x h1.1,AV.allL_ix h r h1.2⟩
end
mutual
def AV.ix_ex:∀x:AV,∃B,x.all (VD B)=J
 |.f _=>⟨0,rfl⟩
 |.H n _|.sl n _ _|.G n _ _|.mp n=>⟨ix n,bf (bL _)⟩
 |.emp|.qv|.qh _ _=>⟨0,rfl⟩
 |.agg l|.qb l|.qy _ l=>AV.ixL_ex l
def AV.ixL_ex:∀l:Y AV,∃B,AV.allL (VD B) l=J
 |[]=>⟨0,rfl⟩
 |x::r=>by
  obtain⟨a,ha⟩:=AV.ix_ex x;obtain⟨b,hb⟩:=AV.ixL_ex r;exact⟨a+b,by simp[AV.allL,al];exact⟨AV.all_ix (by omega) x ha,AV.allL_ix (by omega) r hb⟩⟩
end
def BC.ix_ex (c:BC):∃B,c.all (VD B)=J:=by
 cases c with
 |mx l=>exact AV.ixL_ex l
 |mp es=>exact AV.ixL_ex _
 |_=>exact⟨0,rfl⟩
def BC.all_ix (h:i<=m) {c:BC} (h1:c.all (VD i)=J):c.all (VD m)=J:=by
 cases c with
 |mx l=>exact AV.allL_ix h l h1
 |mp es=>exact AV.allL_ix h _ h1
 |_=>rfl
def IW (h:a_):∃B,∀n y,erHF h n=Z y->ix n<=B/\y.c.all (VD B)=J:=by
 let⟨g,N⟩:=Yn h;have key:∀a:Nat,∃B,∀n y,n<a->erHF h n=Z y->y.c.all (VD B)=J:=by
  intro a;induction a with
  |zero=>exact⟨0,λn y D=>by omega⟩
  |succ a F=>
   let⟨B,A⟩:=F;cases I:erHF h a with
   |none=>exact⟨B,λn y D q=>by
     by_cases e:n=a
     .grind
     .exact A n y (by omega) q⟩
   |some z=>
    let⟨C,hC⟩:=BC.ix_ex z.c;exact⟨B+C,λn y D q=>by
     by_cases e:n=a
     .subst e;rw[I]at q;cases q;exact BC.all_ix (by omega) hC
     .exact BC.all_ix (by omega) (A n y (by omega) q)⟩
 let⟨H,hH⟩:=fW h;let⟨L,hL⟩:=PT.bound H;let⟨B,A⟩:=key L;refine ⟨g+B,λn y q=>⟨cA (aj0 N q) (by omega),BC.all_ix (by omega) (A n y ?_ q)⟩⟩;rcases bZ n L with h1|h1
 .exact h1
 .simp_all
def afc {o:Oper} {e:gM} {c:cu} (hinv:gC h i) (sp:pa P f c) {x:c.pre.ty.den} {σ:PT Nat} {sm:Nat} (A:I8 0 c.pre B h x m σ sm) {vs:Y TV} {hp:a_} {l1:Y (M eC)} (I:nL c.pre x vs hp l1) (hng:CG c.pre.bs=J) {y:c.post.ty.den} (hm:c.m x=Z y) {rs:Y TV} {hq:a_} {l2:Y (M eC)} (D:nL c.post y rs hq l2) (hle:l! c.pre.bs<=l! c.post.bs)
 (glo:∀nx,nx<l! c.pre.bs->g nx=gU σ nx) (ghi:∀nx,l! c.pre.bs<=nx->g nx=i+(nx-l! c.pre.bs)) {h2:a_} (hh2:h2=Bv g 0 (l2.map (gS (kg g))) (dI m h)) (hsr:uk h h2 g (l! c.pre.bs)=J) (hla:cN h B=Z N)
 (hexec:∀(φ:PM) (E:Nat->Prop) (h':HF) (w:World) (a:Act),(∀t,.tmp t∈o.op.operands->∀y,fB e h t=Z y->cm φ (tot E φ h') w y (a.tmps.getD t undef))->oM φ E h' w->∃us:ξ,(execOp a.eval o).run P w= .ok (.enter f us.toArray) w/\ik φ (tot E φ h') w N us):
 eK P o aa e h i (RM (kq g rs)) (sm|||m) (sm|||m|||(((1<<<(l! c.post.bs-l! c.pre.bs))-1)<<<i)) h2 (i+(l! c.post.bs-l! c.pre.bs)):=by
 let⟨x1,m1,x2,m2,hx,hmm,gv,gb⟩:=A.ex;have hmr:dH h m:=by rw[hmm];exact (Qg _ _ _ _ gv).or (Qi _ _ _ _ gb)
 generalize hnp:l! c.pre.bs=np at*
 generalize hnq:l! c.post.bs=nq at*
 have pvg:oO (gU σ) c.pre.vs x1=Z (kq (gU σ) vs):=by
  have h3:=t_ (gU σ) c.pre.vs x1;have h4:=I.pv;rw[hx,tT]at h4;rw[h3,h4];rfl
 have pbg:pM (gU σ) c.pre.bs x2=Z (l1.map (gS (kg (gU σ)))):=by
  have h3:=wx (gU σ) c.pre.bs x2;have h4:=I.pb;rw[hx,vx]at h4;rw[h3,h4];rfl
 have hl1:∀nx,nx<np->∃b,l1[nx]? =Z (Z b):=λnx hi=>by
  have hi':nx<l! l1:=by rw[I.len,hnp];exact hi
  let⟨b,la⟩:=NY c.pre.bs _ l1 hng I.pb nx l1[nx] (aH hi');exact⟨b,by rw[aH hi',la]⟩
 have hbm:∀nx b,l1[nx]? =Z (Z b)->∃b0,h.get (gU σ nx)=Z b0/\BM (gU σ) h m b0 (kg (gU σ) b):=λnx b la=>by
  let⟨b0,q1,q2⟩:=Ko c.pre.bs 0 x2 m2 _ gb pbg nx (kg (gU σ) b) (by rw[bM,la];rfl);rw[b6]at q1;exact⟨b0,q1,q2.mono λj hj=>by rw[hmm,bj,hj];simp⟩
 have inj1:∀a b,a<np->b<np->gU σ a=gU σ b->a=b:=λa b ha la=>A.inj a b (by rw[hnp];exact ha) (by rw[hnp];exact la)
 have sig:∀q,aC sm q=J↔∃k,k<np/\gU σ k=q:=λq=>by rw[A.sig,hnp]
 have gnx:∀nx,nx<np->gU σ nx<i:=λnx hi=>by
  let⟨b,la⟩:=hl1 nx hi;let⟨b0,q1,_⟩:=hbm nx b la;exact hinv.low _ _ q1
 have hmS:∀nx,nx<np->aC m (gU σ nx)=aa:=λnx hi=>by
  cases hx:aC m (gU σ nx) with
  |false=>rfl
  |true=>have:=A.disj _ hx;rw[(sig _).2 ⟨nx,hi,rfl⟩]at this;cases this
 have injg:∀a b,a<nq->b<nq->g a=g b->a=b:=λa b ha la hab=>by
  by_cases h1:a<np
  .by_cases h2:b<np
   .rw[glo a h1,glo b h2]at hab;exact inj1 a b h1 h2 hab
   .rw[glo a h1,ghi b (by omega)]at hab;have:=gnx a h1;omega
  .by_cases h2:b<np
   .rw[ghi a (by omega),glo b h2]at hab;have:=gnx b h2;omega
   .rw[ghi a (by omega),ghi b (by omega)]at hab;omega
 let hv:a_:=Bv (gU σ) 0 (l1.map (gS (kg (gU σ)))) (dI m h)
 have hv_at:∀nx b,l1[nx]? =Z (Z b)->hv.get (gU σ nx)=Z (kg (gU σ) b):=λnx b la=>by
  have:=vF (gU σ) (l1.map (gS (kg (gU σ)))) 0 (dI m h) (λa b ha la=>by
   simp only[bN,I.len,hnp]at ha la;simp only[b6];exact inj1 a b ha la) nx (Z (kg (gU σ) b)) (by rw[bM,la];rfl)
  rw[b6]at this;exact this
 have hv_ne:∀j,(∀nx,nx<np->j≠gU σ nx)->hv.get j=(dI m h).get j:=λj hj=>
  vE (gU σ) _ 0 _ j λk hk=>by
   simp only[bN,I.len,hnp]at hk;rw[b6];exact hj k hk
 have rows_in:yd hv h:=λj r hr=>by
  rw[bH]at hr ⊢;by_cases hj:∃nx,nx<np/\j=gU σ nx
  .obtain⟨nx,hi,rfl⟩:=hj;let⟨b,la⟩:=hl1 nx hi;let⟨b0,q1,q2⟩:=hbm nx b la;rw[hv_at nx b la]at hr;rw[q1];simp only[aB]at hr ⊢;rw[<- q2.G];exact hr
  .rw[hv_ne j (λnx hi e=>hj ⟨nx,hi,e⟩),iq]at hr;split at hr
   next ht=>let⟨ty,p,T,xs,la⟩:=hmr j ht;rw[la]at hr ⊢;exact hr
   .exact hr
 have rows_hp:∀nx r,ep hp nx=Z r->ep hv (gU σ nx)=Z r:=λnx r hr=>by
  rw[bH]at hr ⊢;cases la:hp.get nx with
  |none=>rw[la]at hr;cases hr
  |some b=>
   rw[la]at hr;rw[hv_at nx b ((I.at_ nx b).1 la)];simp only[aB,Jj]at hr ⊢;exact hr
 have dead_m:∀nx,aC m nx=J->erHF hv (nm nx)=U:=λnx hi=>by
  rw[bU,hv_ne nx (λk hk e=>by rw[e,hmS k hk]at hi;cases hi)];let⟨p,sz,n,hd⟩:=ud hmr hi;rw[hd];rfl
 have h2_at:∀nx cc,l2[nx]? =Z cc->h2.get (g nx)=(match cc with|some b=>Z (kg g b)|none=>((dI m h).get (g nx)).map tA):=λnx cc hc=>by
  have:=vF g (l2.map (gS (kg g))) 0 (dI m h) (λa b ha la=>by
   simp only[bN,D.len,hnq]at ha la;simp only[b6];exact injg a b ha la) nx (cc.map (kg g)) (by rw[bM,hc];rfl)
  rw[b6]at this;rw[hh2,this];cases cc<;>rfl
 have h2_ne:∀j,(∀nx,nx<nq->j≠g nx)->h2.get j=(dI m h).get j:=λj hj=>by
  rw[hh2];refine vE g _ 0 _ j λk hk=>?_
  simp only[bN,D.len,hnq]at hk;rw[b6];exact hj k hk
 have rows_hq:∀nx r,ep hq nx=Z r->ep h2 (g nx)=Z r:=λnx r hr=>by
  rw[bH]at hr ⊢;cases la:hq.get nx with
  |none=>rw[la]at hr;cases hr
  |some b=>
   rw[la]at hr;rw[h2_at nx _ ((D.at_ nx b).1 la)];simp only[aB,Jj]at hr ⊢;exact hr
 have rows2:b8 h h2:=λj r hr=>by
  by_cases hj:∃nx,nx<np/\j=gU σ nx
  .obtain⟨nx,hi,rfl⟩:=hj;rw[<- glo nx hi]at hr ⊢;exact Gf np hsr nx hi r hr
  .have hjn:j<i:=by
    rw[bH]at hr;cases la:h.get j with
    |none=>rw[la]at hr;cases hr
    |some b=>exact hinv.low j b la
   have:=b8.kill m h j r hr;rw[bH]at this ⊢;rw[h2_ne j (λnx hi e=>?_)]
   .exact this
   .by_cases hip:nx<np
    .exact hj ⟨nx,hip,by rw[e,glo nx hip]⟩
    .rw[ghi nx (by omega)]at e;omega
 let⟨lr,hlr⟩:=fb hq rs D.ok;let⟨lp,hlp⟩:=fb hp vs I.ok;have er2:∀n yb,erHF hq n=Z yb->erHF h2 (oL g n)=Z (yb.qx (oL g)):=λn yb hn=>by
  let⟨b,la,hyb⟩:=gV hn;unfold erHF;rw[vV,xI,h2_at _ _ ((D.at_ _ b).1 la)];exact Bi rows_hq hyb
 have er2':∀n,ow n<nq->∀z,erHF h2 (oL g n)=Z z->∃yb,erHF hq n=Z yb/\z=yb.qx (oL g):=λn hi z hz=>by
  have hi':ow n<l! l2:=by rw[D.len,hnq];exact hi
  have hcc:=aH hi';unfold erHF at hz;rw[vV,xI]at hz;cases hcv:l2[ow n] with
  |none=>
   rw[hcv]at hcc;rw[h2_at _ U hcc]at hz;simp only at hz;cases hkg:(dI m h).get (g (ow n)) with
   |none=>rw[hkg]at hz;cases hz
   |some b0=>rw[hkg]at hz;exact (aew hz).elim
  |some b=>
   rw[hcv]at hcc;have la:=(D.at_ _ b).2 hcc;rw[h2_at _ (Z b) hcc]at hz;have hz:Mn h2 (g (ow n)) (ix n) (kg g b)=Z z:=hz;have hyb:∃yb,Mn hq (ow n) (ix n) b=Z yb:=by
    cases hk:ix n with
    |zero=>
     rw[hk]at hz;cases b with
     |F ty p T xs=>exact⟨z,hz⟩
     |C ty q=>
      let⟨q',hq'⟩:=fb hq q (D.C _ _ q la).1;cases ty<;>exact⟨_,by simp only[Mn,jG,hq'];rfl⟩
     |qj p sz n=>cases hz
     |mp K V es=>exact⟨_,rfl⟩
     |qw F a x=>
      simp only[Mn,kg,jG,Tq]at hz;let⟨y,hy,_⟩:=fY.1 hz;exact⟨y,hy⟩
     |qm F a x k p=>exact bO la (D.nox _ F a x k p)
    |succ k=>
     rw[hk]at hz;simp only[Mn,R8]at hz;let⟨y,hy,_⟩:=fY.1 hz;exact⟨y,hy⟩
   let⟨yb,hyb⟩:=hyb;rw[Bi rows_hq hyb]at hz;refine ⟨yb,?_,by cases hz;rfl⟩;unfold erHF;rw[la];exact hyb
 have dead2:∀nx,aC m nx=J->erHF h2 (nm nx)=U:=λnx hi=>by
  have hlt:=hmr.lt hinv hi;rw[bU,h2_ne nx (λk hk e=>?_)]
  .obtain⟨p,sz,n,hd⟩:=ud hmr hi;rw[hd];rfl
  .by_cases hkp:k<np
   .rw[e,glo k hkp,hmS k hkp]at hi;cases hi
   .rw[ghi k (by omega)]at e;omega
 have inv2:gC h2 (i+(nq-np)):=by
  refine ⟨λj ty q hj=>?_,λj b hj=>?_⟩
  .by_cases hjg:∃nx,nx<nq/\j=g nx
   .obtain⟨nx,hi,rfl⟩:=hjg;have hi':nx<l! l2:=by rw[D.len,hnq];exact hi
    have hcc:=aH hi';cases hcv:l2[nx] with
    |none=>
     rw[hcv]at hcc;rw[h2_at nx U hcc]at hj;simp only at hj;cases hkg:(dI m h).get (g nx) with
     |none=>rw[hkg]at hj;cases hj
     |some b0=>rw[hkg]at hj;exact (zV (eW hj)).elim
    |some b=>
     rw[hcv]at hcc;have la:=(D.at_ nx b).2 hcc;rw[h2_at nx (Z b) hcc]at hj;simp only[af]at hj;cases b with
     |C ty' q'=>
      simp only[kg,eC.C.injEq]at hj;obtain⟨_,rfl⟩:=hj;let⟨z,hz⟩:=fb hq q' (D.C nx _ q' la).1;exact kY _ _ _ (pt rows_hq q' z hz)
     |_=>simp[kg]at hj
   .rw[h2_ne j (λnx hi e=>hjg ⟨nx,hi,e⟩)]at hj;refine eS rows2 q ?_;have hkk:=(hinv.kill m).C j _ q hj;rw[iq]at hj;split at hj
    next ht=>let⟨_,_,_,_,la⟩:=hmr j ht;rw[la]at hj;cases hj
    .exact hinv.C j _ q hj
  .by_cases hjg:∃nx,nx<nq/\j=g nx
   .obtain⟨nx,hi,rfl⟩:=hjg;by_cases hip:nx<np
    .rw[glo nx hip];have:=gnx nx hip;omega
    .rw[ghi nx (by omega)];omega
   .rw[h2_ne j (λnx hi e=>hjg ⟨nx,hi,e⟩)]at hj;have:=(hinv.kill m).low j b hj;omega
 let⟨B1,hB1⟩:=IW hp;let⟨B2,hB2⟩:=IW hq;let⟨B3,hB3⟩:=IW h;let⟨B4,hB4⟩:=IW h2;let⟨B5,hB5⟩:=AV.ixL_ex lr;obtain⟨l,eB⟩:∃l,l=B1+B2+B3+B4+B5:=⟨_,rfl⟩
 let S:ι:=ahw ((lY np).map (gU σ)) l
 have memS:∀n,n∈S↔(∃nx,nx<np/\ow n=gU σ nx)/\ix n<=l:=λn=>by
  simp only[S,R7,bR,nM];exact⟨λ⟨⟨nx,h1,h2⟩,h3⟩=>⟨⟨nx,h1,h2.symm⟩,h3⟩,λ⟨⟨nx,h1,h2⟩,h3⟩=>⟨⟨nx,h1,h2.symm⟩,h3⟩⟩
 let NN:ι:=ahw ((lY (nq-np)).map λt=>i+t) l
 have Fg:∀n,n∈NN↔(∃t,t<nq-np/\ow n=i+t)/\ix n<=l:=λn=>by
  simp only[NN,R7,bR,nM];exact⟨λ⟨⟨nx,h1,h2⟩,h3⟩=>⟨⟨nx,h1,h2.symm⟩,h3⟩,λ⟨⟨nx,h1,h2⟩,h3⟩=>⟨⟨nx,h1,h2.symm⟩,h3⟩⟩
 have memW:∀n,n∈S++Gp m++NN↔((∃nx,nx<nq/\ow n=g nx)/\ix n<=l)\/n∈Gp m:=λn=>by
  rw[bF,bF,memS,Fg];constructor
  .rintro ((⟨⟨nx,hi,e⟩,hk⟩|hn)|⟨⟨t,ht,e⟩,hk⟩)
   .exact .inl ⟨⟨nx,by omega,by rw[glo nx hi];exact e⟩,hk⟩
   .exact .inr hn
   .exact .inl ⟨⟨np+t,by omega,by rw[ghi _ (by omega),show np+t-np=t from by omega];exact e⟩,hk⟩
  .rintro (⟨⟨nx,hi,e⟩,hk⟩|hn)
   .by_cases hip:nx<np
    .exact .inl (.inl ⟨⟨nx,hip,by rw[<- glo nx hip];exact e⟩,hk⟩)
    .exact .inr ⟨⟨nx-np,by omega,by rw[e,ghi nx (by omega)]⟩,hk⟩
   .exact .inl (.inr hn)
 have gamS:∀n,ow n<np->ix n<=l->oL (gU σ) n∈S:=λn hi hk=>(memS _).2 ⟨⟨ow n,hi,vV _ _⟩,by rw[xI];exact hk⟩
 have gamg:∀n,ow n<np->oL g n=oL (gU σ) n:=λn hi=>by unfold oL;rw[glo _ hi]
 have ungam:∀(g:Nat->Nat) (n nx:Nat),ow n=g nx->n=oL g (iM nx (ix n)):=λg n nx e=>by rw[Bh,<-e,j9]
 have hOpT:ft P o (fB e h) (erHF h) ⟨yU (AV.renL (oL g) lr),S++Gp m,S++Gp m++NN,erHF h2,NN⟩:=by
  intro φ E h' w a hrd hwr hops hrep hN;have hS':∀n,n∈S->h' n=erHF h n:=λn hn=>hrd _ (fQ _ hn)
  have hM':∀nx,aC m nx=J->h' (nm nx)=erHF h (nm nx):=λnx hi=>hrd _ (kE _ (lO.2 hi))
  let⟨us,hrun,hrel⟩:=hexec φ E h' w a hops hrep
  let Hv:HF:=λn=>if n∈S++Gp m then erHF hv n else h' n
  have Hv_in:∀n,n∈S++Gp m->Hv n=erHF hv n:=λn hn=>by simp only[Hv,hn,bo]
  have Hv_out:∀n,n∉S++Gp m->Hv n=h' n:=λn hn=>by simp only[Hv,hn,eV]
  have blkS:∀n,n∈S->∀z,erHF hv n=Z z->∃b0 c y0,h.get (ow n)=Z b0/\BM (gU σ) h m b0 c/\Mn h (ow n) (ix n) b0=Z y0/\Mn hv (ow n) (ix n) c=Z z:=λn hn z hz=>by
   let⟨⟨nx,hi,e⟩,_⟩:=(memS n).1 hn;let⟨b,la⟩:=hl1 nx hi;let⟨b0,q1,q2⟩:=hbm nx b la;unfold erHF at hz;rw[e,hv_at nx b la]at hz;have hz:Mn hv (gU σ nx) (ix n) (kg (gU σ) b)=Z z:=hz;rw[e];cases hk:ix n with
   |zero=>
    rw[hk]at hz;let⟨y0,hy0⟩:=BM.erB_some hinv q1 q2 hz;exact⟨b0,_,y0,q1,q2,hy0,hz⟩
   |succ k=>
    rw[hk]at hz;exact⟨b0,_,z,q1,q2,(q2.mem _ _).trans hz,hz⟩
  have hd:qe h' Hv:=λn b la=>by
   by_cases hn:n∈S++Gp m
   .rw[Hv_in n hn]at la;rcases bF.1 hn with hs|hs
    .obtain⟨b0,c,y0,q1,_,q4,_⟩:=blkS n hs b la;exact⟨y0,by rw[hS' n hs];unfold erHF;rw[q1];exact q4⟩
    .obtain⟨nx,rfl,hi⟩:=oa.1 hs;rw[dead_m nx hi]at la;cases la
   .rw[Hv_out n hn]at la;exact⟨b,la⟩
  have gvv:C4 h h' Hv m:=λnx hi=>⟨hM' nx hi,by rw[Hv_in _ (kE _ (lO.2 hi)),dead_m nx hi]⟩
  have V:L4 h' Hv:=⟨hd,λn b b' la hb'=>by
   by_cases hn:n∈S++Gp m
   .rw[Hv_in n hn]at hb';rcases bF.1 hn with hs|hs
    .obtain⟨b0,c,y0,q1,q3,q4,q5⟩:=blkS n hs b' hb';rw[hS' n hs]at la;unfold erHF at la;rw[q1]at la;have la:Mn h (ow n) (ix n) b0=Z b:=la;cases hk:ix n with
     |zero=>rw[hk]at la q5;exact BM.view hd gvv rows_in q3 la q5
     |succ k=>
      rw[hk]at la q5;have:=(q3.mem (ow n) k).symm.trans la;have q5:vh (ow n) k c=Z b':=q5;rw[q5]at this;cases this;exact fM.refl hd _
    .obtain⟨nx,rfl,hi⟩:=oa.1 hs;rw[dead_m nx hi]at hb';cases hb'
   .rw[Hv_out n hn,la]at hb';cases hb';exact fM.refl hd b⟩
  have hrepv:=V.zq hrep;have hlpg:cN hv (kq (gU σ) vs)=Z (AV.renL (oL (gU σ)) lp):=pt rows_hp vs lp hlp;have hrel1:ik φ (tot E φ Hv) w (AV.renL (oL (gU σ)) lp) us:=
   ik.le hrep (DX hd rows_in c.pre.vs B x1 m1 _ N _ gv pvg hla hlpg (λnx hi=>gvv nx (by rw[hmm,bj,hi];rfl))) hrel
  let E':Nat->Prop:=λk=>E k\/∃n b,Hv n=Z b/\n∉S/\φ n=Z k
  have T:ajx c.pre x vs hp (gU σ) φ E E' Hv w:=by
   refine oM.toId I (λa b ha la=>inj1 a b (by rw[<- hnp];exact ha) (by rw[<- hnp];exact la)) hrepv (λn yb hn=>?_) ?_ ?_ ?_
   .obtain⟨hi,_⟩:=I.erHF hn;rw[hnp]at hi;have hk:=(hB1 n yb hn).1;let⟨b,la,hyb⟩:=gV hn;rw[Hv_in _ (fQ _ (gamS n hi (by omega)))];unfold erHF;rw[vV,xI,hv_at _ b ((I.at_ _ b).1 la)];exact Bi rows_hp hyb
   .rintro k (hE|⟨n,b,h1,_,h3⟩)
    .exact .inl hE
    .exact .inr ⟨n,b,h1,h3⟩
   .intro n0 k y0 hn0 h3 hE0;let⟨hi,_⟩:=I.erHF hn0;rw[hnp]at hi;have hk:=(hB1 n0 y0 hn0).1;have h1:Hv (oL (gU σ) n0)=Z (y0.qx (oL (gU σ))):=by
     let⟨b,la,hyb⟩:=gV hn0;rw[Hv_in _ (fQ _ (gamS n0 hi (by omega)))];unfold erHF;rw[vV,xI,hv_at _ b ((I.at_ _ b).1 la)];exact Bi rows_hp hyb
    rcases hE0 with hE|⟨n,b',h4,h5,h6⟩
    .obtain⟨k',p1,p2,_⟩:=hrepv.at_ _ _ h1;rw[h3]at p1;cases p1;exact p2 hE
    .have:=hrepv.inj _ _ _ _ k h1 h4 h3 h6;exact h5 (by rw[<- this];exact gamS n0 hi (by omega))
   .rintro k (hE|⟨n,b,h1,_,h3⟩)
    .exact hrepv.el k hE
    .obtain⟨k',q1,_,ob,q3,_⟩:=hrepv.at_ n b h1;rw[h3]at q1;cases q1;exact (cR.1 q3).1
  have hcalls:=sp.calls x y hm vs hp l1 rs hq l2 lp lr I D hlp hlr (φ1 (l! c.pre.bs) (gU σ) φ) E' w us T.zq (ik.toId T.val (tQ vs lp I.lt hlp) hrel1) (λn k hk=>(xn hk).1);unfold vp;rw[hrun];refine Calls.mono hcalls ?_;rintro en w' ⟨v,φc',rfl,hext,hown,hnm,rp,rv'⟩
  let isN:Nat->Prop:=λn=>n∈NN
  let φ':PM:=λn=>if n∈NN then φc' (iM (np+(ow n-i)) (ix n)) else φ n
  have φ'_old:∀n,n∉NN->φ' n=φ n:=λn hn=>by simp only[φ',hn,eV]
  have loN:∀n,ow n<i->n∉NN:=λn hi hn=>by
   let⟨⟨t,_,e⟩,_⟩:=(Fg _).1 hn;omega
  have φ'_g:∀n,ow n<nq->ix n<=l->φ' (oL g n)=φc' n:=λn hi hk=>by
   by_cases hip:ow n<np
   .rw[gamg n hip,φ'_old _ (loN _ (by rw[vV];exact gnx _ hip)),hnm n (by rw[hnp];exact hip),ac6 (by rw[hnp];exact hip)]
   .have hg:=ghi (ow n) (by omega);have:oL g n∈NN:=(Fg _).2 ⟨⟨ow n-np,by omega,by rw[vV,hg]⟩,by rw[xI];exact hk⟩;simp only[φ',this,bo,vV,xI,hg];rw[show np+(i+(ow n-np)-i)=ow n from by omega,j9]
  have hsub:∀n k,φ n=Z k->φ' n=Z k:=λn k hk=>by
   by_cases hn:n∈NN
   .rw[hN n hn]at hk;cases hk
   .rw[φ'_old n hn];exact hk
  let F:HF:=dZ h' (S++Gp m++NN) (erHF h2)
  have F_g:∀n,n∈S++Gp m++NN->F n=erHF h2 n:=λn hn=>by
   simp only[F,dZ,hn,bo]
  have F_out:∀n,n∉S++Gp m++NN->F n=h' n:=λn hn=>by simp only[F,dZ,hn,eV]
  have from_:∀n b,F n=Z b->(∃nx yb,ow nx<nq/\ix nx<=l/\n=oL g nx/\erHF hq nx=Z yb/\b=yb.qx (oL g))\/(h' n=Z b/\Hv n=Z b/\n∉S/\n∉NN/\φ' n=φ n):=λn b la=>by
   by_cases hn:n∈S++Gp m++NN
   .rcases (memW n).1 hn with ⟨⟨nx,hi,e⟩,hk⟩|hs
    .rw[F_g n hn]at la;have e2:=ungam g n nx e;have ho:ow (iM nx (ix n))<nq:=by rw[im];exact hi
     let⟨yb,q1,q2⟩:=er2' (iM nx (ix n)) ho b (by rw[<- e2];exact la);exact .inl ⟨iM nx (ix n),yb,ho,by rw[uH];exact hk,e2,q1,q2⟩
    .obtain⟨nx,rfl,hi⟩:=oa.1 hs;have:F (nm nx)=erHF h2 (nm nx):=by simp only[F,dZ,hn,bo]
     rw[this,dead2 nx hi]at la;cases la
   .rw[F_out n hn]at la;have h1:n∉S++Gp m:=λhh=>hn (fQ _ hh)
    have h3:n∉NN:=λhh=>hn (kE _ hh)
    exact .inr ⟨la,by rw[Hv_out n h1];exact la,λhh=>h1 (fQ _ hh),h3,φ'_old n h3⟩
  have own':∀k,own φ' F k->own φc' (erHF hq) k\/∃n b,Hv n=Z b/\n∉S/\φ n=Z k:=by
   rintro k ⟨n,b,h1,h3⟩;rcases from_ n b h1 with ⟨nx,yb,hi,hk,rfl,q1,_⟩|⟨_,q2,q3,_,q5⟩
   .rw[φ'_g nx hi hk]at h3;exact .inl ⟨nx,yb,q1,h3⟩
   .exact .inr ⟨n,b,q2,q3,by rw[<- q5];exact h3⟩
  have mv:gR φ φ' h' F w w':=by
   refine ⟨hsub,hext.mono λk hk=>hd.own (T.qn k hk),λk hk ho=>?_⟩;rcases own' k ho with h1|⟨n,b,h1,_,h3⟩
   .exact hd.own (T.qn k (hown k hk h1))
   .exact hd.own ⟨n,b,h1,h3⟩
  have tot':∀k,tot E φ' F k->tot E' φc' (erHF hq) k:=by
   rintro k (h1|h1)
   .exact .inl (.inl h1)
   .rcases own' k h1 with h3|h3
    .exact .inr h3
    .exact .inl (.inr h3)
  let φr:PM:=λn=>if NT nq n&&VD l n then φc' n else U
  have rel_r:∀x v,x.all (λn=>NT nq n&&VD l n)=J->cm φc' (tot E' φc' (erHF hq)) w' x v->cm φr (tot E φ' F) w' x v:=λx v hx hr=>
   hr.restrict (λnx k hi hk=>by simp only[φr,hi,bo];exact hk) tot' hx
  have rel_g:∀x v,cm φr (tot E φ' F) w' x v->cm φ' (tot E φ' F) w' (x.qx (oL g)) v:=λx v hr=>
   hr.renTo λn k hk=>by
    simp only[φr]at hk;split at hk
    next hpn=>simp only[al]at hpn;rw[φ'_g n (Dr.1 hpn.1) (aW hpn.2)];exact hk
    .cases hk
  have hnqJ:=hnq;refine ⟨v,φ',rfl,mv,λn k hk=>?_,?_,?_⟩
  .by_cases hn:n∈NN
   .exact .inr hn
   .rw[φ'_old n hn]at hk;exact .inl hk
  .refine ⟨λn n' b b' k h1 h3 h4 h5=>?_,λn b h1=>?_,λk hk=>dj (hrep.el k hk) mv.ext.size,λg' cells hg=>mv.keepF (hrep.gl g' cells hg)⟩
   .rcases from_ n b h1 with ⟨nx,yb,hi,hik,rfl,hqi,_⟩|⟨q1,q2,q3,_,q5⟩
    .rw[φ'_g nx hi hik]at h4;rcases from_ n' b' h3 with ⟨j,yj,hj,hjk,rfl,t1,_⟩|⟨t1,t2,t3,_,t5⟩
     .rw[φ'_g j hj hjk]at h5;rw[rp.inj _ _ _ _ k hqi t1 h4 h5]
     .exfalso;let⟨k',p1,p2,_⟩:=rp.at_ _ _ hqi;rw[h4]at p1;cases p1;exact p2 (.inr ⟨n',b',t2,t3,by rw[<- t5];exact h5⟩)
    .rcases from_ n' b' h3 with ⟨j,yj,hj,hjk,rfl,hqj,_⟩|⟨t1,t2,t3,_,t5⟩
     .exfalso;rw[φ'_g j hj hjk]at h5;let⟨k',p1,p2,_⟩:=rp.at_ _ _ hqj;rw[h5]at p1;cases p1;exact p2 (.inr ⟨n,b,q2,q3,by rw[<- q5];exact h4⟩)
     .exact hrep.inj n n' b b' k q1 t1 (by rw[<- q5];exact h4) (by rw[<- t5];exact h5)
   .rcases from_ n b h1 with ⟨nx,yb,hi,hik,rfl,hqi,rfl⟩|⟨q1,q2,q3,_,q5⟩
    .obtain⟨k,p1,p2,ob,p3,p4⟩:=rp.at_ _ _ hqi;have hall:=(D.erHF hqi).2;rw[hnq]at hall;have hall2:=BC.all_and hall (BC.all_ix (show B2<=l by omega) (hB2 nx yb hqi).2);exact⟨k,by rw[φ'_g nx hi hik];exact p1,λhE=>p2 (.inl hE),ob,p3,(p4.restrict rel_r hall2).renTo rel_g⟩
    .obtain⟨k,p1,p2,ob,p3,p4⟩:=hrep.at_ n b q1;have hk:k<w.heap.size:=(cR.1 p3).1;refine ⟨k,hsub n k p1,p2,ob,?_,p4.mono λx v hr=>mv.ql hr⟩;rw[hext.jg k hk ?_]
     .exact p3
     .rintro⟨n',y',t1,t2⟩;let⟨hi,t3⟩:=xn t2;rw[hnp]at hi;have hik:=(hB1 n' y' t1).1;have hvi:Hv (oL (gU σ) n')=Z (y'.qx (oL (gU σ))):=by
       let⟨bb,t4,t5⟩:=gV t1;rw[Hv_in _ (fQ _ (gamS n' hi (by omega)))];unfold erHF;rw[vV,xI,hv_at _ bb ((I.at_ _ bb).1 t4)];exact Bi rows_hp t5
      have:=hrepv.inj _ _ _ _ k hvi q2 t3 p1;exact q3 (by rw[<- this];exact gamS n' hi (by omega))
  .have hall:(yU lr).all (λn=>NT nq n&&VD l n)=J:=AV.all_and _ (Rt (by have:=tQ rs lr D.lt hlr;rwa [hnq]at this)) (Rt (AV.allL_ix (by omega) lr hB5));show cm φ' (tot E φ' F) w' (yU (AV.renL (oL g) lr)) v;rw[acg];exact rel_g _ _ (rel_r _ _ hall rv')
 have hrsg:cN h2 (kq g rs)=Z (AV.renL (oL g) lr):=pt rows_hq rs lr hlr;refine ⟨⟨_,hOpT,λz hz=>?_,?_,λn hn=>?_,λn hn=>?_,λn hn=>?_⟩,rows2,inv2,by omega,nofun⟩
 .rw[Yb hrsg]at hz;cases hz;rfl
 .funext n;unfold dZ;split
  .rfl
  .rename_i hn;by_cases hg:∃nx,nx<nq/\ow n=g nx
   .have hB:¬ix n<=l:=λhk=>hn ((memW _).2 (.inl ⟨hg,hk⟩))
    have n1:∀H:a_,(∀y,erHF H n=Z y->ix n<=l)->erHF H n=U:=λH hH=>by
     cases hx:erHF H n with
     |none=>rfl
     |some y=>exact bO (hH y hx) hB
    rw[n1 h λy hy=>cA (hB3 n y hy).1 (by omega),n1 h2 λy hy=>cA (hB4 n y hy).1 (by omega)]
   .have hg2:=h2_ne (ow n) λnx hi e=>hg ⟨nx,hi,e⟩
    unfold erHF;rw[hg2,iq];split
    .rename_i la;let⟨ty,p,T,xs,hx⟩:=hmr _ la;rw[hx];cases hk:ix n with
     |zero=>exact bO ((memW _).2 (.inr (by rw[oC hk];exact lO.2 la))) hn
     |succ k=>rfl
    .cases hx:h.get (ow n) with
     |none=>rfl
     |some b=>exact (lx rows2 (λty B e=>hinv.C _ _ B (by rw[hx,e])) _ _).symm
 .rw[bj];rcases bF.1 hn with hs|hs
  .obtain⟨⟨nx,hi,e⟩,_⟩:=(memS n).1 hs;rw[(sig _).2 ⟨nx,hi,e.symm⟩];rfl
  .obtain⟨nx,rfl,hi⟩:=oa.1 hs;rw[dh,hi];simp
 .rw[bj,bj];rcases bF.1 hn with hs|hs
  .rcases bF.1 hs with hs|hs
   .obtain⟨⟨nx,hi,e⟩,_⟩:=(memS n).1 hs;rw[(sig _).2 ⟨nx,hi,e.symm⟩];rfl
   .obtain⟨nx,rfl,hi⟩:=oa.1 hs;rw[dh,hi];simp
  .obtain⟨⟨t,ht,e⟩,_⟩:=(Fg n).1 hs;rw[ahy.2 ⟨by omega,by omega⟩];simp
 .obtain⟨⟨t,ht,e⟩,_⟩:=(Fg n).1 hn;omega
end
end Go.Proofs.YtlmflgjjamepmaaGreatDoor.AI
