/-
  Texts of the proof, part 4 of 6: what is used to prove the statement. No condition.
-/
import Derived.Test.YthehadcddfilhaaGreatDoorHBOrdersQ2
import Derived.Deep.AppendSrc
import Derived.Laws.AppendOwn
import Derived.Defers
namespace Go.Proofs.YthehadcddfilhaaGreatDoor.AI
open Go.RowKit
set_option maxRecDepth 100000
set_option maxHeartbeats 4000000
set_option linter.unusedVariables false
set_option linter.unusedSimpArgs false
open Act renaming put→NK
open _root_.Array renaming length_toList→iy,range→yI
open _root_.Bool renaming true→ai,false→aj
open Builtin renaming zeroCells→lA,firstCells→Ld
open Call renaming operands→eU
open Instr renaming findNow→jz,sliceBounds→jP,sliceBound→kz,sliceAt→pA,slice→uL
open _root_.Int renaming ofNat→aO,toNat→aU
open IntKind renaming wrap→kJ
open _root_.List renaming length→al,replicate→aG,length_cons→b7,range→cS,take→dP,cons_append→gu,length_nil→jT,toArray→kG,nil_append→lU,take_succ_cons→vW,foldl_cons→xk
open _root_.Nat renaming beq→aC,testBit→aN,add_zero→dv,ble→eM,blt→gp,min→iS
open Oper renaming wp→HA
open _root_.Option renaming some→af,none→ah,bind_some→aH,map_some→ch,getD_some→uX
open Region renaming wanted→iM
open Result renaming andThen_ok→cL
open Sem renaming run_bind→eL,run→nD,run_pure→oR
open Value.bool renaming injEq→Ci
open World renaming shape?→rR,cell?→NH
noncomputable section
section
variable {P:Program} {o:Oper} {e:zY} {h:n_} {nx:Nat} {R:Cg}
theorem Wu {α:Type} {l cs:List α} {off sz:Nat} (h:off+sz<=l.length) (he:(l.drop off).take sz=cs):cs.length=sz/\∀ (j:Nat) x,cs[j]? =af x->l[off+j]? =af x:=by
 subst he;constructor
 .simp;omega
 .intro j x I;rw[cU] at I;split at I
  .rw[gZ] at I;exact I
  .cases I
theorem xI (f:Nat->Value) (n j:Nat) (v:Value) (h:((cS n).map f)[j]? =af v):v=f j/\j<n:=by
 rw[ba] at h;rcases b9 j n with hj|hj
 .rw[vX hj] at h;simp at h;exact⟨h.symm,hj⟩
 .rw[bS (by simpa using hj)] at h;cases h
def xY (φ:PM) (O:Nat->Prop) (w:World) (c:BC) (f:Nat->Option Value):Prop:=∀ j x,c.get j=af x->x.isCell=ai/\∃ v,f j=af v/\cO φ O w x v
theorem Wt {φ:PM} {O:Nat->Prop} {w:World} {c:BC} {off sz:Nat} {ag:Bool} {val:AV} (hs:c.sub? off sz ag=af val) {f:Nat->Option Value} (hc:xY φ O w c f):
 ∃ cs:List Value,cs.length=sz/\(∀ (j:Nat) v,cs[j]? =af v->f (off+j)=af v)/\(ag=aj->sz=1)/\cO φ O w val (if ag then .agg cs.toArray else cs.getD 0 undef):=by
 cases ag with
 |false=>
  simp only[BC.sub?] at hs;split at hs
  .obtain⟨h0,v,h1,h2⟩:=hc off val hs;exact⟨[v],rfl,λj u hu=>by cases j with|zero=>simp at hu;subst hu;exact h1|succ j=>simp at hu,λ_=>rfl,by simpa using h2⟩
  .cases hs
 |true=>
  have fin:∀ (g:Nat->Option AV),(∀ j,j<sz->∃ x,g j=af x/\c.get (off+j)=af x)->
   ∃ cs:List Value,cs.length=sz/\(∀ (j:Nat) v,cs[j]? =af v->f (off+j)=af v)/\∀ (j:Nat) x v,g j=af x->cs[j]? =af v->cO φ O w x v:=by
   intro g hg;refine ⟨(cS sz).map λj=>(f (off+j)).getD undef,by simp,λj v hv=>?_,λj x v I hv=>?_⟩
   .obtain⟨rfl,hj⟩:=xI _ _ _ _ hv;obtain⟨x,_,h2⟩:=hg j hj;obtain⟨_,v,J,_⟩:=hc _ _ h2;rw[J];rfl
   .obtain⟨rfl,hj⟩:=xI _ _ _ _ hv;obtain⟨U,h1,h2⟩:=hg j hj;rw[I] at h1;cases h1;obtain⟨_,v,J,M⟩:=hc _ _ h2;rw[J];exact M
  simp only[BC.sub?] at hs;split at hs
  .rename_i l;split at hs
   .rename_i hle;simp only[ak] at hs;subst hs;obtain⟨hl,hg⟩:=Wu (a8 hle) (rfl:(l.drop off).take sz=_);obtain⟨cs,h1,h2,J⟩:=fin (λj=>(((l.drop off).take sz)[j]?).map AV.f) (λj hj=>by
     have hlt:j<((l.drop off).take sz).length:=by rw[hl];exact hj
     refine ⟨.f ((l.drop off).take sz)[j],by simp only[aB hlt,ch],?_⟩;simp only[BC.get,hg j _ (aB hlt),ch])
    refine ⟨cs,h1,h2,(λh=>by cases h),.f (.agg _ _ (by rw[h1,hl]) ?_ ?_)⟩
    .intro x I;obtain⟨j,hj⟩:=fc I;exact (hc (off+j) (.f x) (by simp only[BC.get,hg j x hj,ch])).1
    .intro j x v I hv;have:=J j (.f x) v (by simp only[I,ch]) hv;cases this with
     |f h=>exact h
   .cases hs
  .rename_i l;split at hs
   .rename_i hle;simp only[ak] at hs;subst hs;obtain⟨hl,hg⟩:=Wu (a8 hle) (rfl:(l.drop off).take sz=_);obtain⟨cs,h1,h2,J⟩:=fin (λj=>(((l.drop off).take sz)[j]?)) (λj hj=>by
     have hlt:j<((l.drop off).take sz).length:=by rw[hl];exact hj
     exact⟨_,aB hlt,hg j _ (aB hlt)⟩)
    refine ⟨cs,h1,h2,(λh=>by cases h),.agg (by rw[h1,hl]) ?_ ?_⟩
    .intro x I;obtain⟨j,hj⟩:=fc I;exact (hc (off+j) x (hg j x hj)).1
    .intro j x v I hv;exact J j x v I hv
   .cases hs
  .cases hs
theorem N3 {t:TypeId} {sz:Nat} {ag:Bool} (hs:fx P t=af sz) (I:D2 P t=af ag) (w:World) (b off:Nat) (cs:List Value) (hl:cs.length=sz) (hc:∀ (j:Nat) v,cs[j]? =af v->w.cell? ⟨b,off+j,ah⟩=af v) (h1:ag=aj->sz=1):
 (loadVar t ⟨b,off,ah⟩).run P w= .ok (if ag then .agg cs.toArray else cs.getD 0 undef) w:=by
 unfold loadVar;simp only[eL,Qh I w,cL];cases ag with
 |true=>
  simp only[bH,eL,gA hs w,cL];rw[<- hl,run_loadCells_list (P:=P) w ⟨b,off,ah⟩ cs (λj v hv=>by rw[k_];exact hc j v hv)];rfl
 |false=>
  have h1:=h1 rfl;cases cs with
  |nil=>simp at hl;omega
  |cons v r=>
   have:=hc 0 v rfl;simp only[dv] at this;simp[load,nD,this]
theorem IK {φ:PM} {O:Nat->Prop} {w:World} {t:TypeId} {sz:Nat} {ag:Bool} (hs:fx P t=af sz) (I:D2 P t=af ag) {c:BC} {b base off:Nat} {val:AV} (hv:c.sub? off sz ag=af val)
 (hc:xY φ O w c λj=>w.cell? ⟨b,base+j,ah⟩):∃ v,(loadVar t ⟨b,base+off,ah⟩).run P w= .ok v w/\cO φ O w val v:=by
 obtain⟨cs,h1,h2,M,J⟩:=Wt hv hc;exact⟨_,N3 hs I w b (base+off) cs h1 (λj v hj=>by rw[px];exact h2 j v hj) M,J⟩
theorem SA {φ:PM} {E:Nat->Prop} {h':HF} {w:World} (hrep:rf φ E h' w) {id k:Nat} {b:xh} (hb:h' id=af b) (hk:φ id=af k) (hc:b.c.isCells=ai):xY φ (tot E φ h') w b.c λj=>w.cell? ⟨k,0+j,ah⟩:=by
 obtain⟨k',h1,_,h2⟩:=hrep.at_ id b hb;rw[hk] at h1;cases h1;obtain⟨arr,M,h4,J⟩:=h2.cells hc;intro j x I;obtain⟨Z,v,Y,U⟩:=J j x I;exact⟨Z,v,by simp[NH,M,Y],U⟩
theorem VV {φ:PM} {O:Nat->Prop} {w:World} {cells:List FV} {b base:Nat} {us:Nat->Value} (hcl:∀ x∈cells,x.isCell=ai) (hu:∀ j,j<cells.length->w.cell? ⟨b,base+j,ah⟩=af (us j)) (hr:∀ (j:Nat) x,cells[j]? =af x->ny O w x (us j)):
 xY φ O w (.fz cells) λj=>w.cell? ⟨b,base+j,ah⟩:=by
 intro j y I;simp only[BC.get] at I;cases hc:cells[j]? with
 |none=>rw[hc] at I;cases I
 |some q=>
  rw[hc] at I;simp at I;subst I;have hj:j<cells.length:=(bl.1 hc).1;exact⟨hcl q (bd hc),us j,hu j hj,.f (hr j q hc)⟩
theorem P3 {c:BC} {off sz:Nat} {ag:Bool} {v:AV} (h:c.sub? off sz ag=af v):c.isCells=ai:=by
 cases c with
 |fz=>rfl
 |mx=>rfl
 |mp es=>cases ag<;>simp only[BC.sub?,BC.get] at h<;>(try split at h)<;>cases h
 |it s p=>cases ag<;>simp only[BC.sub?,BC.get] at h<;>(try split at h)<;>cases h
theorem SX {t:TypeId} {sz:Nat} {ag:Bool} (hs:fx P t=af sz) (hag:D2 P t=af ag) {p:AV} (I:DZ h sz ag p=af R):
 R.wr=[]/\R.nw=[]/\R.N=[]/\∀ (φ:PM) (E:Nat->Prop) (h':HF) (w:World) (pv:Value),(∀ i∈R.rd,h' i=h.get i)->rf φ E h' w->cO φ (tot E φ h') w p pv->
  ∃ J v,pv= .pointer (af J)/\(loadVar t J).run P w= .ok v w/\cO φ (tot E φ h') w R.val v:=by
 unfold DZ at I;split at I
 .rename_i id off;split at I
  .rename_i b hb;split at I
   .rename_i v hv;simp only[ak] at I;subst I;refine ⟨rfl,rfl,rfl,λφ E h' w pv hrd hrep hr=>?_⟩;have hh:h' id=af b:=by rw[hrd id (by simp)];exact hb
    cases hr with
    |@ptr _ _ k hφ=>
     obtain⟨u,h1,h2⟩:=IK hs hag (w:=w) (b:=k) (base:=0) hv (SA hrep hh hφ (P3 hv));rw[bN] at h1;exact⟨_,u,rfl,h1,h2⟩
   .cases I
  .cases I
 .rename_i cells off;split at I
  .rename_i v hv;rw[dC I];refine ⟨rfl,rfl,rfl,λφ E h' w pv hrd hrep hr=>?_⟩;cases hr with
   |f hr=>
    cases hr with
    |ptr _ _ b base us hO hb hcl hu hr=>
     obtain⟨u,h1,h2⟩:=IK (φ:=φ) (O:=tot E φ h') hs hag (w:=w) (b:=b) (base:=base) hv (VV hcl hu hr);exact⟨_,u,rfl,h1,h2⟩
  .cases I
 .cases I
theorem ajo {t:TypeId} {x:Operand} {sz:Nat} {ag:Bool} (J:o.op= .load t x) (hs:fx P t=af sz) (hag:D2 P t=af ag) (I:eS (.load sz ag x) e h nx=af R):gQ P o e.get h.get R.eff:=by
 simp only[eS] at I;split at I
 .rename_i p Y;obtain⟨h1,h2,U,M⟩:=SX hs hag I;obtain⟨val,rd,wr,nw,N⟩:=R;simp only at h1 h2 U M;subst h1;subst h2;subst U;refine gQ.reads λφ E h' w a hrd hp hrep=>?_
  obtain⟨ad,v,h5,h6,Z⟩:=M φ E h' w _ hrd hrep (hp x _ (by rw[J];simp[Op.operands]) Y);refine ⟨v,?_,Z⟩;unfold execOp;rw[J];simp[Instr.loadAt,h5,Instr.sureAddr,h6]
 .cases I
theorem WL {φ:PM} {O:Nat->Prop} {w:World} {t:TypeId} {sz:Nat} {ag:Bool} (hs:fx P t=af sz) (hag:D2 P t=af ag) {c:BC} {off:Nat} {val:AV} (hv:c.sub? off sz ag=af val) {vs:List Value}
 (hc:xY φ O w c λj=>vs[j]?):∃ v,(part t vs.toArray off).run P w= .ok v w/\cO φ O w val v:=by
 obtain⟨cs,h1,h2,J,I⟩:=Wt hv hc;refine ⟨_,?_,I⟩;unfold part;simp only[eL,Qh hag w,cL];cases ag with
 |true=>
  simp only[bH,eL,gA hs w,cL];have:vs.toArray.extract off (off+sz)=cs.toArray:=by
   apply Lf;simp only[Array.toList_extract,List.extract_eq_take_drop];apply List.ext_getElem?;intro j;rw[show off+sz-off=sz from by omega,cU,gZ];rcases b9 j sz with hj|hj
   .rw[aF hj];have:=h2 j _ (aB (by omega:j<cs.length));rw[this,aB (by omega:j<cs.length)]
   .rw[ay (by omega),bS (by omega)]
  rw[this];rfl
 |false=>
  have M:=J rfl;cases cs with
  |nil=>simp at h1;omega
  |cons v r=>
   have:=h2 0 v rfl;simp only[dv] at this;simp[this]
theorem SD {φ:PM} {O:Nat->Prop} {w:World} {l:List AV} {vs:List Value} (hl:vs.length=l.length) (hcl:∀ x∈l,x.isCell=ai) (hr:∀ (j:Nat) x v,l[j]? =af x->vs[j]? =af v->cO φ O w x v):xY φ O w (.mx l) λj=>vs[j]? :=by
 intro j x I;simp only[BC.get] at I;have hj:j<vs.length:=by rw[hl];exact (bl.1 I).1
 exact⟨hcl x (bd I),vs[j],aB hj,hr j x _ I (aB hj)⟩
theorem Pn {φ:PM} {O:Nat->Prop} {w:World} {l:List FV} {vs:List Value} (hl:vs.length=l.length) (hcl:∀ x∈l,x.isCell=ai) (hr:∀ (j:Nat) x v,l[j]? =af x->vs[j]? =af v->ny O w x v):xY φ O w (.fz l) λj=>vs[j]? :=by
 intro j x I;simp only[BC.get] at I;cases hc:l[j]? with
 |none=>rw[hc] at I;cases I
 |some q=>
  rw[hc] at I;simp at I;subst I;have hj:j<vs.length:=by rw[hl];exact (bl.1 hc).1
  exact⟨hcl q (bd hc),vs[j],aB hj,.f (hr j q _ hc (aB hj))⟩
theorem KM {φ:PM} {O:Nat->Prop} {w:World} {t:TypeId} {sz:Nat} {ag:Bool} (hs:fx P t=af sz) (hag:D2 P t=af ag) {x:AV} {z:Value} (hr:cO φ O w x z) {off:Nat} {val:AV}
 (hv:(∃ l,x= .agg l/\(BC.mx l).sub? off sz ag=af val)\/(∃ l,x= .f (.agg l)/\(BC.fz l).sub? off sz ag=af val)):∃ cs v,z= .agg cs/\(part t cs off).run P w= .ok v w/\cO φ O w val v:=by
 rcases hv with ⟨l,rfl,hv⟩|⟨l,rfl,hv⟩
 .cases hr with
  |agg hl hcl hr=>
   obtain⟨v,h1,h2⟩:=WL hs hag hv (SD hl hcl hr);exact⟨_,v,rfl,h1,h2⟩
 .cases hr with
  |f hr=>
   cases hr with
   |agg _ vs hl hcl hr=>
    obtain⟨v,h1,h2⟩:=WL (φ:=φ) hs hag hv (Pn hl hcl hr);exact⟨_,v,rfl,h1,h2⟩
theorem an6 {s:TypeId} {fs:Array Field} {k:Nat} {f:Field} {sz:Nat} {ag:Bool} {x:Operand} (M:o.op= .field s x k) (hu:P.underlying s=af (.struct fs)) (hf:fs[k]? =af f) (hs:fx P f.type=af sz) (hag:D2 P f.type=af ag) (I:eS (.fld f.offset sz ag x) e h nx=af R):gQ P o e.get h.get R.eff:=by
 have fin:∀ (y:AV) (val:AV),mG e x=af y->((∃ l,y= .agg l/\(BC.mx l).sub? f.offset sz ag=af val)\/(∃ l,y= .f (.agg l)/\(BC.fz l).sub? f.offset sz ag=af val))->rv val=af R->gQ P o e.get h.get R.eff:=by
  intro y val J hv U;rw[dC U];refine gQ.reads λφ E h' w a _ hp _=>?_
  obtain⟨cs,v,h1,h2,Y⟩:=KM hs hag (hp x _ (by rw[M];simp[Op.operands]) J) hv;refine ⟨v,?_,Y⟩;unfold execOp;rw[M];simp[Instr.field,run_underlying hu,hf,h1,asAgg,h2]
 simp only[eS] at I;split at I
 .rename_i l J;split at I
  .rename_i v hv;exact fin _ v J (.inl ⟨l,rfl,hv⟩) I
  .cases I
 .rename_i l J;split at I
  .rename_i v hv;exact fin _ v J (.inr ⟨l,rfl,hv⟩) I
  .cases I
 .cases I
theorem an4 {t el:TypeId} {n sz:Nat} {ag:Bool} {x y:Operand} (J:o.op= .index t x y) (hu:P.underlying t=af (.array n el)) (hs:fx P el=af sz) (hag:D2 P el=af ag) (I:eS (.idx n sz ag x y) e h nx=af R):gQ P o e.get h.get R.eff:=by
 simp only[eS] at I;split at I
 .rename_i v0 k j U M;split at I
  .rename_i hc;simp only[c7,fQ,av,be] at hc;obtain⟨h0,h1⟩:=hc;have fin:∀ (val:AV),((∃ l,v0= .agg l/\(BC.mx l).sub? (j.toNat*sz) sz ag=af val)\/(∃ l,v0= .f (.agg l)/\(BC.fz l).sub? (j.toNat*sz) sz ag=af val))->rv val=af R->gQ P o e.get h.get R.eff:=by
    intro val hv Y;rw[dC Y];refine gQ.reads λφ E h' w a _ hp _=>?_
    have hyv:=fB (hp y _ (by rw[J];simp[Op.operands]) M);obtain⟨cs,v,h3,h4,h5⟩:=KM hs hag (hp x _ (by rw[J];simp[Op.operands]) U) hv;refine ⟨v,?_,h5⟩;have Z:=gA hs w;unfold execOp;rw[J];simp[Instr.index,run_underlying hu,hyv,asIntOf,h3,h0,h1,Z,h4]
   split at I
   .rename_i l;split at I
    .rename_i v hv;exact fin v (.inl ⟨l,rfl,hv⟩) I
    .cases I
   .rename_i l;split at I
    .rename_i v hv;exact fin v (.inr ⟨l,rfl,hv⟩) I
    .cases I
   .cases I
  .cases I
 .cases I
theorem ajr {t el:TypeId} {x:Operand} (M:o.op= .call {callee:=.builtin .len,args:=#[x],argTypes:=#[t]}) (hu:P.underlying t=af (.slice el)) (I:eS (.len x) e h nx=af R):gQ P o e.get h.get R.eff:=by
 simp only[eS] at I;split at I
 .rename_i y U;split at I
  .rename_i n hn;rw[dC I];refine gQ.reads λφ E h' w a _ hp _=>?_
   have hr:=hp x _ (by rw[M];simp[Op.operands,eU]) U;refine ⟨_,?_,.f (.raw _)⟩;have J:∃ A c,a.eval x= .slice A n c:=by
    generalize a.eval x=z at hr;unfold AV.slen at hn;split at hn<;>try (simp only[ak] at hn;subst hn)
    .cases hr with
     |f hr=>cases hr with
      |nil=>exact⟨_,_,rfl⟩
      |sl=>exact⟨_,_,rfl⟩
    .cases fB hr;exact⟨_,_,rfl⟩
    .cases hr;exact⟨_,_,rfl⟩
    .cases hr;exact⟨_,_,rfl⟩
    .cases hr;exact⟨_,_,rfl⟩
    .cases hn
   obtain⟨A,c,J⟩:=J;unfold execOp;rw[M];simp[resolve,invoke,builtin,Builtin.len_,run_underlying hu,J,goInt]
  .cases I
 .cases I
theorem ajq {t:TypeId} {x:Operand} (J:o.op= .call {callee:=.builtin .len,args:=#[x],argTypes:=#[t]}) (hu:P.underlying t=af .string) (I:eS (.lens x) e h nx=af R):gQ P o e.get h.get R.eff:=by
 simp only[eS] at I;split at I
 .rename_i s M;rw[dC I];refine gQ.reads λφ E h' w a _ hp _=>?_
  have hr:=fB (hp x _ (by rw[J];simp[Op.operands,eU]) M);refine ⟨_,?_,.f (.raw _)⟩;unfold execOp;rw[J];simp[resolve,invoke,builtin,Builtin.len_,run_underlying hu,hr,goInt]
 .cases I
theorem ajp {t k v:TypeId} {x:Operand} (J:o.op= .call {callee:=.builtin .len,args:=#[x],argTypes:=#[t]}) (hu:P.underlying t=af (.map k v)) (I:eS (.lenm x) e h nx=af R):gQ P o e.get h.get R.eff:=by
 simp only[eS] at I;split at I
 .rename_i id U;split at I
  .rename_i ty es hid;simp only[ak] at I;subst I;refine gQ.reads λφ E h' w a hrd hp hrep=>?_
   have hr:=hp x _ (by rw[J];simp[Op.operands,eU]) U;have hh:h' id=af ⟨ty,.mp es⟩:=by rw[hrd id (by simp)];exact hid
   generalize M:a.eval x=z at hr;cases hr with
   |@mp _ b hφ=>
    obtain⟨b',h1,_,ob,h2,h3⟩:=hrep.at_ id _ hh;rw[hφ] at h1;cases h1;obtain⟨ents,clock,rfl,Z,_⟩:=h3;have Y:ents.size=es.length:=by have:=gO al Z;simpa using this
    refine ⟨_,?_,.f (.raw _)⟩;unfold execOp;rw[J];simp[resolve,invoke,builtin,Builtin.len_,run_underlying hu,M,goInt,getObj,nD,h2,Y]
  .cases I
 .cases I
end
structure Ft (w w':World) (k:Nat) (ob:Obj):Prop where
 os:w'.os=w.os
 tape:w'.tape=w.tape
 output:w'.output=w.output
 size:w'.heap.size=w.heap.size
 at_:w'.heap[k]? =af ob
 other:∀ j,j≠k->w'.heap[j]? =w.heap[j]?
 shp:∀ j,w'.shape? j=w.shape? j
structure S7 (w w':World) (ob:Obj):Prop where
 os:w'.os=w.os
 tape:w'.tape=w.tape
 output:w'.output=w.output
 size:w'.heap.size=w.heap.size+1
 at_:w'.heap[w.heap.size]? =af ob
 other:∀ j,j<w.heap.size->w'.heap[j]? =w.heap[j]?
theorem rf.wset {φ:PM} {E:Nat->Prop} {h:HF} {w w':World} (r:rf φ E h w) {id k:Nat} {b b':xh} {ob:Obj} (hb:h id=af b) (hk:φ id=af k) (I:Ft w w' k ob) (hob:jv φ (tot E φ h) w b' ob) (nw:HF) (hnw:nw id=af b'):
 i_ φ φ h (eV h [id] nw) w w'/\rf φ E (eV h [id] nw) w':=by
 have hdom:∀ i,(∃ x,eV h [id] nw i=af x)↔∃ x,h i=af x:=λi=>by
  unfold eV;by_cases hi:i=id
  .subst hi;simp[hnw,hb]
  .simp[hi]
 have hown:∀ j,own φ (eV h [id] nw) j↔own φ h j:=λj=>by
  constructor
  .rintro⟨i,x,h1,h2⟩;obtain⟨y,M⟩:=(hdom i).1 ⟨x,h1⟩;exact⟨i,y,M,h2⟩
  .rintro⟨i,x,h1,h2⟩;obtain⟨y,M⟩:=(hdom i).2 ⟨x,h1⟩;exact⟨i,y,M,h2⟩
 have m:i_ φ φ h (eV h [id] nw) w w':=by
  refine ⟨λ_ _ h=>h,⟨I.os,I.tape,I.output,by rw[I.size];exact bW _,λj hj ho=>?_,λj _=>I.shp j⟩,λj _ h=>(hown j).1 h⟩;exact I.other j (λe=>ho (e▸⟨id,b,hb,hk⟩))
 refine ⟨m,⟨λi j x y kk hi hj h1 h2=>?_,λi x hi=>?_,λk hk=>dD (r.el k hk) m.ext.size,λg cells hg=>m.keepF (r.gl g cells hg)⟩⟩
 .obtain⟨x',U⟩:=(hdom i).1 ⟨x,hi⟩;obtain⟨Z,J⟩:=(hdom j).1 ⟨y,hj⟩;exact r.inj i j x' Z kk U J h1 h2
 .by_cases hid:i=id
  .subst hid;have:x=b':=by unfold eV at hi;simp[hnw] at hi;exact hi.symm
   subst this;obtain⟨k',h1,h2,_⟩:=r.at_ i b hb;rw[hk] at h1;cases h1;exact⟨k,hk,h2,ob,I.at_,hob.mono λ_ _ h=>m.keep h⟩
  .have Y:h i=af x:=by unfold eV at hi;simpa[hid] using hi
   obtain⟨k',h1,h2,ob',h3,h4⟩:=r.at_ i x Y;have hne:k'≠k:=λe=>hid (r.inj i id x b k Y hb (e▸h1) hk)
   exact⟨k',h1,h2,ob',by rw[I.other k' hne];exact h3,h4.mono λ_ _ h=>m.keep h⟩
theorem rf.wnew {φ:PM} {E:Nat->Prop} {h:HF} {w w':World} (r:rf φ E h w) {id:Nat} (hid:φ id=ah) {b:xh} {ob:Obj} (M:S7 w w' ob) (hob:jv φ (tot E φ h) w b ob) (del:List Nat) (nw:HF) (hnw:nw id=af b) (hdel:∀ i∈del,i≠id->nw i=ah):
 ∃ φ',φ' id=af w.heap.size/\i_ φ φ' h (eV h (id::del) nw) w w'/\(∀ i k,φ' i=af k->φ i=af k\/i∈[id])/\rf φ' E (eV h (id::del) nw) w':=by
 have hsub:∀ i x,eV h (id::del) nw i=af x->i≠id->h i=af x/\i∉del:=λi x U hi=>by
  unfold eV at U;by_cases hd:i∈del
  .rw[aF (by simp[hd]),hdel i hd hi] at U;cases U
  .rw[ay (by simp[hi,hd])] at U;exact⟨U,hd⟩
 have hlt:∀ i x k,h i=af x->φ i=af k->k<w.heap.size:=λi x k hi hk=>by
  obtain⟨k',h1,_,ob',Y,_⟩:=r.at_ i x hi;rw[hk] at h1;cases h1;exact (cF.1 Y).1
 have hφ:∀ i,i≠id->(if i=id then af w.heap.size else φ i)=φ i:=λi hi=>by simp[hi]
 have m:i_ φ (λi=>if i=id then af w.heap.size else φ i) h (eV h (id::del) nw) w w':=by
  refine ⟨λi k hk=>?_,⟨M.os,M.tape,M.output,by rw[M.size];omega,λj hj _=>M.other j hj,λj hj=>?_⟩,?_⟩
  .have:i≠id:=λe=>by rw[e,hid] at hk;cases hk
   rw[hφ i this];exact hk
  .unfold rR;rw[M.other j hj]
  .rintro j hj ⟨i,x,h1,h2⟩;by_cases hi:i=id
   .simp[hi] at h2;omega
   .have Y:φ i=af j:=by simpa[hi] using h2
    exact⟨i,x,(hsub i x h1 hi).1,Y⟩
 refine ⟨_,by simp,m,λi k hk=>?_,⟨λi j x y k hi hj h1 h2=>?_,λi x hi=>?_,λk hk=>dD (r.el k hk) m.ext.size,λg cells hg=>m.keepF (r.gl g cells hg)⟩⟩
 .by_cases hi:i=id
  .right;simp[hi]
  .left;rw[hφ i hi] at hk;exact hk
 .by_cases I:i=id
  .by_cases J:j=id
   .rw[I,J]
   .exfalso;rw[hφ j J] at h2;have:=hlt j y k (hsub j y hj J).1 h2;simp[I] at h1;omega
  .rw[hφ i I] at h1;have hix:=(hsub i x hi I).1;by_cases J:j=id
   .exfalso;have:=hlt i x k hix h1;simp[J] at h2;omega
   .rw[hφ j J] at h2;exact r.inj i j x y k hix (hsub j y hj J).1 h1 h2
 .by_cases I:i=id
  .subst I;have:x=b:=by unfold eV at hi;simp[hnw] at hi;exact hi.symm
   subst this;refine ⟨w.heap.size,by simp,λhe=>?_,ob,M.at_,hob.mono λ_ _ h=>m.keep h⟩;have:=r.el _ he;omega
  .obtain⟨k,h1,h2,ob',Y,Z⟩:=r.at_ i x (hsub i x hi I).1;refine ⟨k,by rw[hφ i I];exact h1,h2,ob',?_,Z.mono λ_ _ h=>m.keep h⟩;rw[M.other k (hlt i x k (hsub i x hi I).1 h1)];exact Y
theorem ri (w:World) (ob:Obj):S7 w {w with heap:=w.heap.push ob} ob:=by
 refine ⟨rfl,rfl,rfl,by simp,by simp,λj hj=>?_⟩;rw[Array.getElem?_push,ay (by omega)]
theorem S7.drawn {w w':World} {ob:Obj} (d:Nat) (h:S7 {w with drawn:=d} w' ob):S7 w w' ob:=⟨h.os,h.tape,h.output,h.size,h.at_,h.other⟩
theorem gQ.makes {P:Program} {o:Oper} {e:zY} {h:HF} {rd:List Nat} {nx:Nat} {b:xh} {val:AV}
 (hv:∀ (φ:PM) (E:Nat->Prop) (h':HF) (w:World) (a:Act),(∀ i∈rd,h' i=h i)->Wc φ E h' w a e o->rf φ E h' w->
   ∃ v w' ob,(execOp a.eval o).run P w= .ok (.value v) w'/\S7 w w' ob/\jv φ (tot E φ h') w b ob/\∀ φ' O,φ' nx=af w.heap.size->cO φ' O w' val v):
 gQ P o e.get h ⟨val,rd,[nx],jf [(nx,b)],[nx]⟩:=by
 intro φ E h' w a h1 h2 Z I Y;obtain⟨v,w',ob,hrun,U,hob,hval⟩:=hv φ E h' w a h1 (λx y M J=>tL I Z M J) I;obtain⟨φ',g1,g2,g3,g4⟩:=I.wnew (id:=nx) (Y nx (by simp)) U hob [] (jf [(nx,b)]) (by simp[jf]) (by simp);unfold HA;rw[hrun];exact⟨v,φ',rfl,g2,g3,g4,hval φ' _ g1⟩
theorem gQ.writes {P:Program} {o:Oper} {e:zY} {h:HF} {rd:List Nat} {id:Nat} {b b':xh} {val:AV} (hb:h id=af b)
 (hv:∀ (φ:PM) (E:Nat->Prop) (h':HF) (w:World) (a:Act),(∀ i∈rd,h' i=h i)->h' id=af b->Wc φ E h' w a e o->rf φ E h' w->
   ∃ r w' k ob,(execOp a.eval o).run P w= .ok r w'/\φ id=af k/\Ft w w' k ob/\jv φ (tot E φ h') w b' ob/\(∃ v,(r= .value v\/r= .skip/\v=undef)/\cO φ (tot E φ (eV h' [id] (jf [(id,b')]))) w' val v)):
 gQ P o e.get h ⟨val,rd,[id],jf [(id,b')],[]⟩:=by
 intro φ E h' w a h1 h2 h3 I h5;obtain⟨r,w',k,ob,hrun,hk,Z,hob,v,hr,hval⟩:=hv φ E h' w a h1 (by rw[h2 id (by simp)];exact hb) (λx y Y U=>tL I h3 Y U) I;obtain⟨M,J⟩:=I.wset (id:=id) (by rw[h2 id (by simp)];exact hb) hk Z hob (jf [(id,b')]) (by simp[jf]);unfold HA;rw[hrun];rcases hr with rfl|⟨rfl,rfl⟩
 .exact⟨v,φ,rfl,M,λ_ _ h=>.inl h,J,hval⟩
 .exact⟨undef,φ,rfl,M,λ_ _ h=>.inl h,J,hval⟩
theorem lO {l:List AV} (h:gJ l=ai):∀ x∈l,x.isCell=ai:=by
 induction l with
 |nil=>intro x I;cases I
 |cons y l J=>
  simp only[gJ,av] at h;intro x I;rcases bm.1 I with rfl|I
  .exact h.1
  .exact J h.2 x I
theorem pQ:∀ {l:List AV} {fs:List FV},xW l=af fs->l=fs.map .f
 |[],fs,h=>by simp only[xW,ak] at h;subst h;rfl
 |.f x::r,fs,h=>by
  simp only[xW] at h;split at h
  .rename_i l hl;simp only[ak] at h;subst h;rw[pQ hl];rfl
  .cases h
 |.ptr _ _::_,_,h=>by simp[xW] at h
 |.sl _ _ _::_,_,h=>by simp[xW] at h
 |.row _ _ _::_,_,h=>by simp[xW] at h
 |.mp _::_,_,h=>by simp[xW] at h
 |.emp::_,_,h=>by simp[xW] at h
 |.agg _::_,_,h=>by simp[xW] at h
 |.tup _::_,_,h=>by simp[xW] at h
 |.clo _ _::_,_,h=>by simp[xW] at h
def Cs (φ:PM) (O:Nat->Prop) (w:World) (l:List AV) (vs:List Value):Prop:=vs.length=l.length/\(∀ x∈l,x.isCell=ai)/\∀ (j:Nat) x v,l[j]? =af x->vs[j]? =af v->cO φ O w x v
theorem BC.get_toMx {c:BC} (hc:c.isCells=ai) (j:Nat):c.get j=c.toMx[j]? :=by
 cases c with
 |fz l=>simp[BC.get,BC.toMx]
 |mx l=>rfl
 |mp _=>cases hc
 |it _ _=>cases hc
theorem BC.len_toMx {c:BC} (hc:c.isCells=ai):c.len=c.toMx.length:=by
 cases c with
 |fz l=>simp[BC.len,BC.toMx]
 |mx l=>rfl
 |mp _=>cases hc
 |it _ _=>cases hc
theorem nO (l:List AV):(pq l).toMx=l/\(pq l).isCells=ai:=by
 unfold pq;cases h:xW l with
 |none=>exact⟨rfl,rfl⟩
 |some fs=>exact⟨(pQ h).symm,rfl⟩
theorem qe {φ:PM} {O:Nat->Prop} {w:World} {ty:TypeId} {c:BC} (hc:c.isCells=ai) {arr:Array Value} (hl:c.toMx.length<=arr.size)
 (h:∀ (j:Nat) x,c.toMx[j]? =af x->x.isCell=ai/\∃ v,arr[j]? =af v/\cO φ O w x v):jv φ O w ⟨ty,c⟩ (.cells arr ty (0,0)):=by
 have h2:vE φ O w c arr:=⟨by rw[BC.len_toMx hc];exact hl,λj x I=>h j x (by rw[<- BC.get_toMx hc];exact I)⟩
 unfold jv;cases hb:c with
 |fz l=>rw[hb] at h2;exact⟨arr,rfl,h2⟩
 |mx l=>rw[hb] at h2;exact⟨arr,rfl,h2⟩
 |mp _=>rw[hb] at hc;cases hc
 |it _ _=>rw[hb] at hc;cases hc
theorem Iy {φ:PM} {O:Nat->Prop} {w:World} {ty:TypeId} {l:List AV} {vs:List Value} (h:Cs φ O w l vs):jv φ O w ⟨ty,pq l⟩ (.cells vs.toArray ty (0,0)):=by
 obtain⟨h1,h2⟩:=nO l;refine qe h2 (by rw[h1];simp[h.1]) λj x I=>?_
 rw[h1] at I;have hj:j<vs.length:=by rw[h.1];exact (bl.1 I).1
 exact⟨h.2.1 x (bd I),vs[j],by simp[hj],h.2.2 j x _ I (aB hj)⟩
theorem U7 {φ:PM} {O:Nat->Prop} {w:World} {x:AV} {v:Value} (h:cO φ O w x v) (hc:gJ x.cs=ai):Cs φ O w x.cs v.cells.toList:=by
 have one:x.cs=[x]->v.cells=#[v]->Cs φ O w x.cs v.cells.toList:=λh1 h2=>by
  rw[h1] at hc ⊢;rw[h2];exact⟨rfl,lO hc,λj y u I hu=>by cases j with|zero=>simp at I hu;subst I;subst hu;exact h|succ j=>simp at I⟩
 cases h with
 |ptr h=>exact one rfl rfl
 |sl h _ _=>exact one rfl rfl
 |row h _ _ _=>exact one rfl rfl
 |emp=>exact one rfl rfl
 |anyb=>exact one rfl rfl
 |mp h=>exact one rfl rfl
 |clo _ _=>exact one rfl rfl
 |tup _ _=>exact cR hc (by simp[AV.cs,gJ,AV.isCell])
 |@agg l vs hl hcl hr=>exact⟨hl,hcl,hr⟩
 |@f y u hf=>
  cases hf with
  |raw v=>
   have hv:v.oneCell'=ai:=by
    have:(AV.f (.raw v)).cs=[.f (.raw v)]:=rfl;rw[this] at hc;simpa[gJ,AV.isCell,FV.isCell] using hc
   refine one rfl ?_;cases v<;>first|rfl|simp[Value.oneCell'] at hv
  |nil=>exact one rfl rfl
  |sl=>exact one rfl rfl
  |ptr=>exact one rfl rfl
  |agg l vs hl hcl hr=>
   refine ⟨by simp[AV.cs,Value.cells,hl],lO hc,λj y u I hu=>?_⟩;simp only[AV.cs,ba] at I;cases hq:l[j]? with
   |none=>rw[hq] at I;cases I
   |some q=>rw[hq] at I;simp at I;subst I;exact .f (hr j q u hq (by simpa[Value.cells] using hu))
theorem ny.one {O:Nat->Prop} {w:World} {x:FV} {v:Value} (h:ny O w x v) (hc:x.isCell=ai):v.oneCell'=ai:=by
 cases h with
 |raw v=>exact hc
 |nil=>rfl
 |sl=>rfl
 |ptr=>rfl
 |agg=>cases hc
theorem cO.one {φ:PM} {O:Nat->Prop} {w:World} {x:AV} {v:Value} (h:cO φ O w x v) (hc:x.isCell=ai):v.oneCell'=ai:=by
 cases h with
 |f h=>exact h.one hc
 |ptr=>rfl
 |sl=>rfl
 |row=>rfl
 |emp=>rfl
 |anyb=>rfl
 |mp=>rfl
 |agg=>cases hc
 |tup=>cases hc
 |clo=>rfl
theorem Cs.one {φ:PM} {O:Nat->Prop} {w:World} {l:List AV} {vs:List Value} (h:Cs φ O w l vs):∀ v∈vs,v.oneCell'=ai:=by
 intro v hv;obtain⟨j,hj⟩:=fc hv;have hlt:j<l.length:=by rw[<- h.1];exact (bl.1 hj).1
 exact (h.2.2 j _ v (aB hlt) hj).one (h.2.1 _ (u_ hlt))
theorem Cs.append {φ:PM} {O:Nat->Prop} {w:World} {l J:List AV} {vs vs':List Value} (h:Cs φ O w l vs) (h':Cs φ O w J vs'):Cs φ O w (l++J) (vs++vs'):=by
 refine ⟨by simp[h.1,h'.1],λx I=>(bQ.1 I).elim (h.2.1 x) (h'.2.1 x),λj x v I hv=>?_⟩;rcases b9 j l.length with hj|hj
 .rw[bO hj] at I;rw[bO (by rw[h.1];exact hj)] at hv;exact h.2.2 j x v I hv
 .rw[b_ hj] at I;rw[b_ (by rw[h.1];exact hj),h.1] at hv;exact h'.2.2 _ x v I hv
theorem Cs.take {φ:PM} {O:Nat->Prop} {w:World} {l:List AV} {vs:List Value} (h:Cs φ O w l vs) (n:Nat):Cs φ O w (l.take n) (vs.take n):=by
 refine ⟨by simp[h.1],λx I=>h.2.1 x (gY I),λj x v I hv=>?_⟩;rw[cU] at I hv;split at I
 .rename_i hj;rw[aF hj] at hv;exact h.2.2 j x v I hv
 .cases I
theorem Cs.drop {φ:PM} {O:Nat->Prop} {w:World} {l:List AV} {vs:List Value} (h:Cs φ O w l vs) (n:Nat):Cs φ O w (l.drop n) (vs.drop n):=by
 refine ⟨by simp[h.1],λx I=>h.2.1 x (List.mem_of_mem_drop I),λj x v I hv=>?_⟩;rw[gZ] at I hv;exact h.2.2 _ x v I hv
theorem Cs.splice {φ:PM} {O:Nat->Prop} {w:World} {l I:List AV} {vs vs':List Value} (h:Cs φ O w l vs) (h':Cs φ O w I vs') (off:Nat):Cs φ O w (splice l off I) (splice vs off vs'):=by
 unfold AI.splice;rw[h'.1];exact ((h.take off).append h').append (h.drop _)
theorem Cs.raws {φ:PM} {O:Nat->Prop} {w:World} (z:List Value) (J:mE z=ai):Cs φ O w (z.map raw) z:=by
 refine ⟨by simp,λx I=>?_,λj x v I hv=>?_⟩
 .obtain⟨v,hv,rfl⟩:=di.1 I;exact gw.1 J v hv
 .rw[ba] at I;rw[hv] at I;simp at I;subst I;exact .f (.raw v)
theorem Cs.mono {φ φ':PM} {O O':Nat->Prop} {w w':World} {l:List AV} {vs:List Value} (h:Cs φ O w l vs) (hk:∀ x v,cO φ O w x v->cO φ' O' w' x v):Cs φ' O' w' l vs:=⟨h.1,h.2.1,λj x v I hv=>hk _ _ (h.2.2 j x v I hv)⟩
theorem Ft.setRow {w:World} {k:Nat} {arr arr':Array Value} {ty:TypeId} (I:w.heap[k]? =af (.cells arr ty (0,0))) (hs:arr'.size=arr.size):Ft w (w.setRow k arr') k (.cells arr' ty (0,0)):=by
 refine ⟨rfl,rfl,rfl,by simp,setRow_heap w k arr arr' ty (0,0) I,λj hj=>setRow_other w k j arr' hj,λj=>?_⟩;unfold rR;by_cases hj:j=k
 .subst hj;rw[setRow_heap w j arr arr' ty (0,0) I,I];simp[hs]
 .rw[setRow_other w k j arr' hj]
section
variable {P:Program} {o:Oper} {e:zY} {h:n_} {nx:Nat} {R:Cg}
theorem tO {t:TypeId} {z:List Value} (I:s6 P t=af z) (w:World):∃ v,(zeroValue t).run P w= .ok v w/\v.cells.toList=z/\∃ i,P.info? t=af i/\i.zero=af v:=by
 unfold s6 at I;cases hi:P.info? t with
 |none=>rw[hi] at I;cases I
 |some i=>
  rw[hi] at I;simp only[aH] at I;cases hv:i.zero with
  |none=>rw[hv] at I;cases I
  |some v=>
   rw[hv] at I;simp only[ch,ak] at I;exact⟨v,by simp[zeroValue,typeInfo,hi,hv],I,i,rfl,hv⟩
theorem ag7 {t:TypeId} {z:List Value} (Y:o.op= .alloc t) (U:s6 P t=af z) (hc:mE z=ai) (M:eS (.alloc t z) e h nx=af R):gQ P o e.get h.get R.eff:=by
 simp only[eS,ak] at M;subst M;refine gQ.makes λφ E h' w a _ _ _=>?_
 obtain⟨v,h1,h2,_⟩:=tO U w;refine ⟨.pointer (af ⟨w.heap.size,0,ah⟩),{w with heap:=w.heap.push (.cells v.cells t)},.cells v.cells t (0,0),?_,ri w _,?_,λφ' O hφ=>.ptr hφ⟩
 .unfold execOp;rw[Y];simp[Instr.alloc,h1,newVar,newRow,newObj,nD]
 .have I:BC.toMx (.fz (z.map .raw))=z.map raw:=by simp[BC.toMx,raw]
  refine qe rfl (by rw[I,<-h2];simp) λj x J=>?_
  rw[I] at J;have cs:=Cs.raws (φ:=φ) (O:=tot E φ h') (w:=w) z hc;have hj:j<z.length:=by have:=(bl.1 J).1;simpa using this
  refine ⟨cs.2.1 x (bd J),z[j],?_,cs.2.2 j x _ J (aB hj)⟩;have:v.cells.toList[j]? =af z[j]:=by rw[h2];exact aB hj
  simpa using this
theorem anb {t:TypeId} {x:Operand} (J:o.op= .box t x) (I:eS (.box t x) e h nx=af R):gQ P o e.get h.get R.eff:=by
 simp only[eS] at I;split at I
 .rename_i v M;split at I
  .rename_i hc;simp only[ak] at I;subst I;refine gQ.makes λφ E h' w a _ hp _=>?_
   have hr:=U7 (hp x _ (by rw[J];simp[Op.operands]) M) hc;refine ⟨.pointer (af ⟨w.heap.size,0,ah⟩),{w with heap:=w.heap.push (.cells (a.eval x).cells t)},.cells (a.eval x).cells t (0,0),?_,ri w _,?_,λφ' O hφ=>.ptr hφ⟩
   .unfold execOp;rw[J];simp[Instr.box,newVar,newRow,newObj,nD]
   .have:=Iy (ty:=t) hr;simpa using this
  .cases I
 .cases I
theorem mI {α:Type} {l vs:List α} {off:Nat} (hle:off+vs.length<=l.length) (j:Nat):(splice l off vs)[j]? =if j<off then l[j]? else if j<off+vs.length then vs[j-off]? else l[j]? :=by
 unfold splice;rw[iB];have h1:(l.take off).length=off:=by simp;omega
 by_cases hj:j<off
 .rw[aF hj,bO (by rw[h1];exact hj),cU,aF hj]
 .rw[ay hj,b_ (by omega),h1];by_cases I:j<off+vs.length
  .rw[aF I,bO (by omega)]
  .rw[ay I,b_ (by omega),gZ];congr 1;omega
theorem oA {α:Type} {l vs:List α} {off:Nat} (hle:off+vs.length<=l.length):(splice l off vs).length=l.length:=by
 unfold splice;simp;omega
theorem Rq (off:Nat):∀ (vs:List Value) (k:Nat) (arr:Array Value),off+k+vs.length<=arr.size->∀ j:Nat,
 ((vs.zipIdx k).foldl (λcs (p:Value×Nat)=>cs.setIfInBounds (off+p.2) p.1) arr)[j]? =if j<off+k then arr[j]? else if j<off+k+vs.length then vs[j-(off+k)]? else arr[j]?
 |[],k,arr,_,j=>by
  simp only[List.zipIdx_nil,List.foldl_nil,jT,dv];split<;>rfl
 |v::vs,k,arr,hle,j=>by
  simp only[b7] at hle;rw[List.zipIdx_cons,xk,Rq off vs (k+1) _ (by simp;omega) j];simp only[b7];by_cases h1:j<off+k
  .rw[aF (by omega),aF h1,pU (by omega)]
  .by_cases h2:j=off+k
   .subst h2;rw[aF (by omega),ay (by omega),aF (by omega)];simp[show off+k<arr.size by omega]
   .rw[ay (by omega),ay h1];by_cases I:j<off+k+(vs.length+1)
    .rw[aF (by omega),aF I,show j-(off+k)=(j-(off+(k+1)))+1 from by omega];simp
    .rw[ay (by omega),ay I,pU (by omega)]
theorem Rp (off:Nat) (c:Array Value) (l:List Value) (hle:off+c.size<=l.length):(c.zipIdx.foldl (λcs (p:Value×Nat)=>cs.setIfInBounds (off+p.2) p.1) l.toArray)=(splice l off c.toList).toArray:=by
 rw[<- Array.foldl_toList,Array.toList_zipIdx];apply Array.ext_getElem?;intro j;rw[Rq off c.toList 0 l.toArray (by simpa using hle) j];simp only[dv,km];rw[mI (by simpa using hle)]
theorem OO {φ:PM} {E:Nat->Prop} {h':HF} {w:World} {a:Act} (hp:Wc φ E h' w a e o) {place:Nat->Option (Nat×Nat)}:∀ (ps:List (Nat×Operand)) (ps':List (Nat×Nat×Operand)) (cells cs:List AV) (vs:List Value),
 (ps'.length=ps.length)->(∀ (j:Nat) i x,ps[j]? =af (i,x)->∃ of sz,ps'[j]? =af (of,sz,x)/\place i=af (of,sz))->(∀ p∈ps,p.2∈o.op.operands)->Cs φ (tot E φ h') w cells vs->zA cells e ps'=af cs->
 ∃ vs',Instr.fill place vs.toArray (ps.map λp=>(p.1,a.eval p.2))=af vs'.toArray/\Cs φ (tot E φ h') w cs vs'
 |[],ps',cells,cs,vs,hl,_,_,hcs,hf=>by
  cases ps' with
  |nil=>simp only[zA,ak] at hf;subst hf;exact⟨vs,rfl,hcs⟩
  |cons _ _=>simp at hl
 |(i,x)::ps,ps',cells,cs,vs,hl,hpl,hm,hcs,hf=>by
  obtain⟨of,sz,h1,h2⟩:=hpl 0 i x rfl;cases ps' with
  |nil=>simp at h1
  |cons p ps'=>
   simp at h1;subst h1;simp only[zA] at hf;split at hf
   .rename_i v hv;split at hf
    .rename_i hc;simp only[av,c5] at hc;obtain⟨⟨M,J⟩,I⟩:=hc;have hr:=U7 (hp x v (hm _ (dj ..)) hv) I;have hsz:(a.eval x).cells.size=sz:=by have:=hr.1;simp at this;omega
     have hle:of+sz<=vs.length:=by rw[hcs.1];exact a8 J
     obtain⟨vs',Y,U⟩:=OO hp ps ps' _ cs _ (by simpa using hl) (λj i x hj=>by have:=hpl (j+1) i x (by simpa using hj);simpa using this) (λp hp=>hm p (cI _ hp)) (hcs.splice hr of) hf;refine ⟨vs',?_,U⟩;simp only[gr,Instr.fill,h2];have hcd:((decide ((a.eval x).cells.size≠sz))||decide (of+(a.eval x).cells.size>vs.toArray.size))=aj:=by
      rw[hsz];simp;omega
     rw[ay (by rw[hcd];simp)];have:=Rp of (a.eval x).cells vs (by rw[hsz];exact hle);rw[<- Y,<-this]
    .cases hf
   .cases hf
theorem Eo {t:TypeId}:∀ (ps:List (Nat×Operand)) (ps':List (Nat×Nat×Operand)),xr P t ps=af ps'->ps'.length=ps.length/\∀ (j:Nat) i x,ps[j]? =af (i,x)->∃ of sz,ps'[j]? =af (of,sz,x)/\BG P t i=af (of,sz)
 |[],ps',h=>by simp only[xr,ak] at h;subst h;exact⟨rfl,λj i x M=>by simp at M⟩
 |(i,x)::ps,ps',h=>by
  simp only[xr] at h;split at h
  .rename_i of sz l h1 h2;simp only[ak] at h;subst h;obtain⟨Y,U⟩:=Eo ps l h2;refine ⟨by simp[Y],λj J I hj=>?_⟩;cases j with
   |zero=>simp at hj;obtain⟨rfl,rfl⟩:=hj;exact⟨of,sz,rfl,h1⟩
   |succ j=>simpa using U j J I (by simpa using hj)
  .cases h
theorem ID (w:World):∀ (fs:List Field),(fs.all λf=>(fx P f.type).isSome)=ai->(fs.mapM (λf=>do pure (f.offset,<-sizeOf f.type)):Sem (List (Nat×Nat))).run P w= .ok (fs.map λf=>(f.offset,(fx P f.type).getD 0)) w
 |[],_=>by simp
 |f::fs,h=>by
  simp only[List.all_cons,av] at h;obtain⟨sz,hs⟩:=iN.1 h.1;have h1:=gA hs w;have I:=ID w fs h.2;simp only[List.mapM_cons,eL,h1,cL,oR,I,gr,hs,uX]
theorem XM {t:TypeId} {ps:Array (Nat×Operand)} {z:List Value} {ps':List (Nat×Nat×Operand)} (M:o.op= .build t ps) (Y:s6 P t=af z) (hc:mE z=ai) (hps:xr P t ps.toList=af ps')
 (hu:(∃ fs,P.underlying t=af (.struct fs)/\(fs.toList.all λf=>(fx P f.type).isSome)=ai)\/∃ n el sz,P.underlying t=af (.array n el)/\fx P el=af sz) (I:eS (.build z ps') e h nx=af R):gQ P o e.get h.get R.eff:=by
 simp only[eS] at I;split at I
 .rename_i cs hf;rw[dC I];refine gQ.reads λφ E h' w a _ hp _=>?_
  obtain⟨v,h1,h2,_⟩:=tO Y w;have hcells:v.cells=z.toArray:=by rw[<- h2]
  obtain⟨g1,g2⟩:=Eo ps.toList ps' hps;have hops:∀ p∈ps.toList,p.2∈o.op.operands:=λp hp=>by
   rw[M];simp only[Op.operands,List.mem_toArray,di];exact⟨p,hp,rfl⟩
  have hmap:(ps.map λx:Nat×Operand=>(x.1,a.eval x.2)).toList=ps.toList.map λp=>(p.1,a.eval p.2):=by simp
  have fin:∀ place:Nat->Option (Nat×Nat),(∀ i,BG P t i≠ah->place i=BG P t i)->∃ vs':List Value,Instr.fill place v.cells (ps.map λx:Nat×Operand=>(x.1,a.eval x.2)).toList=af vs'.toArray/\cO φ (tot E φ h') w (ML cs) (.agg vs'.toArray):=by
   intro place hpl;obtain⟨vs',k1,k2⟩:=OO (place:=place) hp ps.toList ps' _ cs z g1 (λj i x hj=>by
    obtain⟨of,sz,q1,q2⟩:=g2 j i x hj;exact⟨of,sz,q1,by rw[hpl i (by rw[q2];simp),q2]⟩) hops (Cs.raws z hc) hf
   refine ⟨vs',by rw[hmap,hcells];exact k1,?_⟩;unfold ML;cases hfs:xW cs with
   |none=>exact .agg k2.1 k2.2.1 k2.2.2
   |some fs=>
    have he:=pQ hfs;refine .f (.agg fs vs' (by rw[k2.1,he];simp) (λx J=>k2.2.1 (.f x) (by rw[he];exact di.2 ⟨x,J,rfl⟩)) λj x u J hu=>?_);have:=k2.2.2 j (.f x) u (by rw[he,ba,J];rfl) hu;cases this with
    |f h=>exact h
  rcases hu with ⟨fs,hu,hall⟩|⟨n,el,sz,hu,hs⟩
  .obtain⟨vs',k1,k2⟩:=fin (λi=>(fs.map λf=>(f.offset,(fx P f.type).getD 0))[i]?) (λi hi=>by
    unfold BG at hi ⊢;rw[hu] at hi ⊢;simp only[Array.getElem?_map] at hi ⊢;cases hf:fs[i]? with
    |none=>rw[hf] at hi;simp at hi
    |some f=>
     simp only[ch,aH];cases hs:fx P f.type with
     |none=>rw[hf] at hi;simp[hs] at hi
     |some sz=>simp)
   refine ⟨_,?_,k2⟩;have hm:=ID w fs.toList hall;have U:(fs.mapM (λf=>do pure (f.offset,<-sizeOf f.type)):Sem (Array (Nat×Nat))).run P w= .ok (fs.map λf=>(f.offset,(fx P f.type).getD 0)) w:=by
    rw[Array.mapM_eq_mapM_toList];simp only[Sem.run_map,hm,cL];congr 1;apply Lf;simp
   unfold execOp;rw[M];simp only[Instr.build,eL,h1,cL,run_underlying hu,U,oR,k1]
  .obtain⟨vs',k1,k2⟩:=fin (λi=>af (i*sz,sz)) (λi hi=>by
    unfold BG;rw[hu];simp[hs])
   refine ⟨_,?_,k2⟩;have Z:=gA hs w;unfold execOp;rw[M];simp only[Instr.build,eL,h1,cL,run_underlying hu,Z,oR,k1]
 .cases I
end
section
variable {P:Program} {o:Oper} {e:zY} {h:n_} {nx:Nat} {R:Cg}
theorem sI {t el:TypeId} (h:AX P t=af el):P.underlying t=af (.slice el):=by
 unfold AX at h;split at h
 .rename_i e hu;simp only[ak] at h;subst h;exact hu
 .cases h
theorem mK (z:List Value):∀ n,(repl z n).length=n*z.length
 |0=>by simp[repl]
 |n+1=>by simp[repl,mK z n,iR];omega
theorem CE (z:List Value):∀ (n j:Nat),j<n*z.length->(repl z n)[j]? =(z[j%z.length]?).map .raw
 |0,j,h=>by simp at h
 |n+1,j,h=>by
  have I:0<z.length:=by
   rcases Lc z.length with h0|h0
   .rw[h0] at h;simp at h
   .exact h0
  rw[repl];rcases b9 j z.length with hj|hj
  .rw[bO (by simpa using hj),ba,Nat.mod_eq_of_lt hj]
  .rw[b_ (by simpa using hj),bR,CE z n (j-z.length) (by rw[iR] at h;omega),Nat.mod_eq_sub_mod hj]
theorem XT {v:Value} {z:List Value} (hv:v.cells.toList=z) (n sz:Nat) (hl:z.length=sz) (hsz:sz≠0) (j:Nat) (hj:j<n*sz):
 ((yI (n*sz)).map (λi=>v.cells[i%v.cells.size]!))[j]? =z[j%sz]? :=by
 have hs:v.cells.size=sz:=by rw[<- hl,<-hv];simp
 have hlt:j%sz<v.cells.size:=by rw[hs];exact Nat.mod_lt _ (by omega)
 rw[Array.getElem?_map,Array.getElem?_range];simp only[hj,bH,ch,hs];rw[<- hv,cJ,getElem!_pos v.cells _ hlt,ij hlt]
theorem Cs.repl {φ:PM} {O:Nat->Prop} {w:World} {v:Value} {z:List Value} (hv:v.cells.toList=z) (n sz:Nat) (hl:z.length=sz) (hsz:sz≠0) (hc:mE z=ai):
 Cs φ O w ((repl z n).map .f) ((yI (n*sz)).map (λi=>v.cells[i%v.cells.size]!)).toList:=by
 have key:∀ (j:Nat) (x:AV),((AI.repl z n).map AV.f)[j]? =af x->∃ u,z[j%sz]? =af u/\x=raw u/\j<n*sz:=by
  intro j x I;rw[ba] at I;have hj:j<n*z.length:=by
   rcases b9 j (n*z.length) with h|h
   .exact h
   .rw[bS (by rw[mK];exact h)] at I;cases I
  rw[CE z n j hj,hl] at I;cases hu:z[j%sz]? with
  |none=>rw[hu] at I;cases I
  |some u=>rw[hu] at I;simp at I;exact⟨u,rfl,I.symm,by rw[<- hl];exact hj⟩
 refine ⟨by simp[mK,hl],λx I=>?_,λj x u I hu=>?_⟩
 .obtain⟨j,hj⟩:=fc I;obtain⟨u,h1,rfl,_⟩:=key j x hj;exact gw.1 hc u (bd h1)
 .obtain⟨J,h1,rfl,hj⟩:=key j x I;rw[cJ,XT hv n sz hl hsz j hj,h1] at hu;cases hu;exact .f (.raw _)
theorem ana {t el:TypeId} {n sz:Nat} {ps:Array (Nat×Operand)} {z:List Value} {ps':List (Nat×Nat×Operand)} (U:o.op= .buildSlice t n ps) (hu:P.underlying t=af (.slice el)) (Z:s6 P el=af z) (hs:fx P el=af sz) (hc:mE z=ai) (hl:z.length=sz) (hsz:sz≠0) (hb:n*sz<=65536)
 (hps:xr P t ps.toList=af ps') (I:eS (.bsl el sz n z ps') e h nx=af R):gQ P o e.get h.get R.eff:=by
 simp only[eS] at I;split at I
 .rename_i cs hf;simp only[ak] at I;subst I;refine gQ.makes λφ E h' w a _ hp _=>?_
  obtain⟨v,h1,h2,_⟩:=tO Z w;obtain⟨g1,g2⟩:=Eo ps.toList ps' hps;have hops:∀ p∈ps.toList,p.2∈o.op.operands:=λp hp=>by
   rw[U];simp only[Op.operands,List.mem_toArray,di];exact⟨p,hp,rfl⟩
  have hmap:(ps.map λx:Nat×Operand=>(x.1,a.eval x.2)).toList=ps.toList.map λp=>(p.1,a.eval p.2):=by simp
  obtain⟨vs',k1,k2⟩:=OO (place:=λi=>af (i*sz,sz)) hp ps.toList ps' _ cs _ g1 (λj i x hj=>by
   obtain⟨of,s',q1,q2⟩:=g2 j i x hj;unfold BG at q2;rw[hu] at q2;simp[hs] at q2;obtain⟨rfl,rfl⟩:=q2;exact⟨_,_,q1,rfl⟩) hops (Cs.repl h2 n sz hl hsz hc) hf
  have hcells:(yI (n*sz)).map ((if n*sz=0 then #[] else v.cells)[·%(if n*sz=0 then #[] else v.cells).size]!)=((yI (n*sz)).map (λi=>v.cells[i%v.cells.size]!)).toList.toArray:=by
   by_cases h0:n*sz=0
   .simp[h0]
   .rw[Array.toArray_toList];simp only[ay h0]
  have hlen:vs'.length=n*sz:=by
   have e1:=k2.1;have e2:cs.length=((AI.repl z n).map AV.f).length:=by
    have:∀ (ps':List (Nat×Nat×Operand)) (M J:List AV),zA M e ps'=af J->J.length=M.length:=by
     intro ps';induction ps' with
     |nil=>intro M J h;simp only[zA,ak] at h;rw[h]
     |cons p ps' Y=>
      intro M J h;obtain⟨of,s',x⟩:=p;simp only[zA] at h;split at h
      .split at h
       .rename_i hcc;simp only[av,c5] at hcc;rw[Y _ _ h,oA (by rw[hcc.1.1];exact a8 hcc.1.2)]
       .cases h
      .cases h
    exact this ps' _ _ hf
   rw[e1,e2];simp[mK,hl]
  refine ⟨.slice (af ⟨w.heap.size,0,ah⟩) n n,{w with heap:=w.heap.push (.cells vs'.toArray el)},.cells vs'.toArray el (0,0),?_,ri w _,Iy k2,λφ' O hφ=>?_⟩
  .have h3:=gA hs w;have hk:Instr.fill (λi=>af (i*sz,sz)) ((yI (n*sz)).map ((if n*sz=0 then #[] else v.cells)[·%(if n*sz=0 then #[] else v.cells).size]!)) (ps.map λx:Nat×Operand=>(x.1,a.eval x.2)).toList=af vs'.toArray:=by
    rw[hcells,hmap];exact k1
   unfold execOp;rw[U];simp only[Instr.buildSlice,eL,run_underlying hu,cL,h3];rw[ay (by omega)];by_cases h0:n*sz=0
   .simp only[aF h0] at hk ⊢;simp only[eL,oR,cL,hk,newRow,newObj,nD]
   .simp only[ay h0] at hk ⊢;simp only[eL,oR,cL,h1,hk,newRow,newObj,nD]
  .simp only[];split
   .rename_i h0;subst h0;exact .emp
   refine .row hφ (bW _) ?_ ⟨el,?_⟩
   .have:n<=n*sz:=Nat.le_mul_of_pos_right _ (by omega);unfold maxLen;omega
   .unfold rR;simp[hlen]
 .cases I
end
theorem rf.wren {φ:PM} {E:Nat->Prop} {h:HF} {w w':World} (r:rf φ E h w) {id nx k:Nat} {b b':xh} {ob:Obj} (hb:h id=af b) (hk:φ id=af k) (hnx:φ nx=ah) (U:Ft w w' k ob) (hob:jv φ (tot E φ h) w b' ob) (nw:HF) (hnw:nw nx=af b') (hnid:nw id=ah):
 ∃ φ',φ' nx=af k/\i_ φ φ' h (eV h [nx,id] nw) w w'/\(∀ i k,φ' i=af k->φ i=af k\/i∈[nx])/\rf φ' E (eV h [nx,id] nw) w':=by
 have hne:nx≠id:=λe=>by rw[e,hk] at hnx;cases hnx
 have hsub:∀ i x,eV h [nx,id] nw i=af x->i≠nx->h i=af x/\i≠id:=λi x Y hi=>by
  unfold eV at Y;by_cases hd:i=id
  .subst hd;simp[hnid] at Y
  .simp[hi,hd] at Y;exact⟨Y,hd⟩
 have hφ:∀ i,i≠nx->(if i=nx then af k else φ i)=φ i:=λi hi=>by simp[hi]
 have m:i_ φ (λi=>if i=nx then af k else φ i) h (eV h [nx,id] nw) w w':=by
  refine ⟨λi k' M=>?_,⟨U.os,U.tape,U.output,by rw[U.size];exact bW _,λj hj ho=>?_,λj _=>U.shp j⟩,?_⟩
  .have:i≠nx:=λe=>by rw[e,hnx] at M;cases M
   rw[hφ i this];exact M
  .exact U.other j (λe=>ho (e▸⟨id,b,hb,hk⟩))
  .rintro j hj ⟨i,x,h1,h2⟩;by_cases hi:i=nx
   .simp[hi] at h2;subst h2;exact⟨id,b,hb,hk⟩
   .have Z:φ i=af j:=by simpa[hi] using h2
    exact⟨i,x,(hsub i x h1 hi).1,Z⟩
 refine ⟨_,by simp,m,λi k' M=>?_,⟨λi j x y kk hi hj h1 h2=>?_,λi x hi=>?_,λk hk=>dD (r.el k hk) m.ext.size,λg cells hg=>m.keepF (r.gl g cells hg)⟩⟩
 .by_cases hi:i=nx
  .right;simp[hi]
  .left;rw[hφ i hi] at M;exact M
 .by_cases I:i=nx
  .by_cases J:j=nx
   .rw[I,J]
   .exfalso;rw[hφ j J] at h2;simp[I] at h1;subst h1;obtain⟨q1,q2⟩:=hsub j y hj J;exact q2 (r.inj j id y b k q1 hb h2 hk)
  .rw[hφ i I] at h1;obtain⟨p1,p2⟩:=hsub i x hi I;by_cases J:j=nx
   .exfalso;simp[J] at h2;subst h2;exact p2 (r.inj i id x b k p1 hb h1 hk)
   .rw[hφ j J] at h2;exact r.inj i j x y kk p1 (hsub j y hj J).1 h1 h2
 .by_cases I:i=nx
  .subst I;have:x=b':=by unfold eV at hi;simp[hnw] at hi;exact hi.symm
   subst this;obtain⟨k',h1,h2,_⟩:=r.at_ id b hb;rw[hk] at h1;cases h1;exact⟨k,by simp,h2,ob,U.at_,hob.mono λ_ _ h=>m.keep h⟩
  .obtain⟨p1,p2⟩:=hsub i x hi I;obtain⟨k',h1,h2,ob',Z,h4⟩:=r.at_ i x p1;have hne':k'≠k:=λe=>p2 (r.inj i id x b k p1 hb (e▸h1) hk)
   exact⟨k',by rw[hφ i I];exact h1,h2,ob',by rw[U.other k' hne'];exact Z,h4.mono λ_ _ h=>m.keep h⟩
theorem rf.cs {φ:PM} {E:Nat->Prop} {h':HF} {w:World} (hrep:rf φ E h' w) {id k:Nat} {b:xh} (hb:h' id=af b) (hk:φ id=af k) (hc:b.c.isCells=ai):
 ∃ arr,w.heap[k]? =af (.cells arr b.ty (0,0))/\Cs φ (tot E φ h') w b.c.toMx (arr.toList.take b.c.toMx.length)/\b.c.toMx.length<=arr.size:=by
 obtain⟨k',h1,_,h2⟩:=hrep.at_ id b hb;rw[hk] at h1;cases h1;obtain⟨arr,Z,M,J⟩:=h2.cells hc;rw[BC.len_toMx hc] at M;refine ⟨arr,Z,⟨by simp;omega,λx I=>?_,λj x v I hv=>?_⟩,M⟩
 .obtain⟨j,hj⟩:=fc I;exact (J j x (by rw[BC.get_toMx hc];exact hj)).1
 .obtain⟨_,u,Y,U⟩:=J j x (by rw[BC.get_toMx hc];exact I);rw[cU] at hv;split at hv
  .rw[cJ,Y] at hv;cases hv;exact U
  .cases hv
section
variable {P:Program} {o:Oper} {e:zY} {h:n_} {nx:Nat} {R:Cg}
theorem Nt {t:TypeId} {b:Nat} (hb:Fn P t=af b):∃ i,P.info? t=af i/\i.bytes=b:=by
 unfold Fn at hb;cases hi:P.info? t with
 |none=>rw[hi] at hb;cases hb
 |some i=>rw[hi] at hb;simp at hb;exact⟨i,rfl,hb⟩
theorem Im {n b:Nat} (h:a_ n b=ai):n<=1099511627776/\n*b<=1099511627776:=by
 simp only[a_,av] at h;exact⟨a8 h.1,a8 h.2⟩
theorem ZY {n:Int} (h1: -9223372036854775808<=n) (h2:n<=9223372036854775807):kJ .i64 n=n:=by
 rw[<- yR];have:(c7 (-9223372036854775808) n&&c7 n 9223372036854775807)=ai:=by simp[c7,h1,h2]
 simp only[Cq,Mt,this,bH]
theorem ajn {t el:TypeId} {sz bytes:Nat} {z:List Value} {l c:Operand} (ho:o.op= .makeSlice t l c) (hu:P.underlying t=af (.slice el)) (hz:s6 P el=af z) (hs:fx P el=af sz) (hb:Fn P el=af bytes) (hc:mE z=ai) (hl:z.length=sz) (hsz:sz≠0)
 (J:eS (.mksl el sz bytes z l c) e h nx=af R):gQ P o e.get h.get R.eff:=by
 simp only[eS] at J;split at J
 .rename_i k1 n k2 m I hy;split at J
  .rename_i hcd;simp only[c7,av,be] at hcd;obtain⟨⟨h0,h1⟩,h2⟩:=hcd;obtain⟨r1,r2⟩:=Im h2;simp only[ak] at J;subst J;refine gQ.makes λφ E h' w a _ hp _=>?_
   have e1:=fB (hp l _ (by rw[ho];simp[Op.operands]) I);have e2:=fB (hp c _ (by rw[ho];simp[Op.operands]) hy);obtain⟨v,z1,z2,_⟩:=tO hz w;obtain⟨i,i1,i2⟩:=Nt hb;have s1:=gA hs w;have w1:kJ .i64 n=n:=ZY (by omega) (by omega);have w2:kJ .i64 m=m:=ZY (by omega) (by omega);have hbm:(bytes:Int)*m=((m.toNat*bytes:Nat):Int):=by
    rw[Int.natCast_mul,G0 (by omega),Int.mul_comm]
   have t1:¬(m<0\/(281474976710656:Int)<bytes*m):=by rw[hbm];omega
   have hr:¬(m.toNat*bytes>roomBytes):=by unfold roomBytes;omega
   have hn0:m.toNat*sz=0->m.toNat=0:=λh=>(Nat.mul_eq_zero.1 h).resolve_right hsz
   let cells:Array Value:=(yI (m.toNat*sz)).map (λi=>v.cells[i%v.cells.size]!)
   refine ⟨.slice (af ⟨w.heap.size,0,ah⟩) n.toNat m.toNat,{w with heap:=w.heap.push (.cells cells el)},.cells cells el (0,0),?_,ri w _,?_,λφ' O hφ=>?_⟩
   .unfold execOp;rw[ho];by_cases U:m.toNat*sz=0
    .obtain rfl:m=0:=by have:=hn0 U;omega
     obtain rfl:n=0:=by omega
     simp[Instr.makeSlice,run_underlying hu,e1,e2,asInt,asIntOf,typeInfo,i1,w1,askRoom,s1,newRow,newObj,nD,cells];rw[show yI 0=#[] from rfl];simp
    .simp[Instr.makeSlice,run_underlying hu,e1,e2,asInt,asIntOf,typeInfo,i1,i2,w1,w2,t1,show ¬n<0 by omega,show ¬m<n by omega,askRoom,hr,s1,U,z1,newRow,newObj,nD,cells]
   .have cs:=Cs.repl (φ:=φ) (O:=tot E φ h') (w:=w) z2 m.toNat sz hl hsz hc;have hle:n.toNat<=m.toNat:=by omega
    have hlen:n.toNat*sz<=m.toNat*sz:=cH _ hle;refine qe rfl (by simp[BC.toMx,mK,hl,cells];exact hlen) λj x I=>?_
    simp only[BC.toMx,ba] at I;have hj:j<n.toNat*z.length:=by
     rcases b9 j (n.toNat*z.length) with h|h
     .exact h
     .rw[bS (by rw[mK];exact h)] at I;cases I
    have Z:j<m.toNat*z.length:=by rw[hl] at hj ⊢;omega
    rw[CE z _ j hj,<-CE z m.toNat j Z] at I;have M:((repl z m.toNat).map AV.f)[j]? =af x:=by rw[ba];exact I
    have Y:j<cells.toList.length:=by simp[cells];rw[<- hl];exact Z
    exact⟨cs.2.1 x (bd M),cells.toList[j],by rw[<- cJ];exact aB Y,cs.2.2 j x _ M (aB Y)⟩
   .refine .row hφ (by omega) (by unfold maxLen;omega) ⟨el,?_⟩;unfold rR;simp[cells]
  .cases J
 .cases J
theorem ag6 {t:TypeId} {x y:Operand} {sz:Nat} (Y:o.op= .store t x y) (hs:fx P t=af sz) (I:eS (.store sz x y) e h nx=af R):gQ P o e.get h.get R.eff:=by
 simp only[eS] at I;split at I
 .rename_i p v hx hy;unfold KH at I;split at I
  .rename_i id off;split at I
   .rename_i b hb;split at I
    .rename_i hl;split at I
     .rename_i c' hput;simp only[ak] at I;subst I;unfold BC.put at hput;split at hput
      .rename_i hcc;simp only[av] at hcc;obtain⟨⟨c1,c2⟩,c3⟩:=hcc;have c2:=a8 c2;have hl:v.cs.length=sz:=by simpa using hl
       have J:c'.toMx=splice b.c.toMx off v.cs/\c'.isCells=ai:=by
        split at hput
        .rename_i l ys hbl hys;simp only[ak] at hput;subst hput;refine ⟨?_,rfl⟩;have hv:=pQ hys;rw[hv,hbl];simp only[BC.toMx];unfold splice;simp[kH,List.map_drop]
        .simp only[ak] at hput;subst hput;exact⟨rfl,rfl⟩
       refine gQ.writes hb λφ E h' w a hrd Z hp hrep=>?_
       have hr:=U7 (hp y _ (by rw[Y];simp[Op.operands]) hy) c3;have hpx:=hp x _ (by rw[Y];simp[Op.operands]) hx;generalize hz:a.eval x=pv at hpx;cases hpx with
       |@ptr _ _ k hφ=>
        obtain⟨arr,g1,g2,g3⟩:=hrep.cs Z hφ c1;have hvl:(a.eval y).cells.toList.length=sz:=by rw[hr.1];exact hl
        rw[BC.len_toMx c1] at c2;have hst:=run_storeCells_at (P:=P) k off b.ty (a.eval y).cells.toList 0 arr w g1 (by rw[hvl];omega) hr.one
        let arr':Array Value:=(arr.toList.take off++(a.eval y).cells.toList++arr.toList.drop (off+sz)).toArray
        have hsize:arr'.size=arr.size:=by simp only[arr',tm,bu,bI,mF,iy,hvl];omega
        refine ⟨.skip,w.setRow k arr',k,.cells arr' b.ty (0,0),?_,hφ,Ft.setRow g1 hsize,?_,undef,.inr ⟨rfl,rfl⟩,.f (.raw _)⟩
        .have s1:=gA hs w;have hvs:(a.eval y).cells.size=sz:=by simpa using hvl
         simp only[dv,hvl] at hst;unfold execOp;rw[Y];simp[Instr.storeAt,hz,Instr.sureAddr,storeVar,s1,hvs,hst,arr']
        .refine qe J.2 (by rw[J.1,oA (by omega),hsize];exact g3) λj q hq=>?_
         rw[J.1,mI (by omega)] at hq;have ha':arr'[j]? =if j<off then arr.toList[j]? else if j<off+sz then (a.eval y).cells.toList[j-off]? else arr.toList[j]? :=by
          have:=mI (l:=arr.toList) (vs:=(a.eval y).cells.toList) (off:=off) (by have:=hvl;simp only[iy] at this ⊢;omega) j;unfold splice at this;rw[hvl] at this;simp only[arr',km];exact this
         have old:b.c.toMx[j]? =af q->q.isCell=ai/\∃ u,arr.toList[j]? =af u/\cO φ (tot E φ h') w q u:=λhq=>by
          have hj:j<b.c.toMx.length:=(bl.1 hq).1;have U:j<arr.toList.length:=by simp;omega
          refine ⟨g2.2.1 q (bd hq),arr.toList[j],aB U,g2.2.2 j q _ hq ?_⟩;rw[cU,aF hj,aB U]
         rw[ha'];by_cases h1:j<off
         .rw[aF h1] at hq ⊢;exact old hq
         .rw[ay h1] at hq ⊢;by_cases h2:j<off+sz
          .rw[aF (by omega)] at hq;rw[aF h2];have M:j-off<(a.eval y).cells.toList.length:=by omega
           exact⟨hr.2.1 q (bd hq),_,aB M,hr.2.2 _ q _ hq (aB M)⟩
          .rw[ay (by omega)] at hq;rw[ay h2];exact old hq
      .cases hput
     .cases I
    .cases I
   .cases I
  .cases I
 .cases I
end
section
variable {P:Program} {o:Oper} {e:zY} {h:n_} {nx:Nat} {R:Cg}
theorem amr (A:Addr):A.add 0=A:=by cases A;simp[Addr.add]
theorem amt {t el:TypeId} {sz:Nat} {x:Operand} {lo hi mx:Option Operand} (J:o.op= .slice t x lo hi mx) (hu:P.underlying t=af (.slice el)) (hs:fx P el=af sz) (I:eS (.slc sz x lo hi mx) e h nx=af R):gQ P o e.get h.get R.eff:=by
 simp only[eS] at I;split at I
 .rename_i v Y;split at I
  ·
   rename_i k k';split at I
   .rename_i hsl;rw[dC I];refine gQ.reads λφ E h' w a _ hp _=>?_
    have hr:=hp x _ (by rw[J];simp[Op.operands]) Y;have U:∃ A n c,a.eval x= .slice A n c:=by
     generalize a.eval x=z at hr;obtain⟨n,hn⟩:=iN.1 hsl;unfold AV.slen at hn;split at hn
     .cases hr with
      |f hr=>cases hr with
       |nil=>exact⟨_,_,_,rfl⟩
       |sl=>exact⟨_,_,_,rfl⟩
     .cases fB hr;exact⟨_,_,_,rfl⟩
     .cases hr;exact⟨_,_,_,rfl⟩
     .cases hr;exact⟨_,_,_,rfl⟩
     .cases hr;exact⟨_,_,_,rfl⟩
     .cases hn
    obtain⟨A,n,c,U⟩:=U;have s1:=gA hs w;refine ⟨.slice A 0 0,?_,.emp⟩;unfold execOp;rw[J];have z0:∀ k,a.eval (.const (.int k 0))= .int k 0:=λ_=>rfl
    simp[pA,uL,run_underlying hu,U,jP,kz,asIntOf,s1,z0]
   .cases I
  ·
   rename_i b;split at I
   .rename_i id sz' n k j hb;split at I
    .rename_i hc;simp only[c7,av,be,c5] at hc;obtain⟨⟨rfl,h0⟩,h1⟩:=hc;split at I
     .rename_i blk hblk;split at I
      .rename_i hcl;simp only[av] at hcl;obtain⟨hcells,hlen⟩:=hcl;have hlen:=a8 hlen;rw[BC.len_toMx hcells] at hlen;simp only[ak] at I;subst I;intro φ E h' w a g1 g2 g3 hrep g5;have hp:Wc φ E h' w a e o:=λx y Y M=>tL hrep g3 Y M
       have hb':h' id=af blk:=by rw[g1 id (by simp[Cg.eff])];exact hblk
       have hr:=hp x _ (by rw[J];simp[Op.operands]) Y;have hbv:=fB (hp b _ (by rw[J];simp[Op.operands]) hb);have hnx:φ nx=ah:=g5 nx (by simp[Cg.eff]);generalize U:a.eval x=z at hr;cases hr with
       |@row _ _ _ c q hφ hn hcap hsh=>
        obtain⟨arr,a1,a2,a3⟩:=hrep.cs hb' hφ hcells;have s1:=gA hs w;have hne:nx≠id:=λe=>by rw[e,hφ] at hnx;cases hnx
        have hnw1:jf [(nx,⟨blk.ty,pq (blk.c.toMx.take (j.toNat*sz'))⟩)] nx=af (⟨blk.ty,pq (blk.c.toMx.take (j.toNat*sz'))⟩:xh):=by simp[jf]
        have hnw2:jf [(nx,⟨blk.ty,pq (blk.c.toMx.take (j.toNat*sz'))⟩)] id=ah:=by
         simp only[jf];rw[ay];intro hb;exact hne (aw hb)
        have a4:=a2.take (j.toNat*sz');obtain⟨φ',p1,p2,p3,p4⟩:=hrep.wren hb' hφ hnx (w':=w) ⟨rfl,rfl,rfl,rfl,a1,λ_ _=>rfl,λ_=>rfl⟩ (b':=⟨blk.ty,pq (blk.c.toMx.take (j.toNat*sz'))⟩) (by
         obtain⟨q1,q2⟩:=nO (blk.c.toMx.take (j.toNat*sz'));refine qe q2 (by rw[q1,bI];omega) λi x Y=>?_
         rw[q1] at Y;have hi:i<((arr.toList.take blk.c.toMx.length).take (j.toNat*sz')).length:=by rw[a4.1];exact (bl.1 Y).1
         refine ⟨a4.2.1 x (bd Y),_,?_,a4.2.2 i x _ Y (aB hi)⟩;have hi':i<arr.size:=by simp at hi;omega
         simp[hi']) _ hnw1 hnw2
        have hrun:(execOp a.eval o).run P w= .ok (.value (.slice (af ⟨q,0,ah⟩) j.toNat c)) w:=by
         unfold execOp;rw[J];simp[pA,uL,run_underlying hu,U,jP,kz,asIntOf,s1,hbv,h0,show j<=c by omega,k_]
        unfold HA;rw[hrun];exact⟨_,φ',rfl,p2,p3,p4,.row p1 (by omega) hcap hsh⟩
      .cases I
     .cases I
    .cases I
   .rename_i cells n k j hb;split at I
    .rename_i hc;simp only[c7,av,be] at hc;obtain⟨⟨h0,h1⟩,h2⟩:=hc;have h2:=a8 h2;rw[dC I];refine gQ.reads λφ E h' w a _ hp _=>?_
     have hr:=hp x _ (by rw[J];simp[Op.operands]) Y;have hbv:=fB (hp b _ (by rw[J];simp[Op.operands]) hb);generalize U:a.eval x=z at hr;have s1:=gA hs w;cases hr with
     |f hr=>
      cases hr with
      |nil A c hc=>
       have hj:j=0:=by omega
       subst hj;refine ⟨.slice A 0 c,?_,by simpa using cO.f (.nil A c hc)⟩;unfold execOp;rw[J];cases A<;>simp[pA,uL,run_underlying hu,U,jP,kz,asIntOf,s1,hbv,amr]
      |sl _ _ c q off us hn hc hO hq hcl Z hr=>
       refine ⟨.slice (af ⟨q,off,ah⟩) j.toNat c,?_,.f (.sl _ _ _ _ _ us (by omega) hc hO hq (λy M=>hcl y (gY M)) (λi hi=>Z i (by rw[bI] at hi;omega)) λi y M=>?_)⟩
       .unfold execOp;rw[J];simp[pA,uL,run_underlying hu,U,jP,kz,asIntOf,s1,hbv,h0,show j<=c by omega,k_]
       .rw[cU] at M;split at M
        .exact hr i y M
        .cases M
    .cases I
   .cases I
  ·
   rename_i b;split at I
   .rename_i id sz' n k j hb;split at I
    .rename_i hc;simp only[c7,fQ,av,be,c5] at hc;obtain⟨⟨rfl,h0⟩,h1⟩:=hc;rw[dC I];refine gQ.reads λφ E h' w a _ hp _=>?_
     have hr:=hp x _ (by rw[J];simp[Op.operands]) Y;have hbv:=fB (hp b _ (by rw[J];simp[Op.operands]) hb);generalize U:a.eval x=z at hr;cases hr with
     |@row _ _ _ c q hφ hn hc hsh=>
      have s1:=gA hs w;refine ⟨.slice (af ⟨q,0+j.toNat*sz',ah⟩) (n-j.toNat) (c-j.toNat),?_,?_⟩
      .unfold execOp;rw[J];simp[pA,uL,run_underlying hu,U,jP,kz,asIntOf,s1,hbv,h0,show j<=n by omega,show ¬c=j.toNat by omega,k_]
      .rw[bN];exact .sl hφ (by omega) (by omega)
    .cases I
   .rename_i cells n k j hb;split at I
    .rename_i hc;simp only[c7,av,be] at hc;obtain⟨⟨h0,h1⟩,h2⟩:=hc;have h2:=a8 h2;rw[dC I];refine gQ.reads λφ E h' w a _ hp _=>?_
     have hr:=hp x _ (by rw[J];simp[Op.operands]) Y;have hbv:=fB (hp b _ (by rw[J];simp[Op.operands]) hb);generalize U:a.eval x=z at hr;have s1:=gA hs w;cases hr with
     |f hr=>
      cases hr with
      |nil A c hc=>
       have hj:j=0:=by omega
       subst hj;have hex:∃ A',(execOp a.eval o).run P w= .ok (.value (.slice A' 0 c)) w:=by
        unfold execOp;rw[J];cases A with
        |none=>exact⟨ah,by simp[pA,uL,run_underlying hu,U,jP,kz,asIntOf,s1,hbv]⟩
        |some A=>exact⟨af A,by simp[pA,uL,run_underlying hu,U,jP,kz,asIntOf,s1,hbv,amr]⟩
       obtain⟨A',hex⟩:=hex;exact⟨.slice A' 0 c,hex,by simpa using cO.f (.nil A' c hc)⟩
      |sl _ _ c q off us hn hc hO hq hcl Z hr=>
       by_cases hcj:c=j.toNat
       .refine ⟨.slice (af ⟨q,off,ah⟩) 0 0,?_,?_⟩
        .unfold execOp;rw[J];simp[pA,uL,run_underlying hu,U,jP,kz,asIntOf,s1,hbv,h0,show j<=n by omega,hcj,show n-j.toNat=0 by omega,k_]
        .rw[show n-j.toNat=0 by omega];simpa using cO.f (.nil (af ⟨q,off,ah⟩) 0 (by unfold maxLen;omega))
       .refine ⟨.slice (af ⟨q,off+j.toNat*sz,ah⟩) (n-j.toNat) (c-j.toNat),?_,.f (.sl _ _ _ _ _ (λi=>us (j.toNat*sz+i)) (by omega) (by omega) hO hq (λy M=>hcl y (List.mem_of_mem_drop (gY M))) (λi hi=>?_) λi y M=>?_)⟩
        .unfold execOp;rw[J];simp[pA,uL,run_underlying hu,U,jP,kz,asIntOf,s1,hbv,h0,show j<=n by omega,hcj,k_]
        .rw[px];refine Z _ ?_;rw[bI,mF] at hi;omega
        .rw[cU] at M;split at M
         .rw[gZ] at M;exact hr _ y M
         .cases M
    .cases I
   .cases I
  .cases I
 .cases I
theorem aa8 {sz:Nat} {x:AV} {src:List AV} {m:Nat} {rd:List Nat} (hrow:x.row? h sz=af (src,m,rd)) {φ:PM} {E:Nat->Prop} {h':HF} {w:World} (hrd:∀ i∈rd,h' i=h.get i) (hrep:rf φ E h' w) {v:Value} (hr:cO φ (tot E φ h') w x v):
 ∃ A c vs,v= .slice A m c/\Cs φ (tot E φ h') w src vs/\vs.length=m*sz/\(A=ah->vs=[])/\(∀ J,A=af J->∀ (j:Nat) u,vs[j]? =af u->w.cell? (J.add j)=af u):=by
 have emp:∀ A c,v= .slice A 0 c->src=[]->m=0->∃ A c vs,v= .slice A m c/\Cs φ (tot E φ h') w src vs/\vs.length=m*sz/\(A=ah->vs=[])/\(∀ J,A=af J->∀ (j:Nat) u,vs[j]? =af u->w.cell? (J.add j)=af u):=by
  rintro A c rfl rfl rfl;exact⟨A,c,[],rfl,⟨rfl,(by intro x I;cases I),(by intro j x v I;simp at I)⟩,by simp,λ_=>rfl,by intro J _ j u hu;simp at hu⟩
 have own:∀ (id off n c k:Nat) (b:xh),φ id=af k->h' id=af b->b.c.isCells=ai->off+n*sz<=b.c.len->v= .slice (af ⟨k,off,ah⟩) n c->src=(b.c.toMx.drop off).take (n*sz)->m=n->
  ∃ A c vs,v= .slice A m c/\Cs φ (tot E φ h') w src vs/\vs.length=m*sz/\(A=ah->vs=[])/\(∀ J,A=af J->∀ (j:Nat) u,vs[j]? =af u->w.cell? (J.add j)=af u):=by
  rintro id off n c k b hφ hb hc hle rfl rfl rfl;obtain⟨arr,g1,Z,g3⟩:=hrep.cs hb hφ hc;rw[BC.len_toMx hc] at hle;refine ⟨_,c,((arr.toList.take b.c.toMx.length).drop off).take (m*sz),rfl,(Z.drop off).take _,?_,(λh=>by cases h),?_⟩
  .simp;omega
  .intro J had j u hu;cases had;rw[k_];rw[cU] at hu;split at hu
   .rw[gZ,cU] at hu;split at hu
    .rw[cJ] at hu;simp[NH,g1,hu]
    .cases hu
   .cases hu
 unfold AV.row? at hrow;split at hrow
 .rename_i cells n;split at hrow
  .rename_i hle;have hle:=a8 hle;simp only[ak,aD] at hrow;obtain⟨rfl,rfl,rfl⟩:=hrow;cases hr with
   |f hr=>
    cases hr with
    |nil a c hc=>exact emp a c rfl (by simp) rfl
    |sl _ _ c b off us hn hc hO hb hcl hu hr=>
     refine ⟨_,c,(cS (n*sz)).map us,rfl,⟨by simp;omega,λx I=>?_,λj x u I M=>?_⟩,by simp,(λh=>by cases h),?_⟩
     .obtain⟨y,Y,rfl⟩:=di.1 I;exact hcl y (gY Y)
     .obtain⟨rfl,hj⟩:=xI us _ _ _ M;rw[ba,cU,aF hj] at I;cases hq:cells[j]? with
      |none=>rw[hq] at I;cases I
      |some q=>rw[hq] at I;simp at I;subst I;exact .f (hr j q hq)
     .intro J had j u M;cases had;obtain⟨rfl,hj⟩:=xI us _ _ _ M;rw[k_];exact hu j (by omega)
  .cases hrow
 .simp only[ak,aD] at hrow;obtain⟨rfl,rfl,rfl⟩:=hrow;exact emp ah 0 (fB hr) rfl rfl
 .simp only[ak,aD] at hrow;obtain⟨rfl,rfl,rfl⟩:=hrow;cases hr with
  |@emp a=>exact emp a 0 rfl rfl rfl
 .rename_i id sz' n;split at hrow
  .rename_i hsz;split at hrow
   .rename_i b hb;split at hrow
    .rename_i hc;simp only[av] at hc;simp only[ak,aD] at hrow;obtain⟨rfl,rfl,rfl⟩:=hrow;cases hr with
     |@row _ _ _ c k hφ hn U hsh=>
      exact own id 0 n c k b hφ (by rw[hrd id (by simp)];exact hb) hc.1 (by rw[bN];exact a8 hc.2) rfl (by simp) rfl
    .cases hrow
   .cases hrow
  .cases hrow
 .rename_i id off n;split at hrow
  .rename_i b hb;split at hrow
   .rename_i hc;simp only[av] at hc;simp only[ak,aD] at hrow;obtain⟨rfl,rfl,rfl⟩:=hrow;cases hr with
    |@sl _ _ _ c k hφ hn U=>exact own id off n c k b hφ (by rw[hrd id (by simp)];exact hb) hc.1 (a8 hc.2) rfl rfl rfl
   .cases hrow
  .cases hrow
 .cases hrow
theorem ae5 {sz:Nat} {x:AV} {src:List AV} {m:Nat} {rd:List Nat} (hrow:x.row? h sz=af (src,m,rd)) {φ:PM} {E:Nat->Prop} {h':HF} {w:World} (hrd:∀ i∈rd,h' i=h.get i) (hrep:rf φ E h' w) {v:Value} (hr:cO φ (tot E φ h') w x v) {I el:TypeId} (hk:P.underlying I=af (.slice el)):
 ∃ vs,Src P sz I v m vs w/\Cs φ (tot E φ h') w src vs:=by
 obtain⟨A,c,vs,rfl,h1,h2,U,M⟩:=aa8 hrow hrd hrep hr;refine ⟨vs,?_,h1⟩;cases A with
 |none=>
  have:=U rfl;subst this;have hm:m*sz=0:=by simpa using h2.symm
  refine ⟨.inl ⟨el,hk⟩,λ_=>rfl,run_firstCells_none w sz m m c,run_firstCells_none w.drew sz m m c,by simp[hm],λ_ h=>by cases h⟩
 |some J=>exact Src.ofSlice w hk J m c vs h2 (M J rfl) h1.one
theorem ais {x:Nat}:∀ {l:List Nat},X_ x l=ai↔x∈l
 |[]=>by simp[X_]
 |y::r=>by
  simp only[X_,iV,ais (l:=r),bm];constructor
  .rintro (h|h)
   .exact .inl (aw h).symm
   .exact .inr h
  .rintro (h|h)
   .subst h;exact .inl (rS x)
   .exact .inr h
theorem ajt {t u el el':TypeId} {d x:Operand} {sz:Nat} (ho:o.op= .call {callee:=.builtin .copy,args:=#[d,x],argTypes:=#[t,u]}) (hu:P.underlying t=af (.slice el)) (hu':P.underlying u=af (.slice el')) (hs:fx P el=af sz) (J:eS (.copy sz d x) e h nx=af R):gQ P o e.get h.get R.eff:=by
 simp only[eS] at J;split at J
 .rename_i id sz' n y hd hx;split at J
  .rename_i blk src m rd hblk hrow;split at J
   .rename_i hc;simp only[av,c5,eA] at hc;obtain⟨⟨rfl,hmem⟩,hlen⟩:=hc;split at J
    .rename_i c' hput;simp only[ak] at J;subst J;unfold BC.put at hput;split at hput
     .rename_i hcc;simp only[av] at hcc;obtain⟨⟨c1,Z⟩,c3⟩:=hcc;have Z:=a8 Z;rw[bN] at Z;have M:c'.toMx=splice blk.c.toMx 0 (src.take (iS m n*sz'))/\c'.isCells=ai:=by
       split at hput
       .rename_i l ys hbl hys;simp only[ak] at hput;subst hput;refine ⟨?_,rfl⟩;have hv:=pQ hys;rw[hv,hbl];simp only[BC.toMx];unfold splice;simp[kH,List.map_drop]
       .simp only[ak] at hput;subst hput;exact⟨rfl,rfl⟩
      refine gQ.writes hblk λφ E h' w a hrd hb' hp hrep=>?_
      have hpd:=hp d _ (by rw[ho];simp[Op.operands,eU]) hd;have hpx:=hp x _ (by rw[ho];simp[Op.operands,eU]) hx;obtain⟨A,c,vs,hv,q1,q2,q3,q4⟩:=aa8 hrow (λi hi=>hrd i (by simp[hi])) hrep hpx;generalize hz:a.eval d=pv at hpd;cases hpd with
      |@row _ _ _ cap k hφ hn hcap hsh=>
       obtain⟨arr,g1,g2,g3⟩:=hrep.cs hb' hφ c1;rw[BC.len_toMx c1] at Z;have hmn:iS m n<=m:=Nat.min_le_left _ _;have hle:iS m n*sz'<=m*sz':=cH _ hmn
       let I:=vs.take (iS m n*sz')
       have hnl:I.length=iS m n*sz':=by simp only[I,bI,q2];omega
       have hsl:(src.take (iS m n*sz')).length=iS m n*sz':=by rw[bI,<-q1.1,q2];omega
       have csn:=q1.take (iS m n*sz');rw[hsl] at Z;have hst:=run_storeCells_at (P:=P) k 0 blk.ty I 0 arr w g1 (by rw[hnl];omega) csn.one
       let arr':Array Value:=(arr.toList.take 0++I++arr.toList.drop (0+iS m n*sz')).toArray
       have hsize:arr'.size=arr.size:=by simp only[arr',tm,bu,bI,mF,iy,hnl];omega
       have hfc:(Ld sz' (iS m n) (.slice A m c)).run P w= .ok I.toArray w:=by
        cases A with
        |none=>
         have:I=[]:=by simp[I,q3 rfl]
         rw[this];exact run_firstCells_none w sz' _ _ _
        |some ad=>exact run_firstCells_some w sz' _ ad m c I hnl (λj u hu=>q4 ad rfl j u (by
          simp only[I,cU] at hu;split at hu
          .exact hu
          .cases hu))
       refine ⟨.value (.int .i64 (iS m n)),w.setRow k arr',k,.cells arr' blk.ty (0,0),?_,hφ,Ft.setRow g1 hsize,?_,_,.inl rfl,.f (.raw _)⟩
       .have s1:=gA hs w;simp only[dv,hnl] at hst;unfold execOp;rw[ho];simp[resolve,invoke,builtin,Builtin.copy_,run_underlying hu,hz,hv,Builtin.lenOf,s1,hfc,hst,goInt,arr']
       .refine qe M.2 (by rw[M.1,oA (by rw[hsl];omega),hsize];exact g3) λj q hq=>?_
        rw[M.1,mI (by rw[hsl];omega)] at hq;have ha':arr'[j]? =if j<0 then arr.toList[j]? else if j<0+I.length then I[j-0]? else arr.toList[j]? :=by
         have:=mI (l:=arr.toList) (vs:=I) (off:=0) (by simp only[iy];omega) j;unfold splice at this;simp only[arr',km];rw[<- this,hnl]
        rw[ha',ay (by omega)];rw[ay (by omega),hsl] at hq;rw[hnl];by_cases h2:j<0+iS m n*sz'
        .rw[aF h2] at hq ⊢;have U:j-0<I.length:=by rw[hnl];omega
         exact⟨csn.2.1 q (bd hq),_,aB U,csn.2.2 _ q _ hq (aB U)⟩
        .rw[ay h2] at hq ⊢;have hj:j<blk.c.toMx.length:=(bl.1 hq).1;have Y:j<arr.toList.length:=by simp;omega
         refine ⟨g2.2.1 q (bd hq),arr.toList[j],aB Y,g2.2.2 j q _ hq ?_⟩;rw[cU,aF hj,aB Y]
     .cases hput
    .cases J
   .cases J
  .cases J
 .cases J
theorem an9 {t el:TypeId} {sz:Nat} {z:List Value} {x:Operand} (ho:o.op= .call {callee:=.builtin .clear,args:=#[x],argTypes:=#[t]}) (hu:P.underlying t=af (.slice el)) (hz:s6 P el=af z) (hc:mE z=ai) (hl:z.length=sz) (hsz:sz≠0) (J:eS (.clr sz z x) e h nx=af R):gQ P o e.get h.get R.eff:=by
 simp only[eS] at J;split at J
 .rename_i id off n hx;split at J
  .rename_i blk hblk;split at J
   .rename_i hn;have hn:=a8 hn;obtain⟨m,rfl⟩:∃ m,n=m+1:=⟨n-1,by omega⟩
    split at J
    .rename_i c' hput;simp only[ak] at J;subst J;unfold BC.put at hput;split at hput
     .rename_i hcc;simp only[av] at hcc;obtain⟨⟨c1,c2⟩,c3⟩:=hcc;have c2:=a8 c2;have hsrc:((repl z (m+1)).map AV.f).length=(m+1)*sz:=by rw[bR,mK,hl]
      rw[hsrc] at c2;have U:c'.toMx=splice blk.c.toMx off ((repl z (m+1)).map AV.f)/\c'.isCells=ai:=by
       split at hput
       .rename_i l ys hbl hys;simp only[ak] at hput;subst hput;refine ⟨?_,rfl⟩;have hv:=pQ hys;rw[hv,hbl];simp only[BC.toMx];unfold splice;simp[kH,List.map_drop]
       .simp only[ak] at hput;subst hput;exact⟨rfl,rfl⟩
      refine gQ.writes hblk λφ E h' w a hrd hb' hp hrep=>?_
      have hpx:=hp x _ (by rw[ho];simp[Op.operands,eU]) hx;generalize hzv:a.eval x=pv at hpx;cases hpx with
      |@sl _ _ _ cap k hφ hn2 hcap=>
       obtain⟨arr,g1,Z,g3⟩:=hrep.cs hb' hφ c1;rw[BC.len_toMx c1] at c2;obtain⟨v,z1,z2,_⟩:=tO hz w;have csn:=Cs.repl (φ:=φ) (O:=tot E φ h') (w:=w) z2 (m+1) sz hl hsz hc
       let M:=(lA v.cells (m+1)).toList
       have hvs:v.cells.size=sz:=by rw[<- hl,<-z2];simp
       have hns:M=((yI ((m+1)*sz)).map (λi=>v.cells[i%v.cells.size]!)).toList:=by simp only[M,lA,hvs]
       have hnl:M.length=(m+1)*sz:=by rw[hns];simp
       rw[<- hns] at csn;have hst:=run_storeCells_at (P:=P) k off blk.ty M 0 arr w g1 (by rw[hnl];omega) csn.one
       let arr':Array Value:=(arr.toList.take (off+0)++M++arr.toList.drop (off+0+M.length)).toArray
       have hsize:arr'.size=arr.size:=by simp only[arr',tm,bu,bI,mF,iy,hnl];omega
       refine ⟨.value (.tuple #[]),w.setRow k arr',k,.cells arr' blk.ty (0,0),?_,hφ,Ft.setRow g1 hsize,?_,_,.inl rfl,.tup (vs:=[]) rfl λj y v hy=>by simp at hy⟩
       .unfold execOp;rw[ho];have hst2:(storeCells ⟨k,off,ah⟩ (lA v.cells (m+1)).toList).run P w= .ok () (w.setRow k arr'):=hst;simp[resolve,invoke,builtin,Builtin.clear_,run_underlying hu,hzv,z1,hst2]
       .refine qe U.2 (by rw[U.1,oA (by rw[hsrc];omega),hsize];exact g3) λj q hq=>?_
        rw[U.1,mI (by rw[hsrc];omega)] at hq;have ha':arr'[j]? =if j<off then arr.toList[j]? else if j<off+M.length then M[j-off]? else arr.toList[j]? :=by
         have:=mI (l:=arr.toList) (vs:=M) (off:=off) (by simp only[iy];omega) j;unfold splice at this;simp only[arr',km,dv];rw[<- this]
        rw[ha'];rw[hsrc] at hq;rw[hnl];by_cases h1:j<off
        .rw[aF h1] at hq ⊢;have hj:j<blk.c.toMx.length:=(bl.1 hq).1;have I:j<arr.toList.length:=by simp;omega
         refine ⟨Z.2.1 q (bd hq),arr.toList[j],aB I,Z.2.2 j q _ hq ?_⟩;rw[cU,aF hj,aB I]
        rw[ay h1] at hq ⊢;by_cases h2:j<off+(m+1)*sz
        .rw[aF h2] at hq ⊢;have Y:j-off<M.length:=by rw[hnl];omega
         exact⟨csn.2.1 q (bd hq),_,aB Y,csn.2.2 _ q _ hq (aB Y)⟩
        .rw[ay h2] at hq ⊢;have hj:j<blk.c.toMx.length:=(bl.1 hq).1;have I:j<arr.toList.length:=by simp;omega
         refine ⟨Z.2.1 q (bd hq),arr.toList[j],aB I,Z.2.2 j q _ hq ?_⟩;rw[cU,aF hj,aB I]
     .cases hput
    .cases J
   .cases J
  .cases J
 .cases J
end
theorem Mu (w:World) (ob:Obj):S7 w (w.drew.alloc ob) ob:=S7.drawn (w.drawn+1) (ri {w with drawn:=w.drawn+1} ob)
section
variable {P:Program} {o:Oper} {e:zY} {h:n_} {nx:Nat} {R:Cg}
theorem H7 {v:Value} {z:List Value} {sz:Nat} (hv:v.cells.toList=z) (hl:z.length=sz) (n:Nat):(lA v.cells n).size=n*sz:=by
 have:v.cells.size=sz:=by rw[<- hl,<-hv];simp
 simp[lA,this]
theorem SS {t u el:TypeId} {s x:Operand} {i:TypeInfo} {z:List Value} (ho:o.op= .call {callee:=.builtin .append,args:=#[s,x],argTypes:=#[t,u]}) (hu:P.underlying t=af (.slice el)) (M:P.info? el=af i) (Z:s6 P el=af z) (hzl:z.length=i.size)
 {φ:PM} {E:Nat->Prop} {h':HF} {w:World} {a:Act} (hrep:rf φ E h' w) (hnx:φ nx=ah) {A:Option Addr} {n cap m:Nat} {olds vs:List Value} {oldA src:List AV} (hsl:a.eval s= .slice A n cap)
 (hold:(Ld i.size n (.slice A n cap)).run P w.drew= .ok olds.toArray w.drew) (csold:Cs φ (tot E φ h') w oldA olds) (hol:olds.length=n*i.size) (hsrc:Src P i.size u (a.eval x) m vs w) (hcs:Cs φ (tot E φ h') w src vs)
 (hg:cap<n+m) (r1:n+m<=1099511627776) (r2:(n+m)*i.bytes<=1099511627776) (del:List Nat) (hdel:∀ j∈del,j≠nx):
 o.wp P a w (λa' w'=>∃ v φ',a'=a.put o.dst v/\i_ φ φ' h' (eV h' (nx::del) (jf [(nx,⟨el,pq (oldA++src)⟩)])) w w'/\(∀ i k,φ' i=af k->φ i=af k\/i∈[nx])/\
  rf φ' E (eV h' (nx::del) (jf [(nx,⟨el,pq (oldA++src)⟩)])) w'/\cO φ' (tot E φ' (eV h' (nx::del) (jf [(nx,⟨el,pq (oldA++src)⟩)]))) w' (.row nx i.size (n+m)) v) (λ_ _ _=>False):=by
 obtain⟨J,z1,Y,i',I,U⟩:=tO Z w;rw[M] at I;cases I;have hfb:=growslice_fits (need:=n+m) (old:=cap) (bytes:=i.bytes) hg (by omega);have hrun:=run_append_grow_src w t u o.type el i J hu M U A n cap olds hold (a.eval x) m vs hsrc hg (by omega) hfb;have hgc:=grownCap_ge w (n+m) cap el;have hgm:=grownCap_le_maxLen w (n+m) cap el (by unfold maxLen;omega);generalize grownCap w (n+m) cap el=Gc at hrun hgc hgm;have cs:=csold.append hcs;have hnl:=hsrc.newsLen;obtain⟨φ',p1,p2,p3,p4⟩:=hrep.wnew hnx (Mu w _) (b:=⟨el,pq (oldA++src)⟩) (ob:=.cells ((olds++vs).toArray++lA J.cells (Gc-(n+m))) el (0,0)) (by
  obtain⟨q1,q2⟩:=nO (oldA++src);refine qe q2 (by rw[q1,<-cs.1];simp) λj q hq=>?_
  rw[q1] at hq;have hj:j<(olds++vs).length:=by rw[cs.1];exact (bl.1 hq).1
  refine ⟨cs.2.1 q (bd hq),_,?_,cs.2.2 j q _ hq (aB hj)⟩;rw[Array.getElem?_append_left (by simpa using hj),km,aB hj]) del (jf [(nx,⟨el,pq (oldA++src)⟩)]) (by simp[jf]) (λj hj hne=>by
   simp only[jf];rw[ay];intro hb;exact hne (aw hb).symm)
 have hexec:(execOp a.eval o).run P w= .ok (.value (.slice (af ⟨w.heap.size,0,ah⟩) (n+m) Gc)) (w.drew.alloc (.cells ((olds++vs).toArray++lA J.cells (Gc-(n+m))) el)):=by
  unfold execOp;rw[ho];simp only[resolve,invoke,builtin,eL,oR,cL,List.map_toArray,gr,List.map_nil,hsl,hrun]
 unfold HA;rw[hexec];refine ⟨_,φ',rfl,p2,p3,p4,.row p1 hgc hgm ⟨el,?_⟩⟩;have:=(Mu w (.cells ((olds++vs).toArray++lA J.cells (Gc-(n+m))) el (0,0))).at_;unfold rR;rw[this];have hzs:=H7 Y hzl (Gc-(n+m));have e1:(n+m)*i.size+(Gc-(n+m))*i.size=Gc*i.size:=by rw[<- NJ];congr 1;omega
 simp only[Array.size_append,tm,bu,hol,hnl,hzs];congr 2;rw[<- e1,NJ]
theorem anc {t u el el':TypeId} {s x:Operand} {sz bytes:Nat} {z:List Value} (U:o.op= .call {callee:=.builtin .append,args:=#[s,x],argTypes:=#[t,u]}) (hu:P.underlying t=af (.slice el)) (hu':P.underlying u=af (.slice el')) (hs:fx P el=af sz) (hb:Fn P el=af bytes) (hz:s6 P el=af z) (hzl:z.length=sz) (hsz:sz≠0)
 (I:eS (.app el sz bytes s x) e h nx=af R):gQ P o e.get h.get R.eff:=by
 obtain⟨i,Y,i2⟩:=Nt hb;have i3:i.size=sz:=by unfold fx at hs;rw[Y] at hs;simpa using hs
 subst i2;subst i3;simp only[eS] at I;split at I
 .rename_i bv y hsv M;split at I
  .rename_i src m rd hrow;have common:∀ {φ:PM} {E:Nat->Prop} {h':HF} {w:World} {a:Act},(∀ i∈rd,h' i=h.get i)->Wc φ E h' w a e o->rf φ E h' w->∃ vs,Src P i.size u (a.eval x) m vs w/\Cs φ (tot E φ h') w src vs:=
    λhrd hp hrep=>ae5 hrow hrd hrep (hp x _ (by rw[U];simp[Op.operands,eU]) M) hu'
   have exec:∀ {w w':World} {a:Act} {v:Value},(Builtin.append_ #[t,u] o.type #[a.eval s,a.eval x]).run P w= .ok v w'->(execOp a.eval o).run P w= .ok (.value v) w':=by
    intro w w' a v hrun;unfold execOp;rw[U];simp[resolve,invoke,builtin,hrun]
   split at I
   .rename_i id sz' n;split at I
    .rename_i blk hblk;split at I
     .rename_i hc;simp only[av,c5,eA] at hc;obtain⟨⟨⟨⟨⟨rfl,hmem⟩,hcells⟩,hlen⟩,hty⟩,hroom⟩:=hc;have hlen:=a8 hlen;rw[BC.len_toMx hcells] at hlen;obtain⟨r1,r2⟩:=Im hroom;simp only[ak] at I;subst I;subst hty;intro φ E h' w a h1 h2 h3 hrep h5;have hp:Wc φ E h' w a e o:=λx y M hy=>tL hrep h3 M hy
      have hb':h' id=af blk:=by rw[h1 id (by simp[Cg.eff])];exact hblk
      obtain⟨vs,hsrc,hcs⟩:=common (λi hi=>h1 i (by simp[Cg.eff,hi])) hp hrep;have hpd:=hp s _ (by rw[U];simp[Op.operands,eU]) hsv;have hnx:φ nx=ah:=h5 nx (by simp[Cg.eff]);have hwv:=hp s _ (by rw[U];simp[Op.operands,eU]) hsv;generalize hzv:a.eval s=pv at hpd;cases hpd with
      |@row _ _ _ cap k hφ hn hcap hsh=>
       obtain⟨arr,g1,g2,g3⟩:=hrep.cs hb' hφ hcells;have hne:nx≠id:=λe=>by rw[e,hφ] at hnx;cases hnx
       have harr:arr.size=cap*i.size:=by
        obtain⟨ty,hty⟩:=hsh;unfold rR at hty;rw[g1] at hty;simp at hty;exact hty.2
       have hnl:=hsrc.newsLen;have hnn:n*i.size<=arr.size:=by omega
       have csnew:Cs φ (tot E φ h') w (blk.c.toMx.take (n*i.size)++src) (arr.toList.take (n*i.size)++vs):=by
        have:=(g2.take (n*i.size)).append hcs
        rwa [List.take_take,sM hlen] at this
       have hnw1:jf [(nx,⟨blk.ty,pq (blk.c.toMx.take (n*i.size)++src)⟩)] nx=af ⟨blk.ty,pq (blk.c.toMx.take (n*i.size)++src)⟩:=by simp[jf]
       have hnw2:jf [(nx,⟨blk.ty,pq (blk.c.toMx.take (n*i.size)++src)⟩)] id=ah:=by
        simp only[jf];rw[ay];intro hb;exact hne (aw hb)
       by_cases hfit:n+m<=cap
       ·
        have hend:n*i.size+vs.length<=arr.size:=by
         rw[hnl,harr,<-NJ];exact cH _ hfit
        have hst:=run_storeCells_at (P:=P) k (n*i.size) blk.ty vs 0 arr w g1 (by omega) hsrc.one;simp only[dv] at hst
        let arr':Array Value:=(arr.toList.take (n*i.size)++vs++arr.toList.drop (n*i.size+vs.length)).toArray
        have hsize:arr'.size=arr.size:=by simp only[arr',tm,bu,bI,mF,iy];omega
        have hrun:(Builtin.append_ #[t,u] o.type #[a.eval s,a.eval x]).run P w= .ok (.slice (af ⟨k,0,ah⟩) (n+m) cap) (w.setRow k arr'):=by
         rw[hzv];rcases hsrc.kind with ⟨e',hk⟩|hk<;>simp[Builtin.append_,run_underlying hu,run_underlying hk,sizeOf,typeInfo,Y,hsrc.len,hfit,hsrc.cells,k_,hst,arr']
        obtain⟨φ',p1,p2,p3,p4⟩:=hrep.wren hb' hφ hnx (Ft.setRow g1 hsize) (b':=⟨blk.ty,pq (blk.c.toMx.take (n*i.size)++src)⟩) (by
         obtain⟨q1,q2⟩:=nO (blk.c.toMx.take (n*i.size)++src);refine qe q2 (by rw[q1,<-csnew.1,hsize];simp;omega) λj q hq=>?_
         rw[q1] at hq;have hj:j<(arr.toList.take (n*i.size)++vs).length:=by rw[csnew.1];exact (bl.1 hq).1
         refine ⟨csnew.2.1 q (bd hq),_,?_,csnew.2.2 j q _ hq (aB hj)⟩;simp only[arr',km];rw[bO hj,aB hj]) _ hnw1 hnw2
        unfold HA;rw[exec hrun];refine ⟨_,φ',rfl,p2,p3,p4,.row p1 hfit hcap ⟨blk.ty,?_⟩⟩;unfold rR;rw[setRow_heap w k arr arr' blk.ty (0,0) g1];simp[hsize,harr]
       ·
        have hold:(Ld i.size n (.slice (af ⟨k,0,ah⟩) n cap)).run P w.drew= .ok (arr.toList.take (n*i.size)).toArray w.drew:=by
         refine run_firstCells_some w.drew i.size n _ n cap _ (by simp;omega) λj v hv=>?_
         rw[cU] at hv;split at hv
         .rw[cJ] at hv;rw[k_,bN];have hcl:w.cell? ⟨k,j,ah⟩=af v:=by simp[NH,g1,hv]
          simpa using hcl
         .cases hv
        exact SS U hu Y hz hzl hrep hnx hzv hold (by
         have:=g2.take (n*i.size)
         rwa [List.take_take,sM hlen] at this) (by simp;omega) hsrc hcs (by omega) r1 r2 [id] (λj hj=>by simp at hj;subst hj;exact λe=>hne e.symm)
     .cases I
    .cases I
   .split at I
    .rename_i hc;simp only[av] at hc;obtain⟨J,hroom⟩:=hc;obtain⟨r1,r2⟩:=Im hroom;have hbase:∀ {φ:PM} {O:Nat->Prop} {w:World} {v:Value},cO φ O w bv v->∃ A,v= .slice A 0 0:=by
      intro φ O w v hr;unfold IV at J;split at J
      .cases hr;exact⟨_,rfl⟩
      .rename_i q;cases fB hr;unfold Aj at J;split at J
       .exact⟨_,rfl⟩
       .cases J
      .cases J
     split at I
     .rename_i hm;have hm:m=0:=by simpa using hm
      subst hm;simp only[ak] at I;subst I;refine gQ.reads λφ E h' w a hrd hp hrep=>?_
      obtain⟨vs,hsrc,hcs⟩:=common hrd hp hrep;have hr:=hp s _ (by rw[U];simp[Op.operands,eU]) hsv;obtain⟨A,hA⟩:=hbase hr;refine ⟨a.eval s,exec ?_,hr⟩;rw[hA];have hvs:vs=[]:=by have:=hsrc.newsLen;simpa using this
      have Z:=hsrc.cells;rw[hvs] at Z;rcases hsrc.kind with ⟨e',hk⟩|hk<;>cases A<;>simp[Builtin.append_,run_underlying hu,run_underlying hk,sizeOf,typeInfo,Y,hsrc.len,Z,storeCells]
     .rename_i hm;have hm:m≠0:=by simpa using hm
      simp only[ak] at I;subst I;intro φ E h' w a h1 h2 h3 hrep h5;have hp:Wc φ E h' w a e o:=λx y M hy=>tL hrep h3 M hy
      obtain⟨vs,hsrc,hcs⟩:=common (λi hi=>h1 i hi) hp hrep;obtain⟨A,hA⟩:=hbase (hp s _ (by rw[U];simp[Op.operands,eU]) hsv);have hold:(Ld i.size 0 (.slice A 0 0)).run P w.drew= .ok ([]:List Value).toArray w.drew:=by
       cases A with
       |none=>exact run_firstCells_none w.drew i.size 0 0 0
       |some ad=>exact run_firstCells_some w.drew i.size 0 ad 0 0 [] (by simp) (by intro j v hv;simp at hv)
      have:=SS (nx:=nx) (n:=0) (cap:=0) (olds:=[]) (oldA:=[]) U hu Y hz hzl hrep (h5 nx (by simp[Cg.eff])) hA hold ⟨rfl,(by intro x M;cases M),(by intro j x v M;simp at M)⟩ (by simp) hsrc hcs (by omega) (by omega) (by simpa using r2) [] (by simp);simpa[Cg.eff] using this
    .cases I
  .cases I
 .cases I
end
section
variable {P:Program} {o:Oper} {e:zY} {h:n_} {nx:Nat} {R:Cg}
theorem an0 {t:TypeId} (M:o.op= .makeMap t ah) (I:eS .mkm e h nx=af R):gQ P o e.get h.get R.eff:=by
 simp only[eS,ak] at I;subst I;refine gQ.makes λφ E h' w a _ _ _=>?_
 refine ⟨.map (af w.heap.size),{w with heap:=w.heap.push (.map #[] 0)},.map #[] 0,?_,ri w _,⟨#[],0,rfl,rfl,by intro j x J;simp at J⟩,λφ' O hφ=>.mp hφ⟩;unfold execOp;rw[M];simp[Instr.makeMap,newObj,nD]
theorem amu {t:TypeId} {x:Operand} (J:o.op= .range t x) (hu:P.underlying t=af .string) (I:eS (.rng x) e h nx=af R):gQ P o e.get h.get R.eff:=by
 simp only[eS] at I;split at I
 .rename_i s M;simp only[ak] at I;subst I;refine gQ.makes λφ E h' w a _ hp _=>?_
  have hr:=fB (hp x _ (by rw[J];simp[Op.operands]) M);refine ⟨.pointer (af ⟨w.heap.size,0,ah⟩),{w with heap:=w.heap.push (.stringIter s 0)},.stringIter s 0,?_,ri w _,rfl,λφ' O hφ=>.ptr hφ⟩;unfold execOp;rw[J];simp[Instr.range,run_underlying hu,hr,newObj,nD]
 .cases I
theorem H9 {w:World} {k:Nat} {ob ob':Obj} (hk:w.heap[k]? =af ob) (h1:∀ c t f,ob≠ .cells c t f) (h2:∀ c t f,ob'≠ .cells c t f):Ft w {w with heap:=w.heap.setIfInBounds k ob'} k ob':=by
 have hlt:k<w.heap.size:=(cF.1 hk).1;have hat:(w.heap.setIfInBounds k ob')[k]? =af ob':=by simp[hlt]
 have hot:∀ j,j≠k->(w.heap.setIfInBounds k ob')[j]? =w.heap[j]? :=λj hj=>pU (λe=>hj e.symm)
 refine ⟨rfl,rfl,rfl,by simp,hat,hot,λj=>?_⟩;unfold rR;by_cases hj:j=k
 .subst hj;simp only[hat,hk];cases ob<;>cases ob'<;>first|rfl|exact cR rfl (h1 _ _ _)|exact cR rfl (h2 _ _ _)
 .simp only[hot j hj]
theorem amw {x:Operand} (U:o.op= .next x ai) (I:eS (.nxt x) e h nx=af R):gQ P o e.get h.get R.eff:=by
 simp only[eS] at I;split at I
 .rename_i id Z;split at I
  .rename_i ty s p hid;split at I
   .rename_i b hb;split at I
    .rename_i hlt;have hlt:=a8 hlt;simp only[ak] at I;subst I;refine gQ.writes hid λφ E h' w a hrd M hp hrep=>?_
     have hr:=hp x _ (by rw[U];simp[Op.operands]) Z;generalize Y:a.eval x=z at hr;cases hr with
     |@ptr _ _ k hφ=>
      obtain⟨k',q1,_,ob,q2,q3⟩:=hrep.at_ id _ M;rw[hφ] at q1;cases q1;have q3:ob= .stringIter s p:=q3;subst q3;have hps:p<s.size:=by
       have:=(bl.1 hb).1;simpa using this
      have hget:s.get! p=b:=by
       have:s.data[p]? =af b:=by rw[<- cJ];exact hb
       have hpd:p<s.data.size:=(cF.1 this).1;have h2:s.data[p]! =s.data[p]:=getElem!_pos s.data p hpd;rw[ij hpd] at this;simp only[ByteArray.get!,h2];exact jS this
      have hdec:Utf8.decode s p=(b.toNat,1):=by
       unfold Utf8.decode;simp only[dv,hget];rw[aF (by omega)]
      refine ⟨.value (.tuple #[.bool ai,.int .i64 p,.int .i32 b.toNat]),_,k,.stringIter s (p+1),?_,hφ,H9 q2 (by simp) (by simp),rfl,_,.inl rfl,?_⟩
      .unfold execOp;rw[U];simp[Instr.next,Y,getObj,nD,q2,hps,hdec,setObj,goInt]
      .refine cO.tup (vs:=[.bool ai,.int .i64 p,.int .i32 b.toNat]) rfl λj y v J hv=>?_
       rcases j with _|_|_|j<;>simp at J hv
       .subst J;subst hv;exact .f (.raw _)
       .subst J;subst hv;exact .f (.raw _)
       .subst J;subst hv;exact .f (.raw _)
    .cases I
   .rename_i hb;simp only[ak] at I;subst I;refine gQ.writes hid λφ E h' w a hrd M hp hrep=>?_
    have hr:=hp x _ (by rw[U];simp[Op.operands]) Z;generalize Y:a.eval x=z at hr;cases hr with
    |@ptr _ _ k hφ=>
     obtain⟨k',q1,_,ob,q2,q3⟩:=hrep.at_ id _ M;rw[hφ] at q1;cases q1;have q3:ob= .stringIter s p:=q3;subst q3;have hps:¬p<s.size:=by
      have:=List.getElem?_eq_none_iff.1 hb;have e:s.data.toList.length=s.size:=by simp
      omega
     refine ⟨.value (.tuple #[.bool aj]),w,k,.stringIter s p,?_,hφ,⟨rfl,rfl,rfl,rfl,q2,λ_ _=>rfl,λ_=>rfl⟩,rfl,_,.inl rfl,?_⟩
     .unfold execOp;rw[U];simp[Instr.next,Y,getObj,nD,q2,hps]
     .refine cO.tup (vs:=[.bool aj]) rfl λj y v J hv=>?_
      rcases j with _|j<;>simp at J hv;subst J;subst hv;exact .f (.raw _)
  .cases I
 .cases I
theorem zU {a b:ByteArray}:r_ a b=ai↔a=b:=by
 unfold r_;constructor
 .intro h;have h1:a.data.toList=b.data.toList:=by simpa using h
  cases a;cases b;congr 1;exact Lf h1
 .rintro rfl;simp
theorem Fm (a b:ByteArray):(a==b)=r_ a b:=by
 have h1:(a==b)=(a.data==b.data):=rfl;rw[h1,Bool.eq_iff_iff,zU,c5];constructor
 .intro h;cases a;cases b;congr 1
 .rintro rfl;rfl
def kd (str:Bool) (d:TypeDesc):Prop:=if str then d= .string else ∃ k,d= .int k
theorem CC {str:Bool} {d:TypeDesc} (hd:kd str d) {k k':Value} (hk:ze str k=ai) {b:Bool} (hb:uR .eql k k'=af (.bool b)):Instr.sameNow d k k'=af b:=by
 unfold kd at hd;cases str with
 |true=>
  simp only[bH] at hd;subst hd;cases k<;>simp[ze] at hk;cases k'<;>simp only[uR] at hb<;>try (simp at hb;done)
  simp only[ak,Ci] at hb;simp[Instr.sameNow,Fm,hb]
 |false=>
  simp only[cz,ef] at hd;obtain⟨q,rfl⟩:=hd;cases k<;>simp[ze] at hk;cases k'<;>simp only[uR] at hb<;>try (simp at hb;done)
  split at hb
  .rename_i hkk;have hkk':=eq_of_beq hkk;subst hkk';simp only[ak,Ci] at hb;simp[Instr.sameNow,<-hb]
  .cases hb
theorem Rt {str:Bool} {d:TypeDesc} (hd:kd str d) {k:Value} (hk:ze str k=ai):∀ (es:List (Value×AV)) (ents:List MapEntry) (i:Nat),ents.map (·.key)=es.map (·.1)->∀ r,tF k es=af r->
 (r=ah/\jz d k ents i=af ah)\/∃ (j:Nat) (v:AV) (m:MapEntry) (k':Value),r=af v/\es[j]? =af (k',v)/\ents[j]? =af m/\jz d k ents i=af (af (i+j,m.val))/\uR .eql k k'=af (.bool ai)
 |[],ents,i,he,r,h=>by
  cases ents with
  |nil=>simp only[tF,ak] at h;exact .inl ⟨h.symm,rfl⟩
  |cons _ _=>simp at he
 |(k',v)::es,ents,i,he,r,h=>by
  cases ents with
  |nil=>simp at he
  |cons m ents=>
   simp only[gr,iT] at he;obtain⟨I,J⟩:=he;simp only[tF] at h;split at h
   .rename_i hb;simp only[ak] at h;refine .inr ⟨0,v,m,k',h.symm,rfl,rfl,?_,hb⟩;simp only[jz];rw[I,CC hd hk hb];rfl
   .rename_i hb;have hs:=CC hd hk hb;rcases Rt hd hk es ents (i+1) J r h with ⟨h1,h2⟩|⟨j,M,m',k'',h1,h2,Z,Y,U⟩
    .refine .inl ⟨h1,?_⟩;simp only[jz];rw[I,hs];exact h2
    .refine .inr ⟨j+1,M,m',k'',h1,by simpa using h2,by simpa using Z,?_,U⟩;simp only[jz];rw[I,hs];show jz d k ents (i+1)=_;rw[Y,show i+1+j=i+(j+1) from by omega]
   .cases h
theorem CD {I:TypeId} {str:Bool} {d:TypeDesc} (hu:P.underlying I=af d) (hd:kd str d) (b:Bool) (v:Value) (w:World):(Instr.checkKey b 10000 I v).run P w= .ok () w:=by
 have key:∀ n,(Instr.checkKey b (n+1) I v).run P w= .ok () w:=λn=>by
  unfold kd at hd;cases str with
  |true=>simp only[bH] at hd;subst hd;simp[Instr.checkKey,run_underlying hu]
  |false=>simp only[cz,ef] at hd;obtain⟨q,rfl⟩:=hd;simp[Instr.checkKey,run_underlying hu]
 exact key 9999
theorem aah {φ:PM} {O:Nat->Prop} {w:World} {ok b:Bool} {x:AV} {v:Value} (h:cO φ O w x v):cO φ O w (pkV ok x b) (if ok then .tuple #[v,.bool b] else v):=by
 cases ok with
 |false=>exact h
 |true=>
  refine cO.tup (vs:=[v,.bool b]) rfl λj y u I hv=>?_
  rcases j with _|_|j<;>simp at I hv
  .subst I;subst hv;exact h
  .subst I;subst hv;exact .f (.raw _)
theorem aht {t Z el:TypeId} {x k:Operand} {str ok:Bool} {d:TypeDesc} {z:Value} (U:o.op= .lookup t x k ok) (hu:P.underlying t=af (.map Z el)) (hk:P.underlying Z=af d) (hd:kd str d) (M:(P.info? el).bind (·.zero)=af z) (I:eS (.lku str ok z x k) e h nx=af R):gQ P o e.get h.get R.eff:=by
 simp only[eS] at I;split at I
 .rename_i id key hx hkx;split at I
  .rename_i ty es hid;split at I
   .rename_i hko;have fin:∀ val:AV,(∀ (φ:PM) (E:Nat->Prop) (h':HF) (w:World) (a:Act),h' id=af ⟨ty,.mp es⟩->Wc φ E h' w a e o->rf φ E h' w->∃ v,(execOp a.eval o).run P w= .ok (.value v) w/\cO φ (tot E φ h') w val v)->R=⟨val,[id],[],[],[]⟩->gQ P o e.get h.get R.eff:=by
     rintro val hv rfl;exact gQ.reads λφ E h' w a hrd hp hrep=>hv φ E h' w a (by rw[hrd id (by simp)];exact hid) hp hrep
    have zrun:∀ w:World,(zeroValue el).run P w= .ok z w:=λw=>by
     cases hi:P.info? el with
     |none=>rw[hi] at M;cases M
     |some i=>rw[hi] at M;simp only[aH] at M;simp[zeroValue,typeInfo,hi,M]
    have main:∀ r,tF key es=af r->∀ (φ:PM) (E:Nat->Prop) (h':HF) (w:World) (a:Act),h' id=af ⟨ty,.mp es⟩->Wc φ E h' w a e o->rf φ E h' w->
     ∃ v,(execOp a.eval o).run P w= .ok (.value v) w/\cO φ (tot E φ h') w (match r with|some v=>pkV ok v ai|none=>pkV ok (raw z) aj) v:=by
     intro r hr φ E h' w a Y hp hrep;have hrx:=hp x _ (by rw[U];simp[Op.operands]) hx;have hrk:=fB (hp k _ (by rw[U];simp[Op.operands]) hkx);generalize J:a.eval x=zz at hrx;cases hrx with
     |@mp _ b hφ=>
      obtain⟨k',q1,_,ob,q2,q3⟩:=hrep.at_ id _ Y;rw[hφ] at q1;cases q1;obtain⟨ents,clock,rfl,q4,q5⟩:=q3;have hck:=CD (P:=P) hk hd ents.isEmpty key w;rcases Rt hd hko es ents.toList 0 q4 r hr with ⟨h1,h2⟩|⟨j,v,m,k',h1,h2,h3,h4,_⟩
      .subst h1;refine ⟨_,?_,aah (.f (.raw z))⟩;unfold execOp;rw[U];cases ok<;>simp[Instr.lookup,run_underlying hu,J,hrk,getObj,nD,q2,hck,Instr.findKey,run_underlying hk,h2,zrun]
      .subst h1;obtain⟨m',h6,h7⟩:=q5 j _ h2;rw[cJ] at h3;rw[h3] at h6;cases h6;refine ⟨_,?_,aah h7⟩;unfold execOp;rw[U];cases ok<;>simp[Instr.lookup,run_underlying hu,J,hrk,getObj,nD,q2,hck,Instr.findKey,run_underlying hk,h4]
    split at I
    .rename_i v hf;simp only[ak] at I;exact fin _ (main _ hf) I.symm
    .rename_i hf;simp only[ak] at I;exact fin _ (main _ hf) I.symm
    .cases I
   .cases I
  .cases I
 .cases I
theorem WH {str:Bool} {d:TypeDesc} (hd:kd str d) {k:Value} (hk:ze str k=ai) {v:AV}:∀ (es es':List (Value×AV)) (ents:List MapEntry) (i:Nat),ents.map (·.key)=es.map (·.1)->za k v es=af es'->
 (jz d k ents i=af ah/\es'=es++[(k,v)])\/∃ (j:Nat) (m:MapEntry) (k':Value) (J:AV),es[j]? =af (k',J)/\ents[j]? =af m/\jz d k ents i=af (af (i+j,m.val))/\uR .eql k k'=af (.bool ai)/\es'=es.set j (k,v)
 |[],es',ents,i,he,h=>by
  cases ents with
  |nil=>simp only[za,ak] at h;exact .inl ⟨rfl,by simp[h]⟩
  |cons _ _=>simp at he
 |(k',J)::es,es',ents,i,he,h=>by
  cases ents with
  |nil=>simp at he
  |cons m ents=>
   simp only[gr,iT] at he;obtain⟨I,M⟩:=he;simp only[za] at h;split at h
   .rename_i hb;simp only[ak] at h;refine .inr ⟨0,m,k',J,rfl,rfl,?_,hb,by simp[h]⟩;simp only[jz];rw[I,CC hd hk hb];rfl
   .rename_i hb;have hs:=CC hd hk hb;split at h
    .rename_i es2 hes2;simp only[ak] at h;subst h;rcases WH hd hk es es2 ents (i+1) M hes2 with ⟨h1,h2⟩|⟨j,m',k'',v'',h1,h2,Z,Y,U⟩
     .refine .inl ⟨?_,by simp[h2]⟩;simp only[jz];rw[I,hs];exact h1
     .refine .inr ⟨j+1,m',k'',v'',by simpa using h1,by simpa using h2,?_,Y,by simp[U]⟩;simp only[jz];rw[I,hs];show jz d k ents (i+1)=_;rw[Z,show i+1+j=i+(j+1) from by omega]
    .cases h
   .cases h
theorem abr {str:Bool} {k k':Value} (hk:ze str k=ai) (hb:uR .eql k k'=af (.bool ai)):Instr.sameBits 10000 k' k=ai/\k'=k:=by
 cases str with
 |true=>
  cases k<;>simp[ze] at hk;cases k'<;>simp only[uR] at hb<;>try (simp at hb;done)
  simp only[ak,Ci] at hb;have:=zU.1 hb;subst this;exact⟨by simp[Instr.sameBits,Fm,hb],rfl⟩
 |false=>
  cases k<;>simp[ze] at hk;cases k'<;>simp only[uR] at hb<;>try (simp at hb;done)
  split at hb
  .rename_i hkk;have hkk':=eq_of_beq hkk;subst hkk';simp only[ak,Ci,c5] at hb;subst hb;exact⟨by simp[Instr.sameBits],rfl⟩
  .cases hb
theorem ahs {t Z el:TypeId} {x k y:Operand} {str:Bool} {d:TypeDesc} (M:o.op= .mapUpdate t x k y) (hu:P.underlying t=af (.map Z el)) (hk:P.underlying Z=af d) (hd:kd str d) (I:eS (.mup str x k y) e h nx=af R):gQ P o e.get h.get R.eff:=by
 simp only[eS] at I;split at I
 .rename_i id key v hx hkx hy;split at I
  .rename_i ty es hid;split at I
   .rename_i hko;split at I
    .rename_i es' hput;simp only[ak] at I;subst I;refine gQ.writes hid λφ E h' w a hrd Y hp hrep=>?_
     have hrx:=hp x _ (by rw[M];simp[Op.operands]) hx;have hrk:=fB (hp k _ (by rw[M];simp[Op.operands]) hkx);have hry:=hp y _ (by rw[M];simp[Op.operands]) hy;generalize J:a.eval x=zz at hrx;cases hrx with
     |@mp _ b hφ=>
      obtain⟨k',q1,_,ob,q2,q3⟩:=hrep.at_ id _ Y;rw[hφ] at q1;cases q1;obtain⟨ents,clock,rfl,q4,q5⟩:=q3;have hck:=CD (P:=P) hk hd aj key w;have hlen:ents.size=es.length:=by have:=gO al q4;simpa using this
      rcases WH hd hko es es' ents.toList 0 q4 hput with ⟨h1,rfl⟩|⟨j,m,k',v',h1,h2,h3,h4,rfl⟩
      .refine ⟨.skip,_,b,.map (ents.push {key,val:=a.eval y,born:=clock}) (clock+1),?_,hφ,H9 q2 (by simp) (by simp),⟨_,_,rfl,by simp[q4],λj q hq=>?_⟩,undef,.inr ⟨rfl,rfl⟩,.f (.raw _)⟩
       .unfold execOp;rw[M];simp[Instr.mapUpdate,run_underlying hu,J,hrk,getObj,nD,q2,hck,Instr.findKey,run_underlying hk,h1,setObj]
       .rcases b9 j es.length with hj|hj
        .rw[bO hj] at hq;obtain⟨m,g1,g2⟩:=q5 j q hq;exact⟨m,by rw[Array.getElem?_push,ay (by omega)];exact g1,g2⟩
        .rw[b_ hj] at hq;have U:j-es.length=0:=by
          rcases Lc (j-es.length) with h0|h0
          .exact h0
          .rw[bS (by simp;omega)] at hq;cases hq
         rw[U] at hq;simp at hq;subst hq;exact⟨_,by rw[Array.getElem?_push,aF (by omega)],hry⟩
      .obtain⟨s1,s2⟩:=abr hko h4;subst s2;rw[cJ] at h2;rw[bN] at h3;have hjl:j<ents.size:=(cF.1 h2).1;have hmk:m.key=k':=by
        have e1:(ents.toList.map (·.key))[j]? =af m.key:=by rw[ba,cJ,h2];rfl
        rw[q4,ba,h1] at e1;simpa using e1.symm
       refine ⟨.skip,_,b,.map (ents.modify j λe=>{e with key:=k',val:=a.eval y}) clock,?_,hφ,H9 q2 (by simp) (by simp),⟨_,_,rfl,?_,λi q hq=>?_⟩,undef,.inr ⟨rfl,rfl⟩,.f (.raw _)⟩
       .unfold execOp;rw[M];simp[Instr.mapUpdate,run_underlying hu,J,hrk,getObj,nD,q2,hck,Instr.findKey,run_underlying hk,h3,setObj,h2,hmk,Instr.keyThatStays,s1]
       .apply List.ext_getElem?;intro i;simp only[ba,cJ,oU,Array.getElem?_modify];have e2:∀ i:Nat,(ents[i]?).map (λm:MapEntry=>m.key)=(es[i]?).map (λp:Value×AV=>p.1):=λi=>by
         have:=gO (λl=>l[i]?) q4;simpa[ba,cJ] using this
        by_cases hij:j=i
        .subst hij;simp[h2,show j<es.length by omega]
        .simp only[hij,ef];exact e2 i
       .rw[oU] at hq;rw[Array.getElem?_modify];by_cases hij:j=i
        .subst hij;simp[show j<es.length by omega] at hq;subst hq;exact⟨{m with key:=k',val:=a.eval y},by simp[h2],hry⟩
        .simp only[hij,ef] at hq ⊢;exact q5 i q hq
    .cases I
   .cases I
  .cases I
 .cases I
end
section
variable {P:Program} {o:Oper} {e:zY} {h:n_} {nx:Nat} {R:Cg}
theorem Qr {t:TypeId} {d:TypeDesc} (hu:P.underlying t=af d) (hd:(match d with|.int _=>ai|.bool=>ai|.string=>ai|_=>aj)=ai) (cs:Array Value) (j:Nat) (v:Value) (hv:cs[j]? =af v) (w:World):(part t cs j).run P w= .ok v w:=by
 unfold part;simp only[isAgg,eL,run_underlying hu,cL];cases d<;>simp at hd<;>simp[hv]
theorem YE {t:TypeId} {d:TypeDesc} (hu:P.underlying t=af d) (hd:(match d with|.int _=>ai|.bool=>ai|.string=>ai|_=>aj)=ai) {x y:FV} {b:Bool} (hxy:xM d x y=af b) {u v:Value} (M:x= .raw u) (J:y= .raw v) (n:Nat) (w:World):(Op.equalIn (n+1) t u v).run P w= .ok b w:=by
 subst M;subst J;cases d<;>simp at hd<;>cases u<;>cases v<;>simp only[xM] at hxy<;>first|(cases hxy;done)|skip
 .simp only[ak] at hxy;subst hxy;simp[Op.equalIn,run_underlying hu]
 .split at hxy
  .rename_i hk;have I:=eq_of_beq hk;subst I;simp only[ak] at hxy;subst hxy;simp[Op.equalIn,run_underlying hu]
  .cases hxy
 .simp only[ak] at hxy;subst hxy;simp[Op.equalIn,run_underlying hu,Fm]
abbrev Jz (n:Nat) (xs I:Array Value) (f:Field) (_:Option Bool×Unit):Sem (ForInStep (Option Bool×Unit)):=
 if f.name≠ "_" then do
  let a←part f.type xs f.offset
  let b←part f.type I f.offset
  let c←Op.equalIn (n+1) f.type a b
  if (!c)=ai then pure (ForInStep.done (af aj,())) else pure (ForInStep.yield (ah,()))
 else pure (ForInStep.yield (ah,()))
theorem M3 (n:Nat) (w:World) (xs I:Array Value):∀ (fs:List Field) (ds:List TypeDesc) (a b:List FV) (k:Nat) (r:Bool),rV P k fs=af ds->
 (∀ (j:Nat) x u,a[j]? =af x->xs[k+j]? =af u->x= .raw u\/∀ v,x≠ .raw v)->(∀ (j:Nat) x u,b[j]? =af x->I[k+j]? =af u->x= .raw u\/∀ v,x≠ .raw v)->(∀ (j:Nat),j<a.length->k+j<xs.size)->(∀ (j:Nat),j<b.length->k+j<I.size)->o7 ds a b=af r->
 (forIn fs (ah,()) (Jz n xs I)).run P w= .ok (if r then (ah,()) else (af aj,())) w
 |[],ds,a,b,k,r,hp,_,_,_,_,he=>by
  simp only[rV,ak] at hp;subst hp;cases a<;>cases b<;>simp[o7] at he;subst he;simp
 |f::fs,ds,a,b,k,r,hp,Z,hb,hla,hlb,he=>by
  simp only[rV] at hp;split at hp
  .rename_i d ds' hu Y;split at hp
   .rename_i hc;simp only[av,bne_iff_ne,ne_eq,c5] at hc;obtain⟨⟨hn,hof⟩,hd⟩:=hc;simp only[ak] at hp;subst hp;cases a with
    |nil=>cases b<;>simp[o7] at he
    |cons x a=>
     cases b with
     |nil=>simp[o7] at he
     |cons y b=>
      simp only[o7] at he;have U:k<xs.size:=by have:=hla 0 (by simp);omega
      have M:k<I.size:=by have:=hlb 0 (by simp);omega
      have hraw:∀ (z:FV) (q:Value),(z= .raw q\/∀ v,z≠ .raw v)->(∃ v,z= .raw v)->z= .raw q:=by
       rintro z q (h|h) ⟨v,hv⟩
       .exact h
       .exact cR hv (h v)
      have hxr:∀ J,xM d x y=af J->x= .raw xs[k]/\y= .raw I[k]:=by
       intro J hbb;have hrr:(∃ v,x= .raw v)/\∃ v,y= .raw v:=by
        unfold xM at hbb;split at hbb
        .exact⟨⟨_,rfl⟩,⟨_,rfl⟩⟩
        .exact⟨⟨_,rfl⟩,⟨_,rfl⟩⟩
        .exact⟨⟨_,rfl⟩,⟨_,rfl⟩⟩
        .cases hbb
       exact⟨hraw x _ (Z 0 x _ rfl (by simp[U])) hrr.1,hraw y _ (hb 0 y _ rfl (by simp[M])) hrr.2⟩
      have hstep:∀ J,xM d x y=af J->(Jz n xs I f (ah,())).run P w= .ok (if J then ForInStep.yield (ah,()) else ForInStep.done (af aj,())) w:=by
       intro J hbb;obtain⟨h1,h2⟩:=hxr J hbb;have p1:=Qr hu (by cases d<;>simp[Is] at hd<;>rfl) xs k xs[k] (by simp[U]) w;have p2:=Qr hu (by cases d<;>simp[Is] at hd<;>rfl) I k I[k] (by simp[M]) w;have p3:=YE hu (by cases d<;>simp[Is] at hd<;>rfl) hbb h1 h2 n w;unfold Jz;rw[aF hn,hof];simp only[eL,p1,p2,p3,cL];cases J<;>simp
      rw[List.forIn_cons];simp only[eL];split at he
      .rename_i hbb;rw[hstep ai hbb];simp only[cL,bH];exact M3 n w xs I fs ds' a b (k+1) r Y (λj x u h1 h2=>Z (j+1) x u (by simpa using h1) (by rw[<- h2];congr 1;omega)) (λj x u h1 h2=>hb (j+1) x u (by simpa using h1) (by rw[<- h2];congr 1;omega))
        (λj hj=>by have:=hla (j+1) (by simpa using hj);omega) (λj hj=>by have:=hlb (j+1) (by simpa using hj);omega) he
      .rename_i hbb;rw[hstep aj hbb];simp only[ak] at he;subst he;simp
      .cases he
   .cases hp
  .cases hp
theorem YD {t:TypeId} {fs:Array Field} (hu:P.underlying t=af (.struct fs)) (hs:P.stoodInHeld t=aj) {ds:List TypeDesc} (hp:rV P 0 fs.toList=af ds) (xs I:Array Value) {a b:List FV} {r:Bool}
 (J:∀ (j:Nat) x u,a[j]? =af x->xs[j]? =af u->x= .raw u\/∀ v,x≠ .raw v) (hb:∀ (j:Nat) x u,b[j]? =af x->I[j]? =af u->x= .raw u\/∀ v,x≠ .raw v) (hla:a.length=xs.size) (hlb:b.length=I.size) (he:o7 ds a b=af r) (w:World):
 (Op.equal t (.agg xs) (.agg I)).run P w= .ok r w:=by
 have key:∀ n,(Op.equalIn (n+2) t (.agg xs) (.agg I)).run P w= .ok r w:=by
  intro n;rw[Op.equalIn];have h1:=M3 (P:=P) n w xs I fs.toList ds a b 0 r hp (λj x u h1 h2=>J j x u h1 (by simpa using h2)) (λj x u h1 h2=>hb j x u h1 (by simpa using h2)) (λj hj=>by omega) (λj hj=>by omega) he;rw[Array.forIn_toList] at h1;simp only[eL,run_underlying hu,cL,program,nD,hs,cz,ef];have h2:(forIn fs (ah,()) (λf __s=>Jz n xs I f __s)).run P w= .ok (if r then (ah,()) else (af aj,())) w:=h1;unfold Jz at h2;rw[h2];cases r<;>simp
 exact key 9998
theorem Ry {t:TypeId} {fs:Array Field} (hu:P.underlying t=af (.struct fs)) {ds:List TypeDesc} (hp:rV P 0 fs.toList=af ds):P.eqGuardType P.depth t=aj:=by
 have key:∀ (fs:List Field) (k:Nat) (ds:List TypeDesc),rV P k fs=af ds→∀ d,(fs.any λf=>f.name != "_" &&P.eqGuardType (d+1) f.type)=aj:=by
  intro fs;induction fs with
  |nil=>intros;rfl
  |cons f fs M=>
   intro k ds hp d;simp only[rV] at hp;split at hp
   .rename_i U ds' I J;split at hp
    .rename_i hc;simp only[av] at hc;have:P.eqGuardType (d+1) f.type=aj:=by
      unfold Program.eqGuardType;rw[I];have:=hc.2;cases U<;>simp[Is] at this<;>rfl
     simp only[List.any_cons,this,Bool.and_false,Bool.false_or];exact M (k+1) ds' J d
    .cases hp
   .cases hp
 unfold Program.depth Program.eqGuardType;rw[hu];simp only[];rw[← Array.any_toList];exact key fs.toList 0 ds hp _
theorem ahu {t t':TypeId} {op:BinOp} {neg:Bool} {x y:Operand} {fs:Array Field} {ds:List TypeDesc} (Y:o.op= .binOp op t x y t') (hop:op=if neg then .neq else .eql) (hu:P.underlying t=af (.struct fs)) (hs:P.stoodInHeld t=aj) (hp:rV P 0 fs.toList=af ds) (I:eS (.eqs neg ds x y) e h nx=af R):gQ P o e.get h.get R.eff:=by
 simp only[eS] at I;split at I
 .rename_i a b J hy;split at I
  .rename_i r hr;rw[dC I];refine gQ.reads λφ E h' w ac _ hpp _=>?_
   have h1:=hpp x _ (by rw[Y];simp[Op.operands]) J;have h2:=hpp y _ (by rw[Y];simp[Op.operands]) hy;generalize hzx:ac.eval x=zx at h1;generalize hzy:ac.eval y=zy at h2;have rawOr:∀ (l:List FV) (vs:List Value),(∀ (j:Nat) x v,l[j]? =af x->vs[j]? =af v->ny (tot E φ h') w x v)->∀ (j:Nat) x u,l[j]? =af x->vs.toArray[j]? =af u->x= .raw u\/∀ v,x≠ .raw v:=by
    intro l vs hr j x u J hu;have:=hr j x u J (by simpa using hu);cases this with
    |raw v=>exact .inl rfl
    |nil=>exact .inr (by simp)
    |sl=>exact .inr (by simp)
    |ptr=>exact .inr (by simp)
    |agg=>exact .inr (by simp)
   cases h1 with
   |f h1=>
    cases h1 with
    |agg _ vs hl hcl U=>
     cases h2 with
     |f h2=>
      cases h2 with
      |agg _ us Z hcl' M=>
       have heq:=YD hu hs hp vs.toArray us.toArray (rawOr a vs U) (rawOr b us M) (by simp[hl]) (by simp[Z]) hr w;refine ⟨_,?_,.f (.raw _)⟩;have hg:=Ry hu hp;unfold execOp;rw[Y];simp only[hzx,hzy];subst hop;cases neg<;>simp[eqGuard,program,nD,hg,binOp,heq]
  .cases I
 .cases I
end
theorem bind_some {α β:Type} {x:Option α} {f:α->Option β} {y:β} (h:x.bind f=af y):∃ a,x=af a/\f a=af y:=by
 cases x with
 |none=>cases h
 |some a=>exact⟨a,rfl,h⟩
theorem map_some {α β:Type} {x:Option α} {f:α->β} {y:β} (h:x.map f=af y):∃ a,x=af a/\f a=y:=by
 cases x with
 |none=>cases h
 |some a=>exact⟨a,rfl,by simpa using h⟩
theorem l8 {c:Bool} {β:Type} {x:Option β} {y:β} (h:(if c then x else ah)=af y):c=ai/\x=af y:=by
 cases c with
 |true=>exact⟨rfl,by simpa using h⟩
 |false=>simp at h
theorem Iv {P:Program} {o:Oper} {e:zY} {h:n_} {nx:Nat} {s:Zp} {R:Cg} (hc:du P o.op=af s) (J:eS s e h nx=af R):gQ P o e.get h.get R.eff:=by
 unfold du at hc;split at hc
 .rename_i x I;simp only[ak] at hc;subst hc;exact amz (.inl I) J
 .rename_i x I;simp only[ak] at hc;subst hc;exact amz (.inr I) J
 .rename_i c a b I;simp only[ak] at hc;subst hc;exact ajl I J
 .rename_i t I;obtain⟨z,h1,hc⟩:=bind_some hc;obtain⟨h2,hc⟩:=l8 hc;simp only[ak] at hc;subst hc;exact ag7 I h1 h2 J
 .rename_i t x I;simp only[ak] at hc;subst hc;exact anb I J
 .rename_i t ps I;split at hc
  .rename_i fs hu;obtain⟨z,h1,hc⟩:=bind_some hc;obtain⟨h2,hc⟩:=l8 hc;obtain⟨ps',M,rfl⟩:=map_some hc;simp only[av] at h2;exact XM I h1 h2.1 M (.inl ⟨fs,hu,h2.2⟩) J
  .rename_i n el hu;obtain⟨z,h1,hc⟩:=bind_some hc;obtain⟨h2,hc⟩:=l8 hc;obtain⟨ps',M,rfl⟩:=map_some hc;simp only[av] at h2;obtain⟨sz,U⟩:=iN.1 h2.2;exact XM I h1 h2.1 M (.inr ⟨n,el,sz,hu,U⟩) J
  .cases hc
 .rename_i t n ps I;obtain⟨el,h1,hc⟩:=bind_some hc;obtain⟨z,h2,hc⟩:=bind_some hc;obtain⟨sz,M,hc⟩:=bind_some hc;obtain⟨U,hc⟩:=l8 hc;obtain⟨ps',Z,rfl⟩:=map_some hc;simp only[av,c5,bne_iff_ne] at U;exact ana I (sI h1) h2 M U.1.1.1 U.1.1.2 U.2 (a8 U.1.2) Z J
 .rename_i t x I;obtain⟨sz,h1,hc⟩:=bind_some hc;obtain⟨ag,h2,rfl⟩:=map_some hc;exact ajo I h1 h2 J
 .rename_i t x v I;obtain⟨sz,h1,rfl⟩:=map_some hc;exact ag6 I h1 J
 .rename_i x I;simp only[ak] at hc;subst hc;exact ajm I J
 .rename_i op t x y t' I;split at hc
  .simp only[ak] at hc;subst hc;exact ahw I J
  .simp only[ak] at hc;subst hc;exact ahw I J
  .rename_i hu;split at hc
   .simp only[ak] at hc;subst hc;exact ahv (neg:=aj) I rfl hu J
   .simp only[ak] at hc;subst hc;exact ahv (neg:=ai) I rfl hu J
   .cases hc
  .rename_i el hu;split at hc
   .simp only[ak] at hc;subst hc;exact XL (neg:=aj) I rfl rfl hu J
   .simp only[ak] at hc;subst hc;exact XL (neg:=ai) I rfl rfl hu J
   .cases hc
  .rename_i fs hu;obtain⟨ds,h1,hc⟩:=bind_some hc;unfold aag at h1;rw[hu] at h1;simp only[] at h1;split at h1
   .cases h1
   .rename_i hst;have hst:P.stoodInHeld t=aj:=by simpa using hst
    split at hc
    .simp only[ak] at hc;subst hc;exact ahu (neg:=aj) I rfl hu hst h1 J
    .simp only[ak] at hc;subst hc;exact ahu (neg:=ai) I rfl hu hst h1 J
    .cases hc
  .cases hc
 .rename_i t x I;simp only[ak] at hc;subst hc;exact amx I J
 .rename_i t x I;split at hc
  .simp only[ak] at hc;subst hc;exact amy I J
  .cases hc
 .rename_i s' d x I;split at hc
  .rename_i k k' h1 h2;simp only[ak] at hc;subst hc;exact aju I h1 h2 J
  .cases hc
 .rename_i t l c I;obtain⟨el,h1,hc⟩:=bind_some hc;obtain⟨z,h2,hc⟩:=bind_some hc;obtain⟨sz,M,hc⟩:=bind_some hc;obtain⟨b,Z,hc⟩:=bind_some hc;obtain⟨U,hc⟩:=l8 hc;simp only[av,c5,bne_iff_ne] at U;simp only[ak] at hc;subst hc;exact ajn I (sI h1) h2 M Z U.1.1 U.1.2 U.2 J
 .rename_i t x lo hi mx I;obtain⟨el,h1,hc⟩:=bind_some hc;obtain⟨sz,h2,rfl⟩:=map_some hc;exact amt I (sI h1) h2 J
 .rename_i t x k I;split at hc
  .rename_i fs hu;obtain⟨f,h1,hc⟩:=bind_some hc;obtain⟨sz,h2,hc⟩:=bind_some hc;obtain⟨M,hc⟩:=l8 hc;simp only[ak] at hc;subst hc;exact an7 I hu h1 h2 (by simpa using M) J
  .cases hc
 .rename_i t x k I;split at hc
  .rename_i fs hu;obtain⟨f,h1,hc⟩:=bind_some hc;obtain⟨sz,h2,hc⟩:=bind_some hc;obtain⟨ag,M,rfl⟩:=map_some hc;exact an6 I hu h1 h2 M J
  .cases hc
 .rename_i t x i I;split at hc
  .rename_i el hu;obtain⟨sz,h1,rfl⟩:=map_some hc;exact an5 I hu h1 J
  .rename_i n el hu;obtain⟨sz,h1,rfl⟩:=map_some hc;exact ajs I hu h1 J
  .cases hc
 .rename_i t x i I;split at hc
  .rename_i n el hu;obtain⟨sz,h1,hc⟩:=bind_some hc;obtain⟨ag,h2,rfl⟩:=map_some hc;exact an4 I hu h1 h2 J
  .rename_i hu;simp only[ak] at hc;subst hc;exact ajk I hu J
  .cases hc
 .rename_i x i I;simp only[ak] at hc;subst hc;exact an8 I J
 .rename_i f first caps I
  obtain⟨h1,hc⟩:=l8 hc;simp only[ak] at hc;subst hc;have h2:first=#[]:=by simpa using h1
  subst h2;exact an1 I J
 .rename_i t I;split at hc
  .simp only[ak] at hc;subst hc;exact an0 I J
  .cases hc
 .rename_i t x k ok I;split at hc
  .rename_i kt el hu;split at hc
   .rename_i q z h1 h2;obtain⟨M,hc⟩:=l8 hc;simp only[ak] at hc;subst hc;exact aht (str:=aj) I hu h1 ⟨q,rfl⟩ h2 J
   .rename_i z h1 h2;obtain⟨M,hc⟩:=l8 hc;simp only[ak] at hc;subst hc;exact aht (str:=ai) I hu h1 rfl h2 J
   .cases hc
  .cases hc
 .rename_i t m k v I;split at hc
  .rename_i kt el hu;split at hc
   .rename_i q h1;simp only[ak] at hc;subst hc;exact ahs (str:=aj) I hu h1 ⟨q,rfl⟩ J
   .rename_i h1;simp only[ak] at hc;subst hc;exact ahs (str:=ai) I hu h1 rfl J
   .cases hc
  .cases hc
 .rename_i t x I;split at hc
  .rename_i hu;simp only[ak] at hc;subst hc;exact amu I hu J
  .cases hc
 .rename_i x I;simp only[ak] at hc;subst hc;exact amw I J
 .rename_i c I;obtain⟨callee,args,argTypes⟩:=c;have arr:∀ {α:Type} {x:Array α} {l:List α},x.toList=l->x=l.toArray:=λh=>by rw[<- h]
  unfold Sv at hc;simp only[] at hc;split at hc
  .split at hc
   .rename_i x t h1 h2;rw[arr h1,arr h2] at I;split at hc
    .rename_i el hu;simp only[ak] at hc;subst hc;exact ajr I hu J
    .rename_i hu;simp only[ak] at hc;subst hc;exact ajq I hu J
    .rename_i k v hu;simp only[ak] at hc;subst hc;exact ajp I hu J
    .cases hc
   .cases hc
  .split at hc
   .rename_i x y h1;rw[arr h1] at I;simp only[ak] at hc;subst hc;exact an3 I J
   .cases hc
  .split at hc
   .rename_i x y h1;rw[arr h1] at I;simp only[ak] at hc;subst hc;exact an2 I J
   .cases hc
  .split at hc
   .rename_i d x t u h1 h2;rw[arr h1,arr h2] at I;split at hc
    .rename_i el el' h1 h2;obtain⟨sz,M,hc⟩:=bind_some hc;obtain⟨U,hc⟩:=l8 hc;simp only[ak] at hc;subst hc;exact ajt I (sI h1) (sI h2) M J
    .cases hc
   .cases hc
  .split at hc
   .rename_i x t h1 h2;rw[arr h1,arr h2] at I;obtain⟨el,M,hc⟩:=bind_some hc;obtain⟨z,U,hc⟩:=bind_some hc;obtain⟨sz,Z,hc⟩:=bind_some hc;obtain⟨Y,hc⟩:=l8 hc;simp only[av,c5,bne_iff_ne,ne_eq] at Y;simp only[ak] at hc;subst hc;exact an9 I (sI M) U Y.1.1 Y.1.2 Y.2 J
   .cases hc
  .split at hc
   .rename_i s' x t u h1 h2;rw[arr h1,arr h2] at I;split at hc
    .rename_i el el' h1 h2;obtain⟨sz,M,hc⟩:=bind_some hc;obtain⟨b,U,hc⟩:=bind_some hc;obtain⟨z,Z,hc⟩:=bind_some hc;obtain⟨Y,hc⟩:=l8 hc;simp only[av,c5,bne_iff_ne] at Y;simp only[ak] at hc;subst hc;exact anc I (sI h1) (sI h2) M U Z Y.2 Y.1 J
    .cases hc
   .cases hc
  .cases hc
 .cases hc
theorem ma {p:Nat->Bool}:∀ {l:List AV},AV.allL p l=ai->∀ x∈l,AV.all p x=ai
 |[],_,x,I=>by cases I
 |y::l,h,x,I=>by
  simp only[AV.allL,av] at h;rcases bm.1 I with rfl|I
  .exact h.1
  .exact ma h.2 x I
theorem cO.restrict {φ φ':PM} {O O':Nat->Prop} {w:World} {p:Nat->Bool} (hs:∀ i k,p i=ai->φ i=af k->φ' i=af k) (M:∀ k,O' k->O k) {x:AV} {v:Value} (h:cO φ O w x v):x.all p=ai->cO φ' O' w x v:=by
 induction h with
 |f h=>intro _;exact .f (h.ext (O':=O') (K7.refl O w) λk _ hk=>M k hk)
 |ptr h=>intro hp;exact .ptr (hs _ _ hp h)
 |sl h hn hc=>intro hp;exact .sl (hs _ _ hp h) hn hc
 |row h hn hc hsh=>intro hp;exact .row (hs _ _ hp h) hn hc hsh
 |emp=>intro _;exact .emp
 |anyb=>intro _;exact .anyb
 |mp h=>intro hp;exact .mp (hs _ _ hp h)
 |agg hl hcl hr J=>intro hp;exact .agg hl hcl λj x v I hv=>J j x v I hv (ma hp x (bd I))
 |tup hl hr J=>intro hp;exact .tup hl λj x v I hv=>J j x v I hv (ma hp x (bd I))
 |clo hl hr J=>intro hp;exact .clo hl λj x v I hv=>J j x v I hv (ma hp x (bd I))
theorem jv.restrict {φ φ':PM} {O O':Nat->Prop} {w w':World} {p:Nat->Bool} (hk:∀ x v,x.all p=ai->cO φ O w x v->cO φ' O' w' x v) {b:xh} {o:Obj} (hb:b.c.all p=ai) (h:jv φ O w b o):jv φ' O' w' b o:=by
 unfold jv at h ⊢;cases hc:b.c with
 |fz l=>
  rw[hc] at h;obtain⟨arr,h1,h2,J⟩:=h;exact⟨arr,h1,h2,λj x I=>by
   obtain⟨a,v,c,d⟩:=J j x I;refine ⟨a,v,c,hk _ _ ?_ d⟩;simp only[BC.get] at I;cases hl:l[j]? with
   |none=>rw[hl] at I;cases I
   |some q=>rw[hl] at I;simp at I;subst I;rfl⟩
 |mx l=>
  rw[hc] at h hb;obtain⟨arr,h1,h2,J⟩:=h;exact⟨arr,h1,h2,λj x I=>by
   obtain⟨a,v,c,d⟩:=J j x I;exact⟨a,v,c,hk _ _ (ma hb x (bd I)) d⟩⟩
 |mp es=>
  rw[hc] at h hb;obtain⟨e,c,h1,h2,J⟩:=h;exact⟨e,c,h1,h2,λj x I=>by
   obtain⟨m,a,b⟩:=J j x I;exact⟨m,a,hk _ _ (ma hb x.2 (di.2 ⟨x,bd I,rfl⟩)) b⟩⟩
 |it s q=>rw[hc] at h;exact h
def acd (m:Nat):List Nat:=(cS (m+1)).filter λi=>aN m i
theorem MO {m i:Nat}:i∈acd m↔aN m i=ai:=by
 unfold acd;rw[xj,ll];constructor
 .exact λh=>h.2
 .intro h;refine ⟨?_,h⟩;have h1:=Nat.ge_two_pow_of_testBit h;have h2:=Nat.lt_two_pow_self (n:=i);omega
def jW (φ:PM) (O:Nat->Prop) (w:World):List AV->List Value->Prop
 |[],[]=>True
 |x::xs,v::vs=>cO φ O w x v/\jW φ O w xs vs
 |_,_=>False
theorem jW.length {φ:PM} {O:Nat->Prop} {w:World}:∀ {args:List AV} {vs:List Value},jW φ O w args vs->vs.length=args.length
 |[],[],_=>rfl
 |[],_::_,h=>h.elim
 |_::_,[],h=>h.elim
 |_::_,_::_,h=>by simp[jW.length h.2]
theorem jW.mono {φ φ':PM} {O O':Nat->Prop} {w w':World} {p:Nat->Bool} (hk:∀ x v,x.all p=ai->cO φ O w x v->cO φ' O' w' x v):∀ {args:List AV} {vs:List Value},AV.allL p args=ai->jW φ O w args vs->jW φ' O' w' args vs
 |[],[],_,_=>trivial
 |[],_::_,_,h=>h.elim
 |_::_,[],_,h=>h.elim
 |x::xs,_::_,hp,h=>by
  simp only[AV.allL,av] at hp;exact⟨hk _ _ hp.1 h.1,jW.mono hk hp.2 h.2⟩
theorem jW.append {φ:PM} {O:Nat->Prop} {w:World}:∀ {xs I:List AV} {vs us:List Value},jW φ O w xs vs->jW φ O w I us->jW φ O w (xs++I) (vs++us)
 |[],_,[],_,_,h=>h
 |[],_,_::_,_,h,_=>h.elim
 |_::_,_,[],_,h,_=>h.elim
 |_::_,_,_::_,_,h,h'=>⟨h.1,jW.append h.2 h'⟩
theorem jW.of {φ:PM} {O:Nat->Prop} {w:World}:∀ {xs:List AV} {vs:List Value},vs.length=xs.length->(∀ (j:Nat) x v,xs[j]? =af x->vs[j]? =af v->cO φ O w x v)->jW φ O w xs vs
 |[],[],_,_=>trivial
 |[],_::_,h,_=>by simp at h
 |_::_,[],h,_=>by simp at h
 |x::xs,v::vs,hl,h=>⟨h 0 x v rfl rfl,jW.of (by simpa using hl) λj x v I hv=>h (j+1) x v (by simpa using I) (by simpa using hv)⟩
def D_ (P:Program) (f:FuncId):Prop:=∃ fn,P.funcs[f]? =af fn∧fn.body.isNone=aj∧(fn.name== "runtime.NumGoroutine")=aj
theorem OT {φ:PM} {E:Nat->Prop} {h':HF} {w:World} {a:Act} {e:zY} {o:Oper} (hp:Wc φ E h' w a e o):∀ (xs:List Operand) (I:List AV),(∀ x∈xs,x∈o.op.operands)->Xl e xs=af I->jW φ (tot E φ h') w I (xs.map a.eval)
 |[],I,_,h=>by simp only[Xl,ak] at h;subst h;trivial
 |x::xs,I,hm,h=>by
  simp only[Xl] at h;split at h
  .rename_i y J;split at h
   .rename_i ys' hys;simp only[ak] at h;subst h;exact⟨hp x y (hm x (dj ..)) J,OT hp xs ys' (λx M=>hm x (cI _ M)) hys⟩
   .cases h
  .cases h
theorem xo {P:Program} {f:FuncId} (hc:D_ P f) (args:Array Value) (w:World):(callFunc f args).run P w= .ok (.enter f args) w:=by
 obtain⟨fn,h1,h2,M⟩:=hc;have I:fn.name≠ "runtime.NumGoroutine" :=by simpa using M
 have J:fn.body≠ah:=by intro h;rw[h] at h2;cases h2
 simp[callFunc,program,nD,h1,J,I]
theorem Xe:∀ (fs:List FPm) (i:Nat),YB fs i=fs[i]?
 |[],i=>by simp[YB]
 |f::fs,0=>rfl
 |f::fs,i+1=>by simp[YB,Xe fs i]
theorem xS {a b:Nat} (h:DI a b=ai) (i:Nat) (I:aN a i=ai):aN b i=aj:=by
 unfold DI at h;have h0:a&&&b=0:=aw h;have:=Nat.testBit_and a b i;rw[h0,I] at this;simpa using this.symm
structure Ctx where
 n0:Nat
 φ:PM
 E:Nat->Prop
 h:HF
 w:World
def ada (P:Program) (d:Deferred):Prop:=∀ w:World,∃ J cap f args,d.target= .fn J cap/\(invoke d.target d.args).run P w= .ok (.enter f args) w/\
 CallsD P f args .returning w λe I w'=>(∃ v,e= .returned v)/\I= .returning/\w'=w
structure Cfg (P:Program) (C:Ctx) (nt:Nat) (s:IS) (a:Act) (w:World):Prop where
 ex:∃ φ,i_ C.φ φ C.h s.h.get C.w w/\rf φ C.E s.h.get w/\NC φ (tot C.E φ s.h.get) w s.e.get a/\(∀ i k,φ i=af k->i<s.nx)/\∀ i k,φ i=af k->C.φ i=af k\/C.n0<=i
 low:C.n0<=s.nx
 inert:∀ d∈a.defers,ada P d
 size:a.tmps.size=nt
theorem Cfg.bool {P:Program} {C:Ctx} {nt:Nat} {s:IS} {a:Act} {w:World} (c:Cfg P C nt s a w) {t:Nat} {b:Bool} (ht:s.e.get t=af (.f (.raw (.bool b)))):a.eval (.tmp t)= .bool b:=by
 obtain⟨φ,_,_,en,_,_⟩:=c.ex;exact fB (en t _ ht)
theorem Cr {P:Program} {c:Code} {Q:Exit->Act->World->Prop} (I:Nat->Act->World->Prop) (round:∀ n a w,I n a w->c.wp P (Exit.then (λa' w'=>∃ m,m<n/\I m a' w') Q) a w) {n:Nat} {a:Act} {w:World} (h0:I n a w):(Code.loop c).wp P Q a w:=by
 have least:∀ (n:Nat) (a:Act) (w:World),I n a w->∃ m,I m a w/\∀ k,I k a w->m<=k:=by
  intro n;induction n using Nat.strongRecOn with
  |_ n U=>
   intro a w hn;by_cases J:∃ k,k<n/\I k a w
   .obtain⟨k,hk,M⟩:=J;exact U k hk a w M
   .exact⟨n,hn,λk hk=>Nat.le_of_not_lt λhlt=>J ⟨k,hlt,hk⟩⟩
 have pick:∀ a w,∃ m,(∃ n,I n a w)->I m a w/\∀ k,I k a w->m<=k:=λa w=>by
  by_cases J:∃ n,I n a w
  .obtain⟨n,hn⟩:=J;obtain⟨m,hm⟩:=least n a w hn;exact⟨m,λ_=>hm⟩
  .exact⟨0,λh=>cR h J⟩
 let μ:Act->World->Nat:=λa w=>Classical.choose (pick a w)
 have hμ:∀ a w,(∃ n,I n a w)->I (μ a w) a w/\∀ k,I k a w->μ a w<=k:=λa w=>Classical.choose_spec (pick a w)
 refine wp_loop (λa w=>∃ n,I n a w) μ ⟨n,h0⟩ λa w M=>?_
 refine wp_mono (round (μ a w) a w (hμ a w M).1) λe a' w' he=>?_
 cases e with
 |normal=>
  obtain⟨m,hm,hIm⟩:=he;exact⟨⟨m,hIm⟩,Nat.lt_of_le_of_lt ((hμ a' w' ⟨m,hIm⟩).2 m hIm) hm⟩
 |exit id=>exact he
 |goto l=>exact he
 |ret=>exact he
 |panic c=>exact he
 |outgrown=>exact he
def Ex.to:Ex->Exit
 |.normal=>.normal
 |.exit id=>.exit id
 |.ret=>.ret
def K4 (P:Program) (inert:FuncId->Bool):Prop:=∀ f,inert f=ai->D_ P f/\∀ (args:Array Value) (w:World),CallsD P f args .returning w λe I w'=>(∃ v,e= .returned v)/\I= .returning/\w'=w
theorem RI {P:Program} {C:Ctx} {nt:Nat} {inert:FuncId->Bool} (hin:K4 P inert) {s:IS} {a:Act} {w:World} (c:Cfg P C nt s a w) {id:Nat} {ops:Array Oper} {dr:Bool} {f:FuncId} {caps:List Operand} {t:Nat} (hd:(ops.toList.all λo=>match o.dst with|some d=>decide (d<nt)|none=>ai)=ai) (hdf:DK ops dr=af (f,caps,t))
 {l:List AV} (hl:Xl s.e caps=af l) (hi:inert f=ai) {Q:Exit->Act->World->Prop} (hQ:∀ a w,Cfg P C nt ⟨s.e.put (af t) (.clo f l),s.h,s.nx,s.wr⟩ a w->Q .normal a w):(Code.region id ops dr).wp P Q a w:=by
 unfold DK at hdf;split at hdf
 .rename_i p q hops;split at hdf
  .rename_i f' first caps' t1 cl hpo hpg hpd hqo hqg hqd
   split at hdf
   .rename_i t2 hcl hca;split at hdf
    .rename_i hcond;simp only[av] at hcond;obtain⟨h1,h2⟩:=hcond;have h1:=aw h1;have h2:first=#[]:=by simpa using h2
     simp only[ak,aD] at hdf;obtain⟨rfl,rfl,rfl⟩:=hdf;subst h1;subst h2;have hops':ops=#[p,q]:=by rw[<- Array.toArray_toList (xs:=ops),hops]
     obtain⟨φ,m,r,en,dm⟩:=c.ex;obtain⟨hcb,hincalls⟩:=hin f' hi;have htn:t1<nt:=by
      have:=gw.1 hd p (by rw[hops];simp);rw[hpd] at this;simpa using this
     have hrelL:jW φ (tot C.E φ s.h.get) w l (caps'.toList.map a.eval):=by
      have hp':Wc φ C.E s.h.get w a s.e p:=λx y U Y=>tL r (xs:=p.op.operands) (λt _ y Y=>en t y Y) U Y
      exact OT hp' caps'.toList l (λx U=>by rw[hpo];simpa[Op.operands] using U) hl
     have hcm:caps'.map a.eval=(caps'.toList.map a.eval).toArray:=by apply Lf;simp
     let J:Value:=.func (.func f') #[] (caps'.map a.eval)
     have hrel:cO φ (tot C.E φ s.h.get) w (.clo f' l) J:=by
      simp only[J];rw[hcm];refine .clo (hrelL.length) ?_;have:∀ (xs:List AV) (vs:List Value),jW φ (tot C.E φ s.h.get) w xs vs->∀ (j:Nat) x v,xs[j]? =af x->vs[j]? =af v->cO φ (tot C.E φ s.h.get) w x v:=by
       intro xs;induction xs with
       |nil=>intro vs _ j x v U;simp at U
       |cons y xs ih=>
        intro vs h j x v U hv;cases vs with
        |nil=>exact h.elim
        |cons u vs=>
         cases j with
         |zero=>simp at U hv;subst U;subst hv;exact h.1
         |succ j=>exact ih vs h.2 j x v (by simpa using U) (by simpa using hv)
      exact this _ _ hrelL
     refine wp_region ?_;have Z:cS ops.size=[0,1]:=by rw[hops'];rfl
     rw[Z];have e0:ops[0]? =af p:=by rw[hops'];rfl
     have e1:ops[1]? =af q:=by rw[hops'];rfl
     rw[wpOps_cons];have hexec1:(execOp a.eval p).run P w= .ok (.value J) w:=by
      unfold execOp;rw[hpo];simp[Instr.makeFunc,J]
     have w1:iM p (yielded ops a.tmps)=ai:=by unfold iM;rw[hpg]
     unfold wpOp;simp only[e0,w1,bH];left;unfold HA;rw[hexec1];show wpOps P ops Q [1] (a.put p.dst J) w;rw[wpOps_cons];unfold wpOp;have w2:iM q (yielded ops (a.put p.dst J).tmps)=ai:=by unfold iM;rw[hqg]
     simp only[e1,w2,bH];left;have heval:(a.put p.dst J).eval (.tmp t1)=J:=by
      show (a.put p.dst J).tmps.getD t1 undef=J;rw[Io (by intro d I;rw[hpd] at I;cases I;rw[c.size];exact htn),aF hpd]
     have hargs:cl.args=#[]:=by rw[<- Array.toArray_toList (xs:=cl.args),hca]
     have hexec2:(execOp (a.put p.dst J).eval q).run P w= .ok (.defer {target:=.fn (.func f') (caps'.map a.eval),args:=#[]}) w:=by
      unfold execOp;rw[hqo];simp[resolve,hcl,heval,J,Deferred.ofValue,hargs]
     unfold HA;rw[hexec2];show wpOps P ops Q [] _ w;refine hQ _ _ ⟨⟨φ,m,r,?_,dm⟩,c.low,?_,?_⟩
     .intro u x U;rw[hqd];show cO φ _ w x ((a.put p.dst J).tmps.getD u undef);rw[Io (by intro d I;rw[hpd] at I;cases I;rw[c.size];exact htn)];have M:(s.e.put (af t1) (.clo f' l)).get u=af x:=U;rw[<- aac] at M;unfold CJ at M;rw[hpd];by_cases hu:af t1=af u
      .rw[aF hu] at M ⊢;cases M;exact hrel
      .rw[ay hu] at M ⊢;exact en u x M
     .intro d I;rw[hqd] at I;have hd'':d={target:=.fn (.func f') (caps'.map a.eval),args:=#[]}\/d∈(a.put p.dst J).defers:=by
       simpa[NK] using I
      rcases hd'' with rfl|hd''
      .intro w0;refine ⟨_,_,f',caps'.map a.eval,rfl,?_,hincalls _ w0⟩;simp[invoke,xo hcb]
      .rw[Ip] at hd'';exact c.inert d hd''
     .rw[hqd];show (a.put p.dst J).tmps.size=nt;rw[Qo];exact c.size
    .cases hdf
   .cases hdf
  .cases hdf
 .cases hdf
def X0 (tmps:Array Value):ResultVar->Sem Value
 |.tmp t=>pure (tmps.getD t undef)
 |.cell a t=>do
  let I<-asAddr (tmps.getD a undef)
  loadVar t I
theorem T_ (fn:Func) (tmps:Array Value):results fn tmps=(do let vs<-fn.results.mapM (X0 tmps);pure (if h:vs.size=1 then vs[0] else .tuple vs)):=by
 unfold results;congr 2
theorem CW {P:Program} {fn:Func} {tmps:Array Value} {R:Ending->World->Prop} {w:World} {v:Value} (hr:(results fn tmps).run P w= .ok v w) (I:R (.returned v) w):∀ (ds:List Deferred),(∀ d∈ds,ada P d)->Leaves P fn tmps R ds .returning w
 |[],_=>⟨v,hr,I⟩
 |d::ds,h=>by
  obtain⟨M,cap,f,args,h1,h2,J⟩:=h d (dj ..) w;refine ⟨by simp,M,cap,f,args,h1,h2,J.mono ?_⟩;rintro e Y w' ⟨⟨U,rfl⟩,rfl,rfl⟩;exact CW hr I ds λd hd=>h d (cI _ hd)
theorem jW.get {φ:PM} {O:Nat->Prop} {w:World}:∀ {xs:List AV} {vs:List Value},jW φ O w xs vs->∀ (j:Nat) x,xs[j]? =af x->∃ v,vs[j]? =af v/\cO φ O w x v
 |[],_,_,j,x,I=>by simp at I
 |_::_,[],h,_,_,_=>h.elim
 |y::xs,u::vs,h,j,x,I=>by
  cases j with
  |zero=>simp at I;subst I;exact⟨u,rfl,h.1⟩
  |succ j=>exact jW.get h.2 j x (by simpa using I)
theorem Su {P:Program} {f:FuncId} {I:SF} (h:zP P f=af I):∃ fn c,P.funcs[f]? =af fn∧fn.body=af c∧(fn.name== "runtime.NumGoroutine")=aj∧I.code=cr P fn.ntmps c∧vB P fn.results.toList=af I.res∧I.nt=fn.ntmps:=by
 unfold zP at h;split at h
 .rename_i fn hf;split at h
  .cases h
  .rename_i hn;split at h
   .rename_i c r hb hr;simp only[ak] at h;subst h;exact⟨fn,c,hf,hb,by simpa using hn,rfl,hr,rfl⟩
   .cases h
 .cases h
theorem afy {a b:Value} (h:ajb a b=ai):a=b:=by
 unfold ajb at h;split at h
 .simp at h;rw[h]
 .simp at h;rw[h.1,h.2]
 .rw[zU.1 h]
 .simp only[av] at h;rw[aw h.1,aw h.2]
 .rfl
 .rename_i x y;simp only[av,Array.isEmpty_iff] at h;rw[h.1,h.2]
 .cases h
def PT.mapO {α β:Type} (g:α->Option β):PT α->PT β
 |.leaf=>.leaf
 |.node v l r=>.node (v.bind g) (PT.mapO g l) (PT.mapO g r)
theorem PT.get_mapO {α β:Type} (g:α->Option β):∀ (t:PT α) (i:Nat),(PT.mapO g t).get i=(t.get i).bind g
 |.leaf,i=>by simp[PT.mapO,PT.get]
 |.node v l r,0=>by simp[PT.mapO,PT.get]
 |.node v l r,j+1=>by
  simp only[PT.mapO,PT.get];split
  .exact PT.get_mapO g l _
  .exact PT.get_mapO g r _
theorem PT.get_updI {α:Type} (f:Nat->α->α):∀ (t:PT α) (a b i:Nat),(PT.updI f a b t).get i=(t.get i).map (f (a*i+b))
 |.leaf,_,_,i=>by simp[PT.updI,PT.get]
 |.node v l r,a,b,0=>by cases v<;>simp[PT.updI,PT.get]
 |.node v l r,a,b,j+1=>by
  simp only[PT.updI,PT.get];split
  .rename_i hj;rw[PT.get_updI f l];have:2*a*(j/2)+(a+b)=a*(j+1)+b:=by
    have h2:j=2*(j/2):=by have:=aw hj;omega
    have I:2*a*(j/2)=a*j:=by rw[HC 2 a,Nat.mul_assoc,<-h2]
    rw[I,Nat.mul_add];omega
   rw[this]
  .rename_i hj;rw[PT.get_updI f r];have:2*a*(j/2)+(2*a+b)=a*(j+1)+b:=by
    have h1:j%2≠0:=λh=>hj (by rw[h];rfl)
    have h2:j=2*(j/2)+1:=by omega
    have I:2*a*(j/2)=a*(2*(j/2)):=by rw[HC 2 a,Nat.mul_assoc]
    have J:a*(j+1)=a*(2*(j/2))+2*a:=by
     conv=>lhs;rw[h2]
     rw[Nat.mul_add,Nat.mul_add];omega
    rw[I,J];omega
   rw[this]
theorem PT.bound {α:Type}:∀ (t:PT α),∃ B,∀ i,B<=i->t.get i=ah
 |.leaf=>⟨0,λi _=>rfl⟩
 |.node v l r=>by
  obtain⟨a,I⟩:=PT.bound l;obtain⟨b,hb⟩:=PT.bound r;refine ⟨2*(a+b)+3,λi hi=>?_⟩;cases i with
  |zero=>omega
  |succ j=>
   simp only[PT.get];split
   .exact I _ (by omega)
   .exact hb _ (by omega)
def PT.ofF {α:Type} (f:Nat->Option α):Nat->PT α
 |0=>.leaf
 |n+1=>(PT.ofF f n).set n (f n)
theorem PT.get_ofF {α:Type} (f:Nat->Option α):∀ (n i:Nat),(PT.ofF f n).get i=if i<n then f i else ah
 |0,i=>by simp[PT.ofF,PT.get]
 |n+1,i=>by
  rw[PT.ofF,PT.get_set,PT.get_ofF f n];by_cases h:i=n
  .subst h;simp
  .rw[ay h];by_cases h2:i<n
   .rw[aF h2,aF (by omega)]
   .rw[ay h2,ay (by omega)]
def nm (i:Nat):Nat:=2*i
def ow (n:Nat):Nat:=n/2
theorem ec (i:Nat):ow (nm i)=i:=by unfold ow nm;omega
theorem kT {i j:Nat} (h:nm i=nm j):i=j:=by unfold nm at h;omega
def fA (p:Bool) (id sz n:Nat):AV:=if p&&n==0 then .emp else .row (nm id) sz n
mutual
def cq (h:bi):TV->Option AV
 |.f T v=>af (.f (gK T v))
 |.fel T xs j _ off=>af (.f (.ptr (xs.flatMap (bT T)) (j.toNat*T.size+off)))
 |.pel id sz j off=>af (.ptr (nm id) (j.toNat*sz+off))
 |.ptr id off=>af (.ptr (nm id) off)
 |.csl id sz n=>af (.row (nm id) sz n)
 |.row id=>match eD h id with|some (p,sz,n)=>af (fA p id sz n)|none=>ah
 |.rtl id j=>match eD h id with|some (_,sz,n)=>af (.sl (nm id) (j.toNat*sz) (n-j.toNat))|none=>ah
 |.emp=>af .emp
 |.nil=>af (.f (.raw (.slice ah 0 0)))
 |.mp id=>af (.mp (nm id))
 |.agg l=>match cN h l with|some l'=>af (.agg l')|none=>ah
 |.tup l=>match cN h l with|some l'=>af (.tup l')|none=>ah
 |.clo g l=>match cN h l with|some l'=>af (.clo g l')|none=>ah
 |.undef=>af (.f (.raw undef))
 |.np=>af (.f (.raw (.pointer ah)))
 |.anyb=>af .anyb
def cN (h:bi):List TV->Option (List AV)
 |[]=>af []
 |x::r=>match cq h x with
  |some y=>(match cN h r with|some l=>af (y::l)|none=>ah)
  |none=>ah
end
def pN:(K:Ty)->K.den->Value
 |.int k,n=>.int k n
 |.str,s=>.string ⟨kG s⟩
 |_,_=>undef
def mpC:(K V:Ty)->List (K.den×V.den)->BC
 |.st (.pr .str (.int .i64)),.un,es=>.it ⟨kG (PO es)⟩ (Oi es)
 |K,V,es=>.mp (es.map λp=>(pN K p.1,.f (gK V p.2)))
theorem BW {K V:Ty} {es:List (K.den×V.den)} (h:Ul K=ai):mpC K V es= .mp (es.map λp=>(pN K p.1,.f (gK V p.2))):=by
 unfold mpC;split
 .cases h
 .rfl
theorem aiu {K V:Ty} {es:List (K.den×V.den)} {s:List UInt8} {p:Nat} (h:itE K V es=af (s,p)):mpC K V es= .it ⟨kG s⟩ p:=by
 unfold itE at h;split at h
 .cases h;rfl
 .cases h
def kC (h:bi):iu->Option xh
 |.rows ty p T xs=>if p&&xs.length==0 then ah else af ⟨ty,.fz (xs.flatMap (bT T))⟩
 |.cells ty l=>match cN h l with|some I=>af ⟨ty,.mx I⟩|none=>ah
 |.dead _ _ _=>ah
 |.mp K V es=>af ⟨0,mpC K V es⟩
def fV (e:iP) (h:bi):EF:=λt=>(e.get t).bind (cq h)
def bC (h:bi):HF:=λn=>if n%2=0 then (h.get (n/2)).bind (kC h) else ah
theorem bK (h:bi) (i:Nat):bC h (nm i)=(h.get i).bind (kC h):=by
 unfold bC nm;rw[aF (by omega),show 2*i/2=i from by omega]
theorem jy {h:bi} {n:Nat} {b:xh} (hb:bC h n=af b):∃ i c,n=nm i/\h.get i=af c/\kC h c=af b:=by
 unfold bC at hb;split at hb
 .cases hc:h.get (n/2) with
  |none=>rw[hc] at hb;cases hb
  |some c=>rw[hc] at hb;exact⟨n/2,c,by unfold nm;omega,hc,hb⟩
 .cases hb
def Jx (e:iP) (h:bi):zY:=PT.mapO (cq h) e
theorem vw (e:iP) (h:bi):(Jx e h).get=fV e h:=by funext t;exact PT.get_mapO _ _ _
theorem jM (h:bi):∃ H:n_,H.get=bC h:=by
 obtain⟨B,I⟩:=PT.bound h;refine ⟨PT.ofF (bC h) (2*B),?_⟩;funext n;rw[PT.get_ofF];split
 .rfl
 .unfold bC;split
  .rw[I _ (by omega)];rfl
  .rfl
theorem c8 {h:bi} {x:TV} {r:List TV} {l:List AV} (he:cN h (x::r)=af l):∃ y I,l=y::I/\cq h x=af y/\cN h r=af I:=by
 simp only[cN] at he;split at he
 .rename_i y J;split at he
  .rename_i I hl;simp only[ak] at he;exact⟨y,I,he.symm,J,hl⟩
  .cases he
 .cases he
theorem o6 {h:bi} {x:TV} {r:List TV} {y:AV} {I:List AV} (h1:cq h x=af y) (h2:cN h r=af I):cN h (x::r)=af (y::I):=by
 simp only[cN,h1,h2]
theorem ib {h:bi}:∀ {l:List TV} {I:List AV},cN h l=af I->I.length=l.length
 |[],I,he=>by simp only[cN,ak] at he;subst he;rfl
 |x::r,I,he=>by
  obtain⟨y,l2,rfl,_,h2⟩:=c8 he;simp[ib h2]
theorem nk {h:bi}:∀ {a b:List TV} {a' b':List AV},cN h a=af a'->cN h b=af b'->cN h (a++b)=af (a'++b')
 |[],b,a',b',I,hb=>by simp only[cN,ak] at I;subst I;exact hb
 |x::r,b,a',b',I,hb=>by
  obtain⟨y,l2,rfl,h1,h2⟩:=c8 I;exact o6 h1 (nk h2 hb)
theorem B8 {h:bi}:∀ {a b:List TV} {l:List AV},cN h (a++b)=af l->∃ a' b',l=a'++b'/\cN h a=af a'/\cN h b=af b'
 |[],b,l,he=>⟨[],l,rfl,rfl,he⟩
 |x::r,b,l,he=>by
  obtain⟨y,l2,rfl,h1,h2⟩:=c8 he;obtain⟨a',b',rfl,J,I⟩:=B8 h2;exact⟨y::a',b',rfl,o6 h1 J,I⟩
theorem E9 {h:bi}:∀ {l:List TV} {I:List AV} (n:Nat),cN h l=af I->cN h (l.take n)=af (I.take n)
 |[],I,n,he=>by simp only[cN,ak] at he;subst he;simp[cN]
 |x::r,I,n,he=>by
  obtain⟨y,l2,rfl,h1,h2⟩:=c8 he;cases n with
  |zero=>simp[cN]
  |succ n=>exact o6 h1 (E9 n h2)
theorem Fa {h:bi}:∀ {l:List TV} {I:List AV} (n:Nat),cN h l=af I->cN h (l.drop n)=af (I.drop n)
 |[],I,n,he=>by simp only[cN,ak] at he;subst he;simp[cN]
 |x::r,I,n,he=>by
  obtain⟨y,l2,rfl,h1,h2⟩:=c8 he;cases n with
  |zero=>exact he
  |succ n=>simpa using Fa n h2
theorem sG {h:bi} {l vs:List TV} {I vs':List AV} (off:Nat) (h1:cN h l=af I) (h2:cN h vs=af vs'):cN h (splice l off vs)=af (splice I off vs'):=by
 unfold splice;rw[ib h2];exact nk (nk (E9 _ h1) h2) (Fa _ h1)
theorem l_ {h:bi}:∀ {l:List TV} {I:List AV},cN h l=af I->∀ (j:Nat) x,l[j]? =af x->∃ y,I[j]? =af y/\cq h x=af y
 |[],I,he,j,x,M=>by simp at M
 |x::r,I,he,j,z,J=>by
  obtain⟨y,l2,rfl,h1,h2⟩:=c8 he;cases j with
  |zero=>simp at J;subst J;exact⟨y,rfl,h1⟩
  |succ j=>simpa using l_ h2 j z (by simpa using J)
mutual
theorem qd (h:bi):∀ (u:TV),Ls h u=ai->∃ y,cq h u=af y
 |.f _ _,_=>⟨_,rfl⟩
 |.fel _ _ _ _ _,_=>⟨_,rfl⟩
 |.pel _ _ _ _,_=>⟨_,rfl⟩
 |.ptr _ _,_=>⟨_,rfl⟩
 |.csl _ _ _,_=>⟨_,rfl⟩
 |.row id,he=>by
  simp only[Ls] at he;cases hr:eD h id with
  |none=>rw[hr] at he;cases he
  |some r=>obtain⟨p,sz,n⟩:=r;exact⟨_,by simp only[cq,hr];rfl⟩
 |.rtl id jj,he=>by
  simp only[Ls] at he;cases hr:eD h id with
  |none=>rw[hr] at he;cases he
  |some r=>obtain⟨p,sz,n⟩:=r;exact⟨_,by simp only[cq,hr];rfl⟩
 |.emp,_=>⟨_,rfl⟩
 |.nil,_=>⟨_,rfl⟩
 |.mp _,_=>⟨_,rfl⟩
 |.agg l,he=>by obtain⟨y,hy⟩:=fy h l he;exact⟨_,by simp only[cq,hy];rfl⟩
 |.tup l,he=>by obtain⟨y,hy⟩:=fy h l he;exact⟨_,by simp only[cq,hy];rfl⟩
 |.clo g l,he=>by obtain⟨y,hy⟩:=fy h l he;exact⟨_,by simp only[cq,hy];rfl⟩
 |.undef,_=>⟨_,rfl⟩
 |.np,_=>⟨_,rfl⟩
 |.anyb,_=>⟨_,rfl⟩
theorem fy (h:bi):∀ (l:List TV),kS h l=ai->∃ l',cN h l=af l'
 |[],_=>⟨[],rfl⟩
 |x::r,he=>by
  simp only[kS,av] at he;obtain⟨y,hy⟩:=qd h x he.1;obtain⟨l',hl⟩:=fy h r he.2;exact⟨_,o6 hy hl⟩
end
def co (h h':bi):Prop:=∀ id r,eD h id=af r->eD h' id=af r
mutual
theorem gF {h h':bi} (hk:co h h'):∀ (u:TV) (y:AV),cq h u=af y->cq h' u=af y
 |.f _ _,y,he=>he
 |.fel _ _ _ _ _,y,he=>he
 |.pel _ _ _ _,y,he=>he
 |.ptr _ _,y,he=>he
 |.csl _ _ _,y,he=>he
 |.row id,y,he=>by
  simp only[cq] at he ⊢;split at he
  .rename_i p sz n hr;rw[hk _ _ hr];exact he
  .cases he
 |.rtl id jj,y,he=>by
  simp only[cq] at he ⊢;split at he
  .rename_i p sz n hr;rw[hk _ _ hr];exact he
  .cases he
 |.emp,y,he=>he
 |.nil,y,he=>he
 |.mp _,y,he=>he
 |.agg l,y,he=>by
  simp only[cq] at he ⊢;split at he
  .rename_i l' hl;rw[hP hk l l' hl];exact he
  .cases he
 |.tup l,y,he=>by
  simp only[cq] at he ⊢;split at he
  .rename_i l' hl;rw[hP hk l l' hl];exact he
  .cases he
 |.clo g l,y,he=>by
  simp only[cq] at he ⊢;split at he
  .rename_i l' hl;rw[hP hk l l' hl];exact he
  .cases he
 |.undef,y,he=>he
 |.np,y,he=>he
 |.anyb,y,he=>he
theorem hP {h h':bi} (hk:co h h'):∀ (l:List TV) (l':List AV),cN h l=af l'->cN h' l=af l'
 |[],l',he=>he
 |x::r,l',he=>by
  obtain⟨y,l2,rfl,h1,h2⟩:=c8 he;exact o6 (gF hk x y h1) (hP hk r l2 h2)
end
mutual
theorem oD {h h':bi} (hk:co h h'):∀ (u:TV),Ls h u=ai->Ls h' u=ai
 |.f _ _,_=>rfl
 |.fel _ _ _ _ _,_=>rfl
 |.pel _ _ _ _,_=>rfl
 |.ptr _ _,_=>rfl
 |.csl _ _ _,_=>rfl
 |.row id,he=>by
  simp only[Ls] at he ⊢;cases hr:eD h id with
  |none=>rw[hr] at he;cases he
  |some r=>rw[hk _ _ hr];rfl
 |.rtl id jj,he=>by
  simp only[Ls] at he ⊢;cases hr:eD h id with
  |none=>rw[hr] at he;cases he
  |some r=>rw[hk _ _ hr];rfl
 |.emp,_=>rfl
 |.nil,_=>rfl
 |.mp _,_=>rfl
 |.agg l,he=>iW hk l he
 |.tup l,he=>iW hk l he
 |.clo g l,he=>iW hk l he
 |.undef,_=>rfl
 |.np,_=>rfl
 |.anyb,_=>rfl
theorem iW {h h':bi} (hk:co h h'):∀ (l:List TV),kS h l=ai->kS h' l=ai
 |[],_=>rfl
 |x::r,he=>by
  simp only[kS,av] at he ⊢;exact⟨oD hk x he.1,iW hk r he.2⟩
end
mutual
theorem E8 (h:bi):∀ (u:TV) (y:AV),cq h u=af y->Ls h u=ai
 |.f _ _,_,_=>rfl
 |.fel _ _ _ _ _,_,_=>rfl
 |.pel _ _ _ _,_,_=>rfl
 |.ptr _ _,_,_=>rfl
 |.csl _ _ _,_,_=>rfl
 |.row id,y,he=>by
  simp only[Ls,cq] at he ⊢;cases hr:eD h id with
  |none=>rw[hr] at he;cases he
  |some r=>rfl
 |.rtl id jj,y,he=>by
  simp only[Ls,cq] at he ⊢;cases hr:eD h id with
  |none=>rw[hr] at he;cases he
  |some r=>rfl
 |.emp,_,_=>rfl
 |.nil,_,_=>rfl
 |.mp _,_,_=>rfl
 |.agg l,y,he=>by
  simp only[cq] at he;split at he
  .rename_i l' hl;exact kO h l l' hl
  .cases he
 |.tup l,y,he=>by
  simp only[cq] at he;split at he
  .rename_i l' hl;exact kO h l l' hl
  .cases he
 |.clo g l,y,he=>by
  simp only[cq] at he;split at he
  .rename_i l' hl;exact kO h l l' hl
  .cases he
 |.undef,_,_=>rfl
 |.np,_,_=>rfl
 |.anyb,_,_=>rfl
theorem kO (h:bi):∀ (l:List TV) (l':List AV),cN h l=af l'->kS h l=ai
 |[],_,_=>rfl
 |x::r,l',he=>by
  obtain⟨y,l2,rfl,h1,h2⟩:=c8 he;simp only[kS,av];exact⟨E8 h x y h1,kO h r l2 h2⟩
end
mutual
theorem Rv (h h':bi):∀ (u:TV),ur u=ai->cq h u=cq h' u
 |.f _ _,_=>rfl
 |.fel _ _ _ _ _,_=>rfl
 |.pel _ _ _ _,_=>rfl
 |.ptr _ _,_=>rfl
 |.csl _ _ _,_=>rfl
 |.row id,he=>by cases he
 |.emp,_=>rfl
 |.nil,_=>rfl
 |.mp _,_=>rfl
 |.agg l,he=>by simp only[cq];rw[E_ h h' l he]
 |.tup l,he=>by simp only[cq];rw[E_ h h' l he]
 |.clo g l,he=>by cases he
 |.undef,_=>rfl
 |.np,_=>rfl
 |.anyb,_=>rfl
theorem E_ (h h':bi):∀ (l:List TV),qB l=ai->cN h l=cN h' l
 |[],_=>rfl
 |x::r,he=>by
  simp only[qB,av] at he;simp only[cN];rw[Rv h h' x he.1,E_ h h' r he.2]
end
theorem Oj {h:bi} {u:TV} {y:AV} (he:cq h u=af y) (hc:u.isC=ai):y.isCell=ai:=by
 cases u with
 |f T v=>cases T<;>simp only[cq,ak] at he<;>subst he<;>first|rfl|(simp [TV.isC,Ty.one] at hc)
 |fel T xs j hj off=>simp only[cq,ak] at he;subst he;rfl
 |pel id sz j off=>simp only[cq,ak] at he;subst he;rfl
 |ptr id off=>simp only[cq,ak] at he;subst he;rfl
 |csl id off z=>simp only[cq,ak] at he;subst he;rfl
 |row id=>
  simp only[cq] at he;split at he
  .simp only[ak] at he;subst he;unfold fA;split<;>rfl
  .cases he
 |rtl id I=>cases hc
 |emp=>simp only[cq,ak] at he;subst he;rfl
 |nil=>simp only[cq,ak] at he;subst he;rfl
 |mp id=>simp only[cq,ak] at he;subst he;rfl
 |agg l=>cases hc
 |tup l=>cases hc
 |clo g l=>
  simp only[cq] at he;split at he
  .simp only[ak] at he;subst he;rfl
  .cases he
 |undef=>cases hc
 |np=>simp only[cq,ak] at he;subst he;rfl
 |anyb=>cases hc
theorem sa {h:bi}:∀ {l:List TV} {I:List AV},cN h l=af I->kx l=ai->gJ I=ai
 |[],I,he,_=>by simp only[cN,ak] at he;subst he;rfl
 |x::r,I,he,hc=>by
  obtain⟨y,l2,rfl,h1,h2⟩:=c8 he;simp only[kx,av] at hc;simp only[gJ,av];exact⟨Oj h1 hc.1,sa h2 hc.2⟩
def Le (x y:AV):Prop:=∀ (φ:PM) (O:Nat->Prop) (w:World) (v:Value),cO φ O w x v->cO φ O w y v
theorem Le.refl (x:AV):Le x x:=λ_ _ _ _ h=>h
def lP (H H':HF) (x y:AV):Prop:=∀ (φ:PM) (E:Nat->Prop) (w:World) (v:Value),rf φ E H w->cO φ (tot E φ H) w x v->cO φ (tot E φ H') w y v
def vD (H H':HF):Prop:=∀ i b,H' i=af b->∃ b0,H i=af b0
theorem vD.refl (H:HF):vD H H:=λ_ b h=>⟨b,h⟩
theorem vD.own {H H':HF} (d:vD H H') {φ:PM} {k:Nat} (h:own φ H' k):own φ H k:=by
 obtain⟨i,b,h1,h2⟩:=h;obtain⟨b0,I⟩:=d i b h1;exact⟨i,b0,I,h2⟩
theorem vD.tot {H H':HF} (d:vD H H') {E:Nat->Prop} {φ:PM} {k:Nat} (h:tot E φ H' k):tot E φ H k:=h.imp id d.own
theorem cO.dom {H H':HF} (d:vD H H') {φ:PM} {E:Nat->Prop} {w:World} {x:AV} {v:Value} (h:cO φ (tot E φ H) w x v):cO φ (tot E φ H') w x v:=
 h.ext (λ_ _ h=>h) (K7.refl _ w) λ_ _ hk=>d.tot hk
theorem ny.dom {H H':HF} (d:vD H H') {φ:PM} {E:Nat->Prop} {w:World} {x:FV} {v:Value} (h:ny (tot E φ H) w x v):ny (tot E φ H') w x v:=
 h.ext (K7.refl _ w) λ_ _ hk=>d.tot hk
theorem Le.toH {H H':HF} (d:vD H H') {x y:AV} (h:Le x y):lP H H' x y:=λφ E w v _ hr=>(h _ _ _ _ hr).dom d
theorem lP.refl {H H':HF} (d:vD H H') (x:AV):lP H H' x x:=(Le.refl x).toH d
def ii (H H':HF):List AV->List AV->Prop
 |[],[]=>True
 |x::xs,y::I=>lP H H' x y/\ii H H' xs I
 |_,_=>False
theorem ii.refl {H H':HF} (d:vD H H'):∀ l,ii H H' l l
 |[]=>trivial
 |x::r=>⟨lP.refl d x,ii.refl d r⟩
theorem ii.length {H H':HF}:∀ {l I:List AV},ii H H' l I->I.length=l.length
 |[],[],_=>rfl
 |[],_::_,h=>h.elim
 |_::_,[],h=>h.elim
 |_::_,_::_,h=>by simp[ii.length h.2]
theorem ii.get {H H':HF}:∀ {l J:List AV},ii H H' l J->∀ (j:Nat) y,J[j]? =af y->∃ x,l[j]? =af x/\lP H H' x y
 |[],[],_,j,y,I=>by simp at I
 |[],_::_,h,_,_,_=>h.elim
 |_::_,[],h,_,_,_=>h.elim
 |x::xs,z::ys,h,j,y,I=>by
  cases j with
  |zero=>simp at I;subst I;exact⟨x,rfl,h.1⟩
  |succ j=>simpa using ii.get h.2 j y (by simpa using I)
theorem ii.append {H H':HF}:∀ {a a' b b':List AV},ii H H' a a'->ii H H' b b'->ii H H' (a++b) (a'++b')
 |[],[],_,_,_,h=>h
 |[],_::_,_,_,h,_=>h.elim
 |_::_,[],_,_,h,_=>h.elim
 |_::_,_::_,_,_,h,h'=>⟨h.1,ii.append h.2 h'⟩
theorem ii.take {H H':HF}:∀ {a a':List AV} (n:Nat),ii H H' a a'->ii H H' (a.take n) (a'.take n)
 |[],[],n,_=>by simp[ii]
 |[],_::_,_,h=>h.elim
 |_::_,[],_,h=>h.elim
 |_::_,_::_,0,_=>trivial
 |_::_,_::_,n+1,h=>⟨h.1,ii.take n h.2⟩
theorem ii.drop {H H':HF}:∀ {a a':List AV} (n:Nat),ii H H' a a'->ii H H' (a.drop n) (a'.drop n)
 |[],[],n,_=>by simp[ii]
 |[],_::_,_,h=>h.elim
 |_::_,[],_,h=>h.elim
 |_::_,_::_,0,h=>h
 |_::_,_::_,n+1,h=>ii.drop n h.2
theorem ii.splice {H H':HF} {a a' b b':List AV} (off:Nat) (h1:ii H H' a a') (h2:ii H H' b b'):ii H H' (splice a off b) (splice a' off b'):=by
 unfold AI.splice;rw[h2.length];exact ((h1.take off).append h2).append (h1.drop _)
def jX (H H':HF) (b b':xh):Prop:=∀ (φ:PM) (E:Nat->Prop) (w:World) (o:Obj),rf φ E H w->jv φ (tot E φ H) w b o->jv φ (tot E φ H') w b' o
theorem jX.refl {H H':HF} (d:vD H H') (b:xh):jX H H' b b:=λ_ _ _ _ _ h=>h.mono λ_ _ h=>h.dom d
theorem pD {φ:PM} {O:Nat->Prop} {w:World} {ty:TypeId} {c:BC} {o:Obj} (hc:c.isCells=ai):jv φ O w ⟨ty,c⟩ o↔∃ arr,o= .cells arr ty (0,0)/\vE φ O w c arr:=by
 unfold jv;cases c<;>simp[BC.isCells] at hc<;>rfl
theorem jX.cells {H H':HF} {ty:TypeId} {c c':BC} (hc:c.isCells=ai) (I:c'.isCells=ai) (hl:ii H H' c.toMx c'.toMx) (hcell:∀ x∈c'.toMx,x.isCell=ai):jX H H' ⟨ty,c⟩ ⟨ty,c'⟩:=by
 intro φ E w o hrep M;rw[pD hc] at M;rw[pD I];obtain⟨arr,h1,h2,h3⟩:=M;refine ⟨arr,h1,by rw[BC.len_toMx I,hl.length,<-BC.len_toMx hc];exact h2,λj x J=>?_⟩;rw[BC.get_toMx I] at J;refine ⟨hcell x (bd J),?_⟩;obtain⟨y,U,hle⟩:=hl.get j x J;obtain⟨_,v,Z,Y⟩:=h3 j y (by rw[BC.get_toMx hc];exact U);exact⟨v,Z,hle _ _ _ _ hrep Y⟩
theorem jX.eq {H H':HF} (d:vD H H') {ty:TypeId} {c c':BC} (hc:c.isCells=ai) (I:c'.isCells=ai) (hl:c.toMx=c'.toMx):jX H H' ⟨ty,c⟩ ⟨ty,c'⟩:=by
 intro φ E w o hrep M;rw[pD hc] at M;rw[pD I];obtain⟨arr,h1,h2,h3⟩:=M;refine ⟨arr,h1,by rw[BC.len_toMx I,<-hl,<-BC.len_toMx hc];exact h2,λj x J=>?_⟩;rw[BC.get_toMx I,<-hl,<-BC.get_toMx hc] at J;obtain⟨Z,v,Y,U⟩:=h3 j x J;exact⟨Z,v,Y,U.dom d⟩
structure KP (H H':HF):Prop where
 dom:vD H H'
 blk:∀ i b b',H i=af b->H' i=af b'->jX H H' b b'
theorem KP.refl (H:HF):KP H H:=⟨vD.refl H,λi b b' h h'=>by rw[h] at h';cases h';exact jX.refl (vD.refl H) b⟩
theorem KP.rep {H H':HF} (V:KP H H') {φ:PM} {E:Nat->Prop} {w:World} (r:rf φ E H w):rf φ E H' w:=by
 refine ⟨λi j b b' k I U M J=>?_,λi b I=>?_,r.el,λg cells hg=>(r.gl g cells hg).dom V.dom⟩
 .obtain⟨b0,q1⟩:=V.dom i b I;obtain⟨b1,q2⟩:=V.dom j b' U;exact r.inj i j b0 b1 k q1 q2 M J
 .obtain⟨b0,q1⟩:=V.dom i b I;obtain⟨k,p1,p2,ob,p3,p4⟩:=r.at_ i b0 q1;exact⟨k,p1,p2,ob,p3,V.blk i b0 b q1 I φ E w ob r p4⟩
theorem gQ.view {P:Program} {o:Oper} {e:EF} {h:HF} {val val':AV} {rd wr wr' N:List Nat} {nw nw':HF} (ht:gQ P o e h ⟨val,rd,wr,nw,N⟩) (hsub:∀ i∈wr,i∈wr'\/i∈rd)
 (hv:∀ h':HF,(∀ i∈rd,h' i=h i)->(∀ i∈wr',h' i=h i)->KP (eV h' wr nw) (eV h' wr' nw')/\lP (eV h' wr nw) (eV h' wr' nw') val val'):gQ P o e h ⟨val',rd,wr',nw',N⟩:=by
 intro φ E h' w a h1 h2 Z Y U;have J:=ht φ E h' w a h1 (λi hi=>(hsub i hi).elim (h2 i) (h1 i)) Z Y U;obtain⟨V,hle⟩:=hv h' h1 h2;refine PU ?_ J;rintro a' w' ⟨v,φ',rfl,mv,nm',I,rel⟩;exact⟨v,φ',rfl,⟨mv.sub,mv.ext,λk hk M=>mv.own_ k hk (V.dom.own M)⟩,nm',V.rep I,hle _ _ _ _ I rel⟩
theorem Le.nil:Le (.f (.raw (.slice ah 0 0))) (.f (.sl [] 0)):=by
 intro φ O w v hr;cases hr with
 |f hr=>cases hr;exact .f (.nil ah 0 (by unfold maxLen;omega))
theorem Le.emp:Le .emp (.f (.sl [] 0)):=by
 intro φ O w v hr;cases hr with
 |emp=>exact .f (.nil _ 0 (by unfold maxLen;omega))
theorem Le.nilEmp:Le (.f (.raw (.slice ah 0 0))) .emp:=by
 intro φ O w v hr;cases hr with
 |f hr=>cases hr;exact .emp
theorem Le.aggF {l:List FV}:Le (.f (.agg l)) (.agg (l.map .f)):=by
 intro φ O w v hr;cases hr with
 |f hr=>
  cases hr with
  |agg _ vs hl hcl hrr=>
   refine .agg (by simp[hl]) (λx I=>?_) λj x u I hu=>?_
   .obtain⟨y,J,rfl⟩:=di.1 I;exact hcl y J
   .rw[ba] at I;cases hc:l[j]? with
    |none=>rw[hc] at I;cases I
    |some y=>rw[hc] at I;simp at I;subst I;exact .f (hrr j y u hc hu)
theorem aat (l:List AV):Le (ML l) (.agg l):=by
 unfold ML;split
 .rename_i fs h;rw[pQ h];exact Le.aggF
 .exact Le.refl _
theorem lP.aggL {H H':HF} {l:List AV} {I:List FV} (h:ii H H' l (I.map .f)) (hc:∀ x∈I,x.isCell=ai):lP H H' (.agg l) (.f (.agg I)):=by
 intro φ E w v hrep hr;cases hr with
 |@agg _ vs hl hcl hrr=>
  refine .f (.agg I vs (by rw[hl,<-h.length];simp) hc λj y u J hu=>?_);obtain⟨x,M,hle⟩:=h.get j (.f y) (by rw[ba,J];rfl);have:=hle φ E w u hrep (hrr j x u M hu);cases this with
  |f h=>exact h
theorem lP.row {H H':HF} (d:vD H H') {id sz n:Nat} {ty:TypeId} {cells:List FV} (h1:H id=af ⟨ty,.fz cells⟩) (h2:H' id=ah) (hl:cells.length=n*sz):lP H H' (.row id sz n) (.f (.sl cells n)):=by
 intro φ E w v r hr;cases hr with
 |@row _ _ _ c k hφ hn hcap hsh=>
  obtain⟨k',q1,q2,_⟩:=r.at_ id _ h1;rw[hφ] at q1;cases q1;obtain⟨arr,p1,p2,p3⟩:=r.cs h1 hφ rfl;have hk:k<w.heap.size:=(cF.1 p1).1;have hlen:cells.length<=arr.size:=by simpa[BC.toMx] using p3
  have hnk:¬tot E φ H' k:=by
   rintro (U|⟨j,b,J,M⟩)
   .exact q2 U
   .obtain⟨b0,Y⟩:=d j b J;have:=r.inj j id b0 _ k Y h1 M hφ;subst this;rw[h2] at J;cases J
  have hget:∀ (j:Nat) x,cells[j]? =af x->∃ u,arr[j]? =af u/\ny (tot E φ H) w x u:=λj x I=>by
   have hj:j<cells.length:=(bl.1 I).1;have hja:j<arr.size:=by omega
   refine ⟨arr[j],by simp[hja],?_⟩;have:=p2.2.2 j (.f x) arr[j] (by simp[BC.toMx,I]) (by
    rw[cU,aF (by simpa[BC.toMx] using hj),cJ];simp[hja])
   cases this with
   |f h=>exact h
  refine .f (.sl cells n c k 0 (λj=>(arr[j]?).getD undef) hn hcap hnk hk (λx I=>?_) (λj hj=>?_) (λj x I=>?_))
  .have:=p2.2.1 (.f x) (by simp only[BC.toMx];exact di.2 ⟨x,I,rfl⟩);exact this
  .have:j<arr.size:=by omega
   simp[NH,p1,this]
  .obtain⟨u,J,M⟩:=hget j x I;rw[J];exact M.dom d
theorem sH:∀ l:List Xp,JE l=l.flatMap wQ
 |[]=>rfl
 |x::r=>by rw[JE,sH r];rfl
theorem zC:∀ l:List Sx,JD l=l.flatMap ym
 |[]=>rfl
 |x::r=>by rw[JD,zC r];rfl
theorem JB (e:Xp):bT M2 (NQ e)=wQ e:=by
 cases e with
 |mk op n name l=>simp only[M2,NQ,bT,wQ,Xp.op,Xp.n,Xp.name,Xp.l,sH];rfl
theorem RB (x:M2.den):wQ (d_ x)=bT M2 x:=by
 simp only[M2,d_,bT,wQ,sH];rfl
theorem JA (e:Sx):bT MA (NP e)=ym e:=by
 cases e with
 |mk op line name arg index expr body els=>simp only[MA,NP,bT,ym,Sx.op,Sx.line,Sx.name,Sx.arg,Sx.index,Sx.expr,Sx.body,Sx.els,sH,zC];rfl
theorem RA (x:MA.den):ym (nN x)=bT MA x:=by
 simp only[MA,nN,bT,ym,sH,zC];rfl
theorem xN (e:Xp):(wQ e).length=4:=by cases e;simp[wQ]
theorem Dk (e:Sx):(ym e).length=11:=by cases e;simp[ym,xN]
theorem bD:∀ (T:Ty) (v:T.den),(bT T v).length=T.size
 |.int _,_=>rfl
 |.bool,_=>rfl
 |.str,_=>rfl
 |.sl _,_=>rfl
 |.st t,v=>bD t v
 |.pr a b,v=>by simp[bT,Ty.size,bD a,bD b]
 |.un,_=>rfl
 |.ex,v=>xN v
 |.sm,v=>Dk v
theorem JF (e:Xp):∀ x∈wQ e,x.isCell=ai:=by
 cases e with
 |mk op n name l=>
  intro x I;simp only[wQ,bm,cw,gi] at I;rcases I with rfl|rfl|rfl|rfl<;>rfl
theorem U5 (e:Sx):∀ x∈ym e,x.isCell=ai:=by
 cases e with
 |mk op line name arg index expr body els=>
  intro x I;simp only[ym,bQ,bm,cw,gi] at I;rcases I with (I|I)|I
  .rcases I with rfl|rfl|rfl|rfl|rfl<;>rfl
  .exact JF _ _ I
  .rcases I with rfl|rfl<;>rfl
theorem nW:∀ (T:Ty) (v:T.den),∀ x∈bT T v,x.isCell=ai
 |.int _,_,x,I=>by simp only[bT,aL] at I;subst I;rfl
 |.bool,_,x,I=>by simp only[bT,aL] at I;subst I;rfl
 |.str,_,x,I=>by simp only[bT,aL] at I;subst I;rfl
 |.sl _,_,x,I=>by simp only[bT,aL] at I;subst I;rfl
 |.st t,v,x,I=>nW t v x I
 |.pr a b,v,x,I=>by
  simp only[bT,bQ] at I;exact I.elim (nW a v.1 x) (nW b v.2 x)
 |.un,_,x,I=>by simp[bT] at I
 |.ex,v,x,I=>JF v x I
 |.sm,v,x,I=>U5 v x I
theorem Dl:∀ (T:Ty) (v:T.den),T.one=ai->bT T v=[gK T v]/\T.size=1
 |.int _,_,_=>⟨rfl,rfl⟩
 |.bool,_,_=>⟨rfl,rfl⟩
 |.str,_,_=>⟨rfl,rfl⟩
 |.sl _,_,_=>⟨rfl,rfl⟩
 |.st _,_,h=>by cases h
 |.pr _ _,_,h=>by cases h
 |.un,_,h=>by cases h
 |.ex,_,h=>by cases h
 |.sm,_,h=>by cases h
theorem qJ:∀ (T:Ty) (v:T.den),T.one=aj->gK T v= .agg (bT T v)
 |.int _,_,h=>by cases h
 |.bool,_,h=>by cases h
 |.str,_,h=>by cases h
 |.sl _,_,h=>by cases h
 |.st _,_,_=>rfl
 |.pr _ _,_,_=>rfl
 |.un,_,_=>rfl
 |.ex,_,_=>rfl
 |.sm,_,_=>rfl
theorem Ap (T:Ty) (v:T.den):(AV.f (gK T v)).cs=(bT T v).map .f:=by
 cases h:T.one with
 |true=>
  rw[(Dl T v h).1];cases T<;>simp only[Ty.one] at h<;>first|rfl|cases h
 |false=>rw[qJ T v h];rfl
theorem fE {α:Type} {f:α->List FV} {n:Nat} (hf:∀ x,(f x).length=n):∀ (xs:List α),(xs.flatMap f).length=xs.length*n
 |[]=>by simp
 |x::r=>by rw[fM,bu,hf,fE hf r,b7,iR];omega
theorem E6 {α:Type} {f:α->List FV} {n:Nat} (hf:∀ x,(f x).length=n):∀ (xs:List α) (j:Nat) (x:α),xs[j]? =af x->∃ r,(xs.flatMap f).drop (j*n)=f x++r
 |[],j,x,h=>by simp at h
 |y::r,j,x,h=>by
  cases j with
  |zero=>simp at h;subst h;exact⟨r.flatMap f,by simp⟩
  |succ j=>
   obtain⟨q,hq⟩:=E6 hf r j x (by simpa using h);refine ⟨q,?_⟩;rw[fM,show (j+1)*n=(f y).length+j*n from by rw[hf,iR];omega,vb];simp[hq]
theorem Rr {α:Type} {f:α->List FV} {n:Nat} (hf:∀ x,(f x).length=n):∀ (xs:List α) (j:Nat) (x z:α),xs[j]? =af x->∀ (off:Nat) (vs:List FV),off+vs.length<=n->f z=AI.splice (f x) off vs->(xs.set j z).flatMap f=AI.splice (xs.flatMap f) (j*n+off) vs
 |[],j,x,z,h,_,_,_,_=>by simp at h
 |y::r,j,x,z,h,off,vs,hle,I=>by
  cases j with
  |zero=>
   simp at h;subst h;simp only[List.set_cons_zero,fM,I,Nat.zero_mul,bN];unfold AI.splice;have M:=hf y;rw[List.take_append,vb];have e1:off-(f y).length=0:=by omega
   have e2:off+vs.length-(f y).length=0:=by omega
   rw[e1,e2];simp[iB]
  |succ j=>
   have J:=Rr hf r j x z (by simpa using h) off vs hle I;simp only[List.set_cons_succ,fM,J];unfold AI.splice;have M:=hf y;have e0:(j+1)*n=(f y).length+j*n:=by rw[hf,iR];omega
   rw[e0,List.take_append,vb];have e1:(f y).length+j*n+off-(f y).length=j*n+off:=by omega
   have e2:(f y).length+j*n+off+vs.length-(f y).length=j*n+off+vs.length:=by omega
   rw[e1,e2,f_ (by omega:(f y).length<=(f y).length+j*n+off),rT (by omega:(f y).length<=(f y).length+j*n+off+vs.length)];simp[iB]
theorem rM (T:Ty) (xs:List T.den):∀ x∈xs.flatMap (bT T),x.isCell=ai:=λx I=>by
 obtain⟨y,_,h⟩:=uY.1 I;exact nW T y x h
theorem ji {S T:Ty} {v:S.den} {x:T.den} (h:w7 T v=af x):∃ e:S=T,x=e▸v:=by
 unfold w7 at h;split at h
 .rename_i e;simp only[ak] at h;exact⟨e,h.symm⟩
 .cases h
theorem lM (h:bi):∀ (n:Nat) (T:Ty) (v:T.den) (l:List TV),cellsOf n T v=af l->cN h l=af ((bT T v).map .f)/\kx l=ai
 |0,_,_,_,he=>by simp[cellsOf] at he
 |n+1,.st t,v,l,he=>lM h n t v l he
 |n+1,.pr a b,v,l,he=>by
  simp only[cellsOf] at he;split at he
  .rename_i x y J I;simp only[ak] at he;subst he;obtain⟨h1,h2⟩:=lM h n a v.1 x J;obtain⟨M,Y⟩:=lM h n b v.2 y I;refine ⟨by rw[bT,cC];exact nk h1 M,?_⟩;clear h1 M J I;induction x with
   |nil=>exact Y
   |cons z r U=>simp only[kx,av,gu] at h2 ⊢;exact⟨h2.1,U h2.2⟩
  .cases he
 |n+1,.un,v,l,he=>by simp only[cellsOf,ak] at he;subst he;exact⟨rfl,rfl⟩
 |n+1,.ex,v,l,he=>by rw[bT,<-JB];exact lM h n M2 (NQ v) l he
 |n+1,.sm,v,l,he=>by rw[bT,<-JA];exact lM h n MA (NP v) l he
 |n+1,.int k,v,l,he=>by simp only[cellsOf,ak] at he;subst he;exact⟨rfl,rfl⟩
 |n+1,.bool,v,l,he=>by simp only[cellsOf,ak] at he;subst he;exact⟨rfl,rfl⟩
 |n+1,.str,v,l,he=>by simp only[cellsOf,ak] at he;subst he;exact⟨rfl,rfl⟩
 |n+1,.sl t,v,l,he=>by simp only[cellsOf,ak] at he;subst he;exact⟨rfl,rfl⟩
theorem N8 {y:AV} (h:y.isCell=ai):y.cs=[y]:=by
 cases y with
 |f x=>cases x<;>first|rfl|cases h
 |agg l=>cases h
 |_=>rfl
theorem Kk {h:bi} {v:TV} {l:List TV} {y:AV} (hv:v.cs=af l) (I:cq h v=af y):cN h l=af y.cs/\kx l=ai:=by
 have one:(if v.isC then af [v] else ah)=af l->cN h l=af y.cs/\kx l=ai:=λhv=>by
  split at hv
  .rename_i hc;simp only[ak] at hv;subst hv;exact⟨by rw[N8 (Oj I hc)];exact o6 I rfl,by simp[kx,hc]⟩
  .cases hv
 cases v with
 |agg q=>
  simp only[TV.cs] at hv;split at hv
  .rename_i hc;simp only[ak] at hv;subst hv;simp only[cq] at I;split at I
   .rename_i J hl;simp only[ak] at I;subst I;exact⟨hl,hc⟩
   .cases I
  .cases hv
 |f T x=>
  simp only[TV.cs] at hv;simp only[cq,ak] at I;subst I;rw[Ap];exact lM h 40 T x l hv
 |fel T xs j hj off=>exact one hv
 |pel id sz j off=>exact one hv
 |ptr id off=>exact one hv
 |csl id off z=>exact one hv
 |row id=>exact one hv
 |emp=>exact one hv
 |nil=>exact one hv
 |mp id=>exact one hv
 |rtl id M=>exact one hv
 |tup q=>exact one hv
 |clo g q=>exact one hv
 |undef=>exact one hv
 |np=>exact one hv
 |anyb=>exact one hv
def Ed (h:bi) (H H':HF) (m:Nat):Prop:=∀ id,aN m id=ai->H (nm id)=bC h (nm id)/\H' (nm id)=ah
theorem Ed.zero {h:bi} {H H':HF}:Ed h H H' 0:=λid hid=>by simp at hid
theorem Ed.or {h:bi} {H H':HF} {a b:Nat} (g:Ed h H H' (a|||b)):Ed h H H' a/\Ed h H H' b:=
 ⟨λid hid=>g id (by rw[bt,hid];rfl),λid hid=>g id (by rw[bt,hid];simp)⟩
theorem bY {i j:Nat}:aN (kQ i) j=ai↔i=j:=by
 unfold kQ;rw[Nat.one_shiftLeft,Nat.testBit_two_pow];simp
section pack
variable {h:bi} {H H':HF}
theorem xV (d:vD H H') {T:Ty} {v:TV} {x:T.den} {m:Nat} {y:AV} (I:iL h T v=af (x,m)) (J:cq h v=af y) (g:Ed h H H' m):lP H H' y (.f (gK T x))/\y.cs.length=T.size/\(T.one=ai->y.isCell=ai)/\ii H H' y.cs ((bT T x).map .f):=by
 cases v with
 |f S v=>
  simp only[iL] at I;split at I
  .rename_i z M;simp only[ak,aD] at I;obtain⟨rfl,_⟩:=I;obtain⟨e,rfl⟩:=ji M;subst e;simp only[cq,ak] at J;subst J;refine ⟨lP.refl d _,by rw[Ap,bR,bD],λY=>?_,by rw[Ap];exact ii.refl d _⟩;cases S<;>simp only[Ty.one] at Y<;>first|rfl|cases Y
  .cases I
 |emp=>
  simp only[iL] at I;split at I
  .simp only[ak,aD] at I;obtain⟨rfl,_⟩:=I;simp only[cq,ak] at J;subst J;exact⟨Le.emp.toH d,rfl,λ_=>rfl,⟨Le.emp.toH d,trivial⟩⟩
  .cases I
 |nil=>
  simp only[iL] at I;split at I
  .simp only[ak,aD] at I;obtain⟨rfl,_⟩:=I;simp only[cq,ak] at J;subst J;exact⟨Le.nil.toH d,rfl,λ_=>rfl,⟨Le.nil.toH d,trivial⟩⟩
  .cases I
 |row id=>
  simp only[iL] at I;split at I
  .rename_i ty p S xs hb;split at I
   .rename_i z M;simp only[ak,aD] at I;obtain⟨rfl,rfl⟩:=I;obtain⟨e,rfl⟩:=ji M;subst e;obtain⟨U,Z⟩:=g id (bY.2 rfl);rw[bK,hb] at U;simp only[cq,eD,hb,ak] at J;subst J;have key:lP H H' (fA p id S.size xs.length) (.f (gK (.sl S) xs)):=by
     unfold fA;split
     .rename_i hp;simp only[av,c5] at hp;have:xs=[]:=gM.1 hp.2;subst this;exact Le.emp.toH d
     .rename_i hp;simp only[aH,kC,ay hp] at U;exact lP.row d U Z (fE (bD S) xs)
    have hc:(fA p id S.size xs.length).isCell=ai:=by unfold fA;split<;>rfl
    refine ⟨key,by rw[N8 hc];rfl,λ_=>hc,?_⟩;rw[N8 hc];exact⟨key,trivial⟩
   .cases I
  .cases I
 |fel T xs j hj off=>simp[iL] at I
 |pel id sz j off=>simp[iL] at I
 |ptr id off=>simp[iL] at I
 |csl id off z=>simp[iL] at I
 |mp id=>simp[iL] at I
 |rtl id jj=>simp[iL] at I
 |agg q=>simp[iL] at I
 |tup q=>simp[iL] at I
 |clo f q=>simp[iL] at I
 |undef=>simp[iL] at I
 |np=>simp[iL] at I
 |anyb=>simp[iL] at I
theorem sh (d:vD H H'):∀ (n:Nat) (T:Ty) (l:List TV) (x:T.den) (m:Nat) (r:List TV) (I:List AV),e9 h n T l=af (x,m,r)->cN h l=af I->Ed h H H' m->∃ l1 l2,I=l1++l2/\cN h r=af l2/\ii H H' l1 ((bT T x).map .f)
 |0,_,_,_,_,_,_,hp,_,_=>by simp[e9] at hp
 |n+1,.st t,l,x,m,r,I,hp,hl,g=>sh d n t l x m r I hp hl g
 |n+1,.pr a b,l,x,m,r,I,hp,hl,g=>by
  simp only[e9] at hp;split at hp
  .rename_i x1 m1 r1 h1;split at hp
   .rename_i x2 m2 r2 h2;simp only[ak,aD] at hp;obtain⟨rfl,rfl,rfl⟩:=hp;obtain⟨Y,U⟩:=g.or;obtain⟨l1,l2,rfl,q1,q2⟩:=sh d n a l x1 m1 r1 I h1 hl Y;obtain⟨M,J,rfl,q3,q4⟩:=sh d n b r1 x2 m2 r2 l2 h2 q1 U;refine ⟨l1++M,J,by simp,q3,?_⟩;rw[bT,cC];exact q2.append q4
   .cases hp
  .cases hp
 |n+1,.un,l,x,m,r,I,hp,hl,g=>by
  simp only[e9,ak,aD] at hp;obtain⟨_,_,rfl⟩:=hp;exact⟨[],I,rfl,hl,trivial⟩
 |n+1,.ex,l,x,m,r,I,hp,hl,g=>by
  simp only[e9] at hp;split at hp
  .rename_i x1 m1 r1 h1;simp only[ak,aD] at hp;obtain⟨rfl,rfl,rfl⟩:=hp;rw[bT,RB];exact sh d n M2 l x1 m1 r1 I h1 hl g
  .cases hp
 |n+1,.sm,l,x,m,r,I,hp,hl,g=>by
  simp only[e9] at hp;split at hp
  .rename_i x1 m1 r1 h1;simp only[ak,aD] at hp;obtain⟨rfl,rfl,rfl⟩:=hp;rw[bT,RA];exact sh d n MA l x1 m1 r1 I h1 hl g
  .cases hp
 |n+1,.int k,l,x,m,r,I,hp,hl,g=>by
  simp only[e9] at hp;split at hp
  .rename_i c q;split at hp
   .rename_i x1 m1 h1;simp only[ak,aD] at hp;obtain⟨rfl,rfl,rfl⟩:=hp;obtain⟨y,l2,rfl,q1,q2⟩:=c8 hl;exact⟨[y],l2,rfl,q2,⟨(xV d h1 q1 g).1,trivial⟩⟩
   .cases hp
  .cases hp
 |n+1,.bool,l,x,m,r,I,hp,hl,g=>by
  simp only[e9] at hp;split at hp
  .rename_i c q;split at hp
   .rename_i x1 m1 h1;simp only[ak,aD] at hp;obtain⟨rfl,rfl,rfl⟩:=hp;obtain⟨y,l2,rfl,q1,q2⟩:=c8 hl;exact⟨[y],l2,rfl,q2,⟨(xV d h1 q1 g).1,trivial⟩⟩
   .cases hp
  .cases hp
 |n+1,.str,l,x,m,r,I,hp,hl,g=>by
  simp only[e9] at hp;split at hp
  .rename_i c q;split at hp
   .rename_i x1 m1 h1;simp only[ak,aD] at hp;obtain⟨rfl,rfl,rfl⟩:=hp;obtain⟨y,l2,rfl,q1,q2⟩:=c8 hl;exact⟨[y],l2,rfl,q2,⟨(xV d h1 q1 g).1,trivial⟩⟩
   .cases hp
  .cases hp
 |n+1,.sl t,l,x,m,r,I,hp,hl,g=>by
  simp only[e9] at hp;split at hp
  .rename_i c q;split at hp
   .rename_i x1 m1 h1;simp only[ak,aD] at hp;obtain⟨rfl,rfl,rfl⟩:=hp;obtain⟨y,l2,rfl,q1,q2⟩:=c8 hl;exact⟨[y],l2,rfl,q2,⟨(xV d h1 q1 g).1,trivial⟩⟩
   .cases hp
  .cases hp
theorem Ud (d:vD H H') {n:Nat} {T:Ty} {l:List TV} {x:T.den} {m:Nat} {I:List AV} (hp:e9 h n T l=af (x,m,[])) (hl:cN h l=af I) (g:Ed h H H' m):ii H H' I ((bT T x).map .f):=by
 obtain⟨l1,l2,rfl,q1,q2⟩:=sh d n T l x m [] I hp hl g;simp only[cN,ak] at q1;subst q1;simpa using q2
theorem Pt (d:vD H H') {T:Ty} {v:TV} {x:T.den} {m:Nat} {y:AV} (I:DY h T v=af (x,m)) (J:cq h v=af y) (g:Ed h H H' m):lP H H' y (.f (gK T x))/\ii H H' y.cs ((bT T x).map .f):=by
 have other:iL h T v=af (x,m)->lP H H' y (.f (gK T x))/\ii H H' y.cs ((bT T x).map .f):=λI=>by
  obtain⟨h1,_,_,h2⟩:=xV d I J g;exact⟨h1,h2⟩
 cases v with
 |agg l=>
  simp only[DY] at I;split at I
  .cases I
  .rename_i M;split at I
   .rename_i x1 m1 h1;simp only[ak,aD] at I;obtain⟨rfl,rfl⟩:=I;simp only[cq] at J;split at J
    .rename_i U hl;simp only[ak] at J;subst J;have:=Ud d h1 hl g;refine ⟨?_,this⟩;rw[qJ T x1 (by simpa using M)];exact lP.aggL this (nW T x1)
    .cases J
   .cases I
 |f S v=>exact other I
 |fel T xs j hj off=>exact other I
 |pel id sz j off=>exact other I
 |ptr id off=>exact other I
 |csl id off z=>exact other I
 |row id=>exact other I
 |emp=>exact other I
 |nil=>exact other I
 |mp id=>exact other I
 |rtl id Y=>exact other I
 |tup q=>exact other I
 |clo g q=>exact other I
 |undef=>exact other I
 |np=>exact other I
 |anyb=>exact other I
theorem CM (d:vD H H') {T:Ty}:∀ (n:Nat) (l:List TV) (xs:List T.den) (m:Nat) (I:List AV),yV h T n l=af (xs,m)->cN h l=af I->Ed h H H' m->ii H H' I ((xs.flatMap (bT T)).map .f)/\xs.length=n
 |0,[],xs,m,I,hp,hl,g=>by
  simp only[yV,ak,aD] at hp;obtain⟨rfl,_⟩:=hp;simp only[cN,ak] at hl;subst hl;exact⟨trivial,rfl⟩
 |0,_::_,xs,m,I,hp,hl,g=>by simp[yV] at hp
 |n+1,l,xs,m,I,hp,hl,g=>by
  simp only[yV] at hp;split at hp
  .rename_i x1 m1 r1 h1;split at hp
   .rename_i x2 m2 h2;simp only[ak,aD] at hp;obtain⟨rfl,rfl⟩:=hp;obtain⟨M,J⟩:=g.or;obtain⟨l1,l2,rfl,q1,q2⟩:=sh d 40 T l x1 m1 r1 I h1 hl M;obtain⟨q3,q4⟩:=CM d n r1 x2 m2 l2 h2 q1 J;refine ⟨?_,by simp[q4]⟩;rw[fM,cC];exact q2.append q3
   .cases hp
  .cases hp
theorem uz (h:bi):∀ (n:Nat) (T:Ty) (v:T.den) (off sz:Nat) (ag:Bool) (u:TV),oc n T v off sz ag=af u->off+sz<=T.size/\∃ y,cq h u=af (.f y)/\(ag=aj->sz=1/\(bT T v)[off]? =af y)/\(ag=ai->y= .agg (((bT T v).drop off).take sz))
 |0,_,_,_,_,_,_,hg=>by simp[oc] at hg
 |n+1,.st t,v,off,sz,ag,u,hg=>by
  simp only[oc] at hg;split at hg
  .rename_i hc;simp only[av] at hc;obtain⟨⟨h1,h2⟩,rfl⟩:=hc;have h1:=aw h1;have h2:=aw h2;subst h1;subst h2;simp only[ak] at hg;subst hg;refine ⟨by simp[Ty.size],_,rfl,λh=>(by cases h),λ_=>?_⟩;simp only[gK,bT,List.drop_zero];rw[<- bD t v,cP]
  .exact uz h n t v off sz ag u hg
 |n+1,.pr a b,v,off,sz,ag,u,hg=>by
  simp only[oc] at hg;have hla:=bD a v.1;have hlb:=bD b v.2;split at hg
  .rename_i hlt;have hlt:off<a.size:=a8 hlt;obtain⟨h1,y,h2,J,I⟩:=uz h n a v.1 off sz ag u hg;refine ⟨by simp only[Ty.size];omega,y,h2,λe=>?_,λe=>?_⟩
   .obtain⟨U,M⟩:=J e;exact⟨U,by rw[bT,bO (by omega)];exact M⟩
   .rw[I e,bT];have:((bT a v.1++bT b v.2).drop off).take sz=((bT a v.1).drop off).take sz:=by
     rw[Eb (by omega),lj (by simp;omega)]
    rw[this]
  .rename_i hlt;have hlt:¬off<a.size:=λh=>hlt (bE h)
   obtain⟨h1,y,h2,J,I⟩:=uz h n b v.2 (off-a.size) sz ag u hg;refine ⟨by simp only[Ty.size];omega,y,h2,λe=>?_,λe=>?_⟩
   .obtain⟨U,M⟩:=J e;exact⟨U,by rw[bT,b_ (by omega),hla];exact M⟩
   .rw[I e,bT];have:(bT a v.1++bT b v.2).drop off=(bT b v.2).drop (off-a.size):=by
     rw[vb,hla,rT (by omega)];simp
    rw[this]
 |n+1,.un,v,off,sz,ag,u,hg=>by simp[oc] at hg
 |n+1,.ex,v,off,sz,ag,u,hg=>by
  simp only[oc] at hg;split at hg
  .rename_i hc;simp only[av] at hc;obtain⟨⟨h1,h2⟩,rfl⟩:=hc;have h1:=aw h1;have h2:=aw h2;subst h1;subst h2;simp only[ak] at hg;subst hg;refine ⟨by simp[Ty.size],_,rfl,λh=>(by cases h),λ_=>?_⟩;simp only[gK,bT,List.drop_zero];rw[<- xN v,cP]
  .obtain⟨h1,y,h2,J,I⟩:=uz h n M2 (NQ v) off sz ag u hg;rw[JB] at J I;exact⟨h1,y,h2,J,I⟩
 |n+1,.sm,v,off,sz,ag,u,hg=>by
  simp only[oc] at hg;split at hg
  .rename_i hc;simp only[av] at hc;obtain⟨⟨h1,h2⟩,rfl⟩:=hc;have h1:=aw h1;have h2:=aw h2;subst h1;subst h2;simp only[ak] at hg;subst hg;refine ⟨by simp[Ty.size],_,rfl,λh=>(by cases h),λ_=>?_⟩;simp only[gK,bT,List.drop_zero];rw[<- Dk v,cP]
  .obtain⟨h1,y,h2,J,I⟩:=uz h n MA (NP v) off sz ag u hg;rw[JA] at J I;exact⟨h1,y,h2,J,I⟩
 |n+1,.int k,v,off,sz,ag,u,hg=>by
  simp only[oc] at hg;split at hg
  .rename_i hc;simp only[av,eA] at hc;obtain⟨⟨h1,h2⟩,rfl⟩:=hc;have h1:=aw h1;have h2:=aw h2;subst h1;subst h2;simp only[ak] at hg;subst hg;exact⟨by simp[Ty.size],_,rfl,λ_=>⟨rfl,rfl⟩,λh=>by cases h⟩
  .cases hg
 |n+1,.bool,v,off,sz,ag,u,hg=>by
  simp only[oc] at hg;split at hg
  .rename_i hc;simp only[av,eA] at hc;obtain⟨⟨h1,h2⟩,rfl⟩:=hc;have h1:=aw h1;have h2:=aw h2;subst h1;subst h2;simp only[ak] at hg;subst hg;exact⟨by simp[Ty.size],_,rfl,λ_=>⟨rfl,rfl⟩,λh=>by cases h⟩
  .cases hg
 |n+1,.str,v,off,sz,ag,u,hg=>by
  simp only[oc] at hg;split at hg
  .rename_i hc;simp only[av,eA] at hc;obtain⟨⟨h1,h2⟩,rfl⟩:=hc;have h1:=aw h1;have h2:=aw h2;subst h1;subst h2;simp only[ak] at hg;subst hg;exact⟨by simp[Ty.size],_,rfl,λ_=>⟨rfl,rfl⟩,λh=>by cases h⟩
  .cases hg
 |n+1,.sl t,v,off,sz,ag,u,hg=>by
  simp only[oc] at hg;split at hg
  .rename_i hc;simp only[av,eA] at hc;obtain⟨⟨h1,h2⟩,rfl⟩:=hc;have h1:=aw h1;have h2:=aw h2;subst h1;subst h2;simp only[ak] at hg;subst hg;exact⟨by simp[Ty.size],_,rfl,λ_=>⟨rfl,rfl⟩,λh=>by cases h⟩
  .cases hg
theorem T4 {α:Type} (l vs:List α) (h:vs.length=l.length):AI.splice l 0 vs=vs:=by
 unfold AI.splice;rw[bN,h,List.drop_length];simp
theorem Qa {α:Type} (a b vs:List α) (off:Nat) (h:off+vs.length<=a.length):AI.splice (a++b) off vs=AI.splice a off vs++b:=by
 unfold AI.splice;rw[lj (by omega),Eb (by omega)];simp[iB]
theorem NZ {α:Type} (a b vs:List α) (off:Nat) (h:a.length<=off):AI.splice (a++b) off vs=a++AI.splice b (off-a.length) vs:=by
 unfold AI.splice;rw[List.take_append,vb,f_ h,rT (by omega),show off+vs.length-a.length=off-a.length+vs.length from by omega];simp[iB]
def XN (H H':HF) (y:AV) (T:Ty) (v z:T.den) (off sz:Nat):Prop:=∃ fs:List FV,ii H H' y.cs (fs.map .f)/\fs.length=sz/\off+sz<=T.size/\bT T z=AI.splice (bT T v) off fs/\∀ x∈fs,x.isCell=ai
theorem XN.whole {y:AV} {T:Ty} {v z:T.den} {off sz:Nat} (h0:off=0) (hs:sz=T.size) (hl:ii H H' y.cs ((bT T z).map .f)):XN H H' y T v z off sz:=by
 subst h0;subst hs;exact⟨bT T z,hl,bD T z,by omega,(T4 _ _ (by rw[bD,bD])).symm,nW T z⟩
theorem wg (d:vD H H') {u:TV} {y:AV} (I:cq h u=af y):∀ (n:Nat) (T:Ty) (v:T.den) (off sz:Nat) (z:T.den) (m:Nat),gU h u n T v off sz=af (z,m)->Ed h H H' m->XN H H' y T v z off sz
 |0,_,_,_,_,_,_,hg,_=>by simp[gU] at hg
 |n+1,.st t,v,off,sz,z,m,hg,g=>by
  simp only[gU] at hg;split at hg
  .rename_i q hq;split at hq
   .rename_i hc;simp only[av] at hc;simp only[ak] at hg;subst hg;exact .whole (aw hc.1) (aw hc.2) (Pt d hq I g).2
   .cases hq
  .exact wg d I n t v off sz z m hg g
 |n+1,.pr a b,v,off,sz,z,m,hg,g=>by
  simp only[gU] at hg;have hla:=bD a v.1;split at hg
  .rename_i hlt;split at hg
   .rename_i J m1 h1;simp only[ak,aD] at hg;obtain⟨rfl,rfl⟩:=hg;obtain⟨fs,q1,q2,q3,q4,q5⟩:=wg d I n a v.1 off sz J m1 h1 g;refine ⟨fs,q1,q2,by simp only[Ty.size];omega,?_,q5⟩;rw[bT,bT,Qa _ _ _ _ (by omega),q4]
   .cases hg
  .rename_i hlt;have hlt:¬off<a.size:=λh=>hlt (bE h)
   split at hg
   .rename_i J m1 h1;simp only[ak,aD] at hg;obtain⟨rfl,rfl⟩:=hg;obtain⟨fs,q1,q2,q3,q4,q5⟩:=wg d I n b v.2 (off-a.size) sz J m1 h1 g;refine ⟨fs,q1,q2,by simp only[Ty.size];omega,?_,q5⟩;rw[bT,bT,NZ _ _ _ _ (by omega),q4,hla]
   .cases hg
 |n+1,.un,v,off,sz,z,m,hg,g=>by simp[gU] at hg
 |n+1,.ex,v,off,sz,z,m,hg,g=>by
  simp only[gU] at hg;split at hg
  .rename_i q hq;split at hq
   .rename_i hc;simp only[av] at hc;simp only[ak] at hg;subst hg;exact .whole (aw hc.1) (aw hc.2) (Pt d hq I g).2
   .cases hq
  .split at hg
   .rename_i J m1 h1;simp only[ak,aD] at hg;obtain⟨rfl,rfl⟩:=hg;obtain⟨fs,q1,q2,q3,q4,q5⟩:=wg d I n M2 (NQ v) off sz J m1 h1 g;exact⟨fs,q1,q2,q3,by rw[bT,bT,RB,q4,JB],q5⟩
   .cases hg
 |n+1,.sm,v,off,sz,z,m,hg,g=>by
  simp only[gU] at hg;split at hg
  .rename_i q hq;split at hq
   .rename_i hc;simp only[av] at hc;simp only[ak] at hg;subst hg;exact .whole (aw hc.1) (aw hc.2) (Pt d hq I g).2
   .cases hq
  .split at hg
   .rename_i J m1 h1;simp only[ak,aD] at hg;obtain⟨rfl,rfl⟩:=hg;obtain⟨fs,q1,q2,q3,q4,q5⟩:=wg d I n MA (NP v) off sz J m1 h1 g;exact⟨fs,q1,q2,q3,by rw[bT,bT,RA,q4,JA],q5⟩
   .cases hg
 |n+1,.int k,v,off,sz,z,m,hg,g=>by
  simp only[gU] at hg;split at hg
  .rename_i hc;simp only[av] at hc;exact .whole (aw hc.1) (aw hc.2) (xV d hg I g).2.2.2
  .cases hg
 |n+1,.bool,v,off,sz,z,m,hg,g=>by
  simp only[gU] at hg;split at hg
  .rename_i hc;simp only[av] at hc;exact .whole (aw hc.1) (aw hc.2) (xV d hg I g).2.2.2
  .cases hg
 |n+1,.str,v,off,sz,z,m,hg,g=>by
  simp only[gU] at hg;split at hg
  .rename_i hc;simp only[av] at hc;exact .whole (aw hc.1) (aw hc.2) (xV d hg I g).2.2.2
  .cases hg
 |n+1,.sl t,v,off,sz,z,m,hg,g=>by
  simp only[gU] at hg;split at hg
  .rename_i hc;simp only[av] at hc;exact .whole (aw hc.1) (aw hc.2) (xV d hg I g).2.2.2
  .cases hg
theorem KB:∀ {a b:List Value},SJ a b=ai->a=b
 |[],[],_=>rfl
 |[],_::_,h=>by cases h
 |_::_,[],h=>by cases h
 |x::xs,y::ys,h=>by
  simp only[SJ,av] at h;rw[afy h.1,KB h.2]
theorem zero_ok (d:vD H H'):∀ T:Ty,ii H H' ((s5 T).map raw) ((bT T T.zero).map .f)
 |.int k=>⟨lP.refl d _,trivial⟩
 |.bool=>⟨lP.refl d _,trivial⟩
 |.str=>⟨lP.refl d _,trivial⟩
 |.sl t=>⟨Le.nil.toH d,trivial⟩
 |.st t=>zero_ok d t
 |.pr a b=>by
  simp only[s5,Ty.zero,bT,cC];exact (zero_ok d a).append (zero_ok d b)
 |.un=>trivial
 |.ex=>⟨lP.refl d _,lP.refl d _,lP.refl d _,Le.nil.toH d,trivial⟩
 |.sm=>⟨lP.refl d _,lP.refl d _,lP.refl d _,lP.refl d _,Le.nil.toH d,lP.refl d _,lP.refl d _,lP.refl d _,Le.nil.toH d,Le.nil.toH d,Le.nil.toH d,trivial⟩
theorem HH (d:vD H H') (T:Ty):∀ n,ii H H' ((repl (s5 T) n).map .f) (((aG n T.zero).flatMap (bT T)).map .f)
 |0=>trivial
 |n+1=>by
  rw[repl,List.replicate_succ,fM,cC,cC];have h1:=zero_ok (H:=H) (H':=H') d T;have:((s5 T).map .raw).map AV.f=(s5 T).map raw:=by rw[Ac];rfl
  rw[this];exact h1.append (HH d T n)
end pack
structure md (h:bi) (nx:Nat):Prop where
 cells:∀ id ty l,h.get id=af (.cells ty l)->kS h l=ai
 low:∀ id b,h.get id=af b->id<nx
def tN (e:iP) (h:bi):Prop:=∀ t v,e.get t=af v->Ls h v=ai
structure jk (P:Program) (o:Oper) (still:Bool) (e:iP) (h:bi) (nx:Nat) (v:TV) (rd wr:Nat) (h':bi) (nx':Nat):Prop where
 ex:∃ f:Bx,gQ P o (fV e h) (bC h) f/\(∀ y,cq h' v=af y->f.val=y)/\eV (bC h) f.wr f.nw=bC h'/\(∀ n∈f.rd,aN rd (ow n)=ai)/\(∀ n∈f.wr,aN wr (ow n)=ai)/\(∀ n∈f.N,nx<=ow n/\ow n<nx')
 rows:co h h'
 inv:md h' nx'
 grows:nx<=nx'
 st:still=ai->rd=0/\wr=0
def kR {R:Type} (P:Program) (o:Oper) (still:Bool) (e:iP) (h:bi) (nx:Nat) (K:KO R) (r:R):Prop:=
 ∃ v rd wr h' nx',K v rd wr h' nx'=af r/\jk P o still e h nx v rd wr h' nx'
theorem dY {R:Type} {b:Bool} {k:b=ai->Option R} {r:R} (h:chk b k=af r):∃ hb:b=ai,k hb=af r:=by
 cases b with
 |true=>exact⟨rfl,h⟩
 |false=>cases h
theorem pw {R:Type} {b:Bool} {t f:Option R} {r:R} (h:bcase b t f=af r):(b=ai/\t=af r)\/(b=aj/\f=af r):=by
 cases b with
 |true=>exact .inl ⟨rfl,h⟩
 |false=>exact .inr ⟨rfl,h⟩
theorem dK {α R:Type} {o:Option α} {k:α->Option R} {r:R} (h:obind o k=af r):∃ x,o=af x/\k x=af r:=by
 cases o with
 |some x=>exact⟨x,rfl,h⟩
 |none=>cases h
theorem EI {j:Int} {n:Nat} (h:fe j n=ai):0<=j/\j<n/\j.toNat<n:=by
 simp only[fe,c7,fQ,av,be] at h;omega
theorem gQ.envLe {P:Program} {o:Oper} {e e2:EF} {h:HF} {f:Bx} (ht:gQ P o e h f) (hle:∀ t y,.tmp t∈o.op.operands->e t=af y->∃ J,e2 t=af J/\Le J y):gQ P o e2 h f:=by
 intro φ E h' w a h1 h2 Z Y U;refine ht φ E h' w a h1 h2 (λt I y M=>?_) Y U;obtain⟨J,g1,g2⟩:=hle t y I M;exact g2 _ _ _ _ (Z t I J g1)
theorem Ki (h:bi) {v:Value} {u:TV} (hc:cst v=af u):cq h u=af (raw v)/\v.oneCell'=ai/\u.isC=ai:=by
 unfold cst at hc;split at hc<;>cases hc<;>exact⟨rfl,rfl,rfl⟩
theorem vA (h:bi):∀ {z:List Value} {l:List TV},Kh z=af l->cN h l=af (z.map raw)/\(∀ x∈z,x.oneCell'=ai)/\kx l=ai
 |[],l,hc=>by simp only[Kh,ak] at hc;subst hc;exact⟨rfl,by simp,rfl⟩
 |v::r,l,hc=>by
  simp only[Kh] at hc;split at hc
  .rename_i x l' J hl;simp only[ak] at hc;subst hc;obtain⟨h1,h2,Z⟩:=Ki h J;obtain⟨Y,U,M⟩:=vA h hl;refine ⟨o6 h1 Y,λy I=>?_,by simp[kx,Z,M]⟩;rcases bm.1 I with rfl|I
   .exact h2
   .exact U y I
  .cases hc
theorem bM {e:iP} {h:bi} (hi:tN e h) {x:Operand} {v:TV} (I:fO e x=af v):∃ y,mG (Jx e h) x=af y/\cq h v=af y:=by
 cases x with
 |tmp t=>
  simp only[fO] at I;obtain⟨y,J⟩:=qd h v (hi t v I);refine ⟨y,?_,J⟩;simp only[mG];rw[vw];simp only[fV,I,aH,J]
 |const c=>
  simp only[fO] at I;unfold aj2 at I;split at I
  .rename_i vs;split at I
   .rename_i h1;split at I
    .rename_i l hl;simp only[ak] at I;subst I;refine ⟨.agg (vs.toList.map raw),?_,by simp only[cq,(vA h hl).1]⟩;simp only[mG,Fi,h1,bH];rfl
    .cases I
   .cases I
  .rename_i hn;refine ⟨raw c,?_,(Ki h I).1⟩;simp only[mG];unfold Fi;split
   .rename_i vs;exact cR rfl (hn vs)
   .rfl
 |func g=>
  simp only[fO,ak] at I;subst I;exact⟨_,rfl,rfl⟩
 |global g=>
  simp only[fO] at I;cases hg:G g with
  |none=>rw[hg] at I;cases I
  |some cells=>
   rw[hg] at I;simp only[ak] at I;subst I;have hcells:cells=CX:=by
    unfold G at hg;split at hg
    .cases hg;rfl
    .cases hg
   subst hcells;exact⟨_,by simp only[mG,hg];rfl,rfl⟩
theorem yX {e:iP} {h:bi} (hi:tN e h):∀ {xs:List Operand} {l:List TV},FF e xs=af l->∃ J,Xl (Jx e h) xs=af J/\cN h l=af J
 |[],l,I=>by simp only[FF,ak] at I;subst I;exact⟨[],rfl,rfl⟩
 |x::xs,l,I=>by
  simp only[FF] at I;split at I
  .rename_i y U;split at I
   .rename_i ys hys;simp only[ak] at I;subst I;obtain⟨M,h1,h2⟩:=bM hi U;obtain⟨J,Z,Y⟩:=yX hi hys;exact⟨M::J,by simp only[Xl,h1,Z],o6 h2 Y⟩
   .cases I
  .cases I
section ops
variable {R:Type} {P:Program} {o:Oper} {e:iP} {h:bi} {nx:Nat} {K:KO R} {r:R}
theorem jk.pure {s:Zp} {st:Bool} (hinv:md h nx) (hc:du P o.op=af s) {H:n_} (U:H.get=bC h) {k:Nat} {y0:AV} {rdl:List Nat} (M:eS s (Jx e h) H k=af ⟨y0,rdl,[],[],[]⟩) {v:TV} (hv:∀ y,cq h v=af y->Le y0 y) {rd:Nat} (hrd:∀ n∈rdl,aN rd (ow n)=ai) (hst:st=ai->rd=0):jk P o st e h nx v rd 0 h nx:=by
 have ht:=Iv hc M;rw[vw,U] at ht;refine ⟨?_,λ_ _ h=>h,hinv,bW _,λhs=>⟨hst hs,rfl⟩⟩;have key:∀ y,Le y0 y->gQ P o (fV e h) (bC h) ⟨y,rdl,[],jf [],[]⟩:=λy hle=>
  gQ.view ht (λi hi=>by cases hi) λh' _ _=>⟨KP.refl _,hle.toH (vD.refl _)⟩
 cases J:cq h v with
 |none=>exact⟨_,ht,λy I=>by simp at I,by simp[Cg.eff,t7],hrd,by simp[Cg.eff],by simp[Cg.eff]⟩
 |some y=>exact⟨_,key y (hv y J),λY I=>by simpa using I,by simp[t7],hrd,by simp,by simp⟩
theorem kR.q {s:Zp} {st:Bool} (hinv:md h nx) (hc:du P o.op=af s) {k:Nat} {y0:AV} (J:∀ H:n_,H.get=bC h->eS s (Jx e h) H k=rv y0) {v:TV} (hv:∀ y,cq h v=af y->Le y0 y) (hk:K v 0 0 h nx=af r):kR P o st e h nx K r:=by
 obtain⟨H,I⟩:=jM h;exact⟨v,0,0,h,nx,hk,jk.pure hinv hc I (J H I) hv (by simp) λ_=>rfl⟩
theorem dw {y0:AV} {v:TV} (hv:cq h v=af y0):∀ y,cq h v=af y->Le y0 y:=λy I=>by rw[hv] at I;cases I;exact Le.refl _
theorem ah3 {T:Ty} {xs:List T.den} {j:Int} (hj:fe j xs.length=ai) {off sz:Nat} {ag:Bool} {u:TV} (hg:oc 40 T (aJ xs j) off sz ag=af u):
 ∃ y,cq h u=af (.f y)/\(BC.fz (xs.flatMap (bT T))).sub? (j.toNat*T.size+off) sz ag=af (.f y):=by
 obtain⟨h1,y,h2,Y,U⟩:=uz h 40 T _ off sz ag u hg;refine ⟨y,h2,?_⟩;obtain⟨_,_,hlt⟩:=EI hj;have I:xs[j.toNat]? =af (aJ xs j):=by
  unfold aJ;rw[aA,aB hlt];rfl
 obtain⟨q,hq⟩:=E6 (bD T) xs j.toNat _ I;have hlen:=fE (bD T) xs;have hle:(j.toNat+1)*T.size<=xs.length*T.size:=cH _ hlt;rw[iR] at hle;have hl:=bD T (aJ xs j);cases ag with
 |false=>
  obtain⟨M,J⟩:=Y rfl;subst M;simp only[BC.sub?,BC.get];have:(xs.flatMap (bT T))[j.toNat*T.size+off]? =af y:=by
   rw[<- gZ,hq,bO (by omega)];exact J
  rw[this];rfl
 |true=>
  simp only[BC.sub?];rw[aF (bE (by omega)),U rfl,<-List.drop_drop,hq,Eb (by omega),lj (by simp;omega)]
theorem ah4 {T:Ty} {v:T.den} {off sz:Nat} {ag:Bool} {u:TV} (hg:oc 40 T v off sz ag=af u):
 ∃ y,cq h u=af (.f y)/\(BC.fz (bT T v)).sub? off sz ag=af (.f y):=by
 obtain⟨h1,y,h2,U,M⟩:=uz h 40 T _ off sz ag u hg;refine ⟨y,h2,?_⟩;have hl:=bD T v;cases ag with
 |false=>
  obtain⟨J,I⟩:=U rfl;subst J;simp only[BC.sub?,BC.get,I];rfl
 |true=>
  simp only[BC.sub?];rw[aF (bE (by omega)),M rfl]
theorem Wv {l:List TV} {I:List AV} (hl:cN h l=af I) {off sz:Nat} {ag:Bool} {u:TV} (hs:T2 l off sz ag=af u):∃ y,cq h u=af y/\(BC.mx I).sub? off sz ag=af y:=by
 cases ag with
 |false=>
  simp only[T2] at hs;split at hs
  .rename_i h1;have h1:=aw h1;subst h1;obtain⟨y,h2,J⟩:=l_ hl off u hs;exact⟨y,J,by simp only[BC.sub?,BC.get,h2]⟩
  .cases hs
 |true=>
  simp only[T2] at hs;split at hs
  .rename_i h1;simp only[ak] at hs;subst hs;have h2:=E9 sz (Fa off hl);exact⟨.agg ((I.drop off).take sz),by simp only[cq,h2],by simp only[BC.sub?,ib hl,h1,bH]⟩
  .cases hs
theorem QE {v:TV} {n:Nat} {y:AV} (hn:lenOf h v=af n) (I:cq h v=af y):y.slen=af n:=by
 unfold lenOf at hn;split at hn
 .simp only[ak] at hn;subst hn;simp only[cq,ak] at I;subst I;rfl
 .simp only[ak] at hn;subst hn;simp only[cq,ak] at I;subst I;rfl
 .simp only[ak] at hn;subst hn;simp only[cq,ak] at I;subst I;rfl
 .rename_i id;simp only[cq] at I;cases hr:eD h id with
  |none=>rw[hr] at hn;cases hn
  |some q=>
   obtain⟨p,sz,m⟩:=q;rw[hr] at hn I;simp only[ak] at hn I;subst hn;subst I;unfold fA;split
   .rename_i hp;simp only[av,c5] at hp;rw[hp.2];rfl
   .rfl
 .simp only[ak] at hn;subst hn;simp only[cq,ak] at I;subst I;rfl
 .cases hn
theorem DX (a b:List UInt8):r_ ⟨a.toArray⟩ ⟨b.toArray⟩=decide (a=b):=by
 unfold r_;simp only[Bool.beq_eq_decide_eq]
theorem afw {op:BinOp} {u v:TV} {q:TV->Option R} (hk:aj9 op u v q=af r):∃ a b c t,cq h u=af (raw a)/\cq h v=af (raw b)/\uR op a b=af c/\cq h t=af (raw c)/\q t=af r:=by
 unfold aj9 at hk;split at hk
 .rename_i k a k' b;split at hk
  .rename_i hkk;have hkk':k=k':=by simpa using hkk
   subst hkk';refine ⟨.int k a,.int k b,?_⟩;cases op<;>simp only[reduceCtorEq] at hk<;>first
    |cases hk
    |exact⟨_,_,rfl,rfl,(by simp only[uR,cY,bH]<;>rfl),rfl,hk⟩
    |(obtain ⟨hb,hk⟩:=dY hk
      have I:(b==(0:Int))=aj:=by simpa using hb
      exact⟨_,_,rfl,rfl,by simp only[uR,cY,bH,I,cz,ef],rfl,hk⟩)
  .cases hk
 .rename_i a b;refine ⟨.string ⟨kG a⟩,.string ⟨kG b⟩,?_⟩;split at hk
  .exact⟨.bool (decide ((a:List UInt8)=b)),_,rfl,rfl,by simp only[uR,DX],rfl,hk⟩
  .exact⟨.bool (!decide ((a:List UInt8)=b)),_,rfl,rfl,by simp only[uR,DX],rfl,hk⟩
  .cases hk
 .cases hk
theorem XH {T:Ty}:∀ {l:List TV} {xs:List T.den},yN T l=af xs->∀ k,k<l.length->l[k]? =af (.f T (xs.getD k T.zero))
 |[],xs,_,k,hk=>by simp at hk
 |.f S v::r,xs,I,k,hk=>by
  simp only[yN] at I;split at I
  .rename_i x J;split at I
   .rename_i l hl;simp only[ak] at I;subst I;obtain⟨es,ex⟩:=ji J;cases es;subst ex;cases k with
    |zero=>rfl
    |succ k=>simpa using XH hl k (by simpa using hk)
   .cases I
  .cases I
 |.fel _ _ _ _ _::r,xs,I,k,hk=>by simp[yN] at I
 |.pel _ _ _ _::r,xs,I,k,hk=>by simp[yN] at I
 |.ptr _ _::r,xs,I,k,hk=>by simp[yN] at I
 |.csl _ _ _::r,xs,I,k,hk=>by simp[yN] at I
 |.row _::r,xs,I,k,hk=>by simp[yN] at I
 |.emp::r,xs,I,k,hk=>by simp[yN] at I
 |.nil::r,xs,I,k,hk=>by simp[yN] at I
 |.mp _::r,xs,I,k,hk=>by simp[yN] at I
 |.agg _::r,xs,I,k,hk=>by simp[yN] at I
 |.tup _::r,xs,I,k,hk=>by simp[yN] at I
 |.clo _ _::r,xs,I,k,hk=>by simp[yN] at I
 |.undef::r,xs,I,k,hk=>by simp[yN] at I
 |.np::r,xs,I,k,hk=>by simp[yN] at I
 |.anyb::r,xs,I,k,hk=>by simp[yN] at I
theorem XG {l:List TV} {T:Ty} {xs:List T.den} (I:aci l=af ⟨T,xs⟩):∀ k,k<l.length->l[k]? =af (.f T (xs.getD k T.zero)):=by
 unfold aci at I;split at I
 .split at I
  .rename_i l1 hl;simp only[ak] at I;cases I;exact XH hl
  .cases I
 .cases I
variable (hinv:md h nx) (hi:tN e h)
include hinv hi
theorem K_mv {con:FuncId->Option cg} {bX:TypeId->Option Ty} {x:Operand} {st:Bool} (hc:du P o.op=af (.mv x)) (hk:dW con bX (.op (.mv x)) e h nx K=af r):kR P o st e h nx K r:=by
 simp only[dW] at hk;split at hk
 .rename_i v hv;obtain⟨y,h1,h2⟩:=bM hi hv;exact kR.q (k:=0) hinv hc (λH _=>by simp only[eS,h1]) (dw h2) hk
 .cases hk
theorem akx {con:FuncId->Option cg} {bX:TypeId->Option Ty} {c a b:Operand} {st:Bool} (hc:du P o.op=af (.pick c a b)) (hk:dW con bX (.op (.pick c a b)) e h nx K=af r):kR P o st e h nx K r:=by
 simp only[dW] at hk;split at hk
 .rename_i t hv;obtain⟨y,h1,h2⟩:=bM hi hv;simp only[cq,ak] at h2;subst h2;rcases pw hk with ⟨rfl,I⟩|⟨rfl,I⟩
  .split at I
   .rename_i v J;obtain⟨Y,U,M⟩:=bM hi J;exact kR.q (k:=0) hinv hc (λH _=>by simp only[eS,h1,gK,bH,U]) (dw M) I
   .cases I
  .split at I
   .rename_i v J;obtain⟨Y,U,M⟩:=bM hi J;exact kR.q (k:=0) hinv hc (λH _=>by simp only[eS,h1,gK,U,cz,ef]) (dw M) I
   .cases I
 .cases hk
theorem aky {con:FuncId->Option cg} {bX:TypeId->Option Ty} {x:Operand} {st:Bool} (hc:du P o.op=af (.nilc x)) (hk:dW con bX (.op (.nilc x)) e h nx K=af r):kR P o st e h nx K r:=by
 simp only[dW] at hk;split at hk;all_goals first
  |(rename_i hv
    obtain⟨y,h1,h2⟩:=bM hi hv;have I:=h2;simp only[cq,ak] at h2;subst h2;exact kR.q (k:=0) hinv hc (λH _=>by simp only[eS,h1]) (dw I) hk)
  |skip
 .rename_i g cap hv;obtain⟨y,h1,h2⟩:=bM hi hv;have I:=h2;simp only[cq] at h2;split at h2
  .simp only[ak] at h2;subst h2;exact kR.q (k:=0) hinv hc (λH _=>by simp only[eS,h1]) (dw I) hk
  .cases h2
 .cases hk
theorem ao3 {con:FuncId->Option cg} {bX:TypeId->Option Ty} {x:Operand} {st:Bool} (hc:du P o.op=af (.not x)) (hk:dW con bX (.op (.not x)) e h nx K=af r):kR P o st e h nx K r:=by
 simp only[dW] at hk;split at hk
 .rename_i b hv;obtain⟨y,h1,h2⟩:=bM hi hv;simp only[cq,ak] at h2;subst h2;exact kR.q (k:=0) hinv hc (λH _=>by simp only[eS,h1,gK];rfl) (dw rfl) hk
 .cases hk
theorem al5 {con:FuncId->Option cg} {bX:TypeId->Option Ty} {k:IntKind} {x:Operand} {st:Bool} (hc:du P o.op=af (.conv k x)) (hk:dW con bX (.op (.conv k x)) e h nx K=af r):kR P o st e h nx K r:=by
 simp only[dW] at hk;split at hk
 .rename_i k' n hv;obtain⟨y,h1,h2⟩:=bM hi hv;simp only[cq,ak] at h2;subst h2;exact kR.q (k:=0) hinv hc (λH _=>by simp only[eS,h1,gK];rfl) (dw rfl) hk
 .cases hk
theorem aoh {con:FuncId->Option cg} {bX:TypeId->Option Ty} {neg:Bool} {x y:Operand} {st:Bool} (hc:du P o.op=af (.eqb neg x y)) (hk:dW con bX (.op (.eqb neg x y)) e h nx K=af r):kR P o st e h nx K r:=by
 simp only[dW] at hk;split at hk
 .rename_i a b hv I;obtain⟨y,h1,h2⟩:=bM hi hv;obtain⟨U,M,J⟩:=bM hi I;simp only[cq,ak] at h2 J;subst h2;subst J;exact kR.q (k:=0) hinv hc (λH _=>by simp only[eS,h1,M,gK];rfl) (dw rfl) hk
 .cases hk
theorem agp {con:FuncId->Option cg} {bX:TypeId->Option Ty} {neg:Bool} {x:Operand} {st:Bool} (hc:du P o.op=af (.isnil neg x)) (hk:dW con bX (.op (.isnil neg x)) e h nx K=af r):kR P o st e h nx K r:=by
 simp only[dW] at hk;split at hk
 .rename_i hv;obtain⟨y,h1,h2⟩:=bM hi hv;simp only[cq,ak] at h2;subst h2;exact kR.q (k:=0) hinv hc (λH _=>by simp only[eS,h1,Aj,bH];rfl) (dw rfl) hk
 .rename_i hv;obtain⟨y,h1,h2⟩:=bM hi hv;simp only[cq,ak] at h2;subst h2;exact kR.q (k:=0) hinv hc (λH _=>by simp only[eS,h1]) (dw rfl) hk
 .rename_i T xs hv;obtain⟨y,h1,h2⟩:=bM hi hv;simp only[cq,ak] at h2;subst h2;rcases pw hk with ⟨J,I⟩|⟨J,I⟩
  .have J:=aw J;exact kR.q (k:=0) (y0:=.anyb) hinv hc (λH _=>by simp only[eS,h1,gK,J]) (dw rfl) I
  .have J:=ie J;obtain⟨n,hn⟩:=Nat.exists_eq_succ_of_ne_zero J;exact kR.q (k:=0) (y0:=raw (.bool neg)) hinv hc (λH _=>by simp only[eS,h1,gK,hn]) (dw rfl) I
 .rename_i id hv;split at hk
  .rename_i ty T xs hb;obtain⟨y,h1,h2⟩:=bM hi hv;simp only[cq,eD,hb,fA,nB,cz,ef,ak] at h2;subst h2;exact kR.q (k:=0) (y0:=raw (.bool neg)) hinv hc (λH _=>by simp only[eS,h1]) (dw rfl) hk
  .cases hk
 .cases hk
theorem ao8 {con:FuncId->Option cg} {bX:TypeId->Option Ty} {x y:Operand} {st:Bool} (hc:du P o.op=af (.max x y)) (hk:dW con bX (.op (.max x y)) e h nx K=af r):kR P o st e h nx K r:=by
 simp only[dW] at hk;split at hk
 .rename_i k a k' b hv I;obtain⟨y,h1,h2⟩:=bM hi hv;obtain⟨U,M,J⟩:=bM hi I;simp only[cq,ak] at h2 J;subst h2;subst J;split at hk
  .exact kR.q (k:=0) hinv hc (λH _=>by simp only[eS,h1,M,gK];rfl) (dw rfl) hk
  .cases hk
 .cases hk
theorem ao7 {con:FuncId->Option cg} {bX:TypeId->Option Ty} {x y:Operand} {st:Bool} (hc:du P o.op=af (.min x y)) (hk:dW con bX (.op (.min x y)) e h nx K=af r):kR P o st e h nx K r:=by
 simp only[dW] at hk;split at hk
 .rename_i k a k' b hv I;obtain⟨y,h1,h2⟩:=bM hi hv;obtain⟨U,M,J⟩:=bM hi I;simp only[cq,ak] at h2 J;subst h2;subst J;split at hk
  .exact kR.q (k:=0) hinv hc (λH _=>by simp only[eS,h1,M,gK];rfl) (dw rfl) hk
  .cases hk
 .cases hk
theorem aoe {con:FuncId->Option cg} {bX:TypeId->Option Ty} {off:Nat} {x:Operand} {st:Bool} (hc:du P o.op=af (.fad off x)) (hk:dW con bX (.op (.fad off x)) e h nx K=af r):kR P o st e h nx K r:=by
 simp only[dW] at hk;split at hk;all_goals first
  |(rename_i hv
    obtain⟨y,h1,h2⟩:=bM hi hv;simp only[cq,ak] at h2;subst h2;exact kR.q (k:=0) hinv hc (λH _=>by simp only[eS,h1,px]) (dw rfl) hk)
  |cases hk
theorem aod {con:FuncId->Option cg} {bX:TypeId->Option Ty} {off sz:Nat} {ag:Bool} {x:Operand} {st:Bool} (hc:du P o.op=af (.fld off sz ag x)) (hk:dW con bX (.op (.fld off sz ag x)) e h nx K=af r):kR P o st e h nx K r:=by
 simp only[dW] at hk;split at hk
 .rename_i l hv;split at hk
  .rename_i u hs;obtain⟨y,h1,h2⟩:=bM hi hv;simp only[cq] at h2;split at h2
   .rename_i U hl;simp only[ak] at h2;subst h2;obtain⟨y,J,I⟩:=Wv hl hs;exact kR.q (k:=0) hinv hc (λH _=>by simp only[eS,h1,I]) (dw J) hk
   .cases h2
  .cases hk
 .rename_i T v hv;split at hk
  .cases hk
  .rename_i M;split at hk
   .rename_i u hs;obtain⟨y,h1,h2⟩:=bM hi hv;simp only[cq,ak] at h2;rw[qJ T v (by simpa using M)] at h2;subst h2;obtain⟨y,J,I⟩:=ah4 (h:=h) hs;exact kR.q (k:=0) hinv hc (λH _=>by simp only[eS,h1,I]) (dw J) hk
   .cases hk
 .cases hk
theorem aob {con:FuncId->Option cg} {bX:TypeId->Option Ty} {n sz:Nat} {ag:Bool} {x i:Operand} {st:Bool} (hc:du P o.op=af (.idx n sz ag x i)) (hk:dW con bX (.op (.idx n sz ag x i)) e h nx K=af r):kR P o st e h nx K r:=by
 simp only[dW] at hk;split at hk
 .rename_i v0 k j hv U;split at hk
  .rename_i T xs hA;obtain⟨hb,hk⟩:=dY hk;cases ag with
   |true=>cases hA
   |false=>
   simp only[am5] at hA;split at hA
   .rename_i hsz;simp only[av,eA] at hsz;have hsz1:=aw hsz.1;subst hsz1;split at hA
    .rename_i l hl;split at hA
     .rename_i hn;have hn:=aw hn;obtain⟨y,h1,h2⟩:=bM hi hv;obtain⟨y2,Y,J⟩:=bM hi U;simp only[cq,ak] at J;subst J;have hj:j.toNat<l.length:=by
       simp only[av,c7,fQ,be] at hb;omega
      have hg:=XG hA j.toNat hj;obtain⟨he,_⟩:=Kk hl h2;obtain⟨z,I,M⟩:=l_ he j.toNat _ hg;have M:cq h (.f T (aJ xs j))=af z:=M;refine kR.q (k:=0) hinv hc (λH _=>?_) (dw M) hk;cases v0 with
      |agg q=>
       simp only[cq] at h2;split at h2
       .rename_i l' _;simp only[ak] at h2;subst h2;have I:l'[j.toNat]? =af z:=I;simp only[eS,h1,Y,gK,hb,bH,BC.sub?,BC.get,Nat.mul_one,I]
       .cases h2
      |f S u=>
       have Z:S.one=aj:=by
        have:=hsz.2;simpa[TV.isC] using this
       simp only[cq,ak] at h2;rw[qJ S u Z] at h2;subst h2;have I:((bT S u).map AV.f)[j.toNat]? =af z:=I;rw[ba] at I;simp only[eS,h1,Y,gK,hb,bH,BC.sub?,BC.get,Nat.mul_one,I]
      |_=>simp[TV.cs,TV.isC] at hl hsz
     .cases hA
    .cases hA
   .cases hA
  .split at hk
   .rename_i l;obtain⟨hb,hk⟩:=dY hk;split at hk
    .rename_i u hs;obtain⟨y,h1,h2⟩:=bM hi hv;obtain⟨y2,Y,J⟩:=bM hi U;simp only[cq,ak] at J;subst J;simp only[cq] at h2;split at h2
     .rename_i l' hl;simp only[ak] at h2;subst h2;obtain⟨y,h3,h4⟩:=Wv hl hs;exact kR.q (k:=0) hinv hc (λH _=>by simp only[eS,h1,Y,gK,hb,bH,h4]) (dw h3) hk
     .cases h2
    .cases hk
   .rename_i T v _;split at hk
    .cases hk
    .rename_i Z;obtain⟨hb,hk⟩:=dY hk;split at hk
     .rename_i u hs;obtain⟨y,h1,h2⟩:=bM hi hv;obtain⟨y2,Y,J⟩:=bM hi U;simp only[cq,ak] at J h2;subst J;rw[qJ T v (by simpa using Z)] at h2;subst h2;obtain⟨y,h3,h4⟩:=ah4 (h:=h) hs;exact kR.q (k:=0) hinv hc (λH _=>by simp only[eS,h1,Y,gK,hb,bH,h4]) (dw h3) hk
     .cases hk
   .cases hk
 .cases hk
theorem al3 {con:FuncId->Option cg} {bX:TypeId->Option Ty} {n sz:Nat} {x i:Operand} {st:Bool} (hc:du P o.op=af (.iada n sz x i)) (hk:dW con bX (.op (.iada n sz x i)) e h nx K=af r):kR P o st e h nx K r:=by
 simp only[dW] at hk;split at hk
 .rename_i id off k j hv I;obtain⟨y,h1,h2⟩:=bM hi hv;obtain⟨U,M,J⟩:=bM hi I;simp only[cq,ak] at J h2;subst J;subst h2;split at hk
  .obtain⟨hb,hk⟩:=dY hk;exact kR.q (k:=0) (y0:=.ptr (nm id) (off+j.toNat*sz)) hinv hc (λH _=>by simp only[eS,h1,M,gK,hb,bH]) (dw (by simp only[cq];rw[Nat.add_comm])) hk
  .obtain⟨hb,hk⟩:=dY hk;exact kR.q (k:=0) hinv hc (λH _=>by simp only[eS,h1,M,gK,hb,bH]) (dw rfl) hk
 .cases hk
theorem aof {con:FuncId->Option cg} {bX:TypeId->Option Ty} {i:Nat} {x:Operand} {st:Bool} (hc:du P o.op=af (.ext x i)) (hk:dW con bX (.op (.ext x i)) e h nx K=af r):kR P o st e h nx K r:=by
 simp only[dW] at hk;split at hk
 .rename_i l hv;split at hk
  .rename_i u hs;obtain⟨y,h1,h2⟩:=bM hi hv;simp only[cq] at h2;split at h2
   .rename_i M hl;simp only[ak] at h2;subst h2;obtain⟨y,J,I⟩:=l_ hl i u hs;exact kR.q (k:=0) hinv hc (λH _=>by simp only[eS,h1,J]) (dw I) hk
   .cases h2
  .cases hk
 .cases hk
theorem aoa {con:FuncId->Option cg} {bX:TypeId->Option Ty} {x:Operand} {st:Bool} (hc:du P o.op=af (.len x)) (hk:dW con bX (.op (.len x)) e h nx K=af r):kR P o st e h nx K r:=by
 simp only[dW] at hk;split at hk
 .rename_i v hv;split at hk
  .rename_i n hn;obtain⟨y,h1,h2⟩:=bM hi hv;have I:=QE hn h2;exact kR.q (k:=0) hinv hc (λH _=>by simp only[eS,h1,I];rfl) (dw rfl) hk
  .cases hk
 .cases hk
theorem al1 {con:FuncId->Option cg} {bX:TypeId->Option Ty} {x:Operand} {st:Bool} (hc:du P o.op=af (.lens x)) (hk:dW con bX (.op (.lens x)) e h nx K=af r):kR P o st e h nx K r:=by
 simp only[dW] at hk;split at hk
 .rename_i s hv;obtain⟨y,h1,h2⟩:=bM hi hv;simp only[cq,ak] at h2;subst h2;exact kR.q (k:=0) hinv hc (λH _=>by simp only[eS,h1,gK];rfl) (dw rfl) hk
 .cases hk
theorem akw {con:FuncId->Option cg} {bX:TypeId->Option Ty} {x i:Operand} {st:Bool} (hc:du P o.op=af (.sidx x i)) (hk:dW con bX (.op (.sidx x i)) e h nx K=af r):kR P o st e h nx K r:=by
 simp only[dW] at hk;split at hk
 .rename_i s k j hv I;obtain⟨hj,hk⟩:=dY hk;obtain⟨y,h1,h2⟩:=bM hi hv;obtain⟨Z,Y,J⟩:=bM hi I;simp only[cq,ak] at h2 J;subst h2;subst J;obtain⟨U,j1,M⟩:=EI hj;have e1:c7 0 j=ai:=by simp[c7,U]
  have e2:(⟨kG s⟩:ByteArray).data.toList[j.toNat]? =af (List.getD s j.toNat 0):=by
   show s[j.toNat]? =_;rw[aA,aB M];rfl
  exact kR.q (k:=0) (y0:=raw (.int .u8 (aO (List.getD s j.toNat 0).toNat))) hinv hc (λH _=>by simp only[eS,h1,Y,gK,e1,bH,e2];rfl) (dw rfl) hk
 .cases hk
theorem aoc {con:FuncId->Option cg} {bX:TypeId->Option Ty} {sz:Nat} {x i:Operand} {st:Bool} (hc:du P o.op=af (.iad sz x i)) (hk:dW con bX (.op (.iad sz x i)) e h nx K=af r):kR P o st e h nx K r:=by
 simp only[dW] at hk;split at hk
 .rename_i id k j hv I;split at hk
  .rename_i ty p T xs hb;split at hk
   .rename_i hs;have hs:=aw hs;obtain⟨hj,hk⟩:=dY hk;obtain⟨y,h1,h2⟩:=bM hi hv;obtain⟨Z,U,J⟩:=bM hi I;simp only[cq,ak] at J;subst J;obtain⟨j0,j1,j2⟩:=EI hj;have hne:¬((p&&xs.length==0)=ai):=by
     simp only[av,c5];omega
    simp only[cq,eD,hb,fA,ay hne,ak] at h2;subst h2;have Y:(T.size==sz&&c7 0 j&&fQ j xs.length)=ai:=by
     simp only[fe,av] at hj;simp[hs,hj.1,hj.2]
    exact kR.q (k:=0) hinv hc (λH _=>by simp only[eS,h1,U,gK,Y,bH,dv]) (dw rfl) hk
   .cases hk
  .cases hk
 .rename_i T xs k j hv I;split at hk
  .rename_i hs;have hs:=aw hs;obtain⟨hj,hk⟩:=dY hk;obtain⟨y,h1,h2⟩:=bM hi hv;obtain⟨Z,U,J⟩:=bM hi I;simp only[cq,ak] at J h2;subst J;subst h2;have M:(c7 0 j&&fQ j (al xs))=ai:=hj;exact kR.q (k:=0) hinv hc (λH _=>by simp only[eS,h1,U,gK,M,bH,dv,hs]) (dw rfl) hk
  .cases hk
 .rename_i id sz' n k j hv I;split at hk
  .rename_i hs;have hs:=aw hs;subst hs;obtain⟨hj,hk⟩:=dY hk;obtain⟨y,h1,h2⟩:=bM hi hv;obtain⟨Z,U,J⟩:=bM hi I;simp only[cq,ak] at J h2;subst J;subst h2;have M:(sz'==sz'&&c7 0 j&&fQ j n)=ai:=by simp only[av] at hj ⊢;exact⟨⟨cY _,hj.1⟩,hj.2⟩
   exact kR.q (k:=0) hinv hc (λH _=>by simp only[eS,h1,U,gK,M,bH]) (dw rfl) hk
  .cases hk
 .cases hk
theorem ao6 {con:FuncId->Option cg} {bX:TypeId->Option Ty} {f:FuncId} {caps:List Operand} {st:Bool} (hc:du P o.op=af (.mkf f caps)) (hk:dW con bX (.op (.mkf f caps)) e h nx K=af r):kR P o st e h nx K r:=by
 simp only[dW] at hk;split at hk
 .rename_i l hv;obtain⟨I,h1,h2⟩:=yX hi hv;exact kR.q (k:=0) hinv hc (y0:=.clo f I) (λH _=>by simp only[eS,h1]) (dw (by simp only[cq,h2])) hk
 .cases hk
theorem aol {con:FuncId->Option cg} {bX:TypeId->Option Ty} {op:BinOp} {x y:Operand} {st:Bool} (hc:du P o.op=af (.bin op x y)) (hk:dW con bX (.op (.bin op x y)) e h nx K=af r):kR P o st e h nx K r:=by
 simp only[dW] at hk;split at hk
 .rename_i u v hv I;obtain⟨a,b,c,t,h1,h2,h3,h4,Z⟩:=afw (h:=h) hk;obtain⟨y,Y,U⟩:=bM hi hv;obtain⟨y2,M,J⟩:=bM hi I;rw[h1] at U;cases U;rw[h2] at J;cases J;simp only[raw] at Y M;exact kR.q (k:=0) hinv hc (λH _=>by simp only[eS,Y,M,h3]) (dw h4) Z
 .cases hk
end ops
def mJ:iu->Option (Bool×Nat×Nat)
 |.rows _ p T xs=>af (p,T.size,xs.length)
 |.dead p sz n=>af (p,sz,n)
 |_=>ah
theorem bU (h:bi) (i:Nat):eD h i=(h.get i).bind mJ:=by
 unfold eD;cases h.get i with
 |none=>rfl
 |some b=>cases b<;>rfl
theorem co.refl (h:bi):co h h:=λ_ _ h=>h
theorem co.trans {a b c:bi} (h1:co a b) (h2:co b c):co a c:=λi r h=>h2 i r (h1 i r h)
theorem co.set {h:bi} {i:Nat} {b:iu} (hb:∀ r,eD h i=af r->mJ b=af r):co h (h.set i (af b)):=λj r hj=>by
 rw[bU,PT.get_set];by_cases e:j=i
 .subst e;rw[aF rfl];exact hb r hj
 .rw[ay e,<-bU];exact hj
theorem MC {b:iu} {r:Bool×Nat×Nat} (h:mJ b=af r):mJ (vm b)=af r:=by cases b<;>first|exact h|cases h
theorem iZ (m:Nat) (h:bi) (i:Nat):(eH m h).get i=if aN m i then (h.get i).map vm else h.get i:=by
 unfold eH;split
 .rename_i hm;have:=aw hm;subst this;simp
 .rw[PT.get_updI];simp only[Nat.one_mul,dv];cases h.get i with
  |none=>simp
  |some b=>simp only[ch];split<;>rfl
theorem co.kill (m:Nat) (h:bi):co h (eH m h):=λi r hr=>by
 rw[bU] at hr ⊢;rw[iZ];split
 .cases hb:h.get i with
  |none=>rw[hb] at hr;cases hr
  |some b=>rw[hb] at hr;exact MC hr
 .exact hr
theorem md.set {h:bi} {nx nx' i:Nat} {b:iu} (hi:md h nx) (hr:co h (h.set i (af b))) (hlt:i<nx') (hle:nx<=nx') (hb:∀ ty l,b= .cells ty l->kS (h.set i (af b)) l=ai):md (h.set i (af b)) nx':=by
 refine ⟨λj ty l hj=>?_,λj c hj=>?_⟩
 .rw[PT.get_set] at hj;split at hj
  .simp only[ak] at hj;exact hb ty l hj
  .exact iW hr l (hi.cells j ty l hj)
 .rw[PT.get_set] at hj;split at hj
  .rename_i e;subst e;exact hlt
  .exact dD (hi.low j c hj) hle
theorem md.kill {h:bi} {nx:Nat} (hi:md h nx) (m:Nat):md (eH m h) nx:=by
 refine ⟨λj ty l hj=>?_,λj c hj=>?_⟩
 .rw[iZ] at hj;refine iW (co.kill m h) l (hi.cells j ty l ?_);split at hj
  .cases hb:h.get j with
   |none=>rw[hb] at hj;cases hj
   |some b=>rw[hb] at hj;cases b<;>simp[vm] at hj
  .exact hj
 .rw[iZ] at hj;split at hj
  .cases hb:h.get j with
   |none=>rw[hb] at hj;cases hj
   |some b=>exact hi.low j b hb
  .exact hi.low j c hj
theorem Jy {h h':bi} (hr:co h h') {b:iu} (hb:∀ ty l,b= .cells ty l->kS h l=ai):kC h' b=kC h b:=by
 cases b with
 |cells ty l=>
  obtain⟨I,hl⟩:=fy h l (hb ty l rfl);simp only[kC,hl,hP hr l I hl]
 |_=>rfl
theorem YC {h h':bi} {nx i:Nat} (hi:md h nx) (hr:co h h') (hg:h'.get i=h.get i):bC h' (nm i)=bC h (nm i):=by
 rw[bK,bK,hg];cases hb:h.get i with
 |none=>rfl
 |some b=>exact Jy hr λty l e=>hi.cells i ty l (by rw[hb,e])
theorem wP (h:bi) {n:Nat} (hn:¬∃ i,n=nm i):bC h n=ah:=by
 unfold bC;rw[ay];intro h2;exact hn ⟨n/2,by unfold nm;omega⟩
theorem kP {h h':bi} {nx:Nat} (hi:md h nx) (hr:co h h') {n:Nat} (hg:∀ i,n=nm i->h'.get i=h.get i):bC h' n=bC h n:=by
 by_cases hn:∃ i,n=nm i
 .obtain⟨i,rfl⟩:=hn;exact YC hi hr (hg i rfl)
 .rw[wP h hn,wP h' hn]
def FJ (m:Nat):List Nat:=(acd m).map nm
theorem nP {m n:Nat}:n∈FJ m↔∃ i,n=nm i/\aN m i=ai:=by
 unfold FJ;rw[di];constructor
 .rintro⟨i,h1,rfl⟩;exact⟨i,rfl,MO.1 h1⟩
 .rintro⟨i,rfl,h1⟩;exact⟨i,MO.2 h1,rfl⟩
theorem lE {m i:Nat}:nm i∈FJ m↔aN m i=ai:=by
 rw[nP];constructor
 .rintro⟨j,h1,h2⟩;rw[kT h1];exact h2
 .exact λh=>⟨i,rfl,h⟩
def dT (h:bi) (m:Nat):Prop:=∀ i,aN m i=ai->∃ ty p T xs,h.get i=af (.rows ty p T xs)
theorem dT.zero (h:bi):dT h 0:=λi hi=>by simp at hi
theorem dT.or {h:bi} {a b:Nat} (I:dT h a) (hb:dT h b):dT h (a|||b):=λi hi=>by
 rw[bt,iV] at hi;exact hi.elim (I i) (hb i)
theorem nu {h:bi} {T:Ty} {v:TV} {x:T.den} {m:Nat} (I:iL h T v=af (x,m)):dT h m:=by
 cases v with
 |f S v=>
  simp only[iL] at I;split at I
  .simp only[ak,aD] at I;rw[<- I.2];exact dT.zero h
  .cases I
 |emp=>
  simp only[iL] at I;split at I
  .simp only[ak,aD] at I;rw[<- I.2];exact dT.zero h
  .cases I
 |nil=>
  simp only[iL] at I;split at I
  .simp only[ak,aD] at I;rw[<- I.2];exact dT.zero h
  .cases I
 |row id=>
  simp only[iL] at I;split at I
  .rename_i ty p S xs hb;split at I
   .simp only[ak,aD] at I;rw[<- I.2];intro i hi;have:=bY.1 hi;subst this;exact⟨ty,p,S,xs,hb⟩
   .cases I
  .cases I
 |fel T xs j hj off=>simp[iL] at I
 |pel id sz j off=>simp[iL] at I
 |ptr id off=>simp[iL] at I
 |csl id off z=>simp[iL] at I
 |mp id=>simp[iL] at I
 |rtl id J=>simp[iL] at I
 |agg q=>simp[iL] at I
 |tup q=>simp[iL] at I
 |clo f q=>simp[iL] at I
 |undef=>simp[iL] at I
 |np=>simp[iL] at I
 |anyb=>simp[iL] at I
theorem vg {h:bi}:∀ (n:Nat) (T:Ty) (l:List TV) (x:T.den) (m:Nat) (r:List TV),e9 h n T l=af (x,m,r)->dT h m
 |0,_,_,_,_,_,hp=>by simp[e9] at hp
 |n+1,.st t,l,x,m,r,hp=>vg n t l x m r hp
 |n+1,.pr a b,l,x,m,r,hp=>by
  simp only[e9] at hp;split at hp
  .rename_i x1 m1 r1 h1;split at hp
   .rename_i x2 m2 r2 h2;simp only[ak,aD] at hp;obtain⟨_,rfl,_⟩:=hp;exact (vg n a l x1 m1 r1 h1).or (vg n b r1 x2 m2 r2 h2)
   .cases hp
  .cases hp
 |n+1,.un,l,x,m,r,hp=>by
  simp only[e9,ak,aD] at hp;obtain⟨_,rfl,_⟩:=hp;exact dT.zero h
 |n+1,.ex,l,x,m,r,hp=>by
  simp only[e9] at hp;split at hp
  .rename_i x1 m1 r1 h1;simp only[ak,aD] at hp;obtain⟨_,rfl,_⟩:=hp;exact vg n M2 l x1 m1 r1 h1
  .cases hp
 |n+1,.sm,l,x,m,r,hp=>by
  simp only[e9] at hp;split at hp
  .rename_i x1 m1 r1 h1;simp only[ak,aD] at hp;obtain⟨_,rfl,_⟩:=hp;exact vg n MA l x1 m1 r1 h1
  .cases hp
 |n+1,.int k,l,x,m,r,hp=>by
  simp only[e9] at hp;split at hp
  .split at hp
   .rename_i x1 m1 h1;simp only[ak,aD] at hp;obtain⟨_,rfl,_⟩:=hp;exact nu h1
   .cases hp
  .cases hp
 |n+1,.bool,l,x,m,r,hp=>by
  simp only[e9] at hp;split at hp
  .split at hp
   .rename_i x1 m1 h1;simp only[ak,aD] at hp;obtain⟨_,rfl,_⟩:=hp;exact nu h1
   .cases hp
  .cases hp
 |n+1,.str,l,x,m,r,hp=>by
  simp only[e9] at hp;split at hp
  .split at hp
   .rename_i x1 m1 h1;simp only[ak,aD] at hp;obtain⟨_,rfl,_⟩:=hp;exact nu h1
   .cases hp
  .cases hp
 |n+1,.sl t,l,x,m,r,hp=>by
  simp only[e9] at hp;split at hp
  .split at hp
   .rename_i x1 m1 h1;simp only[ak,aD] at hp;obtain⟨_,rfl,_⟩:=hp;exact nu h1
   .cases hp
  .cases hp
theorem XF {h:bi} {T:Ty} {v:TV} {x:T.den} {m:Nat} (I:DY h T v=af (x,m)):dT h m:=by
 cases v with
 |agg l=>
  simp only[DY] at I;split at I
  .cases I
  .split at I
   .rename_i x1 m1 h1;simp only[ak,aD] at I;obtain⟨_,rfl⟩:=I;exact vg 40 T l x1 m1 [] h1
   .cases I
 |f S v=>exact nu (v:=.f S v) I
 |fel T xs j hj off=>exact nu (v:=.fel T xs j hj off) I
 |pel id sz j off=>exact nu (v:=.pel id sz j off) I
 |ptr id off=>exact nu (v:=.ptr id off) I
 |csl id off z=>exact nu (v:=.csl id off z) I
 |row id=>exact nu (v:=.row id) I
 |emp=>exact nu (v:=.emp) I
 |nil=>exact nu (v:=.nil) I
 |mp id=>exact nu (v:=.mp id) I
 |rtl id J=>exact nu (v:=.rtl id J) I
 |tup q=>exact nu (v:=.tup q) I
 |clo g q=>exact nu (v:=.clo g q) I
 |undef=>exact nu (v:=.undef) I
 |np=>exact nu (v:=.np) I
 |anyb=>exact nu (v:=.anyb) I
theorem N6 {h:bi} {T:Ty}:∀ (n:Nat) (l:List TV) (xs:List T.den) (m:Nat),yV h T n l=af (xs,m)->dT h m
 |0,[],xs,m,hp=>by simp only[yV,ak,aD] at hp;rw[<- hp.2];exact dT.zero h
 |0,_::_,xs,m,hp=>by simp[yV] at hp
 |n+1,l,xs,m,hp=>by
  simp only[yV] at hp;split at hp
  .rename_i x1 m1 r1 h1;split at hp
   .rename_i x2 m2 h2;simp only[ak,aD] at hp;obtain⟨_,rfl⟩:=hp;exact (vg 40 T l x1 m1 r1 h1).or (N6 n r1 x2 m2 h2)
   .cases hp
  .cases hp
theorem Ad {h:bi} {u:TV}:∀ (n:Nat) (T:Ty) (v:T.den) (off sz:Nat) (z:T.den) (m:Nat),gU h u n T v off sz=af (z,m)->dT h m
 |0,_,_,_,_,_,_,hg=>by simp[gU] at hg
 |n+1,.st t,v,off,sz,z,m,hg=>by
  simp only[gU] at hg;split at hg
  .rename_i q hq;split at hq
   .simp only[ak] at hg;subst hg;exact XF hq
   .cases hq
  .exact Ad n t v off sz z m hg
 |n+1,.pr a b,v,off,sz,z,m,hg=>by
  simp only[gU] at hg;split at hg
  .split at hg
   .rename_i I m1 h1;simp only[ak,aD] at hg;obtain⟨_,rfl⟩:=hg;exact Ad n a v.1 off sz I m1 h1
   .cases hg
  .split at hg
   .rename_i I m1 h1;simp only[ak,aD] at hg;obtain⟨_,rfl⟩:=hg;exact Ad n b v.2 _ sz I m1 h1
   .cases hg
 |n+1,.un,v,off,sz,z,m,hg=>by simp[gU] at hg
 |n+1,.ex,v,off,sz,z,m,hg=>by
  simp only[gU] at hg;split at hg
  .rename_i q hq;split at hq
   .simp only[ak] at hg;subst hg;exact XF hq
   .cases hq
  .split at hg
   .rename_i I m1 h1;simp only[ak,aD] at hg;obtain⟨_,rfl⟩:=hg;exact Ad n M2 _ off sz I m1 h1
   .cases hg
 |n+1,.sm,v,off,sz,z,m,hg=>by
  simp only[gU] at hg;split at hg
  .rename_i q hq;split at hq
   .simp only[ak] at hg;subst hg;exact XF hq
   .cases hq
  .split at hg
   .rename_i I m1 h1;simp only[ak,aD] at hg;obtain⟨_,rfl⟩:=hg;exact Ad n MA _ off sz I m1 h1
   .cases hg
 |n+1,.int k,v,off,sz,z,m,hg=>by
  simp only[gU] at hg;split at hg
  .exact nu hg
  .cases hg
 |n+1,.bool,v,off,sz,z,m,hg=>by
  simp only[gU] at hg;split at hg
  .exact nu hg
  .cases hg
 |n+1,.str,v,off,sz,z,m,hg=>by
  simp only[gU] at hg;split at hg
  .exact nu hg
  .cases hg
 |n+1,.sl t,v,off,sz,z,m,hg=>by
  simp only[gU] at hg;split at hg
  .exact nu hg
  .cases hg
theorem tW {h:bi} {m i:Nat} (hm:dT h m) (hb:aN m i=ai):∃ p sz n,(eH m h).get i=af (.dead p sz n):=by
 obtain⟨ty,p,T,xs,h1⟩:=hm i hb;exact⟨p,T.size,xs.length,by rw[iZ,aF hb,h1];rfl⟩
section ops
variable {R:Type} {P:Program} {o:Oper} {e:iP} {h:bi} {nx:Nat} {K:KO R} {r:R}
theorem ik (n:Nat) (b:xh):jf [(n,b)] n=af b:=by simp[jf]
theorem jk.mk' {s:Zp} (hc:du P o.op=af s) {H:n_} (hH:H.get=bC h) {k:Nat} {y0:AV} {rdl wrl N:List Nat} {nw:NW} (ha:eS s (Jx e h) H k=af ⟨y0,rdl,wrl,nw,N⟩) {v:TV} {h':bi} {nx' rd wr:Nat} (wr':List Nat)
 (hsub:∀ i∈wrl,i∈wr') (hsame:∀ n,n∉wr'->bC h' n=bC h n)
 (hdom:∀ i∈wr',∀ b',bC h' i=af b'->∃ b,(if i∈wrl then jf nw i else bC h i)=af b)
 (hblk:∀ (Y H2:HF),vD Y H2->(∀ i∈wrl,Y i=jf nw i)->(∀ i∈wr',i∉wrl->Y i=bC h i)->(∀ i∈wr',H2 i=bC h' i)->(∀ i∈wr',∀ b b',Y i=af b->H2 i=af b'->jX Y H2 b b')/\∀ y,cq h' v=af y->lP Y H2 y0 y)
 (hrd:∀ n∈rdl,aN rd (ow n)=ai) (hwr:∀ n∈wr',aN wr (ow n)=ai) (hN:∀ n∈N,nx<=ow n/\ow n<nx') (hrows:co h h') (hinv':md h' nx') (hg:nx<=nx'):jk P o aj e h nx v rd wr h' nx':=by
 have ht:=Iv hc ha;rw[vw,hH] at ht;refine ⟨?_,hrows,hinv',hg,λhs=>by cases hs⟩;have base:∀ (val:AV),(∀ y,cq h' v=af y->y=val)->(cq h' v=ah->val=y0)->gQ P o (fV e h) (bC h) ⟨val,rdl,wr',bC h',N⟩:=by
  intro val hval hnone;refine gQ.view ht (λi hi=>.inl (hsub i hi)) λh1 hr1 Z=>?_
  have hd:vD (eV h1 wrl (jf nw)) (eV h1 wr' (bC h')):=by
   intro i b hb;unfold eV at hb ⊢;by_cases hi:i∈wr'
   .rw[aF hi] at hb;obtain⟨b0,J⟩:=hdom i hi b hb;refine ⟨b0,?_⟩;by_cases U:i∈wrl
    .rw[aF U] at J ⊢;exact J
    .rw[ay U] at J ⊢;rw[Z i hi];exact J
   .rw[ay hi] at hb;rw[ay (λU=>hi (hsub i U))];exact⟨b,hb⟩
  obtain⟨q1,q2⟩:=hblk _ _ hd (λi hi=>by unfold eV;rw[aF hi]) (λi hi U=>by unfold eV;rw[ay U];exact Z i hi) (λi hi=>by unfold eV;rw[aF hi]);refine ⟨⟨hd,λi b b' hb M=>?_⟩,?_⟩
  .by_cases hi:i∈wr'
   .exact q1 i hi b b' hb M
   .unfold eV at hb M;rw[ay (λU=>hi (hsub i U))] at hb;rw[ay hi,hb] at M;cases M;exact jX.refl hd b
  .cases hv:cq h' v with
   |none=>rw[hnone hv];exact lP.refl hd _
   |some y=>rw[<- hval y hv];exact q2 y hv
 have hu:eV (bC h) wr' (bC h')=bC h':=by
  funext n;unfold eV;split
  .rfl
  .rename_i hn;exact (hsame n hn).symm
 cases hv:cq h' v with
 |none=>exact⟨_,base y0 (λy I=>by rw[hv] at I;cases I) (λ_=>rfl),λy I=>(by cases I),hu,hrd,hwr,hN⟩
 |some y=>exact⟨_,base y (λy' I=>by rw[hv] at I;cases I;rfl) (λhn=>by rw[hv] at hn;cases hn),λy' I=>by cases I;rfl,hu,hrd,hwr,hN⟩
theorem Dg (hi:tN e h):∀ (parts:List (Nat×Nat×Operand)) (cells cs:List TV) (cells':List AV),Js cells e parts=af cs->cN h cells=af cells'->∃ cs',zA cells' (Jx e h) parts=af cs'/\cN h cs=af cs'/\(kx cells=ai->kx cs=ai)
 |[],cells,cs,cells',hf,he=>by simp only[Js,ak] at hf;subst hf;exact⟨cells',rfl,he,id⟩
 |(off,sz,x)::rest,cells,cs,cells',hf,he=>by
  simp only[Js] at hf;split at hf
  .rename_i v hv;split at hf
   .rename_i q hq;split at hf
    .rename_i hc;simp only[av,c5] at hc;obtain⟨y,h1,h2⟩:=bM hi hv;obtain⟨M,h4⟩:=Kk hq h2;obtain⟨cs',Z,Y,U⟩:=Dg hi rest (splice cells off q) cs (splice cells' off y.cs) hf (sG off he M);refine ⟨cs',?_,Y,λI=>U ?_⟩
     .simp only[zA,h1];rw[aF,Z];simp only[av,c5];exact⟨⟨by rw[ib M];exact hc.1,by rw[ib he];exact hc.2⟩,sa M h4⟩
     .clear Z Y U hf;have app:∀ a b:List TV,kx a=ai->kx b=ai->kx (a++b)=ai:=by
       intro a b I hb;induction a with
       |nil=>exact hb
       |cons z r J=>simp only[kx,av,gu] at I ⊢;exact⟨I.1,J I.2⟩
      have tk:∀ (a:List TV) n,kx a=ai->kx (a.take n)=ai:=by
       intro a;induction a with
       |nil=>intro n h;simp[kx]
       |cons z r J=>
        intro n h;cases n with
        |zero=>rfl
        |succ n=>simp only[kx,av,vW] at h ⊢;exact⟨h.1,J n h.2⟩
      have dr:∀ (a:List TV) n,kx a=ai->kx (a.drop n)=ai:=by
       intro a;induction a with
       |nil=>intro n h;simp[kx]
       |cons z r J=>
        intro n h;cases n with
        |zero=>exact h
        |succ n=>simp only[kx,av,vY] at h ⊢;exact J n h.2
      unfold splice;exact app _ _ (app _ _ (tk _ _ I) h4) (dr _ _ I)
    .cases hf
   .cases hf
  .cases hf
variable (hinv:md h nx) (hi:tN e h)
include hinv hi
theorem agq {con:FuncId->Option cg} {bX:TypeId->Option Ty} {z:List Value} {parts:List (Nat×Nat×Operand)} {st:Bool} (hc:du P o.op=af (.build z parts)) (hk:dW con bX (.op (.build z parts)) e h nx K=af r):kR P o st e h nx K r:=by
 simp only[dW] at hk;split at hk
 .rename_i l hl;split at hk
  .rename_i cs hf;obtain⟨h1,_,_⟩:=vA h hl;obtain⟨cs',h2,J,_⟩:=Dg hi parts l cs _ hf h1;refine kR.q (k:=0) (y0:=ML cs') hinv hc (λH _=>by simp only[eS,h2]) (λy I=>?_) hk;simp only[cq,J,ak] at I;subst I;exact aat cs'
  .cases hk
 .cases hk
theorem al0 {con:FuncId->Option cg} {bX:TypeId->Option Ty} {sz:Nat} {ag:Bool} {x:Operand} (hc:du P o.op=af (.load sz ag x)) (hk:dW con bX (.op (.load sz ag x)) e h nx K=af r):kR P o aj e h nx K r:=by
 obtain⟨H,J⟩:=jM h;simp only[dW] at hk;split at hk
 .rename_i id off hv;obtain⟨y,h1,h2⟩:=bM hi hv;simp only[cq,ak] at h2;subst h2;split at hk
  .rename_i ty l hb;split at hk
   .rename_i v hs;obtain⟨Y,hl⟩:=fy h l (hinv.cells id ty l hb);obtain⟨y,U,M⟩:=Wv hl hs;have hg:H.get (nm id)=af ⟨ty,.mx Y⟩:=by rw[J,bK,hb];simp only[aH,kC,hl]
    exact⟨v,kQ id,0,h,nx,hk,jk.pure (k:=0) hinv hc J (y0:=y) (rdl:=[nm id]) (by simp only[eS,h1,DZ,hg,M]) (dw U) (λn hn=>by simp only[aL] at hn;subst hn;rw[ec];exact bY.2 rfl) (λh=>by cases h)⟩
   .cases hk
  .cases hk
 .rename_i id sz' j off hv;obtain⟨y,h1,h2⟩:=bM hi hv;simp only[cq,ak] at h2;subst h2;split at hk
  .rename_i ty p T xs hb;split at hk
   .rename_i hsz;have hsz:=aw hsz;obtain⟨hj,hk⟩:=dY hk;split at hk
    .rename_i v hs;obtain⟨y,U,M⟩:=ah3 (h:=h) hj hs;have hne:¬((p&&xs.length==0)=ai):=by
      have:=EI hj;simp only[av,c5];omega
     have hg:H.get (nm id)=af ⟨ty,.fz (xs.flatMap (bT T))⟩:=by rw[J,bK,hb];simp only[aH,kC,ay hne]
     exact⟨v,kQ id,0,h,nx,hk,jk.pure (k:=0) hinv hc J (y0:=.f y) (rdl:=[nm id]) (by simp only[eS,h1,DZ,hg,hsz,M]) (dw U) (λn hn=>by simp only[aL] at hn;subst hn;rw[ec];exact bY.2 rfl) (λh=>by cases h)⟩
    .cases hk
   .cases hk
  .rename_i ty l hb;split at hk
   .cases hk
   .split at hk
    .rename_i hsz;simp only[av] at hsz;have e1:=aw hsz.1.1;have e2:=aw hsz.1.2;have e3:=aw hsz.2;subst e1;subst e2;subst e3;split at hk
     .rename_i T xs hA;obtain⟨hj,hk⟩:=dY hk;obtain⟨Y,hl⟩:=fy h l (hinv.cells id ty l hb);have hg:H.get (nm id)=af ⟨ty,.mx Y⟩:=by rw[J,bK,hb];simp only[aH,kC,hl]
      have hlt:j.toNat<l.length:=by
       simp only[fe,av,c7,fQ,be] at hj;omega
      obtain⟨z,Z,I⟩:=l_ hl j.toNat _ (XG hA j.toNat hlt);have I:cq h (.f T (aJ xs j))=af z:=I;exact⟨_,kQ id,0,h,nx,hk,jk.pure (k:=0) hinv hc J (y0:=z) (rdl:=[nm id]) (by simp only[eS,h1,DZ,hg,BC.sub?,BC.get,Nat.mul_one,dv,Z]) (dw I) (λn hn=>by simp only[aL] at hn;subst hn;rw[ec];exact bY.2 rfl) (λh=>by cases h)⟩
     .cases hk
    .cases hk
  .cases hk
 .rename_i T xs j hj off hv;obtain⟨y,h1,h2⟩:=bM hi hv;simp only[cq,ak] at h2;subst h2;split at hk
  .rename_i v hs;obtain⟨y,U,M⟩:=ah3 (h:=h) hj hs;exact kR.q (k:=0) (y0:=.f y) hinv hc (λH _=>by simp only[eS,h1,DZ,M]) (dw U) hk
  .cases hk
 .cases hk
theorem agr {con:FuncId->Option cg} {bX:TypeId->Option Ty} {ty:TypeId} {z:List Value} (hc:du P o.op=af (.alloc ty z)) (hk:dW con bX (.op (.alloc ty z)) e h nx K=af r):kR P o aj e h nx K r:=by
 have _:=hi;obtain⟨H,hH⟩:=jM h;simp only[dW] at hk;split at hk
 .rename_i l hl;obtain⟨_,hz,_⟩:=vA h hl;have hnone:h.get nx=ah:=by
   cases hb:h.get nx with
   |none=>rfl
   |some b=>have:=hinv.low nx b hb;omega
  have hr:co h (h.set nx (af (.cells ty l))):=co.set λr hr=>by rw[bU,hnone] at hr;cases hr
  obtain⟨h1,_,_⟩:=vA (h.set nx (af (.cells ty l))) hl;have U:bC (h.set nx (af (.cells ty l))) (nm nx)=af ⟨ty,.mx (z.map raw)⟩:=by rw[bK,PT.get_set,aF rfl];simp only[aH,kC,h1]
  refine ⟨_,_,_,_,_,hk,jk.mk' hc hH (k:=nm nx) (by simp only[eS];rfl) [nm nx] (λi hi=>hi) (λn hn=>?_) (λi hi b' _=>⟨⟨ty,.fz (z.map .raw)⟩,?_⟩) (λH1 H2 d M _ J=>⟨λi hi b b' hb I=>?_,λy Y=>?_⟩) (by simp) ?_ ?_ hr (hinv.set hr (by omega) (by omega) λty' l' he=>?_) (by omega)⟩
  .refine kP hinv hr λi e=>?_
   subst e;rw[PT.get_set,ay (λe=>hn (by rw[e];simp))]
  .rw[aF hi];simp only[aL] at hi;subst hi;simp[jf]
  .simp only[aL] at hi;subst hi;rw[M _ (by simp)] at hb;rw[J _ (by simp),U] at I;rw[ik] at hb;simp only[ak] at hb I;subst hb;subst I;refine jX.cells rfl rfl ?_ λx Z=>?_
   .simp only[BC.toMx,Ac];exact ii.refl d _
   .simp only[BC.toMx] at Z;obtain⟨q,hq,rfl⟩:=di.1 Z;exact hz q hq
  .simp only[cq,ak] at Y;subst Y;exact lP.refl d _
  .intro n hn;simp only[aL] at hn;subst hn;rw[ec];exact bY.2 rfl
  .intro n hn;simp only[aL] at hn;subst hn;rw[ec];omega
  .cases he;exact kO _ _ _ h1
 .cases hk
theorem aok {con:FuncId->Option cg} {bX:TypeId->Option Ty} {ty:TypeId} {x:Operand} (hc:du P o.op=af (.box ty x)) (hk:dW con bX (.op (.box ty x)) e h nx K=af r):kR P o aj e h nx K r:=by
 obtain⟨H,hH⟩:=jM h;simp only[dW] at hk;split at hk
 .rename_i v hv;split at hk
  .rename_i l hl;obtain⟨y,h1,h2⟩:=bM hi hv;obtain⟨h3,h4⟩:=Kk hl h2;have hcell:=sa h3 h4;have hnone:h.get nx=ah:=by
    cases hb:h.get nx with
    |none=>rfl
    |some b=>have:=hinv.low nx b hb;omega
   have hr:co h (h.set nx (af (.cells ty l))):=co.set λr hr=>by rw[bU,hnone] at hr;cases hr
   have Z:=hP hr l _ h3;have U:bC (h.set nx (af (.cells ty l))) (nm nx)=af ⟨ty,.mx y.cs⟩:=by rw[bK,PT.get_set,aF rfl];simp only[aH,kC,Z]
   refine ⟨_,_,_,_,_,hk,jk.mk' hc hH (k:=nm nx) (by simp only[eS,h1,hcell,bH];rfl) [nm nx] (λi hi=>hi) (λn hn=>?_) (λi hi b' _=>⟨⟨ty,pq y.cs⟩,?_⟩) (λH1 H2 d M _ J=>⟨λi hi b b' hb I=>?_,λy Y=>?_⟩) (by simp) ?_ ?_ hr (hinv.set hr (by omega) (by omega) λty' l' he=>?_) (by omega)⟩
   .refine kP hinv hr λi e=>?_
    subst e;rw[PT.get_set,ay (λe=>hn (by rw[e];simp))]
   .rw[aF hi];simp only[aL] at hi;subst hi;simp[jf]
   .simp only[aL] at hi;subst hi;rw[M _ (by simp)] at hb;rw[J _ (by simp),U] at I;rw[ik] at hb;simp only[ak] at hb I;subst hb;subst I;obtain⟨q1,q2⟩:=nO y.cs;refine jX.cells q2 rfl ?_ λx hx=>?_
    .rw[q1];exact ii.refl d _
    .exact lO hcell x hx
   .simp only[cq,ak] at Y;subst Y;exact lP.refl d _
   .intro n hn;simp only[aL] at hn;subst hn;rw[ec];exact bY.2 rfl
   .intro n hn;simp only[aL] at hn;subst hn;rw[ec];omega
   .cases he;exact kO _ _ _ Z
  .cases hk
 .cases hk
theorem ago {con:FuncId->Option cg} {bX:TypeId->Option Ty} {ty:TypeId} {sz bytes:Nat} {z:List Value} {l c:Operand} (hcm:DP (bX ty)=ah) (hc:du P o.op=af (.mksl ty sz bytes z l c)) (hk:dW con bX (.op (.mksl ty sz bytes z l c)) e h nx K=af r):kR P o aj e h nx K r:=by
 obtain⟨H,hH⟩:=jM h;simp only[dW,hcm] at hk;split at hk
 .rename_i T k a k' b hT hv U;split at hk
  .rename_i hsz;simp only[av] at hsz;have hs:=aw hsz.1;have hz:=KB hsz.2;subst hs;subst hz;obtain⟨hck,hk⟩:=dY hk;obtain⟨y,h1,h2⟩:=bM hi hv;obtain⟨y2,h3,h4⟩:=bM hi U;simp only[cq,ak] at h2 h4;subst h2;subst h4;have hnone:h.get nx=ah:=by
    cases hb:h.get nx with
    |none=>rfl
    |some b=>have:=hinv.low nx b hb;omega
   generalize Z:iu.rows ty aj T (aG (aU a) T.zero)=B at hk;have hr:co h (h.set nx (af B)):=co.set λr hr=>by rw[bU,hnone] at hr;cases hr
   have Y:bC (h.set nx (af B)) (nm nx)=af ⟨ty,.fz ((aG (aU a) T.zero).flatMap (bT T))⟩:=by rw[bK,PT.get_set,aF rfl,<-Z];simp[kC]
   refine ⟨_,_,_,_,_,hk,jk.mk' hc hH (k:=nm nx) (by simp only[eS,h1,h3,gK,hck,bH];rfl) [nm nx] (λi hi=>hi) (λn hn=>?_) (λi hi b' _=>⟨⟨ty,.fz (repl (s5 T) (aU a))⟩,?_⟩) (λH1 H2 d M _ J=>⟨λi hi b b' hb I=>?_,λy hy=>?_⟩) (by simp) ?_ ?_ hr (hinv.set hr (by omega) (by omega) λty' l' he=>?_) (by omega)⟩
   .refine kP hinv hr λi e=>?_
    subst e;rw[PT.get_set,ay (λe=>hn (by rw[e];simp))]
   .rw[aF hi];simp only[aL] at hi;subst hi;simp[jf]
   .simp only[aL] at hi;subst hi;rw[M _ (by simp)] at hb;rw[J _ (by simp),Y] at I;rw[ik] at hb;simp only[ak] at hb I;subst hb;subst I;refine jX.cells rfl rfl (HH d T _) λx hx=>?_
    simp only[BC.toMx] at hx;obtain⟨q,hq,rfl⟩:=di.1 hx;exact rM T _ q hq
   .simp only[cq,bU,PT.get_set,bH,<-Z,aH,mJ,fA,nB,cz,ef,ak,eO] at hy;subst hy;exact lP.refl d _
   .intro n hn;simp only[aL] at hn;subst hn;rw[ec];exact bY.2 rfl
   .intro n hn;simp only[aL] at hn;subst hn;rw[ec];omega
   .rw[<- Z] at he;cases he
  .cases hk
 .cases hk
end ops
theorem An {α:Type} {f:α->List FV} {n:Nat} (hf:∀ x,(f x).length=n):∀ (xs:List α) (j:Nat),(xs.take j).flatMap f=(xs.flatMap f).take (j*n)
 |[],j=>by simp
 |x::r,0=>by simp
 |x::r,j+1=>by
  rw[vW,fM,fM,An hf r j,show (j+1)*n=(f x).length+j*n from by rw[hf,iR];omega,List.take_length_add_append]
theorem Jr {α:Type} {f:α->List FV} {n:Nat} (hf:∀ x,(f x).length=n):∀ (xs:List α) (j:Nat),(xs.drop j).flatMap f=(xs.flatMap f).drop (j*n)
 |[],j=>by simp
 |x::r,0=>by simp
 |x::r,j+1=>by
  rw[vY,fM,Jr hf r j,show (j+1)*n=(f x).length+j*n from by rw[hf,iR];omega,List.drop_length_add_append]
theorem Qk {z:List Value}:∀ (n:Nat) (x:FV),x∈repl z n->∃ v∈z,x= .raw v
 |0,x,h=>by simp[repl] at h
 |n+1,x,h=>by
  rw[repl,bQ] at h;rcases h with h|h
  .obtain⟨v,hv,rfl⟩:=di.1 h;exact⟨v,hv,rfl⟩
  .exact Qk n x h
theorem GR:∀ l:List FV,(∀ x∈l,x.isCell=ai)->gJ (l.map .f)=ai
 |[],_=>rfl
 |z::r,h=>by simp only[gr,gJ,av];exact⟨h z (by simp),GR r λx I=>h x (by simp[I])⟩
section ops
variable {R:Type} {P:Program} {o:Oper} {e:iP} {h:bi} {nx:Nat} {K:KO R} {r:R}
theorem md.fresh (hinv:md h nx):h.get nx=ah:=by
 cases hb:h.get nx with
 |none=>rfl
 |some b=>have:=hinv.low nx b hb;omega
theorem dT.lt (hinv:md h nx) {m:Nat} (hm:dT h m) {i:Nat} (hi:aN m i=ai):i<nx:=by
 obtain⟨_,_,_,_,hb⟩:=hm i hi;exact hinv.low i _ hb
theorem jk.new {s:Zp} (hinv:md h nx) (hc:du P o.op=af s) {H:n_} (hH:H.get=bC h) {y0:AV} {rdl:List Nat} {b0:xh} (ha:eS s (Jx e h) H (nm nx)=af ⟨y0,rdl,[nm nx],[(nm nx,b0)],[nm nx]⟩) {B:iu} {v:TV} {m rd:Nat} (hm:dT h m)
 (hB:∀ ty l,B= .cells ty l->kS ((eH m h).set nx (af B)) l=ai)
 (hblk:∀ J I,vD J I->Ed h J I m->∀ b',kC ((eH m h).set nx (af B)) B=af b'->jX J I b0 b')
 (hval:∀ J I y,vD J I->Ed h J I m->cq ((eH m h).set nx (af B)) v=af y->lP J I y0 y)
 (hrd:∀ n∈rdl,aN rd (ow n)=ai):jk P o aj e h nx v rd (m|||kQ nx) ((eH m h).set nx (af B)) (nx+1):=by
 have hk:=hinv.kill m;have hr0:=co.kill m h;have Y:co (eH m h) ((eH m h).set nx (af B)):=co.set λr hr=>by rw[bU,hk.fresh] at hr;cases hr
 have hr:=hr0.trans Y;have hgiv:∀ i,aN m i=ai->bC ((eH m h).set nx (af B)) (nm i)=ah:=λi hi=>by
  have hlt:=hm.lt hinv hi;obtain⟨p,sz,n,hd⟩:=tW hm hi;rw[bK,PT.get_set,ay (by omega),hd];rfl
 refine jk.mk' hc hH ha (nm nx::FJ m) (λi hi=>by simp only[aL] at hi;subst hi;simp) (λn hn=>?_) (λi hi b' Z=>?_) (λJ I d hw1 hw0 U=>?_) hrd ?_ ?_ hr (hk.set Y (by omega) (by omega) hB) (by omega)
 .refine kP hinv hr λi e=>?_
  subst e;rw[PT.get_set,ay (λe=>hn (by rw[e];simp)),iZ,ay];intro hb;exact hn (cI _ (lE.2 hb))
 .rcases bm.1 hi with rfl|hi
  .exact⟨b0,by rw[aF (by simp),ik]⟩
  .obtain⟨j,rfl,hj⟩:=nP.1 hi;rw[hgiv j hj] at Z;cases Z
 .have g:Ed h J I m:=λi hi=>by
   have hlt:=hm.lt hinv hi;have hmem:nm i∈nm nx::FJ m:=cI _ (lE.2 hi);exact⟨hw0 _ hmem (λhc=>by simp only[aL] at hc;have:=kT hc;omega),by rw[U _ hmem,hgiv i hi]⟩
  refine ⟨λi hi b b' hb M=>?_,λy hy=>hval J I y d g hy⟩;rcases bm.1 hi with rfl|hi'
  .rw[hw1 _ (by simp),ik] at hb;rw[U _ hi,bK,PT.get_set,aF rfl] at M;simp only[ak] at hb;subst hb;exact hblk J I d g b' M
  .obtain⟨j,rfl,hj⟩:=nP.1 hi';rw[U _ hi,hgiv j hj] at M;cases M
 .intro n hn;rw[bt];rcases bm.1 hn with rfl|hn
  .rw[ec,bY.2 rfl];simp
  .obtain⟨j,rfl,hj⟩:=nP.1 hn;rw[ec,hj];rfl
 .intro n hn;simp only[aL] at hn;subst hn;rw[ec];omega
theorem jk.wrt {s:Zp} (hinv:md h nx) (hc:du P o.op=af s) {H:n_} (hH:H.get=bC h) {id:Nat} {y0:AV} {rdl:List Nat} {b0:xh} {k:Nat} (ha:eS s (Jx e h) H k=af ⟨y0,rdl,[nm id],[(nm id,b0)],[]⟩) {B0 B:iu} (Z:h.get id=af B0) {v:TV} {m rd:Nat} (hm:dT h m) (hmid:aN m id=aj)
 (hrow:mJ B=mJ B0) (hB:∀ ty l,B= .cells ty l->kS ((eH m h).set id (af B)) l=ai)
 (hblk:∀ J I,vD J I->Ed h J I m->∀ b',kC ((eH m h).set id (af B)) B=af b'->jX J I b0 b')
 (hval:∀ J I y,vD J I->Ed h J I m->cq ((eH m h).set id (af B)) v=af y->lP J I y0 y)
 (hrd:∀ n∈rdl,aN rd (ow n)=ai):jk P o aj e h nx v rd (m|||kQ id) ((eH m h).set id (af B)) nx:=by
 have hk:=hinv.kill m;have hr0:=co.kill m h;have hkid:(eH m h).get id=af B0:=by rw[iZ,hmid];simpa using Z
 have Y:co (eH m h) ((eH m h).set id (af B)):=co.set λr hr=>by rw[bU,hkid] at hr;rw[hrow];exact hr
 have hr:=hr0.trans Y;have hgiv:∀ i,aN m i=ai->bC ((eH m h).set id (af B)) (nm i)=ah:=λi hi=>by
  have hne:i≠id:=λe=>by rw[e,hmid] at hi;cases hi
  obtain⟨p,sz,n,hd⟩:=tW hm hi;rw[bK,PT.get_set,ay hne,hd];rfl
 refine jk.mk' hc hH ha (nm id::FJ m) (λi hi=>by simp only[aL] at hi;subst hi;simp) (λn hn=>?_) (λi hi b' hb'=>?_) (λJ I d hw1 hw0 U=>?_) hrd ?_ (by simp) hr (hk.set Y (hinv.low id B0 Z) (by omega) hB) (by omega)
 .refine kP hinv hr λi e=>?_
  subst e;rw[PT.get_set,ay (λe=>hn (by rw[e];simp)),iZ,ay];intro hb;exact hn (cI _ (lE.2 hb))
 .rcases bm.1 hi with rfl|hi
  .exact⟨b0,by rw[aF (by simp),ik]⟩
  .obtain⟨j,rfl,hj⟩:=nP.1 hi;rw[hgiv j hj] at hb';cases hb'
 .have g:Ed h J I m:=λi hi=>by
   have hne:i≠id:=λe=>by rw[e,hmid] at hi;cases hi
   have hmem:nm i∈nm id::FJ m:=cI _ (lE.2 hi);exact⟨hw0 _ hmem (λhc=>by simp only[aL] at hc;exact hne (kT hc)),by rw[U _ hmem,hgiv i hi]⟩
  refine ⟨λi hi b b' hb M=>?_,λy hy=>hval J I y d g hy⟩;rcases bm.1 hi with rfl|hi'
  .rw[hw1 _ (by simp),ik] at hb;rw[U _ hi,bK,PT.get_set,aF rfl] at M;simp only[ak] at hb;subst hb;exact hblk J I d g b' M
  .obtain⟨j,rfl,hj⟩:=nP.1 hi';rw[U _ hi,hgiv j hj] at M;cases M
 .intro n hn;rw[bt];rcases bm.1 hn with rfl|hn
  .rw[ec,bY.2 rfl];simp
  .obtain⟨j,rfl,hj⟩:=nP.1 hn;rw[ec,hj];rfl
theorem MD (h:bi) {z:List Value} {I:List TV} (J:Kh z=af I):∀ len,cN h (aG len I).flatten=af ((repl z len).map .f)
 |0=>rfl
 |n+1=>by
  rw[List.replicate_succ,List.flatten_cons,repl,cC];refine nk ?_ (MD h J n);rw[(vA h J).1];simp only[Ac];rfl
theorem WC {H:n_} (Z:H.get=bC h) {T:Ty} {v:TV} {U:List T.den} {m:Nat} {y:AV} (I:DY h (.sl T) v=af (U,m)) (J:cq h v=af y):∃ rd,y.row? H T.size=af ((U.flatMap (bT T)).map .f,U.length,rd)/\∀ n∈rd,∃ i,n=nm i/\aN m i=ai:=by
 have fl:=λM:List T.den=>fE (bD T) M
 have tk:∀ M:List T.den,(M.flatMap (bT T)).take (M.length*T.size)=M.flatMap (bT T):=λM=>by rw[<- fl,cP]
 cases v with
 |f S x=>
  simp only[DY,iL] at I;split at I
  .rename_i z Y;simp only[ak,aD] at I;obtain⟨rfl,_⟩:=I;obtain⟨e,rfl⟩:=ji Y;subst e;simp only[cq,ak] at J;subst J;refine ⟨[],?_,by simp⟩;simp only[gK,AV.row?];rw[aF (bE (by rw[fl x];exact bW _)),tk]
  .cases I
 |emp=>
  simp only[DY,iL,ak,aD] at I;obtain⟨rfl,_⟩:=I;simp only[cq,ak] at J;subst J;exact⟨[],rfl,by simp⟩
 |nil=>
  simp only[DY,iL,ak,aD] at I;obtain⟨rfl,_⟩:=I;simp only[cq,ak] at J;subst J;exact⟨[],rfl,by simp⟩
 |row id=>
  simp only[DY,iL] at I;split at I
  .rename_i ty p S xs hb;split at I
   .rename_i z Y;simp only[ak,aD] at I;obtain⟨rfl,rfl⟩:=I;obtain⟨e,rfl⟩:=ji Y;cases e;simp only[cq,eD,hb,ak] at J;subst J;unfold fA;split
    .rename_i hp;simp only[av,c5] at hp;have:xs=[]:=gM.1 hp.2;subst this;exact⟨[],rfl,by simp⟩
    .rename_i hp;have hg:H.get (nm id)=af ⟨ty,.fz (xs.flatMap (bT T))⟩:=by rw[Z,bK,hb];simp only[aH,kC,ay hp]
     refine ⟨[nm id],?_,λn hn=>?_⟩
     .simp only[AV.row?,hg,cY,bH,BC.isCells,BC.len,pB];rw[aF (bE (by rw[fl xs];exact bW _))];simp only[BC.toMx,<-kH,tk]
     .simp only[aL] at hn;exact⟨id,hn,bY.2 rfl⟩
   .cases I
  .cases I
 |agg l=>simp[DY,Ty.one] at I
 |fel T xs j hj off=>simp[DY,iL] at I
 |pel id sz j off=>simp[DY,iL] at I
 |ptr id off=>simp[DY,iL] at I
 |csl id off z=>simp[DY,iL] at I
 |mp id=>simp[DY,iL] at I
 |rtl id jj=>simp[DY,iL] at I
 |tup q=>simp[DY,iL] at I
 |clo f q=>simp[DY,iL] at I
 |undef=>simp[DY,iL] at I
 |np=>simp[DY,iL] at I
 |anyb=>simp[DY,iL] at I
theorem Ut {v:TV} {y:AV} (I:cq h v=af y) (hc:v.isC=ai):gJ y.cs=ai:=by
 rw[N8 (Oj I hc)];simp only[gJ,Bool.and_true];exact Oj I hc
theorem YG (T:Ty) (x:T.den):gJ ((bT T x).map .f)=ai:=by
 have:∀ l:List FV,(∀ x∈l,x.isCell=ai)->gJ (l.map .f)=ai:=by
  intro l hl;induction l with
  |nil=>rfl
  |cons z r I=>simp only[gr,gJ,av];exact⟨hl z (by simp),I λx J=>hl x (by simp[J])⟩
 exact this _ (nW T x)
theorem gX {T:Ty} {v:TV} {x:T.den} {m:Nat} {y:AV} (I:iL h T v=af (x,m)) (J:cq h v=af y):gJ y.cs=ai:=by
 cases v with
 |f S v=>simp only[cq,ak] at J;subst J;rw[Ap];exact YG S v
 |emp=>exact Ut J rfl
 |nil=>exact Ut J rfl
 |row id=>exact Ut J rfl
 |fel T xs j hj off=>simp[iL] at I
 |pel id sz j off=>simp[iL] at I
 |ptr id off=>simp[iL] at I
 |csl id off z=>simp[iL] at I
 |mp id=>simp[iL] at I
 |rtl id M=>simp[iL] at I
 |agg q=>simp[iL] at I
 |tup q=>simp[iL] at I
 |clo f q=>simp[iL] at I
 |undef=>simp[iL] at I
 |np=>simp[iL] at I
 |anyb=>simp[iL] at I
theorem H4 {T:Ty} (M:T.one=ai) {v:TV} {x:T.den} {m:Nat} (I:iL h T v=af (x,m)):v.isC=ai:=by
 cases v with
 |f S v=>
  simp only[iL] at I;split at I
  .rename_i z J;obtain⟨e,_⟩:=ji J;subst e;exact M
  .cases I
 |emp=>rfl
 |nil=>rfl
 |row id=>rfl
 |fel T xs j hj off=>simp[iL] at I
 |pel id sz j off=>simp[iL] at I
 |ptr id off=>simp[iL] at I
 |csl id off z=>simp[iL] at I
 |mp id=>simp[iL] at I
 |rtl id U=>simp[iL] at I
 |agg q=>simp[iL] at I
 |tup q=>simp[iL] at I
 |clo f q=>simp[iL] at I
 |undef=>simp[iL] at I
 |np=>simp[iL] at I
 |anyb=>simp[iL] at I
theorem S0 {a b:List TV} (I:kx a=ai) (hb:kx b=ai):kx (a++b)=ai:=by
 induction a with
 |nil=>exact hb
 |cons z r J=>simp only[kx,av,gu] at I ⊢;exact⟨I.1,J I.2⟩
theorem tQ:∀ (n:Nat) (T:Ty) (l:List TV) (x:T.den) (m:Nat) (r:List TV),e9 h n T l=af (x,m,r)->∃ a,l=a++r/\kx a=ai
 |0,_,_,_,_,_,hp=>by simp[e9] at hp
 |n+1,.st t,l,x,m,r,hp=>tQ n t l x m r hp
 |n+1,.pr a b,l,x,m,r,hp=>by
  simp only[e9] at hp;split at hp
  .rename_i x1 m1 r1 h1;split at hp
   .rename_i x2 m2 r2 h2;simp only[ak,aD] at hp;obtain⟨_,_,rfl⟩:=hp;obtain⟨a1,rfl,J⟩:=tQ n a l x1 m1 r1 h1;obtain⟨a2,rfl,I⟩:=tQ n b r1 x2 m2 r2 h2;exact⟨a1++a2,by simp,S0 J I⟩
   .cases hp
  .cases hp
 |n+1,.un,l,x,m,r,hp=>by
  simp only[e9,ak,aD] at hp;obtain⟨_,_,rfl⟩:=hp;exact⟨[],rfl,rfl⟩
 |n+1,.ex,l,x,m,r,hp=>by
  simp only[e9] at hp;split at hp
  .rename_i x1 m1 r1 h1;simp only[ak,aD] at hp;obtain⟨_,_,rfl⟩:=hp;exact tQ n M2 l x1 m1 r1 h1
  .cases hp
 |n+1,.sm,l,x,m,r,hp=>by
  simp only[e9] at hp;split at hp
  .rename_i x1 m1 r1 h1;simp only[ak,aD] at hp;obtain⟨_,_,rfl⟩:=hp;exact tQ n MA l x1 m1 r1 h1
  .cases hp
 |n+1,.int k,l,x,m,r,hp=>by
  simp only[e9] at hp;split at hp
  .rename_i c q;split at hp
   .rename_i x1 m1 h1;simp only[ak,aD] at hp;obtain⟨_,_,rfl⟩:=hp;exact⟨[c],rfl,by simp[kx,H4 rfl h1]⟩
   .cases hp
  .cases hp
 |n+1,.bool,l,x,m,r,hp=>by
  simp only[e9] at hp;split at hp
  .rename_i c q;split at hp
   .rename_i x1 m1 h1;simp only[ak,aD] at hp;obtain⟨_,_,rfl⟩:=hp;exact⟨[c],rfl,by simp[kx,H4 rfl h1]⟩
   .cases hp
  .cases hp
 |n+1,.str,l,x,m,r,hp=>by
  simp only[e9] at hp;split at hp
  .rename_i c q;split at hp
   .rename_i x1 m1 h1;simp only[ak,aD] at hp;obtain⟨_,_,rfl⟩:=hp;exact⟨[c],rfl,by simp[kx,H4 rfl h1]⟩
   .cases hp
  .cases hp
 |n+1,.sl t,l,x,m,r,hp=>by
  simp only[e9] at hp;split at hp
  .rename_i c q;split at hp
   .rename_i x1 m1 h1;simp only[ak,aD] at hp;obtain⟨_,_,rfl⟩:=hp;exact⟨[c],rfl,by simp[kx,H4 rfl h1]⟩
   .cases hp
  .cases hp
theorem KI {T:Ty} {v:TV} {x:T.den} {m:Nat} {y:AV} (J:DY h T v=af (x,m)) (I:cq h v=af y):gJ y.cs=ai:=by
 cases v with
 |agg l=>
  simp only[DY] at J;split at J
  .cases J
  .split at J
   .rename_i x1 m1 h1;obtain⟨a,e,U⟩:=tQ 40 T l x1 m1 [] h1;rw[iU] at e;subst e;simp only[cq] at I;split at I
    .rename_i Y hl;simp only[ak] at I;subst I;exact sa hl U
    .cases I
   .cases J
 |f S v=>exact gX (v:=.f S v) J I
 |fel T xs j hj off=>exact gX (v:=.fel T xs j hj off) J I
 |pel id sz j off=>exact gX (v:=.pel id sz j off) J I
 |ptr id off=>exact gX (v:=.ptr id off) J I
 |csl id off z=>exact gX (v:=.csl id off z) J I
 |row id=>exact gX (v:=.row id) J I
 |emp=>exact gX (v:=.emp) J I
 |nil=>exact gX (v:=.nil) J I
 |mp id=>exact gX (v:=.mp id) J I
 |rtl id M=>exact gX (v:=.rtl id M) J I
 |tup q=>exact gX (v:=.tup q) J I
 |clo g q=>exact gX (v:=.clo g q) J I
 |undef=>exact gX (v:=.undef) J I
 |np=>exact gX (v:=.np) J I
 |anyb=>exact gX (v:=.anyb) J I
theorem rk {u:TV} {y:AV} (I:cq h u=af y):∀ (n:Nat) (T:Ty) (v:T.den) (off sz:Nat) (z:T.den) (m:Nat),gU h u n T v off sz=af (z,m)->gJ y.cs=ai
 |0,_,_,_,_,_,_,hg=>by simp[gU] at hg
 |n+1,.st t,v,off,sz,z,m,hg=>by
  simp only[gU] at hg;split at hg
  .rename_i q hq;split at hq
   .exact KI hq I
   .cases hq
  .exact rk I n t v off sz z m hg
 |n+1,.pr a b,v,off,sz,z,m,hg=>by
  simp only[gU] at hg;split at hg
  .split at hg
   .rename_i J m1 h1;exact rk I n a v.1 off sz J m1 h1
   .cases hg
  .split at hg
   .rename_i J m1 h1;exact rk I n b v.2 _ sz J m1 h1
   .cases hg
 |n+1,.un,v,off,sz,z,m,hg=>by simp[gU] at hg
 |n+1,.ex,v,off,sz,z,m,hg=>by
  simp only[gU] at hg;split at hg
  .rename_i q hq;split at hq
   .exact KI hq I
   .cases hq
  .split at hg
   .rename_i J m1 h1;exact rk I n M2 _ off sz J m1 h1
   .cases hg
 |n+1,.sm,v,off,sz,z,m,hg=>by
  simp only[gU] at hg;split at hg
  .rename_i q hq;split at hq
   .exact KI hq I
   .cases hq
  .split at hg
   .rename_i J m1 h1;exact rk I n MA _ off sz J m1 h1
   .cases hg
 |n+1,.int k,v,off,sz,z,m,hg=>by
  simp only[gU] at hg;split at hg
  .exact gX hg I
  .cases hg
 |n+1,.bool,v,off,sz,z,m,hg=>by
  simp only[gU] at hg;split at hg
  .exact gX hg I
  .cases hg
 |n+1,.str,v,off,sz,z,m,hg=>by
  simp only[gU] at hg;split at hg
  .exact gX hg I
  .cases hg
 |n+1,.sl t,v,off,sz,z,m,hg=>by
  simp only[gU] at hg;split at hg
  .exact gX hg I
  .cases hg
theorem KL (l:List FV):xW (l.map .f)=af l:=by
 induction l with
 |nil=>rfl
 |cons x r I=>simp only[gr,xW,I]
theorem CU (l:List FV):pq (l.map .f)= .fz l:=by unfold pq;rw[KL]
theorem GU:∀ {a b:List TV},kx a=ai->kx b=ai->kx (a++b)=ai
 |[],_,_,hb=>hb
 |x::r,b,I,hb=>by
  simp only[kx,av] at I;simp only[gu,kx,av];exact⟨I.1,GU I.2 hb⟩
theorem Fs {I:List TV} (J:kx I=ai):∀ n,kx (aG n I).flatten=ai
 |0=>rfl
 |n+1=>by rw[List.replicate_succ,List.flatten_cons];exact GU J (Fs J n)
theorem afe {H:n_} (J:H.get=bC h) {id ty:Nat} {l:List TV} {I:List AV} (hb:h.get id=af (.cells ty l)) (hl:cN h l=af I) {n sz:Nat} (hn:l.length=n*sz):AV.row? H sz (.row (nm id) sz n)=af (I,n,[nm id]):=by
 have hg:H.get (nm id)=af ⟨ty,.mx I⟩:=by rw[J,bK,hb];simp only[aH,kC,hl]
 have hln:=ib hl;simp only[AV.row?,cY,bH,hg,BC.isCells,pB,BC.len,BC.toMx];rw[aF (bE (by omega)),f_ (by omega)]
variable (hinv:md h nx) (hi:tN e h)
include hinv hi
theorem al6 {con:FuncId->Option cg} {bX:TypeId->Option Ty} {ty:TypeId} {sz len:Nat} {z:List Value} {parts:List (Nat×Nat×Operand)} (hcm:DP (bX ty)=ah) (hc:du P o.op=af (.bsl ty sz len z parts)) (hk:dW con bX (.op (.bsl ty sz len z parts)) e h nx K=af r):kR P o aj e h nx K r:=by
 obtain⟨H,Y⟩:=jM h;simp only[dW,hcm] at hk;split at hk
 .rename_i T zc hT U;split at hk
  .rename_i hs;have hs:=aw hs;subst hs;split at hk
   .rename_i cs hf;split at hk
    .rename_i xs m hp;obtain⟨cs',h1,h2,_⟩:=Dg hi parts _ cs _ hf (MD h U len);have hm:=N6 len cs xs m hp;refine ⟨_,_,_,_,_,hk,jk.new hinv hc Y (y0:=if len=0 then .emp else .row (nm nx) T.size len) (rdl:=[]) (b0:=⟨ty,pq cs'⟩) (by simp only[eS,h1]) hm (λ_ _ he=>by cases he) (λH1 Z d g b' I=>?_) (λH1 Z y d g J=>?_) (by simp)⟩
     .simp only[kC] at I;split at I
      .cases I
      rw[ak] at I;subst I;obtain⟨q1,q2⟩:=nO cs';refine jX.cells q2 rfl ?_ λx M=>?_
      .rw[q1];exact (CM d len cs xs m cs' hp h2 g).1
      .simp only[BC.toMx] at M;obtain⟨q,hq,rfl⟩:=di.1 M;exact rM T _ q hq
     .simp only[cq,bU,PT.get_set,bH,aH,mJ,fA,ak] at J;rw[(CM d len cs xs m cs' hp h2 g).2] at J;split at J
      .rename_i hq;simp only[av,c5] at hq;subst J;rw[aF hq.2];exact lP.refl d _
      .rename_i hq;subst J;rw[ay (λh0=>hq (by subst h0;rfl))];exact lP.refl d _
    .cases hk
   .cases hk
  .cases hk
 .cases hk
theorem al7 {con:FuncId->Option cg} {bX:TypeId->Option Ty} {ty:TypeId} {sz bytes:Nat} {s x:Operand} (hcm:DP (bX ty)=ah) (hc:du P o.op=af (.app ty sz bytes s x)) (hk:dW con bX (.op (.app ty sz bytes s x)) e h nx K=af r):kR P o aj e h nx K r:=by
 obtain⟨H,hH⟩:=jM h;have hfr:=hinv.fresh;simp only[dW,hcm] at hk;split at hk
 .rename_i T b y hT hv hv2;split at hk
  .rename_i hs;have hs:=aw hs;subst hs;split at hk
   .rename_i J m hys;obtain⟨yb,h1,h2⟩:=bM hi hv;obtain⟨yy,h3,h4⟩:=bM hi hv2;obtain⟨rdl,h5,h6⟩:=WC hH hys h4;have onEmp:∀ (rd':Nat),(∀ n∈rdl,aN rd' (ow n)=ai)->IV yb=ai->Le yb .emp->a_ (al J) bytes=ai->jk P o aj e h nx (.row nx) rd' (kQ nx) (h.set nx (af (.rows ty ai T J))) (nx+1):=by
     intro rd' hrd' he hle hroom;have hr1:co h (h.set nx (af (.rows ty ai T J))):=co.set λr hr=>by rw[bU,hfr] at hr;cases hr
     have hyb:∀ id sz' n,yb≠ .row id sz' n:=by rintro id sz' n rfl;cases he
     have I:eS (.app ty T.size bytes s x) (Jx e h) H (nm nx)=if al J==0 then af ⟨yb,rdl,[],[],[]⟩ else af ⟨.row (nm nx) T.size (al J),rdl,[nm nx],[(nm nx,⟨ty,pq ((J.flatMap (bT T)).map .f)⟩)],[nm nx]⟩:=by
      simp only[eS,h1,h3,h5];cases yb with
      |row id sz' n=>exact cR rfl (hyb id sz' n)
      |_=>simp only[he,hroom,kK,bH]
     by_cases hl:al J=0
     .rw[hl] at I;simp only[cY,bH] at I;have hnil:J=[]:=gM.1 hl;subst hnil;refine jk.mk' hc hH I [] (by simp) (λn _=>?_) (by simp) (λH1 H2 d _ _ _=>⟨by simp,λy M=>?_⟩) hrd' (by simp) (by simp) hr1 (hinv.set hr1 (by omega) (by omega) λ_ _ he=>by cases he) (by omega)
      .by_cases hn:n=nm nx
       .subst hn;rw[bK,bK,PT.get_set,aF rfl,hfr];rfl
       .refine kP hinv hr1 λi e=>?_
        subst e;rw[PT.get_set,ay (λe=>hn (by rw[e]))]
      .simp only[cq,bU,PT.get_set,bH,aH,mJ,fA,jT,cY,kK,ak] at M;subst M;exact hle.toH d
     .rw[ay (by simpa using hl)] at I;rw[CU] at I;have key:=jk.new (m:=0) (rd:=rd') hinv hc hH I (B:=.rows ty ai T J) (v:=.row nx) (dT.zero h) (λ_ _ he=>by cases he) (λH1 H2 d g b' Z=>by
       simp only[kC] at Z;rw[ay (by simpa using hl)] at Z;simp only[ak] at Z;subst Z;exact jX.refl d _) (λH1 H2 y d g M=>by
       simp only[cq,bU,PT.get_set,bH,aH,mJ,fA] at M;rw[ay (by simpa using hl)] at M;simp only[ak] at M;subst M;exact lP.refl d _) hrd'
      rw[yG] at key;exact key
    split at hk
    .rename_i id;split at hk
     .rename_i ty' p S xs0 hb;split at hk
      .rename_i xs hxs;obtain⟨ee,rfl⟩:=ji hxs;cases ee;split at hk
       .rename_i hcond;simp only[av,c5,eA] at hcond;obtain⟨rfl,hmid⟩:=hcond;obtain⟨hroom,hk⟩:=dY hk;simp only[cq,eD,hb,ak] at h2;have hidlt:=hinv.low id _ hb;have hne:nx≠id:=by omega
        have hrd:∀ n∈rdl,aN (kQ id|||m) (ow n)=ai:=λn hn=>by
         obtain⟨i,rfl,hm⟩:=h6 n hn;rw[ec,bt,hm];simp
        generalize hh':(h.set id (af (.dead p T.size (al xs0)))).set nx (af (.rows ty' p T (xs0++J)))=h' at hk;have hrA:co h (h.set id (af (.dead p T.size (al xs0)))):=co.set λr hr=>by rw[bU,hb] at hr;exact hr
        have hg2:∀ i,h'.get i=if i=nx then af (.rows ty' p T (xs0++J)) else if i=id then af (.dead p T.size (al xs0)) else h.get i:=λi=>by rw[<- hh',PT.get_set,PT.get_set]
        have hr:co h h':=by
         rw[<- hh'];refine hrA.trans (co.set λr hr=>?_);rw[bU,PT.get_set,ay hne,hfr] at hr;cases hr
        have hinv':md h' (nx+1):=by
         refine ⟨λi ty l hil=>?_,λi c hic=>?_⟩
         .rw[hg2] at hil;split at hil
          .cases hil
          .split at hil
           .cases hil
           .exact iW hr l (hinv.cells i ty l hil)
         .rw[hg2] at hic;split at hic
          .omega
          .split at hic
           .omega
           .have:=hinv.low i c hic;omega
        have hsame:∀ n,n≠nm nx->n≠nm id->bC h' n=bC h n:=λn h1 h2=>kP hinv hr λi e=>by
         subst e;rw[hg2,ay (λe=>h1 (by rw[e])),ay (λe=>h2 (by rw[e]))]
        have hdead:bC h' (nm id)=ah:=by rw[bK,hg2,ay (by omega),aF rfl];rfl
        have hnew:bC h' (nm nx)=if p&&(xs0++J).length==0 then ah else af ⟨ty',.fz ((xs0++J).flatMap (bT T))⟩:=by rw[bK,hg2,aF rfl];rfl
        have hval:cq h' (.row nx)=af (fA p nx T.size (xs0++J).length):=by simp only[cq,bU,hg2,bH,aH,mJ]
        have hwm:∀ n,n=nm nx\/n=nm id->aN (kQ id|||kQ nx) (ow n)=ai:=λn hn=>by
         rcases hn with rfl|rfl<;>rw[ec,bt,bY.2 rfl]<;>simp
        refine ⟨_,_,_,_,_,hk,?_⟩;by_cases hp:(p&&xs0.length==0)=ai
        ·
         have hyb:yb= .emp:=by rw[<- h2];unfold fA;rw[aF hp]
         subst hyb;simp only[av,c5] at hp;obtain⟨rfl,hl0⟩:=hp;have hnil:xs0=[]:=gM.1 hl0;subst hnil;have hroom':a_ (al J) bytes=ai:=by simpa using hroom
         have I:eS (.app ty' T.size bytes s x) (Jx e h) H (nm nx)=if al J==0 then af ⟨.emp,rdl,[],[],[]⟩ else af ⟨.row (nm nx) T.size (al J),rdl,[nm nx],[(nm nx,⟨ty',pq ((J.flatMap (bT T)).map .f)⟩)],[nm nx]⟩:=by
          simp only[eS,h1,h3,h5,IV,hroom',kK,bH]
         have hdead0:bC h (nm id)=ah:=by rw[bK,hb];rfl
         by_cases hl:al J=0
         .rw[hl] at I;simp only[cY,bH] at I;have hnil:J=[]:=gM.1 hl;subst hnil;refine jk.mk' hc hH I [] (by simp) (λn _=>?_) (by simp) (λH1 H2 d _ _ _=>⟨by simp,λy M=>?_⟩) hrd (by simp) (by simp) hr hinv' (by omega)
          .by_cases hn:n=nm nx
           .subst hn;rw[hnew,bK,hfr];rfl
           .by_cases hn2:n=nm id
            .subst hn2;rw[hdead,hdead0]
            .exact hsame n hn hn2
          .rw[hval] at M;simp only[fA,iU,jT,cY,kK,bH,ak] at M;subst M;exact lP.refl d _
         .rw[ay (by simpa using hl),CU] at I;refine jk.mk' hc hH I [nm nx] (λi hi=>hi) (λn hn=>?_) (λi hi b' _=>⟨_,by rw[aF hi];simp only[aL] at hi;subst hi;exact ik _ _⟩) (λH1 H2 d hw1 _ hw2=>⟨λi hi b b' Y U=>?_,λy M=>?_⟩) hrd (λn hn=>hwm n (.inl (by simpa using hn))) (λn hn=>by simp only[aL] at hn;subst hn;rw[ec];omega) hr hinv' (by omega)
          .have hn1:n≠nm nx:=by simpa using hn
           by_cases hn2:n=nm id
           .subst hn2;rw[hdead,hdead0]
           .exact hsame n hn1 hn2
          .simp only[aL] at hi;subst hi;rw[hw1 _ (by simp),ik] at Y;rw[hw2 _ (by simp),hnew,ay (by simpa using hl)] at U;simp only[ak,lU] at Y U;subst Y;subst U;exact jX.refl d _
          .rw[hval] at M;simp only[fA,lU] at M;rw[ay (by simpa using hl)] at M;simp only[ak] at M;subst M;exact lP.refl d _
        .have hyb:yb= .row (nm id) T.size xs0.length:=by rw[<- h2];unfold fA;rw[ay hp]
         subst hyb;have hg:H.get (nm id)=af ⟨ty',.fz (xs0.flatMap (bT T))⟩:=by rw[hH,bK,hb];simp only[aH,kC,ay hp]
         have fl:=fE (bD T) xs0;have tk:(xs0.flatMap (bT T)).take (xs0.length*T.size)=xs0.flatMap (bT T):=by rw[<- fl,cP]
         have hmem:X_ (nm id) rdl=aj:=by
          cases hx:X_ (nm id) rdl with
          |false=>rfl
          |true=>
           obtain⟨i,e,hm⟩:=h6 _ (ais.1 hx);rw[<- kT e,hmid] at hm;cases hm
         have I:eS (.app ty' T.size bytes s x) (Jx e h) H (nm nx)=af ⟨.row (nm nx) T.size (xs0.length+J.length),nm id::rdl,[nm nx,nm id],[(nm nx,⟨ty',.fz ((xs0++J).flatMap (bT T))⟩)],[nm nx]⟩:=by
          have hcnd:(T.size==T.size&& !(X_ (nm id) rdl)&&(BC.fz (xs0.flatMap (bT T))).isCells&&eM (xs0.length*T.size) (BC.fz (xs0.flatMap (bT T))).len&&ty'==ty'&&a_ (xs0.length+J.length) bytes)=ai:=by
           have:eM (xs0.length*T.size) (BC.fz (xs0.flatMap (bT T))).len=ai:=bE (by simp only[BC.len];omega);rw[this,hmem,hroom];simp[BC.isCells]
          simp only[eS,h1,h3,h5,hg,hcnd,bH,BC.toMx,<-kH,tk,<-cC,CU,List.flatMap_append]
         have hne2:¬((p&&(xs0++J).length==0)=ai):=by
          simp only[av,c5,bu] at hp ⊢;intro hh;exact hp ⟨hh.1,by omega⟩
         refine jk.mk' hc hH I [nm nx,nm id] (λi hi=>hi) (λn hn=>?_) (λi hi b' Z=>?_) (λH1 H2 d hw1 _ hw2=>⟨λi hi b b' Y U=>?_,λy M=>?_⟩) (λn hn=>?_) (λn hn=>hwm n (by simpa using hn)) (λn hn=>by simp only[aL] at hn;subst hn;rw[ec];omega) hr hinv' (by omega)
         .simp only[bm,cw,gi,not_or] at hn;exact hsame n hn.1 hn.2
         .simp only[bm,cw,gi] at hi;rcases hi with rfl|rfl
          .exact⟨_,by rw[aF (by simp)];exact ik _ _⟩
          .rw[hdead] at Z;cases Z
         .simp only[bm,cw,gi] at hi;rcases hi with rfl|rfl
          .rw[hw1 _ (by simp),ik] at Y;rw[hw2 _ (by simp),hnew,ay hne2] at U;simp only[ak] at Y U;subst Y;subst U;exact jX.refl d _
          .rw[hw2 _ (by simp),hdead] at U;cases U
         .rw[hval] at M;simp only[fA] at M;rw[ay hne2] at M;simp only[bu,ak] at M;subst M;exact lP.refl d _
         .rcases bm.1 hn with rfl|hn
          .rw[ec,bt,bY.2 rfl];rfl
          .exact hrd n hn
       .cases hk
      .cases hk
     .cases hk
    .obtain⟨hroom,hk⟩:=dY hk;simp only[cq,ak] at h2;subst h2;exact⟨_,_,_,_,_,hk,onEmp m (λn hn=>by obtain⟨i,rfl,hm⟩:=h6 n hn;rw[ec];exact hm) rfl (Le.refl _) hroom⟩
    .obtain⟨hroom,hk⟩:=dY hk;simp only[cq,ak] at h2;subst h2;exact⟨_,_,_,_,_,hk,onEmp m (λn hn=>by obtain⟨i,rfl,hm⟩:=h6 n hn;rw[ec];exact hm) rfl Le.nilEmp hroom⟩
    .cases hk
   .cases hk
  .cases hk
 .cases hk
theorem abz {T:Ty} (xs I:List T.den):(TI xs I).flatMap (bT T)=AI.splice (xs.flatMap (bT T)) 0 ((I.flatMap (bT T)).take (iS I.length xs.length*T.size)):=by
 have _:=hinv;have _:=hi;have fl:=λJ:List T.den=>fE (bD T) J
 have tk:∀ (J:List T.den) n,(J.flatMap (bT T)).take (n*T.size)=(J.take n).flatMap (bT T):=by
  intro J;induction J with
  |nil=>intro n;simp
  |cons z r M=>
   intro n;cases n with
   |zero=>simp
   |succ n=>rw[fM,vW,fM,iR,List.take_append,bD,f_ (by rw[bD];omega),show n*T.size+T.size-T.size=n*T.size from by omega,M n]
 have U:∀ (J:List T.den) n,(J.flatMap (bT T)).drop (n*T.size)=(J.drop n).flatMap (bT T):=by
  intro J;induction J with
  |nil=>intro n;simp
  |cons z r M=>
   intro n;cases n with
   |zero=>simp
   |succ n=>rw[fM,vY,iR,vb,bD,rT (by rw[bD];omega),show n*T.size+T.size-T.size=n*T.size from by omega,M n,lU]
 unfold TI AI.splice;rw[tk,List.flatMap_append,fl,bI];have e1:I.take (iS I.length xs.length)=I.take xs.length:=by
  rcases Nat.le_total I.length xs.length with h|h
  .rw[show iS I.length xs.length=I.length from sM h,cP,f_ h]
  .rw[show iS I.length xs.length=xs.length from Nat.min_eq_right h]
 rw[e1];have e2:min (iS I.length xs.length) I.length=iS I.length xs.length:=sM (Nat.min_le_left _ _);rw[e2];simp only[List.take_zero,lU,bN];rw[U];congr 1;rcases Nat.le_total I.length xs.length with h|h
 .rw[show iS I.length xs.length=I.length from sM h]
 .rw[show iS I.length xs.length=xs.length from Nat.min_eq_right h,List.drop_length,rT h]
theorem al4 {con:FuncId->Option cg} {bX:TypeId->Option Ty} {sz:Nat} {d x:Operand} (hc:du P o.op=af (.copy sz d x)) (hk:dW con bX (.op (.copy sz d x)) e h nx K=af r):kR P o aj e h nx K r:=by
 obtain⟨H,Z⟩:=jM h;simp only[dW] at hk;split at hk
 .rename_i id y hv U;split at hk
  .rename_i ty p T xs hb;split at hk
   .rename_i hs;have hs:=aw hs;subst hs;split at hk
    .rename_i I m hys;split at hk
     .rename_i hcond;simp only[av,eA] at hcond;obtain⟨hmid,rfl⟩:=hcond;obtain⟨yb,h1,h2⟩:=bM hi hv;obtain⟨yy,h3,h4⟩:=bM hi U;obtain⟨rdl,h5,h6⟩:=WC Z hys h4;simp only[cq,eD,hb,fA,nB,cz,ef,ak] at h2;subst h2;have fl:=fE (bD T) xs;have fl2:=fE (bD T) I;have hg:H.get (nm id)=af ⟨ty,.fz (xs.flatMap (bT T))⟩:=by rw[Z,bK,hb];simp[kC]
      have hmem:X_ (nm id) rdl=aj:=by
       cases J:X_ (nm id) rdl with
       |false=>rfl
       |true=>
        obtain⟨i,e,hm⟩:=h6 _ (ais.1 J);rw[<- kT e,hmid] at hm;cases hm
      have hle:iS I.length xs.length*T.size<=xs.length*T.size:=cH _ (Nat.min_le_right _ _);have Y:eS (.copy T.size d x) (Jx e h) H (nm nx)=af ⟨raw (.int .i64 (iS I.length xs.length)),nm id::rdl,[nm id],[(nm id,⟨ty,.fz ((TI xs I).flatMap (bT T))⟩)],[]⟩:=by
       have hcnd:(T.size==T.size&& !(X_ (nm id) rdl)&&eM (xs.length*T.size) (BC.fz (xs.flatMap (bT T))).len)=ai:=by
        have:eM (xs.length*T.size) (BC.fz (xs.flatMap (bT T))).len=ai:=bE (by simp only[BC.len];omega);rw[this,hmem];simp
       have hput:(BC.fz (xs.flatMap (bT T))).put 0 (((I.flatMap (bT T)).map .f).take (iS I.length xs.length*T.size))=af (.fz ((TI xs I).flatMap (bT T))):=by
        rw[<- kH];unfold BC.put;rw[aF]
        .simp only[KL];rw[abz hinv hi]
        .simp only[av];refine ⟨⟨rfl,bE ?_⟩,?_⟩
         .simp only[BC.len,bR,bI];omega
         .have:∀ l:List FV,(∀ x∈l,x.isCell=ai)->gJ (l.map .f)=ai:=by
           intro l hl;induction l with
           |nil=>rfl
           |cons z r ih=>simp only[gr,gJ,av];exact⟨hl z (by simp),ih λx J=>hl x (by simp[J])⟩
          exact this _ λx J=>rM T I x (gY J)
       simp only[eS,h1,h3,hg,h5,hcnd,bH,hput]
      have hrow:mJ (.rows ty aj T (TI xs I))=mJ (.rows ty aj T xs):=by
       have:(TI xs I).length=xs.length:=by unfold TI;rw[bu,bI,mF];omega
       simp only[mJ,this]
      have key:=jk.wrt (m:=0) (v:=.f (.int .i64) (aO (iS (al I) (al xs)))) (rd:=kQ id|||m) hinv hc Z Y (B:=.rows ty aj T (TI xs I)) hb (dT.zero h) (by simp) hrow (λ_ _ he=>by cases he) (λH1 H2 d g b' M=>by
       simp only[kC,nB,cz,ef,ak] at M;subst M;exact jX.refl d _) (λH1 H2 y d g hy=>by
       simp only[cq,ak] at hy;subst hy;exact lP.refl d _) (λn hn=>by
       rcases bm.1 hn with rfl|hn
       .rw[ec,bt,bY.2 rfl];rfl
       .obtain⟨i,rfl,hm⟩:=h6 n hn;rw[ec,bt,hm];simp)
      rw[yG] at key;exact⟨_,_,_,_,_,hk,key⟩
     .cases hk
    .cases hk
   .cases hk
  .cases hk
 .cases hk
theorem agn {con:FuncId->Option cg} {bX:TypeId->Option Ty} {sz:Nat} {x v:Operand} (hc:du P o.op=af (.store sz x v)) (hk:dW con bX (.op (.store sz x v)) e h nx K=af r):kR P o aj e h nx K r:=by
 obtain⟨H,hH⟩:=jM h;simp only[dW] at hk;split at hk
 .rename_i id off y hv hv2;obtain⟨yb,h1,h2⟩:=bM hi hv;obtain⟨J,h3,h4⟩:=bM hi hv2;simp only[cq,ak] at h2;subst h2;split at hk
  .rename_i ty l hb;split at hk
   .rename_i cs hcs;split at hk
    .rename_i hcond;simp only[av,c5] at hcond;obtain⟨h5,h6⟩:=Kk hcs h4;obtain⟨M,hl⟩:=fy h l (hinv.cells id ty l hb);have hg:H.get (nm id)=af ⟨ty,.mx M⟩:=by rw[hH,bK,hb];simp only[aH,kC,hl]
     have hcell:=sa h5 h6;have hlen:J.cs.length=sz:=by rw[ib h5];exact hcond.1
     have hput:(BC.mx M).put off J.cs=af (.mx (splice M off J.cs)):=by
      unfold BC.put;rw[aF]
      .rfl
      .simp only[av];exact⟨⟨rfl,by simp only[BC.len];rw[hlen,ib hl];exact hcond.2⟩,hcell⟩
     have Z:eS (.store sz x v) (Jx e h) H (nm nx)=af ⟨raw undef,[nm id],[nm id],[(nm id,⟨ty,.mx (splice M off J.cs)⟩)],[]⟩:=by
      simp only[eS,h1,h3,KH,hg,hlen,cY,bH,hput]
     have hspl:∀ h',co h h'->cN h' (splice l off cs)=af (splice M off J.cs):=λh' hr=>sG off (hP hr l M hl) (hP hr cs _ h5)
     have U:co h (h.set id (af (.cells ty (splice l off cs)))):=co.set λr hr=>by rw[bU,hb] at hr;cases hr
     have key:=jk.wrt (m:=0) (v:=.undef) (rd:=kQ id) hinv hc hH Z (B:=.cells ty (splice l off cs)) hb (dT.zero h) (by simp) rfl (λty' l2 he=>by cases he;exact kO _ _ _ (hspl _ U)) (λH1 H2 d g b' I=>by
      have:=hspl _ U;simp only[eH,rS,bH,kC,this,ak] at I;subst I;exact jX.refl d _) (λH1 H2 y d g hy=>by
      simp only[cq,ak] at hy;subst hy;exact lP.refl d _) (λn hn=>by simp only[aL] at hn;subst hn;rw[ec];exact bY.2 rfl)
     rw[yG] at key;exact⟨_,_,_,_,_,hk,key⟩
    .cases hk
   .cases hk
  .cases hk
 .rename_i id sz' j off y hv hv2;obtain⟨yb,h1,h2⟩:=bM hi hv;obtain⟨J,h3,h4⟩:=bM hi hv2;simp only[cq,ak] at h2;subst h2;split at hk
  .rename_i ty p T xs hb;split at hk
   .rename_i hsz;have hsz:=aw hsz;subst hsz;obtain⟨hj,hk⟩:=dY hk;split at hk
    .rename_i z m hset;split at hk
     .cases hk
     .rename_i hmid;have hmid:aN m id=aj:=by simpa using hmid
      have hm:=Ad 40 T _ off sz z m hset;obtain⟨j0,j1,j2⟩:=EI hj;have hne:¬((p&&xs.length==0)=ai):=by simp only[av,c5];omega
      have hne2:¬((p&&(cQ xs j z).length==0)=ai):=by unfold cQ;rw[sO];exact hne
      have hg:H.get (nm id)=af ⟨ty,.fz (xs.flatMap (bT T))⟩:=by rw[hH,bK,hb];simp only[aH,kC,ay hne]
      have fl:=fE (bD T) xs;have hx:xs[j.toNat]? =af (aJ xs j):=by
       unfold aJ;rw[aA,aB j2];rfl
      have hle:(j.toNat+1)*T.size<=xs.length*T.size:=cH _ j2;rw[iR] at hle;have hso:∀ H1 H2,vD H1 H2->Ed h H1 H2 m->XN H1 H2 J T (aJ xs j) z off sz:=λH1 H2 d g=>wg d h4 40 T _ off sz z m hset g
      have hshape:J.cs.length=sz/\off+sz<=T.size/\gJ J.cs=ai:=by
       have d0:vD (bC h) (bC (eH m h)):=λi b hb=>by
        obtain⟨i',c,rfl,g1,g2⟩:=jy hb;rw[iZ] at g1;by_cases ht:aN m i'=ai
        .obtain⟨pp,ss,nn,g3⟩:=tW hm ht;rw[iZ] at g3;rw[g3] at g1;cases g1;cases g2
        .rw[ay ht] at g1;exact⟨b,by rw[bK,g1];simp only[aH];rw[<- Jy (co.kill m h) (λty l e=>hinv.cells i' ty l (by rw[g1,e]))];exact g2⟩
       obtain⟨fs,q1,q2,q3,q4,q5⟩:=hso _ _ d0 (λi hi=>⟨rfl,by
        obtain⟨pp,ss,nn,g3⟩:=tW hm hi;rw[bK,g3];rfl⟩)
       refine ⟨by rw[<- q2,<-bR (f:=AV.f),q1.length],q3,?_⟩;exact rk h4 40 T _ off sz z m hset
      obtain⟨hlen,hoff,hcell⟩:=hshape;obtain⟨c',hput,Y,hc2⟩:∃ c',(BC.fz (xs.flatMap (bT T))).put (j.toNat*T.size+off) J.cs=af c'/\c'.toMx=splice ((xs.flatMap (bT T)).map .f) (j.toNat*T.size+off) J.cs/\c'.isCells=ai:=by
       unfold BC.put;rw[aF]
       .split
        .rename_i l ys hl hys;simp only[BC.fz.injEq] at hl;subst hl;refine ⟨_,rfl,?_,rfl⟩;rw[pQ hys];simp only[BC.toMx];unfold splice;simp[kH,List.map_drop]
        .exact⟨_,rfl,rfl,rfl⟩
       .simp only[av];exact⟨⟨rfl,bE (by simp only[BC.len];omega)⟩,hcell⟩
      have Z:eS (.store sz x v) (Jx e h) H (nm nx)=af ⟨raw undef,[nm id],[nm id],[(nm id,⟨ty,c'⟩)],[]⟩:=by
       simp only[eS,h1,h3,KH,hg,hlen,cY,bH,hput]
      have hrow:mJ (.rows ty p T (cQ xs j z))=mJ (.rows ty p T xs):=by
       unfold cQ;simp only[mJ,sO]
      refine ⟨_,_,_,_,_,hk,jk.wrt hinv hc hH Z (B:=.rows ty p T (cQ xs j z)) hb hm hmid hrow (λ_ _ he=>by cases he) (λH1 H2 d g b' I=>?_) (λH1 H2 y d g hy=>?_) (λn hn=>?_)⟩
      .simp only[kC,ay hne2,ak] at I;subst I;obtain⟨fs,q1,q2,q3,q4,q5⟩:=hso H1 H2 d g;have hfl:(cQ xs j z).flatMap (bT T)=AI.splice (xs.flatMap (bT T)) (j.toNat*T.size+off) fs:=Rr (bD T) xs j.toNat _ z hx off fs (by omega) q4;refine jX.cells hc2 rfl ?_ λx hx=>?_
       .rw[Y];simp only[BC.toMx];rw[hfl];have:(AI.splice (xs.flatMap (bT T)) (j.toNat*T.size+off) fs).map AV.f=AI.splice ((xs.flatMap (bT T)).map .f) (j.toNat*T.size+off) (fs.map .f):=by unfold AI.splice;simp[kH,List.map_drop]
        rw[this];exact (ii.refl d _).splice _ q1
       .simp only[BC.toMx] at hx;obtain⟨q,hq,rfl⟩:=di.1 hx;exact rM T _ q hq
      .simp only[cq,ak] at hy;subst hy;exact lP.refl d _
      .simp only[aL] at hn;subst hn;rw[ec,bt,bY.2 rfl];simp
    .cases hk
   .cases hk
  .rename_i ty l hb;split at hk
   .rename_i hsz;simp only[av] at hsz;obtain⟨s1,s2,s3⟩:=hsz;have s1:=aw s1;have s2:=aw s2;have s3:=aw s3;subst s1;subst s2;subst s3;obtain⟨hj,hk⟩:=dY hk;obtain⟨j0,j1,j2⟩:=EI hj;split at hk
    .rename_i cs hcs;split at hk
     .rename_i Y;have Y:=aw Y;obtain⟨h5,h6⟩:=Kk hcs h4;obtain⟨M,hl⟩:=fy h l (hinv.cells id ty l hb);have hg:H.get (nm id)=af ⟨ty,.mx M⟩:=by rw[hH,bK,hb];simp only[aH,kC,hl]
      have hcell:=sa h5 h6;have hlen:J.cs.length=1:=by rw[ib h5];exact Y
      have e0:j.toNat*1+0=j.toNat:=by omega
      rw[e0] at h1;have hput:(BC.mx M).put j.toNat J.cs=af (.mx (splice M j.toNat J.cs)):=by
       unfold BC.put;rw[aF]
       .rfl
       .simp only[av];exact⟨⟨rfl,bE (by simp only[BC.len];rw[hlen,ib hl];omega)⟩,hcell⟩
      have Z:eS (.store 1 x v) (Jx e h) H (nm nx)=af ⟨raw undef,[nm id],[nm id],[(nm id,⟨ty,.mx (splice M j.toNat J.cs)⟩)],[]⟩:=by
       simp only[eS,h1,h3,KH,hg,hlen,cY,bH,hput]
      have hspl:∀ h',co h h'->cN h' (splice l j.toNat cs)=af (splice M j.toNat J.cs):=λh' hr=>sG j.toNat (hP hr l M hl) (hP hr cs _ h5)
      have U:co h (h.set id (af (.cells ty (splice l j.toNat cs)))):=co.set λr hr=>by rw[bU,hb] at hr;cases hr
      have key:=jk.wrt (m:=0) (v:=.undef) (rd:=kQ id) hinv hc hH Z (B:=.cells ty (splice l j.toNat cs)) hb (dT.zero h) (by simp) rfl (λty' l2 he=>by cases he;exact kO _ _ _ (hspl _ U)) (λH1 H2 d g b' I=>by
       have:=hspl _ U;simp only[eH,rS,bH,kC,this,ak] at I;subst I;exact jX.refl d _) (λH1 H2 y d g hy=>by
       simp only[cq,ak] at hy;subst hy;exact lP.refl d _) (λn hn=>by simp only[aL] at hn;subst hn;rw[ec];exact bY.2 rfl)
      rw[yG] at key;exact⟨_,_,_,_,_,hk,key⟩
     .cases hk
    .cases hk
   .cases hk
  .cases hk
 .cases hk
theorem akz {con:FuncId->Option cg} {bX:TypeId->Option Ty} {ty:TypeId} {sz bytes:Nat} {z:List Value} {l c:Operand} (hc:du P o.op=af (.mksl ty sz bytes z l c)) (hk:dW con bX (.op (.mksl ty sz bytes z l c)) e h nx K=af r):kR P o aj e h nx K r:=by
 cases hcm:DP (bX ty) with
 |none=>exact ago hinv hi hcm hc hk
 |some n=>
  obtain⟨H,hH⟩:=jM h;simp only[dW,hcm] at hk;split at hk
  .rename_i zc k a k' b J hv M;obtain⟨hck,hk⟩:=dY hk;rw[av] at hck;obtain⟨hcond,hn⟩:=hck;have hn:=bn hn;obtain⟨y,h1,h2⟩:=bM hi hv;obtain⟨y2,h3,Y⟩:=bM hi M;simp only[cq,ak] at h2 Y;subst h2;subst Y;have han:aU a=n:=by rw[hn];rfl
   obtain⟨_,_,hzc⟩:=vA h J;refine ⟨_,_,_,_,_,hk,jk.new hinv hc hH (y0:=.row (nm nx) sz n) (rdl:=[]) (b0:=⟨ty,.fz (repl z n)⟩) (by simp only[eS,h1,h3,gK,hcond,bH,han]) (dT.zero h) (λty' l' he=>?_) (λH1 H2 d g b' I=>?_) (λH1 H2 y d g U=>?_) (by simp)⟩
   .cases he;exact kO _ _ _ (MD _ J n)
   .simp only[kC,MD _ J n,ak] at I;subst I;refine jX.cells rfl rfl (ii.refl d _) λx Z=>?_
    exact lO (sa (MD h J n) (Fs hzc n)) x Z
   .simp only[cq,ak] at U;subst U;exact lP.refl d _
  .cases hk
theorem aoj {con:FuncId->Option cg} {bX:TypeId->Option Ty} {ty:TypeId} {sz len:Nat} {z:List Value} {parts:List (Nat×Nat×Operand)} (hc:du P o.op=af (.bsl ty sz len z parts)) (hk:dW con bX (.op (.bsl ty sz len z parts)) e h nx K=af r):kR P o aj e h nx K r:=by
 cases hcm:DP (bX ty) with
 |none=>exact al6 hinv hi hcm hc hk
 |some n=>
  obtain⟨H,Z⟩:=jM h;simp only[dW,hcm] at hk;split at hk
  .rename_i zc M;split at hk
   .rename_i cs hf;split at hk
    .cases hk
    .rename_i hl;have hl:len≠0:=λe=>hl (by rw[e];rfl)
     obtain⟨cs',h1,h2,h3⟩:=Dg hi parts _ cs _ hf (MD h M len);obtain⟨_,_,hzc⟩:=vA h M;have hcs:=h3 (Fs hzc len);have hr:co h ((eH 0 h).set nx (af (.cells ty cs))):=(co.kill 0 h).trans (co.set λr hr=>by rw[bU,(hinv.kill 0).fresh] at hr;cases hr);have J:=hP hr _ _ h2;refine ⟨_,_,_,_,_,hk,jk.new hinv hc Z (y0:=.row (nm nx) sz len) (rdl:=[]) (b0:=⟨ty,pq cs'⟩) (by simp only[eS,h1,ay hl]) (dT.zero h) (λty' l' he=>?_) (λH1 H2 d g b' I=>?_) (λH1 H2 y d g U=>?_) (by simp)⟩
     .cases he;exact kO _ _ _ J
     .simp only[kC,J,ak] at I;subst I;obtain⟨q1,q2⟩:=nO cs';refine jX.cells q2 rfl ?_ λx Y=>?_
      .rw[q1];exact ii.refl d _
      .exact lO (sa h2 hcs) x Y
     .simp only[cq,ak] at U;subst U;exact lP.refl d _
   .cases hk
  .cases hk
theorem aom {con:FuncId->Option cg} {bX:TypeId->Option Ty} {ty:TypeId} {sz bytes:Nat} {s x:Operand} (hc:du P o.op=af (.app ty sz bytes s x)) (hk:dW con bX (.op (.app ty sz bytes s x)) e h nx K=af r):kR P o aj e h nx K r:=by
 cases hcm:DP (bX ty) with
 |none=>exact al7 hinv hi hcm hc hk
 |some n0=>
  obtain⟨H,hH⟩:=jM h;have hfr:=hinv.fresh;simp only[dW,hcm] at hk;split at hk
  .rename_i b y hv hv2;obtain⟨yb,h1,h2⟩:=bM hi hv;obtain⟨yy,h3,h4⟩:=bM hi hv2;unfold ahl at hk;split at hk
   .rename_i id2 sz2 m;simp only[cq,ak] at h4;subst h4;split at hk
    .rename_i ty2 l2 I;split at hk
     .rename_i hq;simp only[av,eA] at hq;obtain⟨⟨q1,q2⟩,q3⟩:=hq;have q1:=aw q1;have q2:=aw q2;have q3:m≠0:=λe=>by rw[e] at q3;cases q3
      subst q1;obtain⟨J,Z⟩:=fy h l2 (hinv.cells id2 ty2 l2 I);have hrow:=afe hH I Z q2;split at hk
      .rename_i id sz1 n;simp only[cq,ak] at h2;subst h2;split at hk
       .rename_i ty1 l1 U;split at hk
        .rename_i hq;simp only[av,eA] at hq;obtain⟨⟨⟨p1,p2⟩,p3⟩,p4⟩:=hq;have p1:=aw p1;have p2:=eq_of_beq p2;have p3:=aw p3;have p4:id≠id2:=λe=>by rw[e,rS] at p4;cases p4
         subst p1;subst p2;obtain⟨hroom,hk⟩:=dY hk;obtain⟨M,hl1⟩:=fy h l1 (hinv.cells id _ l1 U);have hln:=ib hl1;have hg:H.get (nm id)=af ⟨ty1,.mx M⟩:=by rw[hH,bK,U];simp only[aH,kC,hl1]
         have hidlt:id<nx:=hinv.low id _ U;generalize hB:iu.cells ty1 (l1++l2)=B at hk;have hd1:co h (h.set id (af (.dead ai 0 0))):=co.set λr hr=>by rw[bU,U] at hr;cases hr
         have hd2:co (h.set id (af (.dead ai 0 0))) ((h.set id (af (.dead ai 0 0))).set nx (af B)):=co.set λr hr=>by
          rw[bU,PT.get_set,ay (by omega),hfr] at hr;cases hr
         have hr:=hd1.trans hd2;have hsp:cN ((h.set id (af (.dead ai 0 0))).set nx (af B)) (l1++l2)=af (M++J):=hP hr _ _ (nk hl1 Z);have Y:bC ((h.set id (af (.dead ai 0 0))).set nx (af B)) (nm nx)=af ⟨ty1,.mx (M++J)⟩:=by rw[bK,PT.get_set,aF rfl,<-hB] at *;simp only[aH,kC,hsp]
         have hbd:bC ((h.set id (af (.dead ai 0 0))).set nx (af B)) (nm id)=ah:=by rw[bK,PT.get_set,ay (by omega),PT.get_set,aF rfl];rfl
         have hinv1:md (h.set id (af (.dead ai 0 0))) nx:=hinv.set hd1 hidlt (bW _) (λ_ _ he=>by cases he);have ha:eS (.app ty1 sz1 bytes s x) (Jx e h) H (nm nx)=af ⟨.row (nm nx) sz1 (n+m),[nm id,nm id2],[nm nx,nm id],[(nm nx,⟨ty1,pq (M++J)⟩)],[nm nx]⟩:=by
          simp only[eS,h1,h3,hrow,hg];rw[aF (by
           simp only[cY,pB,Bool.and_true,BC.isCells,BC.len,hroom,av,eA];refine ⟨?_,bE (by omega)⟩;simp only[X_,Bool.or_false];cases hq:aC (nm id2) (nm id) with
           |false=>rfl
           |true=>exact cR (kT (aw hq)).symm p4)]
          simp only[BC.toMx,f_ (show M.length<=n*sz1 by omega)]
         refine ⟨_,_,_,_,_,hk,jk.mk' hc hH ha [nm nx,nm id] (λi hi=>hi) (λq hq=>?_) (λi hi b' hbb=>?_) (λH1 H2 d hw1 _ hw2=>⟨λi hi b b' hb I=>?_,λy hy=>?_⟩) (λq hq=>?_) (λq hq=>?_) (λq hq=>?_) hr (hinv1.set hd2 (by omega) (by omega) λty' l' he=>?_) (by omega)⟩
         .simp only[bm,cw,gi,not_or] at hq;refine kP hinv hr λi ei=>?_
          subst ei;rw[PT.get_set,ay (λe=>hq.1 (by rw[e])),PT.get_set,ay (λe=>hq.2 (by rw[e]))]
         .simp only[bm,cw,gi] at hi;rcases hi with rfl|rfl
          .rw[aF (by simp)];exact⟨_,ik _ _⟩
          .rw[hbd] at hbb;cases hbb
         .simp only[bm,cw,gi] at hi;rcases hi with rfl|rfl
          .rw[hw1 _ (by simp),ik] at hb;rw[hw2 _ (by simp),Y] at I;simp only[ak] at hb I;subst hb;subst I;obtain⟨m1,m2⟩:=nO (M++J);exact jX.eq d m2 rfl m1
          .rw[hw2 _ (by simp),hbd] at I;cases I
         .simp only[cq,ak] at hy;subst hy;exact lP.refl d _
         .simp only[bm,cw,gi] at hq;rw[bt,iV];rcases hq with rfl|rfl
          .rw[ec];exact .inl (bY.2 rfl)
          .rw[ec];exact .inr (bY.2 rfl)
         .simp only[bm,cw,gi] at hq;rw[bt,iV];rcases hq with rfl|rfl
          .rw[ec];exact .inr (bY.2 rfl)
          .rw[ec];exact .inl (bY.2 rfl)
         .simp only[aL] at hq;subst hq;rw[ec];omega
         .rw[<- hB] at he;cases he;exact kO _ _ _ hsp
        .cases hk
       .cases hk
      .simp only[cq,ak] at h2;subst h2;obtain⟨hroom,hk⟩:=dY hk;have hr:co h ((eH 0 h).set nx (af (.cells ty l2))):=(co.kill 0 h).trans (co.set λr hr=>by rw[bU,(hinv.kill 0).fresh] at hr;cases hr);have h2':=hP hr _ _ Z;refine ⟨_,_,_,_,_,hk,jk.new hinv hc hH (y0:=.row (nm nx) sz2 m) (rdl:=[nm id2]) (b0:=⟨ty,pq J⟩) (by simp only[eS,h1,h3,hrow];simp[IV,Aj,hroom,q3]) (dT.zero h) (λty' l' he=>?_) (λH1 H2 d g b' Y=>?_) (λH1 H2 y d g hy=>?_) (λn hn=>?_)⟩
       .cases he;exact kO _ _ _ h2'
       .simp only[kC,h2',ak] at Y;subst Y;obtain⟨p1,p2⟩:=nO J;exact jX.eq d p2 rfl p1
       .simp only[cq,ak] at hy;subst hy;exact lP.refl d _
       .simp only[aL] at hn;subst hn;rw[ec];exact bY.2 rfl
      .cases hk
     .cases hk
    .cases hk
   .cases hk
  .cases hk
theorem ao0 {con:FuncId->Option cg} {bX:TypeId->Option Ty} {sz:Nat} {x:Operand} {lo hi' mx:Option Operand} (hc:du P o.op=af (.slc sz x lo hi' mx)) (hk:dW con bX (.op (.slc sz x lo hi' mx)) e h nx K=af r):kR P o aj e h nx K r:=by
 have hfr:=hinv.fresh;simp only[dW] at hk;split at hk
 .rename_i v hv;obtain⟨y,h1,h2⟩:=bM hi hv;split at hk
  .split at hk
   .rename_i hn;obtain⟨n,hn⟩:=iN.1 hn;have Y:=QE hn h2;exact kR.q (k:=0) hinv hc (λH _=>by simp only[eS,h1,Y,Option.isSome_some,bH]) (dw rfl) hk
   .cases hk
  .rename_i b;split at hk
   .rename_i T xs k j hb;obtain⟨y2,Y,U⟩:=bM hi hb;simp only[cq,ak] at h2 U;subst h2;subst U;split at hk
    .rename_i hs;have hs:=aw hs;subst hs;obtain⟨hj,hk⟩:=dY hk;have hfl:=fE (bD T) xs;have hcond:(c7 0 j&&c7 j (al xs)&&eM (al xs*T.size) (xs.flatMap (bT T)).length)=ai:=by
      rw[hj,pB];exact bE (by omega)
     simp only[c7,av,be] at hj;have hlen:(xs.take j.toNat).length=j.toNat:=by rw[bI];omega
     exact kR.q (k:=0) (y0:=.f (.sl ((xs.flatMap (bT T)).take (j.toNat*T.size)) j.toNat)) hinv hc (λH _=>by simp only[eS,h1,Y,gK,hcond,bH]) (dw (by simp only[cq,gK];rw[An (bD T),hlen])) hk
    .cases hk
   .rename_i id k j hb;obtain⟨y2,Y,U⟩:=bM hi hb;simp only[cq,ak] at U;subst U;split at hk
    .rename_i ty p T xs I;split at hk
     .rename_i hs;have hs:=aw hs;subst hs;obtain⟨hj,hk⟩:=dY hk;obtain⟨H,hH⟩:=jM h;have hj0:=hj;simp only[c7,fQ,av,be] at hj;have hp:¬((p&&xs.length==0)=ai):=by
       simp only[av,c5];omega
      simp only[cq,bU,I,aH,mJ,fA,ay hp,ak] at h2;subst h2;have hidlt:=hinv.low id _ I;have hne:nx≠id:=by omega
      have hg:H.get (nm id)=af ⟨ty,.fz (xs.flatMap (bT T))⟩:=by rw[hH,bK,I];simp only[aH,kC,ay hp]
      have fl:=fE (bD T) xs;have hcond:(T.size==T.size&&c7 0 j&&c7 j (al xs))=ai:=by
       simp only[c7,av,be,cY,BA];omega
      have hlen:(xs.take j.toNat).length=j.toNat:=by rw[bI];omega
      have ha0:eS (.slc T.size x ah (af b) ah) (Jx e h) H (nm nx)=af ⟨.row (nm nx) T.size j.toNat,[nm id],[nm nx,nm id],[(nm nx,⟨ty,.fz ((xs.take j.toNat).flatMap (bT T))⟩)],[nm nx]⟩:=by
       have hc2:((BC.fz (xs.flatMap (bT T))).isCells&&eM (al xs*T.size) (BC.fz (xs.flatMap (bT T))).len)=ai:=by
        simp only[BC.isCells,pB,BC.len];exact bE (by omega)
       simp only[eS,h1,Y,gK,hcond,bH,hg,hc2,BC.toMx,<-kH,CU,An (bD T)]
      generalize hh':(h.set id (af (.dead p T.size (al xs)))).set nx (af (.rows ty aj T (dP j.toNat xs)))=h' at hk;have hrA:co h (h.set id (af (.dead p T.size (al xs)))):=co.set λr hr=>by rw[bU,I] at hr;exact hr
      have J:∀ i,h'.get i=if i=nx then af (.rows ty aj T (dP j.toNat xs)) else if i=id then af (.dead p T.size (al xs)) else h.get i:=λi=>by rw[<- hh',PT.get_set,PT.get_set]
      have hr:co h h':=by
       rw[<- hh'];refine hrA.trans (co.set λr hr=>?_);rw[bU,PT.get_set,ay hne,hfr] at hr;cases hr
      have hinv':md h' (nx+1):=by
       refine ⟨λi ty l hil=>?_,λi c hic=>?_⟩
       .rw[J] at hil;split at hil
        .cases hil
        .split at hil
         .cases hil
         .exact iW hr l (hinv.cells i ty l hil)
       .rw[J] at hic;split at hic
        .omega
        .split at hic
         .omega
         .have:=hinv.low i c hic;omega
      have hsame:∀ n,n≠nm nx->n≠nm id->bC h' n=bC h n:=λn h1 h2=>kP hinv hr λi e=>by
       subst e;rw[J,ay (λe=>h1 (by rw[e])),ay (λe=>h2 (by rw[e]))]
      have hdead:bC h' (nm id)=ah:=by rw[bK,J,ay (by omega),aF rfl];rfl
      have hnew:bC h' (nm nx)=af ⟨ty,.fz ((xs.take j.toNat).flatMap (bT T))⟩:=by rw[bK,J,aF rfl];rfl
      have hval:cq h' (.row nx)=af (.row (nm nx) T.size j.toNat):=by simp only[cq,bU,J,bH,aH,mJ,fA,nB,cz,ef,hlen]
      refine ⟨_,_,_,_,_,hk,?_⟩;refine jk.mk' hc hH ha0 [nm nx,nm id] (λi hi=>hi) (λn hn=>?_) (λi hi b' hb'=>?_) (λH1 H2 d hw1 _ hw2=>⟨λi hi b b' Z M=>?_,λy hy=>?_⟩) (λn hn=>?_) (λn hn=>?_) (λn hn=>by simp only[aL] at hn;subst hn;rw[ec];omega) hr hinv' (by omega)
      .simp only[bm,cw,gi,not_or] at hn;exact hsame n hn.1 hn.2
      .simp only[bm,cw,gi] at hi;rcases hi with rfl|rfl
       .exact⟨_,by rw[aF (by simp)];exact ik _ _⟩
       .rw[hdead] at hb';cases hb'
      .simp only[bm,cw,gi] at hi;rcases hi with rfl|rfl
       .rw[hw1 _ (by simp),ik] at Z;rw[hw2 _ (by simp),hnew] at M;simp only[ak] at Z M;subst Z;subst M;exact jX.refl d _
       .rw[hw2 _ (by simp),hdead] at M;cases M
      .rw[hval] at hy;simp only[ak] at hy;subst hy;exact lP.refl d _
      .simp only[aL] at hn;subst hn;rw[ec];exact bY.2 rfl
      .simp only[bm,cw,gi] at hn;rcases hn with rfl|rfl<;>rw[ec,bt,bY.2 rfl]<;>simp
     .cases hk
    .cases hk
   .cases hk
  .rename_i b;split at hk
   .rename_i T xs k j hb;obtain⟨y2,Y,U⟩:=bM hi hb;simp only[cq,ak] at h2 U;subst h2;subst U;split at hk
    .rename_i hs;have hs:=aw hs;subst hs;obtain⟨hj,hk⟩:=dY hk;have hfl:=fE (bD T) xs;have hcond:(c7 0 j&&c7 j (al xs)&&eM (al xs*T.size) (xs.flatMap (bT T)).length)=ai:=by
      rw[hj,pB];exact bE (by omega)
     simp only[c7,av,be] at hj;have hlen:(xs.drop j.toNat).length=al xs-j.toNat:=by rw[mF]
     have htk:((xs.flatMap (bT T)).drop (j.toNat*T.size)).take ((al xs-j.toNat)*T.size)=(xs.flatMap (bT T)).drop (j.toNat*T.size):=by
      refine f_ ?_;rw[mF,hfl,Nat.sub_mul];exact bW _
     exact kR.q (k:=0) (y0:=.f (.sl ((xs.flatMap (bT T)).drop (j.toNat*T.size)) (al xs-j.toNat))) hinv hc (λH _=>by simp only[eS,h1,Y,gK,hcond,bH,htk]) (dw (by simp only[cq,gK];rw[Jr (bD T),hlen])) hk
    .cases hk
   .rename_i id k j hb;obtain⟨y2,Y,U⟩:=bM hi hb;simp only[cq,ak] at U;subst U;split at hk
    .rename_i ty p T xs I;split at hk
     .rename_i hs;have hs:=aw hs;subst hs;obtain⟨hj,hk⟩:=dY hk;have hcond:(T.size==T.size&&c7 0 j&&fQ j (al xs))=ai:=by
       simp only[av] at hj;rw[hj.1,hj.2,cY];rfl
      simp only[c7,fQ,av,be] at hj;have hp:¬((p&&xs.length==0)=ai):=by
       simp only[av,c5];omega
      simp only[cq,bU,I,aH,mJ,fA,ay hp,ak] at h2;subst h2;exact kR.q (k:=0) (y0:=.sl (nm id) (j.toNat*T.size) (al xs-j.toNat)) hinv hc (λH _=>by simp only[eS,h1,Y,gK,hcond,bH]) (dw (by simp only[cq,bU,I,aH,mJ])) hk
     .cases hk
    .cases hk
   .cases hk
  .cases hk
 .cases hk
theorem aoi {con:FuncId->Option cg} {bX:TypeId->Option Ty} {sz:Nat} {z:List Value} {x:Operand} (hc:du P o.op=af (.clr sz z x)) (hk:dW con bX (.op (.clr sz z x)) e h nx K=af r):kR P o aj e h nx K r:=by
 obtain⟨H,hH⟩:=jM h;simp only[dW] at hk;split at hk
 .rename_i id j hv;split at hk
  .rename_i ty p T xs hb;split at hk
   .rename_i hs;simp only[av] at hs;obtain⟨⟨hs,J⟩,hco⟩:=hs;have hs:=aw hs;have J:=KB J;subst hs;subst J;obtain⟨hj,hk⟩:=dY hk;simp only[c7,fQ,av,be] at hj;obtain⟨j0,j1⟩:=hj;obtain⟨y,h1,h2⟩:=bM hi hv;simp only[cq,bU,hb,aH,mJ,ak] at h2;subst h2;have hp:¬((p&&xs.length==0)=ai):=by
     simp only[av,c5];omega
    have fl:=fE (bD T) xs;have hg:H.get (nm id)=af ⟨ty,.fz (xs.flatMap (bT T))⟩:=by rw[hH,bK,hb];simp only[aH,kC,ay hp]
    have hrl:(repl (s5 T) (xs.length-j.toNat)).length=(xs.length-j.toNat)*T.size:=by
     have h9:=(HH (H:=λ_=>ah) (H':=λ_=>ah) (λn b hb=>by cases hb) T (xs.length-j.toNat)).length;rw[bR,bR,fE (bD T),eO] at h9;exact h9.symm
    have hoff:j.toNat*T.size+(xs.length-j.toNat)*T.size=xs.length*T.size:=by rw[<- NJ];congr 1;omega
    have hput:(BC.fz (xs.flatMap (bT T))).put (j.toNat*T.size) ((repl (s5 T) (xs.length-j.toNat)).map .f)=af (.fz (splice (xs.flatMap (bT T)) (j.toNat*T.size) (repl (s5 T) (xs.length-j.toNat)))):=by
     unfold BC.put;rw[aF]
     .simp only[KL]
     .simp only[av];refine ⟨⟨rfl,bE ?_⟩,GR _ λq hq=>?_⟩
      .simp only[BC.len,bR];omega
      .obtain⟨v,hv,rfl⟩:=Qk _ q hq;exact gw.1 hco v hv
    have hblt:gp 0 (xs.length-j.toNat)=ai:=bE (by omega);have Y:eS (.clr T.size (s5 T) x) (Jx e h) H (nm nx)=af ⟨.tup [],[nm id],[nm id],[(nm id,⟨ty,.fz (splice (xs.flatMap (bT T)) (j.toNat*T.size) (repl (s5 T) (xs.length-j.toNat)))⟩)],[]⟩:=by
     simp only[eS,h1,hg,hblt,bH,hput]
    have hlen:(dP j.toNat xs++aG (al xs-j.toNat) T.zero).length=xs.length:=by
     rw[bu,bI,eO];omega
    have hrow:mJ (.rows ty p T (dP j.toNat xs++aG (al xs-j.toNat) T.zero))=mJ (.rows ty p T xs):=by simp only[mJ,hlen]
    refine ⟨_,_,_,_,_,hk,jk.wrt (m:=0) (v:=.tup []) (rd:=kQ id) hinv hc hH Y hb (dT.zero h) (by simp) hrow (λ_ _ he=>by cases he) (λH1 H2 d g b' I=>?_) (λH1 H2 y d g Z=>?_) (λn hn=>?_)⟩
    .have U:¬((p&&(dP j.toNat xs++aG (al xs-j.toNat) T.zero).length==0)=ai):=by rw[hlen];exact hp
     simp only[kC,ay U,ak] at I;subst I;refine jX.cells rfl rfl ?_ λq hq=>?_
     .simp only[BC.toMx];unfold splice;rw[hrl,hoff,<-fl,List.drop_length,iU,List.flatMap_append,An (bD T),cC,cC];exact (ii.refl d _).append (HH d T _)
     .simp only[BC.toMx] at hq;obtain⟨q',M,rfl⟩:=di.1 hq;exact rM T _ q' M
    .simp only[cq,cN,ak] at Z;subst Z;exact lP.refl d _
    .simp only[aL] at hn;subst hn;rw[ec];exact bY.2 rfl
   .cases hk
  .cases hk
 .cases hk
end ops
theorem Um {K V:Ty} {es:List (K.den×V.den)} (I:mpE K V es=ai):es.map (λp=>(pN K p.1,AV.f (gK V p.2)))=[]:=by
 unfold mpE at I;split at I
 .rfl
 .cases I
theorem aip {K V:Ty} {es:List (K.den×V.den)} (I:mpE K V es=ai):Ul K=ai:=by
 unfold mpE at I;split at I
 .rfl
 .cases I
theorem W2 {str:Bool} {K:Ty} (I:X' str K=ai):Ul K=ai:=by
 cases K<;>cases str<;>first|rfl|cases I
theorem Og {str:Bool} {K:Ty} (I:X' str K=ai) (k k':K.den):uR .eql (pN K k) (pN K k')=af (.bool (PP K k k'))/\ze str (pN K k)=ai/\gK K k= .raw (pN K k):=by
 cases K<;>cases str<;>first|cases I|skip
 .exact⟨by simp only[uR,pN,PP,cY,bH,ak,Ci];exact Bool.beq_eq_decide_eq _ _,rfl,rfl⟩
 .exact⟨by simp only[uR,pN,PP,DX],rfl,rfl⟩
theorem QD {str:Bool} {K V:Ty} (I:X' str K=ai) (k:K.den):∀ es:List (K.den×V.den),tF (pN K k) (es.map λp=>(pN K p.1,AV.f (gK V p.2)))=af ((wD k es).map λv=>AV.f (gK V v))
 |[]=>rfl
 |(k',v)::r=>by
  simp only[gr,tF,(Og I k k').1,wD];cases hb:PP K k k' with
  |true=>rfl
  |false=>simp only[cz,ef];exact QD I k r
theorem WZ {str:Bool} {K V:Ty} (I:X' str K=ai) (k:K.den) (v:V.den):∀ es:List (K.den×V.den),za (pN K k) (.f (gK V v)) (es.map λp=>(pN K p.1,AV.f (gK V p.2)))=af ((Ez k v es).map λp=>(pN K p.1,AV.f (gK V p.2)))
 |[]=>rfl
 |(k',J)::r=>by
  simp only[gr,za,(Og I k k').1,Ez];cases hb:PP K k k' with
  |true=>rfl
  |false=>simp only[WZ I k v r,cz,ef,gr]
theorem ah9 {h:bi} {ok b:Bool} {v:TV} {y:AV} (hv:cq h v=af y):cq h (pkT ok v (.f .bool b))=af (pkV ok y b):=by
 cases ok with
 |false=>exact hv
 |true=>simp only[pkT,pkV,cq,cN,hv];rfl
section ops
variable {R:Type} {P:Program} {o:Oper} {e:iP} {h:bi} {nx:Nat} {K:KO R} {r:R}
theorem Le.aggOf {l:List FV} (hc:∀ x∈l,x.isCell=ai):Le (.agg (l.map .f)) (.f (.agg l)):=by
 intro φ O w v hr;cases hr with
 |@agg _ vs hl hcl hrr=>
  refine .f (.agg l vs (by simpa using hl) hc λj y u I hu=>?_);have:=hrr j (.f y) u (by rw[ba,I];rfl) hu;cases this with
  |f h=>exact h
def Qs (S:Ty) (l:List TV):Option (S.den×Nat×List TV):=match l with
 |c::r=>(match iL PT.leaf S c with|some (x,m)=>af (x,m,r)|none=>ah)
 |[]=>ah
theorem MP:∀ {l I:List FV},l.map AV.f=I.map AV.f->l=I
 |[],[],_=>rfl
 |[],_::_,h=>by simp at h
 |_::_,[],h=>by simp at h
 |x::r,y::r',h=>by
  simp only[gr,iT,AV.f.injEq] at h;rw[h.1,MP h.2]
theorem It (h:bi):∀ (ds:List TypeDesc) (T:Ty),rc ds=af T->∀ (n:Nat) (l:List TV) (x:T.den) (m:Nat) (r:List TV),e9 PT.leaf n T l=af (x,m,r)->∀ J,cN h l=af J->∃ l2,cN h r=af l2/\J=(bT T x).map .f++l2
 |[],T,hd,n,l,x,m,r,hp,J,hl=>by
  simp only[rc,ak] at hd;subst hd;cases n with
  |zero=>simp[e9] at hp
  |succ n=>
   simp only[e9,ak,aD] at hp;obtain⟨_,_,rfl⟩:=hp;exact⟨J,hl,rfl⟩
 |d::ds,T,hd,n,l,x,m,r,hp,J,hl=>by
  have plain:∀ (S:Ty),S.one=ai->(∀ t,S≠ .sl t)->∀ (v:TV) (a:S.den) (m:Nat) (y:AV),iL PT.leaf S v=af (a,m)->cq h v=af y->y= .f (gK S a):=by
   intro S Y hns v a m y I hy;cases v with
   |f Q q=>
    simp only[iL] at I;split at I
    .rename_i z hz;simp only[ak,aD] at I;obtain⟨rfl,_⟩:=I;obtain⟨e,rfl⟩:=ji hz;subst e;simp only[cq,ak] at hy;exact hy.symm
    .cases I
   |emp=>
    cases S with
    |sl t=>exact cR rfl (hns t)
    |_=>simp[iL] at I
   |nil=>
    cases S with
    |sl t=>exact cR rfl (hns t)
    |_=>simp[iL] at I
   |row id=>simp[iL,PT.get] at I
   |fel T xs j hj off=>simp[iL] at I
   |pel id sz j off=>simp[iL] at I
   |ptr id off=>simp[iL] at I
   |csl id off z=>simp[iL] at I
   |mp id=>simp[iL] at I
   |rtl id jj=>simp[iL] at I
   |agg q=>simp[iL] at I
   |tup q=>simp[iL] at I
   |clo f q=>simp[iL] at I
   |undef=>simp[iL] at I
   |np=>simp[iL] at I
   |anyb=>simp[iL] at I
  have one:∀ (S:Ty),S.one=ai->(∀ t,S≠ .sl t)->∀ (n:Nat) (l:List TV) (a:S.den) (m:Nat) (r:List TV),e9 PT.leaf n S l=af (a,m,r)->∀ J,cN h l=af J->∃ l2,cN h r=af l2/\J=(bT S a).map .f++l2:=by
   intro S Y hns n l a m r hp J hl;cases n with
   |zero=>simp[e9] at hp
   |succ n=>
    cases l with
    |nil=>
     cases S with
     |int k=>cases hp
     |bool=>cases hp
     |str=>cases hp
     |sl t=>exact cR rfl (hns t)
     |_=>cases Y
    |cons c q=>
     have hpp:Qs S (c::q)=af (a,m,r):=by
      cases S with
      |int k=>simp only[e9] at hp;simp only[Qs];cases hq:iL PT.leaf (.int k) c with
       |none=>rw[hq] at hp;cases hp
       |some z=>rw[hq] at hp;exact hp
      |bool=>simp only[e9] at hp;simp only[Qs];cases hq:iL PT.leaf .bool c with
       |none=>rw[hq] at hp;cases hp
       |some z=>rw[hq] at hp;exact hp
      |str=>simp only[e9] at hp;simp only[Qs];cases hq:iL PT.leaf .str c with
       |none=>rw[hq] at hp;cases hp
       |some z=>rw[hq] at hp;exact hp
      |sl t=>exact cR rfl (hns t)
      |_=>cases Y
     simp only[Qs] at hpp;split at hpp
     .rename_i a1 m1 h1;simp only[ak,aD] at hpp;obtain⟨rfl,rfl,rfl⟩:=hpp;obtain⟨y,l2,rfl,g1,Z⟩:=c8 hl;have:=plain S Y hns c a1 m1 y h1 g1;subst this;exact⟨l2,Z,by rw[(Dl S a1 Y).1];rfl⟩
     .cases hpp
  have two:∀ (S U:Ty),S.one=ai->(∀ t,S≠ .sl t)->rc ds=af U->T= .pr S U->∃ l2,cN h r=af l2/\J=(bT T x).map .f++l2:=by
   intro S U Y hns M e;subst e;cases n with
   |zero=>simp[e9] at hp
   |succ n=>
    simp only[e9] at hp;split at hp
    .rename_i x1 m1 r1 h1;split at hp
     .rename_i x2 m2 r2 h2;simp only[ak,aD] at hp;obtain⟨rfl,rfl,rfl⟩:=hp;obtain⟨l2,g1,Z⟩:=one S Y hns n l x1 m1 r1 h1 J hl;obtain⟨l3,g3,g4⟩:=It h ds U M n r1 x2 m2 r2 h2 l2 g1;exact⟨l3,g3,by rw[Z,g4,bT,cC,iB]⟩
     .cases hp
    .cases hp
  cases d with
  |int k=>
   simp only[rc] at hd;split at hd
   .rename_i U M;simp only[ak] at hd;exact two (.int k) U rfl (λt h=>by cases h) M hd.symm
   .cases hd
  |bool=>
   simp only[rc] at hd;split at hd
   .rename_i U M;simp only[ak] at hd;exact two .bool U rfl (λt h=>by cases h) M hd.symm
   .cases hd
  |string=>
   simp only[rc] at hd;split at hd
   .rename_i U M;simp only[ak] at hd;exact two .str U rfl (λt h=>by cases h) M hd.symm
   .cases hd
  |_=>simp[rc] at hd
theorem Dj:∀ (ds:List TypeDesc) (T:Ty),rc ds=af T->∀ a b:T.den,o7 ds (bT T a) (bT T b)=af (PP T a b)
 |[],T,hd,a,b=>by simp only[rc,ak] at hd;subst hd;rfl
 |d::ds,T,hd,a,b=>by
  cases d with
  |int k=>
   simp only[rc] at hd;split at hd
   .rename_i U M;simp only[ak] at hd;subst hd;have J:=Dj ds U M a.2 b.2;simp only[bT,gu,lU,o7,xM,cY,bH,PP];cases he:((a.1:Int)==b.1) with
    |true=>have I:(a.1:Int)=b.1:=by simpa using he
           simp only[J,I,cM,pB]
    |false=>have I:¬(a.1:Int)=b.1:=by simpa using he
            simp only[I,cu,nB]
   .cases hd
  |bool=>
   simp only[rc] at hd;split at hd
   .rename_i U M;simp only[ak] at hd;subst hd;have J:=Dj ds U M a.2 b.2;simp only[bT,gu,lU,o7,xM,PP];cases he:((a.1:Bool)==b.1)<;>simp[he,J]
   .cases hd
  |string=>
   simp only[rc] at hd;split at hd
   .rename_i U M;simp only[ak] at hd;subst hd;have J:=Dj ds U M a.2 b.2;simp only[bT,gu,lU,o7,xM,PP,DX];cases he:decide ((a.1:List UInt8)=b.1) with
    |true=>simp only[J,pB]
    |false=>simp only[nB]
   .cases hd
  |_=>simp[rc] at hd
theorem Nw {u:TV} (hu:u.isC=aj) {lu:List TV} (hl:u.cs=af lu) {ds:List TypeDesc} {T:Ty} (hd:rc ds=af T) {a:T.den} {m:Nat} (hp:e9 PT.leaf 40 T lu=af (a,m,[])) {y:AV} (I:cq h u=af y):Le y (.f (.agg (bT T a))):=by
 obtain⟨h1,_⟩:=Kk hl I;obtain⟨l2,h2,J⟩:=It h ds T hd 40 lu a m [] hp _ h1;simp only[cN,ak] at h2;subst h2;rw[iU] at J;cases u with
 |agg l=>
  simp only[cq] at I;split at I
  .rename_i M _;simp only[ak] at I;subst I;have:M=(bT T a).map .f:=J;rw[this];exact Le.aggOf (nW T a)
  .cases I
 |f S x=>
  simp only[cq,ak] at I;subst I;have U:S.one=aj:=hu;rw[Ap] at J;have:bT S x=bT T a:=MP J;rw[qJ S x U,this];exact Le.refl _
 |tup l=>simp[TV.cs,TV.isC] at hl
 |undef=>simp[TV.cs,TV.isC] at hl
 |np=>cases hu
 |anyb=>simp[TV.cs,TV.isC] at hl
 |fel T xs j hj off=>cases hu
 |pel id sz j off=>cases hu
 |ptr id off=>cases hu
 |csl id off z=>cases hu
 |row id=>cases hu
 |emp=>cases hu
 |nil=>cases hu
 |mp id=>cases hu
 |rtl id Y=>cases hl
 |clo g l=>cases hu
variable (hinv:md h nx) (hi:tN e h)
include hinv hi
theorem aog {con:FuncId->Option cg} {bX:TypeId->Option Ty} {neg:Bool} {ds:List TypeDesc} {x y:Operand} {st:Bool} (hc:du P o.op=af (.eqs neg ds x y)) (hk:dW con bX (.op (.eqs neg ds x y)) e h nx K=af r):kR P o st e h nx K r:=by
 obtain⟨H,hH⟩:=jM h;simp only[dW] at hk;split at hk
 .rename_i T u v hd hu hv;split at hk
  .cases hk
  .rename_i hcc;simp only[iV,not_or,Bool.not_eq_true] at hcc;split at hk
   .rename_i lu lv hlu hlv;split at hk
    .rename_i a m1 b m2 hpa hpb;obtain⟨yu,h1,h2⟩:=bM hi hu;obtain⟨yv,h3,h4⟩:=bM hi hv;obtain⟨⟨⟨U,M⟩,hc3⟩,Z⟩:=hcc;have l1:=Nw U hlu hd hpa h2;have l2:=Nw M hlv hd hpb h4;have tmp:∀ (z:Operand) (q:TV),fO e z=af q->q.isC=aj->Uu z=aj->∃ t,z= .tmp t:=by
      intro z q I hq hg;cases z with
      |tmp t=>exact⟨t,rfl⟩
      |const c=>
       have I:cst c=af q:=by
        simp only[fO,aj2] at I;split at I
        .cases hg
        .exact I
       have:=(Ki h I).2.2;rw[hq] at this;cases this
      |func g=>simp only[fO,ak] at I;subst I;cases hq
      |global g=>
       simp only[fO] at I;split at I
       .cases I;cases hq
       .cases I
     obtain⟨t,rfl⟩:=tmp x u hu U hc3;obtain⟨t',rfl⟩:=tmp y v hv M Z;have same:t=t'->bT T a=bT T b:=by
      intro ht;subst ht;rw[hu] at hv;cases hv;rw[hlu] at hlv;cases hlv;rw[hpa] at hpb;cases hpb;rfl
     let J:zY:=((Jx e h).set t (af (.f (.agg (bT T a))))).set t' (af (.f (.agg (bT T b))))
     have e1:mG J (.tmp t)=af (.f (.agg (bT T a))):=by
      simp only[mG,J,PT.get_set];by_cases ht:t=t'
      .rw[aF ht,same ht]
      .rw[ay ht];simp
     have e2:mG J (.tmp t')=af (.f (.agg (bT T b))):=by simp only[mG,J,PT.get_set,bH]
     have ha:eS (.eqs neg ds (.tmp t) (.tmp t')) J H 0=af ⟨raw (.bool (PP T a b !=neg)),[],[],[],[]⟩:=by
      simp only[eS,e1,e2,Dj ds T hd a b];rfl
     have ht:=Iv hc ha;rw[hH] at ht;have Y:gQ P o (fV e h) (bC h) _:=ht.envLe (e2:=fV e h) λs z _ I=>by
      simp only[J,PT.get_set] at I;rw[<- vw];simp only[mG] at h1 h3;split at I
      .rename_i es;subst es;cases I;exact⟨yv,h3,l2⟩
      .split at I
       .rename_i es;subst es;cases I;exact⟨yu,h1,l1⟩
       .exact⟨z,I,Le.refl _⟩
     refine ⟨_,0,0,h,nx,hk,⟨⟨_,Y,λy hy=>?_,by simp[Cg.eff,t7],by simp[Cg.eff],by simp[Cg.eff],by simp[Cg.eff]⟩,λ_ _ h=>h,hinv,bW _,λ_=>⟨rfl,rfl⟩⟩⟩;simp only[cq,ak] at hy;exact hy
    .cases hk
   .cases hk
 .cases hk
theorem ao5 {con:FuncId->Option cg} {bX:TypeId->Option Ty} (hc:du P o.op=af .mkm) (hk:dW con bX (.op .mkm) e h nx K=af r):kR P o aj e h nx K r:=by
 have _:=hi;obtain⟨H,M⟩:=jM h;refine ⟨_,_,_,_,_,hk,jk.new hinv hc M (y0:=.mp (nm nx)) (rdl:=[]) (b0:=⟨0,.mp []⟩) rfl (dT.zero h) (λ_ _ he=>by cases he) (λY U d g b' I=>?_) (λY U y d g J=>?_) (by simp)⟩
 .cases I;exact jX.refl d _
 .simp only[cq,ak] at J;subst J;exact lP.refl d _
theorem al2 {con:FuncId->Option cg} {bX:TypeId->Option Ty} {x:Operand} (hc:du P o.op=af (.lenm x)) (hk:dW con bX (.op (.lenm x)) e h nx K=af r):kR P o aj e h nx K r:=by
 obtain⟨H,J⟩:=jM h;simp only[dW] at hk;split at hk
 .rename_i id hv;split at hk
  .rename_i K' V es hb;obtain⟨y,h1,h2⟩:=bM hi hv;simp only[cq,ak] at h2;subst h2;split at hk
   case isFalse=>cases hk
   rename_i hO;have hg:H.get (nm id)=af ⟨0,.mp (es.map λp=>(pN K' p.1,.f (gK V p.2)))⟩:=by rw[J,bK,hb];show af (xh.mk 0 (mpC K' V es))=_;rw[BW hO]
   exact⟨_,_,_,_,_,hk,jk.pure (k:=0) hinv hc J (y0:=raw (.int .i64 es.length)) (rdl:=[nm id]) (by simp only[eS,h1,hg,bR]) (λy I=>by simp only[cq,ak] at I;subst I;exact Le.refl _) (λn hn=>by simp only[aL] at hn;subst hn;rw[ec];exact bY.2 rfl) (λh=>by cases h)⟩
  .cases hk
 .cases hk
theorem ao9 {con:FuncId->Option cg} {bX:TypeId->Option Ty} {str ok:Bool} {z:Value} {x k:Operand} (hc:du P o.op=af (.lku str ok z x k)) (hk:dW con bX (.op (.lku str ok z x k)) e h nx K=af r):kR P o aj e h nx K r:=by
 obtain⟨H,Y⟩:=jM h;simp only[dW] at hk;split at hk
 .rename_i id KT kv hv U;split at hk
  .rename_i K' V es hb;split at hk
   .rename_i J;obtain⟨y,h1,h2⟩:=bM hi hv;obtain⟨y2,h3,h4⟩:=bM hi U;simp only[cq,ak] at h2 h4;subst h2;subst h4;simp only[av] at J;have hg:H.get (nm id)=af ⟨0,.mp (es.map λp=>(pN K' p.1,.f (gK V p.2)))⟩:=by rw[Y,bK,hb];show af (xh.mk 0 (mpC K' V es))=_;rw[BW J.2]
    obtain⟨_,hok,henc⟩:=Og J.1 kv kv;rw[henc] at h3;have hrd:∀ n∈[nm id],aN (kQ id) (ow n)=ai:=λn hn=>by simp only[aL] at hn;subst hn;rw[ec];exact bY.2 rfl
    split at hk
    .rename_i hE;split at hk
     .rename_i v M;have hzz:=(Ki h M).1;exact⟨_,_,_,_,_,hk,jk.pure (k:=0) hinv hc Y (y0:=pkV ok (raw z) aj) (rdl:=[nm id]) (by simp only[eS,h1,h3,hg,hok,bH,Um hE,tF]) (λy I=>by rw[ah9 hzz] at I;cases I;exact Le.refl _) hrd (λh=>by cases h)⟩
     .cases hk
    .split at hk
     .rename_i kv' Z zv hkv M;split at hk
      .rename_i zv' hzv;obtain⟨e1,e2⟩:=ji hkv;cases e1;subst e2;obtain⟨e3,e4⟩:=ji hzv;cases e3;subst e4;have hzz:=(Ki h M).1;simp only[cq,ak] at hzz;refine ⟨_,_,_,_,_,hk,jk.pure (k:=0) hinv hc Y (y0:=pkV ok (.f (gK _ (wC kv' es zv'))) (air kv' es)) (rdl:=[nm id]) ?_ (λy I=>by rw[ah9 (y:=.f (gK _ (wC kv' es zv'))) rfl] at I;cases I;exact Le.refl _) hrd (λh=>by cases h)⟩;simp only[eS,h1,h3,hg,hok,bH,QD J.1];unfold wC air;cases hf:wD kv' es with
       |none=>simp only[Option.map_none];rw[hzz]
       |some v=>rfl
      .cases hk
     .cases hk
   .cases hk
  .cases hk
 .cases hk
theorem ao4 {con:FuncId->Option cg} {bX:TypeId->Option Ty} {str:Bool} {x k v:Operand} (hc:du P o.op=af (.mup str x k v)) (hk:dW con bX (.op (.mup str x k v)) e h nx K=af r):kR P o aj e h nx K r:=by
 obtain⟨H,hH⟩:=jM h;simp only[dW] at hk;split at hk
 .rename_i id KT U VT vv hv Z Y;split at hk
  .rename_i K' V es hb;split at hk
   .rename_i J;simp only[av] at J;obtain⟨y,h1,h2⟩:=bM hi hv;obtain⟨y2,h3,h4⟩:=bM hi Z;obtain⟨y3,h5,h6⟩:=bM hi Y;simp only[cq,ak] at h2 h4 h6;subst h2;subst h4;subst h6;have hg:H.get (nm id)=af ⟨0,.mp (es.map λp=>(pN K' p.1,.f (gK V p.2)))⟩:=by rw[hH,bK,hb];show af (xh.mk 0 (mpC K' V es))=_;rw[BW J.2]
    obtain⟨_,hok,henc⟩:=Og J.1.1 U U;rw[henc] at h3;have hrd:∀ n∈[nm id],aN (kQ id) (ow n)=ai:=λn hn=>by simp only[aL] at hn;subst hn;rw[ec];exact bY.2 rfl
    split at hk
    .rename_i hE;exact⟨_,_,_,_,_,hk,jk.wrt (k:=0) (m:=0) (v:=.undef) (rd:=kQ id) hinv hc hH (y0:=raw undef) (b0:=⟨0,.mp [(pN KT U,.f (gK VT vv))]⟩) (rdl:=[nm id]) (by simp only[eS,h1,h3,h5,hg,hok,bH,Um hE,za]) (B:=.mp KT VT [(U,vv)]) hb (dT.zero h) (by simp) rfl (λty' l2 he=>by cases he) (λH1 H2 d g b' I=>by simp only[kC,BW (W2 J.1.1),ak] at I;subst I;exact jX.refl d _) (λH1 H2 y d g M=>by simp only[cq,ak] at M;subst M;exact lP.refl d _) hrd⟩
    .split at hk
     .rename_i kv' vv' hkv hvv;obtain⟨e1,e2⟩:=ji hkv;cases e1;subst e2;obtain⟨e3,e4⟩:=ji hvv;cases e3;subst e4;exact⟨_,_,_,_,_,hk,jk.wrt (k:=0) (m:=0) (v:=.undef) (rd:=kQ id) hinv hc hH (y0:=raw undef) (b0:=⟨0,.mp ((Ez kv' vv' es).map λp=>(pN _ p.1,.f (gK _ p.2)))⟩) (rdl:=[nm id]) (by simp only[eS,h1,h3,h5,hg,hok,bH,WZ J.1.1]) (B:=.mp _ _ (Ez kv' vv' es)) hb (dT.zero h) (by simp) rfl (λty' l2 he=>by cases he) (λH1 H2 d g b' I=>by simp only[kC,BW (W2 J.1.1),ak] at I;subst I;exact jX.refl d _) (λH1 H2 y d g M=>by simp only[cq,ak] at M;subst M;exact lP.refl d _) hrd⟩
     .cases hk
   .cases hk
  .cases hk
 .cases hk
theorem ao1 {con:FuncId->Option cg} {bX:TypeId->Option Ty} {x:Operand} (hc:du P o.op=af (.rng x)) (hk:dW con bX (.op (.rng x)) e h nx K=af r):kR P o aj e h nx K r:=by
 obtain⟨H,M⟩:=jM h;simp only[dW] at hk;split at hk
 .rename_i s hv;obtain⟨y,h1,h2⟩:=bM hi hv;simp only[cq,ak] at h2;subst h2;refine ⟨_,_,_,_,_,hk,jk.new hinv hc M (y0:=.ptr (nm nx) 0) (rdl:=[]) (b0:=⟨0,.it ⟨kG s⟩ 0⟩) (by simp only[eS,h1];rfl) (dT.zero h) (λ_ _ he=>by cases he) (λY U d g b' I=>?_) (λY U y d g J=>?_) (by simp)⟩
  .cases I;exact jX.refl d _
  .simp only[cq,ak] at J;subst J;exact lP.refl d _
 .cases hk
theorem ao2 {con:FuncId->Option cg} {bX:TypeId->Option Ty} {x:Operand} (hc:du P o.op=af (.nxt x)) (hk:dW con bX (.op (.nxt x)) e h nx K=af r):kR P o aj e h nx K r:=by
 obtain⟨H,M⟩:=jM h;simp only[dW] at hk;split at hk
 .rename_i id hv;split at hk
  .rename_i K' V es hb;split at hk
   .rename_i s p Z;obtain⟨y,h1,h2⟩:=bM hi hv;simp only[cq,ak] at h2;subst h2;have hg:H.get (nm id)=af ⟨0,.it ⟨kG s⟩ p⟩:=by rw[M,bK,hb];show af (xh.mk 0 (mpC K' V es))=_;rw[aiu Z]
    have hrd:∀ n∈[nm id],aN (kQ id) (ow n)=ai:=λn hn=>by simp only[aL] at hn;subst hn;rw[ec];exact bY.2 rfl
    rcases pw hk with ⟨hp,hk⟩|⟨hp,hk⟩
    .obtain⟨hj,hk⟩:=dY hk;have hp:=a8 hp;have e2:(⟨kG s⟩:ByteArray).data.toList[p]? =af (List.getD s p 0):=by
      show s[p]? =_;rw[aA,aB hp];rfl
     have e3:gp (List.getD s p 0).toNat 128=ai:=by
      have hj:(aO (List.getD s p 0).toNat:Int)<128:=bn hj;exact bE (Int.ofNat_lt.1 hj)
     exact⟨_,_,_,_,_,hk,jk.wrt (k:=0) (m:=0) (rd:=kQ id) hinv hc M (y0:=.tup [raw (.bool ai),raw (.int .i64 p),raw (.int .i32 (List.getD s p 0).toNat)]) (b0:=⟨0,.it ⟨kG s⟩ (p+1)⟩) (rdl:=[nm id]) (by simp only[eS,h1,hg,e2,e3,bH]) (B:=.mp itK .un [((s,aO (p+1)),())]) hb (dT.zero h) (by simp) rfl (λty' l2 he=>by cases he) (λY U d g b' I=>by cases I;exact jX.refl d _) (λY U y d g J=>by cases J;exact lP.refl d _) hrd⟩
    .have hp:s.length<=p:=Nat.not_lt.1 λq=>by rw[show gp p s.length=ai from bE q] at hp;cases hp
     have e2:(⟨kG s⟩:ByteArray).data.toList[p]? =ah:=by
      show s[p]? =_;exact bS hp
     exact⟨_,_,_,_,_,hk,jk.wrt (k:=0) (m:=0) (rd:=kQ id) hinv hc M (y0:=.tup [raw (.bool aj)]) (b0:=⟨0,.it ⟨kG s⟩ p⟩) (rdl:=[nm id]) (by simp only[eS,h1,hg,e2]) (B:=.mp itK .un [((s,aO p),())]) hb (dT.zero h) (by simp) rfl (λty' l2 he=>by cases he) (λY U d g b' I=>by cases I;exact jX.refl d _) (λY U y d g J=>by cases J;exact lP.refl d _) hrd⟩
   .cases hk
  .cases hk
 .cases hk
theorem K_op {con:FuncId->Option cg} {bX:TypeId->Option Ty} {s:Zp} (hc:du P o.op=af s) (hk:dW con bX (.op s) e h nx K=af r):kR P o s.still e h nx K r:=by
 cases s with
 |mv x=>exact K_mv hinv hi hc hk
 |pick c a b=>exact akx hinv hi hc hk
 |alloc ty z=>exact agr hinv hi hc hk
 |box ty x=>exact aok hinv hi hc hk
 |build z parts=>exact agq hinv hi hc hk
 |bsl ty sz len z parts=>exact aoj hinv hi hc hk
 |load sz ag x=>exact al0 hinv hi hc hk
 |store sz x v=>exact agn hinv hi hc hk
 |nilc x=>exact aky hinv hi hc hk
 |bin op x y=>exact aol hinv hi hc hk
 |eqs neg ds x y=>exact aog hinv hi hc hk
 |eqb neg x y=>exact aoh hinv hi hc hk
 |isnil neg x=>exact agp hinv hi hc hk
 |not x=>exact ao3 hinv hi hc hk
 |conv k x=>exact al5 hinv hi hc hk
 |mksl ty sz bytes z l c=>exact akz hinv hi hc hk
 |slc sz x lo I mx=>exact ao0 hinv hi hc hk
 |fad off x=>exact aoe hinv hi hc hk
 |fld off sz ag x=>exact aod hinv hi hc hk
 |iad sz x i=>exact aoc hinv hi hc hk
 |idx n sz ag x i=>exact aob hinv hi hc hk
 |iada n sz x i=>exact al3 hinv hi hc hk
 |ext x i=>exact aof hinv hi hc hk
 |len x=>exact aoa hinv hi hc hk
 |lens x=>exact al1 hinv hi hc hk
 |max x y=>exact ao8 hinv hi hc hk
 |min x y=>exact ao7 hinv hi hc hk
 |sidx x i=>exact akw hinv hi hc hk
 |app ty sz bytes s x=>exact aom hinv hi hc hk
 |copy sz d x=>exact al4 hinv hi hc hk
 |clr sz z x=>exact aoi hinv hi hc hk
 |mkf f caps=>exact ao6 hinv hi hc hk
 |mkm=>exact ao5 hinv hi hc hk
 |rng x=>exact ao1 hinv hi hc hk
 |nxt x=>exact ao2 hinv hi hc hk
 |lenm x=>exact al2 hinv hi hc hk
 |lku str ok z x k=>exact ao9 hinv hi hc hk
 |mup str x k v=>exact ao4 hinv hi hc hk
 |_=>simp[dW] at hk
end ops
mutual
def AV.ren (g:Nat->Nat):AV->AV
 |.f x=>.f x
 |.ptr id off=>.ptr (g id) off
 |.sl id off n=>.sl (g id) off n
 |.row id sz n=>.row (g id) sz n
 |.mp id=>.mp (g id)
 |.emp=>.emp
 |.anyb=>.anyb
 |.agg l=>.agg (AV.renL g l)
 |.tup l=>.tup (AV.renL g l)
 |.clo q l=>.clo q (AV.renL g l)
def AV.renL (g:Nat->Nat):List AV->List AV
 |[]=>[]
 |x::r=>x.ren g::AV.renL g r
end
theorem oB (g:Nat->Nat):∀ l,AV.renL g l=l.map (AV.ren g)
 |[]=>rfl
 |x::r=>by rw[AV.renL,oB g r];rfl
theorem CF (g:Nat->Nat) (x:AV):(x.ren g).isCell=x.isCell:=by cases x<;>rfl
theorem cO.renTo {φ φ':PM} {g:Nat->Nat} {O:Nat->Prop} {w:World} (hk:∀ i k,φ i=af k->φ' (g i)=af k) {x:AV} {v:Value} (h:cO φ O w x v):cO φ' O w (x.ren g) v:=by
 induction h with
 |f h=>exact .f h
 |ptr h=>exact .ptr (hk _ _ h)
 |sl h hn hc=>exact .sl (hk _ _ h) hn hc
 |row h hn hc hsh=>exact .row (hk _ _ h) hn hc hsh
 |emp=>exact .emp
 |anyb=>exact .anyb
 |mp h=>exact .mp (hk _ _ h)
 |agg hl hcl hr M=>
  simp only[AV.ren,oB];refine .agg (by simpa using hl) (λx I=>?_) λj x v I hv=>?_
  .obtain⟨y,J,rfl⟩:=di.1 I;rw[CF];exact hcl y J
  .rw[ba] at I;obtain⟨y,J,rfl⟩:=jO.1 I;exact M j y v J hv
 |tup hl hr M=>
  simp only[AV.ren,oB];refine .tup (by simpa using hl) λj x v I hv=>?_
  rw[ba] at I;obtain⟨y,J,rfl⟩:=jO.1 I;exact M j y v J hv
 |clo hl hr M=>
  simp only[AV.ren,oB];refine .clo (by simpa using hl) λj x v I hv=>?_
  rw[ba] at I;obtain⟨y,J,rfl⟩:=jO.1 I;exact M j y v J hv
theorem cO.renFrom {φ φ':PM} {g:Nat->Nat} {O:Nat->Prop} {w:World} {p:Nat->Bool} (hk:∀ i k,p i=ai->φ (g i)=af k->φ' i=af k) {z:AV} {v:Value} (h:cO φ O w z v):∀ x:AV,x.all p=ai->z=x.ren g->cO φ' O w x v:=by
 induction h with
 |f h=>intro x hp e;cases x<;>simp only[AV.ren,reduceCtorEq] at e;cases e;exact .f h
 |ptr h=>intro x hp e;cases x<;>simp only[AV.ren,reduceCtorEq] at e;cases e;exact .ptr (hk _ _ hp h)
 |sl h hn hc=>intro x hp e;cases x<;>simp only[AV.ren,reduceCtorEq] at e;cases e;exact .sl (hk _ _ hp h) hn hc
 |row h hn hc hsh=>intro x hp e;cases x<;>simp only[AV.ren,reduceCtorEq] at e;cases e;exact .row (hk _ _ hp h) hn hc hsh
 |emp=>intro x hp e;cases x<;>simp only[AV.ren,reduceCtorEq] at e;exact .emp
 |anyb=>intro x hp e;cases x<;>simp only[AV.ren,reduceCtorEq] at e;exact .anyb
 |mp h=>intro x hp e;cases x<;>simp only[AV.ren,reduceCtorEq] at e;cases e;exact .mp (hk _ _ hp h)
 |agg hl hcl hr J=>
  intro x hp e;cases x<;>simp only[AV.ren,reduceCtorEq] at e;rename_i l;cases e;rw[oB] at hl hcl hr J;refine .agg (by simpa using hl) (λx I=>?_) λj x v I hv=>?_
  .have:=hcl (x.ren g) (di.2 ⟨x,I,rfl⟩);rwa [CF] at this
  .exact J j (x.ren g) v (by rw[ba,I];rfl) hv x (ma hp x (bd I)) rfl
 |tup hl hr J=>
  intro x hp e;cases x<;>simp only[AV.ren,reduceCtorEq] at e;rename_i l;cases e;rw[oB] at hl hr J;refine .tup (by simpa using hl) λj x v I hv=>?_
  exact J j (x.ren g) v (by rw[ba,I];rfl) hv x (ma hp x (bd I)) rfl
 |clo hl hr J=>
  intro x hp e;cases x<;>simp only[AV.ren,reduceCtorEq] at e;rename_i l;cases e;rw[oB] at hl hr J;refine .clo (by simpa using hl) λj x v I hv=>?_
  exact J j (x.ren g) v (by rw[ba,I];rfl) hv x (ma hp x (bd I)) rfl
def BC.ren (g:Nat->Nat):BC->BC
 |.fz l=>.fz l
 |.mx l=>.mx (l.map (AV.ren g))
 |.mp es=>.mp (es.map λp=>(p.1,p.2.ren g))
 |.it s p=>.it s p
def xh.ren (g:Nat->Nat) (b:xh):xh:=⟨b.ty,b.c.ren g⟩
theorem jv.renTo {φ φ':PM} {g:Nat->Nat} {O O':Nat->Prop} {w:World} (hk:∀ x v,cO φ O w x v->cO φ' O' w (x.ren g) v) {b:xh} {o:Obj} (h:jv φ O w b o):jv φ' O' w (b.ren g) o:=by
 obtain⟨ty,c⟩:=b;unfold jv at h ⊢;simp only[xh.ren];cases c with
 |fz l=>
  simp only[BC.ren];obtain⟨arr,h1,h2,J⟩:=h;refine ⟨arr,h1,h2,λj x I=>?_⟩;obtain⟨a,v,c,d⟩:=J j x I;simp only[BC.get] at I;obtain⟨q,_,rfl⟩:=jO.1 I;exact⟨a,v,c,hk _ _ d⟩
 |mx l=>
  simp only[BC.ren];obtain⟨arr,h1,h2,J⟩:=h;refine ⟨arr,h1,by simpa[BC.len] using h2,λj x I=>?_⟩;simp only[BC.get,ba] at I;obtain⟨q,hq,rfl⟩:=jO.1 I;obtain⟨a,v,c,d⟩:=J j q hq;exact⟨by rw[CF];exact a,v,c,hk _ _ d⟩
 |mp es=>
  simp only[BC.ren];obtain⟨e,c,h1,h2,J⟩:=h;refine ⟨e,c,h1,by rw[h2,Ac];rfl,λj x I=>?_⟩;rw[ba] at I;obtain⟨q,hq,rfl⟩:=jO.1 I;obtain⟨m,a,b⟩:=J j q hq;exact⟨m,a,hk _ _ b⟩
 |it s p=>exact h
theorem jv.renFrom {φ φ':PM} {g:Nat->Nat} {O O':Nat->Prop} {w:World} {p:Nat->Bool} (hk:∀ x v,x.all p=ai->cO φ O w (x.ren g) v->cO φ' O' w x v) {b:xh} (hb:b.c.all p=ai) {o:Obj} (h:jv φ O w (b.ren g) o):jv φ' O' w b o:=by
 obtain⟨ty,c⟩:=b;unfold jv at h ⊢;simp only[xh.ren] at h;cases c with
 |fz l=>
  simp only[BC.ren] at h;obtain⟨arr,h1,h2,J⟩:=h;refine ⟨arr,h1,h2,λj x I=>?_⟩;obtain⟨a,v,c,d⟩:=J j x I;simp only[BC.get] at I;obtain⟨q,_,rfl⟩:=jO.1 I;exact⟨a,v,c,hk _ _ rfl d⟩
 |mx l=>
  simp only[BC.ren] at h;obtain⟨arr,h1,h2,J⟩:=h;refine ⟨arr,h1,by simpa[BC.len] using h2,λj x I=>?_⟩;simp only[BC.get] at I;obtain⟨a,v,c,d⟩:=J j (x.ren g) (by simp only[BC.get,ba,I];rfl);rw[CF] at a;exact⟨a,v,c,hk _ _ (ma hb x (bd I)) d⟩
 |mp es=>
  simp only[BC.ren] at h;obtain⟨e,c,h1,h2,J⟩:=h;refine ⟨e,c,h1,by rw[h2,Ac];rfl,λj x I=>?_⟩;obtain⟨m,a,b⟩:=J j (x.1,x.2.ren g) (by rw[ba,I];rfl);exact⟨m,a,hk _ _ (ma hb x.2 (di.2 ⟨x,bd I,rfl⟩)) b⟩
 |it s p=>exact h
end
end Go.Proofs.YthehadcddfilhaaGreatDoor.AI
